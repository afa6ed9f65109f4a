/-
  No cell of these rows narrows 'for every input' (looked for: loops, veiled, ifaces, maps, wideKeys, modest, calm, conditions, laid).
  DERIVED. THE GIVEN ROWS OF THIS SEAT. 10 by the template 'for every input the law returns true; each argument reads behind the call as it read before'; 0 by the template 'total and deterministic' (their statements: YtfelpjfopgiabaaTotals.lean).
  GIVEN WITH THE SEED: the statements are not yours to turn. If you find one false, say at which input.
  Laid BY PROGRAM, IN A SANDBOX (cutbox-rows.mjs): the forced cells as the released guide's own fill.sh prints them over the translation cbdf3ea793ef3394… (all of the seat's roots in one cut). By AI agents, Wed Nov 11 2026. No macro, syntax, notation, axiom, sorry.
-/
import Derived.Test.YtfelpjfopgiabaaChecked
import GoSem.Claim
import GoSem.ClaimJoined
import GoSem.ClaimMapViews
import Derived.JoinedTies
import Derived.KernelRfl
namespace Go.Proofs.Ytfelpjfopgiabaa
/- THE CELL 'sum', in the pinned program and in every row, IS THE sha256 OF THE DUMP (.gsa) THAT YtfelpjfopgiabaaProg.lean LOADS. Nothing in Lean hashes anything: it is a label: what it is worth is what the hold of that sum in a sandbox is worth. -/
noncomputable def Try.pinned : Pinned := { name := "ytfelpjfopgiabaa", sum := "cbdf3ea793ef3394f826886ab6f66f0e55ad2319b51d39de0d19ad9dcdf24616", checked := Try.checked }
namespace Rows
def none {H : Type} : Left H := { results := [], args := [] }

/-- 'jacquardlaw03.CheckTells': WHATEVER THE INPUT: true; the input reads as it did. -/
def checkTellsSpec : ChangeSpec := { name := "checkTells", fn := fun _ => fun
  | [d] => { results := [.lit (.bool true)], args := [d] }
  | _ => none }
def checkTellsRow : OpenClaim := { program := "ytfelpjfopgiabaa", sum := "cbdf3ea793ef3394f826886ab6f66f0e55ad2319b51d39de0d19ad9dcdf24616", func := "jacquard/jacquardlaw03.CheckTells", spec := "checkTells", unfollowed := true, recurses := true, apart := false }
def CheckTellsSaid : Prop := checkTellsRow.holds Try.pinned (OpenSpec.ofChange checkTellsSpec)

/-- ITS FALSE NEIGHBOUR: 'it returns false'. Refute it at one input. -/
def checkTellsWrong : ChangeSpec := { name := "checkTells", fn := fun _ => fun
  | [d] => { results := [.lit (.bool false)], args := [d] }
  | _ => none }
def CheckTellsWrongFalsely : Prop := checkTellsRow.holds Try.pinned (OpenSpec.ofChange checkTellsWrong)

/-- 'jacquardlaw03.CheckTurned': WHATEVER THE INPUT: true; the input reads as it did. -/
def checkTurnedSpec : ChangeSpec := { name := "checkTurned", fn := fun _ => fun
  | [d1, d2] => { results := [.lit (.bool true)], args := [d1, d2] }
  | _ => none }
def checkTurnedRow : OpenClaim := { program := "ytfelpjfopgiabaa", sum := "cbdf3ea793ef3394f826886ab6f66f0e55ad2319b51d39de0d19ad9dcdf24616", func := "jacquard/jacquardlaw03.CheckTurned", spec := "checkTurned", unfollowed := true, recurses := true, apart := false }
def CheckTurnedSaid : Prop := checkTurnedRow.holds Try.pinned (OpenSpec.ofChange checkTurnedSpec)

/-- ITS FALSE NEIGHBOUR: 'it returns false'. Refute it at one input. -/
def checkTurnedWrong : ChangeSpec := { name := "checkTurned", fn := fun _ => fun
  | [d1, d2] => { results := [.lit (.bool false)], args := [d1, d2] }
  | _ => none }
def CheckTurnedWrongFalsely : Prop := checkTurnedRow.holds Try.pinned (OpenSpec.ofChange checkTurnedWrong)

/-- 'jacquardlaw03.CheckMade': WHATEVER THE INPUT: true; the input reads as it did. -/
def checkMadeSpec : ChangeSpec := { name := "checkMade", fn := fun _ => fun
  | [d] => { results := [.lit (.bool true)], args := [d] }
  | _ => none }
def checkMadeRow : OpenClaim := { program := "ytfelpjfopgiabaa", sum := "cbdf3ea793ef3394f826886ab6f66f0e55ad2319b51d39de0d19ad9dcdf24616", func := "jacquard/jacquardlaw03.CheckMade", spec := "checkMade", unfollowed := true, recurses := true, apart := false }
def CheckMadeSaid : Prop := checkMadeRow.holds Try.pinned (OpenSpec.ofChange checkMadeSpec)

/-- ITS FALSE NEIGHBOUR: 'it returns false'. Refute it at one input. -/
def checkMadeWrong : ChangeSpec := { name := "checkMade", fn := fun _ => fun
  | [d] => { results := [.lit (.bool false)], args := [d] }
  | _ => none }
def CheckMadeWrongFalsely : Prop := checkMadeRow.holds Try.pinned (OpenSpec.ofChange checkMadeWrong)

/-- 'jacquardlaw03.CheckValues': WHATEVER THE INPUT: true; the input reads as it did. -/
def checkValuesSpec : ChangeSpec := { name := "checkValues", fn := fun _ => fun
  | [d1, d2, d3] => { results := [.lit (.bool true)], args := [d1, d2, d3] }
  | _ => none }
def checkValuesRow : OpenClaim := { program := "ytfelpjfopgiabaa", sum := "cbdf3ea793ef3394f826886ab6f66f0e55ad2319b51d39de0d19ad9dcdf24616", func := "jacquard/jacquardlaw03.CheckValues", spec := "checkValues", unfollowed := true, recurses := true, apart := false }
def CheckValuesSaid : Prop := checkValuesRow.holds Try.pinned (OpenSpec.ofChange checkValuesSpec)

/-- ITS FALSE NEIGHBOUR: 'it returns false'. Refute it at one input. -/
def checkValuesWrong : ChangeSpec := { name := "checkValues", fn := fun _ => fun
  | [d1, d2, d3] => { results := [.lit (.bool false)], args := [d1, d2, d3] }
  | _ => none }
def CheckValuesWrongFalsely : Prop := checkValuesRow.holds Try.pinned (OpenSpec.ofChange checkValuesWrong)

/-- 'jacquardlaw03.CheckWays': WHATEVER THE INPUT: true; the input reads as it did. -/
def checkWaysSpec : ChangeSpec := { name := "checkWays", fn := fun _ => fun
  | [d1, d2] => { results := [.lit (.bool true)], args := [d1, d2] }
  | _ => none }
def checkWaysRow : OpenClaim := { program := "ytfelpjfopgiabaa", sum := "cbdf3ea793ef3394f826886ab6f66f0e55ad2319b51d39de0d19ad9dcdf24616", func := "jacquard/jacquardlaw03.CheckWays", spec := "checkWays", unfollowed := true, recurses := true, apart := false }
def CheckWaysSaid : Prop := checkWaysRow.holds Try.pinned (OpenSpec.ofChange checkWaysSpec)

/-- ITS FALSE NEIGHBOUR: 'it returns false'. Refute it at one input. -/
def checkWaysWrong : ChangeSpec := { name := "checkWays", fn := fun _ => fun
  | [d1, d2] => { results := [.lit (.bool false)], args := [d1, d2] }
  | _ => none }
def CheckWaysWrongFalsely : Prop := checkWaysRow.holds Try.pinned (OpenSpec.ofChange checkWaysWrong)

/-- 'jacquardlaw03.CheckShifted': WHATEVER THE INPUT: true; the input reads as it did. -/
def checkShiftedSpec : ChangeSpec := { name := "checkShifted", fn := fun _ => fun
  | [d1, d2] => { results := [.lit (.bool true)], args := [d1, d2] }
  | _ => none }
def checkShiftedRow : OpenClaim := { program := "ytfelpjfopgiabaa", sum := "cbdf3ea793ef3394f826886ab6f66f0e55ad2319b51d39de0d19ad9dcdf24616", func := "jacquard/jacquardlaw03.CheckShifted", spec := "checkShifted", unfollowed := true, recurses := true, apart := false }
def CheckShiftedSaid : Prop := checkShiftedRow.holds Try.pinned (OpenSpec.ofChange checkShiftedSpec)

/-- ITS FALSE NEIGHBOUR: 'it returns false'. Refute it at one input. -/
def checkShiftedWrong : ChangeSpec := { name := "checkShifted", fn := fun _ => fun
  | [d1, d2] => { results := [.lit (.bool false)], args := [d1, d2] }
  | _ => none }
def CheckShiftedWrongFalsely : Prop := checkShiftedRow.holds Try.pinned (OpenSpec.ofChange checkShiftedWrong)

/-- 'jacquardlaw03.CheckTwice': WHATEVER THE INPUT: true; the input reads as it did. -/
def checkTwiceSpec : ChangeSpec := { name := "checkTwice", fn := fun _ => fun
  | [d1, d2, d3] => { results := [.lit (.bool true)], args := [d1, d2, d3] }
  | _ => none }
def checkTwiceRow : OpenClaim := { program := "ytfelpjfopgiabaa", sum := "cbdf3ea793ef3394f826886ab6f66f0e55ad2319b51d39de0d19ad9dcdf24616", func := "jacquard/jacquardlaw03.CheckTwice", spec := "checkTwice", unfollowed := true, recurses := true, apart := false }
def CheckTwiceSaid : Prop := checkTwiceRow.holds Try.pinned (OpenSpec.ofChange checkTwiceSpec)

/-- ITS FALSE NEIGHBOUR: 'it returns false'. Refute it at one input. -/
def checkTwiceWrong : ChangeSpec := { name := "checkTwice", fn := fun _ => fun
  | [d1, d2, d3] => { results := [.lit (.bool false)], args := [d1, d2, d3] }
  | _ => none }
def CheckTwiceWrongFalsely : Prop := checkTwiceRow.holds Try.pinned (OpenSpec.ofChange checkTwiceWrong)

/-- 'jacquardlaw03.CheckReach': WHATEVER THE INPUT: true; the input reads as it did. -/
def checkReachSpec : ChangeSpec := { name := "checkReach", fn := fun _ => fun
  | [d1, d2] => { results := [.lit (.bool true)], args := [d1, d2] }
  | _ => none }
def checkReachRow : OpenClaim := { program := "ytfelpjfopgiabaa", sum := "cbdf3ea793ef3394f826886ab6f66f0e55ad2319b51d39de0d19ad9dcdf24616", func := "jacquard/jacquardlaw03.CheckReach", spec := "checkReach", unfollowed := true, recurses := true, apart := false }
def CheckReachSaid : Prop := checkReachRow.holds Try.pinned (OpenSpec.ofChange checkReachSpec)

/-- ITS FALSE NEIGHBOUR: 'it returns false'. Refute it at one input. -/
def checkReachWrong : ChangeSpec := { name := "checkReach", fn := fun _ => fun
  | [d1, d2] => { results := [.lit (.bool false)], args := [d1, d2] }
  | _ => none }
def CheckReachWrongFalsely : Prop := checkReachRow.holds Try.pinned (OpenSpec.ofChange checkReachWrong)

/-- 'jacquardlaw03.CheckMany': WHATEVER THE INPUT: true; the input reads as it did. -/
def checkManySpec : ChangeSpec := { name := "checkMany", fn := fun _ => fun
  | [d1, d2] => { results := [.lit (.bool true)], args := [d1, d2] }
  | _ => none }
def checkManyRow : OpenClaim := { program := "ytfelpjfopgiabaa", sum := "cbdf3ea793ef3394f826886ab6f66f0e55ad2319b51d39de0d19ad9dcdf24616", func := "jacquard/jacquardlaw03.CheckMany", spec := "checkMany", unfollowed := true, recurses := true, apart := false }
def CheckManySaid : Prop := checkManyRow.holds Try.pinned (OpenSpec.ofChange checkManySpec)

/-- ITS FALSE NEIGHBOUR: 'it returns false'. Refute it at one input. -/
def checkManyWrong : ChangeSpec := { name := "checkMany", fn := fun _ => fun
  | [d1, d2] => { results := [.lit (.bool false)], args := [d1, d2] }
  | _ => none }
def CheckManyWrongFalsely : Prop := checkManyRow.holds Try.pinned (OpenSpec.ofChange checkManyWrong)

/-- 'jacquardlaw03.CheckMoved': WHATEVER THE INPUT: true; the input reads as it did. -/
def checkMovedSpec : ChangeSpec := { name := "checkMoved", fn := fun _ => fun
  | [d1, d2, d3] => { results := [.lit (.bool true)], args := [d1, d2, d3] }
  | _ => none }
def checkMovedRow : OpenClaim := { program := "ytfelpjfopgiabaa", sum := "cbdf3ea793ef3394f826886ab6f66f0e55ad2319b51d39de0d19ad9dcdf24616", func := "jacquard/jacquardlaw03.CheckMoved", spec := "checkMoved", unfollowed := true, recurses := true, apart := false }
def CheckMovedSaid : Prop := checkMovedRow.holds Try.pinned (OpenSpec.ofChange checkMovedSpec)

/-- ITS FALSE NEIGHBOUR: 'it returns false'. Refute it at one input. -/
def checkMovedWrong : ChangeSpec := { name := "checkMoved", fn := fun _ => fun
  | [d1, d2, d3] => { results := [.lit (.bool false)], args := [d1, d2, d3] }
  | _ => none }
def CheckMovedWrongFalsely : Prop := checkMovedRow.holds Try.pinned (OpenSpec.ofChange checkMovedWrong)

/- THE SECOND FORM. 'bulk': how many values and letters a reading holds, each counted each time it is reached (what is shared counts as often as it is met; a slice's spare places count too). A statement '..UptoSaid' is the law's where the arguments, and the package variables that the reading takes, are together of bulk at most 1048576: NARROWER than '..Said'. Prove '..Said' where nothing that the law and all that it calls make is longer than what came in: it says more and counts as full. Else prove '..UptoSaid'. A law counts once. -/
mutual
def uptoBulk {H : Type} : DataW H → Nat
  | .lit (.string bytes) => bytes.length + 1
  | .lit _ => 1
  | .nil => 1
  | .ptr d => uptoBulk d + 1
  | .slice elems spare => uptoBulkAll elems + uptoBulkAll spare + 1
  | .agg parts => uptoBulkAll parts + 1
  | .iface _ d => uptoBulk d + 1
  | .map entries => uptoBulkEntries entries + 1
  | .held _ => 1
def uptoBulkAll {H : Type} : List (DataW H) → Nat
  | [] => 0
  | d :: r => uptoBulk d + uptoBulkAll r
def uptoBulkEntries {H : Type} : List (Lit × DataW H) → Nat
  | [] => 0
  | x :: r => uptoBulkEntry x + uptoBulkEntries r
def uptoBulkEntry {H : Type} : Lit × DataW H → Nat
  | (.string bytes, d) => bytes.length + uptoBulk d + 1
  | (_, d) => uptoBulk d + 1
 end
def uptoSmall : (H : Type) → List (DataW H) → Bool := fun _ ds => decide (uptoBulkAll ds ≤ 1048576)
def OpenSpec.upto (s : _root_.Go.ChangeSpec) : _root_.Go.OpenSpec := { _root_.Go.OpenSpec.ofChange s with cond := some uptoSmall }

/-- 'jacquardlaw03.CheckTells', WHERE WHAT IT READS IS OF BULK AT MOST 1048576: true; the input reads as it did. -/
def checkTellsUptoRow : OpenClaim := { program := "ytfelpjfopgiabaa", sum := "cbdf3ea793ef3394f826886ab6f66f0e55ad2319b51d39de0d19ad9dcdf24616", func := "jacquard/jacquardlaw03.CheckTells", spec := "checkTells", unfollowed := true, recurses := true, apart := false, narrowed := true }
def CheckTellsUptoSaid : Prop := checkTellsUptoRow.holds Try.pinned (OpenSpec.upto checkTellsSpec)

/-- 'jacquardlaw03.CheckTurned', WHERE WHAT IT READS IS OF BULK AT MOST 1048576: true; the input reads as it did. -/
def checkTurnedUptoRow : OpenClaim := { program := "ytfelpjfopgiabaa", sum := "cbdf3ea793ef3394f826886ab6f66f0e55ad2319b51d39de0d19ad9dcdf24616", func := "jacquard/jacquardlaw03.CheckTurned", spec := "checkTurned", unfollowed := true, recurses := true, apart := false, narrowed := true }
def CheckTurnedUptoSaid : Prop := checkTurnedUptoRow.holds Try.pinned (OpenSpec.upto checkTurnedSpec)

/-- 'jacquardlaw03.CheckMade', WHERE WHAT IT READS IS OF BULK AT MOST 1048576: true; the input reads as it did. -/
def checkMadeUptoRow : OpenClaim := { program := "ytfelpjfopgiabaa", sum := "cbdf3ea793ef3394f826886ab6f66f0e55ad2319b51d39de0d19ad9dcdf24616", func := "jacquard/jacquardlaw03.CheckMade", spec := "checkMade", unfollowed := true, recurses := true, apart := false, narrowed := true }
def CheckMadeUptoSaid : Prop := checkMadeUptoRow.holds Try.pinned (OpenSpec.upto checkMadeSpec)

/-- 'jacquardlaw03.CheckValues', WHERE WHAT IT READS IS OF BULK AT MOST 1048576: true; the input reads as it did. -/
def checkValuesUptoRow : OpenClaim := { program := "ytfelpjfopgiabaa", sum := "cbdf3ea793ef3394f826886ab6f66f0e55ad2319b51d39de0d19ad9dcdf24616", func := "jacquard/jacquardlaw03.CheckValues", spec := "checkValues", unfollowed := true, recurses := true, apart := false, narrowed := true }
def CheckValuesUptoSaid : Prop := checkValuesUptoRow.holds Try.pinned (OpenSpec.upto checkValuesSpec)

/-- 'jacquardlaw03.CheckWays', WHERE WHAT IT READS IS OF BULK AT MOST 1048576: true; the input reads as it did. -/
def checkWaysUptoRow : OpenClaim := { program := "ytfelpjfopgiabaa", sum := "cbdf3ea793ef3394f826886ab6f66f0e55ad2319b51d39de0d19ad9dcdf24616", func := "jacquard/jacquardlaw03.CheckWays", spec := "checkWays", unfollowed := true, recurses := true, apart := false, narrowed := true }
def CheckWaysUptoSaid : Prop := checkWaysUptoRow.holds Try.pinned (OpenSpec.upto checkWaysSpec)

/-- 'jacquardlaw03.CheckShifted', WHERE WHAT IT READS IS OF BULK AT MOST 1048576: true; the input reads as it did. -/
def checkShiftedUptoRow : OpenClaim := { program := "ytfelpjfopgiabaa", sum := "cbdf3ea793ef3394f826886ab6f66f0e55ad2319b51d39de0d19ad9dcdf24616", func := "jacquard/jacquardlaw03.CheckShifted", spec := "checkShifted", unfollowed := true, recurses := true, apart := false, narrowed := true }
def CheckShiftedUptoSaid : Prop := checkShiftedUptoRow.holds Try.pinned (OpenSpec.upto checkShiftedSpec)

/-- 'jacquardlaw03.CheckTwice', WHERE WHAT IT READS IS OF BULK AT MOST 1048576: true; the input reads as it did. -/
def checkTwiceUptoRow : OpenClaim := { program := "ytfelpjfopgiabaa", sum := "cbdf3ea793ef3394f826886ab6f66f0e55ad2319b51d39de0d19ad9dcdf24616", func := "jacquard/jacquardlaw03.CheckTwice", spec := "checkTwice", unfollowed := true, recurses := true, apart := false, narrowed := true }
def CheckTwiceUptoSaid : Prop := checkTwiceUptoRow.holds Try.pinned (OpenSpec.upto checkTwiceSpec)

/-- 'jacquardlaw03.CheckReach', WHERE WHAT IT READS IS OF BULK AT MOST 1048576: true; the input reads as it did. -/
def checkReachUptoRow : OpenClaim := { program := "ytfelpjfopgiabaa", sum := "cbdf3ea793ef3394f826886ab6f66f0e55ad2319b51d39de0d19ad9dcdf24616", func := "jacquard/jacquardlaw03.CheckReach", spec := "checkReach", unfollowed := true, recurses := true, apart := false, narrowed := true }
def CheckReachUptoSaid : Prop := checkReachUptoRow.holds Try.pinned (OpenSpec.upto checkReachSpec)

/-- 'jacquardlaw03.CheckMany', WHERE WHAT IT READS IS OF BULK AT MOST 1048576: true; the input reads as it did. -/
def checkManyUptoRow : OpenClaim := { program := "ytfelpjfopgiabaa", sum := "cbdf3ea793ef3394f826886ab6f66f0e55ad2319b51d39de0d19ad9dcdf24616", func := "jacquard/jacquardlaw03.CheckMany", spec := "checkMany", unfollowed := true, recurses := true, apart := false, narrowed := true }
def CheckManyUptoSaid : Prop := checkManyUptoRow.holds Try.pinned (OpenSpec.upto checkManySpec)

/-- 'jacquardlaw03.CheckMoved', WHERE WHAT IT READS IS OF BULK AT MOST 1048576: true; the input reads as it did. -/
def checkMovedUptoRow : OpenClaim := { program := "ytfelpjfopgiabaa", sum := "cbdf3ea793ef3394f826886ab6f66f0e55ad2319b51d39de0d19ad9dcdf24616", func := "jacquard/jacquardlaw03.CheckMoved", spec := "checkMoved", unfollowed := true, recurses := true, apart := false, narrowed := true }
def CheckMovedUptoSaid : Prop := checkMovedUptoRow.holds Try.pinned (OpenSpec.upto checkMovedSpec)

end Rows
end Go.Proofs.Ytfelpjfopgiabaa
