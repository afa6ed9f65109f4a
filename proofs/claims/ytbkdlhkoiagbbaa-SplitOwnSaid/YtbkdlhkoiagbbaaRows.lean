/-
  No cell of these rows narrows 'for every input' (looked for: loops, veiled, ifaces, maps, wideKeys, modest, calm, conditions, laid).
  DERIVED. THE GIVEN ROWS OF THIS SEAT. 4 by the template 'for every input the law returns true; each argument reads behind the call as it read before'; 0 by the template 'total and deterministic' (their statements: YtbkdlhkoiagbbaaTotals.lean).
  GIVEN WITH THE SEED: the statements are not yours to turn. If you find one false, say at which input.
  Laid BY PROGRAM, IN A SANDBOX (cutbox-rows.mjs): the forced cells as the released guide's own fill.sh prints them over the translation f1abd30c9e158698… (all of the seat's roots in one cut). By AI agents, Wed Nov 11 2026. No macro, syntax, notation, axiom, sorry.
-/
import Derived.Test.YtbkdlhkoiagbbaaChecked
import GoSem.Claim
import GoSem.ClaimJoined
import GoSem.ClaimMapViews
import Derived.JoinedTies
import Derived.KernelRfl
namespace Go.Proofs.Ytbkdlhkoiagbbaa
/- THE CELL 'sum', in the pinned program and in every row, IS THE sha256 OF THE DUMP (.gsa) THAT YtbkdlhkoiagbbaaProg.lean LOADS. Nothing in Lean hashes anything: it is a label: what it is worth is what the hold of that sum in a sandbox is worth. -/
noncomputable def Try.pinned : Pinned := { name := "ytbkdlhkoiagbbaa", sum := "f1abd30c9e158698781cbc725478794a537fe048868dac7466240127dc5ebdd0", checked := Try.checked }
namespace Rows
def none {H : Type} : Left H := { results := [], args := [] }

/-- 'jacquardlaw05.SplitDominates': WHATEVER THE INPUT: true; the input reads as it did. -/
def splitDominatesSpec : ChangeSpec := { name := "splitDominates", fn := fun _ => fun
  | [d] => { results := [.lit (.bool true)], args := [d] }
  | _ => none }
def splitDominatesRow : OpenClaim := { program := "ytbkdlhkoiagbbaa", sum := "f1abd30c9e158698781cbc725478794a537fe048868dac7466240127dc5ebdd0", func := "jacquard/jacquardlaw05.SplitDominates", spec := "splitDominates", unfollowed := true, recurses := true, plainKeys := false, apart := false }
def SplitDominatesSaid : Prop := splitDominatesRow.holds Try.pinned (OpenSpec.ofChange splitDominatesSpec)

/-- ITS FALSE NEIGHBOUR: 'it returns false'. Refute it at one input. -/
def splitDominatesWrong : ChangeSpec := { name := "splitDominates", fn := fun _ => fun
  | [d] => { results := [.lit (.bool false)], args := [d] }
  | _ => none }
def SplitDominatesWrongFalsely : Prop := splitDominatesRow.holds Try.pinned (OpenSpec.ofChange splitDominatesWrong)

/-- 'jacquardlaw05.SplitPhis': WHATEVER THE INPUT: true; the input reads as it did. -/
def splitPhisSpec : ChangeSpec := { name := "splitPhis", fn := fun _ => fun
  | [d] => { results := [.lit (.bool true)], args := [d] }
  | _ => none }
def splitPhisRow : OpenClaim := { program := "ytbkdlhkoiagbbaa", sum := "f1abd30c9e158698781cbc725478794a537fe048868dac7466240127dc5ebdd0", func := "jacquard/jacquardlaw05.SplitPhis", spec := "splitPhis", unfollowed := true, recurses := true, plainKeys := false, apart := false }
def SplitPhisSaid : Prop := splitPhisRow.holds Try.pinned (OpenSpec.ofChange splitPhisSpec)

/-- ITS FALSE NEIGHBOUR: 'it returns false'. Refute it at one input. -/
def splitPhisWrong : ChangeSpec := { name := "splitPhis", fn := fun _ => fun
  | [d] => { results := [.lit (.bool false)], args := [d] }
  | _ => none }
def SplitPhisWrongFalsely : Prop := splitPhisRow.holds Try.pinned (OpenSpec.ofChange splitPhisWrong)

/-- 'jacquardlaw05.SplitMany': WHATEVER THE INPUT: true; the input reads as it did. -/
def splitManySpec : ChangeSpec := { name := "splitMany", fn := fun _ => fun
  | [d] => { results := [.lit (.bool true)], args := [d] }
  | _ => none }
def splitManyRow : OpenClaim := { program := "ytbkdlhkoiagbbaa", sum := "f1abd30c9e158698781cbc725478794a537fe048868dac7466240127dc5ebdd0", func := "jacquard/jacquardlaw05.SplitMany", spec := "splitMany", unfollowed := true, recurses := true, plainKeys := false, apart := false }
def SplitManySaid : Prop := splitManyRow.holds Try.pinned (OpenSpec.ofChange splitManySpec)

/-- ITS FALSE NEIGHBOUR: 'it returns false'. Refute it at one input. -/
def splitManyWrong : ChangeSpec := { name := "splitMany", fn := fun _ => fun
  | [d] => { results := [.lit (.bool false)], args := [d] }
  | _ => none }
def SplitManyWrongFalsely : Prop := splitManyRow.holds Try.pinned (OpenSpec.ofChange splitManyWrong)

/-- 'jacquardlaw05.SplitOwn': WHATEVER THE INPUT: true; the input reads as it did. -/
def splitOwnSpec : ChangeSpec := { name := "splitOwn", fn := fun _ => fun
  | [d] => { results := [.lit (.bool true)], args := [d] }
  | _ => none }
def splitOwnRow : OpenClaim := { program := "ytbkdlhkoiagbbaa", sum := "f1abd30c9e158698781cbc725478794a537fe048868dac7466240127dc5ebdd0", func := "jacquard/jacquardlaw05.SplitOwn", spec := "splitOwn", unfollowed := true, recurses := true, plainKeys := false, apart := false }
def SplitOwnSaid : Prop := splitOwnRow.holds Try.pinned (OpenSpec.ofChange splitOwnSpec)

/-- ITS FALSE NEIGHBOUR: 'it returns false'. Refute it at one input. -/
def splitOwnWrong : ChangeSpec := { name := "splitOwn", fn := fun _ => fun
  | [d] => { results := [.lit (.bool false)], args := [d] }
  | _ => none }
def SplitOwnWrongFalsely : Prop := splitOwnRow.holds Try.pinned (OpenSpec.ofChange splitOwnWrong)

/- THE SECOND FORM. 'bulk': how many values and letters a reading holds, each counted each time it is reached (what is shared counts as often as it is met; a slice's spare places count too). A statement '..UptoSaid' is the law's where the arguments, and the package variables that the reading takes, are together of bulk at most 1048576: NARROWER than '..Said'. Prove '..Said' where nothing that the law and all that it calls make is longer than what came in: it says more and counts as full. Else prove '..UptoSaid'. A law counts once. -/
mutual
def uptoBulk {H : Type} : DataW H → Nat
  | .lit (.string bytes) => bytes.length + 1
  | .lit _ => 1
  | .nil => 1
  | .ptr d => uptoBulk d + 1
  | .slice elems spare => uptoBulkAll elems + uptoBulkAll spare + 1
  | .agg parts => uptoBulkAll parts + 1
  | .iface _ d => uptoBulk d + 1
  | .map entries => uptoBulkEntries entries + 1
  | .held _ => 1
def uptoBulkAll {H : Type} : List (DataW H) → Nat
  | [] => 0
  | d :: r => uptoBulk d + uptoBulkAll r
def uptoBulkEntries {H : Type} : List (Lit × DataW H) → Nat
  | [] => 0
  | x :: r => uptoBulkEntry x + uptoBulkEntries r
def uptoBulkEntry {H : Type} : Lit × DataW H → Nat
  | (.string bytes, d) => bytes.length + uptoBulk d + 1
  | (_, d) => uptoBulk d + 1
 end
def uptoSmall : (H : Type) → List (DataW H) → Bool := fun _ ds => decide (uptoBulkAll ds ≤ 1048576)
def OpenSpec.upto (s : _root_.Go.ChangeSpec) : _root_.Go.OpenSpec := { _root_.Go.OpenSpec.ofChange s with cond := some uptoSmall }

/-- 'jacquardlaw05.SplitDominates', WHERE WHAT IT READS IS OF BULK AT MOST 1048576: true; the input reads as it did. -/
def splitDominatesUptoRow : OpenClaim := { program := "ytbkdlhkoiagbbaa", sum := "f1abd30c9e158698781cbc725478794a537fe048868dac7466240127dc5ebdd0", func := "jacquard/jacquardlaw05.SplitDominates", spec := "splitDominates", unfollowed := true, recurses := true, plainKeys := false, apart := false, narrowed := true }
def SplitDominatesUptoSaid : Prop := splitDominatesUptoRow.holds Try.pinned (OpenSpec.upto splitDominatesSpec)

/-- 'jacquardlaw05.SplitPhis', WHERE WHAT IT READS IS OF BULK AT MOST 1048576: true; the input reads as it did. -/
def splitPhisUptoRow : OpenClaim := { program := "ytbkdlhkoiagbbaa", sum := "f1abd30c9e158698781cbc725478794a537fe048868dac7466240127dc5ebdd0", func := "jacquard/jacquardlaw05.SplitPhis", spec := "splitPhis", unfollowed := true, recurses := true, plainKeys := false, apart := false, narrowed := true }
def SplitPhisUptoSaid : Prop := splitPhisUptoRow.holds Try.pinned (OpenSpec.upto splitPhisSpec)

/-- 'jacquardlaw05.SplitMany', WHERE WHAT IT READS IS OF BULK AT MOST 1048576: true; the input reads as it did. -/
def splitManyUptoRow : OpenClaim := { program := "ytbkdlhkoiagbbaa", sum := "f1abd30c9e158698781cbc725478794a537fe048868dac7466240127dc5ebdd0", func := "jacquard/jacquardlaw05.SplitMany", spec := "splitMany", unfollowed := true, recurses := true, plainKeys := false, apart := false, narrowed := true }
def SplitManyUptoSaid : Prop := splitManyUptoRow.holds Try.pinned (OpenSpec.upto splitManySpec)

/-- 'jacquardlaw05.SplitOwn', WHERE WHAT IT READS IS OF BULK AT MOST 1048576: true; the input reads as it did. -/
def splitOwnUptoRow : OpenClaim := { program := "ytbkdlhkoiagbbaa", sum := "f1abd30c9e158698781cbc725478794a537fe048868dac7466240127dc5ebdd0", func := "jacquard/jacquardlaw05.SplitOwn", spec := "splitOwn", unfollowed := true, recurses := true, plainKeys := false, apart := false, narrowed := true }
def SplitOwnUptoSaid : Prop := splitOwnUptoRow.holds Try.pinned (OpenSpec.upto splitOwnSpec)

end Rows
end Go.Proofs.Ytbkdlhkoiagbbaa
