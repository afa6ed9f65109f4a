/-
  NARROWER THAN 'FOR EVERY INPUT', by the rows' own cells (each row's printed sentence says how): ChooseLeast: laid · ChooseMore: laid · ChooseTimes: laid · ChooseOwn: laid · ChooseTemps: laid · CoverMore: laid · ChooseRuns: laid.
  DERIVED. THE GIVEN ROWS OF THIS SEAT. 7 by the template 'for every input the law returns true; each argument reads behind the call as it read before'; 0 by the template 'total and deterministic' (their statements: YtmhnaeecolpfkaaGreatDoorTotals.lean).
  GIVEN WITH THE SEED: the statements are not yours to turn. If you find one false, say at which input.
  Laid BY PROGRAM, IN A SANDBOX (cutbox-rows.mjs): the forced cells as the released guide's own fill.sh prints them over the translation bbd6162062037e46… (all of the seat's roots in one cut). By AI agents, Wed Nov 11 2026. No macro, syntax, notation, axiom, sorry.
-/
import Derived.Test.YtmhnaeecolpfkaaGreatDoorChecked
import GoSem.Claim
import GoSem.ClaimJoined
import GoSem.ClaimMapViews
import Derived.JoinedTies
import Derived.KernelRfl
namespace Go.Proofs.YtmhnaeecolpfkaaGreatDoor
/- THE CELL 'sum', in the pinned program and in every row, IS THE sha256 OF THE DUMP (.gsa) THAT YtmhnaeecolpfkaaGreatDoorProg.lean LOADS. Nothing in Lean hashes anything: it is a label: what it is worth is what the hold of that sum in a sandbox is worth. -/
noncomputable def Tryz.pinned : Pinned := { name := "ytmhnaeecolpfkaagreatdoor", sum := "bbd6162062037e462afbcbd6aae1591ee7daf69658851e7f659918af049b710f", checked := Tryz.checked }
namespace Rows
def none {H : Type} : Left H := { results := [], args := [] }

/- WHAT THE LISTED PACKAGE-LEVEL VARIABLES READ AS WHEN THE CALL BEGINS. Each datum BY PROGRAM (the guide's laid-datum.mjs) off the statement by which the dump's own 'gosem.cut.vars' lays the variable. In a bare row this is a premise. The card (YtmhnaeecolpfkaaGreatDoorCards.lean) ties it to the program's text. -/
def laid_unicode_White_Space {H : Type} : DataW H := .ptr (.agg [.slice [.agg [.lit (.int .u16 9), .lit (.int .u16 13), .lit (.int .u16 1)], .agg [.lit (.int .u16 32), .lit (.int .u16 133), .lit (.int .u16 101)], .agg [.lit (.int .u16 160), .lit (.int .u16 5760), .lit (.int .u16 5600)], .agg [.lit (.int .u16 8192), .lit (.int .u16 8202), .lit (.int .u16 1)], .agg [.lit (.int .u16 8232), .lit (.int .u16 8233), .lit (.int .u16 1)], .agg [.lit (.int .u16 8239), .lit (.int .u16 8287), .lit (.int .u16 48)], .agg [.lit (.int .u16 12288), .lit (.int .u16 12288), .lit (.int .u16 1)]] [], .nil, .lit (.int .i64 2)])
def laid_strings_asciiSpace {H : Type} : DataW H := .agg [.lit (.int .u8 0), .lit (.int .u8 0), .lit (.int .u8 0), .lit (.int .u8 0), .lit (.int .u8 0), .lit (.int .u8 0), .lit (.int .u8 0), .lit (.int .u8 0), .lit (.int .u8 0), .lit (.int .u8 1), .lit (.int .u8 1), .lit (.int .u8 1), .lit (.int .u8 1), .lit (.int .u8 1), .lit (.int .u8 0), .lit (.int .u8 0), .lit (.int .u8 0), .lit (.int .u8 0), .lit (.int .u8 0), .lit (.int .u8 0), .lit (.int .u8 0), .lit (.int .u8 0), .lit (.int .u8 0), .lit (.int .u8 0), .lit (.int .u8 0), .lit (.int .u8 0), .lit (.int .u8 0), .lit (.int .u8 0), .lit (.int .u8 0), .lit (.int .u8 0), .lit (.int .u8 0), .lit (.int .u8 0), .lit (.int .u8 1), .lit (.int .u8 0), .lit (.int .u8 0), .lit (.int .u8 0), .lit (.int .u8 0), .lit (.int .u8 0), .lit (.int .u8 0), .lit (.int .u8 0), .lit (.int .u8 0), .lit (.int .u8 0), .lit (.int .u8 0), .lit (.int .u8 0), .lit (.int .u8 0), .lit (.int .u8 0), .lit (.int .u8 0), .lit (.int .u8 0), .lit (.int .u8 0), .lit (.int .u8 0), .lit (.int .u8 0), .lit (.int .u8 0), .lit (.int .u8 0), .lit (.int .u8 0), .lit (.int .u8 0), .lit (.int .u8 0), .lit (.int .u8 0), .lit (.int .u8 0), .lit (.int .u8 0), .lit (.int .u8 0), .lit (.int .u8 0), .lit (.int .u8 0), .lit (.int .u8 0), .lit (.int .u8 0), .lit (.int .u8 0), .lit (.int .u8 0), .lit (.int .u8 0), .lit (.int .u8 0), .lit (.int .u8 0), .lit (.int .u8 0), .lit (.int .u8 0), .lit (.int .u8 0), .lit (.int .u8 0), .lit (.int .u8 0), .lit (.int .u8 0), .lit (.int .u8 0), .lit (.int .u8 0), .lit (.int .u8 0), .lit (.int .u8 0), .lit (.int .u8 0), .lit (.int .u8 0), .lit (.int .u8 0), .lit (.int .u8 0), .lit (.int .u8 0), .lit (.int .u8 0), .lit (.int .u8 0), .lit (.int .u8 0), .lit (.int .u8 0), .lit (.int .u8 0), .lit (.int .u8 0), .lit (.int .u8 0), .lit (.int .u8 0), .lit (.int .u8 0), .lit (.int .u8 0), .lit (.int .u8 0), .lit (.int .u8 0), .lit (.int .u8 0), .lit (.int .u8 0), .lit (.int .u8 0), .lit (.int .u8 0), .lit (.int .u8 0), .lit (.int .u8 0), .lit (.int .u8 0), .lit (.int .u8 0), .lit (.int .u8 0), .lit (.int .u8 0), .lit (.int .u8 0), .lit (.int .u8 0), .lit (.int .u8 0), .lit (.int .u8 0), .lit (.int .u8 0), .lit (.int .u8 0), .lit (.int .u8 0), .lit (.int .u8 0), .lit (.int .u8 0), .lit (.int .u8 0), .lit (.int .u8 0), .lit (.int .u8 0), .lit (.int .u8 0), .lit (.int .u8 0), .lit (.int .u8 0), .lit (.int .u8 0), .lit (.int .u8 0), .lit (.int .u8 0), .lit (.int .u8 0), .lit (.int .u8 0), .lit (.int .u8 0), .lit (.int .u8 0), .lit (.int .u8 0), .lit (.int .u8 0), .lit (.int .u8 0), .lit (.int .u8 0), .lit (.int .u8 0), .lit (.int .u8 0), .lit (.int .u8 0), .lit (.int .u8 0), .lit (.int .u8 0), .lit (.int .u8 0), .lit (.int .u8 0), .lit (.int .u8 0), .lit (.int .u8 0), .lit (.int .u8 0), .lit (.int .u8 0), .lit (.int .u8 0), .lit (.int .u8 0), .lit (.int .u8 0), .lit (.int .u8 0), .lit (.int .u8 0), .lit (.int .u8 0), .lit (.int .u8 0), .lit (.int .u8 0), .lit (.int .u8 0), .lit (.int .u8 0), .lit (.int .u8 0), .lit (.int .u8 0), .lit (.int .u8 0), .lit (.int .u8 0), .lit (.int .u8 0), .lit (.int .u8 0), .lit (.int .u8 0), .lit (.int .u8 0), .lit (.int .u8 0), .lit (.int .u8 0), .lit (.int .u8 0), .lit (.int .u8 0), .lit (.int .u8 0), .lit (.int .u8 0), .lit (.int .u8 0), .lit (.int .u8 0), .lit (.int .u8 0), .lit (.int .u8 0), .lit (.int .u8 0), .lit (.int .u8 0), .lit (.int .u8 0), .lit (.int .u8 0), .lit (.int .u8 0), .lit (.int .u8 0), .lit (.int .u8 0), .lit (.int .u8 0), .lit (.int .u8 0), .lit (.int .u8 0), .lit (.int .u8 0), .lit (.int .u8 0), .lit (.int .u8 0), .lit (.int .u8 0), .lit (.int .u8 0), .lit (.int .u8 0), .lit (.int .u8 0), .lit (.int .u8 0), .lit (.int .u8 0), .lit (.int .u8 0), .lit (.int .u8 0), .lit (.int .u8 0), .lit (.int .u8 0), .lit (.int .u8 0), .lit (.int .u8 0), .lit (.int .u8 0), .lit (.int .u8 0), .lit (.int .u8 0), .lit (.int .u8 0), .lit (.int .u8 0), .lit (.int .u8 0), .lit (.int .u8 0), .lit (.int .u8 0), .lit (.int .u8 0), .lit (.int .u8 0), .lit (.int .u8 0), .lit (.int .u8 0), .lit (.int .u8 0), .lit (.int .u8 0), .lit (.int .u8 0), .lit (.int .u8 0), .lit (.int .u8 0), .lit (.int .u8 0), .lit (.int .u8 0), .lit (.int .u8 0), .lit (.int .u8 0), .lit (.int .u8 0), .lit (.int .u8 0), .lit (.int .u8 0), .lit (.int .u8 0), .lit (.int .u8 0), .lit (.int .u8 0), .lit (.int .u8 0), .lit (.int .u8 0), .lit (.int .u8 0), .lit (.int .u8 0), .lit (.int .u8 0), .lit (.int .u8 0), .lit (.int .u8 0), .lit (.int .u8 0), .lit (.int .u8 0), .lit (.int .u8 0), .lit (.int .u8 0), .lit (.int .u8 0), .lit (.int .u8 0), .lit (.int .u8 0), .lit (.int .u8 0), .lit (.int .u8 0), .lit (.int .u8 0), .lit (.int .u8 0), .lit (.int .u8 0), .lit (.int .u8 0), .lit (.int .u8 0), .lit (.int .u8 0), .lit (.int .u8 0), .lit (.int .u8 0), .lit (.int .u8 0), .lit (.int .u8 0), .lit (.int .u8 0), .lit (.int .u8 0), .lit (.int .u8 0), .lit (.int .u8 0), .lit (.int .u8 0), .lit (.int .u8 0), .lit (.int .u8 0)]

/-- 'jacquardlaw08.ChooseLeast': WHATEVER THE INPUT: true; the input reads as it did. -/
def chooseLeastSpec : ChangeSpec := { name := "chooseLeast", fn := fun _ => fun
  | [d1, d2, d3] => { results := [.lit (.bool true)], args := [d1, d2, d3] }
  | _ => none }
def chooseLeastRow : OpenClaim := { program := "ytmhnaeecolpfkaagreatdoor", sum := "bbd6162062037e462afbcbd6aae1591ee7daf69658851e7f659918af049b710f", func := "jacquard/jacquardlaw08.ChooseLeast", spec := "chooseLeast", unfollowed := true, recurses := true, named := ["strings.asciiSpace", "unicode.White_Space"], plainKeys := false, apart := false, laid := [("unicode.White_Space", laid_unicode_White_Space), ("strings.asciiSpace", laid_strings_asciiSpace)] }
def ChooseLeastSaid : Prop := chooseLeastRow.holds Tryz.pinned (OpenSpec.ofChange chooseLeastSpec)

/-- ITS FALSE NEIGHBOUR: 'it returns false'. Refute it at one input. -/
def chooseLeastWrong : ChangeSpec := { name := "chooseLeast", fn := fun _ => fun
  | [d1, d2, d3] => { results := [.lit (.bool false)], args := [d1, d2, d3] }
  | _ => none }
def ChooseLeastWrongFalsely : Prop := chooseLeastRow.holds Tryz.pinned (OpenSpec.ofChange chooseLeastWrong)

/-- 'jacquardlaw08.ChooseMore': WHATEVER THE INPUT: true; the input reads as it did. -/
def chooseMoreSpec : ChangeSpec := { name := "chooseMore", fn := fun _ => fun
  | [d1, d2, d3] => { results := [.lit (.bool true)], args := [d1, d2, d3] }
  | _ => none }
def chooseMoreRow : OpenClaim := { program := "ytmhnaeecolpfkaagreatdoor", sum := "bbd6162062037e462afbcbd6aae1591ee7daf69658851e7f659918af049b710f", func := "jacquard/jacquardlaw08.ChooseMore", spec := "chooseMore", unfollowed := true, recurses := true, named := ["strings.asciiSpace", "unicode.White_Space"], plainKeys := false, apart := false, laid := [("unicode.White_Space", laid_unicode_White_Space), ("strings.asciiSpace", laid_strings_asciiSpace)] }
def ChooseMoreSaid : Prop := chooseMoreRow.holds Tryz.pinned (OpenSpec.ofChange chooseMoreSpec)

/-- ITS FALSE NEIGHBOUR: 'it returns false'. Refute it at one input. -/
def chooseMoreWrong : ChangeSpec := { name := "chooseMore", fn := fun _ => fun
  | [d1, d2, d3] => { results := [.lit (.bool false)], args := [d1, d2, d3] }
  | _ => none }
def ChooseMoreWrongFalsely : Prop := chooseMoreRow.holds Tryz.pinned (OpenSpec.ofChange chooseMoreWrong)

/-- 'jacquardlaw08.ChooseTimes': WHATEVER THE INPUT: true; the input reads as it did. -/
def chooseTimesSpec : ChangeSpec := { name := "chooseTimes", fn := fun _ => fun
  | [d1, d2, d3] => { results := [.lit (.bool true)], args := [d1, d2, d3] }
  | _ => none }
def chooseTimesRow : OpenClaim := { program := "ytmhnaeecolpfkaagreatdoor", sum := "bbd6162062037e462afbcbd6aae1591ee7daf69658851e7f659918af049b710f", func := "jacquard/jacquardlaw08.ChooseTimes", spec := "chooseTimes", unfollowed := true, recurses := true, named := ["strings.asciiSpace", "unicode.White_Space"], plainKeys := false, apart := false, laid := [("unicode.White_Space", laid_unicode_White_Space), ("strings.asciiSpace", laid_strings_asciiSpace)] }
def ChooseTimesSaid : Prop := chooseTimesRow.holds Tryz.pinned (OpenSpec.ofChange chooseTimesSpec)

/-- ITS FALSE NEIGHBOUR: 'it returns false'. Refute it at one input. -/
def chooseTimesWrong : ChangeSpec := { name := "chooseTimes", fn := fun _ => fun
  | [d1, d2, d3] => { results := [.lit (.bool false)], args := [d1, d2, d3] }
  | _ => none }
def ChooseTimesWrongFalsely : Prop := chooseTimesRow.holds Tryz.pinned (OpenSpec.ofChange chooseTimesWrong)

/-- 'jacquardlaw08.ChooseOwn': WHATEVER THE INPUT: true; the input reads as it did. -/
def chooseOwnSpec : ChangeSpec := { name := "chooseOwn", fn := fun _ => fun
  | [d1, d2] => { results := [.lit (.bool true)], args := [d1, d2] }
  | _ => none }
def chooseOwnRow : OpenClaim := { program := "ytmhnaeecolpfkaagreatdoor", sum := "bbd6162062037e462afbcbd6aae1591ee7daf69658851e7f659918af049b710f", func := "jacquard/jacquardlaw08.ChooseOwn", spec := "chooseOwn", unfollowed := true, recurses := true, named := ["strings.asciiSpace", "unicode.White_Space"], plainKeys := false, apart := false, laid := [("unicode.White_Space", laid_unicode_White_Space), ("strings.asciiSpace", laid_strings_asciiSpace)] }
def ChooseOwnSaid : Prop := chooseOwnRow.holds Tryz.pinned (OpenSpec.ofChange chooseOwnSpec)

/-- ITS FALSE NEIGHBOUR: 'it returns false'. Refute it at one input. -/
def chooseOwnWrong : ChangeSpec := { name := "chooseOwn", fn := fun _ => fun
  | [d1, d2] => { results := [.lit (.bool false)], args := [d1, d2] }
  | _ => none }
def ChooseOwnWrongFalsely : Prop := chooseOwnRow.holds Tryz.pinned (OpenSpec.ofChange chooseOwnWrong)

/-- 'jacquardlaw08.ChooseTemps': WHATEVER THE INPUT: true; the input reads as it did. -/
def chooseTempsSpec : ChangeSpec := { name := "chooseTemps", fn := fun _ => fun
  | [d1, d2] => { results := [.lit (.bool true)], args := [d1, d2] }
  | _ => none }
def chooseTempsRow : OpenClaim := { program := "ytmhnaeecolpfkaagreatdoor", sum := "bbd6162062037e462afbcbd6aae1591ee7daf69658851e7f659918af049b710f", func := "jacquard/jacquardlaw08.ChooseTemps", spec := "chooseTemps", unfollowed := true, recurses := true, named := ["strings.asciiSpace", "unicode.White_Space"], plainKeys := false, apart := false, laid := [("unicode.White_Space", laid_unicode_White_Space), ("strings.asciiSpace", laid_strings_asciiSpace)] }
def ChooseTempsSaid : Prop := chooseTempsRow.holds Tryz.pinned (OpenSpec.ofChange chooseTempsSpec)

/-- ITS FALSE NEIGHBOUR: 'it returns false'. Refute it at one input. -/
def chooseTempsWrong : ChangeSpec := { name := "chooseTemps", fn := fun _ => fun
  | [d1, d2] => { results := [.lit (.bool false)], args := [d1, d2] }
  | _ => none }
def ChooseTempsWrongFalsely : Prop := chooseTempsRow.holds Tryz.pinned (OpenSpec.ofChange chooseTempsWrong)

/-- 'jacquardlaw09.CoverMore': WHATEVER THE INPUT: true; the input reads as it did. -/
def coverMoreSpec : ChangeSpec := { name := "coverMore", fn := fun _ => fun
  | [d1, d2] => { results := [.lit (.bool true)], args := [d1, d2] }
  | _ => none }
def coverMoreRow : OpenClaim := { program := "ytmhnaeecolpfkaagreatdoor", sum := "bbd6162062037e462afbcbd6aae1591ee7daf69658851e7f659918af049b710f", func := "jacquard/jacquardlaw09.CoverMore", spec := "coverMore", unfollowed := true, recurses := true, named := ["strings.asciiSpace", "unicode.White_Space"], plainKeys := false, apart := false, laid := [("unicode.White_Space", laid_unicode_White_Space), ("strings.asciiSpace", laid_strings_asciiSpace)] }
def CoverMoreSaid : Prop := coverMoreRow.holds Tryz.pinned (OpenSpec.ofChange coverMoreSpec)

/-- ITS FALSE NEIGHBOUR: 'it returns false'. Refute it at one input. -/
def coverMoreWrong : ChangeSpec := { name := "coverMore", fn := fun _ => fun
  | [d1, d2] => { results := [.lit (.bool false)], args := [d1, d2] }
  | _ => none }
def CoverMoreWrongFalsely : Prop := coverMoreRow.holds Tryz.pinned (OpenSpec.ofChange coverMoreWrong)

/-- 'jacquardlaw08.ChooseRuns': WHATEVER THE INPUT: true; the input reads as it did. -/
def chooseRunsSpec : ChangeSpec := { name := "chooseRuns", fn := fun _ => fun
  | [d1, d2, d3] => { results := [.lit (.bool true)], args := [d1, d2, d3] }
  | _ => none }
def chooseRunsRow : OpenClaim := { program := "ytmhnaeecolpfkaagreatdoor", sum := "bbd6162062037e462afbcbd6aae1591ee7daf69658851e7f659918af049b710f", func := "jacquard/jacquardlaw08.ChooseRuns", spec := "chooseRuns", unfollowed := true, recurses := true, named := ["strings.asciiSpace", "unicode.White_Space"], plainKeys := false, apart := false, laid := [("unicode.White_Space", laid_unicode_White_Space), ("strings.asciiSpace", laid_strings_asciiSpace)] }
def ChooseRunsSaid : Prop := chooseRunsRow.holds Tryz.pinned (OpenSpec.ofChange chooseRunsSpec)

/-- ITS FALSE NEIGHBOUR: 'it returns false'. Refute it at one input. -/
def chooseRunsWrong : ChangeSpec := { name := "chooseRuns", fn := fun _ => fun
  | [d1, d2, d3] => { results := [.lit (.bool false)], args := [d1, d2, d3] }
  | _ => none }
def ChooseRunsWrongFalsely : Prop := chooseRunsRow.holds Tryz.pinned (OpenSpec.ofChange chooseRunsWrong)

/- THE SECOND FORM. 'bulk': how many values and letters a reading holds, each counted each time it is reached (what is shared counts as often as it is met; a slice's spare places count too). A statement '..UptoSaid' is the law's where the arguments, and the package variables that the reading takes, are together of bulk at most 1048576: NARROWER than '..Said'. Prove '..Said' where nothing that the law and all that it calls make is longer than what came in: it says more and counts as full. Else prove '..UptoSaid'. A law counts once. -/
mutual
def uptoBulk {H : Type} : DataW H → Nat
  | .lit (.string bytes) => bytes.length + 1
  | .lit _ => 1
  | .nil => 1
  | .ptr d => uptoBulk d + 1
  | .slice elems spare => uptoBulkAll elems + uptoBulkAll spare + 1
  | .agg parts => uptoBulkAll parts + 1
  | .iface _ d => uptoBulk d + 1
  | .map entries => uptoBulkEntries entries + 1
  | .held _ => 1
def uptoBulkAll {H : Type} : List (DataW H) → Nat
  | [] => 0
  | d :: r => uptoBulk d + uptoBulkAll r
def uptoBulkEntries {H : Type} : List (Lit × DataW H) → Nat
  | [] => 0
  | x :: r => uptoBulkEntry x + uptoBulkEntries r
def uptoBulkEntry {H : Type} : Lit × DataW H → Nat
  | (.string bytes, d) => bytes.length + uptoBulk d + 1
  | (_, d) => uptoBulk d + 1
 end
def uptoSmall : (H : Type) → List (DataW H) → Bool := fun _ ds => decide (uptoBulkAll ds ≤ 1048576)
def OpenSpec.upto (s : _root_.Go.ChangeSpec) : _root_.Go.OpenSpec := { _root_.Go.OpenSpec.ofChange s with cond := some uptoSmall }

/-- 'jacquardlaw08.ChooseLeast', WHERE WHAT IT READS IS OF BULK AT MOST 1048576: true; the input reads as it did. -/
def chooseLeastUptoRow : OpenClaim := { program := "ytmhnaeecolpfkaagreatdoor", sum := "bbd6162062037e462afbcbd6aae1591ee7daf69658851e7f659918af049b710f", func := "jacquard/jacquardlaw08.ChooseLeast", spec := "chooseLeast", unfollowed := true, recurses := true, named := ["strings.asciiSpace", "unicode.White_Space"], plainKeys := false, apart := false, laid := [("unicode.White_Space", laid_unicode_White_Space), ("strings.asciiSpace", laid_strings_asciiSpace)], narrowed := true }
def ChooseLeastUptoSaid : Prop := chooseLeastUptoRow.holds Tryz.pinned (OpenSpec.upto chooseLeastSpec)

/-- 'jacquardlaw08.ChooseMore', WHERE WHAT IT READS IS OF BULK AT MOST 1048576: true; the input reads as it did. -/
def chooseMoreUptoRow : OpenClaim := { program := "ytmhnaeecolpfkaagreatdoor", sum := "bbd6162062037e462afbcbd6aae1591ee7daf69658851e7f659918af049b710f", func := "jacquard/jacquardlaw08.ChooseMore", spec := "chooseMore", unfollowed := true, recurses := true, named := ["strings.asciiSpace", "unicode.White_Space"], plainKeys := false, apart := false, laid := [("unicode.White_Space", laid_unicode_White_Space), ("strings.asciiSpace", laid_strings_asciiSpace)], narrowed := true }
def ChooseMoreUptoSaid : Prop := chooseMoreUptoRow.holds Tryz.pinned (OpenSpec.upto chooseMoreSpec)

/-- 'jacquardlaw08.ChooseTimes', WHERE WHAT IT READS IS OF BULK AT MOST 1048576: true; the input reads as it did. -/
def chooseTimesUptoRow : OpenClaim := { program := "ytmhnaeecolpfkaagreatdoor", sum := "bbd6162062037e462afbcbd6aae1591ee7daf69658851e7f659918af049b710f", func := "jacquard/jacquardlaw08.ChooseTimes", spec := "chooseTimes", unfollowed := true, recurses := true, named := ["strings.asciiSpace", "unicode.White_Space"], plainKeys := false, apart := false, laid := [("unicode.White_Space", laid_unicode_White_Space), ("strings.asciiSpace", laid_strings_asciiSpace)], narrowed := true }
def ChooseTimesUptoSaid : Prop := chooseTimesUptoRow.holds Tryz.pinned (OpenSpec.upto chooseTimesSpec)

/-- 'jacquardlaw08.ChooseOwn', WHERE WHAT IT READS IS OF BULK AT MOST 1048576: true; the input reads as it did. -/
def chooseOwnUptoRow : OpenClaim := { program := "ytmhnaeecolpfkaagreatdoor", sum := "bbd6162062037e462afbcbd6aae1591ee7daf69658851e7f659918af049b710f", func := "jacquard/jacquardlaw08.ChooseOwn", spec := "chooseOwn", unfollowed := true, recurses := true, named := ["strings.asciiSpace", "unicode.White_Space"], plainKeys := false, apart := false, laid := [("unicode.White_Space", laid_unicode_White_Space), ("strings.asciiSpace", laid_strings_asciiSpace)], narrowed := true }
def ChooseOwnUptoSaid : Prop := chooseOwnUptoRow.holds Tryz.pinned (OpenSpec.upto chooseOwnSpec)

/-- 'jacquardlaw08.ChooseTemps', WHERE WHAT IT READS IS OF BULK AT MOST 1048576: true; the input reads as it did. -/
def chooseTempsUptoRow : OpenClaim := { program := "ytmhnaeecolpfkaagreatdoor", sum := "bbd6162062037e462afbcbd6aae1591ee7daf69658851e7f659918af049b710f", func := "jacquard/jacquardlaw08.ChooseTemps", spec := "chooseTemps", unfollowed := true, recurses := true, named := ["strings.asciiSpace", "unicode.White_Space"], plainKeys := false, apart := false, laid := [("unicode.White_Space", laid_unicode_White_Space), ("strings.asciiSpace", laid_strings_asciiSpace)], narrowed := true }
def ChooseTempsUptoSaid : Prop := chooseTempsUptoRow.holds Tryz.pinned (OpenSpec.upto chooseTempsSpec)

/-- 'jacquardlaw09.CoverMore', WHERE WHAT IT READS IS OF BULK AT MOST 1048576: true; the input reads as it did. -/
def coverMoreUptoRow : OpenClaim := { program := "ytmhnaeecolpfkaagreatdoor", sum := "bbd6162062037e462afbcbd6aae1591ee7daf69658851e7f659918af049b710f", func := "jacquard/jacquardlaw09.CoverMore", spec := "coverMore", unfollowed := true, recurses := true, named := ["strings.asciiSpace", "unicode.White_Space"], plainKeys := false, apart := false, laid := [("unicode.White_Space", laid_unicode_White_Space), ("strings.asciiSpace", laid_strings_asciiSpace)], narrowed := true }
def CoverMoreUptoSaid : Prop := coverMoreUptoRow.holds Tryz.pinned (OpenSpec.upto coverMoreSpec)

/-- 'jacquardlaw08.ChooseRuns', WHERE WHAT IT READS IS OF BULK AT MOST 1048576: true; the input reads as it did. -/
def chooseRunsUptoRow : OpenClaim := { program := "ytmhnaeecolpfkaagreatdoor", sum := "bbd6162062037e462afbcbd6aae1591ee7daf69658851e7f659918af049b710f", func := "jacquard/jacquardlaw08.ChooseRuns", spec := "chooseRuns", unfollowed := true, recurses := true, named := ["strings.asciiSpace", "unicode.White_Space"], plainKeys := false, apart := false, laid := [("unicode.White_Space", laid_unicode_White_Space), ("strings.asciiSpace", laid_strings_asciiSpace)], narrowed := true }
def ChooseRunsUptoSaid : Prop := chooseRunsUptoRow.holds Tryz.pinned (OpenSpec.upto chooseRunsSpec)

end Rows
end Go.Proofs.YtmhnaeecolpfkaaGreatDoor
