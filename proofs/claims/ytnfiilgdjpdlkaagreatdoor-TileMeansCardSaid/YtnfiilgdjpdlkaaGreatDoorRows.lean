/-
  NARROWER THAN 'FOR EVERY INPUT', by the rows' own cells (each row's printed sentence says how): TileMatches: laid · TileRaw: laid · TileAll: laid · TileInner: laid · TileMore: laid · TileMany: laid · TileTemps: laid · TileMeans: laid.
  DERIVED. THE GIVEN ROWS OF THIS SEAT. 8 by the template 'for every input the law returns true; each argument reads behind the call as it read before'; 0 by the template 'total and deterministic' (their statements: YtnfiilgdjpdlkaaGreatDoorTotals.lean).
  GIVEN WITH THE SEED: the statements are not yours to turn. If you find one false, say at which input.
  Laid BY PROGRAM, IN A SANDBOX (cutbox-rows.mjs): the forced cells as the released guide's own fill.sh prints them over the translation 6f4d9ab013eec9cc… (all of the seat's roots in one cut). By AI agents, Wed Nov 11 2026. No macro, syntax, notation, axiom, sorry.
-/
import Derived.Test.YtnfiilgdjpdlkaaGreatDoorChecked
import GoSem.Claim
import GoSem.ClaimJoined
import GoSem.ClaimMapViews
import Derived.JoinedTies
import Derived.KernelRfl
namespace Go.Proofs.YtnfiilgdjpdlkaaGreatDoor
/- THE CELL 'sum', in the pinned program and in every row, IS THE sha256 OF THE DUMP (.gsa) THAT YtnfiilgdjpdlkaaGreatDoorProg.lean LOADS. Nothing in Lean hashes anything: it is a label: what it is worth is what the hold of that sum in a sandbox is worth. -/
noncomputable def Tryz.pinned : Pinned := { name := "ytnfiilgdjpdlkaagreatdoor", sum := "6f4d9ab013eec9cc5525c8111dfe771c70942f1660e55c1a8d38861b835947f0", checked := Tryz.checked }
namespace Rows
def none {H : Type} : Left H := { results := [], args := [] }

/- WHAT THE LISTED PACKAGE-LEVEL VARIABLES READ AS WHEN THE CALL BEGINS. Each datum BY PROGRAM (the guide's laid-datum.mjs) off the statement by which the dump's own 'gosem.cut.vars' lays the variable. In a bare row this is a premise. The card (YtnfiilgdjpdlkaaGreatDoorCards.lean) ties it to the program's text. -/
def laid_unicode_White_Space {H : Type} : DataW H := .ptr (.agg [.slice [.agg [.lit (.int .u16 9), .lit (.int .u16 13), .lit (.int .u16 1)], .agg [.lit (.int .u16 32), .lit (.int .u16 133), .lit (.int .u16 101)], .agg [.lit (.int .u16 160), .lit (.int .u16 5760), .lit (.int .u16 5600)], .agg [.lit (.int .u16 8192), .lit (.int .u16 8202), .lit (.int .u16 1)], .agg [.lit (.int .u16 8232), .lit (.int .u16 8233), .lit (.int .u16 1)], .agg [.lit (.int .u16 8239), .lit (.int .u16 8287), .lit (.int .u16 48)], .agg [.lit (.int .u16 12288), .lit (.int .u16 12288), .lit (.int .u16 1)]] [], .nil, .lit (.int .i64 2)])
def laid_strings_asciiSpace {H : Type} : DataW H := .agg [.lit (.int .u8 0), .lit (.int .u8 0), .lit (.int .u8 0), .lit (.int .u8 0), .lit (.int .u8 0), .lit (.int .u8 0), .lit (.int .u8 0), .lit (.int .u8 0), .lit (.int .u8 0), .lit (.int .u8 1), .lit (.int .u8 1), .lit (.int .u8 1), .lit (.int .u8 1), .lit (.int .u8 1), .lit (.int .u8 0), .lit (.int .u8 0), .lit (.int .u8 0), .lit (.int .u8 0), .lit (.int .u8 0), .lit (.int .u8 0), .lit (.int .u8 0), .lit (.int .u8 0), .lit (.int .u8 0), .lit (.int .u8 0), .lit (.int .u8 0), .lit (.int .u8 0), .lit (.int .u8 0), .lit (.int .u8 0), .lit (.int .u8 0), .lit (.int .u8 0), .lit (.int .u8 0), .lit (.int .u8 0), .lit (.int .u8 1), .lit (.int .u8 0), .lit (.int .u8 0), .lit (.int .u8 0), .lit (.int .u8 0), .lit (.int .u8 0), .lit (.int .u8 0), .lit (.int .u8 0), .lit (.int .u8 0), .lit (.int .u8 0), .lit (.int .u8 0), .lit (.int .u8 0), .lit (.int .u8 0), .lit (.int .u8 0), .lit (.int .u8 0), .lit (.int .u8 0), .lit (.int .u8 0), .lit (.int .u8 0), .lit (.int .u8 0), .lit (.int .u8 0), .lit (.int .u8 0), .lit (.int .u8 0), .lit (.int .u8 0), .lit (.int .u8 0), .lit (.int .u8 0), .lit (.int .u8 0), .lit (.int .u8 0), .lit (.int .u8 0), .lit (.int .u8 0), .lit (.int .u8 0), .lit (.int .u8 0), .lit (.int .u8 0), .lit (.int .u8 0), .lit (.int .u8 0), .lit (.int .u8 0), .lit (.int .u8 0), .lit (.int .u8 0), .lit (.int .u8 0), .lit (.int .u8 0), .lit (.int .u8 0), .lit (.int .u8 0), .lit (.int .u8 0), .lit (.int .u8 0), .lit (.int .u8 0), .lit (.int .u8 0), .lit (.int .u8 0), .lit (.int .u8 0), .lit (.int .u8 0), .lit (.int .u8 0), .lit (.int .u8 0), .lit (.int .u8 0), .lit (.int .u8 0), .lit (.int .u8 0), .lit (.int .u8 0), .lit (.int .u8 0), .lit (.int .u8 0), .lit (.int .u8 0), .lit (.int .u8 0), .lit (.int .u8 0), .lit (.int .u8 0), .lit (.int .u8 0), .lit (.int .u8 0), .lit (.int .u8 0), .lit (.int .u8 0), .lit (.int .u8 0), .lit (.int .u8 0), .lit (.int .u8 0), .lit (.int .u8 0), .lit (.int .u8 0), .lit (.int .u8 0), .lit (.int .u8 0), .lit (.int .u8 0), .lit (.int .u8 0), .lit (.int .u8 0), .lit (.int .u8 0), .lit (.int .u8 0), .lit (.int .u8 0), .lit (.int .u8 0), .lit (.int .u8 0), .lit (.int .u8 0), .lit (.int .u8 0), .lit (.int .u8 0), .lit (.int .u8 0), .lit (.int .u8 0), .lit (.int .u8 0), .lit (.int .u8 0), .lit (.int .u8 0), .lit (.int .u8 0), .lit (.int .u8 0), .lit (.int .u8 0), .lit (.int .u8 0), .lit (.int .u8 0), .lit (.int .u8 0), .lit (.int .u8 0), .lit (.int .u8 0), .lit (.int .u8 0), .lit (.int .u8 0), .lit (.int .u8 0), .lit (.int .u8 0), .lit (.int .u8 0), .lit (.int .u8 0), .lit (.int .u8 0), .lit (.int .u8 0), .lit (.int .u8 0), .lit (.int .u8 0), .lit (.int .u8 0), .lit (.int .u8 0), .lit (.int .u8 0), .lit (.int .u8 0), .lit (.int .u8 0), .lit (.int .u8 0), .lit (.int .u8 0), .lit (.int .u8 0), .lit (.int .u8 0), .lit (.int .u8 0), .lit (.int .u8 0), .lit (.int .u8 0), .lit (.int .u8 0), .lit (.int .u8 0), .lit (.int .u8 0), .lit (.int .u8 0), .lit (.int .u8 0), .lit (.int .u8 0), .lit (.int .u8 0), .lit (.int .u8 0), .lit (.int .u8 0), .lit (.int .u8 0), .lit (.int .u8 0), .lit (.int .u8 0), .lit (.int .u8 0), .lit (.int .u8 0), .lit (.int .u8 0), .lit (.int .u8 0), .lit (.int .u8 0), .lit (.int .u8 0), .lit (.int .u8 0), .lit (.int .u8 0), .lit (.int .u8 0), .lit (.int .u8 0), .lit (.int .u8 0), .lit (.int .u8 0), .lit (.int .u8 0), .lit (.int .u8 0), .lit (.int .u8 0), .lit (.int .u8 0), .lit (.int .u8 0), .lit (.int .u8 0), .lit (.int .u8 0), .lit (.int .u8 0), .lit (.int .u8 0), .lit (.int .u8 0), .lit (.int .u8 0), .lit (.int .u8 0), .lit (.int .u8 0), .lit (.int .u8 0), .lit (.int .u8 0), .lit (.int .u8 0), .lit (.int .u8 0), .lit (.int .u8 0), .lit (.int .u8 0), .lit (.int .u8 0), .lit (.int .u8 0), .lit (.int .u8 0), .lit (.int .u8 0), .lit (.int .u8 0), .lit (.int .u8 0), .lit (.int .u8 0), .lit (.int .u8 0), .lit (.int .u8 0), .lit (.int .u8 0), .lit (.int .u8 0), .lit (.int .u8 0), .lit (.int .u8 0), .lit (.int .u8 0), .lit (.int .u8 0), .lit (.int .u8 0), .lit (.int .u8 0), .lit (.int .u8 0), .lit (.int .u8 0), .lit (.int .u8 0), .lit (.int .u8 0), .lit (.int .u8 0), .lit (.int .u8 0), .lit (.int .u8 0), .lit (.int .u8 0), .lit (.int .u8 0), .lit (.int .u8 0), .lit (.int .u8 0), .lit (.int .u8 0), .lit (.int .u8 0), .lit (.int .u8 0), .lit (.int .u8 0), .lit (.int .u8 0), .lit (.int .u8 0), .lit (.int .u8 0), .lit (.int .u8 0), .lit (.int .u8 0), .lit (.int .u8 0), .lit (.int .u8 0), .lit (.int .u8 0), .lit (.int .u8 0), .lit (.int .u8 0), .lit (.int .u8 0), .lit (.int .u8 0), .lit (.int .u8 0), .lit (.int .u8 0), .lit (.int .u8 0), .lit (.int .u8 0), .lit (.int .u8 0), .lit (.int .u8 0), .lit (.int .u8 0), .lit (.int .u8 0), .lit (.int .u8 0), .lit (.int .u8 0), .lit (.int .u8 0), .lit (.int .u8 0), .lit (.int .u8 0), .lit (.int .u8 0), .lit (.int .u8 0), .lit (.int .u8 0), .lit (.int .u8 0), .lit (.int .u8 0), .lit (.int .u8 0), .lit (.int .u8 0)]

/-- 'jacquardlaw06.TileMatches': WHATEVER THE INPUT: true; the input reads as it did. -/
def tileMatchesSpec : ChangeSpec := { name := "tileMatches", fn := fun _ => fun
  | [d1, d2, d3] => { results := [.lit (.bool true)], args := [d1, d2, d3] }
  | _ => none }
def tileMatchesRow : OpenClaim := { program := "ytnfiilgdjpdlkaagreatdoor", sum := "6f4d9ab013eec9cc5525c8111dfe771c70942f1660e55c1a8d38861b835947f0", func := "jacquard/jacquardlaw06.TileMatches", spec := "tileMatches", unfollowed := true, recurses := true, named := ["strings.asciiSpace", "unicode.White_Space"], apart := false, laid := [("unicode.White_Space", laid_unicode_White_Space), ("strings.asciiSpace", laid_strings_asciiSpace)] }
def TileMatchesSaid : Prop := tileMatchesRow.holds Tryz.pinned (OpenSpec.ofChange tileMatchesSpec)

/-- ITS FALSE NEIGHBOUR: 'it returns false'. Refute it at one input. -/
def tileMatchesWrong : ChangeSpec := { name := "tileMatches", fn := fun _ => fun
  | [d1, d2, d3] => { results := [.lit (.bool false)], args := [d1, d2, d3] }
  | _ => none }
def TileMatchesWrongFalsely : Prop := tileMatchesRow.holds Tryz.pinned (OpenSpec.ofChange tileMatchesWrong)

/-- 'jacquardlaw06.TileRaw': WHATEVER THE INPUT: true; the input reads as it did. -/
def tileRawSpec : ChangeSpec := { name := "tileRaw", fn := fun _ => fun
  | [d1, d2, d3] => { results := [.lit (.bool true)], args := [d1, d2, d3] }
  | _ => none }
def tileRawRow : OpenClaim := { program := "ytnfiilgdjpdlkaagreatdoor", sum := "6f4d9ab013eec9cc5525c8111dfe771c70942f1660e55c1a8d38861b835947f0", func := "jacquard/jacquardlaw06.TileRaw", spec := "tileRaw", unfollowed := true, recurses := true, named := ["strings.asciiSpace", "unicode.White_Space"], apart := false, laid := [("unicode.White_Space", laid_unicode_White_Space), ("strings.asciiSpace", laid_strings_asciiSpace)] }
def TileRawSaid : Prop := tileRawRow.holds Tryz.pinned (OpenSpec.ofChange tileRawSpec)

/-- ITS FALSE NEIGHBOUR: 'it returns false'. Refute it at one input. -/
def tileRawWrong : ChangeSpec := { name := "tileRaw", fn := fun _ => fun
  | [d1, d2, d3] => { results := [.lit (.bool false)], args := [d1, d2, d3] }
  | _ => none }
def TileRawWrongFalsely : Prop := tileRawRow.holds Tryz.pinned (OpenSpec.ofChange tileRawWrong)

/-- 'jacquardlaw06.TileAll': WHATEVER THE INPUT: true; the input reads as it did. -/
def tileAllSpec : ChangeSpec := { name := "tileAll", fn := fun _ => fun
  | [d] => { results := [.lit (.bool true)], args := [d] }
  | _ => none }
def tileAllRow : OpenClaim := { program := "ytnfiilgdjpdlkaagreatdoor", sum := "6f4d9ab013eec9cc5525c8111dfe771c70942f1660e55c1a8d38861b835947f0", func := "jacquard/jacquardlaw06.TileAll", spec := "tileAll", unfollowed := true, recurses := true, named := ["strings.asciiSpace", "unicode.White_Space"], apart := false, laid := [("unicode.White_Space", laid_unicode_White_Space), ("strings.asciiSpace", laid_strings_asciiSpace)] }
def TileAllSaid : Prop := tileAllRow.holds Tryz.pinned (OpenSpec.ofChange tileAllSpec)

/-- ITS FALSE NEIGHBOUR: 'it returns false'. Refute it at one input. -/
def tileAllWrong : ChangeSpec := { name := "tileAll", fn := fun _ => fun
  | [d] => { results := [.lit (.bool false)], args := [d] }
  | _ => none }
def TileAllWrongFalsely : Prop := tileAllRow.holds Tryz.pinned (OpenSpec.ofChange tileAllWrong)

/-- 'jacquardlaw06.TileInner': WHATEVER THE INPUT: true; the input reads as it did. -/
def tileInnerSpec : ChangeSpec := { name := "tileInner", fn := fun _ => fun
  | [d1, d2, d3] => { results := [.lit (.bool true)], args := [d1, d2, d3] }
  | _ => none }
def tileInnerRow : OpenClaim := { program := "ytnfiilgdjpdlkaagreatdoor", sum := "6f4d9ab013eec9cc5525c8111dfe771c70942f1660e55c1a8d38861b835947f0", func := "jacquard/jacquardlaw06.TileInner", spec := "tileInner", unfollowed := true, recurses := true, named := ["strings.asciiSpace", "unicode.White_Space"], apart := false, laid := [("unicode.White_Space", laid_unicode_White_Space), ("strings.asciiSpace", laid_strings_asciiSpace)] }
def TileInnerSaid : Prop := tileInnerRow.holds Tryz.pinned (OpenSpec.ofChange tileInnerSpec)

/-- ITS FALSE NEIGHBOUR: 'it returns false'. Refute it at one input. -/
def tileInnerWrong : ChangeSpec := { name := "tileInner", fn := fun _ => fun
  | [d1, d2, d3] => { results := [.lit (.bool false)], args := [d1, d2, d3] }
  | _ => none }
def TileInnerWrongFalsely : Prop := tileInnerRow.holds Tryz.pinned (OpenSpec.ofChange tileInnerWrong)

/-- 'jacquardlaw06.TileMore': WHATEVER THE INPUT: true; the input reads as it did. -/
def tileMoreSpec : ChangeSpec := { name := "tileMore", fn := fun _ => fun
  | [d1, d2, d3] => { results := [.lit (.bool true)], args := [d1, d2, d3] }
  | _ => none }
def tileMoreRow : OpenClaim := { program := "ytnfiilgdjpdlkaagreatdoor", sum := "6f4d9ab013eec9cc5525c8111dfe771c70942f1660e55c1a8d38861b835947f0", func := "jacquard/jacquardlaw06.TileMore", spec := "tileMore", unfollowed := true, recurses := true, named := ["strings.asciiSpace", "unicode.White_Space"], apart := false, laid := [("unicode.White_Space", laid_unicode_White_Space), ("strings.asciiSpace", laid_strings_asciiSpace)] }
def TileMoreSaid : Prop := tileMoreRow.holds Tryz.pinned (OpenSpec.ofChange tileMoreSpec)

/-- ITS FALSE NEIGHBOUR: 'it returns false'. Refute it at one input. -/
def tileMoreWrong : ChangeSpec := { name := "tileMore", fn := fun _ => fun
  | [d1, d2, d3] => { results := [.lit (.bool false)], args := [d1, d2, d3] }
  | _ => none }
def TileMoreWrongFalsely : Prop := tileMoreRow.holds Tryz.pinned (OpenSpec.ofChange tileMoreWrong)

/-- 'jacquardlaw06.TileMany': WHATEVER THE INPUT: true; the input reads as it did. -/
def tileManySpec : ChangeSpec := { name := "tileMany", fn := fun _ => fun
  | [d1, d2, d3] => { results := [.lit (.bool true)], args := [d1, d2, d3] }
  | _ => none }
def tileManyRow : OpenClaim := { program := "ytnfiilgdjpdlkaagreatdoor", sum := "6f4d9ab013eec9cc5525c8111dfe771c70942f1660e55c1a8d38861b835947f0", func := "jacquard/jacquardlaw06.TileMany", spec := "tileMany", unfollowed := true, recurses := true, named := ["strings.asciiSpace", "unicode.White_Space"], apart := false, laid := [("unicode.White_Space", laid_unicode_White_Space), ("strings.asciiSpace", laid_strings_asciiSpace)] }
def TileManySaid : Prop := tileManyRow.holds Tryz.pinned (OpenSpec.ofChange tileManySpec)

/-- ITS FALSE NEIGHBOUR: 'it returns false'. Refute it at one input. -/
def tileManyWrong : ChangeSpec := { name := "tileMany", fn := fun _ => fun
  | [d1, d2, d3] => { results := [.lit (.bool false)], args := [d1, d2, d3] }
  | _ => none }
def TileManyWrongFalsely : Prop := tileManyRow.holds Tryz.pinned (OpenSpec.ofChange tileManyWrong)

/-- 'jacquardlaw06.TileTemps': WHATEVER THE INPUT: true; the input reads as it did. -/
def tileTempsSpec : ChangeSpec := { name := "tileTemps", fn := fun _ => fun
  | [d1, d2, d3] => { results := [.lit (.bool true)], args := [d1, d2, d3] }
  | _ => none }
def tileTempsRow : OpenClaim := { program := "ytnfiilgdjpdlkaagreatdoor", sum := "6f4d9ab013eec9cc5525c8111dfe771c70942f1660e55c1a8d38861b835947f0", func := "jacquard/jacquardlaw06.TileTemps", spec := "tileTemps", unfollowed := true, recurses := true, named := ["strings.asciiSpace", "unicode.White_Space"], apart := false, laid := [("unicode.White_Space", laid_unicode_White_Space), ("strings.asciiSpace", laid_strings_asciiSpace)] }
def TileTempsSaid : Prop := tileTempsRow.holds Tryz.pinned (OpenSpec.ofChange tileTempsSpec)

/-- ITS FALSE NEIGHBOUR: 'it returns false'. Refute it at one input. -/
def tileTempsWrong : ChangeSpec := { name := "tileTemps", fn := fun _ => fun
  | [d1, d2, d3] => { results := [.lit (.bool false)], args := [d1, d2, d3] }
  | _ => none }
def TileTempsWrongFalsely : Prop := tileTempsRow.holds Tryz.pinned (OpenSpec.ofChange tileTempsWrong)

/-- 'jacquardlaw06.TileMeans': WHATEVER THE INPUT: true; the input reads as it did. -/
def tileMeansSpec : ChangeSpec := { name := "tileMeans", fn := fun _ => fun
  | [d1, d2, d3] => { results := [.lit (.bool true)], args := [d1, d2, d3] }
  | _ => none }
def tileMeansRow : OpenClaim := { program := "ytnfiilgdjpdlkaagreatdoor", sum := "6f4d9ab013eec9cc5525c8111dfe771c70942f1660e55c1a8d38861b835947f0", func := "jacquard/jacquardlaw06.TileMeans", spec := "tileMeans", unfollowed := true, recurses := true, named := ["strings.asciiSpace", "unicode.White_Space"], apart := false, laid := [("unicode.White_Space", laid_unicode_White_Space), ("strings.asciiSpace", laid_strings_asciiSpace)] }
def TileMeansSaid : Prop := tileMeansRow.holds Tryz.pinned (OpenSpec.ofChange tileMeansSpec)

/-- ITS FALSE NEIGHBOUR: 'it returns false'. Refute it at one input. -/
def tileMeansWrong : ChangeSpec := { name := "tileMeans", fn := fun _ => fun
  | [d1, d2, d3] => { results := [.lit (.bool false)], args := [d1, d2, d3] }
  | _ => none }
def TileMeansWrongFalsely : Prop := tileMeansRow.holds Tryz.pinned (OpenSpec.ofChange tileMeansWrong)

/- THE SECOND FORM. 'bulk': how many values and letters a reading holds, each counted each time it is reached (what is shared counts as often as it is met; a slice's spare places count too). A statement '..UptoSaid' is the law's where the arguments, and the package variables that the reading takes, are together of bulk at most 1048576: NARROWER than '..Said'. Prove '..Said' where nothing that the law and all that it calls make is longer than what came in: it says more and counts as full. Else prove '..UptoSaid'. A law counts once. -/
mutual
def uptoBulk {H : Type} : DataW H → Nat
  | .lit (.string bytes) => bytes.length + 1
  | .lit _ => 1
  | .nil => 1
  | .ptr d => uptoBulk d + 1
  | .slice elems spare => uptoBulkAll elems + uptoBulkAll spare + 1
  | .agg parts => uptoBulkAll parts + 1
  | .iface _ d => uptoBulk d + 1
  | .map entries => uptoBulkEntries entries + 1
  | .held _ => 1
def uptoBulkAll {H : Type} : List (DataW H) → Nat
  | [] => 0
  | d :: r => uptoBulk d + uptoBulkAll r
def uptoBulkEntries {H : Type} : List (Lit × DataW H) → Nat
  | [] => 0
  | x :: r => uptoBulkEntry x + uptoBulkEntries r
def uptoBulkEntry {H : Type} : Lit × DataW H → Nat
  | (.string bytes, d) => bytes.length + uptoBulk d + 1
  | (_, d) => uptoBulk d + 1
 end
def uptoSmall : (H : Type) → List (DataW H) → Bool := fun _ ds => decide (uptoBulkAll ds ≤ 1048576)
def OpenSpec.upto (s : _root_.Go.ChangeSpec) : _root_.Go.OpenSpec := { _root_.Go.OpenSpec.ofChange s with cond := some uptoSmall }

/-- 'jacquardlaw06.TileMatches', WHERE WHAT IT READS IS OF BULK AT MOST 1048576: true; the input reads as it did. -/
def tileMatchesUptoRow : OpenClaim := { program := "ytnfiilgdjpdlkaagreatdoor", sum := "6f4d9ab013eec9cc5525c8111dfe771c70942f1660e55c1a8d38861b835947f0", func := "jacquard/jacquardlaw06.TileMatches", spec := "tileMatches", unfollowed := true, recurses := true, named := ["strings.asciiSpace", "unicode.White_Space"], apart := false, laid := [("unicode.White_Space", laid_unicode_White_Space), ("strings.asciiSpace", laid_strings_asciiSpace)], narrowed := true }
def TileMatchesUptoSaid : Prop := tileMatchesUptoRow.holds Tryz.pinned (OpenSpec.upto tileMatchesSpec)

/-- 'jacquardlaw06.TileRaw', WHERE WHAT IT READS IS OF BULK AT MOST 1048576: true; the input reads as it did. -/
def tileRawUptoRow : OpenClaim := { program := "ytnfiilgdjpdlkaagreatdoor", sum := "6f4d9ab013eec9cc5525c8111dfe771c70942f1660e55c1a8d38861b835947f0", func := "jacquard/jacquardlaw06.TileRaw", spec := "tileRaw", unfollowed := true, recurses := true, named := ["strings.asciiSpace", "unicode.White_Space"], apart := false, laid := [("unicode.White_Space", laid_unicode_White_Space), ("strings.asciiSpace", laid_strings_asciiSpace)], narrowed := true }
def TileRawUptoSaid : Prop := tileRawUptoRow.holds Tryz.pinned (OpenSpec.upto tileRawSpec)

/-- 'jacquardlaw06.TileAll', WHERE WHAT IT READS IS OF BULK AT MOST 1048576: true; the input reads as it did. -/
def tileAllUptoRow : OpenClaim := { program := "ytnfiilgdjpdlkaagreatdoor", sum := "6f4d9ab013eec9cc5525c8111dfe771c70942f1660e55c1a8d38861b835947f0", func := "jacquard/jacquardlaw06.TileAll", spec := "tileAll", unfollowed := true, recurses := true, named := ["strings.asciiSpace", "unicode.White_Space"], apart := false, laid := [("unicode.White_Space", laid_unicode_White_Space), ("strings.asciiSpace", laid_strings_asciiSpace)], narrowed := true }
def TileAllUptoSaid : Prop := tileAllUptoRow.holds Tryz.pinned (OpenSpec.upto tileAllSpec)

/-- 'jacquardlaw06.TileInner', WHERE WHAT IT READS IS OF BULK AT MOST 1048576: true; the input reads as it did. -/
def tileInnerUptoRow : OpenClaim := { program := "ytnfiilgdjpdlkaagreatdoor", sum := "6f4d9ab013eec9cc5525c8111dfe771c70942f1660e55c1a8d38861b835947f0", func := "jacquard/jacquardlaw06.TileInner", spec := "tileInner", unfollowed := true, recurses := true, named := ["strings.asciiSpace", "unicode.White_Space"], apart := false, laid := [("unicode.White_Space", laid_unicode_White_Space), ("strings.asciiSpace", laid_strings_asciiSpace)], narrowed := true }
def TileInnerUptoSaid : Prop := tileInnerUptoRow.holds Tryz.pinned (OpenSpec.upto tileInnerSpec)

/-- 'jacquardlaw06.TileMore', WHERE WHAT IT READS IS OF BULK AT MOST 1048576: true; the input reads as it did. -/
def tileMoreUptoRow : OpenClaim := { program := "ytnfiilgdjpdlkaagreatdoor", sum := "6f4d9ab013eec9cc5525c8111dfe771c70942f1660e55c1a8d38861b835947f0", func := "jacquard/jacquardlaw06.TileMore", spec := "tileMore", unfollowed := true, recurses := true, named := ["strings.asciiSpace", "unicode.White_Space"], apart := false, laid := [("unicode.White_Space", laid_unicode_White_Space), ("strings.asciiSpace", laid_strings_asciiSpace)], narrowed := true }
def TileMoreUptoSaid : Prop := tileMoreUptoRow.holds Tryz.pinned (OpenSpec.upto tileMoreSpec)

/-- 'jacquardlaw06.TileMany', WHERE WHAT IT READS IS OF BULK AT MOST 1048576: true; the input reads as it did. -/
def tileManyUptoRow : OpenClaim := { program := "ytnfiilgdjpdlkaagreatdoor", sum := "6f4d9ab013eec9cc5525c8111dfe771c70942f1660e55c1a8d38861b835947f0", func := "jacquard/jacquardlaw06.TileMany", spec := "tileMany", unfollowed := true, recurses := true, named := ["strings.asciiSpace", "unicode.White_Space"], apart := false, laid := [("unicode.White_Space", laid_unicode_White_Space), ("strings.asciiSpace", laid_strings_asciiSpace)], narrowed := true }
def TileManyUptoSaid : Prop := tileManyUptoRow.holds Tryz.pinned (OpenSpec.upto tileManySpec)

/-- 'jacquardlaw06.TileTemps', WHERE WHAT IT READS IS OF BULK AT MOST 1048576: true; the input reads as it did. -/
def tileTempsUptoRow : OpenClaim := { program := "ytnfiilgdjpdlkaagreatdoor", sum := "6f4d9ab013eec9cc5525c8111dfe771c70942f1660e55c1a8d38861b835947f0", func := "jacquard/jacquardlaw06.TileTemps", spec := "tileTemps", unfollowed := true, recurses := true, named := ["strings.asciiSpace", "unicode.White_Space"], apart := false, laid := [("unicode.White_Space", laid_unicode_White_Space), ("strings.asciiSpace", laid_strings_asciiSpace)], narrowed := true }
def TileTempsUptoSaid : Prop := tileTempsUptoRow.holds Tryz.pinned (OpenSpec.upto tileTempsSpec)

/-- 'jacquardlaw06.TileMeans', WHERE WHAT IT READS IS OF BULK AT MOST 1048576: true; the input reads as it did. -/
def tileMeansUptoRow : OpenClaim := { program := "ytnfiilgdjpdlkaagreatdoor", sum := "6f4d9ab013eec9cc5525c8111dfe771c70942f1660e55c1a8d38861b835947f0", func := "jacquard/jacquardlaw06.TileMeans", spec := "tileMeans", unfollowed := true, recurses := true, named := ["strings.asciiSpace", "unicode.White_Space"], apart := false, laid := [("unicode.White_Space", laid_unicode_White_Space), ("strings.asciiSpace", laid_strings_asciiSpace)], narrowed := true }
def TileMeansUptoSaid : Prop := tileMeansUptoRow.holds Tryz.pinned (OpenSpec.upto tileMeansSpec)

end Rows
end Go.Proofs.YtnfiilgdjpdlkaaGreatDoor
