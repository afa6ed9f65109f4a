/-
  No cell of these rows narrows 'for every input' (looked for: loops, veiled, ifaces, maps, wideKeys, modest, calm, conditions, laid).
  DERIVED. THE GIVEN ROWS OF THIS SEAT. 9 by the template 'for every input the law returns true; each argument reads behind the call as it read before'; 0 by the template 'total and deterministic' (their statements: YtaebcebflfgdiaaTotals.lean).
  GIVEN WITH THE SEED: the statements are not yours to turn. If you find one false, say at which input.
  Laid BY PROGRAM, IN A SANDBOX (cutbox-rows.mjs): the forced cells as the released guide's own fill.sh prints them over the translation c974738fd054062f… (all of the seat's roots in one cut). By AI agents, Wed Nov 11 2026. No macro, syntax, notation, axiom, sorry.
-/
import Derived.Test.YtaebcebflfgdiaaChecked
import GoSem.Claim
import GoSem.ClaimJoined
import GoSem.ClaimMapViews
import Derived.JoinedTies
import Derived.KernelRfl
namespace Go.Proofs.Ytaebcebflfgdiaa
/- THE CELL 'sum', in the pinned program and in every row, IS THE sha256 OF THE DUMP (.gsa) THAT YtaebcebflfgdiaaProg.lean LOADS. Nothing in Lean hashes anything: it is a label: what it is worth is what the hold of that sum in a sandbox is worth. -/
noncomputable def Try.pinned : Pinned := { name := "ytaebcebflfgdiaa", sum := "c974738fd054062fd2e2fbeea765f840617e84517c6bbeee2c654e6391f8ef19", checked := Try.checked }
namespace Rows
def none {H : Type} : Left H := { results := [], args := [] }

/-- 'jacquardlaw02.GraphTells': WHATEVER THE INPUT: true; the input reads as it did. -/
def graphTellsSpec : ChangeSpec := { name := "graphTells", fn := fun _ => fun
  | [d1, d2] => { results := [.lit (.bool true)], args := [d1, d2] }
  | _ => none }
def graphTellsRow : OpenClaim := { program := "ytaebcebflfgdiaa", sum := "c974738fd054062fd2e2fbeea765f840617e84517c6bbeee2c654e6391f8ef19", func := "jacquard/jacquardlaw02.GraphTells", spec := "graphTells", unfollowed := true, recurses := true, apart := false }
def GraphTellsSaid : Prop := graphTellsRow.holds Try.pinned (OpenSpec.ofChange graphTellsSpec)

/-- ITS FALSE NEIGHBOUR: 'it returns false'. Refute it at one input. -/
def graphTellsWrong : ChangeSpec := { name := "graphTells", fn := fun _ => fun
  | [d1, d2] => { results := [.lit (.bool false)], args := [d1, d2] }
  | _ => none }
def GraphTellsWrongFalsely : Prop := graphTellsRow.holds Try.pinned (OpenSpec.ofChange graphTellsWrong)

/-- 'jacquardlaw02.GraphOrder': WHATEVER THE INPUT: true; the input reads as it did. -/
def graphOrderSpec : ChangeSpec := { name := "graphOrder", fn := fun _ => fun
  | [d] => { results := [.lit (.bool true)], args := [d] }
  | _ => none }
def graphOrderRow : OpenClaim := { program := "ytaebcebflfgdiaa", sum := "c974738fd054062fd2e2fbeea765f840617e84517c6bbeee2c654e6391f8ef19", func := "jacquard/jacquardlaw02.GraphOrder", spec := "graphOrder", unfollowed := true, recurses := true, apart := false }
def GraphOrderSaid : Prop := graphOrderRow.holds Try.pinned (OpenSpec.ofChange graphOrderSpec)

/-- ITS FALSE NEIGHBOUR: 'it returns false'. Refute it at one input. -/
def graphOrderWrong : ChangeSpec := { name := "graphOrder", fn := fun _ => fun
  | [d] => { results := [.lit (.bool false)], args := [d] }
  | _ => none }
def GraphOrderWrongFalsely : Prop := graphOrderRow.holds Try.pinned (OpenSpec.ofChange graphOrderWrong)

/-- 'jacquardlaw02.GraphIdom': WHATEVER THE INPUT: true; the input reads as it did. -/
def graphIdomSpec : ChangeSpec := { name := "graphIdom", fn := fun _ => fun
  | [d1, d2, d3] => { results := [.lit (.bool true)], args := [d1, d2, d3] }
  | _ => none }
def graphIdomRow : OpenClaim := { program := "ytaebcebflfgdiaa", sum := "c974738fd054062fd2e2fbeea765f840617e84517c6bbeee2c654e6391f8ef19", func := "jacquard/jacquardlaw02.GraphIdom", spec := "graphIdom", unfollowed := true, recurses := true, apart := false }
def GraphIdomSaid : Prop := graphIdomRow.holds Try.pinned (OpenSpec.ofChange graphIdomSpec)

/-- ITS FALSE NEIGHBOUR: 'it returns false'. Refute it at one input. -/
def graphIdomWrong : ChangeSpec := { name := "graphIdom", fn := fun _ => fun
  | [d1, d2, d3] => { results := [.lit (.bool false)], args := [d1, d2, d3] }
  | _ => none }
def GraphIdomWrongFalsely : Prop := graphIdomRow.holds Try.pinned (OpenSpec.ofChange graphIdomWrong)

/-- 'jacquardlaw02.GraphChains': WHATEVER THE INPUT: true; the input reads as it did. -/
def graphChainsSpec : ChangeSpec := { name := "graphChains", fn := fun _ => fun
  | [d1, d2, d3] => { results := [.lit (.bool true)], args := [d1, d2, d3] }
  | _ => none }
def graphChainsRow : OpenClaim := { program := "ytaebcebflfgdiaa", sum := "c974738fd054062fd2e2fbeea765f840617e84517c6bbeee2c654e6391f8ef19", func := "jacquard/jacquardlaw02.GraphChains", spec := "graphChains", unfollowed := true, recurses := true, apart := false }
def GraphChainsSaid : Prop := graphChainsRow.holds Try.pinned (OpenSpec.ofChange graphChainsSpec)

/-- ITS FALSE NEIGHBOUR: 'it returns false'. Refute it at one input. -/
def graphChainsWrong : ChangeSpec := { name := "graphChains", fn := fun _ => fun
  | [d1, d2, d3] => { results := [.lit (.bool false)], args := [d1, d2, d3] }
  | _ => none }
def GraphChainsWrongFalsely : Prop := graphChainsRow.holds Try.pinned (OpenSpec.ofChange graphChainsWrong)

/-- 'jacquardlaw02.GraphBody': WHATEVER THE INPUT: true; the input reads as it did. -/
def graphBodySpec : ChangeSpec := { name := "graphBody", fn := fun _ => fun
  | [d1, d2] => { results := [.lit (.bool true)], args := [d1, d2] }
  | _ => none }
def graphBodyRow : OpenClaim := { program := "ytaebcebflfgdiaa", sum := "c974738fd054062fd2e2fbeea765f840617e84517c6bbeee2c654e6391f8ef19", func := "jacquard/jacquardlaw02.GraphBody", spec := "graphBody", unfollowed := true, recurses := true, apart := false }
def GraphBodySaid : Prop := graphBodyRow.holds Try.pinned (OpenSpec.ofChange graphBodySpec)

/-- ITS FALSE NEIGHBOUR: 'it returns false'. Refute it at one input. -/
def graphBodyWrong : ChangeSpec := { name := "graphBody", fn := fun _ => fun
  | [d1, d2] => { results := [.lit (.bool false)], args := [d1, d2] }
  | _ => none }
def GraphBodyWrongFalsely : Prop := graphBodyRow.holds Try.pinned (OpenSpec.ofChange graphBodyWrong)

/-- 'jacquardlaw02.GraphTurns': WHATEVER THE INPUT: true; the input reads as it did. -/
def graphTurnsSpec : ChangeSpec := { name := "graphTurns", fn := fun _ => fun
  | [d] => { results := [.lit (.bool true)], args := [d] }
  | _ => none }
def graphTurnsRow : OpenClaim := { program := "ytaebcebflfgdiaa", sum := "c974738fd054062fd2e2fbeea765f840617e84517c6bbeee2c654e6391f8ef19", func := "jacquard/jacquardlaw02.GraphTurns", spec := "graphTurns", unfollowed := true, recurses := true, apart := false }
def GraphTurnsSaid : Prop := graphTurnsRow.holds Try.pinned (OpenSpec.ofChange graphTurnsSpec)

/-- ITS FALSE NEIGHBOUR: 'it returns false'. Refute it at one input. -/
def graphTurnsWrong : ChangeSpec := { name := "graphTurns", fn := fun _ => fun
  | [d] => { results := [.lit (.bool false)], args := [d] }
  | _ => none }
def GraphTurnsWrongFalsely : Prop := graphTurnsRow.holds Try.pinned (OpenSpec.ofChange graphTurnsWrong)

/-- 'jacquardlaw02.GraphPut': WHATEVER THE INPUT: true; the input reads as it did. -/
def graphPutSpec : ChangeSpec := { name := "graphPut", fn := fun _ => fun
  | [d1, d2] => { results := [.lit (.bool true)], args := [d1, d2] }
  | _ => none }
def graphPutRow : OpenClaim := { program := "ytaebcebflfgdiaa", sum := "c974738fd054062fd2e2fbeea765f840617e84517c6bbeee2c654e6391f8ef19", func := "jacquard/jacquardlaw02.GraphPut", spec := "graphPut", unfollowed := true, recurses := true, apart := false }
def GraphPutSaid : Prop := graphPutRow.holds Try.pinned (OpenSpec.ofChange graphPutSpec)

/-- ITS FALSE NEIGHBOUR: 'it returns false'. Refute it at one input. -/
def graphPutWrong : ChangeSpec := { name := "graphPut", fn := fun _ => fun
  | [d1, d2] => { results := [.lit (.bool false)], args := [d1, d2] }
  | _ => none }
def GraphPutWrongFalsely : Prop := graphPutRow.holds Try.pinned (OpenSpec.ofChange graphPutWrong)

/-- 'jacquardlaw02.GraphTree': WHATEVER THE INPUT: true; the input reads as it did. -/
def graphTreeSpec : ChangeSpec := { name := "graphTree", fn := fun _ => fun
  | [d1, d2] => { results := [.lit (.bool true)], args := [d1, d2] }
  | _ => none }
def graphTreeRow : OpenClaim := { program := "ytaebcebflfgdiaa", sum := "c974738fd054062fd2e2fbeea765f840617e84517c6bbeee2c654e6391f8ef19", func := "jacquard/jacquardlaw02.GraphTree", spec := "graphTree", unfollowed := true, recurses := true, apart := false }
def GraphTreeSaid : Prop := graphTreeRow.holds Try.pinned (OpenSpec.ofChange graphTreeSpec)

/-- ITS FALSE NEIGHBOUR: 'it returns false'. Refute it at one input. -/
def graphTreeWrong : ChangeSpec := { name := "graphTree", fn := fun _ => fun
  | [d1, d2] => { results := [.lit (.bool false)], args := [d1, d2] }
  | _ => none }
def GraphTreeWrongFalsely : Prop := graphTreeRow.holds Try.pinned (OpenSpec.ofChange graphTreeWrong)

/-- 'jacquardlaw02.GraphOf': WHATEVER THE INPUT: true; the input reads as it did. -/
def graphOfSpec : ChangeSpec := { name := "graphOf", fn := fun _ => fun
  | [d] => { results := [.lit (.bool true)], args := [d] }
  | _ => none }
def graphOfRow : OpenClaim := { program := "ytaebcebflfgdiaa", sum := "c974738fd054062fd2e2fbeea765f840617e84517c6bbeee2c654e6391f8ef19", func := "jacquard/jacquardlaw02.GraphOf", spec := "graphOf", unfollowed := true, recurses := true, apart := false }
def GraphOfSaid : Prop := graphOfRow.holds Try.pinned (OpenSpec.ofChange graphOfSpec)

/-- ITS FALSE NEIGHBOUR: 'it returns false'. Refute it at one input. -/
def graphOfWrong : ChangeSpec := { name := "graphOf", fn := fun _ => fun
  | [d] => { results := [.lit (.bool false)], args := [d] }
  | _ => none }
def GraphOfWrongFalsely : Prop := graphOfRow.holds Try.pinned (OpenSpec.ofChange graphOfWrong)

/- THE SECOND FORM. 'bulk': how many values and letters a reading holds, each counted each time it is reached (what is shared counts as often as it is met; a slice's spare places count too). A statement '..UptoSaid' is the law's where the arguments, and the package variables that the reading takes, are together of bulk at most 1048576: NARROWER than '..Said'. Prove '..Said' where nothing that the law and all that it calls make is longer than what came in: it says more and counts as full. Else prove '..UptoSaid'. A law counts once. -/
mutual
def uptoBulk {H : Type} : DataW H → Nat
  | .lit (.string bytes) => bytes.length + 1
  | .lit _ => 1
  | .nil => 1
  | .ptr d => uptoBulk d + 1
  | .slice elems spare => uptoBulkAll elems + uptoBulkAll spare + 1
  | .agg parts => uptoBulkAll parts + 1
  | .iface _ d => uptoBulk d + 1
  | .map entries => uptoBulkEntries entries + 1
  | .held _ => 1
def uptoBulkAll {H : Type} : List (DataW H) → Nat
  | [] => 0
  | d :: r => uptoBulk d + uptoBulkAll r
def uptoBulkEntries {H : Type} : List (Lit × DataW H) → Nat
  | [] => 0
  | x :: r => uptoBulkEntry x + uptoBulkEntries r
def uptoBulkEntry {H : Type} : Lit × DataW H → Nat
  | (.string bytes, d) => bytes.length + uptoBulk d + 1
  | (_, d) => uptoBulk d + 1
 end
def uptoSmall : (H : Type) → List (DataW H) → Bool := fun _ ds => decide (uptoBulkAll ds ≤ 1048576)
def OpenSpec.upto (s : _root_.Go.ChangeSpec) : _root_.Go.OpenSpec := { _root_.Go.OpenSpec.ofChange s with cond := some uptoSmall }

/-- 'jacquardlaw02.GraphTells', WHERE WHAT IT READS IS OF BULK AT MOST 1048576: true; the input reads as it did. -/
def graphTellsUptoRow : OpenClaim := { program := "ytaebcebflfgdiaa", sum := "c974738fd054062fd2e2fbeea765f840617e84517c6bbeee2c654e6391f8ef19", func := "jacquard/jacquardlaw02.GraphTells", spec := "graphTells", unfollowed := true, recurses := true, apart := false, narrowed := true }
def GraphTellsUptoSaid : Prop := graphTellsUptoRow.holds Try.pinned (OpenSpec.upto graphTellsSpec)

/-- 'jacquardlaw02.GraphOrder', WHERE WHAT IT READS IS OF BULK AT MOST 1048576: true; the input reads as it did. -/
def graphOrderUptoRow : OpenClaim := { program := "ytaebcebflfgdiaa", sum := "c974738fd054062fd2e2fbeea765f840617e84517c6bbeee2c654e6391f8ef19", func := "jacquard/jacquardlaw02.GraphOrder", spec := "graphOrder", unfollowed := true, recurses := true, apart := false, narrowed := true }
def GraphOrderUptoSaid : Prop := graphOrderUptoRow.holds Try.pinned (OpenSpec.upto graphOrderSpec)

/-- 'jacquardlaw02.GraphIdom', WHERE WHAT IT READS IS OF BULK AT MOST 1048576: true; the input reads as it did. -/
def graphIdomUptoRow : OpenClaim := { program := "ytaebcebflfgdiaa", sum := "c974738fd054062fd2e2fbeea765f840617e84517c6bbeee2c654e6391f8ef19", func := "jacquard/jacquardlaw02.GraphIdom", spec := "graphIdom", unfollowed := true, recurses := true, apart := false, narrowed := true }
def GraphIdomUptoSaid : Prop := graphIdomUptoRow.holds Try.pinned (OpenSpec.upto graphIdomSpec)

/-- 'jacquardlaw02.GraphChains', WHERE WHAT IT READS IS OF BULK AT MOST 1048576: true; the input reads as it did. -/
def graphChainsUptoRow : OpenClaim := { program := "ytaebcebflfgdiaa", sum := "c974738fd054062fd2e2fbeea765f840617e84517c6bbeee2c654e6391f8ef19", func := "jacquard/jacquardlaw02.GraphChains", spec := "graphChains", unfollowed := true, recurses := true, apart := false, narrowed := true }
def GraphChainsUptoSaid : Prop := graphChainsUptoRow.holds Try.pinned (OpenSpec.upto graphChainsSpec)

/-- 'jacquardlaw02.GraphBody', WHERE WHAT IT READS IS OF BULK AT MOST 1048576: true; the input reads as it did. -/
def graphBodyUptoRow : OpenClaim := { program := "ytaebcebflfgdiaa", sum := "c974738fd054062fd2e2fbeea765f840617e84517c6bbeee2c654e6391f8ef19", func := "jacquard/jacquardlaw02.GraphBody", spec := "graphBody", unfollowed := true, recurses := true, apart := false, narrowed := true }
def GraphBodyUptoSaid : Prop := graphBodyUptoRow.holds Try.pinned (OpenSpec.upto graphBodySpec)

/-- 'jacquardlaw02.GraphTurns', WHERE WHAT IT READS IS OF BULK AT MOST 1048576: true; the input reads as it did. -/
def graphTurnsUptoRow : OpenClaim := { program := "ytaebcebflfgdiaa", sum := "c974738fd054062fd2e2fbeea765f840617e84517c6bbeee2c654e6391f8ef19", func := "jacquard/jacquardlaw02.GraphTurns", spec := "graphTurns", unfollowed := true, recurses := true, apart := false, narrowed := true }
def GraphTurnsUptoSaid : Prop := graphTurnsUptoRow.holds Try.pinned (OpenSpec.upto graphTurnsSpec)

/-- 'jacquardlaw02.GraphPut', WHERE WHAT IT READS IS OF BULK AT MOST 1048576: true; the input reads as it did. -/
def graphPutUptoRow : OpenClaim := { program := "ytaebcebflfgdiaa", sum := "c974738fd054062fd2e2fbeea765f840617e84517c6bbeee2c654e6391f8ef19", func := "jacquard/jacquardlaw02.GraphPut", spec := "graphPut", unfollowed := true, recurses := true, apart := false, narrowed := true }
def GraphPutUptoSaid : Prop := graphPutUptoRow.holds Try.pinned (OpenSpec.upto graphPutSpec)

/-- 'jacquardlaw02.GraphTree', WHERE WHAT IT READS IS OF BULK AT MOST 1048576: true; the input reads as it did. -/
def graphTreeUptoRow : OpenClaim := { program := "ytaebcebflfgdiaa", sum := "c974738fd054062fd2e2fbeea765f840617e84517c6bbeee2c654e6391f8ef19", func := "jacquard/jacquardlaw02.GraphTree", spec := "graphTree", unfollowed := true, recurses := true, apart := false, narrowed := true }
def GraphTreeUptoSaid : Prop := graphTreeUptoRow.holds Try.pinned (OpenSpec.upto graphTreeSpec)

/-- 'jacquardlaw02.GraphOf', WHERE WHAT IT READS IS OF BULK AT MOST 1048576: true; the input reads as it did. -/
def graphOfUptoRow : OpenClaim := { program := "ytaebcebflfgdiaa", sum := "c974738fd054062fd2e2fbeea765f840617e84517c6bbeee2c654e6391f8ef19", func := "jacquard/jacquardlaw02.GraphOf", spec := "graphOf", unfollowed := true, recurses := true, apart := false, narrowed := true }
def GraphOfUptoSaid : Prop := graphOfUptoRow.holds Try.pinned (OpenSpec.upto graphOfSpec)

end Rows
end Go.Proofs.Ytaebcebflfgdiaa
