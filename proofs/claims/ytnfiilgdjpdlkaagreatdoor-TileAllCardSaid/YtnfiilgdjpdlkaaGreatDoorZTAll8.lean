/- For every input TileAll returns true: the table of all patterns may be, has each once, with the document's costs, and covers each function that may be. No condition. -/
import Derived.Test.YtnfiilgdjpdlkaaGreatDoorZTAll7
import Derived.Test.YtnfiilgdjpdlkaaGreatDoorRows
import Derived.Test.YtnfiilgdjpdlkaaGreatDoorCards
import Derived.Test.YtnfiilgdjpdlkaaGreatDoorTie
import Derived.SevenTiedAt
set_option linter.unusedSimpArgs false
set_option linter.unusedVariables false
namespace Go.Proofs.YtnfiilgdjpdlkaaGreatDoor
section
open Go Go.Lft Go.ChangeShapes Go.WideShapes Go.ChangeAt Go.RowKit
theorem Tryz.mE:Tryz.f5.params = #[T.fL]:=by kernel_rfl
theorem vV(os:Os)(started:os.Started)(H:Type)(enc:TypeId × Value->H):
  ReturnsInHanded {} Tryz.checked os 5 .any (λw args=>(Rows.tileAllSpec.pre enc Tryz.prog Tryz.f5 [] false w args/\laidMetH Tryz.prog zD w)/\sizedMet enc Tryz.prog Tryz.f5 (OpenSpec.ofChange Rows.tileAllSpec) false w args) (Rows.tileAllSpec.post enc Tryz.prog Tryz.f5 false true false false):=
 JR (C:=Tryz.checked) (X:=λw=>laidMetH Tryz.prog zD w) (F:=Tab) (λ_ _ hh h=>h.of_heap hh) (λ_ h=>zh h) Tryz.own started Ya Tryz.func5 rfl
  (ChangeSpec.witness_shaped (enc:=enc) (C:=Tryz.checked) (os:=os) (X:=λw _=>laidMetH Tryz.prog zD w) false (World.doorLaid Tryz.prog 400 os) #[.agg #[.slice none 0 0,.int .i64 0,.int .i64 0,.int .i64 0]] 8 rfl (World.shaped_of_RefB Ya Ya) Ya Ya Ya (FU os _))
  Tryz.laidOut (λt ht=>by rw[Tryz.mE]at ht;simp only[LF,MN,or_false]at ht;subst ht;exact⟨by kernel_rfl,of_decide_eq_true Ya⟩) rfl
  (λds hds=>by
   match ds,hds with
   | [a],_=>rfl) rfl (tb:=4) Ya Tryz.mE Jc λh v1 x1 ht h1=>BG ht IX h1
theorem Ad:Rows.TileAllSaid:=
 OpenClaim.holds_of_wide 5 Tryz.f5 rfl rfl rfl rfl rfl rfl rfl ⟨rfl,rfl,rfl,rfl,rfl⟩ rfl rfl rfl rfl rfl Ya Tryz.func5 Ya
  (of_decide_eq_true Ya) (by unfold Func.isWrapper;first | (rw[if_pos (by decide +kernel)];kernel_rfl) | (rw[if_neg (by decide +kernel)];exact⟨rfl,rfl⟩))
  (λos started H enc _=>vV os started H enc)
theorem tileall_holds:Rows.TileAllCardSaid:=
 Claim7.holds_tied_plain_at .later [] [.listed,.data] true Rows.tileAllCard.stood.harness true
  Ad (λ_ h=>by cases h) Ya (λ_ h=>by cases h) tileAll_row_tie rfl ⟨rfl,rfl⟩ Ya rfl
  (λf fn hf hfn=>by
   obtain rfl : f = 5 := Option.some.inj ((show Tryz.prog.funcNamed "jacquard/jacquardlaw06.TileAll" = some 5 by kernel_rfl).symm.trans hf) |>.symm;obtain rfl:fn=Tryz.f5:=(Option.some.inj (Tryz.func5.symm.trans hfn)).symm;exact⟨by kernel_rfl,λj t ht=>by
    rw[Tryz.mE]at ht;have hm:t∈[T.fL]:=by simpa using Array.mem_of_getElem? ht
    have hall:([T.fL].all λu=>!Tryz.prog.wantsStandIn u)=true:=by kernel_rfl
    exact(show Tryz.prog.wantsStandIn t=false by simpa using L6.1 hall t hm)⟩)
  Ya
end
end Go.Proofs.YtnfiilgdjpdlkaaGreatDoor
