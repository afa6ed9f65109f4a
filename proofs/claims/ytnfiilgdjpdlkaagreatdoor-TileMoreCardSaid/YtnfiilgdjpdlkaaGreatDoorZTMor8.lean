/- For every input TileMore returns true: more patterns cover no less, and a table turned covers alike. No condition. -/
import Derived.Test.YtnfiilgdjpdlkaaGreatDoorZTMor7
import Derived.Test.YtnfiilgdjpdlkaaGreatDoorRows
import Derived.Test.YtnfiilgdjpdlkaaGreatDoorCards
import Derived.Test.YtnfiilgdjpdlkaaGreatDoorTie
import Derived.SevenTiedAt
set_option linter.unusedSimpArgs false
set_option linter.unusedVariables false
open Go.Value renaming slice->Pv
open Option renaming some->Pt,none->Pu
open Bool renaming true->Px,false->Py
open Go.Proofs.Tryz renaming prog->Pz
namespace Go.Proofs.YtnfiilgdjpdlkaaGreatDoor
open Go Go.Lft Go.ChangeShapes Go.WideShapes Go.ChangeAt Go.RowKit
theorem Tryz.lu:Tryz.f7.params = #[T.aP,T.uint64,T.aP]:=by kernel_rfl
theorem tz(os:Os)(started:os.Started)(H:Type)(enc:TypeId × Value->H):
  ReturnsInHanded {} Tryz.checked os 7 .any (λw args=>(Rows.tileMoreSpec.pre enc Pz Tryz.f7 [] Py w args/\laidMetH Pz zn w)/\sizedMet enc Pz Tryz.f7 (OpenSpec.ofChange Rows.tileMoreSpec) Py w args) (Rows.tileMoreSpec.post enc Pz Tryz.f7 Py Px Py Py):=
 J7 (C:=Tryz.checked) (X:=λw=>laidMetH Pz zn w) (F:=Tab) (λ_ _ hh h=>h.of_heap hh) (λ_ h=>zB h) Tryz.own started P1 Tryz.func7 rfl
  (ChangeSpec.witness_shaped (enc:=enc) (C:=Tryz.checked) (os:=os) (X:=λw _=>laidMetH Pz zn w) Py (World.doorLaid Pz 400 os) #[Pv Pu 0 0,.int .u64 0,Pv Pu 0 0] 8 rfl (World.shaped_of_RefB P1 P1) P1 P1 P1 (DW os _))
  Tryz.laidOut (λt ht=>by rw[Tryz.lu]at ht;simp only[LG,NK,or_false]at ht;rcases ht with rfl | rfl | rfl<;>exact⟨by kernel_rfl,of_decide_eq_true P1⟩) rfl
  (λds hds=>by
   match ds,hds with
   | [a,b,c],_=>rfl) rfl (tb:=4) P1 Tryz.lu rtIs Ka rtIs λh v1 x1 v2 x2 v3 x3 ht h1 h2 h3=>by obtain⟨e,hn⟩:=Jq.1 h2;rw[e];exact zE ht I4 (dJ.1 h1) hn (dJ.1 h3)
theorem yb:Rows.TileMoreSaid:=
 OpenClaim.holds_of_wide 7 Tryz.f7 rfl rfl rfl rfl rfl rfl rfl ⟨rfl,rfl,rfl,rfl,rfl⟩ rfl rfl rfl rfl rfl P1 Tryz.func7 P1
  (of_decide_eq_true P1) (by unfold Func.isWrapper;first | (rw[if_pos (by decide +kernel)];kernel_rfl) | (rw[if_neg (by decide +kernel)];exact⟨rfl,rfl⟩))
  (λos started H enc _=>tz os started H enc)
theorem tilemore_holds:Rows.TileMoreCardSaid:=
 Claim7.holds_tied_plain_at .later [] [.listed,.data] Px Rows.tileMoreCard.stood.harness Px
  yb (λ_ h=>by cases h) P1 (λ_ h=>by cases h) tileMore_row_tie rfl ⟨rfl,rfl⟩ P1 rfl
  (λf fn hf hfn=>by
   obtain rfl : f = 7 := Option.some.inj ((show Tryz.prog.funcNamed "jacquard/jacquardlaw06.TileMore" = Pt 7 by kernel_rfl).symm.trans hf) |>.symm;obtain rfl:fn=Tryz.f7:=(Option.some.inj (Tryz.func7.symm.trans hfn)).symm;exact⟨by kernel_rfl,λj t ht=>by
    rw[Tryz.lu]at ht;have hm:t∈[T.aP,T.uint64,T.aP]:=by simpa using Array.mem_of_getElem? ht
    have hall:([T.aP,T.uint64,T.aP].all λu=>!Tryz.prog.wantsStandIn u)=true:=by kernel_rfl
    exact(show Tryz.prog.wantsStandIn t=Py by simpa using LW.1 hall t hm)⟩)
  P1
end Go.Proofs.YtnfiilgdjpdlkaaGreatDoor
