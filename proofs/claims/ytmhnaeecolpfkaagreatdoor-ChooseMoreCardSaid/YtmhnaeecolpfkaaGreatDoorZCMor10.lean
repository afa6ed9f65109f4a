/- For every input ChooseMore returns true: with a tile more, or one that costs less, a cover does not cost more; all that could be covered can be. No condition. -/
import Derived.Test.YtmhnaeecolpfkaaGreatDoorZCMor9
import Derived.Test.YtmhnaeecolpfkaaGreatDoorRows
import Derived.Test.YtmhnaeecolpfkaaGreatDoorCards
import Derived.Test.YtmhnaeecolpfkaaGreatDoorTie
import Derived.SevenTiedAt
set_option linter.unusedSimpArgs false
set_option linter.unusedVariables false
open Go.Value renaming int->VB,slice->VG
open Go.IntKind renaming i64->VC
open Option renaming some->VE,none->VF
open Bool renaming true->VI,false->VJ
open Go.Proofs.Tryz renaming prog->VK
namespace Go.Proofs.YtmhnaeecolpfkaaGreatDoor
open Go Go.Lft Go.ChangeShapes Go.WideShapes Go.ChangeAt Go.RowKit
theorem Tryz.lZ:Tryz.f4.params = #[T.aY,T.aY,T.zK]:=by kernel_rfl
theorem wy(os:Os)(started:os.Started)(H:Type)(enc:TypeId × Value->H):
  ReturnsInHanded {} Tryz.checked os 4 .any (λw args=>(Rows.chooseMoreSpec.pre enc VK Tryz.f4 [] VJ w args/\laidMetH VK E3 w)/\sizedMet enc VK Tryz.f4 (OpenSpec.ofChange Rows.chooseMoreSpec) VJ w args) (Rows.chooseMoreSpec.post enc VK Tryz.f4 VJ VI VJ VJ):=
 Qt (C:=Tryz.checked) (X:=λw=>laidMetH VK E3 w) (F:=Tab) (λ_ _ hh h=>h.of_heap hh) (λ_ h=>D8 h) Tryz.own started V0 Tryz.func4 rfl
  (ChangeSpec.witness_shaped (enc:=enc) (C:=Tryz.checked) (os:=os) (X:=λw _=>laidMetH VK E3 w) VJ (World.doorLaid VK 400 os) #[VG VF 0 0,VG VF 0 0,.agg #[VB VC 0,VB VC 0,VB VC 0]] 8 rfl (World.shaped_of_RefB V0 V0) V0 V0 V0 (JY os _))
  Tryz.laidOut (λt ht=>by rw[Tryz.lZ]at ht;simp only[Sb,Uo,or_false]at ht;rcases ht with rfl | rfl | rfl<;>exact⟨by kernel_rfl,of_decide_eq_true V0⟩) rfl
  (λds hds=>by
   match ds,hds with
   | [a,b,c],_=>rfl) rfl (tb:=4) V0 Tryz.lZ rtIs rtIs rtQ6 λh v1 x1 v2 x2 v3 x3 ht h1 h2 h3=>Aw ht OT (dx.1 h1) (dx.1 h2) h3
theorem zx:Rows.ChooseMoreSaid:=
 OpenClaim.holds_of_wide 4 Tryz.f4 rfl rfl rfl rfl rfl rfl rfl ⟨rfl,rfl,rfl,rfl,rfl⟩ rfl rfl rfl rfl rfl V0 Tryz.func4 V0
  (of_decide_eq_true V0) (by unfold Func.isWrapper;first | (rw[if_pos (by decide +kernel)];kernel_rfl) | (rw[if_neg (by decide +kernel)];exact⟨rfl,rfl⟩))
  (λos started H enc _=>wy os started H enc)
theorem choosemore_holds:Rows.ChooseMoreCardSaid:=
 Claim7.holds_tied_plain_at .later [] [.listed,.data] VI Rows.chooseMoreCard.stood.harness VI
  zx (λ_ h=>by cases h) V0 (λ_ h=>by cases h) chooseMore_row_tie rfl ⟨rfl,rfl⟩ V0 rfl
  (λf fn hf hfn=>by
   obtain rfl : f = 4 := Option.some.inj ((show Tryz.prog.funcNamed "jacquard/jacquardlaw08.ChooseMore" = VE 4 by kernel_rfl).symm.trans hf) |>.symm;obtain rfl:fn=Tryz.f4:=(Option.some.inj (Tryz.func4.symm.trans hfn)).symm;exact⟨by kernel_rfl,λj t ht=>by
    rw[Tryz.lZ]at ht;have hm:t∈[T.aY,T.aY,T.zK]:=by simpa using Array.mem_of_getElem? ht
    have hall:([T.aY,T.aY,T.zK].all λu=>!Tryz.prog.wantsStandIn u)=true:=by kernel_rfl
    exact(show Tryz.prog.wantsStandIn t=VJ by simpa using SF.1 hall t hm)⟩)
  V0
end Go.Proofs.YtmhnaeecolpfkaaGreatDoor
