/- For every input ChooseTemps returns true: temps are numbers of their own, above all values, each one more than the one ahead. No condition. -/
import Derived.Test.YtmhnaeecolpfkaaGreatDoorZCTmp9
import Derived.Test.YtmhnaeecolpfkaaGreatDoorRows
import Derived.Test.YtmhnaeecolpfkaaGreatDoorCards
import Derived.Test.YtmhnaeecolpfkaaGreatDoorTie
import Derived.SevenTiedAt
set_option linter.unusedSimpArgs false
set_option linter.unusedVariables false
open Go.Value renaming slice->VE
open Option renaming some->VC,none->VD
open Bool renaming true->VG,false->VH
open Go.Proofs.Tryz renaming prog->VI
namespace Go.Proofs.YtmhnaeecolpfkaaGreatDoor
open Go Go.Lft Go.ChangeShapes Go.WideShapes Go.ChangeAt Go.RowKit
theorem Tryz.lG:Tryz.f7.params = #[T.aZ,T.aZ]:=by kernel_rfl
theorem vy(os:Os)(started:os.Started)(H:Type)(enc:TypeId × Value->H):
  ReturnsInHanded {} Tryz.checked os 7 .any (λw args=>(Rows.chooseTempsSpec.pre enc VI Tryz.f7 [] VH w args/\laidMetH VI EY w)/\sizedMet enc VI Tryz.f7 (OpenSpec.ofChange Rows.chooseTempsSpec) VH w args) (Rows.chooseTempsSpec.post enc VI Tryz.f7 VH VG VH VH):=
 Qp (C:=Tryz.checked) (X:=λw=>laidMetH VI EY w) (F:=Tab) (λ_ _ hh h=>h.of_heap hh) (λ_ h=>EL h) Tryz.own started V0 Tryz.func7 rfl
  (ChangeSpec.witness_shaped (enc:=enc) (C:=Tryz.checked) (os:=os) (X:=λw _=>laidMetH VI EY w) VH (World.doorLaid VI 400 os) #[VE VD 0 0,VE VD 0 0] 8 rfl (World.shaped_of_RefB V0 V0) V0 V0 V0 (KN os _))
  Tryz.laidOut (λt ht=>by rw[Tryz.lG]at ht;simp only[Sp,Uq,or_false]at ht;rcases ht with rfl | rfl<;>exact⟨by kernel_rfl,of_decide_eq_true V0⟩) rfl
  (λds hds=>by
   match ds,hds with
   | [a,b],_=>rfl) rfl (tb:=4) V0 Tryz.lG rtIs rtIs λh v1 x1 v2 x2 ht h1 h2=>z6 ht O2 (dw.1 h1) (dw.1 h2)
theorem yB:Rows.ChooseTempsSaid:=
 OpenClaim.holds_of_wide 7 Tryz.f7 rfl rfl rfl rfl rfl rfl rfl ⟨rfl,rfl,rfl,rfl,rfl⟩ rfl rfl rfl rfl rfl V0 Tryz.func7 V0
  (of_decide_eq_true V0) (by unfold Func.isWrapper;first | (rw[if_pos (by decide +kernel)];kernel_rfl) | (rw[if_neg (by decide +kernel)];exact⟨rfl,rfl⟩))
  (λos started H enc _=>vy os started H enc)
theorem choosetemps_holds:Rows.ChooseTempsCardSaid:=
 Claim7.holds_tied_plain_at .later [] [.listed,.data] VG Rows.chooseTempsCard.stood.harness VG
  yB (λ_ h=>by cases h) V0 (λ_ h=>by cases h) chooseTemps_row_tie rfl ⟨rfl,rfl⟩ V0 rfl
  (λf fn hf hfn=>by
   obtain rfl : f = 7 := Option.some.inj ((show Tryz.prog.funcNamed "jacquard/jacquardlaw08.ChooseTemps" = VC 7 by kernel_rfl).symm.trans hf) |>.symm;obtain rfl:fn=Tryz.f7:=(Option.some.inj (Tryz.func7.symm.trans hfn)).symm;exact⟨by kernel_rfl,λj t ht=>by
    rw[Tryz.lG]at ht;have hm:t∈[T.aZ,T.aZ]:=by simpa using Array.mem_of_getElem? ht
    have hall:([T.aZ,T.aZ].all λu=>!Tryz.prog.wantsStandIn u)=true:=by kernel_rfl
    exact(show Tryz.prog.wantsStandIn t=VH by simpa using SR.1 hall t hm)⟩)
  V0
end Go.Proofs.YtmhnaeecolpfkaaGreatDoor
