/- For every input ChooseTimes returns true: what all costs are multiplied by, the cost is; the tiles are the same. No condition. -/
import Derived.Test.YtmhnaeecolpfkaaGreatDoorZCTim9
import Derived.Test.YtmhnaeecolpfkaaGreatDoorRows
import Derived.Test.YtmhnaeecolpfkaaGreatDoorCards
import Derived.Test.YtmhnaeecolpfkaaGreatDoorTie
import Derived.SevenTiedAt
set_option linter.unusedSimpArgs false
set_option linter.unusedVariables false
open Go.Value renaming int->UH,slice->UM
open Go.IntKind renaming i64->UI
open Option renaming some->UK,none->UL
open Bool renaming true->UO,false->UP
open Go.Proofs.Tryz renaming prog->UQ
namespace Go.Proofs.YtmhnaeecolpfkaaGreatDoor
open Go Go.Lft Go.ChangeShapes Go.WideShapes Go.ChangeAt Go.RowKit
theorem Tryz.kN:Tryz.f5.params = #[T.aY,T.aY,T.int]:=by kernel_rfl
theorem tT(os:Os)(started:os.Started)(H:Type)(enc:TypeId × Value->H):
  ReturnsInHanded {} Tryz.checked os 5 .any (λw args=>(Rows.chooseTimesSpec.pre enc UQ Tryz.f5 [] UP w args/\laidMetH UQ CI w)/\sizedMet enc UQ Tryz.f5 (OpenSpec.ofChange Rows.chooseTimesSpec) UP w args) (Rows.chooseTimesSpec.post enc UQ Tryz.f5 UP UO UP UP):=
 PI (C:=Tryz.checked) (X:=λw=>laidMetH UQ CI w) (F:=Tab) (λ_ _ hh h=>h.of_heap hh) (λ_ h=>Ec h) Tryz.own started U0 Tryz.func5 rfl
  (ChangeSpec.witness_shaped (enc:=enc) (C:=Tryz.checked) (os:=os) (X:=λw _=>laidMetH UQ CI w) UP (World.doorLaid UQ 400 os) #[UM UL 0 0,UM UL 0 0,UH UI 0] 8 rfl (World.shaped_of_RefB U0 U0) U0 U0 U0 (Ka os _))
  Tryz.laidOut (λt ht=>by rw[Tryz.kN]at ht;simp only[Rm,Tv,or_false]at ht;rcases ht with rfl | rfl | rfl<;>exact⟨by kernel_rfl,of_decide_eq_true U0⟩) rfl
  (λds hds=>by
   match ds,hds with
   | [a,b,c],_=>rfl) rfl (tb:=4) U0 Tryz.kN rtIs rtIs rtI λh v1 x1 v2 x2 v3 x3 ht h1 h2 h3=>by obtain⟨rfl,i3⟩:=bu.1 h3;exact zl ht Oe (dy.1 h1) (dy.1 h2)
theorem xO:Rows.ChooseTimesSaid:=
 OpenClaim.holds_of_wide 5 Tryz.f5 rfl rfl rfl rfl rfl rfl rfl ⟨rfl,rfl,rfl,rfl,rfl⟩ rfl rfl rfl rfl rfl U0 Tryz.func5 U0
  (of_decide_eq_true U0) (by unfold Func.isWrapper;first | (rw[if_pos (by decide +kernel)];kernel_rfl) | (rw[if_neg (by decide +kernel)];exact⟨rfl,rfl⟩))
  (λos started H enc _=>tT os started H enc)
theorem choosetimes_holds:Rows.ChooseTimesCardSaid:=
 Claim7.holds_tied_plain_at .later [] [.listed,.data] UO Rows.chooseTimesCard.stood.harness UO
  xO (λ_ h=>by cases h) U0 (λ_ h=>by cases h) chooseTimes_row_tie rfl ⟨rfl,rfl⟩ U0 rfl
  (λf fn hf hfn=>by
   obtain rfl : f = 5 := Option.some.inj ((show Tryz.prog.funcNamed "jacquard/jacquardlaw08.ChooseTimes" = UK 5 by kernel_rfl).symm.trans hf) |>.symm;obtain rfl:fn=Tryz.f5:=(Option.some.inj (Tryz.func5.symm.trans hfn)).symm;exact⟨by kernel_rfl,λj t ht=>by
    rw[Tryz.kN]at ht;have hm:t∈[T.aY,T.aY,T.int]:=by simpa using Array.mem_of_getElem? ht
    have hall:([T.aY,T.aY,T.int].all λu=>!Tryz.prog.wantsStandIn u)=true:=by kernel_rfl
    exact(show Tryz.prog.wantsStandIn t=UP by simpa using RN.1 hall t hm)⟩)
  U0
end Go.Proofs.YtmhnaeecolpfkaaGreatDoor
