/- For every input ChooseOwn returns true: what is told is one's own; what was handed in stays as it was. No condition. -/
import Derived.Test.YtmhnaeecolpfkaaGreatDoorZCOwn8
import Derived.Test.YtmhnaeecolpfkaaGreatDoorRows
import Derived.Test.YtmhnaeecolpfkaaGreatDoorCards
import Derived.Test.YtmhnaeecolpfkaaGreatDoorTie
import Derived.SevenTiedAt
set_option linter.unusedSimpArgs false
set_option linter.unusedVariables false
open Go.Value renaming slice->UM
open Option renaming some->UK,none->UL
open Bool renaming true->UO,false->UP
open Go.Proofs.Tryz renaming prog->UQ
namespace Go.Proofs.YtmhnaeecolpfkaaGreatDoor
open Go Go.Lft Go.ChangeShapes Go.WideShapes Go.ChangeAt Go.RowKit
theorem Tryz.mE:Tryz.f6.params = #[T.aY,T.aY]:=by kernel_rfl
theorem xg(os:Os)(started:os.Started)(H:Type)(enc:TypeId × Value->H):
  ReturnsInHanded {} Tryz.checked os 6 .any (λw args=>(Rows.chooseOwnSpec.pre enc UQ Tryz.f6 [] UP w args/\laidMetH UQ C9 w)/\sizedMet enc UQ Tryz.f6 (OpenSpec.ofChange Rows.chooseOwnSpec) UP w args) (Rows.chooseOwnSpec.post enc UQ Tryz.f6 UP UO UP UP):=
 Qa (C:=Tryz.checked) (X:=λw=>laidMetH UQ C9 w) (F:=Tab) (λ_ _ hh h=>h.of_heap hh) (λ_ h=>DN h) Tryz.own started U0 Tryz.func6 rfl
  (ChangeSpec.witness_shaped (enc:=enc) (C:=Tryz.checked) (os:=os) (X:=λw _=>laidMetH UQ C9 w) UP (World.doorLaid UQ 400 os) #[UM UL 0 0,UM UL 0 0] 8 rfl (World.shaped_of_RefB U0 U0) U0 U0 U0 (KD os _))
  Tryz.laidOut (λt ht=>by rw[Tryz.mE]at ht;simp only[Ru,Tx,or_false]at ht;rcases ht with rfl | rfl<;>exact⟨by kernel_rfl,of_decide_eq_true U0⟩) rfl
  (λds hds=>by
   match ds,hds with
   | [a,b],_=>rfl) rfl (tb:=4) U0 Tryz.mE rtIs rtIs λh v1 x1 v2 x2 ht h1 h2=>CJ ht OK (dD.1 h1) (dD.1 h2)
theorem Ae:Rows.ChooseOwnSaid:=
 OpenClaim.holds_of_wide 6 Tryz.f6 rfl rfl rfl rfl rfl rfl rfl ⟨rfl,rfl,rfl,rfl,rfl⟩ rfl rfl rfl rfl rfl U0 Tryz.func6 U0
  (of_decide_eq_true U0) (by unfold Func.isWrapper;first | (rw[if_pos (by decide +kernel)];kernel_rfl) | (rw[if_neg (by decide +kernel)];exact⟨rfl,rfl⟩))
  (λos started H enc _=>xg os started H enc)
theorem chooseown_holds:Rows.ChooseOwnCardSaid:=
 Claim7.holds_tied_plain_at .later [] [.listed,.data] UO Rows.chooseOwnCard.stood.harness UO
  Ae (λ_ h=>by cases h) U0 (λ_ h=>by cases h) chooseOwn_row_tie rfl ⟨rfl,rfl⟩ U0 rfl
  (λf fn hf hfn=>by
   obtain rfl : f = 6 := Option.some.inj ((show Tryz.prog.funcNamed "jacquard/jacquardlaw08.ChooseOwn" = UK 6 by kernel_rfl).symm.trans hf) |>.symm;obtain rfl:fn=Tryz.f6:=(Option.some.inj (Tryz.func6.symm.trans hfn)).symm;exact⟨by kernel_rfl,λj t ht=>by
    rw[Tryz.mE]at ht;have hm:t∈[T.aY,T.aY]:=by simpa using Array.mem_of_getElem? ht
    have hall:([T.aY,T.aY].all λu=>!Tryz.prog.wantsStandIn u)=true:=by kernel_rfl
    exact(show Tryz.prog.wantsStandIn t=UP by simpa using RS.1 hall t hm)⟩)
  U0
end Go.Proofs.YtmhnaeecolpfkaaGreatDoor
