/- For every input SplitRuns returns true: what is split does what the function did. No condition. -/
import Derived.Test.YtmhnaeecolpfkaaGreatZSRun7
import Derived.Test.YtmhnaeecolpfkaaGreatRows
set_option linter.unusedSimpArgs false
set_option linter.unusedVariables false
open Go.Value renaming int->Qy,slice->QD
open Go.IntKind renaming i64->Qz
open Option renaming none->QC
open Bool renaming true->QF,false->QG
open Go.Proofs.Tryz renaming prog->QH
namespace Go.Proofs.YtmhnaeecolpfkaaGreat
open Go Go.Lft Go.ChangeShapes Go.WideShapes Go.ChangeAt Go.RowKit
theorem Tryz.oA:Tryz.f3.params = #[T.bn,T.bn,T.int]:=by kernel_rfl
theorem nQ(os:Os)(started:os.Started)(H:Type)(enc:TypeId × Value->H):
  ReturnsInHanded {} Tryz.checked os 3 .any (Rows.splitRunsSpec.pre6 enc QH Tryz.f3 Rows.splitRunsRow.domain QG) (Rows.splitRunsSpec.post enc QH Tryz.f3 QG QF QG QG):=
 law3 (C:=Tryz.checked) Tryz.own started Q0 Tryz.func3 rfl
  (ChangeSpec.witness6 (enc:=enc) (C:=Tryz.checked) QG ⟨#[],#[QD QC 0 0,QD QC 0 0,Qy Qz 0],[]⟩ 8 Q0 Q0 Q0 Q0)
  Tryz.laidOut (λt ht=>by rw[Tryz.oA]at ht;simp only[Nu,O3,or_false]at ht;rcases ht with rfl | rfl | rfl<;>exact⟨by kernel_rfl,of_decide_eq_true Q0⟩) rfl
  (λds hds=>by
   match ds,hds with
   | [a,b,c],_=>rfl) rfl (tb:=4) Q0 Tryz.oA rtIs rtIs rtI λh v1 x1 v2 x2 v3 x3 h1 h2 h3=>by rw[(dJ.1 h3).1];exact zA (fG.1 h1) (fG.1 h2)
theorem splitruns_holds:Rows.SplitRunsSaid:=
 OpenClaim.holds_of_wide 3 Tryz.f3 rfl rfl rfl rfl rfl rfl rfl ⟨rfl,rfl,rfl,rfl,rfl⟩ rfl rfl rfl rfl rfl Q0 Tryz.func3 Q0
  (of_decide_eq_true Q0) (by unfold Func.isWrapper;first | (rw[if_pos (by decide +kernel)];kernel_rfl) | (rw[if_neg (by decide +kernel)];exact⟨rfl,rfl⟩))
  (λos started H enc _=>nQ os started H enc)
end Go.Proofs.YtmhnaeecolpfkaaGreat
