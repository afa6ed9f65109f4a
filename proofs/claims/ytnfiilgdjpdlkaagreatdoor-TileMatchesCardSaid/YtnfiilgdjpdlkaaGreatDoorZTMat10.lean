/- For every input TileMatches returns true: at each instruction and term just those patterns fit, take, have within, and are emitted as, what the document says. No condition. -/
import Derived.Test.YtnfiilgdjpdlkaaGreatDoorZTMat9
import Derived.Test.YtnfiilgdjpdlkaaGreatDoorRows
import Derived.Test.YtnfiilgdjpdlkaaGreatDoorCards
import Derived.Test.YtnfiilgdjpdlkaaGreatDoorTie
import Derived.SevenTiedAt
set_option linter.unusedSimpArgs false
set_option linter.unusedVariables false
open Go.Value renaming int->Sb,slice->Sg
open Go.IntKind renaming i64->Sc
open Option renaming some->Se,none->Sf
open Bool renaming true->Sj,false->Sk
open Go.Proofs.Tryz renaming prog->Sn
namespace Go.Proofs.YtnfiilgdjpdlkaaGreatDoor
open Go Go.Lft Go.ChangeShapes Go.WideShapes Go.ChangeAt Go.RowKit
theorem Tryz.kz:Tryz.f3.params = #[T.aP,T.lq,T.int]:=by kernel_rfl
theorem tq(os:Os)(started:os.Started)(H:Type)(enc:TypeId × Value->H):
  ReturnsInHanded {} Tryz.checked os 3 .any (λw args=>(Rows.tileMatchesSpec.pre enc Sn Tryz.f3 [] Sk w args/\laidMetH Sn CQ w)/\sizedMet enc Sn Tryz.f3 (OpenSpec.ofChange Rows.tileMatchesSpec) Sk w args) (Rows.tileMatchesSpec.post enc Sn Tryz.f3 Sk Sj Sk Sk):=
 MC (C:=Tryz.checked) (X:=λw=>laidMetH Sn CQ w) (F:=Tab) (λ_ _ hh h=>h.of_heap hh) (λ_ h=>BP h) Tryz.own started R1 Tryz.func3 rfl
  (ChangeSpec.witness_shaped (enc:=enc) (C:=Tryz.checked) (os:=os) (X:=λw _=>laidMetH Sn CQ w) Sk (World.doorLaid Sn 400 os) #[Sg Sf 0 0,.agg #[Sb Sc 0,Sb Sc 0,Sb Sc 0],Sb Sc 0] 8 rfl (World.shaped_of_RefB R1 R1) R1 R1 R1 (Iy os _))
  Tryz.laidOut (λt ht=>by rw[Tryz.kz]at ht;simp only[OO,PF,or_false]at ht;rcases ht with rfl | rfl | rfl<;>exact⟨by kernel_rfl,of_decide_eq_true R1⟩) rfl
  (λds hds=>by
   match ds,hds with
   | [a,b,c],_=>rfl) rfl (tb:=4) R1 Tryz.kz rtIs rtQ6 rtI λh v1 x1 v2 x2 v3 x3 ht h1 h2 h3=>by obtain⟨rfl,i3⟩:=aX.1 h3;exact yJ ht LG (eD.1 h1) h2 i3
theorem wX:Rows.TileMatchesSaid:=
 OpenClaim.holds_of_wide 3 Tryz.f3 rfl rfl rfl rfl rfl rfl rfl ⟨rfl,rfl,rfl,rfl,rfl⟩ rfl rfl rfl rfl rfl R1 Tryz.func3 R1
  (of_decide_eq_true R1) (by unfold Func.isWrapper;first | (rw[if_pos (by decide +kernel)];kernel_rfl) | (rw[if_neg (by decide +kernel)];exact⟨rfl,rfl⟩))
  (λos started H enc _=>tq os started H enc)
theorem tilematches_holds:Rows.TileMatchesCardSaid:=
 Claim7.holds_tied_plain_at .later [] [.listed,.data] Sj Rows.tileMatchesCard.stood.harness Sj
  wX (λ_ h=>by cases h) R1 (λ_ h=>by cases h) tileMatches_row_tie rfl ⟨rfl,rfl⟩ R1 rfl
  (λf fn hf hfn=>by
   obtain rfl : f = 3 := Option.some.inj ((show Tryz.prog.funcNamed "jacquard/jacquardlaw06.TileMatches" = Se 3 by kernel_rfl).symm.trans hf) |>.symm;obtain rfl:fn=Tryz.f3:=(Option.some.inj (Tryz.func3.symm.trans hfn)).symm;exact⟨by kernel_rfl,λj t ht=>by
    rw[Tryz.kz]at ht;have hm:t∈[T.aP,T.lq,T.int]:=by simpa using Array.mem_of_getElem? ht
    have hall:([T.aP,T.lq,T.int].all λu=>!Tryz.prog.wantsStandIn u)=true:=by kernel_rfl
    exact(show Tryz.prog.wantsStandIn t=Sk by simpa using O7.1 hall t hm)⟩)
  R1
end Go.Proofs.YtnfiilgdjpdlkaaGreatDoor
