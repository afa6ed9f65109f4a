/- For every input TileInner returns true: inner values of a tile are foldable ones, and it takes none of them; all that it takes is taken by the instruction itself, or by an inner one. No condition. -/
import Derived.Test.YtnfiilgdjpdlkaaGreatDoorZTInn7
import Derived.Test.YtnfiilgdjpdlkaaGreatDoorRows
import Derived.Test.YtnfiilgdjpdlkaaGreatDoorCards
import Derived.Test.YtnfiilgdjpdlkaaGreatDoorTie
import Derived.SevenTiedAt
set_option linter.unusedSimpArgs false
set_option linter.unusedVariables false
open Go.Value renaming int->Pv,slice->PA
open Go.IntKind renaming i64->Pw
open Option renaming some->Py,none->Pz
open Bool renaming true->PC,false->PD
open Go.Proofs.Tryz renaming prog->PE
namespace Go.Proofs.YtnfiilgdjpdlkaaGreatDoor
open Go Go.Lft Go.ChangeShapes Go.WideShapes Go.ChangeAt Go.RowKit
theorem Tryz.kD:Tryz.f6.params = #[T.aR,T.int,T.int]:=by kernel_rfl
theorem sI(os:Os)(started:os.Started)(H:Type)(enc:TypeId × Value->H):
  ReturnsInHanded {} Tryz.checked os 6 .any (λw args=>(Rows.tileInnerSpec.pre enc PE Tryz.f6 [] PD w args/\laidMetH PE Ae w)/\sizedMet enc PE Tryz.f6 (OpenSpec.ofChange Rows.tileInnerSpec) PD w args) (Rows.tileInnerSpec.post enc PE Tryz.f6 PD PC PD PD):=
 J6 (C:=Tryz.checked) (X:=λw=>laidMetH PE Ae w) (F:=Tab) (λ_ _ hh h=>h.of_heap hh) (λ_ h=>zh h) Tryz.own started P1 Tryz.func6 rfl
  (ChangeSpec.witness_shaped (enc:=enc) (C:=Tryz.checked) (os:=os) (X:=λw _=>laidMetH PE Ae w) PD (World.doorLaid PE 400 os) #[PA Pz 0 0,Pv Pw 0,Pv Pw 0] 8 rfl (World.shaped_of_RefB P1 P1) P1 P1 P1 (FW os _))
  Tryz.laidOut (λt ht=>by rw[Tryz.kD]at ht;simp only[LF,NN,or_false]at ht;rcases ht with rfl | rfl | rfl<;>exact⟨by kernel_rfl,of_decide_eq_true P1⟩) rfl
  (λds hds=>by
   match ds,hds with
   | [a,b,c],_=>rfl) rfl (tb:=4) P1 Tryz.kD rtIs rtI rtI λh v1 x1 v2 x2 v3 x3 ht h1 h2 h3=>by rw[(bn.1 h2).1,(bn.1 h3).1];exact yN ht IG (dN.1 h1) (bn.1 h2).2 (bn.1 h3).2
theorem wJ:Rows.TileInnerSaid:=
 OpenClaim.holds_of_wide 6 Tryz.f6 rfl rfl rfl rfl rfl rfl rfl ⟨rfl,rfl,rfl,rfl,rfl⟩ rfl rfl rfl rfl rfl P1 Tryz.func6 P1
  (of_decide_eq_true P1) (by unfold Func.isWrapper;first | (rw[if_pos (by decide +kernel)];kernel_rfl) | (rw[if_neg (by decide +kernel)];exact⟨rfl,rfl⟩))
  (λos started H enc _=>sI os started H enc)
theorem tileinner_holds:Rows.TileInnerCardSaid:=
 Claim7.holds_tied_plain_at .later [] [.listed,.data] PC Rows.tileInnerCard.stood.harness PC
  wJ (λ_ h=>by cases h) P1 (λ_ h=>by cases h) tileInner_row_tie rfl ⟨rfl,rfl⟩ P1 rfl
  (λf fn hf hfn=>by
   obtain rfl : f = 6 := Option.some.inj ((show Tryz.prog.funcNamed "jacquard/jacquardlaw06.TileInner" = Py 6 by kernel_rfl).symm.trans hf) |>.symm;obtain rfl:fn=Tryz.f6:=(Option.some.inj (Tryz.func6.symm.trans hfn)).symm;exact⟨by kernel_rfl,λj t ht=>by
    rw[Tryz.kD]at ht;have hm:t∈[T.aR,T.int,T.int]:=by simpa using Array.mem_of_getElem? ht
    have hall:([T.aR,T.int,T.int].all λu=>!Tryz.prog.wantsStandIn u)=true:=by kernel_rfl
    exact(show Tryz.prog.wantsStandIn t=PD by simpa using LY.1 hall t hm)⟩)
  P1
end Go.Proofs.YtnfiilgdjpdlkaaGreatDoor
