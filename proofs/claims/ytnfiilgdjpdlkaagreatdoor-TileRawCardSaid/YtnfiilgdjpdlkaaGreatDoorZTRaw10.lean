/- For every input TileRaw returns true: so it is at any place, of any number, of any pattern's number. No condition. -/
import Derived.Test.YtnfiilgdjpdlkaaGreatDoorZTRaw9
import Derived.Test.YtnfiilgdjpdlkaaGreatDoorRows
import Derived.Test.YtnfiilgdjpdlkaaGreatDoorCards
import Derived.Test.YtnfiilgdjpdlkaaGreatDoorTie
import Derived.SevenTiedAt
set_option linter.unusedSimpArgs false
set_option linter.unusedVariables false
open Go.Value renaming int->RG,slice->RL
open Go.IntKind renaming i64->RH
open Option renaming some->RJ,none->RK
open Bool renaming true->RN,false->RO
open Go.Proofs.Tryz renaming prog->RP
namespace Go.Proofs.YtnfiilgdjpdlkaaGreatDoor
open Go Go.Lft Go.ChangeShapes Go.WideShapes Go.ChangeAt Go.RowKit
theorem Tryz.ou:Tryz.f4.params = #[T.aQ,T.iy,T.iy]:=by kernel_rfl
theorem xV(os:Os)(started:os.Started)(H:Type)(enc:TypeId × Value->H):
  ReturnsInHanded {} Tryz.checked os 4 .any (λw args=>(Rows.tileRawSpec.pre enc RP Tryz.f4 [] RO w args/\laidMetH RP BK w)/\sizedMet enc RP Tryz.f4 (OpenSpec.ofChange Rows.tileRawSpec) RO w args) (Rows.tileRawSpec.post enc RP Tryz.f4 RO RN RO RO):=
 Mu (C:=Tryz.checked) (X:=λw=>laidMetH RP BK w) (F:=Tab) (λ_ _ hh h=>h.of_heap hh) (λ_ h=>Cw h) Tryz.own started R1 Tryz.func4 rfl
  (ChangeSpec.witness_shaped (enc:=enc) (C:=Tryz.checked) (os:=os) (X:=λw _=>laidMetH RP BK w) RO (World.doorLaid RP 400 os) #[RL RK 0 0,.agg #[RG RH 0,RG RH 0],.agg #[RG RH 0,RG RH 0]] 8 rfl (World.shaped_of_RefB R1 R1) R1 R1 R1 (HV os _))
  Tryz.laidOut (λt ht=>by rw[Tryz.ou]at ht;simp only[N5,Qi,or_false]at ht;rcases ht with rfl | rfl | rfl<;>exact⟨by kernel_rfl,of_decide_eq_true R1⟩) rfl
  (λds hds=>by
   match ds,hds with
   | [a,b,c],_=>rfl) rfl (tb:=4) R1 Tryz.ou rtIs rtPr rtPr λh v1 x1 v2 x2 v3 x3 ht h1 h2 h3=>Dn ht LG (eG.1 h1) h2 h3
theorem Bv:Rows.TileRawSaid:=
 OpenClaim.holds_of_wide 4 Tryz.f4 rfl rfl rfl rfl rfl rfl rfl ⟨rfl,rfl,rfl,rfl,rfl⟩ rfl rfl rfl rfl rfl R1 Tryz.func4 R1
  (of_decide_eq_true R1) (by unfold Func.isWrapper;first | (rw[if_pos (by decide +kernel)];kernel_rfl) | (rw[if_neg (by decide +kernel)];exact⟨rfl,rfl⟩))
  (λos started H enc _=>xV os started H enc)
theorem tileraw_holds:Rows.TileRawCardSaid:=
 Claim7.holds_tied_plain_at .later [] [.listed,.data] RN Rows.tileRawCard.stood.harness RN
  Bv (λ_ h=>by cases h) R1 (λ_ h=>by cases h) tileRaw_row_tie rfl ⟨rfl,rfl⟩ R1 rfl
  (λf fn hf hfn=>by
   obtain rfl : f = 4 := Option.some.inj ((show Tryz.prog.funcNamed "jacquard/jacquardlaw06.TileRaw" = RJ 4 by kernel_rfl).symm.trans hf) |>.symm;obtain rfl:fn=Tryz.f4:=(Option.some.inj (Tryz.func4.symm.trans hfn)).symm;exact⟨by kernel_rfl,λj t ht=>by
    rw[Tryz.ou]at ht;have hm:t∈[T.aQ,T.iy,T.iy]:=by simpa using Array.mem_of_getElem? ht
    have hall:([T.aQ,T.iy,T.iy].all λu=>!Tryz.prog.wantsStandIn u)=true:=by kernel_rfl
    exact(show Tryz.prog.wantsStandIn t=RO by simpa using OJ.1 hall t hm)⟩)
  R1
end Go.Proofs.YtnfiilgdjpdlkaaGreatDoor
