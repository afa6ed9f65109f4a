/- For every input TileMeans returns true: a tile's machine code, of one instruction, makes of what it takes what the instruction does with its inner ones. No condition. -/
import Derived.Test.YtnfiilgdjpdlkaaGreatDoorZTMea8
import Derived.Test.YtnfiilgdjpdlkaaGreatDoorRows
import Derived.Test.YtnfiilgdjpdlkaaGreatDoorCards
import Derived.Test.YtnfiilgdjpdlkaaGreatDoorTie
import Derived.SevenTiedAt
set_option linter.unusedSimpArgs false
set_option linter.unusedVariables false
open Go.Value renaming int->Sf,slice->Sn
open Go.IntKind renaming i64->Sg
open Option renaming some->Sj,none->Sk
open Bool renaming true->Sq,false->Sr
open Go.Proofs.Tryz renaming prog->Ss
namespace Go.Proofs.YtnfiilgdjpdlkaaGreatDoor
open Go Go.Lft Go.ChangeShapes Go.WideShapes Go.ChangeAt Go.RowKit
theorem Tryz.lz:Tryz.f10.params = #[T.aV,T.jw,T.oe]:=by kernel_rfl
theorem tQ(os:Os)(started:os.Started)(H:Type)(enc:TypeId × Value->H):
  ReturnsInHanded {} Tryz.checked os 10 .any (λw args=>(Rows.tileMeansSpec.pre enc Ss Tryz.f10 [] Sr w args/\laidMetH Ss Be w)/\sizedMet enc Ss Tryz.f10 (OpenSpec.ofChange Rows.tileMeansSpec) Sr w args) (Rows.tileMeansSpec.post enc Ss Tryz.f10 Sr Sq Sr Sr):=
 Nc (C:=Tryz.checked) (X:=λw=>laidMetH Ss Be w) (F:=Tab) (λ_ _ hh h=>h.of_heap hh) (λ_ h=>AT h) Tryz.own started R9 Tryz.func10 rfl
  (ChangeSpec.witness_shaped (enc:=enc) (C:=Tryz.checked) (os:=os) (X:=λw _=>laidMetH Ss Be w) Sr (World.doorLaid Ss 400 os) #[Sn Sk 0 0,.agg #[Sf Sg 0,Sf Sg 0],Sn Sk 0 0] 8 rfl (World.shaped_of_RefB R9 R9) R9 R9 R9 (Iu os _))
  Tryz.laidOut (λt ht=>by rw[Tryz.lz]at ht;simp only[OQ,QT,or_false]at ht;rcases ht with rfl | rfl | rfl<;>exact⟨by kernel_rfl,of_decide_eq_true R9⟩) rfl
  (λds hds=>by
   match ds,hds with
   | [a,b,c],_=>rfl) rfl (tb:=4) R9 Tryz.lz rtIs rtPr L8 λh v1 x1 v2 x2 v3 x3 ht h1 h2 h3=>Ax ht LD (dR.1 h1) h2 (dR.1 h3)
theorem yk:Rows.TileMeansSaid:=
 OpenClaim.holds_of_wide 10 Tryz.f10 rfl rfl rfl rfl rfl rfl rfl ⟨rfl,rfl,rfl,rfl,rfl⟩ rfl rfl rfl rfl rfl R9 Tryz.func10 R9
  (of_decide_eq_true R9) (by unfold Func.isWrapper;first | (rw[if_pos (by decide +kernel)];kernel_rfl) | (rw[if_neg (by decide +kernel)];exact⟨rfl,rfl⟩))
  (λos started H enc _=>tQ os started H enc)
theorem tilemeans_holds:Rows.TileMeansCardSaid:=
 Claim7.holds_tied_plain_at .later [] [.listed,.data] Sq Rows.tileMeansCard.stood.harness Sq
  yk (λ_ h=>by cases h) R9 (λ_ h=>by cases h) tileMeans_row_tie rfl ⟨rfl,rfl⟩ R9 rfl
  (λf fn hf hfn=>by
   obtain rfl : f = 10 := Option.some.inj ((show Tryz.prog.funcNamed "jacquard/jacquardlaw06.TileMeans" = Sj 10 by kernel_rfl).symm.trans hf) |>.symm;obtain rfl:fn=Tryz.f10:=(Option.some.inj (Tryz.func10.symm.trans hfn)).symm;exact⟨by kernel_rfl,λj t ht=>by
    rw[Tryz.lz]at ht;have hm:t∈[T.aV,T.jw,T.oe]:=by simpa using Array.mem_of_getElem? ht
    have hall:([T.aV,T.jw,T.oe].all λu=>!Tryz.prog.wantsStandIn u)=true:=by kernel_rfl
    exact(show Tryz.prog.wantsStandIn t=Sr by simpa using Po.1 hall t hm)⟩)
  R9
end Go.Proofs.YtnfiilgdjpdlkaaGreatDoor
