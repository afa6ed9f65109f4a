/- A part of the proof: Nb, Qh, LftTs, Qs, Qm, Ia, Qw, Qx, Qy, Qz, Ba. -/
import Derived.Test.YtnfiilgdjpdlkaaGreatDoorZTInn6
set_option linter.unusedSimpArgs false
set_option linter.unusedVariables false
open Go.Value renaming int->Pv,slice->PA,pointer->PB
open Go.IntKind renaming i64->Pw,i32->Px
open Option renaming some->Py,none->Pz
open Bool renaming true->PC,false->PD
open Go.Proofs.Tryz renaming prog->PE
namespace Go.Proofs.YtnfiilgdjpdlkaaGreatDoor
open Go Go.Lft
section
variable {s:List Int} {M:Nat} {vs:Value} {W:View} {h:Heap} {o:Own} {m:MS}
theorem MkB.boxed{vb vl:Value}{lb:List BlkM}(bb:MkB M vs m o vb vl lb)(m':MS)(h1:m'.blocks=m.blocks)(h2:m'.live=m.live):MkB M vs m' (o.upd (0,0) (bx T.aY M (RawN.mk (n:=5) (mkL vs m'.at_ m'.ps vb m'.next vl)))) vb vl lb:=
 ⟨rfl,by rw[h2];exact bb.live,bb.blk,by rw[h1];exact bb.len,by rw[h1];exact bb.term,by rw[h1];exact λi hi=>bb.phis i hi,by rw[h1];exact λi hi=>bb.ins i hi⟩
end
def gA (R:Nat) (i10:Own):Own:=λk=>if k=(8,0) then bx T.dR R (RawN.mk (n:=1) [Pv Pw 0,PA Pz 0 0]) else if 10<=k.1 then i10 k else Pz
structure FnB (o:Own) (vb:Value) (lb:List BlkM) (f:aj):Prop where
 blk:o (0,2)=it T.ey vb lb
 len:lb.length=f.blocks.length
 term : ∀i,i<f.blocks.length->(nth lb i).term=(nth f.blocks i).term
 phis : ∀i,i<f.blocks.length->o (1,i)=it T.nr (nth lb i).phis.v (nth f.blocks i).phis
 ins : ∀i,i<f.blocks.length->o (2,i)=it T.dU (nth lb i).ins.v (nth f.blocks i).ins
theorem IK{H:View}{vb:Value}{lb:List BlkM}{f:aj}(h0:SlRd H vb lb)(hl:lb.length=f.blocks.length)(ht : ∀i,i<f.blocks.length->(nth lb i).term=(nth f.blocks i).term)(h1 : ∀i,i<f.blocks.length->SlRd H (nth lb i).phis.v (nth f.blocks i).phis)(h2 : ∀i,i<f.blocks.length->SlRd H (nth lb i).ins.v (nth f.blocks i).ins):SlRd H vb f.blocks:=by refine yS h0 rfl hl λi g1 g2 cs hr=>?_;have:=zi hr (p:=(nth f.blocks i).phis) (i:=(nth f.blocks i).ins) (by have:=h1 i g2;rwa [aA g1]at this) (by have:=h2 i g2;rwa [aA g1]at this);have ht:=ht i g2;rw[aA g1]at ht;rw[ht]at this;rw[<-aA g2];exact this
theorem FnB.freeze{W:View}{h:Heap}{o o0:Own}{vb:Value}{lb:List BlkM}{f:aj}(b:FnB o vb lb f)(w:Owns W h o)(ho : ∀k:Key,3<=k.1->o k=o0 k)(ho0 : ∀k:Key,k.1<3->o0 k=Pz): ∃W',W.le W'/\Owns W' h o0/\SlRd W' vb f.blocks:=by
 obtain⟨W17,hW17,w17,fr⟩:=w.wY (λk=>decide (k.1<3));refine⟨W17,hW17,w17.sub λk i hk=>?_,IK (fr (k:=(0,2)) Sa b.blk) b.len b.term (λi hi=>fr (k:=(1,i)) Sa (b.phis i hi)) λi hi=>fr (k:=(2,i)) Sa (b.ins i hi)⟩;rcases Lr k.1 3 with e | e
 ·rw[ho0 k e]at hk;cases hk
 have h2:¬k.1<3:=by omega
 simp only[h2,decide_false,MQ,if_false];rw[ho k e];exact hk
theorem FR{s:List Int}{vs:Value}{h:Heap}{W:View}{o0:Own}(w0:Owns W h o0)(ho0 : ∀k:Key,k.1<10->o0 k=Pz)(hs:SlRd W vs s):
  az PE 35 #[vs] h (λu h'=>∃W' o vb lb,W.le W'/\Owns W' h' o/\(∀k:Key,3<=k.1->o k=o0 k)/\FnB o vb lb (ko s)/\u = .agg #[Pv Pw (ko s).params,vb]):=by
 refine au (args:=[vs]) follows Tryz.func35 E.aq Pp λK hK=>?_;have hs0:=hs;obtain⟨sa,sc,rfl,_⟩:=hs0;dsimp only[L.aq,lkF,lkG];refine ab λz hz=>?_;simp;refine w0.cA (k:=(8,0)) (n:=1) (z:=.agg #[Pv Pw 0,PA Pz 0 0]) (ho0 _ P4) P1 rfl P4 P8 λh1 q1 w1=>?_;generalize h.size=R at w1;subst hz;refine ab λz hz=>?_;simp;refine ay (z:=.agg #[PA Pz 0 0,Pv Pw 0,Pv Pw 0,PA Pz 0 0,Pv Pw 0,PA Pz 0 0]) (places:=[(0,1),(1,1),(2,2),(4,1),(5,1)]) (vs:=[(0,.slice sa s.length sc)]) (cs:=#[.slice sa s.length sc,Pv Pw 0,Pv Pw 0,PA Pz 0 0,Pv Pw 0,PA Pz 0 0]) P1 P1 Sa P1 ?_;generalize s.length=sl at hs;refine dm rfl ?_;have hbx:(h1.push (.cells (Value.agg #[.slice sa sl sc,Pv Pw 0,Pv Pw 0,PA Pz 0 0,Pv Pw 0,PA Pz 0 0]).cells T.aY))[h1.size]? = Py (.cells (Value.agg #[.slice sa sl sc,Pv Pw 0,Pv Pw 0,PA Pz 0 0,Pv Pw 0,PA Pz 0 0]).cells T.aY (0,0)):=by simp
 have hle2:=bQ h1 (.cells (Value.agg #[.slice sa sl sc,Pv Pw 0,Pv Pw 0,PA Pz 0 0,Pv Pw 0,PA Pz 0 0]).cells T.aY);have hbg : ∀b,(PA (Py ⟨h1.size,0,Pz⟩) 1 1).ownBlock=Py b->h1.size<=b:=λb hb=>by simp only[Value.ownBlock,Ln]at hb;omega
 show LC.wp PE z _ _ (h1.push (.cells (Value.agg #[.slice sa sl sc,Pv Pw 0,Pv Pw 0,PA Pz 0 0,Pv Pw 0,PA Pz 0 0]).cells T.aY));generalize h1.push (.cells (Value.agg #[.slice sa sl sc,Pv Pw 0,Pv Pw 0,PA Pz 0 0,Pv Pw 0,PA Pz 0 0]).cells T.aY)=h2 at hbx hle2;have w2:=w1.add (k:=(0,0)) ((Own.aB Sa).trans (ho0 _ P4)) (jy (W:=W) (d:=RawN.mk (n:=5) [.slice sa sl sc,Pv Pw 0,Pv Pw 0,PA Pz 0 0,Pv Pw 0,PA Pz 0 0]) hbx (qZ rfl P7) P4) hle2 hbg;generalize h1.size=M at w2;generalize hvs:Value.slice sa sl sc=vs at hs w2;obtain⟨m0,hm0⟩ : ∃m0:MS,m0=⟨0,0,[],0,[]⟩:=⟨_,rfl⟩;obtain⟨o2,ho2⟩ : ∃o2:Own,o2=λk=>if k=(0,0) then bx T.aY M (RawN.mk (n:=5) (mkL vs 0 0 (PA Pz 0 0) 0 (PA Pz 0 0))) else if k=(0,1) then it T.int (PA Pz 0 0) ([]:List Int) else if k=(0,2) then it T.ey (PA Pz 0 0) ([]:List BlkM) else gA R o0 k:=⟨_,rfl⟩;have w2:Owns W h2 o2:=w2.nils λk i hk=>by
  rw[ho2]at hk;dsimp only at hk;split at hk
  ·rename_i e;rw[e];exact .inl hk
  rename_i e0;split at hk
  ·cases hk;exact .inr ⟨rfl,OwnT.nil (α:=Int) _ _ _⟩
  split at hk
  ·cases hk;exact .inr ⟨rfl,OwnT.nil (α:=BlkM) _ _ _⟩
  refine .inl ?_;rw[Own.aB e0];by_cases e8:k=(8,0)
  ·subst e8;exact hk
  rw[Own.aB e8];unfold gA at hk;rw[if_neg e8]at hk;split at hk
  ·exact hk
  cases hk
 have w2:Mk s M vs W h2 o2 m0:=⟨w2,hs,PA Pz 0 0,PA Pz 0 0,[],by rw[ho2,hm0];rfl,by rw[ho2,hm0];rfl,by rw[ho2];rfl,by rw[hm0];rfl,λi hi=>by rw[hm0]at hi;simp at hi,λi hi=>by rw[hm0]at hi;simp at hi,λi hi=>by rw[hm0]at hi;simp at hi⟩;have f2 : ∀k:Key,3<=k.1->o2 k=gA R o0 k:=λk hk=>by rw[ho2];dsimp only;rw[if_neg (by rintro rfl;simp at hk),if_neg (by rintro rfl;simp at hk),if_neg (by rintro rfl;simp at hk)]
 clear w1 hbx hbg hle2 q1 ho2;subst hz;refine ab λz hz=>?_;simp;refine af P1 (w2.take (by rw[hm0];decide) (n:=5) P4 P4) ?_;rintro _ h3 ⟨rfl,o3,w3,f3⟩;have tv:=cI (s:=s) (at_:=m0.at_) (n:=5) P4;obtain⟨vb,vl,lb,bb⟩:=w3.box;refine w3.own.dh (k:=(0,0)) (n:=5) (i:=2) (e:=T.aY) (B:=M) (l:=mkL vs m0.took.at_ m0.took.ps vb m0.took.next vl) bb.box P4 P1 rfl rfl rfl λh4 w4 _=>?_;have b4:=bb.boxed ⟨m0.took.at_,aI s m0.at_ 5,m0.took.blocks,m0.took.next,m0.took.live⟩ rfl rfl;subst hz;refine ab λz hz=>?_;have w4:Mk s M vs W h4 _ _:=⟨w4,w3.src,vb,vl,lb,b4⟩;have rd:=w4.reads b4;simp[rd.ps];refine w4.own.dh (k:=(0,0)) (n:=5) (i:=4) (e:=T.aY) (B:=M) (l:=mkL vs m0.took.at_ (aI s m0.at_ 5) vb m0.took.next vl) b4.box P4 P1 rfl rfl rfl λh5 w5 _=>?_;have b5:=b4.boxed ⟨m0.took.at_,aI s m0.at_ 5,m0.took.blocks,aI s m0.at_ 5,m0.took.live⟩ rfl rfl;have w5:Mk s M vs W h5 _ _:=⟨w5,w3.src,vb,vl,lb,b5⟩;obtain⟨o5,ho5⟩ : ∃o5,o5=(o3.upd (0,0) (bx T.aY M (RawN.mk (n:=5) (mkL vs m0.took.at_ (aI s m0.at_ 5) vb m0.took.next vl)))).upd (0,0) (bx T.aY M (RawN.mk (n:=5) (mkL vs m0.took.at_ (aI s m0.at_ 5) vb (aI s m0.at_ 5) vl))):=⟨_,rfl⟩;have f5 : ∀k:Key,3<=k.1->o5 k=gA R o0 k:=λk hk=>by rw[ho5,Own.aB (by rintro rfl;simp at hk),Own.aB (by rintro rfl;simp at hk),f3 k hk,f2 k hk]
 rw[hm0]at w5;have w5:Mk s M vs W h5 o5 ⟨1,aI s 0 5,[],aI s 0 5,[]⟩:=by rw[ho5,hm0];exact w5
 clear b5 b4 rd w4 bb w3 f3 w2 f2 ho5 hvs;subst hz;refine ab λz hz=>?_;simp;refine af P1 (w5.take (show 1<=_ by omega) (n:=9) P4 P4) ?_;rintro _ h6 ⟨rfl,o6,w6,f6⟩;have w6:Mk s M vs W h6 o6 (uY s):=w6;have f6 : ∀k:Key,3<=k.1->o6 k=gA R o0 k:=λk hk=>(f6 k hk).trans (f5 k hk);clear w5 f5;have hN:=Db (s:=s);obtain⟨n1,n2⟩:=jd (s:=s);have hw:IntKind.i64.wrap (1+aI s 1 9)=(bL s:Nat):=by rw[hN];exact bH P2 P2
 simp[hw];subst hz;refine ab λz hz=>?_;simp;refine af P1 (AT (ri:=gA R o0) w6 (λk hk=>f6 k P2) (λk h1 h2=>(f6 k h1).trans (by unfold gA;rw[if_neg (by rintro rfl;simp at h2),if_neg P2])) (n:=bL s) zu P2 n1 P2) ?_;rintro vt h7 ⟨W7,o7,g7,w7,r7,e7,st⟩;have w7:Mk s M vs W7 h7 o7 (iu s).2:=w7;have st:SlRd W7 vt (iu s).1:=st;have f7 : ∀k:Key,3<=k.1->o7 k=gA R o0 k:=λk hk=>by
  by_cases e:8<=k.1
  ·exact r7 k e
  rw[e7 k hk P2];unfold gA;rw[if_neg (by rintro rfl;simp at e),if_neg P2]
 clear r7 e7 w6 f6;have k1:=yV (s:=s);have s4:=vz (s:=s);subst hz;refine ab λz hz=>?_;simp;refine ny (α:=BlkM) (W:=W7) (k:=.i64) (n:=bL s) (d:=⟨⟨PA Pz 0 0⟩,⟨PA Pz 0 0⟩,⟨0,[],[],⟨0⟩⟩⟩) El.lT Ri Ri ⟨[PA Pz 0 0],_,rfl,⟨rfl,rfl⟩,[PA Pz 0 0],_,rfl,⟨rfl,rfl⟩,[Pv Pw 0],_,rfl,⟨rfl,by decide,by decide⟩,[PA Pz 0 0],_,rfl,⟨_,rfl,aN⟩,[PA Pz 0 0],_,rfl,⟨_,rfl,aN⟩,rfl,by decide,by decide⟩ P2 P2 λvb8 h8 ob8 m8 hle8 hb8=>?_;obtain⟨vb,vl,lb,bb⟩:=w7.box;have wa:=w7.own.sub (o':=o7.upd (0,2) Pz) λj i hj=>by
  unfold Own.upd at hj;split at hj
  ·cases hj
  exact hj
 have wb:=wa.add (k:=(0,2)) Own.ao ob8 hle8 (λb hb=>by rw[hb8]at hb;cases hb;exact Lp _);have hv8:=(wb.cells (k:=(0,2)) Own.ao).2;obtain⟨o8,ho8⟩ : ∃o8:Own,o8=λk=>if k.1=1/\k.2<bL s then it T.nr (PA Pz 0 0) ([]:List PhiD) else if k.1=2/\k.2<bL s then it T.dU (PA Pz 0 0) ([]:List InsD) else o7.upd (0,2) (it T.ey vb8 (List.replicate (bL s) (BlkM.mk ⟨PA Pz 0 0⟩ ⟨PA Pz 0 0⟩ ⟨0,[],[],⟨0⟩⟩))) k:=⟨_,rfl⟩;have w8:Owns W7 h8 o8:=wb.nils λk i hk=>by
  rw[ho8]at hk;dsimp only at hk;split at hk
  ·cases hk;exact .inr ⟨rfl,OwnT.nil (α:=PhiD) _ _ _⟩
  split at hk
  ·cases hk;exact .inr ⟨rfl,OwnT.nil (α:=InsD) _ _ _⟩
  refine .inl ?_;by_cases e:k=(0,2)
  ·subst e;rw[Own.ao]at hk ⊢;exact hk
  rw[Own.aB e]at hk;rw[Own.aB e,Own.aB e];exact hk
 have c8 : ∀k:Key,¬(k.1=1/\k.2<bL s)->¬(k.1=2/\k.2<bL s)->o8 k=o7.upd (0,2) (it T.ey vb8 (List.replicate (bL s) (BlkM.mk ⟨PA Pz 0 0⟩ ⟨PA Pz 0 0⟩ ⟨0,[],[],⟨0⟩⟩))) k:=λk h1 h2=>by rw[ho8];dsimp only;rw[if_neg h1,if_neg h2]
 refine w8.dh (k:=(0,0)) (n:=5) (i:=3) (e:=T.aY) (B:=M) (l:=mkL vs (iu s).2.at_ (iu s).2.ps vb (iu s).2.next vl) (by rw[c8 _ Sa Sa,Own.aB Sa];exact bb.box) P4 P1 rfl rfl hv8 λh9 w9 _=>?_;obtain⟨o9,ho9⟩ : ∃o9:Own,o9=o8.upd (0,0) (bx T.aY M (RawN.mk (n:=5) (mkL vs (iu s).2.at_ (iu s).2.ps vb8 (iu s).2.next vl))):=⟨_,rfl⟩;have w9:Owns W7 h9 o9:=by rw[ho9];exact w9
 have b9:MkB M vs { (iu s).2 with blocks:=List.replicate (bL s) qW } o9 vb8 vl (List.replicate (bL s) (BlkM.mk ⟨PA Pz 0 0⟩ ⟨PA Pz 0 0⟩ ⟨0,[],[],⟨0⟩⟩)):=by
  rw[ho9];refine⟨rfl,?_,?_,by simp,λi hi=>?_,λi hi=>?_,λi hi=>?_⟩
  ·rw[Own.aB Sa,c8 _ Sa Sa,Own.aB Sa];exact bb.live
  ·rw[Own.aB Sa,c8 _ Sa Sa,Own.ao]
  ·have hi:i<bL s:=by simpa using hi
   rw[aC hi,aC hi];rfl
  ·have hi:i<bL s:=by simpa using hi
   rw[Own.aB Sa,ho8];dsimp only;rw[if_pos ⟨rfl,hi⟩,aC hi,aC hi];rfl
  have hi:i<bL s:=by simpa using hi
  rw[Own.aB Sa,ho8];dsimp only;rw[if_neg Sa,if_pos ⟨rfl,hi⟩,aC hi,aC hi];rfl
 have x9:Nx s M vs W7 h9 (gA R o0) { (iu s).2 with blocks:=List.replicate (bL s) qW }:=⟨W7,o9,View.le_refl _,⟨w9,w7.src,vb8,vl,_,b9⟩,λk hk=>by rw[ho9,Own.aB (by rintro rfl;simp at hk),c8 _ P2 P2,Own.aB (by rintro rfl;simp at hk)];exact f7 k hk⟩;clear b9 w9 ho9 c8 w8 ho8 wb wa hv8 bb ob8 m8 hle8 hb8 w7 f7;subst hz;refine ab λz hz=>?_;refine ab λy hy=>?_;simp;subst hy;refine HE (vr:=PB (Py ⟨R,0,Pz⟩)) st k1.len x9 Sa P2 (by simp[bK,ag,ah]) λh10 x10=>?_;have x10:Nx s M vs W7 h10 (gA R o0) (qR s):=x10;clear x9;simp;subst hz;refine ab λz hz=>?_;simp;obtain⟨Wa,oa,ga,wa,fa⟩:=x10;refine ny (α:=Int) (W:=Wa) (k:=.i64) (n:=bL s) (d:=0) El.aR Ri Ri ⟨rfl,by decide,by decide⟩ P2 P2 λvp h11 ob11 m11 hle11 hb11=>?_;have x11:Nx s M vs W7 h11 ((gA R o0).upd (5,0) (it T.int vp (List.replicate (bL s) (0:Int)))) (qR s):=by
  have w11:=wa.own.add (k:=(5,0)) ((fa _ P4).trans rfl) ob11 hle11 (λb hb=>by rw[hb11]at hb;cases hb;exact Lp _);obtain⟨vb,vl,lb,bb⟩:=wa.box;refine⟨Wa,_,ga,⟨w11,wa.src,vb,vl,lb,bb.frame λq hq=>Own.aB (by rintro rfl;simp at hq)⟩,λq hq=>?_⟩;unfold Own.upd;split
  ·rfl
  exact fa q hq
 clear wa fa ob11 m11 hb11;subst hz;refine ab λz hz=>?_;refine ab λy hy=>?_;simp;subst hy;obtain⟨z2,g2⟩:=ze (s:=s);have p0:Ph (bL s) 200 0 (List.replicate (bL s) (0:Int),qR s):=by
  have hz : ∀j,nth (List.replicate (bL s) (0:Int)) j=0:=λj=>by
   rcases Lr j (bL s)with hj | hj
   ·rw[aC hj]
   rw[cL (by simpa using hj)];rfl
  exact⟨z2,by simp,λj _=>hz j,λj=>by show 0<=nth (List.replicate _ (0:Int)) j/\nth (List.replicate _ (0:Int)) j<=3;rw[hz];omega⟩
 refine HB (x0:=(List.replicate (bL s) (0:Int),qR s)) (vr:=PB (Py ⟨R,0,Pz⟩)) (vt:=vt) (vp:=vp) x11 p0 n1 P2 P2 (by simp[bK,ag,ah]) λh12 x12=>?_;have x12:Nx s M vs W7 h12 ((gA R o0).upd (5,0) (it T.int vp (jg s).1)) (jg s).2:=x12;obtain⟨ph,pc,g3⟩:=rj (s:=s);clear p0 x11 z2 g2;simp;subst hz;refine ab λz hz=>?_;simp;obtain⟨Wa,oa,ga,wa,fa⟩:=x12;refine ny (α:=Bool) (W:=Wa) (k:=.i64) (n:=bL s) (d:=false) El.nh Ri Ri rfl P2 P2 λvd h13 ob13 m13 hle13 hb13=>?_;have x13:Nx s M vs W7 h13 (((gA R o0).upd (5,0) (it T.int vp (jg s).1)).upd (6,0) (it T.bool vd (List.replicate (bL s) PD))) (jg s).2:=by
  have w13:=wa.own.add (k:=(6,0)) ((fa _ P4).trans rfl) ob13 hle13 (λb hb=>by rw[hb13]at hb;cases hb;exact Lp _);obtain⟨vb,vl,lb,bb⟩:=wa.box;refine⟨Wa,_,ga,⟨w13,wa.src,vb,vl,lb,bb.frame λq hq=>Own.aB (by rintro rfl;simp at hq)⟩,λq hq=>?_⟩;unfold Own.upd;split
  ·rfl
  exact fa q hq
 clear wa fa ob13 m13 hb13;subst hz;refine ab λz hz=>?_;refine ab λy hy=>?_;simp;subst hy;refine Hc (a:=16000) (p:=27) (x0:=(List.replicate (bL s) PD,(jg s).2)) (vr:=PB (Py ⟨R,0,Pz⟩)) (vp:=vp) x13 st k1.len rfl rfl rfl yX n2 P2 P2 P2 (by simp[bK,ag,ah]) λh14 x14=>?_;have x14:Nx s M vs W7 h14 (((gA R o0).upd (5,0) (it T.int vp (jg s).1)).upd (6,0) (it T.bool vd (xK s).1)) (xK s).2:=x14;obtain⟨q4,pc4⟩:=zp (s:=s);clear x13 pc g3;simp;subst hz;refine ab λz hz=>?_;refine ab λy hy=>?_;simp;subst hy;refine F0 (vr:=PB (Py ⟨R,0,Pz⟩)) (vt:=vt) (vp:=vp) (vd:=vd) (lp:=(jg s).1) x14 ((Own.aB Sa).trans Own.ao) rfl rfl q4 pc4 ph.len ph.rng n1 n2 P2 P2 P2 P2 (by simp[bK,ag,ah]) λh15 x15=>?_;have x15:Nx s M vs W7 h15 (((gA R o0).upd (5,0) (it T.int vp (jg s).1)).upd (6,0) (it T.bool vd (xK s).1)) (tD s):=x15;have q5:=mI (s:=s);clear x14 q4 pc4 ph;simp;subst hz;refine ab λz hz=>?_;obtain⟨Wa,oa,ga,wa,fa⟩:=x15;obtain⟨vb,vl,lb,bb⟩:=wa.box;have rd:=wa.reads bb;simp[rd.f];have hvb:vb.oneCell'=true:=rd.blk.cells.2;refine wa.own.gM (k:=(8,0)) (α:=RawN 1) (β:=RawN 1) Part.all (B:=R) (D:=RawN.mk (n:=1) [Pv Pw 0,PA Pz 0 0]) (d:=RawN.mk (n:=1) [Pv Pw (tD s).ps,vb]) ((fa _ P4).trans rfl) P1 rfl rfl (qZ rfl (by intro c hc;simp only[LF,NN,or_false]at hc;rcases hc with rfl | rfl<;>first | rfl | exact hvb)) λh16 w16 _=>?_;have c16:=w16.uO (k:=(8,0)) (n:=1) (l:=[Pv Pw (tD s).ps,vb]) Own.ao;have c16:Un.ev (vw h16) (.bU 2) (PB (Py ⟨R,0,Pz⟩))=Py (.agg #[Pv Pw (tD s).ps,vb]):=c16;have b16:=bb.frame (o':=oa.upd (8,0) (bx T.dR R (RawN.mk (n:=1) [Pv Pw (tD s).ps,vb]))) λq hq=>Own.aB (by rintro rfl;simp at hq);have w16:Mk s M vs Wa h16 _ (tD s):=⟨w16,wa.src,vb,vl,lb,b16⟩;have rd16:=w16.reads b16;subst hz;simp[c16];refine hK _ _ ⟨Wa,λk=>if 3<=k.1 then o0 k else if k=(0,2)\/k.1=1\/k.1=2 then oa k else Pz,vb,lb,Pt g7 ga,w16.own.sub λk i hk=>?_,λk hk=>if_pos hk,⟨?_,b16.len,b16.term,λi hi=>?_,λi hi=>?_⟩,rfl⟩
 ·split at hk
  ·rename_i e3;rcases Lr k.1 10 with e | e
   ·rw[ho0 k e]at hk;cases hk
   have h1:oa k=o0 k:=(fa k P2).trans (by rw[Own.aB (by rintro rfl;simp at e),Own.aB (by rintro rfl;simp at e)];unfold gA;rw[if_neg (by rintro rfl;simp at e),if_pos e]);rw[Own.aB (by rintro rfl;simp at e),h1];exact hk
  rename_i e3;split at hk
  ·rw[Own.aB (by rintro rfl;simp at e3)];exact hk
  cases hk
 ·have:=b16.blk;rw[Own.aB Sa]at this;simpa using this
 ·have:=b16.phis i hi;rw[Own.aB Sa]at this;exact(by simp:_=oa (1,i)).trans this
 have:=b16.ins i hi;rw[Own.aB Sa]at this;exact(by simp:_=oa (2,i)).trans this
theorem Gy{s:List Int}{vs:Value}{h:Heap}{W:View}{o0:Own}(w0:Owns W h o0)(ho0 : ∀k:Key,k.1<10->o0 k=Pz)(hs:SlRd W vs s):
  az PE 35 #[vs] h (λu h'=>∃W',W.le W'/\Owns W' h' o0/\Rd W' u (ko s)):=by refine(FR w0 ho0 hs).mono ?_;rintro u h' ⟨W1,o,vb,lb,hW,w,ho,b,rfl⟩;obtain⟨W2,hW2,w2,sb⟩:=b.freeze w ho λk hk=>ho0 k P2;have mp:=zR (s:=s);have mi:I64 (ko s).params:=P6;exact⟨W2,Pt hW hW2,w2,⟨_,rfl,[Pv Pw (ko s).params],[vb],rfl,⟨rfl,mi⟩,vb,rfl,sb⟩⟩
theorem Dq{s:List Int}{v:Value}{h:Heap}{W:View}{o0:Own}(w0:Owns W h o0)(ho0 : ∀k:Key,k.1<10->o0 k=Pz)(h21:o0 (21,0)=Pz)(hs:SlRd W v s):
  az PE 13 #[v] h (λu h'=>∃W',W.le W'/\Owns W' h' o0/\Rd W' u (ko (s.take 200))):=by
 refine au (args:=[v]) follows Tryz.func13 E.np Pp λK hK=>?_;dsimp only[L.np,lkF,lkG];have hb:=hs.bound;refine ab λz hz=>?_;simp;refine w0.cA (k:=(21,0)) (n:=1) (z:=.agg #[Pv Pw 0,PA Pz 0 0]) h21 P1 rfl P4 P8 λh1 hle1 w1=>?_;generalize h.size=R at w1;subst hz;refine ab λz hz=>?_;have ho : ∀k:Key,k.1<10->(o0.upd (21,0) (bx T.dR R (RawN.mk (n:=1) (Value.agg #[Pv Pw 0,PA Pz 0 0]).cells.toList))) k=none:=λk hk=>(Own.aB (by rintro rfl;simp at hk)).trans (ho0 k hk);have fin : ∀(W2:View) (h2:Heap) (u:Value) (ρ:Env),W.le W2->Owns W2 h2 (o0.upd (21,0) (bx T.dR R (RawN.mk (n:=1) (Value.agg #[Pv Pw 0,PA Pz 0 0]).cells.toList)))->Rd W2 u (ko (s.take 200))->Lft.look ρ 2=Py (ptr R)->∀(po:OP) (us:List (Nat × Value)),asg us (.tmp 2)=ptr R->asg us (.tmp 8)=u->
   @Lft.step po PE (Op.store 27 (Operand.tmp 2) (Operand.tmp 8)) 0 us h2 λ_ h'=>LC.wp PE z (dB [.un (.bU 2) (.tmp 2)] K) ρ h':=λW2 h2 u ρ hW w2 r hl po us e1 e2=>by
  have q:=fX r;obtain⟨cs,rfl,h3⟩:=r;have hl3:=Rep.len h3;refine w2.qt (k:=(21,0)) (n:=1) (l':=cs.toList) Own.ao P1 e1 (by simpa using e2) (by rw[hl3];rfl) (λc hc=>Rep.flat h3 c hc) λh4 w4 _=>?_;rw[hz];have hall:=w4.uO (k:=(21,0)) (n:=1) (e:=T.dR) (B:=R) (l:=cs.toList) Own.ao;simp at hall;simp[hl,hall];refine hK _ _ ⟨W2,hW,w4.sub λj i hj=>?_,⟨_,rfl,h3⟩⟩;have:j≠(21,0):=by rintro rfl;rw[h21]at hj;cases hj
  rw[Own.aB this,Own.aB this];exact hj
 clear hK;have tk : ∃us,Bn.ev .hi v (Pv Pw (if(200:Int)<s.length then 200 else s.length))=Py us/\SlRd W us (s.take 200):=by
  by_cases q:(200:Int)<s.length
  ·obtain⟨u,h2,h3⟩:=hs.take (n:=200) P2 (kd:=.i64);exact⟨u,by rw[if_pos q];exact h2,h3⟩
  obtain⟨u,h2,h3⟩:=hs.take (n:=s.length) P2 (kd:=.i64);refine⟨u,by rw[if_neg q];exact h2,?_⟩;rw[Lw P2];rw[Lw (Lp _)]at h3;exact h3
 obtain⟨us,h2,h3⟩:=tk;simp[hs.len,h2];refine af P1 (Gy w1 ho h3) ?_;rintro u8 h8 ⟨W8,hW8,w8,r8⟩;exact fin W8 h8 u8 [(0,v),(2,ptr R),(8,u8)] hW8 w8 r8 rfl _ [(2,ptr R),(8,u8)] rfl rfl
theorem E5{s:List Int}{v:Value}{h:Heap}(hs:SlRd (vw h) v s):az PE 13 #[v] h (λu h'=>(vw h).le (vw h')/\Rd (vw h') u (ko (s.take 200))):=
 (Dq (Owns.start (View.le_refl (vw h))) (λ_ _=>rfl) rfl hs).mono λu h' ⟨W',q1,w',r'⟩=>⟨Pt q1 w'.wle,r'.mono w'.wle⟩
end Go.Proofs.YtnfiilgdjpdlkaaGreatDoor
namespace Go.Lft
open Go
variable {pp:PP} {P:Program} {Q:Post} {ρ:Env} {h:Heap} {kl:List Nat} {c:Nat} {e:E} {a b x:LC}
theorem lE {i:Nat} (hx:x.wp P (eA i Q) ρ h):LC.wp P (.block i x) Q ρ h:=hx
theorem Ge {v:Value} (hk:ρ.all (λp=>!kl.contains p.1&&!(p.1 == c))=PC):bV (setE (bV ρ kl) c v) [c]=ρ:=by have h:=LY.1 hk;simp only[Lt,M3,beq_eq_false_iff_ne,ne_eq]at h;have h1:bV ρ kl=ρ:=lu λp hp=>(h p hp).1;rw[h1];exact lg λp hp=>(h p hp).2
theorem zv (v:Bool) (hk:ρ.all (λp=>!kl.contains p.1&&!(p.1 == c))=PC) (he:ev (look ρ) (vw h) e=Py (.bool v)) (hx:LC.wp P (bif v then a else b) Q ρ h) :
  LC.wp P (.seq (.reg PD (.fin kl [(c,e)] [])) (.cond (.tmp c) [c] a b)) Q ρ h:=by
 rw[rD,kQ];refine⟨[(c,.bool v)],?_,trivial,?_⟩
 ·simp only[part];simp[evP,he]
 simp only[cW,eG];rw[lB];have hl:ev (look (setE (bV ρ kl) c (.bool v))) (vw h) (.tmp c)=Py (.bool v):=by simp[ag]
 rw[hl,Ge hk];cases v
 ·simpa using hx
 simpa using hx
theorem uK (hk:ρ.all (λp=>!kl.contains p.1&&!(p.1 == c))=PC) (he:ev (look ρ) (vw h) e=Py (.bool PC)) (hx:LC.wp P a Q ρ h) :
  LC.wp P (.seq (.reg PD (.fin kl [(c,e)] [])) (.cond (.tmp c) [c] a b)) Q ρ h:=zv PC hk he hx
theorem wv (hk:ρ.all (λp=>!kl.contains p.1&&!(p.1 == c))=PC) (he:ev (look ρ) (vw h) e=Py (.bool PD)) (hx:LC.wp P b Q ρ h) :
  LC.wp P (.seq (.reg PD (.fin kl [(c,e)] [])) (.cond (.tmp c) [c] a b)) Q ρ h:=zv PD hk he hx
end Go.Lft
namespace Go.Lft
open Go
variable {pp:PP} {P:Program} {Q:Post} {ρ:Env} {h:Heap} {kl:List Nat} {c:Nat} {e:E} {a b x:LC}
def Slk (ρ:Env) (l:List (Nat × Value)):Prop:=∀p∈l,look ρ p.1=Py p.2
theorem vu {p:Nat × Value} {l:List (Nat × Value)}:Slk ρ (p::l)↔look ρ p.1=Py p.2/\Slk ρ l:=by unfold Slk;simp
theorem yP:Slk ρ []↔True:=by unfold Slk;simp
end Go.Lft
namespace Go.Lft
open Go
variable {pp:PP} {P:Program} {Q:Post} {ρ:Env} {h:Heap} {kl:List Nat} {c:Nat} {e:E} {a b x:LC}
end Go.Lft
namespace Go.Lft
open Go
def oneO {α:Type} [Rep α] (k:Key) (e:TypeId) (v:Value) (l:List α):Own:=λq=>if q=k then it e v l else Pz
section
variable {po po2:OP} {α:Type} [Rep α] {W:View} {h:Heap} {k:Key} {e:TypeId} {v:Value} {l:List α} {P:Program} {ty:TypeId} {us:List (Nat × Value)}
theorem pF:oneO k e v l k=it e v l:=by unfold oneO;rw[if_pos rfl]
theorem vD {v':Value} {l':List α}:(oneO k e v l).upd k (it e v' l')=oneO k e v' l':=by
 funext q;show(if q=k then it e v' l' else(if q=k then it e v l else Pz))=if q=k then it e v' l' else Pz;by_cases c:q=k
 ·rw[if_pos c,if_pos c]
 rw[if_neg c,if_neg c,if_neg c]
end
end Go.Lft
namespace Go.Proofs.YtnfiilgdjpdlkaaGreatDoor
open Go Go.Lft
def x16 (x:Int):Nat:=(BitVec.ofInt 64 x&&& BitVec.ofInt 64 65535).toNat
theorem ym {x:Int}:Bn.ev (.bits .and) (Pv Pw x) (Pv Pw 65535)=Py (Pv Pw (x16 x))/\x16 x<65536:=by
 have hlt:x16 x<=65535:=by unfold x16;rw[BitVec.toNat_and];exact LG Nat.and_le_right P4
 refine⟨?_,by omega⟩;have e:Bn.ev (.bits .and) (Pv Pw x) (Pv Pw 65535)=Py (Pv Pw (IntKind.i64.wrap (x16 x))):=rfl;rw[e,bH P2 P2]
end Go.Proofs.YtnfiilgdjpdlkaaGreatDoor
namespace Go.Lft
open Go
structure FitR where
 fit:FitD
 ok:Bool
 deriving Inhabited
instance:Rep FitR:=Rep.via λx=>Cat.mk x.fit x.ok
end Go.Lft
namespace Go.Proofs.YtnfiilgdjpdlkaaGreatDoor
open Go Go.Lft
end Go.Proofs.YtnfiilgdjpdlkaaGreatDoor
namespace Go.Lft
open Go
variable {po:OP}
end Go.Lft
namespace Go.Proofs.YtnfiilgdjpdlkaaGreatDoor
open Go Go.Lft
instance:Inhabited I32:=⟨⟨0⟩⟩
section
variable {h:Heap} {A B:Nat} {a b:Int} {n:Nat}
end
section
variable {po:OP} {A B D k r:Nat} {h:Heap} {us:List (Nat × Value)} {ty:TypeId} {K:Value->Heap->Prop} {x y:Operand}
end
end Go.Proofs.YtnfiilgdjpdlkaaGreatDoor
namespace Go.Proofs.YtnfiilgdjpdlkaaGreatDoor
open Go Go.Lft
theorem HZ{l:List Int}{n:Int}{v:Value}{h:Heap}(hs:SlRd (vw h) v l):az PE 29 #[v,Pv Pw n] h (λu h'=>h'=h/\u = .bool (l.contains n)):=by
 refine au (args:=[v,Pv Pw n]) follows Tryz.func29 E.fV Pp λK hK=>?_;dsimp only[L.fV,lkF,lkG];refine ab λz hz=>?_;simp;subst hz;refine ab λz hz=>?_;simp;refine cT [0,1,5] (fun(_:Unit) k=>[v,Pv Pw n,Pv Pw k]) (λ_ k h2=>h2=h/\(l.take k).contains n=PD) l.length ()
  rfl (by obtain⟨_,_,_,_,hb,_⟩:=hs;omega) rfl ⟨rfl,rfl⟩ (λ_ _=>rfl) (λ_ k h2 hk e=>by rw[e.1];simp[hs.len]) ?_ ?_
 ·rintro _ k h2 hk ⟨rfl,hc⟩ K2 hK2;have q:=hs.idx1 (k:=.i64) (i:=(k:Int)) rfl P2 P2;have p:=hs.int Ps (i:=k) hk;simp at p q;have et:(l.take (k+1)).contains n=((l.take k).contains n||decide (n=nth l k)):=by rw[LD hk,List.contains_append,<-aA hk];simp[List.contains_cons]
  by_cases c:nth l k=n
  ·refine lE ?_;refine uK Ri (by simp[q,p,c]) ?_;simp;refine hK _ _ ⟨rfl,?_⟩;have:l.contains n=true:=by rw[List.contains_iff_mem,<-c];exact bC hk
   rw[this]
  refine lE ?_;refine wv Ri (by simp[q,p,c]) ?_;simp;exact hK2 () _ _ rfl rfl ⟨rfl,by rw[et,hc];simp;exact λe=>c e.symm⟩
 rintro _ h2 ⟨rfl,hc⟩;rw[Lw (Lp _)]at hc;simp;subst hz;simp;exact hK _ _ ⟨rfl,by rw[hc]⟩
theorem Ag{v:Int}{w:Int × Int}{ns:List Int}: ∀{l:WL},(ns.foldl (bP v w) l).length=l.length+ns.count v:=by
 induction ns with
 | nil=>intro l;simp
 | cons n ns ih=>
  intro l;rw[LR,ih,MM];unfold bP;by_cases c:n=v
  ·rw[if_pos c,if_pos (by simp[c])];simp;omega
  rw[if_neg c,if_neg (by simp[c])];omega
theorem C1{v:Int}{l:List Th}: ∀{y:WL},(l.foldl (pB v) y).length=y.length+(l.map λt=>t.tks.count v).sum:=by
 induction l with
 | nil=>intro y;simp
 | cons t l ih=>intro y;rw[LR,ih];unfold pB;rw[Ag,MO,List.sum_cons];omega
theorem Au{f:aj}{v:Int}(h:dk f v=PC):(iV v (aD f)).length=1:=by unfold dk jP at h;simp only[Lt]at h;have hb:=h.1;unfold lV at hb;simp at hb;exact hb.1.1.1.2
theorem I6{l:List Nat}{n:Nat}(h:n∈l):n<=l.sum:=by
 induction l with
 | nil=>cases h
 | cons a l ih=>
  rw[List.sum_cons];rcases LF.1 h with rfl | h
  ·omega
  have:=ih h;omega
theorem lf{f:aj}{v:Int}(h:dk f v=PC){t:Th}(ht:t∈aD f):t.tks.count v<=1:=by have e:=Au h;unfold iV at e;rw[C1]at e;have:=I6 (MN.2 ⟨t,ht,rfl⟩:t.tks.count v∈(aD f).map λt=>t.tks.count v);simp at e;omega
theorem pZ{f:aj}{v:Int}(h:dk f v=PC){t t':Th}(ht:t∈aD f)(ht':t'∈aD f)(hk:v∈t.tks)(hk':v∈t'.tks):t.blk=t'.blk/\t.place=t'.place:=by
 have e:=Au h;have m1:(t.blk,t.place)∈iV v (aD f):=qu.2 (.inr ⟨t,ht,rfl,hk⟩);have m2:(t'.blk,t'.place)∈iV v (aD f):=qu.2 (.inr ⟨t',ht',rfl,hk'⟩);match hl:iV v (aD f),e with
 | [y],_=>rw[hl]at m1 m2;simp at m1 m2;have:=m1.trans m2.symm;exact⟨congrArg Prod.fst this,congrArg Prod.snd this⟩
theorem sN{f:aj}{v op:Int}(hf:(aF f v op).2=PC){t:Th}(ht:t∈aD f)(hk:v∈t.tks){b:Nat}(hb:t.blk=b):
  ∃m:Nat,b<f.blocks.length/\m<(nth f.blocks b).ins.length/\(m:Int)<t.place/\nth (nth f.blocks b).ins m=(aF f v op).1/\(aF f v op).1.op≠16/\(aF f v op).1.dst=v:=by
 obtain⟨m1,m2,m3,m4,m5⟩:=dV hf;obtain⟨b2,k2,hb2,hk2,e2⟩:=lJ.1 m1;have hm:v∈(insT f b2 k2).mks:=by show v∈cr (nth (nth f.blocks b2).ins k2);rw[<-e2];unfold cr;rw[if_neg m5];split<;>simp[m4]
 obtain⟨q1,q2⟩:=mA m3 (eH hb2 hk2) ht hm hk;have q1:(b2:Int)=t.blk:=q1;have q2:(k2:Int)<t.place:=q2;obtain rfl:b2=b:=by omega
 exact⟨k2,hb2,hk2,q2,e2.symm,m5,m4⟩
def CD (f:aj) (b:Nat) (i:Int) (u:Int) (P:InsD->Prop):Prop:=∃m:Nat,m<(nth f.blocks b).ins.length/\(m:Int)<i/\(nth (nth f.blocks b).ins m).op≠16/\(nth (nth f.blocks b).ins m).dst=u/\P (nth (nth f.blocks b).ins m)
structure lU (f:aj) (b:Nat) (i:Int) (own takes inner:List Int):Prop where
 fold : ∀u∈inner,dk f u=PC
 out : ∀u∈inner,u∉takes
 made : ∀u∈inner,CD f b i u λ_=>True
 from_ : ∀v∈takes,v∈own\/∃u∈inner,CD f b i u λx=>v∈x.args
 two:inner.length<=2
 inn : ∀u∈inner,u∈own\/∃w∈inner,CD f b i w λx=>u∈x.args
 cnt : ∀v,dk f v=PC->takes.count v<=1
 len : ∃m:Nat,takes.length<=own.length+(nth (nth f.blocks b).ins m).args.length
theorem sG : ∀{l r:List Int},(∀v,l.count v<=r.count v)->l.length<=r.length
 | [],r,_=>Nk _
 | a::l,r,h=>by
  have h1:=h a;rw[OC]at h1;have hm:a∈r:=L7.1 P2;have ih:=sG (l:=l) (r:=r.erase a) λv=>by have h2:=h v;rw[List.count_erase];rw[MM]at h2;split at h2<;>rename_i c<;>simp_all<;>omega
  rw[List.length_erase_of_mem hm]at ih;have:=List.length_pos_of_mem hm;simp only[ME];omega
section
variable {f:aj} {b:Nat} {t:Th} {takes:List Int}
theorem dZ(ht:t∈aD f)(h : ∀v,takes.count v<=t.tks.count v){i:Int}:lU f b i t.tks takes []:=
 ⟨λ_ h=>(nomatch h),λ_ h=>(nomatch h),λ_ h=>(nomatch h),λv hv=>.inl (L7.1 (Nw (L7.2 hv) (h v))),by simp,λ_ h=>(nomatch h),λv hf=>LG (h v) (lf hf ht),0,LG (sG h) (NM _ _)⟩
theorem y7{l:List Int}{a:Int}(h:a∈l.erase a):2<=l.count a:=by have h1:=L7.2 h;rw[List.count_erase_self]at h1;omega
theorem mU{a op:Int}(ht:t∈aD f)(hb:t.blk=b)(ha:a∈t.tks)(hf:(aF f a op).2=PC)(hC : ∀v,takes.count v<=(t.tks.erase a).count v+(aF f a op).1.args.count v):lU f b t.place t.tks takes [a]:=by
 have hT : ∀v∈takes,v∈t.tks.erase a\/v∈(aF f a op).1.args:=λv hv=>by
  have h1:=L7.2 hv;have h2:=hC v;rcases ML ((t.tks.erase a).count v)with h | h
  ·exact .inr (L7.1 P2)
  exact .inl (L7.1 h)
 obtain⟨m,hb1,hm,hlt,e,h16,hd⟩:=sN hf ht ha hb;obtain⟨-,-,hfo,-,-⟩:=dV hf;refine⟨λu hu=>?_,λu hu hv=>?_,λu hu=>?_,λv hv=>?_,by simp,λu hu=>.inl (by rw[Ls.1 hu];exact ha),λv hv=>?_,m,?_⟩;rotate_left 4
 ·have h1:=hC v;have h2:=lf hv ht;have hx:(insT f b m).tks=(aF f a op).1.args:=by show(nth (nth f.blocks b).ins m).args=_;rw[e]
  have h3:=lf hv (eH hb1 hm);rw[hx]at h3;have h4:(t.tks.erase a).count v<=t.tks.count v:=List.erase_sublist.count_le _;rcases ML ((t.tks.erase a).count v)with h | h
  ·omega
  rcases ML ((aF f a op).1.args.count v)with h5 | h5
  ·omega
  have:=pZ hv ht (eH hb1 hm) (L7.1 P2) (by rw[hx];exact L7.1 h5);have h2:t.place=(m:Int):=this.2;omega
 ·have h1:=sG (l:=takes) (r:=t.tks.erase a++(aF f a op).1.args) λv=>by rw[List.count_append];exact hC v
  rw[Lx]at h1;have h2:=List.length_erase_le (a:=a) (l:=t.tks);rw[e];omega
 ·rw[Ls.1 hu];exact hfo
 ·rw[Ls.1 hu]at hv;rcases hT a hv with h | h
  ·have:=y7 h;have:=lf hfo ht;omega
  have:=pZ hfo ht (eH hb1 hm) ha (by show a∈(nth (nth f.blocks b).ins m).args;rw[e];exact h);have h2:t.place=(m:Int):=this.2;omega
 ·rw[Ls.1 hu];exact⟨m,hm,hlt,by rw[e];exact h16,by rw[e];exact hd,trivial⟩
 rcases hT v hv with h | h
 ·exact .inl (List.mem_of_mem_erase h)
 exact .inr ⟨a,by simp,m,hm,hlt,by rw[e];exact h16,by rw[e];exact hd,by rw[e];exact h⟩
theorem DU{a c p op op2:Int}{r:List Int}(ht:t∈aD f)(hb:t.blk=b)(ha:a∈t.tks)(hf:(aF f a op).2=PC)(hc:(aF f c op2).2=PC)(hD:(aF f a op).1.args=p::c::r)(hC : ∀v,takes.count v<=(t.tks.erase a).count v+[p].count v):lU f b t.place t.tks takes [a,c]:=by
 have hT : ∀v∈takes,v∈t.tks.erase a\/v=p:=λv hv=>by
  have h1:=L7.2 hv;have h2:=hC v;rcases ML ((t.tks.erase a).count v)with h | h
  ·exact .inr (Ls.1 (L7.1 P2))
  exact .inl (L7.1 h)
 obtain⟨m,hb1,hm,hlt,e,h16,hd⟩:=sN hf ht ha hb;have hx:(insT f b m).tks=p::c::r:=by show(nth (nth f.blocks b).ins m).args=_;rw[e,hD]
 have hcm:c∈(insT f b m).tks:=by rw[hx];simp
 obtain⟨m2,-,hm2,hlt2,e2,h162,hd2⟩:=sN hc (eH hb1 hm) hcm (b:=b) rfl;have hlt2:(m2:Int)<m:=hlt2;obtain⟨-,-,hfo,-,-⟩:=dV hf;obtain⟨-,-,hfc,-,-⟩:=dV hc;have one:=mU (takes:=takes) ht hb ha hf (λv=>LG (hC v) (OH (by rw[hD,MM,MM];simp) _));have a2:CD f b t.place c λ_=>True:=⟨m2,hm2,by omega,by rw[e2];exact h162,by rw[e2];exact hd2,trivial⟩;refine⟨λu hu=>?_,λu hu hv=>?_,λu hu=>?_,λv hv=>?_,by simp,λu hu=>?_,one.cnt,one.len⟩;rotate_left 4
 ·rcases LF.1 hu with rfl | hu
  ·exact .inl ha
  rw[Ls.1 hu];exact .inr ⟨a,by simp,m,hm,hlt,by rw[e];exact h16,by rw[e];exact hd,by show c∈(nth (nth f.blocks b).ins m).args;rw[e,hD];simp⟩
 ·rcases LF.1 hu with rfl | hu
  ·exact hfo
  rw[Ls.1 hu];exact hfc
 ·rcases LF.1 hu with rfl | hu
  ·exact one.out u Sa hv
  rw[Ls.1 hu]at hv;rcases hT c hv with h | h
  ·have:=pZ hfc ht (eH hb1 hm) (List.mem_of_mem_erase h) hcm;have h2:t.place=(m:Int):=this.2;omega
  have h1:=lf hfc (eH hb1 hm);rw[hx,<-h,OC,OC]at h1;omega
 ·rcases LF.1 hu with rfl | hu
  ·exact one.made u Sa
  rw[Ls.1 hu];exact a2
 rcases one.from_ v hv with h | ⟨u,hu,h⟩
 ·exact .inl h
 exact .inr ⟨u,by rw[Ls.1 hu];simp,h⟩
theorem oF{l:List Int}(h:2<=l.length): ∃r,l=nth l 0::nth l 1::r:=by
 match l,h with
 | a::b::r,_=>exact⟨r,rfl⟩
theorem EE{l:List Int}(h:1<=l.length):l=nth l 0::l.drop 1:=by
 match l,h with
 | a::r,_=>rfl
theorem C3{a b:Int}{r:List Int}:a∈(a::b::r).erase b:=by
 by_cases c:a=b
 ·subst c;rw[OD];simp
 rw[List.erase_cons_tail (by simpa using c)];simp
theorem pn{i:InsD}{m lo hi sg:Int}{x:FitD}(ht:t∈aD f)(hb:t.blk=b)(hk:t.tks=i.args)(hl:2<=i.args.length)(h:immS f i m lo hi sg=Py x):lU f b t.place t.tks x.takes x.inner:=by
 unfold immS at h;split at h
 ·rename_i hc;cases h;unfold ed at hc;simp only[Lt]at hc;obtain⟨r,e⟩:=oF hl;refine mU ht hb (by rw[hk];exact bC P2) hc.1 λv=>LG ?_ (NM _ _);rw[hk];have:=C3 (a:=nth i.args 0) (b:=nth i.args 1) (r:=r);rw[<-e]at this;exact(List.singleton_sublist.2 this).count_le _
 cases h
theorem wO{i:InsD}{temp op pl su:Int}{k:Nat}{x:FitD}(ht:t∈aD f)(hb:t.blk=b)(hk:t.tks=i.args)(hall : ∀i∈dG f,rY i)(hl:1<=i.args.length)(h:memS f i temp op pl su k=Py x):lU f b t.place t.tks x.takes x.inner:=by
 have e:=EE hl;have ha:nth i.args 0∈t.tks:=by rw[hk];exact bC P2
 have er:t.tks.erase (nth i.args 0)=i.args.drop 1:=by have q:(nth i.args 0::i.args.drop 1).erase (nth i.args 0)=i.args.drop 1:=OD _ _;rw[<-e]at q;rw[hk];exact q
 have own : ∀v,(nth i.args 0::i.args.drop 1).count v<=t.tks.count v:=λv=>by rw[hk,<-e];exact Lp _
 match k with
 | 0=>
  simp only[memS]at h;split at h
  ·cases h;exact dZ ht own
  cases h
 | 1=>
  simp only[memS]at h;split at h
  ·rename_i hf;split at h
   ·rename_i hc;cases h;unfold ed at hc;simp only[Lt]at hc;obtain⟨m1,m2,-⟩:=dV hf;obtain⟨r,e2⟩:=oF ((hall _ m1).two P2);refine DU ht hb ha hf hc.1.1 e2 λv=>?_;rw[er,MM,MM];simp
   cases h
  cases h
 | 2=>
  simp only[memS]at h;split at h
  ·rename_i hf;simp only[Lt]at hf;cases h;obtain⟨m1,m2,-⟩:=dV hf.1;have h2:=(hall _ m1).two P2;refine mU ht hb ha hf.1 λv=>?_;obtain⟨r,e2⟩:=oF h2;rw[er,e2,MM,MM,MM,MM];simp[nth];omega
  cases h
 | k+3=>simp only[memS]at h;cases h;exact dZ ht own
end
set_option maxHeartbeats 4000000 in
theorem uN{s:bR}{pat:Int}{x:FitD}{b:Nat}{t:Th}(ht:t∈aD s.f)(hb:t.blk=b)(hk:t.tks=ownArgs s)(hok:kI s)(hte:s.t.kind=2->s.t.args.length=1)(h:tryS s pat=Py x):lU s.f b t.place t.tks x.takes x.inner:=by
 have own : ∀v,(ownArgs s).count v<=t.tks.count v:=λv=>by rw[hk];exact Lp _
 unfold tryS at h;unfold ownArgs at hk own;cases htm:s.term with
 | true=>
  rw[htm,if_pos rfl]at h;rw[htm,if_pos rfl]at hk own;have non : ∀v,([]:List Int).count v<=t.tks.count v:=λ_=>Nk _;unfold gI at h;split at h
  ·cases h;exact dZ ht non
  split at h
  ·cases h;exact dZ ht own
  split at h
  ·cases h;exact dZ ht non
  split at h
  ·cases h;exact dZ ht own
  split at h
  ·rename_i c;split at h
   ·rename_i c2;cases h;have e:s.t.args=[nth s.t.args 0]:=by
     match hl:s.t.args,hte c.2 with
     | [a],_=>rfl
    have:=mU (takes:=(aF s.f (nth s.t.args 0) (pat-23)).1.args) ht hb (by rw[hk];exact bC (by rw[hte c.2];omega)) c2 λv=>Nat.le_add_left _ _;rw[<-e]at this;exact this
   cases h
  split at h
  ·cases h;exact dZ ht own
  cases h
 | false=>
  rw[htm,if_neg Sa]at h;rw[htm,if_neg Sa]at hk own;have non : ∀v,([]:List Int).count v<=t.tks.count v:=λ_=>Nk _;unfold patS at h;split at h
  ·rename_i c;obtain⟨c1,c2,c3⟩:=c;have hp1:1<=pat.toNat/\pat.toNat<=32:=by omega
   generalize pat.toNat=p at *;have len2:16<=p->p<=22->2<=s.i.args.length:=by
    intro h2 h30;have hopr:2<=s.i.op/\s.i.op<=14:=by
     rw[c3];unfold opOf;repeat' split
     all_goals omega
    exact hok.one.two (.inl hopr)
   have len:16<=p->p<=30->1<=s.i.args.length:=by
    intro h2 h30;have hopr:(2<=s.i.op/\s.i.op<=14)\/s.i.op=16\/s.i.op=15:=by
     rw[c3];unfold opOf;repeat' split
     all_goals omega
    rcases hopr with q | q | q
    ·have:=hok.one.two (.inl q);omega
    ·have:=hok.one.two (.inr (.inl q));omega
    exact hok.one.one q
   unfold doS at h;by_cases p1:p=1
   ·rw[if_pos p1]at h;by_cases q:inR s.i.imm.v (-32768) 32767=PC
    ·rw[if_pos q]at h;cases h;exact dZ ht non
    rw[if_neg q]at h;cases h
   rw[if_neg p1]at h;by_cases p2:p=2
   ·rw[if_pos p2]at h;cases h;exact dZ ht non
   rw[if_neg p2]at h;by_cases p15:p<=15
   ·rw[if_pos p15]at h;cases h;exact dZ ht own
   rw[if_neg p15]at h;by_cases p16:p=16
   ·rw[if_pos p16]at h;exact pn ht hb hk (len2 P2 P2) h
   rw[if_neg p16]at h;by_cases p17:p=17
   ·rw[if_pos p17]at h;exact pn ht hb hk (len2 P2 P2) h
   rw[if_neg p17]at h;by_cases p18:p=18
   ·rw[if_pos p18]at h;exact pn ht hb hk (len2 P2 P2) h
   rw[if_neg p18]at h;by_cases p21:p<=21
   ·rw[if_pos p21]at h;exact pn ht hb hk (len2 P2 P2) h
   rw[if_neg p21]at h;by_cases p22:p=22
   ·rw[if_pos p22]at h;by_cases q:(aF s.f (nth s.i.args 0) 4).2=PC
    ·rw[if_pos q]at h;have l2:=len2 P2 P2;obtain⟨m1,m2,-⟩:=dV q;have l3:=(hok.all _ m1).two P2;cases h;refine mU ht hb (by rw[hk];exact bC P2) q λv=>?_;obtain⟨r,e⟩:=oF l2;obtain⟨r2,e2⟩:=oF l3;have w:(nth s.i.args 0::nth s.i.args 1::r).erase (nth s.i.args 0)=nth s.i.args 1::r:=OD _ _;rw[<-e]at w;rw[hk,w,e2];simp only[MM,nth];simp;omega
    rw[if_neg q]at h;cases h
   rw[if_neg p22]at h;by_cases p26:p<=26
   ·rw[if_pos p26]at h;exact wO ht hb hk hok.all (len P2 P2) h
   rw[if_neg p26]at h;by_cases p30:p<=30
   ·rw[if_pos p30]at h;exact wO ht hb hk hok.all (len P2 P2) h
   rw[if_neg p30]at h;by_cases p31:p=31
   ·rw[if_pos p31]at h;cases h;exact dZ ht own
   rw[if_neg p31]at h;cases h;exact dZ ht own
  cases h
theorem Hb{f:aj}{b:Nat}(m:ml f)(hb:b<f.blocks.length)(hk:(nth f.blocks b).term.kind=2):(nth f.blocks b).term.args.length=1:=by have h:=(m.endG hb).1;generalize (nth f.blocks b).term=t at *;unfold s9 at h;rw[if_neg P2,if_pos hk]at h;simp at h;omega
theorem zz{f:aj}{b i:Nat}{pat temp:Int}{x:FitD}(m:ml f)(hsm:SmF f)(hr : ∀i∈dG f,-2147483648<=i.imm.v/\i.imm.v<=2147483647)(hb:b<f.blocks.length)(hi:i<=(nth f.blocks b).ins.length)(h:tryS (dL f b i temp) pat=Py x):
  lU f b i (if i<(nth f.blocks b).ins.length then(nth (nth f.blocks b).ins i).args else(nth f.blocks b).term.args) x.takes x.inner:=by
 have hp:de f b i=true:=by simp[de];omega
 obtain⟨h1,h2,h3,h4⟩:=uj (temp:=temp) m hsm hr hp;have eb:((b:Int)).toNat=b:=by omega
 by_cases e:i=(nth f.blocks b).ins.length
 ·have es:dL f b i temp=⟨f,fQ,(nth f.blocks b).term,PC,temp⟩:=by unfold dL;rw[eb,if_pos P2]
  rw[es]at h h1;rw[if_neg P2];have:=uN (s:=⟨f,fQ,(nth f.blocks b).term,PC,temp⟩) (t:=endT f b) (b:=b) (xe hb) rfl rfl h1 (λhk=>Hb m hb hk) h;rw[e];exact this
 have es:dL f b i temp=⟨f,nth (nth f.blocks b).ins i,lF,PD,temp⟩:=by unfold dL;rw[eb,if_neg P2];rfl
 rw[es]at h h1;rw[if_pos P2];have hi2:i<(nth f.blocks b).ins.length:=by omega
 exact uN (s:=⟨f,nth (nth f.blocks b).ins i,lF,PD,temp⟩) (t:=insT f b i) (b:=b) (eH hb hi2) rfl rfl h1 (λhk=>by simp[lF]at hk) h
section
variable {f:aj} {b:Nat} {u:Int} {l l':List Int} {m:Nat}
def Got (f:aj) (b:Nat) (u:Int) (l:List Int) (m:Nat):Prop:=∀j,j<m->(nth (nth f.blocks b).ins j).op≠16->(nth (nth f.blocks b).ins j).dst=u->∀v∈(nth (nth f.blocks b).ins j).args,v∈l
def Fnd (f:aj) (b:Nat) (u:Int) (m:Nat):Prop:=∃j,j<m/\(nth (nth f.blocks b).ins j).op≠16/\(nth (nth f.blocks b).ins j).dst=u
theorem Got.more(g:Got f b u l m)(h : ∀v∈l,v∈l'):Got f b u l' m:=λj hj h1 h2 v hv=>h v (g j hj h1 h2 v hv)
theorem Got.zero:Got f b u l 0:=λj hj=>by omega
theorem Got.skip(g:Got f b u l m)(h:¬((nth (nth f.blocks b).ins m).op≠16/\(nth (nth f.blocks b).ins m).dst=u)):Got f b u l (m+1):=λj hj h1 h2 v hv=>by
 by_cases e:j=m
 ·subst e;exact absurd ⟨h1,h2⟩ h
 exact g j P2 h1 h2 v hv
theorem Got.put(g:Got f b u l m):Got f b u (l++(nth (nth f.blocks b).ins m).args) (m+1):=λj hj h1 h2 v hv=>by
 by_cases e:j=m
 ·subst e;exact MG _ hv
 exact L8 _ (g j P2 h1 h2 v hv)
def lim6 (j m:Nat):Nat:=10000+j*100000000+m*10000
theorem sE{j m:Nat}:lim6 j (m+1)=lim6 j m+10000:=by unfold lim6;omega
theorem C4{j m:Nat}(h:m<=10000):lim6 j m<=lim6 (j+1) 0:=by unfold lim6;omega
theorem Dg{j m:Nat}(h:m<=10000)(h2:j<=2):lim6 j m<=1000000000:=by unfold lim6;omega
theorem DA:lim6 0 0=10000:=rfl
theorem EC{i:Nat}{pat:Int}{x:FitD}(hsm:SmF f)(hr : ∀i∈dG f,-2147483648<=i.imm.v/\i.imm.v<=2147483647)(hb:b<f.blocks.length)(hi:i<=(nth f.blocks b).ins.length)(h:fI f b i pat=Py x):
  lU f b i (if i<(nth f.blocks b).ins.length then(nth (nth f.blocks b).ins i).args else(nth f.blocks b).term.args) x.takes x.inner:=by
 unfold fI iF at h;split at h
 ·split at h
  ·rename_i c;simp only[Lt]at c;exact zz (mR c.2) hsm hr hb hi h
  cases h
 cases h
end
set_option maxHeartbeats 2000000 in
theorem yN{s:List Int}{bk pl:Int}{vs:Value}{h:Heap}(ht:Tab h)(hM:kG)(hs:SlRd (vw h) vs s)(ib:I64 bk)(ip:I64 pl):
  az PE 6 #[vs,Pv Pw bk,Pv Pw pl] h (λu h'=>u = .bool PC/\(vw h).le (vw h')):=by
 refine au (args:=[vs,Pv Pw bk,Pv Pw pl]) follows Tryz.func6 E.aH Pp λK hK=>?_;dsimp only[L.aH,lkF,lkG];refine ab λz hz=>?_;simp;subst hz;refine ab λz hz=>?_;simp;refine af P1 (DY ht) ?_;rintro _ h1 ⟨hle1,rfl⟩;subst hz;refine ab λz hz=>?_;simp;refine af P1 (E5 (hs.mono hle1)) ?_;rintro uf h2 ⟨hle2,rf⟩;have hsm:SmF (ko (s.take 200)):=GX;have him:=tV rf;have hne:0<(ko (s.take 200)).blocks.length:=by have:=(Eh (s:=s.take 200)).1;omega
 generalize ko (s.take 200)=f at *;refine dz (X:=vw h2) (z:=.agg #[Pv Pw 0,PA Pz 0 0]) P1 rfl P1 rf P5 P5 λh3 hle3 _ at3=>?_;have at3:=at3 (vw h3) hle3 rfl;generalize h2.size=B at at3;have l03:=Pt hle1 (Pt hle2 hle3);have ht3:Tab h3:=ht.mono l03;obtain⟨uF,huf,ruf⟩:=at3.ldN rfl (N:=2) rfl;subst hz;refine ab λz hz=>?_;obtain⟨vbl,cbl,sbl⟩:=(at3.part aj.ry).list;obtain⟨b,hb⟩ : ∃b,b=x16 bk % f.blocks.length:=⟨_,rfl⟩;have eb:((x16 bk:Nat):Int).tmod (f.blocks.length:Int)=(b:Int):=by rw[hb];rfl
 have hbl:b<f.blocks.length:=by rw[hb];exact Nat.mod_lt _ hne
 simp at cbl;have hx1:=(ym (x:=bk)).2;have hdiv:Bn.ev (.div .rem) (Pv Pw (x16 bk)) (Pv Pw (f.blocks.length:Int))=Py (Pv Pw (b:Int)):=by rw[<-eb];exact FD P2
 simp[cbl,sbl.len,(ym (x:=bk)).1,hdiv];subst hz;refine ab λz hz=>?_;have qb:=sbl.idxn (k:=.i64) (N:=6) rfl (i:=(b:Int)) P2 P2;have n6:Rep.n BlkD=6:=rfl;obtain⟨ux,hux,rux⟩:=(sbl.at hbl).ldN rfl (N:=6) rfl;have hux:=hux _ Ps;simp[n6]at qb hux;simp[cbl,qb,hux];refine dz (X:=vw h3) (z:=.agg #[PA Pz 0 0,PA Pz 0 0,Pv Pw 0,PA Pz 0 0,PA Pz 0 0,Pv Px 0]) P1 rfl P1 rux P5 P5 λh4 hle4 _ at4=>?_;have at4:=at4 (vw h4) hle4 rfl;generalize h3.size=X at at4;have ruf:=ruf.mono hle4;have ht4:=ht3.mono hle4;subst hz;refine ab λz hz=>?_;obtain⟨vin,cin,sin⟩:=(at4.part BlkD.mw).list;obtain⟨i,hi⟩ : ∃i,i=x16 pl % (f.blocks[b].ins.length+1):=⟨_,rfl⟩;simp at cin;have hil:i<=f.blocks[b].ins.length:=by have:=Nat.mod_lt (x16 pl) (show 0<f.blocks[b].ins.length+1 by omega);omega
 have hpl:=(ym (x:=pl)).2;have hsb:=(hsm.blk b hbl).ins;rw[aA hbl]at hsb;have ewi:IntKind.i64.wrap ((f.blocks[b].ins.length:Int)+1)=(f.blocks[b].ins.length:Int)+1:=bH P2 P2;have hdiv2:Bn.ev (.div .rem) (Pv Pw (x16 pl)) (Pv Pw ((f.blocks[b].ins.length:Int)+1))=Py (Pv Pw (i:Int)):=by rw[hi];exact FD P2
 simp[cin,sin.len,(ym (x:=pl)).1,ewi,hdiv2];subst hz;refine ab λz hz=>?_;simp;refine DS [7,8,9,10,11,12] (fun(_:Unit) k=>[.bool PC,PB (Py ⟨B,0,Pz⟩),Pv Pw b,PB (Py ⟨X,0,Pz⟩),Pv Pw i,Pv Pw ((k:Int)+1)]) (λ_ k h=>(vw h4).le (vw h)) 37 () rfl Ps ?_;rintro _ k h5 hk hle5 K2 hK2;dsimp only[L.aH.l1,lkF,lkG];have ht5:=ht4.mono hle5;refine ab λy hy=>?_;refine ab λw hw=>?_;simp;refine af P1 (pJ ht5) ?_;rintro _ h6 ⟨hle6,rfl⟩;simp;subst hw;have l6:=Pt hle5 hle6;by_cases ck:k<37
 ·have ck2:(k:Int)+1<=37:=by omega
  simp[ck2];subst hy;refine ab λy hy=>?_;refine ab λw hw=>?_;have huf6:=huf _ (Pt hle4 l6);simp[huf6];refine af P1 (AE (b:=(b:Int)) (p:=(i:Int)) (pat:=(k:Int)+1) (W:=vw h6) Ps (ruf.mono l6) hsm (λ_ _ _=>hM) (by constructor<;>omega)) ?_;rintro _ h7 ⟨hle7,v1,v2,rfl,s1,s2⟩;simp;subst hw;refine ab λw hw=>?_;cases hmt:fI f b i ((k:Int)+1)with
  | none=>simp[hmt];subst hy;have ewk:IntKind.i64.wrap ((k:Int)+1+1)=(k:Int)+1+1:=bH P2 P2;simp[ewk];exact hK2 () _ _ ck rfl (Pt l6 hle7)
  | some x=>
   simp[hmt];have l7:=Pt l6 hle7;subst hw;refine ab λw hw=>?_;simp;have w7:=Owns.start (h:=h7) (View.le_refl (vw h7));refine w7.kq (k:=(0,0)) (α:=Int) rfl El.aR λv3 h8 hle8 hv8 w8 _=>?_;subst hw;refine ab λw hw=>?_;obtain⟨own,hown⟩ : ∃own,own=if i<f.blocks[b].ins.length then(nth f.blocks[b].ins i).args else f.blocks[b].term.args:=⟨_,rfl⟩;have w8:Owns (vw h7) h8 (oneO (0,0) T.int v3 ([]:List Int)):=w8.sub λq i hq=>by
    unfold oneO at hq;split at hq
    ·rename_i e;subst e;rw[Own.ao];exact hq
    cases hq
   refine gy (λρ h9=>∃v9:Value,Owns (vw h7) h9 (oneO (0,0) T.int v9 own)/\Slk ρ [(7,.bool PC),(8,PB (Py ⟨B,0,Pz⟩)),(9,Pv Pw b),(10,PB (Py ⟨X,0,Pz⟩)),(11,Pv Pw i),(12,Pv Pw ((k:Int)+1)),(13,v1),(14,v2),(16,v9)]) ?_ ?_
   ·intro K3 hK3;have l8:=Pt l7 hle8;have sin8:=sin.mono l8;by_cases c:i<f.blocks[b].ins.length
    ·refine uK Ri (by simp[ae l8 cin,sin8.len];omega) ?_;have qi:=sin8.idxn (k:=.i64) (N:=5) rfl (i:=(i:Int)) P2 P2;obtain⟨va,ca,sa⟩:=((sin.at c).part InsD.dI).list;have ca:=ae l8 ca;have n5:Rep.n InsD=5:=rfl;simp[n5]at qi ca;simp[ae l8 cin,qi,ca];have hal:f.blocks[b].ins[i].args.length<=10000:=by have:=(hsm.blk b hbl).inn i (by rw[aA hbl];exact c);rw[aA hbl,aA c]at this;exact this
     refine w8.df (k:=(0,0)) (l2:=f.blocks[b].ins[i].args) pF El.aR Sa Sa ((sa.mono l7).src w8.wle) P9 P9 λv9 h9 w9 _=>?_;rw[vD]at w9;exact hK3 _ _ ⟨v9,by rw[hown,if_pos c,aA c];exact w9,by simp[vu,yP,ag,ah]⟩
    refine wv Ri (by simp[ae l8 cin,sin8.len];omega) ?_;obtain⟨va,ca,sa⟩:=((at4.part BlkD.mF).part cM.dI).list;have ca:=ae l8 ca;simp at ca;simp[ca];have hal:f.blocks[b].term.args.length<=10000:=by have:=(hsm.blk b hbl).args;rw[aA hbl]at this;exact this
    refine w8.df (k:=(0,0)) (l2:=f.blocks[b].term.args) pF El.aR Sa Sa ((sa.mono l7).src w8.wle) P9 P9 λv9 h9 w9 _=>?_;rw[vD]at w9;exact hK3 _ _ ⟨v9,by rw[hown,if_neg c];exact w9,by simp[vu,yP,ag,ah]⟩
   rintro ρ h9 ⟨v9,w9,hS⟩;subst hw;have hlen9:own.length<=10000:=by
    rw[hown];split
    ·rename_i c;exact((hsm.blk b hbl).inn i (by rw[aA hbl];exact c)) |> λq=>by rw[aA hbl]at q;exact q
    have:=(hsm.blk b hbl).args;rw[aA hbl]at this;exact this
   have io:=EC hsm him hbl (by rw[aA hbl];exact hil) hmt;rw[aA hbl,<-hown]at io;simp only[vu,yP,and_true]at hS;obtain⟨e7,e8,e9,e10,e11,e12,e13,e14,e16⟩:=hS;rw[hmt]at s1 s2;have s1:SlRd (vw h7) v1 x.takes:=s1;have s2:SlRd (vw h7) v2 x.inner:=s2;refine ab λw hw=>?_;simp;refine cT [7,8,9,10,11,12,13,14,16,17] (fun(s:Value × List Int) j=>[.bool PC,PB (Py ⟨B,0,Pz⟩),Pv Pw b,PB (Py ⟨X,0,Pz⟩),Pv Pw i,Pv Pw ((k:Int)+1),v1,v2,s.1,Pv Pw j])
    (λs j h=>Owns (vw h7) h (oneO (0,0) T.int s.1 s.2)/\(∀v∈own,v∈s.2)/\s.2.length<=lim6 j 0/\∀j'<j,Got f b (nth x.inner j') s.2 i) x.inner.length (v9,own)
    P1 (by have:=io.two;omega) (by simp[bK,ag,ah,e7,e8,e9,e10,e11,e12,e13,e14,e16]) ⟨w9,λ_ h=>h,by rw[DA];exact hlen9,λ_ h=>by omega⟩ (λ_ _=>rfl) ?_ ?_ ?_
   ·rintro s j h ho ⟨w10,-⟩;simp[s2.len]
   ·rintro⟨v,l⟩ j h10 hj ⟨w10,ho10,hl10,hg10⟩ K5 hK5;have hj:j<x.inner.length:=hj;have hj2:=io.two;refine lE ?_;refine ab λq hq=>?_;simp;subst hq;refine ab λq hq=>?_;simp;refine zb [7,8,9,10,11,12,13,14,16,17,18,19] (fun(s:(Value × List Int) × Bool) m=>[.bool PC,PB (Py ⟨B,0,Pz⟩),Pv Pw b,PB (Py ⟨X,0,Pz⟩),Pv Pw i,Pv Pw ((k:Int)+1),v1,v2,s.1.1,Pv Pw j,.bool s.2,Pv Pw m])
     (λs m h=>Owns (vw h7) h (oneO (0,0) T.int s.1.1 s.1.2)/\(∀v∈own,v∈s.1.2)/\s.1.2.length<=lim6 j m/\(∀j'<j,Got f b (nth x.inner j') s.1.2 i)/\Got f b (nth x.inner j) s.1.2 m/\(Fnd f b (nth x.inner j) m->s.2=PC)) i ((v,l),PD)
     P1 P2 rfl ⟨w10,ho10,hl10,hg10,Got.zero,λ⟨_,h,_⟩=>by omega⟩ (λ_ _=>rfl) ?_ ?_ ?_
    ·rintro⟨⟨v,l⟩,fo⟩ m h11 hm ⟨w11,-⟩;have l11:(vw h4).le (vw h11):=Pt l7 w11.wle;by_cases c:m<f.blocks[b].ins.length
     ·simp[ae l11 cin,(sin.mono l11).len,c]
     have e:¬m<i:=by omega
     simp[ae l11 cin,(sin.mono l11).len,c,e]
    ·rintro⟨⟨v,l⟩,fo⟩ m h11 hm ⟨w11,ho11,hl11,hp11,hg11,hf11⟩ K6 hK6;have l11:(vw h4).le (vw h11):=Pt l7 w11.wle;have hml:m<f.blocks[b].ins.length:=by omega
     have hll:l.length<=1000000000:=LG hl11 (Dg P2 P2);have qm:=(sin.mono l11).idxn (k:=.i64) (N:=5) rfl (i:=(m:Int)) P2 P2;have c0:=ae l11 ((sin.at hml).part InsD.tF).int;have c1:=ae l11 ((sin.at hml).part InsD.gJ).int;obtain⟨va,ca,sa⟩:=((sin.at hml).part InsD.dI).list;have ca:=ae l11 ca;have n5:Rep.n InsD=5:=rfl;simp[n5]at qm c0 c1 ca;have hal:f.blocks[b].ins[m].args.length<=10000:=by have:=(hsm.blk b hbl).inn m (by rw[aA hbl];exact hml);rw[aA hbl,aA hml]at this;exact this
     have en:nth (nth f.blocks b).ins m=f.blocks[b].ins[m]:=by rw[aA hbl,aA hml]
     generalize f.blocks[b].ins[m]=I at *;have cj:=ae l11 cin;have qj:=(s2.mono w11.wle).idx1 (k:=.i64) (i:=(j:Int)) rfl P2 P2;have pj:=s2.int w11.wle (i:=j) hj;simp at qj pj;refine lE ?_;refine ab λq2 hq2=>?_;refine aT (vw h11) Ps ?_;by_cases cc:I.op≠16/\I.dst=nth x.inner j
     ·simp[cj,qm,c0,c1,qj,pj,cc.1,cc.2];rw[hq2];clear hq2 q2;simp[cj,qm,ca];refine w11.df (k:=(0,0)) (l2:=I.args) pF El.aR Sa Sa ((sa.mono l7).src w11.wle) P9 P9 λv9 h12 w12 _=>?_;rw[vD]at w12;refine hK6 ((v9,l++I.args),PC) _ _ rfl rfl ⟨w12,λv hv=>L8 _ (ho11 v hv),by rw[sE,Lx];exact Nat.add_le_add hl11 hal,λj' hj'=>(hp11 j' hj').more λv hv=>L8 _ hv,?_,λ_=>rfl⟩;rw[<-en];exact hg11.put
     by_cases c2:I.op=16
     ·simp[cj,qm,c0,c1,qj,pj,c2];rw[hq2];clear hq2 q2;simp;refine hK6 ((v,l),fo) _ _ rfl rfl ⟨w11,ho11,by rw[sE];exact LG hl11 (NM _ _),hp11,hg11.skip (by rw[en];exact cc),λ⟨a,h1,h2,h3⟩=>?_⟩;by_cases e:a=m
      ·subst e;rw[en]at h2;exact absurd c2 h2
      exact hf11 ⟨a,by omega,h2,h3⟩
     have c3:¬I.dst=nth x.inner j:=λe=>cc ⟨c2,e⟩;simp[cj,qm,c0,c1,qj,pj,c2,c3];rw[hq2];clear hq2 q2;simp;refine hK6 ((v,l),fo) _ _ rfl rfl ⟨w11,ho11,by rw[sE];exact LG hl11 (NM _ _),hp11,hg11.skip (by rw[en];exact cc),λ⟨a,h1,h2,h3⟩=>?_⟩;by_cases e:a=m
     ·subst e;rw[en]at h3;exact absurd h3 c3
     exact hf11 ⟨a,by omega,h2,h3⟩
    rintro⟨⟨v,l⟩,fo⟩ h11 ⟨w11,ho11,hl11,hp11,hg11,hf11⟩;have hfo:fo=true:=hf11 (by obtain⟨m,h1,h2,h3,h4,-⟩:=io.made _ (bC hj);exact⟨m,by omega,h3,h4⟩);subst hfo;subst hq;have l11:(vw h4).le (vw h11):=Pt l7 w11.wle;have huf11:=huf _ (Pt hle4 l11);have qj:=(s2.mono w11.wle).idx1 (k:=.i64) (i:=(j:Int)) rfl P2 P2;have pj:=s2.int w11.wle (i:=j) hj;simp at qj pj;have hiv:I64 (nth x.inner j):=s2.range hj;refine ab λq hq=>?_;refine aT (vw h11) Ps ?_;simp[huf11,qj,pj];refine af P1 (oe (ruf.mono l11) hsm hiv) ?_;rintro _ h12 ⟨rfl,hle12⟩;rw[io.fold _ (bC hj)];refine⟨hle12,?_⟩;simp;refine af P1 (HZ (s1.mono (Pt w11.wle hle12))) ?_;rintro _ _ ⟨rfl,rfl⟩;have hnc:x.takes.contains (nth x.inner j)=false:=by simpa using io.out _ (bC hj)
    rw[hnc];refine⟨hle12,?_⟩;subst hq;simp;exact hK5 (v,l) _ _ rfl rfl ⟨w11.ext' hle12,ho11,LG hl11 (C4 P2),λj' hj'=>by
     by_cases e:j'=j
     ·subst e;exact hg11
     exact hp11 j' P2⟩
   rintro⟨v,l⟩ h10 ⟨w10,ho10,hl10,hg10⟩;subst hw;simp;refine cT [7,8,9,10,11,12,13,16,20] (fun(_:Unit) j=>[.bool PC,PB (Py ⟨B,0,Pz⟩),Pv Pw b,PB (Py ⟨X,0,Pz⟩),Pv Pw i,Pv Pw ((k:Int)+1),v1,v,Pv Pw j])
    (λ_ _ h=>h=h10) x.takes.length () P1 (by obtain⟨_,_,_,_,hb,_⟩:=s1;omega) rfl rfl ?_ ?_ ?_ ?_
   ·intro _ j;rfl
   ·rintro _ j h hj rfl;simp[s1.len]
   ·rintro _ j h11 hj rfl K5 hK5;have hj:j<x.takes.length:=hj;have qj:=(s1.mono w10.wle).idx1 (k:=.i64) (i:=(j:Int)) rfl P2 P2;have pj:=s1.int w10.wle (i:=j) hj;simp at qj pj;have hin:l.contains (nth x.takes j)=true:=by
     rw[List.contains_iff_mem];rcases io.from_ _ (bC hj)with q | ⟨u,hu,m,h1,h2,h3,h4,h5⟩
     ·exact ho10 _ q
     obtain⟨j',hj',rfl⟩:=LO hu;rw[<-aA hj']at h4;exact hg10 j' hj' m P2 h3 h4 _ h5
    refine lE ?_;refine ab λq hq=>?_;simp[qj,pj];refine af P1 (HZ (w10.now pF)) ?_;rintro _ _ ⟨rfl,rfl⟩;rw[hin];simp;subst hq;simp;exact hK5 () _ _ rfl rfl rfl
   rintro _ h11 rfl;simp;subst hy;have ewk:IntKind.i64.wrap ((k:Int)+1+1)=(k:Int)+1+1:=bH P2 P2;simp[ewk];exact hK2 () _ _ ck rfl (Pt l7 w10.wle)
 have ck2:¬(k:Int)+1<=37:=by omega
 simp[ck2];subst hz;simp;exact hK _ _ ⟨rfl,Pt l03 (Pt hle4 l6)⟩
end Go.Proofs.YtnfiilgdjpdlkaaGreatDoor
