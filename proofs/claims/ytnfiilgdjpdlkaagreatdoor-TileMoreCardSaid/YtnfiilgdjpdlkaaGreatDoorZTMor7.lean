/- A part of the proof: Nb, Qh, Qj, LftTs, Qs, Qt, Qu, Qm, Ia, Qv. -/
import Derived.Test.YtnfiilgdjpdlkaaGreatDoorZTMor6
set_option linter.unusedSimpArgs false
set_option linter.unusedVariables false
open Go.Value renaming int->Pp,slice->Pv,pointer->Pw
open Go.IntKind renaming i64->Pq
open Option renaming some->Pt,none->Pu
open Bool renaming true->Px,false->Py
open Go.Proofs.Tryz renaming prog->Pz
namespace Go.Proofs.YtnfiilgdjpdlkaaGreatDoor
open Go Go.Lft
section
variable {s:List Int} {M:Nat} {vs:Value} {W:View} {h:Heap} {o:Own} {m:MS}
theorem MkB.boxed{vb vl:Value}{lb:List BlkM}(bb:MkB M vs m o vb vl lb)(m':MS)(h1:m'.blocks=m.blocks)(h2:m'.live=m.live):MkB M vs m' (o.upd (0,0) (bx T.aW M (RawN.mk (n:=5) (mkL vs m'.at_ m'.ps vb m'.next vl)))) vb vl lb:=
 ⟨rfl,by rw[h2];exact bb.live,bb.blk,by rw[h1];exact bb.len,by rw[h1];exact bb.term,by rw[h1];exact λi hi=>bb.phis i hi,by rw[h1];exact λi hi=>bb.ins i hi⟩
end
def gJ (R:Nat) (i10:Own):Own:=λk=>if k=(8,0) then bx T.dN R (RawN.mk (n:=1) [Pp Pq 0,Pv Pu 0 0]) else if 10<=k.1 then i10 k else Pu
structure FnB (o:Own) (vb:Value) (lb:List BlkM) (f:an):Prop where
 blk:o (0,2)=it T.ep vb lb
 len:lb.length=f.blocks.length
 term : ∀i,i<f.blocks.length->(nth lb i).term=(nth f.blocks i).term
 phis : ∀i,i<f.blocks.length->o (1,i)=it T.nm (nth lb i).phis.v (nth f.blocks i).phis
 ins : ∀i,i<f.blocks.length->o (2,i)=it T.dT (nth lb i).ins.v (nth f.blocks i).ins
theorem Iv{H:View}{vb:Value}{lb:List BlkM}{f:an}(h0:SlRd H vb lb)(hl:lb.length=f.blocks.length)(ht : ∀i,i<f.blocks.length->(nth lb i).term=(nth f.blocks i).term)(h1 : ∀i,i<f.blocks.length->SlRd H (nth lb i).phis.v (nth f.blocks i).phis)(h2 : ∀i,i<f.blocks.length->SlRd H (nth lb i).ins.v (nth f.blocks i).ins):SlRd H vb f.blocks:=by refine yf h0 rfl hl λi g1 g2 cs hr=>?_;have:=zF hr (p:=(nth f.blocks i).phis) (i:=(nth f.blocks i).ins) (by have:=h1 i g2;rwa [aA g1]at this) (by have:=h2 i g2;rwa [aA g1]at this);have ht:=ht i g2;rw[aA g1]at ht;rw[ht]at this;rw[<-aA g2];exact this
theorem FnB.freeze{W:View}{h:Heap}{o o0:Own}{vb:Value}{lb:List BlkM}{f:an}(b:FnB o vb lb f)(w:Owns W h o)(ho : ∀k:Key,3<=k.1->o k=o0 k)(ho0 : ∀k:Key,k.1<3->o0 k=Pu): ∃W',W.le W'/\Owns W' h o0/\SlRd W' vb f.blocks:=by
 obtain⟨W17,hW17,w17,fr⟩:=w.wT (λk=>decide (k.1<3));refine⟨W17,hW17,w17.sub λk i hk=>?_,Iv (fr (k:=(0,2)) Sa b.blk) b.len b.term (λi hi=>fr (k:=(1,i)) Sa (b.phis i hi)) λi hi=>fr (k:=(2,i)) Sa (b.ins i hi)⟩;rcases Lr k.1 3 with e | e
 ·rw[ho0 k e]at hk;cases hk
 have h2:¬k.1<3:=by omega
 simp only[h2,decide_false,MO,if_false];rw[ho k e];exact hk
theorem Er{s:List Int}{vs:Value}{h:Heap}{W:View}{o0:Own}(w0:Owns W h o0)(ho0 : ∀k:Key,k.1<10->o0 k=Pu)(hs:SlRd W vs s):
  az Pz 35 #[vs] h (λu h'=>∃W' o vb lb,W.le W'/\Owns W' h' o/\(∀k:Key,3<=k.1->o k=o0 k)/\FnB o vb lb (lJ s)/\u = .agg #[Pp Pq (lJ s).params,vb]):=by
 refine aq (args:=[vs]) follows Tryz.func35 E.ao Pj λK hK=>?_;have hs0:=hs;obtain⟨sa,sc,rfl,_⟩:=hs0;dsimp only[L.ao,lkF,lkG];refine ab λz hz=>?_;simp;refine w0.cj (k:=(8,0)) (n:=1) (z:=.agg #[Pp Pq 0,Pv Pu 0 0]) (ho0 _ P4) P1 rfl P4 P8 λh1 q1 w1=>?_;generalize h.size=R at w1;subst hz;refine ab λz hz=>?_;simp;refine aw (z:=.agg #[Pv Pu 0 0,Pp Pq 0,Pp Pq 0,Pv Pu 0 0,Pp Pq 0,Pv Pu 0 0]) (places:=[(0,1),(1,1),(2,2),(4,1),(5,1)]) (vs:=[(0,.slice sa s.length sc)]) (cs:=#[.slice sa s.length sc,Pp Pq 0,Pp Pq 0,Pv Pu 0 0,Pp Pq 0,Pv Pu 0 0]) P1 P1 Sa P1 ?_;generalize s.length=sl at hs;refine dh rfl ?_;have hbx:(h1.push (.cells (Value.agg #[.slice sa sl sc,Pp Pq 0,Pp Pq 0,Pv Pu 0 0,Pp Pq 0,Pv Pu 0 0]).cells T.aW))[h1.size]? = Pt (.cells (Value.agg #[.slice sa sl sc,Pp Pq 0,Pp Pq 0,Pv Pu 0 0,Pp Pq 0,Pv Pu 0 0]).cells T.aW (0,0)):=by simp
 have hle2:=bN h1 (.cells (Value.agg #[.slice sa sl sc,Pp Pq 0,Pp Pq 0,Pv Pu 0 0,Pp Pq 0,Pv Pu 0 0]).cells T.aW);have hbg : ∀b,(Pv (Pt ⟨h1.size,0,Pu⟩) 1 1).ownBlock=Pt b->h1.size<=b:=λb hb=>by simp only[Value.ownBlock,Ln]at hb;omega
 show LC.wp Pz z _ _ (h1.push (.cells (Value.agg #[.slice sa sl sc,Pp Pq 0,Pp Pq 0,Pv Pu 0 0,Pp Pq 0,Pv Pu 0 0]).cells T.aW));generalize h1.push (.cells (Value.agg #[.slice sa sl sc,Pp Pq 0,Pp Pq 0,Pv Pu 0 0,Pp Pq 0,Pv Pu 0 0]).cells T.aW)=h2 at hbx hle2;have w2:=w1.add (k:=(0,0)) ((Own.ay Sa).trans (ho0 _ P4)) (iB (W:=W) (d:=RawN.mk (n:=5) [.slice sa sl sc,Pp Pq 0,Pp Pq 0,Pv Pu 0 0,Pp Pq 0,Pv Pu 0 0]) hbx (pg rfl P7) P4) hle2 hbg;generalize h1.size=M at w2;generalize hvs:Value.slice sa sl sc=vs at hs w2;obtain⟨m0,hm0⟩ : ∃m0:MS,m0=⟨0,0,[],0,[]⟩:=⟨_,rfl⟩;obtain⟨o2,ho2⟩ : ∃o2:Own,o2=λk=>if k=(0,0) then bx T.aW M (RawN.mk (n:=5) (mkL vs 0 0 (Pv Pu 0 0) 0 (Pv Pu 0 0))) else if k=(0,1) then it T.int (Pv Pu 0 0) ([]:List Int) else if k=(0,2) then it T.ep (Pv Pu 0 0) ([]:List BlkM) else gJ R o0 k:=⟨_,rfl⟩;have w2:Owns W h2 o2:=w2.nils λk i hk=>by
  rw[ho2]at hk;dsimp only at hk;split at hk
  ·rename_i e;rw[e];exact .inl hk
  rename_i e0;split at hk
  ·cases hk;exact .inr ⟨rfl,OwnT.nil (α:=Int) _ _ _⟩
  split at hk
  ·cases hk;exact .inr ⟨rfl,OwnT.nil (α:=BlkM) _ _ _⟩
  refine .inl ?_;rw[Own.ay e0];by_cases e8:k=(8,0)
  ·subst e8;exact hk
  rw[Own.ay e8];unfold gJ at hk;rw[if_neg e8]at hk;split at hk
  ·exact hk
  cases hk
 have w2:Mk s M vs W h2 o2 m0:=⟨w2,hs,Pv Pu 0 0,Pv Pu 0 0,[],by rw[ho2,hm0];rfl,by rw[ho2,hm0];rfl,by rw[ho2];rfl,by rw[hm0];rfl,λi hi=>by rw[hm0]at hi;simp at hi,λi hi=>by rw[hm0]at hi;simp at hi,λi hi=>by rw[hm0]at hi;simp at hi⟩;have f2 : ∀k:Key,3<=k.1->o2 k=gJ R o0 k:=λk hk=>by rw[ho2];dsimp only;rw[if_neg (by rintro rfl;simp at hk),if_neg (by rintro rfl;simp at hk),if_neg (by rintro rfl;simp at hk)]
 clear w1 hbx hbg hle2 q1 ho2;subst hz;refine ab λz hz=>?_;simp;refine af P1 (w2.take (by rw[hm0];decide) (n:=5) P4 P4) ?_;rintro _ h3 ⟨rfl,o3,w3,f3⟩;have tv:=cG (s:=s) (at_:=m0.at_) (n:=5) P4;obtain⟨vb,vl,lb,bb⟩:=w3.box;refine w3.own.de (k:=(0,0)) (n:=5) (i:=2) (e:=T.aW) (B:=M) (l:=mkL vs m0.took.at_ m0.took.ps vb m0.took.next vl) bb.box P4 P1 rfl rfl rfl λh4 w4 _=>?_;have b4:=bb.boxed ⟨m0.took.at_,aE s m0.at_ 5,m0.took.blocks,m0.took.next,m0.took.live⟩ rfl rfl;subst hz;refine ab λz hz=>?_;have w4:Mk s M vs W h4 _ _:=⟨w4,w3.src,vb,vl,lb,b4⟩;have rd:=w4.reads b4;simp[rd.ps];refine w4.own.de (k:=(0,0)) (n:=5) (i:=4) (e:=T.aW) (B:=M) (l:=mkL vs m0.took.at_ (aE s m0.at_ 5) vb m0.took.next vl) b4.box P4 P1 rfl rfl rfl λh5 w5 _=>?_;have b5:=b4.boxed ⟨m0.took.at_,aE s m0.at_ 5,m0.took.blocks,aE s m0.at_ 5,m0.took.live⟩ rfl rfl;have w5:Mk s M vs W h5 _ _:=⟨w5,w3.src,vb,vl,lb,b5⟩;obtain⟨o5,ho5⟩ : ∃o5,o5=(o3.upd (0,0) (bx T.aW M (RawN.mk (n:=5) (mkL vs m0.took.at_ (aE s m0.at_ 5) vb m0.took.next vl)))).upd (0,0) (bx T.aW M (RawN.mk (n:=5) (mkL vs m0.took.at_ (aE s m0.at_ 5) vb (aE s m0.at_ 5) vl))):=⟨_,rfl⟩;have f5 : ∀k:Key,3<=k.1->o5 k=gJ R o0 k:=λk hk=>by rw[ho5,Own.ay (by rintro rfl;simp at hk),Own.ay (by rintro rfl;simp at hk),f3 k hk,f2 k hk]
 rw[hm0]at w5;have w5:Mk s M vs W h5 o5 ⟨1,aE s 0 5,[],aE s 0 5,[]⟩:=by rw[ho5,hm0];exact w5
 clear b5 b4 rd w4 bb w3 f3 w2 f2 ho5 hvs;subst hz;refine ab λz hz=>?_;simp;refine af P1 (w5.take (show 1<=_ by omega) (n:=9) P4 P4) ?_;rintro _ h6 ⟨rfl,o6,w6,f6⟩;have w6:Mk s M vs W h6 o6 (wu s):=w6;have f6 : ∀k:Key,3<=k.1->o6 k=gJ R o0 k:=λk hk=>(f6 k hk).trans (f5 k hk);clear w5 f5;have hN:=C3 (s:=s);obtain⟨n1,n2⟩:=jL (s:=s);have hw:IntKind.i64.wrap (1+aE s 1 9)=(bK s:Nat):=by rw[hN];exact bw P2 P2
 simp[hw];subst hz;refine ab λz hz=>?_;simp;refine af P1 (Bo (ri:=gJ R o0) w6 (λk hk=>f6 k P2) (λk h1 h2=>(f6 k h1).trans (by unfold gJ;rw[if_neg (by rintro rfl;simp at h2),if_neg P2])) (n:=bK s) zC P2 n1 P2) ?_;rintro vt h7 ⟨W7,o7,g7,w7,r7,e7,st⟩;have w7:Mk s M vs W7 h7 o7 (ik s).2:=w7;have st:SlRd W7 vt (ik s).1:=st;have f7 : ∀k:Key,3<=k.1->o7 k=gJ R o0 k:=λk hk=>by
  by_cases e:8<=k.1
  ·exact r7 k e
  rw[e7 k hk P2];unfold gJ;rw[if_neg (by rintro rfl;simp at e),if_neg P2]
 clear r7 e7 w6 f6;have k1:=yC (s:=s);have s4:=tR (s:=s);subst hz;refine ab λz hz=>?_;simp;refine mZ (α:=BlkM) (W:=W7) (k:=.i64) (n:=bK s) (d:=⟨⟨Pv Pu 0 0⟩,⟨Pv Pu 0 0⟩,⟨0,[],[],⟨0⟩⟩⟩) El.lG Ri Ri ⟨[Pv Pu 0 0],_,rfl,⟨rfl,rfl⟩,[Pv Pu 0 0],_,rfl,⟨rfl,rfl⟩,[Pp Pq 0],_,rfl,⟨rfl,by decide,by decide⟩,[Pv Pu 0 0],_,rfl,⟨_,rfl,aJ⟩,[Pv Pu 0 0],_,rfl,⟨_,rfl,aJ⟩,rfl,by decide,by decide⟩ P2 P2 λvb8 h8 ob8 m8 hle8 hb8=>?_;obtain⟨vb,vl,lb,bb⟩:=w7.box;have wa:=w7.own.sub (o':=o7.upd (0,2) Pu) λj i hj=>by
  unfold Own.upd at hj;split at hj
  ·cases hj
  exact hj
 have wb:=wa.add (k:=(0,2)) Own.aj ob8 hle8 (λb hb=>by rw[hb8]at hb;cases hb;exact Lp _);have hv8:=(wb.cells (k:=(0,2)) Own.aj).2;obtain⟨o8,ho8⟩ : ∃o8:Own,o8=λk=>if k.1=1/\k.2<bK s then it T.nm (Pv Pu 0 0) ([]:List PhiD) else if k.1=2/\k.2<bK s then it T.dT (Pv Pu 0 0) ([]:List InsD) else o7.upd (0,2) (it T.ep vb8 (List.replicate (bK s) (BlkM.mk ⟨Pv Pu 0 0⟩ ⟨Pv Pu 0 0⟩ ⟨0,[],[],⟨0⟩⟩))) k:=⟨_,rfl⟩;have w8:Owns W7 h8 o8:=wb.nils λk i hk=>by
  rw[ho8]at hk;dsimp only at hk;split at hk
  ·cases hk;exact .inr ⟨rfl,OwnT.nil (α:=PhiD) _ _ _⟩
  split at hk
  ·cases hk;exact .inr ⟨rfl,OwnT.nil (α:=InsD) _ _ _⟩
  refine .inl ?_;by_cases e:k=(0,2)
  ·subst e;rw[Own.aj]at hk ⊢;exact hk
  rw[Own.ay e]at hk;rw[Own.ay e,Own.ay e];exact hk
 have c8 : ∀k:Key,¬(k.1=1/\k.2<bK s)->¬(k.1=2/\k.2<bK s)->o8 k=o7.upd (0,2) (it T.ep vb8 (List.replicate (bK s) (BlkM.mk ⟨Pv Pu 0 0⟩ ⟨Pv Pu 0 0⟩ ⟨0,[],[],⟨0⟩⟩))) k:=λk h1 h2=>by rw[ho8];dsimp only;rw[if_neg h1,if_neg h2]
 refine w8.de (k:=(0,0)) (n:=5) (i:=3) (e:=T.aW) (B:=M) (l:=mkL vs (ik s).2.at_ (ik s).2.ps vb (ik s).2.next vl) (by rw[c8 _ Sa Sa,Own.ay Sa];exact bb.box) P4 P1 rfl rfl hv8 λh9 w9 _=>?_;obtain⟨o9,ho9⟩ : ∃o9:Own,o9=o8.upd (0,0) (bx T.aW M (RawN.mk (n:=5) (mkL vs (ik s).2.at_ (ik s).2.ps vb8 (ik s).2.next vl))):=⟨_,rfl⟩;have w9:Owns W7 h9 o9:=by rw[ho9];exact w9
 have b9:MkB M vs { (ik s).2 with blocks:=List.replicate (bK s) ry } o9 vb8 vl (List.replicate (bK s) (BlkM.mk ⟨Pv Pu 0 0⟩ ⟨Pv Pu 0 0⟩ ⟨0,[],[],⟨0⟩⟩)):=by
  rw[ho9];refine⟨rfl,?_,?_,by simp,λi hi=>?_,λi hi=>?_,λi hi=>?_⟩
  ·rw[Own.ay Sa,c8 _ Sa Sa,Own.ay Sa];exact bb.live
  ·rw[Own.ay Sa,c8 _ Sa Sa,Own.aj]
  ·have hi:i<bK s:=by simpa using hi
   rw[aB hi,aB hi];rfl
  ·have hi:i<bK s:=by simpa using hi
   rw[Own.ay Sa,ho8];dsimp only;rw[if_pos ⟨rfl,hi⟩,aB hi,aB hi];rfl
  have hi:i<bK s:=by simpa using hi
  rw[Own.ay Sa,ho8];dsimp only;rw[if_neg Sa,if_pos ⟨rfl,hi⟩,aB hi,aB hi];rfl
 have x9:Nx s M vs W7 h9 (gJ R o0) { (ik s).2 with blocks:=List.replicate (bK s) ry }:=⟨W7,o9,View.le_refl _,⟨w9,w7.src,vb8,vl,_,b9⟩,λk hk=>by rw[ho9,Own.ay (by rintro rfl;simp at hk),c8 _ P2 P2,Own.ay (by rintro rfl;simp at hk)];exact f7 k hk⟩;clear b9 w9 ho9 c8 w8 ho8 wb wa hv8 bb ob8 m8 hle8 hb8 w7 f7;subst hz;refine ab λz hz=>?_;refine ab λy hy=>?_;simp;subst hy;refine HF (vr:=Pw (Pt ⟨R,0,Pu⟩)) st k1.len x9 Sa P2 (by simp[bL,ag,ah]) λh10 x10=>?_;have x10:Nx s M vs W7 h10 (gJ R o0) (rA s):=x10;clear x9;simp;subst hz;refine ab λz hz=>?_;simp;obtain⟨Wa,oa,ga,wa,fa⟩:=x10;refine mZ (α:=Int) (W:=Wa) (k:=.i64) (n:=bK s) (d:=0) El.aP Ri Ri ⟨rfl,by decide,by decide⟩ P2 P2 λvp h11 ob11 m11 hle11 hb11=>?_;have x11:Nx s M vs W7 h11 ((gJ R o0).upd (5,0) (it T.int vp (List.replicate (bK s) (0:Int)))) (rA s):=by
  have w11:=wa.own.add (k:=(5,0)) ((fa _ P4).trans rfl) ob11 hle11 (λb hb=>by rw[hb11]at hb;cases hb;exact Lp _);obtain⟨vb,vl,lb,bb⟩:=wa.box;refine⟨Wa,_,ga,⟨w11,wa.src,vb,vl,lb,bb.frame λq hq=>Own.ay (by rintro rfl;simp at hq)⟩,λq hq=>?_⟩;unfold Own.upd;split
  ·rfl
  exact fa q hq
 clear wa fa ob11 m11 hb11;subst hz;refine ab λz hz=>?_;refine ab λy hy=>?_;simp;subst hy;obtain⟨z2,g2⟩:=zA (s:=s);have p0:Ph (bK s) 200 0 (List.replicate (bK s) (0:Int),rA s):=by
  have hz : ∀j,nth (List.replicate (bK s) (0:Int)) j=0:=λj=>by
   rcases Lr j (bK s)with hj | hj
   ·rw[aB hj]
   rw[cI (by simpa using hj)];rfl
  exact⟨z2,by simp,λj _=>hz j,λj=>by show 0<=nth (List.replicate _ (0:Int)) j/\nth (List.replicate _ (0:Int)) j<=3;rw[hz];omega⟩
 refine Hk (x0:=(List.replicate (bK s) (0:Int),rA s)) (vr:=Pw (Pt ⟨R,0,Pu⟩)) (vt:=vt) (vp:=vp) x11 p0 n1 P2 P2 (by simp[bL,ag,ah]) λh12 x12=>?_;have x12:Nx s M vs W7 h12 ((gJ R o0).upd (5,0) (it T.int vp (jo s).1)) (jo s).2:=x12;obtain⟨ph,pc,g3⟩:=qD (s:=s);clear p0 x11 z2 g2;simp;subst hz;refine ab λz hz=>?_;simp;obtain⟨Wa,oa,ga,wa,fa⟩:=x12;refine mZ (α:=Bool) (W:=Wa) (k:=.i64) (n:=bK s) (d:=false) El.ny Ri Ri rfl P2 P2 λvd h13 ob13 m13 hle13 hb13=>?_;have x13:Nx s M vs W7 h13 (((gJ R o0).upd (5,0) (it T.int vp (jo s).1)).upd (6,0) (it T.bool vd (List.replicate (bK s) Py))) (jo s).2:=by
  have w13:=wa.own.add (k:=(6,0)) ((fa _ P4).trans rfl) ob13 hle13 (λb hb=>by rw[hb13]at hb;cases hb;exact Lp _);obtain⟨vb,vl,lb,bb⟩:=wa.box;refine⟨Wa,_,ga,⟨w13,wa.src,vb,vl,lb,bb.frame λq hq=>Own.ay (by rintro rfl;simp at hq)⟩,λq hq=>?_⟩;unfold Own.upd;split
  ·rfl
  exact fa q hq
 clear wa fa ob13 m13 hb13;subst hz;refine ab λz hz=>?_;refine ab λy hy=>?_;simp;subst hy;refine G5 (a:=16000) (p:=27) (x0:=(List.replicate (bK s) Py,(jo s).2)) (vr:=Pw (Pt ⟨R,0,Pu⟩)) (vp:=vp) x13 st k1.len rfl rfl rfl y3 n2 P2 P2 P2 (by simp[bL,ag,ah]) λh14 x14=>?_;have x14:Nx s M vs W7 h14 (((gJ R o0).upd (5,0) (it T.int vp (jo s).1)).upd (6,0) (it T.bool vd (xz s).1)) (xz s).2:=x14;obtain⟨q4,pc4⟩:=zg (s:=s);clear x13 pc g3;simp;subst hz;refine ab λz hz=>?_;refine ab λy hy=>?_;simp;subst hy;refine Fc (vr:=Pw (Pt ⟨R,0,Pu⟩)) (vt:=vt) (vp:=vp) (vd:=vd) (lp:=(jo s).1) x14 ((Own.ay Sa).trans Own.aj) rfl rfl q4 pc4 ph.len ph.rng n1 n2 P2 P2 P2 P2 (by simp[bL,ag,ah]) λh15 x15=>?_;have x15:Nx s M vs W7 h15 (((gJ R o0).upd (5,0) (it T.int vp (jo s).1)).upd (6,0) (it T.bool vd (xz s).1)) (s9 s):=x15;have q5:=oq (s:=s);clear x14 q4 pc4 ph;simp;subst hz;refine ab λz hz=>?_;obtain⟨Wa,oa,ga,wa,fa⟩:=x15;obtain⟨vb,vl,lb,bb⟩:=wa.box;have rd:=wa.reads bb;simp[rd.f];have hvb:vb.oneCell'=true:=rd.blk.cells.2;refine wa.own.fT (k:=(8,0)) (α:=RawN 1) (β:=RawN 1) Part.all (B:=R) (D:=RawN.mk (n:=1) [Pp Pq 0,Pv Pu 0 0]) (d:=RawN.mk (n:=1) [Pp Pq (s9 s).ps,vb]) ((fa _ P4).trans rfl) P1 rfl rfl (pg rfl (by intro c hc;simp only[LG,NK,or_false]at hc;rcases hc with rfl | rfl<;>first | rfl | exact hvb)) λh16 w16 _=>?_;have c16:=w16.v7 (k:=(8,0)) (n:=1) (l:=[Pp Pq (s9 s).ps,vb]) Own.aj;have c16:Un.ev (vw h16) (.bO 2) (Pw (Pt ⟨R,0,Pu⟩))=Pt (.agg #[Pp Pq (s9 s).ps,vb]):=c16;have b16:=bb.frame (o':=oa.upd (8,0) (bx T.dN R (RawN.mk (n:=1) [Pp Pq (s9 s).ps,vb]))) λq hq=>Own.ay (by rintro rfl;simp at hq);have w16:Mk s M vs Wa h16 _ (s9 s):=⟨w16,wa.src,vb,vl,lb,b16⟩;have rd16:=w16.reads b16;subst hz;simp[c16];refine hK _ _ ⟨Wa,λk=>if 3<=k.1 then o0 k else if k=(0,2)\/k.1=1\/k.1=2 then oa k else Pu,vb,lb,Pn g7 ga,w16.own.sub λk i hk=>?_,λk hk=>if_pos hk,⟨?_,b16.len,b16.term,λi hi=>?_,λi hi=>?_⟩,rfl⟩
 ·split at hk
  ·rename_i e3;rcases Lr k.1 10 with e | e
   ·rw[ho0 k e]at hk;cases hk
   have h1:oa k=o0 k:=(fa k P2).trans (by rw[Own.ay (by rintro rfl;simp at e),Own.ay (by rintro rfl;simp at e)];unfold gJ;rw[if_neg (by rintro rfl;simp at e),if_pos e]);rw[Own.ay (by rintro rfl;simp at e),h1];exact hk
  rename_i e3;split at hk
  ·rw[Own.ay (by rintro rfl;simp at e3)];exact hk
  cases hk
 ·have:=b16.blk;rw[Own.ay Sa]at this;simpa using this
 ·have:=b16.phis i hi;rw[Own.ay Sa]at this;exact(by simp:_=oa (1,i)).trans this
 have:=b16.ins i hi;rw[Own.ay Sa]at this;exact(by simp:_=oa (2,i)).trans this
theorem Gt{s:List Int}{vs:Value}{h:Heap}{W:View}{o0:Own}(w0:Owns W h o0)(ho0 : ∀k:Key,k.1<10->o0 k=Pu)(hs:SlRd W vs s):
  az Pz 35 #[vs] h (λu h'=>∃W',W.le W'/\Owns W' h' o0/\Rd W' u (lJ s)):=by refine(Er w0 ho0 hs).mono ?_;rintro u h' ⟨W1,o,vb,lb,hW,w,ho,b,rfl⟩;obtain⟨W2,hW2,w2,sb⟩:=b.freeze w ho λk hk=>ho0 k P2;have mp:=Al (s:=s);have mi:I64 (lJ s).params:=P6;exact⟨W2,Pn hW hW2,w2,⟨_,rfl,[Pp Pq (lJ s).params],[vb],rfl,⟨rfl,mi⟩,vb,rfl,sb⟩⟩
theorem C4{s:List Int}{v:Value}{h:Heap}{W:View}{o0:Own}(w0:Owns W h o0)(ho0 : ∀k:Key,k.1<10->o0 k=Pu)(h21:o0 (21,0)=Pu)(hs:SlRd W v s):
  az Pz 13 #[v] h (λu h'=>∃W',W.le W'/\Owns W' h' o0/\Rd W' u (lJ (s.take 200))):=by
 refine aq (args:=[v]) follows Tryz.func13 E.nv Pj λK hK=>?_;dsimp only[L.nv,lkF,lkG];have hb:=hs.bound;refine ab λz hz=>?_;simp;refine w0.cj (k:=(21,0)) (n:=1) (z:=.agg #[Pp Pq 0,Pv Pu 0 0]) h21 P1 rfl P4 P8 λh1 hle1 w1=>?_;generalize h.size=R at w1;subst hz;refine ab λz hz=>?_;have ho : ∀k:Key,k.1<10->(o0.upd (21,0) (bx T.dN R (RawN.mk (n:=1) (Value.agg #[Pp Pq 0,Pv Pu 0 0]).cells.toList))) k=none:=λk hk=>(Own.ay (by rintro rfl;simp at hk)).trans (ho0 k hk);have fin : ∀(W2:View) (h2:Heap) (u:Value) (ρ:Env),W.le W2->Owns W2 h2 (o0.upd (21,0) (bx T.dN R (RawN.mk (n:=1) (Value.agg #[Pp Pq 0,Pv Pu 0 0]).cells.toList)))->Rd W2 u (lJ (s.take 200))->Lft.look ρ 2=Pt (ptr R)->∀(po:OP) (us:List (Nat × Value)),asg us (.tmp 2)=ptr R->asg us (.tmp 8)=u->
   @Lft.step po Pz (Op.store 27 (Operand.tmp 2) (Operand.tmp 8)) 0 us h2 λ_ h'=>LC.wp Pz z (dF [.un (.bO 2) (.tmp 2)] K) ρ h':=λW2 h2 u ρ hW w2 r hl po us e1 e2=>by
  have q:=fq r;obtain⟨cs,rfl,h3⟩:=r;have hl3:=Rep.len h3;refine w2.od (k:=(21,0)) (n:=1) (l':=cs.toList) Own.aj P1 e1 (by simpa using e2) (by rw[hl3];rfl) (λc hc=>Rep.flat h3 c hc) λh4 w4 _=>?_;rw[hz];have hall:=w4.v7 (k:=(21,0)) (n:=1) (e:=T.dN) (B:=R) (l:=cs.toList) Own.aj;simp at hall;simp[hl,hall];refine hK _ _ ⟨W2,hW,w4.sub λj i hj=>?_,⟨_,rfl,h3⟩⟩;have:j≠(21,0):=by rintro rfl;rw[h21]at hj;cases hj
  rw[Own.ay this,Own.ay this];exact hj
 clear hK;have tk : ∃us,Bn.ev .hi v (Pp Pq (if(200:Int)<s.length then 200 else s.length))=Pt us/\SlRd W us (s.take 200):=by
  by_cases q:(200:Int)<s.length
  ·obtain⟨u,h2,h3⟩:=hs.take (n:=200) P2 (kd:=.i64);exact⟨u,by rw[if_pos q];exact h2,h3⟩
  obtain⟨u,h2,h3⟩:=hs.take (n:=s.length) P2 (kd:=.i64);refine⟨u,by rw[if_neg q];exact h2,?_⟩;rw[Lv P2];rw[Lv (Lp _)]at h3;exact h3
 obtain⟨us,h2,h3⟩:=tk;simp[hs.len,h2];refine af P1 (Gt w1 ho h3) ?_;rintro u8 h8 ⟨W8,hW8,w8,r8⟩;exact fin W8 h8 u8 [(0,v),(2,ptr R),(8,u8)] hW8 w8 r8 rfl _ [(2,ptr R),(8,u8)] rfl rfl
theorem Gc{s:List Int}{v:Value}{h:Heap}(hs:SlRd (vw h) v s):az Pz 13 #[v] h (λu h'=>(vw h).le (vw h')/\Rd (vw h') u (lJ (s.take 200))):=
 (C4 (Owns.start (View.le_refl (vw h))) (λ_ _=>rfl) rfl hs).mono λu h' ⟨W',q1,w',r'⟩=>⟨Pn q1 w'.wle,r'.mono w'.wle⟩
end Go.Proofs.YtnfiilgdjpdlkaaGreatDoor
namespace Go.Lft
open Go
section
variable {po po2:OP} {W:View} {h h':Heap} {o:Own} {k:Key} {P:Program} {ty:TypeId} {us:List (Nat × Value)}
theorem Owns.mX {α:Type} [Rep α] {e:TypeId} {B:Nat} {d:α} (w:Owns W h o) (hk:o k=bx e B d) : ∃W',W.le W'/\Owns W' h (o.upd k Pu)/\At W' ⟨B,0,Pu⟩ d:=by obtain⟨w1,s1⟩:=w.freeze (v:=Pv (Pt ⟨B,0,Pu⟩) 1 1) (l:=[d]) hk;refine⟨_,gq (w.av k _ hk),w1,?_⟩;have:=s1.at (i:=0) Sa;simpa[slA,Addr.z]using this
end
end Go.Lft
namespace Go.Proofs.YtnfiilgdjpdlkaaGreatDoor
open Go Go.Lft
theorem Fp {h:Heap}:az Pz 25 #[] h (λu h'=>(vw h).le (vw h')/\u = .agg (dc.map λc=>Pp Pq c).toArray):=by refine aq (args:=[]) follows Tryz.func25 E.lP Pj λK hK=>?_;dsimp only[L.lP,lkF,lkG];have c0:=Cx.start (h:=h) (View.le_refl (vw h));refine ab λz hz=>?_;simp;refine c0.cj (k:=(0,0)) (n:=36) (z:=.agg (List.replicate 37 (Pp Pq 0)).toArray) rfl P1 P1 P4 (by have:(Value.agg (List.replicate 37 (Pp Pq 0)).toArray).cells.toList=List.replicate 37 (Pp Pq 0):=rfl;rw[this];intro c hc;rw[List.eq_of_mem_replicate hc];rfl) λR h1 hle1 c1=>?_;subst hz;refine ab λz hz=>?_;simp;refine aw (t:=T.CB) (z:=.agg (List.replicate 37 (Pp Pq 0)).toArray) (places:=(List.range 37).map λi=>(i,1)) (vs:=(((dc.map λc=>Pp Pq c).zipIdx 0).map λp=>(p.2,p.1))) (cs:=(dc.map λc=>Pp Pq c).toArray) P1 P1 P1 P1 ?_;refine c1.od (k:=(0,0)) (n:=36) (l':=dc.map λc=>Pp Pq c) Ri P1 Sa Sa rfl (λc hc=>by obtain⟨x,_,rfl⟩:=MJ.1 hc;rfl) λh2 c2=>?_;subst hz;have hall:=c2.all (k:=(0,0)) (n:=36) (l:=dc.map λc=>Pp Pq c) (B:=R) (e:=T.CB) Ri;simp at hall;simp[hall];exact hK _ _ ⟨c2.le0,by simp⟩
end Go.Proofs.YtnfiilgdjpdlkaaGreatDoor
namespace Go.Lft
open Go
variable {pp:PP} {P:Program} {Q:Post} {ρ:Env} {h:Heap} {kl:List Nat} {c:Nat} {e:E} {a b x:LC}
theorem EK {v:Value} (hk:ρ.all (λp=>!kl.contains p.1&&!(p.1 == c))=Px):bT (setE (bT ρ kl) c v) [c]=ρ:=by have h:=LW.1 hk;simp only[Ls,MV,beq_eq_false_iff_ne,ne_eq]at h;have h1:bT ρ kl=ρ:=kU λp hp=>(h p hp).1;rw[h1];exact lD λp hp=>(h p hp).2
theorem zR (v:Bool) (hk:ρ.all (λp=>!kl.contains p.1&&!(p.1 == c))=Px) (he:ev (look ρ) (vw h) e=Pt (.bool v)) (hx:LC.wp P (bif v then a else b) Q ρ h) :
  LC.wp P (.seq (.reg Py (.fin kl [(c,e)] [])) (.cond (.tmp c) [c] a b)) Q ρ h:=by
 rw[rm,kI];refine⟨[(c,.bool v)],?_,trivial,?_⟩
 ·simp only[part];simp[evP,he]
 simp only[cV,fg];rw[kQ];have hl:ev (look (setE (bT ρ kl) c (.bool v))) (vw h) (.tmp c)=Pt (.bool v):=by simp[ag]
 rw[hl,EK hk];cases v
 ·simpa using hx
 simpa using hx
theorem lF (hk:ρ.all (λp=>!kl.contains p.1&&!(p.1 == c))=Px) (he:ev (look ρ) (vw h) e=Pt (.bool Px)) (hx:LC.wp P a Q ρ h) :
  LC.wp P (.seq (.reg Py (.fin kl [(c,e)] [])) (.cond (.tmp c) [c] a b)) Q ρ h:=zR Px hk he hx
theorem lf (hk:ρ.all (λp=>!kl.contains p.1&&!(p.1 == c))=Px) (he:ev (look ρ) (vw h) e=Pt (.bool Py)) (hx:LC.wp P b Q ρ h) :
  LC.wp P (.seq (.reg Py (.fin kl [(c,e)] [])) (.cond (.tmp c) [c] a b)) Q ρ h:=zR Py hk he hx
end Go.Lft
namespace Go.Lft
open Go
variable {pp:PP} {P:Program} {Q:Post} {ρ:Env} {h:Heap} {kl:List Nat} {c:Nat} {e:E} {a b x:LC}
end Go.Lft
namespace Go.Lft
open Go
variable {pp:PP} {P:Program} {Q:Post} {ρ:Env} {h:Heap} {kl:List Nat} {c:Nat} {e:E} {a b x:LC}
end Go.Lft
namespace Go.Lft
open Go
def oneO {α:Type} [Rep α] (k:Key) (e:TypeId) (v:Value) (l:List α):Own:=λq=>if q=k then it e v l else Pu
section
variable {po po2:OP} {α:Type} [Rep α] {W:View} {h:Heap} {k:Key} {e:TypeId} {v:Value} {l:List α} {P:Program} {ty:TypeId} {us:List (Nat × Value)}
theorem kN:oneO k e v l k=it e v l:=by unfold oneO;rw[if_pos rfl]
theorem vu {v':Value} {l':List α}:(oneO k e v l).upd k (it e v' l')=oneO k e v' l':=by
 funext q;show(if q=k then it e v' l' else(if q=k then it e v l else Pu))=if q=k then it e v' l' else Pu;by_cases c:q=k
 ·rw[if_pos c,if_pos c]
 rw[if_neg c,if_neg c,if_neg c]
theorem OwnT.src (o:OwnT W h e v l):SrcT (vw h) W v l:=by
 obtain⟨hbd,xs,⟨hx,hown⟩,hel⟩:=o;rcases hown with⟨rfl,hn⟩ | ⟨g,cap,cur,rfl,hg,h1,h2,h3,h4⟩
 ·have:l=[]:=LF hn;subst this;exact⟨Pu,0,rfl,λ_=>rfl,[],Sa,(λ_ e=>nomatch e),λi hi=>absurd hi (Nat.not_lt_zero _)⟩
 refine⟨Pt ⟨g,0,Pu⟩,cap,rfl,λe=>(by cases e),xs,hx,λad ea j x hj=>?_,hel⟩;cases ea;rw[aZ rfl];rw[<-h4,ML]at hj;split at hj
 ·have:=cB (H:=vw h) (c:=cur) (o:=j) (v:=x) hg (by simpa using hj);simpa using this
 cases hj
theorem Owns.E1 {t ty2:TypeId} {bytes:Nat} {z u:Value} {x y y2:Operand} {d:α} {us2:Value->List (Nat × Value)} {K:Value->Value->Heap->Prop} (w:Owns W h (oneO k e v l)) (hT:dR P t e (Rep.n α) bytes z) (hn:Rep.n α<=1000) (hx:asg us x=u) (hr:Rd W u d) (hb:(1+l.length)*bytes<=140737488355328) (hb2:1+l.length<=140737488355328) (hy : ∀u,asg (us2 u) y=u) (hy2 : ∀u,asg (us2 u) y2=v)
  (hK : ∀u v' h' k',Owns W h' (oneO k' e v' (d::l))->(vw h).le (vw h')->K u v' h') :
  @step po P (.buildSlice t 1 #[(0,x)]) ty us h λu h2=>@step po2 P (.call ⟨.builtin .append,#[y,y2],#[t,t]⟩) ty2 (us2 u) h2 λv' h3=>K u v' h3:=by
 obtain⟨k2,hk2⟩ : ∃k2:Key,k2≠k:=⟨(k.1+1,0),by rintro e;have:=congrArg Prod.fst e;simp at this⟩;have hk0:oneO k e v l k2=none:=by unfold oneO;rw[if_neg hk2]
 refine yi hT hx hr hn λh1 hle1 own1=>?_;have w1:=w.add (k:=k2) hk0 own1 hle1 (λb hb=>by simp only[Value.ownBlock,Ln]at hb;omega);have hkk:((oneO k e v l).upd k2 (it e (Pv (Pt ⟨h.size,0,Pu⟩) 1 1) [d])) k=it e v l:=by rw[Own.ay hk2.symm,kN]
 refine w1.dg (k:=k2) (v:=Pv (Pt ⟨h.size,0,Pu⟩) 1 1) (l:=[d]) (l2:=l) Own.aj hT (hy _) (hy2 _) (w1.get hkk).src (by simpa using hb) (by simpa using hb2) λv' h2 w2 m2=>?_;refine hK _ v' h2 k2 (w2.sub λj i hj=>?_) λb o hb=>?_
 ·unfold oneO at hj;split at hj
  ·rename_i e;subst e;rw[Own.aj];exact hj
  cases hj
 have hlt:=View.lt (View.le_refl (vw h)) hb;have h1b:=hle1 b o hb;have hlt1:=View.lt (View.le_refl (vw h1)) h1b;have:=m2.kept.block b hlt1 (by simp[Value.ownBlock];omega);show h2[b]? = Pt o;rw[this];exact h1b
end
end Go.Lft
namespace Go.Proofs.YtnfiilgdjpdlkaaGreatDoor
open Go Go.Lft
def x16 (x:Int):Nat:=(BitVec.ofInt 64 x&&& BitVec.ofInt 64 65535).toNat
theorem FF {x:Int}:Bn.ev (.bits .and) (Pp Pq x) (Pp Pq 65535)=Pt (Pp Pq (x16 x))/\x16 x<65536:=by
 have hlt:x16 x<=65535:=by unfold x16;rw[BitVec.toNat_and];exact LN Nat.and_le_right P4
 refine⟨?_,by omega⟩;have e:Bn.ev (.bits .and) (Pp Pq x) (Pp Pq 65535)=Pt (Pp Pq (IntKind.i64.wrap (x16 x))):=rfl;rw[e,bw P2 P2]
def tX (s:List Int) (i:Nat):Nat:=if i+1<s.length then x16 (nth s (i+1)) else 0
theorem Kn {s:List Int} {i:Nat}:tX s i<65536:=by
 unfold tX;split
 ·exact FF.2
 omega
def oA (s:List Int):Bool:=decide (0<s.length)&&decide ((nth s 0).tmod 4=1)
def tabT (s:List Int) (i:Nat):bQ:=⟨(i:Int)+1,if tX s i % 3=1 then((tX s i / 3 % 12:Nat):Int) else nth dc i⟩
def eV (s:List Int) (i:Nat) (l:List bQ):List bQ:=
 if oA s&&decide (tX s i % 9=3) then l
 else if tX s i % 5=2 then(if tX s i % 2=1 then tabT s i::l else l++[tabT s i])++[⟨(i:Int)+1,((tX s i % 7:Nat):Int)⟩]
 else if tX s i % 2=1 then tabT s i::l else l++[tabT s i]
def tabS (s:List Int):List bQ:=Lft.up (eV s) 37 []
theorem zr {s:List Int} {i:Nat} {l:List bQ}:(eV s i l).length<=l.length+2:=by
 unfold eV;split
 ·omega
 split
 ·split<;>simp
 split<;>simp
theorem tG {s:List Int} : ∀{n:Nat},(Lft.up (eV s) n []).length<=2*n
 | 0=>Lp _
 | n+1=>by have:=tG (s:=s) (n:=n);have:=zr (s:=s) (i:=n) (l:=Lft.up (eV s) n []);simp only[Lft.up];omega
def xc (t:bQ):Prop:=(1<=t.pat/\t.pat<=37)/\0<=t.cost/\t.cost<=12
theorem CX {s:List Int} {i:Nat} (hi:i<37):xc (tabT s i):=by
 unfold tabT xc;refine⟨by dsimp only;omega,?_⟩;dsimp only;split
 ·omega
 have hm:nth dc i∈dc:=bJ (by show i<37;exact hi);have:=oV _ hm;omega
theorem uN {s:List Int} : ∀{n:Nat},n<=37->∀t∈Lft.up (eV s) n [],xc t
 | 0,_,t,ht=>by simp[Lft.up]at ht
 | n+1,hn,t,ht=>by
  have ih:=uN (s:=s) (n:=n) P2;have h1:=CX (s:=s) (i:=n) P2;have h2:xc ⟨(n:Int)+1,((tX s n % 7:Nat):Int)⟩:=⟨by dsimp only;omega,by dsimp only;omega⟩;simp only[Lft.up,eV]at ht;split at ht
  ·exact ih t ht
  split at ht
  ·split at ht
   ·simp at ht;rcases ht with rfl | ht | rfl
    ·exact h1
    ·exact ih t ht
    exact h2
   simp at ht;rcases ht with ht | rfl | rfl
   ·exact ih t ht
   ·exact h1
   exact h2
  split at ht
  ·rcases LG.1 ht with rfl | ht
   ·exact h1
   exact ih t ht
  simp at ht;rcases ht with ht | rfl
  ·exact ih t ht
  exact h1
theorem IB {s:List Int}:dU (tabS s)=(0,0):=by unfold dU;have:=tG (s:=s) (n:=37);rw[if_neg (by unfold tabS;omega)];refine lV λt ht=>?_;obtain⟨h1,h2,h3⟩:=uN (Lp _) t ht;unfold dE inR;simp[h1.1,h1.2,h2];omega
end Go.Proofs.YtnfiilgdjpdlkaaGreatDoor
namespace Go.Proofs.YtnfiilgdjpdlkaaGreatDoor
open Go Go.Lft
theorem Ev{H:View}:Rd H (.agg (dc.map λc=>Pp Pq c).toArray) (RawN.mk (n:=36) (dc.map λc=>Pp Pq c)):=
 pg (by simp;rfl) (λc hc=>by obtain⟨x,_,rfl⟩:=MJ.1 hc;rfl)
theorem Bh{H:View}{C k:Nat}(a:At H ⟨C,0,Pu⟩ (RawN.mk (n:=36) (dc.map λc=>Pp Pq c)))(hk:k<37):ak H ⟨C,k,Pu⟩=Pt (Pp Pq (nth dc k)):=by have:=(a.part (RawN.p (o:=k) P2)).raw;have hl:dc.length=37:=rfl;rw[aZ rfl]at this;simp[M8,MZ,LX (show k<dc.length by omega)]at this;rw[this,aA P2]
set_option maxHeartbeats 2000000 in
theorem Fz{s:List Int}{vs:Value}{h:Heap}(hs:SlRd (vw h) vs s):az Pz 30 #[vs] h (λu h'=>(vw h).le (vw h')/\SlRd (vw h') u (tabS s)):=by
 refine aq (args:=[vs]) follows Tryz.func30 E.dI Pj λK hK=>?_;dsimp only[L.dI,lkF,lkG];have w0:=Owns.start (h:=h) (View.le_refl (vw h));refine ab λz hz=>?_;simp;subst hz;refine ab λz hz=>?_;simp;refine w0.iz (k:=(0,0)) (α:=bQ) rfl El.dA λv1 h1 hle1 hv1 w1 _=>?_;have w1:Owns (vw h) h1 (oneO (0,0) T.di v1 ([]:List bQ)):=w1.sub λq i hq=>by
  unfold oneO at hq;split at hq
  ·rename_i e;subst e;rw[Own.aj];exact hq
  cases hq
 subst hz;refine ab λz hz=>?_;simp;refine af P1 Fp ?_;rintro _ h2 ⟨hle2,rfl⟩;have w2:=w1.ext' hle2;have o2:oneO (0,0) T.di v1 ([]:List bQ) (1,0)=none:=by unfold oneO;rw[if_neg P4]
 refine w2.Cr (k:=(1,0)) o2 Ev (n:=37) rfl (z:=.agg (List.replicate 37 (Pp Pq 0)).toArray) P1 P1 P1 P4 P5 P5 λh3 hle3 w3=>?_;generalize h2.size=C at w3;obtain⟨W,hW,w4,atC⟩:=w3.mX (k:=(1,0)) Own.aj;have w4:Owns W h3 (oneO (0,0) T.di v1 ([]:List bQ)):=w4.sub λq i hq=>by
  by_cases e:q=(1,0)
  ·subst e;rw[o2]at hq;cases hq
  rw[Own.ay e,Own.ay e];exact hq
 have sW:=hs.mono hW;clear w0 w1 w2 w3 hle1 hle2 hle3;subst hz;refine ab λz hz=>?_;have hd : ∀ρ:Nat->Option Value,ρ 0=Pt vs->ev ρ (vw h3) (E.ite (E.bin (Bn.cmp BinOp.gtr) (E.un Un.len (E.tmp 0)) (E.con (Pp IntKind.i64 0))) (E.bin (Bn.cmp BinOp.eql) (E.bin (Bn.div BinOp.rem) (E.un Un.load (E.bin (Bn.idx 1) (E.tmp 0) (E.con (Pp IntKind.i64 0)))) (E.con (Pp IntKind.i64 4))) (E.con (Pp IntKind.i64 1))) (E.con (Value.bool Py)))=Pt (.bool (oA s)):=by
  intro ρ hρ;have s3:=sW.mono w4.wle;by_cases c:0<s.length
  ·have q:=s3.idxn (k:=.i64) (N:=1) rfl (i:=(0:Int)) P2 P2;have p:=s3.int Pl (i:=0) c;simp at p q;simp[hρ,s3.len,q,p,oA,c]
  simp[hρ,s3.len,oA,c]
 simp[hd];subst hz;refine ab λz hz=>?_;simp;refine cS [0,3,4,5,6] (fun(tv:Value) k=>[vs,tv,Pw (Pt ⟨C,0,Pu⟩),.bool (oA s),Pp Pq k]) (λtv k h=>∃Wk key,W.le Wk/\Owns Wk h (oneO key T.di tv (Lft.up (eV s) k []))) 37 v1
  rfl P2 rfl ⟨W,(0,0),View.le_refl _,w4⟩ (λ_ _=>rfl) (λv i h1 hk m=>by simp) ?_ ?_
 ·rintro tv k h4 hk ⟨Wk,key,hWk,wk⟩ K2 hK2;have s4:=(sW.mono hWk).mono wk.wle;have ew:IntKind.i64.wrap ((k:Int)+1)=(k:Int)+1:=bw P2 P2;refine ab λy hy=>?_;simp;subst hy;refine ab λy hy=>?_;refine eY (λρ h'=>h'=h4/\ρ=[(0,vs),(3,tv),(4,Pw (Pt ⟨C,0,Pu⟩)),(5,.bool (oA s)),(6,Pp Pq k),(7,Pp Pq (tX s k))]) ?_ ?_
  ·intro K3 hK3;by_cases c:k+1<s.length
   ·have q:=s4.idxn (k:=.i64) (N:=1) rfl (i:=(k:Int)+1) P2 P2;have p:=s4.int Pl (i:=k+1) c;have et:((k:Int)+1).toNat=k+1:=by omega
    simp[et]at q;refine lF Ri (by simp[s4.len,ew];omega) ?_;simp[ew,q,p,FF.1];exact hK3 _ _ ⟨rfl,by unfold tX;rw[if_pos c]⟩
   refine lf Ri (by simp[s4.len,ew];omega) ?_;simp;exact hK3 _ _ ⟨rfl,by unfold tX;rw[if_neg c];rfl⟩
  rintro _ _ ⟨rfl,rfl⟩;have hx:=Kn (s:=s) (i:=k);generalize hX:tX s k=x at hx;subst hy;refine ab λy hy=>?_;have t9:(x:Int).tmod 9=((x % 9:Nat):Int):=rfl;have t7:(x:Int).tmod 7=((x % 7:Nat):Int):=rfl;have t5:(x:Int).tmod 5=((x % 5:Nat):Int):=rfl;have t3:(x:Int).tmod 3=((x % 3:Nat):Int):=rfl;have t2:(x:Int).tmod 2=((x % 2:Nat):Int):=rfl;have d3:((x:Int).tdiv 3).tmod 12=((x / 3 % 12:Nat):Int):=rfl;have d12:(IntKind.i64.wrap ((x:Int) / 3)).tmod 12=(x:Int) / 3 % 12:=by rw[bw P2 P2];exact ON P2
  obtain⟨l,hl⟩ : ∃l,l=Lft.up (eV s) k []:=⟨_,rfl⟩;have hup:Lft.up (eV s) (k+1) []=eV s k l:=by rw[hl];rfl
  have hll:l.length<=74:=by rw[hl];have:=tG (s:=s) (n:=k);omega
  rw[<-hl]at wk;by_cases cc:(oA s&&decide (x % 9=3))=Px
  ·have cc':oA s=Px/\x % 9=3:=by simpa using cc
   refine lF Ri (by simp[t9,cc'.1];omega) ?_;simp;refine hK2 tv _ _ rfl rfl ⟨Wk,key,hWk,?_⟩;rw[hup];have:eV s k l=l:=by unfold eV;rw[hX,if_pos cc]
   rw[this];exact wk
  refine lf Ri (by simp[t9];intro e1 e2;exact cc (by rw[e1,Nk,decide_eq_true_eq];omega)) ?_;simp;subst hy;have hc:=oV _ (bJ (l:=dc) (i:=k) (by show k<37;exact hk));have ax:Bn.ev (.aidx 37 1) (Pw (Pt ⟨C,0,Pu⟩)) (Pp Pq k)=Pt (Pw (Pt ⟨C,k,Pu⟩)):=by simp[Bn.ev,vP,vI];omega
  have cell:=Bh ((atC.mono hWk).mono wk.wle) hk;refine ab λy hy=>?_;simp[ew,ax,cell];refine aw (t:=T.di) (z:=.agg #[Pp Pq 0,Pp Pq 0]) (places:=[(0,1),(1,1)]) (vs:=[(0,Pp Pq ((k:Int)+1)),(1,Pp Pq (nth dc k))]) (cs:=#[Pp Pq ((k:Int)+1),Pp Pq (nth dc k)]) P1 P1 Sa P1 ?_;obtain⟨kt,hkt⟩ : ∃kt:Key,kt≠key:=⟨(key.1+1,0),by rintro e;have:=congrArg Prod.fst e;simp at this⟩;have ho:oneO key T.di tv l kt=none:=by unfold oneO;rw[if_neg hkt]
  refine wk.Cr (k:=kt) (α:=bQ) (d:=⟨(k:Int)+1,nth dc k⟩) (u:=.agg #[Pp Pq ((k:Int)+1),Pp Pq (nth dc k)]) (n:=2) ho (lU (by constructor<;>omega) (by constructor<;>omega)) rfl (z:=.agg #[Pp Pq 0,Pp Pq 0]) P1 P1 P1 P4 P5 P5 λh5 hle5 w5=>?_;generalize Array.size _=B at w5;subst hy;refine ab λy hy=>?_;refine eY (λρ h'=>Owns Wk h' ((oneO key T.di tv l).upd kt (bx T.di B (tabT s k)))/\ρ=[(0,vs),(3,tv),(4,Pw (Pt ⟨C,0,Pu⟩)),(5,.bool (oA s)),(6,Pp Pq k),(7,Pp Pq x),(8,Pw (Pt ⟨B,0,Pu⟩)),(47,.agg #[Pp Pq ((k:Int)+1),Pp Pq (nth dc k)])]) ?_ ?_
  ·intro K3 hK3;by_cases c:x % 3=1
   ·refine lF Ri (by simp[t3];omega) ?_;simp[d3];refine w5.fT bQ.Bg (k:=kt) (d:=((x / 3 % 12:Nat):Int)) Own.aj P1 Sa (by simp[d12]) (bD.2 ⟨rfl,by constructor<;>omega⟩) λh6 w6 _=>?_;rw[Own.eg]at w6;have et:tabT s k=⟨(k:Int)+1,((x / 3 % 12:Nat):Int)⟩:=by unfold tabT;rw[hX,if_pos c]
    exact hK3 _ _ ⟨by rw[et];exact w6,rfl⟩
   refine lf Ri (by simp[t3];omega) ?_;simp;have et:tabT s k=⟨(k:Int)+1,nth dc k⟩:=by unfold tabT;rw[hX,if_neg c]
   exact hK3 _ _ ⟨by rw[et];exact w5,rfl⟩
  rintro _ h6 ⟨w6,rfl⟩;obtain⟨W7,hW7,w7,atB⟩:=w6.mX (k:=kt) Own.aj;have w7:Owns W7 h6 (oneO key T.di tv l):=w7.sub λq i hq=>by
   by_cases e:q=kt
   ·subst e;rw[ho]at hq;cases hq
   rw[Own.ay e,Own.ay e];exact hq
  subst hy;have rt:=atB;obtain⟨ut,hut,rut⟩:=atB.ldN rfl (N:=2) rfl;generalize htb:tabT s k=tb at rut;refine ab λy hy=>?_;refine eY (λρ h'=>∃(W8:View) (k8:Key) (tv8:Value),W7.le W8/\Owns W8 h' (oneO k8 T.di tv8 (if x % 2=1 then tb::l else l++[tb]))/\∃a b c:Value,ρ=[(0,vs),(3,tv8),(4,Pw (Pt ⟨C,0,Pu⟩)),(5,.bool (oA s)),(6,Pp Pq k),(7,Pp Pq x),(8,Pw (Pt ⟨B,0,Pu⟩)),(47,.agg #[Pp Pq ((k:Int)+1),Pp Pq (nth dc k)]),(59,a),(61,b)]\/ρ=[(0,vs),(3,tv8),(4,Pw (Pt ⟨C,0,Pu⟩)),(5,.bool (oA s)),(6,Pp Pq k),(7,Pp Pq x),(8,Pw (Pt ⟨B,0,Pu⟩)),(47,.agg #[Pp Pq ((k:Int)+1),Pp Pq (nth dc k)]),(62,a),(64,b),(65,c)]) ?_ ?_
  ·intro K3 hK3;by_cases c:x % 2=1
   ·refine lF Ri (by simp[t2];omega) ?_;simp[hut _ w7.wle];refine w7.E1 El.dA P4 Sa rut P2 P2 P5 P5 λu v' h8 k8 w8 hle8=>?_;exact hK3 _ _ ⟨W7,k8,v',View.le_refl _,by rw[if_pos c];exact w8,u,v',undef,.inl rfl⟩
   refine lf Ri (by simp[t2];omega) ?_;simp[hut _ w7.wle];refine w7.fM (k:=key) kN El.dA Sa rut P2 P2 P5 P5 λu v' h8 w8 _=>?_;rw[vu]at w8;exact hK3 _ _ ⟨W7,key,v',View.le_refl _,by rw[if_neg c];exact w8,tv,u,v',.inr rfl⟩
  rintro ρ h8 ⟨W8,k8,tv8,hW8,w8,qa,qb,qc,hρ⟩;subst hy;have hl1:(if x % 2=1 then tb::l else l++[tb]).length<=75:=by split<;>simp<;>omega
  have hWend:W.le W8:=Pn hWk (Pn hW7 hW8);rcases hρ with rfl | rfl;all_goals
   by_cases c:x % 5=2
   ·refine lF Ri (by simp[t5];omega) ?_
    simp[ew]
    refine aw (t:=T.di) (z:=.agg #[Pp Pq 0,Pp Pq 0]) (places:=[(0,1),(1,1)]) (vs:=[(0,Pp Pq ((k:Int)+1)),(1,Pp Pq ((x % 7:Nat):Int))]) (cs:=#[Pp Pq ((k:Int)+1),Pp Pq ((x % 7:Nat):Int)]) P1 P1 (by simp[t7]) P1 ?_
    refine w8.fM (k:=k8) (d:=(⟨(k:Int)+1,((x % 7:Nat):Int)⟩:bQ)) kN El.dA Sa (lU (by constructor<;>omega) (by constructor<;>omega)) P2 P2 P5 P5 λu v' h9 w9 _=>?_
    rw[vu]at w9
    simp
    have et:eV s k l=(if x % 2=1 then tb::l else l++[tb])++[⟨(k:Int)+1,((x % 7:Nat):Int)⟩]:=by unfold eV;rw[hX,if_neg cc,if_pos c,htb]
    exact hK2 v' _ _ rfl rfl ⟨W8,k8,hWend,by rw[hup,et];exact w9⟩
   ·refine lf Ri (by simp[t5];omega) ?_
    simp
    have et:eV s k l=(if x % 2=1 then tb::l else l++[tb]):=by unfold eV;rw[hX,if_neg cc,if_neg c,htb]
    exact hK2 tv8 _ _ rfl rfl ⟨W8,k8,hWend,by rw[hup,et];exact w8⟩
 rintro tv h4 ⟨Wk,key,hWk,wk⟩;simp;subst hz;simp;obtain⟨w5,s5⟩:=wk.freeze kN;exact hK _ _ ⟨Pn (Pn hW hWk) wk.wle,s5.mono w5.wle⟩
section
variable {f:an} {l l2:List bQ} {p q:Int->Bool}
theorem AK{c d:Int->Int->Bool}(h : ∀b i,c b i=Px->d b i=Px): ∀{o:Option (Int × Int)},wV c o=Px->wV d o=Px
 | none,e=>e
 | some _,e=>h _ _ e
theorem xJ (h : ∀k,p k=Px->q k=Px) {wh:Wh} : ∀{n:Nat} {b i:Int},canS f p wh n b i=Px->canS f q wh n b i=Px
 | 0,_,_,e=>e
 | n+1,b,i,e=>by
  obtain⟨k,hk⟩:=qH.1 e;refine qH.2 ⟨k,?_⟩;unfold canP at hk ⊢;rw[Ls]at hk ⊢;refine⟨h _ hk.1,?_⟩;have h2:=hk.2;cases hx:tryS (eo f b i 0) k with
  | none=>rw[hx]at h2;exact h2
  | some x=>rw[hx]at h2;show x.takes.all _=Px;refine LW.2 λv hv=>?_;exact AK (λb i e=>xJ h e) (LW.1 h2 v hv)
theorem Bz(h : ∀k,p k=Px->q k=Px)(hb:iy f p=Pu):iy f q=none:=by unfold iy at hb ⊢;rw[List.findSome?_eq_none_iff]at hb ⊢;intro b hbm;have:=hb b hbm;rw[Option.map_eq_none_iff]at this ⊢;unfold sF at this ⊢;rw[List.find?_eq_none]at this ⊢;intro i hi;have:=this i hi;unfold qz at this ⊢;simp only[Ls,MV,not_and,Bool.not_eq_false]at this ⊢;intro hn;exact xJ h (this hn)
theorem zJ(h1:(dU l).1=0)(h2:(dU l2).1=0)(hs : ∀t∈l,t∈l2)(hc:(dx l f).1=0):(dx l2 f).1=0:=by
 unfold dx at hc ⊢;rw[if_neg (by rw[h1];simp)]at hc;rw[if_neg (by rw[h2];simp)];cases hr:kV f with
 | false=>rw[if_pos hr]at hc;cases hc
 | true=>
  rw[hr]at hc;rw[if_neg Sa]at hc ⊢;have hn:iy f (hasS l)=none:=by
   cases hx:iy f (hasS l)with
   | none=>rfl
   | some w=>rw[hx]at hc;cases hc
  rw[Bz (p:=hasS l) (λk hk=>?_) hn]
  ·rfl
  unfold hasS at hk ⊢;rw[L8]at hk ⊢;refine hk.imp id λe=>?_;obtain⟨t,ht,e⟩:=Ns.1 e;exact Ns.2 ⟨t,hs t ht,e⟩
theorem xR(h1:(dU l).1=0)(h2:(dU l2).1=0)(hs : ∀k:Int,(∃t∈l,t.pat=k)↔∃t∈l2,t.pat=k):dx l f=dx l2 f:=by
 have e:hasS l=hasS l2:=by funext k;unfold hasS;congr 1;rw[LS];simpa using hs k
 unfold dx;simp only[h1,h2,e,ne_eq,not_true_eq_false,if_false]
end
def bitS (n i:Nat):Bool:=decide (n / 2 ^ (i % 64) % 2=0)
def ic (n:Nat) (l:List bQ) (k:Nat):List bQ:=Lft.up (λi r=>if bitS n i=Px then r++[nth l i] else r) k []
def trn (l:List bQ) (i:Nat):bQ:=⟨(nth l i).pat,(((nth l i).cost*7+i) % 1000)⟩
def q7 (l:List bQ) (k:Nat):List bQ:=Lft.up (λi r=>trn l i::r) k []
theorem we {n:Nat} {l:List bQ} : ∀{k:Nat},k<=l.length->∀t∈ic n l k,t∈l
 | 0,_,t,ht=>by cases ht
 | k+1,hk,t,ht=>by
  have ih:=we (n:=n) (l:=l) (k:=k) P2;have e:ic n l (k+1)=if bitS n k=Px then ic n l k++[nth l k] else ic n l k:=rfl;rw[e]at ht;split at ht
  ·rcases Lt.1 ht with h | h
   ·exact ih t h
   rw[Lw.1 h];exact bJ P2
  exact ih t ht
theorem tZ {n:Nat} {l:List bQ} : ∀{k:Nat},(ic n l k).length<=k
 | 0=>Lp _
 | k+1=>by have ih:=tZ (n:=n) (l:=l) (k:=k);have e:ic n l (k+1)=if bitS n k=Px then ic n l k++[nth l k] else ic n l k:=rfl;rw[e];split<;>simp<;>omega
theorem qx {l:List bQ} : ∀{k:Nat},(q7 l k).length=k
 | 0=>rfl
 | k+1=>by have ih:=qx (l:=l) (k:=k);have e:q7 l (k+1)=trn l k::q7 l k:=rfl;rw[e];simp[ih]
theorem qK {l:List bQ} {t:bQ} : ∀{k:Nat},t∈q7 l k↔∃i,i<k/\t=trn l i
 | 0=>⟨λh=>(by cases h),λ⟨i,h,_⟩=>P2⟩
 | k+1=>by
  have ih:=qK (l:=l) (t:=t) (k:=k);have e:q7 l (k+1)=trn l k::q7 l k:=rfl;rw[e,LG,ih];constructor
  ·rintro(h | ⟨i,hi,h⟩)
   ·exact⟨k,by omega,h⟩
   exact⟨i,by omega,h⟩
  rintro⟨i,hi,h⟩;by_cases c:i=k
  ·subst c;exact .inl h
  exact .inr ⟨i,by omega,h⟩
theorem uE{l:List bQ}(hl:l.length<=1024)(hg : ∀t∈l,(1<=t.pat/\t.pat<=37)/\0<=t.cost/\t.cost<=1000):dU l=(0,0):=by unfold dU;rw[if_neg P2];refine lV λt ht=>?_;obtain⟨h1,h2,h3⟩:=hg t ht;unfold dE inR;simp[h1.1,h1.2,h2,h3]
theorem sG{s:List Int}:(tabS s).length<=74:=tG (n:=37)
theorem ES{s:List Int}: ∀t∈tabS s,xc t:=uN (Lp _)
theorem F4{s:List Int}{n:Nat}:(dU (ic n (tabS s) (tabS s).length)).1=0:=by
 rw[uE]
 ·have:=tZ (n:=n) (l:=tabS s) (k:=(tabS s).length);have:=sG (s:=s);omega
 intro t ht;obtain⟨h1,h2,h3⟩:=ES t (we (Lp _) t ht);exact⟨h1,h2,by omega⟩
theorem Fm{s:List Int}:(dU (q7 (tabS s) (tabS s).length)).1=0:=by
 rw[uE]
 ·rw[qx];have:=sG (s:=s);omega
 intro t ht;obtain⟨i,hi,rfl⟩:=qK.1 ht;obtain⟨h1,h2,h3⟩:=ES (s:=s) (nth (tabS s) i) (bJ hi);unfold trn;dsimp only;exact⟨h1,by omega,by omega⟩
theorem A5{s:List Int}{n:Nat}{f:an}:((dx (ic n (tabS s) (tabS s).length) f).1=0->(dx (tabS s) f).1=0)/\dx (q7 (tabS s) (tabS s).length) f=dx (tabS s) f:=by
 have ht:(dU (tabS s)).1=0:=by rw[IB]
 refine⟨zJ F4 ht (we (Lp _)),xR Fm ht λk=>⟨?_,?_⟩⟩
 ·rintro⟨t,h1,h2⟩;obtain⟨i,hi,rfl⟩:=qK.1 h1;exact⟨_,bJ hi,h2⟩
 rintro⟨t,h1,h2⟩;obtain⟨i,hi,rfl⟩:=List.mem_iff_getElem.1 h1;exact⟨_,qK.2 ⟨i,hi,rfl⟩,by unfold trn;rw[aA hi];exact h2⟩
end Go.Proofs.YtnfiilgdjpdlkaaGreatDoor
namespace Go.Lft
open Go
structure FitR where
 fit:FitD
 ok:Bool
 deriving Inhabited
instance:Rep FitR:=Rep.via λx=>Cat.mk x.fit x.ok
end Go.Lft
namespace Go.Proofs.YtnfiilgdjpdlkaaGreatDoor
open Go Go.Lft
end Go.Proofs.YtnfiilgdjpdlkaaGreatDoor
namespace Go.Lft
open Go
variable {po:OP}
theorem IA {P:Program} {t ty rt:TypeId} {us:List (Nat × Value)} {h:Heap} {K:Value->Heap->Prop} {x y:Operand} {k k2:IntKind} {a:Int} {n:Nat} (hx:asg us x = .int k a) (hy:asg us y = .int k2 n) (hn:n<k.bits) (hk:K (.int k (a.fdiv (2 ^ n))) h):step P (.binOp .shr t x y rt) ty us h K:=by refine cJ (bX λw hw=>⟨.int k (a.fdiv (2 ^ n)),w,?_,Same.refl _,by rw[hw];exact hk⟩);simp only[bG,execOp,hx,hy];have e:min n k.bits=n:=MM (Nat.le_of_lt hn);simp[eqGuard,binOp,Op.shift,e];omega
end Go.Lft
namespace Go.Proofs.YtnfiilgdjpdlkaaGreatDoor
open Go Go.Lft
instance:Inhabited I32:=⟨⟨0⟩⟩
section
variable {h:Heap} {A B:Nat} {a b:Int} {n:Nat}
end
section
variable {po:OP} {A B D k r:Nat} {h:Heap} {us:List (Nat × Value)} {ty:TypeId} {K:Value->Heap->Prop} {x y:Operand}
end
end Go.Proofs.YtnfiilgdjpdlkaaGreatDoor
namespace Go.Lft
open Go
section
variable {po po2:OP} {α:Type} [Rep α] {W:View} {h:Heap} {k k2:Key} {e:TypeId} {v:Value} {l:List α} {P:Program} {ty:TypeId} {us:List (Nat × Value)}
theorem Owns.DJ {t ty2:TypeId} {bytes:Nat} {z u:Value} {x y y2:Operand} {d:α} {o:Own} {us2:Value->List (Nat × Value)} {K:Value->Value->Heap->Prop} (w:Owns W h o) (hk2:o k2=Pu) (hT:dR P t e (Rep.n α) bytes z) (hn:Rep.n α<=1000) (hx:asg us x=u) (hr:Rd W u d) (s:SlRd W v l) (hb:(1+l.length)*bytes<=140737488355328) (hb2:1+l.length<=140737488355328) (hy : ∀u,asg (us2 u) y=u) (hy2 : ∀u,asg (us2 u) y2=v)
  (hK : ∀u v' h' W',W.le W'->Owns W' h' o->SlRd W' v' (d::l)->K u v' h') :
  @step po P (.buildSlice t 1 #[(0,x)]) ty us h λu h2=>@step po2 P (.call ⟨.builtin .append,#[y,y2],#[t,t]⟩) ty2 (us2 u) h2 λv' h3=>K u v' h3:=by
 refine yi hT hx hr hn λh1 hle1 own1=>?_;have w1:=w.add (k:=k2) hk2 own1 hle1 (λb hb=>by simp only[Value.ownBlock,Ln]at hb;omega);refine w1.dg (k:=k2) (v:=Pv (Pt ⟨h.size,0,Pu⟩) 1 1) (l:=[d]) (l2:=l) Own.aj hT (hy _) (hy2 _) (s.src w1.wle) (by simpa using hb) (by simpa using hb2) λv' h2 w2 m2=>?_;have hle:=gq (h:=h2) (w2.av k2 _ Own.aj);obtain⟨w3,s3⟩:=w2.freeze (k:=k2) Own.aj;refine hK _ v' h2 _ hle (w3.sub λj i hj=>?_) s3;by_cases c:j=k2
 ·subst c;rw[hk2]at hj;cases hj
 rw[Own.ay c,Own.ay c,Own.ay c];exact hj
end
end Go.Lft
namespace Go.Proofs.YtnfiilgdjpdlkaaGreatDoor
open Go Go.Lft
abbrev oneT (v:Value) (l:List bQ):Own:=oneO (0,0) T.di v l
theorem Cs {W:View} {h:Heap} {v:Value} {l:List bQ} {o:Own} (w:Owns W h o) (h0:o (0,0)=it T.di v l):Owns W h (oneT v l):=w.sub λq i hq=>by
 unfold oneT oneO at hq;split at hq
 ·rename_i e;subst e;rw[h0];exact hq
 cases hq
set_option maxHeartbeats 2000000 in
theorem zE {s l:List Int} {n:Nat} {vs vl:Value} {h:Heap} (ht:Tab h) (hM:lA) (hs:SlRd (vw h) vs s) (hn:n<18446744073709551616) (hl:SlRd (vw h) vl l) :
  az Pz 7 #[vs,.int .u64 n,vl] h (λu h'=>u = .bool Px/\(vw h).le (vw h')):=by
 refine aq (args:=[vs,.int .u64 n,vl]) follows Tryz.func7 E.cM Pj λK hK=>?_;dsimp only[L.cM,lkF,lkG];refine ab λz hz=>?_;simp;subst hz;refine ab λz hz=>?_;simp;refine af P1 (DR ht) ?_;rintro _ h1 ⟨hle1,rfl⟩;subst hz;refine ab λz hz=>?_;have hi : ∃v40,Bn.ev .hi vs (Pp Pq (if(40:Int)<s.length then 40 else s.length))=Pt v40/\SlRd (vw h1) v40 (s.take 40):=by
  by_cases c:40<s.length
  ·obtain⟨u,e1,e2⟩:=(hs.mono hle1).take (n:=40) P2 (kd:=.i64);exact⟨u,by rw[if_pos P2];exact e1,e2⟩
  obtain⟨u,e1,e2⟩:=(hs.mono hle1).take (n:=s.length) (Lp _) (kd:=.i64);rw[Lv (Lp _)]at e2;exact⟨u,by rw[if_neg P2];exact e1,by rw[Lv P2];exact e2⟩
 obtain⟨v40,hv40,s40⟩:=hi;simp[(hs.mono hle1).len,hv40];refine af P1 (Fz s40) ?_;rintro ut h2 ⟨hle2,st⟩;obtain⟨tb,htb⟩ : ∃tb,tb=tabS (s.take 40):=⟨_,rfl⟩;rw[<-htb]at st;have hg : ∀t∈tb,xc t:=by rw[htb];exact ES
 have hlt:tb.length<=74:=by rw[htb];exact sG
 subst hz;have w2:=Owns.start (h:=h2) (View.le_refl (vw h2));refine ab λz hz=>?_;simp;refine w2.iz (k:=(0,0)) (α:=bQ) rfl El.dA λv3 h3 hle3 hv3 w3 _=>?_;have w3:=Cs w3 Own.aj;subst hz;refine ab λz hz=>?_;simp;refine w3.iz (k:=(0,1)) (α:=bQ) rfl El.dA λv4 h4 hle4 hv4 w4 _=>?_;have hW4:=gq (h:=h4) (w4.av (0,1) _ Own.aj);obtain⟨w4,s4⟩:=w4.freeze (k:=(0,1)) Own.aj;have w4:=Cs w4 (v:=v3) (l:=[]) Ri;generalize (vw h2).plus v4 h4=W at w4 s4 hW4;have sW:=st.mono hW4;clear w2 w3 hle3 hle4;subst hz;refine ab λz hz=>?_;simp;refine cS [0,1,2,7,8,9,10,11] (fun(tv:Value × Value) k=>[vs,.int .u64 n,vl,.bool Px,ut,tv.1,tv.2,Pp Pq k]) (λtv k h=>∃Wk,W.le Wk/\Owns Wk h (oneT tv.1 (ic n tb k))/\SlRd Wk tv.2 (q7 tb k)) tb.length (v3,v4)
  rfl P2 rfl ⟨W,View.le_refl _,w4,s4⟩ (λ_ _=>rfl) (λv i h1 hk ⟨Wk,hWk,wk,_⟩=>by simp[((sW.mono hWk).mono wk.wle).len]) ?_ ?_
 ·rintro⟨lv,tv⟩ k h5 hk ⟨Wk,hWk,wk,sk⟩ K2 hK2;have s5:=(sW.mono hWk).mono wk.wle;have tm:(k:Int).tmod 64=((k % 64:Nat):Int):=rfl;have hu:IntKind.u64.wrap ((k:Int).tmod 64)=((k % 64:Nat):Int):=by rw[tm];unfold IntKind.wrap;simp[IntKind.signed,IntKind.bits];omega
  have hb2:((n:Int).fdiv (2 ^ (k % 64))).tmod 2=((n / 2 ^ (k % 64) % 2:Nat):Int):=by
   have e:(n:Int).fdiv (2 ^ (k % 64))=((n / 2 ^ (k % 64):Nat):Int):=by rw[Int.fdiv_eq_ediv_of_nonneg _ (by exact_mod_cast NG (2 ^ (k % 64)))];push_cast;rfl
   rw[e];rfl
  refine ab λy hy=>?_;refine eY (λρ h'=>∃(W6:View) (lv6:Value),Wk.le W6/\Owns W6 h' (oneT lv6 (ic n tb (k+1)))/\∃a b c d:Value,ρ=[(0,vs),(1,.int .u64 n),(2,vl),(7,.bool Px),(8,ut),(9,lv6),(10,tv),(11,Pp Pq k),(44,a),(47,b),(52,c),(53,d)]\/ρ=[(0,vs),(1,.int .u64 n),(2,vl),(7,.bool Px),(8,ut),(9,lv6),(10,tv),(11,Pp Pq k),(44,a)]) ?_ ?_
  ·intro K3 hK3;refine ab λx hx=>?_;simp[hu];refine IA (k:=.u64) (k2:=.u64) (a:=n) (n:=k % 64) Sa Sa (by show k % 64<64;omega) ?_;simp;subst hx;have q:=s5.idxn (k:=.i64) (N:=2) rfl (i:=(k:Int)) P2 P2;obtain⟨ue,hue,rue⟩:=(sW.at hk).ldN rfl (N:=2) rfl;have hue:=hue _ (Pn hWk wk.wle);have n2:Rep.n bQ=2:=rfl;simp[n2]at q hue;simp[q,hue];refine⟨λc=>?_,λc=>?_⟩
   ·have ebit:bitS n k=true:=by
     have:((n / 2 ^ (k % 64) % 2:Nat):Int)=0:=by rw[<-hb2];exact c
     unfold bitS;rw[decide_eq_true_eq];omega
    have ell:=tZ (n:=n) (l:=tb) (k:=k);refine wk.fM (k:=(0,0)) kN El.dA Sa (rue.mono hWk) P2 P2 P5 P5 λu v' h8 w8 _=>?_;rw[vu]at w8;have e:ic n tb (k+1)=ic n tb k++[tb[k]]:=by show(if bitS n k=Px then ic n tb k++[nth tb k] else ic n tb k)=_;rw[if_pos ebit,aA hk]
    exact hK3 _ _ ⟨Wk,v',View.le_refl _,by rw[e];exact w8,_,_,_,_,.inl rfl⟩
   have ebit:¬bitS n k=true:=by intro hb;unfold bitS at hb;rw[decide_eq_true_eq]at hb;exact c (by rw[hb2,hb];rfl)
   have e:ic n tb (k+1)=ic n tb k:=by show(if bitS n k=Px then ic n tb k++[nth tb k] else ic n tb k)=_;rw[if_neg ebit]
   exact hK3 _ _ ⟨Wk,lv,View.le_refl _,by rw[e];exact wk,_,undef,undef,undef,.inr rfl⟩
  rintro ρ h6 ⟨W6,lv6,hW6,w6,qa,qb,qc,qd,hρ⟩;have s6:=sk.mono hW6;have ht6:=sW.mono (Pn hWk hW6);subst hy;obtain⟨c1,c2,c3⟩:=hg tb[k] (ME hk);have q:=ht6.idxn (k:=.i64) (N:=2) rfl (i:=(k:Int)) P2 P2;have p0:=((ht6.at hk).part bQ.Fy).int;have p1:=((ht6.at hk).part bQ.Bg).int;have n2:Rep.n bQ=2:=rfl;simp[n2]at p0 p1 q;have e1:IntKind.i64.wrap (tb[k].cost*7)=tb[k].cost*7:=bw P2 P2;have e2:IntKind.i64.wrap (tb[k].cost*7+(k:Int))=tb[k].cost*7+(k:Int):=bw P2 P2;have e3:(tb[k].cost*7+(k:Int)).tmod 1000=(tb[k].cost*7+(k:Int)) % 1000:=ON P2;rcases hρ with rfl | rfl;all_goals
   refine aR W6 w6.wle ?_
   refine bj λy hy=>?_
   simp[q,p0,p1,e1,e2,e3]
   refine aw (t:=T.di) (z:=.agg #[Pp Pq 0,Pp Pq 0]) (places:=[(0,1),(1,1)]) (vs:=[(0,Pp Pq tb[k].pat),(1,Pp Pq ((tb[k].cost*7+(k:Int)) % 1000))]) (cs:=#[Pp Pq tb[k].pat,Pp Pq ((tb[k].cost*7+(k:Int)) % 1000)]) P1 P1 Sa P1 ?_
   subst hy
   simp
   refine w6.DJ (k2:=(0,1)) (d:=trn tb k) Ri El.dA P4 Sa (W:=W6) (u:=.agg #[Pp Pq tb[k].pat,Pp Pq ((tb[k].cost*7+(k:Int)) % 1000)]) ?_ s6 (by rw[qx];omega) (by rw[qx];omega) P5 P5 λu v' h8 W8 hW8 w8 s8=>?_
   ·unfold trn;rw[aA hk];exact lU (by constructor<;>omega) (by constructor<;>omega)
   ·exact hK2 (lv6,v') _ _ rfl rfl ⟨W8,Pn hWk (Pn hW6 hW8),w8,s8⟩
 rintro⟨lv,tv⟩ h5 ⟨Wk,hWk,wk,sk⟩;have hv:SlRd (vw h5) lv (ic n tb tb.length):=by obtain⟨w6,s6⟩:=wk.freeze kN;exact s6.mono w6.wle
 have sk:=sk.mono wk.wle;have sT:=sW.mono (Pn hWk wk.wle);have l05:(vw h).le (vw h5):=Pn hle1 (Pn hle2 (Pn hW4 (Pn hWk wk.wle)));clear wk hWk w4 s4 sW hW4 hle1 hle2 s40 hv40;obtain⟨m1,m2⟩:=A5 (s:=s.take 40) (n:=n) (f:=lJ (l.take 200));rw[<-htb]at m1 m2;simp;subst hz;refine ab λz hz=>?_;simp;refine af P1 (Gc (hl.mono l05)) ?_;rintro uf h6 ⟨hle6,rf⟩;have hsm:SmF (lJ (l.take 200)):=Hx;generalize lJ (l.take 200)=f at *;refine dC (X:=vw h6) (z:=.agg #[Pp Pq 0,Pv Pu 0 0]) P1 rfl P1 rf P5 P5 λh7 hle7 _ at7=>?_;have at7:=at7 (vw h7) hle7 rfl;generalize h6.size=B at at7;obtain⟨uF,huf,ruf⟩:=at7.ldN rfl (N:=2) rfl;have l57:=Pn hle6 hle7;have ht7:Tab h7:=ht.mono (Pn l05 l57);have hv:=hv.mono l57;have sk:=sk.mono l57;have sT:=sT.mono l57;have hd:kV f=Px->Down f (whS f):=λhr=>B8 (mR hr) hsm (tN ruf);subst hz;refine ab λz hz=>?_;simp[huf _ Pl];refine af P1 (mz Pl hv ruf hsm ht7 (λ_ _ _=>hM) hd) ?_;rintro _ h8 ⟨hle8,rfl⟩;simp;subst hz;refine ab λz hz=>?_;simp[huf _ hle8];refine af P1 (mz Pl (sT.mono hle8) (ruf.mono hle8) hsm (ht7.mono hle8) (λ_ _ _=>hM) hd) ?_;rintro _ h9 ⟨hle9,rfl⟩;have l79:=Pn hle8 hle9;simp;subst hz;refine ab λz hz=>?_;simp[huf _ l79];refine af P1 (mz Pl (sk.mono l79) (ruf.mono l79) hsm (ht7.mono l79) (λ_ _ _=>hM) hd) ?_;rintro _ h10 ⟨hle10,rfl⟩;have l710:=Pn l79 hle10;simp;subst hz;refine ab λz hz=>?_;simp[huf _ l710];refine af P1 (mz Pl (sT.mono l710) (ruf.mono l710) hsm (ht7.mono l710) (λ_ _ _=>hM) hd) ?_;rintro _ h11 ⟨hle11,rfl⟩;have lend:(vw h).le (vw h11):=Pn l05 (Pn l57 (Pn l710 hle11));rw[m2];generalize dx (ic n tb tb.length) f=A at *;generalize dx tb f=C at *;simp;subst hz;by_cases c:A.1=0
 ·simp[c,m1 c];exact hK _ _ ⟨rfl,lend⟩
 simp[c];exact hK _ _ ⟨rfl,lend⟩
end Go.Proofs.YtnfiilgdjpdlkaaGreatDoor
