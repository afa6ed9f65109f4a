/- A part of the proof: Ed, Ee, Tl, Tm, Tn, Ef, Eg, Ya, Ei, Eh, Yb, Ye, Yh, Kd, Ej, Ek, El, Yf, Ja, Iq. -/
import Derived.Test.YtmhnaeecolpfkaaGreatZSRun6
import Derived.Laws.BytesArg
set_option linter.unusedSimpArgs false
set_option linter.unusedVariables false
open Go.Value renaming int->Qy,slice->QD,pointer->QE
open Go.IntKind renaming i64->Qz,i32->QA
open Option renaming some->QB,none->QC
open Bool renaming true->QF
open Go.Proofs.Tryz renaming prog->QH
open Go.Proofs
namespace Go.Lft
theorem xR{a b c d:Value}{k i:Int}(ha:a.oneCell'=QF)(hb:b.oneCell'=QF)(hc:c.oneCell'=QF)(hd:d.oneCell'=QF): ∀x∈[a,b,Qy Qz k,c,d,Qy QA i],x.oneCell'=true:=by intro x hx;simp only[Nu,O3,or_false]at hx;rcases hx with rfl | rfl | rfl | rfl | rfl | rfl<;>first | rfl | assumption
variable{W:View}
theorem E9(K b:Nat){x:BlkD}{u:Value}{h:Heap}{o:Own}(w:Owns W h o)(hn : ∀k,OfB K b k->o k=QC)(ht : ∀k:Key,k.1=K+8->o k=QC)(h9 : ∀i,10<=i->o (K+9,i)=QC)(hr:Rd W u x)(sm:SmB x):
  aw QH N.ek #[u] h (λr h'=>∃o' V,r = .agg #[V.p,V.i,Qy Qz x.term.kind,V.a,V.t,Qy QA x.term.imm.v]/\V.p.oneCell'=QF/\V.i.oneCell'=QF/\V.a.oneCell'=QF/\V.t.oneCell'=QF/\I64 x.term.kind/\(-2147483648<=x.term.imm.v/\x.term.imm.v<=2147483647)/\Owns W h' o'/\BO K o' b V x/\∀k,¬OfB K b k->o' k=o k):=by
 refine ak (args:=[u]) follows F.ek E.ek Q9 λKc hK=>?_;dsimp only[L.ek];obtain⟨vp,vi,va,vt,rfl,sp,si,sa,st,ik,im⟩:=Ic hr;have far : ∀{k:Key} {i:Nat},OfB K b k->k≠(K+9,i):=λh e=>by have:=jl h;rw[e]at this;simp at this
 refine ab λz hz=>?_;simp;refine w.qt (k:=(K+9,10)) (n:=5) (l:=[vp,vi,Qy Qz x.term.kind,va,vt,Qy QA x.term.imm.v]) (h9 10 Q2) rfl rfl Q2 (xR sp.cells.2 si.cells.2 sa.cells.2 st.cells.2) λB h1 hle1 w1=>?_;refine w1.mL (k:=(K+9,11)) (n:=5) (z:=.agg #[QD QC 0 0,QD QC 0 0,Qy Qz 0,QD QC 0 0,QD QC 0 0,Qy QA 0]) ((Own.af Sb).trans (h9 11 Q2)) Q0 rfl Q2 Q7 λh2 q2 w2=>?_;generalize h1.size=R at w2;obtain⟨o2,ho2⟩ : ∃o2,o2=(o.upd (K+9,10) (bx T.a8 B (RawN.mk (n:=5) [vp,vi,Qy Qz x.term.kind,va,vt,Qy QA x.term.imm.v]))).upd (K+9,11) (bx T.a8 R (RawN.mk (n:=5) [QD QC 0 0,QD QC 0 0,Qy Qz 0,QD QC 0 0,QD QC 0 0,Qy QA 0])):=⟨_,rfl⟩;have w2:Owns W h2 o2:=by rw[ho2];exact w2
 have bB:o2 (K+9,10)=bx T.a8 B (RawN.mk (n:=5) [vp,vi,Qy Qz x.term.kind,va,vt,Qy QA x.term.imm.v]):=by rw[ho2,Own.af Sb,Own.ah]
 have bR:o2 (K+9,11)=bx T.a8 R (RawN.mk (n:=5) [QD QC 0 0,QD QC 0 0,Qy Qz 0,QD QC 0 0,QD QC 0 0,Qy QA 0]):=by rw[ho2,Own.ah]
 have bO : ∀k,k≠(K+9,10)->k≠(K+9,11)->o2 k=o k:=λk e1 e2=>by rw[ho2,Own.af e2,Own.af e1]
 clear ho2 w1;have c0:aj (vw h2) ⟨B,0,QC⟩=QB vp:=w2.raw (k:=(K+9,10)) (n:=5) bB (i:=0) Q2;subst hz;refine ab λz hz=>?_;simp[c0];refine ag Q0 (zb K b w2 (λk hk=>by rw[bO k (far hk) (far hk)];exact hn k hk) (λk hk=>by rw[bO k (by rintro rfl;simp at hk) (by rintro rfl;simp at hk)];exact ht k hk) sp sm.phis sm.phi) ?_;rintro u3 h3 ⟨o3,pin,w3,cp⟩;have hu3:=(w3.cells cp.phs.row).2;have n1 : ∀i,(K+9,i)≠(K+1,b):=λi=>by simp
 have n5 : ∀i j,(K+9,i)≠(K+5,pr b j):=λi j=>by simp
 refine w3.bG (k:=(K+9,10)) (n:=5) (i:=0) (e:=T.a8) (B:=B) (l:=[vp,vi,Qy Qz x.term.kind,va,vt,Qy QA x.term.imm.v]) (by rw[cp.fr _ (n1 _) (n5 _)];exact bB) Q2 Q0 rfl rfl hu3 λh4 w4 _=>?_;have c1:aj (vw h4) ⟨B,1,QC⟩=QB vi:=w4.raw (k:=(K+9,10)) (n:=5) Own.ah (i:=1) Q2;subst hz;refine ab λz hz=>?_;simp[c1];refine ag Q0 (zM K b w4 (λi=>by rw[Own.af Sb,cp.fr _ Sb (λj=>by simp),bO _ Sb Sb];exact hn _ ofB6) (λk hk=>by rw[Own.af (by rintro rfl;simp at hk),cp.fr _ (by rintro rfl;simp at hk) (λi=>by rintro rfl;simp at hk),bO _ (by rintro rfl;simp at hk) (by rintro rfl;simp at hk)];exact ht k hk) si sm.ins sm.inn) ?_;rintro u5 h5 ⟨o5,iar,w5,ci⟩;have hu5:=(w5.cells ci.ins.row).2;have n2 : ∀i,(K+9,i)≠(K+2,b):=λi=>by simp
 have n6 : ∀i j,(K+9,i)≠(K+6,pr b j):=λi j=>by simp
 refine w5.bG (k:=(K+9,10)) (n:=5) (i:=1) (e:=T.a8) (B:=B) (l:=[u3,vi,Qy Qz x.term.kind,va,vt,Qy QA x.term.imm.v]) (by rw[ci.fr _ (n2 _) (n6 _),Own.ah];rfl) Q2 Q0 rfl rfl hu5 λh6 w6 _=>?_;have c3:aj (vw h6) ⟨B,3,QC⟩=QB va:=w6.raw (k:=(K+9,10)) (n:=5) Own.ah (i:=3) Q2;have c4:aj (vw h6) ⟨B,4,QC⟩=QB vt:=w6.raw (k:=(K+9,10)) (n:=5) Own.ah (i:=4) Q2;have e3:o5 (K+3,b)=none:=by rw[ci.fr _ Sb (λj=>by simp),Own.af Sb,cp.fr _ Sb (λj=>by simp),bO _ Sb Sb];exact hn _ ofB3
 have e4:o5 (K+4,b)=none:=by rw[ci.fr _ Sb (λj=>by simp),Own.af Sb,cp.fr _ Sb (λj=>by simp),bO _ Sb Sb];exact hn _ ofB4
 have hR5:o5 (K+9,11)=bx T.a8 R (RawN.mk (n:=5) [QD QC 0 0,QD QC 0 0,Qy Qz 0,QD QC 0 0,QD QC 0 0,Qy QA 0]):=by rw[ci.fr _ (n2 _) (n6 _),Own.af Sb,cp.fr _ (n1 _) (n5 _)];exact bR
 subst hz;refine ab λz hz=>?_;refine bz (vw h6) Qw ?_;simp[c3,c4];refine ag Q0 (pE (K+3,b) w6 (by rw[Own.af Sb];exact e3) sa (by have:=sm.args;omega)) ?_;rintro ua h7 ⟨w7,hua,hle7⟩;refine⟨hle7,?_⟩;refine ag Q0 (pE (K+4,b) w7 (by rw[Own.af Sb,Own.af Sb];exact e4) st (by have:=sm.to;omega)) ?_;rintro ut h8 ⟨w8,hut,hle8⟩;refine w8.bG (k:=(K+9,10)) (n:=5) (i:=3) (e:=T.a8) (B:=B) (l:=[u3,u5,Qy Qz x.term.kind,va,vt,Qy QA x.term.imm.v]) (by rw[Own.af Sb,Own.af Sb,Own.ah];rfl) Q2 Q0 rfl rfl hua λh9' w9 _=>?_;refine w9.bG (k:=(K+9,10)) (n:=5) (i:=4) (e:=T.a8) (B:=B) (l:=[u3,u5,Qy Qz x.term.kind,ua,vt,Qy QA x.term.imm.v]) (by rw[Own.ah];rfl) Q2 Q0 rfl rfl hut λh10 w10 _=>?_;have c6:Un.ev (vw h10) (.ax 6) (QT B)=QB (.agg #[u3,u5,Qy Qz x.term.kind,ua,ut,Qy QA x.term.imm.v]):=w10.gg (k:=(K+9,10)) (n:=5) Own.ah;subst hz;refine ab λz hz=>?_;simp[c6];refine w10.lu (k:=(K+9,11)) (e:=T.a8) (B:=R) (D:=RawN.mk (n:=5) [QD QC 0 0,QD QC 0 0,Qy Qz 0,QD QC 0 0,QD QC 0 0,Qy QA 0]) Part.all (d:=RawN.mk (n:=5) [u3,u5,Qy Qz x.term.kind,ua,ut,Qy QA x.term.imm.v]) (by rw[Own.af Sb,Own.af Sb,Own.af Sb,Own.af Sb,Own.af Sb];exact hR5) Q0 rfl rfl (iO rfl (xR hu3 hu5 hua hut)) λh11 w11 _=>?_;have c7:Un.ev (vw h11) (.ax 6) (QT R)=QB (.agg #[u3,u5,Qy Qz x.term.kind,ua,ut,Qy QA x.term.imm.v]):=w11.gg (k:=(K+9,11)) (n:=5) Own.ah;subst hz;simp[c7];obtain⟨oF,f1,f2,f3,f4⟩ : ∃oF:Own,(∀k,(k=(K+9,10)\/k=(K+9,11))->oF k=QC)/\oF (K+3,b)=it T.int ua x.term.args/\oF (K+4,b)=it T.int ut x.term.to/\∀k,¬(k=(K+9,10)\/k=(K+9,11))->k≠(K+3,b)->k≠(K+4,b)->oF k=o5 k:=
  ⟨λk=>if k=(K+9,10)\/k=(K+9,11) then QC else if k=(K+3,b) then it T.int ua x.term.args else if k=(K+4,b) then it T.int ut x.term.to else o5 k,
   λk hk=>if_pos hk,(if_neg Sb).trans (if_pos rfl),(if_neg Sb).trans ((if_neg Sb).trans (if_pos rfl)),λk h1 h2 h3=>(if_neg h1).trans ((if_neg h2).trans (if_neg h3))⟩;have nf : ∀{k},OfB K b k->¬(k=(K+9,10)\/k=(K+9,11)):=λh e=>by rcases e with e | e<;>exact far h e
 refine hK _ _ ⟨oF,⟨u3,u5,ua,ut,pin,iar⟩,rfl,hu3,hu5,hua,hut,ik,im,Owns.past w11 (P:=λk=>k=(K+9,10)\/k=(K+9,11)) (λk hk=>?_) f1,?_,λk hk=>?_⟩
 ·have h1:k≠(K+9,10):=λe=>hk (.inl e);have h2:k≠(K+9,11):=λe=>hk (.inr e);rw[Own.af h2,Own.af h1,Own.af h1];by_cases e4:k=(K+4,b)
  ·subst e4;rw[Own.ah,f3]
  rw[Own.af e4];by_cases e3:k=(K+3,b)
  ·subst e3;rw[Own.ah,f2]
  rw[Own.af e3,Own.af h1,f4 k hk e3 e4]
 ·refine BO.of (p:=x.phis) (i:=x.ins) (t:=x.term) ⟨?_,λi hi=>?_⟩ ⟨?_,λi hi=>?_⟩ f2 f3
  ·rw[f4 _ (nf ofB1) Sb Sb,ci.fr _ Sb (λj=>by simp),Own.af Sb];exact cp.phs.row
  ·rw[f4 _ (nf ofB5) Sb Sb,ci.fr _ Sb (λj=>by simp),Own.af Sb];exact cp.phs.pin i hi
  ·rw[f4 _ (nf ofB2) Sb Sb];exact ci.ins.row
  rw[f4 _ (nf ofB6) Sb Sb];exact ci.ins.iar i hi
 by_cases e:k=(K+9,10)\/k=(K+9,11)
 ·rw[f1 k e];rcases e with rfl | rfl
  ·exact(h9 10 Q2).symm
  exact(h9 11 Q2).symm
 rw[f4 k e (by rintro rfl;exact hk ofB3) (by rintro rfl;exact hk ofB4),ci.fr k (by rintro rfl;exact hk ofB2) (λj=>by rintro rfl;exact hk ofB6),Own.af (λq=>e (.inl q)),cp.fr k (by rintro rfl;exact hk ofB1) (λj=>by rintro rfl;exact hk ofB5),bO k (λq=>e (.inl q)) (λq=>e (.inr q))]
structure CpB(K:Nat)(o o':Own)(u:Value)(V:Nat->Bv)(ps:Int)(l:List BlkD):Prop where
 fno:FnO K o' u V ⟨ps,l⟩
 fr : ∀k:Key,(k.1<K\/K+6<k.1)->o' k=o k
 free : ∀b,l.length<=b->∀k,OfB K b k->o' k=QC
theorem zC(K:Nat)(ps:Int){l:List BlkD}{v:Value}{h:Heap}{o:Own}(w:Owns W h o)(hn : ∀k:Key,K<=k.1->k.1<=K+6->o k=QC)(ht : ∀k:Key,k.1=K+8->o k=QC)(h9 : ∀k:Key,k.1=K+9->o k=QC)(hs:SlRd W v l)(hl:l.length<=10000)(hp : ∀i,i<l.length->SmB (nth l i)):
  aw QH N.bM #[v,.func (.func N.ek) #[] #[]] h (λu h'=>∃o' V,Owns W h' o'/\CpB K o o' u V ps l):=by
 refine ak (args:=[v,.func (.func N.ek) #[] #[]]) follows F.bM E.bM Q9 λKc hK=>?_;dsimp only[L.bM];refine ab λz hz=>?_;simp;subst hz;refine ab λz hz=>?_;simp;subst hz;refine ab λz hz=>?_;have s0:=hs.mono w.wle;simp[s0.len];have w1:=Owns.nils w (o':=o.upd (K,0) (it T.a8 (QD QC 0 0) ([]:List BkO))) (λq i hq=>by
  by_cases e:q=(K,0)
  ·subst e;rw[Own.ah]at hq;cases hq;exact .inr ⟨rfl,OwnT.nil (α:=BkO) _ h T.a8⟩
  rw[Own.af e]at hq;exact .inl hq)
 have c1:CpB K o (o.upd (K,0) (it T.a8 (QD QC 0 0) ([]:List BkO))) (QD QC 0 0) (λ_=>⟨QD QC 0 0,QD QC 0 0,QD QC 0 0,QD QC 0 0,λ_=>QD QC 0 0,λ_=>QD QC 0 0⟩) ps (l.take 0):=
  ⟨⟨Own.ah,λb hb=>absurd hb (Nw _)⟩,λk hk=>Own.af (by rintro rfl;dsimp only at hk;omega),λb _ k hk=>by have:=jl hk;rw[Own.af (by rintro rfl;simp at this;omega)];exact hn k Q1 Q1⟩
 refine aJ [1,5,8,9,10] (fun(u:Value) k=>[.func (.func N.ek) #[] #[],u,v,Qy Qz l.length,Qy Qz k]) (λu k h2=>∃o' V,Owns W h2 o'/\CpB K o o' u V ps (l.take k)) l.length (QD QC 0 0)
  rfl Q1 rfl ⟨_,_,w1,c1⟩ (λ_ _=>rfl) (λu k h2 hk _=>by simp) ?_ ?_
 ·rintro u k h2 hk ⟨o2,V,w2,c2⟩ K2 hK2;have hlk:(l.take k).length=k:=by rw[Ny];omega
  have s2:=hs.mono w2.wle;have ht2 : ∀q:Key,q.1=K+8->o2 q=none:=λq hq=>by rw[c2.fr q Q1];exact ht q hq
  have h92 : ∀q:Key,q.1=K+9->o2 q=none:=λq hq=>by rw[c2.fr q Q1];exact h9 q hq
  obtain⟨ux,hux,rux⟩:=hs.wh rfl (N:=6) rfl hk;refine ab λy hy=>?_;simp(disch:=omega)[s2.idxn (N:=6) rfl,hux _ w2.wle];refine w2.sL (k:=(K+9,1)) (α:=BlkD) (n:=6) (h92 _ rfl) rux rfl (z:=zz3) Q0 rfl Q0 Q2 Q4 Q4 λh3 q3 w3=>?_;generalize h2.size=X at w3;obtain⟨uy,huy,ruy⟩:=Owns.ldW w3 (k:=(K+9,1)) (v:=QD (QB ⟨X,0,QC⟩) 1 1) (l:=[nth l k]) Own.ah rfl (N:=6) rfl (i:=0) Sb;have huy:Un.ev (vw h3) (.ax 6) (QT X)=QB uy:=by simpa[slA]using huy
  have ruy:Rd W uy (nth l k):=ruy;have hne : ∀q:Key,OfB K k q->q≠(K+9,1):=λq hq e=>by have:=jl hq;rw[e]at this;simp at this
  subst hy;simp[huy];refine cJ (ops:=[.tmp 16]) rfl Q0 (E9 K k w3 (λq hq=>by rw[Own.af (hne q hq)];exact c2.free k Q1 q hq) (λq hq=>by rw[Own.af (by rintro rfl;simp at hq)];exact ht2 q hq) (λi hi=>by rw[Own.af Q8];exact h92 _ rfl) ruy (hp k hk)) ?_;rintro _ h4 ⟨o4,Vn,rfl,g1,g2,g3,g4,ik,im,w4,bo,fr4⟩;have nK:¬OfB K k (K,0):=λh=>by have:=jl h;simp at this;omega
  refine w4.iN (k:=(K,0)) (α:=BkO) (v:=u) (l:=rows (λb=>bkO (V b) (nth (l.take k) b)) (l.take k).length) (d:=bkO Vn (nth l k)) (by rw[fr4 _ nK,Own.af Sb];exact c2.fno.blk) El.jQ rfl (HF g1 g2 g3 g4 ik im) Q8 Q8 (λ_=>rfl) (λ_=>rfl) λu5 v5 h5 w5 _=>?_;refine hK2 v5 _ _ rfl rfl ⟨λq=>if q=(K+9,1) then QC else(o4.upd (K,0) (it T.a8 v5 (rows (λb=>bkO (V b) (nth (l.take k) b)) (l.take k).length++[bkO Vn (nth l k)]))) q,λb=>if b=(l.take k).length then Vn else V b,w5.sub λq i hq=>?_,?_⟩
  ·split at hq
   ·cases hq
   exact hq
  obtain⟨oF,hoF⟩ : ∃oF:Own,oF=λq=>if q=(K+9,1) then QC else(o4.upd (K,0) (it T.a8 v5 (rows (λb=>bkO (V b) (nth (l.take k) b)) (l.take k).length++[bkO Vn (nth l k)]))) q:=⟨_,rfl⟩;rw[<-hoF];have f1 : ∀q,q≠(K+9,1)->oF q=(o4.upd (K,0) (it T.a8 v5 (rows (λb=>bkO (V b) (nth (l.take k) b)) (l.take k).length++[bkO Vn (nth l k)]))) q:=λq hq=>by rw[hoF];exact if_neg hq
  have f2:oF (K+9,1)=none:=by rw[hoF];exact if_pos rfl
  have far : ∀q,q≠(K+9,1)->q≠(K,0)->¬OfB K k q->oF q=o2 q:=λq h1 h2 h3=>by rw[f1 q h1,Own.af h2,fr4 q h3,Own.af h1]
  have nb : ∀{b:Nat} {q:Key},OfB K b q->q≠(K+9,1)/\q≠(K,0):=λh=>by have:=jl h;exact⟨by rintro rfl;simp at this,by rintro rfl;simp at this;omega⟩
  rw[wQ hk];refine⟨c2.fno.push (Vn:=Vn) (d:=nth l k) (x:=bkO Vn (nth l k)) rfl ?_ (λb hb q hq=>?_) ?_,λq hq=>?_,λb hb q hq=>?_⟩
  ·rw[f1 _ Sb,Own.ah]
  ·exact far q (nb hq).1 (nb hq).2 (y8 Q1 hq)
  ·rw[hlk];exact bo.congr λq hq=>by rw[f1 q (nb hq).1,Own.af (nb hq).2]
  ·by_cases e:q=(K+9,1)
   ·rw[e,f2];exact(h9 _ rfl).symm
   rw[far q e (by rintro rfl;dsimp only at hq;omega) (λh=>by have:=jl h;omega)];exact c2.fr q hq
  rw[M3,M6]at hb;rw[far q (nb hq).1 (nb hq).2 (y8 Q1 hq)];exact c2.free b Q1 q hq
 rintro u h2 ⟨o2,V,w2,c2⟩;rw[NQ]at c2;rw[bS,hz];clear hz z;simp;exact hK _ _ ⟨o2,V,w2,c2⟩
theorem Kw(K:Nat){f:aq}{v:Value}{h:Heap}{o:Own}(w:Owns W h o)(hn : ∀k:Key,K<=k.1->k.1<=K+9->o k=QC)(hr:Rd W v f)(sm:SmF f):
  aw QH N.jg #[v] h (λr h'=>∃o' vb V,r = .agg #[Qy Qz f.params,vb]/\I64 f.params/\Owns W h' o'/\FnO K o' vb V f/\(∀k:Key,(k.1<K\/K+6<k.1)->o' k=o k)/\∀b,f.blocks.length<=b->∀k,OfB K b k->o' k=QC):=by
 refine ak (args:=[v]) follows F.jg E.jg Q9 λKc hK=>?_;dsimp only[L.jg];obtain⟨vb,rfl,ip,sb⟩:=zZ hr;refine ab λz hz=>?_;simp;refine w.qt (k:=(K+7,0)) (n:=1) (l:=[Qy Qz f.params,vb]) (hn _ Sb Sb) rfl rfl Q2 (iH sb.cells.2) λB h1 hle1 w1=>?_;refine w1.mL (k:=(K+7,1)) (n:=1) (z:=.agg #[Qy Qz 0,QD QC 0 0]) ((Own.af Sb).trans (hn _ Sb Sb)) Q0 rfl Q2 Q7 λh2 q2 w2=>?_;generalize h1.size=R at w2;have c1:aj (vw h2) ⟨B,1,QC⟩=QB vb:=w2.raw (k:=(K+7,0)) (e:=T.a7) (n:=1) (by rw[Own.af Sb,Own.ah]) (i:=1) Q2;subst hz;refine ab λz hz=>?_;simp[c1];refine ag Q0 (zC K f.params w2 (λk h1 h2=>by rw[Own.af (by rintro rfl;simp at h2),Own.af (by rintro rfl;simp at h2)];exact hn k h1 Q1) (λk hk=>by rw[Own.af (by rintro rfl;simp at hk),Own.af (by rintro rfl;simp at hk)];exact hn k Q1 Q1) (λk hk=>by rw[Own.af (by rintro rfl;simp at hk),Own.af (by rintro rfl;simp at hk)];exact hn k Q1 Q1) sb sm.len sm.blk) ?_;rintro u3 h3 ⟨o3,V,w3,c3⟩;have hu3:=(w3.cells c3.fno.blk).2;refine w3.bG (k:=(K+7,0)) (n:=1) (i:=1) (e:=T.a7) (B:=B) (l:=[Qy Qz f.params,vb]) (by rw[c3.fr _ Sb,Own.af Sb,Own.ah]) Q2 Q0 rfl rfl hu3 λh4 w4 _=>?_;have c2:Un.ev (vw h4) (.ax 2) (QT B)=QB (.agg #[Qy Qz f.params,u3]):=w4.gg (k:=(K+7,0)) (n:=1) Own.ah;subst hz;refine ab λz hz=>?_;simp[c2];refine w4.lu (k:=(K+7,1)) (e:=T.a7) (B:=R) (D:=RawN.mk (n:=1) [Qy Qz 0,QD QC 0 0]) Part.all (d:=RawN.mk (n:=1) [Qy Qz f.params,u3]) (by rw[Own.af Sb,c3.fr _ Sb,Own.ah];rfl) Q0 rfl rfl (iO rfl (iH hu3)) λh5 w5 _=>?_;have c3':Un.ev (vw h5) (.ax 2) (QT R)=QB (.agg #[Qy Qz f.params,u3]):=w5.gg (k:=(K+7,1)) (n:=1) Own.ah;subst hz;simp[c3'];have hf:(⟨f.params,f.blocks⟩:aq)=f:=rfl;refine hK _ _ ⟨λq=>if q.1=K+7 then QC else o3 q,u3,V,rfl,ip,w5.sub λq i hq=>?_,c3.fno.congr λq h1 h2=>if_neg Q1,λq hq=>?_,λb hb q hq=>?_⟩
 ·split at hq
  ·cases hq
  rename_i e;rw[Own.af (by rintro rfl;exact e rfl),Own.af (by rintro rfl;exact e rfl)];exact hq
 ·by_cases e:q.1=K+7
  ·exact(if_pos e).trans (hn q Q1 Q1).symm
  refine(if_neg e).trans ?_;rw[c3.fr q hq,Own.af (by rintro rfl;exact e rfl),Own.af (by rintro rfl;exact e rfl)]
 have:=jl hq;refine(if_neg Q1).trans (c3.free b hb q hq)
theorem H2{α β:Type}[Inhabited α][Inhabited β]{g:α->β}{l:List α}{i:Nat}(h:i<l.length):nth (l.map g) i=g (nth l i):=by rw[ao (by simpa using h),ao h,Oc]
section
variable{f:aq}{g:Int->Int}{b i:Nat}
end
section
variable{s:Nat->Nat}{S:Int->Int}{f g:aq}
def jG(l:List InD):Prop:=l.Pairwise λx y=>x.frm<=y.frm
theorem F8: ∀{n:Nat},(List.range n).Pairwise (· < ·):=Qk
theorem vy{f:aq}{c:Int}:(aA f c).Pairwise (· < ·):=by unfold aA;rw[mR];refine Pl.2 (List.Pairwise.filter _ (F8.imp λh=>by omega))
end
structure Way(A B:List InD)(x:InD):Prop where
 ris:jG (A++B)
 gt : ∀y∈B,x.frm<y.frm
theorem Way.done{A B:List InD}{x:InD}(w:Way A B x)(h : ∀y,A.getLast? = QB y->y.frm<=x.frm):jG (A++x::B):=by
 obtain⟨r,g⟩:=w;have ra:=PN.1 r;refine PN.2 ⟨ra.1,Px.2 ⟨λy hy=>Int.le_of_lt (g y hy),ra.2.1⟩,λy hy z hz=>?_⟩;rcases Nu.1 hz with rfl | hz
 ·rcases A.eq_nil_or_concat with e | ⟨A',l,e⟩
  ·subst e;cases hy
  rw[List.concat_eq_append]at e;subst e;have hl:=h l Sb;rcases M1.1 hy with hy | hy
  ·have:=(PN.1 ra.1).2.2 y hy l (MZ.2 rfl);omega
  rw[MZ.1 hy];exact hl
 exact ra.2.2 y hy z hz
theorem Way.step{A B:List InD}{x y:InD}(w:Way (A++[y]) B x)(h:x.frm<y.frm):Way A (y::B) x:=
 ⟨by have:=w.ris;rw[Nk]at this;exact this,λz hz=>by
  rcases Nu.1 hz with rfl | hz
  ·exact h
  exact w.gt z hz⟩
theorem Way.start{A:List InD}{x:InD}(r:jG A):Way A [] x:=⟨by rw[Oh];exact r,λy hy=>by cases hy⟩
section
variable{K:Nat}{s:Nat->Nat}
end
theorem KI{p q:InD}{up uq:Value}{h:Heap}(hp:Rd (vw h) up p)(hq:Rd (vw h) uq q):aw QH N.bU #[up,uq] h (λu h'=>u = Qy Qz (IntKind.i64.wrap (p.frm-q.frm))/\(vw h).le (vw h')):=by refine ak (args:=[up,uq]) follows F.bU E.bU Q9 λK hK=>?_;dsimp only[L.bU];refine ab λz hz=>?_;simp;refine fH rfl hp λh1 e1 hle1 hs1 hat1=>?_;refine fH rfl (hq.mono hle1) λh2 e2 hle2 hs2 hat2=>?_;have c1:aj (vw h2) ⟨h.size,0,QC⟩=QB (Qy Qz p.frm):=ae hle2 (hat1.part InD.sn).int;have c2:aj (vw h2) ⟨h1.size,0,QC⟩=QB (Qy Qz q.frm):=(hat2.part InD.sn).int;subst hz;simp[c1,c2];exact hK _ _ ⟨rfl,Qx hle1 hle2⟩
theorem CM(k:Key){l:List InD}{v:Value}{h:Heap}{o:Own}(w:Owns W h o)(hk:o k=it T.dK v l)(hl:l.length<=12)(hr : ∀x∈l,0<=x.frm/\x.frm<=100000):
  aw QH N.aC #[v,Qy Qz 0,Qy Qz l.length,.func (.func N.bU) #[] #[]] h (λ_ h'=>∃l',l'.Perm l/\jG l'/\Owns W h' (o.upd k (it T.dK v l'))):=by
 refine ak (args:=[v,Qy Qz 0,Qy Qz l.length,.func (.func N.bU) #[] #[]]) follows F.aC E.aC Q9 λKc hK=>?_;dsimp only[L.aC];refine ab λz hz=>?_;simp;subst hz;have w0:Owns W h (o.upd k (it T.dK v (l.take 1++l.drop (0+1)))):=w.congr λq=>by
  rw[Oj,Pj];unfold Own.upd;split
  ·rename_i e;rw[e,hk]
  rfl
 have r0:jG (l.take 1):=by
  match l with
  | []=>exact .nil
  | x::_=>exact List.pairwise_singleton _ _
 refine Hr [0,1,2,3,8] (fun(_:Unit) j=>[v,Qy Qz 0,Qy Qz l.length,.func (.func N.bU) #[] #[],Qy Qz ((j:Int)+1)]) (λ_ j h1=>∃R,Owns W h1 (o.upd k (it T.dK v (R++l.drop (j+1))))/\R.Perm (l.take (j+1))/\jG R) (l.length-1) 1 ()
  rfl Q1 Q1 rfl ⟨_,w0,.refl _,r0⟩ (λ_ _=>rfl) (λ_ j h1 hj _=>?_) ?_ ?_
 ·have e:decide ((j:Int)+1<l.length)=decide (j<l.length-1):=by rw[NH,decide_eq_true_eq,decide_eq_true_eq];omega
  rw[<-e];simp
 ·rintro _ i h1 hi ⟨R,w1,hp1,hr1⟩ K4 hK4;have hk1:i+1<l.length:=by omega
  have hkR:R.length=i+1:=by rw[hp1.length_eq,Ny];omega
  obtain⟨x0,hx0⟩ : ∃x0,x0=l[i+1]:=⟨_,rfl⟩;have hx0m:x0∈l:=by rw[hx0];exact Oi hk1
  have hdrop:l.drop (i+1)=x0::l.drop (i+1+1):=by rw[hx0];exact NK hk1
  have htake:l.take (i+1+1)=l.take (i+1)++[x0]:=by rw[hx0];exact Np hk1
  obtain⟨rest,hrest⟩ : ∃rest,rest=l.drop (i+1+1):=⟨_,rfl⟩;rw[<-hrest]at hdrop;rw[hdrop]at w1;refine ab λq hq=>?_;simp;subst hq;simp only[aL];refine iA [0,1,2,3,8,9] (λm ρ h2=>∃A B,m=A.length/\ρ=[(0,v),(1,Qy Qz 0),(2,Qy Qz l.length),(3,.func (.func N.bU) #[] #[]),(8,Qy Qz ((i:Int)+1)),(9,Qy Qz (A.length:Nat))]/\
   Owns W h2 (o.upd k (it T.dK v (A++x0::(B++rest))))/\Way A B x0/\(A++B).Perm (l.take (i+1))) (i+1) ⟨R,[],hkR.symm,by rw[hkR];rfl,w1,.start hr1,by rw[Oh];exact hp1⟩ ?_;rintro m ρ h2 ⟨A,B,rfl,rfl,w2,wy,hpm⟩ K5 hK5;have hAB:A.length+B.length=i+1:=by have:=hpm.length_eq;rw[M3,Ny]at this;omega
  have hfin:jG (A++x0::B)->∀{h3:Heap},Owns W h3 (o.upd k (it T.dK v (A++x0::(B++rest))))->∃R',Owns W h3 (o.upd k (it T.dK v (R'++l.drop (i+1+1))))/\R'.Perm (l.take (i+1+1))/\jG R':=λhr h3 w3=>⟨A++x0::B,by rw[<-hrest,Nk,OZ];exact w3,by rw[htake];exact List.perm_middle.trans ((List.Perm.cons _ hpm).trans (List.perm_append_comm (l₁:=[x0]))),hr⟩;refine ab λq hq=>?_;refine ab λp hp=>?_;rcases A.eq_nil_or_concat with e | ⟨A',y',e⟩
  ·subst e;refine bz (vw h2) Qw ?_;simp;subst hp;refine aV Sb ?_;simp;exact hK4 () _ _ rfl (by simp[bh]) (hfin (wy.done λy hy=>by cases hy) w2)
  rw[List.concat_eq_append]at e;subst e;have hLl:((A'++[y'])++x0::(B++rest))=A'++y'::x0::(B++rest):=by simp
  have hlenj:(A'++[y']).length=A'.length+1:=by simp
  have w2:Owns W h2 (o.upd k (it T.dK v (A'++y'::x0::(B++rest)))):=by rw[<-hLl];exact w2
  have hfin:jG ((A'++[y'])++x0::B)->∀{h3:Heap},Owns W h3 (o.upd k (it T.dK v (A'++y'::x0::(B++rest))))->∃R',Owns W h3 (o.upd k (it T.dK v (R'++l.drop (i+1+1))))/\R'.Perm (l.take (i+1+1))/\jG R':=λhr h3 w3=>hfin hr (by rw[hLl];exact w3);have hym:y'∈l:=Pp (hpm.mem_iff.1 Sb);have i1:A'.length<(A'++y'::x0::(B++rest)).length:=by simp
  have i2:A'.length+1<(A'++y'::x0::(B++rest)).length:=by simp
  have en1:(A'++y'::x0::(B++rest))[A'.length]=y':=by rw[N5 (MY _)];simp
  have en2:(A'++y'::x0::(B++rest))[A'.length+1]=x0:=by rw[N5 Q1];simp
  have s2:=w2.now Own.ah;have y1:Bn.ev (.idx 2) v (Qy Qz (A'.length:Nat))=QB (QE (QB ((slA v).add (A'.length*2)))):=s2.idxn (N:=2) rfl (N6 _) Q1;have z1:Bn.ev (.idx 2) v (Qy Qz ((A'.length+1:Nat):Int))=QB (QE (QB ((slA v).add ((A'.length+1)*2)))):=s2.idxn (N:=2) rfl (N6 _) Q1;obtain⟨uy,huy,ruy⟩:=Owns.ldW w2 Own.ah rfl (N:=2) rfl i1;obtain⟨uj,huj,ruj⟩:=Owns.ldW w2 Own.ah rfl (N:=2) rfl i2;rw[en1]at ruy;rw[en2]at ruj;rw[hlenj]at hAB hK5 ⊢;have set1:(A'++y'::x0::(B++rest)).set (A'.length+1) y'=A'++y'::y'::(B++rest):=by rw[PH _ _ Q1];simp
  have set2:(A'++y'::y'::(B++rest)).set A'.length x0=A'++x0::y'::(B++rest):=by rw[PH _ _ (MY _)];simp
  have i3:A'.length<(A'++y'::y'::(B++rest)).length:=by simp
  obtain⟨j,hj⟩ : ∃j,j=A'.length+1:=⟨_,rfl⟩;rw[<-hj]at z1 huj i2 hAB set1 hK5 ⊢;have hw:IntKind.i64.wrap ((j:Int)-1)=(A'.length:Int):=by rw[bu Q1 Q1];omega
  have hj0:0<j:=by omega
  have hjl:A'.length<j:=by omega
  clear hj en1 en2;have f1:=hr _ hx0m;have f2:=hr _ hym;refine bz (vw h2) Qw ?_;simp[hw,hj0,y1,z1,huy,huj];refine cJ (ops:=[.tmp 26,.tmp 31]) rfl Q0 (KI (ruj.mono w2.wle) (ruy.mono w2.wle)) ?_;rintro _ h3 ⟨rfl,hle3⟩;have ew:IntKind.i64.wrap (x0.frm-y'.frm)=x0.frm-y'.frm:=bu Q1 Q1;rw[ew];refine⟨hle3,?_⟩;have w3:=w2.ext' hle3;by_cases hgt:x0.frm<y'.frm
  ·have hlt:x0.frm-y'.frm<0:=by omega
   simp[hj0,hlt];subst hp;refine aZ Sb ?_;simp;subst hq;refine ab λq hq=>?_;simp only[aL];have huy3:Un.ev (vw h3) (.ax 2) (QE (QB ((slA v).add (A'.length*2))))=QB uy:=by have:=dF (ρ:=λ_=>QC) (e:=.un (.ax 2) (.con (QE (QB ((slA v).add (A'.length*2)))))) hle3 (by simpa using huy);simpa using this
   have huj3:Un.ev (vw h3) (.ax 2) (QE (QB ((slA v).add (j*2))))=QB uj:=by have:=dF (ρ:=λ_=>QC) (e:=.un (.ax 2) (.con (QE (QB ((slA v).add (j*2)))))) hle3 (by simpa using huj);simpa using this
   refine bz (vw h3) Qw ?_;simp[hw,y1,z1,huy3,huj3];refine w3.oT (k:=k) (α:=InD) (v:=v) (l:=A'++y'::x0::(B++rest)) (i:=j) (d:=y') Own.ah Q0 rfl rfl i2 ruy λh4 w4 _=>?_;rw[set1]at w4;refine w4.oT (k:=k) (α:=InD) (v:=v) (l:=A'++y'::y'::(B++rest)) (i:=A'.length) (d:=x0) Own.ah Q0 rfl rfl i3 ruj λh5 w5 _=>?_;rw[set2]at w5;subst hq;simp[hw];refine hK5 A'.length _ _ hjl ⟨A',y'::B,rfl,by simp[bh,hw],w5.congr λq=>?_,wy.step hgt,?_⟩
   ·rw[OZ];unfold Own.upd;split<;>rfl
   rw[Nk]at hpm;exact hpm
  have hlt:¬x0.frm-y'.frm<0:=by omega
  simp[hj0,hlt];subst hp;refine aV Sb ?_;simp;exact hK4 () _ _ rfl (by simp[bh]) (hfin (wy.done λy hy=>by simp at hy;subst hy;omega) w3)
 rintro _ h1 ⟨R,w1,hp1,hr1⟩;have e1:l.drop (l.length-1+1)=[]:=List.drop_of_length_le Q1;have e2:l.take (l.length-1+1)=l:=Nd Q1;rw[e1,Oh]at w1;rw[e2]at hp1;simp;exact hK _ _ ⟨R,hp1,hr1,w1⟩
theorem JZ(k:Key){l:List InD}{v:Value}{lim:Int}{h:Heap}{o:Own}(w:Owns W h o)(hk:o k=it T.dK v l)(hl:l.length<=12)(hr : ∀x∈l,0<=x.frm/\x.frm<=100000):
  aw QH N.aR #[v,Qy Qz 0,Qy Qz l.length,Qy Qz lim,.func (.func N.bU) #[] #[]] h (λ_ h'=>∃l',l'.Perm l/\jG l'/\Owns W h' (o.upd k (it T.dK v l'))):=by
 refine ak (args:=[v,Qy Qz 0,Qy Qz l.length,Qy Qz lim,.func (.func N.bU) #[] #[]]) follows F.aR E.aR Q9 λKc hK=>?_;dsimp only[L.aR];refine ab λz hz=>?_;simp;subst hz;refine ab λz hz=>?_;simp;subst hz;simp only[aL];refine iA [0,1,2,3,4,10,11] (λm ρ h2=>h2=h/\ρ=[(0,v),(1,Qy Qz 0),(2,Qy Qz l.length),(3,Qy Qz lim),(4,.func (.func N.bU) #[] #[]),(10,.bool QF),(11,.bool QF)]) 0 ⟨rfl,rfl⟩ ?_;rintro m ρ h2 ⟨rfl,rfl⟩ K2 hK2;dsimp only[L.aR.l1];simp only[aL];refine ab λz hz=>?_;have ew:IntKind.i64.wrap ((l.length:Int)-0)=l.length:=by rw[bu Q1 Q1];omega
 simp[ew];subst hz;refine ab λz hz=>?_;have h12:(l.length:Int)<=12:=by omega
 have ew2:IntKind.i64.wrap (l.length:Int)=l.length:=bu Q1 Q1;simp[ew2,hl,h12];refine ag Q0 (CM k w hk hl hr) ?_;rintro _ h3 hx;exact hK _ _ hx
variable{n:Nat}
theorem Kg{h:Heap}(hn:n<=1000000):aw QH N.xH #[.int .u64 n] h (λu h'=>(∃i:Int,u = Qy Qz i)/\h'=h):=by rintro w rfl;refine(Tryz.bits_Len (n:Int) w Q1 Q1).mono ?_;rintro e w' ⟨rfl,rfl⟩;exact⟨_,rfl,⟨⟨_,rfl⟩,rfl⟩,Same.refl _⟩
theorem Ba(k:Key){l:List InD}{v:Value}{h:Heap}{o:Own}(w:Owns W h o)(hk:o k=it T.dK v l)(hl:l.length<=12)(hr : ∀x∈l,0<=x.frm/\x.frm<=100000):
  aw QH N.cL #[v,.func (.func N.bU) #[] #[]] h (λ_ h'=>∃l',l'.Perm l/\jG l'/\Owns W h' (o.upd k (it T.dK v l'))):=by
 refine ak (args:=[v,.func (.func N.bU) #[] #[]]) follows F.cL E.cL Q9 λKc hK=>?_;dsimp only[L.cL];have s:=w.now hk;refine ab λz hz=>?_;simp[s.len];subst hz;have ew:IntKind.u64.wrap (l.length:Int)=l.length:=by rw[IntKind.wrap_u64];omega
 simp[ew];refine ag Q0 (Kg Q1) ?_;rintro _ h2 ⟨⟨i,rfl⟩,rfl⟩;refine ag Q0 (JZ k w hk hl hr) ?_;rintro _ h3 hx;exact hK _ _ hx
def putEq(E:List (Int × Int))(n:Nat)(a b:Int):Option Int:=if(a,b)∈E then QB ((n:Int)+E.idxOf (a,b)) else QC
theorem G3{a b:Int}:putEq [] n a b=none:=by simp[putEq]
theorem E8{E:List (Int × Int)}{x:Int × Int}(hx:x∉E)(a b:Int):putEq (E++[x]) n a b=if a=x.1/\b=x.2 then QB ((n:Int)+E.length) else putEq E n a b:=by
 have he:a=x.1/\b=x.2↔(a,b)=x:=by cases x;simp
 unfold putEq;by_cases h:(a,b)=x
 ·rw[if_pos (he.2 h),h,if_pos Sb,PE,if_neg hx];simp
 rw[if_neg (λe=>h (he.1 e))];by_cases h2:(a,b)∈E
 ·rw[if_pos (by simp[h2]),if_pos h2,PE,if_pos h2]
 rw[if_neg (by simp[h2,h]),if_neg h2]
theorem jV{E:List (Int × Int)}{a b x:Int}(h:putEq E n a b=QB x):(n:Int)<=x/\x<n+E.length/\(a,b)∈E:=by
 unfold putEq at h;split at h
 ·rename_i hm;have:=Ou.2 hm;cases h;exact⟨by omega,by omega,hm⟩
 cases h
def toE(E:List (Int × Int))(n:Nat)(a t:Int):Int:=(putEq E n a t).getD t
def frmE(E:List (Int × Int))(n:Nat)(b:Int)(x:InD):InD:=⟨(putEq E n x.frm b).getD x.frm,x.val⟩
def srt(l:List InD):List InD:=l.mergeSort λx y=>decide (x.frm<=y.frm)
theorem lY{l:List InD}:(srt l).Perm l:=List.mergeSort_perm _ _
theorem wR{l:List InD}:jG (srt l):=by have:=Qh (le:=λx y:InD=>decide (x.frm<=y.frm)) (λa b c h1 h2=>by simp at *;omega) (λa b=>by simp;omega) l;exact this.imp λh=>by simpa using h
theorem xw{l l':List InD}(hp:l'.Perm l)(hr:jG l')(hn:(l.map (·.frm)).Nodup):l'=srt l:=by refine Qd (le:=λx y:InD=>x.frm<=y.frm) (λa b ha hb h1 h2=>?_) hr wR (hp.trans lY.symm);have ha:=hp.subset ha;have hb:=lY.subset hb;obtain⟨i,hi,rfl⟩:=Ni ha;obtain⟨j,hj,rfl⟩:=Ni hb;have:i=j:=(PK (xs:=l.map (·.frm)) (h₀:=by simpa using hi) (h₁:=by simpa using hj) hn).1 Q8;subst this;rfl
def phE(E:List (Int × Int))(n:Nat)(a:Int)(p:PhiD):PhiD:=⟨p.dst,srt (p.ins.map (frmE E n a))⟩
def tmE(E:List (Int × Int))(n:Nat)(a:Int)(t:cK):cK:={ t with to:=t.to.map (toE E n a) }
def blE(E:List (Int × Int))(n:Nat)(a:Int)(d:BlkD):BlkD:=⟨d.phis.map (phE E n a),d.ins,tmE E n a d.term⟩
def jv(b:Int):BlkD:=⟨[],[],⟨1,[],[b],⟨0⟩⟩⟩
def onE(E:List (Int × Int))(f:aq):aq:=⟨f.params,rows (λa=>blE E f.blocks.length a (nth f.blocks a)) f.blocks.length++E.map λe=>jv e.2⟩
def oW(f:aq):List (Int × Int):=jk (ofG f.blocks)
def mX(f:aq):aq:=onE (oW f) f
def DH(f:aq):Prop:=∀b,b<f.blocks.length->∀i,i<(nth f.blocks b).phis.length->(nth (nth f.blocks b).phis i).ins.length<=12/\((nth (nth f.blocks b).phis i).ins.map (·.frm)).Nodup/\∀x∈(nth (nth f.blocks b).phis i).ins,0<=x.frm/\x.frm<f.blocks.length
theorem rN{E:List (Int × Int)}{b:Int}{l:List InD}(h1:(l.map (·.frm)).Nodup)(h2 : ∀x∈l,0<=x.frm/\x.frm<n):((l.map (frmE E n b)).map (·.frm)).Nodup:=by
 rw[PR];rw[List.Nodup,Pl]at h1 ⊢;refine List.Pairwise.imp_of_mem (fun{x y} hx hy h e=>h ?_) h1;simp only[Function.comp,frmE]at e;have gx:=h2 x hx;have gy:=h2 y hy;cases px:putEq E n x.frm b with
 | none=>
  cases py:putEq E n y.frm b with
  | none=>rw[px,py]at e;exact e
  | some q=>rw[px,py]at e;have:=jV py;simp only[On,Oo]at e;omega
 | some p=>
  cases py:putEq E n y.frm b with
  | none=>rw[px,py]at e;have:=jV px;simp only[On,Oo]at e;omega
  | some q=>
   rw[px,py]at e;simp only[Oo]at e;subst e;unfold putEq at px py;split at px
   ·rename_i m1;split at py
    ·rename_i m2;have l1:=Ou.2 m1;have l2:=Ou.2 m2;have e2:E.idxOf (x.frm,b)=E.idxOf (y.frm,b):=by have a1:=Option.some.inj px;have a2:=Option.some.inj py;omega
     have q1:=OB l1;have q2:=OB l2;have:(x.frm,b)=(y.frm,b):=by rw[<-q1,<-q2];congr 1
     exact(Prod.mk.inj this).1
    cases py
   cases px
theorem tw:Tw QH T.ou T.int:=⟨U.ou,U.int,by kernel_rfl⟩
section
variable{H:View}{a b c:Value}
@[simp] theorem MM:Un.ev H (.ext 0) (.tuple #[a,b])=QB a:=rfl
@[simp] theorem MT:Un.ev H (.ext 1) (.tuple #[a,b])=QB b:=rfl
@[simp] theorem MN:Un.ev H (.ext 0) (.tuple #[a,b,c])=QB a:=rfl
@[simp] theorem MR:Un.ev H (.ext 1) (.tuple #[a,b,c])=QB b:=rfl
@[simp] theorem MP:Un.ev H (.ext 2) (.tuple #[a,b,c])=QB c:=rfl
end
theorem Ex{α:Type}[Inhabited α]{l m:List α}{i:Nat}(h:i<l.length):nth (l++m) i=nth l i:=by rw[ao (show i<(l++m).length by rw[M3];omega),ao h,Oa h]
section
variable{f:aq}{ed:List (Int × Int)}
theorem eO:(onE ed f).blocks.length=f.blocks.length+ed.length:=by simp[onE]
theorem qz{a:Nat}(ha:a<f.blocks.length):nth (onE ed f).blocks a=blE ed f.blocks.length a (nth f.blocks a):=by unfold onE;dsimp only;rw[Ex (by simpa using ha),eF ha]
theorem kQ{k:Nat}(hk:k<ed.length):nth (onE ed f).blocks (f.blocks.length+k)=jv (nth ed k).2:=by unfold onE;dsimp only;rw[ao Q8,N5 Sb,ao hk];simp
structure eQ(f:aq)(ed:List (Int × Int)):Prop where
 hto : ∀a,a<f.blocks.length->∀t∈(nth f.blocks a).term.to,0<=t/\t<f.blocks.length
 hed : ∀e∈ed,gX (ofG f.blocks) e.1 e.2=QF
 hnd:ed.Nodup
theorem eQ.rng(w:eQ f ed){k:Nat}(hk:k<ed.length):(0<=(nth ed k).1/\(nth ed k).1<f.blocks.length)/\0<=(nth ed k).2/\(nth ed k).2<f.blocks.length:=by have h:=w.hed _ (bD hk);rw[dL]at h;omega
theorem yM(w:eQ f ed){k:Nat}(hk:k<ed.length):putEq ed f.blocks.length (nth ed k).1 (nth ed k).2=QB ((f.blocks.length:Int)+k):=by unfold putEq;have hm:((nth ed k).1,(nth ed k).2)∈ed:=bD hk;rw[if_pos hm];congr 2;have:((nth ed k).1,(nth ed k).2)=ed[k]:=ao hk;rw[this,OX w.hnd]
theorem sZ(w:eQ f ed){a b:Nat}(ha:a<f.blocks.length)(hb:b<f.blocks.length):gX (ofG (onE ed f).blocks) a b=QF↔gX (ofG f.blocks) a b=QF/\((a:Int),(b:Int))∉ed:=by
 rw[dL,dL,eO,M9,qz ha];show _/\(b:Int)∈((nth f.blocks a).term.to.map (toE ed f.blocks.length a))↔_;rw[ND];constructor
 ·rintro⟨_,t,ht,e⟩;unfold toE at e;cases hp:putEq ed f.blocks.length a t with
  | none=>rw[hp]at e;simp only[On]at e;subst e;refine⟨⟨by omega,ht⟩,λhm=>?_⟩;unfold putEq at hp;rw[if_pos hm]at hp;cases hp
  | some q=>rw[hp]at e;have:=jV hp;simp only[Oo]at e;omega
 rintro⟨⟨_,ht⟩,hn⟩;refine⟨by omega,b,ht,?_⟩;unfold toE putEq;rw[if_neg hn];rfl
theorem zg(w:eQ f ed){a k:Nat}(ha:a<f.blocks.length)(hk:k<ed.length):gX (ofG (onE ed f).blocks) a ((f.blocks.length+k:Nat):Int)=QF↔(nth ed k).1=a:=by
 rw[dL,eO,M9,qz ha];show _/\((f.blocks.length+k:Nat):Int)∈((nth f.blocks a).term.to.map (toE ed f.blocks.length a))↔_;rw[ND];have hr:=w.rng hk;have hpk:=yM w hk;constructor
 ·rintro⟨_,t,ht,e⟩;unfold toE at e;cases hp:putEq ed f.blocks.length a t with
  | none=>rw[hp]at e;have:=w.hto a ha t ht;simp only[On]at e;omega
  | some q=>
   rw[hp]at e;simp only[Oo]at e;unfold putEq at hp;split at hp
   ·rename_i hm;have hlt:=Ou.2 hm;have hq:=Option.some.inj hp;have hk2:ed.idxOf ((a:Int),t)=k:=by omega
    have:=OB hlt;rw[ao hk];have e2:ed[k]=((a:Int),t):=by rw[<-this];congr 1;exact hk2.symm
    rw[e2]
   cases hp
 intro e;have hm:=w.hed _ (bD hk);rw[dL]at hm;refine⟨by omega,(nth ed k).2,?_,?_⟩
 ·have:=hm.2;rw[e,M9]at this;exact this
 unfold toE;rw[<-e,hpk];simp
theorem ti(w:eQ f ed){k:Nat}{b:Int}(hk:k<ed.length):gX (ofG (onE ed f).blocks) ((f.blocks.length+k:Nat):Int) b=QF↔(nth ed k).2=b:=by
 rw[dL,eO,M9,kQ hk];have hr:=w.rng hk;show _/\b∈[(nth ed k).2]↔_;rw[MZ];constructor
 ·rintro⟨_,e⟩;exact e.symm
 intro e;exact⟨by omega,e.symm⟩
theorem G2(w:eQ f ed){wo:Int}(hwo:wo<f.blocks.length){b:Nat}(h:Re (ofG f.blocks) wo b):Re (ofG (onE ed f).blocks) wo b:=by
 induction h with
 | root h1 h2=>exact .root (by rw[gq,eO];rw[gq]at h1;omega) h2
 | @step a b ha he hb ih=>
  have hr:=(dL.1 he).1;have la:a<f.blocks.length:=by omega
  have lb:b<f.blocks.length:=by omega
  by_cases hm:((a:Int),(b:Int))∈ed
  ·obtain⟨k,hk,e⟩:=Ni hm;have e1:(nth ed k).1=a:=by rw[ao hk,e]
   have e2:(nth ed k).2=b:=by rw[ao hk,e]
   have s1:Re (ofG (onE ed f).blocks) wo (f.blocks.length+k):=.step ih ((zg w la hk).2 e1) Q1;exact .step s1 ((ti w hk).2 e2) hb
  exact .step ih ((sZ w la lb).2 ⟨he,hm⟩) hb
theorem Dg(w:eQ f ed){wo:Int}{x:Nat}(h:Re (ofG (onE ed f).blocks) wo x):(x<f.blocks.length->Re (ofG f.blocks) wo x)/\∀k,k<ed.length->x=f.blocks.length+k->Re (ofG f.blocks) wo (nth ed k).1.toNat:=by
 induction h with
 | root h1 h2=>refine⟨λhx=>.root (by rw[gq];exact hx) h2,λk hk e=>?_⟩;have:=w.rng hk;omega
 | @step a b ha he hb ih=>
  have hr:=(dL.1 he).1;rw[eO]at hr;rcases M0 a f.blocks.length with la | la
  ·refine⟨λlb=>?_,λk hk e=>?_⟩
   ·exact .step (ih.1 la) ((sZ w la lb).1 he).1 hb
   subst e;have:=(zg w la hk).1 he;rw[this];exact ih.1 la
  obtain⟨k',rfl⟩ : ∃k',a=f.blocks.length+k':=⟨a-f.blocks.length,by omega⟩;have hk':k'<ed.length:=by omega
  have e2:=(ti w hk').1 he;have hr':=w.rng hk';refine⟨λlb=>?_,λk hk e=>by omega⟩;have hre:=ih.2 k' hk' rfl;have hee:=w.hed _ (bD hk');refine .step hre (?_:gX (ofG f.blocks) _ _=QF) hb;rw[<-e2,Nj hr'.1.1];exact hee
theorem Ix(w:eQ f ed){wo:Int}(hwo:wo<f.blocks.length){b:Nat}(hb:b<f.blocks.length):Re (ofG (onE ed f).blocks) wo b↔Re (ofG f.blocks) wo b:=
 ⟨λh=>(Dg w h).1 hb,G2 w hwo⟩
end
section
variable{W:View}{h:Heap}{K:Nat}{ob:Own}{vb:Value}{V:Nat->Bv}{f:aq}{b:Nat}{d:BlkD}
theorem Wt.HH(w:Wt W h K ob vb V (bj f b d))(hb:b<f.blocks.length):aj (vw h) (((slA vb).add (b*6)).add 0)=QB (V b).p/\aj (vw h) ((((slA vb).add (b*6)).add 2).add 2)=QB (V b).t:=by
 obtain⟨o,w,g,r⟩:=w.ex;have hl:b<(rows (λc=>bkO (V c) (nth (bj f b d).blocks c)) (bj f b d).blocks.length).length:=by simpa[kC]using hb
 have a:=(w.now g.blk).at hl;rw[kr hl]at a;exact⟨(a.part BkO.oy).raw,((a.part BkO.mW).part TmO.AG).raw⟩
end
theorem GZ{α:Type}[Inhabited α]{l m:List α}{i:Nat}(h:i<l.length):nth (l++m) i=nth l i:=by rw[ao (show i<(l++m).length by rw[M3];omega),ao h,Oa h]
theorem vz{d:BlkD}{i:Nat}{p q:PhiD}:gk (gk d i p) i q=gk d i q:=by unfold gk;dsimp only;rw[List.set_set]
theorem Wt.phLd{h:Heap}{K:Nat}{ob:Own}{vb:Value}{V:Nat->Bv}{f:aq}{b i:Nat}{d:BlkD}(w:Wt W h K ob vb V (bj f b d))(hb:b<f.blocks.length)(hi:i<d.phis.length):
  Un.ev (vw h) (.ax 2) (QE (QB ((slA (V b).p).add (i*2))))=QB (.agg #[Qy Qz (nth d.phis i).dst,(V b).pin i])/\((V b).pin i).oneCell'=QF/\I64 (nth d.phis i).dst:=by
 obtain⟨o,w,g,r⟩:=w.ex;have hl:i<(rows (phO (V b) d) d.phis.length).length:=by simpa using hi
 obtain⟨u,hu,hr⟩:=Owns.ldW w (g.cur hb).phis rfl (N:=2) rfl hl;rw[kr hl]at hr;obtain⟨cs,rfl,c1,r1,e1,⟨q1,o1⟩,q2,o2⟩:=hr;have q1:c1=[Qy Qz (nth d.phis i).dst]:=q1;have q2:r1=[(V b).pin i]:=q2;have he:cs.toList = #[Qy Qz (nth d.phis i).dst,(V b).pin i].toList:=by rw[e1,q1,q2];rfl
 exact⟨by rw[hu,Ns.1 he],o2,o1⟩
def spTo(ed:List (Int × Int))(f:aq)(k:Nat):aq:=⟨f.params,rows (λa=>if a<k then blE ed f.blocks.length a (nth f.blocks a) else nth f.blocks a) f.blocks.length++ed.map λe=>jv e.2⟩
section
variable{ed:List (Int × Int)}{f:aq}{k:Nat}
theorem Be:(spTo ed f k).blocks.length=f.blocks.length+ed.length:=by simp[spTo]
theorem Ht(hk:k<f.blocks.length):bj (spTo ed f k) k (nth f.blocks k)=spTo ed f k:=by
 have:nth (spTo ed f k).blocks k=nth f.blocks k:=by unfold spTo;dsimp only;rw[GZ (by simpa using hk),eF hk,if_neg (Qb _)]
 rw[<-this];exact Bj (by rw[Be];omega)
theorem EX(hk:k<f.blocks.length):bj (spTo ed f k) k (blE ed f.blocks.length k (nth f.blocks k))=spTo ed f (k+1):=by
 unfold bj spTo;dsimp only;rw[List.set_append_left _ _ (by simpa using hk),nyq (y:=λa=>if a<k+1 then blE ed f.blocks.length a (nth f.blocks a) else nth f.blocks a) hk (by rw[if_pos (PL k)])];intro j hj hne;by_cases h:j<k
 ·rw[if_pos h,if_pos Q1]
 rw[if_neg h,if_neg Q1]
theorem Ed:spTo ed f 0=⟨f.params,f.blocks++ed.map λe=>jv e.2⟩:=by unfold spTo;congr 2;refine NU Sb λi h1 h2=>?_;rw[kr,if_neg (Nw _),ao h2]
theorem Gu:spTo ed f f.blocks.length=onE ed f:=by unfold spTo onE;congr 2;refine NU Sb λi h1 h2=>?_;rw[kr,kr,if_pos (by simpa using h1)]
end
def d4(ed:List (Int × Int))(n:Nat)(a:Int)(x:BlkD)(i:Nat):BlkD:=gV x (gn (toE ed n a) x.term.to i)
def d5(ed:List (Int × Int))(n:Nat)(a:Int)(x:BlkD)(i:Nat):BlkD:=⟨gn (phE ed n a) x.phis i,x.ins,tmE ed n a x.term⟩
section
variable{ed:List (Int × Int)}{n:Nat}{a:Int}{x:BlkD}{i:Nat}
theorem Iq:d4 ed n a x 0=x:=by unfold d4;rw[rz];rfl
theorem J9:d4 ed n a x x.term.to.length=d5 ed n a x 0:=by unfold d4 d5;rw[tU,rz];rfl
theorem Kq:d5 ed n a x x.phis.length=blE ed n a x:=by unfold d5 blE;rw[tU]
end
section
variable{H:View}
theorem Hq(K:Nat){f:aq}{ed:List (Int × Int)}{ob:Own}{vb:Value}{V:Nat->Bv}{h:Heap}{B R D r:Nat}{es:Array MapEntry}{ck:Nat}{Q:Post}{ρ:Env}(sm:SmF f)(hin:DH f)(hlen:f.blocks.length+ed.length<=512)(cb : ∃v,aj W ⟨B,1,QC⟩=QB v/\SlRd W v f.blocks)(hD:ob (K+10,0)=bx T.a7 D (RawN.mk (n:=1) [Qy Qz f.params,vb]))(hX:ob (K+11,2)=QC)(hr:W r=QB (.map es ck))(m0:Map2 h r λa b=>(putEq ed f.blocks.length a b).map (.int .i64))(t0:Wt W h K ob vb V (spTo ed f 0))(hρ:bh [1,2,11,12,98,99] ρ=[(1,QT B),(2,QT R),(11,QT D),(12,.map (QB r)),(98,Qy Qz f.blocks.length),(99,Qy Qz 0)])(done : ∀h',Wt W h' K ob vb V (onE ed f)->Q .normal [(1,QT B),(2,QT R),(11,QT D),(12,.map (QB r)),(98,Qy Qz f.blocks.length),(99,Qy Qz f.blocks.length)] h'):
  LC.wp QH (.loop L.bZ.l3) (dU 4 Q) ρ h:=by
 have mp : ∀{h':Heap},W.le (vw h')->Map2 h' r λa b=>(putEq ed f.blocks.length a b).map (.int .i64):=fun{h'} hle=>m0.same (by have e1:h'[r]? = QB (.map es ck):=hle r _ hr;have e2:h[r]? = QB (.map es ck):=t0.wle r _ hr;rw[e1,e2]);have hl:=sm.len
 refine aJ [1,2,11,12,98,99] (fun(_:Unit) k=>[QT B,QT R,QT D,.map (QB r),Qy Qz f.blocks.length,Qy Qz k])
  (λ_ k h1=>Wt W h1 K ob vb V (spTo ed f k)) f.blocks.length ()
  rfl Q1 hρ t0 (λ_ _=>rfl) (λ_ k h2 hk _=>by simp) ?_ ?_
 ·rintro _ k h1 hk t1 K2 hK2;have hb:k<(spTo ed f k).blocks.length:=by rw[Be];omega
  rw[<-Ht hk]at t1;have hsb:=sm.blk k hk;have hik:=hin k hk;generalize hx:nth f.blocks k=x at t1 hsb hik;have c1:aj (vw h1) ⟨D,1,QC⟩=QB vb:=t1.raw (k:=(K+10,0)) Sb hD (i:=1) Q2;have sB:=t1.blks;have hkl:k<(bj (spTo ed f k) k x).blocks.length:=by rw[kC];exact hb
  obtain⟨cp,ct⟩:=t1.HH hb;refine ab λy hy=>?_;simp;subst hy;refine ab λy hy=>?_;simp(disch:=omega)[c1,sB.idxn (N:=6) rfl];subst hy;refine ab λy hy=>?_;have t1:Wt W h1 K ob vb V (bj (spTo ed f k) k (d4 ed f.blocks.length k x 0)):=by rw[Iq];exact t1
  have hto:=hsb.to;have hl0:(d4 ed f.blocks.length k x 0).term.to.length=x.term.to.length:=lS;simp[ct,(t1.to hb).len,hl0];refine aJ [1,2,11,12,15,16,98,99,110,111,112] (fun(_:Unit) i=>[QT B,QT R,QT D,.map (QB r),Qy Qz k,QE (QB ((slA vb).add (k*6))),Qy Qz f.blocks.length,Qy Qz k,(V k).t,Qy Qz x.term.to.length,Qy Qz i])
   (λ_ i h2=>Wt W h2 K ob vb V (bj (spTo ed f k) k (d4 ed f.blocks.length k x i))) x.term.to.length ()
   rfl Q1 rfl t1 (λ_ _=>rfl) (λ_ i h2 hk _=>by simp) ?_ ?_
  ·rintro _ i h2 hi t2 K3 hK3;have hi2:i<(d4 ed f.blocks.length k x i).term.to.length:=by show i<(gn _ _ _).length;rw[lS];exact hi
   obtain⟨g1,g2,g3⟩:=t2.ixT hb hi2;have e2:nth (d4 ed f.blocks.length k x i).term.to i=nth x.term.to i:=qc hi;rw[e2]at g2 g3;refine ab λy2 hy2=>?_;simp[g1,g2];rw[hy2];clear hy2 y2;refine ab λy2 hy2=>?_;simp;refine aQ (z:=zz1) (places:=zpc) (vs:=[(0,Qy Qz k),(1,Qy Qz (nth x.term.to i))]) (cs:=#[Qy Qz k,Qy Qz (nth x.term.to i)]) Q0 Q0 Sb rfl ?_;refine Bb (a:=k) (b:=nth x.term.to i) (z:=Qy Qz 0) tw U.j0 Q0 rfl rfl (mp t2.wle) ?_;have hset:(d4 ed f.blocks.length k x i).term.to.set i (toE ed f.blocks.length k (nth x.term.to i))=(d4 ed f.blocks.length k x (i+1)).term.to:=rA hi;cases hp:putEq ed f.blocks.length k (nth x.term.to i)with
   | none=>
    simp;rw[hy2];clear hy2 y2;simp;refine hK3 () _ _ rfl rfl ?_;have e3:toE ed f.blocks.length k (nth x.term.to i)=nth x.term.to i:=by unfold toE;rw[hp];rfl
    have e4:d4 ed f.blocks.length k x (i+1)=d4 ed f.blocks.length k x i:=by
     have:(d4 ed f.blocks.length k x (i+1)).term.to=(d4 ed f.blocks.length k x i).term.to:=by rw[<-hset,e3,<-e2,ao hi2,Oz]
     unfold d4 gV at this ⊢;dsimp only at this;rw[this]
    rw[e4];exact t2
   | some q=>
    simp;rw[hy2];clear hy2 y2;have ct2:=(t2.HH hb).2;simp[ct2,g1];have hq:=jV hp;refine t2.tt hb hi2 Q0 rfl rfl (v:=q) (by constructor<;>omega) λh3 t3=>?_;refine hK3 () _ _ rfl rfl ?_;have e3:toE ed f.blocks.length k (nth x.term.to i)=q:=by unfold toE;rw[hp];rfl
    rw[e3]at hset;rw[hset]at t3;exact t3
  rintro _ h2 t2;rw[J9]at t2;rw[bS,hy];clear hy y;have cp2:=(t2.HH hb).1;have hph:=hsb.phis;have hl5 : ∀i,(d5 ed f.blocks.length k x i).phis.length=x.phis.length:=λi=>lS;have s2:=t2.phN hb;have sl2:Un.ev (vw h2) .len (V k).p=QB (Qy Qz x.phis.length):=by have:=s2.len (K:=vw h2);simpa[hl5]using this
  refine ab λy hy=>?_;simp[cp2,sl2];subst hy;refine aJ [1,2,11,12,15,98,99,138,139,140] (fun(_:Unit) i=>[QT B,QT R,QT D,.map (QB r),Qy Qz k,Qy Qz f.blocks.length,Qy Qz k,(V k).p,Qy Qz x.phis.length,Qy Qz i])
   (λ_ i h2=>Wt W h2 K ob vb V (bj (spTo ed f k) k (d5 ed f.blocks.length k x i))) x.phis.length ()
   rfl Q1 rfl t2 (λ_ _=>rfl) (λ_ i h2 hk _=>by simp) ?_ ?_
  ·rintro _ i h3 hi t3 K3 hK3;have hi3:i<(d5 ed f.blocks.length k x i).phis.length:=by rw[hl5];exact hi
   have ix:=t3.ixP hb hi3;have e3:nth (d5 ed f.blocks.length k x i).phis i=nth x.phis i:=qc hi;have lds:=t3.phLd hb hi3;rw[e3]at lds;refine ab λy2 hy2=>?_;simp[ix,lds.1];obtain⟨o3,w3,g3,r3⟩:=t3.ex;refine w3.vJ (k:=(K+11,2)) (n:=1) (l:=[Qy Qz (nth x.phis i).dst,(V k).pin i]) ((r3 _ Sb).trans hX) (z:=zz4) Q0 rfl Q0 rfl Q2 (iH lds.2.1) Q4 Q4 λh4 q4 w4=>?_;generalize h3.size=X at w4;obtain⟨oc,hoc⟩ : ∃oc,oc=ob.upd (K+11,2) (bx T.dY X (RawN.mk (n:=1) [Qy Qz (nth x.phis i).dst,(V k).pin i])):=⟨_,rfl⟩;have kX:oc (K+11,2)=bx T.dY X (RawN.mk (n:=1) [Qy Qz (nth x.phis i).dst,(V k).pin i]):=by rw[hoc,Own.ah]
   have es5:gk (d5 ed f.blocks.length k x i) i ⟨(nth x.phis i).dst,gn (frmE ed f.blocks.length k) (nth x.phis i).ins 0⟩=d5 ed f.blocks.length k x i:=by
    rw[rz];have:(⟨(nth x.phis i).dst,(nth x.phis i).ins⟩:PhiD)=nth (d5 ed f.blocks.length k x i).phis i:=by rw[e3]
    rw[this];unfold gk;rw[ao hi3,Oz]
   have t4:Wt W h4 K oc vb V (bj (spTo ed f k) k (gk (d5 ed f.blocks.length k x i) i ⟨(nth x.phis i).dst,gn (frmE ed f.blocks.length k) (nth x.phis i).ins 0⟩)):=by
    rw[es5];refine⟨_,w4,g3.upd Sb,λq hq=>?_⟩;rw[hoc];unfold Own.upd;split
    ·rfl
    exact r3 q hq
   have hs8 : ∀l:List InD,nth (gk (d5 ed f.blocks.length k x i) i ⟨(nth x.phis i).dst,l⟩).phis i=⟨(nth x.phis i).dst,l⟩:=λl=>by unfold gk;dsimp only;rw[aK hi3,if_pos rfl]
   have hn8 : ∀l:List InD,i<(gk (d5 ed f.blocks.length k x i) i ⟨(nth x.phis i).dst,l⟩).phis.length:=λl=>by show i<(List.set _ _ _).length;rw[Nq];exact hi3
   have cX : ∀{h':Heap} {d:BlkD},Wt W h' K oc vb V (bj (spTo ed f k) k d)->aj (vw h') ⟨X,1,QC⟩=QB ((V k).pin i):=λt=>t.raw (k:=(K+11,2)) Sb kX (i:=1) Q2;obtain⟨i12,ind,irg⟩:=hik i hi;clear w3 g3 r3 w4 t3;rw[hy2];clear hy2 y2;refine ab λy2 hy2=>?_;have s4:=(t4.pin hb (hn8 _)).len (K:=vw h4);rw[hs8]at s4;have hl4:(gn (frmE ed f.blocks.length k) (nth x.phis i).ins 0).length=(nth x.phis i).ins.length:=lS;simp[cX t4,s4,hl4];refine aJ [1,2,11,12,15,22,98,99,138,139,140,146,147] (fun(_:Unit) j=>[QT B,QT R,QT D,.map (QB r),Qy Qz k,QT X,Qy Qz f.blocks.length,Qy Qz k,(V k).p,Qy Qz x.phis.length,Qy Qz i,Qy Qz (nth x.phis i).ins.length,Qy Qz j])
    (λ_ j h5=>Wt W h5 K oc vb V (bj (spTo ed f k) k (gk (d5 ed f.blocks.length k x i) i ⟨(nth x.phis i).dst,gn (frmE ed f.blocks.length k) (nth x.phis i).ins j⟩))) (nth x.phis i).ins.length ()
    rfl Q1 rfl t4 (λ_ _=>rfl) (λ_ j h5 hk _=>by simp) ?_ ?_
   ·rintro _ j h5 hj t5 K4 hK4;have hj5:j<(nth (gk (d5 ed f.blocks.length k x i) i ⟨(nth x.phis i).dst,gn (frmE ed f.blocks.length k) (nth x.phis i).ins j⟩).phis i).ins.length:=by rw[hs8];show j<(gn _ _ _).length;rw[lS];exact hj
    obtain⟨g1,g2,g3,g4,g5⟩:=t5.ixN hb (hn8 _) hj5;have ej:nth (nth (gk (d5 ed f.blocks.length k x i) i ⟨(nth x.phis i).dst,gn (frmE ed f.blocks.length k) (nth x.phis i).ins j⟩).phis i).ins j=nth (nth x.phis i).ins j:=by rw[hs8];exact qc hj
    rw[ej]at g2 g3 g4 g5;have hset:(gn (frmE ed f.blocks.length k) (nth x.phis i).ins j).set j (frmE ed f.blocks.length k (nth (nth x.phis i).ins j))=gn (frmE ed f.blocks.length k) (nth x.phis i).ins (j+1):=rA hj;refine ab λy3 hy3=>?_;simp;rw[hy3];clear hy3 y3;refine ab λy3 hy3=>?_;simp[cX t5,g1,g2];refine aQ (z:=zz1) (places:=zpc) (vs:=[(0,Qy Qz (nth (nth x.phis i).ins j).frm),(1,Qy Qz k)]) (cs:=#[Qy Qz (nth (nth x.phis i).ins j).frm,Qy Qz k]) Q0 Q0 Sb rfl ?_;refine Bb (a:=(nth (nth x.phis i).ins j).frm) (b:=k) (z:=Qy Qz 0) tw U.j0 Q0 rfl rfl (mp t5.wle) ?_;cases hp:putEq ed f.blocks.length (nth (nth x.phis i).ins j).frm k with
    | none=>
     simp;rw[hy3];clear hy3 y3;simp;refine hK4 () _ _ rfl rfl ?_;have e6:frmE ed f.blocks.length k (nth (nth x.phis i).ins j)=nth (nth x.phis i).ins j:=by unfold frmE;rw[hp];rfl
     have e7:gn (frmE ed f.blocks.length k) (nth x.phis i).ins (j+1)=gn (frmE ed f.blocks.length k) (nth x.phis i).ins j:=by
      rw[<-hset,e6];have hjm:j<(gn (frmE ed f.blocks.length k) (nth x.phis i).ins j).length:=by rw[lS];exact hj
      have e8:nth (nth x.phis i).ins j=nth (gn (frmE ed f.blocks.length k) (nth x.phis i).ins j) j:=(qc hj).symm;rw[e8,ao hjm,Oz]
     rw[e7];exact t5
    | some q=>
     simp;rw[hy3];clear hy3 y3;simp[cX t5,g1];have hq:=jV hp;refine t5.pf hb (hn8 _) hj5 Q0 rfl rfl (v:=q) (by constructor<;>omega) λh6 t6=>?_;refine hK4 () _ _ rfl rfl ?_;have e6:frmE ed f.blocks.length k (nth (nth x.phis i).ins j)=⟨q,(nth (nth x.phis i).ins j).val⟩:=by unfold frmE;rw[hp];rfl
     rw[e6]at hset;rw[ej,vz,hs8]at t6;rw[<-hset];exact t6
   rintro _ h5 t5;rw[tU]at t5;rw[bS,hy2];clear hy2 y2;simp[cX t5];obtain⟨o5,w5,g5,r5⟩:=t5.ex;have hpin:=(g5.cur hb).pin i (hn8 _);rw[hs8]at hpin;refine ag Q0 (Ba (K+5,pr k i) w5 hpin (by rw[Nr];exact i12) (λz hz=>by
    obtain⟨z0,hz0,rfl⟩:=ND.1 hz;have h1:=irg z0 hz0;unfold frmE;dsimp only;cases hp:putEq ed f.blocks.length z0.frm k with
    | none=>simp only[On];omega
    | some q=>have:=jV hp;simp only[Oo];omega)) ?_;rintro _ h6 ⟨l',hperm,hris,w6⟩;have hl':=xw hperm hris (rN ind irg);subst hl';have bo5:=(g5.cur hb).JG (o':=o5.upd (K+5,pr k i) (it T.dK ((V k).pin i) (srt ((nth x.phis i).ins.map (frmE ed f.blocks.length k))))) (l:=srt ((nth x.phis i).ins.map (frmE ed f.blocks.length k))) (hn8 _) λ_=>rfl;rw[hs8,vz]at bo5;have t6:=Wt.wr (d':=gk (d5 ed f.blocks.length k x i) i (phE ed f.blocks.length k (nth x.phis i))) g5 r5 hb w6 ofB5 rfl bo5;rw[hoc]at t6;refine hK3 () _ _ rfl rfl ?_;have e9:gk (d5 ed f.blocks.length k x i) i (phE ed f.blocks.length k (nth x.phis i))=d5 ed f.blocks.length k x (i+1):=by unfold gk d5;rw[<-rA hi]
   rw[<-e9];exact t6.drop hX Sb
  rintro _ h3 t3;rw[Kq,<-hx,EX hk]at t3;exact hK2 () _ _ rfl rfl t3
 rintro _ h1 t1;rw[Gu]at t1;exact done h1 t1
end
def cntT(f:aq):Nat->Nat
 | 0=>0
 | k+1=>cntT f k+((nth f.blocks k).phis.length+(nth f.blocks k).ins.length+1)
theorem Dw{f:aq}(sm:SmF f) : ∀k,k<=f.blocks.length->cntT f k<=2000001*k
 | 0,_=>by simp[cntT]
 | k+1,hk=>by have h1:=Dw sm k Q1;have h2:=(sm.blk k Q1).phis;have h3:=(sm.blk k Q1).ins;unfold cntT;omega
def tf(f:aq):Bool:=decide (512<f.blocks.length+(oW f).length)||decide (4096<(oW f).length+cntT f f.blocks.length)
def jJ(f:aq):Int:=if(mJ f).1≠0 then(mJ f).1 else if tf f then 2 else 0
theorem Owns.Jk{po:OP}{P:Program}{h:Heap}{o:Own}{k:Key}{t e ty:TypeId}{us:List (Nat × Value)}{x:Operand}{d:Int}{K:Value->Heap->Prop}(w:Owns W h o)(hk:o k=QC)(hT:eG P t e 1 8 (Qy Qz 0))(hx:asg us x = Qy Qz d)(hd:I64 d)(hK : ∀u h',(vw h).le (vw h')->Owns W h' (o.upd k (it e u [d]))->u.oneCell'=QF->K u h'):@Lft.step po P (.buildSlice t 1 #[(0,x)]) ty us h K:=by
 refine uZ (vs:=[(0,Qy Qz d)]) (cs:=#[Qy Qz d]) hT Q1 (by simp[hx]) (by
  have e1:Array.map (λx=>(Qy Qz 0).cells[x % (Qy Qz 0).cells.size]!) (Array.range (1*1)) = #[Qy Qz 0]:=by simp[Array.range,Value.cells];rfl
  rw[e1];rfl) ?_;have hle:=bA h (.cells #[Qy Qz d] e);have hb:(h.push (.cells #[Qy Qz d] e))[h.size]? = QB (.cells #[Qy Qz d] e (0,0)):=by simp
 generalize h.push (.cells #[Qy Qz d] e)=h1 at hle hb;exact hK _ _ hle (w.add hk (lZ (W:=W) (v:=Qy Qz d) (d:=d) hb (dJ.2 ⟨rfl,hd⟩) Q2) hle λb hb=>by simp only[Value.ownBlock,MX]at hb;omega) rfl
theorem zq{α:Type}[Inhabited α]{l:List α}{k:Nat}(h:l.Nodup)(hk:k<l.length):nth l k∉l.take k:=by intro hm;obtain⟨i,hi,e⟩:=Ni hm;rw[OS,ao hk]at e;have:=(PK h).1 e;simp at hi;omega
theorem Iy{sz:Nat}{a:Addr}{k:IntKind}{i:Int}(h0:0<=i)(h1:i<n):Bn.ev (.aidx n sz) (QE (QB a)) (.int k i)=QB (QE (QB (a.add (i.toNat*sz)))):=by simp[Bn.ev,vP,vI,h0,h1]
structure PutI(K:Nat)(f:aq)(ed:List (Int × Int))(S:View)(r D:Nat)(ob:Own)(k:Nat)(h:Heap)(W:View)(o:Own)(vb:Value)(V:Nat->Bv):Prop where
 le:S.le W
 row : ∃es c,W r=QB (.map es c)
 w:Owns W h o
 fno:FnO K o vb V ⟨f.params,f.blocks++(ed.take k).map λe=>jv e.2⟩
 box:o (K+10,0)=bx T.a7 D (RawN.mk (n:=1) [Qy Qz f.params,vb])
 fr : ∀q:Key,(q.1<K\/K+6<q.1)->q≠(K+10,0)->o q=ob q
 free : ∀b,f.blocks.length+k<=b->∀q,OfB K b q->o q=QC
 map:Map2 h r λa b=>(putEq (ed.take k) f.blocks.length a b).map (.int .i64)
theorem sY(K:Nat){f:aq}{v:Value}{h:Heap}{o0:Own}(w0:Owns W h o0)(ho0 : ∀k:Key,K<=k.1->k.1<=K+13->o0 k=QC)(hv:Rd W v f)(sm:SmF f)(hi:(mJ f).1=0->DH f):
    aw QH N.bZ #[v] h (λu h'=>∃W',W.le W'/\
      ((jJ f≠0/\u = .tuple #[.agg #[Qy Qz 0,QD QC 0 0],Qy Qz (jJ f)]/\Owns W' h' o0)\/
       (jJ f=0/\∃o' vb V,u = .tuple #[.agg #[Qy Qz f.params,vb],Qy Qz 0]/\I64 f.params/\Owns W' h' o'/\FnO K o' vb V (mX f)/\∀k:Key,(k.1<K\/K+6<k.1)->o' k=o0 k))):=by
  refine ak (args:=[v]) follows F.bZ E.bZ Q9 λKc hK=>?_
  dsimp only[L.bZ]
  refine ab λz hz=>?_
  simp
  refine Owns.qu w0 (d:=f) rfl hv λB h1 W1 hW1 w1 hat hle1=>?_
  obtain⟨cp,vb0,cb0⟩:=jX hat
  obtain⟨uf,huf,rf⟩:=hat.ax rfl
  have huf:Un.ev W1 (.ax 2) (QT B)=QB uf:=huf
  have hufm : ∀{H:View},W1.le H->Un.ev H (.ax 2) (QT B)=QB uf:=λhH=>by
    have:=dF (ρ:=λ_=>QC) (e:=.un (.ax 2) (.con (QT B))) hH (by simpa using huf)
    simpa using this
  refine w1.mL (k:=(K+10,1)) (n:=1) (z:=.agg #[Qy Qz 0,QD QC 0 0]) (ho0 _ Sb Sb) Q0 rfl Q2 Q7 λh2 q2 w2=>?_
  generalize h1.size=R at w2
  subst hz
  refine ab λz hz=>?_
  simp[hufm w2.wle]
  refine ag Q0 (Dt (rf.mono w2.wle) sm) ?_
  rintro _ h3 ⟨rfl,hle3⟩
  have w3:Owns W1 h3 (o0.upd (K+10,1) (bx T.a7 R (RawN.mk (n:=1) [Qy Qz 0,QD QC 0 0]))):=w2.ext' hle3
  have hw1 : ∀k:Key,k≠(K+10,1)->(o0.upd (K+10,1) (bx T.a7 R (RawN.mk (n:=1) [Qy Qz 0,QD QC 0 0]))) k=o0 k:=λk hk=>Own.af hk
  simp
  subst hz
  refine ab λz hz=>?_
  obtain⟨e,he⟩ : ∃e,e=(mJ f).1:=⟨_,rfl⟩
  have kR:(o0.upd (K+10,1) (bx T.a7 R (RawN.mk (n:=1) [Qy Qz 0,QD QC 0 0]))) (K+10,1)=bx T.a7 R (RawN.mk (n:=1) [Qy Qz 0,QD QC 0 0]):=Own.ah
  generalize o0.upd (K+10,1) (bx T.a7 R (RawN.mk (n:=1) [Qy Qz 0,QD QC 0 0]))=o1 at w3 hw1 kR
  simp[<-he]
  refine⟨λe0=>?_,λe0=>?_⟩
  rotate_left
  · refine aQ (z:=zz4) (places:=zpc) (vs:=[]) (cs:=#[Qy Qz 0,QD QC 0 0]) Q0 Q0 Sb Ri ?_
    refine w3.lu (k:=(K+10,1)) (e:=T.a7) (B:=R) Part.all (d:=RawN.mk (n:=1) [Qy Qz 0,QD QC 0 0]) kR Q0 rfl rfl (iO rfl (iH rfl)) λh4 w4 _=>?_
    have c4:Un.ev (vw h4) (.ax 2) (QT R)=QB (.agg #[Qy Qz 0,QD QC 0 0]):=w4.gg (k:=(K+10,1)) (n:=1) Own.ah
    simp[c4]
    have hs:jJ f=e:=by unfold jJ;rw[<-he,if_pos e0]
    refine hK _ _ ⟨W1,?_,.inl ⟨by rw[hs];exact e0,by rw[hs],w4.sub λq i hq=>?_⟩⟩
    · exact hW1
    · have hne:q≠(K+10,1):=by rintro rfl;rw[ho0 _ Sb Sb]at hq;cases hq
      rw[Own.af hne,hw1 q hne];exact hq
  · have rf3:=rf.mono w3.wle
    obtain⟨vb1,rfl,ip,sb1⟩:=zZ rf
    have hin:=hi (he.symm.trans e0)
    subst hz
    refine ab λz hz=>?_
    simp[hufm w3.wle]
    refine ag Q0 (vk (sb1.mono w3.wle) (NB sm.len Q2) λi hi=>NB (sm.blk i hi).to Q2) ?_
    rintro ug h4 ⟨hle4,sg4⟩
    have sm4:Sm (ofG f.blocks):=FT (NB sm.len Q2) λi hi=>NB (sm.blk i hi).to Q2
    refine ag Q0 (BB (sg4.mono (jE _ _)) sm4) ?_
    rintro ue h5 ⟨hle5,se5⟩
    subst hz
    have se5:SlRd (fresh h4 h5) ue (oW f):=se5
    generalize hE:oW f=ed at se5
    refine ab λz hz=>?_
    simp[se5.len]
    subst hz
    refine ab λz hz=>?_
    have w5:=(w3.ext' hle4).ext hle5
    have hW5:W1.le (grow W1 h4 h5):=bE (Qx w3.wle hle4)
    have eE:=se5.mono (jd W1 h4 h5)
    have sbm:=sb1.mono hW5
    have cp5:=ae hW5 cp
    have cb5:=ae hW5 cb0.1
    have sb5:=cb0.2.mono hW5
    have uf5 : ∀{H:View},(grow W1 h4 h5).le H->Un.ev H (.ax 2) (QT B)=QB (.agg #[Qy Qz f.params,vb1]):=λhH=>hufm (Qx hW5 hH)
    obtain⟨W5,hW5e⟩ : ∃W5,W5=grow W1 h4 h5:=⟨_,rfl⟩
    rw[<-hW5e]at w5 hW5 eE sbm cp5 cb5 sb5 uf5
    clear hW5e
    have nX : ∀i,o1 (K+11,i)=none:=λi=>(hw1 _ Sb).trans (ho0 _ Sb Sb)
    have cl:=λk hk=>Dw sm k hk
    have hl:=sm.len
    have hEl:ed.length<=1000000000000:=by rw[<-hE];exact NB (Pk _ _) (rj sm4)
    simp[ae w5.wle cb5,(sb5.mono w5.wle).len]
    refine aJ [1,2,7,8,42,43,44] (fun(_:Unit) k=>[QT B,QT R,ue,Qy Qz ((ed.length+cntT f k:Nat):Int),vb0,Qy Qz f.blocks.length,Qy Qz k]) (λ_ k h6=>Owns W5 h6 o1) f.blocks.length ()
      rfl Q1 rfl w5 (λ_ _=>rfl) (λ_ k h2 hk _=>by simp) ?_ ?_
    · rintro _ k h6 hk w6 K2 hK2
      obtain⟨ux,hux,rux⟩:=sb5.wh rfl (N:=6) rfl hk
      have s6:=sb5.mono w6.wle
      refine ab λy hy=>?_
      simp(disch:=omega)[s6.idxn (N:=6) rfl,hux _ w6.wle]
      refine w6.sL (k:=(K+11,0)) (α:=BlkD) (n:=6) (nX 0) rux rfl (z:=zz3) Q0 rfl Q0 Q2 Q4 Q4 λh7 q7 w7=>?_
      generalize h6.size=X at w7
      have hat7:=w7.at (k:=(K+11,0)) (d:=nth f.blocks k) (e:=T.a8) (B:=X) Own.ah
      obtain⟨vp,vi,va,vt,gp,gi,_,_,_⟩:=nZ hat7
      have hsb:=sm.blk k hk
      have b1:=hsb.phis
      have b2:=hsb.ins
      have b3:=cl k Q1
      subst hy
      simp[gp.1,gp.2.len,gi.1,gi.2.len]
      rw[bu (a:=((nth f.blocks k).phis.length:Int)+(nth f.blocks k).ins.length) Q1 Q1,bu (a:=((nth f.blocks k).phis.length:Int)+(nth f.blocks k).ins.length+1) Q1 Q1,bu Q1 Q1]
      refine hK2 () _ _ rfl ?_ (w7.sub λq i hq=>?_)
      · have ec:((ed.length+cntT f (k+1):Nat):Int)=(ed.length:Int)+cntT f k+((nth f.blocks k).phis.length+(nth f.blocks k).ins.length+1):=by
          show((ed.length+(cntT f k+((nth f.blocks k).phis.length+(nth f.blocks k).ins.length+1)):Nat):Int)=_
          omega
        rw[ec]
        rfl
      · rw[Own.af (by rintro rfl;rw[nX]at hq;cases hq)];exact hq
    · rintro _ h6 w6
      rw[bS,hz];clear hz z
      refine ab λz hz=>?_
      simp[ae w6.wle cb5,(sb5.mono w6.wle).len,(eE.mono w6.wle).len]
      rw[bu Q1 Q1]
      obtain⟨mb,hmb⟩ : ∃mb,mb=(decide (512<(f.blocks.length:Int)+ed.length)||decide (4096<(ed.length:Int)+cntT f f.blocks.length)):=⟨_,rfl⟩
      have hmany:tf f=mb:=by
        rw[hmb];unfold tf;rw[hE]
        congr 1<;>exact decide_eq_decide.2 Q1
      rw[<-hmb]
      cases mb with
      | true=>
        simp
        refine aQ (z:=zz4) (places:=zpc) (vs:=[]) (cs:=#[Qy Qz 0,QD QC 0 0]) Q0 Q0 Sb Ri ?_
        refine w6.lu (k:=(K+10,1)) (e:=T.a7) (B:=R) Part.all (d:=RawN.mk (n:=1) [Qy Qz 0,QD QC 0 0]) kR Q0 rfl rfl (iO rfl (iH rfl)) λh4 w4 _=>?_
        have c4:Un.ev (vw h4) (.ax 2) (QT R)=QB (.agg #[Qy Qz 0,QD QC 0 0]):=w4.gg (k:=(K+10,1)) (n:=1) Own.ah
        simp[c4]
        have hs:jJ f=2:=by unfold jJ;rw[<-he,if_neg Q1,hmany];rfl
        refine hK _ _ ⟨W5,?_,.inl ⟨by rw[hs];decide,by rw[hs],w4.sub λq i hq=>?_⟩⟩
        · exact Qx hW1 hW5
        · have hne:q≠(K+10,1):=by rintro rfl;rw[ho0 _ Sb Sb]at hq;cases hq
          rw[Own.af hne,hw1 q hne];exact hq
      | false=>
        simp
        have hs0:jJ f=0:=by unfold jJ;rw[<-he,if_neg Q1,hmany];rfl
        have l512:f.blocks.length+ed.length<=512:=by
          have:=NV.1 hmb.symm
          have:=of_decide_eq_false this.1;omega
        have w6:Owns W5 h6 o1:=w6
        subst hz
        refine ab λz hz=>?_
        simp[uf5 w6.wle]
        refine ag Q0 (Kw K w6 (λk h1 h2=>(hw1 k (by rintro rfl;simp at h2)).trans (ho0 k h1 Q1)) (rf.mono hW5) sm) ?_
        rintro _ h7 ⟨o7,vb,V,rfl,_,w7,g7,fr7,free7⟩
        have o7n : ∀q:Key,K<=q.1->q.1<=K+13->(K+6<q.1)->q≠(K+10,1)->o7 q=none:=λq h1 h2 h3 h4=>(fr7 q (.inr h3)).trans ((hw1 q h4).trans (ho0 q h1 h2))
        refine w7.vJ (k:=(K+10,0)) (n:=1) (l:=[Qy Qz f.params,vb]) (o7n _ Sb Sb Sb Sb) (z:=zz4) Q0 rfl Q0 rfl Q2 (iH (w7.cells g7.blk).2) Q4 Q4 λh8 q8 w8=>?_
        generalize h7.size=D at w8
        subst hz
        refine ab λz hz=>?_
        simp
        refine kE ?_
        have q9:=bA h8 (.map #[] 0)
        have m9:Map2 (h8.push (.map #[] 0)) h8.size (λ_ _=>QC):=Map2.none Sb
        have w9:=w8.ext q9
        have r9:grow W5 h8 (h8.push (.map #[] 0)) h8.size=QB (.map #[] 0):=by rw[gJ (MY _)];simp
        generalize h8.push (.map #[] 0)=h9 at q9 m9 w9 r9
        have hr5:W5 h8.size=none:=View.cT w8.wle (MY _)
        generalize h8.size=r at m9 r9 hr5
        have hW9:W5.le (grow W5 h8 h9):=bE w8.wle
        generalize grow W5 h8 h9=W9 at w9 r9 hW9
        subst hz
        refine ab λz hz=>?_
        have eS:SlRd W5 ue ed:=eE
        have hnd:ed.Nodup:=by rw[<-hE];exact oE
        have w9:Owns W9 h9 (o7.upd (K+10,0) (bx T.a7 D (RawN.mk (n:=1) [Qy Qz f.params,vb]))):=w9
        obtain⟨o8,ho8⟩ : ∃o8,o8=o7.upd (K+10,0) (bx T.a7 D (RawN.mk (n:=1) [Qy Qz f.params,vb])):=⟨_,rfl⟩
        have kD:o8 (K+10,0)=bx T.a7 D (RawN.mk (n:=1) [Qy Qz f.params,vb]):=by rw[ho8];exact Own.ah
        have kX : ∀i,o8 (K+11,i)=none:=λi=>by rw[ho8,Own.af Sb];exact o7n _ Sb Sb Sb Sb
        have p0:PutI K f ed W5 r D o8 0 h9 W9 o8 vb V:=
          ⟨hW9,⟨_,_,r9⟩,by rw[ho8];exact w9,by rw[ho8];simpa using g7.upd Sb,kD,λ_ _ _=>rfl,λb hb q hq=>by rw[ho8,Own.af (by rintro rfl;have:=jl hq;simp at this)];exact free7 b Q1 q hq,by simpa[G3]using m9⟩
        simp[(eS.mono (Qx hW9 w9.wle)).len]
        refine aJ [1,2,11,12,74,75,76] (fun(_:Unit) k=>[QT B,QT R,QT D,.map (QB r),ue,Qy Qz ed.length,Qy Qz k]) (λ_ k h6=>∃W' o' vb' V',PutI K f ed W5 r D o8 k h6 W' o' vb' V') ed.length ()
          rfl Q1 rfl ⟨_,_,_,_,p0⟩ (λ_ _=>rfl) (λ_ k h2 hk _=>by simp) ?_ ?_
        · rintro _ k h10 hk ⟨W',o',vb',V',pk⟩ K2 hK2
          have hnk:nth ed k∉ed.take k:=zq hnd hk
          have hI:I64 (nth ed k).1/\I64 (nth ed k).2:=by
            obtain⟨u,_,h2⟩:=eS.wh rfl (N:=2) rfl hk
            exact(zB.1 h2).2
          have s10:=eS.mono (Qx pk.le pk.w.wle)
          have hex:=eS.pair (Qx pk.le pk.w.wle) hk
          generalize hn:nth ed k=e1 at hnk hI hex
          obtain⟨ea,eb⟩:=e1
          refine ab λy hy=>?_
          simp(disch:=omega)[s10.idxn (N:=2) rfl,hex]
          refine pk.w.vJ (k:=(K+11,1)) (n:=1) (l:=[Qy Qz ea,Qy Qz eb]) ((pk.fr _ Sb Sb).trans (kX 1)) (z:=zz1) Q0 rfl Q0 rfl Q2 (iH rfl) Q4 Q4 λh11 q11 w11=>?_
          generalize h10.size=X at w11
          have c0:Un.ev (vw h11) (.ax 2) (QT X)=QB (.agg #[Qy Qz ea,Qy Qz eb]):=w11.gg (k:=(K+11,1)) (n:=1) Own.ah
          have c1:aj (vw h11) ⟨D,1,QC⟩=QB vb':=w11.raw (k:=(K+10,0)) (e:=T.a7) (n:=1) (by rw[Own.af Sb];exact pk.box) (i:=1) Q2
          have g11:FnO K (o'.upd (K+11,1) (bx T.ou X (RawN.mk (n:=1) [Qy Qz ea,Qy Qz eb]))) vb' V' ⟨f.params,f.blocks++(ed.take k).map λe=>jv e.2⟩:=pk.fno.upd Sb
          have hlk:(ed.take k).length=k:=by rw[Ny];omega
          have s11:=g11.rd w11
          have hl11:(f.blocks++(ed.take k).map λe=>jv e.2).length=f.blocks.length+k:=by rw[M3,Nr,hlk]
          have hmk:min k ed.length=k:=by omega
          subst hy
          refine ab λy hy=>?_
          simp[c0,c1,s11.len,hmk]
          refine IH tw U.j0 rfl rfl rfl (pk.map.ext q11) (a:=ea) (b:=eb) (by
            have:putEq (ed.take k) f.blocks.length ea eb=none:=by unfold putEq;rw[if_neg hnk]
            rw[this];rfl) λh12 hs12 ho12 m12=>?_
          obtain⟨es,ck,hrow⟩:=pk.row
          obtain⟨es',ck',hr',_⟩:=m12.ex
          have w12:=w11.turn hrow (λ_ _ _=>Obj.noConfusion) hr' hs12 ho12
          have le12:W5.le (W'.set r (.map es' ck')):=λb x hb=>by
            unfold View.set
            split
            · rename_i e;subst e;rw[hr5]at hb;cases hb
            · exact pk.le _ _ hb
          subst hy
          have d0:aj (vw h12) ⟨X,1,QC⟩=QB (Qy Qz eb):=w12.raw (k:=(K+11,1)) (n:=1) Own.ah (i:=1) Q2
          have d1:aj (vw h12) ⟨D,1,QC⟩=QB vb':=w12.raw (k:=(K+10,0)) (e:=T.a7) (n:=1) (by rw[Own.af Sb];exact pk.box) (i:=1) Q2
          simp(disch:=omega)[Iy,d0,d1]
          have fk : ∀q,OfB K (f.blocks.length+k) q->o' q=none:=pk.free _ (MY _)
          refine Owns.Jk (k:=(K+4,f.blocks.length+k)) (d:=eb) w12 (by rw[Own.af Sb];exact fk _ (.inl ⟨rfl,by simp,by simp⟩)) El.bn rfl hI.2 λu h13 q13 w13 hu=>?_
          refine aQ (z:=zz9) (places:=zpb) (vs:=[(0,Qy Qz 1),(2,u)]) (cs:=#[Qy Qz 1,QD QC 0 0,u,Qy QA 0]) Q0 Q0 Sb (by cases u<;>first | rfl | cases hu) ?_
          refine aQ (z:=zz3) (places:=zpd) (vs:=[(2,.agg #[Qy Qz 1,QD QC 0 0,u,Qy QA 0])]) (cs:=#[QD QC 0 0,QD QC 0 0,Qy Qz 1,QD QC 0 0,u,Qy QA 0]) Q0 Q0 Sb Ri ?_
          obtain⟨Vn,hVn⟩ : ∃Vn:Bv,Vn=⟨QD QC 0 0,QD QC 0 0,QD QC 0 0,u,λ_=>QD QC 0 0,λ_=>QD QC 0 0⟩:=⟨_,rfl⟩
          refine w13.iN (k:=(K,0)) (α:=BkO) (v:=vb') (d:=bkO Vn (jv eb)) (by rw[Own.af Sb,Own.af Sb];exact pk.fno.blk) El.jQ rfl (by rw[hVn];exact HF rfl rfl rfl hu ⟨Q2,Q2⟩ ⟨Q2,Q2⟩) Q8 Q8 (λ_=>rfl) (λ_=>rfl) λu5 v5 h14 w14 _=>?_
          have hv5:=(w14.cells (k:=(K,0)) Own.ah).2
          refine w14.bG (k:=(K+10,0)) (n:=1) (i:=1) (e:=T.a7) (B:=D) (l:=[Qy Qz f.params,vb']) (by rw[Own.af Sb,Own.af Sb,Own.af Sb];exact pk.box) Q2 Q0 rfl rfl hv5 λh15 w15 _=>?_
          obtain⟨O,hO⟩ : ∃O:Own,O=(((o'.upd (K+11,1) (bx T.ou X (RawN.mk (n:=1) [Qy Qz ea,Qy Qz eb]))).upd (K+4,f.blocks.length+k) (it T.int u [eb])).upd (K,0) (it T.a8 v5 (rows (λb=>bkO (V' b) (nth (f.blocks++(ed.take k).map λe=>jv e.2) b)) (f.blocks++(ed.take k).map λe=>jv e.2).length++[bkO Vn (jv eb)]))).upd (K+10,0) (bx T.a7 D (RawN.mk (n:=1) [Qy Qz f.params,v5])):=⟨_,rfl⟩
          have w15:Owns (W'.set r (.map es' ck')) h15 O:=by rw[hO];exact w15
          have O0:O (K,0)=it T.a8 v5 (rows (λb=>bkO (V' b) (nth (f.blocks++(ed.take k).map λe=>jv e.2) b)) (f.blocks++(ed.take k).map λe=>jv e.2).length++[bkO Vn (jv eb)]):=by rw[hO,Own.af Sb,Own.ah]
          have O10:O (K+10,0)=bx T.a7 D (RawN.mk (n:=1) [Qy Qz f.params,v5]):=by rw[hO,Own.ah]
          have O4:O (K+4,f.blocks.length+k)=it T.int u [eb]:=by rw[hO,Own.af Sb,Own.af Sb,Own.ah]
          have Of : ∀q,q≠(K+11,1)->q≠(K+4,f.blocks.length+k)->q≠(K,0)->q≠(K+10,0)->O q=o' q:=λq h1 h2 h3 h4=>by rw[hO,Own.af h4,Own.af h3,Own.af h2,Own.af h1]
          clear hO
          obtain⟨oF,hoF⟩ : ∃oF:Own,oF=λq=>if q=(K+11,1) then QC else if q=(K+1,f.blocks.length+k) then it T.dY (QD QC 0 0) ([]:List PhO) else if q=(K+2,f.blocks.length+k) then it T.dT (QD QC 0 0) ([]:List InO) else if q=(K+3,f.blocks.length+k) then it T.int (QD QC 0 0) ([]:List Int) else O q:=⟨_,rfl⟩
          have F1:oF (K+1,f.blocks.length+k)=it T.dY (QD QC 0 0) ([]:List PhO):=by rw[hoF];simp
          have F2:oF (K+2,f.blocks.length+k)=it T.dT (QD QC 0 0) ([]:List InO):=by rw[hoF];simp
          have F3:oF (K+3,f.blocks.length+k)=it T.int (QD QC 0 0) ([]:List Int):=by rw[hoF];simp
          have F11:oF (K+11,1)=none:=by rw[hoF];simp
          have Ff : ∀q,q≠(K+11,1)->q≠(K+1,f.blocks.length+k)->q≠(K+2,f.blocks.length+k)->q≠(K+3,f.blocks.length+k)->oF q=O q:=λq h1 h2 h3 h4=>by rw[hoF];simp only[h1,h2,h3,h4,if_false]
          have wF:Owns (W'.set r (.map es' ck')) h15 oF:=Owns.nils w15 λq i hq=>by
            by_cases e1:q=(K+11,1)
            · rw[e1,F11]at hq;cases hq
            by_cases e2:q=(K+1,f.blocks.length+k)
            · rw[e2,F1]at hq;cases hq;exact .inr ⟨rfl,OwnT.nil (α:=PhO) _ h15 T.dY⟩
            by_cases e3:q=(K+2,f.blocks.length+k)
            · rw[e3,F2]at hq;cases hq;exact .inr ⟨rfl,OwnT.nil (α:=InO) _ h15 T.dT⟩
            by_cases e4:q=(K+3,f.blocks.length+k)
            · rw[e4,F3]at hq;cases hq;exact .inr ⟨rfl,OwnT.nil (α:=Int) _ h15 T.int⟩
            rw[Ff q e1 e2 e3 e4]at hq;exact .inl hq
          clear hoF
          have nb : ∀{b:Nat} {q:Key},b≠f.blocks.length+k->OfB K b q->oF q=o' q:=fun{b q} hb h=>by
            have h1:=jl h
            have h2:=y8 hb h
            have n4:q≠(K+4,f.blocks.length+k):=by rintro rfl;exact h2 (.inl ⟨rfl,by simp,by simp⟩)
            have n1:q≠(K+1,f.blocks.length+k):=by rintro rfl;exact h2 (.inl ⟨rfl,by simp,by simp⟩)
            have n2:q≠(K+2,f.blocks.length+k):=by rintro rfl;exact h2 (.inl ⟨rfl,by simp,by simp⟩)
            have n3:q≠(K+3,f.blocks.length+k):=by rintro rfl;exact h2 (.inl ⟨rfl,by simp,by simp⟩)
            have n11:q≠(K+11,1):=by rintro rfl;simp at h1
            have n0:q≠(K,0):=by rintro rfl;simp at h1;omega
            have n10:q≠(K+10,0):=by rintro rfl;simp at h1
            rw[Ff q n11 n1 n2 n3,Of q n11 n4 n0 n10]
          have etk:ed.take (k+1)=ed.take k++[(ea,eb)]:=by
            rw[Np hk,<-ao hk,hn]
          have ebl:f.blocks++(ed.take (k+1)).map (λe=>jv e.2)=(f.blocks++(ed.take k).map λe=>jv e.2)++[jv eb]:=by
            rw[etk,Ov,Nk];rfl
          have bo:BO K oF (f.blocks.length+k) Vn (jv eb):=by
            rw[hVn]
            exact⟨F1,F2,F3,by rw[Ff _ Sb Sb Sb Sb];exact O4,λi hi=>absurd hi (Nw _),λi hi=>absurd hi (Nw _)⟩
          refine hK2 () _ _ rfl rfl ⟨_,oF,v5,λb=>if b=(f.blocks++(ed.take k).map λe=>jv e.2).length then Vn else V' b,le12,⟨es',ck',by unfold View.set;rw[if_pos rfl]⟩,wF,?_,?_,λq hq hq2=>?_,λb hb q hq=>?_,?_⟩
          · rw[ebl]
            refine pk.fno.push (Vn:=Vn) (x:=bkO Vn (jv eb)) rfl ?_ (λb hb q hq=>?_) ?_
            · rw[Ff _ Sb Sb Sb Sb];exact O0
            · rw[hl11]at hb;exact nb Q1 hq
            · rw[hl11];exact bo
          · rw[Ff _ Sb Sb Sb Sb];exact O10
          · by_cases e:q=(K+11,1)
            · rw[e,F11];exact(kX 1).symm
            · rw[Ff q e (by rintro rfl;dsimp only at hq;omega) (by rintro rfl;dsimp only at hq;omega) (by rintro rfl;dsimp only at hq;omega),Of q e (by rintro rfl;dsimp only at hq;omega) (by rintro rfl;dsimp only at hq;omega) hq2]
              exact pk.fr q hq hq2
          · rw[nb Q1 hq];exact pk.free b Q1 q hq
          · have m15:Map2 h15 r _:=m12.same (by
              have:=wF.wle r (.map es' ck') (by unfold View.set;rw[if_pos rfl])
              have:h15[r]? = QB (.map es' ck'):=this
              rw[this,hr'])
            have ef:(λa b=>(putEq (ed.take (k+1)) f.blocks.length a b).map (Qy .i64))=λc d=>if c=ea/\d=eb then QB (Qy Qz ((f.blocks.length:Int)+k)) else(putEq (ed.take k) f.blocks.length c d).map (.int .i64):=by
              funext c d
              rw[etk,E8 hnk,hlk]
              dsimp only
              split<;>rfl
            rw[ef];exact m15
        · rintro _ h10 ⟨W',o',vb',V',pk⟩
          rw[bS,hz];clear hz z
          refine ab λz hz=>?_
          have hatS:At W5 ⟨B,0,QC⟩ f:=hat.mono hW5
          obtain⟨_,vbS,cbS⟩:=jX hatS
          have cbW:=ae pk.le cbS.1
          have sbW:=cbS.2.mono pk.le
          simp[ae pk.w.wle cbW,(sbW.mono pk.w.wle).len]
          obtain⟨es,ck,hrow⟩:=pk.row
          have fn0:=pk.fno
          have mp0:=pk.map
          rw[NQ]at fn0 mp0
          refine Hq K (B:=B) (R:=R) (D:=D) (r:=r) (ed:=ed) sm hin l512 ⟨vbS,cbW,sbW⟩ pk.box ((pk.fr _ Sb Sb).trans (kX 2)) hrow mp0 (by rw[Ed];exact⟨o',pk.w,fn0,λ_ _=>rfl⟩) rfl λh11 t11=>?_
          rw[bS,hz];clear hz z
          have cD:=t11.gg (k:=(K+10,0)) Sb pk.box
          have cD:Un.ev (vw h11) (.ax 2) (QT D)=QB (.agg #[Qy Qz f.params,vb']):=cD
          simp[cD]
          obtain⟨o11,w11,g11,r11⟩:=t11.ex
          have kR11:o11 (K+10,1)=bx T.a7 R (RawN.mk (n:=1) [Qy Qz 0,QD QC 0 0]):=by
            rw[r11 _ Sb,pk.fr _ Sb Sb,ho8,Own.af Sb,fr7 _ Sb];exact kR
          refine w11.lu (k:=(K+10,1)) (e:=T.a7) (B:=R) Part.all (d:=RawN.mk (n:=1) [Qy Qz f.params,vb']) kR11 Q0 rfl rfl (iO rfl (iH (w11.cells g11.blk).2)) λh12 w12 _=>?_
          have c12:Un.ev (vw h12) (.ax 2) (QT R)=QB (.agg #[Qy Qz f.params,vb']):=w12.gg (k:=(K+10,1)) (n:=1) Own.ah
          simp[c12]
          refine hK _ _ ⟨W',?_,.inr ⟨hs0,λq=>if q=(K+10,0)\/q=(K+10,1) then QC else o11 q,vb',V',rfl,ip,w12.sub λq i hq=>?_,?_,λq hq=>?_⟩⟩
          · exact Qx hW1 (Qx hW5 pk.le)
          · split at hq
            · cases hq
            · rename_i e
              rw[Own.af (λg=>e (.inr g))];exact hq
          · have hsp:mX f=onE ed f:=by unfold mX;rw[hE]
            rw[hsp]
            exact g11.congr λq h1 h2=>if_neg (by rintro(rfl | rfl)<;>simp at h2)
          · by_cases e:q=(K+10,0)\/q=(K+10,1)
            · refine(if_pos e).trans ?_
              rcases e with rfl | rfl<;>exact(ho0 _ Sb Sb).symm
            · refine(if_neg e).trans ?_
              rw[r11 q hq,pk.fr q hq (λg=>e (.inl g)),ho8,Own.af (λg=>e (.inl g)),fr7 q hq,hw1 q (λg=>e (.inr g))]
theorem wK{f:aq}{p i:Nat}(h : ∀j,j<f.blocks.length->(nth f.blocks j).phis.length<=p/\(nth f.blocks j).ins.length<=i) : ∀k,k<=f.blocks.length->cntT f k<=(p+i+1)*k
 | 0,_=>by simp[cntT]
 | k+1,hk=>by have ih:=wK h k Q1;have:=h k Q1;show cntT f k+_<=_;rw[OW];omega
theorem BH{f:aq}:(oW f).length<=f.blocks.length*f.blocks.length:=by unfold oW jk;refine NB (Pk _ _) ?_;rw[nr,gq];refine ya λa _=>?_;have:=EV (g:=ofG f.blocks) (a:=a);rw[gq]at this;exact this
section
variable{s:List Int}
theorem Ey:cntT (iV s) (iV s).blocks.length<=2385:=by obtain⟨d,p3,p0,hph⟩:=Dx (s:=s);obtain⟨n1,n2⟩:=eK (s:=s);have hlen:=d.gt.len;have hins:=d.ins;have hB:(iV s).blocks=(gS s).blocks:=rfl;have:=wK (f:=iV s) (p:=3) (i:=261) (λj hj=>⟨p3 j,by rw[hB]at hj ⊢;exact hins j Q1⟩) _ (MY _);rw[hB,hlen]at this;rw[hB,hlen];omega
theorem J1:jJ (iV s)=0:=by
 unfold jJ;rw[BU AQ,if_neg Sb];have h1:=Ey (s:=s);have h2:=By (s:=s);have h3:=BH (f:=iV s);have h4:(iV s).blocks.length*(iV s).blocks.length<=9*9:=OD h2.2 h2.2;have:tf (iV s)=false:=by unfold tf;rw[decide_eq_false Q1,decide_eq_false Q1];rfl
 rw[this];rfl
end
theorem KC{f:aq}(m:jf f)(hn:f.blocks.length<=12):DH f:=by
 intro b hb i hi;have h:=(m.phi b i hb hi).2.1;have hl:(nth (nth f.blocks b).phis i).ins.length=(aA f b).length:=by rw[<-h,Nr]
 refine⟨?_,?_,λx hx=>?_⟩
 ·rw[hl];exact NB (lh _) hn
 ·rw[h];exact pg.imp λh=>by omega
 have:x.frm∈aA f b:=by rw[<-h];exact NZ hx
 exact(nc.1 this).1
theorem Hp{f:aq}(m:jf f):eQ f (oW f) where
 hto a ha t ht:=by have:=(m.endG ha).2 t ht;omega
 hed e he:=(xF.1 he).1
 hnd:=oE
theorem F4{f:aq}{ed:List (Int × Int)}(sm:SmF f)(he:f.blocks.length+ed.length<=10000):SmF (onE ed f):=by
 refine⟨by rw[eO];exact he,λi hi=>?_⟩;rw[eO]at hi;rcases M0 i f.blocks.length with h | h
 ·rw[qz h];have q:=sm.blk i h;refine⟨by show(List.map _ _).length<=_;rw[Nr];exact q.phis,q.ins,q.args,by show(List.map _ _).length<=_;rw[Nr];exact q.to,λj hj=>?_,q.inn⟩;have hj:j<(nth f.blocks i).phis.length:=by simpa[blE]using hj
  show(nth ((nth f.blocks i).phis.map (phE ed f.blocks.length i)) j).ins.length<=_;rw[ao (by rw[Nr];exact hj),Oc];show(srt _).length<=_;rw[lY.length_eq,Nr,<-ao hj];exact q.phi j hj
 obtain⟨k,rfl⟩ : ∃k,i=f.blocks.length+k:=⟨i-f.blocks.length,by omega⟩;rw[kQ Q1];exact⟨OL _,OL _,OL _,by show 1<=_;decide,λj hj=>absurd hj (Nw _),λj hj=>absurd hj (Nw _)⟩
section
variable{f:aq}{ed:List (Int × Int)}
theorem nT{f:aq}{b x:Int}(hb:0<=b/\b<f.blocks.length):x∈aA f b↔gX (ofG f.blocks) x b=true:=by
 rw[nc,dL];constructor
 ·rintro⟨h1,h2⟩;exact⟨by omega,h2⟩
 rintro⟨h1,h2⟩;exact⟨by omega,h2⟩
theorem lA{a:Nat}(ha:a<f.blocks.length):(nth (onE ed f).blocks a).phis=(nth f.blocks a).phis.map (phE ed f.blocks.length a):=by rw[qz ha];rfl
theorem jY{a:Nat}(ha:a<f.blocks.length):(nth (onE ed f).blocks a).ins=(nth f.blocks a).ins:=by rw[qz ha];rfl
theorem sQ{a:Nat}(ha:a<f.blocks.length):(nth (onE ed f).blocks a).term=tmE ed f.blocks.length a (nth f.blocks a).term:=by rw[qz ha];rfl
theorem uY{a i:Nat}(ha:a<f.blocks.length)(hi:i<(nth f.blocks a).phis.length):nth (nth (onE ed f).blocks a).phis i=phE ed f.blocks.length a (nth (nth f.blocks a).phis i):=by rw[lA ha,ao (by rw[Nr];exact hi),Oc,ao hi]
structure Ce(f g:aq)(t t':Th):Prop where
 mem:t'∈aS g
 blk:t'.blk=t.blk
 place:t'.place=t.place
 mks:t'.mks=t.mks
 tks:t'.tks.Perm t.tks
theorem BC{a:Int}{p:PhiD}:((phE ed n a p).ins.map InD.val).Perm (p.ins.map InD.val):=by have:=(lY (l:=p.ins.map (frmE ed n a))).map InD.val;rw[PR]at this;exact this
theorem yR{a i:Nat}(ha:a<f.blocks.length)(hi:i<(nth f.blocks a).phis.length):(phiT (onE ed f) a i).mks=(phiT f a i).mks:=by show[(nth (nth (onE ed f).blocks a).phis i).dst]=[(nth (nth f.blocks a).phis i).dst];rw[uY ha hi];rfl
theorem pM{a i:Nat}(ha:a<f.blocks.length):insT (onE ed f) a i=insT f a i:=by unfold insT;rw[jY ha]
theorem na{a:Nat}(ha:a<f.blocks.length):endT (onE ed f) a=endT f a:=by unfold endT;rw[jY ha,sQ ha];rfl
theorem C0{k:Nat}(hk:k<ed.length):endT (onE ed f) (f.blocks.length+k)=⟨((f.blocks.length+k:Nat):Int),0,[],[]⟩:=by unfold endT;rw[kQ hk];rfl
theorem Jy{t:Th}(ht:t∈aS f): ∃t',Ce f (onE ed f) t t':=by
 obtain⟨c,hc,h⟩:=cO.1 ht;have hlt:c<(onE ed f).blocks.length:=by rw[eO];omega
 rcases dw.1 h with⟨i,hi,rfl⟩ | ⟨i,hi,rfl⟩ | rfl
 ·refine⟨phiT (onE ed f) c i,cO.2 ⟨c,hlt,dw.2 (.inl ⟨i,by rw[lA hc,Nr];exact hi,rfl⟩)⟩,rfl,rfl,yR hc hi,?_⟩;show((nth (nth (onE ed f).blocks c).phis i).ins.map InD.val).Perm _;rw[uY hc hi];exact BC
 ·exact⟨insT (onE ed f) c i,cO.2 ⟨c,hlt,dw.2 (.inr (.inl ⟨i,by rw[jY hc];exact hi,rfl⟩))⟩,rfl,rfl,by rw[pM hc],by rw[pM hc]⟩
 exact⟨endT (onE ed f) c,cO.2 ⟨c,hlt,dw.2 (.inr (.inr rfl))⟩,by rw[na hc],by rw[na hc],by rw[na hc],by rw[na hc]⟩
theorem HY{t':Th}(ht:t'∈aS (onE ed f)):(∃t∈aS f,Ce f (onE ed f) t t')\/∃k,k<ed.length/\t'=⟨((f.blocks.length+k:Nat):Int),0,[],[]⟩:=by
 obtain⟨c,hc,h⟩:=cO.1 ht;rw[eO]at hc;rcases M0 c f.blocks.length with l | l
 ·rcases dw.1 h with⟨i,hi,rfl⟩ | ⟨i,hi,rfl⟩ | rfl
  ·rw[lA l,Nr]at hi;refine .inl ⟨phiT f c i,cO.2 ⟨c,l,dw.2 (.inl ⟨i,hi,rfl⟩)⟩,ht,rfl,rfl,yR l hi,?_⟩;show((nth (nth (onE ed f).blocks c).phis i).ins.map InD.val).Perm _;rw[uY l hi];exact BC
  ·rw[jY l]at hi;rw[pM l]at ht ⊢;exact .inl ⟨insT f c i,cO.2 ⟨c,l,dw.2 (.inr (.inl ⟨i,hi,rfl⟩))⟩,ht,rfl,rfl,rfl,.refl _⟩
  rw[na l]at ht ⊢;exact .inl ⟨endT f c,cO.2 ⟨c,l,dw.2 (.inr (.inr rfl))⟩,ht,rfl,rfl,rfl,.refl _⟩
 obtain⟨k,rfl⟩ : ∃k,c=f.blocks.length+k:=⟨c-f.blocks.length,by omega⟩;have hk:k<ed.length:=by omega
 refine .inr ⟨k,hk,?_⟩;rcases dw.1 h with⟨i,hi,rfl⟩ | ⟨i,hi,rfl⟩ | rfl
 ·rw[kQ hk]at hi;exact absurd hi (Nw _)
 ·rw[kQ hk]at hi;exact absurd hi (Nw _)
 exact C0 hk
theorem rO{α β:Type}{x y:α->List β} : ∀{l:List α},(∀a∈l,x a=y a)->l.flatMap x=l.flatMap y
 | [],_=>rfl
 | a::l,h=>by rw[OH,OH,h a (Ng ..),rO λb hb=>h b (Nf _ hb)]
theorem Ec{c:Nat}(hc:c<f.blocks.length):(thB (onE ed f) c).flatMap Th.mks=(thB f c).flatMap Th.mks:=by unfold thB;rw[lA hc,jY hc,Nr];simp only[NR,Qn];unfold rows;rw[O5,O5,O5,O5,rO (x:=λi=>(phiT (onE ed f) c i).mks) (y:=λi=>(phiT f c i).mks) λi h=>yR hc (N0.1 h),rO (x:=λi=>(insT (onE ed f) c i).mks) (y:=λi=>(insT f c i).mks) λi h=>by rw[pM hc],na hc]
theorem Dd : ∀{n:Nat},n<=f.blocks.length->(thTo (onE ed f) n).flatMap Th.mks=(thTo f n).flatMap Th.mks
 | 0,_=>rfl
 | n+1,h=>by rw[fJ,fJ,NR,NR,Dd Q1,Ec Q1]
theorem Dn : ∀{k:Nat},k<=ed.length->(thTo (onE ed f) (f.blocks.length+k)).flatMap Th.mks=(thTo f f.blocks.length).flatMap Th.mks
 | 0,_=>Dd (MY _)
 | k+1,h=>by
  have e:thB (onE ed f) (f.blocks.length+k)=[endT (onE ed f) (f.blocks.length+k)]:=by unfold thB;rw[kQ Q1];rfl
  rw[<-Nat.add_assoc,fJ,NR,Dn Q1,e,C0 Q1];simp
theorem Iz:jW (aS (onE ed f))=jW (aS f):=by unfold jW aS;rw[eO,Dn (MY _)]
theorem DA : ∀{n:Nat},n<=f.blocks.length->ko (onE ed f) n=ko f n+ed.length
 | 0,_=>eO
 | n+1,h=>by show ko (onE ed f) n+_+_=ko f n+_+_+_;rw[DA Q1,lA Q1,jY Q1,Nr];omega
theorem DG : ∀{k:Nat},k<=ed.length->ko (onE ed f) (f.blocks.length+k)=ko f f.blocks.length+ed.length
 | 0,_=>DA (MY _)
 | k+1,h=>by show ko (onE ed f) (f.blocks.length+k)+(nth (onE ed f).blocks (f.blocks.length+k)).phis.length+(nth (onE ed f).blocks (f.blocks.length+k)).ins.length=_;rw[DG Q1,kQ Q1];rfl
theorem eQ.Cm(w:eQ f ed){v c p:Int}(hc:0<=c/\c<f.blocks.length)(h:kZ f v c p):kZ (onE ed f) v c p:=by
 rcases h with h | ⟨t,ht,hv,h⟩
 ·exact .inl h
 obtain⟨t',ct⟩:=Jy (ed:=ed) ht;have hat:=oI ht;refine .inr ⟨t',ct.mem,by rw[ct.mks];exact hv,?_⟩;rw[ct.blk,ct.place];rcases h with h | ⟨h1,h2⟩
 ·exact .inl h
 exact .inr ⟨h1,λr=>h2 ((Ix w hat.2 Q1).1 r)⟩
theorem eQ.Jd(w:eQ f ed){v p q:Int}{k:Nat}(hk:k<ed.length)(h:kZ f v (nth ed k).1 p):kZ (onE ed f) v ((f.blocks.length+k:Nat):Int) q:=by
 have hr:=w.rng hk;rcases h with h | ⟨t,ht,hv,h⟩
 ·exact .inl h
 obtain⟨t',ct⟩:=Jy (ed:=ed) ht;have hat:=oI ht;refine .inr ⟨t',ct.mem,by rw[ct.mks];exact hv,?_⟩;rw[ct.blk,ct.place];refine .inr ⟨by omega,λr=>?_⟩;rw[M9]at r;have r2:=(Dg w r).2 k hk rfl;rcases h with⟨h1,_⟩ | ⟨_,h2⟩
 ·have:=r2.ne;omega
 exact h2 r2
theorem eQ.may(w:eQ f ed)(mb:jf f)(hn:f.blocks.length+ed.length<=512)(hc:ko f f.blocks.length+ed.length<=4096):jf (onE ed f):=by
 have hb0:=mb.blocks.1;have hto1 : ∀k,k<ed.length->1<=(nth ed k).2:=λk hk=>by have h:=w.hed _ (bD hk);rw[dL]at h;have:=(mb.endG (b:=(nth ed k).1.toNat) Q1).2 _ h.2;omega
 refine⟨mb.params,by rw[eO];omega,by rw[eO,DG (MY _)];exact hc,λt ht=>?_,by rw[Iz];exact mb.nodup,λb hb=>?_,λt ht hp v hv=>?_,λb i hb hi=>?_⟩
 ·obtain⟨c,hc,h⟩:=cO.1 ht;rw[eO]at hc;rcases M0 c f.blocks.length with l | l
  ·rcases dw.1 h with⟨i,hi,rfl⟩ | ⟨i,hi,rfl⟩ | rfl
   ·rw[lA l,Nr]at hi;refine Hx λn hn=>?_;rw[yR l hi]at hn;exact(mb.phiG l hi).mks n hn
   ·rw[jY l]at hi;have gd:=mb.insG l hi;refine FM (by rw[jY l];exact hi) (by rw[jY l];exact gd.2) λn hn=>?_;rw[pM l]at hn;exact gd.1.mks n hn
   have gd:=mb.endG l;refine Al ?_ λn hn=>?_
   ·rw[sQ l];have:=gd.1;unfold iT at this ⊢;unfold tmE;dsimp only;rw[Nr];exact this
   rw[sQ l]at hn;obtain⟨t,ht,rfl⟩:=ND.1 hn;have:=gd.2 t ht;rw[eO];unfold toE;cases hp:putEq ed f.blocks.length c t with
   | none=>rw[On];omega
   | some q=>have:=jV hp;rw[Oo];omega
  obtain⟨k,rfl⟩ : ∃k,c=f.blocks.length+k:=⟨c-f.blocks.length,by omega⟩;have hk:k<ed.length:=by omega
  have hb:=kQ (f:=f) hk;rcases dw.1 h with⟨i,hi,rfl⟩ | ⟨i,hi,rfl⟩ | rfl
  ·rw[hb]at hi;exact absurd hi (Nw _)
  ·rw[hb]at hi;exact absurd hi (Nw _)
  refine Al (by rw[hb];rfl) λn hn=>?_;rw[hb]at hn;obtain rfl:=MZ.1 hn;have:=w.rng hk;have:=hto1 k hk;rw[eO];omega
 ·rw[eO]at hb;rcases M0 b f.blocks.length with l | l
  ·exact G2 w Q1 (mb.way b l)
  obtain⟨k,rfl⟩ : ∃k,b=f.blocks.length+k:=⟨b-f.blocks.length,by omega⟩;have hk:k<ed.length:=by omega
  have hr:=w.rng hk;have h1:=G2 w (wo:=-1) Q1 (mb.way (nth ed k).1.toNat Q1);exact .step h1 ((zg w Q1 hk).2 Q1) Q1
 ·rcases HY ht with⟨t0,ht0,ce⟩ | ⟨k,hk,rfl⟩
  ·have:=mb.takes t0 ht0 (by rw[<-ce.place];exact hp) v (ce.tks.mem_iff.1 hv);rw[ce.blk,ce.place];exact w.Cm (oI ht0) this
  cases hv
 rw[eO]at hb;rcases M0 b f.blocks.length with l | l
 ·rw[lA l,Nr]at hi;rw[uY l hi];obtain⟨k1,k2,k3⟩:=mb.phi b i l hi;generalize nth (nth f.blocks b).phis i=p at k2 k3;have hfr : ∀x∈p.ins,0<=x.frm/\x.frm<f.blocks.length:=λx hx=>by
   have:x.frm∈aA f b:=by rw[<-k2];exact NZ hx
   exact(nc.1 this).1
  have hnd0:(p.ins.map InD.frm).Nodup:=by rw[k2];exact vy.imp λh=>Int.ne_of_lt h
  have hnd:=rN (E:=ed) (n:=f.blocks.length) (b:=b) hnd0 hfr;have hpm:=lY (l:=p.ins.map (frmE ed f.blocks.length b));refine⟨k1,?_,λq hq=>?_⟩
  ·refine Qd (le:=λa b:Int=>a<=b) (λa b _ _ h1 h2=>by omega) (Pl.2 wR) (vy.imp λh=>Int.le_of_lt h) ((hpm.map InD.frm).trans ?_);refine(List.perm_ext_iff_of_nodup hnd (vy.imp λh=>Int.ne_of_lt h)).2 λx=>?_;rw[nT (by rw[eO];omega),PR,ND];constructor
   ·rintro⟨y,hy,rfl⟩;have ye:gX (ofG f.blocks) y.frm b=true:=(nT Q1).1 (by rw[<-k2];exact NZ hy);have yr:=hfr y hy;show gX _ ((putEq ed f.blocks.length y.frm b).getD y.frm) b=QF;by_cases hm:(y.frm,(b:Int))∈ed
    ·obtain⟨k,hk,e⟩:=Ni hm;have e1:nth ed k=(y.frm,(b:Int)):=by rw[ao hk,e]
     have:=yM w hk;rw[e1]at this;rw[this,Oo];exact(ti w hk).2 (by rw[e1])
    have:putEq ed f.blocks.length y.frm b=none:=by unfold putEq;rw[if_neg hm]
    rw[this,On];have h:=(sZ w (a:=y.frm.toNat) (b:=b) Q1 l).2;rw[Nj yr.1]at h;exact h ⟨ye,hm⟩
   intro he;have hr:=(dL.1 he).1;rw[eO]at hr;obtain⟨z,rfl⟩:=OG hr.1;rcases M0 z f.blocks.length with lz | lz
   ·obtain⟨h1,h2⟩:=(sZ w lz l).1 he;have:=(nT (f:=f) (b:=b) Q1).2 h1;rw[<-k2]at this;obtain⟨y,hy,e⟩:=ND.1 this;refine⟨y,hy,?_⟩;show(putEq ed f.blocks.length y.frm b).getD y.frm=_;have:putEq ed f.blocks.length y.frm b=none:=by unfold putEq;rw[e,if_neg h2]
    rw[this,On,e]
   obtain⟨k,rfl⟩ : ∃k,z=f.blocks.length+k:=⟨z-f.blocks.length,by omega⟩;have hk:k<ed.length:=by omega
   have e2:=(ti w hk).1 he;have h1:=w.hed _ (bD hk);rw[e2]at h1;have:=(nT (f:=f) (b:=b) Q1).2 h1;rw[<-k2]at this;obtain⟨y,hy,e⟩:=ND.1 this;refine⟨y,hy,?_⟩;show(putEq ed f.blocks.length y.frm b).getD y.frm=_;have:=yM w hk;rw[e2]at this;rw[e,this,Oo];omega
  obtain⟨x,hx,rfl⟩:=ND.1 (hpm.mem_iff.1 hq);have hs:=k3 x hx;have hxr:=hfr x hx;show kZ _ x.val ((putEq ed f.blocks.length x.frm b).getD x.frm) _;cases hp:putEq ed f.blocks.length x.frm b with
  | none=>
   rw[On];have e:oU (onE ed f) ((frmE ed f.blocks.length b x).frm)=oU f x.frm:=by unfold frmE;dsimp only;rw[hp,On];unfold oU;rw[jY Q1]
   rw[e];exact w.Cm hxr hs
  | some q=>
   rw[Oo];have h:=jV hp;obtain⟨k,hk⟩ : ∃k:Nat,q=((f.blocks.length+k:Nat):Int):=⟨(q-f.blocks.length).toNat,by omega⟩;subst hk;have hkl:k<ed.length:=by omega
   unfold putEq at hp;rw[if_pos h.2.2]at hp;have hq2:=Option.some.inj hp;have hlt:=Ou.2 h.2.2;have e1:k=ed.idxOf (x.frm,(b:Int)):=by omega
   have e2:(nth ed k).1=x.frm:=by rw[ao hkl];have:=OB hlt;subst e1;rw[this]
   exact w.Jd hkl (by rw[e2];exact hs)
 obtain⟨k,rfl⟩ : ∃k,b=f.blocks.length+k:=⟨b-f.blocks.length,by omega⟩;rw[kQ Q1]at hi;exact absurd hi (Nw _)
end
section
variable{f:aq}{ed:List (Int × Int)}{lim lim':Int}{s s':RunS}
structure Tw2(s s':RunS):Prop where
 eq:s'={ s with st:=s'.st }
 lo:0<=s.st/\s.st<=s'.st
 hi:s'.st<=2*s.st
theorem Tw2.e(h:Tw2 s s'):s'.e=s.e:=by rw[h.eq]
theorem Tw2.vals(h:Tw2 s s'):s'.vals=s.vals:=by rw[h.eq]
theorem DF{k:Int}{x:InsD}:insR { s with st:=k } x={ insR s x with st:=k }:=by
 unfold insR;by_cases h1:x.op=1
 ·rw[if_pos h1,if_pos h1]
 rw[if_neg h1,if_neg h1];by_cases h2:x.op=15
 ·rw[if_pos h2,if_pos h2];rfl
 rw[if_neg h2,if_neg h2];by_cases h3:x.op=16
 ·rw[if_pos h3,if_pos h3];rfl
 rw[if_neg h3,if_neg h3];by_cases h4:x.op=17
 ·rw[if_pos h4,if_pos h4]
 rw[if_neg h4,if_neg h4];by_cases h5:x.op=18
 ·rw[if_pos h5,if_pos h5]
 rw[if_neg h5,if_neg h5]
theorem th{x:InsD}:(insR s x).st=s.st:=by have:=congrArg RunS.st (DF (s:=s) (k:=s.st) (x:=x));exact this
theorem Tw2.ins(h:Tw2 s s'){x:InsD}:Tw2 (insR s x) (insR s' x):=by
 have e:insR s' x={ insR s x with st:=s'.st }:=by rw[h.eq];exact DF
 refine⟨?_,?_,?_⟩
 ·rw[e]
 ·rw[e,th];exact h.lo
 rw[e,th];exact h.hi
theorem td(h:s.e=0)(hl:s.st<lim):bY lim s={ s with st:=s.st+1 }:=by unfold bY;rw[if_pos h,if_neg Q1]
theorem xV(h:s.e=0)(hl:lim<=s.st):bY lim s={ s with e:=3,v:=0 }:=by unfold bY;rw[if_pos h,if_pos hl]
theorem stepR_end(h:s.e≠0):bY lim s=s:=by unfold bY;rw[if_neg h]
theorem Tw2.step(h:Tw2 s s')(hl:2*lim<=lim')(h3:(bY lim s).e≠3):Tw2 (bY lim s) (bY lim' s')/\((bY lim s).e=0->(bY lim s).st=s.st+1/\(bY lim' s').st=s'.st+1/\s.st<lim):=by
 have hs:=h.e;have l1:=h.lo;have l2:=h.hi;by_cases h0:s.e=0
 ·by_cases hq:lim<=s.st
  ·rw[xV h0 hq]at h3;exact absurd rfl h3
  rw[td h0 Q1,td (by rw[hs];exact h0) Q1];refine⟨⟨?_,?_,?_⟩,λ_=>⟨rfl,rfl,by omega⟩⟩
  ·rw[h.eq]
  ·exact⟨by show 0<=s.st+1;omega,by show s.st+1<=s'.st+1;omega⟩
  show s'.st+1<=2*(s.st+1);omega
 rw[stepR_end h0,stepR_end (by rw[hs];exact h0)];exact⟨h,λe=>absurd e h0⟩
theorem Tw2.insL(hl:2*lim<=lim') : ∀{l:List InsD} {s s':RunS},Tw2 s s'->(insL lim l s).e≠3->Tw2 (insL lim l s) (insL lim' l s')
 | [],s,s',h,_=>h
 | x::l,s,s',h,h3=>by
  unfold Go.Lft.insL at h3 ⊢;by_cases h0:(bY lim s).e=0
  ·rw[if_pos h0]at h3 ⊢;have k:=(h.step hl Q1).1;rw[if_pos (by rw[k.e];exact h0)];exact Tw2.insL hl k.ins h3
  rw[if_neg h0]at h3 ⊢;have k:=(h.step hl h3).1;rw[if_neg (by rw[k.e];exact h0)];exact k
theorem G5{l:List InD}{x:InD}(hx:x∈l)(hn:(l.map (·.frm)).Nodup):(l.find? λy=>decide (y.frm=x.frm))=QB x:=by
 induction l with
 | nil=>cases hx
 | cons a l ih=>
  rw[N8,OO]at hn;rw[List.find?_cons];by_cases e:a.frm=x.frm
  ·rw[decide_eq_true e];rcases Nu.1 hx with rfl | hx
   ·rfl
   exact absurd (by rw[e];exact NZ (f:=(·.frm)) hx) hn.1
  rw[decide_eq_false e];rcases Nu.1 hx with rfl | hx
  ·exact absurd rfl e
  exact ih hx hn.2
theorem DS{p:PhiD}{x:InD}(hx:x∈p.ins)(hn:(p.ins.map (·.frm)).Nodup):jP p x.frm=x.val:=by unfold jP;rw[G5 hx hn]
def frmR(ed:List (Int × Int))(n:Nat)(frm at_:Int):Int:=(putEq ed n frm at_).getD frm
variable{frm:Int}
theorem DW(w:eQ f ed)(m:jf f){b i:Nat}(wy:Wy f (λ_=>True) frm b)(hi:i<(nth f.blocks b).phis.length):
  jP (phE ed f.blocks.length b (nth (nth f.blocks b).phis i)) (frmR ed f.blocks.length frm b)=jP (nth (nth f.blocks b).phis i) frm:=by
 obtain⟨⟨x,hx,rfl⟩,-⟩:=wy.phi m hi;obtain⟨-,h2,-⟩:=m.phi b i wy.lt hi;have hn:((nth (nth f.blocks b).phis i).ins.map (·.frm)).Nodup:=by rw[h2];exact pg.imp λh=>by omega
 have hr : ∀y∈(nth (nth f.blocks b).phis i).ins,0<=y.frm/\y.frm<f.blocks.length:=λy hy=>by
  have:y.frm∈aA f b:=by rw[<-h2];exact NZ hy
  exact(nc.1 this).1
 rw[DS hx hn];generalize (nth (nth f.blocks b).phis i)=p at *;have hn2:(((phE ed f.blocks.length b p).ins).map (·.frm)).Nodup:=by have:=rN (E:=ed) (b:=(b:Int)) hn hr;exact(lY.map (·.frm)).nodup_iff.2 this
 have hx2:frmE ed f.blocks.length b x∈(phE ed f.blocks.length b p).ins:=lY.mem_iff.2 (NZ hx);exact DS hx2 hn2
theorem wc{g:Int->Int}{frm frm':Int}{h:PhiD->PhiD} : ∀{l:List PhiD} (i:Int->Int),(∀p∈l,(h p).dst=p.dst/\jP (h p) frm'=jP p frm)->(l.map h).foldl (λh p=>setV h p.dst (g (jP p frm'))) i=l.foldl (λh p=>setV h p.dst (g (jP p frm))) i
 | [],i,_=>rfl
 | p::l,i,hh=>by rw[N8,NF,NF,(hh p Sb).1,(hh p Sb).2];exact wc _ λq hq=>hh q (Nf _ hq)
theorem Fe(w:eQ f ed)(m:jf f){b:Nat}(wy:Wy f (λ_=>True) frm b)(s:RunS):
  gT s (frmR ed f.blocks.length frm b) (nth (onE ed f).blocks b).phis=gT s frm (nth f.blocks b).phis:=by unfold gT phiR;rw[lA wy.lt];congr 1;refine wc _ λp hp=>?_;obtain⟨i,hi,rfl⟩:=Ni hp;rw[<-ao hi];exact⟨rfl,DW w m wy hi⟩
variable{frm':Int}
theorem Tw2.phis(h:Tw2 s s'){l l':List PhiD}(e : ∀s,gT s frm' l'=gT s frm l):Tw2 (gT s frm l) (gT s' frm' l'):=by rw[e,h.eq];exact⟨rfl,h.lo,h.hi⟩
theorem Tw2.body(h:Tw2 s s')(hl:2*lim<=lim'){b b':BlkD}(he : ∀s,gT s frm' b'.phis=gT s frm b.phis)(hi:b'.ins=b.ins)(h3:(eV lim b frm s).e≠3):
  Tw2 (eV lim b frm s) (eV lim' b' frm' s')/\((eV lim b frm s).e=0->s'.st+2*((eV lim b frm s).st-1)>=0/\(eV lim' b' frm' s').st+1<=2*(eV lim b frm s).st/\(eV lim b frm s).st<=lim):=by unfold eV at *;rw[hi];have h3':(Go.Lft.insL lim b.ins (gT s frm b.phis)).e≠3:=λe=>h3 (by rw[stepR_end Q1];exact e);have k:=Tw2.insL hl (h.phis he) h3';obtain⟨k1,k2⟩:=k.step hl h3;refine⟨k1,λe=>?_⟩;obtain⟨a1,a2,a3⟩:=k2 e;have b1:=k.lo;have b2:=k.hi;have b3:=h.lo;rw[a1,a2];exact⟨by omega,by omega,by omega⟩
theorem KP{x:InsD}(h:s.e≠3):(insR s x).e≠3:=by
 unfold insR;split
 ·exact h
 split
 ·show(if _ then s.e else 2)≠3;split
  ·exact h
  omega
 split
 ·show(if _ then s.e else 2)≠3;split
  ·exact h
  omega
 split
 ·exact h
 split
 ·exact h
 show(if _ then s.e else 2)≠3;split
 ·exact h
 omega
theorem Bk(h:s.st<=lim)(h3:s.e≠3):s.st<=(bY lim s).st/\(bY lim s).st<=lim/\((bY lim s).e=3->(bY lim s).st=lim)/\((bY lim s).e=0->(bY lim s).st=s.st+1):=by
 by_cases h0:s.e=0
 ·by_cases hq:lim<=s.st
  ·rw[xV h0 hq];exact⟨NP _,h,λ_=>by show s.st=lim;omega,λe=>by cases e⟩
  rw[td h0 Q1];exact⟨by show s.st<=s.st+1;omega,by show s.st+1<=lim;omega,λe=>by rw[show s.e=3 from e]at h0;omega,λ_=>rfl⟩
 rw[stepR_end h0];exact⟨NP _,h,λe=>absurd e h3,λe=>absurd e h0⟩
theorem DB : ∀{l:List InsD} {s:RunS},s.st<=lim->s.e≠3->s.st<=(insL lim l s).st/\(insL lim l s).st<=lim/\((insL lim l s).e=3->(insL lim l s).st=lim)
 | [],s,h,h3=>⟨NP _,h,λe=>absurd e h3⟩
 | x::l,s,h,h3=>by
  have k:=Bk h h3;unfold insL;by_cases h0:(bY lim s).e=0
  ·rw[if_pos h0];have:=DB (l:=l) (s:=insR (bY lim s) x) (by rw[th];exact k.2.1) (KP Q1);rw[th]at this;exact⟨by omega,this.2⟩
  rw[if_neg h0];exact⟨k.1,k.2.1,k.2.2.1⟩
theorem Gm{b:BlkD}(h:s.st<=lim)(h3:s.e≠3):s.st<=(eV lim b frm s).st/\(eV lim b frm s).st<=lim/\((eV lim b frm s).e=3->(eV lim b frm s).st=lim)/\((eV lim b frm s).e=0->s.st+1<=(eV lim b frm s).st):=by
 unfold eV;have k:=DB (l:=b.ins) (s:=gT s frm b.phis) h h3;have k0:(gT s frm b.phis).st=s.st:=rfl;rw[k0]at k;by_cases e3:(insL lim b.ins (gT s frm b.phis)).e=3
 ·rw[stepR_end Q1];exact⟨k.1,k.2.1,k.2.2,λe=>by omega⟩
 have q:=Bk k.2.1 e3;exact⟨by omega,q.2.1,q.2.2.1,λe=>by have:=q.2.2.2 e;omega⟩
theorem Iv{t:cK}(h:s.e=0):(eu s t).e≠3:=by
 unfold eu;split
 ·exact λe=>by cases e
 split
 ·exact λe=>by cases e
 omega
theorem A2 : ∀{n:Nat} {at_ frm:Int} {s:RunS},s.e=0->s.st<=lim->lim-s.st<n->(goR f lim n at_ frm s).e≠0/\((goR f lim n at_ frm s).e=3->(goR f lim n at_ frm s).st=lim)
 | 0,_,_,s,_,h1,h2=>by omega
 | n+1,at_,frm,s,h0,h1,h2=>by
  have k:=Gm (b:=nth f.blocks at_.toNat) (frm:=frm) h1 Q1;unfold goR;by_cases c1:(eV lim (nth f.blocks at_.toNat) frm s).e=0
  ·rw[if_pos c1];split
   ·exact A2 c1 k.2.1 (by have:=k.2.2.2 c1;omega)
   rename_i c2;exact⟨c2,λe=>absurd e (Iv c1)⟩
  rw[if_neg c1];exact⟨c1,k.2.2.1⟩
theorem Tw2.term(h:Tw2 s s'){t t':cK}(hk:t'.kind=t.kind)(ha:t'.args=t.args)(hi:t'.imm=t.imm):Tw2 (eu s t) (eu s' t'):=by
 have hv:=h.vals;unfold eu;rw[hk,ha,hi,hv];by_cases c:t.kind=4
 ·rw[if_pos c,if_pos c];exact⟨by rw[h.eq],h.lo,h.hi⟩
 rw[if_neg c,if_neg c];by_cases c:t.kind=5
 ·rw[if_pos c,if_pos c];exact⟨by rw[h.eq],h.lo,h.hi⟩
 rw[if_neg c,if_neg c];exact h
theorem F0{t:cK}(h:s.e=0)(ht:iT t=QF)(he:(eu s t).e=0):eu s t=s/\(t.kind=1/\t.to.length=1\/t.kind=2/\t.to.length=2\/t.kind=3/\2<=t.to.length):=by
 unfold eu at *;split at he
 ·cases he
 split at he
 ·cases he
 rename_i c4 c5;rw[if_neg c4,if_neg c5];refine⟨rfl,?_⟩;unfold iT at ht;by_cases k1:t.kind=1
 ·rw[if_pos k1]at ht;simp at ht;exact .inl ⟨k1,by omega⟩
 rw[if_neg k1]at ht;by_cases k2:t.kind=2
 ·rw[if_pos k2]at ht;simp at ht;exact .inr (.inl ⟨k2,by omega⟩)
 rw[if_neg k2]at ht;by_cases k3:t.kind=3
 ·rw[if_pos k3]at ht;simp at ht;exact .inr (.inr ⟨k3,by omega⟩)
 rw[if_neg k3,if_neg c4,if_neg c5]at ht;cases ht
theorem JX{t:cK}(h:t.kind=1/\t.to.length=1\/t.kind=2/\t.to.length=2\/t.kind=3/\2<=t.to.length): ∃i,i<t.to.length/\toR s t=nth t.to i/\∀(s':RunS) (t':cK),s'.vals=s.vals->t'.kind=t.kind->t'.args=t.args->t'.to.length=t.to.length->toR s' t'=nth t'.to i:=by
 rcases h with⟨k,l⟩ | ⟨k,l⟩ | ⟨k,l⟩
 ·refine⟨0,by omega,by unfold toR;rw[if_pos k],λs' t' hv hk ha hl=>?_⟩;unfold toR;rw[hk,if_pos k]
 ·by_cases c:nth (t.args.map s.vals) 0≠0
  ·refine⟨0,by omega,by unfold toR;rw[if_neg Q1,if_pos k,if_pos c],λs' t' hv hk ha hl=>?_⟩;unfold toR;rw[hk,if_neg Q1,if_pos k,ha,hv,if_pos c]
  refine⟨1,by omega,by unfold toR;rw[if_neg Q1,if_pos k,if_neg c],λs' t' hv hk ha hl=>?_⟩;unfold toR;rw[hk,if_neg Q1,if_pos k,ha,hv,if_neg c]
 refine⟨(min (IntKind.u32.wrap (nth (t.args.map s.vals) 0)) (t.to.length-1:Int)).toNat,by omega,by unfold toR;rw[if_neg Q1,if_neg Q1,if_pos k],λs' t' hv hk ha hl=>?_⟩;unfold toR;rw[hk,if_neg Q1,if_neg Q1,if_pos k,ha,hv,hl]
theorem Gc{at_:Int}:goR f lim (n+1) at_ frm s =
  if(eV lim (nth f.blocks at_.toNat) frm s).e=0 then
   (if(eu (eV lim (nth f.blocks at_.toNat) frm s) (nth f.blocks at_.toNat).term).e=0 then goR f lim n (toR (eV lim (nth f.blocks at_.toNat) frm s) (nth f.blocks at_.toNat).term) at_ (eV lim (nth f.blocks at_.toNat) frm s)
   else eu (eV lim (nth f.blocks at_.toNat) frm s) (nth f.blocks at_.toNat).term)
  else eV lim (nth f.blocks at_.toNat) frm s:=rfl
theorem xx(w:eQ f ed)(m:jf f)(hl:2*lim<=lim') : ∀{n k at_:Nat} {frm:Int} {s s':RunS},Wy f (λ_=>True) frm at_->Tw2 s s'->s.e=0->2*n<=k->(goR f lim n at_ frm s).e≠3->(goR f lim n at_ frm s).e≠0->
  Tw2 (goR f lim n at_ frm s) (goR (onE ed f) lim' k at_ (frmR ed f.blocks.length frm at_) s')
 | 0,_,_,_,s,_,_,_,h0,_,_,hne=>absurd h0 hne
 | n+1,k,at_,frm,s,s',wy,tw,h0,hk,h3,hne=>by
  obtain⟨k,rfl⟩ : ∃j,k=j+2:=⟨k-2,by omega⟩;have hat:=wy.lt;unfold goR at h3 hne ⊢;rw[M9]at *;have hb3:(eV lim (nth f.blocks at_) frm s).e≠3:=λe=>by rw[if_neg Q1]at h3;exact h3 e
  obtain⟨tb,tq⟩:=tw.body hl (b:=nth f.blocks at_) (b':=nth (onE ed f).blocks at_) (frm:=frm) (frm':=frmR ed f.blocks.length frm at_) (λs=>Fe w m wy s) (jY hat) hb3;generalize eV lim (nth f.blocks at_) frm s=B at *;generalize eV lim' (nth (onE ed f).blocks at_) (frmR ed f.blocks.length frm at_) s'=B' at *;by_cases c0:B.e=0
  ·rw[if_pos c0]at h3 hne ⊢;have c0':B'.e=0:=by rw[tb.e];exact c0
   rw[if_pos c0'];rw[sQ hat];have tt:=tb.term (t:=(nth f.blocks at_).term) (t':=tmE ed f.blocks.length at_ (nth f.blocks at_).term) rfl rfl rfl;by_cases c1:(eu B (nth f.blocks at_).term).e=0
   ·rw[if_pos c1]at h3 hne ⊢;have c1':(eu B' (tmE ed f.blocks.length at_ (nth f.blocks at_).term)).e=0:=by rw[tt.e];exact c1
    rw[if_pos c1'];obtain⟨q1,q2⟩:=F0 c0 (m.endG hat).1 c1;obtain⟨i,hi,e1,e2⟩:=JX (s:=B) q2;rw[e2 B' (tmE ed f.blocks.length at_ (nth f.blocks at_).term) tb.vals rfl rfl (by simp[tmE])];have em:nth (tmE ed f.blocks.length at_ (nth f.blocks at_).term).to i=toE ed f.blocks.length at_ (nth (nth f.blocks at_).term.to i):=by show nth (((nth f.blocks at_).term.to).map _) i=_;rw[H2 hi]
    rw[em];rw[e1]at h3 hne ⊢;obtain⟨g1,g2,gw⟩:=wy.go m (bD hi);generalize nth (nth f.blocks at_).term.to i=to at *;obtain⟨c,rfl⟩:=OG (show 0<=to by omega);rw[M9]at gw;have gw:Wy f (λ_=>True) at_ c:=⟨gw.lt,by
     rcases gw.way with h | ⟨_,a2,a3,a4,_⟩
     ·exact .inl h
     exact .inr ⟨trivial,a2,a3,a4,λc hc=>absurd trivial hc⟩⟩;obtain⟨-,t2,t3⟩:=tq c0;unfold toE;cases hp:putEq ed f.blocks.length at_ c with
    | none=>have:=xx w m hl (k:=k+1) gw tb c0 Q1 h3 hne;unfold frmR at this;rw[hp]at this;exact this
    | some q=>
     obtain⟨r1,r2,r3⟩:=jV hp;have hj:ed.idxOf ((at_:Int),(c:Int))<ed.length:=Ou.2 r3;have eq:q=((f.blocks.length+ed.idxOf ((at_:Int),(c:Int)):Nat):Int):=by unfold putEq at hp;rw[if_pos r3]at hp;cases hp;omega
     have ee:(nth ed (ed.idxOf ((at_:Int),(c:Int)))).2=c:=by rw[ao hj,OB hj]
     show Tw2 _ (goR (onE ed f) lim' (k+1) q at_ B');rw[Gc,eq,M9,kQ hj,ee];have eb:eV lim' (jv c) at_ B'={ B' with st:=B'.st+1 }:=td (by show B'.e=0;rw[tb.e];exact c0) (by show B'.st<lim';have:=tb.lo;omega);have c2':({ B' with st:=B'.st+1 }:RunS).e=0:=c0';have c3':eu { B' with st:=B'.st+1 } (jv c).term={ B' with st:=B'.st+1 }:=rfl;rw[eb,c3',if_pos c2',if_pos c2'];have t4:Tw2 B { B' with st:=B'.st+1 }:=⟨by rw[tb.eq],⟨tb.lo.1,by have:=tb.lo;show B.st<=B'.st+1;omega⟩,by show B'.st+1<=2*B.st;omega⟩;have:=xx w m hl (k:=k) gw t4 c0 Q1 h3 hne;unfold frmR at this;rw[hp,eq]at this;exact this
   rw[if_neg c1]at h3 hne ⊢;have c1':¬(eu B' (tmE ed f.blocks.length at_ (nth f.blocks at_).term)).e=0:=by rw[tt.e];exact c1
   rw[if_neg c1'];exact tt
  rw[if_neg c0]at h3 hne ⊢;have c0':¬B'.e=0:=by rw[tb.e];exact c0
  rw[if_neg c0'];exact tb
theorem EC(w:eQ f ed)(m:jf f){i:cU}(h0:0<=i.steps):
  ((runR f i).e=3->(runR f i).st=i.steps)/\(runR f i).e≠0/\((runR f i).e≠3->Tw2 (runR f i) (runR (onE ed f) { i with steps:=2*i.steps+2 })):=by
 have k:=A2 (f:=f) (lim:=i.steps) (n:=i.steps.toNat+1) (at_:=0) (frm:=-1) (s:=zy f i) rfl h0 (by show i.steps-0<_;omega);refine⟨k.2,k.1,λh3=>?_⟩;have tw:Tw2 (zy f i) (zy (onE ed f) { i with steps:=2*i.steps+2 }):=⟨rfl,⟨NP 0,NP 0⟩,NP 0⟩;have:=xx w m (lim:=i.steps) (lim':=2*i.steps+2) Q1 (n:=i.steps.toNat+1) (k:=(2*i.steps+2).toNat+1) (Ax m.blocks.1) tw rfl Q1 h3 k.1;have ef:frmR ed f.blocks.length (-1) ((0:Nat):Int)=-1:=by
  unfold frmR putEq;rw[if_neg]
  ·rfl
  intro hm;have:=(dL.1 (w.hed _ hm)).1;omega
 rw[ef]at this;exact this
end
end Go.Lft
namespace Go.Lft
theorem BJ : ∀(l:List Value) (k off:Nat) (A:Array Value),off+k+l.length<=A.size->
  ((l.zipIdx k).foldl (fun(cs:Array Value) (p:Value × Nat)=>cs.setIfInBounds (off+p.2) p.1) A).toList=A.toList.take (off+k)++l++A.toList.drop (off+k+l.length)
 | [],k,off,A,_=>by simp
 | x::l,k,off,A,h=>by
  simp only[N2]at h;rw[PJ,NF,BJ l (k+1) off _ Q8];have hk:off+k<A.toList.length:=by simp;omega
  simp only[PW,N2];rw[show off+(k+1)=off+k+1 by omega,Np (by simpa using hk),PO (MY _),List.getElem_set_self,List.drop_set_of_lt Q1,show off+k+1+l.length=off+k+(l.length+1) by omega];simp
theorem uQ{s:Nat} : ∀(vs:List Value) (k:Nat) (A:Array Value),(∀v∈vs,v.cells.size=s)->(k+vs.length)*s=A.size->
  ∃B,Instr.fill (λj=>QB (j*s,s)) A ((vs.zipIdx k).map λp=>(p.2,p.1))=QB B/\B.toList=A.toList.take (k*s)++vs.flatMap λv=>v.cells.toList
 | [],k,A,_,hk=>⟨A,rfl,by rw[Nd (by simp at hk;simp[hk])];simp⟩
 | v::vs,k,A,hv,hk=>by
  have hc:=hv v (Ng ..);have e1:(k+(vs.length+1))*s=(k+1+vs.length)*s:=by rw[show k+(vs.length+1)=k+1+vs.length by omega]
  have e2:(k+1+vs.length)*s=k*s+s+vs.length*s:=by rw[Pn,Pn,PM]
  simp only[N2]at hk;have e3:(k+1)*s=k*s+s:=by rw[Pn,PM]
  have hF:(v.cells.zipIdx.foldl (fun(cs:Array Value) (x:Value × Nat)=>cs.setIfInBounds (k*s+x.2) x.1) A).toList=A.toList.take (k*s)++v.cells.toList++A.toList.drop (k*s+s):=by rw[<-Array.foldl_toList,Array.toList_zipIdx];have:=BJ v.cells.toList 0 (k*s) A (by simp[hc];omega);simpa[hc]using this
  obtain⟨B,h1,h2⟩:=uQ vs (k+1) (v.cells.zipIdx.foldl (fun(cs:Array Value) (x:Value × Nat)=>cs.setIfInBounds (k*s+x.2) x.1) A) (λu hu=>hv u (Nf _ hu)) (by rw[<-Array.length_toList,hF];simp[hc];omega);refine⟨B,?_,?_⟩
  ·simp only[PJ,N8,Instr.fill,hc];rw[if_neg Q8];exact h1
  rw[h2,hF,e3,OH,NO (by simp[hc];omega),Nd (by simp[hc];omega),Nk]
theorem xe{s:Nat} : ∀(vs:List Value) (i:Nat) (hi:i<vs.length),(∀v∈vs,v.cells.size=s)->((vs.flatMap λv=>v.cells.toList).drop (i*s)).take s=vs[i].cells.toList
 | v::vs,0,_,hv=>by have hc:=hv v (Ng ..);simp only[OT,Oy,OH,OK];rw[NO (by simp[hc]),Nd (by simp[hc])]
 | v::vs,i+1,hi,hv=>by have hc:=hv v (Ng ..);have:=xe vs i (by simpa using hi) λu hu=>hv u (Nf _ hu);rw[OH,show(i+1)*s=v.cells.toList.length+i*s by rw[Pn];simp[hc];omega,<-List.drop_drop,List.drop_left];simpa using this
theorem H9{po:OP}{α:Type}[Rep α]{P:Program}{t e n:Nat}{ty:TypeId}{bytes:Nat}{z:Value}{ps:Array (Nat × Operand)}{us:List (Nat × Value)}{vs:List Value}{ds:List α}{h:Heap}{K:Value->Heap->Prop}(hT:eG P t e (Rep.n α) bytes z)(hp:ps.map (λp=>(p.1,asg us p.2))=((vs.zipIdx 0).map λp=>(p.2,p.1)).toArray){X:View}(hr:oQ X vs ds)(hn:ds.length=n)(hb:n*Rep.n α<=16777216)(hb2:n<=16777216)(hk : ∀u h',(vw h).le (vw h')->h'.size=h.size+1->(∀Y:View,X.le Y->Y h.size=h'[h.size]?->SlRd Y u ds)->u.ownBlock=QB h.size->K u h'):step P (.buildSlice t n ps) ty us h K:=by
 have hl:=hr.len;have hcs : ∀v∈vs,v.cells.size=Rep.n α:=λv hv=>by obtain⟨i,hi,rfl⟩:=Ni hv;exact(lj (hr.get i hi Q1)).2.1
 obtain⟨B,h1,h2⟩:=uQ (s:=Rep.n α) vs 0 ((Array.range (n*Rep.n α)).map (z.cells[· % z.cells.size]!)) hcs (by simp;rw[hl,hn]);have hB:B=(vs.flatMap λv=>v.cells.toList).toArray:=by rw[<-Array.toList_inj,h2];simp
 refine uZ hT hb hp h1 ?_;have hle:=bA h (.cells B e);refine hk _ _ hle Sb (λY hY hYb=>⟨QB ⟨h.size,0,QC⟩,n,by rw[hn],by omega,by omega,.inr ⟨_,rfl,rfl,λi hi=>?_⟩⟩) rfl;have hi2:i<vs.length:=by omega
 have hrd:=lj (hr.get i hi2 hi);rw[bs rfl];refine⟨vs[i].cells.toList,⟨B,e,(0,0),rfl,by rw[hYb];simp,?_⟩,Rep.mono hY hrd.1⟩;rw[hB,Oj];have:=xe vs i hi2 hcs;rw[OY,hrd.2.1];exact this
def exF:aq:=⟨1,[⟨[],[],⟨2,[0],[1,2],⟨0⟩⟩⟩,⟨[],[],⟨1,[],[2],⟨0⟩⟩⟩,⟨[⟨1,[⟨0,0⟩,⟨1,0⟩]⟩],[],⟨4,[1],[],⟨0⟩⟩⟩]⟩
def exG:aq:=⟨1,[⟨[],[],⟨2,[0],[1,3],⟨0⟩⟩⟩,⟨[],[],⟨1,[],[2],⟨0⟩⟩⟩,⟨[⟨1,[⟨1,0⟩,⟨3,0⟩]⟩],[],⟨4,[1],[],⟨0⟩⟩⟩,⟨[],[],⟨1,[],[2],⟨0⟩⟩⟩]⟩
section
variable{g g':Gr}
theorem CL(hl:g.length=g'.length)(h : ∀a b,gX g a b=gX g' a b):lP g=lP g':=by
 have h1:fg g=fg g':=by funext a;unfold fg;rw[hl];congr 1;funext b;rw[h]
 have h2:kG g=kG g':=by unfold kG;rw[hl];congr 1;funext b;congr 1;funext a;rw[h]
 unfold lP uX Da;rw[h1,h2,hl]
end
theorem Fx{f:aq}:oW f=lP (f.blocks.map (·.term.to)):=by
 unfold oW;rw[A1];refine CL (by rw[gq,Nr]) λa b=>?_;rw[NH,dL,fj,Nr];constructor
 ·rintro⟨h,m⟩;refine⟨h,?_⟩;rw[ao (by rw[Nr];omega),Oc,<-ao Q1];exact m
 rintro⟨h,m⟩;refine⟨h,?_⟩;rw[ao (by rw[Nr];omega),Oc,<-ao Q1]at m;exact m
theorem CV:oW exF=[(0,2)]:=by rw[Fx];kernel_rfl
theorem JV:srt [⟨3,0⟩,⟨1,0⟩]=[⟨1,0⟩,⟨3,0⟩]:=
 (xw (List.Perm.swap _ _ _) (by simp[jG]) Q2).symm
theorem Hh:mX exF=exG:=by
 unfold mX;rw[CV];have:onE [(0,2)] exF=⟨1,[⟨[],[],⟨2,[0],[1,3],⟨0⟩⟩⟩,⟨[],[],⟨1,[],[2],⟨0⟩⟩⟩,⟨[⟨1,srt [⟨3,0⟩,⟨1,0⟩]⟩],[],⟨4,[1],[],⟨0⟩⟩⟩,⟨[],[],⟨1,[],[2],⟨0⟩⟩⟩]⟩:=by rfl
 rw[this,JV];rfl
theorem Ij:(mJ exF).1=0:=by rw[yg];kernel_rfl
theorem Mv:jJ exF=0:=by unfold jJ tf;rw[Ij,CV];rfl
theorem LL:SmF exF:=by
 refine⟨by decide,λi hi=>?_⟩;have hi:i<3:=hi;rcases i with _ | _ | _ | i
 ·exact⟨by decide,by decide,by decide,by decide,λj hj=>absurd hj (Nw _),λj hj=>absurd hj (Nw _)⟩
 ·exact⟨by decide,by decide,by decide,by decide,λj hj=>absurd hj (Nw _),λj hj=>absurd hj (Nw _)⟩
 ·refine⟨by decide,by decide,by decide,by decide,λj hj=>?_,λj hj=>absurd hj (Nw _)⟩;have hj:j<1:=hj;have:j=0:=by omega
  subst this;decide
 omega
theorem LN:DH exF:=by
 intro b hb i hi;have hb:b<3:=hb;rcases b with _ | _ | _ | b
 ·exact absurd hi (Nw _)
 ·exact absurd hi (Nw _)
 ·have hi:i<1:=hi;have:i=0:=by omega
  subst this;exact⟨by decide,by decide,by decide⟩
 omega
theorem me{h0 h h':Heap}(hle:(vw h).le (vw h')):(fresh h0 h).le (fresh h0 h'):=λb o hb=>by
 unfold fresh at hb ⊢;split at hb
 ·cases hb
 rename_i e;rw[if_neg e];exact hle b o hb
theorem AS{h0 h:Heap}{b:Nat}(hb:h0.size<=b):fresh h0 h b=h[b]?:=by unfold fresh;rw[if_neg Q1]
theorem C1{po:OP}{n:Nat}{ty:TypeId}{ps:Array (Nat × Operand)}{us:List (Nat × Value)}{vs:List Value}{ds:List Int}{h0 h:Heap}{K:Value->Heap->Prop}(hs:h0.size<=h.size)(hp:ps.map (λp=>(p.1,asg us p.2))=((vs.zipIdx 0).map λp=>(p.2,p.1)).toArray)(hr:oQ nothing vs ds)(hn:ds.length=n)(hb:n<=1000)(hk : ∀u h',(vw h).le (vw h')->h0.size<=h'.size->SlRd (fresh h0 h') u ds->K u h'):@Lft.step po QH (.buildSlice T.bn n ps) ty us h K:=
 mQ (α:=Int) rfl El.bn hp hr dx hn Q1 λu h' hle hsz hY _=>hk u h' hle Q1 (hY _ dx (AS hs))
theorem FL{po:OP}{α:Type}[Rep α]{t e bytes n:Nat}{z:Value}{ty:TypeId}{ps:Array (Nat × Operand)}{us:List (Nat × Value)}{vs:List Value}{ds:List α}{h0 h:Heap}{K:Value->Heap->Prop}(hs:h0.size<=h.size)(hT:eG QH t e (Rep.n α) bytes z)(hp:ps.map (λp=>(p.1,asg us p.2))=((vs.zipIdx 0).map λp=>(p.2,p.1)).toArray)(hr:oQ (fresh h0 h) vs ds)(hn:ds.length=n)(hb:n*Rep.n α<=16777216)(hb2:n<=1000)(hk : ∀u h',(vw h).le (vw h')->h0.size<=h'.size->SlRd (fresh h0 h') u ds->K u h'):@Lft.step po QH (.buildSlice t n ps) ty us h K:=
 H9 hT hp hr hn hb Q1 λu h' hle hsz hY _=>hk u h' hle Q1 (hY _ (me hle) (AS hs))
theorem Cx{h:Heap}:aw QH N.eC #[] h (λu h'=>(vw h).le (vw h')/\Rd (vw h') u exF):=by
 refine ak (args:=[]) follows F.eC E.eC Q9 λKc hK=>?_;dsimp only[L.eC];refine ab λz hz=>?_;simp;refine fF (z:=zz4) Q0 ?_;have q1:=bA h (.cells (Value.agg #[Qy Qz 0,QD QC 0 0]).cells T.a7);have b1:(h.push (.cells (Value.agg #[Qy Qz 0,QD QC 0 0]).cells T.a7))[h.size]? = QB (.cells (Value.agg #[Qy Qz 0,QD QC 0 0]).cells T.a7 (0,0)):=by simp
 have z1:h.size<(h.push (.cells (Value.agg #[Qy Qz 0,QD QC 0 0]).cells T.a7)).size:=by simp
 generalize h.push (.cells (Value.agg #[Qy Qz 0,QD QC 0 0]).cells T.a7)=h1 at q1 b1 z1;subst hz;refine ab λz hz=>?_;simp;refine C1 (MY h1.size) (vs:=[Qy Qz 0]) (ds:=[0]) Sb ⟨rS Q2 Q2,trivial⟩ rfl Q2 λu1 h2 q2 z2 s1=>?_;obtain⟨as1,cs1,es1,_⟩:=id s1;subst es1;refine C1 z2 (vs:=[Qy Qz 1,Qy Qz 2]) (ds:=[1,2]) Sb ⟨rS Q2 Q2,rS Q2 Q2,trivial⟩ rfl Q2 λu2 h3 q3 z3 s2=>?_;obtain⟨as2,cs2,es2,_⟩:=id s2;subst es2;refine aQ (z:=zz9) (places:=zpb) (vs:=[(0,Qy Qz 2),(1,.slice as1 1 cs1),(2,.slice as2 2 cs2)]) (cs:=#[Qy Qz 2,.slice as1 1 cs1,.slice as2 2 cs2,Qy QA 0]) Q0 Q0 Sb Ri ?_;refine aQ (z:=zz3) (places:=zpd) (vs:=[(2,.agg #[Qy Qz 2,.slice as1 1 cs1,.slice as2 2 cs2,Qy QA 0])]) (cs:=#[QD QC 0 0,QD QC 0 0,Qy Qz 2,.slice as1 1 cs1,.slice as2 2 cs2,Qy QA 0]) Q0 Q0 Sb Ri ?_;refine C1 z3 (vs:=[Qy Qz 2]) (ds:=[2]) Sb ⟨rS Q2 Q2,trivial⟩ rfl Q2 λu5 h4 q4 z4 s5=>?_;obtain⟨as5,cs5,es5,_⟩:=id s5;subst es5;refine aQ (z:=zz9) (places:=zpb) (vs:=[(0,Qy Qz 1),(2,.slice as5 1 cs5)]) (cs:=#[Qy Qz 1,QD QC 0 0,.slice as5 1 cs5,Qy QA 0]) Q0 Q0 Sb Ri ?_;refine aQ (z:=zz3) (places:=zpd) (vs:=[(2,.agg #[Qy Qz 1,QD QC 0 0,.slice as5 1 cs5,Qy QA 0])]) (cs:=#[QD QC 0 0,QD QC 0 0,Qy Qz 1,QD QC 0 0,.slice as5 1 cs5,Qy QA 0]) Q0 Q0 Sb Ri ?_;refine aQ (z:=zz1) (places:=zpc) (vs:=[(0,Qy Qz 0),(1,Qy Qz 0)]) (cs:=#[Qy Qz 0,Qy Qz 0]) Q0 Q0 Sb rfl ?_;refine aQ (z:=zz1) (places:=zpc) (vs:=[(0,Qy Qz 1),(1,Qy Qz 0)]) (cs:=#[Qy Qz 1,Qy Qz 0]) Q0 Q0 Sb rfl ?_;have rin : ∀k:Int,I64 k->Rd (fresh h1 h4) (.agg #[Qy Qz k,Qy Qz 0]) (InD.mk k 0):=λk hk=>⟨_,rfl,[Qy Qz k],_,rfl,⟨rfl,hk⟩,rfl,⟨(by decide:(-9223372036854775808:Int)<=0),(by decide:(0:Int)<=9223372036854775807)⟩⟩;refine FL (α:=InD) z4 (vs:=[.agg #[Qy Qz 0,Qy Qz 0],.agg #[Qy Qz 1,Qy Qz 0]]) (ds:=[⟨0,0⟩,⟨1,0⟩]) El.jB Sb ⟨rin 0 ⟨Q2,Q2⟩,rin 1 ⟨Q2,Q2⟩,trivial⟩ rfl Q2 Q2 λu10 h5 q5 z5 s10=>?_;obtain⟨as10,cs10,es10,_⟩:=id s10;subst es10;refine aQ (z:=zz4) (places:=zpc) (vs:=[(0,Qy Qz 1),(1,.slice as10 2 cs10)]) (cs:=#[Qy Qz 1,.slice as10 2 cs10]) Q0 Q0 Sb rfl ?_;refine FL (α:=PhiD) z5 (vs:=[.agg #[Qy Qz 1,.slice as10 2 cs10]]) (ds:=[⟨1,[⟨0,0⟩,⟨1,0⟩]⟩]) El.lQ Sb ⟨A9 ⟨Q2,Q2⟩ s10,trivial⟩ rfl Q2 Q2 λu12 h6 q6 z6 s12=>?_;obtain⟨as12,cs12,es12,_⟩:=id s12;subst es12;refine C1 z6 (vs:=[Qy Qz 1]) (ds:=[1]) Sb ⟨rS Q2 Q2,trivial⟩ rfl Q2 λu13 h7 q7 z7 s13=>?_;obtain⟨as13,cs13,es13,_⟩:=id s13;subst es13;refine aQ (z:=zz9) (places:=zpb) (vs:=[(0,Qy Qz 4),(1,.slice as13 1 cs13)]) (cs:=#[Qy Qz 4,.slice as13 1 cs13,QD QC 0 0,Qy QA 0]) Q0 Q0 Sb Ri ?_;refine aQ (z:=zz3) (places:=zpd) (vs:=[(0,.slice as12 1 cs12),(2,.agg #[Qy Qz 4,.slice as13 1 cs13,QD QC 0 0,Qy QA 0])]) (cs:=#[.slice as12 1 cs12,QD QC 0 0,Qy Qz 4,.slice as13 1 cs13,QD QC 0 0,Qy QA 0]) Q0 Q0 Sb Ri ?_;have l2:=Qx q3 (Qx q4 (Qx q5 (Qx q6 q7)));have l3:=Qx q4 (Qx q5 (Qx q6 q7));have l4:=Qx q5 (Qx q6 q7);refine FL (α:=BlkD) z7 (vs:=[.agg #[QD QC 0 0,QD QC 0 0,Qy Qz 2,.slice as1 1 cs1,.slice as2 2 cs2,Qy QA 0],.agg #[QD QC 0 0,QD QC 0 0,Qy Qz 1,QD QC 0 0,.slice as5 1 cs5,Qy QA 0],.agg #[.slice as12 1 cs12,QD QC 0 0,Qy Qz 4,.slice as13 1 cs13,QD QC 0 0,Qy QA 0]]) (ds:=exF.blocks) El.jQ Sb
  ⟨vU ia ia (s1.mono (me l2)) (s2.mono (me l3)) ⟨Q2,Q2⟩ ⟨Q2,Q2⟩,vU ia ia ia (s5.mono (me l4)) ⟨Q2,Q2⟩ ⟨Q2,Q2⟩,vU (s12.mono (me q7)) ia s13 ia ⟨Q2,Q2⟩ ⟨Q2,Q2⟩,trivial⟩ Ri Q2 Q2 λu16 h8 q8 z8 s16=>?_;have l1:=Qx q2 (Qx l2 q8);obtain⟨as16,cs16,es16,_⟩:=id s16;have es16:u16 = .slice as16 3 cs16:=es16;subst es16;refine aQ (z:=zz4) (places:=zpc) (vs:=[(0,Qy Qz 1),(1,.slice as16 3 cs16)]) (cs:=#[Qy Qz 1,.slice as16 3 cs16]) Q0 Q0 Sb rfl ?_;refine ey (g:=h.size) (o:=0) (n:=2) (v:=.agg #[Qy Qz 1,.slice as16 3 cs16]) (cur:=(Value.agg #[Qy Qz 0,QD QC 0 0]).cells) (e:=T.a7) Q0 rfl rfl rfl Q7 (l1 _ _ b1) Q2 λh9 hs9 ⟨row,hrow,he⟩ ho9=>?_;have hrow2:row=(Value.agg #[Qy Qz 1,.slice as16 3 cs16]).cells:=by rw[<-Array.toList_inj,he];simp[Value.cells]
 subst hrow2;have hf9:(fresh h1 h8).le (vw h9):=λb o hb=>by
  unfold fresh at hb;split at hb
  ·cases hb
  rename_i e;show h9[b]? = _;rw[ho9 b Q1];exact hb
 have s9:=s16.mono hf9;have at9:At (vw h9) ⟨h.size,0,QC⟩ exF:=tu (v:=.agg #[Qy Qz 1,.slice as16 3 cs16]) (t:=T.a7) (fz:=(0,0)) hrow ⟨_,rfl,[Qy Qz 1],[_],rfl,⟨rfl,by decide,by decide⟩,_,rfl,s9⟩;obtain⟨u,hu,hr⟩:=at9.ax rfl;have hu:Un.ev (vw h9) (.ax 2) (QT h.size)=QB u:=hu;subst hz;simp[hu];refine hK _ _ ⟨λb o hb=>?_,hr⟩;have hb':h[b]? = QB o:=hb;have hlt:=(M7.1 hb').1;show h9[b]? = _;rw[ho9 b Q1];exact l1 _ _ (q1 _ _ hb)
theorem E5{h:Heap}:aw QH N.fP #[] h (λu h'=>u = .bool QF/\(vw h).le (vw h')):=by
 refine ak (args:=[]) follows F.fP E.fP Q9 λKc hK=>?_;dsimp only[L.fP];refine ab λz hz=>?_;simp;subst hz;refine ab λz hz=>?_;simp;refine ag Q0 Cx ?_;rintro fv h1 ⟨q1,r1⟩;refine ag Q0 (sY 0 (Owns.start (View.le_refl (vw h1))) (λ_ _ _=>rfl) r1 LL λ_=>LN) ?_;rintro u h2 ⟨W2,hW2,⟨hne,_⟩ | ⟨_,o2,vb,V,rfl,ip,w2,g2,_⟩⟩
 ·exact absurd Mv hne
 rw[Hh]at g2;have hp:exG.params=1:=rfl;have rG:Rd (vw h2) (.agg #[Qy Qz 1,vb]) exG:=g2.rdF w2 ip;have hep:exF.params=1:=rfl;simp[hep];refine eP (α:=aq) (d:=exG) (X:=vw h2) (z:=zz4) (v:=.agg #[Qy Qz 1,vb]) Q0 rfl Q0 rG Q4 Q4 λh3 q3 _ hY=>?_;have at3:=hY (vw h3) q3 rfl;generalize h2.size=B at at3;obtain⟨_,vb',cb,sb⟩:=jX at3;have sb:SlRd (vw h3) vb' exG.blocks:=sb;have l4:exG.blocks.length=4:=rfl;obtain⟨v0,c0,s0⟩:=(((sb.at (i:=0) Q2).part BlkD.mW).part cK.AG).sl;obtain⟨v2,c2,s2⟩:=((sb.at (i:=2) Q2).part BlkD.oy).sl;have k3:=(((sb.at (i:=3) Q2).part BlkD.mW).part cK.BX).int;have s0:SlRd (vw h3) v0 ([1,3]:List Int):=s0;have s2:SlRd (vw h3) v2 ([⟨1,[⟨1,0⟩,⟨3,0⟩]⟩]:List PhiD):=s2;obtain⟨v5,c5,s5⟩:=((s2.at (i:=0) Q2).part PhiD.pP).sl;have s5:SlRd (vw h3) v5 ([⟨1,0⟩,⟨3,0⟩]:List InD):=s5;have a1:=(s0.at (i:=1) Q2).int;have f0:=((s5.at (i:=0) Q2).part InD.sn).int;have f1:=((s5.at (i:=1) Q2).part InD.sn).int;have k3:aj (vw h3) ((((slA vb').add (3*6)).add 2).add 0)=QB (Qy Qz 1):=k3;have n6 : ∀i:Nat,i<4->Bn.ev (.idx 6) vb' (Qy Qz i)=QB (QE (QB ((slA vb').add (i*6)))):=λi hi=>by have:=sb.idxn (N:=6) rfl (k:=.i64) (i:=i) Q1 (by rw[l4];omega);simpa using this
 have n60:Bn.ev (.idx 6) vb' (Qy Qz 0)=QB (QE (QB ((slA vb').add (0*6)))):=n6 0 Q2;have n62:Bn.ev (.idx 6) vb' (Qy Qz 2)=QB (QE (QB ((slA vb').add (2*6)))):=n6 2 Q2;have n63:Bn.ev (.idx 6) vb' (Qy Qz 3)=QB (QE (QB ((slA vb').add (3*6)))):=n6 3 Q2;have n2:Bn.ev (.idx 2) v2 (Qy Qz 0)=QB (QE (QB ((slA v2).add (0*2)))):=s2.idxn (N:=2) rfl (k:=.i64) (i:=0) Q2 Q2;have m0:Bn.ev (.idx 2) v5 (Qy Qz 0)=QB (QE (QB ((slA v5).add (0*2)))):=s5.idxn (N:=2) rfl (k:=.i64) (i:=0) Q2 Q2;have m1:Bn.ev (.idx 2) v5 (Qy Qz 1)=QB (QE (QB ((slA v5).add (1*2)))):=s5.idxn (N:=2) rfl (k:=.i64) (i:=1) Q2 Q2;have t1:Bn.ev (.idx 1) v0 (Qy Qz 1)=QB (QE (QB ((slA v0).add (1*1)))):=s0.idxn (N:=1) rfl (k:=.i64) (i:=1) Q2 Q2;subst hz;refine ab λz hz=>?_;have c0:aj (vw h3) ((((slA vb').add 0).add 2).add 2)=QB v0:=c0;have c2:aj (vw h3) (((slA vb').add 12).add 0)=QB v2:=c2;have k3:aj (vw h3) ((((slA vb').add 18).add 2).add 0)=QB (Qy Qz 1):=k3;have c5:aj (vw h3) (((slA v2).add 0).add 1)=QB v5:=c5;have a1:aj (vw h3) ((slA v0).add 1)=QB (Qy Qz 3):=a1;have f0:aj (vw h3) (((slA v5).add 0).add 0)=QB (Qy Qz 1):=f0;have f1:aj (vw h3) (((slA v5).add 2).add 0)=QB (Qy Qz 3):=f1;have l0:=s0.len (K:=vw h3);have l2:=s2.len (K:=vw h3);have l5:=s5.len (K:=vw h3);simp only[OT,PM,Nat.reduceMul,N2,O9,Oj,Nat.reduceAdd,Int.natCast_zero,Int.cast_ofNat_Int]at n60 n62 n63 n2 m0 m1 t1 l0 l2 l5;simp[cb,sb.len,l4,n60,n62,n63,n2,m0,m1,t1,c0,c2,c5,k3,a1,f0,f1,l0,l2,l5];subst hz;refine ab λz hz=>?_;simp[cb,n60,n62,n63,n2,m0,m1,t1,c0,c2,c5,k3,a1,f0,f1];subst hz;simp[cb,n60,n62,n63,n2,m0,m1,t1,c0,c2,c5,k3,a1,f0,f1];refine hK _ _ ⟨rfl,?_⟩;exact Qx q1 (Qx hW2 (Qx w2.wle q3))
theorem HI{s:List Int}{v:Value}{h:Heap}(hs:SlRd (vw h) v s):aw QH N.iq #[v] h (λu h'=>h'=h/\SlRd (vw h) u (s.take 400)):=by
 refine ak (args:=[v]) follows F.iq E.iq Q9 λKc hK=>?_;dsimp only[L.iq];have hb:=hs.bound;simp[hs.len];refine⟨λh1=>?_,λh1=>?_⟩
 ·obtain⟨u,h2,h3⟩:=hs.take (n:=400) Q1 (kd:=.i64);have h2:Bn.ev .hi v (Qy Qz 400)=QB u:=h2;simp[h2];exact hK _ _ ⟨rfl,h3⟩
 refine hK _ _ ⟨rfl,?_⟩;rw[Nd Q1];exact hs
section
variable{f:aq}{ed:List (Int × Int)}
theorem DE{f:aq} : ∀{n:Nat},cntT f n+f.blocks.length=ko f n+n
 | 0=>by show 0+_=f.blocks.length+0;omega
 | n+1=>by show cntT f n+(_+_+1)+_=ko f n+_+_+(n+1);have:=DE (f:=f) (n:=n);omega
theorem E1(mb:jf f)(h:jJ f=0):jf (mX f):=by
 unfold jJ at h;rw[BU mb,if_neg Sb]at h;have hm:tf f=false:=by
  cases hq:tf f with
  | false=>rfl
  | true=>rw[hq]at h;cases h
 unfold tf at hm;simp only[NV,decide_eq_false_iff_not]at hm;have hc:=DE (f:=f) (n:=f.blocks.length);exact(Hp mb).may mb Q1 Q1
end
theorem Ml{a b:ByteArray}{n:Bool}:Bn.ev (.eqS n) (.string a) (.string b)=QB (.bool ((a.toList == b.toList) != n)):=rfl
theorem FR{x n:Int}{h:Heap}(hn:0<n/\n<=1000000):aw QH N.ib #[Qy Qz x,Qy Qz n] h (λu h'=>∃r:Nat,u = Qy Qz r/\(r:Int)<n/\h'=h):=by
 refine ak (args:=[Qy Qz x,Qy Qz n]) follows F.ib E.ib Q9 λK hK=>?_;have h2:=P1 x hn.1;have h3:=O8 x hn.1;have h4:n≠0:=by omega
 simp(disch:=omega)[L.ib,h4];have h5:0<=((x.tmod n)+n).tmod n:=Qp _ Q1;exact hK _ _ ⟨(((x.tmod n)+n).tmod n).toNat,by rw[Nj h5],by rw[Nj h5];exact O8 _ hn.1,rfl⟩
theorem zA{s t:List Int}{x:Int}{v vt:Value}{h:Heap}(hs:SlRd (vw h) v s)(ht:SlRd (vw h) vt t):aw QH N.dB #[v,vt,Qy Qz x] h (λu h'=>u = .bool QF/\(vw h).le (vw h')):=by
 refine ak (args:=[v,vt,Qy Qz x]) follows F.dB E.dB Q9 λKc hK=>?_;dsimp only[L.dB];refine ab λz hz=>?_;simp;subst hz;refine ab λz hz=>?_;simp;refine ag Q0 E5 ?_;rintro _ h1 ⟨rfl,q1⟩;subst hz;refine ab λz hz=>?_;simp;refine ag Q0 (HI (hs.mono q1)) ?_;rintro us _ ⟨rfl,s1⟩;refine ag Q0 (I6 (Owns.start Qw) (λ_ _=>rfl) s1) ?_;rintro uf h2 ⟨W2,hW2,w2,r2⟩;generalize s.take 400=s' at r2;have m:=AQ (s:=s');have sm:=Js (s:=s');have hl:=By (s:=s');have hE:=J1 (s:=s');generalize iV s'=f at r2 m sm hl hE;refine Dy (d:=f) (z:=zz4) Q0 rfl Q0 (r2.mono w2.wle) Q4 Q4 λh3 q3 _ _ at3=>?_;have l3:(vw h).le (vw h3):=Qx q1 (Qx hW2 (Qx w2.wle q3));generalize h2.size=B at *;clear r2 w2 hW2 q3 q1 s1;subst hz;refine ab λz hz=>?_;simp;refine ag Q0 (Gy (ht.mono l3)) ?_;rintro ui h4 ⟨l4,i,ri,szi⟩;have w4:=Owns.start (View.le_refl (vw h4));refine w4.sL (k:=(20,0)) (α:=cU) (n:=4) rfl ri rfl (z:=zz13) Q0 rfl Q0 Q2 Q4 Q4 λh5 q5 w5=>?_;generalize h4.size=C at *;have at4:=at3.mono l4;have l5:(vw h).le (vw h4):=Qx l3 l4;clear at3 ri q5;subst hz;refine ab λz hz=>?_;simp;refine ag Q0 (FR ⟨Q2,Q2⟩) ?_;rintro _ _ ⟨st,rfl,hst,rfl⟩;refine w5.lR cU.sG (k:=(20,0)) (d:=(st:Int)) Own.ah Q0 rfl rfl (dJ.2 ⟨rfl,by omega,by omega⟩) λh6 w6 k6=>?_;clear k6 w5 w4;obtain⟨i1,hi1⟩ : ∃i1:cU,i1={ i with steps:=(st:Int) }:=⟨_,rfl⟩;rw[<-hi1]at w6;have w6:Owns (vw h4) h6 (Own.upd (λ_=>QC) (20,0) (bx T.cg C i1)):=w6.congr λq=>(iR q).symm;have sz1:InSz i1:=by rw[hi1];exact⟨szi.args,szi.mem,szi.ans,by show(0:Int)<=st/\(st:Int)<=1000000;omega⟩
 have st1:i1.steps=st:=by rw[hi1]
 obtain⟨uf,huf,ruf⟩:=at4.ldK rfl (N:=2) rfl;obtain⟨ui,hui,rui⟩:=Owns.ldW w6 (k:=(20,0)) (v:=QD (QB ⟨C,0,QC⟩) 1 1) (l:=[i1]) Own.ah rfl (N:=4) rfl (i:=0) Sb;have hui:Un.ev (vw h6) (.ax 4) (QT C)=QB ui:=by simpa[slA]using hui
 have rui:Rd (vw h4) ui i1:=rui;subst hz;refine ab λz hz=>?_;simp[huf _ w6.wle,hui];refine ag Q0 (Gq (ruf.mono w6.wle) (rui.mono w6.wle) sm m sz1) ?_;rintro uo h7 ⟨l7,ro,lst⟩;have w7:=w6.ext' l7;obtain⟨cc,hC,hn⟩:=GU w7 (k:=(20,0)) Own.ah;have ro':=Jt (H:=vw h7) (T:=T.cg) (fz:=(0,0)) hC hn ro;have hCn:(vw h4) C=none:=w7.av (20,0) _ Own.ah C rfl;have lB:(vw h4).le (butV C (vw h7)):=zG w7.wle hCn;have w7':=w7.JT lB yU λk q b hk hb=>by
  unfold Own.upd at hk;split at hk
  ·cases hk;cases hb;exact zw
  cases hk
 refine eP (X:=butV C (vw h7)) (d:=outR (runR f i1)) (z:=zz11) Q0 rfl Q0 ro' Q4 Q4 λh8 l8 _ at8=>?_;have w8:=w7'.ext l8;have at8:=at8 _ (bE w7'.wle) (gJ (MY _));have l48:(vw h4).le (grow (butV C (vw h7)) h7 h8):=Qx lB (bE w7'.wle);generalize grow (butV C (vw h7)) h7 h8=W8 at *;generalize h7.size=D at *;clear w7 w7' w6 ro ro' l8 l7 rui hui hC hn hCn lB;have at4:=at4.mono l48;have ruf:=ruf.mono l48;have huf : ∀K:View,W8.le K->Un.ev K (.ax 2) (QT B)=QB uf:=λK hK=>huf K (Qx l48 hK);have l5:(vw h).le W8:=Qx l5 l48;have law:=EC (Hp m) m (i:=i1) (by rw[st1];omega);generalize hr:runR f i1=r at at8 law lst;have e8:=(at8.part OutR.Mq).int;have s8:=(at8.part OutR.L3).int;simp[outR]at e8 s8;have e8h:=ae w8.wle e8;have s8h:=ae w8.wle s8;subst hz;refine ab λz hz=>?_;simp[e8h];have c8:=((w8.at (k:=(20,0)) Own.ah).part cU.sG).int;simp at c8;refine⟨λc=>?_,λc=>?_⟩
 ·simp[s8h,c8,law.1 c];exact hK _ _ ⟨rfl,Qx l5 w8.wle⟩
 obtain⟨-,-,tw⟩:=law;have tw:=tw c;subst hz;refine ab λz hz=>?_;simp[huf _ w8.wle];refine ag Q0 (sY 0 w8 (λk _ hk=>by rw[Own.af (by rintro rfl;simp at hk)]) ruf sm λ_=>KC m Q1) ?_;rintro u h9 ⟨W9,hW9,⟨hne,_⟩ | ⟨_,o9,vb,V,rfl,ip,w9,g9,fr9⟩⟩
 ·exact absurd hE hne
 obtain⟨W10,hW10,w10,s10⟩:=g9.freeze w9;have rg:Rd W10 (.agg #[Qy Qz f.params,vb]) (mX f):=⟨_,rfl,[Qy Qz f.params],[vb],rfl,⟨rfl,ip⟩,vb,rfl,s10⟩;obtain⟨o10,ho10⟩ : ∃o10:Own,o10=λk:Key=>if 0<=k.1/\k.1<=0+6 then QC else o9 k:=⟨_,rfl⟩;rw[<-ho10]at w10;have k20:o10 (20,0)=bx T.cg C i1:=by rw[ho10];refine(if_neg Q1).trans ?_;rw[fr9 _ Sb,Own.ah]
 simp;clear ho10 w8 c8 s8h e8h w9 g9 fr9 s10;refine eP (X:=W10) (d:=mX f) (z:=zz4) Q0 rfl Q0 rg Q4 Q4 λh11 l11 _ at11=>?_;have w11:=w10.ext l11;have at11:=at11 _ (bE w10.wle) (gJ (MY _));have l811:W8.le (grow W10 h9 h11):=Qx hW9 (Qx hW10 (bE w10.wle));generalize grow W10 h9 h11=W11 at *;generalize h9.size=E11 at *;have at8:=at8.mono l811;have e8:=ae l811 e8;have s8:=ae l811 s8;have l5:=Qx l5 l811;clear w10 rg hW9 hW10 l11 l811;have c11:=((w11.at k20).part cU.sG).int;simp at c11;rw[st1]at c11;have e1:IntKind.i64.wrap (IntKind.i64.wrap (2*(st:Int))+2)=2*(st:Int)+2:=by rw[bu (a:=2*(st:Int)) Q1 Q1,bu Q1 Q1]
 subst hz;refine ab λz hz=>?_;simp[c11,e1];refine w11.lR cU.sG (k:=(20,0)) (d:=2*(st:Int)+2) k20 Q0 rfl rfl (dJ.2 ⟨rfl,by omega,by omega⟩) λh12 w12 _=>?_;obtain⟨i2,hi2⟩ : ∃i2:cU,i2={ i1 with steps:=2*(st:Int)+2 }:=⟨_,rfl⟩;rw[<-hi2]at w12;have sz2:InSz i2:=by rw[hi2];exact⟨sz1.args,sz1.mem,sz1.ans,by show(0:Int)<=2*st+2/\2*(st:Int)+2<=1000000;omega⟩
 obtain⟨ug,hug,rug⟩:=at11.ldK rfl (N:=2) rfl;obtain⟨uj,huj,ruj⟩:=Owns.ldW w12 (k:=(20,0)) (v:=QD (QB ⟨C,0,QC⟩) 1 1) (l:=[i2]) Own.ah rfl (N:=4) rfl (i:=0) Sb;have huj:Un.ev (vw h12) (.ax 4) (QT C)=QB uj:=by simpa[slA]using huj
 have ruj:Rd W11 uj i2:=ruj;subst hz;refine ab λz hz=>?_;simp[hug _ w12.wle,huj];have hcl:=BH (f:=f);have h99:f.blocks.length*f.blocks.length<=9*9:=OD hl.2 hl.2;refine ag Q0 (Gq (rug.mono w12.wle) (ruj.mono w12.wle) (F4 sm Q1) (E1 m hE) sz2) ?_;rintro up h13 ⟨l13,rp,-⟩;have e2:i2={ i1 with steps:=2*i1.steps+2 }:=by rw[hi2,st1]
 have tw:Tw2 r (runR (mX f) i2):=by rw[e2];exact tw
 generalize runR (mX f) i2=r2 at rp tw;refine Dy (d:=outR r2) (z:=zz11) Q0 rfl Q0 rp Q4 Q4 λh14 l14 _ _ at14=>?_;have w14:W11.le (vw h14):=Qx w12.wle (Qx l13 l14);generalize h13.size=E13 at *;have at8:=at8.mono w14;have s8:=ae w14 s8;have s14:=(at14.part OutR.L3).int;simp[outR]at s14;obtain⟨ua,hua,rua⟩:=at8.ldK rfl (N:=5) rfl;obtain⟨ub,hub,rub⟩:=at14.ldK rfl (N:=5) rfl;have eo:outR r2={ outR r with st:=r2.st }:=by rw[tw.eq];rfl
 rw[eo]at rub;have b1:=tw.lo;have b2:=tw.hi;subst hz;refine ab λz hz=>?_;simp[hua _ Qw,hub _ Qw];refine ag Q0 (Cb rua rub) ?_;rintro _ h15 ⟨l15,rfl⟩;have s8:=ae l15 s8;have s14:=ae l15 s14;simp[s8,s14];subst hz;simp;have ew:IntKind.i64.wrap (2*r.st)=2*r.st:=bu Q1 Q1;rw[ew,decide_eq_true (show r.st<=r2.st by omega),decide_eq_true (show r2.st<=2*r.st by omega)];exact hK _ _ ⟨rfl,Qx l5 (Qx w14 l15)⟩
end Go.Lft
