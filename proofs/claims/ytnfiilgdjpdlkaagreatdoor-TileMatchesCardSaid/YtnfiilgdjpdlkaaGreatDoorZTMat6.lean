/- A part of the proof: Mz, Na, Tk, Om, On, Ja. -/
import Derived.Test.YtnfiilgdjpdlkaaGreatDoorZTMat5
import Derived.Laws.BytesArg
set_option linter.unusedSimpArgs false
set_option linter.unusedVariables false
open Go.Value renaming int->Sb,slice->Sg,pointer->Si
open Go.IntKind renaming i64->Sc,i32->Sd
open Option renaming some->Se,none->Sf
open Bool renaming true->Sj,false->Sk
open Go.Proofs.Tryz renaming prog->Sn
namespace Go.Proofs.YtnfiilgdjpdlkaaGreatDoor
open Go Go.Lft
section
variable {s:List Int} {M:Nat} {vs:Value} {W0:View} {h:Heap} {o0:Own} {m:MS}
variable{n b:Nat}{lp:List Int}
theorem Hh{a p i cnt:Nat}{vr vt vp vd vq:Value}{pl:List Int}(x:Nx s M vs W0 h o0 m)(h5:o0 (5,0)=it T.int vp lp)(f71:o0 (7,1)=Sf)(f72:o0 (7,2)=Sf)(q:P3 n a p i m)(pc:Pc lp m)(hlp:lp.length=n)(hb:b<n)(hcnt:nth lp b=cnt)(hc3:cnt<=3)(hn:n<=10)(ha:a<=400000)(hia:i<=a)(hp:p<=100)(hi:i<=1900)(hq:SlRd W0 vq pl)(hpl:pl.length<=9)(hpr : ∀k,k<pl.length->∃c:Nat,nth pl k=c/\c<n){Q:Post}{ρ:Env}(h0:bD [2,3,4,5,7,11,25,26,27] ρ=[(2,vr),(3,Si (Se ⟨M,0,Sf⟩)),(4,Sb Sc n),(5,vt),(7,vp),(11,vd),(25,Sb Sc b),(26,vq),(27,Sb Sc 0)])(hQ : ∀h':Heap,Nx s M vs W0 h' o0 (up (phi3 s b pl) cnt m)->Q .normal [(2,vr),(3,Si (Se ⟨M,0,Sf⟩)),(4,Sb Sc n),(5,vt),(7,vp),(11,vd),(25,Sb Sc b),(26,vq),(27,Sb Sc cnt)] h'):
  LC.wp Sn (.block 26 (.loop L.aw.l14)) Q ρ h:=by
 simp only[aW];refine bZ [2,3,4,5,7,11,25,26,27] (fun(_:Unit) k=>[vr,Si (Se ⟨M,0,Sf⟩),Sb Sc n,vt,vp,vd,Sb Sc b,vq,Sb Sc k]) (λ_ k h2=>Nx s M vs W0 h2 o0 (up (phi3 s b pl) k m)) cnt ()
  rfl R3 h0 x (λ_ _=>rfl) (λv k h2 hk2 x2=>by have sp:=x2.z.at R4 h5;have e:=sp.int S2 (i:=b) R3;rw[hcnt]at e;simp(disch:=omega)[sp.idx1 rfl,e]) ?_ ?_
 ·rintro _ k h2 hlt x2 K2 hK2;have hpn : ∀j,j<pl.length->(nth pl j).toNat<m.blocks.length:=λj hj=>by obtain⟨c,h1,h2⟩:=hpr j hj;rw[h1,q.z.len];simpa using h2
  have q2:=(pH (s:=s) (b:=b) q hpl k).mono (a':=a+200) (p':=p) (i':=i+30) R3 (N8 _) R3;obtain⟨pc2,hlen2⟩:=Pc.pH (s:=s) (b:=b) pc hpn k;have e2:up (phi3 s b pl) (k+1) m=phi3 s b pl k (up (phi3 s b pl) k m):=rfl;rw[e2]at hK2;generalize up (phi3 s b pl) k m=m2 at x2 hK2 q2 pc2 hlen2;have hpn2 : ∀j,j<pl.length->(nth pl j).toNat<m2.blocks.length:=λj hj=>by rw[hlen2];exact hpn j hj
  obtain⟨pc3,hlen3⟩:=Pc.lf (s:=s) (pl:=pl) (x:=([],m2)) pc2 hpn2 pl.length (N8 _);simp only[aW];refine aa λy hy=>?_;simp;refine x2.ff (k:=(7,2)) (α:=InD) R4 f72 El.ef λvi h3 hvi x3=>?_;subst hy;refine aa λy hy=>?_;refine aa λw hw=>?_;simp;subst hw;refine GG (vr:=vr) (vt:=vt) (vp:=vp) (vd:=vd) (vq:=vq) (vi:=vi) (b:=b) (j:=k) x3 f71 q2 hn R3 R3 hp R3 hq hpl hpr (by simp[bD,af,ag]) λh4 vi x4=>?_;obtain⟨W4,hW4,x4,s4⟩:=x4.freeze R4 f72;have e3:phi3 s b pl k m2=(up (ep s pl) pl.length ([],m2)).2.uo b k (up (ep s pl) pl.length ([],m2)).1:=rfl;rw[e3]at hK2;have hb4:b<(up (ep s pl) pl.length ([],m2)).2.blocks.length:=by rw[hlen3];show b<m2.blocks.length;rw[hlen2,q.z.len];exact hb
  have hph:((nth (up (ep s pl) pl.length ([],m2)).2.blocks b).phis.length:Int)=cnt:=(pc3 b).trans hcnt;generalize up (ep s pl) pl.length ([],m2)=r at x4 hK2 s4 hb4 hph;obtain⟨W,o,g,w,f⟩:=x4;obtain⟨vb,vl,lb,bb⟩:=w.box;have rd:=w.reads bb;have hbb:b<lb.length:=by rw[bb.len];exact hb4
  have sb:=w.own.now bb.blk;have sbb:=sb.bound;have c1:ao (vw h4) (((slA vb).add (b*6)).add 0)=Se (nth lb b).phis.v:=by have:=((sb.at hbb).part BlkM.sV).raw;rw[aB hbb];exact this
  have sph:=w.own.now (bb.phis b hb4);simp;subst hy;have r5:Bn.ev (.idx 2) (nth lb b).phis.v (Sb Sc k)=Se (Si (Se ((slA (nth lb b).phis.v).add (k*2)))):=by have:=sph.idxn (N:=2) rfl (k:=.i64) (i:=k) R3 R3;simpa using this
  simp(disch:=omega)[rd.cb,sb.idxn (N:=6) rfl,c1,r5];refine w.MR bb (b:=b) (i:=k) (l:=r.1) hb4 R3 R1 rfl rfl (s4.mono g) λh5 o5 w5 f5=>?_;refine hK2 () _ _ rfl rfl ?_;exact⟨W,o5,S3 hW4 g,w5,λq hq=>(f5 q hq).trans (f q hq)⟩
 rintro _ h2 x2;exact hQ h2 x2
theorem Jj{a p i k:Nat}{m:MS}(q:P3 n a p i m)(pc:Pc lp m)(hr : ∀j,nth lp j<=3)(hn:n<=9):P3 n (a+162) p (i+27) (blk3 s lp k m)/\Pc lp (blk3 s lp k m):=by
 have hpl:(cM m.f ((k+1:Nat):Int)).length<=n:=by have:=qH (p:=λa=>decide (((k+1:Nat):Int)∈(nth m.f.blocks a).term.to)) (x:=λa=>(a:Int)) m.f.blocks.length;rw[show m.f.blocks.length=n from q.z.len]at this;unfold cM;rw[show m.f.blocks.length=n from q.z.len];exact this
 have hpn : ∀j,j<(cM m.f ((k+1:Nat):Int)).length->(nth (cM m.f ((k+1:Nat):Int)) j).toNat<m.blocks.length:=λj hj=>by obtain⟨c,h1,h2⟩:=Co _ j hj;have h1:nth (cM m.f ((k+1:Nat):Int)) j=c:=h1;rw[h1];have h2:c<m.blocks.length:=h2;simpa using h2
 have h3:=hr (k+1);unfold blk3;exact⟨(pH q R3 _).mono R3 (N8 _) R3,(Pc.pH pc hpn _).1⟩
theorem A6 {n a p i:Nat} {lp:List Int} {m:MS} (q:P3 n a p i m) (pc:Pc lp m) (hr : ∀j,nth lp j<=3) (hn:n<=9) : ∀k,P3 n (a+162*k) p (i+27*k) (up (blk3 s lp) k m)/\Pc lp (up (blk3 s lp) k m)
 | 0=>⟨q,pc⟩
 | k+1=>by obtain⟨h1,h2⟩:=A6 q pc hr hn k;obtain⟨h3,h4⟩:=Jj (s:=s) (k:=k) h1 h2 hr hn;exact⟨h3.mono R3 (N8 _) R3,h4⟩
theorem G2{a p i:Nat}{vr vt vp vd:Value}(x:Nx s M vs W0 h o0 m)(h5:o0 (5,0)=it T.int vp lp)(f71:o0 (7,1)=Sf)(f72:o0 (7,2)=Sf)(q:P3 n a p i m)(pc:Pc lp m)(hlp:lp.length=n)(hr : ∀j,0<=nth lp j/\nth lp j<=3)(hn1:1<=n)(hn:n<=9)(ha:a<=300000)(hia:i<=a)(hp:p<=100)(hi:i<=1000){Q:Post}{ρ:Env}(h0:bD [2,3,4,5,7,11,25] ρ=[(2,vr),(3,Si (Se ⟨M,0,Sf⟩)),(4,Sb Sc n),(5,vt),(7,vp),(11,vd),(25,Sb Sc 1)])(hQ : ∀h':Heap,Nx s M vs W0 h' o0 (up (blk3 s lp) (n-1) m)->Q .normal [(2,vr),(3,Si (Se ⟨M,0,Sf⟩)),(4,Sb Sc n),(5,vt),(7,vp),(11,vd),(25,Sb Sc n)] h'):
  LC.wp Sn (.block 24 (.loop L.aw.l13)) Q ρ h:=by
 simp only[aW];refine xL [2,3,4,5,7,11,25] (fun(_:Unit) k=>[vr,Si (Se ⟨M,0,Sf⟩),Sb Sc n,vt,vp,vd,Sb Sc ((k+1:Nat):Int)]) (λ_ k h2=>Nx s M vs W0 h2 o0 (up (blk3 s lp) k m)) (n-1) 1 ()
  rfl R3 h0 x (λ_ _=>rfl) (λv k h2 hk2 m=>by simp;omega) ?_ ?_
 ·rintro _ k h2 hlt x2 K2 hK2;obtain⟨q2,pc2⟩:=A6 (s:=s) q pc (λj=>(hr j).2) hn k;have e2:up (blk3 s lp) (k+1) m=blk3 s lp k (up (blk3 s lp) k m):=rfl;rw[e2]at hK2;generalize up (blk3 s lp) k m=m2 at x2 hK2 q2 pc2;have hb2:blk3 s lp k m2=_:=blk3.eq_1 s lp k m2;rw[hb2]at hK2;simp only[aW];refine aa λy hy=>?_;obtain⟨vb,vl,rd⟩:=x2.z.reads;simp[rd.f];refine aj R1 (qG (b:=((k+1:Nat):Int)) (rd.rd (Ii q2.z)) (by show m2.blocks.length<=_;rw[q2.z.len];omega)) ?_;rintro vq h3 ⟨hle3,hq⟩;obtain⟨W3,hW3,x3,sq⟩:=x2.MN hle3 hq;clear rd hq;have hpl:(cM m2.f ((k+1:Nat):Int)).length<=n:=by have:=qH (p:=λa=>decide (((k+1:Nat):Int)∈(nth m2.f.blocks a).term.to)) (x:=λa=>(a:Int)) m2.f.blocks.length;unfold cM;rw[show m2.f.blocks.length=n from q2.z.len]at this ⊢;exact this
  have hpr : ∀j,j<(cM m2.f ((k+1:Nat):Int)).length->∃c:Nat,nth (cM m2.f ((k+1:Nat):Int)) j=c/\c<n:=λj hj=>by obtain⟨c,h1,h2⟩:=Co _ j hj;exact⟨c,h1,by rw[show m2.f.blocks.length=n from q2.z.len]at h2;exact h2⟩
  generalize cM m2.f ((k+1:Nat):Int)=pl at sq hpl hpr hK2;obtain⟨r0,r1⟩:=hr (k+1);subst hy;refine aa λy hy=>?_;simp;subst hy;refine Hh (vr:=vr) (vt:=vt) (vp:=vp) (vd:=vd) (vq:=vq) (b:=k+1) (cnt:=(nth lp (k+1)).toNat) x3 h5 f71 f72 q2 pc2 hlp R3 R3 R3 R3 R3 R3 hp R3 sq R3 hpr (by simp[bD,af,ag]) λh4 x4=>?_;simp;refine hK2 () _ _ rfl rfl (x4.up hW3)
 rintro _ h2 x2;have e:n-1+1=n:=by omega
 have:=hQ h2 x2;simpa[e]using this
variable{to:List (List Int)}
theorem Da{a p:Nat}{x0:BL × MS}(q:B2 n a p x0)(hn:n<=10)(hp:p<=100)(ha:16000<=a): ∀j,j<=n->B2 n (a+600*j) p (up (cZ s to n) j x0):=by
 intro j;induction j with
 | zero=>intro _;exact q
 | succ j ih=>intro hj;have:=te (s:=s) (to:=to) (b:=j) (ih R3) R3 hn hp R3 λh=>rB h;exact⟨this.z.mono R3 (N8 _) (N8 _),this.len,this.none⟩
theorem Jm{a p:Nat}{x0:BL × MS}(q:B2 n a p x0)(hn:n<=10)(hp:p<=100)(ha:16000<=a)(j:Nat):B2 n (a+600*n*j) p (up (λ_=>up (cZ s to n) n) j x0):=by
 induction j with
 | zero=>exact q
 | succ j ih=>have:=Da (s:=s) (to:=to) ih hn hp R3 n (N8 _);exact⟨this.z.mono (by rw[Rx];omega) (N8 _) (N8 _),this.len,this.none⟩
theorem Jp{a p:Nat}{vr vt vp vd:Value}{x0:BL × MS}(x:Nx s M vs W0 h (o0.upd (6,0) (it T.bool vd x0.1)) x0.2)(hto:SlRd W0 vt to)(htl:to.length=n)(f7:o0 (7,0)=Sf)(f90:o0 (9,0)=Sf)(f91:o0 (9,1)=Sf)(q:B2 n a p x0)(hn:n<=9)(hp:p<=100)(ha:16000<=a)(ha2:a<=30000){Q:Post}{ρ:Env}(h0:bD [2,3,4,5,7,11,12] ρ=[(2,vr),(3,Si (Se ⟨M,0,Sf⟩)),(4,Sb Sc n),(5,vt),(7,vp),(11,vd),(12,Sb Sc 0)])(hQ : ∀h':Heap,Nx s M vs W0 h' (o0.upd (6,0) (it T.bool vd (up (λ_=>up (cZ s to n) n) n x0).1)) (up (λ_=>up (cZ s to n) n) n x0).2->Q .normal [(2,vr),(3,Si (Se ⟨M,0,Sf⟩)),(4,Sb Sc n),(5,vt),(7,vp),(11,vd),(12,Sb Sc n)] h'):
  LC.wp Sn (.block 6 (.loop L.aw.l4)) Q ρ h:=by
 simp only[aW];refine bZ [2,3,4,5,7,11,12] (fun(_:Unit) j=>[vr,Si (Se ⟨M,0,Sf⟩),Sb Sc n,vt,vp,vd,Sb Sc j]) (λ_ j h2=>Nx s M vs W0 h2 (o0.upd (6,0) (it T.bool vd (up (λ_=>up (cZ s to n) n) j x0).1)) (up (λ_=>up (cZ s to n) n) j x0).2) n ()
  rfl R3 h0 x (λ_ _=>rfl) (λv k h2 hk2 x2=>by simp) ?_ ?_
 ·rintro _ t h2 hlt x2 K2 hK2;have q2:=Jm (s:=s) (to:=to) q R3 hp ha t;have hbd:600*n*t<=5400*9:=QN R3 R3;have e2:up (λ_=>up (cZ s to n) n) (t+1) x0=up (cZ s to n) n (up (λ_=>up (cZ s to n) n) t x0):=rfl;rw[e2]at hK2;generalize up (λ_=>up (cZ s to n) n) t x0=y at x2 hK2 q2;simp only[aW];refine aa λy hy=>?_;simp;subst hy;refine JP (vr:=vr) (vt:=vt) (vp:=vp) (vd:=vd) (t:=t) x2 hto htl f7 f90 f91 q2 R3 hp R3 R3 (by simp[bD,af,ag]) λh3 x3=>?_;simp;exact hK2 () _ _ rfl rfl x3
 rintro _ h2 x2;exact hQ h2 x2
end
section
variable {s:List Int}
theorem lu:1<=ck s/\ck s<=9:=by have:=cT (s:=s) (at_:=1) (n:=9) R4;unfold ck;omega
theorem Fa:((ck s:Nat):Int)=1+aS s 1 9:=by have:=cT (s:=s) (at_:=1) (n:=9) R4;unfold ck;omega
theorem BD:(yA s).ok 4:=by have:=cT (s:=s) (at_:=0) (n:=5) R4;refine⟨by show 2<=4;omega,by show 0<=aS s 0 5;omega,by show aS s 0 5<=_;omega,by show 0<=4;omega,λi=>?_⟩;show(nth ([]:List BlkD) i).ins.length<=4;rw[dx Sa];show 0<=4;omega
theorem Ag:TgK (ck s) 112 (jA s):=by
 obtain⟨h1,h2⟩:=lu (s:=s);have k1:TgK (ck s) 4 (List.replicate (ck s) [],yA s):=⟨by simp,λi=>by
  rcases Ov i (ck s)with hi | hi
  ·rw[aL hi];show 0<=4;omega
  rw[dx (by simpa using hi)];show 0<=4;omega,BD⟩;exact(C5 (s:=s) (A0 (s:=s) k1 (ck s-1)) (ck s)).mono R3
def rW (m m':MS):Prop:=m'.ps=m.ps/\m'.blocks=m.blocks/\m'.next=m.next/\m'.live=m.live
theorem GP{m:MS}{k:Nat}{x:TgS}(h:rW m x.2):rW m (tgA s k x).2:=by unfold tgA;split<;>exact h
variable{n b:Nat}
theorem GF{m:MS}{x:TgS}(h:rW m x.2):rW m (tgI s n b x).2:=by
 unfold tgI;simp only;repeat' split
 all_goals exact h
theorem G3{m:MS}{x:TgS}(h:rW m x.2):rW m (tgB s n b x).2:=
 vG (λx:TgS=>rW m x.2) (λ_ _ h=>GF h) _ _ h
theorem xC:rW (yA s) (jA s).2:=
 vG (λx:TgS=>rW (yA s) x.2) (λ_ _ h=>G3 h) _ _ (vG (λx:TgS=>rW (yA s) x.2) (λ_ _ h=>GP h) _ _ ⟨rfl,rfl,rfl,rfl⟩)
theorem BJ {m:MS} {a n:Nat} {to:List (List Int)} (z:Sz n a 0 0 m) (g:Gd m) (pc : ∀j,(nth m.blocks j).phis.length=0) (ht : ∀j,(nth to j).length<=1000) : ∀k,Sz n a 0 0 (up (λb m=>MS.nj m b (nth to b)) k m)/\Gd (up (λb m=>MS.nj m b (nth to b)) k m)
 | 0=>⟨z,g⟩
 | k+1=>by obtain⟨h1,h2⟩:=BJ z g pc ht k;exact⟨h1.gX (h1.phis k) (h1.ins k),h2.nj (ht k)⟩
theorem vW{j:Nat}:(nth (List.replicate n uG) j).phis.length=0/\(nth (List.replicate n uG) j).ins.length=0:=by
 rcases Ov j n with hj | hj
 ·rw[aL hj];exact⟨rfl,rfl⟩
 rw[dx (by simpa using hj)];exact⟨rfl,rfl⟩
theorem CL:Sz (ck s) 200 0 0 (tJ s)/\Gd (tJ s):=by
 have k:=Ag (s:=s);have e:=xC (s:=s);have t:=cT (s:=s) (at_:=0) (n:=5) R4;refine BJ ⟨?_,?_,?_,?_,?_,?_,?_,λj=>?_,λj=>?_⟩ (λj hj=>?_) (λj=>(vW).1) (λj=>by have:=k.row j;omega) _
 ·show(jA s).2.at_<=200;have:=k.ok.at_;omega
 ·exact k.ok.n0
 ·show(jA s).2.next<=_;have:=k.ok.next;omega
 ·show(jA s).2.live.length<=200;have:=k.ok.live;omega
 ·show 0<=(jA s).2.ps;rw[e.1];show 0<=aS s 0 5;omega
 ·show(jA s).2.ps<=4;rw[e.1];show aS s 0 5<=4;omega
 ·show(List.replicate (ck s) uG).length=_;simp
 ·show(nth (List.replicate (ck s) uG) j).phis.length<=0;rw[(vW).1];omega
 ·show(nth (List.replicate (ck s) uG) j).ins.length<=0;rw[(vW).2];omega
 have hj:j<ck s:=by simpa using hj
 show GdB (nth (List.replicate (ck s) uG) j);rw[aL hj];exact⟨λi h=>(by cases h),by show 0<=10;omega,by show 0<=1000;omega,λi h=>(by cases h)⟩
theorem qJ {m:MS} {b:Nat} (hb:b<m.blocks.length) : ∀c j,(nth (up (λ_=>fK b) c m).blocks j).phis.length=(nth m.blocks j).phis.length+(if j=b then c else 0)/\(up (λ_=>fK b) c m).blocks.length=m.blocks.length
 | 0,j=>⟨by show(nth m.blocks j).phis.length=_;split<;>omega,rfl⟩
 | c+1,j=>by
  obtain⟨h1,h2⟩:=qJ hb c j;obtain⟨h3,_⟩:=qJ hb c b;have e:(up (λ_=>fK b) (c+1) m).blocks=(up (λ_=>fK b) c m).blocks.set b { nth (up (λ_=>fK b) c m).blocks b with phis:=(nth (up (λ_=>fK b) c m).blocks b).phis++[⟨(up (λ_=>fK b) c m).next,[]⟩] }:=rfl;rw[e];refine⟨?_,by rw[OR];exact h2⟩;rcases Ov j m.blocks.length with hl | hl
  ·rw[bP (by rw[h2];exact hl)];by_cases ej:b=j
   ·subst ej;rw[if_pos rfl,if_pos rfl];rw[if_pos rfl]at h3;show(_++[_]).length=_;rw[OH,h3,OU];omega
   rw[if_neg ej,if_neg (λq=>ej q.symm)];rw[if_neg (λq=>ej q.symm)]at h1;exact h1
  rw[dx (by rw[OR,h2];exact hl),dx hl,if_neg R3];rfl
theorem zS {n a:Nat} {x:List Int × MS} (p:Ph n a 0 x) (pc:Pc x.1 x.2) (g:Gd x.2) : ∀k,k<n->Pc (up (fM s) k x).1 (up (fM s) k x).2/\Gd (up (fM s) k x).2
 | 0,_=>⟨pc,g⟩
 | k+1,hk=>by
  obtain⟨h1,h2⟩:=zS p pc g k R3;have q:=AN (s:=s) p k;have e:up (fM s) (k+1) x=fM s k (up (fM s) k x):=rfl;rw[e];generalize up (fM s) k x=y at h1 h2 q;obtain⟨c0,c1⟩:=tg (s:=s) (m:=y.2) (b:=k+1);have hb:k+1<y.2.took.blocks.length:=by show k+1<y.2.blocks.length;rw[q.z.len];exact hk
  refine⟨λj=>?_,h2.took.rA _⟩;have h3:=(qJ hb (iZ s y.2 (k+1)).toNat j).1;show((nth (up (λ_=>fK (k+1)) (iZ s y.2 (k+1)).toNat y.2.took).blocks j).phis.length:Int)=nth (y.1.set (k+1) (iZ s y.2 (k+1))) j;rw[h3];have h4:=h1 j;have h5:nth y.2.took.blocks j=nth y.2.blocks j:=rfl;rw[h5];rcases Ov j y.1.length with hl | hl
  ·rw[bP hl];by_cases ej:k+1=j
   ·subst ej;rw[if_pos rfl,if_pos rfl];rw[q.zero (k+1) R3]at h4;omega
   rw[if_neg ej,if_neg (λr=>ej r.symm)];omega
  have e1:nth (y.1.set (k+1) (iZ s y.2 (k+1))) j=default:=dx (by simpa using hl);have e2:nth y.1 j=default:=dx hl;rw[e1];rw[e2]at h4;have:=q.len;rw[if_neg R3];omega
theorem tM:Ph (ck s) 200 (ck s-1) (kq s)/\Pc (kq s).1 (kq s).2/\Gd (kq s).2:=by
 obtain⟨h1,h2⟩:=lu (s:=s);obtain⟨z,g⟩:=CL (s:=s);have hz : ∀j,nth (List.replicate (ck s) (0:Int)) j=0:=λj=>by
  rcases Ov j (ck s)with hj | hj
  ·rw[aL hj]
  rw[dx (by simpa using hj)];rfl
 have p0:Ph (ck s) 200 0 (List.replicate (ck s) (0:Int),tJ s):=⟨z,by simp,λj _=>hz j,λj=>by rw[hz];omega⟩;have pc:Pc (List.replicate (ck s) (0:Int)) (tJ s):=λj=>by have:=z.phis j;rw[hz];omega
 obtain⟨q1,q2⟩:=zS (s:=s) p0 pc g (ck s-1) R3;exact⟨AN p0 _,q1,q2⟩
theorem Gd.jM {to:List (List Int)} {n b:Nat} {dn:BL} {away:List BL} {m:MS} (g:Gd m) (ht:(nth to b).length<=1000):Gd (jM s to n dn away b m):=by have g1:Gd (MS.took { m with live:=oo m dn away b n }):=g;exact(Gd.jy g1 _).MP ht
theorem Gd.cZ {to:List (List Int)} {n b:Nat} {x:BL × MS} (g:Gd x.2) (ht:(nth to b).length<=1000):Gd (cZ s to n b x).2:=by
 unfold Go.Proofs.YtnfiilgdjpdlkaaGreatDoor.cZ;split
 ·exact g.jM ht
 exact g
structure M4 (n a p:Nat) (lp:List Int) (x:BL × MS):Prop where
 b2:B2 n a p x
 gd:Gd x.2
 pc:Pc lp x.2
theorem M4.step{to:List (List Int)}{n a p b:Nat}{lp:List Int}{x:BL × MS}(q:M4 n a p lp x)(hb:b<n)(hn:n<=10)(hp:p<=100)(ha:16000<=a)(ht : ∀j,(nth to j).length<=1000):M4 n (a+600) p lp (cZ s to n b x):=
 ⟨te q.b2 hb hn hp ha λh=>rB h,q.gd.cZ (ht b),q.pc.cZ (by rw[q.b2.z.len];exact hb)⟩
variable{to:List (List Int)}{lp:List Int}
theorem M4.blk{a p:Nat}{x:BL × MS}(q:M4 n a p lp x)(hn:n<=10)(hp:p<=100)(ha:16000<=a)(ht : ∀j,(nth to j).length<=1000)(k:Nat)(hk:k<=n):M4 n (a+600*k) p lp (up (Go.Proofs.YtnfiilgdjpdlkaaGreatDoor.cZ s to n) k x):=by
 induction k with
 | zero=>exact q
 | succ k ih=>have:=(ih R3).step (s:=s) (to:=to) (b:=k) R3 hn hp R3 ht;exact⟨⟨this.b2.z.mono R3 (N8 _) (N8 _),this.b2.len,this.b2.none⟩,this.gd,this.pc⟩
theorem M4.turn{a p:Nat}{x:BL × MS}(q:M4 n a p lp x)(hn:n<=10)(hp:p<=100)(ha:16000<=a)(ht : ∀j,(nth to j).length<=1000)(k:Nat):M4 n (a+600*n*k) p lp (up (λ_=>up (Go.Proofs.YtnfiilgdjpdlkaaGreatDoor.cZ s to n) n) k x):=by
 induction k with
 | zero=>exact q
 | succ k ih=>have:=ih.blk (s:=s) (to:=to) hn hp R3 ht n (N8 _);exact⟨⟨this.b2.z.mono (by rw[Rx];omega) (N8 _) (N8 _),this.b2.len,this.b2.none⟩,this.gd,this.pc⟩
theorem Cu:B2 (ck s) 16000 27 (List.replicate (ck s) Sk,(kq s).2):=by obtain⟨h1,h2⟩:=lu (s:=s);obtain⟨p,_,_⟩:=tM (s:=s);refine⟨p.z.mono R3 R3 R3,by simp,λj hj _=>?_⟩;have:=p.z.ins j;show(nth (kq s).2.blocks j).ins.length=0;omega
theorem Cn:P3 (ck s) 70000 27 700 (zX s).2/\Pc (kq s).1 (zX s).2:=by
 obtain⟨h1,h2⟩:=lu (s:=s);obtain⟨p,pc,g⟩:=tM (s:=s);have ht : ∀j,(nth (jA s).1 j).length<=1000:=λj=>by have:=(Ag (s:=s)).row j;omega
 have q0:M4 (ck s) 16000 27 (kq s).1 (List.replicate (ck s) Sk,(kq s).2):=⟨Cu,g,pc⟩;have q:=q0.turn (s:=s) (to:=(jA s).1) R3 R3 R3 ht (ck s);have hbd:600*ck s*ck s<=5400*9:=QN R3 R3;exact⟨⟨q.b2.z.mono R3 (N8 _) (N8 _),q.gd⟩,q.pc⟩
theorem tL:P3 (ck s) 72000 27 1000 (q7 s):=by obtain⟨h1,h2⟩:=lu (s:=s);obtain⟨p,_,_⟩:=tM (s:=s);obtain⟨q,pc⟩:=Cn (s:=s);have:=(A6 (s:=s) q pc (λj=>(p.rng j).2) h2 (ck s-1)).1;exact this.mono R3 (N8 _) R3
theorem Cj:0<=(sy s).params/\(sy s).params<=4:=⟨(tL (s:=s)).z.ps0,(tL (s:=s)).z.ps1⟩
end
section
variable {f:aq} {b i:Nat}
theorem CO:ft f (endT f b)=true:=by refine decide_eq_true ?_;show(((nth f.blocks b).ins.length:Nat):Int)=((nth f.blocks ((b:Nat):Int).toNat).ins.length:Nat);rw[O2]
theorem EP(hi:i<(nth f.blocks b).ins.length):oP f (insT f b i)=Sj/\fI f (insT f b i)=nth (nth f.blocks b).ins i:=by
 refine⟨(OA _ _).mpr ⟨decide_eq_true (Int.natCast_nonneg _),decide_eq_true ?_⟩,?_⟩
 ·show(i:Int)<((nth f.blocks ((b:Nat):Int).toNat).ins.length:Nat);rw[O2];omega
 show nth (nth f.blocks ((b:Nat):Int).toNat).ins ((i:Nat):Int).toNat=_;rw[O2,O2]
theorem JK:fg f (endT f b)=nth f.blocks b:=by show nth f.blocks ((b:Nat):Int).toNat=_;rw[O2]
theorem nY.insG(m:nY f)(hb:b<f.blocks.length)(hi:i<(nth f.blocks b).ins.length):Af f (insT f b i)/\ml (nth (nth f.blocks b).ins i)=false:=by have g:=m.good _ (gR.2 ⟨b,hb,ji.2 (.inr (.inl ⟨i,hi,rfl⟩))⟩);exact⟨g,by have:=g.op (EP hi).1;rwa [(EP hi).2]at this⟩
theorem nY.endG(m:nY f)(hb:b<f.blocks.length):kt (nth f.blocks b).term=Sj/\∀n∈(nth f.blocks b).term.to,1<=n/\n<f.blocks.length:=by have g:=m.good _ (gR.2 ⟨b,hb,ji.2 (.inr (.inr rfl))⟩);have h1:=g.term CO;have h2:=g.to CO;rw[JK]at h1 h2;exact⟨h1,h2⟩
end
section
variable {f g:aq} {n:Nat}
end
def mf (f:aq):Bool:=decide ((lP f).1=0)
def ed (f:aq) (b p pat temp:Int):Option FitD:=if dG f b p&&mf f then tryS (eS f b p temp) pat else Sf
def e9 (f:aq) (b p pat:Int):Option FitD:=if 1<=pat then ed f b p pat 0 else Sf
def uy:Option FitD->List Int | some x=>x.takes | none=>[]
def tI:Option FitD->List Int | some x=>x.inner | none=>[]
def DT:Option FitD->List aH | some x=>x.code | none=>[]
def GC:Option FitD->EndD | some x=>x.fin | none=>cC
theorem gZ{f:aq}{i:InsD}:i∈dV f↔∃b k,b<f.blocks.length/\k<(nth f.blocks b).ins.length/\i=nth (nth f.blocks b).ins k:=by
 unfold dV;rw[List.mem_flatMap];constructor
 ·rintro⟨x,hx,hi⟩;obtain⟨b,hb,rfl⟩:=OS hx;obtain⟨k,hk,rfl⟩:=OS hi;exact⟨b,k,hb,by rw[aB hb];exact hk,by rw[aB hb,aB hk]⟩
 rintro⟨b,k,hb,hk,rfl⟩;exact⟨_,bw hb,bw hk⟩
theorem xa{H:View}{v:Value}{f:aq}(h:Rd H v f): ∀i∈dV f,-2147483648<=i.imm.v/\i.imm.v<=2147483647:=by intro i hi;obtain⟨b,k,hb,hk,rfl⟩:=gZ.1 hi;obtain⟨c1,c2,c3⟩:=fV h;unfold Rd at h;rw[if_pos (show Rep.agg aq=Sj from rfl)]at h;obtain⟨cs,rfl,d1,d2,e,h1,h2⟩:=h;obtain⟨vb,rfl⟩:=uN h2;have hs:=pO.1 h2;have h3:=((hs.at hb).part BlkD.jB).sl;obtain⟨vi,-,h4⟩:=h3;rw[<-aB hb]at h4;have:=((h4.at hk).part InsD.gD).nK;rw[aB hk];exact this
theorem xo{f:aq}(m:nY f)(hsm:SmF f): ∀i∈dV f,qB i:=by
 intro i hi;obtain⟨b,k,hb,hk,rfl⟩:=gZ.1 hi;obtain⟨-,h⟩:=m.insG hb hk;have hm:=(hsm.blk b hb).inn k hk;generalize nth (nth f.blocks b).ins k=i at *;unfold ml at h;simp at h;obtain⟨⟨h1,h2⟩,h3⟩:=h;unfold lE at h3;refine⟨λho=>?_,λho=>?_,hm⟩
 ·rw[if_neg R3,if_neg R3,if_neg R3]at h3;simp at h3;omega
 rw[if_neg R3,if_pos R3]at h3;simp at h3;omega
variable{b:Nat}
theorem Bb{f:aq}(m:nY f)(hsm:SmF f)(hb:b<f.blocks.length):uK (nth f.blocks b).term:=by
 have h:=(m.endG hb).1;have s:=hsm.blk b hb;have s1:=s.args;have s2:=s.to;generalize (nth f.blocks b).term=t at *;refine⟨λho=>?_,s1,s2⟩;unfold kt at h;rcases ho with ho | ho
 ·rw[if_neg R3,if_pos ho]at h;simp at h;omega
 rw[if_neg R3,if_neg R3,if_pos ho]at h;simp at h;omega
theorem Hl:qB eZ:=⟨λh=>by simp[eZ]at h,λh=>by simp[eZ]at h,by simp[eZ]⟩
variable{temp:Int}
theorem BY{f:aq}{b p:Int}(m:nY f)(hsm:SmF f)(hr : ∀i∈dV f,-2147483648<=i.imm.v/\i.imm.v<=2147483647)(hp:dG f b p=Sj):nL (eS f b p temp)/\uK (eS f b p temp).t/\((eS f b p temp).i=eZ\/(eS f b p temp).i∈dV f)/\(eS f b p temp).f=f:=by
 simp[dG]at hp;obtain⟨⟨⟨g1,g2⟩,g3⟩,g4⟩:=hp;have hb:b.toNat<f.blocks.length:=by omega
 unfold eS;by_cases e:p=(nth f.blocks b.toNat).ins.length
 ·rw[if_pos e];exact⟨⟨hsm,xo m hsm,Hl,hr⟩,Bb m hsm hb,.inl rfl,rfl⟩
 rw[if_neg e];have hi:nth (nth f.blocks b.toNat).ins p.toNat∈dV f:=gZ.2 ⟨_,_,hb,by omega,rfl⟩;exact⟨⟨hsm,xo m hsm,xo m hsm _ hi,hr⟩,⟨λh=>by simp[pw]at h,by simp[pw],by simp[pw]⟩,.inr hi,rfl⟩
theorem Ah{f:aq}{v:Value}{b p pat:Int}{h:Heap}{W:View}(hW:W.le (vw h))(hv:Rd W v (eS f b p temp))(m:nY f)(hsm:SmF f)(hr : ∀i∈dV f,-2147483648<=i.imm.v/\i.imm.v<=2147483647)(hM : ∀i∈dV f,i.op=15\/i.op=16->nc)(hpl:dG f b p=Sj)(hp:I64 pat):
  aA Sn 39 #[v,Sb Sc pat] h (λu h'=>cj W h h' u (tryS (eS f b p temp) pat)):=by
 obtain⟨h1,h2,h3,-⟩:=BY (temp:=temp) m hsm hr hpl;refine LA hW hv (λ_=>h1) (λ_=>⟨h1,h2⟩) (λho=>?_) hp;rcases h3 with h3 | h3
 ·rw[h3]at ho;simp[eZ]at ho
 exact hM _ h3 ho
theorem pf{f:aq}(h:mf f=Sj):nY f:=LP (by simpa[mf]using h)
theorem BX{f:aq}{v:Value}{b p pat:Int}{h:Heap}{W:View}(hW:W.le (vw h))(hv:Rd W v f)(hsm:SmF f)(hM : ∀i∈dV f,i.op=15\/i.op=16->nc)(hp:I64 pat):
  aA Sn 15 #[v,Sb Sc b,Sb Sc p,Sb Sc pat] h (λu h'=>(vw h).le (vw h')/\∃v1 v2,u = .tuple #[v1,v2,.bool (e9 f b p pat).isSome]/\SlRd (vw h') v1 (uy (e9 f b p pat))/\SlRd (vw h') v2 (tI (e9 f b p pat))):=by
 refine au (args:=[v,Sb Sc b,Sb Sc p,Sb Sc pat]) follows Tryz.func15 E.pk S0 λK hK=>?_;dsimp only[L.pk,lkF,lkG];have c0:=Cx.start hW;refine aa λz hz=>?_;simp;refine c0.cr rfl hv λB h1 W1 hW1 c1 at1 hle1=>?_;subst hz;obtain⟨uf,huf,ruf⟩:=at1.ldN rfl (N:=2) rfl;have hr:=xa hv;refine aa λz hz=>?_;simp[huf _ c1.wle];refine aj R1 (HW c1.wle ruf (by constructor<;>decide)) ?_;rintro _ h2 ⟨hle2,vs,rfl,hvs⟩;have c2:=c1.ext hle2;have hW2:=c1.up (h':=h2);simp;refine c2.dE (α:=cy) hvs (n:=13) (z:=.agg qe.toArray) R1 rfl rfl R1 R5 R5 λB2 h3 W3 hW3 c3 at3 hle3=>?_;subst hz;have huf3:=huf _ (S3 hW2 (S3 hW3 c3.wle));have ruf3:=ruf.mono (S3 hW2 (S3 hW3 c3.wle));have none_:e9 f b p pat=Sf->K (.tuple #[Sg Sf 0 0,Sg Sf 0 0,.bool Sk]) h3:=λe=>hK _ _ ⟨c3.le0,_,_,by rw[e];rfl,by rw[e];exact aF,by rw[e];exact aF⟩;refine aa λz hz=>?_;cases hpl:dG f b p with
 | false=>
  have e:e9 f b p pat=none:=by unfold e9 ed;rw[hpl];split<;>rfl
  simp;exact none_ e
 | true=>
  by_cases h1p:pat<1
  ·have e:e9 f b p pat=none:=by unfold e9;rw[if_neg R3]
   simp[h1p];exact none_ e
  simp[h1p,huf3];refine aj R1 (yk ruf3 hsm) ?_;rintro _ h4 ⟨rfl,hle4⟩;have c4:=c3.ext hle4;have hW4:=c3.up (h':=h4);cases hrt:mf f with
  | false=>
   have e:e9 f b p pat=none:=by unfold e9 ed;rw[hpl,hrt];split<;>rfl
   have hrt2:decide ((lP f).1=0)=false:=hrt;simp[hrt2];exact hK _ _ ⟨c4.le0,_,_,by rw[e];rfl,by rw[e];exact aF,by rw[e];exact aF⟩
  | true=>
   have hrt2:decide ((lP f).1=0)=true:=hrt;have m:=pf hrt;have e:e9 f b p pat=tryS (eS f b p 0) pat:=by unfold e9 ed;rw[if_pos R3,hpl,hrt];rfl
   rw[e]at hK none_;have hpS:oD f b p 0=eS f b p 0:=by unfold oD;rw[hpl,if_pos rfl]
   rw[hpS]at at3;obtain⟨us,hus,rus⟩:=at3.ldN rfl (N:=13) rfl;have hus4:=hus _ (S3 hW4 c4.wle);simp[hrt2];subst hz;refine aa λz hz=>?_;simp[hus4];refine aj R1 (Ah c4.wle (rus.mono hW4) m hsm hr hM hpl hp) ?_;rintro _ h5 ⟨hle5,vf,x,rfl,hvf,hx⟩;have c5:=c4.ext hle5;simp;refine c5.dE (α:=FitD) hvf (n:=8) (z:=.agg fitZ.toArray) R1 rfl rfl R1 R5 R5 λB3 h6 W6 hW6 c6 at6 hle6=>?_;subst hz;refine aa λz hz=>?_;cases hq:tryS (eS f b p 0) pat with
   | none=>rw[hq]at hK;simp;exact hK _ _ ⟨c6.le0,_,_,rfl,aF,aF⟩
   | some y=>
    obtain rfl:=hx y hq;rw[hq]at hK;obtain⟨v1,k1,s1⟩:=((at6.mono c6.wle).part FitD.Am).sl;obtain⟨v2,k2,s2⟩:=((at6.mono c6.wle).part FitD.E3).sl;have k1:ao (vw h6) ⟨B3,0,Sf⟩=Se v1:=by simpa using k1
    have k2:ao (vw h6) ⟨B3,1,Sf⟩=Se v2:=by simpa using k2
    simp;subst hz;simp[k1,k2];exact hK _ _ ⟨c6.le0,_,_,rfl,s1,s2⟩
abbrev endZ:List Value:=[Sb Sc 0,Sb Sc 0,Sb Sc 0,Sg Sf 0 0,Sb Sd 0]
theorem pa{H:View}:Rd H (.agg endZ.toArray) cC:=by unfold Rd;rw[if_pos (show Rep.agg EndD=Sj from rfl)];exact⟨_,rfl,hZ Sa R4 aF⟩
theorem Ey{f:aq}{v:Value}{b p pat:Int}{h:Heap}{W:View}(hW:W.le (vw h))(hv:Rd W v f)(hsm:SmF f)(hM : ∀i∈dV f,i.op=15\/i.op=16->nc)(hp:I64 pat)(htm:I64 temp):
  aA Sn 16 #[v,Sb Sc b,Sb Sc p,Sb Sc pat,Sb Sc temp] h (λu h'=>(vw h).le (vw h')/\∃v1 v2,u = .tuple #[v1,v2,.bool (ed f b p pat temp).isSome]/\SlRd (vw h') v1 (DT (ed f b p pat temp))/\Rd (vw h') v2 (GC (ed f b p pat temp))):=by
 refine au (args:=[v,Sb Sc b,Sb Sc p,Sb Sc pat,Sb Sc temp]) follows Tryz.func16 E.rI S0 λK hK=>?_;dsimp only[L.rI,lkF,lkG];have c0:=Cx.start hW;refine aa λz hz=>?_;simp;refine c0.cr rfl hv λB h1 W1 hW1 c1 at1 hle1=>?_;refine c1.bW (k:=(0,0)) (n:=4) (z:=.agg endZ.toArray) rfl R1 rfl R4 R8 λR h1' hle1' c1=>?_;subst hz;obtain⟨uf,huf,ruf⟩:=at1.ldN rfl (N:=2) rfl;have hr:=xa hv;refine aa λz hz=>?_;simp[huf _ c1.wle];refine aj R1 (HW c1.wle ruf htm) ?_;rintro _ h2 ⟨hle2,vs,rfl,hvs⟩;have c2:=c1.ext hle2;have hW2:=c1.up (h':=h2);simp;refine c2.dE (α:=cy) hvs (n:=13) (z:=.agg qe.toArray) R1 rfl rfl R1 R5 R5 λB2 h3 W3 hW3 c3 at3 hle3=>?_;subst hz;have huf3:=huf _ (S3 hW2 (S3 hW3 c3.wle));have ruf3:=ruf.mono (S3 hW2 (S3 hW3 c3.wle));have none_ : ∀(hx:Heap) (Wx:View) (l9:List Value) (o:Own),ed f b p pat temp=Sf->Cx W h Wx hx o->Rd Wx (.agg l9.toArray) cC->K (.tuple #[Sg Sf 0 0,.agg l9.toArray,.bool Sk]) hx:=λhx Wx l9 o e c r=>hK _ _ ⟨c.le0,_,_,by rw[e];rfl,by rw[e];exact aF,by rw[e];exact r.mono c.wle⟩;refine aa λz hz=>?_;cases hpl:dG f b p with
 | false=>
  have e:ed f b p pat temp=none:=by unfold ed;rw[hpl];rfl
  simp;refine an (t:=T.gG) (z:=.agg endZ.toArray) (places:=[(0,1),(1,1),(2,1),(3,1),(4,1)]) (vs:=[]) (cs:=endZ.toArray) R1 R1 Sa R1 ?_;refine c3.aK (k:=(0,0)) (n:=4) (l:=endZ) RZ pa rfl rfl R1 rfl rfl λh9 l9 hl9 c9=>?_;have hall:=c9.all (k:=(0,0)) (n:=4) (l:=l9) (B:=R) (e:=T.gG) RZ;simp at hall;simp[hall];exact none_ _ _ _ _ e c9 (hl9▸pa)
 | true=>
  simp[huf3];refine aj R1 (yk ruf3 hsm) ?_;rintro _ h4 ⟨rfl,hle4⟩;have c4:=c3.ext hle4;have hW4:=c3.up (h':=h4);cases hrt:mf f with
  | false=>
   have e:ed f b p pat temp=none:=by unfold ed;rw[hpl,hrt];rfl
   have hrt2:decide ((lP f).1=0)=false:=hrt;simp[hrt2];refine an (t:=T.gG) (z:=.agg endZ.toArray) (places:=[(0,1),(1,1),(2,1),(3,1),(4,1)]) (vs:=[]) (cs:=endZ.toArray) R1 R1 Sa R1 ?_;refine c4.aK (k:=(0,0)) (n:=4) (l:=endZ) RZ pa rfl rfl R1 rfl rfl λh9 l9 hl9 c9=>?_;have hall:=c9.all (k:=(0,0)) (n:=4) (l:=l9) (B:=R) (e:=T.gG) RZ;simp at hall;simp[hall];exact none_ _ _ _ _ e c9 (hl9▸pa)
  | true=>
   have hrt2:decide ((lP f).1=0)=true:=hrt;have m:=pf hrt;have e:ed f b p pat temp=tryS (eS f b p temp) pat:=by unfold ed;rw[hpl,hrt];rfl
   rw[e]at hK none_;have hpS:oD f b p temp=eS f b p temp:=by unfold oD;rw[hpl,if_pos rfl]
   rw[hpS]at at3;obtain⟨us,hus,rus⟩:=at3.ldN rfl (N:=13) rfl;have hus4:=hus _ (S3 hW4 c4.wle);simp[hrt2];subst hz;refine aa λz hz=>?_;simp[hus4];refine aj R1 (Ah c4.wle (rus.mono hW4) m hsm hr hM hpl hp) ?_;rintro _ h5 ⟨hle5,vf,x,rfl,hvf,hx⟩;have c5:=c4.ext hle5;simp;refine c5.dE (α:=FitD) hvf (n:=8) (z:=.agg fitZ.toArray) R1 rfl rfl R1 R5 R5 λB3 h6 W6 hW6 c6 at6 hle6=>?_;subst hz;refine aa λz hz=>?_;cases hq:tryS (eS f b p temp) pat with
   | none=>simp;refine an (t:=T.gG) (z:=.agg endZ.toArray) (places:=[(0,1),(1,1),(2,1),(3,1),(4,1)]) (vs:=[]) (cs:=endZ.toArray) R1 R1 Sa R1 ?_;refine c6.aK (k:=(0,0)) (n:=4) (l:=endZ) RZ pa rfl rfl R1 rfl rfl λh9 l9 hl9 c9=>?_;have hall:=c9.all (k:=(0,0)) (n:=4) (l:=l9) (B:=R) (e:=T.gG) RZ;simp at hall;simp[hall];exact none_ _ _ _ _ hq c9 (hl9▸pa)
   | some y=>
    obtain rfl:=hx y hq;rw[hq]at hK;obtain⟨v1,k1,s1⟩:=(at6.part FitD.HR).sl;obtain⟨v2,k2,s2⟩:=(at6.part FitD.KQ).ldN rfl (N:=5) rfl;have k1:ao W6 ⟨B3,2,Sf⟩=Se v1:=by simpa using k1
    have k2:Un.ev W6 (.aT 5) (Si (Se ⟨B3,3,Sf⟩))=Se v2:=by simpa using k2 W6 S2
    simp;subst hz;refine aa λz hz=>?_;refine aI W6 c6.wle ?_;simp[k1,k2];refine c6.aK (k:=(0,0)) (n:=4) (l:=endZ) RZ s2 rfl rfl R1 rfl rfl λh9 l9 hl9 c9=>?_;subst hz;have hall:=c9.all (k:=(0,0)) (n:=4) (l:=l9) (B:=R) (e:=T.gG) RZ;simp at hall;simp[hall];exact hK _ _ ⟨c9.le0,_,_,rfl,s1.mono c9.wle,hl9▸s2.mono c9.wle⟩
theorem HE{a b:ByteArray}{n:Bool}:Bn.ev (.eqS n) (.string a) (.string b)=Se (.bool ((a.toList == b.toList) != n)):=rfl
end Go.Proofs.YtnfiilgdjpdlkaaGreatDoor
