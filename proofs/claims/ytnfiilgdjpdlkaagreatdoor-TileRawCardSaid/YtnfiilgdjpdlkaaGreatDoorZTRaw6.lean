/- A part of the proof: Mz, Na, Tk, Om, On, Ja. -/
import Derived.Test.YtnfiilgdjpdlkaaGreatDoorZTRaw5
import Derived.Laws.BytesArg
set_option linter.unusedSimpArgs false
set_option linter.unusedVariables false
open Go.Value renaming int->RG,slice->RL,pointer->RM
open Go.IntKind renaming i64->RH,i32->RI
open Option renaming some->RJ,none->RK
open Bool renaming true->RN,false->RO
open Go.Proofs.Tryz renaming prog->RP
namespace Go.Proofs.YtnfiilgdjpdlkaaGreatDoor
open Go Go.Lft
section
variable {s:List Int} {M:Nat} {vs:Value} {W0:View} {h:Heap} {o0:Own} {m:MS}
variable{n b:Nat}{lp:List Int}
theorem GC{a p i cnt:Nat}{vr vt vp vd vq:Value}{pl:List Int}(x:Nx s M vs W0 h o0 m)(h5:o0 (5,0)=it T.int vp lp)(f71:o0 (7,1)=RK)(f72:o0 (7,2)=RK)(q:P3 n a p i m)(pc:Pc lp m)(hlp:lp.length=n)(hb:b<n)(hcnt:nth lp b=cnt)(hc3:cnt<=3)(hn:n<=10)(ha:a<=400000)(hia:i<=a)(hp:p<=100)(hi:i<=1900)(hq:SlRd W0 vq pl)(hpl:pl.length<=9)(hpr : ∀k,k<pl.length->∃c:Nat,nth pl k=c/\c<n){Q:Post}{ρ:Env}(h0:bF [2,3,4,5,7,11,25,26,27] ρ=[(2,vr),(3,RM (RJ ⟨M,0,RK⟩)),(4,RG RH n),(5,vt),(7,vp),(11,vd),(25,RG RH b),(26,vq),(27,RG RH 0)])(hQ : ∀h':Heap,Nx s M vs W0 h' o0 (up (phi3 s b pl) cnt m)->Q .normal [(2,vr),(3,RM (RJ ⟨M,0,RK⟩)),(4,RG RH n),(5,vt),(7,vp),(11,vd),(25,RG RH b),(26,vq),(27,RG RH cnt)] h'):
  LC.wp RP (.block 26 (.loop L.au.l14)) Q ρ h:=by
 simp only[aU];refine bX [2,3,4,5,7,11,25,26,27] (fun(_:Unit) k=>[vr,RM (RJ ⟨M,0,RK⟩),RG RH n,vt,vp,vd,RG RH b,vq,RG RH k]) (λ_ k h2=>Nx s M vs W0 h2 o0 (up (phi3 s b pl) k m)) cnt ()
  rfl R3 h0 x (λ_ _=>rfl) (λv k h2 hk2 x2=>by have sp:=x2.z.at R4 h5;have e:=sp.int RD (i:=b) R3;rw[hcnt]at e;simp(disch:=omega)[sp.idx1 rfl,e]) ?_ ?_
 ·rintro _ k h2 hlt x2 K2 hK2;have hpn : ∀j,j<pl.length->(nth pl j).toNat<m.blocks.length:=λj hj=>by obtain⟨c,h1,h2⟩:=hpr j hj;rw[h1,q.z.len];simpa using h2
  have q2:=(pG (s:=s) (b:=b) q hpl k).mono (a':=a+200) (p':=p) (i':=i+30) R3 (NO _) R3;obtain⟨pc2,hlen2⟩:=Pc.pG (s:=s) (b:=b) pc hpn k;have e2:up (phi3 s b pl) (k+1) m=phi3 s b pl k (up (phi3 s b pl) k m):=rfl;rw[e2]at hK2;generalize up (phi3 s b pl) k m=m2 at x2 hK2 q2 pc2 hlen2;have hpn2 : ∀j,j<pl.length->(nth pl j).toNat<m2.blocks.length:=λj hj=>by rw[hlen2];exact hpn j hj
  obtain⟨pc3,hlen3⟩:=Pc.kV (s:=s) (pl:=pl) (x:=([],m2)) pc2 hpn2 pl.length (NO _);simp only[aU];refine aa λy hy=>?_;simp;refine x2.nu (k:=(7,2)) (α:=InD) R4 f72 El.tK λvi h3 hvi x3=>?_;subst hy;refine aa λy hy=>?_;refine aa λw hw=>?_;simp;subst hw;refine GV (vr:=vr) (vt:=vt) (vp:=vp) (vd:=vd) (vq:=vq) (vi:=vi) (b:=b) (j:=k) x3 f71 q2 hn R3 R3 hp R3 hq hpl hpr (by simp[bF,af,ag]) λh4 vi x4=>?_;obtain⟨W4,hW4,x4,s4⟩:=x4.freeze R4 f72;have e3:phi3 s b pl k m2=(up (ed s pl) pl.length ([],m2)).2.tF b k (up (ed s pl) pl.length ([],m2)).1:=rfl;rw[e3]at hK2;have hb4:b<(up (ed s pl) pl.length ([],m2)).2.blocks.length:=by rw[hlen3];show b<m2.blocks.length;rw[hlen2,q.z.len];exact hb
  have hph:((nth (up (ed s pl) pl.length ([],m2)).2.blocks b).phis.length:Int)=cnt:=(pc3 b).trans hcnt;generalize up (ed s pl) pl.length ([],m2)=r at x4 hK2 s4 hb4 hph;obtain⟨W,o,g,w,f⟩:=x4;obtain⟨vb,vl,lb,bb⟩:=w.box;have rd:=w.reads bb;have hbb:b<lb.length:=by rw[bb.len];exact hb4
  have sb:=w.own.now bb.blk;have sbb:=sb.bound;have c1:an (vw h4) (((slA vb).add (b*6)).add 0)=RJ (nth lb b).phis.v:=by have:=((sb.at hbb).part BlkM.sQ).raw;rw[aA hbb];exact this
  have sph:=w.own.now (bb.phis b hb4);simp;subst hy;have r5:Bn.ev (.idx 2) (nth lb b).phis.v (RG RH k)=RJ (RM (RJ ((slA (nth lb b).phis.v).add (k*2)))):=by have:=sph.idxn (N:=2) rfl (k:=.i64) (i:=k) R3 R3;simpa using this
  simp(disch:=omega)[rd.cb,sb.idxn (N:=6) rfl,c1,r5];refine w.Mo bb (b:=b) (i:=k) (l:=r.1) hb4 R3 R1 rfl rfl (s4.mono g) λh5 o5 w5 f5=>?_;refine hK2 () _ _ rfl rfl ?_;exact⟨W,o5,RE hW4 g,w5,λq hq=>(f5 q hq).trans (f q hq)⟩
 rintro _ h2 x2;exact hQ h2 x2
theorem J1{a p i k:Nat}{m:MS}(q:P3 n a p i m)(pc:Pc lp m)(hr : ∀j,nth lp j<=3)(hn:n<=9):P3 n (a+162) p (i+27) (blk3 s lp k m)/\Pc lp (blk3 s lp k m):=by
 have hpl:(cD m.f ((k+1:Nat):Int)).length<=n:=by have:=qy (p:=λa=>decide (((k+1:Nat):Int)∈(nth m.f.blocks a).term.to)) (x:=λa=>(a:Int)) m.f.blocks.length;rw[show m.f.blocks.length=n from q.z.len]at this;unfold cD;rw[show m.f.blocks.length=n from q.z.len];exact this
 have hpn : ∀j,j<(cD m.f ((k+1:Nat):Int)).length->(nth (cD m.f ((k+1:Nat):Int)) j).toNat<m.blocks.length:=λj hj=>by obtain⟨c,h1,h2⟩:=BJ _ j hj;have h1:nth (cD m.f ((k+1:Nat):Int)) j=c:=h1;rw[h1];have h2:c<m.blocks.length:=h2;simpa using h2
 have h3:=hr (k+1);unfold blk3;exact⟨(pG q R3 _).mono R3 (NO _) R3,(Pc.pG pc hpn _).1⟩
theorem Au {n a p i:Nat} {lp:List Int} {m:MS} (q:P3 n a p i m) (pc:Pc lp m) (hr : ∀j,nth lp j<=3) (hn:n<=9) : ∀k,P3 n (a+162*k) p (i+27*k) (up (blk3 s lp) k m)/\Pc lp (up (blk3 s lp) k m)
 | 0=>⟨q,pc⟩
 | k+1=>by obtain⟨h1,h2⟩:=Au q pc hr hn k;obtain⟨h3,h4⟩:=J1 (s:=s) (k:=k) h1 h2 hr hn;exact⟨h3.mono R3 (NO _) R3,h4⟩
theorem H2{a p i:Nat}{vr vt vp vd:Value}(x:Nx s M vs W0 h o0 m)(h5:o0 (5,0)=it T.int vp lp)(f71:o0 (7,1)=RK)(f72:o0 (7,2)=RK)(q:P3 n a p i m)(pc:Pc lp m)(hlp:lp.length=n)(hr : ∀j,0<=nth lp j/\nth lp j<=3)(hn1:1<=n)(hn:n<=9)(ha:a<=300000)(hia:i<=a)(hp:p<=100)(hi:i<=1000){Q:Post}{ρ:Env}(h0:bF [2,3,4,5,7,11,25] ρ=[(2,vr),(3,RM (RJ ⟨M,0,RK⟩)),(4,RG RH n),(5,vt),(7,vp),(11,vd),(25,RG RH 1)])(hQ : ∀h':Heap,Nx s M vs W0 h' o0 (up (blk3 s lp) (n-1) m)->Q .normal [(2,vr),(3,RM (RJ ⟨M,0,RK⟩)),(4,RG RH n),(5,vt),(7,vp),(11,vd),(25,RG RH n)] h'):
  LC.wp RP (.block 24 (.loop L.au.l13)) Q ρ h:=by
 simp only[aU];refine xd [2,3,4,5,7,11,25] (fun(_:Unit) k=>[vr,RM (RJ ⟨M,0,RK⟩),RG RH n,vt,vp,vd,RG RH ((k+1:Nat):Int)]) (λ_ k h2=>Nx s M vs W0 h2 o0 (up (blk3 s lp) k m)) (n-1) 1 ()
  rfl R3 h0 x (λ_ _=>rfl) (λv k h2 hk2 m=>by simp;omega) ?_ ?_
 ·rintro _ k h2 hlt x2 K2 hK2;obtain⟨q2,pc2⟩:=Au (s:=s) q pc (λj=>(hr j).2) hn k;have e2:up (blk3 s lp) (k+1) m=blk3 s lp k (up (blk3 s lp) k m):=rfl;rw[e2]at hK2;generalize up (blk3 s lp) k m=m2 at x2 hK2 q2 pc2;have hb2:blk3 s lp k m2=_:=blk3.eq_1 s lp k m2;rw[hb2]at hK2;simp only[aU];refine aa λy hy=>?_;obtain⟨vb,vl,rd⟩:=x2.z.reads;simp[rd.f];refine ah R1 (qu (b:=((k+1:Nat):Int)) (rd.rd (Gk q2.z)) (by show m2.blocks.length<=_;rw[q2.z.len];omega)) ?_;rintro vq h3 ⟨hle3,hq⟩;obtain⟨W3,hW3,x3,sq⟩:=x2.My hle3 hq;clear rd hq;have hpl:(cD m2.f ((k+1:Nat):Int)).length<=n:=by have:=qy (p:=λa=>decide (((k+1:Nat):Int)∈(nth m2.f.blocks a).term.to)) (x:=λa=>(a:Int)) m2.f.blocks.length;unfold cD;rw[show m2.f.blocks.length=n from q2.z.len]at this ⊢;exact this
  have hpr : ∀j,j<(cD m2.f ((k+1:Nat):Int)).length->∃c:Nat,nth (cD m2.f ((k+1:Nat):Int)) j=c/\c<n:=λj hj=>by obtain⟨c,h1,h2⟩:=BJ _ j hj;exact⟨c,h1,by rw[show m2.f.blocks.length=n from q2.z.len]at h2;exact h2⟩
  generalize cD m2.f ((k+1:Nat):Int)=pl at sq hpl hpr hK2;obtain⟨r0,r1⟩:=hr (k+1);subst hy;refine aa λy hy=>?_;simp;subst hy;refine GC (vr:=vr) (vt:=vt) (vp:=vp) (vd:=vd) (vq:=vq) (b:=k+1) (cnt:=(nth lp (k+1)).toNat) x3 h5 f71 f72 q2 pc2 hlp R3 R3 R3 R3 R3 R3 hp R3 sq R3 hpr (by simp[bF,af,ag]) λh4 x4=>?_;simp;refine hK2 () _ _ rfl rfl (x4.up hW3)
 rintro _ h2 x2;have e:n-1+1=n:=by omega
 have:=hQ h2 x2;simpa[e]using this
variable{to:List (List Int)}
theorem Dw{a p:Nat}{x0:BL × MS}(q:B2 n a p x0)(hn:n<=10)(hp:p<=100)(ha:16000<=a): ∀j,j<=n->B2 n (a+600*j) p (up (cR s to n) j x0):=by
 intro j;induction j with
 | zero=>intro _;exact q
 | succ j ih=>intro hj;have:=sy (s:=s) (to:=to) (b:=j) (ih R3) R3 hn hp R3 λh=>rh h;exact⟨this.z.mono R3 (NO _) (NO _),this.len,this.none⟩
theorem Js{a p:Nat}{x0:BL × MS}(q:B2 n a p x0)(hn:n<=10)(hp:p<=100)(ha:16000<=a)(j:Nat):B2 n (a+600*n*j) p (up (λ_=>up (cR s to n) n) j x0):=by
 induction j with
 | zero=>exact q
 | succ j ih=>have:=Dw (s:=s) (to:=to) ih hn hp R3 n (NO _);exact⟨this.z.mono (by rw[QX];omega) (NO _) (NO _),this.len,this.none⟩
theorem IW{a p:Nat}{vr vt vp vd:Value}{x0:BL × MS}(x:Nx s M vs W0 h (o0.upd (6,0) (it T.bool vd x0.1)) x0.2)(hto:SlRd W0 vt to)(htl:to.length=n)(f7:o0 (7,0)=RK)(f90:o0 (9,0)=RK)(f91:o0 (9,1)=RK)(q:B2 n a p x0)(hn:n<=9)(hp:p<=100)(ha:16000<=a)(ha2:a<=30000){Q:Post}{ρ:Env}(h0:bF [2,3,4,5,7,11,12] ρ=[(2,vr),(3,RM (RJ ⟨M,0,RK⟩)),(4,RG RH n),(5,vt),(7,vp),(11,vd),(12,RG RH 0)])(hQ : ∀h':Heap,Nx s M vs W0 h' (o0.upd (6,0) (it T.bool vd (up (λ_=>up (cR s to n) n) n x0).1)) (up (λ_=>up (cR s to n) n) n x0).2->Q .normal [(2,vr),(3,RM (RJ ⟨M,0,RK⟩)),(4,RG RH n),(5,vt),(7,vp),(11,vd),(12,RG RH n)] h'):
  LC.wp RP (.block 6 (.loop L.au.l4)) Q ρ h:=by
 simp only[aU];refine bX [2,3,4,5,7,11,12] (fun(_:Unit) j=>[vr,RM (RJ ⟨M,0,RK⟩),RG RH n,vt,vp,vd,RG RH j]) (λ_ j h2=>Nx s M vs W0 h2 (o0.upd (6,0) (it T.bool vd (up (λ_=>up (cR s to n) n) j x0).1)) (up (λ_=>up (cR s to n) n) j x0).2) n ()
  rfl R3 h0 x (λ_ _=>rfl) (λv k h2 hk2 x2=>by simp) ?_ ?_
 ·rintro _ t h2 hlt x2 K2 hK2;have q2:=Js (s:=s) (to:=to) q R3 hp ha t;have hbd:600*n*t<=5400*9:=P8 R3 R3;have e2:up (λ_=>up (cR s to n) n) (t+1) x0=up (cR s to n) n (up (λ_=>up (cR s to n) n) t x0):=rfl;rw[e2]at hK2;generalize up (λ_=>up (cR s to n) n) t x0=y at x2 hK2 q2;simp only[aU];refine aa λy hy=>?_;simp;subst hy;refine Jh (vr:=vr) (vt:=vt) (vp:=vp) (vd:=vd) (t:=t) x2 hto htl f7 f90 f91 q2 R3 hp R3 R3 (by simp[bF,af,ag]) λh3 x3=>?_;simp;exact hK2 () _ _ rfl rfl x3
 rintro _ h2 x2;exact hQ h2 x2
end
section
variable {s:List Int}
theorem lf:1<=bZ s/\bZ s<=9:=by have:=di (s:=s) (at_:=1) (n:=9) R4;unfold bZ;omega
theorem FL:((bZ s:Nat):Int)=1+aR s 1 9:=by have:=di (s:=s) (at_:=1) (n:=9) R4;unfold bZ;omega
theorem CI:(xa s).ok 4:=by have:=di (s:=s) (at_:=0) (n:=5) R4;refine⟨by show 2<=4;omega,by show 0<=aR s 0 5;omega,by show aR s 0 5<=_;omega,by show 0<=4;omega,λi=>?_⟩;show(nth ([]:List BlkD) i).ins.length<=4;rw[dp Sa];show 0<=4;omega
theorem Ae:TgK (bZ s) 112 (ju s):=by
 obtain⟨h1,h2⟩:=lf (s:=s);have k1:TgK (bZ s) 4 (List.replicate (bZ s) [],xa s):=⟨by simp,λi=>by
  rcases NQ i (bZ s)with hi | hi
  ·rw[aI hi];show 0<=4;omega
  rw[dp (by simpa using hi)];show 0<=4;omega,CI⟩;exact(DC (s:=s) (Ak (s:=s) k1 (bZ s-1)) (bZ s)).mono R3
def sk (m m':MS):Prop:=m'.ps=m.ps/\m'.blocks=m.blocks/\m'.next=m.next/\m'.live=m.live
theorem GF{m:MS}{k:Nat}{x:TgS}(h:sk m x.2):sk m (tgA s k x).2:=by unfold tgA;split<;>exact h
variable{n b:Nat}
theorem Gn{m:MS}{x:TgS}(h:sk m x.2):sk m (tgI s n b x).2:=by
 unfold tgI;simp only;repeat' split
 all_goals exact h
theorem HO{m:MS}{x:TgS}(h:sk m x.2):sk m (tgB s n b x).2:=
 ug (λx:TgS=>sk m x.2) (λ_ _ h=>Gn h) _ _ h
theorem xL:sk (xa s) (ju s).2:=
 ug (λx:TgS=>sk (xa s) x.2) (λ_ _ h=>HO h) _ _ (ug (λx:TgS=>sk (xa s) x.2) (λ_ _ h=>GF h) _ _ ⟨rfl,rfl,rfl,rfl⟩)
theorem Bu {m:MS} {a n:Nat} {to:List (List Int)} (z:Sz n a 0 0 m) (g:Gd m) (pc : ∀j,(nth m.blocks j).phis.length=0) (ht : ∀j,(nth to j).length<=1000) : ∀k,Sz n a 0 0 (up (λb m=>MS.mO m b (nth to b)) k m)/\Gd (up (λb m=>MS.mO m b (nth to b)) k m)
 | 0=>⟨z,g⟩
 | k+1=>by obtain⟨h1,h2⟩:=Bu z g pc ht k;exact⟨h1.gQ (h1.phis k) (h1.ins k),h2.mO (ht k)⟩
theorem uu{j:Nat}:(nth (List.replicate n tQ) j).phis.length=0/\(nth (List.replicate n tQ) j).ins.length=0:=by
 rcases NQ j n with hj | hj
 ·rw[aI hj];exact⟨rfl,rfl⟩
 rw[dp (by simpa using hj)];exact⟨rfl,rfl⟩
theorem A2:Sz (bZ s) 200 0 0 (tJ s)/\Gd (tJ s):=by
 have k:=Ae (s:=s);have e:=xL (s:=s);have t:=di (s:=s) (at_:=0) (n:=5) R4;refine Bu ⟨?_,?_,?_,?_,?_,?_,?_,λj=>?_,λj=>?_⟩ (λj hj=>?_) (λj=>(uu).1) (λj=>by have:=k.row j;omega) _
 ·show(ju s).2.at_<=200;have:=k.ok.at_;omega
 ·exact k.ok.n0
 ·show(ju s).2.next<=_;have:=k.ok.next;omega
 ·show(ju s).2.live.length<=200;have:=k.ok.live;omega
 ·show 0<=(ju s).2.ps;rw[e.1];show 0<=aR s 0 5;omega
 ·show(ju s).2.ps<=4;rw[e.1];show aR s 0 5<=4;omega
 ·show(List.replicate (bZ s) tQ).length=_;simp
 ·show(nth (List.replicate (bZ s) tQ) j).phis.length<=0;rw[(uu).1];omega
 ·show(nth (List.replicate (bZ s) tQ) j).ins.length<=0;rw[(uu).2];omega
 have hj:j<bZ s:=by simpa using hj
 show GdB (nth (List.replicate (bZ s) tQ) j);rw[aI hj];exact⟨λi h=>(by cases h),by show 0<=10;omega,by show 0<=1000;omega,λi h=>(by cases h)⟩
theorem qk {m:MS} {b:Nat} (hb:b<m.blocks.length) : ∀c j,(nth (up (λ_=>fB b) c m).blocks j).phis.length=(nth m.blocks j).phis.length+(if j=b then c else 0)/\(up (λ_=>fB b) c m).blocks.length=m.blocks.length
 | 0,j=>⟨by show(nth m.blocks j).phis.length=_;split<;>omega,rfl⟩
 | c+1,j=>by
  obtain⟨h1,h2⟩:=qk hb c j;obtain⟨h3,_⟩:=qk hb c b;have e:(up (λ_=>fB b) (c+1) m).blocks=(up (λ_=>fB b) c m).blocks.set b { nth (up (λ_=>fB b) c m).blocks b with phis:=(nth (up (λ_=>fB b) c m).blocks b).phis++[⟨(up (λ_=>fB b) c m).next,[]⟩] }:=rfl;rw[e];refine⟨?_,by rw[OH];exact h2⟩;rcases NQ j m.blocks.length with hl | hl
  ·rw[bN (by rw[h2];exact hl)];by_cases ej:b=j
   ·subst ej;rw[if_pos rfl,if_pos rfl];rw[if_pos rfl]at h3;show(_++[_]).length=_;rw[N1,h3,OC];omega
   rw[if_neg ej,if_neg (λq=>ej q.symm)];rw[if_neg (λq=>ej q.symm)]at h1;exact h1
  rw[dp (by rw[OH,h2];exact hl),dp hl,if_neg R3];rfl
theorem yO {n a:Nat} {x:List Int × MS} (p:Ph n a 0 x) (pc:Pc x.1 x.2) (g:Gd x.2) : ∀k,k<n->Pc (up (fE s) k x).1 (up (fE s) k x).2/\Gd (up (fE s) k x).2
 | 0,_=>⟨pc,g⟩
 | k+1,hk=>by
  obtain⟨h1,h2⟩:=yO p pc g k R3;have q:=AB (s:=s) p k;have e:up (fE s) (k+1) x=fE s k (up (fE s) k x):=rfl;rw[e];generalize up (fE s) k x=y at h1 h2 q;obtain⟨c0,c1⟩:=sI (s:=s) (m:=y.2) (b:=k+1);have hb:k+1<y.2.took.blocks.length:=by show k+1<y.2.blocks.length;rw[q.z.len];exact hk
  refine⟨λj=>?_,h2.took.qZ _⟩;have h3:=(qk hb (iP s y.2 (k+1)).toNat j).1;show((nth (up (λ_=>fB (k+1)) (iP s y.2 (k+1)).toNat y.2.took).blocks j).phis.length:Int)=nth (y.1.set (k+1) (iP s y.2 (k+1))) j;rw[h3];have h4:=h1 j;have h5:nth y.2.took.blocks j=nth y.2.blocks j:=rfl;rw[h5];rcases NQ j y.1.length with hl | hl
  ·rw[bN hl];by_cases ej:k+1=j
   ·subst ej;rw[if_pos rfl,if_pos rfl];rw[q.zero (k+1) R3]at h4;omega
   rw[if_neg ej,if_neg (λr=>ej r.symm)];omega
  have e1:nth (y.1.set (k+1) (iP s y.2 (k+1))) j=default:=dp (by simpa using hl);have e2:nth y.1 j=default:=dp hl;rw[e1];rw[e2]at h4;have:=q.len;rw[if_neg R3];omega
theorem tR:Ph (bZ s) 200 (bZ s-1) (kh s)/\Pc (kh s).1 (kh s).2/\Gd (kh s).2:=by
 obtain⟨h1,h2⟩:=lf (s:=s);obtain⟨z,g⟩:=A2 (s:=s);have hz : ∀j,nth (List.replicate (bZ s) (0:Int)) j=0:=λj=>by
  rcases NQ j (bZ s)with hj | hj
  ·rw[aI hj]
  rw[dp (by simpa using hj)];rfl
 have p0:Ph (bZ s) 200 0 (List.replicate (bZ s) (0:Int),tJ s):=⟨z,by simp,λj _=>hz j,λj=>by rw[hz];omega⟩;have pc:Pc (List.replicate (bZ s) (0:Int)) (tJ s):=λj=>by have:=z.phis j;rw[hz];omega
 obtain⟨q1,q2⟩:=yO (s:=s) p0 pc g (bZ s-1) R3;exact⟨AB p0 _,q1,q2⟩
theorem Gd.jF {to:List (List Int)} {n b:Nat} {dn:BL} {away:List BL} {m:MS} (g:Gd m) (ht:(nth to b).length<=1000):Gd (jF s to n dn away b m):=by have g1:Gd (MS.took { m with live:=nK m dn away b n }):=g;exact(Gd.jg g1 _).Mv ht
theorem Gd.cR {to:List (List Int)} {n b:Nat} {x:BL × MS} (g:Gd x.2) (ht:(nth to b).length<=1000):Gd (cR s to n b x).2:=by
 unfold Go.Proofs.YtnfiilgdjpdlkaaGreatDoor.cR;split
 ·exact g.jF ht
 exact g
structure M4 (n a p:Nat) (lp:List Int) (x:BL × MS):Prop where
 b2:B2 n a p x
 gd:Gd x.2
 pc:Pc lp x.2
theorem M4.step{to:List (List Int)}{n a p b:Nat}{lp:List Int}{x:BL × MS}(q:M4 n a p lp x)(hb:b<n)(hn:n<=10)(hp:p<=100)(ha:16000<=a)(ht : ∀j,(nth to j).length<=1000):M4 n (a+600) p lp (cR s to n b x):=
 ⟨sy q.b2 hb hn hp ha λh=>rh h,q.gd.cR (ht b),q.pc.cR (by rw[q.b2.z.len];exact hb)⟩
variable{to:List (List Int)}{lp:List Int}
theorem M4.blk{a p:Nat}{x:BL × MS}(q:M4 n a p lp x)(hn:n<=10)(hp:p<=100)(ha:16000<=a)(ht : ∀j,(nth to j).length<=1000)(k:Nat)(hk:k<=n):M4 n (a+600*k) p lp (up (Go.Proofs.YtnfiilgdjpdlkaaGreatDoor.cR s to n) k x):=by
 induction k with
 | zero=>exact q
 | succ k ih=>have:=(ih R3).step (s:=s) (to:=to) (b:=k) R3 hn hp R3 ht;exact⟨⟨this.b2.z.mono R3 (NO _) (NO _),this.b2.len,this.b2.none⟩,this.gd,this.pc⟩
theorem M4.turn{a p:Nat}{x:BL × MS}(q:M4 n a p lp x)(hn:n<=10)(hp:p<=100)(ha:16000<=a)(ht : ∀j,(nth to j).length<=1000)(k:Nat):M4 n (a+600*n*k) p lp (up (λ_=>up (Go.Proofs.YtnfiilgdjpdlkaaGreatDoor.cR s to n) n) k x):=by
 induction k with
 | zero=>exact q
 | succ k ih=>have:=ih.blk (s:=s) (to:=to) hn hp R3 ht n (NO _);exact⟨⟨this.b2.z.mono (by rw[QX];omega) (NO _) (NO _),this.b2.len,this.b2.none⟩,this.gd,this.pc⟩
theorem A1:B2 (bZ s) 16000 27 (List.replicate (bZ s) RO,(kh s).2):=by obtain⟨h1,h2⟩:=lf (s:=s);obtain⟨p,_,_⟩:=tR (s:=s);refine⟨p.z.mono R3 R3 R3,by simp,λj hj _=>?_⟩;have:=p.z.ins j;show(nth (kh s).2.blocks j).ins.length=0;omega
theorem Cm:P3 (bZ s) 70000 27 700 (zu s).2/\Pc (kh s).1 (zu s).2:=by
 obtain⟨h1,h2⟩:=lf (s:=s);obtain⟨p,pc,g⟩:=tR (s:=s);have ht : ∀j,(nth (ju s).1 j).length<=1000:=λj=>by have:=(Ae (s:=s)).row j;omega
 have q0:M4 (bZ s) 16000 27 (kh s).1 (List.replicate (bZ s) RO,(kh s).2):=⟨A1,g,pc⟩;have q:=q0.turn (s:=s) (to:=(ju s).1) R3 R3 R3 ht (bZ s);have hbd:600*bZ s*bZ s<=5400*9:=P8 R3 R3;exact⟨⟨q.b2.z.mono R3 (NO _) (NO _),q.gd⟩,q.pc⟩
theorem qC:P3 (bZ s) 72000 27 1000 (vR s):=by obtain⟨h1,h2⟩:=lf (s:=s);obtain⟨p,_,_⟩:=tR (s:=s);obtain⟨q,pc⟩:=Cm (s:=s);have:=(Au (s:=s) q pc (λj=>(p.rng j).2) h2 (bZ s-1)).1;exact this.mono R3 (NO _) R3
theorem JP:SmF (pM s):=(qC (s:=s)).g.smF (qC (s:=s)).z (by have:=lf (s:=s);omega) R3 R3
theorem Cl:0<=(pM s).params/\(pM s).params<=4:=⟨(qC (s:=s)).z.ps0,(qC (s:=s)).z.ps1⟩
end
section
variable {f:aq} {b i:Nat}
theorem CG:fh f (endT f b)=true:=by refine decide_eq_true ?_;show(((nth f.blocks b).ins.length:Nat):Int)=((nth f.blocks ((b:Nat):Int).toNat).ins.length:Nat);rw[Ow]
theorem D3(hi:i<(nth f.blocks b).ins.length):oG f (insT f b i)=RN/\fw f (insT f b i)=nth (nth f.blocks b).ins i:=by
 refine⟨(NS _ _).mpr ⟨decide_eq_true (Int.natCast_nonneg _),decide_eq_true ?_⟩,?_⟩
 ·show(i:Int)<((nth f.blocks ((b:Nat):Int).toNat).ins.length:Nat);rw[Ow];omega
 show nth (nth f.blocks ((b:Nat):Int).toNat).ins ((i:Nat):Int).toNat=_;rw[Ow,Ow]
theorem I6:eY f (endT f b)=nth f.blocks b:=by show nth f.blocks ((b:Nat):Int).toNat=_;rw[Ow]
theorem nD.insG(m:nD f)(hb:b<f.blocks.length)(hi:i<(nth f.blocks b).ins.length):zZ f (insT f b i)/\mc (nth (nth f.blocks b).ins i)=false:=by have g:=m.good _ (gC.2 ⟨b,hb,iZ.2 (.inr (.inl ⟨i,hi,rfl⟩))⟩);exact⟨g,by have:=g.op (D3 hi).1;rwa [(D3 hi).2]at this⟩
theorem nD.endG(m:nD f)(hb:b<f.blocks.length):kv (nth f.blocks b).term=RN/\∀n∈(nth f.blocks b).term.to,1<=n/\n<f.blocks.length:=by have g:=m.good _ (gC.2 ⟨b,hb,iZ.2 (.inr (.inr rfl))⟩);have h1:=g.term CG;have h2:=g.to CG;rw[I6]at h1 h2;exact⟨h1,h2⟩
end
section
variable {f g:aq} {n:Nat}
end
def lV (f:aq):Bool:=decide ((lJ f).1=0)
def dJ (f:aq) (b p pat temp:Int):Option FitD:=if dy f b p&&lV f then tryS (eK f b p temp) pat else RK
def fK (f:aq) (b p pat:Int):Option FitD:=if 1<=pat then dJ f b p pat 0 else RK
def wU:Option FitD->List Int | some x=>x.takes | none=>[]
def wO:Option FitD->List Int | some x=>x.inner | none=>[]
def AD:Option FitD->List aF | some x=>x.code | none=>[]
def Ec:Option FitD->EndD | some x=>x.fin | none=>cy
theorem gS{f:aq}{i:InsD}:i∈dM f↔∃b k,b<f.blocks.length/\k<(nth f.blocks b).ins.length/\i=nth (nth f.blocks b).ins k:=by
 unfold dM;rw[List.mem_flatMap];constructor
 ·rintro⟨x,hx,hi⟩;obtain⟨b,hb,rfl⟩:=N7 hx;obtain⟨k,hk,rfl⟩:=N7 hi;exact⟨b,k,hb,by rw[aA hb];exact hk,by rw[aA hb,aA hk]⟩
 rintro⟨b,k,hb,hk,rfl⟩;exact⟨_,bz hb,bz hk⟩
theorem wL{H:View}{v:Value}{f:aq}(h:Rd H v f): ∀i∈dM f,-2147483648<=i.imm.v/\i.imm.v<=2147483647:=by intro i hi;obtain⟨b,k,hb,hk,rfl⟩:=gS.1 hi;obtain⟨c1,c2,c3⟩:=fS h;unfold Rd at h;rw[if_pos (show Rep.agg aq=RN from rfl)]at h;obtain⟨cs,rfl,d1,d2,e,h1,h2⟩:=h;obtain⟨vb,rfl⟩:=uZ h2;have hs:=oY.1 h2;have h3:=((hs.at hb).part BlkD.jY).sl;obtain⟨vi,-,h4⟩:=h3;rw[<-aA hb]at h4;have:=((h4.at hk).part InsD.gx).mP;rw[aA hk];exact this
theorem wX{f:aq}(m:nD f)(hsm:SmF f): ∀i∈dM f,qT i:=by
 intro i hi;obtain⟨b,k,hb,hk,rfl⟩:=gS.1 hi;obtain⟨-,h⟩:=m.insG hb hk;have hm:=(hsm.blk b hb).inn k hk;generalize nth (nth f.blocks b).ins k=i at *;unfold mc at h;simp at h;obtain⟨⟨h1,h2⟩,h3⟩:=h;unfold lC at h3;refine⟨λho=>?_,λho=>?_,hm⟩
 ·rw[if_neg R3,if_neg R3,if_neg R3]at h3;simp at h3;omega
 rw[if_neg R3,if_pos R3]at h3;simp at h3;omega
variable{b:Nat}
theorem Bs{f:aq}(m:nD f)(hsm:SmF f)(hb:b<f.blocks.length):vx (nth f.blocks b).term:=by
 have h:=(m.endG hb).1;have s:=hsm.blk b hb;have s1:=s.args;have s2:=s.to;generalize (nth f.blocks b).term=t at *;refine⟨λho=>?_,s1,s2⟩;unfold kv at h;rcases ho with ho | ho
 ·rw[if_neg R3,if_pos ho]at h;simp at h;omega
 rw[if_neg R3,if_neg R3,if_pos ho]at h;simp at h;omega
theorem Ht:qT eV:=⟨λh=>by simp[eV]at h,λh=>by simp[eV]at h,by simp[eV]⟩
variable{temp:Int}
theorem Bj{f:aq}{b p:Int}(m:nD f)(hsm:SmF f)(hr : ∀i∈dM f,-2147483648<=i.imm.v/\i.imm.v<=2147483647)(hp:dy f b p=RN):nz (eK f b p temp)/\vx (eK f b p temp).t/\((eK f b p temp).i=eV\/(eK f b p temp).i∈dM f)/\(eK f b p temp).f=f:=by
 simp[dy]at hp;obtain⟨⟨⟨g1,g2⟩,g3⟩,g4⟩:=hp;have hb:b.toNat<f.blocks.length:=by omega
 unfold eK;by_cases e:p=(nth f.blocks b.toNat).ins.length
 ·rw[if_pos e];exact⟨⟨hsm,wX m hsm,Ht,hr⟩,Bs m hsm hb,.inl rfl,rfl⟩
 rw[if_neg e];have hi:nth (nth f.blocks b.toNat).ins p.toNat∈dM f:=gS.2 ⟨_,_,hb,by omega,rfl⟩;exact⟨⟨hsm,wX m hsm,wX m hsm _ hi,hr⟩,⟨λh=>by simp[oT]at h,by simp[oT],by simp[oT]⟩,.inr hi,rfl⟩
variable{pat:Int}
theorem zR{f:aq}{v:Value}{b p:Int}{h:Heap}{W:View}(hW:W.le (vw h))(hv:Rd W v (eK f b p temp))(m:nD f)(hsm:SmF f)(hr : ∀i∈dM f,-2147483648<=i.imm.v/\i.imm.v<=2147483647)(hM : ∀i∈dM f,i.op=15\/i.op=16->lY)(hpl:dy f b p=RN)(hp:I64 pat):
  az RP 39 #[v,RG RH pat] h (λu h'=>bW W h h' u (tryS (eK f b p temp) pat)):=by
 obtain⟨h1,h2,h3,-⟩:=Bj (temp:=temp) m hsm hr hpl;refine KR hW hv (λ_=>h1) (λ_=>⟨h1,h2⟩) (λho=>?_) hp;rcases h3 with h3 | h3
 ·rw[h3]at ho;simp[eV]at ho
 exact hM _ h3 ho
theorem oB{f:aq}(h:lV f=RN):nD f:=KU (by simpa[lV]using h)
theorem Ci{f:aq}{v:Value}{b p:Int}{h:Heap}{W:View}(hW:W.le (vw h))(hv:Rd W v f)(hsm:SmF f)(hM : ∀i∈dM f,i.op=15\/i.op=16->lY)(hp:I64 pat):
  az RP 15 #[v,RG RH b,RG RH p,RG RH pat] h (λu h'=>(vw h).le (vw h')/\∃v1 v2,u = .tuple #[v1,v2,.bool (fK f b p pat).isSome]/\SlRd (vw h') v1 (wU (fK f b p pat))/\SlRd (vw h') v2 (wO (fK f b p pat))):=by
 refine ao (args:=[v,RG RH b,RG RH p,RG RH pat]) follows Tryz.func15 E.pn RB λK hK=>?_;dsimp only[L.pn,lkF,lkG];have c0:=Cx.start hW;refine aa λz hz=>?_;simp;refine c0.cu rfl hv λB h1 W1 hW1 c1 at1 hle1=>?_;subst hz;obtain⟨uf,huf,ruf⟩:=at1.ldN rfl (N:=2) rfl;have hr:=wL hv;refine aa λz hz=>?_;simp[huf _ c1.wle];refine ah R1 (Iu c1.wle ruf (by constructor<;>decide)) ?_;rintro _ h2 ⟨hle2,vs,rfl,hvs⟩;have c2:=c1.ext hle2;have hW2:=c1.up (h':=h2);simp;refine c2.dA (α:=cn) hvs (n:=13) (z:=.agg pS.toArray) R1 rfl rfl R1 R5 R5 λB2 h3 W3 hW3 c3 at3 hle3=>?_;subst hz;have huf3:=huf _ (RE hW2 (RE hW3 c3.wle));have ruf3:=ruf.mono (RE hW2 (RE hW3 c3.wle));have none_:fK f b p pat=RK->K (.tuple #[RL RK 0 0,RL RK 0 0,.bool RO]) h3:=λe=>hK _ _ ⟨c3.le0,_,_,by rw[e];rfl,by rw[e];exact aE,by rw[e];exact aE⟩;refine aa λz hz=>?_;cases hpl:dy f b p with
 | false=>
  have e:fK f b p pat=none:=by unfold fK dJ;rw[hpl];split<;>rfl
  simp;exact none_ e
 | true=>
  by_cases h1p:pat<1
  ·have e:fK f b p pat=none:=by unfold fK;rw[if_neg R3]
   simp[h1p];exact none_ e
  simp[h1p,huf3];refine ah R1 (yj ruf3 hsm) ?_;rintro _ h4 ⟨rfl,hle4⟩;have c4:=c3.ext hle4;have hW4:=c3.up (h':=h4);cases hrt:lV f with
  | false=>
   have e:fK f b p pat=none:=by unfold fK dJ;rw[hpl,hrt];split<;>rfl
   have hrt2:decide ((lJ f).1=0)=false:=hrt;simp[hrt2];exact hK _ _ ⟨c4.le0,_,_,by rw[e];rfl,by rw[e];exact aE,by rw[e];exact aE⟩
  | true=>
   have hrt2:decide ((lJ f).1=0)=true:=hrt;have m:=oB hrt;have e:fK f b p pat=tryS (eK f b p 0) pat:=by unfold fK dJ;rw[if_pos R3,hpl,hrt];rfl
   rw[e]at hK none_;have hpS:od f b p 0=eK f b p 0:=by unfold od;rw[hpl,if_pos rfl]
   rw[hpS]at at3;obtain⟨us,hus,rus⟩:=at3.ldN rfl (N:=13) rfl;have hus4:=hus _ (RE hW4 c4.wle);simp[hrt2];subst hz;refine aa λz hz=>?_;simp[hus4];refine ah R1 (zR c4.wle (rus.mono hW4) m hsm hr hM hpl hp) ?_;rintro _ h5 ⟨hle5,vf,x,rfl,hvf,hx⟩;have c5:=c4.ext hle5;simp;refine c5.dA (α:=FitD) hvf (n:=8) (z:=.agg fitZ.toArray) R1 rfl rfl R1 R5 R5 λB3 h6 W6 hW6 c6 at6 hle6=>?_;subst hz;refine aa λz hz=>?_;cases hq:tryS (eK f b p 0) pat with
   | none=>rw[hq]at hK;simp;exact hK _ _ ⟨c6.le0,_,_,rfl,aE,aE⟩
   | some y=>
    obtain rfl:=hx y hq;rw[hq]at hK;obtain⟨v1,k1,s1⟩:=((at6.mono c6.wle).part FitD.As).sl;obtain⟨v2,k2,s2⟩:=((at6.mono c6.wle).part FitD.Ej).sl;have k1:an (vw h6) ⟨B3,0,RK⟩=RJ v1:=by simpa using k1
    have k2:an (vw h6) ⟨B3,1,RK⟩=RJ v2:=by simpa using k2
    simp;subst hz;simp[k1,k2];exact hK _ _ ⟨c6.le0,_,_,rfl,s1,s2⟩
abbrev endZ:List Value:=[RG RH 0,RG RH 0,RG RH 0,RL RK 0 0,RG RI 0]
theorem oK{H:View}:Rd H (.agg endZ.toArray) cy:=by unfold Rd;rw[if_pos (show Rep.agg EndD=RN from rfl)];exact⟨_,rfl,gO Sa R4 aE⟩
theorem HN{f:aq}{v:Value}{b p:Int}{h:Heap}{W:View}(hW:W.le (vw h))(hv:Rd W v f)(hsm:SmF f)(hM : ∀i∈dM f,i.op=15\/i.op=16->lY)(hp:I64 pat)(htm:I64 temp):
  az RP 16 #[v,RG RH b,RG RH p,RG RH pat,RG RH temp] h (λu h'=>(vw h).le (vw h')/\∃v1 v2,u = .tuple #[v1,v2,.bool (dJ f b p pat temp).isSome]/\SlRd (grow W h h') v1 (AD (dJ f b p pat temp))/\Rd (grow W h h') v2 (Ec (dJ f b p pat temp))):=by
 refine ao (args:=[v,RG RH b,RG RH p,RG RH pat,RG RH temp]) follows Tryz.func16 E.rK RB λK hK=>?_;dsimp only[L.rK,lkF,lkG];have c0:=Cx.start hW;refine aa λz hz=>?_;simp;refine c0.cu rfl hv λB h1 W1 hW1 c1 at1 hle1=>?_;refine c1.bU (k:=(0,0)) (n:=4) (z:=.agg endZ.toArray) rfl R1 rfl R4 R8 λR h1' hle1' c1=>?_;subst hz;obtain⟨uf,huf,ruf⟩:=at1.ldN rfl (N:=2) rfl;have hr:=wL hv;refine aa λz hz=>?_;simp[huf _ c1.wle];refine ah R1 (Iu c1.wle ruf htm) ?_;rintro _ h2 ⟨hle2,vs,rfl,hvs⟩;have c2:=c1.ext hle2;have hW2:=c1.up (h':=h2);simp;refine c2.dA (α:=cn) hvs (n:=13) (z:=.agg pS.toArray) R1 rfl rfl R1 R5 R5 λB2 h3 W3 hW3 c3 at3 hle3=>?_;subst hz;have huf3:=huf _ (RE hW2 (RE hW3 c3.wle));have ruf3:=ruf.mono (RE hW2 (RE hW3 c3.wle));have none_ : ∀(hx:Heap) (Wx:View) (l9:List Value) (o:Own),dJ f b p pat temp=RK->Cx W h Wx hx o->Rd Wx (.agg l9.toArray) cy->K (.tuple #[RL RK 0 0,.agg l9.toArray,.bool RO]) hx:=λhx Wx l9 o e c r=>hK _ _ ⟨c.le0,_,_,by rw[e];rfl,by rw[e];exact aE,by rw[e];exact r.mono (c.old.le c.wle)⟩;refine aa λz hz=>?_;cases hpl:dy f b p with
 | false=>
  have e:dJ f b p pat temp=none:=by unfold dJ;rw[hpl];rfl
  simp;refine ak (t:=T.gA) (z:=.agg endZ.toArray) (places:=[(0,1),(1,1),(2,1),(3,1),(4,1)]) (vs:=[]) (cs:=endZ.toArray) R1 R1 Sa R1 ?_;refine c3.aK (k:=(0,0)) (n:=4) (l:=endZ) RA oK rfl rfl R1 rfl rfl λh9 l9 hl9 c9=>?_;have hall:=c9.all (k:=(0,0)) (n:=4) (l:=l9) (B:=R) (e:=T.gA) RA;simp at hall;simp[hall];exact none_ _ _ _ _ e c9 (hl9▸oK)
 | true=>
  simp[huf3];refine ah R1 (yj ruf3 hsm) ?_;rintro _ h4 ⟨rfl,hle4⟩;have c4:=c3.ext hle4;have hW4:=c3.up (h':=h4);cases hrt:lV f with
  | false=>
   have e:dJ f b p pat temp=none:=by unfold dJ;rw[hpl,hrt];rfl
   have hrt2:decide ((lJ f).1=0)=false:=hrt;simp[hrt2];refine ak (t:=T.gA) (z:=.agg endZ.toArray) (places:=[(0,1),(1,1),(2,1),(3,1),(4,1)]) (vs:=[]) (cs:=endZ.toArray) R1 R1 Sa R1 ?_;refine c4.aK (k:=(0,0)) (n:=4) (l:=endZ) RA oK rfl rfl R1 rfl rfl λh9 l9 hl9 c9=>?_;have hall:=c9.all (k:=(0,0)) (n:=4) (l:=l9) (B:=R) (e:=T.gA) RA;simp at hall;simp[hall];exact none_ _ _ _ _ e c9 (hl9▸oK)
  | true=>
   have hrt2:decide ((lJ f).1=0)=true:=hrt;have m:=oB hrt;have e:dJ f b p pat temp=tryS (eK f b p temp) pat:=by unfold dJ;rw[hpl,hrt];rfl
   rw[e]at hK none_;have hpS:od f b p temp=eK f b p temp:=by unfold od;rw[hpl,if_pos rfl]
   rw[hpS]at at3;obtain⟨us,hus,rus⟩:=at3.ldN rfl (N:=13) rfl;have hus4:=hus _ (RE hW4 c4.wle);simp[hrt2];subst hz;refine aa λz hz=>?_;simp[hus4];refine ah R1 (zR c4.wle (rus.mono hW4) m hsm hr hM hpl hp) ?_;rintro _ h5 ⟨hle5,vf,x,rfl,hvf,hx⟩;have c5:=c4.ext hle5;simp;refine c5.dA (α:=FitD) hvf (n:=8) (z:=.agg fitZ.toArray) R1 rfl rfl R1 R5 R5 λB3 h6 W6 hW6 c6 at6 hle6=>?_;subst hz;refine aa λz hz=>?_;cases hq:tryS (eK f b p temp) pat with
   | none=>simp;refine ak (t:=T.gA) (z:=.agg endZ.toArray) (places:=[(0,1),(1,1),(2,1),(3,1),(4,1)]) (vs:=[]) (cs:=endZ.toArray) R1 R1 Sa R1 ?_;refine c6.aK (k:=(0,0)) (n:=4) (l:=endZ) RA oK rfl rfl R1 rfl rfl λh9 l9 hl9 c9=>?_;have hall:=c9.all (k:=(0,0)) (n:=4) (l:=l9) (B:=R) (e:=T.gA) RA;simp at hall;simp[hall];exact none_ _ _ _ _ hq c9 (hl9▸oK)
   | some y=>
    obtain rfl:=hx y hq;rw[hq]at hK;obtain⟨v1,k1,s1⟩:=(at6.part FitD.Hk).sl;obtain⟨v2,k2,s2⟩:=(at6.part FitD.KD).ldN rfl (N:=5) rfl;have k1:an W6 ⟨B3,2,RK⟩=RJ v1:=by simpa using k1
    have k2:Un.ev W6 (.aZ 5) (RM (RJ ⟨B3,3,RK⟩))=RJ v2:=by simpa using k2 W6 RD
    simp;subst hz;refine aa λz hz=>?_;refine aH W6 c6.wle ?_;simp[k1,k2];refine c6.aK (k:=(0,0)) (n:=4) (l:=endZ) RA s2 rfl rfl R1 rfl rfl λh9 l9 hl9 c9=>?_;subst hz;have hall:=c9.all (k:=(0,0)) (n:=4) (l:=l9) (B:=R) (e:=T.gA) RA;simp at hall;simp[hall];exact hK _ _ ⟨c9.le0,_,_,rfl,s1.mono (c9.old.le c9.wle),hl9▸s2.mono (c9.old.le c9.wle)⟩
theorem D2{f:aq}{v:Value}{b p:Int}{h:Heap}{W:View}(hW:W.le (vw h))(hv:Rd W v f)(hsm:SmF f)(hM : ∀i∈dM f,i.op=15\/i.op=16->lY)(hp:I64 pat)(htm:I64 temp):
  az RP 16 #[v,RG RH b,RG RH p,RG RH pat,RG RH temp] h (λu h'=>(vw h).le (vw h')/\∃v1 v2,u = .tuple #[v1,v2,.bool (dJ f b p pat temp).isSome]/\SlRd (vw h') v1 (AD (dJ f b p pat temp))/\Rd (vw h') v2 (Ec (dJ f b p pat temp))):=
 (HN hW hv hsm hM hp htm).mono λ_ _ ⟨hle,v1,v2,e,s1,s2⟩=>⟨hle,v1,v2,e,s1.mono (gU (RE hW hle)),s2.mono (gU (RE hW hle))⟩
theorem AG{a b:ByteArray}{n:Bool}:Bn.ev (.eqS n) (.string a) (.string b)=RJ (.bool ((a.toList == b.toList) != n)):=rfl
end Go.Proofs.YtnfiilgdjpdlkaaGreatDoor
