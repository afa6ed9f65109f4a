/- A part of the proof: Mz, Na, Nb, Ta, Tb, Tc, Td, Th, Va, Vb, Vc, Nc, Da, Db, Dd, Ea. -/
import Derived.Test.YtbkdlhkoiagbbaaGreatZSOnce4
set_option linter.unusedSimpArgs false
set_option linter.unusedVariables false
namespace Go.Proofs.YtbkdlhkoiagbbaaGreat
open Go Go.Lft
section
variable {s:List Int} {M:Nat} {vs:Value} {W0:View} {h:Heap} {o0:Own} {m:MS}
variable{n b:Nat}{lp:List Int}
theorem DZ{a p i cnt:Nat}{vr vt vp vd vq:Value}{pl:List Int}(x:Nx s M vs W0 h o0 m)(h5:o0 (5,0)=it T.int vp lp)(f71:o0 (7,1)=none)(f72:o0 (7,2)=none)(q:P3 n a p i m)(pc:Pc lp m)(hlp:lp.length=n)(hb:b<n)(hcnt:nth lp b=cnt)(hc3:cnt≤3)(hn:n≤10)(ha:a≤400000)(hia:i≤a)(hp:p≤100)(hi:i≤1900)(hq:SlRd W0 vq pl)(hpl:pl.length≤9)(hpr : ∀k,k<pl.length→∃c:Nat,nth pl k=c∧c<n){Q:Post}{ρ:Env}(h0:bm [2,3,4,5,7,11,25,26,27] ρ=[(2,vr),(3,.pointer (some ⟨M,0,none⟩)),(4,.int .i64 n),(5,vt),(7,vp),(11,vd),(25,.int .i64 b),(26,vq),(27,.int .i64 0)])(hQ : ∀h':Heap,Nx s M vs W0 h' o0 (up (phi3 s b pl) cnt m)→Q .normal [(2,vr),(3,.pointer (some ⟨M,0,none⟩)),(4,.int .i64 n),(5,vt),(7,vp),(11,vd),(25,.int .i64 b),(26,vq),(27,.int .i64 cnt)] h'):
  LC.wp Tryz.prog (.block 26 (.loop L.au.l14)) Q ρ h:=by
 simp only[aJ]
 refine bM [2,3,4,5,7,11,25,26,27] (fun(_:Unit) k=>[vr,.pointer (some ⟨M,0,none⟩),.int .i64 n,vt,vp,vd,.int .i64 b,vq,.int .i64 k]) (fun _ k h2=>Nx s M vs W0 h2 o0 (up (phi3 s b pl) k m)) cnt ()
  rfl (by omega) h0 x (fun _ _=>rfl) (fun v k h2 hk2 x2=>by
   have sp:=x2.z.at (by decide) h5
   have e:=sp.int (View.le_refl _) (i:=b) (by omega)
   rw[hcnt]at e
   simp(disch:=omega)[sp.idx1 rfl,e]) ?_ ?_
 ·rintro _ k h2 hlt x2 K2 hK2
  have hpn : ∀j,j<pl.length→(nth pl j).toNat<m.blocks.length:=fun j hj=>by
   obtain⟨c,h1,h2⟩:=hpr j hj
   rw[h1,q.z.len];simpa using h2
  have q2:=(mc (s:=s) (b:=b) q hpl k).mono (a':=a+200) (p':=p) (i':=i+30) (by omega) (Nat.le_refl _) (by omega)
  obtain⟨pc2,hlen2⟩:=Pc.mc (s:=s) (b:=b) pc hpn k
  have e2:up (phi3 s b pl) (k+1) m=phi3 s b pl k (up (phi3 s b pl) k m):=rfl
  rw[e2]at hK2
  generalize up (phi3 s b pl) k m=m2 at x2 hK2 q2 pc2 hlen2
  have hpn2 : ∀j,j<pl.length→(nth pl j).toNat<m2.blocks.length:=fun j hj=>by rw[hlen2];exact hpn j hj
  obtain⟨pc3,hlen3⟩:=Pc.jz (s:=s) (pl:=pl) (x:=([],m2)) pc2 hpn2 pl.length (Nat.le_refl _)
  simp only[aJ]
  refine aa fun y hy=>?_
  simp
  refine x2.jn (k:=(7,2)) (α:=InD) (by decide) f72 El.iK fun vi h3 hvi x3=>?_
  rw[hy];clear hy y
  refine aa fun y hy=>?_
  refine aa fun w hw=>?_
  simp
  rw[hw];clear hw w
  refine DU (vr:=vr) (vt:=vt) (vp:=vp) (vd:=vd) (vq:=vq) (vi:=vi) (b:=b) (j:=k) x3 f71 q2 hn (by omega) (by omega) hp (by omega) hq hpl hpr (by simp[bm,aj,al]) fun h4 vi x4=>?_
  obtain⟨W4,hW4,x4,s4⟩:=x4.freeze (by decide) f72
  have e3:phi3 s b pl k m2=(up (bH s pl) pl.length ([],m2)).2.iC b k (up (bH s pl) pl.length ([],m2)).1:=rfl
  rw[e3]at hK2
  have hb4:b<(up (bH s pl) pl.length ([],m2)).2.blocks.length:=by rw[hlen3];show b<m2.blocks.length;rw[hlen2,q.z.len];exact hb
  have hph:((nth (up (bH s pl) pl.length ([],m2)).2.blocks b).phis.length:Int)=cnt:=(pc3 b).trans hcnt
  generalize up (bH s pl) pl.length ([],m2)=r at x4 hK2 s4 hb4 hph
  obtain⟨W,o,g,w,f⟩:=x4
  obtain⟨vb,vl,lb,bb⟩:=w.box
  have rd:=w.reads bb
  have hbb:b<lb.length:=by rw[bb.len];exact hb4
  have sb:=w.own.now bb.blk
  have sbb:=sb.bound
  have c1:an (vw h4) (((slA vb).add (b*6)).add 0)=some (nth lb b).phis.v:=by
   have:=((sb.at hbb).part BlkM.mD).raw
   rw[ak hbb];exact this
  have sph:=w.own.now (bb.phis b hb4)
  simp
  rw[hy];clear hy y
  have r5:Bn.ev (.idx 2) (nth lb b).phis.v (.int .i64 k)=some (.pointer (some ((slA (nth lb b).phis.v).add (k*2)))):=by
   have:=sph.idxn (N:=2) rfl (k:=.i64) (i:=k) (by omega) (by omega);simpa using this
  simp(disch:=omega)[rd.cb,sb.idxn (N:=6) rfl,c1,r5]
  refine w.IF bb (b:=b) (i:=k) (l:=r.1) hb4 (by omega) (by kernel_rfl) rfl rfl (s4.mono g) fun h5 o5 w5 f5=>?_
  refine hK2 () _ _ rfl rfl ?_
  exact⟨W,o5,View.le_trans hW4 g,w5,fun q hq=>(f5 q hq).trans (f q hq)⟩
 ·rintro _ h2 x2
  exact hQ h2 x2
theorem Fg{a p i k:Nat}{m:MS}(q:P3 n a p i m)(pc:Pc lp m)(hr : ∀j,nth lp j≤3)(hn:n≤9):P3 n (a+162) p (i+27) (blk3 s lp k m)∧Pc lp (blk3 s lp k m):=by
 have hpl:(aw m.f ((k+1:Nat):Int)).length≤n:=by
  have:=fH (p:=fun a=>decide (((k+1:Nat):Int)∈(nth m.f.blocks a).term.to)) (x:=fun a=>(a:Int)) m.f.blocks.length
  rw[show m.f.blocks.length=n from q.z.len]at this
  unfold aw
  rw[show m.f.blocks.length=n from q.z.len]
  exact this
 have hpn : ∀j,j<(aw m.f ((k+1:Nat):Int)).length→(nth (aw m.f ((k+1:Nat):Int)) j).toNat<m.blocks.length:=fun j hj=>by
  obtain⟨c,h1,h2⟩:=sR _ j hj
  have h1:nth (aw m.f ((k+1:Nat):Int)) j=c:=h1
  rw[h1];have h2:c<m.blocks.length:=h2;simpa using h2
 have h3:=hr (k+1)
 unfold blk3
 exact⟨(mc q (by omega) _).mono (by omega) (Nat.le_refl _) (by omega),(Pc.mc pc hpn _).1⟩
theorem xt {n a p i:Nat} {lp:List Int} {m:MS} (q:P3 n a p i m) (pc:Pc lp m) (hr : ∀j,nth lp j≤3) (hn:n≤9) : ∀k,P3 n (a+162*k) p (i+27*k) (up (blk3 s lp) k m)∧Pc lp (up (blk3 s lp) k m)
 | 0=>⟨q,pc⟩
 | k+1=>by
  obtain⟨h1,h2⟩:=xt q pc hr hn k
  obtain⟨h3,h4⟩:=Fg (s:=s) (k:=k) h1 h2 hr hn
  exact⟨h3.mono (by omega) (Nat.le_refl _) (by omega),h4⟩
theorem EM{a p i:Nat}{vr vt vp vd:Value}(x:Nx s M vs W0 h o0 m)(h5:o0 (5,0)=it T.int vp lp)(f71:o0 (7,1)=none)(f72:o0 (7,2)=none)(q:P3 n a p i m)(pc:Pc lp m)(hlp:lp.length=n)(hr : ∀j,0≤nth lp j∧nth lp j≤3)(hn1:1≤n)(hn:n≤9)(ha:a≤300000)(hia:i≤a)(hp:p≤100)(hi:i≤1000){Q:Post}{ρ:Env}(h0:bm [2,3,4,5,7,11,25] ρ=[(2,vr),(3,.pointer (some ⟨M,0,none⟩)),(4,.int .i64 n),(5,vt),(7,vp),(11,vd),(25,.int .i64 1)])(hQ : ∀h':Heap,Nx s M vs W0 h' o0 (up (blk3 s lp) (n-1) m)→Q .normal [(2,vr),(3,.pointer (some ⟨M,0,none⟩)),(4,.int .i64 n),(5,vt),(7,vp),(11,vd),(25,.int .i64 n)] h'):
  LC.wp Tryz.prog (.block 24 (.loop L.au.l13)) Q ρ h:=by
 simp only[aJ]
 refine ud [2,3,4,5,7,11,25] (fun(_:Unit) k=>[vr,.pointer (some ⟨M,0,none⟩),.int .i64 n,vt,vp,vd,.int .i64 ((k+1:Nat):Int)]) (fun _ k h2=>Nx s M vs W0 h2 o0 (up (blk3 s lp) k m)) (n-1) 1 ()
  rfl (by omega) h0 x (fun _ _=>rfl) (fun v k h2 hk2 m=>by simp;omega) ?_ ?_
 ·rintro _ k h2 hlt x2 K2 hK2
  obtain⟨q2,pc2⟩:=xt (s:=s) q pc (fun j=>(hr j).2) hn k
  have e2:up (blk3 s lp) (k+1) m=blk3 s lp k (up (blk3 s lp) k m):=rfl
  rw[e2]at hK2
  generalize up (blk3 s lp) k m=m2 at x2 hK2 q2 pc2
  have hb2:blk3 s lp k m2=_:=blk3.eq_1 s lp k m2
  rw[hb2]at hK2
  simp only[aJ]
  refine aa fun y hy=>?_
  obtain⟨vb,vl,rd⟩:=x2.z.reads
  simp[rd.f]
  refine af (by kernel_rfl) (rO (b:=((k+1:Nat):Int)) (rd.rd (Ep q2.z)) (by show m2.blocks.length≤_;rw[q2.z.len];omega)) ?_
  rintro vq h3 ⟨hle3,hq⟩
  obtain⟨W3,hW3,x3,sq⟩:=x2.II hle3 hq
  clear rd hq
  have hpl:(aw m2.f ((k+1:Nat):Int)).length≤n:=by
   have:=fH (p:=fun a=>decide (((k+1:Nat):Int)∈(nth m2.f.blocks a).term.to)) (x:=fun a=>(a:Int)) m2.f.blocks.length
   unfold aw
   rw[show m2.f.blocks.length=n from q2.z.len]at this ⊢
   exact this
  have hpr : ∀j,j<(aw m2.f ((k+1:Nat):Int)).length→∃c:Nat,nth (aw m2.f ((k+1:Nat):Int)) j=c∧c<n:=fun j hj=>by
   obtain⟨c,h1,h2⟩:=sR _ j hj
   exact⟨c,h1,by rw[show m2.f.blocks.length=n from q2.z.len]at h2;exact h2⟩
  generalize aw m2.f ((k+1:Nat):Int)=pl at sq hpl hpr hK2
  obtain⟨r0,r1⟩:=hr (k+1)
  rw[hy];clear hy y
  refine aa fun y hy=>?_
  simp
  rw[hy];clear hy y
  refine DZ (vr:=vr) (vt:=vt) (vp:=vp) (vd:=vd) (vq:=vq) (b:=k+1) (cnt:=(nth lp (k+1)).toNat) x3 h5 f71 f72 q2 pc2 hlp (by omega) (by omega) (by omega) (by omega) (by omega) (by omega) hp (by omega) sq (by omega) hpr (by simp[bm,aj,al]) fun h4 x4=>?_
  simp
  refine hK2 () _ _ rfl rfl (x4.up hW3)
 ·rintro _ h2 x2
  have e:n-1+1=n:=by omega
  have:=hQ h2 x2
  simpa[e]using this
variable{to:List (List Int)}
theorem zS{a p:Nat}{x0:BL × MS}(q:B2 n a p x0)(hn:n≤10)(hp:p≤100)(ha:16000≤a): ∀j,j≤n→B2 n (a+600*j) p (up (aK s to n) j x0):=by
 intro j
 induction j with
 | zero=>intro _;exact q
 | succ j ih=>
  intro hj
  have:=p8 (s:=s) (to:=to) (b:=j) (ih (by omega)) (by omega) hn hp (by omega) fun h=>lL h
  exact⟨this.z.mono (by omega) (Nat.le_refl _) (Nat.le_refl _),this.len,this.none⟩
theorem FV{a p:Nat}{x0:BL × MS}(q:B2 n a p x0)(hn:n≤10)(hp:p≤100)(ha:16000≤a)(j:Nat):B2 n (a+600*n*j) p (up (fun _=>up (aK s to n) n) j x0):=by
 induction j with
 | zero=>exact q
 | succ j ih=>
  have:=zS (s:=s) (to:=to) ih hn hp (by omega) n (Nat.le_refl _)
  exact⟨this.z.mono (by rw[Nat.mul_succ];omega) (Nat.le_refl _) (Nat.le_refl _),this.len,this.none⟩
theorem FL{a p:Nat}{vr vt vp vd:Value}{x0:BL × MS}(x:Nx s M vs W0 h (o0.upd (6,0) (it T.bool vd x0.1)) x0.2)(hto:SlRd W0 vt to)(htl:to.length=n)(f7:o0 (7,0)=none)(f90:o0 (9,0)=none)(f91:o0 (9,1)=none)(q:B2 n a p x0)(hn:n≤9)(hp:p≤100)(ha:16000≤a)(ha2:a≤30000){Q:Post}{ρ:Env}(h0:bm [2,3,4,5,7,11,12] ρ=[(2,vr),(3,.pointer (some ⟨M,0,none⟩)),(4,.int .i64 n),(5,vt),(7,vp),(11,vd),(12,.int .i64 0)])(hQ : ∀h':Heap,Nx s M vs W0 h' (o0.upd (6,0) (it T.bool vd (up (fun _=>up (aK s to n) n) n x0).1)) (up (fun _=>up (aK s to n) n) n x0).2→Q .normal [(2,vr),(3,.pointer (some ⟨M,0,none⟩)),(4,.int .i64 n),(5,vt),(7,vp),(11,vd),(12,.int .i64 n)] h'):
  LC.wp Tryz.prog (.block 6 (.loop L.au.l4)) Q ρ h:=by
 simp only[aJ]
 refine bM [2,3,4,5,7,11,12] (fun(_:Unit) j=>[vr,.pointer (some ⟨M,0,none⟩),.int .i64 n,vt,vp,vd,.int .i64 j]) (fun _ j h2=>Nx s M vs W0 h2 (o0.upd (6,0) (it T.bool vd (up (fun _=>up (aK s to n) n) j x0).1)) (up (fun _=>up (aK s to n) n) j x0).2) n ()
  rfl (by omega) h0 x (fun _ _=>rfl) (fun v k h2 hk2 x2=>by simp) ?_ ?_
 ·rintro _ t h2 hlt x2 K2 hK2
  have q2:=FV (s:=s) (to:=to) q (by omega) hp ha t
  have hbd:600*n*t≤5400*9:=Nat.mul_le_mul (by omega) (by omega)
  have e2:up (fun _=>up (aK s to n) n) (t+1) x0=up (aK s to n) n (up (fun _=>up (aK s to n) n) t x0):=rfl
  rw[e2]at hK2
  generalize up (fun _=>up (aK s to n) n) t x0=y at x2 hK2 q2
  simp only[aJ]
  refine aa fun y hy=>?_
  simp
  rw[hy];clear hy y
  refine Fe (vr:=vr) (vt:=vt) (vp:=vp) (vd:=vd) (t:=t) x2 hto htl f7 f90 f91 q2 (by omega) hp (by omega) (by omega) (by simp[bm,aj,al]) fun h3 x3=>?_
  simp
  exact hK2 () _ _ rfl rfl x3
 ·rintro _ h2 x2
  exact hQ h2 x2
end
section
variable {s:List Int}
theorem eu:1≤aE s∧aE s≤9:=by
 have:=bj (s:=s) (at_:=1) (n:=9) (by decide)
 unfold aE;omega
theorem Ca:((aE s:Nat):Int)=1+az s 1 9:=by
 have:=bj (s:=s) (at_:=1) (n:=9) (by decide)
 unfold aE;omega
theorem yB:(sg s).ok 4:=by
 have:=bj (s:=s) (at_:=0) (n:=5) (by decide)
 refine⟨by show 2≤4;omega,by show 0≤az s 0 5;omega,by show az s 0 5≤_;omega,by show 0≤4;omega,fun i=>?_⟩
 show(nth ([]:List BlkD) i).ins.length≤4
 rw[aV (by simp)]
 show 0≤4;omega
theorem wZ:TgK (aE s) 112 (eA s):=by
 obtain⟨h1,h2⟩:=eu (s:=s)
 have k1:TgK (aE s) 4 (List.replicate (aE s) [],sg s):=⟨by simp,fun i=>by
  rcases Nat.lt_or_ge i (aE s)with hi | hi
  ·rw[aq hi];show 0≤4;omega
  ·rw[aV (by simpa using hi)];show 0≤4;omega,yB⟩
 exact(Aq (s:=s) (xr (s:=s) k1 (aE s-1)) (aE s)).mono (by omega)
def oR (m m':MS):Prop:=m'.ps=m.ps∧m'.blocks=m.blocks∧m'.next=m.next∧m'.live=m.live
theorem E2{m:MS}{k:Nat}{x:TgS}(h:oR m x.2):oR m (tgA s k x).2:=by
 unfold tgA;split<;>exact h
variable{n b:Nat}
theorem DH{m:MS}{x:TgS}(h:oR m x.2):oR m (tgI s n b x).2:=by
 unfold tgI;simp only;repeat' split
 all_goals exact h
theorem E3{m:MS}{x:TgS}(h:oR m x.2):oR m (tgB s n b x).2:=
 qW (fun x:TgS=>oR m x.2) (fun _ _ h=>DH h) _ _ h
theorem pT:oR (sg s) (eA s).2:=
 qW (fun x:TgS=>oR (sg s) x.2) (fun _ _ h=>E3 h) _ _ (qW (fun x:TgS=>oR (sg s) x.2) (fun _ _ h=>E2 h) _ _ ⟨rfl,rfl,rfl,rfl⟩)
theorem yz {m:MS} {a n:Nat} {to:List (List Int)} (z:Sz n a 0 0 m) (g:Gd m) (pc : ∀j,(nth m.blocks j).phis.length=0) (ht : ∀j,(nth to j).length≤1000) : ∀k,Sz n a 0 0 (up (fun b m=>MS.fR m b (nth to b)) k m)∧Gd (up (fun b m=>MS.fR m b (nth to b)) k m)
 | 0=>⟨z,g⟩
 | k+1=>by
  obtain⟨h1,h2⟩:=yz z g pc ht k
  exact⟨h1.aU (h1.phis k) (h1.ins k),h2.fR (ht k)⟩
theorem qY{j:Nat}:(nth (List.replicate n nU) j).phis.length=0∧(nth (List.replicate n nU) j).ins.length=0:=by
 rcases Nat.lt_or_ge j n with hj | hj
 ·rw[aq hj];exact⟨rfl,rfl⟩
 ·rw[aV (by simpa using hj)];exact⟨rfl,rfl⟩
theorem zF:Sz (aE s) 200 0 0 (j0 s)∧Gd (j0 s):=by
 have k:=wZ (s:=s)
 have e:=pT (s:=s)
 have t:=bj (s:=s) (at_:=0) (n:=5) (by decide)
 refine yz ⟨?_,?_,?_,?_,?_,?_,?_,fun j=>?_,fun j=>?_⟩ (fun j hj=>?_) (fun j=>(qY).1) (fun j=>by have:=k.row j;omega) _
 ·show(eA s).2.at_≤200;have:=k.ok.at_;omega
 ·exact k.ok.n0
 ·show(eA s).2.next≤_;have:=k.ok.next;omega
 ·show(eA s).2.live.length≤200;have:=k.ok.live;omega
 ·show 0≤(eA s).2.ps;rw[e.1];show 0≤az s 0 5;omega
 ·show(eA s).2.ps≤4;rw[e.1];show az s 0 5≤4;omega
 ·show(List.replicate (aE s) nU).length=_;simp
 ·show(nth (List.replicate (aE s) nU) j).phis.length≤0;rw[(qY).1];omega
 ·show(nth (List.replicate (aE s) nU) j).ins.length≤0;rw[(qY).2];omega
 ·have hj:j<aE s:=by simpa using hj
  show GdB (nth (List.replicate (aE s) nU) j)
  rw[aq hj]
  exact⟨fun i h=>(by cases h),by show 0≤10;omega,by show 0≤1000;omega,fun i h=>(by cases h)⟩
theorem nO {m:MS} {b:Nat} (hb:b<m.blocks.length) : ∀c j,(nth (up (fun _=>cR b) c m).blocks j).phis.length=(nth m.blocks j).phis.length+(if j=b then c else 0)∧(up (fun _=>cR b) c m).blocks.length=m.blocks.length
 | 0,j=>⟨by show(nth m.blocks j).phis.length=_;split<;>omega,rfl⟩
 | c+1,j=>by
  obtain⟨h1,h2⟩:=nO hb c j
  obtain⟨h3,_⟩:=nO hb c b
  have e:(up (fun _=>cR b) (c+1) m).blocks=(up (fun _=>cR b) c m).blocks.set b { nth (up (fun _=>cR b) c m).blocks b with phis:=(nth (up (fun _=>cR b) c m).blocks b).phis++[⟨(up (fun _=>cR b) c m).next,[]⟩] }:=rfl
  rw[e]
  refine⟨?_,by rw[List.length_set];exact h2⟩
  rcases Nat.lt_or_ge j m.blocks.length with hl | hl
  ·rw[aH (by rw[h2];exact hl)]
   by_cases ej:b=j
   ·subst ej
    rw[if_pos rfl,if_pos rfl]
    rw[if_pos rfl]at h3
    show(_++[_]).length=_
    rw[List.length_append,h3,List.length_singleton];omega
   ·rw[if_neg ej,if_neg (fun q=>ej q.symm)]
    rw[if_neg (fun q=>ej q.symm)]at h1
    exact h1
  ·rw[aV (by rw[List.length_set,h2];exact hl),aV hl,if_neg (by omega)];rfl
theorem vZ {n a:Nat} {x:List Int × MS} (p:Ph n a 0 x) (pc:Pc x.1 x.2) (g:Gd x.2) : ∀k,k<n→Pc (up (dc s) k x).1 (up (dc s) k x).2∧Gd (up (dc s) k x).2
 | 0,_=>⟨pc,g⟩
 | k+1,hk=>by
  obtain⟨h1,h2⟩:=vZ p pc g k (by omega)
  have q:=xG (s:=s) p k
  have e:up (dc s) (k+1) x=dc s k (up (dc s) k x):=rfl
  rw[e]
  generalize up (dc s) k x=y at h1 h2 q
  obtain⟨c0,c1⟩:=me (s:=s) (m:=y.2) (b:=k+1)
  have hb:k+1<y.2.took.blocks.length:=by show k+1<y.2.blocks.length;rw[q.z.len];exact hk
  refine⟨fun j=>?_,h2.took.j9 _⟩
  have h3:=(nO hb (fW s y.2 (k+1)).toNat j).1
  show((nth (up (fun _=>cR (k+1)) (fW s y.2 (k+1)).toNat y.2.took).blocks j).phis.length:Int)=nth (y.1.set (k+1) (fW s y.2 (k+1))) j
  rw[h3]
  have h4:=h1 j
  have h5:nth y.2.took.blocks j=nth y.2.blocks j:=rfl
  rw[h5]
  rcases Nat.lt_or_ge j y.1.length with hl | hl
  ·rw[aH hl]
   by_cases ej:k+1=j
   ·subst ej
    rw[if_pos rfl,if_pos rfl]
    rw[q.zero (k+1) (by omega)]at h4
    omega
   ·rw[if_neg ej,if_neg (fun r=>ej r.symm)]
    omega
  ·have e1:nth (y.1.set (k+1) (fW s y.2 (k+1))) j=default:=aV (by simpa using hl)
   have e2:nth y.1 j=default:=aV hl
   rw[e1]
   rw[e2]at h4
   have:=q.len
   rw[if_neg (by omega)]
   omega
theorem nC:Ph (aE s) 200 (aE s-1) (fB s)∧Pc (fB s).1 (fB s).2∧Gd (fB s).2:=by
 obtain⟨h1,h2⟩:=eu (s:=s)
 obtain⟨z,g⟩:=zF (s:=s)
 have hz : ∀j,nth (List.replicate (aE s) (0:Int)) j=0:=fun j=>by
  rcases Nat.lt_or_ge j (aE s)with hj | hj
  ·rw[aq hj]
  ·rw[aV (by simpa using hj)];rfl
 have p0:Ph (aE s) 200 0 (List.replicate (aE s) (0:Int),j0 s):=⟨z,by simp,fun j _=>hz j,fun j=>by rw[hz];omega⟩
 have pc:Pc (List.replicate (aE s) (0:Int)) (j0 s):=fun j=>by
  have:=z.phis j
  rw[hz];omega
 obtain⟨q1,q2⟩:=vZ (s:=s) p0 pc g (aE s-1) (by omega)
 exact⟨xG p0 _,q1,q2⟩
theorem Gd.iz {to:List (List Int)} {n b:Nat} {dn:BL} {away:List BL} {m:MS} (g:Gd m) (ht:(nth to b).length≤1000):Gd (iz s to n dn away b m):=by
 have g1:Gd (MS.took { m with live:=j4 m dn away b n }):=g
 exact(Gd.eh g1 _).I0 ht
theorem Gd.aK {to:List (List Int)} {n b:Nat} {x:BL × MS} (g:Gd x.2) (ht:(nth to b).length≤1000):Gd (aK s to n b x).2:=by
 unfold Go.Proofs.YtbkdlhkoiagbbaaGreat.aK
 split
 ·exact g.iz ht
 ·exact g
structure M4 (n a p:Nat) (lp:List Int) (x:BL × MS):Prop where
 b2:B2 n a p x
 gd:Gd x.2
 pc:Pc lp x.2
theorem M4.step{to:List (List Int)}{n a p b:Nat}{lp:List Int}{x:BL × MS}(q:M4 n a p lp x)(hb:b<n)(hn:n≤10)(hp:p≤100)(ha:16000≤a)(ht : ∀j,(nth to j).length≤1000):M4 n (a+600) p lp (aK s to n b x):=
 ⟨p8 q.b2 hb hn hp ha fun h=>lL h,q.gd.aK (ht b),q.pc.aK (by rw[q.b2.z.len];exact hb)⟩
variable{to:List (List Int)}{lp:List Int}
theorem M4.blk{a p:Nat}{x:BL × MS}(q:M4 n a p lp x)(hn:n≤10)(hp:p≤100)(ha:16000≤a)(ht : ∀j,(nth to j).length≤1000)(k:Nat)(hk:k≤n):M4 n (a+600*k) p lp (up (Go.Proofs.YtbkdlhkoiagbbaaGreat.aK s to n) k x):=by
 induction k with
 | zero=>exact q
 | succ k ih=>
  have:=(ih (by omega)).step (s:=s) (to:=to) (b:=k) (by omega) hn hp (by omega) ht
  exact⟨⟨this.b2.z.mono (by omega) (Nat.le_refl _) (Nat.le_refl _),this.b2.len,this.b2.none⟩,this.gd,this.pc⟩
theorem M4.turn{a p:Nat}{x:BL × MS}(q:M4 n a p lp x)(hn:n≤10)(hp:p≤100)(ha:16000≤a)(ht : ∀j,(nth to j).length≤1000)(k:Nat):M4 n (a+600*n*k) p lp (up (fun _=>up (Go.Proofs.YtbkdlhkoiagbbaaGreat.aK s to n) n) k x):=by
 induction k with
 | zero=>exact q
 | succ k ih=>
  have:=ih.blk (s:=s) (to:=to) hn hp (by omega) ht n (Nat.le_refl _)
  exact⟨⟨this.b2.z.mono (by rw[Nat.mul_succ];omega) (Nat.le_refl _) (Nat.le_refl _),this.b2.len,this.b2.none⟩,this.gd,this.pc⟩
theorem y7:B2 (aE s) 16000 27 (List.replicate (aE s) false,(fB s).2):=by
 obtain⟨h1,h2⟩:=eu (s:=s)
 obtain⟨p,_,_⟩:=nC (s:=s)
 refine⟨p.z.mono (by omega) (by omega) (by omega),by simp,fun j hj _=>?_⟩
 have:=p.z.ins j
 show(nth (fB s).2.blocks j).ins.length=0;omega
theorem tU:P3 (aE s) 70000 27 700 (lQ s).2∧Pc (fB s).1 (lQ s).2:=by
 obtain⟨h1,h2⟩:=eu (s:=s)
 obtain⟨p,pc,g⟩:=nC (s:=s)
 have ht : ∀j,(nth (eA s).1 j).length≤1000:=fun j=>by have:=(wZ (s:=s)).row j;omega
 have q0:M4 (aE s) 16000 27 (fB s).1 (List.replicate (aE s) false,(fB s).2):=⟨y7,g,pc⟩
 have q:=q0.turn (s:=s) (to:=(eA s).1) (by omega) (by omega) (by omega) ht (aE s)
 have hbd:600*aE s*aE s≤5400*9:=Nat.mul_le_mul (by omega) (by omega)
 exact⟨⟨q.b2.z.mono (by omega) (Nat.le_refl _) (Nat.le_refl _),q.gd⟩,q.pc⟩
theorem lA:P3 (aE s) 72000 27 1000 (fS s):=by
 obtain⟨h1,h2⟩:=eu (s:=s)
 obtain⟨p,_,_⟩:=nC (s:=s)
 obtain⟨q,pc⟩:=tU (s:=s)
 have:=(xt (s:=s) q pc (fun j=>(p.rng j).2) h2 (aE s-1)).1
 exact this.mono (by omega) (Nat.le_refl _) (by omega)
theorem Fl:SmF (gU s):=(lA (s:=s)).g.smF (lA (s:=s)).z (by have:=eu (s:=s);omega) (by omega) (by omega)
theorem rJ:0≤(gU s).params∧(gU s).params≤4:=⟨(lA (s:=s)).z.ps0,(lA (s:=s)).z.ps1⟩
theorem zp:1≤(gU s).blocks.length∧(gU s).blocks.length≤9:=by
 have:=eu (s:=s)
 rw[show(gU s).blocks.length=aE s from(lA (s:=s)).z.len]
 exact this
end
section
variable {s:List Int} {M:Nat} {vs:Value} {W:View} {h:Heap} {o:Own} {m:MS}
theorem MkB.boxed{vb vl:Value}{lb:List BlkM}(bb:MkB M vs m o vb vl lb)(m':MS)(h1:m'.blocks=m.blocks)(h2:m'.live=m.live):MkB M vs m' (o.upd (0,0) (bx T.aT M (RawN.mk (n:=5) (mkL vs m'.at_ m'.ps vb m'.next vl)))) vb vl lb:=
 ⟨rfl,by rw[h2];exact bb.live,bb.blk,by rw[h1];exact bb.len,by rw[h1];exact bb.term,by rw[h1];exact fun i hi=>bb.phis i hi,by rw[h1];exact fun i hi=>bb.ins i hi⟩
end
def gQ (R:Nat) (i10:Own):Own:=fun k=>if k=(8,0) then bx T.aD R (RawN.mk (n:=1) [.int .i64 0,.slice none 0 0]) else if 10≤k.1 then i10 k else none
structure FnB (o:Own) (vb:Value) (lb:List BlkM) (f:ah):Prop where
 blk:o (0,2)=it T.aY vb lb
 len:lb.length=f.blocks.length
 term : ∀i,i<f.blocks.length→(nth lb i).term=(nth f.blocks i).term
 phis : ∀i,i<f.blocks.length→o (1,i)=it T.dG (nth lb i).phis.v (nth f.blocks i).phis
 ins : ∀i,i<f.blocks.length→o (2,i)=it T.dq (nth lb i).ins.v (nth f.blocks i).ins
theorem DC{H:View}{vb:Value}{lb:List BlkM}{f:ah}(h0:SlRd H vb lb)(hl:lb.length=f.blocks.length)(ht : ∀i,i<f.blocks.length→(nth lb i).term=(nth f.blocks i).term)(h1 : ∀i,i<f.blocks.length→SlRd H (nth lb i).phis.v (nth f.blocks i).phis)(h2 : ∀i,i<f.blocks.length→SlRd H (nth lb i).ins.v (nth f.blocks i).ins):SlRd H vb f.blocks:=by
 refine oh h0 rfl hl fun i g1 g2 cs hr=>?_
 have:=yI hr (p:=(nth f.blocks i).phis) (i:=(nth f.blocks i).ins) (by have:=h1 i g2;rwa [ak g1]at this) (by have:=h2 i g2;rwa [ak g1]at this)
 have ht:=ht i g2
 rw[ak g1]at ht
 rw[ht]at this
 rw[←ak g2]
 exact this
theorem FnB.rd{W:View}{h:Heap}{o:Own}{vb:Value}{lb:List BlkM}{f:ah}(b:FnB o vb lb f)(w:Owns W h o):SlRd (vw h) vb f.blocks:=
 DC (w.now b.blk) b.len b.term (fun i hi=>w.now (b.phis i hi)) fun i hi=>w.now (b.ins i hi)
theorem FnB.freeze{W:View}{h:Heap}{o o0:Own}{vb:Value}{lb:List BlkM}{f:ah}(b:FnB o vb lb f)(w:Owns W h o)(ho : ∀k:Key,3≤k.1→o k=o0 k)(ho0 : ∀k:Key,k.1<3→o0 k=none): ∃W',W.le W'∧Owns W' h o0∧SlRd W' vb f.blocks:=by
 obtain⟨W17,hW17,w17,fr⟩:=w.qZ (fun k=>decide (k.1<3))
 refine⟨W17,hW17,w17.sub fun k i hk=>?_,DC (fr (k:=(0,2)) (by simp) b.blk) b.len b.term (fun i hi=>fr (k:=(1,i)) (by simp) (b.phis i hi)) fun i hi=>fr (k:=(2,i)) (by simp) (b.ins i hi)⟩
 rcases Nat.lt_or_ge k.1 3 with e | e
 ·rw[ho0 k e]at hk;cases hk
 ·have h2:¬k.1<3:=by omega
  simp only[h2,decide_false,Bool.false_eq_true,if_false]
  rw[ho k e];exact hk
theorem EJ{s:List Int}{vs:Value}{h:Heap}{W:View}{o0:Own}(w0:Owns W h o0)(ho0 : ∀k:Key,k.1<10→o0 k=none)(hs:SlRd W vs s):
  aB Tryz.prog N.au #[vs] h (fun u h'=>∃W' o vb lb,W.le W'∧Owns W' h' o∧(∀k:Key,3≤k.1→o k=o0 k)∧FnB o vb lb (gU s)∧u = .agg #[.int .i64 (gU s).params,vb]):=by
 refine ao (args:=[vs]) follows F.au E.au (Nat.le_of_ble_eq_true (by kernel_rfl)) fun K hK=>?_
 have hs0:=hs
 obtain⟨sa,sc,rfl,_⟩:=hs0
 dsimp only[L.au]
 refine aa fun z hz=>?_
 simp
 refine w0.oq (k:=(8,0)) (n:=1) (z:=.agg #[.int .i64 0,.slice none 0 0]) (ho0 _ (by decide)) (by kernel_rfl) rfl (by decide) (by simp[Value.cells,Value.oneCell']) fun h1 q1 w1=>?_
 generalize h.size=R at w1
 rw[hz];clear hz z
 refine aa fun z hz=>?_
 simp
 refine aS (z:=.agg #[.slice none 0 0,.int .i64 0,.int .i64 0,.slice none 0 0,.int .i64 0,.slice none 0 0]) (places:=[(0,1),(1,1),(2,2),(4,1),(5,1)]) (vs:=[(0,.slice sa s.length sc)]) (cs:=#[.slice sa s.length sc,.int .i64 0,.int .i64 0,.slice none 0 0,.int .i64 0,.slice none 0 0]) (by kernel_rfl) (by kernel_rfl) (by simp) (by rfl) ?_
 generalize s.length=sl at hs
 refine ln rfl ?_
 have hbx:(h1.push (.cells (Value.agg #[.slice sa sl sc,.int .i64 0,.int .i64 0,.slice none 0 0,.int .i64 0,.slice none 0 0]).cells T.aT))[h1.size]? = some (.cells (Value.agg #[.slice sa sl sc,.int .i64 0,.int .i64 0,.slice none 0 0,.int .i64 0,.slice none 0 0]).cells T.aT (0,0)):=by simp
 have hle2:=bD h1 (.cells (Value.agg #[.slice sa sl sc,.int .i64 0,.int .i64 0,.slice none 0 0,.int .i64 0,.slice none 0 0]).cells T.aT)
 have hbg : ∀b,(Value.slice (some ⟨h1.size,0,none⟩) 1 1).ownBlock=some b→h1.size≤b:=fun b hb=>by simp only[Value.ownBlock,Option.some.injEq]at hb;omega
 show LC.wp Tryz.prog z _ _ (h1.push (.cells (Value.agg #[.slice sa sl sc,.int .i64 0,.int .i64 0,.slice none 0 0,.int .i64 0,.slice none 0 0]).cells T.aT))
 generalize h1.push (.cells (Value.agg #[.slice sa sl sc,.int .i64 0,.int .i64 0,.slice none 0 0,.int .i64 0,.slice none 0 0]).cells T.aT)=h2 at hbx hle2
 have w2:=w1.add (k:=(0,0)) ((Own.ab (by simp)).trans (ho0 _ (by decide))) (kz (W:=W) (d:=RawN.mk (n:=5) [.slice sa sl sc,.int .i64 0,.int .i64 0,.slice none 0 0,.int .i64 0,.slice none 0 0]) hbx (iM rfl (by simp[Value.oneCell'])) (by decide)) hle2 hbg
 generalize h1.size=M at w2
 generalize hvs:Value.slice sa sl sc=vs at hs w2
 obtain⟨m0,hm0⟩ : ∃m0:MS,m0=⟨0,0,[],0,[]⟩:=⟨_,rfl⟩
 obtain⟨o2,ho2⟩ : ∃o2:Own,o2=fun k=>if k=(0,0) then bx T.aT M (RawN.mk (n:=5) (mkL vs 0 0 (.slice none 0 0) 0 (.slice none 0 0))) else if k=(0,1) then it T.int (.slice none 0 0) ([]:List Int) else if k=(0,2) then it T.aY (.slice none 0 0) ([]:List BlkM) else gQ R o0 k:=⟨_,rfl⟩
 have w2:Owns W h2 o2:=w2.nils fun k i hk=>by
  rw[ho2]at hk
  dsimp only at hk
  split at hk
  ·rename_i e;rw[e];exact .inl hk
  ·rename_i e0
   split at hk
   ·cases hk;exact .inr ⟨rfl,OwnT.nil (α:=Int) _ _ _⟩
   ·split at hk
    ·cases hk;exact .inr ⟨rfl,OwnT.nil (α:=BlkM) _ _ _⟩
    ·refine .inl ?_
     rw[Own.ab e0]
     by_cases e8:k=(8,0)
     ·subst e8;exact hk
     ·rw[Own.ab e8]
      unfold gQ at hk;rw[if_neg e8]at hk
      split at hk
      ·exact hk
      ·cases hk
 have w2:Mk s M vs W h2 o2 m0:=⟨w2,hs,.slice none 0 0,.slice none 0 0,[],by rw[ho2,hm0];rfl,by rw[ho2,hm0];rfl,by rw[ho2];rfl,by rw[hm0];rfl,fun i hi=>by rw[hm0]at hi;simp at hi,fun i hi=>by rw[hm0]at hi;simp at hi,fun i hi=>by rw[hm0]at hi;simp at hi⟩
 have f2 : ∀k:Key,3≤k.1→o2 k=gQ R o0 k:=fun k hk=>by
  rw[ho2]
  dsimp only
  rw[if_neg (by rintro rfl;simp at hk),if_neg (by rintro rfl;simp at hk),if_neg (by rintro rfl;simp at hk)]
 clear w1 hbx hbg hle2 q1 ho2
 rw[hz];clear hz z
 refine aa fun z hz=>?_
 simp
 refine af (by kernel_rfl) (w2.take (by rw[hm0];decide) (n:=5) (by decide) (by decide)) ?_
 rintro _ h3 ⟨rfl,o3,w3,f3⟩
 have tv:=bj (s:=s) (at_:=m0.at_) (n:=5) (by decide)
 obtain⟨vb,vl,lb,bb⟩:=w3.box
 refine w3.own.cI (k:=(0,0)) (n:=5) (i:=2) (e:=T.aT) (B:=M) (l:=mkL vs m0.took.at_ m0.took.ps vb m0.took.next vl) bb.box (by decide) (by kernel_rfl) rfl rfl rfl fun h4 w4 _=>?_
 have b4:=bb.boxed ⟨m0.took.at_,az s m0.at_ 5,m0.took.blocks,m0.took.next,m0.took.live⟩ rfl rfl
 rw[hz];clear hz z
 refine aa fun z hz=>?_
 have w4:Mk s M vs W h4 _ _:=⟨w4,w3.src,vb,vl,lb,b4⟩
 have rd:=w4.reads b4
 simp[rd.ps]
 refine w4.own.cI (k:=(0,0)) (n:=5) (i:=4) (e:=T.aT) (B:=M) (l:=mkL vs m0.took.at_ (az s m0.at_ 5) vb m0.took.next vl) b4.box (by decide) (by kernel_rfl) rfl rfl rfl fun h5 w5 _=>?_
 have b5:=b4.boxed ⟨m0.took.at_,az s m0.at_ 5,m0.took.blocks,az s m0.at_ 5,m0.took.live⟩ rfl rfl
 have w5:Mk s M vs W h5 _ _:=⟨w5,w3.src,vb,vl,lb,b5⟩
 obtain⟨o5,ho5⟩ : ∃o5,o5=(o3.upd (0,0) (bx T.aT M (RawN.mk (n:=5) (mkL vs m0.took.at_ (az s m0.at_ 5) vb m0.took.next vl)))).upd (0,0) (bx T.aT M (RawN.mk (n:=5) (mkL vs m0.took.at_ (az s m0.at_ 5) vb (az s m0.at_ 5) vl))):=⟨_,rfl⟩
 have f5 : ∀k:Key,3≤k.1→o5 k=gQ R o0 k:=fun k hk=>by
  rw[ho5,Own.ab (by rintro rfl;simp at hk),Own.ab (by rintro rfl;simp at hk),f3 k hk,f2 k hk]
 rw[hm0]at w5
 have w5:Mk s M vs W h5 o5 ⟨1,az s 0 5,[],az s 0 5,[]⟩:=by rw[ho5,hm0];exact w5
 clear b5 b4 rd w4 bb w3 f3 w2 f2 ho5 hvs
 rw[hz];clear hz z
 refine aa fun z hz=>?_
 simp
 refine af (by kernel_rfl) (w5.take (show 1≤_ by omega) (n:=9) (by decide) (by decide)) ?_
 rintro _ h6 ⟨rfl,o6,w6,f6⟩
 have w6:Mk s M vs W h6 o6 (sg s):=w6
 have f6 : ∀k:Key,3≤k.1→o6 k=gQ R o0 k:=fun k hk=>(f6 k hk).trans (f5 k hk)
 clear w5 f5
 have hN:=Ca (s:=s)
 obtain⟨n1,n2⟩:=eu (s:=s)
 have hw:IntKind.i64.wrap (1+az s 1 9)=(aE s:Nat):=by rw[hN];exact bN (by omega) (by omega)
 simp[hw]
 rw[hz];clear hz z
 refine aa fun z hz=>?_
 simp
 refine af (by kernel_rfl) (AK (ri:=gQ R o0) w6 (fun k hk=>f6 k (by omega)) (fun k h1 h2=>(f6 k h1).trans (by unfold gQ;rw[if_neg (by rintro rfl;simp at h2),if_neg (by omega)])) (n:=aE s) yB (by omega) n1 (by omega)) ?_
 rintro vt h7 ⟨W7,o7,g7,w7,r7,e7,st⟩
 have w7:Mk s M vs W7 h7 o7 (eA s).2:=w7
 have st:SlRd W7 vt (eA s).1:=st
 have f7 : ∀k:Key,3≤k.1→o7 k=gQ R o0 k:=fun k hk=>by
  by_cases e:8≤k.1
  ·exact r7 k e
  ·rw[e7 k hk (by omega)];unfold gQ;rw[if_neg (by rintro rfl;simp at e),if_neg (by omega)]
 clear r7 e7 w6 f6
 have k1:=wZ (s:=s)
 have s4:=pT (s:=s)
 rw[hz];clear hz z
 refine aa fun z hz=>?_
 simp
 refine mH (α:=BlkM) (W:=W7) (k:=.i64) (n:=aE s) (d:=⟨⟨.slice none 0 0⟩,⟨.slice none 0 0⟩,⟨0,[],[],⟨0⟩⟩⟩) El.iV (by rfl) (by rfl) ⟨[.slice none 0 0],_,rfl,⟨rfl,rfl⟩,[.slice none 0 0],_,rfl,⟨rfl,rfl⟩,[.int .i64 0],_,rfl,⟨rfl,by decide,by decide⟩,[.slice none 0 0],_,rfl,⟨_,rfl,gk⟩,[.slice none 0 0],_,rfl,⟨_,rfl,gk⟩,rfl,by decide,by decide⟩ (by omega) (by omega) fun vb8 h8 ob8 m8 hle8 hb8=>?_
 obtain⟨vb,vl,lb,bb⟩:=w7.box
 have wa:=w7.own.sub (o':=o7.upd (0,2) none) fun j i hj=>by
  unfold Own.upd at hj
  split at hj
  ·cases hj
  ·exact hj
 have wb:=wa.add (k:=(0,2)) Own.ag ob8 hle8 (fun b hb=>by rw[hb8]at hb;cases hb;exact Nat.le_refl _)
 have hv8:=(wb.cells (k:=(0,2)) Own.ag).2
 obtain⟨o8,ho8⟩ : ∃o8:Own,o8=fun k=>if k.1=1∧k.2<aE s then it T.dG (.slice none 0 0) ([]:List PhiD) else if k.1=2∧k.2<aE s then it T.dq (.slice none 0 0) ([]:List InsD) else o7.upd (0,2) (it T.aY vb8 (List.replicate (aE s) (BlkM.mk ⟨.slice none 0 0⟩ ⟨.slice none 0 0⟩ ⟨0,[],[],⟨0⟩⟩))) k:=⟨_,rfl⟩
 have w8:Owns W7 h8 o8:=wb.nils fun k i hk=>by
  rw[ho8]at hk
  dsimp only at hk
  split at hk
  ·cases hk;exact .inr ⟨rfl,OwnT.nil (α:=PhiD) _ _ _⟩
  ·split at hk
   ·cases hk;exact .inr ⟨rfl,OwnT.nil (α:=InsD) _ _ _⟩
   ·refine .inl ?_
    by_cases e:k=(0,2)
    ·subst e;rw[Own.ag]at hk ⊢;exact hk
    ·rw[Own.ab e]at hk;rw[Own.ab e,Own.ab e];exact hk
 have c8 : ∀k:Key,¬(k.1=1∧k.2<aE s)→¬(k.1=2∧k.2<aE s)→o8 k=o7.upd (0,2) (it T.aY vb8 (List.replicate (aE s) (BlkM.mk ⟨.slice none 0 0⟩ ⟨.slice none 0 0⟩ ⟨0,[],[],⟨0⟩⟩))) k:=fun k h1 h2=>by
  rw[ho8];dsimp only;rw[if_neg h1,if_neg h2]
 refine w8.cI (k:=(0,0)) (n:=5) (i:=3) (e:=T.aT) (B:=M) (l:=mkL vs (eA s).2.at_ (eA s).2.ps vb (eA s).2.next vl) (by rw[c8 _ (by simp) (by simp),Own.ab (by simp)];exact bb.box) (by decide) (by kernel_rfl) rfl rfl hv8 fun h9 w9 _=>?_
 obtain⟨o9,ho9⟩ : ∃o9:Own,o9=o8.upd (0,0) (bx T.aT M (RawN.mk (n:=5) (mkL vs (eA s).2.at_ (eA s).2.ps vb8 (eA s).2.next vl))):=⟨_,rfl⟩
 have w9:Owns W7 h9 o9:=by rw[ho9];exact w9
 have b9:MkB M vs { (eA s).2 with blocks:=List.replicate (aE s) nU } o9 vb8 vl (List.replicate (aE s) (BlkM.mk ⟨.slice none 0 0⟩ ⟨.slice none 0 0⟩ ⟨0,[],[],⟨0⟩⟩)):=by
  rw[ho9]
  refine⟨rfl,?_,?_,by simp,fun i hi=>?_,fun i hi=>?_,fun i hi=>?_⟩
  ·rw[Own.ab (by simp),c8 _ (by simp) (by simp),Own.ab (by simp)];exact bb.live
  ·rw[Own.ab (by simp),c8 _ (by simp) (by simp),Own.ag]
  ·have hi:i<aE s:=by simpa using hi
   rw[aq hi,aq hi];rfl
  ·have hi:i<aE s:=by simpa using hi
   rw[Own.ab (by simp),ho8];dsimp only
   rw[if_pos ⟨rfl,hi⟩,aq hi,aq hi];rfl
  ·have hi:i<aE s:=by simpa using hi
   rw[Own.ab (by simp),ho8];dsimp only
   rw[if_neg (by simp),if_pos ⟨rfl,hi⟩,aq hi,aq hi];rfl
 have x9:Nx s M vs W7 h9 (gQ R o0) { (eA s).2 with blocks:=List.replicate (aE s) nU }:=⟨W7,o9,View.le_refl _,⟨w9,w7.src,vb8,vl,_,b9⟩,fun k hk=>by
  rw[ho9,Own.ab (by rintro rfl;simp at hk),c8 _ (by omega) (by omega),Own.ab (by rintro rfl;simp at hk)];exact f7 k hk⟩
 clear b9 w9 ho9 c8 w8 ho8 wb wa hv8 bb ob8 m8 hle8 hb8 w7 f7
 rw[hz];clear hz z
 refine aa fun z hz=>?_
 refine aa fun y hy=>?_
 simp
 rw[hy];clear hy y
 refine FI (vr:=.pointer (some ⟨R,0,none⟩)) st k1.len x9 (by simp) (by omega) (by simp[bm,aj,al]) fun h10 x10=>?_
 have x10:Nx s M vs W7 h10 (gQ R o0) (j0 s):=x10
 clear x9
 simp
 rw[hz];clear hz z
 refine aa fun z hz=>?_
 simp
 obtain⟨Wa,oa,ga,wa,fa⟩:=x10
 refine mH (α:=Int) (W:=Wa) (k:=.i64) (n:=aE s) (d:=0) El.bc (by rfl) (by rfl) ⟨rfl,by decide,by decide⟩ (by omega) (by omega) fun vp h11 ob11 m11 hle11 hb11=>?_
 have x11:Nx s M vs W7 h11 ((gQ R o0).upd (5,0) (it T.int vp (List.replicate (aE s) (0:Int)))) (j0 s):=by
  have w11:=wa.own.add (k:=(5,0)) ((fa _ (by decide)).trans rfl) ob11 hle11 (fun b hb=>by rw[hb11]at hb;cases hb;exact Nat.le_refl _)
  obtain⟨vb,vl,lb,bb⟩:=wa.box
  refine⟨Wa,_,ga,⟨w11,wa.src,vb,vl,lb,bb.frame fun q hq=>Own.ab (by rintro rfl;simp at hq)⟩,fun q hq=>?_⟩
  unfold Own.upd
  split
  ·rfl
  ·exact fa q hq
 clear wa fa ob11 m11 hb11
 rw[hz];clear hz z
 refine aa fun z hz=>?_
 refine aa fun y hy=>?_
 simp
 rw[hy];clear hy y
 obtain⟨z2,g2⟩:=zF (s:=s)
 have p0:Ph (aE s) 200 0 (List.replicate (aE s) (0:Int),j0 s):=by
  have hz : ∀j,nth (List.replicate (aE s) (0:Int)) j=0:=fun j=>by
   rcases Nat.lt_or_ge j (aE s)with hj | hj
   ·rw[aq hj]
   ·rw[aV (by simpa using hj)];rfl
  exact⟨z2,by simp,fun j _=>hz j,fun j=>by show 0≤nth (List.replicate _ (0:Int)) j∧nth (List.replicate _ (0:Int)) j≤3;rw[hz];omega⟩
 refine Fy (x0:=(List.replicate (aE s) (0:Int),j0 s)) (vr:=.pointer (some ⟨R,0,none⟩)) (vt:=vt) (vp:=vp) x11 p0 n1 (by omega) (by omega) (by simp[bm,aj,al]) fun h12 x12=>?_
 have x12:Nx s M vs W7 h12 ((gQ R o0).upd (5,0) (it T.int vp (fB s).1)) (fB s).2:=x12
 obtain⟨ph,pc,g3⟩:=nC (s:=s)
 clear p0 x11 z2 g2
 simp
 rw[hz];clear hz z
 refine aa fun z hz=>?_
 simp
 obtain⟨Wa,oa,ga,wa,fa⟩:=x12
 refine mH (α:=Bool) (W:=Wa) (k:=.i64) (n:=aE s) (d:=false) El.mJ (by rfl) (by rfl) rfl (by omega) (by omega) fun vd h13 ob13 m13 hle13 hb13=>?_
 have x13:Nx s M vs W7 h13 (((gQ R o0).upd (5,0) (it T.int vp (fB s).1)).upd (6,0) (it T.bool vd (List.replicate (aE s) false))) (fB s).2:=by
  have w13:=wa.own.add (k:=(6,0)) ((fa _ (by decide)).trans rfl) ob13 hle13 (fun b hb=>by rw[hb13]at hb;cases hb;exact Nat.le_refl _)
  obtain⟨vb,vl,lb,bb⟩:=wa.box
  refine⟨Wa,_,ga,⟨w13,wa.src,vb,vl,lb,bb.frame fun q hq=>Own.ab (by rintro rfl;simp at hq)⟩,fun q hq=>?_⟩
  unfold Own.upd
  split
  ·rfl
  ·exact fa q hq
 clear wa fa ob13 m13 hb13
 rw[hz];clear hz z
 refine aa fun z hz=>?_
 refine aa fun y hy=>?_
 simp
 rw[hy];clear hy y
 refine FL (a:=16000) (p:=27) (x0:=(List.replicate (aE s) false,(fB s).2)) (vr:=.pointer (some ⟨R,0,none⟩)) (vp:=vp) x13 st k1.len rfl rfl rfl y7 n2 (by omega) (by omega) (by omega) (by simp[bm,aj,al]) fun h14 x14=>?_
 have x14:Nx s M vs W7 h14 (((gQ R o0).upd (5,0) (it T.int vp (fB s).1)).upd (6,0) (it T.bool vd (lQ s).1)) (lQ s).2:=x14
 obtain⟨q4,pc4⟩:=tU (s:=s)
 clear x13 pc g3
 simp
 rw[hz];clear hz z
 refine aa fun z hz=>?_
 refine aa fun y hy=>?_
 simp
 rw[hy];clear hy y
 refine EM (vr:=.pointer (some ⟨R,0,none⟩)) (vt:=vt) (vp:=vp) (vd:=vd) (lp:=(fB s).1) x14 ((Own.ab (by simp)).trans Own.ag) rfl rfl q4 pc4 ph.len ph.rng n1 n2 (by omega) (by omega) (by omega) (by omega) (by simp[bm,aj,al]) fun h15 x15=>?_
 have x15:Nx s M vs W7 h15 (((gQ R o0).upd (5,0) (it T.int vp (fB s).1)).upd (6,0) (it T.bool vd (lQ s).1)) (fS s):=x15
 have q5:=lA (s:=s)
 clear x14 q4 pc4 ph
 simp
 rw[hz];clear hz z
 refine aa fun z hz=>?_
 obtain⟨Wa,oa,ga,wa,fa⟩:=x15
 obtain⟨vb,vl,lb,bb⟩:=wa.box
 have rd:=wa.reads bb
 simp[rd.f]
 have hvb:vb.oneCell'=true:=rd.blk.cells.2
 refine wa.own.jX (k:=(8,0)) (α:=RawN 1) (β:=RawN 1) Part.all (B:=R) (D:=RawN.mk (n:=1) [.int .i64 0,.slice none 0 0]) (d:=RawN.mk (n:=1) [.int .i64 (fS s).ps,vb]) ((fa _ (by decide)).trans rfl) (by kernel_rfl) rfl rfl (iM rfl (by intro c hc;simp only[List.mem_cons,List.not_mem_nil,or_false]at hc;rcases hc with rfl | rfl<;>first | rfl | exact hvb)) fun h16 w16 _=>?_
 have c16:=w16.gH (k:=(8,0)) (n:=1) (l:=[.int .i64 (fS s).ps,vb]) Own.ag
 have c16:Un.ev (vw h16) (.ar 2) (.pointer (some ⟨R,0,none⟩))=some (.agg #[.int .i64 (fS s).ps,vb]):=c16
 have b16:=bb.frame (o':=oa.upd (8,0) (bx T.aD R (RawN.mk (n:=1) [.int .i64 (fS s).ps,vb]))) fun q hq=>Own.ab (by rintro rfl;simp at hq)
 have w16:Mk s M vs Wa h16 _ (fS s):=⟨w16,wa.src,vb,vl,lb,b16⟩
 have rd16:=w16.reads b16
 rw[hz];clear hz z
 simp[c16]
 refine hK _ _ ⟨Wa,fun k=>if 3≤k.1 then o0 k else if k=(0,2)∨k.1=1∨k.1=2 then oa k else none,vb,lb,View.le_trans g7 ga,w16.own.sub fun k i hk=>?_,fun k hk=>if_pos hk,⟨?_,b16.len,b16.term,fun i hi=>?_,fun i hi=>?_⟩,rfl⟩
 ·split at hk
  ·rename_i e3
   rcases Nat.lt_or_ge k.1 10 with e | e
   ·rw[ho0 k e]at hk;cases hk
   ·have h1:oa k=o0 k:=(fa k (by omega)).trans (by
     rw[Own.ab (by rintro rfl;simp at e),Own.ab (by rintro rfl;simp at e)]
     unfold gQ;rw[if_neg (by rintro rfl;simp at e),if_pos e])
    rw[Own.ab (by rintro rfl;simp at e),h1];exact hk
  ·rename_i e3
   split at hk
   ·rw[Own.ab (by rintro rfl;simp at e3)];exact hk
   ·cases hk
 ·have:=b16.blk
  rw[Own.ab (by simp)]at this
  simpa using this
 ·have:=b16.phis i hi
  rw[Own.ab (by simp)]at this
  exact(by simp:_=oa (1,i)).trans this
 ·have:=b16.ins i hi
  rw[Own.ab (by simp)]at this
  exact(by simp:_=oa (2,i)).trans this
theorem Gj{s:List Int}{vs:Value}{h:Heap}{W:View}{o0:Own}(w0:Owns W h o0)(ho0 : ∀k:Key,k.1<10→o0 k=none)(hs:SlRd W vs s):
  aB Tryz.prog N.au #[vs] h (fun u h'=>∃W',W.le W'∧Owns W' h' o0∧Rd W' u (gU s)):=by
 refine(EJ w0 ho0 hs).mono ?_
 rintro u h' ⟨W1,o,vb,lb,hW,w,ho,b,rfl⟩
 obtain⟨W2,hW2,w2,sb⟩:=b.freeze w ho fun k hk=>ho0 k (by omega)
 have mp:=rJ (s:=s)
 have mi:I64 (gU s).params:=⟨by omega,by omega⟩
 exact⟨W2,View.le_trans hW hW2,w2,⟨_,rfl,[.int .i64 (gU s).params],[vb],rfl,⟨rfl,mi⟩,vb,rfl,sb⟩⟩
theorem dN{l:List BlkD}:(ofG l).length=l.length:=by simp[ofG]
theorem bY{l:List BlkD}{a b:Int}:db (ofG l) a b=true↔(0≤a∧a<l.length∧0≤b∧b<l.length)∧b∈(nth l a.toNat).term.to:=by
 rw[dX,dN]
 constructor
 ·rintro⟨h,hm⟩
  rw[ofG,dm (by omega),rC]at hm
  exact⟨h,hm.1⟩
 ·rintro⟨h,hm⟩
  refine⟨h,?_⟩
  rw[ofG,dm (by omega),rC]
  exact⟨hm,h.2.2.1,h.2.2.2⟩
structure Rb (f:ah) (wo:Int) (s:RSt):Prop where
 ok:ROk f.blocks.length s
 seen : ∀b:Nat,b<f.blocks.length→(nth s.1 b=true↔(b:Int)∈s.2)
 sound : ∀x∈s.2,Re (ofG f.blocks) wo x.toNat
variable{wo:Int}
theorem Is{f:ah}{a:Int}{k:Nat}{s:RSt}(h:Rb f wo s)(h0:0≤a)(h1:a<f.blocks.length)(ha:Re (ofG f.blocks) wo a.toNat)(hk:k<(nth f.blocks a.toNat).term.to.length):
  Rb f wo (jd wo (nth f.blocks a.toNat).term.to k s)∧s.2 <+: (jd wo (nth f.blocks a.toNat).term.to k s).2∧
   (0≤nth (nth f.blocks a.toNat).term.to k→nth (nth f.blocks a.toNat).term.to k<f.blocks.length→nth (nth f.blocks a.toNat).term.to k≠wo→nth (nth f.blocks a.toNat).term.to k∈(jd wo (nth f.blocks a.toNat).term.to k s).2):=by
 have hok:=xV (wo:=wo) (to:=(nth f.blocks a.toNat).term.to) (k:=k) h.ok
 have hm:=bw hk
 unfold jd at hok ⊢
 generalize hto:(nth f.blocks a.toNat).term.to=to at hm hok ⊢
 split
 ·rename_i hc
  rw[if_pos hc]at hok
  obtain⟨⟨c1,c2⟩,c3,c4⟩:=hc
  rw[h.ok.len]at c2
  have hb:((nth to k).toNat:Int)=nth to k:=Int.toNat_of_nonneg c1
  refine⟨⟨hok,fun b hb=>?_,fun x hx=>?_⟩,List.prefix_append _ _,fun _ _ _=>List.mem_append_right _ (List.mem_singleton.2 rfl)⟩
  ·rw[List.mem_append,List.mem_singleton]
   by_cases he:b=(nth to k).toNat
   ·subst he
    rw[aH (by rw[h.ok.len];omega),if_pos rfl]
    exact⟨fun _=>.inr (Int.toNat_of_nonneg c1),fun _=>rfl⟩
   ·rw[aH (by rw[h.ok.len];exact hb),if_neg (fun e=>he e.symm),h.seen b hb]
    exact⟨.inl,fun e=>e.resolve_right (by omega)⟩
  ·rcases List.mem_append.1 hx with hx | hx
   ·exact h.sound x hx
   ·rw[List.mem_singleton.1 hx]
    refine .step ha ?_ (by rw[hb];exact c4)
    rw[bY,hb]
    exact⟨⟨by omega,by omega,c1,c2⟩,by rw[Int.toNat_natCast,hto];exact hm⟩
 ·rename_i hc
  rw[if_neg hc]at hok
  refine⟨h,List.prefix_refl _,fun c1 c2 c4=>?_⟩
  have hb:((nth to k).toNat:Int)=nth to k:=Int.toNat_of_nonneg c1
  rw[←hb,←h.seen _ (by omega)]
  cases e:nth s.1 (nth to k).toNat with
  | true=>rfl
  | false=>exact absurd ⟨⟨c1,by rw[h.ok.len];exact c2⟩,e,c4⟩ hc
theorem DY {f:ah} {wo a:Int} {s:RSt} (h:Rb f wo s) (h0:0≤a) (h1:a<f.blocks.length) (ha:Re (ofG f.blocks) wo a.toNat) : ∀m,m≤(nth f.blocks a.toNat).term.to.length→
  Rb f wo (up (jd wo (nth f.blocks a.toNat).term.to) m s)∧s.2 <+: (up (jd wo (nth f.blocks a.toNat).term.to) m s).2∧
   ∀k,k<m→0≤nth (nth f.blocks a.toNat).term.to k→nth (nth f.blocks a.toNat).term.to k<f.blocks.length→nth (nth f.blocks a.toNat).term.to k≠wo→nth (nth f.blocks a.toNat).term.to k∈(up (jd wo (nth f.blocks a.toNat).term.to) m s).2
 | 0,_=>⟨h,List.prefix_refl _,fun k hk=>by omega⟩
 | m+1,hm=>by
  obtain⟨i1,i2,i3⟩:=DY h h0 h1 ha m (by omega)
  obtain⟨j1,j2,j3⟩:=Is (k:=m) i1 h0 h1 ha (by omega)
  rw[up]
  refine⟨j1,i2.trans j2,fun k hk c1 c2 c3=>?_⟩
  rcases Nat.lt_or_ge k m with hlt | hge
  ·exact j2.subset (i3 k hlt c1 c2 c3)
  ·have:k=m:=by omega
   subst this;exact j3 c1 c2 c3
structure Rc (f:ah) (wo:Int) (i:Nat) (s:RSt):Prop where
 b:Rb f wo s
 root:wo≠0→0<f.blocks.length→(0:Int)∈s.2
 done : ∀j,j<i→j<s.2.length→∀b:Nat,db (ofG f.blocks) (nth s.2 j) b=true→(b:Int)≠wo→(b:Int)∈s.2
variable{α:Type}
theorem AO[Inhabited α]{a b:List α}(h:a <+: b){i:Nat}(hi:i<a.length):nth b i=nth a i:=by
 obtain⟨t,rfl⟩:=h
 rw[ak (by simp;omega),ak hi,List.getElem_append_left hi]
theorem Fz{f:ah}{i:Nat}{s:RSt}(h:Rc f wo i s)(hi:i<s.2.length):Rc f wo (i+1) (tE f wo i s)∧s.2 <+: (tE f wo i s).2:=by
 have hm:=bw hi
 obtain⟨h0,h1⟩:=h.b.ok.rng _ hm
 have hre:=h.b.sound _ hm
 obtain⟨i1,i2,i3⟩:=DY h.b h0 h1 hre _ (Nat.le_refl _)
 have he:tE f wo i s=up (jd wo (nth f.blocks (nth s.2 i).toNat).term.to) (nth f.blocks (nth s.2 i).toNat).term.to.length s:=rfl
 rw[←he]at i1 i2 i3
 refine⟨⟨i1,fun a b=>i2.subset (h.root a b),fun j hj hjl b hb hne=>?_⟩,i2⟩
 rcases Nat.lt_or_ge j i with hlt | hge
 ·rw[AO i2 (by omega)]at hb
  exact i2.subset (h.done j hlt (by omega) b hb hne)
 ·have:j=i:=by omega
  subst this
  rw[AO i2 hi,bY]at hb
  obtain⟨⟨_,_,q1,q2⟩,hmem⟩:=hb
  obtain⟨k,hk,e⟩:=List.getElem_of_mem hmem
  rw[←ak hk]at e
  rw[←e]
  exact i3 k hk (by omega) (by omega) (by rw[e];exact hne)
theorem DF {f:ah} {wo:Int} : ∀{m i:Nat} {s:RSt},Rc f wo i s→f.blocks.length<i+m→∃k,Rc f wo k (rchS f wo m i s)∧(rchS f wo m i s).2.length≤k
 | 0,i,s,h,hm=>⟨i,h,by have:=h.b.ok.cnt;rw[rchS];omega⟩
 | m+1,i,s,h,hm=>by
  rw[rchS]
  split
  ·rename_i hi
   exact DF (Fz h hi).1 (by omega)
  ·rename_i hi
   exact⟨i,h,by omega⟩
theorem Gn{f:ah}:Rc f wo 0 (rch0 f wo):=by
 have hok:=xh (f:=f) (wo:=wo)
 unfold rch0 at hok ⊢
 split
 ·rename_i hc
  rw[if_pos hc]at hok
  refine⟨⟨hok,fun b hb=>?_,fun x hx=>?_⟩,fun _ _=>List.mem_singleton.2 rfl,fun j hj=>by omega⟩
  ·rw[aH (by simpa using hb),List.mem_singleton]
   split
   ·rename_i e;subst e;simp
   ·rename_i e
    rw[ak (by simpa using hb)]
    simp;omega
  ·rw[List.mem_singleton.1 hx]
   exact .root (by rw[dN];exact hc.2) hc.1
 ·rename_i hc
  rw[if_neg hc]at hok
  refine⟨⟨hok,fun b hb=>?_,fun x hx=>by cases hx⟩,fun a b=>absurd ⟨a,b⟩ hc,fun j hj=>by omega⟩
  rw[ak (by simpa using hb)]
  simp
variable{b:Nat}
theorem fX{f:ah}(hb:b<f.blocks.length):nth (eo f wo) b=true↔Re (ofG f.blocks) wo b:=by
 obtain⟨k,h,hk⟩:=DF (Gn (f:=f) (wo:=wo)) (m:=f.blocks.length+1) (by omega)
 unfold eo
 generalize rchS f wo (f.blocks.length+1) 0 (rch0 f wo)=s at h hk
 rw[h.b.seen b hb]
 constructor
 ·exact fun hm=>by simpa using h.b.sound _ hm
 ·intro hr
  induction hr with
  | root h1 h2=>exact h.root h2 (by rw[←dN];exact h1)
  | @step a b ha he hne ih=>
   have hm:=ih (by have:=(bY.1 he).1;omega)
   obtain⟨j,hj,e⟩:=List.getElem_of_mem hm
   rw[←ak hj]at e
   exact h.done j (by omega) hj b (by rw[e];exact he) hne
theorem iO{σ ε:Type}{f:σ→α→Except ε σ}{a b:List α}{s:σ}:(a++b).foldlM f s=(match a.foldlM f s with | .ok s'=>b.foldlM f s' | .error e=>.error e):=by
 rw[List.foldlM_append]
 cases a.foldlM f s<;>rfl
theorem pV{σ ε:Type}{f:σ→α→Except ε σ}{a:α}{s:σ}:[a].foldlM f s=f s a:=by
 rw[List.foldlM_cons]
 cases f s a<;>rfl
theorem lG {σ α ε:Type} {g:Nat→σ→Except ε σ} {f:σ→α→Except ε σ} {x:Nat→α} {s:σ} : ∀{n:Nat},(∀i s,i<n→g i s=f s (x i))→upE g n s=(rows x n).foldlM f s
 | 0,_=>rfl
 | n+1,h=>by
  have ih:=lG (n:=n) (s:=s) fun i s hi=>h i s (by omega)
  rw[eZ,iO,←ih]
  simp only[upE]
  cases upE g n s with
  | ok s'=>
   show g n s'=[x n].foldlM f s'
   rw[pV];exact h n s' (by omega)
  | error e=>rfl
theorem nH{σ ε:Type}[Inhabited α]{f:σ→α→Except ε σ}{l:List α}{s:σ}:upE (fun i s=>f s (nth l i)) l.length s=l.foldlM f s:=by
 rw[lG (f:=f) (x:=nth l) fun _ _ _=>rfl]
 congr 1
 refine List.ext_getElem (by simp) fun i h1 h2=>?_
 simp[rows,ak h2]
def jT (f:ah) (m:MW) (t:Th):Except Tr MW:=
 if t.place<0 then allS f.params t.mks t.blk t.place m
 else if t.place<(fQ f t).ins.length then insS f.params t.blk (fQ f t) t.place.toNat m
 else endS f.blocks.length t.blk (fQ f t) m
theorem qT{f:ah}{i:Nat}{m:MW}:jT f m (phiT f b i)=phiS f.params b (nth f.blocks b) i m:=by
 unfold jT
 rw[if_pos (show(phiT f b i).place<0 by show -1-(i:Int)<0;omega)]
 rfl
theorem qS{f:ah}{i:Nat}{m:MW}(hi:i<(nth f.blocks b).ins.length):jT f m (insT f b i)=insS f.params b (nth f.blocks b) i m:=by
 unfold jT
 rw[if_neg (show ¬(insT f b i).place<0 by show ¬(i:Int)<0;omega),if_pos (show(insT f b i).place<((fQ f (insT f b i)).ins.length:Int) by show(i:Int)<((nth f.blocks b).ins.length:Int);omega)]
 rfl
theorem ru{f:ah}{m:MW}:jT f m (endT f b)=endS f.blocks.length b (nth f.blocks b) m:=by
 unfold jT
 rw[if_neg (show ¬(endT f b).place<0 by show ¬((nth f.blocks b).ins.length:Int)<0;omega),if_neg (show ¬(endT f b).place<((fQ f (endT f b)).ins.length:Int) by show ¬((nth f.blocks b).ins.length:Int)<((nth f.blocks b).ins.length:Int);omega)]
 rfl
theorem DG{f:ah}{m:MW}:blkS f b m=(thB f b).foldlM (jT f) m:=by
 unfold blkS thB
 rw[lG (f:=jT f) (x:=phiT f b) (n:=(nth f.blocks b).phis.length) fun i s hi=>qT.symm]
 rw[iO,iO]
 cases (rows (phiT f b) (nth f.blocks b).phis.length).foldlM (jT f) m with
 | error e=>rfl
 | ok m1=>
  simp only
  rw[lG (f:=jT f) (x:=insT f b) (n:=(nth f.blocks b).ins.length) fun i s hi=>(qS hi).symm]
  cases (rows (insT f b) (nth f.blocks b).ins.length).foldlM (jT f) m1 with
  | error e=>rfl
  | ok m2=>
   simp only
   rw[pV]
   exact ru.symm
theorem sY{f:ah}{m:MW}:kF f m=(aF f).foldlM (jT f) m:=by
 have key : ∀n,upE (blkS f) n m=(thTo f n).foldlM (jT f) m:=by
  intro n
  induction n with
  | zero=>rfl
  | succ n ih=>
   rw[eK,iO,←ih]
   simp only[upE]
   cases upE (blkS f) n m with
   | error e=>rfl
   | ok s=>exact DG
 exact key _
theorem oP{f:ah}:kf f=(aF f).foldlM (fun m t=>iL f t m) (List.replicate 8192 false):=nH (f:=fun(m:BL) (t:Th)=>iL f t m)
def sr (m:MW) (l:BL):Prop:=l.length=8192∧∀n:Int,0≤n→n<8192→(m n).isSome=nth l n.toNat
def Alike {α β:Type} (R:α→β→Prop):Except Tr α→Except Tr β→Prop
 | .ok a,.ok b=>R a b
 | .error e,.error e'=>e=e'
 | _,_=>False
theorem pN {α β γ:Type} {R:α→β→Prop} {F:α→γ→Except Tr α} {G:β→γ→Except Tr β} : ∀{l:List γ},(∀t∈l,∀a b,R a b→Alike R (F a t) (G b t))→∀{a:α} {b:β},R a b→Alike R (l.foldlM F a) (l.foldlM G b)
 | [],_,a,b,h=>h
 | t::l,hs,a,b,h=>by
  rw[List.foldlM_cons,List.foldlM_cons]
  have:=hs t List.mem_cons_self a b h
  cases e1:F a t with
  | error e=>
   cases e2:G b t with
   | error e'=>rw[e1,e2]at this;exact this
   | ok b'=>rw[e1,e2]at this;exact this.elim
  | ok a'=>
   cases e2:G b t with
   | error e'=>rw[e1,e2]at this;exact this.elim
   | ok b'=>
    rw[e1,e2]at this
    exact pN (fun t ht=>hs t (List.mem_cons_of_mem _ ht)) this
theorem BV{f:ah}{n:Int}:bA n f.params 8191=!lr f n:=by
 rw[Bool.eq_iff_iff];simp[bA,lr]
theorem AX{p:α→Bool}{l:List α}:l.all (fun n=>!p n)=!l.any p:=by
 induction l with
 | nil=>rfl
 | cons a l ih=>simp[ih]
def jJ (t:Th) (m:BL) (n:Int):Except Tr BL:=if nth m n.toNat then .error (12,t.blk,t.place) else .ok (m.set n.toNat true)
theorem Co{f:ah}{t:Th}{m:MW}{l:BL}(h:sr m l)(hp:0≤f.params)(hn : ∀n∈t.mks,lr f n=false):Alike sr (t.mks.foldlM (oZ t.blk t.place) m) (upE (oG t) t.mks.length l):=by
 have e:upE (oG t) t.mks.length l=t.mks.foldlM (jJ t) l:=nH (f:=jJ t)
 rw[e]
 refine pN (fun n hnm m l h=>?_) h
 have hb:=hn n hnm
 simp only[lr,Bool.or_eq_false_iff,decide_eq_false_iff_not]at hb
 have hs:=h.2 n (by omega) (by omega)
 unfold oZ jJ
 rw[hs]
 cases hc:nth l n.toNat with
 | true=>exact rfl
 | false=>
  refine⟨by simpa using h.1,fun k h0 h1=>?_⟩
  rw[aH (by rw[h.1];omega)]
  simp only[putM]
  by_cases hk:k=n
  ·subst hk;simp
  ·rw[if_neg hk,if_neg (by omega)];exact h.2 k h0 h1
theorem vD{f:ah}{t:Th}{m:MW}{l:BL}(h:sr m l)(hp:0≤f.params):
  Alike sr (allS f.params t.mks t.blk t.place m) (if t.mks.any (lr f) then .error (11,t.blk,t.place) else upE (oG t) t.mks.length l):=by
 unfold allS
 have e:(t.mks.all fun n=>bA n f.params 8191)=!t.mks.any (lr f):=by
  rw[←AX];congr 1;funext n;exact BV
 rw[e]
 cases hb:t.mks.any (lr f)with
 | true=>exact rfl
 | false=>
  refine Co h hp fun n hn=>?_
  rw[Bool.eq_false_iff]
  intro e2
  rw[Bool.eq_false_iff]at hb
  exact hb (List.any_eq_true.2 ⟨n,hn,e2⟩)
theorem Fp{x:InsD}:(bA x.op 1 18&&bA x.args.length (fL x.op).1 (fL x.op).2)=!lh x:=by
 rw[Bool.eq_iff_iff]
 simp only[lh,bA,fL,qz,Bool.and_eq_true,Bool.not_eq_true',Bool.or_eq_false_iff,decide_eq_true_eq,decide_eq_false_iff_not,Bool.not_eq_false']
 by_cases h1:x.op=1
 ·simp[h1]
 by_cases h2:x.op=15
 ·simp[h2];omega
 by_cases h3:x.op=17
 ·simp[h3]
 simp only[h1,h2,h3,if_false,decide_eq_true_eq];omega
theorem FW{f:ah}{n:Int}:bA n 1 ((f.blocks.length:Int)-1)=!tz f n:=by
 rw[Bool.eq_iff_iff];simp[bA,tz];omega
theorem BQ{t:dp}:nN t=jq t:=by
 unfold nN jq fE
 by_cases h1:t.kind=1
 ·rw[Bool.eq_iff_iff];simp[putM,h1,bA];omega
 by_cases h2:t.kind=2
 ·rw[Bool.eq_iff_iff];simp[putM,h2,bA];omega
 by_cases h3:t.kind=3
 ·rw[Bool.eq_iff_iff];simp[putM,h3,bA];omega
 by_cases h4:t.kind=4
 ·rw[Bool.eq_iff_iff];simp[putM,h4,bA]
 by_cases h5:t.kind=5
 ·rw[Bool.eq_iff_iff];simp[putM,h5,bA]
 simp[putM,h1,h2,h3,h4,h5]
theorem sv{f:ah}{t:Th}{x:Except Tr BL}(h:jh f t=false):mq f t x=x:=by
 unfold mq
 cases x with
 | error e=>rfl
 | ok m=>simp only[h,Bool.false_and];rfl
theorem CL{f:ah}{t:Th}(ht:t∈aF f)(hp:0≤f.params){m:MW}{l:BL}(h:sr m l):Alike sr (jT f m t) (iL f t l):=by
 obtain⟨b,hb,ht⟩:=bC.1 ht
 rcases bU.1 ht with⟨i,hi,rfl⟩ | ⟨i,hi,rfl⟩ | rfl
 ·have e1:lH f (phiT f b i)=false:=by simp[lH,phiT];omega
  have e2:jh f (phiT f b i)=false:=by
   show decide (-1-(i:Int)=((nth f.blocks b).ins.length:Int))=false
   rw[decide_eq_false_iff_not];omega
  rw[qT,iL,e1,e2,sv e2]
  exact vD (t:=phiT f b i) h hp
 ·have e1:lH f (insT f b i)=true:=by simp[lH,insT,fQ];omega
  have e2:jh f (insT f b i)=false:=by
   show decide ((i:Int)=((nth f.blocks b).ins.length:Int))=false
   rw[decide_eq_false_iff_not];omega
  have e3:tL f (insT f b i)=nth (nth f.blocks b).ins i:=by simp[tL,fQ,insT]
  rw[qS hi,iL,e1,e2,sv e2,e3,insS,Fp]
  cases hb:lh (nth (nth f.blocks b).ins i)with
  | true=>exact rfl
  | false=>exact vD (t:=insT f b i) h hp
 ·have e1:lH f (endT f b)=false:=by simp[lH,endT,fQ]
  have e2:jh f (endT f b)=true:=by simp[jh,endT,fQ]
  have e3:fQ f (endT f b)=nth f.blocks b:=by simp[fQ,endT]
  rw[ru,iL,e1,e2,e3,endS,BQ]
  cases hb:jq (nth f.blocks b).term with
  | false=>exact rfl
  | true=>
   have e4:((nth f.blocks b).term.to.all fun t=>bA t 1 ((f.blocks.length:Int)-1))=!(nth f.blocks b).term.to.any (tz f):=by
    rw[←AX];congr 1;funext n;exact FW
   rw[e4]
   show Alike sr _ (mq f (endT f b) (.ok l))
   unfold mq
   rw[e2,e3]
   cases (nth f.blocks b).term.to.any (tz f)with
   | true=>exact rfl
   | false=>exact h
theorem Ae{f:ah}(hp:0≤f.params):Alike sr (kF f (fun _=>none)) (kf f):=by
 rw[sY,oP]
 refine pN (fun t ht m l h=>CL ht hp h) ⟨List.length_replicate ..,fun n h0 h1=>?_⟩
 rw[ak (by rw[List.length_replicate];omega),List.getElem_replicate];rfl
def Ah (t:Th):Option (Int × Int):=if t.blk<0 then none else some (t.blk,t.place)
structure Site (m:MW) (s:List Th):Prop where
 len:s.length=8192
 inn : ∀n:Int,0≤n→n<8192→m n=Ah (nth s n.toNat)
 out : ∀n:Int,¬(0≤n∧n<8192)→m n=none
theorem yT {t:Th} (hb:0≤t.blk) : ∀{l:List Int} {m:MW} {s:List Th},Site m s→(∀n∈l,0≤n∧n<8192)→Site (l.foldl (fun m n=>putM m n (t.blk,t.place)) m) (l.foldl (fm t) s)
 | [],m,s,h,_=>h
 | n::l,m,s,h,hl=>by
  rw[List.foldl_cons,List.foldl_cons]
  have hn:=hl n List.mem_cons_self
  refine yT hb ⟨mB.trans h.len,fun k h0 h1=>?_,fun k hk=>?_⟩ fun k hk=>hl k (List.mem_cons_of_mem _ hk)
  ·unfold fm putM
   rw[if_pos hn,aH (by rw[h.len];omega)]
   by_cases e:k=n
   ·subst e;rw[if_pos rfl,if_pos rfl];unfold Ah;rw[if_neg (by omega)]
   ·rw[if_neg e,if_neg (by omega)];exact h.inn k h0 h1
  ·unfold putM
   rw[if_neg (by rintro rfl;exact hk hn)];exact h.out k hk
theorem yg {b p:Int} : ∀{l:List Int} {m m':MW},l.foldlM (oZ b p) m = .ok m'→m'=l.foldl (fun m n=>putM m n (b,p)) m
 | [],m,m',h=>by cases h;rfl
 | n::l,m,m',h=>by
  rw[List.foldlM_cons]at h
  cases e:oZ b p m n with
  | error t=>rw[e]at h;cases h
  | ok m1=>
   rw[e]at h
   unfold oZ at e
   split at e
   ·cases e
   ·cases e;exact yg (l:=l) (m:=putM m n (b,p)) h
theorem zq{ps b p:Int}{l:List Int}{m m':MW}(h:allS ps l b p m = .ok m'):m'=l.foldl (fun m n=>putM m n (b,p)) m∧∀n∈l,ps≤n∧n≤8191:=by
 unfold allS at h
 split at h
 ·rename_i ha
  refine⟨yg h,fun n hn=>?_⟩
  have:=List.all_eq_true.1 ha n hn
  simpa[bA]using this
 ·cases h
theorem DJ{f:ah}{t:Th}(ht:t∈aF f){m m':MW}(h:jT f m t = .ok m'):(m'=t.mks.foldl (fun m n=>putM m n (t.blk,t.place)) m∧∀n∈t.mks,f.params≤n∧n≤8191)∧0≤t.blk:=by
 obtain⟨b,hb,ht⟩:=bC.1 ht
 rcases bU.1 ht with⟨i,hi,rfl⟩ | ⟨i,hi,rfl⟩ | rfl
 ·rw[qT]at h
  exact⟨zq h,by show 0≤(b:Int);omega⟩
 ·rw[qS hi]at h
  unfold insS at h
  split at h
  ·exact⟨zq h,by show 0≤(b:Int);omega⟩
  ·cases h
 ·rw[ru]at h
  unfold endS at h
  split at h
  ·split at h
   ·cases h;exact⟨⟨rfl,fun n hn=>by cases hn⟩,by show 0≤(b:Int);omega⟩
   ·cases h
  ·cases h
theorem vQ {f:ah} (hp:0≤f.params) : ∀{l:List Th},(∀t∈l,t∈aF f)→∀{m m':MW} {s:List Th},Site m s→l.foldlM (jT f) m = .ok m'→Site m' (l.foldl pU s)
 | [],_,m,m',s,h,e=>by cases e;exact h
 | t::l,hl,m,m',s,h,e=>by
  rw[List.foldlM_cons]at e
  cases e1:jT f m t with
  | error x=>rw[e1]at e;cases e
  | ok m1=>
   rw[e1]at e
   obtain⟨⟨q1,q2⟩,q3⟩:=DJ (hl t List.mem_cons_self) e1
   rw[List.foldl_cons]
   refine vQ hp (fun t ht=>hl t (List.mem_cons_of_mem _ ht)) (m:=m1) ?_ e
   rw[q1]
   exact yT q3 h fun n hn=>by have:=q2 n hn;omega
theorem Cy{f:ah}(hp:0≤f.params){m:MW}(h:kF f (fun _=>none) = .ok m):Site m (iD f):=by
 rw[sY]at h
 refine vQ hp (fun t ht=>ht) ⟨List.length_replicate ..,fun n h0 h1=>?_,fun n _=>rfl⟩ h
 rw[ak (by rw[List.length_replicate];omega),List.getElem_replicate];rfl
theorem uK{f:ah}{m:MW}{made:List Th}{away:List BL}{idom:List Int}{v blk place at_ told:Int}(hp:f.params≤8192)(hs:Site m made)(hd : ∀a:Int,0≤a→a<f.blocks.length→dY idom a blk=!nth (nth away a.toNat) blk.toNat)(hm : ∀i,i<8192→(nth made i).blk<f.blocks.length):useS f.params m idom v blk place at_ told=if(!iq f made away v blk at_) then .error (13,told,place) else .ok ():=by
 unfold useS
 by_cases c1:0≤v∧v<f.params
 ·have e:iq f made away v blk at_=true:=by unfold iq;rw[if_pos c1]
  rw[if_pos c1,e];rfl
 rw[if_neg c1]
 by_cases c2:v<0∨8191<v
 ·have e:iq f made away v blk at_=false:=by unfold iq;rw[if_neg c1,if_pos (.inl c2)]
  rw[hs.out v (by omega),e];rfl
 have e:iq f made away v blk at_=if(nth made v.toNat).blk<0 then false else if(nth made v.toNat).blk=blk then decide ((nth made v.toNat).place<0)||decide ((nth made v.toNat).place<at_) else !nth (nth away (nth made v.toNat).blk.toNat) blk.toNat:=by
  unfold iq
  rw[if_neg c1]
  by_cases c3:(nth made v.toNat).blk<0
  ·rw[if_pos (.inr c3),if_pos c3]
  ·rw[if_neg (by rintro(q | q)<;>contradiction),if_neg c3]
 rw[hs.inn v (by omega) (by omega),e]
 have hmb:=hm v.toNat (by omega)
 generalize nth made v.toNat=t at hmb
 unfold Ah
 by_cases c3:t.blk<0
 ·rw[if_pos c3,if_pos c3];rfl
 rw[if_neg c3,if_neg c3]
 have e2:ke (t.blk,t.place) idom blk at_=if t.blk=blk then decide (t.place<0)||decide (t.place<at_) else !nth (nth away t.blk.toNat) blk.toNat:=by
  unfold ke
  by_cases c4:t.blk=blk
  ·simp only[c4,decide_true,Bool.true_and,Bool.not_true,Bool.false_and,Bool.or_false,if_true]
   rw[Bool.or_comm]
  ·simp only[c4,decide_false,Bool.false_and,Bool.not_false,Bool.true_and,Bool.false_or,if_false]
   exact hd t.blk (by omega) hmb
 simp only[e2]
 generalize (if t.blk=blk then decide (t.place<0)||decide (t.place<at_) else !nth (nth away t.blk.toNat) blk.toNat)=B
 cases B<;>rfl
theorem uI[Inhabited α]{l:List α}{p:α→Bool}{e:Tr}{g:Nat→Except Tr Unit}(h : ∀j,j<l.length→g j=if p (nth l j) then .error e else .ok ()):uAll g l.length=if l.any p then .error e else .ok ():=by
 have h1:uAll g l.length=l.foldlM (fun(_:Unit) x=>if p x then Except.error e else .ok ()) ():=by
  unfold uAll
  rw[←nH (f:=fun(_:Unit) x=>if p x then Except.error e else .ok ())]
  have key : ∀n,n≤l.length→upE (fun i (_:Unit)=>g i) n ()=upE (fun i (_:Unit)=>if p (nth l i) then Except.error e else .ok ()) n ():=by
   intro n
   induction n with
   | zero=>exact fun _=>rfl
   | succ n ih=>
    intro hn
    simp only[upE]
    rw[ih (by omega),h n (by omega)]
  exact key _ (Nat.le_refl _)
 rw[h1]
 clear h1 h
 induction l with
 | nil=>rfl
 | cons a l ih=>
  rw[List.foldlM_cons,List.any_cons]
  cases hp:p a with
  | true=>rfl
  | false=>rw[Bool.false_or];exact ih
variable{n:Nat}
theorem Ac{β:Type}{p q:Nat→Bool}{x:Nat→β}(h : ∀a,a<n→p a=q a):sift p x n=sift q x n:=by
 rw[jI,jI]
 congr 1
 exact List.filter_congr fun a ha=>h a (List.mem_range.1 ha)
theorem Az{f:ah}(hb:b<f.blocks.length):nth (cd (ofG f.blocks)) b=aw f b:=by
 rw[nj,dH,dN,dm hb,aw]
 refine Ac fun a ha=>?_
 rw[Bool.eq_iff_iff,bY,decide_eq_true_eq,Int.toNat_natCast]
 exact⟨fun h=>h.2,fun h=>⟨by omega,h⟩⟩
theorem B1{f:ah}{i:Nat}(hb:b<f.blocks.length):zt (nth (nth f.blocks b).phis i) (nth (cd (ofG f.blocks)) b) b=qm f (phiT f b i):=by
 have e1:oX f (phiT f b i)=nth (nth f.blocks b).phis i:=by
  unfold oX fQ phiT
  simp only[Int.toNat_natCast]
  rw[show(-1-(-1-(i:Int))).toNat=i by omega]
 have e2:(phiT f b i).blk=(b:Int):=rfl
 unfold zt jS qm
 rw[e1,e2,Az hb]
 generalize nth (nth f.blocks b).phis i=x
 generalize aw f b=row
 rw[Bool.eq_iff_iff]
 simp only[Bool.and_eq_true,decide_eq_true_eq,AV,vk]
 constructor
 ·rintro⟨⟨h1,h2⟩,h3⟩
  refine⟨by omega,List.ext_getElem (by simp;omega) fun j hj hj2=>?_⟩
  have:=h3 j (by simpa using hj)
  rw[ak hj2,ak (by simpa using hj)]at this
  simpa using this
 ·rintro⟨h1,h2⟩
  have hl:x.ins.length=row.length:=by rw[←h2,List.length_map]
  refine⟨⟨by omega,by omega⟩,fun j hj=>?_⟩
  rw[←h2,ak (l:=List.map InD.frm x.ins) (by rw[List.length_map];exact hj),ak hj]
  simp
theorem uA{f:ah}: ∀i,i<8192→(nth (iD f) i).blk<f.blocks.length:=fun i hi=>CV (by omega) (fun t ht=>by
 obtain⟨b,hb,ht⟩:=bC.1 ht
 rcases bU.1 ht with⟨i,hi,rfl⟩ | ⟨i,hi,rfl⟩ | rfl
 ·show(b:Int)<_;omega
 ·show(b:Int)<_;omega
 ·show(b:Int)<_;omega) hi
section
variable {f:ah} {m:MW} {idom:List Int} (hp0:f.params≤8192) (hs:Site m (iD f)) (hd : ∀a b:Int,0≤a→a<f.blocks.length→0≤b→b<f.blocks.length→dY idom a b=!nth (nth (gK f) a.toNat) b.toNat)
include hp0 hs hd
theorem Ga{i:Nat}(hb:b<f.blocks.length)(hi:i<(nth f.blocks b).phis.length):phiU f m idom (cd (ofG f.blocks)) b i=iu f (iD f) (gK f) (phiT f b i):=by
 have hf:=B1 (f:=f) (i:=i) hb
 have e1:oX f (phiT f b i)=nth (nth f.blocks b).phis i:=by
  unfold oX fQ phiT
  simp only[Int.toNat_natCast]
  rw[show(-1-(-1-(i:Int))).toNat=i by omega]
 have e3:iu f (iD f) (gK f) (phiT f b i)=if !qm f (phiT f b i) then .error (16,b,-1-i) else if(nth (nth f.blocks b).phis i).ins.any (stP f (iD f) (gK f)) then .error (13,b,-1-i) else .ok ():=by
  unfold iu
  rw[if_neg (show ¬0≤(phiT f b i).place by show ¬0≤-1-(i:Int);omega),e1]
  rfl
 rw[e3]
 unfold phiU
 simp only[hf]
 cases hss:qm f (phiT f b i)with
 | false=>rfl
 | true=>
  rw[if_pos rfl,if_neg (by simp)]
  refine uI fun j hj=>?_
  have hfr:0≤(nth (nth (nth f.blocks b).phis i).ins j).frm∧(nth (nth (nth f.blocks b).phis i).ins j).frm<f.blocks.length:=by
   unfold qm at hss
   rw[e1]at hss
   simp only[Bool.and_eq_true,decide_eq_true_eq]at hss
   have hm:=List.mem_map_of_mem (f:=InD.frm) (bw hj)
   rw[hss.2]at hm
   obtain⟨a,h1,_,h2⟩:=jV.1 hm
   omega
  rw[uK hp0 hs (fun a h0 h1=>hd a _ h0 h1 hfr.1 hfr.2) uA]
  rfl
theorem Fs{i:Nat}(hb:b<f.blocks.length)(hi:i<(nth f.blocks b).ins.length):insU f m idom b i=iu f (iD f) (gK f) (insT f b i):=by
 have e3:iu f (iD f) (gK f) (insT f b i)=if(nth (nth f.blocks b).ins i).args.any (stT f (iD f) (gK f) (insT f b i)) then .error (13,b,i) else .ok ():=by
  unfold iu
  rw[if_pos (show 0≤(insT f b i).place by show 0≤(i:Int);omega)]
  rfl
 rw[e3]
 unfold insU
 refine uI fun j hj=>?_
 rw[uK hp0 hs (fun a h0 h1=>hd a _ h0 h1 (by omega) (by omega)) uA]
 rfl
theorem GD(hb:b<f.blocks.length):endU f m idom b=iu f (iD f) (gK f) (endT f b):=by
 have e3:iu f (iD f) (gK f) (endT f b)=if(nth f.blocks b).term.args.any (stT f (iD f) (gK f) (endT f b)) then .error (13,b,(nth f.blocks b).ins.length) else .ok ():=by
  unfold iu
  rw[if_pos (show 0≤(endT f b).place by show 0≤((nth f.blocks b).ins.length:Int);omega)]
  rfl
 rw[e3]
 unfold endU
 refine uI fun j hj=>?_
 rw[uK hp0 hs (fun a h0 h1=>hd a _ h0 h1 (by omega) (by omega)) uA]
 rfl
def stF (f:ah) (_:Unit) (t:Th):Except Tr Unit:=iu f (iD f) (gK f) t
theorem Gb(hb:b<f.blocks.length):blkU f m idom (cd (ofG f.blocks)) b=(thB f b).foldlM (stF f) ():=by
 unfold blkU thB uAll
 rw[lG (f:=stF f) (x:=phiT f b) (n:=(nth f.blocks b).phis.length) fun i s hi=>Ga hp0 hs hd hb hi]
 rw[lG (f:=stF f) (x:=insT f b) (n:=(nth f.blocks b).ins.length) fun i s hi=>Fs hp0 hs hd hb hi]
 rw[iO,iO,GD hp0 hs hd hb]
 cases (rows (phiT f b) (nth f.blocks b).phis.length).foldlM (stF f) ()with
 | error e=>rfl
 | ok m1=>
  obtain⟨⟩:=m1
  cases hI:(rows (insT f b) (nth f.blocks b).ins.length).foldlM (stF f) ()with
  | error e=>simp only[andE,hI]
  | ok m2=>
   simp only[andE,hI]
   rw[pV];rfl
theorem B7:uAll (blkU f m idom (cd (ofG f.blocks))) f.blocks.length=zr f:=by
 have key : ∀n,n≤f.blocks.length→uAll (blkU f m idom (cd (ofG f.blocks))) n=(thTo f n).foldlM (stF f) ():=by
  intro n
  induction n with
  | zero=>exact fun _=>rfl
  | succ n ih=>
   intro hn
   rw[eK,iO,←ih (by omega)]
   have e:uAll (blkU f m idom (cd (ofG f.blocks))) (n+1)=match uAll (blkU f m idom (cd (ofG f.blocks))) n with | .ok _=>blkU f m idom (cd (ofG f.blocks)) n | .error e=>.error e:=by
    show upE _ (n+1) ()=_
    simp only[upE]
    unfold uAll
    cases upE (fun i (_:Unit)=>blkU f m idom (cd (ofG f.blocks)) i) n ()<;>rfl
   rw[e]
   cases uAll (blkU f m idom (cd (ofG f.blocks))) n with
   | error e=>rfl
   | ok s=>exact Gb hp0 hs hd (by omega)
 rw[key _ (Nat.le_refl _)]
 exact(nH (f:=stF f)).symm
end
theorem wc {f:ah} : ∀k,manyN f k=(jc f k:Int)
 | 0=>rfl
 | k+1=>by
  have ih:=wc (f:=f) k
  unfold manyN at ih ⊢
  rw[up,ih,jc];omega
theorem uT {σ ε:Type} {f g:Nat→σ→Except ε σ} {s:σ} : ∀{n:Nat},(∀i s,i<n→f i s=g i s)→upE f n s=upE g n s
 | 0,_=>rfl
 | n+1,h=>by
  simp only[upE]
  rw[uT (n:=n) fun i s hi=>h i s (by omega)]
  cases upE g n s with
  | ok s'=>exact h n s' (by omega)
  | error e=>rfl
theorem Bm {f:Nat→Unit→Except Tr Unit} : ∀{n:Nat},upE f n () = .ok ()→∀i,i<n→f i () = .ok ()
 | n+1,h,i,hi=>by
  simp only[upE]at h
  cases e:upE f n ()with
  | error t=>rw[e]at h;cases h
  | ok s=>
   rw[e]at h
   rcases Nat.lt_or_ge i n with hlt | hge
   ·exact Bm e i hlt
   ·have:i=n:=by omega
    subst this;exact h
theorem D6{f:ah}(hn:0<f.blocks.length):uAll (rm f) f.blocks.length=wayE f:=by
 unfold uAll wayE
 refine uT fun b s hb=>?_
 unfold rm
 have e:decide ((b:Int)∈a7 (ofG f.blocks))=nth (eo f (-1)) b:=by
  rw[Bool.eq_iff_iff,decide_eq_true_eq,(jg (by rw[dN];exact hn)).mem,fX hb]
 rw[e]
theorem EA{f:ah}(hn:0<f.blocks.length)(hw:wayE f = .ok ())(a b:Int)(h0:0≤a)(h1:a<f.blocks.length)(h2:0≤b)(h3:b<f.blocks.length):
  dY (oQ (ofG f.blocks)) a b=!nth (nth (gK f) a.toNat) b.toNat:=by
 have hR : ∀x:Nat,x<f.blocks.length→Re (ofG f.blocks) (-1) x:=fun x hx=>by
  have:=Bm hw x hx
  rw[←fX hx]
  split at this
  ·assumption
  ·cases this
 have hg:0<(ofG f.blocks).length:=by rw[dN];exact hn
 obtain⟨fp,C,l,hl,I⟩:=vU hg
 have hi:oQ (ofG f.blocks)=l:=by unfold oQ;rw[hl];rfl
 rw[hi]
 have e:=qw I C (a:=a.toNat) (b:=b.toNat) (by rw[dN];omega) (hR _ (by omega))
 rw[Int.toNat_of_nonneg h0,Int.toNat_of_nonneg h2]at e
 rw[e,Bool.eq_iff_iff,nT]
 have ha:nth (gK f) a.toNat=eo f a:=by
  unfold gK
  rw[dm (by omega),Int.toNat_of_nonneg h0]
 rw[ha]
 have hr:=fX (f:=f) (wo:=a) (b:=b.toNat) (by omega)
 have haa:((a.toNat:Nat):Int)=a:=Int.toNat_of_nonneg h0
 rw[haa]
 cases hc:nth (eo f a) b.toNat with
 | true=>
  rw[hc]at hr
  simp[hr.1 rfl]
 | false=>
  rw[hc]at hr
  have hnr:¬Re (ofG f.blocks) a b.toNat:=fun h=>by have:=hr.2 h;cases this
  simp[hnr,hR _ (show a.toNat<f.blocks.length by omega),hR _ (show b.toNat<f.blocks.length by omega)]
theorem wE(f:ah):kU f=tg f:=by
 unfold kU ky tg
 by_cases c1:f.params<0∨4<f.params
 ·have:bA f.params 0 4=false:=by rw[Bool.eq_false_iff];simp[bA];omega
  rw[if_pos this,if_pos c1]
 have hw4:¬bA f.params 0 4=false:=by simp[bA];omega
 rw[if_neg hw4,if_neg c1]
 by_cases c2:f.blocks.length=0
 ·rw[if_pos c2,if_pos c2]
 rw[if_neg c2,if_neg c2]
 have hm:BA f=(jc f f.blocks.length:Int):=wc _
 by_cases c3:512<f.blocks.length∨4096<jc f f.blocks.length
 ·rw[if_pos (by rw[hm];omega),if_pos c3]
 rw[if_neg (by rw[hm];omega),if_neg c3]
 have hp:0≤f.params:=by omega
 have hsh:=Ae hp
 cases hS:kF f (fun _=>none)with
 | error e=>
  cases hR:kf f with
  | ok l=>rw[hS,hR]at hsh;exact hsh.elim
  | error e'=>
   rw[hS,hR]at hsh
   have hee:e=e':=hsh
   subst hee
   obtain⟨k,s',h1,_,h3⟩:=xM hR
   have:=(zG h3).1
   rw[if_pos (by show e.1≠0;omega)]
   rfl
 | ok m=>
  cases hR:kf f with
  | error e'=>rw[hS,hR]at hsh;exact hsh.elim
  | ok l=>
   rw[if_neg (by simp[uS])]
   have hs:=Cy hp hS
   show(match p9 f m (oQ (ofG f.blocks))with | .ok _=>((0,0,0):Tr) | .error t=>t)=_
   unfold p9
   rw[D6 (by omega)]
   cases hW:wayE f with
   | error e=>rfl
   | ok s=>
    obtain⟨⟩:=s
    have:=B7 (f:=f) (m:=m) (idom:=oQ (ofG f.blocks)) (by omega) hs fun a b h0 h1 h2 h3=>EA (by omega) hW a b h0 h1 h2 h3
    show(match uAll (blkU f m (oQ (ofG f.blocks)) (cd (ofG f.blocks))) f.blocks.length with | .ok _=>((0,0,0):Tr) | .error t=>t)=uS (zr f)
    rw[this]
    cases zr f<;>rfl
def Marks (m:BL) (S:Int→Prop):Prop:=m.length=8192∧∀n:Int,0≤n→n<8192→(nth m n.toNat=true↔S n)
theorem Ai:Marks (List.replicate 8192 false) (fun _=>False):=⟨List.length_replicate,fun n h0 h1=>by rw[aq (by omega)];simp⟩
theorem wJ{m:BL}{S:Int→Prop}{n:Int}(h:Marks m S)(h0:0≤n)(h1:n<8192):Marks (m.set n.toNat true) (fun k=>S k∨k=n):=by
 refine⟨by simpa using h.1,fun k k0 k1=>?_⟩
 rw[aH (by rw[h.1];omega)]
 split
 ·rename_i e;exact⟨fun _=>.inr (by omega),fun _=>rfl⟩
 ·rename_i e
  rw[h.2 k k0 k1]
  exact⟨.inl,fun o=>o.resolve_right (by rintro rfl;exact e rfl)⟩
theorem Marks.congr{m:BL}{S T:Int→Prop}(h:Marks m S)(he : ∀n,S n↔T n):Marks m T:=⟨h.1,fun n a b=>(h.2 n a b).trans (he n)⟩
theorem uF {t:Th} : ∀{l:List Int} {m m':BL} {S:Int→Prop},Marks m S→(∀n∈l,0≤n∧n<8192)→l.foldlM (jJ t) m = .ok m'→Marks m' (fun k=>S k∨k∈l)∧l.Nodup∧∀n∈l,¬S n
 | [],m,m',S,h,_,e=>by cases e;exact⟨h.congr fun n=>by simp,List.nodup_nil,fun n hn=>by cases hn⟩
 | a::l,m,m',S,h,hl,e=>by
  rw[List.foldlM_cons]at e
  have ha:=hl a List.mem_cons_self
  unfold jJ at e
  by_cases hc:nth m a.toNat=true
  ·rw[if_pos hc]at e;cases e
  ·rw[if_neg hc]at e
   obtain⟨g1,g2,g3⟩:=uF (wJ h ha.1 ha.2) (fun n hn=>hl n (List.mem_cons_of_mem _ hn)) e
   refine⟨g1.congr fun n=>by rw[List.mem_cons,or_assoc],List.nodup_cons.2 ⟨fun hm=>g3 a hm (.inr rfl),g2⟩,fun n hn=>?_⟩
   rcases List.mem_cons.1 hn with rfl | hn
   ·exact fun hs=>hc ((h.2 n ha.1 ha.2).2 hs)
   ·exact fun hs=>g3 n hn (.inl hs)
theorem tQ {t:Th} : ∀{l:List Int} {m:BL} {S:Int→Prop},Marks m S→(∀n∈l,0≤n∧n<8192)→l.Nodup→(∀n∈l,¬S n)→∃m',l.foldlM (jJ t) m = .ok m'
 | [],m,S,h,_,_,_=>⟨m,rfl⟩
 | a::l,m,S,h,hl,hd,hs=>by
  have ha:=hl a List.mem_cons_self
  rw[List.foldlM_cons]
  unfold jJ
  rw[if_neg fun hc=>hs a List.mem_cons_self ((h.2 a ha.1 ha.2).1 hc)]
  obtain⟨d1,d2⟩:=List.nodup_cons.1 hd
  refine tQ (wJ h ha.1 ha.2) (fun n hn=>hl n (List.mem_cons_of_mem _ hn)) d2 fun n hn=>?_
  rintro(g | rfl)
  ·exact hs n (List.mem_cons_of_mem _ hn) g
  ·exact d1 hn
structure mG (f:ah) (t:Th):Prop where
 op:lH f t=true→lh (tL f t)=false
 term:jh f t=true→jq (fQ f t).term=true
 mks : ∀n∈t.mks,f.params≤n∧n≤8191
 to:jh f t=true→∀n∈(fQ f t).term.to,1≤n∧n<f.blocks.length
theorem C7{t:Th}{m:BL}:upE (oG t) t.mks.length m=t.mks.foldlM (jJ t) m:=nH (f:=jJ t)
theorem any_false{p:α→Bool}{l:List α}:l.any p=false↔∀n∈l,p n=false:=by
 rw[List.any_eq_false]
 exact forall_congr' fun n=>forall_congr' fun _=>by simp
theorem ES{f:ah}{n:Int}:lr f n=false↔f.params≤n∧n≤8191:=by simp[lr]
theorem Fa{f:ah}{n:Int}:tz f n=false↔1≤n∧n<f.blocks.length:=by simp[tz]
theorem zo{f:ah}{t:Th}{m m':BL}(h:mG f t)(e:t.mks.foldlM (jJ t) m = .ok m'):iL f t m = .ok m':=by
 unfold iL
 rw[if_neg,if_neg,if_neg]
 ·rw[C7,e]
  unfold mq
  dsimp only
  rw[if_neg]
  intro c
  obtain⟨c1,c2⟩:=(Bool.and_eq_true _ _).mp c
  rw[any_false.2 fun n hn=>Fa.2 (h.to c1 n hn)]at c2
  cases c2
 ·rw[any_false.2 fun n hn=>ES.2 (h.mks n hn)];exact Bool.false_ne_true
 ·intro c
  obtain⟨c1,c2⟩:=(Bool.and_eq_true _ _).mp c
  rw[h.term c1]at c2;cases c2
 ·intro c
  obtain⟨c1,c2⟩:=(Bool.and_eq_true _ _).mp c
  rw[h.op c1]at c2;cases c2
def gP (l:List Th):List Int:=l.flatMap Th.mks
theorem sV {f:ah} (hp:0≤f.params) : ∀{l:List Th} {m:BL} {S:Int→Prop},Marks m S→(∀t∈l,mG f t)→(gP l).Nodup→(∀n∈gP l,¬S n)→∃m',l.foldlM (fun m t=>iL f t m) m = .ok m'
 | [],m,S,_,_,_,_=>⟨m,rfl⟩
 | t::l,m,S,h,hg,hd,hs=>by
  have g:=hg t List.mem_cons_self
  obtain⟨d1,d2,d3⟩:=List.nodup_append.1 (show(t.mks++gP l).Nodup from hd)
  have hr : ∀n∈t.mks,0≤n∧n<8192:=fun n hn=>by have:=g.mks n hn;omega
  obtain⟨m1,e⟩:=tQ (t:=t) h hr d1 fun n hn=>hs n (List.mem_append_left _ hn)
  rw[List.foldlM_cons,zo g e]
  obtain⟨k1,_,_⟩:=uF h hr e
  exact sV hp k1 (fun x hx=>hg x (List.mem_cons_of_mem _ hx)) d2 fun n hn=>by
   rintro(q | q)
   ·exact hs n (List.mem_append_right _ hn) q
   ·exact d3 n q n hn rfl
def fh (f:ah) (v b p:Int):Prop:=(0≤v∧v<f.params)∨∃t∈aF f,v∈t.mks∧(t.blk=b∧(t.place<0∨t.place<p)∨t.blk≠b∧¬Re (ofG f.blocks) t.blk b.toNat)
structure DM (ts:List Th) (s:List Th):Prop where
 len:s.length=8192
 is : ∀n:Int,0≤n→n<8192→(nth s n.toNat=noTh∧∀t∈ts,n∉t.mks)∨(nth s n.toNat∈ts∧n∈(nth s n.toNat).mks)
theorem zA {t:Th} {ts:List Th} : ∀{l:List Int} {s:List Th} {d:List Int},(∀n∈l,n∈t.mks)→(s.length=8192∧∀n:Int,0≤n→n<8192→(nth s n.toNat=noTh∧(∀t∈ts,n∉t.mks)∧n∉d)∨(nth s n.toNat∈ts++[t]∧n∈(nth s n.toNat).mks))→
  ((l.foldl (fm t) s).length=8192∧∀n:Int,0≤n→n<8192→(nth (l.foldl (fm t) s) n.toNat=noTh∧(∀t∈ts,n∉t.mks)∧n∉d++l)∨(nth (l.foldl (fm t) s) n.toNat∈ts++[t]∧n∈(nth (l.foldl (fm t) s) n.toNat).mks))
 | [],s,d,_,h=>by simpa using h
 | a::l,s,d,hl,h=>by
  rw[List.foldl_cons]
  have:=zA (t:=t) (ts:=ts) (l:=l) (s:=fm t s a) (d:=d++[a]) (fun n hn=>hl n (List.mem_cons_of_mem _ hn)) ⟨by rw[mB];exact h.1,fun n h0 h1=>?_⟩
  ·simpa using this
  ·unfold fm
   split
   ·rw[aH (by rw[h.1];omega)]
    split
    ·rename_i hc e
     have:n=a:=by omega
     subst this
     exact .inr ⟨List.mem_append_right _ (List.mem_singleton.2 rfl),hl n List.mem_cons_self⟩
    ·rename_i hc e
     rcases h.2 n h0 h1 with⟨a1,a2,a3⟩ | a1
     ·refine .inl ⟨a1,a2,?_⟩
      rw[List.mem_append,List.mem_singleton]
      rintro(q | rfl)
      ·exact a3 q
      ·exact e rfl
     ·exact .inr a1
   ·rename_i hc
    rcases h.2 n h0 h1 with⟨a1,a2,a3⟩ | a1
    ·refine .inl ⟨a1,a2,?_⟩
     rw[List.mem_append,List.mem_singleton]
     rintro(q | rfl)
     ·exact a3 q
     ·exact hc ⟨h0,h1⟩
    ·exact .inr a1
theorem yF : ∀{l ts s:List Th},DM ts s→DM (ts++l) (l.foldl pU s)
 | [],ts,s,h=>by simpa using h
 | t::l,ts,s,h=>by
  rw[List.foldl_cons]
  have:=zA (t:=t) (ts:=ts) (l:=t.mks) (s:=s) (d:=[]) (fun n hn=>hn) ⟨h.len,fun n h0 h1=>(h.is n h0 h1).elim (fun a=>.inl ⟨a.1,a.2,List.not_mem_nil⟩) fun a=>.inr ⟨List.mem_append_left _ a.1,a.2⟩⟩
  have:=yF (l:=l) (ts:=ts++[t]) (s:=pU s t) ⟨this.1,fun n h0 h1=>(this.2 n h0 h1).elim (fun a=>.inl ⟨a.1,fun x hx=>?_⟩) .inr⟩
  ·simpa using this
  ·rcases List.mem_append.1 hx with hx | hx
   ·exact a.2.1 x hx
   ·rw[List.mem_singleton.1 hx];simpa using a.2.2
theorem Cn{f:ah}:DM (aF f) (iD f):=
 yF (l:=aF f) (ts:=[]) (s:=List.replicate 8192 noTh) ⟨List.length_replicate,fun n h0 h1=>.inl ⟨aq (by omega),fun t ht=>by cases ht⟩⟩
theorem nI{f:ah}{t:Th}(h:t∈aF f):0≤t.blk∧t.blk<f.blocks.length:=by
 obtain⟨b,hb,ht⟩:=bC.1 h
 rcases bU.1 ht with⟨i,hi,rfl⟩ | ⟨i,hi,rfl⟩ | rfl<;>exact⟨Int.natCast_nonneg _,Int.ofNat_lt.2 hb⟩
theorem F7{f:ah}{a b:Int}(h0:0≤a)(h1:a<f.blocks.length)(h2:0≤b)(h3:b<f.blocks.length):nth (nth (gK f) a.toNat) b.toNat=true↔Re (ofG f.blocks) a b.toNat:=by
 unfold gK
 rw[dm (by omega),Int.toNat_of_nonneg h0]
 exact fX (by omega)
theorem yR : ∀{l:List Th},(gP l).Nodup→∀{t t':Th} {v:Int},t∈l→t'∈l→v∈t.mks→v∈t'.mks→t=t'
 | a::l,hd,t,t',v,h,h',hv,hv'=>by
  obtain⟨d1,d2,d3⟩:=List.nodup_append.1 (show(a.mks++gP l).Nodup from hd)
  rcases List.mem_cons.1 h with e1 | h1
  ·rcases List.mem_cons.1 h' with e2 | h2
   ·rw[e1,e2]
   ·exact absurd rfl (d3 v (by rw[←e1];exact hv) v (List.mem_flatMap.2 ⟨t',h2,hv'⟩))
  ·rcases List.mem_cons.1 h' with e2 | h2
   ·exact absurd rfl (d3 v (by rw[←e2];exact hv') v (List.mem_flatMap.2 ⟨t,h1,hv⟩))
   ·exact yR d2 h1 h2 hv hv'
theorem wu{f:ah}{v b p:Int}(hd:(gP (aF f)).Nodup)(hr : ∀t∈aF f,∀n∈t.mks,0≤n∧n≤8191)(hb0:0≤b)(hb1:b<f.blocks.length)(h:fh f v b p):iq f (iD f) (gK f) v b p=true:=by
 unfold iq
 rcases h with c | ⟨t,ht,hv,h⟩
 ·rw[if_pos c]
 split
 ·rfl
 have hn:=hr t ht v hv
 have hat:=nI ht
 have e:nth (iD f) v.toNat=t:=by
  rcases Cn.is v hn.1 (by omega)with⟨_,a⟩ | ⟨a,b⟩
  ·exact absurd hv (a t ht)
  ·exact yR hd a ht b hv
 rw[e,if_neg (by omega)]
 rcases h with⟨h1,h2⟩ | ⟨h1,h2⟩
 ·rw[if_pos h1];simpa using h2
 ·rw[if_neg h1]
  cases ec:nth (nth (gK f) t.blk.toNat) b.toNat with
  | false=>rfl
  | true=>exact absurd ((F7 hat.1 hat.2 hb0 hb1).1 ec) h2
structure iB (f:ah):Prop where
 params:0≤f.params∧f.params≤4
 blocks:0<f.blocks.length∧f.blocks.length≤512
 cnt:jc f f.blocks.length≤4096
 good : ∀t∈aF f,mG f t
 nodup:(gP (aF f)).Nodup
 way : ∀b:Nat,b<f.blocks.length→Re (ofG f.blocks) (-1) b
 takes : ∀t∈aF f,0≤t.place→∀v∈t.tks,fh f v t.blk t.place
 phi : ∀b i:Nat,b<f.blocks.length→i<(nth f.blocks b).phis.length→0<b∧(nth (nth f.blocks b).phis i).ins.map InD.frm=aw f b∧∀p∈(nth (nth f.blocks b).phis i).ins,fh f p.val p.frm (nE f p.frm)
theorem qu{f:ah}{b x:Int}:x∈aw f b↔(0≤x∧x<f.blocks.length)∧b∈(nth f.blocks x.toNat).term.to:=by
 unfold aw
 rw[jV]
 constructor
 ·rintro⟨a,ha,hb,rfl⟩
  exact⟨⟨by omega,by omega⟩,by simpa using hb⟩
 ·rintro⟨⟨h0,h1⟩,h⟩
  exact⟨x.toNat,by omega,by simpa using h,by omega⟩
theorem s7 {g:Nat→Unit→Except Tr Unit} : ∀{n:Nat},(∀i,i<n→g i () = .ok ())→upE g n () = .ok ()
 | 0,_=>rfl
 | n+1,h=>by
  simp only[upE]
  rw[s7 fun i hi=>h i (by omega)]
  exact h n (by omega)
theorem D9{f:ah}{t:Th}:iu f (iD f) (gK f) t = .ok ()↔
  (0≤t.place∧∀v∈t.tks,iq f (iD f) (gK f) v t.blk t.place=true)∨(t.place<0∧qm f t=true∧∀p∈(oX f t).ins,iq f (iD f) (gK f) p.val p.frm (nE f p.frm)=true):=by
 unfold iu
 by_cases h0:0≤t.place
 ·rw[if_pos h0]
  have hn:¬t.place<0:=by omega
  simp only[h0,hn,true_and,false_and,or_false]
  cases e:t.tks.any (stT f (iD f) (gK f) t)with
  | true=>
   obtain⟨v,hv,hs⟩:=List.any_eq_true.1 e
   constructor
   ·intro h;cases h
   ·intro h
    unfold stT at hs
    rw[h v hv]at hs;cases hs
  | false=>
   constructor
   ·intro _ v hv
    have:=any_false.1 e v hv
    simpa[stT]using this
   ·intro _;rfl
 ·rw[if_neg h0]
  have hn:t.place<0:=by omega
  simp only[h0,hn,true_and,false_and,false_or]
  cases e1:qm f t with
  | false=>simp
  | true=>
   rw[if_neg (by simp)]
   cases e:(oX f t).ins.any (stP f (iD f) (gK f))with
   | true=>
    obtain⟨v,hv,hs⟩:=List.any_eq_true.1 e
    constructor
    ·intro h;cases h
    ·rintro⟨_,h⟩
     unfold stP at hs
     rw[h v hv]at hs;cases hs
   | false=>
    constructor
    ·intro _
     refine⟨rfl,fun v hv=>?_⟩
     have:=any_false.1 e v hv
     simpa[stP]using this
    ·intro _;rfl
theorem Ek{f:ah}{i:Nat}:oX f (phiT f b i)=nth (nth f.blocks b).phis i:=by
 unfold oX fQ phiT
 dsimp only
 rw[Int.toNat_natCast]
 congr 1
 omega
theorem zN{f:ah}(h:iB f):kU f=(0,0,0):=by
 rw[wE]
 have hp:=h.params
 have hb:=h.blocks
 have hc:=h.cnt
 have hr : ∀t∈aF f,∀n∈t.mks,0≤n∧n≤8191:=fun t ht n hn=>by have:=(h.good t ht).mks n hn;omega
 unfold tg
 rw[if_neg (by omega),if_neg (by omega),if_neg (by omega)]
 obtain⟨m,hm⟩:=sV (f:=f) (by omega) Ai h.good h.nodup fun _ _=>id
 rw[oP,hm,if_neg (by simp[uS])]
 have hw:wayE f = .ok ():=s7 fun i hi=>if_pos ((fX hi).2 (h.way i hi))
 have hu:zr f = .ok ():=s7 fun i hi=>by
  have ht:=bw hi
  generalize nth (aF f) i=t at ht
  rw[D9]
  have hat:=nI ht
  by_cases h0:0≤t.place
  ·exact .inl ⟨h0,fun v hv=>wu h.nodup hr hat.1 hat.2 (h.takes t ht h0 v hv)⟩
  ·refine .inr ⟨by omega,?_⟩
   obtain⟨b,hb,hm⟩:=bC.1 ht
   rcases bU.1 hm with⟨i,hi,rfl⟩ | ⟨i,hi,rfl⟩ | rfl
   ·obtain⟨k1,k2,k3⟩:=h.phi b i hb hi
    unfold qm
    rw[Ek]
    refine⟨(Bool.and_eq_true _ _).mpr ⟨decide_eq_true (by show(0:Int)<b;omega),decide_eq_true k2⟩,fun p hp=>?_⟩
    have hm:p.frm∈aw f b:=by rw[←k2];exact List.mem_map_of_mem hp
    have:=(qu.1 hm).1
    exact wu h.nodup hr this.1 this.2 (k3 p hp)
   ·exact absurd (Int.natCast_nonneg _) h0
   ·exact absurd (Int.natCast_nonneg _) h0
 rw[hw,hu]
 rfl
def mkB (x:BlkD):List Int:=x.phis.map PhiD.dst++x.ins.flatMap a6
def Sd (m:MS) (b p:Nat) (v:Int):Prop:=
 (0≤v∧v<m.ps)∨v∈(nth m.blocks b).phis.map PhiD.dst∨v∈((nth m.blocks b).ins.take p).flatMap a6∨∃a,a<m.blocks.length∧a≠b∧v∈mkB (nth m.blocks a)∧¬Re (ofG m.blocks) a b
structure Ext (m m':MS):Prop where
 ps:m'.ps=m.ps
 len:m'.blocks.length=m.blocks.length
 to : ∀j,(nth m'.blocks j).term.to=(nth m.blocks j).term.to
 phis : ∀j,∀v∈(nth m.blocks j).phis.map PhiD.dst,v∈(nth m'.blocks j).phis.map PhiD.dst
 ins : ∀j,∃l,(nth m'.blocks j).ins=(nth m.blocks j).ins++l
theorem CK{a b:List BlkD}(hl:a.length=b.length)(h : ∀j,(nth a j).term.to=(nth b j).term.to):ofG a=ofG b:=by
 unfold ofG
 rw[hl]
 exact congrFun (congrArg rows (funext fun i=>by rw[h i])) _
section
variable {m m' m2:MS}
theorem Ext.gr(e:Ext m m'):ofG m'.blocks=ofG m.blocks:=CK e.len e.to
theorem Ext.refl:Ext m m:=⟨rfl,rfl,fun _=>rfl,fun _ _ h=>h,fun _=>⟨[],by simp⟩⟩
theorem Ext.trans (e:Ext m m') (f:Ext m' m2):Ext m m2:=⟨f.ps.trans e.ps,f.len.trans e.len,fun j=>(f.to j).trans (e.to j),fun j v h=>f.phis j v (e.phis j v h),fun j=>by
 obtain⟨l,h⟩:=e.ins j
 obtain⟨k,g⟩:=f.ins j
 exact⟨l++k,by rw[g,h,List.append_assoc]⟩⟩
theorem Ext.mkB (e:Ext m m') {j:Nat} {v:Int} (h:v∈mkB (nth m.blocks j)):v∈mkB (nth m'.blocks j):=by
 obtain⟨l,g⟩:=e.ins j
 unfold Go.Proofs.YtbkdlhkoiagbbaaGreat.mkB at *
 rw[g,List.flatMap_append]
 rcases List.mem_append.1 h with h | h
 ·exact List.mem_append_left _ (e.phis _ _ h)
 ·exact List.mem_append_right _ (List.mem_append_left _ h)
theorem Ext.le(e:Ext m m')(j:Nat):(nth m.blocks j).ins.length≤(nth m'.blocks j).ins.length:=by
 obtain⟨l,g⟩:=e.ins j
 rw[g,List.length_append];omega
theorem Sd.ext(e:Ext m m'){b p:Nat}{v:Int}(h:Sd m b p v):Sd m' b p v:=by
 rcases h with h | h | h | ⟨a,h1,h2,h3,h4⟩
 ·exact .inl (by rw[e.ps];exact h)
 ·exact .inr (.inl (e.phis _ _ h))
 ·obtain⟨l,g⟩:=e.ins b
  refine .inr (.inr (.inl ?_))
  rw[g,List.take_append,List.flatMap_append]
  exact List.mem_append_left _ h
 ·exact .inr (.inr (.inr ⟨a,by rw[e.len];exact h1,h2,e.mkB h3,by rw[e.gr];exact h4⟩))
theorem Sd.le{p q:Nat}{v:Int}(h:Sd m b p v)(hpq:p≤q):Sd m b q v:=by
 rcases h with h | h | h | h
 ·exact .inl h
 ·exact .inr (.inl h)
 ·refine .inr (.inr (.inl ?_))
  obtain⟨i,hi,hv⟩:=List.mem_flatMap.1 h
  exact List.mem_flatMap.2 ⟨i,(List.take_sublist_take_left hpq).subset hi,hv⟩
 ·exact .inr (.inr (.inr h))
theorem Sd.end(e:Ext m m'){v:Int}(h:Sd m b (nth m.blocks b).ins.length v):Sd m' b (nth m'.blocks b).ins.length v:=(h.ext e).le (e.le b)
def NumI (i:InsD):Prop:=(i.op=16→i.dst=0)∧(i.op≠18→i.two=0)
structure Ok (m:MS):Prop where
 p0:0≤m.ps
 pn:m.ps≤m.next
 op : ∀b,b<m.blocks.length→∀i∈(nth m.blocks b).ins,lh i=false∧NumI i
 nd : ∀b,b<m.blocks.length→(mkB (nth m.blocks b)).Nodup
 dj : ∀a b,a<m.blocks.length→b<m.blocks.length→a≠b→∀v∈mkB (nth m.blocks a),v∉mkB (nth m.blocks b)
 rg : ∀b,b<m.blocks.length→∀v∈mkB (nth m.blocks b),m.ps≤v∧v<m.next
 tk : ∀b,b<m.blocks.length→∀i,i<(nth m.blocks b).ins.length→∀v∈(nth (nth m.blocks b).ins i).args,Sd m b i v
 tm : ∀b,b<m.blocks.length→∀v∈(nth m.blocks b).term.args,Sd m b (nth m.blocks b).ins.length v
theorem Ok.at(q:Ok m){a:Nat}{nx:Int}{l:List Int}(h:m.next≤nx):Ok ⟨a,m.ps,m.blocks,nx,l⟩:=
 ⟨q.p0,Int.le_trans q.pn h,q.op,q.nd,q.dj,fun b hb v hv=>⟨(q.rg b hb v hv).1,Int.lt_of_lt_of_le (q.rg b hb v hv).2 h⟩,q.tk,q.tm⟩
theorem n7{j:Nat}{i:InsD}(hb:b<m.blocks.length):nth (m.add b i).blocks j=if b=j then{ nth m.blocks b with ins:=(nth m.blocks b).ins++[i] } else nth m.blocks j:=by
 show nth (m.blocks.set b _) j=_
 rcases Nat.lt_or_ge j m.blocks.length with hl | hl
 ·rw[aH hl]
 ·rw[aV (by simpa using hl),if_neg (by omega),aV hl]
theorem xe{i:InsD}(hb:b<m.blocks.length):Ext m (m.add b i):=by
 refine⟨rfl,jB,fun j=>?_,fun j=>?_,fun j=>?_⟩<;>rw[n7 hb]<;>split
 ·rename_i e;rw[e]
 ·rfl
 ·rename_i e;rw[e];exact fun _ h=>h
 ·exact fun _ h=>h
 ·rename_i e;rw[e];exact⟨[i],rfl⟩
 ·exact⟨[],by simp⟩
theorem sE{x:BlkD}{i:InsD}:mkB { x with ins:=x.ins++[i] }=mkB x++a6 i:=by
 unfold mkB
 simp
theorem Ok.add (q:Ok m) {b a:Nat} {nx:Int} {i:InsD} {l:List Int} (hb:b<m.blocks.length) (hn:m.next≤nx) (hf : ∀v∈a6 i,m.next≤v∧v<nx) (hd:(a6 i).Nodup) (ho:lh i=false∧NumI i) (ha : ∀v∈i.args,Sd m b (nth m.blocks b).ins.length v) :
  Ok (MS.add ⟨a,m.ps,m.blocks,nx,l⟩ b i):=by
 have q1:=q.pn
 have q:=q.at (a:=a) (l:=l) hn
 have ha : ∀v∈i.args,Sd ⟨a,m.ps,m.blocks,nx,l⟩ b (nth m.blocks b).ins.length v:=ha
 have q0 : ∀b,b<m.blocks.length→∀v∈mkB (nth m.blocks b),v<m.next:=fun b hb v hv=>(‹Ok m›.rg b hb v hv).2
 have hl:((⟨a,m.ps,m.blocks,nx,l⟩:MS).add b i).blocks.length=m.blocks.length:=jB
 have e:=xe (m:=⟨a,m.ps,m.blocks,nx,l⟩) (i:=i) hb
 have hnth : ∀j,nth ((⟨a,m.ps,m.blocks,nx,l⟩:MS).add b i).blocks j=if b=j then{ nth m.blocks b with ins:=(nth m.blocks b).ins++[i] } else nth m.blocks j:=fun j=>n7 hb
 refine⟨q.p0,q.pn,fun c hc=>?_,fun c hc=>?_,fun c d hc hd' hcd=>?_,fun c hc=>?_,fun c hc=>?_,fun c hc=>?_⟩<;>rw[hl]at hc
 ·rw[hnth];split
  ·intro x hx
   rcases List.mem_append.1 hx with hx | hx
   ·exact q.op b hb x hx
   ·rw[List.mem_singleton.1 hx];exact ho
  ·exact q.op c hc
 ·rw[hnth];split
  ·rw[sE]
   refine List.nodup_append.2 ⟨q.nd b hb,hd,fun x hx y hy=>?_⟩
   have:=q0 b hb x hx
   have:=(hf y hy).1
   omega
  ·exact q.nd c hc
 ·rw[hl]at hd'
  rw[hnth,hnth]
  intro v hv hv'
  split at hv
  ·rename_i e1;subst e1
   rw[if_neg hcd]at hv'
   rw[sE]at hv
   rcases List.mem_append.1 hv with hv | hv
   ·exact q.dj _ _ hc hd' hcd v hv hv'
   ·have:=q0 d hd' v hv';have:=(hf v hv).1;omega
  ·split at hv'
   ·rename_i e1;subst e1
    rw[sE]at hv'
    rcases List.mem_append.1 hv' with hv' | hv'
    ·exact q.dj _ _ hc hd' hcd v hv hv'
    ·have:=q0 c hc v hv;have:=(hf v hv').1;omega
   ·exact q.dj _ _ hc hd' hcd v hv hv'
 ·rw[hnth];split
  ·intro v hv
   rw[sE]at hv
   rcases List.mem_append.1 hv with hv | hv
   ·exact q.rg b hb v hv
   ·have h1:=hf v hv;have h2:m.ps≤m.next:=q1;exact⟨by show m.ps≤v;omega,h1.2⟩
  ·exact q.rg c hc
 ·intro k hk v hv
  refine Sd.ext e ?_
  rw[hnth]at hk hv
  split at hk
  ·rename_i e1;subst e1
   rw[if_pos rfl]at hv
   rw[show({ nth m.blocks b with ins:=(nth m.blocks b).ins++[i] }:BlkD).ins=(nth m.blocks b).ins++[i] from rfl]at hk hv
   rw[List.length_append,List.length_singleton]at hk
   rcases Nat.lt_or_ge k (nth m.blocks b).ins.length with h | h
   ·rw[ak (by simp;omega),List.getElem_append_left h,←ak h]at hv
    exact q.tk b hb k h v hv
   ·have:k=(nth m.blocks b).ins.length:=by omega
    subst this
    rw[ak (by simp),List.getElem_append_right (Nat.le_refl _)]at hv
    simp at hv
    exact ha v hv
  ·rename_i e1
   rw[if_neg e1]at hv
   exact q.tk c hc k hk v hv
 ·intro v hv
  have ht:(nth ((⟨a,m.ps,m.blocks,nx,l⟩:MS).add b i).blocks c).term=(nth m.blocks c).term:=by
   rw[hnth];split
   ·rename_i e1;rw[e1]
   ·rfl
  rw[ht]at hv
  exact(q.tm c hc v hv).end e
theorem C5{a:Nat}{nx:Int}{i:InsD}{l:List Int}(hb:b<m.blocks.length){v:Int}(hv:v∈a6 i):Sd (MS.add ⟨a,m.ps,m.blocks,nx,l⟩ b i) b (nth (MS.add ⟨a,m.ps,m.blocks,nx,l⟩ b i).blocks b).ins.length v:=by
 rw[n7 (m:=⟨a,m.ps,m.blocks,nx,l⟩) hb,if_pos rfl]
 refine .inr (.inr (.inl ?_))
 rw[n7 (m:=⟨a,m.ps,m.blocks,nx,l⟩) hb,if_pos rfl]
 show v∈((((nth m.blocks b).ins++[i]).take ((nth m.blocks b).ins++[i]).length).flatMap a6)
 rw[List.take_length,List.flatMap_append]
 exact List.mem_append_right _ (by simpa using hv)
structure In (b:Nat) (m:MS):Prop where
 ok:Ok m
 lt:b<m.blocks.length
 live : ∀v∈m.live,Sd m b (nth m.blocks b).ins.length v
structure Wk (b k:Nat) (m m':MS):Prop where
 inn:In b m'
 live : ∀v∈m.live,v∈m'.live
 n0:m.next≤m'.next
 nx:m'.next≤m.next+k
 ins:(nth m'.blocks b).ins.length≤(nth m.blocks b).ins.length+k
 ext:Ext m m'
variable {b c k l:Nat} {s:List Int}
theorem Wk.refl (q:In b m):Wk b 0 m m:=⟨q,fun _ h=>h,Int.le_refl _,by omega,Nat.le_refl _,.refl⟩
theorem Wk.trans (g:Wk b k m m') (h:Wk b l m' m2):Wk b (k+l) m m2:=
 ⟨h.inn,fun v hv=>h.live v (g.live v hv),Int.le_trans g.n0 h.n0,by have:=g.nx;have:=h.nx;omega,by have:=g.ins;have:=h.ins;omega,g.ext.trans h.ext⟩
theorem Wk.mono(g:Wk b k m m')(h:k≤l):Wk b l m m':=⟨g.inn,g.live,g.n0,by have:=g.nx;omega,by have:=g.ins;omega,g.ext⟩
theorem In.took (q:In b m):In b m.took:=⟨q.ok.at (Int.le_refl _),q.lt,q.live⟩
theorem Ext.same(e:Ext m m'){m2:MS}(h1:m2.ps=m'.ps)(h2:m2.blocks=m'.blocks):Ext m m2:=by
 obtain⟨a,b,c,d,f⟩:=e
 exact⟨by rw[h1];exact a,by rw[h2];exact b,by rw[h2];exact c,by rw[h2];exact d,by rw[h2];exact f⟩
theorem Ext.frm{m2:MS}(e:Ext m2 m')(h1:m2.ps=m.ps)(h2:m2.blocks=m.blocks):Ext m m':=by
 obtain⟨a,b,c,d,f⟩:=e
 rw[h2]at b c d f
 exact⟨by rw[←h1];exact a,b,c,d,f⟩
theorem Wk.took (g:Wk b k m m'):Wk b k m m'.took:=⟨g.inn.took,g.live,g.n0,g.nx,g.ins,g.ext.same rfl rfl⟩
theorem In.add (q:In b m) {a:Nat} {j:Nat} {i:InsD} (hj:j≤2) (hf : ∀v∈a6 i,m.next≤v∧v<m.next+j) (hd:(a6 i).Nodup) (ho:lh i=false∧NumI i) (ha : ∀v∈i.args,v∈m.live) :
  Wk b (max 1 j) m (MS.add ⟨a,m.ps,m.blocks,m.next+j,m.live⟩ b i)∧∀v∈a6 i,v∈(MS.add ⟨a,m.ps,m.blocks,m.next+j,m.live⟩ b i).live:=by
 have e:Ext m (MS.add ⟨a,m.ps,m.blocks,m.next+j,m.live⟩ b i):=(xe (m:=⟨a,m.ps,m.blocks,m.next+j,m.live⟩) (i:=i) q.lt).frm rfl rfl
 refine⟨⟨⟨q.ok.add q.lt (by omega) hf hd ho fun v hv=>q.live v (ha v hv),by rw[e.len];exact q.lt,fun v hv=>?_⟩,fun v hv=>List.mem_append_left _ hv,by show m.next≤m.next+j;omega,by show m.next+j≤_;omega,?_,e⟩,fun v hv=>List.mem_append_right _ hv⟩
 ·rcases List.mem_append.1 (show v∈m.live++a6 i from hv)with h | h
  ·exact(q.live v h).end e
  ·exact C5 q.lt h
 ·rw[n7 (m:=⟨a,m.ps,m.blocks,m.next+j,m.live⟩) q.lt,if_pos rfl]
  show((nth m.blocks b).ins++[i]).length≤_
  rw[List.length_append,List.length_singleton];omega
theorem In.one(q:In b m){op:Int}{a:Nat}{x:List Int}{im:I32}(h16:op≠16)(h18:op≠18)(ho:lh ⟨op,m.next,0,x,im⟩=false)(ha : ∀v∈x,v∈m.live):
  Wk b 1 m (MS.add ⟨a,m.ps,m.blocks,m.next+1,m.live⟩ b ⟨op,m.next,0,x,im⟩)∧m.next∈(MS.add ⟨a,m.ps,m.blocks,m.next+1,m.live⟩ b ⟨op,m.next,0,x,im⟩).live:=by
 have e:a6 ⟨op,m.next,0,x,im⟩=[m.next]:=by unfold a6;rw[if_neg h16,if_neg h18]
 have:=q.add (a:=a) (j:=1) (i:=⟨op,m.next,0,x,im⟩) (by omega) (by rw[e];intro v hv;rw[List.mem_singleton.1 hv];omega) (by rw[e];simp) ⟨ho,fun h=>absurd h h16,fun _=>rfl⟩ ha
 exact⟨this.1,this.2 _ (by rw[e];exact List.mem_singleton.2 rfl)⟩
theorem In.constant (q:In b m) {n:Int}:Wk b 1 m (m.constant b n)∧m.next∈(m.constant b n).live:=
 q.one (a:=m.at_) (op:=1) (by decide) (by decide) rfl fun v hv=>by cases hv
theorem In.two (q:In b m) {op x y:Int} (h1:2≤op) (h2:op≤14) (hx:x∈m.live) (hy:y∈m.live):Wk b 1 m (m.two b op x y)∧m.next∈(m.two b op x y).live:=by
 refine q.one (a:=m.at_) (op:=op) (by omega) (by omega) ?_ fun v hv=>?_
 ·have e1:¬op<1:=by omega
  have e2:¬18<op:=by omega
  have e3:op≠1:=by omega
  have e4:op≠15:=by omega
  have e5:op≠17:=by omega
  simp[lh,qz,e1,e2,e3,e4,e5]
 ·rcases List.mem_cons.1 hv with rfl | hv
  ·exact hx
  ·rw[List.mem_singleton.1 hv];exact hy
theorem In.ey(q:In b m):Wk b 1 m (aA s m b).2∧(aA s m b).1∈(aA s m b).2.live:=by
 unfold aA
 split
 ·obtain⟨h1,h2⟩:=q.took.took.constant (n:=iG s m)
  exact⟨(Wk.refl q).took.took.trans h1,h2⟩
 ·split
  ·obtain⟨h1,h2⟩:=q.took.took.took.took.took.constant (n:=iG s m.took.took.took)
   exact⟨(Wk.refl q).took.took.took.took.took.trans h1,h2⟩
  ·rename_i h _
   refine⟨(Wk.refl q).took.took.took.mono (by omega),?_⟩
   show rE s m∈m.live
   have:=bj (s:=s) (at_:=m.at_) (n:=(m.live.length:Int)) (by omega)
   unfold rE
   refine bw ?_
   split<;>omega
theorem In.bin(q:In b m){op:Int}(h1:2≤op)(h2:op≤14):Wk b 4 m (binS s m b op):=by
 obtain⟨w1,e1⟩:=q.ey (s:=s)
 obtain⟨w2,e2⟩:=w1.inn.ey (s:=s)
 unfold binS
 simp only
 split
 ·obtain⟨w3,e3⟩:=w2.inn.took.took.constant (n:=IntKind.i32.wrap (IntKind.i64.wrap (az s ((aA s (aA s m b).2 b).2.at_+1) 40-8)))
  obtain⟨w4,_⟩:=w3.inn.two h1 h2 (w3.live _ (w2.live _ e1)) e3
  exact((w1.trans w2).took.took.trans w3).trans w4
 ·obtain⟨w4,_⟩:=w2.inn.took.two h1 h2 (w2.live _ e1) e2
  exact((w1.trans w2).took.trans w4).mono (by omega)
theorem In.ltu(q:In b m):Wk b 3 m (ltuS s m b):=by
 obtain⟨w1,e1⟩:=q.ey (s:=s)
 obtain⟨w2,e2⟩:=w1.inn.ey (s:=s)
 obtain⟨w3,_⟩:=w2.inn.two (op:=13) (by decide) (by decide) (w2.live _ e1) e2
 exact(w1.trans w2).trans w3
theorem In.div(q:In b m):Wk b 4 m (divS s m b):=by
 obtain⟨w1,e1⟩:=q.ey (s:=s)
 obtain⟨w2,e2⟩:=w1.inn.took.constant (n:=IntKind.i32.wrap (az s (aA s m b).2.at_ 12))
 unfold divS
 simp only
 split
 ·obtain⟨w3,e3⟩:=w2.inn.took.took.constant (n:=IntKind.i32.wrap (1+IntKind.i32.wrap (az s (((aA s m b).2.took.constant b (IntKind.i32.wrap (az s (aA s m b).2.at_ 12))).at_+1) 12)))
  obtain⟨w4,_⟩:=w3.inn.two (op:=14) (by decide) (by decide) (w3.live _ (w2.live _ e1)) e3
  exact(((w1.took.trans w2).took.took.trans w3).trans w4)
 ·obtain⟨w4,_⟩:=w2.inn.took.two (op:=14) (by decide) (by decide) (w2.live _ e1) e2
  exact((w1.took.trans w2).took.trans w4).mono (by omega)
theorem In.mulw(q:In b m):Wk b 4 m (qt s m b):=by
 obtain⟨w1,e1⟩:=q.ey (s:=s)
 obtain⟨w2,e2⟩:=w1.inn.ey (s:=s)
 generalize hr:aA s (aA s m b).2 b=r at w2 e2
 have e:a6 ⟨18,r.2.next,r.2.next+1,[(aA s m b).1,r.1],⟨0⟩⟩=[r.2.next,r.2.next+1]:=rfl
 have:=w2.inn.add (a:=r.2.at_) (j:=2) (i:=⟨18,r.2.next,r.2.next+1,[(aA s m b).1,r.1],⟨0⟩⟩) (by omega) (by
  rw[e];intro v hv
  rcases List.mem_cons.1 hv with rfl | hv
  ·omega
  ·rw[List.mem_singleton.1 hv];omega) (by rw[e];simp;omega) ⟨rfl,fun h=>absurd h (show(18:Int)≠16 by decide),fun h=>absurd rfl h⟩ (fun v hv=>by
  rcases List.mem_cons.1 hv with rfl | hv
  ·exact w2.live _ e1
  ·rw[List.mem_singleton.1 hv];exact e2)
 have h:=(w1.trans w2).trans this.1
 have e3:qt s m b=MS.add ⟨r.2.at_,r.2.ps,r.2.blocks,r.2.next+2,r.2.live⟩ b ⟨18,r.2.next,r.2.next+1,[(aA s m b).1,r.1],⟨0⟩⟩:=by
  unfold qt
  simp only[hr]
  unfold MS.add MS.aG
  simp only[MS.mk.injEq,and_true,true_and]
  omega
 rw[e3]
 exact h.mono (by omega)
theorem In.args (q:In b m) : ∀n,Wk b n m (up (eW s b) n ([],m)).2∧(up (eW s b) n ([],m)).1.length=n∧∀v∈(up (eW s b) n ([],m)).1,v∈(up (eW s b) n ([],m)).2.live
 | 0=>⟨.refl q,rfl,fun v hv=>by cases hv⟩
 | n+1=>by
  obtain⟨h1,h2,h3⟩:=In.args q n
  obtain⟨w,e⟩:=h1.inn.ey (s:=s)
  refine⟨h1.trans w,?_,fun v hv=>?_⟩
  ·show(_++[_]).length=_
   rw[List.length_append,h2];rfl
  ·rcases List.mem_append.1 (show v∈(up (eW s b) n ([],m)).1++[(aA s (up (eW s b) n ([],m)).2 b).1] from hv)with h | h
   ·exact w.live _ (h3 v h)
   ·rw[List.mem_singleton.1 h];exact e
theorem In.call(q:In b m):Wk b 5 m (lj s m b):=by
 unfold lj
 simp only
 have ht:=bj (s:=s) (at_:=m.at_) (n:=5) (by decide)
 obtain⟨h1,h2,h3⟩:=q.took.args (s:=s) (az s m.at_ 5).toNat
 generalize up (eW s b) (az s m.at_ 5).toNat ([],m.took)=r at h1 h2 h3
 have hl:((r.1.length:Nat):Int)≤4:=by omega
 have w:=h1.inn.one (a:=r.2.at_+1) (op:=17) (x:=r.1) (im:=⟨IntKind.i32.wrap (az s r.2.at_ 5)⟩) (by decide) (by decide) (by simp[lh,qz];omega) h3
 have h:Wk b 0 m m.took:=(Wk.refl q).took
 exact((h.trans h1).trans w.1).mono (by omega)
theorem In.addr(q:In b m):Wk b 5 m (iE s m b).2∧(iE s m b).1∈(iE s m b).2.live:=by
 obtain⟨w1,e1⟩:=q.took.constant (n:=IntKind.i32.wrap (az s m.at_ 9))
 have h:Wk b 0 m m.took:=(Wk.refl q).took
 have w1:=h.trans w1
 have e1:m.next∈_:=e1
 unfold iE
 simp only
 split
 ·obtain⟨w2,e2⟩:=w1.inn.took.ey (s:=s)
  obtain⟨w3,e3⟩:=w2.inn.constant (n:=7)
  obtain⟨w4,e4⟩:=w3.inn.two (op:=5) (by decide) (by decide) (w3.live _ e2) e3
  obtain⟨w5,e5⟩:=w4.inn.two (op:=2) (by decide) (by decide) (w4.live _ (w3.live _ (w2.live _ e1))) e4
  exact⟨(((w1.took.trans w2).trans w3).trans w4).trans w5,e5⟩
 ·exact⟨w1.took.mono (by omega),e1⟩
theorem In.off(q:In b m):Wk b 0 m (offS s m).2∧(offS s m).2.live=m.live:=by
 unfold offS
 split
 ·exact⟨(Wk.refl q).took.took.took.took,rfl⟩
 ·exact⟨(Wk.refl q).took.took,rfl⟩
theorem In.memory(q:In b m){st:Bool}:Wk b 7 m (gI s m b st):=by
 obtain⟨w1,e1⟩:=q.addr (s:=s)
 obtain⟨w2,_⟩:=w1.inn.off (s:=s)
 unfold gI
 simp only
 split
 ·obtain⟨w3,e3⟩:=w2.inn.ey (s:=s)
  generalize hr:aA s (offS s (iE s m b).2).2 b=r at w3 e3
  have:=w3.inn.add (a:=r.2.at_) (j:=0) (i:=⟨16,0,0,[(iE s m b).1,r.1],⟨(offS s (iE s m b).2).1⟩⟩) (by omega) (fun v hv=>by cases hv) List.nodup_nil ⟨rfl,fun _=>rfl,fun _=>rfl⟩ (fun v hv=>by
   rcases List.mem_cons.1 hv with rfl | hv
   ·exact w3.live _ (w2.live _ e1)
   ·rw[List.mem_singleton.1 hv];exact e3)
  have e:(⟨r.2.at_,r.2.ps,r.2.blocks,r.2.next+((0:Nat):Int),r.2.live⟩:MS)=r.2:=by
   cases r.2;simp
  rw[e]at this
  exact((w1.trans w2).trans w3).trans this.1
 ·have w:=w2.inn.one (a:=(offS s (iE s m b).2).2.at_) (op:=15) (x:=[(iE s m b).1]) (im:=⟨(offS s (iE s m b).2).1⟩) (by decide) (by decide) rfl (fun v hv=>by rw[List.mem_singleton.1 hv];exact w2.live _ e1)
  exact((w1.trans w2).trans w.1).mono (by omega)
theorem In.fP(q:In b m):Wk b 7 m (aC s b m):=by
 have h:Wk b 0 m m.took:=(Wk.refl q).took
 have ht:=bj (s:=s) (at_:=m.at_) (n:=20) (by decide)
 unfold aC
 simp only
 split
 ·have h2 : ∀x∈opsL,2≤x∧x≤14:=by decide
  have hl:opsL.length=12:=rfl
  have:=h2 _ (bw (l:=opsL) (i:=(az s m.at_ 20).toNat) (by omega))
  exact(h.trans (q.took.bin this.1 this.2)).mono (by omega)
 split
 ·exact(h.trans q.took.ltu).mono (by omega)
 split
 ·exact(h.trans q.took.div).mono (by omega)
 split
 ·exact(h.trans q.took.memory).mono (by omega)
 split
 ·exact(h.trans q.took.call).mono (by omega)
 split
 ·exact(h.trans q.took.mulw).mono (by omega)
 ·exact((Wk.refl q).took.took.took.trans (q.took.took.took.constant (n:=iG s m.took)).1).mono (by omega)
theorem In.eh (q:In b m) : ∀n,Wk b (7*n) m (up (fun _=>aC s b) n m)
 | 0=>.refl q
 | n+1=>by
  have h:=In.eh q n
  exact(h.trans h.inn.fP).mono (by omega)
theorem In.term(q:In b m){to:List Int}(hl:to.length≤65):Wk b 3 m (et s to b m).2∧jq (et s to b m).1=true∧(et s to b m).1.to=to∧∀v∈(et s to b m).1.args,v∈(et s to b m).2.live:=by
 have h:Wk b 0 m m.took:=(Wk.refl q).took
 unfold et
 simp only
 split
 ·rename_i h0
  have hto:to=[]:=List.length_eq_zero_iff.1 h0
  split
  ·exact⟨(Wk.refl q).took.took.mono (by omega),rfl,hto.symm,fun v hv=>by cases hv⟩
  split
  ·obtain⟨w,e⟩:=q.took.ey (s:=s)
   exact⟨(h.trans w).mono (by omega),rfl,hto.symm,fun v hv=>by rw[List.mem_singleton.1 hv];exact e⟩
  ·exact⟨h.mono (by omega),rfl,hto.symm,fun v hv=>by cases hv⟩
 split
 ·rename_i h1
  exact⟨(Wk.refl q).mono (by omega),by simp[jq,h1],rfl,fun v hv=>by cases hv⟩
 split
 ·rename_i h2
  obtain⟨w1,e1⟩:=q.ey (s:=s)
  split
  ·obtain⟨w2,e2⟩:=w1.inn.took.ey (s:=s)
   generalize aA s (aA s m b).2.took b=r at w2 e2
   have hr:=bj (s:=s) (at_:=r.2.at_) (n:=3) (by decide)
   have hop : ∀x∈cmpL,11≤x∧x≤13:=by decide
   have hcl:cmpL.length=3:=rfl
   have ho:=hop _ (bw (l:=cmpL) (i:=(az s r.2.at_ 3).toNat) (by omega))
   generalize nth cmpL (az s r.2.at_ 3).toNat=op at ho
   have w3:=w2.inn.one (a:=r.2.at_+1) (op:=op) (x:=[(aA s m b).1,r.1]) (im:=⟨0⟩) (by omega) (by omega) (by
    have e1:¬op<1:=by omega
    have e2:¬18<op:=by omega
    have e3:op≠1:=by omega
    have e4:op≠15:=by omega
    have e5:op≠17:=by omega
    simp[lh,qz,e1,e2,e3,e4,e5]) (fun v hv=>by
    rcases List.mem_cons.1 hv with rfl | hv
    ·exact w2.live _ e1
    ·rw[List.mem_singleton.1 hv];exact e2)
   exact⟨(w1.took.trans w2).trans w3.1,by simp[jq,h2],rfl,fun v hv=>by rw[List.mem_singleton.1 hv];exact w3.2⟩
  ·exact⟨w1.took.mono (by omega),by simp[jq,h2],rfl,fun v hv=>by rw[List.mem_singleton.1 hv];exact e1⟩
 ·rename_i h0 h1 h2
  obtain⟨w1,e1⟩:=q.ey (s:=s)
  obtain⟨w2,e2⟩:=w1.inn.constant (n:=7)
  obtain⟨w3,e3⟩:=w2.inn.two (op:=5) (by decide) (by decide) (w2.live _ e1) e2
  exact⟨(w1.trans w2).trans w3,by simp[jq];omega,rfl,fun v hv=>by rw[List.mem_singleton.1 hv];exact e3⟩
end
structure Tt (n k c:Nat) (x:TgS):Prop where
 len:x.1.length=n
 row : ∀i,(nth x.1 i).length≤c
 rng : ∀i,∀v∈nth x.1 i,1≤v∧v<n
 way : ∀b:Nat,1≤b→b≤k→∃a,a<b∧(b:Int)∈nth x.1 a
section
variable {s:List Int} {n k c:Nat} {x:TgS}
theorem og{p:Nat}{m:MS}(hp:p<x.1.length)(i:Nat):nth (j6 x p b m).1 i=if p=i then nth x.1 p++[(b:Int)] else nth x.1 i:=by
 show nth (x.1.set p _) i=_
 rcases Nat.lt_or_ge i x.1.length with hl | hl
 ·rw[aH hl]
 ·rw[aV (by simpa using hl),if_neg (by omega),aV hl]
theorem Tt.put(h:Tt n k c x){p:Nat}{m:MS}(hp:p<n)(h1:1≤b)(hb:b<n):Tt n k (c+1) (j6 x p b m)∧(b:Int)∈nth (j6 x p b m).1 p:=by
 have hp':p<x.1.length:=by rw[h.len];exact hp
 refine⟨⟨qV.trans h.len,fun i=>?_,fun i v hv=>?_,fun d h1 h2=>?_⟩,by rw[og hp',if_pos rfl];exact List.mem_append_right _ (List.mem_singleton.2 rfl)⟩
 ·rw[og hp'];split
  ·rw[List.length_append,List.length_singleton];have:=h.row p;omega
  ·have:=h.row i;omega
 ·rw[og hp']at hv;split at hv
  ·rcases List.mem_append.1 hv with hv | hv
   ·exact h.rng _ v hv
   ·rw[List.mem_singleton.1 hv];omega
  ·exact h.rng _ v hv
 ·obtain⟨a,h3,h4⟩:=h.way d h1 h2
  refine⟨a,h3,?_⟩
  rw[og hp'];split
  ·rename_i e;subst e;exact List.mem_append_left _ h4
  ·exact h4
theorem Tt.tgA (h:Tt n k c x) (hk:k+1<n):Tt n (k+1) (c+1) (tgA s k x):=by
 have key : ∀{p:Nat} {m:MS},p≤k→Tt n (k+1) (c+1) (j6 x p (k+1) m):=fun{p m} hp=>by
  obtain⟨h1,h2⟩:=h.put (p:=p) (b:=k+1) (m:=m) (by omega) (by omega) hk
  refine⟨h1.len,h1.row,h1.rng,fun b hb1 hb2=>?_⟩
  rcases Nat.lt_or_ge k b with q | q
  ·have:b=k+1:=by omega
   subst this;exact⟨p,by omega,h2⟩
  ·exact h1.way b hb1 q
 unfold Go.Proofs.YtbkdlhkoiagbbaaGreat.tgA
 split
 ·have:=bj (s:=s) (at_:=x.2.at_+1) (n:=((k+1:Nat):Int)) (by omega)
  exact key (by omega)
 ·exact key (Nat.le_refl _)
theorem Tt.tgI (h:Tt n k c x) {b:Nat} (hb:b<n) (hn:1<n):Tt n k (c+1) (tgI s n b x):=by
 have:=bj (s:=s) (at_:=x.2.at_) (n:=(n:Int)-1) (by omega)
 unfold Go.Proofs.YtbkdlhkoiagbbaaGreat.tgI
 simp only
 repeat' split
 ·exact(h.put (by omega) (by omega) (by omega)).1
 ·exact(h.put (by omega) (by omega) (by omega)).1
 ·exact(h.put (by omega) (by omega) (by omega)).1
theorem Tt.upI (h:Tt n k c x) {b:Nat} (hb:b<n) (hn:1<n) : ∀j,Tt n k (c+j) (up (fun _=>Go.Proofs.YtbkdlhkoiagbbaaGreat.tgI s n b) j x)
 | 0=>h
 | j+1=>(Tt.upI h hb hn j).tgI hb hn
theorem Tt.mono{d:Nat}(h:Tt n k c x)(hd:c≤d):Tt n k d x:=⟨h.len,fun i=>Nat.le_trans (h.row i) hd,h.rng,h.way⟩
theorem Tt.tgB (h:Tt n k c x) {b:Nat} (hb:b<n):Tt n k (c+2) (tgB s n b x):=by
 unfold Go.Proofs.YtbkdlhkoiagbbaaGreat.tgB
 have h0:Tt n k c (x.1,x.2.took):=⟨h.len,h.row,h.rng,h.way⟩
 by_cases hn:1<n
 ·rw[if_pos hn]
  have:=bj (s:=s) (at_:=x.2.at_) (n:=6) (by decide)
  exact(h0.upI hb hn _).mono (by omega)
 ·rw[if_neg hn]
  exact h0.mono (by omega)
theorem Tt.upB (h:Tt n k c x) : ∀j,j≤n→Tt n k (c+2*j) (up (Go.Proofs.YtbkdlhkoiagbbaaGreat.tgB s n) j x)
 | 0,_=>h
 | j+1,hj=>(Tt.upB h j (by omega)).tgB (by omega)
theorem Tt.upA (h:Tt n 0 c x) : ∀j,j<n→Tt n j (c+j) (up (Go.Proofs.YtbkdlhkoiagbbaaGreat.tgA s) j x)
 | 0,_=>h
 | j+1,hj=>(Tt.upA h j (by omega)).tgA hj
theorem xp:Tt (aE s) (aE s-1) 26 (eA s):=by
 obtain⟨h1,h2⟩:=eu (s:=s)
 have e : ∀i,nth (List.replicate (aE s) ([]:List Int)) i=[]:=fun i=>by
  rcases Nat.lt_or_ge i (aE s)with hi | hi
  ·rw[aq hi]
  ·rw[aV (by simpa using hi)];rfl
 have t0:Tt (aE s) 0 0 (List.replicate (aE s) ([]:List Int),sg s):=⟨by simp,fun i=>by rw[e];exact Nat.le_refl _,fun i v hv=>by{ rw[e]at hv;cases hv },fun b h1 h2=>by omega⟩
 exact((t0.upA (s:=s) (aE s-1) (by omega)).upB (s:=s) (aE s) (Nat.le_refl _)).mono (by omega)
end
structure Gt (n:Nat) (to:List (List Int)) (m:MS):Prop where
 len:m.blocks.length=n
 to : ∀j,j<n→(nth m.blocks j).term.to=nth to j
section
variable {s:List Int} {n:Nat} {to:List (List Int)} {m m':MS} {b:Nat}
theorem Gt.ext(g:Gt n to m)(e:Ext m m'):Gt n to m':=⟨e.len.trans g.len,fun j hj=>(e.to j).trans (g.to j hj)⟩
theorem CI{l:List Int}{j:Nat}(hb:b<m.blocks.length):nth (m.fR b l).blocks j=if b=j then{ nth m.blocks b with term:={ (nth m.blocks b).term with to:=l } } else nth m.blocks j:=by
 show nth (m.blocks.set b _) j=_
 rcases Nat.lt_or_ge j m.blocks.length with hl | hl
 ·rw[aH hl]
 ·rw[aV (by simpa using hl),if_neg (by omega),aV hl]
theorem xW {m0:MS} (hl:m0.blocks=List.replicate n nU) : ∀k,k≤n→(up (fun b m=>MS.fR m b (nth to b)) k m0).blocks.length=n∧(∀j,j<n→nth (up (fun b m=>MS.fR m b (nth to b)) k m0).blocks j=⟨[],[],⟨0,[],if j<k then nth to j else[],⟨0⟩⟩⟩)∧(up (fun b m=>MS.fR m b (nth to b)) k m0).ps=m0.ps∧(up (fun b m=>MS.fR m b (nth to b)) k m0).next=m0.next
 | 0,_=>⟨by show m0.blocks.length=n;rw[hl,List.length_replicate],fun j hj=>by show nth m0.blocks j=_;rw[hl,aq hj,if_neg (by omega)];rfl,rfl,rfl⟩
 | k+1,hk=>by
  obtain⟨h1,h2,h3,h4⟩:=xW hl k (by omega)
  refine⟨?_,fun j hj=>?_,h3,h4⟩
  ·show(List.set _ _ _).length=n
   rw[List.length_set];exact h1
  ·show nth (MS.fR _ k (nth to k)).blocks j=_
   rw[CI (by rw[h1];omega),h2 k (by omega),h2 j hj]
   by_cases e:k=j
   ·subst e;rw[if_pos rfl,if_pos (Nat.lt_succ_self _)]
   ·rw[if_neg e]
    by_cases h:j<k
    ·rw[if_pos h,if_pos (by omega)]
    ·rw[if_neg h,if_neg (by omega)]
theorem zu:(j0 s).blocks.length=aE s∧(∀j,j<aE s→nth (j0 s).blocks j=⟨[],[],⟨0,[],nth (eA s).1 j,⟨0⟩⟩⟩)∧(j0 s).ps=az s 0 5∧(j0 s).next=az s 0 5:=by
 have e:=pT (s:=s)
 obtain⟨h1,h2,h3,h4⟩:=xW (n:=aE s) (to:=(eA s).1) (m0:={ (eA s).2 with blocks:=List.replicate (aE s) nU }) rfl (aE s) (Nat.le_refl _)
 exact⟨h1,fun j hj=>by have:=h2 j hj;rw[if_pos hj]at this;exact this,h3.trans e.1,h4.trans e.2.2.1⟩
theorem Re.congr{g g':Gr}(e:g=g'){a:Int}{b:Nat}:Re g a b↔Re g' a b:=by rw[e]
theorem HE{l:List BlkD}(h0:0<l.length)(h : ∀b:Nat,1≤b→b<l.length→∃a,a<b∧(b:Int)∈(nth l a).term.to): ∀b,b<l.length→Re (ofG l) (-1) b:=by
 intro b
 induction b using Nat.strongRecOn with
 | ind b ih=>
  intro hb
  rcases Nat.eq_zero_or_pos b with rfl | hp
  ·exact .root (by rw[dN];exact hb) (by decide)
  ·obtain⟨a,ha,hm⟩:=h b hp hb
   refine .step (ih a ha (by omega)) ?_ (by omega)
   rw[bY]
   exact⟨⟨by omega,by omega,by omega,by omega⟩,by rw[Int.toNat_natCast];exact hm⟩
theorem Ed{l:List BlkD}{dn:BL}(hw : ∀b,b<l.length→Re (ofG l) (-1) b){b:Nat}(hb:b<l.length)(hd:nth dn b=false): ∃x,x<l.length∧nth dn x=false∧∀a,a<l.length→a=x∨nth dn a=true∨Re (ofG l) (a:Int) x:=by
  have key : ∀{b:Nat},Re (ofG l) (-1) b→(∃x,x<l.length∧nth dn x=false∧∀a,a<l.length→a=x∨nth dn a=true∨Re (ofG l) (a:Int) x)∨(nth dn b=true∧∀a,a<l.length→nth dn a=false→Re (ofG l) (a:Int) b):=by
    intro b h
    induction h with
    | root h0 _=>
      cases e:nth dn 0 with
      | true=>exact .inr ⟨rfl,fun a _ ha=>.root h0 (by
                                                            rintro h;have:a=0:=by omega
                                                            subst this;rw[e]at ha;cases ha)⟩
      | false=>exact .inl ⟨0,by rw[dN]at h0;exact h0,e,fun a _=>by
          rcases Nat.eq_zero_or_pos a with q | q
          · exact .inl q
          · exact .inr (.inr (.root h0 (by omega)))⟩
    | @step a b ha he _ ih=>
      rcases ih with ih | ⟨ih1,ih2⟩
      · exact .inl ih
      have hlb:=(bY.1 he).1
      cases e:nth dn b with
      | true=>exact .inr ⟨rfl,fun c hc h=>.step (ih2 c hc h) he (by
                                                                         rintro q;have:b=c:=by omega
                                                                         subst this;rw[e]at h;cases h)⟩
      | false=>
        refine .inl ⟨b,by omega,e,fun c hc=>?_⟩
        rcases Nat.decEq c b with q | q
        · cases e2:nth dn c with
          | true=>exact .inr (.inl rfl)
          | false=>exact .inr (.inr (.step (ih2 c hc e2) he (by omega)))
        · exact .inl q
  rcases key (hw b hb)with h | ⟨h,_⟩
  · exact h
  · rw[hd]at h;cases h
theorem mj{j:Nat}(hb:b<m.blocks.length):nth (cR b m).blocks j=if b=j then{ nth m.blocks b with phis:=(nth m.blocks b).phis++[⟨m.next,[]⟩] } else nth m.blocks j:=by
 show nth (m.blocks.set b _) j=_
 rcases Nat.lt_or_ge j m.blocks.length with hl | hl
 ·rw[aH hl]
 ·rw[aV (by simpa using hl),if_neg (by omega),aV hl]
structure P0 (n:Nat) (to:List (List Int)) (m:MS):Prop where
 gt:Gt n to m
 ok:Ok m
 none : ∀j,j<n→(nth m.blocks j).ins=[]
theorem Gu{x:BlkD}{v:Int}(h:x.ins=[]):mkB { x with phis:=x.phis++[⟨v,[]⟩] }=mkB x++[v]:=by
 unfold mkB
 simp[h]
theorem P0.cR (q:P0 n to m) (hb:b<n):P0 n to (cR b m):=by
 have hbl:b<m.blocks.length:=by rw[q.gt.len];exact hb
 have hl:(Go.Proofs.YtbkdlhkoiagbbaaGreat.cR b m).blocks.length=m.blocks.length:=List.length_set
 have hlen:=q.gt.len
 have e:Ext m (Go.Proofs.YtbkdlhkoiagbbaaGreat.cR b m):=by
  refine⟨rfl,hl,fun j=>?_,fun j=>?_,fun j=>?_⟩<;>rw[mj hbl]<;>split
  ·rename_i e;rw[e]
  ·rfl
  ·rename_i e;rw[←e];intro v hv
   show v∈(List.map PhiD.dst ((nth m.blocks b).phis++[_]))
   rw[List.map_append];exact List.mem_append_left _ hv
  ·exact fun _ h=>h
  ·rename_i e;rw[e];exact⟨[],by simp⟩
  ·exact⟨[],by simp⟩
 have hin : ∀j,(nth (Go.Proofs.YtbkdlhkoiagbbaaGreat.cR b m).blocks j).ins=(nth m.blocks j).ins:=fun j=>by
  rw[mj hbl];split
  ·rename_i e;rw[e]
  ·rfl
 have htm : ∀j,(nth (Go.Proofs.YtbkdlhkoiagbbaaGreat.cR b m).blocks j).term=(nth m.blocks j).term:=fun j=>by
  rw[mj hbl];split
  ·rename_i e;rw[e]
  ·rfl
 have hmk : ∀j,j<n→mkB (nth (Go.Proofs.YtbkdlhkoiagbbaaGreat.cR b m).blocks j)=if b=j then mkB (nth m.blocks j)++[m.next] else mkB (nth m.blocks j):=fun j hj=>by
  rw[mj hbl];split
  ·rename_i e;rw[Gu (q.none b hb),e]
  ·rfl
 have k:=q.ok
 refine⟨q.gt.ext e,⟨k.p0,by have:=k.pn;show m.ps≤m.next+1;omega,fun c hc=>?_,fun c hc=>?_,fun c d hc hd hcd=>?_,fun c hc=>?_,fun c hc i hi=>?_,fun c hc v hv=>?_⟩,fun j hj=>by rw[hin];exact q.none j hj⟩<;>rw[hl]at hc
 ·rw[hin];exact k.op c hc
 ·rw[hmk c (by omega)];split
  ·refine List.nodup_append.2 ⟨k.nd c hc,by simp,fun x hx y hy=>?_⟩
   have:=(k.rg c hc x hx).2
   have:=List.mem_singleton.1 hy
   omega
  ·exact k.nd c hc
 ·rw[hl]at hd
  rw[hmk c (by omega),hmk d (by omega)]
  intro v hv hv'
  have h1:v∈mkB (nth m.blocks c)∨(b=c∧v=m.next):=by
   split at hv
   ·rcases List.mem_append.1 hv with h | h
    ·exact .inl h
    ·exact .inr ⟨‹_›,List.mem_singleton.1 h⟩
   ·exact .inl hv
  have h2:v∈mkB (nth m.blocks d)∨(b=d∧v=m.next):=by
   split at hv'
   ·rcases List.mem_append.1 hv' with h | h
    ·exact .inl h
    ·exact .inr ⟨‹_›,List.mem_singleton.1 h⟩
   ·exact .inl hv'
  rcases h1 with h1 | ⟨h1,h1'⟩
  ·rcases h2 with h2 | ⟨h2,h2'⟩
   ·exact k.dj c d hc hd hcd v h1 h2
   ·have:=(k.rg c hc v h1).2;omega
  ·rcases h2 with h2 | ⟨h2,h2'⟩
   ·have:=(k.rg d hd v h2).2;omega
   ·exact hcd (h1.symm.trans h2)
 ·rw[hmk c (by omega)]
  intro v hv
  have h1:v∈mkB (nth m.blocks c)∨v=m.next:=by
   split at hv
   ·rcases List.mem_append.1 hv with h | h
    ·exact .inl h
    ·exact .inr (List.mem_singleton.1 h)
   ·exact .inl hv
  show m.ps≤v∧v<m.next+1
  rcases h1 with h1 | h1
  ·have:=k.rg c hc v h1;omega
  ·have:=k.pn;omega
 ·rw[hin,q.none c (by omega)]at hi
  exact absurd hi (Nat.not_lt_zero _)
 ·rw[htm]at hv
  exact(k.tm c hc v hv).end e
theorem P0.took (q:P0 n to m):P0 n to m.took:=⟨⟨q.gt.len,q.gt.to⟩,q.ok.at (Int.le_refl _),q.none⟩
theorem P0.j9 (q:P0 n to m) (hb:b<n) : ∀k,P0 n to (up (fun _=>Go.Proofs.YtbkdlhkoiagbbaaGreat.cR b) k m)∧(up (fun _=>Go.Proofs.YtbkdlhkoiagbbaaGreat.cR b) k m).next=m.next+k
 | 0=>⟨q,by show m.next=m.next+((0:Nat):Int);omega⟩
 | k+1=>by
  obtain⟨h1,h2⟩:=P0.j9 q hb k
  refine⟨h1.cR hb,?_⟩
  show(up (fun _=>Go.Proofs.YtbkdlhkoiagbbaaGreat.cR b) k m).next+1=_
  rw[h2];omega
theorem P0.phis {lp:List Int} (q:P0 n to m) : ∀k,k<n→P0 n to (up (dc s) k (lp,m)).2∧(up (dc s) k (lp,m)).2.next≤m.next+3*k∧nth (up (dc s) k (lp,m)).1 0=nth lp 0
 | 0,_=>⟨q,by show m.next≤_;omega,rfl⟩
 | k+1,hk=>by
  obtain⟨h1,h2,h3⟩:=P0.phis (lp:=lp) q k (by omega)
  have e:up (dc s) (k+1) (lp,m)=dc s k (up (dc s) k (lp,m)):=rfl
  rw[e]
  generalize up (dc s) k (lp,m)=y at h1 h2 h3
  obtain⟨c0,c1⟩:=me (s:=s) (m:=y.2) (b:=k+1)
  obtain⟨h4,h5⟩:=h1.took.j9 (b:=k+1) hk (fW s y.2 (k+1)).toNat
  refine⟨h4,?_,?_⟩
  ·show(up (fun _=>Go.Proofs.YtbkdlhkoiagbbaaGreat.cR (k+1)) (fW s y.2 (k+1)).toNat y.2.took).next≤_
   rw[h5]
   show y.2.next+_≤_
   omega
  ·show nth (y.1.set (k+1) _) 0=_
   rcases Nat.lt_or_ge 0 y.1.length with hl | hl
   ·rw[aH hl,if_neg (by omega)];exact h3
   ·rw[aV (by simpa using hl),←h3,aV hl]
theorem Dd:P0 (aE s) (eA s).1 (j0 s):=by
 obtain⟨h1,h2,h3,h4⟩:=zu (s:=s)
 have t:=bj (s:=s) (at_:=0) (n:=5) (by decide)
 refine⟨⟨h1,fun j hj=>by rw[h2 j hj]⟩,⟨by rw[h3];omega,by rw[h3,h4];omega,fun b hb=>?_,fun b hb=>?_,fun a b ha hb _=>?_,fun b hb=>?_,fun b hb i hi=>?_,fun b hb=>?_⟩,fun j hj=>by rw[h2 j hj]⟩<;>rw[h1]at *
 ·rw[h2 b hb];intro i hi;cases hi
 ·rw[h2 b hb];exact List.nodup_nil
 ·rw[h2 a ha];intro v hv;cases hv
 ·rw[h2 b hb];intro v hv;cases hv
 ·rw[h2 b hb]at hi;exact absurd hi (Nat.not_lt_zero _)
 ·rw[h2 b hb];intro v hv;cases hv
theorem xX:P0 (aE s) (eA s).1 (fB s).2∧(fB s).2.next≤28∧nth (fB s).1 0=0:=by
 obtain⟨h1,h2⟩:=eu (s:=s)
 obtain⟨q1,q2,q3⟩:=(Dd (s:=s)).phis (s:=s) (lp:=List.replicate (aE s) 0) (aE s-1) (by omega)
 have t:=bj (s:=s) (at_:=0) (n:=5) (by decide)
 have e:=(zu (s:=s)).2.2.2
 refine⟨q1,?_,?_⟩
 ·show(up (dc s) (aE s-1) (List.replicate (aE s) 0,j0 s)).2.next≤28
  omega
 ·show nth (up (dc s) (aE s-1) (List.replicate (aE s) 0,j0 s)).1 0=0
  rw[q3,aq (by omega)]
def cnt0:BL→Nat
 | []=>0
 | a::l=>(if a=true then 0 else 1)+cnt0 l
theorem kG[Inhabited α]{a:α}{l:List α}{j:Nat}:nth (a::l) (j+1)=nth l j:=by simp[nth]
theorem AS : ∀{l l':BL},l.length=l'.length→(∀j,j<l.length→nth l j=true→nth l' j=true)→cnt0 l'≤cnt0 l
 | [],[],_,_=>Nat.le_refl _
 | a::l,a'::l',hl,h=>by
  have h1:=AS (l:=l) (l':=l') (by simpa using hl) fun j hj=>by
   have:=h (j+1) (by simpa using hj)
   rwa [kG,kG]at this
  have h2:a=true→a'=true:=h 0 (by simp)
  unfold cnt0
  cases a<;>cases a'<;>simp_all<;>omega
theorem xb : ∀{l l':BL},l.length=l'.length→(∀j,j<l.length→nth l j=true→nth l' j=true)→∀b,b<l.length→nth l b=false→nth l' b=true→cnt0 l'<cnt0 l
 | [],[],_,_,b,hb,_,_=>absurd hb (Nat.not_lt_zero _)
 | a::l,a'::l',hl,h,b,hb,h0,h1=>by
  have hr : ∀j,j<l.length→nth l j=true→nth l' j=true:=fun j hj=>by
   have:=h (j+1) (by simpa using hj)
   rwa [kG,kG]at this
  have hll:l.length=l'.length:=by simpa using hl
  have h2:a=true→a'=true:=h 0 (by simp)
  match b,hb,h0,h1 with
  | 0,_,h0,h1=>
   have h0:a=false:=h0
   have h1:a'=true:=h1
   have:=AS hll hr
   unfold cnt0
   rw[h0,h1]
   simp
   omega
  | b+1,hb,h0,h1=>
   rw[kG]at h0 h1
   have:=xb hll hr b (by simpa using hb) h0 h1
   unfold cnt0
   cases a<;>cases a'<;>simp_all<;>omega
theorem uX : ∀{l:BL},cnt0 l=0→∀j,j<l.length→nth l j=true
 | [],_,j,hj=>absurd hj (Nat.not_lt_zero _)
 | a::l,h,j,hj=>by
  unfold cnt0 at h
  match j,hj with
  | 0,_=>show a=true;cases a<;>simp_all
  | j+1,hj=>rw[kG];exact uX (by omega) j (by simpa using hj)
theorem tC : ∀{l:BL},cnt0 l≤l.length
 | []=>Nat.le_refl _
 | a::l=>by
  have:=tC (l:=l)
  unfold cnt0
  rw[List.length_cons]
  split<;>omega
theorem uU {f:Nat→Bool} : ∀(n:Nat) (r:Bool),r=true→(∀a,a<n→f a=true)→up (fun a r=>r&&f a) n r=true
 | 0,r,h,_=>h
 | n+1,r,h,hf=>by
  show(up (fun a r=>r&&f a) n r&&f n)=true
  rw[uU n r h fun a ha=>hf a (by omega),hf n (by omega)]
  rfl
theorem Bb(hl:m.blocks.length=n){a:Nat}(ha:a<n)(hb:b<n):nth (nth (iQ m.f n) a) b=true↔Re (ofG m.blocks) (a:Int) b:=by
 unfold iQ
 rw[dm ha]
 exact fX (by show b<m.blocks.length;omega)
theorem DL{dn:BL}(hl:m.blocks.length=n)(hb:b<n)(hd:nth dn b=false)(h : ∀a,a<n→a=b∨nth dn a=true∨Re (ofG m.blocks) (a:Int) b):mA dn (iQ m.f n) b n=true:=by
 unfold mA
 refine uU n _ (by simp[hd]) fun a ha=>?_
 rcases h a ha with e | e | e
 ·simp[e]
 ·simp[e]
 ·simp[(Bb hl ha hb).2 e]
theorem Gh{dn:BL}(hp:0≤m.ps)(hl:m.blocks.length=n)(hb:b<n): ∀v∈j4 m dn (iQ m.f n) b n,Sd m b (nth m.blocks b).ins.length v:=by
 have key : ∀k,k≤n→∀v∈up (gw m dn (iQ m.f n) b) k (rows (fun i=>(i:Int)) m.ps.toNat),Sd m b (nth m.blocks b).ins.length v:=by
  intro k
  induction k with
  | zero=>
   intro _ v hv
   obtain⟨i,hi,rfl⟩:=sZ.1 hv
   exact .inl ⟨by omega,by omega⟩
  | succ k ih=>
   intro hk v hv
   have hv:v∈gw m dn (iQ m.f n) b k (up (gw m dn (iQ m.f n) b) k (rows (fun i=>(i:Int)) m.ps.toNat)):=hv
   unfold gw at hv
   split at hv
   ·exact ih (by omega) v hv
   ·rename_i hc
    rw[List.append_assoc]at hv
    rcases List.mem_append.1 hv with h1 | h1
    ·exact ih (by omega) v h1
    ·clear hv
     rcases Nat.decEq k b with e | e
     ·refine .inr (.inr (.inr ⟨k,by omega,e,h1,fun hr=>hc ?_⟩))
      rw[(Bb hl (by omega) hb).2 hr]
      simp[e]
     ·subst e
      rcases List.mem_append.1 h1 with h2 | h2
      ·exact .inr (.inl h2)
      ·refine .inr (.inr (.inl ?_))
       rw[List.take_length];exact h2
 exact key n (Nat.le_refl _)
theorem Ok.eB (q:In b m) {t:dp} (ht:t.to=(nth m.blocks b).term.to) (ha : ∀v∈t.args,v∈m.live):Ok (m.eB b t)∧Ext m (m.eB b t):=by
 have hnth : ∀j,nth (m.eB b t).blocks j=if b=j then{ nth m.blocks b with term:=t } else nth m.blocks j:=fun j=>by
  show nth (m.blocks.set b _) j=_
  rcases Nat.lt_or_ge j m.blocks.length with hl | hl
  ·rw[aH hl]
  ·have:=q.lt
   rw[aV (by simpa using hl),if_neg (by omega),aV hl]
 have hl:(m.eB b t).blocks.length=m.blocks.length:=List.length_set
 have hin : ∀j,(nth (m.eB b t).blocks j).ins=(nth m.blocks j).ins:=fun j=>by
  rw[hnth];split
  ·rename_i e;rw[e]
  ·rfl
 have hph : ∀j,(nth (m.eB b t).blocks j).phis=(nth m.blocks j).phis:=fun j=>by
  rw[hnth];split
  ·rename_i e;rw[e]
  ·rfl
 have e:Ext m (m.eB b t):=⟨rfl,hl,fun j=>by
  rw[hnth];split
  ·rename_i e;rw[←e];exact ht
  ·rfl,fun j v h=>by rw[hph];exact h,fun j=>⟨[],by rw[hin];simp⟩⟩
 have hmk : ∀j,mkB (nth (m.eB b t).blocks j)=mkB (nth m.blocks j):=fun j=>by unfold mkB;rw[hin,hph]
 have k:=q.ok
 refine⟨⟨k.p0,k.pn,fun c hc=>?_,fun c hc=>?_,fun c d hc hd=>?_,fun c hc=>?_,fun c hc i hi v hv=>?_,fun c hc v hv=>?_⟩,e⟩<;>rw[hl]at hc
 ·rw[hin];exact k.op c hc
 ·rw[hmk];exact k.nd c hc
 ·rw[hl]at hd;rw[hmk,hmk];exact k.dj c d hc hd
 ·rw[hmk];exact k.rg c hc
 ·rw[hin]at hi hv;exact(k.tk c hc i hi v hv).ext e
 ·rw[hnth]at hv
  split at hv
  ·rename_i e1;subst e1
   exact(q.live v (ha v hv)).end e
  ·exact(k.tm c hc v hv).end e
structure D4 (n:Nat) (to:List (List Int)) (x:BL × MS):Prop where
 gt:Gt n to x.2
 ok:Ok x.2
 len:x.1.length=n
 term : ∀j,j<n→nth x.1 j=true→jq (nth x.2.blocks j).term=true
 emp : ∀j,j<n→nth x.1 j=false→(nth x.2.blocks j).ins.length=0
 ins : ∀j,j<n→(nth x.2.blocks j).ins.length≤45
 nx:x.2.next+45*(cnt0 x.1:Nat)≤28+45*n
theorem D4.step{x:BL × MS}(q:D4 n to x)(hb:b<n)(ht:(nth to b).length≤65):D4 n to (aK s to n b x)∧(∀j,nth x.1 j=true→nth (aK s to n b x).1 j=true)∧(mA x.1 (iQ x.2.f n) b n=true→nth (aK s to n b x).1 b=true):=by
 unfold aK
 have hlen:=q.gt.len
 have hbl:b<x.2.blocks.length:=by rw[hlen];exact hb
 split
 ·rename_i hr
  have hd:=lL hr
  have hset : ∀j,nth (x.1.set b true) j=if b=j then true else nth x.1 j:=fun j=>by
   have:=q.len
   rcases Nat.lt_or_ge j x.1.length with hl | hl
   ·rw[aH hl]
   ·rw[aV (by simpa using hl),if_neg (by omega),aV hl]
  generalize hdn:x.1.set b true=dn at hset
  have hdl:dn.length=n:=by rw[←hdn,List.length_set];exact q.len
  have hmono : ∀j,nth x.1 j=true→nth dn j=true:=fun j hj=>by rw[hset];split<;>simp_all
  have hlt:cnt0 dn<cnt0 x.1:=xb (by rw[hdl];exact q.len) (fun j _=>hmono j) b (by rw[q.len];exact hb) hd (by rw[hset,if_pos rfl])
  refine⟨?_,hmono,fun _=>by rw[hset,if_pos rfl]⟩
  generalize hm1:(MS.took { x.2 with live:=j4 x.2 dn (iQ x.2.f n) b n }:MS)=m1
  have hB:m1.blocks=x.2.blocks:=by rw[←hm1];rfl
  have hN:m1.next=x.2.next:=by rw[←hm1];rfl
  have i1:In b m1:=by
   rw[←hm1]
   exact⟨q.ok.at (Int.le_refl _),hbl,Gh (m:=x.2) (dn:=dn) q.ok.p0 hlen hb⟩
  have tk:=bj (s:=s) (at_:=x.2.at_) (n:=7) (by decide)
  have w1:=i1.eh (s:=s) (az s x.2.at_ 7).toNat
  obtain⟨w2,t1,t2,t3⟩:=w1.inn.term (s:=s) ht
  have g:=((Grw.refl (b:=b) (m:=m1)).eh (s:=s) i1.lt (az s x.2.at_ 7).toNat).EV (s:=s) (to:=nth to b) i1.lt
  have w:=w1.trans w2
  have eD:iz s to n dn (iQ x.2.f n) b x.2=ll s (nth to b) b (up (fun _=>aC s b) (az s x.2.at_ 7).toNat m1):=by rw[←hm1];rfl
  rw[eD]
  unfold ll
  generalize et s (nth to b) b (up (fun _=>aC s b) (az s x.2.at_ 7).toNat m1)=r at w2 t1 t2 t3 g w
  have e0:Ext x.2 r.2:=by
   have e:=w.ext
   exact⟨by rw[e.ps,←hm1];rfl,by rw[e.len,hB],fun j=>by rw[e.to,hB],fun j v hv=>e.phis j v (by rw[hB];exact hv),fun j=>by have:=e.ins j;rw[hB]at this;exact this⟩
  have gt2:=q.gt.ext e0
  obtain⟨k1,k2⟩:=Ok.eB w2.inn (t:=r.1) (by rw[t2,gt2.to b hb]) t3
  have hnth : ∀j,nth (r.2.eB b r.1).blocks j=if b=j then{ nth r.2.blocks b with term:=r.1 } else nth r.2.blocks j:=fun j=>by
   show nth (r.2.blocks.set b _) j=_
   have:=gt2.len
   rcases Nat.lt_or_ge j r.2.blocks.length with hl | hl
   ·rw[aH hl]
   ·rw[aV (by simpa using hl),if_neg (by omega),aV hl]
  have hels : ∀j,b≠j→nth (r.2.eB b r.1).blocks j=nth x.2.blocks j:=fun j hj=>by
   rw[hnth,if_neg hj,g.els j (fun e=>hj e.symm),hB]
  have hlen0:=q.emp b hb hd
  refine⟨gt2.ext k2,k1,hdl,fun j hj h=>?_,fun j hj h=>?_,fun j hj=>?_,?_⟩
  ·by_cases e:b=j
   ·show jq (nth (r.2.eB b r.1).blocks j).term=true
    rw[hnth,if_pos e];exact t1
   ·show jq (nth (r.2.eB b r.1).blocks j).term=true
    rw[hels j e]
    refine q.term j hj ?_
    have h:nth dn j=true:=h
    rw[hset,if_neg e]at h;exact h
  ·have h:nth dn j=false:=h
   rw[hset]at h
   split at h
   ·cases h
   ·rename_i e
    show(nth (r.2.eB b r.1).blocks j).ins.length=0
    rw[hels j e];exact q.emp j hj h
  ·show(nth (r.2.eB b r.1).blocks j).ins.length≤45
   by_cases e:b=j
   ·rw[hnth,if_pos e]
    have:=w.ins
    rw[hB]at this
    show(nth r.2.blocks b).ins.length≤45
    omega
   ·rw[hels j e];exact q.ins j hj
  ·show r.2.next+45*((cnt0 dn:Nat):Int)≤_
   have:=w.nx
   have:=q.nx
   omega
 ·rename_i hr
  exact⟨q,fun j h=>h,fun h=>absurd h hr⟩
theorem D4.upto {x:BL × MS} (q:D4 n to x) (ht : ∀j,(nth to j).length≤65) : ∀k,k≤n→D4 n to (up (aK s to n) k x)∧(∀j,nth x.1 j=true→nth (up (aK s to n) k x).1 j=true)∧(∀b,b<k→nth x.1 b=false→(∀a,a<n→a=b∨nth x.1 a=true∨Re (ofG x.2.blocks) (a:Int) b)→nth (up (aK s to n) k x).1 b=true)
 | 0,_=>⟨q,fun j h=>h,fun b hb=>absurd hb (Nat.not_lt_zero _)⟩
 | k+1,hk=>by
  obtain⟨h1,h2,h3⟩:=D4.upto q ht k (by omega)
  have e:up (aK s to n) (k+1) x=aK s to n k (up (aK s to n) k x):=rfl
  rw[e]
  generalize up (aK s to n) k x=y at h1 h2 h3
  obtain⟨h4,h5,h6⟩:=h1.step (s:=s) (b:=k) (by omega) (ht k)
  refine⟨h4,fun j h=>h5 j (h2 j h),fun b hb hd hr=>?_⟩
  rcases Nat.lt_or_ge b k with h | h
  ·exact h5 b (h3 b h hd hr)
  ·have:b=k:=by omega
   subst this
   cases hy:nth y.1 b with
   | true=>exact h5 b hy
   | false=>
    refine h6 (DL h1.gt.len (by omega) hy fun a ha=>?_)
    rcases hr a ha with r | r | r
    ·exact .inl r
    ·exact .inr (.inl (h2 a r))
    ·refine .inr (.inr ?_)
     have eg:ofG y.2.blocks=ofG x.2.blocks:=by
      unfold ofG
      rw[h1.gt.len,q.gt.len]
      refine List.map_congr_left fun i hi=>?_
      have hi:i<n:=List.mem_range.1 hi
      rw[h1.gt.to i hi,q.gt.to i hi]
     rw[eg];exact r
theorem D4.turn{x:BL × MS}(q:D4 n to x)(ht : ∀j,(nth to j).length≤65)(hw : ∀b,b<n→Re (ofG x.2.blocks) (-1) b):D4 n to (up (aK s to n) n x)∧(cnt0 (up (aK s to n) n x).1=0∨cnt0 (up (aK s to n) n x).1<cnt0 x.1):=by
 obtain⟨h1,h2,h3⟩:=q.upto (s:=s) ht n (Nat.le_refl _)
 refine⟨h1,?_⟩
 generalize up (aK s to n) n x=y at h1 h2 h3
 by_cases hz : ∃b,b<n∧nth x.1 b=false
 ·obtain⟨b,hb,hd⟩:=hz
  obtain⟨c,k1,k2,k3⟩:=Ed (l:=x.2.blocks) (dn:=x.1) (fun b hb=>hw b (by rw[q.gt.len]at hb;exact hb)) (b:=b) (by rw[q.gt.len];exact hb) hd
  rw[q.gt.len]at k1 k3
  exact .inr (xb (by rw[h1.len,q.len]) (fun j _=>h2 j) c (by rw[q.len];exact k1) k2 (h3 c k1 k2 k3))
 ·refine .inl ?_
  have : ∀{l:BL},(∀j,j<l.length→nth l j=true)→cnt0 l=0:=fun{l}=>by
   induction l with
   | nil=>intro _;rfl
   | cons a l ih=>
    intro h
    have h1:a=true:=h 0 (by simp)
    have h2:=ih fun j hj=>by have:=h (j+1) (by simpa using hj);rwa [kG]at this
    unfold cnt0;rw[h1,h2];rfl
  refine this fun j hj=>h2 j ?_
  rw[h1.len]at hj
  cases e:nth x.1 j with
  | true=>rfl
  | false=>exact absurd ⟨j,hj,e⟩ hz
theorem D4.turns {x:BL × MS} (q:D4 n to x) (ht : ∀j,(nth to j).length≤65) (hw : ∀{m:MS},Gt n to m→∀b,b<n→Re (ofG m.blocks) (-1) b) : ∀k,D4 n to (up (fun _=>up (aK s to n) n) k x)∧(cnt0 (up (fun _=>up (aK s to n) n) k x).1=0∨cnt0 (up (fun _=>up (aK s to n) n) k x).1+k≤n)
 | 0=>⟨q,.inr (by have:=tC (l:=x.1);rw[q.len]at this;exact this)⟩
 | k+1=>by
  obtain⟨h1,h2⟩:=D4.turns q ht hw k
  have e:up (fun _=>up (aK s to n) n) (k+1) x=up (aK s to n) n (up (fun _=>up (aK s to n) n) k x):=rfl
  rw[e]
  generalize up (fun _=>up (aK s to n) n) k x=y at h1 h2
  obtain⟨h3,h4⟩:=h1.turn (s:=s) ht (hw h1.gt)
  refine⟨h3,?_⟩
  rcases h4 with h4 | h4
  ·exact .inl h4
  ·rcases h2 with h2 | h2
   ·omega
   ·exact .inr (by omega)
theorem C8{m:MS}(g:Gt (aE s) (eA s).1 m): ∀b,b<aE s→Re (ofG m.blocks) (-1) b:=by
 have t:=xp (s:=s)
 obtain⟨h1,h2⟩:=eu (s:=s)
 intro b hb
 refine HE (by rw[g.len];omega) (fun b h1 hb=>?_) b (by rw[g.len];exact hb)
 rw[g.len]at hb
 obtain⟨a,ha,hm⟩:=t.way b h1 (by omega)
 exact⟨a,ha,by rw[g.to a (by omega)];exact hm⟩
theorem FE:D4 (aE s) (eA s).1 (lQ s)∧∀j,j<aE s→nth (lQ s).1 j=true:=by
 obtain⟨q,h1,h2⟩:=xX (s:=s)
 have t:=xp (s:=s)
 have hr : ∀j,nth (List.replicate (aE s) false) j=false:=fun j=>by
  rcases Nat.lt_or_ge j (aE s)with hl | hl
  ·rw[aq hl]
  ·rw[aV (by simpa using hl)];rfl
 have d0:D4 (aE s) (eA s).1 (List.replicate (aE s) false,(fB s).2):=
  ⟨q.gt,q.ok,by simp,fun j hj h=>by{ rw[hr]at h;cases h },fun j hj _=>by{ show(nth (fB s).2.blocks j).ins.length=0;rw[q.none j hj];rfl },fun j hj=>by{ show(nth (fB s).2.blocks j).ins.length≤45;rw[q.none j hj];exact Nat.zero_le _ },by
   have:=tC (l:=List.replicate (aE s) false)
   rw[List.length_replicate]at this
   show(fB s).2.next+45*((cnt0 (List.replicate (aE s) false):Nat):Int)≤_
   omega⟩
 obtain⟨h3,h4⟩:=d0.turns (s:=s) (fun j=>by have:=t.row j;omega) (fun g=>C8 g) (aE s)
 refine⟨h3,fun j hj=>?_⟩
 have h4:cnt0 (lQ s).1=0∨cnt0 (lQ s).1+aE s≤aE s:=h4
 exact uX (by omega) j (by rw[show(lQ s).1.length=aE s from h3.len];exact hj)
end
section
variable {s:List Int} {n:Nat} {to:List (List Int)} {m m':MS} {b:Nat}
theorem oY[Inhabited α]{β:Type}{l:List α}{g:α→β}:rows (fun i=>g (nth l i)) l.length=l.map g:=by
 refine List.ext_getElem (by simp) fun i h1 h2=>?_
 have hi:i<l.length:=by simpa using h2
 simp[rows,ak hi]
theorem xy{f:ah}:gP (thB f b)=mkB (nth f.blocks b):=by
 unfold thB gP mkB
 rw[List.flatMap_append,List.flatMap_append]
 have e1:(rows (phiT f b) (nth f.blocks b).phis.length).flatMap Th.mks=(nth f.blocks b).phis.map PhiD.dst:=by
  rw[←oY]
  unfold rows
  rw[List.flatMap_map]
  show(List.range _).flatMap (fun i=>[(nth (nth f.blocks b).phis i).dst])=_
  generalize List.range _=l
  induction l with
  | nil=>rfl
  | cons a l ih=>rw[List.flatMap_cons,ih,List.map_cons];rfl
 have e2:(rows (insT f b) (nth f.blocks b).ins.length).flatMap Th.mks=(nth f.blocks b).ins.flatMap a6:=by
  have h:(nth f.blocks b).ins.map a6=rows (fun i=>a6 (nth (nth f.blocks b).ins i)) (nth f.blocks b).ins.length:=oY.symm
  rw[show(nth f.blocks b).ins.flatMap a6=((nth f.blocks b).ins.map a6).flatten from rfl,h]
  unfold rows
  rw[List.flatMap_map]
  rfl
 rw[e1,e2]
 simp[endT]
theorem zc {f:ah} {v:Int} : ∀{k:Nat},v∈gP (thTo f k)↔∃b,b<k∧v∈mkB (nth f.blocks b)
 | 0=>⟨fun h=>(by cases h),fun⟨b,h,_⟩=>absurd h (Nat.not_lt_zero _)⟩
 | k+1=>by
  rw[eK]
  unfold gP
  rw[List.flatMap_append,List.mem_append]
  have ih:=zc (f:=f) (v:=v) (k:=k)
  unfold gP at ih
  rw[ih]
  have e:=xy (f:=f) (b:=k)
  unfold gP at e
  rw[e]
  constructor
  ·rintro(⟨b,h1,h2⟩ | h)
   ·exact⟨b,by omega,h2⟩
   ·exact⟨k,by omega,h⟩
  ·rintro⟨b,h1,h2⟩
   rcases Nat.lt_or_ge b k with h | h
   ·exact .inl ⟨b,h,h2⟩
   ·have:b=k:=by omega
    subst this;exact .inr h2
theorem wA {f:ah} (nd : ∀b,b<f.blocks.length→(mkB (nth f.blocks b)).Nodup) (dj : ∀a b,a<f.blocks.length→b<f.blocks.length→a≠b→∀v∈mkB (nth f.blocks a),v∉mkB (nth f.blocks b)) : ∀k,k≤f.blocks.length→(gP (thTo f k)).Nodup
 | 0,_=>List.nodup_nil
 | k+1,hk=>by
  rw[eK]
  have e:gP (thTo f k++thB f k)=gP (thTo f k)++mkB (nth f.blocks k):=by
   rw[←xy];exact List.flatMap_append
  rw[e]
  refine List.nodup_append.2 ⟨wA nd dj k (by omega),nd k (by omega),fun x hx y hy=>?_⟩
  rintro rfl
  obtain⟨b,h1,h2⟩:=zc.1 hx
  exact dj b k (by omega) (by omega) (by omega) x h2 hy
theorem G8{f:ah}(hb:b<f.blocks.length){v:Int}(hv:v∈mkB (nth f.blocks b)): ∃t∈aF f,v∈t.mks∧t.blk=b:=by
 rcases List.mem_append.1 hv with h | h
 ·obtain⟨p,hp,rfl⟩:=List.mem_map.1 h
  obtain⟨i,hi,rfl⟩:=List.getElem_of_mem hp
  exact⟨phiT f b i,bC.2 ⟨b,hb,bU.2 (.inl ⟨i,hi,rfl⟩)⟩,by show _∈[_];rw[ak hi];exact List.mem_singleton.2 rfl,rfl⟩
 ·obtain⟨p,hp,h2⟩:=List.mem_flatMap.1 h
  obtain⟨i,hi,rfl⟩:=List.getElem_of_mem hp
  exact⟨insT f b i,bC.2 ⟨b,hb,bU.2 (.inr (.inl ⟨i,hi,rfl⟩))⟩,by show _∈a6 _;rw[ak hi];exact h2,rfl⟩
theorem Du{f:ah}{t:Th}{v:Int}(ht:t∈aF f)(hv:v∈t.mks): ∃b,b<f.blocks.length∧t.blk=b∧v∈mkB (nth f.blocks b):=by
 obtain⟨b,hb,hm⟩:=bC.1 ht
 refine⟨b,hb,?_,?_⟩
 ·rcases bU.1 hm with⟨i,hi,rfl⟩ | ⟨i,hi,rfl⟩ | rfl<;>rfl
 ·rw[←xy];exact List.mem_flatMap.2 ⟨t,hm,hv⟩
theorem qM(hb:b<m.blocks.length){p:Nat}{v:Int}(h:Sd m b p v):fh m.f v b p:=by
 rcases h with h | h | h | ⟨a,h1,h2,h3,h4⟩
 ·exact .inl h
 ·obtain⟨q,hq,rfl⟩:=List.mem_map.1 h
  obtain⟨i,hi,rfl⟩:=List.getElem_of_mem hq
  refine .inr ⟨phiT m.f b i,bC.2 ⟨b,hb,bU.2 (.inl ⟨i,hi,rfl⟩)⟩,?_,.inl ⟨rfl,.inl ?_⟩⟩
  ·show _∈[(nth (nth m.blocks b).phis i).dst];rw[ak hi];exact List.mem_singleton.2 rfl
  ·show(-1-(i:Int))<0;omega
 ·obtain⟨q,hq,h2⟩:=List.mem_flatMap.1 h
  obtain⟨i,hi,rfl⟩:=List.getElem_of_mem hq
  have hi2:i<p∧i<(nth m.blocks b).ins.length:=by rw[List.length_take]at hi;omega
  rw[List.getElem_take]at h2
  refine .inr ⟨insT m.f b i,bC.2 ⟨b,hb,bU.2 (.inr (.inl ⟨i,hi2.2,rfl⟩))⟩,?_,.inl ⟨rfl,.inr ?_⟩⟩
  ·show _∈a6 (nth (nth m.blocks b).ins i);rw[ak hi2.2];exact h2
  ·show((i:Nat):Int)<p;omega
 ·obtain⟨t,ht,h5,h6⟩:=G8 (f:=m.f) h1 h3
  refine .inr ⟨t,ht,h5,.inr ⟨by rw[h6];omega,?_⟩⟩
  rw[h6,Int.toNat_natCast];exact h4
theorem xS(hp:0≤m.ps)(hb:b<m.blocks.length){v:Int}(h:v∈fM m.f b):Sd m b (nth m.blocks b).ins.length v:=by
 have key : ∀(l:List Th) (o:List Int),(∀t∈l,t∈aF m.f)→(∀v∈o,Sd m b (nth m.blocks b).ins.length v)→∀v∈l.foldl (dP m.f b) o,Sd m b (nth m.blocks b).ins.length v:=by
  intro l
  induction l with
  | nil=>intro o _ ho v hv;exact ho v hv
  | cons t l ih=>
   intro o hl ho v hv
   rw[List.foldl_cons]at hv
   refine ih _ (fun x hx=>hl x (List.mem_cons_of_mem _ hx)) (fun v hv=>?_) v hv
   unfold dP at hv
   split at hv
   ·rename_i ha
    rcases List.mem_append.1 hv with hv | hv
    ·exact ho v hv
    ·obtain⟨a,h1,h2,h3⟩:=Du (hl t List.mem_cons_self) hv
     rcases Nat.decEq a b with e | e
     ·refine .inr (.inr (.inr ⟨a,h1,e,h3,fun hr=>?_⟩))
      unfold pw at ha
      rw[h2,(fX (f:=m.f) hb).2 hr]at ha
      simp at ha
      exact e (by omega)
     ·subst e
      rcases List.mem_append.1 h3 with h | h
      ·exact .inr (.inl h)
      ·refine .inr (.inr (.inl ?_))
       rw[List.take_length];exact h
   ·exact ho v hv
 unfold fM at h
 refine key _ _ (fun t h=>h) (fun v hv=>?_) v h
 obtain⟨i,hi,rfl⟩:=sZ.1 hv
 have hi:i<m.ps.toNat:=hi
 exact .inl ⟨by omega,by omega⟩
def PhOk (m:MS) (p:PhiD) (b:Nat):Prop:=p.ins.map InD.frm=aw m.f b∧∀q∈p.ins,∃c:Nat,q.frm=c∧c<m.blocks.length∧Sd m c (nth m.blocks c).ins.length q.val
theorem na(hl:m'.blocks.length=m.blocks.length)(h : ∀j,(nth m'.blocks j).term.to=(nth m.blocks j).term.to){b:Int}:aw m'.f b=aw m.f b:=by
 unfold aw
 rw[show m'.f.blocks.length=m.f.blocks.length from hl]
 congr 1
 funext a
 rw[show(nth m'.f.blocks a).term.to=(nth m.f.blocks a).term.to from h a]
theorem PhOk.ext{p:PhiD}(h:PhOk m p b)(e:Ext m m'):PhOk m' p b:=
 ⟨by rw[na e.len e.to];exact h.1,fun q hq=>by
  obtain⟨c,h1,h2,h3⟩:=h.2 q hq
  exact⟨c,h1,by rw[e.len];exact h2,h3.end e⟩⟩
structure D5 (n c:Nat) (to:List (List Int)) (m:MS):Prop where
 gt:Gt n to m
 ok:Ok m
 term : ∀j,j<n→jq (nth m.blocks j).term=true
 ins : ∀j,j<n→(nth m.blocks j).ins.length≤45+c
 nx:m.next≤433+c
theorem D5.mono{c d:Nat}(q:D5 n c to m)(h:c≤d):D5 n d to m:=⟨q.gt,q.ok,q.term,fun j hj=>by have:=q.ins j hj;omega,by have:=q.nx;omega⟩
theorem D5.took {c:Nat} (q:D5 n c to m):D5 n c to m.took:=⟨⟨q.gt.len,q.gt.to⟩,q.ok.at (Int.le_refl _),q.term,q.ins,q.nx⟩
theorem D5.constant {c:Nat} (q:D5 n c to m) (hb:b<n) {w:Int}:D5 n (c+1) to (m.constant b w)∧Ext m (m.constant b w)∧(∀j,(nth (m.constant b w).blocks j).phis=(nth m.blocks j).phis)∧Sd (m.constant b w) b (nth (m.constant b w).blocks b).ins.length m.next:=by
 have hlen:=q.gt.len
 have hbl:b<m.blocks.length:=by rw[hlen];exact hb
 have e:m.constant b w=MS.add ⟨m.at_,m.ps,m.blocks,m.next+1,m.live⟩ b (conD m.next w):=rfl
 have mk:a6 (conD m.next w)=[m.next]:=rfl
 have k:=q.ok.add (a:=m.at_) (nx:=m.next+1) (i:=conD m.next w) (l:=m.live) hbl (by omega) (by rw[mk];intro v hv;rw[List.mem_singleton.1 hv];omega) (by rw[mk];simp) ⟨rfl,fun h=>absurd h (show(1:Int)≠16 by decide),fun _=>rfl⟩ (fun v hv=>by cases hv)
 have ex:Ext m (m.constant b w):=(xe (m:=⟨m.at_,m.ps,m.blocks,m.next+1,m.live⟩) (i:=conD m.next w) hbl).frm rfl rfl
 have hnth : ∀j,nth (m.constant b w).blocks j=if b=j then{ nth m.blocks b with ins:=(nth m.blocks b).ins++[conD m.next w] } else nth m.blocks j:=fun j=>n7 (m:=⟨m.at_,m.ps,m.blocks,m.next+1,m.live⟩) hbl
 refine⟨⟨q.gt.ext ex,k,fun j hj=>?_,fun j hj=>?_,?_⟩,ex,fun j=>?_,C5 (m:=m) hbl (by rw[mk];exact List.mem_singleton.2 rfl)⟩
 ·rw[hnth];split
  ·exact q.term b hb
  ·exact q.term j hj
 ·have:=q.ins j hj
  rw[hnth];split
  ·rename_i e1;subst e1
   show((nth m.blocks b).ins++[_]).length≤_
   rw[List.length_append,List.length_singleton];omega
  ·omega
 ·have:=q.nx
  show m.next+1≤_
  omega
 ·rw[hnth];split
  ·rename_i e1;rw[e1]
  ·rfl
theorem D5.row{c:Nat}(q:D5 n c to m)(hb:b<n):D5 n (c+1) to (rowS s b m).2∧Ext m (rowS s b m).2∧(∀j,(nth (rowS s b m).2.blocks j).phis=(nth m.blocks j).phis)∧∀v∈(rowS s b m).1,Sd (rowS s b m).2 b (nth (rowS s b m).2.blocks b).ins.length v:=by
 unfold rowS
 split
 ·obtain⟨h1,h2,h3,h4⟩:=q.took.took.constant (w:=iG s m) hb
  refine⟨h1,⟨h2.ps,h2.len,h2.to,h2.phis,h2.ins⟩,h3,fun v hv=>?_⟩
  rw[List.mem_singleton.1 hv];exact h4
 ·have hlen:=q.gt.len
  exact⟨q.mono (by omega),.refl,fun j=>rfl,fun v hv=>xS q.ok.p0 (by omega) hv⟩
theorem D5.ups {c:Nat} {p:List Int} (q:D5 n c to m) (hp : ∀k,k<p.length→∃a:Nat,nth p k=a∧a<n) : ∀k,k≤p.length→
  D5 n (c+k) to (up (bH s p) k ([],m)).2∧Ext m (up (bH s p) k ([],m)).2∧(∀j,(nth (up (bH s p) k ([],m)).2.blocks j).phis=(nth m.blocks j).phis)∧(up (bH s p) k ([],m)).1.map InD.frm=p.take k∧
   ∀r∈(up (bH s p) k ([],m)).1,∃a:Nat,r.frm=a∧a<n∧Sd (up (bH s p) k ([],m)).2 a (nth (up (bH s p) k ([],m)).2.blocks a).ins.length r.val
 | 0,_=>⟨q,.refl,fun _=>rfl,rfl,fun r hr=>by cases hr⟩
 | k+1,hk=>by
  obtain⟨h1,h2,h3,h4,h5⟩:=D5.ups q hp k (by omega)
  obtain⟨a,ha,han⟩:=hp k (by omega)
  have e1:(up (bH s p) (k+1) ([],m)).2=(rowS s (nth p k).toNat (up (bH s p) k ([],m)).2).2.took:=rfl
  have e2:(up (bH s p) (k+1) ([],m)).1=(up (bH s p) k ([],m)).1++[⟨nth p k,nth (rowS s (nth p k).toNat (up (bH s p) k ([],m)).2).1 (az s (rowS s (nth p k).toNat (up (bH s p) k ([],m)).2).2.at_ (rowS s (nth p k).toNat (up (bH s p) k ([],m)).2).1.length).toNat⟩]:=rfl
  rw[e1,e2]
  generalize up (bH s p) k ([],m)=y at h1 h2 h3 h4 h5
  have hat:(nth p k).toNat=a:=by omega
  rw[hat]
  obtain⟨k1,k2,k3,k4⟩:=h1.row (s:=s) (b:=a) han
  have hpos:=ym (s:=s) (b:=a) (m:=y.2)
  generalize rowS s a y.2=r at k1 k2 k3 k4 hpos
  refine⟨k1.took,h2.trans ⟨k2.ps,k2.len,k2.to,k2.phis,k2.ins⟩,fun j=>(k3 j).trans (h3 j),?_,fun t ht=>?_⟩
  ·rw[List.map_append,h4,List.take_succ_eq_append_getElem (by omega)]
   show p.take k++[nth p k]=_
   rw[ak (by omega)]
  ·rcases List.mem_append.1 ht with ht | ht
   ·obtain⟨d,d1,d2,d3⟩:=h5 t ht
    exact⟨d,d1,d2,d3.end k2⟩
   ·rw[List.mem_singleton.1 ht]
    refine⟨a,ha,han,k4 _ (bw ?_)⟩
    have:=bj (s:=s) (at_:=r.2.at_) (n:=(r.1.length:Int)) (by omega)
    omega
theorem vO{i j:Nat}{l:List InD}(hb:b<m.blocks.length):nth (m.iC b i l).blocks j=if b=j then{ nth m.blocks b with phis:=(nth m.blocks b).phis.set i { nth (nth m.blocks b).phis i with ins:=l } } else nth m.blocks j:=by
 show nth (m.blocks.set b _) j=_
 rcases Nat.lt_or_ge j m.blocks.length with hl | hl
 ·rw[aH hl]
 ·rw[aV (by simpa using hl),if_neg (by omega),aV hl]
theorem Gw{l:List PhiD}{i:Nat}{x:List InD}:(l.set i { nth l i with ins:=x }).map PhiD.dst=l.map PhiD.dst:=by
 refine List.ext_getElem (by simp) fun j h1 h2=>?_
 have hj:j<l.length:=by simpa using h2
 rw[List.getElem_map,List.getElem_map,List.getElem_set]
 split
 ·rename_i e;subst e
  rw[ak hj]
 ·rfl
theorem D5.iC {c i:Nat} {l:List InD} (q:D5 n c to m) (hb:b<n):D5 n c to (m.iC b i l)∧Ext m (m.iC b i l):=by
 have hlen:=q.gt.len
 have hbl:b<m.blocks.length:=by omega
 have hnth : ∀j,nth (m.iC b i l).blocks j=_:=fun j=>vO (i:=i) (l:=l) hbl
 have hl:(m.iC b i l).blocks.length=m.blocks.length:=List.length_set
 have hin : ∀j,(nth (m.iC b i l).blocks j).ins=(nth m.blocks j).ins:=fun j=>by
  rw[hnth];split
  ·rename_i e;rw[e]
  ·rfl
 have htm : ∀j,(nth (m.iC b i l).blocks j).term=(nth m.blocks j).term:=fun j=>by
  rw[hnth];split
  ·rename_i e;rw[e]
  ·rfl
 have hph : ∀j,(nth (m.iC b i l).blocks j).phis.map PhiD.dst=(nth m.blocks j).phis.map PhiD.dst:=fun j=>by
  rw[hnth];split
  ·rename_i e;rw[←e];exact Gw
  ·rfl
 have hmk : ∀j,mkB (nth (m.iC b i l).blocks j)=mkB (nth m.blocks j):=fun j=>by unfold mkB;rw[hin,hph]
 have e:Ext m (m.iC b i l):=⟨rfl,hl,fun j=>by rw[htm],fun j v h=>by rw[hph];exact h,fun j=>⟨[],by rw[hin];simp⟩⟩
 have k:=q.ok
 refine⟨⟨q.gt.ext e,⟨k.p0,k.pn,fun c hc=>?_,fun c hc=>?_,fun c d hc hd=>?_,fun c hc=>?_,fun c hc i hi v hv=>?_,fun c hc v hv=>?_⟩,fun j hj=>by rw[htm];exact q.term j hj,fun j hj=>by rw[hin];exact q.ins j hj,q.nx⟩,e⟩<;>rw[hl]at hc
 ·rw[hin];exact k.op c hc
 ·rw[hmk];exact k.nd c hc
 ·rw[hl]at hd;rw[hmk,hmk];exact k.dj c d hc hd
 ·rw[hmk];exact k.rg c hc
 ·rw[hin]at hi hv;exact(k.tk c hc i hi v hv).ext e
 ·rw[htm]at hv;exact(k.tm c hc v hv).end e
theorem CN{k:Nat}{b:Int}(hk:k<(aw m.f b).length): ∃a:Nat,nth (aw m.f b) k=a∧a<m.blocks.length:=sR _ k hk
theorem BI{b:Int}:(aw m.f b).length≤m.blocks.length:=fH _
theorem D5.phi{c i:Nat}(q:D5 n c to m)(hb:b<n)(hi:i<(nth m.blocks b).phis.length):
  D5 n (c+n) to (phi3 s b (aw m.f b) i m)∧Ext m (phi3 s b (aw m.f b) i m)∧(∀j,(nth (phi3 s b (aw m.f b) i m).blocks j).phis.length=(nth m.blocks j).phis.length)∧
   PhOk (phi3 s b (aw m.f b) i m) (nth (nth (phi3 s b (aw m.f b) i m).blocks b).phis i) b∧
   ∀d j,(d≠b∨j≠i)→nth (nth (phi3 s b (aw m.f b) i m).blocks d).phis j=nth (nth m.blocks d).phis j:=by
 have hlen:=q.gt.len
 obtain⟨h1,h2,h3,h4,h5⟩:=q.ups (s:=s) (p:=aw m.f b) (fun k hk=>by
  obtain⟨a,h1,h2⟩:=CN hk
  exact⟨a,h1,by omega⟩) (aw m.f b).length (Nat.le_refl _)
 have hp:=BI (m:=m) (b:=b)
 unfold phi3
 generalize up (bH s (aw m.f b)) (aw m.f b).length ([],m)=y at h1 h2 h3 h4 h5
 have hyl:=h1.gt.len
 obtain⟨k1,k2⟩:=h1.iC (b:=b) (i:=i) (l:=y.1) hb
 have hnth : ∀j,nth (y.2.iC b i y.1).blocks j=_:=fun j=>vO (i:=i) (l:=y.1) (by omega:b<y.2.blocks.length)
 have hi2:i<(nth y.2.blocks b).phis.length:=by rw[h3];exact hi
 refine⟨k1.mono (by omega),h2.trans k2,fun j=>?_,?_,fun d j hd=>?_⟩
 ·rw[hnth];split
  ·rename_i e;rw[←e,←h3 b]
   show(List.set _ _ _).length=_
   rw[List.length_set]
  ·rw[h3]
 ·rw[hnth,if_pos rfl]
  show PhOk _ (nth ((nth y.2.blocks b).phis.set i _) i) b
  rw[aH hi2,if_pos rfl]
  refine⟨?_,fun t ht=>?_⟩
  ·rw[na (h2.trans k2).len (h2.trans k2).to]
   show y.1.map InD.frm=_
   rw[h4,List.take_length]
  ·obtain⟨a,d1,d2,d3⟩:=h5 t ht
   exact⟨a,d1,by rw[k2.len];omega,d3.end k2⟩
 ·rw[hnth]
  split
  ·rename_i e;subst e
   show nth ((nth y.2.blocks b).phis.set i _) j=_
   rw[←h3 b]
   rcases Nat.lt_or_ge j (nth y.2.blocks b).phis.length with hl | hl
   ·rw[aH hl,if_neg (by rcases hd with hd | hd;exact absurd rfl hd;exact fun e=>hd e.symm)]
   ·rw[aV (by simpa using hl),aV hl]
  ·rw[h3]
theorem D5.phis {c cnt:Nat} (q:D5 n c to m) (hb:b<n) (hc:(nth m.blocks b).phis.length=cnt) : ∀k,k≤cnt→
  D5 n (c+n*k) to (up (phi3 s b (aw m.f b)) k m)∧Ext m (up (phi3 s b (aw m.f b)) k m)∧(∀j,(nth (up (phi3 s b (aw m.f b)) k m).blocks j).phis.length=(nth m.blocks j).phis.length)∧
   (∀i,i<k→PhOk (up (phi3 s b (aw m.f b)) k m) (nth (nth (up (phi3 s b (aw m.f b)) k m).blocks b).phis i) b)∧
   ∀d j,d≠b→nth (nth (up (phi3 s b (aw m.f b)) k m).blocks d).phis j=nth (nth m.blocks d).phis j
 | 0,_=>⟨q,.refl,fun _=>rfl,fun i hi=>absurd hi (Nat.not_lt_zero _),fun _ _ _=>rfl⟩
 | k+1,hk=>by
  obtain⟨h1,h2,h3,h4,h5⟩:=D5.phis q hb hc k (by omega)
  have e:up (phi3 s b (aw m.f b)) (k+1) m=phi3 s b (aw m.f b) k (up (phi3 s b (aw m.f b)) k m):=rfl
  rw[e]
  have ep:aw m.f b=aw (up (phi3 s b (aw m.f b)) k m).f b:=(na h2.len h2.to).symm
  generalize hy:up (phi3 s b (aw m.f b)) k m=y at h1 h2 h3 h4 h5 ep
  rw[ep]
  obtain⟨k1,k2,k3,k4,k5⟩:=h1.phi (s:=s) (i:=k) hb (by rw[h3];omega)
  refine⟨k1.mono (by rw[Nat.mul_succ];omega),h2.trans k2,fun j=>(k3 j).trans (h3 j),fun i hi=>?_,fun d j hd=>(k5 d j (.inl hd)).trans (h5 d j hd)⟩
  rcases Nat.lt_or_ge i k with h | h
  ·rw[k5 b i (.inr (by omega))]
   exact(h4 i h).ext k2
  ·have:i=k:=by omega
   subst this;exact k4
theorem D5.blks {c:Nat} {lp:List Int} (q:D5 n c to m) (hc : ∀j,((nth m.blocks j).phis.length:Int)=nth lp j) (h3 : ∀j,nth lp j≤3) : ∀k,k<n→
  D5 n (c+n*3*k) to (up (blk3 s lp) k m)∧Ext m (up (blk3 s lp) k m)∧(∀j,(nth (up (blk3 s lp) k m).blocks j).phis.length=(nth m.blocks j).phis.length)∧
   ∀b,1≤b→b≤k→∀i,i<(nth m.blocks b).phis.length→PhOk (up (blk3 s lp) k m) (nth (nth (up (blk3 s lp) k m).blocks b).phis i) b
 | 0,_=>⟨q,.refl,fun _=>rfl,fun b h1 h2=>by omega⟩
 | k+1,hk=>by
  obtain⟨h1,h2,h4,h5⟩:=D5.blks q hc h3 k (by omega)
  have e:up (blk3 s lp) (k+1) m=blk3 s lp k (up (blk3 s lp) k m):=rfl
  rw[e]
  generalize up (blk3 s lp) k m=y at h1 h2 h4 h5
  have hcnt:(nth y.blocks (k+1)).phis.length=(nth lp (k+1)).toNat:=by
   have:=hc (k+1)
   rw[h4];omega
  have hc3:=h3 (k+1)
  obtain⟨k1,k2,k3,k4,k5⟩:=h1.phis (s:=s) (b:=k+1) hk hcnt (nth lp (k+1)).toNat (Nat.le_refl _)
  have hbd:n*(nth lp (k+1)).toNat≤n*3:=Nat.mul_le_mul_left _ (by omega)
  have hms:n*3*(k+1)=n*3*k+n*3:=Nat.mul_succ _ _
  refine⟨k1.mono (by rw[hms];omega),h2.trans k2,fun j=>(k3 j).trans (h4 j),fun b hb1 hb2 i hi=>?_⟩
  rcases Nat.lt_or_ge k b with h | h
  ·have:b=k+1:=by omega
   subst this
   have:=hc (k+1)
   exact k4 i (by omega)
  ·have:=(h5 b hb1 h i hi).ext k2
   rw[←k5 b i (by omega)]at this
   exact this
theorem Bg:D5 (aE s) 216 (eA s).1 (fS s)∧(∀j,(nth (fS s).blocks j).phis.length≤3)∧(nth (fS s).blocks 0).phis.length=0∧∀b,b<aE s→∀i,i<(nth (fS s).blocks b).phis.length→PhOk (fS s) (nth (nth (fS s).blocks b).phis i) b:=by
 obtain⟨n1,n2⟩:=eu (s:=s)
 obtain⟨q,h4⟩:=FE (s:=s)
 obtain⟨p,_,_⟩:=nC (s:=s)
 obtain⟨_,pc⟩:=tU (s:=s)
 obtain⟨_,_,e0⟩:=xX (s:=s)
 have d:D5 (aE s) 0 (eA s).1 (lQ s).2:=⟨q.gt,q.ok,fun j hj=>q.term j hj (h4 j hj),q.ins,by have:=q.nx;omega⟩
 obtain⟨k1,k2,k3,k4⟩:=d.blks (s:=s) (lp:=(fB s).1) pc (fun j=>(p.rng j).2) (aE s-1) (by omega)
 have e:up (blk3 s (fB s).1) (aE s-1) (lQ s).2=fS s:=rfl
 rw[e]at k1 k2 k3 k4
 have hz:(nth (fS s).blocks 0).phis.length=0:=by
  rw[k3];have:=pc 0;omega
 have hm:aE s*3*(aE s-1)≤27*8:=Nat.mul_le_mul (by omega) (by omega)
 refine⟨k1.mono (by omega),fun j=>?_,hz,fun b hb i hi=>?_⟩
 ·rw[k3];have:=pc j;have:=(p.rng j).2;omega
 ·rcases Nat.eq_zero_or_pos b with h | h
  ·subst h;omega
  ·exact k4 b h (by omega) i (by rw[←k3];exact hi)
theorem zv {f:ah} {p i:Nat} (h : ∀j,j<f.blocks.length→(nth f.blocks j).phis.length≤p∧(nth f.blocks j).ins.length≤i) : ∀k,k≤f.blocks.length→jc f k≤f.blocks.length+(p+i)*k
 | 0,_=>by show f.blocks.length≤_;omega
 | k+1,hk=>by
  have ih:=zv h k (by omega)
  have:=h k (by omega)
  show jc f k+_+_≤_
  rw[Nat.mul_succ];omega
theorem y9:iB (gU s):=by
 obtain⟨d,p3,p0,hph⟩:=Bg (s:=s)
 obtain⟨n1,n2⟩:=eu (s:=s)
 have t:=xp (s:=s)
 have hlen:=d.gt.len
 have hf:(gU s)=(fS s).f:=rfl
 rw[hf]
 have k:=d.ok
 have hB:(fS s).f.blocks=(fS s).blocks:=rfl
 have hP:(fS s).f.params=(fS s).ps:=rfl
 have mp:0≤(fS s).ps∧(fS s).ps≤4:=rJ (s:=s)
 have gt:=d.gt
 have hto : ∀b,b<aE s→∀v∈(nth (fS s).blocks b).term.to,1≤v∧v<aE s:=fun b hb v hv=>by
  rw[gt.to b hb]at hv;exact t.rng b v hv
 have way:=C8 gt
 have dn:=d.nx
 have hins:=d.ins
 have dt:=d.term
 generalize fS s=m at *
 refine⟨mp,⟨by rw[hB];omega,by rw[hB];omega⟩,?_,fun t ht=>?_,wA k.nd k.dj _ (Nat.le_refl _),fun b hb=>?_,fun t ht h0 v hv=>?_,fun b i hb hi=>?_⟩
 ·have:=zv (f:=m.f) (p:=3) (i:=261) (fun j hj=>⟨p3 j,by have:=hins j (by rw[hB]at hj;omega);exact this⟩) _ (Nat.le_refl _)
  rw[hB,hlen]at this
  rw[hB,hlen]
  omega
 ·have hmk : ∀n∈t.mks,m.f.params≤n∧n≤8191:=fun v hv=>by
   obtain⟨b,hb,_,hm⟩:=Du ht hv
   have:=k.rg b hb v hm
   rw[hP];omega
  obtain⟨b,hb,hm⟩:=bC.1 ht
  have hb':b<m.blocks.length:=hb
  rcases bU.1 hm with⟨i,hi,rfl⟩ | ⟨i,hi,rfl⟩ | rfl
  ·have nl:jh m.f (phiT m.f b i)=true→False:=fun h=>by
    have h1:-1-(i:Int)=((fQ m.f (phiT m.f b i)).ins.length:Nat):=of_decide_eq_true h
    omega
   refine⟨fun h=>?_,fun h=>(nl h).elim,hmk,fun h=>(nl h).elim⟩
   have h1:(0:Int)≤-1-(i:Int):=of_decide_eq_true ((Bool.and_eq_true _ _).mp h).1
   omega
  ·have nl:jh m.f (insT m.f b i)=true→False:=fun h=>by
    have h1:(i:Int)=((nth m.f.blocks ((b:Nat):Int).toNat).ins.length:Nat):=of_decide_eq_true h
    rw[Int.toNat_natCast]at h1
    omega
   refine⟨fun h=>?_,fun h=>(nl h).elim,hmk,fun h=>(nl h).elim⟩
   refine(k.op b hb' _ ?_).1
   show nth (nth m.f.blocks ((b:Nat):Int).toNat).ins ((i:Nat):Int).toNat∈_
   rw[Int.toNat_natCast,Int.toNat_natCast]
   exact bw hi
  ·refine⟨fun h=>?_,fun h=>?_,hmk,fun h v hv=>?_⟩
   ·have h1:(((nth m.f.blocks b).ins.length:Nat):Int)<((nth m.f.blocks ((b:Nat):Int).toNat).ins.length:Nat):=of_decide_eq_true ((Bool.and_eq_true _ _).mp h).2
    rw[Int.toNat_natCast]at h1
    omega
   ·show jq (nth m.f.blocks ((b:Nat):Int).toNat).term=true
    rw[Int.toNat_natCast]
    exact dt b (by omega)
   ·have hv:v∈(nth m.f.blocks ((b:Nat):Int).toNat).term.to:=hv
    rw[Int.toNat_natCast]at hv
    have:=hto b (by omega) v hv
    rw[hB];omega
 ·exact way b (by rw[hB]at hb;omega)
 ·obtain⟨b,hb,hm⟩:=bC.1 ht
  have hb':b<m.blocks.length:=hb
  rcases bU.1 hm with⟨i,hi,rfl⟩ | ⟨i,hi,rfl⟩ | rfl
  ·exact absurd h0 (by show ¬(0:Int)≤-1-(i:Int);omega)
  ·exact qM hb' (k.tk b hb' i hi v hv)
  ·exact qM hb' (k.tm b hb' v hv)
 ·have hb':b<m.blocks.length:=hb
  obtain⟨g1,g2⟩:=hph b (by omega) i hi
  refine⟨?_,g1,fun q hq=>?_⟩
  ·rcases Nat.eq_zero_or_pos b with h | h
   ·subst h
    have hi:i<(nth m.blocks 0).phis.length:=hi
    omega
   ·exact h
  ·obtain⟨c,h1,h2,h3⟩:=g2 q hq
   rw[h1]
   have:=qM h2 h3
   show fh m.f q.val c (nE m.f c)
   unfold nE
   rw[Int.toNat_natCast]
   exact this
end
end Go.Proofs.YtbkdlhkoiagbbaaGreat
namespace Go.Lft
open Go
variable {po:OP}
end Go.Lft
namespace Go.Proofs.YtbkdlhkoiagbbaaGreat
open Go Go.Lft
structure TB (c:Nat) (x:BlkD):Prop where
 phis:x.phis.length≤c
 ins:x.ins.length≤c
 args:x.term.args.length≤c
 to:x.term.to.length≤c
 pin : ∀p∈x.phis,p.ins.length≤c∧p.dst≤4000
 iar : ∀i∈x.ins,i.args.length≤c∧i.dst≤4000∧i.two≤4000
structure TF (c:Nat) (f:ah):Prop where
 len:f.blocks.length≤12
 blk : ∀x∈f.blocks,TB c x
theorem TB.mono {c d:Nat} {x:BlkD} (t:TB c x) (h:c≤d):TB d x:=⟨Nat.le_trans t.phis h,Nat.le_trans t.ins h,Nat.le_trans t.args h,Nat.le_trans t.to h,fun p hp=>⟨Nat.le_trans (t.pin p hp).1 h,(t.pin p hp).2⟩,fun i hi=>⟨Nat.le_trans (t.iar i hi).1 h,(t.iar i hi).2⟩⟩
theorem TF.mono {c d:Nat} {f:ah} (t:TF c f) (h:c≤d):TF d f:=⟨t.len,fun x hx=>(t.blk x hx).mono h⟩
structure Tu (R F X:Nat) (i10:Own) (c:Nat) (W0:View) (vbk:Value) (bl:List BlkD) (W:View) (o:Own) (ps:Int) (vp vi va vt:Value) (kd im:Int) (lp:List PhiD) (li:List InsD) (la lt:List Int):Prop where
 le:W0.le W
 res:o (8,0)=bx T.aD R (RawN.mk (n:=1) [.int .i64 0,.slice none 0 0])
 fn:o (8,1)=bx T.aD F (RawN.mk (n:=1) [.int .i64 ps,vbk])
 blk:o (3,0)=it T.aY vbk bl
 box:o (3,1)=bx T.aY X (RawN.mk (n:=5) [vp,vi,.int .i64 kd,va,vt,.int .i32 im])
 ins:o (3,2)=it T.dq vi li
 phis:o (3,3)=it T.dG vp lp
 free:o (4,0)=none
 fr : ∀k:Key,10≤k.1→o k=i10 k
 ra:SlRd W va la
 rt:SlRd W vt lt
 ips:I64 ps
 ikd:I64 kd
 iim:-2147483648≤im∧im≤2147483647
 tb:TB c ⟨lp,li,⟨kd,la,lt,⟨im⟩⟩⟩
def TuE (R F X:Nat) (i10:Own) (c:Nat) (W0:View) (vbk:Value) (bl:List BlkD) (h:Heap):Prop:=∃W o ps vp vi va vt kd im lp li la lt,Tu R F X i10 c W0 vbk bl W o ps vp vi va vt kd im lp li la lt∧Owns W h o
theorem TuE.mono {R F X:Nat} {i10:Own} {c d:Nat} {W0:View} {vbk:Value} {bl:List BlkD} {h:Heap} (t:TuE R F X i10 c W0 vbk bl h) (hd:c≤d):TuE R F X i10 d W0 vbk bl h:=by
 obtain⟨W,o,ps,vp,vi,va,vt,kd,im,lp,li,la,lt,t,w⟩:=t
 exact⟨W,o,ps,vp,vi,va,vt,kd,im,lp,li,la,lt,⟨t.le,t.res,t.fn,t.blk,t.box,t.ins,t.phis,t.free,t.fr,t.ra,t.rt,t.ips,t.ikd,t.iim,t.tb.mono hd⟩,w⟩
section
variable {R F X c:Nat} {i10:Own} {W0 W:View} {vbk:Value} {bl:List BlkD} {h:Heap} {o:Own} {ps:Int} {vp vi va vt:Value} {kd im:Int} {lp:List PhiD} {li:List InsD} {la lt:List Int}
variable {po:OP} {ty t2:TypeId} {us:List (Nat × Value)} {x y:Operand} {K:Value→Heap→Prop}
end
theorem Gx {H:View} {u:Value} {d:BlkD} (h:Rd H u d) : ∃vp vi va vt,u = .agg #[vp,vi,.int .i64 d.term.kind,va,vt,.int .i32 d.term.imm.v]∧SlRd H vp d.phis∧SlRd H vi d.ins∧SlRd H va d.term.args∧SlRd H vt d.term.to∧I64 d.term.kind∧-2147483648≤d.term.imm.v∧d.term.imm.v≤2147483647:=by
 obtain⟨cs,rfl,c1,r1,e1,⟨vp,rfl,h1⟩,c2,r2,e2,⟨vi,rfl,h2⟩,c3,r3,e3,⟨rfl,h3⟩,c4,r4,e4,⟨va,rfl,h4⟩,c5,r5,e5,⟨vt,rfl,h5⟩,h6,h7⟩:=h
 subst e5 e4 e3 e2
 have he:cs.toList=[vp,vi,.int .i64 d.term.kind,va,vt,.int .i32 d.term.imm.v]:=by rw[e1,h6];rfl
 refine⟨vp,vi,va,vt,?_,h1,h2,h4,h5,h3,h7⟩
 rw[←Array.toList_inj.1 (he.trans rfl:cs.toList = #[vp,vi,Value.int .i64 d.term.kind,va,vt,.int .i32 d.term.imm.v].toList)]
theorem Owns.elW {W:View} {h:Heap} {o:Own} {k:Key} {α:Type} [r:Rep α] {e:TypeId} {v:Value} {l:List α} (w:Owns W h o) (hk:o k=it e v l) {i:Nat} (hi:i<l.length) : ∃cs,gJ (vw h) ((slA v).add (i*Rep.n α)) cs∧cs.length=Rep.n α∧Rep.rd W cs l[i]:=by
 obtain⟨hb,xs,⟨hl,hown⟩,hel⟩:=w.get hk
 have h0:=hel i hi
 have hle:i*Rep.n α+Rep.n α≤l.length*Rep.n α:=by rw[←Nat.succ_mul];exact Nat.mul_le_mul_right _ hi
 have hcl:((xs.drop (i*Rep.n α)).take (Rep.n α)).length=Rep.n α:=by simp;omega
 rcases hown with⟨rfl,hn⟩ | ⟨g,cap,cur,rfl,h2,h3,h4,h5,h6⟩
 ·omega
 ·have hadd:(slA (.slice (some ⟨g,0,none⟩) l.length cap)).add (i*Rep.n α)=⟨g,i*Rep.n α,none⟩:=by
   show(⟨g,0,none⟩:Addr).add _=_
   simp[Addr.z]
  rw[hadd]
  refine⟨_,⟨cur,e,(0,0),rfl,h2,?_⟩,hcl,h0⟩
  rw[hcl,←h6,List.drop_take,List.take_take,Nat.min_eq_left (by omega)]
theorem Owns.ldW {W:View} {h:Heap} {o:Own} {k:Key} {α:Type} [r:Rep α] {e:TypeId} {v:Value} {l:List α} (w:Owns W h o) (hk:o k=it e v l) (ha:Rep.agg α=true) {N:Nat} (hn:Rep.n α=N) {i:Nat} (hi:i<l.length) : ∃u,Un.ev (vw h) (.ar N) (.pointer (some ((slA v).add (i*N))))=some u∧Rd W u l[i]:=by
 subst hn
 obtain⟨cs,h1,h2,h3⟩:=Owns.elW w hk hi
 have:=fZ h1 cs.length 0 #[] (by omega)
 refine⟨.agg cs.toArray,?_,?_⟩
 ·simp only[Un.ev,vP,Option.bind_some]
  rw[h2]at this
  rw[this]
  simp
 ·unfold Rd
  rw[if_pos ha]
  exact⟨_,rfl,by simpa using h3⟩
end Go.Proofs.YtbkdlhkoiagbbaaGreat
namespace Go.Proofs.YtbkdlhkoiagbbaaGreat
open Go Go.Lft
def pr:Nat→Nat→Nat
 | 0,i=>2*i+1
 | b+1,i=>2*pr b i
theorem Ay : ∀{b c i j:Nat},pr b i=pr c j→b=c∧i=j
 | 0,0,i,j,h=>⟨rfl,by unfold pr at h;omega⟩
 | 0,c+1,i,j,h=>by unfold pr at h;omega
 | b+1,0,i,j,h=>by unfold pr at h;omega
 | b+1,c+1,i,j,h=>by
  have h:2*pr b i=2*pr c j:=h
  have:=Ay (show pr b i=pr c j by omega)
  exact⟨by omega,this.2⟩
variable{b:Nat}
theorem za{c i j:Nat}:pr b i=pr c j↔b=c∧i=j:=⟨Ay,fun h=>by rw[h.1,h.2]⟩
structure PhO where
 dst:Int
 ins:Raw
instance:Rep PhO:=Rep.via fun d=>Cat.mk d.dst d.ins
instance:Inhabited PhO:=⟨⟨0,default⟩⟩
theorem PhO.je:Part PhO Int 0 PhO.dst (fun d x=>{ d with dst:=x }):=(Part.fst Part.all).via (fun _=>rfl) fun _ _=>rfl
structure InO where
 op:Int
 dst:Int
 two:Int
 args:Raw
 imm:I32
instance:Rep InO:=Rep.via fun d=>Cat.mk d.op (Cat.mk d.dst (Cat.mk d.two (Cat.mk d.args d.imm)))
instance:Inhabited InO:=⟨⟨0,0,0,default,default⟩⟩
theorem InO.je:Part InO Int 1 InO.dst (fun d x=>{ d with dst:=x }):=(Part.snd (Part.fst Part.all)).via (fun _=>rfl) fun _ _=>rfl
theorem InO.rV:Part InO Int 2 InO.two (fun d x=>{ d with two:=x }):=(Part.snd (Part.snd (Part.fst Part.all))).via (fun _=>rfl) fun _ _=>rfl
theorem InO.nB:Part InO Raw 3 InO.args (fun d x=>{ d with args:=x }):=(Part.snd (Part.snd (Part.snd (Part.fst Part.all)))).via (fun _=>rfl) fun _ _=>rfl
structure TmO where
 kind:Int
 args:Raw
 to:Raw
 imm:I32
instance:Rep TmO:=Rep.via fun d=>Cat.mk d.kind (Cat.mk d.args (Cat.mk d.to d.imm))
instance:Inhabited TmO:=⟨⟨0,default,default,default⟩⟩
theorem TmO.nB:Part TmO Raw 1 TmO.args (fun d x=>{ d with args:=x }):=(Part.snd (Part.fst Part.all)).via (fun _=>rfl) fun _ _=>rfl
theorem TmO.zT:Part TmO Raw 2 TmO.to (fun d x=>{ d with to:=x }):=(Part.snd (Part.snd (Part.fst Part.all))).via (fun _=>rfl) fun _ _=>rfl
structure BkO where
 phis:Raw
 ins:Raw
 term:TmO
instance:Rep BkO:=Rep.via fun d=>Cat.mk d.phis (Cat.mk d.ins d.term)
instance:Inhabited BkO:=⟨⟨default,default,default⟩⟩
theorem BkO.mD:Part BkO Raw 0 BkO.phis (fun d x=>{ d with phis:=x }):=(Part.fst Part.all).via (fun _=>rfl) fun _ _=>rfl
theorem BkO.mw:Part BkO TmO 2 BkO.term (fun d x=>{ d with term:=x }):=(Part.snd (Part.snd Part.all)).via (fun _=>rfl) fun _ _=>rfl
section
variable {H:View} {cs:List Value}
theorem FY{d:PhO}{l:List InD}(h:Rep.rd H cs d)(hl:SlRd H d.ins.v l):Rep.rd H cs (PhiD.mk d.dst l):=by
 obtain⟨c1,r1,e1,h1,h2,_⟩:=h
 have h2:r1=[d.ins.v]:=h2
 exact⟨c1,r1,e1,h1,d.ins.v,h2,hl⟩
theorem GB{d:InO}{l:List Int}(h:Rep.rd H cs d)(hl:SlRd H d.args.v l):Rep.rd H cs (InsD.mk d.op d.dst d.two l d.imm):=by
 obtain⟨c1,r1,e1,h1,c2,r2,e2,h2,c3,r3,e3,h3,c4,r4,e4,⟨h4,_⟩,h5⟩:=h
 have h4:c4=[d.args.v]:=h4
 exact⟨c1,r1,e1,h1,c2,r2,e2,h2,c3,r3,e3,h3,c4,r4,e4,⟨d.args.v,h4,hl⟩,h5⟩
theorem Fu{d:BkO}{p:List PhiD}{i:List InsD}{a t:List Int}(h:Rep.rd H cs d)(hp:SlRd H d.phis.v p)(hi:SlRd H d.ins.v i)(ha:SlRd H d.term.args.v a)(ht:SlRd H d.term.to.v t):Rep.rd H cs (BlkD.mk p i ⟨d.term.kind,a,t,d.term.imm⟩):=by
 obtain⟨c1,r1,e1,⟨h1,_⟩,c2,r2,e2,⟨h2,_⟩,c3,r3,e3,h3,c4,r4,e4,⟨h4,_⟩,c5,r5,e5,⟨h5,_⟩,h6⟩:=h
 have h1:c1=[d.phis.v]:=h1
 have h2:c2=[d.ins.v]:=h2
 have h4:c4=[d.term.args.v]:=h4
 have h5:c5=[d.term.to.v]:=h5
 exact⟨c1,r1,e1,⟨d.phis.v,h1,hp⟩,c2,r2,e2,⟨d.ins.v,h2,hi⟩,c3,r3,e3,h3,c4,r4,e4,⟨d.term.args.v,h4,ha⟩,c5,r5,e5,⟨d.term.to.v,h5,ht⟩,h6⟩
end
structure Bv where
 p:Value
 i:Value
 a:Value
 t:Value
 pin:Nat→Value
 iar:Nat→Value
def phO (V:Bv) (d:BlkD) (i:Nat):PhO:=⟨(nth d.phis i).dst,⟨V.pin i⟩⟩
def inO (V:Bv) (d:BlkD) (i:Nat):InO:=⟨(nth d.ins i).op,(nth d.ins i).dst,(nth d.ins i).two,⟨V.iar i⟩,(nth d.ins i).imm⟩
def tmO (V:Bv) (d:BlkD):TmO:=⟨d.term.kind,⟨V.a⟩,⟨V.t⟩,d.term.imm⟩
def bkO (V:Bv) (d:BlkD):BkO:=⟨⟨V.p⟩,⟨V.i⟩,tmO V d⟩
structure BO (K:Nat) (o:Own) (b:Nat) (V:Bv) (d:BlkD):Prop where
 phis:o (K+1,b)=it T.dG V.p (rows (phO V d) d.phis.length)
 ins:o (K+2,b)=it T.dq V.i (rows (inO V d) d.ins.length)
 args:o (K+3,b)=it T.int V.a d.term.args
 to:o (K+4,b)=it T.int V.t d.term.to
 pin : ∀i,i<d.phis.length→o (K+5,pr b i)=it T.dy (V.pin i) (nth d.phis i).ins
 iar : ∀i,i<d.ins.length→o (K+6,pr b i)=it T.int (V.iar i) (nth d.ins i).args
structure FnO (K:Nat) (o:Own) (vb:Value) (V:Nat→Bv) (f:ah):Prop where
 blk:o (K,0)=it T.aY vb (rows (fun b=>bkO (V b) (nth f.blocks b)) f.blocks.length)
 bo : ∀b,b<f.blocks.length→BO K o b (V b) (nth f.blocks b)
def OfB (K b:Nat) (k:Key):Prop:=(k.2=b∧K+1≤k.1∧k.1≤K+4)∨∃i,k.2=pr b i∧(k.1=K+5∨k.1=K+6)
section
variable {K:Nat} {o o':Own} {b c:Nat} {V:Bv} {d:BlkD}
theorem BO.congr(w:BO K o b V d)(h : ∀k,OfB K b k→o' k=o k):BO K o' b V d:=
 ⟨(h _ (.inl ⟨rfl,by simp,by simp⟩)).trans w.phis,(h _ (.inl ⟨rfl,by simp,by simp⟩)).trans w.ins,(h _ (.inl ⟨rfl,by simp,by simp⟩)).trans w.args,(h _ (.inl ⟨rfl,by simp,by simp⟩)).trans w.to,
  fun i hi=>(h _ (.inr ⟨i,rfl,.inl rfl⟩)).trans (w.pin i hi),fun i hi=>(h _ (.inr ⟨i,rfl,.inr rfl⟩)).trans (w.iar i hi)⟩
theorem xg(hbc:b≠c){k:Key}(h:OfB K b k):¬OfB K c k:=by
 intro g
 rcases h with⟨h1,h2,h3⟩ | ⟨i,h1,h2⟩<;>rcases g with⟨g1,g2,g3⟩ | ⟨j,g1,g2⟩
 ·omega
 ·omega
 ·omega
 ·exact hbc (Ay (h1.symm.trans g1)).1
theorem ij{k:Key}(h:OfB K b k):K+1≤k.1∧k.1≤K+6:=by
 rcases h with⟨h1,h2,h3⟩ | ⟨i,h1,h2⟩<;>omega
theorem BO.ab (w:BO K o b V d) {k:Key} {x:Option Lft.Item} (h:¬OfB K b k):BO K (o.upd k x) b V d:=
 w.congr fun q hq=>Own.ab (by rintro rfl;exact h hq)
end
section
variable {H:View} {vb:Value} {V:Nat→Bv} {f:ah}
theorem A3{V:Bv}{d:BlkD}(h0:SlRd H V.p (rows (phO V d) d.phis.length))(h1 : ∀i,i<d.phis.length→SlRd H (V.pin i) (nth d.phis i).ins):SlRd H V.p d.phis:=by
 refine oh h0 rfl (by simp) fun i g1 g2 cs hr=>?_
 have e:(rows (phO V d) d.phis.length)[i]=phO V d i:=by simp[rows]
 rw[e]at hr
 have:=FY hr (h1 i g2)
 rw[←ak g2]
 exact this
theorem DR{V:Bv}{d:BlkD}(h0:SlRd H V.i (rows (inO V d) d.ins.length))(h1 : ∀i,i<d.ins.length→SlRd H (V.iar i) (nth d.ins i).args):SlRd H V.i d.ins:=by
 refine oh h0 rfl (by simp) fun i g1 g2 cs hr=>?_
 have e:(rows (inO V d) d.ins.length)[i]=inO V d i:=by simp[rows]
 rw[e]at hr
 have:=GB hr (h1 i g2)
 rw[←ak g2]
 exact this
theorem BE(h0:SlRd H vb (rows (fun b=>bkO (V b) (nth f.blocks b)) f.blocks.length))(hp : ∀b,b<f.blocks.length→SlRd H (V b).p (nth f.blocks b).phis)(hi : ∀b,b<f.blocks.length→SlRd H (V b).i (nth f.blocks b).ins)(ha : ∀b,b<f.blocks.length→SlRd H (V b).a (nth f.blocks b).term.args)(ht : ∀b,b<f.blocks.length→SlRd H (V b).t (nth f.blocks b).term.to):SlRd H vb f.blocks:=by
 refine oh h0 rfl (by simp) fun b g1 g2 cs hr=>?_
 have e:(rows (fun b=>bkO (V b) (nth f.blocks b)) f.blocks.length)[b]=bkO (V b) (nth f.blocks b):=by simp[rows]
 rw[e]at hr
 have:=Fu hr (hp b g2) (hi b g2) (ha b g2) (ht b g2)
 rw[←ak g2]
 exact this
end
section
variable {W:View} {h:Heap} {K:Nat} {o o':Own} {vb:Value} {V:Nat→Bv} {f:ah} {b:Nat}
theorem FnO.rd(w:Owns W h o)(g:FnO K o vb V f):SlRd (vw h) vb f.blocks:=
 BE (w.now g.blk) (fun b hb=>A3 (w.now (g.bo b hb).phis) fun i hi=>w.now ((g.bo b hb).pin i hi)) (fun b hb=>DR (w.now (g.bo b hb).ins) fun i hi=>w.now ((g.bo b hb).iar i hi)) (fun b hb=>w.now (g.bo b hb).args) fun b hb=>w.now (g.bo b hb).to
theorem FnO.rdF(w:Owns W h o)(g:FnO K o vb V f)(hp:I64 f.params):Rd (vw h) (.agg #[.int .i64 f.params,vb]) f:=
 ⟨_,rfl,[.int .i64 f.params],[vb],rfl,⟨rfl,hp⟩,vb,rfl,g.rd w⟩
theorem FnO.congr (g:FnO K o vb V f) (h : ∀k:Key,K≤k.1→k.1≤K+6→o' k=o k):FnO K o' vb V f:=
 ⟨(h _ (Nat.le_refl _) (by simp)).trans g.blk,fun b hb=>(g.bo b hb).congr fun k hk=>by have:=ij hk;exact h k (by omega) (by omega)⟩
theorem FnO.upd (g:FnO K o vb V f) {k:Key} {x:Option Lft.Item} (h:k.1<K∨K+6<k.1):FnO K (o.upd k x) vb V f:=
 g.congr fun q h1 h2=>Own.ab (by rintro rfl;omega)
def aU (f:ah) (b:Nat) (d:BlkD):ah:=⟨f.params,f.blocks.set b d⟩
theorem jv{d:BlkD}:(aU f b d).blocks.length=f.blocks.length:=List.length_set
theorem pX{d:BlkD}(hb:b<f.blocks.length)(c:Nat):nth (aU f b d).blocks c=if b=c then d else nth f.blocks c:=by
 unfold aU
 dsimp only
 rcases Nat.lt_or_ge c f.blocks.length with h | h
 ·exact aH h
 ·rw[aV (by rw[List.length_set];exact h),aV h,if_neg (by omega)]
theorem zC(hb:b<f.blocks.length):aU f b (nth f.blocks b)=f:=by
 unfold aU
 rw[ak hb,List.set_getElem_self hb]
theorem xL{d e:BlkD}:aU (aU f b d) b e=aU f b e:=by
 unfold aU;rw[List.set_set]
theorem FnO.setB(g:FnO K o vb V f)(hb:b<f.blocks.length){d:BlkD}(h0:o' (K,0)=o (K,0))(ho : ∀k,K+1≤k.1→k.1≤K+6→¬OfB K b k→o' k=o k)(hk:tmO (V b) d=tmO (V b) (nth f.blocks b))(hd:BO K o' b (V b) d):FnO K o' vb V (aU f b d):=by
 have hn:=fun c=>pX (d:=d) hb c
 refine⟨?_,fun c hc=>?_⟩
 ·rw[h0,g.blk,jv]
  congr 1
  refine List.map_congr_left fun c _=>?_
  rw[hn]
  split
  ·rename_i e;subst e;unfold bkO;rw[hk]
  ·rfl
 ·rw[jv]at hc
  rw[hn]
  split
  ·rename_i e;subst e;exact hd
  ·rename_i e
   exact(g.bo c hc).congr fun k hk=>by have:=ij hk;exact ho k (by omega) (by omega) (xg (fun q=>e q.symm) hk)
theorem FnO.freeze(g:FnO K o vb V f)(w:Owns W h o): ∃W',W.le W'∧Owns W' h (fun k=>if K≤k.1∧k.1≤K+6 then .none else o k)∧SlRd W' vb f.blocks:=by
 obtain⟨W',hW,w',s⟩:=Owns.qZ w fun k=>decide (K≤k.1∧k.1≤K+6)
 refine⟨W',hW,w'.congr fun k=>?_,?_⟩
 ·by_cases e:K≤k.1∧k.1≤K+6
  ·rw[if_pos e,if_pos (decide_eq_true e)]
  ·rw[if_neg e,if_neg (by rw[decide_eq_false e];exact Bool.false_ne_true)]
 ·refine BE (s (by simp) g.blk) (fun b hb=>A3 (s (by simp) (g.bo b hb).phis) fun i hi=>s (by simp) ((g.bo b hb).pin i hi)) (fun b hb=>DR (s (by simp) (g.bo b hb).ins) fun i hi=>s (by simp) ((g.bo b hb).iar i hi)) (fun b hb=>s (by simp) (g.bo b hb).args) fun b hb=>s (by simp) (g.bo b hb).to
end
theorem fI{β:Type}{x:Nat→β}{n i:Nat}(h:i<(rows x n).length):(rows x n)[i]=x i:=by simp[rows]
theorem kA{β:Type}{x y:Nat→β}{n i:Nat}{z:β}(hi:i<n)(hz:z=y i)(h : ∀j,j<n→j≠i→x j=y j):(rows x n).set i z=rows y n:=by
 refine List.ext_getElem (by simp) fun j g1 g2=>?_
 have hj:j<n:=by simpa using g2
 rw[List.getElem_set,fI,fI]
 split
 ·rename_i e;subst e;exact hz
 ·rename_i e;exact h j hj fun q=>e q.symm
def fw (d:BlkD) (i:Nat) (p:PhiD):BlkD:={ d with phis:=d.phis.set i p }
def pS (d:BlkD) (i:Nat) (x:InsD):BlkD:={ d with ins:=d.ins.set i x }
def fR (d:BlkD) (l:List Int):BlkD:={ d with term:={ d.term with to:=l } }
section
variable {K:Nat} {o o':Own} {b i:Nat} {V:Bv} {d:BlkD}
theorem BO.G3(w:BO K o b V d)(hi:i<d.phis.length){l:List InD}(ho : ∀k,o' k=o.upd (K+5,pr b i) (it T.dy (V.pin i) l) k):BO K o' b V (fw d i ⟨(nth d.phis i).dst,l⟩):=by
 have hl:(fw d i ⟨(nth d.phis i).dst,l⟩).phis.length=d.phis.length:=List.length_set
 have hn:=fun j (hj:j<d.phis.length)=>aH (l:=d.phis) (i:=i) (j:=j) (x:=⟨(nth d.phis i).dst,l⟩) hj
 refine⟨?_,?_,?_,?_,fun j hj=>?_,fun j hj=>?_⟩
 ·rw[ho,Own.ab (by simp),w.phis,hl]
  congr 1
  refine List.map_congr_left fun j hj=>?_
  unfold phO fw;dsimp only;rw[hn j (List.mem_range.1 hj)]
  split
  ·rename_i e;subst e;rfl
  ·rfl
 ·rw[ho,Own.ab (by simp)];exact w.ins
 ·rw[ho,Own.ab (by simp)];exact w.args
 ·rw[ho,Own.ab (by simp)];exact w.to
 ·rw[hl]at hj
  rw[ho]
  unfold fw;dsimp only;rw[hn j hj]
  split
  ·rename_i e;subst e;rw[Own.ag]
  ·rename_i e
   rw[Own.ab (by simp[za];exact fun q=>e q.symm),w.pin j hj]
 ·rw[ho,Own.ab (by simp)];exact w.iar j hj
theorem BO.IH(w:BO K o b V d)(hi:i<d.ins.length){op dst two:Int}{imm:I32}{x:InO}(hx:x=⟨op,dst,two,⟨V.iar i⟩,imm⟩)(ho : ∀k,o' k=o.upd (K+2,b) (it T.dq V.i ((rows (inO V d) d.ins.length).set i x)) k):BO K o' b V (pS d i ⟨op,dst,two,(nth d.ins i).args,imm⟩):=by
 have hl:(pS d i ⟨op,dst,two,(nth d.ins i).args,imm⟩).ins.length=d.ins.length:=List.length_set
 have hn:=fun j (hj:j<d.ins.length)=>aH (l:=d.ins) (i:=i) (j:=j) (x:=⟨op,dst,two,(nth d.ins i).args,imm⟩) hj
 refine⟨?_,?_,?_,?_,fun j hj=>?_,fun j hj=>?_⟩
 ·rw[ho,Own.ab (by simp)];exact w.phis
 ·rw[ho,Own.ag,hl,kA (y:=inO V (pS d i ⟨op,dst,two,(nth d.ins i).args,imm⟩)) hi]
  ·rw[hx];unfold inO pS;dsimp only;rw[hn i hi,if_pos rfl]
  ·intro j hj hne;unfold inO pS;dsimp only;rw[hn j hj,if_neg (fun e=>hne e.symm)]
 ·rw[ho,Own.ab (by simp)];exact w.args
 ·rw[ho,Own.ab (by simp)];exact w.to
 ·rw[ho,Own.ab (by simp)];exact w.pin j hj
 ·rw[hl]at hj
  rw[ho,Own.ab (by simp),w.iar j hj]
  unfold pS;dsimp only;rw[hn j hj]
  split
  ·rename_i e;subst e;rfl
  ·rfl
theorem BO.Iw(w:BO K o b V d){l:List Int}(ho : ∀k,o' k=o.upd (K+4,b) (it T.int V.t l) k):BO K o' b V (fR d l):=
 ⟨by rw[ho,Own.ab (by simp)];exact w.phis,by rw[ho,Own.ab (by simp)];exact w.ins,by rw[ho,Own.ab (by simp)];exact w.args,by rw[ho,Own.ag];rfl,fun j hj=>by rw[ho,Own.ab (by simp)];exact w.pin j hj,fun j hj=>by rw[ho,Own.ab (by simp)];exact w.iar j hj⟩
end
section
variable {K:Nat} {o o':Own} {vb:Value} {V:Nat→Bv} {f:ah} {b i:Nat}
theorem FnO.wr(g:FnO K o vb V f)(hb:b<f.blocks.length){k:Key}{x:Option Lft.Item}(hk:OfB K b k)(ho : ∀q,o' q=o.upd k x q){d:BlkD}(ht:tmO (V b) d=tmO (V b) (nth f.blocks b))(hd:BO K o' b (V b) d):FnO K o' vb V (aU f b d):=
 g.setB hb (by rw[ho,Own.ab (by rintro rfl;have:=ij hk;simp at this;omega)]) (fun q _ _ h=>by rw[ho,Own.ab (by rintro rfl;exact h hk)]) ht hd
end
def phR (pin:Nat→Value) (l:List PhiD) (i:Nat):PhO:=⟨(nth l i).dst,⟨pin i⟩⟩
def inR (iar:Nat→Value) (l:List InsD) (i:Nat):InO:=⟨(nth l i).op,(nth l i).dst,(nth l i).two,⟨iar i⟩,(nth l i).imm⟩
structure PhsO (K:Nat) (o:Own) (b:Nat) (v:Value) (pin:Nat→Value) (l:List PhiD):Prop where
 row:o (K+1,b)=it T.dG v (rows (phR pin l) l.length)
 pin : ∀i,i<l.length→o (K+5,pr b i)=it T.dy (pin i) (nth l i).ins
structure InsO (K:Nat) (o:Own) (b:Nat) (v:Value) (iar:Nat→Value) (l:List InsD):Prop where
 row:o (K+2,b)=it T.dq v (rows (inR iar l) l.length)
 iar : ∀i,i<l.length→o (K+6,pr b i)=it T.int (iar i) (nth l i).args
theorem Bk{α:Type}[Inhabited α]{l:List α}{x:α}{i:Nat}:nth (l++[x]) i=if i<l.length then nth l i else if i=l.length then x else default:=by
 split
 ·rename_i h
  rw[ak (l:=l++[x]) (i:=i) (by simp;omega),ak h,List.getElem_append_left h]
 ·split
  ·rename_i h h2
   subst h2
   rw[ak (l:=l++[x]) (i:=l.length) (by simp),List.getElem_append_right (Nat.le_refl _)];simp
  ·exact aV (by simp;omega)
theorem oz{α:Type}[Inhabited α]{l:List α}{x:α}:nth (l++[x]) l.length=x:=by rw[Bk,if_neg (Nat.lt_irrefl _),if_pos rfl]
theorem n8{α:Type}[Inhabited α]{l:List α}{x:α}{i:Nat}(h:i<l.length):nth (l++[x]) i=nth l i:=by rw[Bk,if_pos h]
theorem pb{β:Type}{x y:Nat→β}{n:Nat}(h : ∀i,i<n→x i=y i):rows x n=rows y n:=List.map_congr_left fun i hi=>h i (List.mem_range.1 hi)
section
variable {K b:Nat} {o o':Own} {v v':Value} {pin iar:Nat→Value}
theorem PhsO.push{l:List PhiD}{p:PhiD}{u:Value}(w:PhsO K o b v pin l)(h1:o' (K+1,b)=it T.dG v' (rows (phR pin l) l.length++[⟨p.dst,⟨u⟩⟩]))(h2:o' (K+5,pr b l.length)=it T.dy u p.ins)(h3 : ∀i,i<l.length→o' (K+5,pr b i)=o (K+5,pr b i)):PhsO K o' b v' (fun i=>if i=l.length then u else pin i) (l++[p]):=by
 refine⟨?_,fun i hi=>?_⟩
 ·rw[h1,List.length_append,List.length_singleton,eZ]
  congr 1
  congr 1
  ·refine pb fun i hi=>?_
   unfold phR
   dsimp only
   rw[n8 hi,if_neg (by omega)]
  ·unfold phR
   dsimp only
   rw[oz,if_pos rfl]
 ·rw[List.length_append,List.length_singleton]at hi
  rcases Nat.lt_or_ge i l.length with h | h
  ·rw[h3 i h,if_neg (by omega),n8 h];exact w.pin i h
  ·have e:i=l.length:=by omega
   subst e
   rw[h2,if_pos rfl,oz]
theorem InsO.push{l:List InsD}{p:InsD}{u:Value}(w:InsO K o b v iar l)(h1:o' (K+2,b)=it T.dq v' (rows (inR iar l) l.length++[⟨p.op,p.dst,p.two,⟨u⟩,p.imm⟩]))(h2:o' (K+6,pr b l.length)=it T.int u p.args)(h3 : ∀i,i<l.length→o' (K+6,pr b i)=o (K+6,pr b i)):InsO K o' b v' (fun i=>if i=l.length then u else iar i) (l++[p]):=by
 refine⟨?_,fun i hi=>?_⟩
 ·rw[h1,List.length_append,List.length_singleton,eZ]
  congr 1
  congr 1
  ·refine pb fun i hi=>?_
   unfold inR
   dsimp only
   rw[n8 hi,if_neg (by omega)]
  ·unfold inR
   dsimp only
   rw[oz,if_pos rfl]
 ·rw[List.length_append,List.length_singleton]at hi
  rcases Nat.lt_or_ge i l.length with h | h
  ·rw[h3 i h,if_neg (by omega),n8 h];exact w.iar i h
  ·have e:i=l.length:=by omega
   subst e
   rw[h2,if_pos rfl,oz]
theorem PhsO.congr{l:List PhiD}(w:PhsO K o b v pin l)(h : ∀k,OfB K b k→o' k=o k):PhsO K o' b v pin l:=
 ⟨(h _ (.inl ⟨rfl,by simp,by simp⟩)).trans w.row,fun i hi=>(h _ (.inr ⟨i,rfl,.inl rfl⟩)).trans (w.pin i hi)⟩
theorem InsO.congr{l:List InsD}(w:InsO K o b v iar l)(h : ∀k,OfB K b k→o' k=o k):InsO K o' b v iar l:=
 ⟨(h _ (.inl ⟨rfl,by simp,by simp⟩)).trans w.row,fun i hi=>(h _ (.inr ⟨i,rfl,.inr rfl⟩)).trans (w.iar i hi)⟩
theorem BO.of{p:List PhiD}{i:List InsD}{t:dp}{va vt vp vi:Value}(wp:PhsO K o b vp pin p)(wi:InsO K o b vi iar i)(ha:o (K+3,b)=it T.int va t.args)(ht:o (K+4,b)=it T.int vt t.to):BO K o b ⟨vp,vi,va,vt,pin,iar⟩ ⟨p,i,t⟩:=
 ⟨wp.row,wi.row,ha,ht,wp.pin,wi.iar⟩
end
variable{K:Nat}
theorem FnO.push{o o':Own}{vb vb':Value}{V:Nat→Bv}{Vn:Bv}{ps:Int}{l:List BlkD}{d:BlkD}{x:BkO}(g:FnO K o vb V ⟨ps,l⟩)(hx:x=bkO Vn d)(h1:o' (K,0)=it T.aY vb' (rows (fun b=>bkO (V b) (nth l b)) l.length++[x]))(h2 : ∀b,b<l.length→∀k,OfB K b k→o' k=o k)(h3:BO K o' l.length Vn d):FnO K o' vb' (fun b=>if b=l.length then Vn else V b) ⟨ps,l++[d]⟩:=by
 refine⟨?_,fun b hb=>?_⟩
 ·dsimp only
  rw[h1,List.length_append,List.length_singleton,eZ]
  congr 1
  congr 1
  ·refine pb fun i hi=>?_
   rw[n8 hi,if_neg (by omega)]
  ·rw[oz,if_pos rfl,hx]
 ·have hb:b<(l++[d]).length:=hb
  rw[List.length_append,List.length_singleton]at hb
  dsimp only
  rcases Nat.lt_or_ge b l.length with h | h
  ·rw[if_neg (by omega),n8 h]
   exact(g.bo b h).congr (h2 b h)
  ·have e:b=l.length:=by omega
   subst e
   rw[if_pos rfl,oz];exact h3
variable{W:View}
theorem Owns.By{po:OP}{P:Program}{h:Heap}{o:Own}{k:Key}{ty:TypeId}{us:List (Nat × Value)}{α:Type}[r:Rep α]{e:TypeId}{v:Value}{t:TypeId}{bytes:Nat}{z:Value}{x y:Operand}{u:Value}{l2:List α}{K:Value→Heap→Prop}(w:Owns W h o)(hk:o k=it e v ([]:List α))(hT:en P t e (Rep.n α) bytes z)(hx:asg us x=v)(hy:asg us y=u)(hs:SlRd W u l2)(hb:l2.length*bytes≤140737488355328)(hK : ∀v' h',Owns W h' (o.upd k (it e v' l2))→v'.oneCell'=true→(∀X:View,X.le (vw h)→Av X v→X.le (vw h'))→K v' h'):@Lft.step po P (.call ⟨.builtin .append,#[x,y],#[t,t]⟩) ty us h K:=
 w.dW (k:=k) (l:=([]:List α)) (l2:=l2) hk hT hx hy (hs.src w.wle) (by simpa using hb) (by have:=hs.bound;simpa using this) fun v' h' w' m=>by
  exact hK v' h' w' ((w'.cells (k:=k) Own.ag).2) fun X hX hA=>(m.view hX hA).1
theorem ofB1:OfB K b (K+1,b):=.inl ⟨rfl,by simp,by simp⟩
theorem ofB2:OfB K b (K+2,b):=.inl ⟨rfl,by simp,by simp⟩
theorem ofB3:OfB K b (K+3,b):=.inl ⟨rfl,by simp,by simp⟩
theorem ofB4:OfB K b (K+4,b):=.inl ⟨rfl,by simp,by simp⟩
theorem ofB5{i:Nat}:OfB K b (K+5,pr b i):=.inr ⟨i,rfl,.inl rfl⟩
theorem ofB6{i:Nat}:OfB K b (K+6,pr b i):=.inr ⟨i,rfl,.inr rfl⟩
theorem HR{H:View}{d:Int}{v:Value}(h1:I64 d)(h2:v.oneCell'=true):Rd H (.agg #[.int .i64 d,v]) (PhO.mk d ⟨v⟩):=⟨_,rfl,[.int .i64 d],[v],rfl,⟨rfl,h1⟩,rfl,h2⟩
theorem HI{H:View}{op d two:Int}{imm:I32}{v:Value}(h:I64 op∧I64 d∧I64 two∧-2147483648≤imm.v∧imm.v≤2147483647)(h2:v.oneCell'=true):Rd H (.agg #[.int .i64 op,.int .i64 d,.int .i64 two,v,.int .i32 imm.v]) (InO.mk op d two ⟨v⟩ imm):=
 ⟨_,rfl,[.int .i64 op],_,rfl,⟨rfl,h.1⟩,[.int .i64 d],_,rfl,⟨rfl,h.2.1⟩,[.int .i64 two],_,rfl,⟨rfl,h.2.2.1⟩,[v],_,rfl,⟨rfl,h2⟩,rfl,h.2.2.2⟩
theorem Es{H:View}{vp vi va vt:Value}{kd:Int}{imm:I32}(h1:vp.oneCell'=true)(h2:vi.oneCell'=true)(h3:va.oneCell'=true)(h4:vt.oneCell'=true)(h5:I64 kd)(h6:-2147483648≤imm.v∧imm.v≤2147483647):Rd H (.agg #[vp,vi,.int .i64 kd,va,vt,.int .i32 imm.v]) (BkO.mk ⟨vp⟩ ⟨vi⟩ ⟨kd,⟨va⟩,⟨vt⟩,imm⟩):=
 ⟨_,rfl,[vp],_,rfl,⟨rfl,h1⟩,[vi],_,rfl,⟨rfl,h2⟩,[.int .i64 kd],_,rfl,⟨rfl,h5⟩,[va],_,rfl,⟨rfl,h3⟩,[vt],_,rfl,⟨rfl,h4⟩,rfl,h6⟩
structure Wt (W:View) (h:Heap) (K:Nat) (ob:Own) (vb:Value) (V:Nat→Bv) (f:ah):Prop where
 ex : ∃o,Owns W h o∧FnO K o vb V f∧∀k:Key,(k.1<K∨K+6<k.1)→o k=ob k
section
variable {W:View} {h:Heap} {K:Nat} {ob:Own} {vb:Value} {V:Nat→Bv} {f:ah}
theorem Wt.wle (w:Wt W h K ob vb V f):W.le (vw h):=let ⟨_,w,_⟩:=w.ex;w.wle
theorem Wt.blks(w:Wt W h K ob vb V f):SlRd (vw h) vb f.blocks:=let ⟨_,w,g,_⟩:=w.ex;g.rd w
theorem Wt.raw (w:Wt W h K ob vb V f) {k:Key} (hk:k.1<K∨K+6<k.1) {n:Nat} {e:TypeId} {B:Nat} {l:List Value} (hb:ob k=bx e B (RawN.mk (n:=n) l)) {i:Nat} (hi:i≤n):an (vw h) ⟨B,i,none⟩=some (l.getD i undef):=
 let ⟨o,w,g,r⟩:=w.ex
 w.raw (k:=k) ((r k hk).trans hb) hi
theorem Wt.gH (w:Wt W h K ob vb V f) {k:Key} (hk:k.1<K∨K+6<k.1) {n:Nat} {e:TypeId} {B:Nat} {l:List Value} (hb:ob k=bx e B (RawN.mk (n:=n) l)):Un.ev (vw h) (.ar (n+1)) (.pointer (some ⟨B,0,none⟩))=some (.agg l.toArray):=
 let ⟨o,w,g,r⟩:=w.ex
 w.gH (k:=k) ((r k hk).trans hb)
theorem FnO.cur{o:Own}{d:BlkD}(g:FnO K o vb V (aU f b d))(hb:b<f.blocks.length):BO K o b (V b) d:=by
 have:=g.bo b (by rw[jv];exact hb)
 rw[pX hb,if_pos rfl]at this
 exact this
theorem Wt.blk (w:Wt W h K ob vb V f) {b:Nat} (hb:b<f.blocks.length):Un.ev (vw h) (.ar 6) (.pointer (some ((slA vb).add (b*6))))=some (.agg #[(V b).p,(V b).i,.int .i64 (nth f.blocks b).term.kind,(V b).a,(V b).t,.int .i32 (nth f.blocks b).term.imm.v])∧(V b).p.oneCell'=true∧(V b).i.oneCell'=true∧(V b).a.oneCell'=true∧(V b).t.oneCell'=true:=by
 obtain⟨o,w,g,r⟩:=w.ex
 have hl:b<(rows (fun b=>bkO (V b) (nth f.blocks b)) f.blocks.length).length:=by simpa using hb
 obtain⟨u,hu,hr⟩:=Owns.ldW w g.blk rfl (N:=6) rfl hl
 rw[fI hl]at hr
 obtain⟨cs,rfl,c1,r1,e1,⟨q1,o1⟩,c2,r2,e2,⟨q2,o2⟩,c3,r3,e3,⟨q3,_⟩,c4,r4,e4,⟨q4,o4⟩,c5,r5,e5,⟨q5,o5⟩,q6,_⟩:=hr
 have q1:c1=[(V b).p]:=q1
 have q2:c2=[(V b).i]:=q2
 have q3:c3=[.int .i64 (nth f.blocks b).term.kind]:=q3
 have q4:c4=[(V b).a]:=q4
 have q5:c5=[(V b).t]:=q5
 have q6:r5=[.int .i32 (nth f.blocks b).term.imm.v]:=q6
 have he:cs.toList = #[(V b).p,(V b).i,Value.int .i64 (nth f.blocks b).term.kind,(V b).a,(V b).t,.int .i32 (nth f.blocks b).term.imm.v].toList:=by rw[e1,e2,e3,e4,e5,q1,q2,q3,q4,q5,q6];rfl
 exact⟨by rw[hu,Array.toList_inj.1 he],o1,o2,o4,o5⟩
section
variable {b i:Nat} {d:BlkD}
theorem Wt.phN(w:Wt W h K ob vb V (aU f b d))(hb:b<f.blocks.length):SlRd (vw h) (V b).p (rows (phO (V b) d) d.phis.length):=let ⟨_,w,g,_⟩:=w.ex;w.now (g.cur hb).phis
theorem Wt.inN(w:Wt W h K ob vb V (aU f b d))(hb:b<f.blocks.length):SlRd (vw h) (V b).i (rows (inO (V b) d) d.ins.length):=let ⟨_,w,g,_⟩:=w.ex;w.now (g.cur hb).ins
theorem Wt.args (w:Wt W h K ob vb V (aU f b d)) (hb:b<f.blocks.length):SlRd (vw h) (V b).a d.term.args:=let ⟨_,w,g,_⟩:=w.ex;w.now (g.cur hb).args
theorem Wt.to (w:Wt W h K ob vb V (aU f b d)) (hb:b<f.blocks.length):SlRd (vw h) (V b).t d.term.to:=let ⟨_,w,g,_⟩:=w.ex;w.now (g.cur hb).to
theorem Wt.pin (w:Wt W h K ob vb V (aU f b d)) (hb:b<f.blocks.length) (hi:i<d.phis.length):SlRd (vw h) ((V b).pin i) (nth d.phis i).ins:=let ⟨_,w,g,_⟩:=w.ex;w.now ((g.cur hb).pin i hi)
theorem Wt.iar (w:Wt W h K ob vb V (aU f b d)) (hb:b<f.blocks.length) (hi:i<d.ins.length):SlRd (vw h) ((V b).iar i) (nth d.ins i).args:=let ⟨_,w,g,_⟩:=w.ex;w.now ((g.cur hb).iar i hi)
theorem Wt.ins (w:Wt W h K ob vb V (aU f b d)) (hb:b<f.blocks.length) (hi:i<d.ins.length):an (vw h) (((slA (V b).i).add (i*5)).add 1)=some (.int .i64 (nth d.ins i).dst)∧an (vw h) (((slA (V b).i).add (i*5)).add 2)=some (.int .i64 (nth d.ins i).two)∧an (vw h) (((slA (V b).i).add (i*5)).add 3)=some ((V b).iar i)∧I64 (nth d.ins i).dst∧I64 (nth d.ins i).two:=by
 have hl:i<(rows (inO (V b) d) d.ins.length).length:=by simpa using hi
 have a:=(w.inN hb).at hl
 rw[fI hl]at a
 exact⟨(a.part InO.je).int,(a.part InO.rV).int,(a.part InO.nB).raw,(a.part InO.je).rng,(a.part InO.rV).rng⟩
theorem Wt.wr {h':Heap} {o:Own} (g:FnO K o vb V (aU f b d)) (r : ∀k:Key,(k.1<K∨K+6<k.1)→o k=ob k) (hb:b<f.blocks.length) {k:Key} {x:Option Lft.Item} {d':BlkD} (w:Owns W h' (o.upd k x)) (hk:OfB K b k) (ht:tmO (V b) d'=tmO (V b) d) (hd:BO K (o.upd k x) b (V b) d'):Wt W h' K ob vb V (aU f b d'):=by
 refine⟨_,w,?_,fun q hq=>?_⟩
 ·have:=g.wr (by rw[jv];exact hb) hk (fun _=>rfl) (by rw[pX hb,if_pos rfl];exact ht) hd
  rw[xL]at this
  exact this
 ·have:=ij hk
  rw[Own.ab (by rintro rfl;omega)];exact r q hq
variable {po:OP} {P:Program} {ty t:TypeId} {us:List (Nat × Value)} {x y:Operand} {Kc:Value→Heap→Prop} {v:Int}
theorem Wt.pf(w:Wt W h K ob vb V (aU f b d))(hb:b<f.blocks.length)(hi:i<d.phis.length){k:Nat}(hk:k<(nth d.phis i).ins.length)(hsz:cV P t=some 1)(hx:asg us x = .pointer (some (((slA ((V b).pin i)).add (k*2)).add 0)))(hy:asg us y = .int .i64 v)(hv:I64 v)(hK : ∀h',Wt W h' K ob vb V (aU f b (fw d i ⟨(nth d.phis i).dst,(nth d.phis i).ins.set k ⟨v,(nth (nth d.phis i).ins k).val⟩⟩))→Kc undef h'):@Lft.step po P (.store t x y) ty us h Kc:=by
 obtain⟨o,w,g,r⟩:=w.ex
 refine w.kV (k:=(K+5,pr b i)) (α:=InD) InD.oU (v:=(V b).pin i) (l:=(nth d.phis i).ins) (i:=k) (d:=v) ((g.cur hb).pin i hi) hsz hx hy hk (dR.2 ⟨rfl,hv⟩) fun h' w' _=>hK h' ?_
 refine Wt.wr g r hb w' ofB5 rfl ((g.cur hb).G3 hi fun _=>?_)
 rw[ak hk]
theorem Wt.id(w:Wt W h K ob vb V (aU f b d))(hb:b<f.blocks.length)(hi:i<d.ins.length)(hsz:cV P t=some 1)(hx:asg us x = .pointer (some (((slA (V b).i).add (i*5)).add 1)))(hy:asg us y = .int .i64 v)(hv:I64 v)(hK : ∀h',Wt W h' K ob vb V (aU f b (pS d i { nth d.ins i with dst:=v }))→Kc undef h'):@Lft.step po P (.store t x y) ty us h Kc:=by
 obtain⟨o,w,g,r⟩:=w.ex
 have hl:i<(rows (inO (V b) d) d.ins.length).length:=by simpa using hi
 refine w.kV (k:=(K+2,b)) (α:=InO) InO.je (v:=(V b).i) (l:=rows (inO (V b) d) d.ins.length) (i:=i) (d:=v) (g.cur hb).ins hsz hx hy hl (dR.2 ⟨rfl,hv⟩) fun h' w' _=>hK h' ?_
 exact Wt.wr g r hb w' ofB2 rfl ((g.cur hb).IH hi (op:=(nth d.ins i).op) (dst:=v) (two:=(nth d.ins i).two) (imm:=(nth d.ins i).imm) (by rw[fI hl];rfl) fun _=>rfl)
theorem Wt.tt(w:Wt W h K ob vb V (aU f b d))(hb:b<f.blocks.length){k:Nat}(hk:k<d.term.to.length)(hsz:cV P t=some 1)(hx:asg us x = .pointer (some ((slA (V b).t).add k)))(hy:asg us y = .int .i64 v)(hv:I64 v)(hK : ∀h',Wt W h' K ob vb V (aU f b (fR d (d.term.to.set k v)))→Kc undef h'):@Lft.step po P (.store t x y) ty us h Kc:=by
 obtain⟨o,w,g,r⟩:=w.ex
 refine w.pt (k:=(K+4,b)) (α:=Int) (v:=(V b).t) (l:=d.term.to) (i:=k) (d:=v) (g.cur hb).to hsz (by rw[hx];rw[show k*Rep.n Int=k from Nat.mul_one k]) hy hk (dR.2 ⟨rfl,hv⟩) fun h' w' _=>hK h' ?_
 exact Wt.wr g r hb w' ofB4 rfl ((g.cur hb).Iw fun _=>rfl)
end
end
section
variable {W:View} {h:Heap} {K:Nat} {ob:Own} {vb:Value} {V:Nat→Bv} {f:ah} {b i:Nat} {d:BlkD}
theorem Wt.ixP(w:Wt W h K ob vb V (aU f b d))(hb:b<f.blocks.length)(hi:i<d.phis.length):Bn.ev (.idx 2) (V b).p (.int .i64 i)=some (.pointer (some ((slA (V b).p).add (i*2)))):=
 (w.phN hb).idxn (N:=2) rfl (Int.natCast_nonneg _) (by simp;omega)
theorem Wt.ixT(w:Wt W h K ob vb V (aU f b d))(hb:b<f.blocks.length){k:Nat}(hk:k<d.term.to.length):Bn.ev (.idx 1) (V b).t (.int .i64 k)=some (.pointer (some ((slA (V b).t).add k)))∧an (vw h) ((slA (V b).t).add k)=some (.int .i64 (nth d.term.to k))∧I64 (nth d.term.to k):=
 ⟨(w.to hb).idx1 rfl (Int.natCast_nonneg _) (by omega),(w.to hb).int (View.le_refl _) hk,by have:=((w.to hb).at hk).rng;rw[ak hk];exact this⟩
theorem Wt.ixN(w:Wt W h K ob vb V (aU f b d))(hb:b<f.blocks.length)(hi:i<d.phis.length){k:Nat}(hk:k<(nth d.phis i).ins.length):Bn.ev (.idx 2) ((V b).pin i) (.int .i64 k)=some (.pointer (some ((slA ((V b).pin i)).add (k*2))))∧an (vw h) (((slA ((V b).pin i)).add (k*2)).add 0)=some (.int .i64 (nth (nth d.phis i).ins k).frm)∧an (vw h) (((slA ((V b).pin i)).add (k*2)).add 1)=some (.int .i64 (nth (nth d.phis i).ins k).val)∧I64 (nth (nth d.phis i).ins k).frm∧I64 (nth (nth d.phis i).ins k).val:=by
 have a:=(w.pin hb hi).at hk
 rw[←ak hk]at a
 exact⟨(w.pin hb hi).idxn (N:=2) rfl (Int.natCast_nonneg _) (by omega),(a.part InD.oU).int,(a.part InD.sS).int,(a.part InD.oU).rng,(a.part InD.sS).rng⟩
end
section
variable {W:View} {h:Heap} {K:Nat} {ob:Own} {vb:Value} {V:Nat→Bv} {f:ah} {b i:Nat} {d:BlkD}
theorem Wt.drop{k:Key}{x:Option Lft.Item}(w:Wt W h K (ob.upd k x) vb V f)(hk:ob k=none)(hf:k.1<K∨K+6<k.1):Wt W h K ob vb V f:=by
 obtain⟨o,w,g,r⟩:=w.ex
 refine⟨fun q=>if q=k then none else o q,w.sub fun q i hq=>?_,g.congr fun q h1 h2=>if_neg (by rintro rfl;omega),fun q hq=>?_⟩
 ·split at hq
  ·cases hq
  ·exact hq
 ·by_cases e:q=k
  ·exact(if_pos e).trans (by rw[e];exact hk.symm)
  ·exact(if_neg e).trans (by rw[r q hq,Own.ab e])
end
def fC {α:Type} [Inhabited α] (g:α→α) (l:List α) (k:Nat):List α:=rows (fun i=>if i<k then g (nth l i) else nth l i) l.length
section
variable {α:Type} [Inhabited α] {g:α→α} {l:List α} {k:Nat}
theorem km:(fC g l k).length=l.length:=by simp[fC]
theorem pg:fC g l 0=l:=by
 unfold fC
 refine List.ext_getElem (by simp) fun i h1 h2=>?_
 rw[fI,if_neg (Nat.not_lt_zero _),ak h2]
theorem qG:fC g l l.length=l.map g:=by
 unfold fC
 refine List.ext_getElem (by simp) fun i h1 h2=>?_
 have hi:i<l.length:=by simpa using h2
 rw[fI,if_pos hi,ak hi,List.getElem_map]
theorem BM{i:Nat}(hi:i<l.length):nth (fC g l k) i=if i<k then g (nth l i) else nth l i:=by unfold fC;exact dm hi
theorem ov(hk:k<l.length):nth (fC g l k) k=nth l k:=by rw[BM hk,if_neg (Nat.lt_irrefl _)]
theorem pO(hk:k<l.length):(fC g l k).set k (g (nth l k))=fC g l (k+1):=by
 unfold fC
 refine kA hk (by rw[if_pos (Nat.lt_succ_self k)]) fun j hj hne=>?_
 by_cases h:j<k
 ·rw[if_pos h,if_pos (by omega)]
 ·rw[if_neg h,if_neg (by omega)]
end
theorem vG{α:Type}[Rep α]{n:Nat}(k:Key){v:Value}{l:List α}{h:Heap}{o:Own}(w:Owns W h o)(hk:o k=none)(hv:SlRd W v l):
  ∃a m c,v = .slice a m c∧(a=none→l=[]):=by
 obtain⟨a,cap,rfl,h1,h2,h3⟩:=hv
 exact⟨_,_,_,rfl,fun e=>by
  subst e
  rcases h3 with h3 | ⟨ad,h3,_⟩
  ·first | exact h3 | exact List.eq_nil_of_length_eq_zero (by simpa using h3)
  ·cases h3⟩
theorem Owns.past{h:Heap}{cur o':Own}(w:Owns W h cur){P:Key→Prop}(he : ∀k,¬P k→cur k=o' k)(hn : ∀k,P k→o' k=none):Owns W h o':=w.sub fun k i hk=>by
 by_cases p:P k
 ·rw[hn k p]at hk;cases hk
 ·rw[he k p];exact hk
theorem Aw(k:Key){v:Value}{l:List InD}{h:Heap}{o:Own}(w:Owns W h o)(hk:o k=none)(hv:SlRd W v l)(hb:l.length≤1000000):
  aB Tryz.prog N.du #[v] h (fun u h'=>Owns W h' (o.upd k (it T.dy u l))∧u.oneCell'=true∧(vw h).le (vw h')):=by
 refine ao (args:=[v]) follows F.du E.du (Nat.le_of_ble_eq_true (by kernel_rfl)) fun K hK=>?_
 dsimp only[L.du]
 obtain⟨a,m,c,rfl,hn⟩:=vG (n:=0) k w hk hv
 refine aa fun z hz=>?_
 simp
 rw[hz];clear hz z
 refine aa fun z hz=>?_
 refine aa fun y hy=>?_
 simp
 refine yK U.iK rfl rfl ?_
 rw[hy];clear hy y
 by_cases ha:a=none
 ·have hl:=hn ha
  subst ha
  subst hl
  simp
  refine hK _ _ ⟨Owns.nils w fun q i hq=>?_,rfl,View.le_refl _⟩
  by_cases e:q=k
  ·subst e;rw[Own.ag]at hq;cases hq;exact .inr ⟨rfl,OwnT.nil (α:=InD) _ h T.dy⟩
  ·rw[Own.ab e]at hq;exact .inl hq
 ·have hi:a.isNone=false:=by cases a<;>simp at ha ⊢
  simp[hi]
  rw[hz];clear hz z
  refine aa fun z hz=>?_
  simp
  refine w.jn (k:=k) (α:=InD) hk El.iK fun v1 h1 hle1 hv1 w1 av1=>?_
  refine Owns.By w1 (k:=k) (α:=InD) (v:=v1) (u:=.slice a m c) (l2:=l) Own.ag El.iK (by simp) (by simp) hv (by omega) fun v2 h2 w2 hv2 m2=>?_
  rw[hz];clear hz z
  simp
  refine hK _ _ ⟨w2.congr fun q=>?_,hv2,m2 _ hle1 (av1 _ (View.le_refl _))⟩
  unfold Own.upd;split<;>rfl
theorem mZ(k:Key){v:Value}{l:List Int}{h:Heap}{o:Own}(w:Owns W h o)(hk:o k=none)(hv:SlRd W v l)(hb:l.length≤1000000):
  aB Tryz.prog N.dd #[v] h (fun u h'=>Owns W h' (o.upd k (it T.int u l))∧u.oneCell'=true∧(vw h).le (vw h')):=by
 refine ao (args:=[v]) follows F.dd E.dd (Nat.le_of_ble_eq_true (by kernel_rfl)) fun K hK=>?_
 dsimp only[L.dd]
 obtain⟨a,m,c,rfl,hn⟩:=vG (n:=0) k w hk hv
 refine aa fun z hz=>?_
 simp
 rw[hz];clear hz z
 refine aa fun z hz=>?_
 refine aa fun y hy=>?_
 simp
 refine yK U.bc rfl rfl ?_
 rw[hy];clear hy y
 by_cases ha:a=none
 ·have hl:=hn ha
  subst ha
  subst hl
  simp
  refine hK _ _ ⟨Owns.nils w fun q i hq=>?_,rfl,View.le_refl _⟩
  by_cases e:q=k
  ·subst e;rw[Own.ag]at hq;cases hq;exact .inr ⟨rfl,OwnT.nil (α:=Int) _ h T.int⟩
  ·rw[Own.ab e]at hq;exact .inl hq
 ·have hi:a.isNone=false:=by cases a<;>simp at ha ⊢
  simp[hi]
  rw[hz];clear hz z
  refine aa fun z hz=>?_
  simp
  refine w.jn (k:=k) (α:=Int) hk El.bc fun v1 h1 hle1 hv1 w1 av1=>?_
  refine Owns.By w1 (k:=k) (α:=Int) (v:=v1) (u:=.slice a m c) (l2:=l) Own.ag El.bc (by simp) (by simp) hv (by omega) fun v2 h2 w2 hv2 m2=>?_
  rw[hz];clear hz z
  simp
  refine hK _ _ ⟨w2.congr fun q=>?_,hv2,m2 _ hle1 (av1 _ (View.le_refl _))⟩
  unfold Own.upd;split<;>rfl
theorem Cz(K:Nat)(k:Key){p:PhiD}{u:Value}{h:Heap}{o:Own}(w:Owns W h o)(hk:o k=none)(hkK:k.1≠K+8)(ht : ∀i,10≤i→o (K+8,i)=none)(hr:Rd W u p)(hb:p.ins.length≤1000000):
  aB Tryz.prog N.cZ #[u] h (fun r h'=>∃v,r = .agg #[.int .i64 p.dst,v]∧v.oneCell'=true∧I64 p.dst∧Owns W h' (o.upd k (it T.dy v p.ins))):=by
 refine ao (args:=[u]) follows F.cZ E.cZ (Nat.le_of_ble_eq_true (by kernel_rfl)) fun Kc hK=>?_
 dsimp only[L.cZ]
 obtain⟨vi,rfl,hd,si⟩:=GF hr
 have k1:k≠(K+8,10):=by rintro rfl;exact hkK rfl
 have k2:k≠(K+8,11):=by rintro rfl;exact hkK rfl
 refine aa fun z hz=>?_
 simp
 refine w.sN (k:=(K+8,10)) (n:=1) (l:=[.int .i64 p.dst,vi]) (ht 10 (by decide)) rfl rfl (by decide) (gB si.cells.2) fun B h1 hle1 w1=>?_
 refine w1.oq (k:=(K+8,11)) (n:=1) (z:=.agg #[.int .i64 0,.slice none 0 0]) ((Own.ab (by simp)).trans (ht 11 (by decide))) (by kernel_rfl) rfl (by decide) (by simp[Value.cells,Value.oneCell']) fun h2 q2 w2=>?_
 generalize h1.size=R at w2
 have c1:an (vw h2) ⟨B,1,none⟩=some vi:=w2.raw (k:=(K+8,10)) (e:=T.dG) (n:=1) (by rw[Own.ab (by simp),Own.ag]) (i:=1) (by decide)
 rw[hz];clear hz z
 refine aa fun z hz=>?_
 simp[c1]
 refine af (by kernel_rfl) (Aw k w2 (by rw[Own.ab k2,Own.ab k1];exact hk) si hb) ?_
 rintro v h3 ⟨w3,hv,_⟩
 refine w3.cI (k:=(K+8,10)) (n:=1) (i:=1) (e:=T.dG) (B:=B) (l:=[.int .i64 p.dst,vi]) (by rw[Own.ab k1.symm,Own.ab (by simp),Own.ag]) (by decide) (by kernel_rfl) rfl rfl hv fun h4 w4 _=>?_
 rw[hz];clear hz z
 refine aa fun z hz=>?_
 have c2:Un.ev (vw h4) (.ar 2) (.pointer (some ⟨B,0,none⟩))=some (.agg #[.int .i64 p.dst,v]):=w4.gH (k:=(K+8,10)) (n:=1) Own.ag
 simp[c2]
 refine w4.jX (k:=(K+8,11)) (e:=T.dG) (B:=R) (D:=RawN.mk (n:=1) [.int .i64 0,.slice none 0 0]) Part.all (d:=RawN.mk (n:=1) [.int .i64 p.dst,v]) (by rw[Own.ab (by simp),Own.ab k2.symm,Own.ag];rfl) (by kernel_rfl) rfl rfl (iM rfl (gB hv)) fun h5 w5 _=>?_
 have c3:Un.ev (vw h5) (.ar 2) (.pointer (some ⟨R,0,none⟩))=some (.agg #[.int .i64 p.dst,v]):=w5.gH (k:=(K+8,11)) (n:=1) Own.ag
 rw[hz];clear hz z
 simp[c3]
 refine hK _ _ ⟨v,rfl,hv,hd,Owns.past w5 (P:=fun q=>q=(K+8,10)∨q=(K+8,11)) (fun q hq=>?_) fun q hq=>?_⟩
 ·have e1:q≠(K+8,10):=fun e=>hq (.inl e)
  have e2:q≠(K+8,11):=fun e=>hq (.inr e)
  rw[Own.ab e2,Own.ab e1]
  unfold Own.upd
  split
  ·rfl
  ·rfl
 ·rcases hq with rfl | rfl
  ·rw[Own.ab k1.symm];exact ht 10 (by decide)
  ·rw[Own.ab k2.symm];exact ht 11 (by decide)
theorem BZ(K:Nat)(k:Key){p:InsD}{u:Value}{h:Heap}{o:Own}(w:Owns W h o)(hk:o k=none)(hkK:k.1≠K+8)(ht : ∀i,10≤i→o (K+8,i)=none)(hr:Rd W u p)(hb:p.args.length≤1000000):
  aB Tryz.prog N.cY #[u] h (fun r h'=>∃v,r = .agg #[.int .i64 p.op,.int .i64 p.dst,.int .i64 p.two,v,.int .i32 p.imm.v]∧v.oneCell'=true∧(I64 p.op∧I64 p.dst∧I64 p.two∧-2147483648≤p.imm.v∧p.imm.v≤2147483647)∧Owns W h' (o.upd k (it T.int v p.args))):=by
 refine ao (args:=[u]) follows F.cY E.cY (Nat.le_of_ble_eq_true (by kernel_rfl)) fun Kc hK=>?_
 dsimp only[L.cY]
 obtain⟨vi,rfl,hd,si⟩:=Bo hr
 have k1:k≠(K+8,10):=by rintro rfl;exact hkK rfl
 have k2:k≠(K+8,11):=by rintro rfl;exact hkK rfl
 have five : ∀{v:Value},v.oneCell'=true→∀c∈[Value.int .i64 p.op,.int .i64 p.dst,.int .i64 p.two,v,.int .i32 p.imm.v],c.oneCell'=true:=fun hv c hc=>by
  simp only[List.mem_cons,List.not_mem_nil,or_false]at hc
  rcases hc with rfl | rfl | rfl | rfl | rfl<;>first | rfl | exact hv
 refine aa fun z hz=>?_
 simp
 refine w.sN (k:=(K+8,10)) (n:=4) (l:=[.int .i64 p.op,.int .i64 p.dst,.int .i64 p.two,vi,.int .i32 p.imm.v]) (ht 10 (by decide)) rfl rfl (by decide) (five si.cells.2) fun B h1 hle1 w1=>?_
 refine w1.oq (k:=(K+8,11)) (n:=4) (z:=.agg #[.int .i64 0,.int .i64 0,.int .i64 0,.slice none 0 0,.int .i32 0]) ((Own.ab (by simp)).trans (ht 11 (by decide))) (by kernel_rfl) rfl (by decide) (by simp[Value.cells,Value.oneCell']) fun h2 q2 w2=>?_
 generalize h1.size=R at w2
 have c1:an (vw h2) ⟨B,3,none⟩=some vi:=w2.raw (k:=(K+8,10)) (e:=T.dq) (n:=4) (by rw[Own.ab (by simp),Own.ag]) (i:=3) (by decide)
 rw[hz];clear hz z
 refine aa fun z hz=>?_
 simp[c1]
 refine af (by kernel_rfl) (mZ k w2 (by rw[Own.ab k2,Own.ab k1];exact hk) si hb) ?_
 rintro v h3 ⟨w3,hv,_⟩
 refine w3.cI (k:=(K+8,10)) (n:=4) (i:=3) (e:=T.dq) (B:=B) (l:=[.int .i64 p.op,.int .i64 p.dst,.int .i64 p.two,vi,.int .i32 p.imm.v]) (by rw[Own.ab k1.symm,Own.ab (by simp),Own.ag]) (by decide) (by kernel_rfl) rfl rfl hv fun h4 w4 _=>?_
 rw[hz];clear hz z
 refine aa fun z hz=>?_
 have c2:Un.ev (vw h4) (.ar 5) (.pointer (some ⟨B,0,none⟩))=some (.agg #[.int .i64 p.op,.int .i64 p.dst,.int .i64 p.two,v,.int .i32 p.imm.v]):=w4.gH (k:=(K+8,10)) (n:=4) Own.ag
 simp[c2]
 refine w4.jX (k:=(K+8,11)) (e:=T.dq) (B:=R) (D:=RawN.mk (n:=4) [.int .i64 0,.int .i64 0,.int .i64 0,.slice none 0 0,.int .i32 0]) Part.all (d:=RawN.mk (n:=4) [.int .i64 p.op,.int .i64 p.dst,.int .i64 p.two,v,.int .i32 p.imm.v]) (by rw[Own.ab (by simp),Own.ab k2.symm,Own.ag];rfl) (by kernel_rfl) rfl rfl (iM rfl (five hv)) fun h5 w5 _=>?_
 have c3:Un.ev (vw h5) (.ar 5) (.pointer (some ⟨R,0,none⟩))=some (.agg #[.int .i64 p.op,.int .i64 p.dst,.int .i64 p.two,v,.int .i32 p.imm.v]):=w5.gH (k:=(K+8,11)) (n:=4) Own.ag
 rw[hz];clear hz z
 simp[c3]
 refine hK _ _ ⟨v,rfl,hv,hd,Owns.past w5 (P:=fun q=>q=(K+8,10)∨q=(K+8,11)) (fun q hq=>?_) fun q hq=>?_⟩
 ·have e1:q≠(K+8,10):=fun e=>hq (.inl e)
  have e2:q≠(K+8,11):=fun e=>hq (.inr e)
  rw[Own.ab e2,Own.ab e1]
  unfold Own.upd
  split
  ·rfl
  ·rfl
 ·rcases hq with rfl | rfl
  ·rw[Own.ab k1.symm];exact ht 10 (by decide)
  ·rw[Own.ab k2.symm];exact ht 11 (by decide)
end Go.Proofs.YtbkdlhkoiagbbaaGreat
