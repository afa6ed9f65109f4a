/- A part of the proof: Mu, Mv, Mw, Mx, My, Mz, Na, Nb, Ta, Tb, Tc, Td, Th, Va, Vb, Vc, Nc. -/
import Derived.Test.YtbkdlhkoiagbbaaZDominates4
set_option linter.unusedSimpArgs false
set_option linter.unusedVariables false
namespace Go.Proofs.Ytbkdlhkoiagbbaa
open Go Go.Lft
theorem Nx.up {s:List Int} {M:Nat} {vs:Value} {W W0:View} {h:Heap} {o0:Own} {m:MS} (x:Nx s M vs W h o0 m) (hW:W0.le W):Nx s M vs W0 h o0 m:=by
 obtain ⟨W',o,g,w,f⟩:=x
 exact ⟨W',o,View.le_trans hW g,w,f⟩
theorem Nx.re {s:List Int} {M:Nat} {vs:Value} {W:View} {h:Heap} {o0 o0':Own} {m:MS} (x:Nx s M vs W h o0 m) (he : ∀ k,o0' k=o0 k):Nx s M vs W h o0' m:=by
 obtain ⟨W',o,g,w,f⟩:=x
 exact ⟨W',o,g,w,fun k hk=>(f k hk).trans (he k).symm⟩
theorem Nx.iz {po:OP} {s:List Int} {M:Nat} {vs:Value} {W0:View} {h:Heap} {o0:Own} {m:MS} {α:Type} [r:Rep α] {ty e t:TypeId} {us:List (Nat × Value)} {k:Key} {bytes:Nat} {z:Value} {K:Value→Heap→Prop} (x:Nx s M vs W0 h o0 m) (h3:3≤k.1) (hk:o0 k=none) (hT:dL Try.prog t e (Rep.n α) bytes z)
  (hK : ∀ v h',v.oneCell'=true→Nx s M vs W0 h' (o0.upd k (it e v ([]:List α))) m→K v h'):@Lft.step po Try.prog (.buildSlice t 0 #[]) ty us h K:=by
 obtain ⟨W,o,g,w,f⟩:=x
 refine w.own.iz (k:=k) (α:=α) ((f k h3).trans hk) hT fun v h2 hle2 hv w2 _=>hK v h2 hv ?_
 obtain ⟨vb,vl,lb,bb⟩:=w.box
 refine ⟨W,_,g,⟨w2,w.src,vb,vl,lb,bb.frame fun q hq=>Own.ab (by rintro rfl;omega)⟩,fun q hq=>?_⟩
 unfold Own.upd
 split
 ·rfl
 ·exact f q hq
theorem Nx.CL {po po2:OP} {s:List Int} {M:Nat} {vs:Value} {W0:View} {h:Heap} {o0:Own} {m:MS} {ty ty2:TypeId} {us:List (Nat × Value)} {us2:Value→List (Nat × Value)} {c1 c2:Operand} {K:Value→Value→Heap→Prop} (x:Nx s M vs W0 h o0 m) (hc1 : ∀ v,asg (us2 v) c1 = .pointer (some ⟨M,5,none⟩)) (hc2 : ∀ v,asg (us2 v) c2=v)
  (hK : ∀ v h',Nx s M vs W0 h' o0 (m.cd [])→K v undef h'):@Lft.step po Try.prog (.buildSlice T.bc 0 #[]) ty us h fun v h2=>@Lft.step po2 Try.prog (.store T.bc c1 c2) ty2 (us2 v) h2 fun w h3=>K v w h3:=by
 obtain ⟨W,o,g,w,f⟩:=x
 obtain ⟨vb,vl,lb,bb⟩:=w.box
 have w1:=w.own.sub (o':=o.upd (0,1) none) fun j i hj=>by
  unfold Own.upd at hj
  split at hj
  ·cases hj
  ·exact hj
 refine w1.iz (k:=(0,1)) (α:=Int) Own.af El.bc fun v h2 hle2 hv w2 _=>?_
 have w2:=w2.congr (o':=o.upd (0,1) (it T.int v ([]:List Int))) fun q=>by
  unfold Own.upd;split<;>rfl
 refine w2.cm (k:=(0,0)) (n:=5) (i:=5) (e:=T.aO) (B:=M) (l:=mkL vs m.at_ m.ps vb m.next vl) ((Own.ab (by simp)).trans bb.box) (by decide) (by kernel_rfl) (hc1 v) (hc2 v) hv fun h3 w3 _=>?_
 refine hK v h3 ⟨W,_,g,⟨w3,w.src,vb,v,lb,⟨rfl,rfl,(Own.ab (by simp)).trans ((Own.ab (by simp)).trans bb.blk),bb.len,bb.term,fun i hi=>?_,fun i hi=>?_⟩⟩,fun k hk=>?_⟩
 ·exact (Own.ab (by simp)).trans ((Own.ab (by simp)).trans (bb.phis i hi))
 ·exact (Own.ab (by simp)).trans ((Own.ab (by simp)).trans (bb.ins i hi))
 ·rw [Own.ab (by rintro rfl;simp at hk),Own.ab (by rintro rfl;simp at hk)]
  exact f k hk
section
variable {s:List Int} {M:Nat} {vs:Value} {W0:View} {h:Heap} {o0:Own} {m:MS}
theorem DE {n a p:Nat} {vr vt vp vd:Value} {t:Nat} {to:List (List Int)} {x0:BL × MS} (x:Nx s M vs W0 h (o0.upd (6,0) (it T.bool vd x0.1)) x0.2) (hto:SlRd W0 vt to) (htl:to.length=n) (f7:o0 (7,0)=none) (f90:o0 (9,0)=none) (f91:o0 (9,1)=none) (q:B2 n a p x0) (hn:n≤10) (hp:p≤100) (ha:16000≤a) (ha2:a≤90000) {Q:Post} {ρ:Env}
  (h0:bg [2,3,4,5,7,11,12,13] ρ=[(2,vr),(3,.pointer (some ⟨M,0,none⟩)),(4,.int .i64 n),(5,vt),(7,vp),(11,vd),(12,.int .i64 t),(13,.int .i64 0)])
  (hQ : ∀ h':Heap,Nx s M vs W0 h' (o0.upd (6,0) (it T.bool vd (up (aI s to n) n x0).1)) (up (aI s to n) n x0).2→Q .normal [(2,vr),(3,.pointer (some ⟨M,0,none⟩)),(4,.int .i64 n),(5,vt),(7,vp),(11,vd),(12,.int .i64 t),(13,.int .i64 n)] h') :
  LC.wp Try.prog (.block 8 (.loop L.aq.l5)) Q ρ h:=by
 have oks : ∀ j,j≤n→B2 n (a+600*j) p (up (aI s to n) j x0):=by
  intro j
  induction j with
  | zero=>intro _;exact q
  | succ j ih=>
   intro hj
   have:=oz (s:=s) (to:=to) (b:=j) (ih (by omega)) (by omega) hn hp (by omega) fun h=>kU h
   exact ⟨this.z.mono (by omega) (Nat.le_refl _) (Nat.le_refl _),this.len,this.none⟩
 simp only [aH]
 refine cR [2,3,4,5,7,11,12,13] (fun (_:Unit) j=>[vr,.pointer (some ⟨M,0,none⟩),.int .i64 n,vt,vp,vd,.int .i64 t,.int .i64 j]) (fun _ j h2=>Nx s M vs W0 h2 (o0.upd (6,0) (it T.bool vd (up (aI s to n) j x0).1)) (up (aI s to n) j x0).2) n ()
  rfl (by omega) h0 x (fun _ _=>rfl) (fun v k h2 hk2 x2=>by simp) ?_ ?_
 ·rintro _ b h2 hlt x2 K2 hK2
  have q2:=oks b (by omega)
  have e2:up (aI s to n) (b+1) x0=aI s to n b (up (aI s to n) b x0):=rfl
  rw [e2] at hK2
  generalize up (aI s to n) b x0=y at x2 hK2 q2
  obtain ⟨dn,m⟩:=y
  have x2:Nx s M vs W0 h2 (o0.upd (6,0) (it T.bool vd dn)) m:=x2
  have z:Sz n (a+600*b) p 700 m:=q2.z
  have hdn:dn.length=n:=q2.len
  have hbs:aI s to n b (dn,m)=_:=aI.eq_1 s to n b (dn,m)
  simp only at hbs
  have sd:=x2.z.at (by decide) Own.af
  simp only [aH]
  refine aa fun y hy=>?_
  simp (disch:=omega) [sd.idx1 rfl,sd.bool (View.le_refl _)]
  rw [hy];clear hy y
  refine aa fun y hy=>?_
  simp
  refine x2.iz (k:=(7,0)) (α:=BL) (by decide) ((Own.ab (by simp)).trans f7) El.qO fun va h3 hva x3=>?_
  clear sd
  rw [hy];clear hy y
  refine aa fun y hy=>?_
  refine aa fun w hw=>?_
  simp
  rw [hw];clear hw w
  refine Ed (vr:=vr) (vt:=vt) (vp:=vp) (vd:=vd) (t:=t) (b:=b) (r:=!nth dn b) x3 ((Own.ab (by simp)).trans f7) z (by omega) (by simp [bg,aj,al]) fun h4 W4 va hW4 x4 sa=>?_
  clear x3 hva x2
  have hal:(gZ m.f n).length=n:=by unfold gZ;simp
  have har : ∀ i,i<n→(nth (gZ m.f n) i).length=n:=fun i hi=>by
   unfold gZ;rw [dD hi,pj];exact z.len
  generalize gZ m.f n=away at sa hbs hal har
  simp
  rw [hy];clear hy y
  refine aa fun y hy=>?_
  refine aa fun w hw=>?_
  simp
  rw [hw];clear hw w
  have sd:=x4.z.at (by decide) Own.af
  refine Dh (M:=M) (n:=n) (b:=b) (vr:=vr) (vt:=vt) (vp:=vp) (vd:=vd) (va:=va) (t:=t) (r:=!nth dn b) sd (sa.mono x4.z.le) hlt hdn hal har (by omega) (by simp [bg,aj,al]) ?_
  have hrd:up (fun a r=>r&&(decide (a=b)||nth dn a||nth (nth away a) b)) n (!nth dn b)=kV dn away b n:=rfl
  rw [hrd]
  simp
  rw [hy];clear hy y
  refine aa fun y hy=>?_
  refine aa fun w hw=>?_
  simp
  rw [hw];clear hw w
  cases hr:kV dn away b n with
  | false=>
   rw [hr] at hbs
   rw [if_neg (by simp)] at hbs
   refine a6 (by simp) ?_
   simp
   refine hK2 () _ _ rfl rfl ?_
   rw [hbs]
   exact x4.up hW4
  | true=>
   rw [hr] at hbs
   rw [if_pos rfl] at hbs
   have hnb:=kU hr
   have hib:=q2.none b hlt hnb
   refine aT (by simp) ?_
   simp
   rw [hy];clear hy y
   refine aa fun y hy=>?_
   simp (disch:=omega) [sd.idx1 rfl]
   refine x4.z.rB (k:=(6,0)) (α:=Bool) (i:=b) (d:=true) rfl (by decide) Own.af (by omega) (by kernel_rfl) rfl rfl (fun W=>qL.2 rfl) fun h5 n5=>?_
   have x5:Nx s M vs W4 h5 (o0.upd (6,0) (it T.bool vd (dn.set b true))) m:=n5.x.re fun q=>by rw [gw]
   clear n5 x4 sd
   rw [hy];clear hy y
   refine aa fun y hy=>?_
   simp
   refine x5.CL (fun _=>rfl) (fun _=>rfl) fun v6 h6 x6=>?_
   rw [hy];clear hy y
   obtain ⟨c,hc⟩ : ∃ c:Nat,m.ps=c:=⟨m.ps.toNat,by have:=z.ps0;omega⟩
   have hc4:c≤4:=by have:=z.ps1;omega
   refine aa fun y hy=>?_
   refine aa fun w hw=>?_
   simp
   rw [hw];clear hw w
   refine Em (n:=n) (b:=b) (vr:=vr) (vt:=vt) (vp:=vp) (vd:=vd) (va:=va) (t:=t) (r:=true) x6 z hc (by simp [bg,aj,al]) fun h7 x7=>?_
   simp
   rw [hy];clear hy y
   refine aa fun y hy=>?_
   refine aa fun w hw=>?_
   simp
   rw [hw];clear hw w
   refine D0 (n:=n) (b:=b) (vr:=vr) (vt:=vt) (vp:=vp) (vd:=vd) (va:=va) (t:=t) (dn:=dn.set b true) (away:=away) x7 z Own.af sa hlt (by rw [List.length_set];exact hdn) hal har hn (by simp;omega) (by omega) (by omega) (by simp [bg,aj,al]) fun h8 x8=>?_
   have hlv:up (fA m (dn.set b true) away b) n (rows (fun i=>(i:Int)) c)=js m (dn.set b true) away b n:=by
    unfold js;rw [hc];rfl
   rw [hlv] at x8
   have hll:=sY (dn:=dn.set b true) (away:=away) (b:=b) z hn hp
   have hdo:gq s to n (dn.set b true) away b m=kt s (nth to b) b (up (fun _=>aB s b) (az s m.at_ 7).toNat (MS.took (m.cd (js m (dn.set b true) away b n)))):=rfl
   rw [hdo] at hbs
   obtain ⟨m1,hm1⟩ : ∃ m1,m1=m.cd (js m (dn.set b true) away b n):=⟨_,rfl⟩
   have z1:Sz n (a+600*b) p 700 m1:=by rw [hm1];exact ⟨z.at_,z.n0,z.next,by show (js _ _ _ _ _).length≤_;omega,z.ps0,z.ps1,z.len,z.phis,z.ins⟩
   have ea:m.at_=m1.at_:=by rw [hm1];rfl
   rw [←hm1] at x8 hbs
   rw [ea] at hbs
   clear hlv hdo hm1 ea x7 x6 x5
   simp
   rw [hy];clear hy y
   refine aa fun y hy=>?_
   simp
   refine ae (by kernel_rfl) (dO x8.z (z1.ok (by omega)) (by omega) (k:=7) (by decide) (by decide)) ?_
   rintro _ h9 ⟨rfl,n9⟩
   obtain ⟨t0,t1⟩:=a8 (s:=s) (at_:=m1.at_) (n:=7) (by decide)
   generalize az s m1.at_ 7=kk at hbs t0 t1
   obtain ⟨k,rfl⟩ : ∃ k:Nat,kk=k:=⟨kk.toNat,by omega⟩
   rw [show ((k:Int)).toNat=k by omega] at hbs
   rw [hy];clear hy y
   refine aa fun y hy=>?_
   refine aa fun w hw=>?_
   simp
   rw [hw];clear hw w
   have zok:=(z1.took).ok (show 700≤_ by omega)
   refine BP (n:=n) (b:=b) (k:=k) (c:=a+600*b+1) (vr:=vr) (vt:=vt) (vp:=vp) (vd:=vd) (va:=va) (t:=t) n9.x ((Own.ab (by simp)).trans f90) zok (by omega) (by omega) (by show b<m1.blocks.length;rw [z1.len];exact hlt) (by simp [bg,aj,al]) fun h10 x10=>?_
   have oks2 : ∀ j,(up (fun _=>aB s b) j m1.took).ok (a+600*b+1+80*j)∧(up (fun _=>aB s b) j m1.took).blocks.length=n:=by
    intro j
    induction j with
    | zero=>exact ⟨zok,z1.len⟩
    | succ j ih=>exact ⟨(ih.1.fh (s:=s) (b:=b)).mono (by omega),(lK (s:=s) (b:=b)).trans ih.2⟩
   obtain ⟨k1,k2⟩:=oks2 k
   generalize up (fun _=>aB s b) k m1.took=m2 at x10 hbs k1 k2
   obtain ⟨rv,hrv⟩:=hto.rows
   obtain ⟨hr1,hr2⟩:=hrv b (by omega)
   have ito:=(hto.mono hW4).mono x10.z.le
   simp
   rw [hy];clear hy y
   simp (disch:=omega) [ito.idx1 rfl,hr1 _ (View.le_trans hW4 x10.z.le)]
   refine ae (by kernel_rfl) (E2 x10 (b:=b) (by omega) k1 (by omega) ((Own.ab (by simp)).trans f91) (hr2.mono hW4)) ?_
   rintro _ h11 x11
   refine hK2 () _ _ rfl rfl ?_
   rw [hbs]
   exact x11.up hW4
 ·rintro _ h2 x2
  exact hQ h2 x2
end
end Go.Proofs.Ytbkdlhkoiagbbaa
namespace Go.Proofs.Ytbkdlhkoiagbbaa
open Go Go.Lft
structure GdB (x:BlkD):Prop where
 ins : ∀ i∈x.ins,i.args.length≤10
 args:x.term.args.length≤10
 to:x.term.to.length≤1000
 phis : ∀ p∈x.phis,p.ins.length≤1000
def Gd (m:MS):Prop:=∀ j,j<m.blocks.length→GdB (nth m.blocks j)
variable {s:List Int} {m:MS} {b:Nat}
theorem Gd.took (g:Gd m):Gd m.took:=g
theorem Gd.aE (g:Gd m):Gd m.aE:=g
theorem Gd.aQ (g:Gd m) {x:BlkD} (hx:b<m.blocks.length→GdB x):Gd { m with blocks:=m.blocks.set b x }:=fun j hj=>by
 have hj:j<m.blocks.length:=by simpa using hj
 show GdB (nth (m.blocks.set b x) j)
 rw [aF hj]
 split
 ·rename_i e;exact hx (by omega)
 ·exact g j hj
theorem Gd.add (g:Gd m) {i:InsD} (hi:i.args.length≤10):Gd (m.add b i):=by
 have:=g.aQ (b:=b) (x:={ nth m.blocks b with ins:=(nth m.blocks b).ins++[i] }) fun hb=>⟨fun j hj=>by
  rcases List.mem_append.1 hj with h | h
  ·exact (g b hb).ins j h
  ·rw [List.mem_singleton] at h;rw [h];exact hi,(g b hb).args,(g b hb).to,(g b hb).phis⟩
 exact this
theorem Gd.constant (g:Gd m) {n:Int}:Gd (m.constant b n):=g.aE.add (by show 0≤10;omega)
theorem Gd.two (g:Gd m) {op x y:Int}:Gd (m.two b op x y):=g.aE.add (by show 2≤10;omega)
theorem Gd.ay (g:Gd m):Gd (ay s m b).2:=by
 unfold Go.Proofs.Ytbkdlhkoiagbbaa.ay
 repeat' split
 ·exact g.took.took.constant
 ·exact g.took.took.took.took.took.constant
 ·exact g.took.took.took
theorem Gd.addr (g:Gd m):Gd (gI s m b).2:=by
 unfold gI
 simp only
 split
 ·exact g.took.constant.took.ay.constant.two.two
 ·exact g.took.constant.took
theorem Gd.off (g:Gd m):Gd (offS s m).2:=by
 unfold offS
 split
 ·exact g.took.took.took.took
 ·exact g.took.took
theorem Gd.memory (g:Gd m) {st:Bool}:Gd (fR s m b st):=by
 unfold fR
 simp only
 split
 ·exact g.addr.off.ay.add (by show 2≤10;omega)
 ·exact g.addr.off.aE.add (by show 1≤10;omega)
theorem Gd.bin (g:Gd m) {op:Int}:Gd (binS s m b op):=by
 unfold binS
 simp only
 split
 ·exact g.ay.ay.took.took.constant.two
 ·exact g.ay.ay.took.two
theorem Gd.div (g:Gd m):Gd (divS s m b):=by
 unfold divS
 simp only
 split
 ·exact g.ay.took.constant.took.took.constant.two
 ·exact g.ay.took.constant.took.two
theorem Gd.args {x:List Int × MS} (g:Gd x.2) : ∀ n,Gd (up (ek s b) n x).2∧(up (ek s b) n x).1.length=x.1.length+n
 | 0=>⟨g,rfl⟩
 | n+1=>⟨(Gd.args g n).1.ay,by show ((up (ek s b) n x).1++[_]).length=_;rw [List.length_append,(Gd.args g n).2,List.length_singleton];omega⟩
theorem Gd.call (g:Gd m):Gd (kl s m b):=by
 unfold kl
 simp only
 have ht:=a8 (s:=s) (at_:=m.at_) (n:=5) (by decide)
 obtain ⟨g2,l2⟩:=Gd.args (s:=s) (b:=b) (x:=([],m.took)) g.took (az s m.at_ 5).toNat
 refine g2.aE.took.add ?_
 show (up (ek s b) (az s m.at_ 5).toNat ([],m.took)).1.length≤10
 rw [l2];simp;omega
theorem Gd.fh (g:Gd m):Gd (aB s b m):=by
 unfold aB
 simp only
 repeat' split
 ·exact g.took.bin
 ·unfold ltuS
  exact g.took.ay.ay.two
 ·exact g.took.div
 ·exact g.took.memory
 ·exact g.took.call
 ·unfold oW
  exact g.took.ay.ay.aE.aE.add (by show 2≤10;omega)
 ·exact g.took.took.took.constant
theorem Gd.dB (g:Gd m) : ∀ n,Gd (up (fun _=>aB s b) n m)
 | 0=>g
 | n+1=>(Gd.dB g n).fh
theorem Gd.GU (g:Gd m) {to:List Int} (ht:to.length≤1000):Gd (kt s to b m):=by
 have h:Gd (dH s to b m).2∧(dH s to b m).1.args.length≤10∧(dH s to b m).1.to.length≤1000:=by
  unfold dH
  simp only
  repeat' split
  ·exact ⟨g.took.took,by show 0≤10;omega,by show 0≤1000;omega⟩
  ·exact ⟨g.took.ay,by show 1≤10;omega,by show 0≤1000;omega⟩
  ·exact ⟨g.took,by show 0≤10;omega,by show 0≤1000;omega⟩
  ·exact ⟨g,by show 0≤10;omega,ht⟩
  ·exact ⟨g.ay.took.ay.aE.took.add (by show 2≤10;omega),by show 1≤10;omega,ht⟩
  ·exact ⟨g.ay.took,by show 1≤10;omega,ht⟩
  ·exact ⟨g.ay.constant.two,by show 1≤10;omega,ht⟩
 obtain ⟨h1,h2,h3⟩:=h
 exact h1.aQ fun hb=>⟨(h1 b hb).ins,h2,h3,(h1 b hb).phis⟩
theorem Gd.fe (g:Gd m) {l:List Int} (hl:l.length≤1000):Gd (m.fe b l):=g.aQ fun hb=>⟨(g b hb).ins,(g b hb).args,hl,(g b hb).phis⟩
theorem Gd.cE (g:Gd m):Gd (Go.Proofs.Ytbkdlhkoiagbbaa.cE b m):=by
 have:=g.aE.aQ (b:=b) (x:={ nth m.blocks b with phis:=(nth m.blocks b).phis++[⟨m.next,[]⟩] }) fun hb=>⟨(g b hb).ins,(g b hb).args,(g b hb).to,fun p hp=>by
  rcases List.mem_append.1 hp with h | h
  ·exact (g b hb).phis p h
  ·rw [List.mem_singleton] at h;rw [h];show 0≤1000;omega⟩
 exact this
theorem Gd.jC (g:Gd m) : ∀ n,Gd (up (fun _=>Go.Proofs.Ytbkdlhkoiagbbaa.cE b) n m)
 | 0=>g
 | n+1=>(Gd.jC g n).cE
theorem Gd.gH (g:Gd m) {i:Nat} {l:List InD} (hl:l.length≤1000):Gd (m.gH b i l):=g.aQ fun hb=>⟨(g b hb).ins,(g b hb).args,(g b hb).to,fun p hp=>by
 rcases List.mem_or_eq_of_mem_set hp with h | h
 ·exact (g b hb).phis p h
 ·rw [h];exact hl⟩
theorem Gd.smF {n a p i:Nat} (g:Gd m) (z:Sz n a p i m) (hn:n≤10000) (hp:p≤10000) (hi:i≤10000):SmF m.f:=by
 refine ⟨by show m.blocks.length≤_;rw [z.len];exact hn,fun j hj=>?_⟩
 have hj:j<m.blocks.length:=hj
 have h:=g j hj
 have e:nth m.f.blocks j=nth m.blocks j:=rfl
 rw [e]
 exact ⟨Nat.le_trans (z.phis j) hp,Nat.le_trans (z.ins j) hi,by have:=h.args;omega,by have:=h.to;omega,fun k hk=>by have:=h.phis _ (bQ hk);omega,fun k hk=>by have:=h.ins _ (bQ hk);omega⟩
theorem rQ {f:ah} : ∀ n,∀ t∈thTo f n,t.mks.length≤1000
 | 0,t,h=>by cases h
 | n+1,t,h=>by
  rw [fK] at h
  rcases List.mem_append.1 h with h | h
  ·exact rQ n t h
  ·unfold thB at h
   simp only [List.mem_append,List.mem_singleton,rows,List.mem_map,List.mem_range] at h
   rcases h with (⟨i,_,rfl⟩ | ⟨i,_,rfl⟩) | rfl
   ·show 1≤1000;omega
   ·show (aX _).length≤1000
    unfold aX
    repeat' split
    all_goals simp
   ·show 0≤1000;omega
theorem xM {n a p i:Nat} (z:Sz n a p i m) : ∀ k,(thTo m.f k).length≤(p+i+1)*k
 | 0=>Nat.le_refl _
 | k+1=>by
  have h1:=xM z k
  have h2:=z.phis k
  have h3:=z.ins k
  have e:nth m.f.blocks k=nth m.blocks k:=rfl
  rw [fK,List.length_append,Nat.mul_succ]
  unfold thB
  simp only [List.length_append,kz,List.length_singleton,e]
  omega
theorem oR {n a p i:Nat} (z:Sz n a p i m) (hn:n≤10) (hp:p≤1000) (hi:i≤3000):(aG m.f).length≤60000:=by
 have h1:=xM z n
 have h2:(p+i+1)*n≤5000*10:=Nat.mul_le_mul (by omega) hn
 have e:aG m.f=thTo m.f n:=by
  unfold aG
  rw [show m.f.blocks.length=n from z.len]
 rw [e];omega
theorem sx {n a p i:Nat} (z:Sz n a p i m) (hn:n≤10) (hp:p≤1000) (hi:i≤3000):(eT m.f b).length≤70000000:=by
 have h:=tH (l:=aG m.f) (f:=m.f) (b:=b) (c:=1000) (rQ _) (out:=rows (fun i=>(i:Int)) m.f.params.toNat)
 have h2:=oR z hn hp hi
 have h3:m.f.params.toNat≤4:=by have:=z.ps1;show m.ps.toNat≤4;omega
 rw [kz] at h
 have e:eT m.f b=(aG m.f).foldl (dv m.f b) (rows (fun i=>(i:Int)) m.f.params.toNat):=rfl
 rw [e];omega
end Go.Proofs.Ytbkdlhkoiagbbaa
namespace Go.Proofs.Ytbkdlhkoiagbbaa
open Go Go.Lft
structure P3 (n a p i:Nat) (m:MS):Prop where
 z:Sz n a p i m
 g:Gd m
theorem P3.mono {n a p i a' p' i':Nat} {m:MS} (q:P3 n a p i m) (h1:a≤a') (h2:p≤p') (h3:i≤i'):P3 n a' p' i' m:=⟨q.z.mono h1 h2 h3,q.g⟩
theorem Sz.const {n a p i b:Nat} {m:MS} {k:Int} (z:Sz n a p i m):Sz n (a+3) p (i+1) (m.constant b k):=by
 have h1:Sz n (a+3) p (i+1) { m.aE with live:=m.live++aX (conD m.next k) }:=⟨by have:=z.at_;show m.at_≤_;omega,by have:=z.n0;show 0≤m.next+1;omega,by have:=z.next;show m.next+1≤_;omega,by
  have:=z.live
  show (m.live++[m.next]).length≤_
  rw [List.length_append,List.length_singleton];omega,z.ps0,z.ps1,z.len,z.phis,fun j=>by have:=z.ins j;show (nth m.blocks j).ins.length≤_;omega⟩
 exact h1.aQ (b:=b) (x:={ nth m.blocks b with ins:=(nth m.blocks b).ins++[conD m.next k] }) (z.phis b) (by have:=z.ins b;show ((nth m.blocks b).ins++[_]).length≤_;rw [List.length_append,List.length_singleton];omega)
theorem Sz.gH {n a p i b j:Nat} {m:MS} {l:List InD} (z:Sz n a p i m):Sz n a p i (m.gH b j l):=
 z.aQ (by show ((nth m.blocks b).phis.set j _).length≤_;rw [List.length_set];exact z.phis b) (z.ins b)
def rowS (s:List Int) (b:Nat) (m:MS):List Int × MS:=if (eT m.f b).length=0 then ([m.next],m.took.took.constant b (gQ s m)) else (eT m.f b,m)
theorem xy {s:List Int} {b:Nat} {m:MS}:0<(rowS s b m).1.length:=by
 unfold rowS
 split
 ·show 0<1;omega
 ·show 0<(eT m.f b).length;omega
theorem CK {s:List Int} {n a p i b:Nat} {m:MS} (z:Sz n a p i m) (hn:n≤10) (hp:p≤1000) (hi:i≤3000):(rowS s b m).1.length≤70000000:=by
 unfold rowS
 split
 ·show 1≤70000000;omega
 ·exact sx z hn hp hi
theorem zi {s:List Int} {n a p i b:Nat} {m:MS} (q:P3 n a p i m):P3 n (a+5) p (i+1) (rowS s b m).2:=by
 unfold rowS
 split
 ·exact ⟨(q.z.took.took.const).mono (by omega) (Nat.le_refl _) (Nat.le_refl _),q.g.took.took.constant⟩
 ·exact q.mono (by omega) (Nat.le_refl _) (by omega)
theorem Am {s:List Int} {p:List Int} {k b:Nat} {x:List InD × MS} (h:nth p k=b):bA s p k x=(x.1++[⟨b,nth (rowS s b x.2).1 (az s (rowS s b x.2).2.at_ (rowS s b x.2).1.length).toNat⟩],(rowS s b x.2).2.took):=by
 unfold bA
 rw [h]
 rfl
theorem iJ {s:List Int} {n a p i:Nat} {pl:List Int} {x:List InD × MS} (q:P3 n a p i x.2) : ∀ k,P3 n (a+6*k) p (i+k) (up (bA s pl) k x).2∧(up (bA s pl) k x).1.length=x.1.length+k
 | 0=>⟨q,rfl⟩
 | k+1=>by
  obtain ⟨h1,h2⟩:=iJ (pl:=pl) q k
  have h3:=zi (s:=s) (b:=(nth pl k).toNat) h1
  refine ⟨?_,?_⟩
  ·have e:(up (bA s pl) (k+1) x).2=(rowS s (nth pl k).toNat (up (bA s pl) k x).2).2.took:=rfl
   rw [e]
   exact ⟨(h3.z.took).mono (by omega) (Nat.le_refl _) (by omega),h3.g.took⟩
  ·have e:(up (bA s pl) (k+1) x).1=(up (bA s pl) k x).1++[⟨nth pl k,nth (rowS s (nth pl k).toNat (up (bA s pl) k x).2).1 (az s (rowS s (nth pl k).toNat (up (bA s pl) k x).2).2.at_ (rowS s (nth pl k).toNat (up (bA s pl) k x).2).1.length).toNat⟩]:=rfl
   rw [e,List.length_append,h2,List.length_singleton];omega
theorem Ei {s:List Int} {n a p i b j:Nat} {pl:List Int} {m:MS} (q:P3 n a p i m) (hp:pl.length≤9):P3 n (a+54) p (i+9) (phi3 s b pl j m):=by
 obtain ⟨h1,h2⟩:=iJ (s:=s) (pl:=pl) (x:=([],m)) q pl.length
 exact ⟨(h1.z.gH).mono (by omega) (Nat.le_refl _) (by omega),h1.g.gH (by rw [h2];show 0+_≤_;omega)⟩
theorem lA {s:List Int} {n a p i b:Nat} {pl:List Int} {m:MS} (q:P3 n a p i m) (hp:pl.length≤9) : ∀ k,P3 n (a+54*k) p (i+9*k) (up (phi3 s b pl) k m)
 | 0=>q
 | k+1=>(Ei (lA q hp k) hp).mono (by omega) (Nat.le_refl _) (by omega)
end Go.Proofs.Ytbkdlhkoiagbbaa
namespace Go.Proofs.Ytbkdlhkoiagbbaa
open Go Go.Lft
theorem EY {H:View} {a b:Int} (ha:I64 a) (hb:I64 b):Rd H (.agg #[.int .i64 a,.int .i64 b]) (InD.mk a b):=⟨_,rfl,[.int .i64 a],[.int .i64 b],rfl,⟨rfl,ha⟩,rfl,hb⟩
section
variable {s:List Int} {M:Nat} {vs:Value} {W0:View} {h:Heap} {o0:Own} {m:MS}
theorem Nx.DO (x:Nx s M vs W0 h o0 m) {h':Heap} {k:Key} {u:Value} {l:List Int} (h3:3≤k.1) (hk:o0 k=none) (hle:(vw h).le (vw h')) (hb : ∀ b,u.ownBlock=some b→h.size≤b) (ho:OwnT nothing h' T.int u l):Nx s M vs W0 h' (o0.upd k (it T.int u l)) m:=by
 obtain ⟨W,o,g,w,f⟩:=x
 have w2:=w.own.add (k:=k) ((f k h3).trans hk) (xB (W':=W) ho) hle hb
 obtain ⟨vb,vl,lb,bb⟩:=w.box
 refine ⟨W,_,g,⟨w2,w.src,vb,vl,lb,bb.frame fun q hq=>Own.ab (by rintro rfl;omega)⟩,fun q hq=>?_⟩
 unfold Own.upd
 split
 ·rfl
 ·exact f q hq
theorem Nx.freeze {α:Type} [r:Rep α] {k:Key} {e:TypeId} {v:Value} {l:List α} (x:Nx s M vs W0 h (o0.upd k (it e v l)) m) (h3:3≤k.1) (hk:o0 k=none) : ∃ W',W0.le W'∧Nx s M vs W' h o0 m∧SlRd W' v l:=by
 obtain ⟨W,o,g,w,f⟩:=x
 have hk2:=(f k h3).trans Own.af
 obtain ⟨w2,sl⟩:=w.own.freeze hk2
 have hWp:=iX (h:=h) (w.own.av _ _ hk2)
 obtain ⟨vb,vl,lb,bb⟩:=w.box
 refine ⟨_,View.le_trans g hWp,⟨_,_,View.le_refl _,⟨w2,w.src.mono hWp,vb,vl,lb,bb.frame fun q hq=>Own.ab (by rintro rfl;omega)⟩,fun q hq=>?_⟩,sl⟩
 by_cases e2:q=k
 ·rw [e2,Own.af,hk]
 ·rw [Own.ab e2,f q hq,Own.ab e2]
theorem Nx.fO {po po2:OP} {α:Type} [r:Rep α] {k:Key} {e t ty ty2:TypeId} {bytes:Nat} {z:Value} {v:Value} {l:List α} (x:Nx s M vs W0 h o0 m) (h3:3≤k.1) (hk:o0 k=it e v l) {a y y2:Operand} {us:List (Nat × Value)} {us2:Value→List (Nat × Value)} {u:Value} {d:α} {K:Value→Value→Heap→Prop} (hT:dL Try.prog t e (Rep.n α) bytes z) (hx:asg us a=u) (hr : ∀ W,Rd W u d)
  (hb:(l.length+1)*bytes≤140737488355328) (hb2:l.length+1≤140737488355328) (hy : ∀ u,asg (us2 u) y=v) (hy2 : ∀ u,asg (us2 u) y2=u)
  (hK : ∀ u v' h',Nx s M vs W0 h' (o0.upd k (it e v' (l++[d]))) m→K u v' h') :
  @Lft.step po Try.prog (.buildSlice t 1 #[(0,a)]) ty us h fun u h2=>@Lft.step po2 Try.prog (.call ⟨.builtin .append,#[y,y2],#[t,t]⟩) ty2 (us2 u) h2 fun v' h3=>K u v' h3:=by
 obtain ⟨W,o,g,w,f⟩:=x
 refine w.own.fO (k:=k) (d:=d) ((f k h3).trans hk) hT hx (hr W) hb hb2 hy hy2 fun u v' h' w2 _=>hK u v' h' ?_
 obtain ⟨vb,vl,lb,bb⟩:=w.box
 refine ⟨W,_,g,⟨w2,w.src,vb,vl,lb,bb.frame fun q hq=>Own.ab (by rintro rfl;omega)⟩,fun q hq=>?_⟩
 unfold Own.upd
 split
 ·rfl
 ·exact f q hq
theorem Bf {n a p i b j:Nat} {vr vt vp vd vq vi:Value} {pl:List Int} (x:Nx s M vs W0 h (o0.upd (7,2) (it T.dc vi ([]:List InD))) m) (f71:o0 (7,1)=none) (q:P3 n a p i m) (hn:n≤10) (ha:a≤500000) (hia:i≤a) (hp:p≤100) (hi:i≤2000) (hq:SlRd W0 vq pl) (hpl:pl.length≤9) (hpr : ∀ k,k<pl.length→∃ c:Nat,nth pl k=c∧c<n) {Q:Post} {ρ:Env}
  (h0:bg [2,3,4,5,7,11,25,26,27,28,29] ρ=[(2,vr),(3,.pointer (some ⟨M,0,none⟩)),(4,.int .i64 n),(5,vt),(7,vp),(11,vd),(25,.int .i64 b),(26,vq),(27,.int .i64 j),(28,vi),(29,.int .i64 0)])
  (hQ : ∀ (h':Heap) vi,Nx s M vs W0 h' (o0.upd (7,2) (it T.dc vi (up (bA s pl) pl.length ([],m)).1)) (up (bA s pl) pl.length ([],m)).2→Q .normal [(2,vr),(3,.pointer (some ⟨M,0,none⟩)),(4,.int .i64 n),(5,vt),(7,vp),(11,vd),(25,.int .i64 b),(26,vq),(27,.int .i64 j),(28,vi),(29,.int .i64 pl.length)] h') :
  LC.wp Try.prog (.block 28 (.loop L.aq.l15)) Q ρ h:=by
 simp only [aH]
 refine cR [2,3,4,5,7,11,25,26,27,28,29] (fun (vi:Value) k=>[vr,.pointer (some ⟨M,0,none⟩),.int .i64 n,vt,vp,vd,.int .i64 b,vq,.int .i64 j,vi,.int .i64 k]) (fun vi k h2=>Nx s M vs W0 h2 (o0.upd (7,2) (it T.dc vi (up (bA s pl) k ([],m)).1)) (up (bA s pl) k ([],m)).2) pl.length vi
  rfl (by omega) h0 x (fun _ _=>rfl) (fun v k h2 hk2 x2=>by simp [hq.len]) ?_ ?_
 ·rintro vi k h2 hlt x2 K2 hK2
  obtain ⟨q2,hl2⟩:=iJ (s:=s) (pl:=pl) (x:=([],m)) q k
  obtain ⟨c,hc,hcn⟩:=hpr k hlt
  have e2:up (bA s pl) (k+1) ([],m)=bA s pl k (up (bA s pl) k ([],m)):=rfl
  rw [e2,Am hc] at hK2
  have hl2:(up (bA s pl) k ([],m)).1.length≤9:=by rw [hl2];simp;omega
  generalize up (bA s pl) k ([],m)=y at x2 hK2 q2 hl2
  obtain ⟨il,m2⟩:=y
  have q2:P3 n (a+54) p (i+9) m2:=P3.mono q2 (by omega) (Nat.le_refl _) (by omega)
  have hl2:il.length≤9:=hl2
  have x2:Nx s M vs W0 h2 (o0.upd (7,2) (it T.dc vi il)) m2:=x2
  simp only at hK2
  have hcell : ∀ {h':Heap},W0.le (vw h')→an (vw h') ((slA vq).add k)=some (.int .i64 c):=fun g=>by rw [hq.int g hlt,hc]
  have hcell0:an W0 ((slA vq).add k)=some (.int .i64 c):=by rw [hq.int (View.le_refl _) hlt,hc]
  have hrow:rowS s c m2=_:=rowS.eq_1 s c m2
  have hq3:=zi (s:=s) (b:=c) q2
  have hpos:=xy (s:=s) (b:=c) (m:=m2)
  have hrl0:=CK (s:=s) (b:=c) q2.z hn (by omega) (by omega)
  simp only [aH]
  refine aa fun y hy=>?_
  obtain ⟨vb,vl,rd⟩:=x2.z.reads
  refine cS (vw h2) (View.le_refl _) ?_
  simp (disch:=omega) [rd.f,(hq.mono x2.z.le).idx1 rfl,hcell x2.z.le]
  have hth:(aG m2.f).length≤60000:=oR q2.z hn (by omega) (by omega)
  refine ae (by kernel_rfl) (xO (b:=c) (rd.rd (BJ q2.z)) (q2.g.smF q2.z (by omega) (by omega) (by omega)) ⟨q2.z.ps0,by have:=q2.z.ps1;show m2.ps≤_;omega⟩ (by show c<m2.blocks.length;rw [q2.z.len];exact hcn) (rQ _) (by omega)) ?_
  rintro u3 h3 ⟨hle3,hb3,ho3⟩
  have x3:=x2.DO (k:=(7,1)) (by decide) ((Own.ab (by simp)).trans f71) hle3 hb3 ho3
  clear rd x2 ho3 hb3
  generalize eT m2.f c=sl at x3 hrow
  rw [hy];clear hy y
  refine aa fun y hy=>?_
  have fin : ∀ (v30:Value) (h':Heap) (ρ:Env),Nx s M vs W0 h' ((o0.upd (7,2) (it T.dc vi il)).upd (7,1) (it T.int v30 (rowS s c m2).1)) (rowS s c m2).2→Lft.look ρ 2=some vr→Lft.look ρ 3=some (.pointer (some ⟨M,0,none⟩))→Lft.look ρ 4=some (.int .i64 n)→Lft.look ρ 5=some vt→Lft.look ρ 7=some vp→Lft.look ρ 11=some vd→Lft.look ρ 25=some (.int .i64 b)→Lft.look ρ 26=some vq→Lft.look ρ 27=some (.int .i64 j)→Lft.look ρ 28=some vi→Lft.look ρ 29=some (.int .i64 k)→Lft.look ρ 30=some v30→
    LC.wp Try.prog y (dM 29 (eB K2 (dM 28 Q))) ρ h':=by
   intro v30 h' ρ x4 r2 r3 r4 r5 r7 r11 r25 r26 r27 r28 r29 r30
   rw [hy];clear hy y
   generalize rowS s c m2=r at x4 hK2 hq3 hpos hrl0
   obtain ⟨W4,hW4,x4,s4⟩:=x4.freeze (by decide) ((Own.ab (by simp)).trans f71)
   have hrl:=s4.bound
   refine cS W4 x4.z.le ?_
   simp (disch:=omega) [aj,al,r2,r3,r4,r5,r7,r11,r25,r26,r27,r28,r29,r30,(hq.mono hW4).idx1 rfl,ag hW4 hcell0,s4.len]
   refine ae (by kernel_rfl) (dO x4.z (hq3.z.ok (by omega)) (by omega) (k:=(r.1.length:Int)) (by omega) (by omega)) ?_
   rintro _ h5 ⟨rfl,n5⟩
   refine ⟨n5.le,?_⟩
   obtain ⟨t0,t1⟩:=a8 (s:=s) (at_:=r.2.at_) (n:=(r.1.length:Int)) (by omega)
   generalize az s r.2.at_ (r.1.length:Int)=tv at t0 t1 hK2
   have hrng:=s4.range (i:=tv.toNat) (by omega)
   simp (disch:=omega) [aj,al,r2,r3,r4,r5,r7,r11,r25,r26,r27,r28,r29,r30,s4.idx1 rfl,s4.int (View.le_refl _)]
   refine aP (z:=.agg #[.int .i64 0,.int .i64 0]) (places:=[(0,1),(1,1)]) (vs:=[(0,.int .i64 c),(1,.int .i64 (nth r.1 tv.toNat))]) (cs:=#[.int .i64 c,.int .i64 (nth r.1 tv.toNat)]) (by kernel_rfl) (by kernel_rfl) (by simp) (by rfl) ?_
   refine n5.x.fO (k:=(7,2)) (α:=InD) (d:=⟨c,nth r.1 tv.toNat⟩) (by decide) Own.af El.gJ rfl (fun W=>EY ⟨by omega,by omega⟩ hrng) (by omega) (by omega) (fun _=>rfl) (fun _=>rfl) fun u v' h6 x6=>?_
   refine hK2 v' _ _ ?_ ?_ ((x6.re fun q=>by rw [gw]).up hW4)
   ·simp [aj,al,r29]
   ·simp [bg,aj,al,r2,r3,r4,r5,r7,r11,r25,r26,r27,r28,r29]
  have hsl:=(x3.z.at (k:=(7,1)) (by decide) Own.af).len (K:=vw h3)
  have hlen3 : ∀ {Q:View},Un.ev Q .len u3=some (.int .i64 sl.length):=fun {Q}=>(x3.z.at (k:=(7,1)) (by decide) Own.af).len
  refine aa fun w hw=>?_
  simp [hlen3]
  rw [hw];clear hw w
  by_cases c0:sl.length=0
  ·have c0':sl=[]:=List.eq_nil_of_length_eq_zero c0
   rw [if_pos c0] at hrow
   refine a6 (by simp [c0,c0']) ?_
   refine cS W0 x3.z.le ?_
   simp (disch:=omega) [hq.idx1 rfl,hcell0]
   refine ae (by kernel_rfl) (vh x3.z (q2.z.ok (by omega)) (by omega)) ?_
   rintro _ h4 ⟨rfl,n4⟩
   refine ⟨n4.le,?_⟩
   refine ae (by kernel_rfl) (eZ n4 (b:=c) (by show c<m2.blocks.length;rw [q2.z.len];exact hcn) (q2.z.took.took.ok (by omega)) (by omega) mO) ?_
   rintro _ h5 ⟨rfl,n5⟩
   have i64:I64 m2.next:=by have:=q2.z.n0;have:=q2.z.next;constructor<;>omega
   subst c0'
   refine n5.x.fO (k:=(7,1)) (α:=Int) (d:=m2.next) (by decide) Own.af El.bc rfl (fun W=>dx.2 ⟨rfl,i64⟩) (by simp) (by simp) (fun _=>rfl) (fun _=>rfl) fun u v' h6 x6=>?_
   refine fin v' h6 _ ?_ ?_ ?_ ?_ ?_ ?_ ?_ ?_ ?_ ?_ ?_ ?_ ?_
   ·rw [hrow]
    exact x6.re fun q=>by rw [gw];rfl
   all_goals simp
  ·rw [if_neg c0] at hrow
   have c0':¬sl=[]:=fun e=>c0 (by rw [e];rfl)
   refine aT (by simp [c0']) ?_
   simp
   refine fin u3 h3 _ ?_ ?_ ?_ ?_ ?_ ?_ ?_ ?_ ?_ ?_ ?_ ?_ ?_
   ·rw [hrow];exact x3
   all_goals simp
 ·rintro vi h2 x2
  exact hQ h2 vi x2
end
end Go.Proofs.Ytbkdlhkoiagbbaa
namespace Go.Proofs.Ytbkdlhkoiagbbaa
open Go Go.Lft
def Pc (lp:List Int) (m:MS):Prop:=∀ j,((nth m.blocks j).phis.length:Int)=nth lp j
theorem Pc.grw {lp:List Int} {m m':MS} {b k:Nat} (p:Pc lp m) (g:Grw b k m m'):Pc lp m':=fun j=>by
 by_cases e:j=b
 ·subst e;rw [g.phis];exact p j
 ·rw [g.els j e];exact p j
theorem Pc.aQ {lp:List Int} {m:MS} {b:Nat} {x:BlkD} (p:Pc lp m) (hx:x.phis.length=(nth m.blocks b).phis.length):Pc lp { m with blocks:=m.blocks.set b x }:=fun j=>by
 show ((nth (m.blocks.set b x) j).phis.length:Int)=_
 rcases Nat.lt_or_ge j m.blocks.length with hl | hl
 ·rw [aF hl]
  split
  ·rename_i e;subst e;rw [hx];exact p b
  ·exact p j
 ·rw [aR (by simpa using hl)]
  have:=p j
  rwa [aR hl] at this
theorem Pc.gq {s:List Int} {to:List (List Int)} {n b:Nat} {dn:BL} {away:List BL} {lp:List Int} {m:MS} (p:Pc lp m) (hb:b<m.blocks.length):Pc lp (gq s to n dn away b m):=by
 have p1:Pc lp (MS.took { m with live:=js m dn away b n }):=p
 have hb1:b<(MS.took { m with live:=js m dn away b n }).blocks.length:=hb
 have g:=((Grw.refl (b:=b) (m:=MS.took { m with live:=js m dn away b n })).dB (s:=s) hb1 (az s m.at_ 7).toNat).C1 (s:=s) (to:=nth to b) hb1
 exact (p1.grw g).aQ rfl
theorem Pc.aI {s:List Int} {to:List (List Int)} {n b:Nat} {lp:List Int} {x:BL × MS} (p:Pc lp x.2) (hb:b<x.2.blocks.length):Pc lp (aI s to n b x).2:=by
 unfold Go.Proofs.Ytbkdlhkoiagbbaa.aI
 split
 ·exact p.gq hb
 ·exact p
theorem Pc.rowS {s:List Int} {b:Nat} {lp:List Int} {m:MS} (p:Pc lp m) (hb:b<m.blocks.length):Pc lp (rowS s b m).2:=by
 unfold Go.Proofs.Ytbkdlhkoiagbbaa.rowS
 split
 ·have p1:Pc lp m.took.took:=p
  exact p1.grw ((Grw.refl (b:=b) (m:=m.took.took)).constant hb)
 ·exact p
theorem zV {s:List Int} {b:Nat} {m:MS}:(rowS s b m).2.blocks.length=m.blocks.length:=by
 unfold rowS
 split
 ·exact cT
 ·rfl
theorem Pc.iJ {s:List Int} {pl:List Int} {lp:List Int} {x:List InD × MS} (p:Pc lp x.2) (hb : ∀ k,k<pl.length→(nth pl k).toNat<x.2.blocks.length) : ∀ k,k≤pl.length→Pc lp (up (bA s pl) k x).2∧(up (bA s pl) k x).2.blocks.length=x.2.blocks.length
 | 0,_=>⟨p,rfl⟩
 | k+1,h=>by
  obtain ⟨h1,h2⟩:=Pc.iJ (s:=s) p hb k (by omega)
  have e:(up (bA s pl) (k+1) x).2=(Go.Proofs.Ytbkdlhkoiagbbaa.rowS s (nth pl k).toNat (up (bA s pl) k x).2).2.took:=rfl
  rw [e]
  exact ⟨h1.rowS (by rw [h2];exact hb k (by omega)),(kM).trans (zV.trans h2)⟩
theorem Pc.phi3 {s:List Int} {b j:Nat} {pl:List Int} {lp:List Int} {m:MS} (p:Pc lp m) (hb : ∀ k,k<pl.length→(nth pl k).toNat<m.blocks.length):Pc lp (phi3 s b pl j m)∧(phi3 s b pl j m).blocks.length=m.blocks.length:=by
 obtain ⟨h1,h2⟩:=Pc.iJ (s:=s) (pl:=pl) (x:=([],m)) p hb pl.length (Nat.le_refl _)
 exact ⟨h1.aQ (by simp),by show (List.set _ _ _).length=_;rw [List.length_set];exact h2⟩
theorem Pc.lA {s:List Int} {b:Nat} {pl:List Int} {lp:List Int} {m:MS} (p:Pc lp m) (hb : ∀ k,k<pl.length→(nth pl k).toNat<m.blocks.length) : ∀ k,Pc lp (up (Go.Proofs.Ytbkdlhkoiagbbaa.phi3 s b pl) k m)∧(up (Go.Proofs.Ytbkdlhkoiagbbaa.phi3 s b pl) k m).blocks.length=m.blocks.length
 | 0=>⟨p,rfl⟩
 | k+1=>by
  obtain ⟨h1,h2⟩:=Pc.lA (s:=s) (b:=b) p hb k
  obtain ⟨h3,h4⟩:=Pc.phi3 (s:=s) (b:=b) (j:=k) h1 (fun k hk=>by rw [h2];exact hb k hk)
  exact ⟨h3,h4.trans h2⟩
theorem rP {p:Nat→Bool} : ∀ (n:Nat) (v:Int),v∈sift p (fun a=>(a:Int)) n→∃ c:Nat,v=c∧c<n
 | 0,v,h=>by cases h
 | n+1,v,h=>by
  cases hp:p n with
  | true=>
   rw [kP hp] at h
   rcases List.mem_append.1 h with h | h
   ·obtain ⟨c,h1,h2⟩:=rP n v h;exact ⟨c,h1,by omega⟩
   ·rw [List.mem_singleton] at h;exact ⟨n,h,by omega⟩
  | false=>
   rw [jW hp] at h
   obtain ⟨c,h1,h2⟩:=rP n v h;exact ⟨c,h1,by omega⟩
theorem sy {p:Nat→Bool} (n k:Nat) (hk:k<(sift p (fun a=>(a:Int)) n).length) : ∃ c:Nat,nth (sift p (fun a=>(a:Int)) n) k=c∧c<n:=rP n _ (bQ hk)
section
variable {s:List Int} {M:Nat} {vs:Value} {W0:View} {h:Heap} {o0:Own} {m:MS}
theorem Nx.GL {α:Type} [r:Rep α] (x:Nx s M vs W0 h o0 m) {h':Heap} {u:Value} {l:List α} (hle:(vw h).le (vw h')) (hs:SlRd (fresh h h') u l) : ∃ W',W0.le W'∧Nx s M vs W' h' o0 m∧SlRd W' u l:=by
 obtain ⟨W,o,g,w,f⟩:=x
 have hW:=b6 (h':=h') w.own.wle
 exact ⟨_,View.le_trans g hW,⟨_,o,View.le_refl _,⟨w.own.ext hle,w.src.mono hW,w.box⟩,f⟩,hs.mono (gk W h h')⟩
theorem Mk.Gl {po:OP} {W:View} {o:Own} (w:Mk s M vs W h o m) {vb vl:Value} {lb:List BlkM} (bb:MkB M vs m o vb vl lb) {b i:Nat} {l:List InD} {v:Value} {ty ty2:TypeId} {us:List (Nat × Value)} {x y:Operand} {K:Value→Heap→Prop} (hb:b<m.blocks.length) (hi:i<(nth m.blocks b).phis.length) (hsz:cL Try.prog ty2=some 1) (hx:asg us x = .pointer (some (((slA (nth lb b).phis.v).add (i*2)).add 1))) (hy:asg us y=v) (hr:SlRd W v l)
  (hK : ∀ h' o',Mk s M vs W h' o' (m.gH b i l)→(∀ k:Key,3≤k.1→o' k=o k)→K undef h'):@Lft.step po Try.prog (.store ty2 x y) ty us h K:=by
 have hbl:b<lb.length:=by rw [bb.len];exact hb
 refine w.own.kf (k:=(1,b)) (α:=PhiD) PhiD.mD (v:=(nth lb b).phis.v) (l:=(nth m.blocks b).phis) (i:=i) (d:=l) (bb.phis b hb) hsz hx hy hi (gm.2 hr) fun h7 w7 _=>?_
 have hs:lb.set b (nth lb b)=lb:=by rw [ak hbl];exact List.set_getElem_self hbl
 have b7:=bb.aQ hb (x':={ nth m.blocks b with phis:=(nth m.blocks b).phis.set i { nth (nth m.blocks b).phis i with ins:=l } }) (y':=nth lb b) (o':=o.upd (1,b) (it T.dm (nth lb b).phis.v ((nth m.blocks b).phis.set i { (nth m.blocks b).phis[i] with ins:=l }))) (bb.term b hb) (by rw [hs,Own.ab (by simp)];exact bb.blk) (by rw [Own.af,ak hi]) (by rw [Own.ab (by simp)];exact bb.ins b hb) (fun q h1 h2 h3=>Own.ab h2)
 rw [hs] at b7
 exact hK h7 _ ⟨w7,w.src,vb,vl,lb,b7⟩ fun k hk=>Own.ab (by rintro rfl;simp at hk)
end
end Go.Proofs.Ytbkdlhkoiagbbaa
namespace Go.Proofs.Ytbkdlhkoiagbbaa
open Go Go.Lft
section
variable {s:List Int} {M:Nat} {vs:Value} {W0:View} {h:Heap} {o0:Own} {m:MS}
theorem Da {n a p i b cnt:Nat} {vr vt vp vd vq:Value} {pl lp:List Int} (x:Nx s M vs W0 h o0 m) (h5:o0 (5,0)=it T.int vp lp) (f71:o0 (7,1)=none) (f72:o0 (7,2)=none) (q:P3 n a p i m) (pc:Pc lp m) (hlp:lp.length=n) (hb:b<n) (hcnt:nth lp b=cnt) (hc3:cnt≤3) (hn:n≤10) (ha:a≤400000) (hia:i≤a) (hp:p≤100) (hi:i≤1900) (hq:SlRd W0 vq pl) (hpl:pl.length≤9) (hpr : ∀ k,k<pl.length→∃ c:Nat,nth pl k=c∧c<n) {Q:Post} {ρ:Env}
  (h0:bg [2,3,4,5,7,11,25,26,27] ρ=[(2,vr),(3,.pointer (some ⟨M,0,none⟩)),(4,.int .i64 n),(5,vt),(7,vp),(11,vd),(25,.int .i64 b),(26,vq),(27,.int .i64 0)])
  (hQ : ∀ h':Heap,Nx s M vs W0 h' o0 (up (phi3 s b pl) cnt m)→Q .normal [(2,vr),(3,.pointer (some ⟨M,0,none⟩)),(4,.int .i64 n),(5,vt),(7,vp),(11,vd),(25,.int .i64 b),(26,vq),(27,.int .i64 cnt)] h') :
  LC.wp Try.prog (.block 26 (.loop L.aq.l14)) Q ρ h:=by
 simp only [aH]
 refine cR [2,3,4,5,7,11,25,26,27] (fun (_:Unit) k=>[vr,.pointer (some ⟨M,0,none⟩),.int .i64 n,vt,vp,vd,.int .i64 b,vq,.int .i64 k]) (fun _ k h2=>Nx s M vs W0 h2 o0 (up (phi3 s b pl) k m)) cnt ()
  rfl (by omega) h0 x (fun _ _=>rfl) (fun v k h2 hk2 x2=>by
   have sp:=x2.z.at (by decide) h5
   have e:=sp.int (View.le_refl _) (i:=b) (by omega)
   rw [hcnt] at e
   simp (disch:=omega) [sp.idx1 rfl,e]) ?_ ?_
 ·rintro _ k h2 hlt x2 K2 hK2
  have hpn : ∀ j,j<pl.length→(nth pl j).toNat<m.blocks.length:=fun j hj=>by
   obtain ⟨c,h1,h2⟩:=hpr j hj
   rw [h1,q.z.len];simpa using h2
  have q2:=(lA (s:=s) (b:=b) q hpl k).mono (a':=a+200) (p':=p) (i':=i+30) (by omega) (Nat.le_refl _) (by omega)
  obtain ⟨pc2,hlen2⟩:=Pc.lA (s:=s) (b:=b) pc hpn k
  have e2:up (phi3 s b pl) (k+1) m=phi3 s b pl k (up (phi3 s b pl) k m):=rfl
  rw [e2] at hK2
  generalize up (phi3 s b pl) k m=m2 at x2 hK2 q2 pc2 hlen2
  have hpn2 : ∀ j,j<pl.length→(nth pl j).toNat<m2.blocks.length:=fun j hj=>by rw [hlen2];exact hpn j hj
  obtain ⟨pc3,hlen3⟩:=Pc.iJ (s:=s) (pl:=pl) (x:=([],m2)) pc2 hpn2 pl.length (Nat.le_refl _)
  simp only [aH]
  refine aa fun y hy=>?_
  simp
  refine x2.iz (k:=(7,2)) (α:=InD) (by decide) f72 El.gJ fun vi h3 hvi x3=>?_
  rw [hy];clear hy y
  refine aa fun y hy=>?_
  refine aa fun w hw=>?_
  simp
  rw [hw];clear hw w
  refine Bf (vr:=vr) (vt:=vt) (vp:=vp) (vd:=vd) (vq:=vq) (vi:=vi) (b:=b) (j:=k) x3 f71 q2 hn (by omega) (by omega) hp (by omega) hq hpl hpr (by simp [bg,aj,al]) fun h4 vi x4=>?_
  obtain ⟨W4,hW4,x4,s4⟩:=x4.freeze (by decide) f72
  have e3:phi3 s b pl k m2=(up (bA s pl) pl.length ([],m2)).2.gH b k (up (bA s pl) pl.length ([],m2)).1:=rfl
  rw [e3] at hK2
  have hb4:b<(up (bA s pl) pl.length ([],m2)).2.blocks.length:=by rw [hlen3];show b<m2.blocks.length;rw [hlen2,q.z.len];exact hb
  have hph:((nth (up (bA s pl) pl.length ([],m2)).2.blocks b).phis.length:Int)=cnt:=(pc3 b).trans hcnt
  generalize up (bA s pl) pl.length ([],m2)=r at x4 hK2 s4 hb4 hph
  obtain ⟨W,o,g,w,f⟩:=x4
  obtain ⟨vb,vl,lb,bb⟩:=w.box
  have rd:=w.reads bb
  have hbb:b<lb.length:=by rw [bb.len];exact hb4
  have sb:=w.own.now bb.blk
  have sbb:=sb.bound
  have c1:an (vw h4) (((slA vb).add (b*6)).add 0)=some (nth lb b).phis.v:=by
   have:=((sb.at hbb).part BlkM.lF).raw
   rw [ak hbb];exact this
  have sph:=w.own.now (bb.phis b hb4)
  simp
  rw [hy];clear hy y
  have r5:Bn.ev (.idx 2) (nth lb b).phis.v (.int .i64 k)=some (.pointer (some ((slA (nth lb b).phis.v).add (k*2)))):=by
   have:=sph.idxn (N:=2) rfl (k:=.i64) (i:=k) (by omega) (by omega);simpa using this
  simp (disch:=omega) [rd.cb,sb.idxn (N:=6) rfl,c1,r5]
  refine w.Gl bb (b:=b) (i:=k) (l:=r.1) hb4 (by omega) (by kernel_rfl) rfl rfl (s4.mono g) fun h5 o5 w5 f5=>?_
  refine hK2 () _ _ rfl rfl ?_
  exact ⟨W,o5,View.le_trans hW4 g,w5,fun q hq=>(f5 q hq).trans (f q hq)⟩
 ·rintro _ h2 x2
  exact hQ h2 x2
theorem Ea {n a p i k:Nat} {lp:List Int} {m:MS} (q:P3 n a p i m) (pc:Pc lp m) (hr : ∀ j,nth lp j≤3) (hn:n≤9):P3 n (a+162) p (i+27) (blk3 s lp k m)∧Pc lp (blk3 s lp k m):=by
 have hpl:(aA m.f ((k+1:Nat):Int)).length≤n:=by
  have:=jo (p:=fun a=>decide (((k+1:Nat):Int)∈(nth m.f.blocks a).term.to)) (x:=fun a=>(a:Int)) m.f.blocks.length
  rw [show m.f.blocks.length=n from q.z.len] at this
  unfold aA
  rw [show m.f.blocks.length=n from q.z.len]
  exact this
 have hpn : ∀ j,j<(aA m.f ((k+1:Nat):Int)).length→(nth (aA m.f ((k+1:Nat):Int)) j).toNat<m.blocks.length:=fun j hj=>by
  obtain ⟨c,h1,h2⟩:=sy _ j hj
  have h1:nth (aA m.f ((k+1:Nat):Int)) j=c:=h1
  rw [h1];have h2:c<m.blocks.length:=h2;simpa using h2
 have h3:=hr (k+1)
 unfold blk3
 exact ⟨(lA q (by omega) _).mono (by omega) (Nat.le_refl _) (by omega),(Pc.lA pc hpn _).1⟩
theorem uK {n a p i:Nat} {lp:List Int} {m:MS} (q:P3 n a p i m) (pc:Pc lp m) (hr : ∀ j,nth lp j≤3) (hn:n≤9) : ∀ k,P3 n (a+162*k) p (i+27*k) (up (blk3 s lp) k m)∧Pc lp (up (blk3 s lp) k m)
 | 0=>⟨q,pc⟩
 | k+1=>by
  obtain ⟨h1,h2⟩:=uK q pc hr hn k
  obtain ⟨h3,h4⟩:=Ea (s:=s) (k:=k) h1 h2 hr hn
  exact ⟨h3.mono (by omega) (Nat.le_refl _) (by omega),h4⟩
theorem BG {n a p i:Nat} {vr vt vp vd:Value} {lp:List Int} (x:Nx s M vs W0 h o0 m) (h5:o0 (5,0)=it T.int vp lp) (f71:o0 (7,1)=none) (f72:o0 (7,2)=none) (q:P3 n a p i m) (pc:Pc lp m) (hlp:lp.length=n) (hr : ∀ j,0≤nth lp j∧nth lp j≤3) (hn1:1≤n) (hn:n≤9) (ha:a≤300000) (hia:i≤a) (hp:p≤100) (hi:i≤1000) {Q:Post} {ρ:Env}
  (h0:bg [2,3,4,5,7,11,25] ρ=[(2,vr),(3,.pointer (some ⟨M,0,none⟩)),(4,.int .i64 n),(5,vt),(7,vp),(11,vd),(25,.int .i64 1)])
  (hQ : ∀ h':Heap,Nx s M vs W0 h' o0 (up (blk3 s lp) (n-1) m)→Q .normal [(2,vr),(3,.pointer (some ⟨M,0,none⟩)),(4,.int .i64 n),(5,vt),(7,vp),(11,vd),(25,.int .i64 n)] h') :
  LC.wp Try.prog (.block 24 (.loop L.aq.l13)) Q ρ h:=by
 simp only [aH]
 refine rn [2,3,4,5,7,11,25] (fun (_:Unit) k=>[vr,.pointer (some ⟨M,0,none⟩),.int .i64 n,vt,vp,vd,.int .i64 ((k+1:Nat):Int)]) (fun _ k h2=>Nx s M vs W0 h2 o0 (up (blk3 s lp) k m)) (n-1) 1 ()
  rfl (by omega) h0 x (fun _ _=>rfl) (fun v k h2 hk2 m=>by simp;omega) ?_ ?_
 ·rintro _ k h2 hlt x2 K2 hK2
  obtain ⟨q2,pc2⟩:=uK (s:=s) q pc (fun j=>(hr j).2) hn k
  have e2:up (blk3 s lp) (k+1) m=blk3 s lp k (up (blk3 s lp) k m):=rfl
  rw [e2] at hK2
  generalize up (blk3 s lp) k m=m2 at x2 hK2 q2 pc2
  have hb2:blk3 s lp k m2=_:=blk3.eq_1 s lp k m2
  rw [hb2] at hK2
  simp only [aH]
  refine aa fun y hy=>?_
  obtain ⟨vb,vl,rd⟩:=x2.z.reads
  simp [rd.f]
  refine ae (by kernel_rfl) (p8 (b:=((k+1:Nat):Int)) (rd.rd (BJ q2.z)) (by show m2.blocks.length≤_;rw [q2.z.len];omega)) ?_
  rintro vq h3 ⟨hle3,hq⟩
  obtain ⟨W3,hW3,x3,sq⟩:=x2.GL hle3 hq
  clear rd hq
  have hpl:(aA m2.f ((k+1:Nat):Int)).length≤n:=by
   have:=jo (p:=fun a=>decide (((k+1:Nat):Int)∈(nth m2.f.blocks a).term.to)) (x:=fun a=>(a:Int)) m2.f.blocks.length
   unfold aA
   rw [show m2.f.blocks.length=n from q2.z.len] at this ⊢
   exact this
  have hpr : ∀ j,j<(aA m2.f ((k+1:Nat):Int)).length→∃ c:Nat,nth (aA m2.f ((k+1:Nat):Int)) j=c∧c<n:=fun j hj=>by
   obtain ⟨c,h1,h2⟩:=sy _ j hj
   exact ⟨c,h1,by rw [show m2.f.blocks.length=n from q2.z.len] at h2;exact h2⟩
  generalize aA m2.f ((k+1:Nat):Int)=pl at sq hpl hpr hK2
  obtain ⟨r0,r1⟩:=hr (k+1)
  rw [hy];clear hy y
  refine aa fun y hy=>?_
  simp
  rw [hy];clear hy y
  refine Da (vr:=vr) (vt:=vt) (vp:=vp) (vd:=vd) (vq:=vq) (b:=k+1) (cnt:=(nth lp (k+1)).toNat) x3 h5 f71 f72 q2 pc2 hlp (by omega) (by omega) (by omega) (by omega) (by omega) (by omega) hp (by omega) sq (by omega) hpr (by simp [bg,aj,al]) fun h4 x4=>?_
  simp
  refine hK2 () _ _ rfl rfl (x4.up hW3)
 ·rintro _ h2 x2
  have e:n-1+1=n:=by omega
  have:=hQ h2 x2
  simpa [e] using this
theorem yy {n a p:Nat} {to:List (List Int)} {x0:BL × MS} (q:B2 n a p x0) (hn:n≤10) (hp:p≤100) (ha:16000≤a) : ∀ j,j≤n→B2 n (a+600*j) p (up (aI s to n) j x0):=by
 intro j
 induction j with
 | zero=>intro _;exact q
 | succ j ih=>
  intro hj
  have:=oz (s:=s) (to:=to) (b:=j) (ih (by omega)) (by omega) hn hp (by omega) fun h=>kU h
  exact ⟨this.z.mono (by omega) (Nat.le_refl _) (Nat.le_refl _),this.len,this.none⟩
theorem Du {n a p:Nat} {to:List (List Int)} {x0:BL × MS} (q:B2 n a p x0) (hn:n≤10) (hp:p≤100) (ha:16000≤a) (j:Nat):B2 n (a+600*n*j) p (up (fun _=>up (aI s to n) n) j x0):=by
 induction j with
 | zero=>exact q
 | succ j ih=>
  have:=yy (s:=s) (to:=to) ih hn hp (by omega) n (Nat.le_refl _)
  exact ⟨this.z.mono (by rw [Nat.mul_succ];omega) (Nat.le_refl _) (Nat.le_refl _),this.len,this.none⟩
theorem DI {n a p:Nat} {vr vt vp vd:Value} {to:List (List Int)} {x0:BL × MS} (x:Nx s M vs W0 h (o0.upd (6,0) (it T.bool vd x0.1)) x0.2) (hto:SlRd W0 vt to) (htl:to.length=n) (f7:o0 (7,0)=none) (f90:o0 (9,0)=none) (f91:o0 (9,1)=none) (q:B2 n a p x0) (hn:n≤9) (hp:p≤100) (ha:16000≤a) (ha2:a≤30000) {Q:Post} {ρ:Env}
  (h0:bg [2,3,4,5,7,11,12] ρ=[(2,vr),(3,.pointer (some ⟨M,0,none⟩)),(4,.int .i64 n),(5,vt),(7,vp),(11,vd),(12,.int .i64 0)])
  (hQ : ∀ h':Heap,Nx s M vs W0 h' (o0.upd (6,0) (it T.bool vd (up (fun _=>up (aI s to n) n) n x0).1)) (up (fun _=>up (aI s to n) n) n x0).2→Q .normal [(2,vr),(3,.pointer (some ⟨M,0,none⟩)),(4,.int .i64 n),(5,vt),(7,vp),(11,vd),(12,.int .i64 n)] h') :
  LC.wp Try.prog (.block 6 (.loop L.aq.l4)) Q ρ h:=by
 simp only [aH]
 refine cR [2,3,4,5,7,11,12] (fun (_:Unit) j=>[vr,.pointer (some ⟨M,0,none⟩),.int .i64 n,vt,vp,vd,.int .i64 j]) (fun _ j h2=>Nx s M vs W0 h2 (o0.upd (6,0) (it T.bool vd (up (fun _=>up (aI s to n) n) j x0).1)) (up (fun _=>up (aI s to n) n) j x0).2) n ()
  rfl (by omega) h0 x (fun _ _=>rfl) (fun v k h2 hk2 x2=>by simp) ?_ ?_
 ·rintro _ t h2 hlt x2 K2 hK2
  have q2:=Du (s:=s) (to:=to) q (by omega) hp ha t
  have hbd:600*n*t≤5400*9:=Nat.mul_le_mul (by omega) (by omega)
  have e2:up (fun _=>up (aI s to n) n) (t+1) x0=up (aI s to n) n (up (fun _=>up (aI s to n) n) t x0):=rfl
  rw [e2] at hK2
  generalize up (fun _=>up (aI s to n) n) t x0=y at x2 hK2 q2
  simp only [aH]
  refine aa fun y hy=>?_
  simp
  rw [hy];clear hy y
  refine DE (vr:=vr) (vt:=vt) (vp:=vp) (vd:=vd) (t:=t) x2 hto htl f7 f90 f91 q2 (by omega) hp (by omega) (by omega) (by simp [bg,aj,al]) fun h3 x3=>?_
  simp
  exact hK2 () _ _ rfl rfl x3
 ·rintro _ h2 x2
  exact hQ h2 x2
end
end Go.Proofs.Ytbkdlhkoiagbbaa
namespace Go.Proofs.Ytbkdlhkoiagbbaa
open Go Go.Lft
variable {s:List Int}
theorem dI:1≤aC s∧aC s≤9:=by
 have:=a8 (s:=s) (at_:=1) (n:=9) (by decide)
 unfold aC;omega
theorem AN:((aC s:Nat):Int)=1+az s 1 9:=by
 have:=a8 (s:=s) (at_:=1) (n:=9) (by decide)
 unfold aC;omega
theorem xQ:(qe s).ok 4:=by
 have:=a8 (s:=s) (at_:=0) (n:=5) (by decide)
 refine ⟨by show 2≤4;omega,by show 0≤az s 0 5;omega,by show az s 0 5≤_;omega,by show 0≤4;omega,fun i=>?_⟩
 show (nth ([]:List BlkD) i).ins.length≤4
 rw [aR (by simp)]
 show 0≤4;omega
theorem vv:TgK (aC s) 112 (dN s):=by
 obtain ⟨h1,h2⟩:=dI (s:=s)
 have k1:TgK (aC s) 4 (List.replicate (aC s) [],qe s):=⟨by simp,fun i=>by
  rcases Nat.lt_or_ge i (aC s) with hi | hi
  ·rw [ao hi];show 0≤4;omega
  ·rw [aR (by simpa using hi)];show 0≤4;omega,xQ⟩
 exact (yK (s:=s) (vk (s:=s) k1 (aC s-1)) (aC s)).mono (by omega)
def nM (m m':MS):Prop:=m'.ps=m.ps∧m'.blocks=m.blocks∧m'.next=m.next∧m'.live=m.live
theorem CT {m:MS} {k:Nat} {x:TgS} (h:nM m x.2):nM m (tgA s k x).2:=by
 unfold tgA;split<;>exact h
theorem Cv {m:MS} {n b:Nat} {x:TgS} (h:nM m x.2):nM m (tgI s n b x).2:=by
 unfold tgI;simp only;repeat' split
 all_goals exact h
theorem Dc {m:MS} {n b:Nat} {x:TgS} (h:nM m x.2):nM m (tgB s n b x).2:=
 pV (fun x:TgS=>nM m x.2) (fun _ _ h=>Cv h) _ _ h
theorem nR:nM (qe s) (dN s).2:=
 pV (fun x:TgS=>nM (qe s) x.2) (fun _ _ h=>Dc h) _ _ (pV (fun x:TgS=>nM (qe s) x.2) (fun _ _ h=>CT h) _ _ ⟨rfl,rfl,rfl,rfl⟩)
theorem v8 {m:MS} {a n:Nat} {to:List (List Int)} (z:Sz n a 0 0 m) (g:Gd m) (pc : ∀ j,(nth m.blocks j).phis.length=0) (ht : ∀ j,(nth to j).length≤1000) : ∀ k,Sz n a 0 0 (up (fun b m=>MS.fe m b (nth to b)) k m)∧Gd (up (fun b m=>MS.fe m b (nth to b)) k m)
 | 0=>⟨z,g⟩
 | k+1=>by
  obtain ⟨h1,h2⟩:=v8 z g pc ht k
  exact ⟨h1.aQ (h1.phis k) (h1.ins k),h2.fe (ht k)⟩
theorem pK {n j:Nat}:(nth (List.replicate n my) j).phis.length=0∧(nth (List.replicate n my) j).ins.length=0:=by
 rcases Nat.lt_or_ge j n with hj | hj
 ·rw [ao hj];exact ⟨rfl,rfl⟩
 ·rw [aR (by simpa using hj)];exact ⟨rfl,rfl⟩
theorem wP:Sz (aC s) 200 0 0 (ju s)∧Gd (ju s):=by
 have k:=vv (s:=s)
 have e:=nR (s:=s)
 have t:=a8 (s:=s) (at_:=0) (n:=5) (by decide)
 refine v8 ⟨?_,?_,?_,?_,?_,?_,?_,fun j=>?_,fun j=>?_⟩ (fun j hj=>?_) (fun j=>(pK).1) (fun j=>by have:=k.row j;omega) _
 ·show (dN s).2.at_≤200;have:=k.ok.at_;omega
 ·exact k.ok.n0
 ·show (dN s).2.next≤_;have:=k.ok.next;omega
 ·show (dN s).2.live.length≤200;have:=k.ok.live;omega
 ·show 0≤(dN s).2.ps;rw [e.1];show 0≤az s 0 5;omega
 ·show (dN s).2.ps≤4;rw [e.1];show az s 0 5≤4;omega
 ·show (List.replicate (aC s) my).length=_;simp
 ·show (nth (List.replicate (aC s) my) j).phis.length≤0;rw [(pK).1];omega
 ·show (nth (List.replicate (aC s) my) j).ins.length≤0;rw [(pK).2];omega
 ·have hj:j<aC s:=by simpa using hj
  show GdB (nth (List.replicate (aC s) my) j)
  rw [ao hj]
  exact ⟨fun i h=>(by cases h),by show 0≤10;omega,by show 0≤1000;omega,fun i h=>(by cases h)⟩
theorem mC {m:MS} {b:Nat} (hb:b<m.blocks.length) : ∀ c j,(nth (up (fun _=>cE b) c m).blocks j).phis.length=(nth m.blocks j).phis.length+(if j=b then c else 0)∧(up (fun _=>cE b) c m).blocks.length=m.blocks.length
 | 0,j=>⟨by show (nth m.blocks j).phis.length=_;split<;>omega,rfl⟩
 | c+1,j=>by
  obtain ⟨h1,h2⟩:=mC hb c j
  obtain ⟨h3,_⟩:=mC hb c b
  have e:(up (fun _=>cE b) (c+1) m).blocks=(up (fun _=>cE b) c m).blocks.set b { nth (up (fun _=>cE b) c m).blocks b with phis:=(nth (up (fun _=>cE b) c m).blocks b).phis++[⟨(up (fun _=>cE b) c m).next,[]⟩] }:=rfl
  rw [e]
  refine ⟨?_,by rw [List.length_set];exact h2⟩
  rcases Nat.lt_or_ge j m.blocks.length with hl | hl
  ·rw [aF (by rw [h2];exact hl)]
   by_cases ej:b=j
   ·subst ej
    rw [if_pos rfl,if_pos rfl]
    rw [if_pos rfl] at h3
    show (_++[_]).length=_
    rw [List.length_append,h3,List.length_singleton];omega
   ·rw [if_neg ej,if_neg (fun q=>ej q.symm)]
    rw [if_neg (fun q=>ej q.symm)] at h1
    exact h1
  ·rw [aR (by rw [List.length_set,h2];exact hl),aR hl,if_neg (by omega)];rfl
theorem ud {n a:Nat} {x:List Int × MS} (p:Ph n a 0 x) (pc:Pc x.1 x.2) (g:Gd x.2) : ∀ k,k<n→Pc (up (cN s) k x).1 (up (cN s) k x).2∧Gd (up (cN s) k x).2
 | 0,_=>⟨pc,g⟩
 | k+1,hk=>by
  obtain ⟨h1,h2⟩:=ud p pc g k (by omega)
  have q:=vR (s:=s) p k
  have e:up (cN s) (k+1) x=cN s k (up (cN s) k x):=rfl
  rw [e]
  generalize up (cN s) k x=y at h1 h2 q
  obtain ⟨c0,c1⟩:=lx (s:=s) (m:=y.2) (b:=k+1)
  have hb:k+1<y.2.took.blocks.length:=by show k+1<y.2.blocks.length;rw [q.z.len];exact hk
  refine ⟨fun j=>?_,h2.took.jC _⟩
  have h3:=(mC hb (fu s y.2 (k+1)).toNat j).1
  show ((nth (up (fun _=>cE (k+1)) (fu s y.2 (k+1)).toNat y.2.took).blocks j).phis.length:Int)=nth (y.1.set (k+1) (fu s y.2 (k+1))) j
  rw [h3]
  have h4:=h1 j
  have h5:nth y.2.took.blocks j=nth y.2.blocks j:=rfl
  rw [h5]
  rcases Nat.lt_or_ge j y.1.length with hl | hl
  ·rw [aF hl]
   by_cases ej:k+1=j
   ·subst ej
    rw [if_pos rfl,if_pos rfl]
    rw [q.zero (k+1) (by omega)] at h4
    omega
   ·rw [if_neg ej,if_neg (fun r=>ej r.symm)]
    omega
  ·have e1:nth (y.1.set (k+1) (fu s y.2 (k+1))) j=default:=aR (by simpa using hl)
   have e2:nth y.1 j=default:=aR hl
   rw [e1]
   rw [e2] at h4
   have:=q.len
   rw [if_neg (by omega)]
   omega
theorem mJ:Ph (aC s) 200 (aC s-1) (eO s)∧Pc (eO s).1 (eO s).2∧Gd (eO s).2:=by
 obtain ⟨h1,h2⟩:=dI (s:=s)
 obtain ⟨z,g⟩:=wP (s:=s)
 have hz : ∀ j,nth (List.replicate (aC s) (0:Int)) j=0:=fun j=>by
  rcases Nat.lt_or_ge j (aC s) with hj | hj
  ·rw [ao hj]
  ·rw [aR (by simpa using hj)];rfl
 have p0:Ph (aC s) 200 0 (List.replicate (aC s) (0:Int),ju s):=⟨z,by simp,fun j _=>hz j,fun j=>by rw [hz];omega⟩
 have pc:Pc (List.replicate (aC s) (0:Int)) (ju s):=fun j=>by
  have:=z.phis j
  rw [hz];omega
 obtain ⟨q1,q2⟩:=ud (s:=s) p0 pc g (aC s-1) (by omega)
 exact ⟨vR p0 _,q1,q2⟩
theorem Gd.gq {to:List (List Int)} {n b:Nat} {dn:BL} {away:List BL} {m:MS} (g:Gd m) (ht:(nth to b).length≤1000):Gd (gq s to n dn away b m):=by
 have g1:Gd (MS.took { m with live:=js m dn away b n }):=g
 exact (Gd.dB g1 _).GU ht
theorem Gd.aI {to:List (List Int)} {n b:Nat} {x:BL × MS} (g:Gd x.2) (ht:(nth to b).length≤1000):Gd (aI s to n b x).2:=by
 unfold Go.Proofs.Ytbkdlhkoiagbbaa.aI
 split
 ·exact g.gq ht
 ·exact g
structure M4 (n a p:Nat) (lp:List Int) (x:BL × MS):Prop where
 b2:B2 n a p x
 gd:Gd x.2
 pc:Pc lp x.2
theorem M4.step {to:List (List Int)} {n a p b:Nat} {lp:List Int} {x:BL × MS} (q:M4 n a p lp x) (hb:b<n) (hn:n≤10) (hp:p≤100) (ha:16000≤a) (ht : ∀ j,(nth to j).length≤1000):M4 n (a+600) p lp (aI s to n b x):=
 ⟨oz q.b2 hb hn hp ha fun h=>kU h,q.gd.aI (ht b),q.pc.aI (by rw [q.b2.z.len];exact hb)⟩
theorem M4.blk {to:List (List Int)} {n a p:Nat} {lp:List Int} {x:BL × MS} (q:M4 n a p lp x) (hn:n≤10) (hp:p≤100) (ha:16000≤a) (ht : ∀ j,(nth to j).length≤1000) (k:Nat) (hk:k≤n):M4 n (a+600*k) p lp (up (Go.Proofs.Ytbkdlhkoiagbbaa.aI s to n) k x):=by
 induction k with
 | zero=>exact q
 | succ k ih=>
  have:=(ih (by omega)).step (s:=s) (to:=to) (b:=k) (by omega) hn hp (by omega) ht
  exact ⟨⟨this.b2.z.mono (by omega) (Nat.le_refl _) (Nat.le_refl _),this.b2.len,this.b2.none⟩,this.gd,this.pc⟩
theorem M4.turn {to:List (List Int)} {n a p:Nat} {lp:List Int} {x:BL × MS} (q:M4 n a p lp x) (hn:n≤10) (hp:p≤100) (ha:16000≤a) (ht : ∀ j,(nth to j).length≤1000) (k:Nat):M4 n (a+600*n*k) p lp (up (fun _=>up (Go.Proofs.Ytbkdlhkoiagbbaa.aI s to n) n) k x):=by
 induction k with
 | zero=>exact q
 | succ k ih=>
  have:=ih.blk (s:=s) (to:=to) hn hp (by omega) ht n (Nat.le_refl _)
  exact ⟨⟨this.b2.z.mono (by rw [Nat.mul_succ];omega) (Nat.le_refl _) (Nat.le_refl _),this.b2.len,this.b2.none⟩,this.gd,this.pc⟩
theorem xN:B2 (aC s) 16000 27 (List.replicate (aC s) false,(eO s).2):=by
 obtain ⟨h1,h2⟩:=dI (s:=s)
 obtain ⟨p,_,_⟩:=mJ (s:=s)
 refine ⟨p.z.mono (by omega) (by omega) (by omega),by simp,fun j hj _=>?_⟩
 have:=p.z.ins j
 show (nth (eO s).2.blocks j).ins.length=0;omega
theorem sJ:P3 (aC s) 70000 27 700 (kJ s).2∧Pc (eO s).1 (kJ s).2:=by
 obtain ⟨h1,h2⟩:=dI (s:=s)
 obtain ⟨p,pc,g⟩:=mJ (s:=s)
 have ht : ∀ j,(nth (dN s).1 j).length≤1000:=fun j=>by have:=(vv (s:=s)).row j;omega
 have q0:M4 (aC s) 16000 27 (eO s).1 (List.replicate (aC s) false,(eO s).2):=⟨xN,g,pc⟩
 have q:=q0.turn (s:=s) (to:=(dN s).1) (by omega) (by omega) (by omega) ht (aC s)
 have hbd:600*aC s*aC s≤5400*9:=Nat.mul_le_mul (by omega) (by omega)
 exact ⟨⟨q.b2.z.mono (by omega) (Nat.le_refl _) (Nat.le_refl _),q.gd⟩,q.pc⟩
theorem kG:P3 (aC s) 72000 27 1000 (fg s):=by
 obtain ⟨h1,h2⟩:=dI (s:=s)
 obtain ⟨p,_,_⟩:=mJ (s:=s)
 obtain ⟨q,pc⟩:=sJ (s:=s)
 have:=(uK (s:=s) q pc (fun j=>(p.rng j).2) h2 (aC s-1)).1
 exact this.mono (by omega) (Nat.le_refl _) (by omega)
theorem Dx:SmF (fX s):=(kG (s:=s)).g.smF (kG (s:=s)).z (by have:=dI (s:=s);omega) (by omega) (by omega)
theorem qz:0≤(fX s).params∧(fX s).params≤4:=⟨(kG (s:=s)).z.ps0,(kG (s:=s)).z.ps1⟩
theorem ye:1≤(fX s).blocks.length∧(fX s).blocks.length≤9:=by
 have:=dI (s:=s)
 rw [show (fX s).blocks.length=aC s from (kG (s:=s)).z.len]
 exact this
end Go.Proofs.Ytbkdlhkoiagbbaa
namespace Go.Proofs.Ytbkdlhkoiagbbaa
open Go Go.Lft
section
variable {s:List Int} {M:Nat} {vs:Value} {W:View} {h:Heap} {o:Own} {m:MS}
theorem MkB.boxed {vb vl:Value} {lb:List BlkM} (bb:MkB M vs m o vb vl lb) (m':MS) (h1:m'.blocks=m.blocks) (h2:m'.live=m.live):MkB M vs m' (o.upd (0,0) (bx T.aO M (RawN.mk (n:=5) (mkL vs m'.at_ m'.ps vb m'.next vl)))) vb vl lb:=
 ⟨rfl,by rw [h2];exact bb.live,bb.blk,by rw [h1];exact bb.len,by rw [h1];exact bb.term,by rw [h1];exact fun i hi=>bb.phis i hi,by rw [h1];exact fun i hi=>bb.ins i hi⟩
end
def gh (R:Nat) (i10:Own):Own:=fun k=>if k=(8,0) then bx T.aV R (RawN.mk (n:=1) [.int .i64 0,.slice none 0 0]) else if 10≤k.1 then i10 k else none
structure FnB (o:Own) (vb:Value) (lb:List BlkM) (f:ah):Prop where
 blk:o (0,2)=it T.aU vb lb
 len:lb.length=f.blocks.length
 term : ∀ i,i<f.blocks.length→(nth lb i).term=(nth f.blocks i).term
 phis : ∀ i,i<f.blocks.length→o (1,i)=it T.dm (nth lb i).phis.v (nth f.blocks i).phis
 ins : ∀ i,i<f.blocks.length→o (2,i)=it T.cV (nth lb i).ins.v (nth f.blocks i).ins
theorem BT {H:View} {vb:Value} {lb:List BlkM} {f:ah} (h0:SlRd H vb lb) (hl:lb.length=f.blocks.length) (ht : ∀ i,i<f.blocks.length→(nth lb i).term=(nth f.blocks i).term) (h1 : ∀ i,i<f.blocks.length→SlRd H (nth lb i).phis.v (nth f.blocks i).phis) (h2 : ∀ i,i<f.blocks.length→SlRd H (nth lb i).ins.v (nth f.blocks i).ins):SlRd H vb f.blocks:=by
 refine mZ h0 rfl hl fun i g1 g2 cs hr=>?_
 have:=wT hr (p:=(nth f.blocks i).phis) (i:=(nth f.blocks i).ins) (by have:=h1 i g2;rwa [ak g1] at this) (by have:=h2 i g2;rwa [ak g1] at this)
 have ht:=ht i g2
 rw [ak g1] at ht
 rw [ht] at this
 rw [←ak g2]
 exact this
theorem FnB.rd {W:View} {h:Heap} {o:Own} {vb:Value} {lb:List BlkM} {f:ah} (b:FnB o vb lb f) (w:Owns W h o):SlRd (vw h) vb f.blocks:=
 BT (w.now b.blk) b.len b.term (fun i hi=>w.now (b.phis i hi)) fun i hi=>w.now (b.ins i hi)
theorem FnB.freeze {W:View} {h:Heap} {o o0:Own} {vb:Value} {lb:List BlkM} {f:ah} (b:FnB o vb lb f) (w:Owns W h o) (ho : ∀ k:Key,3≤k.1→o k=o0 k) (ho0 : ∀ k:Key,k.1<3→o0 k=none) : ∃ W',W.le W'∧Owns W' h o0∧SlRd W' vb f.blocks:=by
 obtain ⟨W17,hW17,w17,fr⟩:=w.pB (fun k=>decide (k.1<3))
 refine ⟨W17,hW17,w17.sub fun k i hk=>?_,BT (fr (k:=(0,2)) (by simp) b.blk) b.len b.term (fun i hi=>fr (k:=(1,i)) (by simp) (b.phis i hi)) fun i hi=>fr (k:=(2,i)) (by simp) (b.ins i hi)⟩
 rcases Nat.lt_or_ge k.1 3 with e | e
 ·rw [ho0 k e] at hk;cases hk
 ·have h2:¬k.1<3:=by omega
  simp only [h2,decide_false,Bool.false_eq_true,if_false]
  rw [ho k e];exact hk
theorem C8 {s:List Int} {vs:Value} {h:Heap} {W:View} {o0:Own} (w0:Owns W h o0) (ho0 : ∀ k:Key,k.1<10→o0 k=none) (hs:SlRd W vs s) :
  aD Try.prog N.aq #[vs] h (fun u h'=>∃ W' o vb lb,W.le W'∧Owns W' h' o∧(∀ k:Key,3≤k.1→o k=o0 k)∧FnB o vb lb (fX s)∧u = .agg #[.int .i64 (fX s).params,vb]):=by
 refine ar (args:=[vs]) follows F.aq E.aq (Nat.le_of_ble_eq_true (by kernel_rfl)) fun K hK=>?_
 have hs0:=hs
 obtain ⟨sa,sc,rfl,_⟩:=hs0
 dsimp only [L.aq]
 refine aa fun z hz=>?_
 simp
 refine w0.mY (k:=(8,0)) (n:=1) (z:=.agg #[.int .i64 0,.slice none 0 0]) (ho0 _ (by decide)) (by kernel_rfl) rfl (by decide) (by simp [Value.cells,Value.oneCell']) fun h1 q1 w1=>?_
 generalize h.size=R at w1
 rw [hz];clear hz z
 refine aa fun z hz=>?_
 simp
 refine aP (z:=.agg #[.slice none 0 0,.int .i64 0,.int .i64 0,.slice none 0 0,.int .i64 0,.slice none 0 0]) (places:=[(0,1),(1,1),(2,2),(4,1),(5,1)]) (vs:=[(0,.slice sa s.length sc)]) (cs:=#[.slice sa s.length sc,.int .i64 0,.int .i64 0,.slice none 0 0,.int .i64 0,.slice none 0 0]) (by kernel_rfl) (by kernel_rfl) (by simp) (by rfl) ?_
 generalize s.length=sl at hs
 refine ln rfl ?_
 have hbx:(h1.push (.cells (Value.agg #[.slice sa sl sc,.int .i64 0,.int .i64 0,.slice none 0 0,.int .i64 0,.slice none 0 0]).cells T.aO))[h1.size]? = some (.cells (Value.agg #[.slice sa sl sc,.int .i64 0,.int .i64 0,.slice none 0 0,.int .i64 0,.slice none 0 0]).cells T.aO (0,0)):=by simp
 have hle2:=bK h1 (.cells (Value.agg #[.slice sa sl sc,.int .i64 0,.int .i64 0,.slice none 0 0,.int .i64 0,.slice none 0 0]).cells T.aO)
 have hbg : ∀ b,(Value.slice (some ⟨h1.size,0,none⟩) 1 1).ownBlock=some b→h1.size≤b:=fun b hb=>by simp only [Value.ownBlock,Option.some.injEq] at hb;omega
 show LC.wp Try.prog z _ _ (h1.push (.cells (Value.agg #[.slice sa sl sc,.int .i64 0,.int .i64 0,.slice none 0 0,.int .i64 0,.slice none 0 0]).cells T.aO))
 generalize h1.push (.cells (Value.agg #[.slice sa sl sc,.int .i64 0,.int .i64 0,.slice none 0 0,.int .i64 0,.slice none 0 0]).cells T.aO)=h2 at hbx hle2
 have w2:=w1.add (k:=(0,0)) ((Own.ab (by simp)).trans (ho0 _ (by decide))) (jY (W:=W) (d:=RawN.mk (n:=5) [.slice sa sl sc,.int .i64 0,.int .i64 0,.slice none 0 0,.int .i64 0,.slice none 0 0]) hbx (gS rfl (by simp [Value.oneCell'])) (by decide)) hle2 hbg
 generalize h1.size=M at w2
 generalize hvs:Value.slice sa sl sc=vs at hs w2
 obtain ⟨m0,hm0⟩ : ∃ m0:MS,m0=⟨0,0,[],0,[]⟩:=⟨_,rfl⟩
 obtain ⟨o2,ho2⟩ : ∃ o2:Own,o2=fun k=>if k=(0,0) then bx T.aO M (RawN.mk (n:=5) (mkL vs 0 0 (.slice none 0 0) 0 (.slice none 0 0))) else if k=(0,1) then it T.int (.slice none 0 0) ([]:List Int) else if k=(0,2) then it T.aU (.slice none 0 0) ([]:List BlkM) else gh R o0 k:=⟨_,rfl⟩
 have w2:Owns W h2 o2:=w2.nils fun k i hk=>by
  rw [ho2] at hk
  dsimp only at hk
  split at hk
  ·rename_i e;rw [e];exact .inl hk
  ·rename_i e0
   split at hk
   ·cases hk;exact .inr ⟨rfl,OwnT.nil (α:=Int) _ _ _⟩
   ·split at hk
    ·cases hk;exact .inr ⟨rfl,OwnT.nil (α:=BlkM) _ _ _⟩
    ·refine .inl ?_
     rw [Own.ab e0]
     by_cases e8:k=(8,0)
     ·subst e8;exact hk
     ·rw [Own.ab e8]
      unfold gh at hk;rw [if_neg e8] at hk
      split at hk
      ·exact hk
      ·cases hk
 have w2:Mk s M vs W h2 o2 m0:=⟨w2,hs,.slice none 0 0,.slice none 0 0,[],by rw [ho2,hm0];rfl,by rw [ho2,hm0];rfl,by rw [ho2];rfl,by rw [hm0];rfl,fun i hi=>by rw [hm0] at hi;simp at hi,fun i hi=>by rw [hm0] at hi;simp at hi,fun i hi=>by rw [hm0] at hi;simp at hi⟩
 have f2 : ∀ k:Key,3≤k.1→o2 k=gh R o0 k:=fun k hk=>by
  rw [ho2]
  dsimp only
  rw [if_neg (by rintro rfl;simp at hk),if_neg (by rintro rfl;simp at hk),if_neg (by rintro rfl;simp at hk)]
 clear w1 hbx hbg hle2 q1 ho2
 rw [hz];clear hz z
 refine aa fun z hz=>?_
 simp
 refine ae (by kernel_rfl) (w2.take (by rw [hm0];decide) (n:=5) (by decide) (by decide)) ?_
 rintro _ h3 ⟨rfl,o3,w3,f3⟩
 have tv:=a8 (s:=s) (at_:=m0.at_) (n:=5) (by decide)
 obtain ⟨vb,vl,lb,bb⟩:=w3.box
 refine w3.own.cm (k:=(0,0)) (n:=5) (i:=2) (e:=T.aO) (B:=M) (l:=mkL vs m0.took.at_ m0.took.ps vb m0.took.next vl) bb.box (by decide) (by kernel_rfl) rfl rfl rfl fun h4 w4 _=>?_
 have b4:=bb.boxed ⟨m0.took.at_,az s m0.at_ 5,m0.took.blocks,m0.took.next,m0.took.live⟩ rfl rfl
 rw [hz];clear hz z
 refine aa fun z hz=>?_
 have w4:Mk s M vs W h4 _ _:=⟨w4,w3.src,vb,vl,lb,b4⟩
 have rd:=w4.reads b4
 simp [rd.ps]
 refine w4.own.cm (k:=(0,0)) (n:=5) (i:=4) (e:=T.aO) (B:=M) (l:=mkL vs m0.took.at_ (az s m0.at_ 5) vb m0.took.next vl) b4.box (by decide) (by kernel_rfl) rfl rfl rfl fun h5 w5 _=>?_
 have b5:=b4.boxed ⟨m0.took.at_,az s m0.at_ 5,m0.took.blocks,az s m0.at_ 5,m0.took.live⟩ rfl rfl
 have w5:Mk s M vs W h5 _ _:=⟨w5,w3.src,vb,vl,lb,b5⟩
 obtain ⟨o5,ho5⟩ : ∃ o5,o5=(o3.upd (0,0) (bx T.aO M (RawN.mk (n:=5) (mkL vs m0.took.at_ (az s m0.at_ 5) vb m0.took.next vl)))).upd (0,0) (bx T.aO M (RawN.mk (n:=5) (mkL vs m0.took.at_ (az s m0.at_ 5) vb (az s m0.at_ 5) vl))):=⟨_,rfl⟩
 have f5 : ∀ k:Key,3≤k.1→o5 k=gh R o0 k:=fun k hk=>by
  rw [ho5,Own.ab (by rintro rfl;simp at hk),Own.ab (by rintro rfl;simp at hk),f3 k hk,f2 k hk]
 rw [hm0] at w5
 have w5:Mk s M vs W h5 o5 ⟨1,az s 0 5,[],az s 0 5,[]⟩:=by rw [ho5,hm0];exact w5
 clear b5 b4 rd w4 bb w3 f3 w2 f2 ho5 hvs
 rw [hz];clear hz z
 refine aa fun z hz=>?_
 simp
 refine ae (by kernel_rfl) (w5.take (show 1≤_ by omega) (n:=9) (by decide) (by decide)) ?_
 rintro _ h6 ⟨rfl,o6,w6,f6⟩
 have w6:Mk s M vs W h6 o6 (qe s):=w6
 have f6 : ∀ k:Key,3≤k.1→o6 k=gh R o0 k:=fun k hk=>(f6 k hk).trans (f5 k hk)
 clear w5 f5
 have hN:=AN (s:=s)
 obtain ⟨n1,n2⟩:=dI (s:=s)
 have hw:IntKind.i64.wrap (1+az s 1 9)=(aC s:Nat):=by rw [hN];exact bV (by omega) (by omega)
 simp [hw]
 rw [hz];clear hz z
 refine aa fun z hz=>?_
 simp
 refine ae (by kernel_rfl) (yz (ri:=gh R o0) w6 (fun k hk=>f6 k (by omega)) (fun k h1 h2=>(f6 k h1).trans (by unfold gh;rw [if_neg (by rintro rfl;simp at h2),if_neg (by omega)])) (n:=aC s) xQ (by omega) n1 (by omega)) ?_
 rintro vt h7 ⟨W7,o7,g7,w7,r7,e7,st⟩
 have w7:Mk s M vs W7 h7 o7 (dN s).2:=w7
 have st:SlRd W7 vt (dN s).1:=st
 have f7 : ∀ k:Key,3≤k.1→o7 k=gh R o0 k:=fun k hk=>by
  by_cases e:8≤k.1
  ·exact r7 k e
  ·rw [e7 k hk (by omega)];unfold gh;rw [if_neg (by rintro rfl;simp at e),if_neg (by omega)]
 clear r7 e7 w6 f6
 have k1:=vv (s:=s)
 have s4:=nR (s:=s)
 rw [hz];clear hz z
 refine aa fun z hz=>?_
 simp
 refine ll (α:=BlkM) (W:=W7) (k:=.i64) (n:=aC s) (d:=⟨⟨.slice none 0 0⟩,⟨.slice none 0 0⟩,⟨0,[],[],⟨0⟩⟩⟩) El.ia (by rfl) (by rfl) ⟨[.slice none 0 0],_,rfl,⟨rfl,rfl⟩,[.slice none 0 0],_,rfl,⟨rfl,rfl⟩,[.int .i64 0],_,rfl,⟨rfl,by decide,by decide⟩,[.slice none 0 0],_,rfl,⟨_,rfl,fo⟩,[.slice none 0 0],_,rfl,⟨_,rfl,fo⟩,rfl,by decide,by decide⟩ (by omega) (by omega) fun vb8 h8 ob8 m8 hle8 hb8=>?_
 obtain ⟨vb,vl,lb,bb⟩:=w7.box
 have wa:=w7.own.sub (o':=o7.upd (0,2) none) fun j i hj=>by
  unfold Own.upd at hj
  split at hj
  ·cases hj
  ·exact hj
 have wb:=wa.add (k:=(0,2)) Own.af ob8 hle8 (fun b hb=>by rw [hb8] at hb;cases hb;exact Nat.le_refl _)
 have hv8:=(wb.cells (k:=(0,2)) Own.af).2
 obtain ⟨o8,ho8⟩ : ∃ o8:Own,o8=fun k=>if k.1=1∧k.2<aC s then it T.dm (.slice none 0 0) ([]:List PhiD) else if k.1=2∧k.2<aC s then it T.cV (.slice none 0 0) ([]:List InsD) else o7.upd (0,2) (it T.aU vb8 (List.replicate (aC s) (BlkM.mk ⟨.slice none 0 0⟩ ⟨.slice none 0 0⟩ ⟨0,[],[],⟨0⟩⟩))) k:=⟨_,rfl⟩
 have w8:Owns W7 h8 o8:=wb.nils fun k i hk=>by
  rw [ho8] at hk
  dsimp only at hk
  split at hk
  ·cases hk;exact .inr ⟨rfl,OwnT.nil (α:=PhiD) _ _ _⟩
  ·split at hk
   ·cases hk;exact .inr ⟨rfl,OwnT.nil (α:=InsD) _ _ _⟩
   ·refine .inl ?_
    by_cases e:k=(0,2)
    ·subst e;rw [Own.af] at hk ⊢;exact hk
    ·rw [Own.ab e] at hk;rw [Own.ab e,Own.ab e];exact hk
 have c8 : ∀ k:Key,¬(k.1=1∧k.2<aC s)→¬(k.1=2∧k.2<aC s)→o8 k=o7.upd (0,2) (it T.aU vb8 (List.replicate (aC s) (BlkM.mk ⟨.slice none 0 0⟩ ⟨.slice none 0 0⟩ ⟨0,[],[],⟨0⟩⟩))) k:=fun k h1 h2=>by
  rw [ho8];dsimp only;rw [if_neg h1,if_neg h2]
 refine w8.cm (k:=(0,0)) (n:=5) (i:=3) (e:=T.aO) (B:=M) (l:=mkL vs (dN s).2.at_ (dN s).2.ps vb (dN s).2.next vl) (by rw [c8 _ (by simp) (by simp),Own.ab (by simp)];exact bb.box) (by decide) (by kernel_rfl) rfl rfl hv8 fun h9 w9 _=>?_
 obtain ⟨o9,ho9⟩ : ∃ o9:Own,o9=o8.upd (0,0) (bx T.aO M (RawN.mk (n:=5) (mkL vs (dN s).2.at_ (dN s).2.ps vb8 (dN s).2.next vl))):=⟨_,rfl⟩
 have w9:Owns W7 h9 o9:=by rw [ho9];exact w9
 have b9:MkB M vs { (dN s).2 with blocks:=List.replicate (aC s) my } o9 vb8 vl (List.replicate (aC s) (BlkM.mk ⟨.slice none 0 0⟩ ⟨.slice none 0 0⟩ ⟨0,[],[],⟨0⟩⟩)):=by
  rw [ho9]
  refine ⟨rfl,?_,?_,by simp,fun i hi=>?_,fun i hi=>?_,fun i hi=>?_⟩
  ·rw [Own.ab (by simp),c8 _ (by simp) (by simp),Own.ab (by simp)];exact bb.live
  ·rw [Own.ab (by simp),c8 _ (by simp) (by simp),Own.af]
  ·have hi:i<aC s:=by simpa using hi
   rw [ao hi,ao hi];rfl
  ·have hi:i<aC s:=by simpa using hi
   rw [Own.ab (by simp),ho8];dsimp only
   rw [if_pos ⟨rfl,hi⟩,ao hi,ao hi];rfl
  ·have hi:i<aC s:=by simpa using hi
   rw [Own.ab (by simp),ho8];dsimp only
   rw [if_neg (by simp),if_pos ⟨rfl,hi⟩,ao hi,ao hi];rfl
 have x9:Nx s M vs W7 h9 (gh R o0) { (dN s).2 with blocks:=List.replicate (aC s) my }:=⟨W7,o9,View.le_refl _,⟨w9,w7.src,vb8,vl,_,b9⟩,fun k hk=>by
  rw [ho9,Own.ab (by rintro rfl;simp at hk),c8 _ (by omega) (by omega),Own.ab (by rintro rfl;simp at hk)];exact f7 k hk⟩
 clear b9 w9 ho9 c8 w8 ho8 wb wa hv8 bb ob8 m8 hle8 hb8 w7 f7
 rw [hz];clear hz z
 refine aa fun z hz=>?_
 refine aa fun y hy=>?_
 simp
 rw [hy];clear hy y
 refine Eo (vr:=.pointer (some ⟨R,0,none⟩)) st k1.len x9 (by simp) (by omega) (by simp [bg,aj,al]) fun h10 x10=>?_
 have x10:Nx s M vs W7 h10 (gh R o0) (ju s):=x10
 clear x9
 simp
 rw [hz];clear hz z
 refine aa fun z hz=>?_
 simp
 obtain ⟨Wa,oa,ga,wa,fa⟩:=x10
 refine ll (α:=Int) (W:=Wa) (k:=.i64) (n:=aC s) (d:=0) El.bc (by rfl) (by rfl) ⟨rfl,by decide,by decide⟩ (by omega) (by omega) fun vp h11 ob11 m11 hle11 hb11=>?_
 have x11:Nx s M vs W7 h11 ((gh R o0).upd (5,0) (it T.int vp (List.replicate (aC s) (0:Int)))) (ju s):=by
  have w11:=wa.own.add (k:=(5,0)) ((fa _ (by decide)).trans rfl) ob11 hle11 (fun b hb=>by rw [hb11] at hb;cases hb;exact Nat.le_refl _)
  obtain ⟨vb,vl,lb,bb⟩:=wa.box
  refine ⟨Wa,_,ga,⟨w11,wa.src,vb,vl,lb,bb.frame fun q hq=>Own.ab (by rintro rfl;simp at hq)⟩,fun q hq=>?_⟩
  unfold Own.upd
  split
  ·rfl
  ·exact fa q hq
 clear wa fa ob11 m11 hb11
 rw [hz];clear hz z
 refine aa fun z hz=>?_
 refine aa fun y hy=>?_
 simp
 rw [hy];clear hy y
 obtain ⟨z2,g2⟩:=wP (s:=s)
 have p0:Ph (aC s) 200 0 (List.replicate (aC s) (0:Int),ju s):=by
  have hz : ∀ j,nth (List.replicate (aC s) (0:Int)) j=0:=fun j=>by
   rcases Nat.lt_or_ge j (aC s) with hj | hj
   ·rw [ao hj]
   ·rw [aR (by simpa using hj)];rfl
  exact ⟨z2,by simp,fun j _=>hz j,fun j=>by show 0≤nth (List.replicate _ (0:Int)) j∧nth (List.replicate _ (0:Int)) j≤3;rw [hz];omega⟩
 refine Ey (x0:=(List.replicate (aC s) (0:Int),ju s)) (vr:=.pointer (some ⟨R,0,none⟩)) (vt:=vt) (vp:=vp) x11 p0 n1 (by omega) (by omega) (by simp [bg,aj,al]) fun h12 x12=>?_
 have x12:Nx s M vs W7 h12 ((gh R o0).upd (5,0) (it T.int vp (eO s).1)) (eO s).2:=x12
 obtain ⟨ph,pc,g3⟩:=mJ (s:=s)
 clear p0 x11 z2 g2
 simp
 rw [hz];clear hz z
 refine aa fun z hz=>?_
 simp
 obtain ⟨Wa,oa,ga,wa,fa⟩:=x12
 refine ll (α:=Bool) (W:=Wa) (k:=.i64) (n:=aC s) (d:=false) El.lj (by rfl) (by rfl) rfl (by omega) (by omega) fun vd h13 ob13 m13 hle13 hb13=>?_
 have x13:Nx s M vs W7 h13 (((gh R o0).upd (5,0) (it T.int vp (eO s).1)).upd (6,0) (it T.bool vd (List.replicate (aC s) false))) (eO s).2:=by
  have w13:=wa.own.add (k:=(6,0)) ((fa _ (by decide)).trans rfl) ob13 hle13 (fun b hb=>by rw [hb13] at hb;cases hb;exact Nat.le_refl _)
  obtain ⟨vb,vl,lb,bb⟩:=wa.box
  refine ⟨Wa,_,ga,⟨w13,wa.src,vb,vl,lb,bb.frame fun q hq=>Own.ab (by rintro rfl;simp at hq)⟩,fun q hq=>?_⟩
  unfold Own.upd
  split
  ·rfl
  ·exact fa q hq
 clear wa fa ob13 m13 hb13
 rw [hz];clear hz z
 refine aa fun z hz=>?_
 refine aa fun y hy=>?_
 simp
 rw [hy];clear hy y
 refine DI (a:=16000) (p:=27) (x0:=(List.replicate (aC s) false,(eO s).2)) (vr:=.pointer (some ⟨R,0,none⟩)) (vp:=vp) x13 st k1.len rfl rfl rfl xN n2 (by omega) (by omega) (by omega) (by simp [bg,aj,al]) fun h14 x14=>?_
 have x14:Nx s M vs W7 h14 (((gh R o0).upd (5,0) (it T.int vp (eO s).1)).upd (6,0) (it T.bool vd (kJ s).1)) (kJ s).2:=x14
 obtain ⟨q4,pc4⟩:=sJ (s:=s)
 clear x13 pc g3
 simp
 rw [hz];clear hz z
 refine aa fun z hz=>?_
 refine aa fun y hy=>?_
 simp
 rw [hy];clear hy y
 refine BG (vr:=.pointer (some ⟨R,0,none⟩)) (vt:=vt) (vp:=vp) (vd:=vd) (lp:=(eO s).1) x14 ((Own.ab (by simp)).trans Own.af) rfl rfl q4 pc4 ph.len ph.rng n1 n2 (by omega) (by omega) (by omega) (by omega) (by simp [bg,aj,al]) fun h15 x15=>?_
 have x15:Nx s M vs W7 h15 (((gh R o0).upd (5,0) (it T.int vp (eO s).1)).upd (6,0) (it T.bool vd (kJ s).1)) (fg s):=x15
 have q5:=kG (s:=s)
 clear x14 q4 pc4 ph
 simp
 rw [hz];clear hz z
 refine aa fun z hz=>?_
 obtain ⟨Wa,oa,ga,wa,fa⟩:=x15
 obtain ⟨vb,vl,lb,bb⟩:=wa.box
 have rd:=wa.reads bb
 simp [rd.f]
 have hvb:vb.oneCell'=true:=rd.blk.cells.2
 refine wa.own.ji (k:=(8,0)) (α:=RawN 1) (β:=RawN 1) Part.all (B:=R) (D:=RawN.mk (n:=1) [.int .i64 0,.slice none 0 0]) (d:=RawN.mk (n:=1) [.int .i64 (fg s).ps,vb]) ((fa _ (by decide)).trans rfl) (by kernel_rfl) rfl rfl (gS rfl (by intro c hc;simp only [List.mem_cons,List.not_mem_nil,or_false] at hc;rcases hc with rfl | rfl<;>first | rfl | exact hvb)) fun h16 w16 _=>?_
 have c16:=w16.fN (k:=(8,0)) (n:=1) (l:=[.int .i64 (fg s).ps,vb]) Own.af
 have c16:Un.ev (vw h16) (.au 2) (.pointer (some ⟨R,0,none⟩))=some (.agg #[.int .i64 (fg s).ps,vb]):=c16
 have b16:=bb.frame (o':=oa.upd (8,0) (bx T.aV R (RawN.mk (n:=1) [.int .i64 (fg s).ps,vb]))) fun q hq=>Own.ab (by rintro rfl;simp at hq)
 have w16:Mk s M vs Wa h16 _ (fg s):=⟨w16,wa.src,vb,vl,lb,b16⟩
 have rd16:=w16.reads b16
 rw [hz];clear hz z
 simp [c16]
 refine hK _ _ ⟨Wa,fun k=>if 3≤k.1 then o0 k else if k=(0,2)∨k.1=1∨k.1=2 then oa k else none,vb,lb,View.le_trans g7 ga,w16.own.sub fun k i hk=>?_,fun k hk=>if_pos hk,⟨?_,b16.len,b16.term,fun i hi=>?_,fun i hi=>?_⟩,rfl⟩
 ·split at hk
  ·rename_i e3
   rcases Nat.lt_or_ge k.1 10 with e | e
   ·rw [ho0 k e] at hk;cases hk
   ·have h1:oa k=o0 k:=(fa k (by omega)).trans (by
     rw [Own.ab (by rintro rfl;simp at e),Own.ab (by rintro rfl;simp at e)]
     unfold gh;rw [if_neg (by rintro rfl;simp at e),if_pos e])
    rw [Own.ab (by rintro rfl;simp at e),h1];exact hk
  ·rename_i e3
   split at hk
   ·rw [Own.ab (by rintro rfl;simp at e3)];exact hk
   ·cases hk
 ·have:=b16.blk
  rw [Own.ab (by simp)] at this
  simpa using this
 ·have:=b16.phis i hi
  rw [Own.ab (by simp)] at this
  exact (by simp:_=oa (1,i)).trans this
 ·have:=b16.ins i hi
  rw [Own.ab (by simp)] at this
  exact (by simp:_=oa (2,i)).trans this
theorem DJ {s:List Int} {vs:Value} {h:Heap} {W:View} {o0:Own} (w0:Owns W h o0) (ho0 : ∀ k:Key,k.1<10→o0 k=none) (hs:SlRd W vs s) :
  aD Try.prog N.aq #[vs] h (fun u h'=>∃ W',W.le W'∧Owns W' h' o0∧Rd W' u (fX s)):=by
 refine (C8 w0 ho0 hs).mono ?_
 rintro u h' ⟨W1,o,vb,lb,hW,w,ho,b,rfl⟩
 obtain ⟨W2,hW2,w2,sb⟩:=b.freeze w ho fun k hk=>ho0 k (by omega)
 have mp:=qz (s:=s)
 have mi:I64 (fX s).params:=⟨by omega,by omega⟩
 exact ⟨W2,View.le_trans hW hW2,w2,⟨_,rfl,[.int .i64 (fX s).params],[vb],rfl,⟨rfl,mi⟩,vb,rfl,sb⟩⟩
end Go.Proofs.Ytbkdlhkoiagbbaa
namespace Go.Proofs.Ytbkdlhkoiagbbaa
open Go Go.Lft
theorem dk {l:List BlkD}:(ofG l).length=l.length:=by simp [ofG]
theorem dh {l:List BlkD} {a b:Int}:gj (ofG l) a b=true↔(0≤a∧a<l.length∧0≤b∧b<l.length)∧b∈(nth l a.toNat).term.to:=by
 rw [dV,dk]
 constructor
 ·rintro ⟨h,hm⟩
  rw [ofG,dD (by omega),pN] at hm
  exact ⟨h,hm.1⟩
 ·rintro ⟨h,hm⟩
  refine ⟨h,?_⟩
  rw [ofG,dD (by omega),pN]
  exact ⟨hm,h.2.2.1,h.2.2.2⟩
structure Rb (f:ah) (wo:Int) (s:RSt):Prop where
 ok:ROk f.blocks.length s
 seen : ∀ b:Nat,b<f.blocks.length→(nth s.1 b=true↔(b:Int)∈s.2)
 sound : ∀ x∈s.2,Re (ofG f.blocks) wo x.toNat
theorem Gx {f:ah} {wo a:Int} {k:Nat} {s:RSt} (h:Rb f wo s) (h0:0≤a) (h1:a<f.blocks.length) (ha:Re (ofG f.blocks) wo a.toNat) (hk:k<(nth f.blocks a.toNat).term.to.length) :
  Rb f wo (iG wo (nth f.blocks a.toNat).term.to k s)∧s.2 <+: (iG wo (nth f.blocks a.toNat).term.to k s).2∧
   (0≤nth (nth f.blocks a.toNat).term.to k→nth (nth f.blocks a.toNat).term.to k<f.blocks.length→nth (nth f.blocks a.toNat).term.to k≠wo→nth (nth f.blocks a.toNat).term.to k∈(iG wo (nth f.blocks a.toNat).term.to k s).2):=by
 have hok:=xZ (wo:=wo) (to:=(nth f.blocks a.toNat).term.to) (k:=k) h.ok
 have hm:=bQ hk
 unfold iG at hok ⊢
 generalize hto:(nth f.blocks a.toNat).term.to=to at hm hok ⊢
 split
 ·rename_i hc
  rw [if_pos hc] at hok
  obtain ⟨⟨c1,c2⟩,c3,c4⟩:=hc
  rw [h.ok.len] at c2
  have hb:((nth to k).toNat:Int)=nth to k:=Int.toNat_of_nonneg c1
  refine ⟨⟨hok,fun b hb=>?_,fun x hx=>?_⟩,List.prefix_append _ _,fun _ _ _=>List.mem_append_right _ (List.mem_singleton.2 rfl)⟩
  ·rw [List.mem_append,List.mem_singleton]
   by_cases he:b=(nth to k).toNat
   ·subst he
    rw [aF (by rw [h.ok.len];omega),if_pos rfl]
    exact ⟨fun _=>.inr (Int.toNat_of_nonneg c1),fun _=>rfl⟩
   ·rw [aF (by rw [h.ok.len];exact hb),if_neg (fun e=>he e.symm),h.seen b hb]
    exact ⟨.inl,fun e=>e.resolve_right (by omega)⟩
  ·rcases List.mem_append.1 hx with hx | hx
   ·exact h.sound x hx
   ·rw [List.mem_singleton.1 hx]
    refine .step ha ?_ (by rw [hb];exact c4)
    rw [dh,hb]
    exact ⟨⟨by omega,by omega,c1,c2⟩,by rw [Int.toNat_natCast,hto];exact hm⟩
 ·rename_i hc
  rw [if_neg hc] at hok
  refine ⟨h,List.prefix_refl _,fun c1 c2 c4=>?_⟩
  have hb:((nth to k).toNat:Int)=nth to k:=Int.toNat_of_nonneg c1
  rw [←hb,←h.seen _ (by omega)]
  cases e:nth s.1 (nth to k).toNat with
  | true=>rfl
  | false=>exact absurd ⟨⟨c1,by rw [h.ok.len];exact c2⟩,e,c4⟩ hc
theorem Bk {f:ah} {wo a:Int} {s:RSt} (h:Rb f wo s) (h0:0≤a) (h1:a<f.blocks.length) (ha:Re (ofG f.blocks) wo a.toNat) : ∀ m,m≤(nth f.blocks a.toNat).term.to.length→
  Rb f wo (up (iG wo (nth f.blocks a.toNat).term.to) m s)∧s.2 <+: (up (iG wo (nth f.blocks a.toNat).term.to) m s).2∧
   ∀ k,k<m→0≤nth (nth f.blocks a.toNat).term.to k→nth (nth f.blocks a.toNat).term.to k<f.blocks.length→nth (nth f.blocks a.toNat).term.to k≠wo→nth (nth f.blocks a.toNat).term.to k∈(up (iG wo (nth f.blocks a.toNat).term.to) m s).2
 | 0,_=>⟨h,List.prefix_refl _,fun k hk=>by omega⟩
 | m+1,hm=>by
  obtain ⟨i1,i2,i3⟩:=Bk h h0 h1 ha m (by omega)
  obtain ⟨j1,j2,j3⟩:=Gx (k:=m) i1 h0 h1 ha (by omega)
  rw [up]
  refine ⟨j1,i2.trans j2,fun k hk c1 c2 c3=>?_⟩
  rcases Nat.lt_or_ge k m with hlt | hge
  ·exact j2.subset (i3 k hlt c1 c2 c3)
  ·have:k=m:=by omega
   subst this;exact j3 c1 c2 c3
structure Rc (f:ah) (wo:Int) (i:Nat) (s:RSt):Prop where
 b:Rb f wo s
 root:wo≠0→0<f.blocks.length→(0:Int)∈s.2
 done : ∀ j,j<i→j<s.2.length→∀ b:Nat,gj (ofG f.blocks) (nth s.2 j) b=true→(b:Int)≠wo→(b:Int)∈s.2
theorem zz {α:Type} [Inhabited α] {a b:List α} (h:a <+: b) {i:Nat} (hi:i<a.length):nth b i=nth a i:=by
 obtain ⟨t,rfl⟩:=h
 rw [ak (by simp;omega),ak hi,List.getElem_append_left hi]
theorem Eh {f:ah} {wo:Int} {i:Nat} {s:RSt} (h:Rc f wo i s) (hi:i<s.2.length):Rc f wo (i+1) (rj f wo i s)∧s.2 <+: (rj f wo i s).2:=by
 have hm:=bQ hi
 obtain ⟨h0,h1⟩:=h.b.ok.rng _ hm
 have hre:=h.b.sound _ hm
 obtain ⟨i1,i2,i3⟩:=Bk h.b h0 h1 hre _ (Nat.le_refl _)
 have he:rj f wo i s=up (iG wo (nth f.blocks (nth s.2 i).toNat).term.to) (nth f.blocks (nth s.2 i).toNat).term.to.length s:=rfl
 rw [←he] at i1 i2 i3
 refine ⟨⟨i1,fun a b=>i2.subset (h.root a b),fun j hj hjl b hb hne=>?_⟩,i2⟩
 rcases Nat.lt_or_ge j i with hlt | hge
 ·rw [zz i2 (by omega)] at hb
  exact i2.subset (h.done j hlt (by omega) b hb hne)
 ·have:j=i:=by omega
  subst this
  rw [zz i2 hi,dh] at hb
  obtain ⟨⟨_,_,q1,q2⟩,hmem⟩:=hb
  obtain ⟨k,hk,e⟩:=List.getElem_of_mem hmem
  rw [←ak hk] at e
  rw [←e]
  exact i3 k hk (by omega) (by omega) (by rw [e];exact hne)
theorem Cb {f:ah} {wo:Int} : ∀ {m i:Nat} {s:RSt},Rc f wo i s→f.blocks.length<i+m→∃ k,Rc f wo k (rchS f wo m i s)∧(rchS f wo m i s).2.length≤k
 | 0,i,s,h,hm=>⟨i,h,by have:=h.b.ok.cnt;rw [rchS];omega⟩
 | m+1,i,s,h,hm=>by
  rw [rchS]
  split
  ·rename_i hi
   exact Cb (Eh h hi).1 (by omega)
  ·rename_i hi
   exact ⟨i,h,by omega⟩
theorem DB {f:ah} {wo:Int}:Rc f wo 0 (rch0 f wo):=by
 have hok:=vj (f:=f) (wo:=wo)
 unfold rch0 at hok ⊢
 split
 ·rename_i hc
  rw [if_pos hc] at hok
  refine ⟨⟨hok,fun b hb=>?_,fun x hx=>?_⟩,fun _ _=>List.mem_singleton.2 rfl,fun j hj=>by omega⟩
  ·rw [aF (by simpa using hb),List.mem_singleton]
   split
   ·rename_i e;subst e;simp
   ·rename_i e
    rw [ak (by simpa using hb)]
    simp;omega
  ·rw [List.mem_singleton.1 hx]
   exact .root (by rw [dk];exact hc.2) hc.1
 ·rename_i hc
  rw [if_neg hc] at hok
  refine ⟨⟨hok,fun b hb=>?_,fun x hx=>by cases hx⟩,fun a b=>absurd ⟨a,b⟩ hc,fun j hj=>by omega⟩
  rw [ak (by simpa using hb)]
  simp
theorem fq {f:ah} {wo:Int} {b:Nat} (hb:b<f.blocks.length):nth (dF f wo) b=true↔Re (ofG f.blocks) wo b:=by
 obtain ⟨k,h,hk⟩:=Cb (DB (f:=f) (wo:=wo)) (m:=f.blocks.length+1) (by omega)
 unfold dF
 generalize rchS f wo (f.blocks.length+1) 0 (rch0 f wo)=s at h hk
 rw [h.b.seen b hb]
 constructor
 ·exact fun hm=>by simpa using h.b.sound _ hm
 ·intro hr
  induction hr with
  | root h1 h2=>exact h.root h2 (by rw [←dk];exact h1)
  | @step a b ha he hne ih=>
   have hm:=ih (by have:=(dh.1 he).1;omega)
   obtain ⟨j,hj,e⟩:=List.getElem_of_mem hm
   rw [←ak hj] at e
   exact h.done j (by omega) hj b (by rw [e];exact he) hne
end Go.Proofs.Ytbkdlhkoiagbbaa
namespace Go.Proofs.Ytbkdlhkoiagbbaa
open Go Go.Lft
theorem gX {σ α ε:Type} {f:σ→α→Except ε σ} {a b:List α} {s:σ}:(a++b).foldlM f s=(match a.foldlM f s with | .ok s'=>b.foldlM f s' | .error e=>.error e):=by
 rw [List.foldlM_append]
 cases a.foldlM f s<;>rfl
theorem oC {σ α ε:Type} {f:σ→α→Except ε σ} {a:α} {s:σ}:[a].foldlM f s=f s a:=by
 rw [List.foldlM_cons]
 cases f s a<;>rfl
theorem kH {σ α ε:Type} {g:Nat→σ→Except ε σ} {f:σ→α→Except ε σ} {x:Nat→α} {s:σ} : ∀ {n:Nat},(∀ i s,i<n→g i s=f s (x i))→upE g n s=(rows x n).foldlM f s
 | 0,_=>rfl
 | n+1,h=>by
  have ih:=kH (n:=n) (s:=s) fun i s hi=>h i s (by omega)
  rw [fH,gX,←ih]
  simp only [upE]
  cases upE g n s with
  | ok s'=>
   show g n s'=[x n].foldlM f s'
   rw [oC];exact h n s' (by omega)
  | error e=>rfl
theorem mL {σ α ε:Type} [Inhabited α] {f:σ→α→Except ε σ} {l:List α} {s:σ}:upE (fun i s=>f s (nth l i)) l.length s=l.foldlM f s:=by
 rw [kH (f:=f) (x:=nth l) fun _ _ _=>rfl]
 congr 1
 refine List.ext_getElem (by simp) fun i h1 h2=>?_
 simp [rows,ak h2]
def jm (f:ah) (m:MW) (t:Th):Except Tr MW:=
 if t.place<0 then allS f.params t.mks t.blk t.place m
 else if t.place<(eY f t).ins.length then insS f.params t.blk (eY f t) t.place.toNat m
 else endS f.blocks.length t.blk (eY f t) m
theorem pS {f:ah} {b i:Nat} {m:MW}:jm f m (phiT f b i)=phiS f.params b (nth f.blocks b) i m:=by
 unfold jm
 rw [if_pos (show (phiT f b i).place<0 by show -1-(i:Int)<0;omega)]
 rfl
theorem p7 {f:ah} {b i:Nat} {m:MW} (hi:i<(nth f.blocks b).ins.length):jm f m (insT f b i)=insS f.params b (nth f.blocks b) i m:=by
 unfold jm
 rw [if_neg (show ¬(insT f b i).place<0 by show ¬(i:Int)<0;omega),if_pos (show (insT f b i).place<((eY f (insT f b i)).ins.length:Int) by show (i:Int)<((nth f.blocks b).ins.length:Int);omega)]
 rfl
theorem pR {f:ah} {b:Nat} {m:MW}:jm f m (endT f b)=endS f.blocks.length b (nth f.blocks b) m:=by
 unfold jm
 rw [if_neg (show ¬(endT f b).place<0 by show ¬((nth f.blocks b).ins.length:Int)<0;omega),if_neg (show ¬(endT f b).place<((eY f (endT f b)).ins.length:Int) by show ¬((nth f.blocks b).ins.length:Int)<((nth f.blocks b).ins.length:Int);omega)]
 rfl
theorem Cl {f:ah} {b:Nat} {m:MW}:blkS f b m=(thB f b).foldlM (jm f) m:=by
 unfold blkS thB
 rw [kH (f:=jm f) (x:=phiT f b) (n:=(nth f.blocks b).phis.length) fun i s hi=>pS.symm]
 rw [gX,gX]
 cases (rows (phiT f b) (nth f.blocks b).phis.length).foldlM (jm f) m with
 | error e=>rfl
 | ok m1=>
  simp only
  rw [kH (f:=jm f) (x:=insT f b) (n:=(nth f.blocks b).ins.length) fun i s hi=>(p7 hi).symm]
  cases (rows (insT f b) (nth f.blocks b).ins.length).foldlM (jm f) m1 with
  | error e=>rfl
  | ok m2=>
   simp only
   rw [oC]
   exact pR.symm
theorem sM {f:ah} {m:MW}:jK f m=(aG f).foldlM (jm f) m:=by
 have key : ∀ n,upE (blkS f) n m=(thTo f n).foldlM (jm f) m:=by
  intro n
  induction n with
  | zero=>rfl
  | succ n ih=>
   rw [fK,gX,←ih]
   simp only [upE]
   cases upE (blkS f) n m with
   | error e=>rfl
   | ok s=>exact Cl
 exact key _
theorem nO {f:ah}:jF f=(aG f).foldlM (fun m t=>gR f t m) (List.replicate 8192 false):=mL (f:=fun (m:BL) (t:Th)=>gR f t m)
def qo (m:MW) (l:BL):Prop:=l.length=8192∧∀ n:Int,0≤n→n<8192→(m n).isSome=nth l n.toNat
def Alike {α β:Type} (R:α→β→Prop):Except Tr α→Except Tr β→Prop
 | .ok a,.ok b=>R a b
 | .error e,.error e'=>e=e'
 | _,_=>False
theorem ou {α β γ:Type} {R:α→β→Prop} {F:α→γ→Except Tr α} {G:β→γ→Except Tr β} : ∀ {l:List γ},(∀ t∈l,∀ a b,R a b→Alike R (F a t) (G b t))→∀ {a:α} {b:β},R a b→Alike R (l.foldlM F a) (l.foldlM G b)
 | [],_,a,b,h=>h
 | t::l,hs,a,b,h=>by
  rw [List.foldlM_cons,List.foldlM_cons]
  have:=hs t List.mem_cons_self a b h
  cases e1:F a t with
  | error e=>
   cases e2:G b t with
   | error e'=>rw [e1,e2] at this;exact this
   | ok b'=>rw [e1,e2] at this;exact this.elim
  | ok a'=>
   cases e2:G b t with
   | error e'=>rw [e1,e2] at this;exact this.elim
   | ok b'=>
    rw [e1,e2] at this
    exact ou (fun t ht=>hs t (List.mem_cons_of_mem _ ht)) this
theorem AR {f:ah} {n:Int}:bn n f.params 8191=!ku f n:=by
 rw [Bool.eq_iff_iff];simp [bn,ku]
theorem zJ {α:Type} {p:α→Bool} {l:List α}:l.all (fun n=>!p n)=!l.any p:=by
 induction l with
 | nil=>rfl
 | cons a l ih=>simp [ih]
def jf (t:Th) (m:BL) (n:Int):Except Tr BL:=if nth m n.toNat then .error (12,t.blk,t.place) else .ok (m.set n.toNat true)
theorem AA {f:ah} {t:Th} {m:MW} {l:BL} (h:qo m l) (hp:0≤f.params) (hn : ∀ n∈t.mks,ku f n=false):Alike qo (t.mks.foldlM (nF t.blk t.place) m) (upE (mT t) t.mks.length l):=by
 have e:upE (mT t) t.mks.length l=t.mks.foldlM (jf t) l:=mL (f:=jf t)
 rw [e]
 refine ou (fun n hnm m l h=>?_) h
 have hb:=hn n hnm
 simp only [ku,Bool.or_eq_false_iff,decide_eq_false_iff_not] at hb
 have hs:=h.2 n (by omega) (by omega)
 unfold nF jf
 rw [hs]
 cases hc:nth l n.toNat with
 | true=>exact rfl
 | false=>
  refine ⟨by simpa using h.1,fun k h0 h1=>?_⟩
  rw [aF (by rw [h.1];omega)]
  simp only [putM]
  by_cases hk:k=n
  ·subst hk;simp
  ·rw [if_neg hk,if_neg (by omega)];exact h.2 k h0 h1
theorem tp {f:ah} {t:Th} {m:MW} {l:BL} (h:qo m l) (hp:0≤f.params) :
  Alike qo (allS f.params t.mks t.blk t.place m) (if t.mks.any (ku f) then .error (11,t.blk,t.place) else upE (mT t) t.mks.length l):=by
 unfold allS
 have e:(t.mks.all fun n=>bn n f.params 8191)=!t.mks.any (ku f):=by
  rw [←zJ];congr 1;funext n;exact AR
 rw [e]
 cases hb:t.mks.any (ku f) with
 | true=>exact rfl
 | false=>
  refine AA h hp fun n hn=>?_
  rw [Bool.eq_false_iff]
  intro e2
  rw [Bool.eq_false_iff] at hb
  exact hb (List.any_eq_true.2 ⟨n,hn,e2⟩)
theorem Dq {x:InsD}:(bn x.op 1 18&&bn x.args.length (eX x.op).1 (eX x.op).2)=!ke x:=by
 rw [Bool.eq_iff_iff]
 simp only [ke,bn,eX,oS,Bool.and_eq_true,Bool.not_eq_true',Bool.or_eq_false_iff,decide_eq_true_eq,decide_eq_false_iff_not,Bool.not_eq_false']
 by_cases h1:x.op=1
 ·simp [h1]
 by_cases h2:x.op=15
 ·simp [h2];omega
 by_cases h3:x.op=17
 ·simp [h3]
 simp only [h1,h2,h3,if_false,decide_eq_true_eq];omega
theorem DS {f:ah} {n:Int}:bn n 1 ((f.blocks.length:Int)-1)=!rE f n:=by
 rw [Bool.eq_iff_iff];simp [bn,rE];omega
theorem Af {t:dG}:lV t=jh t:=by
 unfold lV jh eP
 by_cases h1:t.kind=1
 ·rw [Bool.eq_iff_iff];simp [putM,h1,bn];omega
 by_cases h2:t.kind=2
 ·rw [Bool.eq_iff_iff];simp [putM,h2,bn];omega
 by_cases h3:t.kind=3
 ·rw [Bool.eq_iff_iff];simp [putM,h3,bn];omega
 by_cases h4:t.kind=4
 ·rw [Bool.eq_iff_iff];simp [putM,h4,bn]
 by_cases h5:t.kind=5
 ·rw [Bool.eq_iff_iff];simp [putM,h5,bn]
 simp [putM,h1,h2,h3,h4,h5]
theorem qp {f:ah} {t:Th} {x:Except Tr BL} (h:iB f t=false):lh f t x=x:=by
 unfold lh
 cases x with
 | error e=>rfl
 | ok m=>simp only [h,Bool.false_and];rfl
theorem Be {f:ah} {t:Th} (ht:t∈aG f) (hp:0≤f.params) {m:MW} {l:BL} (h:qo m l):Alike qo (jm f m t) (gR f t l):=by
 obtain ⟨b,hb,ht⟩:=cA.1 ht
 rcases cZ.1 ht with ⟨i,hi,rfl⟩ | ⟨i,hi,rfl⟩ | rfl
 ·have e1:kO f (phiT f b i)=false:=by simp [kO,phiT];omega
  have e2:iB f (phiT f b i)=false:=by
   show decide (-1-(i:Int)=((nth f.blocks b).ins.length:Int))=false
   rw [decide_eq_false_iff_not];omega
  rw [pS,gR,e1,e2,qp e2]
  exact tp (t:=phiT f b i) h hp
 ·have e1:kO f (insT f b i)=true:=by simp [kO,insT,eY];omega
  have e2:iB f (insT f b i)=false:=by
   show decide ((i:Int)=((nth f.blocks b).ins.length:Int))=false
   rw [decide_eq_false_iff_not];omega
  have e3:su f (insT f b i)=nth (nth f.blocks b).ins i:=by simp [su,eY,insT]
  rw [p7 hi,gR,e1,e2,qp e2,e3,insS,Dq]
  cases hb:ke (nth (nth f.blocks b).ins i) with
  | true=>exact rfl
  | false=>exact tp (t:=insT f b i) h hp
 ·have e1:kO f (endT f b)=false:=by simp [kO,endT,eY]
  have e2:iB f (endT f b)=true:=by simp [iB,endT,eY]
  have e3:eY f (endT f b)=nth f.blocks b:=by simp [eY,endT]
  rw [pR,gR,e1,e2,e3,endS,Af]
  cases hb:jh (nth f.blocks b).term with
  | false=>exact rfl
  | true=>
   have e4:((nth f.blocks b).term.to.all fun t=>bn t 1 ((f.blocks.length:Int)-1))=!(nth f.blocks b).term.to.any (rE f):=by
    rw [←zJ];congr 1;funext n;exact DS
   rw [e4]
   show Alike qo _ (lh f (endT f b) (.ok l))
   unfold lh
   rw [e2,e3]
   cases (nth f.blocks b).term.to.any (rE f) with
   | true=>exact rfl
   | false=>exact h
theorem yG {f:ah} (hp:0≤f.params):Alike qo (jK f (fun _=>none)) (jF f):=by
 rw [sM,nO]
 refine ou (fun t ht m l h=>Be ht hp h) ⟨List.length_replicate ..,fun n h0 h1=>?_⟩
 rw [ak (by rw [List.length_replicate];omega),List.getElem_replicate];rfl
end Go.Proofs.Ytbkdlhkoiagbbaa
namespace Go.Proofs.Ytbkdlhkoiagbbaa
open Go Go.Lft
def yR (t:Th):Option (Int × Int):=if t.blk<0 then none else some (t.blk,t.place)
structure Site (m:MW) (s:List Th):Prop where
 len:s.length=8192
 inn : ∀ n:Int,0≤n→n<8192→m n=yR (nth s n.toNat)
 out : ∀ n:Int,¬(0≤n∧n<8192)→m n=none
theorem xS {t:Th} (hb:0≤t.blk) : ∀ {l:List Int} {m:MW} {s:List Th},Site m s→(∀ n∈l,0≤n∧n<8192)→Site (l.foldl (fun m n=>putM m n (t.blk,t.place)) m) (l.foldl (eJ t) s)
 | [],m,s,h,_=>h
 | n::l,m,s,h,hl=>by
  rw [List.foldl_cons,List.foldl_cons]
  have hn:=hl n List.mem_cons_self
  refine xS hb ⟨ly.trans h.len,fun k h0 h1=>?_,fun k hk=>?_⟩ fun k hk=>hl k (List.mem_cons_of_mem _ hk)
  ·unfold eJ putM
   rw [if_pos hn,aF (by rw [h.len];omega)]
   by_cases e:k=n
   ·subst e;rw [if_pos rfl,if_pos rfl];unfold yR;rw [if_neg (by omega)]
   ·rw [if_neg e,if_neg (by omega)];exact h.inn k h0 h1
  ·unfold putM
   rw [if_neg (by rintro rfl;exact hk hn)];exact h.out k hk
theorem wU {b p:Int} : ∀ {l:List Int} {m m':MW},l.foldlM (nF b p) m = .ok m'→m'=l.foldl (fun m n=>putM m n (b,p)) m
 | [],m,m',h=>by cases h;rfl
 | n::l,m,m',h=>by
  rw [List.foldlM_cons] at h
  cases e:nF b p m n with
  | error t=>rw [e] at h;cases h
  | ok m1=>
   rw [e] at h
   unfold nF at e
   split at e
   ·cases e
   ·cases e;exact wU (l:=l) (m:=putM m n (b,p)) h
theorem wM {ps b p:Int} {l:List Int} {m m':MW} (h:allS ps l b p m = .ok m'):m'=l.foldl (fun m n=>putM m n (b,p)) m∧∀ n∈l,ps≤n∧n≤8191:=by
 unfold allS at h
 split at h
 ·rename_i ha
  refine ⟨wU h,fun n hn=>?_⟩
  have:=List.all_eq_true.1 ha n hn
  simpa [bn] using this
 ·cases h
theorem CO {f:ah} {t:Th} (ht:t∈aG f) {m m':MW} (h:jm f m t = .ok m'):(m'=t.mks.foldl (fun m n=>putM m n (t.blk,t.place)) m∧∀ n∈t.mks,f.params≤n∧n≤8191)∧0≤t.blk:=by
 obtain ⟨b,hb,ht⟩:=cA.1 ht
 rcases cZ.1 ht with ⟨i,hi,rfl⟩ | ⟨i,hi,rfl⟩ | rfl
 ·rw [pS] at h
  exact ⟨wM h,by show 0≤(b:Int);omega⟩
 ·rw [p7 hi] at h
  unfold insS at h
  split at h
  ·exact ⟨wM h,by show 0≤(b:Int);omega⟩
  ·cases h
 ·rw [pR] at h
  unfold endS at h
  split at h
  ·split at h
   ·cases h;exact ⟨⟨rfl,fun n hn=>by cases hn⟩,by show 0≤(b:Int);omega⟩
   ·cases h
  ·cases h
theorem tz {f:ah} (hp:0≤f.params) : ∀ {l:List Th},(∀ t∈l,t∈aG f)→∀ {m m':MW} {s:List Th},Site m s→l.foldlM (jm f) m = .ok m'→Site m' (l.foldl oo s)
 | [],_,m,m',s,h,e=>by cases e;exact h
 | t::l,hl,m,m',s,h,e=>by
  rw [List.foldlM_cons] at e
  cases e1:jm f m t with
  | error x=>rw [e1] at e;cases e
  | ok m1=>
   rw [e1] at e
   obtain ⟨⟨q1,q2⟩,q3⟩:=CO (hl t List.mem_cons_self) e1
   rw [List.foldl_cons]
   refine tz hp (fun t ht=>hl t (List.mem_cons_of_mem _ ht)) (m:=m1) ?_ e
   rw [q1]
   exact xS q3 h fun n hn=>by have:=q2 n hn;omega
theorem A4 {f:ah} (hp:0≤f.params) {m:MW} (h:jK f (fun _=>none) = .ok m):Site m (gG f):=by
 rw [sM] at h
 refine tz hp (fun t ht=>ht) ⟨List.length_replicate ..,fun n h0 h1=>?_,fun n _=>rfl⟩ h
 rw [ak (by rw [List.length_replicate];omega),List.getElem_replicate];rfl
theorem sv {f:ah} {m:MW} {made:List Th} {away:List BL} {idom:List Int} {v blk place at_ told:Int} (hp:f.params≤8192) (hs:Site m made) (hd : ∀ a:Int,0≤a→a<f.blocks.length→da idom a blk=!nth (nth away a.toNat) blk.toNat)
  (hm : ∀ i,i<8192→(nth made i).blk<f.blocks.length):useS f.params m idom v blk place at_ told=if (!gE f made away v blk at_) then .error (13,told,place) else .ok ():=by
 unfold useS
 by_cases c1:0≤v∧v<f.params
 ·have e:gE f made away v blk at_=true:=by unfold gE;rw [if_pos c1]
  rw [if_pos c1,e];rfl
 rw [if_neg c1]
 by_cases c2:v<0∨8191<v
 ·have e:gE f made away v blk at_=false:=by unfold gE;rw [if_neg c1,if_pos (.inl c2)]
  rw [hs.out v (by omega),e];rfl
 have e:gE f made away v blk at_=if (nth made v.toNat).blk<0 then false else if (nth made v.toNat).blk=blk then decide ((nth made v.toNat).place<0)||decide ((nth made v.toNat).place<at_) else !nth (nth away (nth made v.toNat).blk.toNat) blk.toNat:=by
  unfold gE
  rw [if_neg c1]
  by_cases c3:(nth made v.toNat).blk<0
  ·rw [if_pos (.inr c3),if_pos c3]
  ·rw [if_neg (by rintro (q | q)<;>contradiction),if_neg c3]
 rw [hs.inn v (by omega) (by omega),e]
 have hmb:=hm v.toNat (by omega)
 generalize nth made v.toNat=t at hmb
 unfold yR
 by_cases c3:t.blk<0
 ·rw [if_pos c3,if_pos c3];rfl
 rw [if_neg c3,if_neg c3]
 have e2:jz (t.blk,t.place) idom blk at_=if t.blk=blk then decide (t.place<0)||decide (t.place<at_) else !nth (nth away t.blk.toNat) blk.toNat:=by
  unfold jz
  by_cases c4:t.blk=blk
  ·simp only [c4,decide_true,Bool.true_and,Bool.not_true,Bool.false_and,Bool.or_false,if_true]
   rw [Bool.or_comm]
  ·simp only [c4,decide_false,Bool.false_and,Bool.not_false,Bool.true_and,Bool.false_or,if_false]
   exact hd t.blk (by omega) hmb
 simp only [e2]
 generalize (if t.blk=blk then decide (t.place<0)||decide (t.place<at_) else !nth (nth away t.blk.toNat) blk.toNat)=B
 cases B<;>rfl
theorem sE {α:Type} [Inhabited α] {l:List α} {p:α→Bool} {e:Tr} {g:Nat→Except Tr Unit} (h : ∀ j,j<l.length→g j=if p (nth l j) then .error e else .ok ()):uAll g l.length=if l.any p then .error e else .ok ():=by
 have h1:uAll g l.length=l.foldlM (fun (_:Unit) x=>if p x then Except.error e else .ok ()) ():=by
  unfold uAll
  rw [←mL (f:=fun (_:Unit) x=>if p x then Except.error e else .ok ())]
  have key : ∀ n,n≤l.length→upE (fun i (_:Unit)=>g i) n ()=upE (fun i (_:Unit)=>if p (nth l i) then Except.error e else .ok ()) n ():=by
   intro n
   induction n with
   | zero=>exact fun _=>rfl
   | succ n ih=>
    intro hn
    simp only [upE]
    rw [ih (by omega),h n (by omega)]
  exact key _ (Nat.le_refl _)
 rw [h1]
 clear h1 h
 induction l with
 | nil=>rfl
 | cons a l ih=>
  rw [List.foldlM_cons,List.any_cons]
  cases hp:p a with
  | true=>rfl
  | false=>rw [Bool.false_or];exact ih
theorem yt {β:Type} {p q:Nat→Bool} {x:Nat→β} {n:Nat} (h : ∀ a,a<n→p a=q a):sift p x n=sift q x n:=by
 rw [lD,lD]
 congr 1
 exact List.filter_congr fun a ha=>h a (List.mem_range.1 ha)
theorem yS {f:ah} {b:Nat} (hb:b<f.blocks.length):nth (bX (ofG f.blocks)) b=aA f b:=by
 rw [mf,iM,dk,dD hb,aA]
 refine yt fun a ha=>?_
 rw [Bool.eq_iff_iff,dh,decide_eq_true_eq,Int.toNat_natCast]
 exact ⟨fun h=>h.2,fun h=>⟨by omega,h⟩⟩
theorem A2 {f:ah} {b i:Nat} (hb:b<f.blocks.length):xG (nth (nth f.blocks b).phis i) (nth (bX (ofG f.blocks)) b) b=oI f (phiT f b i):=by
 have e1:nH f (phiT f b i)=nth (nth f.blocks b).phis i:=by
  unfold nH eY phiT
  simp only [Int.toNat_natCast]
  rw [show (-1-(-1-(i:Int))).toNat=i by omega]
 have e2:(phiT f b i).blk=(b:Int):=rfl
 unfold xG jl oI
 rw [e1,e2,yS hb]
 generalize nth (nth f.blocks b).phis i=x
 generalize aA f b=row
 rw [Bool.eq_iff_iff]
 simp only [Bool.and_eq_true,decide_eq_true_eq,zO,tK]
 constructor
 ·rintro ⟨⟨h1,h2⟩,h3⟩
  refine ⟨by omega,List.ext_getElem (by simp;omega) fun j hj hj2=>?_⟩
  have:=h3 j (by simpa using hj)
  rw [ak hj2,ak (by simpa using hj)] at this
  simpa using this
 ·rintro ⟨h1,h2⟩
  have hl:x.ins.length=row.length:=by rw [←h2,List.length_map]
  refine ⟨⟨by omega,by omega⟩,fun j hj=>?_⟩
  rw [←h2,ak (l:=List.map InD.frm x.ins) (by rw [List.length_map];exact hj),ak hj]
  simp
theorem sk {f:ah} : ∀ i,i<8192→(nth (gG f) i).blk<f.blocks.length:=fun i hi=>A9 (by omega) (fun t ht=>by
 obtain ⟨b,hb,ht⟩:=cA.1 ht
 rcases cZ.1 ht with ⟨i,hi,rfl⟩ | ⟨i,hi,rfl⟩ | rfl
 ·show (b:Int)<_;omega
 ·show (b:Int)<_;omega
 ·show (b:Int)<_;omega) hi
section
variable {f:ah} {m:MW} {idom:List Int} (hp0:f.params≤8192) (hs:Site m (gG f)) (hd : ∀ a b:Int,0≤a→a<f.blocks.length→0≤b→b<f.blocks.length→da idom a b=!nth (nth (fT f) a.toNat) b.toNat)
include hp0 hs hd
theorem Ds {b i:Nat} (hb:b<f.blocks.length) (hi:i<(nth f.blocks b).phis.length):phiU f m idom (bX (ofG f.blocks)) b i=gu f (gG f) (fT f) (phiT f b i):=by
 have hf:=A2 (f:=f) (i:=i) hb
 have e1:nH f (phiT f b i)=nth (nth f.blocks b).phis i:=by
  unfold nH eY phiT
  simp only [Int.toNat_natCast]
  rw [show (-1-(-1-(i:Int))).toNat=i by omega]
 have e3:gu f (gG f) (fT f) (phiT f b i)=if !oI f (phiT f b i) then .error (16,b,-1-i) else if (nth (nth f.blocks b).phis i).ins.any (stP f (gG f) (fT f)) then .error (13,b,-1-i) else .ok ():=by
  unfold gu
  rw [if_neg (show ¬0≤(phiT f b i).place by show ¬0≤-1-(i:Int);omega),e1]
  rfl
 rw [e3]
 unfold phiU
 simp only [hf]
 cases hss:oI f (phiT f b i) with
 | false=>rfl
 | true=>
  rw [if_pos rfl,if_neg (by simp)]
  refine sE fun j hj=>?_
  have hfr:0≤(nth (nth (nth f.blocks b).phis i).ins j).frm∧(nth (nth (nth f.blocks b).phis i).ins j).frm<f.blocks.length:=by
   unfold oI at hss
   rw [e1] at hss
   simp only [Bool.and_eq_true,decide_eq_true_eq] at hss
   have hm:=List.mem_map_of_mem (f:=InD.frm) (bQ hj)
   rw [hss.2] at hm
   obtain ⟨a,h1,_,h2⟩:=lP.1 hm
   omega
  rw [sv hp0 hs (fun a h0 h1=>hd a _ h0 h1 hfr.1 hfr.2) sk]
  rfl
theorem Ew {b i:Nat} (hb:b<f.blocks.length) (hi:i<(nth f.blocks b).ins.length):insU f m idom b i=gu f (gG f) (fT f) (insT f b i):=by
 have e3:gu f (gG f) (fT f) (insT f b i)=if (nth (nth f.blocks b).ins i).args.any (stT f (gG f) (fT f) (insT f b i)) then .error (13,b,i) else .ok ():=by
  unfold gu
  rw [if_pos (show 0≤(insT f b i).place by show 0≤(i:Int);omega)]
  rfl
 rw [e3]
 unfold insU
 refine sE fun j hj=>?_
 rw [sv hp0 hs (fun a h0 h1=>hd a _ h0 h1 (by omega) (by omega)) sk]
 rfl
theorem Dj {b:Nat} (hb:b<f.blocks.length):endU f m idom b=gu f (gG f) (fT f) (endT f b):=by
 have e3:gu f (gG f) (fT f) (endT f b)=if (nth f.blocks b).term.args.any (stT f (gG f) (fT f) (endT f b)) then .error (13,b,(nth f.blocks b).ins.length) else .ok ():=by
  unfold gu
  rw [if_pos (show 0≤(endT f b).place by show 0≤((nth f.blocks b).ins.length:Int);omega)]
  rfl
 rw [e3]
 unfold endU
 refine sE fun j hj=>?_
 rw [sv hp0 hs (fun a h0 h1=>hd a _ h0 h1 (by omega) (by omega)) sk]
 rfl
def stF (f:ah) (_:Unit) (t:Th):Except Tr Unit:=gu f (gG f) (fT f) t
theorem DQ {b:Nat} (hb:b<f.blocks.length):blkU f m idom (bX (ofG f.blocks)) b=(thB f b).foldlM (stF f) ():=by
 unfold blkU thB uAll
 rw [kH (f:=stF f) (x:=phiT f b) (n:=(nth f.blocks b).phis.length) fun i s hi=>Ds hp0 hs hd hb hi]
 rw [kH (f:=stF f) (x:=insT f b) (n:=(nth f.blocks b).ins.length) fun i s hi=>Ew hp0 hs hd hb hi]
 rw [gX,gX,Dj hp0 hs hd hb]
 cases (rows (phiT f b) (nth f.blocks b).phis.length).foldlM (stF f) () with
 | error e=>rfl
 | ok m1=>
  obtain ⟨⟩:=m1
  cases hI:(rows (insT f b) (nth f.blocks b).ins.length).foldlM (stF f) () with
  | error e=>simp only [andE,hI]
  | ok m2=>
   simp only [andE,hI]
   rw [oC];rfl
theorem As:uAll (blkU f m idom (bX (ofG f.blocks))) f.blocks.length=wc f:=by
 have key : ∀ n,n≤f.blocks.length→uAll (blkU f m idom (bX (ofG f.blocks))) n=(thTo f n).foldlM (stF f) ():=by
  intro n
  induction n with
  | zero=>exact fun _=>rfl
  | succ n ih=>
   intro hn
   rw [fK,gX,←ih (by omega)]
   have e:uAll (blkU f m idom (bX (ofG f.blocks))) (n+1)=match uAll (blkU f m idom (bX (ofG f.blocks))) n with | .ok _=>blkU f m idom (bX (ofG f.blocks)) n | .error e=>.error e:=by
    show upE _ (n+1) ()=_
    simp only [upE]
    unfold uAll
    cases upE (fun i (_:Unit)=>blkU f m idom (bX (ofG f.blocks)) i) n ()<;>rfl
   rw [e]
   cases uAll (blkU f m idom (bX (ofG f.blocks))) n with
   | error e=>rfl
   | ok s=>exact DQ hp0 hs hd (by omega)
 rw [key _ (Nat.le_refl _)]
 exact (mL (f:=stF f)).symm
end
end Go.Proofs.Ytbkdlhkoiagbbaa
namespace Go.Proofs.Ytbkdlhkoiagbbaa
open Go Go.Lft
theorem tg {f:ah} : ∀ k,manyN f k=(oO f k:Int)
 | 0=>rfl
 | k+1=>by
  have ih:=tg (f:=f) k
  unfold manyN at ih ⊢
  rw [up,ih,oO];omega
theorem tV {σ ε:Type} {f g:Nat→σ→Except ε σ} {s:σ} : ∀ {n:Nat},(∀ i s,i<n→f i s=g i s)→upE f n s=upE g n s
 | 0,_=>rfl
 | n+1,h=>by
  simp only [upE]
  rw [tV (n:=n) fun i s hi=>h i s (by omega)]
  cases upE g n s with
  | ok s'=>exact h n s' (by omega)
  | error e=>rfl
theorem zh {f:Nat→Unit→Except Tr Unit} : ∀ {n:Nat},upE f n () = .ok ()→∀ i,i<n→f i () = .ok ()
 | n+1,h,i,hi=>by
  simp only [upE] at h
  cases e:upE f n () with
  | error t=>rw [e] at h;cases h
  | ok s=>
   rw [e] at h
   rcases Nat.lt_or_ge i n with hlt | hge
   ·exact zh e i hlt
   ·have:i=n:=by omega
    subst this;exact h
theorem BF {f:ah} (hn:0<f.blocks.length):uAll (pC f) f.blocks.length=wayE f:=by
 unfold uAll wayE
 refine tV fun b s hb=>?_
 unfold pC
 have e:decide ((b:Int)∈aZ (ofG f.blocks))=nth (dF f (-1)) b:=by
  rw [Bool.eq_iff_iff,decide_eq_true_eq,(ig (by rw [dk];exact hn)).mem,fq hb]
 rw [e]
theorem CA {f:ah} (hn:0<f.blocks.length) (hw:wayE f = .ok ()) (a b:Int) (h0:0≤a) (h1:a<f.blocks.length) (h2:0≤b) (h3:b<f.blocks.length) :
  da (nB (ofG f.blocks)) a b=!nth (nth (fT f) a.toNat) b.toNat:=by
 have hR : ∀ x:Nat,x<f.blocks.length→Re (ofG f.blocks) (-1) x:=fun x hx=>by
  have:=zh hw x hx
  rw [←fq hx]
  split at this
  ·assumption
  ·cases this
 have hg:0<(ofG f.blocks).length:=by rw [dk];exact hn
 obtain ⟨fp,C,l,hl,I⟩:=nc hg
 have hi:nB (ofG f.blocks)=l:=by unfold nB;rw [hl];rfl
 rw [hi]
 have e:=iE I C (a:=a.toNat) (b:=b.toNat) (by rw [dk];omega) (hR _ (by omega))
 rw [Int.toNat_of_nonneg h0,Int.toNat_of_nonneg h2] at e
 rw [e,Bool.eq_iff_iff,jQ]
 have ha:nth (fT f) a.toNat=dF f a:=by
  unfold fT
  rw [dD (by omega),Int.toNat_of_nonneg h0]
 rw [ha]
 have hr:=fq (f:=f) (wo:=a) (b:=b.toNat) (by omega)
 have haa:((a.toNat:Nat):Int)=a:=Int.toNat_of_nonneg h0
 rw [haa]
 cases hc:nth (dF f a) b.toNat with
 | true=>
  rw [hc] at hr
  simp [hr.1 rfl]
 | false=>
  rw [hc] at hr
  have hnr:¬Re (ofG f.blocks) a b.toNat:=fun h=>by have:=hr.2 h;cases this
  simp [hnr,hR _ (show a.toNat<f.blocks.length by omega),hR _ (show b.toNat<f.blocks.length by omega)]
theorem td (f:ah):kr f=rL f:=by
 unfold kr j6 rL
 by_cases c1:f.params<0∨4<f.params
 ·have:bn f.params 0 4=false:=by rw [Bool.eq_false_iff];simp [bn];omega
  rw [if_pos this,if_pos c1]
 have hw4:¬bn f.params 0 4=false:=by simp [bn];omega
 rw [if_neg hw4,if_neg c1]
 by_cases c2:f.blocks.length=0
 ·rw [if_pos c2,if_pos c2]
 rw [if_neg c2,if_neg c2]
 have hm:zc f=(oO f f.blocks.length:Int):=tg _
 by_cases c3:512<f.blocks.length∨4096<oO f f.blocks.length
 ·rw [if_pos (by rw [hm];omega),if_pos c3]
 rw [if_neg (by rw [hm];omega),if_neg c3]
 have hp:0≤f.params:=by omega
 have hsh:=yG hp
 cases hS:jK f (fun _=>none) with
 | error e=>
  cases hR:jF f with
  | ok l=>rw [hS,hR] at hsh;exact hsh.elim
  | error e'=>
   rw [hS,hR] at hsh
   have hee:e=e':=hsh
   subst hee
   obtain ⟨k,s',h1,_,h3⟩:=uk hR
   have:=(v7 h3).1
   rw [if_pos (by show e.1≠0;omega)]
   rfl
 | ok m=>
  cases hR:jF f with
  | error e'=>rw [hS,hR] at hsh;exact hsh.elim
  | ok l=>
   rw [if_neg (by simp [tQ])]
   have hs:=A4 hp hS
   show (match oQ f m (nB (ofG f.blocks)) with | .ok _=>((0,0,0):Tr) | .error t=>t)=_
   unfold oQ
   rw [BF (by omega)]
   cases hW:wayE f with
   | error e=>rfl
   | ok s=>
    obtain ⟨⟩:=s
    have:=As (f:=f) (m:=m) (idom:=nB (ofG f.blocks)) (by omega) hs fun a b h0 h1 h2 h3=>CA (by omega) hW a b h0 h1 h2 h3
    show (match uAll (blkU f m (nB (ofG f.blocks)) (bX (ofG f.blocks))) f.blocks.length with | .ok _=>((0,0,0):Tr) | .error t=>t)=tQ (wc f)
    rw [this]
    cases wc f<;>rfl
end Go.Proofs.Ytbkdlhkoiagbbaa
namespace Go.Proofs.Ytbkdlhkoiagbbaa
open Go Go.Lft
def Marks (m:BL) (S:Int→Prop):Prop:=m.length=8192∧∀ n:Int,0≤n→n<8192→(nth m n.toNat=true↔S n)
theorem yF:Marks (List.replicate 8192 false) (fun _=>False):=⟨List.length_replicate,fun n h0 h1=>by rw [ao (by omega)];simp⟩
theorem tu {m:BL} {S:Int→Prop} {n:Int} (h:Marks m S) (h0:0≤n) (h1:n<8192):Marks (m.set n.toNat true) (fun k=>S k∨k=n):=by
 refine ⟨by simpa using h.1,fun k k0 k1=>?_⟩
 rw [aF (by rw [h.1];omega)]
 split
 ·rename_i e;exact ⟨fun _=>.inr (by omega),fun _=>rfl⟩
 ·rename_i e
  rw [h.2 k k0 k1]
  exact ⟨.inl,fun o=>o.resolve_right (by rintro rfl;exact e rfl)⟩
theorem Marks.congr {m:BL} {S T:Int→Prop} (h:Marks m S) (he : ∀ n,S n↔T n):Marks m T:=⟨h.1,fun n a b=>(h.2 n a b).trans (he n)⟩
theorem rX {t:Th} : ∀ {l:List Int} {m m':BL} {S:Int→Prop},Marks m S→(∀ n∈l,0≤n∧n<8192)→l.foldlM (jf t) m = .ok m'→Marks m' (fun k=>S k∨k∈l)∧l.Nodup∧∀ n∈l,¬S n
 | [],m,m',S,h,_,e=>by cases e;exact ⟨h.congr fun n=>by simp,List.nodup_nil,fun n hn=>by cases hn⟩
 | a::l,m,m',S,h,hl,e=>by
  rw [List.foldlM_cons] at e
  have ha:=hl a List.mem_cons_self
  unfold jf at e
  by_cases hc:nth m a.toNat=true
  ·rw [if_pos hc] at e;cases e
  ·rw [if_neg hc] at e
   obtain ⟨g1,g2,g3⟩:=rX (tu h ha.1 ha.2) (fun n hn=>hl n (List.mem_cons_of_mem _ hn)) e
   refine ⟨g1.congr fun n=>by rw [List.mem_cons,or_assoc],List.nodup_cons.2 ⟨fun hm=>g3 a hm (.inr rfl),g2⟩,fun n hn=>?_⟩
   rcases List.mem_cons.1 hn with rfl | hn
   ·exact fun hs=>hc ((h.2 n ha.1 ha.2).2 hs)
   ·exact fun hs=>g3 n hn (.inl hs)
theorem qW {t:Th} : ∀ {l:List Int} {m:BL} {S:Int→Prop},Marks m S→(∀ n∈l,0≤n∧n<8192)→l.Nodup→(∀ n∈l,¬S n)→∃ m',l.foldlM (jf t) m = .ok m'
 | [],m,S,h,_,_,_=>⟨m,rfl⟩
 | a::l,m,S,h,hl,hd,hs=>by
  have ha:=hl a List.mem_cons_self
  rw [List.foldlM_cons]
  unfold jf
  rw [if_neg fun hc=>hs a List.mem_cons_self ((h.2 a ha.1 ha.2).1 hc)]
  obtain ⟨d1,d2⟩:=List.nodup_cons.1 hd
  refine qW (tu h ha.1 ha.2) (fun n hn=>hl n (List.mem_cons_of_mem _ hn)) d2 fun n hn=>?_
  rintro (g | rfl)
  ·exact hs n (List.mem_cons_of_mem _ hn) g
  ·exact d1 hn
structure ld (f:ah) (t:Th):Prop where
 op:kO f t=true→ke (su f t)=false
 term:iB f t=true→jh (eY f t).term=true
 mks : ∀ n∈t.mks,f.params≤n∧n≤8191
 to:iB f t=true→∀ n∈(eY f t).term.to,1≤n∧n<f.blocks.length
theorem BU {t:Th} {m:BL}:upE (mT t) t.mks.length m=t.mks.foldlM (jf t) m:=mL (f:=jf t)
theorem any_false {α:Type} {p:α→Bool} {l:List α}:l.any p=false↔∀ n∈l,p n=false:=by
 rw [List.any_eq_false]
 exact forall_congr' fun n=>forall_congr' fun _=>by simp
theorem CQ {f:ah} {n:Int}:ku f n=false↔f.params≤n∧n≤8191:=by simp [ku]
theorem Ec {f:ah} {n:Int}:rE f n=false↔1≤n∧n<f.blocks.length:=by simp [rE]
theorem wV {f:ah} {t:Th} {m m':BL} (h:ld f t) (e:t.mks.foldlM (jf t) m = .ok m'):gR f t m = .ok m':=by
 unfold gR
 rw [if_neg,if_neg,if_neg]
 ·rw [BU,e]
  unfold lh
  dsimp only
  rw [if_neg]
  intro c
  obtain ⟨c1,c2⟩:=(Bool.and_eq_true _ _).mp c
  rw [any_false.2 fun n hn=>Ec.2 (h.to c1 n hn)] at c2
  cases c2
 ·rw [any_false.2 fun n hn=>CQ.2 (h.mks n hn)];exact Bool.false_ne_true
 ·intro c
  obtain ⟨c1,c2⟩:=(Bool.and_eq_true _ _).mp c
  rw [h.term c1] at c2;cases c2
 ·intro c
  obtain ⟨c1,c2⟩:=(Bool.and_eq_true _ _).mp c
  rw [h.op c1] at c2;cases c2
def gK (l:List Th):List Int:=l.flatMap Th.mks
theorem rH {f:ah} (hp:0≤f.params) : ∀ {l:List Th} {m:BL} {S:Int→Prop},Marks m S→(∀ t∈l,ld f t)→(gK l).Nodup→(∀ n∈gK l,¬S n)→∃ m',l.foldlM (fun m t=>gR f t m) m = .ok m'
 | [],m,S,_,_,_,_=>⟨m,rfl⟩
 | t::l,m,S,h,hg,hd,hs=>by
  have g:=hg t List.mem_cons_self
  obtain ⟨d1,d2,d3⟩:=List.nodup_append.1 (show (t.mks++gK l).Nodup from hd)
  have hr : ∀ n∈t.mks,0≤n∧n<8192:=fun n hn=>by have:=g.mks n hn;omega
  obtain ⟨m1,e⟩:=qW (t:=t) h hr d1 fun n hn=>hs n (List.mem_append_left _ hn)
  rw [List.foldlM_cons,wV g e]
  obtain ⟨k1,_,_⟩:=rX h hr e
  exact rH hp k1 (fun x hx=>hg x (List.mem_cons_of_mem _ hx)) d2 fun n hn=>by
   rintro (q | q)
   ·exact hs n (List.mem_append_right _ hn) q
   ·exact d3 n q n hn rfl
def gT (f:ah) (v b p:Int):Prop:=(0≤v∧v<f.params)∨∃ t∈aG f,v∈t.mks∧(t.blk=b∧(t.place<0∨t.place<p)∨t.blk≠b∧¬Re (ofG f.blocks) t.blk b.toNat)
structure CR (ts:List Th) (s:List Th):Prop where
 len:s.length=8192
 is : ∀ n:Int,0≤n→n<8192→(nth s n.toNat=noTh∧∀ t∈ts,n∉t.mks)∨(nth s n.toNat∈ts∧n∈(nth s n.toNat).mks)
theorem wI {t:Th} {ts:List Th} : ∀ {l:List Int} {s:List Th} {d:List Int},(∀ n∈l,n∈t.mks)→(s.length=8192∧∀ n:Int,0≤n→n<8192→(nth s n.toNat=noTh∧(∀ t∈ts,n∉t.mks)∧n∉d)∨(nth s n.toNat∈ts++[t]∧n∈(nth s n.toNat).mks))→
  ((l.foldl (eJ t) s).length=8192∧∀ n:Int,0≤n→n<8192→(nth (l.foldl (eJ t) s) n.toNat=noTh∧(∀ t∈ts,n∉t.mks)∧n∉d++l)∨(nth (l.foldl (eJ t) s) n.toNat∈ts++[t]∧n∈(nth (l.foldl (eJ t) s) n.toNat).mks))
 | [],s,d,_,h=>by simpa using h
 | a::l,s,d,hl,h=>by
  rw [List.foldl_cons]
  have:=wI (t:=t) (ts:=ts) (l:=l) (s:=eJ t s a) (d:=d++[a]) (fun n hn=>hl n (List.mem_cons_of_mem _ hn)) ⟨by rw [ly];exact h.1,fun n h0 h1=>?_⟩
  ·simpa using this
  ·unfold eJ
   split
   ·rw [aF (by rw [h.1];omega)]
    split
    ·rename_i hc e
     have:n=a:=by omega
     subst this
     exact .inr ⟨List.mem_append_right _ (List.mem_singleton.2 rfl),hl n List.mem_cons_self⟩
    ·rename_i hc e
     rcases h.2 n h0 h1 with ⟨a1,a2,a3⟩ | a1
     ·refine .inl ⟨a1,a2,?_⟩
      rw [List.mem_append,List.mem_singleton]
      rintro (q | rfl)
      ·exact a3 q
      ·exact e rfl
     ·exact .inr a1
   ·rename_i hc
    rcases h.2 n h0 h1 with ⟨a1,a2,a3⟩ | a1
    ·refine .inl ⟨a1,a2,?_⟩
     rw [List.mem_append,List.mem_singleton]
     rintro (q | rfl)
     ·exact a3 q
     ·exact hc ⟨h0,h1⟩
    ·exact .inr a1
theorem wR : ∀ {l ts s:List Th},CR ts s→CR (ts++l) (l.foldl oo s)
 | [],ts,s,h=>by simpa using h
 | t::l,ts,s,h=>by
  rw [List.foldl_cons]
  have:=wI (t:=t) (ts:=ts) (l:=t.mks) (s:=s) (d:=[]) (fun n hn=>hn) ⟨h.len,fun n h0 h1=>(h.is n h0 h1).elim (fun a=>.inl ⟨a.1,a.2,List.not_mem_nil⟩) fun a=>.inr ⟨List.mem_append_left _ a.1,a.2⟩⟩
  have:=wR (l:=l) (ts:=ts++[t]) (s:=oo s t) ⟨this.1,fun n h0 h1=>(this.2 n h0 h1).elim (fun a=>.inl ⟨a.1,fun x hx=>?_⟩) .inr⟩
  ·simpa using this
  ·rcases List.mem_append.1 hx with hx | hx
   ·exact a.2.1 x hx
   ·rw [List.mem_singleton.1 hx];simpa using a.2.2
theorem Ad {f:ah}:CR (aG f) (gG f):=
 wR (l:=aG f) (ts:=[]) (s:=List.replicate 8192 noTh) ⟨List.length_replicate,fun n h0 h1=>.inl ⟨ao (by omega),fun t ht=>by cases ht⟩⟩
theorem we {f:ah} {t:Th} (h:t∈aG f):0≤t.blk∧t.blk<f.blocks.length:=by
 obtain ⟨b,hb,ht⟩:=cA.1 h
 rcases cZ.1 ht with ⟨i,hi,rfl⟩ | ⟨i,hi,rfl⟩ | rfl<;>exact ⟨Int.natCast_nonneg _,Int.ofNat_lt.2 hb⟩
theorem Dy {f:ah} {a b:Int} (h0:0≤a) (h1:a<f.blocks.length) (h2:0≤b) (h3:b<f.blocks.length):nth (nth (fT f) a.toNat) b.toNat=true↔Re (ofG f.blocks) a b.toNat:=by
 unfold fT
 rw [dD (by omega),Int.toNat_of_nonneg h0]
 exact fq (by omega)
theorem xW : ∀ {l:List Th},(gK l).Nodup→∀ {t t':Th} {v:Int},t∈l→t'∈l→v∈t.mks→v∈t'.mks→t=t'
 | a::l,hd,t,t',v,h,h',hv,hv'=>by
  obtain ⟨d1,d2,d3⟩:=List.nodup_append.1 (show (a.mks++gK l).Nodup from hd)
  rcases List.mem_cons.1 h with e1 | h1
  ·rcases List.mem_cons.1 h' with e2 | h2
   ·rw [e1,e2]
   ·exact absurd rfl (d3 v (by rw [←e1];exact hv) v (List.mem_flatMap.2 ⟨t',h2,hv'⟩))
  ·rcases List.mem_cons.1 h' with e2 | h2
   ·exact absurd rfl (d3 v (by rw [←e2];exact hv') v (List.mem_flatMap.2 ⟨t,h1,hv⟩))
   ·exact xW d2 h1 h2 hv hv'
theorem tT {f:ah} {v b p:Int} (hd:(gK (aG f)).Nodup) (hr : ∀ t∈aG f,∀ n∈t.mks,0≤n∧n≤8191) (hb0:0≤b) (hb1:b<f.blocks.length) (h:gT f v b p):gE f (gG f) (fT f) v b p=true:=by
 unfold gE
 rcases h with c | ⟨t,ht,hv,h⟩
 ·rw [if_pos c]
 split
 ·rfl
 have hn:=hr t ht v hv
 have hat:=we ht
 have e:nth (gG f) v.toNat=t:=by
  rcases Ad.is v hn.1 (by omega) with ⟨_,a⟩ | ⟨a,b⟩
  ·exact absurd hv (a t ht)
  ·exact xW hd a ht b hv
 rw [e,if_neg (by omega)]
 rcases h with ⟨h1,h2⟩ | ⟨h1,h2⟩
 ·rw [if_pos h1];simpa using h2
 ·rw [if_neg h1]
  cases ec:nth (nth (fT f) t.blk.toNat) b.toNat with
  | false=>rfl
  | true=>exact absurd ((Dy hat.1 hat.2 hb0 hb1).1 ec) h2
structure jv (f:ah):Prop where
 params:0≤f.params∧f.params≤4
 blocks:0<f.blocks.length∧f.blocks.length≤512
 cnt:oO f f.blocks.length≤4096
 good : ∀ t∈aG f,ld f t
 nodup:(gK (aG f)).Nodup
 way : ∀ b:Nat,b<f.blocks.length→Re (ofG f.blocks) (-1) b
 takes : ∀ t∈aG f,0≤t.place→∀ v∈t.tks,gT f v t.blk t.place
 phi : ∀ b i:Nat,b<f.blocks.length→i<(nth f.blocks b).phis.length→0<b∧(nth (nth f.blocks b).phis i).ins.map InD.frm=aA f b∧∀ p∈(nth (nth f.blocks b).phis i).ins,gT f p.val p.frm (se f p.frm)
theorem vU {f:ah} {b x:Int}:x∈aA f b↔(0≤x∧x<f.blocks.length)∧b∈(nth f.blocks x.toNat).term.to:=by
 unfold aA
 rw [lP]
 constructor
 ·rintro ⟨a,ha,hb,rfl⟩
  exact ⟨⟨by omega,by omega⟩,by simpa using hb⟩
 ·rintro ⟨⟨h0,h1⟩,h⟩
  exact ⟨x.toNat,by omega,by simpa using h,by omega⟩
theorem rO {g:Nat→Unit→Except Tr Unit} : ∀ {n:Nat},(∀ i,i<n→g i () = .ok ())→upE g n () = .ok ()
 | 0,_=>rfl
 | n+1,h=>by
  simp only [upE]
  rw [rO fun i hi=>h i (by omega)]
  exact h n (by omega)
theorem Ca {f:ah} {t:Th}:gu f (gG f) (fT f) t = .ok ()↔
  (0≤t.place∧∀ v∈t.tks,gE f (gG f) (fT f) v t.blk t.place=true)∨(t.place<0∧oI f t=true∧∀ p∈(nH f t).ins,gE f (gG f) (fT f) p.val p.frm (se f p.frm)=true):=by
 unfold gu
 by_cases h0:0≤t.place
 ·rw [if_pos h0]
  have hn:¬t.place<0:=by omega
  simp only [h0,hn,true_and,false_and,or_false]
  cases e:t.tks.any (stT f (gG f) (fT f) t) with
  | true=>
   obtain ⟨v,hv,hs⟩:=List.any_eq_true.1 e
   constructor
   ·intro h;cases h
   ·intro h
    unfold stT at hs
    rw [h v hv] at hs;cases hs
  | false=>
   constructor
   ·intro _ v hv
    have:=any_false.1 e v hv
    simpa [stT] using this
   ·intro _;rfl
 ·rw [if_neg h0]
  have hn:t.place<0:=by omega
  simp only [h0,hn,true_and,false_and,false_or]
  cases e1:oI f t with
  | false=>simp
  | true=>
   rw [if_neg (by simp)]
   cases e:(nH f t).ins.any (stP f (gG f) (fT f)) with
   | true=>
    obtain ⟨v,hv,hs⟩:=List.any_eq_true.1 e
    constructor
    ·intro h;cases h
    ·rintro ⟨_,h⟩
     unfold stP at hs
     rw [h v hv] at hs;cases hs
   | false=>
    constructor
    ·intro _
     refine ⟨rfl,fun v hv=>?_⟩
     have:=any_false.1 e v hv
     simpa [stP] using this
    ·intro _;rfl
theorem Bq {f:ah} {b i:Nat}:nH f (phiT f b i)=nth (nth f.blocks b).phis i:=by
 unfold nH eY phiT
 dsimp only
 rw [Int.toNat_natCast]
 congr 1
 omega
theorem FM {f:ah} (h:jv f):kr f=(0,0,0):=by
 rw [td]
 have hp:=h.params
 have hb:=h.blocks
 have hc:=h.cnt
 have hr : ∀ t∈aG f,∀ n∈t.mks,0≤n∧n≤8191:=fun t ht n hn=>by have:=(h.good t ht).mks n hn;omega
 unfold rL
 rw [if_neg (by omega),if_neg (by omega),if_neg (by omega)]
 obtain ⟨m,hm⟩:=rH (f:=f) (by omega) yF h.good h.nodup fun _ _=>id
 rw [nO,hm,if_neg (by simp [tQ])]
 have hw:wayE f = .ok ():=rO fun i hi=>if_pos ((fq hi).2 (h.way i hi))
 have hu:wc f = .ok ():=rO fun i hi=>by
  have ht:=bQ hi
  generalize nth (aG f) i=t at ht
  rw [Ca]
  have hat:=we ht
  by_cases h0:0≤t.place
  ·exact .inl ⟨h0,fun v hv=>tT h.nodup hr hat.1 hat.2 (h.takes t ht h0 v hv)⟩
  ·refine .inr ⟨by omega,?_⟩
   obtain ⟨b,hb,hm⟩:=cA.1 ht
   rcases cZ.1 hm with ⟨i,hi,rfl⟩ | ⟨i,hi,rfl⟩ | rfl
   ·obtain ⟨k1,k2,k3⟩:=h.phi b i hb hi
    unfold oI
    rw [Bq]
    refine ⟨(Bool.and_eq_true _ _).mpr ⟨decide_eq_true (by show (0:Int)<b;omega),decide_eq_true k2⟩,fun p hp=>?_⟩
    have hm:p.frm∈aA f b:=by rw [←k2];exact List.mem_map_of_mem hp
    have:=(vU.1 hm).1
    exact tT h.nodup hr this.1 this.2 (k3 p hp)
   ·exact absurd (Int.natCast_nonneg _) h0
   ·exact absurd (Int.natCast_nonneg _) h0
 rw [hw,hu]
 rfl
end Go.Proofs.Ytbkdlhkoiagbbaa
namespace Go.Proofs.Ytbkdlhkoiagbbaa
open Go Go.Lft
def mkB (x:BlkD):List Int:=x.phis.map PhiD.dst++x.ins.flatMap aX
def Sd (m:MS) (b p:Nat) (v:Int):Prop:=
 (0≤v∧v<m.ps)∨v∈(nth m.blocks b).phis.map PhiD.dst∨v∈((nth m.blocks b).ins.take p).flatMap aX∨∃ a,a<m.blocks.length∧a≠b∧v∈mkB (nth m.blocks a)∧¬Re (ofG m.blocks) a b
structure Ext (m m':MS):Prop where
 ps:m'.ps=m.ps
 len:m'.blocks.length=m.blocks.length
 to : ∀ j,(nth m'.blocks j).term.to=(nth m.blocks j).term.to
 phis : ∀ j,∀ v∈(nth m.blocks j).phis.map PhiD.dst,v∈(nth m'.blocks j).phis.map PhiD.dst
 ins : ∀ j,∃ l,(nth m'.blocks j).ins=(nth m.blocks j).ins++l
theorem AZ {a b:List BlkD} (hl:a.length=b.length) (h : ∀ j,(nth a j).term.to=(nth b j).term.to):ofG a=ofG b:=by
 unfold ofG
 rw [hl]
 exact congrFun (congrArg rows (funext fun i=>by rw [h i])) _
section
variable {m m' m2:MS}
theorem Ext.gr (e:Ext m m'):ofG m'.blocks=ofG m.blocks:=AZ e.len e.to
theorem Ext.refl:Ext m m:=⟨rfl,rfl,fun _=>rfl,fun _ _ h=>h,fun _=>⟨[],by simp⟩⟩
theorem Ext.trans (e:Ext m m') (f:Ext m' m2):Ext m m2:=⟨f.ps.trans e.ps,f.len.trans e.len,fun j=>(f.to j).trans (e.to j),fun j v h=>f.phis j v (e.phis j v h),fun j=>by
 obtain ⟨l,h⟩:=e.ins j
 obtain ⟨k,g⟩:=f.ins j
 exact ⟨l++k,by rw [g,h,List.append_assoc]⟩⟩
theorem Ext.mkB (e:Ext m m') {j:Nat} {v:Int} (h:v∈mkB (nth m.blocks j)):v∈mkB (nth m'.blocks j):=by
 obtain ⟨l,g⟩:=e.ins j
 unfold Go.Proofs.Ytbkdlhkoiagbbaa.mkB at *
 rw [g,List.flatMap_append]
 rcases List.mem_append.1 h with h | h
 ·exact List.mem_append_left _ (e.phis _ _ h)
 ·exact List.mem_append_right _ (List.mem_append_left _ h)
theorem Ext.le (e:Ext m m') (j:Nat):(nth m.blocks j).ins.length≤(nth m'.blocks j).ins.length:=by
 obtain ⟨l,g⟩:=e.ins j
 rw [g,List.length_append];omega
theorem Sd.ext (e:Ext m m') {b p:Nat} {v:Int} (h:Sd m b p v):Sd m' b p v:=by
 rcases h with h | h | h | ⟨a,h1,h2,h3,h4⟩
 ·exact .inl (by rw [e.ps];exact h)
 ·exact .inr (.inl (e.phis _ _ h))
 ·obtain ⟨l,g⟩:=e.ins b
  refine .inr (.inr (.inl ?_))
  rw [g,List.take_append,List.flatMap_append]
  exact List.mem_append_left _ h
 ·exact .inr (.inr (.inr ⟨a,by rw [e.len];exact h1,h2,e.mkB h3,by rw [e.gr];exact h4⟩))
theorem Sd.le {b p q:Nat} {v:Int} (h:Sd m b p v) (hpq:p≤q):Sd m b q v:=by
 rcases h with h | h | h | h
 ·exact .inl h
 ·exact .inr (.inl h)
 ·refine .inr (.inr (.inl ?_))
  obtain ⟨i,hi,hv⟩:=List.mem_flatMap.1 h
  exact List.mem_flatMap.2 ⟨i,(List.take_sublist_take_left hpq).subset hi,hv⟩
 ·exact .inr (.inr (.inr h))
theorem Sd.end (e:Ext m m') {b:Nat} {v:Int} (h:Sd m b (nth m.blocks b).ins.length v):Sd m' b (nth m'.blocks b).ins.length v:=(h.ext e).le (e.le b)
def NumI (i:InsD):Prop:=(i.op=16→i.dst=0)∧(i.op≠18→i.two=0)
structure Ok (m:MS):Prop where
 p0:0≤m.ps
 pn:m.ps≤m.next
 op : ∀ b,b<m.blocks.length→∀ i∈(nth m.blocks b).ins,ke i=false∧NumI i
 nd : ∀ b,b<m.blocks.length→(mkB (nth m.blocks b)).Nodup
 dj : ∀ a b,a<m.blocks.length→b<m.blocks.length→a≠b→∀ v∈mkB (nth m.blocks a),v∉mkB (nth m.blocks b)
 rg : ∀ b,b<m.blocks.length→∀ v∈mkB (nth m.blocks b),m.ps≤v∧v<m.next
 tk : ∀ b,b<m.blocks.length→∀ i,i<(nth m.blocks b).ins.length→∀ v∈(nth (nth m.blocks b).ins i).args,Sd m b i v
 tm : ∀ b,b<m.blocks.length→∀ v∈(nth m.blocks b).term.args,Sd m b (nth m.blocks b).ins.length v
theorem Ok.at (q:Ok m) {a:Nat} {nx:Int} {l:List Int} (h:m.next≤nx):Ok ⟨a,m.ps,m.blocks,nx,l⟩:=
 ⟨q.p0,Int.le_trans q.pn h,q.op,q.nd,q.dj,fun b hb v hv=>⟨(q.rg b hb v hv).1,Int.lt_of_lt_of_le (q.rg b hb v hv).2 h⟩,q.tk,q.tm⟩
theorem mP {b j:Nat} {i:InsD} (hb:b<m.blocks.length):nth (m.add b i).blocks j=if b=j then { nth m.blocks b with ins:=(nth m.blocks b).ins++[i] } else nth m.blocks j:=by
 show nth (m.blocks.set b _) j=_
 rcases Nat.lt_or_ge j m.blocks.length with hl | hl
 ·rw [aF hl]
 ·rw [aR (by simpa using hl),if_neg (by omega),aR hl]
theorem uZ {b:Nat} {i:InsD} (hb:b<m.blocks.length):Ext m (m.add b i):=by
 refine ⟨rfl,jg,fun j=>?_,fun j=>?_,fun j=>?_⟩<;>rw [mP hb]<;>split
 ·rename_i e;rw [e]
 ·rfl
 ·rename_i e;rw [e];exact fun _ h=>h
 ·exact fun _ h=>h
 ·rename_i e;rw [e];exact ⟨[i],rfl⟩
 ·exact ⟨[],by simp⟩
theorem qJ {x:BlkD} {i:InsD}:mkB { x with ins:=x.ins++[i] }=mkB x++aX i:=by
 unfold mkB
 simp
theorem Ok.add (q:Ok m) {b a:Nat} {nx:Int} {i:InsD} {l:List Int} (hb:b<m.blocks.length) (hn:m.next≤nx) (hf : ∀ v∈aX i,m.next≤v∧v<nx) (hd:(aX i).Nodup) (ho:ke i=false∧NumI i) (ha : ∀ v∈i.args,Sd m b (nth m.blocks b).ins.length v) :
  Ok (MS.add ⟨a,m.ps,m.blocks,nx,l⟩ b i):=by
 have q1:=q.pn
 have q:=q.at (a:=a) (l:=l) hn
 have ha : ∀ v∈i.args,Sd ⟨a,m.ps,m.blocks,nx,l⟩ b (nth m.blocks b).ins.length v:=ha
 have q0 : ∀ b,b<m.blocks.length→∀ v∈mkB (nth m.blocks b),v<m.next:=fun b hb v hv=>(‹Ok m›.rg b hb v hv).2
 have hl:((⟨a,m.ps,m.blocks,nx,l⟩:MS).add b i).blocks.length=m.blocks.length:=jg
 have e:=uZ (m:=⟨a,m.ps,m.blocks,nx,l⟩) (i:=i) hb
 have hnth : ∀ j,nth ((⟨a,m.ps,m.blocks,nx,l⟩:MS).add b i).blocks j=if b=j then { nth m.blocks b with ins:=(nth m.blocks b).ins++[i] } else nth m.blocks j:=fun j=>mP hb
 refine ⟨q.p0,q.pn,fun c hc=>?_,fun c hc=>?_,fun c d hc hd' hcd=>?_,fun c hc=>?_,fun c hc=>?_,fun c hc=>?_⟩<;>rw [hl] at hc
 ·rw [hnth];split
  ·intro x hx
   rcases List.mem_append.1 hx with hx | hx
   ·exact q.op b hb x hx
   ·rw [List.mem_singleton.1 hx];exact ho
  ·exact q.op c hc
 ·rw [hnth];split
  ·rw [qJ]
   refine List.nodup_append.2 ⟨q.nd b hb,hd,fun x hx y hy=>?_⟩
   have:=q0 b hb x hx
   have:=(hf y hy).1
   omega
  ·exact q.nd c hc
 ·rw [hl] at hd'
  rw [hnth,hnth]
  intro v hv hv'
  split at hv
  ·rename_i e1;subst e1
   rw [if_neg hcd] at hv'
   rw [qJ] at hv
   rcases List.mem_append.1 hv with hv | hv
   ·exact q.dj _ _ hc hd' hcd v hv hv'
   ·have:=q0 d hd' v hv';have:=(hf v hv).1;omega
  ·split at hv'
   ·rename_i e1;subst e1
    rw [qJ] at hv'
    rcases List.mem_append.1 hv' with hv' | hv'
    ·exact q.dj _ _ hc hd' hcd v hv hv'
    ·have:=q0 c hc v hv;have:=(hf v hv').1;omega
   ·exact q.dj _ _ hc hd' hcd v hv hv'
 ·rw [hnth];split
  ·intro v hv
   rw [qJ] at hv
   rcases List.mem_append.1 hv with hv | hv
   ·exact q.rg b hb v hv
   ·have h1:=hf v hv;have h2:m.ps≤m.next:=q1;exact ⟨by show m.ps≤v;omega,h1.2⟩
  ·exact q.rg c hc
 ·intro k hk v hv
  refine Sd.ext e ?_
  rw [hnth] at hk hv
  split at hk
  ·rename_i e1;subst e1
   rw [if_pos rfl] at hv
   rw [show ({ nth m.blocks b with ins:=(nth m.blocks b).ins++[i] }:BlkD).ins=(nth m.blocks b).ins++[i] from rfl] at hk hv
   rw [List.length_append,List.length_singleton] at hk
   rcases Nat.lt_or_ge k (nth m.blocks b).ins.length with h | h
   ·rw [ak (by simp;omega),List.getElem_append_left h,←ak h] at hv
    exact q.tk b hb k h v hv
   ·have:k=(nth m.blocks b).ins.length:=by omega
    subst this
    rw [ak (by simp),List.getElem_append_right (Nat.le_refl _)] at hv
    simp at hv
    exact ha v hv
  ·rename_i e1
   rw [if_neg e1] at hv
   exact q.tk c hc k hk v hv
 ·intro v hv
  have ht:(nth ((⟨a,m.ps,m.blocks,nx,l⟩:MS).add b i).blocks c).term=(nth m.blocks c).term:=by
   rw [hnth];split
   ·rename_i e1;rw [e1]
   ·rfl
  rw [ht] at hv
  exact (q.tm c hc v hv).end e
theorem CB {b a:Nat} {nx:Int} {i:InsD} {l:List Int} (hb:b<m.blocks.length) {v:Int} (hv:v∈aX i):Sd (MS.add ⟨a,m.ps,m.blocks,nx,l⟩ b i) b (nth (MS.add ⟨a,m.ps,m.blocks,nx,l⟩ b i).blocks b).ins.length v:=by
 rw [mP (m:=⟨a,m.ps,m.blocks,nx,l⟩) hb,if_pos rfl]
 refine .inr (.inr (.inl ?_))
 rw [mP (m:=⟨a,m.ps,m.blocks,nx,l⟩) hb,if_pos rfl]
 show v∈((((nth m.blocks b).ins++[i]).take ((nth m.blocks b).ins++[i]).length).flatMap aX)
 rw [List.take_length,List.flatMap_append]
 exact List.mem_append_right _ (by simpa using hv)
structure In (b:Nat) (m:MS):Prop where
 ok:Ok m
 lt:b<m.blocks.length
 live : ∀ v∈m.live,Sd m b (nth m.blocks b).ins.length v
structure Wk (b k:Nat) (m m':MS):Prop where
 inn:In b m'
 live : ∀ v∈m.live,v∈m'.live
 n0:m.next≤m'.next
 nx:m'.next≤m.next+k
 ins:(nth m'.blocks b).ins.length≤(nth m.blocks b).ins.length+k
 ext:Ext m m'
variable {b c k l:Nat} {s:List Int}
theorem Wk.refl (q:In b m):Wk b 0 m m:=⟨q,fun _ h=>h,Int.le_refl _,by omega,Nat.le_refl _,.refl⟩
theorem Wk.trans (g:Wk b k m m') (h:Wk b l m' m2):Wk b (k+l) m m2:=
 ⟨h.inn,fun v hv=>h.live v (g.live v hv),Int.le_trans g.n0 h.n0,by have:=g.nx;have:=h.nx;omega,by have:=g.ins;have:=h.ins;omega,g.ext.trans h.ext⟩
theorem Wk.mono (g:Wk b k m m') (h:k≤l):Wk b l m m':=⟨g.inn,g.live,g.n0,by have:=g.nx;omega,by have:=g.ins;omega,g.ext⟩
theorem In.took (q:In b m):In b m.took:=⟨q.ok.at (Int.le_refl _),q.lt,q.live⟩
theorem Ext.same (e:Ext m m') {m2:MS} (h1:m2.ps=m'.ps) (h2:m2.blocks=m'.blocks):Ext m m2:=by
 obtain ⟨a,b,c,d,f⟩:=e
 exact ⟨by rw [h1];exact a,by rw [h2];exact b,by rw [h2];exact c,by rw [h2];exact d,by rw [h2];exact f⟩
theorem Ext.frm {m2:MS} (e:Ext m2 m') (h1:m2.ps=m.ps) (h2:m2.blocks=m.blocks):Ext m m':=by
 obtain ⟨a,b,c,d,f⟩:=e
 rw [h2] at b c d f
 exact ⟨by rw [←h1];exact a,b,c,d,f⟩
theorem Wk.took (g:Wk b k m m'):Wk b k m m'.took:=⟨g.inn.took,g.live,g.n0,g.nx,g.ins,g.ext.same rfl rfl⟩
theorem In.add (q:In b m) {a:Nat} {j:Nat} {i:InsD} (hj:j≤2) (hf : ∀ v∈aX i,m.next≤v∧v<m.next+j) (hd:(aX i).Nodup) (ho:ke i=false∧NumI i) (ha : ∀ v∈i.args,v∈m.live) :
  Wk b (max 1 j) m (MS.add ⟨a,m.ps,m.blocks,m.next+j,m.live⟩ b i)∧∀ v∈aX i,v∈(MS.add ⟨a,m.ps,m.blocks,m.next+j,m.live⟩ b i).live:=by
 have e:Ext m (MS.add ⟨a,m.ps,m.blocks,m.next+j,m.live⟩ b i):=(uZ (m:=⟨a,m.ps,m.blocks,m.next+j,m.live⟩) (i:=i) q.lt).frm rfl rfl
 refine ⟨⟨⟨q.ok.add q.lt (by omega) hf hd ho fun v hv=>q.live v (ha v hv),by rw [e.len];exact q.lt,fun v hv=>?_⟩,fun v hv=>List.mem_append_left _ hv,by show m.next≤m.next+j;omega,by show m.next+j≤_;omega,?_,e⟩,fun v hv=>List.mem_append_right _ hv⟩
 ·rcases List.mem_append.1 (show v∈m.live++aX i from hv) with h | h
  ·exact (q.live v h).end e
  ·exact CB q.lt h
 ·rw [mP (m:=⟨a,m.ps,m.blocks,m.next+j,m.live⟩) q.lt,if_pos rfl]
  show ((nth m.blocks b).ins++[i]).length≤_
  rw [List.length_append,List.length_singleton];omega
theorem In.one (q:In b m) {op:Int} {a:Nat} {x:List Int} {im:I32} (h16:op≠16) (h18:op≠18) (ho:ke ⟨op,m.next,0,x,im⟩=false) (ha : ∀ v∈x,v∈m.live) :
  Wk b 1 m (MS.add ⟨a,m.ps,m.blocks,m.next+1,m.live⟩ b ⟨op,m.next,0,x,im⟩)∧m.next∈(MS.add ⟨a,m.ps,m.blocks,m.next+1,m.live⟩ b ⟨op,m.next,0,x,im⟩).live:=by
 have e:aX ⟨op,m.next,0,x,im⟩=[m.next]:=by unfold aX;rw [if_neg h16,if_neg h18]
 have:=q.add (a:=a) (j:=1) (i:=⟨op,m.next,0,x,im⟩) (by omega) (by rw [e];intro v hv;rw [List.mem_singleton.1 hv];omega) (by rw [e];simp) ⟨ho,fun h=>absurd h h16,fun _=>rfl⟩ ha
 exact ⟨this.1,this.2 _ (by rw [e];exact List.mem_singleton.2 rfl)⟩
theorem In.constant (q:In b m) {n:Int}:Wk b 1 m (m.constant b n)∧m.next∈(m.constant b n).live:=
 q.one (a:=m.at_) (op:=1) (by decide) (by decide) rfl fun v hv=>by cases hv
theorem In.two (q:In b m) {op x y:Int} (h1:2≤op) (h2:op≤14) (hx:x∈m.live) (hy:y∈m.live):Wk b 1 m (m.two b op x y)∧m.next∈(m.two b op x y).live:=by
 refine q.one (a:=m.at_) (op:=op) (by omega) (by omega) ?_ fun v hv=>?_
 ·have e1:¬op<1:=by omega
  have e2:¬18<op:=by omega
  have e3:op≠1:=by omega
  have e4:op≠15:=by omega
  have e5:op≠17:=by omega
  simp [ke,oS,e1,e2,e3,e4,e5]
 ·rcases List.mem_cons.1 hv with rfl | hv
  ·exact hx
  ·rw [List.mem_singleton.1 hv];exact hy
theorem In.dK (q:In b m):Wk b 1 m (ay s m b).2∧(ay s m b).1∈(ay s m b).2.live:=by
 unfold ay
 split
 ·obtain ⟨h1,h2⟩:=q.took.took.constant (n:=gQ s m)
  exact ⟨(Wk.refl q).took.took.trans h1,h2⟩
 ·split
  ·obtain ⟨h1,h2⟩:=q.took.took.took.took.took.constant (n:=gQ s m.took.took.took)
   exact ⟨(Wk.refl q).took.took.took.took.took.trans h1,h2⟩
  ·rename_i h _
   refine ⟨(Wk.refl q).took.took.took.mono (by omega),?_⟩
   show qk s m∈m.live
   have:=a8 (s:=s) (at_:=m.at_) (n:=(m.live.length:Int)) (by omega)
   unfold qk
   refine bQ ?_
   split<;>omega
theorem In.bin (q:In b m) {op:Int} (h1:2≤op) (h2:op≤14):Wk b 4 m (binS s m b op):=by
 obtain ⟨w1,e1⟩:=q.dK (s:=s)
 obtain ⟨w2,e2⟩:=w1.inn.dK (s:=s)
 unfold binS
 simp only
 split
 ·obtain ⟨w3,e3⟩:=w2.inn.took.took.constant (n:=IntKind.i32.wrap (IntKind.i64.wrap (az s ((ay s (ay s m b).2 b).2.at_+1) 40-8)))
  obtain ⟨w4,_⟩:=w3.inn.two h1 h2 (w3.live _ (w2.live _ e1)) e3
  exact ((w1.trans w2).took.took.trans w3).trans w4
 ·obtain ⟨w4,_⟩:=w2.inn.took.two h1 h2 (w2.live _ e1) e2
  exact ((w1.trans w2).took.trans w4).mono (by omega)
theorem In.ltu (q:In b m):Wk b 3 m (ltuS s m b):=by
 obtain ⟨w1,e1⟩:=q.dK (s:=s)
 obtain ⟨w2,e2⟩:=w1.inn.dK (s:=s)
 obtain ⟨w3,_⟩:=w2.inn.two (op:=13) (by decide) (by decide) (w2.live _ e1) e2
 exact (w1.trans w2).trans w3
theorem In.div (q:In b m):Wk b 4 m (divS s m b):=by
 obtain ⟨w1,e1⟩:=q.dK (s:=s)
 obtain ⟨w2,e2⟩:=w1.inn.took.constant (n:=IntKind.i32.wrap (az s (ay s m b).2.at_ 12))
 unfold divS
 simp only
 split
 ·obtain ⟨w3,e3⟩:=w2.inn.took.took.constant (n:=IntKind.i32.wrap (1+IntKind.i32.wrap (az s (((ay s m b).2.took.constant b (IntKind.i32.wrap (az s (ay s m b).2.at_ 12))).at_+1) 12)))
  obtain ⟨w4,_⟩:=w3.inn.two (op:=14) (by decide) (by decide) (w3.live _ (w2.live _ e1)) e3
  exact (((w1.took.trans w2).took.took.trans w3).trans w4)
 ·obtain ⟨w4,_⟩:=w2.inn.took.two (op:=14) (by decide) (by decide) (w2.live _ e1) e2
  exact ((w1.took.trans w2).took.trans w4).mono (by omega)
theorem In.mulw (q:In b m):Wk b 4 m (oW s m b):=by
 obtain ⟨w1,e1⟩:=q.dK (s:=s)
 obtain ⟨w2,e2⟩:=w1.inn.dK (s:=s)
 generalize hr:ay s (ay s m b).2 b=r at w2 e2
 have e:aX ⟨18,r.2.next,r.2.next+1,[(ay s m b).1,r.1],⟨0⟩⟩=[r.2.next,r.2.next+1]:=rfl
 have:=w2.inn.add (a:=r.2.at_) (j:=2) (i:=⟨18,r.2.next,r.2.next+1,[(ay s m b).1,r.1],⟨0⟩⟩) (by omega) (by
  rw [e];intro v hv
  rcases List.mem_cons.1 hv with rfl | hv
  ·omega
  ·rw [List.mem_singleton.1 hv];omega) (by rw [e];simp;omega) ⟨rfl,fun h=>absurd h (show (18:Int)≠16 by decide),fun h=>absurd rfl h⟩ (fun v hv=>by
  rcases List.mem_cons.1 hv with rfl | hv
  ·exact w2.live _ e1
  ·rw [List.mem_singleton.1 hv];exact e2)
 have h:=(w1.trans w2).trans this.1
 have e3:oW s m b=MS.add ⟨r.2.at_,r.2.ps,r.2.blocks,r.2.next+2,r.2.live⟩ b ⟨18,r.2.next,r.2.next+1,[(ay s m b).1,r.1],⟨0⟩⟩:=by
  unfold oW
  simp only [hr]
  unfold MS.add MS.aE
  simp only [MS.mk.injEq,and_true,true_and]
  omega
 rw [e3]
 exact h.mono (by omega)
theorem In.args (q:In b m) : ∀ n,Wk b n m (up (ek s b) n ([],m)).2∧(up (ek s b) n ([],m)).1.length=n∧∀ v∈(up (ek s b) n ([],m)).1,v∈(up (ek s b) n ([],m)).2.live
 | 0=>⟨.refl q,rfl,fun v hv=>by cases hv⟩
 | n+1=>by
  obtain ⟨h1,h2,h3⟩:=In.args q n
  obtain ⟨w,e⟩:=h1.inn.dK (s:=s)
  refine ⟨h1.trans w,?_,fun v hv=>?_⟩
  ·show (_++[_]).length=_
   rw [List.length_append,h2];rfl
  ·rcases List.mem_append.1 (show v∈(up (ek s b) n ([],m)).1++[(ay s (up (ek s b) n ([],m)).2 b).1] from hv) with h | h
   ·exact w.live _ (h3 v h)
   ·rw [List.mem_singleton.1 h];exact e
theorem In.call (q:In b m):Wk b 5 m (kl s m b):=by
 unfold kl
 simp only
 have ht:=a8 (s:=s) (at_:=m.at_) (n:=5) (by decide)
 obtain ⟨h1,h2,h3⟩:=q.took.args (s:=s) (az s m.at_ 5).toNat
 generalize up (ek s b) (az s m.at_ 5).toNat ([],m.took)=r at h1 h2 h3
 have hl:((r.1.length:Nat):Int)≤4:=by omega
 have w:=h1.inn.one (a:=r.2.at_+1) (op:=17) (x:=r.1) (im:=⟨IntKind.i32.wrap (az s r.2.at_ 5)⟩) (by decide) (by decide) (by simp [ke,oS];omega) h3
 have h:Wk b 0 m m.took:=(Wk.refl q).took
 exact ((h.trans h1).trans w.1).mono (by omega)
theorem In.addr (q:In b m):Wk b 5 m (gI s m b).2∧(gI s m b).1∈(gI s m b).2.live:=by
 obtain ⟨w1,e1⟩:=q.took.constant (n:=IntKind.i32.wrap (az s m.at_ 9))
 have h:Wk b 0 m m.took:=(Wk.refl q).took
 have w1:=h.trans w1
 have e1:m.next∈_:=e1
 unfold gI
 simp only
 split
 ·obtain ⟨w2,e2⟩:=w1.inn.took.dK (s:=s)
  obtain ⟨w3,e3⟩:=w2.inn.constant (n:=7)
  obtain ⟨w4,e4⟩:=w3.inn.two (op:=5) (by decide) (by decide) (w3.live _ e2) e3
  obtain ⟨w5,e5⟩:=w4.inn.two (op:=2) (by decide) (by decide) (w4.live _ (w3.live _ (w2.live _ e1))) e4
  exact ⟨(((w1.took.trans w2).trans w3).trans w4).trans w5,e5⟩
 ·exact ⟨w1.took.mono (by omega),e1⟩
theorem In.off (q:In b m):Wk b 0 m (offS s m).2∧(offS s m).2.live=m.live:=by
 unfold offS
 split
 ·exact ⟨(Wk.refl q).took.took.took.took,rfl⟩
 ·exact ⟨(Wk.refl q).took.took,rfl⟩
theorem In.memory (q:In b m) {st:Bool}:Wk b 7 m (fR s m b st):=by
 obtain ⟨w1,e1⟩:=q.addr (s:=s)
 obtain ⟨w2,_⟩:=w1.inn.off (s:=s)
 unfold fR
 simp only
 split
 ·obtain ⟨w3,e3⟩:=w2.inn.dK (s:=s)
  generalize hr:ay s (offS s (gI s m b).2).2 b=r at w3 e3
  have:=w3.inn.add (a:=r.2.at_) (j:=0) (i:=⟨16,0,0,[(gI s m b).1,r.1],⟨(offS s (gI s m b).2).1⟩⟩) (by omega) (fun v hv=>by cases hv) List.nodup_nil ⟨rfl,fun _=>rfl,fun _=>rfl⟩ (fun v hv=>by
   rcases List.mem_cons.1 hv with rfl | hv
   ·exact w3.live _ (w2.live _ e1)
   ·rw [List.mem_singleton.1 hv];exact e3)
  have e:(⟨r.2.at_,r.2.ps,r.2.blocks,r.2.next+((0:Nat):Int),r.2.live⟩:MS)=r.2:=by
   cases r.2;simp
  rw [e] at this
  exact ((w1.trans w2).trans w3).trans this.1
 ·have w:=w2.inn.one (a:=(offS s (gI s m b).2).2.at_) (op:=15) (x:=[(gI s m b).1]) (im:=⟨(offS s (gI s m b).2).1⟩) (by decide) (by decide) rfl (fun v hv=>by rw [List.mem_singleton.1 hv];exact w2.live _ e1)
  exact ((w1.trans w2).trans w.1).mono (by omega)
theorem In.fh (q:In b m):Wk b 7 m (aB s b m):=by
 have h:Wk b 0 m m.took:=(Wk.refl q).took
 have ht:=a8 (s:=s) (at_:=m.at_) (n:=20) (by decide)
 unfold aB
 simp only
 split
 ·have h2 : ∀ x∈opsL,2≤x∧x≤14:=by decide
  have hl:opsL.length=12:=rfl
  have:=h2 _ (bQ (l:=opsL) (i:=(az s m.at_ 20).toNat) (by omega))
  exact (h.trans (q.took.bin this.1 this.2)).mono (by omega)
 split
 ·exact (h.trans q.took.ltu).mono (by omega)
 split
 ·exact (h.trans q.took.div).mono (by omega)
 split
 ·exact (h.trans q.took.memory).mono (by omega)
 split
 ·exact (h.trans q.took.call).mono (by omega)
 split
 ·exact (h.trans q.took.mulw).mono (by omega)
 ·exact ((Wk.refl q).took.took.took.trans (q.took.took.took.constant (n:=gQ s m.took)).1).mono (by omega)
theorem In.dB (q:In b m) : ∀ n,Wk b (7*n) m (up (fun _=>aB s b) n m)
 | 0=>.refl q
 | n+1=>by
  have h:=In.dB q n
  exact (h.trans h.inn.fh).mono (by omega)
theorem In.term (q:In b m) {to:List Int} (hl:to.length≤65):Wk b 3 m (dH s to b m).2∧jh (dH s to b m).1=true∧(dH s to b m).1.to=to∧∀ v∈(dH s to b m).1.args,v∈(dH s to b m).2.live:=by
 have h:Wk b 0 m m.took:=(Wk.refl q).took
 unfold dH
 simp only
 split
 ·rename_i h0
  have hto:to=[]:=List.length_eq_zero_iff.1 h0
  split
  ·exact ⟨(Wk.refl q).took.took.mono (by omega),rfl,hto.symm,fun v hv=>by cases hv⟩
  split
  ·obtain ⟨w,e⟩:=q.took.dK (s:=s)
   exact ⟨(h.trans w).mono (by omega),rfl,hto.symm,fun v hv=>by rw [List.mem_singleton.1 hv];exact e⟩
  ·exact ⟨h.mono (by omega),rfl,hto.symm,fun v hv=>by cases hv⟩
 split
 ·rename_i h1
  exact ⟨(Wk.refl q).mono (by omega),by simp [jh,h1],rfl,fun v hv=>by cases hv⟩
 split
 ·rename_i h2
  obtain ⟨w1,e1⟩:=q.dK (s:=s)
  split
  ·obtain ⟨w2,e2⟩:=w1.inn.took.dK (s:=s)
   generalize ay s (ay s m b).2.took b=r at w2 e2
   have hr:=a8 (s:=s) (at_:=r.2.at_) (n:=3) (by decide)
   have hop : ∀ x∈cmpL,11≤x∧x≤13:=by decide
   have hcl:cmpL.length=3:=rfl
   have ho:=hop _ (bQ (l:=cmpL) (i:=(az s r.2.at_ 3).toNat) (by omega))
   generalize nth cmpL (az s r.2.at_ 3).toNat=op at ho
   have w3:=w2.inn.one (a:=r.2.at_+1) (op:=op) (x:=[(ay s m b).1,r.1]) (im:=⟨0⟩) (by omega) (by omega) (by
    have e1:¬op<1:=by omega
    have e2:¬18<op:=by omega
    have e3:op≠1:=by omega
    have e4:op≠15:=by omega
    have e5:op≠17:=by omega
    simp [ke,oS,e1,e2,e3,e4,e5]) (fun v hv=>by
    rcases List.mem_cons.1 hv with rfl | hv
    ·exact w2.live _ e1
    ·rw [List.mem_singleton.1 hv];exact e2)
   exact ⟨(w1.took.trans w2).trans w3.1,by simp [jh,h2],rfl,fun v hv=>by rw [List.mem_singleton.1 hv];exact w3.2⟩
  ·exact ⟨w1.took.mono (by omega),by simp [jh,h2],rfl,fun v hv=>by rw [List.mem_singleton.1 hv];exact e1⟩
 ·rename_i h0 h1 h2
  obtain ⟨w1,e1⟩:=q.dK (s:=s)
  obtain ⟨w2,e2⟩:=w1.inn.constant (n:=7)
  obtain ⟨w3,e3⟩:=w2.inn.two (op:=5) (by decide) (by decide) (w2.live _ e1) e2
  exact ⟨(w1.trans w2).trans w3,by simp [jh];omega,rfl,fun v hv=>by rw [List.mem_singleton.1 hv];exact e3⟩
end
end Go.Proofs.Ytbkdlhkoiagbbaa
namespace Go.Proofs.Ytbkdlhkoiagbbaa
open Go Go.Lft
structure Tt (n k c:Nat) (x:TgS):Prop where
 len:x.1.length=n
 row : ∀ i,(nth x.1 i).length≤c
 rng : ∀ i,∀ v∈nth x.1 i,1≤v∧v<n
 way : ∀ b:Nat,1≤b→b≤k→∃ a,a<b∧(b:Int)∈nth x.1 a
section
variable {s:List Int} {n k c:Nat} {x:TgS}
theorem mU {p b:Nat} {m:MS} (hp:p<x.1.length) (i:Nat):nth (jx x p b m).1 i=if p=i then nth x.1 p++[(b:Int)] else nth x.1 i:=by
 show nth (x.1.set p _) i=_
 rcases Nat.lt_or_ge i x.1.length with hl | hl
 ·rw [aF hl]
 ·rw [aR (by simpa using hl),if_neg (by omega),aR hl]
theorem Tt.put (h:Tt n k c x) {p b:Nat} {m:MS} (hp:p<n) (h1:1≤b) (hb:b<n):Tt n k (c+1) (jx x p b m)∧(b:Int)∈nth (jx x p b m).1 p:=by
 have hp':p<x.1.length:=by rw [h.len];exact hp
 refine ⟨⟨pD.trans h.len,fun i=>?_,fun i v hv=>?_,fun d h1 h2=>?_⟩,by rw [mU hp',if_pos rfl];exact List.mem_append_right _ (List.mem_singleton.2 rfl)⟩
 ·rw [mU hp'];split
  ·rw [List.length_append,List.length_singleton];have:=h.row p;omega
  ·have:=h.row i;omega
 ·rw [mU hp'] at hv;split at hv
  ·rcases List.mem_append.1 hv with hv | hv
   ·exact h.rng _ v hv
   ·rw [List.mem_singleton.1 hv];omega
  ·exact h.rng _ v hv
 ·obtain ⟨a,h3,h4⟩:=h.way d h1 h2
  refine ⟨a,h3,?_⟩
  rw [mU hp'];split
  ·rename_i e;subst e;exact List.mem_append_left _ h4
  ·exact h4
theorem Tt.tgA (h:Tt n k c x) (hk:k+1<n):Tt n (k+1) (c+1) (tgA s k x):=by
 have key : ∀ {p:Nat} {m:MS},p≤k→Tt n (k+1) (c+1) (jx x p (k+1) m):=fun {p m} hp=>by
  obtain ⟨h1,h2⟩:=h.put (p:=p) (b:=k+1) (m:=m) (by omega) (by omega) hk
  refine ⟨h1.len,h1.row,h1.rng,fun b hb1 hb2=>?_⟩
  rcases Nat.lt_or_ge k b with q | q
  ·have:b=k+1:=by omega
   subst this;exact ⟨p,by omega,h2⟩
  ·exact h1.way b hb1 q
 unfold Go.Proofs.Ytbkdlhkoiagbbaa.tgA
 split
 ·have:=a8 (s:=s) (at_:=x.2.at_+1) (n:=((k+1:Nat):Int)) (by omega)
  exact key (by omega)
 ·exact key (Nat.le_refl _)
theorem Tt.tgI (h:Tt n k c x) {b:Nat} (hb:b<n) (hn:1<n):Tt n k (c+1) (tgI s n b x):=by
 have:=a8 (s:=s) (at_:=x.2.at_) (n:=(n:Int)-1) (by omega)
 unfold Go.Proofs.Ytbkdlhkoiagbbaa.tgI
 simp only
 repeat' split
 ·exact (h.put (by omega) (by omega) (by omega)).1
 ·exact (h.put (by omega) (by omega) (by omega)).1
 ·exact (h.put (by omega) (by omega) (by omega)).1
theorem Tt.upI (h:Tt n k c x) {b:Nat} (hb:b<n) (hn:1<n) : ∀ j,Tt n k (c+j) (up (fun _=>Go.Proofs.Ytbkdlhkoiagbbaa.tgI s n b) j x)
 | 0=>h
 | j+1=>(Tt.upI h hb hn j).tgI hb hn
theorem Tt.mono {d:Nat} (h:Tt n k c x) (hd:c≤d):Tt n k d x:=⟨h.len,fun i=>Nat.le_trans (h.row i) hd,h.rng,h.way⟩
theorem Tt.tgB (h:Tt n k c x) {b:Nat} (hb:b<n):Tt n k (c+2) (tgB s n b x):=by
 unfold Go.Proofs.Ytbkdlhkoiagbbaa.tgB
 have h0:Tt n k c (x.1,x.2.took):=⟨h.len,h.row,h.rng,h.way⟩
 by_cases hn:1<n
 ·rw [if_pos hn]
  have:=a8 (s:=s) (at_:=x.2.at_) (n:=6) (by decide)
  exact (h0.upI hb hn _).mono (by omega)
 ·rw [if_neg hn]
  exact h0.mono (by omega)
theorem Tt.upB (h:Tt n k c x) : ∀ j,j≤n→Tt n k (c+2*j) (up (Go.Proofs.Ytbkdlhkoiagbbaa.tgB s n) j x)
 | 0,_=>h
 | j+1,hj=>(Tt.upB h j (by omega)).tgB (by omega)
theorem Tt.upA (h:Tt n 0 c x) : ∀ j,j<n→Tt n j (c+j) (up (Go.Proofs.Ytbkdlhkoiagbbaa.tgA s) j x)
 | 0,_=>h
 | j+1,hj=>(Tt.upA h j (by omega)).tgA hj
theorem ve:Tt (aC s) (aC s-1) 26 (dN s):=by
 obtain ⟨h1,h2⟩:=dI (s:=s)
 have e : ∀ i,nth (List.replicate (aC s) ([]:List Int)) i=[]:=fun i=>by
  rcases Nat.lt_or_ge i (aC s) with hi | hi
  ·rw [ao hi]
  ·rw [aR (by simpa using hi)];rfl
 have t0:Tt (aC s) 0 0 (List.replicate (aC s) ([]:List Int),qe s):=⟨by simp,fun i=>by rw [e];exact Nat.le_refl _,fun i v hv=>by { rw [e] at hv;cases hv },fun b h1 h2=>by omega⟩
 exact ((t0.upA (s:=s) (aC s-1) (by omega)).upB (s:=s) (aC s) (Nat.le_refl _)).mono (by omega)
end
structure Gt (n:Nat) (to:List (List Int)) (m:MS):Prop where
 len:m.blocks.length=n
 to : ∀ j,j<n→(nth m.blocks j).term.to=nth to j
section
variable {s:List Int} {n:Nat} {to:List (List Int)} {m m':MS} {b:Nat}
theorem Gt.ext (g:Gt n to m) (e:Ext m m'):Gt n to m':=⟨e.len.trans g.len,fun j hj=>(e.to j).trans (g.to j hj)⟩
theorem Az {l:List Int} {j:Nat} (hb:b<m.blocks.length):nth (m.fe b l).blocks j=if b=j then { nth m.blocks b with term:={ (nth m.blocks b).term with to:=l } } else nth m.blocks j:=by
 show nth (m.blocks.set b _) j=_
 rcases Nat.lt_or_ge j m.blocks.length with hl | hl
 ·rw [aF hl]
 ·rw [aR (by simpa using hl),if_neg (by omega),aR hl]
theorem xu {m0:MS} (hl:m0.blocks=List.replicate n my) : ∀ k,k≤n→(up (fun b m=>MS.fe m b (nth to b)) k m0).blocks.length=n∧(∀ j,j<n→nth (up (fun b m=>MS.fe m b (nth to b)) k m0).blocks j=⟨[],[],⟨0,[],if j<k then nth to j else [],⟨0⟩⟩⟩)∧(up (fun b m=>MS.fe m b (nth to b)) k m0).ps=m0.ps∧(up (fun b m=>MS.fe m b (nth to b)) k m0).next=m0.next
 | 0,_=>⟨by show m0.blocks.length=n;rw [hl,List.length_replicate],fun j hj=>by show nth m0.blocks j=_;rw [hl,ao hj,if_neg (by omega)];rfl,rfl,rfl⟩
 | k+1,hk=>by
  obtain ⟨h1,h2,h3,h4⟩:=xu hl k (by omega)
  refine ⟨?_,fun j hj=>?_,h3,h4⟩
  ·show (List.set _ _ _).length=n
   rw [List.length_set];exact h1
  ·show nth (MS.fe _ k (nth to k)).blocks j=_
   rw [Az (by rw [h1];omega),h2 k (by omega),h2 j hj]
   by_cases e:k=j
   ·subst e;rw [if_pos rfl,if_pos (Nat.lt_succ_self _)]
   ·rw [if_neg e]
    by_cases h:j<k
    ·rw [if_pos h,if_pos (by omega)]
    ·rw [if_neg h,if_neg (by omega)]
theorem xA:(ju s).blocks.length=aC s∧(∀ j,j<aC s→nth (ju s).blocks j=⟨[],[],⟨0,[],nth (dN s).1 j,⟨0⟩⟩⟩)∧(ju s).ps=az s 0 5∧(ju s).next=az s 0 5:=by
 have e:=nR (s:=s)
 obtain ⟨h1,h2,h3,h4⟩:=xu (n:=aC s) (to:=(dN s).1) (m0:={ (dN s).2 with blocks:=List.replicate (aC s) my }) rfl (aC s) (Nat.le_refl _)
 exact ⟨h1,fun j hj=>by have:=h2 j hj;rw [if_pos hj] at this;exact this,h3.trans e.1,h4.trans e.2.2.1⟩
theorem Re.congr {g g':Gr} (e:g=g') {a:Int} {b:Nat}:Re g a b↔Re g' a b:=by rw [e]
theorem Fj {l:List BlkD} (h0:0<l.length) (h : ∀ b:Nat,1≤b→b<l.length→∃ a,a<b∧(b:Int)∈(nth l a).term.to) : ∀ b,b<l.length→Re (ofG l) (-1) b:=by
 intro b
 induction b using Nat.strongRecOn with
 | ind b ih=>
  intro hb
  rcases Nat.eq_zero_or_pos b with rfl | hp
  ·exact .root (by rw [dk];exact hb) (by decide)
  ·obtain ⟨a,ha,hm⟩:=h b hp hb
   refine .step (ih a ha (by omega)) ?_ (by omega)
   rw [dh]
   exact ⟨⟨by omega,by omega,by omega,by omega⟩,by rw [Int.toNat_natCast];exact hm⟩
theorem CG {l:List BlkD} {dn:BL} (hw : ∀ b,b<l.length→Re (ofG l) (-1) b) {b:Nat} (hb:b<l.length) (hd:nth dn b=false) : ∃ x,x<l.length∧nth dn x=false∧∀ a,a<l.length→a=x∨nth dn a=true∨Re (ofG l) (a:Int) x:=by
  have key : ∀ {b:Nat},Re (ofG l) (-1) b→(∃ x,x<l.length∧nth dn x=false∧∀ a,a<l.length→a=x∨nth dn a=true∨Re (ofG l) (a:Int) x)∨(nth dn b=true∧∀ a,a<l.length→nth dn a=false→Re (ofG l) (a:Int) b):=by
    intro b h
    induction h with
    | root h0 _=>
      cases e:nth dn 0 with
      | true=>exact .inr ⟨rfl,fun a _ ha=>.root h0 (by
                                                            rintro h;have:a=0:=by omega
                                                            subst this;rw [e] at ha;cases ha)⟩
      | false=>exact .inl ⟨0,by rw [dk] at h0;exact h0,e,fun a _=>by
          rcases Nat.eq_zero_or_pos a with q | q
          · exact .inl q
          · exact .inr (.inr (.root h0 (by omega)))⟩
    | @step a b ha he _ ih=>
      rcases ih with ih | ⟨ih1,ih2⟩
      · exact .inl ih
      have hlb:=(dh.1 he).1
      cases e:nth dn b with
      | true=>exact .inr ⟨rfl,fun c hc h=>.step (ih2 c hc h) he (by
                                                                         rintro q;have:b=c:=by omega
                                                                         subst this;rw [e] at h;cases h)⟩
      | false=>
        refine .inl ⟨b,by omega,e,fun c hc=>?_⟩
        rcases Nat.decEq c b with q | q
        · cases e2:nth dn c with
          | true=>exact .inr (.inl rfl)
          | false=>exact .inr (.inr (.step (ih2 c hc e2) he (by omega)))
        · exact .inl q
  rcases key (hw b hb) with h | ⟨h,_⟩
  · exact h
  · rw [hd] at h;cases h
theorem lu {j:Nat} (hb:b<m.blocks.length):nth (cE b m).blocks j=if b=j then { nth m.blocks b with phis:=(nth m.blocks b).phis++[⟨m.next,[]⟩] } else nth m.blocks j:=by
 show nth (m.blocks.set b _) j=_
 rcases Nat.lt_or_ge j m.blocks.length with hl | hl
 ·rw [aF hl]
 ·rw [aR (by simpa using hl),if_neg (by omega),aR hl]
structure P0 (n:Nat) (to:List (List Int)) (m:MS):Prop where
 gt:Gt n to m
 ok:Ok m
 none : ∀ j,j<n→(nth m.blocks j).ins=[]
theorem Ev {x:BlkD} {v:Int} (h:x.ins=[]):mkB { x with phis:=x.phis++[⟨v,[]⟩] }=mkB x++[v]:=by
 unfold mkB
 simp [h]
theorem P0.cE (q:P0 n to m) (hb:b<n):P0 n to (cE b m):=by
 have hbl:b<m.blocks.length:=by rw [q.gt.len];exact hb
 have hl:(Go.Proofs.Ytbkdlhkoiagbbaa.cE b m).blocks.length=m.blocks.length:=List.length_set
 have hlen:=q.gt.len
 have e:Ext m (Go.Proofs.Ytbkdlhkoiagbbaa.cE b m):=by
  refine ⟨rfl,hl,fun j=>?_,fun j=>?_,fun j=>?_⟩<;>rw [lu hbl]<;>split
  ·rename_i e;rw [e]
  ·rfl
  ·rename_i e;rw [←e];intro v hv
   show v∈(List.map PhiD.dst ((nth m.blocks b).phis++[_]))
   rw [List.map_append];exact List.mem_append_left _ hv
  ·exact fun _ h=>h
  ·rename_i e;rw [e];exact ⟨[],by simp⟩
  ·exact ⟨[],by simp⟩
 have hin : ∀ j,(nth (Go.Proofs.Ytbkdlhkoiagbbaa.cE b m).blocks j).ins=(nth m.blocks j).ins:=fun j=>by
  rw [lu hbl];split
  ·rename_i e;rw [e]
  ·rfl
 have htm : ∀ j,(nth (Go.Proofs.Ytbkdlhkoiagbbaa.cE b m).blocks j).term=(nth m.blocks j).term:=fun j=>by
  rw [lu hbl];split
  ·rename_i e;rw [e]
  ·rfl
 have hmk : ∀ j,j<n→mkB (nth (Go.Proofs.Ytbkdlhkoiagbbaa.cE b m).blocks j)=if b=j then mkB (nth m.blocks j)++[m.next] else mkB (nth m.blocks j):=fun j hj=>by
  rw [lu hbl];split
  ·rename_i e;rw [Ev (q.none b hb),e]
  ·rfl
 have k:=q.ok
 refine ⟨q.gt.ext e,⟨k.p0,by have:=k.pn;show m.ps≤m.next+1;omega,fun c hc=>?_,fun c hc=>?_,fun c d hc hd hcd=>?_,fun c hc=>?_,fun c hc i hi=>?_,fun c hc v hv=>?_⟩,fun j hj=>by rw [hin];exact q.none j hj⟩<;>rw [hl] at hc
 ·rw [hin];exact k.op c hc
 ·rw [hmk c (by omega)];split
  ·refine List.nodup_append.2 ⟨k.nd c hc,by simp,fun x hx y hy=>?_⟩
   have:=(k.rg c hc x hx).2
   have:=List.mem_singleton.1 hy
   omega
  ·exact k.nd c hc
 ·rw [hl] at hd
  rw [hmk c (by omega),hmk d (by omega)]
  intro v hv hv'
  have h1:v∈mkB (nth m.blocks c)∨(b=c∧v=m.next):=by
   split at hv
   ·rcases List.mem_append.1 hv with h | h
    ·exact .inl h
    ·exact .inr ⟨‹_›,List.mem_singleton.1 h⟩
   ·exact .inl hv
  have h2:v∈mkB (nth m.blocks d)∨(b=d∧v=m.next):=by
   split at hv'
   ·rcases List.mem_append.1 hv' with h | h
    ·exact .inl h
    ·exact .inr ⟨‹_›,List.mem_singleton.1 h⟩
   ·exact .inl hv'
  rcases h1 with h1 | ⟨h1,h1'⟩
  ·rcases h2 with h2 | ⟨h2,h2'⟩
   ·exact k.dj c d hc hd hcd v h1 h2
   ·have:=(k.rg c hc v h1).2;omega
  ·rcases h2 with h2 | ⟨h2,h2'⟩
   ·have:=(k.rg d hd v h2).2;omega
   ·exact hcd (h1.symm.trans h2)
 ·rw [hmk c (by omega)]
  intro v hv
  have h1:v∈mkB (nth m.blocks c)∨v=m.next:=by
   split at hv
   ·rcases List.mem_append.1 hv with h | h
    ·exact .inl h
    ·exact .inr (List.mem_singleton.1 h)
   ·exact .inl hv
  show m.ps≤v∧v<m.next+1
  rcases h1 with h1 | h1
  ·have:=k.rg c hc v h1;omega
  ·have:=k.pn;omega
 ·rw [hin,q.none c (by omega)] at hi
  exact absurd hi (Nat.not_lt_zero _)
 ·rw [htm] at hv
  exact (k.tm c hc v hv).end e
theorem P0.took (q:P0 n to m):P0 n to m.took:=⟨⟨q.gt.len,q.gt.to⟩,q.ok.at (Int.le_refl _),q.none⟩
theorem P0.jC (q:P0 n to m) (hb:b<n) : ∀ k,P0 n to (up (fun _=>Go.Proofs.Ytbkdlhkoiagbbaa.cE b) k m)∧(up (fun _=>Go.Proofs.Ytbkdlhkoiagbbaa.cE b) k m).next=m.next+k
 | 0=>⟨q,by show m.next=m.next+((0:Nat):Int);omega⟩
 | k+1=>by
  obtain ⟨h1,h2⟩:=P0.jC q hb k
  refine ⟨h1.cE hb,?_⟩
  show (up (fun _=>Go.Proofs.Ytbkdlhkoiagbbaa.cE b) k m).next+1=_
  rw [h2];omega
theorem P0.phis {lp:List Int} (q:P0 n to m) : ∀ k,k<n→P0 n to (up (cN s) k (lp,m)).2∧(up (cN s) k (lp,m)).2.next≤m.next+3*k∧nth (up (cN s) k (lp,m)).1 0=nth lp 0
 | 0,_=>⟨q,by show m.next≤_;omega,rfl⟩
 | k+1,hk=>by
  obtain ⟨h1,h2,h3⟩:=P0.phis (lp:=lp) q k (by omega)
  have e:up (cN s) (k+1) (lp,m)=cN s k (up (cN s) k (lp,m)):=rfl
  rw [e]
  generalize up (cN s) k (lp,m)=y at h1 h2 h3
  obtain ⟨c0,c1⟩:=lx (s:=s) (m:=y.2) (b:=k+1)
  obtain ⟨h4,h5⟩:=h1.took.jC (b:=k+1) hk (fu s y.2 (k+1)).toNat
  refine ⟨h4,?_,?_⟩
  ·show (up (fun _=>Go.Proofs.Ytbkdlhkoiagbbaa.cE (k+1)) (fu s y.2 (k+1)).toNat y.2.took).next≤_
   rw [h5]
   show y.2.next+_≤_
   omega
  ·show nth (y.1.set (k+1) _) 0=_
   rcases Nat.lt_or_ge 0 y.1.length with hl | hl
   ·rw [aF hl,if_neg (by omega)];exact h3
   ·rw [aR (by simpa using hl),←h3,aR hl]
theorem BA:P0 (aC s) (dN s).1 (ju s):=by
 obtain ⟨h1,h2,h3,h4⟩:=xA (s:=s)
 have t:=a8 (s:=s) (at_:=0) (n:=5) (by decide)
 refine ⟨⟨h1,fun j hj=>by rw [h2 j hj]⟩,⟨by rw [h3];omega,by rw [h3,h4];omega,fun b hb=>?_,fun b hb=>?_,fun a b ha hb _=>?_,fun b hb=>?_,fun b hb i hi=>?_,fun b hb=>?_⟩,fun j hj=>by rw [h2 j hj]⟩<;>rw [h1] at *
 ·rw [h2 b hb];intro i hi;cases hi
 ·rw [h2 b hb];exact List.nodup_nil
 ·rw [h2 a ha];intro v hv;cases hv
 ·rw [h2 b hb];intro v hv;cases hv
 ·rw [h2 b hb] at hi;exact absurd hi (Nat.not_lt_zero _)
 ·rw [h2 b hb];intro v hv;cases hv
theorem xx:P0 (aC s) (dN s).1 (eO s).2∧(eO s).2.next≤28∧nth (eO s).1 0=0:=by
 obtain ⟨h1,h2⟩:=dI (s:=s)
 obtain ⟨q1,q2,q3⟩:=(BA (s:=s)).phis (s:=s) (lp:=List.replicate (aC s) 0) (aC s-1) (by omega)
 have t:=a8 (s:=s) (at_:=0) (n:=5) (by decide)
 have e:=(xA (s:=s)).2.2.2
 refine ⟨q1,?_,?_⟩
 ·show (up (cN s) (aC s-1) (List.replicate (aC s) 0,ju s)).2.next≤28
  omega
 ·show nth (up (cN s) (aC s-1) (List.replicate (aC s) 0,ju s)).1 0=0
  rw [q3,ao (by omega)]
def cnt0:BL→Nat
 | []=>0
 | a::l=>(if a=true then 0 else 1)+cnt0 l
theorem j8 {α:Type} [Inhabited α] {a:α} {l:List α} {j:Nat}:nth (a::l) (j+1)=nth l j:=by simp [nth]
theorem zN : ∀ {l l':BL},l.length=l'.length→(∀ j,j<l.length→nth l j=true→nth l' j=true)→cnt0 l'≤cnt0 l
 | [],[],_,_=>Nat.le_refl _
 | a::l,a'::l',hl,h=>by
  have h1:=zN (l:=l) (l':=l') (by simpa using hl) fun j hj=>by
   have:=h (j+1) (by simpa using hj)
   rwa [j8,j8] at this
  have h2:a=true→a'=true:=h 0 (by simp)
  unfold cnt0
  cases a<;>cases a'<;>simp_all<;>omega
theorem vQ : ∀ {l l':BL},l.length=l'.length→(∀ j,j<l.length→nth l j=true→nth l' j=true)→∀ b,b<l.length→nth l b=false→nth l' b=true→cnt0 l'<cnt0 l
 | [],[],_,_,b,hb,_,_=>absurd hb (Nat.not_lt_zero _)
 | a::l,a'::l',hl,h,b,hb,h0,h1=>by
  have hr : ∀ j,j<l.length→nth l j=true→nth l' j=true:=fun j hj=>by
   have:=h (j+1) (by simpa using hj)
   rwa [j8,j8] at this
  have hll:l.length=l'.length:=by simpa using hl
  have h2:a=true→a'=true:=h 0 (by simp)
  match b,hb,h0,h1 with
  | 0,_,h0,h1=>
   have h0:a=false:=h0
   have h1:a'=true:=h1
   have:=zN hll hr
   unfold cnt0
   rw [h0,h1]
   simp
   omega
  | b+1,hb,h0,h1=>
   rw [j8] at h0 h1
   have:=vQ hll hr b (by simpa using hb) h0 h1
   unfold cnt0
   cases a<;>cases a'<;>simp_all<;>omega
theorem tL : ∀ {l:BL},cnt0 l=0→∀ j,j<l.length→nth l j=true
 | [],_,j,hj=>absurd hj (Nat.not_lt_zero _)
 | a::l,h,j,hj=>by
  unfold cnt0 at h
  match j,hj with
  | 0,_=>show a=true;cases a<;>simp_all
  | j+1,hj=>rw [j8];exact tL (by omega) j (by simpa using hj)
theorem sn : ∀ {l:BL},cnt0 l≤l.length
 | []=>Nat.le_refl _
 | a::l=>by
  have:=sn (l:=l)
  unfold cnt0
  rw [List.length_cons]
  split<;>omega
theorem tj {f:Nat→Bool} : ∀ (n:Nat) (r:Bool),r=true→(∀ a,a<n→f a=true)→up (fun a r=>r&&f a) n r=true
 | 0,r,h,_=>h
 | n+1,r,h,hf=>by
  show (up (fun a r=>r&&f a) n r&&f n)=true
  rw [tj n r h fun a ha=>hf a (by omega),hf n (by omega)]
  rfl
theorem zQ (hl:m.blocks.length=n) {a:Nat} (ha:a<n) (hb:b<n):nth (nth (gZ m.f n) a) b=true↔Re (ofG m.blocks) (a:Int) b:=by
 unfold gZ
 rw [dD ha]
 exact fq (by show b<m.blocks.length;omega)
theorem B1 {dn:BL} (hl:m.blocks.length=n) (hb:b<n) (hd:nth dn b=false) (h : ∀ a,a<n→a=b∨nth dn a=true∨Re (ofG m.blocks) (a:Int) b):kV dn (gZ m.f n) b n=true:=by
 unfold kV
 refine tj n _ (by simp [hd]) fun a ha=>?_
 rcases h a ha with e | e | e
 ·simp [e]
 ·simp [e]
 ·simp [(zQ hl ha hb).2 e]
theorem Dw {dn:BL} (hp:0≤m.ps) (hl:m.blocks.length=n) (hb:b<n) : ∀ v∈js m dn (gZ m.f n) b n,Sd m b (nth m.blocks b).ins.length v:=by
 have key : ∀ k,k≤n→∀ v∈up (fA m dn (gZ m.f n) b) k (rows (fun i=>(i:Int)) m.ps.toNat),Sd m b (nth m.blocks b).ins.length v:=by
  intro k
  induction k with
  | zero=>
   intro _ v hv
   obtain ⟨i,hi,rfl⟩:=rq.1 hv
   exact .inl ⟨by omega,by omega⟩
  | succ k ih=>
   intro hk v hv
   have hv:v∈fA m dn (gZ m.f n) b k (up (fA m dn (gZ m.f n) b) k (rows (fun i=>(i:Int)) m.ps.toNat)):=hv
   unfold fA at hv
   split at hv
   ·exact ih (by omega) v hv
   ·rename_i hc
    rw [List.append_assoc] at hv
    rcases List.mem_append.1 hv with h1 | h1
    ·exact ih (by omega) v h1
    ·clear hv
     rcases Nat.decEq k b with e | e
     ·refine .inr (.inr (.inr ⟨k,by omega,e,h1,fun hr=>hc ?_⟩))
      rw [(zQ hl (by omega) hb).2 hr]
      simp [e]
     ·subst e
      rcases List.mem_append.1 h1 with h2 | h2
      ·exact .inr (.inl h2)
      ·refine .inr (.inr (.inl ?_))
       rw [List.take_length];exact h2
 exact key n (Nat.le_refl _)
theorem Ok.dR (q:In b m) {t:dG} (ht:t.to=(nth m.blocks b).term.to) (ha : ∀ v∈t.args,v∈m.live):Ok (m.dR b t)∧Ext m (m.dR b t):=by
 have hnth : ∀ j,nth (m.dR b t).blocks j=if b=j then { nth m.blocks b with term:=t } else nth m.blocks j:=fun j=>by
  show nth (m.blocks.set b _) j=_
  rcases Nat.lt_or_ge j m.blocks.length with hl | hl
  ·rw [aF hl]
  ·have:=q.lt
   rw [aR (by simpa using hl),if_neg (by omega),aR hl]
 have hl:(m.dR b t).blocks.length=m.blocks.length:=List.length_set
 have hin : ∀ j,(nth (m.dR b t).blocks j).ins=(nth m.blocks j).ins:=fun j=>by
  rw [hnth];split
  ·rename_i e;rw [e]
  ·rfl
 have hph : ∀ j,(nth (m.dR b t).blocks j).phis=(nth m.blocks j).phis:=fun j=>by
  rw [hnth];split
  ·rename_i e;rw [e]
  ·rfl
 have e:Ext m (m.dR b t):=⟨rfl,hl,fun j=>by
  rw [hnth];split
  ·rename_i e;rw [←e];exact ht
  ·rfl,fun j v h=>by rw [hph];exact h,fun j=>⟨[],by rw [hin];simp⟩⟩
 have hmk : ∀ j,mkB (nth (m.dR b t).blocks j)=mkB (nth m.blocks j):=fun j=>by unfold mkB;rw [hin,hph]
 have k:=q.ok
 refine ⟨⟨k.p0,k.pn,fun c hc=>?_,fun c hc=>?_,fun c d hc hd=>?_,fun c hc=>?_,fun c hc i hi v hv=>?_,fun c hc v hv=>?_⟩,e⟩<;>rw [hl] at hc
 ·rw [hin];exact k.op c hc
 ·rw [hmk];exact k.nd c hc
 ·rw [hl] at hd;rw [hmk,hmk];exact k.dj c d hc hd
 ·rw [hmk];exact k.rg c hc
 ·rw [hin] at hi hv;exact (k.tk c hc i hi v hv).ext e
 ·rw [hnth] at hv
  split at hv
  ·rename_i e1;subst e1
   exact (q.live v (ha v hv)).end e
  ·exact (k.tm c hc v hv).end e
structure D4 (n:Nat) (to:List (List Int)) (x:BL × MS):Prop where
 gt:Gt n to x.2
 ok:Ok x.2
 len:x.1.length=n
 term : ∀ j,j<n→nth x.1 j=true→jh (nth x.2.blocks j).term=true
 emp : ∀ j,j<n→nth x.1 j=false→(nth x.2.blocks j).ins.length=0
 ins : ∀ j,j<n→(nth x.2.blocks j).ins.length≤45
 nx:x.2.next+45*(cnt0 x.1:Nat)≤28+45*n
theorem D4.step {x:BL × MS} (q:D4 n to x) (hb:b<n) (ht:(nth to b).length≤65):D4 n to (aI s to n b x)∧(∀ j,nth x.1 j=true→nth (aI s to n b x).1 j=true)∧(kV x.1 (gZ x.2.f n) b n=true→nth (aI s to n b x).1 b=true):=by
 unfold aI
 have hlen:=q.gt.len
 have hbl:b<x.2.blocks.length:=by rw [hlen];exact hb
 split
 ·rename_i hr
  have hd:=kU hr
  have hset : ∀ j,nth (x.1.set b true) j=if b=j then true else nth x.1 j:=fun j=>by
   have:=q.len
   rcases Nat.lt_or_ge j x.1.length with hl | hl
   ·rw [aF hl]
   ·rw [aR (by simpa using hl),if_neg (by omega),aR hl]
  generalize hdn:x.1.set b true=dn at hset
  have hdl:dn.length=n:=by rw [←hdn,List.length_set];exact q.len
  have hmono : ∀ j,nth x.1 j=true→nth dn j=true:=fun j hj=>by rw [hset];split<;>simp_all
  have hlt:cnt0 dn<cnt0 x.1:=vQ (by rw [hdl];exact q.len) (fun j _=>hmono j) b (by rw [q.len];exact hb) hd (by rw [hset,if_pos rfl])
  refine ⟨?_,hmono,fun _=>by rw [hset,if_pos rfl]⟩
  generalize hm1:(MS.took { x.2 with live:=js x.2 dn (gZ x.2.f n) b n }:MS)=m1
  have hB:m1.blocks=x.2.blocks:=by rw [←hm1];rfl
  have hN:m1.next=x.2.next:=by rw [←hm1];rfl
  have i1:In b m1:=by
   rw [←hm1]
   exact ⟨q.ok.at (Int.le_refl _),hbl,Dw (m:=x.2) (dn:=dn) q.ok.p0 hlen hb⟩
  have tk:=a8 (s:=s) (at_:=x.2.at_) (n:=7) (by decide)
  have w1:=i1.dB (s:=s) (az s x.2.at_ 7).toNat
  obtain ⟨w2,t1,t2,t3⟩:=w1.inn.term (s:=s) ht
  have g:=((Grw.refl (b:=b) (m:=m1)).dB (s:=s) i1.lt (az s x.2.at_ 7).toNat).C1 (s:=s) (to:=nth to b) i1.lt
  have w:=w1.trans w2
  have eD:gq s to n dn (gZ x.2.f n) b x.2=kt s (nth to b) b (up (fun _=>aB s b) (az s x.2.at_ 7).toNat m1):=by rw [←hm1];rfl
  rw [eD]
  unfold kt
  generalize dH s (nth to b) b (up (fun _=>aB s b) (az s x.2.at_ 7).toNat m1)=r at w2 t1 t2 t3 g w
  have e0:Ext x.2 r.2:=by
   have e:=w.ext
   exact ⟨by rw [e.ps,←hm1];rfl,by rw [e.len,hB],fun j=>by rw [e.to,hB],fun j v hv=>e.phis j v (by rw [hB];exact hv),fun j=>by have:=e.ins j;rw [hB] at this;exact this⟩
  have gt2:=q.gt.ext e0
  obtain ⟨k1,k2⟩:=Ok.dR w2.inn (t:=r.1) (by rw [t2,gt2.to b hb]) t3
  have hnth : ∀ j,nth (r.2.dR b r.1).blocks j=if b=j then { nth r.2.blocks b with term:=r.1 } else nth r.2.blocks j:=fun j=>by
   show nth (r.2.blocks.set b _) j=_
   have:=gt2.len
   rcases Nat.lt_or_ge j r.2.blocks.length with hl | hl
   ·rw [aF hl]
   ·rw [aR (by simpa using hl),if_neg (by omega),aR hl]
  have hels : ∀ j,b≠j→nth (r.2.dR b r.1).blocks j=nth x.2.blocks j:=fun j hj=>by
   rw [hnth,if_neg hj,g.els j (fun e=>hj e.symm),hB]
  have hlen0:=q.emp b hb hd
  refine ⟨gt2.ext k2,k1,hdl,fun j hj h=>?_,fun j hj h=>?_,fun j hj=>?_,?_⟩
  ·by_cases e:b=j
   ·show jh (nth (r.2.dR b r.1).blocks j).term=true
    rw [hnth,if_pos e];exact t1
   ·show jh (nth (r.2.dR b r.1).blocks j).term=true
    rw [hels j e]
    refine q.term j hj ?_
    have h:nth dn j=true:=h
    rw [hset,if_neg e] at h;exact h
  ·have h:nth dn j=false:=h
   rw [hset] at h
   split at h
   ·cases h
   ·rename_i e
    show (nth (r.2.dR b r.1).blocks j).ins.length=0
    rw [hels j e];exact q.emp j hj h
  ·show (nth (r.2.dR b r.1).blocks j).ins.length≤45
   by_cases e:b=j
   ·rw [hnth,if_pos e]
    have:=w.ins
    rw [hB] at this
    show (nth r.2.blocks b).ins.length≤45
    omega
   ·rw [hels j e];exact q.ins j hj
  ·show r.2.next+45*((cnt0 dn:Nat):Int)≤_
   have:=w.nx
   have:=q.nx
   omega
 ·rename_i hr
  exact ⟨q,fun j h=>h,fun h=>absurd h hr⟩
theorem D4.upto {x:BL × MS} (q:D4 n to x) (ht : ∀ j,(nth to j).length≤65) : ∀ k,k≤n→D4 n to (up (aI s to n) k x)∧(∀ j,nth x.1 j=true→nth (up (aI s to n) k x).1 j=true)∧(∀ b,b<k→nth x.1 b=false→(∀ a,a<n→a=b∨nth x.1 a=true∨Re (ofG x.2.blocks) (a:Int) b)→nth (up (aI s to n) k x).1 b=true)
 | 0,_=>⟨q,fun j h=>h,fun b hb=>absurd hb (Nat.not_lt_zero _)⟩
 | k+1,hk=>by
  obtain ⟨h1,h2,h3⟩:=D4.upto q ht k (by omega)
  have e:up (aI s to n) (k+1) x=aI s to n k (up (aI s to n) k x):=rfl
  rw [e]
  generalize up (aI s to n) k x=y at h1 h2 h3
  obtain ⟨h4,h5,h6⟩:=h1.step (s:=s) (b:=k) (by omega) (ht k)
  refine ⟨h4,fun j h=>h5 j (h2 j h),fun b hb hd hr=>?_⟩
  rcases Nat.lt_or_ge b k with h | h
  ·exact h5 b (h3 b h hd hr)
  ·have:b=k:=by omega
   subst this
   cases hy:nth y.1 b with
   | true=>exact h5 b hy
   | false=>
    refine h6 (B1 h1.gt.len (by omega) hy fun a ha=>?_)
    rcases hr a ha with r | r | r
    ·exact .inl r
    ·exact .inr (.inl (h2 a r))
    ·refine .inr (.inr ?_)
     have eg:ofG y.2.blocks=ofG x.2.blocks:=by
      unfold ofG
      rw [h1.gt.len,q.gt.len]
      refine List.map_congr_left fun i hi=>?_
      have hi:i<n:=List.mem_range.1 hi
      rw [h1.gt.to i hi,q.gt.to i hi]
     rw [eg];exact r
theorem D4.turn {x:BL × MS} (q:D4 n to x) (ht : ∀ j,(nth to j).length≤65) (hw : ∀ b,b<n→Re (ofG x.2.blocks) (-1) b):D4 n to (up (aI s to n) n x)∧(cnt0 (up (aI s to n) n x).1=0∨cnt0 (up (aI s to n) n x).1<cnt0 x.1):=by
 obtain ⟨h1,h2,h3⟩:=q.upto (s:=s) ht n (Nat.le_refl _)
 refine ⟨h1,?_⟩
 generalize up (aI s to n) n x=y at h1 h2 h3
 by_cases hz : ∃ b,b<n∧nth x.1 b=false
 ·obtain ⟨b,hb,hd⟩:=hz
  obtain ⟨c,k1,k2,k3⟩:=CG (l:=x.2.blocks) (dn:=x.1) (fun b hb=>hw b (by rw [q.gt.len] at hb;exact hb)) (b:=b) (by rw [q.gt.len];exact hb) hd
  rw [q.gt.len] at k1 k3
  exact .inr (vQ (by rw [h1.len,q.len]) (fun j _=>h2 j) c (by rw [q.len];exact k1) k2 (h3 c k1 k2 k3))
 ·refine .inl ?_
  have : ∀ {l:BL},(∀ j,j<l.length→nth l j=true)→cnt0 l=0:=fun {l}=>by
   induction l with
   | nil=>intro _;rfl
   | cons a l ih=>
    intro h
    have h1:a=true:=h 0 (by simp)
    have h2:=ih fun j hj=>by have:=h (j+1) (by simpa using hj);rwa [j8] at this
    unfold cnt0;rw [h1,h2];rfl
  refine this fun j hj=>h2 j ?_
  rw [h1.len] at hj
  cases e:nth x.1 j with
  | true=>rfl
  | false=>exact absurd ⟨j,hj,e⟩ hz
theorem D4.turns {x:BL × MS} (q:D4 n to x) (ht : ∀ j,(nth to j).length≤65) (hw : ∀ {m:MS},Gt n to m→∀ b,b<n→Re (ofG m.blocks) (-1) b) : ∀ k,D4 n to (up (fun _=>up (aI s to n) n) k x)∧(cnt0 (up (fun _=>up (aI s to n) n) k x).1=0∨cnt0 (up (fun _=>up (aI s to n) n) k x).1+k≤n)
 | 0=>⟨q,.inr (by have:=sn (l:=x.1);rw [q.len] at this;exact this)⟩
 | k+1=>by
  obtain ⟨h1,h2⟩:=D4.turns q ht hw k
  have e:up (fun _=>up (aI s to n) n) (k+1) x=up (aI s to n) n (up (fun _=>up (aI s to n) n) k x):=rfl
  rw [e]
  generalize up (fun _=>up (aI s to n) n) k x=y at h1 h2
  obtain ⟨h3,h4⟩:=h1.turn (s:=s) ht (hw h1.gt)
  refine ⟨h3,?_⟩
  rcases h4 with h4 | h4
  ·exact .inl h4
  ·rcases h2 with h2 | h2
   ·omega
   ·exact .inr (by omega)
theorem CC {m:MS} (g:Gt (aC s) (dN s).1 m) : ∀ b,b<aC s→Re (ofG m.blocks) (-1) b:=by
 have t:=ve (s:=s)
 obtain ⟨h1,h2⟩:=dI (s:=s)
 intro b hb
 refine Fj (by rw [g.len];omega) (fun b h1 hb=>?_) b (by rw [g.len];exact hb)
 rw [g.len] at hb
 obtain ⟨a,ha,hm⟩:=t.way b h1 (by omega)
 exact ⟨a,ha,by rw [g.to a (by omega)];exact hm⟩
theorem Ef:D4 (aC s) (dN s).1 (kJ s)∧∀ j,j<aC s→nth (kJ s).1 j=true:=by
 obtain ⟨q,h1,h2⟩:=xx (s:=s)
 have t:=ve (s:=s)
 have hr : ∀ j,nth (List.replicate (aC s) false) j=false:=fun j=>by
  rcases Nat.lt_or_ge j (aC s) with hl | hl
  ·rw [ao hl]
  ·rw [aR (by simpa using hl)];rfl
 have d0:D4 (aC s) (dN s).1 (List.replicate (aC s) false,(eO s).2):=
  ⟨q.gt,q.ok,by simp,fun j hj h=>by { rw [hr] at h;cases h },fun j hj _=>by { show (nth (eO s).2.blocks j).ins.length=0;rw [q.none j hj];rfl },fun j hj=>by { show (nth (eO s).2.blocks j).ins.length≤45;rw [q.none j hj];exact Nat.zero_le _ },by
   have:=sn (l:=List.replicate (aC s) false)
   rw [List.length_replicate] at this
   show (eO s).2.next+45*((cnt0 (List.replicate (aC s) false):Nat):Int)≤_
   omega⟩
 obtain ⟨h3,h4⟩:=d0.turns (s:=s) (fun j=>by have:=t.row j;omega) (fun g=>CC g) (aC s)
 refine ⟨h3,fun j hj=>?_⟩
 have h4:cnt0 (kJ s).1=0∨cnt0 (kJ s).1+aC s≤aC s:=h4
 exact tL (by omega) j (by rw [show (kJ s).1.length=aC s from h3.len];exact hj)
end
end Go.Proofs.Ytbkdlhkoiagbbaa
namespace Go.Proofs.Ytbkdlhkoiagbbaa
open Go Go.Lft
section
variable {s:List Int} {n:Nat} {to:List (List Int)} {m m':MS} {b:Nat}
theorem nD {α:Type} [Inhabited α] {β:Type} {l:List α} {g:α→β}:rows (fun i=>g (nth l i)) l.length=l.map g:=by
 refine List.ext_getElem (by simp) fun i h1 h2=>?_
 have hi:i<l.length:=by simpa using h2
 simp [rows,ak hi]
theorem uP {f:ah}:gK (thB f b)=mkB (nth f.blocks b):=by
 unfold thB gK mkB
 rw [List.flatMap_append,List.flatMap_append]
 have e1:(rows (phiT f b) (nth f.blocks b).phis.length).flatMap Th.mks=(nth f.blocks b).phis.map PhiD.dst:=by
  rw [←nD]
  unfold rows
  rw [List.flatMap_map]
  show (List.range _).flatMap (fun i=>[(nth (nth f.blocks b).phis i).dst])=_
  generalize List.range _=l
  induction l with
  | nil=>rfl
  | cons a l ih=>rw [List.flatMap_cons,ih,List.map_cons];rfl
 have e2:(rows (insT f b) (nth f.blocks b).ins.length).flatMap Th.mks=(nth f.blocks b).ins.flatMap aX:=by
  have h:(nth f.blocks b).ins.map aX=rows (fun i=>aX (nth (nth f.blocks b).ins i)) (nth f.blocks b).ins.length:=nD.symm
  rw [show (nth f.blocks b).ins.flatMap aX=((nth f.blocks b).ins.map aX).flatten from rfl,h]
  unfold rows
  rw [List.flatMap_map]
  rfl
 rw [e1,e2]
 simp [endT]
theorem xl {f:ah} {v:Int} : ∀ {k:Nat},v∈gK (thTo f k)↔∃ b,b<k∧v∈mkB (nth f.blocks b)
 | 0=>⟨fun h=>(by cases h),fun ⟨b,h,_⟩=>absurd h (Nat.not_lt_zero _)⟩
 | k+1=>by
  rw [fK]
  unfold gK
  rw [List.flatMap_append,List.mem_append]
  have ih:=xl (f:=f) (v:=v) (k:=k)
  unfold gK at ih
  rw [ih]
  have e:=uP (f:=f) (b:=k)
  unfold gK at e
  rw [e]
  constructor
  ·rintro (⟨b,h1,h2⟩ | h)
   ·exact ⟨b,by omega,h2⟩
   ·exact ⟨k,by omega,h⟩
  ·rintro ⟨b,h1,h2⟩
   rcases Nat.lt_or_ge b k with h | h
   ·exact .inl ⟨b,h,h2⟩
   ·have:b=k:=by omega
    subst this;exact .inr h2
theorem sZ {f:ah} (nd : ∀ b,b<f.blocks.length→(mkB (nth f.blocks b)).Nodup) (dj : ∀ a b,a<f.blocks.length→b<f.blocks.length→a≠b→∀ v∈mkB (nth f.blocks a),v∉mkB (nth f.blocks b)) : ∀ k,k≤f.blocks.length→(gK (thTo f k)).Nodup
 | 0,_=>List.nodup_nil
 | k+1,hk=>by
  rw [fK]
  have e:gK (thTo f k++thB f k)=gK (thTo f k)++mkB (nth f.blocks k):=by
   rw [←uP];exact List.flatMap_append
  rw [e]
  refine List.nodup_append.2 ⟨sZ nd dj k (by omega),nd k (by omega),fun x hx y hy=>?_⟩
  rintro rfl
  obtain ⟨b,h1,h2⟩:=xl.1 hx
  exact dj b k (by omega) (by omega) (by omega) x h2 hy
theorem FD {f:ah} (hb:b<f.blocks.length) {v:Int} (hv:v∈mkB (nth f.blocks b)) : ∃ t∈aG f,v∈t.mks∧t.blk=b:=by
 rcases List.mem_append.1 hv with h | h
 ·obtain ⟨p,hp,rfl⟩:=List.mem_map.1 h
  obtain ⟨i,hi,rfl⟩:=List.getElem_of_mem hp
  exact ⟨phiT f b i,cA.2 ⟨b,hb,cZ.2 (.inl ⟨i,hi,rfl⟩)⟩,by show _∈[_];rw [ak hi];exact List.mem_singleton.2 rfl,rfl⟩
 ·obtain ⟨p,hp,h2⟩:=List.mem_flatMap.1 h
  obtain ⟨i,hi,rfl⟩:=List.getElem_of_mem hp
  exact ⟨insT f b i,cA.2 ⟨b,hb,cZ.2 (.inr (.inl ⟨i,hi,rfl⟩))⟩,by show _∈aX _;rw [ak hi];exact h2,rfl⟩
theorem BE {f:ah} {t:Th} {v:Int} (ht:t∈aG f) (hv:v∈t.mks) : ∃ b,b<f.blocks.length∧t.blk=b∧v∈mkB (nth f.blocks b):=by
 obtain ⟨b,hb,hm⟩:=cA.1 ht
 refine ⟨b,hb,?_,?_⟩
 ·rcases cZ.1 hm with ⟨i,hi,rfl⟩ | ⟨i,hi,rfl⟩ | rfl<;>rfl
 ·rw [←uP];exact List.mem_flatMap.2 ⟨t,hm,hv⟩
theorem pI (hb:b<m.blocks.length) {p:Nat} {v:Int} (h:Sd m b p v):gT m.f v b p:=by
 rcases h with h | h | h | ⟨a,h1,h2,h3,h4⟩
 ·exact .inl h
 ·obtain ⟨q,hq,rfl⟩:=List.mem_map.1 h
  obtain ⟨i,hi,rfl⟩:=List.getElem_of_mem hq
  refine .inr ⟨phiT m.f b i,cA.2 ⟨b,hb,cZ.2 (.inl ⟨i,hi,rfl⟩)⟩,?_,.inl ⟨rfl,.inl ?_⟩⟩
  ·show _∈[(nth (nth m.blocks b).phis i).dst];rw [ak hi];exact List.mem_singleton.2 rfl
  ·show (-1-(i:Int))<0;omega
 ·obtain ⟨q,hq,h2⟩:=List.mem_flatMap.1 h
  obtain ⟨i,hi,rfl⟩:=List.getElem_of_mem hq
  have hi2:i<p∧i<(nth m.blocks b).ins.length:=by rw [List.length_take] at hi;omega
  rw [List.getElem_take] at h2
  refine .inr ⟨insT m.f b i,cA.2 ⟨b,hb,cZ.2 (.inr (.inl ⟨i,hi2.2,rfl⟩))⟩,?_,.inl ⟨rfl,.inr ?_⟩⟩
  ·show _∈aX (nth (nth m.blocks b).ins i);rw [ak hi2.2];exact h2
  ·show ((i:Nat):Int)<p;omega
 ·obtain ⟨t,ht,h5,h6⟩:=FD (f:=m.f) h1 h3
  refine .inr ⟨t,ht,h5,.inr ⟨by rw [h6];omega,?_⟩⟩
  rw [h6,Int.toNat_natCast];exact h4
theorem xi (hp:0≤m.ps) (hb:b<m.blocks.length) {v:Int} (h:v∈eT m.f b):Sd m b (nth m.blocks b).ins.length v:=by
 have key : ∀ (l:List Th) (o:List Int),(∀ t∈l,t∈aG m.f)→(∀ v∈o,Sd m b (nth m.blocks b).ins.length v)→∀ v∈l.foldl (dv m.f b) o,Sd m b (nth m.blocks b).ins.length v:=by
  intro l
  induction l with
  | nil=>intro o _ ho v hv;exact ho v hv
  | cons t l ih=>
   intro o hl ho v hv
   rw [List.foldl_cons] at hv
   refine ih _ (fun x hx=>hl x (List.mem_cons_of_mem _ hx)) (fun v hv=>?_) v hv
   unfold dv at hv
   split at hv
   ·rename_i ha
    rcases List.mem_append.1 hv with hv | hv
    ·exact ho v hv
    ·obtain ⟨a,h1,h2,h3⟩:=BE (hl t List.mem_cons_self) hv
     rcases Nat.decEq a b with e | e
     ·refine .inr (.inr (.inr ⟨a,h1,e,h3,fun hr=>?_⟩))
      unfold oE at ha
      rw [h2,(fq (f:=m.f) hb).2 hr] at ha
      simp at ha
      exact e (by omega)
     ·subst e
      rcases List.mem_append.1 h3 with h | h
      ·exact .inr (.inl h)
      ·refine .inr (.inr (.inl ?_))
       rw [List.take_length];exact h
   ·exact ho v hv
 unfold eT at h
 refine key _ _ (fun t h=>h) (fun v hv=>?_) v h
 obtain ⟨i,hi,rfl⟩:=rq.1 hv
 have hi:i<m.ps.toNat:=hi
 exact .inl ⟨by omega,by omega⟩
def PhOk (m:MS) (p:PhiD) (b:Nat):Prop:=p.ins.map InD.frm=aA m.f b∧∀ q∈p.ins,∃ c:Nat,q.frm=c∧c<m.blocks.length∧Sd m c (nth m.blocks c).ins.length q.val
theorem mE (hl:m'.blocks.length=m.blocks.length) (h : ∀ j,(nth m'.blocks j).term.to=(nth m.blocks j).term.to) {b:Int}:aA m'.f b=aA m.f b:=by
 unfold aA
 rw [show m'.f.blocks.length=m.f.blocks.length from hl]
 congr 1
 funext a
 rw [show (nth m'.f.blocks a).term.to=(nth m.f.blocks a).term.to from h a]
theorem PhOk.ext {p:PhiD} (h:PhOk m p b) (e:Ext m m'):PhOk m' p b:=
 ⟨by rw [mE e.len e.to];exact h.1,fun q hq=>by
  obtain ⟨c,h1,h2,h3⟩:=h.2 q hq
  exact ⟨c,h1,by rw [e.len];exact h2,h3.end e⟩⟩
structure D5 (n c:Nat) (to:List (List Int)) (m:MS):Prop where
 gt:Gt n to m
 ok:Ok m
 term : ∀ j,j<n→jh (nth m.blocks j).term=true
 ins : ∀ j,j<n→(nth m.blocks j).ins.length≤45+c
 nx:m.next≤433+c
theorem D5.mono {c d:Nat} (q:D5 n c to m) (h:c≤d):D5 n d to m:=⟨q.gt,q.ok,q.term,fun j hj=>by have:=q.ins j hj;omega,by have:=q.nx;omega⟩
theorem D5.took {c:Nat} (q:D5 n c to m):D5 n c to m.took:=⟨⟨q.gt.len,q.gt.to⟩,q.ok.at (Int.le_refl _),q.term,q.ins,q.nx⟩
theorem D5.constant {c:Nat} (q:D5 n c to m) (hb:b<n) {w:Int}:D5 n (c+1) to (m.constant b w)∧Ext m (m.constant b w)∧(∀ j,(nth (m.constant b w).blocks j).phis=(nth m.blocks j).phis)∧Sd (m.constant b w) b (nth (m.constant b w).blocks b).ins.length m.next:=by
 have hlen:=q.gt.len
 have hbl:b<m.blocks.length:=by rw [hlen];exact hb
 have e:m.constant b w=MS.add ⟨m.at_,m.ps,m.blocks,m.next+1,m.live⟩ b (conD m.next w):=rfl
 have mk:aX (conD m.next w)=[m.next]:=rfl
 have k:=q.ok.add (a:=m.at_) (nx:=m.next+1) (i:=conD m.next w) (l:=m.live) hbl (by omega) (by rw [mk];intro v hv;rw [List.mem_singleton.1 hv];omega) (by rw [mk];simp) ⟨rfl,fun h=>absurd h (show (1:Int)≠16 by decide),fun _=>rfl⟩ (fun v hv=>by cases hv)
 have ex:Ext m (m.constant b w):=(uZ (m:=⟨m.at_,m.ps,m.blocks,m.next+1,m.live⟩) (i:=conD m.next w) hbl).frm rfl rfl
 have hnth : ∀ j,nth (m.constant b w).blocks j=if b=j then { nth m.blocks b with ins:=(nth m.blocks b).ins++[conD m.next w] } else nth m.blocks j:=fun j=>mP (m:=⟨m.at_,m.ps,m.blocks,m.next+1,m.live⟩) hbl
 refine ⟨⟨q.gt.ext ex,k,fun j hj=>?_,fun j hj=>?_,?_⟩,ex,fun j=>?_,CB (m:=m) hbl (by rw [mk];exact List.mem_singleton.2 rfl)⟩
 ·rw [hnth];split
  ·exact q.term b hb
  ·exact q.term j hj
 ·have:=q.ins j hj
  rw [hnth];split
  ·rename_i e1;subst e1
   show ((nth m.blocks b).ins++[_]).length≤_
   rw [List.length_append,List.length_singleton];omega
  ·omega
 ·have:=q.nx
  show m.next+1≤_
  omega
 ·rw [hnth];split
  ·rename_i e1;rw [e1]
  ·rfl
theorem D5.row {c:Nat} (q:D5 n c to m) (hb:b<n):D5 n (c+1) to (rowS s b m).2∧Ext m (rowS s b m).2∧(∀ j,(nth (rowS s b m).2.blocks j).phis=(nth m.blocks j).phis)∧∀ v∈(rowS s b m).1,Sd (rowS s b m).2 b (nth (rowS s b m).2.blocks b).ins.length v:=by
 unfold rowS
 split
 ·obtain ⟨h1,h2,h3,h4⟩:=q.took.took.constant (w:=gQ s m) hb
  refine ⟨h1,⟨h2.ps,h2.len,h2.to,h2.phis,h2.ins⟩,h3,fun v hv=>?_⟩
  rw [List.mem_singleton.1 hv];exact h4
 ·have hlen:=q.gt.len
  exact ⟨q.mono (by omega),.refl,fun j=>rfl,fun v hv=>xi q.ok.p0 (by omega) hv⟩
theorem D5.ups {c:Nat} {p:List Int} (q:D5 n c to m) (hp : ∀ k,k<p.length→∃ a:Nat,nth p k=a∧a<n) : ∀ k,k≤p.length→
  D5 n (c+k) to (up (bA s p) k ([],m)).2∧Ext m (up (bA s p) k ([],m)).2∧(∀ j,(nth (up (bA s p) k ([],m)).2.blocks j).phis=(nth m.blocks j).phis)∧(up (bA s p) k ([],m)).1.map InD.frm=p.take k∧
   ∀ r∈(up (bA s p) k ([],m)).1,∃ a:Nat,r.frm=a∧a<n∧Sd (up (bA s p) k ([],m)).2 a (nth (up (bA s p) k ([],m)).2.blocks a).ins.length r.val
 | 0,_=>⟨q,.refl,fun _=>rfl,rfl,fun r hr=>by cases hr⟩
 | k+1,hk=>by
  obtain ⟨h1,h2,h3,h4,h5⟩:=D5.ups q hp k (by omega)
  obtain ⟨a,ha,han⟩:=hp k (by omega)
  have e1:(up (bA s p) (k+1) ([],m)).2=(rowS s (nth p k).toNat (up (bA s p) k ([],m)).2).2.took:=rfl
  have e2:(up (bA s p) (k+1) ([],m)).1=(up (bA s p) k ([],m)).1++[⟨nth p k,nth (rowS s (nth p k).toNat (up (bA s p) k ([],m)).2).1 (az s (rowS s (nth p k).toNat (up (bA s p) k ([],m)).2).2.at_ (rowS s (nth p k).toNat (up (bA s p) k ([],m)).2).1.length).toNat⟩]:=rfl
  rw [e1,e2]
  generalize up (bA s p) k ([],m)=y at h1 h2 h3 h4 h5
  have hat:(nth p k).toNat=a:=by omega
  rw [hat]
  obtain ⟨k1,k2,k3,k4⟩:=h1.row (s:=s) (b:=a) han
  have hpos:=xy (s:=s) (b:=a) (m:=y.2)
  generalize rowS s a y.2=r at k1 k2 k3 k4 hpos
  refine ⟨k1.took,h2.trans ⟨k2.ps,k2.len,k2.to,k2.phis,k2.ins⟩,fun j=>(k3 j).trans (h3 j),?_,fun t ht=>?_⟩
  ·rw [List.map_append,h4,List.take_succ_eq_append_getElem (by omega)]
   show p.take k++[nth p k]=_
   rw [ak (by omega)]
  ·rcases List.mem_append.1 ht with ht | ht
   ·obtain ⟨d,d1,d2,d3⟩:=h5 t ht
    exact ⟨d,d1,d2,d3.end k2⟩
   ·rw [List.mem_singleton.1 ht]
    refine ⟨a,ha,han,k4 _ (bQ ?_)⟩
    have:=a8 (s:=s) (at_:=r.2.at_) (n:=(r.1.length:Int)) (by omega)
    omega
theorem s8 {i j:Nat} {l:List InD} (hb:b<m.blocks.length):nth (m.gH b i l).blocks j=if b=j then { nth m.blocks b with phis:=(nth m.blocks b).phis.set i { nth (nth m.blocks b).phis i with ins:=l } } else nth m.blocks j:=by
 show nth (m.blocks.set b _) j=_
 rcases Nat.lt_or_ge j m.blocks.length with hl | hl
 ·rw [aF hl]
 ·rw [aR (by simpa using hl),if_neg (by omega),aR hl]
theorem Er {l:List PhiD} {i:Nat} {x:List InD}:(l.set i { nth l i with ins:=x }).map PhiD.dst=l.map PhiD.dst:=by
 refine List.ext_getElem (by simp) fun j h1 h2=>?_
 have hj:j<l.length:=by simpa using h2
 rw [List.getElem_map,List.getElem_map,List.getElem_set]
 split
 ·rename_i e;subst e
  rw [ak hj]
 ·rfl
theorem D5.gH {c i:Nat} {l:List InD} (q:D5 n c to m) (hb:b<n):D5 n c to (m.gH b i l)∧Ext m (m.gH b i l):=by
 have hlen:=q.gt.len
 have hbl:b<m.blocks.length:=by omega
 have hnth : ∀ j,nth (m.gH b i l).blocks j=_:=fun j=>s8 (i:=i) (l:=l) hbl
 have hl:(m.gH b i l).blocks.length=m.blocks.length:=List.length_set
 have hin : ∀ j,(nth (m.gH b i l).blocks j).ins=(nth m.blocks j).ins:=fun j=>by
  rw [hnth];split
  ·rename_i e;rw [e]
  ·rfl
 have htm : ∀ j,(nth (m.gH b i l).blocks j).term=(nth m.blocks j).term:=fun j=>by
  rw [hnth];split
  ·rename_i e;rw [e]
  ·rfl
 have hph : ∀ j,(nth (m.gH b i l).blocks j).phis.map PhiD.dst=(nth m.blocks j).phis.map PhiD.dst:=fun j=>by
  rw [hnth];split
  ·rename_i e;rw [←e];exact Er
  ·rfl
 have hmk : ∀ j,mkB (nth (m.gH b i l).blocks j)=mkB (nth m.blocks j):=fun j=>by unfold mkB;rw [hin,hph]
 have e:Ext m (m.gH b i l):=⟨rfl,hl,fun j=>by rw [htm],fun j v h=>by rw [hph];exact h,fun j=>⟨[],by rw [hin];simp⟩⟩
 have k:=q.ok
 refine ⟨⟨q.gt.ext e,⟨k.p0,k.pn,fun c hc=>?_,fun c hc=>?_,fun c d hc hd=>?_,fun c hc=>?_,fun c hc i hi v hv=>?_,fun c hc v hv=>?_⟩,fun j hj=>by rw [htm];exact q.term j hj,fun j hj=>by rw [hin];exact q.ins j hj,q.nx⟩,e⟩<;>rw [hl] at hc
 ·rw [hin];exact k.op c hc
 ·rw [hmk];exact k.nd c hc
 ·rw [hl] at hd;rw [hmk,hmk];exact k.dj c d hc hd
 ·rw [hmk];exact k.rg c hc
 ·rw [hin] at hi hv;exact (k.tk c hc i hi v hv).ext e
 ·rw [htm] at hv;exact (k.tm c hc v hv).end e
theorem AX {k:Nat} {b:Int} (hk:k<(aA m.f b).length) : ∃ a:Nat,nth (aA m.f b) k=a∧a<m.blocks.length:=sy _ k hk
theorem Ax {b:Int}:(aA m.f b).length≤m.blocks.length:=jo _
theorem D5.phi {c i:Nat} (q:D5 n c to m) (hb:b<n) (hi:i<(nth m.blocks b).phis.length) :
  D5 n (c+n) to (phi3 s b (aA m.f b) i m)∧Ext m (phi3 s b (aA m.f b) i m)∧(∀ j,(nth (phi3 s b (aA m.f b) i m).blocks j).phis.length=(nth m.blocks j).phis.length)∧
   PhOk (phi3 s b (aA m.f b) i m) (nth (nth (phi3 s b (aA m.f b) i m).blocks b).phis i) b∧
   ∀ d j,(d≠b∨j≠i)→nth (nth (phi3 s b (aA m.f b) i m).blocks d).phis j=nth (nth m.blocks d).phis j:=by
 have hlen:=q.gt.len
 obtain ⟨h1,h2,h3,h4,h5⟩:=q.ups (s:=s) (p:=aA m.f b) (fun k hk=>by
  obtain ⟨a,h1,h2⟩:=AX hk
  exact ⟨a,h1,by omega⟩) (aA m.f b).length (Nat.le_refl _)
 have hp:=Ax (m:=m) (b:=b)
 unfold phi3
 generalize up (bA s (aA m.f b)) (aA m.f b).length ([],m)=y at h1 h2 h3 h4 h5
 have hyl:=h1.gt.len
 obtain ⟨k1,k2⟩:=h1.gH (b:=b) (i:=i) (l:=y.1) hb
 have hnth : ∀ j,nth (y.2.gH b i y.1).blocks j=_:=fun j=>s8 (i:=i) (l:=y.1) (by omega:b<y.2.blocks.length)
 have hi2:i<(nth y.2.blocks b).phis.length:=by rw [h3];exact hi
 refine ⟨k1.mono (by omega),h2.trans k2,fun j=>?_,?_,fun d j hd=>?_⟩
 ·rw [hnth];split
  ·rename_i e;rw [←e,←h3 b]
   show (List.set _ _ _).length=_
   rw [List.length_set]
  ·rw [h3]
 ·rw [hnth,if_pos rfl]
  show PhOk _ (nth ((nth y.2.blocks b).phis.set i _) i) b
  rw [aF hi2,if_pos rfl]
  refine ⟨?_,fun t ht=>?_⟩
  ·rw [mE (h2.trans k2).len (h2.trans k2).to]
   show y.1.map InD.frm=_
   rw [h4,List.take_length]
  ·obtain ⟨a,d1,d2,d3⟩:=h5 t ht
   exact ⟨a,d1,by rw [k2.len];omega,d3.end k2⟩
 ·rw [hnth]
  split
  ·rename_i e;subst e
   show nth ((nth y.2.blocks b).phis.set i _) j=_
   rw [←h3 b]
   rcases Nat.lt_or_ge j (nth y.2.blocks b).phis.length with hl | hl
   ·rw [aF hl,if_neg (by rcases hd with hd | hd;exact absurd rfl hd;exact fun e=>hd e.symm)]
   ·rw [aR (by simpa using hl),aR hl]
  ·rw [h3]
theorem D5.phis {c cnt:Nat} (q:D5 n c to m) (hb:b<n) (hc:(nth m.blocks b).phis.length=cnt) : ∀ k,k≤cnt→
  D5 n (c+n*k) to (up (phi3 s b (aA m.f b)) k m)∧Ext m (up (phi3 s b (aA m.f b)) k m)∧(∀ j,(nth (up (phi3 s b (aA m.f b)) k m).blocks j).phis.length=(nth m.blocks j).phis.length)∧
   (∀ i,i<k→PhOk (up (phi3 s b (aA m.f b)) k m) (nth (nth (up (phi3 s b (aA m.f b)) k m).blocks b).phis i) b)∧
   ∀ d j,d≠b→nth (nth (up (phi3 s b (aA m.f b)) k m).blocks d).phis j=nth (nth m.blocks d).phis j
 | 0,_=>⟨q,.refl,fun _=>rfl,fun i hi=>absurd hi (Nat.not_lt_zero _),fun _ _ _=>rfl⟩
 | k+1,hk=>by
  obtain ⟨h1,h2,h3,h4,h5⟩:=D5.phis q hb hc k (by omega)
  have e:up (phi3 s b (aA m.f b)) (k+1) m=phi3 s b (aA m.f b) k (up (phi3 s b (aA m.f b)) k m):=rfl
  rw [e]
  have ep:aA m.f b=aA (up (phi3 s b (aA m.f b)) k m).f b:=(mE h2.len h2.to).symm
  generalize hy:up (phi3 s b (aA m.f b)) k m=y at h1 h2 h3 h4 h5 ep
  rw [ep]
  obtain ⟨k1,k2,k3,k4,k5⟩:=h1.phi (s:=s) (i:=k) hb (by rw [h3];omega)
  refine ⟨k1.mono (by rw [Nat.mul_succ];omega),h2.trans k2,fun j=>(k3 j).trans (h3 j),fun i hi=>?_,fun d j hd=>(k5 d j (.inl hd)).trans (h5 d j hd)⟩
  rcases Nat.lt_or_ge i k with h | h
  ·rw [k5 b i (.inr (by omega))]
   exact (h4 i h).ext k2
  ·have:i=k:=by omega
   subst this;exact k4
theorem D5.blks {c:Nat} {lp:List Int} (q:D5 n c to m) (hc : ∀ j,((nth m.blocks j).phis.length:Int)=nth lp j) (h3 : ∀ j,nth lp j≤3) : ∀ k,k<n→
  D5 n (c+n*3*k) to (up (blk3 s lp) k m)∧Ext m (up (blk3 s lp) k m)∧(∀ j,(nth (up (blk3 s lp) k m).blocks j).phis.length=(nth m.blocks j).phis.length)∧
   ∀ b,1≤b→b≤k→∀ i,i<(nth m.blocks b).phis.length→PhOk (up (blk3 s lp) k m) (nth (nth (up (blk3 s lp) k m).blocks b).phis i) b
 | 0,_=>⟨q,.refl,fun _=>rfl,fun b h1 h2=>by omega⟩
 | k+1,hk=>by
  obtain ⟨h1,h2,h4,h5⟩:=D5.blks q hc h3 k (by omega)
  have e:up (blk3 s lp) (k+1) m=blk3 s lp k (up (blk3 s lp) k m):=rfl
  rw [e]
  generalize up (blk3 s lp) k m=y at h1 h2 h4 h5
  have hcnt:(nth y.blocks (k+1)).phis.length=(nth lp (k+1)).toNat:=by
   have:=hc (k+1)
   rw [h4];omega
  have hc3:=h3 (k+1)
  obtain ⟨k1,k2,k3,k4,k5⟩:=h1.phis (s:=s) (b:=k+1) hk hcnt (nth lp (k+1)).toNat (Nat.le_refl _)
  have hbd:n*(nth lp (k+1)).toNat≤n*3:=Nat.mul_le_mul_left _ (by omega)
  have hms:n*3*(k+1)=n*3*k+n*3:=Nat.mul_succ _ _
  refine ⟨k1.mono (by rw [hms];omega),h2.trans k2,fun j=>(k3 j).trans (h4 j),fun b hb1 hb2 i hi=>?_⟩
  rcases Nat.lt_or_ge k b with h | h
  ·have:b=k+1:=by omega
   subst this
   have:=hc (k+1)
   exact k4 i (by omega)
  ·have:=(h5 b hb1 h i hi).ext k2
   rw [←k5 b i (by omega)] at this
   exact this
theorem zt:D5 (aC s) 216 (dN s).1 (fg s)∧(∀ j,(nth (fg s).blocks j).phis.length≤3)∧(nth (fg s).blocks 0).phis.length=0∧∀ b,b<aC s→∀ i,i<(nth (fg s).blocks b).phis.length→PhOk (fg s) (nth (nth (fg s).blocks b).phis i) b:=by
 obtain ⟨n1,n2⟩:=dI (s:=s)
 obtain ⟨q,h4⟩:=Ef (s:=s)
 obtain ⟨p,_,_⟩:=mJ (s:=s)
 obtain ⟨_,pc⟩:=sJ (s:=s)
 obtain ⟨_,_,e0⟩:=xx (s:=s)
 have d:D5 (aC s) 0 (dN s).1 (kJ s).2:=⟨q.gt,q.ok,fun j hj=>q.term j hj (h4 j hj),q.ins,by have:=q.nx;omega⟩
 obtain ⟨k1,k2,k3,k4⟩:=d.blks (s:=s) (lp:=(eO s).1) pc (fun j=>(p.rng j).2) (aC s-1) (by omega)
 have e:up (blk3 s (eO s).1) (aC s-1) (kJ s).2=fg s:=rfl
 rw [e] at k1 k2 k3 k4
 have hz:(nth (fg s).blocks 0).phis.length=0:=by
  rw [k3];have:=pc 0;omega
 have hm:aC s*3*(aC s-1)≤27*8:=Nat.mul_le_mul (by omega) (by omega)
 refine ⟨k1.mono (by omega),fun j=>?_,hz,fun b hb i hi=>?_⟩
 ·rw [k3];have:=pc j;have:=(p.rng j).2;omega
 ·rcases Nat.eq_zero_or_pos b with h | h
  ·subst h;omega
  ·exact k4 b h (by omega) i (by rw [←k3];exact hi)
theorem wz {f:ah} {p i:Nat} (h : ∀ j,j<f.blocks.length→(nth f.blocks j).phis.length≤p∧(nth f.blocks j).ins.length≤i) : ∀ k,k≤f.blocks.length→oO f k≤f.blocks.length+(p+i)*k
 | 0,_=>by show f.blocks.length≤_;omega
 | k+1,hk=>by
  have ih:=wz h k (by omega)
  have:=h k (by omega)
  show oO f k+_+_≤_
  rw [Nat.mul_succ];omega
theorem xR:jv (fX s):=by
 obtain ⟨d,p3,p0,hph⟩:=zt (s:=s)
 obtain ⟨n1,n2⟩:=dI (s:=s)
 have t:=ve (s:=s)
 have hlen:=d.gt.len
 have hf:(fX s)=(fg s).f:=rfl
 rw [hf]
 have k:=d.ok
 have hB:(fg s).f.blocks=(fg s).blocks:=rfl
 have hP:(fg s).f.params=(fg s).ps:=rfl
 have mp:0≤(fg s).ps∧(fg s).ps≤4:=qz (s:=s)
 have gt:=d.gt
 have hto : ∀ b,b<aC s→∀ v∈(nth (fg s).blocks b).term.to,1≤v∧v<aC s:=fun b hb v hv=>by
  rw [gt.to b hb] at hv;exact t.rng b v hv
 have way:=CC gt
 have dn:=d.nx
 have hins:=d.ins
 have dt:=d.term
 generalize fg s=m at *
 refine ⟨mp,⟨by rw [hB];omega,by rw [hB];omega⟩,?_,fun t ht=>?_,sZ k.nd k.dj _ (Nat.le_refl _),fun b hb=>?_,fun t ht h0 v hv=>?_,fun b i hb hi=>?_⟩
 ·have:=wz (f:=m.f) (p:=3) (i:=261) (fun j hj=>⟨p3 j,by have:=hins j (by rw [hB] at hj;omega);exact this⟩) _ (Nat.le_refl _)
  rw [hB,hlen] at this
  rw [hB,hlen]
  omega
 ·have hmk : ∀ n∈t.mks,m.f.params≤n∧n≤8191:=fun v hv=>by
   obtain ⟨b,hb,_,hm⟩:=BE ht hv
   have:=k.rg b hb v hm
   rw [hP];omega
  obtain ⟨b,hb,hm⟩:=cA.1 ht
  have hb':b<m.blocks.length:=hb
  rcases cZ.1 hm with ⟨i,hi,rfl⟩ | ⟨i,hi,rfl⟩ | rfl
  ·have nl:iB m.f (phiT m.f b i)=true→False:=fun h=>by
    have h1:-1-(i:Int)=((eY m.f (phiT m.f b i)).ins.length:Nat):=of_decide_eq_true h
    omega
   refine ⟨fun h=>?_,fun h=>(nl h).elim,hmk,fun h=>(nl h).elim⟩
   have h1:(0:Int)≤-1-(i:Int):=of_decide_eq_true ((Bool.and_eq_true _ _).mp h).1
   omega
  ·have nl:iB m.f (insT m.f b i)=true→False:=fun h=>by
    have h1:(i:Int)=((nth m.f.blocks ((b:Nat):Int).toNat).ins.length:Nat):=of_decide_eq_true h
    rw [Int.toNat_natCast] at h1
    omega
   refine ⟨fun h=>?_,fun h=>(nl h).elim,hmk,fun h=>(nl h).elim⟩
   refine (k.op b hb' _ ?_).1
   show nth (nth m.f.blocks ((b:Nat):Int).toNat).ins ((i:Nat):Int).toNat∈_
   rw [Int.toNat_natCast,Int.toNat_natCast]
   exact bQ hi
  ·refine ⟨fun h=>?_,fun h=>?_,hmk,fun h v hv=>?_⟩
   ·have h1:(((nth m.f.blocks b).ins.length:Nat):Int)<((nth m.f.blocks ((b:Nat):Int).toNat).ins.length:Nat):=of_decide_eq_true ((Bool.and_eq_true _ _).mp h).2
    rw [Int.toNat_natCast] at h1
    omega
   ·show jh (nth m.f.blocks ((b:Nat):Int).toNat).term=true
    rw [Int.toNat_natCast]
    exact dt b (by omega)
   ·have hv:v∈(nth m.f.blocks ((b:Nat):Int).toNat).term.to:=hv
    rw [Int.toNat_natCast] at hv
    have:=hto b (by omega) v hv
    rw [hB];omega
 ·exact way b (by rw [hB] at hb;omega)
 ·obtain ⟨b,hb,hm⟩:=cA.1 ht
  have hb':b<m.blocks.length:=hb
  rcases cZ.1 hm with ⟨i,hi,rfl⟩ | ⟨i,hi,rfl⟩ | rfl
  ·exact absurd h0 (by show ¬(0:Int)≤-1-(i:Int);omega)
  ·exact pI hb' (k.tk b hb' i hi v hv)
  ·exact pI hb' (k.tm b hb' v hv)
 ·have hb':b<m.blocks.length:=hb
  obtain ⟨g1,g2⟩:=hph b (by omega) i hi
  refine ⟨?_,g1,fun q hq=>?_⟩
  ·rcases Nat.eq_zero_or_pos b with h | h
   ·subst h
    have hi:i<(nth m.blocks 0).phis.length:=hi
    omega
   ·exact h
  ·obtain ⟨c,h1,h2,h3⟩:=g2 q hq
   rw [h1]
   have:=pI h2 h3
   show gT m.f q.val c (se m.f c)
   unfold se
   rw [Int.toNat_natCast]
   exact this
end
end Go.Proofs.Ytbkdlhkoiagbbaa
namespace Go.Lft
open Go
variable {po:OP}
end Go.Lft
namespace Go.Proofs.Ytbkdlhkoiagbbaa
open Go Go.Lft
structure TB (c:Nat) (x:BlkD):Prop where
 phis:x.phis.length≤c
 ins:x.ins.length≤c
 args:x.term.args.length≤c
 to:x.term.to.length≤c
 pin : ∀ p∈x.phis,p.ins.length≤c∧p.dst≤4000
 iar : ∀ i∈x.ins,i.args.length≤c∧i.dst≤4000∧i.two≤4000
structure TF (c:Nat) (f:ah):Prop where
 len:f.blocks.length≤1000
 blk : ∀ x∈f.blocks,TB c x
theorem TB.mono {c d:Nat} {x:BlkD} (t:TB c x) (h:c≤d):TB d x:=⟨Nat.le_trans t.phis h,Nat.le_trans t.ins h,Nat.le_trans t.args h,Nat.le_trans t.to h,fun p hp=>⟨Nat.le_trans (t.pin p hp).1 h,(t.pin p hp).2⟩,fun i hi=>⟨Nat.le_trans (t.iar i hi).1 h,(t.iar i hi).2⟩⟩
theorem TF.mono {c d:Nat} {f:ah} (t:TF c f) (h:c≤d):TF d f:=⟨t.len,fun x hx=>(t.blk x hx).mono h⟩
structure Tu (R F X:Nat) (i10:Own) (c:Nat) (W0:View) (vbk:Value) (bl:List BlkD) (W:View) (o:Own) (ps:Int) (vp vi va vt:Value) (kd im:Int) (lp:List PhiD) (li:List InsD) (la lt:List Int):Prop where
 le:W0.le W
 res:o (8,0)=bx T.aV R (RawN.mk (n:=1) [.int .i64 0,.slice none 0 0])
 fn:o (8,1)=bx T.aV F (RawN.mk (n:=1) [.int .i64 ps,vbk])
 blk:o (3,0)=it T.aU vbk bl
 box:o (3,1)=bx T.aU X (RawN.mk (n:=5) [vp,vi,.int .i64 kd,va,vt,.int .i32 im])
 ins:o (3,2)=it T.cV vi li
 phis:o (3,3)=it T.dm vp lp
 free:o (4,0)=none
 fr : ∀ k:Key,10≤k.1→o k=i10 k
 ra:SlRd W va la
 rt:SlRd W vt lt
 ips:I64 ps
 ikd:I64 kd
 iim:-2147483648≤im∧im≤2147483647
 tb:TB c ⟨lp,li,⟨kd,la,lt,⟨im⟩⟩⟩
def TuE (R F X:Nat) (i10:Own) (c:Nat) (W0:View) (vbk:Value) (bl:List BlkD) (h:Heap):Prop:=∃ W o ps vp vi va vt kd im lp li la lt,Tu R F X i10 c W0 vbk bl W o ps vp vi va vt kd im lp li la lt∧Owns W h o
theorem TuE.mono {R F X:Nat} {i10:Own} {c d:Nat} {W0:View} {vbk:Value} {bl:List BlkD} {h:Heap} (t:TuE R F X i10 c W0 vbk bl h) (hd:c≤d):TuE R F X i10 d W0 vbk bl h:=by
 obtain ⟨W,o,ps,vp,vi,va,vt,kd,im,lp,li,la,lt,t,w⟩:=t
 exact ⟨W,o,ps,vp,vi,va,vt,kd,im,lp,li,la,lt,⟨t.le,t.res,t.fn,t.blk,t.box,t.ins,t.phis,t.free,t.fr,t.ra,t.rt,t.ips,t.ikd,t.iim,t.tb.mono hd⟩,w⟩
section
variable {R F X c:Nat} {i10:Own} {W0 W:View} {vbk:Value} {bl:List BlkD} {h:Heap} {o:Own} {ps:Int} {vp vi va vt:Value} {kd im:Int} {lp:List PhiD} {li:List InsD} {la lt:List Int}
variable {po:OP} {ty t2:TypeId} {us:List (Nat × Value)} {x y:Operand} {K:Value→Heap→Prop}
end
theorem Eb {H:View} {u:Value} {d:BlkD} (h:Rd H u d) : ∃ vp vi va vt,u = .agg #[vp,vi,.int .i64 d.term.kind,va,vt,.int .i32 d.term.imm.v]∧SlRd H vp d.phis∧SlRd H vi d.ins∧SlRd H va d.term.args∧SlRd H vt d.term.to∧I64 d.term.kind∧-2147483648≤d.term.imm.v∧d.term.imm.v≤2147483647:=by
 obtain ⟨cs,rfl,c1,r1,e1,⟨vp,rfl,h1⟩,c2,r2,e2,⟨vi,rfl,h2⟩,c3,r3,e3,⟨rfl,h3⟩,c4,r4,e4,⟨va,rfl,h4⟩,c5,r5,e5,⟨vt,rfl,h5⟩,h6,h7⟩:=h
 subst e5 e4 e3 e2
 have he:cs.toList=[vp,vi,.int .i64 d.term.kind,va,vt,.int .i32 d.term.imm.v]:=by rw [e1,h6];rfl
 refine ⟨vp,vi,va,vt,?_,h1,h2,h4,h5,h3,h7⟩
 rw [←Array.toList_inj.1 (he.trans rfl:cs.toList = #[vp,vi,Value.int .i64 d.term.kind,va,vt,.int .i32 d.term.imm.v].toList)]
theorem Owns.elW {W:View} {h:Heap} {o:Own} {k:Key} {α:Type} [r:Rep α] {e:TypeId} {v:Value} {l:List α} (w:Owns W h o) (hk:o k=it e v l) {i:Nat} (hi:i<l.length) : ∃ cs,fU (vw h) ((slA v).add (i*Rep.n α)) cs∧cs.length=Rep.n α∧Rep.rd W cs l[i]:=by
 obtain ⟨hb,xs,⟨hl,hown⟩,hel⟩:=w.get hk
 have h0:=hel i hi
 have hle:i*Rep.n α+Rep.n α≤l.length*Rep.n α:=by rw [←Nat.succ_mul];exact Nat.mul_le_mul_right _ hi
 have hcl:((xs.drop (i*Rep.n α)).take (Rep.n α)).length=Rep.n α:=by simp;omega
 rcases hown with ⟨rfl,hn⟩ | ⟨g,cap,cur,rfl,h2,h3,h4,h5,h6⟩
 ·omega
 ·have hadd:(slA (.slice (some ⟨g,0,none⟩) l.length cap)).add (i*Rep.n α)=⟨g,i*Rep.n α,none⟩:=by
   show (⟨g,0,none⟩:Addr).add _=_
   simp [Addr.z]
  rw [hadd]
  refine ⟨_,⟨cur,e,(0,0),rfl,h2,?_⟩,hcl,h0⟩
  rw [hcl,←h6,List.drop_take,List.take_take,Nat.min_eq_left (by omega)]
theorem Owns.ldW {W:View} {h:Heap} {o:Own} {k:Key} {α:Type} [r:Rep α] {e:TypeId} {v:Value} {l:List α} (w:Owns W h o) (hk:o k=it e v l) (ha:Rep.agg α=true) {N:Nat} (hn:Rep.n α=N) {i:Nat} (hi:i<l.length) : ∃ u,Un.ev (vw h) (.au N) (.pointer (some ((slA v).add (i*N))))=some u∧Rd W u l[i]:=by
 subst hn
 obtain ⟨cs,h1,h2,h3⟩:=Owns.elW w hk hi
 have:=fw h1 cs.length 0 #[] (by omega)
 refine ⟨.agg cs.toArray,?_,?_⟩
 ·simp only [Un.ev,vP,Option.bind_some]
  rw [h2] at this
  rw [this]
  simp
 ·unfold Rd
  rw [if_pos ha]
  exact ⟨_,rfl,by simpa using h3⟩
end Go.Proofs.Ytbkdlhkoiagbbaa
