/- A part of the proof: Ms, Mt, Mu, Mv, Mw, Mx, My, Mz, Na, Nb, Ta, Tb, Tc, Td, Th, Va, Vb, Vc. -/
import Derived.Test.YtbkdlhkoiagbbaaGreatZSRight4
set_option linter.unusedSimpArgs false
set_option linter.unusedVariables false
namespace Go.Proofs.YtbkdlhkoiagbbaaGreat
open Go Go.Lft
theorem yq {l:List InsD}:(l.flatMap aY).length≤2*l.length:=by
 induction l with
 | nil=>simp
 | cons a l ih=>
  have:(aY a).length≤2:=by
   unfold aY
   repeat' split
   all_goals simp
  simp only [List.flatMap_cons,List.length_append,List.length_cons]
  omega
section
variable {s:List Int} {M:Nat} {vs:Value} {W0:View} {h:Heap} {o0:Own} {m:MS}
theorem CV {n a p i b ai:Nat} {vr vt vp vd va:Value} {t:Nat} {lv:List Int} (x:Nx s M vs W0 h o0 (m.cz lv)) (z:Sz n a p i m) (hai:ai<n) (hn:n≤100) (hl:lv.length≤100000) (hi:i≤100000) {Q:Post} {ρ:Env}
  (h0:bm [2,3,4,5,7,11,12,13,15,19,21] ρ=[(2,vr),(3,.pointer (some ⟨M,0,none⟩)),(4,.int .i64 n),(5,vt),(7,vp),(11,vd),(12,.int .i64 t),(13,.int .i64 b),(15,va),(19,.int .i64 ai),(21,.int .i64 0)])
  (hQ : ∀ h':Heap,Nx s M vs W0 h' o0 (m.cz (lv++(nth m.blocks ai).ins.flatMap aY))→Q .normal [(2,vr),(3,.pointer (some ⟨M,0,none⟩)),(4,.int .i64 n),(5,vt),(7,vp),(11,vd),(12,.int .i64 t),(13,.int .i64 b),(15,va),(19,.int .i64 ai),(21,.int .i64 (nth m.blocks ai).ins.length)] h') :
  LC.wp Tryz.prog (.block 20 (.loop L.ar.l11)) Q ρ h:=by
 have hil:=z.ins ai
 have hlen:ai<m.blocks.length:=by rw [z.len];exact hai
 simp only [aK]
 have read : ∀ {h2:Heap} {lv2:List Int} {vb vl:Value},Reads M (m.cz lv2) h2 vb vl→∃ vi,an (vw h2) (((slA vb).add (ai*6)).add 1)=some vi∧SlRd (vw h2) vi (nth m.blocks ai).ins∧Bn.ev (.idx 6) vb (.int .i64 ai)=some (.pointer (some ((slA vb).add (ai*6)))):=by
  intro h2 lv2 vb vl rd
  have hb:=rd.blk
  have hl2:ai<(m.cz lv2).blocks.length:=hlen
  obtain ⟨vi,h1⟩:=((hb.at hl2).part BlkD.lE).sl
  have h2:=h1.2
  have e:(m.cz lv2).blocks[ai]=nth m.blocks ai:=(ak hl2).symm
  rw [e] at h2
  exact ⟨vi,h1.1,h2,by have:=hb.idxn (N:=6) rfl (k:=.i64) (i:=ai) (by omega) (by omega);simpa using this⟩
 refine bZ [2,3,4,5,7,11,12,13,15,19,21] (fun (_:Unit) k=>[vr,.pointer (some ⟨M,0,none⟩),.int .i64 n,vt,vp,vd,.int .i64 t,.int .i64 b,va,.int .i64 ai,.int .i64 k]) (fun _ k h2=>Nx s M vs W0 h2 o0 (m.cz (lv++((nth m.blocks ai).ins.take k).flatMap aY))) (nth m.blocks ai).ins.length ()
  rfl (by omega) h0 (by simpa using x) (fun _ _=>rfl) (fun v k h2 hk2 x2=>by
   obtain ⟨vb,vl,rd⟩:=x2.z.reads
   obtain ⟨vi,r1,r2,r3⟩:=read rd
   simp [rd.cb,r3,r1,r2.len]) ?_ ?_
 ·rintro _ k h2 hlt x2 K2 hK2
  obtain ⟨vb,vl,rd⟩:=x2.z.reads
  obtain ⟨vi,r1,r2,r3⟩:=read rd
  obtain ⟨ux,hux,huxr⟩:=r2.wh rfl (N:=5) rfl hlt
  have r5:Bn.ev (.idx 5) vi (.int .i64 k)=some (.pointer (some ((slA vi).add (k*5)))):=by
   have:=r2.idxn (N:=5) rfl (k:=.i64) (i:=k) (by omega) (by omega);simpa using this
  simp only [aK]
  refine aa fun y hy=>?_
  simp [rd.cb,r3,r1,r5,hux _ (View.le_refl _)]
  refine af (by kernel_rfl) (mV huxr) ?_
  rintro um h3 ⟨hle3,hum,-⟩
  clear rd r1 r2 r3 r5 hux
  obtain ⟨W,o,g,w,f⟩:=x2
  have w3:=w.own.ext hle3
  have hW3:=cu (h':=h3) w.own.wle
  have hum:=hum.mono (eR W h2 h3)
  generalize grow W h2 h3=W3 at w3 hW3 hum
  have w4:Mk s M vs W3 h3 o (m.cz (lv++((nth m.blocks ai).ins.take k).flatMap aY)):=⟨w3,w.src.mono hW3,w.box⟩
  obtain ⟨vb,vl,lb,bb⟩:=w4.box
  have rd:=w4.reads bb
  rw [hy];clear hy y
  simp [rd.cl]
  have hfl:=yq (l:=(nth m.blocks ai).ins.take k)
  have hml:(aY (nth (nth m.blocks ai).ins k)).length≤2:=by
   unfold aY
   repeat' split
   all_goals simp
  refine w4.xa bb (hum.src w3.wle) (by show (lv++_).length+_≤_;simp at hfl ⊢;omega) rfl rfl (fun _=>rfl) (fun _=>rfl) fun v h6 o6 w6 f6=>?_
  refine hK2 () _ _ rfl rfl ⟨W3,o6,View.le_trans g hW3,?_,fun k hk=>(f6 k hk).trans (f k hk)⟩
  rw [List.take_succ_eq_append_getElem hlt,List.flatMap_append,List.flatMap_singleton,←List.append_assoc,←ak hlt]
  exact w6
 ·rintro _ h2 x2
  rw [List.take_length] at x2
  exact hQ h2 x2
theorem Bp {n a p i:Nat} (z:Sz n a p i m) {dn:BL} {away:List BL} {b ai:Nat} {l:List Int}:(gq m dn away b ai l).length≤l.length+p+2*i:=by
 unfold gq
 split
 ·omega
 ·have h1:=z.phis ai
  have h2:=z.ins ai
  have h3:=yq (l:=(nth m.blocks ai).ins)
  simp only [List.length_append,List.length_map]
  omega
theorem lX {n a p i:Nat} (z:Sz n a p i m) {dn:BL} {away:List BL} {b:Nat} {l:List Int} : ∀ k,(up (gq m dn away b) k l).length≤l.length+(p+2*i)*k
 | 0=>Nat.le_refl _
 | k+1=>by
  have:=lX z (dn:=dn) (away:=away) (b:=b) (l:=l) k
  have h2:=Bp z (dn:=dn) (away:=away) (b:=b) (ai:=k) (l:=up (gq m dn away b) k l)
  show (gq m dn away b k (up (gq m dn away b) k l)).length≤_
  rw [Nat.mul_succ];omega
theorem E2 {n a p i b:Nat} {vr vt vp vd va:Value} {t:Nat} {dn:BL} {away:List BL} {l0:List Int} (x:Nx s M vs W0 h o0 (m.cz l0)) (z:Sz n a p i m) (hd:o0 (6,0)=it T.bool vd dn) (sa:SlRd W0 va away) (hb:b<n) (hdn:dn.length=n) (hal:away.length=n) (har : ∀ i,i<n→(nth away i).length=n) (hn:n≤10) (hl:l0.length≤10) (hp:p≤1000) (hi:i≤3000) {Q:Post} {ρ:Env}
  (h0:bm [2,3,4,5,7,11,12,13,15,19] ρ=[(2,vr),(3,.pointer (some ⟨M,0,none⟩)),(4,.int .i64 n),(5,vt),(7,vp),(11,vd),(12,.int .i64 t),(13,.int .i64 b),(15,va),(19,.int .i64 0)])
  (hQ : ∀ h':Heap,Nx s M vs W0 h' o0 (m.cz (up (gq m dn away b) n l0))→Q .normal [(2,vr),(3,.pointer (some ⟨M,0,none⟩)),(4,.int .i64 n),(5,vt),(7,vp),(11,vd),(12,.int .i64 t),(13,.int .i64 b),(15,va),(19,.int .i64 n)] h') :
  LC.wp Tryz.prog (.block 16 (.loop L.ar.l9)) Q ρ h:=by
 simp only [aK]
 refine bZ [2,3,4,5,7,11,12,13,15,19] (fun (_:Unit) k=>[vr,.pointer (some ⟨M,0,none⟩),.int .i64 n,vt,vp,vd,.int .i64 t,.int .i64 b,va,.int .i64 k]) (fun _ k h2=>Nx s M vs W0 h2 o0 (m.cz (up (gq m dn away b) k l0))) n ()
  rfl (by omega) h0 x (fun _ _=>rfl) (fun v k h2 hk2 x2=>by simp) ?_ ?_
 ·rintro _ k h2 hlt x2 K2 hK2
  have e2:up (gq m dn away b) (k+1) l0=gq m dn away b k (up (gq m dn away b) k l0):=rfl
  rw [e2] at hK2
  have hll:=lX z (dn:=dn) (away:=away) (b:=b) (l:=l0) k
  have hll:(up (gq m dn away b) k l0).length≤80000:=by
   have:(p+2*i)*k≤7000*10:=Nat.mul_le_mul (by omega) (by omega)
   omega
  generalize up (gq m dn away b) k l0=lv at x2 hK2 hll
  have hla:gq m dn away b k lv=_:=gq.eq_1 m dn away b k lv
  have sd:=x2.z.at (by decide) hd
  have sa2:=sa.mono x2.z.le
  obtain ⟨rv,hrv⟩:=sa2.rows
  obtain ⟨ha1,ha2⟩:=hrv k (by omega)
  have hal2:=har k hlt
  simp only [aK]
  refine aa fun y hy=>?_
  have fin : ∀ ρ,Lft.look ρ 2=some vr→Lft.look ρ 3=some (.pointer (some ⟨M,0,none⟩))→Lft.look ρ 4=some (.int .i64 n)→Lft.look ρ 5=some vt→Lft.look ρ 7=some vp→Lft.look ρ 11=some vd→Lft.look ρ 12=some (.int .i64 t)→Lft.look ρ 13=some (.int .i64 b)→Lft.look ρ 15=some va→Lft.look ρ 19=some (.int .i64 k)→(decide (k≠b)&&(!nth dn k||nth (nth away k) b))=false→
    LC.wp Tryz.prog y (eo 17 (eZ K2 (eo 16 Q))) ρ h2:=by
   intro ρ r2 r3 r4 r5 r7 r11 r12 r13 r15 r19 hc
   rw [hy];clear hy y
   rw [if_neg (by rw [hc];simp)] at hla
   refine aa fun y hy=>?_
   refine aa fun w hw=>?_
   simp
   rw [hw];clear hw w
   refine DG (vr:=vr) (vt:=vt) (vp:=vp) (vd:=vd) (va:=va) (t:=t) (b:=b) (ai:=k) x2 z hlt (by omega) (by omega) (by omega) ?_ fun h3 x3=>?_
   ·simp [bm,aj,al,r2,r3,r4,r5,r7,r11,r12,r13,r15,r19]
   ·simp
    rw [hy];clear hy y
    refine aa fun w hw=>?_
    simp
    rw [hw];clear hw w
    have hph:=z.phis k
    refine CV (vr:=vr) (vt:=vt) (vp:=vp) (vd:=vd) (va:=va) (t:=t) (b:=b) (ai:=k) x3 z hlt (by omega) (by simp;omega) (by omega) ?_ fun h4 x4=>?_
    ·simp [bm,aj,al]
    ·simp
     refine hK2 () _ _ rfl rfl (by rw [hla];exact x4)
  refine aa fun w hw=>?_
  by_cases c:k=b
  ·subst c
   simp
   rw [hw];clear hw w
   refine aW (by simp) ?_
   simp
   refine fin _ ?_ ?_ ?_ ?_ ?_ ?_ ?_ ?_ ?_ ?_ (by simp)
   all_goals simp
  ·have c':¬((k:Int)=(b:Int)):=by omega
   cases hd2:nth dn k with
   | false=>
    simp (disch:=omega) [c,c',sd.idx1 rfl,sd.bool (View.le_refl _),hd2]
    rw [hw];clear hw w
    refine a7 (by simp) ?_
    simp
    refine hK2 () _ _ rfl rfl ?_
    rw [if_pos (by simp [c,hd2])] at hla
    rw [hla];exact x2
   | true=>
    simp (disch:=omega) [c,c',sd.idx1 rfl,sd.bool (View.le_refl _),hd2,sa2.idx1 rfl,ha1 _ (View.le_refl _),ha2.idx1 rfl,ha2.bool (View.le_refl _)]
    rw [hw];clear hw w
    cases hw2:nth (nth away k) b with
    | true=>
     refine a7 (by simp [hw2]) ?_
     simp
     refine hK2 () _ _ rfl rfl ?_
     rw [if_pos (by simp [c,hd2,hw2])] at hla
     rw [hla];exact x2
    | false=>
     refine aW (by simp [hw2]) ?_
     simp
     refine fin _ ?_ ?_ ?_ ?_ ?_ ?_ ?_ ?_ ?_ ?_ (by simp [c,hd2,hw2])
     all_goals simp
 ·rintro _ h2 x2
  exact hQ h2 x2
end
end Go.Proofs.YtbkdlhkoiagbbaaGreat
namespace Go.Proofs.YtbkdlhkoiagbbaaGreat
open Go Go.Lft
structure B2 (n a p:Nat) (x:BL × MS):Prop where
 z:Sz n a p 700 x.2
 len:x.1.length=n
 none : ∀ j,j<n→nth x.1 j=false→(nth x.2.blocks j).ins.length=0
theorem vD {n a p:Nat} {m:MS} {dn:BL} {away:List BL} {b:Nat} (z:Sz n a p 700 m) (hn:n≤10) (hp:p≤100):(jX m dn away b n).length≤15100:=by
 have:=lX z (dn:=dn) (away:=away) (b:=b) (l:=rows (fun i=>(i:Int)) m.ps.toNat) n
 rw [lP] at this
 have h2:(p+2*700)*n≤1500*10:=Nat.mul_le_mul (by omega) hn
 have:=z.ps1
 unfold jX
 omega
theorem mW {m:MS} {b j:Nat} {t:dQ} (hb:b<m.blocks.length):nth (m.ez b t).blocks j=if b=j then { nth m.blocks b with term:=t } else nth m.blocks j:=by
 show nth (m.blocks.set b _) j=_
 rcases Nat.lt_or_ge j m.blocks.length with hl | hl
 ·rw [aJ hl]
 ·rw [aU (by simpa using hl),aU hl,if_neg (by omega)]
theorem zx {s:List Int} {to:List (List Int)} {n a p b:Nat} {dn:BL} {away:List BL} {m:MS} (z:Sz n a p 700 m) (hb:b<n) (h0:(nth m.blocks b).ins.length=0) (hn:n≤10) (hp:p≤100) (ha:16000≤a) :
  Sz n (a+600) p 700 (ig s to n dn away b m)∧∀ j,j≠b→(nth (ig s to n dn away b m).blocks j).ins=(nth m.blocks j).ins:=by
 have hll:=vD (dn:=dn) (away:=away) (b:=b) z hn hp
 have ht:=bf (s:=s) (at_:=m.at_) (n:=7) (by decide)
 have hbl:b<m.blocks.length:=by rw [z.len];exact hb
 obtain ⟨m1,hm1⟩ : ∃ m1:MS,m1=MS.took { m with live:=jX m dn away b n }:=⟨_,rfl⟩
 have z1:Sz n (a+1) p 700 m1:=by
  rw [hm1]
  exact Sz.took ⟨z.at_,z.n0,z.next,by show (jX m dn away b n).length≤_;omega,z.ps0,z.ps1,z.len,z.phis,z.ins⟩
 have hl1:m1.live.length≤15100:=by rw [hm1];exact hll
 have e1 : ∀ j,nth m1.blocks j=nth m.blocks j:=fun j=>by rw [hm1];rfl
 have hb1:b<m1.blocks.length:=by rw [z1.len];exact hb
 have g:=((Grw.refl (b:=b) (m:=m1)).dW (s:=s) hb1 (aA s m.at_ 7).toNat).CY (s:=s) (to:=nth to b) hb1
 have g:=g.mono (l:=520) (by omega)
 have e:ig s to n dn away b m=lg s (nth to b) b (up (fun _=>aE s b) (aA s m.at_ 7).toNat m1):=by rw [hm1];rfl
 rw [e]
 unfold lg
 generalize ek s (nth to b) b (up (fun _=>aE s b) (aA s m.at_ 7).toNat m1)=r at g
 have hbr:b<r.2.blocks.length:=by rw [g.len];exact hb1
 have hown:=g.ins
 rw [e1,h0] at hown
 refine ⟨⟨?_,?_,?_,?_,?_,?_,?_,fun j=>?_,fun j=>?_⟩,fun j hj=>?_⟩
 ·show r.2.at_≤_;have:=g.at1;have:=z1.at_;omega
 ·show 0≤r.2.next;have:=g.n0;have:=z1.n0;omega
 ·show r.2.next≤_;have:=g.n1;have:=z1.next;omega
 ·show r.2.live.length≤_;have:=g.live;omega
 ·show 0≤r.2.ps;rw [g.ps];exact z1.ps0
 ·show r.2.ps≤4;rw [g.ps];exact z1.ps1
 ·show (r.2.blocks.set b _).length=n;rw [List.length_set,g.len];exact z1.len
 ·rw [mW hbr]
  split
  ·rename_i e;subst e
   show (nth r.2.blocks b).phis.length≤_;rw [g.phis];exact z1.phis b
  ·rename_i e
   rw [g.els j (fun q=>e q.symm)];exact z1.phis j
 ·rw [mW hbr]
  split
  ·rename_i e;subst e
   show (nth r.2.blocks b).ins.length≤_;omega
  ·rename_i e
   rw [g.els j (fun q=>e q.symm)];exact z1.ins j
 ·rw [mW hbr,if_neg (fun q=>hj q.symm),g.els j hj,e1]
theorem pK {s:List Int} {to:List (List Int)} {n a p b:Nat} {x:BL × MS} (q:B2 n a p x) (hb:b<n) (hn:n≤10) (hp:p≤100) (ha:16000≤a) (h0:lT x.1 (iQ x.2.f n) b n=true→nth x.1 b=false):B2 n (a+600) p (aL s to n b x):=by
 unfold aL
 split
 ·rename_i hr
  obtain ⟨z2,e2⟩:=zx (s:=s) (to:=to) (dn:=x.1.set b true) (away:=iQ x.2.f n) q.z hb (q.none b hb (h0 hr)) hn hp ha
  refine ⟨z2,by show (x.1.set b true).length=n;rw [List.length_set];exact q.len,fun j hj h=>?_⟩
  have h:nth (x.1.set b true) j=false:=h
  rw [aJ (by rw [q.len];exact hj)] at h
  split at h
  ·cases h
  ·rename_i e
   show (nth (ig _ _ _ _ _ _ _).blocks j).ins.length=0
   rw [e2 j (fun r=>e r.symm)]
   exact q.none j hj h
 ·exact ⟨q.z.mono (by omega) (Nat.le_refl _) (Nat.le_refl _),q.len,q.none⟩
theorem CP {f:Nat→Bool} : ∀ (n:Nat) (r:Bool),up (fun a r=>r&&f a) n r=true→r=true
 | 0,r,h=>h
 | n+1,r,h=>by
  have h:(up (fun a r=>r&&f a) n r&&f n)=true:=h
  simp only [Bool.and_eq_true] at h
  exact CP n r h.1
theorem lH {dn:BL} {away:List BL} {b n:Nat} (h:lT dn away b n=true):nth dn b=false:=by
 unfold lT at h
 have:=CP _ _ h
 simpa using this
section
variable {s:List Int} {M:Nat} {vs:Value} {W0:View} {h:Heap} {o0:Own} {m:MS}
theorem Er {n b k c:Nat} {vr vt vp vd va:Value} {t:Nat} (x:Nx s M vs W0 h o0 m) (hfree:o0 (9,0)=none) (hm:m.ok c) (hc:c≤100000) (hk:k≤100) (hb:b<m.blocks.length) {Q:Post} {ρ:Env}
  (h0:bm [2,3,4,5,7,11,12,13,15,23,24] ρ=[(2,vr),(3,.pointer (some ⟨M,0,none⟩)),(4,.int .i64 n),(5,vt),(7,vp),(11,vd),(12,.int .i64 t),(13,.int .i64 b),(15,va),(23,.int .i64 k),(24,.int .i64 0)])
  (hQ : ∀ h':Heap,Nx s M vs W0 h' o0 (up (fun _=>aE s b) k m)→Q .normal [(2,vr),(3,.pointer (some ⟨M,0,none⟩)),(4,.int .i64 n),(5,vt),(7,vp),(11,vd),(12,.int .i64 t),(13,.int .i64 b),(15,va),(23,.int .i64 k),(24,.int .i64 k)] h') :
  LC.wp Tryz.prog (.block 22 (.loop L.ar.l12)) Q ρ h:=by
 have oks : ∀ j,(up (fun _=>aE s b) j m).ok (c+80*j)∧(up (fun _=>aE s b) j m).blocks.length=m.blocks.length:=by
  intro j
  induction j with
  | zero=>exact ⟨hm,rfl⟩
  | succ j ih=>exact ⟨(ih.1.fP (s:=s) (b:=b)).mono (by omega),(mF (s:=s) (b:=b)).trans ih.2⟩
 simp only [aK]
 refine bZ [2,3,4,5,7,11,12,13,15,23,24] (fun (_:Unit) j=>[vr,.pointer (some ⟨M,0,none⟩),.int .i64 n,vt,vp,vd,.int .i64 t,.int .i64 b,va,.int .i64 k,.int .i64 j]) (fun _ j h2=>Nx s M vs W0 h2 o0 (up (fun _=>aE s b) j m)) k ()
  rfl (by omega) h0 x (fun _ _=>rfl) (fun v k h2 hk2 x2=>by simp) ?_ ?_
 ·rintro _ j h2 hlt x2 K2 hK2
  obtain ⟨q1,q2⟩:=oks j
  have e2:up (fun _=>aE s b) (j+1) m=aE s b (up (fun _=>aE s b) j m):=rfl
  rw [e2] at hK2
  generalize up (fun _=>aE s b) j m=m2 at x2 hK2 q1 q2
  simp only [aK]
  simp
  refine af (by kernel_rfl) (sR x2 (b:=b) (by omega) q1 (by omega) hfree) ?_
  rintro _ h3 x3
  exact hK2 () _ _ rfl rfl x3
 ·rintro _ h2 x2
  exact hQ h2 x2
end
end Go.Proofs.YtbkdlhkoiagbbaaGreat
namespace Go.Proofs.YtbkdlhkoiagbbaaGreat
open Go Go.Lft
theorem Nx.up {s:List Int} {M:Nat} {vs:Value} {W W0:View} {h:Heap} {o0:Own} {m:MS} (x:Nx s M vs W h o0 m) (hW:W0.le W):Nx s M vs W0 h o0 m:=by
 obtain ⟨W',o,g,w,f⟩:=x
 exact ⟨W',o,View.le_trans hW g,w,f⟩
theorem Nx.re {s:List Int} {M:Nat} {vs:Value} {W:View} {h:Heap} {o0 o0':Own} {m:MS} (x:Nx s M vs W h o0 m) (he : ∀ k,o0' k=o0 k):Nx s M vs W h o0' m:=by
 obtain ⟨W',o,g,w,f⟩:=x
 exact ⟨W',o,g,w,fun k hk=>(f k hk).trans (he k).symm⟩
theorem Nx.iS {po:OP} {s:List Int} {M:Nat} {vs:Value} {W0:View} {h:Heap} {o0:Own} {m:MS} {α:Type} [r:Rep α] {ty e t:TypeId} {us:List (Nat × Value)} {k:Key} {bytes:Nat} {z:Value} {K:Value→Heap→Prop} (x:Nx s M vs W0 h o0 m) (h3:3≤k.1) (hk:o0 k=none) (hT:et Tryz.prog t e (Rep.n α) bytes z)
  (hK : ∀ v h',v.oneCell'=true→Nx s M vs W0 h' (o0.upd k (it e v ([]:List α))) m→K v h'):@Lft.step po Tryz.prog (.buildSlice t 0 #[]) ty us h K:=by
 obtain ⟨W,o,g,w,f⟩:=x
 refine w.own.iS (k:=k) (α:=α) ((f k h3).trans hk) hT fun v h2 hle2 hv w2 _=>hK v h2 hv ?_
 obtain ⟨vb,vl,lb,bb⟩:=w.box
 refine ⟨W,_,g,⟨w2,w.src,vb,vl,lb,bb.frame fun q hq=>Own.ab (by rintro rfl;omega)⟩,fun q hq=>?_⟩
 unfold Own.upd
 split
 ·rfl
 ·exact f q hq
theorem Nx.D1 {po po2:OP} {s:List Int} {M:Nat} {vs:Value} {W0:View} {h:Heap} {o0:Own} {m:MS} {ty ty2:TypeId} {us:List (Nat × Value)} {us2:Value→List (Nat × Value)} {c1 c2:Operand} {K:Value→Value→Heap→Prop} (x:Nx s M vs W0 h o0 m) (hc1 : ∀ v,asg (us2 v) c1 = .pointer (some ⟨M,5,none⟩)) (hc2 : ∀ v,asg (us2 v) c2=v)
  (hK : ∀ v h',Nx s M vs W0 h' o0 (m.cz [])→K v undef h'):@Lft.step po Tryz.prog (.buildSlice T.a8 0 #[]) ty us h fun v h2=>@Lft.step po2 Tryz.prog (.store T.a8 c1 c2) ty2 (us2 v) h2 fun w h3=>K v w h3:=by
 obtain ⟨W,o,g,w,f⟩:=x
 obtain ⟨vb,vl,lb,bb⟩:=w.box
 have w1:=w.own.sub (o':=o.upd (0,1) none) fun j i hj=>by
  unfold Own.upd at hj
  split at hj
  ·cases hj
  ·exact hj
 refine w1.iS (k:=(0,1)) (α:=Int) Own.ag El.a8 fun v h2 hle2 hv w2 _=>?_
 have w2:=w2.congr (o':=o.upd (0,1) (it T.int v ([]:List Int))) fun q=>by
  unfold Own.upd;split<;>rfl
 refine w2.cG (k:=(0,0)) (n:=5) (i:=5) (e:=T.aS) (B:=M) (l:=mkL vs m.at_ m.ps vb m.next vl) ((Own.ab (by simp)).trans bb.box) (by decide) (by kernel_rfl) (hc1 v) (hc2 v) hv fun h3 w3 _=>?_
 refine hK v h3 ⟨W,_,g,⟨w3,w.src,vb,v,lb,⟨rfl,rfl,(Own.ab (by simp)).trans ((Own.ab (by simp)).trans bb.blk),bb.len,bb.term,fun i hi=>?_,fun i hi=>?_⟩⟩,fun k hk=>?_⟩
 ·exact (Own.ab (by simp)).trans ((Own.ab (by simp)).trans (bb.phis i hi))
 ·exact (Own.ab (by simp)).trans ((Own.ab (by simp)).trans (bb.ins i hi))
 ·rw [Own.ab (by rintro rfl;simp at hk),Own.ab (by rintro rfl;simp at hk)]
  exact f k hk
section
variable {s:List Int} {M:Nat} {vs:Value} {W0:View} {h:Heap} {o0:Own} {m:MS}
theorem E6 {n a p:Nat} {vr vt vp vd:Value} {t:Nat} {to:List (List Int)} {x0:BL × MS} (x:Nx s M vs W0 h (o0.upd (6,0) (it T.bool vd x0.1)) x0.2) (hto:SlRd W0 vt to) (htl:to.length=n) (f7:o0 (7,0)=none) (f90:o0 (9,0)=none) (f91:o0 (9,1)=none) (q:B2 n a p x0) (hn:n≤10) (hp:p≤100) (ha:16000≤a) (ha2:a≤90000) {Q:Post} {ρ:Env}
  (h0:bm [2,3,4,5,7,11,12,13] ρ=[(2,vr),(3,.pointer (some ⟨M,0,none⟩)),(4,.int .i64 n),(5,vt),(7,vp),(11,vd),(12,.int .i64 t),(13,.int .i64 0)])
  (hQ : ∀ h':Heap,Nx s M vs W0 h' (o0.upd (6,0) (it T.bool vd (up (aL s to n) n x0).1)) (up (aL s to n) n x0).2→Q .normal [(2,vr),(3,.pointer (some ⟨M,0,none⟩)),(4,.int .i64 n),(5,vt),(7,vp),(11,vd),(12,.int .i64 t),(13,.int .i64 n)] h') :
  LC.wp Tryz.prog (.block 8 (.loop L.ar.l5)) Q ρ h:=by
 have oks : ∀ j,j≤n→B2 n (a+600*j) p (up (aL s to n) j x0):=by
  intro j
  induction j with
  | zero=>intro _;exact q
  | succ j ih=>
   intro hj
   have:=pK (s:=s) (to:=to) (b:=j) (ih (by omega)) (by omega) hn hp (by omega) fun h=>lH h
   exact ⟨this.z.mono (by omega) (Nat.le_refl _) (Nat.le_refl _),this.len,this.none⟩
 simp only [aK]
 refine bZ [2,3,4,5,7,11,12,13] (fun (_:Unit) j=>[vr,.pointer (some ⟨M,0,none⟩),.int .i64 n,vt,vp,vd,.int .i64 t,.int .i64 j]) (fun _ j h2=>Nx s M vs W0 h2 (o0.upd (6,0) (it T.bool vd (up (aL s to n) j x0).1)) (up (aL s to n) j x0).2) n ()
  rfl (by omega) h0 x (fun _ _=>rfl) (fun v k h2 hk2 x2=>by simp) ?_ ?_
 ·rintro _ b h2 hlt x2 K2 hK2
  have q2:=oks b (by omega)
  have e2:up (aL s to n) (b+1) x0=aL s to n b (up (aL s to n) b x0):=rfl
  rw [e2] at hK2
  generalize up (aL s to n) b x0=y at x2 hK2 q2
  obtain ⟨dn,m⟩:=y
  have x2:Nx s M vs W0 h2 (o0.upd (6,0) (it T.bool vd dn)) m:=x2
  have z:Sz n (a+600*b) p 700 m:=q2.z
  have hdn:dn.length=n:=q2.len
  have hbs:aL s to n b (dn,m)=_:=aL.eq_1 s to n b (dn,m)
  simp only at hbs
  have sd:=x2.z.at (by decide) Own.ag
  simp only [aK]
  refine aa fun y hy=>?_
  simp (disch:=omega) [sd.idx1 rfl,sd.bool (View.le_refl _)]
  rw [hy];clear hy y
  refine aa fun y hy=>?_
  simp
  refine x2.iS (k:=(7,0)) (α:=BL) (by decide) ((Own.ab (by simp)).trans f7) El.sn fun va h3 hva x3=>?_
  clear sd
  rw [hy];clear hy y
  refine aa fun y hy=>?_
  refine aa fun w hw=>?_
  simp
  rw [hw];clear hw w
  refine Fq (vr:=vr) (vt:=vt) (vp:=vp) (vd:=vd) (t:=t) (b:=b) (r:=!nth dn b) x3 ((Own.ab (by simp)).trans f7) z (by omega) (by simp [bm,aj,al]) fun h4 W4 va hW4 x4 sa=>?_
  clear x3 hva x2
  have hal:(iQ m.f n).length=n:=by unfold iQ;simp
  have har : ∀ i,i<n→(nth (iQ m.f n) i).length=n:=fun i hi=>by
   unfold iQ;rw [df hi,pS];exact z.len
  generalize iQ m.f n=away at sa hbs hal har
  simp
  rw [hy];clear hy y
  refine aa fun y hy=>?_
  refine aa fun w hw=>?_
  simp
  rw [hw];clear hw w
  have sd:=x4.z.at (by decide) Own.ag
  refine EY (M:=M) (n:=n) (b:=b) (vr:=vr) (vt:=vt) (vp:=vp) (vd:=vd) (va:=va) (t:=t) (r:=!nth dn b) sd (sa.mono x4.z.le) hlt hdn hal har (by omega) (by simp [bm,aj,al]) ?_
  have hrd:up (fun a r=>r&&(decide (a=b)||nth dn a||nth (nth away a) b)) n (!nth dn b)=lT dn away b n:=rfl
  rw [hrd]
  simp
  rw [hy];clear hy y
  refine aa fun y hy=>?_
  refine aa fun w hw=>?_
  simp
  rw [hw];clear hw w
  cases hr:lT dn away b n with
  | false=>
   rw [hr] at hbs
   rw [if_neg (by simp)] at hbs
   refine a7 (by simp) ?_
   simp
   refine hK2 () _ _ rfl rfl ?_
   rw [hbs]
   exact x4.up hW4
  | true=>
   rw [hr] at hbs
   rw [if_pos rfl] at hbs
   have hnb:=lH hr
   have hib:=q2.none b hlt hnb
   refine aW (by simp) ?_
   simp
   rw [hy];clear hy y
   refine aa fun y hy=>?_
   simp (disch:=omega) [sd.idx1 rfl]
   refine x4.z.sD (k:=(6,0)) (α:=Bool) (i:=b) (d:=true) rfl (by decide) Own.ag (by omega) (by kernel_rfl) rfl rfl (fun W=>rX.2 rfl) fun h5 n5=>?_
   have x5:Nx s M vs W4 h5 (o0.upd (6,0) (it T.bool vd (dn.set b true))) m:=n5.x.re fun q=>by rw [ib]
   clear n5 x4 sd
   rw [hy];clear hy y
   refine aa fun y hy=>?_
   simp
   refine x5.D1 (fun _=>rfl) (fun _=>rfl) fun v6 h6 x6=>?_
   rw [hy];clear hy y
   obtain ⟨c,hc⟩ : ∃ c:Nat,m.ps=c:=⟨m.ps.toNat,by have:=z.ps0;omega⟩
   have hc4:c≤4:=by have:=z.ps1;omega
   refine aa fun y hy=>?_
   refine aa fun w hw=>?_
   simp
   rw [hw];clear hw w
   refine E3 (n:=n) (b:=b) (vr:=vr) (vt:=vt) (vp:=vp) (vd:=vd) (va:=va) (t:=t) (r:=true) x6 z hc (by simp [bm,aj,al]) fun h7 x7=>?_
   simp
   rw [hy];clear hy y
   refine aa fun y hy=>?_
   refine aa fun w hw=>?_
   simp
   rw [hw];clear hw w
   refine E2 (n:=n) (b:=b) (vr:=vr) (vt:=vt) (vp:=vp) (vd:=vd) (va:=va) (t:=t) (dn:=dn.set b true) (away:=away) x7 z Own.ag sa hlt (by rw [List.length_set];exact hdn) hal har hn (by simp;omega) (by omega) (by omega) (by simp [bm,aj,al]) fun h8 x8=>?_
   have hlv:up (gq m (dn.set b true) away b) n (rows (fun i=>(i:Int)) c)=jX m (dn.set b true) away b n:=by
    unfold jX;rw [hc];rfl
   rw [hlv] at x8
   have hll:=vD (dn:=dn.set b true) (away:=away) (b:=b) z hn hp
   have hdo:ig s to n (dn.set b true) away b m=lg s (nth to b) b (up (fun _=>aE s b) (aA s m.at_ 7).toNat (MS.took (m.cz (jX m (dn.set b true) away b n)))):=rfl
   rw [hdo] at hbs
   obtain ⟨m1,hm1⟩ : ∃ m1,m1=m.cz (jX m (dn.set b true) away b n):=⟨_,rfl⟩
   have z1:Sz n (a+600*b) p 700 m1:=by rw [hm1];exact ⟨z.at_,z.n0,z.next,by show (jX _ _ _ _ _).length≤_;omega,z.ps0,z.ps1,z.len,z.phis,z.ins⟩
   have ea:m.at_=m1.at_:=by rw [hm1];rfl
   rw [←hm1] at x8 hbs
   rw [ea] at hbs
   clear hlv hdo hm1 ea x7 x6 x5
   simp
   rw [hy];clear hy y
   refine aa fun y hy=>?_
   simp
   refine af (by kernel_rfl) (eC x8.z (z1.ok (by omega)) (by omega) (k:=7) (by decide) (by decide)) ?_
   rintro _ h9 ⟨rfl,n9⟩
   obtain ⟨t0,t1⟩:=bf (s:=s) (at_:=m1.at_) (n:=7) (by decide)
   generalize aA s m1.at_ 7=kk at hbs t0 t1
   obtain ⟨k,rfl⟩ : ∃ k:Nat,kk=k:=⟨kk.toNat,by omega⟩
   rw [show ((k:Int)).toNat=k by omega] at hbs
   rw [hy];clear hy y
   refine aa fun y hy=>?_
   refine aa fun w hw=>?_
   simp
   rw [hw];clear hw w
   have zok:=(z1.took).ok (show 700≤_ by omega)
   refine Er (n:=n) (b:=b) (k:=k) (c:=a+600*b+1) (vr:=vr) (vt:=vt) (vp:=vp) (vd:=vd) (va:=va) (t:=t) n9.x ((Own.ab (by simp)).trans f90) zok (by omega) (by omega) (by show b<m1.blocks.length;rw [z1.len];exact hlt) (by simp [bm,aj,al]) fun h10 x10=>?_
   have oks2 : ∀ j,(up (fun _=>aE s b) j m1.took).ok (a+600*b+1+80*j)∧(up (fun _=>aE s b) j m1.took).blocks.length=n:=by
    intro j
    induction j with
    | zero=>exact ⟨zok,z1.len⟩
    | succ j ih=>exact ⟨(ih.1.fP (s:=s) (b:=b)).mono (by omega),(mF (s:=s) (b:=b)).trans ih.2⟩
   obtain ⟨k1,k2⟩:=oks2 k
   generalize up (fun _=>aE s b) k m1.took=m2 at x10 hbs k1 k2
   obtain ⟨rv,hrv⟩:=hto.rows
   obtain ⟨hr1,hr2⟩:=hrv b (by omega)
   have ito:=(hto.mono hW4).mono x10.z.le
   simp
   rw [hy];clear hy y
   simp (disch:=omega) [ito.idx1 rfl,hr1 _ (View.le_trans hW4 x10.z.le)]
   refine af (by kernel_rfl) (Hn x10 (b:=b) (by omega) k1 (by omega) ((Own.ab (by simp)).trans f91) (hr2.mono hW4)) ?_
   rintro _ h11 x11
   refine hK2 () _ _ rfl rfl ?_
   rw [hbs]
   exact x11.up hW4
 ·rintro _ h2 x2
  exact hQ h2 x2
end
end Go.Proofs.YtbkdlhkoiagbbaaGreat
namespace Go.Proofs.YtbkdlhkoiagbbaaGreat
open Go Go.Lft
structure GdB (x:BlkD):Prop where
 ins : ∀ i∈x.ins,i.args.length≤10
 args:x.term.args.length≤10
 to:x.term.to.length≤1000
 phis : ∀ p∈x.phis,p.ins.length≤1000
def Gd (m:MS):Prop:=∀ j,j<m.blocks.length→GdB (nth m.blocks j)
variable {s:List Int} {m:MS} {b:Nat}
theorem Gd.took (g:Gd m):Gd m.took:=g
theorem Gd.aH (g:Gd m):Gd m.aH:=g
theorem Gd.aT (g:Gd m) {x:BlkD} (hx:b<m.blocks.length→GdB x):Gd { m with blocks:=m.blocks.set b x }:=fun j hj=>by
 have hj:j<m.blocks.length:=by simpa using hj
 show GdB (nth (m.blocks.set b x) j)
 rw [aJ hj]
 split
 ·rename_i e;exact hx (by omega)
 ·exact g j hj
theorem Gd.add (g:Gd m) {i:InsD} (hi:i.args.length≤10):Gd (m.add b i):=by
 have:=g.aT (b:=b) (x:={ nth m.blocks b with ins:=(nth m.blocks b).ins++[i] }) fun hb=>⟨fun j hj=>by
  rcases List.mem_append.1 hj with h | h
  ·exact (g b hb).ins j h
  ·rw [List.mem_singleton] at h;rw [h];exact hi,(g b hb).args,(g b hb).to,(g b hb).phis⟩
 exact this
theorem Gd.constant (g:Gd m) {n:Int}:Gd (m.constant b n):=g.aH.add (by show 0≤10;omega)
theorem Gd.two (g:Gd m) {op x y:Int}:Gd (m.two b op x y):=g.aH.add (by show 2≤10;omega)
theorem Gd.az (g:Gd m):Gd (az s m b).2:=by
 unfold Go.Proofs.YtbkdlhkoiagbbaaGreat.az
 repeat' split
 ·exact g.took.took.constant
 ·exact g.took.took.took.took.took.constant
 ·exact g.took.took.took
theorem Gd.addr (g:Gd m):Gd (ir s m b).2:=by
 unfold ir
 simp only
 split
 ·exact g.took.constant.took.az.constant.two.two
 ·exact g.took.constant.took
theorem Gd.off (g:Gd m):Gd (offS s m).2:=by
 unfold offS
 split
 ·exact g.took.took.took.took
 ·exact g.took.took
theorem Gd.memory (g:Gd m) {st:Bool}:Gd (gG s m b st):=by
 unfold gG
 simp only
 split
 ·exact g.addr.off.az.add (by show 2≤10;omega)
 ·exact g.addr.off.aH.add (by show 1≤10;omega)
theorem Gd.bin (g:Gd m) {op:Int}:Gd (binS s m b op):=by
 unfold binS
 simp only
 split
 ·exact g.az.az.took.took.constant.two
 ·exact g.az.az.took.two
theorem Gd.div (g:Gd m):Gd (divS s m b):=by
 unfold divS
 simp only
 split
 ·exact g.az.took.constant.took.took.constant.two
 ·exact g.az.took.constant.took.two
theorem Gd.args {x:List Int × MS} (g:Gd x.2) : ∀ n,Gd (up (eU s b) n x).2∧(up (eU s b) n x).1.length=x.1.length+n
 | 0=>⟨g,rfl⟩
 | n+1=>⟨(Gd.args g n).1.az,by show ((up (eU s b) n x).1++[_]).length=_;rw [List.length_append,(Gd.args g n).2,List.length_singleton];omega⟩
theorem Gd.call (g:Gd m):Gd (kY s m b):=by
 unfold kY
 simp only
 have ht:=bf (s:=s) (at_:=m.at_) (n:=5) (by decide)
 obtain ⟨g2,l2⟩:=Gd.args (s:=s) (b:=b) (x:=([],m.took)) g.took (aA s m.at_ 5).toNat
 refine g2.aH.took.add ?_
 show (up (eU s b) (aA s m.at_ 5).toNat ([],m.took)).1.length≤10
 rw [l2];simp;omega
theorem Gd.fP (g:Gd m):Gd (aE s b m):=by
 unfold aE
 simp only
 repeat' split
 ·exact g.took.bin
 ·unfold ltuS
  exact g.took.az.az.two
 ·exact g.took.div
 ·exact g.took.memory
 ·exact g.took.call
 ·unfold p7
  exact g.took.az.az.aH.aH.add (by show 2≤10;omega)
 ·exact g.took.took.took.constant
theorem Gd.dW (g:Gd m) : ∀ n,Gd (up (fun _=>aE s b) n m)
 | 0=>g
 | n+1=>(Gd.dW g n).fP
theorem Gd.HR (g:Gd m) {to:List Int} (ht:to.length≤1000):Gd (lg s to b m):=by
 have h:Gd (ek s to b m).2∧(ek s to b m).1.args.length≤10∧(ek s to b m).1.to.length≤1000:=by
  unfold ek
  simp only
  repeat' split
  ·exact ⟨g.took.took,by show 0≤10;omega,by show 0≤1000;omega⟩
  ·exact ⟨g.took.az,by show 1≤10;omega,by show 0≤1000;omega⟩
  ·exact ⟨g.took,by show 0≤10;omega,by show 0≤1000;omega⟩
  ·exact ⟨g,by show 0≤10;omega,ht⟩
  ·exact ⟨g.az.took.az.aH.took.add (by show 2≤10;omega),by show 1≤10;omega,ht⟩
  ·exact ⟨g.az.took,by show 1≤10;omega,ht⟩
  ·exact ⟨g.az.constant.two,by show 1≤10;omega,ht⟩
 obtain ⟨h1,h2,h3⟩:=h
 exact h1.aT fun hb=>⟨(h1 b hb).ins,h2,h3,(h1 b hb).phis⟩
theorem Gd.fR (g:Gd m) {l:List Int} (hl:l.length≤1000):Gd (m.fR b l):=g.aT fun hb=>⟨(g b hb).ins,(g b hb).args,hl,(g b hb).phis⟩
theorem Gd.cP (g:Gd m):Gd (Go.Proofs.YtbkdlhkoiagbbaaGreat.cP b m):=by
 have:=g.aH.aT (b:=b) (x:={ nth m.blocks b with phis:=(nth m.blocks b).phis++[⟨m.next,[]⟩] }) fun hb=>⟨(g b hb).ins,(g b hb).args,(g b hb).to,fun p hp=>by
  rcases List.mem_append.1 hp with h | h
  ·exact (g b hb).phis p h
  ·rw [List.mem_singleton] at h;rw [h];show 0≤1000;omega⟩
 exact this
theorem Gd.j0 (g:Gd m) : ∀ n,Gd (up (fun _=>Go.Proofs.YtbkdlhkoiagbbaaGreat.cP b) n m)
 | 0=>g
 | n+1=>(Gd.j0 g n).cP
theorem Gd.iq (g:Gd m) {i:Nat} {l:List InD} (hl:l.length≤1000):Gd (m.iq b i l):=g.aT fun hb=>⟨(g b hb).ins,(g b hb).args,(g b hb).to,fun p hp=>by
 rcases List.mem_or_eq_of_mem_set hp with h | h
 ·exact (g b hb).phis p h
 ·rw [h];exact hl⟩
theorem Gd.smF {n a p i:Nat} (g:Gd m) (z:Sz n a p i m) (hn:n≤10000) (hp:p≤10000) (hi:i≤10000):SmF m.f:=by
 refine ⟨by show m.blocks.length≤_;rw [z.len];exact hn,fun j hj=>?_⟩
 have hj:j<m.blocks.length:=hj
 have h:=g j hj
 have e:nth m.f.blocks j=nth m.blocks j:=rfl
 rw [e]
 exact ⟨Nat.le_trans (z.phis j) hp,Nat.le_trans (z.ins j) hi,by have:=h.args;omega,by have:=h.to;omega,fun k hk=>by have:=h.phis _ (bu hk);omega,fun k hk=>by have:=h.ins _ (bu hk);omega⟩
theorem sI {f:ah} : ∀ n,∀ t∈thTo f n,t.mks.length≤1000
 | 0,t,h=>by cases h
 | n+1,t,h=>by
  rw [eH] at h
  rcases List.mem_append.1 h with h | h
  ·exact sI n t h
  ·unfold thB at h
   simp only [List.mem_append,List.mem_singleton,rows,List.mem_map,List.mem_range] at h
   rcases h with (⟨i,_,rfl⟩ | ⟨i,_,rfl⟩) | rfl
   ·show 1≤1000;omega
   ·show (aY _).length≤1000
    unfold aY
    repeat' split
    all_goals simp
   ·show 0≤1000;omega
theorem yh {n a p i:Nat} (z:Sz n a p i m) : ∀ k,(thTo m.f k).length≤(p+i+1)*k
 | 0=>Nat.le_refl _
 | k+1=>by
  have h1:=yh z k
  have h2:=z.phis k
  have h3:=z.ins k
  have e:nth m.f.blocks k=nth m.blocks k:=rfl
  rw [eH,List.length_append,Nat.mul_succ]
  unfold thB
  simp only [List.length_append,lP,List.length_singleton,e]
  omega
theorem pT {n a p i:Nat} (z:Sz n a p i m) (hn:n≤10) (hp:p≤1000) (hi:i≤3000):(aG m.f).length≤60000:=by
 have h1:=yh z n
 have h2:(p+i+1)*n≤5000*10:=Nat.mul_le_mul (by omega) hn
 have e:aG m.f=thTo m.f n:=by
  unfold aG
  rw [show m.f.blocks.length=n from z.len]
 rw [e];omega
theorem tI {n a p i:Nat} (z:Sz n a p i m) (hn:n≤10) (hp:p≤1000) (hi:i≤3000):(fM m.f b).length≤70000000:=by
 have h:=uz (l:=aG m.f) (f:=m.f) (b:=b) (c:=1000) (sI _) (out:=rows (fun i=>(i:Int)) m.f.params.toNat)
 have h2:=pT z hn hp hi
 have h3:m.f.params.toNat≤4:=by have:=z.ps1;show m.ps.toNat≤4;omega
 rw [lP] at h
 have e:fM m.f b=(aG m.f).foldl (dK m.f b) (rows (fun i=>(i:Int)) m.f.params.toNat):=rfl
 rw [e];omega
end Go.Proofs.YtbkdlhkoiagbbaaGreat
namespace Go.Proofs.YtbkdlhkoiagbbaaGreat
open Go Go.Lft
structure P3 (n a p i:Nat) (m:MS):Prop where
 z:Sz n a p i m
 g:Gd m
theorem P3.mono {n a p i a' p' i':Nat} {m:MS} (q:P3 n a p i m) (h1:a≤a') (h2:p≤p') (h3:i≤i'):P3 n a' p' i' m:=⟨q.z.mono h1 h2 h3,q.g⟩
theorem Sz.const {n a p i b:Nat} {m:MS} {k:Int} (z:Sz n a p i m):Sz n (a+3) p (i+1) (m.constant b k):=by
 have h1:Sz n (a+3) p (i+1) { m.aH with live:=m.live++aY (conD m.next k) }:=⟨by have:=z.at_;show m.at_≤_;omega,by have:=z.n0;show 0≤m.next+1;omega,by have:=z.next;show m.next+1≤_;omega,by
  have:=z.live
  show (m.live++[m.next]).length≤_
  rw [List.length_append,List.length_singleton];omega,z.ps0,z.ps1,z.len,z.phis,fun j=>by have:=z.ins j;show (nth m.blocks j).ins.length≤_;omega⟩
 exact h1.aT (b:=b) (x:={ nth m.blocks b with ins:=(nth m.blocks b).ins++[conD m.next k] }) (z.phis b) (by have:=z.ins b;show ((nth m.blocks b).ins++[_]).length≤_;rw [List.length_append,List.length_singleton];omega)
theorem Sz.iq {n a p i b j:Nat} {m:MS} {l:List InD} (z:Sz n a p i m):Sz n a p i (m.iq b j l):=
 z.aT (by show ((nth m.blocks b).phis.set j _).length≤_;rw [List.length_set];exact z.phis b) (z.ins b)
def rowS (s:List Int) (b:Nat) (m:MS):List Int × MS:=if (fM m.f b).length=0 then ([m.next],m.took.took.constant b (iz s m)) else (fM m.f b,m)
theorem xB {s:List Int} {b:Nat} {m:MS}:0<(rowS s b m).1.length:=by
 unfold rowS
 split
 ·show 0<1;omega
 ·show 0<(fM m.f b).length;omega
theorem Di {s:List Int} {n a p i b:Nat} {m:MS} (z:Sz n a p i m) (hn:n≤10) (hp:p≤1000) (hi:i≤3000):(rowS s b m).1.length≤70000000:=by
 unfold rowS
 split
 ·show 1≤70000000;omega
 ·exact tI z hn hp hi
theorem Bb {s:List Int} {n a p i b:Nat} {m:MS} (q:P3 n a p i m):P3 n (a+5) p (i+1) (rowS s b m).2:=by
 unfold rowS
 split
 ·exact ⟨(q.z.took.took.const).mono (by omega) (Nat.le_refl _) (Nat.le_refl _),q.g.took.took.constant⟩
 ·exact q.mono (by omega) (Nat.le_refl _) (by omega)
theorem BE {s:List Int} {p:List Int} {k b:Nat} {x:List InD × MS} (h:nth p k=b):bG s p k x=(x.1++[⟨b,nth (rowS s b x.2).1 (aA s (rowS s b x.2).2.at_ (rowS s b x.2).1.length).toNat⟩],(rowS s b x.2).2.took):=by
 unfold bG
 rw [h]
 rfl
theorem js {s:List Int} {n a p i:Nat} {pl:List Int} {x:List InD × MS} (q:P3 n a p i x.2) : ∀ k,P3 n (a+6*k) p (i+k) (up (bG s pl) k x).2∧(up (bG s pl) k x).1.length=x.1.length+k
 | 0=>⟨q,rfl⟩
 | k+1=>by
  obtain ⟨h1,h2⟩:=js (pl:=pl) q k
  have h3:=Bb (s:=s) (b:=(nth pl k).toNat) h1
  refine ⟨?_,?_⟩
  ·have e:(up (bG s pl) (k+1) x).2=(rowS s (nth pl k).toNat (up (bG s pl) k x).2).2.took:=rfl
   rw [e]
   exact ⟨(h3.z.took).mono (by omega) (Nat.le_refl _) (by omega),h3.g.took⟩
  ·have e:(up (bG s pl) (k+1) x).1=(up (bG s pl) k x).1++[⟨nth pl k,nth (rowS s (nth pl k).toNat (up (bG s pl) k x).2).1 (aA s (rowS s (nth pl k).toNat (up (bG s pl) k x).2).2.at_ (rowS s (nth pl k).toNat (up (bG s pl) k x).2).1.length).toNat⟩]:=rfl
   rw [e,List.length_append,h2,List.length_singleton];omega
theorem EN {s:List Int} {n a p i b j:Nat} {pl:List Int} {m:MS} (q:P3 n a p i m) (hp:pl.length≤9):P3 n (a+54) p (i+9) (phi3 s b pl j m):=by
 obtain ⟨h1,h2⟩:=js (s:=s) (pl:=pl) (x:=([],m)) q pl.length
 exact ⟨(h1.z.iq).mono (by omega) (Nat.le_refl _) (by omega),h1.g.iq (by rw [h2];show 0+_≤_;omega)⟩
theorem lY {s:List Int} {n a p i b:Nat} {pl:List Int} {m:MS} (q:P3 n a p i m) (hp:pl.length≤9) : ∀ k,P3 n (a+54*k) p (i+9*k) (up (phi3 s b pl) k m)
 | 0=>q
 | k+1=>(EN (lY q hp k) hp).mono (by omega) (Nat.le_refl _) (by omega)
end Go.Proofs.YtbkdlhkoiagbbaaGreat
namespace Go.Proofs.YtbkdlhkoiagbbaaGreat
open Go Go.Lft
theorem Hm {H:View} {a b:Int} (ha:I64 a) (hb:I64 b):Rd H (.agg #[.int .i64 a,.int .i64 b]) (InD.mk a b):=⟨_,rfl,[.int .i64 a],[.int .i64 b],rfl,⟨rfl,ha⟩,rfl,hb⟩
section
variable {s:List Int} {M:Nat} {vs:Value} {W0:View} {h:Heap} {o0:Own} {m:MS}
theorem Nx.EU (x:Nx s M vs W0 h o0 m) {h':Heap} {k:Key} {u:Value} {l:List Int} (h3:3≤k.1) (hk:o0 k=none) (hle:(vw h).le (vw h')) (hb : ∀ b,u.ownBlock=some b→h.size≤b) (ho:OwnT nothing h' T.int u l):Nx s M vs W0 h' (o0.upd k (it T.int u l)) m:=by
 obtain ⟨W,o,g,w,f⟩:=x
 have w2:=w.own.add (k:=k) ((f k h3).trans hk) (xy (W':=W) ho) hle hb
 obtain ⟨vb,vl,lb,bb⟩:=w.box
 refine ⟨W,_,g,⟨w2,w.src,vb,vl,lb,bb.frame fun q hq=>Own.ab (by rintro rfl;omega)⟩,fun q hq=>?_⟩
 unfold Own.upd
 split
 ·rfl
 ·exact f q hq
theorem Nx.freeze {α:Type} [r:Rep α] {k:Key} {e:TypeId} {v:Value} {l:List α} (x:Nx s M vs W0 h (o0.upd k (it e v l)) m) (h3:3≤k.1) (hk:o0 k=none) : ∃ W',W0.le W'∧Nx s M vs W' h o0 m∧SlRd W' v l:=by
 obtain ⟨W,o,g,w,f⟩:=x
 have hk2:=(f k h3).trans Own.ag
 obtain ⟨w2,sl⟩:=w.own.freeze hk2
 have hWp:=jD (h:=h) (w.own.av _ _ hk2)
 obtain ⟨vb,vl,lb,bb⟩:=w.box
 refine ⟨_,View.le_trans g hWp,⟨_,_,View.le_refl _,⟨w2,w.src.mono hWp,vb,vl,lb,bb.frame fun q hq=>Own.ab (by rintro rfl;omega)⟩,fun q hq=>?_⟩,sl⟩
 by_cases e2:q=k
 ·rw [e2,Own.ag,hk]
 ·rw [Own.ab e2,f q hq,Own.ab e2]
theorem Nx.gM {po po2:OP} {α:Type} [r:Rep α] {k:Key} {e t ty ty2:TypeId} {bytes:Nat} {z:Value} {v:Value} {l:List α} (x:Nx s M vs W0 h o0 m) (h3:3≤k.1) (hk:o0 k=it e v l) {a y y2:Operand} {us:List (Nat × Value)} {us2:Value→List (Nat × Value)} {u:Value} {d:α} {K:Value→Value→Heap→Prop} (hT:et Tryz.prog t e (Rep.n α) bytes z) (hx:asg us a=u) (hr : ∀ W,Rd W u d)
  (hb:(l.length+1)*bytes≤140737488355328) (hb2:l.length+1≤140737488355328) (hy : ∀ u,asg (us2 u) y=v) (hy2 : ∀ u,asg (us2 u) y2=u)
  (hK : ∀ u v' h',Nx s M vs W0 h' (o0.upd k (it e v' (l++[d]))) m→K u v' h') :
  @Lft.step po Tryz.prog (.buildSlice t 1 #[(0,a)]) ty us h fun u h2=>@Lft.step po2 Tryz.prog (.call ⟨.builtin .append,#[y,y2],#[t,t]⟩) ty2 (us2 u) h2 fun v' h3=>K u v' h3:=by
 obtain ⟨W,o,g,w,f⟩:=x
 refine w.own.gM (k:=k) (d:=d) ((f k h3).trans hk) hT hx (hr W) hb hb2 hy hy2 fun u v' h' w2 _=>hK u v' h' ?_
 obtain ⟨vb,vl,lb,bb⟩:=w.box
 refine ⟨W,_,g,⟨w2,w.src,vb,vl,lb,bb.frame fun q hq=>Own.ab (by rintro rfl;omega)⟩,fun q hq=>?_⟩
 unfold Own.upd
 split
 ·rfl
 ·exact f q hq
theorem DS {n a p i b j:Nat} {vr vt vp vd vq vi:Value} {pl:List Int} (x:Nx s M vs W0 h (o0.upd (7,2) (it T.dq vi ([]:List InD))) m) (f71:o0 (7,1)=none) (q:P3 n a p i m) (hn:n≤10) (ha:a≤500000) (hia:i≤a) (hp:p≤100) (hi:i≤2000) (hq:SlRd W0 vq pl) (hpl:pl.length≤9) (hpr : ∀ k,k<pl.length→∃ c:Nat,nth pl k=c∧c<n) {Q:Post} {ρ:Env}
  (h0:bm [2,3,4,5,7,11,25,26,27,28,29] ρ=[(2,vr),(3,.pointer (some ⟨M,0,none⟩)),(4,.int .i64 n),(5,vt),(7,vp),(11,vd),(25,.int .i64 b),(26,vq),(27,.int .i64 j),(28,vi),(29,.int .i64 0)])
  (hQ : ∀ (h':Heap) vi,Nx s M vs W0 h' (o0.upd (7,2) (it T.dq vi (up (bG s pl) pl.length ([],m)).1)) (up (bG s pl) pl.length ([],m)).2→Q .normal [(2,vr),(3,.pointer (some ⟨M,0,none⟩)),(4,.int .i64 n),(5,vt),(7,vp),(11,vd),(25,.int .i64 b),(26,vq),(27,.int .i64 j),(28,vi),(29,.int .i64 pl.length)] h') :
  LC.wp Tryz.prog (.block 28 (.loop L.ar.l15)) Q ρ h:=by
 simp only [aK]
 refine bZ [2,3,4,5,7,11,25,26,27,28,29] (fun (vi:Value) k=>[vr,.pointer (some ⟨M,0,none⟩),.int .i64 n,vt,vp,vd,.int .i64 b,vq,.int .i64 j,vi,.int .i64 k]) (fun vi k h2=>Nx s M vs W0 h2 (o0.upd (7,2) (it T.dq vi (up (bG s pl) k ([],m)).1)) (up (bG s pl) k ([],m)).2) pl.length vi
  rfl (by omega) h0 x (fun _ _=>rfl) (fun v k h2 hk2 x2=>by simp [hq.len]) ?_ ?_
 ·rintro vi k h2 hlt x2 K2 hK2
  obtain ⟨q2,hl2⟩:=js (s:=s) (pl:=pl) (x:=([],m)) q k
  obtain ⟨c,hc,hcn⟩:=hpr k hlt
  have e2:up (bG s pl) (k+1) ([],m)=bG s pl k (up (bG s pl) k ([],m)):=rfl
  rw [e2,BE hc] at hK2
  have hl2:(up (bG s pl) k ([],m)).1.length≤9:=by rw [hl2];simp;omega
  generalize up (bG s pl) k ([],m)=y at x2 hK2 q2 hl2
  obtain ⟨il,m2⟩:=y
  have q2:P3 n (a+54) p (i+9) m2:=P3.mono q2 (by omega) (Nat.le_refl _) (by omega)
  have hl2:il.length≤9:=hl2
  have x2:Nx s M vs W0 h2 (o0.upd (7,2) (it T.dq vi il)) m2:=x2
  simp only at hK2
  have hcell : ∀ {h':Heap},W0.le (vw h')→an (vw h') ((slA vq).add k)=some (.int .i64 c):=fun g=>by rw [hq.int g hlt,hc]
  have hcell0:an W0 ((slA vq).add k)=some (.int .i64 c):=by rw [hq.int (View.le_refl _) hlt,hc]
  have hrow:rowS s c m2=_:=rowS.eq_1 s c m2
  have hq3:=Bb (s:=s) (b:=c) q2
  have hpos:=xB (s:=s) (b:=c) (m:=m2)
  have hrl0:=Di (s:=s) (b:=c) q2.z hn (by omega) (by omega)
  simp only [aK]
  refine aa fun y hy=>?_
  obtain ⟨vb,vl,rd⟩:=x2.z.reads
  refine cM (vw h2) (View.le_refl _) ?_
  simp (disch:=omega) [rd.f,(hq.mono x2.z.le).idx1 rfl,hcell x2.z.le]
  have hth:(aG m2.f).length≤60000:=pT q2.z hn (by omega) (by omega)
  refine af (by kernel_rfl) (y5 (b:=c) (rd.rd (C7 q2.z)) (q2.g.smF q2.z (by omega) (by omega) (by omega)) ⟨q2.z.ps0,by have:=q2.z.ps1;show m2.ps≤_;omega⟩ (by show c<m2.blocks.length;rw [q2.z.len];exact hcn) (sI _) (by omega)) ?_
  rintro u3 h3 ⟨hle3,hb3,ho3⟩
  have x3:=x2.EU (k:=(7,1)) (by decide) ((Own.ab (by simp)).trans f71) hle3 hb3 ho3
  clear rd x2 ho3 hb3
  generalize fM m2.f c=sl at x3 hrow
  rw [hy];clear hy y
  refine aa fun y hy=>?_
  have fin : ∀ (v30:Value) (h':Heap) (ρ:Env),Nx s M vs W0 h' ((o0.upd (7,2) (it T.dq vi il)).upd (7,1) (it T.int v30 (rowS s c m2).1)) (rowS s c m2).2→Lft.look ρ 2=some vr→Lft.look ρ 3=some (.pointer (some ⟨M,0,none⟩))→Lft.look ρ 4=some (.int .i64 n)→Lft.look ρ 5=some vt→Lft.look ρ 7=some vp→Lft.look ρ 11=some vd→Lft.look ρ 25=some (.int .i64 b)→Lft.look ρ 26=some vq→Lft.look ρ 27=some (.int .i64 j)→Lft.look ρ 28=some vi→Lft.look ρ 29=some (.int .i64 k)→Lft.look ρ 30=some v30→
    LC.wp Tryz.prog y (eo 29 (eZ K2 (eo 28 Q))) ρ h':=by
   intro v30 h' ρ x4 r2 r3 r4 r5 r7 r11 r25 r26 r27 r28 r29 r30
   rw [hy];clear hy y
   generalize rowS s c m2=r at x4 hK2 hq3 hpos hrl0
   obtain ⟨W4,hW4,x4,s4⟩:=x4.freeze (by decide) ((Own.ab (by simp)).trans f71)
   have hrl:=s4.bound
   refine cM W4 x4.z.le ?_
   simp (disch:=omega) [aj,al,r2,r3,r4,r5,r7,r11,r25,r26,r27,r28,r29,r30,(hq.mono hW4).idx1 rfl,ae hW4 hcell0,s4.len]
   refine af (by kernel_rfl) (eC x4.z (hq3.z.ok (by omega)) (by omega) (k:=(r.1.length:Int)) (by omega) (by omega)) ?_
   rintro _ h5 ⟨rfl,n5⟩
   refine ⟨n5.le,?_⟩
   obtain ⟨t0,t1⟩:=bf (s:=s) (at_:=r.2.at_) (n:=(r.1.length:Int)) (by omega)
   generalize aA s r.2.at_ (r.1.length:Int)=tv at t0 t1 hK2
   have hrng:=s4.range (i:=tv.toNat) (by omega)
   simp (disch:=omega) [aj,al,r2,r3,r4,r5,r7,r11,r25,r26,r27,r28,r29,r30,s4.idx1 rfl,s4.int (View.le_refl _)]
   refine aR (z:=.agg #[.int .i64 0,.int .i64 0]) (places:=[(0,1),(1,1)]) (vs:=[(0,.int .i64 c),(1,.int .i64 (nth r.1 tv.toNat))]) (cs:=#[.int .i64 c,.int .i64 (nth r.1 tv.toNat)]) (by kernel_rfl) (by kernel_rfl) (by simp) (by rfl) ?_
   refine n5.x.gM (k:=(7,2)) (α:=InD) (d:=⟨c,nth r.1 tv.toNat⟩) (by decide) Own.ag El.iD rfl (fun W=>Hm ⟨by omega,by omega⟩ hrng) (by omega) (by omega) (fun _=>rfl) (fun _=>rfl) fun u v' h6 x6=>?_
   refine hK2 v' _ _ ?_ ?_ ((x6.re fun q=>by rw [ib]).up hW4)
   ·simp [aj,al,r29]
   ·simp [bm,aj,al,r2,r3,r4,r5,r7,r11,r25,r26,r27,r28,r29]
  have hsl:=(x3.z.at (k:=(7,1)) (by decide) Own.ag).len (K:=vw h3)
  have hlen3 : ∀ {Q:View},Un.ev Q .len u3=some (.int .i64 sl.length):=fun {Q}=>(x3.z.at (k:=(7,1)) (by decide) Own.ag).len
  refine aa fun w hw=>?_
  simp [hlen3]
  rw [hw];clear hw w
  by_cases c0:sl.length=0
  ·have c0':sl=[]:=List.eq_nil_of_length_eq_zero c0
   rw [if_pos c0] at hrow
   refine a7 (by simp [c0,c0']) ?_
   refine cM W0 x3.z.le ?_
   simp (disch:=omega) [hq.idx1 rfl,hcell0]
   refine af (by kernel_rfl) (wX x3.z (q2.z.ok (by omega)) (by omega)) ?_
   rintro _ h4 ⟨rfl,n4⟩
   refine ⟨n4.le,?_⟩
   refine af (by kernel_rfl) (fU n4 (b:=c) (by show c<m2.blocks.length;rw [q2.z.len];exact hcn) (q2.z.took.took.ok (by omega)) (by omega) nS) ?_
   rintro _ h5 ⟨rfl,n5⟩
   have i64:I64 m2.next:=by have:=q2.z.n0;have:=q2.z.next;constructor<;>omega
   subst c0'
   refine n5.x.gM (k:=(7,1)) (α:=Int) (d:=m2.next) (by decide) Own.ag El.a8 rfl (fun W=>dN.2 ⟨rfl,i64⟩) (by simp) (by simp) (fun _=>rfl) (fun _=>rfl) fun u v' h6 x6=>?_
   refine fin v' h6 _ ?_ ?_ ?_ ?_ ?_ ?_ ?_ ?_ ?_ ?_ ?_ ?_ ?_
   ·rw [hrow]
    exact x6.re fun q=>by rw [ib];rfl
   all_goals simp
  ·rw [if_neg c0] at hrow
   have c0':¬sl=[]:=fun e=>c0 (by rw [e];rfl)
   refine aW (by simp [c0']) ?_
   simp
   refine fin u3 h3 _ ?_ ?_ ?_ ?_ ?_ ?_ ?_ ?_ ?_ ?_ ?_ ?_ ?_
   ·rw [hrow];exact x3
   all_goals simp
 ·rintro vi h2 x2
  exact hQ h2 vi x2
end
end Go.Proofs.YtbkdlhkoiagbbaaGreat
namespace Go.Proofs.YtbkdlhkoiagbbaaGreat
open Go Go.Lft
def Pc (lp:List Int) (m:MS):Prop:=∀ j,((nth m.blocks j).phis.length:Int)=nth lp j
theorem Pc.grw {lp:List Int} {m m':MS} {b k:Nat} (p:Pc lp m) (g:Grw b k m m'):Pc lp m':=fun j=>by
 by_cases e:j=b
 ·subst e;rw [g.phis];exact p j
 ·rw [g.els j e];exact p j
theorem Pc.aT {lp:List Int} {m:MS} {b:Nat} {x:BlkD} (p:Pc lp m) (hx:x.phis.length=(nth m.blocks b).phis.length):Pc lp { m with blocks:=m.blocks.set b x }:=fun j=>by
 show ((nth (m.blocks.set b x) j).phis.length:Int)=_
 rcases Nat.lt_or_ge j m.blocks.length with hl | hl
 ·rw [aJ hl]
  split
  ·rename_i e;subst e;rw [hx];exact p b
  ·exact p j
 ·rw [aU (by simpa using hl)]
  have:=p j
  rwa [aU hl] at this
theorem Pc.ig {s:List Int} {to:List (List Int)} {n b:Nat} {dn:BL} {away:List BL} {lp:List Int} {m:MS} (p:Pc lp m) (hb:b<m.blocks.length):Pc lp (ig s to n dn away b m):=by
 have p1:Pc lp (MS.took { m with live:=jX m dn away b n }):=p
 have hb1:b<(MS.took { m with live:=jX m dn away b n }).blocks.length:=hb
 have g:=((Grw.refl (b:=b) (m:=MS.took { m with live:=jX m dn away b n })).dW (s:=s) hb1 (aA s m.at_ 7).toNat).CY (s:=s) (to:=nth to b) hb1
 exact (p1.grw g).aT rfl
theorem Pc.aL {s:List Int} {to:List (List Int)} {n b:Nat} {lp:List Int} {x:BL × MS} (p:Pc lp x.2) (hb:b<x.2.blocks.length):Pc lp (aL s to n b x).2:=by
 unfold Go.Proofs.YtbkdlhkoiagbbaaGreat.aL
 split
 ·exact p.ig hb
 ·exact p
theorem Pc.rowS {s:List Int} {b:Nat} {lp:List Int} {m:MS} (p:Pc lp m) (hb:b<m.blocks.length):Pc lp (rowS s b m).2:=by
 unfold Go.Proofs.YtbkdlhkoiagbbaaGreat.rowS
 split
 ·have p1:Pc lp m.took.took:=p
  exact p1.grw ((Grw.refl (b:=b) (m:=m.took.took)).constant hb)
 ·exact p
theorem B1 {s:List Int} {b:Nat} {m:MS}:(rowS s b m).2.blocks.length=m.blocks.length:=by
 unfold rowS
 split
 ·exact di
 ·rfl
theorem Pc.js {s:List Int} {pl:List Int} {lp:List Int} {x:List InD × MS} (p:Pc lp x.2) (hb : ∀ k,k<pl.length→(nth pl k).toNat<x.2.blocks.length) : ∀ k,k≤pl.length→Pc lp (up (bG s pl) k x).2∧(up (bG s pl) k x).2.blocks.length=x.2.blocks.length
 | 0,_=>⟨p,rfl⟩
 | k+1,h=>by
  obtain ⟨h1,h2⟩:=Pc.js (s:=s) p hb k (by omega)
  have e:(up (bG s pl) (k+1) x).2=(Go.Proofs.YtbkdlhkoiagbbaaGreat.rowS s (nth pl k).toNat (up (bG s pl) k x).2).2.took:=rfl
  rw [e]
  exact ⟨h1.rowS (by rw [h2];exact hb k (by omega)),(ln).trans (B1.trans h2)⟩
theorem Pc.phi3 {s:List Int} {b j:Nat} {pl:List Int} {lp:List Int} {m:MS} (p:Pc lp m) (hb : ∀ k,k<pl.length→(nth pl k).toNat<m.blocks.length):Pc lp (phi3 s b pl j m)∧(phi3 s b pl j m).blocks.length=m.blocks.length:=by
 obtain ⟨h1,h2⟩:=Pc.js (s:=s) (pl:=pl) (x:=([],m)) p hb pl.length (Nat.le_refl _)
 exact ⟨h1.aT (by simp),by show (List.set _ _ _).length=_;rw [List.length_set];exact h2⟩
theorem Pc.lY {s:List Int} {b:Nat} {pl:List Int} {lp:List Int} {m:MS} (p:Pc lp m) (hb : ∀ k,k<pl.length→(nth pl k).toNat<m.blocks.length) : ∀ k,Pc lp (up (Go.Proofs.YtbkdlhkoiagbbaaGreat.phi3 s b pl) k m)∧(up (Go.Proofs.YtbkdlhkoiagbbaaGreat.phi3 s b pl) k m).blocks.length=m.blocks.length
 | 0=>⟨p,rfl⟩
 | k+1=>by
  obtain ⟨h1,h2⟩:=Pc.lY (s:=s) (b:=b) p hb k
  obtain ⟨h3,h4⟩:=Pc.phi3 (s:=s) (b:=b) (j:=k) h1 (fun k hk=>by rw [h2];exact hb k hk)
  exact ⟨h3,h4.trans h2⟩
theorem tR {p:Nat→Bool} : ∀ (n:Nat) (v:Int),v∈sift p (fun a=>(a:Int)) n→∃ c:Nat,v=c∧c<n
 | 0,v,h=>by cases h
 | n+1,v,h=>by
  cases hp:p n with
  | true=>
   rw [gX hp] at h
   rcases List.mem_append.1 h with h | h
   ·obtain ⟨c,h1,h2⟩:=tR n v h;exact ⟨c,h1,by omega⟩
   ·rw [List.mem_singleton] at h;exact ⟨n,h,by omega⟩
  | false=>
   rw [fY hp] at h
   obtain ⟨c,h1,h2⟩:=tR n v h;exact ⟨c,h1,by omega⟩
theorem sF {p:Nat→Bool} (n k:Nat) (hk:k<(sift p (fun a=>(a:Int)) n).length) : ∃ c:Nat,nth (sift p (fun a=>(a:Int)) n) k=c∧c<n:=tR n _ (bu hk)
section
variable {s:List Int} {M:Nat} {vs:Value} {W0:View} {h:Heap} {o0:Own} {m:MS}
theorem Nx.HI {α:Type} [r:Rep α] (x:Nx s M vs W0 h o0 m) {h':Heap} {u:Value} {l:List α} (hle:(vw h).le (vw h')) (hs:SlRd (fresh h h') u l) : ∃ W',W0.le W'∧Nx s M vs W' h' o0 m∧SlRd W' u l:=by
 obtain ⟨W,o,g,w,f⟩:=x
 have hW:=cu (h':=h') w.own.wle
 exact ⟨_,View.le_trans g hW,⟨_,o,View.le_refl _,⟨w.own.ext hle,w.src.mono hW,w.box⟩,f⟩,hs.mono (eR W h h')⟩
theorem Mk.HQ {po:OP} {W:View} {o:Own} (w:Mk s M vs W h o m) {vb vl:Value} {lb:List BlkM} (bb:MkB M vs m o vb vl lb) {b i:Nat} {l:List InD} {v:Value} {ty ty2:TypeId} {us:List (Nat × Value)} {x y:Operand} {K:Value→Heap→Prop} (hb:b<m.blocks.length) (hi:i<(nth m.blocks b).phis.length) (hsz:cY Tryz.prog ty2=some 1) (hx:asg us x = .pointer (some (((slA (nth lb b).phis.v).add (i*2)).add 1))) (hy:asg us y=v) (hr:SlRd W v l)
  (hK : ∀ h' o',Mk s M vs W h' o' (m.iq b i l)→(∀ k:Key,3≤k.1→o' k=o k)→K undef h'):@Lft.step po Tryz.prog (.store ty2 x y) ty us h K:=by
 have hbl:b<lb.length:=by rw [bb.len];exact hb
 refine w.own.kQ (k:=(1,b)) (α:=PhiD) PhiD.lE (v:=(nth lb b).phis.v) (l:=(nth m.blocks b).phis) (i:=i) (d:=l) (bb.phis b hb) hsz hx hy hi (gl.2 hr) fun h7 w7 _=>?_
 have hs:lb.set b (nth lb b)=lb:=by rw [ak hbl];exact List.set_getElem_self hbl
 have b7:=bb.aT hb (x':={ nth m.blocks b with phis:=(nth m.blocks b).phis.set i { nth (nth m.blocks b).phis i with ins:=l } }) (y':=nth lb b) (o':=o.upd (1,b) (it T.dB (nth lb b).phis.v ((nth m.blocks b).phis.set i { (nth m.blocks b).phis[i] with ins:=l }))) (bb.term b hb) (by rw [hs,Own.ab (by simp)];exact bb.blk) (by rw [Own.ag,ak hi]) (by rw [Own.ab (by simp)];exact bb.ins b hb) (fun q h1 h2 h3=>Own.ab h2)
 rw [hs] at b7
 exact hK h7 _ ⟨w7,w.src,vb,vl,lb,b7⟩ fun k hk=>Own.ab (by rintro rfl;simp at hk)
end
end Go.Proofs.YtbkdlhkoiagbbaaGreat
namespace Go.Proofs.YtbkdlhkoiagbbaaGreat
open Go Go.Lft
section
variable {s:List Int} {M:Nat} {vs:Value} {W0:View} {h:Heap} {o0:Own} {m:MS}
theorem DW {n a p i b cnt:Nat} {vr vt vp vd vq:Value} {pl lp:List Int} (x:Nx s M vs W0 h o0 m) (h5:o0 (5,0)=it T.int vp lp) (f71:o0 (7,1)=none) (f72:o0 (7,2)=none) (q:P3 n a p i m) (pc:Pc lp m) (hlp:lp.length=n) (hb:b<n) (hcnt:nth lp b=cnt) (hc3:cnt≤3) (hn:n≤10) (ha:a≤400000) (hia:i≤a) (hp:p≤100) (hi:i≤1900) (hq:SlRd W0 vq pl) (hpl:pl.length≤9) (hpr : ∀ k,k<pl.length→∃ c:Nat,nth pl k=c∧c<n) {Q:Post} {ρ:Env}
  (h0:bm [2,3,4,5,7,11,25,26,27] ρ=[(2,vr),(3,.pointer (some ⟨M,0,none⟩)),(4,.int .i64 n),(5,vt),(7,vp),(11,vd),(25,.int .i64 b),(26,vq),(27,.int .i64 0)])
  (hQ : ∀ h':Heap,Nx s M vs W0 h' o0 (up (phi3 s b pl) cnt m)→Q .normal [(2,vr),(3,.pointer (some ⟨M,0,none⟩)),(4,.int .i64 n),(5,vt),(7,vp),(11,vd),(25,.int .i64 b),(26,vq),(27,.int .i64 cnt)] h') :
  LC.wp Tryz.prog (.block 26 (.loop L.ar.l14)) Q ρ h:=by
 simp only [aK]
 refine bZ [2,3,4,5,7,11,25,26,27] (fun (_:Unit) k=>[vr,.pointer (some ⟨M,0,none⟩),.int .i64 n,vt,vp,vd,.int .i64 b,vq,.int .i64 k]) (fun _ k h2=>Nx s M vs W0 h2 o0 (up (phi3 s b pl) k m)) cnt ()
  rfl (by omega) h0 x (fun _ _=>rfl) (fun v k h2 hk2 x2=>by
   have sp:=x2.z.at (by decide) h5
   have e:=sp.int (View.le_refl _) (i:=b) (by omega)
   rw [hcnt] at e
   simp (disch:=omega) [sp.idx1 rfl,e]) ?_ ?_
 ·rintro _ k h2 hlt x2 K2 hK2
  have hpn : ∀ j,j<pl.length→(nth pl j).toNat<m.blocks.length:=fun j hj=>by
   obtain ⟨c,h1,h2⟩:=hpr j hj
   rw [h1,q.z.len];simpa using h2
  have q2:=(lY (s:=s) (b:=b) q hpl k).mono (a':=a+200) (p':=p) (i':=i+30) (by omega) (Nat.le_refl _) (by omega)
  obtain ⟨pc2,hlen2⟩:=Pc.lY (s:=s) (b:=b) pc hpn k
  have e2:up (phi3 s b pl) (k+1) m=phi3 s b pl k (up (phi3 s b pl) k m):=rfl
  rw [e2] at hK2
  generalize up (phi3 s b pl) k m=m2 at x2 hK2 q2 pc2 hlen2
  have hpn2 : ∀ j,j<pl.length→(nth pl j).toNat<m2.blocks.length:=fun j hj=>by rw [hlen2];exact hpn j hj
  obtain ⟨pc3,hlen3⟩:=Pc.js (s:=s) (pl:=pl) (x:=([],m2)) pc2 hpn2 pl.length (Nat.le_refl _)
  simp only [aK]
  refine aa fun y hy=>?_
  simp
  refine x2.iS (k:=(7,2)) (α:=InD) (by decide) f72 El.iD fun vi h3 hvi x3=>?_
  rw [hy];clear hy y
  refine aa fun y hy=>?_
  refine aa fun w hw=>?_
  simp
  rw [hw];clear hw w
  refine DS (vr:=vr) (vt:=vt) (vp:=vp) (vd:=vd) (vq:=vq) (vi:=vi) (b:=b) (j:=k) x3 f71 q2 hn (by omega) (by omega) hp (by omega) hq hpl hpr (by simp [bm,aj,al]) fun h4 vi x4=>?_
  obtain ⟨W4,hW4,x4,s4⟩:=x4.freeze (by decide) f72
  have e3:phi3 s b pl k m2=(up (bG s pl) pl.length ([],m2)).2.iq b k (up (bG s pl) pl.length ([],m2)).1:=rfl
  rw [e3] at hK2
  have hb4:b<(up (bG s pl) pl.length ([],m2)).2.blocks.length:=by rw [hlen3];show b<m2.blocks.length;rw [hlen2,q.z.len];exact hb
  have hph:((nth (up (bG s pl) pl.length ([],m2)).2.blocks b).phis.length:Int)=cnt:=(pc3 b).trans hcnt
  generalize up (bG s pl) pl.length ([],m2)=r at x4 hK2 s4 hb4 hph
  obtain ⟨W,o,g,w,f⟩:=x4
  obtain ⟨vb,vl,lb,bb⟩:=w.box
  have rd:=w.reads bb
  have hbb:b<lb.length:=by rw [bb.len];exact hb4
  have sb:=w.own.now bb.blk
  have sbb:=sb.bound
  have c1:an (vw h4) (((slA vb).add (b*6)).add 0)=some (nth lb b).phis.v:=by
   have:=((sb.at hbb).part BlkM.ko).raw
   rw [ak hbb];exact this
  have sph:=w.own.now (bb.phis b hb4)
  simp
  rw [hy];clear hy y
  have r5:Bn.ev (.idx 2) (nth lb b).phis.v (.int .i64 k)=some (.pointer (some ((slA (nth lb b).phis.v).add (k*2)))):=by
   have:=sph.idxn (N:=2) rfl (k:=.i64) (i:=k) (by omega) (by omega);simpa using this
  simp (disch:=omega) [rd.cb,sb.idxn (N:=6) rfl,c1,r5]
  refine w.HQ bb (b:=b) (i:=k) (l:=r.1) hb4 (by omega) (by kernel_rfl) rfl rfl (s4.mono g) fun h5 o5 w5 f5=>?_
  refine hK2 () _ _ rfl rfl ?_
  exact ⟨W,o5,View.le_trans hW4 g,w5,fun q hq=>(f5 q hq).trans (f q hq)⟩
 ·rintro _ h2 x2
  exact hQ h2 x2
theorem Fl {n a p i k:Nat} {lp:List Int} {m:MS} (q:P3 n a p i m) (pc:Pc lp m) (hr : ∀ j,nth lp j≤3) (hn:n≤9):P3 n (a+162) p (i+27) (blk3 s lp k m)∧Pc lp (blk3 s lp k m):=by
 have hpl:(aw m.f ((k+1:Nat):Int)).length≤n:=by
  have:=fG (p:=fun a=>decide (((k+1:Nat):Int)∈(nth m.f.blocks a).term.to)) (x:=fun a=>(a:Int)) m.f.blocks.length
  rw [show m.f.blocks.length=n from q.z.len] at this
  unfold aw
  rw [show m.f.blocks.length=n from q.z.len]
  exact this
 have hpn : ∀ j,j<(aw m.f ((k+1:Nat):Int)).length→(nth (aw m.f ((k+1:Nat):Int)) j).toNat<m.blocks.length:=fun j hj=>by
  obtain ⟨c,h1,h2⟩:=sF _ j hj
  have h1:nth (aw m.f ((k+1:Nat):Int)) j=c:=h1
  rw [h1];have h2:c<m.blocks.length:=h2;simpa using h2
 have h3:=hr (k+1)
 unfold blk3
 exact ⟨(lY q (by omega) _).mono (by omega) (Nat.le_refl _) (by omega),(Pc.lY pc hpn _).1⟩
theorem xb {n a p i:Nat} {lp:List Int} {m:MS} (q:P3 n a p i m) (pc:Pc lp m) (hr : ∀ j,nth lp j≤3) (hn:n≤9) : ∀ k,P3 n (a+162*k) p (i+27*k) (up (blk3 s lp) k m)∧Pc lp (up (blk3 s lp) k m)
 | 0=>⟨q,pc⟩
 | k+1=>by
  obtain ⟨h1,h2⟩:=xb q pc hr hn k
  obtain ⟨h3,h4⟩:=Fl (s:=s) (k:=k) h1 h2 hr hn
  exact ⟨h3.mono (by omega) (Nat.le_refl _) (by omega),h4⟩
theorem DH {n a p i:Nat} {vr vt vp vd:Value} {lp:List Int} (x:Nx s M vs W0 h o0 m) (h5:o0 (5,0)=it T.int vp lp) (f71:o0 (7,1)=none) (f72:o0 (7,2)=none) (q:P3 n a p i m) (pc:Pc lp m) (hlp:lp.length=n) (hr : ∀ j,0≤nth lp j∧nth lp j≤3) (hn1:1≤n) (hn:n≤9) (ha:a≤300000) (hia:i≤a) (hp:p≤100) (hi:i≤1000) {Q:Post} {ρ:Env}
  (h0:bm [2,3,4,5,7,11,25] ρ=[(2,vr),(3,.pointer (some ⟨M,0,none⟩)),(4,.int .i64 n),(5,vt),(7,vp),(11,vd),(25,.int .i64 1)])
  (hQ : ∀ h':Heap,Nx s M vs W0 h' o0 (up (blk3 s lp) (n-1) m)→Q .normal [(2,vr),(3,.pointer (some ⟨M,0,none⟩)),(4,.int .i64 n),(5,vt),(7,vp),(11,vd),(25,.int .i64 n)] h') :
  LC.wp Tryz.prog (.block 24 (.loop L.ar.l13)) Q ρ h:=by
 simp only [aK]
 refine tS [2,3,4,5,7,11,25] (fun (_:Unit) k=>[vr,.pointer (some ⟨M,0,none⟩),.int .i64 n,vt,vp,vd,.int .i64 ((k+1:Nat):Int)]) (fun _ k h2=>Nx s M vs W0 h2 o0 (up (blk3 s lp) k m)) (n-1) 1 ()
  rfl (by omega) h0 x (fun _ _=>rfl) (fun v k h2 hk2 m=>by simp;omega) ?_ ?_
 ·rintro _ k h2 hlt x2 K2 hK2
  obtain ⟨q2,pc2⟩:=xb (s:=s) q pc (fun j=>(hr j).2) hn k
  have e2:up (blk3 s lp) (k+1) m=blk3 s lp k (up (blk3 s lp) k m):=rfl
  rw [e2] at hK2
  generalize up (blk3 s lp) k m=m2 at x2 hK2 q2 pc2
  have hb2:blk3 s lp k m2=_:=blk3.eq_1 s lp k m2
  rw [hb2] at hK2
  simp only [aK]
  refine aa fun y hy=>?_
  obtain ⟨vb,vl,rd⟩:=x2.z.reads
  simp [rd.f]
  refine af (by kernel_rfl) (rA (b:=((k+1:Nat):Int)) (rd.rd (C7 q2.z)) (by show m2.blocks.length≤_;rw [q2.z.len];omega)) ?_
  rintro vq h3 ⟨hle3,hq⟩
  obtain ⟨W3,hW3,x3,sq⟩:=x2.HI hle3 hq
  clear rd hq
  have hpl:(aw m2.f ((k+1:Nat):Int)).length≤n:=by
   have:=fG (p:=fun a=>decide (((k+1:Nat):Int)∈(nth m2.f.blocks a).term.to)) (x:=fun a=>(a:Int)) m2.f.blocks.length
   unfold aw
   rw [show m2.f.blocks.length=n from q2.z.len] at this ⊢
   exact this
  have hpr : ∀ j,j<(aw m2.f ((k+1:Nat):Int)).length→∃ c:Nat,nth (aw m2.f ((k+1:Nat):Int)) j=c∧c<n:=fun j hj=>by
   obtain ⟨c,h1,h2⟩:=sF _ j hj
   exact ⟨c,h1,by rw [show m2.f.blocks.length=n from q2.z.len] at h2;exact h2⟩
  generalize aw m2.f ((k+1:Nat):Int)=pl at sq hpl hpr hK2
  obtain ⟨r0,r1⟩:=hr (k+1)
  rw [hy];clear hy y
  refine aa fun y hy=>?_
  simp
  rw [hy];clear hy y
  refine DW (vr:=vr) (vt:=vt) (vp:=vp) (vd:=vd) (vq:=vq) (b:=k+1) (cnt:=(nth lp (k+1)).toNat) x3 h5 f71 f72 q2 pc2 hlp (by omega) (by omega) (by omega) (by omega) (by omega) (by omega) hp (by omega) sq (by omega) hpr (by simp [bm,aj,al]) fun h4 x4=>?_
  simp
  refine hK2 () _ _ rfl rfl (x4.up hW3)
 ·rintro _ h2 x2
  have e:n-1+1=n:=by omega
  have:=hQ h2 x2
  simpa [e] using this
theorem Aa {n a p:Nat} {to:List (List Int)} {x0:BL × MS} (q:B2 n a p x0) (hn:n≤10) (hp:p≤100) (ha:16000≤a) : ∀ j,j≤n→B2 n (a+600*j) p (up (aL s to n) j x0):=by
 intro j
 induction j with
 | zero=>intro _;exact q
 | succ j ih=>
  intro hj
  have:=pK (s:=s) (to:=to) (b:=j) (ih (by omega)) (by omega) hn hp (by omega) fun h=>lH h
  exact ⟨this.z.mono (by omega) (Nat.le_refl _) (Nat.le_refl _),this.len,this.none⟩
theorem EV {n a p:Nat} {to:List (List Int)} {x0:BL × MS} (q:B2 n a p x0) (hn:n≤10) (hp:p≤100) (ha:16000≤a) (j:Nat):B2 n (a+600*n*j) p (up (fun _=>up (aL s to n) n) j x0):=by
 induction j with
 | zero=>exact q
 | succ j ih=>
  have:=Aa (s:=s) (to:=to) ih hn hp (by omega) n (Nat.le_refl _)
  exact ⟨this.z.mono (by rw [Nat.mul_succ];omega) (Nat.le_refl _) (Nat.le_refl _),this.len,this.none⟩
theorem EC {n a p:Nat} {vr vt vp vd:Value} {to:List (List Int)} {x0:BL × MS} (x:Nx s M vs W0 h (o0.upd (6,0) (it T.bool vd x0.1)) x0.2) (hto:SlRd W0 vt to) (htl:to.length=n) (f7:o0 (7,0)=none) (f90:o0 (9,0)=none) (f91:o0 (9,1)=none) (q:B2 n a p x0) (hn:n≤9) (hp:p≤100) (ha:16000≤a) (ha2:a≤30000) {Q:Post} {ρ:Env}
  (h0:bm [2,3,4,5,7,11,12] ρ=[(2,vr),(3,.pointer (some ⟨M,0,none⟩)),(4,.int .i64 n),(5,vt),(7,vp),(11,vd),(12,.int .i64 0)])
  (hQ : ∀ h':Heap,Nx s M vs W0 h' (o0.upd (6,0) (it T.bool vd (up (fun _=>up (aL s to n) n) n x0).1)) (up (fun _=>up (aL s to n) n) n x0).2→Q .normal [(2,vr),(3,.pointer (some ⟨M,0,none⟩)),(4,.int .i64 n),(5,vt),(7,vp),(11,vd),(12,.int .i64 n)] h') :
  LC.wp Tryz.prog (.block 6 (.loop L.ar.l4)) Q ρ h:=by
 simp only [aK]
 refine bZ [2,3,4,5,7,11,12] (fun (_:Unit) j=>[vr,.pointer (some ⟨M,0,none⟩),.int .i64 n,vt,vp,vd,.int .i64 j]) (fun _ j h2=>Nx s M vs W0 h2 (o0.upd (6,0) (it T.bool vd (up (fun _=>up (aL s to n) n) j x0).1)) (up (fun _=>up (aL s to n) n) j x0).2) n ()
  rfl (by omega) h0 x (fun _ _=>rfl) (fun v k h2 hk2 x2=>by simp) ?_ ?_
 ·rintro _ t h2 hlt x2 K2 hK2
  have q2:=EV (s:=s) (to:=to) q (by omega) hp ha t
  have hbd:600*n*t≤5400*9:=Nat.mul_le_mul (by omega) (by omega)
  have e2:up (fun _=>up (aL s to n) n) (t+1) x0=up (aL s to n) n (up (fun _=>up (aL s to n) n) t x0):=rfl
  rw [e2] at hK2
  generalize up (fun _=>up (aL s to n) n) t x0=y at x2 hK2 q2
  simp only [aK]
  refine aa fun y hy=>?_
  simp
  rw [hy];clear hy y
  refine E6 (vr:=vr) (vt:=vt) (vp:=vp) (vd:=vd) (t:=t) x2 hto htl f7 f90 f91 q2 (by omega) hp (by omega) (by omega) (by simp [bm,aj,al]) fun h3 x3=>?_
  simp
  exact hK2 () _ _ rfl rfl x3
 ·rintro _ h2 x2
  exact hQ h2 x2
end
end Go.Proofs.YtbkdlhkoiagbbaaGreat
namespace Go.Proofs.YtbkdlhkoiagbbaaGreat
open Go Go.Lft
variable {s:List Int}
theorem eh:1≤aF s∧aF s≤9:=by
 have:=bf (s:=s) (at_:=1) (n:=9) (by decide)
 unfold aF;omega
theorem Bf:((aF s:Nat):Int)=1+aA s 1 9:=by
 have:=bf (s:=s) (at_:=1) (n:=9) (by decide)
 unfold aF;omega
theorem yC:(rJ s).ok 4:=by
 have:=bf (s:=s) (at_:=0) (n:=5) (by decide)
 refine ⟨by show 2≤4;omega,by show 0≤aA s 0 5;omega,by show aA s 0 5≤_;omega,by show 0≤4;omega,fun i=>?_⟩
 show (nth ([]:List BlkD) i).ins.length≤4
 rw [aU (by simp)]
 show 0≤4;omega
theorem xg:TgK (aF s) 112 (eu s):=by
 obtain ⟨h1,h2⟩:=eh (s:=s)
 have k1:TgK (aF s) 4 (List.replicate (aF s) [],rJ s):=⟨by simp,fun i=>by
  rcases Nat.lt_or_ge i (aF s) with hi | hi
  ·rw [aq hi];show 0≤4;omega
  ·rw [aU (by simpa using hi)];show 0≤4;omega,yC⟩
 exact (zU (s:=s) (wM (s:=s) k1 (aF s-1)) (aF s)).mono (by omega)
def oI (m m':MS):Prop:=m'.ps=m.ps∧m'.blocks=m.blocks∧m'.next=m.next∧m'.live=m.live
theorem Db {m:MS} {k:Nat} {x:TgS} (h:oI m x.2):oI m (tgA s k x).2:=by
 unfold tgA;split<;>exact h
theorem DE {m:MS} {n b:Nat} {x:TgS} (h:oI m x.2):oI m (tgI s n b x).2:=by
 unfold tgI;simp only;repeat' split
 all_goals exact h
theorem Eo {m:MS} {n b:Nat} {x:TgS} (h:oI m x.2):oI m (tgB s n b x).2:=
 qM (fun x:TgS=>oI m x.2) (fun _ _ h=>DE h) _ _ h
theorem oX:oI (rJ s) (eu s).2:=
 qM (fun x:TgS=>oI (rJ s) x.2) (fun _ _ h=>Eo h) _ _ (qM (fun x:TgS=>oI (rJ s) x.2) (fun _ _ h=>Db h) _ _ ⟨rfl,rfl,rfl,rfl⟩)
theorem yg {m:MS} {a n:Nat} {to:List (List Int)} (z:Sz n a 0 0 m) (g:Gd m) (pc : ∀ j,(nth m.blocks j).phis.length=0) (ht : ∀ j,(nth to j).length≤1000) : ∀ k,Sz n a 0 0 (up (fun b m=>MS.fR m b (nth to b)) k m)∧Gd (up (fun b m=>MS.fR m b (nth to b)) k m)
 | 0=>⟨z,g⟩
 | k+1=>by
  obtain ⟨h1,h2⟩:=yg z g pc ht k
  exact ⟨h1.aT (h1.phis k) (h1.ins k),h2.fR (ht k)⟩
theorem qI {n j:Nat}:(nth (List.replicate n mZ) j).phis.length=0∧(nth (List.replicate n mZ) j).ins.length=0:=by
 rcases Nat.lt_or_ge j n with hj | hj
 ·rw [aq hj];exact ⟨rfl,rfl⟩
 ·rw [aU (by simpa using hj)];exact ⟨rfl,rfl⟩
theorem xL:Sz (aF s) 200 0 0 (jW s)∧Gd (jW s):=by
 have k:=xg (s:=s)
 have e:=oX (s:=s)
 have t:=bf (s:=s) (at_:=0) (n:=5) (by decide)
 refine yg ⟨?_,?_,?_,?_,?_,?_,?_,fun j=>?_,fun j=>?_⟩ (fun j hj=>?_) (fun j=>(qI).1) (fun j=>by have:=k.row j;omega) _
 ·show (eu s).2.at_≤200;have:=k.ok.at_;omega
 ·exact k.ok.n0
 ·show (eu s).2.next≤_;have:=k.ok.next;omega
 ·show (eu s).2.live.length≤200;have:=k.ok.live;omega
 ·show 0≤(eu s).2.ps;rw [e.1];show 0≤aA s 0 5;omega
 ·show (eu s).2.ps≤4;rw [e.1];show aA s 0 5≤4;omega
 ·show (List.replicate (aF s) mZ).length=_;simp
 ·show (nth (List.replicate (aF s) mZ) j).phis.length≤0;rw [(qI).1];omega
 ·show (nth (List.replicate (aF s) mZ) j).ins.length≤0;rw [(qI).2];omega
 ·have hj:j<aF s:=by simpa using hj
  show GdB (nth (List.replicate (aF s) mZ) j)
  rw [aq hj]
  exact ⟨fun i h=>(by cases h),by show 0≤10;omega,by show 0≤1000;omega,fun i h=>(by cases h)⟩
theorem np {m:MS} {b:Nat} (hb:b<m.blocks.length) : ∀ c j,(nth (up (fun _=>cP b) c m).blocks j).phis.length=(nth m.blocks j).phis.length+(if j=b then c else 0)∧(up (fun _=>cP b) c m).blocks.length=m.blocks.length
 | 0,j=>⟨by show (nth m.blocks j).phis.length=_;split<;>omega,rfl⟩
 | c+1,j=>by
  obtain ⟨h1,h2⟩:=np hb c j
  obtain ⟨h3,_⟩:=np hb c b
  have e:(up (fun _=>cP b) (c+1) m).blocks=(up (fun _=>cP b) c m).blocks.set b { nth (up (fun _=>cP b) c m).blocks b with phis:=(nth (up (fun _=>cP b) c m).blocks b).phis++[⟨(up (fun _=>cP b) c m).next,[]⟩] }:=rfl
  rw [e]
  refine ⟨?_,by rw [List.length_set];exact h2⟩
  rcases Nat.lt_or_ge j m.blocks.length with hl | hl
  ·rw [aJ (by rw [h2];exact hl)]
   by_cases ej:b=j
   ·subst ej
    rw [if_pos rfl,if_pos rfl]
    rw [if_pos rfl] at h3
    show (_++[_]).length=_
    rw [List.length_append,h3,List.length_singleton];omega
   ·rw [if_neg ej,if_neg (fun q=>ej q.symm)]
    rw [if_neg (fun q=>ej q.symm)] at h1
    exact h1
  ·rw [aU (by rw [List.length_set,h2];exact hl),aU hl,if_neg (by omega)];rfl
theorem vO {n a:Nat} {x:List Int × MS} (p:Ph n a 0 x) (pc:Pc x.1 x.2) (g:Gd x.2) : ∀ k,k<n→Pc (up (da s) k x).1 (up (da s) k x).2∧Gd (up (da s) k x).2
 | 0,_=>⟨pc,g⟩
 | k+1,hk=>by
  obtain ⟨h1,h2⟩:=vO p pc g k (by omega)
  have q:=xn (s:=s) p k
  have e:up (da s) (k+1) x=da s k (up (da s) k x):=rfl
  rw [e]
  generalize up (da s) k x=y at h1 h2 q
  obtain ⟨c0,c1⟩:=lU (s:=s) (m:=y.2) (b:=k+1)
  have hb:k+1<y.2.took.blocks.length:=by show k+1<y.2.blocks.length;rw [q.z.len];exact hk
  refine ⟨fun j=>?_,h2.took.j0 _⟩
  have h3:=(np hb (gg s y.2 (k+1)).toNat j).1
  show ((nth (up (fun _=>cP (k+1)) (gg s y.2 (k+1)).toNat y.2.took).blocks j).phis.length:Int)=nth (y.1.set (k+1) (gg s y.2 (k+1))) j
  rw [h3]
  have h4:=h1 j
  have h5:nth y.2.took.blocks j=nth y.2.blocks j:=rfl
  rw [h5]
  rcases Nat.lt_or_ge j y.1.length with hl | hl
  ·rw [aJ hl]
   by_cases ej:k+1=j
   ·subst ej
    rw [if_pos rfl,if_pos rfl]
    rw [q.zero (k+1) (by omega)] at h4
    omega
   ·rw [if_neg ej,if_neg (fun r=>ej r.symm)]
    omega
  ·have e1:nth (y.1.set (k+1) (gg s y.2 (k+1))) j=default:=aU (by simpa using hl)
   have e2:nth y.1 j=default:=aU hl
   rw [e1]
   rw [e2] at h4
   have:=q.len
   rw [if_neg (by omega)]
   omega
theorem mP:Ph (aF s) 200 (aF s-1) (fD s)∧Pc (fD s).1 (fD s).2∧Gd (fD s).2:=by
 obtain ⟨h1,h2⟩:=eh (s:=s)
 obtain ⟨z,g⟩:=xL (s:=s)
 have hz : ∀ j,nth (List.replicate (aF s) (0:Int)) j=0:=fun j=>by
  rcases Nat.lt_or_ge j (aF s) with hj | hj
  ·rw [aq hj]
  ·rw [aU (by simpa using hj)];rfl
 have p0:Ph (aF s) 200 0 (List.replicate (aF s) (0:Int),jW s):=⟨z,by simp,fun j _=>hz j,fun j=>by rw [hz];omega⟩
 have pc:Pc (List.replicate (aF s) (0:Int)) (jW s):=fun j=>by
  have:=z.phis j
  rw [hz];omega
 obtain ⟨q1,q2⟩:=vO (s:=s) p0 pc g (aF s-1) (by omega)
 exact ⟨xn p0 _,q1,q2⟩
theorem Gd.ig {to:List (List Int)} {n b:Nat} {dn:BL} {away:List BL} {m:MS} (g:Gd m) (ht:(nth to b).length≤1000):Gd (ig s to n dn away b m):=by
 have g1:Gd (MS.took { m with live:=jX m dn away b n }):=g
 exact (Gd.dW g1 _).HR ht
theorem Gd.aL {to:List (List Int)} {n b:Nat} {x:BL × MS} (g:Gd x.2) (ht:(nth to b).length≤1000):Gd (aL s to n b x).2:=by
 unfold Go.Proofs.YtbkdlhkoiagbbaaGreat.aL
 split
 ·exact g.ig ht
 ·exact g
structure M4 (n a p:Nat) (lp:List Int) (x:BL × MS):Prop where
 b2:B2 n a p x
 gd:Gd x.2
 pc:Pc lp x.2
theorem M4.step {to:List (List Int)} {n a p b:Nat} {lp:List Int} {x:BL × MS} (q:M4 n a p lp x) (hb:b<n) (hn:n≤10) (hp:p≤100) (ha:16000≤a) (ht : ∀ j,(nth to j).length≤1000):M4 n (a+600) p lp (aL s to n b x):=
 ⟨pK q.b2 hb hn hp ha fun h=>lH h,q.gd.aL (ht b),q.pc.aL (by rw [q.b2.z.len];exact hb)⟩
theorem M4.blk {to:List (List Int)} {n a p:Nat} {lp:List Int} {x:BL × MS} (q:M4 n a p lp x) (hn:n≤10) (hp:p≤100) (ha:16000≤a) (ht : ∀ j,(nth to j).length≤1000) (k:Nat) (hk:k≤n):M4 n (a+600*k) p lp (up (Go.Proofs.YtbkdlhkoiagbbaaGreat.aL s to n) k x):=by
 induction k with
 | zero=>exact q
 | succ k ih=>
  have:=(ih (by omega)).step (s:=s) (to:=to) (b:=k) (by omega) hn hp (by omega) ht
  exact ⟨⟨this.b2.z.mono (by omega) (Nat.le_refl _) (Nat.le_refl _),this.b2.len,this.b2.none⟩,this.gd,this.pc⟩
theorem M4.turn {to:List (List Int)} {n a p:Nat} {lp:List Int} {x:BL × MS} (q:M4 n a p lp x) (hn:n≤10) (hp:p≤100) (ha:16000≤a) (ht : ∀ j,(nth to j).length≤1000) (k:Nat):M4 n (a+600*n*k) p lp (up (fun _=>up (Go.Proofs.YtbkdlhkoiagbbaaGreat.aL s to n) n) k x):=by
 induction k with
 | zero=>exact q
 | succ k ih=>
  have:=ih.blk (s:=s) (to:=to) hn hp (by omega) ht n (Nat.le_refl _)
  exact ⟨⟨this.b2.z.mono (by rw [Nat.mul_succ];omega) (Nat.le_refl _) (Nat.le_refl _),this.b2.len,this.b2.none⟩,this.gd,this.pc⟩
theorem zc:B2 (aF s) 16000 27 (List.replicate (aF s) false,(fD s).2):=by
 obtain ⟨h1,h2⟩:=eh (s:=s)
 obtain ⟨p,_,_⟩:=mP (s:=s)
 refine ⟨p.z.mono (by omega) (by omega) (by omega),by simp,fun j hj _=>?_⟩
 have:=p.z.ins j
 show (nth (fD s).2.blocks j).ins.length=0;omega
theorem tc:P3 (aF s) 70000 27 700 (lu s).2∧Pc (fD s).1 (lu s).2:=by
 obtain ⟨h1,h2⟩:=eh (s:=s)
 obtain ⟨p,pc,g⟩:=mP (s:=s)
 have ht : ∀ j,(nth (eu s).1 j).length≤1000:=fun j=>by have:=(xg (s:=s)).row j;omega
 have q0:M4 (aF s) 16000 27 (fD s).1 (List.replicate (aF s) false,(fD s).2):=⟨zc,g,pc⟩
 have q:=q0.turn (s:=s) (to:=(eu s).1) (by omega) (by omega) (by omega) ht (aF s)
 have hbd:600*aF s*aF s≤5400*9:=Nat.mul_le_mul (by omega) (by omega)
 exact ⟨⟨q.b2.z.mono (by omega) (Nat.le_refl _) (Nat.le_refl _),q.gd⟩,q.pc⟩
theorem lD:P3 (aF s) 72000 27 1000 (fT s):=by
 obtain ⟨h1,h2⟩:=eh (s:=s)
 obtain ⟨p,_,_⟩:=mP (s:=s)
 obtain ⟨q,pc⟩:=tc (s:=s)
 have:=(xb (s:=s) q pc (fun j=>(p.rng j).2) h2 (aF s-1)).1
 exact this.mono (by omega) (Nat.le_refl _) (by omega)
theorem FO:SmF (gS s):=(lD (s:=s)).g.smF (lD (s:=s)).z (by have:=eh (s:=s);omega) (by omega) (by omega)
theorem rI:0≤(gS s).params∧(gS s).params≤4:=⟨(lD (s:=s)).z.ps0,(lD (s:=s)).z.ps1⟩
theorem yV:1≤(gS s).blocks.length∧(gS s).blocks.length≤9:=by
 have:=eh (s:=s)
 rw [show (gS s).blocks.length=aF s from (lD (s:=s)).z.len]
 exact this
end Go.Proofs.YtbkdlhkoiagbbaaGreat
namespace Go.Proofs.YtbkdlhkoiagbbaaGreat
open Go Go.Lft
section
variable {s:List Int} {M:Nat} {vs:Value} {W:View} {h:Heap} {o:Own} {m:MS}
theorem MkB.boxed {vb vl:Value} {lb:List BlkM} (bb:MkB M vs m o vb vl lb) (m':MS) (h1:m'.blocks=m.blocks) (h2:m'.live=m.live):MkB M vs m' (o.upd (0,0) (bx T.aS M (RawN.mk (n:=5) (mkL vs m'.at_ m'.ps vb m'.next vl)))) vb vl lb:=
 ⟨rfl,by rw [h2];exact bb.live,bb.blk,by rw [h1];exact bb.len,by rw [h1];exact bb.term,by rw [h1];exact fun i hi=>bb.phis i hi,by rw [h1];exact fun i hi=>bb.ins i hi⟩
end
def gQ (R:Nat) (i10:Own):Own:=fun k=>if k=(8,0) then bx T.aI R (RawN.mk (n:=1) [.int .i64 0,.slice none 0 0]) else if 10≤k.1 then i10 k else none
structure FnB (o:Own) (vb:Value) (lb:List BlkM) (f:ah):Prop where
 blk:o (0,2)=it T.aX vb lb
 len:lb.length=f.blocks.length
 term : ∀ i,i<f.blocks.length→(nth lb i).term=(nth f.blocks i).term
 phis : ∀ i,i<f.blocks.length→o (1,i)=it T.dB (nth lb i).phis.v (nth f.blocks i).phis
 ins : ∀ i,i<f.blocks.length→o (2,i)=it T.dm (nth lb i).ins.v (nth f.blocks i).ins
theorem Dt {H:View} {vb:Value} {lb:List BlkM} {f:ah} (h0:SlRd H vb lb) (hl:lb.length=f.blocks.length) (ht : ∀ i,i<f.blocks.length→(nth lb i).term=(nth f.blocks i).term) (h1 : ∀ i,i<f.blocks.length→SlRd H (nth lb i).phis.v (nth f.blocks i).phis) (h2 : ∀ i,i<f.blocks.length→SlRd H (nth lb i).ins.v (nth f.blocks i).ins):SlRd H vb f.blocks:=by
 refine nY h0 rfl hl fun i g1 g2 cs hr=>?_
 have:=zg hr (p:=(nth f.blocks i).phis) (i:=(nth f.blocks i).ins) (by have:=h1 i g2;rwa [ak g1] at this) (by have:=h2 i g2;rwa [ak g1] at this)
 have ht:=ht i g2
 rw [ak g1] at ht
 rw [ht] at this
 rw [←ak g2]
 exact this
theorem FnB.rd {W:View} {h:Heap} {o:Own} {vb:Value} {lb:List BlkM} {f:ah} (b:FnB o vb lb f) (w:Owns W h o):SlRd (vw h) vb f.blocks:=
 Dt (w.now b.blk) b.len b.term (fun i hi=>w.now (b.phis i hi)) fun i hi=>w.now (b.ins i hi)
theorem FnB.freeze {W:View} {h:Heap} {o o0:Own} {vb:Value} {lb:List BlkM} {f:ah} (b:FnB o vb lb f) (w:Owns W h o) (ho : ∀ k:Key,3≤k.1→o k=o0 k) (ho0 : ∀ k:Key,k.1<3→o0 k=none) : ∃ W',W.le W'∧Owns W' h o0∧SlRd W' vb f.blocks:=by
 obtain ⟨W17,hW17,w17,fr⟩:=w.qy (fun k=>decide (k.1<3))
 refine ⟨W17,hW17,w17.sub fun k i hk=>?_,Dt (fr (k:=(0,2)) (by simp) b.blk) b.len b.term (fun i hi=>fr (k:=(1,i)) (by simp) (b.phis i hi)) fun i hi=>fr (k:=(2,i)) (by simp) (b.ins i hi)⟩
 rcases Nat.lt_or_ge k.1 3 with e | e
 ·rw [ho0 k e] at hk;cases hk
 ·have h2:¬k.1<3:=by omega
  simp only [h2,decide_false,Bool.false_eq_true,if_false]
  rw [ho k e];exact hk
theorem CA {s:List Int} {vs:Value} {h:Heap} {W:View} {o0:Own} (w0:Owns W h o0) (ho0 : ∀ k:Key,k.1<10→o0 k=none) (hs:SlRd W vs s) :
  aD Tryz.prog N.ar #[vs] h (fun u h'=>∃ W' o vb lb,W.le W'∧Owns W' h' o∧(∀ k:Key,3≤k.1→o k=o0 k)∧FnB o vb lb (gS s)∧u = .agg #[.int .i64 (gS s).params,vb]):=by
 refine ao (args:=[vs]) follows F.ar E.ar (Nat.le_of_ble_eq_true (by kernel_rfl)) fun K hK=>?_
 have hs0:=hs
 obtain ⟨sa,sc,rfl,_⟩:=hs0
 dsimp only [L.ar]
 refine aa fun z hz=>?_
 simp
 refine w0.og (k:=(8,0)) (n:=1) (z:=.agg #[.int .i64 0,.slice none 0 0]) (ho0 _ (by decide)) (by kernel_rfl) rfl (by decide) (by simp [Value.cells,Value.oneCell']) fun h1 q1 w1=>?_
 generalize h.size=R at w1
 rw [hz];clear hz z
 refine aa fun z hz=>?_
 simp
 refine aR (z:=.agg #[.slice none 0 0,.int .i64 0,.int .i64 0,.slice none 0 0,.int .i64 0,.slice none 0 0]) (places:=[(0,1),(1,1),(2,2),(4,1),(5,1)]) (vs:=[(0,.slice sa s.length sc)]) (cs:=#[.slice sa s.length sc,.int .i64 0,.int .i64 0,.slice none 0 0,.int .i64 0,.slice none 0 0]) (by kernel_rfl) (by kernel_rfl) (by simp) (by rfl) ?_
 generalize s.length=sl at hs
 refine lf rfl ?_
 have hbx:(h1.push (.cells (Value.agg #[.slice sa sl sc,.int .i64 0,.int .i64 0,.slice none 0 0,.int .i64 0,.slice none 0 0]).cells T.aS))[h1.size]? = some (.cells (Value.agg #[.slice sa sl sc,.int .i64 0,.int .i64 0,.slice none 0 0,.int .i64 0,.slice none 0 0]).cells T.aS (0,0)):=by simp
 have hle2:=bN h1 (.cells (Value.agg #[.slice sa sl sc,.int .i64 0,.int .i64 0,.slice none 0 0,.int .i64 0,.slice none 0 0]).cells T.aS)
 have hbg : ∀ b,(Value.slice (some ⟨h1.size,0,none⟩) 1 1).ownBlock=some b→h1.size≤b:=fun b hb=>by simp only [Value.ownBlock,Option.some.injEq] at hb;omega
 show LC.wp Tryz.prog z _ _ (h1.push (.cells (Value.agg #[.slice sa sl sc,.int .i64 0,.int .i64 0,.slice none 0 0,.int .i64 0,.slice none 0 0]).cells T.aS))
 generalize h1.push (.cells (Value.agg #[.slice sa sl sc,.int .i64 0,.int .i64 0,.slice none 0 0,.int .i64 0,.slice none 0 0]).cells T.aS)=h2 at hbx hle2
 have w2:=w1.add (k:=(0,0)) ((Own.ab (by simp)).trans (ho0 _ (by decide))) (kL (W:=W) (d:=RawN.mk (n:=5) [.slice sa sl sc,.int .i64 0,.int .i64 0,.slice none 0 0,.int .i64 0,.slice none 0 0]) hbx (iG rfl (by simp [Value.oneCell'])) (by decide)) hle2 hbg
 generalize h1.size=M at w2
 generalize hvs:Value.slice sa sl sc=vs at hs w2
 obtain ⟨m0,hm0⟩ : ∃ m0:MS,m0=⟨0,0,[],0,[]⟩:=⟨_,rfl⟩
 obtain ⟨o2,ho2⟩ : ∃ o2:Own,o2=fun k=>if k=(0,0) then bx T.aS M (RawN.mk (n:=5) (mkL vs 0 0 (.slice none 0 0) 0 (.slice none 0 0))) else if k=(0,1) then it T.int (.slice none 0 0) ([]:List Int) else if k=(0,2) then it T.aX (.slice none 0 0) ([]:List BlkM) else gQ R o0 k:=⟨_,rfl⟩
 have w2:Owns W h2 o2:=w2.nils fun k i hk=>by
  rw [ho2] at hk
  dsimp only at hk
  split at hk
  ·rename_i e;rw [e];exact .inl hk
  ·rename_i e0
   split at hk
   ·cases hk;exact .inr ⟨rfl,OwnT.nil (α:=Int) _ _ _⟩
   ·split at hk
    ·cases hk;exact .inr ⟨rfl,OwnT.nil (α:=BlkM) _ _ _⟩
    ·refine .inl ?_
     rw [Own.ab e0]
     by_cases e8:k=(8,0)
     ·subst e8;exact hk
     ·rw [Own.ab e8]
      unfold gQ at hk;rw [if_neg e8] at hk
      split at hk
      ·exact hk
      ·cases hk
 have w2:Mk s M vs W h2 o2 m0:=⟨w2,hs,.slice none 0 0,.slice none 0 0,[],by rw [ho2,hm0];rfl,by rw [ho2,hm0];rfl,by rw [ho2];rfl,by rw [hm0];rfl,fun i hi=>by rw [hm0] at hi;simp at hi,fun i hi=>by rw [hm0] at hi;simp at hi,fun i hi=>by rw [hm0] at hi;simp at hi⟩
 have f2 : ∀ k:Key,3≤k.1→o2 k=gQ R o0 k:=fun k hk=>by
  rw [ho2]
  dsimp only
  rw [if_neg (by rintro rfl;simp at hk),if_neg (by rintro rfl;simp at hk),if_neg (by rintro rfl;simp at hk)]
 clear w1 hbx hbg hle2 q1 ho2
 rw [hz];clear hz z
 refine aa fun z hz=>?_
 simp
 refine af (by kernel_rfl) (w2.take (by rw [hm0];decide) (n:=5) (by decide) (by decide)) ?_
 rintro _ h3 ⟨rfl,o3,w3,f3⟩
 have tv:=bf (s:=s) (at_:=m0.at_) (n:=5) (by decide)
 obtain ⟨vb,vl,lb,bb⟩:=w3.box
 refine w3.own.cG (k:=(0,0)) (n:=5) (i:=2) (e:=T.aS) (B:=M) (l:=mkL vs m0.took.at_ m0.took.ps vb m0.took.next vl) bb.box (by decide) (by kernel_rfl) rfl rfl rfl fun h4 w4 _=>?_
 have b4:=bb.boxed ⟨m0.took.at_,aA s m0.at_ 5,m0.took.blocks,m0.took.next,m0.took.live⟩ rfl rfl
 rw [hz];clear hz z
 refine aa fun z hz=>?_
 have w4:Mk s M vs W h4 _ _:=⟨w4,w3.src,vb,vl,lb,b4⟩
 have rd:=w4.reads b4
 simp [rd.ps]
 refine w4.own.cG (k:=(0,0)) (n:=5) (i:=4) (e:=T.aS) (B:=M) (l:=mkL vs m0.took.at_ (aA s m0.at_ 5) vb m0.took.next vl) b4.box (by decide) (by kernel_rfl) rfl rfl rfl fun h5 w5 _=>?_
 have b5:=b4.boxed ⟨m0.took.at_,aA s m0.at_ 5,m0.took.blocks,aA s m0.at_ 5,m0.took.live⟩ rfl rfl
 have w5:Mk s M vs W h5 _ _:=⟨w5,w3.src,vb,vl,lb,b5⟩
 obtain ⟨o5,ho5⟩ : ∃ o5,o5=(o3.upd (0,0) (bx T.aS M (RawN.mk (n:=5) (mkL vs m0.took.at_ (aA s m0.at_ 5) vb m0.took.next vl)))).upd (0,0) (bx T.aS M (RawN.mk (n:=5) (mkL vs m0.took.at_ (aA s m0.at_ 5) vb (aA s m0.at_ 5) vl))):=⟨_,rfl⟩
 have f5 : ∀ k:Key,3≤k.1→o5 k=gQ R o0 k:=fun k hk=>by
  rw [ho5,Own.ab (by rintro rfl;simp at hk),Own.ab (by rintro rfl;simp at hk),f3 k hk,f2 k hk]
 rw [hm0] at w5
 have w5:Mk s M vs W h5 o5 ⟨1,aA s 0 5,[],aA s 0 5,[]⟩:=by rw [ho5,hm0];exact w5
 clear b5 b4 rd w4 bb w3 f3 w2 f2 ho5 hvs
 rw [hz];clear hz z
 refine aa fun z hz=>?_
 simp
 refine af (by kernel_rfl) (w5.take (show 1≤_ by omega) (n:=9) (by decide) (by decide)) ?_
 rintro _ h6 ⟨rfl,o6,w6,f6⟩
 have w6:Mk s M vs W h6 o6 (rJ s):=w6
 have f6 : ∀ k:Key,3≤k.1→o6 k=gQ R o0 k:=fun k hk=>(f6 k hk).trans (f5 k hk)
 clear w5 f5
 have hN:=Bf (s:=s)
 obtain ⟨n1,n2⟩:=eh (s:=s)
 have hw:IntKind.i64.wrap (1+aA s 1 9)=(aF s:Nat):=by rw [hN];exact b8 (by omega) (by omega)
 simp [hw]
 rw [hz];clear hz z
 refine aa fun z hz=>?_
 simp
 refine af (by kernel_rfl) (zk (ri:=gQ R o0) w6 (fun k hk=>f6 k (by omega)) (fun k h1 h2=>(f6 k h1).trans (by unfold gQ;rw [if_neg (by rintro rfl;simp at h2),if_neg (by omega)])) (n:=aF s) yC (by omega) n1 (by omega)) ?_
 rintro vt h7 ⟨W7,o7,g7,w7,r7,e7,st⟩
 have w7:Mk s M vs W7 h7 o7 (eu s).2:=w7
 have st:SlRd W7 vt (eu s).1:=st
 have f7 : ∀ k:Key,3≤k.1→o7 k=gQ R o0 k:=fun k hk=>by
  by_cases e:8≤k.1
  ·exact r7 k e
  ·rw [e7 k hk (by omega)];unfold gQ;rw [if_neg (by rintro rfl;simp at e),if_neg (by omega)]
 clear r7 e7 w6 f6
 have k1:=xg (s:=s)
 have s4:=oX (s:=s)
 rw [hz];clear hz z
 refine aa fun z hz=>?_
 simp
 refine lW (α:=BlkM) (W:=W7) (k:=.i64) (n:=aF s) (d:=⟨⟨.slice none 0 0⟩,⟨.slice none 0 0⟩,⟨0,[],[],⟨0⟩⟩⟩) El.iO (by rfl) (by rfl) ⟨[.slice none 0 0],_,rfl,⟨rfl,rfl⟩,[.slice none 0 0],_,rfl,⟨rfl,rfl⟩,[.int .i64 0],_,rfl,⟨rfl,by decide,by decide⟩,[.slice none 0 0],_,rfl,⟨_,rfl,gh⟩,[.slice none 0 0],_,rfl,⟨_,rfl,gh⟩,rfl,by decide,by decide⟩ (by omega) (by omega) fun vb8 h8 ob8 m8 hle8 hb8=>?_
 obtain ⟨vb,vl,lb,bb⟩:=w7.box
 have wa:=w7.own.sub (o':=o7.upd (0,2) none) fun j i hj=>by
  unfold Own.upd at hj
  split at hj
  ·cases hj
  ·exact hj
 have wb:=wa.add (k:=(0,2)) Own.ag ob8 hle8 (fun b hb=>by rw [hb8] at hb;cases hb;exact Nat.le_refl _)
 have hv8:=(wb.cells (k:=(0,2)) Own.ag).2
 obtain ⟨o8,ho8⟩ : ∃ o8:Own,o8=fun k=>if k.1=1∧k.2<aF s then it T.dB (.slice none 0 0) ([]:List PhiD) else if k.1=2∧k.2<aF s then it T.dm (.slice none 0 0) ([]:List InsD) else o7.upd (0,2) (it T.aX vb8 (List.replicate (aF s) (BlkM.mk ⟨.slice none 0 0⟩ ⟨.slice none 0 0⟩ ⟨0,[],[],⟨0⟩⟩))) k:=⟨_,rfl⟩
 have w8:Owns W7 h8 o8:=wb.nils fun k i hk=>by
  rw [ho8] at hk
  dsimp only at hk
  split at hk
  ·cases hk;exact .inr ⟨rfl,OwnT.nil (α:=PhiD) _ _ _⟩
  ·split at hk
   ·cases hk;exact .inr ⟨rfl,OwnT.nil (α:=InsD) _ _ _⟩
   ·refine .inl ?_
    by_cases e:k=(0,2)
    ·subst e;rw [Own.ag] at hk ⊢;exact hk
    ·rw [Own.ab e] at hk;rw [Own.ab e,Own.ab e];exact hk
 have c8 : ∀ k:Key,¬(k.1=1∧k.2<aF s)→¬(k.1=2∧k.2<aF s)→o8 k=o7.upd (0,2) (it T.aX vb8 (List.replicate (aF s) (BlkM.mk ⟨.slice none 0 0⟩ ⟨.slice none 0 0⟩ ⟨0,[],[],⟨0⟩⟩))) k:=fun k h1 h2=>by
  rw [ho8];dsimp only;rw [if_neg h1,if_neg h2]
 refine w8.cG (k:=(0,0)) (n:=5) (i:=3) (e:=T.aS) (B:=M) (l:=mkL vs (eu s).2.at_ (eu s).2.ps vb (eu s).2.next vl) (by rw [c8 _ (by simp) (by simp),Own.ab (by simp)];exact bb.box) (by decide) (by kernel_rfl) rfl rfl hv8 fun h9 w9 _=>?_
 obtain ⟨o9,ho9⟩ : ∃ o9:Own,o9=o8.upd (0,0) (bx T.aS M (RawN.mk (n:=5) (mkL vs (eu s).2.at_ (eu s).2.ps vb8 (eu s).2.next vl))):=⟨_,rfl⟩
 have w9:Owns W7 h9 o9:=by rw [ho9];exact w9
 have b9:MkB M vs { (eu s).2 with blocks:=List.replicate (aF s) mZ } o9 vb8 vl (List.replicate (aF s) (BlkM.mk ⟨.slice none 0 0⟩ ⟨.slice none 0 0⟩ ⟨0,[],[],⟨0⟩⟩)):=by
  rw [ho9]
  refine ⟨rfl,?_,?_,by simp,fun i hi=>?_,fun i hi=>?_,fun i hi=>?_⟩
  ·rw [Own.ab (by simp),c8 _ (by simp) (by simp),Own.ab (by simp)];exact bb.live
  ·rw [Own.ab (by simp),c8 _ (by simp) (by simp),Own.ag]
  ·have hi:i<aF s:=by simpa using hi
   rw [aq hi,aq hi];rfl
  ·have hi:i<aF s:=by simpa using hi
   rw [Own.ab (by simp),ho8];dsimp only
   rw [if_pos ⟨rfl,hi⟩,aq hi,aq hi];rfl
  ·have hi:i<aF s:=by simpa using hi
   rw [Own.ab (by simp),ho8];dsimp only
   rw [if_neg (by simp),if_pos ⟨rfl,hi⟩,aq hi,aq hi];rfl
 have x9:Nx s M vs W7 h9 (gQ R o0) { (eu s).2 with blocks:=List.replicate (aF s) mZ }:=⟨W7,o9,View.le_refl _,⟨w9,w7.src,vb8,vl,_,b9⟩,fun k hk=>by
  rw [ho9,Own.ab (by rintro rfl;simp at hk),c8 _ (by omega) (by omega),Own.ab (by rintro rfl;simp at hk)];exact f7 k hk⟩
 clear b9 w9 ho9 c8 w8 ho8 wb wa hv8 bb ob8 m8 hle8 hb8 w7 f7
 rw [hz];clear hz z
 refine aa fun z hz=>?_
 refine aa fun y hy=>?_
 simp
 rw [hy];clear hy y
 refine EH (vr:=.pointer (some ⟨R,0,none⟩)) st k1.len x9 (by simp) (by omega) (by simp [bm,aj,al]) fun h10 x10=>?_
 have x10:Nx s M vs W7 h10 (gQ R o0) (jW s):=x10
 clear x9
 simp
 rw [hz];clear hz z
 refine aa fun z hz=>?_
 simp
 obtain ⟨Wa,oa,ga,wa,fa⟩:=x10
 refine lW (α:=Int) (W:=Wa) (k:=.i64) (n:=aF s) (d:=0) El.a8 (by rfl) (by rfl) ⟨rfl,by decide,by decide⟩ (by omega) (by omega) fun vp h11 ob11 m11 hle11 hb11=>?_
 have x11:Nx s M vs W7 h11 ((gQ R o0).upd (5,0) (it T.int vp (List.replicate (aF s) (0:Int)))) (jW s):=by
  have w11:=wa.own.add (k:=(5,0)) ((fa _ (by decide)).trans rfl) ob11 hle11 (fun b hb=>by rw [hb11] at hb;cases hb;exact Nat.le_refl _)
  obtain ⟨vb,vl,lb,bb⟩:=wa.box
  refine ⟨Wa,_,ga,⟨w11,wa.src,vb,vl,lb,bb.frame fun q hq=>Own.ab (by rintro rfl;simp at hq)⟩,fun q hq=>?_⟩
  unfold Own.upd
  split
  ·rfl
  ·exact fa q hq
 clear wa fa ob11 m11 hb11
 rw [hz];clear hz z
 refine aa fun z hz=>?_
 refine aa fun y hy=>?_
 simp
 rw [hy];clear hy y
 obtain ⟨z2,g2⟩:=xL (s:=s)
 have p0:Ph (aF s) 200 0 (List.replicate (aF s) (0:Int),jW s):=by
  have hz : ∀ j,nth (List.replicate (aF s) (0:Int)) j=0:=fun j=>by
   rcases Nat.lt_or_ge j (aF s) with hj | hj
   ·rw [aq hj]
   ·rw [aU (by simpa using hj)];rfl
  exact ⟨z2,by simp,fun j _=>hz j,fun j=>by show 0≤nth (List.replicate _ (0:Int)) j∧nth (List.replicate _ (0:Int)) j≤3;rw [hz];omega⟩
 refine FF (x0:=(List.replicate (aF s) (0:Int),jW s)) (vr:=.pointer (some ⟨R,0,none⟩)) (vt:=vt) (vp:=vp) x11 p0 n1 (by omega) (by omega) (by simp [bm,aj,al]) fun h12 x12=>?_
 have x12:Nx s M vs W7 h12 ((gQ R o0).upd (5,0) (it T.int vp (fD s).1)) (fD s).2:=x12
 obtain ⟨ph,pc,g3⟩:=mP (s:=s)
 clear p0 x11 z2 g2
 simp
 rw [hz];clear hz z
 refine aa fun z hz=>?_
 simp
 obtain ⟨Wa,oa,ga,wa,fa⟩:=x12
 refine lW (α:=Bool) (W:=Wa) (k:=.i64) (n:=aF s) (d:=false) El.mj (by rfl) (by rfl) rfl (by omega) (by omega) fun vd h13 ob13 m13 hle13 hb13=>?_
 have x13:Nx s M vs W7 h13 (((gQ R o0).upd (5,0) (it T.int vp (fD s).1)).upd (6,0) (it T.bool vd (List.replicate (aF s) false))) (fD s).2:=by
  have w13:=wa.own.add (k:=(6,0)) ((fa _ (by decide)).trans rfl) ob13 hle13 (fun b hb=>by rw [hb13] at hb;cases hb;exact Nat.le_refl _)
  obtain ⟨vb,vl,lb,bb⟩:=wa.box
  refine ⟨Wa,_,ga,⟨w13,wa.src,vb,vl,lb,bb.frame fun q hq=>Own.ab (by rintro rfl;simp at hq)⟩,fun q hq=>?_⟩
  unfold Own.upd
  split
  ·rfl
  ·exact fa q hq
 clear wa fa ob13 m13 hb13
 rw [hz];clear hz z
 refine aa fun z hz=>?_
 refine aa fun y hy=>?_
 simp
 rw [hy];clear hy y
 refine EC (a:=16000) (p:=27) (x0:=(List.replicate (aF s) false,(fD s).2)) (vr:=.pointer (some ⟨R,0,none⟩)) (vp:=vp) x13 st k1.len rfl rfl rfl zc n2 (by omega) (by omega) (by omega) (by simp [bm,aj,al]) fun h14 x14=>?_
 have x14:Nx s M vs W7 h14 (((gQ R o0).upd (5,0) (it T.int vp (fD s).1)).upd (6,0) (it T.bool vd (lu s).1)) (lu s).2:=x14
 obtain ⟨q4,pc4⟩:=tc (s:=s)
 clear x13 pc g3
 simp
 rw [hz];clear hz z
 refine aa fun z hz=>?_
 refine aa fun y hy=>?_
 simp
 rw [hy];clear hy y
 refine DH (vr:=.pointer (some ⟨R,0,none⟩)) (vt:=vt) (vp:=vp) (vd:=vd) (lp:=(fD s).1) x14 ((Own.ab (by simp)).trans Own.ag) rfl rfl q4 pc4 ph.len ph.rng n1 n2 (by omega) (by omega) (by omega) (by omega) (by simp [bm,aj,al]) fun h15 x15=>?_
 have x15:Nx s M vs W7 h15 (((gQ R o0).upd (5,0) (it T.int vp (fD s).1)).upd (6,0) (it T.bool vd (lu s).1)) (fT s):=x15
 have q5:=lD (s:=s)
 clear x14 q4 pc4 ph
 simp
 rw [hz];clear hz z
 refine aa fun z hz=>?_
 obtain ⟨Wa,oa,ga,wa,fa⟩:=x15
 obtain ⟨vb,vl,lb,bb⟩:=wa.box
 have rd:=wa.reads bb
 simp [rd.f]
 have hvb:vb.oneCell'=true:=rd.blk.cells.2
 refine wa.own.jQ (k:=(8,0)) (α:=RawN 1) (β:=RawN 1) Part.all (B:=R) (D:=RawN.mk (n:=1) [.int .i64 0,.slice none 0 0]) (d:=RawN.mk (n:=1) [.int .i64 (fT s).ps,vb]) ((fa _ (by decide)).trans rfl) (by kernel_rfl) rfl rfl (iG rfl (by intro c hc;simp only [List.mem_cons,List.not_mem_nil,or_false] at hc;rcases hc with rfl | rfl<;>first | rfl | exact hvb)) fun h16 w16 _=>?_
 have c16:=w16.gD (k:=(8,0)) (n:=1) (l:=[.int .i64 (fT s).ps,vb]) Own.ag
 have c16:Un.ev (vw h16) (.au 2) (.pointer (some ⟨R,0,none⟩))=some (.agg #[.int .i64 (fT s).ps,vb]):=c16
 have b16:=bb.frame (o':=oa.upd (8,0) (bx T.aI R (RawN.mk (n:=1) [.int .i64 (fT s).ps,vb]))) fun q hq=>Own.ab (by rintro rfl;simp at hq)
 have w16:Mk s M vs Wa h16 _ (fT s):=⟨w16,wa.src,vb,vl,lb,b16⟩
 have rd16:=w16.reads b16
 rw [hz];clear hz z
 simp [c16]
 refine hK _ _ ⟨Wa,fun k=>if 3≤k.1 then o0 k else if k=(0,2)∨k.1=1∨k.1=2 then oa k else none,vb,lb,View.le_trans g7 ga,w16.own.sub fun k i hk=>?_,fun k hk=>if_pos hk,⟨?_,b16.len,b16.term,fun i hi=>?_,fun i hi=>?_⟩,rfl⟩
 ·split at hk
  ·rename_i e3
   rcases Nat.lt_or_ge k.1 10 with e | e
   ·rw [ho0 k e] at hk;cases hk
   ·have h1:oa k=o0 k:=(fa k (by omega)).trans (by
     rw [Own.ab (by rintro rfl;simp at e),Own.ab (by rintro rfl;simp at e)]
     unfold gQ;rw [if_neg (by rintro rfl;simp at e),if_pos e])
    rw [Own.ab (by rintro rfl;simp at e),h1];exact hk
  ·rename_i e3
   split at hk
   ·rw [Own.ab (by rintro rfl;simp at e3)];exact hk
   ·cases hk
 ·have:=b16.blk
  rw [Own.ab (by simp)] at this
  simpa using this
 ·have:=b16.phis i hi
  rw [Own.ab (by simp)] at this
  exact (by simp:_=oa (1,i)).trans this
 ·have:=b16.ins i hi
  rw [Own.ab (by simp)] at this
  exact (by simp:_=oa (2,i)).trans this
theorem FC {s:List Int} {vs:Value} {h:Heap} {W:View} {o0:Own} (w0:Owns W h o0) (ho0 : ∀ k:Key,k.1<10→o0 k=none) (hs:SlRd W vs s) :
  aD Tryz.prog N.ar #[vs] h (fun u h'=>∃ W',W.le W'∧Owns W' h' o0∧Rd W' u (gS s)):=by
 refine (CA w0 ho0 hs).mono ?_
 rintro u h' ⟨W1,o,vb,lb,hW,w,ho,b,rfl⟩
 obtain ⟨W2,hW2,w2,sb⟩:=b.freeze w ho fun k hk=>ho0 k (by omega)
 have mp:=rI (s:=s)
 have mi:I64 (gS s).params:=⟨by omega,by omega⟩
 exact ⟨W2,View.le_trans hW hW2,w2,⟨_,rfl,[.int .i64 (gS s).params],[vb],rfl,⟨rfl,mi⟩,vb,rfl,sb⟩⟩
end Go.Proofs.YtbkdlhkoiagbbaaGreat
namespace Go.Proofs.YtbkdlhkoiagbbaaGreat
open Go Go.Lft
theorem dJ {l:List BlkD}:(ofG l).length=l.length:=by simp [ofG]
theorem bT {l:List BlkD} {a b:Int}:cW (ofG l) a b=true↔(0≤a∧a<l.length∧0≤b∧b<l.length)∧b∈(nth l a.toNat).term.to:=by
 rw [dU,dJ]
 constructor
 ·rintro ⟨h,hm⟩
  rw [ofG,df (by omega),qA] at hm
  exact ⟨h,hm.1⟩
 ·rintro ⟨h,hm⟩
  refine ⟨h,?_⟩
  rw [ofG,df (by omega),qA]
  exact ⟨hm,h.2.2.1,h.2.2.2⟩
structure Rb (f:ah) (wo:Int) (s:RSt):Prop where
 ok:ROk f.blocks.length s
 seen : ∀ b:Nat,b<f.blocks.length→(nth s.1 b=true↔(b:Int)∈s.2)
 sound : ∀ x∈s.2,Re (ofG f.blocks) wo x.toNat
theorem H7 {f:ah} {wo a:Int} {k:Nat} {s:RSt} (h:Rb f wo s) (h0:0≤a) (h1:a<f.blocks.length) (ha:Re (ofG f.blocks) wo a.toNat) (hk:k<(nth f.blocks a.toNat).term.to.length) :
  Rb f wo (iZ wo (nth f.blocks a.toNat).term.to k s)∧s.2 <+: (iZ wo (nth f.blocks a.toNat).term.to k s).2∧
   (0≤nth (nth f.blocks a.toNat).term.to k→nth (nth f.blocks a.toNat).term.to k<f.blocks.length→nth (nth f.blocks a.toNat).term.to k≠wo→nth (nth f.blocks a.toNat).term.to k∈(iZ wo (nth f.blocks a.toNat).term.to k s).2):=by
 have hok:=yA (wo:=wo) (to:=(nth f.blocks a.toNat).term.to) (k:=k) h.ok
 have hm:=bu hk
 unfold iZ at hok ⊢
 generalize hto:(nth f.blocks a.toNat).term.to=to at hm hok ⊢
 split
 ·rename_i hc
  rw [if_pos hc] at hok
  obtain ⟨⟨c1,c2⟩,c3,c4⟩:=hc
  rw [h.ok.len] at c2
  have hb:((nth to k).toNat:Int)=nth to k:=Int.toNat_of_nonneg c1
  refine ⟨⟨hok,fun b hb=>?_,fun x hx=>?_⟩,List.prefix_append _ _,fun _ _ _=>List.mem_append_right _ (List.mem_singleton.2 rfl)⟩
  ·rw [List.mem_append,List.mem_singleton]
   by_cases he:b=(nth to k).toNat
   ·subst he
    rw [aJ (by rw [h.ok.len];omega),if_pos rfl]
    exact ⟨fun _=>.inr (Int.toNat_of_nonneg c1),fun _=>rfl⟩
   ·rw [aJ (by rw [h.ok.len];exact hb),if_neg (fun e=>he e.symm),h.seen b hb]
    exact ⟨.inl,fun e=>e.resolve_right (by omega)⟩
  ·rcases List.mem_append.1 hx with hx | hx
   ·exact h.sound x hx
   ·rw [List.mem_singleton.1 hx]
    refine .step ha ?_ (by rw [hb];exact c4)
    rw [bT,hb]
    exact ⟨⟨by omega,by omega,c1,c2⟩,by rw [Int.toNat_natCast,hto];exact hm⟩
 ·rename_i hc
  rw [if_neg hc] at hok
  refine ⟨h,List.prefix_refl _,fun c1 c2 c4=>?_⟩
  have hb:((nth to k).toNat:Int)=nth to k:=Int.toNat_of_nonneg c1
  rw [←hb,←h.seen _ (by omega)]
  cases e:nth s.1 (nth to k).toNat with
  | true=>rfl
  | false=>exact absurd ⟨⟨c1,by rw [h.ok.len];exact c2⟩,e,c4⟩ hc
theorem CQ {f:ah} {wo a:Int} {s:RSt} (h:Rb f wo s) (h0:0≤a) (h1:a<f.blocks.length) (ha:Re (ofG f.blocks) wo a.toNat) : ∀ m,m≤(nth f.blocks a.toNat).term.to.length→
  Rb f wo (up (iZ wo (nth f.blocks a.toNat).term.to) m s)∧s.2 <+: (up (iZ wo (nth f.blocks a.toNat).term.to) m s).2∧
   ∀ k,k<m→0≤nth (nth f.blocks a.toNat).term.to k→nth (nth f.blocks a.toNat).term.to k<f.blocks.length→nth (nth f.blocks a.toNat).term.to k≠wo→nth (nth f.blocks a.toNat).term.to k∈(up (iZ wo (nth f.blocks a.toNat).term.to) m s).2
 | 0,_=>⟨h,List.prefix_refl _,fun k hk=>by omega⟩
 | m+1,hm=>by
  obtain ⟨i1,i2,i3⟩:=CQ h h0 h1 ha m (by omega)
  obtain ⟨j1,j2,j3⟩:=H7 (k:=m) i1 h0 h1 ha (by omega)
  rw [up]
  refine ⟨j1,i2.trans j2,fun k hk c1 c2 c3=>?_⟩
  rcases Nat.lt_or_ge k m with hlt | hge
  ·exact j2.subset (i3 k hlt c1 c2 c3)
  ·have:k=m:=by omega
   subst this;exact j3 c1 c2 c3
structure Rc (f:ah) (wo:Int) (i:Nat) (s:RSt):Prop where
 b:Rb f wo s
 root:wo≠0→0<f.blocks.length→(0:Int)∈s.2
 done : ∀ j,j<i→j<s.2.length→∀ b:Nat,cW (ofG f.blocks) (nth s.2 j) b=true→(b:Int)≠wo→(b:Int)∈s.2
theorem Ao {α:Type} [Inhabited α] {a b:List α} (h:a <+: b) {i:Nat} (hi:i<a.length):nth b i=nth a i:=by
 obtain ⟨t,rfl⟩:=h
 rw [ak (by simp;omega),ak hi,List.getElem_append_left hi]
theorem E0 {f:ah} {wo:Int} {i:Nat} {s:RSt} (h:Rc f wo i s) (hi:i<s.2.length):Rc f wo (i+1) (tq f wo i s)∧s.2 <+: (tq f wo i s).2:=by
 have hm:=bu hi
 obtain ⟨h0,h1⟩:=h.b.ok.rng _ hm
 have hre:=h.b.sound _ hm
 obtain ⟨i1,i2,i3⟩:=CQ h.b h0 h1 hre _ (Nat.le_refl _)
 have he:tq f wo i s=up (iZ wo (nth f.blocks (nth s.2 i).toNat).term.to) (nth f.blocks (nth s.2 i).toNat).term.to.length s:=rfl
 rw [←he] at i1 i2 i3
 refine ⟨⟨i1,fun a b=>i2.subset (h.root a b),fun j hj hjl b hb hne=>?_⟩,i2⟩
 rcases Nat.lt_or_ge j i with hlt | hge
 ·rw [Ao i2 (by omega)] at hb
  exact i2.subset (h.done j hlt (by omega) b hb hne)
 ·have:j=i:=by omega
  subst this
  rw [Ao i2 hi,bT] at hb
  obtain ⟨⟨_,_,q1,q2⟩,hmem⟩:=hb
  obtain ⟨k,hk,e⟩:=List.getElem_of_mem hmem
  rw [←ak hk] at e
  rw [←e]
  exact i3 k hk (by omega) (by omega) (by rw [e];exact hne)
theorem DU {f:ah} {wo:Int} : ∀ {m i:Nat} {s:RSt},Rc f wo i s→f.blocks.length<i+m→∃ k,Rc f wo k (rchS f wo m i s)∧(rchS f wo m i s).2.length≤k
 | 0,i,s,h,hm=>⟨i,h,by have:=h.b.ok.cnt;rw [rchS];omega⟩
 | m+1,i,s,h,hm=>by
  rw [rchS]
  split
  ·rename_i hi
   exact DU (E0 h hi).1 (by omega)
  ·rename_i hi
   exact ⟨i,h,by omega⟩
theorem FE {f:ah} {wo:Int}:Rc f wo 0 (rch0 f wo):=by
 have hok:=vZ (f:=f) (wo:=wo)
 unfold rch0 at hok ⊢
 split
 ·rename_i hc
  rw [if_pos hc] at hok
  refine ⟨⟨hok,fun b hb=>?_,fun x hx=>?_⟩,fun _ _=>List.mem_singleton.2 rfl,fun j hj=>by omega⟩
  ·rw [aJ (by simpa using hb),List.mem_singleton]
   split
   ·rename_i e;subst e;simp
   ·rename_i e
    rw [ak (by simpa using hb)]
    simp;omega
  ·rw [List.mem_singleton.1 hx]
   exact .root (by rw [dJ];exact hc.2) hc.1
 ·rename_i hc
  rw [if_neg hc] at hok
  refine ⟨⟨hok,fun b hb=>?_,fun x hx=>by cases hx⟩,fun a b=>absurd ⟨a,b⟩ hc,fun j hj=>by omega⟩
  rw [ak (by simpa using hb)]
  simp
theorem fX {f:ah} {wo:Int} {b:Nat} (hb:b<f.blocks.length):nth (dZ f wo) b=true↔Re (ofG f.blocks) wo b:=by
 obtain ⟨k,h,hk⟩:=DU (FE (f:=f) (wo:=wo)) (m:=f.blocks.length+1) (by omega)
 unfold dZ
 generalize rchS f wo (f.blocks.length+1) 0 (rch0 f wo)=s at h hk
 rw [h.b.seen b hb]
 constructor
 ·exact fun hm=>by simpa using h.b.sound _ hm
 ·intro hr
  induction hr with
  | root h1 h2=>exact h.root h2 (by rw [←dJ];exact h1)
  | @step a b ha he hne ih=>
   have hm:=ih (by have:=(bT.1 he).1;omega)
   obtain ⟨j,hj,e⟩:=List.getElem_of_mem hm
   rw [←ak hj] at e
   exact h.done j (by omega) hj b (by rw [e];exact he) hne
end Go.Proofs.YtbkdlhkoiagbbaaGreat
namespace Go.Proofs.YtbkdlhkoiagbbaaGreat
open Go Go.Lft
theorem iI {σ α ε:Type} {f:σ→α→Except ε σ} {a b:List α} {s:σ}:(a++b).foldlM f s=(match a.foldlM f s with | .ok s'=>b.foldlM f s' | .error e=>.error e):=by
 rw [List.foldlM_append]
 cases a.foldlM f s<;>rfl
theorem pJ {σ α ε:Type} {f:σ→α→Except ε σ} {a:α} {s:σ}:[a].foldlM f s=f s a:=by
 rw [List.foldlM_cons]
 cases f s a<;>rfl
theorem lA {σ α ε:Type} {g:Nat→σ→Except ε σ} {f:σ→α→Except ε σ} {x:Nat→α} {s:σ} : ∀ {n:Nat},(∀ i s,i<n→g i s=f s (x i))→upE g n s=(rows x n).foldlM f s
 | 0,_=>rfl
 | n+1,h=>by
  have ih:=lA (n:=n) (s:=s) fun i s hi=>h i s (by omega)
  rw [eW,iI,←ih]
  simp only [upE]
  cases upE g n s with
  | ok s'=>
   show g n s'=[x n].foldlM f s'
   rw [pJ];exact h n s' (by omega)
  | error e=>rfl
theorem nH {σ α ε:Type} [Inhabited α] {f:σ→α→Except ε σ} {l:List α} {s:σ}:upE (fun i s=>f s (nth l i)) l.length s=l.foldlM f s:=by
 rw [lA (f:=f) (x:=nth l) fun _ _ _=>rfl]
 congr 1
 refine List.ext_getElem (by simp) fun i h1 h2=>?_
 simp [rows,ak h2]
def jP (f:ah) (m:MW) (t:Th):Except Tr MW:=
 if t.place<0 then allS f.params t.mks t.blk t.place m
 else if t.place<(fS f t).ins.length then insS f.params t.blk (fS f t) t.place.toNat m
 else endS f.blocks.length t.blk (fS f t) m
theorem qx {f:ah} {b i:Nat} {m:MW}:jP f m (phiT f b i)=phiS f.params b (nth f.blocks b) i m:=by
 unfold jP
 rw [if_pos (show (phiT f b i).place<0 by show -1-(i:Int)<0;omega)]
 rfl
theorem qS {f:ah} {b i:Nat} {m:MW} (hi:i<(nth f.blocks b).ins.length):jP f m (insT f b i)=insS f.params b (nth f.blocks b) i m:=by
 unfold jP
 rw [if_neg (show ¬(insT f b i).place<0 by show ¬(i:Int)<0;omega),if_pos (show (insT f b i).place<((fS f (insT f b i)).ins.length:Int) by show (i:Int)<((nth f.blocks b).ins.length:Int);omega)]
 rfl
theorem qq {f:ah} {b:Nat} {m:MW}:jP f m (endT f b)=endS f.blocks.length b (nth f.blocks b) m:=by
 unfold jP
 rw [if_neg (show ¬(endT f b).place<0 by show ¬((nth f.blocks b).ins.length:Int)<0;omega),if_neg (show ¬(endT f b).place<((fS f (endT f b)).ins.length:Int) by show ¬((nth f.blocks b).ins.length:Int)<((nth f.blocks b).ins.length:Int);omega)]
 rfl
theorem Ev {f:ah} {b:Nat} {m:MW}:blkS f b m=(thB f b).foldlM (jP f) m:=by
 unfold blkS thB
 rw [lA (f:=jP f) (x:=phiT f b) (n:=(nth f.blocks b).phis.length) fun i s hi=>qx.symm]
 rw [iI,iI]
 cases (rows (phiT f b) (nth f.blocks b).phis.length).foldlM (jP f) m with
 | error e=>rfl
 | ok m1=>
  simp only
  rw [lA (f:=jP f) (x:=insT f b) (n:=(nth f.blocks b).ins.length) fun i s hi=>(qS hi).symm]
  cases (rows (insT f b) (nth f.blocks b).ins.length).foldlM (jP f) m1 with
  | error e=>rfl
  | ok m2=>
   simp only
   rw [pJ]
   exact qq.symm
theorem sC {f:ah} {m:MW}:kK f m=(aG f).foldlM (jP f) m:=by
 have key : ∀ n,upE (blkS f) n m=(thTo f n).foldlM (jP f) m:=by
  intro n
  induction n with
  | zero=>rfl
  | succ n ih=>
   rw [eH,iI,←ih]
   simp only [upE]
   cases upE (blkS f) n m with
   | error e=>rfl
   | ok s=>exact Ev
 exact key _
theorem oJ {f:ah}:kc f=(aG f).foldlM (fun m t=>iF f t m) (List.replicate 8192 false):=nH (f:=fun (m:BL) (t:Th)=>iF f t m)
def rN (m:MW) (l:BL):Prop:=l.length=8192∧∀ n:Int,0≤n→n<8192→(m n).isSome=nth l n.toNat
def Alike {α β:Type} (R:α→β→Prop):Except Tr α→Except Tr β→Prop
 | .ok a,.ok b=>R a b
 | .error e,.error e'=>e=e'
 | _,_=>False
theorem pz {α β γ:Type} {R:α→β→Prop} {F:α→γ→Except Tr α} {G:β→γ→Except Tr β} : ∀ {l:List γ},(∀ t∈l,∀ a b,R a b→Alike R (F a t) (G b t))→∀ {a:α} {b:β},R a b→Alike R (l.foldlM F a) (l.foldlM G b)
 | [],_,a,b,h=>h
 | t::l,hs,a,b,h=>by
  rw [List.foldlM_cons,List.foldlM_cons]
  have:=hs t List.mem_cons_self a b h
  cases e1:F a t with
  | error e=>
   cases e2:G b t with
   | error e'=>rw [e1,e2] at this;exact this
   | ok b'=>rw [e1,e2] at this;exact this.elim
  | ok a'=>
   cases e2:G b t with
   | error e'=>rw [e1,e2] at this;exact this.elim
   | ok b'=>
    rw [e1,e2] at this
    exact pz (fun t ht=>hs t (List.mem_cons_of_mem _ ht)) this
theorem Cn {f:ah} {n:Int}:bw n f.params 8191=!ld f n:=by
 rw [Bool.eq_iff_iff];simp [bw,ld]
theorem AJ {α:Type} {p:α→Bool} {l:List α}:l.all (fun n=>!p n)=!l.any p:=by
 induction l with
 | nil=>rfl
 | cons a l ih=>simp [ih]
def jF (t:Th) (m:BL) (n:Int):Except Tr BL:=if nth m n.toNat then .error (12,t.blk,t.place) else .ok (m.set n.toNat true)
theorem Co {f:ah} {t:Th} {m:MW} {l:BL} (h:rN m l) (hp:0≤f.params) (hn : ∀ n∈t.mks,ld f n=false):Alike rN (t.mks.foldlM (oE t.blk t.place) m) (upE (nQ t) t.mks.length l):=by
 have e:upE (nQ t) t.mks.length l=t.mks.foldlM (jF t) l:=nH (f:=jF t)
 rw [e]
 refine pz (fun n hnm m l h=>?_) h
 have hb:=hn n hnm
 simp only [ld,Bool.or_eq_false_iff,decide_eq_false_iff_not] at hb
 have hs:=h.2 n (by omega) (by omega)
 unfold oE jF
 rw [hs]
 cases hc:nth l n.toNat with
 | true=>exact rfl
 | false=>
  refine ⟨by simpa using h.1,fun k h0 h1=>?_⟩
  rw [aJ (by rw [h.1];omega)]
  simp only [putM]
  by_cases hk:k=n
  ·subst hk;simp
  ·rw [if_neg hk,if_neg (by omega)];exact h.2 k h0 h1
theorem uF {f:ah} {t:Th} {m:MW} {l:BL} (h:rN m l) (hp:0≤f.params) :
  Alike rN (allS f.params t.mks t.blk t.place m) (if t.mks.any (ld f) then .error (11,t.blk,t.place) else upE (nQ t) t.mks.length l):=by
 unfold allS
 have e:(t.mks.all fun n=>bw n f.params 8191)=!t.mks.any (ld f):=by
  rw [←AJ];congr 1;funext n;exact Cn
 rw [e]
 cases hb:t.mks.any (ld f) with
 | true=>exact rfl
 | false=>
  refine Co h hp fun n hn=>?_
  rw [Bool.eq_false_iff]
  intro e2
  rw [Bool.eq_false_iff] at hb
  exact hb (List.any_eq_true.2 ⟨n,hn,e2⟩)
theorem FW {x:InsD}:(bw x.op 1 18&&bw x.args.length (fO x.op).1 (fO x.op).2)=!kP x:=by
 rw [Bool.eq_iff_iff]
 simp only [kP,bw,fO,pO,Bool.and_eq_true,Bool.not_eq_true',Bool.or_eq_false_iff,decide_eq_true_eq,decide_eq_false_iff_not,Bool.not_eq_false']
 by_cases h1:x.op=1
 ·simp [h1]
 by_cases h2:x.op=15
 ·simp [h2];omega
 by_cases h3:x.op=17
 ·simp [h3]
 simp only [h1,h2,h3,if_false,decide_eq_true_eq];omega
theorem EJ {f:ah} {n:Int}:bw n 1 ((f.blocks.length:Int)-1)=!sY f n:=by
 rw [Bool.eq_iff_iff];simp [bw,sY];omega
theorem BR {t:dQ}:mS t=jm t:=by
 unfold mS jm fE
 by_cases h1:t.kind=1
 ·rw [Bool.eq_iff_iff];simp [putM,h1,bw];omega
 by_cases h2:t.kind=2
 ·rw [Bool.eq_iff_iff];simp [putM,h2,bw];omega
 by_cases h3:t.kind=3
 ·rw [Bool.eq_iff_iff];simp [putM,h3,bw];omega
 by_cases h4:t.kind=4
 ·rw [Bool.eq_iff_iff];simp [putM,h4,bw]
 by_cases h5:t.kind=5
 ·rw [Bool.eq_iff_iff];simp [putM,h5,bw]
 simp [putM,h1,h2,h3,h4,h5]
theorem rE {f:ah} {t:Th} {x:Except Tr BL} (h:jk f t=false):ml f t x=x:=by
 unfold ml
 cases x with
 | error e=>rfl
 | ok m=>simp only [h,Bool.false_and];rfl
theorem BW {f:ah} {t:Th} (ht:t∈aG f) (hp:0≤f.params) {m:MW} {l:BL} (h:rN m l):Alike rN (jP f m t) (iF f t l):=by
 obtain ⟨b,hb,ht⟩:=bz.1 ht
 rcases bP.1 ht with ⟨i,hi,rfl⟩ | ⟨i,hi,rfl⟩ | rfl
 ·have e1:lO f (phiT f b i)=false:=by simp [lO,phiT];omega
  have e2:jk f (phiT f b i)=false:=by
   show decide (-1-(i:Int)=((nth f.blocks b).ins.length:Int))=false
   rw [decide_eq_false_iff_not];omega
  rw [qx,iF,e1,e2,rE e2]
  exact uF (t:=phiT f b i) h hp
 ·have e1:lO f (insT f b i)=true:=by simp [lO,insT,fS];omega
  have e2:jk f (insT f b i)=false:=by
   show decide ((i:Int)=((nth f.blocks b).ins.length:Int))=false
   rw [decide_eq_false_iff_not];omega
  have e3:tu f (insT f b i)=nth (nth f.blocks b).ins i:=by simp [tu,fS,insT]
  rw [qS hi,iF,e1,e2,rE e2,e3,insS,FW]
  cases hb:kP (nth (nth f.blocks b).ins i) with
  | true=>exact rfl
  | false=>exact uF (t:=insT f b i) h hp
 ·have e1:lO f (endT f b)=false:=by simp [lO,endT,fS]
  have e2:jk f (endT f b)=true:=by simp [jk,endT,fS]
  have e3:fS f (endT f b)=nth f.blocks b:=by simp [fS,endT]
  rw [qq,iF,e1,e2,e3,endS,BR]
  cases hb:jm (nth f.blocks b).term with
  | false=>exact rfl
  | true=>
   have e4:((nth f.blocks b).term.to.all fun t=>bw t 1 ((f.blocks.length:Int)-1))=!(nth f.blocks b).term.to.any (sY f):=by
    rw [←AJ];congr 1;funext n;exact EJ
   rw [e4]
   show Alike rN _ (ml f (endT f b) (.ok l))
   unfold ml
   rw [e2,e3]
   cases (nth f.blocks b).term.to.any (sY f) with
   | true=>exact rfl
   | false=>exact h
theorem Ae {f:ah} (hp:0≤f.params):Alike rN (kK f (fun _=>none)) (kc f):=by
 rw [sC,oJ]
 refine pz (fun t ht m l h=>BW ht hp h) ⟨List.length_replicate ..,fun n h0 h1=>?_⟩
 rw [ak (by rw [List.length_replicate];omega),List.getElem_replicate];rfl
end Go.Proofs.YtbkdlhkoiagbbaaGreat
namespace Go.Proofs.YtbkdlhkoiagbbaaGreat
open Go Go.Lft
def Ad (t:Th):Option (Int × Int):=if t.blk<0 then none else some (t.blk,t.place)
structure Site (m:MW) (s:List Th):Prop where
 len:s.length=8192
 inn : ∀ n:Int,0≤n→n<8192→m n=Ad (nth s n.toNat)
 out : ∀ n:Int,¬(0≤n∧n<8192)→m n=none
theorem yU {t:Th} (hb:0≤t.blk) : ∀ {l:List Int} {m:MW} {s:List Th},Site m s→(∀ n∈l,0≤n∧n<8192)→Site (l.foldl (fun m n=>putM m n (t.blk,t.place)) m) (l.foldl (fw t) s)
 | [],m,s,h,_=>h
 | n::l,m,s,h,hl=>by
  rw [List.foldl_cons,List.foldl_cons]
  have hn:=hl n List.mem_cons_self
  refine yU hb ⟨lV.trans h.len,fun k h0 h1=>?_,fun k hk=>?_⟩ fun k hk=>hl k (List.mem_cons_of_mem _ hk)
  ·unfold fw putM
   rw [if_pos hn,aJ (by rw [h.len];omega)]
   by_cases e:k=n
   ·subst e;rw [if_pos rfl,if_pos rfl];unfold Ad;rw [if_neg (by omega)]
   ·rw [if_neg e,if_neg (by omega)];exact h.inn k h0 h1
  ·unfold putM
   rw [if_neg (by rintro rfl;exact hk hn)];exact h.out k hk
theorem yP {b p:Int} : ∀ {l:List Int} {m m':MW},l.foldlM (oE b p) m = .ok m'→m'=l.foldl (fun m n=>putM m n (b,p)) m
 | [],m,m',h=>by cases h;rfl
 | n::l,m,m',h=>by
  rw [List.foldlM_cons] at h
  cases e:oE b p m n with
  | error t=>rw [e] at h;cases h
  | ok m1=>
   rw [e] at h
   unfold oE at e
   split at e
   ·cases e
   ·cases e;exact yP (l:=l) (m:=putM m n (b,p)) h
theorem ya {ps b p:Int} {l:List Int} {m m':MW} (h:allS ps l b p m = .ok m'):m'=l.foldl (fun m n=>putM m n (b,p)) m∧∀ n∈l,ps≤n∧n≤8191:=by
 unfold allS at h
 split at h
 ·rename_i ha
  refine ⟨yP h,fun n hn=>?_⟩
  have:=List.all_eq_true.1 ha n hn
  simpa [bw] using this
 ·cases h
theorem Cy {f:ah} {t:Th} (ht:t∈aG f) {m m':MW} (h:jP f m t = .ok m'):(m'=t.mks.foldl (fun m n=>putM m n (t.blk,t.place)) m∧∀ n∈t.mks,f.params≤n∧n≤8191)∧0≤t.blk:=by
 obtain ⟨b,hb,ht⟩:=bz.1 ht
 rcases bP.1 ht with ⟨i,hi,rfl⟩ | ⟨i,hi,rfl⟩ | rfl
 ·rw [qx] at h
  exact ⟨ya h,by show 0≤(b:Int);omega⟩
 ·rw [qS hi] at h
  unfold insS at h
  split at h
  ·exact ⟨ya h,by show 0≤(b:Int);omega⟩
  ·cases h
 ·rw [qq] at h
  unfold endS at h
  split at h
  ·split at h
   ·cases h;exact ⟨⟨rfl,fun n hn=>by cases hn⟩,by show 0≤(b:Int);omega⟩
   ·cases h
  ·cases h
theorem vN {f:ah} (hp:0≤f.params) : ∀ {l:List Th},(∀ t∈l,t∈aG f)→∀ {m m':MW} {s:List Th},Site m s→l.foldlM (jP f) m = .ok m'→Site m' (l.foldl pB s)
 | [],_,m,m',s,h,e=>by cases e;exact h
 | t::l,hl,m,m',s,h,e=>by
  rw [List.foldlM_cons] at e
  cases e1:jP f m t with
  | error x=>rw [e1] at e;cases e
  | ok m1=>
   rw [e1] at e
   obtain ⟨⟨q1,q2⟩,q3⟩:=Cy (hl t List.mem_cons_self) e1
   rw [List.foldl_cons]
   refine vN hp (fun t ht=>hl t (List.mem_cons_of_mem _ ht)) (m:=m1) ?_ e
   rw [q1]
   exact yU q3 h fun n hn=>by have:=q2 n hn;omega
theorem BZ {f:ah} (hp:0≤f.params) {m:MW} (h:kK f (fun _=>none) = .ok m):Site m (iu f):=by
 rw [sC] at h
 refine vN hp (fun t ht=>ht) ⟨List.length_replicate ..,fun n h0 h1=>?_,fun n _=>rfl⟩ h
 rw [ak (by rw [List.length_replicate];omega),List.getElem_replicate];rfl
theorem ti {f:ah} {m:MW} {made:List Th} {away:List BL} {idom:List Int} {v blk place at_ told:Int} (hp:f.params≤8192) (hs:Site m made) (hd : ∀ a:Int,0≤a→a<f.blocks.length→dS idom a blk=!nth (nth away a.toNat) blk.toNat)
  (hm : ∀ i,i<8192→(nth made i).blk<f.blocks.length):useS f.params m idom v blk place at_ told=if (!hZ f made away v blk at_) then .error (13,told,place) else .ok ():=by
 unfold useS
 by_cases c1:0≤v∧v<f.params
 ·have e:hZ f made away v blk at_=true:=by unfold hZ;rw [if_pos c1]
  rw [if_pos c1,e];rfl
 rw [if_neg c1]
 by_cases c2:v<0∨8191<v
 ·have e:hZ f made away v blk at_=false:=by unfold hZ;rw [if_neg c1,if_pos (.inl c2)]
  rw [hs.out v (by omega),e];rfl
 have e:hZ f made away v blk at_=if (nth made v.toNat).blk<0 then false else if (nth made v.toNat).blk=blk then decide ((nth made v.toNat).place<0)||decide ((nth made v.toNat).place<at_) else !nth (nth away (nth made v.toNat).blk.toNat) blk.toNat:=by
  unfold hZ
  rw [if_neg c1]
  by_cases c3:(nth made v.toNat).blk<0
  ·rw [if_pos (.inr c3),if_pos c3]
  ·rw [if_neg (by rintro (q | q)<;>contradiction),if_neg c3]
 rw [hs.inn v (by omega) (by omega),e]
 have hmb:=hm v.toNat (by omega)
 generalize nth made v.toNat=t at hmb
 unfold Ad
 by_cases c3:t.blk<0
 ·rw [if_pos c3,if_pos c3];rfl
 rw [if_neg c3,if_neg c3]
 have e2:j6 (t.blk,t.place) idom blk at_=if t.blk=blk then decide (t.place<0)||decide (t.place<at_) else !nth (nth away t.blk.toNat) blk.toNat:=by
  unfold j6
  by_cases c4:t.blk=blk
  ·simp only [c4,decide_true,Bool.true_and,Bool.not_true,Bool.false_and,Bool.or_false,if_true]
   rw [Bool.or_comm]
  ·simp only [c4,decide_false,Bool.false_and,Bool.not_false,Bool.true_and,Bool.false_or,if_false]
   exact hd t.blk (by omega) hmb
 simp only [e2]
 generalize (if t.blk=blk then decide (t.place<0)||decide (t.place<at_) else !nth (nth away t.blk.toNat) blk.toNat)=B
 cases B<;>rfl
theorem tO {α:Type} [Inhabited α] {l:List α} {p:α→Bool} {e:Tr} {g:Nat→Except Tr Unit} (h : ∀ j,j<l.length→g j=if p (nth l j) then .error e else .ok ()):uAll g l.length=if l.any p then .error e else .ok ():=by
 have h1:uAll g l.length=l.foldlM (fun (_:Unit) x=>if p x then Except.error e else .ok ()) ():=by
  unfold uAll
  rw [←nH (f:=fun (_:Unit) x=>if p x then Except.error e else .ok ())]
  have key : ∀ n,n≤l.length→upE (fun i (_:Unit)=>g i) n ()=upE (fun i (_:Unit)=>if p (nth l i) then Except.error e else .ok ()) n ():=by
   intro n
   induction n with
   | zero=>exact fun _=>rfl
   | succ n ih=>
    intro hn
    simp only [upE]
    rw [ih (by omega),h n (by omega)]
  exact key _ (Nat.le_refl _)
 rw [h1]
 clear h1 h
 induction l with
 | nil=>rfl
 | cons a l ih=>
  rw [List.foldlM_cons,List.any_cons]
  cases hp:p a with
  | true=>rfl
  | false=>rw [Bool.false_or];exact ih
theorem zl {β:Type} {p q:Nat→Bool} {x:Nat→β} {n:Nat} (h : ∀ a,a<n→p a=q a):sift p x n=sift q x n:=by
 rw [jx,jx]
 congr 1
 exact List.filter_congr fun a ha=>h a (List.mem_range.1 ha)
theorem zM {f:ah} {b:Nat} (hb:b<f.blocks.length):nth (cf (ofG f.blocks)) b=aw f b:=by
 rw [mU,dC,dJ,df hb,aw]
 refine zl fun a ha=>?_
 rw [Bool.eq_iff_iff,bT,decide_eq_true_eq,Int.toNat_natCast]
 exact ⟨fun h=>h.2,fun h=>⟨by omega,h⟩⟩
theorem Cj {f:ah} {b i:Nat} (hb:b<f.blocks.length):yY (nth (nth f.blocks b).phis i) (nth (cf (ofG f.blocks)) b) b=pR f (phiT f b i):=by
 have e1:oD f (phiT f b i)=nth (nth f.blocks b).phis i:=by
  unfold oD fS phiT
  simp only [Int.toNat_natCast]
  rw [show (-1-(-1-(i:Int))).toNat=i by omega]
 have e2:(phiT f b i).blk=(b:Int):=rfl
 unfold yY jR pR
 rw [e1,e2,zM hb]
 generalize nth (nth f.blocks b).phis i=x
 generalize aw f b=row
 rw [Bool.eq_iff_iff]
 simp only [Bool.and_eq_true,decide_eq_true_eq,AF,vz]
 constructor
 ·rintro ⟨⟨h1,h2⟩,h3⟩
  refine ⟨by omega,List.ext_getElem (by simp;omega) fun j hj hj2=>?_⟩
  have:=h3 j (by simpa using hj)
  rw [ak hj2,ak (by simpa using hj)] at this
  simpa using this
 ·rintro ⟨h1,h2⟩
  have hl:x.ins.length=row.length:=by rw [←h2,List.length_map]
  refine ⟨⟨by omega,by omega⟩,fun j hj=>?_⟩
  rw [←h2,ak (l:=List.map InD.frm x.ins) (by rw [List.length_map];exact hj),ak hj]
  simp
theorem tg {f:ah} : ∀ i,i<8192→(nth (iu f) i).blk<f.blocks.length:=fun i hi=>Cf (by omega) (fun t ht=>by
 obtain ⟨b,hb,ht⟩:=bz.1 ht
 rcases bP.1 ht with ⟨i,hi,rfl⟩ | ⟨i,hi,rfl⟩ | rfl
 ·show (b:Int)<_;omega
 ·show (b:Int)<_;omega
 ·show (b:Int)<_;omega) hi
section
variable {f:ah} {m:MW} {idom:List Int} (hp0:f.params≤8192) (hs:Site m (iu f)) (hd : ∀ a b:Int,0≤a→a<f.blocks.length→0≤b→b<f.blocks.length→dS idom a b=!nth (nth (gK f) a.toNat) b.toNat)
include hp0 hs hd
theorem Fv {b i:Nat} (hb:b<f.blocks.length) (hi:i<(nth f.blocks b).phis.length):phiU f m idom (cf (ofG f.blocks)) b i=hC f (iu f) (gK f) (phiT f b i):=by
 have hf:=Cj (f:=f) (i:=i) hb
 have e1:oD f (phiT f b i)=nth (nth f.blocks b).phis i:=by
  unfold oD fS phiT
  simp only [Int.toNat_natCast]
  rw [show (-1-(-1-(i:Int))).toNat=i by omega]
 have e3:hC f (iu f) (gK f) (phiT f b i)=if !pR f (phiT f b i) then .error (16,b,-1-i) else if (nth (nth f.blocks b).phis i).ins.any (stP f (iu f) (gK f)) then .error (13,b,-1-i) else .ok ():=by
  unfold hC
  rw [if_neg (show ¬0≤(phiT f b i).place by show ¬0≤-1-(i:Int);omega),e1]
  rfl
 rw [e3]
 unfold phiU
 simp only [hf]
 cases hss:pR f (phiT f b i) with
 | false=>rfl
 | true=>
  rw [if_pos rfl,if_neg (by simp)]
  refine tO fun j hj=>?_
  have hfr:0≤(nth (nth (nth f.blocks b).phis i).ins j).frm∧(nth (nth (nth f.blocks b).phis i).ins j).frm<f.blocks.length:=by
   unfold pR at hss
   rw [e1] at hss
   simp only [Bool.and_eq_true,decide_eq_true_eq] at hss
   have hm:=List.mem_map_of_mem (f:=InD.frm) (bu hj)
   rw [hss.2] at hm
   obtain ⟨a,h1,_,h2⟩:=jJ.1 hm
   omega
  rw [ti hp0 hs (fun a h0 h1=>hd a _ h0 h1 hfr.1 hfr.2) tg]
  rfl
theorem Fg {b i:Nat} (hb:b<f.blocks.length) (hi:i<(nth f.blocks b).ins.length):insU f m idom b i=hC f (iu f) (gK f) (insT f b i):=by
 have e3:hC f (iu f) (gK f) (insT f b i)=if (nth (nth f.blocks b).ins i).args.any (stT f (iu f) (gK f) (insT f b i)) then .error (13,b,i) else .ok ():=by
  unfold hC
  rw [if_pos (show 0≤(insT f b i).place by show 0≤(i:Int);omega)]
  rfl
 rw [e3]
 unfold insU
 refine tO fun j hj=>?_
 rw [ti hp0 hs (fun a h0 h1=>hd a _ h0 h1 (by omega) (by omega)) tg]
 rfl
theorem Fb {b:Nat} (hb:b<f.blocks.length):endU f m idom b=hC f (iu f) (gK f) (endT f b):=by
 have e3:hC f (iu f) (gK f) (endT f b)=if (nth f.blocks b).term.args.any (stT f (iu f) (gK f) (endT f b)) then .error (13,b,(nth f.blocks b).ins.length) else .ok ():=by
  unfold hC
  rw [if_pos (show 0≤(endT f b).place by show 0≤((nth f.blocks b).ins.length:Int);omega)]
  rfl
 rw [e3]
 unfold endU
 refine tO fun j hj=>?_
 rw [ti hp0 hs (fun a h0 h1=>hd a _ h0 h1 (by omega) (by omega)) tg]
 rfl
def stF (f:ah) (_:Unit) (t:Th):Except Tr Unit:=hC f (iu f) (gK f) t
theorem EI {b:Nat} (hb:b<f.blocks.length):blkU f m idom (cf (ofG f.blocks)) b=(thB f b).foldlM (stF f) ():=by
 unfold blkU thB uAll
 rw [lA (f:=stF f) (x:=phiT f b) (n:=(nth f.blocks b).phis.length) fun i s hi=>Fv hp0 hs hd hb hi]
 rw [lA (f:=stF f) (x:=insT f b) (n:=(nth f.blocks b).ins.length) fun i s hi=>Fg hp0 hs hd hb hi]
 rw [iI,iI,Fb hp0 hs hd hb]
 cases (rows (phiT f b) (nth f.blocks b).phis.length).foldlM (stF f) () with
 | error e=>rfl
 | ok m1=>
  obtain ⟨⟩:=m1
  cases hI:(rows (insT f b) (nth f.blocks b).ins.length).foldlM (stF f) () with
  | error e=>simp only [andE,hI]
  | ok m2=>
   simp only [andE,hI]
   rw [pJ];rfl
theorem Cp:uAll (blkU f m idom (cf (ofG f.blocks))) f.blocks.length=yM f:=by
 have key : ∀ n,n≤f.blocks.length→uAll (blkU f m idom (cf (ofG f.blocks))) n=(thTo f n).foldlM (stF f) ():=by
  intro n
  induction n with
  | zero=>exact fun _=>rfl
  | succ n ih=>
   intro hn
   rw [eH,iI,←ih (by omega)]
   have e:uAll (blkU f m idom (cf (ofG f.blocks))) (n+1)=match uAll (blkU f m idom (cf (ofG f.blocks))) n with | .ok _=>blkU f m idom (cf (ofG f.blocks)) n | .error e=>.error e:=by
    show upE _ (n+1) ()=_
    simp only [upE]
    unfold uAll
    cases upE (fun i (_:Unit)=>blkU f m idom (cf (ofG f.blocks)) i) n ()<;>rfl
   rw [e]
   cases uAll (blkU f m idom (cf (ofG f.blocks))) n with
   | error e=>rfl
   | ok s=>exact EI hp0 hs hd (by omega)
 rw [key _ (Nat.le_refl _)]
 exact (nH (f:=stF f)).symm
end
end Go.Proofs.YtbkdlhkoiagbbaaGreat
namespace Go.Proofs.YtbkdlhkoiagbbaaGreat
open Go Go.Lft
theorem uS {f:ah} : ∀ k,manyN f k=(jd f k:Int)
 | 0=>rfl
 | k+1=>by
  have ih:=uS (f:=f) k
  unfold manyN at ih ⊢
  rw [up,ih,jd];omega
theorem ve {σ ε:Type} {f g:Nat→σ→Except ε σ} {s:σ} : ∀ {n:Nat},(∀ i s,i<n→f i s=g i s)→upE f n s=upE g n s
 | 0,_=>rfl
 | n+1,h=>by
  simp only [upE]
  rw [ve (n:=n) fun i s hi=>h i s (by omega)]
  cases upE g n s with
  | ok s'=>exact h n s' (by omega)
  | error e=>rfl
theorem A8 {f:Nat→Unit→Except Tr Unit} : ∀ {n:Nat},upE f n () = .ok ()→∀ i,i<n→f i () = .ok ()
 | n+1,h,i,hi=>by
  simp only [upE] at h
  cases e:upE f n () with
  | error t=>rw [e] at h;cases h
  | ok s=>
   rw [e] at h
   rcases Nat.lt_or_ge i n with hlt | hge
   ·exact A8 e i hlt
   ·have:i=n:=by omega
    subst this;exact h
theorem D9 {f:ah} (hn:0<f.blocks.length):uAll (qR f) f.blocks.length=wayE f:=by
 unfold uAll wayE
 refine ve fun b s hb=>?_
 unfold qR
 have e:decide ((b:Int)∈a6 (ofG f.blocks))=nth (dZ f (-1)) b:=by
  rw [Bool.eq_iff_iff,decide_eq_true_eq,(iW (by rw [dJ];exact hn)).mem,fX hb]
 rw [e]
theorem Dq {f:ah} (hn:0<f.blocks.length) (hw:wayE f = .ok ()) (a b:Int) (h0:0≤a) (h1:a<f.blocks.length) (h2:0≤b) (h3:b<f.blocks.length) :
  dS (oL (ofG f.blocks)) a b=!nth (nth (gK f) a.toNat) b.toNat:=by
 have hR : ∀ x:Nat,x<f.blocks.length→Re (ofG f.blocks) (-1) x:=fun x hx=>by
  have:=A8 hw x hx
  rw [←fX hx]
  split at this
  ·assumption
  ·cases this
 have hg:0<(ofG f.blocks).length:=by rw [dJ];exact hn
 obtain ⟨fp,C,l,hl,I⟩:=vj hg
 have hi:oL (ofG f.blocks)=l:=by unfold oL;rw [hl];rfl
 rw [hi]
 have e:=qc I C (a:=a.toNat) (b:=b.toNat) (by rw [dJ];omega) (hR _ (by omega))
 rw [Int.toNat_of_nonneg h0,Int.toNat_of_nonneg h2] at e
 rw [e,Bool.eq_iff_iff,nc]
 have ha:nth (gK f) a.toNat=dZ f a:=by
  unfold gK
  rw [df (by omega),Int.toNat_of_nonneg h0]
 rw [ha]
 have hr:=fX (f:=f) (wo:=a) (b:=b.toNat) (by omega)
 have haa:((a.toNat:Nat):Int)=a:=Int.toNat_of_nonneg h0
 rw [haa]
 cases hc:nth (dZ f a) b.toNat with
 | true=>
  rw [hc] at hr
  simp [hr.1 rfl]
 | false=>
  rw [hc] at hr
  have hnr:¬Re (ofG f.blocks) a b.toNat:=fun h=>by have:=hr.2 h;cases this
  simp [hnr,hR _ (show a.toNat<f.blocks.length by omega),hR _ (show b.toNat<f.blocks.length by omega)]
theorem vQ (f:ah):kF f=sN f:=by
 unfold kF kH sN
 by_cases c1:f.params<0∨4<f.params
 ·have:bw f.params 0 4=false:=by rw [Bool.eq_false_iff];simp [bw];omega
  rw [if_pos this,if_pos c1]
 have hw4:¬bw f.params 0 4=false:=by simp [bw];omega
 rw [if_neg hw4,if_neg c1]
 by_cases c2:f.blocks.length=0
 ·rw [if_pos c2,if_pos c2]
 rw [if_neg c2,if_neg c2]
 have hm:A6 f=(jd f f.blocks.length:Int):=uS _
 by_cases c3:512<f.blocks.length∨4096<jd f f.blocks.length
 ·rw [if_pos (by rw [hm];omega),if_pos c3]
 rw [if_neg (by rw [hm];omega),if_neg c3]
 have hp:0≤f.params:=by omega
 have hsh:=Ae hp
 cases hS:kK f (fun _=>none) with
 | error e=>
  cases hR:kc f with
  | ok l=>rw [hS,hR] at hsh;exact hsh.elim
  | error e'=>
   rw [hS,hR] at hsh
   have hee:e=e':=hsh
   subst hee
   obtain ⟨k,s',h1,_,h3⟩:=v7 hR
   have:=(y7 h3).1
   rw [if_pos (by show e.1≠0;omega)]
   rfl
 | ok m=>
  cases hR:kc f with
  | error e'=>rw [hS,hR] at hsh;exact hsh.elim
  | ok l=>
   rw [if_neg (by simp [uL])]
   have hs:=BZ hp hS
   show (match p9 f m (oL (ofG f.blocks)) with | .ok _=>((0,0,0):Tr) | .error t=>t)=_
   unfold p9
   rw [D9 (by omega)]
   cases hW:wayE f with
   | error e=>rfl
   | ok s=>
    obtain ⟨⟩:=s
    have:=Cp (f:=f) (m:=m) (idom:=oL (ofG f.blocks)) (by omega) hs fun a b h0 h1 h2 h3=>Dq (by omega) hW a b h0 h1 h2 h3
    show (match uAll (blkU f m (oL (ofG f.blocks)) (cf (ofG f.blocks))) f.blocks.length with | .ok _=>((0,0,0):Tr) | .error t=>t)=uL (yM f)
    rw [this]
    cases yM f<;>rfl
end Go.Proofs.YtbkdlhkoiagbbaaGreat
namespace Go.Proofs.YtbkdlhkoiagbbaaGreat
open Go Go.Lft
def Marks (m:BL) (S:Int→Prop):Prop:=m.length=8192∧∀ n:Int,0≤n→n<8192→(nth m n.toNat=true↔S n)
theorem Ac:Marks (List.replicate 8192 false) (fun _=>False):=⟨List.length_replicate,fun n h0 h1=>by rw [aq (by omega)];simp⟩
theorem uJ {m:BL} {S:Int→Prop} {n:Int} (h:Marks m S) (h0:0≤n) (h1:n<8192):Marks (m.set n.toNat true) (fun k=>S k∨k=n):=by
 refine ⟨by simpa using h.1,fun k k0 k1=>?_⟩
 rw [aJ (by rw [h.1];omega)]
 split
 ·rename_i e;exact ⟨fun _=>.inr (by omega),fun _=>rfl⟩
 ·rename_i e
  rw [h.2 k k0 k1]
  exact ⟨.inl,fun o=>o.resolve_right (by rintro rfl;exact e rfl)⟩
theorem Marks.congr {m:BL} {S T:Int→Prop} (h:Marks m S) (he : ∀ n,S n↔T n):Marks m T:=⟨h.1,fun n a b=>(h.2 n a b).trans (he n)⟩
theorem tD {t:Th} : ∀ {l:List Int} {m m':BL} {S:Int→Prop},Marks m S→(∀ n∈l,0≤n∧n<8192)→l.foldlM (jF t) m = .ok m'→Marks m' (fun k=>S k∨k∈l)∧l.Nodup∧∀ n∈l,¬S n
 | [],m,m',S,h,_,e=>by cases e;exact ⟨h.congr fun n=>by simp,List.nodup_nil,fun n hn=>by cases hn⟩
 | a::l,m,m',S,h,hl,e=>by
  rw [List.foldlM_cons] at e
  have ha:=hl a List.mem_cons_self
  unfold jF at e
  by_cases hc:nth m a.toNat=true
  ·rw [if_pos hc] at e;cases e
  ·rw [if_neg hc] at e
   obtain ⟨g1,g2,g3⟩:=tD (uJ h ha.1 ha.2) (fun n hn=>hl n (List.mem_cons_of_mem _ hn)) e
   refine ⟨g1.congr fun n=>by rw [List.mem_cons,or_assoc],List.nodup_cons.2 ⟨fun hm=>g3 a hm (.inr rfl),g2⟩,fun n hn=>?_⟩
   rcases List.mem_cons.1 hn with rfl | hn
   ·exact fun hs=>hc ((h.2 n ha.1 ha.2).2 hs)
   ·exact fun hs=>g3 n hn (.inl hs)
theorem te {t:Th} : ∀ {l:List Int} {m:BL} {S:Int→Prop},Marks m S→(∀ n∈l,0≤n∧n<8192)→l.Nodup→(∀ n∈l,¬S n)→∃ m',l.foldlM (jF t) m = .ok m'
 | [],m,S,h,_,_,_=>⟨m,rfl⟩
 | a::l,m,S,h,hl,hd,hs=>by
  have ha:=hl a List.mem_cons_self
  rw [List.foldlM_cons]
  unfold jF
  rw [if_neg fun hc=>hs a List.mem_cons_self ((h.2 a ha.1 ha.2).1 hc)]
  obtain ⟨d1,d2⟩:=List.nodup_cons.1 hd
  refine te (uJ h ha.1 ha.2) (fun n hn=>hl n (List.mem_cons_of_mem _ hn)) d2 fun n hn=>?_
  rintro (g | rfl)
  ·exact hs n (List.mem_cons_of_mem _ hn) g
  ·exact d1 hn
structure mA (f:ah) (t:Th):Prop where
 op:lO f t=true→kP (tu f t)=false
 term:jk f t=true→jm (fS f t).term=true
 mks : ∀ n∈t.mks,f.params≤n∧n≤8191
 to:jk f t=true→∀ n∈(fS f t).term.to,1≤n∧n<f.blocks.length
theorem C8 {t:Th} {m:BL}:upE (nQ t) t.mks.length m=t.mks.foldlM (jF t) m:=nH (f:=jF t)
theorem any_false {α:Type} {p:α→Bool} {l:List α}:l.any p=false↔∀ n∈l,p n=false:=by
 rw [List.any_eq_false]
 exact forall_congr' fun n=>forall_congr' fun _=>by simp
theorem CJ {f:ah} {n:Int}:ld f n=false↔f.params≤n∧n≤8191:=by simp [ld]
theorem EO {f:ah} {n:Int}:sY f n=false↔1≤n∧n<f.blocks.length:=by simp [sY]
theorem zf {f:ah} {t:Th} {m m':BL} (h:mA f t) (e:t.mks.foldlM (jF t) m = .ok m'):iF f t m = .ok m':=by
 unfold iF
 rw [if_neg,if_neg,if_neg]
 ·rw [C8,e]
  unfold ml
  dsimp only
  rw [if_neg]
  intro c
  obtain ⟨c1,c2⟩:=(Bool.and_eq_true _ _).mp c
  rw [any_false.2 fun n hn=>EO.2 (h.to c1 n hn)] at c2
  cases c2
 ·rw [any_false.2 fun n hn=>CJ.2 (h.mks n hn)];exact Bool.false_ne_true
 ·intro c
  obtain ⟨c1,c2⟩:=(Bool.and_eq_true _ _).mp c
  rw [h.term c1] at c2;cases c2
 ·intro c
  obtain ⟨c1,c2⟩:=(Bool.and_eq_true _ _).mp c
  rw [h.op c1] at c2;cases c2
def gI (l:List Th):List Int:=l.flatMap Th.mks
theorem sA {f:ah} (hp:0≤f.params) : ∀ {l:List Th} {m:BL} {S:Int→Prop},Marks m S→(∀ t∈l,mA f t)→(gI l).Nodup→(∀ n∈gI l,¬S n)→∃ m',l.foldlM (fun m t=>iF f t m) m = .ok m'
 | [],m,S,_,_,_,_=>⟨m,rfl⟩
 | t::l,m,S,h,hg,hd,hs=>by
  have g:=hg t List.mem_cons_self
  obtain ⟨d1,d2,d3⟩:=List.nodup_append.1 (show (t.mks++gI l).Nodup from hd)
  have hr : ∀ n∈t.mks,0≤n∧n<8192:=fun n hn=>by have:=g.mks n hn;omega
  obtain ⟨m1,e⟩:=te (t:=t) h hr d1 fun n hn=>hs n (List.mem_append_left _ hn)
  rw [List.foldlM_cons,zf g e]
  obtain ⟨k1,_,_⟩:=tD h hr e
  exact sA hp k1 (fun x hx=>hg x (List.mem_cons_of_mem _ hx)) d2 fun n hn=>by
   rintro (q | q)
   ·exact hs n (List.mem_append_right _ hn) q
   ·exact d3 n q n hn rfl
def ft (f:ah) (v b p:Int):Prop:=(0≤v∧v<f.params)∨∃ t∈aG f,v∈t.mks∧(t.blk=b∧(t.place<0∨t.place<p)∨t.blk≠b∧¬Re (ofG f.blocks) t.blk b.toNat)
structure DM (ts:List Th) (s:List Th):Prop where
 len:s.length=8192
 is : ∀ n:Int,0≤n→n<8192→(nth s n.toNat=noTh∧∀ t∈ts,n∉t.mks)∨(nth s n.toNat∈ts∧n∈(nth s n.toNat).mks)
theorem yD {t:Th} {ts:List Th} : ∀ {l:List Int} {s:List Th} {d:List Int},(∀ n∈l,n∈t.mks)→(s.length=8192∧∀ n:Int,0≤n→n<8192→(nth s n.toNat=noTh∧(∀ t∈ts,n∉t.mks)∧n∉d)∨(nth s n.toNat∈ts++[t]∧n∈(nth s n.toNat).mks))→
  ((l.foldl (fw t) s).length=8192∧∀ n:Int,0≤n→n<8192→(nth (l.foldl (fw t) s) n.toNat=noTh∧(∀ t∈ts,n∉t.mks)∧n∉d++l)∨(nth (l.foldl (fw t) s) n.toNat∈ts++[t]∧n∈(nth (l.foldl (fw t) s) n.toNat).mks))
 | [],s,d,_,h=>by simpa using h
 | a::l,s,d,hl,h=>by
  rw [List.foldl_cons]
  have:=yD (t:=t) (ts:=ts) (l:=l) (s:=fw t s a) (d:=d++[a]) (fun n hn=>hl n (List.mem_cons_of_mem _ hn)) ⟨by rw [lV];exact h.1,fun n h0 h1=>?_⟩
  ·simpa using this
  ·unfold fw
   split
   ·rw [aJ (by rw [h.1];omega)]
    split
    ·rename_i hc e
     have:n=a:=by omega
     subst this
     exact .inr ⟨List.mem_append_right _ (List.mem_singleton.2 rfl),hl n List.mem_cons_self⟩
    ·rename_i hc e
     rcases h.2 n h0 h1 with ⟨a1,a2,a3⟩ | a1
     ·refine .inl ⟨a1,a2,?_⟩
      rw [List.mem_append,List.mem_singleton]
      rintro (q | rfl)
      ·exact a3 q
      ·exact e rfl
     ·exact .inr a1
   ·rename_i hc
    rcases h.2 n h0 h1 with ⟨a1,a2,a3⟩ | a1
    ·refine .inl ⟨a1,a2,?_⟩
     rw [List.mem_append,List.mem_singleton]
     rintro (q | rfl)
     ·exact a3 q
     ·exact hc ⟨h0,h1⟩
    ·exact .inr a1
theorem xI : ∀ {l ts s:List Th},DM ts s→DM (ts++l) (l.foldl pB s)
 | [],ts,s,h=>by simpa using h
 | t::l,ts,s,h=>by
  rw [List.foldl_cons]
  have:=yD (t:=t) (ts:=ts) (l:=t.mks) (s:=s) (d:=[]) (fun n hn=>hn) ⟨h.len,fun n h0 h1=>(h.is n h0 h1).elim (fun a=>.inl ⟨a.1,a.2,List.not_mem_nil⟩) fun a=>.inr ⟨List.mem_append_left _ a.1,a.2⟩⟩
  have:=xI (l:=l) (ts:=ts++[t]) (s:=pB s t) ⟨this.1,fun n h0 h1=>(this.2 n h0 h1).elim (fun a=>.inl ⟨a.1,fun x hx=>?_⟩) .inr⟩
  ·simpa using this
  ·rcases List.mem_append.1 hx with hx | hx
   ·exact a.2.1 x hx
   ·rw [List.mem_singleton.1 hx];simpa using a.2.2
theorem BJ {f:ah}:DM (aG f) (iu f):=
 xI (l:=aG f) (ts:=[]) (s:=List.replicate 8192 noTh) ⟨List.length_replicate,fun n h0 h1=>.inl ⟨aq (by omega),fun t ht=>by cases ht⟩⟩
theorem mT {f:ah} {t:Th} (h:t∈aG f):0≤t.blk∧t.blk<f.blocks.length:=by
 obtain ⟨b,hb,ht⟩:=bz.1 h
 rcases bP.1 ht with ⟨i,hi,rfl⟩ | ⟨i,hi,rfl⟩ | rfl<;>exact ⟨Int.natCast_nonneg _,Int.ofNat_lt.2 hb⟩
theorem EG {f:ah} {a b:Int} (h0:0≤a) (h1:a<f.blocks.length) (h2:0≤b) (h3:b<f.blocks.length):nth (nth (gK f) a.toNat) b.toNat=true↔Re (ofG f.blocks) a b.toNat:=by
 unfold gK
 rw [df (by omega),Int.toNat_of_nonneg h0]
 exact fX (by omega)
theorem xO : ∀ {l:List Th},(gI l).Nodup→∀ {t t':Th} {v:Int},t∈l→t'∈l→v∈t.mks→v∈t'.mks→t=t'
 | a::l,hd,t,t',v,h,h',hv,hv'=>by
  obtain ⟨d1,d2,d3⟩:=List.nodup_append.1 (show (a.mks++gI l).Nodup from hd)
  rcases List.mem_cons.1 h with e1 | h1
  ·rcases List.mem_cons.1 h' with e2 | h2
   ·rw [e1,e2]
   ·exact absurd rfl (d3 v (by rw [←e1];exact hv) v (List.mem_flatMap.2 ⟨t',h2,hv'⟩))
  ·rcases List.mem_cons.1 h' with e2 | h2
   ·exact absurd rfl (d3 v (by rw [←e2];exact hv') v (List.mem_flatMap.2 ⟨t,h1,hv⟩))
   ·exact xO d2 h1 h2 hv hv'
theorem uC {f:ah} {v b p:Int} (hd:(gI (aG f)).Nodup) (hr : ∀ t∈aG f,∀ n∈t.mks,0≤n∧n≤8191) (hb0:0≤b) (hb1:b<f.blocks.length) (h:ft f v b p):hZ f (iu f) (gK f) v b p=true:=by
 unfold hZ
 rcases h with c | ⟨t,ht,hv,h⟩
 ·rw [if_pos c]
 split
 ·rfl
 have hn:=hr t ht v hv
 have hat:=mT ht
 have e:nth (iu f) v.toNat=t:=by
  rcases BJ.is v hn.1 (by omega) with ⟨_,a⟩ | ⟨a,b⟩
  ·exact absurd hv (a t ht)
  ·exact xO hd a ht b hv
 rw [e,if_neg (by omega)]
 rcases h with ⟨h1,h2⟩ | ⟨h1,h2⟩
 ·rw [if_pos h1];simpa using h2
 ·rw [if_neg h1]
  cases ec:nth (nth (gK f) t.blk.toNat) b.toNat with
  | false=>rfl
  | true=>exact absurd ((EG hat.1 hat.2 hb0 hb1).1 ec) h2
structure jg (f:ah):Prop where
 params:0≤f.params∧f.params≤4
 blocks:0<f.blocks.length∧f.blocks.length≤512
 cnt:jd f f.blocks.length≤4096
 good : ∀ t∈aG f,mA f t
 nodup:(gI (aG f)).Nodup
 way : ∀ b:Nat,b<f.blocks.length→Re (ofG f.blocks) (-1) b
 takes : ∀ t∈aG f,0≤t.place→∀ v∈t.tks,ft f v t.blk t.place
 phi : ∀ b i:Nat,b<f.blocks.length→i<(nth f.blocks b).phis.length→0<b∧(nth (nth f.blocks b).phis i).ins.map InD.frm=aw f b∧∀ p∈(nth (nth f.blocks b).phis i).ins,ft f p.val p.frm (nE f p.frm)
theorem qj {f:ah} {b x:Int}:x∈aw f b↔(0≤x∧x<f.blocks.length)∧b∈(nth f.blocks x.toNat).term.to:=by
 unfold aw
 rw [jJ]
 constructor
 ·rintro ⟨a,ha,hb,rfl⟩
  exact ⟨⟨by omega,by omega⟩,by simpa using hb⟩
 ·rintro ⟨⟨h0,h1⟩,h⟩
  exact ⟨x.toNat,by omega,by simpa using h,by omega⟩
theorem sJ {g:Nat→Unit→Except Tr Unit} : ∀ {n:Nat},(∀ i,i<n→g i () = .ok ())→upE g n () = .ok ()
 | 0,_=>rfl
 | n+1,h=>by
  simp only [upE]
  rw [sJ fun i hi=>h i (by omega)]
  exact h n (by omega)
theorem CU {f:ah} {t:Th}:hC f (iu f) (gK f) t = .ok ()↔
  (0≤t.place∧∀ v∈t.tks,hZ f (iu f) (gK f) v t.blk t.place=true)∨(t.place<0∧pR f t=true∧∀ p∈(oD f t).ins,hZ f (iu f) (gK f) p.val p.frm (nE f p.frm)=true):=by
 unfold hC
 by_cases h0:0≤t.place
 ·rw [if_pos h0]
  have hn:¬t.place<0:=by omega
  simp only [h0,hn,true_and,false_and,or_false]
  cases e:t.tks.any (stT f (iu f) (gK f) t) with
  | true=>
   obtain ⟨v,hv,hs⟩:=List.any_eq_true.1 e
   constructor
   ·intro h;cases h
   ·intro h
    unfold stT at hs
    rw [h v hv] at hs;cases hs
  | false=>
   constructor
   ·intro _ v hv
    have:=any_false.1 e v hv
    simpa [stT] using this
   ·intro _;rfl
 ·rw [if_neg h0]
  have hn:t.place<0:=by omega
  simp only [h0,hn,true_and,false_and,false_or]
  cases e1:pR f t with
  | false=>simp
  | true=>
   rw [if_neg (by simp)]
   cases e:(oD f t).ins.any (stP f (iu f) (gK f)) with
   | true=>
    obtain ⟨v,hv,hs⟩:=List.any_eq_true.1 e
    constructor
    ·intro h;cases h
    ·rintro ⟨_,h⟩
     unfold stP at hs
     rw [h v hv] at hs;cases hs
   | false=>
    constructor
    ·intro _
     refine ⟨rfl,fun v hv=>?_⟩
     have:=any_false.1 e v hv
     simpa [stP] using this
    ·intro _;rfl
theorem Ep {f:ah} {b i:Nat}:oD f (phiT f b i)=nth (nth f.blocks b).phis i:=by
 unfold oD fS phiT
 dsimp only
 rw [Int.toNat_natCast]
 congr 1
 omega
theorem zw {f:ah} (h:jg f):kF f=(0,0,0):=by
 rw [vQ]
 have hp:=h.params
 have hb:=h.blocks
 have hc:=h.cnt
 have hr : ∀ t∈aG f,∀ n∈t.mks,0≤n∧n≤8191:=fun t ht n hn=>by have:=(h.good t ht).mks n hn;omega
 unfold sN
 rw [if_neg (by omega),if_neg (by omega),if_neg (by omega)]
 obtain ⟨m,hm⟩:=sA (f:=f) (by omega) Ac h.good h.nodup fun _ _=>id
 rw [oJ,hm,if_neg (by simp [uL])]
 have hw:wayE f = .ok ():=sJ fun i hi=>if_pos ((fX hi).2 (h.way i hi))
 have hu:yM f = .ok ():=sJ fun i hi=>by
  have ht:=bu hi
  generalize nth (aG f) i=t at ht
  rw [CU]
  have hat:=mT ht
  by_cases h0:0≤t.place
  ·exact .inl ⟨h0,fun v hv=>uC h.nodup hr hat.1 hat.2 (h.takes t ht h0 v hv)⟩
  ·refine .inr ⟨by omega,?_⟩
   obtain ⟨b,hb,hm⟩:=bz.1 ht
   rcases bP.1 hm with ⟨i,hi,rfl⟩ | ⟨i,hi,rfl⟩ | rfl
   ·obtain ⟨k1,k2,k3⟩:=h.phi b i hb hi
    unfold pR
    rw [Ep]
    refine ⟨(Bool.and_eq_true _ _).mpr ⟨decide_eq_true (by show (0:Int)<b;omega),decide_eq_true k2⟩,fun p hp=>?_⟩
    have hm:p.frm∈aw f b:=by rw [←k2];exact List.mem_map_of_mem hp
    have:=(qj.1 hm).1
    exact uC h.nodup hr this.1 this.2 (k3 p hp)
   ·exact absurd (Int.natCast_nonneg _) h0
   ·exact absurd (Int.natCast_nonneg _) h0
 rw [hw,hu]
 rfl
end Go.Proofs.YtbkdlhkoiagbbaaGreat
namespace Go.Proofs.YtbkdlhkoiagbbaaGreat
open Go Go.Lft
def mkB (x:BlkD):List Int:=x.phis.map PhiD.dst++x.ins.flatMap aY
def Sd (m:MS) (b p:Nat) (v:Int):Prop:=
 (0≤v∧v<m.ps)∨v∈(nth m.blocks b).phis.map PhiD.dst∨v∈((nth m.blocks b).ins.take p).flatMap aY∨∃ a,a<m.blocks.length∧a≠b∧v∈mkB (nth m.blocks a)∧¬Re (ofG m.blocks) a b
structure Ext (m m':MS):Prop where
 ps:m'.ps=m.ps
 len:m'.blocks.length=m.blocks.length
 to : ∀ j,(nth m'.blocks j).term.to=(nth m.blocks j).term.to
 phis : ∀ j,∀ v∈(nth m.blocks j).phis.map PhiD.dst,v∈(nth m'.blocks j).phis.map PhiD.dst
 ins : ∀ j,∃ l,(nth m'.blocks j).ins=(nth m.blocks j).ins++l
theorem Cg {a b:List BlkD} (hl:a.length=b.length) (h : ∀ j,(nth a j).term.to=(nth b j).term.to):ofG a=ofG b:=by
 unfold ofG
 rw [hl]
 exact congrFun (congrArg rows (funext fun i=>by rw [h i])) _
section
variable {m m' m2:MS}
theorem Ext.gr (e:Ext m m'):ofG m'.blocks=ofG m.blocks:=Cg e.len e.to
theorem Ext.refl:Ext m m:=⟨rfl,rfl,fun _=>rfl,fun _ _ h=>h,fun _=>⟨[],by simp⟩⟩
theorem Ext.trans (e:Ext m m') (f:Ext m' m2):Ext m m2:=⟨f.ps.trans e.ps,f.len.trans e.len,fun j=>(f.to j).trans (e.to j),fun j v h=>f.phis j v (e.phis j v h),fun j=>by
 obtain ⟨l,h⟩:=e.ins j
 obtain ⟨k,g⟩:=f.ins j
 exact ⟨l++k,by rw [g,h,List.append_assoc]⟩⟩
theorem Ext.mkB (e:Ext m m') {j:Nat} {v:Int} (h:v∈mkB (nth m.blocks j)):v∈mkB (nth m'.blocks j):=by
 obtain ⟨l,g⟩:=e.ins j
 unfold Go.Proofs.YtbkdlhkoiagbbaaGreat.mkB at *
 rw [g,List.flatMap_append]
 rcases List.mem_append.1 h with h | h
 ·exact List.mem_append_left _ (e.phis _ _ h)
 ·exact List.mem_append_right _ (List.mem_append_left _ h)
theorem Ext.le (e:Ext m m') (j:Nat):(nth m.blocks j).ins.length≤(nth m'.blocks j).ins.length:=by
 obtain ⟨l,g⟩:=e.ins j
 rw [g,List.length_append];omega
theorem Sd.ext (e:Ext m m') {b p:Nat} {v:Int} (h:Sd m b p v):Sd m' b p v:=by
 rcases h with h | h | h | ⟨a,h1,h2,h3,h4⟩
 ·exact .inl (by rw [e.ps];exact h)
 ·exact .inr (.inl (e.phis _ _ h))
 ·obtain ⟨l,g⟩:=e.ins b
  refine .inr (.inr (.inl ?_))
  rw [g,List.take_append,List.flatMap_append]
  exact List.mem_append_left _ h
 ·exact .inr (.inr (.inr ⟨a,by rw [e.len];exact h1,h2,e.mkB h3,by rw [e.gr];exact h4⟩))
theorem Sd.le {b p q:Nat} {v:Int} (h:Sd m b p v) (hpq:p≤q):Sd m b q v:=by
 rcases h with h | h | h | h
 ·exact .inl h
 ·exact .inr (.inl h)
 ·refine .inr (.inr (.inl ?_))
  obtain ⟨i,hi,hv⟩:=List.mem_flatMap.1 h
  exact List.mem_flatMap.2 ⟨i,(List.take_sublist_take_left hpq).subset hi,hv⟩
 ·exact .inr (.inr (.inr h))
theorem Sd.end (e:Ext m m') {b:Nat} {v:Int} (h:Sd m b (nth m.blocks b).ins.length v):Sd m' b (nth m'.blocks b).ins.length v:=(h.ext e).le (e.le b)
def NumI (i:InsD):Prop:=(i.op=16→i.dst=0)∧(i.op≠18→i.two=0)
structure Ok (m:MS):Prop where
 p0:0≤m.ps
 pn:m.ps≤m.next
 op : ∀ b,b<m.blocks.length→∀ i∈(nth m.blocks b).ins,kP i=false∧NumI i
 nd : ∀ b,b<m.blocks.length→(mkB (nth m.blocks b)).Nodup
 dj : ∀ a b,a<m.blocks.length→b<m.blocks.length→a≠b→∀ v∈mkB (nth m.blocks a),v∉mkB (nth m.blocks b)
 rg : ∀ b,b<m.blocks.length→∀ v∈mkB (nth m.blocks b),m.ps≤v∧v<m.next
 tk : ∀ b,b<m.blocks.length→∀ i,i<(nth m.blocks b).ins.length→∀ v∈(nth (nth m.blocks b).ins i).args,Sd m b i v
 tm : ∀ b,b<m.blocks.length→∀ v∈(nth m.blocks b).term.args,Sd m b (nth m.blocks b).ins.length v
theorem Ok.at (q:Ok m) {a:Nat} {nx:Int} {l:List Int} (h:m.next≤nx):Ok ⟨a,m.ps,m.blocks,nx,l⟩:=
 ⟨q.p0,Int.le_trans q.pn h,q.op,q.nd,q.dj,fun b hb v hv=>⟨(q.rg b hb v hv).1,Int.lt_of_lt_of_le (q.rg b hb v hv).2 h⟩,q.tk,q.tm⟩
theorem nU {b j:Nat} {i:InsD} (hb:b<m.blocks.length):nth (m.add b i).blocks j=if b=j then { nth m.blocks b with ins:=(nth m.blocks b).ins++[i] } else nth m.blocks j:=by
 show nth (m.blocks.set b _) j=_
 rcases Nat.lt_or_ge j m.blocks.length with hl | hl
 ·rw [aJ hl]
 ·rw [aU (by simpa using hl),if_neg (by omega),aU hl]
theorem wY {b:Nat} {i:InsD} (hb:b<m.blocks.length):Ext m (m.add b i):=by
 refine ⟨rfl,jE,fun j=>?_,fun j=>?_,fun j=>?_⟩<;>rw [nU hb]<;>split
 ·rename_i e;rw [e]
 ·rfl
 ·rename_i e;rw [e];exact fun _ h=>h
 ·exact fun _ h=>h
 ·rename_i e;rw [e];exact ⟨[i],rfl⟩
 ·exact ⟨[],by simp⟩
theorem se {x:BlkD} {i:InsD}:mkB { x with ins:=x.ins++[i] }=mkB x++aY i:=by
 unfold mkB
 simp
theorem Ok.add (q:Ok m) {b a:Nat} {nx:Int} {i:InsD} {l:List Int} (hb:b<m.blocks.length) (hn:m.next≤nx) (hf : ∀ v∈aY i,m.next≤v∧v<nx) (hd:(aY i).Nodup) (ho:kP i=false∧NumI i) (ha : ∀ v∈i.args,Sd m b (nth m.blocks b).ins.length v) :
  Ok (MS.add ⟨a,m.ps,m.blocks,nx,l⟩ b i):=by
 have q1:=q.pn
 have q:=q.at (a:=a) (l:=l) hn
 have ha : ∀ v∈i.args,Sd ⟨a,m.ps,m.blocks,nx,l⟩ b (nth m.blocks b).ins.length v:=ha
 have q0 : ∀ b,b<m.blocks.length→∀ v∈mkB (nth m.blocks b),v<m.next:=fun b hb v hv=>(‹Ok m›.rg b hb v hv).2
 have hl:((⟨a,m.ps,m.blocks,nx,l⟩:MS).add b i).blocks.length=m.blocks.length:=jE
 have e:=wY (m:=⟨a,m.ps,m.blocks,nx,l⟩) (i:=i) hb
 have hnth : ∀ j,nth ((⟨a,m.ps,m.blocks,nx,l⟩:MS).add b i).blocks j=if b=j then { nth m.blocks b with ins:=(nth m.blocks b).ins++[i] } else nth m.blocks j:=fun j=>nU hb
 refine ⟨q.p0,q.pn,fun c hc=>?_,fun c hc=>?_,fun c d hc hd' hcd=>?_,fun c hc=>?_,fun c hc=>?_,fun c hc=>?_⟩<;>rw [hl] at hc
 ·rw [hnth];split
  ·intro x hx
   rcases List.mem_append.1 hx with hx | hx
   ·exact q.op b hb x hx
   ·rw [List.mem_singleton.1 hx];exact ho
  ·exact q.op c hc
 ·rw [hnth];split
  ·rw [se]
   refine List.nodup_append.2 ⟨q.nd b hb,hd,fun x hx y hy=>?_⟩
   have:=q0 b hb x hx
   have:=(hf y hy).1
   omega
  ·exact q.nd c hc
 ·rw [hl] at hd'
  rw [hnth,hnth]
  intro v hv hv'
  split at hv
  ·rename_i e1;subst e1
   rw [if_neg hcd] at hv'
   rw [se] at hv
   rcases List.mem_append.1 hv with hv | hv
   ·exact q.dj _ _ hc hd' hcd v hv hv'
   ·have:=q0 d hd' v hv';have:=(hf v hv).1;omega
  ·split at hv'
   ·rename_i e1;subst e1
    rw [se] at hv'
    rcases List.mem_append.1 hv' with hv' | hv'
    ·exact q.dj _ _ hc hd' hcd v hv hv'
    ·have:=q0 c hc v hv;have:=(hf v hv').1;omega
   ·exact q.dj _ _ hc hd' hcd v hv hv'
 ·rw [hnth];split
  ·intro v hv
   rw [se] at hv
   rcases List.mem_append.1 hv with hv | hv
   ·exact q.rg b hb v hv
   ·have h1:=hf v hv;have h2:m.ps≤m.next:=q1;exact ⟨by show m.ps≤v;omega,h1.2⟩
  ·exact q.rg c hc
 ·intro k hk v hv
  refine Sd.ext e ?_
  rw [hnth] at hk hv
  split at hk
  ·rename_i e1;subst e1
   rw [if_pos rfl] at hv
   rw [show ({ nth m.blocks b with ins:=(nth m.blocks b).ins++[i] }:BlkD).ins=(nth m.blocks b).ins++[i] from rfl] at hk hv
   rw [List.length_append,List.length_singleton] at hk
   rcases Nat.lt_or_ge k (nth m.blocks b).ins.length with h | h
   ·rw [ak (by simp;omega),List.getElem_append_left h,←ak h] at hv
    exact q.tk b hb k h v hv
   ·have:k=(nth m.blocks b).ins.length:=by omega
    subst this
    rw [ak (by simp),List.getElem_append_right (Nat.le_refl _)] at hv
    simp at hv
    exact ha v hv
  ·rename_i e1
   rw [if_neg e1] at hv
   exact q.tk c hc k hk v hv
 ·intro v hv
  have ht:(nth ((⟨a,m.ps,m.blocks,nx,l⟩:MS).add b i).blocks c).term=(nth m.blocks c).term:=by
   rw [hnth];split
   ·rename_i e1;rw [e1]
   ·rfl
  rw [ht] at hv
  exact (q.tm c hc v hv).end e
theorem DL {b a:Nat} {nx:Int} {i:InsD} {l:List Int} (hb:b<m.blocks.length) {v:Int} (hv:v∈aY i):Sd (MS.add ⟨a,m.ps,m.blocks,nx,l⟩ b i) b (nth (MS.add ⟨a,m.ps,m.blocks,nx,l⟩ b i).blocks b).ins.length v:=by
 rw [nU (m:=⟨a,m.ps,m.blocks,nx,l⟩) hb,if_pos rfl]
 refine .inr (.inr (.inl ?_))
 rw [nU (m:=⟨a,m.ps,m.blocks,nx,l⟩) hb,if_pos rfl]
 show v∈((((nth m.blocks b).ins++[i]).take ((nth m.blocks b).ins++[i]).length).flatMap aY)
 rw [List.take_length,List.flatMap_append]
 exact List.mem_append_right _ (by simpa using hv)
structure In (b:Nat) (m:MS):Prop where
 ok:Ok m
 lt:b<m.blocks.length
 live : ∀ v∈m.live,Sd m b (nth m.blocks b).ins.length v
structure Wk (b k:Nat) (m m':MS):Prop where
 inn:In b m'
 live : ∀ v∈m.live,v∈m'.live
 n0:m.next≤m'.next
 nx:m'.next≤m.next+k
 ins:(nth m'.blocks b).ins.length≤(nth m.blocks b).ins.length+k
 ext:Ext m m'
variable {b c k l:Nat} {s:List Int}
theorem Wk.refl (q:In b m):Wk b 0 m m:=⟨q,fun _ h=>h,Int.le_refl _,by omega,Nat.le_refl _,.refl⟩
theorem Wk.trans (g:Wk b k m m') (h:Wk b l m' m2):Wk b (k+l) m m2:=
 ⟨h.inn,fun v hv=>h.live v (g.live v hv),Int.le_trans g.n0 h.n0,by have:=g.nx;have:=h.nx;omega,by have:=g.ins;have:=h.ins;omega,g.ext.trans h.ext⟩
theorem Wk.mono (g:Wk b k m m') (h:k≤l):Wk b l m m':=⟨g.inn,g.live,g.n0,by have:=g.nx;omega,by have:=g.ins;omega,g.ext⟩
theorem In.took (q:In b m):In b m.took:=⟨q.ok.at (Int.le_refl _),q.lt,q.live⟩
theorem Ext.same (e:Ext m m') {m2:MS} (h1:m2.ps=m'.ps) (h2:m2.blocks=m'.blocks):Ext m m2:=by
 obtain ⟨a,b,c,d,f⟩:=e
 exact ⟨by rw [h1];exact a,by rw [h2];exact b,by rw [h2];exact c,by rw [h2];exact d,by rw [h2];exact f⟩
theorem Ext.frm {m2:MS} (e:Ext m2 m') (h1:m2.ps=m.ps) (h2:m2.blocks=m.blocks):Ext m m':=by
 obtain ⟨a,b,c,d,f⟩:=e
 rw [h2] at b c d f
 exact ⟨by rw [←h1];exact a,b,c,d,f⟩
theorem Wk.took (g:Wk b k m m'):Wk b k m m'.took:=⟨g.inn.took,g.live,g.n0,g.nx,g.ins,g.ext.same rfl rfl⟩
theorem In.add (q:In b m) {a:Nat} {j:Nat} {i:InsD} (hj:j≤2) (hf : ∀ v∈aY i,m.next≤v∧v<m.next+j) (hd:(aY i).Nodup) (ho:kP i=false∧NumI i) (ha : ∀ v∈i.args,v∈m.live) :
  Wk b (max 1 j) m (MS.add ⟨a,m.ps,m.blocks,m.next+j,m.live⟩ b i)∧∀ v∈aY i,v∈(MS.add ⟨a,m.ps,m.blocks,m.next+j,m.live⟩ b i).live:=by
 have e:Ext m (MS.add ⟨a,m.ps,m.blocks,m.next+j,m.live⟩ b i):=(wY (m:=⟨a,m.ps,m.blocks,m.next+j,m.live⟩) (i:=i) q.lt).frm rfl rfl
 refine ⟨⟨⟨q.ok.add q.lt (by omega) hf hd ho fun v hv=>q.live v (ha v hv),by rw [e.len];exact q.lt,fun v hv=>?_⟩,fun v hv=>List.mem_append_left _ hv,by show m.next≤m.next+j;omega,by show m.next+j≤_;omega,?_,e⟩,fun v hv=>List.mem_append_right _ hv⟩
 ·rcases List.mem_append.1 (show v∈m.live++aY i from hv) with h | h
  ·exact (q.live v h).end e
  ·exact DL q.lt h
 ·rw [nU (m:=⟨a,m.ps,m.blocks,m.next+j,m.live⟩) q.lt,if_pos rfl]
  show ((nth m.blocks b).ins++[i]).length≤_
  rw [List.length_append,List.length_singleton];omega
theorem In.one (q:In b m) {op:Int} {a:Nat} {x:List Int} {im:I32} (h16:op≠16) (h18:op≠18) (ho:kP ⟨op,m.next,0,x,im⟩=false) (ha : ∀ v∈x,v∈m.live) :
  Wk b 1 m (MS.add ⟨a,m.ps,m.blocks,m.next+1,m.live⟩ b ⟨op,m.next,0,x,im⟩)∧m.next∈(MS.add ⟨a,m.ps,m.blocks,m.next+1,m.live⟩ b ⟨op,m.next,0,x,im⟩).live:=by
 have e:aY ⟨op,m.next,0,x,im⟩=[m.next]:=by unfold aY;rw [if_neg h16,if_neg h18]
 have:=q.add (a:=a) (j:=1) (i:=⟨op,m.next,0,x,im⟩) (by omega) (by rw [e];intro v hv;rw [List.mem_singleton.1 hv];omega) (by rw [e];simp) ⟨ho,fun h=>absurd h h16,fun _=>rfl⟩ ha
 exact ⟨this.1,this.2 _ (by rw [e];exact List.mem_singleton.2 rfl)⟩
theorem In.constant (q:In b m) {n:Int}:Wk b 1 m (m.constant b n)∧m.next∈(m.constant b n).live:=
 q.one (a:=m.at_) (op:=1) (by decide) (by decide) rfl fun v hv=>by cases hv
theorem In.two (q:In b m) {op x y:Int} (h1:2≤op) (h2:op≤14) (hx:x∈m.live) (hy:y∈m.live):Wk b 1 m (m.two b op x y)∧m.next∈(m.two b op x y).live:=by
 refine q.one (a:=m.at_) (op:=op) (by omega) (by omega) ?_ fun v hv=>?_
 ·have e1:¬op<1:=by omega
  have e2:¬18<op:=by omega
  have e3:op≠1:=by omega
  have e4:op≠15:=by omega
  have e5:op≠17:=by omega
  simp [kP,pO,e1,e2,e3,e4,e5]
 ·rcases List.mem_cons.1 hv with rfl | hv
  ·exact hx
  ·rw [List.mem_singleton.1 hv];exact hy
theorem In.ey (q:In b m):Wk b 1 m (az s m b).2∧(az s m b).1∈(az s m b).2.live:=by
 unfold az
 split
 ·obtain ⟨h1,h2⟩:=q.took.took.constant (n:=iz s m)
  exact ⟨(Wk.refl q).took.took.trans h1,h2⟩
 ·split
  ·obtain ⟨h1,h2⟩:=q.took.took.took.took.took.constant (n:=iz s m.took.took.took)
   exact ⟨(Wk.refl q).took.took.took.took.took.trans h1,h2⟩
  ·rename_i h _
   refine ⟨(Wk.refl q).took.took.took.mono (by omega),?_⟩
   show qY s m∈m.live
   have:=bf (s:=s) (at_:=m.at_) (n:=(m.live.length:Int)) (by omega)
   unfold qY
   refine bu ?_
   split<;>omega
theorem In.bin (q:In b m) {op:Int} (h1:2≤op) (h2:op≤14):Wk b 4 m (binS s m b op):=by
 obtain ⟨w1,e1⟩:=q.ey (s:=s)
 obtain ⟨w2,e2⟩:=w1.inn.ey (s:=s)
 unfold binS
 simp only
 split
 ·obtain ⟨w3,e3⟩:=w2.inn.took.took.constant (n:=IntKind.i32.wrap (IntKind.i64.wrap (aA s ((az s (az s m b).2 b).2.at_+1) 40-8)))
  obtain ⟨w4,_⟩:=w3.inn.two h1 h2 (w3.live _ (w2.live _ e1)) e3
  exact ((w1.trans w2).took.took.trans w3).trans w4
 ·obtain ⟨w4,_⟩:=w2.inn.took.two h1 h2 (w2.live _ e1) e2
  exact ((w1.trans w2).took.trans w4).mono (by omega)
theorem In.ltu (q:In b m):Wk b 3 m (ltuS s m b):=by
 obtain ⟨w1,e1⟩:=q.ey (s:=s)
 obtain ⟨w2,e2⟩:=w1.inn.ey (s:=s)
 obtain ⟨w3,_⟩:=w2.inn.two (op:=13) (by decide) (by decide) (w2.live _ e1) e2
 exact (w1.trans w2).trans w3
theorem In.div (q:In b m):Wk b 4 m (divS s m b):=by
 obtain ⟨w1,e1⟩:=q.ey (s:=s)
 obtain ⟨w2,e2⟩:=w1.inn.took.constant (n:=IntKind.i32.wrap (aA s (az s m b).2.at_ 12))
 unfold divS
 simp only
 split
 ·obtain ⟨w3,e3⟩:=w2.inn.took.took.constant (n:=IntKind.i32.wrap (1+IntKind.i32.wrap (aA s (((az s m b).2.took.constant b (IntKind.i32.wrap (aA s (az s m b).2.at_ 12))).at_+1) 12)))
  obtain ⟨w4,_⟩:=w3.inn.two (op:=14) (by decide) (by decide) (w3.live _ (w2.live _ e1)) e3
  exact (((w1.took.trans w2).took.took.trans w3).trans w4)
 ·obtain ⟨w4,_⟩:=w2.inn.took.two (op:=14) (by decide) (by decide) (w2.live _ e1) e2
  exact ((w1.took.trans w2).took.trans w4).mono (by omega)
theorem In.mulw (q:In b m):Wk b 4 m (p7 s m b):=by
 obtain ⟨w1,e1⟩:=q.ey (s:=s)
 obtain ⟨w2,e2⟩:=w1.inn.ey (s:=s)
 generalize hr:az s (az s m b).2 b=r at w2 e2
 have e:aY ⟨18,r.2.next,r.2.next+1,[(az s m b).1,r.1],⟨0⟩⟩=[r.2.next,r.2.next+1]:=rfl
 have:=w2.inn.add (a:=r.2.at_) (j:=2) (i:=⟨18,r.2.next,r.2.next+1,[(az s m b).1,r.1],⟨0⟩⟩) (by omega) (by
  rw [e];intro v hv
  rcases List.mem_cons.1 hv with rfl | hv
  ·omega
  ·rw [List.mem_singleton.1 hv];omega) (by rw [e];simp;omega) ⟨rfl,fun h=>absurd h (show (18:Int)≠16 by decide),fun h=>absurd rfl h⟩ (fun v hv=>by
  rcases List.mem_cons.1 hv with rfl | hv
  ·exact w2.live _ e1
  ·rw [List.mem_singleton.1 hv];exact e2)
 have h:=(w1.trans w2).trans this.1
 have e3:p7 s m b=MS.add ⟨r.2.at_,r.2.ps,r.2.blocks,r.2.next+2,r.2.live⟩ b ⟨18,r.2.next,r.2.next+1,[(az s m b).1,r.1],⟨0⟩⟩:=by
  unfold p7
  simp only [hr]
  unfold MS.add MS.aH
  simp only [MS.mk.injEq,and_true,true_and]
  omega
 rw [e3]
 exact h.mono (by omega)
theorem In.args (q:In b m) : ∀ n,Wk b n m (up (eU s b) n ([],m)).2∧(up (eU s b) n ([],m)).1.length=n∧∀ v∈(up (eU s b) n ([],m)).1,v∈(up (eU s b) n ([],m)).2.live
 | 0=>⟨.refl q,rfl,fun v hv=>by cases hv⟩
 | n+1=>by
  obtain ⟨h1,h2,h3⟩:=In.args q n
  obtain ⟨w,e⟩:=h1.inn.ey (s:=s)
  refine ⟨h1.trans w,?_,fun v hv=>?_⟩
  ·show (_++[_]).length=_
   rw [List.length_append,h2];rfl
  ·rcases List.mem_append.1 (show v∈(up (eU s b) n ([],m)).1++[(az s (up (eU s b) n ([],m)).2 b).1] from hv) with h | h
   ·exact w.live _ (h3 v h)
   ·rw [List.mem_singleton.1 h];exact e
theorem In.call (q:In b m):Wk b 5 m (kY s m b):=by
 unfold kY
 simp only
 have ht:=bf (s:=s) (at_:=m.at_) (n:=5) (by decide)
 obtain ⟨h1,h2,h3⟩:=q.took.args (s:=s) (aA s m.at_ 5).toNat
 generalize up (eU s b) (aA s m.at_ 5).toNat ([],m.took)=r at h1 h2 h3
 have hl:((r.1.length:Nat):Int)≤4:=by omega
 have w:=h1.inn.one (a:=r.2.at_+1) (op:=17) (x:=r.1) (im:=⟨IntKind.i32.wrap (aA s r.2.at_ 5)⟩) (by decide) (by decide) (by simp [kP,pO];omega) h3
 have h:Wk b 0 m m.took:=(Wk.refl q).took
 exact ((h.trans h1).trans w.1).mono (by omega)
theorem In.addr (q:In b m):Wk b 5 m (ir s m b).2∧(ir s m b).1∈(ir s m b).2.live:=by
 obtain ⟨w1,e1⟩:=q.took.constant (n:=IntKind.i32.wrap (aA s m.at_ 9))
 have h:Wk b 0 m m.took:=(Wk.refl q).took
 have w1:=h.trans w1
 have e1:m.next∈_:=e1
 unfold ir
 simp only
 split
 ·obtain ⟨w2,e2⟩:=w1.inn.took.ey (s:=s)
  obtain ⟨w3,e3⟩:=w2.inn.constant (n:=7)
  obtain ⟨w4,e4⟩:=w3.inn.two (op:=5) (by decide) (by decide) (w3.live _ e2) e3
  obtain ⟨w5,e5⟩:=w4.inn.two (op:=2) (by decide) (by decide) (w4.live _ (w3.live _ (w2.live _ e1))) e4
  exact ⟨(((w1.took.trans w2).trans w3).trans w4).trans w5,e5⟩
 ·exact ⟨w1.took.mono (by omega),e1⟩
theorem In.off (q:In b m):Wk b 0 m (offS s m).2∧(offS s m).2.live=m.live:=by
 unfold offS
 split
 ·exact ⟨(Wk.refl q).took.took.took.took,rfl⟩
 ·exact ⟨(Wk.refl q).took.took,rfl⟩
theorem In.memory (q:In b m) {st:Bool}:Wk b 7 m (gG s m b st):=by
 obtain ⟨w1,e1⟩:=q.addr (s:=s)
 obtain ⟨w2,_⟩:=w1.inn.off (s:=s)
 unfold gG
 simp only
 split
 ·obtain ⟨w3,e3⟩:=w2.inn.ey (s:=s)
  generalize hr:az s (offS s (ir s m b).2).2 b=r at w3 e3
  have:=w3.inn.add (a:=r.2.at_) (j:=0) (i:=⟨16,0,0,[(ir s m b).1,r.1],⟨(offS s (ir s m b).2).1⟩⟩) (by omega) (fun v hv=>by cases hv) List.nodup_nil ⟨rfl,fun _=>rfl,fun _=>rfl⟩ (fun v hv=>by
   rcases List.mem_cons.1 hv with rfl | hv
   ·exact w3.live _ (w2.live _ e1)
   ·rw [List.mem_singleton.1 hv];exact e3)
  have e:(⟨r.2.at_,r.2.ps,r.2.blocks,r.2.next+((0:Nat):Int),r.2.live⟩:MS)=r.2:=by
   cases r.2;simp
  rw [e] at this
  exact ((w1.trans w2).trans w3).trans this.1
 ·have w:=w2.inn.one (a:=(offS s (ir s m b).2).2.at_) (op:=15) (x:=[(ir s m b).1]) (im:=⟨(offS s (ir s m b).2).1⟩) (by decide) (by decide) rfl (fun v hv=>by rw [List.mem_singleton.1 hv];exact w2.live _ e1)
  exact ((w1.trans w2).trans w.1).mono (by omega)
theorem In.fP (q:In b m):Wk b 7 m (aE s b m):=by
 have h:Wk b 0 m m.took:=(Wk.refl q).took
 have ht:=bf (s:=s) (at_:=m.at_) (n:=20) (by decide)
 unfold aE
 simp only
 split
 ·have h2 : ∀ x∈opsL,2≤x∧x≤14:=by decide
  have hl:opsL.length=12:=rfl
  have:=h2 _ (bu (l:=opsL) (i:=(aA s m.at_ 20).toNat) (by omega))
  exact (h.trans (q.took.bin this.1 this.2)).mono (by omega)
 split
 ·exact (h.trans q.took.ltu).mono (by omega)
 split
 ·exact (h.trans q.took.div).mono (by omega)
 split
 ·exact (h.trans q.took.memory).mono (by omega)
 split
 ·exact (h.trans q.took.call).mono (by omega)
 split
 ·exact (h.trans q.took.mulw).mono (by omega)
 ·exact ((Wk.refl q).took.took.took.trans (q.took.took.took.constant (n:=iz s m.took)).1).mono (by omega)
theorem In.dW (q:In b m) : ∀ n,Wk b (7*n) m (up (fun _=>aE s b) n m)
 | 0=>.refl q
 | n+1=>by
  have h:=In.dW q n
  exact (h.trans h.inn.fP).mono (by omega)
theorem In.term (q:In b m) {to:List Int} (hl:to.length≤65):Wk b 3 m (ek s to b m).2∧jm (ek s to b m).1=true∧(ek s to b m).1.to=to∧∀ v∈(ek s to b m).1.args,v∈(ek s to b m).2.live:=by
 have h:Wk b 0 m m.took:=(Wk.refl q).took
 unfold ek
 simp only
 split
 ·rename_i h0
  have hto:to=[]:=List.length_eq_zero_iff.1 h0
  split
  ·exact ⟨(Wk.refl q).took.took.mono (by omega),rfl,hto.symm,fun v hv=>by cases hv⟩
  split
  ·obtain ⟨w,e⟩:=q.took.ey (s:=s)
   exact ⟨(h.trans w).mono (by omega),rfl,hto.symm,fun v hv=>by rw [List.mem_singleton.1 hv];exact e⟩
  ·exact ⟨h.mono (by omega),rfl,hto.symm,fun v hv=>by cases hv⟩
 split
 ·rename_i h1
  exact ⟨(Wk.refl q).mono (by omega),by simp [jm,h1],rfl,fun v hv=>by cases hv⟩
 split
 ·rename_i h2
  obtain ⟨w1,e1⟩:=q.ey (s:=s)
  split
  ·obtain ⟨w2,e2⟩:=w1.inn.took.ey (s:=s)
   generalize az s (az s m b).2.took b=r at w2 e2
   have hr:=bf (s:=s) (at_:=r.2.at_) (n:=3) (by decide)
   have hop : ∀ x∈cmpL,11≤x∧x≤13:=by decide
   have hcl:cmpL.length=3:=rfl
   have ho:=hop _ (bu (l:=cmpL) (i:=(aA s r.2.at_ 3).toNat) (by omega))
   generalize nth cmpL (aA s r.2.at_ 3).toNat=op at ho
   have w3:=w2.inn.one (a:=r.2.at_+1) (op:=op) (x:=[(az s m b).1,r.1]) (im:=⟨0⟩) (by omega) (by omega) (by
    have e1:¬op<1:=by omega
    have e2:¬18<op:=by omega
    have e3:op≠1:=by omega
    have e4:op≠15:=by omega
    have e5:op≠17:=by omega
    simp [kP,pO,e1,e2,e3,e4,e5]) (fun v hv=>by
    rcases List.mem_cons.1 hv with rfl | hv
    ·exact w2.live _ e1
    ·rw [List.mem_singleton.1 hv];exact e2)
   exact ⟨(w1.took.trans w2).trans w3.1,by simp [jm,h2],rfl,fun v hv=>by rw [List.mem_singleton.1 hv];exact w3.2⟩
  ·exact ⟨w1.took.mono (by omega),by simp [jm,h2],rfl,fun v hv=>by rw [List.mem_singleton.1 hv];exact e1⟩
 ·rename_i h0 h1 h2
  obtain ⟨w1,e1⟩:=q.ey (s:=s)
  obtain ⟨w2,e2⟩:=w1.inn.constant (n:=7)
  obtain ⟨w3,e3⟩:=w2.inn.two (op:=5) (by decide) (by decide) (w2.live _ e1) e2
  exact ⟨(w1.trans w2).trans w3,by simp [jm];omega,rfl,fun v hv=>by rw [List.mem_singleton.1 hv];exact e3⟩
end
end Go.Proofs.YtbkdlhkoiagbbaaGreat
namespace Go.Proofs.YtbkdlhkoiagbbaaGreat
open Go Go.Lft
structure Tt (n k c:Nat) (x:TgS):Prop where
 len:x.1.length=n
 row : ∀ i,(nth x.1 i).length≤c
 rng : ∀ i,∀ v∈nth x.1 i,1≤v∧v<n
 way : ∀ b:Nat,1≤b→b≤k→∃ a,a<b∧(b:Int)∈nth x.1 a
section
variable {s:List Int} {n k c:Nat} {x:TgS}
theorem n7 {p b:Nat} {m:MS} (hp:p<x.1.length) (i:Nat):nth (jU x p b m).1 i=if p=i then nth x.1 p++[(b:Int)] else nth x.1 i:=by
 show nth (x.1.set p _) i=_
 rcases Nat.lt_or_ge i x.1.length with hl | hl
 ·rw [aJ hl]
 ·rw [aU (by simpa using hl),if_neg (by omega),aU hl]
theorem Tt.put (h:Tt n k c x) {p b:Nat} {m:MS} (hp:p<n) (h1:1≤b) (hb:b<n):Tt n k (c+1) (jU x p b m)∧(b:Int)∈nth (jU x p b m).1 p:=by
 have hp':p<x.1.length:=by rw [h.len];exact hp
 refine ⟨⟨qu.trans h.len,fun i=>?_,fun i v hv=>?_,fun d h1 h2=>?_⟩,by rw [n7 hp',if_pos rfl];exact List.mem_append_right _ (List.mem_singleton.2 rfl)⟩
 ·rw [n7 hp'];split
  ·rw [List.length_append,List.length_singleton];have:=h.row p;omega
  ·have:=h.row i;omega
 ·rw [n7 hp'] at hv;split at hv
  ·rcases List.mem_append.1 hv with hv | hv
   ·exact h.rng _ v hv
   ·rw [List.mem_singleton.1 hv];omega
  ·exact h.rng _ v hv
 ·obtain ⟨a,h3,h4⟩:=h.way d h1 h2
  refine ⟨a,h3,?_⟩
  rw [n7 hp'];split
  ·rename_i e;subst e;exact List.mem_append_left _ h4
  ·exact h4
theorem Tt.tgA (h:Tt n k c x) (hk:k+1<n):Tt n (k+1) (c+1) (tgA s k x):=by
 have key : ∀ {p:Nat} {m:MS},p≤k→Tt n (k+1) (c+1) (jU x p (k+1) m):=fun {p m} hp=>by
  obtain ⟨h1,h2⟩:=h.put (p:=p) (b:=k+1) (m:=m) (by omega) (by omega) hk
  refine ⟨h1.len,h1.row,h1.rng,fun b hb1 hb2=>?_⟩
  rcases Nat.lt_or_ge k b with q | q
  ·have:b=k+1:=by omega
   subst this;exact ⟨p,by omega,h2⟩
  ·exact h1.way b hb1 q
 unfold Go.Proofs.YtbkdlhkoiagbbaaGreat.tgA
 split
 ·have:=bf (s:=s) (at_:=x.2.at_+1) (n:=((k+1:Nat):Int)) (by omega)
  exact key (by omega)
 ·exact key (Nat.le_refl _)
theorem Tt.tgI (h:Tt n k c x) {b:Nat} (hb:b<n) (hn:1<n):Tt n k (c+1) (tgI s n b x):=by
 have:=bf (s:=s) (at_:=x.2.at_) (n:=(n:Int)-1) (by omega)
 unfold Go.Proofs.YtbkdlhkoiagbbaaGreat.tgI
 simp only
 repeat' split
 ·exact (h.put (by omega) (by omega) (by omega)).1
 ·exact (h.put (by omega) (by omega) (by omega)).1
 ·exact (h.put (by omega) (by omega) (by omega)).1
theorem Tt.upI (h:Tt n k c x) {b:Nat} (hb:b<n) (hn:1<n) : ∀ j,Tt n k (c+j) (up (fun _=>Go.Proofs.YtbkdlhkoiagbbaaGreat.tgI s n b) j x)
 | 0=>h
 | j+1=>(Tt.upI h hb hn j).tgI hb hn
theorem Tt.mono {d:Nat} (h:Tt n k c x) (hd:c≤d):Tt n k d x:=⟨h.len,fun i=>Nat.le_trans (h.row i) hd,h.rng,h.way⟩
theorem Tt.tgB (h:Tt n k c x) {b:Nat} (hb:b<n):Tt n k (c+2) (tgB s n b x):=by
 unfold Go.Proofs.YtbkdlhkoiagbbaaGreat.tgB
 have h0:Tt n k c (x.1,x.2.took):=⟨h.len,h.row,h.rng,h.way⟩
 by_cases hn:1<n
 ·rw [if_pos hn]
  have:=bf (s:=s) (at_:=x.2.at_) (n:=6) (by decide)
  exact (h0.upI hb hn _).mono (by omega)
 ·rw [if_neg hn]
  exact h0.mono (by omega)
theorem Tt.upB (h:Tt n k c x) : ∀ j,j≤n→Tt n k (c+2*j) (up (Go.Proofs.YtbkdlhkoiagbbaaGreat.tgB s n) j x)
 | 0,_=>h
 | j+1,hj=>(Tt.upB h j (by omega)).tgB (by omega)
theorem Tt.upA (h:Tt n 0 c x) : ∀ j,j<n→Tt n j (c+j) (up (Go.Proofs.YtbkdlhkoiagbbaaGreat.tgA s) j x)
 | 0,_=>h
 | j+1,hj=>(Tt.upA h j (by omega)).tgA hj
theorem wP:Tt (aF s) (aF s-1) 26 (eu s):=by
 obtain ⟨h1,h2⟩:=eh (s:=s)
 have e : ∀ i,nth (List.replicate (aF s) ([]:List Int)) i=[]:=fun i=>by
  rcases Nat.lt_or_ge i (aF s) with hi | hi
  ·rw [aq hi]
  ·rw [aU (by simpa using hi)];rfl
 have t0:Tt (aF s) 0 0 (List.replicate (aF s) ([]:List Int),rJ s):=⟨by simp,fun i=>by rw [e];exact Nat.le_refl _,fun i v hv=>by { rw [e] at hv;cases hv },fun b h1 h2=>by omega⟩
 exact ((t0.upA (s:=s) (aF s-1) (by omega)).upB (s:=s) (aF s) (Nat.le_refl _)).mono (by omega)
end
structure Gt (n:Nat) (to:List (List Int)) (m:MS):Prop where
 len:m.blocks.length=n
 to : ∀ j,j<n→(nth m.blocks j).term.to=nth to j
section
variable {s:List Int} {n:Nat} {to:List (List Int)} {m m':MS} {b:Nat}
theorem Gt.ext (g:Gt n to m) (e:Ext m m'):Gt n to m':=⟨e.len.trans g.len,fun j hj=>(e.to j).trans (g.to j hj)⟩
theorem Bi {l:List Int} {j:Nat} (hb:b<m.blocks.length):nth (m.fR b l).blocks j=if b=j then { nth m.blocks b with term:={ (nth m.blocks b).term with to:=l } } else nth m.blocks j:=by
 show nth (m.blocks.set b _) j=_
 rcases Nat.lt_or_ge j m.blocks.length with hl | hl
 ·rw [aJ hl]
 ·rw [aU (by simpa using hl),if_neg (by omega),aU hl]
theorem yn {m0:MS} (hl:m0.blocks=List.replicate n mZ) : ∀ k,k≤n→(up (fun b m=>MS.fR m b (nth to b)) k m0).blocks.length=n∧(∀ j,j<n→nth (up (fun b m=>MS.fR m b (nth to b)) k m0).blocks j=⟨[],[],⟨0,[],if j<k then nth to j else [],⟨0⟩⟩⟩)∧(up (fun b m=>MS.fR m b (nth to b)) k m0).ps=m0.ps∧(up (fun b m=>MS.fR m b (nth to b)) k m0).next=m0.next
 | 0,_=>⟨by show m0.blocks.length=n;rw [hl,List.length_replicate],fun j hj=>by show nth m0.blocks j=_;rw [hl,aq hj,if_neg (by omega)];rfl,rfl,rfl⟩
 | k+1,hk=>by
  obtain ⟨h1,h2,h3,h4⟩:=yn hl k (by omega)
  refine ⟨?_,fun j hj=>?_,h3,h4⟩
  ·show (List.set _ _ _).length=n
   rw [List.length_set];exact h1
  ·show nth (MS.fR _ k (nth to k)).blocks j=_
   rw [Bi (by rw [h1];omega),h2 k (by omega),h2 j hj]
   by_cases e:k=j
   ·subst e;rw [if_pos rfl,if_pos (Nat.lt_succ_self _)]
   ·rw [if_neg e]
    by_cases h:j<k
    ·rw [if_pos h,if_pos (by omega)]
    ·rw [if_neg h,if_neg (by omega)]
theorem yf:(jW s).blocks.length=aF s∧(∀ j,j<aF s→nth (jW s).blocks j=⟨[],[],⟨0,[],nth (eu s).1 j,⟨0⟩⟩⟩)∧(jW s).ps=aA s 0 5∧(jW s).next=aA s 0 5:=by
 have e:=oX (s:=s)
 obtain ⟨h1,h2,h3,h4⟩:=yn (n:=aF s) (to:=(eu s).1) (m0:={ (eu s).2 with blocks:=List.replicate (aF s) mZ }) rfl (aF s) (Nat.le_refl _)
 exact ⟨h1,fun j hj=>by have:=h2 j hj;rw [if_pos hj] at this;exact this,h3.trans e.1,h4.trans e.2.2.1⟩
theorem Re.congr {g g':Gr} (e:g=g') {a:Int} {b:Nat}:Re g a b↔Re g' a b:=by rw [e]
theorem GJ {l:List BlkD} (h0:0<l.length) (h : ∀ b:Nat,1≤b→b<l.length→∃ a,a<b∧(b:Int)∈(nth l a).term.to) : ∀ b,b<l.length→Re (ofG l) (-1) b:=by
 intro b
 induction b using Nat.strongRecOn with
 | ind b ih=>
  intro hb
  rcases Nat.eq_zero_or_pos b with rfl | hp
  ·exact .root (by rw [dJ];exact hb) (by decide)
  ·obtain ⟨a,ha,hm⟩:=h b hp hb
   refine .step (ih a ha (by omega)) ?_ (by omega)
   rw [bT]
   exact ⟨⟨by omega,by omega,by omega,by omega⟩,by rw [Int.toNat_natCast];exact hm⟩
theorem Dp {l:List BlkD} {dn:BL} (hw : ∀ b,b<l.length→Re (ofG l) (-1) b) {b:Nat} (hb:b<l.length) (hd:nth dn b=false) : ∃ x,x<l.length∧nth dn x=false∧∀ a,a<l.length→a=x∨nth dn a=true∨Re (ofG l) (a:Int) x:=by
  have key : ∀ {b:Nat},Re (ofG l) (-1) b→(∃ x,x<l.length∧nth dn x=false∧∀ a,a<l.length→a=x∨nth dn a=true∨Re (ofG l) (a:Int) x)∨(nth dn b=true∧∀ a,a<l.length→nth dn a=false→Re (ofG l) (a:Int) b):=by
    intro b h
    induction h with
    | root h0 _=>
      cases e:nth dn 0 with
      | true=>exact .inr ⟨rfl,fun a _ ha=>.root h0 (by
                                                            rintro h;have:a=0:=by omega
                                                            subst this;rw [e] at ha;cases ha)⟩
      | false=>exact .inl ⟨0,by rw [dJ] at h0;exact h0,e,fun a _=>by
          rcases Nat.eq_zero_or_pos a with q | q
          · exact .inl q
          · exact .inr (.inr (.root h0 (by omega)))⟩
    | @step a b ha he _ ih=>
      rcases ih with ih | ⟨ih1,ih2⟩
      · exact .inl ih
      have hlb:=(bT.1 he).1
      cases e:nth dn b with
      | true=>exact .inr ⟨rfl,fun c hc h=>.step (ih2 c hc h) he (by
                                                                         rintro q;have:b=c:=by omega
                                                                         subst this;rw [e] at h;cases h)⟩
      | false=>
        refine .inl ⟨b,by omega,e,fun c hc=>?_⟩
        rcases Nat.decEq c b with q | q
        · cases e2:nth dn c with
          | true=>exact .inr (.inl rfl)
          | false=>exact .inr (.inr (.step (ih2 c hc e2) he (by omega)))
        · exact .inl q
  rcases key (hw b hb) with h | ⟨h,_⟩
  · exact h
  · rw [hd] at h;cases h
theorem mq {j:Nat} (hb:b<m.blocks.length):nth (cP b m).blocks j=if b=j then { nth m.blocks b with phis:=(nth m.blocks b).phis++[⟨m.next,[]⟩] } else nth m.blocks j:=by
 show nth (m.blocks.set b _) j=_
 rcases Nat.lt_or_ge j m.blocks.length with hl | hl
 ·rw [aJ hl]
 ·rw [aU (by simpa using hl),if_neg (by omega),aU hl]
structure P0 (n:Nat) (to:List (List Int)) (m:MS):Prop where
 gt:Gt n to m
 ok:Ok m
 none : ∀ j,j<n→(nth m.blocks j).ins=[]
theorem Fy {x:BlkD} {v:Int} (h:x.ins=[]):mkB { x with phis:=x.phis++[⟨v,[]⟩] }=mkB x++[v]:=by
 unfold mkB
 simp [h]
theorem P0.cP (q:P0 n to m) (hb:b<n):P0 n to (cP b m):=by
 have hbl:b<m.blocks.length:=by rw [q.gt.len];exact hb
 have hl:(Go.Proofs.YtbkdlhkoiagbbaaGreat.cP b m).blocks.length=m.blocks.length:=List.length_set
 have hlen:=q.gt.len
 have e:Ext m (Go.Proofs.YtbkdlhkoiagbbaaGreat.cP b m):=by
  refine ⟨rfl,hl,fun j=>?_,fun j=>?_,fun j=>?_⟩<;>rw [mq hbl]<;>split
  ·rename_i e;rw [e]
  ·rfl
  ·rename_i e;rw [←e];intro v hv
   show v∈(List.map PhiD.dst ((nth m.blocks b).phis++[_]))
   rw [List.map_append];exact List.mem_append_left _ hv
  ·exact fun _ h=>h
  ·rename_i e;rw [e];exact ⟨[],by simp⟩
  ·exact ⟨[],by simp⟩
 have hin : ∀ j,(nth (Go.Proofs.YtbkdlhkoiagbbaaGreat.cP b m).blocks j).ins=(nth m.blocks j).ins:=fun j=>by
  rw [mq hbl];split
  ·rename_i e;rw [e]
  ·rfl
 have htm : ∀ j,(nth (Go.Proofs.YtbkdlhkoiagbbaaGreat.cP b m).blocks j).term=(nth m.blocks j).term:=fun j=>by
  rw [mq hbl];split
  ·rename_i e;rw [e]
  ·rfl
 have hmk : ∀ j,j<n→mkB (nth (Go.Proofs.YtbkdlhkoiagbbaaGreat.cP b m).blocks j)=if b=j then mkB (nth m.blocks j)++[m.next] else mkB (nth m.blocks j):=fun j hj=>by
  rw [mq hbl];split
  ·rename_i e;rw [Fy (q.none b hb),e]
  ·rfl
 have k:=q.ok
 refine ⟨q.gt.ext e,⟨k.p0,by have:=k.pn;show m.ps≤m.next+1;omega,fun c hc=>?_,fun c hc=>?_,fun c d hc hd hcd=>?_,fun c hc=>?_,fun c hc i hi=>?_,fun c hc v hv=>?_⟩,fun j hj=>by rw [hin];exact q.none j hj⟩<;>rw [hl] at hc
 ·rw [hin];exact k.op c hc
 ·rw [hmk c (by omega)];split
  ·refine List.nodup_append.2 ⟨k.nd c hc,by simp,fun x hx y hy=>?_⟩
   have:=(k.rg c hc x hx).2
   have:=List.mem_singleton.1 hy
   omega
  ·exact k.nd c hc
 ·rw [hl] at hd
  rw [hmk c (by omega),hmk d (by omega)]
  intro v hv hv'
  have h1:v∈mkB (nth m.blocks c)∨(b=c∧v=m.next):=by
   split at hv
   ·rcases List.mem_append.1 hv with h | h
    ·exact .inl h
    ·exact .inr ⟨‹_›,List.mem_singleton.1 h⟩
   ·exact .inl hv
  have h2:v∈mkB (nth m.blocks d)∨(b=d∧v=m.next):=by
   split at hv'
   ·rcases List.mem_append.1 hv' with h | h
    ·exact .inl h
    ·exact .inr ⟨‹_›,List.mem_singleton.1 h⟩
   ·exact .inl hv'
  rcases h1 with h1 | ⟨h1,h1'⟩
  ·rcases h2 with h2 | ⟨h2,h2'⟩
   ·exact k.dj c d hc hd hcd v h1 h2
   ·have:=(k.rg c hc v h1).2;omega
  ·rcases h2 with h2 | ⟨h2,h2'⟩
   ·have:=(k.rg d hd v h2).2;omega
   ·exact hcd (h1.symm.trans h2)
 ·rw [hmk c (by omega)]
  intro v hv
  have h1:v∈mkB (nth m.blocks c)∨v=m.next:=by
   split at hv
   ·rcases List.mem_append.1 hv with h | h
    ·exact .inl h
    ·exact .inr (List.mem_singleton.1 h)
   ·exact .inl hv
  show m.ps≤v∧v<m.next+1
  rcases h1 with h1 | h1
  ·have:=k.rg c hc v h1;omega
  ·have:=k.pn;omega
 ·rw [hin,q.none c (by omega)] at hi
  exact absurd hi (Nat.not_lt_zero _)
 ·rw [htm] at hv
  exact (k.tm c hc v hv).end e
theorem P0.took (q:P0 n to m):P0 n to m.took:=⟨⟨q.gt.len,q.gt.to⟩,q.ok.at (Int.le_refl _),q.none⟩
theorem P0.j0 (q:P0 n to m) (hb:b<n) : ∀ k,P0 n to (up (fun _=>Go.Proofs.YtbkdlhkoiagbbaaGreat.cP b) k m)∧(up (fun _=>Go.Proofs.YtbkdlhkoiagbbaaGreat.cP b) k m).next=m.next+k
 | 0=>⟨q,by show m.next=m.next+((0:Nat):Int);omega⟩
 | k+1=>by
  obtain ⟨h1,h2⟩:=P0.j0 q hb k
  refine ⟨h1.cP hb,?_⟩
  show (up (fun _=>Go.Proofs.YtbkdlhkoiagbbaaGreat.cP b) k m).next+1=_
  rw [h2];omega
theorem P0.phis {lp:List Int} (q:P0 n to m) : ∀ k,k<n→P0 n to (up (da s) k (lp,m)).2∧(up (da s) k (lp,m)).2.next≤m.next+3*k∧nth (up (da s) k (lp,m)).1 0=nth lp 0
 | 0,_=>⟨q,by show m.next≤_;omega,rfl⟩
 | k+1,hk=>by
  obtain ⟨h1,h2,h3⟩:=P0.phis (lp:=lp) q k (by omega)
  have e:up (da s) (k+1) (lp,m)=da s k (up (da s) k (lp,m)):=rfl
  rw [e]
  generalize up (da s) k (lp,m)=y at h1 h2 h3
  obtain ⟨c0,c1⟩:=lU (s:=s) (m:=y.2) (b:=k+1)
  obtain ⟨h4,h5⟩:=h1.took.j0 (b:=k+1) hk (gg s y.2 (k+1)).toNat
  refine ⟨h4,?_,?_⟩
  ·show (up (fun _=>Go.Proofs.YtbkdlhkoiagbbaaGreat.cP (k+1)) (gg s y.2 (k+1)).toNat y.2.took).next≤_
   rw [h5]
   show y.2.next+_≤_
   omega
  ·show nth (y.1.set (k+1) _) 0=_
   rcases Nat.lt_or_ge 0 y.1.length with hl | hl
   ·rw [aJ hl,if_neg (by omega)];exact h3
   ·rw [aU (by simpa using hl),←h3,aU hl]
theorem Eh:P0 (aF s) (eu s).1 (jW s):=by
 obtain ⟨h1,h2,h3,h4⟩:=yf (s:=s)
 have t:=bf (s:=s) (at_:=0) (n:=5) (by decide)
 refine ⟨⟨h1,fun j hj=>by rw [h2 j hj]⟩,⟨by rw [h3];omega,by rw [h3,h4];omega,fun b hb=>?_,fun b hb=>?_,fun a b ha hb _=>?_,fun b hb=>?_,fun b hb i hi=>?_,fun b hb=>?_⟩,fun j hj=>by rw [h2 j hj]⟩<;>rw [h1] at *
 ·rw [h2 b hb];intro i hi;cases hi
 ·rw [h2 b hb];exact List.nodup_nil
 ·rw [h2 a ha];intro v hv;cases hv
 ·rw [h2 b hb];intro v hv;cases hv
 ·rw [h2 b hb] at hi;exact absurd hi (Nat.not_lt_zero _)
 ·rw [h2 b hb];intro v hv;cases hv
theorem xE:P0 (aF s) (eu s).1 (fD s).2∧(fD s).2.next≤28∧nth (fD s).1 0=0:=by
 obtain ⟨h1,h2⟩:=eh (s:=s)
 obtain ⟨q1,q2,q3⟩:=(Eh (s:=s)).phis (s:=s) (lp:=List.replicate (aF s) 0) (aF s-1) (by omega)
 have t:=bf (s:=s) (at_:=0) (n:=5) (by decide)
 have e:=(yf (s:=s)).2.2.2
 refine ⟨q1,?_,?_⟩
 ·show (up (da s) (aF s-1) (List.replicate (aF s) 0,jW s)).2.next≤28
  omega
 ·show nth (up (da s) (aF s-1) (List.replicate (aF s) 0,jW s)).1 0=0
  rw [q3,aq (by omega)]
def cnt0:BL→Nat
 | []=>0
 | a::l=>(if a=true then 0 else 1)+cnt0 l
theorem kE {α:Type} [Inhabited α] {a:α} {l:List α} {j:Nat}:nth (a::l) (j+1)=nth l j:=by simp [nth]
theorem Aj : ∀ {l l':BL},l.length=l'.length→(∀ j,j<l.length→nth l j=true→nth l' j=true)→cnt0 l'≤cnt0 l
 | [],[],_,_=>Nat.le_refl _
 | a::l,a'::l',hl,h=>by
  have h1:=Aj (l:=l) (l':=l') (by simpa using hl) fun j hj=>by
   have:=h (j+1) (by simpa using hj)
   rwa [kE,kE] at this
  have h2:a=true→a'=true:=h 0 (by simp)
  unfold cnt0
  cases a<;>cases a'<;>simp_all<;>omega
theorem wU : ∀ {l l':BL},l.length=l'.length→(∀ j,j<l.length→nth l j=true→nth l' j=true)→∀ b,b<l.length→nth l b=false→nth l' b=true→cnt0 l'<cnt0 l
 | [],[],_,_,b,hb,_,_=>absurd hb (Nat.not_lt_zero _)
 | a::l,a'::l',hl,h,b,hb,h0,h1=>by
  have hr : ∀ j,j<l.length→nth l j=true→nth l' j=true:=fun j hj=>by
   have:=h (j+1) (by simpa using hj)
   rwa [kE,kE] at this
  have hll:l.length=l'.length:=by simpa using hl
  have h2:a=true→a'=true:=h 0 (by simp)
  match b,hb,h0,h1 with
  | 0,_,h0,h1=>
   have h0:a=false:=h0
   have h1:a'=true:=h1
   have:=Aj hll hr
   unfold cnt0
   rw [h0,h1]
   simp
   omega
  | b+1,hb,h0,h1=>
   rw [kE] at h0 h1
   have:=wU hll hr b (by simpa using hb) h0 h1
   unfold cnt0
   cases a<;>cases a'<;>simp_all<;>omega
theorem vG : ∀ {l:BL},cnt0 l=0→∀ j,j<l.length→nth l j=true
 | [],_,j,hj=>absurd hj (Nat.not_lt_zero _)
 | a::l,h,j,hj=>by
  unfold cnt0 at h
  match j,hj with
  | 0,_=>show a=true;cases a<;>simp_all
  | j+1,hj=>rw [kE];exact vG (by omega) j (by simpa using hj)
theorem sE : ∀ {l:BL},cnt0 l≤l.length
 | []=>Nat.le_refl _
 | a::l=>by
  have:=sE (l:=l)
  unfold cnt0
  rw [List.length_cons]
  split<;>omega
theorem u4 {f:Nat→Bool} : ∀ (n:Nat) (r:Bool),r=true→(∀ a,a<n→f a=true)→up (fun a r=>r&&f a) n r=true
 | 0,r,h,_=>h
 | n+1,r,h,hf=>by
  show (up (fun a r=>r&&f a) n r&&f n)=true
  rw [u4 n r h fun a ha=>hf a (by omega),hf n (by omega)]
  rfl
theorem A1 (hl:m.blocks.length=n) {a:Nat} (ha:a<n) (hb:b<n):nth (nth (iQ m.f n) a) b=true↔Re (ofG m.blocks) (a:Int) b:=by
 unfold iQ
 rw [df ha]
 exact fX (by show b<m.blocks.length;omega)
theorem Dg {dn:BL} (hl:m.blocks.length=n) (hb:b<n) (hd:nth dn b=false) (h : ∀ a,a<n→a=b∨nth dn a=true∨Re (ofG m.blocks) (a:Int) b):lT dn (iQ m.f n) b n=true:=by
 unfold lT
 refine u4 n _ (by simp [hd]) fun a ha=>?_
 rcases h a ha with e | e | e
 ·simp [e]
 ·simp [e]
 ·simp [(A1 hl ha hb).2 e]
theorem FX {dn:BL} (hp:0≤m.ps) (hl:m.blocks.length=n) (hb:b<n) : ∀ v∈jX m dn (iQ m.f n) b n,Sd m b (nth m.blocks b).ins.length v:=by
 have key : ∀ k,k≤n→∀ v∈up (gq m dn (iQ m.f n) b) k (rows (fun i=>(i:Int)) m.ps.toNat),Sd m b (nth m.blocks b).ins.length v:=by
  intro k
  induction k with
  | zero=>
   intro _ v hv
   obtain ⟨i,hi,rfl⟩:=tH.1 hv
   exact .inl ⟨by omega,by omega⟩
  | succ k ih=>
   intro hk v hv
   have hv:v∈gq m dn (iQ m.f n) b k (up (gq m dn (iQ m.f n) b) k (rows (fun i=>(i:Int)) m.ps.toNat)):=hv
   unfold gq at hv
   split at hv
   ·exact ih (by omega) v hv
   ·rename_i hc
    rw [List.append_assoc] at hv
    rcases List.mem_append.1 hv with h1 | h1
    ·exact ih (by omega) v h1
    ·clear hv
     rcases Nat.decEq k b with e | e
     ·refine .inr (.inr (.inr ⟨k,by omega,e,h1,fun hr=>hc ?_⟩))
      rw [(A1 hl (by omega) hb).2 hr]
      simp [e]
     ·subst e
      rcases List.mem_append.1 h1 with h2 | h2
      ·exact .inr (.inl h2)
      ·refine .inr (.inr (.inl ?_))
       rw [List.take_length];exact h2
 exact key n (Nat.le_refl _)
theorem Ok.ez (q:In b m) {t:dQ} (ht:t.to=(nth m.blocks b).term.to) (ha : ∀ v∈t.args,v∈m.live):Ok (m.ez b t)∧Ext m (m.ez b t):=by
 have hnth : ∀ j,nth (m.ez b t).blocks j=if b=j then { nth m.blocks b with term:=t } else nth m.blocks j:=fun j=>by
  show nth (m.blocks.set b _) j=_
  rcases Nat.lt_or_ge j m.blocks.length with hl | hl
  ·rw [aJ hl]
  ·have:=q.lt
   rw [aU (by simpa using hl),if_neg (by omega),aU hl]
 have hl:(m.ez b t).blocks.length=m.blocks.length:=List.length_set
 have hin : ∀ j,(nth (m.ez b t).blocks j).ins=(nth m.blocks j).ins:=fun j=>by
  rw [hnth];split
  ·rename_i e;rw [e]
  ·rfl
 have hph : ∀ j,(nth (m.ez b t).blocks j).phis=(nth m.blocks j).phis:=fun j=>by
  rw [hnth];split
  ·rename_i e;rw [e]
  ·rfl
 have e:Ext m (m.ez b t):=⟨rfl,hl,fun j=>by
  rw [hnth];split
  ·rename_i e;rw [←e];exact ht
  ·rfl,fun j v h=>by rw [hph];exact h,fun j=>⟨[],by rw [hin];simp⟩⟩
 have hmk : ∀ j,mkB (nth (m.ez b t).blocks j)=mkB (nth m.blocks j):=fun j=>by unfold mkB;rw [hin,hph]
 have k:=q.ok
 refine ⟨⟨k.p0,k.pn,fun c hc=>?_,fun c hc=>?_,fun c d hc hd=>?_,fun c hc=>?_,fun c hc i hi v hv=>?_,fun c hc v hv=>?_⟩,e⟩<;>rw [hl] at hc
 ·rw [hin];exact k.op c hc
 ·rw [hmk];exact k.nd c hc
 ·rw [hl] at hd;rw [hmk,hmk];exact k.dj c d hc hd
 ·rw [hmk];exact k.rg c hc
 ·rw [hin] at hi hv;exact (k.tk c hc i hi v hv).ext e
 ·rw [hnth] at hv
  split at hv
  ·rename_i e1;subst e1
   exact (q.live v (ha v hv)).end e
  ·exact (k.tm c hc v hv).end e
structure D4 (n:Nat) (to:List (List Int)) (x:BL × MS):Prop where
 gt:Gt n to x.2
 ok:Ok x.2
 len:x.1.length=n
 term : ∀ j,j<n→nth x.1 j=true→jm (nth x.2.blocks j).term=true
 emp : ∀ j,j<n→nth x.1 j=false→(nth x.2.blocks j).ins.length=0
 ins : ∀ j,j<n→(nth x.2.blocks j).ins.length≤45
 nx:x.2.next+45*(cnt0 x.1:Nat)≤28+45*n
theorem D4.step {x:BL × MS} (q:D4 n to x) (hb:b<n) (ht:(nth to b).length≤65):D4 n to (aL s to n b x)∧(∀ j,nth x.1 j=true→nth (aL s to n b x).1 j=true)∧(lT x.1 (iQ x.2.f n) b n=true→nth (aL s to n b x).1 b=true):=by
 unfold aL
 have hlen:=q.gt.len
 have hbl:b<x.2.blocks.length:=by rw [hlen];exact hb
 split
 ·rename_i hr
  have hd:=lH hr
  have hset : ∀ j,nth (x.1.set b true) j=if b=j then true else nth x.1 j:=fun j=>by
   have:=q.len
   rcases Nat.lt_or_ge j x.1.length with hl | hl
   ·rw [aJ hl]
   ·rw [aU (by simpa using hl),if_neg (by omega),aU hl]
  generalize hdn:x.1.set b true=dn at hset
  have hdl:dn.length=n:=by rw [←hdn,List.length_set];exact q.len
  have hmono : ∀ j,nth x.1 j=true→nth dn j=true:=fun j hj=>by rw [hset];split<;>simp_all
  have hlt:cnt0 dn<cnt0 x.1:=wU (by rw [hdl];exact q.len) (fun j _=>hmono j) b (by rw [q.len];exact hb) hd (by rw [hset,if_pos rfl])
  refine ⟨?_,hmono,fun _=>by rw [hset,if_pos rfl]⟩
  generalize hm1:(MS.took { x.2 with live:=jX x.2 dn (iQ x.2.f n) b n }:MS)=m1
  have hB:m1.blocks=x.2.blocks:=by rw [←hm1];rfl
  have hN:m1.next=x.2.next:=by rw [←hm1];rfl
  have i1:In b m1:=by
   rw [←hm1]
   exact ⟨q.ok.at (Int.le_refl _),hbl,FX (m:=x.2) (dn:=dn) q.ok.p0 hlen hb⟩
  have tk:=bf (s:=s) (at_:=x.2.at_) (n:=7) (by decide)
  have w1:=i1.dW (s:=s) (aA s x.2.at_ 7).toNat
  obtain ⟨w2,t1,t2,t3⟩:=w1.inn.term (s:=s) ht
  have g:=((Grw.refl (b:=b) (m:=m1)).dW (s:=s) i1.lt (aA s x.2.at_ 7).toNat).CY (s:=s) (to:=nth to b) i1.lt
  have w:=w1.trans w2
  have eD:ig s to n dn (iQ x.2.f n) b x.2=lg s (nth to b) b (up (fun _=>aE s b) (aA s x.2.at_ 7).toNat m1):=by rw [←hm1];rfl
  rw [eD]
  unfold lg
  generalize ek s (nth to b) b (up (fun _=>aE s b) (aA s x.2.at_ 7).toNat m1)=r at w2 t1 t2 t3 g w
  have e0:Ext x.2 r.2:=by
   have e:=w.ext
   exact ⟨by rw [e.ps,←hm1];rfl,by rw [e.len,hB],fun j=>by rw [e.to,hB],fun j v hv=>e.phis j v (by rw [hB];exact hv),fun j=>by have:=e.ins j;rw [hB] at this;exact this⟩
  have gt2:=q.gt.ext e0
  obtain ⟨k1,k2⟩:=Ok.ez w2.inn (t:=r.1) (by rw [t2,gt2.to b hb]) t3
  have hnth : ∀ j,nth (r.2.ez b r.1).blocks j=if b=j then { nth r.2.blocks b with term:=r.1 } else nth r.2.blocks j:=fun j=>by
   show nth (r.2.blocks.set b _) j=_
   have:=gt2.len
   rcases Nat.lt_or_ge j r.2.blocks.length with hl | hl
   ·rw [aJ hl]
   ·rw [aU (by simpa using hl),if_neg (by omega),aU hl]
  have hels : ∀ j,b≠j→nth (r.2.ez b r.1).blocks j=nth x.2.blocks j:=fun j hj=>by
   rw [hnth,if_neg hj,g.els j (fun e=>hj e.symm),hB]
  have hlen0:=q.emp b hb hd
  refine ⟨gt2.ext k2,k1,hdl,fun j hj h=>?_,fun j hj h=>?_,fun j hj=>?_,?_⟩
  ·by_cases e:b=j
   ·show jm (nth (r.2.ez b r.1).blocks j).term=true
    rw [hnth,if_pos e];exact t1
   ·show jm (nth (r.2.ez b r.1).blocks j).term=true
    rw [hels j e]
    refine q.term j hj ?_
    have h:nth dn j=true:=h
    rw [hset,if_neg e] at h;exact h
  ·have h:nth dn j=false:=h
   rw [hset] at h
   split at h
   ·cases h
   ·rename_i e
    show (nth (r.2.ez b r.1).blocks j).ins.length=0
    rw [hels j e];exact q.emp j hj h
  ·show (nth (r.2.ez b r.1).blocks j).ins.length≤45
   by_cases e:b=j
   ·rw [hnth,if_pos e]
    have:=w.ins
    rw [hB] at this
    show (nth r.2.blocks b).ins.length≤45
    omega
   ·rw [hels j e];exact q.ins j hj
  ·show r.2.next+45*((cnt0 dn:Nat):Int)≤_
   have:=w.nx
   have:=q.nx
   omega
 ·rename_i hr
  exact ⟨q,fun j h=>h,fun h=>absurd h hr⟩
theorem D4.upto {x:BL × MS} (q:D4 n to x) (ht : ∀ j,(nth to j).length≤65) : ∀ k,k≤n→D4 n to (up (aL s to n) k x)∧(∀ j,nth x.1 j=true→nth (up (aL s to n) k x).1 j=true)∧(∀ b,b<k→nth x.1 b=false→(∀ a,a<n→a=b∨nth x.1 a=true∨Re (ofG x.2.blocks) (a:Int) b)→nth (up (aL s to n) k x).1 b=true)
 | 0,_=>⟨q,fun j h=>h,fun b hb=>absurd hb (Nat.not_lt_zero _)⟩
 | k+1,hk=>by
  obtain ⟨h1,h2,h3⟩:=D4.upto q ht k (by omega)
  have e:up (aL s to n) (k+1) x=aL s to n k (up (aL s to n) k x):=rfl
  rw [e]
  generalize up (aL s to n) k x=y at h1 h2 h3
  obtain ⟨h4,h5,h6⟩:=h1.step (s:=s) (b:=k) (by omega) (ht k)
  refine ⟨h4,fun j h=>h5 j (h2 j h),fun b hb hd hr=>?_⟩
  rcases Nat.lt_or_ge b k with h | h
  ·exact h5 b (h3 b h hd hr)
  ·have:b=k:=by omega
   subst this
   cases hy:nth y.1 b with
   | true=>exact h5 b hy
   | false=>
    refine h6 (Dg h1.gt.len (by omega) hy fun a ha=>?_)
    rcases hr a ha with r | r | r
    ·exact .inl r
    ·exact .inr (.inl (h2 a r))
    ·refine .inr (.inr ?_)
     have eg:ofG y.2.blocks=ofG x.2.blocks:=by
      unfold ofG
      rw [h1.gt.len,q.gt.len]
      refine List.map_congr_left fun i hi=>?_
      have hi:i<n:=List.mem_range.1 hi
      rw [h1.gt.to i hi,q.gt.to i hi]
     rw [eg];exact r
theorem D4.turn {x:BL × MS} (q:D4 n to x) (ht : ∀ j,(nth to j).length≤65) (hw : ∀ b,b<n→Re (ofG x.2.blocks) (-1) b):D4 n to (up (aL s to n) n x)∧(cnt0 (up (aL s to n) n x).1=0∨cnt0 (up (aL s to n) n x).1<cnt0 x.1):=by
 obtain ⟨h1,h2,h3⟩:=q.upto (s:=s) ht n (Nat.le_refl _)
 refine ⟨h1,?_⟩
 generalize up (aL s to n) n x=y at h1 h2 h3
 by_cases hz : ∃ b,b<n∧nth x.1 b=false
 ·obtain ⟨b,hb,hd⟩:=hz
  obtain ⟨c,k1,k2,k3⟩:=Dp (l:=x.2.blocks) (dn:=x.1) (fun b hb=>hw b (by rw [q.gt.len] at hb;exact hb)) (b:=b) (by rw [q.gt.len];exact hb) hd
  rw [q.gt.len] at k1 k3
  exact .inr (wU (by rw [h1.len,q.len]) (fun j _=>h2 j) c (by rw [q.len];exact k1) k2 (h3 c k1 k2 k3))
 ·refine .inl ?_
  have : ∀ {l:BL},(∀ j,j<l.length→nth l j=true)→cnt0 l=0:=fun {l}=>by
   induction l with
   | nil=>intro _;rfl
   | cons a l ih=>
    intro h
    have h1:a=true:=h 0 (by simp)
    have h2:=ih fun j hj=>by have:=h (j+1) (by simpa using hj);rwa [kE] at this
    unfold cnt0;rw [h1,h2];rfl
  refine this fun j hj=>h2 j ?_
  rw [h1.len] at hj
  cases e:nth x.1 j with
  | true=>rfl
  | false=>exact absurd ⟨j,hj,e⟩ hz
theorem D4.turns {x:BL × MS} (q:D4 n to x) (ht : ∀ j,(nth to j).length≤65) (hw : ∀ {m:MS},Gt n to m→∀ b,b<n→Re (ofG m.blocks) (-1) b) : ∀ k,D4 n to (up (fun _=>up (aL s to n) n) k x)∧(cnt0 (up (fun _=>up (aL s to n) n) k x).1=0∨cnt0 (up (fun _=>up (aL s to n) n) k x).1+k≤n)
 | 0=>⟨q,.inr (by have:=sE (l:=x.1);rw [q.len] at this;exact this)⟩
 | k+1=>by
  obtain ⟨h1,h2⟩:=D4.turns q ht hw k
  have e:up (fun _=>up (aL s to n) n) (k+1) x=up (aL s to n) n (up (fun _=>up (aL s to n) n) k x):=rfl
  rw [e]
  generalize up (fun _=>up (aL s to n) n) k x=y at h1 h2
  obtain ⟨h3,h4⟩:=h1.turn (s:=s) ht (hw h1.gt)
  refine ⟨h3,?_⟩
  rcases h4 with h4 | h4
  ·exact .inl h4
  ·rcases h2 with h2 | h2
   ·omega
   ·exact .inr (by omega)
theorem DC {m:MS} (g:Gt (aF s) (eu s).1 m) : ∀ b,b<aF s→Re (ofG m.blocks) (-1) b:=by
 have t:=wP (s:=s)
 obtain ⟨h1,h2⟩:=eh (s:=s)
 intro b hb
 refine GJ (by rw [g.len];omega) (fun b h1 hb=>?_) b (by rw [g.len];exact hb)
 rw [g.len] at hb
 obtain ⟨a,ha,hm⟩:=t.way b h1 (by omega)
 exact ⟨a,ha,by rw [g.to a (by omega)];exact hm⟩
theorem E9:D4 (aF s) (eu s).1 (lu s)∧∀ j,j<aF s→nth (lu s).1 j=true:=by
 obtain ⟨q,h1,h2⟩:=xE (s:=s)
 have t:=wP (s:=s)
 have hr : ∀ j,nth (List.replicate (aF s) false) j=false:=fun j=>by
  rcases Nat.lt_or_ge j (aF s) with hl | hl
  ·rw [aq hl]
  ·rw [aU (by simpa using hl)];rfl
 have d0:D4 (aF s) (eu s).1 (List.replicate (aF s) false,(fD s).2):=
  ⟨q.gt,q.ok,by simp,fun j hj h=>by { rw [hr] at h;cases h },fun j hj _=>by { show (nth (fD s).2.blocks j).ins.length=0;rw [q.none j hj];rfl },fun j hj=>by { show (nth (fD s).2.blocks j).ins.length≤45;rw [q.none j hj];exact Nat.zero_le _ },by
   have:=sE (l:=List.replicate (aF s) false)
   rw [List.length_replicate] at this
   show (fD s).2.next+45*((cnt0 (List.replicate (aF s) false):Nat):Int)≤_
   omega⟩
 obtain ⟨h3,h4⟩:=d0.turns (s:=s) (fun j=>by have:=t.row j;omega) (fun g=>DC g) (aF s)
 refine ⟨h3,fun j hj=>?_⟩
 have h4:cnt0 (lu s).1=0∨cnt0 (lu s).1+aF s≤aF s:=h4
 exact vG (by omega) j (by rw [show (lu s).1.length=aF s from h3.len];exact hj)
end
end Go.Proofs.YtbkdlhkoiagbbaaGreat
namespace Go.Proofs.YtbkdlhkoiagbbaaGreat
open Go Go.Lft
section
variable {s:List Int} {n:Nat} {to:List (List Int)} {m m':MS} {b:Nat}
theorem oG {α:Type} [Inhabited α] {β:Type} {l:List α} {g:α→β}:rows (fun i=>g (nth l i)) l.length=l.map g:=by
 refine List.ext_getElem (by simp) fun i h1 h2=>?_
 have hi:i<l.length:=by simpa using h2
 simp [rows,ak hi]
theorem wG {f:ah}:gI (thB f b)=mkB (nth f.blocks b):=by
 unfold thB gI mkB
 rw [List.flatMap_append,List.flatMap_append]
 have e1:(rows (phiT f b) (nth f.blocks b).phis.length).flatMap Th.mks=(nth f.blocks b).phis.map PhiD.dst:=by
  rw [←oG]
  unfold rows
  rw [List.flatMap_map]
  show (List.range _).flatMap (fun i=>[(nth (nth f.blocks b).phis i).dst])=_
  generalize List.range _=l
  induction l with
  | nil=>rfl
  | cons a l ih=>rw [List.flatMap_cons,ih,List.map_cons];rfl
 have e2:(rows (insT f b) (nth f.blocks b).ins.length).flatMap Th.mks=(nth f.blocks b).ins.flatMap aY:=by
  have h:(nth f.blocks b).ins.map aY=rows (fun i=>aY (nth (nth f.blocks b).ins i)) (nth f.blocks b).ins.length:=oG.symm
  rw [show (nth f.blocks b).ins.flatMap aY=((nth f.blocks b).ins.map aY).flatten from rfl,h]
  unfold rows
  rw [List.flatMap_map]
  rfl
 rw [e1,e2]
 simp [endT]
theorem y4 {f:ah} {v:Int} : ∀ {k:Nat},v∈gI (thTo f k)↔∃ b,b<k∧v∈mkB (nth f.blocks b)
 | 0=>⟨fun h=>(by cases h),fun ⟨b,h,_⟩=>absurd h (Nat.not_lt_zero _)⟩
 | k+1=>by
  rw [eH]
  unfold gI
  rw [List.flatMap_append,List.mem_append]
  have ih:=y4 (f:=f) (v:=v) (k:=k)
  unfold gI at ih
  rw [ih]
  have e:=wG (f:=f) (b:=k)
  unfold gI at e
  rw [e]
  constructor
  ·rintro (⟨b,h1,h2⟩ | h)
   ·exact ⟨b,by omega,h2⟩
   ·exact ⟨k,by omega,h⟩
  ·rintro ⟨b,h1,h2⟩
   rcases Nat.lt_or_ge b k with h | h
   ·exact .inl ⟨b,h,h2⟩
   ·have:b=k:=by omega
    subst this;exact .inr h2
theorem vu {f:ah} (nd : ∀ b,b<f.blocks.length→(mkB (nth f.blocks b)).Nodup) (dj : ∀ a b,a<f.blocks.length→b<f.blocks.length→a≠b→∀ v∈mkB (nth f.blocks a),v∉mkB (nth f.blocks b)) : ∀ k,k≤f.blocks.length→(gI (thTo f k)).Nodup
 | 0,_=>List.nodup_nil
 | k+1,hk=>by
  rw [eH]
  have e:gI (thTo f k++thB f k)=gI (thTo f k)++mkB (nth f.blocks k):=by
   rw [←wG];exact List.flatMap_append
  rw [e]
  refine List.nodup_append.2 ⟨vu nd dj k (by omega),nd k (by omega),fun x hx y hy=>?_⟩
  rintro rfl
  obtain ⟨b,h1,h2⟩:=y4.1 hx
  exact dj b k (by omega) (by omega) (by omega) x h2 hy
theorem GY {f:ah} (hb:b<f.blocks.length) {v:Int} (hv:v∈mkB (nth f.blocks b)) : ∃ t∈aG f,v∈t.mks∧t.blk=b:=by
 rcases List.mem_append.1 hv with h | h
 ·obtain ⟨p,hp,rfl⟩:=List.mem_map.1 h
  obtain ⟨i,hi,rfl⟩:=List.getElem_of_mem hp
  exact ⟨phiT f b i,bz.2 ⟨b,hb,bP.2 (.inl ⟨i,hi,rfl⟩)⟩,by show _∈[_];rw [ak hi];exact List.mem_singleton.2 rfl,rfl⟩
 ·obtain ⟨p,hp,h2⟩:=List.mem_flatMap.1 h
  obtain ⟨i,hi,rfl⟩:=List.getElem_of_mem hp
  exact ⟨insT f b i,bz.2 ⟨b,hb,bP.2 (.inr (.inl ⟨i,hi,rfl⟩))⟩,by show _∈aY _;rw [ak hi];exact h2,rfl⟩
theorem Dd {f:ah} {t:Th} {v:Int} (ht:t∈aG f) (hv:v∈t.mks) : ∃ b,b<f.blocks.length∧t.blk=b∧v∈mkB (nth f.blocks b):=by
 obtain ⟨b,hb,hm⟩:=bz.1 ht
 refine ⟨b,hb,?_,?_⟩
 ·rcases bP.1 hm with ⟨i,hi,rfl⟩ | ⟨i,hi,rfl⟩ | rfl<;>rfl
 ·rw [←wG];exact List.mem_flatMap.2 ⟨t,hm,hv⟩
theorem qJ (hb:b<m.blocks.length) {p:Nat} {v:Int} (h:Sd m b p v):ft m.f v b p:=by
 rcases h with h | h | h | ⟨a,h1,h2,h3,h4⟩
 ·exact .inl h
 ·obtain ⟨q,hq,rfl⟩:=List.mem_map.1 h
  obtain ⟨i,hi,rfl⟩:=List.getElem_of_mem hq
  refine .inr ⟨phiT m.f b i,bz.2 ⟨b,hb,bP.2 (.inl ⟨i,hi,rfl⟩)⟩,?_,.inl ⟨rfl,.inl ?_⟩⟩
  ·show _∈[(nth (nth m.blocks b).phis i).dst];rw [ak hi];exact List.mem_singleton.2 rfl
  ·show (-1-(i:Int))<0;omega
 ·obtain ⟨q,hq,h2⟩:=List.mem_flatMap.1 h
  obtain ⟨i,hi,rfl⟩:=List.getElem_of_mem hq
  have hi2:i<p∧i<(nth m.blocks b).ins.length:=by rw [List.length_take] at hi;omega
  rw [List.getElem_take] at h2
  refine .inr ⟨insT m.f b i,bz.2 ⟨b,hb,bP.2 (.inr (.inl ⟨i,hi2.2,rfl⟩))⟩,?_,.inl ⟨rfl,.inr ?_⟩⟩
  ·show _∈aY (nth (nth m.blocks b).ins i);rw [ak hi2.2];exact h2
  ·show ((i:Nat):Int)<p;omega
 ·obtain ⟨t,ht,h5,h6⟩:=GY (f:=m.f) h1 h3
  refine .inr ⟨t,ht,h5,.inr ⟨by rw [h6];omega,?_⟩⟩
  rw [h6,Int.toNat_natCast];exact h4
theorem xz (hp:0≤m.ps) (hb:b<m.blocks.length) {v:Int} (h:v∈fM m.f b):Sd m b (nth m.blocks b).ins.length v:=by
 have key : ∀ (l:List Th) (o:List Int),(∀ t∈l,t∈aG m.f)→(∀ v∈o,Sd m b (nth m.blocks b).ins.length v)→∀ v∈l.foldl (dK m.f b) o,Sd m b (nth m.blocks b).ins.length v:=by
  intro l
  induction l with
  | nil=>intro o _ ho v hv;exact ho v hv
  | cons t l ih=>
   intro o hl ho v hv
   rw [List.foldl_cons] at hv
   refine ih _ (fun x hx=>hl x (List.mem_cons_of_mem _ hx)) (fun v hv=>?_) v hv
   unfold dK at hv
   split at hv
   ·rename_i ha
    rcases List.mem_append.1 hv with hv | hv
    ·exact ho v hv
    ·obtain ⟨a,h1,h2,h3⟩:=Dd (hl t List.mem_cons_self) hv
     rcases Nat.decEq a b with e | e
     ·refine .inr (.inr (.inr ⟨a,h1,e,h3,fun hr=>?_⟩))
      unfold pw at ha
      rw [h2,(fX (f:=m.f) hb).2 hr] at ha
      simp at ha
      exact e (by omega)
     ·subst e
      rcases List.mem_append.1 h3 with h | h
      ·exact .inr (.inl h)
      ·refine .inr (.inr (.inl ?_))
       rw [List.take_length];exact h
   ·exact ho v hv
 unfold fM at h
 refine key _ _ (fun t h=>h) (fun v hv=>?_) v h
 obtain ⟨i,hi,rfl⟩:=tH.1 hv
 have hi:i<m.ps.toNat:=hi
 exact .inl ⟨by omega,by omega⟩
def PhOk (m:MS) (p:PhiD) (b:Nat):Prop:=p.ins.map InD.frm=aw m.f b∧∀ q∈p.ins,∃ c:Nat,q.frm=c∧c<m.blocks.length∧Sd m c (nth m.blocks c).ins.length q.val
theorem nz (hl:m'.blocks.length=m.blocks.length) (h : ∀ j,(nth m'.blocks j).term.to=(nth m.blocks j).term.to) {b:Int}:aw m'.f b=aw m.f b:=by
 unfold aw
 rw [show m'.f.blocks.length=m.f.blocks.length from hl]
 congr 1
 funext a
 rw [show (nth m'.f.blocks a).term.to=(nth m.f.blocks a).term.to from h a]
theorem PhOk.ext {p:PhiD} (h:PhOk m p b) (e:Ext m m'):PhOk m' p b:=
 ⟨by rw [nz e.len e.to];exact h.1,fun q hq=>by
  obtain ⟨c,h1,h2,h3⟩:=h.2 q hq
  exact ⟨c,h1,by rw [e.len];exact h2,h3.end e⟩⟩
structure D5 (n c:Nat) (to:List (List Int)) (m:MS):Prop where
 gt:Gt n to m
 ok:Ok m
 term : ∀ j,j<n→jm (nth m.blocks j).term=true
 ins : ∀ j,j<n→(nth m.blocks j).ins.length≤45+c
 nx:m.next≤433+c
theorem D5.mono {c d:Nat} (q:D5 n c to m) (h:c≤d):D5 n d to m:=⟨q.gt,q.ok,q.term,fun j hj=>by have:=q.ins j hj;omega,by have:=q.nx;omega⟩
theorem D5.took {c:Nat} (q:D5 n c to m):D5 n c to m.took:=⟨⟨q.gt.len,q.gt.to⟩,q.ok.at (Int.le_refl _),q.term,q.ins,q.nx⟩
theorem D5.constant {c:Nat} (q:D5 n c to m) (hb:b<n) {w:Int}:D5 n (c+1) to (m.constant b w)∧Ext m (m.constant b w)∧(∀ j,(nth (m.constant b w).blocks j).phis=(nth m.blocks j).phis)∧Sd (m.constant b w) b (nth (m.constant b w).blocks b).ins.length m.next:=by
 have hlen:=q.gt.len
 have hbl:b<m.blocks.length:=by rw [hlen];exact hb
 have e:m.constant b w=MS.add ⟨m.at_,m.ps,m.blocks,m.next+1,m.live⟩ b (conD m.next w):=rfl
 have mk:aY (conD m.next w)=[m.next]:=rfl
 have k:=q.ok.add (a:=m.at_) (nx:=m.next+1) (i:=conD m.next w) (l:=m.live) hbl (by omega) (by rw [mk];intro v hv;rw [List.mem_singleton.1 hv];omega) (by rw [mk];simp) ⟨rfl,fun h=>absurd h (show (1:Int)≠16 by decide),fun _=>rfl⟩ (fun v hv=>by cases hv)
 have ex:Ext m (m.constant b w):=(wY (m:=⟨m.at_,m.ps,m.blocks,m.next+1,m.live⟩) (i:=conD m.next w) hbl).frm rfl rfl
 have hnth : ∀ j,nth (m.constant b w).blocks j=if b=j then { nth m.blocks b with ins:=(nth m.blocks b).ins++[conD m.next w] } else nth m.blocks j:=fun j=>nU (m:=⟨m.at_,m.ps,m.blocks,m.next+1,m.live⟩) hbl
 refine ⟨⟨q.gt.ext ex,k,fun j hj=>?_,fun j hj=>?_,?_⟩,ex,fun j=>?_,DL (m:=m) hbl (by rw [mk];exact List.mem_singleton.2 rfl)⟩
 ·rw [hnth];split
  ·exact q.term b hb
  ·exact q.term j hj
 ·have:=q.ins j hj
  rw [hnth];split
  ·rename_i e1;subst e1
   show ((nth m.blocks b).ins++[_]).length≤_
   rw [List.length_append,List.length_singleton];omega
  ·omega
 ·have:=q.nx
  show m.next+1≤_
  omega
 ·rw [hnth];split
  ·rename_i e1;rw [e1]
  ·rfl
theorem D5.row {c:Nat} (q:D5 n c to m) (hb:b<n):D5 n (c+1) to (rowS s b m).2∧Ext m (rowS s b m).2∧(∀ j,(nth (rowS s b m).2.blocks j).phis=(nth m.blocks j).phis)∧∀ v∈(rowS s b m).1,Sd (rowS s b m).2 b (nth (rowS s b m).2.blocks b).ins.length v:=by
 unfold rowS
 split
 ·obtain ⟨h1,h2,h3,h4⟩:=q.took.took.constant (w:=iz s m) hb
  refine ⟨h1,⟨h2.ps,h2.len,h2.to,h2.phis,h2.ins⟩,h3,fun v hv=>?_⟩
  rw [List.mem_singleton.1 hv];exact h4
 ·have hlen:=q.gt.len
  exact ⟨q.mono (by omega),.refl,fun j=>rfl,fun v hv=>xz q.ok.p0 (by omega) hv⟩
theorem D5.ups {c:Nat} {p:List Int} (q:D5 n c to m) (hp : ∀ k,k<p.length→∃ a:Nat,nth p k=a∧a<n) : ∀ k,k≤p.length→
  D5 n (c+k) to (up (bG s p) k ([],m)).2∧Ext m (up (bG s p) k ([],m)).2∧(∀ j,(nth (up (bG s p) k ([],m)).2.blocks j).phis=(nth m.blocks j).phis)∧(up (bG s p) k ([],m)).1.map InD.frm=p.take k∧
   ∀ r∈(up (bG s p) k ([],m)).1,∃ a:Nat,r.frm=a∧a<n∧Sd (up (bG s p) k ([],m)).2 a (nth (up (bG s p) k ([],m)).2.blocks a).ins.length r.val
 | 0,_=>⟨q,.refl,fun _=>rfl,rfl,fun r hr=>by cases hr⟩
 | k+1,hk=>by
  obtain ⟨h1,h2,h3,h4,h5⟩:=D5.ups q hp k (by omega)
  obtain ⟨a,ha,han⟩:=hp k (by omega)
  have e1:(up (bG s p) (k+1) ([],m)).2=(rowS s (nth p k).toNat (up (bG s p) k ([],m)).2).2.took:=rfl
  have e2:(up (bG s p) (k+1) ([],m)).1=(up (bG s p) k ([],m)).1++[⟨nth p k,nth (rowS s (nth p k).toNat (up (bG s p) k ([],m)).2).1 (aA s (rowS s (nth p k).toNat (up (bG s p) k ([],m)).2).2.at_ (rowS s (nth p k).toNat (up (bG s p) k ([],m)).2).1.length).toNat⟩]:=rfl
  rw [e1,e2]
  generalize up (bG s p) k ([],m)=y at h1 h2 h3 h4 h5
  have hat:(nth p k).toNat=a:=by omega
  rw [hat]
  obtain ⟨k1,k2,k3,k4⟩:=h1.row (s:=s) (b:=a) han
  have hpos:=xB (s:=s) (b:=a) (m:=y.2)
  generalize rowS s a y.2=r at k1 k2 k3 k4 hpos
  refine ⟨k1.took,h2.trans ⟨k2.ps,k2.len,k2.to,k2.phis,k2.ins⟩,fun j=>(k3 j).trans (h3 j),?_,fun t ht=>?_⟩
  ·rw [List.map_append,h4,List.take_succ_eq_append_getElem (by omega)]
   show p.take k++[nth p k]=_
   rw [ak (by omega)]
  ·rcases List.mem_append.1 ht with ht | ht
   ·obtain ⟨d,d1,d2,d3⟩:=h5 t ht
    exact ⟨d,d1,d2,d3.end k2⟩
   ·rw [List.mem_singleton.1 ht]
    refine ⟨a,ha,han,k4 _ (bu ?_)⟩
    have:=bf (s:=s) (at_:=r.2.at_) (n:=(r.1.length:Int)) (by omega)
    omega
theorem vE {i j:Nat} {l:List InD} (hb:b<m.blocks.length):nth (m.iq b i l).blocks j=if b=j then { nth m.blocks b with phis:=(nth m.blocks b).phis.set i { nth (nth m.blocks b).phis i with ins:=l } } else nth m.blocks j:=by
 show nth (m.blocks.set b _) j=_
 rcases Nat.lt_or_ge j m.blocks.length with hl | hl
 ·rw [aJ hl]
 ·rw [aU (by simpa using hl),if_neg (by omega),aU hl]
theorem EZ {l:List PhiD} {i:Nat} {x:List InD}:(l.set i { nth l i with ins:=x }).map PhiD.dst=l.map PhiD.dst:=by
 refine List.ext_getElem (by simp) fun j h1 h2=>?_
 have hj:j<l.length:=by simpa using h2
 rw [List.getElem_map,List.getElem_map,List.getElem_set]
 split
 ·rename_i e;subst e
  rw [ak hj]
 ·rfl
theorem D5.iq {c i:Nat} {l:List InD} (q:D5 n c to m) (hb:b<n):D5 n c to (m.iq b i l)∧Ext m (m.iq b i l):=by
 have hlen:=q.gt.len
 have hbl:b<m.blocks.length:=by omega
 have hnth : ∀ j,nth (m.iq b i l).blocks j=_:=fun j=>vE (i:=i) (l:=l) hbl
 have hl:(m.iq b i l).blocks.length=m.blocks.length:=List.length_set
 have hin : ∀ j,(nth (m.iq b i l).blocks j).ins=(nth m.blocks j).ins:=fun j=>by
  rw [hnth];split
  ·rename_i e;rw [e]
  ·rfl
 have htm : ∀ j,(nth (m.iq b i l).blocks j).term=(nth m.blocks j).term:=fun j=>by
  rw [hnth];split
  ·rename_i e;rw [e]
  ·rfl
 have hph : ∀ j,(nth (m.iq b i l).blocks j).phis.map PhiD.dst=(nth m.blocks j).phis.map PhiD.dst:=fun j=>by
  rw [hnth];split
  ·rename_i e;rw [←e];exact EZ
  ·rfl
 have hmk : ∀ j,mkB (nth (m.iq b i l).blocks j)=mkB (nth m.blocks j):=fun j=>by unfold mkB;rw [hin,hph]
 have e:Ext m (m.iq b i l):=⟨rfl,hl,fun j=>by rw [htm],fun j v h=>by rw [hph];exact h,fun j=>⟨[],by rw [hin];simp⟩⟩
 have k:=q.ok
 refine ⟨⟨q.gt.ext e,⟨k.p0,k.pn,fun c hc=>?_,fun c hc=>?_,fun c d hc hd=>?_,fun c hc=>?_,fun c hc i hi v hv=>?_,fun c hc v hv=>?_⟩,fun j hj=>by rw [htm];exact q.term j hj,fun j hj=>by rw [hin];exact q.ins j hj,q.nx⟩,e⟩<;>rw [hl] at hc
 ·rw [hin];exact k.op c hc
 ·rw [hmk];exact k.nd c hc
 ·rw [hl] at hd;rw [hmk,hmk];exact k.dj c d hc hd
 ·rw [hmk];exact k.rg c hc
 ·rw [hin] at hi hv;exact (k.tk c hc i hi v hv).ext e
 ·rw [htm] at hv;exact (k.tm c hc v hv).end e
theorem Bl {k:Nat} {b:Int} (hk:k<(aw m.f b).length) : ∃ a:Nat,nth (aw m.f b) k=a∧a<m.blocks.length:=sF _ k hk
theorem BY {b:Int}:(aw m.f b).length≤m.blocks.length:=fG _
theorem D5.phi {c i:Nat} (q:D5 n c to m) (hb:b<n) (hi:i<(nth m.blocks b).phis.length) :
  D5 n (c+n) to (phi3 s b (aw m.f b) i m)∧Ext m (phi3 s b (aw m.f b) i m)∧(∀ j,(nth (phi3 s b (aw m.f b) i m).blocks j).phis.length=(nth m.blocks j).phis.length)∧
   PhOk (phi3 s b (aw m.f b) i m) (nth (nth (phi3 s b (aw m.f b) i m).blocks b).phis i) b∧
   ∀ d j,(d≠b∨j≠i)→nth (nth (phi3 s b (aw m.f b) i m).blocks d).phis j=nth (nth m.blocks d).phis j:=by
 have hlen:=q.gt.len
 obtain ⟨h1,h2,h3,h4,h5⟩:=q.ups (s:=s) (p:=aw m.f b) (fun k hk=>by
  obtain ⟨a,h1,h2⟩:=Bl hk
  exact ⟨a,h1,by omega⟩) (aw m.f b).length (Nat.le_refl _)
 have hp:=BY (m:=m) (b:=b)
 unfold phi3
 generalize up (bG s (aw m.f b)) (aw m.f b).length ([],m)=y at h1 h2 h3 h4 h5
 have hyl:=h1.gt.len
 obtain ⟨k1,k2⟩:=h1.iq (b:=b) (i:=i) (l:=y.1) hb
 have hnth : ∀ j,nth (y.2.iq b i y.1).blocks j=_:=fun j=>vE (i:=i) (l:=y.1) (by omega:b<y.2.blocks.length)
 have hi2:i<(nth y.2.blocks b).phis.length:=by rw [h3];exact hi
 refine ⟨k1.mono (by omega),h2.trans k2,fun j=>?_,?_,fun d j hd=>?_⟩
 ·rw [hnth];split
  ·rename_i e;rw [←e,←h3 b]
   show (List.set _ _ _).length=_
   rw [List.length_set]
  ·rw [h3]
 ·rw [hnth,if_pos rfl]
  show PhOk _ (nth ((nth y.2.blocks b).phis.set i _) i) b
  rw [aJ hi2,if_pos rfl]
  refine ⟨?_,fun t ht=>?_⟩
  ·rw [nz (h2.trans k2).len (h2.trans k2).to]
   show y.1.map InD.frm=_
   rw [h4,List.take_length]
  ·obtain ⟨a,d1,d2,d3⟩:=h5 t ht
   exact ⟨a,d1,by rw [k2.len];omega,d3.end k2⟩
 ·rw [hnth]
  split
  ·rename_i e;subst e
   show nth ((nth y.2.blocks b).phis.set i _) j=_
   rw [←h3 b]
   rcases Nat.lt_or_ge j (nth y.2.blocks b).phis.length with hl | hl
   ·rw [aJ hl,if_neg (by rcases hd with hd | hd;exact absurd rfl hd;exact fun e=>hd e.symm)]
   ·rw [aU (by simpa using hl),aU hl]
  ·rw [h3]
theorem D5.phis {c cnt:Nat} (q:D5 n c to m) (hb:b<n) (hc:(nth m.blocks b).phis.length=cnt) : ∀ k,k≤cnt→
  D5 n (c+n*k) to (up (phi3 s b (aw m.f b)) k m)∧Ext m (up (phi3 s b (aw m.f b)) k m)∧(∀ j,(nth (up (phi3 s b (aw m.f b)) k m).blocks j).phis.length=(nth m.blocks j).phis.length)∧
   (∀ i,i<k→PhOk (up (phi3 s b (aw m.f b)) k m) (nth (nth (up (phi3 s b (aw m.f b)) k m).blocks b).phis i) b)∧
   ∀ d j,d≠b→nth (nth (up (phi3 s b (aw m.f b)) k m).blocks d).phis j=nth (nth m.blocks d).phis j
 | 0,_=>⟨q,.refl,fun _=>rfl,fun i hi=>absurd hi (Nat.not_lt_zero _),fun _ _ _=>rfl⟩
 | k+1,hk=>by
  obtain ⟨h1,h2,h3,h4,h5⟩:=D5.phis q hb hc k (by omega)
  have e:up (phi3 s b (aw m.f b)) (k+1) m=phi3 s b (aw m.f b) k (up (phi3 s b (aw m.f b)) k m):=rfl
  rw [e]
  have ep:aw m.f b=aw (up (phi3 s b (aw m.f b)) k m).f b:=(nz h2.len h2.to).symm
  generalize hy:up (phi3 s b (aw m.f b)) k m=y at h1 h2 h3 h4 h5 ep
  rw [ep]
  obtain ⟨k1,k2,k3,k4,k5⟩:=h1.phi (s:=s) (i:=k) hb (by rw [h3];omega)
  refine ⟨k1.mono (by rw [Nat.mul_succ];omega),h2.trans k2,fun j=>(k3 j).trans (h3 j),fun i hi=>?_,fun d j hd=>(k5 d j (.inl hd)).trans (h5 d j hd)⟩
  rcases Nat.lt_or_ge i k with h | h
  ·rw [k5 b i (.inr (by omega))]
   exact (h4 i h).ext k2
  ·have:i=k:=by omega
   subst this;exact k4
theorem D5.blks {c:Nat} {lp:List Int} (q:D5 n c to m) (hc : ∀ j,((nth m.blocks j).phis.length:Int)=nth lp j) (h3 : ∀ j,nth lp j≤3) : ∀ k,k<n→
  D5 n (c+n*3*k) to (up (blk3 s lp) k m)∧Ext m (up (blk3 s lp) k m)∧(∀ j,(nth (up (blk3 s lp) k m).blocks j).phis.length=(nth m.blocks j).phis.length)∧
   ∀ b,1≤b→b≤k→∀ i,i<(nth m.blocks b).phis.length→PhOk (up (blk3 s lp) k m) (nth (nth (up (blk3 s lp) k m).blocks b).phis i) b
 | 0,_=>⟨q,.refl,fun _=>rfl,fun b h1 h2=>by omega⟩
 | k+1,hk=>by
  obtain ⟨h1,h2,h4,h5⟩:=D5.blks q hc h3 k (by omega)
  have e:up (blk3 s lp) (k+1) m=blk3 s lp k (up (blk3 s lp) k m):=rfl
  rw [e]
  generalize up (blk3 s lp) k m=y at h1 h2 h4 h5
  have hcnt:(nth y.blocks (k+1)).phis.length=(nth lp (k+1)).toNat:=by
   have:=hc (k+1)
   rw [h4];omega
  have hc3:=h3 (k+1)
  obtain ⟨k1,k2,k3,k4,k5⟩:=h1.phis (s:=s) (b:=k+1) hk hcnt (nth lp (k+1)).toNat (Nat.le_refl _)
  have hbd:n*(nth lp (k+1)).toNat≤n*3:=Nat.mul_le_mul_left _ (by omega)
  have hms:n*3*(k+1)=n*3*k+n*3:=Nat.mul_succ _ _
  refine ⟨k1.mono (by rw [hms];omega),h2.trans k2,fun j=>(k3 j).trans (h4 j),fun b hb1 hb2 i hi=>?_⟩
  rcases Nat.lt_or_ge k b with h | h
  ·have:b=k+1:=by omega
   subst this
   have:=hc (k+1)
   exact k4 i (by omega)
  ·have:=(h5 b hb1 h i hi).ext k2
   rw [←k5 b i (by omega)] at this
   exact this
theorem AN:D5 (aF s) 216 (eu s).1 (fT s)∧(∀ j,(nth (fT s).blocks j).phis.length≤3)∧(nth (fT s).blocks 0).phis.length=0∧∀ b,b<aF s→∀ i,i<(nth (fT s).blocks b).phis.length→PhOk (fT s) (nth (nth (fT s).blocks b).phis i) b:=by
 obtain ⟨n1,n2⟩:=eh (s:=s)
 obtain ⟨q,h4⟩:=E9 (s:=s)
 obtain ⟨p,_,_⟩:=mP (s:=s)
 obtain ⟨_,pc⟩:=tc (s:=s)
 obtain ⟨_,_,e0⟩:=xE (s:=s)
 have d:D5 (aF s) 0 (eu s).1 (lu s).2:=⟨q.gt,q.ok,fun j hj=>q.term j hj (h4 j hj),q.ins,by have:=q.nx;omega⟩
 obtain ⟨k1,k2,k3,k4⟩:=d.blks (s:=s) (lp:=(fD s).1) pc (fun j=>(p.rng j).2) (aF s-1) (by omega)
 have e:up (blk3 s (fD s).1) (aF s-1) (lu s).2=fT s:=rfl
 rw [e] at k1 k2 k3 k4
 have hz:(nth (fT s).blocks 0).phis.length=0:=by
  rw [k3];have:=pc 0;omega
 have hm:aF s*3*(aF s-1)≤27*8:=Nat.mul_le_mul (by omega) (by omega)
 refine ⟨k1.mono (by omega),fun j=>?_,hz,fun b hb i hi=>?_⟩
 ·rw [k3];have:=pc j;have:=(p.rng j).2;omega
 ·rcases Nat.eq_zero_or_pos b with h | h
  ·subst h;omega
  ·exact k4 b h (by omega) i (by rw [←k3];exact hi)
theorem yJ {f:ah} {p i:Nat} (h : ∀ j,j<f.blocks.length→(nth f.blocks j).phis.length≤p∧(nth f.blocks j).ins.length≤i) : ∀ k,k≤f.blocks.length→jd f k≤f.blocks.length+(p+i)*k
 | 0,_=>by show f.blocks.length≤_;omega
 | k+1,hk=>by
  have ih:=yJ h k (by omega)
  have:=h k (by omega)
  show jd f k+_+_≤_
  rw [Nat.mul_succ];omega
theorem yy:jg (gS s):=by
 obtain ⟨d,p3,p0,hph⟩:=AN (s:=s)
 obtain ⟨n1,n2⟩:=eh (s:=s)
 have t:=wP (s:=s)
 have hlen:=d.gt.len
 have hf:(gS s)=(fT s).f:=rfl
 rw [hf]
 have k:=d.ok
 have hB:(fT s).f.blocks=(fT s).blocks:=rfl
 have hP:(fT s).f.params=(fT s).ps:=rfl
 have mp:0≤(fT s).ps∧(fT s).ps≤4:=rI (s:=s)
 have gt:=d.gt
 have hto : ∀ b,b<aF s→∀ v∈(nth (fT s).blocks b).term.to,1≤v∧v<aF s:=fun b hb v hv=>by
  rw [gt.to b hb] at hv;exact t.rng b v hv
 have way:=DC gt
 have dn:=d.nx
 have hins:=d.ins
 have dt:=d.term
 generalize fT s=m at *
 refine ⟨mp,⟨by rw [hB];omega,by rw [hB];omega⟩,?_,fun t ht=>?_,vu k.nd k.dj _ (Nat.le_refl _),fun b hb=>?_,fun t ht h0 v hv=>?_,fun b i hb hi=>?_⟩
 ·have:=yJ (f:=m.f) (p:=3) (i:=261) (fun j hj=>⟨p3 j,by have:=hins j (by rw [hB] at hj;omega);exact this⟩) _ (Nat.le_refl _)
  rw [hB,hlen] at this
  rw [hB,hlen]
  omega
 ·have hmk : ∀ n∈t.mks,m.f.params≤n∧n≤8191:=fun v hv=>by
   obtain ⟨b,hb,_,hm⟩:=Dd ht hv
   have:=k.rg b hb v hm
   rw [hP];omega
  obtain ⟨b,hb,hm⟩:=bz.1 ht
  have hb':b<m.blocks.length:=hb
  rcases bP.1 hm with ⟨i,hi,rfl⟩ | ⟨i,hi,rfl⟩ | rfl
  ·have nl:jk m.f (phiT m.f b i)=true→False:=fun h=>by
    have h1:-1-(i:Int)=((fS m.f (phiT m.f b i)).ins.length:Nat):=of_decide_eq_true h
    omega
   refine ⟨fun h=>?_,fun h=>(nl h).elim,hmk,fun h=>(nl h).elim⟩
   have h1:(0:Int)≤-1-(i:Int):=of_decide_eq_true ((Bool.and_eq_true _ _).mp h).1
   omega
  ·have nl:jk m.f (insT m.f b i)=true→False:=fun h=>by
    have h1:(i:Int)=((nth m.f.blocks ((b:Nat):Int).toNat).ins.length:Nat):=of_decide_eq_true h
    rw [Int.toNat_natCast] at h1
    omega
   refine ⟨fun h=>?_,fun h=>(nl h).elim,hmk,fun h=>(nl h).elim⟩
   refine (k.op b hb' _ ?_).1
   show nth (nth m.f.blocks ((b:Nat):Int).toNat).ins ((i:Nat):Int).toNat∈_
   rw [Int.toNat_natCast,Int.toNat_natCast]
   exact bu hi
  ·refine ⟨fun h=>?_,fun h=>?_,hmk,fun h v hv=>?_⟩
   ·have h1:(((nth m.f.blocks b).ins.length:Nat):Int)<((nth m.f.blocks ((b:Nat):Int).toNat).ins.length:Nat):=of_decide_eq_true ((Bool.and_eq_true _ _).mp h).2
    rw [Int.toNat_natCast] at h1
    omega
   ·show jm (nth m.f.blocks ((b:Nat):Int).toNat).term=true
    rw [Int.toNat_natCast]
    exact dt b (by omega)
   ·have hv:v∈(nth m.f.blocks ((b:Nat):Int).toNat).term.to:=hv
    rw [Int.toNat_natCast] at hv
    have:=hto b (by omega) v hv
    rw [hB];omega
 ·exact way b (by rw [hB] at hb;omega)
 ·obtain ⟨b,hb,hm⟩:=bz.1 ht
  have hb':b<m.blocks.length:=hb
  rcases bP.1 hm with ⟨i,hi,rfl⟩ | ⟨i,hi,rfl⟩ | rfl
  ·exact absurd h0 (by show ¬(0:Int)≤-1-(i:Int);omega)
  ·exact qJ hb' (k.tk b hb' i hi v hv)
  ·exact qJ hb' (k.tm b hb' v hv)
 ·have hb':b<m.blocks.length:=hb
  obtain ⟨g1,g2⟩:=hph b (by omega) i hi
  refine ⟨?_,g1,fun q hq=>?_⟩
  ·rcases Nat.eq_zero_or_pos b with h | h
   ·subst h
    have hi:i<(nth m.blocks 0).phis.length:=hi
    omega
   ·exact h
  ·obtain ⟨c,h1,h2,h3⟩:=g2 q hq
   rw [h1]
   have:=qJ h2 h3
   show ft m.f q.val c (nE m.f c)
   unfold nE
   rw [Int.toNat_natCast]
   exact this
end
end Go.Proofs.YtbkdlhkoiagbbaaGreat
