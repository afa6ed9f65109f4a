/- A part of the proof: Nb, Th, Va, Vb, Vc, Nc, Da, LftL, Db, Dc, Dd, Tk, Ti, Tl. -/
import Derived.Test.YtfelpjfopgiabaaZMoved5
set_option linter.unusedSimpArgs false
set_option linter.unusedVariables false
namespace Go.Proofs.Ytfelpjfopgiabaa
open Go Go.Lft
section
variable {s:List Int} {M:Nat} {vs:Value} {W:View} {h:Heap} {o:Own} {m:MS}
theorem MkB.boxed {vb vl:Value} {lb:List BlkM} (bb:MkB M vs m o vb vl lb) (m':MS) (h1:m'.blocks=m.blocks) (h2:m'.live=m.live):MkB M vs m' (o.upd (0,0) (bx T.aL M (RawN.mk (n:=5) (mkL vs m'.at_ m'.ps vb m'.next vl)))) vb vl lb:=
 ⟨rfl,by rw [h2];exact bb.live,bb.blk,by rw [h1];exact bb.len,by rw [h1];exact bb.term,by rw [h1];exact fun i hi=>bb.phis i hi,by rw [h1];exact fun i hi=>bb.ins i hi⟩
end
def gh (R:Nat) (i10:Own):Own:=fun k=>if k=(8,0) then bx T.aE R (RawN.mk (n:=1) [.int .i64 0,.slice none 0 0]) else if 10≤k.1 then i10 k else none
structure FnB (o:Own) (vb:Value) (lb:List BlkM) (f:ak):Prop where
 blk:o (0,2)=it T.al vb lb
 len:lb.length=f.blocks.length
 term : ∀ i,i<f.blocks.length→(nth lb i).term=(nth f.blocks i).term
 phis : ∀ i,i<f.blocks.length→o (1,i)=it T.cm (nth lb i).phis.v (nth f.blocks i).phis
 ins : ∀ i,i<f.blocks.length→o (2,i)=it T.aX (nth lb i).ins.v (nth f.blocks i).ins
theorem BH {H:View} {vb:Value} {lb:List BlkM} {f:ak} (h0:SlRd H vb lb) (hl:lb.length=f.blocks.length) (ht : ∀ i,i<f.blocks.length→(nth lb i).term=(nth f.blocks i).term) (h1 : ∀ i,i<f.blocks.length→SlRd H (nth lb i).phis.v (nth f.blocks i).phis) (h2 : ∀ i,i<f.blocks.length→SlRd H (nth lb i).ins.v (nth f.blocks i).ins):SlRd H vb f.blocks:=by
 refine mW h0 rfl hl fun i g1 g2 cs hr=>?_
 have:=yy hr (p:=(nth f.blocks i).phis) (i:=(nth f.blocks i).ins) (by have:=h1 i g2;rwa [aq g1] at this) (by have:=h2 i g2;rwa [aq g1] at this)
 have ht:=ht i g2
 rw [aq g1] at ht
 rw [ht] at this
 rw [←aq g2]
 exact this
theorem FnB.rd {W:View} {h:Heap} {o:Own} {vb:Value} {lb:List BlkM} {f:ak} (b:FnB o vb lb f) (w:Owns W h o):SlRd (vw h) vb f.blocks:=
 BH (w.now b.blk) b.len b.term (fun i hi=>w.now (b.phis i hi)) fun i hi=>w.now (b.ins i hi)
theorem FnB.freeze {W:View} {h:Heap} {o o0:Own} {vb:Value} {lb:List BlkM} {f:ak} (b:FnB o vb lb f) (w:Owns W h o) (ho : ∀ k:Key,3≤k.1→o k=o0 k) (ho0 : ∀ k:Key,k.1<3→o0 k=none) : ∃ W',W.le W'∧Owns W' h o0∧SlRd W' vb f.blocks:=by
 obtain ⟨W17,hW17,w17,fr⟩:=w.tN (fun k=>decide (k.1<3))
 refine ⟨W17,hW17,w17.sub fun k i hk=>?_,BH (fr (k:=(0,2)) (by simp) b.blk) b.len b.term (fun i hi=>fr (k:=(1,i)) (by simp) (b.phis i hi)) fun i hi=>fr (k:=(2,i)) (by simp) (b.ins i hi)⟩
 rcases Nat.lt_or_ge k.1 3 with e | e
 ·rw [ho0 k e] at hk;cases hk
 ·have h2:¬k.1<3:=by omega
  simp only [h2,decide_false,Bool.false_eq_true,if_false]
  rw [ho k e];exact hk
theorem B8 {s:List Int} {vs:Value} {h:Heap} {W:View} {o0:Own} (w0:Owns W h o0) (ho0 : ∀ k:Key,k.1<10→o0 k=none) (hs:SlRd W vs s) :
  aI Try.prog N.ax #[vs] h (fun u h'=>∃ W' o vb lb,W.le W'∧Owns W' h' o∧(∀ k:Key,3≤k.1→o k=o0 k)∧FnB o vb lb (iG s)∧u = .agg #[.int .i64 (iG s).params,vb]):=by
 refine aA (args:=[vs]) follows F.ax E.ax (Nat.le_of_ble_eq_true (by kernel_rfl)) fun K hK=>?_
 have hs0:=hs
 obtain ⟨sa,sc,rfl,_⟩:=hs0
 dsimp only [L.ax]
 refine aa fun z hz=>?_
 simp
 refine w0.jA (k:=(8,0)) (n:=1) (z:=.agg #[.int .i64 0,.slice none 0 0]) (ho0 _ (by decide)) (by kernel_rfl) rfl (by decide) (by simp [Value.cells,Value.oneCell']) fun h1 q1 w1=>?_
 generalize h.size=R at w1
 rw [hz];clear hz z
 refine aa fun z hz=>?_
 simp
 refine aN (z:=.agg #[.slice none 0 0,.int .i64 0,.int .i64 0,.slice none 0 0,.int .i64 0,.slice none 0 0]) (places:=[(0,1),(1,1),(2,2),(4,1),(5,1)]) (vs:=[(0,.slice sa s.length sc)]) (cs:=#[.slice sa s.length sc,.int .i64 0,.int .i64 0,.slice none 0 0,.int .i64 0,.slice none 0 0]) (by kernel_rfl) (by kernel_rfl) (by simp) (by rfl) ?_
 generalize s.length=sl at hs
 refine jU rfl ?_
 have hbx:(h1.push (.cells (Value.agg #[.slice sa sl sc,.int .i64 0,.int .i64 0,.slice none 0 0,.int .i64 0,.slice none 0 0]).cells T.aL))[h1.size]? = some (.cells (Value.agg #[.slice sa sl sc,.int .i64 0,.int .i64 0,.slice none 0 0,.int .i64 0,.slice none 0 0]).cells T.aL (0,0)):=by simp
 have hle2:=bJ h1 (.cells (Value.agg #[.slice sa sl sc,.int .i64 0,.int .i64 0,.slice none 0 0,.int .i64 0,.slice none 0 0]).cells T.aL)
 have hbg : ∀ b,(Value.slice (some ⟨h1.size,0,none⟩) 1 1).ownBlock=some b→h1.size≤b:=fun b hb=>by simp only [Value.ownBlock,Option.some.injEq] at hb;omega
 show LC.wp Try.prog z _ _ (h1.push (.cells (Value.agg #[.slice sa sl sc,.int .i64 0,.int .i64 0,.slice none 0 0,.int .i64 0,.slice none 0 0]).cells T.aL))
 generalize h1.push (.cells (Value.agg #[.slice sa sl sc,.int .i64 0,.int .i64 0,.slice none 0 0,.int .i64 0,.slice none 0 0]).cells T.aL)=h2 at hbx hle2
 have w2:=w1.add (k:=(0,0)) ((Own.ab (by simp)).trans (ho0 _ (by decide))) (iq (W:=W) (d:=RawN.mk (n:=5) [.slice sa sl sc,.int .i64 0,.int .i64 0,.slice none 0 0,.int .i64 0,.slice none 0 0]) hbx (eV rfl (by simp [Value.oneCell'])) (by decide)) hle2 hbg
 generalize h1.size=M at w2
 generalize hvs:Value.slice sa sl sc=vs at hs w2
 obtain ⟨m0,hm0⟩ : ∃ m0:MS,m0=⟨0,0,[],0,[]⟩:=⟨_,rfl⟩
 obtain ⟨o2,ho2⟩ : ∃ o2:Own,o2=fun k=>if k=(0,0) then bx T.aL M (RawN.mk (n:=5) (mkL vs 0 0 (.slice none 0 0) 0 (.slice none 0 0))) else if k=(0,1) then it T.int (.slice none 0 0) ([]:List Int) else if k=(0,2) then it T.al (.slice none 0 0) ([]:List BlkM) else gh R o0 k:=⟨_,rfl⟩
 have w2:Owns W h2 o2:=w2.nils fun k i hk=>by
  rw [ho2] at hk
  dsimp only at hk
  split at hk
  ·rename_i e;rw [e];exact .inl hk
  ·rename_i e0
   split at hk
   ·cases hk;exact .inr ⟨rfl,OwnT.nil (α:=Int) _ _ _⟩
   ·split at hk
    ·cases hk;exact .inr ⟨rfl,OwnT.nil (α:=BlkM) _ _ _⟩
    ·refine .inl ?_
     rw [Own.ab e0]
     by_cases e8:k=(8,0)
     ·subst e8;exact hk
     ·rw [Own.ab e8]
      unfold gh at hk;rw [if_neg e8] at hk
      split at hk
      ·exact hk
      ·cases hk
 have w2:Mk s M vs W h2 o2 m0:=⟨w2,hs,.slice none 0 0,.slice none 0 0,[],by rw [ho2,hm0];rfl,by rw [ho2,hm0];rfl,by rw [ho2];rfl,by rw [hm0];rfl,fun i hi=>by rw [hm0] at hi;simp at hi,fun i hi=>by rw [hm0] at hi;simp at hi,fun i hi=>by rw [hm0] at hi;simp at hi⟩
 have f2 : ∀ k:Key,3≤k.1→o2 k=gh R o0 k:=fun k hk=>by
  rw [ho2]
  dsimp only
  rw [if_neg (by rintro rfl;simp at hk),if_neg (by rintro rfl;simp at hk),if_neg (by rintro rfl;simp at hk)]
 clear w1 hbx hbg hle2 q1 ho2
 rw [hz];clear hz z
 refine aa fun z hz=>?_
 simp
 refine aj (by kernel_rfl) (w2.take (by rw [hm0];decide) (n:=5) (by decide) (by decide)) ?_
 rintro _ h3 ⟨rfl,o3,w3,f3⟩
 have tv:=aZ (s:=s) (at_:=m0.at_) (n:=5) (by decide)
 obtain ⟨vb,vl,lb,bb⟩:=w3.box
 refine w3.own.bn (k:=(0,0)) (n:=5) (i:=2) (e:=T.aL) (B:=M) (l:=mkL vs m0.took.at_ m0.took.ps vb m0.took.next vl) bb.box (by decide) (by kernel_rfl) rfl rfl rfl fun h4 w4 _=>?_
 have b4:=bb.boxed ⟨m0.took.at_,aB s m0.at_ 5,m0.took.blocks,m0.took.next,m0.took.live⟩ rfl rfl
 rw [hz];clear hz z
 refine aa fun z hz=>?_
 have w4:Mk s M vs W h4 _ _:=⟨w4,w3.src,vb,vl,lb,b4⟩
 have rd:=w4.reads b4
 simp [rd.ps]
 refine w4.own.bn (k:=(0,0)) (n:=5) (i:=4) (e:=T.aL) (B:=M) (l:=mkL vs m0.took.at_ (aB s m0.at_ 5) vb m0.took.next vl) b4.box (by decide) (by kernel_rfl) rfl rfl rfl fun h5 w5 _=>?_
 have b5:=b4.boxed ⟨m0.took.at_,aB s m0.at_ 5,m0.took.blocks,aB s m0.at_ 5,m0.took.live⟩ rfl rfl
 have w5:Mk s M vs W h5 _ _:=⟨w5,w3.src,vb,vl,lb,b5⟩
 obtain ⟨o5,ho5⟩ : ∃ o5,o5=(o3.upd (0,0) (bx T.aL M (RawN.mk (n:=5) (mkL vs m0.took.at_ (aB s m0.at_ 5) vb m0.took.next vl)))).upd (0,0) (bx T.aL M (RawN.mk (n:=5) (mkL vs m0.took.at_ (aB s m0.at_ 5) vb (aB s m0.at_ 5) vl))):=⟨_,rfl⟩
 have f5 : ∀ k:Key,3≤k.1→o5 k=gh R o0 k:=fun k hk=>by
  rw [ho5,Own.ab (by rintro rfl;simp at hk),Own.ab (by rintro rfl;simp at hk),f3 k hk,f2 k hk]
 rw [hm0] at w5
 have w5:Mk s M vs W h5 o5 ⟨1,aB s 0 5,[],aB s 0 5,[]⟩:=by rw [ho5,hm0];exact w5
 clear b5 b4 rd w4 bb w3 f3 w2 f2 ho5 hvs
 rw [hz];clear hz z
 refine aa fun z hz=>?_
 simp
 refine aj (by kernel_rfl) (w5.take (show 1≤_ by omega) (n:=9) (by decide) (by decide)) ?_
 rintro _ h6 ⟨rfl,o6,w6,f6⟩
 have w6:Mk s M vs W h6 o6 (qD s):=w6
 have f6 : ∀ k:Key,3≤k.1→o6 k=gh R o0 k:=fun k hk=>(f6 k hk).trans (f5 k hk)
 clear w5 f5
 have hN:=Au (s:=s)
 obtain ⟨n1,n2⟩:=eY (s:=s)
 have hw:IntKind.i64.wrap (1+aB s 1 9)=(aG s:Nat):=by rw [hN];exact cQ (by omega) (by omega)
 simp [hw]
 rw [hz];clear hz z
 refine aa fun z hz=>?_
 simp
 refine aj (by kernel_rfl) (zm (ri:=gh R o0) w6 (fun k hk=>f6 k (by omega)) (fun k h1 h2=>(f6 k h1).trans (by unfold gh;rw [if_neg (by rintro rfl;simp at h2),if_neg (by omega)])) (n:=aG s) xr (by omega) n1 (by omega)) ?_
 rintro vt h7 ⟨W7,o7,g7,w7,r7,e7,st⟩
 have w7:Mk s M vs W7 h7 o7 (dN s).2:=w7
 have st:SlRd W7 vt (dN s).1:=st
 have f7 : ∀ k:Key,3≤k.1→o7 k=gh R o0 k:=fun k hk=>by
  by_cases e:8≤k.1
  ·exact r7 k e
  ·rw [e7 k hk (by omega)];unfold gh;rw [if_neg (by rintro rfl;simp at e),if_neg (by omega)]
 clear r7 e7 w6 f6
 have k1:=ve (s:=s)
 have s4:=nU (s:=s)
 rw [hz];clear hz z
 refine aa fun z hz=>?_
 simp
 refine ll (α:=BlkM) (W:=W7) (k:=.i64) (n:=aG s) (d:=⟨⟨.slice none 0 0⟩,⟨.slice none 0 0⟩,⟨0,[],[],⟨0⟩⟩⟩) El.fu (by rfl) (by rfl) ⟨[.slice none 0 0],_,rfl,⟨rfl,rfl⟩,[.slice none 0 0],_,rfl,⟨rfl,rfl⟩,[.int .i64 0],_,rfl,⟨rfl,by decide,by decide⟩,[.slice none 0 0],_,rfl,⟨_,rfl,dM⟩,[.slice none 0 0],_,rfl,⟨_,rfl,dM⟩,rfl,by decide,by decide⟩ (by omega) (by omega) fun vb8 h8 ob8 m8 hle8 hb8=>?_
 obtain ⟨vb,vl,lb,bb⟩:=w7.box
 have wa:=w7.own.sub (o':=o7.upd (0,2) none) fun j i hj=>by
  unfold Own.upd at hj
  split at hj
  ·cases hj
  ·exact hj
 have wb:=wa.add (k:=(0,2)) Own.ag ob8 hle8 (fun b hb=>by rw [hb8] at hb;cases hb;exact Nat.le_refl _)
 have hv8:=(wb.cells (k:=(0,2)) Own.ag).2
 obtain ⟨o8,ho8⟩ : ∃ o8:Own,o8=fun k=>if k.1=1∧k.2<aG s then it T.cm (.slice none 0 0) ([]:List PhiD) else if k.1=2∧k.2<aG s then it T.aX (.slice none 0 0) ([]:List InsD) else o7.upd (0,2) (it T.al vb8 (List.replicate (aG s) (BlkM.mk ⟨.slice none 0 0⟩ ⟨.slice none 0 0⟩ ⟨0,[],[],⟨0⟩⟩))) k:=⟨_,rfl⟩
 have w8:Owns W7 h8 o8:=wb.nils fun k i hk=>by
  rw [ho8] at hk
  dsimp only at hk
  split at hk
  ·cases hk;exact .inr ⟨rfl,OwnT.nil (α:=PhiD) _ _ _⟩
  ·split at hk
   ·cases hk;exact .inr ⟨rfl,OwnT.nil (α:=InsD) _ _ _⟩
   ·refine .inl ?_
    by_cases e:k=(0,2)
    ·subst e;rw [Own.ag] at hk ⊢;exact hk
    ·rw [Own.ab e] at hk;rw [Own.ab e,Own.ab e];exact hk
 have c8 : ∀ k:Key,¬(k.1=1∧k.2<aG s)→¬(k.1=2∧k.2<aG s)→o8 k=o7.upd (0,2) (it T.al vb8 (List.replicate (aG s) (BlkM.mk ⟨.slice none 0 0⟩ ⟨.slice none 0 0⟩ ⟨0,[],[],⟨0⟩⟩))) k:=fun k h1 h2=>by
  rw [ho8];dsimp only;rw [if_neg h1,if_neg h2]
 refine w8.bn (k:=(0,0)) (n:=5) (i:=3) (e:=T.aL) (B:=M) (l:=mkL vs (dN s).2.at_ (dN s).2.ps vb (dN s).2.next vl) (by rw [c8 _ (by simp) (by simp),Own.ab (by simp)];exact bb.box) (by decide) (by kernel_rfl) rfl rfl hv8 fun h9 w9 _=>?_
 obtain ⟨o9,ho9⟩ : ∃ o9:Own,o9=o8.upd (0,0) (bx T.aL M (RawN.mk (n:=5) (mkL vs (dN s).2.at_ (dN s).2.ps vb8 (dN s).2.next vl))):=⟨_,rfl⟩
 have w9:Owns W7 h9 o9:=by rw [ho9];exact w9
 have b9:MkB M vs { (dN s).2 with blocks:=List.replicate (aG s) ma } o9 vb8 vl (List.replicate (aG s) (BlkM.mk ⟨.slice none 0 0⟩ ⟨.slice none 0 0⟩ ⟨0,[],[],⟨0⟩⟩)):=by
  rw [ho9]
  refine ⟨rfl,?_,?_,by simp,fun i hi=>?_,fun i hi=>?_,fun i hi=>?_⟩
  ·rw [Own.ab (by simp),c8 _ (by simp) (by simp),Own.ab (by simp)];exact bb.live
  ·rw [Own.ab (by simp),c8 _ (by simp) (by simp),Own.ag]
  ·have hi:i<aG s:=by simpa using hi
   rw [au hi,au hi];rfl
  ·have hi:i<aG s:=by simpa using hi
   rw [Own.ab (by simp),ho8];dsimp only
   rw [if_pos ⟨rfl,hi⟩,au hi,au hi];rfl
  ·have hi:i<aG s:=by simpa using hi
   rw [Own.ab (by simp),ho8];dsimp only
   rw [if_neg (by simp),if_pos ⟨rfl,hi⟩,au hi,au hi];rfl
 have x9:Nx s M vs W7 h9 (gh R o0) { (dN s).2 with blocks:=List.replicate (aG s) ma }:=⟨W7,o9,View.le_refl _,⟨w9,w7.src,vb8,vl,_,b9⟩,fun k hk=>by
  rw [ho9,Own.ab (by rintro rfl;simp at hk),c8 _ (by omega) (by omega),Own.ab (by rintro rfl;simp at hk)];exact f7 k hk⟩
 clear b9 w9 ho9 c8 w8 ho8 wb wa hv8 bb ob8 m8 hle8 hb8 w7 f7
 rw [hz];clear hz z
 refine aa fun z hz=>?_
 refine aa fun y hy=>?_
 simp
 rw [hy];clear hy y
 refine DA (vr:=.pointer (some ⟨R,0,none⟩)) st k1.len x9 (by simp) (by omega) (by simp [bz,ae,af]) fun h10 x10=>?_
 have x10:Nx s M vs W7 h10 (gh R o0) (jr s):=x10
 clear x9
 simp
 rw [hz];clear hz z
 refine aa fun z hz=>?_
 simp
 obtain ⟨Wa,oa,ga,wa,fa⟩:=x10
 refine ll (α:=Int) (W:=Wa) (k:=.i64) (n:=aG s) (d:=0) El.aP (by rfl) (by rfl) ⟨rfl,by decide,by decide⟩ (by omega) (by omega) fun vp h11 ob11 m11 hle11 hb11=>?_
 have x11:Nx s M vs W7 h11 ((gh R o0).upd (5,0) (it T.int vp (List.replicate (aG s) (0:Int)))) (jr s):=by
  have w11:=wa.own.add (k:=(5,0)) ((fa _ (by decide)).trans rfl) ob11 hle11 (fun b hb=>by rw [hb11] at hb;cases hb;exact Nat.le_refl _)
  obtain ⟨vb,vl,lb,bb⟩:=wa.box
  refine ⟨Wa,_,ga,⟨w11,wa.src,vb,vl,lb,bb.frame fun q hq=>Own.ab (by rintro rfl;simp at hq)⟩,fun q hq=>?_⟩
  unfold Own.upd
  split
  ·rfl
  ·exact fa q hq
 clear wa fa ob11 m11 hb11
 rw [hz];clear hz z
 refine aa fun z hz=>?_
 refine aa fun y hy=>?_
 simp
 rw [hy];clear hy y
 obtain ⟨z2,g2⟩:=wZ (s:=s)
 have p0:Ph (aG s) 200 0 (List.replicate (aG s) (0:Int),jr s):=by
  have hz : ∀ j,nth (List.replicate (aG s) (0:Int)) j=0:=fun j=>by
   rcases Nat.lt_or_ge j (aG s) with hj | hj
   ·rw [au hj]
   ·rw [aV (by simpa using hj)];rfl
  exact ⟨z2,by simp,fun j _=>hz j,fun j=>by show 0≤nth (List.replicate _ (0:Int)) j∧nth (List.replicate _ (0:Int)) j≤3;rw [hz];omega⟩
 refine De (x0:=(List.replicate (aG s) (0:Int),jr s)) (vr:=.pointer (some ⟨R,0,none⟩)) (vt:=vt) (vp:=vp) x11 p0 n1 (by omega) (by omega) (by simp [bz,ae,af]) fun h12 x12=>?_
 have x12:Nx s M vs W7 h12 ((gh R o0).upd (5,0) (it T.int vp (eR s).1)) (eR s).2:=x12
 obtain ⟨ph,pc,g3⟩:=mJ (s:=s)
 clear p0 x11 z2 g2
 simp
 rw [hz];clear hz z
 refine aa fun z hz=>?_
 simp
 obtain ⟨Wa,oa,ga,wa,fa⟩:=x12
 refine ll (α:=Bool) (W:=Wa) (k:=.i64) (n:=aG s) (d:=false) El.ly (by rfl) (by rfl) rfl (by omega) (by omega) fun vd h13 ob13 m13 hle13 hb13=>?_
 have x13:Nx s M vs W7 h13 (((gh R o0).upd (5,0) (it T.int vp (eR s).1)).upd (6,0) (it T.bool vd (List.replicate (aG s) false))) (eR s).2:=by
  have w13:=wa.own.add (k:=(6,0)) ((fa _ (by decide)).trans rfl) ob13 hle13 (fun b hb=>by rw [hb13] at hb;cases hb;exact Nat.le_refl _)
  obtain ⟨vb,vl,lb,bb⟩:=wa.box
  refine ⟨Wa,_,ga,⟨w13,wa.src,vb,vl,lb,bb.frame fun q hq=>Own.ab (by rintro rfl;simp at hq)⟩,fun q hq=>?_⟩
  unfold Own.upd
  split
  ·rfl
  ·exact fa q hq
 clear wa fa ob13 m13 hb13
 rw [hz];clear hz z
 refine aa fun z hz=>?_
 refine aa fun y hy=>?_
 simp
 rw [hy];clear hy y
 refine DP (a:=16000) (p:=27) (x0:=(List.replicate (aG s) false,(eR s).2)) (vr:=.pointer (some ⟨R,0,none⟩)) (vp:=vp) x13 st k1.len rfl rfl rfl xv n2 (by omega) (by omega) (by omega) (by simp [bz,ae,af]) fun h14 x14=>?_
 have x14:Nx s M vs W7 h14 (((gh R o0).upd (5,0) (it T.int vp (eR s).1)).upd (6,0) (it T.bool vd (kv s).1)) (kv s).2:=x14
 obtain ⟨q4,pc4⟩:=sj (s:=s)
 clear x13 pc g3
 simp
 rw [hz];clear hz z
 refine aa fun z hz=>?_
 refine aa fun y hy=>?_
 simp
 rw [hy];clear hy y
 refine BY (vr:=.pointer (some ⟨R,0,none⟩)) (vt:=vt) (vp:=vp) (vd:=vd) (lp:=(eR s).1) x14 ((Own.ab (by simp)).trans Own.ag) rfl rfl q4 pc4 ph.len ph.rng n1 n2 (by omega) (by omega) (by omega) (by omega) (by simp [bz,ae,af]) fun h15 x15=>?_
 have x15:Nx s M vs W7 h15 (((gh R o0).upd (5,0) (it T.int vp (eR s).1)).upd (6,0) (it T.bool vd (kv s).1)) (gg s):=x15
 have q5:=oL (s:=s)
 clear x14 q4 pc4 ph
 simp
 rw [hz];clear hz z
 refine aa fun z hz=>?_
 obtain ⟨Wa,oa,ga,wa,fa⟩:=x15
 obtain ⟨vb,vl,lb,bb⟩:=wa.box
 have rd:=wa.reads bb
 simp [rd.f]
 have hvb:vb.oneCell'=true:=rd.blk.cells.2
 refine wa.own.fG (k:=(8,0)) (α:=RawN 1) (β:=RawN 1) Part.all (B:=R) (D:=RawN.mk (n:=1) [.int .i64 0,.slice none 0 0]) (d:=RawN.mk (n:=1) [.int .i64 (gg s).ps,vb]) ((fa _ (by decide)).trans rfl) (by kernel_rfl) rfl rfl (eV rfl (by intro c hc;simp only [List.mem_cons,List.not_mem_nil,or_false] at hc;rcases hc with rfl | rfl<;>first | rfl | exact hvb)) fun h16 w16 _=>?_
 have c16:=w16.dE (k:=(8,0)) (n:=1) (l:=[.int .i64 (gg s).ps,vb]) Own.ag
 have c16:Un.ev (vw h16) (.an 2) (.pointer (some ⟨R,0,none⟩))=some (.agg #[.int .i64 (gg s).ps,vb]):=c16
 have b16:=bb.frame (o':=oa.upd (8,0) (bx T.aE R (RawN.mk (n:=1) [.int .i64 (gg s).ps,vb]))) fun q hq=>Own.ab (by rintro rfl;simp at hq)
 have w16:Mk s M vs Wa h16 _ (gg s):=⟨w16,wa.src,vb,vl,lb,b16⟩
 have rd16:=w16.reads b16
 rw [hz];clear hz z
 simp [c16]
 refine hK _ _ ⟨Wa,fun k=>if 3≤k.1 then o0 k else if k=(0,2)∨k.1=1∨k.1=2 then oa k else none,vb,lb,View.le_trans g7 ga,w16.own.sub fun k i hk=>?_,fun k hk=>if_pos hk,⟨?_,b16.len,b16.term,fun i hi=>?_,fun i hi=>?_⟩,rfl⟩
 ·split at hk
  ·rename_i e3
   rcases Nat.lt_or_ge k.1 10 with e | e
   ·rw [ho0 k e] at hk;cases hk
   ·have h1:oa k=o0 k:=(fa k (by omega)).trans (by
     rw [Own.ab (by rintro rfl;simp at e),Own.ab (by rintro rfl;simp at e)]
     unfold gh;rw [if_neg (by rintro rfl;simp at e),if_pos e])
    rw [Own.ab (by rintro rfl;simp at e),h1];exact hk
  ·rename_i e3
   split at hk
   ·rw [Own.ab (by rintro rfl;simp at e3)];exact hk
   ·cases hk
 ·have:=b16.blk
  rw [Own.ab (by simp)] at this
  simpa using this
 ·have:=b16.phis i hi
  rw [Own.ab (by simp)] at this
  exact (by simp:_=oa (1,i)).trans this
 ·have:=b16.ins i hi
  rw [Own.ab (by simp)] at this
  exact (by simp:_=oa (2,i)).trans this
end Go.Proofs.Ytfelpjfopgiabaa
namespace Go.Proofs.Ytfelpjfopgiabaa
open Go Go.Lft
def Marks (m:BL) (S:Int→Prop):Prop:=m.length=8192∧∀ n:Int,0≤n→n<8192→(nth m n.toNat=true↔S n)
theorem sn:Marks (List.replicate 8192 false) (fun _=>False):=⟨List.length_replicate,fun n h0 h1=>by rw [au (by omega)];simp⟩
theorem uk {m:BL} {S:Int→Prop} {n:Int} (h:Marks m S) (h0:0≤n) (h1:n<8192):Marks (m.set n.toNat true) (fun k=>S k∨k=n):=by
 refine ⟨by simpa using h.1,fun k k0 k1=>?_⟩
 rw [aK (by rw [h.1];omega)]
 split
 ·rename_i e;exact ⟨fun _=>.inr (by omega),fun _=>rfl⟩
 ·rename_i e
  rw [h.2 k k0 k1]
  exact ⟨.inl,fun o=>o.resolve_right (by rintro rfl;exact e rfl)⟩
theorem Marks.congr {m:BL} {S T:Int→Prop} (h:Marks m S) (he : ∀ n,S n↔T n):Marks m T:=⟨h.1,fun n a b=>(h.2 n a b).trans (he n)⟩
theorem nV {t:Th} : ∀ {l:List Int} {m m':BL} {S:Int→Prop},Marks m S→(∀ n∈l,0≤n∧n<8192)→l.foldlM (iA t) m = .ok m'→Marks m' (fun k=>S k∨k∈l)∧l.Nodup∧∀ n∈l,¬S n
 | [],m,m',S,h,_,e=>by cases e;exact ⟨h.congr fun n=>by simp,List.nodup_nil,fun n hn=>by cases hn⟩
 | a::l,m,m',S,h,hl,e=>by
  rw [List.foldlM_cons] at e
  have ha:=hl a List.mem_cons_self
  unfold iA at e
  by_cases hc:nth m a.toNat=true
  ·rw [if_pos hc] at e;cases e
  ·rw [if_neg hc] at e
   obtain ⟨g1,g2,g3⟩:=nV (uk h ha.1 ha.2) (fun n hn=>hl n (List.mem_cons_of_mem _ hn)) e
   refine ⟨g1.congr fun n=>by rw [List.mem_cons,or_assoc],List.nodup_cons.2 ⟨fun hm=>g3 a hm (.inr rfl),g2⟩,fun n hn=>?_⟩
   rcases List.mem_cons.1 hn with rfl | hn
   ·exact fun hs=>hc ((h.2 n ha.1 ha.2).2 hs)
   ·exact fun hs=>g3 n hn (.inl hs)
theorem rS {t:Th} : ∀ {l:List Int} {m:BL} {S:Int→Prop},Marks m S→(∀ n∈l,0≤n∧n<8192)→l.Nodup→(∀ n∈l,¬S n)→∃ m',l.foldlM (iA t) m = .ok m'
 | [],m,S,h,_,_,_=>⟨m,rfl⟩
 | a::l,m,S,h,hl,hd,hs=>by
  have ha:=hl a List.mem_cons_self
  rw [List.foldlM_cons]
  unfold iA
  rw [if_neg fun hc=>hs a List.mem_cons_self ((h.2 a ha.1 ha.2).1 hc)]
  obtain ⟨d1,d2⟩:=List.nodup_cons.1 hd
  refine rS (uk h ha.1 ha.2) (fun n hn=>hl n (List.mem_cons_of_mem _ hn)) d2 fun n hn=>?_
  rintro (g | rfl)
  ·exact hs n (List.mem_cons_of_mem _ hn) g
  ·exact d1 hn
structure jG (f:ak) (t:Th):Prop where
 op:kz f t=true→kg (oO f t)=false
 term:jm f t=true→jg (fE f t).term=true
 mks : ∀ n∈t.mks,f.params≤n∧n≤8191
 to:jm f t=true→∀ n∈(fE f t).term.to,1≤n∧n<f.blocks.length
theorem yE {t:Th} {m:BL}:upE (nw t) t.mks.length m=t.mks.foldlM (iA t) m:=lY (f:=iA t)
theorem any_false {α:Type} {p:α→Bool} {l:List α}:l.any p=false↔∀ n∈l,p n=false:=by
 rw [List.any_eq_false]
 exact forall_congr' fun n=>forall_congr' fun _=>by simp
theorem yl {f:ak} {n:Int}:kq f n=false↔f.params≤n∧n≤8191:=by simp [kq]
theorem Aa {f:ak} {n:Int}:td f n=false↔1≤n∧n<f.blocks.length:=by simp [td]
theorem yX {f:ak} {t:Th} {m m':BL} (h:eU f t m = .ok m'):jG f t∧t.mks.foldlM (iA t) m = .ok m':=by
 unfold eU at h
 split at h
 ·cases h
 rename_i c1
 split at h
 ·cases h
 rename_i c2
 split at h
 ·cases h
 rename_i c3
 rw [yE] at h
 unfold j9 at h
 split at h
 ·cases h
 rename_i m1 e
 split at h
 ·cases h
 rename_i c4
 cases h
 refine ⟨⟨fun g=>?_,fun g=>?_,fun n hn=>?_,fun g n hn=>?_⟩,e⟩
 ·simpa [g] using c1
 ·simpa [g] using c2
 ·exact yl.1 (any_false.1 (by simpa only [Bool.not_eq_true] using c3) n hn)
 ·refine Aa.1 (any_false.1 (by simpa only [g,Bool.true_and,Bool.not_eq_true] using c4) n hn)
theorem xn {f:ak} {t:Th} {m m':BL} (h:jG f t) (e:t.mks.foldlM (iA t) m = .ok m'):eU f t m = .ok m':=by
 unfold eU
 rw [if_neg,if_neg,if_neg]
 ·rw [yE,e]
  unfold j9
  dsimp only
  rw [if_neg]
  intro c
  obtain ⟨c1,c2⟩:=(Bool.and_eq_true _ _).mp c
  rw [any_false.2 fun n hn=>Aa.2 (h.to c1 n hn)] at c2
  cases c2
 ·rw [any_false.2 fun n hn=>yl.2 (h.mks n hn)];exact Bool.false_ne_true
 ·intro c
  obtain ⟨c1,c2⟩:=(Bool.and_eq_true _ _).mp c
  rw [h.term c1] at c2;cases c2
 ·intro c
  obtain ⟨c1,c2⟩:=(Bool.and_eq_true _ _).mp c
  rw [h.op c1] at c2;cases c2
def iH (l:List Th):List Int:=l.flatMap Th.mks
theorem qj {f:ak} (hp:0≤f.params) : ∀ {l:List Th} {m m':BL} {S:Int→Prop},Marks m S→l.foldlM (fun m t=>eU f t m) m = .ok m'→(∀ t∈l,jG f t)∧(iH l).Nodup∧∀ n∈iH l,¬S n
 | [],m,m',S,h,e=>⟨fun t ht=>(by cases ht),List.nodup_nil,fun n hn=>(by cases hn)⟩
 | t::l,m,m',S,h,e=>by
  rw [List.foldlM_cons] at e
  cases e1:eU f t m with
  | error x=>rw [e1] at e;cases e
  | ok m1=>
   rw [e1] at e
   obtain ⟨g,e2⟩:=yX e1
   obtain ⟨k1,k2,k3⟩:=nV h (fun n hn=>by have:=g.mks n hn;omega) e2
   obtain ⟨i1,i2,i3⟩:=qj hp k1 e
   refine ⟨fun x hx=>?_,?_,fun n hn=>?_⟩
   ·rcases List.mem_cons.1 hx with rfl | hx
    ·exact g
    ·exact i1 x hx
   ·refine List.nodup_append.2 ⟨k2,i2,fun a ha b hb=>?_⟩
    rintro rfl
    exact i3 a hb (.inr ha)
   ·rcases List.mem_append.1 hn with hn | hn
    ·exact k3 n hn
    ·exact fun hs=>i3 n hn (.inl hs)
theorem sG {f:ak} (hp:0≤f.params) : ∀ {l:List Th} {m:BL} {S:Int→Prop},Marks m S→(∀ t∈l,jG f t)→(iH l).Nodup→(∀ n∈iH l,¬S n)→∃ m',l.foldlM (fun m t=>eU f t m) m = .ok m'
 | [],m,S,_,_,_,_=>⟨m,rfl⟩
 | t::l,m,S,h,hg,hd,hs=>by
  have g:=hg t List.mem_cons_self
  obtain ⟨d1,d2,d3⟩:=List.nodup_append.1 (show (t.mks++iH l).Nodup from hd)
  have hr : ∀ n∈t.mks,0≤n∧n<8192:=fun n hn=>by have:=g.mks n hn;omega
  obtain ⟨m1,e⟩:=rS (t:=t) h hr d1 fun n hn=>hs n (List.mem_append_left _ hn)
  rw [List.foldlM_cons,xn g e]
  obtain ⟨k1,_,_⟩:=nV h hr e
  exact sG hp k1 (fun x hx=>hg x (List.mem_cons_of_mem _ hx)) d2 fun n hn=>by
   rintro (q | q)
   ·exact hs n (List.mem_append_right _ hn) q
   ·exact d3 n q n hn rfl
def gN (f:ak) (v b p:Int):Prop:=(0≤v∧v<f.params)∨∃ t∈ar f,v∈t.mks∧(t.blk=b∧(t.place<0∨t.place<p)∨t.blk≠b∧¬Re (ofG f.blocks) t.blk b.toNat)
structure BC (ts:List Th) (s:List Th):Prop where
 len:s.length=8192
 is : ∀ n:Int,0≤n→n<8192→(nth s n.toNat=noTh∧∀ t∈ts,n∉t.mks)∨(nth s n.toNat∈ts∧n∈(nth s n.toNat).mks)
theorem yv {t:Th} {ts:List Th} : ∀ {l:List Int} {s:List Th} {d:List Int},(∀ n∈l,n∈t.mks)→(s.length=8192∧∀ n:Int,0≤n→n<8192→(nth s n.toNat=noTh∧(∀ t∈ts,n∉t.mks)∧n∉d)∨(nth s n.toNat∈ts++[t]∧n∈(nth s n.toNat).mks))→
  ((l.foldl (eA t) s).length=8192∧∀ n:Int,0≤n→n<8192→(nth (l.foldl (eA t) s) n.toNat=noTh∧(∀ t∈ts,n∉t.mks)∧n∉d++l)∨(nth (l.foldl (eA t) s) n.toNat∈ts++[t]∧n∈(nth (l.foldl (eA t) s) n.toNat).mks))
 | [],s,d,_,h=>by simpa using h
 | a::l,s,d,hl,h=>by
  rw [List.foldl_cons]
  have:=yv (t:=t) (ts:=ts) (l:=l) (s:=eA t s a) (d:=d++[a]) (fun n hn=>hl n (List.mem_cons_of_mem _ hn)) ⟨by rw [kU];exact h.1,fun n h0 h1=>?_⟩
  ·simpa using this
  ·unfold eA
   split
   ·rw [aK (by rw [h.1];omega)]
    split
    ·rename_i hc e
     have:n=a:=by omega
     subst this
     exact .inr ⟨List.mem_append_right _ (List.mem_singleton.2 rfl),hl n List.mem_cons_self⟩
    ·rename_i hc e
     rcases h.2 n h0 h1 with ⟨a1,a2,a3⟩ | a1
     ·refine .inl ⟨a1,a2,?_⟩
      rw [List.mem_append,List.mem_singleton]
      rintro (q | rfl)
      ·exact a3 q
      ·exact e rfl
     ·exact .inr a1
   ·rename_i hc
    rcases h.2 n h0 h1 with ⟨a1,a2,a3⟩ | a1
    ·refine .inl ⟨a1,a2,?_⟩
     rw [List.mem_append,List.mem_singleton]
     rintro (q | rfl)
     ·exact a3 q
     ·exact hc ⟨h0,h1⟩
    ·exact .inr a1
theorem ya : ∀ {l ts s:List Th},BC ts s→BC (ts++l) (l.foldl nS s)
 | [],ts,s,h=>by simpa using h
 | t::l,ts,s,h=>by
  rw [List.foldl_cons]
  have:=yv (t:=t) (ts:=ts) (l:=t.mks) (s:=s) (d:=[]) (fun n hn=>hn) ⟨h.len,fun n h0 h1=>(h.is n h0 h1).elim (fun a=>.inl ⟨a.1,a.2,List.not_mem_nil⟩) fun a=>.inr ⟨List.mem_append_left _ a.1,a.2⟩⟩
  have:=ya (l:=l) (ts:=ts++[t]) (s:=nS s t) ⟨this.1,fun n h0 h1=>(this.2 n h0 h1).elim (fun a=>.inl ⟨a.1,fun x hx=>?_⟩) .inr⟩
  ·simpa using this
  ·rcases List.mem_append.1 hx with hx | hx
   ·exact a.2.1 x hx
   ·rw [List.mem_singleton.1 hx];simpa using a.2.2
theorem tP {f:ak}:BC (ar f) (fU f):=
 ya (l:=ar f) (ts:=[]) (s:=List.replicate 8192 noTh) ⟨List.length_replicate,fun n h0 h1=>.inl ⟨au (by omega),fun t ht=>by cases ht⟩⟩
theorem oE {f:ak} {t:Th} (h:t∈ar f):0≤t.blk∧t.blk<f.blocks.length:=by
 obtain ⟨b,hb,ht⟩:=cU.1 h
 rcases dw.1 ht with ⟨i,hi,rfl⟩ | ⟨i,hi,rfl⟩ | rfl<;>exact ⟨Int.natCast_nonneg _,Int.ofNat_lt.2 hb⟩
theorem zK {f:ak} {a b:Int} (h0:0≤a) (h1:a<f.blocks.length) (h2:0≤b) (h3:b<f.blocks.length):nth (nth (fq f) a.toNat) b.toNat=true↔Re (ofG f.blocks) a b.toNat:=by
 unfold fq
 rw [dq (by omega),Int.toNat_of_nonneg h0]
 exact eF (by omega)
theorem uQ {f:ak} {v b p:Int} (hb0:0≤b) (hb1:b<f.blocks.length) (h:fA f (fU f) (fq f) v b p=true):gN f v b p:=by
 unfold fA at h
 split at h
 ·rename_i c;exact .inl c
 split at h
 ·cases h
 rename_i c1 c2
 rcases tP.is v (by omega) (by omega) with ⟨e,_⟩ | ⟨hm,hv⟩
 ·exact absurd (.inr (by rw [e];decide)) c2
 have hat:=oE hm
 refine .inr ⟨_,hm,hv,?_⟩
 split at h
 ·rename_i e;exact .inl ⟨e,by simpa using h⟩
 ·rename_i e
  refine .inr ⟨e,fun hr=>?_⟩
  rw [(zK hat.1 hat.2 hb0 hb1).2 hr] at h;cases h
theorem yf : ∀ {l:List Th},(iH l).Nodup→∀ {t t':Th} {v:Int},t∈l→t'∈l→v∈t.mks→v∈t'.mks→t=t'
 | a::l,hd,t,t',v,h,h',hv,hv'=>by
  obtain ⟨d1,d2,d3⟩:=List.nodup_append.1 (show (a.mks++iH l).Nodup from hd)
  rcases List.mem_cons.1 h with e1 | h1
  ·rcases List.mem_cons.1 h' with e2 | h2
   ·rw [e1,e2]
   ·exact absurd rfl (d3 v (by rw [←e1];exact hv) v (List.mem_flatMap.2 ⟨t',h2,hv'⟩))
  ·rcases List.mem_cons.1 h' with e2 | h2
   ·exact absurd rfl (d3 v (by rw [←e2];exact hv') v (List.mem_flatMap.2 ⟨t,h1,hv⟩))
   ·exact yf d2 h1 h2 hv hv'
theorem tT {f:ak} {v b p:Int} (hd:(iH (ar f)).Nodup) (hr : ∀ t∈ar f,∀ n∈t.mks,0≤n∧n≤8191) (hb0:0≤b) (hb1:b<f.blocks.length) (h:gN f v b p):fA f (fU f) (fq f) v b p=true:=by
 unfold fA
 rcases h with c | ⟨t,ht,hv,h⟩
 ·rw [if_pos c]
 split
 ·rfl
 have hn:=hr t ht v hv
 have hat:=oE ht
 have e:nth (fU f) v.toNat=t:=by
  rcases tP.is v hn.1 (by omega) with ⟨_,a⟩ | ⟨a,b⟩
  ·exact absurd hv (a t ht)
  ·exact yf hd a ht b hv
 rw [e,if_neg (by omega)]
 rcases h with ⟨h1,h2⟩ | ⟨h1,h2⟩
 ·rw [if_pos h1];simpa using h2
 ·rw [if_neg h1]
  cases ec:nth (nth (fq f) t.blk.toNat) b.toNat with
  | false=>rfl
  | true=>exact absurd ((zK hat.1 hat.2 hb0 hb1).1 ec) h2
structure jK (f:ak):Prop where
 params:0≤f.params∧f.params≤4
 blocks:0<f.blocks.length∧f.blocks.length≤512
 cnt:mj f f.blocks.length≤4096
 good : ∀ t∈ar f,jG f t
 nodup:(iH (ar f)).Nodup
 way : ∀ b:Nat,b<f.blocks.length→Re (ofG f.blocks) (-1) b
 takes : ∀ t∈ar f,0≤t.place→∀ v∈t.tks,gN f v t.blk t.place
 phi : ∀ b i:Nat,b<f.blocks.length→i<(nth f.blocks b).phis.length→0<b∧(nth (nth f.blocks b).phis i).ins.map InD.frm=az f b∧∀ p∈(nth (nth f.blocks b).phis i).ins,gN f p.val p.frm (oq f p.frm)
theorem kT {f:ak} {b x:Int}:x∈az f b↔(0≤x∧x<f.blocks.length)∧b∈(nth f.blocks x.toNat).term.to:=by
 unfold az
 rw [mA]
 constructor
 ·rintro ⟨a,ha,hb,rfl⟩
  exact ⟨⟨by omega,by omega⟩,by simpa using hb⟩
 ·rintro ⟨⟨h0,h1⟩,h⟩
  exact ⟨x.toNat,by omega,by simpa using h,by omega⟩
theorem rL {g:Nat→Unit→Except Tr Unit} : ∀ {n:Nat},(∀ i,i<n→g i () = .ok ())→upE g n () = .ok ()
 | 0,_=>rfl
 | n+1,h=>by
  simp only [upE]
  rw [rL fun i hi=>h i (by omega)]
  exact h n (by omega)
theorem rD {f:ak} {t:Th}:fy f (fU f) (fq f) t = .ok ()↔
  (0≤t.place∧∀ v∈t.tks,fA f (fU f) (fq f) v t.blk t.place=true)∨(t.place<0∧nG f t=true∧∀ p∈(nF f t).ins,fA f (fU f) (fq f) p.val p.frm (oq f p.frm)=true):=by
 unfold fy
 by_cases h0:0≤t.place
 ·rw [if_pos h0]
  have hn:¬t.place<0:=by omega
  simp only [h0,hn,true_and,false_and,or_false]
  cases e:t.tks.any (stT f (fU f) (fq f) t) with
  | true=>
   obtain ⟨v,hv,hs⟩:=List.any_eq_true.1 e
   constructor
   ·intro h;cases h
   ·intro h
    unfold stT at hs
    rw [h v hv] at hs;cases hs
  | false=>
   constructor
   ·intro _ v hv
    have:=any_false.1 e v hv
    simpa [stT] using this
   ·intro _;rfl
 ·rw [if_neg h0]
  have hn:t.place<0:=by omega
  simp only [h0,hn,true_and,false_and,false_or]
  cases e1:nG f t with
  | false=>simp
  | true=>
   rw [if_neg (by simp)]
   cases e:(nF f t).ins.any (stP f (fU f) (fq f)) with
   | true=>
    obtain ⟨v,hv,hs⟩:=List.any_eq_true.1 e
    constructor
    ·intro h;cases h
    ·rintro ⟨_,h⟩
     unfold stP at hs
     rw [h v hv] at hs;cases hs
   | false=>
    constructor
    ·intro _
     refine ⟨rfl,fun v hv=>?_⟩
     have:=any_false.1 e v hv
     simpa [stP] using this
    ·intro _;rfl
theorem yr {f:ak} {b i:Nat}:nF f (phiT f b i)=nth (nth f.blocks b).phis i:=by
 unfold nF fE phiT
 dsimp only
 rw [Int.toNat_natCast]
 congr 1
 omega
theorem Fu {f:ak} (h:(gj f).1=0):jK f:=by
 rw [tD] at h
 unfold oW at h
 split at h
 ·cases h
 rename_i c1
 split at h
 ·cases h
 rename_i c2
 split at h
 ·cases h
 rename_i c3
 cases hs:iO f with
 | error e=>
  obtain ⟨k,s',_,_,h3⟩:=nz (show upE _ _ _=_ from hs)
  have:=(qg h3).1
  rw [hs] at h
  rw [if_pos (by show e.1≠0;omega)] at h
  have h:e.1=0:=h
  omega
 | ok m=>
  rw [hs,if_neg (by simp [sB])] at h
  obtain ⟨g1,g2,_⟩:=qj (f:=f) (by omega) sn (by rw [←kt];exact hs)
  cases hw:wayE f with
  | error e=>
   rw [hw] at h
   obtain ⟨k,s',_,_,h3⟩:=nz (show upE _ _ _=_ from hw)
   split at h3
   ·cases h3
   ·cases h3;exact absurd (show (15:Int)=0 from h) (by decide)
  | ok u=>
   obtain ⟨⟩:=u
   rw [hw] at h
   cases hu:uB f with
   | error e=>
    rw [hu] at h
    obtain ⟨k,s',_,_,h3⟩:=nz (show upE _ _ _=_ from hu)
    have h:e.1=0:=h
    unfold fy at h3
    repeat' split at h3
    all_goals first | (cases h3;done) | (cases h3;first | exact absurd (show (13:Int)=0 from h) (by decide) | exact absurd (show (16:Int)=0 from h) (by decide))
   | ok u=>
    obtain ⟨⟩:=u
    have hst : ∀ t∈ar f,fy f (fU f) (fq f) t = .ok ():=fun t ht=>by
     obtain ⟨i,hi,e⟩:=List.getElem_of_mem ht
     have:=qH hu i hi
     rw [aq hi,e] at this;exact this
    refine ⟨by omega,by omega,by omega,g1,g2,fun b hb=>?_,fun t ht h0 v hv=>?_,fun b i hb hi=>?_⟩
    ·have:=qH hw b hb
     rw [←eF hb]
     split at this
     ·assumption
     ·cases this
    ·have hat:=oE ht
     rcases rD.1 (hst t ht) with ⟨_,k⟩ | ⟨k,_⟩
     ·exact uQ hat.1 hat.2 (k v hv)
     ·omega
    ·have ht:phiT f b i∈ar f:=cU.2 ⟨b,hb,dw.2 (.inl ⟨i,hi,rfl⟩)⟩
     rcases rD.1 (hst _ ht) with ⟨k,_⟩ | ⟨_,k1,k2⟩
     ·exact absurd k (by show ¬(0:Int)≤-1-(i:Int);omega)
     ·unfold nG at k1
      rw [yr] at k1 k2
      obtain ⟨k3,k4⟩:=(Bool.and_eq_true _ _).mp k1
      have k4:(nth (nth f.blocks b).phis i).ins.map InD.frm=az f b:=of_decide_eq_true k4
      have k3:(0:Int)<b:=of_decide_eq_true k3
      refine ⟨by omega,k4,fun p hp=>?_⟩
      have hm:p.frm∈az f b:=by rw [←k4];exact List.mem_map_of_mem hp
      have:=(kT.1 hm).1
      exact uQ this.1 this.2 (k2 p hp)
theorem Fl {f:ak} (h:jK f):gj f=(0,0,0):=by
 rw [tD]
 have hp:=h.params
 have hb:=h.blocks
 have hc:=h.cnt
 have hr : ∀ t∈ar f,∀ n∈t.mks,0≤n∧n≤8191:=fun t ht n hn=>by have:=(h.good t ht).mks n hn;omega
 unfold oW
 rw [if_neg (by omega),if_neg (by omega),if_neg (by omega)]
 obtain ⟨m,hm⟩:=sG (f:=f) (by omega) sn h.good h.nodup fun _ _=>id
 rw [kt,hm,if_neg (by simp [sB])]
 have hw:wayE f = .ok ():=rL fun i hi=>if_pos ((eF hi).2 (h.way i hi))
 have hu:uB f = .ok ():=rL fun i hi=>by
  have ht:=bU hi
  generalize nth (ar f) i=t at ht
  rw [rD]
  have hat:=oE ht
  by_cases h0:0≤t.place
  ·exact .inl ⟨h0,fun v hv=>tT h.nodup hr hat.1 hat.2 (h.takes t ht h0 v hv)⟩
  ·refine .inr ⟨by omega,?_⟩
   obtain ⟨b,hb,hm⟩:=cU.1 ht
   rcases dw.1 hm with ⟨i,hi,rfl⟩ | ⟨i,hi,rfl⟩ | rfl
   ·obtain ⟨k1,k2,k3⟩:=h.phi b i hb hi
    unfold nG
    rw [yr]
    refine ⟨(Bool.and_eq_true _ _).mpr ⟨decide_eq_true (by show (0:Int)<b;omega),decide_eq_true k2⟩,fun p hp=>?_⟩
    have hm:p.frm∈az f b:=by rw [←k2];exact List.mem_map_of_mem hp
    have:=(kT.1 hm).1
    exact tT h.nodup hr this.1 this.2 (k3 p hp)
   ·exact absurd (Int.natCast_nonneg _) h0
   ·exact absurd (Int.natCast_nonneg _) h0
 rw [hw,hu]
 rfl
end Go.Proofs.Ytfelpjfopgiabaa
namespace Go.Proofs.Ytfelpjfopgiabaa
open Go Go.Lft
def mkB (x:BlkD):List Int:=x.phis.map PhiD.dst++x.ins.flatMap aU
def Sd (m:MS) (b p:Nat) (v:Int):Prop:=
 (0≤v∧v<m.ps)∨v∈(nth m.blocks b).phis.map PhiD.dst∨v∈((nth m.blocks b).ins.take p).flatMap aU∨∃ a,a<m.blocks.length∧a≠b∧v∈mkB (nth m.blocks a)∧¬Re (ofG m.blocks) a b
structure Ext (m m':MS):Prop where
 ps:m'.ps=m.ps
 len:m'.blocks.length=m.blocks.length
 to : ∀ j,(nth m'.blocks j).term.to=(nth m.blocks j).term.to
 phis : ∀ j,∀ v∈(nth m.blocks j).phis.map PhiD.dst,v∈(nth m'.blocks j).phis.map PhiD.dst
 ins : ∀ j,∃ l,(nth m'.blocks j).ins=(nth m.blocks j).ins++l
theorem AI {a b:List BlkD} (hl:a.length=b.length) (h : ∀ j,(nth a j).term.to=(nth b j).term.to):ofG a=ofG b:=by
 unfold ofG
 rw [hl]
 exact congrFun (congrArg rows (funext fun i=>by rw [h i])) _
section
variable {m m' m2:MS}
theorem Ext.gr (e:Ext m m'):ofG m'.blocks=ofG m.blocks:=AI e.len e.to
theorem Ext.refl:Ext m m:=⟨rfl,rfl,fun _=>rfl,fun _ _ h=>h,fun _=>⟨[],by simp⟩⟩
theorem Ext.trans (e:Ext m m') (f:Ext m' m2):Ext m m2:=⟨f.ps.trans e.ps,f.len.trans e.len,fun j=>(f.to j).trans (e.to j),fun j v h=>f.phis j v (e.phis j v h),fun j=>by
 obtain ⟨l,h⟩:=e.ins j
 obtain ⟨k,g⟩:=f.ins j
 exact ⟨l++k,by rw [g,h,List.append_assoc]⟩⟩
theorem Ext.mkB (e:Ext m m') {j:Nat} {v:Int} (h:v∈mkB (nth m.blocks j)):v∈mkB (nth m'.blocks j):=by
 obtain ⟨l,g⟩:=e.ins j
 unfold Go.Proofs.Ytfelpjfopgiabaa.mkB at *
 rw [g,List.flatMap_append]
 rcases List.mem_append.1 h with h | h
 ·exact List.mem_append_left _ (e.phis _ _ h)
 ·exact List.mem_append_right _ (List.mem_append_left _ h)
theorem Ext.le (e:Ext m m') (j:Nat):(nth m.blocks j).ins.length≤(nth m'.blocks j).ins.length:=by
 obtain ⟨l,g⟩:=e.ins j
 rw [g,List.length_append];omega
theorem Sd.ext (e:Ext m m') {b p:Nat} {v:Int} (h:Sd m b p v):Sd m' b p v:=by
 rcases h with h | h | h | ⟨a,h1,h2,h3,h4⟩
 ·exact .inl (by rw [e.ps];exact h)
 ·exact .inr (.inl (e.phis _ _ h))
 ·obtain ⟨l,g⟩:=e.ins b
  refine .inr (.inr (.inl ?_))
  rw [g,List.take_append,List.flatMap_append]
  exact List.mem_append_left _ h
 ·exact .inr (.inr (.inr ⟨a,by rw [e.len];exact h1,h2,e.mkB h3,by rw [e.gr];exact h4⟩))
theorem Sd.le {b p q:Nat} {v:Int} (h:Sd m b p v) (hpq:p≤q):Sd m b q v:=by
 rcases h with h | h | h | h
 ·exact .inl h
 ·exact .inr (.inl h)
 ·refine .inr (.inr (.inl ?_))
  obtain ⟨i,hi,hv⟩:=List.mem_flatMap.1 h
  exact List.mem_flatMap.2 ⟨i,(List.take_sublist_take_left hpq).subset hi,hv⟩
 ·exact .inr (.inr (.inr h))
theorem Sd.end (e:Ext m m') {b:Nat} {v:Int} (h:Sd m b (nth m.blocks b).ins.length v):Sd m' b (nth m'.blocks b).ins.length v:=(h.ext e).le (e.le b)
def NumI (i:InsD):Prop:=(i.op=16→i.dst=0)∧(i.op≠18→i.two=0)
structure Ok (m:MS):Prop where
 p0:0≤m.ps
 pn:m.ps≤m.next
 op : ∀ b,b<m.blocks.length→∀ i∈(nth m.blocks b).ins,kg i=false∧NumI i
 nd : ∀ b,b<m.blocks.length→(mkB (nth m.blocks b)).Nodup
 dj : ∀ a b,a<m.blocks.length→b<m.blocks.length→a≠b→∀ v∈mkB (nth m.blocks a),v∉mkB (nth m.blocks b)
 rg : ∀ b,b<m.blocks.length→∀ v∈mkB (nth m.blocks b),m.ps≤v∧v<m.next
 tk : ∀ b,b<m.blocks.length→∀ i,i<(nth m.blocks b).ins.length→∀ v∈(nth (nth m.blocks b).ins i).args,Sd m b i v
 tm : ∀ b,b<m.blocks.length→∀ v∈(nth m.blocks b).term.args,Sd m b (nth m.blocks b).ins.length v
theorem Ok.at (q:Ok m) {a:Nat} {nx:Int} {l:List Int} (h:m.next≤nx):Ok ⟨a,m.ps,m.blocks,nx,l⟩:=
 ⟨q.p0,Int.le_trans q.pn h,q.op,q.nd,q.dj,fun b hb v hv=>⟨(q.rg b hb v hv).1,Int.lt_of_lt_of_le (q.rg b hb v hv).2 h⟩,q.tk,q.tm⟩
theorem na {b j:Nat} {i:InsD} (hb:b<m.blocks.length):nth (m.add b i).blocks j=if b=j then { nth m.blocks b with ins:=(nth m.blocks b).ins++[i] } else nth m.blocks j:=by
 show nth (m.blocks.set b _) j=_
 rcases Nat.lt_or_ge j m.blocks.length with hl | hl
 ·rw [aK hl]
 ·rw [aV (by simpa using hl),if_neg (by omega),aV hl]
theorem vJ {b:Nat} {i:InsD} (hb:b<m.blocks.length):Ext m (m.add b i):=by
 refine ⟨rfl,iT,fun j=>?_,fun j=>?_,fun j=>?_⟩<;>rw [na hb]<;>split
 ·rename_i e;rw [e]
 ·rfl
 ·rename_i e;rw [e];exact fun _ h=>h
 ·exact fun _ h=>h
 ·rename_i e;rw [e];exact ⟨[i],rfl⟩
 ·exact ⟨[],by simp⟩
theorem qU {x:BlkD} {i:InsD}:mkB { x with ins:=x.ins++[i] }=mkB x++aU i:=by
 unfold mkB
 simp
theorem Ok.add (q:Ok m) {b a:Nat} {nx:Int} {i:InsD} {l:List Int} (hb:b<m.blocks.length) (hn:m.next≤nx) (hf : ∀ v∈aU i,m.next≤v∧v<nx) (hd:(aU i).Nodup) (ho:kg i=false∧NumI i) (ha : ∀ v∈i.args,Sd m b (nth m.blocks b).ins.length v) :
  Ok (MS.add ⟨a,m.ps,m.blocks,nx,l⟩ b i):=by
 have q1:=q.pn
 have q:=q.at (a:=a) (l:=l) hn
 have ha : ∀ v∈i.args,Sd ⟨a,m.ps,m.blocks,nx,l⟩ b (nth m.blocks b).ins.length v:=ha
 have q0 : ∀ b,b<m.blocks.length→∀ v∈mkB (nth m.blocks b),v<m.next:=fun b hb v hv=>(‹Ok m›.rg b hb v hv).2
 have hl:((⟨a,m.ps,m.blocks,nx,l⟩:MS).add b i).blocks.length=m.blocks.length:=iT
 have e:=vJ (m:=⟨a,m.ps,m.blocks,nx,l⟩) (i:=i) hb
 have hnth : ∀ j,nth ((⟨a,m.ps,m.blocks,nx,l⟩:MS).add b i).blocks j=if b=j then { nth m.blocks b with ins:=(nth m.blocks b).ins++[i] } else nth m.blocks j:=fun j=>na hb
 refine ⟨q.p0,q.pn,fun c hc=>?_,fun c hc=>?_,fun c d hc hd' hcd=>?_,fun c hc=>?_,fun c hc=>?_,fun c hc=>?_⟩<;>rw [hl] at hc
 ·rw [hnth];split
  ·intro x hx
   rcases List.mem_append.1 hx with hx | hx
   ·exact q.op b hb x hx
   ·rw [List.mem_singleton.1 hx];exact ho
  ·exact q.op c hc
 ·rw [hnth];split
  ·rw [qU]
   refine List.nodup_append.2 ⟨q.nd b hb,hd,fun x hx y hy=>?_⟩
   have:=q0 b hb x hx
   have:=(hf y hy).1
   omega
  ·exact q.nd c hc
 ·rw [hl] at hd'
  rw [hnth,hnth]
  intro v hv hv'
  split at hv
  ·rename_i e1;subst e1
   rw [if_neg hcd] at hv'
   rw [qU] at hv
   rcases List.mem_append.1 hv with hv | hv
   ·exact q.dj _ _ hc hd' hcd v hv hv'
   ·have:=q0 d hd' v hv';have:=(hf v hv).1;omega
  ·split at hv'
   ·rename_i e1;subst e1
    rw [qU] at hv'
    rcases List.mem_append.1 hv' with hv' | hv'
    ·exact q.dj _ _ hc hd' hcd v hv hv'
    ·have:=q0 c hc v hv;have:=(hf v hv').1;omega
   ·exact q.dj _ _ hc hd' hcd v hv hv'
 ·rw [hnth];split
  ·intro v hv
   rw [qU] at hv
   rcases List.mem_append.1 hv with hv | hv
   ·exact q.rg b hb v hv
   ·have h1:=hf v hv;have h2:m.ps≤m.next:=q1;exact ⟨by show m.ps≤v;omega,h1.2⟩
  ·exact q.rg c hc
 ·intro k hk v hv
  refine Sd.ext e ?_
  rw [hnth] at hk hv
  split at hk
  ·rename_i e1;subst e1
   rw [if_pos rfl] at hv
   rw [show ({ nth m.blocks b with ins:=(nth m.blocks b).ins++[i] }:BlkD).ins=(nth m.blocks b).ins++[i] from rfl] at hk hv
   rw [List.length_append,List.length_singleton] at hk
   rcases Nat.lt_or_ge k (nth m.blocks b).ins.length with h | h
   ·rw [aq (by simp;omega),List.getElem_append_left h,←aq h] at hv
    exact q.tk b hb k h v hv
   ·have:k=(nth m.blocks b).ins.length:=by omega
    subst this
    rw [aq (by simp),List.getElem_append_right (Nat.le_refl _)] at hv
    simp at hv
    exact ha v hv
  ·rename_i e1
   rw [if_neg e1] at hv
   exact q.tk c hc k hk v hv
 ·intro v hv
  have ht:(nth ((⟨a,m.ps,m.blocks,nx,l⟩:MS).add b i).blocks c).term=(nth m.blocks c).term:=by
   rw [hnth];split
   ·rename_i e1;rw [e1]
   ·rfl
  rw [ht] at hv
  exact (q.tm c hc v hv).end e
theorem CC {b a:Nat} {nx:Int} {i:InsD} {l:List Int} (hb:b<m.blocks.length) {v:Int} (hv:v∈aU i):Sd (MS.add ⟨a,m.ps,m.blocks,nx,l⟩ b i) b (nth (MS.add ⟨a,m.ps,m.blocks,nx,l⟩ b i).blocks b).ins.length v:=by
 rw [na (m:=⟨a,m.ps,m.blocks,nx,l⟩) hb,if_pos rfl]
 refine .inr (.inr (.inl ?_))
 rw [na (m:=⟨a,m.ps,m.blocks,nx,l⟩) hb,if_pos rfl]
 show v∈((((nth m.blocks b).ins++[i]).take ((nth m.blocks b).ins++[i]).length).flatMap aU)
 rw [List.take_length,List.flatMap_append]
 exact List.mem_append_right _ (by simpa using hv)
structure In (b:Nat) (m:MS):Prop where
 ok:Ok m
 lt:b<m.blocks.length
 live : ∀ v∈m.live,Sd m b (nth m.blocks b).ins.length v
structure Wk (b k:Nat) (m m':MS):Prop where
 inn:In b m'
 live : ∀ v∈m.live,v∈m'.live
 n0:m.next≤m'.next
 nx:m'.next≤m.next+k
 ins:(nth m'.blocks b).ins.length≤(nth m.blocks b).ins.length+k
 ext:Ext m m'
variable {b c k l:Nat} {s:List Int}
theorem Wk.refl (q:In b m):Wk b 0 m m:=⟨q,fun _ h=>h,Int.le_refl _,by omega,Nat.le_refl _,.refl⟩
theorem Wk.trans (g:Wk b k m m') (h:Wk b l m' m2):Wk b (k+l) m m2:=
 ⟨h.inn,fun v hv=>h.live v (g.live v hv),Int.le_trans g.n0 h.n0,by have:=g.nx;have:=h.nx;omega,by have:=g.ins;have:=h.ins;omega,g.ext.trans h.ext⟩
theorem Wk.mono (g:Wk b k m m') (h:k≤l):Wk b l m m':=⟨g.inn,g.live,g.n0,by have:=g.nx;omega,by have:=g.ins;omega,g.ext⟩
theorem In.took (q:In b m):In b m.took:=⟨q.ok.at (Int.le_refl _),q.lt,q.live⟩
theorem Ext.same (e:Ext m m') {m2:MS} (h1:m2.ps=m'.ps) (h2:m2.blocks=m'.blocks):Ext m m2:=by
 obtain ⟨a,b,c,d,f⟩:=e
 exact ⟨by rw [h1];exact a,by rw [h2];exact b,by rw [h2];exact c,by rw [h2];exact d,by rw [h2];exact f⟩
theorem Ext.frm {m2:MS} (e:Ext m2 m') (h1:m2.ps=m.ps) (h2:m2.blocks=m.blocks):Ext m m':=by
 obtain ⟨a,b,c,d,f⟩:=e
 rw [h2] at b c d f
 exact ⟨by rw [←h1];exact a,b,c,d,f⟩
theorem Wk.took (g:Wk b k m m'):Wk b k m m'.took:=⟨g.inn.took,g.live,g.n0,g.nx,g.ins,g.ext.same rfl rfl⟩
theorem In.add (q:In b m) {a:Nat} {j:Nat} {i:InsD} (hj:j≤2) (hf : ∀ v∈aU i,m.next≤v∧v<m.next+j) (hd:(aU i).Nodup) (ho:kg i=false∧NumI i) (ha : ∀ v∈i.args,v∈m.live) :
  Wk b (max 1 j) m (MS.add ⟨a,m.ps,m.blocks,m.next+j,m.live⟩ b i)∧∀ v∈aU i,v∈(MS.add ⟨a,m.ps,m.blocks,m.next+j,m.live⟩ b i).live:=by
 have e:Ext m (MS.add ⟨a,m.ps,m.blocks,m.next+j,m.live⟩ b i):=(vJ (m:=⟨a,m.ps,m.blocks,m.next+j,m.live⟩) (i:=i) q.lt).frm rfl rfl
 refine ⟨⟨⟨q.ok.add q.lt (by omega) hf hd ho fun v hv=>q.live v (ha v hv),by rw [e.len];exact q.lt,fun v hv=>?_⟩,fun v hv=>List.mem_append_left _ hv,by show m.next≤m.next+j;omega,by show m.next+j≤_;omega,?_,e⟩,fun v hv=>List.mem_append_right _ hv⟩
 ·rcases List.mem_append.1 (show v∈m.live++aU i from hv) with h | h
  ·exact (q.live v h).end e
  ·exact CC q.lt h
 ·rw [na (m:=⟨a,m.ps,m.blocks,m.next+j,m.live⟩) q.lt,if_pos rfl]
  show ((nth m.blocks b).ins++[i]).length≤_
  rw [List.length_append,List.length_singleton];omega
theorem In.one (q:In b m) {op:Int} {a:Nat} {x:List Int} {im:I32} (h16:op≠16) (h18:op≠18) (ho:kg ⟨op,m.next,0,x,im⟩=false) (ha : ∀ v∈x,v∈m.live) :
  Wk b 1 m (MS.add ⟨a,m.ps,m.blocks,m.next+1,m.live⟩ b ⟨op,m.next,0,x,im⟩)∧m.next∈(MS.add ⟨a,m.ps,m.blocks,m.next+1,m.live⟩ b ⟨op,m.next,0,x,im⟩).live:=by
 have e:aU ⟨op,m.next,0,x,im⟩=[m.next]:=by unfold aU;rw [if_neg h16,if_neg h18]
 have:=q.add (a:=a) (j:=1) (i:=⟨op,m.next,0,x,im⟩) (by omega) (by rw [e];intro v hv;rw [List.mem_singleton.1 hv];omega) (by rw [e];simp) ⟨ho,fun h=>absurd h h16,fun _=>rfl⟩ ha
 exact ⟨this.1,this.2 _ (by rw [e];exact List.mem_singleton.2 rfl)⟩
theorem In.constant (q:In b m) {n:Int}:Wk b 1 m (m.constant b n)∧m.next∈(m.constant b n).live:=
 q.one (a:=m.at_) (op:=1) (by decide) (by decide) rfl fun v hv=>by cases hv
theorem In.two (q:In b m) {op x y:Int} (h1:2≤op) (h2:op≤14) (hx:x∈m.live) (hy:y∈m.live):Wk b 1 m (m.two b op x y)∧m.next∈(m.two b op x y).live:=by
 refine q.one (a:=m.at_) (op:=op) (by omega) (by omega) ?_ fun v hv=>?_
 ·have e1:¬op<1:=by omega
  have e2:¬18<op:=by omega
  have e3:op≠1:=by omega
  have e4:op≠15:=by omega
  have e5:op≠17:=by omega
  simp [kg,oB,e1,e2,e3,e4,e5]
 ·rcases List.mem_cons.1 hv with rfl | hv
  ·exact hx
  ·rw [List.mem_singleton.1 hv];exact hy
theorem In.dO (q:In b m):Wk b 1 m (aD s m b).2∧(aD s m b).1∈(aD s m b).2.live:=by
 unfold aD
 split
 ·obtain ⟨h1,h2⟩:=q.took.took.constant (n:=gH s m)
  exact ⟨(Wk.refl q).took.took.trans h1,h2⟩
 ·split
  ·obtain ⟨h1,h2⟩:=q.took.took.took.took.took.constant (n:=gH s m.took.took.took)
   exact ⟨(Wk.refl q).took.took.took.took.took.trans h1,h2⟩
  ·rename_i h _
   refine ⟨(Wk.refl q).took.took.took.mono (by omega),?_⟩
   show qz s m∈m.live
   have:=aZ (s:=s) (at_:=m.at_) (n:=(m.live.length:Int)) (by omega)
   unfold qz
   refine bU ?_
   split<;>omega
theorem In.bin (q:In b m) {op:Int} (h1:2≤op) (h2:op≤14):Wk b 4 m (binS s m b op):=by
 obtain ⟨w1,e1⟩:=q.dO (s:=s)
 obtain ⟨w2,e2⟩:=w1.inn.dO (s:=s)
 unfold binS
 simp only
 split
 ·obtain ⟨w3,e3⟩:=w2.inn.took.took.constant (n:=IntKind.i32.wrap (IntKind.i64.wrap (aB s ((aD s (aD s m b).2 b).2.at_+1) 40-8)))
  obtain ⟨w4,_⟩:=w3.inn.two h1 h2 (w3.live _ (w2.live _ e1)) e3
  exact ((w1.trans w2).took.took.trans w3).trans w4
 ·obtain ⟨w4,_⟩:=w2.inn.took.two h1 h2 (w2.live _ e1) e2
  exact ((w1.trans w2).took.trans w4).mono (by omega)
theorem In.ltu (q:In b m):Wk b 3 m (ltuS s m b):=by
 obtain ⟨w1,e1⟩:=q.dO (s:=s)
 obtain ⟨w2,e2⟩:=w1.inn.dO (s:=s)
 obtain ⟨w3,_⟩:=w2.inn.two (op:=13) (by decide) (by decide) (w2.live _ e1) e2
 exact (w1.trans w2).trans w3
theorem In.div (q:In b m):Wk b 4 m (divS s m b):=by
 obtain ⟨w1,e1⟩:=q.dO (s:=s)
 obtain ⟨w2,e2⟩:=w1.inn.took.constant (n:=IntKind.i32.wrap (aB s (aD s m b).2.at_ 12))
 unfold divS
 simp only
 split
 ·obtain ⟨w3,e3⟩:=w2.inn.took.took.constant (n:=IntKind.i32.wrap (1+IntKind.i32.wrap (aB s (((aD s m b).2.took.constant b (IntKind.i32.wrap (aB s (aD s m b).2.at_ 12))).at_+1) 12)))
  obtain ⟨w4,_⟩:=w3.inn.two (op:=14) (by decide) (by decide) (w3.live _ (w2.live _ e1)) e3
  exact (((w1.took.trans w2).took.took.trans w3).trans w4)
 ·obtain ⟨w4,_⟩:=w2.inn.took.two (op:=14) (by decide) (by decide) (w2.live _ e1) e2
  exact ((w1.took.trans w2).took.trans w4).mono (by omega)
theorem In.mulw (q:In b m):Wk b 4 m (px s m b):=by
 obtain ⟨w1,e1⟩:=q.dO (s:=s)
 obtain ⟨w2,e2⟩:=w1.inn.dO (s:=s)
 generalize hr:aD s (aD s m b).2 b=r at w2 e2
 have e:aU ⟨18,r.2.next,r.2.next+1,[(aD s m b).1,r.1],⟨0⟩⟩=[r.2.next,r.2.next+1]:=rfl
 have:=w2.inn.add (a:=r.2.at_) (j:=2) (i:=⟨18,r.2.next,r.2.next+1,[(aD s m b).1,r.1],⟨0⟩⟩) (by omega) (by
  rw [e];intro v hv
  rcases List.mem_cons.1 hv with rfl | hv
  ·omega
  ·rw [List.mem_singleton.1 hv];omega) (by rw [e];simp;omega) ⟨rfl,fun h=>absurd h (show (18:Int)≠16 by decide),fun h=>absurd rfl h⟩ (fun v hv=>by
  rcases List.mem_cons.1 hv with rfl | hv
  ·exact w2.live _ e1
  ·rw [List.mem_singleton.1 hv];exact e2)
 have h:=(w1.trans w2).trans this.1
 have e3:px s m b=MS.add ⟨r.2.at_,r.2.ps,r.2.blocks,r.2.next+2,r.2.live⟩ b ⟨18,r.2.next,r.2.next+1,[(aD s m b).1,r.1],⟨0⟩⟩:=by
  unfold px
  simp only [hr]
  unfold MS.add MS.aJ
  simp only [MS.mk.injEq,and_true,true_and]
  omega
 rw [e3]
 exact h.mono (by omega)
theorem In.args (q:In b m) : ∀ n,Wk b n m (up (eu s b) n ([],m)).2∧(up (eu s b) n ([],m)).1.length=n∧∀ v∈(up (eu s b) n ([],m)).1,v∈(up (eu s b) n ([],m)).2.live
 | 0=>⟨.refl q,rfl,fun v hv=>by cases hv⟩
 | n+1=>by
  obtain ⟨h1,h2,h3⟩:=In.args q n
  obtain ⟨w,e⟩:=h1.inn.dO (s:=s)
  refine ⟨h1.trans w,?_,fun v hv=>?_⟩
  ·show (_++[_]).length=_
   rw [List.length_append,h2];rfl
  ·rcases List.mem_append.1 (show v∈(up (eu s b) n ([],m)).1++[(aD s (up (eu s b) n ([],m)).2 b).1] from hv) with h | h
   ·exact w.live _ (h3 v h)
   ·rw [List.mem_singleton.1 h];exact e
theorem In.call (q:In b m):Wk b 5 m (jY s m b):=by
 unfold jY
 simp only
 have ht:=aZ (s:=s) (at_:=m.at_) (n:=5) (by decide)
 obtain ⟨h1,h2,h3⟩:=q.took.args (s:=s) (aB s m.at_ 5).toNat
 generalize up (eu s b) (aB s m.at_ 5).toNat ([],m.took)=r at h1 h2 h3
 have hl:((r.1.length:Nat):Int)≤4:=by omega
 have w:=h1.inn.one (a:=r.2.at_+1) (op:=17) (x:=r.1) (im:=⟨IntKind.i32.wrap (aB s r.2.at_ 5)⟩) (by decide) (by decide) (by simp [kg,oB];omega) h3
 have h:Wk b 0 m m.took:=(Wk.refl q).took
 exact ((h.trans h1).trans w.1).mono (by omega)
theorem In.addr (q:In b m):Wk b 5 m (gF s m b).2∧(gF s m b).1∈(gF s m b).2.live:=by
 obtain ⟨w1,e1⟩:=q.took.constant (n:=IntKind.i32.wrap (aB s m.at_ 9))
 have h:Wk b 0 m m.took:=(Wk.refl q).took
 have w1:=h.trans w1
 have e1:m.next∈_:=e1
 unfold gF
 simp only
 split
 ·obtain ⟨w2,e2⟩:=w1.inn.took.dO (s:=s)
  obtain ⟨w3,e3⟩:=w2.inn.constant (n:=7)
  obtain ⟨w4,e4⟩:=w3.inn.two (op:=5) (by decide) (by decide) (w3.live _ e2) e3
  obtain ⟨w5,e5⟩:=w4.inn.two (op:=2) (by decide) (by decide) (w4.live _ (w3.live _ (w2.live _ e1))) e4
  exact ⟨(((w1.took.trans w2).trans w3).trans w4).trans w5,e5⟩
 ·exact ⟨w1.took.mono (by omega),e1⟩
theorem In.off (q:In b m):Wk b 0 m (offS s m).2∧(offS s m).2.live=m.live:=by
 unfold offS
 split
 ·exact ⟨(Wk.refl q).took.took.took.took,rfl⟩
 ·exact ⟨(Wk.refl q).took.took,rfl⟩
theorem In.memory (q:In b m) {st:Bool}:Wk b 7 m (fV s m b st):=by
 obtain ⟨w1,e1⟩:=q.addr (s:=s)
 obtain ⟨w2,_⟩:=w1.inn.off (s:=s)
 unfold fV
 simp only
 split
 ·obtain ⟨w3,e3⟩:=w2.inn.dO (s:=s)
  generalize hr:aD s (offS s (gF s m b).2).2 b=r at w3 e3
  have:=w3.inn.add (a:=r.2.at_) (j:=0) (i:=⟨16,0,0,[(gF s m b).1,r.1],⟨(offS s (gF s m b).2).1⟩⟩) (by omega) (fun v hv=>by cases hv) List.nodup_nil ⟨rfl,fun _=>rfl,fun _=>rfl⟩ (fun v hv=>by
   rcases List.mem_cons.1 hv with rfl | hv
   ·exact w3.live _ (w2.live _ e1)
   ·rw [List.mem_singleton.1 hv];exact e3)
  have e:(⟨r.2.at_,r.2.ps,r.2.blocks,r.2.next+((0:Nat):Int),r.2.live⟩:MS)=r.2:=by
   cases r.2;simp
  rw [e] at this
  exact ((w1.trans w2).trans w3).trans this.1
 ·have w:=w2.inn.one (a:=(offS s (gF s m b).2).2.at_) (op:=15) (x:=[(gF s m b).1]) (im:=⟨(offS s (gF s m b).2).1⟩) (by decide) (by decide) rfl (fun v hv=>by rw [List.mem_singleton.1 hv];exact w2.live _ e1)
  exact ((w1.trans w2).trans w.1).mono (by omega)
theorem In.fv (q:In b m):Wk b 7 m (aF s b m):=by
 have h:Wk b 0 m m.took:=(Wk.refl q).took
 have ht:=aZ (s:=s) (at_:=m.at_) (n:=20) (by decide)
 unfold aF
 simp only
 split
 ·have h2 : ∀ x∈opsL,2≤x∧x≤14:=by decide
  have hl:opsL.length=12:=rfl
  have:=h2 _ (bU (l:=opsL) (i:=(aB s m.at_ 20).toNat) (by omega))
  exact (h.trans (q.took.bin this.1 this.2)).mono (by omega)
 split
 ·exact (h.trans q.took.ltu).mono (by omega)
 split
 ·exact (h.trans q.took.div).mono (by omega)
 split
 ·exact (h.trans q.took.memory).mono (by omega)
 split
 ·exact (h.trans q.took.call).mono (by omega)
 split
 ·exact (h.trans q.took.mulw).mono (by omega)
 ·exact ((Wk.refl q).took.took.took.trans (q.took.took.took.constant (n:=gH s m.took)).1).mono (by omega)
theorem In.dD (q:In b m) : ∀ n,Wk b (7*n) m (up (fun _=>aF s b) n m)
 | 0=>.refl q
 | n+1=>by
  have h:=In.dD q n
  exact (h.trans h.inn.fv).mono (by omega)
theorem In.term (q:In b m) {to:List Int} (hl:to.length≤65):Wk b 3 m (dL s to b m).2∧jg (dL s to b m).1=true∧(dL s to b m).1.to=to∧∀ v∈(dL s to b m).1.args,v∈(dL s to b m).2.live:=by
 have h:Wk b 0 m m.took:=(Wk.refl q).took
 unfold dL
 simp only
 split
 ·rename_i h0
  have hto:to=[]:=List.length_eq_zero_iff.1 h0
  split
  ·exact ⟨(Wk.refl q).took.took.mono (by omega),rfl,hto.symm,fun v hv=>by cases hv⟩
  split
  ·obtain ⟨w,e⟩:=q.took.dO (s:=s)
   exact ⟨(h.trans w).mono (by omega),rfl,hto.symm,fun v hv=>by rw [List.mem_singleton.1 hv];exact e⟩
  ·exact ⟨h.mono (by omega),rfl,hto.symm,fun v hv=>by cases hv⟩
 split
 ·rename_i h1
  exact ⟨(Wk.refl q).mono (by omega),by simp [jg,h1],rfl,fun v hv=>by cases hv⟩
 split
 ·rename_i h2
  obtain ⟨w1,e1⟩:=q.dO (s:=s)
  split
  ·obtain ⟨w2,e2⟩:=w1.inn.took.dO (s:=s)
   generalize aD s (aD s m b).2.took b=r at w2 e2
   have hr:=aZ (s:=s) (at_:=r.2.at_) (n:=3) (by decide)
   have hop : ∀ x∈cmpL,11≤x∧x≤13:=by decide
   have hcl:cmpL.length=3:=rfl
   have ho:=hop _ (bU (l:=cmpL) (i:=(aB s r.2.at_ 3).toNat) (by omega))
   generalize nth cmpL (aB s r.2.at_ 3).toNat=op at ho
   have w3:=w2.inn.one (a:=r.2.at_+1) (op:=op) (x:=[(aD s m b).1,r.1]) (im:=⟨0⟩) (by omega) (by omega) (by
    have e1:¬op<1:=by omega
    have e2:¬18<op:=by omega
    have e3:op≠1:=by omega
    have e4:op≠15:=by omega
    have e5:op≠17:=by omega
    simp [kg,oB,e1,e2,e3,e4,e5]) (fun v hv=>by
    rcases List.mem_cons.1 hv with rfl | hv
    ·exact w2.live _ e1
    ·rw [List.mem_singleton.1 hv];exact e2)
   exact ⟨(w1.took.trans w2).trans w3.1,by simp [jg,h2],rfl,fun v hv=>by rw [List.mem_singleton.1 hv];exact w3.2⟩
  ·exact ⟨w1.took.mono (by omega),by simp [jg,h2],rfl,fun v hv=>by rw [List.mem_singleton.1 hv];exact e1⟩
 ·rename_i h0 h1 h2
  obtain ⟨w1,e1⟩:=q.dO (s:=s)
  obtain ⟨w2,e2⟩:=w1.inn.constant (n:=7)
  obtain ⟨w3,e3⟩:=w2.inn.two (op:=5) (by decide) (by decide) (w2.live _ e1) e2
  exact ⟨(w1.trans w2).trans w3,by simp [jg];omega,rfl,fun v hv=>by rw [List.mem_singleton.1 hv];exact e3⟩
end
end Go.Proofs.Ytfelpjfopgiabaa
namespace Go.Proofs.Ytfelpjfopgiabaa
open Go Go.Lft
structure Tt (n k c:Nat) (x:TgS):Prop where
 len:x.1.length=n
 row : ∀ i,(nth x.1 i).length≤c
 rng : ∀ i,∀ v∈nth x.1 i,1≤v∧v<n
 way : ∀ b:Nat,1≤b→b≤k→∃ a,a<b∧(b:Int)∈nth x.1 a
section
variable {s:List Int} {n k c:Nat} {x:TgS}
theorem mT {p b:Nat} {m:MS} (hp:p<x.1.length) (i:Nat):nth (jo x p b m).1 i=if p=i then nth x.1 p++[(b:Int)] else nth x.1 i:=by
 show nth (x.1.set p _) i=_
 rcases Nat.lt_or_ge i x.1.length with hl | hl
 ·rw [aK hl]
 ·rw [aV (by simpa using hl),if_neg (by omega),aV hl]
theorem Tt.put (h:Tt n k c x) {p b:Nat} {m:MS} (hp:p<n) (h1:1≤b) (hb:b<n):Tt n k (c+1) (jo x p b m)∧(b:Int)∈nth (jo x p b m).1 p:=by
 have hp':p<x.1.length:=by rw [h.len];exact hp
 refine ⟨⟨pE.trans h.len,fun i=>?_,fun i v hv=>?_,fun d h1 h2=>?_⟩,by rw [mT hp',if_pos rfl];exact List.mem_append_right _ (List.mem_singleton.2 rfl)⟩
 ·rw [mT hp'];split
  ·rw [List.length_append,List.length_singleton];have:=h.row p;omega
  ·have:=h.row i;omega
 ·rw [mT hp'] at hv;split at hv
  ·rcases List.mem_append.1 hv with hv | hv
   ·exact h.rng _ v hv
   ·rw [List.mem_singleton.1 hv];omega
  ·exact h.rng _ v hv
 ·obtain ⟨a,h3,h4⟩:=h.way d h1 h2
  refine ⟨a,h3,?_⟩
  rw [mT hp'];split
  ·rename_i e;subst e;exact List.mem_append_left _ h4
  ·exact h4
theorem Tt.tgA (h:Tt n k c x) (hk:k+1<n):Tt n (k+1) (c+1) (tgA s k x):=by
 have key : ∀ {p:Nat} {m:MS},p≤k→Tt n (k+1) (c+1) (jo x p (k+1) m):=fun {p m} hp=>by
  obtain ⟨h1,h2⟩:=h.put (p:=p) (b:=k+1) (m:=m) (by omega) (by omega) hk
  refine ⟨h1.len,h1.row,h1.rng,fun b hb1 hb2=>?_⟩
  rcases Nat.lt_or_ge k b with q | q
  ·have:b=k+1:=by omega
   subst this;exact ⟨p,by omega,h2⟩
  ·exact h1.way b hb1 q
 unfold Go.Proofs.Ytfelpjfopgiabaa.tgA
 split
 ·have:=aZ (s:=s) (at_:=x.2.at_+1) (n:=((k+1:Nat):Int)) (by omega)
  exact key (by omega)
 ·exact key (Nat.le_refl _)
theorem Tt.tgI (h:Tt n k c x) {b:Nat} (hb:b<n) (hn:1<n):Tt n k (c+1) (tgI s n b x):=by
 have:=aZ (s:=s) (at_:=x.2.at_) (n:=(n:Int)-1) (by omega)
 unfold Go.Proofs.Ytfelpjfopgiabaa.tgI
 simp only
 repeat' split
 ·exact (h.put (by omega) (by omega) (by omega)).1
 ·exact (h.put (by omega) (by omega) (by omega)).1
 ·exact (h.put (by omega) (by omega) (by omega)).1
theorem Tt.upI (h:Tt n k c x) {b:Nat} (hb:b<n) (hn:1<n) : ∀ j,Tt n k (c+j) (up (fun _=>Go.Proofs.Ytfelpjfopgiabaa.tgI s n b) j x)
 | 0=>h
 | j+1=>(Tt.upI h hb hn j).tgI hb hn
theorem Tt.mono {d:Nat} (h:Tt n k c x) (hd:c≤d):Tt n k d x:=⟨h.len,fun i=>Nat.le_trans (h.row i) hd,h.rng,h.way⟩
theorem Tt.tgB (h:Tt n k c x) {b:Nat} (hb:b<n):Tt n k (c+2) (tgB s n b x):=by
 unfold Go.Proofs.Ytfelpjfopgiabaa.tgB
 have h0:Tt n k c (x.1,x.2.took):=⟨h.len,h.row,h.rng,h.way⟩
 by_cases hn:1<n
 ·rw [if_pos hn]
  have:=aZ (s:=s) (at_:=x.2.at_) (n:=6) (by decide)
  exact (h0.upI hb hn _).mono (by omega)
 ·rw [if_neg hn]
  exact h0.mono (by omega)
theorem Tt.upB (h:Tt n k c x) : ∀ j,j≤n→Tt n k (c+2*j) (up (Go.Proofs.Ytfelpjfopgiabaa.tgB s n) j x)
 | 0,_=>h
 | j+1,hj=>(Tt.upB h j (by omega)).tgB (by omega)
theorem Tt.upA (h:Tt n 0 c x) : ∀ j,j<n→Tt n j (c+j) (up (Go.Proofs.Ytfelpjfopgiabaa.tgA s) j x)
 | 0,_=>h
 | j+1,hj=>(Tt.upA h j (by omega)).tgA hj
theorem zW:Tt (aG s) (aG s-1) 26 (dN s):=by
 obtain ⟨h1,h2⟩:=eY (s:=s)
 have e : ∀ i,nth (List.replicate (aG s) ([]:List Int)) i=[]:=fun i=>by
  rcases Nat.lt_or_ge i (aG s) with hi | hi
  ·rw [au hi]
  ·rw [aV (by simpa using hi)];rfl
 have t0:Tt (aG s) 0 0 (List.replicate (aG s) ([]:List Int),qD s):=⟨by simp,fun i=>by rw [e];exact Nat.le_refl _,fun i v hv=>by { rw [e] at hv;cases hv },fun b h1 h2=>by omega⟩
 exact ((t0.upA (s:=s) (aG s-1) (by omega)).upB (s:=s) (aG s) (Nat.le_refl _)).mono (by omega)
end
structure Gt (n:Nat) (to:List (List Int)) (m:MS):Prop where
 len:m.blocks.length=n
 to : ∀ j,j<n→(nth m.blocks j).term.to=nth to j
section
variable {s:List Int} {n:Nat} {to:List (List Int)} {m m':MS} {b:Nat}
theorem Gt.ext (g:Gt n to m) (e:Ext m m'):Gt n to m':=⟨e.len.trans g.len,fun j hj=>(e.to j).trans (g.to j hj)⟩
theorem AY {l:List Int} {j:Nat} (hb:b<m.blocks.length):nth (m.ee b l).blocks j=if b=j then { nth m.blocks b with term:={ (nth m.blocks b).term with to:=l } } else nth m.blocks j:=by
 show nth (m.blocks.set b _) j=_
 rcases Nat.lt_or_ge j m.blocks.length with hl | hl
 ·rw [aK hl]
 ·rw [aV (by simpa using hl),if_neg (by omega),aV hl]
theorem wS {m0:MS} (hl:m0.blocks=List.replicate n ma) : ∀ k,k≤n→(up (fun b m=>MS.ee m b (nth to b)) k m0).blocks.length=n∧(∀ j,j<n→nth (up (fun b m=>MS.ee m b (nth to b)) k m0).blocks j=⟨[],[],⟨0,[],if j<k then nth to j else [],⟨0⟩⟩⟩)∧(up (fun b m=>MS.ee m b (nth to b)) k m0).ps=m0.ps∧(up (fun b m=>MS.ee m b (nth to b)) k m0).next=m0.next
 | 0,_=>⟨by show m0.blocks.length=n;rw [hl,List.length_replicate],fun j hj=>by show nth m0.blocks j=_;rw [hl,au hj,if_neg (by omega)];rfl,rfl,rfl⟩
 | k+1,hk=>by
  obtain ⟨h1,h2,h3,h4⟩:=wS hl k (by omega)
  refine ⟨?_,fun j hj=>?_,h3,h4⟩
  ·show (List.set _ _ _).length=n
   rw [List.length_set];exact h1
  ·show nth (MS.ee _ k (nth to k)).blocks j=_
   rw [AY (by rw [h1];omega),h2 k (by omega),h2 j hj]
   by_cases e:k=j
   ·subst e;rw [if_pos rfl,if_pos (Nat.lt_succ_self _)]
   ·rw [if_neg e]
    by_cases h:j<k
    ·rw [if_pos h,if_pos (by omega)]
    ·rw [if_neg h,if_neg (by omega)]
theorem yw:(jr s).blocks.length=aG s∧(∀ j,j<aG s→nth (jr s).blocks j=⟨[],[],⟨0,[],nth (dN s).1 j,⟨0⟩⟩⟩)∧(jr s).ps=aB s 0 5∧(jr s).next=aB s 0 5:=by
 have e:=nU (s:=s)
 obtain ⟨h1,h2,h3,h4⟩:=wS (n:=aG s) (to:=(dN s).1) (m0:={ (dN s).2 with blocks:=List.replicate (aG s) ma }) rfl (aG s) (Nat.le_refl _)
 exact ⟨h1,fun j hj=>by have:=h2 j hj;rw [if_pos hj] at this;exact this,h3.trans e.1,h4.trans e.2.2.1⟩
theorem Fc {l:List BlkD} (h0:0<l.length) (h : ∀ b:Nat,1≤b→b<l.length→∃ a,a<b∧(b:Int)∈(nth l a).term.to) : ∀ b,b<l.length→Re (ofG l) (-1) b:=by
 intro b
 induction b using Nat.strongRecOn with
 | ind b ih=>
  intro hb
  rcases Nat.eq_zero_or_pos b with rfl | hp
  ·exact .root (by rw [gy];exact hb) (by decide)
  ·obtain ⟨a,ha,hm⟩:=h b hp hb
   refine .step (ih a ha (by omega)) ?_ (by omega)
   rw [gk]
   exact ⟨⟨by omega,by omega,by omega,by omega⟩,by rw [Int.toNat_natCast];exact hm⟩
theorem Cq {l:List BlkD} {dn:BL} (hw : ∀ b,b<l.length→Re (ofG l) (-1) b) {b:Nat} (hb:b<l.length) (hd:nth dn b=false) : ∃ x,x<l.length∧nth dn x=false∧∀ a,a<l.length→a=x∨nth dn a=true∨Re (ofG l) (a:Int) x:=by
  have key : ∀ {b:Nat},Re (ofG l) (-1) b→(∃ x,x<l.length∧nth dn x=false∧∀ a,a<l.length→a=x∨nth dn a=true∨Re (ofG l) (a:Int) x)∨(nth dn b=true∧∀ a,a<l.length→nth dn a=false→Re (ofG l) (a:Int) b):=by
    intro b h
    induction h with
    | root h0 _=>
      cases e:nth dn 0 with
      | true=>exact .inr ⟨rfl,fun a _ ha=>.root h0 (by
                                                            rintro h;have:a=0:=by omega
                                                            subst this;rw [e] at ha;cases ha)⟩
      | false=>exact .inl ⟨0,by rw [gy] at h0;exact h0,e,fun a _=>by
          rcases Nat.eq_zero_or_pos a with q | q
          · exact .inl q
          · exact .inr (.inr (.root h0 (by omega)))⟩
    | @step a b ha he _ ih=>
      rcases ih with ih | ⟨ih1,ih2⟩
      · exact .inl ih
      have hlb:=(gk.1 he).1
      cases e:nth dn b with
      | true=>exact .inr ⟨rfl,fun c hc h=>.step (ih2 c hc h) he (by
                                                                         rintro q;have:b=c:=by omega
                                                                         subst this;rw [e] at h;cases h)⟩
      | false=>
        refine .inl ⟨b,by omega,e,fun c hc=>?_⟩
        rcases Nat.decEq c b with q | q
        · cases e2:nth dn c with
          | true=>exact .inr (.inl rfl)
          | false=>exact .inr (.inr (.step (ih2 c hc e2) he (by omega)))
        · exact .inl q
  rcases key (hw b hb) with h | ⟨h,_⟩
  · exact h
  · rw [hd] at h;cases h
theorem lg {j:Nat} (hb:b<m.blocks.length):nth (cJ b m).blocks j=if b=j then { nth m.blocks b with phis:=(nth m.blocks b).phis++[⟨m.next,[]⟩] } else nth m.blocks j:=by
 show nth (m.blocks.set b _) j=_
 rcases Nat.lt_or_ge j m.blocks.length with hl | hl
 ·rw [aK hl]
 ·rw [aV (by simpa using hl),if_neg (by omega),aV hl]
structure P0 (n:Nat) (to:List (List Int)) (m:MS):Prop where
 gt:Gt n to m
 ok:Ok m
 none : ∀ j,j<n→(nth m.blocks j).ins=[]
theorem DU {x:BlkD} {v:Int} (h:x.ins=[]):mkB { x with phis:=x.phis++[⟨v,[]⟩] }=mkB x++[v]:=by
 unfold mkB
 simp [h]
theorem P0.cJ (q:P0 n to m) (hb:b<n):P0 n to (cJ b m):=by
 have hbl:b<m.blocks.length:=by rw [q.gt.len];exact hb
 have hl:(Go.Proofs.Ytfelpjfopgiabaa.cJ b m).blocks.length=m.blocks.length:=List.length_set
 have hlen:=q.gt.len
 have e:Ext m (Go.Proofs.Ytfelpjfopgiabaa.cJ b m):=by
  refine ⟨rfl,hl,fun j=>?_,fun j=>?_,fun j=>?_⟩<;>rw [lg hbl]<;>split
  ·rename_i e;rw [e]
  ·rfl
  ·rename_i e;rw [←e];intro v hv
   show v∈(List.map PhiD.dst ((nth m.blocks b).phis++[_]))
   rw [List.map_append];exact List.mem_append_left _ hv
  ·exact fun _ h=>h
  ·rename_i e;rw [e];exact ⟨[],by simp⟩
  ·exact ⟨[],by simp⟩
 have hin : ∀ j,(nth (Go.Proofs.Ytfelpjfopgiabaa.cJ b m).blocks j).ins=(nth m.blocks j).ins:=fun j=>by
  rw [lg hbl];split
  ·rename_i e;rw [e]
  ·rfl
 have htm : ∀ j,(nth (Go.Proofs.Ytfelpjfopgiabaa.cJ b m).blocks j).term=(nth m.blocks j).term:=fun j=>by
  rw [lg hbl];split
  ·rename_i e;rw [e]
  ·rfl
 have hmk : ∀ j,j<n→mkB (nth (Go.Proofs.Ytfelpjfopgiabaa.cJ b m).blocks j)=if b=j then mkB (nth m.blocks j)++[m.next] else mkB (nth m.blocks j):=fun j hj=>by
  rw [lg hbl];split
  ·rename_i e;rw [DU (q.none b hb),e]
  ·rfl
 have k:=q.ok
 refine ⟨q.gt.ext e,⟨k.p0,by have:=k.pn;show m.ps≤m.next+1;omega,fun c hc=>?_,fun c hc=>?_,fun c d hc hd hcd=>?_,fun c hc=>?_,fun c hc i hi=>?_,fun c hc v hv=>?_⟩,fun j hj=>by rw [hin];exact q.none j hj⟩<;>rw [hl] at hc
 ·rw [hin];exact k.op c hc
 ·rw [hmk c (by omega)];split
  ·refine List.nodup_append.2 ⟨k.nd c hc,by simp,fun x hx y hy=>?_⟩
   have:=(k.rg c hc x hx).2
   have:=List.mem_singleton.1 hy
   omega
  ·exact k.nd c hc
 ·rw [hl] at hd
  rw [hmk c (by omega),hmk d (by omega)]
  intro v hv hv'
  have h1:v∈mkB (nth m.blocks c)∨(b=c∧v=m.next):=by
   split at hv
   ·rcases List.mem_append.1 hv with h | h
    ·exact .inl h
    ·exact .inr ⟨‹_›,List.mem_singleton.1 h⟩
   ·exact .inl hv
  have h2:v∈mkB (nth m.blocks d)∨(b=d∧v=m.next):=by
   split at hv'
   ·rcases List.mem_append.1 hv' with h | h
    ·exact .inl h
    ·exact .inr ⟨‹_›,List.mem_singleton.1 h⟩
   ·exact .inl hv'
  rcases h1 with h1 | ⟨h1,h1'⟩
  ·rcases h2 with h2 | ⟨h2,h2'⟩
   ·exact k.dj c d hc hd hcd v h1 h2
   ·have:=(k.rg c hc v h1).2;omega
  ·rcases h2 with h2 | ⟨h2,h2'⟩
   ·have:=(k.rg d hd v h2).2;omega
   ·exact hcd (h1.symm.trans h2)
 ·rw [hmk c (by omega)]
  intro v hv
  have h1:v∈mkB (nth m.blocks c)∨v=m.next:=by
   split at hv
   ·rcases List.mem_append.1 hv with h | h
    ·exact .inl h
    ·exact .inr (List.mem_singleton.1 h)
   ·exact .inl hv
  show m.ps≤v∧v<m.next+1
  rcases h1 with h1 | h1
  ·have:=k.rg c hc v h1;omega
  ·have:=k.pn;omega
 ·rw [hin,q.none c (by omega)] at hi
  exact absurd hi (Nat.not_lt_zero _)
 ·rw [htm] at hv
  exact (k.tm c hc v hv).end e
theorem P0.took (q:P0 n to m):P0 n to m.took:=⟨⟨q.gt.len,q.gt.to⟩,q.ok.at (Int.le_refl _),q.none⟩
theorem P0.jz (q:P0 n to m) (hb:b<n) : ∀ k,P0 n to (up (fun _=>Go.Proofs.Ytfelpjfopgiabaa.cJ b) k m)∧(up (fun _=>Go.Proofs.Ytfelpjfopgiabaa.cJ b) k m).next=m.next+k
 | 0=>⟨q,by show m.next=m.next+((0:Nat):Int);omega⟩
 | k+1=>by
  obtain ⟨h1,h2⟩:=P0.jz q hb k
  refine ⟨h1.cJ hb,?_⟩
  show (up (fun _=>Go.Proofs.Ytfelpjfopgiabaa.cJ b) k m).next+1=_
  rw [h2];omega
theorem P0.phis {lp:List Int} (q:P0 n to m) : ∀ k,k<n→P0 n to (up (cS s) k (lp,m)).2∧(up (cS s) k (lp,m)).2.next≤m.next+3*k∧nth (up (cS s) k (lp,m)).1 0=nth lp 0
 | 0,_=>⟨q,by show m.next≤_;omega,rfl⟩
 | k+1,hk=>by
  obtain ⟨h1,h2,h3⟩:=P0.phis (lp:=lp) q k (by omega)
  have e:up (cS s) (k+1) (lp,m)=cS s k (up (cS s) k (lp,m)):=rfl
  rw [e]
  generalize up (cS s) k (lp,m)=y at h1 h2 h3
  obtain ⟨c0,c1⟩:=lC (s:=s) (m:=y.2) (b:=k+1)
  obtain ⟨h4,h5⟩:=h1.took.jz (b:=k+1) hk (fD s y.2 (k+1)).toNat
  refine ⟨h4,?_,?_⟩
  ·show (up (fun _=>Go.Proofs.Ytfelpjfopgiabaa.cJ (k+1)) (fD s y.2 (k+1)).toNat y.2.took).next≤_
   rw [h5]
   show y.2.next+_≤_
   omega
  ·show nth (y.1.set (k+1) _) 0=_
   rcases Nat.lt_or_ge 0 y.1.length with hl | hl
   ·rw [aK hl,if_neg (by omega)];exact h3
   ·rw [aV (by simpa using hl),←h3,aV hl]
theorem BQ:P0 (aG s) (dN s).1 (jr s):=by
 obtain ⟨h1,h2,h3,h4⟩:=yw (s:=s)
 have t:=aZ (s:=s) (at_:=0) (n:=5) (by decide)
 refine ⟨⟨h1,fun j hj=>by rw [h2 j hj]⟩,⟨by rw [h3];omega,by rw [h3,h4];omega,fun b hb=>?_,fun b hb=>?_,fun a b ha hb _=>?_,fun b hb=>?_,fun b hb i hi=>?_,fun b hb=>?_⟩,fun j hj=>by rw [h2 j hj]⟩<;>rw [h1] at *
 ·rw [h2 b hb];intro i hi;cases hi
 ·rw [h2 b hb];exact List.nodup_nil
 ·rw [h2 a ha];intro v hv;cases hv
 ·rw [h2 b hb];intro v hv;cases hv
 ·rw [h2 b hb] at hi;exact absurd hi (Nat.not_lt_zero _)
 ·rw [h2 b hb];intro v hv;cases hv
theorem yz:P0 (aG s) (dN s).1 (eR s).2∧(eR s).2.next≤28∧nth (eR s).1 0=0:=by
 obtain ⟨h1,h2⟩:=eY (s:=s)
 obtain ⟨q1,q2,q3⟩:=(BQ (s:=s)).phis (s:=s) (lp:=List.replicate (aG s) 0) (aG s-1) (by omega)
 have t:=aZ (s:=s) (at_:=0) (n:=5) (by decide)
 have e:=(yw (s:=s)).2.2.2
 refine ⟨q1,?_,?_⟩
 ·show (up (cS s) (aG s-1) (List.replicate (aG s) 0,jr s)).2.next≤28
  omega
 ·show nth (up (cS s) (aG s-1) (List.replicate (aG s) 0,jr s)).1 0=0
  rw [q3,au (by omega)]
def cnt0:BL→Nat
 | []=>0
 | a::l=>(if a=true then 0 else 1)+cnt0 l
theorem jQ {α:Type} [Inhabited α] {a:α} {l:List α} {j:Nat}:nth (a::l) (j+1)=nth l j:=by simp [nth]
theorem zF : ∀ {l l':BL},l.length=l'.length→(∀ j,j<l.length→nth l j=true→nth l' j=true)→cnt0 l'≤cnt0 l
 | [],[],_,_=>Nat.le_refl _
 | a::l,a'::l',hl,h=>by
  have h1:=zF (l:=l) (l':=l') (by simpa using hl) fun j hj=>by
   have:=h (j+1) (by simpa using hj)
   rwa [jQ,jQ] at this
  have h2:a=true→a'=true:=h 0 (by simp)
  unfold cnt0
  cases a<;>cases a'<;>simp_all<;>omega
theorem vR : ∀ {l l':BL},l.length=l'.length→(∀ j,j<l.length→nth l j=true→nth l' j=true)→∀ b,b<l.length→nth l b=false→nth l' b=true→cnt0 l'<cnt0 l
 | [],[],_,_,b,hb,_,_=>absurd hb (Nat.not_lt_zero _)
 | a::l,a'::l',hl,h,b,hb,h0,h1=>by
  have hr : ∀ j,j<l.length→nth l j=true→nth l' j=true:=fun j hj=>by
   have:=h (j+1) (by simpa using hj)
   rwa [jQ,jQ] at this
  have hll:l.length=l'.length:=by simpa using hl
  have h2:a=true→a'=true:=h 0 (by simp)
  match b,hb,h0,h1 with
  | 0,_,h0,h1=>
   have h0:a=false:=h0
   have h1:a'=true:=h1
   have:=zF hll hr
   unfold cnt0
   rw [h0,h1]
   simp
   omega
  | b+1,hb,h0,h1=>
   rw [jQ] at h0 h1
   have:=vR hll hr b (by simpa using hb) h0 h1
   unfold cnt0
   cases a<;>cases a'<;>simp_all<;>omega
theorem uL : ∀ {l:BL},cnt0 l=0→∀ j,j<l.length→nth l j=true
 | [],_,j,hj=>absurd hj (Nat.not_lt_zero _)
 | a::l,h,j,hj=>by
  unfold cnt0 at h
  match j,hj with
  | 0,_=>show a=true;cases a<;>simp_all
  | j+1,hj=>rw [jQ];exact uL (by omega) j (by simpa using hj)
theorem rK : ∀ {l:BL},cnt0 l≤l.length
 | []=>Nat.le_refl _
 | a::l=>by
  have:=rK (l:=l)
  unfold cnt0
  rw [List.length_cons]
  split<;>omega
theorem tR {f:Nat→Bool} : ∀ (n:Nat) (r:Bool),r=true→(∀ a,a<n→f a=true)→up (fun a r=>r&&f a) n r=true
 | 0,r,h,_=>h
 | n+1,r,h,hf=>by
  show (up (fun a r=>r&&f a) n r&&f n)=true
  rw [tR n r h fun a ha=>hf a (by omega),hf n (by omega)]
  rfl
theorem An (hl:m.blocks.length=n) {a:Nat} (ha:a<n) (hb:b<n):nth (nth (gT m.f n) a) b=true↔Re (ofG m.blocks) (a:Int) b:=by
 unfold gT
 rw [dq ha]
 exact eF (by show b<m.blocks.length;omega)
theorem CU {dn:BL} (hl:m.blocks.length=n) (hb:b<n) (hd:nth dn b=false) (h : ∀ a,a<n→a=b∨nth dn a=true∨Re (ofG m.blocks) (a:Int) b):kW dn (gT m.f n) b n=true:=by
 unfold kW
 refine tR n _ (by simp [hd]) fun a ha=>?_
 rcases h a ha with e | e | e
 ·simp [e]
 ·simp [e]
 ·simp [(An hl ha hb).2 e]
theorem D2 {dn:BL} (hp:0≤m.ps) (hl:m.blocks.length=n) (hb:b<n) : ∀ v∈jn m dn (gT m.f n) b n,Sd m b (nth m.blocks b).ins.length v:=by
 have key : ∀ k,k≤n→∀ v∈up (fI m dn (gT m.f n) b) k (rows (fun i=>(i:Int)) m.ps.toNat),Sd m b (nth m.blocks b).ins.length v:=by
  intro k
  induction k with
  | zero=>
   intro _ v hv
   obtain ⟨i,hi,rfl⟩:=rz.1 hv
   exact .inl ⟨by omega,by omega⟩
  | succ k ih=>
   intro hk v hv
   have hv:v∈fI m dn (gT m.f n) b k (up (fI m dn (gT m.f n) b) k (rows (fun i=>(i:Int)) m.ps.toNat)):=hv
   unfold fI at hv
   split at hv
   ·exact ih (by omega) v hv
   ·rename_i hc
    rw [List.append_assoc] at hv
    rcases List.mem_append.1 hv with h1 | h1
    ·exact ih (by omega) v h1
    ·clear hv
     rcases Nat.decEq k b with e | e
     ·refine .inr (.inr (.inr ⟨k,by omega,e,h1,fun hr=>hc ?_⟩))
      rw [(An hl (by omega) hb).2 hr]
      simp [e]
     ·subst e
      rcases List.mem_append.1 h1 with h2 | h2
      ·exact .inr (.inl h2)
      ·refine .inr (.inr (.inl ?_))
       rw [List.take_length];exact h2
 exact key n (Nat.le_refl _)
theorem Ok.dS (q:In b m) {t:dk} (ht:t.to=(nth m.blocks b).term.to) (ha : ∀ v∈t.args,v∈m.live):Ok (m.dS b t)∧Ext m (m.dS b t):=by
 have hnth : ∀ j,nth (m.dS b t).blocks j=if b=j then { nth m.blocks b with term:=t } else nth m.blocks j:=fun j=>by
  show nth (m.blocks.set b _) j=_
  rcases Nat.lt_or_ge j m.blocks.length with hl | hl
  ·rw [aK hl]
  ·have:=q.lt
   rw [aV (by simpa using hl),if_neg (by omega),aV hl]
 have hl:(m.dS b t).blocks.length=m.blocks.length:=List.length_set
 have hin : ∀ j,(nth (m.dS b t).blocks j).ins=(nth m.blocks j).ins:=fun j=>by
  rw [hnth];split
  ·rename_i e;rw [e]
  ·rfl
 have hph : ∀ j,(nth (m.dS b t).blocks j).phis=(nth m.blocks j).phis:=fun j=>by
  rw [hnth];split
  ·rename_i e;rw [e]
  ·rfl
 have e:Ext m (m.dS b t):=⟨rfl,hl,fun j=>by
  rw [hnth];split
  ·rename_i e;rw [←e];exact ht
  ·rfl,fun j v h=>by rw [hph];exact h,fun j=>⟨[],by rw [hin];simp⟩⟩
 have hmk : ∀ j,mkB (nth (m.dS b t).blocks j)=mkB (nth m.blocks j):=fun j=>by unfold mkB;rw [hin,hph]
 have k:=q.ok
 refine ⟨⟨k.p0,k.pn,fun c hc=>?_,fun c hc=>?_,fun c d hc hd=>?_,fun c hc=>?_,fun c hc i hi v hv=>?_,fun c hc v hv=>?_⟩,e⟩<;>rw [hl] at hc
 ·rw [hin];exact k.op c hc
 ·rw [hmk];exact k.nd c hc
 ·rw [hl] at hd;rw [hmk,hmk];exact k.dj c d hc hd
 ·rw [hmk];exact k.rg c hc
 ·rw [hin] at hi hv;exact (k.tk c hc i hi v hv).ext e
 ·rw [hnth] at hv
  split at hv
  ·rename_i e1;subst e1
   exact (q.live v (ha v hv)).end e
  ·exact (k.tm c hc v hv).end e
structure D4 (n:Nat) (to:List (List Int)) (x:BL × MS):Prop where
 gt:Gt n to x.2
 ok:Ok x.2
 len:x.1.length=n
 term : ∀ j,j<n→nth x.1 j=true→jg (nth x.2.blocks j).term=true
 emp : ∀ j,j<n→nth x.1 j=false→(nth x.2.blocks j).ins.length=0
 ins : ∀ j,j<n→(nth x.2.blocks j).ins.length≤45
 nx:x.2.next+45*(cnt0 x.1:Nat)≤28+45*n
theorem D4.step {x:BL × MS} (q:D4 n to x) (hb:b<n) (ht:(nth to b).length≤65):D4 n to (aQ s to n b x)∧(∀ j,nth x.1 j=true→nth (aQ s to n b x).1 j=true)∧(kW x.1 (gT x.2.f n) b n=true→nth (aQ s to n b x).1 b=true):=by
 unfold aQ
 have hlen:=q.gt.len
 have hbl:b<x.2.blocks.length:=by rw [hlen];exact hb
 split
 ·rename_i hr
  have hd:=kS hr
  have hset : ∀ j,nth (x.1.set b true) j=if b=j then true else nth x.1 j:=fun j=>by
   have:=q.len
   rcases Nat.lt_or_ge j x.1.length with hl | hl
   ·rw [aK hl]
   ·rw [aV (by simpa using hl),if_neg (by omega),aV hl]
  generalize hdn:x.1.set b true=dn at hset
  have hdl:dn.length=n:=by rw [←hdn,List.length_set];exact q.len
  have hmono : ∀ j,nth x.1 j=true→nth dn j=true:=fun j hj=>by rw [hset];split<;>simp_all
  have hlt:cnt0 dn<cnt0 x.1:=vR (by rw [hdl];exact q.len) (fun j _=>hmono j) b (by rw [q.len];exact hb) hd (by rw [hset,if_pos rfl])
  refine ⟨?_,hmono,fun _=>by rw [hset,if_pos rfl]⟩
  generalize hm1:(MS.took { x.2 with live:=jn x.2 dn (gT x.2.f n) b n }:MS)=m1
  have hB:m1.blocks=x.2.blocks:=by rw [←hm1];rfl
  have hN:m1.next=x.2.next:=by rw [←hm1];rfl
  have i1:In b m1:=by
   rw [←hm1]
   exact ⟨q.ok.at (Int.le_refl _),hbl,D2 (m:=x.2) (dn:=dn) q.ok.p0 hlen hb⟩
  have tk:=aZ (s:=s) (at_:=x.2.at_) (n:=7) (by decide)
  have w1:=i1.dD (s:=s) (aB s x.2.at_ 7).toNat
  obtain ⟨w2,t1,t2,t3⟩:=w1.inn.term (s:=s) ht
  have g:=((Grw.refl (b:=b) (m:=m1)).dD (s:=s) i1.lt (aB s x.2.at_ 7).toNat).C5 (s:=s) (to:=nth to b) i1.lt
  have w:=w1.trans w2
  have eD:gx s to n dn (gT x.2.f n) b x.2=kr s (nth to b) b (up (fun _=>aF s b) (aB s x.2.at_ 7).toNat m1):=by rw [←hm1];rfl
  rw [eD]
  unfold kr
  generalize dL s (nth to b) b (up (fun _=>aF s b) (aB s x.2.at_ 7).toNat m1)=r at w2 t1 t2 t3 g w
  have e0:Ext x.2 r.2:=by
   have e:=w.ext
   exact ⟨by rw [e.ps,←hm1];rfl,by rw [e.len,hB],fun j=>by rw [e.to,hB],fun j v hv=>e.phis j v (by rw [hB];exact hv),fun j=>by have:=e.ins j;rw [hB] at this;exact this⟩
  have gt2:=q.gt.ext e0
  obtain ⟨k1,k2⟩:=Ok.dS w2.inn (t:=r.1) (by rw [t2,gt2.to b hb]) t3
  have hnth : ∀ j,nth (r.2.dS b r.1).blocks j=if b=j then { nth r.2.blocks b with term:=r.1 } else nth r.2.blocks j:=fun j=>by
   show nth (r.2.blocks.set b _) j=_
   have:=gt2.len
   rcases Nat.lt_or_ge j r.2.blocks.length with hl | hl
   ·rw [aK hl]
   ·rw [aV (by simpa using hl),if_neg (by omega),aV hl]
  have hels : ∀ j,b≠j→nth (r.2.dS b r.1).blocks j=nth x.2.blocks j:=fun j hj=>by
   rw [hnth,if_neg hj,g.els j (fun e=>hj e.symm),hB]
  have hlen0:=q.emp b hb hd
  refine ⟨gt2.ext k2,k1,hdl,fun j hj h=>?_,fun j hj h=>?_,fun j hj=>?_,?_⟩
  ·by_cases e:b=j
   ·show jg (nth (r.2.dS b r.1).blocks j).term=true
    rw [hnth,if_pos e];exact t1
   ·show jg (nth (r.2.dS b r.1).blocks j).term=true
    rw [hels j e]
    refine q.term j hj ?_
    have h:nth dn j=true:=h
    rw [hset,if_neg e] at h;exact h
  ·have h:nth dn j=false:=h
   rw [hset] at h
   split at h
   ·cases h
   ·rename_i e
    show (nth (r.2.dS b r.1).blocks j).ins.length=0
    rw [hels j e];exact q.emp j hj h
  ·show (nth (r.2.dS b r.1).blocks j).ins.length≤45
   by_cases e:b=j
   ·rw [hnth,if_pos e]
    have:=w.ins
    rw [hB] at this
    show (nth r.2.blocks b).ins.length≤45
    omega
   ·rw [hels j e];exact q.ins j hj
  ·show r.2.next+45*((cnt0 dn:Nat):Int)≤_
   have:=w.nx
   have:=q.nx
   omega
 ·rename_i hr
  exact ⟨q,fun j h=>h,fun h=>absurd h hr⟩
theorem D4.upto {x:BL × MS} (q:D4 n to x) (ht : ∀ j,(nth to j).length≤65) : ∀ k,k≤n→D4 n to (up (aQ s to n) k x)∧(∀ j,nth x.1 j=true→nth (up (aQ s to n) k x).1 j=true)∧(∀ b,b<k→nth x.1 b=false→(∀ a,a<n→a=b∨nth x.1 a=true∨Re (ofG x.2.blocks) (a:Int) b)→nth (up (aQ s to n) k x).1 b=true)
 | 0,_=>⟨q,fun j h=>h,fun b hb=>absurd hb (Nat.not_lt_zero _)⟩
 | k+1,hk=>by
  obtain ⟨h1,h2,h3⟩:=D4.upto q ht k (by omega)
  have e:up (aQ s to n) (k+1) x=aQ s to n k (up (aQ s to n) k x):=rfl
  rw [e]
  generalize up (aQ s to n) k x=y at h1 h2 h3
  obtain ⟨h4,h5,h6⟩:=h1.step (s:=s) (b:=k) (by omega) (ht k)
  refine ⟨h4,fun j h=>h5 j (h2 j h),fun b hb hd hr=>?_⟩
  rcases Nat.lt_or_ge b k with h | h
  ·exact h5 b (h3 b h hd hr)
  ·have:b=k:=by omega
   subst this
   cases hy:nth y.1 b with
   | true=>exact h5 b hy
   | false=>
    refine h6 (CU h1.gt.len (by omega) hy fun a ha=>?_)
    rcases hr a ha with r | r | r
    ·exact .inl r
    ·exact .inr (.inl (h2 a r))
    ·refine .inr (.inr ?_)
     have eg:ofG y.2.blocks=ofG x.2.blocks:=by
      unfold ofG
      rw [h1.gt.len,q.gt.len]
      refine List.map_congr_left fun i hi=>?_
      have hi:i<n:=List.mem_range.1 hi
      rw [h1.gt.to i hi,q.gt.to i hi]
     rw [eg];exact r
theorem D4.turn {x:BL × MS} (q:D4 n to x) (ht : ∀ j,(nth to j).length≤65) (hw : ∀ b,b<n→Re (ofG x.2.blocks) (-1) b):D4 n to (up (aQ s to n) n x)∧(cnt0 (up (aQ s to n) n x).1=0∨cnt0 (up (aQ s to n) n x).1<cnt0 x.1):=by
 obtain ⟨h1,h2,h3⟩:=q.upto (s:=s) ht n (Nat.le_refl _)
 refine ⟨h1,?_⟩
 generalize up (aQ s to n) n x=y at h1 h2 h3
 by_cases hz : ∃ b,b<n∧nth x.1 b=false
 ·obtain ⟨b,hb,hd⟩:=hz
  obtain ⟨c,k1,k2,k3⟩:=Cq (l:=x.2.blocks) (dn:=x.1) (fun b hb=>hw b (by rw [q.gt.len] at hb;exact hb)) (b:=b) (by rw [q.gt.len];exact hb) hd
  rw [q.gt.len] at k1 k3
  exact .inr (vR (by rw [h1.len,q.len]) (fun j _=>h2 j) c (by rw [q.len];exact k1) k2 (h3 c k1 k2 k3))
 ·refine .inl ?_
  have : ∀ {l:BL},(∀ j,j<l.length→nth l j=true)→cnt0 l=0:=fun {l}=>by
   induction l with
   | nil=>intro _;rfl
   | cons a l ih=>
    intro h
    have h1:a=true:=h 0 (by simp)
    have h2:=ih fun j hj=>by have:=h (j+1) (by simpa using hj);rwa [jQ] at this
    unfold cnt0;rw [h1,h2];rfl
  refine this fun j hj=>h2 j ?_
  rw [h1.len] at hj
  cases e:nth x.1 j with
  | true=>rfl
  | false=>exact absurd ⟨j,hj,e⟩ hz
theorem D4.turns {x:BL × MS} (q:D4 n to x) (ht : ∀ j,(nth to j).length≤65) (hw : ∀ {m:MS},Gt n to m→∀ b,b<n→Re (ofG m.blocks) (-1) b) : ∀ k,D4 n to (up (fun _=>up (aQ s to n) n) k x)∧(cnt0 (up (fun _=>up (aQ s to n) n) k x).1=0∨cnt0 (up (fun _=>up (aQ s to n) n) k x).1+k≤n)
 | 0=>⟨q,.inr (by have:=rK (l:=x.1);rw [q.len] at this;exact this)⟩
 | k+1=>by
  obtain ⟨h1,h2⟩:=D4.turns q ht hw k
  have e:up (fun _=>up (aQ s to n) n) (k+1) x=up (aQ s to n) n (up (fun _=>up (aQ s to n) n) k x):=rfl
  rw [e]
  generalize up (fun _=>up (aQ s to n) n) k x=y at h1 h2
  obtain ⟨h3,h4⟩:=h1.turn (s:=s) ht (hw h1.gt)
  refine ⟨h3,?_⟩
  rcases h4 with h4 | h4
  ·exact .inl h4
  ·rcases h2 with h2 | h2
   ·omega
   ·exact .inr (by omega)
theorem Fa {m:MS} (g:Gt (aG s) (dN s).1 m) : ∀ b,b<aG s→Re (ofG m.blocks) (-1) b:=by
 have t:=zW (s:=s)
 obtain ⟨h1,h2⟩:=eY (s:=s)
 intro b hb
 refine Fc (by rw [g.len];omega) (fun b h1 hb=>?_) b (by rw [g.len];exact hb)
 rw [g.len] at hb
 obtain ⟨a,ha,hm⟩:=t.way b h1 (by omega)
 exact ⟨a,ha,by rw [g.to a (by omega)];exact hm⟩
theorem Dw:D4 (aG s) (dN s).1 (kv s)∧∀ j,j<aG s→nth (kv s).1 j=true:=by
 obtain ⟨q,h1,h2⟩:=yz (s:=s)
 have t:=zW (s:=s)
 have hr : ∀ j,nth (List.replicate (aG s) false) j=false:=fun j=>by
  rcases Nat.lt_or_ge j (aG s) with hl | hl
  ·rw [au hl]
  ·rw [aV (by simpa using hl)];rfl
 have d0:D4 (aG s) (dN s).1 (List.replicate (aG s) false,(eR s).2):=
  ⟨q.gt,q.ok,by simp,fun j hj h=>by { rw [hr] at h;cases h },fun j hj _=>by { show (nth (eR s).2.blocks j).ins.length=0;rw [q.none j hj];rfl },fun j hj=>by { show (nth (eR s).2.blocks j).ins.length≤45;rw [q.none j hj];exact Nat.zero_le _ },by
   have:=rK (l:=List.replicate (aG s) false)
   rw [List.length_replicate] at this
   show (eR s).2.next+45*((cnt0 (List.replicate (aG s) false):Nat):Int)≤_
   omega⟩
 obtain ⟨h3,h4⟩:=d0.turns (s:=s) (fun j=>by have:=t.row j;omega) (fun g=>Fa g) (aG s)
 refine ⟨h3,fun j hj=>?_⟩
 have h4:cnt0 (kv s).1=0∨cnt0 (kv s).1+aG s≤aG s:=h4
 exact uL (by omega) j (by rw [show (kv s).1.length=aG s from h3.len];exact hj)
end
end Go.Proofs.Ytfelpjfopgiabaa
namespace Go.Proofs.Ytfelpjfopgiabaa
open Go Go.Lft
section
variable {s:List Int} {n:Nat} {to:List (List Int)} {m m':MS} {b:Nat}
theorem nC {α:Type} [Inhabited α] {β:Type} {l:List α} {g:α→β}:rows (fun i=>g (nth l i)) l.length=l.map g:=by
 refine List.ext_getElem (by simp) fun i h1 h2=>?_
 have hi:i<l.length:=by simpa using h2
 simp [rows,aq hi]
theorem DX {f:ak}:iH (thB f b)=mkB (nth f.blocks b):=by
 unfold thB iH mkB
 rw [List.flatMap_append,List.flatMap_append]
 have e1:(rows (phiT f b) (nth f.blocks b).phis.length).flatMap Th.mks=(nth f.blocks b).phis.map PhiD.dst:=by
  rw [←nC]
  unfold rows
  rw [List.flatMap_map]
  show (List.range _).flatMap (fun i=>[(nth (nth f.blocks b).phis i).dst])=_
  generalize List.range _=l
  induction l with
  | nil=>rfl
  | cons a l ih=>rw [List.flatMap_cons,ih,List.map_cons];rfl
 have e2:(rows (insT f b) (nth f.blocks b).ins.length).flatMap Th.mks=(nth f.blocks b).ins.flatMap aU:=by
  have h:(nth f.blocks b).ins.map aU=rows (fun i=>aU (nth (nth f.blocks b).ins i)) (nth f.blocks b).ins.length:=nC.symm
  rw [show (nth f.blocks b).ins.flatMap aU=((nth f.blocks b).ins.map aU).flatten from rfl,h]
  unfold rows
  rw [List.flatMap_map]
  rfl
 rw [e1,e2]
 simp [endT]
theorem FM {f:ak} {t:Th} {v:Int} (ht:t∈ar f) (hv:v∈t.mks) : ∃ b,b<f.blocks.length∧t.blk=b∧v∈mkB (nth f.blocks b):=by
 obtain ⟨b,hb,hm⟩:=cU.1 ht
 refine ⟨b,hb,?_,?_⟩
 ·rcases dw.1 hm with ⟨i,hi,rfl⟩ | ⟨i,hi,rfl⟩ | rfl<;>rfl
 ·rw [←DX];exact List.mem_flatMap.2 ⟨t,hm,hv⟩
theorem xY (hp:0≤m.ps) (hb:b<m.blocks.length) {v:Int} (h:v∈fj m.f b):Sd m b (nth m.blocks b).ins.length v:=by
 have key : ∀ (l:List Th) (o:List Int),(∀ t∈l,t∈ar m.f)→(∀ v∈o,Sd m b (nth m.blocks b).ins.length v)→∀ v∈l.foldl (dx m.f b) o,Sd m b (nth m.blocks b).ins.length v:=by
  intro l
  induction l with
  | nil=>intro o _ ho v hv;exact ho v hv
  | cons t l ih=>
   intro o hl ho v hv
   rw [List.foldl_cons] at hv
   refine ih _ (fun x hx=>hl x (List.mem_cons_of_mem _ hx)) (fun v hv=>?_) v hv
   unfold dx at hv
   split at hv
   ·rename_i ha
    rcases List.mem_append.1 hv with hv | hv
    ·exact ho v hv
    ·obtain ⟨a,h1,h2,h3⟩:=FM (hl t List.mem_cons_self) hv
     rcases Nat.decEq a b with e | e
     ·refine .inr (.inr (.inr ⟨a,h1,e,h3,fun hr=>?_⟩))
      unfold om at ha
      rw [h2,(eF (f:=m.f) hb).2 hr] at ha
      simp at ha
      exact e (by omega)
     ·subst e
      rcases List.mem_append.1 h3 with h | h
      ·exact .inr (.inl h)
      ·refine .inr (.inr (.inl ?_))
       rw [List.take_length];exact h
   ·exact ho v hv
 unfold fj at h
 refine key _ _ (fun t h=>h) (fun v hv=>?_) v h
 obtain ⟨i,hi,rfl⟩:=rz.1 hv
 have hi:i<m.ps.toNat:=hi
 exact .inl ⟨by omega,by omega⟩
def PhOk (m:MS) (p:PhiD) (b:Nat):Prop:=p.ins.map InD.frm=az m.f b∧∀ q∈p.ins,∃ c:Nat,q.frm=c∧c<m.blocks.length∧Sd m c (nth m.blocks c).ins.length q.val
theorem mD (hl:m'.blocks.length=m.blocks.length) (h : ∀ j,(nth m'.blocks j).term.to=(nth m.blocks j).term.to) {b:Int}:az m'.f b=az m.f b:=by
 unfold az
 rw [show m'.f.blocks.length=m.f.blocks.length from hl]
 congr 1
 funext a
 rw [show (nth m'.f.blocks a).term.to=(nth m.f.blocks a).term.to from h a]
theorem PhOk.ext {p:PhiD} (h:PhOk m p b) (e:Ext m m'):PhOk m' p b:=
 ⟨by rw [mD e.len e.to];exact h.1,fun q hq=>by
  obtain ⟨c,h1,h2,h3⟩:=h.2 q hq
  exact ⟨c,h1,by rw [e.len];exact h2,h3.end e⟩⟩
structure D5 (n c:Nat) (to:List (List Int)) (m:MS):Prop where
 gt:Gt n to m
 ok:Ok m
 term : ∀ j,j<n→jg (nth m.blocks j).term=true
 ins : ∀ j,j<n→(nth m.blocks j).ins.length≤45+c
 nx:m.next≤433+c
theorem D5.mono {c d:Nat} (q:D5 n c to m) (h:c≤d):D5 n d to m:=⟨q.gt,q.ok,q.term,fun j hj=>by have:=q.ins j hj;omega,by have:=q.nx;omega⟩
theorem D5.took {c:Nat} (q:D5 n c to m):D5 n c to m.took:=⟨⟨q.gt.len,q.gt.to⟩,q.ok.at (Int.le_refl _),q.term,q.ins,q.nx⟩
theorem D5.constant {c:Nat} (q:D5 n c to m) (hb:b<n) {w:Int}:D5 n (c+1) to (m.constant b w)∧Ext m (m.constant b w)∧(∀ j,(nth (m.constant b w).blocks j).phis=(nth m.blocks j).phis)∧Sd (m.constant b w) b (nth (m.constant b w).blocks b).ins.length m.next:=by
 have hlen:=q.gt.len
 have hbl:b<m.blocks.length:=by rw [hlen];exact hb
 have e:m.constant b w=MS.add ⟨m.at_,m.ps,m.blocks,m.next+1,m.live⟩ b (conD m.next w):=rfl
 have mk:aU (conD m.next w)=[m.next]:=rfl
 have k:=q.ok.add (a:=m.at_) (nx:=m.next+1) (i:=conD m.next w) (l:=m.live) hbl (by omega) (by rw [mk];intro v hv;rw [List.mem_singleton.1 hv];omega) (by rw [mk];simp) ⟨rfl,fun h=>absurd h (show (1:Int)≠16 by decide),fun _=>rfl⟩ (fun v hv=>by cases hv)
 have ex:Ext m (m.constant b w):=(vJ (m:=⟨m.at_,m.ps,m.blocks,m.next+1,m.live⟩) (i:=conD m.next w) hbl).frm rfl rfl
 have hnth : ∀ j,nth (m.constant b w).blocks j=if b=j then { nth m.blocks b with ins:=(nth m.blocks b).ins++[conD m.next w] } else nth m.blocks j:=fun j=>na (m:=⟨m.at_,m.ps,m.blocks,m.next+1,m.live⟩) hbl
 refine ⟨⟨q.gt.ext ex,k,fun j hj=>?_,fun j hj=>?_,?_⟩,ex,fun j=>?_,CC (m:=m) hbl (by rw [mk];exact List.mem_singleton.2 rfl)⟩
 ·rw [hnth];split
  ·exact q.term b hb
  ·exact q.term j hj
 ·have:=q.ins j hj
  rw [hnth];split
  ·rename_i e1;subst e1
   show ((nth m.blocks b).ins++[_]).length≤_
   rw [List.length_append,List.length_singleton];omega
  ·omega
 ·have:=q.nx
  show m.next+1≤_
  omega
 ·rw [hnth];split
  ·rename_i e1;rw [e1]
  ·rfl
theorem D5.row {c:Nat} (q:D5 n c to m) (hb:b<n):D5 n (c+1) to (rowS s b m).2∧Ext m (rowS s b m).2∧(∀ j,(nth (rowS s b m).2.blocks j).phis=(nth m.blocks j).phis)∧∀ v∈(rowS s b m).1,Sd (rowS s b m).2 b (nth (rowS s b m).2.blocks b).ins.length v:=by
 unfold rowS
 split
 ·obtain ⟨h1,h2,h3,h4⟩:=q.took.took.constant (w:=gH s m) hb
  refine ⟨h1,⟨h2.ps,h2.len,h2.to,h2.phis,h2.ins⟩,h3,fun v hv=>?_⟩
  rw [List.mem_singleton.1 hv];exact h4
 ·have hlen:=q.gt.len
  exact ⟨q.mono (by omega),.refl,fun j=>rfl,fun v hv=>xY q.ok.p0 (by omega) hv⟩
theorem D5.ups {c:Nat} {p:List Int} (q:D5 n c to m) (hp : ∀ k,k<p.length→∃ a:Nat,nth p k=a∧a<n) : ∀ k,k≤p.length→
  D5 n (c+k) to (up (bI s p) k ([],m)).2∧Ext m (up (bI s p) k ([],m)).2∧(∀ j,(nth (up (bI s p) k ([],m)).2.blocks j).phis=(nth m.blocks j).phis)∧(up (bI s p) k ([],m)).1.map InD.frm=p.take k∧
   ∀ r∈(up (bI s p) k ([],m)).1,∃ a:Nat,r.frm=a∧a<n∧Sd (up (bI s p) k ([],m)).2 a (nth (up (bI s p) k ([],m)).2.blocks a).ins.length r.val
 | 0,_=>⟨q,.refl,fun _=>rfl,rfl,fun r hr=>by cases hr⟩
 | k+1,hk=>by
  obtain ⟨h1,h2,h3,h4,h5⟩:=D5.ups q hp k (by omega)
  obtain ⟨a,ha,han⟩:=hp k (by omega)
  have e1:(up (bI s p) (k+1) ([],m)).2=(rowS s (nth p k).toNat (up (bI s p) k ([],m)).2).2.took:=rfl
  have e2:(up (bI s p) (k+1) ([],m)).1=(up (bI s p) k ([],m)).1++[⟨nth p k,nth (rowS s (nth p k).toNat (up (bI s p) k ([],m)).2).1 (aB s (rowS s (nth p k).toNat (up (bI s p) k ([],m)).2).2.at_ (rowS s (nth p k).toNat (up (bI s p) k ([],m)).2).1.length).toNat⟩]:=rfl
  rw [e1,e2]
  generalize up (bI s p) k ([],m)=y at h1 h2 h3 h4 h5
  have hat:(nth p k).toNat=a:=by omega
  rw [hat]
  obtain ⟨k1,k2,k3,k4⟩:=h1.row (s:=s) (b:=a) han
  have hpos:=xL (s:=s) (b:=a) (m:=y.2)
  generalize rowS s a y.2=r at k1 k2 k3 k4 hpos
  refine ⟨k1.took,h2.trans ⟨k2.ps,k2.len,k2.to,k2.phis,k2.ins⟩,fun j=>(k3 j).trans (h3 j),?_,fun t ht=>?_⟩
  ·rw [List.map_append,h4,List.take_succ_eq_append_getElem (by omega)]
   show p.take k++[nth p k]=_
   rw [aq (by omega)]
  ·rcases List.mem_append.1 ht with ht | ht
   ·obtain ⟨d,d1,d2,d3⟩:=h5 t ht
    exact ⟨d,d1,d2,d3.end k2⟩
   ·rw [List.mem_singleton.1 ht]
    refine ⟨a,ha,han,k4 _ (bU ?_)⟩
    have:=aZ (s:=s) (at_:=r.2.at_) (n:=(r.1.length:Int)) (by omega)
    omega
theorem uh {i j:Nat} {l:List InD} (hb:b<m.blocks.length):nth (m.gE b i l).blocks j=if b=j then { nth m.blocks b with phis:=(nth m.blocks b).phis.set i { nth (nth m.blocks b).phis i with ins:=l } } else nth m.blocks j:=by
 show nth (m.blocks.set b _) j=_
 rcases Nat.lt_or_ge j m.blocks.length with hl | hl
 ·rw [aK hl]
 ·rw [aV (by simpa using hl),if_neg (by omega),aV hl]
theorem Ea {l:List PhiD} {i:Nat} {x:List InD}:(l.set i { nth l i with ins:=x }).map PhiD.dst=l.map PhiD.dst:=by
 refine List.ext_getElem (by simp) fun j h1 h2=>?_
 have hj:j<l.length:=by simpa using h2
 rw [List.getElem_map,List.getElem_map,List.getElem_set]
 split
 ·rename_i e;subst e
  rw [aq hj]
 ·rfl
theorem D5.gE {c i:Nat} {l:List InD} (q:D5 n c to m) (hb:b<n):D5 n c to (m.gE b i l)∧Ext m (m.gE b i l):=by
 have hlen:=q.gt.len
 have hbl:b<m.blocks.length:=by omega
 have hnth : ∀ j,nth (m.gE b i l).blocks j=_:=fun j=>uh (i:=i) (l:=l) hbl
 have hl:(m.gE b i l).blocks.length=m.blocks.length:=List.length_set
 have hin : ∀ j,(nth (m.gE b i l).blocks j).ins=(nth m.blocks j).ins:=fun j=>by
  rw [hnth];split
  ·rename_i e;rw [e]
  ·rfl
 have htm : ∀ j,(nth (m.gE b i l).blocks j).term=(nth m.blocks j).term:=fun j=>by
  rw [hnth];split
  ·rename_i e;rw [e]
  ·rfl
 have hph : ∀ j,(nth (m.gE b i l).blocks j).phis.map PhiD.dst=(nth m.blocks j).phis.map PhiD.dst:=fun j=>by
  rw [hnth];split
  ·rename_i e;rw [←e];exact Ea
  ·rfl
 have hmk : ∀ j,mkB (nth (m.gE b i l).blocks j)=mkB (nth m.blocks j):=fun j=>by unfold mkB;rw [hin,hph]
 have e:Ext m (m.gE b i l):=⟨rfl,hl,fun j=>by rw [htm],fun j v h=>by rw [hph];exact h,fun j=>⟨[],by rw [hin];simp⟩⟩
 have k:=q.ok
 refine ⟨⟨q.gt.ext e,⟨k.p0,k.pn,fun c hc=>?_,fun c hc=>?_,fun c d hc hd=>?_,fun c hc=>?_,fun c hc i hi v hv=>?_,fun c hc v hv=>?_⟩,fun j hj=>by rw [htm];exact q.term j hj,fun j hj=>by rw [hin];exact q.ins j hj,q.nx⟩,e⟩<;>rw [hl] at hc
 ·rw [hin];exact k.op c hc
 ·rw [hmk];exact k.nd c hc
 ·rw [hl] at hd;rw [hmk,hmk];exact k.dj c d hc hd
 ·rw [hmk];exact k.rg c hc
 ·rw [hin] at hi hv;exact (k.tk c hc i hi v hv).ext e
 ·rw [htm] at hv;exact (k.tm c hc v hv).end e
theorem Ay {k:Nat} {b:Int} (hk:k<(az m.f b).length) : ∃ a:Nat,nth (az m.f b) k=a∧a<m.blocks.length:=sU _ k hk
theorem Bk {b:Int}:(az m.f b).length≤m.blocks.length:=kD _
theorem D5.phi {c i:Nat} (q:D5 n c to m) (hb:b<n) (hi:i<(nth m.blocks b).phis.length) :
  D5 n (c+n) to (phi3 s b (az m.f b) i m)∧Ext m (phi3 s b (az m.f b) i m)∧(∀ j,(nth (phi3 s b (az m.f b) i m).blocks j).phis.length=(nth m.blocks j).phis.length)∧
   PhOk (phi3 s b (az m.f b) i m) (nth (nth (phi3 s b (az m.f b) i m).blocks b).phis i) b∧
   ∀ d j,(d≠b∨j≠i)→nth (nth (phi3 s b (az m.f b) i m).blocks d).phis j=nth (nth m.blocks d).phis j:=by
 have hlen:=q.gt.len
 obtain ⟨h1,h2,h3,h4,h5⟩:=q.ups (s:=s) (p:=az m.f b) (fun k hk=>by
  obtain ⟨a,h1,h2⟩:=Ay hk
  exact ⟨a,h1,by omega⟩) (az m.f b).length (Nat.le_refl _)
 have hp:=Bk (m:=m) (b:=b)
 unfold phi3
 generalize up (bI s (az m.f b)) (az m.f b).length ([],m)=y at h1 h2 h3 h4 h5
 have hyl:=h1.gt.len
 obtain ⟨k1,k2⟩:=h1.gE (b:=b) (i:=i) (l:=y.1) hb
 have hnth : ∀ j,nth (y.2.gE b i y.1).blocks j=_:=fun j=>uh (i:=i) (l:=y.1) (by omega:b<y.2.blocks.length)
 have hi2:i<(nth y.2.blocks b).phis.length:=by rw [h3];exact hi
 refine ⟨k1.mono (by omega),h2.trans k2,fun j=>?_,?_,fun d j hd=>?_⟩
 ·rw [hnth];split
  ·rename_i e;rw [←e,←h3 b]
   show (List.set _ _ _).length=_
   rw [List.length_set]
  ·rw [h3]
 ·rw [hnth,if_pos rfl]
  show PhOk _ (nth ((nth y.2.blocks b).phis.set i _) i) b
  rw [aK hi2,if_pos rfl]
  refine ⟨?_,fun t ht=>?_⟩
  ·rw [mD (h2.trans k2).len (h2.trans k2).to]
   show y.1.map InD.frm=_
   rw [h4,List.take_length]
  ·obtain ⟨a,d1,d2,d3⟩:=h5 t ht
   exact ⟨a,d1,by rw [k2.len];omega,d3.end k2⟩
 ·rw [hnth]
  split
  ·rename_i e;subst e
   show nth ((nth y.2.blocks b).phis.set i _) j=_
   rw [←h3 b]
   rcases Nat.lt_or_ge j (nth y.2.blocks b).phis.length with hl | hl
   ·rw [aK hl,if_neg (by rcases hd with hd | hd;exact absurd rfl hd;exact fun e=>hd e.symm)]
   ·rw [aV (by simpa using hl),aV hl]
  ·rw [h3]
theorem D5.phis {c cnt:Nat} (q:D5 n c to m) (hb:b<n) (hc:(nth m.blocks b).phis.length=cnt) : ∀ k,k≤cnt→
  D5 n (c+n*k) to (up (phi3 s b (az m.f b)) k m)∧Ext m (up (phi3 s b (az m.f b)) k m)∧(∀ j,(nth (up (phi3 s b (az m.f b)) k m).blocks j).phis.length=(nth m.blocks j).phis.length)∧
   (∀ i,i<k→PhOk (up (phi3 s b (az m.f b)) k m) (nth (nth (up (phi3 s b (az m.f b)) k m).blocks b).phis i) b)∧
   ∀ d j,d≠b→nth (nth (up (phi3 s b (az m.f b)) k m).blocks d).phis j=nth (nth m.blocks d).phis j
 | 0,_=>⟨q,.refl,fun _=>rfl,fun i hi=>absurd hi (Nat.not_lt_zero _),fun _ _ _=>rfl⟩
 | k+1,hk=>by
  obtain ⟨h1,h2,h3,h4,h5⟩:=D5.phis q hb hc k (by omega)
  have e:up (phi3 s b (az m.f b)) (k+1) m=phi3 s b (az m.f b) k (up (phi3 s b (az m.f b)) k m):=rfl
  rw [e]
  have ep:az m.f b=az (up (phi3 s b (az m.f b)) k m).f b:=(mD h2.len h2.to).symm
  generalize hy:up (phi3 s b (az m.f b)) k m=y at h1 h2 h3 h4 h5 ep
  rw [ep]
  obtain ⟨k1,k2,k3,k4,k5⟩:=h1.phi (s:=s) (i:=k) hb (by rw [h3];omega)
  refine ⟨k1.mono (by rw [Nat.mul_succ];omega),h2.trans k2,fun j=>(k3 j).trans (h3 j),fun i hi=>?_,fun d j hd=>(k5 d j (.inl hd)).trans (h5 d j hd)⟩
  rcases Nat.lt_or_ge i k with h | h
  ·rw [k5 b i (.inr (by omega))]
   exact (h4 i h).ext k2
  ·have:i=k:=by omega
   subst this;exact k4
theorem D5.blks {c:Nat} {lp:List Int} (q:D5 n c to m) (hc : ∀ j,((nth m.blocks j).phis.length:Int)=nth lp j) (h3 : ∀ j,nth lp j≤3) : ∀ k,k<n→
  D5 n (c+n*3*k) to (up (blk3 s lp) k m)∧Ext m (up (blk3 s lp) k m)∧(∀ j,(nth (up (blk3 s lp) k m).blocks j).phis.length=(nth m.blocks j).phis.length)∧
   ∀ b,1≤b→b≤k→∀ i,i<(nth m.blocks b).phis.length→PhOk (up (blk3 s lp) k m) (nth (nth (up (blk3 s lp) k m).blocks b).phis i) b
 | 0,_=>⟨q,.refl,fun _=>rfl,fun b h1 h2=>by omega⟩
 | k+1,hk=>by
  obtain ⟨h1,h2,h4,h5⟩:=D5.blks q hc h3 k (by omega)
  have e:up (blk3 s lp) (k+1) m=blk3 s lp k (up (blk3 s lp) k m):=rfl
  rw [e]
  generalize up (blk3 s lp) k m=y at h1 h2 h4 h5
  have hcnt:(nth y.blocks (k+1)).phis.length=(nth lp (k+1)).toNat:=by
   have:=hc (k+1)
   rw [h4];omega
  have hc3:=h3 (k+1)
  obtain ⟨k1,k2,k3,k4,k5⟩:=h1.phis (s:=s) (b:=k+1) hk hcnt (nth lp (k+1)).toNat (Nat.le_refl _)
  have hbd:n*(nth lp (k+1)).toNat≤n*3:=Nat.mul_le_mul_left _ (by omega)
  have hms:n*3*(k+1)=n*3*k+n*3:=Nat.mul_succ _ _
  refine ⟨k1.mono (by rw [hms];omega),h2.trans k2,fun j=>(k3 j).trans (h4 j),fun b hb1 hb2 i hi=>?_⟩
  rcases Nat.lt_or_ge k b with h | h
  ·have:b=k+1:=by omega
   subst this
   have:=hc (k+1)
   exact k4 i (by omega)
  ·have:=(h5 b hb1 h i hi).ext k2
   rw [←k5 b i (by omega)] at this
   exact this
theorem Dk:D5 (aG s) 216 (dN s).1 (gg s)∧(∀ j,(nth (gg s).blocks j).phis.length≤3)∧(nth (gg s).blocks 0).phis.length=0∧∀ b,b<aG s→∀ i,i<(nth (gg s).blocks b).phis.length→PhOk (gg s) (nth (nth (gg s).blocks b).phis i) b:=by
 obtain ⟨n1,n2⟩:=eY (s:=s)
 obtain ⟨q,h4⟩:=Dw (s:=s)
 obtain ⟨p,_,_⟩:=mJ (s:=s)
 obtain ⟨_,pc⟩:=sj (s:=s)
 obtain ⟨_,_,e0⟩:=yz (s:=s)
 have d:D5 (aG s) 0 (dN s).1 (kv s).2:=⟨q.gt,q.ok,fun j hj=>q.term j hj (h4 j hj),q.ins,by have:=q.nx;omega⟩
 obtain ⟨k1,k2,k3,k4⟩:=d.blks (s:=s) (lp:=(eR s).1) pc (fun j=>(p.rng j).2) (aG s-1) (by omega)
 have e:up (blk3 s (eR s).1) (aG s-1) (kv s).2=gg s:=rfl
 rw [e] at k1 k2 k3 k4
 have hz:(nth (gg s).blocks 0).phis.length=0:=by
  rw [k3];have:=pc 0;omega
 have hm:aG s*3*(aG s-1)≤27*8:=Nat.mul_le_mul (by omega) (by omega)
 refine ⟨k1.mono (by omega),fun j=>?_,hz,fun b hb i hi=>?_⟩
 ·rw [k3];have:=pc j;have:=(p.rng j).2;omega
 ·rcases Nat.eq_zero_or_pos b with h | h
  ·subst h;omega
  ·exact k4 b h (by omega) i (by rw [←k3];exact hi)
end
theorem xF {s:List Int}:(∀ x∈(iG s).blocks,∀ p∈x.phis,p.dst≤4000)∧∀ x∈(iG s).blocks,∀ i∈x.ins,i.dst≤4000∧i.two≤4000:=by
 obtain ⟨d,_,_,_⟩:=Dk (s:=s)
 have hn:=d.nx
 have key : ∀ x∈(iG s).blocks,∃ b,b<(gg s).blocks.length∧x=nth (gg s).blocks b:=fun x hx=>by
  obtain ⟨b,hb,rfl⟩:=List.getElem_of_mem hx
  have hb:b<(gg s).blocks.length:=hb
  exact ⟨b,hb,(aq hb).symm⟩
 refine ⟨fun x hx p hp=>?_,fun x hx i hi=>?_⟩
 ·obtain ⟨b,hb,rfl⟩:=key x hx
  have:=d.ok.rg b hb p.dst (List.mem_append_left _ (List.mem_map_of_mem hp))
  omega
 ·obtain ⟨b,hb,rfl⟩:=key x hx
  have o:=(d.ok.op b hb i hi).2
  have rg : ∀ v∈aU i,v<(gg s).next:=fun v hv=>(d.ok.rg b hb v (List.mem_append_right _ (List.mem_flatMap.2 ⟨i,hi,hv⟩))).2
  unfold aU at rg
  unfold NumI at o
  constructor
  ·by_cases h:i.op=16
   ·rw [o.1 h];decide
   ·rw [if_neg h] at rg
    have:=rg i.dst (by split<;>simp)
    omega
  ·by_cases h:i.op=18
   ·rw [if_neg (by rw [h];decide),if_pos h] at rg
    have:=rg i.two (by simp)
    omega
   ·rw [o.2 h];decide
end Go.Proofs.Ytfelpjfopgiabaa
namespace Go.Lft
open Go
variable {po:OP}
theorem Bs {P:Program} {t ty e:TypeId} {us:List (Nat × Value)} {h:Heap} {K:Value→Heap→Prop} {x:Operand} {B n sz:Nat} (ht:P.underlying t=some (.array n e)) (hz:bX P e=some sz) (hx:asg us x = .pointer (some ⟨B,0,none⟩)) (hk:K (.slice (some ⟨B,0,none⟩) n n) h):step P (.slice t x none none none) ty us h K:=by
 refine dC (dv fun w hw=>⟨.slice (some ⟨B,0,none⟩) n n,w,?_,Same.refl _,by rw [hw];exact hk⟩)
 have e3:=run_sizeOf (w:=w) hz
 simp only [bW,execOp,hx]
 simp [Instr.sliceAt,Instr.sureAddr,run_underlying ht,Instr.sliceBounds,e3,Addr.add]
end Go.Lft
namespace Go.Proofs.Ytfelpjfopgiabaa
open Go Go.Lft
structure TB (c:Nat) (x:BlkD):Prop where
 phis:x.phis.length≤c
 ins:x.ins.length≤c
 args:x.term.args.length≤c
 to:x.term.to.length≤c
 pin : ∀ p∈x.phis,p.ins.length≤c∧p.dst≤4000
 iar : ∀ i∈x.ins,i.args.length≤c∧i.dst≤4000∧i.two≤4000
structure TF (c:Nat) (f:ak):Prop where
 len:f.blocks.length≤1000
 blk : ∀ x∈f.blocks,TB c x
theorem TB.mono {c d:Nat} {x:BlkD} (t:TB c x) (h:c≤d):TB d x:=⟨Nat.le_trans t.phis h,Nat.le_trans t.ins h,Nat.le_trans t.args h,Nat.le_trans t.to h,fun p hp=>⟨Nat.le_trans (t.pin p hp).1 h,(t.pin p hp).2⟩,fun i hi=>⟨Nat.le_trans (t.iar i hi).1 h,(t.iar i hi).2⟩⟩
theorem TF.mono {c d:Nat} {f:ak} (t:TF c f) (h:c≤d):TF d f:=⟨t.len,fun x hx=>(t.blk x hx).mono h⟩
theorem Ai {s:List Int}:TF 1000 (iG s):=by
 have q:=oL (s:=s)
 have hn:=eY (s:=s)
 refine ⟨by show (gg s).blocks.length≤_;rw [q.z.len];omega,fun x hx=>?_⟩
 obtain ⟨j,hj,rfl⟩:=List.getElem_of_mem hx
 have hj:j<(gg s).blocks.length:=hj
 have g:=q.g j hj
 have this:TB 1000 (nth (gg s).blocks j):=⟨by have:=q.z.phis j;omega,q.z.ins j,by have:=g.args;omega,g.to,fun p hp=>⟨g.phis p hp,xF.1 _ (bU hj) p hp⟩,fun i hi=>⟨by have:=g.ins i hi;omega,xF.2 _ (bU hj) i hi⟩⟩
 rw [aq hj] at this
 exact this
structure Tu (R F X:Nat) (i10:Own) (c:Nat) (W0:View) (vbk:Value) (bl:List BlkD) (W:View) (o:Own) (ps:Int) (vp vi va vt:Value) (kd im:Int) (lp:List PhiD) (li:List InsD) (la lt:List Int):Prop where
 le:W0.le W
 res:o (8,0)=bx T.aE R (RawN.mk (n:=1) [.int .i64 0,.slice none 0 0])
 fn:o (8,1)=bx T.aE F (RawN.mk (n:=1) [.int .i64 ps,vbk])
 blk:o (3,0)=it T.al vbk bl
 box:o (3,1)=bx T.al X (RawN.mk (n:=5) [vp,vi,.int .i64 kd,va,vt,.int .i32 im])
 ins:o (3,2)=it T.aX vi li
 phis:o (3,3)=it T.cm vp lp
 free:o (4,0)=none
 fr : ∀ k:Key,10≤k.1→o k=i10 k
 ra:SlRd W va la
 rt:SlRd W vt lt
 ips:I64 ps
 ikd:I64 kd
 iim:-2147483648≤im∧im≤2147483647
 tb:TB c ⟨lp,li,⟨kd,la,lt,⟨im⟩⟩⟩
def TuE (R F X:Nat) (i10:Own) (c:Nat) (W0:View) (vbk:Value) (bl:List BlkD) (h:Heap):Prop:=∃ W o ps vp vi va vt kd im lp li la lt,Tu R F X i10 c W0 vbk bl W o ps vp vi va vt kd im lp li la lt∧Owns W h o
theorem TuE.mono {R F X:Nat} {i10:Own} {c d:Nat} {W0:View} {vbk:Value} {bl:List BlkD} {h:Heap} (t:TuE R F X i10 c W0 vbk bl h) (hd:c≤d):TuE R F X i10 d W0 vbk bl h:=by
 obtain ⟨W,o,ps,vp,vi,va,vt,kd,im,lp,li,la,lt,t,w⟩:=t
 exact ⟨W,o,ps,vp,vi,va,vt,kd,im,lp,li,la,lt,⟨t.le,t.res,t.fn,t.blk,t.box,t.ins,t.phis,t.free,t.fr,t.ra,t.rt,t.ips,t.ikd,t.iim,t.tb.mono hd⟩,w⟩
section
variable {R F X c:Nat} {i10:Own} {W0 W:View} {vbk:Value} {bl:List BlkD} {h:Heap} {o:Own} {ps:Int} {vp vi va vt:Value} {kd im:Int} {lp:List PhiD} {li:List InsD} {la lt:List Int}
theorem Tu.wider (t:Tu R F X i10 c W0 vbk bl W o ps vp vi va vt kd im lp li la lt) {W':View} (hW:W.le W'):Tu R F X i10 c W0 vbk bl W' o ps vp vi va vt kd im lp li la lt:=
 ⟨View.le_trans t.le hW,t.res,t.fn,t.blk,t.box,t.ins,t.phis,t.free,t.fr,t.ra.mono hW,t.rt.mono hW,t.ips,t.ikd,t.iim,t.tb⟩
theorem Tu.more (t:Tu R F X i10 c W0 vbk bl W o ps vp vi va vt kd im lp li la lt) {d:Nat} (hd:c≤d):Tu R F X i10 d W0 vbk bl W o ps vp vi va vt kd im lp li la lt:=
 ⟨t.le,t.res,t.fn,t.blk,t.box,t.ins,t.phis,t.free,t.fr,t.ra,t.rt,t.ips,t.ikd,t.iim,t.tb.mono hd⟩
variable {po:OP} {ty t2:TypeId} {us:List (Nat × Value)} {x y:Operand} {K:Value→Heap→Prop}
theorem Tu.A8 (t:Tu R F X i10 c W0 vbk bl W o ps vp vi va vt kd im lp li la lt) (w:Owns W h o) {p:Int} (hp:I64 p) (hsz:bX Try.prog t2=some 1) (hx:asg us x = .pointer (some ⟨F,0,none⟩)) (hy:asg us y = .int .i64 p) (hK : ∀ h',TuE R F X i10 c W0 vbk bl h'→K undef h'):@Lft.step po Try.prog (.store t2 x y) ty us h K:=
 w.bn (k:=(8,1)) (n:=1) (i:=0) t.fn (by decide) hsz hx hy rfl fun h' w' _=>hK h' ⟨W,_,p,vp,vi,va,vt,kd,im,lp,li,la,lt,⟨t.le,(Own.ab (by simp)).trans t.res,Own.ag,(Own.ab (by simp)).trans t.blk,(Own.ab (by simp)).trans t.box,(Own.ab (by simp)).trans t.ins,(Own.ab (by simp)).trans t.phis,(Own.ab (by simp)).trans t.free,fun k hk=>(Own.ab (by rintro rfl;simp at hk)).trans (t.fr k hk),t.ra,t.rt,hp,t.ikd,t.iim,t.tb⟩,w'⟩
theorem Tu.Dx (t:Tu R F X i10 c W0 vbk bl W o ps vp vi va vt kd im lp li la lt) (w:Owns W h o) {p:Int} (hp:I64 p) (hsz:bX Try.prog t2=some 1) (hx:asg us x = .pointer (some ⟨X,2,none⟩)) (hy:asg us y = .int .i64 p) (hK : ∀ h',TuE R F X i10 c W0 vbk bl h'→K undef h'):@Lft.step po Try.prog (.store t2 x y) ty us h K:=
 w.bn (k:=(3,1)) (n:=5) (i:=2) t.box (by decide) hsz hx hy rfl fun h' w' _=>hK h' ⟨W,_,ps,vp,vi,va,vt,p,im,lp,li,la,lt,⟨t.le,(Own.ab (by simp)).trans t.res,(Own.ab (by simp)).trans t.fn,(Own.ab (by simp)).trans t.blk,Own.ag,(Own.ab (by simp)).trans t.ins,(Own.ab (by simp)).trans t.phis,(Own.ab (by simp)).trans t.free,fun k hk=>(Own.ab (by rintro rfl;simp at hk)).trans (t.fr k hk),t.ra,t.rt,t.ips,hp,t.iim,⟨t.tb.phis,t.tb.ins,t.tb.args,t.tb.to,t.tb.pin,t.tb.iar⟩⟩,w'⟩
theorem Tu.Ad (t:Tu R F X i10 c W0 vbk bl W o ps vp vi va vt kd im lp li la lt) (w:Owns W h o) {v:Value} {l:List Int} (hv:SlRd W v l) (hl:l.length≤c) (hsz:bX Try.prog t2=some 1) (hx:asg us x = .pointer (some ⟨X,4,none⟩)) (hy:asg us y=v) (hK : ∀ h',TuE R F X i10 c W0 vbk bl h'→K undef h'):@Lft.step po Try.prog (.store t2 x y) ty us h K:=
 w.bn (k:=(3,1)) (n:=5) (i:=4) t.box (by decide) hsz hx hy hv.cells.2 fun h' w' _=>hK h' ⟨W,_,ps,vp,vi,va,v,kd,im,lp,li,la,l,⟨t.le,(Own.ab (by simp)).trans t.res,(Own.ab (by simp)).trans t.fn,(Own.ab (by simp)).trans t.blk,Own.ag,(Own.ab (by simp)).trans t.ins,(Own.ab (by simp)).trans t.phis,(Own.ab (by simp)).trans t.free,fun k hk=>(Own.ab (by rintro rfl;simp at hk)).trans (t.fr k hk),t.ra,hv,t.ips,t.ikd,t.iim,⟨t.tb.phis,t.tb.ins,t.tb.args,hl,t.tb.pin,t.tb.iar⟩⟩,w'⟩
theorem Tu.ze {β:Type} [Rep β] {off:Nat} {g:InsD→β} {s:InsD→β→InsD} (p:Part InsD β off g s) (t:Tu R F X i10 c W0 vbk bl W o ps vp vi va vt kd im lp li la lt) (w:Owns W h o) {j:Nat} {v:Value} {d:β} (hj:j<li.length) (hr:Rd W v d) (hs:(s li[j] d).args.length≤c∧(s li[j] d).dst≤4000∧(s li[j] d).two≤4000) (hsz:bX Try.prog t2=some (Rep.n β)) (hx:asg us x = .pointer (some (((slA vi).add (j*5)).add off))) (hy:asg us y=v) (hK : ∀ h',TuE R F X i10 c W0 vbk bl h'→K undef h'):@Lft.step po Try.prog (.store t2 x y) ty us h K:=
 w.iX (k:=(3,2)) (α:=InsD) p (v:=vi) (l:=li) (i:=j) t.ins hsz hx hy hj hr fun h' w' _=>hK h' ⟨W,_,ps,vp,vi,va,vt,kd,im,lp,li.set j (s li[j] d),la,lt,⟨t.le,(Own.ab (by simp)).trans t.res,(Own.ab (by simp)).trans t.fn,(Own.ab (by simp)).trans t.blk,(Own.ab (by simp)).trans t.box,Own.ag,(Own.ab (by simp)).trans t.phis,(Own.ab (by simp)).trans t.free,fun k hk=>(Own.ab (by rintro rfl;simp at hk)).trans (t.fr k hk),t.ra,t.rt,t.ips,t.ikd,t.iim,⟨t.tb.phis,by rw [List.length_set];exact t.tb.ins,t.tb.args,t.tb.to,t.tb.pin,fun i hi=>by
   rcases List.mem_or_eq_of_mem_set hi with q | q
   ·exact t.tb.iar i q
   ·rw [q];exact hs⟩⟩,w'⟩
theorem Tu.Cp (t:Tu R F X i10 c W0 vbk bl W o ps vp vi va vt kd im lp li la lt) (w:Owns W h o) {j:Nat} {v:Value} {d:List InD} (hj:j<lp.length) (hr:SlRd W v d) (hs:d.length≤c) (hsz:bX Try.prog t2=some 1) (hx:asg us x = .pointer (some (((slA vp).add (j*2)).add 1))) (hy:asg us y=v) (hK : ∀ h',TuE R F X i10 c W0 vbk bl h'→K undef h'):@Lft.step po Try.prog (.store t2 x y) ty us h K:=
 w.iX (k:=(3,3)) (α:=PhiD) PhiD.j0 (v:=vp) (l:=lp) (i:=j) t.phis hsz hx hy hj (fB.2 hr) fun h' w' _=>hK h' ⟨W,_,ps,vp,vi,va,vt,kd,im,lp.set j { lp[j] with ins:=d },li,la,lt,⟨t.le,(Own.ab (by simp)).trans t.res,(Own.ab (by simp)).trans t.fn,(Own.ab (by simp)).trans t.blk,(Own.ab (by simp)).trans t.box,(Own.ab (by simp)).trans t.ins,Own.ag,(Own.ab (by simp)).trans t.free,fun k hk=>(Own.ab (by rintro rfl;simp at hk)).trans (t.fr k hk),t.ra,t.rt,t.ips,t.ikd,t.iim,⟨by rw [List.length_set];exact t.tb.phis,t.tb.ins,t.tb.args,t.tb.to,fun i hi=>by
   rcases List.mem_or_eq_of_mem_set hi with q | q
   ·exact t.tb.pin i q
   ·rw [q];exact ⟨hs,(t.tb.pin _ (List.getElem_mem hj)).2⟩,t.tb.iar⟩⟩,w'⟩
theorem Tu.DT (t:Tu R F X i10 c W0 vbk bl W o ps vp vi va vt kd im lp li la lt) {v:Value} {l:List InsD} (w:Owns W h (o.upd (3,2) (it T.aX v l))) (hl:l.length≤c) (ha : ∀ i∈l,i.args.length≤c∧i.dst≤4000∧i.two≤4000) (hsz:bX Try.prog t2=some 1) (hx:asg us x = .pointer (some ⟨X,1,none⟩)) (hy:asg us y=v) (hK : ∀ h',TuE R F X i10 c W0 vbk bl h'→K undef h'):@Lft.step po Try.prog (.store t2 x y) ty us h K:=
 w.bn (k:=(3,1)) (n:=5) (i:=1) ((Own.ab (by simp)).trans t.box) (by decide) hsz hx hy (w.cells (k:=(3,2)) Own.ag).2 fun h' w' _=>hK h' ⟨W,_,ps,vp,v,va,vt,kd,im,lp,l,la,lt,⟨t.le,(Own.ab (by simp)).trans ((Own.ab (by simp)).trans t.res),(Own.ab (by simp)).trans ((Own.ab (by simp)).trans t.fn),(Own.ab (by simp)).trans ((Own.ab (by simp)).trans t.blk),Own.ag,(Own.ab (by simp)).trans Own.ag,(Own.ab (by simp)).trans ((Own.ab (by simp)).trans t.phis),(Own.ab (by simp)).trans ((Own.ab (by simp)).trans t.free),fun k hk=>(Own.ab (by rintro rfl;simp at hk)).trans ((Own.ab (by rintro rfl;simp at hk)).trans (t.fr k hk)),t.ra,t.rt,t.ips,t.ikd,t.iim,⟨t.tb.phis,hl,t.tb.args,t.tb.to,t.tb.pin,ha⟩⟩,w'⟩
theorem Tu.Er (t:Tu R F X i10 c W0 vbk bl W o ps vp vi va vt kd im lp li la lt) {v:Value} {l:List PhiD} (w:Owns W h (o.upd (3,3) (it T.cm v l))) (hl:l.length≤c) (ha : ∀ i∈l,i.ins.length≤c∧i.dst≤4000) (hsz:bX Try.prog t2=some 1) (hx:asg us x = .pointer (some ⟨X,0,none⟩)) (hy:asg us y=v) (hK : ∀ h',TuE R F X i10 c W0 vbk bl h'→K undef h'):@Lft.step po Try.prog (.store t2 x y) ty us h K:=
 w.bn (k:=(3,1)) (n:=5) (i:=0) ((Own.ab (by simp)).trans t.box) (by decide) hsz hx hy (w.cells (k:=(3,3)) Own.ag).2 fun h' w' _=>hK h' ⟨W,_,ps,v,vi,va,vt,kd,im,l,li,la,lt,⟨t.le,(Own.ab (by simp)).trans ((Own.ab (by simp)).trans t.res),(Own.ab (by simp)).trans ((Own.ab (by simp)).trans t.fn),(Own.ab (by simp)).trans ((Own.ab (by simp)).trans t.blk),Own.ag,(Own.ab (by simp)).trans ((Own.ab (by simp)).trans t.ins),(Own.ab (by simp)).trans Own.ag,(Own.ab (by simp)).trans ((Own.ab (by simp)).trans t.free),fun k hk=>(Own.ab (by rintro rfl;simp at hk)).trans ((Own.ab (by rintro rfl;simp at hk)).trans (t.fr k hk)),t.ra,t.rt,t.ips,t.ikd,t.iim,⟨hl,t.tb.ins,t.tb.args,t.tb.to,ha,t.tb.iar⟩⟩,w'⟩
end
theorem Dp {H:View} {u:Value} {d:BlkD} (h:Rd H u d) : ∃ vp vi va vt,u = .agg #[vp,vi,.int .i64 d.term.kind,va,vt,.int .i32 d.term.imm.v]∧SlRd H vp d.phis∧SlRd H vi d.ins∧SlRd H va d.term.args∧SlRd H vt d.term.to∧I64 d.term.kind∧-2147483648≤d.term.imm.v∧d.term.imm.v≤2147483647:=by
 obtain ⟨cs,rfl,c1,r1,e1,⟨vp,rfl,h1⟩,c2,r2,e2,⟨vi,rfl,h2⟩,c3,r3,e3,⟨rfl,h3⟩,c4,r4,e4,⟨va,rfl,h4⟩,c5,r5,e5,⟨vt,rfl,h5⟩,h6,h7⟩:=h
 subst e5 e4 e3 e2
 have he:cs.toList=[vp,vi,.int .i64 d.term.kind,va,vt,.int .i32 d.term.imm.v]:=by rw [e1,h6];rfl
 refine ⟨vp,vi,va,vt,?_,h1,h2,h4,h5,h3,h7⟩
 rw [←Array.toList_inj.1 (he.trans rfl:cs.toList = #[vp,vi,Value.int .i64 d.term.kind,va,vt,.int .i32 d.term.imm.v].toList)]
theorem Owns.elW {W:View} {h:Heap} {o:Own} {k:Key} {α:Type} [r:Rep α] {e:TypeId} {v:Value} {l:List α} (w:Owns W h o) (hk:o k=it e v l) {i:Nat} (hi:i<l.length) : ∃ cs,eJ (vw h) ((slA v).add (i*Rep.n α)) cs∧cs.length=Rep.n α∧Rep.rd W cs l[i]:=by
 obtain ⟨hb,xs,⟨hl,hown⟩,hel⟩:=w.get hk
 have h0:=hel i hi
 have hle:i*Rep.n α+Rep.n α≤l.length*Rep.n α:=by rw [←Nat.succ_mul];exact Nat.mul_le_mul_right _ hi
 have hcl:((xs.drop (i*Rep.n α)).take (Rep.n α)).length=Rep.n α:=by simp;omega
 rcases hown with ⟨rfl,hn⟩ | ⟨g,cap,cur,rfl,h2,h3,h4,h5,h6⟩
 ·omega
 ·have hadd:(slA (.slice (some ⟨g,0,none⟩) l.length cap)).add (i*Rep.n α)=⟨g,i*Rep.n α,none⟩:=by
   show (⟨g,0,none⟩:Addr).add _=_
   simp [Addr.z]
  rw [hadd]
  refine ⟨_,⟨cur,e,(0,0),rfl,h2,?_⟩,hcl,h0⟩
  rw [hcl,←h6,List.drop_take,List.take_take,Nat.min_eq_left (by omega)]
theorem Owns.ldW {W:View} {h:Heap} {o:Own} {k:Key} {α:Type} [r:Rep α] {e:TypeId} {v:Value} {l:List α} (w:Owns W h o) (hk:o k=it e v l) (ha:Rep.agg α=true) {N:Nat} (hn:Rep.n α=N) {i:Nat} (hi:i<l.length) : ∃ u,Un.ev (vw h) (.an N) (.pointer (some ((slA v).add (i*N))))=some u∧Rd W u l[i]:=by
 subst hn
 obtain ⟨cs,h1,h2,h3⟩:=Owns.elW w hk hi
 have:=fC h1 cs.length 0 #[] (by omega)
 refine ⟨.agg cs.toArray,?_,?_⟩
 ·simp only [Un.ev,vP,Option.bind_some]
  rw [h2] at this
  rw [this]
  simp
 ·unfold Rd
  rw [if_pos ha]
  exact ⟨_,rfl,by simpa using h3⟩
theorem Owns.insW {W:View} {h:Heap} {o:Own} {k:Key} {e:TypeId} {v:Value} {l:List InsD} (w:Owns W h o) (hk:o k=it e v l) {i:Nat} (hi:i<l.length) : ∃ va,ao (vw h) (((slA v).add (i*5)).add 3)=some va∧SlRd W va l[i].args:=by
 obtain ⟨cs,h1,h2,h3⟩:=Owns.elW w hk hi
 have hn:Rep.n InsD=5:=rfl
 rw [hn] at h1
 obtain ⟨c1,r1,e1,⟨rfl,q1⟩,c2,r2,e2,⟨rfl,q2⟩,c3,r3,e3,⟨rfl,q3⟩,c4,r4,e4,⟨va,rfl,q4⟩,q5,q6⟩:=h3
 subst e4 e3 e2 e1
 exact ⟨va,hE h1 (by rfl),q4⟩
theorem Owns.phiW {W:View} {h:Heap} {o:Own} {k:Key} {e:TypeId} {v:Value} {l:List PhiD} (w:Owns W h o) (hk:o k=it e v l) {i:Nat} (hi:i<l.length) : ∃ va,ao (vw h) (((slA v).add (i*2)).add 1)=some va∧SlRd W va l[i].ins:=by
 obtain ⟨cs,h1,h2,h3⟩:=Owns.elW w hk hi
 have hn:Rep.n PhiD=2:=rfl
 rw [hn] at h1
 obtain ⟨c1,r1,e1,⟨rfl,q1⟩,va,rfl,q4⟩:=h3
 subst e1
 exact ⟨va,hE h1 (by rfl),q4⟩
theorem kA {po:OP} {a b:Int} (ha:I64 a) (hb:I64 b) {ty:TypeId} {us:List (Nat × Value)} {h:Heap} {x:Operand} {K:Value→Heap→Prop} (hx:asg us x = .agg #[.int .i64 a,.int .i64 b])
  (hk : ∀ h',(vw h).le (vw h')→(∀ Y:View,Y h.size=h'[h.size]?→SlRd Y (.slice (some ⟨h.size,0,none⟩) 1 1) [InD.mk a b])→K (.slice (some ⟨h.size,0,none⟩) 1 1) h'):@Lft.step po Try.prog (.buildSlice T.cw 1 #[(0,x)]) ty us h K:=by
 refine kZ (n:=1) (size:=2) (vs:=[(0,.agg #[.int .i64 a,.int .i64 b])]) (cs:=#[.int .i64 a,.int .i64 b]) El.cw (by decide) (by simp [hx]) (by kernel_rfl) (hk _ (bJ _ _) fun Y hY=>?_)
 have hb2:Y h.size=some (.cells #[.int .i64 a,.int .i64 b] T.dW (0,0)):=by rw [hY];simp
 refine ⟨some ⟨h.size,0,none⟩,1,rfl,Nat.le_refl _,by simp,.inr ⟨⟨h.size,0,none⟩,rfl,rfl,fun i hi=>?_⟩⟩
 have:i=0:=by simpa using hi
 subst this
 have e:(⟨h.size,0,none⟩:Addr).add (0*Rep.n InD)=⟨h.size,0,none⟩:=by rw [Nat.zero_mul];rfl
 rw [e]
 exact mL (d:=InD.mk a b) (v:=.agg #[.int .i64 a,.int .i64 b]) (fz:=(0,0)) hb2 (BD ha hb)
theorem Owns.cut {W:View} {h:Heap} {o:Own} {k:Key} {α:Type} [r:Rep α] {e:TypeId} {v:Value} {l:List α} (w:Owns W h o) (hk:o k=it e v l) {N:Nat} (hN:Rep.n α=N) {j:Nat} (hj:j<l.length) : ∃ v1 v2,Bn.ev .hi v (.int .i64 j)=some v1∧Bn.ev (.lo N) v (.int .i64 ((j:Int)+1))=some v2∧Owns W h (o.upd k (it e v1 (l.take j)))∧SrcT (vw h) W v2 (l.drop (j+1)):=by
 subst hN
 obtain ⟨hb,xs,⟨hl,hown⟩,hel⟩:=w.get hk
 rcases hown with ⟨rfl,hn⟩ | ⟨g,cap,cur,rfl,h2,h3,h4,h5,h6⟩
 ·omega
 ·have hjn:j*Rep.n α+Rep.n α≤l.length*Rep.n α:=by rw [←Nat.succ_mul];exact Nat.mul_le_mul_right _ hj
  have hcn:l.length*Rep.n α≤cap*Rep.n α:=Nat.mul_le_mul_right _ h3
  refine ⟨.slice (some ⟨g,0,none⟩) j cap,.slice (if cap=j+1 then some ⟨g,0,none⟩ else (some ⟨g,0,none⟩:Option Addr).map (·.add ((j+1)*Rep.n α))) (l.length-(j+1)) (cap-(j+1)),?_,?_,?_,?_⟩
  ·simp only [Bn.ev,vL,vI,Option.bind_some]
   rw [if_pos ⟨by omega,by omega⟩]
   simp
  ·simp only [Bn.ev,vL,vI,Option.bind_some]
   rw [if_pos ⟨by omega,by omega⟩]
   have:((j:Int)+1).toNat=j+1:=by omega
   simp only [this]
  ·refine w.kI hk (h':=h) (v':=.slice (some ⟨g,0,none⟩) j cap) (l':=l.take j) ⟨by simp;omega,xs.take (j*Rep.n α),⟨?_,.inr ⟨g,cap,cur,?_,h2,?_,h4,h5,?_⟩⟩,fun i hi=>?_⟩ ⟨⟨Nat.le_refl _,fun _ _ _=>rfl⟩,.inl rfl⟩
   ·simp only [List.length_take];rw [hl];rw [Nat.min_eq_left (by omega),Nat.min_eq_left (by omega)]
   ·rw [List.length_take,Nat.min_eq_left (by omega)]
   ·simp;omega
   ·rw [List.length_take,Nat.min_eq_left (by omega),←h6,List.take_take,Nat.min_eq_left (by omega)]
   ·have him:i<min j l.length:=by simpa using hi
    have hi:i<j∧i<l.length:=⟨by omega,by omega⟩
    have:=hel i hi.2
    rw [List.getElem_take]
    have e2:((xs.take (j*Rep.n α)).drop (i*Rep.n α)).take (Rep.n α)=(xs.drop (i*Rep.n α)).take (Rep.n α):=by
     have h7:i*Rep.n α+Rep.n α≤j*Rep.n α:=by rw [←Nat.succ_mul];exact Nat.mul_le_mul_right _ hi.1
     rw [List.drop_take,List.take_take,Nat.min_eq_left (by omega)]
    rw [e2];exact this
  ·have hld:(l.drop (j+1)).length=l.length-(j+1):=by simp
   refine ⟨_,_,by rw [hld],?_,xs.drop ((j+1)*Rep.n α),?_,?_,fun i hi=>?_⟩
   ·intro hn
    split at hn
    ·cases hn
    ·cases hn
   ·rw [List.length_drop,hl,hld,Nat.sub_mul]
   ·intro ad had i x hx
    split at had
    ·rename_i hc
     have:l.length=j+1:=by omega
     rw [List.drop_eq_nil_of_le (by rw [hl,this];exact Nat.le_refl _)] at hx
     simp at hx
    ·simp only [Option.map_some,Option.some.injEq] at had
     subst had
     have e3:(((⟨g,0,none⟩:Addr).add ((j+1)*Rep.n α)).add i)=⟨g,(j+1)*Rep.n α+i,none⟩:=by simp [Addr.z]
     rw [e3]
     have hx2:xs[(j+1)*Rep.n α+i]? = some x:=by rw [List.getElem?_drop] at hx;exact hx
     have hlt:(j+1)*Rep.n α+i<xs.length:=by
      rcases Nat.lt_or_ge ((j+1)*Rep.n α+i) xs.length with q | q
      ·exact q
      ·rw [List.getElem?_eq_none q] at hx2;cases hx2
     have h2v:vw h g=some (.cells cur e (0,0)):=h2
     simp only [ao,h2v]
     rw [←h6,List.getElem?_take_of_lt (by omega)] at hx2
     simpa using hx2
   ·have hi:j+1+i<l.length:=by rw [hld] at hi;omega
    have:=hel (j+1+i) hi
    rw [List.getElem_drop]
    rw [List.drop_drop,show (j+1)*Rep.n α+i*Rep.n α=(j+1+i)*Rep.n α by rw [←Nat.add_mul]]
    exact this
end Go.Proofs.Ytfelpjfopgiabaa
namespace Go.Proofs.Ytfelpjfopgiabaa
open Go Go.Lft
def pr:Nat→Nat→Nat
 | 0,i=>2*i+1
 | b+1,i=>2*pr b i
theorem wG : ∀ {b c i j:Nat},pr b i=pr c j→b=c∧i=j
 | 0,0,i,j,h=>⟨rfl,by unfold pr at h;omega⟩
 | 0,c+1,i,j,h=>by unfold pr at h;omega
 | b+1,0,i,j,h=>by unfold pr at h;omega
 | b+1,c+1,i,j,h=>by
  have h:2*pr b i=2*pr c j:=h
  have:=wG (show pr b i=pr c j by omega)
  exact ⟨by omega,this.2⟩
theorem ye {b c i j:Nat}:pr b i=pr c j↔b=c∧i=j:=⟨wG,fun h=>by rw [h.1,h.2]⟩
structure PhO where
 dst:Int
 ins:Raw
instance:Rep PhO:=Rep.via fun d=>Cat.mk d.dst d.ins
instance:Inhabited PhO:=⟨⟨0,default⟩⟩
theorem PhO.jh:Part PhO Int 0 PhO.dst (fun d x=>{ d with dst:=x }):=(Part.fst Part.all).via (fun _=>rfl) fun _ _=>rfl
theorem PhO.j0:Part PhO Raw 1 PhO.ins (fun d x=>{ d with ins:=x }):=(Part.snd Part.all).via (fun _=>rfl) fun _ _=>rfl
structure InO where
 op:Int
 dst:Int
 two:Int
 args:Raw
 imm:I32
instance:Rep InO:=Rep.via fun d=>Cat.mk d.op (Cat.mk d.dst (Cat.mk d.two (Cat.mk d.args d.imm)))
instance:Inhabited InO:=⟨⟨0,0,0,default,default⟩⟩
theorem InO.jh:Part InO Int 1 InO.dst (fun d x=>{ d with dst:=x }):=(Part.snd (Part.fst Part.all)).via (fun _=>rfl) fun _ _=>rfl
theorem InO.uC:Part InO Int 2 InO.two (fun d x=>{ d with two:=x }):=(Part.snd (Part.snd (Part.fst Part.all))).via (fun _=>rfl) fun _ _=>rfl
theorem InO.mC:Part InO Raw 3 InO.args (fun d x=>{ d with args:=x }):=(Part.snd (Part.snd (Part.snd (Part.fst Part.all)))).via (fun _=>rfl) fun _ _=>rfl
structure TmO where
 kind:Int
 args:Raw
 to:Raw
 imm:I32
instance:Rep TmO:=Rep.via fun d=>Cat.mk d.kind (Cat.mk d.args (Cat.mk d.to d.imm))
instance:Inhabited TmO:=⟨⟨0,default,default,default⟩⟩
theorem TmO.mC:Part TmO Raw 1 TmO.args (fun d x=>{ d with args:=x }):=(Part.snd (Part.fst Part.all)).via (fun _=>rfl) fun _ _=>rfl
structure BkO where
 phis:Raw
 ins:Raw
 term:TmO
instance:Rep BkO:=Rep.via fun d=>Cat.mk d.phis (Cat.mk d.ins d.term)
instance:Inhabited BkO:=⟨⟨default,default,default⟩⟩
section
variable {H:View} {cs:List Value}
theorem DB {d:PhO} {l:List InD} (h:Rep.rd H cs d) (hl:SlRd H d.ins.v l):Rep.rd H cs (PhiD.mk d.dst l):=by
 obtain ⟨c1,r1,e1,h1,h2,_⟩:=h
 have h2:r1=[d.ins.v]:=h2
 exact ⟨c1,r1,e1,h1,d.ins.v,h2,hl⟩
theorem Dj {d:InO} {l:List Int} (h:Rep.rd H cs d) (hl:SlRd H d.args.v l):Rep.rd H cs (InsD.mk d.op d.dst d.two l d.imm):=by
 obtain ⟨c1,r1,e1,h1,c2,r2,e2,h2,c3,r3,e3,h3,c4,r4,e4,⟨h4,_⟩,h5⟩:=h
 have h4:c4=[d.args.v]:=h4
 exact ⟨c1,r1,e1,h1,c2,r2,e2,h2,c3,r3,e3,h3,c4,r4,e4,⟨d.args.v,h4,hl⟩,h5⟩
theorem DJ {d:BkO} {p:List PhiD} {i:List InsD} {a t:List Int} (h:Rep.rd H cs d) (hp:SlRd H d.phis.v p) (hi:SlRd H d.ins.v i) (ha:SlRd H d.term.args.v a) (ht:SlRd H d.term.to.v t):Rep.rd H cs (BlkD.mk p i ⟨d.term.kind,a,t,d.term.imm⟩):=by
 obtain ⟨c1,r1,e1,⟨h1,_⟩,c2,r2,e2,⟨h2,_⟩,c3,r3,e3,h3,c4,r4,e4,⟨h4,_⟩,c5,r5,e5,⟨h5,_⟩,h6⟩:=h
 have h1:c1=[d.phis.v]:=h1
 have h2:c2=[d.ins.v]:=h2
 have h4:c4=[d.term.args.v]:=h4
 have h5:c5=[d.term.to.v]:=h5
 exact ⟨c1,r1,e1,⟨d.phis.v,h1,hp⟩,c2,r2,e2,⟨d.ins.v,h2,hi⟩,c3,r3,e3,h3,c4,r4,e4,⟨d.term.args.v,h4,ha⟩,c5,r5,e5,⟨d.term.to.v,h5,ht⟩,h6⟩
end
structure Bv where
 p:Value
 i:Value
 a:Value
 t:Value
 pin:Nat→Value
 iar:Nat→Value
def phO (V:Bv) (d:BlkD) (i:Nat):PhO:=⟨(nth d.phis i).dst,⟨V.pin i⟩⟩
def inO (V:Bv) (d:BlkD) (i:Nat):InO:=⟨(nth d.ins i).op,(nth d.ins i).dst,(nth d.ins i).two,⟨V.iar i⟩,(nth d.ins i).imm⟩
def tmO (V:Bv) (d:BlkD):TmO:=⟨d.term.kind,⟨V.a⟩,⟨V.t⟩,d.term.imm⟩
def bkO (V:Bv) (d:BlkD):BkO:=⟨⟨V.p⟩,⟨V.i⟩,tmO V d⟩
structure BO (K:Nat) (o:Own) (b:Nat) (V:Bv) (d:BlkD):Prop where
 phis:o (K+1,b)=it T.cm V.p (rows (phO V d) d.phis.length)
 ins:o (K+2,b)=it T.aX V.i (rows (inO V d) d.ins.length)
 args:o (K+3,b)=it T.int V.a d.term.args
 to:o (K+4,b)=it T.int V.t d.term.to
 pin : ∀ i,i<d.phis.length→o (K+5,pr b i)=it T.dW (V.pin i) (nth d.phis i).ins
 iar : ∀ i,i<d.ins.length→o (K+6,pr b i)=it T.int (V.iar i) (nth d.ins i).args
structure FnO (K:Nat) (o:Own) (vb:Value) (V:Nat→Bv) (f:ak):Prop where
 blk:o (K,0)=it T.al vb (rows (fun b=>bkO (V b) (nth f.blocks b)) f.blocks.length)
 bo : ∀ b,b<f.blocks.length→BO K o b (V b) (nth f.blocks b)
def OfB (K b:Nat) (k:Key):Prop:=(k.2=b∧K+1≤k.1∧k.1≤K+4)∨∃ i,k.2=pr b i∧(k.1=K+5∨k.1=K+6)
section
variable {K:Nat} {o o':Own} {b c:Nat} {V:Bv} {d:BlkD}
theorem BO.congr (w:BO K o b V d) (h : ∀ k,OfB K b k→o' k=o k):BO K o' b V d:=
 ⟨(h _ (.inl ⟨rfl,by simp,by simp⟩)).trans w.phis,(h _ (.inl ⟨rfl,by simp,by simp⟩)).trans w.ins,(h _ (.inl ⟨rfl,by simp,by simp⟩)).trans w.args,(h _ (.inl ⟨rfl,by simp,by simp⟩)).trans w.to,
  fun i hi=>(h _ (.inr ⟨i,rfl,.inl rfl⟩)).trans (w.pin i hi),fun i hi=>(h _ (.inr ⟨i,rfl,.inr rfl⟩)).trans (w.iar i hi)⟩
theorem zg (hbc:b≠c) {k:Key} (h:OfB K b k):¬OfB K c k:=by
 intro g
 rcases h with ⟨h1,h2,h3⟩ | ⟨i,h1,h2⟩<;>rcases g with ⟨g1,g2,g3⟩ | ⟨j,g1,g2⟩
 ·omega
 ·omega
 ·omega
 ·exact hbc (wG (h1.symm.trans g1)).1
theorem gz {k:Key} (h:OfB K b k):K+1≤k.1∧k.1≤K+6:=by
 rcases h with ⟨h1,h2,h3⟩ | ⟨i,h1,h2⟩<;>omega
end
section
variable {H:View} {vb:Value} {V:Nat→Bv} {f:ak}
theorem DV {V:Bv} {d:BlkD} (h0:SlRd H V.p (rows (phO V d) d.phis.length)) (h1 : ∀ i,i<d.phis.length→SlRd H (V.pin i) (nth d.phis i).ins):SlRd H V.p d.phis:=by
 refine mW h0 rfl (by simp) fun i g1 g2 cs hr=>?_
 have e:(rows (phO V d) d.phis.length)[i]=phO V d i:=by simp [rows]
 rw [e] at hr
 have:=DB hr (h1 i g2)
 rw [←aq g2]
 exact this
theorem FB {V:Bv} {d:BlkD} (h0:SlRd H V.i (rows (inO V d) d.ins.length)) (h1 : ∀ i,i<d.ins.length→SlRd H (V.iar i) (nth d.ins i).args):SlRd H V.i d.ins:=by
 refine mW h0 rfl (by simp) fun i g1 g2 cs hr=>?_
 have e:(rows (inO V d) d.ins.length)[i]=inO V d i:=by simp [rows]
 rw [e] at hr
 have:=Dj hr (h1 i g2)
 rw [←aq g2]
 exact this
theorem Dy (h0:SlRd H vb (rows (fun b=>bkO (V b) (nth f.blocks b)) f.blocks.length)) (hp : ∀ b,b<f.blocks.length→SlRd H (V b).p (nth f.blocks b).phis) (hi : ∀ b,b<f.blocks.length→SlRd H (V b).i (nth f.blocks b).ins)
  (ha : ∀ b,b<f.blocks.length→SlRd H (V b).a (nth f.blocks b).term.args) (ht : ∀ b,b<f.blocks.length→SlRd H (V b).t (nth f.blocks b).term.to):SlRd H vb f.blocks:=by
 refine mW h0 rfl (by simp) fun b g1 g2 cs hr=>?_
 have e:(rows (fun b=>bkO (V b) (nth f.blocks b)) f.blocks.length)[b]=bkO (V b) (nth f.blocks b):=by simp [rows]
 rw [e] at hr
 have:=DJ hr (hp b g2) (hi b g2) (ha b g2) (ht b g2)
 rw [←aq g2]
 exact this
end
section
variable {W:View} {h:Heap} {K:Nat} {o o':Own} {vb:Value} {V:Nat→Bv} {f:ak} {b:Nat}
theorem FnO.rd (w:Owns W h o) (g:FnO K o vb V f):SlRd (vw h) vb f.blocks:=
 Dy (w.now g.blk) (fun b hb=>DV (w.now (g.bo b hb).phis) fun i hi=>w.now ((g.bo b hb).pin i hi)) (fun b hb=>FB (w.now (g.bo b hb).ins) fun i hi=>w.now ((g.bo b hb).iar i hi)) (fun b hb=>w.now (g.bo b hb).args) fun b hb=>w.now (g.bo b hb).to
theorem FnO.rdF (w:Owns W h o) (g:FnO K o vb V f) (hp:I64 f.params):Rd (vw h) (.agg #[.int .i64 f.params,vb]) f:=
 ⟨_,rfl,[.int .i64 f.params],[vb],rfl,⟨rfl,hp⟩,vb,rfl,g.rd w⟩
theorem FnO.congr (g:FnO K o vb V f) (h : ∀ k:Key,K≤k.1→k.1≤K+6→o' k=o k):FnO K o' vb V f:=
 ⟨(h _ (Nat.le_refl _) (by simp)).trans g.blk,fun b hb=>(g.bo b hb).congr fun k hk=>by have:=gz hk;exact h k (by omega) (by omega)⟩
theorem FnO.upd (g:FnO K o vb V f) {k:Key} {x:Option Lft.Item} (h:k.1<K∨K+6<k.1):FnO K (o.upd k x) vb V f:=
 g.congr fun q h1 h2=>Own.ab (by rintro rfl;omega)
def a7 (f:ak) (b:Nat) (d:BlkD):ak:=⟨f.params,f.blocks.set b d⟩
theorem jS {d:BlkD}:(a7 f b d).blocks.length=f.blocks.length:=List.length_set
theorem lI {d:BlkD} (hb:b<f.blocks.length) (c:Nat):nth (a7 f b d).blocks c=if b=c then d else nth f.blocks c:=by
 unfold a7
 dsimp only
 rcases Nat.lt_or_ge c f.blocks.length with h | h
 ·exact aK h
 ·rw [aV (by rw [List.length_set];exact h),aV h,if_neg (by omega)]
theorem xS (hb:b<f.blocks.length):a7 f b (nth f.blocks b)=f:=by
 unfold a7
 rw [aq hb,List.set_getElem_self hb]
theorem vN {d e:BlkD}:a7 (a7 f b d) b e=a7 f b e:=by
 unfold a7;rw [List.set_set]
theorem FnO.setB (g:FnO K o vb V f) (hb:b<f.blocks.length) {d:BlkD} (h0:o' (K,0)=o (K,0)) (ho : ∀ k,K+1≤k.1→k.1≤K+6→¬OfB K b k→o' k=o k) (hk:tmO (V b) d=tmO (V b) (nth f.blocks b)) (hd:BO K o' b (V b) d):FnO K o' vb V (a7 f b d):=by
 have hn:=fun c=>lI (d:=d) hb c
 refine ⟨?_,fun c hc=>?_⟩
 ·rw [h0,g.blk,jS]
  congr 1
  refine List.map_congr_left fun c _=>?_
  rw [hn]
  split
  ·rename_i e;subst e;unfold bkO;rw [hk]
  ·rfl
 ·rw [jS] at hc
  rw [hn]
  split
  ·rename_i e;subst e;exact hd
  ·rename_i e
   exact (g.bo c hc).congr fun k hk=>by have:=gz hk;exact ho k (by omega) (by omega) (zg (fun q=>e q.symm) hk)
end
theorem gJ {β:Type} {x:Nat→β} {n i:Nat} (h:i<(rows x n).length):(rows x n)[i]=x i:=by simp [rows]
theorem mh {β:Type} {x y:Nat→β} {n i:Nat} {z:β} (hi:i<n) (hz:z=y i) (h : ∀ j,j<n→j≠i→x j=y j):(rows x n).set i z=rows y n:=by
 refine List.ext_getElem (by simp) fun j g1 g2=>?_
 have hj:j<n:=by simpa using g2
 rw [List.getElem_set,gJ,gJ]
 split
 ·rename_i e;subst e;exact hz
 ·rename_i e;exact h j hj fun q=>e q.symm
def cW (d:BlkD) (i:Nat) (p:PhiD):BlkD:={ d with phis:=d.phis.set i p }
def ee (d:BlkD) (l:List Int):BlkD:={ d with term:={ d.term with to:=l } }
section
variable {K:Nat} {o o':Own} {b i:Nat} {V:Bv} {d:BlkD}
theorem BO.EP (w:BO K o b V d) (hi:i<d.phis.length) {l:List InD} (ho : ∀ k,o' k=o.upd (K+5,pr b i) (it T.dW (V.pin i) l) k):BO K o' b V (cW d i ⟨(nth d.phis i).dst,l⟩):=by
 have hl:(cW d i ⟨(nth d.phis i).dst,l⟩).phis.length=d.phis.length:=List.length_set
 have hn:=fun j (hj:j<d.phis.length)=>aK (l:=d.phis) (i:=i) (j:=j) (x:=⟨(nth d.phis i).dst,l⟩) hj
 refine ⟨?_,?_,?_,?_,fun j hj=>?_,fun j hj=>?_⟩
 ·rw [ho,Own.ab (by simp),w.phis,hl]
  congr 1
  refine List.map_congr_left fun j hj=>?_
  unfold phO cW;dsimp only;rw [hn j (List.mem_range.1 hj)]
  split
  ·rename_i e;subst e;rfl
  ·rfl
 ·rw [ho,Own.ab (by simp)];exact w.ins
 ·rw [ho,Own.ab (by simp)];exact w.args
 ·rw [ho,Own.ab (by simp)];exact w.to
 ·rw [hl] at hj
  rw [ho]
  unfold cW;dsimp only;rw [hn j hj]
  split
  ·rename_i e;subst e;rw [Own.ag]
  ·rename_i e
   rw [Own.ab (by simp [ye];exact fun q=>e q.symm),w.pin j hj]
 ·rw [ho,Own.ab (by simp)];exact w.iar j hj
theorem BO.GS (w:BO K o b V d) {l:List Int} (ho : ∀ k,o' k=o.upd (K+4,b) (it T.int V.t l) k):BO K o' b V (ee d l):=
 ⟨by rw [ho,Own.ab (by simp)];exact w.phis,by rw [ho,Own.ab (by simp)];exact w.ins,by rw [ho,Own.ab (by simp)];exact w.args,by rw [ho,Own.ag];rfl,fun j hj=>by rw [ho,Own.ab (by simp)];exact w.pin j hj,fun j hj=>by rw [ho,Own.ab (by simp)];exact w.iar j hj⟩
end
section
variable {K:Nat} {o o':Own} {vb:Value} {V:Nat→Bv} {f:ak} {b i:Nat}
theorem FnO.wr (g:FnO K o vb V f) (hb:b<f.blocks.length) {k:Key} {x:Option Lft.Item} (hk:OfB K b k) (ho : ∀ q,o' q=o.upd k x q) {d:BlkD} (ht:tmO (V b) d=tmO (V b) (nth f.blocks b)) (hd:BO K o' b (V b) d):FnO K o' vb V (a7 f b d):=
 g.setB hb (by rw [ho,Own.ab (by rintro rfl;have:=gz hk;simp at this;omega)]) (fun q _ _ h=>by rw [ho,Own.ab (by rintro rfl;exact h hk)]) ht hd
end
end Go.Proofs.Ytfelpjfopgiabaa
namespace Go.Lft
open Go
variable {po po2 po3:OP} {pp:PP}
section
variable {W:View} {h:Heap} {o:Own} {k:Key}
theorem Owns.zL {P:Program} {ty:TypeId} {us:List (Nat × Value)} {t ty2:TypeId} {α:Type} [Rep α] {n:Nat} {z u:Value} {d:α} {x y:Operand} {us2:Value→List (Nat × Value)} {K:Value→Heap→Prop} (w:Owns W h o) (hk:o k=none) (hr:Rd W u d) (hN:Rep.n α=n) (hz:(P.info? t).map (·.zero)=some (some z)) (hzc:z.cells.size=n) (hsz:bX P t=some n) (hn:n≤1000)
  (hx : ∀ p,asg (us2 p) x=p) (hy : ∀ p,asg (us2 p) y=u) (hK : ∀ h':Heap,(vw h).le (vw h')→Owns W h' (o.upd k (bx t h.size d))→K (.pointer (some ⟨h.size,0,none⟩)) h') :
  @step po P (.alloc t) ty us h fun p h2=>@step po2 P (.store t x y) ty2 (us2 p) h2 fun _ h3=>K p h3:=by
 subst hN
 obtain ⟨c1,c2,c3⟩:=fH hr
 exact gM (v:=u) hz hzc hsz (by simpa using c2) c3 hx hy fun h' hle hs hb=>hK h' hle (w.add hk (iq (d:=d) hb hr hn) hle fun b hb=>by simp only [Value.ownBlock,Option.some.injEq] at hb;omega)
end
end Go.Lft
namespace Go.Proofs.Ytfelpjfopgiabaa
open Go Go.Lft
def phR (pin:Nat→Value) (l:List PhiD) (i:Nat):PhO:=⟨(nth l i).dst,⟨pin i⟩⟩
def inR (iar:Nat→Value) (l:List InsD) (i:Nat):InO:=⟨(nth l i).op,(nth l i).dst,(nth l i).two,⟨iar i⟩,(nth l i).imm⟩
structure PhsO (K:Nat) (o:Own) (b:Nat) (v:Value) (pin:Nat→Value) (l:List PhiD):Prop where
 row:o (K+1,b)=it T.cm v (rows (phR pin l) l.length)
 pin : ∀ i,i<l.length→o (K+5,pr b i)=it T.dW (pin i) (nth l i).ins
structure InsO (K:Nat) (o:Own) (b:Nat) (v:Value) (iar:Nat→Value) (l:List InsD):Prop where
 row:o (K+2,b)=it T.aX v (rows (inR iar l) l.length)
 iar : ∀ i,i<l.length→o (K+6,pr b i)=it T.int (iar i) (nth l i).args
theorem zS {α:Type} [Inhabited α] {l:List α} {x:α} {i:Nat}:nth (l++[x]) i=if i<l.length then nth l i else if i=l.length then x else default:=by
 split
 ·rename_i h
  rw [aq (l:=l++[x]) (i:=i) (by simp;omega),aq h,List.getElem_append_left h]
 ·split
  ·rename_i h h2
   subst h2
   rw [aq (l:=l++[x]) (i:=l.length) (by simp),List.getElem_append_right (Nat.le_refl _)];simp
  ·exact aV (by simp;omega)
theorem mY {α:Type} [Inhabited α] {l:List α} {x:α}:nth (l++[x]) l.length=x:=by rw [zS,if_neg (Nat.lt_irrefl _),if_pos rfl]
theorem nj {α:Type} [Inhabited α] {l:List α} {x:α} {i:Nat} (h:i<l.length):nth (l++[x]) i=nth l i:=by rw [zS,if_pos h]
theorem nP {β:Type} {x y:Nat→β} {n:Nat} (h : ∀ i,i<n→x i=y i):rows x n=rows y n:=List.map_congr_left fun i hi=>h i (List.mem_range.1 hi)
section
variable {K b:Nat} {o o':Own} {v v':Value} {pin iar:Nat→Value}
theorem PhsO.push {l:List PhiD} {p:PhiD} {u:Value} (w:PhsO K o b v pin l) (h1:o' (K+1,b)=it T.cm v' (rows (phR pin l) l.length++[⟨p.dst,⟨u⟩⟩])) (h2:o' (K+5,pr b l.length)=it T.dW u p.ins) (h3 : ∀ i,i<l.length→o' (K+5,pr b i)=o (K+5,pr b i)):PhsO K o' b v' (fun i=>if i=l.length then u else pin i) (l++[p]):=by
 refine ⟨?_,fun i hi=>?_⟩
 ·rw [h1,List.length_append,List.length_singleton,dz]
  congr 1
  congr 1
  ·refine nP fun i hi=>?_
   unfold phR
   dsimp only
   rw [nj hi,if_neg (by omega)]
  ·unfold phR
   dsimp only
   rw [mY,if_pos rfl]
 ·rw [List.length_append,List.length_singleton] at hi
  rcases Nat.lt_or_ge i l.length with h | h
  ·rw [h3 i h,if_neg (by omega),nj h];exact w.pin i h
  ·have e:i=l.length:=by omega
   subst e
   rw [h2,if_pos rfl,mY]
theorem InsO.push {l:List InsD} {p:InsD} {u:Value} (w:InsO K o b v iar l) (h1:o' (K+2,b)=it T.aX v' (rows (inR iar l) l.length++[⟨p.op,p.dst,p.two,⟨u⟩,p.imm⟩])) (h2:o' (K+6,pr b l.length)=it T.int u p.args) (h3 : ∀ i,i<l.length→o' (K+6,pr b i)=o (K+6,pr b i)):InsO K o' b v' (fun i=>if i=l.length then u else iar i) (l++[p]):=by
 refine ⟨?_,fun i hi=>?_⟩
 ·rw [h1,List.length_append,List.length_singleton,dz]
  congr 1
  congr 1
  ·refine nP fun i hi=>?_
   unfold inR
   dsimp only
   rw [nj hi,if_neg (by omega)]
  ·unfold inR
   dsimp only
   rw [mY,if_pos rfl]
 ·rw [List.length_append,List.length_singleton] at hi
  rcases Nat.lt_or_ge i l.length with h | h
  ·rw [h3 i h,if_neg (by omega),nj h];exact w.iar i h
  ·have e:i=l.length:=by omega
   subst e
   rw [h2,if_pos rfl,mY]
theorem BO.of {p:List PhiD} {i:List InsD} {t:dk} {va vt vp vi:Value} (wp:PhsO K o b vp pin p) (wi:InsO K o b vi iar i) (ha:o (K+3,b)=it T.int va t.args) (ht:o (K+4,b)=it T.int vt t.to):BO K o b ⟨vp,vi,va,vt,pin,iar⟩ ⟨p,i,t⟩:=
 ⟨wp.row,wi.row,ha,ht,wp.pin,wi.iar⟩
end
theorem FnO.push {K:Nat} {o o':Own} {vb vb':Value} {V:Nat→Bv} {Vn:Bv} {ps:Int} {l:List BlkD} {d:BlkD} {x:BkO} (g:FnO K o vb V ⟨ps,l⟩) (hx:x=bkO Vn d) (h1:o' (K,0)=it T.al vb' (rows (fun b=>bkO (V b) (nth l b)) l.length++[x])) (h2 : ∀ b,b<l.length→∀ k,OfB K b k→o' k=o k) (h3:BO K o' l.length Vn d):FnO K o' vb' (fun b=>if b=l.length then Vn else V b) ⟨ps,l++[d]⟩:=by
 refine ⟨?_,fun b hb=>?_⟩
 ·dsimp only
  rw [h1,List.length_append,List.length_singleton,dz]
  congr 1
  congr 1
  ·refine nP fun i hi=>?_
   rw [nj hi,if_neg (by omega)]
  ·rw [mY,if_pos rfl,hx]
 ·have hb:b<(l++[d]).length:=hb
  rw [List.length_append,List.length_singleton] at hb
  dsimp only
  rcases Nat.lt_or_ge b l.length with h | h
  ·rw [if_neg (by omega),nj h]
   exact (g.bo b h).congr (h2 b h)
  ·have e:b=l.length:=by omega
   subst e
   rw [if_pos rfl,mY];exact h3
theorem Owns.qN {po:OP} {P:Program} {W:View} {h:Heap} {o:Own} {k:Key} {ty:TypeId} {us:List (Nat × Value)} {α:Type} [r:Rep α] {e:TypeId} {v:Value} {t:TypeId} {bytes:Nat} {z:Value} {x y:Operand} {u:Value} {l2:List α} {K:Value→Heap→Prop} (w:Owns W h o) (hk:o k=it e v ([]:List α)) (hT:ef P t e (Rep.n α) bytes z) (hx:asg us x=v) (hy:asg us y=u)
  (hs:SlRd W u l2) (hb:l2.length*bytes≤140737488355328)
  (hK : ∀ v' h',Owns W h' (o.upd k (it e v' l2))→v'.oneCell'=true→K v' h'):@Lft.step po P (.call ⟨.builtin .append,#[x,y],#[t,t]⟩) ty us h K:=
 w.bs (k:=k) (l:=([]:List α)) (l2:=l2) hk hT hx hy (hs.src w.wle) (by simpa using hb) (by have:=hs.bound;simpa using this) fun v' h' w' m=>by
  exact hK v' h' w' ((w'.cells (k:=k) Own.ag).2)
end Go.Proofs.Ytfelpjfopgiabaa
namespace Go.Proofs.Ytfelpjfopgiabaa
open Go Go.Lft
theorem ofB1 {K b:Nat}:OfB K b (K+1,b):=.inl ⟨rfl,by simp,by simp⟩
theorem ofB2 {K b:Nat}:OfB K b (K+2,b):=.inl ⟨rfl,by simp,by simp⟩
theorem ofB3 {K b:Nat}:OfB K b (K+3,b):=.inl ⟨rfl,by simp,by simp⟩
theorem ofB4 {K b:Nat}:OfB K b (K+4,b):=.inl ⟨rfl,by simp,by simp⟩
theorem ofB5 {K b i:Nat}:OfB K b (K+5,pr b i):=.inr ⟨i,rfl,.inl rfl⟩
theorem ofB6 {K b i:Nat}:OfB K b (K+6,pr b i):=.inr ⟨i,rfl,.inr rfl⟩
structure Fw (K:Nat) (o0 o:Own) (R D:Nat) (ps:Int) (vo:Value) (V:Nat→Bv) (l:List BlkD):Prop where
 frame : ∀ k:Key,(k.1<K∨K+9<k.1)→o k=o0 k
 ret:o (K+7,1)=bx T.aE R (RawN.mk (n:=1) [.int .i64 0,.slice none 0 0])
 out:o (K+7,0)=bx T.aE D (RawN.mk (n:=1) [.int .i64 ps,vo])
 fno:FnO K o vo V ⟨ps,l⟩
 free : ∀ b,l.length≤b→∀ k,OfB K b k→o k=none
 tmp : ∀ k:Key,k.1=K+8→o k=none
structure Fy (K:Nat) (ob o:Own) (b D:Nat) (c:List Value) (vq:Value) (pin:Nat→Value) (ps:List PhiD) (vr:Value) (iar:Nat→Value) (is:List InsD):Prop where
 y:o (K+8,0)=bx T.al D (RawN.mk (n:=5) c)
 phs:PhsO K o b vq pin ps
 ins:InsO K o b vr iar is
 frame : ∀ k:Key,¬OfB K b k→k.1≠K+8→o k=ob k
 fp : ∀ i,ps.length≤i→o (K+5,pr b i)=none
 fi : ∀ i,is.length≤i→o (K+6,pr b i)=none
 fa:o (K+3,b)=none
 ft:o (K+4,b)=none
 f8 : ∀ i,i≠0→o (K+8,i)=none
section
variable {K b D:Nat} {ob o o':Own} {c c':List Value} {vq vr:Value} {pin iar:Nat→Value} {ps:List PhiD} {is:List InsD}
theorem Fy.Gs (g:Fy K ob o b D c vq pin ps vr iar is) {p:PhiD} {u v':Value} (ho : ∀ k,o' k=(((o.upd (K+5,pr b ps.length) (it T.dW u p.ins)).upd (K+1,b) (it T.cm v' (rows (phR pin ps) ps.length++[⟨p.dst,⟨u⟩⟩]))).upd (K+8,0) (bx T.al D (RawN.mk (n:=5) c'))) k):Fy K ob o' b D c' v' (fun i=>if i=ps.length then u else pin i) (ps++[p]) vr iar is:=by
 refine ⟨by rw [ho,Own.ag],g.phs.push ?_ ?_ fun i hi=>?_,⟨?_,fun i hi=>?_⟩,fun k hk h8=>?_,fun i hi=>?_,fun i hi=>?_,?_,?_,fun i hi=>?_⟩
 ·rw [ho,Own.ab (by simp),Own.ag]
 ·rw [ho,Own.ab (by simp),Own.ab (by simp),Own.ag]
 ·rw [ho,Own.ab (by simp),Own.ab (by simp),Own.ab (by simp [ye];omega)]
 ·rw [ho,Own.ab (by simp),Own.ab (by simp),Own.ab (by simp)];exact g.ins.row
 ·rw [ho,Own.ab (by simp),Own.ab (by simp),Own.ab (by simp)];exact g.ins.iar i hi
 ·rw [ho,Own.ab (by rintro rfl;exact h8 rfl),Own.ab (by rintro rfl;exact hk ofB1),Own.ab (by rintro rfl;exact hk ofB5)];exact g.frame k hk h8
 ·rw [List.length_append,List.length_singleton] at hi
  rw [ho,Own.ab (by simp),Own.ab (by simp),Own.ab (by simp [ye];omega)];exact g.fp i (by omega)
 ·rw [ho,Own.ab (by simp),Own.ab (by simp),Own.ab (by simp)];exact g.fi i hi
 ·rw [ho,Own.ab (by simp),Own.ab (by simp),Own.ab (by simp)];exact g.fa
 ·rw [ho,Own.ab (by simp),Own.ab (by simp),Own.ab (by simp)];exact g.ft
 ·rw [ho,Own.ab (by simp;exact hi),Own.ab (by simp),Own.ab (by simp)];exact g.f8 i hi
theorem Fy.GC (g:Fy K ob o b D c vq pin ps vr iar is) {p:InsD} {u v':Value} (ho : ∀ k,o' k=(((o.upd (K+6,pr b is.length) (it T.int u p.args)).upd (K+2,b) (it T.aX v' (rows (inR iar is) is.length++[⟨p.op,p.dst,p.two,⟨u⟩,p.imm⟩]))).upd (K+8,0) (bx T.al D (RawN.mk (n:=5) c'))) k):Fy K ob o' b D c' vq pin ps v' (fun i=>if i=is.length then u else iar i) (is++[p]):=by
 refine ⟨by rw [ho,Own.ag],⟨?_,fun i hi=>?_⟩,g.ins.push ?_ ?_ fun i hi=>?_,fun k hk h8=>?_,fun i hi=>?_,fun i hi=>?_,?_,?_,fun i hi=>?_⟩
 ·rw [ho,Own.ab (by simp),Own.ab (by simp),Own.ab (by simp)];exact g.phs.row
 ·rw [ho,Own.ab (by simp),Own.ab (by simp),Own.ab (by simp)];exact g.phs.pin i hi
 ·rw [ho,Own.ab (by simp),Own.ag]
 ·rw [ho,Own.ab (by simp),Own.ab (by simp),Own.ag]
 ·rw [ho,Own.ab (by simp),Own.ab (by simp),Own.ab (by simp [ye];omega)]
 ·rw [ho,Own.ab (by rintro rfl;exact h8 rfl),Own.ab (by rintro rfl;exact hk ofB2),Own.ab (by rintro rfl;exact hk ofB6)];exact g.frame k hk h8
 ·rw [ho,Own.ab (by simp),Own.ab (by simp),Own.ab (by simp)];exact g.fp i hi
 ·rw [List.length_append,List.length_singleton] at hi
  rw [ho,Own.ab (by simp),Own.ab (by simp),Own.ab (by simp [ye];omega)];exact g.fi i (by omega)
 ·rw [ho,Own.ab (by simp),Own.ab (by simp),Own.ab (by simp)];exact g.fa
 ·rw [ho,Own.ab (by simp),Own.ab (by simp),Own.ab (by simp)];exact g.ft
 ·rw [ho,Own.ab (by simp;exact hi),Own.ab (by simp),Own.ab (by simp)];exact g.f8 i hi
end
theorem Fv {H:View} {d:Int} {v:Value} (h1:I64 d) (h2:v.oneCell'=true):Rd H (.agg #[.int .i64 d,v]) (PhO.mk d ⟨v⟩):=⟨_,rfl,[.int .i64 d],[v],rfl,⟨rfl,h1⟩,rfl,h2⟩
theorem Fj {H:View} {op d two:Int} {imm:I32} {v:Value} (h:I64 op∧I64 d∧I64 two∧-2147483648≤imm.v∧imm.v≤2147483647) (h2:v.oneCell'=true):Rd H (.agg #[.int .i64 op,.int .i64 d,.int .i64 two,v,.int .i32 imm.v]) (InO.mk op d two ⟨v⟩ imm):=
 ⟨_,rfl,[.int .i64 op],_,rfl,⟨rfl,h.1⟩,[.int .i64 d],_,rfl,⟨rfl,h.2.1⟩,[.int .i64 two],_,rfl,⟨rfl,h.2.2.1⟩,[v],_,rfl,⟨rfl,h2⟩,rfl,h.2.2.2⟩
theorem FN {H:View} {vp vi va vt:Value} {kd:Int} {imm:I32} (h1:vp.oneCell'=true) (h2:vi.oneCell'=true) (h3:va.oneCell'=true) (h4:vt.oneCell'=true) (h5:I64 kd) (h6:-2147483648≤imm.v∧imm.v≤2147483647):Rd H (.agg #[vp,vi,.int .i64 kd,va,vt,.int .i32 imm.v]) (BkO.mk ⟨vp⟩ ⟨vi⟩ ⟨kd,⟨va⟩,⟨vt⟩,imm⟩):=
 ⟨_,rfl,[vp],_,rfl,⟨rfl,h1⟩,[vi],_,rfl,⟨rfl,h2⟩,[.int .i64 kd],_,rfl,⟨rfl,h5⟩,[va],_,rfl,⟨rfl,h3⟩,[vt],_,rfl,⟨rfl,h4⟩,rfl,h6⟩
theorem Ev (K:Nat) {f:ak} {v:Value} {h:Heap} {W:View} {o0:Own} (w0:Owns W h o0) (ho0 : ∀ k:Key,K≤k.1→k.1≤K+9→o0 k=none) (hv:Rd W v f) :
  aI Try.prog N.cK #[v] h (fun u h'=>∃ W' o vb V,W.le W'∧Owns W' h' o∧(∀ k:Key,(k.1<K∨K+9<k.1)→o k=o0 k)∧(∀ k:Key,k.1=K+8∨k.1=K+9→o k=none)∧FnO K o vb V (fewS f)∧u = .agg #[.int .i64 f.params,vb]∧I64 f.params):=by
 refine aA (args:=[v]) follows F.cK E.cK (Nat.le_of_ble_eq_true (by kernel_rfl)) fun Kc hK=>?_
 dsimp only [L.cK]
 refine aa fun z hz=>?_
 simp
 refine ez rfl (hv.mono w0.wle) fun h1 hp1 hle1 hs1 _=>?_
 have w1:=w0.ext hle1
 have hW1:=aW (h':=h1) w0.wle
 have hat:At (grow W h h1) ⟨h.size,0,none⟩ f:=mL (t:=T.aE) (fz:=(0,0)) (by rw [cN (Nat.le_refl _),hp1];simp) (hv.mono hW1)
 generalize grow W h h1=V1 at w1 hW1 hat
 obtain ⟨cp,vb,cb⟩:=gL hat
 generalize h.size=B at cp cb
 have cpr:=(hat.part ak.sV).rng
 have nb:=cb.2.bound
 refine w1.jA (k:=(K+7,1)) (n:=1) (z:=.agg #[.int .i64 0,.slice none 0 0]) (ho0 _ (by simp) (by simp)) (by kernel_rfl) rfl (by decide) (by simp [Value.cells,Value.oneCell']) fun h2 q2 w2=>?_
 generalize h1.size=R at w2
 rw [hz];clear hz z
 refine aa fun z hz=>?_
 simp [ah w2.wle cp]
 refine aN (z:=.agg #[.int .i64 0,.slice none 0 0]) (places:=[(0,1),(1,1)]) (vs:=[(0,.int .i64 f.params)]) (cs:=#[.int .i64 f.params,.slice none 0 0]) (by kernel_rfl) (by kernel_rfl) (by simp) (by rfl) ?_
 refine w2.iJ (k:=(K+7,0)) (n:=1) (l:=[.int .i64 f.params,.slice none 0 0]) ((Own.ab (by simp)).trans (ho0 _ (by simp) (by simp))) (z:=.agg #[.int .i64 0,.slice none 0 0]) (by kernel_rfl) rfl (by kernel_rfl) rfl (by decide) (by simp [Value.oneCell']) (fun _=>by simp) (fun _=>by simp) fun h3 q3 w3=>?_
 generalize h2.size=D at w3
 have w3:=w3.add (k:=(K,0)) (by rw [Own.ab (by simp),Own.ab (by simp)];exact ho0 _ (by simp) (by simp)) (OwnT.nil (α:=BkO) _ h3 T.al) (View.le_refl _) (fun b hb=>by simp [Value.ownBlock] at hb)
 obtain ⟨o3,ho3⟩ : ∃ o3,o3=(((o0.upd (K+7,1) (bx T.aE R (RawN.mk (n:=1) [.int .i64 0,.slice none 0 0]))).upd (K+7,0) (bx T.aE D (RawN.mk (n:=1) [.int .i64 f.params,.slice none 0 0]))).upd (K,0) (it T.al (.slice none 0 0) ([]:List BkO))):=⟨_,rfl⟩
 have w3:Owns V1 h3 o3:=by rw [ho3];exact w3
 have g3:Fw K o0 o3 R D f.params (.slice none 0 0) (fun _=>⟨.slice none 0 0,.slice none 0 0,.slice none 0 0,.slice none 0 0,fun _=>.slice none 0 0,fun _=>.slice none 0 0⟩) ((f.blocks.take 0).map fewB):=by
  subst ho3
  refine ⟨fun k hk=>?_,?_,?_,⟨?_,fun b hb=>absurd hb (Nat.not_lt_zero _)⟩,fun b _ k hk=>?_,fun k hk=>?_⟩
  ·rw [Own.ab (by rintro rfl;simp at hk;omega),Own.ab (by rintro rfl;simp at hk;omega),Own.ab (by rintro rfl;simp at hk;omega)]
  ·rw [Own.ab (by simp),Own.ab (by simp),Own.ag]
  ·rw [Own.ab (by simp),Own.ag]
  ·rw [Own.ag];rfl
  ·have:=gz hk
   rw [Own.ab (by rintro rfl;simp at this;omega),Own.ab (by rintro rfl;simp at this),Own.ab (by rintro rfl;simp at this)]
   exact ho0 k (by omega) (by omega)
  ·rw [Own.ab (by rintro rfl;simp at hk),Own.ab (by rintro rfl;simp at hk),Own.ab (by rintro rfl;simp at hk)]
   exact ho0 k (by omega) (by omega)
 clear ho3
 rw [hz];clear hz z
 refine aa fun z hz=>?_
 simp
 obtain ⟨n,hn⟩ : ∃ n:Nat,n=min f.blocks.length 9:=⟨_,rfl⟩
 have hn1 : ∀ k:Nat,(decide (k<f.blocks.length)&&decide ((k:Int)<9))=decide (k<n):=fun k=>by rw [Bool.eq_iff_iff];simp only [Bool.and_eq_true,decide_eq_true_eq];omega
 refine jN [1,2,3,4] (fun (_:Unit) k=>[.pointer (some ⟨B,0,none⟩),.pointer (some ⟨R,0,none⟩),.pointer (some ⟨D,0,none⟩),.int .i64 k])
  (fun _ k h4=>∃ W vo o V,V1.le W∧Owns W h4 o∧Fw K o0 o R D f.params vo V ((f.blocks.take k).map fewB)) n ()
  rfl (by omega) rfl ⟨V1,.slice none 0 0,o3,_,View.le_refl _,w3,g3⟩ (fun _ _=>rfl) (fun v k h4 hk ⟨W,vo,_,_,q1,q2,_⟩=>by simp [ah (View.le_trans q1 q2.wle) cb.1,(cb.2.mono (View.le_trans q1 q2.wle)).len,hn1]) ?_ ?_
 ·rintro _ k h4 hltk ⟨W4,vo,o4,V4,hW4,w4,g4⟩ K2 hK2
  have hkl:k<f.blocks.length:=by omega
  have cb4:=cb.2.mono hW4
  have cc4:=ah hW4 cb.1
  obtain ⟨ux,hux,huxr⟩:=cb4.wh rfl (N:=6) rfl hkl
  have htk:=kM (f:=fewB) hkl
  generalize nth f.blocks k=x at huxr htk
  have hlo:((f.blocks.take k).map fewB).length≤9:=by simp;omega
  have hlk:((f.blocks.take k).map fewB).length=k:=by simp;omega
  generalize (f.blocks.take k).map fewB=out at g4 htk hlo hlk
  subst hlk
  refine aa fun y hy=>?_
  simp (disch:=omega) [ah w4.wle cc4,(cb4.mono w4.wle).idxn (N:=6) rfl,hux _ w4.wle]
  refine dU (X:=W4) (z:=.agg #[.slice none 0 0,.slice none 0 0,.int .i64 0,.slice none 0 0,.slice none 0 0,.int .i32 0]) (by kernel_rfl) rfl (by kernel_rfl) huxr (fun _=>by simp) (fun _=>by simp) fun h5 hle5 hs5 hat5=>?_
  have w5:=w4.ext hle5
  have hat5:=hat5 (grow W4 h4 h5) (aW w4.wle) (cN (Nat.le_refl _))
  have hW5:=View.le_trans hW4 (aW (h':=h5) w4.wle)
  generalize grow W4 h4 h5=W5 at w5 hat5 hW5
  generalize h4.size=D5 at hat5
  obtain ⟨vp,vi,va,vt,bp,bi,bk,ba,bt⟩:=kh hat5
  have hterm:=hat5.part BlkD.pU
  obtain ⟨uT,huT,huTr⟩:=hterm.an rfl
  obtain ⟨va',vt',rfl,ta,tt⟩:=tf huTr
  have tk:=(hterm.part dk.we).rng
  have ti:-2147483648≤x.term.imm.v∧x.term.imm.v≤2147483647:=by
   obtain ⟨cs,_,c1,r1,_,_,c2,r2,_,_,c3,r3,_,_,_,h6⟩:=hterm
   exact h6
  have huT:Un.ev W5 (.an 4) (.pointer (some ⟨D5,2,none⟩))=some (.agg #[.int .i64 x.term.kind,va',vt',.int .i32 x.term.imm.v]):=by
   have h2:Un.ev W5 (.an 4) (.pointer (some ((⟨D5,0,none⟩:Addr).add 2)))=_:=huT
   rwa [yh] at h2
  have huT6:Un.ev (vw h5) (.an 4) (.pointer (some ⟨D5,2,none⟩))=some (.agg #[.int .i64 x.term.kind,va',vt',.int .i32 x.term.imm.v]):=by
   have:=ck (ρ:=fun _=>none) (e:=.un (.an 4) (.con (.pointer (some ⟨D5,2,none⟩)))) w5.wle (by simpa using huT)
   simpa using this
  rw [hy];clear hy y
  refine aa fun y hy=>?_
  simp [huT6]
  refine aN (z:=.agg #[.slice none 0 0,.slice none 0 0,.int .i64 0,.slice none 0 0,.slice none 0 0,.int .i32 0]) (places:=[(0,1),(1,1),(2,4)]) (vs:=[(2,.agg #[.int .i64 x.term.kind,va',vt',.int .i32 x.term.imm.v])]) (cs:=#[.slice none 0 0,.slice none 0 0,.int .i64 x.term.kind,va',vt',.int .i32 x.term.imm.v]) (by kernel_rfl) (by kernel_rfl) (by simp) (by rfl) ?_
  refine w5.iJ (k:=(K+8,0)) (n:=5) (l:=[.slice none 0 0,.slice none 0 0,.int .i64 x.term.kind,va',vt',.int .i32 x.term.imm.v]) (g4.tmp _ rfl) (z:=.agg #[.slice none 0 0,.slice none 0 0,.int .i64 0,.slice none 0 0,.slice none 0 0,.int .i32 0]) (by kernel_rfl) rfl (by kernel_rfl) rfl (by decide) (by intro c hc;simp only [List.mem_cons,List.not_mem_nil,or_false] at hc;rcases hc with rfl | rfl | rfl | rfl | rfl | rfl<;>first | rfl | exact ta.cells.2 | exact tt.cells.2) (fun _=>by simp) (fun _=>by simp) fun h6 q6 w6=>?_
  generalize h5.size=D6 at w6
  have w6:=Owns.nils w6 (o':=((o4.upd (K+8,0) (bx T.al D6 (RawN.mk (n:=5) [.slice none 0 0,.slice none 0 0,.int .i64 x.term.kind,va',vt',.int .i32 x.term.imm.v]))).upd (K+1,out.length) (it T.cm (.slice none 0 0) ([]:List PhO))).upd (K+2,out.length) (it T.aX (.slice none 0 0) ([]:List InO))) (fun q i hq=>by
   by_cases e1:q=(K+2,out.length)
   ·subst e1;rw [Own.ag] at hq;cases hq;exact .inr ⟨rfl,OwnT.nil (α:=InO) _ h6 T.aX⟩
   rw [Own.ab e1] at hq
   by_cases e2:q=(K+1,out.length)
   ·subst e2;rw [Own.ag] at hq;cases hq;exact .inr ⟨rfl,OwnT.nil (α:=PhO) _ h6 T.cm⟩
   rw [Own.ab e2] at hq
   exact .inl hq)
  have g6:Fy K o4 (((o4.upd (K+8,0) (bx T.al D6 (RawN.mk (n:=5) [.slice none 0 0,.slice none 0 0,.int .i64 x.term.kind,va',vt',.int .i32 x.term.imm.v]))).upd (K+1,out.length) (it T.cm (.slice none 0 0) ([]:List PhO))).upd (K+2,out.length) (it T.aX (.slice none 0 0) ([]:List InO))) out.length D6 [.slice none 0 0,.slice none 0 0,.int .i64 x.term.kind,va',vt',.int .i32 x.term.imm.v] (.slice none 0 0) (fun _=>.slice none 0 0) ((x.phis.take 0).map fewP) (.slice none 0 0) (fun _=>.slice none 0 0) ((x.ins.take 0).map fewI):=by
   have fr:=g4.free out.length (Nat.le_refl _)
   refine ⟨?_,⟨?_,fun i hi=>absurd hi (Nat.not_lt_zero _)⟩,⟨?_,fun i hi=>absurd hi (Nat.not_lt_zero _)⟩,fun q hq h8=>?_,fun i _=>?_,fun i _=>?_,?_,?_,fun i hi=>?_⟩
   ·rw [Own.ab (by simp),Own.ab (by simp),Own.ag]
   ·rw [Own.ab (by simp),Own.ag];rfl
   ·rw [Own.ag];rfl
   ·rw [Own.ab (by rintro rfl;exact hq ofB2),Own.ab (by rintro rfl;exact hq ofB1),Own.ab (by rintro rfl;exact h8 rfl)]
   ·rw [Own.ab (by simp),Own.ab (by simp),Own.ab (by simp)];exact fr _ ofB5
   ·rw [Own.ab (by simp),Own.ab (by simp),Own.ab (by simp)];exact fr _ ofB6
   ·rw [Own.ab (by simp),Own.ab (by simp),Own.ab (by simp)];exact fr _ ofB3
   ·rw [Own.ab (by simp),Own.ab (by simp),Own.ab (by simp)];exact fr _ ofB4
   ·rw [Own.ab (by simp),Own.ab (by simp),Own.ab (by simp;exact hi)];exact g4.tmp _ rfl
  generalize (((o4.upd (K+8,0) (bx T.al D6 (RawN.mk (n:=5) [.slice none 0 0,.slice none 0 0,.int .i64 x.term.kind,va',vt',.int .i32 x.term.imm.v]))).upd (K+1,out.length) (it T.cm (.slice none 0 0) ([]:List PhO))).upd (K+2,out.length) (it T.aX (.slice none 0 0) ([]:List InO)))=o6 at w6 g6
  rw [hy];clear hy y
  refine aa fun y hy=>?_
  simp
  clear w5 w4
  have np:=bp.2.bound
  obtain ⟨n6,hn6⟩ : ∃ n6:Nat,n6=min x.phis.length 8:=⟨_,rfl⟩
  have hc6 : ∀ k:Nat,(decide (k<x.phis.length)&&decide ((k:Int)<8))=decide (k<n6):=fun k=>by rw [Bool.eq_iff_iff];simp only [Bool.and_eq_true,decide_eq_true_eq];omega
  refine jN [1,2,3,4,5,6,7] (fun (_:Unit) j=>[.pointer (some ⟨B,0,none⟩),.pointer (some ⟨R,0,none⟩),.pointer (some ⟨D,0,none⟩),.int .i64 (out.length:Nat),.pointer (some ⟨D5,0,none⟩),.pointer (some ⟨D6,0,none⟩),.int .i64 j])
   (fun _ j h7=>∃ W vq pin o,W5.le W∧Owns W h7 o∧Fy K o4 o out.length D6 [vq,.slice none 0 0,.int .i64 x.term.kind,va',vt',.int .i32 x.term.imm.v] vq pin ((x.phis.take j).map fewP) (.slice none 0 0) (fun _=>.slice none 0 0) ((x.ins.take 0).map fewI)) n6 ()
   rfl (by omega) rfl ⟨W5,.slice none 0 0,_,o6,View.le_refl _,w6,g6⟩ (fun _ _=>rfl) (fun v k h7 hk ⟨W,vo,_,_,q1,q2,_⟩=>by simp [ah (View.le_trans q1 q2.wle) bp.1,(bp.2.mono (View.le_trans q1 q2.wle)).len,hc6]) ?_ ?_
  ·rintro _ j h7 hltj ⟨W7,vq,pin,o7,hW7,w7,g7⟩ K3 hK3
   have hjl:j<x.phis.length:=by omega
   have bp7:=bp.2.mono hW7
   have bc7:=ah hW7 bp.1
   obtain ⟨ux,hux,huxr⟩:=bp7.wh rfl (N:=2) rfl hjl
   have htk:=kM (f:=fewP) hjl
   have hl7:((x.phis.take j).map fewP).length≤8:=by simp;omega
   generalize nth x.phis j=p at huxr htk
   generalize (x.phis.take j).map fewP=outp at g7 htk hl7
   refine aa fun q hq=>?_
   simp (disch:=omega) [ah w7.wle bc7,(bp7.mono w7.wle).idxn (N:=2) rfl,hux _ w7.wle]
   obtain ⟨vin,rfl,hd,h3⟩:=Ap huxr
   refine w7.iJ (k:=(K+8,1)) (n:=1) (l:=[.int .i64 p.dst,vin]) (g7.f8 1 (by decide)) (z:=.agg #[.int .i64 0,.slice none 0 0]) (by kernel_rfl) rfl (by kernel_rfl) rfl (by decide) (by intro c hc;simp only [List.mem_cons,List.not_mem_nil,or_false] at hc;rcases hc with rfl | rfl<;>first | rfl | exact h3.cells.2) (fun _=>by simp) (fun _=>by simp) fun h8 q8 w8=>?_
   generalize h7.size=D8 at w8
   rw [hq];clear hq q
   refine aa fun q hq=>?_
   simp
   refine w8.cr (k:=(K+5,pr out.length outp.length)) (α:=InD) ((Own.ab (by simp)).trans (g7.fp _ (Nat.le_refl _))) El.cw fun v9 h9 hle9 hv9 w9 av9=>?_
   have c9:ao (vw h9) ⟨D8,1,none⟩=some vin:=w9.raw (k:=(K+8,1)) (e:=T.cm) (B:=D8) (l:=[.int .i64 p.dst,vin]) (n:=1) (by rw [Own.ab (by simp),Own.ag]) (i:=1) (by decide)
   obtain ⟨uf,huf,hufr⟩:=iB h3 6 6 rfl
   simp [c9,h3.len,huf]
   refine Owns.qN w9 (k:=(K+5,pr out.length outp.length)) (α:=InD) (v:=v9) (u:=uf) (l2:=p.ins.take 6) Own.ag El.cw (by simp) (by simp) hufr (by simp;omega) fun v10 h10 w10 hv10=>?_
   refine w10.bn (k:=(K+8,1)) (n:=1) (i:=1) (e:=T.cm) (B:=D8) (l:=[.int .i64 p.dst,vin]) (by rw [Own.ab (by simp),Own.ab (by simp),Own.ag]) (by decide) (by kernel_rfl) rfl rfl hv10 fun h11 w11 _=>?_
   have w11:=w11.congr (o':=(o7.upd (K+5,pr out.length outp.length) (it T.dW v10 (p.ins.take 6))).upd (K+8,1) (bx T.cm D8 (RawN.mk (n:=1) [.int .i64 p.dst,v10]))) fun q=>by
    by_cases e1:q=(K+8,1)
    ·subst e1;rw [Own.ag,Own.ag];rfl
    rw [Own.ab e1,Own.ab e1]
    by_cases e2:q=(K+5,pr out.length outp.length)
    ·subst e2;rw [Own.ag,Own.ag]
    rw [Own.ab e2,Own.ab e2,Own.ab e2,Own.ab e1]
   rw [hq];clear hq q
   have c11:ao (vw h11) ⟨D6,0,none⟩=some vq:=w11.raw (k:=(K+8,0)) (e:=T.al) (B:=D6) (l:=[vq,.slice none 0 0,.int .i64 x.term.kind,va',vt',.int .i32 x.term.imm.v]) (n:=5) (by rw [Own.ab (by simp),Own.ab (by simp)];exact g7.y) (i:=0) (by decide)
   have c12:Un.ev (vw h11) (.an 2) (.pointer (some ⟨D8,0,none⟩))=some (.agg #[.int .i64 p.dst,v10]):=w11.dE (k:=(K+8,1)) (e:=T.cm) (B:=D8) (l:=[.int .i64 p.dst,v10]) (n:=1) Own.ag
   simp [c11,c12]
   refine w11.dK (k:=(K+1,out.length)) (α:=PhO) (v:=vq) (l:=rows (phR pin outp) outp.length) (d:=⟨(fewP p).dst,⟨v10⟩⟩) (by rw [Own.ab (by simp),Own.ab (by simp)];exact g7.phs.row) El.gq rfl (Fv hd hv10) (by simp;omega) (by simp;omega) (fun _=>rfl) (fun _=>rfl) fun u13 v13 h13 w13 _=>?_
   have hv13:=(w13.cells (k:=(K+1,out.length)) Own.ag).2
   refine w13.bn (k:=(K+8,0)) (n:=5) (i:=0) (e:=T.al) (B:=D6) (l:=[vq,.slice none 0 0,.int .i64 x.term.kind,va',vt',.int .i32 x.term.imm.v]) (by rw [Own.ab (by simp),Own.ab (by simp),Own.ab (by simp)];exact g7.y) (by decide) (by kernel_rfl) rfl rfl hv13 fun h14 w14 _=>?_
   have w15:=w14.sub (o':=((o7.upd (K+5,pr out.length outp.length) (it T.dW v10 (fewP p).ins)).upd (K+1,out.length) (it T.cm v13 (rows (phR pin outp) outp.length++[⟨(fewP p).dst,⟨v10⟩⟩]))).upd (K+8,0) (bx T.al D6 (RawN.mk (n:=5) [v13,.slice none 0 0,.int .i64 x.term.kind,va',vt',.int .i32 x.term.imm.v]))) fun q i hq=>by
    by_cases e1:q=(K+8,0)
    ·subst e1;rw [Own.ag] at hq ⊢;exact hq
    rw [Own.ab e1] at hq ⊢
    by_cases e2:q=(K+1,out.length)
    ·subst e2;rw [Own.ag] at hq ⊢;exact hq
    rw [Own.ab e2] at hq ⊢
    by_cases e3:q=(K+8,1)
    ·subst e3;rw [Own.ab (by simp),g7.f8 1 (by decide)] at hq;cases hq
    rw [Own.ab e3];exact hq
   exact hK3 () _ _ rfl rfl ⟨W7,v13,_,_,hW7,w15,by rw [htk];exact g7.Gs fun k=>rfl⟩
  ·rintro _ h7 ⟨W7,vq,pin,o7,hW7,w7,g7⟩
   simp
   rw [hy];clear hy y
   refine aa fun y hy=>?_
   simp
   have hlP:((x.phis.take n6).map fewP)=(x.phis.take 8).map fewP:=by rw [hn6,jE]
   rw [hlP] at g7
   generalize hPs:(x.phis.take 8).map fewP=ps at g7
   clear hlP
   have bi7:=bi.2.mono hW7
   have ni:=bi.2.bound
   obtain ⟨n8,hn8⟩ : ∃ n8:Nat,n8=min x.ins.length 40:=⟨_,rfl⟩
   have hc8 : ∀ k:Nat,(decide (k<x.ins.length)&&decide ((k:Int)<40))=decide (k<n8):=fun k=>by rw [Bool.eq_iff_iff];simp only [Bool.and_eq_true,decide_eq_true_eq];omega
   refine jN [1,2,3,4,5,6,9] (fun (_:Unit) j=>[.pointer (some ⟨B,0,none⟩),.pointer (some ⟨R,0,none⟩),.pointer (some ⟨D,0,none⟩),.int .i64 (out.length:Nat),.pointer (some ⟨D5,0,none⟩),.pointer (some ⟨D6,0,none⟩),.int .i64 j])
    (fun _ j h8=>∃ W vr iar o,W7.le W∧Owns W h8 o∧Fy K o4 o out.length D6 [vq,vr,.int .i64 x.term.kind,va',vt',.int .i32 x.term.imm.v] vq pin ps vr iar ((x.ins.take j).map fewI)) n8 ()
    rfl (by omega) rfl ⟨W7,.slice none 0 0,_,o7,View.le_refl _,w7,g7⟩ (fun _ _=>rfl) (fun v k h8 hk ⟨W,vo,_,_,q1,q2,_⟩=>by simp [ah (View.le_trans hW7 (View.le_trans q1 q2.wle)) bi.1,(bi.2.mono (View.le_trans hW7 (View.le_trans q1 q2.wle))).len,hc8]) ?_ ?_
   ·rintro _ j h8 hltj ⟨W8,vr,iar,o8,hW8,w8,g8⟩ K3 hK3
    have hjl:j<x.ins.length:=by omega
    have bp8:=bi7.mono hW8
    have bc8:=ah (View.le_trans hW7 hW8) bi.1
    obtain ⟨ux,hux,huxr⟩:=bp8.wh rfl (N:=5) rfl hjl
    have htk:=kM (f:=fewI) hjl
    have hl8:((x.ins.take j).map fewI).length≤40:=by simp;omega
    generalize nth x.ins j=p at huxr htk
    generalize (x.ins.take j).map fewI=outi at g8 htk hl8
    refine aa fun q hq=>?_
    simp (disch:=omega) [ah w8.wle bc8,(bp8.mono w8.wle).idxn (N:=5) rfl,hux _ w8.wle]
    obtain ⟨vin,rfl,hd,h3⟩:=qV huxr
    refine w8.iJ (k:=(K+8,1)) (n:=4) (l:=[.int .i64 p.op,.int .i64 p.dst,.int .i64 p.two,vin,.int .i32 p.imm.v]) (g8.f8 1 (by decide)) (z:=.agg #[.int .i64 0,.int .i64 0,.int .i64 0,.slice none 0 0,.int .i32 0]) (by kernel_rfl) rfl (by kernel_rfl) rfl (by decide) (by intro c hc;simp only [List.mem_cons,List.not_mem_nil,or_false] at hc;rcases hc with rfl | rfl | rfl | rfl | rfl<;>first | rfl | exact h3.cells.2) (fun _=>by simp) (fun _=>by simp) fun h9 q9 w9=>?_
    generalize h8.size=D8 at w9
    rw [hq];clear hq q
    refine aa fun q hq=>?_
    simp
    refine w9.cr (k:=(K+6,pr out.length outi.length)) (α:=Int) ((Own.ab (by simp)).trans (g8.fi _ (Nat.le_refl _))) El.aP fun v10 h10 hle10 hv10 w10 av10=>?_
    have c10:ao (vw h10) ⟨D8,3,none⟩=some vin:=w10.raw (k:=(K+8,1)) (e:=T.aX) (B:=D8) (l:=[.int .i64 p.op,.int .i64 p.dst,.int .i64 p.two,vin,.int .i32 p.imm.v]) (n:=4) (by rw [Own.ab (by simp),Own.ag]) (i:=3) (by decide)
    obtain ⟨uf,huf,hufr⟩:=iB h3 6 6 rfl
    simp [c10,h3.len,huf]
    refine Owns.qN w10 (k:=(K+6,pr out.length outi.length)) (α:=Int) (v:=v10) (u:=uf) (l2:=p.args.take 6) Own.ag El.aP (by simp) (by simp) hufr (by simp;omega) fun v11 h11 w11 hv11=>?_
    refine w11.bn (k:=(K+8,1)) (n:=4) (i:=3) (e:=T.aX) (B:=D8) (l:=[.int .i64 p.op,.int .i64 p.dst,.int .i64 p.two,vin,.int .i32 p.imm.v]) (by rw [Own.ab (by simp),Own.ab (by simp),Own.ag]) (by decide) (by kernel_rfl) rfl rfl hv11 fun h12 w12 _=>?_
    have w12:=w12.congr (o':=(o8.upd (K+6,pr out.length outi.length) (it T.int v11 (p.args.take 6))).upd (K+8,1) (bx T.aX D8 (RawN.mk (n:=4) [.int .i64 p.op,.int .i64 p.dst,.int .i64 p.two,v11,.int .i32 p.imm.v]))) fun q=>by
     by_cases e1:q=(K+8,1)
     ·subst e1;rw [Own.ag,Own.ag];rfl
     rw [Own.ab e1,Own.ab e1]
     by_cases e2:q=(K+6,pr out.length outi.length)
     ·subst e2;rw [Own.ag,Own.ag]
     rw [Own.ab e2,Own.ab e2,Own.ab e2,Own.ab e1]
    rw [hq];clear hq q
    have c12:ao (vw h12) ⟨D6,1,none⟩=some vr:=w12.raw (k:=(K+8,0)) (e:=T.al) (B:=D6) (l:=[vq,vr,.int .i64 x.term.kind,va',vt',.int .i32 x.term.imm.v]) (n:=5) (by rw [Own.ab (by simp),Own.ab (by simp)];exact g8.y) (i:=1) (by decide)
    have c13:Un.ev (vw h12) (.an 5) (.pointer (some ⟨D8,0,none⟩))=some (.agg #[.int .i64 p.op,.int .i64 p.dst,.int .i64 p.two,v11,.int .i32 p.imm.v]):=w12.dE (k:=(K+8,1)) (e:=T.aX) (B:=D8) (l:=[.int .i64 p.op,.int .i64 p.dst,.int .i64 p.two,v11,.int .i32 p.imm.v]) (n:=4) Own.ag
    simp [c12,c13]
    refine w12.dK (k:=(K+2,out.length)) (α:=InO) (v:=vr) (l:=rows (inR iar outi) outi.length) (d:=⟨(fewI p).op,(fewI p).dst,(fewI p).two,⟨v11⟩,(fewI p).imm⟩) (by rw [Own.ab (by simp),Own.ab (by simp)];exact g8.ins.row) El.ey rfl (Fj hd hv11) (by simp;omega) (by simp;omega) (fun _=>rfl) (fun _=>rfl) fun u13 v13 h13 w13 _=>?_
    have hv13:=(w13.cells (k:=(K+2,out.length)) Own.ag).2
    refine w13.bn (k:=(K+8,0)) (n:=5) (i:=1) (e:=T.al) (B:=D6) (l:=[vq,vr,.int .i64 x.term.kind,va',vt',.int .i32 x.term.imm.v]) (by rw [Own.ab (by simp),Own.ab (by simp),Own.ab (by simp)];exact g8.y) (by decide) (by kernel_rfl) rfl rfl hv13 fun h14 w14 _=>?_
    have w15:=w14.sub (o':=((o8.upd (K+6,pr out.length outi.length) (it T.int v11 (fewI p).args)).upd (K+2,out.length) (it T.aX v13 (rows (inR iar outi) outi.length++[⟨(fewI p).op,(fewI p).dst,(fewI p).two,⟨v11⟩,(fewI p).imm⟩]))).upd (K+8,0) (bx T.al D6 (RawN.mk (n:=5) [vq,v13,.int .i64 x.term.kind,va',vt',.int .i32 x.term.imm.v]))) fun q i hq=>by
     by_cases e1:q=(K+8,0)
     ·subst e1;rw [Own.ag] at hq ⊢;exact hq
     rw [Own.ab e1] at hq ⊢
     by_cases e2:q=(K+2,out.length)
     ·subst e2;rw [Own.ag] at hq ⊢;exact hq
     rw [Own.ab e2] at hq ⊢
     by_cases e3:q=(K+8,1)
     ·subst e3;rw [Own.ab (by simp),g8.f8 1 (by decide)] at hq;cases hq
     rw [Own.ab e3];exact hq
    exact hK3 () _ _ rfl rfl ⟨W8,v13,_,_,hW8,w15,by rw [htk];exact g8.GC fun k=>rfl⟩
   ·rintro _ h8 ⟨W8,vr,iar,o8,hW8,w8,g8⟩
    simp
    rw [hy];clear hy y
    refine aa fun y hy=>?_
    have hlI:((x.ins.take n8).map fewI)=(x.ins.take 40).map fewI:=by rw [hn8,jE]
    rw [hlI] at g8
    generalize hIs:(x.ins.take 40).map fewI=is at g8
    simp
    refine w8.cr (k:=(K+3,out.length)) (α:=Int) g8.fa El.aP fun v9 h9 hle9 hv9 w9 av9=>?_
    have hW8':=View.le_trans hW7 hW8
    have ca:=ah (View.le_trans hW8' w9.wle) ba.1
    obtain ⟨uf,huf,hufr⟩:=iB (ba.2.mono hW8') 6 6 rfl
    simp [ca,ba.2.len,huf]
    refine Owns.qN w9 (k:=(K+3,out.length)) (α:=Int) (v:=v9) (u:=uf) (l2:=x.term.args.take 6) Own.ag El.aP (by simp) (by simp) hufr (by simp;omega) fun v10 h10 w10 hv10=>?_
    refine w10.bn (k:=(K+8,0)) (n:=5) (i:=3) (e:=T.al) (B:=D6) (l:=[vq,vr,.int .i64 x.term.kind,va',vt',.int .i32 x.term.imm.v]) (by rw [Own.ab (by simp),Own.ab (by simp)];exact g8.y) (by decide) (by kernel_rfl) rfl rfl hv10 fun h11 w11 _=>?_
    rw [hy];clear hy y
    refine aa fun y hy=>?_
    simp
    refine w11.cr (k:=(K+4,out.length)) (α:=Int) (by rw [Own.ab (by simp),Own.ab (by simp),Own.ab (by simp)];exact g8.ft) El.aP fun v12 h12 hle12 hv12 w12 av12=>?_
    have ct:=ah (View.le_trans hW8' w12.wle) bt.1
    obtain ⟨ug,hug,hugr⟩:=iB (bt.2.mono hW8') 70 70 rfl
    simp [ct,bt.2.len,hug]
    refine Owns.qN w12 (k:=(K+4,out.length)) (α:=Int) (v:=v12) (u:=ug) (l2:=x.term.to.take 70) Own.ag El.aP (by simp) (by simp) hugr (by simp;omega) fun v13 h13 w13 hv13=>?_
    refine w13.bn (k:=(K+8,0)) (n:=5) (i:=4) (e:=T.al) (B:=D6) (l:=[vq,vr,.int .i64 x.term.kind,v10,vt',.int .i32 x.term.imm.v]) (by rw [Own.ab (by simp),Own.ab (by simp),Own.ag];rfl) (by decide) (by kernel_rfl) rfl rfl hv13 fun h14 w14 _=>?_
    have w14:=w14.congr (o':=((o8.upd (K+3,out.length) (it T.int v10 (x.term.args.take 6))).upd (K+4,out.length) (it T.int v13 (x.term.to.take 70))).upd (K+8,0) (bx T.al D6 (RawN.mk (n:=5) [vq,vr,.int .i64 x.term.kind,v10,v13,.int .i32 x.term.imm.v]))) fun q=>by
     by_cases e1:q=(K+8,0)
     ·subst e1;rw [Own.ag,Own.ag];rfl
     rw [Own.ab e1,Own.ab e1]
     by_cases e2:q=(K+4,out.length)
     ·subst e2;rw [Own.ag,Own.ag]
     rw [Own.ab e2,Own.ab e2,Own.ab e2,Own.ab e1]
     by_cases e3:q=(K+3,out.length)
     ·subst e3;rw [Own.ag,Own.ag]
     rw [Own.ab e3,Own.ab e3,Own.ab e3]
    rw [hy];clear hy y
    have hvq:=(w8.cells g8.phs.row).2
    have hvr:=(w8.cells g8.ins.row).2
    have c1:ao (vw h14) ⟨D,1,none⟩=some vo:=w14.raw (k:=(K+7,0)) (e:=T.aE) (B:=D) (l:=[.int .i64 f.params,vo]) (n:=1) (by rw [Own.ab (by simp),Own.ab (by simp),Own.ab (by simp),g8.frame _ (fun h=>by have:=gz h;simp at this) (by simp)];exact g4.out) (i:=1) (by decide)
    have c2:Un.ev (vw h14) (.an 6) (.pointer (some ⟨D6,0,none⟩))=some (.agg #[vq,vr,.int .i64 x.term.kind,v10,v13,.int .i32 x.term.imm.v]):=w14.dE (k:=(K+8,0)) (e:=T.al) (B:=D6) (l:=[vq,vr,.int .i64 x.term.kind,v10,v13,.int .i32 x.term.imm.v]) (n:=5) Own.ag
    simp [c1,c2]
    refine w14.dK (k:=(K,0)) (α:=BkO) (v:=vo) (l:=rows (fun b=>bkO (V4 b) (nth out b)) out.length) (d:=⟨⟨vq⟩,⟨vr⟩,⟨x.term.kind,⟨v10⟩,⟨v13⟩,x.term.imm⟩⟩) (by rw [Own.ab (by simp),Own.ab (by simp),Own.ab (by simp),g8.frame _ (fun h=>by have:=gz h;simp at this;omega) (by simp)];exact g4.fno.blk) El.fu rfl (FN hvq hvr hv10 hv13 tk ti) (by simp;omega) (by simp;omega) (fun _=>rfl) (fun _=>rfl) fun u17 v17 h17 w17 _=>?_
    have hv17:=(w17.cells (k:=(K,0)) Own.ag).2
    refine w17.bn (k:=(K+7,0)) (n:=1) (i:=1) (e:=T.aE) (B:=D) (l:=[.int .i64 f.params,vo]) (by rw [Own.ab (by simp),Own.ab (by simp),Own.ab (by simp),Own.ab (by simp),g8.frame _ (fun h=>by have:=gz h;simp at this) (by simp)];exact g4.out) (by decide) (by kernel_rfl) rfl rfl hv17 fun h18 w18 _=>?_
    have w19:=w18.sub (o':=fun q=>if q.1=K+8 then none else ((((o8.upd (K+3,out.length) (it T.int v10 (x.term.args.take 6))).upd (K+4,out.length) (it T.int v13 (x.term.to.take 70))).upd (K,0) (it T.al v17 (rows (fun b=>bkO (V4 b) (nth out b)) out.length++[⟨⟨vq⟩,⟨vr⟩,⟨x.term.kind,⟨v10⟩,⟨v13⟩,x.term.imm⟩⟩]))).upd (K+7,0) (bx T.aE D (RawN.mk (n:=1) [.int .i64 f.params,v17]))) q) fun q i hq=>by
     by_cases e0:q.1=K+8
     ·rw [if_pos e0] at hq;cases hq
     rw [if_neg e0] at hq
     rw [←hq]
     by_cases e1:q=(K+7,0)
     ·subst e1;rw [Own.ag,Own.ag];rfl
     rw [Own.ab e1,Own.ab e1]
     by_cases e2:q=(K,0)
     ·subst e2;rw [Own.ag,Own.ag]
     rw [Own.ab e2,Own.ab e2,Own.ab (by rintro rfl;exact e0 rfl)]
    have hw : ∀ q:Key,q.1≠K+8→(fun q:Key=>if q.1=K+8 then none else ((((o8.upd (K+3,out.length) (it T.int v10 (x.term.args.take 6))).upd (K+4,out.length) (it T.int v13 (x.term.to.take 70))).upd (K,0) (it T.al v17 (rows (fun b=>bkO (V4 b) (nth out b)) out.length++[⟨⟨vq⟩,⟨vr⟩,⟨x.term.kind,⟨v10⟩,⟨v13⟩,x.term.imm⟩⟩]))).upd (K+7,0) (bx T.aE D (RawN.mk (n:=1) [.int .i64 f.params,v17]))) q) q=_:=fun q hq=>if_neg hq
    have h8' : ∀ q:Key,q.1=K+8→(fun q:Key=>if q.1=K+8 then none else ((((o8.upd (K+3,out.length) (it T.int v10 (x.term.args.take 6))).upd (K+4,out.length) (it T.int v13 (x.term.to.take 70))).upd (K,0) (it T.al v17 (rows (fun b=>bkO (V4 b) (nth out b)) out.length++[⟨⟨vq⟩,⟨vr⟩,⟨x.term.kind,⟨v10⟩,⟨v13⟩,x.term.imm⟩⟩]))).upd (K+7,0) (bx T.aE D (RawN.mk (n:=1) [.int .i64 f.params,v17]))) q) q=none:=fun q hq=>if_pos hq
    generalize (fun q:Key=>if q.1=K+8 then none else ((((o8.upd (K+3,out.length) (it T.int v10 (x.term.args.take 6))).upd (K+4,out.length) (it T.int v13 (x.term.to.take 70))).upd (K,0) (it T.al v17 (rows (fun b=>bkO (V4 b) (nth out b)) out.length++[⟨⟨vq⟩,⟨vr⟩,⟨x.term.kind,⟨v10⟩,⟨v13⟩,x.term.imm⟩⟩]))).upd (K+7,0) (bx T.aE D (RawN.mk (n:=1) [.int .i64 f.params,v17]))) q)=o19 at w19 hw h8'
    have far : ∀ q:Key,¬OfB K out.length q→q.1≠K+8→q≠(K,0)→q≠(K+7,0)→o19 q=o4 q:=fun q h1 h2 h3 h4=>by
     rw [hw q h2,Own.ab h4,Own.ab h3,Own.ab (by rintro rfl;exact h1 ofB4),Own.ab (by rintro rfl;exact h1 ofB3)]
     exact g8.frame q h1 h2
    refine hK2 () _ _ rfl rfl ⟨W8,v17,o19,fun b=>if b=out.length then ⟨vq,vr,v10,v13,pin,iar⟩ else V4 b,View.le_trans hW5 hW8',w19,?_⟩
    rw [htk]
    refine ⟨fun q hq=>?_,?_,?_,g4.fno.push (Vn:=⟨vq,vr,v10,v13,pin,iar⟩) (x:=⟨⟨vq⟩,⟨vr⟩,⟨x.term.kind,⟨v10⟩,⟨v13⟩,x.term.imm⟩⟩) rfl ?_ (fun b hb q hq=>?_) ?_,fun b hb q hq=>?_,h8'⟩
    ·rw [far q (fun h=>by have:=gz h;omega) (by omega) (by rintro rfl;dsimp only at hq;omega) (by rintro rfl;dsimp only at hq;omega)]
     exact g4.frame q hq
    ·rw [far _ (fun h=>by have:=gz h;simp at this) (by simp) (by simp) (by simp)];exact g4.ret
    ·rw [hw _ (by simp),Own.ag]
    ·rw [hw _ (by simp),Own.ab (by simp),Own.ag]
    ·have hr:=gz hq
     exact far q (zg (by omega) hq) (by omega) (by rintro rfl;simp at hr;omega) (by rintro rfl;simp at hr)
    ·have keep : ∀ q:Key,OfB K out.length q→q≠(K+3,out.length)→q≠(K+4,out.length)→o19 q=o8 q:=fun q hq h1 h2=>by
      have hr:=gz hq
      rw [hw q (by omega),Own.ab (by rintro rfl;simp at hr),Own.ab (by rintro rfl;simp at hr;omega),Own.ab h2,Own.ab h1]
     refine BO.of (p:=(x.phis.take 8).map fewP) (i:=(x.ins.take 40).map fewI) (t:={ x.term with args:=x.term.args.take 6,to:=x.term.to.take 70 }) ?_ ?_ ?_ ?_
     ·rw [hPs]
      exact ⟨(keep _ ofB1 (by simp) (by simp)).trans g8.phs.row,fun i hi=>(keep _ ofB5 (by simp) (by simp)).trans (g8.phs.pin i hi)⟩
     ·rw [hIs]
      exact ⟨(keep _ ofB2 (by simp) (by simp)).trans g8.ins.row,fun i hi=>(keep _ ofB6 (by simp) (by simp)).trans (g8.ins.iar i hi)⟩
     ·rw [hw _ (by simp),Own.ab (by simp),Own.ab (by simp),Own.ab (by simp),Own.ag]
     ·rw [hw _ (by simp),Own.ab (by simp),Own.ab (by simp),Own.ag]
    ·rw [List.length_append,List.length_singleton] at hb
     have hr:=gz hq
     rw [far q (zg (by omega) hq) (by omega) (by rintro rfl;simp at hr;omega) (by rintro rfl;simp at hr)]
     exact g4.free b (by omega) q hq
 ·rintro _ h4 ⟨W4,vo,o4,V4,hW4,w4,g4⟩
  have hlP:((f.blocks.take n).map fewB)=(fewS f).blocks:=by rw [hn,jE];rfl
  rw [hlP] at g4
  have hvo:=(w4.cells g4.fno.blk).2
  simp
  rw [hz];clear hz z
  have c1:Un.ev (vw h4) (.an 2) (.pointer (some ⟨D,0,none⟩))=some (.agg #[.int .i64 f.params,vo]):=w4.dE (k:=(K+7,0)) (e:=T.aE) (B:=D) (l:=[.int .i64 f.params,vo]) (n:=1) g4.out
  simp [c1]
  refine w4.fG (k:=(K+7,1)) (e:=T.aE) (B:=R) (D:=RawN.mk (n:=1) [.int .i64 0,.slice none 0 0]) Part.all (d:=RawN.mk (n:=1) [.int .i64 f.params,vo]) g4.ret (by kernel_rfl) rfl rfl (eV rfl (by intro c hc;simp only [List.mem_cons,List.not_mem_nil,or_false] at hc;rcases hc with rfl | rfl<;>first | rfl | exact hvo)) fun h5 w5 _=>?_
  have c2:Un.ev (vw h5) (.an 2) (.pointer (some ⟨R,0,none⟩))=some (.agg #[.int .i64 f.params,vo]):=w5.dE (k:=(K+7,1)) (e:=T.aE) (B:=R) (l:=[.int .i64 f.params,vo]) (n:=1) Own.ag
  simp [c2]
  refine hK _ _ ⟨W4,fun q=>if q.1=K+7∨q.1=K+8∨q.1=K+9 then none else o4 q,vo,V4,View.le_trans hW1 hW4,w5.sub fun q i hq=>?_,fun q hq=>?_,fun q hq=>?_,?_,rfl,cpr⟩
  ·split at hq
   ·cases hq
   ·rename_i e
    rw [Own.ab (by rintro rfl;simp at e)];exact hq
  ·refine (if_neg (by omega)).trans (g4.frame q hq)
  ·exact if_pos (by omega)
  ·exact g4.fno.congr fun q h1 h2=>if_neg (by omega)
end Go.Proofs.Ytfelpjfopgiabaa
namespace Go.Proofs.Ytfelpjfopgiabaa
open Go Go.Lft
structure Wt (W:View) (h:Heap) (K:Nat) (ob:Own) (vb:Value) (V:Nat→Bv) (f:ak):Prop where
 ex : ∃ o,Owns W h o∧FnO K o vb V f∧∀ k:Key,(k.1<K∨K+6<k.1)→o k=ob k
section
variable {W:View} {h:Heap} {K:Nat} {ob:Own} {vb:Value} {V:Nat→Bv} {f:ak}
theorem Wt.wle (w:Wt W h K ob vb V f):W.le (vw h):=let ⟨_,w,_⟩:=w.ex;w.wle
theorem Wt.blks (w:Wt W h K ob vb V f):SlRd (vw h) vb f.blocks:=let ⟨_,w,g,_⟩:=w.ex;g.rd w
theorem Wt.rdF (w:Wt W h K ob vb V f) (hp:I64 f.params):Rd (vw h) (.agg #[.int .i64 f.params,vb]) f:=let ⟨_,w,g,_⟩:=w.ex;g.rdF w hp
theorem Wt.ext' (w:Wt W h K ob vb V f) {h':Heap} (hle:(vw h).le (vw h')):Wt W h' K ob vb V f:=let ⟨o,w,g,r⟩:=w.ex;⟨o,w.ext' hle,g,r⟩
theorem Wt.raw (w:Wt W h K ob vb V f) {k:Key} (hk:k.1<K∨K+6<k.1) {n:Nat} {e:TypeId} {B:Nat} {l:List Value} (hb:ob k=bx e B (RawN.mk (n:=n) l)) {i:Nat} (hi:i≤n):ao (vw h) ⟨B,i,none⟩=some (l.getD i undef):=
 let ⟨o,w,g,r⟩:=w.ex
 w.raw (k:=k) ((r k hk).trans hb) hi
theorem Wt.dE (w:Wt W h K ob vb V f) {k:Key} (hk:k.1<K∨K+6<k.1) {n:Nat} {e:TypeId} {B:Nat} {l:List Value} (hb:ob k=bx e B (RawN.mk (n:=n) l)):Un.ev (vw h) (.an (n+1)) (.pointer (some ⟨B,0,none⟩))=some (.agg l.toArray):=
 let ⟨o,w,g,r⟩:=w.ex
 w.dE (k:=k) ((r k hk).trans hb)
theorem FnO.cur {o:Own} {b:Nat} {d:BlkD} (g:FnO K o vb V (a7 f b d)) (hb:b<f.blocks.length):BO K o b (V b) d:=by
 have:=g.bo b (by rw [jS];exact hb)
 rw [lI hb,if_pos rfl] at this
 exact this
theorem Wt.blk (w:Wt W h K ob vb V f) {b:Nat} (hb:b<f.blocks.length):Un.ev (vw h) (.an 6) (.pointer (some ((slA vb).add (b*6))))=some (.agg #[(V b).p,(V b).i,.int .i64 (nth f.blocks b).term.kind,(V b).a,(V b).t,.int .i32 (nth f.blocks b).term.imm.v])∧(V b).p.oneCell'=true∧(V b).i.oneCell'=true∧(V b).a.oneCell'=true∧(V b).t.oneCell'=true:=by
 obtain ⟨o,w,g,r⟩:=w.ex
 have hl:b<(rows (fun b=>bkO (V b) (nth f.blocks b)) f.blocks.length).length:=by simpa using hb
 obtain ⟨u,hu,hr⟩:=Owns.ldW w g.blk rfl (N:=6) rfl hl
 rw [gJ hl] at hr
 obtain ⟨cs,rfl,c1,r1,e1,⟨q1,o1⟩,c2,r2,e2,⟨q2,o2⟩,c3,r3,e3,⟨q3,_⟩,c4,r4,e4,⟨q4,o4⟩,c5,r5,e5,⟨q5,o5⟩,q6,_⟩:=hr
 have q1:c1=[(V b).p]:=q1
 have q2:c2=[(V b).i]:=q2
 have q3:c3=[.int .i64 (nth f.blocks b).term.kind]:=q3
 have q4:c4=[(V b).a]:=q4
 have q5:c5=[(V b).t]:=q5
 have q6:r5=[.int .i32 (nth f.blocks b).term.imm.v]:=q6
 have he:cs.toList = #[(V b).p,(V b).i,Value.int .i64 (nth f.blocks b).term.kind,(V b).a,(V b).t,.int .i32 (nth f.blocks b).term.imm.v].toList:=by rw [e1,e2,e3,e4,e5,q1,q2,q3,q4,q5,q6];rfl
 exact ⟨by rw [hu,Array.toList_inj.1 he],o1,o2,o4,o5⟩
section
variable {b i:Nat} {d:BlkD}
theorem Wt.phN (w:Wt W h K ob vb V (a7 f b d)) (hb:b<f.blocks.length):SlRd (vw h) (V b).p (rows (phO (V b) d) d.phis.length):=let ⟨_,w,g,_⟩:=w.ex;w.now (g.cur hb).phis
theorem Wt.inN (w:Wt W h K ob vb V (a7 f b d)) (hb:b<f.blocks.length):SlRd (vw h) (V b).i (rows (inO (V b) d) d.ins.length):=let ⟨_,w,g,_⟩:=w.ex;w.now (g.cur hb).ins
theorem Wt.args (w:Wt W h K ob vb V (a7 f b d)) (hb:b<f.blocks.length):SlRd (vw h) (V b).a d.term.args:=let ⟨_,w,g,_⟩:=w.ex;w.now (g.cur hb).args
theorem Wt.to (w:Wt W h K ob vb V (a7 f b d)) (hb:b<f.blocks.length):SlRd (vw h) (V b).t d.term.to:=let ⟨_,w,g,_⟩:=w.ex;w.now (g.cur hb).to
theorem Wt.pin (w:Wt W h K ob vb V (a7 f b d)) (hb:b<f.blocks.length) (hi:i<d.phis.length):SlRd (vw h) ((V b).pin i) (nth d.phis i).ins:=let ⟨_,w,g,_⟩:=w.ex;w.now ((g.cur hb).pin i hi)
theorem Wt.iar (w:Wt W h K ob vb V (a7 f b d)) (hb:b<f.blocks.length) (hi:i<d.ins.length):SlRd (vw h) ((V b).iar i) (nth d.ins i).args:=let ⟨_,w,g,_⟩:=w.ex;w.now ((g.cur hb).iar i hi)
theorem Wt.phi (w:Wt W h K ob vb V (a7 f b d)) (hb:b<f.blocks.length) (hi:i<d.phis.length):ao (vw h) (((slA (V b).p).add (i*2)).add 0)=some (.int .i64 (nth d.phis i).dst)∧ao (vw h) (((slA (V b).p).add (i*2)).add 1)=some ((V b).pin i)∧I64 (nth d.phis i).dst:=by
 have hl:i<(rows (phO (V b) d) d.phis.length).length:=by simpa using hi
 have a:=(w.phN hb).at hl
 rw [gJ hl] at a
 have a1:=(a.part PhO.jh)
 have c1:ao (vw h) (((slA (V b).p).add (i*2)).add 0)=some (.int .i64 (nth d.phis i).dst):=a1.int
 exact ⟨c1,(a.part PhO.j0).raw,a1.rng⟩
theorem Wt.ins (w:Wt W h K ob vb V (a7 f b d)) (hb:b<f.blocks.length) (hi:i<d.ins.length):ao (vw h) (((slA (V b).i).add (i*5)).add 1)=some (.int .i64 (nth d.ins i).dst)∧ao (vw h) (((slA (V b).i).add (i*5)).add 2)=some (.int .i64 (nth d.ins i).two)∧ao (vw h) (((slA (V b).i).add (i*5)).add 3)=some ((V b).iar i)∧I64 (nth d.ins i).dst∧I64 (nth d.ins i).two:=by
 have hl:i<(rows (inO (V b) d) d.ins.length).length:=by simpa using hi
 have a:=(w.inN hb).at hl
 rw [gJ hl] at a
 exact ⟨(a.part InO.jh).int,(a.part InO.uC).int,(a.part InO.mC).raw,(a.part InO.jh).rng,(a.part InO.uC).rng⟩
theorem Wt.wr {h':Heap} {o:Own} (g:FnO K o vb V (a7 f b d)) (r : ∀ k:Key,(k.1<K∨K+6<k.1)→o k=ob k) (hb:b<f.blocks.length) {k:Key} {x:Option Lft.Item} {d':BlkD} (w:Owns W h' (o.upd k x)) (hk:OfB K b k) (ht:tmO (V b) d'=tmO (V b) d) (hd:BO K (o.upd k x) b (V b) d'):Wt W h' K ob vb V (a7 f b d'):=by
 refine ⟨_,w,?_,fun q hq=>?_⟩
 ·have:=g.wr (by rw [jS];exact hb) hk (fun _=>rfl) (by rw [lI hb,if_pos rfl];exact ht) hd
  rw [vN] at this
  exact this
 ·have:=gz hk
  rw [Own.ab (by rintro rfl;omega)];exact r q hq
variable {po:OP} {P:Program} {ty t:TypeId} {us:List (Nat × Value)} {x y:Operand} {Kc:Value→Heap→Prop} {v:Int}
theorem Wt.pe (w:Wt W h K ob vb V (a7 f b d)) (hb:b<f.blocks.length) (hi:i<d.phis.length) {k:Nat} (hk:k<(nth d.phis i).ins.length) {q:InD} {u:Value} (hsz:bX P t=some 2) (hx:asg us x = .pointer (some ((slA ((V b).pin i)).add (k*2)))) (hy:asg us y=u) (hr:Rd W u q)
  (hK : ∀ h',Wt W h' K ob vb V (a7 f b (cW d i ⟨(nth d.phis i).dst,(nth d.phis i).ins.set k q⟩))→Kc undef h'):@Lft.step po P (.store t x y) ty us h Kc:=by
 obtain ⟨o,w,g,r⟩:=w.ex
 refine w.iQ (k:=(K+5,pr b i)) (α:=InD) (v:=(V b).pin i) (l:=(nth d.phis i).ins) (i:=k) (d:=q) ((g.cur hb).pin i hi) hsz hx hy hk hr fun h' w' _=>hK h' ?_
 exact Wt.wr g r hb w' ofB5 rfl ((g.cur hb).EP hi fun _=>rfl)
theorem Wt.pf (w:Wt W h K ob vb V (a7 f b d)) (hb:b<f.blocks.length) (hi:i<d.phis.length) {k:Nat} (hk:k<(nth d.phis i).ins.length) (hsz:bX P t=some 1) (hx:asg us x = .pointer (some (((slA ((V b).pin i)).add (k*2)).add 0))) (hy:asg us y = .int .i64 v) (hv:I64 v)
  (hK : ∀ h',Wt W h' K ob vb V (a7 f b (cW d i ⟨(nth d.phis i).dst,(nth d.phis i).ins.set k ⟨v,(nth (nth d.phis i).ins k).val⟩⟩))→Kc undef h'):@Lft.step po P (.store t x y) ty us h Kc:=by
 obtain ⟨o,w,g,r⟩:=w.ex
 refine w.iX (k:=(K+5,pr b i)) (α:=InD) InD.zQ (v:=(V b).pin i) (l:=(nth d.phis i).ins) (i:=k) (d:=v) ((g.cur hb).pin i hi) hsz hx hy hk (cC.2 ⟨rfl,hv⟩) fun h' w' _=>hK h' ?_
 refine Wt.wr g r hb w' ofB5 rfl ((g.cur hb).EP hi fun _=>?_)
 rw [aq hk]
theorem Wt.tt (w:Wt W h K ob vb V (a7 f b d)) (hb:b<f.blocks.length) {k:Nat} (hk:k<d.term.to.length) (hsz:bX P t=some 1) (hx:asg us x = .pointer (some ((slA (V b).t).add k))) (hy:asg us y = .int .i64 v) (hv:I64 v)
  (hK : ∀ h',Wt W h' K ob vb V (a7 f b (ee d (d.term.to.set k v)))→Kc undef h'):@Lft.step po P (.store t x y) ty us h Kc:=by
 obtain ⟨o,w,g,r⟩:=w.ex
 refine w.iQ (k:=(K+4,b)) (α:=Int) (v:=(V b).t) (l:=d.term.to) (i:=k) (d:=v) (g.cur hb).to hsz (by rw [hx];rw [show k*Rep.n Int=k from Nat.mul_one k]) hy hk (cC.2 ⟨rfl,hv⟩) fun h' w' _=>hK h' ?_
 exact Wt.wr g r hb w' ofB4 rfl ((g.cur hb).GS fun _=>rfl)
end
end
section
variable {W:View} {h:Heap} {K:Nat} {ob:Own} {vb:Value} {V:Nat→Bv} {f:ak} {b i:Nat} {d:BlkD}
theorem Wt.ixB (w:Wt W h K ob vb V f) (hb:b<f.blocks.length):Bn.ev (.idx 6) vb (.int .i64 b)=some (.pointer (some ((slA vb).add (b*6)))):=
 w.blks.idxn (N:=6) rfl (Int.natCast_nonneg _) (by omega)
theorem Wt.ixP (w:Wt W h K ob vb V (a7 f b d)) (hb:b<f.blocks.length) (hi:i<d.phis.length):Bn.ev (.idx 2) (V b).p (.int .i64 i)=some (.pointer (some ((slA (V b).p).add (i*2)))):=
 (w.phN hb).idxn (N:=2) rfl (Int.natCast_nonneg _) (by simp;omega)
theorem Wt.ixT (w:Wt W h K ob vb V (a7 f b d)) (hb:b<f.blocks.length) {k:Nat} (hk:k<d.term.to.length):Bn.ev (.idx 1) (V b).t (.int .i64 k)=some (.pointer (some ((slA (V b).t).add k)))∧ao (vw h) ((slA (V b).t).add k)=some (.int .i64 (nth d.term.to k))∧I64 (nth d.term.to k):=
 ⟨(w.to hb).idx1 rfl (Int.natCast_nonneg _) (by omega),(w.to hb).int (View.le_refl _) hk,by have:=((w.to hb).at hk).rng;rw [aq hk];exact this⟩
theorem Wt.ixN (w:Wt W h K ob vb V (a7 f b d)) (hb:b<f.blocks.length) (hi:i<d.phis.length) {k:Nat} (hk:k<(nth d.phis i).ins.length):Bn.ev (.idx 2) ((V b).pin i) (.int .i64 k)=some (.pointer (some ((slA ((V b).pin i)).add (k*2))))∧ao (vw h) (((slA ((V b).pin i)).add (k*2)).add 0)=some (.int .i64 (nth (nth d.phis i).ins k).frm)∧ao (vw h) (((slA ((V b).pin i)).add (k*2)).add 1)=some (.int .i64 (nth (nth d.phis i).ins k).val)∧I64 (nth (nth d.phis i).ins k).frm∧I64 (nth (nth d.phis i).ins k).val:=by
 have a:=(w.pin hb hi).at hk
 rw [←aq hk] at a
 exact ⟨(w.pin hb hi).idxn (N:=2) rfl (Int.natCast_nonneg _) (by omega),(a.part InD.zQ).int,(a.part InD.rE).int,(a.part InD.zQ).rng,(a.part InD.rE).rng⟩
end
section
variable {W:View} {h:Heap} {K:Nat} {ob:Own} {vb:Value} {V:Nat→Bv} {f:ak} {b i:Nat} {d:BlkD}
theorem Wt.ldN (w:Wt W h K ob vb V (a7 f b d)) (hb:b<f.blocks.length) (hi:i<d.phis.length) {k:Nat} (hk:k<(nth d.phis i).ins.length) : ∃ u,Un.ev (vw h) (.an 2) (.pointer (some ((slA ((V b).pin i)).add (k*2))))=some u∧Rd W u (nth (nth d.phis i).ins k):=by
 obtain ⟨o,w,g,r⟩:=w.ex
 obtain ⟨u,h1,h2⟩:=Owns.ldW w ((g.cur hb).pin i hi) rfl (N:=2) rfl hk
 rw [←aq hk] at h2
 exact ⟨u,h1,h2⟩
theorem Wt.var {po po2:OP} {P:Program} {ty:TypeId} {us:List (Nat × Value)} {t ty2:TypeId} {α:Type} [Rep α] {n:Nat} {z u:Value} {d:α} {x y:Operand} {us2:Value→List (Nat × Value)} {Kc:Value→Heap→Prop} (w:Wt W h K ob vb V f) (k:Key) (hk:ob k=none) (hf:k.1<K∨K+6<k.1) (hr:Rd W u d) (hN:Rep.n α=n) (hz:(P.info? t).map (·.zero)=some (some z)) (hzc:z.cells.size=n) (hsz:bX P t=some n) (hn:n≤1000)
  (hx : ∀ p,asg (us2 p) x=p) (hy : ∀ p,asg (us2 p) y=u) (hK : ∀ h':Heap,(vw h).le (vw h')→Wt W h' K (ob.upd k (bx t h.size d)) vb V f→Kc (.pointer (some ⟨h.size,0,none⟩)) h') :
  @Lft.step po P (.alloc t) ty us h fun p h2=>@Lft.step po2 P (.store t x y) ty2 (us2 p) h2 fun _ h3=>Kc p h3:=by
 obtain ⟨o,w,g,r⟩:=w.ex
 refine w.zL (k:=k) ((r k hf).trans hk) hr hN hz hzc hsz hn hx hy fun h' q w'=>hK h' q ⟨_,w',g.upd hf,fun j hj=>?_⟩
 unfold Own.upd
 split
 ·rfl
 ·exact r j hj
theorem Wt.drop {k:Key} {x:Option Lft.Item} (w:Wt W h K (ob.upd k x) vb V f) (hk:ob k=none) (hf:k.1<K∨K+6<k.1):Wt W h K ob vb V f:=by
 obtain ⟨o,w,g,r⟩:=w.ex
 refine ⟨fun q=>if q=k then none else o q,w.sub fun q i hq=>?_,g.congr fun q h1 h2=>if_neg (by rintro rfl;omega),fun q hq=>?_⟩
 ·split at hq
  ·cases hq
  ·exact hq
 ·by_cases e:q=k
  ·exact (if_pos e).trans (by rw [e];exact hk.symm)
  ·exact (if_neg e).trans (by rw [r q hq,Own.ab e])
theorem Wt.ld (w:Wt W h K ob vb V f) {k:Key} (hf:k.1<K∨K+6<k.1) {α:Type} [Rep α] {e:TypeId} {B:Nat} {d:α} (hk:ob k=bx e B d) (ha:Rep.agg α=true) {N:Nat} (hn:Rep.n α=N) : ∃ u,Un.ev (vw h) (.an N) (.pointer (some ⟨B,0,none⟩))=some u∧Rd W u d:=by
 obtain ⟨o,w,g,r⟩:=w.ex
 obtain ⟨u,h1,h2⟩:=Owns.ldW w (k:=k) (v:=.slice (some ⟨B,0,none⟩) 1 1) (l:=[d]) ((r k hf).trans hk) ha hn (i:=0) (by simp)
 exact ⟨u,by simpa [slA] using h1,h2⟩
end
def fW {α:Type} [Inhabited α] (g:α→α) (l:List α) (k:Nat):List α:=rows (fun i=>if i<k then g (nth l i) else nth l i) l.length
section
variable {α:Type} [Inhabited α] {g:α→α} {l:List α} {k:Nat}
theorem mZ:(fW g l k).length=l.length:=by simp [fW]
theorem sJ:fW g l 0=l:=by
 unfold fW
 refine List.ext_getElem (by simp) fun i h1 h2=>?_
 rw [gJ,if_neg (Nat.not_lt_zero _),aq h2]
theorem uN:fW g l l.length=l.map g:=by
 unfold fW
 refine List.ext_getElem (by simp) fun i h1 h2=>?_
 have hi:i<l.length:=by simpa using h2
 rw [gJ,if_pos hi,aq hi,List.getElem_map]
theorem Bo {i:Nat} (hi:i<l.length):nth (fW g l k) i=if i<k then g (nth l i) else nth l i:=by unfold fW;exact dq hi
theorem tK (hk:k<l.length):nth (fW g l k) k=nth l k:=by rw [Bo hk,if_neg (Nat.lt_irrefl _)]
theorem ru (hk:k<l.length):(fW g l k).set k (g (nth l k))=fW g l (k+1):=by
 unfold fW
 refine mh hk (by rw [if_pos (Nat.lt_succ_self k)]) fun j hj hne=>?_
 by_cases h:j<k
 ·rw [if_pos h,if_pos (by omega)]
 ·rw [if_neg h,if_neg (by omega)]
end
end Go.Proofs.Ytfelpjfopgiabaa
namespace Go.Proofs.Ytfelpjfopgiabaa
open Go Go.Lft
section
variable {f:ak} {b i:Nat}
theorem wT:jm f (phiT f b i)=false:=by
 refine decide_eq_false ?_
 show ¬(-1-(i:Int)=((fE f (phiT f b i)).ins.length:Nat))
 omega
theorem xD (hi:i<(nth f.blocks b).ins.length):jm f (insT f b i)=false:=by
 refine decide_eq_false ?_
 show ¬((i:Int)=((nth f.blocks ((b:Nat):Int).toNat).ins.length:Nat))
 rw [Int.toNat_natCast]
 omega
theorem xi:jm f (endT f b)=true:=by
 refine decide_eq_true ?_
 show (((nth f.blocks b).ins.length:Nat):Int)=((nth f.blocks ((b:Nat):Int).toNat).ins.length:Nat)
 rw [Int.toNat_natCast]
theorem DW:kz f (phiT f b i)=false:=by
 have h:decide (0≤(phiT f b i).place)=false:=decide_eq_false (by show ¬(0:Int)≤-1-(i:Int);omega)
 unfold kz
 rw [h];rfl
theorem vO (hi:i<(nth f.blocks b).ins.length):kz f (insT f b i)=true∧oO f (insT f b i)=nth (nth f.blocks b).ins i:=by
 refine ⟨(Bool.and_eq_true _ _).mpr ⟨decide_eq_true (Int.natCast_nonneg _),decide_eq_true ?_⟩,?_⟩
 ·show (i:Int)<((nth f.blocks ((b:Nat):Int).toNat).ins.length:Nat)
  rw [Int.toNat_natCast];omega
 ·show nth (nth f.blocks ((b:Nat):Int).toNat).ins ((i:Nat):Int).toNat=_
  rw [Int.toNat_natCast,Int.toNat_natCast]
theorem DG:kz f (endT f b)=false:=by
 have h:decide ((endT f b).place<((fE f (endT f b)).ins.length:Nat))=false:=decide_eq_false (by show ¬(((nth f.blocks b).ins.length:Nat):Int)<((nth f.blocks ((b:Nat):Int).toNat).ins.length:Nat);rw [Int.toNat_natCast];omega)
 unfold kz
 rw [h]
 exact Bool.and_false _
theorem uW:fE f (endT f b)=nth f.blocks b:=by
 show nth f.blocks ((b:Nat):Int).toNat=_
 rw [Int.toNat_natCast]
theorem wV (h : ∀ n∈(phiT f b i).mks,f.params≤n∧n≤8191):jG f (phiT f b i):=
 ⟨fun c=>(by rw [DW] at c;cases c),fun c=>(by rw [wT] at c;cases c),h,fun c=>(by rw [wT] at c;cases c)⟩
theorem xa (hi:i<(nth f.blocks b).ins.length) (ho:kg (nth (nth f.blocks b).ins i)=false) (h : ∀ n∈(insT f b i).mks,f.params≤n∧n≤8191):jG f (insT f b i):=
 ⟨fun _=>(by rw [(vO hi).2];exact ho),fun c=>(by rw [xD hi] at c;cases c),h,fun c=>(by rw [xD hi] at c;cases c)⟩
theorem sN (ht:jg (nth f.blocks b).term=true) (h : ∀ n∈(nth f.blocks b).term.to,1≤n∧n<f.blocks.length):jG f (endT f b):=
 ⟨fun c=>(by rw [DG] at c;cases c),fun _=>(by rw [uW];exact ht),fun n hn=>(by cases hn),fun _=>(by rw [uW];exact h)⟩
theorem jK.phiG (m:jK f) (hb:b<f.blocks.length) (hi:i<(nth f.blocks b).phis.length):jG f (phiT f b i):=m.good _ (cU.2 ⟨b,hb,dw.2 (.inl ⟨i,hi,rfl⟩)⟩)
theorem jK.insG (m:jK f) (hb:b<f.blocks.length) (hi:i<(nth f.blocks b).ins.length):jG f (insT f b i)∧kg (nth (nth f.blocks b).ins i)=false:=by
 have g:=m.good _ (cU.2 ⟨b,hb,dw.2 (.inr (.inl ⟨i,hi,rfl⟩))⟩)
 exact ⟨g,by have:=g.op (vO hi).1;rwa [(vO hi).2] at this⟩
theorem jK.endG (m:jK f) (hb:b<f.blocks.length):jg (nth f.blocks b).term=true∧∀ n∈(nth f.blocks b).term.to,1≤n∧n<f.blocks.length:=by
 have g:=m.good _ (cU.2 ⟨b,hb,dw.2 (.inr (.inr rfl))⟩)
 have h1:=g.term xi
 have h2:=g.to xi
 rw [uW] at h1 h2
 exact ⟨h1,h2⟩
end
def newT (N n i:Nat):dk:=if i+1<n then ⟨1,[],[((N+i+1:Nat):Int)],⟨0⟩⟩ else ⟨5,[],[],⟨7⟩⟩
def newB (N n i:Nat):BlkD:=⟨[],[],newT N n i⟩
structure Mo (f g:ak) (n:Nat):Prop where
 params:g.params=f.params
 len:g.blocks.length=f.blocks.length+n
 phis : ∀ c,c<f.blocks.length→(nth g.blocks c).phis=(nth f.blocks c).phis
 ins : ∀ c,c<f.blocks.length→(nth g.blocks c).ins=(nth f.blocks c).ins
 term : ∀ c,c<f.blocks.length→(nth g.blocks c).term=(nth f.blocks c).term∨((nth f.blocks c).term.to=[]∧(nth g.blocks c).term=⟨1,[],[(f.blocks.length:Int)],⟨0⟩⟩)
 new : ∀ i,i<n→nth g.blocks (f.blocks.length+i)=newB f.blocks.length n i
section
variable {f g:ak} {n:Nat}
theorem Mo.phiT (m:Mo f g n) {c:Nat} (hc:c<f.blocks.length) (i:Nat):phiT g c i=phiT f c i:=by unfold Go.Proofs.Ytfelpjfopgiabaa.phiT;rw [m.phis c hc]
theorem Mo.insT (m:Mo f g n) {c:Nat} (hc:c<f.blocks.length) (i:Nat):insT g c i=insT f c i:=by unfold Go.Proofs.Ytfelpjfopgiabaa.insT;rw [m.ins c hc]
theorem Mo.good (m:Mo f g n) (mb:jK f) (hn:1≤n) : ∀ t∈ar g,jG g t:=by
 intro t ht
 obtain ⟨c,hc,hm⟩:=cU.1 ht
 rw [m.len] at hc
 rcases Nat.lt_or_ge c f.blocks.length with h | h
 ·rcases dw.1 hm with ⟨i,hi,rfl⟩ | ⟨i,hi,rfl⟩ | rfl
  ·rw [m.phis c h] at hi
   refine wV fun k hk=>?_
   rw [m.phiT h] at hk
   rw [m.params];exact (mb.phiG h hi).mks k hk
  ·refine xa hi ?_ fun k hk=>?_
   ·rw [m.ins c h] at hi ⊢;exact (mb.insG h hi).2
   ·rw [m.ins c h] at hi
    rw [m.insT h] at hk
    rw [m.params];exact (mb.insG h hi).1.mks k hk
  ·obtain ⟨e1,e2⟩:=mb.endG h
   refine sN ?_ fun k hk=>?_
   ·rcases m.term c h with e | ⟨_,e⟩
    ·rw [e];exact e1
    ·rw [e];rfl
   ·rw [m.len]
    rcases m.term c h with e | ⟨_,e⟩
    ·rw [e] at hk;have:=e2 k hk;omega
    ·rw [e] at hk
     have:=List.mem_singleton.1 hk
     have:=mb.blocks.1
     omega
 ·obtain ⟨i,rfl⟩ : ∃ i,c=f.blocks.length+i:=⟨c-f.blocks.length,by omega⟩
  have hi:i<n:=by omega
  have e:=m.new i hi
  rcases dw.1 hm with ⟨j,hj,rfl⟩ | ⟨j,hj,rfl⟩ | rfl
  ·rw [e] at hj;exact absurd hj (Nat.not_lt_zero _)
  ·rw [e] at hj;exact absurd hj (Nat.not_lt_zero _)
  ·refine sN ?_ fun k hk=>?_
   ·rw [e];unfold newB newT;dsimp only;split<;>rfl
   ·rw [e] at hk
    unfold newB newT at hk
    dsimp only at hk
    split at hk
    ·have:=List.mem_singleton.1 hk
     rw [m.len];omega
    ·cases hk
theorem En {N n i:Nat} {k:Int} (h:k∈(newT N n i).to):k=((N+i+1:Nat):Int):=by
 unfold newT at h
 split at h
 ·exact List.mem_singleton.1 h
 ·cases h
theorem Mo.G6 (m:Mo f g n) {a:Int} {c:Nat} (h:Re (ofG g.blocks) a c):c<f.blocks.length→Re (ofG f.blocks) a c:=by
 induction h with
 | root h0 h1=>exact fun hc=>.root (by rw [gy];exact hc) h1
 | @step x c hx he hne ih=>
  intro hc
  obtain ⟨hr,hm⟩:=gk.1 he
  rw [Int.toNat_natCast] at hm
  rw [m.len] at hr
  rcases Nat.lt_or_ge x f.blocks.length with h | h
  ·rcases m.term x h with e | ⟨_,e⟩
   ·rw [e] at hm
    exact .step (ih h) (gk.2 ⟨⟨by omega,by omega,by omega,by omega⟩,by rw [Int.toNat_natCast];exact hm⟩) hne
   ·rw [e] at hm
    have:=List.mem_singleton.1 hm
    omega
  ·obtain ⟨i,rfl⟩ : ∃ i,x=f.blocks.length+i:=⟨x-f.blocks.length,by omega⟩
   rw [m.new i (by omega)] at hm
   have:=En hm
   omega
theorem Mo.pH (m:Mo f g n) {v:Int} {c:Nat} {p:Int} (hc:c<f.blocks.length) (h:gN f v c p):gN g v c p:=by
 rcases h with h | ⟨t,ht,hv,h⟩
 ·exact .inl (by rw [m.params];exact h)
 ·refine .inr ⟨t,?_,hv,?_⟩
  ·obtain ⟨d,hd,hm⟩:=cU.1 ht
   refine cU.2 ⟨d,by rw [m.len];omega,dw.2 ?_⟩
   rcases dw.1 hm with ⟨i,hi,rfl⟩ | ⟨i,hi,rfl⟩ | rfl
   ·exact .inl ⟨i,by rw [m.phis d hd];exact hi,(m.phiT hd i).symm⟩
   ·exact .inr (.inl ⟨i,by rw [m.ins d hd];exact hi,(m.insT hd i).symm⟩)
   ·cases hv
  ·rcases h with h | ⟨h1,h2⟩
   ·exact .inl h
   ·refine .inr ⟨h1,fun h=>h2 (m.G6 h ?_)⟩
    rw [Int.toNat_natCast];exact hc
end
end Go.Proofs.Ytfelpjfopgiabaa
namespace Go.Proofs.Ytfelpjfopgiabaa
open Go Go.Lft
structure Wy (f:ak) (P:Int→Prop) (frm:Int) (b:Nat):Prop where
 lt:b<f.blocks.length
 way:(frm=-1∧b=0)∨(P frm∧0≤frm∧frm<f.blocks.length∧(b:Int)∈(nth f.blocks frm.toNat).term.to∧∀ c:Int,¬P c→Re (ofG f.blocks) c frm.toNat)
def Sa (f:ak) (P:Int→Prop) (v:Int):Prop:=(0≤v∧v<f.params)∨∃ t∈ar f,v∈t.mks∧P t.blk
def Sb (f:ak) (P:Int→Prop) (b:Nat) (k:Int) (v:Int):Prop:=Sa f P v∨∃ t∈ar f,v∈t.mks∧t.blk=b∧(t.place<0∨t.place<k)
section
variable {f:ak} {P:Int→Prop} {frm:Int} {b:Nat}
theorem Wy.re (w:Wy f P frm b) {c:Int} (hc:¬P c) (hb:(b:Int)≠c):Re (ofG f.blocks) c b:=by
 have hl:=w.lt
 rcases w.way with ⟨_,rfl⟩ | ⟨h1,h2,h3,h4,h5⟩
 ·exact .root (by rw [gy];exact hl) (fun e=>hb (by rw [e];rfl))
 ·refine .step (h5 c hc) ?_ hb
  rw [gk]
  rw [Int.toNat_of_nonneg h2]
  exact ⟨⟨h2,h3,by omega,by omega⟩,h4⟩
theorem Sa.rng (m:jK f) {v:Int} (h:Sa f P v):0≤v∧v<8192:=by
 have:=m.params
 rcases h with h | ⟨t,ht,hv,_⟩
 ·omega
 ·have:=(m.good t ht).mks v hv;omega
theorem gN.rng (m:jK f) {v b p:Int} (h:gN f v b p):0≤v∧v<8192:=by
 have:=m.params
 rcases h with h | ⟨t,ht,hv,_⟩
 ·omega
 ·have:=(m.good t ht).mks v hv;omega
theorem Wy.pH (w:Wy f P frm b) {v p:Int} (h:gN f v b p):Sb f P b p v:=by
 rcases h with c | ⟨t,ht,hv,g⟩
 ·exact .inl (.inl c)
 rcases g with ⟨g1,g2⟩ | ⟨g1,g2⟩
 ·exact .inr ⟨t,ht,hv,g1,g2⟩
 ·exact .inl (.inr ⟨t,ht,hv,Classical.byContradiction fun hn=>g2 (w.re hn (fun e=>g1 e.symm))⟩)
theorem Wy.term (m:jK f) (w:Wy f P frm b) {v:Int} (hv:v∈(nth f.blocks b).term.args):Sb f P b ((nth f.blocks b).ins.length:Nat) v∧0≤v∧v<8192:=by
 have h:=m.takes (endT f b) (cU.2 ⟨b,w.lt,dw.2 (.inr (.inr rfl))⟩) (Int.natCast_nonneg _) v hv
 exact ⟨w.pH h,h.rng m⟩
theorem Wy.dst (m:jK f) (w:Wy f P frm b) {i:Nat} (hi:i<(nth f.blocks b).phis.length):0≤(nth (nth f.blocks b).phis i).dst∧(nth (nth f.blocks b).phis i).dst<8192:=by
 have h:=(m.good (phiT f b i) (cU.2 ⟨b,w.lt,dw.2 (.inl ⟨i,hi,rfl⟩)⟩)).mks _ (List.mem_singleton.2 rfl)
 have:=m.params
 omega
end
end Go.Proofs.Ytfelpjfopgiabaa
namespace Go.Proofs.Ytfelpjfopgiabaa
open Go Go.Lft
section
variable {f:ak} {g:Int→Int} {b i:Nat}
end
theorem xh {f:ak}:topS f=(iH (ar f)).foldl dV (iV f.params):=by
 unfold topS iH
 generalize iV f.params=t
 generalize ar f=l
 induction l generalizing t with
 | nil=>rfl
 | cons a l ih=>rw [List.foldl_cons,List.flatMap_cons,List.foldl_append];exact ih _
end Go.Proofs.Ytfelpjfopgiabaa
