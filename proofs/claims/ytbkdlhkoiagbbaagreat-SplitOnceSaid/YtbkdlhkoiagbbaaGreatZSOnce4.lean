/- A part of the proof: Mg, Mh, Mi, Rb, Rc, Rd, Rf, Rg, Rh, Mj, Mk, Ml, Mm, Mn, Mo, Mp, Mq, Mr, Ms, Mt, Mu, Mv, Mw, Mx, My. -/
import Derived.Test.YtbkdlhkoiagbbaaGreatZSOnce3
set_option linter.unusedSimpArgs false
set_option linter.unusedVariables false
namespace Go.Proofs.YtbkdlhkoiagbbaaGreat
open Go Go.Lft
section
variable {s:List Int} {M:Nat} {vs:Value} {W0:View} {h:Heap} {o0:Own} {m:MS} {u:Value} {ds:List Int}
theorem Nz.le (n:Nz s M vs W0 h o0 m u ds):W0.le (vw h):=by
 obtain⟨W,o,h1,h2,_⟩:=n
 exact View.le_trans h1 h2.own.wle
theorem Nz.base(n:Nz s M vs W0 h o0 m u ds): ∃W o,Nz s M vs W h o m u ds∧SlRd W u ds∧∀{h' m' u' ds'},Nz s M vs W h' o m' u' ds'→Nz s M vs W0 h' o0 m' u' ds':=by
 obtain⟨W,o,h1,h2,h3,h4⟩:=n
 refine⟨W,o,⟨W,o,View.le_refl _,h2,fun _ _=>rfl,h4⟩,h4,?_⟩
 rintro h' m' u' ds' ⟨W',o',g1,g2,g3,g4⟩
 exact⟨W',o',View.le_trans h1 g1,g2,fun k hk=>(g3 k hk).trans (h3 k hk),g4⟩
end
theorem Ev{H:View}{B n:Nat}{l:List Int}{t:TypeId}(hb:H B=some (.cells (l.map fun x=>Value.int .i64 x).toArray t (0,0)))(hn:l.length=n)(h1:0<n∧n≤1000)(hr : ∀x∈l,I64 x):SlRd H (.slice (some ⟨B,0,none⟩) n n) l:=by
 refine⟨some ⟨B,0,none⟩,n,by rw[hn],by omega,by omega,.inr ⟨⟨B,0,none⟩,rfl,rfl,fun i hi=>?_⟩⟩
 have e:(⟨B,0,none⟩:Addr).add (i*Rep.n Int)=⟨B,i,none⟩:=by
  show(⟨B,0,none⟩:Addr).add (i*1)=_
  simp
 rw[e]
 refine⟨[.int .i64 l[i]],⟨_,t,(0,0),rfl,hb,?_⟩,(dR (v:=.int .i64 l[i]) (H:=H)).2 ⟨rfl,hr _ (List.getElem_mem hi)⟩ |> fun q=>?_⟩
 ·show((l.map fun x=>Value.int .i64 x).toArray.toList.drop i).take 1=_
  rw[List.toList_toArray,List.drop_eq_getElem_cons (by simpa using hi)]
  simp
 ·exact⟨rfl,hr _ (List.getElem_mem hi)⟩
theorem C1: ∀x∈opsL,I64 x:=by
 intro x hx
 have : ∀x∈opsL,0≤x∧x≤12:=by decide
 have:=this x hx
 exact⟨by omega,by omega⟩
theorem MkB.frame{M:Nat}{vs:Value}{m:MS}{o o':Own}{vb vl:Value}{lb:List BlkM}(b:MkB M vs m o vb vl lb)(hf : ∀k:Key,k.1<3→o' k=o k):MkB M vs m o' vb vl lb:=
 ⟨(hf _ (by decide)).trans b.box,(hf _ (by decide)).trans b.live,(hf _ (by decide)).trans b.blk,b.len,b.term,fun i hi=>(hf _ (by show 1<3;decide)).trans (b.phis i hi),fun i hi=>(hf _ (by show 2<3;decide)).trans (b.ins i hi)⟩
variable{b:Nat}
theorem yH{s:List Int}{x:List Int × MS}: ∀k,(up (eW s b) k x).2.blocks.length=x.2.blocks.length:=by
 intro k
 induction k with
 | zero=>rfl
 | succ k ih=>
  show(aA s (up (eW s b) k x).2 b).2.blocks.length=_
  rw[dA,ih]
theorem A8{s:List Int}{c:Nat}{x:List Int × MS}(hx:x.2.ok c): ∀k,(up (eW s b) k x).2.ok (c+10*k)∧(up (eW s b) k x).1.length=x.1.length+k∧(up (eW s b) k x).2.blocks.length=x.2.blocks.length:=by
 intro k
 induction k with
 | zero=>exact⟨hx,rfl,rfl⟩
 | succ k ih=>
  obtain⟨h1,h2,h3⟩:=ih
  refine⟨(h1.aA).mono (by omega),?_,?_⟩
  ·show((up (eW s b) k x).1++[_]).length=_
   rw[List.length_append,h2,List.length_singleton];omega
  ·show(aA s (up (eW s b) k x).2 b).2.blocks.length=_
   rw[dA,h3]
theorem te{s:List Int}{M:Nat}{vs:Value}{W0:View}{h:Heap}{o0:Own}{m:MS}(n:Nx s M vs W0 h o0 m){c:Nat}(hb:b<m.blocks.length)(hm:m.ok c)(hc:c≤800000)(hfree:o0 (9,0)=none):
  aB Tryz.prog N.aZ #[.pointer (some ⟨M,0,none⟩),.int .i64 b] h (fun v h'=>Nx s M vs W0 h' o0 (aC s b m)):=by
 refine ao (args:=[.pointer (some ⟨M,0,none⟩),.int .i64 b]) follows F.aZ E.aZ (Nat.le_of_ble_eq_true (by kernel_rfl)) fun K hK=>?_
 dsimp only[L.aZ]
 have n:=n.z
 have hmm:aC s b m=_:=aC.eq_1 s b m
 refine aa fun z hz=>?_
 simp
 refine af (by kernel_rfl) (eH n hm (by omega) (k:=20) (by decide) (by decide)) ?_
 rintro _ h1 ⟨rfl,n⟩
 obtain⟨k0,k1⟩:=bj (s:=s) (at_:=m.at_) (n:=20) (by decide)
 have q:=hm.took
 have hb1:b<m.took.blocks.length:=hb
 rw[hz];clear hz z
 generalize az s m.at_ 20=k at hmm k0 k1
 generalize hm1:m.took=m1 at hmm n q hb1
 have hw:iG s m1=iG s m1:=rfl
 simp only[aJ]
 refine aa fun z hz=>?_
 simp
 rw[hz];clear hz z
 by_cases c1:k<12
 ·rw[if_pos c1]at hmm
  refine a8 (by simp[c1]) ?_
  obtain⟨kn,rfl⟩ : ∃kn:Nat,k=kn:=⟨k.toNat,by omega⟩
  have hkn:kn<12:=by omega
  refine aa fun z hz=>?_
  simp
  have hcs:(#[.int .i64 2,.int .i64 2,.int .i64 3,.int .i64 4,.int .i64 5,.int .i64 6,.int .i64 7,.int .i64 8,.int .i64 9,.int .i64 10,.int .i64 12,.int .i64 11]:Array Value)=(opsL.map fun x=>Value.int .i64 x).toArray:=rfl
  refine aS (z:=.agg #[.int .i64 0,.int .i64 0,.int .i64 0,.int .i64 0,.int .i64 0,.int .i64 0,.int .i64 0,.int .i64 0,.int .i64 0,.int .i64 0,.int .i64 0,.int .i64 0]) (places:=[(0,1),(1,1),(2,1),(3,1),(4,1),(5,1),(6,1),(7,1),(8,1),(9,1),(10,1),(11,1)]) (vs:=[(0,.int .i64 2),(1,.int .i64 2),(2,.int .i64 3),(3,.int .i64 4),(4,.int .i64 5),(5,.int .i64 6),(6,.int .i64 7),(7,.int .i64 8),(8,.int .i64 9),(9,.int .i64 10),(10,.int .i64 12),(11,.int .i64 11)])
   (cs:=#[.int .i64 2,.int .i64 2,.int .i64 3,.int .i64 4,.int .i64 5,.int .i64 6,.int .i64 7,.int .i64 8,.int .i64 9,.int .i64 10,.int .i64 12,.int .i64 11]) (by kernel_rfl) (by kernel_rfl) (by simp) (by rfl) ?_
  refine jA (v:=.agg #[.int .i64 2,.int .i64 2,.int .i64 3,.int .i64 4,.int .i64 5,.int .i64 6,.int .i64 7,.int .i64 8,.int .i64 9,.int .i64 10,.int .i64 12,.int .i64 11]) (z:=.agg #[.int .i64 0,.int .i64 0,.int .i64 0,.int .i64 0,.int .i64 0,.int .i64 0,.int .i64 0,.int .i64 0,.int .i64 0,.int .i64 0,.int .i64 0,.int .i64 0]) (n:=12) (by kernel_rfl) rfl (by kernel_rfl) rfl (by simp[Value.cells,Value.oneCell']) (fun _=>by simp) (fun _=>by simp) fun h2 hle2 hs2 hb2=>?_
  have n:Nz s M vs W0 h2 o0 m1 (.slice (some ⟨h1.size,0,none⟩) 12 12) opsL:=by
   obtain⟨W,o,g1,g2,g3,g4⟩:=n
   refine⟨_,o,View.le_trans g1 (cy g2.own.wle),⟨g2.own.ext hle2,g2.src.mono (cy g2.own.wle),g2.box⟩,g3,?_⟩
   have hg:grow W h1 h2 h1.size=some (.cells (opsL.map fun x=>Value.int .i64 x).toArray T.FB (0,0)):=by
    rw[iJ (Nat.le_refl _),hb2];rfl
   exact Ev hg rfl (by decide) C1
  generalize h1.size=B at n
  rw[hz];clear hz z
  refine aa fun z hz=>?_
  simp
  refine af (by kernel_rfl) (iy n hb1 q (by omega)) ?_
  rintro _ h3 ⟨⟨rfl,i2⟩,n⟩
  have q:=q.aA (s:=s) (b:=b)
  have hb2:b<(aA s m1 b).2.blocks.length:=by rw[dA];exact hb1
  simp only[binS]at hmm
  generalize aA s m1 b=r1 at hmm n q hb2 i2
  rw[hz];clear hz z
  refine aa fun z hz=>?_
  simp
  refine af (by kernel_rfl) (iy n hb2 q (by omega)) ?_
  rintro _ h4 ⟨⟨rfl,i3⟩,n⟩
  have q:=q.aA (s:=s) (b:=b)
  have hb3:b<(aA s r1.2 b).2.blocks.length:=by rw[dA];exact hb2
  generalize aA s r1.2 b=r2 at hmm n q hb3 i3
  rw[hz];clear hz z
  refine aa fun z hz=>?_
  have fin : ∀(e:Int) (m3:MS) (h':Heap) (ρ:Env),aC s b m=m3.two b (nth opsL kn) r1.1 e→I64 e→m3.ok (c+60)→b<m3.blocks.length→Nz s M vs W0 h' o0 m3 (.slice (some ⟨B,0,none⟩) 12 12) opsL→Lft.look ρ 0=some (.pointer (some ⟨M,0,none⟩))→Lft.look ρ 1=some (.int .i64 b)→Lft.look ρ 4=some (.int .i64 kn)→Lft.look ρ 5=some (.pointer (some ⟨B,0,none⟩))→Lft.look ρ 6=some (.int .i64 r1.1)→Lft.look ρ 7=some (.int .i64 e)→LC.wp Tryz.prog z (dV 0 (eQ [] K)) ρ h':=by
   intro e m3 h' ρ hmm ie q hb n r0 r1' r4 r5 r6 r7
   rw[hz];clear hz z
   obtain⟨W,o,n,sl,back⟩:=n.base
   have iop:=sl.range (i:=kn) (by show kn<12;omega)
   have hop:an W ⟨B,kn,none⟩=some (.int .i64 (nth opsL kn)):=by
    have:=sl.int (View.le_refl W) (i:=kn) (by show kn<12;omega)
    simpa[slA]using this
   have hix:Bn.ev (.aidx 12 1) (.pointer (some ⟨B,0,none⟩)) (.int .i64 kn)=some (.pointer (some ⟨B,kn,none⟩)):=by
    simp only[Bn.ev,vP,vI,Option.bind_some]
    rw[if_pos ⟨by omega,by omega⟩]
    simp
   generalize nth opsL kn=op at hmm iop hop
   refine cH W n.le ?_
   simp[aj,al,r0,r1',r4,r5,r6,r7,hix,hop]
   constructor
   ·refine af (by kernel_rfl) (gn n q (by omega)) ?_
    rintro _ h4 ⟨rfl,n⟩
    refine⟨n.le,?_⟩
    refine n.lit (ls:=[r1.1,e]) (by simp) (by simp[i2,ie]) rfl (by decide) fun ua un uc h5 _ n=>⟨n.le,?_⟩
    refine aS (z:=.agg #[.int .i64 0,.int .i64 0,.int .i64 0,.slice none 0 0,.int .i32 0]) (places:=[(0,1),(1,1),(2,1),(3,1),(4,1)]) (vs:=[(0,.int .i64 op),(1,.int .i64 m3.next),(3,.slice ua un uc)]) (cs:=#[.int .i64 op,.int .i64 m3.next,.int .i64 0,.slice ua un uc,.int .i32 0]) (by kernel_rfl) (by kernel_rfl) (by simp) (by rfl) ?_
    refine af (by kernel_rfl) (jZ n (b:=b) hb q.aG (by omega) iop (q.jf (by omega)) i64c (by decide)) ?_
    rintro _ h6 n
    exact hK _ _ (by rw[hmm];exact(back n.z).x)
   ·refine n.lit (ls:=[r1.1,e]) (by simp) (by simp[i2,ie]) rfl (by decide) fun ua un uc h5 _ n=>⟨n.le,?_⟩
    refine af (by kernel_rfl) (gn n q (by omega)) ?_
    rintro _ h4 ⟨rfl,n⟩
    refine⟨n.le,?_⟩
    refine aS (z:=.agg #[.int .i64 0,.int .i64 0,.int .i64 0,.slice none 0 0,.int .i32 0]) (places:=[(0,1),(1,1),(2,1),(3,1),(4,1)]) (vs:=[(0,.int .i64 op),(1,.int .i64 m3.next),(3,.slice ua un uc)]) (cs:=#[.int .i64 op,.int .i64 m3.next,.int .i64 0,.slice ua un uc,.int .i32 0]) (by kernel_rfl) (by kernel_rfl) (by simp) (by rfl) ?_
    refine af (by kernel_rfl) (jZ n (b:=b) hb q.aG (by omega) iop (q.jf (by omega)) i64c (by decide)) ?_
    rintro _ h6 n
    exact hK _ _ (by rw[hmm];exact(back n.z).x)
  refine aa fun y hy=>?_
  simp
  refine af (by kernel_rfl) (eH n q (by omega) (k:=3) (by decide) (by decide)) ?_
  rintro _ h5 ⟨rfl,n⟩
  simp
  rw[hy];clear hy y
  by_cases c4:az s r2.2.at_ 3=0
  ·rw[if_pos c4]at hmm
   refine a8 (by simp[c4]) ?_
   simp
   refine af (by kernel_rfl) (eH n q.took (by omega) (k:=40) (by decide) (by decide)) ?_
   rintro _ h6 ⟨rfl,n⟩
   have hx:r2.2.took.at_=r2.2.at_+1:=rfl
   rw[hx]
   simp
   refine af (by kernel_rfl) (fO n (b:=b) hb3 q.took.took (by omega) (k:=IntKind.i32.wrap (IntKind.i64.wrap (az s (r2.2.at_+1) 40-8))) kZ) ?_
   rintro _ h7 ⟨rfl,n⟩
   refine fin r2.2.next _ h7 _ hmm (q.jf (by omega)) (q.took.took.constant.mono (by omega)) (by rw[dx];exact hb3) n ?_ ?_ ?_ ?_ ?_ ?_
   all_goals simp
   rfl
  ·rw[if_neg c4]at hmm
   refine aX (by simp[c4]) ?_
   simp
   refine fin r2.1 _ h5 _ hmm i3 (q.took.mono (by omega)) hb3 n ?_ ?_ ?_ ?_ ?_ ?_
   all_goals simp
 rw[if_neg c1]at hmm
 refine aX (by simp[c1]) ?_
 refine aa fun z hz=>?_
 simp
 rw[hz];clear hz z
 by_cases c2:k=12
 ·rw[if_pos c2]at hmm
  refine a8 (by simp[c2]) ?_
  refine aa fun z hz=>?_
  simp
  refine af (by kernel_rfl) (iy n hb1 q (by omega)) ?_
  rintro _ h2 ⟨⟨rfl,i2⟩,n⟩
  have q:=q.aA (s:=s) (b:=b)
  have hb2:b<(aA s m1 b).2.blocks.length:=by rw[dA];exact hb1
  simp only[ltuS]at hmm
  generalize aA s m1 b=r1 at hmm n q hb2 i2
  rw[hz];clear hz z
  refine aa fun z hz=>?_
  simp
  refine af (by kernel_rfl) (iy n hb2 q (by omega)) ?_
  rintro _ h3 ⟨⟨rfl,i3⟩,n⟩
  have q:=q.aA (s:=s) (b:=b)
  have hb3:b<(aA s r1.2 b).2.blocks.length:=by rw[dA];exact hb2
  generalize aA s r1.2 b=r2 at hmm n q hb3 i3
  rw[hz];clear hz z
  simp
  refine af (by kernel_rfl) (gn n q (by omega)) ?_
  rintro _ h4 ⟨rfl,n⟩
  refine n.lit (ls:=[r1.1,r2.1]) (by simp) (by simp[i2,i3]) rfl (by decide) fun ua un uc h5 _ n=>?_
  refine aS (z:=.agg #[.int .i64 0,.int .i64 0,.int .i64 0,.slice none 0 0,.int .i32 0]) (places:=[(0,1),(1,1),(2,1),(3,1),(4,1)]) (vs:=[(0,.int .i64 13),(1,.int .i64 r2.2.next),(3,.slice ua un uc)]) (cs:=#[.int .i64 13,.int .i64 r2.2.next,.int .i64 0,.slice ua un uc,.int .i32 0]) (by kernel_rfl) (by kernel_rfl) (by simp) (by rfl) ?_
  refine af (by kernel_rfl) (jZ n (b:=b) hb3 q.aG (by omega) i64c (q.jf (by omega)) i64c (by decide)) ?_
  rintro _ h6 n
  exact hK _ _ (by rw[hmm];exact n)
 rw[if_neg c2]at hmm
 refine aX (by simp[c2]) ?_
 refine aa fun z hz=>?_
 simp
 rw[hz];clear hz z
 by_cases c3:k=13
 ·rw[if_pos c3]at hmm
  refine a8 (by simp[c3]) ?_
  refine aa fun z hz=>?_
  simp
  refine af (by kernel_rfl) (iy n hb1 q (by omega)) ?_
  rintro _ h2 ⟨⟨rfl,i2⟩,n⟩
  have q:=q.aA (s:=s) (b:=b)
  have hb2:b<(aA s m1 b).2.blocks.length:=by rw[dA];exact hb1
  simp only[divS]at hmm
  generalize aA s m1 b=r1 at hmm n q hb2 i2
  rw[hz];clear hz z
  refine aa fun z hz=>?_
  simp
  refine af (by kernel_rfl) (eH n q (by omega) (k:=12) (by decide) (by decide)) ?_
  rintro _ h3 ⟨rfl,n⟩
  simp
  refine af (by kernel_rfl) (fO n (b:=b) hb2 q.took (by omega) (k:=IntKind.i32.wrap (az s r1.2.at_ 12)) kZ) ?_
  rintro _ h4 ⟨rfl,n⟩
  have i4:I64 r1.2.took.next:=q.took.jf (by omega)
  have q:=q.took.constant (b:=b) (n:=IntKind.i32.wrap (az s r1.2.at_ 12))
  have hb3:b<(r1.2.took.constant b (IntKind.i32.wrap (az s r1.2.at_ 12))).blocks.length:=by rw[dx];exact hb2
  have ht:r1.2.took.next=r1.2.next:=rfl
  rw[ht]at i4 ⊢
  generalize r1.2.took.constant b (IntKind.i32.wrap (az s r1.2.at_ 12))=m2 at hmm n q hb3
  generalize r1.2.next=d at hmm i4
  rw[hz];clear hz z
  refine aa fun z hz=>?_
  have fin : ∀(e:Int) (m3:MS) (h':Heap) (ρ:Env),aC s b m=m3.two b 14 r1.1 e→I64 e→m3.ok (c+60)→b<m3.blocks.length→Nz s M vs W0 h' o0 m3 (.slice none 0 0) []→Lft.look ρ 0=some (.pointer (some ⟨M,0,none⟩))→Lft.look ρ 1=some (.int .i64 b)→Lft.look ρ 10=some (.int .i64 r1.1)→Lft.look ρ 11=some (.int .i64 e)→LC.wp Tryz.prog z (dV 0 (eQ [] K)) ρ h':=by
   intro e m3 h' ρ hmm ie q hb n r0 r1' r10 r11
   rw[hz];clear hz z
   simp[aj,al,r0,r1',r10,r11]
   refine af (by kernel_rfl) (gn n q (by omega)) ?_
   rintro _ h4 ⟨rfl,n⟩
   refine n.lit (ls:=[r1.1,e]) (by simp) (by simp[i2,ie]) rfl (by decide) fun ua un uc h5 _ n=>?_
   refine aS (z:=.agg #[.int .i64 0,.int .i64 0,.int .i64 0,.slice none 0 0,.int .i32 0]) (places:=[(0,1),(1,1),(2,1),(3,1),(4,1)]) (vs:=[(0,.int .i64 14),(1,.int .i64 m3.next),(3,.slice ua un uc)]) (cs:=#[.int .i64 14,.int .i64 m3.next,.int .i64 0,.slice ua un uc,.int .i32 0]) (by kernel_rfl) (by kernel_rfl) (by simp) (by rfl) ?_
   refine af (by kernel_rfl) (jZ n (b:=b) hb q.aG (by omega) i64c (q.jf (by omega)) i64c (by decide)) ?_
   rintro _ h6 n
   exact hK _ _ (by rw[hmm];exact n)
  refine aa fun y hy=>?_
  simp
  refine af (by kernel_rfl) (eH n q (by omega) (k:=3) (by decide) (by decide)) ?_
  rintro _ h5 ⟨rfl,n⟩
  simp
  rw[hy];clear hy y
  by_cases c4:0<az s m2.at_ 3
  ·rw[if_pos c4]at hmm
   refine a8 (by simp[c4]) ?_
   simp
   refine af (by kernel_rfl) (eH n q.took (by omega) (k:=12) (by decide) (by decide)) ?_
   rintro _ h6 ⟨rfl,n⟩
   have hx:m2.took.at_=m2.at_+1:=rfl
   rw[hx]
   simp
   refine af (by kernel_rfl) (fO n (b:=b) hb3 q.took.took (by omega) (k:=IntKind.i32.wrap (1+IntKind.i32.wrap (az s (m2.at_+1) 12))) kZ) ?_
   rintro _ h7 ⟨rfl,n⟩
   refine fin m2.next _ h7 _ hmm (q.jf (by omega)) (q.took.took.constant.mono (by omega)) (by rw[dx];exact hb3) n ?_ ?_ ?_ ?_
   all_goals simp
   rfl
  ·rw[if_neg c4]at hmm
   refine aX (by simp[c4]) ?_
   simp
   refine fin d _ h5 _ hmm i4 (q.took.mono (by omega)) hb3 n ?_ ?_ ?_ ?_
   all_goals simp
 rw[if_neg c3]at hmm
 refine aX (by simp[c3]) ?_
 refine aa fun z hz=>?_
 simp
 rw[hz];clear hz z
 by_cases c4:k<16
 ·rw[if_pos c4]at hmm
  refine a8 (by simp[c4]) ?_
  simp
  refine af (by kernel_rfl) (Cg n.x (store:=decide (k=15)) hb1 q (by omega)) ?_
  rintro _ h2 n
  exact hK _ _ (by rw[hmm];exact n)
 rw[if_neg c4]at hmm
 refine aX (by simp[c4]) ?_
 refine aa fun z hz=>?_
 simp
 rw[hz];clear hz z
 by_cases c5:k=16
 ·rw[if_pos c5]at hmm
  refine a8 (by simp[c5]) ?_
  refine aa fun z hz=>?_
  simp
  obtain⟨W,o,g1,w,f,-⟩:=n
  have hk9:o (9,0)=none:=(f _ (by decide)).trans hfree
  refine w.own.jn (k:=(9,0)) (α:=Int) hk9 El.bc fun v h2 hle2 hv w2 _=>?_
  have w2:Mk s M vs W h2 (o.upd (9,0) (it T.int v ([]:List Int))) m1:=by
   obtain⟨vb,vl,lb,bb⟩:=w.box
   exact⟨w2,w.src,vb,vl,lb,bb.frame fun k hk=>Own.ab (by rintro rfl;simp at hk)⟩
  rw[hz];clear hz z
  refine aa fun z hz=>?_
  simp
  refine af (by kernel_rfl) (w2.take (by have:=q.at_;omega) (n:=5) (by decide) (by decide)) ?_
  rintro _ h3 ⟨rfl,o3,w3,f3⟩
  simp only[lj]at hmm
  have q:=q.took
  have hb2:b<m1.took.blocks.length:=hb1
  obtain⟨t0,t1⟩:=bj (s:=s) (at_:=m1.at_) (n:=5) (by decide)
  generalize az s m1.at_ 5=t at hmm t0 t1
  obtain⟨tn,rfl⟩ : ∃tn:Nat,t=tn:=⟨t.toNat,by omega⟩
  rw[show((tn:Int)).toNat=tn by omega]at hmm
  have hup:=A8 (s:=s) (b:=b) (x:=([],m1.took)) q
  generalize m1.took=m2 at hmm q hb2 hup w3
  rw[hz];clear hz z
  refine aa fun z hz=>?_
  simp
  refine bM [0,1,4,12,13,14] (fun(v:Value) i=>[.pointer (some ⟨M,0,none⟩),.int .i64 b,.int .i64 k,v,.int .i64 tn,.int .i64 i]) (fun v i h4=>∃W' o',W0.le W'∧Mk s M vs W' h4 o' (up (eW s b) i ([],m2)).2∧o' (9,0)=it T.int v (up (eW s b) i ([],m2)).1∧∀q:Key,3≤q.1→q≠(9,0)→o' q=o0 q) tn v
   rfl (by omega) rfl ⟨W,o3,g1,w3,(f3 _ (by decide)).trans Own.ag,fun q h1 h2=>(f3 q h1).trans ((Own.ab h2).trans (f q h1))⟩ (fun _ _=>rfl) (fun v k h hk m=>by simp) ?_ ?_
  ·rintro v i h4 hlt ⟨W4,o4,g4,w4,e4,f4⟩ K2 hK2
   obtain⟨qi,li,bi⟩:=hup i
   have e5:up (eW s b) (i+1) ([],m2)=((up (eW s b) i ([],m2)).1++[(aA s (up (eW s b) i ([],m2)).2 b).1],(aA s (up (eW s b) i ([],m2)).2 b).2):=rfl
   have hb4:b<(up (eW s b) i ([],m2)).2.blocks.length:=by rw[bi];exact hb2
   generalize up (eW s b) i ([],m2)=x at w4 e4 e5 qi li bi hb4
   have li:x.1.length=i:=by simpa using li
   simp
   refine af (by kernel_rfl) (AQ w4 hb4 qi (by omega)) ?_
   rintro _ h5 ⟨rfl,i5,W5,o5,g5,w5,f5⟩
   have e6:o5 (9,0)=it T.int v x.1:=(f5 _ (by decide)).trans e4
   refine w5.own.gL (k:=(9,0)) (α:=Int) (d:=(aA s x.2 b).1) e6 El.bc rfl (dR.2 ⟨rfl,i5⟩) (by omega) (by omega) (fun _=>rfl) (fun _=>rfl) fun u v' h6 w6 _=>?_
   refine hK2 v' _ _ rfl rfl ⟨W5,_,View.le_trans g4 g5,⟨w6,w5.src,?_⟩,?_,?_⟩
   ·obtain⟨vb,vl,lb,bb⟩:=w5.box
    rw[e5]
    exact⟨vb,vl,lb,bb.frame fun k hk=>Own.ab (by rintro rfl;simp at hk)⟩
   ·rw[e5];exact Own.ag
   ·intro q h1 h2
    exact(Own.ab h2).trans ((f5 q h1).trans (f4 q h1 h2))
  ·rintro v h4 ⟨W4,o4,g4,w4,e4,f4⟩
   obtain⟨qi,li,bi⟩:=hup tn
   have hb4:b<(up (eW s b) tn ([],m2)).2.blocks.length:=by rw[bi];exact hb2
   generalize up (eW s b) tn ([],m2)=x at w4 e4 qi li bi hb4 hmm
   obtain⟨w5,sl⟩:=w4.own.freeze e4
   have sl2:=sl
   obtain⟨ua,uc,rfl,_⟩:=sl2
   have hWp:=jC (h:=h4) (w4.own.av _ _ e4)
   have n:Nz s M vs W0 h4 o0 x.2 (.slice ua x.1.length uc) x.1:=by
    obtain⟨vb,vl,lb,bb⟩:=w4.box
    refine⟨_,_,View.le_trans g4 hWp,⟨w5,w4.src.mono hWp,vb,vl,lb,bb.frame fun k hk=>Own.ab (by rintro rfl;simp at hk)⟩,fun q h1=>?_,sl⟩
    by_cases e:q=(9,0)
    ·rw[e,Own.ag,hfree]
    ·exact(Own.ab e).trans (f4 q h1 e)
   generalize x.1.length=un at n
   simp
   rw[hz];clear hz z
   simp
   refine af (by kernel_rfl) (gn n qi (by omega)) ?_
   rintro _ h5 ⟨rfl,n⟩
   refine af (by kernel_rfl) (eH n qi.aG (by omega) (k:=5) (by decide) (by decide)) ?_
   rintro _ h6 ⟨rfl,n⟩
   have hx:x.2.aG.at_=x.2.at_:=rfl
   rw[hx]
   simp
   refine aS (z:=.agg #[.int .i64 0,.int .i64 0,.int .i64 0,.slice none 0 0,.int .i32 0]) (places:=[(0,1),(1,1),(2,1),(3,1),(4,1)]) (vs:=[(0,.int .i64 17),(1,.int .i64 x.2.next),(3,.slice ua un uc),(4,.int .i32 (IntKind.i32.wrap (az s x.2.at_ 5)))]) (cs:=#[.int .i64 17,.int .i64 x.2.next,.int .i64 0,.slice ua un uc,.int .i32 (IntKind.i32.wrap (az s x.2.at_ 5))]) (by kernel_rfl) (by kernel_rfl) (by simp) (by rfl) ?_
   refine af (by kernel_rfl) (jZ n (b:=b) hb4 qi.aG.took (by omega) i64c (qi.jf (by omega)) i64c kZ) ?_
   rintro _ h7 n
   exact hK _ _ (by rw[hmm];exact n)
 rw[if_neg c5]at hmm
 refine aX (by simp[c5]) ?_
 refine aa fun z hz=>?_
 simp
 rw[hz];clear hz z
 by_cases c6:k=17
 ·rw[if_pos c6]at hmm
  refine a8 (by simp[c6]) ?_
  refine aa fun z hz=>?_
  simp
  refine af (by kernel_rfl) (iy n hb1 q (by omega)) ?_
  rintro _ h2 ⟨⟨rfl,i2⟩,n⟩
  have q:=q.aA (s:=s) (b:=b)
  have hb2:b<(aA s m1 b).2.blocks.length:=by rw[dA];exact hb1
  simp only[qt]at hmm
  generalize aA s m1 b=r1 at hmm n q hb2 i2
  rw[hz];clear hz z
  refine aa fun z hz=>?_
  simp
  refine af (by kernel_rfl) (iy n hb2 q (by omega)) ?_
  rintro _ h3 ⟨⟨rfl,i3⟩,n⟩
  have q:=q.aA (s:=s) (b:=b)
  have hb3:b<(aA s r1.2 b).2.blocks.length:=by rw[dA];exact hb2
  generalize aA s r1.2 b=r2 at hmm n q hb3 i3
  rw[hz];clear hz z
  refine aa fun z hz=>?_
  simp
  refine af (by kernel_rfl) (gn n q (by omega)) ?_
  rintro _ h4 ⟨rfl,n⟩
  rw[hz];clear hz z
  simp
  refine af (by kernel_rfl) (gn n q.aG (by omega)) ?_
  rintro _ h5 ⟨rfl,n⟩
  have hx:r2.2.aG.next=r2.2.next+1:=rfl
  rw[hx]
  have j5:=q.aG.jf (by omega)
  rw[hx]at j5
  refine n.lit (ls:=[r1.1,r2.1]) (by simp) (by simp[i2,i3]) rfl (by decide) fun ua un uc h5 _ n=>?_
  refine aS (z:=.agg #[.int .i64 0,.int .i64 0,.int .i64 0,.slice none 0 0,.int .i32 0]) (places:=[(0,1),(1,1),(2,1),(3,1),(4,1)]) (vs:=[(0,.int .i64 18),(1,.int .i64 r2.2.next),(2,.int .i64 (r2.2.next+1)),(3,.slice ua un uc)]) (cs:=#[.int .i64 18,.int .i64 r2.2.next,.int .i64 (r2.2.next+1),.slice ua un uc,.int .i32 0]) (by kernel_rfl) (by kernel_rfl) (by simp) (by rfl) ?_
  refine af (by kernel_rfl) (jZ n (b:=b) hb3 q.aG.aG (by omega) i64c (q.jf (by omega)) j5 (by decide)) ?_
  rintro _ h6 n
  exact hK _ _ (by rw[hmm];exact n)
 rw[if_neg c6]at hmm
 refine aX (by simp[c6]) ?_
 simp
 refine af (by kernel_rfl) (xR n q (by omega)) ?_
 rintro _ h2 ⟨rfl,n⟩
 refine af (by kernel_rfl) (fO n (b:=b) hb1 q.took.took (by omega) (k:=iG s m1) oA) ?_
 rintro _ h3 ⟨rfl,n⟩
 exact hK _ _ (by rw[hmm];exact n.x)
section
variable {s:List Int} {m:MS} {b c:Nat}
theorem lR:m.took.blocks.length=m.blocks.length:=rfl
theorem nA:m.aG.blocks.length=m.blocks.length:=rfl
theorem MS.ok.addr(h:m.ok c):(iE s m b).2.ok (c+30):=by
 unfold iE
 simp only
 split
 ·exact((((h.took.constant).took.aA).constant).two.two).mono (by omega)
 ·exact(h.took.constant.took).mono (by omega)
theorem Dl:(iE s m b).2.blocks.length=m.blocks.length:=by
 unfold iE
 simp only
 split<;>simp[mC,dx,dA,lR]
theorem MS.ok.off(h:m.ok c):(offS s m).2.ok (c+4):=by
 unfold offS
 split
 ·exact h.took.took.took.took
 ·exact h.took.took.mono (by omega)
theorem GC:(offS s m).2.blocks.length=m.blocks.length:=by
 unfold offS;split<;>rfl
theorem MS.ok.memory{st:Bool}(h:m.ok c):(gI s m b st).ok (c+60):=by
 unfold gI
 simp only
 split
 ·exact(((h.addr).off.aA).add).mono (by omega)
 ·exact(((h.addr).off.aG).add).mono (by omega)
theorem AB{st:Bool}:(gI s m b st).blocks.length=m.blocks.length:=by
 unfold gI
 simp only
 split<;>simp[jB,dA,GC,Dl,nA]
theorem MS.ok.bin{op:Int}(h:m.ok c):(binS s m b op).ok (c+60):=by
 unfold binS
 simp only
 split
 ·exact((h.aA.aA).took.took.constant.two).mono (by omega)
 ·exact((h.aA.aA).took.two).mono (by omega)
theorem FZ{op:Int}:(binS s m b op).blocks.length=m.blocks.length:=by
 unfold binS
 simp only
 split<;>simp[mC,dx,dA,lR]
theorem MS.ok.div(h:m.ok c):(divS s m b).ok (c+60):=by
 unfold divS
 simp only
 split
 ·exact((h.aA).took.constant.took.took.constant.two).mono (by omega)
 ·exact((h.aA).took.constant.took.two).mono (by omega)
theorem Fj:(divS s m b).blocks.length=m.blocks.length:=by
 unfold divS
 simp only
 split<;>simp[mC,dx,dA,lR]
theorem MS.ok.lj (h:m.ok c):(lj s m b).ok (c+70):=by
 unfold Go.Proofs.YtbkdlhkoiagbbaaGreat.lj
 simp only
 have ht:=bj (s:=s) (at_:=m.at_) (n:=5) (by decide)
 have:=(A8 (s:=s) (b:=b) (x:=([],m.took)) h.took (az s m.at_ 5).toNat).1
 exact(this.aG.took.add).mono (by omega)
theorem Dy:(lj s m b).blocks.length=m.blocks.length:=by
 unfold lj
 simp only
 rw[jB,lR,nA]
 exact yH (s:=s) (b:=b) (x:=([],m.took)) _
theorem MS.ok.fP(h:m.ok c):(aC s b m).ok (c+80):=by
 unfold aC
 simp only
 repeat' split
 ·exact h.took.bin.mono (by omega)
 ·unfold ltuS
  exact(h.took.aA.aA.two).mono (by omega)
 ·exact h.took.div.mono (by omega)
 ·exact h.took.memory.mono (by omega)
 ·exact h.took.lj.mono (by omega)
 ·unfold qt
  exact(h.took.aA.aA.aG.aG.add).mono (by omega)
 ·exact h.took.took.took.constant.mono (by omega)
theorem mO:(aC s b m).blocks.length=m.blocks.length:=by
 unfold aC
 simp only
 repeat' split
 all_goals simp[FZ,ltuS,Fj,AB,Dy,qt,mC,dx,dA,lR,nA,jB]
end
def MS.eB (m:MS) (b:Nat) (t:dp):MS:={ m with blocks:=m.blocks.set b { nth m.blocks b with term:=t } }
def cmpL:List Int:=[11,12,13]
def et (s:List Int) (to:List Int) (b:Nat) (m:MS):dp × MS:=
 if to.length=0 then
  if az s m.at_ 8=0 then(⟨5,[],[],⟨IntKind.i32.wrap (az s (m.at_+1) 200)⟩⟩,m.took.took)
  else if 1<az s m.at_ 8 then(⟨4,[(aA s m.took b).1],[],⟨0⟩⟩,(aA s m.took b).2)
  else(⟨4,[],[],⟨0⟩⟩,m.took)
 else if to.length=1 then(⟨1,[],to,⟨0⟩⟩,m)
 else if to.length=2 then
  let r:=aA s m b
  if az s r.2.at_ 2=0 then
   let w:=aA s r.2.took b
   (⟨2,[w.2.next],to,⟨0⟩⟩,w.2.aG.took.add b ⟨nth cmpL (az s w.2.at_ 3).toNat,w.2.next,0,[r.1,w.1],⟨0⟩⟩)
  else(⟨2,[r.1],to,⟨0⟩⟩,r.2.took)
 else
  let r:=aA s m b
  let m2:=r.2.constant b 7
  (⟨3,[m2.next],to,⟨0⟩⟩,m2.two b 5 r.1 r.2.next)
def ll (s:List Int) (to:List Int) (b:Nat) (m:MS):MS:=(et s to b m).2.eB b (et s to b m).1
section
variable {s:List Int} {M:Nat} {vs:Value} {W0:View} {h:Heap} {o0:Own} {m:MS} {u:Value} {ds:List Int}
theorem Nz.cI {po:OP} (n:Nz s M vs W0 h o0 m u ds) {k:Key} {e:TypeId} {B N i:Nat} {l:List Value} {ty t:TypeId} {us:List (Nat × Value)} {x y:Operand} {v:Value} {K:Value→Heap→Prop} (h3:3≤k.1) (hk:o0 k=bx e B (RawN.mk (n:=N) l)) (hi:i≤N) (hsz:cV Tryz.prog t=some 1) (hx:asg us x = .pointer (some ⟨B,i,none⟩)) (hy:asg us y=v) (hv:v.oneCell'=true)
  (hK : ∀h',Nz s M vs W0 h' (o0.upd k (bx e B (RawN.mk (n:=N) (l.set i v)))) m u ds→K undef h'):@Lft.step po Tryz.prog (.store t x y) ty us h K:=by
 obtain⟨W,o,g1,w,f,sl⟩:=n
 refine w.own.cI (k:=k) (n:=N) (i:=i) (e:=e) (B:=B) (l:=l) ((f k h3).trans hk) hi hsz hx hy hv fun h' w' _=>hK h' ?_
 obtain⟨vb,vl,lb,bb⟩:=w.box
 refine⟨W,_,g1,⟨w',w.src,vb,vl,lb,bb.frame fun q hq=>Own.ab (by rintro rfl;omega)⟩,fun q hq=>?_,sl⟩
 unfold Own.upd
 split
 ·rfl
 ·exact f q hq
theorem Nz.slice (n:Nz s M vs W0 h o0 m u ds) : ∃a k c,u = .slice a k c:=by
 obtain⟨W,o,g1,w,f,a,c,e,_⟩:=n
 exact⟨a,_,c,e⟩
theorem Nz.rows(n:Nz s M vs W0 h o0 m u ds){u':Value}{ds':List Int}(h':SlRd W0 u' ds'):Nz s M vs W0 h o0 m u' ds':=by
 obtain⟨W,o,g1,w,f,sl⟩:=n
 exact⟨W,o,g1,w,f,h'.mono g1⟩
theorem Nz.re(n:Nz s M vs W0 h o0 m u ds){o0':Own}(he : ∀k,o0' k=o0 k):Nz s M vs W0 h o0' m u ds:=by
 obtain⟨W,o,g1,w,f,sl⟩:=n
 exact⟨W,o,g1,w,fun k hk=>(f k hk).trans (he k).symm,sl⟩
variable{po:OP}{ty:TypeId}{us:List (Nat × Value)}
theorem Mk.Fx{W:View}{o:Own}(w:Mk s M vs W h o m){vb vl:Value}{lb:List BlkM}(bb:MkB M vs m o vb vl lb){t:dp}{v:Value}{ty2:TypeId}{x y:Operand}{K:Value→Heap→Prop}(hb:b<m.blocks.length)(hsz:cV Tryz.prog ty2=some 4)(hx:asg us x = .pointer (some (((slA vb).add (b*6)).add 2)))(hy:asg us y=v)(hr:Rd W v t)(hK : ∀h' o',Mk s M vs W h' o' (m.eB b t)→(∀k:Key,3≤k.1→o' k=o k)→K undef h'):@Lft.step po Tryz.prog (.store ty2 x y) ty us h K:=by
 have hbl:b<lb.length:=by rw[bb.len];exact hb
 refine w.own.kV (k:=(0,2)) (α:=BlkM) BlkM.mw (v:=vb) (l:=lb) (i:=b) (d:=t) bb.blk hsz hx hy hbl hr fun h7 w7 _=>?_
 refine hK h7 _ ⟨w7,w.src,vb,vl,_,bb.aU hb (x':={ nth m.blocks b with term:=t }) (y':={ lb[b]with term:=t }) rfl Own.ag ?_ ?_ fun q h1 _ _=>Own.ab h1⟩ (lI (by decide))
 ·rw[Own.ab (by simp),bb.phis b hb,ak hbl]
 ·rw[Own.ab (by simp),bb.ins b hb,ak hbl]
end
theorem CR{H:View}{va vt:Value}{a t:List Int}{kd:Int}{imm:I32}(h3:SlRd H va a)(h4:SlRd H vt t)(h5:I64 kd)(h6:-2147483648≤imm.v∧imm.v≤2147483647):Rd H (.agg #[.int .i64 kd,va,vt,.int .i32 imm.v]) (dp.mk kd a t imm):=
 ⟨_,rfl,[.int .i64 kd],_,rfl,⟨rfl,h5⟩,[va],_,rfl,⟨va,rfl,h3⟩,[vt],_,rfl,⟨vt,rfl,h4⟩,rfl,h6⟩
theorem DS: ∀x∈cmpL,I64 x:=by
 intro x hx
 have : ∀x∈cmpL,0≤x∧x≤13:=by decide
 have:=this x hx
 exact⟨by omega,by omega⟩
theorem HN{s:List Int}{M:Nat}{vs:Value}{W0:View}{h:Heap}{o0:Own}{m:MS}{vt:Value}{to:List Int}(n:Nx s M vs W0 h o0 m){c:Nat}(hb:b<m.blocks.length)(hm:m.ok c)(hc:c≤800000)(hfree:o0 (9,1)=none)(ht:SlRd W0 vt to):
  aB Tryz.prog N.dv #[.pointer (some ⟨M,0,none⟩),.int .i64 b,vt] h (fun v h'=>Nx s M vs W0 h' o0 (ll s to b m)):=by
 refine ao (args:=[.pointer (some ⟨M,0,none⟩),.int .i64 b,vt]) follows F.dv E.dv (Nat.le_of_ble_eq_true (by kernel_rfl)) fun K hK=>?_
 dsimp only[L.dv]
 have hmm:ll s to b m=_:=ll.eq_1 s to b m
 have htm:et s to b m=_:=et.eq_1 s to b m
 obtain⟨Wb,ob,gb,wb,fb⟩:=n
 refine aa fun z hz=>?_
 simp
 refine aS (z:=.agg #[.int .i64 0,.slice none 0 0,.slice none 0 0,.int .i32 0]) (places:=[(0,1),(1,1),(2,1),(3,1)]) (vs:=[]) (cs:=#[.int .i64 0,.slice none 0 0,.slice none 0 0,.int .i32 0]) (by kernel_rfl) (by kernel_rfl) (by simp) (by rfl) ?_
 refine wb.own.xI (k:=(9,1)) (n:=3) (l:=[.int .i64 0,.slice none 0 0,.slice none 0 0,.int .i32 0]) ((fb _ (by decide)).trans hfree) (z:=.agg #[.int .i64 0,.slice none 0 0,.slice none 0 0,.int .i32 0]) (by kernel_rfl) rfl (by kernel_rfl) rfl (by decide) (by simp[Value.oneCell']) (fun _=>by simp) (fun _=>by simp) fun h1 q1 w1=>?_
 generalize h.size=B at w1
 obtain⟨o1,ho1⟩ : ∃o1,o1=ob.upd (9,1) (bx T.jo B (RawN.mk (n:=3) [.int .i64 0,.slice none 0 0,.slice none 0 0,.int .i32 0])):=⟨_,rfl⟩
 have k1:o1 (9,1)=bx T.jo B (RawN.mk (n:=3) [.int .i64 0,.slice none 0 0,.slice none 0 0,.int .i32 0]):=by rw[ho1,Own.ag]
 have ht:=ht.mono gb
 have n:Nz s M vs Wb h1 o1 m (.slice none 0 0) []:=by
  obtain⟨vb,vl,lb,bb⟩:=wb.box
  rw[ho1]
  exact⟨Wb,_,View.le_refl _,⟨w1,wb.src,vb,vl,lb,bb.frame fun q hq=>Own.ab (by rintro rfl;simp at hq)⟩,fun _ _=>rfl,gk⟩
 have back : ∀{h':Heap} {W':View} {o':Own} {m':MS} {i:Option Lft.Item},Wb.le W'→Mk s M vs W' h' o' m'→(∀k:Key,3≤k.1→o' k=o1.upd (9,1) i k)→Nx s M vs W0 h' o0 m':=by
  intro h' W' o' m' i g w f
  refine⟨W',o'.upd (9,1) none,View.le_trans gb g,⟨w.own.sub fun q j hq=>?_,w.src,?_⟩,fun k hk=>?_⟩
  ·unfold Own.upd at hq
   split at hq
   ·cases hq
   ·exact hq
  ·obtain⟨vb,vl,lb,bb⟩:=w.box
   exact⟨vb,vl,lb,bb.frame fun q hq=>Own.ab (by rintro rfl;simp at hq)⟩
  ·by_cases e:k=(9,1)
   ·rw[e,Own.ag,hfree]
   ·rw[Own.ab e,f k hk,Own.ab e,ho1,Own.ab e,fb k hk]
 clear wb w1 q1
 rw[hz];clear hz z
 refine aa fun z hz=>?_
 have fin : ∀(kd:Int) (va vt':Value) (args to':List Int) (im:Int) (m2:MS) (h':Heap) (ρ:Env),et s to b m=(⟨kd,args,to',⟨im⟩⟩,m2)→I64 kd→(-2147483648≤im∧im≤2147483647)→b<m2.blocks.length→Nz s M vs Wb h' (o1.upd (9,1) (bx T.jo B (RawN.mk (n:=3) [.int .i64 kd,va,vt',.int .i32 im]))) m2 va args→SlRd Wb vt' to'→Lft.look ρ 0=some (.pointer (some ⟨M,0,none⟩))→Lft.look ρ 1=some (.int .i64 b)→Lft.look ρ 6=some (.pointer (some ⟨B,0,none⟩))→LC.wp Tryz.prog z (eQ [] K) ρ h':=by
  intro kd va vt' args to' im m2 h' ρ e ikd iim hb n ht' r0 r1 r6
  rw[hz];clear hz z
  rw[e]at hmm
  obtain⟨W,o,g1,w,f,sl⟩:=n
  obtain⟨vb,vl,lb,bb⟩:=w.box
  have hk:o (9,1)=bx T.jo B (RawN.mk (n:=3) [.int .i64 kd,va,vt',.int .i32 im]):=(f _ (by decide)).trans Own.ag
  have c4:=w.own.gH (k:=(9,1)) (n:=3) hk
  have c4:Un.ev (vw h') (.ar 4) (.pointer (some ⟨B,0,none⟩))=some (.agg #[.int .i64 kd,va,vt',.int .i32 im]):=c4
  have c3:an (vw h') ⟨M,3,none⟩=some vb:=bb.cell w.own (i:=3) (by decide)
  have hbl:b<lb.length:=by rw[bb.len];exact hb
  have sb:=w.own.now bb.blk
  have sbb:=sb.bound
  refine cH (vw h') (View.le_refl _) ?_
  simp(disch:=omega)[r0,r1,r6,c3,c4,sb.idxn (N:=6) rfl]
  refine w.Fx bb (b:=b) (t:=⟨kd,args,to',⟨im⟩⟩) hb (by kernel_rfl) rfl rfl (CR (imm:=⟨im⟩) sl (ht'.mono g1) ikd iim) fun h2 o2 w2 f2=>?_
  refine hK _ _ ?_
  rw[hmm]
  exact back g1 w2 fun k hk=>(f2 k hk).trans (f k hk)
 have hlen : ∀{Q:View},Un.ev Q .len vt=some (.int .i64 to.length):=fun{Q}=>ht.len
 refine aa fun y hy=>?_
 simp[hlen]
 rw[hy];clear hy y
 simp only[aJ]
 refine aa fun y hy=>?_
 simp
 rw[hy];clear hy y
 by_cases c0:to.length=0
 ·have c0':to=[]:=List.eq_nil_of_length_eq_zero c0
  rw[if_pos c0]at htm
  refine a8 (by simp[c0,c0']) ?_
  refine aa fun y hy=>?_
  simp
  refine n.cI (k:=(9,1)) (i:=0) (by decide) k1 (by decide) (by kernel_rfl) rfl rfl rfl fun h2 n=>?_
  rw[hy];clear hy y
  refine aa fun y hy=>?_
  simp
  refine af (by kernel_rfl) (eH n hm (by omega) (k:=8) (by decide) (by decide)) ?_
  rintro _ h3 ⟨rfl,n⟩
  obtain⟨t0,t1⟩:=bj (s:=s) (at_:=m.at_) (n:=8) (by decide)
  rw[hy];clear hy y
  refine aa fun y hy=>?_
  simp
  rw[hy];clear hy y
  have n:Nz s M vs Wb h3 (o1.upd (9,1) (bx T.jo B (RawN.mk (n:=3) [.int .i64 4,.slice none 0 0,.slice none 0 0,.int .i32 0]))) m.took (.slice none 0 0) []:=n
  by_cases c1:az s m.at_ 8=0
  ·rw[if_pos c1]at htm
   refine a8 (by simp[c1]) ?_
   refine aa fun y hy=>?_
   simp
   refine n.cI (k:=(9,1)) (i:=0) (by decide) Own.ag (by decide) (by kernel_rfl) rfl rfl rfl fun h4 n=>?_
   rw[hy];clear hy y
   simp
   refine af (by kernel_rfl) (eH n hm.took (by omega) (k:=200) (by decide) (by decide)) ?_
   rintro _ h5 ⟨rfl,n⟩
   have hx:m.took.at_=m.at_+1:=rfl
   rw[hx]
   simp
   refine n.cI (k:=(9,1)) (i:=3) (by decide) Own.ag (by decide) (by kernel_rfl) rfl rfl rfl fun h6 n=>?_
   refine fin 5 (.slice none 0 0) (.slice none 0 0) [] [] _ _ h6 _ htm i64c kZ hb ?_ gk ?_ ?_ ?_
   ·exact n.re fun k=>by rw[ir,ir];rfl
   all_goals simp
  ·rw[if_neg c1]at htm
   refine aX (by simp[c1]) ?_
   refine aa fun y hy=>?_
   simp
   rw[hy];clear hy y
   by_cases c2:1<az s m.at_ 8
   ·rw[if_pos c2]at htm
    refine a8 (by simp[c2]) ?_
    simp
    refine af (by kernel_rfl) (iy n (b:=b) hb hm.took (by omega)) ?_
    rintro _ h4 ⟨⟨rfl,i4⟩,n⟩
    have hb2:b<(aA s m.took b).2.blocks.length:=by rw[dA];exact hb
    generalize aA s m.took b=r at htm i4 n hb2
    refine n.lit (ls:=[r.1]) (by simp) (by simp[i4]) rfl (by decide) fun ua un uc h5 _ n=>?_
    refine n.cI (k:=(9,1)) (i:=1) (by decide) Own.ag (by decide) (by kernel_rfl) rfl rfl rfl fun h6 n=>?_
    refine fin 4 (.slice ua un uc) (.slice none 0 0) [r.1] [] 0 _ h6 _ htm i64c (by decide) hb2 (n.re fun k=>by rw[ir];rfl) gk ?_ ?_ ?_
    all_goals simp
   ·rw[if_neg c2]at htm
    refine aX (by simp[c2]) ?_
    simp
    refine fin 4 (.slice none 0 0) (.slice none 0 0) [] [] 0 _ h3 _ htm i64c (by decide) hb n gk ?_ ?_ ?_
    all_goals simp
 rw[if_neg c0]at htm
 have c0':¬to=[]:=fun e=>c0 (by rw[e];rfl)
 have hvt:vt.oneCell'=true:=ht.cells.2
 refine aX (by simp[c0']) ?_
 refine aa fun y hy=>?_
 simp
 rw[hy];clear hy y
 by_cases c1:to.length=1
 ·rw[if_pos c1]at htm
  refine a8 (by simp[c1]) ?_
  refine aa fun y hy=>?_
  simp
  refine n.cI (k:=(9,1)) (i:=0) (by decide) k1 (by decide) (by kernel_rfl) rfl rfl rfl fun h2 n=>?_
  rw[hy];clear hy y
  simp
  refine n.cI (k:=(9,1)) (i:=2) (by decide) Own.ag (by decide) (by kernel_rfl) rfl rfl hvt fun h3 n=>?_
  refine fin 1 (.slice none 0 0) vt [] to 0 _ h3 _ htm i64c (by decide) hb (n.re fun k=>by rw[ir];rfl) ht ?_ ?_ ?_
  all_goals simp
 rw[if_neg c1]at htm
 refine aX (by simp;omega) ?_
 refine aa fun y hy=>?_
 simp
 rw[hy];clear hy y
 by_cases c2:to.length=2
 ·rw[if_pos c2]at htm
  refine a8 (by simp[c2]) ?_
  refine aa fun y hy=>?_
  simp
  refine n.cI (k:=(9,1)) (i:=0) (by decide) k1 (by decide) (by kernel_rfl) rfl rfl rfl fun h2 n=>?_
  rw[hy];clear hy y
  refine aa fun y hy=>?_
  simp
  refine n.cI (k:=(9,1)) (i:=2) (by decide) Own.ag (by decide) (by kernel_rfl) rfl rfl hvt fun h3 n=>?_
  have n:Nz s M vs Wb h3 (o1.upd (9,1) (bx T.jo B (RawN.mk (n:=3) [.int .i64 2,.slice none 0 0,vt,.int .i32 0]))) m (.slice none 0 0) []:=n.re fun k=>by rw[ir];rfl
  rw[hy];clear hy y
  refine aa fun y hy=>?_
  simp
  refine af (by kernel_rfl) (iy n (b:=b) hb hm (by omega)) ?_
  rintro _ h4 ⟨⟨rfl,i4⟩,n⟩
  have q:=hm.aA (s:=s) (b:=b)
  have hb2:b<(aA s m b).2.blocks.length:=by rw[dA];exact hb
  simp only at htm
  generalize aA s m b=r at htm i4 n hb2 q
  rw[hy];clear hy y
  refine aa fun y hy=>?_
  have fin2 : ∀(v:Int) (m3:MS) (h':Heap) (ρ:Env) (u:Value) (ds:List Int),et s to b m=(⟨2,[v],to,⟨0⟩⟩,m3)→I64 v→b<m3.blocks.length→Nz s M vs Wb h' (o1.upd (9,1) (bx T.jo B (RawN.mk (n:=3) [.int .i64 2,.slice none 0 0,vt,.int .i32 0]))) m3 u ds→Lft.look ρ 0=some (.pointer (some ⟨M,0,none⟩))→Lft.look ρ 1=some (.int .i64 b)→Lft.look ρ 6=some (.pointer (some ⟨B,0,none⟩))→Lft.look ρ 8=some (.int .i64 v)→LC.wp Tryz.prog y (dV 0 (ft (LC.wp Tryz.prog z (eQ [] K)) (eQ [] K))) ρ h':=by
   intro v m3 h' ρ u ds e iv hb n r0 r1 r6 r8
   rw[hy];clear hy y
   simp[aj,al,r0,r1,r6,r8]
   refine n.lit (ls:=[v]) (by simp) (by simp[iv]) rfl (by decide) fun ua un uc h5 _ n=>?_
   refine n.cI (k:=(9,1)) (i:=1) (by decide) Own.ag (by decide) (by kernel_rfl) rfl rfl rfl fun h6 n=>?_
   refine fin 2 (.slice ua un uc) vt [v] to 0 _ h6 _ e i64c (by decide) hb (n.re fun k=>by rw[ir];rfl) ht ?_ ?_ ?_
   all_goals simp[aj,al,r0,r1,r6,r8]
  refine aa fun x hx=>?_
  simp
  refine af (by kernel_rfl) (eH n q (by omega) (k:=2) (by decide) (by decide)) ?_
  rintro _ h5 ⟨rfl,n⟩
  simp
  rw[hx];clear hx x
  by_cases c3:az s r.2.at_ 2=0
  ·rw[if_pos c3]at htm
   refine a8 (by simp[c3]) ?_
   refine aa fun x hx=>?_
   simp
   refine aS (z:=.agg #[.int .i64 0,.int .i64 0,.int .i64 0]) (places:=[(0,1),(1,1),(2,1)]) (vs:=[(0,.int .i64 11),(1,.int .i64 12),(2,.int .i64 13)]) (cs:=#[.int .i64 11,.int .i64 12,.int .i64 13]) (by kernel_rfl) (by kernel_rfl) (by simp) (by rfl) ?_
   refine jA (v:=.agg #[.int .i64 11,.int .i64 12,.int .i64 13]) (z:=.agg #[.int .i64 0,.int .i64 0,.int .i64 0]) (n:=3) (by kernel_rfl) rfl (by kernel_rfl) rfl (by simp[Value.cells,Value.oneCell']) (fun _=>by simp) (fun _=>by simp) fun h6 hle6 hs6 hb6=>?_
   have n:Nz s M vs Wb h6 (o1.upd (9,1) (bx T.jo B (RawN.mk (n:=3) [.int .i64 2,.slice none 0 0,vt,.int .i32 0]))) r.2.took (.slice (some ⟨h5.size,0,none⟩) 3 3) cmpL:=by
    obtain⟨W,o,g1,g2,g3,g4⟩:=n
    refine⟨_,o,View.le_trans g1 (cy g2.own.wle),⟨g2.own.ext hle6,g2.src.mono (cy g2.own.wle),g2.box⟩,g3,?_⟩
    have hg:grow W h5 h6 h5.size=some (.cells (cmpL.map fun x=>Value.int .i64 x).toArray T.HK (0,0)):=by
     rw[iJ (Nat.le_refl _),hb6];rfl
    exact Ev hg rfl (by decide) DS
   generalize h5.size=C at n
   rw[hx];clear hx x
   refine aa fun x hx=>?_
   simp
   refine af (by kernel_rfl) (iy n (b:=b) hb2 q.took (by omega)) ?_
   rintro _ h7 ⟨⟨rfl,i7⟩,n⟩
   have q:=q.took.aA (s:=s) (b:=b)
   have hb3:b<(aA s r.2.took b).2.blocks.length:=by rw[dA];exact hb2
   generalize aA s r.2.took b=w at htm i7 n hb3 q
   rw[hx];clear hx x
   refine aa fun x hx=>?_
   simp
   refine af (by kernel_rfl) (gn n q (by omega)) ?_
   rintro _ h8 ⟨rfl,n⟩
   have iw:=q.jf (by omega)
   rw[hx];clear hx x
   refine aa fun x hx=>?_
   simp
   refine af (by kernel_rfl) (eH n q.aG (by omega) (k:=3) (by decide) (by decide)) ?_
   rintro _ h9 ⟨rfl,n⟩
   have hfx:w.2.aG.at_=w.2.at_:=rfl
   rw[hfx]
   obtain⟨t0,t1⟩:=bj (s:=s) (at_:=w.2.at_) (n:=3) (by decide)
   generalize az s w.2.at_ 3=k at htm t0 t1
   obtain⟨kn,rfl⟩ : ∃kn:Nat,k=kn:=⟨k.toNat,by omega⟩
   rw[show((kn:Int)).toNat=kn by omega]at htm
   obtain⟨iop,hop⟩:I64 (nth cmpL kn)∧an (vw h9) ⟨C,kn,none⟩=some (.int .i64 (nth cmpL kn)):=by
    obtain⟨W,o,g1,g2,g3,g4⟩:=n
    refine⟨g4.range (i:=kn) (by show kn<3;omega),?_⟩
    have:=g4.int g2.own.wle (i:=kn) (by show kn<3;omega)
    simpa[slA]using this
   have hix:Bn.ev (.aidx 3 1) (.pointer (some ⟨C,0,none⟩)) (.int .i64 kn)=some (.pointer (some ⟨C,kn,none⟩)):=by
    simp only[Bn.ev,vP,vI,Option.bind_some]
    rw[if_pos ⟨by omega,by omega⟩]
    simp
   generalize nth cmpL kn=op at htm iop hop
   simp[hix,hop]
   refine n.lit (ls:=[r.1,w.1]) (by simp) (by simp[i4,i7]) rfl (by decide) fun ua un uc h10 _ n=>?_
   refine aS (z:=.agg #[.int .i64 0,.int .i64 0,.int .i64 0,.slice none 0 0,.int .i32 0]) (places:=[(0,1),(1,1),(2,1),(3,1),(4,1)]) (vs:=[(0,.int .i64 op),(1,.int .i64 w.2.next),(3,.slice ua un uc)]) (cs:=#[.int .i64 op,.int .i64 w.2.next,.int .i64 0,.slice ua un uc,.int .i32 0]) (by kernel_rfl) (by kernel_rfl) (by simp) (by rfl) ?_
   refine af (by kernel_rfl) (jZ n (b:=b) hb3 q.aG.took (by omega) iop iw i64c (by decide)) ?_
   rintro _ h11 n
   rw[hx];clear hx x
   simp
   refine fin2 w.2.next _ h11 _ _ _ htm iw (by rw[jB];exact hb3) n.z ?_ ?_ ?_ ?_
   all_goals simp
  ·rw[if_neg c3]at htm
   refine aX (by simp[c3]) ?_
   simp
   refine fin2 r.1 _ h5 _ _ _ htm i4 hb2 n ?_ ?_ ?_ ?_
   all_goals simp
 rw[if_neg c2]at htm
 refine aX (by simp;omega) ?_
 refine aa fun y hy=>?_
 simp
 refine n.cI (k:=(9,1)) (i:=0) (by decide) k1 (by decide) (by kernel_rfl) rfl rfl rfl fun h2 n=>?_
 rw[hy];clear hy y
 refine aa fun y hy=>?_
 simp
 refine n.cI (k:=(9,1)) (i:=2) (by decide) Own.ag (by decide) (by kernel_rfl) rfl rfl hvt fun h3 n=>?_
 have n:Nz s M vs Wb h3 (o1.upd (9,1) (bx T.jo B (RawN.mk (n:=3) [.int .i64 3,.slice none 0 0,vt,.int .i32 0]))) m (.slice none 0 0) []:=n.re fun k=>by rw[ir];rfl
 rw[hy];clear hy y
 refine aa fun y hy=>?_
 simp
 refine af (by kernel_rfl) (iy n (b:=b) hb hm (by omega)) ?_
 rintro _ h4 ⟨⟨rfl,i4⟩,n⟩
 have q:=hm.aA (s:=s) (b:=b)
 have hb2:b<(aA s m b).2.blocks.length:=by rw[dA];exact hb
 simp only at htm
 generalize aA s m b=r at htm i4 n hb2 q
 rw[hy];clear hy y
 refine aa fun y hy=>?_
 simp
 refine af (by kernel_rfl) (fO n (b:=b) hb2 q (by omega) (k:=7) (by decide)) ?_
 rintro _ h5 ⟨rfl,n⟩
 have i5:=q.jf (by omega)
 have q5:=q.constant (b:=b) (n:=7)
 have hb3:b<(r.2.constant b 7).blocks.length:=by rw[dx];exact hb2
 generalize r.2.constant b 7=m2 at htm n q5 hb3
 generalize r.2.next=d at htm i5
 rw[hy];clear hy y
 refine aa fun y hy=>?_
 simp
 refine af (by kernel_rfl) (gn n q5 (by omega)) ?_
 rintro _ h6 ⟨rfl,n⟩
 have i6:=q5.jf (by omega)
 rw[hy];clear hy y
 refine aa fun y hy=>?_
 simp
 refine n.lit (ls:=[r.1,d]) (by simp) (by simp[i4,i5]) rfl (by decide) fun ua un uc h7 _ n=>?_
 refine aS (z:=.agg #[.int .i64 0,.int .i64 0,.int .i64 0,.slice none 0 0,.int .i32 0]) (places:=[(0,1),(1,1),(2,1),(3,1),(4,1)]) (vs:=[(0,.int .i64 5),(1,.int .i64 m2.next),(3,.slice ua un uc)]) (cs:=#[.int .i64 5,.int .i64 m2.next,.int .i64 0,.slice ua un uc,.int .i32 0]) (by kernel_rfl) (by kernel_rfl) (by simp) (by rfl) ?_
 refine af (by kernel_rfl) (jZ n (b:=b) hb3 q5.aG (by omega) i64c i6 i64c (by decide)) ?_
 rintro _ h8 n
 have n:=n.z
 rw[hy];clear hy y
 simp
 refine n.lit (ls:=[m2.next]) (by simp) (by simp[i6]) rfl (by decide) fun ua un uc h9 _ n=>?_
 refine n.cI (k:=(9,1)) (i:=1) (by decide) Own.ag (by decide) (by kernel_rfl) rfl rfl rfl fun h10 n=>?_
 refine fin 3 (.slice ua un uc) vt [m2.next] to 0 _ h10 _ htm i64c (by decide) (show b<(m2.two b 5 r.1 d).blocks.length by rw[mC];exact hb3) (n.re fun k=>by rw[ir];rfl) ht ?_ ?_ ?_
 all_goals simp
abbrev RSt:=List Bool × List Int
def jd (wo:Int) (to:List Int) (k:Nat) (s:RSt):RSt:=
 if(0≤nth to k∧nth to k<s.1.length)∧nth s.1 (nth to k).toNat=false∧nth to k≠wo then(s.1.set (nth to k).toNat true,s.2++[nth to k]) else s
def tE (f:ah) (wo:Int) (i:Nat) (s:RSt):RSt:=up (jd wo (nth f.blocks (nth s.2 i).toNat).term.to) (nth f.blocks (nth s.2 i).toNat).term.to.length s
def rchS (f:ah) (wo:Int):Nat→Nat→RSt→RSt
 | 0,_,s=>s
 | n+1,i,s=>if i<s.2.length then rchS f wo n (i+1) (tE f wo i s) else s
def rch0 (f:ah) (wo:Int):RSt:=if wo≠0∧0<f.blocks.length then((List.replicate f.blocks.length false).set 0 true,[0]) else(List.replicate f.blocks.length false,[])
def eo (f:ah) (wo:Int):List Bool:=(rchS f wo (f.blocks.length+1) 0 (rch0 f wo)).1
structure ROk (n:Nat) (s:RSt):Prop where
 len:s.1.length=n
 cnt:s.2.length+cW s.1≤n
 rng : ∀x∈s.2,0≤x∧x<n
variable{wo:Int}
theorem xV{n:Nat}{to:List Int}{k:Nat}{s:RSt}(h:ROk n s):ROk n (jd wo to k s):=by
 unfold jd
 split
 ·rename_i hc
  have hf:=iP (t:=s.1) (i:=(nth to k).toNat) (by omega) hc.2.1
  refine⟨by simpa using h.len,?_,fun x hx=>?_⟩
  ·have:=h.cnt
   simp only[List.length_append,List.length_singleton];omega
  ·rcases List.mem_append.1 hx with hx | hx
   ·exact h.rng x hx
   ·rw[List.mem_singleton.1 hx,←h.len];exact hc.1
 ·exact h
theorem tW{n:Nat}{to:List Int}{s:RSt}(h:ROk n s)(m:Nat):ROk n (up (jd wo to) m s):=qW (ROk n) (fun k x hx=>xV hx) m s h
theorem xh{f:ah}:ROk f.blocks.length (rch0 f wo):=by
 unfold rch0
 have hfa:cW (List.replicate f.blocks.length false)=f.blocks.length:=by simp[cW]
 split
 ·rename_i hc
  have hf:=iP (t:=List.replicate f.blocks.length false) (i:=0) (by simpa using hc.2) (by rw[ak (by simpa using hc.2)];simp)
  exact⟨by simp,by simp only[List.length_singleton];omega,fun x hx=>by rw[List.mem_singleton.1 hx];omega⟩
 ·exact⟨by simp,by simp only[List.length_nil];omega,fun x hx=>by cases hx⟩
theorem Bz {f:ah} {wo:Int} : ∀{m i:Nat} {s:RSt},ROk f.blocks.length s→ROk f.blocks.length (rchS f wo m i s)
 | 0,_,_,h=>h
 | m+1,i,s,h=>by
  rw[rchS]
  split
  ·exact Bz (tW h _)
  ·exact h
theorem qv{f:ah}:(eo f wo).length=f.blocks.length:=(Bz xh).len
def pG (vo vq:Value) (s:RSt):Own:=fun k=>if k=(0,0) then it T.bool vo s.1 else if k=(0,1) then it T.int vq s.2 else none
theorem sQ{f:ah}{v:Value}{h:Heap}(hv:Rd (vw h) v f)(hn:f.blocks.length≤1000000):
  aB Tryz.prog N.cx #[v,.int .i64 wo] h (fun u h'=>(vw h).le (vw h')∧SlRd (fresh h h') u (eo f wo)):=by
 refine ao (args:=[v,.int .i64 wo]) follows F.cx E.cx (Nat.le_of_ble_eq_true (by kernel_rfl)) fun K hK=>?_
 dsimp only[L.cx]
 refine aa fun z hz=>?_
 simp
 refine ic rfl hv fun h1 _ hle1 hsz1 hat=>?_
 obtain⟨_,vb,cb⟩:=gW hat
 generalize h.size=B at cb
 rw[hz];clear hz z
 refine aa fun z hz=>?_
 simp[cb.1,cb.2.len]
 refine mH (α:=Bool) (W:=vw h1) (k:=.i64) (n:=f.blocks.length) (d:=false) El.mJ (by simp) (by simp) rfl (by omega) (by omega) fun vo h2 o2 m2 hle2 hb2=>?_
 have w2:=(Owns.start (h:=h1) (View.le_refl (vw h1))).add (k:=(0,0)) rfl o2 hle2 (fun b hb=>by rw[hb2]at hb;cases hb;exact Nat.le_refl _)
 rw[hz];clear hz z
 refine aa fun z hz=>?_
 simp
 refine sC (α:=Int) El.bc fun h3 hle3 hsz3 own3=>?_
 have w3:=w2.add (k:=(0,1)) rfl (own3 _) hle3 (fun b hb=>by simp only[Value.ownBlock,Option.some.injEq]at hb;omega)
 have w3:Owns (vw h1) h3 (pG vo (.slice (some ⟨h2.size,0,none⟩) 0 0) (List.replicate f.blocks.length false,[])):=w3.congr fun q=>by
  unfold pG Own.upd
  repeat' split
  all_goals first | rfl | simp_all
 generalize Value.slice (some ⟨h2.size,0,none⟩) 0 0=vq at w3
 rw[hz];clear hz z
 refine aa fun z hz=>?_
 have cc3:=ae w3.wle cb.1
 have cb3:=cb.2.mono w3.wle
 have fin : ∀(h4:Heap) (vq:Value) (tl:Env),Owns (vw h1) h4 (pG vo vq (rch0 f wo))→@LC.wp noPP Tryz.prog z (@eQ [.tmp 4] K) ([(0,v),(1,.int .i64 wo),(2,.pointer (some ⟨B,0,none⟩)),(4,.slice none 0 0),(5,vo),(6,vq)]++tl) h4:=by
  intro h4 vq tl w4
  rw[hz];clear hz z
  refine aa fun z hz=>?_
  simp
  refine gq [1,2,5,6,7] (fun m ρ h5=>∃(i:Nat) (s:RSt) (vq:Value),i≤f.blocks.length∧m=f.blocks.length+1-i∧ρ=[(1,.int .i64 wo),(2,.pointer (some ⟨B,0,none⟩)),(5,vo),(6,vq),(7,.int .i64 i)]∧Owns (vw h1) h5 (pG vo vq s)∧ROk f.blocks.length s∧
   (rchS f wo m i s).1=eo f wo) (f.blocks.length+1) ⟨0,_,vq,by omega,rfl,by simp[bm,aj],w4,xh,rfl⟩ ?_
  rintro m ρ h5 ⟨i,s,vq5,hi,rfl,rfl,w5,hok,hfin⟩ K2 hK2
  have no:=w5.now (k:=(0,0)) (v:=vo) (l:=s.1) rfl
  have nq:=w5.now (k:=(0,1)) (v:=vq5) (l:=s.2) rfl
  have hcnt:=hok.cnt
  by_cases hlt:i<s.2.length
  ·have hm:f.blocks.length+1-i=(f.blocks.length-i)+1:=by omega
   rw[hm,rchS,if_pos hlt]at hfin
   obtain⟨r0,r1⟩:=hok.rng _ (bw hlt)
   have cb5:=cb.2.mono w5.wle
   obtain⟨w,hw⟩:=sF cb5 (i:=(nth s.2 i).toNat) (by omega)
   obtain⟨w',hw'⟩:=sF cb.2 (i:=(nth s.2 i).toNat) (by omega)
   have eww:w'=w:=Option.some.inj ((ae w5.wle hw'.1).symm.trans hw.1)
   rw[eww]at hw'
   have hwb:=hw.2.bound
   have hrow:tE f wo i s=up (jd wo (nth f.blocks (nth s.2 i).toNat).term.to) (nth f.blocks (nth s.2 i).toNat).term.to.length s:=rfl
   rw[hrow]at hfin
   generalize hto:(nth f.blocks (nth s.2 i).toNat).term.to=to at hw hw' hwb hfin
   refine aa fun y hy=>?_
   simp(disch:=omega)[nq.len,hlt]
   rw[hy];clear hy y
   refine aa fun y hy=>?_
   refine aa fun x hx=>?_
   simp(disch:=omega)[ae w5.wle cb.1,cb5.idxn (N:=6) rfl,nq.idx1 rfl,nq.int (View.le_refl _),hw.1]
   rw[hx];clear hx x
   simp
   refine bM [1,2,5,6,7,8,9] (fun(q:Value) j=>[.int .i64 wo,.pointer (some ⟨B,0,none⟩),vo,q,.int .i64 i,w,.int .i64 j]) (fun q j h6=>Owns (vw h1) h6 (pG vo q (up (jd wo to) j s))) to.length vq5
    rfl (by omega) rfl w5 (fun _ _=>rfl) (fun v j h4 hk m=>by simp[hw.2.len]) ?_ ?_
   ·rintro q j h6 hltj w6 K3 hK3
    have hst:up (jd wo to) (j+1) s=jd wo to j (up (jd wo to) j s):=rfl
    have hok6:=tW (wo:=wo) (to:=to) hok j
    generalize up (jd wo to) j s=s6 at w6 hst hok6
    have no6:=w6.now (k:=(0,0)) (v:=vo) (l:=s6.1) rfl
    have nq6:=w6.now (k:=(0,1)) (v:=q) (l:=s6.2) rfl
    have hcnt6:=hok6.cnt
    have hlen6:=hok6.len
    have hr6:=hw'.2.mono w6.wle
    have hrng:=hw'.2.range hltj
    rw[jd]at hst
    by_cases c1:0≤nth to j∧nth to j<s6.1.length
    ·have c1a:=c1.1
     have c1b:=c1.2
     cases c2:nth s6.1 (nth to j).toNat with
     | true=>
      rw[if_neg (by rw[c2];simp)]at hst
      simp(disch:=omega)[hr6.idx1 rfl,hr6.int (View.le_refl _),no6.len,no6.idx1 rfl,no6.bool (View.le_refl _),c1a,c1b,c2]
      exact hK3 q _ _ rfl rfl (by rw[hst];exact w6)
     | false=>
      by_cases c3:nth to j=wo
      ·rw[if_neg (by simp[c3])]at hst
       rw[c3]at c1a c1b c2
       simp(disch:=omega)[hr6.idx1 rfl,hr6.int (View.le_refl _),no6.len,no6.idx1 rfl,no6.bool (View.le_refl _),c1a,c1b,c2,c3]
       exact hK3 q _ _ rfl rfl (by rw[hst];exact w6)
      ·rw[if_pos ⟨c1,c2,c3⟩]at hst
       refine aa fun x hx=>?_
       simp(disch:=omega)[hr6.idx1 rfl,hr6.int (View.le_refl _),no6.len,no6.idx1 rfl,no6.bool (View.le_refl _),c1a,c1b,c2,c3]
       rw[hx];clear hx x
       simp(disch:=omega)[hr6.idx1 rfl,hr6.int (View.le_refl _),no6.idx1 rfl]
       refine w6.pt (k:=(0,0)) (α:=Bool) (l:=s6.1) (v:=vo) (i:=(nth to j).toNat) (d:=true) rfl (by kernel_rfl) (by simp[show Rep.n Bool=1 from rfl]) (by simp<;>rfl) (by omega) HV fun h7 w7 hs7=>?_
       have hr7:=hw'.2.mono w7.wle
       simp(disch:=omega)[hr7.idx1 rfl,hr7.int (View.le_refl _)]
       refine w7.gL (k:=(0,1)) (α:=Int) (v:=q) (l:=s6.2) (d:=nth to j) rfl El.bc (by simp<;>rfl) (mS hrng.1 hrng.2) (by omega) (by omega) (fun _=>by simp) (fun _=>by simp) fun u q8 h8 w8 hs8=>?_
       refine hK3 q8 _ _ rfl rfl ?_
       rw[hst]
       refine w8.congr fun q=>?_
       unfold pG Own.upd
       repeat' split
       all_goals first | rfl | simp_all
    ·rw[if_neg (fun e=>c1 e.1)]at hst
     by_cases c1a:0≤nth to j
     ·have c1b:¬nth to j<s6.1.length:=fun e=>c1 ⟨c1a,e⟩
      simp(disch:=omega)[hr6.idx1 rfl,hr6.int (View.le_refl _),no6.len,c1a,c1b]
      exact hK3 q _ _ rfl rfl (by rw[hst];exact w6)
     ·simp(disch:=omega)[hr6.idx1 rfl,hr6.int (View.le_refl _),no6.len,c1a]
      exact hK3 q _ _ rfl rfl (by rw[hst];exact w6)
   ·rintro q h6 w6
    simp
    rw[hy];clear hy y
    simp(disch:=omega)
    exact hK2 (f.blocks.length+1-(i+1)) _ _ (by omega) ⟨i+1,_,q,by omega,rfl,by simp[bm],w6,tW hok _,by rw[show f.blocks.length+1-(i+1)=f.blocks.length-i by omega];exact hfin⟩
  ·have hlt':¬(i:Int)<s.2.length:=by omega
   simp(disch:=omega)[L.cx.l1,nq.len,hlt]
   rw[hz];clear hz z
   simp
   have hs1:s.1=eo f wo:=by
    rw[←hfin]
    cases f.blocks.length+1-i with
    | zero=>rfl
    | succ m=>rw[rchS,if_neg hlt]
   have ow:=w5.get (k:=(0,0)) (v:=vo) (l:=s.1) rfl
   refine hK _ _ ⟨View.le_trans hle1 w5.wle,?_⟩
   rw[←hs1]
   have ow':OwnT nothing h5 T.bool vo s.1:=ow
   refine ow'.fresh (fun _ _ h=>by cases h) fun b hb=>?_
   rw[hb2]at hb;cases hb
   exact View.dh (View.le_refl _) (by omega)
 by_cases c1:wo=0
 ·have hr0:rch0 f wo=(List.replicate f.blocks.length false,[]):=by rw[rch0,if_neg (fun e=>e.1 c1)]
  rw[hr0]at fin
  simp[cc3,cb3.len,c1]
  rw[c1]at fin
  exact fin _ _ _ w3
 ·by_cases c2:0<f.blocks.length
  ·have hr0:rch0 f wo=((List.replicate f.blocks.length false).set 0 true,[0]):=by rw[rch0,if_pos ⟨c1,c2⟩]
   rw[hr0]at fin
   have no:=w3.now (k:=(0,0)) (v:=vo) (l:=List.replicate f.blocks.length false) rfl
   refine aa fun y hy=>?_
   simp(disch:=omega)[cc3,cb3.len,c1,c2]
   rw[hy];clear hy y
   have i0:Bn.ev (.idx 1) vo (.int .i64 0)=some (.pointer (some ((slA vo).add 0))):=no.idx1 rfl (by omega) (by simpa using c2)
   simp(disch:=omega)[i0]
   refine w3.pt (k:=(0,0)) (α:=Bool) (l:=List.replicate f.blocks.length false) (v:=vo) (i:=0) (d:=true) rfl (by kernel_rfl) (by simp[show Rep.n Bool=1 from rfl]) (by simp<;>rfl) (by simpa using c2) HV fun h4 w4 hs4=>?_
   refine w4.gL (k:=(0,1)) (α:=Int) (v:=vq) (l:=[]) (d:=0) rfl El.bc (by simp<;>rfl) (mS (by omega) (by omega)) (by simp) (by simp) (fun _=>by simp) (fun _=>by simp) fun u q5 h5 w5 hs5=>?_
   refine fin _ _ _ (w5.congr fun q=>?_)
   unfold pG Own.upd
   repeat' split
   all_goals first | rfl | simp_all
  ·have hr0:rch0 f wo=(List.replicate f.blocks.length false,[]):=by rw[rch0,if_neg (fun e=>c2 e.2)]
   rw[hr0]at fin
   simp[cc3,cb3.len,c1,c2]
   exact fin _ _ _ w3
instance:Rep Th:=Rep.via fun d=>Cat.mk d.blk (Cat.mk d.place (Cat.mk d.mks d.tks))
theorem Th.G5:Part Th Int 0 Th.blk (fun d x=>{ d with blk:=x }):=(Part.fst Part.all).via (fun _=>rfl) fun _ _=>rfl
theorem Th.Iu:Part Th (List Int) 2 Th.mks (fun d x=>{ d with mks:=x }):=(Part.snd (Part.snd (Part.fst Part.all))).via (fun _=>rfl) fun _ _=>rfl
structure ThR where
 blk:Int
 place:Int
 mks:List Int
 tks:Raw
instance:Rep ThR:=Rep.via fun d=>Cat.mk d.blk (Cat.mk d.place (Cat.mk d.mks d.tks))
theorem ThR.GV:Part ThR Raw 3 ThR.tks (fun d x=>{ d with tks:=x }):=(Part.snd (Part.snd (Part.snd Part.all))).via (fun _=>rfl) fun _ _=>rfl
theorem DQ{H:View}{a b:Int}{u q:Value}{m t:List Int}(ha:I64 a)(hb:I64 b)(hm:SlRd H u m)(ht:SlRd H q t):Rd H (.agg #[.int .i64 a,.int .i64 b,u,q]) (Th.mk a b m t):=
 ⟨_,rfl,[.int .i64 a],[.int .i64 b,u,q],rfl,⟨rfl,ha⟩,[.int .i64 b],[u,q],rfl,⟨rfl,hb⟩,[u],[q],rfl,⟨u,rfl,hm⟩,⟨q,rfl,ht⟩⟩
theorem Hv{H:View}{a b:Int}{u q:Value}{m:List Int}(ha:I64 a)(hb:I64 b)(hm:SlRd H u m)(hq:q.oneCell'=true):Rd H (.agg #[.int .i64 a,.int .i64 b,u,q]) (ThR.mk a b m ⟨q⟩):=
 ⟨_,rfl,[.int .i64 a],[.int .i64 b,u,q],rfl,⟨rfl,ha⟩,[.int .i64 b],[u,q],rfl,⟨rfl,hb⟩,[u],[q],rfl,⟨u,rfl,hm⟩,⟨rfl,hq⟩⟩
theorem Cp{H:View}{cs:List Value}{d:ThR}(h:Rep.rd H cs d): ∃u,cs=[.int .i64 d.blk,.int .i64 d.place,u,d.tks.v]∧I64 d.blk∧I64 d.place∧SlRd H u d.mks:=by
 obtain⟨c1,r1,rfl,⟨rfl,h1⟩,c2,r2,rfl,⟨rfl,h2⟩,c3,r3,rfl,⟨u,rfl,h3⟩,rfl,_⟩:=h
 exact⟨u,rfl,h1,h2,h3⟩
def mX (vo:Value) (l:List Th):Own:=fun k=>if k=(0,0) then it T.eJ vo l else none
def sI (vo:Value) (l:List Th) (D:Nat) (d:ThR) (q:Value) (t:List Int):Own:=fun k=>if k=(0,0) then it T.eJ vo l else if k=(1,0) then bx T.eJ D d else if k=(1,1) then it T.int q t else none
structure ThS (V:View) (h0:Heap) (vo:Value) (l:List Th) (W:View) (h:Heap):Prop where
 own:Owns W h (mX vo l)
 old:Old V h0 W
 le:(vw h0).le (vw h)
 av:Av (vw h0) vo
theorem ThS.ext {V:View} {h0:Heap} {vo:Value} {l:List Th} {W:View} {h h':Heap} (k:ThS V h0 vo l W h) (hle:(vw h).le (vw h')):ThS V h0 vo l (grow W h h') h':=
 ⟨k.own.ext hle,k.old.grow (gu k.le),View.le_trans k.le hle,k.av⟩
variable{ty:TypeId}{us:List (Nat × Value)}
theorem D3{po:OP}{h:Heap}{K:Value→Heap→Prop}{x y z w:Operand}{a b:Int}{u q:Value}(hx:asg us x = .int .i64 a)(hy:asg us y = .int .i64 b)(hz:asg us z=u)(hw:asg us w=q)(hu:u.cells = #[u])(hq:q.cells = #[q])(hk:K (.agg #[.int .i64 a,.int .i64 b,u,q]) h):
  Lft.step Tryz.prog (.build T.eJ #[(0,x),(1,y),(2,z),(3,w)]) ty us h K:=
 aS (z:=.agg #[.int .i64 0,.int .i64 0,.slice none 0 0,.slice none 0 0]) (places:=[(0,1),(1,1),(2,1),(3,1)]) (vs:=[(0,.int .i64 a),(1,.int .i64 b),(2,u),(3,q)]) (cs:=#[.int .i64 a,.int .i64 b,u,q]) (by kernel_rfl) (by kernel_rfl) (by simp[hx,hy,hz,hw])
  (by simp[Instr.fill,hu,hq]) hk
theorem B0{po:OP}{h:Heap}{K:Value→Heap→Prop}{x y z:Operand}{a b:Int}{u:Value}(hx:asg us x = .int .i64 a)(hy:asg us y = .int .i64 b)(hz:asg us z=u)(hu:u.cells = #[u])(hk:K (.agg #[.int .i64 a,.int .i64 b,u,.slice none 0 0]) h):
  Lft.step Tryz.prog (.build T.eJ #[(0,x),(1,y),(2,z)]) ty us h K:=
 aS (z:=.agg #[.int .i64 0,.int .i64 0,.slice none 0 0,.slice none 0 0]) (places:=[(0,1),(1,1),(2,1),(3,1)]) (vs:=[(0,.int .i64 a),(1,.int .i64 b),(2,u)]) (cs:=#[.int .i64 a,.int .i64 b,u,.slice none 0 0]) (by kernel_rfl) (by kernel_rfl) (by simp[hx,hy,hz])
  (by simp[Instr.fill,hu]) hk
theorem BW{po:OP}{h:Heap}{K:Value→Heap→Prop}{x y w:Operand}{a b:Int}{q:Value}(hx:asg us x = .int .i64 a)(hy:asg us y = .int .i64 b)(hw:asg us w=q)(hq:q.cells = #[q])(hk:K (.agg #[.int .i64 a,.int .i64 b,.slice none 0 0,q]) h):
  Lft.step Tryz.prog (.build T.eJ #[(0,x),(1,y),(3,w)]) ty us h K:=
 aS (z:=.agg #[.int .i64 0,.int .i64 0,.slice none 0 0,.slice none 0 0]) (places:=[(0,1),(1,1),(2,1),(3,1)]) (vs:=[(0,.int .i64 a),(1,.int .i64 b),(3,q)]) (cs:=#[.int .i64 a,.int .i64 b,.slice none 0 0,q]) (by kernel_rfl) (by kernel_rfl) (by simp[hx,hy,hw])
  (by simp[Instr.fill,hq]) hk
theorem wT{f:ah}{v:Value}{V:View}{h:Heap}(hv:Rd V v f)(hV:V.le (vw h))(hsm:SmF f):
  aB Tryz.prog N.bX #[v] h (fun u h'=>(vw h).le (vw h')∧SlRd (grow V h h') u (aF f)):=by
 refine ao (args:=[v]) follows F.bX E.bX (Nat.le_of_ble_eq_true (by kernel_rfl)) fun K hK=>?_
 have hn:=hsm.len
 dsimp only[L.bX]
 refine aa fun z hz=>?_
 simp
 refine ln (v:=v) rfl ?_
 have hle1:=bD h (.cells v.cells T.aD)
 have hat1:At (grow V h (h.push (.cells v.cells T.aD))) ⟨h.size,0,none⟩ f:=rD (t:=T.aD) (fz:=(0,0)) (by rw[iJ (Nat.le_refl _)];simp) (hv.mono (cy hV))
 have hs1:(h.push (.cells v.cells T.aD)).size=h.size+1:=by simp
 generalize h.push (.cells v.cells T.aD)=h1 at hle1 hat1 hs1
 have hW1:(grow V h h1).le (vw h1):=kT (View.le_trans hV hle1)
 have old1:Old V h (grow V h h1):=(Old.refl V h).grow (Nat.le_refl _)
 obtain⟨_,vb,cb⟩:=gW hat1
 generalize grow V h h1=W1 at cb hW1 old1
 generalize h.size=B at cb
 rw[hz];clear hz z
 refine aa fun z hz=>?_
 simp
 refine sC (α:=Th) El.gD fun h2 hle2 hsz2 own2=>?_
 have t2:ThS V h (.slice (some ⟨h1.size,0,none⟩) 0 0) [] W1 h2:=⟨((Owns.start hW1).add (k:=(0,0)) rfl (own2 _) hle2 (fun b hb=>by simp only[Value.ownBlock,Option.some.injEq]at hb;omega)).congr fun q=>by
   unfold mX Own.upd
   repeat' split
   all_goals first | rfl | simp_all,old1,View.le_trans hle1 hle2,fun b hb=>by cases hb;exact View.dh (View.le_refl _) (by show h.size≤h1.size;omega)⟩
 generalize Value.slice (some ⟨h1.size,0,none⟩) 0 0=v0 at t2
 rw[hz];clear hz z
 refine aa fun z hz=>?_
 simp
 refine bM [1,3,4] (fun(r:Value) b=>[.pointer (some ⟨B,0,none⟩),r,.int .i64 b]) (fun r b h3=>∃W,W1.le W∧ThS V h r (thTo f b) W h3) f.blocks.length v0
  rfl (by omega) rfl ⟨W1,View.le_refl _,t2⟩ (fun _ _=>rfl) (fun v k h3 hk ⟨W,q1,q2⟩=>by simp[ae (View.le_trans q1 q2.own.wle) cb.1,(cb.2.mono (View.le_trans q1 q2.own.wle)).len]) ?_ ?_
 ·rintro r b h3 hltb ⟨W3,hW3,t3⟩ K2 hK2
  have hl3:=yi hsm (n:=b) (by omega)
  have cb3:=cb.2.mono (View.le_trans hW3 t3.own.wle)
  have cc3:=ae (View.le_trans hW3 t3.own.wle) cb.1
  obtain⟨u,hu,hur⟩:=(cb.2.mono hW3).wh rfl (N:=6) rfl hltb
  have sb:=hsm.blk b hltb
  refine aa fun y hy=>?_
  simp(disch:=omega)[cc3,cb3.idxn (N:=6) rfl,hu _ t3.own.wle]
  refine iA (X:=W3) (z:=.agg #[.slice none 0 0,.slice none 0 0,.int .i64 0,.slice none 0 0,.slice none 0 0,.int .i32 0]) (by kernel_rfl) rfl (by kernel_rfl) hur (fun _=>by simp) (fun _=>by simp) fun h4 hle4 hsz4 hat4=>?_
  have t4:=t3.ext hle4
  have hat4':=hat4 (grow W3 h3 h4) (cy t3.own.wle) (iJ (Nat.le_refl _))
  obtain⟨vp,vi,va,vt,bp,bi,bk,ba,bt⟩:=jK hat4'
  have hW4:=View.le_trans hW3 (cy (h':=h4) t3.own.wle)
  generalize grow W3 h3 h4=W4 at t4 bp bi bk ba bt hW4
  generalize h3.size=D at bp bi bk ba bt
  rw[hy];clear hy y
  refine aa fun y hy=>?_
  simp
  have sp:=sb.phis
  refine bM [1,3,4,5,6] (fun(r:Value) i=>[.pointer (some ⟨B,0,none⟩),r,.int .i64 b,.pointer (some ⟨D,0,none⟩),.int .i64 i]) (fun r i h5=>∃W,W4.le W∧ThS V h r (thTo f b++rows (phiT f b) i) W h5) (nth f.blocks b).phis.length r
   rfl (by omega) rfl ⟨W4,View.le_refl _,by simpa using t4⟩ (fun _ _=>rfl) (fun v k h3 hk ⟨W,q1,q2⟩=>by simp[ae (View.le_trans q1 q2.own.wle) bp.1,(bp.2.mono (View.le_trans q1 q2.own.wle)).len]) ?_ ?_
  ·rintro r i h5 hlti ⟨W5,hW5,t5⟩ K3 hK3
   have bp5:=bp.2.mono hW5
   have bph:=bp5.mono t5.own.wle
   have cph:=ae (View.le_trans hW5 t5.own.wle) bp.1
   have hap:=(bp5.at hlti)
   rw[←ak hlti]at hap
   have hdst:an W5 (((slA vp).add (i*2)).add 0)=some (.int .i64 (nth (nth f.blocks b).phis i).dst):=(hap.part PhiD.je).int
   have hdr:=(hap.part PhiD.je).rng
   obtain⟨vq,hvq⟩:=(hap.part PhiD.mK).sl
   have hvq1:an W5 (((slA vp).add (i*2)).add 1)=some vq:=hvq.1
   have hvq2:=hvq.2
   have hpl:=sb.phi i hlti
   have hpt:phiT f b i=⟨b,-1-i,[(nth (nth f.blocks b).phis i).dst],(nth (nth f.blocks b).phis i).ins.map InD.val⟩:=rfl
   generalize nth (nth f.blocks b).phis i=x at hdst hdr hvq2 hpl hpt
   refine aa fun q hq=>?_
   simp(disch:=omega)[cph,bph.idxn (N:=2) rfl,ae t5.own.wle hdst]
   refine kW (X:=nothing) (ds:=[x.dst]) (vs:=[.int .i64 x.dst]) rfl El.bc (by simp) ⟨dR.2 ⟨rfl,hdr⟩,trivial⟩ cU rfl (by omega) fun u6 h6 hle6 hsz6 hu6 hub6=>?_
   have hu6n:=hu6 (vw h6) cU rfl
   refine B0 rfl rfl rfl hu6n.cells.1 ?_
   simp
   refine jA (n:=4) (v:=.agg #[.int .i64 b,.int .i64 (-1-i),u6,.slice none 0 0]) (z:=.agg #[.int .i64 0,.int .i64 0,.slice none 0 0,.slice none 0 0]) (by kernel_rfl) rfl (by kernel_rfl) rfl (by intro c hc;simp at hc;rcases hc with rfl | rfl | rfl | rfl<;>first | rfl | exact hu6n.cells.2) (fun _=>by simp) (fun _=>by simp) fun h7 hle7 hsz7 hb7=>?_
   have w6:=t5.own.ext hle6
   have w7:=(w6.add (k:=(1,0)) rfl (kz (h:=h7) (d:=ThR.mk b (-1-i) [x.dst] ⟨.slice none 0 0⟩) hb7 (Hv ⟨by omega,by omega⟩ ⟨by omega,by omega⟩ (hu6 _ cU (iJ (Nat.le_refl _))) rfl) (by decide)) hle7 (fun b hb=>by simp only[Value.ownBlock,Option.some.injEq]at hb;omega)).add (k:=(1,1)) rfl (OwnT.nil (α:=Int) _ h7 T.int) (View.le_refl _) (fun b hb=>by simp[Value.ownBlock]at hb)
   have w7:Owns (grow W5 h5 h6) h7 (sI r (thTo f b++rows (phiT f b) i) h6.size (ThR.mk b (-1-i) [x.dst] ⟨.slice none 0 0⟩) (.slice none 0 0) []):=w7.congr fun q=>by
    unfold sI mX Own.upd
    repeat' split
    all_goals first | rfl | simp_all
   have hW7:=View.le_trans hW5 (cy (h':=h6) t5.own.wle)
   have old7:=t5.old.grow (h1:=h5) (h2:=h6) (gu t5.le)
   have hle07:=View.le_trans t5.le (View.le_trans hle6 hle7)
   have hvq7:=hvq2.mono (cy (h':=h6) t5.own.wle)
   have cvq7:=ae (cy (h':=h6) t5.own.wle) hvq1
   generalize grow W5 h5 h6=W7 at w7 hW7 old7 hvq7 cvq7
   have hD7:h.size≤h6.size:=Nat.le_trans (gu t5.le) (gu hle6)
   generalize h6.size=D7 at w7 hD7
   rw[hq];clear hq q
   refine aa fun q hq=>?_
   simp
   refine bM [1,3,4,5,6,7,8] (fun(q:Value) j=>[.pointer (some ⟨B,0,none⟩),r,.int .i64 b,.pointer (some ⟨D,0,none⟩),.int .i64 i,.pointer (some ⟨D7,0,none⟩),.int .i64 j])
    (fun q j h8=>Owns W7 h8 (sI r (thTo f b++rows (phiT f b) i) D7 (ThR.mk b (-1-i) [x.dst] ⟨q⟩) q ((x.ins.map InD.val).take j))∧(vw h).le (vw h8)∧Av (vw h) q) x.ins.length (.slice none 0 0)
    rfl (by omega) rfl ⟨w7,hle07,Av.nil _ _ _⟩ (fun _ _=>rfl) (fun v k h8 hk ⟨w8,q2⟩=>by
     have bp8:=(bp.2.mono hW7).mono w8.wle
     simp(disch:=omega)[ae (View.le_trans hW7 w8.wle) bp.1,bp8.idxn (N:=2) rfl,ae w8.wle cvq7,(hvq7.mono w8.wle).len]) ?_ ?_
   ·rintro q8 j h8 hltj ⟨w8,hle08,av8⟩ K4 hK4
    have bp8:=(bp.2.mono hW7).mono w8.wle
    have hv8:=hvq7.mono w8.wle
    have hai:=(hvq7.at hltj)
    rw[←ak hltj]at hai
    have hval:an W7 (((slA vq).add (j*2)).add 1)=some (.int .i64 (nth x.ins j).val):=(hai.part InD.sS).int
    have hvr:=(hai.part InD.sS).rng
    have hl8:((x.ins.map InD.val).take j).length=j:=by simp;omega
    have htk:(x.ins.map InD.val).take (j+1)=(x.ins.map InD.val).take j++[(nth x.ins j).val]:=by
     rw[List.take_add_one,List.getElem?_map,List.getElem?_eq_getElem hltj,ak hltj];rfl
    have hq8:an (vw h8) ⟨D7,3,none⟩=some q8:=by
     have:=((w8.at (k:=(1,0)) (e:=T.eJ) (B:=D7) (d:=ThR.mk b (-1-i) [x.dst] ⟨q8⟩) rfl).part ThR.GV).raw
     simpa using this
    refine cH (vw h8) (View.le_refl _) ?_
    simp(disch:=omega)[hq8,ae (View.le_trans hW7 w8.wle) bp.1,bp8.idxn (N:=2) rfl,ae w8.wle cvq7,hv8.idxn (N:=2) rfl,ae w8.wle hval]
    refine kN (α:=Int) (W:=W7) El.bc rfl (dR.2 ⟨rfl,hvr⟩) fun u9 h9 hs9 hle9 hsz9=>⟨hle9,?_⟩
    refine(w8.ext' hle9).dW (k:=(1,1)) (α:=Int) (v:=q8) (l:=(x.ins.map InD.val).take j) rfl El.bc rfl rfl hs9 (by simp;omega) (by simp;omega) fun q10 h10 w10 m10=>?_
    have hc10:=w10.cells (k:=(1,1)) (Own.ag)
    obtain⟨hX10,av10⟩:=m10.view (View.le_trans hle08 hle9) av8
    refine w10.vV (k:=(1,0)) (e:=T.eJ) (B:=D7) (D:=ThR.mk b (-1-i) [x.dst] ⟨q8⟩) ThR.GV (d:=⟨q10⟩) rfl (by kernel_rfl) rfl rfl (qH.2 ⟨rfl,hc10.2⟩) fun h11 w11 hX11=>?_
    refine hK4 q10 _ _ rfl rfl ⟨w11.congr fun p=>?_,hX11 _ hX10 (View.dh (View.le_refl _) hD7),av10⟩
    rw[htk]
    unfold sI Own.upd
    repeat' split
    all_goals first | rfl | simp_all
   ·rintro q8 h8 ⟨w8,hle08,av8⟩
    rw[List.take_of_length_le (by simp)]at w8
    simp
    rw[hq];clear hq q
    obtain⟨cs,hcs,hrd⟩:=w8.atW (k:=(1,0)) (e:=T.eJ) (B:=D7) (d:=ThR.mk b (-1-i) [x.dst] ⟨q8⟩) rfl
    obtain⟨u9,rfl,i1,i2,hu9⟩:=Cp hrd
    obtain⟨w9,hq9⟩:=w8.freeze (k:=(1,1)) (v:=q8) (l:=x.ins.map InD.val) rfl
    have hpl9:W7.le (W7.plus q8 h8):=jC (w8.av (1,1) _ rfl)
    have hload:Un.ev (vw h8) (.ar 4) (.pointer (some ⟨D7,0,none⟩))=some (.agg #[.int .i64 b,.int .i64 (-1-i),u9,q8]):=by
     have:=fZ hcs 4 0 #[] (by rfl)
     simp[Un.ev,vP,this]
    have hold9:Old V h (W7.plus q8 h8):=fun c o hc hco=>by
     unfold View.plus at hco
     split at hco
     ·rename_i e
      have:=av8 c e
      simp only[vw]at this
      rw[Array.getElem?_eq_getElem hc]at this;cases this
     ·exact old7 c o hc hco
    have w9:Owns (W7.plus q8 h8) h8 (mX r (thTo f b++rows (phiT f b) i)):=w9.sub fun p x hp=>by
     unfold mX at hp
     split at hp
     ·rename_i e;subst e;exact hp
     ·cases hp
    have hlr:(thTo f b++rows (phiT f b) i).length=(thTo f b).length+i:=by simp
    simp[hload]
    refine w9.th (k:=(0,0)) (α:=Th) (v:=r) (l:=thTo f b++rows (phiT f b) i) (d:=phiT f b i) rfl El.gD rfl (by rw[hpt];exact DQ i1 i2 (hu9.mono hpl9) hq9) (by omega) (by omega) (fun _=>rfl) (fun _=>rfl) fun u10 r10 h10 w10 hX10=>?_
    obtain⟨g1,g2⟩:=hX10 _ hle08 t5.av
    refine hK3 r10 _ _ rfl rfl ⟨W7.plus q8 h8,View.le_trans hW7 hpl9,⟨w10.congr fun p=>?_,hold9,g1,g2⟩⟩
    rw[eZ,←List.append_assoc]
    unfold mX Own.upd
    repeat' split
    all_goals first | rfl | simp_all
  ·rintro r h5 ⟨W5,hW5,t5⟩
   simp
   rw[hy];clear hy y
   refine aa fun y hy=>?_
   simp
   have si:=sb.ins
   refine bM [1,3,4,5,9] (fun(r:Value) i=>[.pointer (some ⟨B,0,none⟩),r,.int .i64 b,.pointer (some ⟨D,0,none⟩),.int .i64 i]) (fun r i h6=>∃W,W4.le W∧ThS V h r (thTo f b++rows (phiT f b) (nth f.blocks b).phis.length++rows (insT f b) i) W h6) (nth f.blocks b).ins.length r
    rfl (by omega) rfl ⟨W5,hW5,by simpa using t5⟩ (fun _ _=>rfl) (fun v k h3 hk ⟨W,q1,q2⟩=>by simp[ae (View.le_trans q1 q2.own.wle) bi.1,(bi.2.mono (View.le_trans q1 q2.own.wle)).len]) ?_ ?_
   ·rintro r i h6 hlti ⟨W6,hW6,t6⟩ K3 hK3
    have bi6:=bi.2.mono hW6
    have bih:=bi6.mono t6.own.wle
    have cih:=ae (View.le_trans hW6 t6.own.wle) bi.1
    obtain⟨ux,hux,huxr⟩:=bi6.wh rfl (N:=5) rfl hlti
    have hap:=(bi6.at hlti)
    rw[←ak hlti]at hap
    obtain⟨vq,hvq⟩:=(hap.part InsD.nB).sl
    have hvq1:an W6 (((slA vi).add (i*5)).add 3)=some vq:=hvq.1
    have hvq2:=hvq.2
    have hpt:insT f b i=⟨b,i,a6 (nth (nth f.blocks b).ins i),(nth (nth f.blocks b).ins i).args⟩:=rfl
    generalize nth (nth f.blocks b).ins i=x at hvq2 huxr hpt
    have hlr:(thTo f b++rows (phiT f b) (nth f.blocks b).phis.length++rows (insT f b) i).length=(thTo f b).length+(nth f.blocks b).phis.length+i:=by simp;omega
    refine cH (vw h6) (View.le_refl _) ?_
    simp(disch:=omega)[cih,bih.idxn (N:=5) rfl,hux _ t6.own.wle,ae t6.own.wle hvq1]
    refine af (by kernel_rfl) (nR (huxr.mono t6.own.wle)) ?_
    rintro u7 h7 ⟨hle7,hu7,_⟩
    refine⟨hle7,?_⟩
    have t7:=t6.ext hle7
    have hu7':=hu7.mono (eT W6 h6 h7)
    have hvq7:=hvq2.mono (cy (h':=h7) t6.own.wle)
    refine D3 rfl rfl rfl rfl hu7.cells.1 hvq2.cells.1 ?_
    simp
    refine t7.own.th (k:=(0,0)) (α:=Th) (v:=r) (l:=thTo f b++rows (phiT f b) (nth f.blocks b).phis.length++rows (insT f b) i) (d:=insT f b i) rfl El.gD rfl (by rw[hpt];exact DQ ⟨by omega,by omega⟩ ⟨by omega,by omega⟩ hu7' hvq7) (by omega) (by omega) (fun _=>rfl) (fun _=>rfl) fun u10 r10 h10 w10 hX10=>?_
    obtain⟨g1,g2⟩:=hX10 _ t7.le t7.av
    refine hK3 r10 _ _ rfl rfl ⟨_,View.le_trans hW6 (cy (h':=h7) t6.own.wle),⟨w10.congr fun p=>?_,t7.old,g1,g2⟩⟩
    rw[eZ,←List.append_assoc]
    unfold mX Own.upd
    repeat' split
    all_goals first | rfl | simp_all
   ·rintro r h6 ⟨W6,hW6,t6⟩
    simp
    rw[hy];clear hy y
    have hW6h:=View.le_trans hW6 t6.own.wle
    have bih:=bi.2.mono hW6h
    have cih:=ae hW6h bi.1
    have hlr:(thTo f b++rows (phiT f b) (nth f.blocks b).phis.length++rows (insT f b) (nth f.blocks b).ins.length).length=(thTo f b).length+(nth f.blocks b).phis.length+(nth f.blocks b).ins.length:=by simp;omega
    simp[cih,bih.len,ae hW6h ba.1]
    refine BW rfl rfl rfl (ba.2.cells.1) ?_
    simp
    refine t6.own.th (k:=(0,0)) (α:=Th) (v:=r) (l:=thTo f b++rows (phiT f b) (nth f.blocks b).phis.length++rows (insT f b) (nth f.blocks b).ins.length) (d:=endT f b) rfl El.gD rfl (DQ ⟨by omega,by omega⟩ ⟨by omega,by omega⟩ gk (ba.2.mono hW6)) (by omega) (by omega) (fun _=>rfl) (fun _=>rfl) fun u10 r10 h10 w10 hX10=>?_
    obtain⟨g1,g2⟩:=hX10 _ t6.le t6.av
    refine hK2 r10 _ _ rfl rfl ⟨_,View.le_trans hW4 hW6,⟨w10.congr fun p=>?_,t6.old,g1,g2⟩⟩
    have e:thTo f (b+1)=thTo f b++rows (phiT f b) (nth f.blocks b).phis.length++rows (insT f b) (nth f.blocks b).ins.length++[endT f b]:=by
     rw[eK,thB];simp[List.append_assoc]
    rw[e]
    unfold mX Own.upd
    repeat' split
    all_goals first | rfl | simp_all
 ·rintro r h3 ⟨W3,hW3,t3⟩
  simp
  rw[hz];clear hz z
  simp
  exact hK _ _ ⟨t3.le,(t3.own.get (k:=(0,0)) (v:=r) (l:=thTo f f.blocks.length) rfl).rd (t3.old.le t3.own.wle) fun b hb=>by
   have:=t3.av b hb
   rw[iJ]
   rcases Nat.lt_or_ge b h.size with hlt | hge
   ·simp[vw,hlt]at this
   ·exact hge⟩
structure GotD where
 e:Int
 b:Int
 p:Int
instance:Rep GotD:=Rep.via fun d=>Cat.mk d.e (Cat.mk d.b d.p)
abbrev BL:=List Bool
def oG (t:Th) (j:Nat) (m:BL):Except Tr BL:=if nth m (nth t.mks j).toNat then .error (12,t.blk,t.place) else .ok (m.set (nth t.mks j).toNat true)
def fQ (f:ah) (t:Th):BlkD:=nth f.blocks t.blk.toNat
def tL (f:ah) (t:Th):InsD:=nth (fQ f t).ins t.place.toNat
def lH (f:ah) (t:Th):Bool:=decide (0≤t.place)&&decide (t.place<(fQ f t).ins.length)
def jh (f:ah) (t:Th):Bool:=decide (t.place=(fQ f t).ins.length)
def lh (s:InsD):Bool:=decide (s.op<1)||decide (18<s.op)||!qz s.op s.args.length
def lr (f:ah) (n:Int):Bool:=decide (n<f.params)||decide (8191<n)
def tz (f:ah) (n:Int):Bool:=decide (n<1)||decide ((f.blocks.length:Int)≤n)
def mq (f:ah) (t:Th):Except Tr BL→Except Tr BL
 | .error e=>.error e
 | .ok m'=>if jh f t&&(fQ f t).term.to.any (tz f) then .error (14,t.blk,t.place) else .ok m'
def iL (f:ah) (t:Th) (m:BL):Except Tr BL:=
 if lH f t&&lh (tL f t) then .error (10,t.blk,t.place)
 else if jh f t&&!jq (fQ f t).term then .error (10,t.blk,t.place)
 else if t.mks.any (lr f) then .error (11,t.blk,t.place)
 else mq f t (upE (oG t) t.mks.length m)
def kf (f:ah):Except Tr BL:=upE (fun i m=>iL f (nth (aF f) i) m) (aF f).length (List.replicate 8192 false)
def uS {α:Type}:Except Tr α→Tr | .ok _=>(0,0,0) | .error t=>t
def noTh:Th:=⟨-1,0,[],[]⟩
def fm (t:Th) (l:List Th) (n:Int):List Th:=if 0≤n∧n<8192 then l.set n.toNat t else l
def pU (l:List Th) (t:Th):List Th:=t.mks.foldl (fm t) l
def wX (ts:List Th):List Th:=ts.foldl pU (List.replicate 8192 noTh)
theorem mB{t:Th}{l:List Th}{n:Int}:(fm t l n).length=l.length:=by unfold fm;split<;>simp
theorem Ap{t:Th}{l:List Th}:(pU l t).length=l.length:=oe (f:=fm t) (fun x:List Th=>x.length=l.length) (fun _ _ h=>mB.trans h) _ _ rfl
theorem AI{ts:List Th}:(wX ts).length=8192:=oe (f:=pU) (fun x:List Th=>x.length=8192) (fun _ _ h=>Ap.trans h) _ _ (List.length_replicate ..)
def iq (f:ah) (made:List Th) (away:List BL) (v blk place:Int):Bool:=
 if 0≤v∧v<f.params then true
 else if(v<0∨8191<v)∨(nth made v.toNat).blk<0 then false
 else if(nth made v.toNat).blk=blk then decide ((nth made v.toNat).place<0)||decide ((nth made v.toNat).place<place)
 else !nth (nth away (nth made v.toNat).blk.toNat) blk.toNat
def oX (f:ah) (t:Th):PhiD:=nth (fQ f t).phis (-1-t.place).toNat
def nE (f:ah) (b:Int):Int:=((nth f.blocks b.toNat).ins.length:Nat)
def qm (f:ah) (t:Th):Bool:=decide (0<t.blk)&&decide ((oX f t).ins.map InD.frm=aw f t.blk)
def stT (f:ah) (made:List Th) (away:List BL) (t:Th) (x:Int):Bool:=!iq f made away x t.blk t.place
def stP (f:ah) (made:List Th) (away:List BL) (p:InD):Bool:=!iq f made away p.val p.frm (nE f p.frm)
def iu (f:ah) (made:List Th) (away:List BL) (t:Th):Except Tr Unit:=
 if 0≤t.place then(if t.tks.any (stT f made away t) then .error (13,t.blk,t.place) else .ok ())
 else if !qm f t then .error (16,t.blk,t.place)
 else if(oX f t).ins.any (stP f made away) then .error (13,t.blk,t.place)
 else .ok ()
def iD (f:ah):List Th:=wX (aF f)
def gK (f:ah):List BL:=rows (fun b=>eo f b) f.blocks.length
def jc (f:ah):Nat→Nat
 | 0=>f.blocks.length
 | n+1=>jc f n+(nth f.blocks n).phis.length+(nth f.blocks n).ins.length
def wayE (f:ah):Except Tr Unit:=upE (fun b _=>if nth (eo f (-1)) b=true then .ok () else .error (15,b,0)) f.blocks.length ()
def zr (f:ah):Except Tr Unit:=upE (fun i _=>iu f (iD f) (gK f) (nth (aF f) i)) (aF f).length ()
def Io:Except Tr Unit→Except Tr Unit→Except Tr Unit
 | .ok _,y=>y
 | .error e,_=>.error e
def tg (f:ah):Tr:=
 if f.params<0∨4<f.params then(1,0,0)
 else if f.blocks.length=0 then(14,0,0)
 else if 512<f.blocks.length∨4096<jc f f.blocks.length then(2,0,0)
 else if(uS (kf f)).1≠0 then uS (kf f)
 else uS (Io (wayE f) (zr f))
theorem xM {σ ε:Type} {f:Nat→σ→Except ε σ} {s:σ} {t:ε} : ∀{n:Nat},upE f n s = .error t→∃k s',k<n∧upE f k s = .ok s'∧f k s' = .error t
 | n+1,h=>by
  simp only[upE]at h
  split at h
  ·rename_i s' hs
   exact⟨n,s',Nat.lt_succ_self n,hs,h⟩
  ·rename_i t' ht
   cases h
   obtain⟨k,s',h1,h2⟩:=xM ht
   exact⟨k,s',Nat.lt_succ_of_lt h1,h2⟩
theorem zG{f:ah}{t:Th}{m:BL}{e:Tr}(h:iL f t m = .error e):(10≤e.1∧e.1≤14)∧e.2.1=t.blk∧e.2.2=t.place:=by
 unfold iL at h
 split at h
 ·cases h;simp
 ·split at h
  ·cases h;simp
  ·split at h
   ·cases h;simp
   ·unfold mq at h
    split at h
    ·rename_i e' he
     cases h
     obtain⟨k,s',_,_,h3⟩:=xM he
     unfold oG at h3
     split at h3
     ·cases h3;simp
     ·cases h3
    ·split at h
     ·cases h;simp
     ·cases h
theorem CV{n:Int}(hn:0≤n){ts:List Th}(h : ∀t∈ts,t.blk<n){i:Nat}(hi:i<8192):(nth (wX ts) i).blk<n:=by
 have key : ∀(ts:List Th),(∀t∈ts,t.blk<n)→∀l:List Th,(∀x∈l,x.blk<n)→∀x∈ts.foldl pU l,x.blk<n:=by
  intro ts
  induction ts with
  | nil=>exact fun _ l hl=>hl
  | cons t ts ih=>
   intro ht l hl
   refine ih (fun x hx=>ht x (List.mem_cons_of_mem _ hx)) _ ?_
   refine oe (f:=fm t) (fun l:List Th=>∀x∈l,x.blk<n) (fun l a hl x hx=>?_) _ _ hl
   unfold fm at hx
   split at hx
   ·rcases List.mem_or_eq_of_mem_set hx with h | rfl
    ·exact hl x h
    ·exact ht _ List.mem_cons_self
   ·exact hl x hx
 refine key ts h _ (fun x hx=>?_) _ (bw (by show i<(wX ts).length;rw[AI];exact hi))
 rw[(List.mem_replicate.1 hx).2];show(-1:Int)<n;omega
def pw (f:ah) (b:Nat) (t:Th):Bool:=decide (t.blk=b)||!nth (eo f t.blk) b
def dP (f:ah) (b:Nat) (out:List Int) (t:Th):List Int:=if pw f b t then out++t.mks else out
def fM (f:ah) (b:Nat):List Int:=(aF f).foldl (dP f b) (rows (fun i=>(i:Int)) f.params.toNat)
def rH (v:Value) (l:List Int):Own:=fun k=>if k=(0,0) then it T.int v l else none
theorem wC{v v':Value}{l l':List Int}(q:Key):rH v' l' q=(rH v l).upd (0,0) (it T.int v' l') q:=by
 unfold rH Own.upd
 repeat' split
 all_goals first | rfl | simp_all
theorem vR{l:List Th}{f:ah}{c:Nat}(hl : ∀t∈l,t.mks.length≤c): ∀{out:List Int},(l.foldl (dP f b) out).length≤out.length+c*l.length:=by
 induction l with
 | nil=>intro out;simp
 | cons t l ih=>
  intro out
  have h1:=ih (fun t ht=>hl t (by simp[ht])) (out:=dP f b out t)
  have h2:(dP f b out t).length≤out.length+c:=by
   unfold dP
   have:=hl t (by simp)
   split
   ·rw[List.length_append];omega
   ·omega
  rw[List.foldl_cons,List.length_cons,Nat.mul_succ]
  omega
theorem Av.ID{V W:View}{v:Value}(hw:Av W v)(h:V.le W):Av V v:=fun b hb=>by
 cases hv:V b with
 | none=>rfl
 | some x=>have:=h b x hv;rw[hw b hb]at this;cases this
theorem yb{W W':View}{h:Heap}{e:TypeId}{v:Value}{l:List Int}(o:OwnT W h e v l):OwnT W' h e v l:=by
 obtain⟨b,xs,h1,h2⟩:=o
 exact⟨b,xs,h1,fun i hi=>h2 i hi⟩
theorem IB{h:Heap}{v:Value}(ha:Av (vw h) v): ∀b,v.ownBlock=some b→h.size≤b:=fun b hb=>by
 have:h[b]? = none:=ha b hb
 rwa [Array.getElem?_eq_none_iff]at this
theorem ze{f:ah}{v:Value}{h:Heap}(hv:Rd (vw h) v f)(hsm:SmF f)(hp:0≤f.params∧f.params≤1000)(hb:b<f.blocks.length)(hmk : ∀t∈aF f,t.mks.length≤1000)(hth:(aF f).length≤1000000):
  aB Tryz.prog N.cc #[v,.int .i64 b] h (fun u h'=>(vw h).le (vw h')∧(∀b,u.ownBlock=some b→h.size≤b)∧OwnT nothing h' T.int u (fM f b)):=by
 refine ao (args:=[v,.int .i64 b]) follows F.cc E.cc (Nat.le_of_ble_eq_true (by kernel_rfl)) fun K hK=>?_
 dsimp only[L.cc]
 refine aa fun z hz=>?_
 simp
 refine ic rfl hv fun h1 _ hle1 hs1 hat=>?_
 obtain⟨cp,vb,cb⟩:=gW hat
 obtain⟨uf,huf,hufr⟩:=hat.ar rfl
 have huf:Un.ev (vw h1) (.ar 2) (.pointer (some ⟨h.size,0,none⟩))=some uf:=huf
 generalize h.size=B at cp cb huf
 rw[hz];clear hz z
 refine aa fun z hz=>?_
 simp
 refine(Owns.start (h:=h1) (View.le_refl (vw h1))).jn (k:=(0,0)) (α:=Int) rfl El.bc fun vo h2 hle2 hvo w2 _=>?_
 have w2:Owns (vw h1) h2 (rH vo []):=w2.congr fun q=>by
  unfold rH Own.upd
  split<;>rfl
 rw[hz];clear hz z
 refine aa fun z hz=>?_
 simp
 obtain⟨n,hn⟩ : ∃n:Nat,n=f.params.toNat:=⟨_,rfl⟩
 have hpn:f.params=n:=by omega
 rw[hpn]at cp
 refine bM [0,1,2,5,6] (fun(vo:Value) i=>[v,.int .i64 b,.pointer (some ⟨B,0,none⟩),vo,.int .i64 i]) (fun vo i h3=>Owns (vw h1) h3 (rH vo (rows (fun i=>(i:Int)) i))) n vo
  rfl (by omega) rfl w2 (fun _ _=>rfl) (fun v k h3 hk m=>by simp[ae m.wle cp]) ?_ ?_
 ·rintro vo i h3 hlt w3 K2 hK2
  simp
  refine w3.gL (k:=(0,0)) (α:=Int) (v:=vo) (l:=rows (fun i=>(i:Int)) i) (d:=(i:Int)) rfl El.bc rfl (dR.2 ⟨rfl,by constructor<;>omega⟩) (by simp;omega) (by simp;omega) (fun _=>rfl) (fun _=>rfl) fun u v' h4 w4 _=>?_
  refine hK2 v' _ _ rfl rfl (w4.congr fun q=>?_)
  rw[eZ];exact wC q
 ·rintro vo h3 w3
  simp
  rw[hz];clear hz z
  refine aa fun z hz=>?_
  have huf3:Un.ev (vw h3) (.ar 2) (.pointer (some ⟨B,0,none⟩))=some uf:=by
   have:=de (ρ:=fun _=>none) (e:=.un (.ar 2) (.con (.pointer (some ⟨B,0,none⟩)))) w3.wle (by simpa using huf)
   simpa using this
  simp[huf3]
  refine af (by kernel_rfl) (wT hufr w3.wle hsm) ?_
  rintro vt h4 ⟨hle4,hst⟩
  have w4:=w3.ext hle4
  have hW4:=cy (h':=h4) w3.wle
  generalize grow (vw h1) h3 h4=W4 at hst w4 hW4
  rw[hz];clear hz z
  refine aa fun z hz=>?_
  simp
  have hsd:fM f b=(aF f).foldl (dP f b) (rows (fun i=>(i:Int)) n):=by rw[hn];rfl
  have hlen : ∀i,((List.take i (aF f)).foldl (dP f b) (rows (fun i=>(i:Int)) n)).length≤1001001000:=fun i=>by
   have h1:=vR (l:=List.take i (aF f)) (f:=f) (b:=b) (c:=1000) (fun t ht=>hmk t (List.mem_of_mem_take ht)) (out:=rows (fun i=>(i:Int)) n)
   have h2:(List.take i (aF f)).length≤(aF f).length:=by simp;omega
   rw[lS]at h1
   omega
  generalize rows (fun i=>(i:Int)) n=base at w4 hsd hlen
  have tb:=hst.bound
  refine bM [0,1,2,5,7,8] (fun(vo:Value) i=>[v,.int .i64 b,.pointer (some ⟨B,0,none⟩),vo,vt,.int .i64 i]) (fun vo i h5=>∃W,W4.le W∧Owns W h5 (rH vo ((List.take i (aF f)).foldl (dP f b) base))) (aF f).length vo
   rfl (by omega) rfl ⟨W4,View.le_refl _,w4⟩ (fun _ _=>rfl) (fun v k h5 hk ⟨W,q1,q2⟩=>by simp[hst.len]) ?_ ?_
  ·rintro vo i h5 hlt ⟨W5,hW5,w5⟩ K2 hK2
   have hst5:=hst.mono hW5
   have hl5:=hlen i
   have hsucc:(List.take (i+1) (aF f)).foldl (dP f b) base=dP f b ((List.take i (aF f)).foldl (dP f b) base) (nth (aF f) i):=by
    rw[List.take_succ_eq_append_getElem hlt,List.foldl_append,ak hlt];rfl
   generalize (List.take i (aF f)).foldl (dP f b) base=out at w5 hsucc hl5
   have hat5:=hst5.at hlt
   rw[←ak hlt]at hat5
   have hmt:=hmk _ (bw hlt)
   generalize nth (aF f) i=t at hat5 hsucc hmt
   have hblk:an W5 (((slA vt).add (i*4)).add 0)=some (.int .i64 t.blk):=(hat5.part Th.G5).int
   obtain⟨vm,hvm⟩:=(hat5.part Th.Iu).sl
   have hvm1:an W5 (((slA vt).add (i*4)).add 2)=some vm:=hvm.1
   have hvm2:=hvm.2
   have h64:=(hat5.part Th.G5).rng
   simp only[aJ]
   refine aa fun y hy=>?_
   simp
   rw[hy];clear hy y
   refine aa fun y hy=>?_
   have fin : ∀(h6:Heap) (ρ:Env) (W6:View),W5.le W6→Owns W6 h6 (rH vo out)→Lft.look ρ 0=some v→Lft.look ρ 1=some (.int .i64 b)→Lft.look ρ 2=some (.pointer (some ⟨B,0,none⟩))→Lft.look ρ 5=some vo→Lft.look ρ 7=some vt→Lft.look ρ 8=some (.int .i64 i)→Lft.look ρ 9=some (.bool (pw f b t))→
     LC.wp Tryz.prog y (dV 3 (ft K2 (dV 2 (ft (LC.wp Tryz.prog z (eQ [.tmp 4] K)) (eQ [.tmp 4] K))))) ρ h6:=by
    intro h6 ρ W6 hW6 w6 r0 r1 r2 r5 r7 r8 r9
    rw[hy];clear hy y
    refine aa fun y hy=>?_
    simp[aj,al,r9]
    rw[hy];clear hy y
    have hsp:dP f b out t=if pw f b t then out++t.mks else out:=rfl
    rw[hsp]at hsucc
    by_cases ca:pw f b t=true
    ·rw[if_pos ca]at hsucc
     refine a8 (by simp[aj,al,ca]) ?_
     have hst6:=hst5.mono (View.le_trans hW6 w6.wle)
     simp(disch:=omega)[aj,al,r0,r1,r2,r5,r7,r8,hst6.idxn (N:=4) rfl,ae (View.le_trans hW6 w6.wle) hvm1]
     refine w6.dW (k:=(0,0)) (α:=Int) (v:=vo) (l:=out) (l2:=t.mks) rfl El.bc rfl rfl ((hvm2.mono hW6).src w6.wle) (by omega) (by omega) fun v' h7 w7 _=>?_
     refine hK2 v' _ _ ?_ ?_ ⟨W6,View.le_trans hW5 hW6,w7.congr fun q=>?_⟩
     ·simp[aj,al,r8]
     ·simp[bm,aj,al,r0,r1,r2,r5,r7,r8]
     ·rw[hsucc];exact wC q
    ·rw[if_neg ca]at hsucc
     refine aX (by simp[aj,al,ca]) ?_
     simp
     refine hK2 vo _ _ ?_ ?_ ⟨W6,View.le_trans hW5 hW6,by rw[hsucc];exact w6⟩
     ·simp[aj,al,r8]
     ·simp[bm,aj,al,r0,r1,r2,r5,r7,r8]
   refine aa fun x hx=>?_
   simp(disch:=omega)[(hst5.mono w5.wle).idxn (N:=4) rfl,ae w5.wle hblk]
   rw[hx];clear hx x
   by_cases cb:t.blk=b
   ·refine aX (by simp[cb]) ?_
    simp
    refine fin h5 _ W5 (View.le_refl _) w5 ?_ ?_ ?_ ?_ ?_ ?_ ?_
    all_goals simp[pw,cb]
   ·refine a8 (by simp[cb]) ?_
    refine aa fun x hx=>?_
    have hf5:Rd (vw h5) uf f:=hufr.mono (View.le_trans hW4 (View.le_trans hW5 w5.wle))
    have huf5:Un.ev (vw h5) (.ar 2) (.pointer (some ⟨B,0,none⟩))=some uf:=by
     have:=de (ρ:=fun _=>none) (e:=.un (.ar 2) (.con (.pointer (some ⟨B,0,none⟩)))) (View.le_trans hW4 (View.le_trans hW5 w5.wle)) (by simpa using huf)
     simpa using this
    refine cH (vw h5) (View.le_refl _) ?_
    simp(disch:=omega)[(hst5.mono w5.wle).idxn (N:=4) rfl,ae w5.wle hblk,huf5]
    refine af (by kernel_rfl) (sQ hf5 (by have:=hsm.len;omega)) ?_
    rintro ur h6 ⟨hle6,hur⟩
    have w6:=w5.ext hle6
    have hW6:=cy (h':=h6) w5.wle
    have hur6:SlRd (vw h6) ur (eo f t.blk):=hur.mono (gz h5 h6)
    have hrl:(eo f t.blk).length=f.blocks.length:=qv
    rw[hx];clear hx x
    simp(disch:=omega)[hur6.idx1 rfl,hur6.bool (View.le_refl _)]
    refine fin h6 _ _ hW6 w6 ?_ ?_ ?_ ?_ ?_ ?_ ?_
    all_goals simp[pw,cb]
  ·rintro vo h5 ⟨W5,hW5,w5⟩
   rw[List.take_length,←hsd]at w5
   simp
   rw[hz];clear hz z
   simp
   have hX:(vw h).le W5:=View.le_trans hle1 (View.le_trans hW4 hW5)
   exact hK _ _ ⟨View.le_trans hX w5.wle,IB (Av.ID (w5.av (0,0) _ rfl) hX),yb (w5.get (k:=(0,0)) (v:=vo) rfl)⟩
end Go.Proofs.YtbkdlhkoiagbbaaGreat
namespace Go.Lft
open Go
theorem ud {P:Program} {Q:Post} {ρ:Env} {h:Heap} {a i c:Nat} {ks ks2:List Nat} {ce:E} {body:LC} {σ:Type} (kp:List Nat) (vals:σ→Nat→List Value) (J:σ→Nat→Heap→Prop) (n:Nat) (d:Nat) (s0:σ)
  (hok:oO kp ks ks2 c i=true) (hn:n+d≤9223372036854775806) (h0:bm kp ρ=kp.zip (vals s0 0)) (hj:J s0 0 h)
  (hi : ∀s k,look (kp.zip (vals s k)) i=some (.int .i64 ((k+d:Nat):Int)))
  (hb : ∀s k h,k≤n→J s k h→ev (look (kp.zip (vals s k))) (vw h) ce=some (.bool (decide (k<n))))
  (round : ∀s k h,k<n→J s k h→∀K:Env→Heap→Prop,(∀s' ρ' h',look ρ' i=some (.int .i64 ((k+d:Nat):Int))→bm kp (setE ρ' i (.int .i64 (((k+d:Nat):Int)+1)))=kp.zip (vals s' (k+1))→J s' (k+1) h'→K ρ' h')→body.wp P (ft K (dV a Q)) (kp.zip (vals s k)) h)
  (done : ∀s h,J s n h→Q .normal (kp.zip (vals s n)) h):LC.wp P (forC a i c ks ks2 ce body) (dV a Q) ρ h:=by
 simp only[oO,List.all_eq_true,Bool.and_eq_true,Bool.not_eq_true',bne_iff_ne,Bool.or_eq_true,beq_iff_eq,ne_eq]at hok
 refine gq kp (fun m ρ h=>∃s k,k≤n∧ρ=kp.zip (vals s k)∧m=n-k∧J s k h) n ⟨s0,0,by omega,h0,by omega,hj⟩ ?_
 rintro m ρ h ⟨s,k,hk,rfl,rfl,hJ⟩ K hK
 have hkill:bG (kp.zip (vals s k)) ks=kp.zip (vals s k):=kJ fun p hp=>(hok p.1 (jF hp)).1.1
 have hne : ∀p∈kp.zip (vals s k),p.1≠c:=fun p hp=>(hok p.1 (jF hp)).1.2
 have hk2 : ∀v,bG (setE (kp.zip (vals s k)) c v) [c]=kp.zip (vals s k):=fun v=>kK hne
 have hlk : ∀v,look (setE (kp.zip (vals s k)) c v) c=some v:=fun v=>by rw[aj,if_pos rfl]
 simp only[qk,jN,gC,eY,iI,jG,hb s k h hk hJ,Option.bind_some,gR,jH,true_and,cO,hkill,bJ,kE,lq,hlk,ja,hk2,nh,nW,kt,kO,if_true]
 refine⟨fun hlt=>?_,fun hge=>?_⟩
 ·have hlt':k<n:=by omega
  rw[jW]
  refine round s k h hlt' hJ _ fun s' ρ' h' hl he hJ'=>?_
  simp only[jN,gC,eY,iI,jG,js,lq,hl,jH,true_and,Option.bind_some,tX,Option.bind_some,uE,gR,cO,bJ,true_and]
  rw[bN (by omega) (by omega)]
  refine hK (n-(k+1)) _ _ (by omega) ⟨s',k+1,by omega,?_,rfl,hJ'⟩
  rw[←he]
  refine kh fun t ht=>?_
  rw[aj,aj,al]
  split
  ·rfl
  ·rename_i hti
   rcases(hok t ht).2 with e | e
   ·exact absurd e.symm hti
   ·rw[e];rfl
 ·have:k=n:=by omega
  subst this
  exact done s h hJ
open Classical in
/-- Several of one's own, written no more. -/
theorem Owns.qZ {W:View} {h:Heap} {o:Own} (w:Owns W h o) (S:Key→Bool) :
  ∃W':View,W.le W'∧Owns W' h (fun k=>if S k then none else o k)∧∀{k:Key} {α:Type} [r:Rep α] {e:TypeId} {v:Value} {l:List α},S k=true→o k=it e v l→SlRd W' v l:=by
 have hle:W.le (fun b=>if ∃k i,S k=true∧o k=some i∧i.v.ownBlock=some b then h[b]? else W b):=fun b x hb=>by
  show(if _ then _ else _)=_
  rw[if_neg]
  ·exact hb
  ·rintro⟨k,i,_,h2,h3⟩
   rw[w.av k i h2 b h3]at hb;cases hb
 refine⟨fun b=>if ∃k i,S k=true∧o k=some i∧i.v.ownBlock=some b then h[b]? else W b,hle,?_,?_⟩
 ·refine⟨fun b x hb=>?_,fun k i hk=>?_,fun k i hk b hb=>?_,fun k k' i i' b hk hk'=>?_⟩
  ·split at hb
   ·exact hb
   ·exact w.wle b x hb
  ·split at hk
   ·cases hk
   ·exact @OwnT.mono i.α i.rep _ _ _ _ _ (w.own k i hk) _ hle
  ·split at hk
   ·cases hk
   ·rename_i hs
    show(if _ then _ else _)=_
    rw[if_neg]
    ·exact w.av k i hk b hb
    ·rintro⟨k',i',h1,h2,h3⟩
     exact hs (w.dj k k' i i' b hk h2 hb h3▸h1)
  ·split at hk
   ·cases hk
   ·split at hk'
    ·cases hk'
    ·exact w.dj k k' i i' b hk hk'
 ·intro k α r e v l hs hk
  refine(w.get hk).rd hle fun b hb=>?_
  rw[if_pos ⟨k,_,hs,hk,hb⟩]
theorem Owns.nils {W:View} {h:Heap} {o o':Own} (w:Owns W h o) (ho : ∀k i,o' k=some i→o k=some i∨(i.v = .slice none 0 0∧@OwnT i.α i.rep W h i.e i.v i.l)):Owns W h o':=by
 have hnb : ∀{i:Item} {b:Nat},i.v = .slice none 0 0→i.v.ownBlock=some b→False:=fun e hb=>by rw[e]at hb;simp[Value.ownBlock]at hb
 refine⟨w.wle,fun k i hk=>?_,fun k i hk b hb=>?_,fun k k' i i' b hk hk' hb hb'=>?_⟩
 ·rcases ho k i hk with h1 | ⟨_,h1⟩
  ·exact w.own k i h1
  ·exact h1
 ·rcases ho k i hk with h1 | ⟨e,_⟩
  ·exact w.av k i h1 b hb
  ·exact(hnb e hb).elim
 ·rcases ho k i hk with h1 | ⟨e,_⟩
  ·rcases ho k' i' hk' with h2 | ⟨e,_⟩
   ·exact w.dj k k' i i' b h1 h2 hb hb'
   ·exact(hnb e hb').elim
  ·exact(hnb e hb).elim
end Go.Lft
namespace Go.Proofs.YtbkdlhkoiagbbaaGreat
open Go Go.Lft
abbrev TgS:=List (List Int) × MS
def j6 (x:TgS) (p b:Nat) (m:MS):TgS:=(x.1.set p (nth x.1 p++[(b:Int)]),m)
def tgA (s:List Int) (k:Nat) (x:TgS):TgS:=
 if az s x.2.at_ 3=0 then j6 x (az s (x.2.at_+1) ((k+1:Nat):Int)).toNat (k+1) x.2.took.took
 else j6 x k (k+1) x.2.took
def tgI (s:List Int) (n b:Nat) (x:TgS):TgS:=
 let t:=1+az s x.2.at_ ((n:Int)-1)
 if t≤b then
  if az s (x.2.at_+1) 2=0 then j6 x b (min (b+1) (n-1)) x.2.took.took else j6 x b t.toNat x.2.took.took
 else j6 x b t.toNat x.2.took
def tgB (s:List Int) (n b:Nat) (x:TgS):TgS:=up (fun _=>tgI s n b) (if 1<n then(az s x.2.at_ 6-3).toNat else 0) (x.1,x.2.took)
def ny (s:List Int) (n:Nat) (m:MS):TgS:=up (tgB s n) n (up (tgA s) (n-1) (List.replicate n [],m))
structure TgO (ri:Own) (o:Own) (vo:Value) (l:List (List Int)) (rv:List Raw):Prop where
 res : ∀k:Key,8≤k.1→o k=ri k
 top:o (3,0)=it T.bc vo rv
 len:rv.length=l.length
 row : ∀i,i<l.length→o (4,i)=it T.int (nth rv i).v (nth l i)
 els : ∀k:Key,3≤k.1→k.1<8→k≠(3,0)→(∀i,i<l.length→k≠(4,i))→o k=none
theorem TgO.put {ri:Own} {o:Own} {vo:Value} {l:List (List Int)} {rv:List Raw} (q:TgO ri o vo l rv) {p:Nat} (hp:p<l.length) {v':Value} {r:List Int}:TgO ri ((o.upd (4,p) (it T.int v' r)).upd (3,0) (it T.bc vo (rv.set p ⟨v'⟩))) vo (l.set p r) (rv.set p ⟨v'⟩):=by
 have hpr:p<rv.length:=by rw[q.len];exact hp
 refine⟨fun k hk=>(Own.ab (by rintro rfl;simp at hk)).trans ((Own.ab (by rintro rfl;simp at hk)).trans (q.res k hk)),Own.ag,by simp[q.len],fun i hi=>?_,fun k h1 h8 h2 h3=>?_⟩
 ·have hi:i<l.length:=by simpa using hi
  have hir:i<rv.length:=by rw[q.len];exact hi
  rw[Own.ab (by simp),aH hir,aH hi]
  by_cases e:p=i
  ·subst e
   rw[Own.ag,if_pos rfl,if_pos rfl]
  ·rw[Own.ab (fun e2=>e (by injection e2 with _ e2;exact e2.symm)),if_neg e,if_neg e]
   exact q.row i hi
 ·have h3 : ∀i,i<l.length→k≠(4,i):=fun i hi=>h3 i (by simpa using hi)
  rw[Own.ab h2,Own.ab (h3 p hp)]
  exact q.els k h1 h8 h2 h3
def Tg (ri:Own) (s:List Int) (M:Nat) (vs:Value) (W:View) (vo:Value) (h:Heap) (x:TgS):Prop:=∃W' o rv,W.le W'∧Mk s M vs W' h o x.2∧TgO ri o vo x.1 rv
section
variable {s:List Int} {M:Nat} {vs:Value} {W:View} {vo:Value} {h:Heap} {x:TgS} {ri:Own}
theorem Tg.take (t:Tg ri s M vs W vo h x) {c:Nat} (hm:x.2.ok c) (hc:c≤1000000) {k:Int} (hk:0<k) (hk2:k≤1000000000) :
  aB Tryz.prog N.bW #[.pointer (some ⟨M,0,none⟩),.int .i64 k] h (fun v h'=>v = .int .i64 (az s x.2.at_ k)∧Tg ri s M vs W vo h' (x.1,x.2.took)):=by
 obtain⟨W',o,rv,g,w,q⟩:=t
 refine(w.take (by have:=hm.at_;omega) hk hk2).mono ?_
 rintro v h' ⟨e,o',w',f⟩
 exact⟨e,W',o',rv,g,w',fun k hk=>(f k (by omega)).trans (q.res k hk),(f _ (by decide)).trans q.top,q.len,fun i hi=>(f _ (by show 3≤4;decide)).trans (q.row i hi),fun k h1 h8 h2 h3=>(f _ h1).trans (q.els k h1 h8 h2 h3)⟩
theorem Tg.len (t:Tg ri s M vs W vo h x) {Q:View}:Un.ev Q .len vo=some (.int .i64 x.1.length):=by
 obtain⟨W',o,rv,g,w,q⟩:=t
 rw[←q.len]
 exact(w.own.now q.top).len
theorem Tg.idx (t:Tg ri s M vs W vo h x) {k:IntKind} {i:Int} (h0:0≤i) (h1:i<x.1.length):Bn.ev (.idx 1) vo (.int k i)=some (.pointer (some ((slA vo).add i.toNat))):=by
 obtain⟨W',o,rv,g,w,q⟩:=t
 exact(w.own.now q.top).idx1 rfl h0 (by rw[q.len];exact h1)
theorem Tg.put {po po2 po3:OP} (t:Tg ri s M vs W vo h x) {p:Nat} (hp:p<x.1.length) (hl:(nth x.1 p).length≤1000000) {b:Nat} (hb:b≤1000000) :
  ∃v:Value,an (vw h) ((slA vo).add p)=some v∧∀{ty ty2 ty3:TypeId} {a a1 a2:Operand} {c1 c2:Operand} {us:List (Nat × Value)} {us2:Value→List (Nat × Value)} {us3:Value→Value→List (Nat × Value)} {K:Value→Value→Value→Heap→Prop},
   asg us a = .int .i64 b→(∀u,asg (us2 u) a1=v)→(∀u,asg (us2 u) a2=u)→(∀u v',asg (us3 u v') c1 = .pointer (some ((slA vo).add p)))→(∀u v',asg (us3 u v') c2=v')→(∀u v' h',Tg ri s M vs W vo h' (j6 x p b x.2)→K u v' undef h')→
   @Lft.step po Tryz.prog (.buildSlice T.bc 1 #[(0,a)]) ty us h fun u h2=>@Lft.step po2 Tryz.prog (.call ⟨.builtin .append,#[a1,a2],#[T.bc,T.bc]⟩) ty2 (us2 u) h2 fun v' h3=>@Lft.step po3 Tryz.prog (.store T.bc c1 c2) ty3 (us3 u v') h3 fun w h4=>K u v' w h4:=by
 obtain⟨W',o,rv,g,w,q⟩:=t
 have hpr:p<rv.length:=by rw[q.len];exact hp
 have hcell:=((w.own.now q.top).at hpr).raw
 have hn:Rep.n Raw=1:=rfl
 rw[hn,Nat.mul_one,←ak hpr]at hcell
 refine⟨_,hcell,fun{ty ty2 ty3 a a1 a2 c1 c2 us us2 us3 K} ha ha1 ha2 hc1 hc2 hK=>?_⟩
 refine w.own.gL (k:=(4,p)) (α:=Int) (d:=(b:Int)) (q.row p hp) El.bc ha (dR.2 ⟨rfl,by constructor<;>omega⟩) (by omega) (by omega) ha1 ha2 fun u v' h3 w3 _=>?_
 have hv:=(w3.cells (k:=(4,p)) Own.ag).2
 refine w3.pt (k:=(3,0)) (α:=Raw) (v:=vo) (l:=rv) (i:=p) (d:=⟨v'⟩) ((Own.ab (by simp)).trans q.top) (by kernel_rfl) (by rw[hc1,hn,Nat.mul_one]) (hc2 u v') hpr (qH.2 ⟨rfl,hv⟩) fun h4 w4 _=>hK u v' h4 ?_
 obtain⟨vb,vl,lb,bb⟩:=w.box
 exact⟨W',_,_,g,⟨w4,w.src,vb,vl,lb,bb.frame fun k hk=>by rw[Own.ab (by rintro rfl;simp at hk),Own.ab (by rintro rfl;simp at hk)]⟩,q.put hp⟩
end
theorem qV {x:TgS} {p b:Nat} {m:MS}:(j6 x p b m).1.length=x.1.length:=by simp[j6]
theorem Cx {x:TgS} {p b c:Nat} {m:MS} (h : ∀i,(nth x.1 i).length≤c) : ∀i,(nth (j6 x p b m).1 i).length≤c+1:=by
 intro i
 have hi:=h i
 rcases Nat.lt_or_ge i x.1.length with hl | hl
 ·show(nth (x.1.set p _) i).length≤_
  rw[aH hl]
  split
  ·rename_i e;subst e
   rw[List.length_append,List.length_singleton];omega
  ·omega
 ·rw[aV (by rw[qV];exact hl)]
  show 0≤_;omega
structure TgK (n c:Nat) (x:TgS):Prop where
 len:x.1.length=n
 row : ∀i,(nth x.1 i).length≤c
 ok:x.2.ok c
theorem TgK.mono {n c d:Nat} {x:TgS} (h:TgK n c x) (hd:c≤d):TgK n d x:=⟨h.len,fun i=>Nat.le_trans (h.row i) hd,h.ok.mono hd⟩
theorem TgK.put {n c p b:Nat} {x:TgS} {m:MS} (h:TgK n c x) (hm:m.ok (c+2)):TgK n (c+2) (j6 x p b m):=⟨qV.trans h.len,fun i=>by have:=Cx (p:=p) (b:=b) (m:=m) h.row i;omega,hm⟩
theorem HT {s:List Int} {n c k:Nat} {x:TgS} (h:TgK n c x):TgK n (c+2) (tgA s k x):=by
 unfold tgA
 split
 ·exact h.put h.ok.took.took
 ·exact h.put (h.ok.took.mono (by omega))
theorem Hk {s:List Int} {n c b:Nat} {x:TgS} (h:TgK n c x):TgK n (c+2) (tgI s n b x):=by
 unfold tgI
 simp only
 repeat' split
 ·exact h.put h.ok.took.took
 ·exact h.put h.ok.took.took
 ·exact h.put (h.ok.took.mono (by omega))
theorem xr {s:List Int} {n c:Nat} {x:TgS} (h:TgK n c x) : ∀k,TgK n (c+2*k) (up (tgA s) k x)
 | 0=>h
 | k+1=>(HT (xr h k)).mono (by omega)
theorem AD {s:List Int} {n c b:Nat} {x:TgS} (h:TgK n c x) : ∀k,TgK n (c+2*k) (up (fun _=>tgI s n b) k x)
 | 0=>h
 | k+1=>(Hk (AD h k)).mono (by omega)
theorem HH {s:List Int} {n c b:Nat} {x:TgS} (h:TgK n c x):TgK n (c+10) (tgB s n b x):=by
 unfold tgB
 have ht:=bj (s:=s) (at_:=x.2.at_) (n:=6) (by decide)
 have h1:TgK n (c+1) (x.1,x.2.took):=⟨h.len,fun i=>by have:=h.row i;show(nth x.1 i).length≤_;omega,h.ok.took⟩
 refine(AD h1 _).mono ?_
 split<;>omega
theorem Aq {s:List Int} {n c:Nat} {x:TgS} (h:TgK n c x) : ∀k,TgK n (c+10*k) (up (tgB s n) k x)
 | 0=>h
 | k+1=>(HH (Aq h k)).mono (by omega)
theorem AK {s:List Int} {M:Nat} {vs:Value} {W:View} {h:Heap} {o:Own} {m:MS} {ri:Own} (w:Mk s M vs W h o m) (hres : ∀k:Key,8≤k.1→o k=ri k) (ho : ∀k:Key,3≤k.1→k.1<8→o k=none) {n c:Nat} (hm:m.ok c) (hc:c≤1000) (hn1:1≤n) (hn2:n≤100) :
  aB Tryz.prog N.aR #[.pointer (some ⟨M,0,none⟩),.int .i64 n] h (fun u h'=>∃W' o',W.le W'∧Mk s M vs W' h' o' (ny s n m).2∧(∀k:Key,8≤k.1→o' k=ri k)∧(∀k:Key,3≤k.1→k.1<8→o' k=none)∧SlRd W' u (ny s n m).1):=by
 refine ao (args:=[.pointer (some ⟨M,0,none⟩),.int .i64 n]) follows F.aR E.aR (Nat.le_of_ble_eq_true (by kernel_rfl)) fun K hK=>?_
 have htd:ny s n m=_:=rfl
 dsimp only[L.aR]
 refine aa fun z hz=>?_
 simp
 rw[hz];clear hz z
 refine aa fun z hz=>?_
 simp
 refine mH (α:=Raw) (W:=W) (k:=.i64) (n:=n) (d:=⟨.slice none 0 0⟩) El.cL (by rfl) (by rfl) ⟨rfl,rfl⟩ (by omega) (by omega) fun vo h1 o1 m1 hle1 hb1=>?_
 have t1:Tg ri s M vs W vo h1 (List.replicate n [],m):=by
  have w1:=w.own.add (k:=(3,0)) (ho _ (by decide) (by decide)) o1 hle1 (fun b hb=>by rw[hb1]at hb;cases hb;exact Nat.le_refl _)
  have w2:=w1.nils (o':=fun k=>if k.1=4∧k.2<n then it T.int (.slice none 0 0) ([]:List Int) else o.upd (3,0) (it T.bc vo (List.replicate n (Raw.mk (.slice none 0 0)))) k) fun k i hk=>by
   split at hk
   ·cases hk;exact .inr ⟨rfl,OwnT.nil (α:=Int) W h1 T.int⟩
   ·exact .inl hk
  obtain⟨vb,vl,lb,bb⟩:=w.box
  refine⟨W,_,List.replicate n ⟨.slice none 0 0⟩,View.le_refl _,⟨w2,w.src,vb,vl,lb,bb.frame fun k hk=>?_⟩,?_,rfl,by simp,fun i hi=>?_,fun k h1 h8 h2 h3=>?_⟩
  ·have h4:¬(k.1=4∧k.2<n):=by omega
   show(if _ then _ else _)=_
   rw[if_neg h4,Own.ab (by rintro rfl;simp at hk)]
  ·intro k hk
   show(if _ then _ else _)=_
   rw[if_neg (by omega),Own.ab (by rintro rfl;simp at hk),hres k hk]
  ·have hi:i<n:=by simpa using hi
   show(if _ then _ else _)=_
   rw[if_pos ⟨rfl,hi⟩,aq hi,aq hi]
  ·show(if _ then _ else _)=_
   rw[if_neg,Own.ab h2,ho k h1 h8]
   rintro⟨e1,e2⟩
   refine h3 k.2 (by simpa using e2) ?_
   rw[←e1]
 have k1:TgK n c (List.replicate n [],m):=⟨by simp,fun i=>by
  rcases Nat.lt_or_ge i n with hi | hi
  ·rw[aq hi];show 0≤_;omega
  ·rw[aV (by simpa using hi)];show 0≤_;omega,hm⟩
 clear m1 o1 w ho
 obtain⟨x0,hx0⟩ : ∃x0:TgS,x0=(List.replicate n [],m):=⟨_,rfl⟩
 rw[←hx0]at t1 k1
 have htd:ny s n m=up (tgB s n) n (up (tgA s) (n-1) x0):=by rw[hx0];rfl
 clear hx0
 rw[hz];clear hz z
 refine aa fun z hz=>?_
 simp
 refine ud [0,1,5,6] (fun(_:Unit) k=>[.pointer (some ⟨M,0,none⟩),.int .i64 n,vo,.int .i64 ((k+1:Nat):Int)]) (fun _ k h2=>Tg ri s M vs W vo h2 (up (tgA s) k x0)) (n-1) 1 ()
  rfl (by omega) rfl t1 (fun _ _=>rfl) (fun v k h2 hk m=>by simp;omega) ?_ ?_
 ·rintro _ k h2 hlt t2 K2 hK2
  have kx:=xr (s:=s) k1 k
  have e2:up (tgA s) (k+1) x0=tgA s k (up (tgA s) k x0):=rfl
  rw[e2]at hK2
  generalize up (tgA s) k x0=x at t2 kx hK2
  have hxl:=kx.len
  simp only[aJ]
  refine aa fun y hy=>?_
  simp
  rw[show IntKind.i64.wrap (k:Int)=k from bN (by omega) (by omega)]
  rw[hy];clear hy y
  refine aa fun y hy=>?_
  have fin : ∀(p:Nat) (m':MS) (h':Heap) (ρ:Env),tgA s k x=j6 x p (k+1) m'→p<n→Tg ri s M vs W vo h' (x.1,m')→Lft.look ρ 0=some (.pointer (some ⟨M,0,none⟩))→Lft.look ρ 1=some (.int .i64 n)→Lft.look ρ 5=some vo→Lft.look ρ 6=some (.int .i64 ((k+1:Nat):Int))→Lft.look ρ 7=some (.int .i64 p)→
    LC.wp Tryz.prog y (dV 1 (ft K2 (dV 0 (ft (LC.wp Tryz.prog z (eQ [.tmp 4] K)) (eQ [.tmp 4] K))))) ρ h':=by
   intro p m' h' ρ e hp t r0 r1 r5 r6 r7
   rw[hy];clear hy y
   obtain⟨vr,hvr,put⟩:=t.put (p:=p) (b:=k+1) (by show p<x.1.length;omega) (by have:=kx.row p;show(nth x.1 p).length≤_;omega) (by omega)
   have hix:=t.idx (k:=.i64) (i:=p) (by omega) (by show(p:Int)<x.1.length;omega)
   simp only[Int.toNat_natCast]at hix
   simp[aj,al,r0,r1,r5,r6,r7,hix,hvr]
   refine put (by simp) (fun _=>by simp) (fun _=>by simp) (fun _ _=>by simp) (fun _ _=>by simp) fun u v' h3 t3=>?_
   refine hK2 () _ _ ?_ ?_ (by rw[e];exact t3)
   ·simp[aj,al,r6]
   ·simp[bm,aj,al,r0,r1,r5]
  have had:tgA s k x=_:=tgA.eq_1 s k x
  refine aa fun w hw=>?_
  simp
  refine af (by kernel_rfl) (t2.take kx.ok (by omega) (k:=3) (by decide) (by decide)) ?_
  rintro _ h3 ⟨rfl,t3⟩
  simp
  rw[hw];clear hw w
  by_cases c3:az s x.2.at_ 3=0
  ·rw[if_pos c3]at had
   refine a8 (by simp[c3]) ?_
   simp
   refine af (by kernel_rfl) (t3.take kx.ok.took (by omega) (k:=((k+1:Nat):Int)) (by omega) (by omega)) ?_
   rintro _ h4 ⟨rfl,t4⟩
   have hx:(x.1,x.2.took).2.at_=x.2.at_+1:=rfl
   rw[hx]
   obtain⟨u0,u1⟩:=bj (s:=s) (at_:=x.2.at_+1) (n:=((k+1:Nat):Int)) (by omega)
   generalize az s (x.2.at_+1) ((k+1:Nat):Int)=q at had u0 u1
   refine fin q.toNat _ h4 _ had (by omega) t4 ?_ ?_ ?_ ?_ ?_
   all_goals simp
   omega
  ·rw[if_neg c3]at had
   refine aX (by simp[c3]) ?_
   simp
   refine fin k _ h3 _ had (by omega) t3 ?_ ?_ ?_ ?_ ?_
   all_goals simp
 ·rintro _ h2 t2
  have k2:=xr (s:=s) k1 (n-1)
  generalize up (tgA s) (n-1) x0=x1 at t2 k2 htd
  simp
  rw[hz];clear hz z
  refine aa fun z hz=>?_
  simp
  refine bM [0,1,5,8] (fun(_:Unit) k=>[.pointer (some ⟨M,0,none⟩),.int .i64 n,vo,.int .i64 k]) (fun _ k h3=>Tg ri s M vs W vo h3 (up (tgB s n) k x1)) n ()
   rfl (by omega) rfl t2 (fun _ _=>rfl) (fun v k h3 hk m=>by simp) ?_ ?_
  ·rintro _ b h3 hlt t3 K2 hK2
   have kx:=(Aq (s:=s) k2 b).mono (d:=3000) (by omega)
   have e3:up (tgB s n) (b+1) x1=tgB s n b (up (tgB s n) b x1):=rfl
   rw[e3]at hK2
   generalize up (tgB s n) b x1=x at t3 kx hK2
   simp only[aJ]
   refine aa fun y hy=>?_
   simp
   refine af (by kernel_rfl) (t3.take kx.ok (by omega) (k:=6) (by decide) (by decide)) ?_
   rintro _ h4 ⟨rfl,t4⟩
   have hbd:tgB s n b x=_:=tgB.eq_1 s n b x
   obtain⟨r0,r1⟩:=bj (s:=s) (at_:=x.2.at_) (n:=6) (by decide)
   generalize az s x.2.at_ 6=r at hbd r0 r1
   have kx1:TgK n 3001 (x.1,x.2.took):=⟨kx.len,fun i=>by have:=kx.row i;show(nth x.1 i).length≤_;omega,kx.ok.took⟩
   obtain⟨cnt,hcnt⟩ : ∃cnt:Nat,cnt=if 1<n then(r-3).toNat else 0:=⟨_,rfl⟩
   have hc3:cnt≤3:=by rw[hcnt];split<;>omega
   rw[←hcnt]at hbd
   generalize (x.1,x.2.took)=x2 at t4 kx1 hbd
   rw[hy];clear hy y
   refine aa fun y hy=>?_
   simp
   rw[hy];clear hy y
   simp only[aJ]
   have hw3:IntKind.i64.wrap (r-3)=r-3:=bN (by omega) (by omega)
   refine DB [0,1,5,8,9,10] (fun(_:Unit) k=>[.pointer (some ⟨M,0,none⟩),.int .i64 n,vo,.int .i64 b,.int .i64 r,.int .i64 k]) (fun _ k h5=>Tg ri s M vs W vo h5 (up (fun _=>tgI s n b) k x2)) cnt ()
    rfl (by omega) rfl t4 (fun _ _=>rfl) (fun v k h5 hk m=>by
     by_cases hn:1<n
     ·rw[if_pos hn]at hcnt
      by_cases hk2:k<cnt
      ·have e1:(k:Int)<r-3:=by omega
       simp[hw3,e1,hk2];omega
      ·have e1:¬(k:Int)<r-3:=by omega
       simp[hw3,e1,hk2]
     ·rw[if_neg hn]at hcnt
      have e2:¬k<cnt:=by omega
      by_cases e1:(k:Int)<r-3
      ·simp[hw3,e1,e2];omega
      ·simp[hw3,e1,e2]) ?_ ?_
   ·rintro _ k h5 hltk t5 K3 hK3
    have hn2:1<n:=by
     rw[hcnt]at hltk
     split at hltk
     ·assumption
     ·omega
    have kx3:=(AD (s:=s) (b:=b) kx1 k).mono (d:=4000) (by omega)
    have e5:up (fun _=>tgI s n b) (k+1) x2=tgI s n b (up (fun _=>tgI s n b) k x2):=rfl
    rw[e5]at hK3
    generalize up (fun _=>tgI s n b) k x2=x at t5 kx3 hK3
    have hxl:=kx3.len
    have hid:tgI s n b x=_:=tgI.eq_1 s n b x
    have hwn:IntKind.i64.wrap ((n:Int)-1)=(n:Int)-1:=bN (by omega) (by omega)
    simp only[aJ]
    refine aa fun y hy=>?_
    simp[hwn]
    refine af (by kernel_rfl) (t5.take kx3.ok (by omega) (k:=(n:Int)-1) (by omega) (by omega)) ?_
    rintro _ h6 ⟨rfl,t6⟩
    obtain⟨q0,q1⟩:=bj (s:=s) (at_:=x.2.at_) (n:=(n:Int)-1) (by omega)
    generalize az s x.2.at_ ((n:Int)-1)=q at hid q0 q1
    have hwq:IntKind.i64.wrap (1+q)=1+q:=bN (by omega) (by omega)
    simp[hwq]
    rw[hy];clear hy y
    refine aa fun y hy=>?_
    refine xB (fun ρ h'=>∃(t:Nat) (m':MS) (v0 v:Value),tgI s n b x=j6 x b t m'∧t≤1000∧Tg ri s M vs W vo h' (x.1,m')∧ρ=[(0,.pointer (some ⟨M,0,none⟩)),(1,.int .i64 n),(5,vo),(8,.int .i64 b),(9,.int .i64 r),(10,.int .i64 k),(11,.int .i64 t),(57,.int .i64 q),(62,v0),(64,v)]) ?_ ?_
    ·intro K4 hK4
     refine aa fun w hw=>?_
     by_cases c1:1+q≤b
     ·rw[if_pos c1]at hid
      simp[c1]
      refine af (by kernel_rfl) (t6.take kx3.ok.took (by omega) (k:=2) (by decide) (by decide)) ?_
      rintro _ h7 ⟨rfl,t7⟩
      have hx:(x.1,x.2.took).2.at_=x.2.at_+1:=rfl
      rw[hx]
      simp
      rw[hw];clear hw w
      by_cases c2:az s (x.2.at_+1) 2=0
      ·rw[if_pos c2]at hid
       refine a8 (by simp[c2]) ?_
       simp
       refine hK4 _ _ ⟨min (b+1) (n-1),_,.bool true,.int .i64 (az s (x.2.at_+1) 2),hid,by omega,t7,?_⟩
       rw[hwn,show IntKind.i64.wrap ((b:Int)+1)=(b:Int)+1 from bN (by omega) (by omega)]
       rw[show(if(n:Int)-1<(b:Int)+1 then(n:Int)-1 else(b:Int)+1)=((min (b+1) (n-1):Nat):Int) by split<;>omega]
      ·rw[if_neg c2]at hid
       refine aX (by simp[c2]) ?_
       simp
       refine hK4 _ _ ⟨(1+q).toNat,_,.bool true,.int .i64 (az s (x.2.at_+1) 2),hid,by omega,t7,?_⟩
       rw[show(((1+q).toNat:Nat):Int)=1+q by omega]
     ·rw[if_neg c1]at hid
      simp[c1]
      rw[hw];clear hw w
      refine aX (by simp) ?_
      simp
      refine hK4 _ _ ⟨(1+q).toNat,_,.bool false,undef,hid,by omega,t6,?_⟩
      rw[show(((1+q).toNat:Nat):Int)=1+q by omega]
    ·rintro _ h7 ⟨t,m',v0,v,e,ht,t7,rfl⟩
     rw[hy];clear hy y
     obtain⟨vr,hvr,put⟩:=t7.put (p:=b) (b:=t) (by show b<x.1.length;omega) (by have:=kx3.row b;show(nth x.1 b).length≤_;omega) (by omega)
     have hix:=t7.idx (k:=.i64) (i:=b) (by omega) (by show(b:Int)<x.1.length;omega)
     simp only[Int.toNat_natCast]at hix
     simp[hix,hvr]
     refine put rfl (fun _=>rfl) (fun _=>rfl) (fun _ _=>rfl) (fun _ _=>rfl) fun u v' h8 t8=>?_
     exact hK3 () _ _ rfl rfl (by rw[e];exact t8)
   ·rintro _ h5 t5
    simp
    refine hK2 () _ _ rfl rfl (by rw[hbd];exact t5)
  ·rintro _ h3 t3
   rw[←htd]at t3
   simp
   rw[hz];clear hz z
   simp
   refine hK _ _ ?_
   obtain⟨W',o,rv,g,w,q⟩:=t3
   obtain⟨W2,g2,w2,fr⟩:=w.own.qZ (fun k=>decide (3≤k.1)&&decide (k.1<8))
   obtain⟨vb,vl,lb,bb⟩:=w.box
   refine⟨W2,_,View.le_trans g g2,⟨w2,w.src.mono g2,vb,vl,lb,bb.frame fun k hk=>?_⟩,?_,fun k hk h8=>by simp[hk,h8],?_⟩
   ·have:¬3≤k.1:=by omega
    simp[this]
   ·intro k hk
    have h1:3≤k.1:=by omega
    have h2:¬k.1<8:=by omega
    simp[h2]
    exact q.res k hk
   ·refine oh (fr (k:=(3,0)) (by decide) q.top) rfl q.len fun i h1 h2 cs hr=>?_
    obtain⟨e,_⟩:cs=[(rv[i]).v]∧_:=hr
    refine⟨_,e,?_⟩
    have:=fr (k:=(4,i)) (by simp) (q.row i h2)
    rwa [ak h1,ak h2]at this
end Go.Proofs.YtbkdlhkoiagbbaaGreat
namespace Go.Proofs.YtbkdlhkoiagbbaaGreat
open Go Go.Lft
section
structure Grw (b k:Nat) (m m':MS):Prop where
 at0:m.at_≤m'.at_
 at1:m'.at_≤m.at_+k
 n0:m.next≤m'.next
 n1:m'.next≤m.next+k
 ps:m'.ps=m.ps
 live:m'.live.length≤m.live.length+k
 len:m'.blocks.length=m.blocks.length
 els : ∀i,i≠b→nth m'.blocks i=nth m.blocks i
 ins:(nth m'.blocks b).ins.length≤(nth m.blocks b).ins.length+k
 phis:(nth m'.blocks b).phis=(nth m.blocks b).phis
 term:(nth m'.blocks b).term=(nth m.blocks b).term
variable {s:List Int} {m m' m2:MS} {b c k l:Nat}
theorem Grw.refl:Grw b 0 m m:=⟨Nat.le_refl _,Nat.le_refl _,Int.le_refl _,by omega,rfl,Nat.le_refl _,rfl,fun _ _=>rfl,Nat.le_refl _,rfl,rfl⟩
theorem Grw.trans (g:Grw b k m m') (h:Grw b l m' m2):Grw b (k+l) m m2:=
 ⟨Nat.le_trans g.at0 h.at0,by have:=g.at1;have:=h.at1;omega,Int.le_trans g.n0 h.n0,by have:=g.n1;have:=h.n1;omega,h.ps.trans g.ps,by have:=g.live;have:=h.live;omega,h.len.trans g.len,fun i hi=>(h.els i hi).trans (g.els i hi),by have:=g.ins;have:=h.ins;omega,h.phis.trans g.phis,h.term.trans g.term⟩
theorem Grw.mono(g:Grw b k m m')(h:k≤l):Grw b l m m':=
 ⟨g.at0,by have:=g.at1;omega,g.n0,by have:=g.n1;omega,g.ps,by have:=g.live;omega,g.len,g.els,by have:=g.ins;omega,g.phis,g.term⟩
theorem Grw.took (g:Grw b k m m'):Grw b (k+1) m m'.took:=g.trans ⟨by show _≤m'.at_+1;omega,Nat.le_refl _,Int.le_refl _,by show m'.next≤_;omega,rfl,by show m'.live.length≤_;omega,rfl,fun _ _=>rfl,by show(nth m'.blocks b).ins.length≤_;omega,rfl,rfl⟩
theorem Grw.aG (g:Grw b k m m'):Grw b (k+1) m m'.aG:=g.trans ⟨Nat.le_refl _,by show m'.at_≤_;omega,by show _≤m'.next+1;omega,Int.le_refl _,rfl,by show m'.live.length≤_;omega,rfl,fun _ _=>rfl,by show(nth m'.blocks b).ins.length≤_;omega,rfl,rfl⟩
theorem Grw.add {i:InsD} (hb:b<m.blocks.length) (g:Grw b k m m'):Grw b (k+2) m (m'.add b i):=by
 have hb':b<m'.blocks.length:=by rw[g.len];exact hb
 have e:nth (m'.add b i).blocks b={ nth m'.blocks b with ins:=(nth m'.blocks b).ins++[i] }:=by
  show nth (m'.blocks.set b _) b=_
  rw[aH hb',if_pos rfl]
 refine g.trans ⟨Nat.le_refl _,by show m'.at_≤_;omega,Int.le_refl _,by show m'.next≤_;omega,rfl,?_,jB,fun j hj=>?_,?_,by rw[e],by rw[e]⟩
 ·show(m'.live++a6 i).length≤_
  have h2:(a6 i).length≤2:=by
   unfold a6
   repeat' split
   all_goals simp
  rw[List.length_append];omega
 ·show nth (m'.blocks.set b _) j=_
  rcases Nat.lt_or_ge j m'.blocks.length with hl | hl
  ·rw[aH hl,if_neg (fun e=>hj e.symm)]
  ·rw[aV (by simpa using hl),aV hl]
 ·rw[e]
  show((nth m'.blocks b).ins++[i]).length≤_
  rw[List.length_append,List.length_singleton];omega
theorem Grw.constant {n:Int} (hb:b<m.blocks.length) (g:Grw b k m m'):Grw b (k+3) m (m'.constant b n):=g.aG.add hb
theorem Grw.two {op x y:Int} (hb:b<m.blocks.length) (g:Grw b k m m'):Grw b (k+3) m (m'.two b op x y):=g.aG.add hb
theorem Grw.ey(hb:b<m.blocks.length)(g:Grw b k m m'):Grw b (k+10) m (aA s m' b).2:=by
 unfold aA
 repeat' split
 ·exact(g.took.took.constant hb).mono (by omega)
 ·exact(g.took.took.took.took.took.constant hb).mono (by omega)
 ·exact(g.took.took.took).mono (by omega)
theorem Grw.addr(hb:b<m.blocks.length)(g:Grw b k m m'):Grw b (k+30) m (iE s m' b).2:=by
 unfold iE
 simp only
 split
 ·exact(((((g.took.constant hb).took.ey hb).constant hb).two hb).two hb).mono (by omega)
 ·exact((g.took.constant hb).took).mono (by omega)
theorem Grw.off(g:Grw b k m m'):Grw b (k+4) m (offS s m').2:=by
 unfold offS
 split
 ·exact g.took.took.took.took
 ·exact g.took.took.mono (by omega)
theorem Grw.memory{st:Bool}(hb:b<m.blocks.length)(g:Grw b k m m'):Grw b (k+60) m (gI s m' b st):=by
 unfold gI
 simp only
 split
 ·exact((((g.addr hb).off.ey hb)).add hb).mono (by omega)
 ·exact(((g.addr hb).off.aG).add hb).mono (by omega)
theorem Grw.bin{op:Int}(hb:b<m.blocks.length)(g:Grw b k m m'):Grw b (k+60) m (binS s m' b op):=by
 unfold binS
 simp only
 split
 ·exact((((g.ey hb).ey hb).took.took.constant hb).two hb).mono (by omega)
 ·exact(((g.ey hb).ey hb).took.two hb).mono (by omega)
theorem Grw.div(hb:b<m.blocks.length)(g:Grw b k m m'):Grw b (k+60) m (divS s m' b):=by
 unfold divS
 simp only
 split
 ·exact((((g.ey hb).took.constant hb).took.took.constant hb).two hb).mono (by omega)
 ·exact(((g.ey hb).took.constant hb).took.two hb).mono (by omega)
theorem Grw.args (hb:b<m.blocks.length) {x:List Int × MS} (g:Grw b k m x.2) : ∀n,Grw b (k+10*n) m (up (eW s b) n x).2
 | 0=>g
 | n+1=>((Grw.args hb g n).ey hb).mono (by omega)
theorem Grw.call(hb:b<m.blocks.length)(g:Grw b k m m'):Grw b (k+70) m (lj s m' b):=by
 unfold lj
 simp only
 have ht:=bj (s:=s) (at_:=m'.at_) (n:=5) (by decide)
 have g2:=Grw.args (s:=s) hb (x:=([],m'.took)) g.took (az s m'.at_ 5).toNat
 exact(g2.aG.took.add hb).mono (by omega)
theorem Grw.fP(hb:b<m.blocks.length)(g:Grw b k m m'):Grw b (k+80) m (aC s b m'):=by
 unfold aC
 simp only
 repeat' split
 ·exact(g.took.bin hb).mono (by omega)
 ·unfold ltuS
  exact(((g.took.ey hb).ey hb).two hb).mono (by omega)
 ·exact(g.took.div hb).mono (by omega)
 ·exact(g.took.memory hb).mono (by omega)
 ·exact(g.took.call hb).mono (by omega)
 ·unfold qt
  exact(((g.took.ey hb).ey hb).aG.aG.add hb).mono (by omega)
 ·exact(g.took.took.took.constant hb).mono (by omega)
theorem Grw.eh (hb:b<m.blocks.length) (g:Grw b k m m') : ∀n,Grw b (k+80*n) m (up (fun _=>aC s b) n m')
 | 0=>g
 | n+1=>((Grw.eh hb g n).fP hb).mono (by omega)
theorem Grw.EV{to:List Int}(hb:b<m.blocks.length)(g:Grw b k m m'):Grw b (k+40) m (et s to b m').2:=by
 unfold et
 simp only
 repeat' split
 ·exact g.took.took.mono (by omega)
 ·exact(g.took.ey hb).mono (by omega)
 ·exact g.took.mono (by omega)
 ·exact g.mono (by omega)
 ·exact((((g.ey hb).took.ey hb)).aG.took.add hb).mono (by omega)
 ·exact(g.ey hb).took.mono (by omega)
 ·exact(((g.ey hb).constant hb).two hb).mono (by omega)
def MS.f (m:MS):ah:=⟨m.ps,m.blocks⟩
def MS.fR (m:MS) (b:Nat) (l:List Int):MS:={ m with blocks:=m.blocks.set b { nth m.blocks b with term:={ (nth m.blocks b).term with to:=l } } }
def fW (s:List Int) (m:MS) (b:Nat):Int:=
 if 1<(aw m.f b).length then az s m.at_ 4 else if az s m.at_ 6=0 then 1 else 0
def cR (b:Nat) (m:MS):MS:={ m.aG with blocks:=m.blocks.set b { nth m.blocks b with phis:=(nth m.blocks b).phis++[⟨m.next,[]⟩] } }
def dc (s:List Int) (k:Nat) (x:List Int × MS):List Int × MS:=
 (x.1.set (k+1) (fW s x.2 (k+1)),up (fun _=>cR (k+1)) (fW s x.2 (k+1)).toNat x.2.took)
def iQ (f:ah) (n:Nat):List BL:=rows (fun a=>eo f (a:Int)) n
def mA (dn:BL) (away:List BL) (b n:Nat):Bool:=up (fun a r=>r&&(decide (a=b)||nth dn a||nth (nth away a) b)) n (!nth dn b)
def gw (m:MS) (dn:BL) (away:List BL) (b:Nat) (a:Nat) (l:List Int):List Int:=
 if decide (a≠b)&&(!nth dn a||nth (nth away a) b) then l
 else l++(nth m.blocks a).phis.map PhiD.dst++(nth m.blocks a).ins.flatMap a6
def j4 (m:MS) (dn:BL) (away:List BL) (b n:Nat):List Int:=up (gw m dn away b) n (rows (fun i=>(i:Int)) m.ps.toNat)
def iz (s:List Int) (to:List (List Int)) (n:Nat) (dn:BL) (away:List BL) (b:Nat) (m:MS):MS:=
 let m1:MS:={ m with live:=j4 m dn away b n }
 ll s (nth to b) b (up (fun _=>aC s b) (az s m1.at_ 7).toNat m1.took)
def aK (s:List Int) (to:List (List Int)) (n:Nat) (b:Nat) (x:BL × MS):BL × MS:=
 if mA x.1 (iQ x.2.f n) b n then(x.1.set b true,iz s to n (x.1.set b true) (iQ x.2.f n) b x.2) else x
def bH (s:List Int) (p:List Int) (k:Nat) (x:List InD × MS):List InD × MS:=
 let b:=(nth p k).toNat
 let l:=fM x.2.f b
 let r:List Int × MS:=if l.length=0 then([x.2.next],x.2.took.took.constant b (iG s x.2)) else(l,x.2)
 (x.1++[⟨nth p k,nth r.1 (az s r.2.at_ r.1.length).toNat⟩],r.2.took)
def MS.iC (m:MS) (b i:Nat) (l:List InD):MS:={ m with blocks:=m.blocks.set b { nth m.blocks b with phis:=(nth m.blocks b).phis.set i { nth (nth m.blocks b).phis i with ins:=l } } }
def phi3 (s:List Int) (b:Nat) (p:List Int) (i:Nat) (m:MS):MS:=(up (bH s p) p.length ([],m)).2.iC b i (up (bH s p) p.length ([],m)).1
def blk3 (s:List Int) (phis:List Int) (k:Nat) (m:MS):MS:=up (phi3 s (k+1) (aw m.f ((k+1:Nat):Int))) (nth phis (k+1)).toNat m
def sg (s:List Int):MS:=⟨2,az s 0 5,[],az s 0 5,[]⟩
def aE (s:List Int):Nat:=(1+az s 1 9).toNat
def eA (s:List Int):TgS:=ny s (aE s) (sg s)
def nU:BlkD:=⟨[],[],⟨0,[],[],⟨0⟩⟩⟩
def j0 (s:List Int):MS:=up (fun b m=>m.fR b (nth (eA s).1 b)) (aE s) { (eA s).2 with blocks:=List.replicate (aE s) nU }
def fB (s:List Int):List Int × MS:=up (dc s) (aE s-1) (List.replicate (aE s) 0,j0 s)
def lQ (s:List Int):BL × MS:=up (fun _=>up (aK s (eA s).1 (aE s)) (aE s)) (aE s) (List.replicate (aE s) false,(fB s).2)
def fS (s:List Int):MS:=up (blk3 s (fB s).1) (aE s-1) (lQ s).2
def gU (s:List Int):ah:=(fS s).f
end
section
variable {s:List Int} {M:Nat} {vs:Value} {W0:View} {h:Heap} {o0:Own} {m:MS} {u:Value} {ds:List Int}
structure Reads (M:Nat) (m:MS) (h:Heap) (vb vl:Value):Prop where
 ps:an (vw h) ⟨M,2,none⟩=some (.int .i64 m.ps)
 nx:an (vw h) ⟨M,4,none⟩=some (.int .i64 m.next)
 cb:an (vw h) ⟨M,3,none⟩=some vb
 cl:an (vw h) ⟨M,5,none⟩=some vl
 f:Un.ev (vw h) (.ar 2) (.pointer (some ⟨M,2,none⟩))=some (.agg #[.int .i64 m.ps,vb])
 blk:SlRd (vw h) vb m.blocks
 live:SlRd (vw h) vl m.live
variable{vb vl:Value}
theorem Reads.rd(r:Reads M m h vb vl)(hp:I64 m.ps):Rd (vw h) (.agg #[.int .i64 m.ps,vb]) m.f:=⟨_,rfl,[.int .i64 m.ps],[vb],rfl,⟨rfl,hp⟩,vb,rfl,r.blk⟩
variable{W:View}
theorem Mk.reads{o:Own}(w:Mk s M vs W h o m){lb:List BlkM}(bb:MkB M vs m o vb vl lb):Reads M m h vb vl:=by
 have c2:an (vw h) ⟨M,2,none⟩=some (.int .i64 m.ps):=bb.cell w.own (i:=2) (by decide)
 have c3:an (vw h) ⟨M,3,none⟩=some vb:=bb.cell w.own (i:=3) (by decide)
 refine⟨c2,bb.cell w.own (i:=4) (by decide),c3,bb.cell w.own (i:=5) (by decide),?_,?_,w.own.now bb.live⟩
 ·have hat:=w.own.gH bb.box
  obtain⟨cs,⟨cur,e,fz,g1,g2,g3⟩,he,_⟩:=w.own.atW bb.box
  have:gJ (vw h) ⟨M,2,none⟩ [.int .i64 m.ps,vb]:=⟨cur,e,fz,rfl,g2,by
   have g3:(cur.toList.drop 0).take cs.length=cs:=g3
   have he:cs=mkL vs m.at_ m.ps vb m.next vl:=he
   rw[List.drop_zero]at g3
   have hd:cs.drop 2=(cur.toList.drop 2).take (cs.length-2):=by
    have:=congrArg (List.drop 2) g3
    rw[List.drop_take]at this
    exact this.symm
   have hl:cs.length=6:=by rw[he];rfl
   have h2:(cs.drop 2).take 2=(cur.toList.drop 2).take 2:=by
    rw[hd,hl,List.take_take];rfl
   show(cur.toList.drop 2).take 2=_
   rw[←h2,he];rfl⟩
  have:=fZ this 2 0 #[] rfl
  simp only[Un.ev,vP,Option.bind_some]
  rw[this]
  simp
 ·refine oh (w.own.now bb.blk) rfl bb.len fun i h1 h2 cs hr=>?_
  have:=yI hr (p:=(nth m.blocks i).phis) (i:=(nth m.blocks i).ins) (by have:=w.own.now (bb.phis i h2);rwa [ak h1]at this) (by have:=w.own.now (bb.ins i h2);rwa [ak h1]at this)
  have ht:=bb.term i h2
  rw[ak h1]at ht
  rw[ht]at this
  rw[←ak h2]
  exact this
theorem Nz.reads (n:Nz s M vs W0 h o0 m u ds) : ∃vb vl,Reads M m h vb vl:=by
 obtain⟨W,o,g,w,f,sl⟩:=n
 obtain⟨vb,vl,lb,bb⟩:=w.box
 exact⟨vb,vl,w.reads bb⟩
variable{α:Type}
theorem Nz.at[Rep α](n:Nz s M vs W0 h o0 m u ds){k:Key}(h3:3≤k.1){e:TypeId}{v:Value}{l:List α}(hk:o0 k=it e v l):SlRd (vw h) v l:=by
 obtain⟨W,o,g,w,f,sl⟩:=n
 exact w.own.now ((f k h3).trans hk)
end
theorem BlkM.zT:Part BlkM (List Int) 4 (fun d=>d.term.to) (fun d x=>{ d with term:={ d.term with to:=x } }):=(Part.snd (Part.snd ((Part.snd (Part.snd (Part.fst Part.all))).via (α:=Cat Int (Cat (List Int) (Cat (List Int) I32))) (f:=fun d:dp=>Cat.mk d.kind (Cat.mk d.args (Cat.mk d.to d.imm))) (g':=dp.to) (s':=fun d x=>{ d with to:=x }) (fun _=>rfl) fun _ _=>rfl))).via (fun _=>rfl) fun _ _=>rfl
section
variable {s:List Int} {M:Nat} {vs:Value} {W0:View} {h:Heap} {o0:Own} {m:MS} {u:Value} {ds:List Int}
variable{po:OP}{α:Type}{ty:TypeId}{us:List (Nat × Value)}
theorem Nz.Fo[r:Rep α](n:Nz s M vs W0 h o0 m u ds){k:Key}{e:TypeId}{i:Nat}{v:Value}{l:List α}{t:TypeId}{x y:Operand}{d:α}{w:Value}{K:Value→Heap→Prop}(h3:3≤k.1)(hk:o0 k=it e v l)(hi:i<l.length)(hsz:cV Tryz.prog t=some (Rep.n α))(hx:asg us x = .pointer (some ((slA v).add (i*Rep.n α))))(hy:asg us y=w)(hr : ∀W,Rd W w d)(hK : ∀h',Nz s M vs W0 h' (o0.upd k (it e v (l.set i d))) m u ds→K undef h'):@Lft.step po Tryz.prog (.store t x y) ty us h K:=by
 obtain⟨W,o,g1,wk,f,sl⟩:=n
 refine wk.own.pt (k:=k) (v:=v) (l:=l) (i:=i) (d:=d) ((f k h3).trans hk) hsz hx hy hi (hr W) fun h' w' _=>hK h' ?_
 obtain⟨vb,vl,lb,bb⟩:=wk.box
 refine⟨W,_,g1,⟨w',wk.src,vb,vl,lb,bb.frame fun q hq=>Own.ab (by rintro rfl;omega)⟩,fun q hq=>?_,sl⟩
 unfold Own.upd
 split
 ·rfl
 ·exact f q hq
variable{W:View}{vb vl:Value}{b:Nat}{ty2:TypeId}
theorem Mk.IM{o:Own}(w:Mk s M vs W h o m){lb:List BlkM}(bb:MkB M vs m o vb vl lb){l:List Int}{v:Value}{x y:Operand}{K:Value→Heap→Prop}(hb:b<m.blocks.length)(hsz:cV Tryz.prog ty2=some 1)(hx:asg us x = .pointer (some (((slA vb).add (b*6)).add 4)))(hy:asg us y=v)(hr:SlRd W v l)(hK : ∀h' o',Mk s M vs W h' o' (m.fR b l)→(∀k:Key,3≤k.1→o' k=o k)→K undef h'):@Lft.step po Tryz.prog (.store ty2 x y) ty us h K:=by
 have hbl:b<lb.length:=by rw[bb.len];exact hb
 refine w.own.kV (k:=(0,2)) (α:=BlkM) BlkM.zT (v:=vb) (l:=lb) (i:=b) (d:=l) bb.blk hsz hx hy hbl (gh.2 hr) fun h7 w7 _=>?_
 have ht:=bb.term b hb
 rw[ak hbl]at ht
 refine hK h7 _ ⟨w7,w.src,vb,vl,_,bb.aU hb (x':={ nth m.blocks b with term:={ (nth m.blocks b).term with to:=l } }) (y':={ lb[b]with term:={ lb[b].term with to:=l } }) (by rw[←ht]) Own.ag ?_ ?_ fun q h1 _ _=>Own.ab h1⟩ (lI (by decide))
 ·rw[Own.ab (by simp),bb.phis b hb,ak hbl]
 ·rw[Own.ab (by simp),bb.ins b hb,ak hbl]
end
theorem qf {to:List (List Int)} {m:MS} : ∀k,(up (fun b m=>MS.fR m b (nth to b)) k m).blocks.length=m.blocks.length
 | 0=>rfl
 | k+1=>by show(List.set _ _ _).length=_;rw[List.length_set];exact qf k
variable{M n:Nat}{vs vt vr:Value}{W0:View}{o0:Own}{to:List (List Int)}{Q:Post}{ρ:Env}
theorem FI{s:List Int}{h:Heap}{m:MS}(hto:SlRd W0 vt to)(hn:to.length=n)(x:Nx s M vs W0 h o0 m)(hlen:m.blocks.length=n)(hn2:n≤100)(h0:bm [2,3,4,5,6] ρ=[(2,vr),(3,.pointer (some ⟨M,0,none⟩)),(4,.int .i64 n),(5,vt),(6,.int .i64 0)])(hQ : ∀h',Nx s M vs W0 h' o0 (up (fun b m=>m.fR b (nth to b)) n m)→Q .normal [(2,vr),(3,.pointer (some ⟨M,0,none⟩)),(4,.int .i64 n),(5,vt),(6,.int .i64 n)] h'):
  LC.wp Tryz.prog (.block 0 (.loop L.au.l1)) Q ρ h:=by
 simp only[aJ]
 refine bM [2,3,4,5,6] (fun(_:Unit) k=>[vr,.pointer (some ⟨M,0,none⟩),.int .i64 n,vt,.int .i64 k]) (fun _ k h2=>Nx s M vs W0 h2 o0 (up (fun b m=>m.fR b (nth to b)) k m)) n ()
  rfl (by omega) h0 x (fun _ _=>rfl) (fun v k h2 hk m=>by simp) ?_ ?_
 ·rintro _ b h2 hlt x2 K2 hK2
  have hlb:(up (fun b m=>MS.fR m b (nth to b)) b m).blocks.length=n:=(qf b).trans hlen
  have e2:up (fun b m=>MS.fR m b (nth to b)) (b+1) m=(up (fun b m=>MS.fR m b (nth to b)) b m).fR b (nth to b):=rfl
  rw[e2]at hK2
  generalize up (fun b m=>MS.fR m b (nth to b)) b m=m2 at x2 hK2 hlb
  obtain⟨rv,hrv⟩:=hto.rows
  obtain⟨hr1,hr2⟩:=hrv b (by omega)
  obtain⟨W,o,g,w,f⟩:=x2
  obtain⟨vb,vl,lb,bb⟩:=w.box
  have rd:=w.reads bb
  have ito:=(hto.mono g).mono w.own.wle
  simp only[aJ]
  refine cH (vw h2) (View.le_refl _) ?_
  simp(disch:=omega)[rd.cb,rd.blk.idxn (N:=6) rfl,ito.idx1 rfl,hr1 _ (View.le_trans g w.own.wle)]
  refine w.IM bb (b:=b) (l:=nth to b) (by omega) (by kernel_rfl) rfl rfl (hr2.mono g) fun h3 o3 w3 f3=>?_
  exact hK2 () _ _ rfl rfl ⟨W,o3,g,w3,fun k hk=>(f3 k hk).trans (f k hk)⟩
 ·rintro _ h2 x2
  exact hQ h2 x2
theorem sub_le{H K L:View}(h:H.sub K)(k:K.le L):H.sub L:=fun b o hb=>by
 obtain⟨o',h1,h2⟩:=h b o hb
 exact⟨o',k _ _ h1,h2⟩
variable{W:View}
theorem Owns.Dh{h:Heap}{o:Own}{k:Key}{B:Nat}{e:TypeId}{l:List Value}(w:Owns W h o)(hk:o k=bx e B (RawN.mk (n:=n) l)): ∃cur,h[B]? = some (.cells cur e (0,0))∧∃r,cur.toList=l++r:=by
 obtain⟨hb,xs,⟨hl,hown⟩,hel⟩:=w.get (k:=k) (v:=.slice (some ⟨B,0,none⟩) 1 1) (l:=[RawN.mk (n:=n) l]) hk
 have h0:=hel 0 (by simp)
 simp only[Nat.zero_mul,List.drop_zero,List.getElem_cons_zero,List.length_singleton,Nat.one_mul]at h0 hl
 rw[List.take_of_length_le (by omega)]at h0
 obtain⟨h0,_,_⟩:xs=l∧_:=h0
 subst h0
 rcases hown with⟨h1,_⟩ | ⟨g,cap,cur,h1,h2,h3,h4,h5,h6⟩
 ·cases h1
 ·simp only[Value.slice.injEq,Option.some.injEq,Addr.mk.injEq]at h1
  obtain⟨⟨rfl,_⟩,_⟩:=h1
  refine⟨cur,h2,cur.toList.drop (1*Rep.n (RawN n)),?_⟩
  have h6:cur.toList.take (1*Rep.n (RawN n))=xs:=by simpa using h6
  rw[←h6,List.take_append_drop]
section
variable {s:List Int} {M:Nat} {vs:Value} {W:View} {h:Heap} {o:Own} {m:MS} {vb vl:Value} {lb:List BlkM}
theorem MkB.Dz(w:Owns W h o)(bb:MkB M vs m o vb vl lb): ∃H:View,H.sub (vw h)∧an H ⟨M,3,none⟩=some vb∧SlRd H vb lb∧
  ∀h2 o2,Owns W h2 o2→MkB M vs m.aG o2 vb vl lb→(∀X:View,X.le (vw h)→X M=none→X.le (vw h2))→∃X:View,H.sub X∧W.le X∧X.le (vw h2)∧SlRd X vb lb∧∀i,i<m.blocks.length→Av X (nth lb i).phis.v:=by
 obtain⟨cur,hM,r,hr⟩:=Owns.Dh w bb.box
 have aM:=w.av (0,0) _ bb.box
 have aM:W M=none:=aM M rfl
 have avb:=w.av (0,2) _ bb.blk
 have hne : ∀b,vb.ownBlock=some b→b≠M:=fun b hb e=>by
  have:=w.dj (0,2) (0,0) _ _ b bb.blk bb.box hb (by rw[e];rfl)
  simp at this
 obtain⟨w6,s6⟩:=w.freeze bb.blk
 have hYM:(W.plus vb h) M=none:=by
  unfold View.plus
  rw[if_neg (fun e=>hne M e rfl)];exact aM
 have hYle:(W.plus vb h).le (vw h):=w6.wle
 let P:Obj:=.cells #[vs,.int .i64 m.at_,.int .i64 m.ps,vb] T.aT (0,0)
 have hpre : ∀{c:Array Value} {r:List Value} {nx:Int},c.toList=mkL vs m.at_ m.ps vb nx vl++r→(Obj.cells c T.aT (0,0)=P∨∃c1 c2 t fz,P = .cells c1 t fz∧Obj.cells c T.aT (0,0) = .cells c2 t fz∧∃r:List Value,c2.toList=c1.toList++r):=fun{c r nx} hc=>.inr ⟨_,c,_,_,rfl,rfl,[.int .i64 nx,vl]++r,by rw[hc];rfl⟩
 refine⟨fun b=>if b=M then some P else(W.plus vb h) b,fun b x hb=>?_,?_,?_,fun h2 o2 w2 b2 keep=>?_⟩
 ·dsimp only at hb
  split at hb
  ·rename_i e
   cases hb
   subst e
   exact⟨_,hM,hpre hr⟩
  ·exact⟨x,hYle b x hb,.inl rfl⟩
 ·simp[an,P]
 ·refine s6.mono fun b x hb=>?_
  show(if b=M then some P else(W.plus vb h) b)=_
  rw[if_neg]
  ·exact hb
  ·rintro rfl;rw[hYM]at hb;cases hb
 ·obtain⟨cur2,hM2,r2,hr2⟩:=Owns.Dh w2 b2.box
  have hY2:=keep _ hYle hYM
  refine⟨fun b=>if b=M then h2[M]? else(W.plus vb h) b,fun b x hb=>?_,fun b x hb=>?_,fun b x hb=>?_,s6.mono fun b x hb=>?_,fun i hi b hb=>?_⟩
  ·dsimp only at hb
   split at hb
   ·rename_i e
    cases hb
    subst e
    exact⟨_,by simp[hM2],hpre hr2⟩
   ·rename_i e
    exact⟨x,by simpa[e]using hb,.inl rfl⟩
  ·have e:b≠M:=by rintro rfl;rw[aM]at hb;cases hb
   show(if b=M then h2[M]? else(W.plus vb h) b)=_
   rw[if_neg e];exact jC avb b x hb
  ·dsimp only at hb
   split at hb
   ·rename_i e;subst e;exact hb
   ·exact hY2 b x hb
  ·have e:b≠M:=by rintro rfl;rw[hYM]at hb;cases hb
   show(if b=M then h2[M]? else(W.plus vb h) b)=_
   rw[if_neg e];exact hb
  ·have e:b≠M:=fun e=>by
    have:=w.dj (1,i) (0,0) _ _ b (bb.phis i hi) bb.box hb (by rw[e];rfl)
    simp at this
   show(if b=M then h2[M]? else(W.plus vb h) b)=_
   rw[if_neg e]
   exact w6.av (1,i) _ ((Own.ab (by simp)).trans (bb.phis i hi)) b hb
theorem Mk.HM(w:Mk s M vs W h o m)(bb:MkB M vs m o vb vl lb)(h0:0≤m.next)(h1:m.next≤1000000000):
  aB Tryz.prog N.bF #[.pointer (some ⟨M,0,none⟩)] h (fun u h'=>u = .int .i64 m.next∧∃o',Mk s M vs W h' o' m.aG∧MkB M vs m.aG o' vb vl lb∧(∀k:Key,3≤k.1→o' k=o k)∧∀X:View,X.le (vw h)→X M=none→X.le (vw h')):=by
 refine(xU w.own bb.box h0 h1).mono ?_
 rintro u h' ⟨rfl,w2,keep⟩
 exact⟨rfl,_,⟨w2,w.src,vb,vl,lb,bb.at⟩,bb.at,lI (by decide),keep⟩
end
theorem Nz.ext{s:List Int}{M:Nat}{vs:Value}{W0:View}{h h':Heap}{o0:Own}{m:MS}{u:Value}{ds:List Int}(n:Nz s M vs W0 h o0 m u ds)(hle:(vw h).le (vw h')):Nz s M vs W0 h' o0 m u ds:=by
 obtain⟨W,o,g,w,f,sl⟩:=n
 exact⟨W,o,g,⟨w.own.ext' hle,w.src,w.box⟩,f,sl⟩
structure Sz (n a p i:Nat) (m:MS):Prop where
 at_:m.at_≤a
 n0:0≤m.next
 next:m.next≤a
 live:m.live.length≤a
 ps0:0≤m.ps
 ps1:m.ps≤4
 len:m.blocks.length=n
 phis : ∀j,(nth m.blocks j).phis.length≤p
 ins : ∀j,(nth m.blocks j).ins.length≤i
theorem Sz.mono{n a p i a' p' i':Nat}{m:MS}(z:Sz n a p i m)(h1:a≤a')(h2:p≤p')(h3:i≤i'):Sz n a' p' i' m:=
 ⟨Nat.le_trans z.at_ h1,z.n0,by have:=z.next;omega,Nat.le_trans z.live h1,z.ps0,z.ps1,z.len,fun j=>Nat.le_trans (z.phis j) h2,fun j=>Nat.le_trans (z.ins j) h3⟩
theorem Sz.ok {n a p i:Nat} {m:MS} (z:Sz n a p i m) (h:i≤a):m.ok a:=⟨z.at_,z.n0,z.next,z.live,fun j=>Nat.le_trans (z.ins j) h⟩
theorem Sz.took {n a p i:Nat} {m:MS} (z:Sz n a p i m):Sz n (a+1) p i m.took:=⟨by have:=z.at_;show m.at_+1≤_;omega,z.n0,by have:=z.next;show m.next≤_;omega,by have:=z.live;show m.live.length≤_;omega,z.ps0,z.ps1,z.len,z.phis,z.ins⟩
variable{b:Nat}
theorem Sz.aU{a p i:Nat}{m:MS}(z:Sz n a p i m){x:BlkD}(h1:x.phis.length≤p)(h2:x.ins.length≤i):Sz n a p i { m with blocks:=m.blocks.set b x }:=by
 refine⟨z.at_,z.n0,z.next,z.live,z.ps0,z.ps1,by show(m.blocks.set b x).length=_;rw[List.length_set];exact z.len,fun j=>?_,fun j=>?_⟩
 all_goals
  show List.length (α:=_) _≤_
  rcases Nat.lt_or_ge j m.blocks.length with hl | hl
  ·simp only[aH hl]
   split
   ·assumption
   ·first | exact z.phis j | exact z.ins j
  ·first
    | (have:=z.phis j;rw[aV hl]at this;rw[aV (by simpa using hl)];exact this)
    | (have:=z.ins j;rw[aV hl]at this;rw[aV (by simpa using hl)];exact this)
theorem Sz.cR {n a p i b:Nat} {m:MS} (z:Sz n a p i m):Sz n (a+1) (p+1) i (cR b m):=by
 have h1:Sz n (a+1) (p+1) i m.aG:=⟨by have:=z.at_;show m.at_≤_;omega,by have:=z.n0;show 0≤m.next+1;omega,by have:=z.next;show m.next+1≤_;omega,by have:=z.live;show m.live.length≤_;omega,z.ps0,z.ps1,z.len,fun j=>by have:=z.phis j;show(nth m.blocks j).phis.length≤_;omega,z.ins⟩
 exact h1.aU (b:=b) (x:={ nth m.blocks b with phis:=(nth m.blocks b).phis++[⟨m.next,[]⟩] }) (by have:=z.phis b;show((nth m.blocks b).phis++[_]).length≤_;rw[List.length_append,List.length_singleton];omega) (z.ins b)
theorem Sz.j9 {n a p i b:Nat} {m:MS} (z:Sz n a p i m) : ∀k,Sz n (a+k) (p+k) i (up (fun _=>Go.Proofs.YtbkdlhkoiagbbaaGreat.cR b) k m)
 | 0=>z
 | k+1=>(Sz.j9 z k).cR
section
variable {s:List Int} {M:Nat} {vs:Value} {W0:View} {h:Heap} {o0:Own} {m:MS}
variable{vp:Value}{lp:List Int}
theorem Fk{a p i cnt:Nat}{vq:Value}(x:Nx s M vs W0 h o0 m)(hk:o0 (5,0)=it T.int vp lp)(z:Sz n a p i m)(hb:b<n)(hlp:lp.length=n)(hcnt:nth lp b=cnt)(hc:cnt≤10)(hn:n≤100)(ha:a≤100000)(hp:p≤100000)(h0:bm [2,3,4,5,7,8,9,10] ρ=[(2,vr),(3,.pointer (some ⟨M,0,none⟩)),(4,.int .i64 n),(5,vt),(7,vp),(8,.int .i64 b),(9,vq),(10,.int .i64 0)])(hQ : ∀h',Nx s M vs W0 h' o0 (up (fun _=>cR b) cnt m)→Q .normal [(2,vr),(3,.pointer (some ⟨M,0,none⟩)),(4,.int .i64 n),(5,vt),(7,vp),(8,.int .i64 b),(9,vq),(10,.int .i64 cnt)] h'):
  LC.wp Tryz.prog (.block 4 (.loop L.au.l3)) Q ρ h:=by
 simp only[aJ]
 refine bM [2,3,4,5,7,8,9,10] (fun(_:Unit) k=>[vr,.pointer (some ⟨M,0,none⟩),.int .i64 n,vt,vp,.int .i64 b,vq,.int .i64 k]) (fun _ k h2=>Nx s M vs W0 h2 o0 (up (fun _=>cR b) k m)) cnt ()
  rfl (by omega) h0 x (fun _ _=>rfl) (fun v k h2 hk2 m=>by
   have sp:=m.z.at (by decide) hk
   have e:=sp.int (View.le_refl _) (i:=b) (by omega)
   rw[hcnt]at e
   simp(disch:=omega)[sp.idx1 rfl,e]) ?_ ?_
 ·rintro _ k h2 hlt x2 K2 hK2
  have z2:=z.j9 (b:=b) k
  have e2:up (fun _=>cR b) (k+1) m=cR b (up (fun _=>cR b) k m):=rfl
  rw[e2]at hK2
  generalize up (fun _=>cR b) k m=m2 at x2 hK2 z2
  have hbl:b<m2.blocks.length:=by rw[z2.len];exact hb
  obtain⟨W,o,g,w,f⟩:=x2
  obtain⟨vb,vl,lb,bb⟩:=w.box
  have hbb:b<lb.length:=by rw[bb.len];exact hbl
  obtain⟨H,hH,c3,sH,Dz⟩:=bb.Dz w.own
  have a1:=(sH.at hbb).part BlkM.mD
  have a2:an H (((slA vb).add (b*6)).add 0)=some (nth lb b).phis.v:=by rw[ak hbb];exact a1.raw
  have sb:=sH.bound
  simp only[aJ]
  refine Cd H hH ?_
  simp(disch:=omega)[c3,sH.idxn (N:=6) rfl,a2]
  refine af (by kernel_rfl) (w.HM bb z2.n0 (by have:=z2.next;omega)) ?_
  rintro _ h3 ⟨rfl,o3,w3,b3,f3,keep⟩
  obtain⟨X,hHX,hWX,hX,sX,avX⟩:=Dz h3 o3 w3.own b3 keep
  refine⟨sub_le hHX hX,?_⟩
  refine aS (z:=.agg #[.int .i64 0,.slice none 0 0]) (places:=[(0,1),(1,1)]) (vs:=[(0,.int .i64 m2.next)]) (cs:=#[.int .i64 m2.next,.slice none 0 0]) (by kernel_rfl) (by kernel_rfl) (by simp) (by rfl) ?_
  refine⟨sub_le hHX hX,?_⟩
  have i64:I64 m2.next:=by have:=z2.n0;have:=z2.next;constructor<;>omega
  have hph:=z2.phis b
  refine kN (α:=PhiD) (W:=W) (d:=⟨m2.next,[]⟩) El.kl rfl (yP i64 gk) fun u5 h5 src hle5 hs5=>⟨sub_le hHX (View.le_trans hX hle5),?_⟩
  refine(w3.own.ext' hle5).dW (k:=(1,b)) (α:=PhiD) (v:=(nth lb b).phis.v) (l:=(nth m2.blocks b).phis) (l2:=[⟨m2.next,[]⟩]) (b3.phis b hbl) El.kl rfl rfl src (by simp;omega) (by simp;omega) fun v6 h6 w6 m6=>⟨sub_le hHX (m6.view (View.le_trans hX hle5) (avX b hbl)).1,?_⟩
  have hv6:=(w6.cells (k:=(1,b)) Own.ag).2
  refine w6.kV (k:=(0,2)) (α:=BlkM) BlkM.mD (v:=vb) (l:=lb) (i:=b) (d:=⟨v6⟩) b3.blk (by kernel_rfl) rfl rfl hbb (qH.2 ⟨rfl,hv6⟩) fun h7 w7 _=>?_
  have b7:=b3.aU (b:=b) hbl (x':={ nth m2.blocks b with phis:=(nth m2.blocks b).phis++[⟨m2.next,[]⟩] }) (y':={ lb[b]with phis:=⟨v6⟩ }) (o':=(o3.upd (1,b) (it T.dG v6 ((nth m2.blocks b).phis++[⟨m2.next,[]⟩]))).upd (0,2) (it T.aY vb (lb.set b { lb[b]with phis:=⟨v6⟩ }))) (by rw[←bb.term b hbl,ak hbb]) Own.ag ((Own.ab (by simp)).trans Own.ag) (by rw[Own.ab (by simp),Own.ab (by simp),b3.ins b hbl,ak hbb];rfl) (fun q h1 h2 h3=>by rw[Own.ab h1,Own.ab h2])
  refine hK2 () _ _ rfl rfl ⟨W,_,g,⟨w7,w.src,vb,vl,_,b7⟩,fun k hk=>?_⟩
  rw[Own.ab (by rintro rfl;simp at hk),Own.ab (by rintro rfl;simp at hk)]
  exact(f3 k hk).trans (f k hk)
 ·rintro _ h2 x2
  exact hQ h2 x2
end
variable{po:OP}{α:Type}{ty:TypeId}{us:List (Nat × Value)}
theorem Nz.tA{s:List Int}{h:Heap}{m:MS}{u:Value}{ds:List Int}[r:Rep α](n:Nz s M vs W0 h o0 m u ds){k:Key}{e:TypeId}{i:Nat}{v:Value}{l:List α}{t:TypeId}{x y:Operand}{d:α}{w:Value}{K:Value→Heap→Prop}(h1:Rep.n α=1)(h3:3≤k.1)(hk:o0 k=it e v l)(hi:i<l.length)(hsz:cV Tryz.prog t=some 1)(hx:asg us x = .pointer (some ((slA v).add i)))(hy:asg us y=w)(hr : ∀W,Rd W w d)(hK : ∀h',Nz s M vs W0 h' (o0.upd k (it e v (l.set i d))) m u ds→K undef h'):@Lft.step po Tryz.prog (.store t x y) ty us h K:=
 n.Fo h3 hk hi (by rw[hsz,h1]) (by rw[hx,h1,Nat.mul_one]) hy hr hK
theorem me{s:List Int}{m:MS}:0≤fW s m b∧fW s m b≤3:=by
 unfold fW
 have:=bj (s:=s) (at_:=m.at_) (n:=4) (by decide)
 repeat' split
 all_goals omega
theorem EU{l:List Int}{i:Nat}{x:Int}(h:nth l i=x)(hi:i<l.length):l.set i x=l:=by
 rw[←h,ak hi]
 exact List.set_getElem_self hi
structure Ph (n a k:Nat) (x:List Int × MS):Prop where
 z:Sz n (a+10*k) (3*k) 0 x.2
 len:x.1.length=n
 zero : ∀j,k<j→nth x.1 j=0
 rng : ∀j,0≤nth x.1 j∧nth x.1 j≤3
theorem uB{s:List Int}{a k:Nat}{x:List Int × MS}(p:Ph n a k x):Ph n a (k+1) (dc s k x):=by
 obtain⟨c0,c1⟩:=me (s:=s) (m:=x.2) (b:=k+1)
 have hset : ∀j,nth (x.1.set (k+1) (fW s x.2 (k+1))) j=if k+1=j∧j<x.1.length then fW s x.2 (k+1) else nth x.1 j:=fun j=>by
  rcases Nat.lt_or_ge j x.1.length with hl | hl
  ·rw[aH hl]
   by_cases e:k+1=j
   ·rw[if_pos e,if_pos ⟨e,hl⟩]
   ·rw[if_neg e,if_neg (fun q=>e q.1)]
  ·rw[aV (by simpa using hl),if_neg (by omega),aV hl]
 refine⟨?_,?_,fun j hj=>?_,fun j=>?_⟩
 ·have:=(p.z.took).j9 (b:=k+1) (fW s x.2 (k+1)).toNat
  exact this.mono (by omega) (by omega) (Nat.le_refl _)
 ·show(x.1.set _ _).length=_
  rw[List.length_set];exact p.len
 ·show nth (x.1.set _ _) j=_
  rw[hset,if_neg (by omega)]
  exact p.zero j (by omega)
 ·show 0≤nth (x.1.set _ _) j∧nth (x.1.set _ _) j≤3
  rw[hset]
  split
  ·exact⟨c0,c1⟩
  ·exact p.rng j
theorem xG {s:List Int} {n a:Nat} {x:List Int × MS} (p:Ph n a 0 x) : ∀k,Ph n a k (up (dc s) k x)
 | 0=>p
 | k+1=>uB (xG p k)
variable{vp:Value}
theorem Fy{s:List Int}{h:Heap}{a:Nat}{x0:List Int × MS}(x:Nx s M vs W0 h (o0.upd (5,0) (it T.int vp x0.1)) x0.2)(p0:Ph n a 0 x0)(hn1:1≤n)(hn:n≤100)(ha:a≤10000)(h0:bm [2,3,4,5,7,8] ρ=[(2,vr),(3,.pointer (some ⟨M,0,none⟩)),(4,.int .i64 n),(5,vt),(7,vp),(8,.int .i64 1)])(hQ : ∀h',Nx s M vs W0 h' (o0.upd (5,0) (it T.int vp (up (dc s) (n-1) x0).1)) (up (dc s) (n-1) x0).2→Q .normal [(2,vr),(3,.pointer (some ⟨M,0,none⟩)),(4,.int .i64 n),(5,vt),(7,vp),(8,.int .i64 n)] h'):
  LC.wp Tryz.prog (.block 2 (.loop L.au.l2)) Q ρ h:=by
 simp only[aJ]
 refine ud [2,3,4,5,7,8] (fun(_:Unit) k=>[vr,.pointer (some ⟨M,0,none⟩),.int .i64 n,vt,vp,.int .i64 ((k+1:Nat):Int)]) (fun _ k h2=>Nx s M vs W0 h2 (o0.upd (5,0) (it T.int vp (up (dc s) k x0).1)) (up (dc s) k x0).2) (n-1) 1 ()
  rfl (by omega) h0 x (fun _ _=>rfl) (fun v k h2 hk2 m=>by simp;omega) ?_ ?_
 ·rintro _ k h2 hlt x2 K2 hK2
  have p2:=xG (s:=s) p0 k
  have e2:up (dc s) (k+1) x0=dc s k (up (dc s) k x0):=rfl
  have p3:=uB (s:=s) p2
  rw[e2]at hK2
  generalize up (dc s) k x0=y at x2 hK2 p2 p3
  obtain⟨lp,m⟩:=y
  have z:Sz n (a+10*k) (3*k) 0 m:=p2.z
  have x2:Nx s M vs W0 h2 (o0.upd (5,0) (it T.int vp lp)) m:=x2
  have q:m.ok (a+10*k):=z.ok (by omega)
  have hlen:lp.length=n:=p2.len
  simp only[aJ]
  refine aa fun y hy=>?_
  obtain⟨vb,vl,rd⟩:=x2.z.reads
  simp[rd.f]
  refine af (by kernel_rfl) (rO (b:=((k+1:Nat):Int)) (rd.rd ⟨by have:=z.ps0;show _≤m.ps;omega,by have:=z.ps1;show m.ps≤_;omega⟩) (by show m.blocks.length≤_;rw[z.len];omega)) ?_
  rintro vq h3 ⟨hle3,hq⟩
  have n3:=x2.z.ext hle3
  have hcd:fW s m (k+1)=_:=fW.eq_1 s m (k+1)
  obtain⟨pl,hpl⟩ : ∃pl:Nat,pl=(aw m.f ((k+1:Nat):Int)).length:=⟨_,rfl⟩
  have hql : ∀{Q:View},Un.ev Q .len vq=some (.int .i64 pl):=fun{Q}=>by rw[hpl];exact hq.len
  rw[←hpl]at hcd
  clear hq x2 rd hpl
  rw[hy];clear hy y
  refine aa fun y hy=>?_
  have fin : ∀(h':Heap) (ρ:Env),Nz s M vs W0 h' (o0.upd (5,0) (it T.int vp (lp.set (k+1) (fW s m (k+1))))) m.took (.slice none 0 0) []→Lft.look ρ 2=some vr→Lft.look ρ 3=some (.pointer (some ⟨M,0,none⟩))→Lft.look ρ 4=some (.int .i64 n)→Lft.look ρ 5=some vt→Lft.look ρ 7=some vp→Lft.look ρ 8=some (.int .i64 ((k+1:Nat):Int))→Lft.look ρ 9=some vq→
    LC.wp Tryz.prog y (dV 3 (ft K2 (dV 2 Q))) ρ h':=by
   intro h' ρ n' r2 r3 r4 r5 r7 r8 r9
   rw[hy];clear hy y
   refine aa fun y hy=>?_
   simp
   rw[hy];clear hy y
   obtain⟨c0,c1⟩:=me (s:=s) (m:=m) (b:=k+1)
   refine Fk (vr:=vr) (vt:=vt) (b:=k+1) (cnt:=(fW s m (k+1)).toNat) (vq:=vq) n'.x Own.ag z.took (by omega) (by rw[List.length_set];exact hlen) (by rw[aH (by omega),if_pos rfl];omega) (by omega) hn (by omega) (by omega) ?_ fun h4 x4=>?_
   ·simp[bm,aj,al,r2,r3,r4,r5,r7,r8,r9]
   ·simp
    exact hK2 () _ _ rfl rfl x4
  refine aa fun w hw=>?_
  simp[hql]
  rw[hw];clear hw w
  by_cases c1:1<pl
  ·rw[if_pos c1]at hcd
   refine a8 (by simp;omega) ?_
   simp
   refine af (by kernel_rfl) (eH n3 q (by omega) (k:=4) (by decide) (by decide)) ?_
   rintro _ h4 ⟨rfl,n4⟩
   have sp:=n4.at (k:=(5,0)) (by decide) Own.ag
   simp(disch:=omega)[sp.idx1 rfl]
   refine n4.tA (k:=(5,0)) (α:=Int) (i:=k+1) (d:=az s m.at_ 4) rfl (by decide) Own.ag (by omega) (by kernel_rfl) rfl rfl (fun W=>dR.2 ⟨rfl,by have:=bj (s:=s) (at_:=m.at_) (n:=4) (by decide);constructor<;>omega⟩) fun h5 n5=>?_
   refine fin h5 _ (n5.re fun q=>by rw[ir,hcd]) ?_ ?_ ?_ ?_ ?_ ?_ ?_
   all_goals simp
  ·rw[if_neg c1]at hcd
   refine aX (by simp;omega) ?_
   refine aa fun w hw=>?_
   simp
   refine af (by kernel_rfl) (eH n3 q (by omega) (k:=6) (by decide) (by decide)) ?_
   rintro _ h4 ⟨rfl,n4⟩
   simp
   rw[hw];clear hw w
   by_cases c2:az s m.at_ 6=0
   ·rw[if_pos c2]at hcd
    refine a8 (by simp[c2]) ?_
    have sp:=n4.at (k:=(5,0)) (by decide) Own.ag
    simp(disch:=omega)[sp.idx1 rfl]
    refine n4.tA (k:=(5,0)) (α:=Int) (i:=k+1) (d:=1) rfl (by decide) Own.ag (by omega) (by kernel_rfl) rfl rfl (fun W=>dR.2 ⟨rfl,by decide,by decide⟩) fun h5 n5=>?_
    refine fin h5 _ (n5.re fun q=>by rw[ir,hcd]) ?_ ?_ ?_ ?_ ?_ ?_ ?_
    all_goals simp
   ·rw[if_neg c2]at hcd
    refine aX (by simp[c2]) ?_
    simp
    have e:lp.set (k+1) (fW s m (k+1))=lp:=by rw[hcd];exact EU (p2.zero (k+1) (by omega)) (by omega)
    refine fin h4 _ (n4.re fun q=>by rw[e]) ?_ ?_ ?_ ?_ ?_ ?_ ?_
    all_goals simp
 ·rintro _ h2 x2
  have e:n-1+1=n:=by omega
  have:=hQ h2 x2
  simpa[e]using this
section
variable {s:List Int} {M:Nat} {vs:Value} {W0:View} {h:Heap} {o0:Own} {m:MS}
theorem Ep{a p i:Nat}(z:Sz n a p i m):I64 m.ps:=by have:=z.ps0;have:=z.ps1;constructor<;>omega
variable{vd va:Value}
theorem F5{a p i:Nat}{r:Bool}{t:Nat}(x:Nx s M vs W0 h (o0.upd (7,0) (it T.mJ va ([]:List BL))) m)(hfree:o0 (7,0)=none)(z:Sz n a p i m)(hn:n≤100)(h0:bm [2,3,4,5,7,11,12,13,14,15,16] ρ=[(2,vr),(3,.pointer (some ⟨M,0,none⟩)),(4,.int .i64 n),(5,vt),(7,vp),(11,vd),(12,.int .i64 t),(13,.int .i64 b),(14,.bool r),(15,va),(16,.int .i64 0)])(hQ : ∀h' W' va,W0.le W'→Nx s M vs W' h' o0 m→SlRd W' va (iQ m.f n)→Q .normal [(2,vr),(3,.pointer (some ⟨M,0,none⟩)),(4,.int .i64 n),(5,vt),(7,vp),(11,vd),(12,.int .i64 t),(13,.int .i64 b),(14,.bool r),(15,va),(16,.int .i64 n)] h'):
  LC.wp Tryz.prog (.block 10 (.loop L.au.l6)) Q ρ h:=by
 simp only[aJ]
 refine bM [2,3,4,5,7,11,12,13,14,15,16] (fun(va:Value) k=>[vr,.pointer (some ⟨M,0,none⟩),.int .i64 n,vt,vp,vd,.int .i64 t,.int .i64 b,.bool r,va,.int .i64 k]) (fun va k h2=>Nx s M vs W0 h2 (o0.upd (7,0) (it T.mJ va (rows (fun a=>eo m.f (a:Int)) k))) m) n va
  rfl (by omega) h0 x (fun _ _=>rfl) (fun v k h2 hk2 m=>by simp) ?_ ?_
 ·rintro va k h2 hlt x2 K2 hK2
  simp only[aJ]
  obtain⟨vb,vl,rd⟩:=x2.z.reads
  simp[rd.f]
  refine af (by kernel_rfl) (sQ (wo:=(k:Int)) (rd.rd (Ep z)) (by show m.blocks.length≤_;rw[z.len];omega)) ?_
  rintro ur h3 ⟨hle3,hur⟩
  obtain⟨W,o,g,w,f⟩:=x2
  have w3:=w.own.ext hle3
  have hW3:=cy (h':=h3) w.own.wle
  have hur:=hur.mono (eT W h2 h3)
  generalize grow W h2 h3=W3 at w3 hW3 hur
  refine w3.gL (k:=(7,0)) (α:=BL) (d:=eo m.f (k:Int)) ((f _ (by decide)).trans Own.ag) El.sG rfl (gh.2 hur) (by simp;omega) (by simp;omega) (fun _=>rfl) (fun _=>rfl) fun u v' h4 w4 _=>?_
  obtain⟨vb,vl,lb,bb⟩:=w.box
  refine hK2 v' _ _ rfl rfl ⟨W3,_,View.le_trans g hW3,⟨w4,w.src.mono hW3,vb,vl,lb,bb.frame fun q hq=>Own.ab (by rintro rfl;simp at hq)⟩,fun q hq=>?_⟩
  rw[eZ]
  unfold Own.upd
  split
  ·rfl
  ·rename_i e
   rw[f q hq,Own.ab e]
 ·rintro va h2 ⟨W,o,g,w,f⟩
  have hk:=(f (7,0) (by decide)).trans Own.ag
  obtain⟨w2,sl⟩:=w.own.freeze hk
  have hWp:=jC (h:=h2) (w.own.av _ _ hk)
  obtain⟨vb,vl,lb,bb⟩:=w.box
  refine hQ h2 _ va (View.le_trans g hWp) ⟨_,_,View.le_refl _,⟨w2,w.src.mono hWp,vb,vl,lb,bb.frame fun q hq=>Own.ab (by rintro rfl;simp at hq)⟩,fun q hq=>?_⟩ sl
  by_cases e:q=(7,0)
  ·rw[e,Own.ag,hfree]
  ·rw[Own.ab e,f q hq,Own.ab e]
variable{dn:BL}{away:List BL}
theorem FC{r:Bool}{t:Nat}(sd:SlRd (vw h) vd dn)(sa:SlRd (vw h) va away)(hb:b<n)(hdn:dn.length=n)(hal:away.length=n)(har : ∀i,i<n→(nth away i).length=n)(hn:n≤100)(h0:bm [2,3,4,5,7,11,12,13,14,15,17] ρ=[(2,vr),(3,.pointer (some ⟨M,0,none⟩)),(4,.int .i64 n),(5,vt),(7,vp),(11,vd),(12,.int .i64 t),(13,.int .i64 b),(14,.bool r),(15,va),(17,.int .i64 0)])(hQ:Q .normal [(2,vr),(3,.pointer (some ⟨M,0,none⟩)),(4,.int .i64 n),(5,vt),(7,vp),(11,vd),(12,.int .i64 t),(13,.int .i64 b),(14,.bool (up (fun a r=>r&&(decide (a=b)||nth dn a||nth (nth away a) b)) n r)),(15,va),(17,.int .i64 n)] h):
  LC.wp Tryz.prog (.block 12 (.loop L.au.l7)) Q ρ h:=by
 simp only[aJ]
 refine bM [2,3,4,5,7,11,12,13,14,15,17] (fun(r:Bool) k=>[vr,.pointer (some ⟨M,0,none⟩),.int .i64 n,vt,vp,vd,.int .i64 t,.int .i64 b,.bool r,va,.int .i64 k]) (fun r2 k h2=>h2=h∧r2=up (fun a r=>r&&(decide (a=b)||nth dn a||nth (nth away a) b)) k r) n r
  rfl (by omega) h0 ⟨rfl,rfl⟩ (fun _ _=>rfl) (fun v k h2 hk2 m=>by simp) ?_ ?_
 ·rintro r2 k h2 hlt ⟨rfl,hr2⟩ K2 hK2
  have e:up (fun a r=>r&&(decide (a=b)||nth dn a||nth (nth away a) b)) (k+1) r=(r2&&(decide (k=b)||nth dn k||nth (nth away k) b)):=by rw[hr2];rfl
  rw[e]at hK2
  clear e hr2
  obtain⟨rv,hrv⟩:=sa.rows
  obtain⟨ha1,ha2⟩:=hrv k (by omega)
  have hl:=har k hlt
  have hkb : ∀{A:Type},True:=trivial
  simp only[aJ]
  cases r2 with
  | false=>
   simp
   exact hK2 false _ _ rfl rfl ⟨rfl,rfl⟩
  | true=>
   by_cases c:k=b
   ·subst c
    simp
    exact hK2 true _ _ rfl rfl ⟨rfl,by simp⟩
   ·have c':¬((k:Int)=(b:Int)):=by omega
    cases hd:nth dn k with
    | true=>
     simp(disch:=omega)[c,c',sd.idx1 rfl,sd.bool (View.le_refl _),hd]
     exact hK2 true _ _ rfl rfl ⟨rfl,by simp[hd]⟩
    | false=>
     simp(disch:=omega)[c,c',sd.idx1 rfl,sd.bool (View.le_refl _),hd,sa.idx1 rfl,ha1 _ (View.le_refl _),ha2.idx1 rfl,ha2.bool (View.le_refl _)]
     exact hK2 _ _ _ rfl rfl ⟨rfl,by simp[hd,c]⟩
 ·rintro r2 h2 ⟨rfl,rfl⟩
  exact hQ
end
def MS.cA (m:MS) (l:List Int):MS:={ m with live:=l }
section
variable {s:List Int} {M:Nat} {vs:Value} {W0:View} {h:Heap} {o0:Own} {m:MS}
variable{vb vl:Value}{ty2:TypeId}
theorem Mk.xk{po2:OP}{o:Own}(w:Mk s M vs W h o m){lb:List BlkM}(bb:MkB M vs m o vb vl lb){l2:List Int}{u:Value}{x y c1 c2:Operand}{us2:Value→List (Nat × Value)}{K:Value→Value→Heap→Prop}(src:SrcT (vw h) W u l2)(hl:m.live.length+l2.length≤1000000)(hx:asg us x=vl)(hy:asg us y=u)(hc1 : ∀v,asg (us2 v) c1 = .pointer (some ⟨M,5,none⟩))(hc2 : ∀v,asg (us2 v) c2=v)(hK : ∀v h' o',Mk s M vs W h' o' (m.cA (m.live++l2))→(∀k:Key,3≤k.1→o' k=o k)→K v undef h'):
  @Lft.step po Tryz.prog (.call ⟨.builtin .append,#[x,y],#[T.bc,T.bc]⟩) ty us h fun v h2=>@Lft.step po2 Tryz.prog (.store T.bc c1 c2) ty2 (us2 v) h2 fun w h3=>K v w h3:=by
 refine w.own.dW (k:=(0,1)) (α:=Int) (v:=vl) (l:=m.live) (l2:=l2) bb.live El.bc hx hy src (by omega) (by omega) fun v h2 w2 _=>?_
 have hv:=(w2.cells (k:=(0,1)) Own.ag).2
 refine w2.cI (k:=(0,0)) (n:=5) (i:=5) (e:=T.aT) (B:=M) (l:=mkL vs m.at_ m.ps vb m.next vl) ((Own.ab (by simp)).trans bb.box) (by decide) (by kernel_rfl) (hc1 v) (hc2 v) hv fun h3 w3 _=>?_
 refine hK v h3 _ ⟨w3,w.src,vb,v,lb,⟨rfl,rfl,(Own.ab (by simp)).trans ((Own.ab (by simp)).trans bb.blk),bb.len,bb.term,fun i hi=>?_,fun i hi=>?_⟩⟩ fun k hk=>?_
 ·exact(Own.ab (by simp)).trans ((Own.ab (by simp)).trans (bb.phis i hi))
 ·exact(Own.ab (by simp)).trans ((Own.ab (by simp)).trans (bb.ins i hi))
 ·rw[Own.ab (by rintro rfl;simp at hk),Own.ab (by rintro rfl;simp at hk)]
variable{vd va:Value}
theorem Gv{a p i c:Nat}{r:Bool}{t:Nat}(x:Nx s M vs W0 h o0 (m.cA []))(z:Sz n a p i m)(hc:m.ps=c)(h0:bm [2,3,4,5,7,11,12,13,15,18] ρ=[(2,vr),(3,.pointer (some ⟨M,0,none⟩)),(4,.int .i64 n),(5,vt),(7,vp),(11,vd),(12,.int .i64 t),(13,.int .i64 b),(15,va),(18,.int .i64 0)])(hQ : ∀h',Nx s M vs W0 h' o0 (m.cA (rows (fun i=>(i:Int)) c))→Q .normal [(2,vr),(3,.pointer (some ⟨M,0,none⟩)),(4,.int .i64 n),(5,vt),(7,vp),(11,vd),(12,.int .i64 t),(13,.int .i64 b),(15,va),(18,.int .i64 c)] h'):
  LC.wp Tryz.prog (.block 14 (.loop L.au.l8)) Q ρ h:=by
 have hc4:c≤4:=by have:=z.ps1;omega
 simp only[aJ]
 refine bM [2,3,4,5,7,11,12,13,15,18] (fun(_:Unit) k=>[vr,.pointer (some ⟨M,0,none⟩),.int .i64 n,vt,vp,vd,.int .i64 t,.int .i64 b,va,.int .i64 k]) (fun _ k h2=>Nx s M vs W0 h2 o0 (m.cA (rows (fun i=>(i:Int)) k))) c ()
  rfl (by omega) h0 x (fun _ _=>rfl) (fun v k h2 hk2 x2=>by
   obtain⟨vb,vl,rd⟩:=x2.z.reads
   have e:(m.cA (rows (fun i=>(i:Int)) k)).ps=c:=hc
   simp[rd.ps,e]) ?_ ?_
 ·rintro _ k h2 hlt x2 K2 hK2
  obtain⟨W,o,g,w,f⟩:=x2
  obtain⟨vb,vl,lb,bb⟩:=w.box
  have rd:=w.reads bb
  simp only[aJ]
  simp[rd.cl]
  refine kN (α:=Int) (W:=W) (d:=(k:Int)) El.bc rfl (dR.2 ⟨rfl,by constructor<;>omega⟩) fun u5 h5 src hle5 hs5=>?_
  have w5:Mk s M vs W h5 o (m.cA (rows (fun i=>(i:Int)) k)):=⟨w.own.ext' hle5,w.src,w.box⟩
  refine w5.xk bb src (by show(rows _ k).length+1≤_;simp;omega) rfl rfl (fun _=>rfl) (fun _=>rfl) fun v h6 o6 w6 f6=>?_
  refine hK2 () _ _ rfl rfl ⟨W,o6,g,?_,fun k hk=>(f6 k hk).trans (f k hk)⟩
  rw[eZ]
  exact w6
 ·rintro _ h2 x2
  exact hQ h2 x2
theorem Dj{a p i ai:Nat}{t:Nat}{lv:List Int}(x:Nx s M vs W0 h o0 (m.cA lv))(z:Sz n a p i m)(hai:ai<n)(hn:n≤100)(hl:lv.length≤100000)(hp:p≤100000)(h0:bm [2,3,4,5,7,11,12,13,15,19,20] ρ=[(2,vr),(3,.pointer (some ⟨M,0,none⟩)),(4,.int .i64 n),(5,vt),(7,vp),(11,vd),(12,.int .i64 t),(13,.int .i64 b),(15,va),(19,.int .i64 ai),(20,.int .i64 0)])(hQ : ∀h':Heap,Nx s M vs W0 h' o0 (m.cA (lv++(nth m.blocks ai).phis.map PhiD.dst))→Q .normal [(2,vr),(3,.pointer (some ⟨M,0,none⟩)),(4,.int .i64 n),(5,vt),(7,vp),(11,vd),(12,.int .i64 t),(13,.int .i64 b),(15,va),(19,.int .i64 ai),(20,.int .i64 (nth m.blocks ai).phis.length)] h'):
  LC.wp Tryz.prog (.block 18 (.loop L.au.l10)) Q ρ h:=by
 have hpl:=z.phis ai
 have hlen:ai<m.blocks.length:=by rw[z.len];exact hai
 simp only[aJ]
 have read : ∀{h2:Heap} {lv2:List Int} {vb vl:Value},Reads M (m.cA lv2) h2 vb vl→∃vph,an (vw h2) (((slA vb).add (ai*6)).add 0)=some vph∧SlRd (vw h2) vph (nth m.blocks ai).phis∧Bn.ev (.idx 6) vb (.int .i64 ai)=some (.pointer (some ((slA vb).add (ai*6)))):=by
  intro h2 lv2 vb vl rd
  have hb:=rd.blk
  have hl2:ai<(m.cA lv2).blocks.length:=hlen
  obtain⟨vph,h1⟩:=((hb.at hl2).part BlkD.mD).sl
  have h2:=h1.2
  have e:(m.cA lv2).blocks[ai]=nth m.blocks ai:=(ak hl2).symm
  rw[e]at h2
  exact⟨vph,h1.1,h2,by have:=hb.idxn (N:=6) rfl (k:=.i64) (i:=ai) (by omega) (by omega);simpa using this⟩
 refine bM [2,3,4,5,7,11,12,13,15,19,20] (fun(_:Unit) k=>[vr,.pointer (some ⟨M,0,none⟩),.int .i64 n,vt,vp,vd,.int .i64 t,.int .i64 b,va,.int .i64 ai,.int .i64 k]) (fun _ k h2=>Nx s M vs W0 h2 o0 (m.cA (lv++((nth m.blocks ai).phis.take k).map PhiD.dst))) (nth m.blocks ai).phis.length ()
  rfl (by omega) h0 (by simpa using x) (fun _ _=>rfl) (fun v k h2 hk2 x2=>by
   obtain⟨vb,vl,rd⟩:=x2.z.reads
   obtain⟨vph,r1,r2,r3⟩:=read rd
   simp[rd.cb,r3,r1,r2.len]) ?_ ?_
 ·rintro _ k h2 hlt x2 K2 hK2
  obtain⟨W,o,g,w,f⟩:=x2
  obtain⟨vb,vl,lb,bb⟩:=w.box
  have rd:=w.reads bb
  obtain⟨vph,r1,r2,r3⟩:=read rd
  have r4:an (vw h2) (((slA vph).add (k*2)).add 0)=some (.int .i64 (nth m.blocks ai).phis[k].dst):=((r2.at hlt).part PhiD.je).int
  have i64:=((r2.at hlt).part PhiD.je).rng
  have r5:Bn.ev (.idx 2) vph (.int .i64 k)=some (.pointer (some ((slA vph).add (k*2)))):=by
   have:=r2.idxn (N:=2) rfl (k:=.i64) (i:=k) (by omega) (by omega);simpa using this
  simp only[aJ]
  refine cH (vw h2) (View.le_refl _) ?_
  simp[rd.cl,rd.cb,r3,r1,r4,r5]
  refine kN (α:=Int) (W:=W) (d:=(nth m.blocks ai).phis[k].dst) El.bc rfl (dR.2 ⟨rfl,i64⟩) fun u5 h5 src hle5 hs5=>⟨hle5,?_⟩
  have w5:Mk s M vs W h5 o (m.cA (lv++((nth m.blocks ai).phis.take k).map PhiD.dst)):=⟨w.own.ext' hle5,w.src,w.box⟩
  refine w5.xk bb src (by show(lv++_).length+1≤_;simp;omega) rfl rfl (fun _=>rfl) (fun _=>rfl) fun v h6 o6 w6 f6=>?_
  refine hK2 () _ _ rfl rfl ⟨W,o6,g,?_,fun k hk=>(f6 k hk).trans (f k hk)⟩
  rw[List.take_succ_eq_append_getElem hlt,List.map_append,←List.append_assoc]
  exact w6
 ·rintro _ h2 x2
  rw[List.take_length]at x2
  exact hQ h2 x2
end
theorem zI{l:List InsD}:(l.flatMap a6).length≤2*l.length:=by
 induction l with
 | nil=>simp
 | cons a l ih=>
  have:(a6 a).length≤2:=by
   unfold a6
   repeat' split
   all_goals simp
  simp only[List.flatMap_cons,List.length_append,List.length_cons]
  omega
section
variable {s:List Int} {M:Nat} {vs:Value} {W0:View} {h:Heap} {o0:Own} {m:MS}
variable{vd va:Value}
theorem Ej{a p i ai:Nat}{t:Nat}{lv:List Int}(x:Nx s M vs W0 h o0 (m.cA lv))(z:Sz n a p i m)(hai:ai<n)(hn:n≤100)(hl:lv.length≤100000)(hi:i≤100000)(h0:bm [2,3,4,5,7,11,12,13,15,19,21] ρ=[(2,vr),(3,.pointer (some ⟨M,0,none⟩)),(4,.int .i64 n),(5,vt),(7,vp),(11,vd),(12,.int .i64 t),(13,.int .i64 b),(15,va),(19,.int .i64 ai),(21,.int .i64 0)])(hQ : ∀h':Heap,Nx s M vs W0 h' o0 (m.cA (lv++(nth m.blocks ai).ins.flatMap a6))→Q .normal [(2,vr),(3,.pointer (some ⟨M,0,none⟩)),(4,.int .i64 n),(5,vt),(7,vp),(11,vd),(12,.int .i64 t),(13,.int .i64 b),(15,va),(19,.int .i64 ai),(21,.int .i64 (nth m.blocks ai).ins.length)] h'):
  LC.wp Tryz.prog (.block 20 (.loop L.au.l11)) Q ρ h:=by
 have hil:=z.ins ai
 have hlen:ai<m.blocks.length:=by rw[z.len];exact hai
 simp only[aJ]
 have read : ∀{h2:Heap} {lv2:List Int} {vb vl:Value},Reads M (m.cA lv2) h2 vb vl→∃vi,an (vw h2) (((slA vb).add (ai*6)).add 1)=some vi∧SlRd (vw h2) vi (nth m.blocks ai).ins∧Bn.ev (.idx 6) vb (.int .i64 ai)=some (.pointer (some ((slA vb).add (ai*6)))):=by
  intro h2 lv2 vb vl rd
  have hb:=rd.blk
  have hl2:ai<(m.cA lv2).blocks.length:=hlen
  obtain⟨vi,h1⟩:=((hb.at hl2).part BlkD.mK).sl
  have h2:=h1.2
  have e:(m.cA lv2).blocks[ai]=nth m.blocks ai:=(ak hl2).symm
  rw[e]at h2
  exact⟨vi,h1.1,h2,by have:=hb.idxn (N:=6) rfl (k:=.i64) (i:=ai) (by omega) (by omega);simpa using this⟩
 refine bM [2,3,4,5,7,11,12,13,15,19,21] (fun(_:Unit) k=>[vr,.pointer (some ⟨M,0,none⟩),.int .i64 n,vt,vp,vd,.int .i64 t,.int .i64 b,va,.int .i64 ai,.int .i64 k]) (fun _ k h2=>Nx s M vs W0 h2 o0 (m.cA (lv++((nth m.blocks ai).ins.take k).flatMap a6))) (nth m.blocks ai).ins.length ()
  rfl (by omega) h0 (by simpa using x) (fun _ _=>rfl) (fun v k h2 hk2 x2=>by
   obtain⟨vb,vl,rd⟩:=x2.z.reads
   obtain⟨vi,r1,r2,r3⟩:=read rd
   simp[rd.cb,r3,r1,r2.len]) ?_ ?_
 ·rintro _ k h2 hlt x2 K2 hK2
  obtain⟨vb,vl,rd⟩:=x2.z.reads
  obtain⟨vi,r1,r2,r3⟩:=read rd
  obtain⟨ux,hux,huxr⟩:=r2.wh rfl (N:=5) rfl hlt
  have r5:Bn.ev (.idx 5) vi (.int .i64 k)=some (.pointer (some ((slA vi).add (k*5)))):=by
   have:=r2.idxn (N:=5) rfl (k:=.i64) (i:=k) (by omega) (by omega);simpa using this
  simp only[aJ]
  refine aa fun y hy=>?_
  simp[rd.cb,r3,r1,r5,hux _ (View.le_refl _)]
  refine af (by kernel_rfl) (nR huxr) ?_
  rintro um h3 ⟨hle3,hum,-⟩
  clear rd r1 r2 r3 r5 hux
  obtain⟨W,o,g,w,f⟩:=x2
  have w3:=w.own.ext hle3
  have hW3:=cy (h':=h3) w.own.wle
  have hum:=hum.mono (eT W h2 h3)
  generalize grow W h2 h3=W3 at w3 hW3 hum
  have w4:Mk s M vs W3 h3 o (m.cA (lv++((nth m.blocks ai).ins.take k).flatMap a6)):=⟨w3,w.src.mono hW3,w.box⟩
  obtain⟨vb,vl,lb,bb⟩:=w4.box
  have rd:=w4.reads bb
  rw[hy];clear hy y
  simp[rd.cl]
  have hfl:=zI (l:=(nth m.blocks ai).ins.take k)
  have hml:(a6 (nth (nth m.blocks ai).ins k)).length≤2:=by
   unfold a6
   repeat' split
   all_goals simp
  refine w4.xk bb (hum.src w3.wle) (by show(lv++_).length+_≤_;simp at hfl ⊢;omega) rfl rfl (fun _=>rfl) (fun _=>rfl) fun v h6 o6 w6 f6=>?_
  refine hK2 () _ _ rfl rfl ⟨W3,o6,View.le_trans g hW3,?_,fun k hk=>(f6 k hk).trans (f k hk)⟩
  rw[List.take_succ_eq_append_getElem hlt,List.flatMap_append,List.flatMap_singleton,←List.append_assoc,←ak hlt]
  exact w6
 ·rintro _ h2 x2
  rw[List.take_length]at x2
  exact hQ h2 x2
variable{dn:BL}{away:List BL}
theorem CC{a p i:Nat}(z:Sz n a p i m){ai:Nat}{l:List Int}:(gw m dn away b ai l).length≤l.length+p+2*i:=by
 unfold gw
 split
 ·omega
 ·have h1:=z.phis ai
  have h2:=z.ins ai
  have h3:=zI (l:=(nth m.blocks ai).ins)
  simp only[List.length_append,List.length_map]
  omega
theorem lY {n a p i:Nat} (z:Sz n a p i m) {dn:BL} {away:List BL} {b:Nat} {l:List Int} : ∀k,(up (gw m dn away b) k l).length≤l.length+(p+2*i)*k
 | 0=>Nat.le_refl _
 | k+1=>by
  have:=lY z (dn:=dn) (away:=away) (b:=b) (l:=l) k
  have h2:=CC z (dn:=dn) (away:=away) (b:=b) (ai:=k) (l:=up (gw m dn away b) k l)
  show(gw m dn away b k (up (gw m dn away b) k l)).length≤_
  rw[Nat.mul_succ];omega
theorem GA{a p i:Nat}{t:Nat}{l0:List Int}(x:Nx s M vs W0 h o0 (m.cA l0))(z:Sz n a p i m)(hd:o0 (6,0)=it T.bool vd dn)(sa:SlRd W0 va away)(hb:b<n)(hdn:dn.length=n)(hal:away.length=n)(har : ∀i,i<n→(nth away i).length=n)(hn:n≤10)(hl:l0.length≤10)(hp:p≤1000)(hi:i≤3000)(h0:bm [2,3,4,5,7,11,12,13,15,19] ρ=[(2,vr),(3,.pointer (some ⟨M,0,none⟩)),(4,.int .i64 n),(5,vt),(7,vp),(11,vd),(12,.int .i64 t),(13,.int .i64 b),(15,va),(19,.int .i64 0)])(hQ : ∀h':Heap,Nx s M vs W0 h' o0 (m.cA (up (gw m dn away b) n l0))→Q .normal [(2,vr),(3,.pointer (some ⟨M,0,none⟩)),(4,.int .i64 n),(5,vt),(7,vp),(11,vd),(12,.int .i64 t),(13,.int .i64 b),(15,va),(19,.int .i64 n)] h'):
  LC.wp Tryz.prog (.block 16 (.loop L.au.l9)) Q ρ h:=by
 simp only[aJ]
 refine bM [2,3,4,5,7,11,12,13,15,19] (fun(_:Unit) k=>[vr,.pointer (some ⟨M,0,none⟩),.int .i64 n,vt,vp,vd,.int .i64 t,.int .i64 b,va,.int .i64 k]) (fun _ k h2=>Nx s M vs W0 h2 o0 (m.cA (up (gw m dn away b) k l0))) n ()
  rfl (by omega) h0 x (fun _ _=>rfl) (fun v k h2 hk2 x2=>by simp) ?_ ?_
 ·rintro _ k h2 hlt x2 K2 hK2
  have e2:up (gw m dn away b) (k+1) l0=gw m dn away b k (up (gw m dn away b) k l0):=rfl
  rw[e2]at hK2
  have hll:=lY z (dn:=dn) (away:=away) (b:=b) (l:=l0) k
  have hll:(up (gw m dn away b) k l0).length≤80000:=by
   have:(p+2*i)*k≤7000*10:=Nat.mul_le_mul (by omega) (by omega)
   omega
  generalize up (gw m dn away b) k l0=lv at x2 hK2 hll
  have hla:gw m dn away b k lv=_:=gw.eq_1 m dn away b k lv
  have sd:=x2.z.at (by decide) hd
  have sa2:=sa.mono x2.z.le
  obtain⟨rv,hrv⟩:=sa2.rows
  obtain⟨ha1,ha2⟩:=hrv k (by omega)
  have hal2:=har k hlt
  simp only[aJ]
  refine aa fun y hy=>?_
  have fin : ∀ρ,Lft.look ρ 2=some vr→Lft.look ρ 3=some (.pointer (some ⟨M,0,none⟩))→Lft.look ρ 4=some (.int .i64 n)→Lft.look ρ 5=some vt→Lft.look ρ 7=some vp→Lft.look ρ 11=some vd→Lft.look ρ 12=some (.int .i64 t)→Lft.look ρ 13=some (.int .i64 b)→Lft.look ρ 15=some va→Lft.look ρ 19=some (.int .i64 k)→(decide (k≠b)&&(!nth dn k||nth (nth away k) b))=false→
    LC.wp Tryz.prog y (dV 17 (ft K2 (dV 16 Q))) ρ h2:=by
   intro ρ r2 r3 r4 r5 r7 r11 r12 r13 r15 r19 hc
   rw[hy];clear hy y
   rw[if_neg (by rw[hc];simp)]at hla
   refine aa fun y hy=>?_
   refine aa fun w hw=>?_
   simp
   rw[hw];clear hw w
   refine Dj (vr:=vr) (vt:=vt) (vp:=vp) (vd:=vd) (va:=va) (t:=t) (b:=b) (ai:=k) x2 z hlt (by omega) (by omega) (by omega) ?_ fun h3 x3=>?_
   ·simp[bm,aj,al,r2,r3,r4,r5,r7,r11,r12,r13,r15,r19]
   ·simp
    rw[hy];clear hy y
    refine aa fun w hw=>?_
    simp
    rw[hw];clear hw w
    have hph:=z.phis k
    refine Ej (vr:=vr) (vt:=vt) (vp:=vp) (vd:=vd) (va:=va) (t:=t) (b:=b) (ai:=k) x3 z hlt (by omega) (by simp;omega) (by omega) ?_ fun h4 x4=>?_
    ·simp[bm,aj,al]
    ·simp
     refine hK2 () _ _ rfl rfl (by rw[hla];exact x4)
  refine aa fun w hw=>?_
  by_cases c:k=b
  ·subst c
   simp
   rw[hw];clear hw w
   refine aX (by simp) ?_
   simp
   refine fin _ ?_ ?_ ?_ ?_ ?_ ?_ ?_ ?_ ?_ ?_ (by simp)
   all_goals simp
  ·have c':¬((k:Int)=(b:Int)):=by omega
   cases hd2:nth dn k with
   | false=>
    simp(disch:=omega)[c,c',sd.idx1 rfl,sd.bool (View.le_refl _),hd2]
    rw[hw];clear hw w
    refine a8 (by simp) ?_
    simp
    refine hK2 () _ _ rfl rfl ?_
    rw[if_pos (by simp[c,hd2])]at hla
    rw[hla];exact x2
   | true=>
    simp(disch:=omega)[c,c',sd.idx1 rfl,sd.bool (View.le_refl _),hd2,sa2.idx1 rfl,ha1 _ (View.le_refl _),ha2.idx1 rfl,ha2.bool (View.le_refl _)]
    rw[hw];clear hw w
    cases hw2:nth (nth away k) b with
    | true=>
     refine a8 (by simp[hw2]) ?_
     simp
     refine hK2 () _ _ rfl rfl ?_
     rw[if_pos (by simp[c,hd2,hw2])]at hla
     rw[hla];exact x2
    | false=>
     refine aX (by simp[hw2]) ?_
     simp
     refine fin _ ?_ ?_ ?_ ?_ ?_ ?_ ?_ ?_ ?_ ?_ (by simp[c,hd2,hw2])
     all_goals simp
 ·rintro _ h2 x2
  exact hQ h2 x2
end
structure B2 (n a p:Nat) (x:BL × MS):Prop where
 z:Sz n a p 700 x.2
 len:x.1.length=n
 none : ∀j,j<n→nth x.1 j=false→(nth x.2.blocks j).ins.length=0
variable{dn:BL}{away:List BL}
theorem vz{a p:Nat}{m:MS}(z:Sz n a p 700 m)(hn:n≤10)(hp:p≤100):(j4 m dn away b n).length≤15100:=by
 have:=lY z (dn:=dn) (away:=away) (b:=b) (l:=rows (fun i=>(i:Int)) m.ps.toNat) n
 rw[lS]at this
 have h2:(p+2*700)*n≤1500*10:=Nat.mul_le_mul (by omega) hn
 have:=z.ps1
 unfold j4
 omega
theorem nw{m:MS}{j:Nat}{t:dp}(hb:b<m.blocks.length):nth (m.eB b t).blocks j=if b=j then{ nth m.blocks b with term:=t } else nth m.blocks j:=by
 show nth (m.blocks.set b _) j=_
 rcases Nat.lt_or_ge j m.blocks.length with hl | hl
 ·rw[aH hl]
 ·rw[aV (by simpa using hl),aV hl,if_neg (by omega)]
theorem zZ{s:List Int}{a p:Nat}{m:MS}(z:Sz n a p 700 m)(hb:b<n)(h0:(nth m.blocks b).ins.length=0)(hn:n≤10)(hp:p≤100)(ha:16000≤a):
  Sz n (a+600) p 700 (iz s to n dn away b m)∧∀j,j≠b→(nth (iz s to n dn away b m).blocks j).ins=(nth m.blocks j).ins:=by
 have hll:=vz (dn:=dn) (away:=away) (b:=b) z hn hp
 have ht:=bj (s:=s) (at_:=m.at_) (n:=7) (by decide)
 have hbl:b<m.blocks.length:=by rw[z.len];exact hb
 obtain⟨m1,hm1⟩ : ∃m1:MS,m1=MS.took { m with live:=j4 m dn away b n }:=⟨_,rfl⟩
 have z1:Sz n (a+1) p 700 m1:=by
  rw[hm1]
  exact Sz.took ⟨z.at_,z.n0,z.next,by show(j4 m dn away b n).length≤_;omega,z.ps0,z.ps1,z.len,z.phis,z.ins⟩
 have hl1:m1.live.length≤15100:=by rw[hm1];exact hll
 have e1 : ∀j,nth m1.blocks j=nth m.blocks j:=fun j=>by rw[hm1];rfl
 have hb1:b<m1.blocks.length:=by rw[z1.len];exact hb
 have g:=((Grw.refl (b:=b) (m:=m1)).eh (s:=s) hb1 (az s m.at_ 7).toNat).EV (s:=s) (to:=nth to b) hb1
 have g:=g.mono (l:=520) (by omega)
 have e:iz s to n dn away b m=ll s (nth to b) b (up (fun _=>aC s b) (az s m.at_ 7).toNat m1):=by rw[hm1];rfl
 rw[e]
 unfold ll
 generalize et s (nth to b) b (up (fun _=>aC s b) (az s m.at_ 7).toNat m1)=r at g
 have hbr:b<r.2.blocks.length:=by rw[g.len];exact hb1
 have hown:=g.ins
 rw[e1,h0]at hown
 refine⟨⟨?_,?_,?_,?_,?_,?_,?_,fun j=>?_,fun j=>?_⟩,fun j hj=>?_⟩
 ·show r.2.at_≤_;have:=g.at1;have:=z1.at_;omega
 ·show 0≤r.2.next;have:=g.n0;have:=z1.n0;omega
 ·show r.2.next≤_;have:=g.n1;have:=z1.next;omega
 ·show r.2.live.length≤_;have:=g.live;omega
 ·show 0≤r.2.ps;rw[g.ps];exact z1.ps0
 ·show r.2.ps≤4;rw[g.ps];exact z1.ps1
 ·show(r.2.blocks.set b _).length=n;rw[List.length_set,g.len];exact z1.len
 ·rw[nw hbr]
  split
  ·rename_i e;subst e
   show(nth r.2.blocks b).phis.length≤_;rw[g.phis];exact z1.phis b
  ·rename_i e
   rw[g.els j (fun q=>e q.symm)];exact z1.phis j
 ·rw[nw hbr]
  split
  ·rename_i e;subst e
   show(nth r.2.blocks b).ins.length≤_;omega
  ·rename_i e
   rw[g.els j (fun q=>e q.symm)];exact z1.ins j
 ·rw[nw hbr,if_neg (fun q=>hj q.symm),g.els j hj,e1]
theorem p8{s:List Int}{a p:Nat}{x:BL × MS}(q:B2 n a p x)(hb:b<n)(hn:n≤10)(hp:p≤100)(ha:16000≤a)(h0:mA x.1 (iQ x.2.f n) b n=true→nth x.1 b=false):B2 n (a+600) p (aK s to n b x):=by
 unfold aK
 split
 ·rename_i hr
  obtain⟨z2,e2⟩:=zZ (s:=s) (to:=to) (dn:=x.1.set b true) (away:=iQ x.2.f n) q.z hb (q.none b hb (h0 hr)) hn hp ha
  refine⟨z2,by show(x.1.set b true).length=n;rw[List.length_set];exact q.len,fun j hj h=>?_⟩
  have h:nth (x.1.set b true) j=false:=h
  rw[aH (by rw[q.len];exact hj)]at h
  split at h
  ·cases h
  ·rename_i e
   show(nth (iz _ _ _ _ _ _ _).blocks j).ins.length=0
   rw[e2 j (fun r=>e r.symm)]
   exact q.none j hj h
 ·exact⟨q.z.mono (by omega) (Nat.le_refl _) (Nat.le_refl _),q.len,q.none⟩
theorem Et {f:Nat→Bool} : ∀(n:Nat) (r:Bool),up (fun a r=>r&&f a) n r=true→r=true
 | 0,r,h=>h
 | n+1,r,h=>by
  have h:(up (fun a r=>r&&f a) n r&&f n)=true:=h
  simp only[Bool.and_eq_true]at h
  exact Et n r h.1
theorem lL(h:mA dn away b n=true):nth dn b=false:=by
 unfold mA at h
 have:=Et _ _ h
 simpa using this
section
variable {s:List Int} {M:Nat} {vs:Value} {W0:View} {h:Heap} {o0:Own} {m:MS}
variable{vd va:Value}
theorem EC{k c:Nat}{t:Nat}(x:Nx s M vs W0 h o0 m)(hfree:o0 (9,0)=none)(hm:m.ok c)(hc:c≤100000)(hk:k≤100)(hb:b<m.blocks.length)(h0:bm [2,3,4,5,7,11,12,13,15,23,24] ρ=[(2,vr),(3,.pointer (some ⟨M,0,none⟩)),(4,.int .i64 n),(5,vt),(7,vp),(11,vd),(12,.int .i64 t),(13,.int .i64 b),(15,va),(23,.int .i64 k),(24,.int .i64 0)])(hQ : ∀h':Heap,Nx s M vs W0 h' o0 (up (fun _=>aC s b) k m)→Q .normal [(2,vr),(3,.pointer (some ⟨M,0,none⟩)),(4,.int .i64 n),(5,vt),(7,vp),(11,vd),(12,.int .i64 t),(13,.int .i64 b),(15,va),(23,.int .i64 k),(24,.int .i64 k)] h'):
  LC.wp Tryz.prog (.block 22 (.loop L.au.l12)) Q ρ h:=by
 have oks : ∀j,(up (fun _=>aC s b) j m).ok (c+80*j)∧(up (fun _=>aC s b) j m).blocks.length=m.blocks.length:=by
  intro j
  induction j with
  | zero=>exact⟨hm,rfl⟩
  | succ j ih=>exact⟨(ih.1.fP (s:=s) (b:=b)).mono (by omega),(mO (s:=s) (b:=b)).trans ih.2⟩
 simp only[aJ]
 refine bM [2,3,4,5,7,11,12,13,15,23,24] (fun(_:Unit) j=>[vr,.pointer (some ⟨M,0,none⟩),.int .i64 n,vt,vp,vd,.int .i64 t,.int .i64 b,va,.int .i64 k,.int .i64 j]) (fun _ j h2=>Nx s M vs W0 h2 o0 (up (fun _=>aC s b) j m)) k ()
  rfl (by omega) h0 x (fun _ _=>rfl) (fun v k h2 hk2 x2=>by simp) ?_ ?_
 ·rintro _ j h2 hlt x2 K2 hK2
  obtain⟨q1,q2⟩:=oks j
  have e2:up (fun _=>aC s b) (j+1) m=aC s b (up (fun _=>aC s b) j m):=rfl
  rw[e2]at hK2
  generalize up (fun _=>aC s b) j m=m2 at x2 hK2 q1 q2
  simp only[aJ]
  simp
  refine af (by kernel_rfl) (te x2 (b:=b) (by omega) q1 (by omega) hfree) ?_
  rintro _ h3 x3
  exact hK2 () _ _ rfl rfl x3
 ·rintro _ h2 x2
  exact hQ h2 x2
end
theorem Nx.up{s:List Int}{h:Heap}{m:MS}(x:Nx s M vs W h o0 m)(hW:W0.le W):Nx s M vs W0 h o0 m:=by
 obtain⟨W',o,g,w,f⟩:=x
 exact⟨W',o,View.le_trans hW g,w,f⟩
theorem Nx.re{s:List Int}{h:Heap}{o0':Own}{m:MS}(x:Nx s M vs W h o0 m)(he : ∀k,o0' k=o0 k):Nx s M vs W h o0' m:=by
 obtain⟨W',o,g,w,f⟩:=x
 exact⟨W',o,g,w,fun k hk=>(f k hk).trans (he k).symm⟩
theorem Nx.jn {po:OP} {s:List Int} {M:Nat} {vs:Value} {W0:View} {h:Heap} {o0:Own} {m:MS} {α:Type} [r:Rep α] {ty e t:TypeId} {us:List (Nat × Value)} {k:Key} {bytes:Nat} {z:Value} {K:Value→Heap→Prop} (x:Nx s M vs W0 h o0 m) (h3:3≤k.1) (hk:o0 k=none) (hT:en Tryz.prog t e (Rep.n α) bytes z)
  (hK : ∀v h',v.oneCell'=true→Nx s M vs W0 h' (o0.upd k (it e v ([]:List α))) m→K v h'):@Lft.step po Tryz.prog (.buildSlice t 0 #[]) ty us h K:=by
 obtain⟨W,o,g,w,f⟩:=x
 refine w.own.jn (k:=k) (α:=α) ((f k h3).trans hk) hT fun v h2 hle2 hv w2 _=>hK v h2 hv ?_
 obtain⟨vb,vl,lb,bb⟩:=w.box
 refine⟨W,_,g,⟨w2,w.src,vb,vl,lb,bb.frame fun q hq=>Own.ab (by rintro rfl;omega)⟩,fun q hq=>?_⟩
 unfold Own.upd
 split
 ·rfl
 ·exact f q hq
variable{ty2:TypeId}
theorem Nx.DO{po2:OP}{s:List Int}{h:Heap}{m:MS}{us2:Value→List (Nat × Value)}{c1 c2:Operand}{K:Value→Value→Heap→Prop}(x:Nx s M vs W0 h o0 m)(hc1 : ∀v,asg (us2 v) c1 = .pointer (some ⟨M,5,none⟩))(hc2 : ∀v,asg (us2 v) c2=v)(hK : ∀v h',Nx s M vs W0 h' o0 (m.cA [])→K v undef h'):@Lft.step po Tryz.prog (.buildSlice T.bc 0 #[]) ty us h fun v h2=>@Lft.step po2 Tryz.prog (.store T.bc c1 c2) ty2 (us2 v) h2 fun w h3=>K v w h3:=by
 obtain⟨W,o,g,w,f⟩:=x
 obtain⟨vb,vl,lb,bb⟩:=w.box
 have w1:=w.own.sub (o':=o.upd (0,1) none) fun j i hj=>by
  unfold Own.upd at hj
  split at hj
  ·cases hj
  ·exact hj
 refine w1.jn (k:=(0,1)) (α:=Int) Own.ag El.bc fun v h2 hle2 hv w2 _=>?_
 have w2:=w2.congr (o':=o.upd (0,1) (it T.int v ([]:List Int))) fun q=>by
  unfold Own.upd;split<;>rfl
 refine w2.cI (k:=(0,0)) (n:=5) (i:=5) (e:=T.aT) (B:=M) (l:=mkL vs m.at_ m.ps vb m.next vl) ((Own.ab (by simp)).trans bb.box) (by decide) (by kernel_rfl) (hc1 v) (hc2 v) hv fun h3 w3 _=>?_
 refine hK v h3 ⟨W,_,g,⟨w3,w.src,vb,v,lb,⟨rfl,rfl,(Own.ab (by simp)).trans ((Own.ab (by simp)).trans bb.blk),bb.len,bb.term,fun i hi=>?_,fun i hi=>?_⟩⟩,fun k hk=>?_⟩
 ·exact(Own.ab (by simp)).trans ((Own.ab (by simp)).trans (bb.phis i hi))
 ·exact(Own.ab (by simp)).trans ((Own.ab (by simp)).trans (bb.ins i hi))
 ·rw[Own.ab (by rintro rfl;simp at hk),Own.ab (by rintro rfl;simp at hk)]
  exact f k hk
section
variable {s:List Int} {M:Nat} {vs:Value} {W0:View} {h:Heap} {o0:Own} {m:MS}
variable{vd:Value}
theorem Fe{a p:Nat}{t:Nat}{x0:BL × MS}(x:Nx s M vs W0 h (o0.upd (6,0) (it T.bool vd x0.1)) x0.2)(hto:SlRd W0 vt to)(htl:to.length=n)(f7:o0 (7,0)=none)(f90:o0 (9,0)=none)(f91:o0 (9,1)=none)(q:B2 n a p x0)(hn:n≤10)(hp:p≤100)(ha:16000≤a)(ha2:a≤90000)(h0:bm [2,3,4,5,7,11,12,13] ρ=[(2,vr),(3,.pointer (some ⟨M,0,none⟩)),(4,.int .i64 n),(5,vt),(7,vp),(11,vd),(12,.int .i64 t),(13,.int .i64 0)])(hQ : ∀h':Heap,Nx s M vs W0 h' (o0.upd (6,0) (it T.bool vd (up (aK s to n) n x0).1)) (up (aK s to n) n x0).2→Q .normal [(2,vr),(3,.pointer (some ⟨M,0,none⟩)),(4,.int .i64 n),(5,vt),(7,vp),(11,vd),(12,.int .i64 t),(13,.int .i64 n)] h'):
  LC.wp Tryz.prog (.block 8 (.loop L.au.l5)) Q ρ h:=by
 have oks : ∀j,j≤n→B2 n (a+600*j) p (up (aK s to n) j x0):=by
  intro j
  induction j with
  | zero=>intro _;exact q
  | succ j ih=>
   intro hj
   have:=p8 (s:=s) (to:=to) (b:=j) (ih (by omega)) (by omega) hn hp (by omega) fun h=>lL h
   exact⟨this.z.mono (by omega) (Nat.le_refl _) (Nat.le_refl _),this.len,this.none⟩
 simp only[aJ]
 refine bM [2,3,4,5,7,11,12,13] (fun(_:Unit) j=>[vr,.pointer (some ⟨M,0,none⟩),.int .i64 n,vt,vp,vd,.int .i64 t,.int .i64 j]) (fun _ j h2=>Nx s M vs W0 h2 (o0.upd (6,0) (it T.bool vd (up (aK s to n) j x0).1)) (up (aK s to n) j x0).2) n ()
  rfl (by omega) h0 x (fun _ _=>rfl) (fun v k h2 hk2 x2=>by simp) ?_ ?_
 ·rintro _ b h2 hlt x2 K2 hK2
  have q2:=oks b (by omega)
  have e2:up (aK s to n) (b+1) x0=aK s to n b (up (aK s to n) b x0):=rfl
  rw[e2]at hK2
  generalize up (aK s to n) b x0=y at x2 hK2 q2
  obtain⟨dn,m⟩:=y
  have x2:Nx s M vs W0 h2 (o0.upd (6,0) (it T.bool vd dn)) m:=x2
  have z:Sz n (a+600*b) p 700 m:=q2.z
  have hdn:dn.length=n:=q2.len
  have hbs:aK s to n b (dn,m)=_:=aK.eq_1 s to n b (dn,m)
  simp only at hbs
  have sd:=x2.z.at (by decide) Own.ag
  simp only[aJ]
  refine aa fun y hy=>?_
  simp(disch:=omega)[sd.idx1 rfl,sd.bool (View.le_refl _)]
  rw[hy];clear hy y
  refine aa fun y hy=>?_
  simp
  refine x2.jn (k:=(7,0)) (α:=BL) (by decide) ((Own.ab (by simp)).trans f7) El.sG fun va h3 hva x3=>?_
  clear sd
  rw[hy];clear hy y
  refine aa fun y hy=>?_
  refine aa fun w hw=>?_
  simp
  rw[hw];clear hw w
  refine F5 (vr:=vr) (vt:=vt) (vp:=vp) (vd:=vd) (t:=t) (b:=b) (r:=!nth dn b) x3 ((Own.ab (by simp)).trans f7) z (by omega) (by simp[bm,aj,al]) fun h4 W4 va hW4 x4 sa=>?_
  clear x3 hva x2
  have hal:(iQ m.f n).length=n:=by unfold iQ;simp
  have har : ∀i,i<n→(nth (iQ m.f n) i).length=n:=fun i hi=>by
   unfold iQ;rw[dm hi,qv];exact z.len
  generalize iQ m.f n=away at sa hbs hal har
  simp
  rw[hy];clear hy y
  refine aa fun y hy=>?_
  refine aa fun w hw=>?_
  simp
  rw[hw];clear hw w
  have sd:=x4.z.at (by decide) Own.ag
  refine FC (M:=M) (n:=n) (b:=b) (vr:=vr) (vt:=vt) (vp:=vp) (vd:=vd) (va:=va) (t:=t) (r:=!nth dn b) sd (sa.mono x4.z.le) hlt hdn hal har (by omega) (by simp[bm,aj,al]) ?_
  have hrd:up (fun a r=>r&&(decide (a=b)||nth dn a||nth (nth away a) b)) n (!nth dn b)=mA dn away b n:=rfl
  rw[hrd]
  simp
  rw[hy];clear hy y
  refine aa fun y hy=>?_
  refine aa fun w hw=>?_
  simp
  rw[hw];clear hw w
  cases hr:mA dn away b n with
  | false=>
   rw[hr]at hbs
   rw[if_neg (by simp)]at hbs
   refine a8 (by simp) ?_
   simp
   refine hK2 () _ _ rfl rfl ?_
   rw[hbs]
   exact x4.up hW4
  | true=>
   rw[hr]at hbs
   rw[if_pos rfl]at hbs
   have hnb:=lL hr
   have hib:=q2.none b hlt hnb
   refine aX (by simp) ?_
   simp
   rw[hy];clear hy y
   refine aa fun y hy=>?_
   simp(disch:=omega)[sd.idx1 rfl]
   refine x4.z.tA (k:=(6,0)) (α:=Bool) (i:=b) (d:=true) rfl (by decide) Own.ag (by omega) (by kernel_rfl) rfl rfl (fun W=>sJ.2 rfl) fun h5 n5=>?_
   have x5:Nx s M vs W4 h5 (o0.upd (6,0) (it T.bool vd (dn.set b true))) m:=n5.x.re fun q=>by rw[ir]
   clear n5 x4 sd
   rw[hy];clear hy y
   refine aa fun y hy=>?_
   simp
   refine x5.DO (fun _=>rfl) (fun _=>rfl) fun v6 h6 x6=>?_
   rw[hy];clear hy y
   obtain⟨c,hc⟩ : ∃c:Nat,m.ps=c:=⟨m.ps.toNat,by have:=z.ps0;omega⟩
   have hc4:c≤4:=by have:=z.ps1;omega
   refine aa fun y hy=>?_
   refine aa fun w hw=>?_
   simp
   rw[hw];clear hw w
   refine Gv (n:=n) (b:=b) (vr:=vr) (vt:=vt) (vp:=vp) (vd:=vd) (va:=va) (t:=t) (r:=true) x6 z hc (by simp[bm,aj,al]) fun h7 x7=>?_
   simp
   rw[hy];clear hy y
   refine aa fun y hy=>?_
   refine aa fun w hw=>?_
   simp
   rw[hw];clear hw w
   refine GA (n:=n) (b:=b) (vr:=vr) (vt:=vt) (vp:=vp) (vd:=vd) (va:=va) (t:=t) (dn:=dn.set b true) (away:=away) x7 z Own.ag sa hlt (by rw[List.length_set];exact hdn) hal har hn (by simp;omega) (by omega) (by omega) (by simp[bm,aj,al]) fun h8 x8=>?_
   have hlv:up (gw m (dn.set b true) away b) n (rows (fun i=>(i:Int)) c)=j4 m (dn.set b true) away b n:=by
    unfold j4;rw[hc];rfl
   rw[hlv]at x8
   have hll:=vz (dn:=dn.set b true) (away:=away) (b:=b) z hn hp
   have hdo:iz s to n (dn.set b true) away b m=ll s (nth to b) b (up (fun _=>aC s b) (az s m.at_ 7).toNat (MS.took (m.cA (j4 m (dn.set b true) away b n)))):=rfl
   rw[hdo]at hbs
   obtain⟨m1,hm1⟩ : ∃m1,m1=m.cA (j4 m (dn.set b true) away b n):=⟨_,rfl⟩
   have z1:Sz n (a+600*b) p 700 m1:=by rw[hm1];exact⟨z.at_,z.n0,z.next,by show(j4 _ _ _ _ _).length≤_;omega,z.ps0,z.ps1,z.len,z.phis,z.ins⟩
   have ea:m.at_=m1.at_:=by rw[hm1];rfl
   rw[←hm1]at x8 hbs
   rw[ea]at hbs
   clear hlv hdo hm1 ea x7 x6 x5
   simp
   rw[hy];clear hy y
   refine aa fun y hy=>?_
   simp
   refine af (by kernel_rfl) (eH x8.z (z1.ok (by omega)) (by omega) (k:=7) (by decide) (by decide)) ?_
   rintro _ h9 ⟨rfl,n9⟩
   obtain⟨t0,t1⟩:=bj (s:=s) (at_:=m1.at_) (n:=7) (by decide)
   generalize az s m1.at_ 7=kk at hbs t0 t1
   obtain⟨k,rfl⟩ : ∃k:Nat,kk=k:=⟨kk.toNat,by omega⟩
   rw[show((k:Int)).toNat=k by omega]at hbs
   rw[hy];clear hy y
   refine aa fun y hy=>?_
   refine aa fun w hw=>?_
   simp
   rw[hw];clear hw w
   have zok:=(z1.took).ok (show 700≤_ by omega)
   refine EC (n:=n) (b:=b) (k:=k) (c:=a+600*b+1) (vr:=vr) (vt:=vt) (vp:=vp) (vd:=vd) (va:=va) (t:=t) n9.x ((Own.ab (by simp)).trans f90) zok (by omega) (by omega) (by show b<m1.blocks.length;rw[z1.len];exact hlt) (by simp[bm,aj,al]) fun h10 x10=>?_
   have oks2 : ∀j,(up (fun _=>aC s b) j m1.took).ok (a+600*b+1+80*j)∧(up (fun _=>aC s b) j m1.took).blocks.length=n:=by
    intro j
    induction j with
    | zero=>exact⟨zok,z1.len⟩
    | succ j ih=>exact⟨(ih.1.fP (s:=s) (b:=b)).mono (by omega),(mO (s:=s) (b:=b)).trans ih.2⟩
   obtain⟨k1,k2⟩:=oks2 k
   generalize up (fun _=>aC s b) k m1.took=m2 at x10 hbs k1 k2
   obtain⟨rv,hrv⟩:=hto.rows
   obtain⟨hr1,hr2⟩:=hrv b (by omega)
   have ito:=(hto.mono hW4).mono x10.z.le
   simp
   rw[hy];clear hy y
   simp(disch:=omega)[ito.idx1 rfl,hr1 _ (View.le_trans hW4 x10.z.le)]
   refine af (by kernel_rfl) (HN x10 (b:=b) (by omega) k1 (by omega) ((Own.ab (by simp)).trans f91) (hr2.mono hW4)) ?_
   rintro _ h11 x11
   refine hK2 () _ _ rfl rfl ?_
   rw[hbs]
   exact x11.up hW4
 ·rintro _ h2 x2
  exact hQ h2 x2
end
section
structure GdB (x:BlkD):Prop where
 ins : ∀i∈x.ins,i.args.length≤10
 args:x.term.args.length≤10
 to:x.term.to.length≤1000
 phis : ∀p∈x.phis,p.ins.length≤1000
def Gd (m:MS):Prop:=∀j,j<m.blocks.length→GdB (nth m.blocks j)
variable {s:List Int} {m:MS} {b:Nat}
theorem Gd.took (g:Gd m):Gd m.took:=g
theorem Gd.aG (g:Gd m):Gd m.aG:=g
theorem Gd.aU(g:Gd m){x:BlkD}(hx:b<m.blocks.length→GdB x):Gd { m with blocks:=m.blocks.set b x }:=fun j hj=>by
 have hj:j<m.blocks.length:=by simpa using hj
 show GdB (nth (m.blocks.set b x) j)
 rw[aH hj]
 split
 ·rename_i e;exact hx (by omega)
 ·exact g j hj
theorem Gd.add (g:Gd m) {i:InsD} (hi:i.args.length≤10):Gd (m.add b i):=by
 have:=g.aU (b:=b) (x:={ nth m.blocks b with ins:=(nth m.blocks b).ins++[i] }) fun hb=>⟨fun j hj=>by
  rcases List.mem_append.1 hj with h | h
  ·exact(g b hb).ins j h
  ·rw[List.mem_singleton]at h;rw[h];exact hi,(g b hb).args,(g b hb).to,(g b hb).phis⟩
 exact this
theorem Gd.constant (g:Gd m) {n:Int}:Gd (m.constant b n):=g.aG.add (by show 0≤10;omega)
theorem Gd.two (g:Gd m) {op x y:Int}:Gd (m.two b op x y):=g.aG.add (by show 2≤10;omega)
theorem Gd.aA (g:Gd m):Gd (aA s m b).2:=by
 unfold Go.Proofs.YtbkdlhkoiagbbaaGreat.aA
 repeat' split
 ·exact g.took.took.constant
 ·exact g.took.took.took.took.took.constant
 ·exact g.took.took.took
theorem Gd.addr(g:Gd m):Gd (iE s m b).2:=by
 unfold iE
 simp only
 split
 ·exact g.took.constant.took.aA.constant.two.two
 ·exact g.took.constant.took
theorem Gd.off(g:Gd m):Gd (offS s m).2:=by
 unfold offS
 split
 ·exact g.took.took.took.took
 ·exact g.took.took
theorem Gd.memory(g:Gd m){st:Bool}:Gd (gI s m b st):=by
 unfold gI
 simp only
 split
 ·exact g.addr.off.aA.add (by show 2≤10;omega)
 ·exact g.addr.off.aG.add (by show 1≤10;omega)
theorem Gd.bin(g:Gd m){op:Int}:Gd (binS s m b op):=by
 unfold binS
 simp only
 split
 ·exact g.aA.aA.took.took.constant.two
 ·exact g.aA.aA.took.two
theorem Gd.div(g:Gd m):Gd (divS s m b):=by
 unfold divS
 simp only
 split
 ·exact g.aA.took.constant.took.took.constant.two
 ·exact g.aA.took.constant.took.two
theorem Gd.args {x:List Int × MS} (g:Gd x.2) : ∀n,Gd (up (eW s b) n x).2∧(up (eW s b) n x).1.length=x.1.length+n
 | 0=>⟨g,rfl⟩
 | n+1=>⟨(Gd.args g n).1.aA,by show((up (eW s b) n x).1++[_]).length=_;rw[List.length_append,(Gd.args g n).2,List.length_singleton];omega⟩
theorem Gd.call(g:Gd m):Gd (lj s m b):=by
 unfold lj
 simp only
 have ht:=bj (s:=s) (at_:=m.at_) (n:=5) (by decide)
 obtain⟨g2,l2⟩:=Gd.args (s:=s) (b:=b) (x:=([],m.took)) g.took (az s m.at_ 5).toNat
 refine g2.aG.took.add ?_
 show(up (eW s b) (az s m.at_ 5).toNat ([],m.took)).1.length≤10
 rw[l2];simp;omega
theorem Gd.fP(g:Gd m):Gd (aC s b m):=by
 unfold aC
 simp only
 repeat' split
 ·exact g.took.bin
 ·unfold ltuS
  exact g.took.aA.aA.two
 ·exact g.took.div
 ·exact g.took.memory
 ·exact g.took.call
 ·unfold qt
  exact g.took.aA.aA.aG.aG.add (by show 2≤10;omega)
 ·exact g.took.took.took.constant
theorem Gd.eh (g:Gd m) : ∀n,Gd (up (fun _=>aC s b) n m)
 | 0=>g
 | n+1=>(Gd.eh g n).fP
theorem Gd.I0(g:Gd m){to:List Int}(ht:to.length≤1000):Gd (ll s to b m):=by
 have h:Gd (et s to b m).2∧(et s to b m).1.args.length≤10∧(et s to b m).1.to.length≤1000:=by
  unfold et
  simp only
  repeat' split
  ·exact⟨g.took.took,by show 0≤10;omega,by show 0≤1000;omega⟩
  ·exact⟨g.took.aA,by show 1≤10;omega,by show 0≤1000;omega⟩
  ·exact⟨g.took,by show 0≤10;omega,by show 0≤1000;omega⟩
  ·exact⟨g,by show 0≤10;omega,ht⟩
  ·exact⟨g.aA.took.aA.aG.took.add (by show 2≤10;omega),by show 1≤10;omega,ht⟩
  ·exact⟨g.aA.took,by show 1≤10;omega,ht⟩
  ·exact⟨g.aA.constant.two,by show 1≤10;omega,ht⟩
 obtain⟨h1,h2,h3⟩:=h
 exact h1.aU fun hb=>⟨(h1 b hb).ins,h2,h3,(h1 b hb).phis⟩
theorem Gd.fR (g:Gd m) {l:List Int} (hl:l.length≤1000):Gd (m.fR b l):=g.aU fun hb=>⟨(g b hb).ins,(g b hb).args,hl,(g b hb).phis⟩
theorem Gd.cR (g:Gd m):Gd (Go.Proofs.YtbkdlhkoiagbbaaGreat.cR b m):=by
 have:=g.aG.aU (b:=b) (x:={ nth m.blocks b with phis:=(nth m.blocks b).phis++[⟨m.next,[]⟩] }) fun hb=>⟨(g b hb).ins,(g b hb).args,(g b hb).to,fun p hp=>by
  rcases List.mem_append.1 hp with h | h
  ·exact(g b hb).phis p h
  ·rw[List.mem_singleton]at h;rw[h];show 0≤1000;omega⟩
 exact this
theorem Gd.j9 (g:Gd m) : ∀n,Gd (up (fun _=>Go.Proofs.YtbkdlhkoiagbbaaGreat.cR b) n m)
 | 0=>g
 | n+1=>(Gd.j9 g n).cR
theorem Gd.iC (g:Gd m) {i:Nat} {l:List InD} (hl:l.length≤1000):Gd (m.iC b i l):=g.aU fun hb=>⟨(g b hb).ins,(g b hb).args,(g b hb).to,fun p hp=>by
 rcases List.mem_or_eq_of_mem_set hp with h | h
 ·exact(g b hb).phis p h
 ·rw[h];exact hl⟩
theorem Gd.smF{a p i:Nat}(g:Gd m)(z:Sz n a p i m)(hn:n≤10000)(hp:p≤10000)(hi:i≤10000):SmF m.f:=by
 refine⟨by show m.blocks.length≤_;rw[z.len];exact hn,fun j hj=>?_⟩
 have hj:j<m.blocks.length:=hj
 have h:=g j hj
 have e:nth m.f.blocks j=nth m.blocks j:=rfl
 rw[e]
 exact⟨Nat.le_trans (z.phis j) hp,Nat.le_trans (z.ins j) hi,by have:=h.args;omega,by have:=h.to;omega,fun k hk=>by have:=h.phis _ (bw hk);omega,fun k hk=>by have:=h.ins _ (bw hk);omega⟩
theorem tK {f:ah} : ∀n,∀t∈thTo f n,t.mks.length≤1000
 | 0,t,h=>by cases h
 | n+1,t,h=>by
  rw[eK]at h
  rcases List.mem_append.1 h with h | h
  ·exact tK n t h
  ·unfold thB at h
   simp only[List.mem_append,List.mem_singleton,rows,List.mem_map,List.mem_range]at h
   rcases h with(⟨i,_,rfl⟩ | ⟨i,_,rfl⟩) | rfl
   ·show 1≤1000;omega
   ·show(a6 _).length≤1000
    unfold a6
    repeat' split
    all_goals simp
   ·show 0≤1000;omega
theorem zk {n a p i:Nat} (z:Sz n a p i m) : ∀k,(thTo m.f k).length≤(p+i+1)*k
 | 0=>Nat.le_refl _
 | k+1=>by
  have h1:=zk z k
  have h2:=z.phis k
  have h3:=z.ins k
  have e:nth m.f.blocks k=nth m.blocks k:=rfl
  rw[eK,List.length_append,Nat.mul_succ]
  unfold thB
  simp only[List.length_append,lS,List.length_singleton,e]
  omega
theorem qh{a p i:Nat}(z:Sz n a p i m)(hn:n≤10)(hp:p≤1000)(hi:i≤3000):(aF m.f).length≤60000:=by
 have h1:=zk z n
 have h2:(p+i+1)*n≤5000*10:=Nat.mul_le_mul (by omega) hn
 have e:aF m.f=thTo m.f n:=by
  unfold aF
  rw[show m.f.blocks.length=n from z.len]
 rw[e];omega
theorem uv{a p i:Nat}(z:Sz n a p i m)(hn:n≤10)(hp:p≤1000)(hi:i≤3000):(fM m.f b).length≤70000000:=by
 have h:=vR (l:=aF m.f) (f:=m.f) (b:=b) (c:=1000) (tK _) (out:=rows (fun i=>(i:Int)) m.f.params.toNat)
 have h2:=qh z hn hp hi
 have h3:m.f.params.toNat≤4:=by have:=z.ps1;show m.ps.toNat≤4;omega
 rw[lS]at h
 have e:fM m.f b=(aF m.f).foldl (dP m.f b) (rows (fun i=>(i:Int)) m.f.params.toNat):=rfl
 rw[e];omega
end
structure P3 (n a p i:Nat) (m:MS):Prop where
 z:Sz n a p i m
 g:Gd m
theorem P3.mono {n a p i a' p' i':Nat} {m:MS} (q:P3 n a p i m) (h1:a≤a') (h2:p≤p') (h3:i≤i'):P3 n a' p' i' m:=⟨q.z.mono h1 h2 h3,q.g⟩
theorem Sz.const{a p i:Nat}{m:MS}{k:Int}(z:Sz n a p i m):Sz n (a+3) p (i+1) (m.constant b k):=by
 have h1:Sz n (a+3) p (i+1) { m.aG with live:=m.live++a6 (conD m.next k) }:=⟨by have:=z.at_;show m.at_≤_;omega,by have:=z.n0;show 0≤m.next+1;omega,by have:=z.next;show m.next+1≤_;omega,by
  have:=z.live
  show(m.live++[m.next]).length≤_
  rw[List.length_append,List.length_singleton];omega,z.ps0,z.ps1,z.len,z.phis,fun j=>by have:=z.ins j;show(nth m.blocks j).ins.length≤_;omega⟩
 exact h1.aU (b:=b) (x:={ nth m.blocks b with ins:=(nth m.blocks b).ins++[conD m.next k] }) (z.phis b) (by have:=z.ins b;show((nth m.blocks b).ins++[_]).length≤_;rw[List.length_append,List.length_singleton];omega)
theorem Sz.iC {n a p i b j:Nat} {m:MS} {l:List InD} (z:Sz n a p i m):Sz n a p i (m.iC b j l):=
 z.aU (by show((nth m.blocks b).phis.set j _).length≤_;rw[List.length_set];exact z.phis b) (z.ins b)
def rowS (s:List Int) (b:Nat) (m:MS):List Int × MS:=if(fM m.f b).length=0 then([m.next],m.took.took.constant b (iG s m)) else(fM m.f b,m)
theorem ym{s:List Int}{m:MS}:0<(rowS s b m).1.length:=by
 unfold rowS
 split
 ·show 0<1;omega
 ·show 0<(fM m.f b).length;omega
theorem EB{s:List Int}{a p i:Nat}{m:MS}(z:Sz n a p i m)(hn:n≤10)(hp:p≤1000)(hi:i≤3000):(rowS s b m).1.length≤70000000:=by
 unfold rowS
 split
 ·show 1≤70000000;omega
 ·exact uv z hn hp hi
theorem A4{s:List Int}{a p i:Nat}{m:MS}(q:P3 n a p i m):P3 n (a+5) p (i+1) (rowS s b m).2:=by
 unfold rowS
 split
 ·exact⟨(q.z.took.took.const).mono (by omega) (Nat.le_refl _) (Nat.le_refl _),q.g.took.took.constant⟩
 ·exact q.mono (by omega) (Nat.le_refl _) (by omega)
theorem CS{s:List Int}{p:List Int}{k:Nat}{x:List InD × MS}(h:nth p k=b):bH s p k x=(x.1++[⟨b,nth (rowS s b x.2).1 (az s (rowS s b x.2).2.at_ (rowS s b x.2).1.length).toNat⟩],(rowS s b x.2).2.took):=by
 unfold bH
 rw[h]
 rfl
theorem jz {s:List Int} {n a p i:Nat} {pl:List Int} {x:List InD × MS} (q:P3 n a p i x.2) : ∀k,P3 n (a+6*k) p (i+k) (up (bH s pl) k x).2∧(up (bH s pl) k x).1.length=x.1.length+k
 | 0=>⟨q,rfl⟩
 | k+1=>by
  obtain⟨h1,h2⟩:=jz (pl:=pl) q k
  have h3:=A4 (s:=s) (b:=(nth pl k).toNat) h1
  refine⟨?_,?_⟩
  ·have e:(up (bH s pl) (k+1) x).2=(rowS s (nth pl k).toNat (up (bH s pl) k x).2).2.took:=rfl
   rw[e]
   exact⟨(h3.z.took).mono (by omega) (Nat.le_refl _) (by omega),h3.g.took⟩
  ·have e:(up (bH s pl) (k+1) x).1=(up (bH s pl) k x).1++[⟨nth pl k,nth (rowS s (nth pl k).toNat (up (bH s pl) k x).2).1 (az s (rowS s (nth pl k).toNat (up (bH s pl) k x).2).2.at_ (rowS s (nth pl k).toNat (up (bH s pl) k x).2).1.length).toNat⟩]:=rfl
   rw[e,List.length_append,h2,List.length_singleton];omega
variable{pl:List Int}
theorem FU{s:List Int}{a p i j:Nat}{m:MS}(q:P3 n a p i m)(hp:pl.length≤9):P3 n (a+54) p (i+9) (phi3 s b pl j m):=by
 obtain⟨h1,h2⟩:=jz (s:=s) (pl:=pl) (x:=([],m)) q pl.length
 exact⟨(h1.z.iC).mono (by omega) (Nat.le_refl _) (by omega),h1.g.iC (by rw[h2];show 0+_≤_;omega)⟩
theorem mc {s:List Int} {n a p i b:Nat} {pl:List Int} {m:MS} (q:P3 n a p i m) (hp:pl.length≤9) : ∀k,P3 n (a+54*k) p (i+9*k) (up (phi3 s b pl) k m)
 | 0=>q
 | k+1=>(FU (mc q hp k) hp).mono (by omega) (Nat.le_refl _) (by omega)
theorem HP{H:View}{a b:Int}(ha:I64 a)(hb:I64 b):Rd H (.agg #[.int .i64 a,.int .i64 b]) (InD.mk a b):=⟨_,rfl,[.int .i64 a],[.int .i64 b],rfl,⟨rfl,ha⟩,rfl,hb⟩
section
variable {s:List Int} {M:Nat} {vs:Value} {W0:View} {h:Heap} {o0:Own} {m:MS}
theorem Nx.E9(x:Nx s M vs W0 h o0 m){h':Heap}{k:Key}{u:Value}{l:List Int}(h3:3≤k.1)(hk:o0 k=none)(hle:(vw h).le (vw h'))(hb : ∀b,u.ownBlock=some b→h.size≤b)(ho:OwnT nothing h' T.int u l):Nx s M vs W0 h' (o0.upd k (it T.int u l)) m:=by
 obtain⟨W,o,g,w,f⟩:=x
 have w2:=w.own.add (k:=k) ((f k h3).trans hk) (yb (W':=W) ho) hle hb
 obtain⟨vb,vl,lb,bb⟩:=w.box
 refine⟨W,_,g,⟨w2,w.src,vb,vl,lb,bb.frame fun q hq=>Own.ab (by rintro rfl;omega)⟩,fun q hq=>?_⟩
 unfold Own.upd
 split
 ·rfl
 ·exact f q hq
theorem Nx.freeze {α:Type} [r:Rep α] {k:Key} {e:TypeId} {v:Value} {l:List α} (x:Nx s M vs W0 h (o0.upd k (it e v l)) m) (h3:3≤k.1) (hk:o0 k=none) : ∃W',W0.le W'∧Nx s M vs W' h o0 m∧SlRd W' v l:=by
 obtain⟨W,o,g,w,f⟩:=x
 have hk2:=(f k h3).trans Own.ag
 obtain⟨w2,sl⟩:=w.own.freeze hk2
 have hWp:=jC (h:=h) (w.own.av _ _ hk2)
 obtain⟨vb,vl,lb,bb⟩:=w.box
 refine⟨_,View.le_trans g hWp,⟨_,_,View.le_refl _,⟨w2,w.src.mono hWp,vb,vl,lb,bb.frame fun q hq=>Own.ab (by rintro rfl;omega)⟩,fun q hq=>?_⟩,sl⟩
 by_cases e2:q=k
 ·rw[e2,Own.ag,hk]
 ·rw[Own.ab e2,f q hq,Own.ab e2]
theorem Nx.gL {po po2:OP} {α:Type} [r:Rep α] {k:Key} {e t ty ty2:TypeId} {bytes:Nat} {z:Value} {v:Value} {l:List α} (x:Nx s M vs W0 h o0 m) (h3:3≤k.1) (hk:o0 k=it e v l) {a y y2:Operand} {us:List (Nat × Value)} {us2:Value→List (Nat × Value)} {u:Value} {d:α} {K:Value→Value→Heap→Prop} (hT:en Tryz.prog t e (Rep.n α) bytes z) (hx:asg us a=u) (hr : ∀W,Rd W u d)
  (hb:(l.length+1)*bytes≤140737488355328) (hb2:l.length+1≤140737488355328) (hy : ∀u,asg (us2 u) y=v) (hy2 : ∀u,asg (us2 u) y2=u)
  (hK : ∀u v' h',Nx s M vs W0 h' (o0.upd k (it e v' (l++[d]))) m→K u v' h') :
  @Lft.step po Tryz.prog (.buildSlice t 1 #[(0,a)]) ty us h fun u h2=>@Lft.step po2 Tryz.prog (.call ⟨.builtin .append,#[y,y2],#[t,t]⟩) ty2 (us2 u) h2 fun v' h3=>K u v' h3:=by
 obtain⟨W,o,g,w,f⟩:=x
 refine w.own.gL (k:=k) (d:=d) ((f k h3).trans hk) hT hx (hr W) hb hb2 hy hy2 fun u v' h' w2 _=>hK u v' h' ?_
 obtain⟨vb,vl,lb,bb⟩:=w.box
 refine⟨W,_,g,⟨w2,w.src,vb,vl,lb,bb.frame fun q hq=>Own.ab (by rintro rfl;omega)⟩,fun q hq=>?_⟩
 unfold Own.upd
 split
 ·rfl
 ·exact f q hq
variable{vd:Value}
theorem DU{a p i j:Nat}{vq vi:Value}(x:Nx s M vs W0 h (o0.upd (7,2) (it T.dy vi ([]:List InD))) m)(f71:o0 (7,1)=none)(q:P3 n a p i m)(hn:n≤10)(ha:a≤500000)(hia:i≤a)(hp:p≤100)(hi:i≤2000)(hq:SlRd W0 vq pl)(hpl:pl.length≤9)(hpr : ∀k,k<pl.length→∃c:Nat,nth pl k=c∧c<n)(h0:bm [2,3,4,5,7,11,25,26,27,28,29] ρ=[(2,vr),(3,.pointer (some ⟨M,0,none⟩)),(4,.int .i64 n),(5,vt),(7,vp),(11,vd),(25,.int .i64 b),(26,vq),(27,.int .i64 j),(28,vi),(29,.int .i64 0)])(hQ : ∀(h':Heap) vi,Nx s M vs W0 h' (o0.upd (7,2) (it T.dy vi (up (bH s pl) pl.length ([],m)).1)) (up (bH s pl) pl.length ([],m)).2→Q .normal [(2,vr),(3,.pointer (some ⟨M,0,none⟩)),(4,.int .i64 n),(5,vt),(7,vp),(11,vd),(25,.int .i64 b),(26,vq),(27,.int .i64 j),(28,vi),(29,.int .i64 pl.length)] h'):
  LC.wp Tryz.prog (.block 28 (.loop L.au.l15)) Q ρ h:=by
 simp only[aJ]
 refine bM [2,3,4,5,7,11,25,26,27,28,29] (fun(vi:Value) k=>[vr,.pointer (some ⟨M,0,none⟩),.int .i64 n,vt,vp,vd,.int .i64 b,vq,.int .i64 j,vi,.int .i64 k]) (fun vi k h2=>Nx s M vs W0 h2 (o0.upd (7,2) (it T.dy vi (up (bH s pl) k ([],m)).1)) (up (bH s pl) k ([],m)).2) pl.length vi
  rfl (by omega) h0 x (fun _ _=>rfl) (fun v k h2 hk2 x2=>by simp[hq.len]) ?_ ?_
 ·rintro vi k h2 hlt x2 K2 hK2
  obtain⟨q2,hl2⟩:=jz (s:=s) (pl:=pl) (x:=([],m)) q k
  obtain⟨c,hc,hcn⟩:=hpr k hlt
  have e2:up (bH s pl) (k+1) ([],m)=bH s pl k (up (bH s pl) k ([],m)):=rfl
  rw[e2,CS hc]at hK2
  have hl2:(up (bH s pl) k ([],m)).1.length≤9:=by rw[hl2];simp;omega
  generalize up (bH s pl) k ([],m)=y at x2 hK2 q2 hl2
  obtain⟨il,m2⟩:=y
  have q2:P3 n (a+54) p (i+9) m2:=P3.mono q2 (by omega) (Nat.le_refl _) (by omega)
  have hl2:il.length≤9:=hl2
  have x2:Nx s M vs W0 h2 (o0.upd (7,2) (it T.dy vi il)) m2:=x2
  simp only at hK2
  have hcell : ∀{h':Heap},W0.le (vw h')→an (vw h') ((slA vq).add k)=some (.int .i64 c):=fun g=>by rw[hq.int g hlt,hc]
  have hcell0:an W0 ((slA vq).add k)=some (.int .i64 c):=by rw[hq.int (View.le_refl _) hlt,hc]
  have hrow:rowS s c m2=_:=rowS.eq_1 s c m2
  have hq3:=A4 (s:=s) (b:=c) q2
  have hpos:=ym (s:=s) (b:=c) (m:=m2)
  have hrl0:=EB (s:=s) (b:=c) q2.z hn (by omega) (by omega)
  simp only[aJ]
  refine aa fun y hy=>?_
  obtain⟨vb,vl,rd⟩:=x2.z.reads
  refine cH (vw h2) (View.le_refl _) ?_
  simp(disch:=omega)[rd.f,(hq.mono x2.z.le).idx1 rfl,hcell x2.z.le]
  have hth:(aF m2.f).length≤60000:=qh q2.z hn (by omega) (by omega)
  refine af (by kernel_rfl) (ze (b:=c) (rd.rd (Ep q2.z)) (q2.g.smF q2.z (by omega) (by omega) (by omega)) ⟨q2.z.ps0,by have:=q2.z.ps1;show m2.ps≤_;omega⟩ (by show c<m2.blocks.length;rw[q2.z.len];exact hcn) (tK _) (by omega)) ?_
  rintro u3 h3 ⟨hle3,hb3,ho3⟩
  have x3:=x2.E9 (k:=(7,1)) (by decide) ((Own.ab (by simp)).trans f71) hle3 hb3 ho3
  clear rd x2 ho3 hb3
  generalize fM m2.f c=sl at x3 hrow
  rw[hy];clear hy y
  refine aa fun y hy=>?_
  have fin : ∀(v30:Value) (h':Heap) (ρ:Env),Nx s M vs W0 h' ((o0.upd (7,2) (it T.dy vi il)).upd (7,1) (it T.int v30 (rowS s c m2).1)) (rowS s c m2).2→Lft.look ρ 2=some vr→Lft.look ρ 3=some (.pointer (some ⟨M,0,none⟩))→Lft.look ρ 4=some (.int .i64 n)→Lft.look ρ 5=some vt→Lft.look ρ 7=some vp→Lft.look ρ 11=some vd→Lft.look ρ 25=some (.int .i64 b)→Lft.look ρ 26=some vq→Lft.look ρ 27=some (.int .i64 j)→Lft.look ρ 28=some vi→Lft.look ρ 29=some (.int .i64 k)→Lft.look ρ 30=some v30→
    LC.wp Tryz.prog y (dV 29 (ft K2 (dV 28 Q))) ρ h':=by
   intro v30 h' ρ x4 r2 r3 r4 r5 r7 r11 r25 r26 r27 r28 r29 r30
   rw[hy];clear hy y
   generalize rowS s c m2=r at x4 hK2 hq3 hpos hrl0
   obtain⟨W4,hW4,x4,s4⟩:=x4.freeze (by decide) ((Own.ab (by simp)).trans f71)
   have hrl:=s4.bound
   refine cH W4 x4.z.le ?_
   simp(disch:=omega)[aj,al,r2,r3,r4,r5,r7,r11,r25,r26,r27,r28,r29,r30,(hq.mono hW4).idx1 rfl,ae hW4 hcell0,s4.len]
   refine af (by kernel_rfl) (eH x4.z (hq3.z.ok (by omega)) (by omega) (k:=(r.1.length:Int)) (by omega) (by omega)) ?_
   rintro _ h5 ⟨rfl,n5⟩
   refine⟨n5.le,?_⟩
   obtain⟨t0,t1⟩:=bj (s:=s) (at_:=r.2.at_) (n:=(r.1.length:Int)) (by omega)
   generalize az s r.2.at_ (r.1.length:Int)=tv at t0 t1 hK2
   have hrng:=s4.range (i:=tv.toNat) (by omega)
   simp(disch:=omega)[aj,al,r2,r3,r4,r5,r7,r11,r25,r26,r27,r28,r29,r30,s4.idx1 rfl,s4.int (View.le_refl _)]
   refine aS (z:=.agg #[.int .i64 0,.int .i64 0]) (places:=[(0,1),(1,1)]) (vs:=[(0,.int .i64 c),(1,.int .i64 (nth r.1 tv.toNat))]) (cs:=#[.int .i64 c,.int .i64 (nth r.1 tv.toNat)]) (by kernel_rfl) (by kernel_rfl) (by simp) (by rfl) ?_
   refine n5.x.gL (k:=(7,2)) (α:=InD) (d:=⟨c,nth r.1 tv.toNat⟩) (by decide) Own.ag El.iK rfl (fun W=>HP ⟨by omega,by omega⟩ hrng) (by omega) (by omega) (fun _=>rfl) (fun _=>rfl) fun u v' h6 x6=>?_
   refine hK2 v' _ _ ?_ ?_ ((x6.re fun q=>by rw[ir]).up hW4)
   ·simp[aj,al,r29]
   ·simp[bm,aj,al,r2,r3,r4,r5,r7,r11,r25,r26,r27,r28,r29]
  have hsl:=(x3.z.at (k:=(7,1)) (by decide) Own.ag).len (K:=vw h3)
  have hlen3 : ∀{Q:View},Un.ev Q .len u3=some (.int .i64 sl.length):=fun{Q}=>(x3.z.at (k:=(7,1)) (by decide) Own.ag).len
  refine aa fun w hw=>?_
  simp[hlen3]
  rw[hw];clear hw w
  by_cases c0:sl.length=0
  ·have c0':sl=[]:=List.eq_nil_of_length_eq_zero c0
   rw[if_pos c0]at hrow
   refine a8 (by simp[c0,c0']) ?_
   refine cH W0 x3.z.le ?_
   simp(disch:=omega)[hq.idx1 rfl,hcell0]
   refine af (by kernel_rfl) (xR x3.z (q2.z.ok (by omega)) (by omega)) ?_
   rintro _ h4 ⟨rfl,n4⟩
   refine⟨n4.le,?_⟩
   refine af (by kernel_rfl) (fO n4 (b:=c) (by show c<m2.blocks.length;rw[q2.z.len];exact hcn) (q2.z.took.took.ok (by omega)) (by omega) oA) ?_
   rintro _ h5 ⟨rfl,n5⟩
   have i64:I64 m2.next:=by have:=q2.z.n0;have:=q2.z.next;constructor<;>omega
   subst c0'
   refine n5.x.gL (k:=(7,1)) (α:=Int) (d:=m2.next) (by decide) Own.ag El.bc rfl (fun W=>dR.2 ⟨rfl,i64⟩) (by simp) (by simp) (fun _=>rfl) (fun _=>rfl) fun u v' h6 x6=>?_
   refine fin v' h6 _ ?_ ?_ ?_ ?_ ?_ ?_ ?_ ?_ ?_ ?_ ?_ ?_ ?_
   ·rw[hrow]
    exact x6.re fun q=>by rw[ir];rfl
   all_goals simp
  ·rw[if_neg c0]at hrow
   have c0':¬sl=[]:=fun e=>c0 (by rw[e];rfl)
   refine aX (by simp[c0']) ?_
   simp
   refine fin u3 h3 _ ?_ ?_ ?_ ?_ ?_ ?_ ?_ ?_ ?_ ?_ ?_ ?_ ?_
   ·rw[hrow];exact x3
   all_goals simp
 ·rintro vi h2 x2
  exact hQ h2 vi x2
end
def Pc (lp:List Int) (m:MS):Prop:=∀j,((nth m.blocks j).phis.length:Int)=nth lp j
variable{lp:List Int}
theorem Pc.grw{m m':MS}{k:Nat}(p:Pc lp m)(g:Grw b k m m'):Pc lp m':=fun j=>by
 by_cases e:j=b
 ·subst e;rw[g.phis];exact p j
 ·rw[g.els j e];exact p j
theorem Pc.aU{m:MS}{x:BlkD}(p:Pc lp m)(hx:x.phis.length=(nth m.blocks b).phis.length):Pc lp { m with blocks:=m.blocks.set b x }:=fun j=>by
 show((nth (m.blocks.set b x) j).phis.length:Int)=_
 rcases Nat.lt_or_ge j m.blocks.length with hl | hl
 ·rw[aH hl]
  split
  ·rename_i e;subst e;rw[hx];exact p b
  ·exact p j
 ·rw[aV (by simpa using hl)]
  have:=p j
  rwa [aV hl]at this
theorem Pc.iz {s:List Int} {to:List (List Int)} {n b:Nat} {dn:BL} {away:List BL} {lp:List Int} {m:MS} (p:Pc lp m) (hb:b<m.blocks.length):Pc lp (iz s to n dn away b m):=by
 have p1:Pc lp (MS.took { m with live:=j4 m dn away b n }):=p
 have hb1:b<(MS.took { m with live:=j4 m dn away b n }).blocks.length:=hb
 have g:=((Grw.refl (b:=b) (m:=MS.took { m with live:=j4 m dn away b n })).eh (s:=s) hb1 (az s m.at_ 7).toNat).EV (s:=s) (to:=nth to b) hb1
 exact(p1.grw g).aU rfl
theorem Pc.aK {s:List Int} {to:List (List Int)} {n b:Nat} {lp:List Int} {x:BL × MS} (p:Pc lp x.2) (hb:b<x.2.blocks.length):Pc lp (aK s to n b x).2:=by
 unfold Go.Proofs.YtbkdlhkoiagbbaaGreat.aK
 split
 ·exact p.iz hb
 ·exact p
theorem Pc.rowS {s:List Int} {b:Nat} {lp:List Int} {m:MS} (p:Pc lp m) (hb:b<m.blocks.length):Pc lp (rowS s b m).2:=by
 unfold Go.Proofs.YtbkdlhkoiagbbaaGreat.rowS
 split
 ·have p1:Pc lp m.took.took:=p
  exact p1.grw ((Grw.refl (b:=b) (m:=m.took.took)).constant hb)
 ·exact p
theorem CJ{s:List Int}{m:MS}:(rowS s b m).2.blocks.length=m.blocks.length:=by
 unfold rowS
 split
 ·exact dx
 ·rfl
theorem Pc.jz {s:List Int} {pl:List Int} {lp:List Int} {x:List InD × MS} (p:Pc lp x.2) (hb : ∀k,k<pl.length→(nth pl k).toNat<x.2.blocks.length) : ∀k,k≤pl.length→Pc lp (up (bH s pl) k x).2∧(up (bH s pl) k x).2.blocks.length=x.2.blocks.length
 | 0,_=>⟨p,rfl⟩
 | k+1,h=>by
  obtain⟨h1,h2⟩:=Pc.jz (s:=s) p hb k (by omega)
  have e:(up (bH s pl) (k+1) x).2=(Go.Proofs.YtbkdlhkoiagbbaaGreat.rowS s (nth pl k).toNat (up (bH s pl) k x).2).2.took:=rfl
  rw[e]
  exact⟨h1.rowS (by rw[h2];exact hb k (by omega)),(lR).trans (CJ.trans h2)⟩
theorem Pc.phi3 {s:List Int} {b j:Nat} {pl:List Int} {lp:List Int} {m:MS} (p:Pc lp m) (hb : ∀k,k<pl.length→(nth pl k).toNat<m.blocks.length):Pc lp (phi3 s b pl j m)∧(phi3 s b pl j m).blocks.length=m.blocks.length:=by
 obtain⟨h1,h2⟩:=Pc.jz (s:=s) (pl:=pl) (x:=([],m)) p hb pl.length (Nat.le_refl _)
 exact⟨h1.aU (by simp),by show(List.set _ _ _).length=_;rw[List.length_set];exact h2⟩
theorem Pc.mc {s:List Int} {b:Nat} {pl:List Int} {lp:List Int} {m:MS} (p:Pc lp m) (hb : ∀k,k<pl.length→(nth pl k).toNat<m.blocks.length) : ∀k,Pc lp (up (Go.Proofs.YtbkdlhkoiagbbaaGreat.phi3 s b pl) k m)∧(up (Go.Proofs.YtbkdlhkoiagbbaaGreat.phi3 s b pl) k m).blocks.length=m.blocks.length
 | 0=>⟨p,rfl⟩
 | k+1=>by
  obtain⟨h1,h2⟩:=Pc.mc (s:=s) (b:=b) p hb k
  obtain⟨h3,h4⟩:=Pc.phi3 (s:=s) (b:=b) (j:=k) h1 (fun k hk=>by rw[h2];exact hb k hk)
  exact⟨h3,h4.trans h2⟩
theorem tu {p:Nat→Bool} : ∀(n:Nat) (v:Int),v∈sift p (fun a=>(a:Int)) n→∃c:Nat,v=c∧c<n
 | 0,v,h=>by cases h
 | n+1,v,h=>by
  cases hp:p n with
  | true=>
   rw[ib hp]at h
   rcases List.mem_append.1 h with h | h
   ·obtain⟨c,h1,h2⟩:=tu n v h;exact⟨c,h1,by omega⟩
   ·rw[List.mem_singleton]at h;exact⟨n,h,by omega⟩
  | false=>
   rw[gj hp]at h
   obtain⟨c,h1,h2⟩:=tu n v h;exact⟨c,h1,by omega⟩
theorem sR{p:Nat→Bool}(n k:Nat)(hk:k<(sift p (fun a=>(a:Int)) n).length): ∃c:Nat,nth (sift p (fun a=>(a:Int)) n) k=c∧c<n:=tu n _ (bw hk)
section
variable {s:List Int} {M:Nat} {vs:Value} {W0:View} {h:Heap} {o0:Own} {m:MS}
theorem Nx.II[r:Rep α](x:Nx s M vs W0 h o0 m){h':Heap}{u:Value}{l:List α}(hle:(vw h).le (vw h'))(hs:SlRd (fresh h h') u l): ∃W',W0.le W'∧Nx s M vs W' h' o0 m∧SlRd W' u l:=by
 obtain⟨W,o,g,w,f⟩:=x
 have hW:=cy (h':=h') w.own.wle
 exact⟨_,View.le_trans g hW,⟨_,o,View.le_refl _,⟨w.own.ext hle,w.src.mono hW,w.box⟩,f⟩,hs.mono (eT W h h')⟩
variable{vb vl:Value}
theorem Mk.IF{o:Own}(w:Mk s M vs W h o m){lb:List BlkM}(bb:MkB M vs m o vb vl lb){i:Nat}{l:List InD}{v:Value}{x y:Operand}{K:Value→Heap→Prop}(hb:b<m.blocks.length)(hi:i<(nth m.blocks b).phis.length)(hsz:cV Tryz.prog ty2=some 1)(hx:asg us x = .pointer (some (((slA (nth lb b).phis.v).add (i*2)).add 1)))(hy:asg us y=v)(hr:SlRd W v l)(hK : ∀h' o',Mk s M vs W h' o' (m.iC b i l)→(∀k:Key,3≤k.1→o' k=o k)→K undef h'):@Lft.step po Tryz.prog (.store ty2 x y) ty us h K:=by
 have hbl:b<lb.length:=by rw[bb.len];exact hb
 refine w.own.kV (k:=(1,b)) (α:=PhiD) PhiD.mK (v:=(nth lb b).phis.v) (l:=(nth m.blocks b).phis) (i:=i) (d:=l) (bb.phis b hb) hsz hx hy hi (gh.2 hr) fun h7 w7 _=>?_
 have hs:lb.set b (nth lb b)=lb:=by rw[ak hbl];exact List.set_getElem_self hbl
 have b7:=bb.aU hb (x':={ nth m.blocks b with phis:=(nth m.blocks b).phis.set i { nth (nth m.blocks b).phis i with ins:=l } }) (y':=nth lb b) (o':=o.upd (1,b) (it T.dG (nth lb b).phis.v ((nth m.blocks b).phis.set i { (nth m.blocks b).phis[i]with ins:=l }))) (bb.term b hb) (by rw[hs,Own.ab (by simp)];exact bb.blk) (by rw[Own.ag,ak hi]) (by rw[Own.ab (by simp)];exact bb.ins b hb) (fun q h1 h2 h3=>Own.ab h2)
 rw[hs]at b7
 exact hK h7 _ ⟨w7,w.src,vb,vl,lb,b7⟩ fun k hk=>Own.ab (by rintro rfl;simp at hk)
end
end Go.Proofs.YtbkdlhkoiagbbaaGreat
