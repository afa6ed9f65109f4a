/- A part of the proof: Hi, Hj, Hk, Ra, Ma, Sa, Sb, Rb, Rc, Rd, Rf, Rg, Rh, Sc, Sd, Se, Ta, Tb, Tc, Td, Sg, Mb, Mc, Md, Me. -/
import Derived.Test.YtfelpjfopgiabaaZMoved3
set_option linter.unusedSimpArgs false
set_option linter.unusedVariables false
namespace Go.Proofs.Ytfelpjfopgiabaa
open Go Go.Lft
structure Th where
 blk:Int
 place:Int
 mks:List Int
 tks:List Int
 deriving Inhabited
def phiT (f:ak) (b i:Nat):Th:=⟨b,-1-i,[(nth (nth f.blocks b).phis i).dst],(nth (nth f.blocks b).phis i).ins.map InD.val⟩
def insT (f:ak) (b i:Nat):Th:=⟨b,i,aU (nth (nth f.blocks b).ins i),(nth (nth f.blocks b).ins i).args⟩
def endT (f:ak) (b:Nat):Th:=⟨b,(nth f.blocks b).ins.length,[],(nth f.blocks b).term.args⟩
def thB (f:ak) (b:Nat):List Th:=rows (phiT f b) (nth f.blocks b).phis.length++rows (insT f b) (nth f.blocks b).ins.length++[endT f b]
def thTo (f:ak) (n:Nat):List Th:=up (fun b l=>l++thB f b) n []
def ar (f:ak):List Th:=thTo f f.blocks.length
theorem eZ {f:ak} {n:Nat}:thTo f (n+1)=thTo f n++thB f n:=rfl
theorem BN {f:ak} {n m:Nat} (h:n≤m):thTo f n <+: thTo f m:=by
 induction m with
 | zero=>rw [show n=0 by omega];exact List.prefix_refl _
 | succ m ih=>
  rcases Nat.lt_or_ge n (m+1) with h1 | h1
  ·exact (ih (by omega)).trans ⟨_,eZ.symm⟩
  ·rw [show n=m+1 by omega];exact List.prefix_refl _
theorem xx {β:Type} {x:Nat→β} {n m:Nat} (h:n≤m):rows x n <+: rows x m:=by
 induction m with
 | zero=>rw [show n=0 by omega];exact List.prefix_refl _
 | succ m ih=>
  rcases Nat.lt_or_ge n (m+1) with h1 | h1
  ·exact (ih (by omega)).trans ⟨_,dz.symm⟩
  ·rw [show n=m+1 by omega];exact List.prefix_refl _
theorem vf {α:Type} {a b c:List α} (h:b <+: c):a++b <+: a++c:=by
 obtain ⟨t,rfl⟩:=h;exact ⟨t,by simp⟩
structure ThJ (J:List Th→View→Heap→Prop):Prop where
 le : ∀ {l W h},J l W h→W.le (vw h)
 ext : ∀ {l W h h'},J l W h→(vw h).le (vw h')→J l (grow W h h') h'
theorem pZ {f:ak} {v:Value} {h:Heap} {V:View} {gf:Nat} {caps:List Value} {J:List Th→View→Heap→Prop} (hv:Rd V v f) (hsm:SmF f) (hJ:ThJ J) (hg:isFn Try.prog gf=true) (h0:J [] V h)
  (hstep : ∀ (l:List Th) (t:Th) (W:View) (h1:Heap) (vm vt:Value),V.le W→l++[t] <+: ar f→J l W h1→SlRd W vm t.mks→SlRd W vt t.tks→aI Try.prog gf (.int .i64 t.blk::.int .i64 t.place::vm::vt::caps).toArray h1 (fun _ h2=>J (l++[t]) W h2)) :
  aI Try.prog N.bP #[v,.func (.func gf) #[] caps.toArray] h (fun _ h'=>∃ W,V.le W∧J (ar f) W h'):=by
 refine aA (args:=[v,.func (.func gf) #[] caps.toArray]) follows F.bP E.bP (Nat.le_of_ble_eq_true (by kernel_rfl)) fun K hK=>?_
 dsimp only [L.bP]
 refine aa fun z hz=>?_
 simp
 refine ez rfl (hv.mono (hJ.le h0)) fun h1 e1 hle1 hs1 hat=>?_
 have j1:=hJ.ext h0 hle1
 obtain ⟨cp,vb,cb⟩:=gL hat
 have hvb:SlRd V vb f.blocks:=by
  obtain ⟨u,hu,hur⟩:=hv.G2 ak.xd rfl rfl (K:=vw h)
  have e:vb=u:=by
   have hv' : ∃ cs:Array Value,v = .agg cs∧Rep.rd V cs.toList f:=hv
   obtain ⟨cs,rfl,hcs⟩:=hv'
   have hb:h1[h.size]? = some (.cells cs T.aE (0,0)):=by rw [e1];simp
   have h3:ao (vw h1) ⟨h.size,1,none⟩=cs[1]?:=by simp [ao,vw,hb]
   simp at hu
   rw [cb.1] at h3
   rw [hu] at h3
   exact Option.some.inj h3
  rw [e];exact fB.1 hur
 have hVW:V.le (grow V h h1):=aW (hJ.le h0)
 generalize grow V h h1=W1 at j1 hVW
 generalize h.size=B at cb
 have hbb:=cb.2.bound
 rw [hz];clear hz z
 simp [cb.1,cb.2.len]
 refine bc [1,14,15,16] (fun (_:Unit) b=>[.func (.func gf) #[] caps.toArray,vb,.int .i64 f.blocks.length,.int .i64 b]) (fun _ b h2=>∃ W,V.le W∧J (thTo f b) W h2) f.blocks.length ()
  rfl (by omega) rfl ⟨W1,hVW,j1⟩ (fun _ _=>rfl) (fun v i h1 hk m=>by simp) ?_ ?_
 ·rintro _ b h2 hltb ⟨W2,hW2,j2⟩ K2 hK2
  have hvb2:=hvb.mono (View.le_trans hW2 (hJ.le j2))
  obtain ⟨u,hu,hur⟩:=(hvb.mono hW2).wh rfl (N:=6) rfl hltb
  refine aa fun z hz=>?_
  simp (disch:=omega) [hvb2.idxn (N:=6) rfl,hu _ (hJ.le j2)]
  refine dU (X:=W2) (z:=.agg #[.slice none 0 0,.slice none 0 0,.int .i64 0,.slice none 0 0,.slice none 0 0,.int .i32 0]) (by kernel_rfl) rfl (by kernel_rfl) hur (fun _=>by simp) (fun _=>by simp) fun h3 hle3 hsz3 hat3=>?_
  have j3:=hJ.ext j2 hle3
  have hat3':=hat3 (grow W2 h2 h3) (aW (hJ.le j2)) (by unfold grow;rw [if_neg (by omega)])
  obtain ⟨vp,vi,va,vt,bp,bi,bk,ba,bt⟩:=kh hat3'
  have hVW3:=View.le_trans hW2 (aW (h':=h3) (hJ.le j2))
  generalize grow W2 h2 h3=W3 at j3 hVW3 bp bi bk ba bt
  generalize h2.size=D at bp bi bk ba bt
  have hpre:thTo f b++thB f b <+: ar f:=by rw [←eZ];exact BN hltb
  rw [hz];clear hz z
  have bph:=bp.2.bound
  have bih:=bi.2.bound
  refine aa fun z hz=>?_
  simp [ah (hJ.le j3) bp.1,bp.2.len]
  refine bc [1,4,5,14,15,16,22,23,24] (fun (_:Unit) i=>[.func (.func gf) #[] caps.toArray,.int .i64 b,.pointer (some ⟨D,0,none⟩),vb,.int .i64 f.blocks.length,.int .i64 b,vp,.int .i64 (nth f.blocks b).phis.length,.int .i64 i])
   (fun _ i h4=>∃ W,W3.le W∧J (thTo f b++rows (phiT f b) i) W h4) (nth f.blocks b).phis.length ()
   rfl (by omega) rfl ⟨W3,View.le_refl _,by simpa using j3⟩ (fun _ _=>rfl) (fun v i h1 hk m=>by simp) ?_ ?_
  ·rintro _ i h4 hlti ⟨W4,hW4,j4⟩ K3 hK3
   have bp4:=bp.2.mono (View.le_trans hW4 (hJ.le j4))
   obtain ⟨u4,hu4,hur4⟩:=bp4.wh rfl (N:=2) rfl hlti
   refine aa fun y hy=>?_
   simp (disch:=omega) [bp4.idxn (N:=2) rfl,hu4 _ (View.le_refl _)]
   refine dU (z:=.agg #[.int .i64 0,.slice none 0 0]) (by kernel_rfl) rfl (by kernel_rfl) hur4 (fun _=>by simp) (fun _=>by simp) fun h5 hle5 hsz5 hat5=>?_
   obtain ⟨c0,vq,cq⟩:=wD (hat5 (vw h5) hle5 rfl)
   have rd:=((hat5 (vw h5) hle5 rfl).part PhiD.jh).rng
   have hpl:=(hsm.blk b hltb).phi i hlti
   have hpt:phiT f b i=⟨b,-1-i,[(nth (nth f.blocks b).phis i).dst],(nth (nth f.blocks b).phis i).ins.map InD.val⟩:=rfl
   generalize nth (nth f.blocks b).phis i=x at c0 cq rd hpt hpl
   generalize h4.size=D4 at c0 cq
   have bq:=cq.2.bound
   rw [hy];clear hy y
   refine aa fun y hy=>?_
   simp
   rw [hy];clear hy y
   refine aa fun y hy=>?_
   simp [cq.1,cq.2.len]
   refine bc [1,4,5,6,7,8,14,15,16,22,23,24,30,31,32] (fun (r:Value) j=>[.func (.func gf) #[] caps.toArray,.int .i64 b,.pointer (some ⟨D,0,none⟩),.int .i64 i,.pointer (some ⟨D4,0,none⟩),r,vb,.int .i64 f.blocks.length,.int .i64 b,vp,.int .i64 (nth f.blocks b).phis.length,.int .i64 i,vq,.int .i64 x.ins.length,.int .i64 j])
    (fun r j h6=>Mine nothing h5 h6 nothing T.int r ((x.ins.map InD.val).take j)) x.ins.length (.slice none 0 0)
    rfl (by omega) rfl (Mine.start a8) (fun _ _=>rfl) (fun v i h1 hk m=>by simp) ?_ ?_
   ·rintro r j h6 hltj m6 K4 hK4
    have cq6:=cq.2.mono m6.old
    obtain ⟨u6,hu6,hur6⟩:=cq6.wh rfl (N:=2) rfl hltj
    refine aa fun q hq=>?_
    simp (disch:=omega) [cq6.idxn (N:=2) rfl,hu6 _ (View.le_refl _)]
    refine dU (z:=.agg #[.int .i64 0,.int .i64 0]) (by kernel_rfl) rfl (by kernel_rfl) hur6 (fun _=>by simp) (fun _=>by simp) fun h7 hle7 hsz7 hat7=>?_
    have e1:=(yU (hat7 (vw h7) hle7 rfl)).2
    have rv:=((hat7 (vw h7) hle7 rfl).part InD.rE).rng
    generalize h6.size=D6 at e1
    rw [hq];clear hq q
    simp [e1]
    have hl8:((x.ins.map InD.val).take j).length=j:=by simp;omega
    refine (m6.ext' hle7).push (d:=(nth x.ins j).val) El.aP (by simp<;>rfl) (jy rv.1 rv.2) (by omega) (by omega) (fun _=>by simp) (fun _=>by simp) fun u8 v8 h8 m8=>?_
    refine hK4 v8 _ _ rfl rfl ?_
    rw [List.take_add_one,List.getElem?_map,List.getElem?_eq_getElem hltj]
    rw [aq hltj] at m8
    exact m8
   ·rintro r h6 m6
    rw [List.take_of_length_le (by simp)] at m6
    simp
    rw [hy];clear hy y
    simp (disch:=omega) [ah m6.old c0]
    refine fP (X:=nothing) (ds:=[x.dst]) (vs:=[.int .i64 x.dst]) rfl El.aP (by simp) ⟨cC.2 ⟨rfl,rd⟩,trivial⟩ a8 rfl (by omega) fun u7 h7 hle7 hsz7 hu7 _=>?_
    have hle47:=View.le_trans hle5 (View.le_trans m6.old hle7)
    have j7:=hJ.ext j4 hle47
    have hW7:=View.le_trans hW4 (aW (h':=h7) (hJ.le j4))
    have pre:(thTo f b++rows (phiT f b) i)++[phiT f b i] <+: ar f:=by
     rw [List.append_assoc,←dz]
     exact (vf ((xx hlti).trans ⟨_,(List.append_assoc ..).symm⟩)).trans hpre
    rw [hpt] at pre
    refine jj (ops:=[.tmp 43,.tmp 45,.tmp 48,.tmp 49]) rfl hg (hstep _ ⟨b,-1-i,[x.dst],x.ins.map InD.val⟩ _ h7 u7 r (View.le_trans hVW3 hW7) pre j7 (hu7 _ a8 (cN (by have:=dp hle5;have:=dp m6.old;omega))) (m6.fresh.mono (th (dp hle5) hle7))) ?_
    rintro _ h8 j8
    exact hK3 () _ _ rfl rfl ⟨_,hW7,by rw [dz,←List.append_assoc,hpt];exact j8⟩
  ·rintro _ h4 ⟨W4,hW4,j4⟩
   simp
   rw [hz];clear hz z
   refine aa fun z hz=>?_
   have hW4h:=View.le_trans hW4 (hJ.le j4)
   simp [ah hW4h bi.1,(bi.2.mono hW4h).len]
   refine bc [1,4,5,14,15,16,53,54,55] (fun (_:Unit) i=>[.func (.func gf) #[] caps.toArray,.int .i64 b,.pointer (some ⟨D,0,none⟩),vb,.int .i64 f.blocks.length,.int .i64 b,vi,.int .i64 (nth f.blocks b).ins.length,.int .i64 i])
    (fun _ i h5=>∃ W,W3.le W∧J (thTo f b++rows (phiT f b) (nth f.blocks b).phis.length++rows (insT f b) i) W h5) (nth f.blocks b).ins.length ()
    rfl (by omega) rfl ⟨W4,hW4,by simpa using j4⟩ (fun _ _=>rfl) (fun v i h1 hk m=>by simp) ?_ ?_
   ·rintro _ i h5 hlti ⟨W5,hW5,j5⟩ K3 hK3
    have bi5:=bi.2.mono (View.le_trans hW5 (hJ.le j5))
    obtain ⟨u5,hu5,hur5⟩:=(bi.2.mono hW5).wh rfl (N:=5) rfl hlti
    refine aa fun y hy=>?_
    simp (disch:=omega) [bi5.idxn (N:=5) rfl,hu5 _ (hJ.le j5)]
    refine dU (z:=.agg #[.int .i64 0,.int .i64 0,.int .i64 0,.slice none 0 0,.int .i32 0]) (by kernel_rfl) rfl (by kernel_rfl) hur5 (fun _=>by simp) (fun _=>by simp) fun h6 hle6 hsz6 hat6=>?_
    have hatg:=hat6 (grow W5 h5 h6) (aW (hJ.le j5)) (cN (Nat.le_refl _))
    have hat6':=hatg.mono (ju (View.le_trans (hJ.le j5) hle6))
    obtain ⟨_,_,_,vq,cq⟩:=mU hatg
    obtain ⟨w,w1,w2⟩:=hat6'.an rfl
    have w1:Un.ev (vw h6) (.an 5) (.pointer (some ⟨h5.size,0,none⟩))=some w:=w1
    have hpt:insT f b i=⟨b,i,aU (nth (nth f.blocks b).ins i),(nth (nth f.blocks b).ins i).args⟩:=rfl
    generalize nth (nth f.blocks b).ins i=x at cq w2 hpt
    generalize h5.size=D5 at cq w1
    rw [hy];clear hy y
    have hg6:(grow W5 h5 h6).le (vw h6):=ju (View.le_trans (hJ.le j5) hle6)
    refine cg (vw h6) (View.le_refl _) ?_
    simp [ah hg6 cq.1,w1]
    refine aj (by kernel_rfl) (wY w2) ?_
    rintro u7 h7 ⟨hle7,hu7⟩
    refine ⟨hle7,?_⟩
    have hle57:=View.le_trans hle6 hle7
    have j7:=hJ.ext j5 hle57
    have hW7:=View.le_trans hW5 (aW (h':=h7) (hJ.le j5))
    have pre:(thTo f b++rows (phiT f b) (nth f.blocks b).phis.length++rows (insT f b) i)++[insT f b i] <+: ar f:=by
     rw [List.append_assoc,←dz,List.append_assoc]
     refine (vf ?_).trans hpre
     exact (vf (xx hlti)).trans ⟨_,rfl⟩
    rw [hpt] at pre
    refine jj (ops:=[.tmp 61,.tmp 62,.tmp 64,.tmp 66]) rfl hg (hstep _ ⟨b,i,aU x,x.args⟩ _ h7 u7 vq (View.le_trans hVW3 hW7) pre j7 (hu7.mono (th (dp hle6) (View.le_refl _))) (cq.2.mono (Bq hle7))) ?_
    rintro _ h8 j8
    exact hK3 () _ _ rfl rfl ⟨_,hW7,by rw [dz,←List.append_assoc,hpt];exact j8⟩
   ·rintro _ h5 ⟨W5,hW5,j5⟩
    simp
    rw [hz];clear hz z
    have hW5h:=View.le_trans hW5 (hJ.le j5)
    simp [ah hW5h bi.1,(bi.2.mono hW5h).len,ah hW5h ba.1]
    have pre:(thTo f b++rows (phiT f b) (nth f.blocks b).phis.length++rows (insT f b) (nth f.blocks b).ins.length)++[endT f b] <+: ar f:=by
     rw [List.append_assoc,List.append_assoc,←List.append_assoc (rows _ _)]
     exact hpre
    refine jj (ops:=[.tmp 70,.tmp 73,.const (.slice none 0 0),.tmp 76]) rfl hg (hstep _ ⟨b,(nth f.blocks b).ins.length,[],(nth f.blocks b).term.args⟩ _ h5 (.slice none 0 0) va (View.le_trans hVW3 hW5) pre j5 dM (ba.2.mono hW5)) ?_
    rintro _ h6 j6
    refine hK2 () _ _ rfl rfl ⟨_,View.le_trans hVW3 hW5,?_⟩
    have e:thTo f (b+1)=(thTo f b++rows (phiT f b) (nth f.blocks b).phis.length++rows (insT f b) (nth f.blocks b).ins.length)++[endT f b]:=by
     rw [eZ,thB];simp [List.append_assoc]
    rw [e];exact j6
 ·rintro _ h2 ⟨W2,hW2,j2⟩
  simp
  exact hK _ _ ⟨W2,hW2,j2⟩
end Go.Proofs.Ytfelpjfopgiabaa
namespace Go.Proofs.Ytfelpjfopgiabaa
open Go Go.Lft
def dV (top n:Int):Int:=if aY n 0 8191 then (if top<n+1 then n+1 else top) else top
def wR (top:Int) (t:Th):Int:=t.mks.foldl dV top
def iV (ps:Int):Int:=if 8192<(if ps<0 then 0 else ps) then 8192 else (if ps<0 then 0 else ps)
def topS (f:ak):Int:=(ar f).foldl wR (iV f.params)
theorem qZ {top n:Int} (h:0≤top∧top≤8192):0≤dV top n∧dV top n≤8192:=by
 unfold dV
 split
 ·rename_i hw
  simp only [aY,Bool.and_eq_true,decide_eq_true_eq] at hw
  split<;>omega
 ·exact h
theorem gU {α β:Type} (I:β→Prop) {f:β→α→β} (hf : ∀ x a,I x→I (f x a)) : ∀ (l:List α) (x:β),I x→I (l.foldl f x)
 | [],_,h=>h
 | a::l,x,h=>gU I hf l _ (hf x a h)
theorem xk {top:Int} {t:Th} (h:0≤top∧top≤8192):0≤wR top t∧wR top t≤8192:=gU (fun x=>0≤x∧x≤8192) (fun _ _ h=>qZ h) _ _ h
theorem sS {ps:Int}:0≤iV ps∧iV ps≤8192:=by unfold iV;split<;>split<;>omega
theorem DL {f:ak}:0≤topS f∧topS f≤8192:=gU (fun x=>0≤x∧x≤8192) (fun _ _ h=>xk h) _ _ sS
structure Nv (D:Nat) (T:TypeId) (x:Int) (W:View) (h:Heap):Prop where
 le:W.le (vw h)
 av:W D=none
 cell:h[D]? = some (.cells #[.int .i64 x] T (0,0))
theorem Nv.lt {D:Nat} {T:TypeId} {x:Int} {W:View} {h:Heap} (k:Nv D T x W h):D<h.size:=(Array.getElem?_eq_some_iff.1 k.cell).1
theorem Nv.ext {D:Nat} {T:TypeId} {x:Int} {W:View} {h h':Heap} (k:Nv D T x W h) (hle:(vw h).le (vw h')):Nv D T x (grow W h h') h':=
 ⟨ju (View.le_trans k.le hle),by rw [nk k.lt];exact k.av,hle _ _ k.cell⟩
theorem Nv.read {D:Nat} {T:TypeId} {x:Int} {W:View} {h:Heap} (k:Nv D T x W h):ao (vw h) ⟨D,0,none⟩=some (.int .i64 x):=bV (show vw h D=_ from k.cell) rfl
theorem Nv.put {po:OP} {P:Program} {t ty:TypeId} {x y:Operand} {us:List (Nat × Value)} {D:Nat} {T:TypeId} {a b:Int} {W:View} {h:Heap} {K:Value→Heap→Prop} (k:Nv D T a W h) (hsz:bX P t=some 1) (hx:asg us x = .pointer (some ⟨D,0,none⟩)) (hy:asg us y = .int .i64 b)
  (hK : ∀ h',Nv D T b W h'→K undef h'):Lft.step P (.store t x y) ty us h K:=by
 refine dP (g:=D) (o:=0) (n:=1) (v:=.int .i64 b) hsz hx hy rfl (by simp [Value.oneCell']) k.cell (by simp) fun h' hs ⟨row,hr,he⟩ ho=>hK h' ⟨fun c o hc=>?_,k.av,?_⟩
 ·have hne:c≠D:=fun e=>by rw [e,k.av] at hc;cases hc
  show h'[c]? = _
  rw [ho c hne];exact k.le c o hc
 ·rw [one_cell rfl rfl he] at hr;exact hr
theorem D9 {D:Nat} {x blk place:Int} {ms:List Int} {vm vt:Value} {W:View} {h:Heap} (k:Nv D T.int x W h) (hx:0≤x∧x≤8192) (hm:SlRd W vm ms) :
  aI Try.prog N.dI #[.int .i64 blk,.int .i64 place,vm,vt,.pointer (some ⟨D,0,none⟩)] h (fun _ h2=>Nv D T.int (ms.foldl dV x) W h2):=by
 refine aA (args:=[.int .i64 blk,.int .i64 place,vm,vt,.pointer (some ⟨D,0,none⟩)]) follows F.dI E.dI (Nat.le_of_ble_eq_true (by kernel_rfl)) fun K hK=>?_
 have bm:=hm.bound
 simp [L.dI,(hm.mono k.le).len]
 refine bc [4,11,12,13] (fun (_:Unit) i=>[.pointer (some ⟨D,0,none⟩),vm,.int .i64 ms.length,.int .i64 i]) (fun _ i h1=>Nv D T.int ((ms.take i).foldl dV x) W h1) ms.length ()
  rfl (by omega) rfl k (fun _ _=>rfl) (fun v i h1 hk m=>by simp) ?_ ?_
 ·rintro _ i h1 hlt k1 K2 hK2
  have hm1:=hm.mono k1.le
  have hst:(ms.take (i+1)).foldl dV x=dV ((ms.take i).foldl dV x) (nth ms i):=by
   rw [List.take_succ_eq_append_getElem hlt,List.foldl_append,aq hlt];rfl
  have hb:=gU (f:=dV) (fun x=>0≤x∧x≤8192) (fun _ _ h=>qZ h) (ms.take i) x hx
  generalize (ms.take i).foldl dV x=y at k1 hst hb
  refine aa fun z hz=>?_
  simp (disch:=omega) [hm1.idx1 rfl,hm1.int (View.le_refl _)]
  rw [hz];clear hz z
  refine aa fun z hz=>?_
  simp
  refine aj (by kernel_rfl) gu ?_
  rintro _ _ ⟨rfl,rfl⟩
  rw [hz];clear hz z
  cases hw:aY (nth ms i) 0 8191 with
  | false=>
   simp
   exact hK2 () _ _ rfl rfl (by rw [hst,dV,hw];exact k1)
  | true=>
   have hw':=hw
   simp only [aY,Bool.and_eq_true,decide_eq_true_eq] at hw'
   simp (disch:=omega) [k1.read]
   refine k1.put (by kernel_rfl) rfl rfl fun h2 k2=>?_
   exact hK2 () _ _ rfl rfl (by rw [hst,dV,hw];exact k2)
 ·rintro _ h1 k1
  rw [List.take_length] at k1
  simp
  exact hK _ _ k1
theorem BR {f:ak} {v:Value} {h:Heap} (hv:Rd (vw h) v f) (hsm:SmF f):aI Try.prog N.gA #[v] h (fun u h'=>u = .int .i64 (topS f)∧(vw h).le (vw h')):=by
 refine aA (args:=[v]) follows F.gA E.gA (Nat.le_of_ble_eq_true (by kernel_rfl)) fun K hK=>?_
 dsimp only [L.gA]
 refine aa fun z hz=>?_
 simp
 refine ez rfl hv fun h1 e1 hle1 hs1 hat=>?_
 obtain ⟨cp,vb,cb⟩:=gL hat
 obtain ⟨u,hu,hur⟩:=hat.an rfl
 have hu:Un.ev (vw h1) (.an 2) (.pointer (some ⟨h.size,0,none⟩))=some u:=hu
 generalize h.size=B at cp cb hu
 rw [hz];clear hz z
 refine aa fun z hz=>?_
 simp [cp]
 refine gM (n:=1) (z:=.int .i64 0) (v:=.int .i64 (iV f.params)) (by kernel_rfl) rfl (by kernel_rfl) rfl (by simp [Value.oneCell']) (fun _=>by simp) (fun _=>by simp [iV]) fun h2 hle2 hs2 hb2=>?_
 have hu2:Un.ev (vw h2) (.an 2) (.pointer (some ⟨B,0,none⟩))=some u:=by
  have:=ck (ρ:=fun _=>none) (e:=.un (.an 2) (.con (.pointer (some ⟨B,0,none⟩)))) hle2 (v:=u) (by simpa using hu)
  simpa using this
 rw [hz];clear hz z
 refine aa fun z hz=>?_
 simp [hu2]
 have hN:Nv h1.size T.int (iV f.params) (vw h1) h2:=⟨hle2,by simp [vw],hb2⟩
 refine aj (by kernel_rfl) (pZ (caps:=[.pointer (some ⟨h1.size,0,none⟩)]) (J:=fun l W h=>Nv h1.size T.int (l.foldl wR (iV f.params)) W h) hur hsm ⟨fun k=>k.le,fun k hle=>k.ext hle⟩ (by kernel_rfl) hN fun l t W h3 vm vt hVW _ k hm ht=>?_) ?_
 ·have:=gU (f:=wR) (fun x=>0≤x∧x≤8192) (fun _ _ h=>xk h) l _ (sS (ps:=f.params))
  refine (D9 k this hm).mono fun _ h4 k4=>?_
  rw [List.foldl_append];exact k4
 ·rintro _ h3 ⟨W,hVW,k⟩
  rw [hz];clear hz z
  simp [k.read]
  exact hK _ _ ⟨rfl,View.le_trans hle1 (View.le_trans hVW k.le)⟩
def zJ (x:Int):Int:=IntKind.i64.wrap (x+1)
def dJ (l:List Int) (n:Int):List Int:=if aY n 0 ((l.length:Int)-1) then l.set n.toNat (zJ (nth l n.toNat)) else l
def CF (l:List Int) (t:Th):List Int:=t.tks.foldl dJ l
def oG (f:ak):List Int:=(ar f).foldl CF (List.replicate (topS f).toNat 0)
theorem qm {l:List Int} {n:Int}:(dJ l n).length=l.length:=by unfold dJ;split<;>simp
theorem qR {x:Int}:-9223372036854775808≤IntKind.i64.wrap x∧IntKind.i64.wrap x≤9223372036854775807:=by
 rw [IntKind.wrap_i64];omega
structure Us (D:Nat) (vo:Value) (l:List Int) (W:View) (h:Heap):Prop where
 le:W.le (vw h)
 av:Av W vo
 own:OwnT nothing h T.int vo l
 box:ao W ⟨D,0,none⟩=some vo
theorem Us.ext {D:Nat} {vo:Value} {l:List Int} {W:View} {h h':Heap} (k:Us D vo l W h) (hle:(vw h).le (vw h')):Us D vo l (grow W h h') h':=
 ⟨ju (View.le_trans k.le hle),k.av.grow fun b hb=>k.own.lt hb,k.own.ext hle,ah (aW k.le) k.box⟩
theorem Us.now {D:Nat} {vo:Value} {l:List Int} {W:View} {h:Heap} (k:Us D vo l W h):SlRd (vw h) vo l:=k.own.now a8
theorem CG {D:Nat} {blk place:Int} {vo vm vt:Value} {l ts:List Int} {W:View} {h:Heap} (k:Us D vo l W h) (ht:SlRd W vt ts) :
  aI Try.prog N.dm #[.int .i64 blk,.int .i64 place,vm,vt,.pointer (some ⟨D,0,none⟩)] h (fun _ h2=>Us D vo (ts.foldl dJ l) W h2):=by
 refine aA (args:=[.int .i64 blk,.int .i64 place,vm,vt,.pointer (some ⟨D,0,none⟩)]) follows F.dm E.dm (Nat.le_of_ble_eq_true (by kernel_rfl)) fun K hK=>?_
 have bm:=ht.bound
 simp [L.dm,(ht.mono k.le).len]
 refine bc [4,11,12,13] (fun (_:Unit) i=>[.pointer (some ⟨D,0,none⟩),vt,.int .i64 ts.length,.int .i64 i]) (fun _ i h1=>Us D vo ((ts.take i).foldl dJ l) W h1) ts.length ()
  rfl (by omega) rfl k (fun _ _=>rfl) (fun v i h1 hk m=>by simp) ?_ ?_
 ·rintro _ i h1 hlt k1 K2 hK2
  have hm1:=ht.mono k1.le
  have hst:(ts.take (i+1)).foldl dJ l=dJ ((ts.take i).foldl dJ l) (nth ts i):=by
   rw [List.take_succ_eq_append_getElem hlt,List.foldl_append,aq hlt];rfl
  generalize (ts.take i).foldl dJ l=y at k1 hst
  have hy:=k1.now
  have yb:=hy.bound
  refine aa fun z hz=>?_
  simp (disch:=omega) [hm1.idx1 rfl,hm1.int (View.le_refl _)]
  rw [hz];clear hz z
  refine aa fun z hz=>?_
  simp (disch:=omega) [ah k1.le k1.box,hy.len]
  refine aj (by kernel_rfl) gu ?_
  rintro _ _ ⟨rfl,rfl⟩
  rw [hz];clear hz z
  cases hw:aY (nth ts i) 0 ((y.length:Int)-1) with
  | false=>
   simp
   exact hK2 () _ _ rfl rfl (by rw [hst,dJ,hw];exact k1)
  | true=>
   have hw':=hw
   simp only [aY,Bool.and_eq_true,decide_eq_true_eq] at hw'
   simp (disch:=omega) [ah k1.le k1.box,hy.idx1 rfl,hy.int (View.le_refl _)]
   refine oh (W:=nothing) (i:=(nth ts i).toNat) (d:=zJ (nth y (nth ts i).toNat)) (by kernel_rfl) (by simp [show Rep.n Int=1 from rfl]) (by simp [zJ]<;>rfl) k1.own (by omega) (cC.2 ⟨rfl,qR⟩) fun h2 o2 m2=>?_
   refine hK2 () _ _ rfl rfl ?_
   rw [hst,dJ,hw]
   exact ⟨(m2.view k1.le k1.av).1,k1.av,o2,k1.box⟩
 ·rintro _ h1 k1
  rw [List.take_length] at k1
  simp
  exact hK _ _ k1
theorem rM {f:ak} {v:Value} {h:Heap} (hv:Rd (vw h) v f) (hsm:SmF f):aI Try.prog N.fw #[v] h (fun u h'=>(vw h).le (vw h')∧SlRd (fresh h h') u (oG f)):=by
 refine aA (args:=[v]) follows F.fw E.fw (Nat.le_of_ble_eq_true (by kernel_rfl)) fun K hK=>?_
 dsimp only [L.fw]
 refine aa fun z hz=>?_
 simp
 refine ez rfl hv fun h1 e1 hle1 hs1 hat=>?_
 obtain ⟨u,hu,hur⟩:=hat.an rfl
 have hu:Un.ev (vw h1) (.an 2) (.pointer (some ⟨h.size,0,none⟩))=some u:=hu
 generalize h.size=B at hu
 rw [hz];clear hz z
 refine aa fun z hz=>?_
 simp [hu]
 refine aj (by kernel_rfl) (BR hur hsm) ?_
 rintro _ h2 ⟨rfl,hle2⟩
 have ht:=DL (f:=f)
 obtain ⟨n,hn⟩:=Int.eq_ofNat_of_zero_le ht.1
 refine Mine.made (k:=.i64) (V:=nothing) (W:=nothing) (h0:=h) (n:=n) (d:=(0:Int)) El.aP (View.le_trans hle1 hle2) a8 (Old.nothing _ _) (by simp [hn]) (by simp [hn]) ⟨rfl,by omega,by omega⟩ (by omega) (by omega) fun vo h3 m3 hle3 hb3=>?_
 obtain ⟨hvc,hvo⟩:=iz m3.own
 refine gM (n:=1) (z:=.slice none 0 0) (v:=vo) (by kernel_rfl) rfl (by kernel_rfl) (by rw [hvc];rfl) (by rw [hvc];simpa using hvo) (fun _=>by simp) (fun _=>by simp) fun h4 hle4 hs4 hb4=>?_
 have hle14:=View.le_trans hle2 (View.le_trans hle3 hle4)
 have hu4:Un.ev (vw h4) (.an 2) (.pointer (some ⟨B,0,none⟩))=some u:=by
  have:=ck (ρ:=fun _=>none) (e:=.un (.an 2) (.con (.pointer (some ⟨B,0,none⟩)))) hle14 (v:=u) (by simpa using hu)
  simpa using this
 rw [hz];clear hz z
 refine aa fun z hz=>?_
 simp [hu4]
 have hbut:(but vo h4).le (vw h4):=zw
 have hs2:h2.size<h3.size:=m3.own.lt hb3
 have hDne:vo.ownBlock≠some h3.size:=by rw [hb3];intro e;simp only [Option.some.injEq] at e;omega
 have hrow:oG f=(ar f).foldl CF (List.replicate n 0):=by rw [oG,hn];rfl
 have hU:Us h3.size vo (List.replicate n 0) (but vo h4) h4:=⟨hbut,BK,m3.own.ext hle4,bV (c:=#[vo]) (T:=T.aP) (fz:=(0,0)) (by unfold but;rw [if_neg hDne,hb4,hvc]) rfl⟩
 have hur4:Rd (but vo h4) u f:=by
  have:=hur.mono (K:=but vo h4) (fun b o hb=>by
   have hlt:=View.lt (View.le_refl (vw h1)) hb
   have h4b:=hle14 b o hb
   unfold but
   rw [if_neg]
   ·exact h4b
   ·rw [hb3];intro e;simp only [Option.some.injEq] at e;have:=dp hle2;omega)
  exact this
 refine aj (by kernel_rfl) (pZ (caps:=[.pointer (some ⟨h3.size,0,none⟩)]) (J:=fun l W h=>Us h3.size vo (l.foldl CF (List.replicate n 0)) W h) hur4 hsm ⟨fun k=>k.le,fun k hle=>k.ext hle⟩ (by kernel_rfl) hU fun l t W h5 vm vt hVW _ k hm ht=>?_) ?_
 ·refine (CG k ht).mono fun _ h6 k6=>?_
  rw [List.foldl_append];exact k6
 ·rintro _ h5 ⟨W,hVW,k⟩
  rw [hz];clear hz z
  simp [ah k.le k.box]
  have hle:(vw h).le (vw h5):=fun b o hb=>by
   have hlt:=View.lt (View.le_refl (vw h)) hb
   refine k.le b o (hVW b o ?_)
   unfold but
   rw [if_neg]
   ·exact View.le_trans hle1 hle14 b o hb
   ·rw [hb3];intro e;simp only [Option.some.injEq] at e;have:=dp hle2;omega
  refine hK _ _ ⟨hle,?_⟩
  rw [hrow]
  refine k.own.fresh (fun _ _ h=>by cases h) fun b hb=>?_
  rw [hb3] at hb;cases hb
  exact View.dd (View.le_refl _) (by have:=dp hle2;omega)
end Go.Proofs.Ytfelpjfopgiabaa
namespace Go.Proofs.Ytfelpjfopgiabaa
open Go Go.Lft
theorem rz {β:Type} {x:Nat→β} {n:Nat} {y:β}:y∈rows x n↔∃ i,i<n∧y=x i:=by
 simp only [rows,List.mem_map,List.mem_range]
 exact ⟨fun ⟨i,h,e⟩=>⟨i,h,e.symm⟩,fun ⟨i,h,e⟩=>⟨i,h,e.symm⟩⟩
theorem cU {f:ak} {n:Nat} {t:Th}:t∈thTo f n↔∃ b,b<n∧t∈thB f b:=by
 induction n with
 | zero=>simp [thTo,up]
 | succ n ih=>
  rw [eZ,List.mem_append,ih]
  constructor
  ·rintro (⟨b,h1,h2⟩ | h)
   ·exact ⟨b,by omega,h2⟩
   ·exact ⟨n,by omega,h⟩
  ·rintro ⟨b,h1,h2⟩
   rcases Nat.lt_or_ge b n with h | h
   ·exact .inl ⟨b,h,h2⟩
   ·rw [show b=n by omega] at h2;exact .inr h2
theorem dw {f:ak} {b:Nat} {t:Th}:t∈thB f b↔(∃ i,i<(nth f.blocks b).phis.length∧t=phiT f b i)∨(∃ i,i<(nth f.blocks b).ins.length∧t=insT f b i)∨t=endT f b:=by
 simp only [thB,List.mem_append,rz,List.mem_singleton,or_assoc]
theorem zx {i:InsD}:(aU i).length≤2:=by unfold aU;split<;>(try split)<;>simp
structure ThOk (f:ak) (t:Th):Prop where
 blk:0≤t.blk∧t.blk<f.blocks.length
 place:-10000≤t.place∧t.place≤10000
 mks:t.mks.length≤10000
 tks:t.tks.length≤10000
 ins:0≤t.place→t.mks≠[]→t.place<(nth f.blocks t.blk.toNat).ins.length
theorem yt {f:ak} (hsm:SmF f) {t:Th} (h:t∈ar f):ThOk f t:=by
 obtain ⟨b,hb,h⟩:=cU.1 h
 have s:=hsm.blk b hb
 have sp:=s.phis
 have si:=s.ins
 rcases dw.1 h with ⟨i,hi,rfl⟩ | ⟨i,hi,rfl⟩ | rfl
 ·exact ⟨⟨by simp [phiT],by simp [phiT];omega⟩,by simp only [phiT];omega,by simp [phiT],by simpa [phiT] using s.phi i hi,fun h=>by simp only [phiT] at h;omega⟩
 ·refine ⟨⟨by simp [insT],by simp [insT];omega⟩,by simp only [insT];omega,Nat.le_trans zx (by decide),s.inn i hi,fun _ _=>by simp [insT];omega⟩
 ·exact ⟨⟨by simp [endT],by simp [endT];omega⟩,by simp only [endT];omega,by simp [endT],s.args,fun _ h=>absurd rfl h⟩
theorem rT {f:ak} (hsm:SmF f) : ∀ {n:Nat},n≤f.blocks.length→(thTo f n).length≤n*20001
 | 0,_=>by simp [thTo,up]
 | n+1,h=>by
  have ih:=rT hsm (n:=n) (by omega)
  have s:=hsm.blk n (by omega)
  have sp:=s.phis
  have si:=s.ins
  rw [eZ,List.length_append,thB]
  simp only [List.length_append,kO,List.length_singleton]
  omega
theorem zv {f:ak} (hsm:SmF f):(ar f).length≤200010000:=by
 have:=rT hsm (Nat.le_refl f.blocks.length)
 have:=hsm.len
 unfold ar;omega
abbrev WL:=List (Int × Int)
def bw (val:Int) (w:Int × Int) (l:WL) (n:Int):WL:=if n=val then l++[w] else l
def nT (val:Int) (l:WL) (t:Th):WL:=t.mks.foldl (bw val (t.blk,t.place)) l
def lr (val:Int) (l:WL) (t:Th):WL:=t.tks.foldl (bw val (t.blk,t.place)) l
theorem iU {val:Int} {w:Int × Int} {ns:List Int} : ∀ {l:WL},(ns.foldl (bw val w) l).length≤l.length+ns.length:=by
 induction ns with
 | nil=>simp
 | cons n ns ih=>
  intro l
  rw [List.foldl_cons]
  have:=ih (l:=bw val w l n)
  have h2:(bw val w l n).length≤l.length+1:=by unfold bw;split<;>simp
  simp only [List.length_cons];omega
theorem rO {F:WL→Th→WL} {c:Nat} {l:List Th} (h : ∀ t∈l,∀ x,(F x t).length≤x.length+c) : ∀ (x:WL),(l.foldl F x).length≤x.length+l.length*c:=by
 induction l with
 | nil=>simp
 | cons t l ih=>
  intro x
  rw [List.foldl_cons]
  have h1:=ih (fun t ht=>h t (List.mem_cons_of_mem _ ht)) (F x t)
  have h2:=h t (List.mem_cons_self ..) x
  simp only [List.length_cons,Nat.succ_mul];omega
def oH (B1:Nat) (v1:Value) (l1:WL) (B2:Nat) (v2:Value) (l2:WL):Own:=fun k=>
 if k=(0,0) then bx T.bh B1 (Raw.mk v1) else if k=(0,1) then it T.gV v1 l1 else if k=(1,0) then bx T.bh B2 (Raw.mk v2) else if k=(1,1) then it T.gV v2 l2 else none
structure Fo (val:Int) (C B1 B2:Nat) (l1 l2:WL) (W:View) (h:Heap):Prop where
 box:ao W ⟨C,0,none⟩=some (.int .i64 val)
 ex : ∃ v1 v2,Owns W h (oH B1 v1 l1 B2 v2 l2)
theorem Fo.le {val:Int} {C B1 B2:Nat} {l1 l2:WL} {W:View} {h:Heap} (k:Fo val C B1 B2 l1 l2 W h):W.le (vw h):=let ⟨_,_,w⟩:=k.ex;w.wle
theorem Fo.ext {val:Int} {C B1 B2:Nat} {l1 l2:WL} {W:View} {h h':Heap} (k:Fo val C B1 B2 l1 l2 W h) (hle:(vw h).le (vw h')):Fo val C B1 B2 l1 l2 (grow W h h') h':=
 ⟨ah (aW k.le) k.box,let ⟨v1,v2,w⟩:=k.ex;⟨v1,v2,w.ext hle⟩⟩
theorem Cz {val blk place:Int} {C B1 B2:Nat} {l1 l2:WL} {ms ts:List Int} {vm vt:Value} {W:View} {h:Heap} (k:Fo val C B1 B2 l1 l2 W h) (hm:SlRd W vm ms) (ht:SlRd W vt ts) (r1:-10000≤blk∧blk≤10000) (r2:-10000≤place∧place≤10000)
  (b1:l1.length+ms.length≤2000100000000) (b2:l2.length+ts.length≤2000100000000) :
  aI Try.prog N.bE #[.int .i64 blk,.int .i64 place,vm,vt,.pointer (some ⟨C,0,none⟩),.pointer (some ⟨B1,0,none⟩),.pointer (some ⟨B2,0,none⟩)] h
   (fun _ h2=>Fo val C B1 B2 (ms.foldl (bw val (blk,place)) l1) (ts.foldl (bw val (blk,place)) l2) W h2):=by
 refine aA (args:=[.int .i64 blk,.int .i64 place,vm,vt,.pointer (some ⟨C,0,none⟩),.pointer (some ⟨B1,0,none⟩),.pointer (some ⟨B2,0,none⟩)]) follows F.bE E.bE (Nat.le_of_ble_eq_true (by kernel_rfl)) fun K hK=>?_
 have bm:=hm.bound
 have bt:=ht.bound
 dsimp only [L.bE]
 refine aa fun z hz=>?_
 simp [(hm.mono k.le).len]
 refine bc [0,1,3,4,5,6,15,16,17] (fun (_:Unit) i=>[.int .i64 blk,.int .i64 place,vt,.pointer (some ⟨C,0,none⟩),.pointer (some ⟨B1,0,none⟩),.pointer (some ⟨B2,0,none⟩),vm,.int .i64 ms.length,.int .i64 i])
  (fun _ i h1=>Fo val C B1 B2 ((ms.take i).foldl (bw val (blk,place)) l1) l2 W h1) ms.length ()
  rfl (by omega) rfl k (fun _ _=>rfl) (fun v i h1 hk m=>by simp) ?_ ?_
 ·rintro _ i h1 hlt k1 K2 hK2
  have hm1:=hm.mono k1.le
  have hst:(ms.take (i+1)).foldl (bw val (blk,place)) l1=bw val (blk,place) ((ms.take i).foldl (bw val (blk,place)) l1) (nth ms i):=by
   rw [List.take_succ_eq_append_getElem hlt,List.foldl_append,aq hlt];rfl
  have hlen:=iU (val:=val) (w:=(blk,place)) (ns:=ms.take i) (l:=l1)
  rw [List.length_take] at hlen
  generalize (ms.take i).foldl (bw val (blk,place)) l1=y at k1 hst hlen
  refine aa fun z hz=>?_
  simp (disch:=omega) [hm1.idx1 rfl,hm1.int (View.le_refl _)]
  rw [hz];clear hz z
  refine aa fun z hz=>?_
  simp [ah k1.le k1.box]
  rw [hz];clear hz z
  by_cases he:nth ms i=val
  ·rw [bw,if_pos he] at hst
   obtain ⟨v1,v2,w⟩:=k1.ex
   have hbx:=(w.at (k:=(0,0)) (d:=Raw.mk v1) (B:=B1) (e:=T.bh) rfl).raw
   simp [he,hbx]
   refine aN (z:=.agg #[.int .i64 0,.int .i64 0]) (places:=[(0,1),(1,1)]) (vs:=[(0,.int .i64 blk),(1,.int .i64 place)]) (cs:=#[.int .i64 blk,.int .i64 place]) (by kernel_rfl) (by kernel_rfl) (by simp) (by rfl) ?_
   refine w.dK (k:=(0,1)) (α:=Int × Int) (d:=(blk,place)) rfl El.bh rfl (zE.2 ⟨rfl,⟨by omega,by omega⟩,by omega,by omega⟩) (by omega) (by omega) (fun _=>rfl) (fun _=>rfl) fun u v' h2 w2 hs2=>?_
   have hc:=w2.cells (k:=(0,1)) (Own.ag)
   refine w2.fG (k:=(0,0)) (D:=Raw.mk v1) (B:=B1) (e:=T.bh) (Part.all) (d:=Raw.mk v') rfl (by kernel_rfl) rfl rfl (kl.2 ⟨rfl,hc.2⟩) fun h3 w3 hs3=>?_
   refine hK2 () _ _ rfl rfl ⟨k1.box,v',v2,w3.congr fun q=>?_⟩
   rw [hst]
   unfold oH Own.upd
   repeat' split
   all_goals first | rfl | simp_all
  ·rw [bw,if_neg he] at hst
   simp [he]
   exact hK2 () _ _ rfl rfl (by rw [hst];exact k1)
 ·rintro _ h1 k1
  rw [List.take_length] at k1
  simp
  rw [hz];clear hz z
  simp [(ht.mono k1.le).len]
  generalize ms.foldl (bw val (blk,place)) l1=m1 at k1 hK
  refine bc [0,1,4,5,6,31,32,33] (fun (_:Unit) i=>[.int .i64 blk,.int .i64 place,.pointer (some ⟨C,0,none⟩),.pointer (some ⟨B1,0,none⟩),.pointer (some ⟨B2,0,none⟩),vt,.int .i64 ts.length,.int .i64 i])
   (fun _ i h2=>Fo val C B1 B2 m1 ((ts.take i).foldl (bw val (blk,place)) l2) W h2) ts.length ()
   rfl (by omega) rfl k1 (fun _ _=>rfl) (fun v i h1 hk m=>by simp) ?_ ?_
  ·rintro _ i h2 hlt k2 K2 hK2
   have ht2:=ht.mono k2.le
   have hst:(ts.take (i+1)).foldl (bw val (blk,place)) l2=bw val (blk,place) ((ts.take i).foldl (bw val (blk,place)) l2) (nth ts i):=by
    rw [List.take_succ_eq_append_getElem hlt,List.foldl_append,aq hlt];rfl
   have hlen:=iU (val:=val) (w:=(blk,place)) (ns:=ts.take i) (l:=l2)
   rw [List.length_take] at hlen
   generalize (ts.take i).foldl (bw val (blk,place)) l2=y at k2 hst hlen
   refine aa fun z hz=>?_
   simp (disch:=omega) [ht2.idx1 rfl,ht2.int (View.le_refl _)]
   rw [hz];clear hz z
   refine aa fun z hz=>?_
   simp [ah k2.le k2.box]
   rw [hz];clear hz z
   by_cases he:nth ts i=val
   ·rw [bw,if_pos he] at hst
    obtain ⟨v1,v2,w⟩:=k2.ex
    have hbx:=(w.at (k:=(1,0)) (d:=Raw.mk v2) (B:=B2) (e:=T.bh) rfl).raw
    simp [he,hbx]
    refine aN (z:=.agg #[.int .i64 0,.int .i64 0]) (places:=[(0,1),(1,1)]) (vs:=[(0,.int .i64 blk),(1,.int .i64 place)]) (cs:=#[.int .i64 blk,.int .i64 place]) (by kernel_rfl) (by kernel_rfl) (by simp) (by rfl) ?_
    refine w.dK (k:=(1,1)) (α:=Int × Int) (d:=(blk,place)) rfl El.bh rfl (zE.2 ⟨rfl,⟨by omega,by omega⟩,by omega,by omega⟩) (by omega) (by omega) (fun _=>rfl) (fun _=>rfl) fun u v' h3 w2 hs2=>?_
    have hc:=w2.cells (k:=(1,1)) (Own.ag)
    refine w2.fG (k:=(1,0)) (D:=Raw.mk v2) (B:=B2) (e:=T.bh) (Part.all) (d:=Raw.mk v') rfl (by kernel_rfl) rfl rfl (kl.2 ⟨rfl,hc.2⟩) fun h4 w3 hs3=>?_
    refine hK2 () _ _ rfl rfl ⟨k2.box,v1,v',w3.congr fun q=>?_⟩
    rw [hst]
    unfold oH Own.upd
    repeat' split
    all_goals first | rfl | simp_all
   ·rw [bw,if_neg he] at hst
    simp [he]
    exact hK2 () _ _ rfl rfl (by rw [hst];exact k2)
  ·rintro _ h2 k2
   rw [List.take_length] at k2
   simp
   exact hK _ _ k2
def mg (val:Int) (l:List Th):WL:=l.foldl (nT val) []
def ko (val:Int) (l:List Th):WL:=l.foldl (lr val) []
def lE (l1 l2:WL):Bool:=!decide (l1.length=1)||!decide (l2.length=1)||decide ((nth l1 0).2<0)||!decide ((nth l1 0).1=(nth l2 0).1)||decide ((nth l2 0).2≤(nth l1 0).2)
def jD (f:ak) (val:Int) (l1 l2:WL):Bool:=!lE l1 l2&&(decide ((nth (nth f.blocks (nth l1 0).1.toNat).ins (nth l1 0).2.toNat).dst=val)&&[1,2,4,11,12,13].contains (nth (nth f.blocks (nth l1 0).1.toNat).ins (nth l1 0).2.toNat).op)
def ew (f:ak) (val:Int):Bool:=jD f val (mg val (ar f)) (ko val (ar f))
theorem nB {val:Int} {w x:Int × Int} {ns:List Int} : ∀ {l:WL},x∈ns.foldl (bw val w) l↔x∈l∨(x=w∧val∈ns):=by
 induction ns with
 | nil=>simp
 | cons n ns ih=>
  intro l
  rw [List.foldl_cons,ih,bw]
  grind
theorem pq {val:Int} {x:Int × Int} {l:List Th} : ∀ {y:WL},x∈l.foldl (nT val) y↔x∈y∨∃ t∈l,x=(t.blk,t.place)∧val∈t.mks:=by
 induction l with
 | nil=>simp
 | cons t l ih=>
  intro y
  rw [List.foldl_cons,ih,nT,nB]
  simp only [List.mem_cons,exists_eq_or_imp]
  constructor
  ·rintro ((h | h) | h)
   ·exact .inl h
   ·exact .inr (.inl h)
   ·exact .inr (.inr h)
  ·rintro (h | h | h)
   ·exact .inl (.inl h)
   ·exact .inl (.inr h)
   ·exact .inr h
theorem je {f:ak} {v:Value} {val:Int} {h:Heap} (hv:Rd (vw h) v f) (hsm:SmF f) (hval:I64 val):aI Try.prog N.dr #[v,.int .i64 val] h (fun u h'=>u = .bool (ew f val)∧(vw h).le (vw h')):=by
 refine aA (args:=[v,.int .i64 val]) follows F.dr E.dr (Nat.le_of_ble_eq_true (by kernel_rfl)) fun K hK=>?_
 dsimp only [L.dr]
 refine aa fun z hz=>?_
 simp
 refine ez rfl hv fun h1 e1 hle1 hs1 hat=>?_
 refine ez (α:=Int) rfl (cC.2 ⟨rfl,hval⟩) fun h2 e2 hle2 hs2 hat2=>?_
 have hatf:=hat.mono hle2
 obtain ⟨u,hu,hur⟩:=hatf.an rfl
 have hu:Un.ev (vw h2) (.an 2) (.pointer (some ⟨h.size,0,none⟩))=some u:=hu
 obtain ⟨cp,vb,cb⟩:=gL hatf
 have cval:=hat2.int
 generalize hB:h.size=B at hu cp cb
 generalize hC:h1.size=C at cval
 rw [hz];clear hz z
 refine aa fun z hz=>?_
 simp
 refine fe (z:=.slice none 0 0) (by kernel_rfl) ?_
 refine fe (z:=.slice none 0 0) (by kernel_rfl) ?_
 have q1:=bJ h2 (.cells (Value.slice none 0 0).cells T.bh)
 generalize e3:h2.push (.cells (Value.slice none 0 0).cells T.bh)=h3 at q1
 have b3:h3[h2.size]? = some (.cells (Value.slice none 0 0).cells T.bh (0,0)):=by rw [←e3];simp
 have s3:h3.size=h2.size+1:=by rw [←e3];simp
 have q2:=bJ h3 (.cells (Value.slice none 0 0).cells T.bh)
 generalize e4:h3.push (.cells (Value.slice none 0 0).cells T.bh)=h4 at q2
 have b4:h4[h3.size]? = some (.cells (Value.slice none 0 0).cells T.bh (0,0)):=by rw [←e4];simp
 have hle24:=View.le_trans q1 q2
 have w0:Owns (vw h2) h4 (oH h2.size (.slice none 0 0) [] h3.size (.slice none 0 0) []):=by
  have w1:=(Owns.start (h:=h2) (View.le_refl (vw h2))).add (k:=(0,0)) rfl (iq (h:=h3) (e:=T.bh) (d:=Raw.mk (.slice none 0 0)) b3 (kl.2 ⟨rfl,rfl⟩) (by decide)) q1 (fun b hb=>by simp only [Value.ownBlock,Option.some.injEq] at hb;omega)
  have w2:=w1.add (k:=(1,0)) rfl (iq (h:=h4) (e:=T.bh) (d:=Raw.mk (.slice none 0 0)) b4 (kl.2 ⟨rfl,rfl⟩) (by decide)) q2 (fun b hb=>by simp only [Value.ownBlock,Option.some.injEq] at hb;omega)
  have w3:=w2.add (k:=(0,1)) rfl (OwnT.nil (α:=Int × Int) (vw h2) h4 T.gV) (View.le_refl _) (fun b hb=>by simp [Value.ownBlock] at hb)
  have w4:=w3.add (k:=(1,1)) rfl (OwnT.nil (α:=Int × Int) (vw h2) h4 T.gV) (View.le_refl _) (fun b hb=>by simp [Value.ownBlock] at hb)
  refine w4.congr fun q=>?_
  unfold oH Own.upd
  repeat' split
  all_goals first | rfl | simp_all
 have k0:Fo val C h2.size h3.size [] [] (vw h2) h4:=⟨cval,_,_,w0⟩
 have hu4:Un.ev (vw h4) (.an 2) (.pointer (some ⟨B,0,none⟩))=some u:=by
  have:=ck (ρ:=fun _=>none) (e:=.un (.an 2) (.con (.pointer (some ⟨B,0,none⟩)))) hle24 (v:=u) (by simpa using hu)
  simpa using this
 generalize h2.size=B1 at k0
 generalize h3.size=B2 at k0
 rw [hz];clear hz z
 refine aa fun z hz=>?_
 simp [hu4]
 have hml:=zv hsm
 refine aj (by kernel_rfl) (pZ (caps:=[.pointer (some ⟨C,0,none⟩),.pointer (some ⟨B1,0,none⟩),.pointer (some ⟨B2,0,none⟩)]) (J:=fun l W h=>Fo val C B1 B2 (mg val l) (ko val l) W h) hur hsm ⟨fun k=>k.le,fun k hle=>k.ext hle⟩ (by kernel_rfl) k0 fun l t W h5 vm vt hVW hpre k hm ht=>?_) ?_
 ·have hmem : ∀ x∈l++[t],ThOk f x:=fun x hx=>yt hsm (hpre.subset hx)
  have hll:=hpre.length_le
  rw [List.length_append,List.length_singleton] at hll
  have ot:=hmem t (by simp)
  have hl:=hsm.len
  have c1:=rO (F:=nT val) (c:=10000) (l:=l) (fun t ht x=>Nat.le_trans iU (Nat.add_le_add_left (hmem t (by simp [ht])).mks _)) []
  have c2:=rO (F:=lr val) (c:=10000) (l:=l) (fun t ht x=>Nat.le_trans iU (Nat.add_le_add_left (hmem t (by simp [ht])).tks _)) []
  have c1':(mg val l).length≤l.length*10000:=by simpa [mg] using c1
  have c2':(ko val l).length≤l.length*10000:=by simpa [ko] using c2
  have o1:=ot.mks
  have o2:=ot.tks
  have ob:=ot.blk
  refine (Cz k hm ht (by omega) ot.place (by omega) (by omega)).mono fun _ h6 k6=>?_
  have e1:mg val (l++[t])=t.mks.foldl (bw val (t.blk,t.place)) (mg val l):=by rw [mg,List.foldl_append];rfl
  have e2:ko val (l++[t])=t.tks.foldl (bw val (t.blk,t.place)) (ko val l):=by rw [ko,List.foldl_append];rfl
  simp only [e1,e2];exact k6
 ·rintro _ h5 ⟨W,hVW,k⟩
  have hin : ∀ w∈mg val (ar f),0≤w.1∧w.1<f.blocks.length∧(0≤w.2→w.2<(nth f.blocks w.1.toNat).ins.length):=by
   intro w hw
   rcases pq.1 hw with h | ⟨t,ht,rfl,hv⟩
   ·cases h
   ·have ot:=yt hsm ht
    exact ⟨ot.blk.1,ot.blk.2,fun h=>ot.ins h (fun e=>by rw [e] at hv;cases hv)⟩
  have hfs:ew f val=jD f val (mg val (ar f)) (ko val (ar f)):=rfl
  rw [hfs] at hK
  generalize mg val (ar f)=l1 at k hin hK
  generalize ko val (ar f)=l2 at k hK
  obtain ⟨v1,v2,w⟩:=k.ex
  have hb1:=(w.at (k:=(0,0)) (d:=Raw.mk v1) (B:=B1) (e:=T.bh) rfl).raw
  have hb2:=(w.at (k:=(1,0)) (d:=Raw.mk v2) (B:=B2) (e:=T.bh) rfl).raw
  have n1:=w.now (k:=(0,1)) (v:=v1) (l:=l1) rfl
  have n2:=w.now (k:=(1,1)) (v:=v2) (l:=l2) rfl
  have hle5:=View.le_trans hVW w.wle
  have hle:=View.le_trans hle1 (View.le_trans hle2 hle5)
  have cb5:=cb.2.mono hle5
  have cc5:=ah hle5 cb.1
  have cv5:=ah hle5 cval
  rw [hz];clear hz z
  refine aa fun z hz=>?_
  have no:lE l1 l2=true→K (.bool false) h5:=fun e=>hK _ _ ⟨by rw [jD,e];rfl,hle⟩
  by_cases hA:l1.length=1
  ·by_cases hB2:l2.length=1
   ·have i1 : ∀ kd,Bn.ev (.idx 2) v1 (.int kd 0)=some (.pointer (some (slA v1))):=fun kd=>by
     have:=n1.idxn (N:=2) rfl (k:=kd) (i:=0) (by omega) (by omega)
     simpa [Addr.add] using this
    have i2 : ∀ kd,Bn.ev (.idx 2) v2 (.int kd 0)=some (.pointer (some (slA v2))):=fun kd=>by
     have:=n2.idxn (N:=2) rfl (k:=kd) (i:=0) (by omega) (by omega)
     simpa [Addr.add] using this
    obtain ⟨a0,a1⟩:=n1.zG (View.le_refl _) (i:=0) (by omega)
    obtain ⟨d0,d1⟩:=n2.zG (View.le_refl _) (i:=0) (by omega)
    have z1 : ∀ a:Addr,a.add (0*2)=a:=fun a=>by simp [Addr.add]
    rw [z1] at a0 a1 d0 d1
    have hw:=hin (nth l1 0) (bU (by omega))
    have hbad:lE l1 l2=(decide ((nth l1 0).2<0)||!decide ((nth l1 0).1=(nth l2 0).1)||decide ((nth l2 0).2≤(nth l1 0).2)):=by simp [lE,hA,hB2]
    rw [hbad] at no
    have hfb:jD f val l1 l2=(!(decide ((nth l1 0).2<0)||!decide ((nth l1 0).1=(nth l2 0).1)||decide ((nth l2 0).2≤(nth l1 0).2))&&(decide ((nth (nth f.blocks (nth l1 0).1.toNat).ins (nth l1 0).2.toNat).dst=val)&&[1,2,4,11,12,13].contains (nth (nth f.blocks (nth l1 0).1.toNat).ins (nth l1 0).2.toNat).op)):=by rw [jD,hbad]
    rw [hfb] at hK
    generalize nth l1 0=w1 at a0 a1 hw no hK
    generalize nth l2 0=w2 at d0 d1 no hK
    by_cases c3:w1.2<0
    ·simp [hb1,hb2,n1.len,n2.len,hA,hB2,i1,i2,a0,a1,d0,d1,c3]
     exact no (by simp [c3])
    ·by_cases c4:w1.1=w2.1
     ·by_cases c5:w2.2≤w1.2
      ·simp [hb1,hb2,n1.len,n2.len,hA,hB2,i1,i2,a0,a1,d0,d1,c3,c4,c5]
       exact no (by simp [c5])
      ·have hs:(!(decide (w1.2<0)||!decide (w1.1=w2.1)||decide (w2.2≤w1.2)))=true:=by simp [c3,c4,c5]
       rw [hs,Bool.true_and] at hK
       have hw2:=hw.2.2 (by omega)
       obtain ⟨ul,hul⟩:=((cb5.at (i:=w1.1.toNat) (by omega)).part BlkD.j0).sl
       rw [←aq (by omega)] at hul
       have hul1:ao (vw h5) (((slA vb).add (w1.1.toNat*6)).add 1)=some ul:=hul.1
       obtain ⟨ui,hui,huir⟩:=hul.2.wh rfl (N:=5) rfl (i:=w1.2.toNat) (by omega)
       have hli:=hul.2
       generalize nth (nth f.blocks w1.1.toNat).ins w1.2.toNat=x at huir hK
       simp [hb1,hb2,n1.len,n2.len,hA,hB2,i1,i2,a0,a1,d0,d1,c3,c5,←c4]
       rw [hz];clear hz z
       refine aa fun z hz=>?_
       have z0 : ∀ a:Addr,a.add 0=a:=fun a=>by simp [Addr.add]
       refine cg (vw h5) (View.le_refl _) ?_
       simp (disch:=omega) [hb1,i1,a0,a1,cc5,cb5.idxn (N:=6) rfl,hul1,hli.idxn (N:=5) rfl,hui _ (View.le_refl _)]
       refine fe (z:=.agg #[.int .i64 0,.int .i64 0,.int .i64 0,.slice none 0 0,.int .i32 0]) (by kernel_rfl) ?_
       have hle6:=bJ h5 (.cells (Value.cells (.agg #[.int .i64 0,.int .i64 0,.int .i64 0,.slice none 0 0,.int .i32 0])) T.aX)
       have hb6:(h5.push (.cells (Value.cells (.agg #[.int .i64 0,.int .i64 0,.int .i64 0,.slice none 0 0,.int .i32 0])) T.aX))[h5.size]? = some (.cells (Value.cells (.agg #[.int .i64 0,.int .i64 0,.int .i64 0,.slice none 0 0,.int .i32 0])) T.aX (0,0)):=by simp
       generalize h5.push (.cells (Value.cells (.agg #[.int .i64 0,.int .i64 0,.int .i64 0,.slice none 0 0,.int .i32 0])) T.aX)=h6 at hle6 hb6
       refine ⟨hle6,?_⟩
       obtain ⟨g1,g2,g3⟩:=fH huir
       refine dP (g:=h5.size) (o:=0) (n:=5) (v:=ui) (by kernel_rfl) rfl rfl g2 g3 hb6 (by simp) fun h7 hs7 ⟨row,hr7,he7⟩ ho7=>?_
       have hrow:row=ui.cells:=by
        have g2':ui.cells.size=5:=g2
        rw [←Array.toList_inj,he7];simp
       rw [hrow] at hr7
       have hle7:(vw h5).le (vw h7):=fun b o hb=>by
        have hlt:=View.lt (View.le_refl (vw h5)) hb
        show h7[b]? = _
        rw [ho7 b (by omega)];exact hle6 b o hb
       have hat7:At (vw h7) ⟨h5.size,0,none⟩ x:=mL (show vw h7 h5.size=_ from hr7) (huir.mono hle7)
       obtain ⟨q0,q1,_⟩:=mU hat7
       have ro:=(hat7.part InsD.Fz).rng
       generalize h5.size=D at q0 q1
       rw [hz];clear hz z
       have cv7:=ah hle7 cv5
       refine aa fun z hz=>?_
       by_cases c6:x.dst=val
       ·simp [q0,q1,cv7,c6]
        refine fP (α:=Int) (X:=nothing) (ds:=[1,2,4,11,12,13]) (vs:=[.int .i64 1,.int .i64 2,.int .i64 4,.int .i64 11,.int .i64 12,.int .i64 13]) rfl El.aP (by simp) ⟨jy (by omega) (by omega),jy (by omega) (by omega),jy (by omega) (by omega),jy (by omega) (by omega),jy (by omega) (by omega),jy (by omega) (by omega),trivial⟩ a8 rfl (by omega) fun u8 h8 hle8 hsz8 hu8 _=>?_
        simp [ah hle8 q0]
        refine aj (by kernel_rfl) (qp (hu8 (vw h8) a8 rfl)) ?_
        rintro _ _ ⟨rfl,rfl⟩
        simp
        rw [hz];clear hz z
        simp
        exact hK _ _ ⟨by simp [c6],View.le_trans hle (View.le_trans hle7 hle8)⟩
       ·simp [q0,q1,cv7,c6]
        rw [hz];clear hz z
        simp
        exact hK _ _ ⟨by simp [c6],View.le_trans hle hle7⟩
     ·simp [hb1,hb2,n1.len,n2.len,hA,hB2,i1,i2,a0,a1,d0,d1,c3,c4]
      exact no (by simp [c4])
   ·have hB3:¬(l2.length:Int)=1:=by omega
    simp [hb1,hb2,n1.len,n2.len,hA,hB3]
    exact no (by simp [lE,hB2])
  ·have hA3:¬(l1.length:Int)=1:=by omega
   simp [hb1,hb2,n1.len,n2.len,hA3]
   exact no (by simp [lE,hA])
end Go.Proofs.Ytfelpjfopgiabaa
namespace Go.Proofs.Ytfelpjfopgiabaa
open Go Go.Lft
theorem mc {d:InsD} {v:Value} {h:Heap} (hd:Rd (vw h) v d):aI Try.prog N.eG #[v] h (fun u h'=>(vw h).le (vw h')∧SlRd (fresh h h') u (aU d)∧(d.op=16→u = .slice none 0 0)):=by
 refine aA (args:=[v]) follows F.eG E.eG (Nat.le_of_ble_eq_true (by kernel_rfl)) fun K hK=>?_
 simp [L.eG]
 refine ez rfl hd fun h1 _ hle1 hsz1 hat=>?_
 obtain ⟨c0,c1,c2,va,ca⟩:=mU hat
 have r1:=(hat.part InsD.jh).rng
 have r2:=(hat.part InsD.uC).rng
 simp [c0]
 refine ⟨fun e1=>hK _ _ ⟨hle1,by simpa [aU,e1] using dM,fun _=>rfl⟩,fun e1=>⟨fun e2=>?_,fun e2=>?_⟩⟩
 ·simp [c1,c2]
  refine fP (X:=nothing) (ds:=[d.dst,d.two]) (vs:=[.int .i64 d.dst,.int .i64 d.two]) rfl El.aP (by simp) ⟨cC.2 ⟨rfl,r1⟩,cC.2 ⟨rfl,r2⟩,trivial⟩ a8 rfl (by omega) fun u h2 hle2 hsz2 hu _=>?_
  exact hK _ _ ⟨View.le_trans hle1 hle2,by simpa [aU,e2] using hu _ a8 (by unfold fresh;rw [if_neg (by omega)]),fun e=>absurd e e1⟩
 ·simp [c1]
  refine fP (X:=nothing) (ds:=[d.dst]) (vs:=[.int .i64 d.dst]) rfl El.aP (by simp) ⟨cC.2 ⟨rfl,r1⟩,trivial⟩ a8 rfl (by omega) fun u h2 hle2 hsz2 hu _=>?_
  exact hK _ _ ⟨View.le_trans hle1 hle2,by simpa [aU,e1,e2] using hu _ a8 (by unfold fresh;rw [if_neg (by omega)]),fun e=>absurd e e1⟩
def oB (op n:Int):Bool:=if op=1 then decide (n=0) else if op=15 then decide (n=1) else if op=17 then decide (n≤4) else decide (n=2)
def jg (t:dk):Bool:=
 if t.kind=1 then decide ((t.args.length:Int)=0)&&decide ((t.to.length:Int)=1)
 else if t.kind=2 then decide ((t.args.length:Int)=1)&&decide ((t.to.length:Int)=2)
 else if t.kind=3 then decide ((t.args.length:Int)=1)&&decide ((2:Int)≤t.to.length)&&decide ((t.to.length:Int)≤65)
 else if t.kind=4 then decide ((t.args.length:Int)≤1)&&decide ((t.to.length:Int)=0)
 else if t.kind=5 then decide ((t.args.length:Int)=0)&&decide ((t.to.length:Int)=0) else false
def az (f:ak) (b:Int):List Int:=sift (fun a=>decide (b∈(nth f.blocks a).term.to)) (fun a=>(a:Int)) f.blocks.length
theorem v7 {H:View} {v:Value} {l:List BlkD} (h:SlRd H v l) {i:Nat} (hi:i<l.length) : ∃ u,Sl H ((((slA v).add (i*6)).add 2).add 2) u (nth l i).term.to:=by
 rw [aq hi]
 exact ((((h.at hi).part BlkD.pU).part dk.Ds)).sl
theorem qA {f:ak} {b:Int} {v:Value} {h:Heap} (hv:Rd (vw h) v f) (hn:f.blocks.length≤1000000) :
  aI Try.prog N.df #[v,.int .i64 b] h (fun u h'=>(vw h).le (vw h')∧SlRd (fresh h h') u (az f b)):=by
 refine aA (args:=[v,.int .i64 b]) follows F.df E.df (Nat.le_of_ble_eq_true (by kernel_rfl)) fun K hK=>?_
 dsimp only [L.df]
 refine aa fun z hz=>?_
 simp
 refine ez rfl hv fun h1 _ hle1 hsz1 hat=>?_
 obtain ⟨_,vb,cb⟩:=gL hat
 generalize h.size=B at cb
 rw [hz];clear hz z
 refine aa fun z hz=>?_
 simp
 refine qY (α:=Int) El.aP fun h2 hle2 hsz2 own2=>?_
 have m0:=Mine.empty (V:=nothing) (W:=nothing) (View.le_refl (vw h1)) hle2 a8 (Old.nothing _ _) own2
 generalize Value.slice (some ⟨h1.size,0,none⟩) 0 0=v0 at m0
 have cb2:=cb.2
 have cc2:=cb.1
 rw [hz];clear hz z
 refine aa fun z hz=>?_
 simp
 refine cy [1,2,5,6] (fun (r:Value) k=>[.int .i64 b,.pointer (some ⟨B,0,none⟩),r,.int .i64 k]) (fun r k h3=>Mine nothing h1 h3 nothing T.int r (sift (fun a=>decide (b∈(nth f.blocks a).term.to)) (fun a=>(a:Int)) k)) f.blocks.length v0
  rfl (by omega) rfl m0 (fun _ _=>rfl) (fun v k h3 hk m=>by simp [ah m.old cc2,(cb2.mono m.old).len]) ?_ ?_
 ·rintro r k h3 hlt m K2 hK2
  have hle3:=m.old
  have cb3:=cb2.mono hle3
  obtain ⟨w,hw⟩:=v7 cb3 hlt
  have hwb:=hw.2.bound
  have hsl:=kD (p:=fun a=>decide (b∈(nth f.blocks a).term.to)) (x:=fun a=>(a:Int)) k
  refine aa fun y hy=>?_
  simp (disch:=omega) [ah hle3 cc2,cb3.idxn (N:=6) rfl,hw.1]
  rw [hy];clear hy y
  simp
  refine cy [1,2,5,6,7,8] (fun (_:Unit) j=>[.int .i64 b,.pointer (some ⟨B,0,none⟩),r,.int .i64 k,w,.int .i64 j]) (fun _ j h4=>h4=h3∧∀ i,i<j→nth (nth f.blocks k).term.to i≠b) (nth f.blocks k).term.to.length ()
   rfl (by omega) rfl ⟨rfl,fun i hi=>by omega⟩ (fun _ _=>rfl) (fun v j h4 hk m=>by simp [hw.2.len]) ?_ ?_
  ·rintro _ j h3 hltj ⟨rfl,hpre⟩ K3 hK3
   simp (disch:=omega) [hw.2.idx1 rfl,hw.2.int (View.le_refl _)]
   refine ⟨fun e=>?_,fun e=>hK3 () _ _ rfl rfl ⟨rfl,fun i hi=>?_⟩⟩
   ·have hmem:b∈(nth f.blocks k).term.to:=e▸bU hltj
    refine m.push (d:=(k:Int)) El.aP (by simp<;>rfl) (jy (by omega) (by omega)) (by omega) (by omega) (fun _=>by simp) (fun _=>by simp) fun u v' h5 m'=>?_
    exact hK2 v' _ _ rfl rfl (by rw [kQ (by simpa using hmem)];exact m')
   ·rcases Nat.lt_or_ge i j with h | h
    ·exact hpre i h
    ·have:i=j:=by omega
     subst this;exact e
  ·rintro _ h3 ⟨rfl,hpre⟩
   have hmem:¬b∈(nth f.blocks k).term.to:=fun hm=>by
    obtain ⟨i,hi,e⟩:=List.getElem_of_mem hm
    exact hpre i hi (by rw [aq hi];exact e)
   simp
   exact hK2 r _ _ rfl rfl (by rw [jM (by simpa using hmem)];exact m)
 ·rintro r h3 m
  simp
  rw [hz];clear hz z
  simp
  exact hK _ _ ⟨View.le_trans hle1 m.old,m.fresh.mono (sQ hle1)⟩
end Go.Proofs.Ytfelpjfopgiabaa
namespace Go.Proofs.Ytfelpjfopgiabaa
open Go Go.Lft
def mkL (vs:Value) (at_:Nat) (ps:Int) (vb:Value) (nx:Int) (vl:Value):List Value:=[vs,.int .i64 at_,.int .i64 ps,vb,.int .i64 nx,vl]
def rawV (s:List Int) (at_:Nat):Int:=if at_<s.length then nth s at_ else 0
def aB (s:List Int) (at_:Nat) (n:Int):Int:=((rawV s at_).tmod n+n).tmod n
theorem aZ {s:List Int} {at_:Nat} {n:Int} (hn:0<n):0≤aB s at_ n∧aB s at_ n<n:=by
 have b1:=Int.lt_tmod_of_pos (rawV s at_) hn
 exact ⟨Int.tmod_nonneg _ (by omega),Int.tmod_lt_of_pos _ hn⟩
theorem DO {W:View} {h:Heap} {o:Own} {M at_:Nat} {vs vb vl:Value} {ps nx n:Int} {s:List Int} (w:Owns W h o) (hk:o (0,0)=bx T.aL M (RawN.mk (n:=5) (mkL vs at_ ps vb nx vl))) (hs:SlRd W vs s) (h1:at_≤1000000000) (hn:0<n) (hn2:n≤1000000000) :
  aI Try.prog N.bO #[.pointer (some ⟨M,0,none⟩),.int .i64 n] h (fun u h'=>u = .int .i64 (aB s at_ n)∧Owns W h' (o.upd (0,0) (bx T.aL M (RawN.mk (n:=5) (mkL vs (at_+1) ps vb nx vl))))):=by
 refine aA (args:=[.pointer (some ⟨M,0,none⟩),.int .i64 n]) follows F.bO E.bO (Nat.le_of_ble_eq_true (by kernel_rfl)) fun K hK=>?_
 have c0:ao (vw h) ⟨M,0,none⟩=some vs:=w.raw hk (i:=0) (by decide)
 have c1:ao (vw h) ⟨M,1,none⟩=some (.int .i64 at_):=w.raw hk (i:=1) (by decide)
 dsimp only [L.bO]
 refine aa fun z hz=>?_
 simp
 rw [hz];clear hz z
 refine aa fun z hz=>?_
 simp
 rw [hz];clear hz z
 refine aa fun z hz=>?_
 have hsl : ∀ {Q:View},Un.ev Q .len vs=some (.int .i64 s.length):=fun {Q}=>hs.len
 refine qL (fun ρ h2=>h2=h∧I64 (rawV s at_)∧ρ=[(0,.pointer (some ⟨M,0,none⟩)),(1,.int .i64 n),(4,.int .i64 0),(5,.int .i64 (rawV s at_))]) ?_ ?_
 ·intro K2 hK2
  by_cases c:at_<s.length
  ·have hs2:=hs.mono w.wle
   have hr:=hs.range (i:=at_) c
   have e:rawV s at_=nth s at_:=if_pos c
   rw [e] at hK2
   simp (disch:=omega) [c0,c1,hsl,c,hs2.idx1 rfl,hs2.int (View.le_refl _)]
   exact hK2 _ _ ⟨rfl,hr,rfl⟩
  ·have e:rawV s at_=0:=if_neg c
   rw [e] at hK2
   simp [c0,c1,hsl,c]
   exact hK2 _ _ ⟨rfl,⟨by decide,by decide⟩,rfl⟩
 ·rintro _ h2 ⟨rfl,hx,rfl⟩
  rw [hz];clear hz z
  refine aa fun z hz=>?_
  simp (disch:=omega) [c1]
  refine w.bn (k:=(0,0)) (n:=5) (i:=1) (e:=T.aL) (B:=M) (l:=mkL vs at_ ps vb nx vl) hk (by decide) (by kernel_rfl) rfl rfl rfl fun h3 w3 _=>?_
  rw [hz];clear hz z
  have b1:=Int.lt_tmod_of_pos (rawV s at_) hn
  have b2:=Int.tmod_lt_of_pos (rawV s at_) hn
  have hw:IntKind.i64.wrap ((rawV s at_).tmod n+n)=(rawV s at_).tmod n+n:=cQ (by omega) (by omega)
  have hne:¬n=0:=by omega
  simp [hw,hne]
  refine hK _ _ ⟨rfl,w3.congr fun q=>?_⟩
  rfl
theorem xH {W:View} {h:Heap} {o:Own} {M at_:Nat} {vs vb vl:Value} {ps nx:Int} (w:Owns W h o) (hk:o (0,0)=bx T.aL M (RawN.mk (n:=5) (mkL vs at_ ps vb nx vl))) (h0:0≤nx) (h1:nx≤1000000000) :
  aI Try.prog N.bH #[.pointer (some ⟨M,0,none⟩)] h (fun u h'=>u = .int .i64 nx∧Owns W h' (o.upd (0,0) (bx T.aL M (RawN.mk (n:=5) (mkL vs at_ ps vb (nx+1) vl))))∧∀ X:View,X.le (vw h)→X M=none→X.le (vw h')):=by
 refine aA (args:=[.pointer (some ⟨M,0,none⟩)]) follows F.bH E.bH (Nat.le_of_ble_eq_true (by kernel_rfl)) fun K hK=>?_
 have c4:ao (vw h) ⟨M,4,none⟩=some (.int .i64 nx):=w.raw hk (i:=4) (by decide)
 dsimp only [L.bH]
 refine aa fun z hz=>?_
 simp
 rw [hz];clear hz z
 refine aa fun z hz=>?_
 simp (disch:=omega) [c4]
 refine w.bn (k:=(0,0)) (n:=5) (i:=4) (e:=T.aL) (B:=M) (l:=mkL vs at_ ps vb nx vl) hk (by decide) (by kernel_rfl) rfl rfl rfl fun h3 w3 hx3=>?_
 have w3:Owns W h3 (o.upd (0,0) (bx T.aL M (RawN.mk (n:=5) (mkL vs at_ ps vb (nx+1) vl)))):=w3
 have c5:ao (vw h3) ⟨M,4,none⟩=some (.int .i64 (nx+1)):=w3.raw Own.ag (i:=4) (by decide)
 rw [hz];clear hz z
 simp (disch:=omega) [c5]
 exact hK _ _ ⟨by congr 1,w3,hx3⟩
end Go.Proofs.Ytfelpjfopgiabaa
namespace Go.Proofs.Ytfelpjfopgiabaa
open Go Go.Lft
def fewP (x:PhiD):PhiD:={ x with ins:=x.ins.take 6 }
def fewI (x:InsD):InsD:={ x with args:=x.args.take 6 }
def fewB (x:BlkD):BlkD:=⟨(x.phis.take 8).map fewP,(x.ins.take 40).map fewI,{ x.term with args:=x.term.args.take 6,to:=x.term.to.take 70 }⟩
def fewS (f:ak):ak:=⟨f.params,(f.blocks.take 9).map fewB⟩
structure Few where
 r:Nat
 rl:List Value
 out:Option (Nat × List Value):=none
 outL:Option (Value × List BlkD):=none
 y:Option (Nat × List Value):=none
 yP:Option (Value × List PhiD):=none
 yI:Option (Value × List InsD):=none
 o:Own:=fun _=>none
def cT (s:Few):Own:=fun k=>
 if k=(0,0) then s.out.bind fun x=>bx T.aE x.1 (RawN.mk (n:=1) x.2)
 else if k=(0,1) then s.outL.bind fun x=>it T.al x.1 x.2
 else if k=(1,0) then s.y.bind fun x=>bx T.al x.1 (RawN.mk (n:=5) x.2)
 else if k=(1,1) then s.yP.bind fun x=>it T.cm x.1 x.2
 else if k=(1,2) then s.yI.bind fun x=>it T.aX x.1 x.2
 else if k=(5,0) then bx T.aE s.r (RawN.mk (n:=1) s.rl)
 else if k.1<10 then none
 else s.o k
section
variable (s:Few) (q:Key)
theorem E4 {B:Nat} {l:List Value}:cT { s with out:=some (B,l) } q=(cT s).upd (0,0) (bx T.aE B (RawN.mk (n:=1) l)) q:=by
 by_cases hq:q=(0,0)
 ·subst hq;rfl
 ·unfold cT Own.upd
  simp only [hq,if_false]
theorem DC {v:Value} {l:List BlkD}:cT { s with outL:=some (v,l) } q=(cT s).upd (0,1) (it T.al v l) q:=by
 by_cases hq:q=(0,1)
 ·subst hq;rfl
 ·unfold cT Own.upd
  simp only [hq,if_false]
theorem BG {B:Nat} {l:List Value}:cT { s with y:=some (B,l) } q=(cT s).upd (1,0) (bx T.al B (RawN.mk (n:=5) l)) q:=by
 by_cases hq:q=(1,0)
 ·subst hq;rfl
 ·unfold cT Own.upd
  simp only [hq,if_false]
theorem EZ {v:Value} {l:List PhiD}:cT { s with yP:=some (v,l) } q=(cT s).upd (1,1) (it T.cm v l) q:=by
 by_cases hq:q=(1,1)
 ·subst hq;rfl
 ·unfold cT Own.upd
  simp only [hq,if_false]
theorem EJ {v:Value} {l:List InsD}:cT { s with yI:=some (v,l) } q=(cT s).upd (1,2) (it T.aX v l) q:=by
 by_cases hq:q=(1,2)
 ·subst hq;rfl
 ·unfold cT Own.upd
  simp only [hq,if_false]
end
theorem Hv {s:Few} {k:Key} (h:¬k.1<10):cT s k=s.o k:=by
 unfold cT
 rw [if_neg (by rintro rfl;exact h (by decide)),if_neg (by rintro rfl;exact h (by decide)),if_neg (by rintro rfl;exact h (by decide)),if_neg (by rintro rfl;exact h (by decide)),if_neg (by rintro rfl;exact h (by decide)),if_neg (by rintro rfl;exact h (by decide)),if_neg h]
end Go.Proofs.Ytfelpjfopgiabaa
namespace Go.Proofs.Ytfelpjfopgiabaa
open Go Go.Lft
theorem tf {H:View} {u:Value} {d:dk} (h:Rd H u d) : ∃ va vt,u = .agg #[.int .i64 d.kind,va,vt,.int .i32 d.imm.v]∧SlRd H va d.args∧SlRd H vt d.to:=by
 obtain ⟨cs,rfl,c1,r1,e1,⟨rfl,h1⟩,c2,r2,e2,⟨va,rfl,h2⟩,c3,r3,e3,⟨vt,rfl,h3⟩,h4,h5⟩:=h
 subst e3 e2
 have he:cs.toList=[.int .i64 d.kind,va,vt,.int .i32 d.imm.v]:=by rw [e1,h4];rfl
 refine ⟨va,vt,?_,h2,h3⟩
 rw [←Array.toList_inj.1 (he.trans rfl:cs.toList = #[Value.int .i64 d.kind,va,vt,.int .i32 d.imm.v].toList)]
theorem Ap {H:View} {u:Value} {d:PhiD} (h:Rd H u d) : ∃ vi,u = .agg #[.int .i64 d.dst,vi]∧I64 d.dst∧SlRd H vi d.ins:=by
 obtain ⟨cs,rfl,c1,r1,e1,⟨rfl,hd⟩,vi,h2,h3⟩:=h
 exact ⟨vi,by rw [←Array.toList_inj.1 ((by rw [e1,h2];rfl):cs.toList = #[Value.int .i64 d.dst,vi].toList)],hd,h3⟩
theorem qV {H:View} {u:Value} {d:InsD} (h:Rd H u d) : ∃ va,u = .agg #[.int .i64 d.op,.int .i64 d.dst,.int .i64 d.two,va,.int .i32 d.imm.v]∧(I64 d.op∧I64 d.dst∧I64 d.two∧-2147483648≤d.imm.v∧d.imm.v≤2147483647)∧SlRd H va d.args:=by
 obtain ⟨cs,rfl,c1,r1,e1,⟨rfl,h1⟩,c2,r2,e2,⟨rfl,h2⟩,c3,r3,e3,⟨rfl,h3⟩,c4,r4,e4,⟨va,rfl,h4⟩,h5,h6⟩:=h
 subst e4 e3 e2
 exact ⟨va,by rw [←Array.toList_inj.1 ((by rw [e1,h5];rfl):cs.toList = #[Value.int .i64 d.op,.int .i64 d.dst,.int .i64 d.two,va,.int .i32 d.imm.v].toList)],⟨h1,h2,h3,h6⟩,h4⟩
theorem rX {H:View} {d:Int} {v:Value} {l:List InD} (h1:I64 d) (h2:SlRd H v l):Rd H (.agg #[.int .i64 d,v]) (PhiD.mk d l):=⟨_,rfl,[.int .i64 d],[v],rfl,⟨rfl,h1⟩,v,rfl,h2⟩
theorem ji {H:View} {op d two:Int} {imm:I32} {v:Value} {l:List Int} (h:I64 op∧I64 d∧I64 two∧-2147483648≤imm.v∧imm.v≤2147483647) (h2:SlRd H v l):Rd H (.agg #[.int .i64 op,.int .i64 d,.int .i64 two,v,.int .i32 imm.v]) (InsD.mk op d two l imm):=
 ⟨_,rfl,[.int .i64 op],_,rfl,⟨rfl,h.1⟩,[.int .i64 d],_,rfl,⟨rfl,h.2.1⟩,[.int .i64 two],_,rfl,⟨rfl,h.2.2.1⟩,[v],_,rfl,⟨v,rfl,h2⟩,rfl,h.2.2.2⟩
theorem so {H:View} {vp vi va vt:Value} {p:List PhiD} {i:List InsD} {a t:List Int} {kd:Int} {imm:I32} (h1:SlRd H vp p) (h2:SlRd H vi i) (h3:SlRd H va a) (h4:SlRd H vt t) (h5:I64 kd) (h6:-2147483648≤imm.v∧imm.v≤2147483647):Rd H (.agg #[vp,vi,.int .i64 kd,va,vt,.int .i32 imm.v]) (BlkD.mk p i ⟨kd,a,t,imm⟩):=
 ⟨_,rfl,[vp],_,rfl,⟨vp,rfl,h1⟩,[vi],_,rfl,⟨vi,rfl,h2⟩,[.int .i64 kd],_,rfl,⟨rfl,h5⟩,[va],_,rfl,⟨va,rfl,h3⟩,[vt],_,rfl,⟨vt,rfl,h4⟩,rfl,h6⟩
theorem jE {α:Type} {l:List α} {n:Nat}:l.take (min l.length n)=l.take n:=by
 rcases Nat.le_total l.length n with h | h
 ·rw [Nat.min_eq_left h,List.take_of_length_le (Nat.le_refl _),List.take_of_length_le h]
 ·rw [Nat.min_eq_right h]
theorem iB {α:Type} [Rep α] {H:View} {v:Value} {l:List α} (h:SlRd H v l) (n:Nat) (m:Int) (hm:m=n) : ∃ u,Bn.ev .hi v (.int .i64 (if m<(l.length:Int) then m else l.length))=some u∧SlRd H u (l.take n):=by
 subst hm
 obtain ⟨u,h1,h2⟩:=h.take (n:=min l.length n) (by omega) (kd:=.i64)
 rw [jE] at h2
 refine ⟨u,?_,h2⟩
 rw [show (if (n:Int)<(l.length:Int) then (n:Int) else l.length)=((min l.length n:Nat):Int) by split<;>omega]
 exact h1
theorem kM {α β:Type} [Inhabited α] {f:α→β} {l:List α} {k:Nat} (h:k<l.length):(l.take (k+1)).map f=(l.take k).map f++[f (nth l k)]:=by
 rw [List.take_succ_eq_append_getElem h,List.map_append,aq h];rfl
theorem Fk {s:Few} {X:Option Lft.Item} {v:Value} {l:List PhiD} {B:Nat} {c:List Value} {W:View} {h:Heap} (w:Owns W h ((((cT s).upd (2,0) X).upd (1,1) (it T.cm v l)).upd (1,0) (bx T.al B (RawN.mk (n:=5) c)))):Owns W h (cT { s with y:=some (B,c),yP:=some (v,l) }):=w.sub fun q i hq=>by
 have hne:q≠(2,0):=by rintro rfl;cases hq
 have e:cT { s with y:=some (B,c),yP:=some (v,l) } q=((cT s).upd (1,1) (it T.cm v l)).upd (1,0) (bx T.al B (RawN.mk (n:=5) c)) q:=by
  rw [show cT { s with y:=some (B,c),yP:=some (v,l) } q=_ from BG { s with yP:=some (v,l) } q]
  unfold Own.upd
  split
  ·rfl
  ·exact EZ s q
 rw [e] at hq
 rw [←hq]
 simp only [Own.upd,hne,if_false]
theorem E7 {s:Few} {X:Option Lft.Item} {v:Value} {l:List InsD} {B:Nat} {c:List Value} {W:View} {h:Heap} (w:Owns W h ((((cT s).upd (2,0) X).upd (1,2) (it T.aX v l)).upd (1,0) (bx T.al B (RawN.mk (n:=5) c)))):Owns W h (cT { s with y:=some (B,c),yI:=some (v,l) }):=w.sub fun q i hq=>by
 have hne:q≠(2,0):=by rintro rfl;cases hq
 have e:cT { s with y:=some (B,c),yI:=some (v,l) } q=((cT s).upd (1,2) (it T.aX v l)).upd (1,0) (bx T.al B (RawN.mk (n:=5) c)) q:=by
  rw [show cT { s with y:=some (B,c),yI:=some (v,l) } q=_ from BG { s with yI:=some (v,l) } q]
  unfold Own.upd
  split
  ·rfl
  ·exact EJ s q
 rw [e] at hq
 rw [←hq]
 simp only [Own.upd,hne,if_false]
theorem Ef {s:Few} {Y:Nat × List Value} {a:Value × List PhiD} {b:Value × List InsD} (hP:s.yP=none) (hI:s.yI=none) (q:Key):cT { s with y:=some Y } q=((cT { s with y:=some Y,yP:=some a,yI:=some b }).upd (1,1) none).upd (1,2) none q:=by
 obtain ⟨r,rl,o,ol,y,yp,yi,oo⟩:=s
 simp only at hP hI
 subst hP hI
 unfold cT Own.upd
 by_cases h1:q=(1,1)
 ·subst h1;rfl
 by_cases h2:q=(1,2)
 ·subst h2;rfl
 simp only [h1,h2,if_false]
theorem Dq {s:Few} {Y:Nat × List Value} {v:Value} {l:List BlkD} {B:Nat} {c:List Value} {W:View} {h:Heap} (hP:s.yP=none) (hI:s.yI=none) (w:Owns W h (((cT { s with y:=some Y }).upd (0,1) (it T.al v l)).upd (0,0) (bx T.aE B (RawN.mk (n:=1) c)))):Owns W h (cT { r:=s.r,rl:=s.rl,o:=s.o,out:=some (B,c),outL:=some (v,l) }):=w.sub fun q i hq=>by
 obtain ⟨r,rl,o,ol,y,yp,yi,oo⟩:=s
 simp only at hP hI
 subst hP hI
 rw [←hq]
 have h3:q≠(1,0):=by rintro rfl;cases hq
 unfold cT Own.upd
 by_cases h1:q=(0,0)
 ·subst h1;rfl
 by_cases h2:q=(0,1)
 ·subst h2;rfl
 simp only [h1,h2,h3,if_false]
theorem Dn {f:ak} {v:Value} {h:Heap} {W:View} {o0:Own} (w0:Owns W h o0) (ho0 : ∀ k:Key,k.1<10→o0 k=none) (hv:Rd W v f) :
  aI Try.prog N.cK #[v] h (fun u h'=>∃ W',W.le W'∧Owns W' h' o0∧Rd W' u (fewS f)):=by
 refine aA (args:=[v]) follows F.cK E.cK (Nat.le_of_ble_eq_true (by kernel_rfl)) fun K hK=>?_
 dsimp only [L.cK]
 refine aa fun z hz=>?_
 simp
 refine ez rfl (hv.mono w0.wle) fun h1 hp1 hle1 hs1 _=>?_
 have w1:=w0.ext hle1
 have hW1:=aW (h':=h1) w0.wle
 have hat:At (grow W h h1) ⟨h.size,0,none⟩ f:=mL (t:=T.aE) (fz:=(0,0)) (by rw [cN (Nat.le_refl _),hp1];simp) (hv.mono hW1)
 generalize grow W h h1=V1 at w1 hW1 hat
 obtain ⟨cp,vb,cb⟩:=gL hat
 generalize h.size=B at cp cb
 have cpr:=(hat.part ak.sV).rng
 have nb:=cb.2.bound
 refine w1.jA (k:=(5,0)) (n:=1) (z:=.agg #[.int .i64 0,.slice none 0 0]) (ho0 _ (by decide)) (by kernel_rfl) rfl (by decide) (by simp [Value.cells,Value.oneCell']) fun h2 q2 w2=>?_
 generalize h1.size=R at w2
 have w2:Owns V1 h2 (cT { r:=R,o:=o0,rl:=[.int .i64 0,.slice none 0 0] }):=w2.congr fun q=>by
  unfold cT Own.upd
  repeat' split
  all_goals first | rfl | simp_all
 rw [hz];clear hz z
 refine aa fun z hz=>?_
 simp [ah w2.wle cp]
 refine aN (z:=.agg #[.int .i64 0,.slice none 0 0]) (places:=[(0,1),(1,1)]) (vs:=[(0,.int .i64 f.params)]) (cs:=#[.int .i64 f.params,.slice none 0 0]) (by kernel_rfl) (by kernel_rfl) (by simp) (by rfl) ?_
 refine w2.iJ (k:=(0,0)) (n:=1) (l:=[.int .i64 f.params,.slice none 0 0]) rfl (z:=.agg #[.int .i64 0,.slice none 0 0]) (by kernel_rfl) rfl (by kernel_rfl) rfl (by decide) (by simp [Value.oneCell']) (fun _=>by simp) (fun _=>by simp) fun h3 q3 w3=>?_
 generalize h2.size=D at w3
 have w3:=w3.congr fun q=>E4 _ q
 have w3:=(w3.add (k:=(0,1)) rfl (OwnT.nil (α:=BlkD) _ h3 T.al) (View.le_refl _) (fun b hb=>by simp [Value.ownBlock] at hb)).congr fun q=>DC _ q
 rw [hz];clear hz z
 refine aa fun z hz=>?_
 simp
 obtain ⟨n,hn⟩ : ∃ n:Nat,n=min f.blocks.length 9:=⟨_,rfl⟩
 have hn1 : ∀ k:Nat,(decide (k<f.blocks.length)&&decide ((k:Int)<9))=decide (k<n):=fun k=>by rw [Bool.eq_iff_iff];simp only [Bool.and_eq_true,decide_eq_true_eq];omega
 refine jN [1,2,3,4] (fun (_:Unit) k=>[.pointer (some ⟨B,0,none⟩),.pointer (some ⟨R,0,none⟩),.pointer (some ⟨D,0,none⟩),.int .i64 k])
  (fun _ k h4=>∃ W vo,V1.le W∧vo.oneCell'=true∧Owns W h4 (cT { r:=R,o:=o0,rl:=[.int .i64 0,.slice none 0 0],out:=some (D,[.int .i64 f.params,vo]),outL:=some (vo,(f.blocks.take k).map fewB) })) n ()
  rfl (by omega) rfl ⟨V1,.slice none 0 0,View.le_refl _,rfl,w3⟩ (fun _ _=>rfl) (fun v k h4 hk ⟨W,vo,q1,_,q2⟩=>by simp [ah (View.le_trans q1 q2.wle) cb.1,(cb.2.mono (View.le_trans q1 q2.wle)).len,hn1]) ?_ ?_
 ·rintro _ k h4 hltk ⟨W4,vo,hW4,hvo,w4⟩ K2 hK2
  have hkl:k<f.blocks.length:=by omega
  have cb4:=cb.2.mono hW4
  have cc4:=ah hW4 cb.1
  obtain ⟨ux,hux,huxr⟩:=cb4.wh rfl (N:=6) rfl hkl
  have htk:=kM (f:=fewB) hkl
  generalize nth f.blocks k=x at huxr htk
  have hlo:((f.blocks.take k).map fewB).length≤9:=by simp;omega
  generalize (f.blocks.take k).map fewB=out at w4 htk hlo
  refine aa fun y hy=>?_
  simp (disch:=omega) [ah w4.wle cc4,(cb4.mono w4.wle).idxn (N:=6) rfl,hux _ w4.wle]
  refine dU (X:=W4) (z:=.agg #[.slice none 0 0,.slice none 0 0,.int .i64 0,.slice none 0 0,.slice none 0 0,.int .i32 0]) (by kernel_rfl) rfl (by kernel_rfl) huxr (fun _=>by simp) (fun _=>by simp) fun h5 hle5 hs5 hat5=>?_
  have w5:=w4.ext hle5
  have hat5:=hat5 (grow W4 h4 h5) (aW w4.wle) (cN (Nat.le_refl _))
  have hW5:=View.le_trans hW4 (aW (h':=h5) w4.wle)
  generalize grow W4 h4 h5=W5 at w5 hat5 hW5
  generalize h4.size=D5 at hat5
  obtain ⟨vp,vi,va,vt,bp,bi,bk,ba,bt⟩:=kh hat5
  have hterm:=hat5.part BlkD.pU
  obtain ⟨uT,huT,huTr⟩:=hterm.an rfl
  obtain ⟨va',vt',rfl,ta,tt⟩:=tf huTr
  have tk:=(hterm.part dk.we).rng
  have ti:-2147483648≤x.term.imm.v∧x.term.imm.v≤2147483647:=by
   obtain ⟨cs,_,c1,r1,_,_,c2,r2,_,_,c3,r3,_,_,_,h6⟩:=hterm
   exact h6
  have huT:Un.ev W5 (.an 4) (.pointer (some ⟨D5,2,none⟩))=some (.agg #[.int .i64 x.term.kind,va',vt',.int .i32 x.term.imm.v]):=by
   have h2:Un.ev W5 (.an 4) (.pointer (some ((⟨D5,0,none⟩:Addr).add 2)))=_:=huT
   rwa [yh] at h2
  have huT6:Un.ev (vw h5) (.an 4) (.pointer (some ⟨D5,2,none⟩))=some (.agg #[.int .i64 x.term.kind,va',vt',.int .i32 x.term.imm.v]):=by
   have:=ck (ρ:=fun _=>none) (e:=.un (.an 4) (.con (.pointer (some ⟨D5,2,none⟩)))) w5.wle (by simpa using huT)
   simpa using this
  rw [hy];clear hy y
  refine aa fun y hy=>?_
  simp [huT6]
  refine aN (z:=.agg #[.slice none 0 0,.slice none 0 0,.int .i64 0,.slice none 0 0,.slice none 0 0,.int .i32 0]) (places:=[(0,1),(1,1),(2,4)]) (vs:=[(2,.agg #[.int .i64 x.term.kind,va',vt',.int .i32 x.term.imm.v])]) (cs:=#[.slice none 0 0,.slice none 0 0,.int .i64 x.term.kind,va',vt',.int .i32 x.term.imm.v]) (by kernel_rfl) (by kernel_rfl) (by simp) (by rfl) ?_
  refine w5.iJ (k:=(1,0)) (n:=5) (l:=[.slice none 0 0,.slice none 0 0,.int .i64 x.term.kind,va',vt',.int .i32 x.term.imm.v]) rfl (z:=.agg #[.slice none 0 0,.slice none 0 0,.int .i64 0,.slice none 0 0,.slice none 0 0,.int .i32 0]) (by kernel_rfl) rfl (by kernel_rfl) rfl (by decide) (by intro c hc;simp only [List.mem_cons,List.not_mem_nil,or_false] at hc;rcases hc with rfl | rfl | rfl | rfl | rfl | rfl<;>first | rfl | exact ta.cells.2 | exact tt.cells.2) (fun _=>by simp) (fun _=>by simp) fun h6 q6 w6=>?_
  generalize h5.size=D6 at w6
  have w6:=w6.congr fun q=>BG _ q
  have w6:=(w6.add (k:=(1,1)) rfl (OwnT.nil (α:=PhiD) _ h6 T.cm) (View.le_refl _) (fun b hb=>by simp [Value.ownBlock] at hb)).congr fun q=>EZ _ q
  have w6:=(w6.add (k:=(1,2)) rfl (OwnT.nil (α:=InsD) _ h6 T.aX) (View.le_refl _) (fun b hb=>by simp [Value.ownBlock] at hb)).congr fun q=>EJ _ q
  rw [hy];clear hy y
  refine aa fun y hy=>?_
  simp
  obtain ⟨S,hS⟩ : ∃ S:Few,S={ r:=R,o:=o0,rl:=[.int .i64 0,.slice none 0 0],out:=some (D,[.int .i64 f.params,vo]),outL:=some (vo,out) }:=⟨_,rfl⟩
  have w6:Owns W5 h6 (cT { S with y:=some (D6,[.slice none 0 0,.slice none 0 0,.int .i64 x.term.kind,va',vt',.int .i32 x.term.imm.v]),yP:=some (.slice none 0 0,(x.phis.take 0).map fewP),yI:=some (.slice none 0 0,[]) }):=by rw [hS];exact w6
  clear w5 w4
  have np:=bp.2.bound
  obtain ⟨n6,hn6⟩ : ∃ n6:Nat,n6=min x.phis.length 8:=⟨_,rfl⟩
  have hc6 : ∀ k:Nat,(decide (k<x.phis.length)&&decide ((k:Int)<8))=decide (k<n6):=fun k=>by rw [Bool.eq_iff_iff];simp only [Bool.and_eq_true,decide_eq_true_eq];omega
  refine jN [1,2,3,4,5,6,7] (fun (_:Unit) j=>[.pointer (some ⟨B,0,none⟩),.pointer (some ⟨R,0,none⟩),.pointer (some ⟨D,0,none⟩),.int .i64 k,.pointer (some ⟨D5,0,none⟩),.pointer (some ⟨D6,0,none⟩),.int .i64 j])
   (fun _ j h7=>∃ W vq,W5.le W∧vq.oneCell'=true∧Owns W h7 (cT { S with y:=some (D6,[vq,.slice none 0 0,.int .i64 x.term.kind,va',vt',.int .i32 x.term.imm.v]),yP:=some (vq,(x.phis.take j).map fewP),yI:=some (.slice none 0 0,[]) })) n6 ()
   rfl (by omega) rfl ⟨W5,.slice none 0 0,View.le_refl _,rfl,w6⟩ (fun _ _=>rfl) (fun v k h7 hk ⟨W,vo,q1,_,q2⟩=>by simp [ah (View.le_trans q1 q2.wle) bp.1,(bp.2.mono (View.le_trans q1 q2.wle)).len,hc6]) ?_ ?_
  ·rintro _ j h7 hltj ⟨W7,vq,hW7,hvq,w7⟩ K3 hK3
   have hjl:j<x.phis.length:=by omega
   have bp7:=bp.2.mono hW7
   have bc7:=ah hW7 bp.1
   obtain ⟨ux,hux,huxr⟩:=bp7.wh rfl (N:=2) rfl hjl
   have htk:=kM (f:=fewP) hjl
   have hl7:((x.phis.take j).map fewP).length≤8:=by simp;omega
   generalize nth x.phis j=p at huxr htk
   generalize (x.phis.take j).map fewP=outp at w7 htk hl7
   refine aa fun q hq=>?_
   simp (disch:=omega) [ah w7.wle bc7,(bp7.mono w7.wle).idxn (N:=2) rfl,hux _ w7.wle]
   obtain ⟨vin,rfl,hd,h3⟩:=Ap huxr
   refine w7.iJ (k:=(2,0)) (n:=1) (l:=[.int .i64 p.dst,vin]) rfl (z:=.agg #[.int .i64 0,.slice none 0 0]) (by kernel_rfl) rfl (by kernel_rfl) rfl (by decide) (by intro c hc;simp only [List.mem_cons,List.not_mem_nil,or_false] at hc;rcases hc with rfl | rfl<;>first | rfl | exact h3.cells.2) (fun _=>by simp) (fun _=>by simp) fun h8 q8 w8=>?_
   generalize h7.size=D8 at w8
   rw [hq];clear hq q
   refine aa fun q hq=>?_
   simp
   refine w8.cr (k:=(2,1)) (α:=InD) rfl El.cw fun v9 h9 hle9 hv9 w9 av9=>?_
   have c9:=w9.raw (k:=(2,0)) (e:=T.cm) (B:=D8) (l:=[.int .i64 p.dst,vin]) (n:=1) rfl (i:=1) (by decide)
   obtain ⟨uf,huf,hufr⟩:=iB h3 6 6 rfl
   simp [c9,h3.len,huf]
   refine w9.oI (k:=(2,1)) (α:=InD) (v:=v9) (u:=uf) (l2:=p.ins.take 6) rfl El.cw (by simp) (by simp) hufr (by simp;omega) fun v10 h10 W10 w10 hW10 s10 _=>?_
   have hv10:=s10.cells.2
   refine w10.bn (k:=(2,0)) (n:=1) (i:=1) (e:=T.cm) (B:=D8) (l:=[.int .i64 p.dst,vin]) rfl (by decide) (by kernel_rfl) rfl rfl hv10 fun h11 w11 _=>?_
   have w11:=w11.congr (o':=(cT { S with y:=some (D6,[vq,.slice none 0 0,.int .i64 x.term.kind,va',vt',.int .i32 x.term.imm.v]),yP:=some (vq,outp),yI:=some (.slice none 0 0,[]) }).upd (2,0) (bx T.cm D8 (RawN.mk (n:=1) [.int .i64 p.dst,v10]))) fun q=>by
    unfold Own.upd;split<;>rfl
   rw [hq];clear hq q
   have c11:=w11.raw (k:=(1,0)) (e:=T.al) (B:=D6) (l:=[vq,.slice none 0 0,.int .i64 x.term.kind,va',vt',.int .i32 x.term.imm.v]) (n:=5) rfl (i:=0) (by decide)
   have c12:=w11.dE (k:=(2,0)) (e:=T.cm) (B:=D8) (l:=[.int .i64 p.dst,v10]) (n:=1) rfl
   simp [c11,c12]
   refine w11.dK (k:=(1,1)) (α:=PhiD) (d:=fewP p) rfl El.gq rfl (rX hd s10) (by simp;omega) (by simp;omega) (fun _=>rfl) (fun _=>rfl) fun u13 v13 h13 w13 _=>?_
   have hv13:=(w13.cells (k:=(1,1)) Own.ag).2
   refine w13.bn (k:=(1,0)) (n:=5) (i:=0) (e:=T.al) (B:=D6) (l:=[vq,.slice none 0 0,.int .i64 x.term.kind,va',vt',.int .i32 x.term.imm.v]) rfl (by decide) (by kernel_rfl) rfl rfl hv13 fun h14 w14 _=>?_
   exact hK3 () _ _ rfl rfl ⟨W10,v13,View.le_trans hW7 hW10,hv13,by rw [htk];exact Fk w14⟩
  ·rintro _ h7 ⟨W7,vq,hW7,hvq,w7⟩
   simp
   rw [hy];clear hy y
   refine aa fun y hy=>?_
   simp
   have hlP:((x.phis.take n6).map fewP)=(x.phis.take 8).map fewP:=by rw [hn6,jE]
   rw [hlP] at w7
   generalize hPs:(x.phis.take 8).map fewP=ps at w7
   clear hlP
   have bi7:=bi.2.mono hW7
   have w7:Owns W7 h7 (cT { S with y:=some (D6,[vq,.slice none 0 0,.int .i64 x.term.kind,va',vt',.int .i32 x.term.imm.v]),yP:=some (vq,ps),yI:=some (.slice none 0 0,(x.ins.take 0).map fewI) }):=w7
   have ni:=bi.2.bound
   obtain ⟨n8,hn8⟩ : ∃ n8:Nat,n8=min x.ins.length 40:=⟨_,rfl⟩
   have hc8 : ∀ k:Nat,(decide (k<x.ins.length)&&decide ((k:Int)<40))=decide (k<n8):=fun k=>by rw [Bool.eq_iff_iff];simp only [Bool.and_eq_true,decide_eq_true_eq];omega
   refine jN [1,2,3,4,5,6,9] (fun (_:Unit) j=>[.pointer (some ⟨B,0,none⟩),.pointer (some ⟨R,0,none⟩),.pointer (some ⟨D,0,none⟩),.int .i64 k,.pointer (some ⟨D5,0,none⟩),.pointer (some ⟨D6,0,none⟩),.int .i64 j])
    (fun _ j h8=>∃ W vr,W7.le W∧vr.oneCell'=true∧Owns W h8 (cT { S with y:=some (D6,[vq,vr,.int .i64 x.term.kind,va',vt',.int .i32 x.term.imm.v]),yP:=some (vq,ps),yI:=some (vr,(x.ins.take j).map fewI) })) n8 ()
    rfl (by omega) rfl ⟨W7,.slice none 0 0,View.le_refl _,rfl,w7⟩ (fun _ _=>rfl) (fun v k h8 hk ⟨W,vo,q1,_,q2⟩=>by simp [ah (View.le_trans hW7 (View.le_trans q1 q2.wle)) bi.1,(bi.2.mono (View.le_trans hW7 (View.le_trans q1 q2.wle))).len,hc8]) ?_ ?_
   ·rintro _ j h8 hltj ⟨W8,vr,hW8,hvr,w8⟩ K3 hK3
    have hjl:j<x.ins.length:=by omega
    have bp8:=bi7.mono hW8
    have bc8:=ah (View.le_trans hW7 hW8) bi.1
    obtain ⟨ux,hux,huxr⟩:=bp8.wh rfl (N:=5) rfl hjl
    have htk:=kM (f:=fewI) hjl
    have hl8:((x.ins.take j).map fewI).length≤40:=by simp;omega
    generalize nth x.ins j=p at huxr htk
    generalize (x.ins.take j).map fewI=outi at w8 htk hl8
    refine aa fun q hq=>?_
    simp (disch:=omega) [ah w8.wle bc8,(bp8.mono w8.wle).idxn (N:=5) rfl,hux _ w8.wle]
    obtain ⟨vin,rfl,hd,h3⟩:=qV huxr
    refine w8.iJ (k:=(2,0)) (n:=4) (l:=[.int .i64 p.op,.int .i64 p.dst,.int .i64 p.two,vin,.int .i32 p.imm.v]) rfl (z:=.agg #[.int .i64 0,.int .i64 0,.int .i64 0,.slice none 0 0,.int .i32 0]) (by kernel_rfl) rfl (by kernel_rfl) rfl (by decide) (by intro c hc;simp only [List.mem_cons,List.not_mem_nil,or_false] at hc;rcases hc with rfl | rfl | rfl | rfl | rfl<;>first | rfl | exact h3.cells.2) (fun _=>by simp) (fun _=>by simp) fun h9 q9 w9=>?_
    generalize h8.size=D8 at w9
    rw [hq];clear hq q
    refine aa fun q hq=>?_
    simp
    refine w9.cr (k:=(2,1)) (α:=Int) rfl El.aP fun v10 h10 hle10 hv10 w10 av10=>?_
    have c10:=w10.raw (k:=(2,0)) (e:=T.aX) (B:=D8) (l:=[.int .i64 p.op,.int .i64 p.dst,.int .i64 p.two,vin,.int .i32 p.imm.v]) (n:=4) rfl (i:=3) (by decide)
    obtain ⟨uf,huf,hufr⟩:=iB h3 6 6 rfl
    simp [c10,h3.len,huf]
    refine w10.oI (k:=(2,1)) (α:=Int) (v:=v10) (u:=uf) (l2:=p.args.take 6) rfl El.aP (by simp) (by simp) hufr (by simp;omega) fun v11 h11 W11 w11 hW11 s11 _=>?_
    have hv11:=s11.cells.2
    refine w11.bn (k:=(2,0)) (n:=4) (i:=3) (e:=T.aX) (B:=D8) (l:=[.int .i64 p.op,.int .i64 p.dst,.int .i64 p.two,vin,.int .i32 p.imm.v]) rfl (by decide) (by kernel_rfl) rfl rfl hv11 fun h12 w12 _=>?_
    have w12:=w12.congr (o':=(cT { S with y:=some (D6,[vq,vr,.int .i64 x.term.kind,va',vt',.int .i32 x.term.imm.v]),yP:=some (vq,ps),yI:=some (vr,outi) }).upd (2,0) (bx T.aX D8 (RawN.mk (n:=4) [.int .i64 p.op,.int .i64 p.dst,.int .i64 p.two,v11,.int .i32 p.imm.v]))) fun q=>by
     unfold Own.upd;split<;>rfl
    rw [hq];clear hq q
    have c12:=w12.raw (k:=(1,0)) (e:=T.al) (B:=D6) (l:=[vq,vr,.int .i64 x.term.kind,va',vt',.int .i32 x.term.imm.v]) (n:=5) rfl (i:=1) (by decide)
    have c13:=w12.dE (k:=(2,0)) (e:=T.aX) (B:=D8) (l:=[.int .i64 p.op,.int .i64 p.dst,.int .i64 p.two,v11,.int .i32 p.imm.v]) (n:=4) rfl
    simp [c12,c13]
    refine w12.dK (k:=(1,2)) (α:=InsD) (d:=fewI p) rfl El.ey rfl (ji hd s11) (by simp;omega) (by simp;omega) (fun _=>rfl) (fun _=>rfl) fun u13 v13 h13 w13 _=>?_
    have hv13:=(w13.cells (k:=(1,2)) Own.ag).2
    refine w13.bn (k:=(1,0)) (n:=5) (i:=1) (e:=T.al) (B:=D6) (l:=[vq,vr,.int .i64 x.term.kind,va',vt',.int .i32 x.term.imm.v]) rfl (by decide) (by kernel_rfl) rfl rfl hv13 fun h14 w14 _=>?_
    exact hK3 () _ _ rfl rfl ⟨W11,v13,View.le_trans hW8 hW11,hv13,by rw [htk];exact E7 w14⟩
   ·rintro _ h8 ⟨W8,vr,hW8,hvr,w8⟩
    simp
    rw [hy];clear hy y
    refine aa fun y hy=>?_
    have hlI:((x.ins.take n8).map fewI)=(x.ins.take 40).map fewI:=by rw [hn8,jE]
    rw [hlI] at w8
    generalize hIs:(x.ins.take 40).map fewI=is at w8
    simp
    refine w8.cr (k:=(2,1)) (α:=Int) rfl El.aP fun v9 h9 hle9 hv9 w9 av9=>?_
    have hW8':=View.le_trans hW7 hW8
    have ca:=ah (View.le_trans hW8' w9.wle) ba.1
    obtain ⟨uf,huf,hufr⟩:=iB (ba.2.mono hW8') 6 6 rfl
    simp [ca,ba.2.len,huf]
    refine w9.oI (k:=(2,1)) (α:=Int) (v:=v9) (u:=uf) (l2:=x.term.args.take 6) rfl El.aP (by simp) (by simp) hufr (by simp;omega) fun v10 h10 W10 w10 hW10 s10 _=>?_
    refine w10.bn (k:=(1,0)) (n:=5) (i:=3) (e:=T.al) (B:=D6) (l:=[vq,vr,.int .i64 x.term.kind,va',vt',.int .i32 x.term.imm.v]) rfl (by decide) (by kernel_rfl) rfl rfl s10.cells.2 fun h11 w11 _=>?_
    have w11:Owns W10 h11 (cT { S with y:=some (D6,[vq,vr,.int .i64 x.term.kind,v10,vt',.int .i32 x.term.imm.v]),yP:=some (vq,ps),yI:=some (vr,is) }):=w11.congr fun q=>BG { S with y:=some (D6,[vq,vr,.int .i64 x.term.kind,va',vt',.int .i32 x.term.imm.v]),yP:=some (vq,ps),yI:=some (vr,is) } q
    have hW10':=View.le_trans hW8' hW10
    rw [hy];clear hy y
    refine aa fun y hy=>?_
    simp
    refine w11.cr (k:=(2,1)) (α:=Int) rfl El.aP fun v12 h12 hle12 hv12 w12 av12=>?_
    have ct:=ah (View.le_trans hW10' w12.wle) bt.1
    obtain ⟨ug,hug,hugr⟩:=iB (bt.2.mono hW10') 70 70 rfl
    simp [ct,bt.2.len,hug]
    refine w12.oI (k:=(2,1)) (α:=Int) (v:=v12) (u:=ug) (l2:=x.term.to.take 70) rfl El.aP (by simp) (by simp) hugr (by simp;omega) fun v13 h13 W13 w13 hW13 s13 _=>?_
    refine w13.bn (k:=(1,0)) (n:=5) (i:=4) (e:=T.al) (B:=D6) (l:=[vq,vr,.int .i64 x.term.kind,v10,vt',.int .i32 x.term.imm.v]) rfl (by decide) (by kernel_rfl) rfl rfl s13.cells.2 fun h14 w14 _=>?_
    have w14:Owns W13 h14 (cT { S with y:=some (D6,[vq,vr,.int .i64 x.term.kind,v10,v13,.int .i32 x.term.imm.v]),yP:=some (vq,ps),yI:=some (vr,is) }):=w14.congr fun q=>BG { S with y:=some (D6,[vq,vr,.int .i64 x.term.kind,v10,vt',.int .i32 x.term.imm.v]),yP:=some (vq,ps),yI:=some (vr,is) } q
    rw [hy];clear hy y
    have av1:Av W13 vq:=w14.av (1,1) _ rfl
    obtain ⟨w15,sp⟩:=w14.freeze (k:=(1,1)) (v:=vq) (l:=ps) rfl
    have hW15:=di (h:=h14) av1
    have av2:Av (W13.plus vq h14) vr:=w15.av (1,2) _ rfl
    obtain ⟨w16,si⟩:=w15.freeze (k:=(1,2)) (v:=vr) (l:=is) rfl
    have hW16:=di (h:=h14) av2
    have sp:=sp.mono hW16
    have s10:=s10.mono (View.le_trans hW13 (View.le_trans hW15 hW16))
    have s13:=s13.mono (View.le_trans hW15 hW16)
    have hW16':=View.le_trans hW10' (View.le_trans hW13 (View.le_trans hW15 hW16))
    have w16:Owns ((W13.plus vq h14).plus vr h14) h14 (cT { S with y:=some (D6,[vq,vr,.int .i64 x.term.kind,v10,v13,.int .i32 x.term.imm.v]) }):=w16.congr fun q=>Ef (by rw [hS]) (by rw [hS]) q
    generalize (W13.plus vq h14).plus vr h14=W16 at w16 sp si s10 s13 hW16'
    clear w14 w15 w13 w12 w11 w10 w9 hW16 hW15 av1 av2
    have c1:ao (vw h14) ⟨D,1,none⟩=some vo:=w16.raw (k:=(0,0)) (e:=T.aE) (B:=D) (l:=[.int .i64 f.params,vo]) (n:=1) (by rw [hS];rfl) (i:=1) (by decide)
    have c2:=w16.dE (k:=(1,0)) (e:=T.al) (B:=D6) (l:=[vq,vr,.int .i64 x.term.kind,v10,v13,.int .i32 x.term.imm.v]) (n:=5) rfl
    simp [c1,c2]
    refine w16.dK (k:=(0,1)) (α:=BlkD) (v:=vo) (l:=out) (d:=fewB x) (by rw [hS];rfl) El.fu rfl (by rw [fewB,hPs,hIs];exact so sp si s10 s13 tk ti) (by omega) (by omega) (fun _=>rfl) (fun _=>rfl) fun u17 v17 h17 w17 _=>?_
    have hv17:=(w17.cells (k:=(0,1)) Own.ag).2
    refine w17.bn (k:=(0,0)) (n:=1) (i:=1) (e:=T.aE) (B:=D) (l:=[.int .i64 f.params,vo]) (by rw [hS];rfl) (by decide) (by kernel_rfl) rfl rfl hv17 fun h18 w18 _=>?_
    refine hK2 () _ _ rfl rfl ⟨W16,v17,View.le_trans hW5 hW16',hv17,by rw [htk,show o0=S.o by rw [hS],show R=S.r by rw [hS],show ([.int .i64 0,.slice none 0 0]:List Value)=S.rl by rw [hS]];exact Dq (by rw [hS]) (by rw [hS]) w18⟩
 ·rintro _ h4 ⟨W4,vo,hW4,hvo,w4⟩
  have hlP:((f.blocks.take n).map fewB)=(fewS f).blocks:=by rw [hn,jE];rfl
  rw [hlP] at w4
  simp
  rw [hz];clear hz z
  have c1:=w4.dE (k:=(0,0)) (e:=T.aE) (B:=D) (l:=[.int .i64 f.params,vo]) (n:=1) rfl
  simp [c1]
  refine w4.fG (k:=(5,0)) (e:=T.aE) (B:=R) (D:=RawN.mk (n:=1) [.int .i64 0,.slice none 0 0]) Part.all (d:=RawN.mk (n:=1) [.int .i64 f.params,vo]) rfl (by kernel_rfl) rfl rfl (eV rfl (by intro c hc;simp only [List.mem_cons,List.not_mem_nil,or_false] at hc;rcases hc with rfl | rfl<;>first | rfl | exact hvo)) fun h5 w5 _=>?_
  have c2:=w5.dE (k:=(5,0)) (e:=T.aE) (B:=R) (l:=[.int .i64 f.params,vo]) (n:=1) Own.ag
  simp [c2]
  have a6:=di (h:=h5) (w5.av (0,1) _ rfl)
  obtain ⟨w6,s6⟩:=w5.freeze (k:=(0,1)) (v:=vo) (l:=(fewS f).blocks) rfl
  refine hK _ _ ⟨_,View.le_trans hW1 (View.le_trans hW4 a6),w6.sub fun k i hk=>?_,_,rfl,[.int .i64 f.params],[vo],rfl,⟨rfl,cpr⟩,vo,rfl,s6⟩
  have hk10:¬k.1<10:=fun hlt=>by rw [ho0 k hlt] at hk;cases hk
  rw [Own.ab (by rintro rfl;exact hk10 (by decide)),Own.ab (by rintro rfl;exact hk10 (by decide)),Hv hk10]
  exact hk
end Go.Proofs.Ytfelpjfopgiabaa
namespace Go.Proofs.Ytfelpjfopgiabaa
open Go Go.Lft
abbrev RSt:=List Bool × List Int
def iy (wo:Int) (to:List Int) (k:Nat) (s:RSt):RSt:=
 if (0≤nth to k∧nth to k<s.1.length)∧nth s.1 (nth to k).toNat=false∧nth to k≠wo then (s.1.set (nth to k).toNat true,s.2++[nth to k]) else s
def sY (f:ak) (wo:Int) (i:Nat) (s:RSt):RSt:=up (iy wo (nth f.blocks (nth s.2 i).toNat).term.to) (nth f.blocks (nth s.2 i).toNat).term.to.length s
def rchS (f:ak) (wo:Int):Nat→Nat→RSt→RSt
 | 0,_,s=>s
 | n+1,i,s=>if i<s.2.length then rchS f wo n (i+1) (sY f wo i s) else s
def rch0 (f:ak) (wo:Int):RSt:=if wo≠0∧0<f.blocks.length then ((List.replicate f.blocks.length false).set 0 true,[0]) else (List.replicate f.blocks.length false,[])
def dF (f:ak) (wo:Int):List Bool:=(rchS f wo (f.blocks.length+1) 0 (rch0 f wo)).1
structure ROk (n:Nat) (s:RSt):Prop where
 len:s.1.length=n
 cnt:s.2.length+cL s.1≤n
 rng : ∀ x∈s.2,0≤x∧x<n
theorem xq {n:Nat} {wo:Int} {to:List Int} {k:Nat} {s:RSt} (h:ROk n s):ROk n (iy wo to k s):=by
 unfold iy
 split
 ·rename_i hc
  have hf:=gR (t:=s.1) (i:=(nth to k).toNat) (by omega) hc.2.1
  refine ⟨by simpa using h.len,?_,fun x hx=>?_⟩
  ·have:=h.cnt
   simp only [List.length_append,List.length_singleton];omega
  ·rcases List.mem_append.1 hx with hx | hx
   ·exact h.rng x hx
   ·rw [List.mem_singleton.1 hx,←h.len];exact hc.1
 ·exact h
theorem rW {n:Nat} {wo:Int} {to:List Int} {s:RSt} (h:ROk n s) (m:Nat):ROk n (up (iy wo to) m s):=pD (ROk n) (fun k x hx=>xq hx) m s h
theorem wz {f:ak} {wo:Int}:ROk f.blocks.length (rch0 f wo):=by
 unfold rch0
 have hfa:cL (List.replicate f.blocks.length false)=f.blocks.length:=by simp [cL]
 split
 ·rename_i hc
  have hf:=gR (t:=List.replicate f.blocks.length false) (i:=0) (by simpa using hc.2) (by rw [aq (by simpa using hc.2)];simp)
  exact ⟨by simp,by simp only [List.length_singleton];omega,fun x hx=>by rw [List.mem_singleton.1 hx];omega⟩
 ·exact ⟨by simp,by simp only [List.length_nil];omega,fun x hx=>by cases hx⟩
theorem Ac {f:ak} {wo:Int} : ∀ {m i:Nat} {s:RSt},ROk f.blocks.length s→ROk f.blocks.length (rchS f wo m i s)
 | 0,_,_,h=>h
 | m+1,i,s,h=>by
  rw [rchS]
  split
  ·exact Ac (rW h _)
  ·exact h
theorem oT {f:ak} {wo:Int}:(dF f wo).length=f.blocks.length:=(Ac wz).len
def og (vo vq:Value) (s:RSt):Own:=fun k=>if k=(0,0) then it T.bool vo s.1 else if k=(0,1) then it T.int vq s.2 else none
theorem rY {f:ak} {wo:Int} {v:Value} {h:Heap} (hv:Rd (vw h) v f) (hn:f.blocks.length≤1000000) :
  aI Try.prog N.cd #[v,.int .i64 wo] h (fun u h'=>(vw h).le (vw h')∧SlRd (fresh h h') u (dF f wo)):=by
 refine aA (args:=[v,.int .i64 wo]) follows F.cd E.cd (Nat.le_of_ble_eq_true (by kernel_rfl)) fun K hK=>?_
 dsimp only [L.cd]
 refine aa fun z hz=>?_
 simp
 refine ez rfl hv fun h1 _ hle1 hsz1 hat=>?_
 obtain ⟨_,vb,cb⟩:=gL hat
 generalize h.size=B at cb
 rw [hz];clear hz z
 refine aa fun z hz=>?_
 simp [cb.1,cb.2.len]
 refine ll (α:=Bool) (W:=vw h1) (k:=.i64) (n:=f.blocks.length) (d:=false) El.ly (by simp) (by simp) rfl (by omega) (by omega) fun vo h2 o2 m2 hle2 hb2=>?_
 have w2:=(Owns.start (h:=h1) (View.le_refl (vw h1))).add (k:=(0,0)) rfl o2 hle2 (fun b hb=>by rw [hb2] at hb;cases hb;exact Nat.le_refl _)
 rw [hz];clear hz z
 refine aa fun z hz=>?_
 simp
 refine qY (α:=Int) El.aP fun h3 hle3 hsz3 own3=>?_
 have w3:=w2.add (k:=(0,1)) rfl (own3 _) hle3 (fun b hb=>by simp only [Value.ownBlock,Option.some.injEq] at hb;omega)
 have w3:Owns (vw h1) h3 (og vo (.slice (some ⟨h2.size,0,none⟩) 0 0) (List.replicate f.blocks.length false,[])):=w3.congr fun q=>by
  unfold og Own.upd
  repeat' split
  all_goals first | rfl | simp_all
 generalize Value.slice (some ⟨h2.size,0,none⟩) 0 0=vq at w3
 rw [hz];clear hz z
 refine aa fun z hz=>?_
 have cc3:=ah w3.wle cb.1
 have cb3:=cb.2.mono w3.wle
 have fin : ∀ (h4:Heap) (vq:Value) (tl:Env),Owns (vw h1) h4 (og vo vq (rch0 f wo))→@LC.wp noPP Try.prog z (@dG [.tmp 4] K) ([(0,v),(1,.int .i64 wo),(2,.pointer (some ⟨B,0,none⟩)),(4,.slice none 0 0),(5,vo),(6,vq)]++tl) h4:=by
  intro h4 vq tl w4
  rw [hz];clear hz z
  refine aa fun z hz=>?_
  simp
  refine jd [1,2,5,6,7] (fun m ρ h5=>∃ (i:Nat) (s:RSt) (vq:Value),i≤f.blocks.length∧m=f.blocks.length+1-i∧ρ=[(1,.int .i64 wo),(2,.pointer (some ⟨B,0,none⟩)),(5,vo),(6,vq),(7,.int .i64 i)]∧Owns (vw h1) h5 (og vo vq s)∧ROk f.blocks.length s∧
   (rchS f wo m i s).1=dF f wo) (f.blocks.length+1) ⟨0,_,vq,by omega,rfl,by simp [bz,ae],w4,wz,rfl⟩ ?_
  rintro m ρ h5 ⟨i,s,vq5,hi,rfl,rfl,w5,hok,hfin⟩ K2 hK2
  have no:=w5.now (k:=(0,0)) (v:=vo) (l:=s.1) rfl
  have nq:=w5.now (k:=(0,1)) (v:=vq5) (l:=s.2) rfl
  have hcnt:=hok.cnt
  by_cases hlt:i<s.2.length
  ·have hm:f.blocks.length+1-i=(f.blocks.length-i)+1:=by omega
   rw [hm,rchS,if_pos hlt] at hfin
   obtain ⟨r0,r1⟩:=hok.rng _ (bU hlt)
   have cb5:=cb.2.mono w5.wle
   obtain ⟨w,hw⟩:=v7 cb5 (i:=(nth s.2 i).toNat) (by omega)
   obtain ⟨w',hw'⟩:=v7 cb.2 (i:=(nth s.2 i).toNat) (by omega)
   have eww:w'=w:=Option.some.inj ((ah w5.wle hw'.1).symm.trans hw.1)
   rw [eww] at hw'
   have hwb:=hw.2.bound
   have hrow:sY f wo i s=up (iy wo (nth f.blocks (nth s.2 i).toNat).term.to) (nth f.blocks (nth s.2 i).toNat).term.to.length s:=rfl
   rw [hrow] at hfin
   generalize hto:(nth f.blocks (nth s.2 i).toNat).term.to=to at hw hw' hwb hfin
   refine aa fun y hy=>?_
   simp (disch:=omega) [nq.len,hlt]
   rw [hy];clear hy y
   refine aa fun y hy=>?_
   refine aa fun x hx=>?_
   simp (disch:=omega) [ah w5.wle cb.1,cb5.idxn (N:=6) rfl,nq.idx1 rfl,nq.int (View.le_refl _),hw.1]
   rw [hx];clear hx x
   simp
   refine cy [1,2,5,6,7,8,9] (fun (q:Value) j=>[.int .i64 wo,.pointer (some ⟨B,0,none⟩),vo,q,.int .i64 i,w,.int .i64 j]) (fun q j h6=>Owns (vw h1) h6 (og vo q (up (iy wo to) j s))) to.length vq5
    rfl (by omega) rfl w5 (fun _ _=>rfl) (fun v j h4 hk m=>by simp [hw.2.len]) ?_ ?_
   ·rintro q j h6 hltj w6 K3 hK3
    have hst:up (iy wo to) (j+1) s=iy wo to j (up (iy wo to) j s):=rfl
    have hok6:=rW (wo:=wo) (to:=to) hok j
    generalize up (iy wo to) j s=s6 at w6 hst hok6
    have no6:=w6.now (k:=(0,0)) (v:=vo) (l:=s6.1) rfl
    have nq6:=w6.now (k:=(0,1)) (v:=q) (l:=s6.2) rfl
    have hcnt6:=hok6.cnt
    have hlen6:=hok6.len
    have hr6:=hw'.2.mono w6.wle
    have hrng:=hw'.2.range hltj
    rw [iy] at hst
    by_cases c1:0≤nth to j∧nth to j<s6.1.length
    ·have c1a:=c1.1
     have c1b:=c1.2
     cases c2:nth s6.1 (nth to j).toNat with
     | true=>
      rw [if_neg (by rw [c2];simp)] at hst
      simp (disch:=omega) [hr6.idx1 rfl,hr6.int (View.le_refl _),no6.len,no6.idx1 rfl,no6.bool (View.le_refl _),c1a,c1b,c2]
      exact hK3 q _ _ rfl rfl (by rw [hst];exact w6)
     | false=>
      by_cases c3:nth to j=wo
      ·rw [if_neg (by simp [c3])] at hst
       rw [c3] at c1a c1b c2
       simp (disch:=omega) [hr6.idx1 rfl,hr6.int (View.le_refl _),no6.len,no6.idx1 rfl,no6.bool (View.le_refl _),c1a,c1b,c2,c3]
       exact hK3 q _ _ rfl rfl (by rw [hst];exact w6)
      ·rw [if_pos ⟨c1,c2,c3⟩] at hst
       refine aa fun x hx=>?_
       simp (disch:=omega) [hr6.idx1 rfl,hr6.int (View.le_refl _),no6.len,no6.idx1 rfl,no6.bool (View.le_refl _),c1a,c1b,c2,c3]
       rw [hx];clear hx x
       simp (disch:=omega) [hr6.idx1 rfl,hr6.int (View.le_refl _),no6.idx1 rfl]
       refine w6.iQ (k:=(0,0)) (α:=Bool) (l:=s6.1) (v:=vo) (i:=(nth to j).toNat) (d:=true) rfl (by kernel_rfl) (by simp [show Rep.n Bool=1 from rfl]) (by simp<;>rfl) (by omega) FD fun h7 w7 hs7=>?_
       have hr7:=hw'.2.mono w7.wle
       simp (disch:=omega) [hr7.idx1 rfl,hr7.int (View.le_refl _)]
       refine w7.dK (k:=(0,1)) (α:=Int) (v:=q) (l:=s6.2) (d:=nth to j) rfl El.aP (by simp<;>rfl) (jy hrng.1 hrng.2) (by omega) (by omega) (fun _=>by simp) (fun _=>by simp) fun u q8 h8 w8 hs8=>?_
       refine hK3 q8 _ _ rfl rfl ?_
       rw [hst]
       refine w8.congr fun q=>?_
       unfold og Own.upd
       repeat' split
       all_goals first | rfl | simp_all
    ·rw [if_neg (fun e=>c1 e.1)] at hst
     by_cases c1a:0≤nth to j
     ·have c1b:¬nth to j<s6.1.length:=fun e=>c1 ⟨c1a,e⟩
      simp (disch:=omega) [hr6.idx1 rfl,hr6.int (View.le_refl _),no6.len,c1a,c1b]
      exact hK3 q _ _ rfl rfl (by rw [hst];exact w6)
     ·simp (disch:=omega) [hr6.idx1 rfl,hr6.int (View.le_refl _),no6.len,c1a]
      exact hK3 q _ _ rfl rfl (by rw [hst];exact w6)
   ·rintro q h6 w6
    simp
    rw [hy];clear hy y
    simp (disch:=omega)
    exact hK2 (f.blocks.length+1-(i+1)) _ _ (by omega) ⟨i+1,_,q,by omega,rfl,by simp [bz],w6,rW hok _,by rw [show f.blocks.length+1-(i+1)=f.blocks.length-i by omega];exact hfin⟩
  ·have hlt':¬(i:Int)<s.2.length:=by omega
   simp (disch:=omega) [L.cd.l1,nq.len,hlt]
   rw [hz];clear hz z
   simp
   have hs1:s.1=dF f wo:=by
    rw [←hfin]
    cases f.blocks.length+1-i with
    | zero=>rfl
    | succ m=>rw [rchS,if_neg hlt]
   have ow:=w5.get (k:=(0,0)) (v:=vo) (l:=s.1) rfl
   refine hK _ _ ⟨View.le_trans hle1 w5.wle,?_⟩
   rw [←hs1]
   have ow':OwnT nothing h5 T.bool vo s.1:=ow
   refine ow'.fresh (fun _ _ h=>by cases h) fun b hb=>?_
   rw [hb2] at hb;cases hb
   exact View.dd (View.le_refl _) (by omega)
 by_cases c1:wo=0
 ·have hr0:rch0 f wo=(List.replicate f.blocks.length false,[]):=by rw [rch0,if_neg (fun e=>e.1 c1)]
  rw [hr0] at fin
  simp [cc3,cb3.len,c1]
  rw [c1] at fin
  exact fin _ _ _ w3
 ·by_cases c2:0<f.blocks.length
  ·have hr0:rch0 f wo=((List.replicate f.blocks.length false).set 0 true,[0]):=by rw [rch0,if_pos ⟨c1,c2⟩]
   rw [hr0] at fin
   have no:=w3.now (k:=(0,0)) (v:=vo) (l:=List.replicate f.blocks.length false) rfl
   refine aa fun y hy=>?_
   simp (disch:=omega) [cc3,cb3.len,c1,c2]
   rw [hy];clear hy y
   have i0:Bn.ev (.idx 1) vo (.int .i64 0)=some (.pointer (some ((slA vo).add 0))):=no.idx1 rfl (by omega) (by simpa using c2)
   simp (disch:=omega) [i0]
   refine w3.iQ (k:=(0,0)) (α:=Bool) (l:=List.replicate f.blocks.length false) (v:=vo) (i:=0) (d:=true) rfl (by kernel_rfl) (by simp [show Rep.n Bool=1 from rfl]) (by simp<;>rfl) (by simpa using c2) FD fun h4 w4 hs4=>?_
   refine w4.dK (k:=(0,1)) (α:=Int) (v:=vq) (l:=[]) (d:=0) rfl El.aP (by simp<;>rfl) (jy (by omega) (by omega)) (by simp) (by simp) (fun _=>by simp) (fun _=>by simp) fun u q5 h5 w5 hs5=>?_
   refine fin _ _ _ (w5.congr fun q=>?_)
   unfold og Own.upd
   repeat' split
   all_goals first | rfl | simp_all
  ·have hr0:rch0 f wo=(List.replicate f.blocks.length false,[]):=by rw [rch0,if_neg (fun e=>c2 e.2)]
   rw [hr0] at fin
   simp [cc3,cb3.len,c1,c2]
   exact fin _ _ _ w3
end Go.Proofs.Ytfelpjfopgiabaa
namespace Go.Proofs.Ytfelpjfopgiabaa
open Go Go.Lft
instance:Rep Th:=Rep.via fun d=>Cat.mk d.blk (Cat.mk d.place (Cat.mk d.mks d.tks))
theorem Th.ET:Part Th Int 0 Th.blk (fun d x=>{ d with blk:=x }):=(Part.fst Part.all).via (fun _=>rfl) fun _ _=>rfl
theorem Th.G3:Part Th (List Int) 2 Th.mks (fun d x=>{ d with mks:=x }):=(Part.snd (Part.snd (Part.fst Part.all))).via (fun _=>rfl) fun _ _=>rfl
structure ThR where
 blk:Int
 place:Int
 mks:List Int
 tks:Raw
instance:Rep ThR:=Rep.via fun d=>Cat.mk d.blk (Cat.mk d.place (Cat.mk d.mks d.tks))
theorem ThR.EW:Part ThR Raw 3 ThR.tks (fun d x=>{ d with tks:=x }):=(Part.snd (Part.snd (Part.snd Part.all))).via (fun _=>rfl) fun _ _=>rfl
theorem BW {H:View} {a b:Int} {u q:Value} {m t:List Int} (ha:I64 a) (hb:I64 b) (hm:SlRd H u m) (ht:SlRd H q t):Rd H (.agg #[.int .i64 a,.int .i64 b,u,q]) (Th.mk a b m t):=
 ⟨_,rfl,[.int .i64 a],[.int .i64 b,u,q],rfl,⟨rfl,ha⟩,[.int .i64 b],[u,q],rfl,⟨rfl,hb⟩,[u],[q],rfl,⟨u,rfl,hm⟩,⟨q,rfl,ht⟩⟩
theorem FU {H:View} {a b:Int} {u q:Value} {m:List Int} (ha:I64 a) (hb:I64 b) (hm:SlRd H u m) (hq:q.oneCell'=true):Rd H (.agg #[.int .i64 a,.int .i64 b,u,q]) (ThR.mk a b m ⟨q⟩):=
 ⟨_,rfl,[.int .i64 a],[.int .i64 b,u,q],rfl,⟨rfl,ha⟩,[.int .i64 b],[u,q],rfl,⟨rfl,hb⟩,[u],[q],rfl,⟨u,rfl,hm⟩,⟨rfl,hq⟩⟩
theorem AL {H:View} {cs:List Value} {d:ThR} (h:Rep.rd H cs d) : ∃ u,cs=[.int .i64 d.blk,.int .i64 d.place,u,d.tks.v]∧I64 d.blk∧I64 d.place∧SlRd H u d.mks:=by
 obtain ⟨c1,r1,rfl,⟨rfl,h1⟩,c2,r2,rfl,⟨rfl,h2⟩,c3,r3,rfl,⟨u,rfl,h3⟩,rfl,_⟩:=h
 exact ⟨u,rfl,h1,h2,h3⟩
def mm (vo:Value) (l:List Th):Own:=fun k=>if k=(0,0) then it T.dZ vo l else none
def qX (vo:Value) (l:List Th) (D:Nat) (d:ThR) (q:Value) (t:List Int):Own:=fun k=>if k=(0,0) then it T.dZ vo l else if k=(1,0) then bx T.dZ D d else if k=(1,1) then it T.int q t else none
structure ThS (V:View) (h0:Heap) (vo:Value) (l:List Th) (W:View) (h:Heap):Prop where
 own:Owns W h (mm vo l)
 old:Old V h0 W
 le:(vw h0).le (vw h)
 av:Av (vw h0) vo
theorem ThS.ext {V:View} {h0:Heap} {vo:Value} {l:List Th} {W:View} {h h':Heap} (k:ThS V h0 vo l W h) (hle:(vw h).le (vw h')):ThS V h0 vo l (grow W h h') h':=
 ⟨k.own.ext hle,k.old.grow (dp k.le),View.le_trans k.le hle,k.av⟩
theorem Cs {po:OP} {ty:TypeId} {us:List (Nat × Value)} {h:Heap} {K:Value→Heap→Prop} {x y z w:Operand} {a b:Int} {u q:Value} (hx:asg us x = .int .i64 a) (hy:asg us y = .int .i64 b) (hz:asg us z=u) (hw:asg us w=q) (hu:u.cells = #[u]) (hq:q.cells = #[q]) (hk:K (.agg #[.int .i64 a,.int .i64 b,u,q]) h) :
  Lft.step Try.prog (.build T.dZ #[(0,x),(1,y),(2,z),(3,w)]) ty us h K:=
 aN (z:=.agg #[.int .i64 0,.int .i64 0,.slice none 0 0,.slice none 0 0]) (places:=[(0,1),(1,1),(2,1),(3,1)]) (vs:=[(0,.int .i64 a),(1,.int .i64 b),(2,u),(3,q)]) (cs:=#[.int .i64 a,.int .i64 b,u,q]) (by kernel_rfl) (by kernel_rfl) (by simp [hx,hy,hz,hw])
  (by simp [Instr.fill,hu,hq]) hk
theorem Bj {po:OP} {ty:TypeId} {us:List (Nat × Value)} {h:Heap} {K:Value→Heap→Prop} {x y z:Operand} {a b:Int} {u:Value} (hx:asg us x = .int .i64 a) (hy:asg us y = .int .i64 b) (hz:asg us z=u) (hu:u.cells = #[u]) (hk:K (.agg #[.int .i64 a,.int .i64 b,u,.slice none 0 0]) h) :
  Lft.step Try.prog (.build T.dZ #[(0,x),(1,y),(2,z)]) ty us h K:=
 aN (z:=.agg #[.int .i64 0,.int .i64 0,.slice none 0 0,.slice none 0 0]) (places:=[(0,1),(1,1),(2,1),(3,1)]) (vs:=[(0,.int .i64 a),(1,.int .i64 b),(2,u)]) (cs:=#[.int .i64 a,.int .i64 b,u,.slice none 0 0]) (by kernel_rfl) (by kernel_rfl) (by simp [hx,hy,hz])
  (by simp [Instr.fill,hu]) hk
theorem Ax {po:OP} {ty:TypeId} {us:List (Nat × Value)} {h:Heap} {K:Value→Heap→Prop} {x y w:Operand} {a b:Int} {q:Value} (hx:asg us x = .int .i64 a) (hy:asg us y = .int .i64 b) (hw:asg us w=q) (hq:q.cells = #[q]) (hk:K (.agg #[.int .i64 a,.int .i64 b,.slice none 0 0,q]) h) :
  Lft.step Try.prog (.build T.dZ #[(0,x),(1,y),(3,w)]) ty us h K:=
 aN (z:=.agg #[.int .i64 0,.int .i64 0,.slice none 0 0,.slice none 0 0]) (places:=[(0,1),(1,1),(2,1),(3,1)]) (vs:=[(0,.int .i64 a),(1,.int .i64 b),(3,q)]) (cs:=#[.int .i64 a,.int .i64 b,.slice none 0 0,q]) (by kernel_rfl) (by kernel_rfl) (by simp [hx,hy,hw])
  (by simp [Instr.fill,hq]) hk
theorem vh {f:ak} {v:Value} {V:View} {h:Heap} (hv:Rd V v f) (hV:V.le (vw h)) (hsm:SmF f) :
  aI Try.prog N.bQ #[v] h (fun u h'=>(vw h).le (vw h')∧SlRd (grow V h h') u (ar f)):=by
 refine aA (args:=[v]) follows F.bQ E.bQ (Nat.le_of_ble_eq_true (by kernel_rfl)) fun K hK=>?_
 have hn:=hsm.len
 dsimp only [L.bQ]
 refine aa fun z hz=>?_
 simp
 refine jU (v:=v) rfl ?_
 have hle1:=bJ h (.cells v.cells T.aE)
 have hat1:At (grow V h (h.push (.cells v.cells T.aE))) ⟨h.size,0,none⟩ f:=mL (t:=T.aE) (fz:=(0,0)) (by rw [cN (Nat.le_refl _)];simp) (hv.mono (aW hV))
 have hs1:(h.push (.cells v.cells T.aE)).size=h.size+1:=by simp
 generalize h.push (.cells v.cells T.aE)=h1 at hle1 hat1 hs1
 have hW1:(grow V h h1).le (vw h1):=ju (View.le_trans hV hle1)
 have old1:Old V h (grow V h h1):=(Old.refl V h).grow (Nat.le_refl _)
 obtain ⟨_,vb,cb⟩:=gL hat1
 generalize grow V h h1=W1 at cb hW1 old1
 generalize h.size=B at cb
 rw [hz];clear hz z
 refine aa fun z hz=>?_
 simp
 refine qY (α:=Th) El.fN fun h2 hle2 hsz2 own2=>?_
 have t2:ThS V h (.slice (some ⟨h1.size,0,none⟩) 0 0) [] W1 h2:=⟨((Owns.start hW1).add (k:=(0,0)) rfl (own2 _) hle2 (fun b hb=>by simp only [Value.ownBlock,Option.some.injEq] at hb;omega)).congr fun q=>by
   unfold mm Own.upd
   repeat' split
   all_goals first | rfl | simp_all,old1,View.le_trans hle1 hle2,fun b hb=>by cases hb;exact View.dd (View.le_refl _) (by show h.size≤h1.size;omega)⟩
 generalize Value.slice (some ⟨h1.size,0,none⟩) 0 0=v0 at t2
 rw [hz];clear hz z
 refine aa fun z hz=>?_
 simp
 refine cy [1,3,4] (fun (r:Value) b=>[.pointer (some ⟨B,0,none⟩),r,.int .i64 b]) (fun r b h3=>∃ W,W1.le W∧ThS V h r (thTo f b) W h3) f.blocks.length v0
  rfl (by omega) rfl ⟨W1,View.le_refl _,t2⟩ (fun _ _=>rfl) (fun v k h3 hk ⟨W,q1,q2⟩=>by simp [ah (View.le_trans q1 q2.own.wle) cb.1,(cb.2.mono (View.le_trans q1 q2.own.wle)).len]) ?_ ?_
 ·rintro r b h3 hltb ⟨W3,hW3,t3⟩ K2 hK2
  have hl3:=rT hsm (n:=b) (by omega)
  have cb3:=cb.2.mono (View.le_trans hW3 t3.own.wle)
  have cc3:=ah (View.le_trans hW3 t3.own.wle) cb.1
  obtain ⟨u,hu,hur⟩:=(cb.2.mono hW3).wh rfl (N:=6) rfl hltb
  have sb:=hsm.blk b hltb
  refine aa fun y hy=>?_
  simp (disch:=omega) [cc3,cb3.idxn (N:=6) rfl,hu _ t3.own.wle]
  refine dU (X:=W3) (z:=.agg #[.slice none 0 0,.slice none 0 0,.int .i64 0,.slice none 0 0,.slice none 0 0,.int .i32 0]) (by kernel_rfl) rfl (by kernel_rfl) hur (fun _=>by simp) (fun _=>by simp) fun h4 hle4 hsz4 hat4=>?_
  have t4:=t3.ext hle4
  have hat4':=hat4 (grow W3 h3 h4) (aW t3.own.wle) (cN (Nat.le_refl _))
  obtain ⟨vp,vi,va,vt,bp,bi,bk,ba,bt⟩:=kh hat4'
  have hW4:=View.le_trans hW3 (aW (h':=h4) t3.own.wle)
  generalize grow W3 h3 h4=W4 at t4 bp bi bk ba bt hW4
  generalize h3.size=D at bp bi bk ba bt
  rw [hy];clear hy y
  refine aa fun y hy=>?_
  simp
  have sp:=sb.phis
  refine cy [1,3,4,5,6] (fun (r:Value) i=>[.pointer (some ⟨B,0,none⟩),r,.int .i64 b,.pointer (some ⟨D,0,none⟩),.int .i64 i]) (fun r i h5=>∃ W,W4.le W∧ThS V h r (thTo f b++rows (phiT f b) i) W h5) (nth f.blocks b).phis.length r
   rfl (by omega) rfl ⟨W4,View.le_refl _,by simpa using t4⟩ (fun _ _=>rfl) (fun v k h3 hk ⟨W,q1,q2⟩=>by simp [ah (View.le_trans q1 q2.own.wle) bp.1,(bp.2.mono (View.le_trans q1 q2.own.wle)).len]) ?_ ?_
  ·rintro r i h5 hlti ⟨W5,hW5,t5⟩ K3 hK3
   have bp5:=bp.2.mono hW5
   have bph:=bp5.mono t5.own.wle
   have cph:=ah (View.le_trans hW5 t5.own.wle) bp.1
   have hap:=(bp5.at hlti)
   rw [←aq hlti] at hap
   have hdst:ao W5 (((slA vp).add (i*2)).add 0)=some (.int .i64 (nth (nth f.blocks b).phis i).dst):=(hap.part PhiD.jh).int
   have hdr:=(hap.part PhiD.jh).rng
   obtain ⟨vq,hvq⟩:=(hap.part PhiD.j0).sl
   have hvq1:ao W5 (((slA vp).add (i*2)).add 1)=some vq:=hvq.1
   have hvq2:=hvq.2
   have hpl:=sb.phi i hlti
   have hpt:phiT f b i=⟨b,-1-i,[(nth (nth f.blocks b).phis i).dst],(nth (nth f.blocks b).phis i).ins.map InD.val⟩:=rfl
   generalize nth (nth f.blocks b).phis i=x at hdst hdr hvq2 hpl hpt
   refine aa fun q hq=>?_
   simp (disch:=omega) [cph,bph.idxn (N:=2) rfl,ah t5.own.wle hdst]
   refine fP (X:=nothing) (ds:=[x.dst]) (vs:=[.int .i64 x.dst]) rfl El.aP (by simp) ⟨cC.2 ⟨rfl,hdr⟩,trivial⟩ a8 rfl (by omega) fun u6 h6 hle6 hsz6 hu6 hub6=>?_
   have hu6n:=hu6 (vw h6) a8 rfl
   refine Bj rfl rfl rfl hu6n.cells.1 ?_
   simp
   refine gM (n:=4) (v:=.agg #[.int .i64 b,.int .i64 (-1-i),u6,.slice none 0 0]) (z:=.agg #[.int .i64 0,.int .i64 0,.slice none 0 0,.slice none 0 0]) (by kernel_rfl) rfl (by kernel_rfl) rfl (by intro c hc;simp at hc;rcases hc with rfl | rfl | rfl | rfl<;>first | rfl | exact hu6n.cells.2) (fun _=>by simp) (fun _=>by simp) fun h7 hle7 hsz7 hb7=>?_
   have w6:=t5.own.ext hle6
   have w7:=(w6.add (k:=(1,0)) rfl (iq (h:=h7) (d:=ThR.mk b (-1-i) [x.dst] ⟨.slice none 0 0⟩) hb7 (FU ⟨by omega,by omega⟩ ⟨by omega,by omega⟩ (hu6 _ a8 (cN (Nat.le_refl _))) rfl) (by decide)) hle7 (fun b hb=>by simp only [Value.ownBlock,Option.some.injEq] at hb;omega)).add (k:=(1,1)) rfl (OwnT.nil (α:=Int) _ h7 T.int) (View.le_refl _) (fun b hb=>by simp [Value.ownBlock] at hb)
   have w7:Owns (grow W5 h5 h6) h7 (qX r (thTo f b++rows (phiT f b) i) h6.size (ThR.mk b (-1-i) [x.dst] ⟨.slice none 0 0⟩) (.slice none 0 0) []):=w7.congr fun q=>by
    unfold qX mm Own.upd
    repeat' split
    all_goals first | rfl | simp_all
   have hW7:=View.le_trans hW5 (aW (h':=h6) t5.own.wle)
   have old7:=t5.old.grow (h1:=h5) (h2:=h6) (dp t5.le)
   have hle07:=View.le_trans t5.le (View.le_trans hle6 hle7)
   have hvq7:=hvq2.mono (aW (h':=h6) t5.own.wle)
   have cvq7:=ah (aW (h':=h6) t5.own.wle) hvq1
   generalize grow W5 h5 h6=W7 at w7 hW7 old7 hvq7 cvq7
   have hD7:h.size≤h6.size:=Nat.le_trans (dp t5.le) (dp hle6)
   generalize h6.size=D7 at w7 hD7
   rw [hq];clear hq q
   refine aa fun q hq=>?_
   simp
   refine cy [1,3,4,5,6,7,8] (fun (q:Value) j=>[.pointer (some ⟨B,0,none⟩),r,.int .i64 b,.pointer (some ⟨D,0,none⟩),.int .i64 i,.pointer (some ⟨D7,0,none⟩),.int .i64 j])
    (fun q j h8=>Owns W7 h8 (qX r (thTo f b++rows (phiT f b) i) D7 (ThR.mk b (-1-i) [x.dst] ⟨q⟩) q ((x.ins.map InD.val).take j))∧(vw h).le (vw h8)∧Av (vw h) q) x.ins.length (.slice none 0 0)
    rfl (by omega) rfl ⟨w7,hle07,Av.nil _ _ _⟩ (fun _ _=>rfl) (fun v k h8 hk ⟨w8,q2⟩=>by
     have bp8:=(bp.2.mono hW7).mono w8.wle
     simp (disch:=omega) [ah (View.le_trans hW7 w8.wle) bp.1,bp8.idxn (N:=2) rfl,ah w8.wle cvq7,(hvq7.mono w8.wle).len]) ?_ ?_
   ·rintro q8 j h8 hltj ⟨w8,hle08,av8⟩ K4 hK4
    have bp8:=(bp.2.mono hW7).mono w8.wle
    have hv8:=hvq7.mono w8.wle
    have hai:=(hvq7.at hltj)
    rw [←aq hltj] at hai
    have hval:ao W7 (((slA vq).add (j*2)).add 1)=some (.int .i64 (nth x.ins j).val):=(hai.part InD.rE).int
    have hvr:=(hai.part InD.rE).rng
    have hl8:((x.ins.map InD.val).take j).length=j:=by simp;omega
    have htk:(x.ins.map InD.val).take (j+1)=(x.ins.map InD.val).take j++[(nth x.ins j).val]:=by
     rw [List.take_add_one,List.getElem?_map,List.getElem?_eq_getElem hltj,aq hltj];rfl
    have hq8:ao (vw h8) ⟨D7,3,none⟩=some q8:=by
     have:=((w8.at (k:=(1,0)) (e:=T.dZ) (B:=D7) (d:=ThR.mk b (-1-i) [x.dst] ⟨q8⟩) rfl).part ThR.EW).raw
     simpa using this
    refine cg (vw h8) (View.le_refl _) ?_
    simp (disch:=omega) [hq8,ah (View.le_trans hW7 w8.wle) bp.1,bp8.idxn (N:=2) rfl,ah w8.wle cvq7,hv8.idxn (N:=2) rfl,ah w8.wle hval]
    refine jI (α:=Int) (W:=W7) El.aP rfl (cC.2 ⟨rfl,hvr⟩) fun u9 h9 hs9 hle9 hsz9=>⟨hle9,?_⟩
    refine (w8.ext' hle9).bs (k:=(1,1)) (α:=Int) (v:=q8) (l:=(x.ins.map InD.val).take j) rfl El.aP rfl rfl hs9 (by simp;omega) (by simp;omega) fun q10 h10 w10 m10=>?_
    have hc10:=w10.cells (k:=(1,1)) (Own.ag)
    obtain ⟨hX10,av10⟩:=m10.view (View.le_trans hle08 hle9) av8
    refine w10.uE (k:=(1,0)) (e:=T.dZ) (B:=D7) (D:=ThR.mk b (-1-i) [x.dst] ⟨q8⟩) ThR.EW (d:=⟨q10⟩) rfl (by kernel_rfl) rfl rfl (kl.2 ⟨rfl,hc10.2⟩) fun h11 w11 hX11=>?_
    refine hK4 q10 _ _ rfl rfl ⟨w11.congr fun p=>?_,hX11 _ hX10 (View.dd (View.le_refl _) hD7),av10⟩
    rw [htk]
    unfold qX Own.upd
    repeat' split
    all_goals first | rfl | simp_all
   ·rintro q8 h8 ⟨w8,hle08,av8⟩
    rw [List.take_of_length_le (by simp)] at w8
    simp
    rw [hq];clear hq q
    obtain ⟨cs,hcs,hrd⟩:=w8.atW (k:=(1,0)) (e:=T.dZ) (B:=D7) (d:=ThR.mk b (-1-i) [x.dst] ⟨q8⟩) rfl
    obtain ⟨u9,rfl,i1,i2,hu9⟩:=AL hrd
    obtain ⟨w9,hq9⟩:=w8.freeze (k:=(1,1)) (v:=q8) (l:=x.ins.map InD.val) rfl
    have hpl9:W7.le (W7.plus q8 h8):=di (w8.av (1,1) _ rfl)
    have hload:Un.ev (vw h8) (.an 4) (.pointer (some ⟨D7,0,none⟩))=some (.agg #[.int .i64 b,.int .i64 (-1-i),u9,q8]):=by
     have:=fC hcs 4 0 #[] (by rfl)
     simp [Un.ev,vP,this]
    have hold9:Old V h (W7.plus q8 h8):=fun c o hc hco=>by
     unfold View.plus at hco
     split at hco
     ·rename_i e
      have:=av8 c e
      simp only [vw] at this
      rw [Array.getElem?_eq_getElem hc] at this;cases this
     ·exact old7 c o hc hco
    have w9:Owns (W7.plus q8 h8) h8 (mm r (thTo f b++rows (phiT f b) i)):=w9.sub fun p x hp=>by
     unfold mm at hp
     split at hp
     ·rename_i e;subst e;exact hp
     ·cases hp
    have hlr:(thTo f b++rows (phiT f b) i).length=(thTo f b).length+i:=by simp
    simp [hload]
    refine w9.sA (k:=(0,0)) (α:=Th) (v:=r) (l:=thTo f b++rows (phiT f b) i) (d:=phiT f b i) rfl El.fN rfl (by rw [hpt];exact BW i1 i2 (hu9.mono hpl9) hq9) (by omega) (by omega) (fun _=>rfl) (fun _=>rfl) fun u10 r10 h10 w10 hX10=>?_
    obtain ⟨g1,g2⟩:=hX10 _ hle08 t5.av
    refine hK3 r10 _ _ rfl rfl ⟨W7.plus q8 h8,View.le_trans hW7 hpl9,⟨w10.congr fun p=>?_,hold9,g1,g2⟩⟩
    rw [dz,←List.append_assoc]
    unfold mm Own.upd
    repeat' split
    all_goals first | rfl | simp_all
  ·rintro r h5 ⟨W5,hW5,t5⟩
   simp
   rw [hy];clear hy y
   refine aa fun y hy=>?_
   simp
   have si:=sb.ins
   refine cy [1,3,4,5,9] (fun (r:Value) i=>[.pointer (some ⟨B,0,none⟩),r,.int .i64 b,.pointer (some ⟨D,0,none⟩),.int .i64 i]) (fun r i h6=>∃ W,W4.le W∧ThS V h r (thTo f b++rows (phiT f b) (nth f.blocks b).phis.length++rows (insT f b) i) W h6) (nth f.blocks b).ins.length r
    rfl (by omega) rfl ⟨W5,hW5,by simpa using t5⟩ (fun _ _=>rfl) (fun v k h3 hk ⟨W,q1,q2⟩=>by simp [ah (View.le_trans q1 q2.own.wle) bi.1,(bi.2.mono (View.le_trans q1 q2.own.wle)).len]) ?_ ?_
   ·rintro r i h6 hlti ⟨W6,hW6,t6⟩ K3 hK3
    have bi6:=bi.2.mono hW6
    have bih:=bi6.mono t6.own.wle
    have cih:=ah (View.le_trans hW6 t6.own.wle) bi.1
    obtain ⟨ux,hux,huxr⟩:=bi6.wh rfl (N:=5) rfl hlti
    have hap:=(bi6.at hlti)
    rw [←aq hlti] at hap
    obtain ⟨vq,hvq⟩:=(hap.part InsD.mC).sl
    have hvq1:ao W6 (((slA vi).add (i*5)).add 3)=some vq:=hvq.1
    have hvq2:=hvq.2
    have hpt:insT f b i=⟨b,i,aU (nth (nth f.blocks b).ins i),(nth (nth f.blocks b).ins i).args⟩:=rfl
    generalize nth (nth f.blocks b).ins i=x at hvq2 huxr hpt
    have hlr:(thTo f b++rows (phiT f b) (nth f.blocks b).phis.length++rows (insT f b) i).length=(thTo f b).length+(nth f.blocks b).phis.length+i:=by simp;omega
    refine cg (vw h6) (View.le_refl _) ?_
    simp (disch:=omega) [cih,bih.idxn (N:=5) rfl,hux _ t6.own.wle,ah t6.own.wle hvq1]
    refine aj (by kernel_rfl) (mc (huxr.mono t6.own.wle)) ?_
    rintro u7 h7 ⟨hle7,hu7,_⟩
    refine ⟨hle7,?_⟩
    have t7:=t6.ext hle7
    have hu7':=hu7.mono (gP W6 h6 h7)
    have hvq7:=hvq2.mono (aW (h':=h7) t6.own.wle)
    refine Cs rfl rfl rfl rfl hu7.cells.1 hvq2.cells.1 ?_
    simp
    refine t7.own.sA (k:=(0,0)) (α:=Th) (v:=r) (l:=thTo f b++rows (phiT f b) (nth f.blocks b).phis.length++rows (insT f b) i) (d:=insT f b i) rfl El.fN rfl (by rw [hpt];exact BW ⟨by omega,by omega⟩ ⟨by omega,by omega⟩ hu7' hvq7) (by omega) (by omega) (fun _=>rfl) (fun _=>rfl) fun u10 r10 h10 w10 hX10=>?_
    obtain ⟨g1,g2⟩:=hX10 _ t7.le t7.av
    refine hK3 r10 _ _ rfl rfl ⟨_,View.le_trans hW6 (aW (h':=h7) t6.own.wle),⟨w10.congr fun p=>?_,t7.old,g1,g2⟩⟩
    rw [dz,←List.append_assoc]
    unfold mm Own.upd
    repeat' split
    all_goals first | rfl | simp_all
   ·rintro r h6 ⟨W6,hW6,t6⟩
    simp
    rw [hy];clear hy y
    have hW6h:=View.le_trans hW6 t6.own.wle
    have bih:=bi.2.mono hW6h
    have cih:=ah hW6h bi.1
    have hlr:(thTo f b++rows (phiT f b) (nth f.blocks b).phis.length++rows (insT f b) (nth f.blocks b).ins.length).length=(thTo f b).length+(nth f.blocks b).phis.length+(nth f.blocks b).ins.length:=by simp;omega
    simp [cih,bih.len,ah hW6h ba.1]
    refine Ax rfl rfl rfl (ba.2.cells.1) ?_
    simp
    refine t6.own.sA (k:=(0,0)) (α:=Th) (v:=r) (l:=thTo f b++rows (phiT f b) (nth f.blocks b).phis.length++rows (insT f b) (nth f.blocks b).ins.length) (d:=endT f b) rfl El.fN rfl (BW ⟨by omega,by omega⟩ ⟨by omega,by omega⟩ dM (ba.2.mono hW6)) (by omega) (by omega) (fun _=>rfl) (fun _=>rfl) fun u10 r10 h10 w10 hX10=>?_
    obtain ⟨g1,g2⟩:=hX10 _ t6.le t6.av
    refine hK2 r10 _ _ rfl rfl ⟨_,View.le_trans hW4 hW6,⟨w10.congr fun p=>?_,t6.old,g1,g2⟩⟩
    have e:thTo f (b+1)=thTo f b++rows (phiT f b) (nth f.blocks b).phis.length++rows (insT f b) (nth f.blocks b).ins.length++[endT f b]:=by
     rw [eZ,thB];simp [List.append_assoc]
    rw [e]
    unfold mm Own.upd
    repeat' split
    all_goals first | rfl | simp_all
 ·rintro r h3 ⟨W3,hW3,t3⟩
  simp
  rw [hz];clear hz z
  simp
  exact hK _ _ ⟨t3.le,(t3.own.get (k:=(0,0)) (v:=r) (l:=thTo f f.blocks.length) rfl).rd (t3.old.le t3.own.wle) fun b hb=>by
   have:=t3.av b hb
   rw [cN]
   rcases Nat.lt_or_ge b h.size with hlt | hge
   ·simp [vw,hlt] at this
   ·exact hge⟩
end Go.Proofs.Ytfelpjfopgiabaa
namespace Go.Proofs.Ytfelpjfopgiabaa
open Go Go.Lft
structure GotD where
 e:Int
 b:Int
 p:Int
instance:Rep GotD:=Rep.via fun d=>Cat.mk d.e (Cat.mk d.b d.p)
abbrev BL:=List Bool
def nw (t:Th) (j:Nat) (m:BL):Except Tr BL:=if nth m (nth t.mks j).toNat then .error (12,t.blk,t.place) else .ok (m.set (nth t.mks j).toNat true)
def fE (f:ak) (t:Th):BlkD:=nth f.blocks t.blk.toNat
def oO (f:ak) (t:Th):InsD:=nth (fE f t).ins t.place.toNat
def kz (f:ak) (t:Th):Bool:=decide (0≤t.place)&&decide (t.place<(fE f t).ins.length)
def jm (f:ak) (t:Th):Bool:=decide (t.place=(fE f t).ins.length)
def kg (s:InsD):Bool:=decide (s.op<1)||decide (18<s.op)||!oB s.op s.args.length
def kq (f:ak) (n:Int):Bool:=decide (n<f.params)||decide (8191<n)
def td (f:ak) (n:Int):Bool:=decide (n<1)||decide ((f.blocks.length:Int)≤n)
def j9 (f:ak) (t:Th):Except Tr BL→Except Tr BL
 | .error e=>.error e
 | .ok m'=>if jm f t&&(fE f t).term.to.any (td f) then .error (14,t.blk,t.place) else .ok m'
def eU (f:ak) (t:Th) (m:BL):Except Tr BL:=
 if kz f t&&kg (oO f t) then .error (10,t.blk,t.place)
 else if jm f t&&!jg (fE f t).term then .error (10,t.blk,t.place)
 else if t.mks.any (kq f) then .error (11,t.blk,t.place)
 else j9 f t (upE (nw t) t.mks.length m)
def iO (f:ak):Except Tr BL:=upE (fun i m=>eU f (nth (ar f) i) m) (ar f).length (List.replicate 8192 false)
def sB {α:Type}:Except Tr α→Tr | .ok _=>(0,0,0) | .error t=>t
end Go.Proofs.Ytfelpjfopgiabaa
namespace Go.Proofs.Ytfelpjfopgiabaa
open Go Go.Lft
def noTh:Th:=⟨-1,0,[],[]⟩
def eA (t:Th) (l:List Th) (n:Int):List Th:=if 0≤n∧n<8192 then l.set n.toNat t else l
def nS (l:List Th) (t:Th):List Th:=t.mks.foldl (eA t) l
def vk (ts:List Th):List Th:=ts.foldl nS (List.replicate 8192 noTh)
theorem kU {t:Th} {l:List Th} {n:Int}:(eA t l n).length=l.length:=by unfold eA;split<;>simp
theorem zj {t:Th} {l:List Th}:(nS l t).length=l.length:=gU (f:=eA t) (fun x:List Th=>x.length=l.length) (fun _ _ h=>kU.trans h) _ _ rfl
theorem yG {ts:List Th}:(vk ts).length=8192:=gU (f:=nS) (fun x:List Th=>x.length=8192) (fun _ _ h=>zj.trans h) _ _ (List.length_replicate ..)
end Go.Proofs.Ytfelpjfopgiabaa
namespace Go.Proofs.Ytfelpjfopgiabaa
open Go Go.Lft
def fA (f:ak) (made:List Th) (away:List BL) (v blk place:Int):Bool:=
 if 0≤v∧v<f.params then true
 else if (v<0∨8191<v)∨(nth made v.toNat).blk<0 then false
 else if (nth made v.toNat).blk=blk then decide ((nth made v.toNat).place<0)||decide ((nth made v.toNat).place<place)
 else !nth (nth away (nth made v.toNat).blk.toNat) blk.toNat
end Go.Proofs.Ytfelpjfopgiabaa
namespace Go.Proofs.Ytfelpjfopgiabaa
open Go Go.Lft
def nF (f:ak) (t:Th):PhiD:=nth (fE f t).phis (-1-t.place).toNat
def oq (f:ak) (b:Int):Int:=((nth f.blocks b.toNat).ins.length:Nat)
def nG (f:ak) (t:Th):Bool:=decide (0<t.blk)&&decide ((nF f t).ins.map InD.frm=az f t.blk)
def stT (f:ak) (made:List Th) (away:List BL) (t:Th) (x:Int):Bool:=!fA f made away x t.blk t.place
def stP (f:ak) (made:List Th) (away:List BL) (p:InD):Bool:=!fA f made away p.val p.frm (oq f p.frm)
def fy (f:ak) (made:List Th) (away:List BL) (t:Th):Except Tr Unit:=
 if 0≤t.place then (if t.tks.any (stT f made away t) then .error (13,t.blk,t.place) else .ok ())
 else if !nG f t then .error (16,t.blk,t.place)
 else if (nF f t).ins.any (stP f made away) then .error (13,t.blk,t.place)
 else .ok ()
def fU (f:ak):List Th:=vk (ar f)
def fq (f:ak):List BL:=rows (fun b=>dF f b) f.blocks.length
def mj (f:ak):Nat→Nat
 | 0=>f.blocks.length
 | n+1=>mj f n+(nth f.blocks n).phis.length+(nth f.blocks n).ins.length
def wayE (f:ak):Except Tr Unit:=upE (fun b _=>if nth (dF f (-1)) b=true then .ok () else .error (15,b,0)) f.blocks.length ()
def uB (f:ak):Except Tr Unit:=upE (fun i _=>fy f (fU f) (fq f) (nth (ar f) i)) (ar f).length ()
def GK:Except Tr Unit→Except Tr Unit→Except Tr Unit
 | .ok _,y=>y
 | .error e,_=>.error e
def oW (f:ak):Tr:=
 if f.params<0∨4<f.params then (1,0,0)
 else if f.blocks.length=0 then (14,0,0)
 else if 512<f.blocks.length∨4096<mj f f.blocks.length then (2,0,0)
 else if (sB (iO f)).1≠0 then sB (iO f)
 else sB (GK (wayE f) (uB f))
theorem nz {σ ε:Type} {f:Nat→σ→Except ε σ} {s:σ} {t:ε} : ∀ {n:Nat},upE f n s = .error t→∃ k s',k<n∧upE f k s = .ok s'∧f k s' = .error t
 | n+1,h=>by
  simp only [upE] at h
  split at h
  ·rename_i s' hs
   exact ⟨n,s',Nat.lt_succ_self n,hs,h⟩
  ·rename_i t' ht
   cases h
   obtain ⟨k,s',h1,h2⟩:=nz ht
   exact ⟨k,s',Nat.lt_succ_of_lt h1,h2⟩
theorem qg {f:ak} {t:Th} {m:BL} {e:Tr} (h:eU f t m = .error e):(10≤e.1∧e.1≤14)∧e.2.1=t.blk∧e.2.2=t.place:=by
 unfold eU at h
 split at h
 ·cases h;simp
 ·split at h
  ·cases h;simp
  ·split at h
   ·cases h;simp
   ·unfold j9 at h
    split at h
    ·rename_i e' he
     cases h
     obtain ⟨k,s',_,_,h3⟩:=nz he
     unfold nw at h3
     split at h3
     ·cases h3;simp
     ·cases h3
    ·split at h
     ·cases h;simp
     ·cases h
theorem Bd {n:Int} (hn:0≤n) {ts:List Th} (h : ∀ t∈ts,t.blk<n) {i:Nat} (hi:i<8192):(nth (vk ts) i).blk<n:=by
 have key : ∀ (ts:List Th),(∀ t∈ts,t.blk<n)→∀ l:List Th,(∀ x∈l,x.blk<n)→∀ x∈ts.foldl nS l,x.blk<n:=by
  intro ts
  induction ts with
  | nil=>exact fun _ l hl=>hl
  | cons t ts ih=>
   intro ht l hl
   refine ih (fun x hx=>ht x (List.mem_cons_of_mem _ hx)) _ ?_
   refine gU (f:=eA t) (fun l:List Th=>∀ x∈l,x.blk<n) (fun l a hl x hx=>?_) _ _ hl
   unfold eA at hx
   split at hx
   ·rcases List.mem_or_eq_of_mem_set hx with h | rfl
    ·exact hl x h
    ·exact ht _ List.mem_cons_self
   ·exact hl x hx
 refine key ts h _ (fun x hx=>?_) _ (bU (by show i<(vk ts).length;rw [yG];exact hi))
 rw [(List.mem_replicate.1 hx).2];show (-1:Int)<n;omega
end Go.Proofs.Ytfelpjfopgiabaa
namespace Go.Proofs.Ytfelpjfopgiabaa
open Go Go.Lft
theorem qS {α:Type} [Rep α] {cs:Array Value} {e B:Nat} {ds:List α} {H:View} (hH:H B=some (.cells cs e (0,0))) (hb:ds.length≤1000) (hel : ∀ i (hi:i<ds.length),Rep.rd H ((cs.toList.drop (i*Rep.n α)).take (Rep.n α)) ds[i]) :
  SlRd H (.slice (some ⟨B,0,none⟩) ds.length ds.length) ds:=
 ⟨some ⟨B,0,none⟩,ds.length,rfl,Nat.le_refl _,by omega,.inr ⟨_,rfl,rfl,fun i hi=>by
  rw [bj rfl]
  refine ⟨_,⟨cs,e,(0,0),rfl,hH,?_⟩,hel i hi⟩
  have:=Rep.len (hel i hi)
  rw [this];simp⟩⟩
def oneF (p:Int) (l:List InsD) (t:dk):ak:=⟨p,[⟨[],l,t⟩]⟩
theorem wC {p:Int} {l:List InsD} {t:dk} {vi vt:Value} {h:Heap} (hp:I64 p) (hi:SlRd (vw h) vi l) (ht:Rd (vw h) vt t) :
  aI Try.prog N.gp #[.int .i64 p,vi,vt] h (fun u h'=>(vw h).le (vw h')∧Rd (vw h') u (oneF p l t)):=by
 refine aA (args:=[.int .i64 p,vi,vt]) follows F.gp E.gp (Nat.le_of_ble_eq_true (by kernel_rfl)) fun K hK=>?_
 dsimp only [L.gp]
 refine aa fun z hz=>?_
 simp
 refine ez rfl ht fun h1 _ hle1 hs1 hat=>?_
 obtain ⟨uT,huT,huTr⟩:=hat.an rfl
 obtain ⟨va',vt',rfl,ta,tt⟩:=tf huTr
 have tk:=(hat.part dk.we).rng
 have ti:-2147483648≤t.imm.v∧t.imm.v≤2147483647:=by
  obtain ⟨cs,_,c1,r1,_,_,c2,r2,_,_,c3,r3,_,_,_,h6⟩:=hat
  exact h6
 have huT:Un.ev (vw h1) (.an 4) (.pointer (some ⟨h.size,0,none⟩))=some (.agg #[.int .i64 t.kind,va',vt',.int .i32 t.imm.v]):=huT
 generalize h.size=B at huT
 refine (Owns.start (h:=h1) (View.le_refl (vw h1))).jA (k:=(5,0)) (n:=1) (z:=.agg #[.int .i64 0,.slice none 0 0]) rfl (by kernel_rfl) rfl (by decide) (by simp [Value.cells,Value.oneCell']) fun h2 q2 w2=>?_
 generalize h1.size=R at w2
 have huT2:Un.ev (vw h2) (.an 4) (.pointer (some ⟨B,0,none⟩))=some (.agg #[.int .i64 t.kind,va',vt',.int .i32 t.imm.v]):=by
  have:=ck (ρ:=fun _=>none) (e:=.un (.an 4) (.con (.pointer (some ⟨B,0,none⟩)))) q2 (by simpa using huT)
  simpa using this
 rw [hz];clear hz z
 simp [huT2]
 refine aN (z:=.agg #[.slice none 0 0,.slice none 0 0,.int .i64 0,.slice none 0 0,.slice none 0 0,.int .i32 0]) (places:=[(0,1),(1,1),(2,4)]) (vs:=[(1,vi),(2,.agg #[.int .i64 t.kind,va',vt',.int .i32 t.imm.v])]) (cs:=#[.slice none 0 0,vi,.int .i64 t.kind,va',vt',.int .i32 t.imm.v]) (by kernel_rfl) (by kernel_rfl) (by simp) (by simp [Instr.fill,hi.cells.1]) ?_
 have hblk:Rd (vw h1) (.agg #[.slice none 0 0,vi,.int .i64 t.kind,va',vt',.int .i32 t.imm.v]) (BlkD.mk [] l t):=so dM (hi.mono hle1) ta tt tk ti
 refine kZ (n:=1) (size:=6) (vs:=[(0,.agg #[.slice none 0 0,vi,.int .i64 t.kind,va',vt',.int .i32 t.imm.v])]) (cs:=#[.slice none 0 0,vi,.int .i64 t.kind,va',vt',.int .i32 t.imm.v]) El.fu (by decide) (by simp) (by simp [Instr.fill,Value.cells,Array.range_zero',Array.range_succ]) ?_
 have q3:=bJ h2 (.cells #[.slice none 0 0,vi,.int .i64 t.kind,va',vt',.int .i32 t.imm.v] T.al)
 have b3:(h2.push (.cells #[.slice none 0 0,vi,.int .i64 t.kind,va',vt',.int .i32 t.imm.v] T.al))[h2.size]? = some (.cells #[.slice none 0 0,vi,.int .i64 t.kind,va',vt',.int .i32 t.imm.v] T.al (0,0)):=by simp
 generalize h2.push (.cells #[.slice none 0 0,vi,.int .i64 t.kind,va',vt',.int .i32 t.imm.v] T.al)=h3 at q3 b3
 have w3:=w2.ext' q3
 have hsl:SlRd (grow (vw h1) h2 h3) (.slice (some ⟨h2.size,0,none⟩) 1 1) [BlkD.mk [] l t]:=qS (ds:=[BlkD.mk [] l t]) (by rw [cN (Nat.le_refl _)];exact b3) (by simp) fun i hi2=>by
  have:i=0:=by simpa using hi2
  subst this
  exact (fH (hblk.mono (aW w2.wle))).1
 have w3:=w2.ext q3
 have hle3:=aW (h':=h3) w2.wle
 generalize grow (vw h1) h2 h3=W3 at w3 hsl hle3
 generalize Value.slice (some ⟨h2.size,0,none⟩) 1 1=vs at hsl
 refine aN (z:=.agg #[.int .i64 0,.slice none 0 0]) (places:=[(0,1),(1,1)]) (vs:=[(0,.int .i64 p),(1,vs)]) (cs:=#[.int .i64 p,vs]) (by kernel_rfl) (by kernel_rfl) (by simp) (by simp [Instr.fill,hsl.cells.1]) ?_
 refine w3.fG (k:=(5,0)) (e:=T.aE) (B:=R) (D:=RawN.mk (n:=1) [.int .i64 0,.slice none 0 0]) Part.all (d:=RawN.mk (n:=1) [.int .i64 p,vs]) Own.ag (by kernel_rfl) rfl rfl (eV rfl (by intro c hc;simp only [List.mem_cons,List.not_mem_nil,or_false] at hc;rcases hc with rfl | rfl<;>first | rfl | exact hsl.cells.2)) fun h5 w5 _=>?_
 have c2:=w5.dE (k:=(5,0)) (e:=T.aE) (B:=R) (l:=[.int .i64 p,vs]) (n:=1) Own.ag
 simp [c2]
 exact hK _ _ ⟨View.le_trans hle1 (View.le_trans hle3 w5.wle),_,rfl,[.int .i64 p],[vs],rfl,⟨rfl,hp⟩,vs,rfl,hsl.mono w5.wle⟩
end Go.Proofs.Ytfelpjfopgiabaa
namespace Go.Proofs.Ytfelpjfopgiabaa
open Go Go.Lft
def sh1:ak:=oneF 0 [⟨1,0,0,[],⟨1⟩⟩] ⟨4,[0],[],⟨0⟩⟩
def sh2:ak:=oneF 0 [] ⟨4,[0],[],⟨0⟩⟩
def sh3:ak:=oneF 1 [⟨2,1,0,[0,2],⟨0⟩⟩,⟨1,2,0,[],⟨0⟩⟩] ⟨5,[],[],⟨0⟩⟩
def sh4:ak:=oneF 1 [⟨1,1,0,[],⟨0⟩⟩,⟨2,2,0,[0,1],⟨0⟩⟩] ⟨4,[2],[],⟨0⟩⟩
theorem GV:gj sh1=(0,0,0):=by kernel_rfl
theorem GO:gj sh2=(13,0,0):=by kernel_rfl
theorem GI:gj sh3=(13,0,0):=by kernel_rfl
theorem GD:gj sh4=(0,0,0):=by kernel_rfl
theorem GM:gj ⟨0,[]⟩=(14,0,0):=by kernel_rfl
theorem top4:topS sh4=3:=by kernel_rfl
theorem GA:oG sh4=[1,1,1]:=by kernel_rfl
theorem FY:ew sh4 1=true:=by kernel_rfl
theorem Fb:ew sh4 2=true:=by kernel_rfl
theorem F5:ew sh4 0=false:=by kernel_rfl
theorem vW {p:Int} {l:List InsD} {t:dk} (h1:l.length≤10000) (h2:t.args.length≤10000) (h3:t.to.length≤10000) (h4 : ∀ x∈l,x.args.length≤10000):SmF (oneF p l t) where
 len:=by simp [oneF]
 blk:=fun i hi=>by
  have:i=0:=by simpa [oneF] using hi
  subst this
  exact ⟨by simp [oneF,nth],by simpa [oneF,nth] using h1,by simpa [oneF,nth] using h2,by simpa [oneF,nth] using h3,fun i hi=>by simp [oneF,nth] at hi,fun i hi=>h4 _ (bU hi)⟩
end Go.Proofs.Ytfelpjfopgiabaa
namespace Go.Proofs.Ytfelpjfopgiabaa
open Go Go.Lft
theorem qI {H:View} {va vt:Value} {a t:List Int} {kd:Int} {imm:I32} (h3:SlRd H va a) (h4:SlRd H vt t) (h5:I64 kd) (h6:-2147483648≤imm.v∧imm.v≤2147483647):Rd H (.agg #[.int .i64 kd,va,vt,.int .i32 imm.v]) (dk.mk kd a t imm):=
 ⟨_,rfl,[.int .i64 kd],_,rfl,⟨rfl,h5⟩,[va],_,rfl,⟨va,rfl,h3⟩,[vt],_,rfl,⟨vt,rfl,h4⟩,rfl,h6⟩
theorem C7 {h:Heap}:aI Try.prog N.eN #[] h (fun u h'=>u = .bool true∧(vw h).le (vw h')):=by
 refine aA (args:=[]) follows F.eN E.eN (Nat.le_of_ble_eq_true (by kernel_rfl)) fun K hK=>?_
 dsimp only [L.eN]
 refine aa fun z hz=>?_
 simp
 rw [hz];clear hz z
 refine aa fun z hz=>?_
 simp
 refine aN (z:=.agg #[.int .i64 0,.int .i64 0,.int .i64 0,.slice none 0 0,.int .i32 0]) (places:=[(0,1),(1,1),(2,1),(3,1),(4,1)]) (vs:=[(0,.int .i64 1),(4,.int .i32 1)]) (cs:=#[.int .i64 1,.int .i64 0,.int .i64 0,.slice none 0 0,.int .i32 1]) (by kernel_rfl) (by kernel_rfl) (by simp) (by rfl) ?_
 refine kZ (n:=1) (size:=5) (vs:=[(0,.agg #[.int .i64 1,.int .i64 0,.int .i64 0,.slice none 0 0,.int .i32 1])]) (cs:=#[.int .i64 1,.int .i64 0,.int .i64 0,.slice none 0 0,.int .i32 1]) El.ey (by decide) (by simp) (by simp [Instr.fill,Value.cells,Array.range_zero',Array.range_succ]) ?_
 have q1:=bJ h (.cells #[.int .i64 1,.int .i64 0,.int .i64 0,.slice none 0 0,.int .i32 1] T.aX)
 have b1:(h.push (.cells #[.int .i64 1,.int .i64 0,.int .i64 0,.slice none 0 0,.int .i32 1] T.aX))[h.size]? = some (.cells #[.int .i64 1,.int .i64 0,.int .i64 0,.slice none 0 0,.int .i32 1] T.aX (0,0)):=by simp
 generalize h.push (.cells #[.int .i64 1,.int .i64 0,.int .i64 0,.slice none 0 0,.int .i32 1] T.aX)=h1 at q1 b1
 have s1:SlRd (vw h1) (.slice (some ⟨h.size,0,none⟩) 1 1) [InsD.mk 1 0 0 [] ⟨1⟩]:=qS (ds:=[InsD.mk 1 0 0 [] ⟨1⟩]) b1 (by simp) fun i hi2=>by
  have:i=0:=by simpa using hi2
  subst this
  exact (fH (ji (H:=vw h1) (imm:=⟨1⟩) ⟨⟨by decide,by decide⟩,⟨by decide,by decide⟩,⟨by decide,by decide⟩,by decide,by decide⟩ dM)).1
 generalize Value.slice (some ⟨h.size,0,none⟩) 1 1=v1 at s1
 refine fP (α:=Int) (X:=nothing) (ds:=[0]) (vs:=[.int .i64 0]) rfl El.aP (by simp) ⟨jy (by decide) (by decide),trivial⟩ a8 rfl (by omega) fun v2 h2 q2 _ s2 _=>?_
 have s2:=s2 (vw h2) a8 rfl
 refine aN (z:=.agg #[.int .i64 0,.slice none 0 0,.slice none 0 0,.int .i32 0]) (places:=[(0,1),(1,1),(2,1),(3,1)]) (vs:=[(0,.int .i64 4),(1,v2)]) (cs:=#[.int .i64 4,v2,.slice none 0 0,.int .i32 0]) (by kernel_rfl) (by kernel_rfl) (by simp) (by simp [Instr.fill,s2.cells.1]) ?_
 refine aj (by kernel_rfl) (wC (p:=0) (l:=[⟨1,0,0,[],⟨1⟩⟩]) (t:=⟨4,[0],[],⟨0⟩⟩) ⟨by decide,by decide⟩ (s1.mono q2) (qI s2 dM ⟨by decide,by decide⟩ ⟨by decide,by decide⟩)) ?_
 rintro v3 h3 ⟨q3,r3⟩
 refine aj (by kernel_rfl) (qW r3 (vW (by decide) (by decide) (by decide) (by decide))) ?_
 rintro _ h4 ⟨rfl,q4⟩
 rw [show gj (oneF 0 [⟨1,0,0,[],⟨1⟩⟩] ⟨4,[0],[],⟨0⟩⟩)=(0,0,0) from GV]
 have k4:(vw h).le (vw h4):=View.le_trans q1 (View.le_trans q2 (View.le_trans q3 q4))
 clear s1 s2 r3 q1 q2 q3 q4 b1
 simp
 rw [hz];clear hz z
 refine aa fun z hz=>?_
 simp
 refine fP (α:=Int) (X:=nothing) (ds:=[0]) (vs:=[.int .i64 0]) rfl El.aP (by simp) ⟨jy (by decide) (by decide),trivial⟩ a8 rfl (by omega) fun v2 h5 q5 _ s2 _=>?_
 have s2:=s2 (vw h5) a8 rfl
 refine aN (z:=.agg #[.int .i64 0,.slice none 0 0,.slice none 0 0,.int .i32 0]) (places:=[(0,1),(1,1),(2,1),(3,1)]) (vs:=[(0,.int .i64 4),(1,v2)]) (cs:=#[.int .i64 4,v2,.slice none 0 0,.int .i32 0]) (by kernel_rfl) (by kernel_rfl) (by simp) (by simp [Instr.fill,s2.cells.1]) ?_
 refine aj (by kernel_rfl) (wC (p:=0) (l:=[]) (t:=⟨4,[0],[],⟨0⟩⟩) ⟨by decide,by decide⟩ dM (qI s2 dM ⟨by decide,by decide⟩ ⟨by decide,by decide⟩)) ?_
 rintro v3 h6 ⟨q6,r3⟩
 refine aj (by kernel_rfl) (qW r3 (vW (by decide) (by decide) (by decide) (by decide))) ?_
 rintro _ h7 ⟨rfl,q7⟩
 rw [show gj (oneF 0 [] ⟨4,[0],[],⟨0⟩⟩)=(13,0,0) from GO]
 have k7:(vw h).le (vw h7):=View.le_trans k4 (View.le_trans q5 (View.le_trans q6 q7))
 clear s2 r3 q5 q6 q7 k4
 simp
 rw [hz];clear hz z
 refine aa fun z hz=>?_
 simp
 refine fP (α:=Int) (X:=nothing) (ds:=[0,2]) (vs:=[.int .i64 0,.int .i64 2]) rfl El.aP (by simp) ⟨jy (by decide) (by decide),jy (by decide) (by decide),trivial⟩ a8 rfl (by omega) fun v2 h8 q8 _ s2 _=>?_
 have s2:=s2 (vw h8) a8 rfl
 refine aN (z:=.agg #[.int .i64 0,.int .i64 0,.int .i64 0,.slice none 0 0,.int .i32 0]) (places:=[(0,1),(1,1),(2,1),(3,1),(4,1)]) (vs:=[(0,.int .i64 2),(1,.int .i64 1),(3,v2)]) (cs:=#[.int .i64 2,.int .i64 1,.int .i64 0,v2,.int .i32 0]) (by kernel_rfl) (by kernel_rfl) (by simp) (by simp [Instr.fill,s2.cells.1]) ?_
 refine aN (z:=.agg #[.int .i64 0,.int .i64 0,.int .i64 0,.slice none 0 0,.int .i32 0]) (places:=[(0,1),(1,1),(2,1),(3,1),(4,1)]) (vs:=[(0,.int .i64 1),(1,.int .i64 2)]) (cs:=#[.int .i64 1,.int .i64 2,.int .i64 0,.slice none 0 0,.int .i32 0]) (by kernel_rfl) (by kernel_rfl) (by simp) (by rfl) ?_
 refine kZ (n:=2) (size:=5) (vs:=[(0,.agg #[.int .i64 2,.int .i64 1,.int .i64 0,v2,.int .i32 0]),(1,.agg #[.int .i64 1,.int .i64 2,.int .i64 0,.slice none 0 0,.int .i32 0])]) (cs:=#[.int .i64 2,.int .i64 1,.int .i64 0,v2,.int .i32 0,.int .i64 1,.int .i64 2,.int .i64 0,.slice none 0 0,.int .i32 0]) El.ey (by decide) (by simp) (by simp [Instr.fill,Value.cells,Array.range_zero',Array.range_succ]) ?_
 have q9:=bJ h8 (.cells #[.int .i64 2,.int .i64 1,.int .i64 0,v2,.int .i32 0,.int .i64 1,.int .i64 2,.int .i64 0,.slice none 0 0,.int .i32 0] T.aX)
 have b9:(h8.push (.cells #[.int .i64 2,.int .i64 1,.int .i64 0,v2,.int .i32 0,.int .i64 1,.int .i64 2,.int .i64 0,.slice none 0 0,.int .i32 0] T.aX))[h8.size]? = some (.cells #[.int .i64 2,.int .i64 1,.int .i64 0,v2,.int .i32 0,.int .i64 1,.int .i64 2,.int .i64 0,.slice none 0 0,.int .i32 0] T.aX (0,0)):=by simp
 generalize h8.push (.cells #[.int .i64 2,.int .i64 1,.int .i64 0,v2,.int .i32 0,.int .i64 1,.int .i64 2,.int .i64 0,.slice none 0 0,.int .i32 0] T.aX)=h9 at q9 b9
 have s9:SlRd (vw h9) (.slice (some ⟨h8.size,0,none⟩) 2 2) [InsD.mk 2 1 0 [0,2] ⟨0⟩,InsD.mk 1 2 0 [] ⟨0⟩]:=qS (ds:=[InsD.mk 2 1 0 [0,2] ⟨0⟩,InsD.mk 1 2 0 [] ⟨0⟩]) b9 (by simp) fun i hi2=>by
  have:i=0∨i=1:=by simp at hi2;omega
  rcases this with rfl | rfl
  ·exact (fH (ji (H:=vw h9) (imm:=⟨0⟩) ⟨⟨by decide,by decide⟩,⟨by decide,by decide⟩,⟨by decide,by decide⟩,by decide,by decide⟩ (s2.mono q9))).1
  ·exact (fH (ji (H:=vw h9) (imm:=⟨0⟩) ⟨⟨by decide,by decide⟩,⟨by decide,by decide⟩,⟨by decide,by decide⟩,by decide,by decide⟩ dM)).1
 generalize Value.slice (some ⟨h8.size,0,none⟩) 2 2=v4 at s9
 refine aN (z:=.agg #[.int .i64 0,.slice none 0 0,.slice none 0 0,.int .i32 0]) (places:=[(0,1),(1,1),(2,1),(3,1)]) (vs:=[(0,.int .i64 5)]) (cs:=#[.int .i64 5,.slice none 0 0,.slice none 0 0,.int .i32 0]) (by kernel_rfl) (by kernel_rfl) (by simp) (by rfl) ?_
 refine aj (by kernel_rfl) (wC (p:=1) (l:=[⟨2,1,0,[0,2],⟨0⟩⟩,⟨1,2,0,[],⟨0⟩⟩]) (t:=⟨5,[],[],⟨0⟩⟩) ⟨by decide,by decide⟩ s9 (qI dM dM ⟨by decide,by decide⟩ ⟨by decide,by decide⟩)) ?_
 rintro v3 h10 ⟨q10,r3⟩
 refine aj (by kernel_rfl) (qW r3 (vW (by decide) (by decide) (by decide) (by decide))) ?_
 rintro _ h11 ⟨rfl,q11⟩
 rw [show gj (oneF 1 [⟨2,1,0,[0,2],⟨0⟩⟩,⟨1,2,0,[],⟨0⟩⟩] ⟨5,[],[],⟨0⟩⟩)=(13,0,0) from GI]
 have k11:(vw h).le (vw h11):=View.le_trans k7 (View.le_trans q8 (View.le_trans q9 (View.le_trans q10 q11)))
 clear s2 r3 s9 b9 q8 q9 q10 q11 k7
 simp
 rw [hz];clear hz z
 refine aa fun z hz=>?_
 simp
 refine aN (z:=.agg #[.int .i64 0,.int .i64 0,.int .i64 0,.slice none 0 0,.int .i32 0]) (places:=[(0,1),(1,1),(2,1),(3,1),(4,1)]) (vs:=[(0,.int .i64 1),(1,.int .i64 1)]) (cs:=#[.int .i64 1,.int .i64 1,.int .i64 0,.slice none 0 0,.int .i32 0]) (by kernel_rfl) (by kernel_rfl) (by simp) (by rfl) ?_
 refine fP (α:=Int) (X:=nothing) (ds:=[0,1]) (vs:=[.int .i64 0,.int .i64 1]) rfl El.aP (by simp) ⟨jy (by decide) (by decide),jy (by decide) (by decide),trivial⟩ a8 rfl (by omega) fun v2 h8 q8 _ s2 _=>?_
 have s2:=s2 (vw h8) a8 rfl
 refine aN (z:=.agg #[.int .i64 0,.int .i64 0,.int .i64 0,.slice none 0 0,.int .i32 0]) (places:=[(0,1),(1,1),(2,1),(3,1),(4,1)]) (vs:=[(0,.int .i64 2),(1,.int .i64 2),(3,v2)]) (cs:=#[.int .i64 2,.int .i64 2,.int .i64 0,v2,.int .i32 0]) (by kernel_rfl) (by kernel_rfl) (by simp) (by simp [Instr.fill,s2.cells.1]) ?_
 refine kZ (n:=2) (size:=5) (vs:=[(0,.agg #[.int .i64 1,.int .i64 1,.int .i64 0,.slice none 0 0,.int .i32 0]),(1,.agg #[.int .i64 2,.int .i64 2,.int .i64 0,v2,.int .i32 0])]) (cs:=#[.int .i64 1,.int .i64 1,.int .i64 0,.slice none 0 0,.int .i32 0,.int .i64 2,.int .i64 2,.int .i64 0,v2,.int .i32 0]) El.ey (by decide) (by simp) (by simp [Instr.fill,Value.cells,Array.range_zero',Array.range_succ]) ?_
 have q9:=bJ h8 (.cells #[.int .i64 1,.int .i64 1,.int .i64 0,.slice none 0 0,.int .i32 0,.int .i64 2,.int .i64 2,.int .i64 0,v2,.int .i32 0] T.aX)
 have b9:(h8.push (.cells #[.int .i64 1,.int .i64 1,.int .i64 0,.slice none 0 0,.int .i32 0,.int .i64 2,.int .i64 2,.int .i64 0,v2,.int .i32 0] T.aX))[h8.size]? = some (.cells #[.int .i64 1,.int .i64 1,.int .i64 0,.slice none 0 0,.int .i32 0,.int .i64 2,.int .i64 2,.int .i64 0,v2,.int .i32 0] T.aX (0,0)):=by simp
 generalize h8.push (.cells #[.int .i64 1,.int .i64 1,.int .i64 0,.slice none 0 0,.int .i32 0,.int .i64 2,.int .i64 2,.int .i64 0,v2,.int .i32 0] T.aX)=h9 at q9 b9
 have s9:SlRd (vw h9) (.slice (some ⟨h8.size,0,none⟩) 2 2) [InsD.mk 1 1 0 [] ⟨0⟩,InsD.mk 2 2 0 [0,1] ⟨0⟩]:=qS (ds:=[InsD.mk 1 1 0 [] ⟨0⟩,InsD.mk 2 2 0 [0,1] ⟨0⟩]) b9 (by simp) fun i hi2=>by
  have:i=0∨i=1:=by simp at hi2;omega
  rcases this with rfl | rfl
  ·exact (fH (ji (H:=vw h9) (imm:=⟨0⟩) ⟨⟨by decide,by decide⟩,⟨by decide,by decide⟩,⟨by decide,by decide⟩,by decide,by decide⟩ dM)).1
  ·exact (fH (ji (H:=vw h9) (imm:=⟨0⟩) ⟨⟨by decide,by decide⟩,⟨by decide,by decide⟩,⟨by decide,by decide⟩,by decide,by decide⟩ (s2.mono q9))).1
 generalize Value.slice (some ⟨h8.size,0,none⟩) 2 2=v4 at s9
 refine fP (α:=Int) (X:=nothing) (ds:=[2]) (vs:=[.int .i64 2]) rfl El.aP (by simp) ⟨jy (by decide) (by decide),trivial⟩ a8 rfl (by omega) fun v5 h10 q10 _ s10 _=>?_
 have s10:=s10 (vw h10) a8 rfl
 refine aN (z:=.agg #[.int .i64 0,.slice none 0 0,.slice none 0 0,.int .i32 0]) (places:=[(0,1),(1,1),(2,1),(3,1)]) (vs:=[(0,.int .i64 4),(1,v5)]) (cs:=#[.int .i64 4,v5,.slice none 0 0,.int .i32 0]) (by kernel_rfl) (by kernel_rfl) (by simp) (by simp [Instr.fill,s10.cells.1]) ?_
 refine aj (by kernel_rfl) (wC (p:=1) (l:=[⟨1,1,0,[],⟨0⟩⟩,⟨2,2,0,[0,1],⟨0⟩⟩]) (t:=⟨4,[2],[],⟨0⟩⟩) ⟨by decide,by decide⟩ (s9.mono q10) (qI s10 dM ⟨by decide,by decide⟩ ⟨by decide,by decide⟩)) ?_
 rintro v3 h12 ⟨q12,r3⟩
 have hsm:SmF sh4:=vW (by decide) (by decide) (by decide) (by decide)
 have r3:Rd (vw h12) v3 sh4:=r3
 have k12:(vw h).le (vw h12):=View.le_trans k11 (View.le_trans q8 (View.le_trans q9 (View.le_trans q10 q12)))
 clear s2 s9 b9 q8 q9 q10 q12 k11
 refine dU (X:=vw h12) (z:=.agg #[.int .i64 0,.slice none 0 0]) (by kernel_rfl) rfl (by kernel_rfl) r3 (fun _=>by simp) (fun _=>by simp) fun h13 hle13 hs13 hat13=>?_
 have hat13:=hat13 (vw h13) hle13 rfl
 obtain ⟨u,hu,hur⟩:=hat13.an rfl
 have hu:Un.ev (vw h13) (.an 2) (.pointer (some ⟨h12.size,0,none⟩))=some u:=hu
 generalize h12.size=B at hu
 have huv : ∀ {h':Heap},(vw h13).le (vw h')→Un.ev (vw h') (.an 2) (.pointer (some ⟨B,0,none⟩))=some u:=fun q=>by
  have:=ck (ρ:=fun _=>none) (e:=.un (.an 2) (.con (.pointer (some ⟨B,0,none⟩)))) q (v:=u) (by simpa using hu)
  simpa using this
 have k13:=View.le_trans k12 hle13
 clear r3 hat13 k12 hle13
 rw [hz];clear hz z
 refine aa fun z hz=>?_
 refine qL (fun ρ h14=>∃ vu tl,(vw h13).le (vw h14)∧SlRd (vw h14) vu ([1,1,1]:List Int)∧ρ=[(0,.bool false),(1,.int .i64 0),(2,.int .i64 0),(3,.int .i64 0),(4,.int .i64 13),(5,.int .i64 0),(6,.int .i64 0),(7,.int .i64 13),(9,.int .i64 0),(10,.pointer (some ⟨B,0,none⟩)),(11,vu)]++tl) ?_ ?_
 ·intro K2 hK2
  simp [hu]
  refine aj (by kernel_rfl) (rM hur hsm) ?_
  rintro vu h14 ⟨hle14,su⟩
  have su:=su.mono (gl h13 h14)
  rw [GA] at su
  exact hK2 _ _ ⟨vu,_,hle14,su,rfl⟩
 ·rintro ρ h14 ⟨vu,tl,q14,su,rfl⟩
  rw [hz];clear hz z
  refine aa fun z hz=>?_
  simp [huv q14,ae,af]
  refine aj (by kernel_rfl) (pw (hur.mono q14) hsm) ?_
  rintro _ h15 ⟨rfl,hle15⟩
  have q15:=View.le_trans q14 hle15
  rw [show gj sh4=(0,0,0) from GD]
  have sl : ∀ {K:View},Un.ev K .len vu=some (.int .i64 3):=fun {K}=>su.len
  have se : ∀ {h':Heap},(vw h14).le (vw h')→ao (vw h') ((slA vu).add 1)=some (.int .i64 1):=fun q=>by
   have:=(su.mono q).int (i:=1) (View.le_refl _) (by decide)
   simpa [nth] using this
  simp [huv q15,ae,af]
  refine aj (by kernel_rfl) (BR (hur.mono q15) hsm) ?_
  rintro _ h16 ⟨rfl,hle16⟩
  have q16:=View.le_trans q15 hle16
  rw [top4]
  have ix:Bn.ev (.idx 1) vu (.int .i64 1)=some (.pointer (some ((slA vu).add 1))):=by
   have:=su.idx1 rfl (k:=.i64) (i:=1) (by decide) (by decide)
   simpa using this
  simp [huv q16,sl,ix,se (View.le_trans hle15 hle16),ae,af]
  refine aj (by kernel_rfl) (je (val:=1) (hur.mono q16) hsm ⟨by decide,by decide⟩) ?_
  rintro _ h17 ⟨rfl,hle17⟩
  have q17:=View.le_trans q16 hle17
  rw [FY]
  simp [huv q17,ae,af]
  refine aj (by kernel_rfl) (je (val:=2) (hur.mono q17) hsm ⟨by decide,by decide⟩) ?_
  rintro _ h18 ⟨rfl,hle18⟩
  have q18:=View.le_trans q17 hle18
  rw [Fb]
  simp [huv q18,ae,af]
  refine aj (by kernel_rfl) (je (val:=0) (hur.mono q18) hsm ⟨by decide,by decide⟩) ?_
  rintro _ h19 ⟨rfl,hle19⟩
  have q19:=View.le_trans q18 hle19
  rw [F5]
  simp [ae,af]
  refine aN (z:=.agg #[.int .i64 0,.slice none 0 0]) (places:=[(0,1),(1,1)]) (vs:=[]) (cs:=#[.int .i64 0,.slice none 0 0]) (by kernel_rfl) (by kernel_rfl) (by simp) (by rfl) ?_
  have r5:Rd (vw h19) (.agg #[.int .i64 0,.slice none 0 0]) (ak.mk 0 []):=⟨_,rfl,[.int .i64 0],[.slice none 0 0],rfl,⟨rfl,by decide,by decide⟩,_,rfl,dM⟩
  refine aj (by kernel_rfl) (pw r5 ⟨by simp,fun i hi=>by simp at hi⟩) ?_
  rintro _ h20 ⟨rfl,hle20⟩
  rw [GM]
  simp [ae,af]
  rw [hz];clear hz z
  simp [ae,af]
  exact hK _ _ ⟨rfl,View.le_trans k13 (View.le_trans q19 hle20)⟩
end Go.Proofs.Ytfelpjfopgiabaa
namespace Go.Proofs.Ytfelpjfopgiabaa
open Go Go.Lft
theorem gy {l:List BlkD}:(ofG l).length=l.length:=by simp [ofG]
theorem gk {l:List BlkD} {a b:Int}:kJ (ofG l) a b=true↔(0≤a∧a<l.length∧0≤b∧b<l.length)∧b∈(nth l a.toNat).term.to:=by
 rw [gB,gy]
 constructor
 ·rintro ⟨h,hm⟩
  rw [ofG,dq (by omega),pA] at hm
  exact ⟨h,hm.1⟩
 ·rintro ⟨h,hm⟩
  refine ⟨h,?_⟩
  rw [ofG,dq (by omega),pA]
  exact ⟨hm,h.2.2.1,h.2.2.2⟩
structure Rb (f:ak) (wo:Int) (s:RSt):Prop where
 ok:ROk f.blocks.length s
 seen : ∀ b:Nat,b<f.blocks.length→(nth s.1 b=true↔(b:Int)∈s.2)
 sound : ∀ x∈s.2,Re (ofG f.blocks) wo x.toNat
theorem G1 {f:ak} {wo a:Int} {k:Nat} {s:RSt} (h:Rb f wo s) (h0:0≤a) (h1:a<f.blocks.length) (ha:Re (ofG f.blocks) wo a.toNat) (hk:k<(nth f.blocks a.toNat).term.to.length) :
  Rb f wo (iy wo (nth f.blocks a.toNat).term.to k s)∧s.2 <+: (iy wo (nth f.blocks a.toNat).term.to k s).2∧
   (0≤nth (nth f.blocks a.toNat).term.to k→nth (nth f.blocks a.toNat).term.to k<f.blocks.length→nth (nth f.blocks a.toNat).term.to k≠wo→nth (nth f.blocks a.toNat).term.to k∈(iy wo (nth f.blocks a.toNat).term.to k s).2):=by
 have hok:=xq (wo:=wo) (to:=(nth f.blocks a.toNat).term.to) (k:=k) h.ok
 have hm:=bU hk
 unfold iy at hok ⊢
 generalize hto:(nth f.blocks a.toNat).term.to=to at hm hok ⊢
 split
 ·rename_i hc
  rw [if_pos hc] at hok
  obtain ⟨⟨c1,c2⟩,c3,c4⟩:=hc
  rw [h.ok.len] at c2
  have hb:((nth to k).toNat:Int)=nth to k:=Int.toNat_of_nonneg c1
  refine ⟨⟨hok,fun b hb=>?_,fun x hx=>?_⟩,List.prefix_append _ _,fun _ _ _=>List.mem_append_right _ (List.mem_singleton.2 rfl)⟩
  ·rw [List.mem_append,List.mem_singleton]
   by_cases he:b=(nth to k).toNat
   ·subst he
    rw [aK (by rw [h.ok.len];omega),if_pos rfl]
    exact ⟨fun _=>.inr (Int.toNat_of_nonneg c1),fun _=>rfl⟩
   ·rw [aK (by rw [h.ok.len];exact hb),if_neg (fun e=>he e.symm),h.seen b hb]
    exact ⟨.inl,fun e=>e.resolve_right (by omega)⟩
  ·rcases List.mem_append.1 hx with hx | hx
   ·exact h.sound x hx
   ·rw [List.mem_singleton.1 hx]
    refine .step ha ?_ (by rw [hb];exact c4)
    rw [gk,hb]
    exact ⟨⟨by omega,by omega,c1,c2⟩,by rw [Int.toNat_natCast,hto];exact hm⟩
 ·rename_i hc
  rw [if_neg hc] at hok
  refine ⟨h,List.prefix_refl _,fun c1 c2 c4=>?_⟩
  have hb:((nth to k).toNat:Int)=nth to k:=Int.toNat_of_nonneg c1
  rw [←hb,←h.seen _ (by omega)]
  cases e:nth s.1 (nth to k).toNat with
  | true=>rfl
  | false=>exact absurd ⟨⟨c1,by rw [h.ok.len];exact c2⟩,e,c4⟩ hc
theorem CQ {f:ak} {wo a:Int} {s:RSt} (h:Rb f wo s) (h0:0≤a) (h1:a<f.blocks.length) (ha:Re (ofG f.blocks) wo a.toNat) : ∀ m,m≤(nth f.blocks a.toNat).term.to.length→
  Rb f wo (up (iy wo (nth f.blocks a.toNat).term.to) m s)∧s.2 <+: (up (iy wo (nth f.blocks a.toNat).term.to) m s).2∧
   ∀ k,k<m→0≤nth (nth f.blocks a.toNat).term.to k→nth (nth f.blocks a.toNat).term.to k<f.blocks.length→nth (nth f.blocks a.toNat).term.to k≠wo→nth (nth f.blocks a.toNat).term.to k∈(up (iy wo (nth f.blocks a.toNat).term.to) m s).2
 | 0,_=>⟨h,List.prefix_refl _,fun k hk=>by omega⟩
 | m+1,hm=>by
  obtain ⟨i1,i2,i3⟩:=CQ h h0 h1 ha m (by omega)
  obtain ⟨j1,j2,j3⟩:=G1 (k:=m) i1 h0 h1 ha (by omega)
  rw [up]
  refine ⟨j1,i2.trans j2,fun k hk c1 c2 c3=>?_⟩
  rcases Nat.lt_or_ge k m with hlt | hge
  ·exact j2.subset (i3 k hlt c1 c2 c3)
  ·have:k=m:=by omega
   subst this;exact j3 c1 c2 c3
structure Rc (f:ak) (wo:Int) (i:Nat) (s:RSt):Prop where
 b:Rb f wo s
 root:wo≠0→0<f.blocks.length→(0:Int)∈s.2
 done : ∀ j,j<i→j<s.2.length→∀ b:Nat,kJ (ofG f.blocks) (nth s.2 j) b=true→(b:Int)≠wo→(b:Int)∈s.2
theorem z7 {α:Type} [Inhabited α] {a b:List α} (h:a <+: b) {i:Nat} (hi:i<a.length):nth b i=nth a i:=by
 obtain ⟨t,rfl⟩:=h
 rw [aq (by simp;omega),aq hi,List.getElem_append_left hi]
theorem DF {f:ak} {wo:Int} {i:Nat} {s:RSt} (h:Rc f wo i s) (hi:i<s.2.length):Rc f wo (i+1) (sY f wo i s)∧s.2 <+: (sY f wo i s).2:=by
 have hm:=bU hi
 obtain ⟨h0,h1⟩:=h.b.ok.rng _ hm
 have hre:=h.b.sound _ hm
 obtain ⟨i1,i2,i3⟩:=CQ h.b h0 h1 hre _ (Nat.le_refl _)
 have he:sY f wo i s=up (iy wo (nth f.blocks (nth s.2 i).toNat).term.to) (nth f.blocks (nth s.2 i).toNat).term.to.length s:=rfl
 rw [←he] at i1 i2 i3
 refine ⟨⟨i1,fun a b=>i2.subset (h.root a b),fun j hj hjl b hb hne=>?_⟩,i2⟩
 rcases Nat.lt_or_ge j i with hlt | hge
 ·rw [z7 i2 (by omega)] at hb
  exact i2.subset (h.done j hlt (by omega) b hb hne)
 ·have:j=i:=by omega
  subst this
  rw [z7 i2 hi,gk] at hb
  obtain ⟨⟨_,_,q1,q2⟩,hmem⟩:=hb
  obtain ⟨k,hk,e⟩:=List.getElem_of_mem hmem
  rw [←aq hk] at e
  rw [←e]
  exact i3 k hk (by omega) (by omega) (by rw [e];exact hne)
theorem CL {f:ak} {wo:Int} : ∀ {m i:Nat} {s:RSt},Rc f wo i s→f.blocks.length<i+m→∃ k,Rc f wo k (rchS f wo m i s)∧(rchS f wo m i s).2.length≤k
 | 0,i,s,h,hm=>⟨i,h,by have:=h.b.ok.cnt;rw [rchS];omega⟩
 | m+1,i,s,h,hm=>by
  rw [rchS]
  split
  ·rename_i hi
   exact CL (DF h hi).1 (by omega)
  ·rename_i hi
   exact ⟨i,h,by omega⟩
theorem Ek {f:ak} {wo:Int}:Rc f wo 0 (rch0 f wo):=by
 have hok:=wz (f:=f) (wo:=wo)
 unfold rch0 at hok ⊢
 split
 ·rename_i hc
  rw [if_pos hc] at hok
  refine ⟨⟨hok,fun b hb=>?_,fun x hx=>?_⟩,fun _ _=>List.mem_singleton.2 rfl,fun j hj=>by omega⟩
  ·rw [aK (by simpa using hb),List.mem_singleton]
   split
   ·rename_i e;subst e;simp
   ·rename_i e
    rw [aq (by simpa using hb)]
    simp;omega
  ·rw [List.mem_singleton.1 hx]
   exact .root (by rw [gy];exact hc.2) hc.1
 ·rename_i hc
  rw [if_neg hc] at hok
  refine ⟨⟨hok,fun b hb=>?_,fun x hx=>by cases hx⟩,fun a b=>absurd ⟨a,b⟩ hc,fun j hj=>by omega⟩
  rw [aq (by simpa using hb)]
  simp
theorem eF {f:ak} {wo:Int} {b:Nat} (hb:b<f.blocks.length):nth (dF f wo) b=true↔Re (ofG f.blocks) wo b:=by
 obtain ⟨k,h,hk⟩:=CL (Ek (f:=f) (wo:=wo)) (m:=f.blocks.length+1) (by omega)
 unfold dF
 generalize rchS f wo (f.blocks.length+1) 0 (rch0 f wo)=s at h hk
 rw [h.b.seen b hb]
 constructor
 ·exact fun hm=>by simpa using h.b.sound _ hm
 ·intro hr
  induction hr with
  | root h1 h2=>exact h.root h2 (by rw [←gy];exact h1)
  | @step a b ha he hne ih=>
   have hm:=ih (by have:=(gk.1 he).1;omega)
   obtain ⟨j,hj,e⟩:=List.getElem_of_mem hm
   rw [←aq hj] at e
   exact h.done j (by omega) hj b (by rw [e];exact he) hne
end Go.Proofs.Ytfelpjfopgiabaa
namespace Go.Proofs.Ytfelpjfopgiabaa
open Go Go.Lft
theorem gQ {σ α ε:Type} {f:σ→α→Except ε σ} {a b:List α} {s:σ}:(a++b).foldlM f s=(match a.foldlM f s with | .ok s'=>b.foldlM f s' | .error e=>.error e):=by
 rw [List.foldlM_append]
 cases a.foldlM f s<;>rfl
theorem nO {σ α ε:Type} {f:σ→α→Except ε σ} {a:α} {s:σ}:[a].foldlM f s=f s a:=by
 rw [List.foldlM_cons]
 cases f s a<;>rfl
theorem ky {σ α ε:Type} {g:Nat→σ→Except ε σ} {f:σ→α→Except ε σ} {x:Nat→α} {s:σ} : ∀ {n:Nat},(∀ i s,i<n→g i s=f s (x i))→upE g n s=(rows x n).foldlM f s
 | 0,_=>rfl
 | n+1,h=>by
  have ih:=ky (n:=n) (s:=s) fun i s hi=>h i s (by omega)
  rw [dz,gQ,←ih]
  simp only [upE]
  cases upE g n s with
  | ok s'=>
   show g n s'=[x n].foldlM f s'
   rw [nO];exact h n s' (by omega)
  | error e=>rfl
theorem lY {σ α ε:Type} [Inhabited α] {f:σ→α→Except ε σ} {l:List α} {s:σ}:upE (fun i s=>f s (nth l i)) l.length s=l.foldlM f s:=by
 rw [ky (f:=f) (x:=nth l) fun _ _ _=>rfl]
 congr 1
 refine List.ext_getElem (by simp) fun i h1 h2=>?_
 simp [rows,aq h2]
def jf (f:ak) (m:MW) (t:Th):Except Tr MW:=
 if t.place<0 then allS f.params t.mks t.blk t.place m
 else if t.place<(fE f t).ins.length then insS f.params t.blk (fE f t) t.place.toNat m
 else endS f.blocks.length t.blk (fE f t) m
theorem pQ {f:ak} {b i:Nat} {m:MW}:jf f m (phiT f b i)=phiS f.params b (nth f.blocks b) i m:=by
 unfold jf
 rw [if_pos (show (phiT f b i).place<0 by show -1-(i:Int)<0;omega)]
 rfl
theorem pI {f:ak} {b i:Nat} {m:MW} (hi:i<(nth f.blocks b).ins.length):jf f m (insT f b i)=insS f.params b (nth f.blocks b) i m:=by
 unfold jf
 rw [if_neg (show ¬(insT f b i).place<0 by show ¬(i:Int)<0;omega),if_pos (show (insT f b i).place<((fE f (insT f b i)).ins.length:Int) by show (i:Int)<((nth f.blocks b).ins.length:Int);omega)]
 rfl
theorem pR {f:ak} {b:Nat} {m:MW}:jf f m (endT f b)=endS f.blocks.length b (nth f.blocks b) m:=by
 unfold jf
 rw [if_neg (show ¬(endT f b).place<0 by show ¬((nth f.blocks b).ins.length:Int)<0;omega),if_neg (show ¬(endT f b).place<((fE f (endT f b)).ins.length:Int) by show ¬((nth f.blocks b).ins.length:Int)<((nth f.blocks b).ins.length:Int);omega)]
 rfl
theorem Cy {f:ak} {b:Nat} {m:MW}:blkS f b m=(thB f b).foldlM (jf f) m:=by
 unfold blkS thB
 rw [ky (f:=jf f) (x:=phiT f b) (n:=(nth f.blocks b).phis.length) fun i s hi=>pQ.symm]
 rw [gQ,gQ]
 cases (rows (phiT f b) (nth f.blocks b).phis.length).foldlM (jf f) m with
 | error e=>rfl
 | ok m1=>
  simp only
  rw [ky (f:=jf f) (x:=insT f b) (n:=(nth f.blocks b).ins.length) fun i s hi=>(pI hi).symm]
  cases (rows (insT f b) (nth f.blocks b).ins.length).foldlM (jf f) m1 with
  | error e=>rfl
  | ok m2=>
   simp only
   rw [nO]
   exact pR.symm
theorem rP {f:ak} {m:MW}:jP f m=(ar f).foldlM (jf f) m:=by
 have key : ∀ n,upE (blkS f) n m=(thTo f n).foldlM (jf f) m:=by
  intro n
  induction n with
  | zero=>rfl
  | succ n ih=>
   rw [eZ,gQ,←ih]
   simp only [upE]
   cases upE (blkS f) n m with
   | error e=>rfl
   | ok s=>exact Cy
 exact key _
theorem kt {f:ak}:iO f=(ar f).foldlM (fun m t=>eU f t m) (List.replicate 8192 false):=lY (f:=fun (m:BL) (t:Th)=>eU f t m)
def qh (m:MW) (l:BL):Prop:=l.length=8192∧∀ n:Int,0≤n→n<8192→(m n).isSome=nth l n.toNat
def Alike {α β:Type} (R:α→β→Prop):Except Tr α→Except Tr β→Prop
 | .ok a,.ok b=>R a b
 | .error e,.error e'=>e=e'
 | _,_=>False
theorem ox {α β γ:Type} {R:α→β→Prop} {F:α→γ→Except Tr α} {G:β→γ→Except Tr β} : ∀ {l:List γ},(∀ t∈l,∀ a b,R a b→Alike R (F a t) (G b t))→∀ {a:α} {b:β},R a b→Alike R (l.foldlM F a) (l.foldlM G b)
 | [],_,a,b,h=>h
 | t::l,hs,a,b,h=>by
  rw [List.foldlM_cons,List.foldlM_cons]
  have:=hs t List.mem_cons_self a b h
  cases e1:F a t with
  | error e=>
   cases e2:G b t with
   | error e'=>rw [e1,e2] at this;exact this
   | ok b'=>rw [e1,e2] at this;exact this.elim
  | ok a'=>
   cases e2:G b t with
   | error e'=>rw [e1,e2] at this;exact this.elim
   | ok b'=>
    rw [e1,e2] at this
    exact ox (fun t ht=>hs t (List.mem_cons_of_mem _ ht)) this
theorem Br {f:ak} {n:Int}:aY n f.params 8191=!kq f n:=by
 rw [Bool.eq_iff_iff];simp [aY,kq]
theorem zD {α:Type} {p:α→Bool} {l:List α}:l.all (fun n=>!p n)=!l.any p:=by
 induction l with
 | nil=>rfl
 | cons a l ih=>simp [ih]
def iA (t:Th) (m:BL) (n:Int):Except Tr BL:=if nth m n.toNat then .error (12,t.blk,t.place) else .ok (m.set n.toNat true)
theorem AP {f:ak} {t:Th} {m:MW} {l:BL} (h:qh m l) (hp:0≤f.params) (hn : ∀ n∈t.mks,kq f n=false):Alike qh (t.mks.foldlM (nJ t.blk t.place) m) (upE (nw t) t.mks.length l):=by
 have e:upE (nw t) t.mks.length l=t.mks.foldlM (iA t) l:=lY (f:=iA t)
 rw [e]
 refine ox (fun n hnm m l h=>?_) h
 have hb:=hn n hnm
 simp only [kq,Bool.or_eq_false_iff,decide_eq_false_iff_not] at hb
 have hs:=h.2 n (by omega) (by omega)
 unfold nJ iA
 rw [hs]
 cases hc:nth l n.toNat with
 | true=>exact rfl
 | false=>
  refine ⟨by simpa using h.1,fun k h0 h1=>?_⟩
  rw [aK (by rw [h.1];omega)]
  simp only [putM]
  by_cases hk:k=n
  ·subst hk;simp
  ·rw [if_neg hk,if_neg (by omega)];exact h.2 k h0 h1
theorem uG {f:ak} {t:Th} {m:MW} {l:BL} (h:qh m l) (hp:0≤f.params) :
  Alike qh (allS f.params t.mks t.blk t.place m) (if t.mks.any (kq f) then .error (11,t.blk,t.place) else upE (nw t) t.mks.length l):=by
 unfold allS
 have e:(t.mks.all fun n=>aY n f.params 8191)=!t.mks.any (kq f):=by
  rw [←zD];congr 1;funext n;exact Br
 rw [e]
 cases hb:t.mks.any (kq f) with
 | true=>exact rfl
 | false=>
  refine AP h hp fun n hn=>?_
  rw [Bool.eq_false_iff]
  intro e2
  rw [Bool.eq_false_iff] at hb
  exact hb (List.any_eq_true.2 ⟨n,hn,e2⟩)
theorem DN {x:InsD}:(aY x.op 1 18&&aY x.args.length (fg x.op).1 (fg x.op).2)=!kg x:=by
 rw [Bool.eq_iff_iff]
 simp only [kg,aY,fg,oB,Bool.and_eq_true,Bool.not_eq_true',Bool.or_eq_false_iff,decide_eq_true_eq,decide_eq_false_iff_not,Bool.not_eq_false']
 by_cases h1:x.op=1
 ·simp [h1]
 by_cases h2:x.op=15
 ·simp [h2];omega
 by_cases h3:x.op=17
 ·simp [h3]
 simp only [h1,h2,h3,if_false,decide_eq_true_eq];omega
theorem DQ {f:ak} {n:Int}:aY n 1 ((f.blocks.length:Int)-1)=!td f n:=by
 rw [Bool.eq_iff_iff];simp [aY,td];omega
theorem AQ {t:dk}:lO t=jg t:=by
 unfold lO jg eW
 by_cases h1:t.kind=1
 ·rw [Bool.eq_iff_iff];simp [putM,h1,aY];omega
 by_cases h2:t.kind=2
 ·rw [Bool.eq_iff_iff];simp [putM,h2,aY];omega
 by_cases h3:t.kind=3
 ·rw [Bool.eq_iff_iff];simp [putM,h3,aY];omega
 by_cases h4:t.kind=4
 ·rw [Bool.eq_iff_iff];simp [putM,h4,aY]
 by_cases h5:t.kind=5
 ·rw [Bool.eq_iff_iff];simp [putM,h5,aY]
 simp [putM,h1,h2,h3,h4,h5]
theorem qe {f:ak} {t:Th} {x:Except Tr BL} (h:jm f t=false):j9 f t x=x:=by
 unfold j9
 cases x with
 | error e=>rfl
 | ok m=>simp only [h,Bool.false_and];rfl
theorem AJ {f:ak} {t:Th} (ht:t∈ar f) (hp:0≤f.params) {m:MW} {l:BL} (h:qh m l):Alike qh (jf f m t) (eU f t l):=by
 obtain ⟨b,hb,ht⟩:=cU.1 ht
 rcases dw.1 ht with ⟨i,hi,rfl⟩ | ⟨i,hi,rfl⟩ | rfl
 ·have e1:kz f (phiT f b i)=false:=by simp [kz,phiT];omega
  have e2:jm f (phiT f b i)=false:=by
   show decide (-1-(i:Int)=((nth f.blocks b).ins.length:Int))=false
   rw [decide_eq_false_iff_not];omega
  rw [pQ,eU,e1,e2,qe e2]
  exact uG (t:=phiT f b i) h hp
 ·have e1:kz f (insT f b i)=true:=by simp [kz,insT,fE];omega
  have e2:jm f (insT f b i)=false:=by
   show decide ((i:Int)=((nth f.blocks b).ins.length:Int))=false
   rw [decide_eq_false_iff_not];omega
  have e3:oO f (insT f b i)=nth (nth f.blocks b).ins i:=by simp [oO,fE,insT]
  rw [pI hi,eU,e1,e2,qe e2,e3,insS,DN]
  cases hb:kg (nth (nth f.blocks b).ins i) with
  | true=>exact rfl
  | false=>exact uG (t:=insT f b i) h hp
 ·have e1:kz f (endT f b)=false:=by simp [kz,endT,fE]
  have e2:jm f (endT f b)=true:=by simp [jm,endT,fE]
  have e3:fE f (endT f b)=nth f.blocks b:=by simp [fE,endT]
  rw [pR,eU,e1,e2,e3,endS,AQ]
  cases hb:jg (nth f.blocks b).term with
  | false=>exact rfl
  | true=>
   have e4:((nth f.blocks b).term.to.all fun t=>aY t 1 ((f.blocks.length:Int)-1))=!(nth f.blocks b).term.to.any (td f):=by
    rw [←zD];congr 1;funext n;exact DQ
   rw [e4]
   show Alike qh _ (j9 f (endT f b) (.ok l))
   unfold j9
   rw [e2,e3]
   cases (nth f.blocks b).term.to.any (td f) with
   | true=>exact rfl
   | false=>exact h
theorem yF {f:ak} (hp:0≤f.params):Alike qh (jP f (fun _=>none)) (iO f):=by
 rw [rP,kt]
 refine ox (fun t ht m l h=>AJ ht hp h) ⟨List.length_replicate ..,fun n h0 h1=>?_⟩
 rw [aq (by rw [List.length_replicate];omega),List.getElem_replicate];rfl
end Go.Proofs.Ytfelpjfopgiabaa
namespace Go.Proofs.Ytfelpjfopgiabaa
open Go Go.Lft
def zl (t:Th):Option (Int × Int):=if t.blk<0 then none else some (t.blk,t.place)
structure Site (m:MW) (s:List Th):Prop where
 len:s.length=8192
 inn : ∀ n:Int,0≤n→n<8192→m n=zl (nth s n.toNat)
 out : ∀ n:Int,¬(0≤n∧n<8192)→m n=none
theorem xj {t:Th} (hb:0≤t.blk) : ∀ {l:List Int} {m:MW} {s:List Th},Site m s→(∀ n∈l,0≤n∧n<8192)→Site (l.foldl (fun m n=>putM m n (t.blk,t.place)) m) (l.foldl (eA t) s)
 | [],m,s,h,_=>h
 | n::l,m,s,h,hl=>by
  rw [List.foldl_cons,List.foldl_cons]
  have hn:=hl n List.mem_cons_self
  refine xj hb ⟨kU.trans h.len,fun k h0 h1=>?_,fun k hk=>?_⟩ fun k hk=>hl k (List.mem_cons_of_mem _ hk)
  ·unfold eA putM
   rw [if_pos hn,aK (by rw [h.len];omega)]
   by_cases e:k=n
   ·subst e;rw [if_pos rfl,if_pos rfl];unfold zl;rw [if_neg (by omega)]
   ·rw [if_neg e,if_neg (by omega)];exact h.inn k h0 h1
  ·unfold putM
   rw [if_neg (by rintro rfl;exact hk hn)];exact h.out k hk
theorem wN {b p:Int} : ∀ {l:List Int} {m m':MW},l.foldlM (nJ b p) m = .ok m'→m'=l.foldl (fun m n=>putM m n (b,p)) m
 | [],m,m',h=>by cases h;rfl
 | n::l,m,m',h=>by
  rw [List.foldlM_cons] at h
  cases e:nJ b p m n with
  | error t=>rw [e] at h;cases h
  | ok m1=>
   rw [e] at h
   unfold nJ at e
   split at e
   ·cases e
   ·cases e;exact wN (l:=l) (m:=putM m n (b,p)) h
theorem yC {ps b p:Int} {l:List Int} {m m':MW} (h:allS ps l b p m = .ok m'):m'=l.foldl (fun m n=>putM m n (b,p)) m∧∀ n∈l,ps≤n∧n≤8191:=by
 unfold allS at h
 split at h
 ·rename_i ha
  refine ⟨wN h,fun n hn=>?_⟩
  have:=List.all_eq_true.1 ha n hn
  simpa [aY] using this
 ·cases h
theorem BS {f:ak} {t:Th} (ht:t∈ar f) {m m':MW} (h:jf f m t = .ok m'):(m'=t.mks.foldl (fun m n=>putM m n (t.blk,t.place)) m∧∀ n∈t.mks,f.params≤n∧n≤8191)∧0≤t.blk:=by
 obtain ⟨b,hb,ht⟩:=cU.1 ht
 rcases dw.1 ht with ⟨i,hi,rfl⟩ | ⟨i,hi,rfl⟩ | rfl
 ·rw [pQ] at h
  exact ⟨yC h,by show 0≤(b:Int);omega⟩
 ·rw [pI hi] at h
  unfold insS at h
  split at h
  ·exact ⟨yC h,by show 0≤(b:Int);omega⟩
  ·cases h
 ·rw [pR] at h
  unfold endS at h
  split at h
  ·split at h
   ·cases h;exact ⟨⟨rfl,fun n hn=>by cases hn⟩,by show 0≤(b:Int);omega⟩
   ·cases h
  ·cases h
theorem tI {f:ak} (hp:0≤f.params) : ∀ {l:List Th},(∀ t∈l,t∈ar f)→∀ {m m':MW} {s:List Th},Site m s→l.foldlM (jf f) m = .ok m'→Site m' (l.foldl nS s)
 | [],_,m,m',s,h,e=>by cases e;exact h
 | t::l,hl,m,m',s,h,e=>by
  rw [List.foldlM_cons] at e
  cases e1:jf f m t with
  | error x=>rw [e1] at e;cases e
  | ok m1=>
   rw [e1] at e
   obtain ⟨⟨q1,q2⟩,q3⟩:=BS (hl t List.mem_cons_self) e1
   rw [List.foldl_cons]
   refine tI hp (fun t ht=>hl t (List.mem_cons_of_mem _ ht)) (m:=m1) ?_ e
   rw [q1]
   exact xj q3 h fun n hn=>by have:=q2 n hn;omega
theorem Ar {f:ak} (hp:0≤f.params) {m:MW} (h:jP f (fun _=>none) = .ok m):Site m (fU f):=by
 rw [rP] at h
 refine tI hp (fun t ht=>ht) ⟨List.length_replicate ..,fun n h0 h1=>?_,fun n _=>rfl⟩ h
 rw [aq (by rw [List.length_replicate];omega),List.getElem_replicate];rfl
theorem sW {f:ak} {m:MW} {made:List Th} {away:List BL} {idom:List Int} {v blk place at_ told:Int} (hp:f.params≤8192) (hs:Site m made) (hd : ∀ a:Int,0≤a→a<f.blocks.length→dA idom a blk=!nth (nth away a.toNat) blk.toNat)
  (hm : ∀ i,i<8192→(nth made i).blk<f.blocks.length):useS f.params m idom v blk place at_ told=if (!fA f made away v blk at_) then .error (13,told,place) else .ok ():=by
 unfold useS
 by_cases c1:0≤v∧v<f.params
 ·have e:fA f made away v blk at_=true:=by unfold fA;rw [if_pos c1]
  rw [if_pos c1,e];rfl
 rw [if_neg c1]
 by_cases c2:v<0∨8191<v
 ·have e:fA f made away v blk at_=false:=by unfold fA;rw [if_neg c1,if_pos (.inl c2)]
  rw [hs.out v (by omega),e];rfl
 have e:fA f made away v blk at_=if (nth made v.toNat).blk<0 then false else if (nth made v.toNat).blk=blk then decide ((nth made v.toNat).place<0)||decide ((nth made v.toNat).place<at_) else !nth (nth away (nth made v.toNat).blk.toNat) blk.toNat:=by
  unfold fA
  rw [if_neg c1]
  by_cases c3:(nth made v.toNat).blk<0
  ·rw [if_pos (.inr c3),if_pos c3]
  ·rw [if_neg (by rintro (q | q)<;>contradiction),if_neg c3]
 rw [hs.inn v (by omega) (by omega),e]
 have hmb:=hm v.toNat (by omega)
 generalize nth made v.toNat=t at hmb
 unfold zl
 by_cases c3:t.blk<0
 ·rw [if_pos c3,if_pos c3];rfl
 rw [if_neg c3,if_neg c3]
 have e2:jx (t.blk,t.place) idom blk at_=if t.blk=blk then decide (t.place<0)||decide (t.place<at_) else !nth (nth away t.blk.toNat) blk.toNat:=by
  unfold jx
  by_cases c4:t.blk=blk
  ·simp only [c4,decide_true,Bool.true_and,Bool.not_true,Bool.false_and,Bool.or_false,if_true]
   rw [Bool.or_comm]
  ·simp only [c4,decide_false,Bool.false_and,Bool.not_false,Bool.true_and,Bool.false_or,if_false]
   exact hd t.blk (by omega) hmb
 simp only [e2]
 generalize (if t.blk=blk then decide (t.place<0)||decide (t.place<at_) else !nth (nth away t.blk.toNat) blk.toNat)=B
 cases B<;>rfl
theorem ry {α:Type} [Inhabited α] {l:List α} {p:α→Bool} {e:Tr} {g:Nat→Except Tr Unit} (h : ∀ j,j<l.length→g j=if p (nth l j) then .error e else .ok ()):uAll g l.length=if l.any p then .error e else .ok ():=by
 have h1:uAll g l.length=l.foldlM (fun (_:Unit) x=>if p x then Except.error e else .ok ()) ():=by
  unfold uAll
  rw [←lY (f:=fun (_:Unit) x=>if p x then Except.error e else .ok ())]
  have key : ∀ n,n≤l.length→upE (fun i (_:Unit)=>g i) n ()=upE (fun i (_:Unit)=>if p (nth l i) then Except.error e else .ok ()) n ():=by
   intro n
   induction n with
   | zero=>exact fun _=>rfl
   | succ n ih=>
    intro hn
    simp only [upE]
    rw [ih (by omega),h n (by omega)]
  exact key _ (Nat.le_refl _)
 rw [h1]
 clear h1 h
 induction l with
 | nil=>rfl
 | cons a l ih=>
  rw [List.foldlM_cons,List.any_cons]
  cases hp:p a with
  | true=>rfl
  | false=>rw [Bool.false_or];exact ih
theorem zy {β:Type} {p q:Nat→Bool} {x:Nat→β} {n:Nat} (h : ∀ a,a<n→p a=q a):sift p x n=sift q x n:=by
 rw [lF,lF]
 congr 1
 exact List.filter_congr fun a ha=>h a (List.mem_range.1 ha)
theorem yT {f:ak} {b:Nat} (hb:b<f.blocks.length):nth (cR (ofG f.blocks)) b=az f b:=by
 rw [xm,qc,gy,dq hb,az]
 refine zy fun a ha=>?_
 rw [Bool.eq_iff_iff,gk,decide_eq_true_eq,Int.toNat_natCast]
 exact ⟨fun h=>h.2,fun h=>⟨by omega,h⟩⟩
theorem AA {f:ak} {b i:Nat} (hb:b<f.blocks.length):xQ (nth (nth f.blocks b).phis i) (nth (cR (ofG f.blocks)) b) b=nG f (phiT f b i):=by
 have e1:nF f (phiT f b i)=nth (nth f.blocks b).phis i:=by
  unfold nF fE phiT
  simp only [Int.toNat_natCast]
  rw [show (-1-(-1-(i:Int))).toNat=i by omega]
 have e2:(phiT f b i).blk=(b:Int):=rfl
 unfold xQ ja nG
 rw [e1,e2,yT hb]
 generalize nth (nth f.blocks b).phis i=x
 generalize az f b=row
 rw [Bool.eq_iff_iff]
 simp only [Bool.and_eq_true,decide_eq_true_eq,zU,uw]
 constructor
 ·rintro ⟨⟨h1,h2⟩,h3⟩
  refine ⟨by omega,List.ext_getElem (by simp;omega) fun j hj hj2=>?_⟩
  have:=h3 j (by simpa using hj)
  rw [aq hj2,aq (by simpa using hj)] at this
  simpa using this
 ·rintro ⟨h1,h2⟩
  have hl:x.ins.length=row.length:=by rw [←h2,List.length_map]
  refine ⟨⟨by omega,by omega⟩,fun j hj=>?_⟩
  rw [←h2,aq (l:=List.map InD.frm x.ins) (by rw [List.length_map];exact hj),aq hj]
  simp
theorem rh {f:ak} : ∀ i,i<8192→(nth (fU f) i).blk<f.blocks.length:=fun i hi=>Bd (by omega) (fun t ht=>by
 obtain ⟨b,hb,ht⟩:=cU.1 ht
 rcases dw.1 ht with ⟨i,hi,rfl⟩ | ⟨i,hi,rfl⟩ | rfl
 ·show (b:Int)<_;omega
 ·show (b:Int)<_;omega
 ·show (b:Int)<_;omega) hi
section
variable {f:ak} {m:MW} {idom:List Int} (hp0:f.params≤8192) (hs:Site m (fU f)) (hd : ∀ a b:Int,0≤a→a<f.blocks.length→0≤b→b<f.blocks.length→dA idom a b=!nth (nth (fq f) a.toNat) b.toNat)
include hp0 hs hd
theorem Ee {b i:Nat} (hb:b<f.blocks.length) (hi:i<(nth f.blocks b).phis.length):phiU f m idom (cR (ofG f.blocks)) b i=fy f (fU f) (fq f) (phiT f b i):=by
 have hf:=AA (f:=f) (i:=i) hb
 have e1:nF f (phiT f b i)=nth (nth f.blocks b).phis i:=by
  unfold nF fE phiT
  simp only [Int.toNat_natCast]
  rw [show (-1-(-1-(i:Int))).toNat=i by omega]
 have e3:fy f (fU f) (fq f) (phiT f b i)=if !nG f (phiT f b i) then .error (16,b,-1-i) else if (nth (nth f.blocks b).phis i).ins.any (stP f (fU f) (fq f)) then .error (13,b,-1-i) else .ok ():=by
  unfold fy
  rw [if_neg (show ¬0≤(phiT f b i).place by show ¬0≤-1-(i:Int);omega),e1]
  rfl
 rw [e3]
 unfold phiU
 simp only [hf]
 cases hss:nG f (phiT f b i) with
 | false=>rfl
 | true=>
  rw [if_pos rfl,if_neg (by simp)]
  refine ry fun j hj=>?_
  have hfr:0≤(nth (nth (nth f.blocks b).phis i).ins j).frm∧(nth (nth (nth f.blocks b).phis i).ins j).frm<f.blocks.length:=by
   unfold nG at hss
   rw [e1] at hss
   simp only [Bool.and_eq_true,decide_eq_true_eq] at hss
   have hm:=List.mem_map_of_mem (f:=InD.frm) (bU hj)
   rw [hss.2] at hm
   obtain ⟨a,h1,_,h2⟩:=mA.1 hm
   omega
  rw [sW hp0 hs (fun a h0 h1=>hd a _ h0 h1 hfr.1 hfr.2) rh]
  rfl
theorem D3 {b i:Nat} (hb:b<f.blocks.length) (hi:i<(nth f.blocks b).ins.length):insU f m idom b i=fy f (fU f) (fq f) (insT f b i):=by
 have e3:fy f (fU f) (fq f) (insT f b i)=if (nth (nth f.blocks b).ins i).args.any (stT f (fU f) (fq f) (insT f b i)) then .error (13,b,i) else .ok ():=by
  unfold fy
  rw [if_pos (show 0≤(insT f b i).place by show 0≤(i:Int);omega)]
  rfl
 rw [e3]
 unfold insU
 refine ry fun j hj=>?_
 rw [sW hp0 hs (fun a h0 h1=>hd a _ h0 h1 (by omega) (by omega)) rh]
 rfl
theorem Eo {b:Nat} (hb:b<f.blocks.length):endU f m idom b=fy f (fU f) (fq f) (endT f b):=by
 have e3:fy f (fU f) (fq f) (endT f b)=if (nth f.blocks b).term.args.any (stT f (fU f) (fq f) (endT f b)) then .error (13,b,(nth f.blocks b).ins.length) else .ok ():=by
  unfold fy
  rw [if_pos (show 0≤(endT f b).place by show 0≤((nth f.blocks b).ins.length:Int);omega)]
  rfl
 rw [e3]
 unfold endU
 refine ry fun j hj=>?_
 rw [sW hp0 hs (fun a h0 h1=>hd a _ h0 h1 (by omega) (by omega)) rh]
 rfl
def stF (f:ak) (_:Unit) (t:Th):Except Tr Unit:=fy f (fU f) (fq f) t
theorem DE {b:Nat} (hb:b<f.blocks.length):blkU f m idom (cR (ofG f.blocks)) b=(thB f b).foldlM (stF f) ():=by
 unfold blkU thB uAll
 rw [ky (f:=stF f) (x:=phiT f b) (n:=(nth f.blocks b).phis.length) fun i s hi=>Ee hp0 hs hd hb hi]
 rw [ky (f:=stF f) (x:=insT f b) (n:=(nth f.blocks b).ins.length) fun i s hi=>D3 hp0 hs hd hb hi]
 rw [gQ,gQ,Eo hp0 hs hd hb]
 cases (rows (phiT f b) (nth f.blocks b).phis.length).foldlM (stF f) () with
 | error e=>rfl
 | ok m1=>
  obtain ⟨⟩:=m1
  cases hI:(rows (insT f b) (nth f.blocks b).ins.length).foldlM (stF f) () with
  | error e=>simp only [andE,hI]
  | ok m2=>
   simp only [andE,hI]
   rw [nO];rfl
theorem Az:uAll (blkU f m idom (cR (ofG f.blocks))) f.blocks.length=uB f:=by
 have key : ∀ n,n≤f.blocks.length→uAll (blkU f m idom (cR (ofG f.blocks))) n=(thTo f n).foldlM (stF f) ():=by
  intro n
  induction n with
  | zero=>exact fun _=>rfl
  | succ n ih=>
   intro hn
   rw [eZ,gQ,←ih (by omega)]
   have e:uAll (blkU f m idom (cR (ofG f.blocks))) (n+1)=match uAll (blkU f m idom (cR (ofG f.blocks))) n with | .ok _=>blkU f m idom (cR (ofG f.blocks)) n | .error e=>.error e:=by
    show upE _ (n+1) ()=_
    simp only [upE]
    unfold uAll
    cases upE (fun i (_:Unit)=>blkU f m idom (cR (ofG f.blocks)) i) n ()<;>rfl
   rw [e]
   cases uAll (blkU f m idom (cR (ofG f.blocks))) n with
   | error e=>rfl
   | ok s=>exact DE hp0 hs hd (by omega)
 rw [key _ (Nat.le_refl _)]
 exact (lY (f:=stF f)).symm
end
end Go.Proofs.Ytfelpjfopgiabaa
namespace Go.Proofs.Ytfelpjfopgiabaa
open Go Go.Lft
theorem uA {f:ak} : ∀ k,manyN f k=(mj f k:Int)
 | 0=>rfl
 | k+1=>by
  have ih:=uA (f:=f) k
  unfold manyN at ih ⊢
  rw [up,ih,mj];omega
theorem tU {σ ε:Type} {f g:Nat→σ→Except ε σ} {s:σ} : ∀ {n:Nat},(∀ i s,i<n→f i s=g i s)→upE f n s=upE g n s
 | 0,_=>rfl
 | n+1,h=>by
  simp only [upE]
  rw [tU (n:=n) fun i s hi=>h i s (by omega)]
  cases upE g n s with
  | ok s'=>exact h n s' (by omega)
  | error e=>rfl
theorem qH {f:Nat→Unit→Except Tr Unit} : ∀ {n:Nat},upE f n () = .ok ()→∀ i,i<n→f i () = .ok ()
 | n+1,h,i,hi=>by
  simp only [upE] at h
  cases e:upE f n () with
  | error t=>rw [e] at h;cases h
  | ok s=>
   rw [e] at h
   rcases Nat.lt_or_ge i n with hlt | hge
   ·exact qH e i hlt
   ·have:i=n:=by omega
    subst this;exact h
theorem Cx {f:ak} (hn:0<f.blocks.length):uAll (pY f) f.blocks.length=wayE f:=by
 unfold uAll wayE
 refine tU fun b s hb=>?_
 unfold pY
 have e:decide ((b:Int)∈bg (ofG f.blocks))=nth (dF f (-1)) b:=by
  rw [Bool.eq_iff_iff,decide_eq_true_eq,(iD (by rw [gy];exact hn)).mem,eF hb]
 rw [e]
theorem Cn {f:ak} (hn:0<f.blocks.length) (hw:wayE f = .ok ()) (a b:Int) (h0:0≤a) (h1:a<f.blocks.length) (h2:0≤b) (h3:b<f.blocks.length) :
  dA (nL (ofG f.blocks)) a b=!nth (nth (fq f) a.toNat) b.toNat:=by
 have hR : ∀ x:Nat,x<f.blocks.length→Re (ofG f.blocks) (-1) x:=fun x hx=>by
  have:=qH hw x hx
  rw [←eF hx]
  split at this
  ·assumption
  ·cases this
 have hg:0<(ofG f.blocks).length:=by rw [gy];exact hn
 obtain ⟨fp,C,l,hl,I⟩:=uM hg
 have hi:nL (ofG f.blocks)=l:=by unfold nL;rw [hl];rfl
 rw [hi]
 have e:=oC I C (a:=a.toNat) (b:=b.toNat) (by rw [gy];omega) (hR _ (by omega))
 rw [Int.toNat_of_nonneg h0,Int.toNat_of_nonneg h2] at e
 rw [e,Bool.eq_iff_iff,lS]
 have ha:nth (fq f) a.toNat=dF f a:=by
  unfold fq
  rw [dq (by omega),Int.toNat_of_nonneg h0]
 rw [ha]
 have hr:=eF (f:=f) (wo:=a) (b:=b.toNat) (by omega)
 have haa:((a.toNat:Nat):Int)=a:=Int.toNat_of_nonneg h0
 rw [haa]
 cases hc:nth (dF f a) b.toNat with
 | true=>
  rw [hc] at hr
  simp [hr.1 rfl]
 | false=>
  rw [hc] at hr
  have hnr:¬Re (ofG f.blocks) a b.toNat:=fun h=>by have:=hr.2 h;cases this
  simp [hnr,hR _ (show a.toNat<f.blocks.length by omega),hR _ (show b.toNat<f.blocks.length by omega)]
theorem tD (f:ak):gj f=oW f:=by
 unfold gj jF oW
 by_cases c1:f.params<0∨4<f.params
 ·have:aY f.params 0 4=false:=by rw [Bool.eq_false_iff];simp [aY];omega
  rw [if_pos this,if_pos c1]
 have hw4:¬aY f.params 0 4=false:=by simp [aY];omega
 rw [if_neg hw4,if_neg c1]
 by_cases c2:f.blocks.length=0
 ·rw [if_pos c2,if_pos c2]
 rw [if_neg c2,if_neg c2]
 have hm:Al f=(mj f f.blocks.length:Int):=uA _
 by_cases c3:512<f.blocks.length∨4096<mj f f.blocks.length
 ·rw [if_pos (by rw [hm];omega),if_pos c3]
 rw [if_neg (by rw [hm];omega),if_neg c3]
 have hp:0≤f.params:=by omega
 have hsh:=yF hp
 cases hS:jP f (fun _=>none) with
 | error e=>
  cases hR:iO f with
  | ok l=>rw [hS,hR] at hsh;exact hsh.elim
  | error e'=>
   rw [hS,hR] at hsh
   have hee:e=e':=hsh
   subst hee
   obtain ⟨k,s',h1,_,h3⟩:=nz hR
   have:=(qg h3).1
   rw [if_pos (by show e.1≠0;omega)]
   rfl
 | ok m=>
  cases hR:iO f with
  | error e'=>rw [hS,hR] at hsh;exact hsh.elim
  | ok l=>
   rw [if_neg (by simp [sB])]
   have hs:=Ar hp hS
   show (match oK f m (nL (ofG f.blocks)) with | .ok _=>((0,0,0):Tr) | .error t=>t)=_
   unfold oK
   rw [Cx (by omega)]
   cases hW:wayE f with
   | error e=>rfl
   | ok s=>
    obtain ⟨⟩:=s
    have:=Az (f:=f) (m:=m) (idom:=nL (ofG f.blocks)) (by omega) hs fun a b h0 h1 h2 h3=>Cn (by omega) hW a b h0 h1 h2 h3
    show (match uAll (blkU f m (nL (ofG f.blocks)) (cR (ofG f.blocks))) f.blocks.length with | .ok _=>((0,0,0):Tr) | .error t=>t)=sB (uB f)
    rw [this]
    cases uB f<;>rfl
end Go.Proofs.Ytfelpjfopgiabaa
namespace Go.Proofs.Ytfelpjfopgiabaa
open Go Go.Lft
structure BlkR where
 phis:List PhiD
 ins:Raw
 term:dk
instance:Rep BlkR:=Rep.via fun d=>Cat.mk d.phis (Cat.mk d.ins d.term)
instance:Inhabited BlkR:=⟨⟨[],default,default⟩⟩
theorem mW {α β:Type} [Rep α] [Rep β] {H:View} {v:Value} {l:List α} {l2:List β} (h:SlRd H v l) (hn:Rep.n α=Rep.n β) (hl:l.length=l2.length) (hc : ∀ i (h1:i<l.length) (h2:i<l2.length) cs,Rep.rd H cs l[i]→Rep.rd H cs l2[i]):SlRd H v l2:=by
 obtain ⟨a,cap,rfl,h1,h2,h3⟩:=h
 refine ⟨a,cap,by rw [hl],by omega,by omega,?_⟩
 rcases h3 with rfl | ⟨ad,rfl,hs,hat⟩
 ·left;exact List.eq_nil_of_length_eq_zero (by rw [←hl];rfl)
 ·refine .inr ⟨ad,rfl,hs,fun i hi=>?_⟩
  obtain ⟨cs,g1,g2⟩:=hat i (by omega)
  rw [←hn]
  exact ⟨cs,g1,hc i (by omega) hi cs g2⟩
theorem GL {x:Int} : ∃ r:Nat,Bn.ev (.bits .and) (.int .i64 x) (.int .i64 65535)=some (.int .i64 r)∧r<65536:=by
 refine ⟨(BitVec.ofInt 64 x&&& BitVec.ofInt 64 65535).toNat,?_,?_⟩
 ·have hlt:(BitVec.ofInt 64 x&&& BitVec.ofInt 64 65535).toNat≤65535:=by
   rw [BitVec.toNat_and]
   exact Nat.le_trans Nat.and_le_right (by decide)
  have e:Bn.ev (.bits .and) (.int .i64 x) (.int .i64 65535)=some (.int .i64 (IntKind.i64.wrap ((BitVec.ofInt 64 x&&& BitVec.ofInt 64 65535).toNat))):=rfl
  rw [e,cQ (by omega) (by omega)]
 ·rw [BitVec.toNat_and]
  exact Nat.lt_of_le_of_lt Nat.and_le_right (by decide)
end Go.Proofs.Ytfelpjfopgiabaa
namespace Go.Lft
open Go
variable {po:OP}
theorem FE {P:Program} {t ty:TypeId} {us:List (Nat × Value)} {h:Heap} {K:Value→Heap→Prop} {x:Operand} {n:Int} (hx:asg us x = .int .i64 n) (hk:K (.int .i64 (IntKind.i64.wrap (-n))) h):step P (.unOp .neg t x) ty us h K:=by
 refine dC (dv fun w hw=>⟨.int .i64 (IntKind.i64.wrap (-n)),w,?_,Same.refl _,by rw [hw];exact hk⟩)
 simp only [bW,execOp,hx]
 simp [Op.unary,Op.intArith]
end Go.Lft
namespace Go.Proofs.Ytfelpjfopgiabaa
open Go Go.Lft
structure MS where
 at_:Nat
 ps:Int
 blocks:List BlkD
 next:Int
 live:List Int
def MS.took (m:MS):MS:={ m with at_:=m.at_+1 }
def MS.aJ (m:MS):MS:={ m with next:=m.next+1 }
structure BlkM where
 phis:Raw
 ins:Raw
 term:dk
instance:Rep BlkM:=Rep.via fun d=>Cat.mk d.phis (Cat.mk d.ins d.term)
instance:Inhabited BlkM:=⟨⟨default,default,default⟩⟩
theorem BlkM.pG:Part BlkM Raw 0 BlkM.phis (fun d x=>{ d with phis:=x }):=(Part.fst Part.all).via (fun _=>rfl) fun _ _=>rfl
theorem BlkM.j0:Part BlkM Raw 1 BlkM.ins (fun d x=>{ d with ins:=x }):=(Part.snd (Part.fst Part.all)).via (fun _=>rfl) fun _ _=>rfl
theorem BlkM.pU:Part BlkM dk 2 BlkM.term (fun d x=>{ d with term:=x }):=(Part.snd (Part.snd Part.all)).via (fun _=>rfl) fun _ _=>rfl
theorem yy {H:View} {cs:List Value} {d:BlkM} {p:List PhiD} {i:List InsD} (h:Rep.rd H cs d) (hp:SlRd H d.phis.v p) (hi:SlRd H d.ins.v i):Rep.rd H cs (BlkD.mk p i d.term):=by
 obtain ⟨c1,r1,e1,⟨h1,_⟩,c2,r2,e2,⟨h2,_⟩,h3⟩:=h
 have h1:c1=[d.phis.v]:=h1
 have h2:c2=[d.ins.v]:=h2
 exact ⟨c1,r1,e1,⟨d.phis.v,h1,hp⟩,c2,r2,e2,⟨d.ins.v,h2,hi⟩,h3⟩
structure MkB (M:Nat) (vs:Value) (m:MS) (o:Own) (vb vl:Value) (lb:List BlkM):Prop where
 box:o (0,0)=bx T.aL M (RawN.mk (n:=5) (mkL vs m.at_ m.ps vb m.next vl))
 live:o (0,1)=it T.int vl m.live
 blk:o (0,2)=it T.al vb lb
 len:lb.length=m.blocks.length
 term : ∀ i,i<m.blocks.length→(nth lb i).term=(nth m.blocks i).term
 phis : ∀ i,i<m.blocks.length→o (1,i)=it T.cm (nth lb i).phis.v (nth m.blocks i).phis
 ins : ∀ i,i<m.blocks.length→o (2,i)=it T.aX (nth lb i).ins.v (nth m.blocks i).ins
structure Mk (s:List Int) (M:Nat) (vs:Value) (W:View) (h:Heap) (o:Own) (m:MS):Prop where
 own:Owns W h o
 src:SlRd W vs s
 box : ∃ vb vl lb,MkB M vs m o vb vl lb
def Nx (s:List Int) (M:Nat) (vs:Value) (W:View) (h:Heap) (o:Own) (m:MS):Prop:=∃ W' o',W.le W'∧Mk s M vs W' h o' m∧∀ k:Key,3≤k.1→o' k=o k
variable {s:List Int} {M:Nat} {vs:Value} {W:View} {h:Heap} {o:Own} {m:MS}
theorem Mk.nx (w:Mk s M vs W h o m):Nx s M vs W h o m:=⟨W,o,View.le_refl _,w,fun _ _=>rfl⟩
theorem Nx.trans {W':View} {o':Own} (hW:W.le W') (ho : ∀ k:Key,3≤k.1→o' k=o k) (n:Nx s M vs W' h o' m):Nx s M vs W h o m:=by
 obtain ⟨W2,o2,h1,h2,h3⟩:=n
 exact ⟨W2,o2,View.le_trans hW h1,h2,fun k hk=>(h3 k hk).trans (ho k hk)⟩
theorem MkB.at {vb vl:Value} {lb:List BlkM} (b:MkB M vs m o vb vl lb) {at_:Nat} {next:Int}:MkB M vs { m with at_:=at_,next:=next } (o.upd (0,0) (bx T.aL M (RawN.mk (n:=5) (mkL vs at_ m.ps vb next vl)))) vb vl lb:=
 ⟨rfl,b.live,b.blk,b.len,b.term,fun i hi=>b.phis i hi,fun i hi=>b.ins i hi⟩
theorem kP {k:Key} {i:Option Lft.Item} (hk:k.1<3) : ∀ q:Key,3≤q.1→o.upd k i q=o q:=fun q hq=>Own.ab fun e=>by rw [e] at hq;omega
theorem bK {k:Key} {i j:Option Lft.Item} (q:Key):(o.upd k i).upd k j q=o.upd k j q:=by
 unfold Own.upd;split<;>rfl
theorem Mk.take (w:Mk s M vs W h o m) {n:Int} (h1:m.at_≤1000000000) (hn:0<n) (hn2:n≤1000000000) :
  aI Try.prog N.bO #[.pointer (some ⟨M,0,none⟩),.int .i64 n] h (fun u h'=>u = .int .i64 (aB s m.at_ n)∧∃ o',Mk s M vs W h' o' m.took∧∀ k:Key,3≤k.1→o' k=o k):=by
 obtain ⟨vb,vl,lb,b⟩:=w.box
 refine (DO w.own b.box w.src h1 hn hn2).mono ?_
 rintro u h' ⟨rfl,w2⟩
 exact ⟨rfl,_,⟨w2,w.src,vb,vl,lb,b.at⟩,kP (by decide)⟩
theorem Mk.fresh (w:Mk s M vs W h o m) (h0:0≤m.next) (h1:m.next≤1000000000) :
  aI Try.prog N.bH #[.pointer (some ⟨M,0,none⟩)] h (fun u h'=>u = .int .i64 m.next∧∃ o',Mk s M vs W h' o' m.aJ∧∀ k:Key,3≤k.1→o' k=o k):=by
 obtain ⟨vb,vl,lb,b⟩:=w.box
 refine (xH w.own b.box h0 h1).mono ?_
 rintro u h' ⟨rfl,w2,-⟩
 exact ⟨rfl,_,⟨w2,w.src,vb,vl,lb,b.at⟩,kP (by decide)⟩
theorem ke {x:Int}:-2147483648≤IntKind.i32.wrap x∧IntKind.i32.wrap x≤2147483647:=by
 rw [IntKind.wrap_i32];omega
def gH (s:List Int) (m:MS):Int:=
 if aB s (m.at_+1) 8=0 then IntKind.i32.wrap (IntKind.i64.wrap (aB s m.at_ 1048576*4099))
 else if aB s (m.at_+1) 8=1 then IntKind.i32.wrap (IntKind.i64.wrap (-aB s m.at_ 1048576))
 else if aB s (m.at_+1) 8=2 then -2147483648
 else if aB s (m.at_+1) 8=3 then IntKind.i32.wrap ((aB s m.at_ 1048576).tmod 70000)
 else IntKind.i32.wrap (IntKind.i64.wrap ((aB s m.at_ 1048576).tmod 20-4))
theorem nf:-2147483648≤gH s m∧gH s m≤2147483647:=by
 unfold gH
 repeat' split
 all_goals first | exact ke | decide
theorem Mk.word (w:Mk s M vs W h o m) (h1:m.at_≤999999990) :
  aI Try.prog N.cA #[.pointer (some ⟨M,0,none⟩)] h (fun u h'=>u = .int .i32 (gH s m)∧∃ o',Mk s M vs W h' o' m.took.took∧∀ k:Key,3≤k.1→o' k=o k):=by
 refine aA (args:=[.pointer (some ⟨M,0,none⟩)]) follows F.cA E.cA (Nat.le_of_ble_eq_true (by kernel_rfl)) fun K hK=>?_
 dsimp only [L.cA]
 refine aa fun z hz=>?_
 simp
 rw [hz];clear hz z
 refine aa fun z hz=>?_
 simp
 refine aj (by kernel_rfl) (w.take (by omega) (n:=1048576) (by decide) (by decide)) ?_
 rintro _ h2 ⟨rfl,o2,w2,f2⟩
 rw [hz];clear hz z
 refine aa fun z hz=>?_
 simp
 refine aj (by kernel_rfl) (w2.take (show m.at_+1≤_ by omega) (n:=8) (by decide) (by decide)) ?_
 rintro _ h3 ⟨rfl,o3,w3,f3⟩
 have hx:m.took.at_=m.at_+1:=rfl
 rw [hx]
 have hf : ∀ k:Key,3≤k.1→o3 k=o k:=fun k hk=>(f3 k hk).trans (f2 k hk)
 have hwd:gH s m=_:=gH.eq_1 s m
 generalize gH s m=r at hwd hK
 generalize aB s (m.at_+1) 8=q at hwd
 generalize aB s m.at_ 1048576=x at hwd
 by_cases c0:q=0
 ·rw [if_pos c0] at hwd
  simp [c0]
  exact hK _ _ ⟨by rw [hwd],_,w3,hf⟩
 rw [if_neg c0] at hwd
 by_cases c1:q=1
 ·rw [if_pos c1] at hwd
  simp [c1]
  refine FE rfl ?_
  simp
  exact hK _ _ ⟨by rw [hwd],_,w3,hf⟩
 rw [if_neg c1] at hwd
 by_cases c2:q=2
 ·rw [if_pos c2] at hwd
  simp [c2]
  exact hK _ _ ⟨by rw [hwd],_,w3,hf⟩
 rw [if_neg c2] at hwd
 by_cases c3:q=3
 ·rw [if_pos c3] at hwd
  simp [c3]
  exact hK _ _ ⟨by rw [hwd],_,w3,hf⟩
 rw [if_neg c3] at hwd
 simp [c0,c1,c2,c3]
 rw [hz];clear hz z
 simp
 exact hK _ _ ⟨by rw [hwd],_,w3,hf⟩
end Go.Proofs.Ytfelpjfopgiabaa
namespace Go.Proofs.Ytfelpjfopgiabaa
open Go Go.Lft
def MS.add (m:MS) (b:Nat) (i:InsD):MS:={ m with blocks:=m.blocks.set b { nth m.blocks b with ins:=(nth m.blocks b).ins++[i] },live:=m.live++aU i }
def conD (v:Int) (n:Int):InsD:=⟨1,v,0,[],⟨n⟩⟩
def MS.constant (m:MS) (b:Nat) (n:Int):MS:=m.aJ.add b (conD m.next n)
def qz (s:List Int) (m:MS):Int:=nth m.live (if aB s (m.at_+1) 3=0 then m.live.length-1 else (aB s m.at_ m.live.length).toNat)
def zV (s:List Int) (m:MS) (b:Nat):MS:=(m.took.took).constant b (gH s m)
def aD (s:List Int) (m:MS) (b:Nat):Int × MS:=
 if m.live.length=0 then (m.next,zV s m b)
 else if aB s (m.at_+2) 9=0 then (m.next,zV s m.took.took.took b)
 else (qz s m,m.took.took.took)
def MS.two (m:MS) (b:Nat) (op x y:Int):MS:=m.aJ.add b ⟨op,m.next,0,[x,y],⟨0⟩⟩
def binS (s:List Int) (m:MS) (b:Nat) (op:Int):MS:=
 let r1:=aD s m b
 let r2:=aD s r1.2 b
 if aB s r2.2.at_ 3=0 then
  (r2.2.took.took.constant b (IntKind.i32.wrap (IntKind.i64.wrap (aB s (r2.2.at_+1) 40-8)))).two b op r1.1 r2.2.next
 else r2.2.took.two b op r1.1 r2.1
def ltuS (s:List Int) (m:MS) (b:Nat):MS:=
 let r1:=aD s m b
 let r2:=aD s r1.2 b
 r2.2.two b 13 r1.1 r2.1
def divS (s:List Int) (m:MS) (b:Nat):MS:=
 let r1:=aD s m b
 let m2:=r1.2.took.constant b (IntKind.i32.wrap (aB s r1.2.at_ 12))
 if 0<aB s m2.at_ 3 then
  (m2.took.took.constant b (IntKind.i32.wrap (1+IntKind.i32.wrap (aB s (m2.at_+1) 12)))).two b 14 r1.1 m2.next
 else m2.took.two b 14 r1.1 r1.2.next
def px (s:List Int) (m:MS) (b:Nat):MS:=
 let r1:=aD s m b
 let r2:=aD s r1.2 b
 r2.2.aJ.aJ.add b ⟨18,r2.2.next,r2.2.next+1,[r1.1,r2.1],⟨0⟩⟩
def eu (s:List Int) (b:Nat):Nat→List Int × MS→List Int × MS:=fun _ x=>(x.1++[(aD s x.2 b).1],(aD s x.2 b).2)
def jY (s:List Int) (m:MS) (b:Nat):MS:=
 let r:=up (eu s b) (aB s m.at_ 5).toNat ([],m.took)
 r.2.aJ.took.add b ⟨17,r.2.next,0,r.1,⟨IntKind.i32.wrap (aB s r.2.at_ 5)⟩⟩
def gF (s:List Int) (m:MS) (b:Nat):Int × MS:=
 let m1:=m.took.constant b (IntKind.i32.wrap (aB s m.at_ 9))
 if aB s m1.at_ 3=0 then
  let r:=aD s m1.took b
  let m3:=(r.2.constant b 7).two b 5 r.1 r.2.next
  (m3.next,m3.two b 2 m.next (r.2.next+1))
 else (m.next,m1.took)
def offS (s:List Int) (m:MS):Int × MS:=
 if aB s (m.at_+1) 12=0 then (gH s m.took.took,m.took.took.took.took) else (IntKind.i32.wrap (aB s m.at_ 4),m.took.took)
def fV (s:List Int) (m:MS) (b:Nat) (store:Bool):MS:=
 let a:=gF s m b
 let i:=offS s a.2
 if store then (aD s i.2 b).2.add b ⟨16,0,0,[a.1,(aD s i.2 b).1],⟨i.1⟩⟩
 else i.2.aJ.add b ⟨15,i.2.next,0,[a.1],⟨i.1⟩⟩
def opsL:List Int:=[2,2,3,4,5,6,7,8,9,10,12,11]
def aF (s:List Int) (b:Nat) (m:MS):MS:=
 let k:=aB s m.at_ 20
 if k<12 then binS s m.took b (nth opsL k.toNat)
 else if k=12 then ltuS s m.took b
 else if k=13 then divS s m.took b
 else if k<16 then fV s m.took b (decide (k=15))
 else if k=16 then jY s m.took b
 else if k=17 then px s m.took b
 else m.took.took.took.constant b (gH s m.took)
end Go.Proofs.Ytfelpjfopgiabaa
namespace Go.Proofs.Ytfelpjfopgiabaa
open Go Go.Lft
theorem xe {H:View} {b n:Nat} {cs:List Value} (hc:eJ H ⟨b,0,none⟩ cs) (hl:cs.length=n):Un.ev H (.an n) (.pointer (some ⟨b,0,none⟩))=some (.agg cs.toArray):=by
 have:=fC hc n 0 #[] (by omega)
 simp only [Un.ev,vP,Option.bind_some]
 rw [this]
 simp [←hl]
theorem As {H:View} {b n:Nat} {cs:Array Value} {t:TypeId} (hb:H b=some (.cells cs t (0,0))) (hl:cs.size=n):Un.ev H (.an n) (.pointer (some ⟨b,0,none⟩))=some (.agg cs):=by
 have:eJ H ⟨b,0,none⟩ cs.toList:=⟨cs,t,(0,0),rfl,hb,by simp [List.take_of_length_le]⟩
 simpa using xe this (by simpa using hl)
theorem MkB.E8 {s:List Int} {M:Nat} {vs:Value} {W:View} {h:Heap} {o:Own} {m:MS} {vb vl:Value} {lb:List BlkM} (w:Owns W h o) (b:MkB M vs m o vb vl lb) :
  ∃ X:View,W.le X∧X.le (vw h)∧(∀ i,i≤5→ao X ⟨M,i,none⟩=some ((mkL vs m.at_ m.ps vb m.next vl).getD i undef))∧SlRd X vb lb∧Av X vl∧∀ i,i<m.blocks.length→Av X (nth lb i).phis.v∧Av X (nth lb i).ins.v:=by
 obtain ⟨w5,s5⟩:=w.freeze (k:=(0,0)) (v:=.slice (some ⟨M,0,none⟩) 1 1) (l:=[RawN.mk (n:=5) (mkL vs m.at_ m.ps vb m.next vl)]) b.box
 have hb2:o.upd (0,0) none (0,2)=it T.al vb lb:=b.blk
 obtain ⟨w6,s6⟩:=w5.freeze (k:=(0,2)) (v:=vb) (l:=lb) hb2
 have s5:=s5.mono (di (h:=h) (w5.av (0,2) _ hb2))
 refine ⟨_,View.le_trans (di (h:=h) (w.av (0,0) _ b.box)) (di (h:=h) (w5.av (0,2) _ hb2)),w6.wle,fun i hi=>?_,s6,w6.av (0,1) _ b.live,fun i hi=>⟨w6.av (1,i) _ (b.phis i hi),w6.av (2,i) _ (b.ins i hi)⟩⟩
 have:=((s5.at (i:=0) (by simp)).part (RawN.p (n:=5) (o:=i) hi)).raw
 simpa [slA] using this
variable {s:List Int} {M:Nat} {vs:Value} {W:View} {h:Heap} {o:Own} {m:MS}
theorem MkB.cell {vb vl:Value} {lb:List BlkM} (w:Owns W h o) (b:MkB M vs m o vb vl lb) {i:Nat} (hi:i≤5):ao (vw h) ⟨M,i,none⟩=some ((mkL vs m.at_ m.ps vb m.next vl).getD i undef):=w.raw b.box hi
theorem MkB.a7 {vb vl:Value} {lb:List BlkM} (bb:MkB M vs m o vb vl lb) {b:Nat} (hb:b<m.blocks.length) {x':BlkD} {y':BlkM} {o':Own} (hy:y'.term=x'.term) (h02:o' (0,2)=it T.al vb (lb.set b y')) (h1:o' (1,b)=it T.cm y'.phis.v x'.phis) (h2:o' (2,b)=it T.aX y'.ins.v x'.ins)
  (ho : ∀ q:Key,q≠(0,2)→q≠(1,b)→q≠(2,b)→o' q=o q):MkB M vs { m with blocks:=m.blocks.set b x' } o' vb vl (lb.set b y'):=by
 have hbl:b<lb.length:=by rw [bb.len];exact hb
 refine ⟨(ho _ (by simp) (by simp) (by simp)).trans bb.box,(ho _ (by simp) (by simp) (by simp)).trans bb.live,h02,by simp [bb.len],fun j hj=>?_,fun j hj=>?_,fun j hj=>?_⟩
 all_goals
  have hj:j<m.blocks.length:=by simpa using hj
  have hjl:j<lb.length:=by rw [bb.len];exact hj
  show _=_
  simp only [aK hj,aK hjl]
  by_cases e:b=j
  ·subst e
   simp only [if_true]
   assumption
  ·simp only [if_neg e]
   first
    | exact bb.term j hj
    | exact (ho _ (by simp) (fun q=>e (by injection q with _ q;exact q.symm)) (by simp)).trans (bb.phis j hj)
    | exact (ho _ (by simp) (by simp) (fun q=>e (by injection q with _ q;exact q.symm))).trans (bb.ins j hj)
theorem Mk.value (w:Mk s M vs W h o m) (h1:m.at_≤999999990) (hl:m.live.length≤1000000000) :
  aI Try.prog N.cI #[.pointer (some ⟨M,0,none⟩)] h (fun u h'=>(m.live.length=0∧u = .tuple #[.int .i64 0,.bool false]∧h'=h)∨(m.live.length≠0∧u = .tuple #[.int .i64 (qz s m),.bool true]∧I64 (qz s m)∧∃ o',Mk s M vs W h' o' m.took.took∧∀ k:Key,3≤k.1→o' k=o k)):=by
 refine aA (args:=[.pointer (some ⟨M,0,none⟩)]) follows F.cI E.cI (Nat.le_of_ble_eq_true (by kernel_rfl)) fun K hK=>?_
 obtain ⟨vb,vl,lb,b⟩:=w.box
 have c5:ao (vw h) ⟨M,5,none⟩=some vl:=b.cell w.own (i:=5) (by decide)
 have hsl:=w.own.now b.live
 dsimp only [L.cI]
 refine aa fun z hz=>?_
 simp
 rw [hz];clear hz z
 refine aa fun z hz=>?_
 by_cases h0:m.live.length=0
 ·have h0':m.live=[]:=List.eq_nil_of_length_eq_zero h0
  simp [c5,hsl.len,h0]
  exact hK _ _ (.inl ⟨h0,rfl,rfl⟩)
 ·have h0':¬(m.live=[]):=fun e=>h0 (by rw [e];rfl)
  simp [c5,hsl.len,h0']
  rw [hz];clear hz z
  refine aa fun z hz=>?_
  simp [c5,hsl.len]
  refine aj (by kernel_rfl) (w.take (by omega) (n:=(m.live.length:Int)) (by omega) (by omega)) ?_
  rintro _ h2 ⟨rfl,o2,w2,f2⟩
  rw [hz];clear hz z
  refine aa fun z hz=>?_
  simp
  refine aj (by kernel_rfl) (w2.take (show m.at_+1≤_ by omega) (n:=3) (by decide) (by decide)) ?_
  rintro _ h3 ⟨rfl,o3,w3,f3⟩
  have hx:m.took.at_=m.at_+1:=rfl
  rw [hx]
  have hf : ∀ k:Key,3≤k.1→o3 k=o k:=fun k hk=>(f3 k hk).trans (f2 k hk)
  have hv:qz s m=_:=qz.eq_1 s m
  obtain ⟨vb3,vl3,lb3,b3⟩:=w3.box
  have c53:ao (vw h3) ⟨M,5,none⟩=some vl3:=b3.cell w3.own (i:=5) (by decide)
  have hsl3:SlRd (vw h3) vl3 m.live:=w3.own.now b3.live
  obtain ⟨r0,r1⟩:=aZ (s:=s) (at_:=m.at_) (n:=(m.live.length:Int)) (by omega)
  generalize aB s m.at_ m.live.length=x at hv r0 r1
  generalize aB s (m.at_+1) 3=q at hv
  obtain ⟨i,hi,hvi,hii⟩ : ∃ i:Nat,i<m.live.length∧qz s m=nth m.live i∧(i:Int)=if q=0 then (m.live.length:Int)-1 else x:=by
   by_cases c:q=0
   ·rw [if_pos c] at hv ⊢
    exact ⟨m.live.length-1,by omega,hv,by omega⟩
   ·rw [if_neg c] at hv ⊢
    exact ⟨x.toNat,by omega,hv,by omega⟩
  have h64:IntKind.i64.wrap ((m.live.length:Int)-1)=(m.live.length:Int)-1:=cQ (by omega) (by omega)
  have fin : ∀ ρ:Env,ρ=[(0,.pointer (some ⟨M,0,none⟩)),(2,.int .i64 0),(3,.bool false),(4,.int .i64 i),(17,.int .i64 x),(19,.int .i64 q)]→LC.wp Try.prog z (dG [.tmp 2,.tmp 3] K) ρ h3:=by
   rintro _ rfl
   rw [hz];clear hz z
   refine aa fun z hz=>?_
   simp (disch:=omega) [c53,hsl3.idx1 rfl,hsl3.int (View.le_refl _)]
   rw [hz];clear hz z
   simp
   exact hK _ _ (.inr ⟨h0,by rw [hvi],by rw [hvi];exact hsl3.range hi,o3,w3,hf⟩)
  by_cases c:q=0
  ·rw [if_pos c] at hii
   simp [c,c53,hsl3.len,h64]
   refine fin _ ?_
   rw [hii,c]
  ·rw [if_neg c] at hii
   simp [c]
   refine fin _ ?_
   rw [hii]
theorem Mk.add (w:Mk s M vs W h o m) {b:Nat} {i:InsD} {v:Value} (hb:b<m.blocks.length) (hi:Rd W v i) (hn:(nth m.blocks b).ins.length≤100000000) (hl:m.live.length≤100000000) :
    aI Try.prog N.cO #[.pointer (some ⟨M,0,none⟩),.int .i64 b,v] h (fun u h'=>Nx s M vs W h' o (m.add b i)):=by
  refine aA (args:=[.pointer (some ⟨M,0,none⟩),.int .i64 b,v]) follows F.cO E.cO (Nat.le_of_ble_eq_true (by kernel_rfl)) fun K hK=>?_
  obtain ⟨vb,vl,lb,bb⟩:=w.box
  obtain ⟨va,rfl,hir,hia⟩:=qV hi
  dsimp only [L.cO]
  refine aa fun z hz=>?_
  simp
  refine ez rfl (hi.mono w.own.wle) fun h1 e1 hle1 hs1 hat=>?_
  have w1:=w.own.ext hle1
  have hbx:(grow W h h1) h.size=some (.cells #[.int .i64 i.op,.int .i64 i.dst,.int .i64 i.two,va,.int .i32 i.imm.v] T.aX (0,0)):=by
    rw [cN (Nat.le_refl _),e1];simp [Value.cells]
  have hi1:=hi.mono (aW (h':=h1) w.own.wle)
  have src1:=w.src.mono (aW (h':=h1) w.own.wle)
  have hW1:=aW (h':=h1) w.own.wle
  clear hat e1
  have hld:=As hbx (n:=5) rfl
  generalize grow W h h1=W1 at w1 hld hi1 src1 hW1
  generalize h.size=B at hld
  rw [hz];clear hz z
  refine aa fun z hz=>?_
  obtain ⟨X,hWX,hX,cX,sX,avl,avX⟩:=bb.E8 (s:=s) w1
  have c3:ao X ⟨M,3,none⟩=some vb:=cX 3 (by decide)
  have hbl:b<lb.length:=by rw [bb.len];exact hb
  have a1:=(sX.at hbl).part BlkM.j0
  have hsv:=sX.bound
  have a2:ao X (((slA vb).add (b*6)).add 1)=some (nth lb b).ins.v:=by rw [aq hbl];exact a1.raw
  have hldX:Un.ev X (.an 5) (.pointer (some ⟨B,0,none⟩))=some (.agg #[.int .i64 i.op,.int .i64 i.dst,.int .i64 i.two,va,.int .i32 i.imm.v]):=by
    have:=ck (ρ:=fun _=>none) (e:=.un (.an 5) (.con (.pointer (some ⟨B,0,none⟩)))) hWX (by simpa using hld)
    simpa using this
  refine cg X hX ?_
  simp (disch:=omega) [c3,sX.idxn (N:=6) rfl,a2,hldX]
  refine jI (α:=InsD) (W:=W1) (d:=i) El.ey rfl hi1 fun u5 h5 src hle5 hs5=>⟨View.le_trans hX hle5,?_⟩
  refine (w1.ext' hle5).bs (k:=(2,b)) (α:=InsD) (v:=(nth lb b).ins.v) (l:=(nth m.blocks b).ins) (l2:=[i]) (bb.ins b hb) El.ey rfl rfl src (by simp;omega) (by simp;omega) fun v6 h6 w6 m6=>⟨(m6.view (View.le_trans hX hle5) (avX b hb).2).1,?_⟩
  have hv6:=(w6.cells (k:=(2,b)) Own.ag).2
  refine w6.iX (k:=(0,2)) (α:=BlkM) BlkM.j0 (v:=vb) (l:=lb) (i:=b) (d:=⟨v6⟩) bb.blk (by kernel_rfl) rfl rfl hbl (kl.2 ⟨rfl,hv6⟩) fun h7 w7 _=>?_
  have b7:=bb.a7 hb (x':={ nth m.blocks b with ins:=(nth m.blocks b).ins++[i] }) (y':={ lb[b] with ins:=⟨v6⟩ }) (o':=(o.upd (2,b) (it T.aX v6 ((nth m.blocks b).ins++[i]))).upd (0,2) (it T.al vb (lb.set b { lb[b] with ins:=⟨v6⟩ }))) (by rw [←bb.term b hb,aq hbl]) Own.ag (by rw [←aq hbl];exact bb.phis b hb) ((Own.ab (by simp)).trans Own.ag) (fun q h1 h2 h3=>by rw [Own.ab h1,Own.ab h3])
  generalize hm7:({ m with blocks:=m.blocks.set b { nth m.blocks b with ins:=(nth m.blocks b).ins++[i] } }:MS)=m7 at b7
  have hadd:m.add b i={ m7 with live:=m.live++aU i }:=by rw [←hm7];rfl
  have hl7:m7.live=m.live:=by rw [←hm7]
  have hf7 : ∀ k:Key,3≤k.1→((o.upd (2,b) (it T.aX v6 ((nth m.blocks b).ins++[i]))).upd (0,2) (it T.al vb (lb.set b { lb[b] with ins:=⟨v6⟩ }))) k=o k:=fun k hk=>by
    rw [Own.ab (by rintro rfl;simp at hk),Own.ab (by rintro rfl;simp at hk)]
  generalize (o.upd (2,b) (it T.aX v6 ((nth m.blocks b).ins++[i]))).upd (0,2) (it T.al vb (lb.set b { lb[b] with ins:=⟨v6⟩ }))=o7 at w7 b7 hf7
  generalize lb.set b { lb[b] with ins:=⟨v6⟩ }=lb7 at b7
  clear src avX m6
  rw [hz];clear hz z
  refine aa fun z hz=>?_
  have hld7:Un.ev (vw h7) (.an 5) (.pointer (some ⟨B,0,none⟩))=some (.agg #[.int .i64 i.op,.int .i64 i.dst,.int .i64 i.two,va,.int .i32 i.imm.v]):=by
    have:=ck (ρ:=fun _=>none) (e:=.un (.an 5) (.con (.pointer (some ⟨B,0,none⟩)))) w7.wle (by simpa using hld)
    simpa using this
  simp [hld7]
  refine aj (by kernel_rfl) (mc (hi1.mono w7.wle)) ?_
  rintro u8 h8 ⟨hle8,hu8,-⟩
  have w8:=w7.ext hle8
  have hu8:SlRd (grow W1 h7 h8) u8 (aU i):=hu8.mono (th (Nat.le_refl _) (View.le_refl _))
  have hW8:=aW (h':=h8) w7.wle
  generalize grow W1 h7 h8=W8 at w8 hu8 hW8
  rw [hz];clear hz z
  have c58:ao (vw h8) ⟨M,5,none⟩=some vl:=b7.cell w8 (i:=5) (by decide)
  have hmk:(aU i).length≤2:=by
                                         unfold aU;repeat' split
                                         all_goals simp
  simp [c58]
  refine w8.bs (k:=(0,1)) (α:=Int) (v:=vl) (l:=m.live) (l2:=aU i) (by rw [←hl7];exact b7.live) El.aP rfl rfl (hu8.src w8.wle) (by omega) (by omega) fun v9 h9 w9 m9=>?_
  have hv9:=(w9.cells (k:=(0,1)) Own.ag).2
  have hbx9:(o7.upd (0,1) (it T.int v9 (m.live++aU i))) (0,0)=bx T.aL M (RawN.mk (n:=5) (mkL vs m7.at_ m7.ps vb m7.next vl)):=b7.box
  refine w9.bn (k:=(0,0)) (n:=5) (i:=5) (e:=T.aL) (B:=M) (l:=mkL vs m7.at_ m7.ps vb m7.next vl) hbx9 (by decide) (by kernel_rfl) rfl rfl hv9 fun h10 w10 _=>?_
  refine hK _ _ ⟨W8,_,View.le_trans hW1 hW8,⟨w10,src1.mono hW8,vb,v9,lb7,?_⟩,fun k hk=>?_⟩
  · rw [hadd]
    exact ⟨rfl,rfl,b7.blk,b7.len,b7.term,b7.phis,b7.ins⟩
  · rw [Own.ab (by rintro rfl;simp at hk),Own.ab (by rintro rfl;simp at hk)]
    exact hf7 k hk
end Go.Proofs.Ytfelpjfopgiabaa
namespace Go.Proofs.Ytfelpjfopgiabaa
open Go Go.Lft
structure MS.ok (c:Nat) (m:MS):Prop where
 at_:m.at_≤c
 n0:0≤m.next
 next:m.next≤c
 live:m.live.length≤c
 ins : ∀ i,(nth m.blocks i).ins.length≤c
theorem MS.ok.mono {c d:Nat} {m:MS} (h:m.ok c) (hd:c≤d):m.ok d:=
 ⟨by have:=h.at_;omega,h.n0,by have:=h.next;omega,by have:=h.live;omega,fun i=>by have:=h.ins i;omega⟩
theorem MS.ok.took {c:Nat} {m:MS} (h:m.ok c):m.took.ok (c+1):=
 ⟨by have:=h.at_;show m.at_+1≤_;omega,h.n0,by have:=h.next;show m.next≤_;omega,by have:=h.live;show m.live.length≤_;omega,fun i=>by have:=h.ins i;show (nth m.blocks i).ins.length≤_;omega⟩
theorem MS.ok.aJ {c:Nat} {m:MS} (h:m.ok c):m.aJ.ok (c+1):=
 ⟨by have:=h.at_;show m.at_≤_;omega,by have:=h.n0;show 0≤m.next+1;omega,by have:=h.next;show m.next+1≤_;omega,by have:=h.live;show m.live.length≤_;omega,fun i=>by have:=h.ins i;show (nth m.blocks i).ins.length≤_;omega⟩
theorem AW {i:InsD}:(aU i).length≤2:=by
 unfold aU
 repeat' split
 all_goals simp
theorem MS.ok.add {c b:Nat} {m:MS} {i:InsD} (h:m.ok c):(m.add b i).ok (c+2):=by
 refine ⟨by have:=h.at_;show m.at_≤_;omega,h.n0,by have:=h.next;show m.next≤_;omega,?_,fun j=>?_⟩
 ·have:=h.live
  have:=AW (i:=i)
  show (m.live++aU i).length≤_
  rw [List.length_append];omega
 ·show (nth (m.blocks.set b _) j).ins.length≤_
  have hj:=h.ins j
  rcases Nat.lt_or_ge j m.blocks.length with hl | hl
  ·rw [aK hl]
   split
   ·rename_i e
    subst e
    rw [List.length_append,List.length_singleton];omega
   ·omega
  ·rw [aV (by simpa using hl)]
   rw [aV hl] at hj;omega
theorem MS.ok.constant {c b:Nat} {m:MS} {n:Int} (h:m.ok c):(m.constant b n).ok (c+3):=h.aJ.add
theorem MS.ok.two {c b:Nat} {m:MS} {op x y:Int} (h:m.ok c):(m.two b op x y).ok (c+3):=h.aJ.add
variable {s:List Int} {M:Nat} {vs:Value} {W:View} {h:Heap} {o:Own} {m:MS}
theorem MS.ok.aD {c b:Nat} (h:m.ok c):(aD s m b).2.ok (c+10):=by
 unfold Go.Proofs.Ytfelpjfopgiabaa.aD
 repeat' split
 ·exact (h.took.took.constant).mono (by omega)
 ·exact (h.took.took.took.took.took.constant).mono (by omega)
 ·exact (h.took.took.took).mono (by omega)
theorem iT {b:Nat} {i:InsD}:(m.add b i).blocks.length=m.blocks.length:=by simp [MS.add]
theorem dh {b:Nat}:(aD s m b).2.blocks.length=m.blocks.length:=by
 unfold aD
 repeat' split
 all_goals simp [zV,MS.constant,iT,MS.took,MS.aJ]
theorem Mk.constant (w:Mk s M vs W h o m) {b c:Nat} {n:Int} (hb:b<m.blocks.length) (hm:m.ok c) (hc:c≤1000000) (hn:-2147483648≤n∧n≤2147483647) :
  aI Try.prog N.bC #[.pointer (some ⟨M,0,none⟩),.int .i64 b,.int .i32 n] h (fun u h'=>u = .int .i64 m.next∧Nx s M vs W h' o (m.constant b n)):=by
 refine aA (args:=[.pointer (some ⟨M,0,none⟩),.int .i64 b,.int .i32 n]) follows F.bC E.bC (Nat.le_of_ble_eq_true (by kernel_rfl)) fun K hK=>?_
 have q1:=hm.next
 have q0:=hm.n0
 dsimp only [L.bC]
 refine aa fun z hz=>?_
 simp
 rw [hz];clear hz z
 refine aa fun z hz=>?_
 simp
 refine aj (by kernel_rfl) (w.fresh q0 (by omega)) ?_
 rintro _ h2 ⟨rfl,o2,w2,f2⟩
 rw [hz];clear hz z
 refine aa fun z hz=>?_
 simp
 refine aN (z:=.agg #[.int .i64 0,.int .i64 0,.int .i64 0,.slice none 0 0,.int .i32 0]) (places:=[(0,1),(1,1),(2,1),(3,1),(4,1)]) (vs:=[(0,.int .i64 1),(1,.int .i64 m.next),(4,.int .i32 n)]) (cs:=#[.int .i64 1,.int .i64 m.next,.int .i64 0,.slice none 0 0,.int .i32 n]) (by kernel_rfl) (by kernel_rfl) (by simp) (by rfl) ?_
 have hm2:=hm.aJ
 refine aj (by kernel_rfl) (w2.add (i:=conD m.next n) hb (ji (imm:=⟨n⟩) ⟨⟨by decide,by decide⟩,⟨by omega,by omega⟩,⟨by decide,by decide⟩,hn⟩ dM) (by have:=hm2.ins b;omega) (by have:=hm2.live;omega)) ?_
 rintro u3 h3 n3
 rw [hz];clear hz z
 simp
 exact hK _ _ ⟨rfl,n3.trans (View.le_refl _) f2⟩
theorem zC (w:Mk s M vs W h o m) {b c:Nat} (hb:b<m.blocks.length) (hm:m.ok c) (hc:c≤999990) :
  aI Try.prog N.cz #[.pointer (some ⟨M,0,none⟩),.int .i64 b] h (fun u h'=>u = .int .i64 (aD s m b).1∧I64 (aD s m b).1∧Nx s M vs W h' o (aD s m b).2):=by
 refine aA (args:=[.pointer (some ⟨M,0,none⟩),.int .i64 b]) follows F.cz E.cz (Nat.le_of_ble_eq_true (by kernel_rfl)) fun K hK=>?_
 have qa:=hm.at_
 have ql:=hm.live
 have hsd:aD s m b=_:=aD.eq_1 s m b
 dsimp only [L.cz]
 refine aa fun z hz=>?_
 simp
 rw [hz];clear hz z
 refine aa fun z hz=>?_
 simp
 refine aj (by kernel_rfl) (w.value (by omega) (by omega)) ?_
 rintro u h2 hu
 have con : ∀ {m2:MS} {o2:Own} {h2:Heap} {ρ:Env} {z:LC},Mk s M vs W h2 o2 m2→(∀ k:Key,3≤k.1→o2 k=o k)→m2.ok (c+3)→b<m2.blocks.length→aD s m b=(m2.next,zV s m2 b)→Lft.look ρ 0=some (.pointer (some ⟨M,0,none⟩))→Lft.look ρ 1=some (.int .i64 b)→
   LC.wp Try.prog (.seq (.reg false (.loud [19,20,21] [(19,(.tmp 0)),(20,(.tmp 1))] [(21,(.tmp 0))] none [] false (.call ⟨.value (.func 58),#[(.tmp 21)],#[72]⟩) 21 (some 22) true
   (.loud [] [] [(19,(.tmp 19)),(20,(.tmp 20)),(22,(.tmp 22))] none [] false (.call ⟨.value (.func 57),#[(.tmp 19),(.tmp 20),(.tmp 22)],#[72,3,21]⟩) 3 (some 23) true
    (.fin [4] [(4,(.tmp 23))] [])))) .ret) (eS (LC.wp Try.prog z (dG [.tmp 4] K)) (dG [.tmp 4] K)) ρ h2:=by
  intro m2 o2 h2 ρ z w2 f2 k2 b2 e2 r0 r1
  refine aa fun y hy=>?_
  simp [r0,r1]
  refine aj (by kernel_rfl) (w2.word (by have:=k2.at_;omega)) ?_
  rintro _ h3 ⟨rfl,o3,w3,f3⟩
  simp [ae,af,r0,r1]
  refine aj (by kernel_rfl) (w3.constant (n:=gH s m2) b2 k2.took.took (by omega) nf) ?_
  rintro _ h4 ⟨rfl,n4⟩
  rw [hy];clear hy y
  simp [ae,af]
  refine hK _ _ ⟨by rw [e2];rfl,by rw [e2];have:=k2.n0;have:=k2.next;exact ⟨by show _≤m2.next;omega,by show m2.next≤_;omega⟩,?_⟩
  rw [e2]
  exact n4.trans (View.le_refl _) fun k hk=>(f3 k hk).trans (f2 k hk)
 rcases hu with ⟨h0,rfl,rfl⟩ | ⟨h0,rfl,hi64,o2,w2,f2⟩
 ·rw [if_pos h0] at hsd
  simp
  rw [hz];clear hz z
  refine aa fun z hz=>?_
  refine aa fun y hy=>?_
  simp
  rw [hy];clear hy y
  refine ay (by simp) ?_
  exact con w (fun _ _=>rfl) (hm.mono (by omega)) hb hsd (by simp [ae,af]) (by simp [ae,af])
 ·rw [if_neg h0] at hsd
  simp
  rw [hz];clear hz z
  refine aa fun z hz=>?_
  refine aa fun y hy=>?_
  simp
  have k2:=hm.took.took
  refine aj (by kernel_rfl) (w2.take (by have:=k2.at_;omega) (n:=9) (by decide) (by decide)) ?_
  rintro _ h3 ⟨rfl,o3,w3,f3⟩
  have hx:m.took.took.at_=m.at_+2:=rfl
  rw [hx]
  simp
  rw [hy];clear hy y
  by_cases c9:aB s (m.at_+2) 9=0
  ·rw [if_pos c9] at hsd
   refine ay (by simp [c9]) ?_
   exact con w3 (fun k hk=>(f3 k hk).trans (f2 k hk)) k2.took hb hsd (by simp [ae,af]) (by simp [ae,af])
  ·rw [if_neg c9] at hsd
   refine aw (by simp [c9]) ?_
   simp
   rw [hz];clear hz z
   simp
   refine hK _ _ ⟨by rw [hsd],by rw [hsd];exact hi64,?_⟩
   rw [hsd]
   exact w3.nx.trans (View.le_refl _) fun k hk=>(f3 k hk).trans (f2 k hk)
end Go.Proofs.Ytfelpjfopgiabaa
