/- A part of the proof: Wl, Wm, Wn, Wo, Wq, Wr, Ws, Wt, Ha, Hb, Hc, Pa, Pb, Pd, Pc, Pe, Pf, Pg, Ph, Hd, He, Hf, Hg. -/
import Derived.Test.YtfelpjfopgiabaaZMoved2
set_option linter.unusedSimpArgs false
set_option linter.unusedVariables false
namespace Go.Proofs.Ytfelpjfopgiabaa
open Go Go.Lft
def mw (row:List Int) (n:Int) (i:Nat):Bool:=decide (0≤nth row i)&&decide (nth row i<n)
def js (row:List Int) (n:Int):List Int:=Lib.compact (lV (sift (mw row n) (fun i=>nth row i) row.length))
theorem Ah {row:List Int} {n:Int} {vr:Value} {h:Heap} (hr:SlRd (vw h) vr row) (hs:row.length≤1000000) :
  aI Try.prog N.eo #[vr,.int .i64 n] h (fun v h'=>∃ W,Mine nothing h h' W T.int v (js row n)):=by
 refine aA (args:=[vr,.int .i64 n]) follows F.eo E.eo (Nat.le_of_ble_eq_true (by kernel_rfl)) fun K hK=>?_
 simp [L.eo,hr.len]
 refine bc [0,1,5,8,9,10] (fun (v:Value) k=>[vr,.int .i64 n,v,vr,.int .i64 row.length,.int .i64 k]) (fun v k h1=>Mine nothing h h1 nothing T.int v (sift (mw row n) (fun i=>nth row i) k)) row.length (.slice none 0 0)
  rfl (by omega) rfl (Mine.start (fun _ _ h=>by cases h)) (fun _ _=>rfl) (fun v k h1 hk m=>by simp) ?_ ?_
 ·intro v k h1 hlt m K2 hK2
  have hr1:=hr.mono m.old
  have hrange:=hr.range hlt
  have:=kD (p:=mw row n) (x:=fun i=>nth row i) k
  simp (disch:=omega) [hr1.idx1 rfl,hr1.int (View.le_refl _),iP,-Bool.and_eq_true,-Bool.and_eq_false_imp]
  refine ⟨fun he=>?_,fun he=>hK2 v _ _ rfl rfl (by rw [jM (show mw row n k=false from he)];exact m)⟩
  refine m.push El.aP (by simp<;>rfl) (jy hrange.1 hrange.2) (by omega) (by omega) (fun _=>by simp) (fun _=>by simp) fun u v' h3 m'=>hK2 v' _ _ rfl rfl (by rw [kQ (show mw row n k=true from he)];exact m')
 ·intro v h1 m
  simp
  refine aj (by kernel_rfl) (Et m.own) ?_
  rintro _ h2 ⟨o2,k2⟩
  have m2:=m.kI o2 ⟨k2,.inl rfl⟩
  try simp
  refine aj (by kernel_rfl) (zq m2.own) ?_
  rintro v3 h3 ⟨o3,k3⟩
  have m3:=m2.kI o3 k3
  try simp
  exact hK _ _ ⟨_,m3⟩
def cM (g:Gr):Gr:=rows (fun a=>js (nth g a) g.length) g.length
def Sm (g:Gr):Prop:=g.length≤1000000∧∀ i,i<g.length→(nth g i).length≤1000000
theorem Cw {α:Type} [Rep α] {W:View}:Rep.rd W (Value.slice none 0 0).cells.toList ([]:List α):=⟨.slice none 0 0,rfl,none,0,rfl,by simp,by simp,.inl rfl⟩
theorem yo {g:Gr} {vg:Value} {h:Heap} (hg:SlRd (vw h) vg g) (hs:Sm g) :
  aI Try.prog N.dH #[vg] h (fun v h'=>∃ W,Mine nothing h h' W T.aP v (cM g)):=by
 refine aA (args:=[vg]) follows F.dH E.dH (Nat.le_of_ble_eq_true (by kernel_rfl)) fun K hK=>?_
 have hs1:=hs.1
 simp [L.dH,hg.len]
 refine Mine.made (α:=List Int) (V:=nothing) (W:=nothing) (h0:=h) (n:=g.length) (d:=[]) El.hZ (View.le_refl _) (fun _ _ h=>by cases h) (Old.nothing _ _) (by simp<;>rfl) (by simp<;>rfl) Cw (by omega) (by omega) fun v h1 m _ _=>?_
 refine bc [0,3,9,10,11] (fun (_:View) k=>[vg,v,vg,.int .i64 g.length,.int .i64 k]) (fun W k h2=>Mine nothing h h2 W T.aP v (rows (fun a=>js (nth g a) g.length) k++List.replicate (g.length-k) [])) g.length nothing
  rfl (by omega) rfl m (fun _ _=>rfl) (fun v k h1 hk m=>by simp) ?_ ?_
 ·intro W a h2 hlta m K2 hK2
  have hg2:=hg.mono m.old
  obtain ⟨rv,hrv⟩:=hg2.rows
  obtain ⟨cv,rr⟩:=hrv a hlta
  have hl5:(rows (fun a=>js (nth g a) g.length) a++List.replicate (g.length-a) ([]:List Int)).length=g.length:=by simp;omega
  simp (disch:=omega) [hg2.idx1 rfl,cv _ (View.le_refl _),hg.len]
  refine aj (by kernel_rfl) (Ah rr (hs.2 a hlta)) ?_
  rintro r h3 ⟨W',mr⟩
  have m3:=m.ext mr.old
  have hr:=mr.fresh.mono (gP W _ _)
  simp (disch:=omega) [m3.now.idx1 rfl]
  refine m3.put1 (α:=List Int) (i:=a) (by kernel_rfl) rfl (by simp) (by simp<;>rfl) (by omega) (fB.2 hr) fun h4 m4=>hK2 (grow W h2 h3) _ _ rfl rfl ?_
  rw [mh (x:=fun a=>js (nth g a) g.length) hlta] at m4
  exact m4
 ·intro W h2 m
  simp at m
  simp
  exact hK _ _ ⟨_,m⟩
theorem rJ {l:List Int} {x:Int} {v:Value} {h:Heap} {b:Addr} (hl:SlRd (vw h) v l) (hb:ao (vw h) b=some v) :
  aI Try.prog N.cf #[.int .i64 x,.pointer (some b)] h (fun u h'=>u = .bool (decide (0≤x)&&decide (x<l.length))∧h'=h):=by
 refine aA (args:=[.int .i64 x,.pointer (some b)]) follows F.cf E.cf (Nat.le_of_ble_eq_true (by kernel_rfl)) fun K hK=>?_
 simp [L.cf,hb,hl.len]
 exact hK _ _ ⟨rfl,rfl⟩
theorem vK {l:List Int} {a b:Int} {v:Value} {h:Heap} (hl:SlRd (vw h) v l) :
  aI Try.prog N.cu #[v,.int .i64 a,.int .i64 b] h (fun u h'=>u = .bool (dA l a b)∧(vw h).le (vw h')):=by
 refine aA (args:=[v,.int .i64 a,.int .i64 b]) follows F.cu E.cu (Nat.le_of_ble_eq_true (by kernel_rfl)) fun K hK=>?_
 have bl:=hl.bound
 simp [L.cu]
 refine jU (v:=v) (by simp) ?_
 have hvc:v.cells = #[v]:=by obtain ⟨_,_,rfl,_⟩:=hl;rfl
 rw [hvc]
 have hle:=bJ h (.cells #[v] T.aP)
 have hl:=hl.mono hle
 have hb:ao (vw (h.push (.cells #[v] T.aP))) ⟨h.size,0,none⟩=some v:=by simp [ao,vw]
 generalize h.push (.cells #[v] T.aP)=h1 at hle hl hb
 generalize h.size=B at hb
 refine jj (ops:=[.tmp 10]) rfl (by kernel_rfl) (by simpa using rJ (x:=a) hl hb) ?_
 rintro _ _ ⟨rfl,rfl⟩
 cases ha:decide (0≤a)&&decide (a<l.length) with
 | false=>
  have hsp:dA l a b=false:=by
   simp only [Bool.and_eq_false_iff,decide_eq_false_iff_not] at ha
   simp [dA];intros;omega
  rw [hsp] at hK
  simp [grdP]
  exact hK _ _ ⟨rfl,hle⟩
 | true=>
  simp only [Bool.and_eq_true,decide_eq_true_eq] at ha
  simp [grdP]
  refine jj (ops:=[.tmp 15]) rfl (by kernel_rfl) (by simpa using rJ (x:=b) hl hb) ?_
  rintro _ _ ⟨rfl,rfl⟩
  cases hbb:decide (0≤b)&&decide (b<l.length) with
  | false=>
   have hsp:dA l a b=false:=by
    simp only [Bool.and_eq_false_iff,decide_eq_false_iff_not] at hbb
    simp [dA];intros;omega
   rw [hsp] at hK
   simp
   exact hK _ _ ⟨rfl,hle⟩
  | true=>
   simp only [Bool.and_eq_true,decide_eq_true_eq] at hbb
   have hsp:dA l a b=mH l a (l.length+1) b:=by simp [dA,ha,hbb]
   rw [hsp] at hK
   simp (disch:=omega) [hb,hl.len]
   refine bc [1,2,3,6,7,21,22] (fun (c:Int) k=>[.int .i64 a,.int .i64 c,.pointer (some ⟨B,0,none⟩),.bool false,.func (.func N.cf) #[] #[.pointer (some ⟨B,0,none⟩)],.int .i64 ((l.length:Int)+1),.int .i64 k])
    (fun c k h2=>h2=_∧mH l a (l.length+1-k) c=mH l a (l.length+1) b) (l.length+1) b
    rfl (by omega) rfl ⟨rfl,rfl⟩ (fun _ _=>rfl) (fun v k h1 hk m=>by simp) ?_ ?_
   ·rintro c k h2 hlt ⟨rfl,hch⟩ K2 hK2
    have hfu:l.length+1-k=(l.length-k)+1:=by omega
    rw [hfu,mH] at hch
    simp
    refine ⟨fun he=>hK _ _ ⟨by rw [←hch,if_pos he.symm],hle⟩,fun he=>?_⟩
    rw [if_neg (fun e=>he e.symm)] at hch
    refine jj (ops:=[.tmp 28]) rfl (by kernel_rfl) (by simpa using rJ (x:=c) hl hb) ?_
    rintro _ _ ⟨rfl,rfl⟩
    cases hc:decide (0≤c)&&decide (c<l.length) with
    | false=>
     simp only [Bool.and_eq_false_iff,decide_eq_false_iff_not] at hc
     simp
     exact hK _ _ ⟨by rw [←hch,if_pos (by omega)],hle⟩
    | true=>
     simp only [Bool.and_eq_true,decide_eq_true_eq] at hc
     rw [if_neg (by omega)] at hch
     simp (disch:=omega) [hb,hl.idx1 rfl,hl.int (View.le_refl _)]
     refine hK2 (nth l c.toNat) _ _ rfl rfl ⟨rfl,?_⟩
     rw [←hch];congr 1;omega
   ·rintro c h2 ⟨rfl,hch⟩
    rw [Nat.sub_self,mH] at hch
    simp
    exact hK _ _ ⟨by rw [←hch],hle⟩
end Go.Proofs.Ytfelpjfopgiabaa
namespace Go.Proofs.Ytfelpjfopgiabaa
open Go Go.Lft
def iS (idom number:List Int):Nat→Int→Int→Option Int
 | 0,_,_=>none
 | n+1,a,b=>
  if 0≤a∧a<number.length∧a<idom.length∧0≤b∧b<number.length∧b<idom.length then
   if nth number b.toNat<nth number a.toNat then iS idom number n (nth idom a.toNat) b
   else if nth number a.toNat<nth number b.toNat then iS idom number n a (nth idom b.toNat)
   else some a
  else none
theorem tQ {idom number:List Int} {vi vn:Value} {h:Heap} {r:Int} (hi:SlRd (vw h) vi idom) (hn:SlRd (vw h) vn number) {n:Nat} {a b:Int} (hc:iS idom number n a b=some r) :
  aI Try.prog N.cZ #[vi,vn,.int .i64 a,.int .i64 b] h (fun u h'=>u = .int .i64 r∧h'=h):=by
 refine aA (args:=[vi,vn,.int .i64 a,.int .i64 b]) follows F.cZ E.cZ (Nat.le_of_ble_eq_true (by kernel_rfl)) fun K hK=>?_
 simp [L.cZ]
 refine jd [0,1,2,3] (fun m ρ h'=>∃ (c d:Int),ρ=[(0,vi),(1,vn),(2,.int .i64 c),(3,.int .i64 d)]∧h'=h∧iS idom number m c d=some r) n ⟨a,b,rfl,rfl,hc⟩ ?_
 rintro m ρ h' ⟨c,d,rfl,rfl,hc⟩ K2 hK2
 cases m with
 | zero=>cases hc
 | succ m=>
  rw [iS] at hc
  split at hc
  case isFalse=>cases hc
  rename_i hr
  obtain ⟨r1,r2,r3,r4,r5,r6⟩:=hr
  simp (disch:=omega) [L.cZ.l1,hn.idx1 rfl,hn.int (View.le_refl _)]
  refine ⟨fun h1=>?_,fun h1=>?_⟩
  ·rw [if_pos h1] at hc
   simp (disch:=omega) [hi.idx1 rfl,hi.int (View.le_refl _)]
   exact hK2 m _ _ (by omega) ⟨_,_,rfl,rfl,hc⟩
  ·rw [if_neg (by omega)] at hc
   refine ⟨fun h2=>?_,fun h2=>?_⟩
   ·rw [if_pos h2] at hc
    simp (disch:=omega) [hi.idx1 rfl,hi.int (View.le_refl _)]
    exact hK2 m _ _ (by omega) ⟨_,_,rfl,rfl,hc⟩
   ·rw [if_neg (by omega)] at hc
    cases hc
    exact hK _ _ ⟨rfl,rfl⟩
end Go.Proofs.Ytfelpjfopgiabaa
namespace Go.Proofs.Ytfelpjfopgiabaa
open Go Go.Lft
structure Wo (W:View) (h:Heap) (B:Nat) (vt vl:Value) (s:List Bool × List Int):Prop where
 wle:W.le (vw h)
 box:h[B]? = some (.cells #[vl] T.aP (0,0))
 wB:W B=none
 avt:Av W vt
 avl:Av W vl
 nt:vt.ownBlock≠some B
 nl:vl.ownBlock≠some B
 ne:vl.ownBlock=none∨vl.ownBlock≠vt.ownBlock
 ot:OwnT nothing h T.bool vt s.1
 ol:OwnT nothing h T.int vl s.2
 nn:vt.ownBlock=none∨vt.ownBlock≠vl.ownBlock
theorem Wo.lt {W:View} {h:Heap} {B:Nat} {vt vl:Value} {s:List Bool × List Int} (k:Wo W h B vt vl s):B<h.size:=(Array.getElem?_eq_some_iff.1 k.box).1
theorem Wo.ext {W:View} {h h':Heap} {B:Nat} {vt vl:Value} {s:List Bool × List Int} (k:Wo W h B vt vl s) (hle:(vw h).le (vw h')):Wo W h' B vt vl s:=
 {k with wle:=View.le_trans k.wle hle,box:=hle _ _ k.box,ot:=k.ot.ext hle,ol:=k.ol.ext hle }
theorem Wo.flag {W:View} {h h':Heap} {B:Nat} {vt vl:Value} {s:List Bool × List Int} {t':List Bool} (k:Wo W h B vt vl s) (o:OwnT nothing h' T.bool vt t') (m:jt h h' vt vt):Wo W h' B vt vl (t',s.2):=
 {k with
  wle:=(m.view k.wle k.avt).1
  box:=by rw [m.kept.block B k.lt (fun e=>k.nt e.symm)];exact k.box
  ot:=o
  ol:=k.ol.kept m.kept k.ne }
theorem Wo.zf {W:View} {h h' h'':Heap} {B:Nat} {vt vl vl':Value} {s:List Bool × List Int} {l':List Int} (k:Wo W h B vt vl s) (o:OwnT nothing h' T.int vl' l') (m:jt h h' vl vl') (hsz:h''.size=h'.size)
  (hB:h''[B]? = some (.cells #[vl'] T.aP (0,0))) (hoth : ∀ j,j≠B→h''[j]? = h'[j]?):Wo W h'' B vt vl' (s.1,l'):=by
 obtain ⟨hw',ha'⟩:=m.view k.wle k.avl
 have hlt:=k.lt
 have nl':vl'.ownBlock≠some B:=by
  rcases m.at_ with e | e
  ·rw [e];exact k.nl
  ·rw [e];intro e2;cases e2;omega
 have kep:Kept h' h'' (some B):=⟨by omega,fun j _ hj=>hoth j (fun e=>hj (by rw [e]))⟩
 refine ⟨fun b x hb=>?_,hB,k.wB,k.avt,ha',k.nt,nl',?_,?_,?_,?_⟩
 ·have hne:b≠B:=fun e=>by rw [e,k.wB] at hb;cases hb
  show h''[b]? = _
  rw [hoth b hne];exact hw' b x hb
 ·rcases m.at_ with e | e
  ·rw [e];exact k.ne
  ·right;rw [e];intro e2;have:=k.ot.lt e2.symm;omega
 ·exact (k.ot.kept m.kept k.nn).kept kep (.inr k.nt)
 ·exact o.kept kep (.inr nl')
 ·rcases m.at_ with e | e
  ·rw [e];exact k.nn
  ·right;rw [e];intro e2;have:=k.ot.lt e2;omega
theorem Wo.cell {W:View} {h:Heap} {B:Nat} {vt vl:Value} {s:List Bool × List Int} (k:Wo W h B vt vl s):ao (vw h) ⟨B,0,none⟩=some vl:=by
 simp [ao,vw,k.box]
def nx (rows:Gr) (a:Int):List Int:=nth rows a.toNat
theorem yu {rows:Gr} {vr:Value} {Tp R O:Addr} {B:Nat} (hs:rows.length≤1000000) (hin : ∀ i,i<rows.length→∀ j,j<(nth rows i).length→0≤nth (nth rows i) j∧nth (nth rows i) j<rows.length) : ∀ (n:Nat) {M:Nat} {W:View} {h:Heap} {vt vl:Value} {s:List Bool × List Int} {a:Int},Wo W h B vt vl s→SlRd W vr rows→
  ao W Tp=some vt→ao W R=some vr→ao W O=some (.func (.func N.bM) #[] #[.pointer (some Tp),.pointer (some R),.pointer (some O),.pointer (some ⟨B,0,none⟩)])→0≤a→a<rows.length→s.1.length=rows.length→nth s.1 a.toNat=false→
  cL s.1≤n→s.2.length+cL s.1≤M→M≤1000000→
  aI Try.prog N.bM #[.int .i64 a,.pointer (some Tp),.pointer (some R),.pointer (some O),.pointer (some ⟨B,0,none⟩)] h (fun _ h'=>∃ vl',Wo W h' B vt vl' (gW (nx rows) n a s)∧(gW (nx rows) n a s).2.length+cL (gW (nx rows) n a s).1≤M)
 | 0,M,W,h,vt,vl,s,a,k,hg,hT,hR,hO,h0,h1,hl,hf,hc,hb,hM=>by
  exfalso
  have:=gR (t:=s.1) (i:=a.toNat) (by omega) hf
  omega
 | n+1,M,W,h,vt,vl,(t,l),a,k,hg,hT,hR,hO,h0,h1,hl,hf,hc,hb,hM=>by
  obtain ⟨i,rfl⟩:=Int.eq_ofNat_of_zero_le h0
  simp only at hl hf hc hb
  have hfs:=gR (t:=t) (i:=i) (by omega) (by simpa using hf)
  refine aA (args:=[.int .i64 i,.pointer (some Tp),.pointer (some R),.pointer (some O),.pointer (some ⟨B,0,none⟩)]) follows F.bM E.bM (Nat.le_of_ble_eq_true (by kernel_rfl)) fun K hK=>?_
  have hnow:SlRd (vw h) vt t:=k.ot.now (fun _ _ h=>by cases h)
  simp (disch:=omega) [L.bM,ah k.wle hT,hnow.idx1 rfl]
  refine oh (W:=nothing) (i:=i) (d:=true) (by kernel_rfl) (by simp [show Rep.n Bool=1 from rfl]) (by simp<;>rfl) k.ot (by simpa using by omega) FD fun h2 o2 m2=>?_
  have k2:=k.flag o2 m2
  have hg2:=hg.mono k2.wle
  obtain ⟨rv,hrv⟩:=hg.rows
  obtain ⟨cv,rr⟩:=hrv i (by omega)
  have br:=rr.bound
  have hov:gW (nx rows) (n+1) i (t,l)=((up (b8 (nx rows) n i) (nx rows i).length (t.set i true,l)).1,(up (b8 (nx rows) n i) (nx rows i).length (t.set i true,l)).2++[(i:Int)]):=iK
  rw [hov] at hK
  have hnx:nx rows i=nth rows i:=rfl
  rw [hnx] at hK
  simp (disch:=omega) [ah k2.wle hR,hg2.idx1 rfl,cv _ k2.wle,rr.len]
  refine bc [0,1,2,3,4,14,15,16] (fun (_:Value) j=>[.int .i64 i,.pointer (some Tp),.pointer (some R),.pointer (some O),.pointer (some ⟨B,0,none⟩),rv i,.int .i64 (nth rows i).length,.int .i64 j]) (fun vl j h4=>Wo W h4 B vt vl (up (b8 (nx rows) n i) j (t.set i true,l))∧(up (b8 (nx rows) n i) j (t.set i true,l)).2.length+cL (up (b8 (nx rows) n i) j (t.set i true,l)).1≤M-1) (nth rows i).length vl
   rfl (by omega) rfl ⟨k2,by simp [up];omega⟩ (fun _ _=>rfl) (fun v j h4 hk m=>by simp) ?_ ?_
  ·rintro vl j h4 hltj ⟨k4,hb4⟩ K2 hK2
   have hinv:=pD (fun s:List Bool × List Int=>s.1.length=rows.length∧cL s.1≤n) (f:=b8 (nx rows) n i) (fun k x hx=>by
    unfold b8;split
    ·exact hx
    ·exact lZ n _ x hx) j (t.set i true,l) ⟨by simpa using hl,by simp only;omega⟩
   generalize hx:up (b8 (nx rows) n i) j (t.set i true,l)=x at k4 hb4 hinv
   obtain ⟨e0,e1⟩:=hin i (by omega) j hltj
   have hr4:=rr.mono k4.wle
   have hnow4:=k4.ot.now (fun _ _ h=>by cases h)
   simp (disch:=omega) [ah k4.wle hT,hr4.idx1 rfl,hr4.int (View.le_refl _),hnow4.idx1 rfl,hnow4.bool (View.le_refl _),iP]
   refine ⟨fun he=>?_,fun he=>hK2 vl _ _ rfl rfl ?_⟩
   ·simp [ah k4.wle hO]
    refine jj (ops:=[.tmp 26]) rfl (by kernel_rfl) (by simpa using yu hs hin n k4 hg hT hR hO e0 e1 hinv.1 he hinv.2 hb4 (by omega)) ?_
    rintro _ h5 ⟨⟨vl',k5⟩,hb5⟩
    have hst:up (b8 (nx rows) n i) (j+1) (t.set i true,l)=gW (nx rows) n (nth (nth rows i) j) x:=by rw [up,hx,b8,show nx rows i=nth rows i from rfl,he];rfl
    refine hK2 vl' _ _ rfl rfl ?_
    rw [hst]
    exact ⟨k5,hb5⟩
   ·have hst:up (b8 (nx rows) n i) (j+1) (t.set i true,l)=x:=by rw [up,hx,b8,show nx rows i=nth rows i from rfl,he];rfl
    rw [hst];exact ⟨k4,hb4⟩
  ·rintro vl h4 ⟨k4,hb4⟩
   generalize hx:up (b8 (nx rows) n i) (nth rows i).length (t.set i true,l)=x at k4 hb4 hK
   simp [k4.cell]
   refine jI (α:=Int) (W:=nothing) El.aP (by simp<;>rfl) (jy (by omega) (by omega)) fun u h5 hsrc hle5 _=>?_
   have k5:=k4.ext hle5
   refine bs El.aP (by simp) (by simp) k5.ol hsrc (by simp;omega) (by simp;omega) fun vl' h6 o6 m6=>?_
   have hB6:h6[B]? = some (.cells #[vl] T.aP (0,0)):=by rw [m6.kept.block B k5.lt (fun e=>k5.nl e.symm)];exact k5.box
   obtain ⟨hcells,hone⟩:=iz o6
   refine dP (g:=B) (o:=0) (n:=1) (v:=vl') (by kernel_rfl) (by simp) (by simp) (by rw [hcells];rfl) (by rw [hcells];simpa using hone) hB6 (by simp) fun h7 hsz7 ⟨row,hrow,he⟩ hoth=>hK _ _ ⟨vl',?_,?_⟩
   ·have hrow2:row = #[vl']:=by rw [←Array.toList_inj,he,hcells];rfl
    rw [hrow2] at hrow
    exact k5.zf o6 m6 hsz7 hrow hoth
   ·simp;omega
end Go.Proofs.Ytfelpjfopgiabaa
namespace Go.Proofs.Ytfelpjfopgiabaa
open Go Go.Lft
def bg (g:Gr):List Int:=jk (nx (cM g)) g.length
theorem gm {g:Gr}:(cM g).length=g.length:=by simp [cM]
theorem pC {g:Gr} : ∀ i,i<(cM g).length→∀ j,j<(nth (cM g) i).length→0≤nth (nth (cM g) i) j∧nth (nth (cM g) i) j<(cM g).length:=by
 intro i hi j hj
 rw [gm] at hi
 have hm:=bU hj
 rw [cM,dq hi,js] at hm
 have h2:=mB hm
 rw [lV,List.mem_mergeSort,lF] at h2
 simp only [List.mem_map,List.mem_filter,List.mem_range,mw,Bool.and_eq_true,decide_eq_true_eq] at h2
 obtain ⟨k,⟨_,h3⟩,h4⟩:=h2
 rw [gm]
 have e:nth (nth (cM g) i) j=nth (nth g i) k:=by rw [cM,dq hi,js,h4,lV,lF]
 rw [e];exact h3
theorem xC {g:Gr} {vg:Value} {h:Heap} (hg:SlRd (vw h) vg g) (hs:Sm g) :
  aI Try.prog N.eM #[vg] h (fun v h'=>(vw h).le (vw h')∧SlRd (fresh h h') v (bg g)):=by
 refine aA (args:=[vg]) follows F.eM E.eM (Nat.le_of_ble_eq_true (by kernel_rfl)) fun K hK=>?_
 have hs1:=hs.1
 simp [L.eM,hg.len]
 refine ⟨fun h0=>?_,fun h0=>?_⟩
 ·exact hK _ _ ⟨View.le_refl _,⟨none,0,by simp [bg,jk,h0],by simp [bg,jk,h0],by simp [bg,jk,h0],.inl (by simp [bg,jk,h0])⟩⟩
 ·refine aj (by kernel_rfl) (yo hg hs) ?_
  rintro vr h1 ⟨W1,m1⟩
  have hvr:=m1.now
  obtain ⟨hrc,hro⟩:=iz m1.own
  refine pP (z:=.slice none 0 0) (by kernel_rfl) rfl (by kernel_rfl) hrc hro (fun _=>by simp) (fun _=>by simp) fun h2 hle2 hsz2 hR2=>?_
  refine ll (W:=nothing) (n:=g.length) (d:=false) El.ly (by simp<;>rfl) (by simp<;>rfl) rfl (by omega) (by omega) fun vt h3 o3 m3 hle3 hb3=>?_
  obtain ⟨htc,hto⟩:=iz o3
  refine pP (z:=.slice none 0 0) (by kernel_rfl) rfl (by kernel_rfl) htc hto (fun _=>by simp) (fun _=>by simp) fun h4 hle4 hsz4 hT4=>?_
  refine fe (z:=.slice none 0 0) (by kernel_rfl) ?_
  refine fe (z:=.nilFunc) (by kernel_rfl) ?_
  have hsz3:h2.size<h3.size:=o3.lt hb3
  have hle6:(vw h4).le (vw ((h4.push (.cells (Value.slice none 0 0).cells T.aP)).push (.cells Value.nilFunc.cells T.yg))):=View.le_trans (bJ _ _) (bJ _ _)
  refine dP (g:=h4.size+1) (o:=0) (n:=1) (e:=T.yg) (cur:=#[.nilFunc]) (v:=.func (.func N.bM) #[] #[.pointer (some ⟨h3.size,0,none⟩),.pointer (some ⟨h1.size,0,none⟩),.pointer (some ⟨h4.size+1,0,none⟩),.pointer (some ⟨h4.size,0,none⟩)]) (by kernel_rfl) (by simp) (by simp) rfl (by simp [Value.cells,Value.oneCell']) (by rw [show h4.size+1=(h4.push (.cells (Value.slice none 0 0).cells T.aP)).size by simp];exact Array.getElem?_push_size) (by simp) fun h7 hsz7 ⟨row,hrow,he⟩ hoth=>?_
  have hrow2:row = #[.func (.func N.bM) #[] #[.pointer (some ⟨h3.size,0,none⟩),.pointer (some ⟨h1.size,0,none⟩),.pointer (some ⟨h4.size+1,0,none⟩),.pointer (some ⟨h4.size,0,none⟩)]]:=by rw [←Array.toList_inj,he];rfl
  rw [hrow2] at hrow
  have hle7:(vw h4).le (vw h7):=fun b o hb=>by
   have hlt:=View.lt (View.le_refl (vw h4)) hb
   show h7[b]? = _
   rw [hoth b (by omega)]
   exact hle6 b o hb
  have hL7:h7[h4.size]? = some (.cells #[.slice none 0 0] T.aP (0,0)):=by
   rw [hoth _ (by omega),Array.getElem?_push,if_neg (by simp),Array.getElem?_push_size];rfl
  have hle27:=View.le_trans hle3 (View.le_trans hle4 hle7)
  have hle17:=View.le_trans hle2 hle27
  obtain ⟨W,hW⟩ : ∃ W:View,W=fun b=>if b=h2.size∨b=h4.size then none else h7[b]?:=⟨_,rfl⟩
  have hWle:W.le (vw h7):=by
   intro b o hb
   rw [hW] at hb
   simp only at hb
   split at hb
   ·cases hb
   ·exact hb
  have hW1:(vw h1).le W:=fun b o hb=>by
   have hlt:=View.lt (View.le_refl (vw h1)) hb
   rw [hW];simp only
   rw [if_neg (by omega)]
   exact hle17 b o hb
  have k7:Wo W h7 h4.size vt (.slice none 0 0) (List.replicate g.length false,[]):=
   ⟨hWle,hL7,by rw [hW];simp,fun b hb=>by rw [hb3] at hb;cases hb;rw [hW];simp,Av.nil _ _ _,by rw [hb3];intro e;simp only [Option.some.injEq] at e;omega,by simp [Value.ownBlock],.inl rfl,
    (o3.ext hle4).ext hle7,OwnT.nil ..,.inr (by rw [hb3];simp [Value.ownBlock])⟩
  have hT:ao W ⟨h3.size,0,none⟩=some vt:=by
   have h5:W h3.size=some (.cells #[vt] T.ly (0,0)):=by rw [hW];simp only;rw [if_neg (by omega)];exact hle7 _ _ hT4
   simp [ao,h5]
  have hR:ao W ⟨h1.size,0,none⟩=some vr:=by
   have h5:W h1.size=some (.cells #[vr] T.hZ (0,0)):=by rw [hW];simp only;rw [if_neg (by omega)];exact hle27 _ _ hR2
   simp [ao,h5]
  have hO:ao W ⟨h4.size+1,0,none⟩=some (.func (.func N.bM) #[] #[.pointer (some ⟨h3.size,0,none⟩),.pointer (some ⟨h1.size,0,none⟩),.pointer (some ⟨h4.size+1,0,none⟩),.pointer (some ⟨h4.size,0,none⟩)]):=by
   have h5:W (h4.size+1)=h7[h4.size+1]?:=by rw [hW];simp only;rw [if_neg (by omega)]
   rw [hrow] at h5
   simp [ao,h5]
  have hvrW:=hvr.mono hW1
  have hlen:g.length≠0:=by simpa using h0
  have hcl:=gm (g:=g)
  have hfa:cL (List.replicate g.length false)=g.length:=by simp [cL]
  simp [ah hWle hO]
  refine jj (ops:=[.const (.int .i64 0)]) (f:=N.bM) (caps:=#[.pointer (some ⟨h3.size,0,none⟩),.pointer (some ⟨h1.size,0,none⟩),.pointer (some ⟨h4.size+1,0,none⟩),.pointer (some ⟨h4.size,0,none⟩)]) (by simp) (by kernel_rfl)
   (by simpa using yu (by omega) pC g.length (M:=g.length) k7 hvrW hT hR hO (a:=0) (by omega) (by omega) (by simp [hcl]) (by rw [aq (by simp;omega)];simp) (by rw [hfa];exact Nat.le_refl _) (by simp [hfa]) (by omega)) ?_
  rintro _ h8 ⟨⟨vl,k8⟩,hb8⟩
  have hord:bg g=(gW (nx (cM g)) g.length 0 (List.replicate g.length false,[])).2.reverse:=by simp [bg,jk,h0]
  rw [hord] at hK
  generalize gW (nx (cM g)) g.length 0 (List.replicate g.length false,[])=s at k8 hb8 hK
  simp [k8.cell]
  refine aj (by kernel_rfl) (y7 k8.ol) ?_
  rintro _ h9 ⟨o9,k9⟩
  have hB9:h9[h4.size]? = some (.cells #[vl] T.aP (0,0)):=by rw [k9.block _ k8.lt (fun e=>k8.nl e.symm)];exact k8.box
  have hc9:ao (vw h9) ⟨h4.size,0,none⟩=some vl:=by simp [ao,vw,hB9]
  have hW9:=k9.view k8.wle k8.avl
  have hle9:(vw h).le (vw h9):=View.le_trans (View.le_trans m1.old hW1) hW9
  have hav:Av (vw h) vl:=fun b hb=>by
   cases hx:vw h b with
   | none=>rfl
   | some o=>have:=(View.le_trans m1.old hW1) _ _ hx;rw [k8.avl b hb] at this;cases this
  simp [hc9]
  exact hK _ _ ⟨hle9,o9.fresh (fun _ _ h=>by cases h) hav⟩
end Go.Proofs.Ytfelpjfopgiabaa
namespace Go.Proofs.Ytfelpjfopgiabaa
open Go Go.Lft
def iI (f:Nat→List Int) (n:Nat):List (Int × Int):=(List.range n).flatMap fun a=>(f a).map fun b=>((a:Int),b)
theorem gS {f:Nat→List Int} {n:Nat}:iI f (n+1)=iI f n++(f n).map fun b=>((n:Int),b):=by simp [iI,List.range_succ]
theorem A6 {f:Nat→List Int} {n m:Nat} (h:n≤m) : ∃ t,iI f m=iI f n++t:=by
 induction m with
 | zero=>exact ⟨[],by simp [show n=0 by omega]⟩
 | succ m ih=>
  rcases Nat.lt_or_ge n (m+1) with h1 | h1
  ·obtain ⟨t,ht⟩:=ih (by omega)
   exact ⟨t++(f m).map fun b=>((m:Int),b),by rw [gS,ht,List.append_assoc]⟩
  ·exact ⟨[],by simp [show n=m+1 by omega]⟩
theorem AD {f:Nat→List Int} {n a j:Nat} (ha:a<n) (hj:j<(f a).length):(iI f n)[(iI f a).length+j]? = some ((a:Int),nth (f a) j):=by
 obtain ⟨t,ht⟩:=A6 (f:=f) (n:=a+1) (m:=n) (by omega)
 rw [ht,gS,List.append_assoc,List.getElem?_append_right (by omega),Nat.add_sub_cancel_left,List.getElem?_append_left (by simpa using hj)]
 simp [aq hj,hj]
def gG (g:Gr):List (Int × Int):=iI (fun a=>nth (cM g) a) g.length
def BP (e:Int × Int):List Value:=[.int .i64 e.1,.int .i64 e.2]
def vZ (g:Gr):List (List Value):=(gG g).map BP
theorem C1 {vg:Value} {h:Heap} :
  aI Try.prog N.eC #[vg] h (fun v h'=>v = .func (.func N.bT) #[] #[.pointer (some ⟨h.size,0,none⟩)]∧h'=h.push (.cells vg.cells T.hZ)):=by
 refine aA (args:=[vg]) follows F.eC E.eC (Nat.le_of_ble_eq_true (by kernel_rfl)) fun K hK=>?_
 simp [L.eC]
 refine jU rfl ?_
 simp
 exact hK _ _ ⟨rfl,rfl⟩
theorem xO {g:Gr} {vg:Value} {V:View} {p:Addr} (hg:SlRd V vg g) (hp:ao V p=some vg) (hs:Sm g):Iter Try.prog N.bT [.pointer (some p)] V (vZ g):=by
 intro l J W h hM hV hVl h0 hround
 have hW:=(hM true 0).le h0
 refine aA (args:=[.func (.yield l) #[] #[],.pointer (some p)]) follows F.bT E.bT (Nat.le_of_ble_eq_true (by kernel_rfl)) fun K hK=>?_
 simp [L.bT,ah (View.le_trans hV hW) hp]
 refine aj (by kernel_rfl) (yo (hg.mono (View.le_trans hV hW)) hs) ?_
 rintro vr h1 ⟨W1,m1⟩
 have hJ1:=(hM true 0).grown h0 (Nat.le_refl _) m1.old
 have hr1:=m1.fresh.mono (gP W h h1)
 have hag : ∀ b,b<h.size→grow W h h1 b=W b:=fun b hb=>nk hb
 generalize grow W h h1=W2 at hJ1 hr1 hag
 have hlen:=hr1.bound
 have hcl:=gm (g:=g)
 obtain ⟨rv,hrv⟩:=hr1.rows
 simp [hr1.len]
 have hall : ∀ {a j:Nat},a<(cM g).length→j<(nth (cM g) a).length→(vZ g)[(iI (fun a=>nth (cM g) a) a).length+j]? = some [.int .i64 a,.int .i64 (nth (nth (cM g) a) j)]:=by
  intro a j ha hj
  rw [vZ,List.getElem?_map,gG,AD (f:=fun a=>nth (cM g) a) (by omega) hj];rfl
 refine bc [0,8,9,10] (fun (_:Unit) k=>[.func (.yield l) #[] #[],vr,.int .i64 (cM g).length,.int .i64 k]) (fun _ k h2=>J true (iI (fun a=>nth (cM g) a) k).length W2 h2) (cM g).length ()
  rfl (by omega) rfl hJ1 (fun _ _=>rfl) (fun v k h1 hk m=>by simp) ?_ ?_
 ·intro _ a h2 hlt hJ2 K2 hK2
  have hW2:=(hM _ _).le hJ2
  obtain ⟨cv,rr⟩:=hrv a hlt
  have br:=rr.bound
  simp (disch:=omega) [hr1.idx1 rfl,cv _ hW2,rr.len]
  refine bc [0,8,9,10,3,15,16,17] (fun (_:Unit) j=>[.func (.yield l) #[] #[],vr,.int .i64 (cM g).length,.int .i64 a,.int .i64 a,rv a,.int .i64 (nth (cM g) a).length,.int .i64 j])
   (fun _ j h3=>J true ((iI (fun a=>nth (cM g) a) a).length+j) W2 h3) (nth (cM g) a).length () rfl (by omega) rfl hJ2 (fun _ _=>rfl) (fun v k h1 hk m=>by simp) ?_ ?_
  ·intro _ j h3 hlt3 hJ3 K3 hK3
   have hW3:=(hM _ _).le hJ3
   simp (disch:=omega) [rr.idx1 rfl,rr.int hW3]
   refine C0 (ops:=[.tmp 22,.tmp 23]) rfl (by simpa using hround _ _ W2 h3 hag (hall hlt hlt3) hJ3) ?_
   rintro b h4 ⟨W4,e1,e2,hJ4⟩
   cases b with
   | true=>
    obtain rfl:=e2 rfl
    simp [iP]
    exact hK3 () _ _ rfl rfl hJ4
   | false=>
    simp [iP]
    exact hK _ _ ⟨false,_,W4,fun i hi hne=>by rw [e1 i hne,hag i hi],hJ4,fun h=>by cases h⟩
  ·intro _ h3 hJ3
   simp
   refine hK2 () _ _ rfl rfl ?_
   rw [gS,List.length_append,List.length_map];exact hJ3
 ·intro _ h2 hJ2
  simp
  refine hK _ _ ⟨true,_,W2,fun i hi _=>hag i hi,hJ2,fun _=>?_⟩
  rw [vZ,List.length_map,gG,hcl]
end Go.Proofs.Ytfelpjfopgiabaa
namespace Go.Proofs.Ytfelpjfopgiabaa
open Go Go.Lft
def en (p:Gr) (e:Int × Int):Gr:=p.set e.2.toNat (nth p e.2.toNat++[e.1])
def cR (g:Gr):Gr:=(gG g).foldl en (List.replicate g.length [])
theorem qE {β γ:Type} {f:β→γ→β} {l:List γ} {k:Nat} {x:γ} {b:β} (h:l[k]? = some x):(l.take (k+1)).foldl f b=f ((l.take k).foldl f b) x:=by
 rw [List.take_add_one,h,List.foldl_append];rfl
theorem mN {g:Gr} {e:Int × Int} (h:e∈gG g):(0≤e.1∧e.1<g.length)∧0≤e.2∧e.2<g.length:=by
 simp only [gG,iI,List.mem_flatMap,List.mem_range,List.mem_map] at h
 obtain ⟨a,ha,b,hb,rfl⟩:=h
 obtain ⟨j,hj,rfl⟩:=List.getElem_of_mem hb
 have:=pC a (by rw [gm];exact ha) j hj
 rw [gm,aq hj] at this
 exact ⟨⟨by omega,by simp only;omega⟩,this⟩
theorem lD {l:List (Int × Int)} {p:Gr}:(l.foldl en p).length=p.length:=by
 induction l generalizing p with
 | nil=>rfl
 | cons e l ih=>rw [List.foldl_cons,ih];simp [en]
theorem xU {l:List (Int × Int)} {p:Gr} {i m:Nat} (hp:(nth p i).length≤m):(nth (l.foldl en p) i).length≤m+l.length:=by
 induction l generalizing p m with
 | nil=>exact hp
 | cons e l ih=>
  rw [List.foldl_cons]
  have:=ih (p:=en p e) (m:=m+1) ?_
  ·simp only [List.length_cons];omega
  ·unfold en
   rcases Nat.lt_or_ge i p.length with hi | hi
   ·rw [aK hi]
    split
    ·rename_i h;rw [h];simp;omega
    ·omega
   ·rw [aV (by simpa using hi)];simp [default]
theorem tG {row:List Int} {n:Int}:(js row n).length≤row.length:=by
 have h1:=kD (p:=mw row n) (x:=fun i=>nth row i) row.length
 have h2:(lV (sift (mw row n) (fun i=>nth row i) row.length)).length=(sift (mw row n) (fun i=>nth row i) row.length).length:=List.length_mergeSort _
 have h3:=qB (l:=lV (sift (mw row n) (fun i=>nth row i) row.length))
 rw [js];omega
theorem AM {f:Nat→List Int} {n m:Nat} (h : ∀ a,a<n→(f a).length≤m):(iI f n).length≤n*m:=by
 induction n with
 | zero=>simp [iI]
 | succ n ih=>
  have:=ih fun a ha=>h a (by omega)
  have:=h n (by omega)
  rw [gS,List.length_append,List.length_map,Nat.succ_mul];omega
theorem yH {g:Gr} (hs:Sm g):(gG g).length≤1000000000000:=by
 have h1:=AM (f:=fun a=>nth (cM g) a) (n:=g.length) (m:=1000000) fun a ha=>by
  have:=hs.2 a ha
  rw [cM,dq ha]
  exact Nat.le_trans tG this
 have h2:g.length*1000000≤1000000*1000000:=Nat.mul_le_mul_right _ hs.1
 rw [gG];omega
theorem yB {g:Gr} {vg:Value} {h:Heap} (hg:SlRd (vw h) vg g) (hs:Sm g) :
  aI Try.prog N.eH #[vg] h (fun v h'=>(vw h).le (vw h')∧SlRd (fresh h h') v (cR g)):=by
 refine xI (args:=[vg]) follows F.eH E.eH (Nat.le_of_ble_eq_true (by kernel_rfl)) fun K hK=>?_
 have hs1:=hs.1
 have hel:=yH hs
 simp [L.eH,hg.len]
 refine CW (n:=g.length) El.hZ (by simp<;>rfl) (by simp<;>rfl) rfl (by omega) (by omega) ?_
 refine pP (z:=.slice none 0 0) (v:=.slice (some ⟨h.size,0,none⟩) g.length g.length) (by kernel_rfl) rfl (by kernel_rfl) rfl rfl (fun _=>by simp) (fun _=>by simp) fun h2 hle2 hsz2 hB2=>?_
 have hle02:(vw h).le (vw h2):=View.le_trans (bJ _ _) hle2
 have hg2:h2[h.size]? = some (.cells (List.replicate g.length (.slice none 0 0)).toArray T.aP (0,0)):=hle2 _ _ (show (h.push _)[h.size]? = _ by simp)
 simp at hsz2 hB2
 simp
 refine aj (by kernel_rfl) C1 ?_
 rintro _ _ ⟨rfl,rfl⟩
 have hgc:=hg.cells.1
 rw [hgc]
 have hle3:=bJ h2 (.cells #[vg] T.hZ)
 generalize hh3:h2.push (.cells #[vg] T.hZ)=h3 at hle3
 have hsz3:h3.size=h.size+3:=by rw [←hh3];simp [hsz2]
 obtain ⟨W0,hW0⟩ : ∃ W:View,W=fun b=>if b=h.size then none else h3[b]?:=⟨_,rfl⟩
 have hW0le:W0.le (vw h3):=fun b o hb=>by
  rw [hW0] at hb;simp only at hb
  split at hb
  ·cases hb
  ·exact hb
 have h0W:(vw h).le W0:=fun b o hb=>by
  have hlt:=View.lt (View.le_refl (vw h)) hb
  rw [hW0];simp only
  rw [if_neg (by omega)]
  exact View.le_trans hle02 hle3 b o hb
 have hp3:ao W0 ⟨h2.size,0,none⟩=some vg:=by
  have e:W0 h2.size=some (.cells #[vg] T.hZ (0,0)):=by rw [hW0];simp only;rw [if_neg (by omega),←hh3];simp
  simp [ao,e]
 have hB3:W0 (h.size+1)=some (.cells #[.slice (some ⟨h.size,0,none⟩) g.length g.length] T.hZ (0,0)):=by
  rw [hW0];simp only;rw [if_neg (by omega)]
  exact hle3 _ _ hB2
 refine y5 (enc:=BP) (all:=gG g) (gf:=N.bT) (caps:=[.pointer (some ⟨h2.size,0,none⟩)]) W0 W0 (fun e k W h'=>e=none∧∃ rv,Rw W h' T.aP T.int h.size rv (((gG g).take k).foldl en (List.replicate g.length [])))
  rfl (by kernel_rfl) (xO (hg.mono h0W) hp3 hs) (fun _=>rfl) (View.le_refl _) (fun e k=>⟨fun ⟨_,rv,r⟩=>r.wle,fun ⟨a,rv,r⟩ _ h1 h2 _=>⟨a,rv,r.move h1 h2⟩⟩) ⟨rfl,_,Rw.start hW0le (by rw [hW0];simp) (hle3 _ _ hg2)⟩
  (fun x h1=>by simp [BP,cP];rfl) ?_ ?_ ?_
 ·rintro k e W h1 hag hk ⟨_,rv,r⟩ K2 hK2 _
  have he:=mN (List.mem_of_getElem? hk)
  have hk1:k<(gG g).length:=(List.getElem?_eq_some_iff.1 hk).1
  have hst:=qE (f:=en) (b:=List.replicate g.length []) hk
  have hpl:=lD (l:=(gG g).take k) (p:=List.replicate g.length [])
  have hrl:=xU (l:=(gG g).take k) (p:=List.replicate g.length []) (i:=e.2.toNat) (m:=0) (by rw [au (by omega)];simp)
  rw [List.length_take] at hrl
  rw [List.length_replicate] at hpl
  generalize hp:((gG g).take k).foldl en (List.replicate g.length [])=p at r hst hpl hrl
  have hlt:=r.lt
  have hB1:h1[h.size+1]? = some (.cells #[.slice (some ⟨h.size,0,none⟩) g.length g.length] T.hZ (0,0)):=r.wle _ _ (by rw [hag _ (by omega)];exact hB3)
  have hlt1:=(Array.getElem?_eq_some_iff.1 hB1).1
  obtain ⟨H,hH⟩ : ∃ H:View,H=fun b=>if b=h.size∨b=h.size+1 then h1[b]? else none:=⟨_,rfl⟩
  have hHle:H.le (vw h1):=fun b o hb=>by
   rw [hH] at hb;simp only at hb
   split at hb
   ·exact hb
   ·cases hb
  have c1:ao H ⟨h.size+1,0,none⟩=some (.slice (some ⟨h.size,0,none⟩) g.length g.length):=bV (by rw [hH];simp only;rw [if_pos (by simp)];exact hB1) rfl
  have hlen:=r.len
  have c2:ao H ⟨h.size,e.2.toNat,none⟩=some (nth rv e.2.toNat):=bV (by rw [hH];simp only;rw [if_pos (by simp)];exact r.blk) (by rw [aq (by omega)];simp)
  refine cg H hHle ?_
  simp (disch:=omega) [c1,c2,DS]
  refine jI (α:=Int) (W:=nothing) El.aP (by simp<;>rfl) (jy (by omega) (by omega)) fun u h4 hsrc hle4 _=>⟨View.le_trans hHle hle4,?_⟩
  have r4:=r.ext hle4
  have hi:e.2.toNat<p.length:=by omega
  refine bs El.aP (by simp) (by simp) (r4.own _ hi) hsrc (by simp;omega) (by simp;omega) fun v' h5 o5 m5=>?_
  have hg5:h5[h.size]? = some (.cells rv.toArray T.aP (0,0)):=by rw [m5.kept.block _ r4.lt (fun e=>r4.ng _ hi e.symm)];exact r4.blk
  obtain ⟨hcells,hone⟩:=iz o5
  have hH5:H.le (vw h5):=by
   intro b o hb
   have hlt4:=View.lt (View.le_trans hHle hle4) hb
   have h4b:=View.le_trans hHle hle4 b o hb
   show h5[b]? = _
   rw [m5.kept.block b hlt4 ?_]
   ·exact h4b
   ·rw [hH] at hb;simp only at hb
    split at hb
    ·rename_i e1
     rcases e1 with rfl | rfl
     ·exact fun e=>r4.ng _ hi e.symm
     ·intro e
      have:=r4.av _ hi _ e.symm
      rw [hag _ (by omega),hB3] at this;cases this
    ·cases hb
  refine ⟨hH5,?_⟩
  refine dP (g:=h.size) (o:=e.2.toNat) (n:=1) (v:=v') (by kernel_rfl) (by simp) (by simp) (by rw [hcells];rfl) (by rw [hcells];simpa using hone) hg5 (by simp;omega) fun h6 hsz6 ⟨row,hrow,hre⟩ hoth=>?_
  refine hK2 _ _ ⟨rfl,rv.set e.2.toNat v',?_⟩
  rw [hst,en]
  have hrow2:row=(rv.set e.2.toNat v').toArray:=by
   rw [←Array.toList_inj,hre,hcells,List.set_eq_take_append_cons_drop,if_pos (by omega)]
   simp
  rw [hrow2] at hrow
  exact r4.put hi o5 m5 hrow hoth hsz6
 ·rintro W h1 hag ⟨_,rv,r⟩
  rw [List.take_of_length_le (Nat.le_refl _)] at r
  have hB1:h1[h.size+1]? = some (.cells #[.slice (some ⟨h.size,0,none⟩) g.length g.length] T.hZ (0,0)):=r.wle _ _ (by rw [hag _ (by omega)];exact hB3)
  have c1:ao (vw h1) ⟨h.size+1,0,none⟩=some (.slice (some ⟨h.size,0,none⟩) g.length g.length):=bV hB1 rfl
  simp [c1]
  intro h4 hsw
  have hWW:(vw h).le W:=fun b o hb=>by rw [hag b (by have:=View.lt (View.le_refl (vw h)) hb;omega)];exact h0W b o hb
  have hfl:=lD (l:=gG g) (p:=List.replicate g.length [])
  rw [List.length_replicate] at hfl
  have hfr:=r.fresh hWW (by omega)
  rw [hfl] at hfr
  exact ⟨_,rfl,hK _ _ ⟨hsw.ext (View.le_trans hWW r.wle),hsw.rd hfr⟩⟩
 ·rintro e k W h1 hag ⟨hne,_⟩
  cases hne
end Go.Proofs.Ytfelpjfopgiabaa
namespace Go.Proofs.Ytfelpjfopgiabaa
open Go Go.Lft
def eE (n:Nat) (order:List Int):List Int:=up (fun i l=>l.set (nth order i).toNat (i:Int)) order.length (List.replicate n (-1))
def bstS (out number:List Int) (n:Nat):List Int→Int→Option Int
 | [],best=>some best
 | a::l,best=>
  if 0≤a∧a<n then
   if nth number a.toNat<0∨(a≠0∧nth out a.toNat<0) then bstS out number n l best
   else if best<0 then bstS out number n l a
   else (iS out number (2*n+2) best a).bind (bstS out number n l)
  else none
def setS (out:List Int) (ch:Bool) (b best:Int):List Int × Bool:=if nth out b.toNat≠best then (out.set b.toNat best,true) else (out,ch)
def nZ (number:List Int) (preds:Gr) (n:Nat):List Int→List Int × Bool→Option (List Int × Bool)
 | [],s=>some s
 | b::l,s=>
  if 0≤b∧b<n then (bstS s.1 number n (nth preds b.toNat) (-1)).bind fun best=>nZ number preds n l (setS s.1 s.2 b best)
  else none
def kE (number:List Int) (preds:Gr) (n:Nat) (tail:List Int):Nat→List Int→Option (List Int)
 | 0,_=>none
 | m+1,out=>(nZ number preds n tail (out,false)).bind fun s=>if s.2 then kE number preds n tail m s.1 else some s.1
def uu (g:Gr) (fuel:Nat):Option (List Int):=
 kE (eE g.length (bg g)) (cR g) g.length ((bg g).drop (min 1 (bg g).length)) fuel (List.replicate g.length (-1))
theorem gI {out number:List Int} {c:Int} : ∀ {k:Nat} {x y:Int},iS out number k x y=some c→0≤c∧c<number.length
 | 0,x,y,h=>by cases h
 | k+1,x,y,h=>by
  rw [iS] at h
  split at h
  case isFalse=>cases h
  rename_i hr
  split at h
  ·exact gI h
  ·split at h
   ·exact gI h
   ·cases h;omega
theorem yJ {out number:List Int} {n:Nat} : ∀ {l:List Int} {best r:Int},(-1≤best∧best<n)→out.length=n→number.length=n→(∀ i,i<n→-1≤nth out i∧nth out i<n)→bstS out number n l best=some r→-1≤r∧r<n:=by
 intro l
 induction l with
 | nil=>intro best r hb _ _ _ h;simp only [bstS,Option.some.injEq] at h;subst h;exact hb
 | cons a l ih=>
  intro best r hb h1 h2 h3 h
  rw [bstS] at h
  split at h
  case isFalse=>cases h
  rename_i ha
  split at h
  ·exact ih hb h1 h2 h3 h
  ·split at h
   ·exact ih ⟨by omega,by omega⟩ h1 h2 h3 h
   ·simp only [Option.bind_eq_some_iff] at h
    obtain ⟨c,hc,h⟩:=h
    refine ih ?_ h1 h2 h3 h
    have:=gI hc
    omega
structure OvOk (m M:Nat) (s:List Bool × List Int):Prop where
 len:s.1.length=m
 cnt:s.2.length+cL s.1≤M
 rng : ∀ x∈s.2,0≤x∧x<m
theorem xg {nx:Int→List Int} {m:Nat} (hnx : ∀ a:Int,0≤a→a<m→∀ i,i<(nx a).length→0≤nth (nx a) i∧nth (nx a) i<m) : ∀ (n M:Nat) (a:Int) (s:List Bool × List Int),0≤a→a<m→nth s.1 a.toNat=false→OvOk m M s→OvOk m M (gW nx n a s)
 | 0,_,_,_,_,_,_,h=>h
 | n+1,M,a,s,h0,h1,hf,h=>by
  rw [iK]
  have hlen:=h.len
  have hfs:=gR (t:=s.1) (i:=a.toNat) (by omega) hf
  have hc:=h.cnt
  have hup : ∀ k,k≤(nx a).length→OvOk m (M-1) (up (b8 nx n a) k (s.1.set a.toNat true,s.2)):=by
   intro k
   induction k with
   | zero=>exact fun _=>⟨by simpa [up] using hlen,by simp only [up];omega,h.rng⟩
   | succ k ih=>
    intro hk
    have:=ih (by omega)
    rw [up]
    generalize up (b8 nx n a) k (s.1.set a.toNat true,s.2)=z at this
    unfold b8
    split
    ·exact this
    ·rename_i hz
     obtain ⟨e0,e1⟩:=hnx a h0 h1 k (by omega)
     exact xg hnx n (M-1) _ z e0 e1 (by simpa using hz) this
  have:=hup _ (Nat.le_refl _)
  exact ⟨this.len,by have:=this.cnt;simp;omega,fun x hx=>by
   rcases List.mem_append.1 hx with hx | hx
   ·exact this.rng x hx
   ·simp only [List.mem_singleton] at hx;subst hx;exact ⟨h0,h1⟩⟩
theorem uF {nx:Int→List Int} {m:Nat} (hnx : ∀ a:Int,0≤a→a<m→∀ i,i<(nx a).length→0≤nth (nx a) i∧nth (nx a) i<m):(jk nx m).length≤m∧∀ x∈jk nx m,0≤x∧x<m:=by
 unfold jk
 split
 ·simp
 ·rename_i h0
  have:=xg hnx m m 0 (List.replicate m false,[]) (by omega) (by omega) (au (by simp;omega)) ⟨by simp,by simp [cL],by simp⟩
  refine ⟨?_,fun x hx=>this.rng x (by simpa using hx)⟩
  have:=this.cnt
  simp;omega
theorem EG {g:Gr} : ∀ a:Int,0≤a→a<(g.length:Int)→∀ i,i<(nx (cM g) a).length→0≤nth (nx (cM g) a) i∧nth (nx (cM g) a) i<g.length:=by
 intro a h0 h1 i hi
 have:=pC a.toNat (by rw [gm];omega) i hi
 rwa [gm] at this
theorem A5 {g:Gr} {i:Nat} (hi:i<(bg g).length):0≤nth (bg g) i∧nth (bg g) i<g.length:=
 (uF EG).2 _ (bU hi)
theorem nY {g:Gr}:(bg g).length≤g.length:=(uF EG).1
theorem pW {g:Gr} : ∀ {l:List (Int × Int)} {p:Gr},(∀ e∈l,0≤e.1∧e.1<g.length)→(∀ i,∀ x∈nth p i,0≤x∧x<g.length)→∀ i,∀ x∈nth (l.foldl en p) i,0≤x∧x<g.length:=by
 intro l
 induction l with
 | nil=>exact fun _ h=>h
 | cons e l ih=>
  intro p hl hp
  rw [List.foldl_cons]
  refine ih (fun e' he'=>hl e' (List.mem_cons_of_mem _ he')) fun i x hx=>?_
  unfold en at hx
  rcases Nat.lt_or_ge i p.length with hi | hi
  ·rw [aK hi] at hx
   split at hx
   ·rcases List.mem_append.1 hx with hx | hx
    ·exact hp _ x hx
    ·simp only [List.mem_singleton] at hx;subst hx;exact hl e (List.mem_cons_self ..)
   ·exact hp _ x hx
  ·rw [aV (by simpa using hi)] at hx;cases hx
end Go.Proofs.Ytfelpjfopgiabaa
namespace Go.Proofs.Ytfelpjfopgiabaa
open Go Go.Lft
theorem rN {h h':Heap} {v v':Value} (m:jt h h' v v') {W:View} (hw:W.le (vw h)) (ha:Av W v):W.le (vw h'):=(m.view hw ha).1
theorem Eb {g:Gr} {vg:Value} {h:Heap} {fuel:Nat} {l:List Int} (hg:SlRd (vw h) vg g) (hs:Sm g) (hl:uu g fuel=some l) :
  aI Try.prog N.bR #[vg] h (fun v h'=>∃ W,Mine nothing h h' W T.int v l):=by
 refine aA (args:=[vg]) follows F.bR E.bR (Nat.le_of_ble_eq_true (by kernel_rfl)) fun K hK=>?_
 have hs1:=hs.1
 simp [L.bR,hg.len]
 refine aj (by kernel_rfl) (xC hg hs) ?_
 rintro vo h1 ⟨hle1,ho⟩
 have hoin:=@A5 g
 have holen:=nY (g:=g)
 rw [uu] at hl
 generalize bg g=order at ho hoin holen hl
 refine Mine.made (V:=nothing) (W:=nothing) (h0:=h) (n:=g.length) (d:=(0:Int)) El.aP hle1 (fun _ _ h=>by cases h) (Old.nothing _ _) (by simp<;>rfl) (by simp<;>rfl) ⟨rfl,by omega,by omega⟩ (by omega) (by omega) fun vn h2 mn hle2 hbn=>?_
 refine Mine.made (V:=nothing) (W:=nothing) (h0:=h) (n:=g.length) (d:=(0:Int)) El.aP mn.old (fun _ _ h=>by cases h) (Old.nothing _ _) (by simp<;>rfl) (by simp<;>rfl) ⟨rfl,by omega,by omega⟩ (by omega) (by omega) fun vi h3 mi hle3 hbi=>?_
 have mn3:=mn.ext' hle3
 have hne:vn.ownBlock≠vi.ownBlock:=by
  have:=mn.own.lt hbn
  rw [hbn,hbi];intro e;simp only [Option.some.injEq] at e;omega
 have hle13:(vw h1).le (vw h3):=View.le_trans hle2 hle3
 have av1n:Av (vw h1) vn:=fun b hb=>by rw [hbn] at hb;cases hb;exact View.dd (View.le_refl _) (Nat.le_refl _)
 have av1i:Av (vw h1) vi:=fun b hb=>by rw [hbi] at hb;cases hb;exact View.dd hle2 (Nat.le_refl _)
 refine bc [0,3,4,5,25,26] (fun (_:Unit) k=>[vg,vo,vn,vi,.int .i64 g.length,.int .i64 k])
  (fun _ k h4=>Mine nothing h h4 nothing T.int vn (rows (fun _=>(-1:Int)) k++List.replicate (g.length-k) 0)∧Mine nothing h h4 nothing T.int vi (rows (fun _=>(-1:Int)) k++List.replicate (g.length-k) 0)∧(vw h1).le (vw h4)) g.length ()
  rfl (by omega) rfl ⟨by simpa using mn3,by simpa using mi,hle13⟩ (fun _ _=>rfl) (fun v k h1 hk m=>by simp) ?_ ?_
 ·rintro _ k h4 hlt ⟨m4n,m4i,hle4⟩ K2 hK2
  have hlk:(rows (fun _=>(-1:Int)) k++List.replicate (g.length-k) (0:Int)).length=g.length:=by simp;omega
  simp (disch:=omega) [m4n.now.idx1 rfl,m4i.now.idx1 rfl]
  refine oh (W:=nothing) (i:=k) (d:=(-1:Int)) (by kernel_rfl) (by simp [show Rep.n Int=1 from rfl]) (by simp<;>rfl) m4n.own (by omega) (jy (by omega) (by omega)) fun h5 o5 mv5=>?_
  have m5n:=m4n.kI o5 mv5
  have m5i:=m4i.beside m5n mv5 (.inr (Ne.symm hne))
  refine oh (W:=nothing) (i:=k) (d:=(-1:Int)) (by kernel_rfl) (by simp [show Rep.n Int=1 from rfl]) (by simp<;>rfl) m5i.own (by omega) (jy (by omega) (by omega)) fun h6 o6 mv6=>?_
  have m6i:=m5i.kI o6 mv6
  have m6n:=m5n.beside m6i mv6 (.inr hne)
  rw [mh (x:=fun _=>(-1:Int)) hlt] at m6i m6n
  exact hK2 () _ _ rfl rfl ⟨m6n,m6i,rN mv6 (rN mv5 hle4 av1n) av1i⟩
 ·rintro _ h4 ⟨m4n,m4i,hle4⟩
  have hrows:rows (fun _=>(-1:Int)) g.length=List.replicate g.length (-1):=by
   refine List.ext_getElem (by simp) fun i h1 h2=>?_
   simp [rows]
  rw [hrows] at m4n m4i
  simp only [Nat.sub_self,List.replicate_zero,List.append_nil] at m4n m4i
  have ho1:=ho.mono (gl h h1)
  simp [ho1.len]
  refine bc [0,3,4,5,36,37,38] (fun (_:Unit) k=>[vg,vo,vn,vi,vo,.int .i64 order.length,.int .i64 k])
   (fun _ k h5=>Mine nothing h h5 nothing T.int vn (up (fun i l=>l.set (nth order i).toNat (i:Int)) k (List.replicate g.length (-1)))∧Mine nothing h h5 nothing T.int vi (List.replicate g.length (-1))∧(vw h1).le (vw h5)) order.length ()
   rfl (by omega) rfl ⟨m4n,m4i,hle4⟩ (fun _ _=>rfl) (fun v k h1 hk m=>by simp) ?_ ?_
  ·rintro _ k h5 hlt ⟨m5n,m5i,hle5⟩ K2 hK2
   have hlen5:(up (fun i l=>l.set (nth order i).toNat (i:Int)) k (List.replicate g.length (-1))).length=g.length:=by
    rw [wJ List.length (fun _ _=>by simp)];simp
   have ho5:=ho1.mono hle5
   obtain ⟨e0,e1⟩:=hoin hlt
   simp (disch:=omega) [ho5.idx1 rfl,ho5.int (View.le_refl _),m5n.now.idx1 rfl]
   refine oh (W:=nothing) (i:=(nth order k).toNat) (d:=(k:Int)) (by kernel_rfl) (by simp [show Rep.n Int=1 from rfl]) (by simp<;>rfl) m5n.own (by omega) (jy (by omega) (by omega)) fun h6 o6 mv6=>?_
   have m6n:=m5n.kI o6 mv6
   exact hK2 () _ _ rfl rfl ⟨m6n,m5i.beside m6n mv6 (.inr (Ne.symm hne)),rN mv6 hle5 av1n⟩
  ·rintro _ h5 ⟨m5n,m5i,hle5⟩
   have hnum:up (fun i l=>l.set (nth order i).toNat (i:Int)) order.length (List.replicate g.length (-1))=eE g.length order:=rfl
   rw [hnum] at m5n
   have hnl:(eE g.length order).length=g.length:=by rw [eE,wJ List.length (fun _ _=>by simp)];simp
   simp
   refine aj (by kernel_rfl) (yB (hg.mono m5n.old) hs) ?_
   rintro vp h6 ⟨hle6,hp⟩
   have hpl:(cR g).length=g.length:=by rw [cR,lD];simp
   have hpin : ∀ i,∀ x∈nth (cR g) i,0≤x∧x<g.length:=pW (fun e he=>(mN he).1) (fun i x hx=>by
    rcases Nat.lt_or_ge i g.length with hi | hi
    ·rw [au hi] at hx;cases hx
    ·rw [aV (by simpa using hi)] at hx;cases hx)
   have m6:=(m5i.ext' hle6).over
   have hn6:SlRd (but vi h6) vn (eE g.length order):=(m5n.own.rd (V:=but vi h5) (fun _ _ h=>by cases h) (fun b hb=>by unfold but;rw [if_neg (fun e=>hne (hb.trans e.symm))])).mono (yx hle6)
   have hp6:SlRd (but vi h6) vp (cR g):=hp.mono fun b o hb=>by
    have hb2:=gl _ _ b o hb
    unfold but
    split
    ·rename_i e
     have:=m5i.own.lt e
     unfold fresh at hb;rw [if_pos this] at hb;cases hb
    ·exact hb2
   have ho6:SlRd (but vi h6) vo order:=ho1.mono (View.le_trans (FG hle5 av1i) (yx hle6))
   generalize hW:but vi h6=W at m6 hn6 hp6 ho6
   generalize eE g.length order=number at hn6 hnl hl
   generalize hpr:cR g=preds at hp6 hpl hpin hl
   obtain ⟨pv,hpv⟩:=hp6.rows
   refine jd [3,4,5,9,10] (fun m ρ h7=>∃ (out:List Int) (ch:Bool),ρ=[(3,vo),(4,vn),(5,vi),(9,vp),(10,.bool ch)]∧Mine (vw h) h h7 W T.int vi out∧out.length=g.length∧(∀ i,i<g.length→-1≤nth out i∧nth out i<g.length)∧
    (ch=true→kE number preds g.length (order.drop (min 1 order.length)) m out=some l)∧(ch=false→out=l)) fuel
    ⟨_,true,rfl,m6,by simp,fun i hi=>by rw [au hi];omega,fun _=>hl,fun h=>by cases h⟩ ?_
   rintro m ρ h7 ⟨out,ch,rfl,m7,hol,hor,hch1,hch2⟩ K2 hK2
   cases ch with
   | false=>
    simp [L.bR.l3,iP]
    have:=hch2 rfl
    subst this
    exact hK _ _ ⟨_,m7.Gx⟩
   | true=>
    have hit:=hch1 rfl
    cases m with
    | zero=>cases hit
    | succ m=>
     rw [kE,Option.bind_eq_some_iff] at hit
     obtain ⟨⟨out',ch'⟩,hsw,hfin⟩:=hit
     simp only at hfin
     simp [L.bR.l3,iP]
     have hmin:(if (order.length:Int)<1 then (order.length:Int) else 1)=((min 1 order.length:Nat):Int):=by split<;>omega
     obtain ⟨u,hu,hur⟩:=ho6.drop (n:=min 1 order.length) (by omega) (kd:=.i64)
     rw [show Rep.n Int=1 from rfl] at hu
     have hti : ∀ j,j<(order.drop (min 1 order.length)).length→nth (order.drop (min 1 order.length)) j=nth order (min 1 order.length+j):=by
      intro j hj
      rw [List.length_drop] at hj
      rw [aq (by rw [List.length_drop];omega),aq (by omega),List.getElem_drop]
     generalize order.drop (min 1 order.length)=tail at hur hti hsw hfin hK2
     simp only [ho6.len,Option.bind_some,F1,hmin,hu,hur.len,ic,cP]
     have hub:=hur.bound
     simp
     refine bc [3,4,5,9,10,55,56,57] (fun (s:List Int × Bool) k=>[vo,vn,vi,vp,.bool s.2,u,.int .i64 tail.length,.int .i64 k])
      (fun s k h8=>Mine (vw h) h h8 W T.int vi s.1∧s.1.length=g.length∧(∀ i,i<g.length→-1≤nth s.1 i∧nth s.1 i<g.length)∧nZ number preds g.length (tail.drop k) s=some (out',ch')) tail.length (out,false)
      rfl (by omega) rfl ⟨m7,hol,hor,by simpa using hsw⟩ (fun _ _=>rfl) (fun v k h1 hk m=>by simp) ?_ ?_
     ·rintro ⟨o8,c8⟩ k h8 hlt8 ⟨m8,hol8,hor8,hs8⟩ K3 hK3
      simp only at m8 hol8 hor8
      rw [List.drop_eq_getElem_cons hlt8,←aq hlt8,nZ] at hs8
      split at hs8
      case isFalse=>cases hs8
      rename_i hb
      rw [Option.bind_eq_some_iff] at hs8
      obtain ⟨best,hbest,hs8⟩:=hs8
      simp only at hbest hs8
      have hb2:=yJ (by omega) hol8 hnl hor8 hbest
      generalize hbe:nth tail k=b at hb hbest hs8
      obtain ⟨cv,rr⟩:=hpv b.toNat (by omega)
      have br:=rr.bound
      simp (disch:=omega) [hur.idx1 rfl,hur.int m8.wle,hbe,hp6.idx1 rfl,cv _ m8.wle,rr.len]
      refine bc [3,4,5,9,10,55,56,57,12,13,64,65,66] (fun (bst:Int) j=>[vo,vn,vi,vp,.bool c8,u,.int .i64 tail.length,.int .i64 k,.int .i64 b,.int .i64 bst,pv b.toNat,.int .i64 (nth preds b.toNat).length,.int .i64 j])
       (fun bst j h9=>Mine (vw h) h h9 W T.int vi o8∧(-1≤bst∧bst<g.length)∧bstS o8 number g.length ((nth preds b.toNat).drop j) bst=some best) (nth preds b.toNat).length (-1)
       rfl (by omega) rfl ⟨m8,by omega,by simpa using hbest⟩ (fun _ _=>rfl) (fun v k h1 hk m=>by simp) ?_ ?_
      ·rintro bst j h9 hlt9 ⟨m9,hb9,hs9⟩ K4 hK4
       rw [List.drop_eq_getElem_cons hlt9,←aq hlt9,bstS] at hs9
       have ha:=hpin _ _ (bU hlt9)
       rw [if_pos ha] at hs9
       have hra:=rr.int m9.wle hlt9
       generalize nth (nth preds b.toNat) j=a at hs9 ha hra
       have hn9:=hn6.int m9.wle (i:=a.toNat) (by omega)
       have ho9:=m9.now.int (View.le_refl _) (i:=a.toNat) (by omega)
       have hi9:=m9.now
       by_cases c1:nth number a.toNat<0
       ·rw [if_pos (.inl c1)] at hs9
        simp (disch:=omega) [rr.idx1 rfl,hra,hn6.idx1 rfl,hn9,c1,hi9.idx1 rfl,ho9]
        exact hK4 bst _ _ rfl rfl ⟨m9,hb9,hs9⟩
       ·by_cases c2:a=0
        ·rw [if_neg (by rintro (h | h);exact c1 h;exact h.1 c2)] at hs9
         subst c2
         rw [Int.toNat_zero] at hn9 ho9 c1
         simp (disch:=omega) [rr.idx1 rfl,hra,hn6.idx1 rfl,hn9,c1,hi9.idx1 rfl,ho9]
         refine ⟨fun c4=>?_,fun c4=>?_⟩
         ·rw [if_pos c4] at hs9
          exact hK4 _ _ _ rfl rfl ⟨m9,by omega,hs9⟩
         ·rw [if_neg (by omega),Option.bind_eq_some_iff] at hs9
          obtain ⟨c,hc,hs9⟩:=hs9
          have hcr:=gI hc
          refine aj (by kernel_rfl) (tQ m9.now (hn6.mono m9.wle) hc) ?_
          rintro _ _ ⟨rfl,rfl⟩
          exact hK4 c _ _ rfl rfl ⟨m9,by omega,hs9⟩
        ·by_cases c3:nth o8 a.toNat<0
         ·rw [if_pos (.inr ⟨c2,c3⟩)] at hs9
          simp (disch:=omega) [rr.idx1 rfl,hra,hn6.idx1 rfl,hn9,c1,c2,hi9.idx1 rfl,ho9,c3]
          exact hK4 bst _ _ rfl rfl ⟨m9,hb9,hs9⟩
         ·rw [if_neg (by rintro (h | h);exact c1 h;exact c3 h.2)] at hs9
          simp (disch:=omega) [rr.idx1 rfl,hra,hn6.idx1 rfl,hn9,c1,c2,hi9.idx1 rfl,ho9,c3]
          refine ⟨fun c4=>?_,fun c4=>?_⟩
          ·rw [if_pos c4] at hs9
           exact hK4 _ _ _ rfl rfl ⟨m9,by omega,hs9⟩
          ·rw [if_neg (by omega),Option.bind_eq_some_iff] at hs9
           obtain ⟨c,hc,hs9⟩:=hs9
           have hcr:=gI hc
           refine aj (by kernel_rfl) (tQ m9.now (hn6.mono m9.wle) hc) ?_
           rintro _ _ ⟨rfl,rfl⟩
           exact hK4 c _ _ rfl rfl ⟨m9,by omega,hs9⟩
      ·rintro bst h9 ⟨m9,hb9,hs9⟩
       simp only [List.drop_length,bstS,Option.some.injEq] at hs9
       subst hs9
       simp (disch:=omega) [m9.now.idx1 rfl,m9.now.int (View.le_refl _)]
       refine ⟨fun e=>hK3 (o8,c8) _ _ rfl rfl ⟨m9,hol8,hor8,by rw [setS,if_neg (by simpa using e)] at hs8;exact hs8⟩,fun e=>?_⟩
       refine m9.put1 (α:=Int) (i:=b.toNat) (by kernel_rfl) rfl (by simp) (by simp<;>rfl) (by omega) (jy (by omega) (by omega)) fun h10 m10=>hK3 (o8.set b.toNat bst,true) _ _ rfl rfl ⟨m10,by simpa using hol8,fun i hi=>?_,by rw [setS,if_pos e] at hs8;exact hs8⟩
       simp only
       rw [aK (by omega)]
       split
       ·exact hb9
       ·exact hor8 i hi
     ·rintro ⟨o8,c8⟩ h8 ⟨m8,hol8,hor8,hs8⟩
      simp only [List.drop_length,nZ,Option.some.injEq,Prod.mk.injEq] at hs8 m8 hol8 hor8
      obtain ⟨rfl,rfl⟩:=hs8
      simp
      refine hK2 m _ _ (by omega) ⟨_,_,rfl,m8,hol8,hor8,fun e=>?_,fun e=>?_⟩
      ·rw [if_pos e] at hfin;exact hfin
      ·rw [if_neg (by simp [e])] at hfin;exact Option.some.inj hfin
end Go.Proofs.Ytfelpjfopgiabaa
namespace Go.Proofs.Ytfelpjfopgiabaa
open Go Go.Lft
abbrev Tr:=Int × Int × Int
def trV (t:Tr):List PanicEntry:=[{ v:=.iface T.eO (.agg #[.int .i64 t.1,.int .i64 t.2.1,.int .i64 t.2.2]),recovered:=false }]
def aY (n a b:Int):Bool:=decide (a≤n)&&decide (n≤b)
theorem gu {n a b:Int} {h:Heap}:aI Try.prog N.dR #[.int .i64 n,.int .i64 a,.int .i64 b] h (fun v h'=>v = .bool (aY n a b)∧h'=h):=by
 refine aA (args:=[.int .i64 n,.int .i64 a,.int .i64 b]) follows F.dR E.dR (Nat.le_of_ble_eq_true (by kernel_rfl)) fun K hK=>?_
 simp [L.dR]
 exact hK _ _ ⟨by by_cases h1:a≤n<;>simp [aY,h1],rfl⟩
theorem fQ {ok:Bool} {e b p:Int} {h:Heap}:eT Try.prog N.ei #[.bool ok,.int .i64 e,.int .i64 b,.int .i64 p] h (fun v h'=>ok=true∧h'=h) (fun ch h'=>ok=false∧ch=trV (e,b,p)∧h'=h):=by
 refine fX (args:=[.bool ok,.int .i64 e,.int .i64 b,.int .i64 p]) follows F.ei E.ei (Nat.le_of_ble_eq_true (by kernel_rfl)) fun K Kp hK hKp=>?_
 cases ok with
 | true=>
  simp [L.ei]
  exact hK _ _ ⟨rfl,rfl⟩
 | false=>
  simp [L.ei]
  refine aN (z:=.agg #[.int .i64 0,.int .i64 0,.int .i64 0]) (places:=[(0,1),(1,1),(2,1)]) (vs:=[(0,.int .i64 e),(1,.int .i64 b),(2,.int .i64 p)]) (cs:=#[.int .i64 e,.int .i64 b,.int .i64 p]) (by kernel_rfl) (by kernel_rfl) (by simp) (by rfl) ?_
  refine CS (d:=(Try.prog.underlying T.eO).getD .bool) (by kernel_rfl) (by kernel_rfl) rfl ?_
  simp
  refine B0 (t:=T.eO) (v:=.agg #[.int .i64 e,.int .i64 b,.int .i64 p]) rfl ?_
  exact ⟨.inl rfl,hKp _ _ ⟨rfl,rfl,rfl⟩⟩
def fg (op:Int):Int × Int:=if op=1 then (0,0) else if op=15 then (1,1) else if op=17 then (0,4) else (2,2)
theorem xR {op:Int} {h:Heap}:aI Try.prog N.du #[.int .i64 op] h (fun v h'=>v = .tuple #[.int .i64 (fg op).1,.int .i64 (fg op).2]∧h'=h):=by
 refine aA (args:=[.int .i64 op]) follows F.du E.du (Nat.le_of_ble_eq_true (by kernel_rfl)) fun K hK=>?_
 simp [L.du]
 refine ⟨fun h1=>hK _ _ ⟨by simp [fg,h1],rfl⟩,fun h1=>⟨fun h2=>hK _ _ ⟨by simp [fg,h1,h2],rfl⟩,fun h2=>⟨fun h3=>hK _ _ ⟨by simp [fg,h1,h2,h3],rfl⟩,fun h3=>hK _ _ ⟨by simp [fg,h1,h2,h3],rfl⟩⟩⟩⟩
def aU (i:InsD):List Int:=if i.op=16 then [] else if i.op=18 then [i.dst,i.two] else [i.dst]
theorem wY {d:InsD} {v:Value} {h:Heap} (hd:Rd (vw h) v d):aI Try.prog N.eI #[v] h (fun u h'=>(vw h).le (vw h')∧SlRd (fresh h h') u (aU d)):=by
 refine aA (args:=[v]) follows F.eI E.eI (Nat.le_of_ble_eq_true (by kernel_rfl)) fun K hK=>?_
 simp [L.eI]
 refine ez rfl hd fun h1 _ hle1 hsz1 hat=>?_
 obtain ⟨c0,c1,c2,va,ca⟩:=mU hat
 have r1:=(hat.part InsD.jh).rng
 have r2:=(hat.part InsD.uC).rng
 simp [c0]
 refine ⟨fun e1=>hK _ _ ⟨hle1,by simpa [aU,e1] using dM⟩,fun e1=>⟨fun e2=>?_,fun e2=>?_⟩⟩
 ·simp [c1,c2]
  refine fP (X:=nothing) (ds:=[d.dst,d.two]) (vs:=[.int .i64 d.dst,.int .i64 d.two]) rfl El.aP (by simp) ⟨cC.2 ⟨rfl,r1⟩,cC.2 ⟨rfl,r2⟩,trivial⟩ a8 rfl (by omega) fun u h2 hle2 hsz2 hu _=>?_
  exact hK _ _ ⟨View.le_trans hle1 hle2,by simpa [aU,e2] using hu _ a8 (by unfold fresh;rw [if_neg (by omega)])⟩
 ·simp [c1]
  refine fP (X:=nothing) (ds:=[d.dst]) (vs:=[.int .i64 d.dst]) rfl El.aP (by simp) ⟨cC.2 ⟨rfl,r1⟩,trivial⟩ a8 rfl (by omega) fun u h2 hle2 hsz2 hu _=>?_
  exact hK _ _ ⟨View.le_trans hle1 hle2,by simpa [aU,e1,e2] using hu _ a8 (by unfold fresh;rw [if_neg (by omega)])⟩
end Go.Proofs.Ytfelpjfopgiabaa
namespace Go.Proofs.Ytfelpjfopgiabaa
open Go Go.Lft
abbrev MW:=Int→Option (Int × Int)
def encW (w:Int × Int):Value:=.agg #[.int .i64 w.1,.int .i64 w.2]
theorem Ec {Kb:Nat} {ps n b p:Int} {h:Heap} (h0:ao (vw h) ⟨Kb,0,none⟩=some (.int .i64 ps)) :
  eT Try.prog N.cH #[.pointer (some ⟨Kb,0,none⟩),.int .i64 n,.int .i64 b,.int .i64 p] h (fun _ h'=>aY n ps 8191=true∧h'=h) (fun ch h'=>aY n ps 8191=false∧ch=trV (11,b,p)∧h'=h):=by
 refine fX (args:=[.pointer (some ⟨Kb,0,none⟩),.int .i64 n,.int .i64 b,.int .i64 p]) follows F.cH E.cH (Nat.le_of_ble_eq_true (by kernel_rfl)) fun K Kp hK hKp=>?_
 simp [L.cH,h0]
 refine aj (by kernel_rfl) gu ?_
 rintro _ _ ⟨rfl,rfl⟩
 refine de (by kernel_rfl) fQ ?_ ?_
 ·rintro _ _ ⟨e,rfl⟩
  exact hK _ _ ⟨e,rfl⟩
 ·rintro _ _ ⟨e,rfl,rfl⟩
  exact ⟨.inl rfl,hKp _ _ ⟨e,rfl,rfl⟩⟩
theorem DY {Kb r:Nat} {m:MW} {n b p:Int} {h:Heap} (h2:ao (skip r h) ⟨Kb,2,none⟩=some (.map (some r))) (hm:fm (.int .i64) h r (mapE encW m)) :
  eT Try.prog N.cE #[.pointer (some ⟨Kb,0,none⟩),.int .i64 n,.int .i64 b,.int .i64 p] h (fun _ h'=>m n=none∧fm (.int .i64) h' r (mapE encW (putM m n (b,p)))∧Kept h h' (some r))
   (fun ch h'=>m n≠none∧ch=trV (12,b,p)∧Kept h h' (some r)):=by
 refine fX (args:=[.pointer (some ⟨Kb,0,none⟩),.int .i64 n,.int .i64 b,.int .i64 p]) follows F.cE E.cE (Nat.le_of_ble_eq_true (by kernel_rfl)) fun K Kp hK hKp=>?_
 simp [L.cE,ah bZ h2]
 refine jH (z:=.agg #[.int .i64 0,.int .i64 0]) U.eK U.int (by kernel_rfl) (by simp<;>rfl) (by simp<;>rfl) lk hm ?_
 simp
 refine gM (n:=2) (z:=.agg #[.int .i64 0,.int .i64 0]) (v:=((m n).map encW).getD (.agg #[.int .i64 0,.int .i64 0])) (by kernel_rfl) rfl (by kernel_rfl) (by cases m n<;>rfl) (by cases m n<;>simp [encW,Value.oneCell']) (fun _=>by simp) (fun _=>by simp) fun h3 hle3 _ _=>?_
 have k3:=Kept.of_le (b:=some r) hle3
 have hm3:=hm.ext hle3
 have h23:=ah k3.Aq h2
 refine de (by kernel_rfl) fQ ?_ ?_
 ·rintro _ _ ⟨e,rfl⟩
  simp [h23]
  refine aN (z:=.agg #[.int .i64 0,.int .i64 0]) (places:=[(0,1),(1,1)]) (vs:=[(0,.int .i64 b),(1,.int .i64 p)]) (cs:=#[.int .i64 b,.int .i64 p]) (by kernel_rfl) (by kernel_rfl) (by simp) (by rfl) ?_
  refine uJ (v:=encW (b,p)) (.inl rfl) U.eK U.int (by simp<;>rfl) (by simp<;>rfl) (by simp<;>rfl) lk hm3 _ oQ.1 oQ.2 fun h4 hs4 ho4 hm4=>?_
  exact hK _ _ ⟨by simpa using e,hm4,k3.trans (Kept.upd hs4 ho4)⟩
 ·rintro _ _ ⟨e,rfl,rfl⟩
  exact ⟨.inl rfl,hKp _ _ ⟨(by intro e2;rw [e2] at e;cases e),rfl,k3⟩⟩
def nJ (b p:Int) (m:MW) (n:Int):Except Tr MW:=if (m n).isSome then .error (12,b,p) else .ok (putM m n (b,p))
def allS (ps:Int) (l:List Int) (b p:Int) (m:MW):Except Tr MW:=if l.all (fun n=>aY n ps 8191) then l.foldlM (nJ b p) m else .error (11,b,p)
structure Lk (h:Heap) (Kb r:Nat) (vb:Value) (f:ak) (m:MW):Prop where
 c0:ao (skip r h) ⟨Kb,0,none⟩=some (.int .i64 f.params)
 c1:ao (skip r h) ⟨Kb,1,none⟩=some vb
 c2:ao (skip r h) ⟨Kb,2,none⟩=some (.map (some r))
 rb:SlRd (skip r h) vb f.blocks
 map:fm (.int .i64) h r (mapE encW m)
theorem Lk.kept {h h':Heap} {Kb r:Nat} {vb:Value} {f:ak} {m m':MW} (k:Lk h Kb r vb f m) (hk:Kept h h' (some r)) (hm:fm (.int .i64) h' r (mapE encW m')):Lk h' Kb r vb f m':=
 ⟨ah hk.skip k.c0,ah hk.skip k.c1,ah hk.skip k.c2,k.rb.mono hk.skip,hm⟩
theorem Lk.ext {h h':Heap} {Kb r:Nat} {vb:Value} {f:ak} {m:MW} (k:Lk h Kb r vb f m) (hle:(vw h).le (vw h')):Lk h' Kb r vb f m:=
 k.kept (Kept.of_le hle) (k.map.ext hle)
theorem Ce {Kb r:Nat} {vb vl:Value} {f:ak} {m:MW} {l:List Int} {b p:Int} {h:Heap} (k:Lk h Kb r vb f m) (hl:SlRd (skip r h) vl l) :
  eT Try.prog N.bF #[.pointer (some ⟨Kb,0,none⟩),vl,.int .i64 b,.int .i64 p] h (fun _ h'=>∃ m',allS f.params l b p m = .ok m'∧Lk h' Kb r vb f m'∧Kept h h' (some r))
   (fun ch h'=>∃ t,allS f.params l b p m = .error t∧ch=trV t∧Kept h h' (some r)):=by
 refine fX (args:=[.pointer (some ⟨Kb,0,none⟩),vl,.int .i64 b,.int .i64 p]) follows F.bF E.bF (Nat.le_of_ble_eq_true (by kernel_rfl)) fun K Kp hK hKp=>?_
 have hlb:=hl.bound
 simp [L.bF,hl.len]
 refine bc [0,1,2,3,12,13,14] (fun (_:Unit) i=>[.pointer (some ⟨Kb,0,none⟩),vl,.int .i64 b,.int .i64 p,vl,.int .i64 l.length,.int .i64 i]) (fun _ i h1=>h1=h∧∀ j,j<i→aY (nth l j) f.params 8191=true) l.length ()
  rfl (by omega) rfl ⟨rfl,fun j hj=>by omega⟩ (fun _ _=>rfl) (fun v i h1 hk m=>by simp) ?_ ?_
 ·rintro _ i _ hlt ⟨rfl,hpre⟩ K2 hK2
  simp (disch:=omega) [hl.idx1 rfl,hl.int bZ]
  refine de (by kernel_rfl) (Ec (ah bZ k.c0)) ?_ ?_
  ·rintro _ _ ⟨e,rfl⟩
   refine hK2 () _ _ rfl rfl ⟨rfl,fun j hj=>?_⟩
   rcases Nat.lt_or_ge j i with h | h
   ·exact hpre j h
   ·have:j=i:=by omega
    subst this;exact e
  ·rintro _ _ ⟨e,rfl,rfl⟩
   refine ⟨.inl rfl,hKp _ _ ⟨_,?_,rfl,Kept.refl _ _⟩⟩
   rw [allS,if_neg]
   intro ha
   rw [List.all_eq_true.1 ha _ (bU hlt)] at e;cases e
 ·rintro _ h ⟨rfl,hpre⟩
  have hall:allS f.params l b p m=l.foldlM (nJ b p) m:=by
   rw [allS,if_pos]
   rw [List.all_eq_true]
   intro x hx
   obtain ⟨j,hj,rfl⟩:=List.getElem_of_mem hx
   rw [←aq hj];exact hpre j hj
  rw [hall] at hK hKp
  simp [hl.len]
  refine bc [0,2,3,24,25,26] (fun (_:Unit) i=>[.pointer (some ⟨Kb,0,none⟩),.int .i64 b,.int .i64 p,vl,.int .i64 l.length,.int .i64 i]) (fun _ i h1=>∃ m',(l.take i).foldlM (nJ b p) m = .ok m'∧Lk h1 Kb r vb f m'∧Kept h h1 (some r)) l.length ()
   rfl (by omega) rfl ⟨m,rfl,k,Kept.refl _ _⟩ (fun _ _=>rfl) (fun v i h1 hk m=>by simp) ?_ ?_
  ·rintro _ i h1 hlt ⟨m1,hm1,k1,kp1⟩ K2 hK2
   have hl1:=hl.mono kp1.Aq
   have hst:=yR hlt hm1
   simp (disch:=omega) [hl1.idx1 rfl,hl1.int (View.le_refl _)]
   refine de (by kernel_rfl) (DY k1.c2 k1.map) ?_ ?_
   ·rintro _ h2 ⟨e,hm2,kp2⟩
    refine hK2 () _ _ rfl rfl ⟨_,by rw [hst,nJ,e];rfl,k1.kept kp2 hm2,kp1.trans kp2⟩
   ·rintro _ h2 ⟨e,rfl,kp2⟩
    refine ⟨.inl rfl,hKp _ _ ⟨_,AT (k:=i+1) (by rw [hst,nJ,if_pos (Option.isSome_iff_ne_none.2 e)]),rfl,kp1.trans kp2⟩⟩
  ·rintro _ h1 ⟨m1,hm1,k1,kp1⟩
   rw [List.take_length] at hm1
   simp
   exact hK _ _ ⟨m1,hm1,k1,kp1⟩
end Go.Proofs.Ytfelpjfopgiabaa
namespace Go.Proofs.Ytfelpjfopgiabaa
open Go Go.Lft
abbrev Sh:=Int × Int × Int × Int
def encS (s:Sh):Value:=.agg #[.int .i64 s.1,.int .i64 s.2.1,.int .i64 s.2.2.1,.int .i64 s.2.2.2]
def eW:Int→Option Sh:=putM (putM (putM (putM (putM (fun _=>none) 1 (0,0,1,1)) 2 (1,1,2,2)) 3 (1,1,2,65)) 4 (0,1,0,0)) 5 (0,0,0,0)
theorem mF {po:OP} {ty:TypeId} {us:List (Nat × Value)} {h:Heap} {K:Value→Heap→Prop} {a b c d:Int} (hk:K (encS (a,b,c,d)) h) :
  Lft.step Try.prog (.build T.cV #[(0,.const (.int .i64 a)),(1,.const (.int .i64 b)),(2,.const (.int .i64 c)),(3,.const (.int .i64 d))]) ty us h K:=
 aN (z:=.agg #[.int .i64 0,.int .i64 0,.int .i64 0,.int .i64 0]) (places:=[(0,1),(1,1),(2,1),(3,1)]) (vs:=[(0,.int .i64 a),(1,.int .i64 b),(2,.int .i64 c),(3,.int .i64 d)]) (cs:=#[.int .i64 a,.int .i64 b,.int .i64 c,.int .i64 d]) (by kernel_rfl) (by kernel_rfl) (by simp only [List.map_toArray,List.map_cons,List.map_nil,uz]) (by rfl) hk
theorem iZ {po:OP} {ty:TypeId} {us:List (Nat × Value)} {h:Heap} {K:Value→Heap→Prop} {x y:Operand} {r:Nat} {f:Int→Option Sh} {j:Int} {s:Sh} (hx:asg us x = .map (some r)) (hy:asg us y=encS s) (m:fm (.int .i64) h r (mapE encS f))
  (hk : ∀ h':Heap,Kept h h' (some r)→fm (.int .i64) h' r (mapE encS (putM f j s))→K undef h'):Lft.step Try.prog (.insert T.dt x (.const (.int .i64 j)) y) ty us h K:=
 uJ (v:=encS s) (.inr rfl) U.dt U.int hx rfl hy lk m _ oQ.1 oQ.2 fun h' hs ho hm=>hk h' (Kept.upd hs ho) hm
theorem uH {h:Heap}:aI Try.prog N.dY #[] h (fun v h'=>v = .map (some h.size)∧(vw h).le (vw h')∧fm (.int .i64) h' h.size (mapE encS eW)):=by
 refine aA (args:=[]) follows F.dY E.dY (Nat.le_of_ble_eq_true (by kernel_rfl)) fun K hK=>?_
 simp [L.dY]
 refine tc ?_
 have m0:fm (.int .i64) (h.push (.map #[] 0)) h.size (mapE encS fun _=>none):=by rw [tH];exact fm.none (by simp)
 have hle:=bJ h (.map #[] 0)
 generalize h.push (.map #[] 0)=h0 at m0 hle
 refine mF (iZ (s:=(0,0,1,1)) rfl rfl m0 fun h1 k1 m1=>?_)
 refine mF (iZ (s:=(1,1,2,2)) rfl rfl m1 fun h2 k2 m2=>?_)
 refine mF (iZ (s:=(1,1,2,65)) rfl rfl m2 fun h3 k3 m3=>?_)
 refine mF (iZ (s:=(0,1,0,0)) rfl rfl m3 fun h4 k4 m4=>?_)
 refine mF (iZ (s:=(0,0,0,0)) rfl rfl m4 fun h5 k5 m5=>?_)
 refine hK _ _ ⟨rfl,fun b o hb=>?_,m5⟩
 have hlt:=View.lt (View.le_refl (vw h)) hb
 have kk:=(((k1.trans k2).trans k3).trans k4).trans k5
 show h5[b]? = _
 rw [kk.block b (Nat.lt_of_lt_of_le hlt (dp hle)) (by simp;omega)]
 exact hle b o hb
def lO (t:dk):Bool:=match eW t.kind with
 | some s=>aY t.args.length s.1 s.2.1&&aY t.to.length s.2.2.1 s.2.2.2
 | none=>false
def insS (ps b:Int) (x:BlkD) (i:Nat) (m:MW):Except Tr MW:=
 if aY (nth x.ins i).op 1 18&&aY (nth x.ins i).args.length (fg (nth x.ins i).op).1 (fg (nth x.ins i).op).2 then allS ps (aU (nth x.ins i)) b i m else .error (10,b,i)
def phiS (ps b:Int) (x:BlkD) (i:Nat) (m:MW):Except Tr MW:=allS ps [(nth x.phis i).dst] b (-1-i) m
def endS (n b:Int) (x:BlkD) (m:MW):Except Tr MW:=
 if lO x.term then (if x.term.to.all (fun t=>aY t 1 (n-1)) then .ok m else .error (14,b,x.ins.length)) else .error (10,b,x.ins.length)
def blkS (f:ak) (b:Nat) (m:MW):Except Tr MW:=
 match upE (phiS f.params b (nth f.blocks b)) (nth f.blocks b).phis.length m with
 | .error t=>.error t
 | .ok m1=>match upE (insS f.params b (nth f.blocks b)) (nth f.blocks b).ins.length m1 with
  | .error t=>.error t
  | .ok m2=>endS f.blocks.length b (nth f.blocks b) m2
def jP (f:ak) (m:MW):Except Tr MW:=upE (blkS f) f.blocks.length m
theorem BJ {Kb r:Nat} {vb:Value} {f:ak} {m:MW} {h:Heap} (k:Lk h Kb r vb f m) :
  eT Try.prog N.aS #[.pointer (some ⟨Kb,0,none⟩)] h (fun _ h'=>∃ m',jP f m = .ok m'∧Lk h' Kb r vb f m'∧Kept h h' (some r))
   (fun ch h'=>∃ t,jP f m = .error t∧ch=trV t∧Kept h h' (some r)):=by
 refine fX (args:=[.pointer (some ⟨Kb,0,none⟩)]) follows F.aS E.aS (Nat.le_of_ble_eq_true (by kernel_rfl)) fun K Kp hK hKp=>?_
 have hbb:=k.rb.bound
 simp [L.aS,ah bZ k.c1,k.rb.len]
 refine bc [0,18,19,20] (fun (_:Unit) b=>[.pointer (some ⟨Kb,0,none⟩),vb,.int .i64 f.blocks.length,.int .i64 b]) (fun _ b h1=>∃ m',upE (blkS f) b m = .ok m'∧Lk h1 Kb r vb f m'∧Kept h h1 (some r)) f.blocks.length ()
  rfl (by omega) rfl ⟨m,rfl,k,Kept.refl _ _⟩ (fun _ _=>rfl) (fun v i h1 hk m=>by simp) ?_ ?_
 ·rintro _ b h1 hltb ⟨m1,hm1,k1,kp1⟩ K2 hK2
  have hst:=kN hm1
  have her : ∀ {t},blkS f b m1 = .error t→jP f m = .error t:=fun e=>wL hm1 hltb e
  obtain ⟨u,hu,hur⟩:=k1.rb.wh rfl (N:=6) rfl hltb
  rw [blkS] at hst her
  have hr1:=k1.map.lt
  generalize hx:nth f.blocks b=x at hst her hur
  refine aa fun z hz=>?_
  simp (disch:=omega) [k1.rb.idxn (N:=6) rfl,hu _ bZ]
  refine dU (z:=.agg #[.slice none 0 0,.slice none 0 0,.int .i64 0,.slice none 0 0,.slice none 0 0,.int .i32 0]) (by kernel_rfl) rfl (by kernel_rfl) hur (fun _=>by simp) (fun _=>by simp) fun h2 hle2 hsz2 hat=>?_
  have k2:=k1.ext hle2
  have kp2:=kp1.trans (Kept.of_le hle2)
  have hat2:=hat (skip r h2) (Kept.of_le hle2).skip (jT (by omega))
  obtain ⟨vp,vi,va,vt,bp,bi,bk,ba,bt⟩:=kh hat2
  generalize h1.size=B at bp bi bk ba bt
  rw [hz];clear hz z
  refine aa fun z hz=>?_
  simp [ah bZ bp.1,bp.2.len]
  have bph:=bp.2.bound
  have bin:=bi.2.bound
  have bto:=bt.2.bound
  refine bc [0,2,3,18,19,20,26,27,28] (fun (_:Unit) i=>[.pointer (some ⟨Kb,0,none⟩),.int .i64 b,.pointer (some ⟨B,0,none⟩),vb,.int .i64 f.blocks.length,.int .i64 b,vp,.int .i64 x.phis.length,.int .i64 i])
   (fun _ i h3=>∃ m',upE (phiS f.params b x) i m1 = .ok m'∧Lk h3 Kb r vb f m'∧Kept h2 h3 (some r)) x.phis.length ()
   rfl (by omega) rfl ⟨m1,rfl,k2,Kept.refl _ _⟩ (fun _ _=>rfl) (fun v i h1 hk m=>by simp) ?_ ?_
  ·rintro _ i h3 hlti ⟨m3,hm3,k3,kp3⟩ K3 hK3
   have bp3:=bp.2.mono kp3.skip
   obtain ⟨u5,hu5,hur5⟩:=bp3.wh rfl (N:=2) rfl hlti
   have hr3:=k3.map.lt
   have hst3:=kN hm3
   have her3 : ∀ {t},phiS f.params b x i m3 = .error t→upE (phiS f.params b x) x.phis.length m1 = .error t:=fun e=>wL hm3 hlti e
   rw [phiS] at hst3 her3
   refine aa fun y hy=>?_
   simp (disch:=omega) [bp3.idxn (N:=2) rfl,hu5 _ bZ]
   refine dU (z:=.agg #[.int .i64 0,.slice none 0 0]) (by kernel_rfl) rfl (by kernel_rfl) hur5 (fun _=>by simp) (fun _=>by simp) fun h4 hle4 hsz4 hat4=>?_
   have hat4':=hat4 (skip r h4) (Kept.of_le hle4).skip (jT (by omega))
   obtain ⟨c0,_⟩:=wD hat4'
   have rd:=(hat4'.part PhiD.jh).rng
   generalize nth x.phis i=q at c0 rd hst3 her3
   generalize h3.size=B3 at c0
   rw [hy];clear hy y
   simp [ah bZ c0]
   refine fP (X:=nothing) (ds:=[q.dst]) (vs:=[.int .i64 q.dst]) rfl El.aP (by simp) ⟨cC.2 ⟨rfl,rd⟩,trivial⟩ a8 rfl (by omega) fun u6 h5 hle5 hsz5 hu6 _=>?_
   have k5:=(k3.ext hle4).ext hle5
   have kp5:=(kp3.trans (Kept.of_le hle4)).trans (Kept.of_le hle5)
   have hr5:=k5.map.lt
   simp (disch:=omega)
   refine de (by kernel_rfl) (Ce k5 (hu6 _ a8 (jT (by omega)))) ?_ ?_
   ·rintro _ h6 ⟨m6,hm6,k6,kp6⟩
    exact hK3 () _ _ rfl rfl ⟨m6,by rw [hst3,hm6],k6,kp5.trans kp6⟩
   ·rintro _ h6 ⟨t,ht,rfl,kp6⟩
    exact ⟨.inl rfl,hKp _ _ ⟨t,her (by rw [her3 ht]),rfl,(kp2.trans kp5).trans kp6⟩⟩
  ·rintro _ h3 ⟨m3,hm3,k3,kp3⟩
   simp only [hm3] at hst her
   simp
   rw [hz];clear hz z
   refine aa fun z hz=>?_
   have bi3:=bi.2.mono kp3.skip
   have ci3:=ah kp3.Aq bi.1
   have kp03:=kp2.trans kp3
   simp [ci3,bi3.len]
   refine bc [0,2,3,18,19,20,43,44,45] (fun (_:Unit) i=>[.pointer (some ⟨Kb,0,none⟩),.int .i64 b,.pointer (some ⟨B,0,none⟩),vb,.int .i64 f.blocks.length,.int .i64 b,vi,.int .i64 x.ins.length,.int .i64 i])
    (fun _ i h4=>∃ m',upE (insS f.params b x) i m3 = .ok m'∧Lk h4 Kb r vb f m'∧Kept h3 h4 (some r)) x.ins.length ()
    rfl (by omega) rfl ⟨m3,rfl,k3,Kept.refl _ _⟩ (fun _ _=>rfl) (fun v i h1 hk m=>by simp) ?_ ?_
   ·rintro _ i h4 hlti ⟨m4,hm4,k4,kp4⟩ K3 hK3
    have bi4:=bi3.mono kp4.skip
    obtain ⟨u5,hu5,hur5⟩:=bi4.wh rfl (N:=5) rfl hlti
    have hr4:=k4.map.lt
    have hst4:=kN hm4
    have her4 : ∀ {t},insS f.params b x i m4 = .error t→upE (insS f.params b x) x.ins.length m3 = .error t:=fun e=>wL hm4 hlti e
    rw [insS] at hst4 her4
    refine aa fun y hy=>?_
    simp (disch:=omega) [bi4.idxn (N:=5) rfl,hu5 _ bZ]
    refine dU (z:=.agg #[.int .i64 0,.int .i64 0,.int .i64 0,.slice none 0 0,.int .i32 0]) (by kernel_rfl) rfl (by kernel_rfl) hur5 (fun _=>by simp) (fun _=>by simp) fun h5 hle5 hsz5 hat5=>?_
    have hat5':=hat5 (skip r h5) (Kept.of_le hle5).skip (jT (by omega))
    obtain ⟨c0,c1,c2,va5,ca5⟩:=mU hat5'
    have k5:=k4.ext hle5
    have kp5:=kp4.trans (Kept.of_le hle5)
    have whole : ∃ w,Un.ev (vw h5) (.an 5) (.pointer (some ⟨h4.size,0,none⟩))=some w∧Rd (vw h5) w (nth x.ins i):=by
     obtain ⟨w,w1,w2⟩:=(hat5'.mono bZ).an rfl
     exact ⟨w,w1,w2⟩
    obtain ⟨w,w1,w2⟩:=whole
    generalize nth x.ins i=q at c0 c1 c2 ca5 hst4 her4 w2
    generalize h4.size=B4 at c0 c1 c2 ca5 w1
    rw [hy];clear hy y
    refine aa fun y hy=>?_
    simp [ah bZ c0]
    refine aj (by kernel_rfl) gu ?_
    rintro _ _ ⟨rfl,rfl⟩
    refine de (by kernel_rfl) fQ ?_ ?_
    rotate_left
    ·rintro _ _ ⟨e,rfl,rfl⟩
     exact ⟨.inl rfl,hKp _ _ ⟨_,her (by rw [her4 (by rw [if_neg (by simp [e])])]),rfl,kp03.trans kp5⟩⟩
    rintro _ _ ⟨e1,rfl⟩
    rw [hy];clear hy y
    refine aa fun y hy=>?_
    simp [ah bZ c0]
    refine aj (by kernel_rfl) xR ?_
    rintro _ _ ⟨rfl,rfl⟩
    simp
    rw [hy];clear hy y
    refine aa fun y hy=>?_
    simp [ah bZ ca5.1,ca5.2.len]
    refine aj (by kernel_rfl) gu ?_
    rintro _ _ ⟨rfl,rfl⟩
    refine de (by kernel_rfl) fQ ?_ ?_
    rotate_left
    ·rintro _ _ ⟨e,rfl,rfl⟩
     exact ⟨.inl rfl,hKp _ _ ⟨_,her (by rw [her4 (by rw [if_neg (by simp [e])])]),rfl,kp03.trans kp5⟩⟩
    rintro _ _ ⟨e2,rfl⟩
    rw [hy];clear hy y
    simp [w1]
    refine aj (by kernel_rfl) (wY w2) ?_
    rintro u6 h6 ⟨hle6,hu6⟩
    have k6:=k5.ext hle6
    have kp6:=kp5.trans (Kept.of_le hle6)
    rw [if_pos (by simp [e1,e2])] at hst4 her4
    have hr5:=k5.map.lt
    refine de (by kernel_rfl) (Ce k6 (hu6.mono fun b o hb=>?_)) ?_ ?_
    ·unfold fresh at hb;unfold Lft.skip
     split at hb
     ·cases hb
     ·rw [if_neg (by omega)];exact hb
    ·rintro _ h7 ⟨m7,hm7,k7,kp7⟩
     exact hK3 () _ _ rfl rfl ⟨m7,by rw [hst4,hm7],k7,kp6.trans kp7⟩
    ·rintro _ h7 ⟨t,ht,rfl,kp7⟩
     exact ⟨.inl rfl,hKp _ _ ⟨t,her (by rw [her4 ht]),rfl,(kp03.trans kp6).trans kp7⟩⟩
   ·rintro _ h4 ⟨m4,hm4,k4,kp4⟩
    simp only [hm4] at hst her
    simp
    rw [hz];clear hz z
    refine aa fun z hz=>?_
    have kp24:=kp3.trans kp4
    have hr4:=k4.map.lt
    have ck4:=ah kp24.skip bk
    have hc : ∀ {h5:Heap},Kept h4 h5 (some r)→(skip r h4).le (vw h5):=fun hk=>hk.Aq
    have cellsS : ∀ o:Option Sh,((o.map encS).getD (.agg #[.int .i64 0,.int .i64 0,.int .i64 0,.int .i64 0]))=encS (o.getD (0,0,0,0)):=fun o=>by cases o<;>rfl
    have hone : ∀ s:Sh,∀ c∈(encS s).cells.toList,c.oneCell'=true:=fun s=>by simp [encS,Value.oneCell']
    refine qL (fun ρ h5=>∃ (B5:Nat) (v79 v83:Value) (tl:Env),ρ=[(0,.pointer (some ⟨Kb,0,none⟩)),(2,.int .i64 b),(3,.pointer (some ⟨B,0,none⟩)),(10,.pointer (some ⟨B5,0,none⟩)),(11,.bool (eW x.term.kind).isSome),(18,vb),(19,.int .i64 f.blocks.length),(20,.int .i64 b),(43,vi),
      (44,.int .i64 x.ins.length),(45,.int .i64 x.ins.length),(79,v79),(82,.int .i64 x.term.kind),(83,v83)]++tl∧Lk h5 Kb r vb f m4∧Kept h4 h5 (some r)∧B5≠r∧h5[B5]? = some (.cells (encS ((eW x.term.kind).getD (0,0,0,0))).cells T.cV (0,0))) ?_ ?_
    ·intro K3 hK3
     refine cg (skip r h4) bZ ?_
     simp [ck4]
     refine ⟨?_,?_⟩
     ·refine aj (by kernel_rfl) uH ?_
      rintro _ h5 ⟨rfl,hle5,hm5⟩
      have hs5:=dp hle5
      refine ⟨hc (Kept.of_le hle5),?_,?_⟩
      ·refine jH (z:=.agg #[.int .i64 0,.int .i64 0,.int .i64 0,.int .i64 0]) U.dt U.int (by kernel_rfl) (by simp<;>rfl) (by simp<;>rfl) lk hm5 ?_
       rw [mz,cellsS,Option.isSome_map]
       simp
       refine gM (n:=4) (v:=encS ((eW x.term.kind).getD (0,0,0,0))) (z:=.agg #[.int .i64 0,.int .i64 0,.int .i64 0,.int .i64 0]) (by kernel_rfl) rfl (by kernel_rfl) rfl (hone _) (fun _=>by simp) (fun _=>by simp) fun h6 hle6 hsz6 hb6=>?_
       exact hK3 _ _ ⟨_,_,_,_,rfl,(k4.ext hle5).ext hle6,(Kept.of_le hle5).trans (Kept.of_le hle6),by omega,hb6⟩
      ·refine fe (z:=.agg #[.int .i64 0,.int .i64 0,.int .i64 0,.int .i64 0]) (by kernel_rfl) ?_
       have hle6:=bJ h5 (.cells (Value.cells (.agg #[.int .i64 0,.int .i64 0,.int .i64 0,.int .i64 0])) T.cV)
       have hb6:(h5.push (.cells (Value.cells (.agg #[.int .i64 0,.int .i64 0,.int .i64 0,.int .i64 0])) T.cV))[h5.size]? = some (.cells (Value.cells (.agg #[.int .i64 0,.int .i64 0,.int .i64 0,.int .i64 0])) T.cV (0,0)):=by simp
       have hs6:(h5.push (.cells (Value.cells (.agg #[.int .i64 0,.int .i64 0,.int .i64 0,.int .i64 0])) T.cV)).size=h5.size+1:=by simp
       generalize h5.push (.cells (Value.cells (.agg #[.int .i64 0,.int .i64 0,.int .i64 0,.int .i64 0])) T.cV)=h6 at hle6 hb6 hs6
       refine ⟨hc ((Kept.of_le hle5).trans (Kept.of_le hle6)),?_⟩
       refine jH (z:=.agg #[.int .i64 0,.int .i64 0,.int .i64 0,.int .i64 0]) U.dt U.int (by kernel_rfl) (by simp<;>rfl) (by simp<;>rfl) lk (hm5.ext hle6) ?_
       rw [mz,cellsS,Option.isSome_map]
       simp
       refine dP (g:=h5.size) (o:=0) (n:=4) (v:=encS ((eW x.term.kind).getD (0,0,0,0))) (by kernel_rfl) rfl rfl rfl (hone _) hb6 (by simp) fun h7 hs7 ⟨row,hb7,hrow⟩ ho7=>?_
       have hrow2:row=(encS ((eW x.term.kind).getD (0,0,0,0))).cells:=by rw [←Array.toList_inj,hrow];simp
       rw [hrow2] at hb7
       have kp7:Kept h4 h7 (some r):=⟨by omega,fun q hq hne=>by rw [ho7 q (by omega)];exact hle6 _ _ (hle5 _ _ (Array.getElem?_eq_getElem hq)) |>.trans (Array.getElem?_eq_getElem hq).symm⟩
       exact hK3 _ _ ⟨_,_,_,_,rfl,k4.kept kp7 (((k4.map.ext hle5).ext hle6).same (ho7 r (by omega))),kp7,by omega,hb7⟩
     ·refine fe (z:=.agg #[.int .i64 0,.int .i64 0,.int .i64 0,.int .i64 0]) (by kernel_rfl) ?_
      have hle5:=bJ h4 (.cells (Value.cells (.agg #[.int .i64 0,.int .i64 0,.int .i64 0,.int .i64 0])) T.cV)
      have hb5:(h4.push (.cells (Value.cells (.agg #[.int .i64 0,.int .i64 0,.int .i64 0,.int .i64 0])) T.cV))[h4.size]? = some (.cells (Value.cells (.agg #[.int .i64 0,.int .i64 0,.int .i64 0,.int .i64 0])) T.cV (0,0)):=by simp
      have hs5:(h4.push (.cells (Value.cells (.agg #[.int .i64 0,.int .i64 0,.int .i64 0,.int .i64 0])) T.cV)).size=h4.size+1:=by simp
      generalize h4.push (.cells (Value.cells (.agg #[.int .i64 0,.int .i64 0,.int .i64 0,.int .i64 0])) T.cV)=h5 at hle5 hb5 hs5
      refine ⟨hc (Kept.of_le hle5),?_⟩
      refine aj (by kernel_rfl) uH ?_
      rintro _ h6 ⟨rfl,hle6,hm6⟩
      have hs6:=dp hle6
      refine ⟨hc ((Kept.of_le hle5).trans (Kept.of_le hle6)),?_⟩
      refine jH (z:=.agg #[.int .i64 0,.int .i64 0,.int .i64 0,.int .i64 0]) U.dt U.int (by kernel_rfl) (by simp<;>rfl) (by simp<;>rfl) lk hm6 ?_
      rw [mz,cellsS,Option.isSome_map]
      simp
      refine dP (g:=h4.size) (o:=0) (n:=4) (v:=encS ((eW x.term.kind).getD (0,0,0,0))) (by kernel_rfl) rfl rfl rfl (hone _) (hle6 _ _ hb5) (by simp) fun h7 hs7 ⟨row,hb7,hrow⟩ ho7=>?_
      have hrow2:row=(encS ((eW x.term.kind).getD (0,0,0,0))).cells:=by rw [←Array.toList_inj,hrow];simp
      rw [hrow2] at hb7
      have kp7:Kept h4 h7 (some r):=⟨by omega,fun q hq hne=>by rw [ho7 q (by omega)];exact hle6 _ _ (hle5 _ _ (Array.getElem?_eq_getElem hq)) |>.trans (Array.getElem?_eq_getElem hq).symm⟩
      exact hK3 _ _ ⟨_,_,_,_,rfl,k4.kept kp7 (((k4.map.ext hle5).ext hle6).same (ho7 r (by omega))),kp7,by omega,hb7⟩
    ·rintro ρ h5 ⟨B5,v79,v83,tl,rfl,k5,kp5,hB5,hb5⟩
     rw [hz];clear hz z
     refine aa fun z hz=>?_
     have kp25:=kp24.trans kp5
     have ci5:=ah kp25.skip bi.1
     have bi5:=bi.2.mono kp25.skip
     have ca5:=ah kp25.skip ba.1
     have ba5:=ba.2.mono kp25.skip
     have ct5:=ah kp25.skip bt.1
     have bt5:=bt.2.mono kp25.skip
     have hb5':skip r h5 B5=some (.cells (encS ((eW x.term.kind).getD (0,0,0,0))).cells T.cV (0,0)):=by rw [jT hB5];exact hb5
     generalize hsh:(eW x.term.kind).getD (0,0,0,0)=s at hb5'
     have d0:ao (skip r h5) ⟨B5,0,none⟩=some (.int .i64 s.1):=bV hb5' rfl
     have d1:ao (skip r h5) ⟨B5,1,none⟩=some (.int .i64 s.2.1):=bV hb5' rfl
     have d2:ao (skip r h5) ⟨B5,2,none⟩=some (.int .i64 s.2.2.1):=bV hb5' rfl
     have d3:ao (skip r h5) ⟨B5,3,none⟩=some (.int .i64 s.2.2.2):=bV hb5' rfl
     have hto:lO x.term=((eW x.term.kind).isSome&&(aY x.term.args.length s.1 s.2.1&&aY x.term.to.length s.2.2.1 s.2.2.2)):=by
      rw [lO,←hsh];cases eW x.term.kind<;>rfl
     refine cg (skip r h5) bZ ?_
     have bad:lO x.term=false→∀ ch,ch=trV (10,(b:Int),(x.ins.length:Int))→Kp ch h5:=fun e ch hch=>hKp _ _ ⟨_,her (by rw [endS,if_neg (by simp [e])]),hch,kp03.trans (kp4.trans kp5)⟩
     have good:lO x.term=true→∀ tl:Env,@LC.wp (ppOf Kp) Try.prog z (et 1 (eS K2 (et 0 (@dG [] K)))) ([(0,.pointer (some ⟨Kb,0,none⟩)),(2,.int .i64 b),(3,.pointer (some ⟨B,0,none⟩)),(10,.pointer (some ⟨B5,0,none⟩)),(11,.bool true),(18,vb),(19,.int .i64 f.blocks.length),(20,.int .i64 b),(43,vi),
      (44,.int .i64 x.ins.length),(45,.int .i64 x.ins.length),(79,v79),(82,.int .i64 x.term.kind),(83,v83)]++tl) h5:=by
      intro hgood tl
      rw [hz];clear hz z
      have ct5':=ah bZ ct5
      have cb5:=k5.c1
      have hne:0<f.blocks.length:=by omega
      simp [ct5',bt5.len]
      refine bc [0,2,3,18,19,20,116,117,118] (fun (_:Unit) i=>[.pointer (some ⟨Kb,0,none⟩),.int .i64 b,.pointer (some ⟨B,0,none⟩),vb,.int .i64 f.blocks.length,.int .i64 b,vt,.int .i64 x.term.to.length,.int .i64 i])
       (fun _ i h6=>h6=h5∧∀ j,j<i→aY (nth x.term.to j) 1 (f.blocks.length-1)=true) x.term.to.length ()
       rfl (by omega) (by simp [bz,ae,af]) ⟨rfl,fun j hj=>by omega⟩ (fun _ _=>rfl) (fun v i h1 hk m=>by simp) ?_ ?_
      ·rintro _ i h5 hlti ⟨rfl,hpre⟩ K3 hK3
       refine aa fun y hy=>?_
       simp (disch:=omega) [bt5.idx1 rfl,bt5.int bZ]
       rw [hy];clear hy y
       refine cg (skip r h5) bZ ?_
       simp (disch:=omega) [ci5,bi5.len,cb5,k5.rb.len]
       refine aj (by kernel_rfl) gu ?_
       rintro _ _ ⟨rfl,rfl⟩
       refine ⟨bZ,?_⟩
       refine de (by kernel_rfl) fQ ?_ ?_
       ·rintro _ _ ⟨e,rfl⟩
        refine hK3 () _ _ rfl rfl ⟨rfl,fun j hj=>?_⟩
        rcases Nat.lt_or_ge j i with h | h
        ·exact hpre j h
        ·have:j=i:=by omega
         subst this;exact e
       ·rintro ch _ ⟨e,hch,rfl⟩
        refine ⟨.inr fun _=>trivial,hKp _ _ ⟨_,her ?_,hch,kp03.trans (kp4.trans kp5)⟩⟩
        rw [endS,if_pos hgood,if_neg]
        intro ha
        rw [List.all_eq_true.1 ha _ (bU hlti)] at e;cases e
      ·rintro _ h5 ⟨rfl,hpre⟩
       simp
       refine hK2 () _ _ rfl rfl ⟨m4,?_,k5,kp03.trans (kp4.trans kp5)⟩
       rw [hst,endS,if_pos hgood,if_pos]
       rw [List.all_eq_true]
       intro y hy
       obtain ⟨j,hj,rfl⟩:=List.getElem_of_mem hy
       rw [←aq hj];exact hpre j hj
     cases hso:(eW x.term.kind).isSome with
     | false=>
      simp [ci5,bi5.len,d0,d1,d2,d3,ca5,ba5.len,ct5,bt5.len,ae,af]
      refine de (by kernel_rfl) fQ ?_ ?_
      ·rintro _ _ ⟨e,_⟩;cases e
      ·rintro ch _ ⟨_,hch,rfl⟩
       exact ⟨.inr fun _=>trivial,bad (by rw [hto,hso];rfl) _ hch⟩
     | true=>
      rw [hso,Bool.true_and] at hto
      simp [ci5,bi5.len,d0,d1,d2,d3,ca5,ba5.len,ct5,bt5.len,ae,af]
      refine aj (by kernel_rfl) gu ?_
      rintro _ _ ⟨rfl,rfl⟩
      refine ⟨bZ,?_⟩
      cases hw1:aY x.term.args.length s.1 s.2.1 with
      | false=>
       simp [ae,af]
       refine de (by kernel_rfl) fQ ?_ ?_
       ·rintro _ _ ⟨e,_⟩;cases e
       ·rintro ch _ ⟨_,hch,rfl⟩
        exact ⟨.inr fun _=>trivial,bad (by rw [hto,hw1];rfl) _ hch⟩
      | true=>
       simp [ae,af]
       refine aj (by kernel_rfl) gu ?_
       rintro _ _ ⟨rfl,rfl⟩
       refine ⟨bZ,?_⟩
       refine de (by kernel_rfl) fQ ?_ ?_
       ·rintro _ _ ⟨e,rfl⟩
        exact good (by rw [hto,hw1,e];rfl) _
       ·rintro ch _ ⟨e,hch,rfl⟩
        exact ⟨.inr fun _=>trivial,bad (by rw [hto,hw1,e];rfl) _ hch⟩
 ·rintro _ h1 ⟨m1,hm1,k1,kp1⟩
  simp
  exact hK _ _ ⟨m1,hm1,k1,kp1⟩
end Go.Proofs.Ytfelpjfopgiabaa
namespace Go.Proofs.Ytfelpjfopgiabaa
open Go Go.Lft
theorem nI : ∀ {a b:List Int},a.Pairwise (· < ·)→b.Pairwise (· < ·)→(∀ x,x∈a↔x∈b)→a=b
 | [],[],_,_,_=>rfl
 | [],y::b,_,_,h=>by have:=(h y).2 (List.mem_cons_self ..);cases this
 | x::a,[],_,_,h=>by have:=(h x).1 (List.mem_cons_self ..);cases this
 | x::a,y::b,ha,hb,h=>by
  obtain ⟨a1,a2⟩:=List.pairwise_cons.1 ha
  obtain ⟨b1,b2⟩:=List.pairwise_cons.1 hb
  have e:x=y:=by
   rcases List.mem_cons.1 ((h x).1 (List.mem_cons_self ..)) with e | h1
   ·exact e
   ·rcases List.mem_cons.1 ((h y).2 (List.mem_cons_self ..)) with e | h2
    ·exact e.symm
    ·have:=a1 y h2;have:=b1 x h1;omega
  subst e
  rw [nI a2 b2 fun z=>?_]
  constructor
  ·intro hz
   rcases List.mem_cons.1 ((h z).1 (List.mem_cons_of_mem _ hz)) with e | h1
   ·have:=a1 z hz;omega
   ·exact h1
  ·intro hz
   rcases List.mem_cons.1 ((h z).2 (List.mem_cons_of_mem _ hz)) with e | h1
   ·have:=b1 z hz;omega
   ·exact h1
theorem uY (l:List Int):(lV l).Pairwise (·≤·):=by
 have:=List.pairwise_mergeSort (le:=fun x y:Int=>decide (x≤y)) (fun a b c h1 h2=>by simp at *;omega) (fun a b=>by simp;omega) l
 exact this.imp fun h=>by simpa using h
theorem get!_nth {l:List Int} {i:Nat}:l.toArray[i]! = nth l i:=by
 simp [nth,List.getD_eq_getElem?_getD]
theorem sg {l:List Int} (hs:l.Pairwise (·≤·)) {i j:Nat} (hij:i≤j) (hj:j<l.length):nth l i≤nth l j:=by
 rw [aq (by omega),aq hj]
 rcases Nat.lt_or_ge i j with h | h
 ·exact List.pairwise_iff_getElem.1 hs i j (by omega) hj h
 ·have:i=j:=by omega
  subst this;exact Int.le_refl _
theorem rf {l:List Int} (hs:l.Pairwise (·≤·)):(Lib.compact l).Pairwise (· < ·):=by
 unfold Lib.compact Lib.compactUpTo
 rw [List.pairwise_map,List.pairwise_filter]
 refine (List.pairwise_lt_range (n:=l.length)).imp_of_mem fun {i j} hi hj hij ki kj=>?_
 simp only [List.mem_range] at hi hj
 simp only [Lib.keeps,get!_nth,decide_eq_true_eq] at kj
 rw [get!_nth,get!_nth]
 have h1:=sg hs (i:=i) (j:=j-1) (by omega) (by omega)
 have h2:=sg hs (i:=j-1) (j:=j) (by omega) hj
 rcases kj with h | h<;>omega
theorem qF {l:List Int} {x:Int}:x∈Lib.compact l↔x∈l:=by
 refine ⟨mB,fun hx=>?_⟩
 obtain ⟨j,hj,rfl⟩:=List.getElem_of_mem hx
 have key : ∀ j,j<l.length→nth l j∈Lib.compact l:=by
  intro j
  induction j with
  | zero=>
   intro h
   unfold Lib.compact Lib.compactUpTo
   refine List.mem_map.2 ⟨0,List.mem_filter.2 ⟨by simpa using h,by simp [Lib.keeps]⟩,get!_nth⟩
  | succ j ih=>
   intro h
   by_cases he:nth l (j+1)=nth l j
   ·rw [he];exact ih (by omega)
   ·unfold Lib.compact Lib.compactUpTo
    refine List.mem_map.2 ⟨j+1,List.mem_filter.2 ⟨by simpa using h,by simp only [Lib.keeps,get!_nth,decide_eq_true_eq];exact .inr (by simpa using he)⟩,get!_nth⟩
 rw [←aq hj];exact key j hj
theorem mA {β:Type} {p:Nat→Bool} {x:Nat→β} {n:Nat} {y:β}:y∈sift p x n↔∃ i,i<n∧p i=true∧x i=y:=by
 rw [lF];simp [and_assoc]
theorem vD {row:List Int} {n:Int}:(js row n).Pairwise (· < ·):=rf (uY _)
theorem pA {row:List Int} {n x:Int}:x∈js row n↔x∈row∧0≤x∧x<n:=by
 rw [js,qF,lV,List.mem_mergeSort,mA]
 simp only [mw,Bool.and_eq_true,decide_eq_true_eq]
 constructor
 ·rintro ⟨i,hi,h,rfl⟩;exact ⟨bU hi,h⟩
 ·rintro ⟨h,h1⟩
  obtain ⟨i,hi,rfl⟩:=List.getElem_of_mem h
  exact ⟨i,hi,by rw [aq hi];exact h1,aq hi⟩
theorem gB {g:Gr} {a b:Int}:kJ g a b=true↔(0≤a∧a<g.length∧0≤b∧b<g.length)∧b∈nth g a.toNat:=by
 simp [kJ]
theorem xJ {p:Nat→Bool} {n:Nat}:(sift p (fun b=>(b:Int)) n).Pairwise (· < ·):=by
 rw [lF,List.pairwise_map,List.pairwise_filter]
 exact List.pairwise_lt_range.imp fun h _ _=>by omega
theorem fM {g:Gr} {a b:Int}:b∈jq g a↔kJ g a b=true:=by
 rw [jq,mA]
 constructor
 ·rintro ⟨i,_,h,rfl⟩;exact h
 ·intro h
  have:=(gB.1 h).1
  exact ⟨b.toNat,by omega,by rw [Int.toNat_of_nonneg (by omega)];exact h,Int.toNat_of_nonneg (by omega)⟩
theorem oX {g:Gr} {a:Int}:(jq g a).Pairwise (· < ·):=xJ
theorem tp {g:Gr} {a:Nat} (ha:a<g.length):nth (cM g) a=jq g a:=by
 rw [cM,dq ha]
 refine nI vD oX fun x=>?_
 rw [pA,fM,gB,Int.toNat_natCast]
 exact ⟨fun ⟨h1,h2,h3⟩=>⟨⟨by omega,by omega,h2,h3⟩,h1⟩,fun ⟨⟨_,_,h2,h3⟩,h1⟩=>⟨h1,h2,h3⟩⟩
theorem xZ {f k:Nat→List Int} {n:Nat} (h : ∀ a,a<n→f a=k a):iI f n=iI k n:=by
 induction n with
 | zero=>rfl
 | succ n ih=>rw [gS,gS,ih fun a ha=>h a (by omega),h n (by omega)]
theorem AK {g:Gr}:gG g=iI (fun a=>jq g a) g.length:=xZ fun a ha=>tp ha
theorem Bw {l:List (Int × Int)} : ∀ {p:Gr} {i:Nat},i<p.length→nth (l.foldl en p) i=nth p i++(l.filter fun e=>decide (e.2.toNat=i)).map Prod.fst:=by
 induction l with
 | nil=>intro p i _;simp
 | cons e l ih=>
  intro p i hi
  rw [List.foldl_cons,ih (by simpa [en] using hi),en,aK hi,List.filter_cons]
  split
  ·rename_i h;simp [h]
  ·rename_i h;simp [h]
theorem filter_one {l:List Int} (hs:l.Pairwise (· < ·)) {b:Int}:l.filter (fun x=>decide (x=b))=if b∈l then [b] else []:=by
 induction l with
 | nil=>simp
 | cons x l ih=>
  obtain ⟨h1,h2⟩:=List.pairwise_cons.1 hs
  rw [List.filter_cons,ih h2]
  by_cases hx:x=b
  ·subst hx
   have:¬x∈l:=fun h=>by have:=h1 x h;omega
   simp [this]
  ·simp [hx,Ne.symm hx]
theorem C8 {f:Nat→List Int} (hf : ∀ a,(f a).Pairwise (· < ·)) (hp : ∀ a,∀ x∈f a,0≤x) {b n:Nat}:((iI f n).filter fun e=>decide (e.2.toNat=b)).map Prod.fst=sift (fun a=>decide ((b:Int)∈f a)) (fun a=>(a:Int)) n:=by
 induction n with
 | zero=>rfl
 | succ n ih=>
  rw [gS,List.filter_append,List.map_append,ih]
  have e1:((f n).map fun b=>((n:Int),b)).filter (fun e=>decide (e.2.toNat=b))=((f n).filter fun x=>decide (x=(b:Int))).map fun b=>((n:Int),b):=by
   rw [List.filter_map]
   congr 1
   refine List.filter_congr fun x hx=>?_
   have:=hp n x hx
   simp only [Function.comp,decide_eq_decide]
   omega
  rw [e1,filter_one (hf n)]
  by_cases h:(b:Int)∈f n
  ·rw [if_pos h,kQ (by simpa using h)];rfl
  ·rw [if_neg h,jM (by simpa using h)];simp
theorem mG {g:Gr}:(cR g).length=g.length:=by rw [cR,lD];simp
theorem xm {g:Gr}:cR g=qc g:=by
 refine tS (by rw [mG,y4]) fun b hb=>?_
 rw [mG] at hb
 rw [cR,Bw (by simpa using hb),au hb,List.nil_append,qc,dq hb,AK,C8 (fun _=>oX) (fun a x hx=>by
  have:=(gB.1 (fM.1 hx)).1;omega)]
 have e:(fun a:Nat=>decide ((b:Int)∈jq g a))=fun a:Nat=>kJ g a b:=by
  funext a
  rw [Bool.eq_iff_iff]
  simp [fM]
 rw [e]
theorem A4 {g:Gr} {a b:Int} (hb:0≤b∧b<g.length):a∈nth (cR g) b.toNat↔kJ g a b=true:=by
 rw [xm,qc,dq (by omega),mA]
 constructor
 ·rintro ⟨i,_,h,rfl⟩
  rwa [Int.toNat_of_nonneg hb.1] at h
 ·intro h
  have:=(gB.1 h).1
  exact ⟨a.toNat,by omega,by rw [Int.toNat_of_nonneg (by omega),Int.toNat_of_nonneg (by omega)];exact h,Int.toNat_of_nonneg (by omega)⟩
end Go.Proofs.Ytfelpjfopgiabaa
namespace Go.Proofs.Ytfelpjfopgiabaa
open Go Go.Lft
structure Le (x y:List Bool):Prop where
 len:y.length=x.length
 le : ∀ i,nth x i=true→nth y i=true
theorem Le.refl (x:List Bool):Le x x:=⟨rfl,fun _ h=>h⟩
theorem Le.trans {x y z:List Bool} (h:Le x y) (k:Le y z):Le x z:=⟨k.len.trans h.len,fun i e=>k.le i (h.le i e)⟩
theorem Le.antisymm {x y:List Bool} (h:Le x y) (k:Le y x):x=y:=by
 refine tS h.len.symm fun i _=>?_
 rw [Bool.eq_iff_iff];exact ⟨h.le i,k.le i⟩
theorem Le.cL : ∀ {x y:List Bool},Le x y→x=y∨cL y<cL x
 | [],y,h=>.inl (List.eq_nil_of_length_eq_zero h.len).symm
 | a::x,y,h=>by
  match y,h with
  | [],h=>have:=h.len;simp at this
  | b::y,h=>
   have h2:Le x y:=⟨by simpa using h.len,fun i e=>by have:=h.le (i+1);simpa [nth] using this (by simpa [nth] using e)⟩
   have h0:a=true→b=true:=fun e=>by have:=h.le 0;simpa [nth] using this (by simpa [nth] using e)
   unfold Go.Proofs.Ytfelpjfopgiabaa.cL
   rcases h2.cL with rfl | h3
   ·cases a<;>cases b<;>simp at h0 ⊢
   ·unfold Go.Proofs.Ytfelpjfopgiabaa.cL at h3
    cases a<;>cases b<;>simp at h0 ⊢<;>omega
theorem FW {x:List Bool} {i:Nat} {b:Bool} (hb:nth x i=true→b=true):Le x (x.set i b):=by
 refine ⟨by simp,fun j hj=>?_⟩
 rcases Nat.lt_or_ge j x.length with h | h
 ·rw [aK h]
  split
  ·rename_i e;subst e;exact hb hj
  ·exact hj
 ·rw [aV h] at hj;cases hj
theorem tV {f:Nat→List Bool→List Bool} (hf : ∀ k x,Le x (f k x)) (x:List Bool) : ∀ n m,n≤m→Le (up f n x) (up f m x)
  | n,0,h=>by
                  obtain rfl:n=0:=by omega
                  exact Le.refl _
  | n,m+1,h=>by
    rcases Nat.lt_or_ge n (m+1) with h1 | h1
    · exact (tV hf x n m (by omega)).trans (hf m _)
    · obtain rfl:n=m+1:=by omega
      exact Le.refl _
theorem EI {f:Nat→List Bool→List Bool} (hf : ∀ k x,Le x (f k x)) {x:List Bool} {n:Nat} (h:up f n x=x) : ∀ k,k<n→f k x=x:=by
 have key : ∀ k,k≤n→up f k x=x:=fun k hk=>by
  have h1:=tV hf x k n hk
  rw [h] at h1
  have h2:=tV hf x 0 k (Nat.zero_le _)
  exact (h2.antisymm h1).symm
 intro k hk
 have h1:=key (k+1) (by omega)
 rw [up,key k (by omega)] at h1
 exact h1
theorem xy {β:Type} {F:β→β} : ∀ (n:Nat) (x:β),up (fun _=>F) (n+1) x=up (fun _=>F) n (F x)
 | 0,x=>rfl
 | n+1,x=>by
  show F (up (fun _=>F) (n+1) x)=F (up (fun _=>F) n (F x))
  rw [xy n x]
theorem xG {β:Type} {F:β→β} {x:β} (h:F x=x) : ∀ n,up (fun _=>F) n x=x
 | 0=>rfl
 | n+1=>by show F (up (fun _=>F) n x)=x;rw [xG h n,h]
theorem Cf {F:List Bool→List Bool} (hF : ∀ x,Le x (F x)) : ∀ (n:Nat) (x:List Bool),cL x≤n→F (up (fun _=>F) n x)=up (fun _=>F) n x
 | 0,x,h=>by
  rcases (hF x).cL with e | e
  ·exact e.symm
  ·omega
 | n+1,x,h=>by
  rw [xy]
  rcases (hF x).cL with e | e
  ·rw [←e,xG e.symm];exact e.symm
  ·exact Cf hF n _ (by omega)
inductive Re (g:Gr) (gone:Int):Nat→Prop
 | root:0<g.length→gone≠0→Re g gone 0
 | step {a b:Nat}:Re g gone a→kJ g a b=true→(b:Int)≠gone→Re g gone b
theorem Re.lt {g:Gr} {gone:Int} {b:Nat} (h:Re g gone b):b<g.length:=by
 cases h with
 | root h _=>exact h
 | step _ h _=>have:=(gB.1 h).1;omega
theorem Re.ne {g:Gr} {gone:Int} {b:Nat} (h:Re g gone b):(b:Int)≠gone:=by
 cases h with
 | root _ h=>exact fun e=>h e.symm
 | step _ _ h=>exact h
theorem Re.all {g:Gr} {gone:Int} {b:Nat} (h:Re g gone b):Re g (-1) b:=by
 induction h with
 | root h _=>exact .root h (by decide)
 | step _ h _ ih=>exact .step ih h (by omega)
theorem rU {gone:Int} {l:List Int} {i:Nat} {x:List Bool}:Le x (qP gone l i x):=FW fun h=>by rw [h];rfl
theorem qy {g:Gr} {gone:Int} {a:Nat} {x:List Bool}:Le x (outBlock g gone a x):=by
 unfold outBlock
 split
 ·exact tV (fun k x=>rU) x 0 _ (Nat.zero_le _)
 ·exact Le.refl _
theorem qu {g:Gr} {gone:Int} {x:List Bool}:Le x (kC g gone x):=tV (fun k x=>qy) x 0 _ (Nat.zero_le _)
theorem vF {β:Type} (I:β→Prop) {f:Nat→β→β} {n:Nat} (hf : ∀ k x,k<n→I x→I (f k x)) {x:β} (hx:I x):I (up f n x):=by
 have : ∀ m,m≤n→I (up f m x):=by
  intro m
  induction m with
  | zero=>exact fun _=>hx
  | succ m ih=>exact fun h=>hf _ _ (by omega) (ih (by omega))
 exact this n (Nat.le_refl _)
theorem vy {g:Gr} {gone:Int} {b:Nat}:nth (kK g gone) b=true↔Re g gone b:=by
 by_cases h0:g.length=0∨gone=0
 ·rw [kK,if_pos h0]
  constructor
  ·intro h
   rcases Nat.lt_or_ge b g.length with h1 | h1
   ·rw [au h1] at h;cases h
   ·rw [aV (by simpa using h1)] at h;cases h
  ·intro h
   exfalso
   induction h with
   | root h1 h2=>rcases h0 with h0 | h0;omega;exact h2 h0
   | step _ _ _ ih=>exact ih
 ·rw [kK,if_neg h0]
  have hg:g.length≠0:=fun e=>h0 (.inl e)
  have hgone:gone≠0:=fun e=>h0 (.inr e)
  have hinit:((List.replicate g.length false).set 0 true).length=g.length:=by simp
  constructor
  ·-- what is marked is reached
   have hI : ∀ x:List Bool,(∀ b,nth x b=true→Re g gone b)→∀ b,nth (kC g gone x) b=true→Re g gone b:=by
    intro x hx
    refine vF (fun x:List Bool=>∀ b,nth x b=true→Re g gone b) (fun a x ha hx=>?_) hx
    unfold outBlock
    split
    ·rename_i hxa
     have hra:=hx a hxa
     refine vF (fun x:List Bool=>∀ b,nth x b=true→Re g gone b) (fun i x hi hx=>?_) hx
     intro b hb
     have hm:=bU hi
     have hed:=fM.1 hm
     have hrng:=(gB.1 hed).1
     unfold qP at hb
     rcases Nat.lt_or_ge b x.length with h1 | h1
     ·rw [aK h1] at hb
      split at hb
      ·rename_i e
       rcases (Bool.or_eq_true _ _).mp hb with h2 | h2
       ·rw [e] at h2;exact hx b h2
       ·have eb:(b:Int)=nth (jq g a) i:=by omega
        exact .step hra (by rw [eb];exact hed) (by rw [eb];simpa using h2)
      ·exact hx b hb
     ·rw [aV (by simpa using h1)] at hb;cases hb
    ·exact hx
   exact vF (fun x:List Bool=>∀ b,nth x b=true→Re g gone b) (fun _ x _ hx=>hI x hx) (fun b hb=>by
    rcases Nat.lt_or_ge b g.length with h1 | h1
    ·rw [aK (by simpa using h1)] at hb
     split at hb
     ·rename_i e;subst e;exact .root (by omega) hgone
     ·rw [au h1] at hb;cases hb
    ·rw [aV (by simpa using h1)] at hb;cases hb) b
  ·-- what is reached is marked
   intro h
   have hfix:=Cf (F:=kC g gone) (fun x=>qu) g.length ((List.replicate g.length false).set 0 true) (by
    have:=uK (t:=List.replicate g.length false) (i:=0)
    have h2:cL (List.replicate g.length false)=g.length:=by simp [cL]
    omega)
   have hle:=tV (f:=fun _=>kC g gone) (fun _ x=>qu) ((List.replicate g.length false).set 0 true) 0 g.length (Nat.zero_le _)
   generalize up (fun _=>kC g gone) g.length ((List.replicate g.length false).set 0 true)=x at hfix hle
   have hxl:x.length=g.length:=hle.len.trans hinit
   induction h with
   | root h1 _=>exact hle.le 0 (by show nth ((List.replicate g.length false).set 0 true) 0=true;rw [aK (by simpa using h1),if_pos rfl])
   | step ha he hb ih=>
    rename_i a b
    have hrng:=(gB.1 he).1
    have h1:=EI (fun k x=>qy) hfix a (by omega)
    rw [outBlock,if_pos ih] at h1
    obtain ⟨i,hi,e⟩:=List.getElem_of_mem (fM.2 he)
    have h2:=EI (fun k x=>rU) h1 i hi
    rw [←aq hi] at e
    unfold qP at h2
    rw [e] at h2
    have h3:=congrArg (fun l=>nth l b) h2
    simp only [Int.toNat_natCast] at h3
    rw [aK (by omega),if_pos rfl] at h3
    rw [←h3]
    simp [hb]
theorem lS {g:Gr} {a b:Nat}:domC g a b=true↔Re g (-1) a∧Re g (-1) b∧¬Re g a b:=by
 rw [domC]
 simp only [Bool.and_eq_true,Bool.or_eq_true,Bool.not_eq_true',decide_eq_true_eq,vy,Bool.eq_false_iff,ne_eq]
 constructor
 ·rintro ⟨⟨h1,h2⟩,h3⟩
  refine ⟨h1,h2,?_⟩
  rcases h3 with h3 | h3
  ·exact fun h=>h.ne h3.symm
  ·exact h3
 ·rintro ⟨h1,h2,h3⟩
  exact ⟨⟨h1,h2⟩,.inr h3⟩
end Go.Proofs.Ytfelpjfopgiabaa
namespace Go.Proofs.Ytfelpjfopgiabaa
open Go Go.Lft
def Bef (l:List Int) (u v:Int):Prop:=∃ p q,l=p++u::q∧v∈q
theorem Bef.app {l:List Int} {u v:Int} (h:Bef l u v) (t:List Int):Bef (l++t) u v:=by
 obtain ⟨p,q,rfl,hv⟩:=h
 exact ⟨p,q++t,by simp,List.mem_append_left _ hv⟩
theorem Bef.pre {l:List Int} {u v:Int} (h:Bef l u v) (t:List Int):Bef (t++l) u v:=by
 obtain ⟨p,q,rfl,hv⟩:=h
 exact ⟨t++p,q,by simp,hv⟩
theorem Bef.z8 {l t:List Int} {u v:Int} (hu:u∈l) (hv:v∈t):Bef (l++t) u v:=by
 obtain ⟨p,q,rfl⟩:=List.append_of_mem hu
 exact ⟨p,q++t,by simp,List.mem_append_right _ hv⟩
theorem Bef.mem {l:List Int} {u v:Int} (h:Bef l u v):u∈l∧v∈l:=by
 obtain ⟨p,q,rfl,hv⟩:=h
 exact ⟨by simp,by simp [hv]⟩
inductive Adv (nx:Int→List Int) (l:List Int) (u:Int):Int→Prop
 | self:Adv nx l u u
 | step {p q:Int}:Adv nx l u p→q∈nx p→Bef l q p→Adv nx l u q
theorem Adv.app {nx:Int→List Int} {l:List Int} {u v:Int} (h:Adv nx l u v) (t:List Int):Adv nx (l++t) u v:=by
 induction h with
 | self=>exact .self
 | step _ h1 h2 ih=>exact .step ih h1 (h2.app t)
theorem Adv.pre {nx:Int→List Int} {l:List Int} {u v:Int} (h:Adv nx l u v) (t:List Int):Adv nx (t++l) u v:=by
 induction h with
 | self=>exact .self
 | step _ h1 h2 ih=>exact .step ih h1 (h2.pre t)
theorem Adv.trans {nx:Int→List Int} {l:List Int} {u v w:Int} (h:Adv nx l u v) (k:Adv nx l v w):Adv nx l u w:=by
 induction k with
 | self=>exact h
 | step _ h1 h2 ih=>exact .step ih h1 h2
def vis (s:List Bool × List Int) (x:Int):Prop:=nth s.1 x.toNat=true
structure Told (nx:Int→List Int) (m:Nat) (a:Int) (s s':List Bool × List Int) (new:List Int):Prop where
 out:s'.2=s.2++new
 len:s'.1.length=s.1.length
 nodup:new.Nodup
 visd : ∀ x,0≤x→(vis s' x↔vis s x∨x∈new)
 fresh : ∀ x∈new,¬vis s x∧0≤x∧x<m
 last : ∃ t,new=t++[a]
 clos : ∀ x∈new,∀ y∈nx x,vis s' y
 par : ∀ x∈new,x≠a→∃ p∈new,x∈nx p∧Bef new x p
 desc : ∀ x∈new,Adv nx new a x
 ret : ∀ x∈new,∀ y∈nx x,y∈new→Bef new y x∨Adv nx new y x
structure Half (nx:Int→List Int) (m:Nat) (a:Int) (k:Nat) (s s':List Bool × List Int) (new:List Int):Prop where
 out:s'.2=s.2++new
 len:s'.1.length=s.1.length
 nodup:new.Nodup
 visd : ∀ x,0≤x→(vis s' x↔vis s x∨x=a∨x∈new)
 fresh : ∀ x∈new,¬vis s x∧(0≤x∧x<m)∧x≠a
 clos : ∀ x∈new,∀ y∈nx x,vis s' y
 done : ∀ j,j<k→vis s' (nth (nx a) j)
 par : ∀ x∈new,x∈nx a∨∃ p∈new,x∈nx p∧Bef new x p
 desc : ∀ x∈new,∃ b∈new,b∈nx a∧Adv nx new b x
 ret : ∀ x∈new,∀ y∈nx x,y∈new→Bef new y x∨Adv nx new y x
theorem tW {nx:Int→List Int} {m:Nat} (hnx : ∀ a:Int,0≤a→a<m→∀ y∈nx a,0≤y∧y<m) : ∀ (n:Nat) (a:Int) (s:List Bool × List Int),0≤a→a<m→s.1.length=m→nth s.1 a.toNat=false→cL s.1≤n→
  ∃ new,Told nx m a s (gW nx n a s) new
 | 0,a,s,h0,h1,hl,hf,hc=>by
  exfalso
  have:=gR (t:=s.1) (i:=a.toNat) (by omega) hf
  omega
 | n+1,a,s,h0,h1,hl,hf,hc=>by
  have hfs:=gR (t:=s.1) (i:=a.toNat) (by omega) hf
  rw [iK]
  have half : ∀ k,k≤(nx a).length→∃ new,Half nx m a k s (up (b8 nx n a) k (s.1.set a.toNat true,s.2)) new∧cL (up (b8 nx n a) k (s.1.set a.toNat true,s.2)).1≤n:=by
   intro k
   induction k with
   | zero=>
    intro _
    refine ⟨[],⟨by simp [up],by simp [up],by simp,fun x hx=>?_,by simp,by simp,by simp,by simp,by simp,by simp⟩,by simp only [up];omega⟩
    unfold vis
    show nth (s.1.set a.toNat true) x.toNat=true↔_
    rcases Nat.lt_or_ge x.toNat s.1.length with hlt | hge
    ·rw [aK hlt]
     split
     ·rename_i e
      have:x=a:=by omega
      simp [this]
     ·rename_i e
      have:x≠a:=fun h=>e (by rw [h])
      simp [this]
    ·rw [aV (by simpa using hge),aV hge]
     have:x≠a:=by omega
     simp [this]
   | succ k ih=>
    intro hk
    obtain ⟨new,H,hcn⟩:=ih (by omega)
    rw [up]
    generalize up (b8 nx n a) k (s.1.set a.toNat true,s.2)=z at H hcn
    have hb:=hnx a h0 h1 (nth (nx a) k) (bU (by omega))
    have hbm:nth (nx a) k∈nx a:=bU (by omega)
    have hzl:z.1.length=m:=H.len.trans hl
    rw [b8]
    split
    ·rename_i hv
     refine ⟨new,{ H with done:=fun j hj=>?_ },hcn⟩
     rcases Nat.lt_or_ge j k with h | h
     ·exact H.done j h
     ·obtain rfl:j=k:=by omega
      exact hv
    ·rename_i hv
     obtain ⟨new',T⟩:=tW hnx n (nth (nx a) k) z hb.1 hb.2 hzl (by simpa using hv) hcn
     have hkeep:=(lZ (nx:=nx) (m:=m) (c:=n) n (nth (nx a) k) z ⟨hzl,hcn⟩).2
     generalize gW nx n (nth (nx a) k) z=z' at T hkeep
     obtain ⟨t,ht⟩:=T.last
     have hbn:nth (nx a) k∈new':=by rw [ht];simp
     have up : ∀ y,0≤y→vis z y→vis z' y:=fun y hy h=>(T.visd y hy).2 (.inl h)
     have hnv : ∀ x∈new,vis z x:=fun x hx=>(H.visd x (H.fresh x hx).2.1.1).2 (.inr (.inr hx))
     refine ⟨new++new',⟨?_,?_,?_,?_,?_,?_,?_,?_,?_,?_⟩,hkeep⟩
     ·rw [T.out,H.out,List.append_assoc]
     ·rw [T.len,H.len]
     ·exact List.nodup_append.2 ⟨H.nodup,T.nodup,fun x hx y hy e=>by subst e;exact (T.fresh x hy).1 (hnv x hx)⟩
     ·intro x hx
      rw [T.visd x hx,H.visd x hx,List.mem_append]
      constructor
      ·rintro ((h | h | h) | h)
       ·exact .inl h
       ·exact .inr (.inl h)
       ·exact .inr (.inr (.inl h))
       ·exact .inr (.inr (.inr h))
      ·rintro (h | h | h | h)
       ·exact .inl (.inl h)
       ·exact .inl (.inr (.inl h))
       ·exact .inl (.inr (.inr h))
       ·exact .inr h
     ·intro x hx
      rcases List.mem_append.1 hx with hx | hx
      ·exact H.fresh x hx
      ·obtain ⟨g1,g2⟩:=T.fresh x hx
       refine ⟨fun h=>g1 ((H.visd x g2.1).2 (.inl h)),g2,fun e=>g1 ((H.visd x g2.1).2 (.inr (.inl e)))⟩
     ·intro x hx y hy
      rcases List.mem_append.1 hx with hx | hx
      ·have hxr:=(H.fresh x hx).2.1
       exact up y (hnx x hxr.1 hxr.2 y hy).1 (H.clos x hx y hy)
      ·exact T.clos x hx y hy
     ·intro j hj
      rcases Nat.lt_or_ge j k with h | h
      ·exact up _ (hnx a h0 h1 _ (bU (by omega))).1 (H.done j h)
      ·obtain rfl:j=k:=by omega
       exact (T.visd _ hb.1).2 (.inr hbn)
     ·intro x hx
      rcases List.mem_append.1 hx with hx | hx
      ·rcases H.par x hx with h | ⟨p,hp,h2,h3⟩
       ·exact .inl h
       ·exact .inr ⟨p,List.mem_append_left _ hp,h2,h3.app _⟩
      ·by_cases e:x=nth (nx a) k
       ·exact .inl (e▸hbm)
       ·obtain ⟨p,hp,h2,h3⟩:=T.par x hx e
        exact .inr ⟨p,List.mem_append_right _ hp,h2,h3.pre _⟩
     ·intro x hx
      rcases List.mem_append.1 hx with hx | hx
      ·obtain ⟨b,hb,h2,h3⟩:=H.desc x hx
       exact ⟨b,List.mem_append_left _ hb,h2,h3.app _⟩
      ·exact ⟨_,List.mem_append_right _ hbn,hbm,(T.desc x hx).pre _⟩
     ·intro x hx y hy hyn
      rcases List.mem_append.1 hx with hx | hx<;>rcases List.mem_append.1 hyn with hyn | hyn
      ·exact (H.ret x hx y hy hyn).imp (·.app _) (·.app _)
      ·exact absurd (H.clos x hx y hy) (T.fresh y hyn).1
      ·exact .inl (Bef.z8 hyn hx)
      ·exact (T.ret x hx y hy hyn).imp (·.pre _) (·.pre _)
  obtain ⟨new,H,hcn⟩:=half (nx a).length (Nat.le_refl _)
  generalize up (b8 nx n a) (nx a).length (s.1.set a.toNat true,s.2)=z at H hcn
  have hda : ∀ y∈nx a,vis z y:=by
   intro y hy
   obtain ⟨j,hj,rfl⟩:=List.getElem_of_mem hy
   have:=H.done j hj
   rwa [aq hj] at this
  have hadv : ∀ x∈new,Adv nx (new++[a]) a x:=by
   intro x hx
   obtain ⟨b,hb,h2,h3⟩:=H.desc x hx
   exact (Adv.step .self h2 (Bef.z8 hb (by simp))).trans (h3.app _)
  refine ⟨new++[a],⟨?_,H.len,?_,?_,?_,⟨new,rfl⟩,?_,?_,?_,?_⟩⟩
  ·simp only [H.out,List.append_assoc]
  ·refine List.nodup_append.2 ⟨H.nodup,by simp,fun x hx y hy e=>?_⟩
   simp only [List.mem_singleton] at hy
   exact (H.fresh x hx).2.2 (e.trans hy)
  ·intro x hx
   show nth z.1 x.toNat=true↔_
   have:=H.visd x hx
   unfold vis at this ⊢
   rw [this]
   simp only [List.mem_append,List.mem_singleton]
   constructor
   ·rintro (h | h | h)
    ·exact .inl h
    ·exact .inr (.inr h)
    ·exact .inr (.inl h)
   ·rintro (h | h | h)
    ·exact .inl h
    ·exact .inr (.inr h)
    ·exact .inr (.inl h)
  ·intro x hx
   rcases List.mem_append.1 hx with hx | hx
   ·exact ⟨(H.fresh x hx).1,(H.fresh x hx).2.1⟩
   ·simp only [List.mem_singleton] at hx;subst hx
    exact ⟨by unfold vis;rw [hf];simp,h0,h1⟩
  ·intro x hx y hy
   rcases List.mem_append.1 hx with hx | hx
   ·exact H.clos x hx y hy
   ·simp only [List.mem_singleton] at hx;subst hx
    exact hda y hy
  ·intro x hx hne
   rcases List.mem_append.1 hx with hx | hx
   ·rcases H.par x hx with h | ⟨p,hp,h2,h3⟩
    ·exact ⟨a,by simp,h,Bef.z8 hx (by simp)⟩
    ·exact ⟨p,List.mem_append_left _ hp,h2,h3.app _⟩
   ·simp only [List.mem_singleton] at hx;exact absurd hx hne
  ·intro x hx
   rcases List.mem_append.1 hx with hx | hx
   ·exact hadv x hx
   ·simp only [List.mem_singleton] at hx;subst hx;exact .self
  ·intro x hx y hy hyn
   rcases List.mem_append.1 hyn with hn | hn
   ·rcases List.mem_append.1 hx with hx | hx
    ·exact (H.ret x hx y hy hn).imp (·.app _) (·.app _)
    ·simp only [List.mem_singleton] at hx;subst hx
     exact .inl (Bef.z8 hn (by simp))
   ·simp only [List.mem_singleton] at hn;subst hn
    rcases List.mem_append.1 hx with hx | hx
    ·exact .inr (hadv x hx)
    ·simp only [List.mem_singleton] at hx;subst hx
     exact .inr .self
end Go.Proofs.Ytfelpjfopgiabaa
namespace Go.Proofs.Ytfelpjfopgiabaa.Chk
inductive Anc (o:Nat→Nat) (x:Nat):Nat→Prop
 | self:Anc o x x
 | up {b:Nat}:b≠0→Anc o x (o b)→Anc o x b
theorem pt {o:Nat→Nat} {x:Nat}:Anc o x 0↔x=0:=by
 constructor
 ·intro h
  cases h with
  | self=>rfl
  | up h _=>exact absurd rfl h
 ·rintro rfl;exact .self
theorem lj {o:Nat→Nat} {x b:Nat} (hb:b≠0):Anc o x b↔x=b∨Anc o x (o b):=by
 constructor
 ·intro h
  cases h with
  | self=>exact .inl rfl
  | up _ h=>exact .inr h
 ·rintro (rfl | h)
  ·exact .self
  ·exact .up hb h
theorem Anc.trans {o:Nat→Nat} {x y b:Nat} (h:Anc o x y) (k:Anc o y b):Anc o x b:=by
 induction k with
 | self=>exact h
 | up hb _ ih=>exact .up hb ih
theorem Anc.total {o:Nat→Nat} {x y b:Nat} (h:Anc o x b) (k:Anc o y b):Anc o x y∨Anc o y x:=by
 induction h with
 | self=>exact .inr k
 | up hb h ih=>
  cases k with
  | self=>exact .inl (.up hb h)
  | up _ k=>exact ih k
structure Ch (R:Nat→Prop) (r:Nat→Nat) (E:Nat→Nat→Prop) (f:Nat→Nat) (D:Nat→Nat→Prop):Prop where
 inj : ∀ a b,R a→R b→r a=r b→a=b
 R0:R 0
 r0:r 0=0
 hf : ∀ x,R x→x≠0→R (f x)∧E (f x) x∧r (f x)<r x
 d1 : ∀ d b a,D d b→d≠b→E a b→R a→D d a
 d0 : ∀ d,D d 0→d=0
def Ok (Pr:Nat→Prop) (x:Nat):Prop:=x=0∨Pr x
structure Inv (R:Nat→Prop) (r:Nat→Nat) (E:Nat→Nat→Prop) (f:Nat→Nat) (D:Nat→Nat→Prop) (k:Nat) (o:Nat→Nat) (Pr:Nat→Prop):Prop where
 pr : ∀ b,Pr b→R b∧b≠0∧Ok Pr (o b)∧r (o b)<r b
 all : ∀ b,R b→b≠0→r b<k→Pr b
 fok : ∀ b,Pr b→Ok Pr (f b)
 K : ∀ b,Pr b→∀ x,(∀ a,E a b→R a→Ok Pr a→Anc o x a)→Anc o x (o b)
 FP : ∀ b,Pr b→∀ y,Anc o y (o b)→k≤r y→Anc o y (f b)
 FP2 : ∀ b,Pr b→r b<k→Anc o (o b) (f b)
 S : ∀ b,Pr b→∀ d,D d b→d≠b→Anc o d (o b)
section
variable {R:Nat→Prop} {r:Nat→Nat} {E:Nat→Nat→Prop} {f:Nat→Nat} {D:Nat→Nat→Prop} {k:Nat} {o:Nat→Nat} {Pr:Nat→Prop}
theorem Inv.okR (I:Inv R r E f D k o Pr) (C:Ch R r E f D) {x:Nat} (h:Ok Pr x):R x:=by
 rcases h with rfl | h
 ·exact C.R0
 ·exact (I.pr x h).1
theorem Inv.anc (I:Inv R r E f D k o Pr) {x b:Nat} (h:Anc o x b):Ok Pr b→Ok Pr x∧(x=b∨r x<r b):=by
 induction h with
 | self=>exact fun hb=>⟨hb,.inl rfl⟩
 | up hb _ ih=>
  intro hok
  rcases hok with rfl | hp
  ·exact absurd rfl hb
  ·obtain ⟨_,_,h3,h4⟩:=I.pr _ hp
   obtain ⟨h5,h6⟩:=ih h3
   refine ⟨h5,.inr ?_⟩
   rcases h6 with rfl | h6
   ·exact h4
   ·omega
theorem Inv.dom (I:Inv R r E f D k o Pr) (C:Ch R r E f D) {d b:Nat} (hb:Ok Pr b) (h:D d b):Anc o d b:=by
 by_cases e:d=b
 ·subst e;exact .self
 ·rcases hb with rfl | hb
  ·exact absurd (C.d0 d h) e
  ·exact .up (I.pr b hb).2.1 (I.S b hb d h e)
def upd (o:Nat→Nat) (c q:Nat):Nat→Nat:=fun b=>if b=c then q else o b
def add (Pr:Nat→Prop) (c:Nat):Nat→Prop:=fun b=>b=c∨Pr b
theorem ib {c q x b:Nat} (h:¬Anc o c b):Anc (upd o c q) x b↔Anc o x b:=by
 constructor
 ·intro k
  induction k with
  | self=>exact .self
  | up hb k ih=>
   rename_i b
   have hne:b≠c:=fun e=>h (e▸.self)
   have e:upd o c q b=o b:=by unfold upd;rw [if_neg hne]
   rw [e] at ih k
   exact .up hb (ih fun hc=>h (.up hb hc))
 ·intro k
  induction k with
  | self=>exact .self
  | up hb k ih=>
   rename_i b
   have hne:b≠c:=fun e=>h (e▸.self)
   have e:upd o c q b=o b:=by unfold upd;rw [if_neg hne]
   exact .up hb (by rw [e];exact ih fun hc=>h (.up hb hc))
theorem F2 {c q x:Nat} (hc:c≠0) (hq:¬Anc o c q):Anc (upd o c q) x c↔x=c∨Anc o x q:=by
 rw [lj hc,show upd o c q c=q by simp [upd],ib hq]
theorem Inv.Ei (I:Inv R r E f D k o Pr) {x y:Nat} (hx:Ok Pr x) (hy:Ok Pr y) (h1:Anc o x y) (h2:Anc o y x):x=y:=by
 have e1:=(I.anc h1 hy).2
 have e2:=(I.anc h2 hx).2
 omega
theorem Inv.below (I:Inv R r E f D k o Pr) {c q x b:Nat} (hpc:Pr c) (hq:¬Anc o c q) (h:Anc o c b):Ok Pr b→(Anc (upd o c q) x b↔(Anc o x b∧Anc o c x)∨Anc o x q):=by
 have hc:=(I.pr c hpc).2.1
 induction h with
 | self=>
  intro hb
  rw [F2 hc hq]
  constructor
  ·rintro (rfl | h)
   ·exact .inl ⟨.self,.self⟩
   ·exact .inr h
  ·rintro (⟨h1,h2⟩ | h)
   ·exact .inl (I.Ei (I.anc h1 hb).1 hb h1 h2)
   ·exact .inr h
 | up hb h ih=>
  rename_i b
  intro hok
  have hpb:Pr b:=hok.resolve_left hb
  obtain ⟨_,_,h3,h4⟩:=I.pr b hpb
  have hne:b≠c:=fun e=>by
   subst e
   rcases (I.anc h h3).2 with e | e
   ·rw [←e] at h4;omega
   ·omega
  have e:upd o c q b=o b:=by unfold upd;rw [if_neg hne]
  rw [lj hb,e,ih h3,lj hb]
  constructor
  ·rintro (rfl | ⟨h1,h2⟩ | h1)
   ·exact .inl ⟨.inl rfl,.up hb h⟩
   ·exact .inl ⟨.inr h1,h2⟩
   ·exact .inr h1
  ·rintro (⟨rfl | h1,h2⟩ | h1)
   ·exact .inl rfl
   ·exact .inr (.inl ⟨h1,h2⟩)
   ·exact .inr (.inr h1)
structure Turn (R:Nat→Prop) (r:Nat→Nat) (E:Nat→Nat→Prop) (o:Nat→Nat) (Pr:Nat→Prop) (c q:Nat):Prop where
 ok:Ok Pr q
 q : ∀ x,Anc o x q↔∀ a,E a c→R a→Ok Pr a→Anc o x a
theorem Inv.fc (I:Inv R r E f D k o Pr) (C:Ch R r E f D) {c:Nat} (hR:R c) (hc:c≠0) (hk:r c=k):Ok Pr (f c):=by
 obtain ⟨h1,_,h3⟩:=C.hf c hR hc
 by_cases e:f c=0
 ·exact .inl e
 ·exact .inr (I.all _ h1 e (by omega))
theorem Turn.lt {c q:Nat} (T:Turn R r E o Pr c q) (I:Inv R r E f D k o Pr) (C:Ch R r E f D) (hR:R c) (hc:c≠0) (hk:r c=k):r q<r c∧Anc o q (f c):=by
 obtain ⟨h1,h2,h3⟩:=C.hf c hR hc
 have h4:=(T.q q).1 .self (f c) h2 h1 (I.fc C hR hc hk)
 have:=(I.anc h4 (I.fc C hR hc hk)).2
 refine ⟨?_,h4⟩
 rcases this with e | e
 ·rw [e];exact h3
 ·omega
theorem Inv.turn (I:Inv R r E f D k o Pr) (C:Ch R r E f D) {c q:Nat} (hR:R c) (hc:c≠0) (hk:r c=k) (T:Turn R r E o Pr c q):Inv R r E f D (k+1) (upd o c q) (add Pr c):=by
 obtain ⟨f1,f2,f3⟩:=C.hf c hR hc
 have hfok:=I.fc C hR hc hk
 obtain ⟨hlt,hqf⟩:=T.lt I C hR hc hk
 have hq:¬Anc o c q:=fun h=>by
  have:=(I.anc h T.ok).2
  rcases this with e | e
  ·rw [e] at hlt;omega
  ·omega
 have hcf:¬Anc o c (f c):=fun h=>by
  have:=(I.anc h hfok).2
  rcases this with e | e
  ·rw [←e] at f3;omega
  ·omega
 have okm : ∀ x,Ok Pr x→Ok (add Pr c) x:=fun x h=>h.imp id .inr
 have up_ne : ∀ b,b≠c→upd o c q b=o b:=fun b hb=>by unfold upd;rw [if_neg hb]
 have up_c:upd o c q c=q:=by simp [upd]
 have hpc : ∀ b,Ok Pr b→Anc o c b→Pr c:=fun b hb h=>((I.anc h hb).1).resolve_left hc
 have mono : ∀ b,Ok Pr b→∀ x,Anc (upd o c q) x b→Anc o x b:=by
  intro b hb x h
  by_cases hcb:Anc o c b
  ·have hp:=hpc b hb hcb
   rcases (I.below hp hq hcb hb).1 h with ⟨h1,_⟩ | h1
   ·exact h1
   ·exact (Anc.up hc (I.K c hp x ((T.q x).1 h1))).trans hcb
  ·exact (ib hcb).1 h
 have stay : ∀ b,Ok Pr b→∀ x,Anc o x b→(Anc o c b→Anc o c x∨Anc o x q)→Anc (upd o c q) x b:=by
  intro b hb x h h2
  by_cases hcb:Anc o c b
  ·refine (I.below (hpc b hb hcb) hq hcb hb).2 ?_
   rcases h2 hcb with h3 | h3
   ·exact .inl ⟨h,h3⟩
   ·exact .inr h3
  ·exact (ib hcb).2 h
 have domc : ∀ n b,r b≤n→Ok Pr b→Anc o c b→∀ d,D d b→r d<r c→D d c:=by
  intro n
  induction n with
  | zero=>
   intro b hb hok hcb d hd hlt
   have:=(I.anc hcb hok).2
   rcases this with rfl | h
   ·exact hd
   ·omega
  | succ n ih=>
   intro b hb hok hcb d hd hlt
   by_cases e:c=b
   ·subst e;exact hd
   ·have hb0:b≠0:=fun e0=>by subst e0;exact e (pt.1 hcb)
    have hpb:=hok.resolve_left hb0
    have hcb':Anc o c (o b):=((lj hb0).1 hcb).resolve_left e
    obtain ⟨g1,g2,g3⟩:=C.hf b (I.pr b hpb).1 hb0
    have hlb:=(I.anc hcb hok).2
    have hdb:d≠b:=fun e2=>by subst e2;omega
    exact ih (f b) (by omega) (I.fok b hpb) (I.FP b hpb c hcb' (by omega)) d (C.d1 d b (f b) hd hdb g2 g1) hlt
 have domq : ∀ d,D d c→d≠c→Anc o d q:=by
  intro d hd hne
  refine (T.q d).2 fun a ha hRa hoka=>?_
  exact I.dom C hoka (C.d1 d c a hd hne ha hRa)
 refine ⟨?_,?_,?_,?_,?_,?_,?_⟩
 ·rintro b (rfl | hb)
  ·rw [up_c];exact ⟨hR,hc,okm _ T.ok,hlt⟩
  ·by_cases e:b=c
   ·subst e;rw [up_c];exact ⟨hR,hc,okm _ T.ok,hlt⟩
   ·rw [up_ne b e]
    obtain ⟨h1,h2,h3,h4⟩:=I.pr b hb
    exact ⟨h1,h2,okm _ h3,h4⟩
 ·intro b hRb hb0 hlt
  by_cases e:r b=k
  ·exact .inl (C.inj b c hRb hR (by omega))
  ·exact .inr (I.all b hRb hb0 (by omega))
 ·rintro b (rfl | hb)
  ·exact okm _ hfok
  ·exact okm _ (I.fok b hb)
 ·intro b hb x hx
  have hx' : ∀ a,E a b→R a→Ok Pr a→Anc o x a:=fun a h1 h2 h3=>mono a h3 x (hx a h1 h2 (okm a h3))
  by_cases e:b=c
  ·subst e
   rw [up_c,ib hq]
   exact (T.q x).2 hx'
  ·have hpb:Pr b:=hb.resolve_left e
   rw [up_ne b e]
   obtain ⟨h1,h2,h3,h4⟩:=I.pr b hpb
   have hxo:=I.K b hpb x hx'
   refine stay (o b) h3 x hxo fun hco=>?_
   rcases Anc.total hxo hco with h5 | h5
   ·-- x above c: by the one ahead of b
    obtain ⟨g1,g2,g3⟩:=C.hf b h1 h2
    have hcf2:=I.FP b hpb c hco (by omega)
    have hxf:=hx (f b) g2 g1 (okm _ (I.fok b hpb))
    rcases (I.below (hpc _ h3 hco) hq hcf2 (I.fok b hpb)).1 hxf with ⟨_,h6⟩ | h6
    ·exact .inl h6
    ·exact .inr h6
   ·exact .inl h5
 ·intro b hb y hy hky
  by_cases e:b=c
  ·subst e
   rw [up_c,ib hq] at hy
   exact (ib hcf).2 (hy.trans hqf)
  ·have hpb:Pr b:=hb.resolve_left e
   rw [up_ne b e] at hy
   obtain ⟨h1,h2,h3,h4⟩:=I.pr b hpb
   have hyf:=I.FP b hpb y (mono _ h3 y hy) (by omega)
   refine stay (f b) (I.fok b hpb) y hyf fun hcf2=>?_
   rcases Anc.total hyf hcf2 with h5 | h5
   ·exfalso
    have:=(I.anc h5 (.inr (hpc _ (I.fok b hpb) hcf2))).2
    rcases this with e2 | e2
    ·subst e2;omega
    ·omega
   ·exact .inl h5
 ·intro b hb hlt
  by_cases e:b=c
  ·subst e
   rw [up_c]
   exact (ib hcf).2 hqf
  ·have hpb:Pr b:=hb.resolve_left e
   rw [up_ne b e]
   obtain ⟨h1,h2,h3,h4⟩:=I.pr b hpb
   obtain ⟨g1,g2,g3⟩:=C.hf b h1 h2
   have hbk:r b<k:=by
    rcases Nat.lt_or_ge (r b) k with h | h
    ·exact h
    ·exact absurd (C.inj b c h1 hR (by omega)) e
   have h5:=I.FP2 b hpb hbk
   refine (ib fun hcf2=>?_).2 h5
   have:=(I.anc hcf2 (I.fok b hpb)).2
   rcases this with e2 | e2
   ·rw [←e2] at g3;omega
   ·omega
 ·intro b hb d hd hne
  by_cases e:b=c
  ·subst e
   rw [up_c,ib hq]
   exact domq d hd hne
  ·have hpb:Pr b:=hb.resolve_left e
   rw [up_ne b e]
   obtain ⟨h1,h2,h3,h4⟩:=I.pr b hpb
   have hdo:=I.S b hpb d hd hne
   refine stay (o b) h3 d hdo fun hco=>?_
   rcases Anc.total hdo hco with h5 | h5
   ·have hpcc:=hpc _ h3 hco
    rcases (I.anc h5 (.inr hpcc)).2 with e2 | e2
    ·subst e2;exact .inl .self
    ·exact .inr (domq d (domc (r b) b (Nat.le_refl _) (.inr hpb) (.up h2 hco) d hd e2) fun e3=>by subst e3;omega)
   ·exact .inl h5
theorem Inv.again (I:Inv R r E f D k o Pr) (hk : ∀ b,R b→r b<k):Inv R r E f D 0 o Pr:=by
 refine ⟨I.pr,fun b hR h0 h=>I.all b hR h0 (hk b hR),I.fok,I.K,fun b hb y hy _=>?_,fun b _ h=>absurd h (by omega),I.S⟩
 exact hy.trans (I.FP2 b hb (hk b (I.pr b hb).1))
theorem Inv.start:Inv R r E f D 0 o (fun _=>False):=
 ⟨fun _ h=>h.elim,fun _ _ _ h=>absurd h (by omega),fun _ h=>h.elim,fun _ h=>h.elim,fun _ h=>h.elim,fun _ h=>h.elim,fun _ h=>h.elim⟩
theorem Inv.Gp (I:Inv R r E f D k o Pr) {c q:Nat} (T:Turn R r E o Pr c q) (hp:Pr c):q=o c∨r q<r (o c):=by
 have:=I.K c hp q ((T.q q).1 .self)
 exact (I.anc this (I.pr c hp).2.2.1).2
end
end Go.Proofs.Ytfelpjfopgiabaa.Chk
namespace Go.Proofs.Ytfelpjfopgiabaa
open Go Go.Lft Chk
theorem BX {β:Type} {f k:Nat→β→β} {n:Nat} (I:β→Prop) (h : ∀ i x,i<n→I x→f i x=k i x) (hI : ∀ i x,i<n→I x→I (f i x)) {x:β} (hx:I x):up f n x=up k n x:=by
 have key : ∀ m,m≤n→up f m x=up k m x∧I (up f m x):=by
  intro m
  induction m with
  | zero=>exact fun _=>⟨rfl,hx⟩
  | succ m ih=>
   intro hm
   obtain ⟨h1,h2⟩:=ih (by omega)
   exact ⟨by rw [up,up,←h1,h m _ (by omega) h2],hI _ _ (by omega) h2⟩
 exact (key n (Nat.le_refl _)).1
theorem qn {nx nx':Int→List Int} {m:Nat} (hnx : ∀ a:Int,0≤a→a<m→nx a=nx' a∧∀ y∈nx a,0≤y∧y<m) : ∀ (n:Nat) (a:Int) (s:List Bool × List Int),0≤a→a<m→gW nx n a s=gW nx' n a s
 | 0,_,_,_,_=>rfl
 | n+1,a,s,h0,h1=>by
  obtain ⟨e,hr⟩:=hnx a h0 h1
  rw [iK,iK,←e]
  have:up (b8 nx n a) (nx a).length (s.1.set a.toNat true,s.2)=up (b8 nx' n a) (nx a).length (s.1.set a.toNat true,s.2):=by
   refine BX (fun _=>True) (fun i x hi _=>?_) (fun _ _ _ _=>trivial) trivial
   unfold b8
   rw [←e]
   obtain ⟨g0,g1⟩:=hr _ (bU hi)
   rw [qn hnx n _ x g0 g1]
  rw [this]
theorem uR {g:Gr} {a y:Int} (h:y∈jq g a):0≤y∧y<g.length:=by
 have:=(gB.1 (fM.1 h)).1;omega
theorem Am {g:Gr} {a:Int} (h0:0≤a) (h1:a<g.length):nx (cM g) a=jq g a:=by
 unfold nx
 rw [tp (by omega),Int.toNat_of_nonneg h0]
theorem BU {g:Gr}:bg g=jk (jq g) g.length:=by
 unfold bg jk
 split
 ·rfl
 ·rw [qn (m:=g.length) (fun a h0 h1=>⟨Am h0 h1,fun y hy=>uR (by rwa [Am h0 h1] at hy)⟩) _ _ _ (by omega) (by omega)]
structure Ord (g:Gr) (order:List Int):Prop where
 nodup:order.Nodup
 mem : ∀ x:Nat,(x:Int)∈order↔Re g (-1) x
 rng : ∀ x∈order,0≤x∧x<g.length
 head:order[0]? = some 0
 par : ∀ x∈order,x≠0→∃ p∈order,kJ g p x=true∧order.idxOf p<order.idxOf x
 ret : ∀ x∈order,∀ y∈order,kJ g x y=true→order.idxOf y≤order.idxOf x→∃ l,Adv (jq g) l y x∧∀ u v,Bef l u v→order.idxOf v<order.idxOf u
theorem p9 {l:List Int} (hn:l.Nodup) {u v:Int} (h:Bef l u v):l.reverse.idxOf v<l.reverse.idxOf u:=by
 obtain ⟨p,q,rfl,hv⟩:=h
 have hu:u∉q:=by
  have:=(List.nodup_append.1 hn).2.1
  exact (List.nodup_cons.1 this).1
 rw [List.reverse_append,List.reverse_cons,List.append_assoc]
 have h1:(q.reverse++([u]++p.reverse)).idxOf v<q.reverse.length:=by
  rw [List.idxOf_append,if_pos (by simpa using hv)]
  exact List.idxOf_lt_length_of_mem (by simpa using hv)
 have h2:(q.reverse++([u]++p.reverse)).idxOf u=q.reverse.length:=by
  rw [List.idxOf_append,if_neg (by simpa using hu)]
  simp
 omega
theorem iD {g:Gr} (hg:0<g.length):Ord g (bg g):=by
 have hT:=tW (nx:=jq g) (m:=g.length) (fun a _ _ y hy=>uR hy) g.length 0 (List.replicate g.length false,[]) (by omega) (by omega) (by simp) (au (by simpa using hg)) (by simp [cL])
 have ho:bg g=(gW (jq g) g.length 0 (List.replicate g.length false,[])).2.reverse:=by
  rw [BU,jk,if_neg (by omega)]
 obtain ⟨new,T⟩:=hT
 have hout:=T.out
 simp only [List.nil_append] at hout
 rw [ho,hout]
 have hv0 : ∀ x:Int,¬vis (List.replicate g.length false,([]:List Int)) x:=by
  intro x h
  unfold vis at h
  simp only at h
  rcases Nat.lt_or_ge x.toNat g.length with h1 | h1
  ·rw [au h1] at h;cases h
  ·rw [aV (by simpa using h1)] at h;cases h
 have hvis : ∀ x,0≤x→(vis (gW (jq g) g.length 0 (List.replicate g.length false,[])) x↔x∈new):=fun x hx=>by
  rw [T.visd x hx]
  exact ⟨fun h=>h.resolve_left (hv0 x),.inr⟩
 obtain ⟨t,ht⟩:=T.last
 have h0:(0:Int)∈new:=by rw [ht];simp
 have hre : ∀ x∈new,Re g (-1) x.toNat:=by
  intro x hx
  have:=T.desc x hx
  clear hx
  induction this with
  | self=>exact .root hg (by decide)
  | step _ h1 h2 ih=>
   have hpr:=T.fresh _ h2.mem.2
   have hqr:=T.fresh _ h2.mem.1
   have he:=fM.1 h1
   refine .step ih ?_ (by omega)
   rwa [Int.toNat_of_nonneg hpr.2.1,Int.toNat_of_nonneg hqr.2.1]
 refine ⟨by simpa [List.Nodup,List.pairwise_reverse,ne_comm] using T.nodup,fun x=>?_,fun x hx=>(T.fresh x (by simpa using hx)).2,?_,?_,?_⟩
 ·rw [List.mem_reverse]
  constructor
  ·intro h;simpa using hre x h
  ·intro h
   induction h with
   | root _ _=>exact h0
   | step _ he _ ih=>
    exact (hvis _ (by omega)).1 (T.clos _ ih _ (fM.2 he))
 ·rw [ht,List.reverse_append];rfl
 ·intro x hx hne
  obtain ⟨p,hp,h1,h2⟩:=T.par x (by simpa using hx) hne
  exact ⟨p,by simpa using hp,fM.1 h1,p9 T.nodup h2⟩
 ·intro x hx y hy he hle
  rcases T.ret x (by simpa using hx) y (fM.2 he) (by simpa using hy) with h | h
  ·have:=p9 T.nodup h
   omega
  ·exact ⟨new,h,fun u v huv=>p9 T.nodup huv⟩
theorem qt {n:Nat} {order:List Int} (hn:order.Nodup) (hr : ∀ x∈order,0≤x∧x<(n:Int)) {x:Nat} (hx:x<n):nth (eE n order) x=if (x:Int)∈order then (order.idxOf (x:Int):Int) else -1:=by
 have key : ∀ k,k≤order.length→(up (fun i l=>l.set (nth order i).toNat (i:Int)) k (List.replicate n (-1))).length=n∧nth (up (fun i l=>l.set (nth order i).toNat (i:Int)) k (List.replicate n (-1))) x=if (x:Int)∈order.take k then (order.idxOf (x:Int):Int) else -1:=by
  intro k
  induction k with
  | zero=>intro _;exact ⟨by simp [up],by rw [up,au hx];simp⟩
  | succ k ih=>
   intro hk
   obtain ⟨h1,h2⟩:=ih (by omega)
   rw [up]
   refine ⟨by simpa using h1,?_⟩
   rw [aK (by omega),List.take_succ_eq_append_getElem (by omega),h2]
   have hmem:order[k]∈order:=List.getElem_mem _
   have hrk:=hr _ hmem
   rw [aq (show k<order.length by omega)]
   by_cases e:order[k].toNat=x
   ·have e2:order[k]=(x:Int):=by omega
    rw [if_pos e,if_pos (by rw [←e2];exact List.mem_append_right _ (List.mem_singleton.2 rfl)),←e2,List.Nodup.idxOf_getElem hn]
   ·rw [if_neg e]
    have e2:¬(x:Int)=order[k]:=fun h=>e (by omega)
    simp only [List.mem_append,List.mem_singleton,e2,or_false]
 have:=(key order.length (Nat.le_refl _)).2
 rw [List.take_of_length_le (Nat.le_refl _)] at this
 exact this
end Go.Proofs.Ytfelpjfopgiabaa
namespace Go.Proofs.Ytfelpjfopgiabaa
open Go Go.Lft Chk
def st (out:List Int):Nat→Nat:=fun b=>(nth out b).toNat
def pd (out:List Int):Nat→Prop:=fun b=>b<out.length∧0≤nth out b
def rk (g:Gr) (x:Nat):Nat:=(bg g).idxOf (x:Int)
def Eg (g:Gr) (a b:Nat):Prop:=kJ g a b=true
def Dm (g:Gr) (d b:Nat):Prop:=domC g d b=true
def Rg (g:Gr) (x:Nat):Prop:=Re g (-1) x
section
variable {g:Gr}
theorem zI {x:Nat} (h:Rg g x):rk g x<(bg g).length:=List.idxOf_lt_length_of_mem (((iD (Nat.lt_of_le_of_lt (Nat.zero_le _) h.lt)).mem x).2 h)
theorem Rg.pos {x:Nat} (h:Rg g x):0<g.length:=Nat.lt_of_le_of_lt (Nat.zero_le _) h.lt
theorem Ej {x:Nat} (h:Rg g x):rk g x<g.length:=Nat.lt_of_lt_of_le (zI h) nY
theorem zA {a b:Nat} (ha:Rg g a) (hb:Rg g b) (h:rk g a=rk g b):a=b:=by
 have O:=iD ha.pos
 have h1:=List.getElem_idxOf (zI ha)
 have h2:=List.getElem_idxOf (zI hb)
 have:(a:Int)=(b:Int):=by rw [←h1,←h2];congr 1
 omega
theorem qQ (hg:0<g.length):rk g 0=0:=by
 have O:=iD hg
 unfold rk
 have hl:0<(bg g).length:=by
  have:=O.head
  rcases Nat.eq_zero_or_pos (bg g).length with h | h
  ·rw [List.eq_nil_of_length_eq_zero h] at this;cases this
  ·exact h
 have h0:=O.head
 rw [List.getElem?_eq_getElem hl] at h0
 have h1:(bg g)[0]=0:=Option.some.inj h0
 have:=List.Nodup.idxOf_getElem O.nodup 0 hl
 rw [h1] at this
 exact this
theorem p8 {x:Nat} (h:Rg g x):nth (eE g.length (bg g)) x=(rk g x:Int):=by
 have O:=iD h.pos
 rw [qt O.nodup O.rng h.lt,if_pos ((O.mem x).2 h)];rfl
theorem yM {x:Nat} (hx:x<g.length) (h:¬Rg g x):nth (eE g.length (bg g)) x=-1:=by
 have O:=iD (g:=g) (by omega)
 rw [qt O.nodup O.rng hx,if_neg fun e=>h ((O.mem x).1 e)]
theorem Dg (hg:0<g.length) : ∃ f:Nat→Nat,∀ x,Rg g x→x≠0→Rg g (f x)∧Eg g (f x) x∧rk g (f x)<rk g x:=by
 have O:=iD hg
 have : ∀ x,∃ p,Rg g x→x≠0→Rg g p∧Eg g p x∧rk g p<rk g x:=by
  intro x
  by_cases h:Rg g x∧x≠0
  ·obtain ⟨p,hp,h1,h2⟩:=O.par x ((O.mem x).2 h.1) (by omega)
   have hr:=O.rng p hp
   have e:((p.toNat:Nat):Int)=p:=Int.toNat_of_nonneg hr.1
   refine ⟨p.toNat,fun _ _=>⟨(O.mem _).1 (by rw [e];exact hp),by unfold Eg;rw [e];exact h1,by unfold rk;rw [e];exact h2⟩⟩
  ·exact ⟨0,fun h1 h2=>absurd ⟨h1,h2⟩ h⟩
 exact ⟨fun x=>(this x).choose,fun x=>(this x).choose_spec⟩
theorem GJ (hg:0<g.length) {f:Nat→Nat} (hf : ∀ x,Rg g x→x≠0→Rg g (f x)∧Eg g (f x) x∧rk g (f x)<rk g x):Ch (Rg g) (rk g) (Eg g) f (Dm g) where
 inj:=fun a b ha hb h=>zA ha hb h
 R0:=.root hg (by decide)
 r0:=qQ hg
 hf:=hf
 d1:=fun d b a hd hne he ha=>by
  obtain ⟨h1,h2,h3⟩:=lS.1 hd
  exact lS.2 ⟨h1,ha,fun h=>h3 (.step h he (by omega))⟩
 d0:=fun d hd=>by
  obtain ⟨h1,h2,h3⟩:=lS.1 hd
  rcases Nat.eq_zero_or_pos d with h | h
  ·exact h
  ·exact absurd (.root hg (by omega)) h3
structure Good (g:Gr) (f:Nat→Nat) (k:Nat) (out:List Int):Prop where
 len:out.length=g.length
 rng : ∀ b,b<g.length→nth out b=-1∨(0≤nth out b∧nth out b<g.length)
 inv:Inv (Rg g) (rk g) (Eg g) f (Dm g) k (st out) (pd out)
variable {f:Nat→Nat} {k:Nat} {out:List Int}
theorem Good.yk (G:Good g f k out) (C:Ch (Rg g) (rk g) (Eg g) f (Dm g)) {x:Nat} (h:Ok (pd out) x):Rg g x∧x<g.length:=⟨G.inv.okR C h,(G.inv.okR C h).lt⟩
theorem mK (G:Good g f k out) (C:Ch (Rg g) (rk g) (Eg g) f (Dm g)) : ∀ (fuel a b:Nat),Ok (pd out) a→Ok (pd out) b→rk g a+rk g b<fuel→
  ∃ c:Nat,iS out (eE g.length (bg g)) fuel a b=some (c:Int)∧Ok (pd out) c∧∀ x,Anc (st out) x c↔Anc (st out) x a∧Anc (st out) x b
 | 0,a,b,_,_,h=>by omega
 | fuel+1,a,b,ha,hb,h=>by
  obtain ⟨ra,la⟩:=G.yk C ha
  obtain ⟨rb,lb⟩:=G.yk C hb
  have hg:=ra.pos
  have hnl:(eE g.length (bg g)).length=g.length:=by rw [eE,wJ List.length (fun _ _=>by simp)];simp
  have hol:=G.len
  rw [iS,if_pos (by omega),Int.toNat_natCast,Int.toNat_natCast,p8 ra,p8 rb]
  have step : ∀ a b:Nat,Ok (pd out) a→Ok (pd out) b→rk g b<rk g a→a≠0∧nth out a=((st out a:Nat):Int)∧Ok (pd out) (st out a)∧rk g (st out a)<rk g a∧∀ x,Anc (st out) x (st out a)∧Anc (st out) x b↔Anc (st out) x a∧Anc (st out) x b:=by
   intro a b ha hb hlt
   have ha0:a≠0:=fun e=>by subst e;rw [qQ hg] at hlt;omega
   have hpa:=ha.resolve_left ha0
   obtain ⟨_,_,h3,h4⟩:=G.inv.pr a hpa
   refine ⟨ha0,(Int.toNat_of_nonneg hpa.2).symm,h3,h4,fun x=>⟨fun ⟨h5,h6⟩=>⟨.up ha0 h5,h6⟩,fun ⟨h5,h6⟩=>⟨?_,h6⟩⟩⟩
   rcases (lj ha0).1 h5 with rfl | h7
   ·have:=(G.inv.anc h6 hb).2
    rcases this with e | e
    ·subst e;omega
    ·omega
   ·exact h7
  by_cases h1:rk g b<rk g a
  ·rw [if_pos (by omega)]
   obtain ⟨ha0,e,h3,h4,h5⟩:=step a b ha hb h1
   rw [e]
   obtain ⟨c,h6,h7,h8⟩:=mK G C fuel (st out a) b h3 hb (by omega)
   exact ⟨c,h6,h7,fun x=>(h8 x).trans (h5 x)⟩
  ·rw [if_neg (by omega)]
   by_cases h2:rk g a<rk g b
   ·rw [if_pos (by omega)]
    obtain ⟨hb0,e,h3,h4,h5⟩:=step b a hb ha h2
    rw [e]
    obtain ⟨c,h6,h7,h8⟩:=mK G C fuel a (st out b) ha h3 (by omega)
    exact ⟨c,h6,h7,fun x=>(h8 x).trans (by rw [and_comm,h5 x,and_comm])⟩
   ·rw [if_neg (by omega)]
    have e:a=b:=zA ra rb (by omega)
    subst e
    exact ⟨a,rfl,ha,fun x=>by simp⟩
def Bst (out:List Int) (best:Int) (Q:Nat→Prop):Prop:=
 (best=-1∧∀ a,¬Q a)∨∃ c:Nat,best=(c:Int)∧Ok (pd out) c∧(∃ a,Q a)∧∀ x,Anc (st out) x c↔∀ a,Q a→Anc (st out) x a
def Cons (g:Gr) (out:List Int) (a:Nat):Prop:=Rg g a∧Ok (pd out) a
theorem mO {best:Int} {Q Q':Nat→Prop} (h : ∀ a,Q a↔Q' a) (b:Bst out best Q):Bst out best Q':=by
 have:Q=Q':=funext fun a=>propext (h a)
 rw [←this];exact b
theorem oY (G:Good g f k out) (C:Ch (Rg g) (rk g) (Eg g) f (Dm g)) : ∀ (l:List Int) (best:Int) (Q:Nat→Prop),Bst out best Q→(∀ a∈l,0≤a∧a<(g.length:Int))→
  ∃ best',bstS out (eE g.length (bg g)) g.length l best=some best'∧Bst out best' fun a=>Q a∨((a:Int)∈l∧Cons g out a)
 | [],best,Q,hB,_=>⟨best,rfl,mO (fun a=>by simp) hB⟩
 | a::l,best,Q,hB,hl=>by
  obtain ⟨h0,h1⟩:=hl a (List.mem_cons_self ..)
  have hl':=fun x hx=>hl x (List.mem_cons_of_mem _ hx)
  obtain ⟨n,rfl⟩:=Int.eq_ofNat_of_zero_le h0
  have hn:n<g.length:=by omega
  have hol:=G.len
  rw [bstS,if_pos ⟨h0,h1⟩,Int.toNat_natCast]
  have hcons:(nth (eE g.length (bg g)) n<0∨((n:Int)≠0∧nth out n<0))↔¬Cons g out n:=by
   by_cases hr:Rg g n
   ·rw [p8 hr]
    constructor
    ·rintro (h | ⟨h2,h3⟩)
     ·omega
     ·rintro ⟨_,h4 | h4⟩
      ·omega
      ·have:=h4.2;omega
    ·intro h
     right
     refine ⟨fun e=>h ⟨hr,.inl (by omega)⟩,?_⟩
     rcases Int.lt_or_le (nth out n) 0 with h2 | h2
     ·exact h2
     ·exact absurd ⟨hr,.inr ⟨by omega,h2⟩⟩ h
   ·rw [yM hn hr]
    exact ⟨fun _ h=>hr h.1,fun _=>.inl (by omega)⟩
  by_cases hc:Cons g out n
  ·rw [if_neg fun h=>hcons.1 h hc]
   rcases hB with ⟨rfl,hQ⟩ | ⟨c,rfl,hok,hex,hq⟩
   ·rw [if_pos (by decide)]
    obtain ⟨b',h2,h3⟩:=oY G C l n (fun a=>a=n) (.inr ⟨n,rfl,hc.2,⟨n,rfl⟩,fun x=>by simp⟩) hl'
    refine ⟨b',h2,mO (fun a=>?_) h3⟩
    constructor
    ·rintro (rfl | ⟨h4,h5⟩)
     ·exact .inr ⟨List.mem_cons_self ..,hc⟩
     ·exact .inr ⟨List.mem_cons_of_mem _ h4,h5⟩
    ·rintro (h4 | ⟨h4,h5⟩)
     ·exact absurd h4 (hQ a)
     ·rcases List.mem_cons.1 h4 with h4 | h4
      ·exact .inl (by omega)
      ·exact .inr ⟨h4,h5⟩
   ·rw [if_neg (by omega)]
    obtain ⟨rc,_⟩:=G.yk C hok
    obtain ⟨d,h2,h3,h4⟩:=mK G C (2*g.length+2) c n hok hc.2 (by have:=Ej rc;have:=Ej hc.1;omega)
    rw [h2]
    simp only [Option.bind_some]
    obtain ⟨b',h5,h6⟩:=oY G C l d (fun a=>Q a∨a=n) (.inr ⟨d,rfl,h3,⟨n,.inr rfl⟩,fun x=>by
     rw [h4,hq]
     constructor
     ·rintro ⟨h7,h8⟩ a (ha | rfl)
      ·exact h7 a ha
      ·exact h8
     ·intro h7
      exact ⟨fun a ha=>h7 a (.inl ha),h7 n (.inr rfl)⟩⟩) hl'
    refine ⟨b',h5,mO (fun a=>?_) h6⟩
    constructor
    ·rintro ((h7 | rfl) | ⟨h7,h8⟩)
     ·exact .inl h7
     ·exact .inr ⟨List.mem_cons_self ..,hc⟩
     ·exact .inr ⟨List.mem_cons_of_mem _ h7,h8⟩
    ·rintro (h7 | ⟨h7,h8⟩)
     ·exact .inl (.inl h7)
     ·rcases List.mem_cons.1 h7 with h7 | h7
      ·exact .inl (.inr (by omega))
      ·exact .inr ⟨h7,h8⟩
  ·rw [if_pos (hcons.2 hc)]
   obtain ⟨b',h2,h3⟩:=oY G C l best Q hB hl'
   refine ⟨b',h2,mO (fun a=>?_) h3⟩
   constructor
   ·rintro (h4 | ⟨h4,h5⟩)
    ·exact .inl h4
    ·exact .inr ⟨List.mem_cons_of_mem _ h4,h5⟩
   ·rintro (h4 | ⟨h4,h5⟩)
    ·exact .inl h4
    ·rcases List.mem_cons.1 h4 with h6 | h6
     ·exact absurd ((show a=n by omega)▸h5) hc
     ·exact .inr ⟨h6,h5⟩
theorem AG (G:Good g f k out) (C:Ch (Rg g) (rk g) (Eg g) f (Dm g)) {c:Nat} (hR:Rg g c) (hc:c≠0) (hk:rk g c=k) :
  ∃ q:Nat,bstS out (eE g.length (bg g)) g.length (nth (cR g) c) (-1)=some (q:Int)∧Turn (Rg g) (rk g) (Eg g) (st out) (pd out) c q:=by
 have hlt:=hR.lt
 obtain ⟨best,h1,h2⟩:=oY G C (nth (cR g) c) (-1) (fun _=>False) (.inl ⟨rfl,fun _ h=>h⟩) (pW (fun e he=>(mN he).1) (fun i x hx=>by
  rcases Nat.lt_or_ge i g.length with hi | hi
  ·rw [au hi] at hx;cases hx
  ·rw [aV (by simpa using hi)] at hx;cases hx) c)
 have hm : ∀ a:Nat,(a:Int)∈nth (cR g) c↔Eg g a c:=fun a=>by
  have:=A4 (g:=g) (a:=a) (b:=c) ⟨by omega,by omega⟩
  rwa [Int.toNat_natCast] at this
 obtain ⟨f1,f2,f3⟩:=C.hf c hR hc
 rcases h2 with ⟨_,h3⟩ | ⟨q,rfl,hok,_,hq⟩
 ·exact absurd (.inr ⟨(hm _).2 f2,f1,G.inv.fc C hR hc hk⟩) (h3 (f c))
 ·refine ⟨q,h1,hok,fun x=>?_⟩
  rw [hq]
  constructor
  ·intro h a h4 h5 h6
   exact h a (.inr ⟨(hm a).2 h4,h5,h6⟩)
  ·rintro h a (h4 | ⟨h4,h5,h6⟩)
   ·exact h4.elim
   ·exact h a ((hm a).1 h4) h5 h6
end
end Go.Proofs.Ytfelpjfopgiabaa
namespace Go.Proofs.Ytfelpjfopgiabaa
open Go Go.Lft Chk
def lU (w:Nat→Nat):Nat→Nat
 | 0=>0
 | n+1=>lU w n+w n
theorem CD {w w':Nat→Nat} : ∀ {n:Nat},(∀ b,b<n→w' b≤w b)→lU w' n≤lU w n
 | 0,_=>Nat.le_refl _
 | n+1,h=>Nat.add_le_add (CD fun b hb=>h b (by omega)) (h n (by omega))
theorem CX {w w':Nat→Nat} {c:Nat} : ∀ {n:Nat},(∀ b,b<n→w' b≤w b)→c<n→w' c<w c→lU w' n<lU w n
 | 0,_,h,_=>by omega
 | n+1,h,hc,hlt=>by
  rcases Nat.lt_or_ge c n with h1 | h1
  ·have:=CX (n:=n) (fun b hb=>h b (by omega)) h1 hlt
   have:=h n (by omega)
   simp only [lU];omega
  ·obtain rfl:c=n:=by omega
   have:=CD (n:=c) fun b hb=>h b (by omega)
   simp only [lU];omega
theorem tY {w:Nat→Nat} {m:Nat} : ∀ {n:Nat},(∀ b,b<n→w b≤m)→lU w n≤n*m
 | 0,_=>by simp [lU]
 | n+1,h=>by
  have:=tY (n:=n) fun b hb=>h b (by omega)
  have:=h n (by omega)
  rw [lU,Nat.succ_mul];omega
section
variable {g:Gr} {f:Nat→Nat} {k:Nat} {out:List Int}
def wt (g:Gr) (out:List Int) (b:Nat):Nat:=if nth out b<0 then g.length else rk g (st out b)
def mu (g:Gr) (out:List Int):Nat:=lU (wt g out) g.length
theorem Good.set (G:Good g f k out) (C:Ch (Rg g) (rk g) (Eg g) f (Dm g)) {c q:Nat} (hR:Rg g c) (hc:c≠0) (hk:rk g c=k) (T:Turn (Rg g) (rk g) (Eg g) (st out) (pd out) c q) (ch:Bool) :
  Good g f (k+1) (setS out ch c q).1∧mu g (setS out ch c q).1≤mu g out∧((setS out ch c q).2=true→ch=true∨mu g (setS out ch c q).1<mu g out)∧((setS out ch c q).2=false→ch=false∧(setS out ch c q).1=out∧st out c=q∧pd out c):=by
 have hlt:=hR.lt
 have hol:=G.len
 obtain ⟨hq,hqn⟩:=G.yk C T.ok
 have I:=G.inv.turn C hR hc hk T
 by_cases e:nth out c=q
 ·have hs:setS out ch c q=(out,ch):=by simp [setS,e]
  rw [hs]
  have hst:upd (st out) c q=st out:=by
   funext b;unfold upd
   split
   ·rename_i hb;subst hb;simp [st,e]
   ·rfl
  have hpd:add (pd out) c=pd out:=by
   funext b
   refine propext ⟨fun h=>?_,.inr⟩
   rcases h with rfl | h
   ·exact ⟨by omega,by omega⟩
   ·exact h
  rw [hst,hpd] at I
  exact ⟨⟨G.len,G.rng,I⟩,Nat.le_refl _,.inl,fun h=>⟨h,rfl,by simp [st,e],by omega,by omega⟩⟩
 ·have hs:setS out ch c q=(out.set c q,true):=by simp [setS,e]
  rw [hs]
  have hn : ∀ b,b<g.length→nth (out.set c q) b=if c=b then (q:Int) else nth out b:=fun b hb=>aK (by omega)
  have hst:st (out.set c q)=upd (st out) c q:=by
   funext b;unfold upd st
   rcases Nat.lt_or_ge b out.length with hb | hb
   ·rw [aK hb]
    by_cases h:c=b
    ·rw [if_pos h,if_pos h.symm];simp
    ·rw [if_neg h,if_neg (Ne.symm h)]
   ·rw [aV (by simpa using hb),aV hb,if_neg (by omega)]
  have hpd:pd (out.set c q)=add (pd out) c:=by
   funext b
   refine propext ?_
   unfold pd add
   rw [List.length_set]
   constructor
   ·rintro ⟨h1,h2⟩
    rw [aK h1] at h2
    by_cases h:c=b
    ·exact .inl h.symm
    ·rw [if_neg h] at h2;exact .inr ⟨h1,h2⟩
   ·rintro (rfl | ⟨h1,h2⟩)
    ·exact ⟨by omega,by rw [aK (by omega),if_pos rfl];omega⟩
    ·refine ⟨h1,?_⟩
     rw [aK h1]
     split
     ·omega
     ·exact h2
  have hw : ∀ b,b<g.length→wt g (out.set c q) b≤wt g out b∧(b=c→wt g (out.set c q) b<wt g out b):=by
   intro b hb
   by_cases h:c=b
   ·subst h
    have e1:wt g (out.set c q) c=rk g q:=by
     unfold wt
     rw [hn c hb,if_pos rfl,if_neg (by omega),hst];simp [upd]
    have e2:rk g q<wt g out c:=by
     unfold wt
     split
     ·exact Ej hq
     ·rename_i h1
      have hp:pd out c:=⟨by omega,by omega⟩
      rcases G.inv.Gp T hp with h2 | h2
      ·exfalso
       have:=Int.toNat_of_nonneg hp.2
       unfold st at h2
       omega
      ·exact h2
    omega
   ·have e1:wt g (out.set c q) b=wt g out b:=by
     unfold wt st
     rw [hn b hb,if_neg h]
    exact ⟨by omega,fun e=>absurd e.symm h⟩
  have hmu:mu g (out.set c q)<mu g out:=CX (fun b hb=>(hw b hb).1) hlt ((hw c hlt).2 rfl)
  refine ⟨⟨by simpa using hol,fun b hb=>?_,by rw [hst,hpd];exact I⟩,by show mu g (out.set c q)≤_;omega,fun _=>.inr hmu,fun h=>by cases h⟩
  rw [hn b hb]
  split
  ·right;omega
  ·exact G.rng b hb
theorem tj (C:Ch (Rg g) (rk g) (Eg g) f (Dm g)) : ∀ (l:List Int) (k:Nat) (out:List Int) (ch:Bool),l=(bg g).drop k→1≤k→k≤(bg g).length→Good g f k out→
  ∃ out' ch',nZ (eE g.length (bg g)) (cR g) g.length l (out,ch)=some (out',ch')∧Good g f (bg g).length out'∧mu g out'≤mu g out∧(ch'=true→ch=true∨mu g out'<mu g out)∧
   (ch'=false→ch=false∧out'=out∧∀ c:Nat,(c:Int)∈l→pd out c∧Turn (Rg g) (rk g) (Eg g) (st out) (pd out) c (st out c))
 | [],k,out,ch,hl,_,hk,G=>by
  have hk2:(bg g).length≤k:=by
   have:=congrArg List.length hl
   simp only [List.length_nil,List.length_drop] at this;omega
  obtain rfl:k=(bg g).length:=by omega
  exact ⟨out,ch,rfl,G,Nat.le_refl _,.inl,fun h=>⟨h,rfl,by simp⟩⟩
 | b::l,k,out,ch,hl,h1,hk,G=>by
  have hlt:k<(bg g).length:=by
   have:=congrArg List.length hl
   simp only [List.length_cons,List.length_drop] at this;omega
  rw [List.drop_eq_getElem_cons hlt] at hl
  obtain ⟨hb,hl2⟩:=List.cons.inj hl
  have hmem:b∈bg g:=by rw [hb];exact List.getElem_mem _
  have hg:0<g.length:=by have:=nY (g:=g);omega
  have O:=iD hg
  have hr:=O.rng b hmem
  obtain ⟨c,rfl⟩:=Int.eq_ofNat_of_zero_le hr.1
  have hR:Rg g c:=(O.mem c).1 hmem
  have hrk:rk g c=k:=by
   unfold rk;rw [hb,List.Nodup.idxOf_getElem O.nodup]
  have hc0:c≠0:=fun e=>by subst e;rw [qQ hg] at hrk;omega
  obtain ⟨q,h3,T⟩:=AG G C hR hc0 hrk
  rw [nZ,if_pos hr,Int.toNat_natCast]
  simp only
  rw [h3]
  simp only [Option.bind_some]
  obtain ⟨g1,g2,g3,g4⟩:=G.set C hR hc0 hrk T ch
  have e:setS out ch c q=((setS out ch c q).1,(setS out ch c q).2):=rfl
  rw [e]
  generalize hs1:(setS out ch c q).1=o1 at g1 g2 g3 g4
  generalize hs2:(setS out ch c q).2=c1 at g3 g4
  obtain ⟨out',ch',k1,k2,k3,k4,k5⟩:=tj C l (k+1) o1 c1 hl2 (by omega) (by omega) g1
  refine ⟨out',ch',k1,k2,by omega,fun h=>?_,fun h=>?_⟩
  ·rcases k4 h with h4 | h4
   ·rcases g3 h4 with h5 | h5
    ·exact .inl h5
    ·exact .inr (by omega)
   ·exact .inr (by omega)
  ·obtain ⟨h4,rfl,h6⟩:=k5 h
   obtain ⟨h7,rfl,h8,h9⟩:=g4 h4
   refine ⟨h7,rfl,fun x hx=>?_⟩
   rcases List.mem_cons.1 hx with hx | hx
   ·obtain rfl:x=c:=by omega
    exact ⟨h9,h8▸T⟩
   ·exact h6 x hx
theorem Good.one (hg:0<g.length) (G:Good g f 0 out):Good g f 1 out:=by
 have I:=G.inv
 have h0 : ∀ b,Rg g b→b≠0→¬rk g b<1:=fun b hR hb h=>hb (zA hR (.root hg (by decide)) (by rw [qQ hg];omega))
 exact ⟨G.len,G.rng,⟨I.pr,fun b hR hb h=>absurd h (h0 b hR hb),I.fok,I.K,fun b hb y hy _=>I.FP b hb y hy (by omega),fun b hb h=>absurd h (h0 b (I.pr b hb).1 (I.pr b hb).2.1),I.S⟩⟩
structure mo (g:Gr) (f:Nat→Nat) (l:List Int):Prop where
 good:Good g f (bg g).length l
 turn : ∀ c,Rg g c→c≠0→pd l c∧Turn (Rg g) (rk g) (Eg g) (st l) (pd l) c (st l c)
theorem tO (hg:0<g.length) (C:Ch (Rg g) (rk g) (Eg g) f (Dm g)) : ∀ (fuel:Nat) (out:List Int),Good g f 0 out→mu g out<fuel→
  ∃ l,kE (eE g.length (bg g)) (cR g) g.length ((bg g).drop (min 1 (bg g).length)) fuel out=some l∧mo g f l
 | 0,_,_,h=>by omega
 | fuel+1,out,G,h=>by
  have O:=iD hg
  have hlen:0<(bg g).length:=by
   rcases Nat.eq_zero_or_pos (bg g).length with h | h
   ·have:=O.head;rw [List.eq_nil_of_length_eq_zero h] at this;cases this
   ·exact h
  have hm:min 1 (bg g).length=1:=by omega
  rw [kE,hm]
  obtain ⟨out',ch',k1,k2,k3,k4,k5⟩:=tj C ((bg g).drop 1) 1 out false rfl (Nat.le_refl _) hlen (G.one hg)
  rw [k1]
  simp only [Option.bind_some]
  cases ch' with
  | true=>
   rw [if_pos rfl]
   have:=tO hg C fuel out' ⟨k2.len,k2.rng,k2.inv.again fun b hb=>zI hb⟩ (by rcases k4 rfl with h1 | h1;cases h1;omega)
   rwa [hm] at this
  | false=>
   rw [if_neg (by simp)]
   obtain ⟨_,rfl,h6⟩:=k5 rfl
   refine ⟨_,rfl,k2,fun c hR hc=>h6 c ?_⟩
   have hmem:=(O.mem c).2 hR
   obtain ⟨i,hi,e⟩:=List.getElem_of_mem hmem
   have hi0:i≠0:=fun h0=>by
    subst h0
    have:=O.head
    rw [List.getElem?_eq_getElem hi] at this
    have:=Option.some.inj this
    omega
   rw [←e]
   refine List.mem_iff_getElem.2 ⟨i-1,by rw [List.length_drop];omega,?_⟩
   rw [List.getElem_drop]
   congr 1
   omega
theorem uM (hg:0<g.length) : ∃ f,Ch (Rg g) (rk g) (Eg g) f (Dm g)∧∃ l,uu g (g.length*g.length+1)=some l∧mo g f l:=by
 obtain ⟨f,hf⟩:=Dg hg
 have C:=GJ hg hf
 refine ⟨f,C,?_⟩
 refine tO hg C _ _ ⟨by simp,fun b hb=>.inl (au hb),?_⟩ ?_
 ·have:pd (List.replicate g.length (-1))=fun _=>False:=by
   funext b
   refine propext ⟨fun ⟨h1,h2⟩=>?_,fun h=>h.elim⟩
   rw [au (by simpa using h1)] at h2
   omega
  rw [this]
  exact Inv.start
 ·have:=tY (w:=wt g (List.replicate g.length (-1))) (m:=g.length) (n:=g.length) fun b hb=>by
   unfold wt
   rw [au hb,if_pos (by omega)]
   exact Nat.le_refl _
  unfold mu;omega
theorem mo.anc {l:List Int} (I:mo g f l) (C:Ch (Rg g) (rk g) (Eg g) f (Dm g)) {x b:Nat} (hb:Rg g b):Anc (st l) x b↔Dm g x b:=by
 have hok : ∀ b,Rg g b→Ok (pd l) b:=fun b h=>by
  by_cases e:b=0
  ·exact .inl e
  ·exact .inr (I.turn b h e).1
 constructor
 ·intro h
  have hx:=(I.good.yk C (I.good.inv.anc h (hok b hb)).1).1
  refine lS.2 ⟨hx,hb,fun hre=>?_⟩
  have key : ∀ b,Re g x b→¬Anc (st l) x b:=by
   intro b hre
   induction hre with
   | root h1 h2=>intro h;have:=pt.1 h;omega
   | step ha he hne ih=>
    rename_i a b
    intro h
    by_cases e:b=0
    ·subst e;have:=pt.1 h;omega
    ·have hRb:Rg g b:=.step ha.all he (by omega)
     have h3:=((lj e).1 h).resolve_left (by omega)
     exact ih (((I.turn b hRb e).2.q x).1 h3 a he ha.all (hok a ha.all))
  exact key b hre h
 ·intro h
  exact I.good.inv.dom C (hok b hb) h
end
end Go.Proofs.Ytfelpjfopgiabaa
namespace Go.Proofs.Ytfelpjfopgiabaa
open Go Go.Lft Chk
theorem zU {p:Nat→Bool} {n:Nat}:qq p n=true↔∀ i,i<n→p i=true:=by
 unfold qq
 induction n with
 | zero=>simp [up]
 | succ n ih=>
  rw [up,Aj,Bool.and_eq_true,ih]
  constructor
  ·rintro ⟨h1,h2⟩ i hi
   rcases Nat.lt_or_ge i n with h | h
   ·exact h1 i h
   ·obtain rfl:i=n:=by omega
    exact h2
  ·intro h
   exact ⟨fun i hi=>h i (by omega),h n (by omega)⟩
section
variable {g:Gr} {f:Nat→Nat} {l:List Int}
theorem mo.none (I:mo g f l) {b:Nat} (hb:b<g.length) (h:¬Rg g b∨b=0):nth l b=-1:=by
 rcases I.good.rng b hb with h1 | h1
 ·exact h1
 ·exfalso
  have:=I.good.inv.pr b ⟨by rw [I.good.len];exact hb,h1.1⟩
  rcases h with h | h
  ·exact h this.1
  ·exact this.2.1 h
theorem Bf {a:Int} (ha:0≤a) : ∀ k,mH l a k (-1)=false
 | 0=>rfl
 | k+1=>by rw [mH,if_neg (by omega),if_pos (.inl (by omega))]
theorem sr (I:mo g f l) (C:Ch (Rg g) (rk g) (Eg g) f (Dm g)) {a:Nat} : ∀ (k b:Nat),Rg g b→rk g b<k→(mH l a k b=true↔Anc (st l) a b)
 | 0,b,_,h=>by omega
 | k+1,b,hb,h=>by
  have hlt:=hb.lt
  have hll:=I.good.len
  rw [mH]
  by_cases e:(b:Int)=a
  ·rw [if_pos e]
   have:a=b:=by omega
   subst this
   exact ⟨fun _=>.self,fun _=>rfl⟩
  ·rw [if_neg e,if_neg (by omega),Int.toNat_natCast]
   by_cases h0:b=0
   ·subst h0
    rw [I.none hlt (.inr rfl),Bf (by omega),pt]
    constructor
    ·intro h;cases h
    ·intro h;omega
   ·obtain ⟨hp,_⟩:=I.turn b hb h0
    obtain ⟨h1,h2,h3,h4⟩:=I.good.inv.pr b hp
    have e2:nth l b=((st l b:Nat):Int):=(Int.toNat_of_nonneg hp.2).symm
    rw [e2,sr I C k (st l b) (I.good.inv.okR C h3) (by omega),lj h0]
    exact ⟨.inr,fun h=>h.resolve_left (by omega)⟩
theorem oC (I:mo g f l) (C:Ch (Rg g) (rk g) (Eg g) f (Dm g)) {a b:Nat} (ha:a<g.length) (hb:Rg g b):dA l a b=domC g a b:=by
 have hlt:=hb.lt
 have hll:=I.good.len
 rw [dA,decide_eq_true (by omega),Bool.true_and,Bool.eq_iff_iff,sr I C _ _ hb (by have:=Ej hb;omega),I.anc C hb]
 rfl
end
end Go.Proofs.Ytfelpjfopgiabaa
namespace Go.Proofs.Ytfelpjfopgiabaa
open Go Go.Lft
theorem B6 {l:List Int} {x:Int} {v:Value} {h:Heap} (hl:SlRd (vw h) v l):aI Try.prog N.slices_Index_int #[v,.int .i64 x] h (fun u h'=>(∃ r:Int,u = .int .i64 r∧(0≤r↔x∈l))∧h'=h):=by
 refine aA (args:=[v,.int .i64 x]) follows F.slices_Index_int E.slices_Index_int (Nat.le_of_ble_eq_true (by kernel_rfl)) fun K hK=>?_
 have bl:=hl.bound
 simp [L.slices_Index_int,hl.len]
 refine bc [0,1,7,8] (fun (_:Unit) i=>[v,.int .i64 x,.int .i64 l.length,.int .i64 i]) (fun _ i h1=>h1=h∧∀ j,j<i→nth l j≠x) l.length ()
  rfl (by omega) rfl ⟨rfl,fun j hj=>by omega⟩ (fun _ _=>rfl) (fun v i h1 hk m=>by simp) ?_ ?_
 ·rintro _ i h hlt ⟨rfl,hpre⟩ K2 hK2
  simp (disch:=omega) [hl.idx1 rfl,hl.int (View.le_refl _)]
  refine ⟨fun e=>hK _ _ ⟨⟨i,rfl,by simp;rw [e];exact bU hlt⟩,rfl⟩,fun e=>hK2 () _ _ rfl rfl ⟨rfl,fun j hj=>?_⟩⟩
  rcases Nat.lt_or_ge j i with h | h
  ·exact hpre j h
  ·have:j=i:=by omega
   subst this;exact fun e2=>e e2.symm
 ·rintro _ h ⟨rfl,hpre⟩
  simp
  refine hK _ _ ⟨⟨-1,rfl,by simp;intro hm;obtain ⟨j,hj,e⟩:=List.getElem_of_mem hm;exact hpre j hj (by rw [aq hj];exact e)⟩,rfl⟩
theorem qp {l:List Int} {x:Int} {v:Value} {h:Heap} (hl:SlRd (vw h) v l):aI Try.prog N.slices_Contains_int #[v,.int .i64 x] h (fun u h'=>u = .bool (l.contains x)∧h'=h):=by
 refine aA (args:=[v,.int .i64 x]) follows F.slices_Contains_int E.slices_Contains_int (Nat.le_of_ble_eq_true (by kernel_rfl)) fun K hK=>?_
 simp [L.slices_Contains_int]
 refine aj (by kernel_rfl) (B6 hl) ?_
 rintro _ _ ⟨⟨r,rfl,hr⟩,rfl⟩
 simp
 exact hK _ _ ⟨by simp [←hr],rfl⟩
def ofG (l:List BlkD):Gr:=rows (fun i=>js (nth l i).term.to l.length) l.length
theorem zb {l:List BlkD} {v:Value} {p:Int} {h:Heap} (hv:SlRd (vw h) v l) (hl:l.length≤1000000) (hs : ∀ i,i<l.length→(nth l i).term.to.length≤1000000) :
  aI Try.prog N.gn #[.agg #[.int .i64 p,v]] h (fun u h'=>(vw h).le (vw h')∧SlRd (fresh h h') u (ofG l)):=by
 refine aA (args:=[.agg #[.int .i64 p,v]]) follows F.gn E.gn (Nat.le_of_ble_eq_true (by kernel_rfl)) fun K hK=>?_
 obtain ⟨hvc,hvo⟩:=hv.cells
 simp [L.gn]
 refine jU (v:=.agg #[.int .i64 p,v]) (by simp) ?_
 have hle1:=bJ h (.cells (Value.agg #[.int .i64 p,v]).cells T.aE)
 have hc1:ao (vw (h.push (.cells (Value.agg #[.int .i64 p,v]).cells T.aE))) ⟨h.size,1,none⟩=some v:=bV (c:=#[.int .i64 p,v]) (T:=T.aE) (fz:=(0,0)) (by simp [vw,Value.cells]) rfl
 generalize h.push (.cells (Value.agg #[.int .i64 p,v]).cells T.aE)=h1 at hle1 hc1
 have hv1:=hv.mono hle1
 simp [hc1,hv1.len]
 refine Mine.made (α:=List Int) (V:=nothing) (W:=nothing) (h0:=h1) (n:=l.length) (d:=[]) El.hZ (View.le_refl _) (fun _ _ h=>by cases h) (Old.nothing _ _) (by simp<;>rfl) (by simp<;>rfl) Cw (by omega) (by omega) fun o h2 m hle2 _=>?_
 have hc2:=ah hle2 hc1
 have hv2:=hv1.mono hle2
 simp [hc2,hv2.len]
 refine bc [1,3,11,12,13] (fun (_:View) k=>[.pointer (some ⟨h.size,0,none⟩),o,v,.int .i64 l.length,.int .i64 k]) (fun W k h3=>Mine nothing h1 h3 W T.aP o (rows (fun i=>js (nth l i).term.to l.length) k++List.replicate (l.length-k) [])) l.length nothing
  rfl (by omega) rfl m (fun _ _=>rfl) (fun v k h1 hk m=>by simp) ?_ ?_
 ·rintro W a h3 hlta m K2 hK2
  have hle3:=m.old
  have hc3:=ah hle3 hc1
  have hv3:=hv1.mono hle3
  obtain ⟨u,hu1,hu2⟩:=hv3.wh rfl (N:=6) rfl hlta
  have hal:=hs a hlta
  have hl5:(rows (fun i=>js (nth l i).term.to l.length) a++List.replicate (l.length-a) ([]:List Int)).length=l.length:=by simp;omega
  refine aa fun z hz=>?_
  simp (disch:=omega) [hv3.idxn (N:=6) rfl,hu1 _ (View.le_refl _)]
  refine dU (z:=.agg #[.slice none 0 0,.slice none 0 0,.int .i64 0,.slice none 0 0,.slice none 0 0,.int .i32 0]) (by kernel_rfl) rfl (by kernel_rfl) hu2 (fun _=>by simp) (fun _=>by simp) fun h4 hle4 hsz4 hat=>?_
  obtain ⟨vp,vi,va,vt,bp,bi,bk,ba,bt⟩:=kh (hat (vw h4) hle4 rfl)
  have hc4:=ah hle4 hc3
  have hv4:=hv3.mono hle4
  rw [hz];clear hz z
  simp [bt.1,hc4,hv4.len]
  refine aj (by kernel_rfl) (Ah bt.2 (by omega)) ?_
  rintro r h5 ⟨W',mr⟩
  have m5:=(m.ext' hle4).ext mr.old
  have hr:=mr.fresh.mono (gP W _ _)
  simp (disch:=omega) [m5.now.idx1 rfl]
  refine m5.put1 (α:=List Int) (i:=a) (by kernel_rfl) rfl (by simp) (by simp<;>rfl) (by omega) (fB.2 hr) fun h6 m6=>hK2 (grow W h4 h5) _ _ rfl rfl ?_
  rw [mh (x:=fun i=>js (nth l i).term.to l.length) hlta] at m6
  exact m6
 ·rintro W h3 m
  simp at m
  simp
  exact hK _ _ ⟨View.le_trans hle1 m.old,m.fresh.mono (sQ hle1)⟩
def jx (w:Int × Int) (idom:List Int) (blk at_:Int):Bool:=(decide (w.1=blk)&&(decide (w.2<at_)||decide (w.2<0)))||(!decide (w.1=blk)&&dA idom w.1 blk)
def useS (ps:Int) (m:MW) (idom:List Int) (v blk place at_ told:Int):Except Tr Unit:=
 if 0≤v∧v<ps then .ok () else match m v with
  | none=>.error (13,told,place)
  | some w=>if jx w idom blk at_ then .ok () else .error (13,told,place)
theorem zz {Kb r:Nat} {vb vd:Value} {f:ak} {m:MW} {idom:List Int} {h:Heap} {p5 p6:Addr} {v blk place at_ told:Int} (k:Lk h Kb r vb f m) (h5:ao (vw h) p5=some (.pointer (some ⟨Kb,0,none⟩))) (h6:ao (vw h) p6=some vd) (hd:SlRd (vw h) vd idom) :
  eT Try.prog N.aR #[.int .i64 v,.int .i64 blk,.int .i64 place,.int .i64 at_,.int .i64 told,.pointer (some p5),.pointer (some p6)] h (fun _ h'=>useS f.params m idom v blk place at_ told = .ok ()∧(vw h).le (vw h'))
   (fun ch h'=>∃ t,useS f.params m idom v blk place at_ told = .error t∧ch=trV t∧(vw h).le (vw h')):=by
 refine fX (args:=[.int .i64 v,.int .i64 blk,.int .i64 place,.int .i64 at_,.int .i64 told,.pointer (some p5),.pointer (some p6)]) follows F.aR E.aR (Nat.le_of_ble_eq_true (by kernel_rfl)) fun K Kp hK hKp=>?_
 dsimp only [L.aR]
 by_cases hp:0≤v∧v<f.params
 ·simp [h5,ah bZ k.c0,hp]
  exact hK _ _ ⟨by simp [useS,hp],View.le_refl _⟩
 ·have hu:useS f.params m idom v blk place at_ told=match m v with
    | none=>.error (13,told,place)
    | some w=>if jx w idom blk at_ then .ok () else .error (13,told,place):=by rw [useS,if_neg hp]
  rw [hu] at hK hKp
  refine aa fun z hz=>?_
  have hc:(decide (0≤v)&&decide (v<f.params))=false:=by
   rw [Bool.eq_false_iff];intro e;exact hp (by simpa using e)
  simp [h5,ah bZ k.c0,hc]
  rw [hz];clear hz z
  refine aa fun z hz=>?_
  simp [h5,ah bZ k.c2]
  refine jH (z:=.agg #[.int .i64 0,.int .i64 0]) U.eK U.int (by kernel_rfl) (by simp<;>rfl) (by simp<;>rfl) lk k.map ?_
  have cellsW:((mapE encW m (.int .i64 v))).getD (.agg #[.int .i64 0,.int .i64 0])=encW ((m v).getD (0,0)):=by rw [mz];cases m v<;>rfl
  have isW:(mapE encW m (.int .i64 v)).isSome=(m v).isSome:=by rw [mz];cases m v<;>rfl
  rw [cellsW,isW]
  simp
  refine gM (n:=2) (v:=encW ((m v).getD (0,0))) (z:=.agg #[.int .i64 0,.int .i64 0]) (by kernel_rfl) rfl (by kernel_rfl) rfl (by simp [encW,Value.oneCell']) (fun _=>by simp) (fun _=>by simp) fun h3 hle3 hsz3 hb3=>?_
  have d0:ao (vw h3) ⟨h.size,0,none⟩=some (.int .i64 ((m v).getD (0,0)).1):=bV (show vw h3 h.size=_ from hb3) rfl
  have d1:ao (vw h3) ⟨h.size,1,none⟩=some (.int .i64 ((m v).getD (0,0)).2):=bV (show vw h3 h.size=_ from hb3) rfl
  have h63:=ah hle3 h6
  have hd3:=hd.mono hle3
  generalize h.size=B at d0 d1
  rw [hz];clear hz z
  have fin : ∀ (ok:Bool) (h4:Heap) (ρ:Env) (z:LC),(vw h).le (vw h4)→(∀ w,m v=some w→ok=jx w idom blk at_)→(m v=none→ok=false)→z = .reg false (.loud [65,66,67] [] [(65,.tmp 13),(66,.tmp 4),(67,.tmp 2)] none [] false (.call ⟨.value (.func N.ei),#[.tmp 65,.const (.int .i64 13),.tmp 66,.tmp 67],#[T.bool,T.kH,T.int,T.int]⟩) 0 (some 68) false (.fin [] [] []))→
    Lft.look ρ 13=some (.bool ok)→Lft.look ρ 4=some (.int .i64 told)→Lft.look ρ 2=some (.int .i64 place)→@LC.wp (ppOf Kp) Try.prog z (@dG [] K) ρ h4:=by
   rintro ok h4 ρ _ hle4 hs hn rfl e13 e4 e2
   simp [e13,e4,e2]
   refine de (by kernel_rfl) fQ ?_ ?_
   ·rintro _ _ ⟨e,rfl⟩
    refine hK _ _ ⟨?_,hle4⟩
    cases hm:m v with
    | none=>rw [hn hm] at e;cases e
    | some w=>simp only;rw [if_pos (by rw [←hs w hm];exact e)]
   ·rintro _ _ ⟨e,rfl,rfl⟩
    refine ⟨.inl rfl,hKp _ _ ⟨_,?_,rfl,hle4⟩⟩
    cases hm:m v with
    | none=>rfl
    | some w=>simp only;rw [if_neg (by rw [←hs w hm,e];simp)]
  refine aa fun z hz=>?_
  cases hm:m v with
  | none=>
   rw [hm] at d0 d1
   simp [d0,d1]
   refine fin false _ _ _ hle3 (fun w hw=>by rw [hm] at hw;cases hw) (fun _=>rfl) hz ?_ ?_ ?_<;>simp
  | some w=>
   rw [hm] at d0 d1
   simp at d0 d1
   by_cases c1:w.1=blk
   ·by_cases c2:w.2<at_
    ·simp [d0,d1,c1,c2]
     refine fin true _ _ _ hle3 (fun w' hw=>by rw [hm] at hw;cases hw;simp [jx,c1,c2]) (fun e=>by simp [hm] at e) hz ?_ ?_ ?_<;>simp
    ·by_cases c3:w.2<0
     ·simp [d0,d1,c1,c2,c3]
      refine fin true _ _ _ hle3 (fun w' hw=>by rw [hm] at hw;cases hw;simp [jx,c1,c2,c3]) (fun e=>by simp [hm] at e) hz ?_ ?_ ?_<;>simp
     ·simp [d0,d1,c1,c2,c3]
      refine fin false _ _ _ hle3 (fun w' hw=>by rw [hm] at hw;cases hw;simp [jx,c1,c2,c3]) (fun e=>by simp [hm] at e) hz ?_ ?_ ?_<;>simp
   ·simp [d0,d1,c1,h63]
    refine aj (by kernel_rfl) (vK hd3) ?_
    rintro _ h4 ⟨rfl,hle4⟩
    refine fin _ _ _ _ (View.le_trans hle3 hle4) (fun w' hw=>by rw [hm] at hw;cases hw;simp [jx,c1];rfl) (fun e=>by simp [hm] at e) hz ?_ ?_ ?_<;>simp
end Go.Proofs.Ytfelpjfopgiabaa
namespace Go.Proofs.Ytfelpjfopgiabaa
open Go Go.Lft
def ja (x:PhiD) (row:List Int) (b:Nat):Bool:=decide (0<b)&&decide ((x.ins.length:Int)=(row.length:Int))
def uw (x:PhiD) (row:List Int) (j:Nat):Bool:=decide ((nth x.ins j).frm=nth row j)
def xQ (x:PhiD) (row:List Int) (b:Nat):Bool:=ja x row b&&qq (uw x row) x.ins.length
def uAll (g:Nat→Except Tr Unit) (n:Nat):Except Tr Unit:=upE (fun i _=>g i) n ()
def phiU (f:ak) (m:MW) (idom:List Int) (preds:Gr) (b i:Nat):Except Tr Unit:=
 let x:=nth (nth f.blocks b).phis i
 if xQ x (nth preds b) b then uAll (fun j=>useS f.params m idom (nth x.ins j).val (nth x.ins j).frm (-1-i) (nth f.blocks (nth x.ins j).frm.toNat).ins.length b) x.ins.length else .error (16,b,-1-i)
def insU (f:ak) (m:MW) (idom:List Int) (b i:Nat):Except Tr Unit:=
 uAll (fun j=>useS f.params m idom (nth (nth (nth f.blocks b).ins i).args j) b i i b) (nth (nth f.blocks b).ins i).args.length
def endU (f:ak) (m:MW) (idom:List Int) (b:Nat):Except Tr Unit:=
 uAll (fun j=>useS f.params m idom (nth (nth f.blocks b).term.args j) b (nth f.blocks b).ins.length (nth f.blocks b).ins.length b) (nth f.blocks b).term.args.length
def andE (x y:Except Tr Unit):Except Tr Unit:=match x with | .ok _=>y | .error t=>.error t
def blkU (f:ak) (m:MW) (idom:List Int) (preds:Gr) (b:Nat):Except Tr Unit:=
 andE (uAll (phiU f m idom preds b) (nth f.blocks b).phis.length) (andE (uAll (insU f m idom b) (nth f.blocks b).ins.length) (endU f m idom b))
def pY (f:ak) (b:Nat):Except Tr Unit:=if decide ((b:Int)∈bg (ofG f.blocks)) then .ok () else .error (15,b,0)
def oK (f:ak) (m:MW) (idom:List Int):Except Tr Unit:=
 andE (uAll (pY f) f.blocks.length) (uAll (blkU f m idom (cR (ofG f.blocks))) f.blocks.length)
theorem lG {g:Nat→Except Tr Unit} {n k:Nat} {t:Tr} (h:uAll g k = .ok ()) (hk:k<n) (he:g k = .error t):uAll g n = .error t:=wL h hk he
theorem iR {g:Nat→Except Tr Unit} {k:Nat} (h:uAll g k = .ok ()):uAll g (k+1)=g k:=kN h
theorem CO {H:View} {B:Nat} {u v:Value} (h0:ao H ⟨B,0,none⟩=some u) (h1:ao H ⟨B,1,none⟩=some v):Un.ev H (.an 2) (.pointer (some ⟨B,0,none⟩))=some (.agg #[u,v]):=by
 simp [Un.ev,vP,dc,h0,h1]
theorem Ft {l:List BlkD} (hl:l.length≤1000000) (hs : ∀ i,i<l.length→(nth l i).term.to.length≤1000000):Sm (ofG l):=by
 have hlen:(ofG l).length=l.length:=by simp [ofG]
 refine ⟨by omega,fun i hi=>?_⟩
 rw [hlen] at hi
 rw [ofG,dq hi]
 exact Nat.le_trans tG (hs i hi)
theorem DD {Kb r:Nat} {vb:Value} {f:ak} {m:MW} {idom:List Int} {fuel:Nat} {h:Heap} (k:Lk h Kb r vb f m) (hn:f.blocks.length≤1000000) (hto : ∀ i,i<f.blocks.length→(nth f.blocks i).term.to.length≤1000000) (hd:uu (ofG f.blocks) fuel=some idom) :
  eT Try.prog N.aC #[.pointer (some ⟨Kb,0,none⟩)] h (fun _ h'=>oK f m idom = .ok ()∧(vw h).le (vw h')) (fun ch h'=>∃ t,oK f m idom = .error t∧ch=trV t∧(vw h).le (vw h')):=by
 refine fX (args:=[.pointer (some ⟨Kb,0,none⟩)]) follows F.aC E.aC (Nat.le_of_ble_eq_true (by kernel_rfl)) fun K Kp hK hKp=>?_
 have hbb:=k.rb.bound
 have hsm:=Ft hn hto
 have hgl:(ofG f.blocks).length=f.blocks.length:=by simp [ofG]
 dsimp only [L.aC]
 refine aa fun z hz=>?_
 simp
 refine jU (v:=.pointer (some ⟨Kb,0,none⟩)) (by simp) ?_
 have hle1:=bJ h (.cells (Value.cells (.pointer (some ⟨Kb,0,none⟩))) T.jO)
 have h51:ao (vw (h.push (.cells (Value.cells (.pointer (some ⟨Kb,0,none⟩))) T.jO))) ⟨h.size,0,none⟩=some (.pointer (some ⟨Kb,0,none⟩)):=by simp [ao,vw]
 generalize h.push (.cells (Value.cells (.pointer (some ⟨Kb,0,none⟩))) T.jO)=h1 at hle1 h51
 generalize h.size=B at h51
 have k1:=k.ext hle1
 rw [hz];clear hz z
 refine aa fun z hz=>?_
 simp [h51,CO (ah bZ k1.c0) (ah bZ k1.c1)]
 refine aj (by kernel_rfl) (zb (k1.rb.mono bZ) hn hto) ?_
 rintro vg h2 ⟨hle2,hg⟩
 have hg2:=hg.mono (gl _ _)
 rw [hz];clear hz z
 refine aa fun z hz=>?_
 simp
 refine aj (by kernel_rfl) (xC hg2 hsm) ?_
 rintro vo h3 ⟨hle3,ho⟩
 have ho3:=ho.mono (gl _ _)
 have hg3:=hg2.mono hle3
 have hle13:=View.le_trans hle2 hle3
 have k3:=k1.ext hle13
 have h53:=ah hle13 h51
 have hle03:=View.le_trans hle1 hle13
 rw [hz];clear hz z
 refine aa fun z hz=>?_
 simp [h53,ah bZ k3.c1,k3.rb.len]
 refine bc [0,1,2,3,35,36] (fun (_:Unit) b=>[.pointer (some ⟨Kb,0,none⟩),.pointer (some ⟨B,0,none⟩),vg,vo,.int .i64 f.blocks.length,.int .i64 b]) (fun _ b h4=>h4=h3∧uAll (pY f) b = .ok ()) f.blocks.length ()
  rfl (by omega) rfl ⟨rfl,rfl⟩ (fun _ _=>rfl) (fun v i h1 hk m=>by simp) ?_ ?_
 ·rintro _ b h3 hlt ⟨rfl,hpre⟩ K2 hK2
  simp
  refine aj (by kernel_rfl) (qp ho3) ?_
  rintro _ _ ⟨rfl,rfl⟩
  simp
  refine de (by kernel_rfl) fQ ?_ ?_
  ·rintro _ _ ⟨e,rfl⟩
   exact hK2 () _ _ rfl rfl ⟨rfl,by rw [iR hpre,pY,if_pos e]⟩
  ·rintro _ _ ⟨e,rfl,rfl⟩
   exact ⟨.inl rfl,hKp _ _ ⟨_,by rw [oK,lG hpre hlt (by rw [pY,if_neg (by rw [e];simp)])];rfl,rfl,hle03⟩⟩
 ·rintro _ h3 ⟨rfl,hreach⟩
  have hus:oK f m idom=uAll (blkU f m idom (cR (ofG f.blocks))) f.blocks.length:=by rw [oK,hreach];rfl
  rw [hus] at hK hKp
  simp
  rw [hz];clear hz z
  refine aa fun z hz=>?_
  simp
  refine aj (by kernel_rfl) (yB hg3 hsm) ?_
  rintro vp h4 ⟨hle4,hp⟩
  have hp4:=hp.mono (gl _ _)
  refine aj (by kernel_rfl) (Eb (hg3.mono hle4) hsm hd) ?_
  rintro vi h5 ⟨W,mi⟩
  have hi5:=mi.now
  refine dU (α:=List Int) (z:=.slice none 0 0) (X:=vw h5) (by kernel_rfl) rfl (by kernel_rfl) (fB.2 hi5) (fun _=>by simp) (fun _=>by simp) fun h6 hle6 hsz6 hat=>?_
  obtain ⟨vd,hvd,hd6⟩:=(hat (vw h6) hle6 rfl).sl
  generalize h5.size=C at hvd
  rw [hz];clear hz z
  have hle36:=View.le_trans hle4 (View.le_trans mi.old hle6)
  have hp6:=hp4.mono (View.le_trans mi.old hle6)
  have k6:=k3.ext hle36
  have h56:=ah hle36 h53
  have hle06:=View.le_trans hle03 hle36
  have hpl:(cR (ofG f.blocks)).length=f.blocks.length:=by rw [mG,hgl]
  have hin : ∀ b,∀ x∈nth (cR (ofG f.blocks)) b,0≤x∧x<f.blocks.length:=by
   rw [←hgl]
   exact pW (fun e he=>(mN he).1) (fun i x hx=>by
    rcases Nat.lt_or_ge i (ofG f.blocks).length with hi | hi
    ·rw [au hi] at hx;cases hx
    ·rw [aV (by simpa using hi)] at hx;cases hx)
  generalize cR (ofG f.blocks)=preds at hp6 hpl hin hK hKp
  obtain ⟨pv,hpv⟩:=hp6.rows
  simp [h56,ah bZ k6.c1,k6.rb.len]
  refine bc [1,5,7,54,55,56] (fun (_:Unit) b=>[.pointer (some ⟨B,0,none⟩),vp,.func (.func N.aR) #[] #[.pointer (some ⟨B,0,none⟩),.pointer (some ⟨C,0,none⟩)],vb,.int .i64 f.blocks.length,.int .i64 b]) (fun _ b h7=>(vw h6).le (vw h7)∧uAll (blkU f m idom preds) b = .ok ()) f.blocks.length ()
   rfl (by omega) rfl ⟨View.le_refl _,rfl⟩ (fun _ _=>rfl) (fun v i h1 hk m=>by simp) ?_ ?_
  ·rintro _ b h7 hltb ⟨hle7,hpre⟩ K2 hK2
   have k7:=k6.ext hle7
   have rb7:=k7.rb.mono bZ
   obtain ⟨u,hu,hur⟩:=rb7.wh rfl (N:=6) rfl hltb
   obtain ⟨pc,pr⟩:=hpv b (by omega)
   have hst:=iR hpre
   have her : ∀ {t},blkU f m idom preds b = .error t→uAll (blkU f m idom preds) f.blocks.length = .error t:=fun e=>lG hpre hltb e
   refine aa fun z hz=>?_
   simp (disch:=omega) [rb7.idxn (N:=6) rfl,hu _ (View.le_refl _)]
   refine dU (z:=.agg #[.slice none 0 0,.slice none 0 0,.int .i64 0,.slice none 0 0,.slice none 0 0,.int .i32 0]) (by kernel_rfl) rfl (by kernel_rfl) hur (fun _=>by simp) (fun _=>by simp) fun h8 hle8 hsz8 hat=>?_
   obtain ⟨wp,wi,wa,wt,bp,bi,bk,ba,bt⟩:=kh (hat (vw h8) hle8 rfl)
   generalize h7.size=D at bp bi bk ba bt
   rw [hz];clear hz z
   have hle68:=View.le_trans hle7 hle8
   have bph:=bp.2.bound
   have bin:=bi.2.bound
   have bar:=ba.2.bound
   refine aa fun z hz=>?_
   simp [bp.1,bp.2.len]
   refine bc [1,5,7,8,9,54,55,56,62,63,64] (fun (_:Unit) i=>[.pointer (some ⟨B,0,none⟩),vp,.func (.func N.aR) #[] #[.pointer (some ⟨B,0,none⟩),.pointer (some ⟨C,0,none⟩)],.int .i64 b,.pointer (some ⟨D,0,none⟩),vb,.int .i64 f.blocks.length,.int .i64 b,wp,.int .i64 (nth f.blocks b).phis.length,.int .i64 i])
    (fun _ i h9=>(vw h8).le (vw h9)∧uAll (phiU f m idom preds b) i = .ok ()) (nth f.blocks b).phis.length ()
    rfl (by omega) rfl ⟨View.le_refl _,rfl⟩ (fun _ _=>rfl) (fun v i h1 hk m=>by simp) ?_ ?_
   ·rintro _ i h9 hlti ⟨hle9,hpre9⟩ K3 hK3
    have hst9:=iR hpre9
    have her9 : ∀ {t},phiU f m idom preds b i = .error t→blkU f m idom preds b = .error t:=fun e=>by rw [blkU,lG hpre9 hlti e];rfl
    have bp9:=bp.2.mono hle9
    obtain ⟨u9,hu9,hur9⟩:=bp9.wh rfl (N:=2) rfl hlti
    refine aa fun y hy=>?_
    simp (disch:=omega) [bp9.idxn (N:=2) rfl,hu9 _ (View.le_refl _)]
    refine dU (z:=.agg #[.int .i64 0,.slice none 0 0]) (by kernel_rfl) rfl (by kernel_rfl) hur9 (fun _=>by simp) (fun _=>by simp) fun h10 hle10 hsz10 hat10=>?_
    obtain ⟨_,wq,cq⟩:=wD (hat10 (vw h10) hle10 rfl)
    simp only [phiU] at hst9 her9
    generalize nth (nth f.blocks b).phis i=x at cq hst9 her9
    generalize h9.size=D10 at cq
    have bq:=cq.2.bound
    rw [hy];clear hy y
    refine aa fun y hy=>?_
    have hle610:=View.le_trans hle68 (View.le_trans hle9 hle10)
    have hp10:=hp6.mono hle610
    have pr10:=pr.mono hle610
    have hbase:(decide (0<b)&&decide ((x.ins.length:Int)=((nth preds b).length:Int)))=ja x (nth preds b) b:=rfl
    simp (disch:=omega) [cq.1,cq.2.len,hp10.idx1 rfl,pc _ hle610,pr10.len]
    rw [hbase]
    rw [hy];clear hy y
    refine aa fun y hy=>?_
    simp [cq.1,cq.2.len]
    refine bc [1,5,7,8,9,10,11,12,54,55,56,62,63,64,83,84,85] (fun (_:Unit) j=>[.pointer (some ⟨B,0,none⟩),vp,.func (.func N.aR) #[] #[.pointer (some ⟨B,0,none⟩),.pointer (some ⟨C,0,none⟩)],.int .i64 b,.pointer (some ⟨D,0,none⟩),.int .i64 i,.pointer (some ⟨D10,0,none⟩),
      .bool (ja x (nth preds b) b&&qq (uw x (nth preds b)) j),vb,.int .i64 f.blocks.length,.int .i64 b,wp,.int .i64 (nth f.blocks b).phis.length,.int .i64 i,wq,.int .i64 x.ins.length,.int .i64 j])
     (fun _ j h11=>(vw h10).le (vw h11)) x.ins.length ()
     rfl (by omega) (by simp [bz];intro _;rfl) (View.le_refl _) (fun _ _=>rfl) (fun v i h1 hk m=>by simp) ?_ ?_
    ·rintro _ j h11 hltj hle11 K4 hK4
     have cq11:=cq.2.mono hle11
     obtain ⟨u11,hu11,hur11⟩:=cq11.wh rfl (N:=2) rfl hltj
     refine aa fun q hq=>?_
     simp (disch:=omega) [cq11.idxn (N:=2) rfl,hu11 _ (View.le_refl _)]
     refine dU (z:=.agg #[.int .i64 0,.int .i64 0]) (by kernel_rfl) rfl (by kernel_rfl) hur11 (fun _=>by simp) (fun _=>by simp) fun h12 hle12 hsz12 hat12=>?_
     obtain ⟨e0,e1⟩:=yU (hat12 (vw h12) hle12 rfl)
     generalize h11.size=D12 at e0 e1
     rw [hq];clear hq q
     have hle612:=View.le_trans hle610 (View.le_trans hle11 hle12)
     have hp12:=hp6.mono hle612
     have pr12:=pr.mono hle612
     cases hfit:ja x (nth preds b) b&&qq (uw x (nth preds b)) j with
     | false=>
      simp
      refine hK4 () _ _ rfl ?_ (View.le_trans hle11 hle12)
      rw [rA,←Bool.and_assoc,hfit];rfl
     | true=>
      have hlen:x.ins.length=(nth preds b).length:=by
       simp only [Bool.and_eq_true,ja,decide_eq_true_eq] at hfit
       omega
      simp (disch:=omega) [e0,hp12.idx1 rfl,pc _ hle612,pr12.idx1 rfl,pr12.int (View.le_refl _)]
      refine hK4 () _ _ rfl ?_ (View.le_trans hle11 hle12)
      rw [rA,←Bool.and_assoc,hfit];rfl
    ·rintro _ h11 hle11
     have hfs:(ja x (nth preds b) b&&qq (uw x (nth preds b)) x.ins.length)=xQ x (nth preds b) b:=rfl
     rw [hfs]
     simp
     rw [hy];clear hy y
     refine aa fun y hy=>?_
     simp (disch:=omega)
     have hle011:=View.le_trans hle06 (View.le_trans hle610 hle11)
     refine de (by kernel_rfl) fQ ?_ ?_
     rotate_left
     ·rintro _ _ ⟨e,rfl,rfl⟩
      exact ⟨.inl rfl,hKp _ _ ⟨_,her (her9 (by rw [if_neg (by rw [e];simp)])),rfl,hle011⟩⟩
     rintro _ h11 ⟨efit,rfl⟩
     rw [if_pos efit] at hst9
     have her9' : ∀ {t},uAll (fun j=>useS f.params m idom (nth x.ins j).val (nth x.ins j).frm (-1-i) (nth f.blocks (nth x.ins j).frm.toNat).ins.length b) x.ins.length = .error t→blkU f m idom preds b = .error t:=fun e=>her9 (by rw [if_pos efit];exact e)
     have hlen:x.ins.length=(nth preds b).length:=by
      simp only [Bool.and_eq_true,xQ,ja,decide_eq_true_eq] at efit
      omega
     have hfrm : ∀ j,j<x.ins.length→0≤(nth x.ins j).frm∧(nth x.ins j).frm<f.blocks.length:=fun j hj=>by
      have h1:=zU.1 (Bool.and_eq_true _ _▸efit:_∧_).2 j hj
      simp only [uw,decide_eq_true_eq] at h1
      rw [h1]
      exact hin b _ (bU (by omega))
     rw [hy];clear hy y
     have cq11:=cq.2.mono hle11
     simp [ah hle11 cq.1,cq11.len]
     refine bc [1,5,7,8,9,10,11,54,55,56,62,63,64,110,111,112] (fun (_:Unit) j=>[.pointer (some ⟨B,0,none⟩),vp,.func (.func N.aR) #[] #[.pointer (some ⟨B,0,none⟩),.pointer (some ⟨C,0,none⟩)],.int .i64 b,.pointer (some ⟨D,0,none⟩),.int .i64 i,.pointer (some ⟨D10,0,none⟩),
       vb,.int .i64 f.blocks.length,.int .i64 b,wp,.int .i64 (nth f.blocks b).phis.length,.int .i64 i,wq,.int .i64 x.ins.length,.int .i64 j])
      (fun _ j h12=>(vw h11).le (vw h12)∧uAll (fun j=>useS f.params m idom (nth x.ins j).val (nth x.ins j).frm (-1-i) (nth f.blocks (nth x.ins j).frm.toNat).ins.length b) j = .ok ()) x.ins.length ()
      rfl (by omega) rfl ⟨View.le_refl _,rfl⟩ (fun _ _=>rfl) (fun v i h1 hk m=>by simp) ?_ ?_
     ·rintro _ j h12 hltj ⟨hle12,hpre12⟩ K4 hK4
      have hst12:=iR hpre12
      have cq12:=cq11.mono hle12
      obtain ⟨u12,hu12,hur12⟩:=cq12.wh rfl (N:=2) rfl hltj
      refine aa fun q hq=>?_
      simp (disch:=omega) [cq12.idxn (N:=2) rfl,hu12 _ (View.le_refl _)]
      refine dU (z:=.agg #[.int .i64 0,.int .i64 0]) (by kernel_rfl) rfl (by kernel_rfl) hur12 (fun _=>by simp) (fun _=>by simp) fun h13 hle13 hsz13 hat13=>?_
      obtain ⟨e0,e1⟩:=yU (hat13 (vw h13) hle13 rfl)
      generalize h12.size=D13 at e0 e1
      have hf:=hfrm j hltj
      generalize hxj:nth x.ins j=w at e0 e1 hst12 hf
      rw [hq];clear hq q
      have hle613:=View.le_trans hle610 (View.le_trans hle11 (View.le_trans hle12 hle13))
      have k13:=k6.ext hle613
      have rb13:=k13.rb.mono bZ
      have h513:=ah hle613 h56
      obtain ⟨ul,hul⟩:=(((rb13.at (i:=w.frm.toNat) (by omega)).part BlkD.j0)).sl
      rw [←aq (by omega)] at hul
      have hul1:ao (vw h13) (((slA vb).add (w.frm.toNat*6)).add 1)=some ul:=hul.1
      refine cg (vw h13) (View.le_refl _) ?_
      simp (disch:=omega) [e0,e1,h513,ah bZ k13.c1,rb13.idxn (N:=6) rfl,hul1,hul.2.len]
      refine pS (ops:=[.tmp 118,.tmp 120,.tmp 122,.tmp 133,.tmp 134]) rfl (by kernel_rfl) (zz k13 h513 (ah hle613 hvd) (hd6.mono hle613)) ?_ ?_
      ·rintro _ h14 ⟨e,hle14⟩
       exact hK4 () _ _ rfl rfl ⟨View.le_trans hle12 (View.le_trans hle13 hle14),by rw [hst12];exact e⟩
      ·rintro _ h14 ⟨t,e,rfl,hle14⟩
       exact ⟨.inr fun _=>trivial,hKp _ _ ⟨t,her (her9' (lG hpre12 hltj (by rw [hxj];exact e))),rfl,View.le_trans hle06 (View.le_trans hle613 hle14)⟩⟩
     ·rintro _ h12 ⟨hle12,hpre12⟩
      simp
      exact hK3 () _ _ rfl rfl ⟨View.le_trans hle9 (View.le_trans hle10 (View.le_trans hle11 hle12)),by rw [hst9];exact hpre12⟩
   ·rintro _ h9 ⟨hle9,hpre9⟩
    have hbu:blkU f m idom preds b=andE (uAll (insU f m idom b) (nth f.blocks b).ins.length) (endU f m idom b):=by rw [blkU,hpre9];rfl
    rw [hbu] at hst her
    simp
    rw [hz];clear hz z
    refine aa fun z hz=>?_
    have bi9:=bi.2.mono hle9
    simp [ah hle9 bi.1,bi9.len]
    refine bc [1,5,7,8,9,54,55,56,139,140,141] (fun (_:Unit) i=>[.pointer (some ⟨B,0,none⟩),vp,.func (.func N.aR) #[] #[.pointer (some ⟨B,0,none⟩),.pointer (some ⟨C,0,none⟩)],.int .i64 b,.pointer (some ⟨D,0,none⟩),vb,.int .i64 f.blocks.length,.int .i64 b,wi,.int .i64 (nth f.blocks b).ins.length,.int .i64 i])
     (fun _ i h10=>(vw h9).le (vw h10)∧uAll (insU f m idom b) i = .ok ()) (nth f.blocks b).ins.length ()
     rfl (by omega) rfl ⟨View.le_refl _,rfl⟩ (fun _ _=>rfl) (fun v i h1 hk m=>by simp) ?_ ?_
    ·rintro _ i h10 hlti ⟨hle10,hpre10⟩ K3 hK3
     have hst10:=iR hpre10
     have her10 : ∀ {t},insU f m idom b i = .error t→uAll (blkU f m idom preds) f.blocks.length = .error t:=fun e=>her (by rw [lG hpre10 hlti e];rfl)
     have bi10:=bi9.mono hle10
     obtain ⟨u10,hu10,hur10⟩:=bi10.wh rfl (N:=5) rfl hlti
     refine aa fun y hy=>?_
     simp (disch:=omega) [bi10.idxn (N:=5) rfl,hu10 _ (View.le_refl _)]
     refine dU (z:=.agg #[.int .i64 0,.int .i64 0,.int .i64 0,.slice none 0 0,.int .i32 0]) (by kernel_rfl) rfl (by kernel_rfl) hur10 (fun _=>by simp) (fun _=>by simp) fun h11 hle11 hsz11 hat11=>?_
     obtain ⟨_,_,_,wq,cq⟩:=mU (hat11 (vw h11) hle11 rfl)
     rw [insU] at hst10 her10
     generalize nth (nth f.blocks b).ins i=x at cq hst10 her10
     generalize h10.size=D11 at cq
     have bq:=cq.2.bound
     rw [hy];clear hy y
     simp [cq.1,cq.2.len]
     refine bc [1,5,7,8,9,17,54,55,56,139,140,141,147,148,149] (fun (_:Unit) j=>[.pointer (some ⟨B,0,none⟩),vp,.func (.func N.aR) #[] #[.pointer (some ⟨B,0,none⟩),.pointer (some ⟨C,0,none⟩)],.int .i64 b,.pointer (some ⟨D,0,none⟩),.int .i64 i,vb,.int .i64 f.blocks.length,.int .i64 b,wi,.int .i64 (nth f.blocks b).ins.length,.int .i64 i,wq,.int .i64 x.args.length,.int .i64 j])
      (fun _ j h12=>(vw h11).le (vw h12)∧uAll (fun j=>useS f.params m idom (nth x.args j) b i i b) j = .ok ()) x.args.length ()
      rfl (by omega) rfl ⟨View.le_refl _,rfl⟩ (fun _ _=>rfl) (fun v i h1 hk m=>by simp) ?_ ?_
     ·rintro _ j h12 hltj ⟨hle12,hpre12⟩ K4 hK4
      have hst12:=iR hpre12
      have cq12:=cq.2.mono hle12
      have hle612:=View.le_trans hle68 (View.le_trans hle9 (View.le_trans hle10 (View.le_trans hle11 hle12)))
      have k12:=k6.ext hle612
      have h512:=ah hle612 h56
      simp (disch:=omega) [cq12.idx1 rfl,cq12.int (View.le_refl _)]
      refine pS (ops:=[.tmp 154,.tmp 155,.tmp 156,.tmp 157,.tmp 158]) rfl (by kernel_rfl) (zz k12 h512 (ah hle612 hvd) (hd6.mono hle612)) ?_ ?_
      ·rintro _ h14 ⟨e,hle14⟩
       exact hK4 () _ _ rfl rfl ⟨View.le_trans hle12 hle14,by rw [hst12];exact e⟩
      ·rintro _ h14 ⟨t,e,rfl,hle14⟩
       exact ⟨.inl rfl,hKp _ _ ⟨t,her10 (lG hpre12 hltj e),rfl,View.le_trans hle06 (View.le_trans hle612 hle14)⟩⟩
     ·rintro _ h12 ⟨hle12,hpre12⟩
      simp
      exact hK3 () _ _ rfl rfl ⟨View.le_trans hle10 (View.le_trans hle11 hle12),by rw [hst10];exact hpre12⟩
    ·rintro _ h10 ⟨hle10,hpre10⟩
     have hbu2:andE (uAll (insU f m idom b) (nth f.blocks b).ins.length) (endU f m idom b)=endU f m idom b:=by rw [hpre10];rfl
     rw [hbu2] at hst her
     rw [endU] at hst her
     simp
     rw [hz];clear hz z
     have ba10:=ba.2.mono (View.le_trans hle9 hle10)
     have ca10:=ah (View.le_trans hle9 hle10) ba.1
     have bi10:=bi9.mono hle10
     have ci10:=ah (View.le_trans hle9 hle10) bi.1
     simp [ca10,ba10.len]
     refine bc [1,5,7,8,9,54,55,56,164,165,166] (fun (_:Unit) j=>[.pointer (some ⟨B,0,none⟩),vp,.func (.func N.aR) #[] #[.pointer (some ⟨B,0,none⟩),.pointer (some ⟨C,0,none⟩)],.int .i64 b,.pointer (some ⟨D,0,none⟩),vb,.int .i64 f.blocks.length,.int .i64 b,wa,.int .i64 (nth f.blocks b).term.args.length,.int .i64 j])
      (fun _ j h12=>(vw h10).le (vw h12)∧uAll (fun j=>useS f.params m idom (nth (nth f.blocks b).term.args j) b (nth f.blocks b).ins.length (nth f.blocks b).ins.length b) j = .ok ()) (nth f.blocks b).term.args.length ()
      rfl (by omega) rfl ⟨View.le_refl _,rfl⟩ (fun _ _=>rfl) (fun v i h1 hk m=>by simp) ?_ ?_
     ·rintro _ j h12 hltj ⟨hle12,hpre12⟩ K4 hK4
      have hst12:=iR hpre12
      have ba12:=ba10.mono hle12
      have bi12:=bi10.mono hle12
      have ci12:=ah hle12 ci10
      have hle612:=View.le_trans hle68 (View.le_trans hle9 (View.le_trans hle10 hle12))
      have k12:=k6.ext hle612
      have h512:=ah hle612 h56
      simp (disch:=omega) [ba12.idx1 rfl,ba12.int (View.le_refl _),ci12,bi12.len]
      refine pS (ops:=[.tmp 171,.tmp 172,.tmp 175,.tmp 178,.tmp 179]) rfl (by kernel_rfl) (zz k12 h512 (ah hle612 hvd) (hd6.mono hle612)) ?_ ?_
      ·rintro _ h14 ⟨e,hle14⟩
       exact hK4 () _ _ rfl rfl ⟨View.le_trans hle12 hle14,by rw [hst12];exact e⟩
      ·rintro _ h14 ⟨t,e,rfl,hle14⟩
       exact ⟨.inl rfl,hKp _ _ ⟨t,her (lG hpre12 hltj e),rfl,View.le_trans hle06 (View.le_trans hle612 hle14)⟩⟩
     ·rintro _ h12 ⟨hle12,hpre12⟩
      simp
      exact hK2 () _ _ rfl rfl ⟨View.le_trans hle7 (View.le_trans hle8 (View.le_trans hle9 (View.le_trans hle10 hle12))),by rw [hst];exact hpre12⟩
  ·rintro _ h7 ⟨hle7,hpre⟩
   simp
   exact hK _ _ ⟨hpre,View.le_trans hle06 hle7⟩
end Go.Proofs.Ytfelpjfopgiabaa
namespace Go.Proofs.Ytfelpjfopgiabaa
open Go Go.Lft
def CP (t:Tr):FrameMode:=.panicking [{ v:=.iface T.eO (.agg #[.int .i64 t.1,.int .i64 t.2.1,.int .i64 t.2.2]),recovered:=true }]
theorem C4 {a b c:Nat} {t:Tr} {h:Heap} {ra rb rc:Array Value} {ea eb ec:TypeId} (ha:h[a]? = some (.cells ra ea (0,0))) (hb:h[b]? = some (.cells rb eb (0,0))) (hc:h[c]? = some (.cells rc ec (0,0))) (sa:ra.size=1) (sb:rb.size=1) (sc:rc.size=1)
  (hab:a≠b) (hac:a≠c) (hbc:b≠c):nN Try.prog N.bY #[.pointer (some ⟨a,0,none⟩),.pointer (some ⟨b,0,none⟩),.pointer (some ⟨c,0,none⟩)] (.panicking (trV t)) h
   (fun u' h'=>u'=CP t∧h'[a]? = some (.cells #[.int .i64 t.1] ea (0,0))∧h'[b]? = some (.cells #[.int .i64 t.2.1] eb (0,0))∧h'[c]? = some (.cells #[.int .i64 t.2.2] ec (0,0))∧h.size≤h'.size∧∀ k,k<h.size→k≠a→k≠b→k≠c→h'[k]? = h[k]?):=by
 refine ml (args:=[.pointer (some ⟨a,0,none⟩),.pointer (some ⟨b,0,none⟩),.pointer (some ⟨c,0,none⟩)]) (t:=6) (L:=L.bY.body.tail) (tys:=#[]) follows F.bY Q.bY (by kernel_rfl) (by kernel_rfl) (by kernel_rfl) (Nat.le_of_ble_eq_true (by kernel_rfl)) E.lX (by kernel_rfl) (by kernel_rfl) (Nat.le_of_ble_eq_true (by kernel_rfl)) ?_
 have ala:a<h.size:=(Array.getElem?_eq_some_iff.1 ha).1
 have alb:b<h.size:=(Array.getElem?_eq_some_iff.1 hb).1
 have alc:c<h.size:=(Array.getElem?_eq_some_iff.1 hc).1
 have hrec:ij (.panicking (trV t))=(.iface T.eO (.agg #[.int .i64 t.1,.int .i64 t.2.1,.int .i64 t.2.2]),CP t):=rfl
 rw [hrec]
 simp [L.bY,LC.tail]
 refine xz (ms:=#[]) (by kernel_rfl) rfl (.inr ⟨_,_,rfl,rfl⟩) ?_
 simp
 refine A9 (d:=(Try.prog.underlying T.eO).getD .bool) (by kernel_rfl) (by kernel_rfl) rfl ?_
 simp
 refine gM (n:=3) (z:=.agg #[.int .i64 0,.int .i64 0,.int .i64 0]) (v:=.agg #[.int .i64 t.1,.int .i64 t.2.1,.int .i64 t.2.2]) (by kernel_rfl) rfl (by kernel_rfl) rfl (by simp [Value.oneCell']) (fun _=>by simp) (fun _=>by simp) fun h1 hle1 hs1 hb1=>?_
 generalize hD:h.size=D at hb1 hs1
 obtain ⟨H,hH⟩ : ∃ H:View,H=fun k=>if k=D then h1[k]? else none:=⟨_,rfl⟩
 have hHle : ∀ h2:Heap,h2[D]? = h1[D]?→H.le (vw h2):=fun h2 e k o hk=>by
  rw [hH] at hk;simp only at hk
  split at hk
  ·rename_i e2;subst e2;show h2[_]? = _;rw [e];exact hk
  ·cases hk
 have hHD:H D=some (.cells #[.int .i64 t.1,.int .i64 t.2.1,.int .i64 t.2.2] T.eO (0,0)):=by rw [hH];simp only [if_true];exact hb1
 have d0:ao H ⟨D,0,none⟩=some (.int .i64 t.1):=bV hHD rfl
 have d1:ao H ⟨D,1,none⟩=some (.int .i64 t.2.1):=bV hHD rfl
 have d2:ao H ⟨D,2,none⟩=some (.int .i64 t.2.2):=bV hHD rfl
 refine cg H (hHle h1 rfl) ?_
 simp [d0,d1,d2]
 refine dP (g:=a) (o:=0) (n:=1) (v:=.int .i64 t.1) (by kernel_rfl) rfl rfl rfl (by simp [Value.oneCell']) (hle1 _ _ ha) (by omega) fun h2 hs2 ⟨row2,hr2,he2⟩ ho2=>?_
 refine ⟨hHle h2 (ho2 D (by omega)),?_⟩
 refine dP (g:=b) (o:=0) (n:=1) (v:=.int .i64 t.2.1) (by kernel_rfl) rfl rfl rfl (by simp [Value.oneCell']) ((ho2 b (Ne.symm hab)).trans (hle1 _ _ hb)) (by omega) fun h3 hs3 ⟨row3,hr3,he3⟩ ho3=>?_
 refine ⟨hHle h3 ((ho3 D (by omega)).trans (ho2 D (by omega))),?_⟩
 refine dP (g:=c) (o:=0) (n:=1) (v:=.int .i64 t.2.2) (by kernel_rfl) rfl rfl rfl (by simp [Value.oneCell']) ((ho3 c (Ne.symm hbc)).trans ((ho2 c (Ne.symm hac)).trans (hle1 _ _ hc))) (by omega) fun h4 hs4 ⟨row4,hr4,he4⟩ ho4=>?_
 have one : ∀ {row r:Array Value} {v:Value},v.cells = #[v]→r.size=1→row.toList=r.toList.take 0++v.cells.toList++r.toList.drop (0+1)→row = #[v]:=by
  intro row r v hv hr he
  rw [←Array.toList_inj,he,hv,List.take_zero,List.nil_append,List.drop_eq_nil_of_le (by simp [hr])]
  simp
 rw [one rfl sa he2] at hr2
 rw [one rfl sb he3] at hr3
 rw [one rfl sc he4] at hr4
 refine ⟨?_,?_,hr4,by omega,fun k hk h1' h2' h3'=>?_⟩
 ·rw [ho4 a hac,ho3 a hab];exact hr2
 ·rw [ho4 b hbc];exact hr3
 ·rw [ho4 k h3',ho3 k h2',ho2 k h1']
  exact (hle1 k h[k] (Array.getElem?_eq_getElem (by omega))).trans (Array.getElem?_eq_getElem (by omega)).symm
theorem zk {a b c:Nat} {h:Heap}:nN Try.prog N.bY #[.pointer (some ⟨a,0,none⟩),.pointer (some ⟨b,0,none⟩),.pointer (some ⟨c,0,none⟩)] .returning h (fun u' h'=>u' = .returning∧h'=h):=by
 refine ml (args:=[.pointer (some ⟨a,0,none⟩),.pointer (some ⟨b,0,none⟩),.pointer (some ⟨c,0,none⟩)]) (t:=6) (L:=L.bY.body.tail) (tys:=#[]) follows F.bY Q.bY (by kernel_rfl) (by kernel_rfl) (by kernel_rfl) (Nat.le_of_ble_eq_true (by kernel_rfl)) E.lX (by kernel_rfl) (by kernel_rfl) (Nat.le_of_ble_eq_true (by kernel_rfl)) ?_
 have hrec:ij .returning=(.nilIface,.returning):=rfl
 rw [hrec]
 simp [L.bY,LC.tail]
 refine xz (ms:=#[]) (by kernel_rfl) rfl (.inl ⟨rfl,rfl⟩) ?_
 simp
def manyN (f:ak) (k:Nat):Int:=up (fun i n=>n+(((nth f.blocks i).phis.length:Int)+(nth f.blocks i).ins.length)) k f.blocks.length
def Al (f:ak):Int:=manyN f f.blocks.length
def nL (g:Gr):List Int:=(uu g (g.length*g.length+1)).getD []
def uv (f:ak):Except Tr MW→Except Tr Unit
 | .error t=>.error t
 | .ok m=>oK f m (nL (ofG f.blocks))
def jF (f:ak):Except Tr Unit:=
 if aY f.params 0 4=false then .error (1,0,0)
 else if f.blocks.length=0 then .error (14,0,0)
 else if ¬(f.blocks.length≤512∧Al f≤4096) then .error (2,0,0)
 else uv f (jP f (fun _=>none))
def gj (f:ak):Tr:=match jF f with
 | .ok _=>(0,0,0)
 | .error t=>t
theorem DR {f:ak} {k:Nat}:0≤manyN f k:=by
 unfold manyN
 induction k with
 | zero=>simp [up]
 | succ k ih=>rw [up];omega
theorem Cl {f:ak} {m m':MW} (h:jP f m = .ok m') : ∀ i,i<f.blocks.length→(nth f.blocks i).term.to.length≤65:=by
 intro i hi
 have key : ∀ n,n≤f.blocks.length→∃ s,upE (blkS f) n m = .ok s:=fun n hn=>by
  cases e:upE (blkS f) n m with
  | ok s=>exact ⟨s,rfl⟩
  | error t=>rw [jP,uU hn e] at h;cases h
 obtain ⟨s,hs⟩:=key i (by omega)
 obtain ⟨s',hs'⟩:=key (i+1) hi
 rw [kN hs,blkS] at hs'
 split at hs'
 ·cases hs'
 ·split at hs'
  ·cases hs'
  ·rw [endS] at hs'
   split at hs'
   ·rename_i hok
    rw [lO] at hok
    split at hok
    ·rename_i sh hsh
     simp only [aY,Bool.and_eq_true,decide_eq_true_eq] at hok
     have:sh.2.2.2≤65:=by
      simp only [eW,putM] at hsh
      repeat' (split at hsh)
      all_goals first | (cases hsh;done) | (cases hsh;decide)
     omega
    ·cases hok
   ·cases hs'
end Go.Proofs.Ytfelpjfopgiabaa
namespace Go.Proofs.Ytfelpjfopgiabaa
open Go Go.Lft
theorem CE {g:Gr} (hg:0<g.length):uu g (g.length*g.length+1)=some (nL g):=by
 obtain ⟨_,_,l,hl,_⟩:=uM hg
 rw [nL,hl];rfl
theorem one_cell {row r:Array Value} {v:Value} (hv:v.cells = #[v]) (hr:r.size=1) (he:row.toList=r.toList.take 0++v.cells.toList++r.toList.drop (0+1)):row = #[v]:=by
 rw [←Array.toList_inj,he,hv,List.take_zero,List.nil_append,List.drop_eq_nil_of_le (by simp [hr])]
 simp
structure SmB (x:BlkD):Prop where
 phis:x.phis.length≤10000
 ins:x.ins.length≤10000
 args:x.term.args.length≤10000
 to:x.term.to.length≤10000
 phi : ∀ i,i<x.phis.length→(nth x.phis i).ins.length≤10000
 inn : ∀ i,i<x.ins.length→(nth x.ins i).args.length≤10000
structure SmF (f:ak):Prop where
 len:f.blocks.length≤10000
 blk : ∀ i,i<f.blocks.length→SmB (nth f.blocks i)
theorem qW {f:ak} {v:Value} {h:Heap} (hv:Rd (vw h) v f) (hsm:SmF f) :
  aI Try.prog N.eQ #[v] h (fun u h'=>u = .tuple #[.int .i64 (gj f).1,.int .i64 (gj f).2.1,.int .i64 (gj f).2.2]∧(vw h).le (vw h')):=by
 refine nA (args:=[v]) (g:=N.bY) (t:=9) (capops:=#[.tmp 2,.tmp 3,.tmp 4]) (tys:=#[])
  (Mid:=fun ρ hh=>ρ=[(0,v),(1,.pointer (some ⟨h.size,0,none⟩)),(2,.pointer (some ⟨h.size+1,0,none⟩)),(3,.pointer (some ⟨h.size+2,0,none⟩)),(4,.pointer (some ⟨h.size+3,0,none⟩))]∧hh.size=h.size+4∧(vw h).le (vw hh)∧At (vw hh) ⟨h.size,0,none⟩ f∧
   hh[h.size+1]? = some (.cells #[.int .i64 0] T.kH (0,0))∧hh[h.size+2]? = some (.cells #[.int .i64 0] T.int (0,0))∧hh[h.size+3]? = some (.cells #[.int .i64 0] T.int (0,0)))
  follows F.eQ B.eQ (by kernel_rfl) (by kernel_rfl) (by kernel_rfl) (by kernel_rfl) (by kernel_rfl) (by kernel_rfl) (Nat.le_of_ble_eq_true (by kernel_rfl)) (by kernel_rfl) E.iY (by kernel_rfl) E.fK (by kernel_rfl) R.tw (Nat.le_of_ble_eq_true (by kernel_rfl)) ?_ ?_
 ·simp [L.iY]
  refine ez rfl hv fun h1 e1 hle1 hs1 hat=>?_
  refine fe (z:=.int .i64 0) (by kernel_rfl) ?_
  refine fe (z:=.int .i64 0) (by kernel_rfl) ?_
  refine fe (z:=.int .i64 0) (by kernel_rfl) ?_
  have q1:=bJ h1 (.cells (Value.int .i64 0).cells T.kH)
  generalize e2:h1.push (.cells (Value.int .i64 0).cells T.kH)=h2 at q1
  have b2:h2[h1.size]? = some (.cells #[.int .i64 0] T.kH (0,0)):=by rw [←e2];simp
  have s2:h2.size=h1.size+1:=by rw [←e2];simp
  have q2:=bJ h2 (.cells (Value.int .i64 0).cells T.int)
  generalize e3:h2.push (.cells (Value.int .i64 0).cells T.int)=h3 at q2
  have b3:h3[h2.size]? = some (.cells #[.int .i64 0] T.int (0,0)):=by rw [←e3];simp
  have s3:h3.size=h2.size+1:=by rw [←e3];simp
  have q3:=bJ h3 (.cells (Value.int .i64 0).cells T.int)
  generalize e4:h3.push (.cells (Value.int .i64 0).cells T.int)=h4 at q3
  have b4:h4[h3.size]? = some (.cells #[.int .i64 0] T.int (0,0)):=by rw [←e4];simp
  have s4:h4.size=h3.size+1:=by rw [←e4];simp
  have hsz:h1.size=h.size+1:=hs1
  have e22:h2.size=h.size+2:=by omega
  have e32:h3.size=h.size+3:=by omega
  rw [hsz] at b2
  rw [e22] at b3
  rw [e32] at b4
  rw [e22,e32,hsz]
  simp
  exact ⟨by omega,View.le_trans hle1 (View.le_trans q1 (View.le_trans q2 q3)),hat.mono (View.le_trans q1 (View.le_trans q2 q3)),q3 _ _ (q2 _ _ b2),q3 _ _ b3,b4⟩
 ·rintro ρ hh ⟨rfl,hs,hle,hat,hb1,hb2,hb3⟩
  refine ⟨[.pointer (some ⟨h.size+1,0,none⟩),.pointer (some ⟨h.size+2,0,none⟩),.pointer (some ⟨h.size+3,0,none⟩)],by simp [oJ],
   ⟨fun ch h2=>∃ t,jF f = .error t∧ch=trV t∧(vw hh).le (vw h2),fun ρ=>Lft.look ρ 2=some (.pointer (some ⟨h.size+1,0,none⟩))∧Lft.look ρ 3=some (.pointer (some ⟨h.size+2,0,none⟩))∧Lft.look ρ 4=some (.pointer (some ⟨h.size+3,0,none⟩))⟩,?_,?_⟩
  rotate_left
  ·rintro ch ρ2 h2 ⟨t,ht,rfl,hle2⟩ ⟨l2,l3,l4⟩
   refine ⟨_,C4 (hle2 _ _ hb1) (hle2 _ _ hb2) (hle2 _ _ hb3) rfl rfl rfl (by omega) (by omega) (by omega),?_⟩
   rintro u' h3 ⟨rfl,g1,g2,g3,gs,go⟩
   have c1:ao (vw h3) ⟨h.size+1,0,none⟩=some (.int .i64 t.1):=bV (show vw h3 _=_ from g1) rfl
   have c2:ao (vw h3) ⟨h.size+2,0,none⟩=some (.int .i64 t.2.1):=bV (show vw h3 _=_ from g2) rfl
   have c3:ao (vw h3) ⟨h.size+3,0,none⟩=some (.int .i64 t.2.2):=bV (show vw h3 _=_ from g3) rfl
   refine ⟨rfl,[.int .i64 t.1,.int .i64 t.2.1,.int .i64 t.2.2],by simp [R.eQ,l2,l3,l4,c1,c2,c3],?_⟩
   refine ⟨by simp [gj,ht],fun b o hb=>?_⟩
   have hlt:=View.lt (View.le_refl (vw h)) hb
   show h3[b]? = _
   have hb2':=hle2 _ _ (hle _ _ hb)
   have hlt2:=View.lt (View.le_refl (vw h2)) hb2'
   rw [go b hlt2 (by omega) (by omega) (by omega)]
   exact hb2'
  ·obtain ⟨cp,vb,cb⟩:=gL hat
   have hbb:=cb.2.bound
   have bad : ∀ {t:Tr} {ch:List PanicEntry} {h2:Heap},jF f = .error t→ch=trV t→(vw hh).le (vw h2)→∃ t,jF f = .error t∧ch=trV t∧(vw hh).le (vw h2):=fun a b c=>⟨_,a,b,c⟩
   simp only [jV,Bl]
   dsimp only [L.fK]
   refine aa fun z hz=>?_
   simp [cp]
   refine aj (by kernel_rfl) gu ?_
   rintro _ _ ⟨rfl,rfl⟩
   refine de (by kernel_rfl) fQ ?_ ?_
   rotate_left
   ·rintro _ _ ⟨e,rfl,rfl⟩
    exact ⟨.inl rfl,bad (by rw [jF,if_pos e]) rfl (View.le_refl _)⟩
   rintro _ hh ⟨e1,rfl⟩
   have e1':¬aY f.params 0 4=false:=by rw [e1];simp
   rw [hz];clear hz z
   refine aa fun z hz=>?_
   simp [cb.1,cb.2.len]
   refine de (by kernel_rfl) fQ ?_ ?_
   rotate_left
   ·rintro _ _ ⟨e,rfl,rfl⟩
    exact ⟨.inl rfl,bad (by rw [jF,if_neg e1',if_pos (by simpa using e)]) rfl (View.le_refl _)⟩
   rintro _ hh ⟨e2,rfl⟩
   have e2':¬f.blocks.length=0:=by
    intro e;rw [e] at e2;simp at e2
   rw [hz];clear hz z
   refine aa fun z hz=>?_
   simp [cb.1,cb.2.len]
   rw [hz];clear hz z
   refine aa fun z hz=>?_
   simp [cb.1,cb.2.len]
   refine bc [1,2,3,4,5,23,24,25] (fun (_:Unit) k=>[.pointer (some ⟨h.size,0,none⟩),.pointer (some ⟨h.size+1,0,none⟩),.pointer (some ⟨h.size+2,0,none⟩),.pointer (some ⟨h.size+3,0,none⟩),.int .i64 (manyN f k),vb,.int .i64 f.blocks.length,.int .i64 k])
    (fun _ k h1=>(vw hh).le (vw h1)∧manyN f k≤f.blocks.length+k*2000000) f.blocks.length ()
    rfl (by omega) rfl ⟨View.le_refl _,by simp [manyN,up]⟩ (fun _ _=>rfl) (fun v i h1 hk m=>by simp) ?_ ?_
   ·rintro _ k h1 hlt ⟨hle1,hmk⟩ K2 hK2
    have cb1:=cb.2.mono hle1
    obtain ⟨u,hu,hur⟩:=cb1.wh rfl (N:=6) rfl hlt
    refine aa fun y hy=>?_
    simp (disch:=omega) [cb1.idxn (N:=6) rfl,hu _ (View.le_refl _)]
    refine dU (z:=.agg #[.slice none 0 0,.slice none 0 0,.int .i64 0,.slice none 0 0,.slice none 0 0,.int .i32 0]) (by kernel_rfl) rfl (by kernel_rfl) hur (fun _=>by simp) (fun _=>by simp) fun h2 hle2 hsz2 hat2=>?_
    obtain ⟨vp,vi,va,vt,bp,bi,_⟩:=kh (hat2 (vw h2) hle2 rfl)
    have bph:=bp.2.bound
    have bih:=bi.2.bound
    have hm1:manyN f (k+1)=manyN f k+(((nth f.blocks k).phis.length:Int)+(nth f.blocks k).ins.length):=rfl
    have h0:=DR (f:=f) (k:=k)
    rw [hy];clear hy y
    simp [bp.1,bp.2.len,bi.1,bi.2.len]
    have s1:=(hsm.blk k hlt).phis
    have s2:=(hsm.blk k hlt).ins
    have s0:=hsm.len
    rw [cQ (a:=((nth f.blocks k).phis.length:Int)+(nth f.blocks k).ins.length) (by omega) (by omega),cQ (by omega) (by omega)]
    exact hK2 () _ _ rfl (by rw [hm1];rfl) ⟨View.le_trans hle1 hle2,by rw [hm1];omega⟩
   ·rintro _ h1 ⟨hle1,hmk⟩
    simp
    rw [hz];clear hz z
    refine aa fun z hz=>?_
    have cb1:=cb.2.mono hle1
    have cc1:=ah hle1 cb.1
    have cp1:=ah hle1 cp
    simp [cc1,cb1.len]
    have hms:manyN f f.blocks.length=Al f:=rfl
    rw [hms]
    refine de (by kernel_rfl) fQ ?_ ?_
    rotate_left
    ·rintro _ _ ⟨e,rfl,rfl⟩
     refine ⟨.inl rfl,bad ?_ rfl hle1⟩
     rw [jF,if_neg e1',if_neg e2',if_pos]
     intro e3
     simp at e;omega
    rintro _ h1 ⟨e3,rfl⟩
    have e3':¬¬(f.blocks.length≤512∧Al f≤4096):=by
     simp at e3;omega
    have hchk:jF f=uv f (jP f (fun _=>none)):=by rw [jF,if_neg e1',if_neg e2',if_neg e3']
    rw [hz];clear hz z
    refine aa fun z hz=>?_
    simp [CO cp1 cc1]
    refine tc ?_
    have hle2:=bJ h1 (.map #[] 0)
    have hm2:fm (.int .i64) (h1.push (.map #[] 0)) h1.size (mapE encW fun _=>none):=by rw [tH];exact fm.none (by simp)
    have hs2:(h1.push (.map #[] 0)).size=h1.size+1:=by simp
    generalize h1.push (.map #[] 0)=h2 at hle2 hm2 hs2
    refine aN (z:=.agg #[.int .i64 0,.slice none 0 0,.map none]) (places:=[(0,2),(2,1)]) (vs:=[(0,.agg #[.int .i64 f.params,vb]),(1,.map (some h1.size))]) (cs:=#[.int .i64 f.params,vb,.map (some h1.size)]) (by kernel_rfl) (by kernel_rfl) (by simp) (by rfl) ?_
    refine jU (v:=.agg #[.int .i64 f.params,vb,.map (some h1.size)]) rfl ?_
    have hle3:=bJ h2 (.cells (Value.cells (.agg #[.int .i64 f.params,vb,.map (some h1.size)])) T.gD)
    have hbk:(h2.push (.cells (Value.cells (.agg #[.int .i64 f.params,vb,.map (some h1.size)])) T.gD))[h2.size]? = some (.cells #[.int .i64 f.params,vb,.map (some h1.size)] T.gD (0,0)):=by simp
    have hs3:(h2.push (.cells (Value.cells (.agg #[.int .i64 f.params,vb,.map (some h1.size)])) T.gD)).size=h2.size+1:=by simp
    generalize h2.push (.cells (Value.cells (.agg #[.int .i64 f.params,vb,.map (some h1.size)])) T.gD)=h3 at hle3 hbk hs3
    rw [hz];clear hz z
    have hsk:skip h1.size h3 h2.size=some (.cells #[.int .i64 f.params,vb,.map (some h1.size)] T.gD (0,0)):=by rw [jT (by omega)];exact hbk
    have hle13:=View.le_trans hle2 hle3
    have hle1k:(vw h1).le (skip h1.size h3):=fun b o hb=>by
     have hlt:=View.lt (View.le_refl (vw h1)) hb
     rw [jT (by omega)];exact hle13 b o hb
    have k3:Lk h3 h2.size h1.size vb f (fun _=>none):=⟨bV hsk rfl,bV hsk rfl,bV hsk rfl,cb1.mono hle1k,hm2.ext hle3⟩
    generalize h2.size=Kb at k3
    generalize hr:h1.size=r at k3
    have hkk : ∀ {h':Heap},Kept h3 h' (some r)→(vw hh).le (vw h'):=fun kp b o hb=>by
     have h1b:=hle1 b o hb
     have hlt:=View.lt (View.le_refl (vw h1)) h1b
     have h3b:=hle13 b o h1b
     have hlt3:=View.lt (View.le_refl (vw h3)) h3b
     show _=_
     exact (kp.block b hlt3 (by simp;omega)).trans h3b
    refine aa fun z hz=>?_
    simp
    refine de (by kernel_rfl) (BJ k3) ?_ ?_
    rotate_left
    ·rintro _ h4 ⟨t,ht,rfl,kp4⟩
     exact ⟨.inl rfl,bad (by rw [hchk,ht];rfl) rfl (hkk kp4)⟩
    rintro _ h4 ⟨m4,hm4,k4,kp4⟩
    have hto:=Cl hm4
    rw [hm4] at hchk
    have hchk:jF f=oK f m4 (nL (ofG f.blocks)):=hchk
    rw [hz];clear hz z
    refine aa fun z hz=>?_
    simp
    have hgl:(ofG f.blocks).length=f.blocks.length:=by simp [ofG]
    refine de (by kernel_rfl) (DD k4 (Nat.le_trans hsm.len (by decide)) (fun i hi=>Nat.le_trans (hto i hi) (by decide)) (CE (by omega))) ?_ ?_
    rotate_left
    ·rintro _ h5 ⟨t,ht,rfl,hle5⟩
     exact ⟨.inl rfl,bad (by rw [hchk,ht]) rfl (View.le_trans (hkk kp4) hle5)⟩
    rintro _ h5 ⟨hus,hle5⟩
    have hle05:=View.le_trans (hkk kp4) hle5
    rw [hz];clear hz z
    simp
    refine dP (g:=h.size+1) (o:=0) (n:=1) (v:=.int .i64 0) (by kernel_rfl) rfl rfl rfl (by simp [Value.oneCell']) (hle05 _ _ hb1) (by simp) fun h6 hs6 ⟨row6,hr6,he6⟩ ho6=>?_
    refine dP (g:=h.size+2) (o:=0) (n:=1) (v:=.int .i64 0) (by kernel_rfl) rfl rfl rfl (by simp [Value.oneCell']) ((ho6 _ (by omega)).trans (hle05 _ _ hb2)) (by simp) fun h7 hs7 ⟨row7,hr7,he7⟩ ho7=>?_
    refine dP (g:=h.size+3) (o:=0) (n:=1) (v:=.int .i64 0) (by kernel_rfl) rfl rfl rfl (by simp [Value.oneCell']) ((ho7 _ (by omega)).trans ((ho6 _ (by omega)).trans (hle05 _ _ hb3))) (by simp) fun h8 hs8 ⟨row8,hr8,he8⟩ ho8=>?_
    rw [one_cell rfl rfl he6] at hr6
    rw [one_cell rfl rfl he7] at hr7
    rw [one_cell rfl rfl he8] at hr8
    refine ⟨_,zk,?_⟩
    rintro u' h9 ⟨rfl,rfl⟩
    have c1:ao (vw h9) ⟨h.size+1,0,none⟩=some (.int .i64 0):=bV (show vw h9 _=_ from (ho8 _ (by omega)).trans ((ho7 _ (by omega)).trans hr6)) rfl
    have c2:ao (vw h9) ⟨h.size+2,0,none⟩=some (.int .i64 0):=bV (show vw h9 _=_ from (ho8 _ (by omega)).trans hr7) rfl
    have c3:ao (vw h9) ⟨h.size+3,0,none⟩=some (.int .i64 0):=bV (show vw h9 _=_ from hr8) rfl
    refine ⟨rfl,[.int .i64 0,.int .i64 0,.int .i64 0],by simp [R.eQ,c1,c2,c3],?_⟩
    have htold:gj f=(0,0,0):=by rw [gj,hchk,hus]
    refine ⟨by simp [htold],fun b o hb=>?_⟩
    have hlt:=View.lt (View.le_refl (vw h)) hb
    show h9[b]? = _
    rw [ho8 b (by omega),ho7 b (by omega),ho6 b (by omega)]
    exact hle05 _ _ (hle _ _ hb)
theorem pw {f:ak} {v:Value} {h:Heap} (hv:Rd (vw h) v f) (hsm:SmF f) :
  aI Try.prog N.eL #[v] h (fun u h'=>u = .bool (decide ((gj f).1=0))∧(vw h).le (vw h')):=by
 refine aA (args:=[v]) follows F.eL E.eL (Nat.le_of_ble_eq_true (by kernel_rfl)) fun K hK=>?_
 simp [L.eL]
 refine ez rfl hv fun h1 e1 hle1 hs1 hat=>?_
 obtain ⟨u,hu,hur⟩:=hat.an rfl
 have hu':Un.ev (vw h1) (.an 2) (.pointer (some ⟨h.size,0,none⟩))=some u:=hu
 simp [hu']
 refine aj (by kernel_rfl) (qW hur hsm) ?_
 rintro _ h2 ⟨rfl,hle2⟩
 simp
 exact hK _ _ ⟨rfl,View.le_trans hle1 hle2⟩
end Go.Proofs.Ytfelpjfopgiabaa
