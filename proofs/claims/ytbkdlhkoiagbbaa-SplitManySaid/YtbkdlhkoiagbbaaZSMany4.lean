/- A part of the proof: Tc, Td, Th, Va, Vb, Vc, Nc, Da, Db, Dd, Ea, Ec, Ed, Ee, Tk, Ti, Tl, Tm, Tn, Ef, Eg. -/
import Derived.Test.YtbkdlhkoiagbbaaZSMany3
set_option linter.unusedSimpArgs false
set_option linter.unusedVariables false
namespace Go.Proofs.Ytbkdlhkoiagbbaa
open Go Go.Lft
def uF (t:Th):Option (Int × Int):=if t.blk<0 then none else some (t.blk,t.place)
structure Site (m:MW) (s:List Th):Prop where
 len:s.length=8192
 inn : ∀ n:Int,0≤n→n<8192→m n=uF (nth s n.toNat)
 out : ∀ n:Int,¬(0≤n∧n<8192)→m n=none
theorem tF {t:Th} (hb:0≤t.blk) : ∀ {l:List Int} {m:MW} {s:List Th},Site m s→(∀ n∈l,0≤n∧n<8192)→Site (l.foldl (fun m n=>putM m n (t.blk,t.place)) m) (l.foldl (dm t) s)
 | [],m,s,h,_=>h
 | n::l,m,s,h,hl=>by
  rw [List.foldl_cons,List.foldl_cons]
  have hn:=hl n List.mem_cons_self
  refine tF hb ⟨jg.trans h.len,fun k h0 h1=>?_,fun k hk=>?_⟩ fun k hk=>hl k (List.mem_cons_of_mem _ hk)
  ·unfold dm putM
   rw [if_pos hn,az (by rw [h.len];omega)]
   by_cases e:k=n
   ·subst e;rw [if_pos rfl,if_pos rfl];unfold uF;rw [if_neg (by omega)]
   ·rw [if_neg e,if_neg (by omega)];exact h.inn k h0 h1
  ·unfold putM
   rw [if_neg (by rintro rfl;exact hk hn)];exact h.out k hk
theorem tc {b p:Int} : ∀ {l:List Int} {m m':MW},l.foldlM (lh b p) m = .ok m'→m'=l.foldl (fun m n=>putM m n (b,p)) m
 | [],m,m',h=>by cases h;rfl
 | n::l,m,m',h=>by
  rw [List.foldlM_cons] at h
  cases e:lh b p m n with
  | error t=>rw [e] at h;cases h
  | ok m1=>
   rw [e] at h
   unfold lh at e
   split at e
   ·cases e
   ·cases e;exact tc (l:=l) (m:=putM m n (b,p)) h
theorem tf {ps b p:Int} {l:List Int} {m m':MW} (h:allS ps l b p m = .ok m'):m'=l.foldl (fun m n=>putM m n (b,p)) m∧∀ n∈l,ps≤n∧n≤8191:=by
 unfold allS at h
 split at h
 ·rename_i ha
  refine ⟨tc h,fun n hn=>?_⟩
  have:=List.all_eq_true.1 ha n hn
  simpa [aN] using this
 ·cases h
theorem y4 {f:ae} {t:Th} (ht:t∈aM f) {m m':MW} (h:gj f m t = .ok m'):(m'=t.mks.foldl (fun m n=>putM m n (t.blk,t.place)) m∧∀ n∈t.mks,f.params≤n∧n≤8191)∧0≤t.blk:=by
 obtain ⟨b,hb,ht⟩:=cf.1 ht
 rcases cN.1 ht with ⟨i,hi,rfl⟩ | ⟨i,hi,rfl⟩ | rfl
 ·rw [na] at h
  exact ⟨tf h,by show 0≤(b:Int);omega⟩
 ·rw [ni hi] at h
  unfold insS at h
  split at h
  ·exact ⟨tf h,by show 0≤(b:Int);omega⟩
  ·cases h
 ·rw [nw] at h
  unfold endS at h
  split at h
  ·split at h
   ·cases h;exact ⟨⟨rfl,fun n hn=>by cases hn⟩,by show 0≤(b:Int);omega⟩
   ·cases h
  ·cases h
theorem qg {f:ae} (hp:0≤f.params) : ∀ {l:List Th},(∀ t∈l,t∈aM f)→∀ {m m':MW} {s:List Th},Site m s→l.foldlM (gj f) m = .ok m'→Site m' (l.foldl lH s)
 | [],_,m,m',s,h,e=>by cases e;exact h
 | t::l,hl,m,m',s,h,e=>by
  rw [List.foldlM_cons] at e
  cases e1:gj f m t with
  | error x=>rw [e1] at e;cases e
  | ok m1=>
   rw [e1] at e
   obtain ⟨⟨q1,q2⟩,q3⟩:=y4 (hl t List.mem_cons_self) e1
   rw [List.foldl_cons]
   refine qg hp (fun t ht=>hl t (List.mem_cons_of_mem _ ht)) (m:=m1) ?_ e
   rw [q1]
   exact tF q3 h fun n hn=>by have:=q2 n hn;omega
theorem wZ {f:ae} (hp:0≤f.params) {m:MW} (h:gT f (fun _=>none) = .ok m):Site m (eQ f):=by
 rw [oA] at h
 refine qg hp (fun t ht=>ht) ⟨List.length_replicate ..,fun n h0 h1=>?_,fun n _=>rfl⟩ h
 rw [aj (by rw [List.length_replicate];omega),List.getElem_replicate];rfl
theorem oY {f:ae} {m:MW} {made:List Th} {away:List BL} {idom:List Int} {v blk place at_ told:Int} (hp:f.params≤8192) (hs:Site m made) (hd : ∀ a:Int,0≤a→a<f.blocks.length→cE idom a blk=!nth (nth away a.toNat) blk.toNat)
  (hm : ∀ i,i<8192→(nth made i).blk<f.blocks.length):useS f.params m idom v blk place at_ told=if (!eN f made away v blk at_) then .error (13,told,place) else .ok ():=by
 unfold useS
 by_cases c1:0≤v∧v<f.params
 ·have e:eN f made away v blk at_=true:=by unfold eN;rw [if_pos c1]
  rw [if_pos c1,e];rfl
 rw [if_neg c1]
 by_cases c2:v<0∨8191<v
 ·have e:eN f made away v blk at_=false:=by unfold eN;rw [if_neg c1,if_pos (.inl c2)]
  rw [hs.out v (by omega),e];rfl
 have e:eN f made away v blk at_=if (nth made v.toNat).blk<0 then false else if (nth made v.toNat).blk=blk then decide ((nth made v.toNat).place<0)||decide ((nth made v.toNat).place<at_) else !nth (nth away (nth made v.toNat).blk.toNat) blk.toNat:=by
  unfold eN
  rw [if_neg c1]
  by_cases c3:(nth made v.toNat).blk<0
  ·rw [if_pos (.inr c3),if_pos c3]
  ·rw [if_neg (by rintro (q | q)<;>contradiction),if_neg c3]
 rw [hs.inn v (by omega) (by omega),e]
 have hmb:=hm v.toNat (by omega)
 generalize nth made v.toNat=t at hmb
 unfold uF
 by_cases c3:t.blk<0
 ·rw [if_pos c3,if_pos c3];rfl
 rw [if_neg c3,if_neg c3]
 have e2:gD (t.blk,t.place) idom blk at_=if t.blk=blk then decide (t.place<0)||decide (t.place<at_) else !nth (nth away t.blk.toNat) blk.toNat:=by
  unfold gD
  by_cases c4:t.blk=blk
  ·simp only [c4,decide_true,Bool.true_and,Bool.not_true,Bool.false_and,Bool.or_false,if_true]
   rw [Bool.or_comm]
  ·simp only [c4,decide_false,Bool.false_and,Bool.not_false,Bool.true_and,Bool.false_or,if_false]
   exact hd t.blk (by omega) hmb
 simp only [e2]
 generalize (if t.blk=blk then decide (t.place<0)||decide (t.place<at_) else !nth (nth away t.blk.toNat) blk.toNat)=B
 cases B<;>rfl
theorem pF {α:Type} [Inhabited α] {l:List α} {p:α→Bool} {e:Tr} {g:Nat→Except Tr Unit} (h : ∀ j,j<l.length→g j=if p (nth l j) then .error e else .ok ()):uAll g l.length=if l.any p then .error e else .ok ():=by
 have h1:uAll g l.length=l.foldlM (fun (_:Unit) x=>if p x then Except.error e else .ok ()) ():=by
  unfold uAll
  rw [←jJ (f:=fun (_:Unit) x=>if p x then Except.error e else .ok ())]
  have key : ∀ n,n≤l.length→upE (fun i (_:Unit)=>g i) n ()=upE (fun i (_:Unit)=>if p (nth l i) then Except.error e else .ok ()) n ():=by
   intro n
   induction n with
   | zero=>exact fun _=>rfl
   | succ n ih=>
    intro hn
    simp only [upE]
    rw [ih (by omega),h n (by omega)]
  exact key _ (Nat.le_refl _)
 rw [h1]
 clear h1 h
 induction l with
 | nil=>rfl
 | cons a l ih=>
  rw [List.foldlM_cons,List.any_cons]
  cases hp:p a with
  | true=>rfl
  | false=>rw [Bool.false_or];exact ih
theorem tZ {β:Type} {p q:Nat→Bool} {x:Nat→β} {n:Nat} (h : ∀ a,a<n→p a=q a):sift p x n=sift q x n:=by
 rw [jt,jt]
 congr 1
 exact List.filter_congr fun a ha=>h a (List.mem_range.1 ha)
theorem ui {f:ae} {b:Nat} (hb:b<f.blocks.length):nth (bm (ofG f.blocks)) b=aw f b:=by
 rw [ke,ez,dG,cm hb,aw]
 refine tZ fun a ha=>?_
 rw [Bool.eq_iff_iff,cC,decide_eq_true_eq,Int.toNat_natCast]
 exact ⟨fun h=>h.2,fun h=>⟨by omega,h⟩⟩
theorem wY {f:ae} {b i:Nat} (hb:b<f.blocks.length):s7 (nth (nth f.blocks b).phis i) (nth (bm (ofG f.blocks)) b) b=mD f (phiT f b i):=by
 have e1:lj f (phiT f b i)=nth (nth f.blocks b).phis i:=by
  unfold lj dN phiT
  simp only [Int.toNat_natCast]
  rw [show (-1-(-1-(i:Int))).toNat=i by omega]
 have e2:(phiT f b i).blk=(b:Int):=rfl
 unfold s7 gh mD
 rw [e1,e2,ui hb]
 generalize nth (nth f.blocks b).phis i=x
 generalize aw f b=row
 rw [Bool.eq_iff_iff]
 simp only [Bool.and_eq_true,decide_eq_true_eq,vO,qb]
 constructor
 ·rintro ⟨⟨h1,h2⟩,h3⟩
  refine ⟨by omega,List.ext_getElem (by simp;omega) fun j hj hj2=>?_⟩
  have:=h3 j (by simpa using hj)
  rw [aj hj2,aj (by simpa using hj)] at this
  simpa using this
 ·rintro ⟨h1,h2⟩
  have hl:x.ins.length=row.length:=by rw [←h2,List.length_map]
  refine ⟨⟨by omega,by omega⟩,fun j hj=>?_⟩
  rw [←h2,aj (l:=List.map InD.frm x.ins) (by rw [List.length_map];exact hj),aj hj]
  simp
theorem oX {f:ae} : ∀ i,i<8192→(nth (eQ f) i).blk<f.blocks.length:=fun i hi=>xw (by omega) (fun t ht=>by
 obtain ⟨b,hb,ht⟩:=cf.1 ht
 rcases cN.1 ht with ⟨i,hi,rfl⟩ | ⟨i,hi,rfl⟩ | rfl
 ·show (b:Int)<_;omega
 ·show (b:Int)<_;omega
 ·show (b:Int)<_;omega) hi
section
variable {f:ae} {m:MW} {idom:List Int} (hp0:f.params≤8192) (hs:Site m (eQ f)) (hd : ∀ a b:Int,0≤a→a<f.blocks.length→0≤b→b<f.blocks.length→cE idom a b=!nth (nth (eo f) a.toNat) b.toNat)
include hp0 hs hd
theorem Ac {b i:Nat} (hb:b<f.blocks.length) (hi:i<(nth f.blocks b).phis.length):phiU f m idom (bm (ofG f.blocks)) b i=eJ f (eQ f) (eo f) (phiT f b i):=by
 have hf:=wY (f:=f) (i:=i) hb
 have e1:lj f (phiT f b i)=nth (nth f.blocks b).phis i:=by
  unfold lj dN phiT
  simp only [Int.toNat_natCast]
  rw [show (-1-(-1-(i:Int))).toNat=i by omega]
 have e3:eJ f (eQ f) (eo f) (phiT f b i)=if !mD f (phiT f b i) then .error (16,b,-1-i) else if (nth (nth f.blocks b).phis i).ins.any (stP f (eQ f) (eo f)) then .error (13,b,-1-i) else .ok ():=by
  unfold eJ
  rw [if_neg (show ¬0≤(phiT f b i).place by show ¬0≤-1-(i:Int);omega),e1]
  rfl
 rw [e3]
 unfold phiU
 simp only [hf]
 cases hss:mD f (phiT f b i) with
 | false=>rfl
 | true=>
  rw [if_pos rfl,if_neg (by simp)]
  refine pF fun j hj=>?_
  have hfr:0≤(nth (nth (nth f.blocks b).phis i).ins j).frm∧(nth (nth (nth f.blocks b).phis i).ins j).frm<f.blocks.length:=by
   unfold mD at hss
   rw [e1] at hss
   simp only [Bool.and_eq_true,decide_eq_true_eq] at hss
   have hm:=List.mem_map_of_mem (f:=InD.frm) (bW hj)
   rw [hss.2] at hm
   obtain ⟨a,h1,_,h2⟩:=iN.1 hm
   omega
  rw [oY hp0 hs (fun a h0 h1=>hd a _ h0 h1 hfr.1 hfr.2) oX]
  rfl
theorem AL {b i:Nat} (hb:b<f.blocks.length) (hi:i<(nth f.blocks b).ins.length):insU f m idom b i=eJ f (eQ f) (eo f) (insT f b i):=by
 have e3:eJ f (eQ f) (eo f) (insT f b i)=if (nth (nth f.blocks b).ins i).args.any (stT f (eQ f) (eo f) (insT f b i)) then .error (13,b,i) else .ok ():=by
  unfold eJ
  rw [if_pos (show 0≤(insT f b i).place by show 0≤(i:Int);omega)]
  rfl
 rw [e3]
 unfold insU
 refine pF fun j hj=>?_
 rw [oY hp0 hs (fun a h0 h1=>hd a _ h0 h1 (by omega) (by omega)) oX]
 rfl
theorem AU {b:Nat} (hb:b<f.blocks.length):endU f m idom b=eJ f (eQ f) (eo f) (endT f b):=by
 have e3:eJ f (eQ f) (eo f) (endT f b)=if (nth f.blocks b).term.args.any (stT f (eQ f) (eo f) (endT f b)) then .error (13,b,(nth f.blocks b).ins.length) else .ok ():=by
  unfold eJ
  rw [if_pos (show 0≤(endT f b).place by show 0≤((nth f.blocks b).ins.length:Int);omega)]
  rfl
 rw [e3]
 unfold endU
 refine pF fun j hj=>?_
 rw [oY hp0 hs (fun a h0 h1=>hd a _ h0 h1 (by omega) (by omega)) oX]
 rfl
def stF (f:ae) (_:Unit) (t:Th):Except Tr Unit:=eJ f (eQ f) (eo f) t
theorem AP {b:Nat} (hb:b<f.blocks.length):blkU f m idom (bm (ofG f.blocks)) b=(thB f b).foldlM (stF f) ():=by
 unfold blkU thB uAll
 rw [iF (f:=stF f) (x:=phiT f b) (n:=(nth f.blocks b).phis.length) fun i s hi=>Ac hp0 hs hd hb hi]
 rw [iF (f:=stF f) (x:=insT f b) (n:=(nth f.blocks b).ins.length) fun i s hi=>AL hp0 hs hd hb hi]
 rw [fb,fb,AU hp0 hs hd hb]
 cases (rows (phiT f b) (nth f.blocks b).phis.length).foldlM (stF f) () with
 | error e=>rfl
 | ok m1=>
  obtain ⟨⟩:=m1
  cases hI:(rows (insT f b) (nth f.blocks b).ins.length).foldlM (stF f) () with
  | error e=>simp only [andE,hI]
  | ok m2=>
   simp only [andE,hI]
   rw [lv];rfl
theorem xL:uAll (blkU f m idom (bm (ofG f.blocks))) f.blocks.length=sL f:=by
 have key : ∀ n,n≤f.blocks.length→uAll (blkU f m idom (bm (ofG f.blocks))) n=(thTo f n).foldlM (stF f) ():=by
  intro n
  induction n with
  | zero=>exact fun _=>rfl
  | succ n ih=>
   intro hn
   rw [kq,fb,←ih (by omega)]
   have e:uAll (blkU f m idom (bm (ofG f.blocks))) (n+1)=match uAll (blkU f m idom (bm (ofG f.blocks))) n with | .ok _=>blkU f m idom (bm (ofG f.blocks)) n | .error e=>.error e:=by
    show upE _ (n+1) ()=_
    simp only [upE]
    unfold uAll
    cases upE (fun i (_:Unit)=>blkU f m idom (bm (ofG f.blocks)) i) n ()<;>rfl
   rw [e]
   cases uAll (blkU f m idom (bm (ofG f.blocks))) n with
   | error e=>rfl
   | ok s=>exact AP hp0 hs hd (by omega)
 rw [key _ (Nat.le_refl _)]
 exact (jJ (f:=stF f)).symm
end
end Go.Proofs.Ytbkdlhkoiagbbaa
namespace Go.Proofs.Ytbkdlhkoiagbbaa
open Go Go.Lft
theorem pY {f:ae} : ∀ k,manyN f k=(dY f k:Int)
 | 0=>rfl
 | k+1=>by
  have ih:=pY (f:=f) k
  unfold manyN at ih ⊢
  rw [up,ih,dY];omega
theorem pQ {σ ε:Type} {f g:Nat→σ→Except ε σ} {s:σ} : ∀ {n:Nat},(∀ i s,i<n→f i s=g i s)→upE f n s=upE g n s
 | 0,_=>rfl
 | n+1,h=>by
  simp only [upE]
  rw [pQ (n:=n) fun i s hi=>h i s (by omega)]
  cases upE g n s with
  | ok s'=>exact h n s' (by omega)
  | error e=>rfl
theorem wc {f:Nat→Unit→Except Tr Unit} : ∀ {n:Nat},upE f n () = .ok ()→∀ i,i<n→f i () = .ok ()
 | n+1,h,i,hi=>by
  simp only [upE] at h
  cases e:upE f n () with
  | error t=>rw [e] at h;cases h
  | ok s=>
   rw [e] at h
   rcases Nat.lt_or_ge i n with hlt | hge
   ·exact wc e i hlt
   ·have:i=n:=by omega
    subst this;exact h
theorem zt {f:ae} (hn:0<f.blocks.length):uAll (mU f) f.blocks.length=wayE f:=by
 unfold uAll wayE
 refine pQ fun b s hb=>?_
 unfold mU
 have e:decide ((b:Int)∈aC (ofG f.blocks))=nth (fD f (-1)) b:=by
  rw [Bool.eq_iff_iff,decide_eq_true_eq,(fE (by rw [dG];exact hn)).mem,dQ hb]
 rw [e]
theorem zE {f:ae} (hn:0<f.blocks.length) (hw:wayE f = .ok ()) (a b:Int) (h0:0≤a) (h1:a<f.blocks.length) (h2:0≤b) (h3:b<f.blocks.length) :
  cE (lk (ofG f.blocks)) a b=!nth (nth (eo f) a.toNat) b.toNat:=by
 have hR : ∀ x:Nat,x<f.blocks.length→Re (ofG f.blocks) (-1) x:=fun x hx=>by
  have:=wc hw x hx
  rw [←dQ hx]
  split at this
  ·assumption
  ·cases this
 have hg:0<(ofG f.blocks).length:=by rw [dG];exact hn
 obtain ⟨fp,C,l,hl,I⟩:=p8 hg
 have hi:lk (ofG f.blocks)=l:=by unfold lk;rw [hl];rfl
 rw [hi]
 have e:=mJ I C (a:=a.toNat) (b:=b.toNat) (by rw [dG];omega) (hR _ (by omega))
 rw [Int.toNat_of_nonneg h0,Int.toNat_of_nonneg h2] at e
 rw [e,Bool.eq_iff_iff,jX]
 have ha:nth (eo f) a.toNat=fD f a:=by
  unfold eo
  rw [cm (by omega),Int.toNat_of_nonneg h0]
 rw [ha]
 have hr:=dQ (f:=f) (wo:=a) (b:=b.toNat) (by omega)
 have haa:((a.toNat:Nat):Int)=a:=Int.toNat_of_nonneg h0
 rw [haa]
 cases hc:nth (fD f a) b.toNat with
 | true=>
  rw [hc] at hr
  simp [hr.1 rfl]
 | false=>
  rw [hc] at hr
  have hnr:¬Re (ofG f.blocks) a b.toNat:=fun h=>by have:=hr.2 h;cases this
  simp [hnr,hR _ (show a.toNat<f.blocks.length by omega),hR _ (show b.toNat<f.blocks.length by omega)]
theorem pX (f:ae):ig f=oQ f:=by
 unfold ig gV oQ
 by_cases c1:f.params<0∨4<f.params
 ·have:aN f.params 0 4=false:=by rw [Bool.eq_false_iff];simp [aN];omega
  rw [if_pos this,if_pos c1]
 have hw4:¬aN f.params 0 4=false:=by simp [aN];omega
 rw [if_neg hw4,if_neg c1]
 by_cases c2:f.blocks.length=0
 ·rw [if_pos c2,if_pos c2]
 rw [if_neg c2,if_neg c2]
 have hm:vU f=(dY f f.blocks.length:Int):=pY _
 by_cases c3:512<f.blocks.length∨4096<dY f f.blocks.length
 ·rw [if_pos (by rw [hm];omega),if_pos c3]
 rw [if_neg (by rw [hm];omega),if_neg c3]
 have hp:0≤f.params:=by omega
 have hsh:=uO hp
 cases hS:gT f (fun _=>none) with
 | error e=>
  cases hR:gK f with
  | ok l=>rw [hS,hR] at hsh;exact hsh.elim
  | error e'=>
   rw [hS,hR] at hsh
   have hee:e=e':=hsh
   subst hee
   obtain ⟨k,s',h1,_,h3⟩:=rZ hR
   have:=(tj h3).1
   rw [if_pos (by show e.1≠0;omega)]
   rfl
 | ok m=>
  cases hR:gK f with
  | error e'=>rw [hS,hR] at hsh;exact hsh.elim
  | ok l=>
   rw [if_neg (by simp [qk])]
   have hs:=wZ hp hS
   show (match my f m (lk (ofG f.blocks)) with | .ok _=>((0,0,0):Tr) | .error t=>t)=_
   unfold my
   rw [zt (by omega)]
   cases hW:wayE f with
   | error e=>rfl
   | ok s=>
    obtain ⟨⟩:=s
    have:=xL (f:=f) (m:=m) (idom:=lk (ofG f.blocks)) (by omega) hs fun a b h0 h1 h2 h3=>zE (by omega) hW a b h0 h1 h2 h3
    show (match uAll (blkU f m (lk (ofG f.blocks)) (bm (ofG f.blocks))) f.blocks.length with | .ok _=>((0,0,0):Tr) | .error t=>t)=qk (sL f)
    rw [this]
    cases sL f<;>rfl
end Go.Proofs.Ytbkdlhkoiagbbaa
namespace Go.Proofs.Ytbkdlhkoiagbbaa
open Go Go.Lft
def Marks (m:BL) (S:Int→Prop):Prop:=m.length=8192∧∀ n:Int,0≤n→n<8192→(nth m n.toNat=true↔S n)
theorem uJ:Marks (List.replicate 8192 false) (fun _=>False):=⟨List.length_replicate,fun n h0 h1=>by rw [aB (by omega)];simp⟩
theorem qv {m:BL} {S:Int→Prop} {n:Int} (h:Marks m S) (h0:0≤n) (h1:n<8192):Marks (m.set n.toNat true) (fun k=>S k∨k=n):=by
 refine ⟨by simpa using h.1,fun k k0 k1=>?_⟩
 rw [az (by rw [h.1];omega)]
 split
 ·rename_i e;exact ⟨fun _=>.inr (by omega),fun _=>rfl⟩
 ·rename_i e
  rw [h.2 k k0 k1]
  exact ⟨.inl,fun o=>o.resolve_right (by rintro rfl;exact e rfl)⟩
theorem Marks.congr {m:BL} {S T:Int→Prop} (h:Marks m S) (he : ∀ n,S n↔T n):Marks m T:=⟨h.1,fun n a b=>(h.2 n a b).trans (he n)⟩
theorem oC {t:Th} : ∀ {l:List Int} {m m':BL} {S:Int→Prop},Marks m S→(∀ n∈l,0≤n∧n<8192)→l.foldlM (fX t) m = .ok m'→Marks m' (fun k=>S k∨k∈l)∧l.Nodup∧∀ n∈l,¬S n
 | [],m,m',S,h,_,e=>by cases e;exact ⟨h.congr fun n=>by simp,List.nodup_nil,fun n hn=>by cases hn⟩
 | a::l,m,m',S,h,hl,e=>by
  rw [List.foldlM_cons] at e
  have ha:=hl a List.mem_cons_self
  unfold fX at e
  by_cases hc:nth m a.toNat=true
  ·rw [if_pos hc] at e;cases e
  ·rw [if_neg hc] at e
   obtain ⟨g1,g2,g3⟩:=oC (qv h ha.1 ha.2) (fun n hn=>hl n (List.mem_cons_of_mem _ hn)) e
   refine ⟨g1.congr fun n=>by rw [List.mem_cons,or_assoc],List.nodup_cons.2 ⟨fun hm=>g3 a hm (.inr rfl),g2⟩,fun n hn=>?_⟩
   rcases List.mem_cons.1 hn with rfl | hn
   ·exact fun hs=>hc ((h.2 n ha.1 ha.2).2 hs)
   ·exact fun hs=>g3 n hn (.inl hs)
theorem oT {t:Th} : ∀ {l:List Int} {m:BL} {S:Int→Prop},Marks m S→(∀ n∈l,0≤n∧n<8192)→l.Nodup→(∀ n∈l,¬S n)→∃ m',l.foldlM (fX t) m = .ok m'
 | [],m,S,h,_,_,_=>⟨m,rfl⟩
 | a::l,m,S,h,hl,hd,hs=>by
  have ha:=hl a List.mem_cons_self
  rw [List.foldlM_cons]
  unfold fX
  rw [if_neg fun hc=>hs a List.mem_cons_self ((h.2 a ha.1 ha.2).1 hc)]
  obtain ⟨d1,d2⟩:=List.nodup_cons.1 hd
  refine oT (qv h ha.1 ha.2) (fun n hn=>hl n (List.mem_cons_of_mem _ hn)) d2 fun n hn=>?_
  rintro (g | rfl)
  ·exact hs n (List.mem_cons_of_mem _ hn) g
  ·exact d1 hn
structure iU (f:ae) (t:Th):Prop where
 op:il f t=true→iq (oo f t)=false
 term:gu f t=true→fq (dN f t).term=true
 mks : ∀ n∈t.mks,f.params≤n∧n≤8191
 to:gu f t=true→∀ n∈(dN f t).term.to,1≤n∧n<f.blocks.length
theorem y8 {t:Th} {m:BL}:upE (kS t) t.mks.length m=t.mks.foldlM (fX t) m:=jJ (f:=fX t)
theorem any_false {α:Type} {p:α→Bool} {l:List α}:l.any p=false↔∀ n∈l,p n=false:=by
 rw [List.any_eq_false]
 exact forall_congr' fun n=>forall_congr' fun _=>by simp
theorem yA {f:ae} {n:Int}:iw f n=false↔f.params≤n∧n≤8191:=by simp [iw]
theorem Aj {f:ae} {n:Int}:pH f n=false↔1≤n∧n<f.blocks.length:=by simp [pH]
theorem sH {f:ae} {t:Th} {m m':BL} (h:iU f t) (e:t.mks.foldlM (fX t) m = .ok m'):eW f t m = .ok m':=by
 unfold eW
 rw [if_neg,if_neg,if_neg]
 ·rw [y8,e]
  unfold ju
  dsimp only
  rw [if_neg]
  intro c
  obtain ⟨c1,c2⟩:=(Bool.and_eq_true _ _).mp c
  rw [any_false.2 fun n hn=>Aj.2 (h.to c1 n hn)] at c2
  cases c2
 ·rw [any_false.2 fun n hn=>yA.2 (h.mks n hn)];exact Bool.false_ne_true
 ·intro c
  obtain ⟨c1,c2⟩:=(Bool.and_eq_true _ _).mp c
  rw [h.term c1] at c2;cases c2
 ·intro c
  obtain ⟨c1,c2⟩:=(Bool.and_eq_true _ _).mp c
  rw [h.op c1] at c2;cases c2
def gz (l:List Th):List Int:=l.flatMap Th.mks
theorem ou {f:ae} (hp:0≤f.params) : ∀ {l:List Th} {m:BL} {S:Int→Prop},Marks m S→(∀ t∈l,iU f t)→(gz l).Nodup→(∀ n∈gz l,¬S n)→∃ m',l.foldlM (fun m t=>eW f t m) m = .ok m'
 | [],m,S,_,_,_,_=>⟨m,rfl⟩
 | t::l,m,S,h,hg,hd,hs=>by
  have g:=hg t List.mem_cons_self
  obtain ⟨d1,d2,d3⟩:=List.nodup_append.1 (show (t.mks++gz l).Nodup from hd)
  have hr : ∀ n∈t.mks,0≤n∧n<8192:=fun n hn=>by have:=g.mks n hn;omega
  obtain ⟨m1,e⟩:=oT (t:=t) h hr d1 fun n hn=>hs n (List.mem_append_left _ hn)
  rw [List.foldlM_cons,sH g e]
  obtain ⟨k1,_,_⟩:=oC h hr e
  exact ou hp k1 (fun x hx=>hg x (List.mem_cons_of_mem _ hx)) d2 fun n hn=>by
   rintro (q | q)
   ·exact hs n (List.mem_append_right _ hn) q
   ·exact d3 n q n hn rfl
def fV (f:ae) (v b p:Int):Prop:=(0≤v∧v<f.params)∨∃ t∈aM f,v∈t.mks∧(t.blk=b∧(t.place<0∨t.place<p)∨t.blk≠b∧¬Re (ofG f.blocks) t.blk b.toNat)
structure xX (ts:List Th) (s:List Th):Prop where
 len:s.length=8192
 is : ∀ n:Int,0≤n→n<8192→(nth s n.toNat=noTh∧∀ t∈ts,n∉t.mks)∨(nth s n.toNat∈ts∧n∈(nth s n.toNat).mks)
theorem tB {t:Th} {ts:List Th} : ∀ {l:List Int} {s:List Th} {d:List Int},(∀ n∈l,n∈t.mks)→(s.length=8192∧∀ n:Int,0≤n→n<8192→(nth s n.toNat=noTh∧(∀ t∈ts,n∉t.mks)∧n∉d)∨(nth s n.toNat∈ts++[t]∧n∈(nth s n.toNat).mks))→
  ((l.foldl (dm t) s).length=8192∧∀ n:Int,0≤n→n<8192→(nth (l.foldl (dm t) s) n.toNat=noTh∧(∀ t∈ts,n∉t.mks)∧n∉d++l)∨(nth (l.foldl (dm t) s) n.toNat∈ts++[t]∧n∈(nth (l.foldl (dm t) s) n.toNat).mks))
 | [],s,d,_,h=>by simpa using h
 | a::l,s,d,hl,h=>by
  rw [List.foldl_cons]
  have:=tB (t:=t) (ts:=ts) (l:=l) (s:=dm t s a) (d:=d++[a]) (fun n hn=>hl n (List.mem_cons_of_mem _ hn)) ⟨by rw [jg];exact h.1,fun n h0 h1=>?_⟩
  ·simpa using this
  ·unfold dm
   split
   ·rw [az (by rw [h.1];omega)]
    split
    ·rename_i hc e
     have:n=a:=by omega
     subst this
     exact .inr ⟨List.mem_append_right _ (List.mem_singleton.2 rfl),hl n List.mem_cons_self⟩
    ·rename_i hc e
     rcases h.2 n h0 h1 with ⟨a1,a2,a3⟩ | a1
     ·refine .inl ⟨a1,a2,?_⟩
      rw [List.mem_append,List.mem_singleton]
      rintro (q | rfl)
      ·exact a3 q
      ·exact e rfl
     ·exact .inr a1
   ·rename_i hc
    rcases h.2 n h0 h1 with ⟨a1,a2,a3⟩ | a1
    ·refine .inl ⟨a1,a2,?_⟩
     rw [List.mem_append,List.mem_singleton]
     rintro (q | rfl)
     ·exact a3 q
     ·exact hc ⟨h0,h1⟩
    ·exact .inr a1
theorem tQ : ∀ {l ts s:List Th},xX ts s→xX (ts++l) (l.foldl lH s)
 | [],ts,s,h=>by simpa using h
 | t::l,ts,s,h=>by
  rw [List.foldl_cons]
  have:=tB (t:=t) (ts:=ts) (l:=t.mks) (s:=s) (d:=[]) (fun n hn=>hn) ⟨h.len,fun n h0 h1=>(h.is n h0 h1).elim (fun a=>.inl ⟨a.1,a.2,List.not_mem_nil⟩) fun a=>.inr ⟨List.mem_append_left _ a.1,a.2⟩⟩
  have:=tQ (l:=l) (ts:=ts++[t]) (s:=lH s t) ⟨this.1,fun n h0 h1=>(this.2 n h0 h1).elim (fun a=>.inl ⟨a.1,fun x hx=>?_⟩) .inr⟩
  ·simpa using this
  ·rcases List.mem_append.1 hx with hx | hx
   ·exact a.2.1 x hx
   ·rw [List.mem_singleton.1 hx];simpa using a.2.2
theorem xy {f:ae}:xX (aM f) (eQ f):=
 tQ (l:=aM f) (ts:=[]) (s:=List.replicate 8192 noTh) ⟨List.length_replicate,fun n h0 h1=>.inl ⟨aB (by omega),fun t ht=>by cases ht⟩⟩
theorem tK {f:ae} {t:Th} (h:t∈aM f):0≤t.blk∧t.blk<f.blocks.length:=by
 obtain ⟨b,hb,ht⟩:=cf.1 h
 rcases cN.1 ht with ⟨i,hi,rfl⟩ | ⟨i,hi,rfl⟩ | rfl<;>exact ⟨Int.natCast_nonneg _,Int.ofNat_lt.2 hb⟩
theorem AH {f:ae} {a b:Int} (h0:0≤a) (h1:a<f.blocks.length) (h2:0≤b) (h3:b<f.blocks.length):nth (nth (eo f) a.toNat) b.toNat=true↔Re (ofG f.blocks) a b.toNat:=by
 unfold eo
 rw [cm (by omega),Int.toNat_of_nonneg h0]
 exact dQ (by omega)
theorem tD : ∀ {l:List Th},(gz l).Nodup→∀ {t t':Th} {v:Int},t∈l→t'∈l→v∈t.mks→v∈t'.mks→t=t'
 | a::l,hd,t,t',v,h,h',hv,hv'=>by
  obtain ⟨d1,d2,d3⟩:=List.nodup_append.1 (show (a.mks++gz l).Nodup from hd)
  rcases List.mem_cons.1 h with e1 | h1
  ·rcases List.mem_cons.1 h' with e2 | h2
   ·rw [e1,e2]
   ·exact absurd rfl (d3 v (by rw [←e1];exact hv) v (List.mem_flatMap.2 ⟨t',h2,hv'⟩))
  ·rcases List.mem_cons.1 h' with e2 | h2
   ·exact absurd rfl (d3 v (by rw [←e2];exact hv') v (List.mem_flatMap.2 ⟨t,h1,hv⟩))
   ·exact tD d2 h1 h2 hv hv'
theorem qI {f:ae} {v b p:Int} (hd:(gz (aM f)).Nodup) (hr : ∀ t∈aM f,∀ n∈t.mks,0≤n∧n≤8191) (hb0:0≤b) (hb1:b<f.blocks.length) (h:fV f v b p):eN f (eQ f) (eo f) v b p=true:=by
 unfold eN
 rcases h with c | ⟨t,ht,hv,h⟩
 ·rw [if_pos c]
 split
 ·rfl
 have hn:=hr t ht v hv
 have hat:=tK ht
 have e:nth (eQ f) v.toNat=t:=by
  rcases xy.is v hn.1 (by omega) with ⟨_,a⟩ | ⟨a,b⟩
  ·exact absurd hv (a t ht)
  ·exact tD hd a ht b hv
 rw [e,if_neg (by omega)]
 rcases h with ⟨h1,h2⟩ | ⟨h1,h2⟩
 ·rw [if_pos h1];simpa using h2
 ·rw [if_neg h1]
  cases ec:nth (nth (eo f) t.blk.toNat) b.toNat with
  | false=>rfl
  | true=>exact absurd ((AH hat.1 hat.2 hb0 hb1).1 ec) h2
structure iv (f:ae):Prop where
 params:0≤f.params∧f.params≤4
 blocks:0<f.blocks.length∧f.blocks.length≤512
 cnt:dY f f.blocks.length≤4096
 good : ∀ t∈aM f,iU f t
 nodup:(gz (aM f)).Nodup
 way : ∀ b:Nat,b<f.blocks.length→Re (ofG f.blocks) (-1) b
 takes : ∀ t∈aM f,0≤t.place→∀ v∈t.tks,fV f v t.blk t.place
 phi : ∀ b i:Nat,b<f.blocks.length→i<(nth f.blocks b).phis.length→0<b∧(nth (nth f.blocks b).phis i).ins.map InD.frm=aw f b∧∀ p∈(nth (nth f.blocks b).phis i).ins,fV f p.val p.frm (uQ f p.frm)
theorem tq {f:ae} {b x:Int}:x∈aw f b↔(0≤x∧x<f.blocks.length)∧b∈(nth f.blocks x.toNat).term.to:=by
 unfold aw
 rw [iN]
 constructor
 ·rintro ⟨a,ha,hb,rfl⟩
  exact ⟨⟨by omega,by omega⟩,by simpa using hb⟩
 ·rintro ⟨⟨h0,h1⟩,h⟩
  exact ⟨x.toNat,by omega,by simpa using h,by omega⟩
theorem pD {g:Nat→Unit→Except Tr Unit} : ∀ {n:Nat},(∀ i,i<n→g i () = .ok ())→upE g n () = .ok ()
 | 0,_=>rfl
 | n+1,h=>by
  simp only [upE]
  rw [pD fun i hi=>h i (by omega)]
  exact h n (by omega)
theorem yz {f:ae} {t:Th}:eJ f (eQ f) (eo f) t = .ok ()↔
  (0≤t.place∧∀ v∈t.tks,eN f (eQ f) (eo f) v t.blk t.place=true)∨(t.place<0∧mD f t=true∧∀ p∈(lj f t).ins,eN f (eQ f) (eo f) p.val p.frm (uQ f p.frm)=true):=by
 unfold eJ
 by_cases h0:0≤t.place
 ·rw [if_pos h0]
  have hn:¬t.place<0:=by omega
  simp only [h0,hn,true_and,false_and,or_false]
  cases e:t.tks.any (stT f (eQ f) (eo f) t) with
  | true=>
   obtain ⟨v,hv,hs⟩:=List.any_eq_true.1 e
   constructor
   ·intro h;cases h
   ·intro h
    unfold stT at hs
    rw [h v hv] at hs;cases hs
  | false=>
   constructor
   ·intro _ v hv
    have:=any_false.1 e v hv
    simpa [stT] using this
   ·intro _;rfl
 ·rw [if_neg h0]
  have hn:t.place<0:=by omega
  simp only [h0,hn,true_and,false_and,false_or]
  cases e1:mD f t with
  | false=>simp
  | true=>
   rw [if_neg (by simp)]
   cases e:(lj f t).ins.any (stP f (eQ f) (eo f)) with
   | true=>
    obtain ⟨v,hv,hs⟩:=List.any_eq_true.1 e
    constructor
    ·intro h;cases h
    ·rintro ⟨_,h⟩
     unfold stP at hs
     rw [h v hv] at hs;cases hs
   | false=>
    constructor
    ·intro _
     refine ⟨rfl,fun v hv=>?_⟩
     have:=any_false.1 e v hv
     simpa [stP] using this
    ·intro _;rfl
theorem yB {f:ae} {b i:Nat}:lj f (phiT f b i)=nth (nth f.blocks b).phis i:=by
 unfold lj dN phiT
 dsimp only
 rw [Int.toNat_natCast]
 congr 1
 omega
theorem BS {f:ae} (h:iv f):ig f=(0,0,0):=by
 rw [pX]
 have hp:=h.params
 have hb:=h.blocks
 have hc:=h.cnt
 have hr : ∀ t∈aM f,∀ n∈t.mks,0≤n∧n≤8191:=fun t ht n hn=>by have:=(h.good t ht).mks n hn;omega
 unfold oQ
 rw [if_neg (by omega),if_neg (by omega),if_neg (by omega)]
 obtain ⟨m,hm⟩:=ou (f:=f) (by omega) uJ h.good h.nodup fun _ _=>id
 rw [lu,hm,if_neg (by simp [qk])]
 have hw:wayE f = .ok ():=pD fun i hi=>if_pos ((dQ hi).2 (h.way i hi))
 have hu:sL f = .ok ():=pD fun i hi=>by
  have ht:=bW hi
  generalize nth (aM f) i=t at ht
  rw [yz]
  have hat:=tK ht
  by_cases h0:0≤t.place
  ·exact .inl ⟨h0,fun v hv=>qI h.nodup hr hat.1 hat.2 (h.takes t ht h0 v hv)⟩
  ·refine .inr ⟨by omega,?_⟩
   obtain ⟨b,hb,hm⟩:=cf.1 ht
   rcases cN.1 hm with ⟨i,hi,rfl⟩ | ⟨i,hi,rfl⟩ | rfl
   ·obtain ⟨k1,k2,k3⟩:=h.phi b i hb hi
    unfold mD
    rw [yB]
    refine ⟨(Bool.and_eq_true _ _).mpr ⟨decide_eq_true (by show (0:Int)<b;omega),decide_eq_true k2⟩,fun p hp=>?_⟩
    have hm:p.frm∈aw f b:=by rw [←k2];exact List.mem_map_of_mem hp
    have:=(tq.1 hm).1
    exact qI h.nodup hr this.1 this.2 (k3 p hp)
   ·exact absurd (Int.natCast_nonneg _) h0
   ·exact absurd (Int.natCast_nonneg _) h0
 rw [hw,hu]
 rfl
end Go.Proofs.Ytbkdlhkoiagbbaa
namespace Go.Proofs.Ytbkdlhkoiagbbaa
open Go Go.Lft
def mkB (x:BlkD):List Int:=x.phis.map PhiD.dst++x.ins.flatMap aI
def Sd (m:MS) (b p:Nat) (v:Int):Prop:=
 (0≤v∧v<m.ps)∨v∈(nth m.blocks b).phis.map PhiD.dst∨v∈((nth m.blocks b).ins.take p).flatMap aI∨∃ a,a<m.blocks.length∧a≠b∧v∈mkB (nth m.blocks a)∧¬Re (ofG m.blocks) a b
structure Ext (m m':MS):Prop where
 ps:m'.ps=m.ps
 len:m'.blocks.length=m.blocks.length
 to : ∀ j,(nth m'.blocks j).term.to=(nth m.blocks j).term.to
 phis : ∀ j,∀ v∈(nth m.blocks j).phis.map PhiD.dst,v∈(nth m'.blocks j).phis.map PhiD.dst
 ins : ∀ j,∃ l,(nth m'.blocks j).ins=(nth m.blocks j).ins++l
theorem xI {a b:List BlkD} (hl:a.length=b.length) (h : ∀ j,(nth a j).term.to=(nth b j).term.to):ofG a=ofG b:=by
 unfold ofG
 rw [hl]
 exact congrFun (congrArg rows (funext fun i=>by rw [h i])) _
section
variable {m m' m2:MS}
theorem Ext.gr (e:Ext m m'):ofG m'.blocks=ofG m.blocks:=xI e.len e.to
theorem Ext.refl:Ext m m:=⟨rfl,rfl,fun _=>rfl,fun _ _ h=>h,fun _=>⟨[],by simp⟩⟩
theorem Ext.trans (e:Ext m m') (f:Ext m' m2):Ext m m2:=⟨f.ps.trans e.ps,f.len.trans e.len,fun j=>(f.to j).trans (e.to j),fun j v h=>f.phis j v (e.phis j v h),fun j=>by
 obtain ⟨l,h⟩:=e.ins j
 obtain ⟨k,g⟩:=f.ins j
 exact ⟨l++k,by rw [g,h,List.append_assoc]⟩⟩
theorem Ext.mkB (e:Ext m m') {j:Nat} {v:Int} (h:v∈mkB (nth m.blocks j)):v∈mkB (nth m'.blocks j):=by
 obtain ⟨l,g⟩:=e.ins j
 unfold Go.Proofs.Ytbkdlhkoiagbbaa.mkB at *
 rw [g,List.flatMap_append]
 rcases List.mem_append.1 h with h | h
 ·exact List.mem_append_left _ (e.phis _ _ h)
 ·exact List.mem_append_right _ (List.mem_append_left _ h)
theorem Ext.le (e:Ext m m') (j:Nat):(nth m.blocks j).ins.length≤(nth m'.blocks j).ins.length:=by
 obtain ⟨l,g⟩:=e.ins j
 rw [g,List.length_append];omega
theorem Sd.ext (e:Ext m m') {b p:Nat} {v:Int} (h:Sd m b p v):Sd m' b p v:=by
 rcases h with h | h | h | ⟨a,h1,h2,h3,h4⟩
 ·exact .inl (by rw [e.ps];exact h)
 ·exact .inr (.inl (e.phis _ _ h))
 ·obtain ⟨l,g⟩:=e.ins b
  refine .inr (.inr (.inl ?_))
  rw [g,List.take_append,List.flatMap_append]
  exact List.mem_append_left _ h
 ·exact .inr (.inr (.inr ⟨a,by rw [e.len];exact h1,h2,e.mkB h3,by rw [e.gr];exact h4⟩))
theorem Sd.le {b p q:Nat} {v:Int} (h:Sd m b p v) (hpq:p≤q):Sd m b q v:=by
 rcases h with h | h | h | h
 ·exact .inl h
 ·exact .inr (.inl h)
 ·refine .inr (.inr (.inl ?_))
  obtain ⟨i,hi,hv⟩:=List.mem_flatMap.1 h
  exact List.mem_flatMap.2 ⟨i,(List.take_sublist_take_left hpq).subset hi,hv⟩
 ·exact .inr (.inr (.inr h))
theorem Sd.end (e:Ext m m') {b:Nat} {v:Int} (h:Sd m b (nth m.blocks b).ins.length v):Sd m' b (nth m'.blocks b).ins.length v:=(h.ext e).le (e.le b)
def NumI (i:InsD):Prop:=(i.op=16→i.dst=0)∧(i.op≠18→i.two=0)
structure Ok (m:MS):Prop where
 p0:0≤m.ps
 pn:m.ps≤m.next
 op : ∀ b,b<m.blocks.length→∀ i∈(nth m.blocks b).ins,iq i=false∧NumI i
 nd : ∀ b,b<m.blocks.length→(mkB (nth m.blocks b)).Nodup
 dj : ∀ a b,a<m.blocks.length→b<m.blocks.length→a≠b→∀ v∈mkB (nth m.blocks a),v∉mkB (nth m.blocks b)
 rg : ∀ b,b<m.blocks.length→∀ v∈mkB (nth m.blocks b),m.ps≤v∧v<m.next
 tk : ∀ b,b<m.blocks.length→∀ i,i<(nth m.blocks b).ins.length→∀ v∈(nth (nth m.blocks b).ins i).args,Sd m b i v
 tm : ∀ b,b<m.blocks.length→∀ v∈(nth m.blocks b).term.args,Sd m b (nth m.blocks b).ins.length v
theorem Ok.at (q:Ok m) {a:Nat} {nx:Int} {l:List Int} (h:m.next≤nx):Ok ⟨a,m.ps,m.blocks,nx,l⟩:=
 ⟨q.p0,Int.le_trans q.pn h,q.op,q.nd,q.dj,fun b hb v hv=>⟨(q.rg b hb v hv).1,Int.lt_of_lt_of_le (q.rg b hb v hv).2 h⟩,q.tk,q.tm⟩
theorem ky {b j:Nat} {i:InsD} (hb:b<m.blocks.length):nth (m.add b i).blocks j=if b=j then { nth m.blocks b with ins:=(nth m.blocks b).ins++[i] } else nth m.blocks j:=by
 show nth (m.blocks.set b _) j=_
 rcases Nat.lt_or_ge j m.blocks.length with hl | hl
 ·rw [az hl]
 ·rw [aU (by simpa using hl),if_neg (by omega),aU hl]
theorem rL {b:Nat} {i:InsD} (hb:b<m.blocks.length):Ext m (m.add b i):=by
 refine ⟨rfl,mI,fun j=>?_,fun j=>?_,fun j=>?_⟩<;>rw [ky hb]<;>split
 ·rename_i e;rw [e]
 ·rfl
 ·rename_i e;rw [e];exact fun _ h=>h
 ·exact fun _ h=>h
 ·rename_i e;rw [e];exact ⟨[i],rfl⟩
 ·exact ⟨[],by simp⟩
theorem n8 {x:BlkD} {i:InsD}:mkB { x with ins:=x.ins++[i] }=mkB x++aI i:=by
 unfold mkB
 simp
theorem Ok.add (q:Ok m) {b a:Nat} {nx:Int} {i:InsD} {l:List Int} (hb:b<m.blocks.length) (hn:m.next≤nx) (hf : ∀ v∈aI i,m.next≤v∧v<nx) (hd:(aI i).Nodup) (ho:iq i=false∧NumI i) (ha : ∀ v∈i.args,Sd m b (nth m.blocks b).ins.length v) :
  Ok (MS.add ⟨a,m.ps,m.blocks,nx,l⟩ b i):=by
 have q1:=q.pn
 have q:=q.at (a:=a) (l:=l) hn
 have ha : ∀ v∈i.args,Sd ⟨a,m.ps,m.blocks,nx,l⟩ b (nth m.blocks b).ins.length v:=ha
 have q0 : ∀ b,b<m.blocks.length→∀ v∈mkB (nth m.blocks b),v<m.next:=fun b hb v hv=>(‹Ok m›.rg b hb v hv).2
 have hl:((⟨a,m.ps,m.blocks,nx,l⟩:MS).add b i).blocks.length=m.blocks.length:=mI
 have e:=rL (m:=⟨a,m.ps,m.blocks,nx,l⟩) (i:=i) hb
 have hnth : ∀ j,nth ((⟨a,m.ps,m.blocks,nx,l⟩:MS).add b i).blocks j=if b=j then { nth m.blocks b with ins:=(nth m.blocks b).ins++[i] } else nth m.blocks j:=fun j=>ky hb
 refine ⟨q.p0,q.pn,fun c hc=>?_,fun c hc=>?_,fun c d hc hd' hcd=>?_,fun c hc=>?_,fun c hc=>?_,fun c hc=>?_⟩<;>rw [hl] at hc
 ·rw [hnth];split
  ·intro x hx
   rcases List.mem_append.1 hx with hx | hx
   ·exact q.op b hb x hx
   ·rw [List.mem_singleton.1 hx];exact ho
  ·exact q.op c hc
 ·rw [hnth];split
  ·rw [n8]
   refine List.nodup_append.2 ⟨q.nd b hb,hd,fun x hx y hy=>?_⟩
   have:=q0 b hb x hx
   have:=(hf y hy).1
   omega
  ·exact q.nd c hc
 ·rw [hl] at hd'
  rw [hnth,hnth]
  intro v hv hv'
  split at hv
  ·rename_i e1;subst e1
   rw [if_neg hcd] at hv'
   rw [n8] at hv
   rcases List.mem_append.1 hv with hv | hv
   ·exact q.dj _ _ hc hd' hcd v hv hv'
   ·have:=q0 d hd' v hv';have:=(hf v hv).1;omega
  ·split at hv'
   ·rename_i e1;subst e1
    rw [n8] at hv'
    rcases List.mem_append.1 hv' with hv' | hv'
    ·exact q.dj _ _ hc hd' hcd v hv hv'
    ·have:=q0 c hc v hv;have:=(hf v hv').1;omega
   ·exact q.dj _ _ hc hd' hcd v hv hv'
 ·rw [hnth];split
  ·intro v hv
   rw [n8] at hv
   rcases List.mem_append.1 hv with hv | hv
   ·exact q.rg b hb v hv
   ·have h1:=hf v hv;have h2:m.ps≤m.next:=q1;exact ⟨by show m.ps≤v;omega,h1.2⟩
  ·exact q.rg c hc
 ·intro k hk v hv
  refine Sd.ext e ?_
  rw [hnth] at hk hv
  split at hk
  ·rename_i e1;subst e1
   rw [if_pos rfl] at hv
   rw [show ({ nth m.blocks b with ins:=(nth m.blocks b).ins++[i] }:BlkD).ins=(nth m.blocks b).ins++[i] from rfl] at hk hv
   rw [List.length_append,List.length_singleton] at hk
   rcases Nat.lt_or_ge k (nth m.blocks b).ins.length with h | h
   ·rw [aj (by simp;omega),List.getElem_append_left h,←aj h] at hv
    exact q.tk b hb k h v hv
   ·have:k=(nth m.blocks b).ins.length:=by omega
    subst this
    rw [aj (by simp),List.getElem_append_right (Nat.le_refl _)] at hv
    simp at hv
    exact ha v hv
  ·rename_i e1
   rw [if_neg e1] at hv
   exact q.tk c hc k hk v hv
 ·intro v hv
  have ht:(nth ((⟨a,m.ps,m.blocks,nx,l⟩:MS).add b i).blocks c).term=(nth m.blocks c).term:=by
   rw [hnth];split
   ·rename_i e1;rw [e1]
   ·rfl
  rw [ht] at hv
  exact (q.tm c hc v hv).end e
theorem yQ {b a:Nat} {nx:Int} {i:InsD} {l:List Int} (hb:b<m.blocks.length) {v:Int} (hv:v∈aI i):Sd (MS.add ⟨a,m.ps,m.blocks,nx,l⟩ b i) b (nth (MS.add ⟨a,m.ps,m.blocks,nx,l⟩ b i).blocks b).ins.length v:=by
 rw [ky (m:=⟨a,m.ps,m.blocks,nx,l⟩) hb,if_pos rfl]
 refine .inr (.inr (.inl ?_))
 rw [ky (m:=⟨a,m.ps,m.blocks,nx,l⟩) hb,if_pos rfl]
 show v∈((((nth m.blocks b).ins++[i]).take ((nth m.blocks b).ins++[i]).length).flatMap aI)
 rw [List.take_length,List.flatMap_append]
 exact List.mem_append_right _ (by simpa using hv)
structure In (b:Nat) (m:MS):Prop where
 ok:Ok m
 lt:b<m.blocks.length
 live : ∀ v∈m.live,Sd m b (nth m.blocks b).ins.length v
structure Wk (b k:Nat) (m m':MS):Prop where
 inn:In b m'
 live : ∀ v∈m.live,v∈m'.live
 n0:m.next≤m'.next
 nx:m'.next≤m.next+k
 ins:(nth m'.blocks b).ins.length≤(nth m.blocks b).ins.length+k
 ext:Ext m m'
variable {b c k l:Nat} {s:List Int}
theorem Wk.refl (q:In b m):Wk b 0 m m:=⟨q,fun _ h=>h,Int.le_refl _,by omega,Nat.le_refl _,.refl⟩
theorem Wk.trans (g:Wk b k m m') (h:Wk b l m' m2):Wk b (k+l) m m2:=
 ⟨h.inn,fun v hv=>h.live v (g.live v hv),Int.le_trans g.n0 h.n0,by have:=g.nx;have:=h.nx;omega,by have:=g.ins;have:=h.ins;omega,g.ext.trans h.ext⟩
theorem Wk.mono (g:Wk b k m m') (h:k≤l):Wk b l m m':=⟨g.inn,g.live,g.n0,by have:=g.nx;omega,by have:=g.ins;omega,g.ext⟩
theorem In.took (q:In b m):In b m.took:=⟨q.ok.at (Int.le_refl _),q.lt,q.live⟩
theorem Ext.same (e:Ext m m') {m2:MS} (h1:m2.ps=m'.ps) (h2:m2.blocks=m'.blocks):Ext m m2:=by
 obtain ⟨a,b,c,d,f⟩:=e
 exact ⟨by rw [h1];exact a,by rw [h2];exact b,by rw [h2];exact c,by rw [h2];exact d,by rw [h2];exact f⟩
theorem Ext.frm {m2:MS} (e:Ext m2 m') (h1:m2.ps=m.ps) (h2:m2.blocks=m.blocks):Ext m m':=by
 obtain ⟨a,b,c,d,f⟩:=e
 rw [h2] at b c d f
 exact ⟨by rw [←h1];exact a,b,c,d,f⟩
theorem Wk.took (g:Wk b k m m'):Wk b k m m'.took:=⟨g.inn.took,g.live,g.n0,g.nx,g.ins,g.ext.same rfl rfl⟩
theorem In.add (q:In b m) {a:Nat} {j:Nat} {i:InsD} (hj:j≤2) (hf : ∀ v∈aI i,m.next≤v∧v<m.next+j) (hd:(aI i).Nodup) (ho:iq i=false∧NumI i) (ha : ∀ v∈i.args,v∈m.live) :
  Wk b (max 1 j) m (MS.add ⟨a,m.ps,m.blocks,m.next+j,m.live⟩ b i)∧∀ v∈aI i,v∈(MS.add ⟨a,m.ps,m.blocks,m.next+j,m.live⟩ b i).live:=by
 have e:Ext m (MS.add ⟨a,m.ps,m.blocks,m.next+j,m.live⟩ b i):=(rL (m:=⟨a,m.ps,m.blocks,m.next+j,m.live⟩) (i:=i) q.lt).frm rfl rfl
 refine ⟨⟨⟨q.ok.add q.lt (by omega) hf hd ho fun v hv=>q.live v (ha v hv),by rw [e.len];exact q.lt,fun v hv=>?_⟩,fun v hv=>List.mem_append_left _ hv,by show m.next≤m.next+j;omega,by show m.next+j≤_;omega,?_,e⟩,fun v hv=>List.mem_append_right _ hv⟩
 ·rcases List.mem_append.1 (show v∈m.live++aI i from hv) with h | h
  ·exact (q.live v h).end e
  ·exact yQ q.lt h
 ·rw [ky (m:=⟨a,m.ps,m.blocks,m.next+j,m.live⟩) q.lt,if_pos rfl]
  show ((nth m.blocks b).ins++[i]).length≤_
  rw [List.length_append,List.length_singleton];omega
theorem In.one (q:In b m) {op:Int} {a:Nat} {x:List Int} {im:I32} (h16:op≠16) (h18:op≠18) (ho:iq ⟨op,m.next,0,x,im⟩=false) (ha : ∀ v∈x,v∈m.live) :
  Wk b 1 m (MS.add ⟨a,m.ps,m.blocks,m.next+1,m.live⟩ b ⟨op,m.next,0,x,im⟩)∧m.next∈(MS.add ⟨a,m.ps,m.blocks,m.next+1,m.live⟩ b ⟨op,m.next,0,x,im⟩).live:=by
 have e:aI ⟨op,m.next,0,x,im⟩=[m.next]:=by unfold aI;rw [if_neg h16,if_neg h18]
 have:=q.add (a:=a) (j:=1) (i:=⟨op,m.next,0,x,im⟩) (by omega) (by rw [e];intro v hv;rw [List.mem_singleton.1 hv];omega) (by rw [e];simp) ⟨ho,fun h=>absurd h h16,fun _=>rfl⟩ ha
 exact ⟨this.1,this.2 _ (by rw [e];exact List.mem_singleton.2 rfl)⟩
theorem In.constant (q:In b m) {n:Int}:Wk b 1 m (m.constant b n)∧m.next∈(m.constant b n).live:=
 q.one (a:=m.at_) (op:=1) (by decide) (by decide) rfl fun v hv=>by cases hv
theorem In.two (q:In b m) {op x y:Int} (h1:2≤op) (h2:op≤14) (hx:x∈m.live) (hy:y∈m.live):Wk b 1 m (m.two b op x y)∧m.next∈(m.two b op x y).live:=by
 refine q.one (a:=m.at_) (op:=op) (by omega) (by omega) ?_ fun v hv=>?_
 ·have e1:¬op<1:=by omega
  have e2:¬18<op:=by omega
  have e3:op≠1:=by omega
  have e4:op≠15:=by omega
  have e5:op≠17:=by omega
  simp [iq,ml,e1,e2,e3,e4,e5]
 ·rcases List.mem_cons.1 hv with rfl | hv
  ·exact hx
  ·rw [List.mem_singleton.1 hv];exact hy
theorem In.cQ (q:In b m):Wk b 1 m (aG s m b).2∧(aG s m b).1∈(aG s m b).2.live:=by
 unfold aG
 split
 ·obtain ⟨h1,h2⟩:=q.took.took.constant (n:=mC s m)
  exact ⟨(Wk.refl q).took.took.trans h1,h2⟩
 ·split
  ·obtain ⟨h1,h2⟩:=q.took.took.took.took.took.constant (n:=mC s m.took.took.took)
   exact ⟨(Wk.refl q).took.took.took.took.took.trans h1,h2⟩
  ·rename_i h _
   refine ⟨(Wk.refl q).took.took.took.mono (by omega),?_⟩
   show ny s m∈m.live
   have:=dh (s:=s) (at_:=m.at_) (n:=(m.live.length:Int)) (by omega)
   unfold ny
   refine bW ?_
   split<;>omega
theorem In.bin (q:In b m) {op:Int} (h1:2≤op) (h2:op≤14):Wk b 4 m (binS s m b op):=by
 obtain ⟨w1,e1⟩:=q.cQ (s:=s)
 obtain ⟨w2,e2⟩:=w1.inn.cQ (s:=s)
 unfold binS
 simp only
 split
 ·obtain ⟨w3,e3⟩:=w2.inn.took.took.constant (n:=IntKind.i32.wrap (IntKind.i64.wrap (aP s ((aG s (aG s m b).2 b).2.at_+1) 40-8)))
  obtain ⟨w4,_⟩:=w3.inn.two h1 h2 (w3.live _ (w2.live _ e1)) e3
  exact ((w1.trans w2).took.took.trans w3).trans w4
 ·obtain ⟨w4,_⟩:=w2.inn.took.two h1 h2 (w2.live _ e1) e2
  exact ((w1.trans w2).took.trans w4).mono (by omega)
theorem In.ltu (q:In b m):Wk b 3 m (ltuS s m b):=by
 obtain ⟨w1,e1⟩:=q.cQ (s:=s)
 obtain ⟨w2,e2⟩:=w1.inn.cQ (s:=s)
 obtain ⟨w3,_⟩:=w2.inn.two (op:=13) (by decide) (by decide) (w2.live _ e1) e2
 exact (w1.trans w2).trans w3
theorem In.div (q:In b m):Wk b 4 m (divS s m b):=by
 obtain ⟨w1,e1⟩:=q.cQ (s:=s)
 obtain ⟨w2,e2⟩:=w1.inn.took.constant (n:=IntKind.i32.wrap (aP s (aG s m b).2.at_ 12))
 unfold divS
 simp only
 split
 ·obtain ⟨w3,e3⟩:=w2.inn.took.took.constant (n:=IntKind.i32.wrap (1+IntKind.i32.wrap (aP s (((aG s m b).2.took.constant b (IntKind.i32.wrap (aP s (aG s m b).2.at_ 12))).at_+1) 12)))
  obtain ⟨w4,_⟩:=w3.inn.two (op:=14) (by decide) (by decide) (w3.live _ (w2.live _ e1)) e3
  exact (((w1.took.trans w2).took.took.trans w3).trans w4)
 ·obtain ⟨w4,_⟩:=w2.inn.took.two (op:=14) (by decide) (by decide) (w2.live _ e1) e2
  exact ((w1.took.trans w2).took.trans w4).mono (by omega)
theorem In.mulw (q:In b m):Wk b 4 m (pC s m b):=by
 obtain ⟨w1,e1⟩:=q.cQ (s:=s)
 obtain ⟨w2,e2⟩:=w1.inn.cQ (s:=s)
 generalize hr:aG s (aG s m b).2 b=r at w2 e2
 have e:aI ⟨18,r.2.next,r.2.next+1,[(aG s m b).1,r.1],⟨0⟩⟩=[r.2.next,r.2.next+1]:=rfl
 have:=w2.inn.add (a:=r.2.at_) (j:=2) (i:=⟨18,r.2.next,r.2.next+1,[(aG s m b).1,r.1],⟨0⟩⟩) (by omega) (by
  rw [e];intro v hv
  rcases List.mem_cons.1 hv with rfl | hv
  ·omega
  ·rw [List.mem_singleton.1 hv];omega) (by rw [e];simp;omega) ⟨rfl,fun h=>absurd h (show (18:Int)≠16 by decide),fun h=>absurd rfl h⟩ (fun v hv=>by
  rcases List.mem_cons.1 hv with rfl | hv
  ·exact w2.live _ e1
  ·rw [List.mem_singleton.1 hv];exact e2)
 have h:=(w1.trans w2).trans this.1
 have e3:pC s m b=MS.add ⟨r.2.at_,r.2.ps,r.2.blocks,r.2.next+2,r.2.live⟩ b ⟨18,r.2.next,r.2.next+1,[(aG s m b).1,r.1],⟨0⟩⟩:=by
  unfold pC
  simp only [hr]
  unfold MS.add MS.aJ
  simp only [MS.mk.injEq,and_true,true_and]
  omega
 rw [e3]
 exact h.mono (by omega)
theorem In.args (q:In b m) : ∀ n,Wk b n m (up (fL s b) n ([],m)).2∧(up (fL s b) n ([],m)).1.length=n∧∀ v∈(up (fL s b) n ([],m)).1,v∈(up (fL s b) n ([],m)).2.live
 | 0=>⟨.refl q,rfl,fun v hv=>by cases hv⟩
 | n+1=>by
  obtain ⟨h1,h2,h3⟩:=In.args q n
  obtain ⟨w,e⟩:=h1.inn.cQ (s:=s)
  refine ⟨h1.trans w,?_,fun v hv=>?_⟩
  ·show (_++[_]).length=_
   rw [List.length_append,h2];rfl
  ·rcases List.mem_append.1 (show v∈(up (fL s b) n ([],m)).1++[(aG s (up (fL s b) n ([],m)).2 b).1] from hv) with h | h
   ·exact w.live _ (h3 v h)
   ·rw [List.mem_singleton.1 h];exact e
theorem In.call (q:In b m):Wk b 5 m (jY s m b):=by
 unfold jY
 simp only
 have ht:=dh (s:=s) (at_:=m.at_) (n:=5) (by decide)
 obtain ⟨h1,h2,h3⟩:=q.took.args (s:=s) (aP s m.at_ 5).toNat
 generalize up (fL s b) (aP s m.at_ 5).toNat ([],m.took)=r at h1 h2 h3
 have hl:((r.1.length:Nat):Int)≤4:=by omega
 have w:=h1.inn.one (a:=r.2.at_+1) (op:=17) (x:=r.1) (im:=⟨IntKind.i32.wrap (aP s r.2.at_ 5)⟩) (by decide) (by decide) (by simp [iq,ml];omega) h3
 have h:Wk b 0 m m.took:=(Wk.refl q).took
 exact ((h.trans h1).trans w.1).mono (by omega)
theorem In.addr (q:In b m):Wk b 5 m (gk s m b).2∧(gk s m b).1∈(gk s m b).2.live:=by
 obtain ⟨w1,e1⟩:=q.took.constant (n:=IntKind.i32.wrap (aP s m.at_ 9))
 have h:Wk b 0 m m.took:=(Wk.refl q).took
 have w1:=h.trans w1
 have e1:m.next∈_:=e1
 unfold gk
 simp only
 split
 ·obtain ⟨w2,e2⟩:=w1.inn.took.cQ (s:=s)
  obtain ⟨w3,e3⟩:=w2.inn.constant (n:=7)
  obtain ⟨w4,e4⟩:=w3.inn.two (op:=5) (by decide) (by decide) (w3.live _ e2) e3
  obtain ⟨w5,e5⟩:=w4.inn.two (op:=2) (by decide) (by decide) (w4.live _ (w3.live _ (w2.live _ e1))) e4
  exact ⟨(((w1.took.trans w2).trans w3).trans w4).trans w5,e5⟩
 ·exact ⟨w1.took.mono (by omega),e1⟩
theorem In.off (q:In b m):Wk b 0 m (offS s m).2∧(offS s m).2.live=m.live:=by
 unfold offS
 split
 ·exact ⟨(Wk.refl q).took.took.took.took,rfl⟩
 ·exact ⟨(Wk.refl q).took.took,rfl⟩
theorem In.memory (q:In b m) {st:Bool}:Wk b 7 m (gG s m b st):=by
 obtain ⟨w1,e1⟩:=q.addr (s:=s)
 obtain ⟨w2,_⟩:=w1.inn.off (s:=s)
 unfold gG
 simp only
 split
 ·obtain ⟨w3,e3⟩:=w2.inn.cQ (s:=s)
  generalize hr:aG s (offS s (gk s m b).2).2 b=r at w3 e3
  have:=w3.inn.add (a:=r.2.at_) (j:=0) (i:=⟨16,0,0,[(gk s m b).1,r.1],⟨(offS s (gk s m b).2).1⟩⟩) (by omega) (fun v hv=>by cases hv) List.nodup_nil ⟨rfl,fun _=>rfl,fun _=>rfl⟩ (fun v hv=>by
   rcases List.mem_cons.1 hv with rfl | hv
   ·exact w3.live _ (w2.live _ e1)
   ·rw [List.mem_singleton.1 hv];exact e3)
  have e:(⟨r.2.at_,r.2.ps,r.2.blocks,r.2.next+((0:Nat):Int),r.2.live⟩:MS)=r.2:=by
   cases r.2;simp
  rw [e] at this
  exact ((w1.trans w2).trans w3).trans this.1
 ·have w:=w2.inn.one (a:=(offS s (gk s m b).2).2.at_) (op:=15) (x:=[(gk s m b).1]) (im:=⟨(offS s (gk s m b).2).1⟩) (by decide) (by decide) rfl (fun v hv=>by rw [List.mem_singleton.1 hv];exact w2.live _ e1)
  exact ((w1.trans w2).trans w.1).mono (by omega)
theorem In.fg (q:In b m):Wk b 7 m (bh s b m):=by
 have h:Wk b 0 m m.took:=(Wk.refl q).took
 have ht:=dh (s:=s) (at_:=m.at_) (n:=20) (by decide)
 unfold bh
 simp only
 split
 ·have h2 : ∀ x∈opsL,2≤x∧x≤14:=by decide
  have hl:opsL.length=12:=rfl
  have:=h2 _ (bW (l:=opsL) (i:=(aP s m.at_ 20).toNat) (by omega))
  exact (h.trans (q.took.bin this.1 this.2)).mono (by omega)
 split
 ·exact (h.trans q.took.ltu).mono (by omega)
 split
 ·exact (h.trans q.took.div).mono (by omega)
 split
 ·exact (h.trans q.took.memory).mono (by omega)
 split
 ·exact (h.trans q.took.call).mono (by omega)
 split
 ·exact (h.trans q.took.mulw).mono (by omega)
 ·exact ((Wk.refl q).took.took.took.trans (q.took.took.took.constant (n:=mC s m.took)).1).mono (by omega)
theorem In.cG (q:In b m) : ∀ n,Wk b (7*n) m (up (fun _=>bh s b) n m)
 | 0=>.refl q
 | n+1=>by
  have h:=In.cG q n
  exact (h.trans h.inn.fg).mono (by omega)
theorem In.term (q:In b m) {to:List Int} (hl:to.length≤65):Wk b 3 m (dC s to b m).2∧fq (dC s to b m).1=true∧(dC s to b m).1.to=to∧∀ v∈(dC s to b m).1.args,v∈(dC s to b m).2.live:=by
 have h:Wk b 0 m m.took:=(Wk.refl q).took
 unfold dC
 simp only
 split
 ·rename_i h0
  have hto:to=[]:=List.length_eq_zero_iff.1 h0
  split
  ·exact ⟨(Wk.refl q).took.took.mono (by omega),rfl,hto.symm,fun v hv=>by cases hv⟩
  split
  ·obtain ⟨w,e⟩:=q.took.cQ (s:=s)
   exact ⟨(h.trans w).mono (by omega),rfl,hto.symm,fun v hv=>by rw [List.mem_singleton.1 hv];exact e⟩
  ·exact ⟨h.mono (by omega),rfl,hto.symm,fun v hv=>by cases hv⟩
 split
 ·rename_i h1
  exact ⟨(Wk.refl q).mono (by omega),by simp [fq,h1],rfl,fun v hv=>by cases hv⟩
 split
 ·rename_i h2
  obtain ⟨w1,e1⟩:=q.cQ (s:=s)
  split
  ·obtain ⟨w2,e2⟩:=w1.inn.took.cQ (s:=s)
   generalize aG s (aG s m b).2.took b=r at w2 e2
   have hr:=dh (s:=s) (at_:=r.2.at_) (n:=3) (by decide)
   have hop : ∀ x∈cmpL,11≤x∧x≤13:=by decide
   have hcl:cmpL.length=3:=rfl
   have ho:=hop _ (bW (l:=cmpL) (i:=(aP s r.2.at_ 3).toNat) (by omega))
   generalize nth cmpL (aP s r.2.at_ 3).toNat=op at ho
   have w3:=w2.inn.one (a:=r.2.at_+1) (op:=op) (x:=[(aG s m b).1,r.1]) (im:=⟨0⟩) (by omega) (by omega) (by
    have e1:¬op<1:=by omega
    have e2:¬18<op:=by omega
    have e3:op≠1:=by omega
    have e4:op≠15:=by omega
    have e5:op≠17:=by omega
    simp [iq,ml,e1,e2,e3,e4,e5]) (fun v hv=>by
    rcases List.mem_cons.1 hv with rfl | hv
    ·exact w2.live _ e1
    ·rw [List.mem_singleton.1 hv];exact e2)
   exact ⟨(w1.took.trans w2).trans w3.1,by simp [fq,h2],rfl,fun v hv=>by rw [List.mem_singleton.1 hv];exact w3.2⟩
  ·exact ⟨w1.took.mono (by omega),by simp [fq,h2],rfl,fun v hv=>by rw [List.mem_singleton.1 hv];exact e1⟩
 ·rename_i h0 h1 h2
  obtain ⟨w1,e1⟩:=q.cQ (s:=s)
  obtain ⟨w2,e2⟩:=w1.inn.constant (n:=7)
  obtain ⟨w3,e3⟩:=w2.inn.two (op:=5) (by decide) (by decide) (w2.live _ e1) e2
  exact ⟨(w1.trans w2).trans w3,by simp [fq];omega,rfl,fun v hv=>by rw [List.mem_singleton.1 hv];exact e3⟩
end
end Go.Proofs.Ytbkdlhkoiagbbaa
namespace Go.Proofs.Ytbkdlhkoiagbbaa
open Go Go.Lft
structure Tt (n k c:Nat) (x:TgS):Prop where
 len:x.1.length=n
 row : ∀ i,(nth x.1 i).length≤c
 rng : ∀ i,∀ v∈nth x.1 i,1≤v∧v<n
 way : ∀ b:Nat,1≤b→b≤k→∃ a,a<b∧(b:Int)∈nth x.1 a
section
variable {s:List Int} {n k c:Nat} {x:TgS}
theorem Tt.mono {d:Nat} (h:Tt n k c x) (hd:c≤d):Tt n k d x:=⟨h.len,fun i=>Nat.le_trans (h.row i) hd,h.rng,h.way⟩
end
structure Gt (n:Nat) (to:List (List Int)) (m:MS):Prop where
 len:m.blocks.length=n
 to : ∀ j,j<n→(nth m.blocks j).term.to=nth to j
section
variable {s:List Int} {n:Nat} {to:List (List Int)} {m m':MS} {b:Nat}
theorem Gt.ext (g:Gt n to m) (e:Ext m m'):Gt n to m':=⟨e.len.trans g.len,fun j hj=>(e.to j).trans (g.to j hj)⟩
theorem Re.congr {g g':Gr} (e:g=g') {a:Int} {b:Nat}:Re g a b↔Re g' a b:=by rw [e]
theorem jn {j:Nat} (hb:b<m.blocks.length):nth (dg b m).blocks j=if b=j then { nth m.blocks b with phis:=(nth m.blocks b).phis++[⟨m.next,[]⟩] } else nth m.blocks j:=by
 show nth (m.blocks.set b _) j=_
 rcases Nat.lt_or_ge j m.blocks.length with hl | hl
 ·rw [az hl]
 ·rw [aU (by simpa using hl),if_neg (by omega),aU hl]
structure P0 (n:Nat) (to:List (List Int)) (m:MS):Prop where
 gt:Gt n to m
 ok:Ok m
 none : ∀ j,j<n→(nth m.blocks j).ins=[]
theorem Ad {x:BlkD} {v:Int} (h:x.ins=[]):mkB { x with phis:=x.phis++[⟨v,[]⟩] }=mkB x++[v]:=by
 unfold mkB
 simp [h]
theorem P0.dg (q:P0 n to m) (hb:b<n):P0 n to (dg b m):=by
 have hbl:b<m.blocks.length:=by rw [q.gt.len];exact hb
 have hl:(Go.Proofs.Ytbkdlhkoiagbbaa.dg b m).blocks.length=m.blocks.length:=List.length_set
 have hlen:=q.gt.len
 have e:Ext m (Go.Proofs.Ytbkdlhkoiagbbaa.dg b m):=by
  refine ⟨rfl,hl,fun j=>?_,fun j=>?_,fun j=>?_⟩<;>rw [jn hbl]<;>split
  ·rename_i e;rw [e]
  ·rfl
  ·rename_i e;rw [←e];intro v hv
   show v∈(List.map PhiD.dst ((nth m.blocks b).phis++[_]))
   rw [List.map_append];exact List.mem_append_left _ hv
  ·exact fun _ h=>h
  ·rename_i e;rw [e];exact ⟨[],by simp⟩
  ·exact ⟨[],by simp⟩
 have hin : ∀ j,(nth (Go.Proofs.Ytbkdlhkoiagbbaa.dg b m).blocks j).ins=(nth m.blocks j).ins:=fun j=>by
  rw [jn hbl];split
  ·rename_i e;rw [e]
  ·rfl
 have htm : ∀ j,(nth (Go.Proofs.Ytbkdlhkoiagbbaa.dg b m).blocks j).term=(nth m.blocks j).term:=fun j=>by
  rw [jn hbl];split
  ·rename_i e;rw [e]
  ·rfl
 have hmk : ∀ j,j<n→mkB (nth (Go.Proofs.Ytbkdlhkoiagbbaa.dg b m).blocks j)=if b=j then mkB (nth m.blocks j)++[m.next] else mkB (nth m.blocks j):=fun j hj=>by
  rw [jn hbl];split
  ·rename_i e;rw [Ad (q.none b hb),e]
  ·rfl
 have k:=q.ok
 refine ⟨q.gt.ext e,⟨k.p0,by have:=k.pn;show m.ps≤m.next+1;omega,fun c hc=>?_,fun c hc=>?_,fun c d hc hd hcd=>?_,fun c hc=>?_,fun c hc i hi=>?_,fun c hc v hv=>?_⟩,fun j hj=>by rw [hin];exact q.none j hj⟩<;>rw [hl] at hc
 ·rw [hin];exact k.op c hc
 ·rw [hmk c (by omega)];split
  ·refine List.nodup_append.2 ⟨k.nd c hc,by simp,fun x hx y hy=>?_⟩
   have:=(k.rg c hc x hx).2
   have:=List.mem_singleton.1 hy
   omega
  ·exact k.nd c hc
 ·rw [hl] at hd
  rw [hmk c (by omega),hmk d (by omega)]
  intro v hv hv'
  have h1:v∈mkB (nth m.blocks c)∨(b=c∧v=m.next):=by
   split at hv
   ·rcases List.mem_append.1 hv with h | h
    ·exact .inl h
    ·exact .inr ⟨‹_›,List.mem_singleton.1 h⟩
   ·exact .inl hv
  have h2:v∈mkB (nth m.blocks d)∨(b=d∧v=m.next):=by
   split at hv'
   ·rcases List.mem_append.1 hv' with h | h
    ·exact .inl h
    ·exact .inr ⟨‹_›,List.mem_singleton.1 h⟩
   ·exact .inl hv'
  rcases h1 with h1 | ⟨h1,h1'⟩
  ·rcases h2 with h2 | ⟨h2,h2'⟩
   ·exact k.dj c d hc hd hcd v h1 h2
   ·have:=(k.rg c hc v h1).2;omega
  ·rcases h2 with h2 | ⟨h2,h2'⟩
   ·have:=(k.rg d hd v h2).2;omega
   ·exact hcd (h1.symm.trans h2)
 ·rw [hmk c (by omega)]
  intro v hv
  have h1:v∈mkB (nth m.blocks c)∨v=m.next:=by
   split at hv
   ·rcases List.mem_append.1 hv with h | h
    ·exact .inl h
    ·exact .inr (List.mem_singleton.1 h)
   ·exact .inl hv
  show m.ps≤v∧v<m.next+1
  rcases h1 with h1 | h1
  ·have:=k.rg c hc v h1;omega
  ·have:=k.pn;omega
 ·rw [hin,q.none c (by omega)] at hi
  exact absurd hi (Nat.not_lt_zero _)
 ·rw [htm] at hv
  exact (k.tm c hc v hv).end e
theorem P0.took (q:P0 n to m):P0 n to m.took:=⟨⟨q.gt.len,q.gt.to⟩,q.ok.at (Int.le_refl _),q.none⟩
theorem P0.kh (q:P0 n to m) (hb:b<n) : ∀ k,P0 n to (up (fun _=>Go.Proofs.Ytbkdlhkoiagbbaa.dg b) k m)∧(up (fun _=>Go.Proofs.Ytbkdlhkoiagbbaa.dg b) k m).next=m.next+k
 | 0=>⟨q,by show m.next=m.next+((0:Nat):Int);omega⟩
 | k+1=>by
  obtain ⟨h1,h2⟩:=P0.kh q hb k
  refine ⟨h1.dg hb,?_⟩
  show (up (fun _=>Go.Proofs.Ytbkdlhkoiagbbaa.dg b) k m).next+1=_
  rw [h2];omega
theorem P0.phis {lp:List Int} (q:P0 n to m) : ∀ k,k<n→P0 n to (up (js s) k (lp,m)).2∧(up (js s) k (lp,m)).2.next≤m.next+3*k∧nth (up (js s) k (lp,m)).1 0=nth lp 0
 | 0,_=>⟨q,by show m.next≤_;omega,rfl⟩
 | k+1,hk=>by
  obtain ⟨h1,h2,h3⟩:=P0.phis (lp:=lp) q k (by omega)
  have e:up (js s) (k+1) (lp,m)=js s k (up (js s) k (lp,m)):=rfl
  rw [e]
  generalize up (js s) k (lp,m)=y at h1 h2 h3
  obtain ⟨c0,c1⟩:=uX (s:=s) (m:=y.2) (b:=k+1)
  obtain ⟨h4,h5⟩:=h1.took.kh (b:=k+1) hk (lZ s y.2 (k+1)).toNat
  refine ⟨h4,?_,?_⟩
  ·show (up (fun _=>Go.Proofs.Ytbkdlhkoiagbbaa.dg (k+1)) (lZ s y.2 (k+1)).toNat y.2.took).next≤_
   rw [h5]
   show y.2.next+_≤_
   omega
  ·show nth (y.1.set (k+1) _) 0=_
   rcases Nat.lt_or_ge 0 y.1.length with hl | hl
   ·rw [az hl,if_neg (by omega)];exact h3
   ·rw [aU (by simpa using hl),←h3,aU hl]
def cnt0:BL→Nat
 | []=>0
 | a::l=>(if a=true then 0 else 1)+cnt0 l
theorem jU {α:Type} [Inhabited α] {a:α} {l:List α} {j:Nat}:nth (a::l) (j+1)=nth l j:=by simp [nth]
theorem vV : ∀ {l l':BL},l.length=l'.length→(∀ j,j<l.length→nth l j=true→nth l' j=true)→cnt0 l'≤cnt0 l
 | [],[],_,_=>Nat.le_refl _
 | a::l,a'::l',hl,h=>by
  have h1:=vV (l:=l) (l':=l') (by simpa using hl) fun j hj=>by
   have:=h (j+1) (by simpa using hj)
   rwa [jU,jU] at this
  have h2:a=true→a'=true:=h 0 (by simp)
  unfold cnt0
  cases a<;>cases a'<;>simp_all<;>omega
theorem wJ : ∀ {l l':BL},l.length=l'.length→(∀ j,j<l.length→nth l j=true→nth l' j=true)→∀ b,b<l.length→nth l b=false→nth l' b=true→cnt0 l'<cnt0 l
 | [],[],_,_,b,hb,_,_=>absurd hb (Nat.not_lt_zero _)
 | a::l,a'::l',hl,h,b,hb,h0,h1=>by
  have hr : ∀ j,j<l.length→nth l j=true→nth l' j=true:=fun j hj=>by
   have:=h (j+1) (by simpa using hj)
   rwa [jU,jU] at this
  have hll:l.length=l'.length:=by simpa using hl
  have h2:a=true→a'=true:=h 0 (by simp)
  match b,hb,h0,h1 with
  | 0,_,h0,h1=>
   have h0:a=false:=h0
   have h1:a'=true:=h1
   have:=vV hll hr
   unfold cnt0
   rw [h0,h1]
   simp
   omega
  | b+1,hb,h0,h1=>
   rw [jU] at h0 h1
   have:=wJ hll hr b (by simpa using hb) h0 h1
   unfold cnt0
   cases a<;>cases a'<;>simp_all<;>omega
theorem zS (hl:m.blocks.length=n) {a:Nat} (ha:a<n) (hb:b<n):nth (nth (iL m.f n) a) b=true↔Re (ofG m.blocks) (a:Int) b:=by
 unfold iL
 rw [cm ha]
 exact dQ (by show b<m.blocks.length;omega)
theorem zV {dn:BL} (hp:0≤m.ps) (hl:m.blocks.length=n) (hb:b<n) : ∀ v∈jF m dn (iL m.f n) b n,Sd m b (nth m.blocks b).ins.length v:=by
 have key : ∀ k,k≤n→∀ v∈up (gQ m dn (iL m.f n) b) k (rows (fun i=>(i:Int)) m.ps.toNat),Sd m b (nth m.blocks b).ins.length v:=by
  intro k
  induction k with
  | zero=>
   intro _ v hv
   obtain ⟨i,hi,rfl⟩:=om.1 hv
   exact .inl ⟨by omega,by omega⟩
  | succ k ih=>
   intro hk v hv
   have hv:v∈gQ m dn (iL m.f n) b k (up (gQ m dn (iL m.f n) b) k (rows (fun i=>(i:Int)) m.ps.toNat)):=hv
   unfold gQ at hv
   split at hv
   ·exact ih (by omega) v hv
   ·rename_i hc
    rw [List.append_assoc] at hv
    rcases List.mem_append.1 hv with h1 | h1
    ·exact ih (by omega) v h1
    ·clear hv
     rcases Nat.decEq k b with e | e
     ·refine .inr (.inr (.inr ⟨k,by omega,e,h1,fun hr=>hc ?_⟩))
      rw [(zS hl (by omega) hb).2 hr]
      simp [e]
     ·subst e
      rcases List.mem_append.1 h1 with h2 | h2
      ·exact .inr (.inl h2)
      ·refine .inr (.inr (.inl ?_))
       rw [List.take_length];exact h2
 exact key n (Nat.le_refl _)
theorem Ok.dd (q:In b m) {t:de} (ht:t.to=(nth m.blocks b).term.to) (ha : ∀ v∈t.args,v∈m.live):Ok (m.dd b t)∧Ext m (m.dd b t):=by
 have hnth : ∀ j,nth (m.dd b t).blocks j=if b=j then { nth m.blocks b with term:=t } else nth m.blocks j:=fun j=>by
  show nth (m.blocks.set b _) j=_
  rcases Nat.lt_or_ge j m.blocks.length with hl | hl
  ·rw [az hl]
  ·have:=q.lt
   rw [aU (by simpa using hl),if_neg (by omega),aU hl]
 have hl:(m.dd b t).blocks.length=m.blocks.length:=List.length_set
 have hin : ∀ j,(nth (m.dd b t).blocks j).ins=(nth m.blocks j).ins:=fun j=>by
  rw [hnth];split
  ·rename_i e;rw [e]
  ·rfl
 have hph : ∀ j,(nth (m.dd b t).blocks j).phis=(nth m.blocks j).phis:=fun j=>by
  rw [hnth];split
  ·rename_i e;rw [e]
  ·rfl
 have e:Ext m (m.dd b t):=⟨rfl,hl,fun j=>by
  rw [hnth];split
  ·rename_i e;rw [←e];exact ht
  ·rfl,fun j v h=>by rw [hph];exact h,fun j=>⟨[],by rw [hin];simp⟩⟩
 have hmk : ∀ j,mkB (nth (m.dd b t).blocks j)=mkB (nth m.blocks j):=fun j=>by unfold mkB;rw [hin,hph]
 have k:=q.ok
 refine ⟨⟨k.p0,k.pn,fun c hc=>?_,fun c hc=>?_,fun c d hc hd=>?_,fun c hc=>?_,fun c hc i hi v hv=>?_,fun c hc v hv=>?_⟩,e⟩<;>rw [hl] at hc
 ·rw [hin];exact k.op c hc
 ·rw [hmk];exact k.nd c hc
 ·rw [hl] at hd;rw [hmk,hmk];exact k.dj c d hc hd
 ·rw [hmk];exact k.rg c hc
 ·rw [hin] at hi hv;exact (k.tk c hc i hi v hv).ext e
 ·rw [hnth] at hv
  split at hv
  ·rename_i e1;subst e1
   exact (q.live v (ha v hv)).end e
  ·exact (k.tm c hc v hv).end e
structure D4 (n:Nat) (to:List (List Int)) (x:BL × MS):Prop where
 gt:Gt n to x.2
 ok:Ok x.2
 len:x.1.length=n
 term : ∀ j,j<n→nth x.1 j=true→fq (nth x.2.blocks j).term=true
 emp : ∀ j,j<n→nth x.1 j=false→(nth x.2.blocks j).ins.length=0
 ins : ∀ j,j<n→(nth x.2.blocks j).ins.length≤45
 nx:x.2.next+45*(cnt0 x.1:Nat)≤28+45*n
theorem D4.step {x:BL × MS} (q:D4 n to x) (hb:b<n) (ht:(nth to b).length≤65):D4 n to (dE s to n b x)∧(∀ j,nth x.1 j=true→nth (dE s to n b x).1 j=true)∧(pw x.1 (iL x.2.f n) b n=true→nth (dE s to n b x).1 b=true):=by
 unfold dE
 have hlen:=q.gt.len
 have hbl:b<x.2.blocks.length:=by rw [hlen];exact hb
 split
 ·rename_i hr
  have hd:=qx hr
  have hset : ∀ j,nth (x.1.set b true) j=if b=j then true else nth x.1 j:=fun j=>by
   have:=q.len
   rcases Nat.lt_or_ge j x.1.length with hl | hl
   ·rw [az hl]
   ·rw [aU (by simpa using hl),if_neg (by omega),aU hl]
  generalize hdn:x.1.set b true=dn at hset
  have hdl:dn.length=n:=by rw [←hdn,List.length_set];exact q.len
  have hmono : ∀ j,nth x.1 j=true→nth dn j=true:=fun j hj=>by rw [hset];split<;>simp_all
  have hlt:cnt0 dn<cnt0 x.1:=wJ (by rw [hdl];exact q.len) (fun j _=>hmono j) b (by rw [q.len];exact hb) hd (by rw [hset,if_pos rfl])
  refine ⟨?_,hmono,fun _=>by rw [hset,if_pos rfl]⟩
  generalize hm1:(MS.took { x.2 with live:=jF x.2 dn (iL x.2.f n) b n }:MS)=m1
  have hB:m1.blocks=x.2.blocks:=by rw [←hm1];rfl
  have hN:m1.next=x.2.next:=by rw [←hm1];rfl
  have i1:In b m1:=by
   rw [←hm1]
   exact ⟨q.ok.at (Int.le_refl _),hbl,zV (m:=x.2) (dn:=dn) q.ok.p0 hlen hb⟩
  have tk:=dh (s:=s) (at_:=x.2.at_) (n:=7) (by decide)
  have w1:=i1.cG (s:=s) (aP s x.2.at_ 7).toNat
  obtain ⟨w2,t1,t2,t3⟩:=w1.inn.term (s:=s) ht
  have g:=((Grw.refl (b:=b) (m:=m1)).cG (s:=s) i1.lt (aP s x.2.at_ 7).toNat).yb (s:=s) (to:=nth to b) i1.lt
  have w:=w1.trans w2
  have eD:eY s to n dn (iL x.2.f n) b x.2=mX s (nth to b) b (up (fun _=>bh s b) (aP s x.2.at_ 7).toNat m1):=by rw [←hm1];rfl
  rw [eD]
  unfold mX
  generalize dC s (nth to b) b (up (fun _=>bh s b) (aP s x.2.at_ 7).toNat m1)=r at w2 t1 t2 t3 g w
  have e0:Ext x.2 r.2:=by
   have e:=w.ext
   exact ⟨by rw [e.ps,←hm1];rfl,by rw [e.len,hB],fun j=>by rw [e.to,hB],fun j v hv=>e.phis j v (by rw [hB];exact hv),fun j=>by have:=e.ins j;rw [hB] at this;exact this⟩
  have gt2:=q.gt.ext e0
  obtain ⟨k1,k2⟩:=Ok.dd w2.inn (t:=r.1) (by rw [t2,gt2.to b hb]) t3
  have hnth : ∀ j,nth (r.2.dd b r.1).blocks j=if b=j then { nth r.2.blocks b with term:=r.1 } else nth r.2.blocks j:=fun j=>by
   show nth (r.2.blocks.set b _) j=_
   have:=gt2.len
   rcases Nat.lt_or_ge j r.2.blocks.length with hl | hl
   ·rw [az hl]
   ·rw [aU (by simpa using hl),if_neg (by omega),aU hl]
  have hels : ∀ j,b≠j→nth (r.2.dd b r.1).blocks j=nth x.2.blocks j:=fun j hj=>by
   rw [hnth,if_neg hj,g.els j (fun e=>hj e.symm),hB]
  have hlen0:=q.emp b hb hd
  refine ⟨gt2.ext k2,k1,hdl,fun j hj h=>?_,fun j hj h=>?_,fun j hj=>?_,?_⟩
  ·by_cases e:b=j
   ·show fq (nth (r.2.dd b r.1).blocks j).term=true
    rw [hnth,if_pos e];exact t1
   ·show fq (nth (r.2.dd b r.1).blocks j).term=true
    rw [hels j e]
    refine q.term j hj ?_
    have h:nth dn j=true:=h
    rw [hset,if_neg e] at h;exact h
  ·have h:nth dn j=false:=h
   rw [hset] at h
   split at h
   ·cases h
   ·rename_i e
    show (nth (r.2.dd b r.1).blocks j).ins.length=0
    rw [hels j e];exact q.emp j hj h
  ·show (nth (r.2.dd b r.1).blocks j).ins.length≤45
   by_cases e:b=j
   ·rw [hnth,if_pos e]
    have:=w.ins
    rw [hB] at this
    show (nth r.2.blocks b).ins.length≤45
    omega
   ·rw [hels j e];exact q.ins j hj
  ·show r.2.next+45*((cnt0 dn:Nat):Int)≤_
   have:=w.nx
   have:=q.nx
   omega
 ·rename_i hr
  exact ⟨q,fun j h=>h,fun h=>absurd h hr⟩
end
end Go.Proofs.Ytbkdlhkoiagbbaa
namespace Go.Proofs.Ytbkdlhkoiagbbaa
open Go Go.Lft
section
variable {s:List Int} {n:Nat} {to:List (List Int)} {m m':MS} {b:Nat}
theorem ll {α:Type} [Inhabited α] {β:Type} {l:List α} {g:α→β}:rows (fun i=>g (nth l i)) l.length=l.map g:=by
 refine List.ext_getElem (by simp) fun i h1 h2=>?_
 have hi:i<l.length:=by simpa using h2
 simp [rows,aj hi]
theorem zJ {f:ae}:gz (thB f b)=mkB (nth f.blocks b):=by
 unfold thB gz mkB
 rw [List.flatMap_append,List.flatMap_append]
 have e1:(rows (phiT f b) (nth f.blocks b).phis.length).flatMap Th.mks=(nth f.blocks b).phis.map PhiD.dst:=by
  rw [←ll]
  unfold rows
  rw [List.flatMap_map]
  show (List.range _).flatMap (fun i=>[(nth (nth f.blocks b).phis i).dst])=_
  generalize List.range _=l
  induction l with
  | nil=>rfl
  | cons a l ih=>rw [List.flatMap_cons,ih,List.map_cons];rfl
 have e2:(rows (insT f b) (nth f.blocks b).ins.length).flatMap Th.mks=(nth f.blocks b).ins.flatMap aI:=by
  have h:(nth f.blocks b).ins.map aI=rows (fun i=>aI (nth (nth f.blocks b).ins i)) (nth f.blocks b).ins.length:=ll.symm
  rw [show (nth f.blocks b).ins.flatMap aI=((nth f.blocks b).ins.map aI).flatten from rfl,h]
  unfold rows
  rw [List.flatMap_map]
  rfl
 rw [e1,e2]
 simp [endT]
theorem BB {f:ae} {t:Th} {v:Int} (ht:t∈aM f) (hv:v∈t.mks) : ∃ b,b<f.blocks.length∧t.blk=b∧v∈mkB (nth f.blocks b):=by
 obtain ⟨b,hb,hm⟩:=cf.1 ht
 refine ⟨b,hb,?_,?_⟩
 ·rcases cN.1 hm with ⟨i,hi,rfl⟩ | ⟨i,hi,rfl⟩ | rfl<;>rfl
 ·rw [←zJ];exact List.mem_flatMap.2 ⟨t,hm,hv⟩
theorem tx (hp:0≤m.ps) (hb:b<m.blocks.length) {v:Int} (h:v∈gP m.f b):Sd m b (nth m.blocks b).ins.length v:=by
 have key : ∀ (l:List Th) (o:List Int),(∀ t∈l,t∈aM m.f)→(∀ v∈o,Sd m b (nth m.blocks b).ins.length v)→∀ v∈l.foldl (nc m.f b) o,Sd m b (nth m.blocks b).ins.length v:=by
  intro l
  induction l with
  | nil=>intro o _ ho v hv;exact ho v hv
  | cons t l ih=>
   intro o hl ho v hv
   rw [List.foldl_cons] at hv
   refine ih _ (fun x hx=>hl x (List.mem_cons_of_mem _ hx)) (fun v hv=>?_) v hv
   unfold nc at hv
   split at hv
   ·rename_i ha
    rcases List.mem_append.1 hv with hv | hv
    ·exact ho v hv
    ·obtain ⟨a,h1,h2,h3⟩:=BB (hl t List.mem_cons_self) hv
     rcases Nat.decEq a b with e | e
     ·refine .inr (.inr (.inr ⟨a,h1,e,h3,fun hr=>?_⟩))
      unfold yR at ha
      rw [h2,(dQ (f:=m.f) hb).2 hr] at ha
      simp at ha
      exact e (by omega)
     ·subst e
      rcases List.mem_append.1 h3 with h | h
      ·exact .inr (.inl h)
      ·refine .inr (.inr (.inl ?_))
       rw [List.take_length];exact h
   ·exact ho v hv
 unfold gP at h
 refine key _ _ (fun t h=>h) (fun v hv=>?_) v h
 obtain ⟨i,hi,rfl⟩:=om.1 hv
 have hi:i<m.ps.toNat:=hi
 exact .inl ⟨by omega,by omega⟩
def PhOk (m:MS) (p:PhiD) (b:Nat):Prop:=p.ins.map InD.frm=aw m.f b∧∀ q∈p.ins,∃ c:Nat,q.frm=c∧c<m.blocks.length∧Sd m c (nth m.blocks c).ins.length q.val
theorem jQ (hl:m'.blocks.length=m.blocks.length) (h : ∀ j,(nth m'.blocks j).term.to=(nth m.blocks j).term.to) {b:Int}:aw m'.f b=aw m.f b:=by
 unfold aw
 rw [show m'.f.blocks.length=m.f.blocks.length from hl]
 congr 1
 funext a
 rw [show (nth m'.f.blocks a).term.to=(nth m.f.blocks a).term.to from h a]
theorem PhOk.ext {p:PhiD} (h:PhOk m p b) (e:Ext m m'):PhOk m' p b:=
 ⟨by rw [jQ e.len e.to];exact h.1,fun q hq=>by
  obtain ⟨c,h1,h2,h3⟩:=h.2 q hq
  exact ⟨c,h1,by rw [e.len];exact h2,h3.end e⟩⟩
structure D5 (n c:Nat) (to:List (List Int)) (m:MS):Prop where
 gt:Gt n to m
 ok:Ok m
 term : ∀ j,j<n→fq (nth m.blocks j).term=true
 ins : ∀ j,j<n→(nth m.blocks j).ins.length≤45+c
 nx:m.next≤433+c
theorem D5.mono {c d:Nat} (q:D5 n c to m) (h:c≤d):D5 n d to m:=⟨q.gt,q.ok,q.term,fun j hj=>by have:=q.ins j hj;omega,by have:=q.nx;omega⟩
theorem D5.took {c:Nat} (q:D5 n c to m):D5 n c to m.took:=⟨⟨q.gt.len,q.gt.to⟩,q.ok.at (Int.le_refl _),q.term,q.ins,q.nx⟩
theorem D5.constant {c:Nat} (q:D5 n c to m) (hb:b<n) {w:Int}:D5 n (c+1) to (m.constant b w)∧Ext m (m.constant b w)∧(∀ j,(nth (m.constant b w).blocks j).phis=(nth m.blocks j).phis)∧Sd (m.constant b w) b (nth (m.constant b w).blocks b).ins.length m.next:=by
 have hlen:=q.gt.len
 have hbl:b<m.blocks.length:=by rw [hlen];exact hb
 have e:m.constant b w=MS.add ⟨m.at_,m.ps,m.blocks,m.next+1,m.live⟩ b (conD m.next w):=rfl
 have mk:aI (conD m.next w)=[m.next]:=rfl
 have k:=q.ok.add (a:=m.at_) (nx:=m.next+1) (i:=conD m.next w) (l:=m.live) hbl (by omega) (by rw [mk];intro v hv;rw [List.mem_singleton.1 hv];omega) (by rw [mk];simp) ⟨rfl,fun h=>absurd h (show (1:Int)≠16 by decide),fun _=>rfl⟩ (fun v hv=>by cases hv)
 have ex:Ext m (m.constant b w):=(rL (m:=⟨m.at_,m.ps,m.blocks,m.next+1,m.live⟩) (i:=conD m.next w) hbl).frm rfl rfl
 have hnth : ∀ j,nth (m.constant b w).blocks j=if b=j then { nth m.blocks b with ins:=(nth m.blocks b).ins++[conD m.next w] } else nth m.blocks j:=fun j=>ky (m:=⟨m.at_,m.ps,m.blocks,m.next+1,m.live⟩) hbl
 refine ⟨⟨q.gt.ext ex,k,fun j hj=>?_,fun j hj=>?_,?_⟩,ex,fun j=>?_,yQ (m:=m) hbl (by rw [mk];exact List.mem_singleton.2 rfl)⟩
 ·rw [hnth];split
  ·exact q.term b hb
  ·exact q.term j hj
 ·have:=q.ins j hj
  rw [hnth];split
  ·rename_i e1;subst e1
   show ((nth m.blocks b).ins++[_]).length≤_
   rw [List.length_append,List.length_singleton];omega
  ·omega
 ·have:=q.nx
  show m.next+1≤_
  omega
 ·rw [hnth];split
  ·rename_i e1;rw [e1]
  ·rfl
theorem D5.row {c:Nat} (q:D5 n c to m) (hb:b<n):D5 n (c+1) to (rowS s b m).2∧Ext m (rowS s b m).2∧(∀ j,(nth (rowS s b m).2.blocks j).phis=(nth m.blocks j).phis)∧∀ v∈(rowS s b m).1,Sd (rowS s b m).2 b (nth (rowS s b m).2.blocks b).ins.length v:=by
 unfold rowS
 split
 ·obtain ⟨h1,h2,h3,h4⟩:=q.took.took.constant (w:=mC s m) hb
  refine ⟨h1,⟨h2.ps,h2.len,h2.to,h2.phis,h2.ins⟩,h3,fun v hv=>?_⟩
  rw [List.mem_singleton.1 hv];exact h4
 ·have hlen:=q.gt.len
  exact ⟨q.mono (by omega),.refl,fun j=>rfl,fun v hv=>tx q.ok.p0 (by omega) hv⟩
theorem D5.ups {c:Nat} {p:List Int} (q:D5 n c to m) (hp : ∀ k,k<p.length→∃ a:Nat,nth p k=a∧a<n) : ∀ k,k≤p.length→
  D5 n (c+k) to (up (b0 s p) k ([],m)).2∧Ext m (up (b0 s p) k ([],m)).2∧(∀ j,(nth (up (b0 s p) k ([],m)).2.blocks j).phis=(nth m.blocks j).phis)∧(up (b0 s p) k ([],m)).1.map InD.frm=p.take k∧
   ∀ r∈(up (b0 s p) k ([],m)).1,∃ a:Nat,r.frm=a∧a<n∧Sd (up (b0 s p) k ([],m)).2 a (nth (up (b0 s p) k ([],m)).2.blocks a).ins.length r.val
 | 0,_=>⟨q,.refl,fun _=>rfl,rfl,fun r hr=>by cases hr⟩
 | k+1,hk=>by
  obtain ⟨h1,h2,h3,h4,h5⟩:=D5.ups q hp k (by omega)
  obtain ⟨a,ha,han⟩:=hp k (by omega)
  have e1:(up (b0 s p) (k+1) ([],m)).2=(rowS s (nth p k).toNat (up (b0 s p) k ([],m)).2).2.took:=rfl
  have e2:(up (b0 s p) (k+1) ([],m)).1=(up (b0 s p) k ([],m)).1++[⟨nth p k,nth (rowS s (nth p k).toNat (up (b0 s p) k ([],m)).2).1 (aP s (rowS s (nth p k).toNat (up (b0 s p) k ([],m)).2).2.at_ (rowS s (nth p k).toNat (up (b0 s p) k ([],m)).2).1.length).toNat⟩]:=rfl
  rw [e1,e2]
  generalize up (b0 s p) k ([],m)=y at h1 h2 h3 h4 h5
  have hat:(nth p k).toNat=a:=by omega
  rw [hat]
  obtain ⟨k1,k2,k3,k4⟩:=h1.row (s:=s) (b:=a) han
  have hpos:=yC (s:=s) (b:=a) (m:=y.2)
  generalize rowS s a y.2=r at k1 k2 k3 k4 hpos
  refine ⟨k1.took,h2.trans ⟨k2.ps,k2.len,k2.to,k2.phis,k2.ins⟩,fun j=>(k3 j).trans (h3 j),?_,fun t ht=>?_⟩
  ·rw [List.map_append,h4,List.take_succ_eq_append_getElem (by omega)]
   show p.take k++[nth p k]=_
   rw [aj (by omega)]
  ·rcases List.mem_append.1 ht with ht | ht
   ·obtain ⟨d,d1,d2,d3⟩:=h5 t ht
    exact ⟨d,d1,d2,d3.end k2⟩
   ·rw [List.mem_singleton.1 ht]
    refine ⟨a,ha,han,k4 _ (bW ?_)⟩
    have:=dh (s:=s) (at_:=r.2.at_) (n:=(r.1.length:Int)) (by omega)
    omega
theorem qy {i j:Nat} {l:List InD} (hb:b<m.blocks.length):nth (m.fJ b i l).blocks j=if b=j then { nth m.blocks b with phis:=(nth m.blocks b).phis.set i { nth (nth m.blocks b).phis i with ins:=l } } else nth m.blocks j:=by
 show nth (m.blocks.set b _) j=_
 rcases Nat.lt_or_ge j m.blocks.length with hl | hl
 ·rw [az hl]
 ·rw [aU (by simpa using hl),if_neg (by omega),aU hl]
theorem AK {l:List PhiD} {i:Nat} {x:List InD}:(l.set i { nth l i with ins:=x }).map PhiD.dst=l.map PhiD.dst:=by
 refine List.ext_getElem (by simp) fun j h1 h2=>?_
 have hj:j<l.length:=by simpa using h2
 rw [List.getElem_map,List.getElem_map,List.getElem_set]
 split
 ·rename_i e;subst e
  rw [aj hj]
 ·rfl
theorem D5.fJ {c i:Nat} {l:List InD} (q:D5 n c to m) (hb:b<n):D5 n c to (m.fJ b i l)∧Ext m (m.fJ b i l):=by
 have hlen:=q.gt.len
 have hbl:b<m.blocks.length:=by omega
 have hnth : ∀ j,nth (m.fJ b i l).blocks j=_:=fun j=>qy (i:=i) (l:=l) hbl
 have hl:(m.fJ b i l).blocks.length=m.blocks.length:=List.length_set
 have hin : ∀ j,(nth (m.fJ b i l).blocks j).ins=(nth m.blocks j).ins:=fun j=>by
  rw [hnth];split
  ·rename_i e;rw [e]
  ·rfl
 have htm : ∀ j,(nth (m.fJ b i l).blocks j).term=(nth m.blocks j).term:=fun j=>by
  rw [hnth];split
  ·rename_i e;rw [e]
  ·rfl
 have hph : ∀ j,(nth (m.fJ b i l).blocks j).phis.map PhiD.dst=(nth m.blocks j).phis.map PhiD.dst:=fun j=>by
  rw [hnth];split
  ·rename_i e;rw [←e];exact AK
  ·rfl
 have hmk : ∀ j,mkB (nth (m.fJ b i l).blocks j)=mkB (nth m.blocks j):=fun j=>by unfold mkB;rw [hin,hph]
 have e:Ext m (m.fJ b i l):=⟨rfl,hl,fun j=>by rw [htm],fun j v h=>by rw [hph];exact h,fun j=>⟨[],by rw [hin];simp⟩⟩
 have k:=q.ok
 refine ⟨⟨q.gt.ext e,⟨k.p0,k.pn,fun c hc=>?_,fun c hc=>?_,fun c d hc hd=>?_,fun c hc=>?_,fun c hc i hi v hv=>?_,fun c hc v hv=>?_⟩,fun j hj=>by rw [htm];exact q.term j hj,fun j hj=>by rw [hin];exact q.ins j hj,q.nx⟩,e⟩<;>rw [hl] at hc
 ·rw [hin];exact k.op c hc
 ·rw [hmk];exact k.nd c hc
 ·rw [hl] at hd;rw [hmk,hmk];exact k.dj c d hc hd
 ·rw [hmk];exact k.rg c hc
 ·rw [hin] at hi hv;exact (k.tk c hc i hi v hv).ext e
 ·rw [htm] at hv;exact (k.tm c hc v hv).end e
theorem xr {k:Nat} {b:Int} (hk:k<(aw m.f b).length) : ∃ a:Nat,nth (aw m.f b) k=a∧a<m.blocks.length:=xW _ k hk
theorem xQ {b:Int}:(aw m.f b).length≤m.blocks.length:=pq _
theorem D5.phi {c i:Nat} (q:D5 n c to m) (hb:b<n) (hi:i<(nth m.blocks b).phis.length) :
  D5 n (c+n) to (phi3 s b (aw m.f b) i m)∧Ext m (phi3 s b (aw m.f b) i m)∧(∀ j,(nth (phi3 s b (aw m.f b) i m).blocks j).phis.length=(nth m.blocks j).phis.length)∧
   PhOk (phi3 s b (aw m.f b) i m) (nth (nth (phi3 s b (aw m.f b) i m).blocks b).phis i) b∧
   ∀ d j,(d≠b∨j≠i)→nth (nth (phi3 s b (aw m.f b) i m).blocks d).phis j=nth (nth m.blocks d).phis j:=by
 have hlen:=q.gt.len
 obtain ⟨h1,h2,h3,h4,h5⟩:=q.ups (s:=s) (p:=aw m.f b) (fun k hk=>by
  obtain ⟨a,h1,h2⟩:=xr hk
  exact ⟨a,h1,by omega⟩) (aw m.f b).length (Nat.le_refl _)
 have hp:=xQ (m:=m) (b:=b)
 unfold phi3
 generalize up (b0 s (aw m.f b)) (aw m.f b).length ([],m)=y at h1 h2 h3 h4 h5
 have hyl:=h1.gt.len
 obtain ⟨k1,k2⟩:=h1.fJ (b:=b) (i:=i) (l:=y.1) hb
 have hnth : ∀ j,nth (y.2.fJ b i y.1).blocks j=_:=fun j=>qy (i:=i) (l:=y.1) (by omega:b<y.2.blocks.length)
 have hi2:i<(nth y.2.blocks b).phis.length:=by rw [h3];exact hi
 refine ⟨k1.mono (by omega),h2.trans k2,fun j=>?_,?_,fun d j hd=>?_⟩
 ·rw [hnth];split
  ·rename_i e;rw [←e,←h3 b]
   show (List.set _ _ _).length=_
   rw [List.length_set]
  ·rw [h3]
 ·rw [hnth,if_pos rfl]
  show PhOk _ (nth ((nth y.2.blocks b).phis.set i _) i) b
  rw [az hi2,if_pos rfl]
  refine ⟨?_,fun t ht=>?_⟩
  ·rw [jQ (h2.trans k2).len (h2.trans k2).to]
   show y.1.map InD.frm=_
   rw [h4,List.take_length]
  ·obtain ⟨a,d1,d2,d3⟩:=h5 t ht
   exact ⟨a,d1,by rw [k2.len];omega,d3.end k2⟩
 ·rw [hnth]
  split
  ·rename_i e;subst e
   show nth ((nth y.2.blocks b).phis.set i _) j=_
   rw [←h3 b]
   rcases Nat.lt_or_ge j (nth y.2.blocks b).phis.length with hl | hl
   ·rw [az hl,if_neg (by rcases hd with hd | hd;exact absurd rfl hd;exact fun e=>hd e.symm)]
   ·rw [aU (by simpa using hl),aU hl]
  ·rw [h3]
theorem D5.phis {c cnt:Nat} (q:D5 n c to m) (hb:b<n) (hc:(nth m.blocks b).phis.length=cnt) : ∀ k,k≤cnt→
  D5 n (c+n*k) to (up (phi3 s b (aw m.f b)) k m)∧Ext m (up (phi3 s b (aw m.f b)) k m)∧(∀ j,(nth (up (phi3 s b (aw m.f b)) k m).blocks j).phis.length=(nth m.blocks j).phis.length)∧
   (∀ i,i<k→PhOk (up (phi3 s b (aw m.f b)) k m) (nth (nth (up (phi3 s b (aw m.f b)) k m).blocks b).phis i) b)∧
   ∀ d j,d≠b→nth (nth (up (phi3 s b (aw m.f b)) k m).blocks d).phis j=nth (nth m.blocks d).phis j
 | 0,_=>⟨q,.refl,fun _=>rfl,fun i hi=>absurd hi (Nat.not_lt_zero _),fun _ _ _=>rfl⟩
 | k+1,hk=>by
  obtain ⟨h1,h2,h3,h4,h5⟩:=D5.phis q hb hc k (by omega)
  have e:up (phi3 s b (aw m.f b)) (k+1) m=phi3 s b (aw m.f b) k (up (phi3 s b (aw m.f b)) k m):=rfl
  rw [e]
  have ep:aw m.f b=aw (up (phi3 s b (aw m.f b)) k m).f b:=(jQ h2.len h2.to).symm
  generalize hy:up (phi3 s b (aw m.f b)) k m=y at h1 h2 h3 h4 h5 ep
  rw [ep]
  obtain ⟨k1,k2,k3,k4,k5⟩:=h1.phi (s:=s) (i:=k) hb (by rw [h3];omega)
  refine ⟨k1.mono (by rw [Nat.mul_succ];omega),h2.trans k2,fun j=>(k3 j).trans (h3 j),fun i hi=>?_,fun d j hd=>(k5 d j (.inl hd)).trans (h5 d j hd)⟩
  rcases Nat.lt_or_ge i k with h | h
  ·rw [k5 b i (.inr (by omega))]
   exact (h4 i h).ext k2
  ·have:i=k:=by omega
   subst this;exact k4
end
end Go.Proofs.Ytbkdlhkoiagbbaa
namespace Go.Lft
open Go
variable {po:OP}
end Go.Lft
namespace Go.Proofs.Ytbkdlhkoiagbbaa
open Go Go.Lft
structure TB (c:Nat) (x:BlkD):Prop where
 phis:x.phis.length≤c
 ins:x.ins.length≤c
 args:x.term.args.length≤c
 to:x.term.to.length≤c
 pin : ∀ p∈x.phis,p.ins.length≤c∧p.dst≤4000
 iar : ∀ i∈x.ins,i.args.length≤c∧i.dst≤4000∧i.two≤4000
structure TF (c:Nat) (f:ae):Prop where
 len:f.blocks.length≤1000
 blk : ∀ x∈f.blocks,TB c x
theorem TB.mono {c d:Nat} {x:BlkD} (t:TB c x) (h:c≤d):TB d x:=⟨Nat.le_trans t.phis h,Nat.le_trans t.ins h,Nat.le_trans t.args h,Nat.le_trans t.to h,fun p hp=>⟨Nat.le_trans (t.pin p hp).1 h,(t.pin p hp).2⟩,fun i hi=>⟨Nat.le_trans (t.iar i hi).1 h,(t.iar i hi).2⟩⟩
theorem TF.mono {c d:Nat} {f:ae} (t:TF c f) (h:c≤d):TF d f:=⟨t.len,fun x hx=>(t.blk x hx).mono h⟩
structure Tu (R F X:Nat) (i10:Own) (c:Nat) (W0:View) (vbk:Value) (bl:List BlkD) (W:View) (o:Own) (ps:Int) (vp vi va vt:Value) (kd im:Int) (lp:List PhiD) (li:List InsD) (la lt:List Int):Prop where
 le:W0.le W
 res:o (8,0)=bx T.aH R (RawN.mk (n:=1) [.int .i64 0,.slice none 0 0])
 fn:o (8,1)=bx T.aH F (RawN.mk (n:=1) [.int .i64 ps,vbk])
 blk:o (3,0)=it T.aD vbk bl
 box:o (3,1)=bx T.aD X (RawN.mk (n:=5) [vp,vi,.int .i64 kd,va,vt,.int .i32 im])
 ins:o (3,2)=it T.cd vi li
 phis:o (3,3)=it T.cH vp lp
 free:o (4,0)=none
 fr : ∀ k:Key,10≤k.1→o k=i10 k
 ra:SlRd W va la
 rt:SlRd W vt lt
 ips:I64 ps
 ikd:I64 kd
 iim:-2147483648≤im∧im≤2147483647
 tb:TB c ⟨lp,li,⟨kd,la,lt,⟨im⟩⟩⟩
def TuE (R F X:Nat) (i10:Own) (c:Nat) (W0:View) (vbk:Value) (bl:List BlkD) (h:Heap):Prop:=∃ W o ps vp vi va vt kd im lp li la lt,Tu R F X i10 c W0 vbk bl W o ps vp vi va vt kd im lp li la lt∧Owns W h o
theorem TuE.mono {R F X:Nat} {i10:Own} {c d:Nat} {W0:View} {vbk:Value} {bl:List BlkD} {h:Heap} (t:TuE R F X i10 c W0 vbk bl h) (hd:c≤d):TuE R F X i10 d W0 vbk bl h:=by
 obtain ⟨W,o,ps,vp,vi,va,vt,kd,im,lp,li,la,lt,t,w⟩:=t
 exact ⟨W,o,ps,vp,vi,va,vt,kd,im,lp,li,la,lt,⟨t.le,t.res,t.fn,t.blk,t.box,t.ins,t.phis,t.free,t.fr,t.ra,t.rt,t.ips,t.ikd,t.iim,t.tb.mono hd⟩,w⟩
section
variable {R F X c:Nat} {i10:Own} {W0 W:View} {vbk:Value} {bl:List BlkD} {h:Heap} {o:Own} {ps:Int} {vp vi va vt:Value} {kd im:Int} {lp:List PhiD} {li:List InsD} {la lt:List Int}
variable {po:OP} {ty t2:TypeId} {us:List (Nat × Value)} {x y:Operand} {K:Value→Heap→Prop}
end
theorem Aa {H:View} {u:Value} {d:BlkD} (h:Rd H u d) : ∃ vp vi va vt,u = .agg #[vp,vi,.int .i64 d.term.kind,va,vt,.int .i32 d.term.imm.v]∧SlRd H vp d.phis∧SlRd H vi d.ins∧SlRd H va d.term.args∧SlRd H vt d.term.to∧I64 d.term.kind∧-2147483648≤d.term.imm.v∧d.term.imm.v≤2147483647:=by
 obtain ⟨cs,rfl,c1,r1,e1,⟨vp,rfl,h1⟩,c2,r2,e2,⟨vi,rfl,h2⟩,c3,r3,e3,⟨rfl,h3⟩,c4,r4,e4,⟨va,rfl,h4⟩,c5,r5,e5,⟨vt,rfl,h5⟩,h6,h7⟩:=h
 subst e5 e4 e3 e2
 have he:cs.toList=[vp,vi,.int .i64 d.term.kind,va,vt,.int .i32 d.term.imm.v]:=by rw [e1,h6];rfl
 refine ⟨vp,vi,va,vt,?_,h1,h2,h4,h5,h3,h7⟩
 rw [←Array.toList_inj.1 (he.trans rfl:cs.toList = #[vp,vi,Value.int .i64 d.term.kind,va,vt,.int .i32 d.term.imm.v].toList)]
theorem Owns.elW {W:View} {h:Heap} {o:Own} {k:Key} {α:Type} [r:Rep α] {e:TypeId} {v:Value} {l:List α} (w:Owns W h o) (hk:o k=it e v l) {i:Nat} (hi:i<l.length) : ∃ cs,eX (vw h) ((slA v).add (i*Rep.n α)) cs∧cs.length=Rep.n α∧Rep.rd W cs l[i]:=by
 obtain ⟨hb,xs,⟨hl,hown⟩,hel⟩:=w.get hk
 have h0:=hel i hi
 have hle:i*Rep.n α+Rep.n α≤l.length*Rep.n α:=by rw [←Nat.succ_mul];exact Nat.mul_le_mul_right _ hi
 have hcl:((xs.drop (i*Rep.n α)).take (Rep.n α)).length=Rep.n α:=by simp;omega
 rcases hown with ⟨rfl,hn⟩ | ⟨g,cap,cur,rfl,h2,h3,h4,h5,h6⟩
 ·omega
 ·have hadd:(slA (.slice (some ⟨g,0,none⟩) l.length cap)).add (i*Rep.n α)=⟨g,i*Rep.n α,none⟩:=by
   show (⟨g,0,none⟩:Addr).add _=_
   simp [Addr.z]
  rw [hadd]
  refine ⟨_,⟨cur,e,(0,0),rfl,h2,?_⟩,hcl,h0⟩
  rw [hcl,←h6,List.drop_take,List.take_take,Nat.min_eq_left (by omega)]
theorem Owns.ldW {W:View} {h:Heap} {o:Own} {k:Key} {α:Type} [r:Rep α] {e:TypeId} {v:Value} {l:List α} (w:Owns W h o) (hk:o k=it e v l) (ha:Rep.agg α=true) {N:Nat} (hn:Rep.n α=N) {i:Nat} (hi:i<l.length) : ∃ u,Un.ev (vw h) (.ao N) (.pointer (some ((slA v).add (i*N))))=some u∧Rd W u l[i]:=by
 subst hn
 obtain ⟨cs,h1,h2,h3⟩:=Owns.elW w hk hi
 have:=fG h1 cs.length 0 #[] (by omega)
 refine ⟨.agg cs.toArray,?_,?_⟩
 ·simp only [Un.ev,vP,Option.bind_some]
  rw [h2] at this
  rw [this]
  simp
 ·unfold Rd
  rw [if_pos ha]
  exact ⟨_,rfl,by simpa using h3⟩
end Go.Proofs.Ytbkdlhkoiagbbaa
namespace Go.Proofs.Ytbkdlhkoiagbbaa
open Go Go.Lft
def pr:Nat→Nat→Nat
 | 0,i=>2*i+1
 | b+1,i=>2*pr b i
theorem uw : ∀ {b c i j:Nat},pr b i=pr c j→b=c∧i=j
 | 0,0,i,j,h=>⟨rfl,by unfold pr at h;omega⟩
 | 0,c+1,i,j,h=>by unfold pr at h;omega
 | b+1,0,i,j,h=>by unfold pr at h;omega
 | b+1,c+1,i,j,h=>by
  have h:2*pr b i=2*pr c j:=h
  have:=uw (show pr b i=pr c j by omega)
  exact ⟨by omega,this.2⟩
theorem sw {b c i j:Nat}:pr b i=pr c j↔b=c∧i=j:=⟨uw,fun h=>by rw [h.1,h.2]⟩
structure PhO where
 dst:Int
 ins:Raw
instance:Rep PhO:=Rep.via fun d=>Cat.mk d.dst d.ins
instance:Inhabited PhO:=⟨⟨0,default⟩⟩
theorem PhO.jw:Part PhO Int 0 PhO.dst (fun d x=>{ d with dst:=x }):=(Part.fst Part.all).via (fun _=>rfl) fun _ _=>rfl
theorem PhO.j6:Part PhO Raw 1 PhO.ins (fun d x=>{ d with ins:=x }):=(Part.snd Part.all).via (fun _=>rfl) fun _ _=>rfl
structure InO where
 op:Int
 dst:Int
 two:Int
 args:Raw
 imm:I32
instance:Rep InO:=Rep.via fun d=>Cat.mk d.op (Cat.mk d.dst (Cat.mk d.two (Cat.mk d.args d.imm)))
instance:Inhabited InO:=⟨⟨0,0,0,default,default⟩⟩
theorem InO.jw:Part InO Int 1 InO.dst (fun d x=>{ d with dst:=x }):=(Part.snd (Part.fst Part.all)).via (fun _=>rfl) fun _ _=>rfl
theorem InO.qu:Part InO Int 2 InO.two (fun d x=>{ d with two:=x }):=(Part.snd (Part.snd (Part.fst Part.all))).via (fun _=>rfl) fun _ _=>rfl
theorem InO.mP:Part InO Raw 3 InO.args (fun d x=>{ d with args:=x }):=(Part.snd (Part.snd (Part.snd (Part.fst Part.all)))).via (fun _=>rfl) fun _ _=>rfl
structure TmO where
 kind:Int
 args:Raw
 to:Raw
 imm:I32
instance:Rep TmO:=Rep.via fun d=>Cat.mk d.kind (Cat.mk d.args (Cat.mk d.to d.imm))
instance:Inhabited TmO:=⟨⟨0,default,default,default⟩⟩
theorem TmO.mP:Part TmO Raw 1 TmO.args (fun d x=>{ d with args:=x }):=(Part.snd (Part.fst Part.all)).via (fun _=>rfl) fun _ _=>rfl
theorem TmO.Ar:Part TmO Raw 2 TmO.to (fun d x=>{ d with to:=x }):=(Part.snd (Part.snd (Part.fst Part.all))).via (fun _=>rfl) fun _ _=>rfl
structure BkO where
 phis:Raw
 ins:Raw
 term:TmO
instance:Rep BkO:=Rep.via fun d=>Cat.mk d.phis (Cat.mk d.ins d.term)
instance:Inhabited BkO:=⟨⟨default,default,default⟩⟩
theorem BkO.qS:Part BkO Raw 0 BkO.phis (fun d x=>{ d with phis:=x }):=(Part.fst Part.all).via (fun _=>rfl) fun _ _=>rfl
theorem BkO.j6:Part BkO Raw 1 BkO.ins (fun d x=>{ d with ins:=x }):=(Part.snd (Part.fst Part.all)).via (fun _=>rfl) fun _ _=>rfl
theorem BkO.nh:Part BkO TmO 2 BkO.term (fun d x=>{ d with term:=x }):=(Part.snd (Part.snd Part.all)).via (fun _=>rfl) fun _ _=>rfl
section
variable {H:View} {cs:List Value}
theorem Ao {d:PhO} {l:List InD} (h:Rep.rd H cs d) (hl:SlRd H d.ins.v l):Rep.rd H cs (PhiD.mk d.dst l):=by
 obtain ⟨c1,r1,e1,h1,h2,_⟩:=h
 have h2:r1=[d.ins.v]:=h2
 exact ⟨c1,r1,e1,h1,d.ins.v,h2,hl⟩
theorem zX {d:InO} {l:List Int} (h:Rep.rd H cs d) (hl:SlRd H d.args.v l):Rep.rd H cs (InsD.mk d.op d.dst d.two l d.imm):=by
 obtain ⟨c1,r1,e1,h1,c2,r2,e2,h2,c3,r3,e3,h3,c4,r4,e4,⟨h4,_⟩,h5⟩:=h
 have h4:c4=[d.args.v]:=h4
 exact ⟨c1,r1,e1,h1,c2,r2,e2,h2,c3,r3,e3,h3,c4,r4,e4,⟨d.args.v,h4,hl⟩,h5⟩
theorem Au {d:BkO} {p:List PhiD} {i:List InsD} {a t:List Int} (h:Rep.rd H cs d) (hp:SlRd H d.phis.v p) (hi:SlRd H d.ins.v i) (ha:SlRd H d.term.args.v a) (ht:SlRd H d.term.to.v t):Rep.rd H cs (BlkD.mk p i ⟨d.term.kind,a,t,d.term.imm⟩):=by
 obtain ⟨c1,r1,e1,⟨h1,_⟩,c2,r2,e2,⟨h2,_⟩,c3,r3,e3,h3,c4,r4,e4,⟨h4,_⟩,c5,r5,e5,⟨h5,_⟩,h6⟩:=h
 have h1:c1=[d.phis.v]:=h1
 have h2:c2=[d.ins.v]:=h2
 have h4:c4=[d.term.args.v]:=h4
 have h5:c5=[d.term.to.v]:=h5
 exact ⟨c1,r1,e1,⟨d.phis.v,h1,hp⟩,c2,r2,e2,⟨d.ins.v,h2,hi⟩,c3,r3,e3,h3,c4,r4,e4,⟨d.term.args.v,h4,ha⟩,c5,r5,e5,⟨d.term.to.v,h5,ht⟩,h6⟩
end
structure Bv where
 p:Value
 i:Value
 a:Value
 t:Value
 pin:Nat→Value
 iar:Nat→Value
def phO (V:Bv) (d:BlkD) (i:Nat):PhO:=⟨(nth d.phis i).dst,⟨V.pin i⟩⟩
def inO (V:Bv) (d:BlkD) (i:Nat):InO:=⟨(nth d.ins i).op,(nth d.ins i).dst,(nth d.ins i).two,⟨V.iar i⟩,(nth d.ins i).imm⟩
def tmO (V:Bv) (d:BlkD):TmO:=⟨d.term.kind,⟨V.a⟩,⟨V.t⟩,d.term.imm⟩
def bkO (V:Bv) (d:BlkD):BkO:=⟨⟨V.p⟩,⟨V.i⟩,tmO V d⟩
structure BO (K:Nat) (o:Own) (b:Nat) (V:Bv) (d:BlkD):Prop where
 phis:o (K+1,b)=it T.cH V.p (rows (phO V d) d.phis.length)
 ins:o (K+2,b)=it T.cd V.i (rows (inO V d) d.ins.length)
 args:o (K+3,b)=it T.int V.a d.term.args
 to:o (K+4,b)=it T.int V.t d.term.to
 pin : ∀ i,i<d.phis.length→o (K+5,pr b i)=it T.cK (V.pin i) (nth d.phis i).ins
 iar : ∀ i,i<d.ins.length→o (K+6,pr b i)=it T.int (V.iar i) (nth d.ins i).args
structure FnO (K:Nat) (o:Own) (vb:Value) (V:Nat→Bv) (f:ae):Prop where
 blk:o (K,0)=it T.aD vb (rows (fun b=>bkO (V b) (nth f.blocks b)) f.blocks.length)
 bo : ∀ b,b<f.blocks.length→BO K o b (V b) (nth f.blocks b)
def OfB (K b:Nat) (k:Key):Prop:=(k.2=b∧K+1≤k.1∧k.1≤K+4)∨∃ i,k.2=pr b i∧(k.1=K+5∨k.1=K+6)
section
variable {K:Nat} {o o':Own} {b c:Nat} {V:Bv} {d:BlkD}
theorem BO.congr (w:BO K o b V d) (h : ∀ k,OfB K b k→o' k=o k):BO K o' b V d:=
 ⟨(h _ (.inl ⟨rfl,by simp,by simp⟩)).trans w.phis,(h _ (.inl ⟨rfl,by simp,by simp⟩)).trans w.ins,(h _ (.inl ⟨rfl,by simp,by simp⟩)).trans w.args,(h _ (.inl ⟨rfl,by simp,by simp⟩)).trans w.to,
  fun i hi=>(h _ (.inr ⟨i,rfl,.inl rfl⟩)).trans (w.pin i hi),fun i hi=>(h _ (.inr ⟨i,rfl,.inr rfl⟩)).trans (w.iar i hi)⟩
theorem qN (hbc:b≠c) {k:Key} (h:OfB K b k):¬OfB K c k:=by
 intro g
 rcases h with ⟨h1,h2,h3⟩ | ⟨i,h1,h2⟩<;>rcases g with ⟨g1,g2,g3⟩ | ⟨j,g1,g2⟩
 ·omega
 ·omega
 ·omega
 ·exact hbc (uw (h1.symm.trans g1)).1
theorem eL {k:Key} (h:OfB K b k):K+1≤k.1∧k.1≤K+6:=by
 rcases h with ⟨h1,h2,h3⟩ | ⟨i,h1,h2⟩<;>omega
theorem BO.ab (w:BO K o b V d) {k:Key} {x:Option Lft.Item} (h:¬OfB K b k):BO K (o.upd k x) b V d:=
 w.congr fun q hq=>Own.ab (by rintro rfl;exact h hq)
end
section
variable {H:View} {vb:Value} {V:Nat→Bv} {f:ae}
theorem wb {V:Bv} {d:BlkD} (h0:SlRd H V.p (rows (phO V d) d.phis.length)) (h1 : ∀ i,i<d.phis.length→SlRd H (V.pin i) (nth d.phis i).ins):SlRd H V.p d.phis:=by
 refine nZ h0 rfl (by simp) fun i g1 g2 cs hr=>?_
 have e:(rows (phO V d) d.phis.length)[i]=phO V d i:=by simp [rows]
 rw [e] at hr
 have:=Ao hr (h1 i g2)
 rw [←aj g2]
 exact this
theorem y7 {V:Bv} {d:BlkD} (h0:SlRd H V.i (rows (inO V d) d.ins.length)) (h1 : ∀ i,i<d.ins.length→SlRd H (V.iar i) (nth d.ins i).args):SlRd H V.i d.ins:=by
 refine nZ h0 rfl (by simp) fun i g1 g2 cs hr=>?_
 have e:(rows (inO V d) d.ins.length)[i]=inO V d i:=by simp [rows]
 rw [e] at hr
 have:=zX hr (h1 i g2)
 rw [←aj g2]
 exact this
theorem wu (h0:SlRd H vb (rows (fun b=>bkO (V b) (nth f.blocks b)) f.blocks.length)) (hp : ∀ b,b<f.blocks.length→SlRd H (V b).p (nth f.blocks b).phis) (hi : ∀ b,b<f.blocks.length→SlRd H (V b).i (nth f.blocks b).ins)
  (ha : ∀ b,b<f.blocks.length→SlRd H (V b).a (nth f.blocks b).term.args) (ht : ∀ b,b<f.blocks.length→SlRd H (V b).t (nth f.blocks b).term.to):SlRd H vb f.blocks:=by
 refine nZ h0 rfl (by simp) fun b g1 g2 cs hr=>?_
 have e:(rows (fun b=>bkO (V b) (nth f.blocks b)) f.blocks.length)[b]=bkO (V b) (nth f.blocks b):=by simp [rows]
 rw [e] at hr
 have:=Au hr (hp b g2) (hi b g2) (ha b g2) (ht b g2)
 rw [←aj g2]
 exact this
end
section
variable {W:View} {h:Heap} {K:Nat} {o o':Own} {vb:Value} {V:Nat→Bv} {f:ae} {b:Nat}
theorem FnO.rd (w:Owns W h o) (g:FnO K o vb V f):SlRd (vw h) vb f.blocks:=
 wu (w.now g.blk) (fun b hb=>wb (w.now (g.bo b hb).phis) fun i hi=>w.now ((g.bo b hb).pin i hi)) (fun b hb=>y7 (w.now (g.bo b hb).ins) fun i hi=>w.now ((g.bo b hb).iar i hi)) (fun b hb=>w.now (g.bo b hb).args) fun b hb=>w.now (g.bo b hb).to
theorem FnO.rdF (w:Owns W h o) (g:FnO K o vb V f) (hp:I64 f.params):Rd (vw h) (.agg #[.int .i64 f.params,vb]) f:=
 ⟨_,rfl,[.int .i64 f.params],[vb],rfl,⟨rfl,hp⟩,vb,rfl,g.rd w⟩
theorem FnO.congr (g:FnO K o vb V f) (h : ∀ k:Key,K≤k.1→k.1≤K+6→o' k=o k):FnO K o' vb V f:=
 ⟨(h _ (Nat.le_refl _) (by simp)).trans g.blk,fun b hb=>(g.bo b hb).congr fun k hk=>by have:=eL hk;exact h k (by omega) (by omega)⟩
theorem FnO.upd (g:FnO K o vb V f) {k:Key} {x:Option Lft.Item} (h:k.1<K∨K+6<k.1):FnO K (o.upd k x) vb V f:=
 g.congr fun q h1 h2=>Own.ab (by rintro rfl;omega)
def aE (f:ae) (b:Nat) (d:BlkD):ae:=⟨f.params,f.blocks.set b d⟩
theorem fe {d:BlkD}:(aE f b d).blocks.length=f.blocks.length:=List.length_set
theorem ji {d:BlkD} (hb:b<f.blocks.length) (c:Nat):nth (aE f b d).blocks c=if b=c then d else nth f.blocks c:=by
 unfold aE
 dsimp only
 rcases Nat.lt_or_ge c f.blocks.length with h | h
 ·exact az h
 ·rw [aU (by rw [List.length_set];exact h),aU h,if_neg (by omega)]
theorem tn (hb:b<f.blocks.length):aE f b (nth f.blocks b)=f:=by
 unfold aE
 rw [aj hb,List.set_getElem_self hb]
theorem rR {d e:BlkD}:aE (aE f b d) b e=aE f b e:=by
 unfold aE;rw [List.set_set]
theorem FnO.setB (g:FnO K o vb V f) (hb:b<f.blocks.length) {d:BlkD} (h0:o' (K,0)=o (K,0)) (ho : ∀ k,K+1≤k.1→k.1≤K+6→¬OfB K b k→o' k=o k) (hk:tmO (V b) d=tmO (V b) (nth f.blocks b)) (hd:BO K o' b (V b) d):FnO K o' vb V (aE f b d):=by
 have hn:=fun c=>ji (d:=d) hb c
 refine ⟨?_,fun c hc=>?_⟩
 ·rw [h0,g.blk,fe]
  congr 1
  refine List.map_congr_left fun c _=>?_
  rw [hn]
  split
  ·rename_i e;subst e;unfold bkO;rw [hk]
  ·rfl
 ·rw [fe] at hc
  rw [hn]
  split
  ·rename_i e;subst e;exact hd
  ·rename_i e
   exact (g.bo c hc).congr fun k hk=>by have:=eL hk;exact ho k (by omega) (by omega) (qN (fun q=>e q.symm) hk)
theorem FnO.freeze (g:FnO K o vb V f) (w:Owns W h o) : ∃ W',W.le W'∧Owns W' h (fun k=>if K≤k.1∧k.1≤K+6 then .none else o k)∧SlRd W' vb f.blocks:=by
 obtain ⟨W',hW,w',s⟩:=Owns.qc w fun k=>decide (K≤k.1∧k.1≤K+6)
 refine ⟨W',hW,w'.congr fun k=>?_,?_⟩
 ·by_cases e:K≤k.1∧k.1≤K+6
  ·rw [if_pos e,if_pos (decide_eq_true e)]
  ·rw [if_neg e,if_neg (by rw [decide_eq_false e];exact Bool.false_ne_true)]
 ·refine wu (s (by simp) g.blk) (fun b hb=>wb (s (by simp) (g.bo b hb).phis) fun i hi=>s (by simp) ((g.bo b hb).pin i hi)) (fun b hb=>y7 (s (by simp) (g.bo b hb).ins) fun i hi=>s (by simp) ((g.bo b hb).iar i hi)) (fun b hb=>s (by simp) (g.bo b hb).args) fun b hb=>s (by simp) (g.bo b hb).to
end
theorem dI {β:Type} {x:Nat→β} {n i:Nat} (h:i<(rows x n).length):(rows x n)[i]=x i:=by simp [rows]
theorem ie {β:Type} {x y:Nat→β} {n i:Nat} {z:β} (hi:i<n) (hz:z=y i) (h : ∀ j,j<n→j≠i→x j=y j):(rows x n).set i z=rows y n:=by
 refine List.ext_getElem (by simp) fun j g1 g2=>?_
 have hj:j<n:=by simpa using g2
 rw [List.getElem_set,dI,dI]
 split
 ·rename_i e;subst e;exact hz
 ·rename_i e;exact h j hj fun q=>e q.symm
def dx (d:BlkD) (i:Nat) (p:PhiD):BlkD:={ d with phis:=d.phis.set i p }
def lF (d:BlkD) (i:Nat) (x:InsD):BlkD:={ d with ins:=d.ins.set i x }
def wk (d:BlkD) (l:List Int):BlkD:={ d with term:={ d.term with to:=l } }
section
variable {K:Nat} {o o':Own} {b i:Nat} {V:Bv} {d:BlkD}
theorem BO.A5 (w:BO K o b V d) (hi:i<d.phis.length) {l:List InD} (ho : ∀ k,o' k=o.upd (K+5,pr b i) (it T.cK (V.pin i) l) k):BO K o' b V (dx d i ⟨(nth d.phis i).dst,l⟩):=by
 have hl:(dx d i ⟨(nth d.phis i).dst,l⟩).phis.length=d.phis.length:=List.length_set
 have hn:=fun j (hj:j<d.phis.length)=>az (l:=d.phis) (i:=i) (j:=j) (x:=⟨(nth d.phis i).dst,l⟩) hj
 refine ⟨?_,?_,?_,?_,fun j hj=>?_,fun j hj=>?_⟩
 ·rw [ho,Own.ab (by simp),w.phis,hl]
  congr 1
  refine List.map_congr_left fun j hj=>?_
  unfold phO dx;dsimp only;rw [hn j (List.mem_range.1 hj)]
  split
  ·rename_i e;subst e;rfl
  ·rfl
 ·rw [ho,Own.ab (by simp)];exact w.ins
 ·rw [ho,Own.ab (by simp)];exact w.args
 ·rw [ho,Own.ab (by simp)];exact w.to
 ·rw [hl] at hj
  rw [ho]
  unfold dx;dsimp only;rw [hn j hj]
  split
  ·rename_i e;subst e;rw [Own.ag]
  ·rename_i e
   rw [Own.ab (by simp [sw];exact fun q=>e q.symm),w.pin j hj]
 ·rw [ho,Own.ab (by simp)];exact w.iar j hj
theorem BO.Cz (w:BO K o b V d) (hi:i<d.ins.length) {op dst two:Int} {imm:I32} {x:InO} (hx:x=⟨op,dst,two,⟨V.iar i⟩,imm⟩) (ho : ∀ k,o' k=o.upd (K+2,b) (it T.cd V.i ((rows (inO V d) d.ins.length).set i x)) k):BO K o' b V (lF d i ⟨op,dst,two,(nth d.ins i).args,imm⟩):=by
 have hl:(lF d i ⟨op,dst,two,(nth d.ins i).args,imm⟩).ins.length=d.ins.length:=List.length_set
 have hn:=fun j (hj:j<d.ins.length)=>az (l:=d.ins) (i:=i) (j:=j) (x:=⟨op,dst,two,(nth d.ins i).args,imm⟩) hj
 refine ⟨?_,?_,?_,?_,fun j hj=>?_,fun j hj=>?_⟩
 ·rw [ho,Own.ab (by simp)];exact w.phis
 ·rw [ho,Own.ag,hl,ie (y:=inO V (lF d i ⟨op,dst,two,(nth d.ins i).args,imm⟩)) hi]
  ·rw [hx];unfold inO lF;dsimp only;rw [hn i hi,if_pos rfl]
  ·intro j hj hne;unfold inO lF;dsimp only;rw [hn j hj,if_neg (fun e=>hne e.symm)]
 ·rw [ho,Own.ab (by simp)];exact w.args
 ·rw [ho,Own.ab (by simp)];exact w.to
 ·rw [ho,Own.ab (by simp)];exact w.pin j hj
 ·rw [hl] at hj
  rw [ho,Own.ab (by simp),w.iar j hj]
  unfold lF;dsimp only;rw [hn j hj]
  split
  ·rename_i e;subst e;rfl
  ·rfl
theorem BO.Cu (w:BO K o b V d) {l:List Int} (ho : ∀ k,o' k=o.upd (K+4,b) (it T.int V.t l) k):BO K o' b V (wk d l):=
 ⟨by rw [ho,Own.ab (by simp)];exact w.phis,by rw [ho,Own.ab (by simp)];exact w.ins,by rw [ho,Own.ab (by simp)];exact w.args,by rw [ho,Own.ag];rfl,fun j hj=>by rw [ho,Own.ab (by simp)];exact w.pin j hj,fun j hj=>by rw [ho,Own.ab (by simp)];exact w.iar j hj⟩
end
section
variable {K:Nat} {o o':Own} {vb:Value} {V:Nat→Bv} {f:ae} {b i:Nat}
theorem FnO.wr (g:FnO K o vb V f) (hb:b<f.blocks.length) {k:Key} {x:Option Lft.Item} (hk:OfB K b k) (ho : ∀ q,o' q=o.upd k x q) {d:BlkD} (ht:tmO (V b) d=tmO (V b) (nth f.blocks b)) (hd:BO K o' b (V b) d):FnO K o' vb V (aE f b d):=
 g.setB hb (by rw [ho,Own.ab (by rintro rfl;have:=eL hk;simp at this;omega)]) (fun q _ _ h=>by rw [ho,Own.ab (by rintro rfl;exact h hk)]) ht hd
end
end Go.Proofs.Ytbkdlhkoiagbbaa
namespace Go.Proofs.Ytbkdlhkoiagbbaa
open Go Go.Lft
def phR (pin:Nat→Value) (l:List PhiD) (i:Nat):PhO:=⟨(nth l i).dst,⟨pin i⟩⟩
def inR (iar:Nat→Value) (l:List InsD) (i:Nat):InO:=⟨(nth l i).op,(nth l i).dst,(nth l i).two,⟨iar i⟩,(nth l i).imm⟩
structure PhsO (K:Nat) (o:Own) (b:Nat) (v:Value) (pin:Nat→Value) (l:List PhiD):Prop where
 row:o (K+1,b)=it T.cH v (rows (phR pin l) l.length)
 pin : ∀ i,i<l.length→o (K+5,pr b i)=it T.cK (pin i) (nth l i).ins
structure InsO (K:Nat) (o:Own) (b:Nat) (v:Value) (iar:Nat→Value) (l:List InsD):Prop where
 row:o (K+2,b)=it T.cd v (rows (inR iar l) l.length)
 iar : ∀ i,i<l.length→o (K+6,pr b i)=it T.int (iar i) (nth l i).args
theorem vG {α:Type} [Inhabited α] {l:List α} {x:α} {i:Nat}:nth (l++[x]) i=if i<l.length then nth l i else if i=l.length then x else default:=by
 split
 ·rename_i h
  rw [aj (l:=l++[x]) (i:=i) (by simp;omega),aj h,List.getElem_append_left h]
 ·split
  ·rename_i h h2
   subst h2
   rw [aj (l:=l++[x]) (i:=l.length) (by simp),List.getElem_append_right (Nat.le_refl _)];simp
  ·exact aU (by simp;omega)
theorem kl {α:Type} [Inhabited α] {l:List α} {x:α}:nth (l++[x]) l.length=x:=by rw [vG,if_neg (Nat.lt_irrefl _),if_pos rfl]
theorem kH {α:Type} [Inhabited α] {l:List α} {x:α} {i:Nat} (h:i<l.length):nth (l++[x]) i=nth l i:=by rw [vG,if_pos h]
theorem lR {β:Type} {x y:Nat→β} {n:Nat} (h : ∀ i,i<n→x i=y i):rows x n=rows y n:=List.map_congr_left fun i hi=>h i (List.mem_range.1 hi)
section
variable {K b:Nat} {o o':Own} {v v':Value} {pin iar:Nat→Value}
theorem PhsO.push {l:List PhiD} {p:PhiD} {u:Value} (w:PhsO K o b v pin l) (h1:o' (K+1,b)=it T.cH v' (rows (phR pin l) l.length++[⟨p.dst,⟨u⟩⟩])) (h2:o' (K+5,pr b l.length)=it T.cK u p.ins) (h3 : ∀ i,i<l.length→o' (K+5,pr b i)=o (K+5,pr b i)):PhsO K o' b v' (fun i=>if i=l.length then u else pin i) (l++[p]):=by
 refine ⟨?_,fun i hi=>?_⟩
 ·rw [h1,List.length_append,List.length_singleton,gL]
  congr 1
  congr 1
  ·refine lR fun i hi=>?_
   unfold phR
   dsimp only
   rw [kH hi,if_neg (by omega)]
  ·unfold phR
   dsimp only
   rw [kl,if_pos rfl]
 ·rw [List.length_append,List.length_singleton] at hi
  rcases Nat.lt_or_ge i l.length with h | h
  ·rw [h3 i h,if_neg (by omega),kH h];exact w.pin i h
  ·have e:i=l.length:=by omega
   subst e
   rw [h2,if_pos rfl,kl]
theorem InsO.push {l:List InsD} {p:InsD} {u:Value} (w:InsO K o b v iar l) (h1:o' (K+2,b)=it T.cd v' (rows (inR iar l) l.length++[⟨p.op,p.dst,p.two,⟨u⟩,p.imm⟩])) (h2:o' (K+6,pr b l.length)=it T.int u p.args) (h3 : ∀ i,i<l.length→o' (K+6,pr b i)=o (K+6,pr b i)):InsO K o' b v' (fun i=>if i=l.length then u else iar i) (l++[p]):=by
 refine ⟨?_,fun i hi=>?_⟩
 ·rw [h1,List.length_append,List.length_singleton,gL]
  congr 1
  congr 1
  ·refine lR fun i hi=>?_
   unfold inR
   dsimp only
   rw [kH hi,if_neg (by omega)]
  ·unfold inR
   dsimp only
   rw [kl,if_pos rfl]
 ·rw [List.length_append,List.length_singleton] at hi
  rcases Nat.lt_or_ge i l.length with h | h
  ·rw [h3 i h,if_neg (by omega),kH h];exact w.iar i h
  ·have e:i=l.length:=by omega
   subst e
   rw [h2,if_pos rfl,kl]
theorem PhsO.congr {l:List PhiD} (w:PhsO K o b v pin l) (h : ∀ k,OfB K b k→o' k=o k):PhsO K o' b v pin l:=
 ⟨(h _ (.inl ⟨rfl,by simp,by simp⟩)).trans w.row,fun i hi=>(h _ (.inr ⟨i,rfl,.inl rfl⟩)).trans (w.pin i hi)⟩
theorem InsO.congr {l:List InsD} (w:InsO K o b v iar l) (h : ∀ k,OfB K b k→o' k=o k):InsO K o' b v iar l:=
 ⟨(h _ (.inl ⟨rfl,by simp,by simp⟩)).trans w.row,fun i hi=>(h _ (.inr ⟨i,rfl,.inr rfl⟩)).trans (w.iar i hi)⟩
theorem BO.of {p:List PhiD} {i:List InsD} {t:de} {va vt vp vi:Value} (wp:PhsO K o b vp pin p) (wi:InsO K o b vi iar i) (ha:o (K+3,b)=it T.int va t.args) (ht:o (K+4,b)=it T.int vt t.to):BO K o b ⟨vp,vi,va,vt,pin,iar⟩ ⟨p,i,t⟩:=
 ⟨wp.row,wi.row,ha,ht,wp.pin,wi.iar⟩
end
theorem FnO.push {K:Nat} {o o':Own} {vb vb':Value} {V:Nat→Bv} {Vn:Bv} {ps:Int} {l:List BlkD} {d:BlkD} {x:BkO} (g:FnO K o vb V ⟨ps,l⟩) (hx:x=bkO Vn d) (h1:o' (K,0)=it T.aD vb' (rows (fun b=>bkO (V b) (nth l b)) l.length++[x])) (h2 : ∀ b,b<l.length→∀ k,OfB K b k→o' k=o k) (h3:BO K o' l.length Vn d):FnO K o' vb' (fun b=>if b=l.length then Vn else V b) ⟨ps,l++[d]⟩:=by
 refine ⟨?_,fun b hb=>?_⟩
 ·dsimp only
  rw [h1,List.length_append,List.length_singleton,gL]
  congr 1
  congr 1
  ·refine lR fun i hi=>?_
   rw [kH hi,if_neg (by omega)]
  ·rw [kl,if_pos rfl,hx]
 ·have hb:b<(l++[d]).length:=hb
  rw [List.length_append,List.length_singleton] at hb
  dsimp only
  rcases Nat.lt_or_ge b l.length with h | h
  ·rw [if_neg (by omega),kH h]
   exact (g.bo b h).congr (h2 b h)
  ·have e:b=l.length:=by omega
   subst e
   rw [if_pos rfl,kl];exact h3
theorem Owns.vJ {po:OP} {P:Program} {W:View} {h:Heap} {o:Own} {k:Key} {ty:TypeId} {us:List (Nat × Value)} {α:Type} [r:Rep α] {e:TypeId} {v:Value} {t:TypeId} {bytes:Nat} {z:Value} {x y:Operand} {u:Value} {l2:List α} {K:Value→Heap→Prop} (w:Owns W h o) (hk:o k=it e v ([]:List α)) (hT:dA P t e (Rep.n α) bytes z) (hx:asg us x=v) (hy:asg us y=u)
  (hs:SlRd W u l2) (hb:l2.length*bytes≤140737488355328)
  (hK : ∀ v' h',Owns W h' (o.upd k (it e v' l2))→v'.oneCell'=true→(∀ X:View,X.le (vw h)→Av X v→X.le (vw h'))→K v' h'):@Lft.step po P (.call ⟨.builtin .append,#[x,y],#[t,t]⟩) ty us h K:=
 w.eg (k:=k) (l:=([]:List α)) (l2:=l2) hk hT hx hy (hs.src w.wle) (by simpa using hb) (by have:=hs.bound;simpa using this) fun v' h' w' m=>by
  exact hK v' h' w' ((w'.cells (k:=k) Own.ag).2) fun X hX hA=>(m.view hX hA).1
theorem ofB1 {K b:Nat}:OfB K b (K+1,b):=.inl ⟨rfl,by simp,by simp⟩
theorem ofB2 {K b:Nat}:OfB K b (K+2,b):=.inl ⟨rfl,by simp,by simp⟩
theorem ofB3 {K b:Nat}:OfB K b (K+3,b):=.inl ⟨rfl,by simp,by simp⟩
theorem ofB4 {K b:Nat}:OfB K b (K+4,b):=.inl ⟨rfl,by simp,by simp⟩
theorem ofB5 {K b i:Nat}:OfB K b (K+5,pr b i):=.inr ⟨i,rfl,.inl rfl⟩
theorem ofB6 {K b i:Nat}:OfB K b (K+6,pr b i):=.inr ⟨i,rfl,.inr rfl⟩
theorem BA {H:View} {d:Int} {v:Value} (h1:I64 d) (h2:v.oneCell'=true):Rd H (.agg #[.int .i64 d,v]) (PhO.mk d ⟨v⟩):=⟨_,rfl,[.int .i64 d],[v],rfl,⟨rfl,h1⟩,rfl,h2⟩
theorem BI {H:View} {op d two:Int} {imm:I32} {v:Value} (h:I64 op∧I64 d∧I64 two∧-2147483648≤imm.v∧imm.v≤2147483647) (h2:v.oneCell'=true):Rd H (.agg #[.int .i64 op,.int .i64 d,.int .i64 two,v,.int .i32 imm.v]) (InO.mk op d two ⟨v⟩ imm):=
 ⟨_,rfl,[.int .i64 op],_,rfl,⟨rfl,h.1⟩,[.int .i64 d],_,rfl,⟨rfl,h.2.1⟩,[.int .i64 two],_,rfl,⟨rfl,h.2.2.1⟩,[v],_,rfl,⟨rfl,h2⟩,rfl,h.2.2.2⟩
theorem zc {H:View} {vp vi va vt:Value} {kd:Int} {imm:I32} (h1:vp.oneCell'=true) (h2:vi.oneCell'=true) (h3:va.oneCell'=true) (h4:vt.oneCell'=true) (h5:I64 kd) (h6:-2147483648≤imm.v∧imm.v≤2147483647):Rd H (.agg #[vp,vi,.int .i64 kd,va,vt,.int .i32 imm.v]) (BkO.mk ⟨vp⟩ ⟨vi⟩ ⟨kd,⟨va⟩,⟨vt⟩,imm⟩):=
 ⟨_,rfl,[vp],_,rfl,⟨rfl,h1⟩,[vi],_,rfl,⟨rfl,h2⟩,[.int .i64 kd],_,rfl,⟨rfl,h5⟩,[va],_,rfl,⟨rfl,h3⟩,[vt],_,rfl,⟨rfl,h4⟩,rfl,h6⟩
end Go.Proofs.Ytbkdlhkoiagbbaa
namespace Go.Proofs.Ytbkdlhkoiagbbaa
open Go Go.Lft
structure Wt (W:View) (h:Heap) (K:Nat) (ob:Own) (vb:Value) (V:Nat→Bv) (f:ae):Prop where
 ex : ∃ o,Owns W h o∧FnO K o vb V f∧∀ k:Key,(k.1<K∨K+6<k.1)→o k=ob k
section
variable {W:View} {h:Heap} {K:Nat} {ob:Own} {vb:Value} {V:Nat→Bv} {f:ae}
theorem Wt.wle (w:Wt W h K ob vb V f):W.le (vw h):=let ⟨_,w,_⟩:=w.ex;w.wle
theorem Wt.blks (w:Wt W h K ob vb V f):SlRd (vw h) vb f.blocks:=let ⟨_,w,g,_⟩:=w.ex;g.rd w
theorem Wt.ext' (w:Wt W h K ob vb V f) {h':Heap} (hle:(vw h).le (vw h')):Wt W h' K ob vb V f:=let ⟨o,w,g,r⟩:=w.ex;⟨o,w.ext' hle,g,r⟩
theorem Wt.raw (w:Wt W h K ob vb V f) {k:Key} (hk:k.1<K∨K+6<k.1) {n:Nat} {e:TypeId} {B:Nat} {l:List Value} (hb:ob k=bx e B (RawN.mk (n:=n) l)) {i:Nat} (hi:i≤n):ah (vw h) ⟨B,i,none⟩=some (l.getD i undef):=
 let ⟨o,w,g,r⟩:=w.ex
 w.raw (k:=k) ((r k hk).trans hb) hi
theorem Wt.eR (w:Wt W h K ob vb V f) {k:Key} (hk:k.1<K∨K+6<k.1) {n:Nat} {e:TypeId} {B:Nat} {l:List Value} (hb:ob k=bx e B (RawN.mk (n:=n) l)):Un.ev (vw h) (.ao (n+1)) (.pointer (some ⟨B,0,none⟩))=some (.agg l.toArray):=
 let ⟨o,w,g,r⟩:=w.ex
 w.eR (k:=k) ((r k hk).trans hb)
theorem FnO.cur {o:Own} {b:Nat} {d:BlkD} (g:FnO K o vb V (aE f b d)) (hb:b<f.blocks.length):BO K o b (V b) d:=by
 have:=g.bo b (by rw [fe];exact hb)
 rw [ji hb,if_pos rfl] at this
 exact this
theorem Wt.blk (w:Wt W h K ob vb V f) {b:Nat} (hb:b<f.blocks.length):Un.ev (vw h) (.ao 6) (.pointer (some ((slA vb).add (b*6))))=some (.agg #[(V b).p,(V b).i,.int .i64 (nth f.blocks b).term.kind,(V b).a,(V b).t,.int .i32 (nth f.blocks b).term.imm.v])∧(V b).p.oneCell'=true∧(V b).i.oneCell'=true∧(V b).a.oneCell'=true∧(V b).t.oneCell'=true:=by
 obtain ⟨o,w,g,r⟩:=w.ex
 have hl:b<(rows (fun b=>bkO (V b) (nth f.blocks b)) f.blocks.length).length:=by simpa using hb
 obtain ⟨u,hu,hr⟩:=Owns.ldW w g.blk rfl (N:=6) rfl hl
 rw [dI hl] at hr
 obtain ⟨cs,rfl,c1,r1,e1,⟨q1,o1⟩,c2,r2,e2,⟨q2,o2⟩,c3,r3,e3,⟨q3,_⟩,c4,r4,e4,⟨q4,o4⟩,c5,r5,e5,⟨q5,o5⟩,q6,_⟩:=hr
 have q1:c1=[(V b).p]:=q1
 have q2:c2=[(V b).i]:=q2
 have q3:c3=[.int .i64 (nth f.blocks b).term.kind]:=q3
 have q4:c4=[(V b).a]:=q4
 have q5:c5=[(V b).t]:=q5
 have q6:r5=[.int .i32 (nth f.blocks b).term.imm.v]:=q6
 have he:cs.toList = #[(V b).p,(V b).i,Value.int .i64 (nth f.blocks b).term.kind,(V b).a,(V b).t,.int .i32 (nth f.blocks b).term.imm.v].toList:=by rw [e1,e2,e3,e4,e5,q1,q2,q3,q4,q5,q6];rfl
 exact ⟨by rw [hu,Array.toList_inj.1 he],o1,o2,o4,o5⟩
section
variable {b i:Nat} {d:BlkD}
theorem Wt.phN (w:Wt W h K ob vb V (aE f b d)) (hb:b<f.blocks.length):SlRd (vw h) (V b).p (rows (phO (V b) d) d.phis.length):=let ⟨_,w,g,_⟩:=w.ex;w.now (g.cur hb).phis
theorem Wt.inN (w:Wt W h K ob vb V (aE f b d)) (hb:b<f.blocks.length):SlRd (vw h) (V b).i (rows (inO (V b) d) d.ins.length):=let ⟨_,w,g,_⟩:=w.ex;w.now (g.cur hb).ins
theorem Wt.args (w:Wt W h K ob vb V (aE f b d)) (hb:b<f.blocks.length):SlRd (vw h) (V b).a d.term.args:=let ⟨_,w,g,_⟩:=w.ex;w.now (g.cur hb).args
theorem Wt.to (w:Wt W h K ob vb V (aE f b d)) (hb:b<f.blocks.length):SlRd (vw h) (V b).t d.term.to:=let ⟨_,w,g,_⟩:=w.ex;w.now (g.cur hb).to
theorem Wt.pin (w:Wt W h K ob vb V (aE f b d)) (hb:b<f.blocks.length) (hi:i<d.phis.length):SlRd (vw h) ((V b).pin i) (nth d.phis i).ins:=let ⟨_,w,g,_⟩:=w.ex;w.now ((g.cur hb).pin i hi)
theorem Wt.iar (w:Wt W h K ob vb V (aE f b d)) (hb:b<f.blocks.length) (hi:i<d.ins.length):SlRd (vw h) ((V b).iar i) (nth d.ins i).args:=let ⟨_,w,g,_⟩:=w.ex;w.now ((g.cur hb).iar i hi)
theorem Wt.phi (w:Wt W h K ob vb V (aE f b d)) (hb:b<f.blocks.length) (hi:i<d.phis.length):ah (vw h) (((slA (V b).p).add (i*2)).add 0)=some (.int .i64 (nth d.phis i).dst)∧ah (vw h) (((slA (V b).p).add (i*2)).add 1)=some ((V b).pin i)∧I64 (nth d.phis i).dst:=by
 have hl:i<(rows (phO (V b) d) d.phis.length).length:=by simpa using hi
 have a:=(w.phN hb).at hl
 rw [dI hl] at a
 have a1:=(a.part PhO.jw)
 have c1:ah (vw h) (((slA (V b).p).add (i*2)).add 0)=some (.int .i64 (nth d.phis i).dst):=a1.int
 exact ⟨c1,(a.part PhO.j6).raw,a1.rng⟩
theorem Wt.ins (w:Wt W h K ob vb V (aE f b d)) (hb:b<f.blocks.length) (hi:i<d.ins.length):ah (vw h) (((slA (V b).i).add (i*5)).add 1)=some (.int .i64 (nth d.ins i).dst)∧ah (vw h) (((slA (V b).i).add (i*5)).add 2)=some (.int .i64 (nth d.ins i).two)∧ah (vw h) (((slA (V b).i).add (i*5)).add 3)=some ((V b).iar i)∧I64 (nth d.ins i).dst∧I64 (nth d.ins i).two:=by
 have hl:i<(rows (inO (V b) d) d.ins.length).length:=by simpa using hi
 have a:=(w.inN hb).at hl
 rw [dI hl] at a
 exact ⟨(a.part InO.jw).int,(a.part InO.qu).int,(a.part InO.mP).raw,(a.part InO.jw).rng,(a.part InO.qu).rng⟩
theorem Wt.wr {h':Heap} {o:Own} (g:FnO K o vb V (aE f b d)) (r : ∀ k:Key,(k.1<K∨K+6<k.1)→o k=ob k) (hb:b<f.blocks.length) {k:Key} {x:Option Lft.Item} {d':BlkD} (w:Owns W h' (o.upd k x)) (hk:OfB K b k) (ht:tmO (V b) d'=tmO (V b) d) (hd:BO K (o.upd k x) b (V b) d'):Wt W h' K ob vb V (aE f b d'):=by
 refine ⟨_,w,?_,fun q hq=>?_⟩
 ·have:=g.wr (by rw [fe];exact hb) hk (fun _=>rfl) (by rw [ji hb,if_pos rfl];exact ht) hd
  rw [rR] at this
  exact this
 ·have:=eL hk
  rw [Own.ab (by rintro rfl;omega)];exact r q hq
variable {po:OP} {P:Program} {ty t:TypeId} {us:List (Nat × Value)} {x y:Operand} {Kc:Value→Heap→Prop} {v:Int}
theorem Wt.pf (w:Wt W h K ob vb V (aE f b d)) (hb:b<f.blocks.length) (hi:i<d.phis.length) {k:Nat} (hk:k<(nth d.phis i).ins.length) (hsz:b6 P t=some 1) (hx:asg us x = .pointer (some (((slA ((V b).pin i)).add (k*2)).add 0))) (hy:asg us y = .int .i64 v) (hv:I64 v)
  (hK : ∀ h',Wt W h' K ob vb V (aE f b (dx d i ⟨(nth d.phis i).dst,(nth d.phis i).ins.set k ⟨v,(nth (nth d.phis i).ins k).val⟩⟩))→Kc undef h'):@Lft.step po P (.store t x y) ty us h Kc:=by
 obtain ⟨o,w,g,r⟩:=w.ex
 refine w.mc (k:=(K+5,pr b i)) (α:=InD) InD.nO (v:=(V b).pin i) (l:=(nth d.phis i).ins) (i:=k) (d:=v) ((g.cur hb).pin i hi) hsz hx hy hk (eF.2 ⟨rfl,hv⟩) fun h' w' _=>hK h' ?_
 refine Wt.wr g r hb w' ofB5 rfl ((g.cur hb).A5 hi fun _=>?_)
 rw [aj hk]
theorem Wt.id (w:Wt W h K ob vb V (aE f b d)) (hb:b<f.blocks.length) (hi:i<d.ins.length) (hsz:b6 P t=some 1) (hx:asg us x = .pointer (some (((slA (V b).i).add (i*5)).add 1))) (hy:asg us y = .int .i64 v) (hv:I64 v)
  (hK : ∀ h',Wt W h' K ob vb V (aE f b (lF d i { nth d.ins i with dst:=v }))→Kc undef h'):@Lft.step po P (.store t x y) ty us h Kc:=by
 obtain ⟨o,w,g,r⟩:=w.ex
 have hl:i<(rows (inO (V b) d) d.ins.length).length:=by simpa using hi
 refine w.mc (k:=(K+2,b)) (α:=InO) InO.jw (v:=(V b).i) (l:=rows (inO (V b) d) d.ins.length) (i:=i) (d:=v) (g.cur hb).ins hsz hx hy hl (eF.2 ⟨rfl,hv⟩) fun h' w' _=>hK h' ?_
 exact Wt.wr g r hb w' ofB2 rfl ((g.cur hb).Cz hi (op:=(nth d.ins i).op) (dst:=v) (two:=(nth d.ins i).two) (imm:=(nth d.ins i).imm) (by rw [dI hl];rfl) fun _=>rfl)
theorem Wt.tt (w:Wt W h K ob vb V (aE f b d)) (hb:b<f.blocks.length) {k:Nat} (hk:k<d.term.to.length) (hsz:b6 P t=some 1) (hx:asg us x = .pointer (some ((slA (V b).t).add k))) (hy:asg us y = .int .i64 v) (hv:I64 v)
  (hK : ∀ h',Wt W h' K ob vb V (aE f b (wk d (d.term.to.set k v)))→Kc undef h'):@Lft.step po P (.store t x y) ty us h Kc:=by
 obtain ⟨o,w,g,r⟩:=w.ex
 refine w.tX (k:=(K+4,b)) (α:=Int) (v:=(V b).t) (l:=d.term.to) (i:=k) (d:=v) (g.cur hb).to hsz (by rw [hx];rw [show k*Rep.n Int=k from Nat.mul_one k]) hy hk (eF.2 ⟨rfl,hv⟩) fun h' w' _=>hK h' ?_
 exact Wt.wr g r hb w' ofB4 rfl ((g.cur hb).Cu fun _=>rfl)
end
end
section
variable {W:View} {h:Heap} {K:Nat} {ob:Own} {vb:Value} {V:Nat→Bv} {f:ae} {b i:Nat} {d:BlkD}
theorem Wt.ixP (w:Wt W h K ob vb V (aE f b d)) (hb:b<f.blocks.length) (hi:i<d.phis.length):Bn.ev (.idx 2) (V b).p (.int .i64 i)=some (.pointer (some ((slA (V b).p).add (i*2)))):=
 (w.phN hb).idxn (N:=2) rfl (Int.natCast_nonneg _) (by simp;omega)
theorem Wt.ixT (w:Wt W h K ob vb V (aE f b d)) (hb:b<f.blocks.length) {k:Nat} (hk:k<d.term.to.length):Bn.ev (.idx 1) (V b).t (.int .i64 k)=some (.pointer (some ((slA (V b).t).add k)))∧ah (vw h) ((slA (V b).t).add k)=some (.int .i64 (nth d.term.to k))∧I64 (nth d.term.to k):=
 ⟨(w.to hb).idx1 rfl (Int.natCast_nonneg _) (by omega),(w.to hb).int (View.le_refl _) hk,by have:=((w.to hb).at hk).rng;rw [aj hk];exact this⟩
theorem Wt.ixN (w:Wt W h K ob vb V (aE f b d)) (hb:b<f.blocks.length) (hi:i<d.phis.length) {k:Nat} (hk:k<(nth d.phis i).ins.length):Bn.ev (.idx 2) ((V b).pin i) (.int .i64 k)=some (.pointer (some ((slA ((V b).pin i)).add (k*2))))∧ah (vw h) (((slA ((V b).pin i)).add (k*2)).add 0)=some (.int .i64 (nth (nth d.phis i).ins k).frm)∧ah (vw h) (((slA ((V b).pin i)).add (k*2)).add 1)=some (.int .i64 (nth (nth d.phis i).ins k).val)∧I64 (nth (nth d.phis i).ins k).frm∧I64 (nth (nth d.phis i).ins k).val:=by
 have a:=(w.pin hb hi).at hk
 rw [←aj hk] at a
 exact ⟨(w.pin hb hi).idxn (N:=2) rfl (Int.natCast_nonneg _) (by omega),(a.part InD.nO).int,(a.part InD.yo).int,(a.part InD.nO).rng,(a.part InD.yo).rng⟩
end
section
variable {W:View} {h:Heap} {K:Nat} {ob:Own} {vb:Value} {V:Nat→Bv} {f:ae} {b i:Nat} {d:BlkD}
theorem Wt.drop {k:Key} {x:Option Lft.Item} (w:Wt W h K (ob.upd k x) vb V f) (hk:ob k=none) (hf:k.1<K∨K+6<k.1):Wt W h K ob vb V f:=by
 obtain ⟨o,w,g,r⟩:=w.ex
 refine ⟨fun q=>if q=k then none else o q,w.sub fun q i hq=>?_,g.congr fun q h1 h2=>if_neg (by rintro rfl;omega),fun q hq=>?_⟩
 ·split at hq
  ·cases hq
  ·exact hq
 ·by_cases e:q=k
  ·exact (if_pos e).trans (by rw [e];exact hk.symm)
  ·exact (if_neg e).trans (by rw [r q hq,Own.ab e])
end
def dB {α:Type} [Inhabited α] (g:α→α) (l:List α) (k:Nat):List α:=rows (fun i=>if i<k then g (nth l i) else nth l i) l.length
section
variable {α:Type} [Inhabited α] {g:α→α} {l:List α} {k:Nat}
theorem gM:(dB g l k).length=l.length:=by simp [dB]
theorem lD:dB g l 0=l:=by
 unfold dB
 refine List.ext_getElem (by simp) fun i h1 h2=>?_
 rw [dI,if_neg (Nat.not_lt_zero _),aj h2]
theorem mS:dB g l l.length=l.map g:=by
 unfold dB
 refine List.ext_getElem (by simp) fun i h1 h2=>?_
 have hi:i<l.length:=by simpa using h2
 rw [dI,if_pos hi,aj hi,List.getElem_map]
theorem xH {i:Nat} (hi:i<l.length):nth (dB g l k) i=if i<k then g (nth l i) else nth l i:=by unfold dB;exact cm hi
theorem kx (hk:k<l.length):nth (dB g l k) k=nth l k:=by rw [xH hk,if_neg (Nat.lt_irrefl _)]
theorem lC (hk:k<l.length):(dB g l k).set k (g (nth l k))=dB g l (k+1):=by
 unfold dB
 refine ie hk (by rw [if_pos (Nat.lt_succ_self k)]) fun j hj hne=>?_
 by_cases h:j<k
 ·rw [if_pos h,if_pos (by omega)]
 ·rw [if_neg h,if_neg (by omega)]
end
end Go.Proofs.Ytbkdlhkoiagbbaa
namespace Go.Proofs.Ytbkdlhkoiagbbaa
open Go Go.Lft
theorem pT {α:Type} [Rep α] {n:Nat} (k:Key) {v:Value} {l:List α} {h:Heap} {W:View} {o:Own} (w:Owns W h o) (hk:o k=none) (hv:SlRd W v l) :
  ∃ a m c,v = .slice a m c∧(a=none→l=[]):=by
 obtain ⟨a,cap,rfl,h1,h2,h3⟩:=hv
 exact ⟨_,_,_,rfl,fun e=>by
  subst e
  rcases h3 with h3 | ⟨ad,h3,_⟩
  ·first | exact h3 | exact List.eq_nil_of_length_eq_zero (by simpa using h3)
  ·cases h3⟩
theorem Owns.past {W:View} {h:Heap} {cur o':Own} (w:Owns W h cur) {P:Key→Prop} (he : ∀ k,¬P k→cur k=o' k) (hn : ∀ k,P k→o' k=none):Owns W h o':=w.sub fun k i hk=>by
 by_cases p:P k
 ·rw [hn k p] at hk;cases hk
 ·rw [he k p];exact hk
theorem vq (k:Key) {v:Value} {l:List InD} {h:Heap} {W:View} {o:Own} (w:Owns W h o) (hk:o k=none) (hv:SlRd W v l) (hb:l.length≤1000000) :
  ay Try.prog N.bX #[v] h (fun u h'=>Owns W h' (o.upd k (it T.cK u l))∧u.oneCell'=true∧(vw h).le (vw h')):=by
 refine an (args:=[v]) follows F.bX E.bX (Nat.le_of_ble_eq_true (by kernel_rfl)) fun K hK=>?_
 dsimp only [L.bX]
 obtain ⟨a,m,c,rfl,hn⟩:=pT (n:=0) k w hk hv
 refine aa fun z hz=>?_
 simp
 rw [hz];clear hz z
 refine aa fun z hz=>?_
 refine aa fun y hy=>?_
 simp
 refine tA U.gm rfl rfl ?_
 rw [hy];clear hy y
 by_cases ha:a=none
 ·have hl:=hn ha
  subst ha
  subst hl
  simp
  refine hK _ _ ⟨Owns.nils w fun q i hq=>?_,rfl,View.le_refl _⟩
  by_cases e:q=k
  ·subst e;rw [Own.ag] at hq;cases hq;exact .inr ⟨rfl,OwnT.nil (α:=InD) _ h T.cK⟩
  ·rw [Own.ab e] at hq;exact .inl hq
 ·have hi:a.isNone=false:=by cases a<;>simp at ha ⊢
  simp [hi]
  rw [hz];clear hz z
  refine aa fun z hz=>?_
  simp
  refine w.sV (k:=k) (α:=InD) hk El.gm fun v1 h1 hle1 hv1 w1 av1=>?_
  refine Owns.vJ w1 (k:=k) (α:=InD) (v:=v1) (u:=.slice a m c) (l2:=l) Own.ag El.gm (by simp) (by simp) hv (by omega) fun v2 h2 w2 hv2 m2=>?_
  rw [hz];clear hz z
  simp
  refine hK _ _ ⟨w2.congr fun q=>?_,hv2,m2 _ hle1 (av1 _ (View.le_refl _))⟩
  unfold Own.upd;split<;>rfl
theorem jM (k:Key) {v:Value} {l:List Int} {h:Heap} {W:View} {o:Own} (w:Owns W h o) (hk:o k=none) (hv:SlRd W v l) (hb:l.length≤1000000) :
  ay Try.prog N.bS #[v] h (fun u h'=>Owns W h' (o.upd k (it T.int u l))∧u.oneCell'=true∧(vw h).le (vw h')):=by
 refine an (args:=[v]) follows F.bS E.bS (Nat.le_of_ble_eq_true (by kernel_rfl)) fun K hK=>?_
 dsimp only [L.bS]
 obtain ⟨a,m,c,rfl,hn⟩:=pT (n:=0) k w hk hv
 refine aa fun z hz=>?_
 simp
 rw [hz];clear hz z
 refine aa fun z hz=>?_
 refine aa fun y hy=>?_
 simp
 refine tA U.bV rfl rfl ?_
 rw [hy];clear hy y
 by_cases ha:a=none
 ·have hl:=hn ha
  subst ha
  subst hl
  simp
  refine hK _ _ ⟨Owns.nils w fun q i hq=>?_,rfl,View.le_refl _⟩
  by_cases e:q=k
  ·subst e;rw [Own.ag] at hq;cases hq;exact .inr ⟨rfl,OwnT.nil (α:=Int) _ h T.int⟩
  ·rw [Own.ab e] at hq;exact .inl hq
 ·have hi:a.isNone=false:=by cases a<;>simp at ha ⊢
  simp [hi]
  rw [hz];clear hz z
  refine aa fun z hz=>?_
  simp
  refine w.sV (k:=k) (α:=Int) hk El.bV fun v1 h1 hle1 hv1 w1 av1=>?_
  refine Owns.vJ w1 (k:=k) (α:=Int) (v:=v1) (u:=.slice a m c) (l2:=l) Own.ag El.bV (by simp) (by simp) hv (by omega) fun v2 h2 w2 hv2 m2=>?_
  rw [hz];clear hz z
  simp
  refine hK _ _ ⟨w2.congr fun q=>?_,hv2,m2 _ hle1 (av1 _ (View.le_refl _))⟩
  unfold Own.upd;split<;>rfl
theorem xl (K:Nat) (k:Key) {p:PhiD} {u:Value} {h:Heap} {W:View} {o:Own} (w:Owns W h o) (hk:o k=none) (hkK:k.1≠K+8) (ht : ∀ i,10≤i→o (K+8,i)=none) (hr:Rd W u p) (hb:p.ins.length≤1000000) :
  ay Try.prog N.bN #[u] h (fun r h'=>∃ v,r = .agg #[.int .i64 p.dst,v]∧v.oneCell'=true∧I64 p.dst∧Owns W h' (o.upd k (it T.cK v p.ins))):=by
 refine an (args:=[u]) follows F.bN E.bN (Nat.le_of_ble_eq_true (by kernel_rfl)) fun Kc hK=>?_
 dsimp only [L.bN]
 obtain ⟨vi,rfl,hd,si⟩:=AF hr
 have k1:k≠(K+8,10):=by rintro rfl;exact hkK rfl
 have k2:k≠(K+8,11):=by rintro rfl;exact hkK rfl
 refine aa fun z hz=>?_
 simp
 refine w.n9 (k:=(K+8,10)) (n:=1) (l:=[.int .i64 p.dst,vi]) (ht 10 (by decide)) rfl rfl (by decide) (ee si.cells.2) fun B h1 hle1 w1=>?_
 refine w1.mB (k:=(K+8,11)) (n:=1) (z:=.agg #[.int .i64 0,.slice none 0 0]) ((Own.ab (by simp)).trans (ht 11 (by decide))) (by kernel_rfl) rfl (by decide) (by simp [Value.cells,Value.oneCell']) fun h2 q2 w2=>?_
 generalize h1.size=R at w2
 have c1:ah (vw h2) ⟨B,1,none⟩=some vi:=w2.raw (k:=(K+8,10)) (e:=T.cH) (n:=1) (by rw [Own.ab (by simp),Own.ag]) (i:=1) (by decide)
 rw [hz];clear hz z
 refine aa fun z hz=>?_
 simp [c1]
 refine aq (by kernel_rfl) (vq k w2 (by rw [Own.ab k2,Own.ab k1];exact hk) si hb) ?_
 rintro v h3 ⟨w3,hv,_⟩
 refine w3.dV (k:=(K+8,10)) (n:=1) (i:=1) (e:=T.cH) (B:=B) (l:=[.int .i64 p.dst,vi]) (by rw [Own.ab k1.symm,Own.ab (by simp),Own.ag]) (by decide) (by kernel_rfl) rfl rfl hv fun h4 w4 _=>?_
 rw [hz];clear hz z
 refine aa fun z hz=>?_
 have c2:Un.ev (vw h4) (.ao 2) (.pointer (some ⟨B,0,none⟩))=some (.agg #[.int .i64 p.dst,v]):=w4.eR (k:=(K+8,10)) (n:=1) Own.ag
 simp [c2]
 refine w4.gR (k:=(K+8,11)) (e:=T.cH) (B:=R) (D:=RawN.mk (n:=1) [.int .i64 0,.slice none 0 0]) Part.all (d:=RawN.mk (n:=1) [.int .i64 p.dst,v]) (by rw [Own.ab (by simp),Own.ab k2.symm,Own.ag];rfl) (by kernel_rfl) rfl rfl (fU rfl (ee hv)) fun h5 w5 _=>?_
 have c3:Un.ev (vw h5) (.ao 2) (.pointer (some ⟨R,0,none⟩))=some (.agg #[.int .i64 p.dst,v]):=w5.eR (k:=(K+8,11)) (n:=1) Own.ag
 rw [hz];clear hz z
 simp [c3]
 refine hK _ _ ⟨v,rfl,hv,hd,Owns.past w5 (P:=fun q=>q=(K+8,10)∨q=(K+8,11)) (fun q hq=>?_) fun q hq=>?_⟩
 ·have e1:q≠(K+8,10):=fun e=>hq (.inl e)
  have e2:q≠(K+8,11):=fun e=>hq (.inr e)
  rw [Own.ab e2,Own.ab e1]
  unfold Own.upd
  split
  ·rfl
  ·rfl
 ·rcases hq with rfl | rfl
  ·rw [Own.ab k1.symm];exact ht 10 (by decide)
  ·rw [Own.ab k2.symm];exact ht 11 (by decide)
theorem xz (K:Nat) (k:Key) {p:InsD} {u:Value} {h:Heap} {W:View} {o:Own} (w:Owns W h o) (hk:o k=none) (hkK:k.1≠K+8) (ht : ∀ i,10≤i→o (K+8,i)=none) (hr:Rd W u p) (hb:p.args.length≤1000000) :
  ay Try.prog N.bP #[u] h (fun r h'=>∃ v,r = .agg #[.int .i64 p.op,.int .i64 p.dst,.int .i64 p.two,v,.int .i32 p.imm.v]∧v.oneCell'=true∧(I64 p.op∧I64 p.dst∧I64 p.two∧-2147483648≤p.imm.v∧p.imm.v≤2147483647)∧Owns W h' (o.upd k (it T.int v p.args))):=by
 refine an (args:=[u]) follows F.bP E.bP (Nat.le_of_ble_eq_true (by kernel_rfl)) fun Kc hK=>?_
 dsimp only [L.bP]
 obtain ⟨vi,rfl,hd,si⟩:=vz hr
 have k1:k≠(K+8,10):=by rintro rfl;exact hkK rfl
 have k2:k≠(K+8,11):=by rintro rfl;exact hkK rfl
 have five : ∀ {v:Value},v.oneCell'=true→∀ c∈[Value.int .i64 p.op,.int .i64 p.dst,.int .i64 p.two,v,.int .i32 p.imm.v],c.oneCell'=true:=fun hv c hc=>by
  simp only [List.mem_cons,List.not_mem_nil,or_false] at hc
  rcases hc with rfl | rfl | rfl | rfl | rfl<;>first | rfl | exact hv
 refine aa fun z hz=>?_
 simp
 refine w.n9 (k:=(K+8,10)) (n:=4) (l:=[.int .i64 p.op,.int .i64 p.dst,.int .i64 p.two,vi,.int .i32 p.imm.v]) (ht 10 (by decide)) rfl rfl (by decide) (five si.cells.2) fun B h1 hle1 w1=>?_
 refine w1.mB (k:=(K+8,11)) (n:=4) (z:=.agg #[.int .i64 0,.int .i64 0,.int .i64 0,.slice none 0 0,.int .i32 0]) ((Own.ab (by simp)).trans (ht 11 (by decide))) (by kernel_rfl) rfl (by decide) (by simp [Value.cells,Value.oneCell']) fun h2 q2 w2=>?_
 generalize h1.size=R at w2
 have c1:ah (vw h2) ⟨B,3,none⟩=some vi:=w2.raw (k:=(K+8,10)) (e:=T.cd) (n:=4) (by rw [Own.ab (by simp),Own.ag]) (i:=3) (by decide)
 rw [hz];clear hz z
 refine aa fun z hz=>?_
 simp [c1]
 refine aq (by kernel_rfl) (jM k w2 (by rw [Own.ab k2,Own.ab k1];exact hk) si hb) ?_
 rintro v h3 ⟨w3,hv,_⟩
 refine w3.dV (k:=(K+8,10)) (n:=4) (i:=3) (e:=T.cd) (B:=B) (l:=[.int .i64 p.op,.int .i64 p.dst,.int .i64 p.two,vi,.int .i32 p.imm.v]) (by rw [Own.ab k1.symm,Own.ab (by simp),Own.ag]) (by decide) (by kernel_rfl) rfl rfl hv fun h4 w4 _=>?_
 rw [hz];clear hz z
 refine aa fun z hz=>?_
 have c2:Un.ev (vw h4) (.ao 5) (.pointer (some ⟨B,0,none⟩))=some (.agg #[.int .i64 p.op,.int .i64 p.dst,.int .i64 p.two,v,.int .i32 p.imm.v]):=w4.eR (k:=(K+8,10)) (n:=4) Own.ag
 simp [c2]
 refine w4.gR (k:=(K+8,11)) (e:=T.cd) (B:=R) (D:=RawN.mk (n:=4) [.int .i64 0,.int .i64 0,.int .i64 0,.slice none 0 0,.int .i32 0]) Part.all (d:=RawN.mk (n:=4) [.int .i64 p.op,.int .i64 p.dst,.int .i64 p.two,v,.int .i32 p.imm.v]) (by rw [Own.ab (by simp),Own.ab k2.symm,Own.ag];rfl) (by kernel_rfl) rfl rfl (fU rfl (five hv)) fun h5 w5 _=>?_
 have c3:Un.ev (vw h5) (.ao 5) (.pointer (some ⟨R,0,none⟩))=some (.agg #[.int .i64 p.op,.int .i64 p.dst,.int .i64 p.two,v,.int .i32 p.imm.v]):=w5.eR (k:=(K+8,11)) (n:=4) Own.ag
 rw [hz];clear hz z
 simp [c3]
 refine hK _ _ ⟨v,rfl,hv,hd,Owns.past w5 (P:=fun q=>q=(K+8,10)∨q=(K+8,11)) (fun q hq=>?_) fun q hq=>?_⟩
 ·have e1:q≠(K+8,10):=fun e=>hq (.inl e)
  have e2:q≠(K+8,11):=fun e=>hq (.inr e)
  rw [Own.ab e2,Own.ab e1]
  unfold Own.upd
  split
  ·rfl
  ·rfl
 ·rcases hq with rfl | rfl
  ·rw [Own.ab k1.symm];exact ht 10 (by decide)
  ·rw [Own.ab k2.symm];exact ht 11 (by decide)
end Go.Proofs.Ytbkdlhkoiagbbaa
namespace Go.Proofs.Ytbkdlhkoiagbbaa
open Go Go.Lft
structure CpP (K b:Nat) (o o':Own) (u:Value) (pin:Nat→Value) (l:List PhiD):Prop where
 phs:PhsO K o' b u pin l
 fr : ∀ k,k≠(K+1,b)→(∀ i,k≠(K+5,pr b i))→o' k=o k
 fp : ∀ i,l.length≤i→o' (K+5,pr b i)=none
structure CpI (K b:Nat) (o o':Own) (u:Value) (iar:Nat→Value) (l:List InsD):Prop where
 ins:InsO K o' b u iar l
 fr : ∀ k,k≠(K+2,b)→(∀ i,k≠(K+6,pr b i))→o' k=o k
 fi : ∀ i,l.length≤i→o' (K+6,pr b i)=none
section
variable {K b:Nat} {o o' o2:Own} {u u' v:Value} {pin iar:Nat→Value}
theorem CpP.push {l:List PhiD} {p:PhiD} (c:CpP K b o o' u pin l) (ho : ∀ k,o2 k=((o'.upd (K+5,pr b l.length) (it T.cK v p.ins)).upd (K+1,b) (it T.cH u' (rows (phR pin l) l.length++[⟨p.dst,⟨v⟩⟩]))) k):CpP K b o o2 u' (fun i=>if i=l.length then v else pin i) (l++[p]):=by
 refine ⟨c.phs.push ?_ ?_ fun i hi=>?_,fun k h1 h2=>?_,fun i hi=>?_⟩
 ·rw [ho,Own.ag]
 ·rw [ho,Own.ab (by simp),Own.ag]
 ·rw [ho,Own.ab (by simp),Own.ab (by simp [sw];omega)]
 ·rw [ho,Own.ab h1,Own.ab (h2 _)];exact c.fr k h1 h2
 ·rw [List.length_append,List.length_singleton] at hi
  rw [ho,Own.ab (by simp),Own.ab (by simp [sw];omega)];exact c.fp i (by omega)
theorem CpI.push {l:List InsD} {p:InsD} (c:CpI K b o o' u iar l) (ho : ∀ k,o2 k=((o'.upd (K+6,pr b l.length) (it T.int v p.args)).upd (K+2,b) (it T.cd u' (rows (inR iar l) l.length++[⟨p.op,p.dst,p.two,⟨v⟩,p.imm⟩]))) k):CpI K b o o2 u' (fun i=>if i=l.length then v else iar i) (l++[p]):=by
 refine ⟨c.ins.push ?_ ?_ fun i hi=>?_,fun k h1 h2=>?_,fun i hi=>?_⟩
 ·rw [ho,Own.ag]
 ·rw [ho,Own.ab (by simp),Own.ag]
 ·rw [ho,Own.ab (by simp),Own.ab (by simp [sw];omega)]
 ·rw [ho,Own.ab h1,Own.ab (h2 _)];exact c.fr k h1 h2
 ·rw [List.length_append,List.length_singleton] at hi
  rw [ho,Own.ab (by simp),Own.ab (by simp [sw];omega)];exact c.fi i (by omega)
end
theorem oJ {α:Type} [Inhabited α] {l:List α} {k:Nat} (h:k<l.length):l.take (k+1)=l.take k++[nth l k]:=by
 rw [List.take_succ_eq_append_getElem h,aj h]
theorem qW (K b:Nat) {l:List PhiD} {v:Value} {h:Heap} {W:View} {o:Own} (w:Owns W h o) (hn : ∀ k,OfB K b k→o k=none) (ht : ∀ k:Key,k.1=K+8→o k=none) (hs:SlRd W v l) (hl:l.length≤10000) (hp : ∀ i,i<l.length→(nth l i).ins.length≤10000) :
  ay Try.prog N.bw #[v,.func (.func N.bN) #[] #[]] h (fun u h'=>∃ o' pin,Owns W h' o'∧CpP K b o o' u pin l):=by
 refine an (args:=[v,.func (.func N.bN) #[] #[]]) follows F.bw E.bw (Nat.le_of_ble_eq_true (by kernel_rfl)) fun Kc hK=>?_
 dsimp only [L.bw]
 refine aa fun z hz=>?_
 simp
 rw [hz];clear hz z
 refine aa fun z hz=>?_
 simp
 rw [hz];clear hz z
 refine aa fun z hz=>?_
 have s0:=hs.mono w.wle
 simp [s0.len]
 have w1:=Owns.nils w (o':=o.upd (K+1,b) (it T.cH (.slice none 0 0) ([]:List PhO))) (fun q i hq=>by
  by_cases e:q=(K+1,b)
  ·subst e;rw [Own.ag] at hq;cases hq;exact .inr ⟨rfl,OwnT.nil (α:=PhO) _ h T.cH⟩
  ·rw [Own.ab e] at hq;exact .inl hq)
 have c1:CpP K b o (o.upd (K+1,b) (it T.cH (.slice none 0 0) ([]:List PhO))) (.slice none 0 0) (fun _=>.slice none 0 0) (l.take 0):=
  ⟨⟨Own.ag,fun i hi=>absurd hi (Nat.not_lt_zero _)⟩,fun k h1 _=>Own.ab h1,fun i _=>(Own.ab (by simp)).trans (hn _ ofB5)⟩
 refine aA [1,5,8,9,10] (fun (u:Value) k=>[.func (.func N.bN) #[] #[],u,v,.int .i64 l.length,.int .i64 k]) (fun u k h2=>∃ o' pin,Owns W h2 o'∧CpP K b o o' u pin (l.take k)) l.length (.slice none 0 0)
  rfl (by omega) rfl ⟨_,_,w1,c1⟩ (fun _ _=>rfl) (fun u k h2 hk _=>by simp) ?_ ?_
 ·rintro u k h2 hk ⟨o2,pin,w2,c2⟩ K2 hK2
  have hlk:(l.take k).length=k:=by rw [List.length_take];omega
  have s2:=hs.mono w2.wle
  have ht2 : ∀ q:Key,q.1=K+8→o2 q=none:=fun q hq=>by
   rw [c2.fr q (by rintro rfl;simp at hq) (fun i=>by rintro rfl;simp at hq)];exact ht q hq
  obtain ⟨ux,hux,rux⟩:=hs.wh rfl (N:=2) rfl hk
  refine aa fun y hy=>?_
  simp (disch:=omega) [s2.idxn (N:=2) rfl,hux _ w2.wle]
  refine w2.kJ (k:=(K+8,1)) (α:=PhiD) (n:=2) (ht2 _ rfl) rux rfl (z:=.agg #[.int .i64 0,.slice none 0 0]) (by kernel_rfl) rfl (by kernel_rfl) (by decide) (fun _=>by simp) (fun _=>by simp) fun h3 q3 w3=>?_
  generalize h2.size=X at w3
  obtain ⟨uy,huy,ruy⟩:=Owns.ldW w3 (k:=(K+8,1)) (v:=.slice (some ⟨X,0,none⟩) 1 1) (l:=[nth l k]) Own.ag rfl (N:=2) rfl (i:=0) (by simp)
  have huy:Un.ev (vw h3) (.ao 2) (.pointer (some ⟨X,0,none⟩))=some uy:=by simpa [slA] using huy
  have ruy:Rd W uy (nth l k):=ruy
  rw [hy];clear hy y
  simp [huy]
  refine fA (ops:=[.tmp 16]) rfl (by kernel_rfl) (xl K (K+5,pr b k) w3 ((Own.ab (by simp)).trans (c2.fp k (by omega))) (by simp) (fun i hi=>(Own.ab (by simp;omega)).trans (ht2 _ rfl)) ruy (by have:=hp k hk;omega)) ?_
  rintro _ h4 ⟨vn,rfl,hvn,hd,w4⟩
  refine w4.kL (k:=(K+1,b)) (α:=PhO) (v:=u) (l:=rows (phR pin (l.take k)) (l.take k).length) (d:=⟨(nth l k).dst,⟨vn⟩⟩) (by rw [Own.ab (by simp),Own.ab (by simp)];exact c2.phs.row) El.kv rfl (BA hd hvn) (by simp;omega) (by simp;omega) (fun _=>rfl) (fun _=>rfl) fun u5 v5 h5 w5 _=>?_
  refine hK2 v5 _ _ rfl rfl ⟨_,_,Owns.past w5 (o':=(o2.upd (K+5,pr b (l.take k).length) (it T.cK vn (nth l k).ins)).upd (K+1,b) (it T.cH v5 (rows (phR pin (l.take k)) (l.take k).length++[⟨(nth l k).dst,⟨vn⟩⟩]))) (P:=fun q=>q=(K+8,1)) (fun q hq=>?_) fun q hq=>?_,by rw [oJ hk];exact c2.push fun _=>rfl⟩
  ·rw [hlk]
   by_cases e1:q=(K+1,b)
   ·subst e1;rw [Own.ag,Own.ag]
   rw [Own.ab e1,Own.ab e1]
   by_cases e2:q=(K+5,pr b k)
   ·subst e2;rw [Own.ag,Own.ag]
   rw [Own.ab e2,Own.ab e2,Own.ab hq]
  ·subst hq
   rw [Own.ab (by simp),Own.ab (by simp)];exact ht2 _ rfl
 ·rintro u h2 ⟨o2,pin,w2,c2⟩
  rw [List.take_length] at c2
  rw [bI,hz];clear hz z
  simp
  exact hK _ _ ⟨o2,pin,w2,c2⟩
theorem qU (K b:Nat) {l:List InsD} {v:Value} {h:Heap} {W:View} {o:Own} (w:Owns W h o) (hn : ∀ i,o (K+6,pr b i)=none) (ht : ∀ k:Key,k.1=K+8→o k=none) (hs:SlRd W v l) (hl:l.length≤10000) (hp : ∀ i,i<l.length→(nth l i).args.length≤10000) :
  ay Try.prog N.bu #[v,.func (.func N.bP) #[] #[]] h (fun u h'=>∃ o' iar,Owns W h' o'∧CpI K b o o' u iar l):=by
 refine an (args:=[v,.func (.func N.bP) #[] #[]]) follows F.bu E.bu (Nat.le_of_ble_eq_true (by kernel_rfl)) fun Kc hK=>?_
 dsimp only [L.bu]
 refine aa fun z hz=>?_
 simp
 rw [hz];clear hz z
 refine aa fun z hz=>?_
 simp
 rw [hz];clear hz z
 refine aa fun z hz=>?_
 have s0:=hs.mono w.wle
 simp [s0.len]
 have w1:=Owns.nils w (o':=o.upd (K+2,b) (it T.cd (.slice none 0 0) ([]:List InO))) (fun q i hq=>by
  by_cases e:q=(K+2,b)
  ·subst e;rw [Own.ag] at hq;cases hq;exact .inr ⟨rfl,OwnT.nil (α:=InO) _ h T.cd⟩
  ·rw [Own.ab e] at hq;exact .inl hq)
 have c1:CpI K b o (o.upd (K+2,b) (it T.cd (.slice none 0 0) ([]:List InO))) (.slice none 0 0) (fun _=>.slice none 0 0) (l.take 0):=
  ⟨⟨Own.ag,fun i hi=>absurd hi (Nat.not_lt_zero _)⟩,fun k h1 _=>Own.ab h1,fun i _=>(Own.ab (by simp)).trans (hn i)⟩
 refine aA [1,5,8,9,10] (fun (u:Value) k=>[.func (.func N.bP) #[] #[],u,v,.int .i64 l.length,.int .i64 k]) (fun u k h2=>∃ o' iar,Owns W h2 o'∧CpI K b o o' u iar (l.take k)) l.length (.slice none 0 0)
  rfl (by omega) rfl ⟨_,_,w1,c1⟩ (fun _ _=>rfl) (fun u k h2 hk _=>by simp) ?_ ?_
 ·rintro u k h2 hk ⟨o2,iar,w2,c2⟩ K2 hK2
  have hlk:(l.take k).length=k:=by rw [List.length_take];omega
  have s2:=hs.mono w2.wle
  have ht2 : ∀ q:Key,q.1=K+8→o2 q=none:=fun q hq=>by
   rw [c2.fr q (by rintro rfl;simp at hq) (fun i=>by rintro rfl;simp at hq)];exact ht q hq
  obtain ⟨ux,hux,rux⟩:=hs.wh rfl (N:=5) rfl hk
  refine aa fun y hy=>?_
  simp (disch:=omega) [s2.idxn (N:=5) rfl,hux _ w2.wle]
  refine w2.kJ (k:=(K+8,1)) (α:=InsD) (n:=5) (ht2 _ rfl) rux rfl (z:=.agg #[.int .i64 0,.int .i64 0,.int .i64 0,.slice none 0 0,.int .i32 0]) (by kernel_rfl) rfl (by kernel_rfl) (by decide) (fun _=>by simp) (fun _=>by simp) fun h3 q3 w3=>?_
  generalize h2.size=X at w3
  obtain ⟨uy,huy,ruy⟩:=Owns.ldW w3 (k:=(K+8,1)) (v:=.slice (some ⟨X,0,none⟩) 1 1) (l:=[nth l k]) Own.ag rfl (N:=5) rfl (i:=0) (by simp)
  have huy:Un.ev (vw h3) (.ao 5) (.pointer (some ⟨X,0,none⟩))=some uy:=by simpa [slA] using huy
  have ruy:Rd W uy (nth l k):=ruy
  rw [hy];clear hy y
  simp [huy]
  refine fA (ops:=[.tmp 16]) rfl (by kernel_rfl) (xz K (K+6,pr b k) w3 ((Own.ab (by simp)).trans (c2.fi k (by omega))) (by simp) (fun i hi=>(Own.ab (by simp;omega)).trans (ht2 _ rfl)) ruy (by have:=hp k hk;omega)) ?_
  rintro _ h4 ⟨vn,rfl,hvn,hd,w4⟩
  refine w4.kL (k:=(K+2,b)) (α:=InO) (v:=u) (l:=rows (inR iar (l.take k)) (l.take k).length) (d:=⟨(nth l k).op,(nth l k).dst,(nth l k).two,⟨vn⟩,(nth l k).imm⟩) (by rw [Own.ab (by simp),Own.ab (by simp)];exact c2.ins.row) El.iH rfl (BI hd hvn) (by simp;omega) (by simp;omega) (fun _=>rfl) (fun _=>rfl) fun u5 v5 h5 w5 _=>?_
  refine hK2 v5 _ _ rfl rfl ⟨_,_,Owns.past w5 (o':=(o2.upd (K+6,pr b (l.take k).length) (it T.int vn (nth l k).args)).upd (K+2,b) (it T.cd v5 (rows (inR iar (l.take k)) (l.take k).length++[⟨(nth l k).op,(nth l k).dst,(nth l k).two,⟨vn⟩,(nth l k).imm⟩]))) (P:=fun q=>q=(K+8,1)) (fun q hq=>?_) fun q hq=>?_,by rw [oJ hk];exact c2.push fun _=>rfl⟩
  ·rw [hlk]
   by_cases e1:q=(K+2,b)
   ·subst e1;rw [Own.ag,Own.ag]
   rw [Own.ab e1,Own.ab e1]
   by_cases e2:q=(K+6,pr b k)
   ·subst e2;rw [Own.ag,Own.ag]
   rw [Own.ab e2,Own.ab e2,Own.ab hq]
  ·subst hq
   rw [Own.ab (by simp),Own.ab (by simp)];exact ht2 _ rfl
 ·rintro u h2 ⟨o2,iar,w2,c2⟩
  rw [List.take_length] at c2
  rw [bI,hz];clear hz z
  simp
  exact hK _ _ ⟨o2,iar,w2,c2⟩
end Go.Proofs.Ytbkdlhkoiagbbaa
namespace Go.Proofs.Ytbkdlhkoiagbbaa
open Go Go.Lft
theorem p7 {a b c d:Value} {k i:Int} (ha:a.oneCell'=true) (hb:b.oneCell'=true) (hc:c.oneCell'=true) (hd:d.oneCell'=true) : ∀ x∈[a,b,Value.int .i64 k,c,d,.int .i32 i],x.oneCell'=true:=by
 intro x hx
 simp only [List.mem_cons,List.not_mem_nil,or_false] at hx
 rcases hx with rfl | rfl | rfl | rfl | rfl | rfl<;>first | rfl | assumption
theorem xG (K b:Nat) {x:BlkD} {u:Value} {h:Heap} {W:View} {o:Own} (w:Owns W h o) (hn : ∀ k,OfB K b k→o k=none) (ht : ∀ k:Key,k.1=K+8→o k=none) (h9 : ∀ i,10≤i→o (K+9,i)=none) (hr:Rd W u x) (sm:SmB x) :
  ay Try.prog N.cx #[u] h (fun r h'=>∃ o' V,r = .agg #[V.p,V.i,.int .i64 x.term.kind,V.a,V.t,.int .i32 x.term.imm.v]∧V.p.oneCell'=true∧V.i.oneCell'=true∧V.a.oneCell'=true∧V.t.oneCell'=true∧I64 x.term.kind∧(-2147483648≤x.term.imm.v∧x.term.imm.v≤2147483647)∧Owns W h' o'∧BO K o' b V x∧∀ k,¬OfB K b k→o' k=o k):=by
 refine an (args:=[u]) follows F.cx E.cx (Nat.le_of_ble_eq_true (by kernel_rfl)) fun Kc hK=>?_
 dsimp only [L.cx]
 obtain ⟨vp,vi,va,vt,rfl,sp,si,sa,st,ik,im⟩:=Aa hr
 have far : ∀ {k:Key} {i:Nat},OfB K b k→k≠(K+9,i):=fun h e=>by have:=eL h;rw [e] at this;simp at this
 refine aa fun z hz=>?_
 simp
 refine w.n9 (k:=(K+9,10)) (n:=5) (l:=[vp,vi,.int .i64 x.term.kind,va,vt,.int .i32 x.term.imm.v]) (h9 10 (by decide)) rfl rfl (by decide) (p7 sp.cells.2 si.cells.2 sa.cells.2 st.cells.2) fun B h1 hle1 w1=>?_
 refine w1.mB (k:=(K+9,11)) (n:=5) (z:=.agg #[.slice none 0 0,.slice none 0 0,.int .i64 0,.slice none 0 0,.slice none 0 0,.int .i32 0]) ((Own.ab (by simp)).trans (h9 11 (by decide))) (by kernel_rfl) rfl (by decide) (by simp [Value.cells,Value.oneCell']) fun h2 q2 w2=>?_
 generalize h1.size=R at w2
 obtain ⟨o2,ho2⟩ : ∃ o2,o2=(o.upd (K+9,10) (bx T.aD B (RawN.mk (n:=5) [vp,vi,.int .i64 x.term.kind,va,vt,.int .i32 x.term.imm.v]))).upd (K+9,11) (bx T.aD R (RawN.mk (n:=5) [.slice none 0 0,.slice none 0 0,.int .i64 0,.slice none 0 0,.slice none 0 0,.int .i32 0])):=⟨_,rfl⟩
 have w2:Owns W h2 o2:=by rw [ho2];exact w2
 have bB:o2 (K+9,10)=bx T.aD B (RawN.mk (n:=5) [vp,vi,.int .i64 x.term.kind,va,vt,.int .i32 x.term.imm.v]):=by rw [ho2,Own.ab (by simp),Own.ag]
 have bR:o2 (K+9,11)=bx T.aD R (RawN.mk (n:=5) [.slice none 0 0,.slice none 0 0,.int .i64 0,.slice none 0 0,.slice none 0 0,.int .i32 0]):=by rw [ho2,Own.ag]
 have bO : ∀ k,k≠(K+9,10)→k≠(K+9,11)→o2 k=o k:=fun k e1 e2=>by rw [ho2,Own.ab e2,Own.ab e1]
 clear ho2 w1
 have c0:ah (vw h2) ⟨B,0,none⟩=some vp:=w2.raw (k:=(K+9,10)) (n:=5) bB (i:=0) (by decide)
 rw [hz];clear hz z
 refine aa fun z hz=>?_
 simp [c0]
 refine aq (by kernel_rfl) (qW K b w2 (fun k hk=>by rw [bO k (far hk) (far hk)];exact hn k hk) (fun k hk=>by rw [bO k (by rintro rfl;simp at hk) (by rintro rfl;simp at hk)];exact ht k hk) sp sm.phis sm.phi) ?_
 rintro u3 h3 ⟨o3,pin,w3,cp⟩
 have hu3:=(w3.cells cp.phs.row).2
 have n1 : ∀ i,(K+9,i)≠(K+1,b):=fun i=>by simp
 have n5 : ∀ i j,(K+9,i)≠(K+5,pr b j):=fun i j=>by simp
 refine w3.dV (k:=(K+9,10)) (n:=5) (i:=0) (e:=T.aD) (B:=B) (l:=[vp,vi,.int .i64 x.term.kind,va,vt,.int .i32 x.term.imm.v]) (by rw [cp.fr _ (n1 _) (n5 _)];exact bB) (by decide) (by kernel_rfl) rfl rfl hu3 fun h4 w4 _=>?_
 have c1:ah (vw h4) ⟨B,1,none⟩=some vi:=w4.raw (k:=(K+9,10)) (n:=5) Own.ag (i:=1) (by decide)
 rw [hz];clear hz z
 refine aa fun z hz=>?_
 simp [c1]
 refine aq (by kernel_rfl) (qU K b w4 (fun i=>by rw [Own.ab (by simp),cp.fr _ (by simp) (fun j=>by simp),bO _ (by simp) (by simp)];exact hn _ ofB6) (fun k hk=>by rw [Own.ab (by rintro rfl;simp at hk),cp.fr _ (by rintro rfl;simp at hk) (fun i=>by rintro rfl;simp at hk),bO _ (by rintro rfl;simp at hk) (by rintro rfl;simp at hk)];exact ht k hk) si sm.ins sm.inn) ?_
 rintro u5 h5 ⟨o5,iar,w5,ci⟩
 have hu5:=(w5.cells ci.ins.row).2
 have n2 : ∀ i,(K+9,i)≠(K+2,b):=fun i=>by simp
 have n6 : ∀ i j,(K+9,i)≠(K+6,pr b j):=fun i j=>by simp
 refine w5.dV (k:=(K+9,10)) (n:=5) (i:=1) (e:=T.aD) (B:=B) (l:=[u3,vi,.int .i64 x.term.kind,va,vt,.int .i32 x.term.imm.v]) (by rw [ci.fr _ (n2 _) (n6 _),Own.ag];rfl) (by decide) (by kernel_rfl) rfl rfl hu5 fun h6 w6 _=>?_
 have c3:ah (vw h6) ⟨B,3,none⟩=some va:=w6.raw (k:=(K+9,10)) (n:=5) Own.ag (i:=3) (by decide)
 have c4:ah (vw h6) ⟨B,4,none⟩=some vt:=w6.raw (k:=(K+9,10)) (n:=5) Own.ag (i:=4) (by decide)
 have e3:o5 (K+3,b)=none:=by rw [ci.fr _ (by simp) (fun j=>by simp),Own.ab (by simp),cp.fr _ (by simp) (fun j=>by simp),bO _ (by simp) (by simp)];exact hn _ ofB3
 have e4:o5 (K+4,b)=none:=by rw [ci.fr _ (by simp) (fun j=>by simp),Own.ab (by simp),cp.fr _ (by simp) (fun j=>by simp),bO _ (by simp) (by simp)];exact hn _ ofB4
 have hR5:o5 (K+9,11)=bx T.aD R (RawN.mk (n:=5) [.slice none 0 0,.slice none 0 0,.int .i64 0,.slice none 0 0,.slice none 0 0,.int .i32 0]):=by rw [ci.fr _ (n2 _) (n6 _),Own.ab (by simp),cp.fr _ (n1 _) (n5 _)];exact bR
 rw [hz];clear hz z
 refine aa fun z hz=>?_
 refine eI (vw h6) (View.le_refl _) ?_
 simp [c3,c4]
 refine aq (by kernel_rfl) (jM (K+3,b) w6 (by rw [Own.ab (by simp)];exact e3) sa (by have:=sm.args;omega)) ?_
 rintro ua h7 ⟨w7,hua,hle7⟩
 refine ⟨hle7,?_⟩
 refine aq (by kernel_rfl) (jM (K+4,b) w7 (by rw [Own.ab (by simp),Own.ab (by simp)];exact e4) st (by have:=sm.to;omega)) ?_
 rintro ut h8 ⟨w8,hut,hle8⟩
 refine w8.dV (k:=(K+9,10)) (n:=5) (i:=3) (e:=T.aD) (B:=B) (l:=[u3,u5,.int .i64 x.term.kind,va,vt,.int .i32 x.term.imm.v]) (by rw [Own.ab (by simp),Own.ab (by simp),Own.ag];rfl) (by decide) (by kernel_rfl) rfl rfl hua fun h9' w9 _=>?_
 refine w9.dV (k:=(K+9,10)) (n:=5) (i:=4) (e:=T.aD) (B:=B) (l:=[u3,u5,.int .i64 x.term.kind,ua,vt,.int .i32 x.term.imm.v]) (by rw [Own.ag];rfl) (by decide) (by kernel_rfl) rfl rfl hut fun h10 w10 _=>?_
 have c6:Un.ev (vw h10) (.ao 6) (.pointer (some ⟨B,0,none⟩))=some (.agg #[u3,u5,.int .i64 x.term.kind,ua,ut,.int .i32 x.term.imm.v]):=w10.eR (k:=(K+9,10)) (n:=5) Own.ag
 rw [hz];clear hz z
 refine aa fun z hz=>?_
 simp [c6]
 refine w10.gR (k:=(K+9,11)) (e:=T.aD) (B:=R) (D:=RawN.mk (n:=5) [.slice none 0 0,.slice none 0 0,.int .i64 0,.slice none 0 0,.slice none 0 0,.int .i32 0]) Part.all (d:=RawN.mk (n:=5) [u3,u5,.int .i64 x.term.kind,ua,ut,.int .i32 x.term.imm.v]) (by rw [Own.ab (by simp),Own.ab (by simp),Own.ab (by simp),Own.ab (by simp),Own.ab (by simp)];exact hR5) (by kernel_rfl) rfl rfl (fU rfl (p7 hu3 hu5 hua hut)) fun h11 w11 _=>?_
 have c7:Un.ev (vw h11) (.ao 6) (.pointer (some ⟨R,0,none⟩))=some (.agg #[u3,u5,.int .i64 x.term.kind,ua,ut,.int .i32 x.term.imm.v]):=w11.eR (k:=(K+9,11)) (n:=5) Own.ag
 rw [hz];clear hz z
 simp [c7]
 obtain ⟨oF,f1,f2,f3,f4⟩ : ∃ oF:Own,(∀ k,(k=(K+9,10)∨k=(K+9,11))→oF k=none)∧oF (K+3,b)=it T.int ua x.term.args∧oF (K+4,b)=it T.int ut x.term.to∧∀ k,¬(k=(K+9,10)∨k=(K+9,11))→k≠(K+3,b)→k≠(K+4,b)→oF k=o5 k:=
  ⟨fun k=>if k=(K+9,10)∨k=(K+9,11) then none else if k=(K+3,b) then it T.int ua x.term.args else if k=(K+4,b) then it T.int ut x.term.to else o5 k,
   fun k hk=>if_pos hk,(if_neg (by simp)).trans (if_pos rfl),(if_neg (by simp)).trans ((if_neg (by simp)).trans (if_pos rfl)),fun k h1 h2 h3=>(if_neg h1).trans ((if_neg h2).trans (if_neg h3))⟩
 have nf : ∀ {k},OfB K b k→¬(k=(K+9,10)∨k=(K+9,11)):=fun h e=>by rcases e with e | e<;>exact far h e
 refine hK _ _ ⟨oF,⟨u3,u5,ua,ut,pin,iar⟩,rfl,hu3,hu5,hua,hut,ik,im,Owns.past w11 (P:=fun k=>k=(K+9,10)∨k=(K+9,11)) (fun k hk=>?_) f1,?_,fun k hk=>?_⟩
 ·have h1:k≠(K+9,10):=fun e=>hk (.inl e)
  have h2:k≠(K+9,11):=fun e=>hk (.inr e)
  rw [Own.ab h2,Own.ab h1,Own.ab h1]
  by_cases e4:k=(K+4,b)
  ·subst e4;rw [Own.ag,f3]
  rw [Own.ab e4]
  by_cases e3:k=(K+3,b)
  ·subst e3;rw [Own.ag,f2]
  rw [Own.ab e3,Own.ab h1,f4 k hk e3 e4]
 ·refine BO.of (p:=x.phis) (i:=x.ins) (t:=x.term) ⟨?_,fun i hi=>?_⟩ ⟨?_,fun i hi=>?_⟩ f2 f3
  ·rw [f4 _ (nf ofB1) (by simp) (by simp),ci.fr _ (by simp) (fun j=>by simp),Own.ab (by simp)];exact cp.phs.row
  ·rw [f4 _ (nf ofB5) (by simp) (by simp),ci.fr _ (by simp) (fun j=>by simp),Own.ab (by simp)];exact cp.phs.pin i hi
  ·rw [f4 _ (nf ofB2) (by simp) (by simp)];exact ci.ins.row
  ·rw [f4 _ (nf ofB6) (by simp) (by simp)];exact ci.ins.iar i hi
 ·by_cases e:k=(K+9,10)∨k=(K+9,11)
  ·rw [f1 k e]
   rcases e with rfl | rfl
   ·exact (h9 10 (by decide)).symm
   ·exact (h9 11 (by decide)).symm
  ·rw [f4 k e (by rintro rfl;exact hk ofB3) (by rintro rfl;exact hk ofB4),ci.fr k (by rintro rfl;exact hk ofB2) (fun j=>by rintro rfl;exact hk ofB6),Own.ab (fun q=>e (.inl q)),cp.fr k (by rintro rfl;exact hk ofB1) (fun j=>by rintro rfl;exact hk ofB5),bO k (fun q=>e (.inl q)) (fun q=>e (.inr q))]
end Go.Proofs.Ytbkdlhkoiagbbaa
namespace Go.Proofs.Ytbkdlhkoiagbbaa
open Go Go.Lft
structure CpB (K:Nat) (o o':Own) (u:Value) (V:Nat→Bv) (ps:Int) (l:List BlkD):Prop where
 fno:FnO K o' u V ⟨ps,l⟩
 fr : ∀ k:Key,(k.1<K∨K+6<k.1)→o' k=o k
 free : ∀ b,l.length≤b→∀ k,OfB K b k→o' k=none
theorem qX (K:Nat) (ps:Int) {l:List BlkD} {v:Value} {h:Heap} {W:View} {o:Own} (w:Owns W h o) (hn : ∀ k:Key,K≤k.1→k.1≤K+6→o k=none) (ht : ∀ k:Key,k.1=K+8→o k=none) (h9 : ∀ k:Key,k.1=K+9→o k=none) (hs:SlRd W v l) (hl:l.length≤10000) (hp : ∀ i,i<l.length→SmB (nth l i)) :
  ay Try.prog N.aQ #[v,.func (.func N.cx) #[] #[]] h (fun u h'=>∃ o' V,Owns W h' o'∧CpB K o o' u V ps l):=by
 refine an (args:=[v,.func (.func N.cx) #[] #[]]) follows F.aQ E.aQ (Nat.le_of_ble_eq_true (by kernel_rfl)) fun Kc hK=>?_
 dsimp only [L.aQ]
 refine aa fun z hz=>?_
 simp
 rw [hz];clear hz z
 refine aa fun z hz=>?_
 simp
 rw [hz];clear hz z
 refine aa fun z hz=>?_
 have s0:=hs.mono w.wle
 simp [s0.len]
 have w1:=Owns.nils w (o':=o.upd (K,0) (it T.aD (.slice none 0 0) ([]:List BkO))) (fun q i hq=>by
  by_cases e:q=(K,0)
  ·subst e;rw [Own.ag] at hq;cases hq;exact .inr ⟨rfl,OwnT.nil (α:=BkO) _ h T.aD⟩
  ·rw [Own.ab e] at hq;exact .inl hq)
 have c1:CpB K o (o.upd (K,0) (it T.aD (.slice none 0 0) ([]:List BkO))) (.slice none 0 0) (fun _=>⟨.slice none 0 0,.slice none 0 0,.slice none 0 0,.slice none 0 0,fun _=>.slice none 0 0,fun _=>.slice none 0 0⟩) ps (l.take 0):=
  ⟨⟨Own.ag,fun b hb=>absurd hb (Nat.not_lt_zero _)⟩,fun k hk=>Own.ab (by rintro rfl;dsimp only at hk;omega),fun b _ k hk=>by have:=eL hk;rw [Own.ab (by rintro rfl;simp at this;omega)];exact hn k (by omega) (by omega)⟩
 refine aA [1,5,8,9,10] (fun (u:Value) k=>[.func (.func N.cx) #[] #[],u,v,.int .i64 l.length,.int .i64 k]) (fun u k h2=>∃ o' V,Owns W h2 o'∧CpB K o o' u V ps (l.take k)) l.length (.slice none 0 0)
  rfl (by omega) rfl ⟨_,_,w1,c1⟩ (fun _ _=>rfl) (fun u k h2 hk _=>by simp) ?_ ?_
 ·rintro u k h2 hk ⟨o2,V,w2,c2⟩ K2 hK2
  have hlk:(l.take k).length=k:=by rw [List.length_take];omega
  have s2:=hs.mono w2.wle
  have ht2 : ∀ q:Key,q.1=K+8→o2 q=none:=fun q hq=>by rw [c2.fr q (by omega)];exact ht q hq
  have h92 : ∀ q:Key,q.1=K+9→o2 q=none:=fun q hq=>by rw [c2.fr q (by omega)];exact h9 q hq
  obtain ⟨ux,hux,rux⟩:=hs.wh rfl (N:=6) rfl hk
  refine aa fun y hy=>?_
  simp (disch:=omega) [s2.idxn (N:=6) rfl,hux _ w2.wle]
  refine w2.kJ (k:=(K+9,1)) (α:=BlkD) (n:=6) (h92 _ rfl) rux rfl (z:=.agg #[.slice none 0 0,.slice none 0 0,.int .i64 0,.slice none 0 0,.slice none 0 0,.int .i32 0]) (by kernel_rfl) rfl (by kernel_rfl) (by decide) (fun _=>by simp) (fun _=>by simp) fun h3 q3 w3=>?_
  generalize h2.size=X at w3
  obtain ⟨uy,huy,ruy⟩:=Owns.ldW w3 (k:=(K+9,1)) (v:=.slice (some ⟨X,0,none⟩) 1 1) (l:=[nth l k]) Own.ag rfl (N:=6) rfl (i:=0) (by simp)
  have huy:Un.ev (vw h3) (.ao 6) (.pointer (some ⟨X,0,none⟩))=some uy:=by simpa [slA] using huy
  have ruy:Rd W uy (nth l k):=ruy
  have hne : ∀ q:Key,OfB K k q→q≠(K+9,1):=fun q hq e=>by have:=eL hq;rw [e] at this;simp at this
  rw [hy];clear hy y
  simp [huy]
  refine fA (ops:=[.tmp 16]) rfl (by kernel_rfl) (xG K k w3 (fun q hq=>by rw [Own.ab (hne q hq)];exact c2.free k (by omega) q hq) (fun q hq=>by rw [Own.ab (by rintro rfl;simp at hq)];exact ht2 q hq) (fun i hi=>by rw [Own.ab (by simp;omega)];exact h92 _ rfl) ruy (hp k hk)) ?_
  rintro _ h4 ⟨o4,Vn,rfl,g1,g2,g3,g4,ik,im,w4,bo,fr4⟩
  have nK:¬OfB K k (K,0):=fun h=>by have:=eL h;simp at this;omega
  refine w4.kL (k:=(K,0)) (α:=BkO) (v:=u) (l:=rows (fun b=>bkO (V b) (nth (l.take k) b)) (l.take k).length) (d:=bkO Vn (nth l k)) (by rw [fr4 _ nK,Own.ab (by simp)];exact c2.fno.blk) El.eA rfl (zc g1 g2 g3 g4 ik im) (by simp;omega) (by simp;omega) (fun _=>rfl) (fun _=>rfl) fun u5 v5 h5 w5 _=>?_
  refine hK2 v5 _ _ rfl rfl ⟨fun q=>if q=(K+9,1) then none else (o4.upd (K,0) (it T.aD v5 (rows (fun b=>bkO (V b) (nth (l.take k) b)) (l.take k).length++[bkO Vn (nth l k)]))) q,fun b=>if b=(l.take k).length then Vn else V b,w5.sub fun q i hq=>?_,?_⟩
  ·split at hq
   ·cases hq
   ·exact hq
  ·obtain ⟨oF,hoF⟩ : ∃ oF:Own,oF=fun q=>if q=(K+9,1) then none else (o4.upd (K,0) (it T.aD v5 (rows (fun b=>bkO (V b) (nth (l.take k) b)) (l.take k).length++[bkO Vn (nth l k)]))) q:=⟨_,rfl⟩
   rw [←hoF]
   have f1 : ∀ q,q≠(K+9,1)→oF q=(o4.upd (K,0) (it T.aD v5 (rows (fun b=>bkO (V b) (nth (l.take k) b)) (l.take k).length++[bkO Vn (nth l k)]))) q:=fun q hq=>by rw [hoF];exact if_neg hq
   have f2:oF (K+9,1)=none:=by rw [hoF];exact if_pos rfl
   have far : ∀ q,q≠(K+9,1)→q≠(K,0)→¬OfB K k q→oF q=o2 q:=fun q h1 h2 h3=>by rw [f1 q h1,Own.ab h2,fr4 q h3,Own.ab h1]
   have nb : ∀ {b:Nat} {q:Key},OfB K b q→q≠(K+9,1)∧q≠(K,0):=fun h=>by
    have:=eL h
    exact ⟨by rintro rfl;simp at this,by rintro rfl;simp at this;omega⟩
   rw [oJ hk]
   refine ⟨c2.fno.push (Vn:=Vn) (d:=nth l k) (x:=bkO Vn (nth l k)) rfl ?_ (fun b hb q hq=>?_) ?_,fun q hq=>?_,fun b hb q hq=>?_⟩
   ·rw [f1 _ (by simp),Own.ag]
   ·exact far q (nb hq).1 (nb hq).2 (qN (by omega) hq)
   ·rw [hlk]
    exact bo.congr fun q hq=>by rw [f1 q (nb hq).1,Own.ab (nb hq).2]
   ·by_cases e:q=(K+9,1)
    ·rw [e,f2];exact (h9 _ rfl).symm
    ·rw [far q e (by rintro rfl;dsimp only at hq;omega) (fun h=>by have:=eL h;omega)];exact c2.fr q hq
   ·rw [List.length_append,List.length_singleton] at hb
    rw [far q (nb hq).1 (nb hq).2 (qN (by omega) hq)];exact c2.free b (by omega) q hq
 ·rintro u h2 ⟨o2,V,w2,c2⟩
  rw [List.take_length] at c2
  rw [bI,hz];clear hz z
  simp
  exact hK _ _ ⟨o2,V,w2,c2⟩
theorem Bz (K:Nat) {f:ae} {v:Value} {h:Heap} {W:View} {o:Own} (w:Owns W h o) (hn : ∀ k:Key,K≤k.1→k.1≤K+9→o k=none) (hr:Rd W v f) (sm:SmF f) :
  ay Try.prog N.eM #[v] h (fun r h'=>∃ o' vb V,r = .agg #[.int .i64 f.params,vb]∧I64 f.params∧Owns W h' o'∧FnO K o' vb V f∧(∀ k:Key,(k.1<K∨K+6<k.1)→o' k=o k)∧∀ b,f.blocks.length≤b→∀ k,OfB K b k→o' k=none):=by
 refine an (args:=[v]) follows F.eM E.eM (Nat.le_of_ble_eq_true (by kernel_rfl)) fun Kc hK=>?_
 dsimp only [L.eM]
 obtain ⟨vb,rfl,ip,sb⟩:=sA hr
 refine aa fun z hz=>?_
 simp
 refine w.n9 (k:=(K+7,0)) (n:=1) (l:=[.int .i64 f.params,vb]) (hn _ (by simp) (by simp)) rfl rfl (by decide) (ee sb.cells.2) fun B h1 hle1 w1=>?_
 refine w1.mB (k:=(K+7,1)) (n:=1) (z:=.agg #[.int .i64 0,.slice none 0 0]) ((Own.ab (by simp)).trans (hn _ (by simp) (by simp))) (by kernel_rfl) rfl (by decide) (by simp [Value.cells,Value.oneCell']) fun h2 q2 w2=>?_
 generalize h1.size=R at w2
 have c1:ah (vw h2) ⟨B,1,none⟩=some vb:=w2.raw (k:=(K+7,0)) (e:=T.aH) (n:=1) (by rw [Own.ab (by simp),Own.ag]) (i:=1) (by decide)
 rw [hz];clear hz z
 refine aa fun z hz=>?_
 simp [c1]
 refine aq (by kernel_rfl) (qX K f.params w2 (fun k h1 h2=>by rw [Own.ab (by rintro rfl;simp at h2),Own.ab (by rintro rfl;simp at h2)];exact hn k h1 (by omega)) (fun k hk=>by rw [Own.ab (by rintro rfl;simp at hk),Own.ab (by rintro rfl;simp at hk)];exact hn k (by omega) (by omega)) (fun k hk=>by rw [Own.ab (by rintro rfl;simp at hk),Own.ab (by rintro rfl;simp at hk)];exact hn k (by omega) (by omega)) sb sm.len sm.blk) ?_
 rintro u3 h3 ⟨o3,V,w3,c3⟩
 have hu3:=(w3.cells c3.fno.blk).2
 refine w3.dV (k:=(K+7,0)) (n:=1) (i:=1) (e:=T.aH) (B:=B) (l:=[.int .i64 f.params,vb]) (by rw [c3.fr _ (by simp),Own.ab (by simp),Own.ag]) (by decide) (by kernel_rfl) rfl rfl hu3 fun h4 w4 _=>?_
 have c2:Un.ev (vw h4) (.ao 2) (.pointer (some ⟨B,0,none⟩))=some (.agg #[.int .i64 f.params,u3]):=w4.eR (k:=(K+7,0)) (n:=1) Own.ag
 rw [hz];clear hz z
 refine aa fun z hz=>?_
 simp [c2]
 refine w4.gR (k:=(K+7,1)) (e:=T.aH) (B:=R) (D:=RawN.mk (n:=1) [.int .i64 0,.slice none 0 0]) Part.all (d:=RawN.mk (n:=1) [.int .i64 f.params,u3]) (by rw [Own.ab (by simp),c3.fr _ (by simp),Own.ag];rfl) (by kernel_rfl) rfl rfl (fU rfl (ee hu3)) fun h5 w5 _=>?_
 have c3':Un.ev (vw h5) (.ao 2) (.pointer (some ⟨R,0,none⟩))=some (.agg #[.int .i64 f.params,u3]):=w5.eR (k:=(K+7,1)) (n:=1) Own.ag
 rw [hz];clear hz z
 simp [c3']
 have hf:(⟨f.params,f.blocks⟩:ae)=f:=rfl
 refine hK _ _ ⟨fun q=>if q.1=K+7 then none else o3 q,u3,V,rfl,ip,w5.sub fun q i hq=>?_,c3.fno.congr fun q h1 h2=>if_neg (by omega),fun q hq=>?_,fun b hb q hq=>?_⟩
 ·split at hq
  ·cases hq
  ·rename_i e
   rw [Own.ab (by rintro rfl;exact e rfl),Own.ab (by rintro rfl;exact e rfl)];exact hq
 ·by_cases e:q.1=K+7
  ·exact (if_pos e).trans (hn q (by omega) (by omega)).symm
  ·refine (if_neg e).trans ?_
   rw [c3.fr q hq,Own.ab (by rintro rfl;exact e rfl),Own.ab (by rintro rfl;exact e rfl)]
 ·have:=eL hq
  refine (if_neg (by omega)).trans (c3.free b hb q hq)
end Go.Proofs.Ytbkdlhkoiagbbaa
namespace Go.Proofs.Ytbkdlhkoiagbbaa
open Go Go.Lft
section
variable {f:ae} {b i:Nat}
theorem sv:gu f (phiT f b i)=false:=by
 refine decide_eq_false ?_
 show ¬(-1-(i:Int)=((dN f (phiT f b i)).ins.length:Nat))
 omega
theorem ta (hi:i<(nth f.blocks b).ins.length):gu f (insT f b i)=false:=by
 refine decide_eq_false ?_
 show ¬((i:Int)=((nth f.blocks ((b:Nat):Int).toNat).ins.length:Nat))
 rw [Int.toNat_natCast]
 omega
theorem sr:gu f (endT f b)=true:=by
 refine decide_eq_true ?_
 show (((nth f.blocks b).ins.length:Nat):Int)=((nth f.blocks ((b:Nat):Int).toNat).ins.length:Nat)
 rw [Int.toNat_natCast]
theorem Ak:il f (phiT f b i)=false:=by
 have h:decide (0≤(phiT f b i).place)=false:=decide_eq_false (by show ¬(0:Int)≤-1-(i:Int);omega)
 unfold il
 rw [h];rfl
theorem qL (hi:i<(nth f.blocks b).ins.length):il f (insT f b i)=true∧oo f (insT f b i)=nth (nth f.blocks b).ins i:=by
 refine ⟨(Bool.and_eq_true _ _).mpr ⟨decide_eq_true (Int.natCast_nonneg _),decide_eq_true ?_⟩,?_⟩
 ·show (i:Int)<((nth f.blocks ((b:Nat):Int).toNat).ins.length:Nat)
  rw [Int.toNat_natCast];omega
 ·show nth (nth f.blocks ((b:Nat):Int).toNat).ins ((i:Nat):Int).toNat=_
  rw [Int.toNat_natCast,Int.toNat_natCast]
theorem zU:il f (endT f b)=false:=by
 have h:decide ((endT f b).place<((dN f (endT f b)).ins.length:Nat))=false:=decide_eq_false (by show ¬(((nth f.blocks b).ins.length:Nat):Int)<((nth f.blocks ((b:Nat):Int).toNat).ins.length:Nat);rw [Int.toNat_natCast];omega)
 unfold il
 rw [h]
 exact Bool.and_false _
theorem rz:dN f (endT f b)=nth f.blocks b:=by
 show nth f.blocks ((b:Nat):Int).toNat=_
 rw [Int.toNat_natCast]
theorem zx (h : ∀ n∈(phiT f b i).mks,f.params≤n∧n≤8191):iU f (phiT f b i):=
 ⟨fun c=>(by rw [Ak] at c;cases c),fun c=>(by rw [sv] at c;cases c),h,fun c=>(by rw [sv] at c;cases c)⟩
theorem yc (hi:i<(nth f.blocks b).ins.length) (ho:iq (nth (nth f.blocks b).ins i)=false) (h : ∀ n∈(insT f b i).mks,f.params≤n∧n≤8191):iU f (insT f b i):=
 ⟨fun _=>(by rw [(qL hi).2];exact ho),fun c=>(by rw [ta hi] at c;cases c),h,fun c=>(by rw [ta hi] at c;cases c)⟩
theorem sf (ht:fq (nth f.blocks b).term=true) (h : ∀ n∈(nth f.blocks b).term.to,1≤n∧n<f.blocks.length):iU f (endT f b):=
 ⟨fun c=>(by rw [zU] at c;cases c),fun _=>(by rw [rz];exact ht),fun n hn=>(by cases hn),fun _=>(by rw [rz];exact h)⟩
theorem iv.phiG (m:iv f) (hb:b<f.blocks.length) (hi:i<(nth f.blocks b).phis.length):iU f (phiT f b i):=m.good _ (cf.2 ⟨b,hb,cN.2 (.inl ⟨i,hi,rfl⟩)⟩)
theorem iv.insG (m:iv f) (hb:b<f.blocks.length) (hi:i<(nth f.blocks b).ins.length):iU f (insT f b i)∧iq (nth (nth f.blocks b).ins i)=false:=by
 have g:=m.good _ (cf.2 ⟨b,hb,cN.2 (.inr (.inl ⟨i,hi,rfl⟩))⟩)
 exact ⟨g,by have:=g.op (qL hi).1;rwa [(qL hi).2] at this⟩
theorem iv.endG (m:iv f) (hb:b<f.blocks.length):fq (nth f.blocks b).term=true∧∀ n∈(nth f.blocks b).term.to,1≤n∧n<f.blocks.length:=by
 have g:=m.good _ (cf.2 ⟨b,hb,cN.2 (.inr (.inr rfl))⟩)
 have h1:=g.term sr
 have h2:=g.to sr
 rw [rz] at h1 h2
 exact ⟨h1,h2⟩
end
def newT (N n i:Nat):de:=if i+1<n then ⟨1,[],[((N+i+1:Nat):Int)],⟨0⟩⟩ else ⟨5,[],[],⟨7⟩⟩
def newB (N n i:Nat):BlkD:=⟨[],[],newT N n i⟩
structure Mo (f g:ae) (n:Nat):Prop where
 params:g.params=f.params
 len:g.blocks.length=f.blocks.length+n
 phis : ∀ c,c<f.blocks.length→(nth g.blocks c).phis=(nth f.blocks c).phis
 ins : ∀ c,c<f.blocks.length→(nth g.blocks c).ins=(nth f.blocks c).ins
 term : ∀ c,c<f.blocks.length→(nth g.blocks c).term=(nth f.blocks c).term∨((nth f.blocks c).term.to=[]∧(nth g.blocks c).term=⟨1,[],[(f.blocks.length:Int)],⟨0⟩⟩)
 new : ∀ i,i<n→nth g.blocks (f.blocks.length+i)=newB f.blocks.length n i
section
variable {f g:ae} {n:Nat}
theorem Mo.phiT (m:Mo f g n) {c:Nat} (hc:c<f.blocks.length) (i:Nat):phiT g c i=phiT f c i:=by unfold Go.Proofs.Ytbkdlhkoiagbbaa.phiT;rw [m.phis c hc]
theorem Mo.insT (m:Mo f g n) {c:Nat} (hc:c<f.blocks.length) (i:Nat):insT g c i=insT f c i:=by unfold Go.Proofs.Ytbkdlhkoiagbbaa.insT;rw [m.ins c hc]
theorem Mo.good (m:Mo f g n) (mb:iv f) (hn:1≤n) : ∀ t∈aM g,iU g t:=by
 intro t ht
 obtain ⟨c,hc,hm⟩:=cf.1 ht
 rw [m.len] at hc
 rcases Nat.lt_or_ge c f.blocks.length with h | h
 ·rcases cN.1 hm with ⟨i,hi,rfl⟩ | ⟨i,hi,rfl⟩ | rfl
  ·rw [m.phis c h] at hi
   refine zx fun k hk=>?_
   rw [m.phiT h] at hk
   rw [m.params];exact (mb.phiG h hi).mks k hk
  ·refine yc hi ?_ fun k hk=>?_
   ·rw [m.ins c h] at hi ⊢;exact (mb.insG h hi).2
   ·rw [m.ins c h] at hi
    rw [m.insT h] at hk
    rw [m.params];exact (mb.insG h hi).1.mks k hk
  ·obtain ⟨e1,e2⟩:=mb.endG h
   refine sf ?_ fun k hk=>?_
   ·rcases m.term c h with e | ⟨_,e⟩
    ·rw [e];exact e1
    ·rw [e];rfl
   ·rw [m.len]
    rcases m.term c h with e | ⟨_,e⟩
    ·rw [e] at hk;have:=e2 k hk;omega
    ·rw [e] at hk
     have:=List.mem_singleton.1 hk
     have:=mb.blocks.1
     omega
 ·obtain ⟨i,rfl⟩ : ∃ i,c=f.blocks.length+i:=⟨c-f.blocks.length,by omega⟩
  have hi:i<n:=by omega
  have e:=m.new i hi
  rcases cN.1 hm with ⟨j,hj,rfl⟩ | ⟨j,hj,rfl⟩ | rfl
  ·rw [e] at hj;exact absurd hj (Nat.not_lt_zero _)
  ·rw [e] at hj;exact absurd hj (Nat.not_lt_zero _)
  ·refine sf ?_ fun k hk=>?_
   ·rw [e];unfold newB newT;dsimp only;split<;>rfl
   ·rw [e] at hk
    unfold newB newT at hk
    dsimp only at hk
    split at hk
    ·have:=List.mem_singleton.1 hk
     rw [m.len];omega
    ·cases hk
theorem Mo.mkB (m:Mo f g n) {c:Nat} (hc:c<f.blocks.length):mkB (nth g.blocks c)=mkB (nth f.blocks c):=by unfold Go.Proofs.Ytbkdlhkoiagbbaa.mkB;rw [m.phis c hc,m.ins c hc]
theorem Mo.dY (m:Mo f g n) : ∀ {c:Nat},c≤f.blocks.length→dY g c=dY f c+n
 | 0,_=>m.len
 | c+1,h=>by
  show Go.Proofs.Ytbkdlhkoiagbbaa.dY g c+_+_=Go.Proofs.Ytbkdlhkoiagbbaa.dY f c+_+_+n
  rw [Mo.dY m (by omega),m.phis c (by omega),m.ins c (by omega)];omega
theorem Mo.ym (m:Mo f g n) : ∀ {k:Nat},k≤n→Go.Proofs.Ytbkdlhkoiagbbaa.dY g (f.blocks.length+k)=Go.Proofs.Ytbkdlhkoiagbbaa.dY f f.blocks.length+n
 | 0,_=>m.dY (Nat.le_refl _)
 | k+1,h=>by
  show Go.Proofs.Ytbkdlhkoiagbbaa.dY g (f.blocks.length+k)+(nth g.blocks (f.blocks.length+k)).phis.length+(nth g.blocks (f.blocks.length+k)).ins.length=_
  rw [Mo.ym m (by omega),m.new k (by omega)];rfl
theorem Mo.cnt (m:Mo f g n):Go.Proofs.Ytbkdlhkoiagbbaa.dY g g.blocks.length=Go.Proofs.Ytbkdlhkoiagbbaa.dY f f.blocks.length+n:=by rw [m.len];exact m.ym (Nat.le_refl _)
theorem zP {N n i:Nat} {k:Int} (h:k∈(newT N n i).to):k=((N+i+1:Nat):Int):=by
 unfold newT at h
 split at h
 ·exact List.mem_singleton.1 h
 ·cases h
theorem Mo.Bd (m:Mo f g n) {a:Int} {c:Nat} (h:Re (ofG g.blocks) a c):c<f.blocks.length→Re (ofG f.blocks) a c:=by
 induction h with
 | root h0 h1=>exact fun hc=>.root (by rw [dG];exact hc) h1
 | @step x c hx he hne ih=>
  intro hc
  obtain ⟨hr,hm⟩:=cC.1 he
  rw [Int.toNat_natCast] at hm
  rw [m.len] at hr
  rcases Nat.lt_or_ge x f.blocks.length with h | h
  ·rcases m.term x h with e | ⟨_,e⟩
   ·rw [e] at hm
    exact .step (ih h) (cC.2 ⟨⟨by omega,by omega,by omega,by omega⟩,by rw [Int.toNat_natCast];exact hm⟩) hne
   ·rw [e] at hm
    have:=List.mem_singleton.1 hm
    omega
  ·obtain ⟨i,rfl⟩ : ∃ i,x=f.blocks.length+i:=⟨x-f.blocks.length,by omega⟩
   rw [m.new i (by omega)] at hm
   have:=zP hm
   omega
theorem Mo.qM (m:Mo f g n) {v:Int} {c:Nat} {p:Int} (hc:c<f.blocks.length) (h:fV f v c p):fV g v c p:=by
 rcases h with h | ⟨t,ht,hv,h⟩
 ·exact .inl (by rw [m.params];exact h)
 ·refine .inr ⟨t,?_,hv,?_⟩
  ·obtain ⟨d,hd,hm⟩:=cf.1 ht
   refine cf.2 ⟨d,by rw [m.len];omega,cN.2 ?_⟩
   rcases cN.1 hm with ⟨i,hi,rfl⟩ | ⟨i,hi,rfl⟩ | rfl
   ·exact .inl ⟨i,by rw [m.phis d hd];exact hi,(m.phiT hd i).symm⟩
   ·exact .inr (.inl ⟨i,by rw [m.ins d hd];exact hi,(m.insT hd i).symm⟩)
   ·cases hv
  ·rcases h with h | ⟨h1,h2⟩
   ·exact .inl h
   ·refine .inr ⟨h1,fun h=>h2 (m.Bd h ?_)⟩
    rw [Int.toNat_natCast];exact hc
end
end Go.Proofs.Ytbkdlhkoiagbbaa
namespace Go.Proofs.Ytbkdlhkoiagbbaa
open Go Go.Lft
structure Wy (f:ae) (P:Int→Prop) (frm:Int) (b:Nat):Prop where
 lt:b<f.blocks.length
 way:(frm=-1∧b=0)∨(P frm∧0≤frm∧frm<f.blocks.length∧(b:Int)∈(nth f.blocks frm.toNat).term.to∧∀ c:Int,¬P c→Re (ofG f.blocks) c frm.toNat)
def Sa (f:ae) (P:Int→Prop) (v:Int):Prop:=(0≤v∧v<f.params)∨∃ t∈aM f,v∈t.mks∧P t.blk
def Sb (f:ae) (P:Int→Prop) (b:Nat) (k:Int) (v:Int):Prop:=Sa f P v∨∃ t∈aM f,v∈t.mks∧t.blk=b∧(t.place<0∨t.place<k)
section
variable {f:ae} {P:Int→Prop} {frm:Int} {b:Nat}
theorem Wy.re (w:Wy f P frm b) {c:Int} (hc:¬P c) (hb:(b:Int)≠c):Re (ofG f.blocks) c b:=by
 have hl:=w.lt
 rcases w.way with ⟨_,rfl⟩ | ⟨h1,h2,h3,h4,h5⟩
 ·exact .root (by rw [dG];exact hl) (fun e=>hb (by rw [e];rfl))
 ·refine .step (h5 c hc) ?_ hb
  rw [cC]
  rw [Int.toNat_of_nonneg h2]
  exact ⟨⟨h2,h3,by omega,by omega⟩,h4⟩
theorem Sa.rng (m:iv f) {v:Int} (h:Sa f P v):0≤v∧v<8192:=by
 have:=m.params
 rcases h with h | ⟨t,ht,hv,_⟩
 ·omega
 ·have:=(m.good t ht).mks v hv;omega
theorem fV.rng (m:iv f) {v b p:Int} (h:fV f v b p):0≤v∧v<8192:=by
 have:=m.params
 rcases h with h | ⟨t,ht,hv,_⟩
 ·omega
 ·have:=(m.good t ht).mks v hv;omega
theorem Wy.phi (m:iv f) (w:Wy f P frm b) {i:Nat} (hi:i<(nth f.blocks b).phis.length) :
  (∃ p∈(nth (nth f.blocks b).phis i).ins,p.frm=frm)∧∀ p∈(nth (nth f.blocks b).phis i).ins,p.frm=frm→Sa f P p.val:=by
 obtain ⟨k1,k2,k3⟩:=m.phi b i w.lt hi
 rcases w.way with ⟨_,rfl⟩ | ⟨h1,h2,h3,h4,h5⟩
 ·omega
 have hm:frm∈aw f b:=tq.2 ⟨⟨h2,h3⟩,h4⟩
 rw [←k2] at hm
 obtain ⟨p,hp,e⟩:=List.mem_map.1 hm
 refine ⟨⟨p,hp,e⟩,?_⟩
 rintro q hq rfl
 rcases k3 q hq with c | ⟨t,ht,hv,g⟩
 ·exact .inl c
 ·refine .inr ⟨t,ht,hv,?_⟩
  rcases g with ⟨g,_⟩ | ⟨g1,g2⟩
  ·rw [g];exact h1
  ·exact Classical.byContradiction fun hn=>g2 (h5 _ hn)
theorem Wy.qM (w:Wy f P frm b) {v p:Int} (h:fV f v b p):Sb f P b p v:=by
 rcases h with c | ⟨t,ht,hv,g⟩
 ·exact .inl (.inl c)
 rcases g with ⟨g1,g2⟩ | ⟨g1,g2⟩
 ·exact .inr ⟨t,ht,hv,g1,g2⟩
 ·exact .inl (.inr ⟨t,ht,hv,Classical.byContradiction fun hn=>g2 (w.re hn (fun e=>g1 e.symm))⟩)
theorem Wy.term (m:iv f) (w:Wy f P frm b) {v:Int} (hv:v∈(nth f.blocks b).term.args):Sb f P b ((nth f.blocks b).ins.length:Nat) v∧0≤v∧v<8192:=by
 have h:=m.takes (endT f b) (cf.2 ⟨b,w.lt,cN.2 (.inr (.inr rfl))⟩) (Int.natCast_nonneg _) v hv
 exact ⟨w.qM h,h.rng m⟩
theorem Wy.dst (m:iv f) (w:Wy f P frm b) {i:Nat} (hi:i<(nth f.blocks b).phis.length):0≤(nth (nth f.blocks b).phis i).dst∧(nth (nth f.blocks b).phis i).dst<8192:=by
 have h:=(m.good (phiT f b i) (cf.2 ⟨b,w.lt,cN.2 (.inl ⟨i,hi,rfl⟩)⟩)).mks _ (List.mem_singleton.2 rfl)
 have:=m.params
 omega
end
end Go.Proofs.Ytbkdlhkoiagbbaa
namespace Go.Proofs.Ytbkdlhkoiagbbaa
open Go Go.Lft
section
variable {f:ae} {g:Int→Int} {b i:Nat}
end
theorem tL {f:ae}:topS f=(gz (aM f)).foldl je (rN f.params):=by
 unfold topS gz
 generalize rN f.params=t
 generalize aM f=l
 induction l generalizing t with
 | nil=>rfl
 | cons a l ih=>rw [List.foldl_cons,List.flatMap_cons,List.foldl_append];exact ih _
end Go.Proofs.Ytbkdlhkoiagbbaa
namespace Go.Proofs.Ytbkdlhkoiagbbaa
open Go Go.Lft
def pV (S:Int→Int) (x:InD):InD:=⟨S x.frm,x.val⟩
structure Mv (s:Nat→Nat) (S:Int→Int) (f g:ae):Prop where
 inv : ∀ c,s (s c)=c
 invS : ∀ x,S (S x)=x
 nat : ∀ c:Nat,S c=s c
 lt : ∀ c,c<f.blocks.length→s c<f.blocks.length
 params:g.params=f.params
 len:g.blocks.length=f.blocks.length
 phn : ∀ c,c<f.blocks.length→(nth g.blocks (s c)).phis.length=(nth f.blocks c).phis.length
 dst : ∀ c i,c<f.blocks.length→i<(nth f.blocks c).phis.length→(nth (nth g.blocks (s c)).phis i).dst=(nth (nth f.blocks c).phis i).dst
 ph : ∀ c i,c<f.blocks.length→i<(nth f.blocks c).phis.length→(nth (nth g.blocks (s c)).phis i).ins.Perm ((nth (nth f.blocks c).phis i).ins.map (pV S))
 ins : ∀ c,c<f.blocks.length→(nth g.blocks (s c)).ins=(nth f.blocks c).ins
 kind : ∀ c,c<f.blocks.length→(nth g.blocks (s c)).term.kind=(nth f.blocks c).term.kind
 args : ∀ c,c<f.blocks.length→(nth g.blocks (s c)).term.args=(nth f.blocks c).term.args
 to : ∀ c,c<f.blocks.length→(nth g.blocks (s c)).term.to=(nth f.blocks c).term.to.map S
section
variable {s:Nat→Nat} {S:Int→Int} {f g:ae}
theorem Mv.symm (m:Mv s S f g):Mv s S g f where
 inv:=m.inv
 invS:=m.invS
 nat:=m.nat
 lt:=fun c h=>by rw [m.len] at h ⊢;exact m.lt c h
 params:=m.params.symm
 len:=m.len.symm
 phn:=fun c h=>by rw [m.len] at h;have:=m.phn (s c) (m.lt c h);rw [m.inv] at this;exact this.symm
 dst:=fun c i h hi=>by
  rw [m.len] at h
  have h1:=m.phn (s c) (m.lt c h)
  rw [m.inv] at h1
  have:=m.dst (s c) i (m.lt c h) (by omega)
  rw [m.inv] at this;exact this.symm
 ph:=fun c i h hi=>by
  rw [m.len] at h
  have h1:=m.phn (s c) (m.lt c h)
  rw [m.inv] at h1
  have:=(m.ph (s c) i (m.lt c h) (by omega)).map (pV S)
  rw [m.inv,List.map_map] at this
  have e:pV S∘pV S=id:=funext fun x=>by unfold pV;simp [m.invS]
  rw [e,List.map_id] at this
  exact this.symm
 ins:=fun c h=>by rw [m.len] at h;have:=m.ins (s c) (m.lt c h);rw [m.inv] at this;exact this.symm
 kind:=fun c h=>by rw [m.len] at h;have:=m.kind (s c) (m.lt c h);rw [m.inv] at this;exact this.symm
 args:=fun c h=>by rw [m.len] at h;have:=m.args (s c) (m.lt c h);rw [m.inv] at this;exact this.symm
 to:=fun c h=>by
  rw [m.len] at h
  have:=m.to (s c) (m.lt c h)
  rw [m.inv] at this
  rw [this,List.map_map]
  have e:S∘S=id:=funext fun x=>m.invS x
  rw [e,List.map_id]
theorem Mv.range (m:Mv s S f g):(List.range f.blocks.length).Perm ((List.range f.blocks.length).map s):=by
 have hinj : ∀ a b,s a=s b→a=b:=fun a b h=>by rw [←m.inv a,←m.inv b,h]
 refine (List.perm_ext_iff_of_nodup List.nodup_range ?_).2 fun a=>?_
 ·exact List.pairwise_map.2 (List.nodup_range.imp fun hne e=>hne (hinj _ _ e))
 ·rw [List.mem_range,List.mem_map]
  constructor
  ·exact fun h=>⟨s a,List.mem_range.2 (m.lt a h),m.inv a⟩
  ·rintro ⟨b,hb,rfl⟩
   exact m.lt b (List.mem_range.1 hb)
theorem kz {α β:Type} {x y:α→List β} : ∀ {l:List α},(∀ a∈l,(x a).Perm (y a))→(l.flatMap x).Perm (l.flatMap y)
 | [],_=>.refl _
 | a::l,h=>by
  rw [List.flatMap_cons,List.flatMap_cons]
  exact (h a (List.mem_cons_self ..)).append (kz fun b hb=>h b (List.mem_cons_of_mem _ hb))
theorem Mv.flat (m:Mv s S f g) {β:Type} {x y:Nat→List β} (h : ∀ c,c<f.blocks.length→(y (s c)).Perm (x c)):((List.range g.blocks.length).flatMap y).Perm ((List.range f.blocks.length).flatMap x):=by
 rw [m.len]
 refine (List.Perm.flatMap_right y m.range).trans ?_
 rw [List.flatMap_map]
 exact kz fun c hc=>h c (List.mem_range.1 hc)
theorem iG {β:Type} {x:Th→List β} {f:ae} : ∀ {n:Nat},(thTo f n).flatMap x=(List.range n).flatMap fun b=>(thB f b).flatMap x
 | 0=>rfl
 | n+1=>by rw [kq,List.flatMap_append,iG,List.range_succ,List.flatMap_append,List.flatMap_singleton]
def zk (l:List Th):List Int:=l.flatMap Th.tks
theorem Mv.thB (m:Mv s S f g) {x:Th→List Int} {c:Nat} (hc:c<f.blocks.length) (hp : ∀ i,i<(nth f.blocks c).phis.length→(x (phiT g (s c) i)).Perm (x (phiT f c i))) (hi : ∀ i,i<(nth f.blocks c).ins.length→(x (insT g (s c) i)).Perm (x (insT f c i))) (he:(x (endT g (s c))).Perm (x (endT f c))) :
  ((Go.Proofs.Ytbkdlhkoiagbbaa.thB g (s c)).flatMap x).Perm ((Go.Proofs.Ytbkdlhkoiagbbaa.thB f c).flatMap x):=by
 unfold Go.Proofs.Ytbkdlhkoiagbbaa.thB
 rw [m.phn c hc,m.ins c hc]
 simp only [List.flatMap_append,List.flatMap_singleton]
 unfold rows
 rw [List.flatMap_map,List.flatMap_map,List.flatMap_map,List.flatMap_map]
 exact ((kz fun i h=>hp i (List.mem_range.1 h)).append (kz fun i h=>hi i (List.mem_range.1 h))).append he
theorem Mv.mks (m:Mv s S f g):(gz (aM g)).Perm (gz (aM f)):=by
 unfold gz aM
 rw [iG,iG]
 refine m.flat fun c hc=>m.thB hc (fun i hi=>?_) (fun i hi=>?_) (.refl _)
 ·show [(nth (nth g.blocks (s c)).phis i).dst].Perm [(nth (nth f.blocks c).phis i).dst]
  rw [m.dst c i hc hi]
 ·show (aI (nth (nth g.blocks (s c)).ins i)).Perm (aI (nth (nth f.blocks c).ins i))
  rw [m.ins c hc]
theorem Mv.phv (m:Mv s S f g) {c i:Nat} (hc:c<f.blocks.length) (hi:i<(nth f.blocks c).phis.length):(phiT g (s c) i).tks.Perm (phiT f c i).tks:=by
 have:=(m.ph c i hc hi).map InD.val
 rw [List.map_map] at this
 exact this
theorem Mv.tks (m:Mv s S f g):(zk (aM g)).Perm (zk (aM f)):=by
 unfold zk aM
 rw [iG,iG]
 refine m.flat fun c hc=>m.thB hc (fun i hi=>m.phv hc hi) (fun i hi=>?_) ?_
 ·show ((nth (nth g.blocks (s c)).ins i).args).Perm ((nth (nth f.blocks c).ins i).args)
  rw [m.ins c hc]
 ·show ((nth g.blocks (s c)).term.args).Perm ((nth f.blocks c).term.args)
  rw [m.args c hc]
theorem rA {t a b:Int}:je (je t a) b=je (je t b) a:=by
 unfold je
 cases aN a 0 8191<;>cases aN b 0 8191<;>simp<;>(repeat' split)<;>omega
theorem Mv.top (m:Mv s S f g):topS g=topS f:=by
 rw [tL,tL,m.params]
 exact m.mks.foldl_eq' (fun _ _ _ _ _=>rA) _
structure Cm (S:Int→Int) (f g:ae) (t t':Th):Prop where
 mem:t'∈aM g
 blk:t'.blk=S t.blk
 place:t'.place=t.place
 mks:t'.mks=t.mks
 tks:t'.tks.Perm t.tks
 ins:0≤t.place→oo g t'=oo f t
theorem Mv.come (m:Mv s S f g) {t:Th} (ht:t∈aM f) : ∃ t',Cm S f g t t':=by
 obtain ⟨c,hc,h⟩:=cf.1 ht
 have hlt:s c<g.blocks.length:=by rw [m.len];exact m.lt c hc
 rcases cN.1 h with ⟨i,hi,rfl⟩ | ⟨i,hi,rfl⟩ | rfl
 ·exact ⟨phiT g (s c) i,cf.2 ⟨s c,hlt,cN.2 (.inl ⟨i,by rw [m.phn c hc];exact hi,rfl⟩)⟩,(m.nat c).symm,rfl,by show [_]=[_];rw [m.dst c i hc hi],m.phv hc hi,fun h=>absurd h (by show ¬(0:Int)≤-1-(i:Int);omega)⟩
 ·refine ⟨insT g (s c) i,cf.2 ⟨s c,hlt,cN.2 (.inr (.inl ⟨i,by rw [m.ins c hc];exact hi,rfl⟩))⟩,(m.nat c).symm,rfl,by show aI _=aI _;rw [m.ins c hc],by show List.Perm (nth (nth g.blocks (s c)).ins i).args _;rw [m.ins c hc];exact .refl _,fun _=>?_⟩
  show nth (nth g.blocks ((s c:Nat):Int).toNat).ins ((i:Nat):Int).toNat=nth (nth f.blocks ((c:Nat):Int).toNat).ins ((i:Nat):Int).toNat
  rw [Int.toNat_natCast,Int.toNat_natCast,Int.toNat_natCast,m.ins c hc]
 ·refine ⟨endT g (s c),cf.2 ⟨s c,hlt,cN.2 (.inr (.inr rfl))⟩,(m.nat c).symm,by show (((nth g.blocks (s c)).ins.length:Nat):Int)=_;rw [m.ins c hc];rfl,rfl,by show List.Perm (nth g.blocks (s c)).term.args _;rw [m.args c hc];exact .refl _,fun _=>?_⟩
  show nth (nth g.blocks ((s c:Nat):Int).toNat).ins (((nth g.blocks (s c)).ins.length:Nat):Int).toNat=nth (nth f.blocks ((c:Nat):Int).toNat).ins (((nth f.blocks c).ins.length:Nat):Int).toNat
  rw [Int.toNat_natCast,Int.toNat_natCast,m.ins c hc];rfl
theorem Mv.rng (m:Mv s S f g) {x:Int} (h:0≤x∧x<f.blocks.length):S x=((s x.toNat:Nat):Int)∧0≤S x∧S x<f.blocks.length:=by
 have e:=m.nat x.toNat
 rw [show ((x.toNat:Nat):Int)=x by omega] at e
 have:=m.lt x.toNat (by omega)
 exact ⟨e,by omega,by omega⟩
theorem Mv.re (m:Mv s S f g) (h0:s 0=0) {a:Int} {c:Nat} (h:Re (ofG f.blocks) a c):Re (ofG g.blocks) (S a) (s c):=by
 have hS0:S 0=0:=by have:=m.nat 0;rw [h0] at this;exact this
 have hinj : ∀ x y,S x=S y→x=y:=fun x y e=>by rw [←m.invS x,←m.invS y,e]
 induction h with
 | root h hne=>
  rw [h0]
  exact .root (by rw [dG,m.len];rw [dG] at h;exact h) fun e=>hne (hinj _ _ (e.trans hS0.symm))
 | @step x c hx he hne ih=>
  obtain ⟨hr,hm⟩:=cC.1 he
  rw [Int.toNat_natCast] at hm
  refine .step ih (cC.2 ⟨?_,?_⟩) fun e=>hne (hinj _ _ ((m.nat c).trans e))
  ·have h1:=m.lt x (by omega)
   have h2:=m.lt c (by omega)
   rw [m.len];omega
  ·rw [Int.toNat_natCast,m.to x (by omega),←m.nat c]
   exact List.mem_map_of_mem hm
theorem Mv.qM (m:Mv s S f g) (h0:s 0=0) {v c p:Int} (hc:0≤c∧c<f.blocks.length) (h:fV f v c p):fV g v (S c) p:=by
 have hinj : ∀ x y,S x=S y→x=y:=fun x y e=>by rw [←m.invS x,←m.invS y,e]
 rcases h with h | ⟨t,ht,hv,h⟩
 ·exact .inl (by rw [m.params];exact h)
 ·obtain ⟨t',ct⟩:=m.come ht
  refine .inr ⟨t',ct.mem,by rw [ct.mks];exact hv,?_⟩
  rw [ct.blk,ct.place]
  rcases h with ⟨rfl,h⟩ | ⟨h1,h2⟩
  ·exact .inl ⟨rfl,h⟩
  ·refine .inr ⟨fun e=>h1 (hinj _ _ e),fun r=>h2 ?_⟩
   have:=m.symm.re h0 r
   rw [m.invS,(m.rng hc).1,Int.toNat_natCast,m.inv] at this
   exact this
theorem oD {f:ae} : ∀ {n:Nat},dY f n=f.blocks.length+((List.range n).flatMap fun b=>List.replicate ((nth f.blocks b).phis.length+(nth f.blocks b).ins.length) ()).length
 | 0=>rfl
 | n+1=>by
  rw [List.range_succ,List.flatMap_append,List.flatMap_singleton,List.length_append,List.length_replicate]
  show dY f n+_+_=_
  rw [oD];omega
theorem Mv.cnt (m:Mv s S f g):dY g g.blocks.length=dY f f.blocks.length:=by
 rw [oD,oD,(m.flat (x:=fun b=>List.replicate ((nth f.blocks b).phis.length+(nth f.blocks b).ins.length) ()) (y:=fun b=>List.replicate ((nth g.blocks b).phis.length+(nth g.blocks b).ins.length) ()) fun c hc=>by rw [m.phn c hc,m.ins c hc]).length_eq,m.len]
def eT (l:List InD):Prop:=l.Pairwise fun x y=>x.frm≤y.frm
end
end Go.Proofs.Ytbkdlhkoiagbbaa
namespace Go.Proofs.Ytbkdlhkoiagbbaa
open Go Go.Lft
structure PhR (S:Int→Int) (p q:PhiD):Prop where
 dst:q.dst=p.dst
 perm:q.ins.Perm (p.ins.map (pV S))
 ris:eT q.ins
structure BlR (S:Int→Int) (x y:BlkD):Prop where
 ins:y.ins=x.ins
 term:y.term={ x.term with to:=x.term.to.map S }
 len:y.phis.length=x.phis.length
 ph : ∀ i,i<x.phis.length→PhR S (nth x.phis i) (nth y.phis i)
structure FuR (S:Int→Int) (F:ae) (n:Nat) (g:ae):Prop where
 params:g.params=F.params
 len:g.blocks.length=F.blocks.length
 old : ∀ c,n≤c→nth g.blocks c=nth F.blocks c
 new : ∀ c,c<F.blocks.length→c<n→BlR S (nth F.blocks c) (nth g.blocks c)
theorem FuR.zero {S:Int→Int} {F:ae}:FuR S F 0 F:=⟨rfl,rfl,fun _ _=>rfl,fun _ _ h=>absurd h (Nat.not_lt_zero _)⟩
theorem FuR.succ {S:Int→Int} {F g:ae} {n:Nat} (r:FuR S F n g) (hn:n<F.blocks.length) {y:BlkD} (h:BlR S (nth F.blocks n) y):FuR S F (n+1) (aE g n y):=by
 have hl:=r.len
 have hs:=fun c=>ji (f:=g) (b:=n) (d:=y) (by omega) c
 refine ⟨r.params,by rw [fe];exact r.len,fun c hc=>?_,fun c hc hcn=>?_⟩
 ·rw [hs,if_neg (by omega)];exact r.old c (by omega)
 ·rw [hs]
  split
  ·rename_i e;subst e;exact h
  ·exact r.new c hc (by omega)
structure Way (A B:List InD) (x:InD):Prop where
 ris:eT (A++B)
 gt : ∀ y∈B,x.frm<y.frm
theorem Way.done {A B:List InD} {x:InD} (w:Way A B x) (h : ∀ y,A.getLast? = some y→y.frm≤x.frm):eT (A++x::B):=by
 obtain ⟨r,g⟩:=w
 have ra:=List.pairwise_append.1 r
 refine List.pairwise_append.2 ⟨ra.1,List.pairwise_cons.2 ⟨fun y hy=>Int.le_of_lt (g y hy),ra.2.1⟩,fun y hy z hz=>?_⟩
 rcases List.mem_cons.1 hz with rfl | hz
 ·rcases A.eq_nil_or_concat with e | ⟨A',l,e⟩
  ·subst e;cases hy
  ·rw [List.concat_eq_append] at e
   subst e
   have hl:=h l (by simp)
   rcases List.mem_append.1 hy with hy | hy
   ·have:=(List.pairwise_append.1 ra.1).2.2 y hy l (List.mem_singleton.2 rfl)
    omega
   ·rw [List.mem_singleton.1 hy];exact hl
 ·exact ra.2.2 y hy z hz
theorem Way.step {A B:List InD} {x y:InD} (w:Way (A++[y]) B x) (h:x.frm<y.frm):Way A (y::B) x:=
 ⟨by have:=w.ris;rw [List.append_assoc] at this;exact this,fun z hz=>by
  rcases List.mem_cons.1 hz with rfl | hz
  ·exact h
  ·exact w.gt z hz⟩
theorem Way.start {A:List InD} {x:InD} (r:eT A):Way A [] x:=⟨by rw [List.append_nil];exact r,fun y hy=>by cases hy⟩
section
variable {K:Nat} {s:Nat→Nat}
theorem Owns.perm {W:View} {h:Heap} {o:Own} (w:Owns W h o) {π:Key→Key} (hπ : ∀ a b,π a=π b→a=b):Owns W h (fun k=>o (π k)):=
 ⟨w.wle,fun k i hk=>w.own (π k) i hk,fun k i hk=>w.av (π k) i hk,fun k k' i i' b hk hk' hb hb'=>hπ _ _ (w.dj (π k) (π k') i i' b hk hk' hb hb')⟩
end
end Go.Proofs.Ytbkdlhkoiagbbaa
namespace Go.Proofs.Ytbkdlhkoiagbbaa
open Go Go.Lft
theorem Bm {p q:InD} {up uq:Value} {h:Heap} (hp:Rd (vw h) up p) (hq:Rd (vw h) uq q):ay Try.prog N.aR #[up,uq] h (fun u h'=>u = .int .i64 (IntKind.i64.wrap (p.frm-q.frm))∧(vw h).le (vw h')):=by
 refine an (args:=[up,uq]) follows F.aR E.aR (Nat.le_of_ble_eq_true (by kernel_rfl)) fun K hK=>?_
 dsimp only [L.aR]
 refine aa fun z hz=>?_
 simp
 refine jj rfl hp fun h1 e1 hle1 hs1 hat1=>?_
 refine jj rfl (hq.mono hle1) fun h2 e2 hle2 hs2 hat2=>?_
 have c1:ah (vw h2) ⟨h.size,0,none⟩=some (.int .i64 p.frm):=af hle2 (hat1.part InD.nO).int
 have c2:ah (vw h2) ⟨h1.size,0,none⟩=some (.int .i64 q.frm):=(hat2.part InD.nO).int
 rw [hz];clear hz z
 simp [c1,c2]
 exact hK _ _ ⟨rfl,View.le_trans hle1 hle2⟩
theorem um (k:Key) {l:List InD} {v:Value} {h:Heap} {W:View} {o:Own} (w:Owns W h o) (hk:o k=it T.cK v l) (hl:l.length≤12) (hr : ∀ x∈l,0≤x.frm∧x.frm≤100000) :
  ay Try.prog N.ak #[v,.int .i64 0,.int .i64 l.length,.func (.func N.aR) #[] #[]] h (fun _ h'=>∃ l',l'.Perm l∧eT l'∧Owns W h' (o.upd k (it T.cK v l'))):=by
 refine an (args:=[v,.int .i64 0,.int .i64 l.length,.func (.func N.aR) #[] #[]]) follows F.ak E.ak (Nat.le_of_ble_eq_true (by kernel_rfl)) fun Kc hK=>?_
 dsimp only [L.ak]
 refine aa fun z hz=>?_
 simp
 rw [hz];clear hz z
 have w0:Owns W h (o.upd k (it T.cK v (l.take 1++l.drop (0+1)))):=w.congr fun q=>by
  rw [Nat.zero_add,List.take_append_drop]
  unfold Own.upd
  split
  ·rename_i e;rw [e,hk]
  ·rfl
 have r0:eT (l.take 1):=by
  match l with
  | []=>exact .nil
  | x::_=>exact List.pairwise_singleton _ _
 refine yT [0,1,2,3,8] (fun (_:Unit) j=>[v,.int .i64 0,.int .i64 l.length,.func (.func N.aR) #[] #[],.int .i64 ((j:Int)+1)]) (fun _ j h1=>∃ R,Owns W h1 (o.upd k (it T.cK v (R++l.drop (j+1))))∧R.Perm (l.take (j+1))∧eT R) (l.length-1) 1 ()
  rfl (by omega) (by omega) rfl ⟨_,w0,.refl _,r0⟩ (fun _ _=>rfl) (fun _ j h1 hj _=>?_) ?_ ?_
 ·have e:decide ((j:Int)+1<l.length)=decide (j<l.length-1):=by rw [Bool.eq_iff_iff,decide_eq_true_eq,decide_eq_true_eq];omega
  rw [←e]
  simp
 ·rintro _ i h1 hi ⟨R,w1,hp1,hr1⟩ K4 hK4
  have hk1:i+1<l.length:=by omega
  have hkR:R.length=i+1:=by rw [hp1.length_eq,List.length_take];omega
  obtain ⟨x0,hx0⟩ : ∃ x0,x0=l[i+1]:=⟨_,rfl⟩
  have hx0m:x0∈l:=by rw [hx0];exact List.getElem_mem hk1
  have hdrop:l.drop (i+1)=x0::l.drop (i+1+1):=by rw [hx0];exact List.drop_eq_getElem_cons hk1
  have htake:l.take (i+1+1)=l.take (i+1)++[x0]:=by rw [hx0];exact List.take_succ_eq_append_getElem hk1
  obtain ⟨rest,hrest⟩ : ∃ rest,rest=l.drop (i+1+1):=⟨_,rfl⟩
  rw [←hrest] at hdrop
  rw [hdrop] at w1
  refine aa fun q hq=>?_
  simp
  rw [hq];clear hq q
  simp only [kA]
  refine gX [0,1,2,3,8,9] (fun m ρ h2=>∃ A B,m=A.length∧ρ=[(0,v),(1,.int .i64 0),(2,.int .i64 l.length),(3,.func (.func N.aR) #[] #[]),(8,.int .i64 ((i:Int)+1)),(9,.int .i64 (A.length:Nat))]∧
   Owns W h2 (o.upd k (it T.cK v (A++x0::(B++rest))))∧Way A B x0∧(A++B).Perm (l.take (i+1))) (i+1) ⟨R,[],hkR.symm,by rw [hkR];rfl,w1,.start hr1,by rw [List.append_nil];exact hp1⟩ ?_
  rintro m ρ h2 ⟨A,B,rfl,rfl,w2,wy,hpm⟩ K5 hK5
  have hAB:A.length+B.length=i+1:=by have:=hpm.length_eq;rw [List.length_append,List.length_take] at this;omega
  have hfin:eT (A++x0::B)→∀ {h3:Heap},Owns W h3 (o.upd k (it T.cK v (A++x0::(B++rest))))→∃ R',Owns W h3 (o.upd k (it T.cK v (R'++l.drop (i+1+1))))∧R'.Perm (l.take (i+1+1))∧eT R':=fun hr h3 w3=>⟨A++x0::B,by rw [←hrest,List.append_assoc,List.cons_append];exact w3,by
   rw [htake]
   exact List.perm_middle.trans ((List.Perm.cons _ hpm).trans (List.perm_append_comm (l₁:=[x0]))),hr⟩
  refine aa fun q hq=>?_
  refine aa fun p hp=>?_
  rcases A.eq_nil_or_concat with e | ⟨A',y',e⟩
  ·subst e
   refine eI (vw h2) (View.le_refl _) ?_
   simp
   rw [hp];clear hp p
   refine pa (by simp) ?_
   simp
   exact hK4 () _ _ rfl (by simp [cW]) (hfin (wy.done fun y hy=>by cases hy) w2)
  ·rw [List.concat_eq_append] at e
   subst e
   have hLl:((A'++[y'])++x0::(B++rest))=A'++y'::x0::(B++rest):=by simp
   have hlenj:(A'++[y']).length=A'.length+1:=by simp
   have w2:Owns W h2 (o.upd k (it T.cK v (A'++y'::x0::(B++rest)))):=by rw [←hLl];exact w2
   have hfin:eT ((A'++[y'])++x0::B)→∀ {h3:Heap},Owns W h3 (o.upd k (it T.cK v (A'++y'::x0::(B++rest))))→∃ R',Owns W h3 (o.upd k (it T.cK v (R'++l.drop (i+1+1))))∧R'.Perm (l.take (i+1+1))∧eT R':=fun hr h3 w3=>hfin hr (by rw [hLl];exact w3)
   have hym:y'∈l:=List.mem_of_mem_take (hpm.mem_iff.1 (by simp))
   have i1:A'.length<(A'++y'::x0::(B++rest)).length:=by simp
   have i2:A'.length+1<(A'++y'::x0::(B++rest)).length:=by simp
   have en1:(A'++y'::x0::(B++rest))[A'.length]=y':=by rw [List.getElem_append_right (Nat.le_refl _)];simp
   have en2:(A'++y'::x0::(B++rest))[A'.length+1]=x0:=by rw [List.getElem_append_right (by omega)];simp
   have s2:=w2.now Own.ag
   have y1:Bn.ev (.idx 2) v (.int .i64 (A'.length:Nat))=some (.pointer (some ((slA v).add (A'.length*2)))):=s2.idxn (N:=2) rfl (Int.natCast_nonneg _) (by omega)
   have z1:Bn.ev (.idx 2) v (.int .i64 ((A'.length+1:Nat):Int))=some (.pointer (some ((slA v).add ((A'.length+1)*2)))):=s2.idxn (N:=2) rfl (Int.natCast_nonneg _) (by omega)
   obtain ⟨uy,huy,ruy⟩:=Owns.ldW w2 Own.ag rfl (N:=2) rfl i1
   obtain ⟨uj,huj,ruj⟩:=Owns.ldW w2 Own.ag rfl (N:=2) rfl i2
   rw [en1] at ruy
   rw [en2] at ruj
   rw [hlenj] at hAB hK5 ⊢
   have set1:(A'++y'::x0::(B++rest)).set (A'.length+1) y'=A'++y'::y'::(B++rest):=by
    rw [List.set_append_right _ _ (by omega)];simp
   have set2:(A'++y'::y'::(B++rest)).set A'.length x0=A'++x0::y'::(B++rest):=by
    rw [List.set_append_right _ _ (Nat.le_refl _)];simp
   have i3:A'.length<(A'++y'::y'::(B++rest)).length:=by simp
   obtain ⟨j,hj⟩ : ∃ j,j=A'.length+1:=⟨_,rfl⟩
   rw [←hj] at z1 huj i2 hAB set1 hK5 ⊢
   have hw:IntKind.i64.wrap ((j:Int)-1)=(A'.length:Int):=by rw [cw (by omega) (by omega)];omega
   have hj0:0<j:=by omega
   have hjl:A'.length<j:=by omega
   clear hj en1 en2
   have f1:=hr _ hx0m
   have f2:=hr _ hym
   refine eI (vw h2) (View.le_refl _) ?_
   simp [hw,hj0,y1,z1,huy,huj]
   refine fA (ops:=[.tmp 26,.tmp 31]) rfl (by kernel_rfl) (Bm (ruj.mono w2.wle) (ruy.mono w2.wle)) ?_
   rintro _ h3 ⟨rfl,hle3⟩
   have ew:IntKind.i64.wrap (x0.frm-y'.frm)=x0.frm-y'.frm:=cw (by omega) (by omega)
   rw [ew]
   refine ⟨hle3,?_⟩
   have w3:=w2.ext' hle3
   by_cases hgt:x0.frm<y'.frm
   ·have hlt:x0.frm-y'.frm<0:=by omega
    simp [hj0,hlt]
    rw [hp];clear hp p
    refine uM (by simp) ?_
    simp
    rw [hq];clear hq q
    refine aa fun q hq=>?_
    simp only [kA]
    have huy3:Un.ev (vw h3) (.ao 2) (.pointer (some ((slA v).add (A'.length*2))))=some uy:=by
     have:=cA (ρ:=fun _=>none) (e:=.un (.ao 2) (.con (.pointer (some ((slA v).add (A'.length*2)))))) hle3 (by simpa using huy)
     simpa using this
    have huj3:Un.ev (vw h3) (.ao 2) (.pointer (some ((slA v).add (j*2))))=some uj:=by
     have:=cA (ρ:=fun _=>none) (e:=.un (.ao 2) (.con (.pointer (some ((slA v).add (j*2)))))) hle3 (by simpa using huj)
     simpa using this
    refine eI (vw h3) (View.le_refl _) ?_
    simp [hw,y1,z1,huy3,huj3]
    refine w3.tX (k:=k) (α:=InD) (v:=v) (l:=A'++y'::x0::(B++rest)) (i:=j) (d:=y') Own.ag (by kernel_rfl) rfl rfl i2 ruy fun h4 w4 _=>?_
    rw [set1] at w4
    refine w4.tX (k:=k) (α:=InD) (v:=v) (l:=A'++y'::y'::(B++rest)) (i:=A'.length) (d:=x0) Own.ag (by kernel_rfl) rfl rfl i3 ruj fun h5 w5 _=>?_
    rw [set2] at w5
    rw [hq];clear hq q
    simp [hw]
    refine hK5 A'.length _ _ hjl ⟨A',y'::B,rfl,by simp [cW,hw],w5.congr fun q=>?_,wy.step hgt,?_⟩
    ·rw [List.cons_append];unfold Own.upd;split<;>rfl
    ·rw [List.append_assoc] at hpm;exact hpm
   ·have hlt:¬x0.frm-y'.frm<0:=by omega
    simp [hj0,hlt]
    rw [hp];clear hp p
    refine pa (by simp) ?_
    simp
    exact hK4 () _ _ rfl (by simp [cW]) (hfin (wy.done fun y hy=>by
     simp at hy
     subst hy;omega) w3)
 ·rintro _ h1 ⟨R,w1,hp1,hr1⟩
  have e1:l.drop (l.length-1+1)=[]:=List.drop_of_length_le (by omega)
  have e2:l.take (l.length-1+1)=l:=List.take_of_length_le (by omega)
  rw [e1,List.append_nil] at w1
  rw [e2] at hp1
  simp
  exact hK _ _ ⟨R,hp1,hr1,w1⟩
theorem B8 (k:Key) {l:List InD} {v:Value} {lim:Int} {h:Heap} {W:View} {o:Own} (w:Owns W h o) (hk:o k=it T.cK v l) (hl:l.length≤12) (hr : ∀ x∈l,0≤x.frm∧x.frm≤100000) :
  ay Try.prog N.ax #[v,.int .i64 0,.int .i64 l.length,.int .i64 lim,.func (.func N.aR) #[] #[]] h (fun _ h'=>∃ l',l'.Perm l∧eT l'∧Owns W h' (o.upd k (it T.cK v l'))):=by
 refine an (args:=[v,.int .i64 0,.int .i64 l.length,.int .i64 lim,.func (.func N.aR) #[] #[]]) follows F.ax E.ax (Nat.le_of_ble_eq_true (by kernel_rfl)) fun Kc hK=>?_
 dsimp only [L.ax]
 refine aa fun z hz=>?_
 simp
 rw [hz];clear hz z
 refine aa fun z hz=>?_
 simp
 rw [hz];clear hz z
 simp only [kA]
 refine gX [0,1,2,3,4,10,11] (fun m ρ h2=>h2=h∧ρ=[(0,v),(1,.int .i64 0),(2,.int .i64 l.length),(3,.int .i64 lim),(4,.func (.func N.aR) #[] #[]),(10,.bool true),(11,.bool true)]) 0 ⟨rfl,rfl⟩ ?_
 rintro m ρ h2 ⟨rfl,rfl⟩ K2 hK2
 dsimp only [L.ax.l1]
 simp only [kA]
 refine aa fun z hz=>?_
 have ew:IntKind.i64.wrap ((l.length:Int)-0)=l.length:=by rw [cw (by omega) (by omega)];omega
 simp [ew]
 rw [hz];clear hz z
 refine aa fun z hz=>?_
 have h12:(l.length:Int)≤12:=by omega
 have ew2:IntKind.i64.wrap (l.length:Int)=l.length:=cw (by omega) (by omega)
 simp [ew2,hl,h12]
 refine aq (by kernel_rfl) (um k w hk hl hr) ?_
 rintro _ h3 hx
 exact hK _ _ hx
theorem BK {n:Nat} {h:Heap} (hn:n≤1000000):ay Try.prog N.pO #[.int .u64 n] h (fun u h'=>(∃ i:Int,u = .int .i64 i)∧h'=h):=by
 rintro w rfl
 refine (Try.bits_Len (n:Int) w (by omega) (by omega)).mono ?_
 rintro e w' ⟨rfl,rfl⟩
 exact ⟨_,rfl,⟨⟨_,rfl⟩,rfl⟩,Same.refl _⟩
theorem sN (k:Key) {l:List InD} {v:Value} {h:Heap} {W:View} {o:Own} (w:Owns W h o) (hk:o k=it T.cK v l) (hl:l.length≤12) (hr : ∀ x∈l,0≤x.frm∧x.frm≤100000) :
  ay Try.prog N.bD #[v,.func (.func N.aR) #[] #[]] h (fun _ h'=>∃ l',l'.Perm l∧eT l'∧Owns W h' (o.upd k (it T.cK v l'))):=by
 refine an (args:=[v,.func (.func N.aR) #[] #[]]) follows F.bD E.bD (Nat.le_of_ble_eq_true (by kernel_rfl)) fun Kc hK=>?_
 dsimp only [L.bD]
 have s:=w.now hk
 refine aa fun z hz=>?_
 simp [s.len]
 rw [hz];clear hz z
 have ew:IntKind.u64.wrap (l.length:Int)=l.length:=by rw [IntKind.wrap_u64];omega
 simp [ew]
 refine aq (by kernel_rfl) (BK (by omega)) ?_
 rintro _ h2 ⟨⟨i,rfl⟩,rfl⟩
 refine aq (by kernel_rfl) (B8 k w hk hl hr) ?_
 rintro _ h3 hx
 exact hK _ _ hx
end Go.Proofs.Ytbkdlhkoiagbbaa
namespace Go.Proofs.Ytbkdlhkoiagbbaa
open Go Go.Lft
def putE (E:List (Int × Int)) (n:Nat) (a b:Int):Option Int:=if (a,b)∈E then some ((n:Int)+E.idxOf (a,b)) else none
theorem yr {n:Nat} {a b:Int}:putE [] n a b=none:=by simp [putE]
theorem xF {E:List (Int × Int)} {x:Int × Int} {n:Nat} (hx:x∉E) (a b:Int):putE (E++[x]) n a b=if a=x.1∧b=x.2 then some ((n:Int)+E.length) else putE E n a b:=by
 have he:a=x.1∧b=x.2↔(a,b)=x:=by cases x;simp
 unfold putE
 by_cases h:(a,b)=x
 ·rw [if_pos (he.2 h),h,if_pos (by simp),List.idxOf_append,if_neg hx]
  simp
 ·rw [if_neg (fun e=>h (he.1 e))]
  by_cases h2:(a,b)∈E
  ·rw [if_pos (by simp [h2]),if_pos h2,List.idxOf_append,if_pos h2]
  ·rw [if_neg (by simp [h2,h]),if_neg h2]
theorem iC {E:List (Int × Int)} {n:Nat} {a b x:Int} (h:putE E n a b=some x):(n:Int)≤x∧x<n+E.length∧(a,b)∈E:=by
 unfold putE at h
 split at h
 ·rename_i hm
  have:=List.idxOf_lt_length_iff.2 hm
  cases h;exact ⟨by omega,by omega,hm⟩
 ·cases h
def toE (E:List (Int × Int)) (n:Nat) (a t:Int):Int:=(putE E n a t).getD t
def frmE (E:List (Int × Int)) (n:Nat) (b:Int) (x:InD):InD:=⟨(putE E n x.frm b).getD x.frm,x.val⟩
def srt (l:List InD):List InD:=l.mergeSort fun x y=>decide (x.frm≤y.frm)
theorem tN {l:List InD}:(srt l).Perm l:=List.mergeSort_perm _ _
theorem uI {l:List InD}:eT (srt l):=by
 have:=List.pairwise_mergeSort (le:=fun x y:InD=>decide (x.frm≤y.frm)) (fun a b c h1 h2=>by simp at *;omega) (fun a b=>by simp;omega) l
 exact this.imp fun h=>by simpa using h
theorem oS {l l':List InD} (hp:l'.Perm l) (hr:eT l') (hn:(l.map (·.frm)).Nodup):l'=srt l:=by
 refine List.Perm.eq_of_pairwise (le:=fun x y:InD=>x.frm≤y.frm) (fun a b ha hb h1 h2=>?_) hr uI (hp.trans tN.symm)
 have ha:=hp.subset ha
 have hb:=tN.subset hb
 obtain ⟨i,hi,rfl⟩:=List.getElem_of_mem ha
 obtain ⟨j,hj,rfl⟩:=List.getElem_of_mem hb
 have:i=j:=(List.getElem_inj (xs:=l.map (·.frm)) (h₀:=by simpa using hi) (h₁:=by simpa using hj) hn).1 (by simp;omega)
 subst this;rfl
def phE (E:List (Int × Int)) (n:Nat) (a:Int) (p:PhiD):PhiD:=⟨p.dst,srt (p.ins.map (frmE E n a))⟩
def tmE (E:List (Int × Int)) (n:Nat) (a:Int) (t:de):de:={ t with to:=t.to.map (toE E n a) }
def blE (E:List (Int × Int)) (n:Nat) (a:Int) (d:BlkD):BlkD:=⟨d.phis.map (phE E n a),d.ins,tmE E n a d.term⟩
def fl (b:Int):BlkD:=⟨[],[],⟨1,[],[b],⟨0⟩⟩⟩
def onE (E:List (Int × Int)) (f:ae):ae:=⟨f.params,rows (fun a=>blE E f.blocks.length a (nth f.blocks a)) f.blocks.length++E.map fun e=>fl e.2⟩
def iR (f:ae):List (Int × Int):=eP (ofG f.blocks)
def kb (f:ae):ae:=onE (iR f) f
def wA (f:ae):Prop:=∀ b,b<f.blocks.length→∀ i,i<(nth f.blocks b).phis.length→(nth (nth f.blocks b).phis i).ins.length≤12∧((nth (nth f.blocks b).phis i).ins.map (·.frm)).Nodup∧∀ x∈(nth (nth f.blocks b).phis i).ins,0≤x.frm∧x.frm<f.blocks.length
theorem uS {E:List (Int × Int)} {n:Nat} {b:Int} {l:List InD} (h1:(l.map (·.frm)).Nodup) (h2 : ∀ x∈l,0≤x.frm∧x.frm<n):((l.map (frmE E n b)).map (·.frm)).Nodup:=by
 rw [List.map_map]
 rw [List.Nodup,List.pairwise_map] at h1 ⊢
 refine List.Pairwise.imp_of_mem (fun {x y} hx hy h e=>h ?_) h1
 simp only [Function.comp,frmE] at e
 have gx:=h2 x hx
 have gy:=h2 y hy
 cases px:putE E n x.frm b with
 | none=>
  cases py:putE E n y.frm b with
  | none=>rw [px,py] at e;exact e
  | some q=>rw [px,py] at e;have:=iC py;simp only [Option.getD_none,Option.getD_some] at e;omega
 | some p=>
  cases py:putE E n y.frm b with
  | none=>rw [px,py] at e;have:=iC px;simp only [Option.getD_none,Option.getD_some] at e;omega
  | some q=>
   rw [px,py] at e
   simp only [Option.getD_some] at e
   subst e
   unfold putE at px py
   split at px
   ·rename_i m1
    split at py
    ·rename_i m2
     have l1:=List.idxOf_lt_length_iff.2 m1
     have l2:=List.idxOf_lt_length_iff.2 m2
     have e2:E.idxOf (x.frm,b)=E.idxOf (y.frm,b):=by
      have a1:=Option.some.inj px;have a2:=Option.some.inj py;omega
     have q1:=List.getElem_idxOf l1
     have q2:=List.getElem_idxOf l2
     have:(x.frm,b)=(y.frm,b):=by rw [←q1,←q2];congr 1
     exact (Prod.mk.inj this).1
    ·cases py
   ·cases px
theorem tw:Tw Try.prog T.jl T.int:=⟨U.jl,U.int,by kernel_rfl⟩
section
variable {H:View} {a b c:Value}
@[simp] theorem DC:Un.ev H (.ext 0) (.tuple #[a,b])=some a:=rfl
@[simp] theorem Dz:Un.ev H (.ext 1) (.tuple #[a,b])=some b:=rfl
@[simp] theorem DA:Un.ev H (.ext 0) (.tuple #[a,b,c])=some a:=rfl
@[simp] theorem DD:Un.ev H (.ext 1) (.tuple #[a,b,c])=some b:=rfl
@[simp] theorem DB:Un.ev H (.ext 2) (.tuple #[a,b,c])=some c:=rfl
end
end Go.Proofs.Ytbkdlhkoiagbbaa
