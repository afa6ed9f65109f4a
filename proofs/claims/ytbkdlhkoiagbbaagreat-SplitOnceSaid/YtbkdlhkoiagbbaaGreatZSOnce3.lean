/- A part of the proof: Pb, Pd, Pc, Pe, Pf, Pg, Ph, Hd, He, Hf, Hg, Hi, Hj, Hk, Ra, Ka, Kd, Kb, Wu, Wv, Kc, Ma, Mb, Mc, Md, Me, Mf. -/
import Derived.Test.YtbkdlhkoiagbbaaGreatZSOnce2
import Derived.ChangeKeysEq
set_option linter.unusedSimpArgs false
set_option linter.unusedVariables false
namespace Go.Proofs.YtbkdlhkoiagbbaaGreat
open Go Go.Lft
structure Le (x y:List Bool):Prop where
 len:y.length=x.length
 le : ∀i,nth x i=true→nth y i=true
theorem Le.refl(x:List Bool):Le x x:=⟨rfl,fun _ h=>h⟩
theorem Le.trans {x y z:List Bool} (h:Le x y) (k:Le y z):Le x z:=⟨k.len.trans h.len,fun i e=>k.le i (h.le i e)⟩
theorem Le.antisymm{x y:List Bool}(h:Le x y)(k:Le y x):x=y:=by
 refine wj h.len.symm fun i _=>?_
 rw[Bool.eq_iff_iff];exact⟨h.le i,k.le i⟩
theorem Le.cW : ∀{x y:List Bool},Le x y→x=y∨cW y<cW x
 | [],y,h=>.inl (List.eq_nil_of_length_eq_zero h.len).symm
 | a::x,y,h=>by
  match y,h with
  | [],h=>have:=h.len;simp at this
  | b::y,h=>
   have h2:Le x y:=⟨by simpa using h.len,fun i e=>by have:=h.le (i+1);simpa[nth]using this (by simpa[nth]using e)⟩
   have h0:a=true→b=true:=fun e=>by have:=h.le 0;simpa[nth]using this (by simpa[nth]using e)
   unfold Go.Proofs.YtbkdlhkoiagbbaaGreat.cW
   rcases h2.cW with rfl | h3
   ·cases a<;>cases b<;>simp at h0 ⊢
   ·unfold Go.Proofs.YtbkdlhkoiagbbaaGreat.cW at h3
    cases a<;>cases b<;>simp at h0 ⊢<;>omega
theorem Hz{x:List Bool}{i:Nat}{b:Bool}(hb:nth x i=true→b=true):Le x (x.set i b):=by
 refine⟨by simp,fun j hj=>?_⟩
 rcases Nat.lt_or_ge j x.length with h | h
 ·rw[aH h]
  split
  ·rename_i e;subst e;exact hb hj
  ·exact hj
 ·rw[aV h]at hj;cases hj
theorem wv {f:Nat→List Bool→List Bool} (hf : ∀k x,Le x (f k x)) (x:List Bool) : ∀n m,n≤m→Le (up f n x) (up f m x)
  | n,0,h=>by
                  obtain rfl:n=0:=by omega
                  exact Le.refl _
  | n,m+1,h=>by
    rcases Nat.lt_or_ge n (m+1)with h1 | h1
    · exact(wv hf x n m (by omega)).trans (hf m _)
    · obtain rfl:n=m+1:=by omega
      exact Le.refl _
theorem GM{f:Nat→List Bool→List Bool}(hf : ∀k x,Le x (f k x)){x:List Bool}{n:Nat}(h:up f n x=x): ∀k,k<n→f k x=x:=by
 have key : ∀k,k≤n→up f k x=x:=fun k hk=>by
  have h1:=wv hf x k n hk
  rw[h]at h1
  have h2:=wv hf x 0 k (Nat.zero_le _)
  exact(h2.antisymm h1).symm
 intro k hk
 have h1:=key (k+1) (by omega)
 rw[up,key k (by omega)]at h1
 exact h1
theorem yY {β:Type} {F:β→β} : ∀(n:Nat) (x:β),up (fun _=>F) (n+1) x=up (fun _=>F) n (F x)
 | 0,x=>rfl
 | n+1,x=>by
  show F (up (fun _=>F) (n+1) x)=F (up (fun _=>F) n (F x))
  rw[yY n x]
theorem zl {β:Type} {F:β→β} {x:β} (h:F x=x) : ∀n,up (fun _=>F) n x=x
 | 0=>rfl
 | n+1=>by show F (up (fun _=>F) n x)=x;rw[zl h n,h]
theorem DW {F:List Bool→List Bool} (hF : ∀x,Le x (F x)) : ∀(n:Nat) (x:List Bool),cW x≤n→F (up (fun _=>F) n x)=up (fun _=>F) n x
 | 0,x,h=>by
  rcases(hF x).cW with e | e
  ·exact e.symm
  ·omega
 | n+1,x,h=>by
  rw[yY]
  rcases(hF x).cW with e | e
  ·rw[←e,zl e.symm];exact e.symm
  ·exact DW hF n _ (by omega)
inductive Re (g:Gr) (gone:Int):Nat→Prop
 | root:0<g.length→gone≠0→Re g gone 0
 | step {a b:Nat}:Re g gone a→db g a b=true→(b:Int)≠gone→Re g gone b
theorem Re.lt{g:Gr}{gone:Int}{b:Nat}(h:Re g gone b):b<g.length:=by
 cases h with
 | root h _=>exact h
 | step _ h _=>have:=(dX.1 h).1;omega
variable{gone:Int}
theorem Re.ne{g:Gr}{b:Nat}(h:Re g gone b):(b:Int)≠gone:=by
 cases h with
 | root _ h=>exact fun e=>h e.symm
 | step _ _ h=>exact h
theorem Re.all{g:Gr}{b:Nat}(h:Re g gone b):Re g (-1) b:=by
 induction h with
 | root h _=>exact .root h (by decide)
 | step _ h _ ih=>exact .step ih h (by omega)
theorem tN{l:List Int}{i:Nat}{x:List Bool}:Le x (sL gone l i x):=Hz fun h=>by rw[h];rfl
theorem rP{g:Gr}{a:Nat}{x:List Bool}:Le x (outBlock g gone a x):=by
 unfold outBlock
 split
 ·exact wv (fun k x=>tN) x 0 _ (Nat.zero_le _)
 ·exact Le.refl _
theorem rY{g:Gr}{x:List Bool}:Le x (lK g gone x):=wv (fun k x=>rP) x 0 _ (Nat.zero_le _)
theorem xA{β:Type}(I:β→Prop){f:Nat→β→β}{n:Nat}(hf : ∀k x,k<n→I x→I (f k x)){x:β}(hx:I x):I (up f n x):=by
 have : ∀m,m≤n→I (up f m x):=by
  intro m
  induction m with
  | zero=>exact fun _=>hx
  | succ m ih=>exact fun h=>hf _ _ (by omega) (ih (by omega))
 exact this n (Nat.le_refl _)
theorem wU{g:Gr}{b:Nat}:nth (lC g gone) b=true↔Re g gone b:=by
 by_cases h0:g.length=0∨gone=0
 ·rw[lC,if_pos h0]
  constructor
  ·intro h
   rcases Nat.lt_or_ge b g.length with h1 | h1
   ·rw[aq h1]at h;cases h
   ·rw[aV (by simpa using h1)]at h;cases h
  ·intro h
   exfalso
   induction h with
   | root h1 h2=>rcases h0 with h0 | h0;omega;exact h2 h0
   | step _ _ _ ih=>exact ih
 ·rw[lC,if_neg h0]
  have hg:g.length≠0:=fun e=>h0 (.inl e)
  have hgone:gone≠0:=fun e=>h0 (.inr e)
  have hinit:((List.replicate g.length false).set 0 true).length=g.length:=by simp
  constructor
  ·-- what is marked is reached
   have hI : ∀x:List Bool,(∀b,nth x b=true→Re g gone b)→∀b,nth (lK g gone x) b=true→Re g gone b:=by
    intro x hx
    refine xA (fun x:List Bool=>∀b,nth x b=true→Re g gone b) (fun a x ha hx=>?_) hx
    unfold outBlock
    split
    ·rename_i hxa
     have hra:=hx a hxa
     refine xA (fun x:List Bool=>∀b,nth x b=true→Re g gone b) (fun i x hi hx=>?_) hx
     intro b hb
     have hm:=bw hi
     have hed:=dO.1 hm
     have hrng:=(dX.1 hed).1
     unfold sL at hb
     rcases Nat.lt_or_ge b x.length with h1 | h1
     ·rw[aH h1]at hb
      split at hb
      ·rename_i e
       rcases(Bool.or_eq_true _ _).mp hb with h2 | h2
       ·rw[e]at h2;exact hx b h2
       ·have eb:(b:Int)=nth (cS g a) i:=by omega
        exact .step hra (by rw[eb];exact hed) (by rw[eb];simpa using h2)
      ·exact hx b hb
     ·rw[aV (by simpa using h1)]at hb;cases hb
    ·exact hx
   exact xA (fun x:List Bool=>∀b,nth x b=true→Re g gone b) (fun _ x _ hx=>hI x hx) (fun b hb=>by
    rcases Nat.lt_or_ge b g.length with h1 | h1
    ·rw[aH (by simpa using h1)]at hb
     split at hb
     ·rename_i e;subst e;exact .root (by omega) hgone
     ·rw[aq h1]at hb;cases hb
    ·rw[aV (by simpa using h1)]at hb;cases hb) b
  ·-- what is reached is marked
   intro h
   have hfix:=DW (F:=lK g gone) (fun x=>rY) g.length ((List.replicate g.length false).set 0 true) (by
    have:=vH (t:=List.replicate g.length false) (i:=0)
    have h2:cW (List.replicate g.length false)=g.length:=by simp[cW]
    omega)
   have hle:=wv (f:=fun _=>lK g gone) (fun _ x=>rY) ((List.replicate g.length false).set 0 true) 0 g.length (Nat.zero_le _)
   generalize up (fun _=>lK g gone) g.length ((List.replicate g.length false).set 0 true)=x at hfix hle
   have hxl:x.length=g.length:=hle.len.trans hinit
   induction h with
   | root h1 _=>exact hle.le 0 (by show nth ((List.replicate g.length false).set 0 true) 0=true;rw[aH (by simpa using h1),if_pos rfl])
   | step ha he hb ih=>
    rename_i a b
    have hrng:=(dX.1 he).1
    have h1:=GM (fun k x=>rP) hfix a (by omega)
    rw[outBlock,if_pos ih]at h1
    obtain⟨i,hi,e⟩:=List.getElem_of_mem (dO.2 he)
    have h2:=GM (fun k x=>tN) h1 i hi
    rw[←ak hi]at e
    unfold sL at h2
    rw[e]at h2
    have h3:=congrArg (fun l=>nth l b) h2
    simp only[Int.toNat_natCast]at h3
    rw[aH (by omega),if_pos rfl]at h3
    rw[←h3]
    simp[hb]
theorem nT{g:Gr}{a b:Nat}:domC g a b=true↔Re g (-1) a∧Re g (-1) b∧¬Re g a b:=by
 rw[domC]
 simp only[Bool.and_eq_true,Bool.or_eq_true,Bool.not_eq_true',decide_eq_true_eq,wU,Bool.eq_false_iff,ne_eq]
 constructor
 ·rintro⟨⟨h1,h2⟩,h3⟩
  refine⟨h1,h2,?_⟩
  rcases h3 with h3 | h3
  ·exact fun h=>h.ne h3.symm
  ·exact h3
 ·rintro⟨h1,h2,h3⟩
  exact⟨⟨h1,h2⟩,.inr h3⟩
def Bef (l:List Int) (u v:Int):Prop:=∃p q,l=p++u::q∧v∈q
theorem Bef.app{l:List Int}{u v:Int}(h:Bef l u v)(t:List Int):Bef (l++t) u v:=by
 obtain⟨p,q,rfl,hv⟩:=h
 exact⟨p,q++t,by simp,List.mem_append_left _ hv⟩
theorem Bef.pre{l:List Int}{u v:Int}(h:Bef l u v)(t:List Int):Bef (t++l) u v:=by
 obtain⟨p,q,rfl,hv⟩:=h
 exact⟨t++p,q,by simp,hv⟩
theorem Bef.AR{l t:List Int}{u v:Int}(hu:u∈l)(hv:v∈t):Bef (l++t) u v:=by
 obtain⟨p,q,rfl⟩:=List.append_of_mem hu
 exact⟨p,q++t,by simp,List.mem_append_right _ hv⟩
theorem Bef.mem{l:List Int}{u v:Int}(h:Bef l u v):u∈l∧v∈l:=by
 obtain⟨p,q,rfl,hv⟩:=h
 exact⟨by simp,by simp[hv]⟩
inductive Adv (nx:Int→List Int) (l:List Int) (u:Int):Int→Prop
 | self:Adv nx l u u
 | step {p q:Int}:Adv nx l u p→q∈nx p→Bef l q p→Adv nx l u q
theorem Adv.app {nx:Int→List Int} {l:List Int} {u v:Int} (h:Adv nx l u v) (t:List Int):Adv nx (l++t) u v:=by
 induction h with
 | self=>exact .self
 | step _ h1 h2 ih=>exact .step ih h1 (h2.app t)
theorem Adv.pre {nx:Int→List Int} {l:List Int} {u v:Int} (h:Adv nx l u v) (t:List Int):Adv nx (t++l) u v:=by
 induction h with
 | self=>exact .self
 | step _ h1 h2 ih=>exact .step ih h1 (h2.pre t)
theorem Adv.trans{nx:Int→List Int}{l:List Int}{u v w:Int}(h:Adv nx l u v)(k:Adv nx l v w):Adv nx l u w:=by
 induction k with
 | self=>exact h
 | step _ h1 h2 ih=>exact .step ih h1 h2
def vis (s:List Bool × List Int) (x:Int):Prop:=nth s.1 x.toNat=true
structure Told (nx:Int→List Int) (m:Nat) (a:Int) (s s':List Bool × List Int) (new:List Int):Prop where
 out:s'.2=s.2++new
 len:s'.1.length=s.1.length
 nodup:new.Nodup
 visd : ∀x,0≤x→(vis s' x↔vis s x∨x∈new)
 fresh : ∀x∈new,¬vis s x∧0≤x∧x<m
 last : ∃t,new=t++[a]
 clos : ∀x∈new,∀y∈nx x,vis s' y
 par : ∀x∈new,x≠a→∃p∈new,x∈nx p∧Bef new x p
 desc : ∀x∈new,Adv nx new a x
 ret : ∀x∈new,∀y∈nx x,y∈new→Bef new y x∨Adv nx new y x
structure Half (nx:Int→List Int) (m:Nat) (a:Int) (k:Nat) (s s':List Bool × List Int) (new:List Int):Prop where
 out:s'.2=s.2++new
 len:s'.1.length=s.1.length
 nodup:new.Nodup
 visd : ∀x,0≤x→(vis s' x↔vis s x∨x=a∨x∈new)
 fresh : ∀x∈new,¬vis s x∧(0≤x∧x<m)∧x≠a
 clos : ∀x∈new,∀y∈nx x,vis s' y
 done : ∀j,j<k→vis s' (nth (nx a) j)
 par : ∀x∈new,x∈nx a∨∃p∈new,x∈nx p∧Bef new x p
 desc : ∀x∈new,∃b∈new,b∈nx a∧Adv nx new b x
 ret : ∀x∈new,∀y∈nx x,y∈new→Bef new y x∨Adv nx new y x
theorem vN {nx:Int→List Int} {m:Nat} (hnx : ∀a:Int,0≤a→a<m→∀y∈nx a,0≤y∧y<m) : ∀(n:Nat) (a:Int) (s:List Bool × List Int),0≤a→a<m→s.1.length=m→nth s.1 a.toNat=false→cW s.1≤n→
  ∃new,Told nx m a s (iT nx n a s) new
 | 0,a,s,h0,h1,hl,hf,hc=>by
  exfalso
  have:=iP (t:=s.1) (i:=a.toNat) (by omega) hf
  omega
 | n+1,a,s,h0,h1,hl,hf,hc=>by
  have hfs:=iP (t:=s.1) (i:=a.toNat) (by omega) hf
  rw[jx]
  have half : ∀k,k≤(nx a).length→∃new,Half nx m a k s (up (cg nx n a) k (s.1.set a.toNat true,s.2)) new∧cW (up (cg nx n a) k (s.1.set a.toNat true,s.2)).1≤n:=by
   intro k
   induction k with
   | zero=>
    intro _
    refine⟨[],⟨by simp[up],by simp[up],by simp,fun x hx=>?_,by simp,by simp,by simp,by simp,by simp,by simp⟩,by simp only[up];omega⟩
    unfold vis
    show nth (s.1.set a.toNat true) x.toNat=true↔_
    rcases Nat.lt_or_ge x.toNat s.1.length with hlt | hge
    ·rw[aH hlt]
     split
     ·rename_i e
      have:x=a:=by omega
      simp[this]
     ·rename_i e
      have:x≠a:=fun h=>e (by rw[h])
      simp[this]
    ·rw[aV (by simpa using hge),aV hge]
     have:x≠a:=by omega
     simp[this]
   | succ k ih=>
    intro hk
    obtain⟨new,H,hcn⟩:=ih (by omega)
    rw[up]
    generalize up (cg nx n a) k (s.1.set a.toNat true,s.2)=z at H hcn
    have hb:=hnx a h0 h1 (nth (nx a) k) (bw (by omega))
    have hbm:nth (nx a) k∈nx a:=bw (by omega)
    have hzl:z.1.length=m:=H.len.trans hl
    rw[cg]
    split
    ·rename_i hv
     refine⟨new,{ H with done:=fun j hj=>?_ },hcn⟩
     rcases Nat.lt_or_ge j k with h | h
     ·exact H.done j h
     ·obtain rfl:j=k:=by omega
      exact hv
    ·rename_i hv
     obtain⟨new',T⟩:=vN hnx n (nth (nx a) k) z hb.1 hb.2 hzl (by simpa using hv) hcn
     have hkeep:=(mU (nx:=nx) (m:=m) (c:=n) n (nth (nx a) k) z ⟨hzl,hcn⟩).2
     generalize iT nx n (nth (nx a) k) z=z' at T hkeep
     obtain⟨t,ht⟩:=T.last
     have hbn:nth (nx a) k∈new':=by rw[ht];simp
     have up : ∀y,0≤y→vis z y→vis z' y:=fun y hy h=>(T.visd y hy).2 (.inl h)
     have hnv : ∀x∈new,vis z x:=fun x hx=>(H.visd x (H.fresh x hx).2.1.1).2 (.inr (.inr hx))
     refine⟨new++new',⟨?_,?_,?_,?_,?_,?_,?_,?_,?_,?_⟩,hkeep⟩
     ·rw[T.out,H.out,List.append_assoc]
     ·rw[T.len,H.len]
     ·exact List.nodup_append.2 ⟨H.nodup,T.nodup,fun x hx y hy e=>by subst e;exact(T.fresh x hy).1 (hnv x hx)⟩
     ·intro x hx
      rw[T.visd x hx,H.visd x hx,List.mem_append]
      constructor
      ·rintro((h | h | h) | h)
       ·exact .inl h
       ·exact .inr (.inl h)
       ·exact .inr (.inr (.inl h))
       ·exact .inr (.inr (.inr h))
      ·rintro(h | h | h | h)
       ·exact .inl (.inl h)
       ·exact .inl (.inr (.inl h))
       ·exact .inl (.inr (.inr h))
       ·exact .inr h
     ·intro x hx
      rcases List.mem_append.1 hx with hx | hx
      ·exact H.fresh x hx
      ·obtain⟨g1,g2⟩:=T.fresh x hx
       refine⟨fun h=>g1 ((H.visd x g2.1).2 (.inl h)),g2,fun e=>g1 ((H.visd x g2.1).2 (.inr (.inl e)))⟩
     ·intro x hx y hy
      rcases List.mem_append.1 hx with hx | hx
      ·have hxr:=(H.fresh x hx).2.1
       exact up y (hnx x hxr.1 hxr.2 y hy).1 (H.clos x hx y hy)
      ·exact T.clos x hx y hy
     ·intro j hj
      rcases Nat.lt_or_ge j k with h | h
      ·exact up _ (hnx a h0 h1 _ (bw (by omega))).1 (H.done j h)
      ·obtain rfl:j=k:=by omega
       exact(T.visd _ hb.1).2 (.inr hbn)
     ·intro x hx
      rcases List.mem_append.1 hx with hx | hx
      ·rcases H.par x hx with h | ⟨p,hp,h2,h3⟩
       ·exact .inl h
       ·exact .inr ⟨p,List.mem_append_left _ hp,h2,h3.app _⟩
      ·by_cases e:x=nth (nx a) k
       ·exact .inl (e▸hbm)
       ·obtain⟨p,hp,h2,h3⟩:=T.par x hx e
        exact .inr ⟨p,List.mem_append_right _ hp,h2,h3.pre _⟩
     ·intro x hx
      rcases List.mem_append.1 hx with hx | hx
      ·obtain⟨b,hb,h2,h3⟩:=H.desc x hx
       exact⟨b,List.mem_append_left _ hb,h2,h3.app _⟩
      ·exact⟨_,List.mem_append_right _ hbn,hbm,(T.desc x hx).pre _⟩
     ·intro x hx y hy hyn
      rcases List.mem_append.1 hx with hx | hx<;>rcases List.mem_append.1 hyn with hyn | hyn
      ·exact(H.ret x hx y hy hyn).imp (·.app _) (·.app _)
      ·exact absurd (H.clos x hx y hy) (T.fresh y hyn).1
      ·exact .inl (Bef.AR hyn hx)
      ·exact(T.ret x hx y hy hyn).imp (·.pre _) (·.pre _)
  obtain⟨new,H,hcn⟩:=half (nx a).length (Nat.le_refl _)
  generalize up (cg nx n a) (nx a).length (s.1.set a.toNat true,s.2)=z at H hcn
  have hda : ∀y∈nx a,vis z y:=by
   intro y hy
   obtain⟨j,hj,rfl⟩:=List.getElem_of_mem hy
   have:=H.done j hj
   rwa [ak hj]at this
  have hadv : ∀x∈new,Adv nx (new++[a]) a x:=by
   intro x hx
   obtain⟨b,hb,h2,h3⟩:=H.desc x hx
   exact(Adv.step .self h2 (Bef.AR hb (by simp))).trans (h3.app _)
  refine⟨new++[a],⟨?_,H.len,?_,?_,?_,⟨new,rfl⟩,?_,?_,?_,?_⟩⟩
  ·simp only[H.out,List.append_assoc]
  ·refine List.nodup_append.2 ⟨H.nodup,by simp,fun x hx y hy e=>?_⟩
   simp only[List.mem_singleton]at hy
   exact(H.fresh x hx).2.2 (e.trans hy)
  ·intro x hx
   show nth z.1 x.toNat=true↔_
   have:=H.visd x hx
   unfold vis at this ⊢
   rw[this]
   simp only[List.mem_append,List.mem_singleton]
   constructor
   ·rintro(h | h | h)
    ·exact .inl h
    ·exact .inr (.inr h)
    ·exact .inr (.inl h)
   ·rintro(h | h | h)
    ·exact .inl h
    ·exact .inr (.inr h)
    ·exact .inr (.inl h)
  ·intro x hx
   rcases List.mem_append.1 hx with hx | hx
   ·exact⟨(H.fresh x hx).1,(H.fresh x hx).2.1⟩
   ·simp only[List.mem_singleton]at hx;subst hx
    exact⟨by unfold vis;rw[hf];simp,h0,h1⟩
  ·intro x hx y hy
   rcases List.mem_append.1 hx with hx | hx
   ·exact H.clos x hx y hy
   ·simp only[List.mem_singleton]at hx;subst hx
    exact hda y hy
  ·intro x hx hne
   rcases List.mem_append.1 hx with hx | hx
   ·rcases H.par x hx with h | ⟨p,hp,h2,h3⟩
    ·exact⟨a,by simp,h,Bef.AR hx (by simp)⟩
    ·exact⟨p,List.mem_append_left _ hp,h2,h3.app _⟩
   ·simp only[List.mem_singleton]at hx;exact absurd hx hne
  ·intro x hx
   rcases List.mem_append.1 hx with hx | hx
   ·exact hadv x hx
   ·simp only[List.mem_singleton]at hx;subst hx;exact .self
  ·intro x hx y hy hyn
   rcases List.mem_append.1 hyn with hn | hn
   ·rcases List.mem_append.1 hx with hx | hx
    ·exact(H.ret x hx y hy hn).imp (·.app _) (·.app _)
    ·simp only[List.mem_singleton]at hx;subst hx
     exact .inl (Bef.AR hn (by simp))
   ·simp only[List.mem_singleton]at hn;subst hn
    rcases List.mem_append.1 hx with hx | hx
    ·exact .inr (hadv x hx)
    ·simp only[List.mem_singleton]at hx;subst hx
     exact .inr .self
end Go.Proofs.YtbkdlhkoiagbbaaGreat
namespace Go.Proofs.YtbkdlhkoiagbbaaGreat.Chk
inductive Anc (o:Nat→Nat) (x:Nat):Nat→Prop
 | self:Anc o x x
 | up {b:Nat}:b≠0→Anc o x (o b)→Anc o x b
theorem qB{o:Nat→Nat}{x:Nat}:Anc o x 0↔x=0:=by
 constructor
 ·intro h
  cases h with
  | self=>rfl
  | up h _=>exact absurd rfl h
 ·rintro rfl;exact .self
variable{b:Nat}
theorem mg{o:Nat→Nat}{x:Nat}(hb:b≠0):Anc o x b↔x=b∨Anc o x (o b):=by
 constructor
 ·intro h
  cases h with
  | self=>exact .inl rfl
  | up _ h=>exact .inr h
 ·rintro(rfl | h)
  ·exact .self
  ·exact .up hb h
theorem Anc.trans{o:Nat→Nat}{x y:Nat}(h:Anc o x y)(k:Anc o y b):Anc o x b:=by
 induction k with
 | self=>exact h
 | up hb _ ih=>exact .up hb ih
theorem Anc.total{o:Nat→Nat}{x y:Nat}(h:Anc o x b)(k:Anc o y b):Anc o x y∨Anc o y x:=by
 induction h with
 | self=>exact .inr k
 | up hb h ih=>
  cases k with
  | self=>exact .inl (.up hb h)
  | up _ k=>exact ih k
structure Ch (R:Nat→Prop) (r:Nat→Nat) (E:Nat→Nat→Prop) (f:Nat→Nat) (D:Nat→Nat→Prop):Prop where
 inj : ∀a b,R a→R b→r a=r b→a=b
 R0:R 0
 r0:r 0=0
 hf : ∀x,R x→x≠0→R (f x)∧E (f x) x∧r (f x)<r x
 d1 : ∀d b a,D d b→d≠b→E a b→R a→D d a
 d0 : ∀d,D d 0→d=0
def Ok (Pr:Nat→Prop) (x:Nat):Prop:=x=0∨Pr x
structure Inv (R:Nat→Prop) (r:Nat→Nat) (E:Nat→Nat→Prop) (f:Nat→Nat) (D:Nat→Nat→Prop) (k:Nat) (o:Nat→Nat) (Pr:Nat→Prop):Prop where
 pr : ∀b,Pr b→R b∧b≠0∧Ok Pr (o b)∧r (o b)<r b
 all : ∀b,R b→b≠0→r b<k→Pr b
 fok : ∀b,Pr b→Ok Pr (f b)
 K : ∀b,Pr b→∀x,(∀a,E a b→R a→Ok Pr a→Anc o x a)→Anc o x (o b)
 FP : ∀b,Pr b→∀y,Anc o y (o b)→k≤r y→Anc o y (f b)
 FP2 : ∀b,Pr b→r b<k→Anc o (o b) (f b)
 S : ∀b,Pr b→∀d,D d b→d≠b→Anc o d (o b)
section
variable {R:Nat→Prop} {r:Nat→Nat} {E:Nat→Nat→Prop} {f:Nat→Nat} {D:Nat→Nat→Prop} {k:Nat} {o:Nat→Nat} {Pr:Nat→Prop}
theorem Inv.okR(I:Inv R r E f D k o Pr)(C:Ch R r E f D){x:Nat}(h:Ok Pr x):R x:=by
 rcases h with rfl | h
 ·exact C.R0
 ·exact(I.pr x h).1
theorem Inv.anc(I:Inv R r E f D k o Pr){x:Nat}(h:Anc o x b):Ok Pr b→Ok Pr x∧(x=b∨r x<r b):=by
 induction h with
 | self=>exact fun hb=>⟨hb,.inl rfl⟩
 | up hb _ ih=>
  intro hok
  rcases hok with rfl | hp
  ·exact absurd rfl hb
  ·obtain⟨_,_,h3,h4⟩:=I.pr _ hp
   obtain⟨h5,h6⟩:=ih h3
   refine⟨h5,.inr ?_⟩
   rcases h6 with rfl | h6
   ·exact h4
   ·omega
theorem Inv.dom(I:Inv R r E f D k o Pr)(C:Ch R r E f D){d:Nat}(hb:Ok Pr b)(h:D d b):Anc o d b:=by
 by_cases e:d=b
 ·subst e;exact .self
 ·rcases hb with rfl | hb
  ·exact absurd (C.d0 d h) e
  ·exact .up (I.pr b hb).2.1 (I.S b hb d h e)
def upd (o:Nat→Nat) (c q:Nat):Nat→Nat:=fun b=>if b=c then q else o b
def add (Pr:Nat→Prop) (c:Nat):Nat→Prop:=fun b=>b=c∨Pr b
theorem jk{c q x:Nat}(h:¬Anc o c b):Anc (upd o c q) x b↔Anc o x b:=by
 constructor
 ·intro k
  induction k with
  | self=>exact .self
  | up hb k ih=>
   rename_i b
   have hne:b≠c:=fun e=>h (e▸.self)
   have e:upd o c q b=o b:=by unfold upd;rw[if_neg hne]
   rw[e]at ih k
   exact .up hb (ih fun hc=>h (.up hb hc))
 ·intro k
  induction k with
  | self=>exact .self
  | up hb k ih=>
   rename_i b
   have hne:b≠c:=fun e=>h (e▸.self)
   have e:upd o c q b=o b:=by unfold upd;rw[if_neg hne]
   exact .up hb (by rw[e];exact ih fun hc=>h (.up hb hc))
theorem HY{c q x:Nat}(hc:c≠0)(hq:¬Anc o c q):Anc (upd o c q) x c↔x=c∨Anc o x q:=by
 rw[mg hc,show upd o c q c=q by simp[upd],jk hq]
theorem Inv.F9(I:Inv R r E f D k o Pr){x y:Nat}(hx:Ok Pr x)(hy:Ok Pr y)(h1:Anc o x y)(h2:Anc o y x):x=y:=by
 have e1:=(I.anc h1 hy).2
 have e2:=(I.anc h2 hx).2
 omega
theorem Inv.below(I:Inv R r E f D k o Pr){c q x:Nat}(hpc:Pr c)(hq:¬Anc o c q)(h:Anc o c b):Ok Pr b→(Anc (upd o c q) x b↔(Anc o x b∧Anc o c x)∨Anc o x q):=by
 have hc:=(I.pr c hpc).2.1
 induction h with
 | self=>
  intro hb
  rw[HY hc hq]
  constructor
  ·rintro(rfl | h)
   ·exact .inl ⟨.self,.self⟩
   ·exact .inr h
  ·rintro(⟨h1,h2⟩ | h)
   ·exact .inl (I.F9 (I.anc h1 hb).1 hb h1 h2)
   ·exact .inr h
 | up hb h ih=>
  rename_i b
  intro hok
  have hpb:Pr b:=hok.resolve_left hb
  obtain⟨_,_,h3,h4⟩:=I.pr b hpb
  have hne:b≠c:=fun e=>by
   subst e
   rcases(I.anc h h3).2 with e | e
   ·rw[←e]at h4;omega
   ·omega
  have e:upd o c q b=o b:=by unfold upd;rw[if_neg hne]
  rw[mg hb,e,ih h3,mg hb]
  constructor
  ·rintro(rfl | ⟨h1,h2⟩ | h1)
   ·exact .inl ⟨.inl rfl,.up hb h⟩
   ·exact .inl ⟨.inr h1,h2⟩
   ·exact .inr h1
  ·rintro(⟨rfl | h1,h2⟩ | h1)
   ·exact .inl rfl
   ·exact .inr (.inl ⟨h1,h2⟩)
   ·exact .inr (.inr h1)
structure Turn (R:Nat→Prop) (r:Nat→Nat) (E:Nat→Nat→Prop) (o:Nat→Nat) (Pr:Nat→Prop) (c q:Nat):Prop where
 ok:Ok Pr q
 q : ∀x,Anc o x q↔∀a,E a c→R a→Ok Pr a→Anc o x a
theorem Inv.fc(I:Inv R r E f D k o Pr)(C:Ch R r E f D){c:Nat}(hR:R c)(hc:c≠0)(hk:r c=k):Ok Pr (f c):=by
 obtain⟨h1,_,h3⟩:=C.hf c hR hc
 by_cases e:f c=0
 ·exact .inl e
 ·exact .inr (I.all _ h1 e (by omega))
theorem Turn.lt{c q:Nat}(T:Turn R r E o Pr c q)(I:Inv R r E f D k o Pr)(C:Ch R r E f D)(hR:R c)(hc:c≠0)(hk:r c=k):r q<r c∧Anc o q (f c):=by
 obtain⟨h1,h2,h3⟩:=C.hf c hR hc
 have h4:=(T.q q).1 .self (f c) h2 h1 (I.fc C hR hc hk)
 have:=(I.anc h4 (I.fc C hR hc hk)).2
 refine⟨?_,h4⟩
 rcases this with e | e
 ·rw[e];exact h3
 ·omega
theorem Inv.turn(I:Inv R r E f D k o Pr)(C:Ch R r E f D){c q:Nat}(hR:R c)(hc:c≠0)(hk:r c=k)(T:Turn R r E o Pr c q):Inv R r E f D (k+1) (upd o c q) (add Pr c):=by
 obtain⟨f1,f2,f3⟩:=C.hf c hR hc
 have hfok:=I.fc C hR hc hk
 obtain⟨hlt,hqf⟩:=T.lt I C hR hc hk
 have hq:¬Anc o c q:=fun h=>by
  have:=(I.anc h T.ok).2
  rcases this with e | e
  ·rw[e]at hlt;omega
  ·omega
 have hcf:¬Anc o c (f c):=fun h=>by
  have:=(I.anc h hfok).2
  rcases this with e | e
  ·rw[←e]at f3;omega
  ·omega
 have okm : ∀x,Ok Pr x→Ok (add Pr c) x:=fun x h=>h.imp id .inr
 have up_ne : ∀b,b≠c→upd o c q b=o b:=fun b hb=>by unfold upd;rw[if_neg hb]
 have up_c:upd o c q c=q:=by simp[upd]
 have hpc : ∀b,Ok Pr b→Anc o c b→Pr c:=fun b hb h=>((I.anc h hb).1).resolve_left hc
 have mono : ∀b,Ok Pr b→∀x,Anc (upd o c q) x b→Anc o x b:=by
  intro b hb x h
  by_cases hcb:Anc o c b
  ·have hp:=hpc b hb hcb
   rcases(I.below hp hq hcb hb).1 h with⟨h1,_⟩ | h1
   ·exact h1
   ·exact(Anc.up hc (I.K c hp x ((T.q x).1 h1))).trans hcb
  ·exact(jk hcb).1 h
 have stay : ∀b,Ok Pr b→∀x,Anc o x b→(Anc o c b→Anc o c x∨Anc o x q)→Anc (upd o c q) x b:=by
  intro b hb x h h2
  by_cases hcb:Anc o c b
  ·refine(I.below (hpc b hb hcb) hq hcb hb).2 ?_
   rcases h2 hcb with h3 | h3
   ·exact .inl ⟨h,h3⟩
   ·exact .inr h3
  ·exact(jk hcb).2 h
 have domc : ∀n b,r b≤n→Ok Pr b→Anc o c b→∀d,D d b→r d<r c→D d c:=by
  intro n
  induction n with
  | zero=>
   intro b hb hok hcb d hd hlt
   have:=(I.anc hcb hok).2
   rcases this with rfl | h
   ·exact hd
   ·omega
  | succ n ih=>
   intro b hb hok hcb d hd hlt
   by_cases e:c=b
   ·subst e;exact hd
   ·have hb0:b≠0:=fun e0=>by subst e0;exact e (qB.1 hcb)
    have hpb:=hok.resolve_left hb0
    have hcb':Anc o c (o b):=((mg hb0).1 hcb).resolve_left e
    obtain⟨g1,g2,g3⟩:=C.hf b (I.pr b hpb).1 hb0
    have hlb:=(I.anc hcb hok).2
    have hdb:d≠b:=fun e2=>by subst e2;omega
    exact ih (f b) (by omega) (I.fok b hpb) (I.FP b hpb c hcb' (by omega)) d (C.d1 d b (f b) hd hdb g2 g1) hlt
 have domq : ∀d,D d c→d≠c→Anc o d q:=by
  intro d hd hne
  refine(T.q d).2 fun a ha hRa hoka=>?_
  exact I.dom C hoka (C.d1 d c a hd hne ha hRa)
 refine⟨?_,?_,?_,?_,?_,?_,?_⟩
 ·rintro b (rfl | hb)
  ·rw[up_c];exact⟨hR,hc,okm _ T.ok,hlt⟩
  ·by_cases e:b=c
   ·subst e;rw[up_c];exact⟨hR,hc,okm _ T.ok,hlt⟩
   ·rw[up_ne b e]
    obtain⟨h1,h2,h3,h4⟩:=I.pr b hb
    exact⟨h1,h2,okm _ h3,h4⟩
 ·intro b hRb hb0 hlt
  by_cases e:r b=k
  ·exact .inl (C.inj b c hRb hR (by omega))
  ·exact .inr (I.all b hRb hb0 (by omega))
 ·rintro b (rfl | hb)
  ·exact okm _ hfok
  ·exact okm _ (I.fok b hb)
 ·intro b hb x hx
  have hx' : ∀a,E a b→R a→Ok Pr a→Anc o x a:=fun a h1 h2 h3=>mono a h3 x (hx a h1 h2 (okm a h3))
  by_cases e:b=c
  ·subst e
   rw[up_c,jk hq]
   exact(T.q x).2 hx'
  ·have hpb:Pr b:=hb.resolve_left e
   rw[up_ne b e]
   obtain⟨h1,h2,h3,h4⟩:=I.pr b hpb
   have hxo:=I.K b hpb x hx'
   refine stay (o b) h3 x hxo fun hco=>?_
   rcases Anc.total hxo hco with h5 | h5
   ·-- x above c: by the one ahead of b
    obtain⟨g1,g2,g3⟩:=C.hf b h1 h2
    have hcf2:=I.FP b hpb c hco (by omega)
    have hxf:=hx (f b) g2 g1 (okm _ (I.fok b hpb))
    rcases(I.below (hpc _ h3 hco) hq hcf2 (I.fok b hpb)).1 hxf with⟨_,h6⟩ | h6
    ·exact .inl h6
    ·exact .inr h6
   ·exact .inl h5
 ·intro b hb y hy hky
  by_cases e:b=c
  ·subst e
   rw[up_c,jk hq]at hy
   exact(jk hcf).2 (hy.trans hqf)
  ·have hpb:Pr b:=hb.resolve_left e
   rw[up_ne b e]at hy
   obtain⟨h1,h2,h3,h4⟩:=I.pr b hpb
   have hyf:=I.FP b hpb y (mono _ h3 y hy) (by omega)
   refine stay (f b) (I.fok b hpb) y hyf fun hcf2=>?_
   rcases Anc.total hyf hcf2 with h5 | h5
   ·exfalso
    have:=(I.anc h5 (.inr (hpc _ (I.fok b hpb) hcf2))).2
    rcases this with e2 | e2
    ·subst e2;omega
    ·omega
   ·exact .inl h5
 ·intro b hb hlt
  by_cases e:b=c
  ·subst e
   rw[up_c]
   exact(jk hcf).2 hqf
  ·have hpb:Pr b:=hb.resolve_left e
   rw[up_ne b e]
   obtain⟨h1,h2,h3,h4⟩:=I.pr b hpb
   obtain⟨g1,g2,g3⟩:=C.hf b h1 h2
   have hbk:r b<k:=by
    rcases Nat.lt_or_ge (r b) k with h | h
    ·exact h
    ·exact absurd (C.inj b c h1 hR (by omega)) e
   have h5:=I.FP2 b hpb hbk
   refine(jk fun hcf2=>?_).2 h5
   have:=(I.anc hcf2 (I.fok b hpb)).2
   rcases this with e2 | e2
   ·rw[←e2]at g3;omega
   ·omega
 ·intro b hb d hd hne
  by_cases e:b=c
  ·subst e
   rw[up_c,jk hq]
   exact domq d hd hne
  ·have hpb:Pr b:=hb.resolve_left e
   rw[up_ne b e]
   obtain⟨h1,h2,h3,h4⟩:=I.pr b hpb
   have hdo:=I.S b hpb d hd hne
   refine stay (o b) h3 d hdo fun hco=>?_
   rcases Anc.total hdo hco with h5 | h5
   ·have hpcc:=hpc _ h3 hco
    rcases(I.anc h5 (.inr hpcc)).2 with e2 | e2
    ·subst e2;exact .inl .self
    ·exact .inr (domq d (domc (r b) b (Nat.le_refl _) (.inr hpb) (.up h2 hco) d hd e2) fun e3=>by subst e3;omega)
   ·exact .inl h5
theorem Inv.again(I:Inv R r E f D k o Pr)(hk : ∀b,R b→r b<k):Inv R r E f D 0 o Pr:=by
 refine⟨I.pr,fun b hR h0 h=>I.all b hR h0 (hk b hR),I.fok,I.K,fun b hb y hy _=>?_,fun b _ h=>absurd h (by omega),I.S⟩
 exact hy.trans (I.FP2 b hb (hk b (I.pr b hb).1))
theorem Inv.start:Inv R r E f D 0 o (fun _=>False):=
 ⟨fun _ h=>h.elim,fun _ _ _ h=>absurd h (by omega),fun _ h=>h.elim,fun _ h=>h.elim,fun _ h=>h.elim,fun _ h=>h.elim,fun _ h=>h.elim⟩
theorem Inv.Iq(I:Inv R r E f D k o Pr){c q:Nat}(T:Turn R r E o Pr c q)(hp:Pr c):q=o c∨r q<r (o c):=by
 have:=I.K c hp q ((T.q q).1 .self)
 exact(I.anc this (I.pr c hp).2.2.1).2
end
end Go.Proofs.YtbkdlhkoiagbbaaGreat.Chk
namespace Go.Proofs.YtbkdlhkoiagbbaaGreat
open Go Go.Lft
section
open Go Go.Lft Chk
variable{n:Nat}
theorem Dx{β:Type}{f k:Nat→β→β}(I:β→Prop)(h : ∀i x,i<n→I x→f i x=k i x)(hI : ∀i x,i<n→I x→I (f i x)){x:β}(hx:I x):up f n x=up k n x:=by
 have key : ∀m,m≤n→up f m x=up k m x∧I (up f m x):=by
  intro m
  induction m with
  | zero=>exact fun _=>⟨rfl,hx⟩
  | succ m ih=>
   intro hm
   obtain⟨h1,h2⟩:=ih (by omega)
   exact⟨by rw[up,up,←h1,h m _ (by omega) h2],hI _ _ (by omega) h2⟩
 exact(key n (Nat.le_refl _)).1
theorem rX {nx nx':Int→List Int} {m:Nat} (hnx : ∀a:Int,0≤a→a<m→nx a=nx' a∧∀y∈nx a,0≤y∧y<m) : ∀(n:Nat) (a:Int) (s:List Bool × List Int),0≤a→a<m→iT nx n a s=iT nx' n a s
 | 0,_,_,_,_=>rfl
 | n+1,a,s,h0,h1=>by
  obtain⟨e,hr⟩:=hnx a h0 h1
  rw[jx,jx,←e]
  have:up (cg nx n a) (nx a).length (s.1.set a.toNat true,s.2)=up (cg nx' n a) (nx a).length (s.1.set a.toNat true,s.2):=by
   refine Dx (fun _=>True) (fun i x hi _=>?_) (fun _ _ _ _=>trivial) trivial
   unfold cg
   rw[←e]
   obtain⟨g0,g1⟩:=hr _ (bw hi)
   rw[rX hnx n _ x g0 g1]
  rw[this]
theorem uW{g:Gr}{a y:Int}(h:y∈cS g a):0≤y∧y<g.length:=by
 have:=(dX.1 (dO.1 h)).1;omega
theorem Bc{g:Gr}{a:Int}(h0:0≤a)(h1:a<g.length):nx (cw g) a=cS g a:=by
 unfold nx
 rw[kB (by omega),Int.toNat_of_nonneg h0]
theorem EG{g:Gr}:a7 g=jY (cS g) g.length:=by
 unfold a7 jY
 split
 ·rfl
 ·rw[rX (m:=g.length) (fun a h0 h1=>⟨Bc h0 h1,fun y hy=>uW (by rwa [Bc h0 h1]at hy)⟩) _ _ _ (by omega) (by omega)]
structure Ord (g:Gr) (order:List Int):Prop where
 nodup:order.Nodup
 mem : ∀x:Nat,(x:Int)∈order↔Re g (-1) x
 rng : ∀x∈order,0≤x∧x<g.length
 head:order[0]? = some 0
 par : ∀x∈order,x≠0→∃p∈order,db g p x=true∧order.idxOf p<order.idxOf x
 ret : ∀x∈order,∀y∈order,db g x y=true→order.idxOf y≤order.idxOf x→∃l,Adv (cS g) l y x∧∀u v,Bef l u v→order.idxOf v<order.idxOf u
theorem rn{l:List Int}(hn:l.Nodup){u v:Int}(h:Bef l u v):l.reverse.idxOf v<l.reverse.idxOf u:=by
 obtain⟨p,q,rfl,hv⟩:=h
 have hu:u∉q:=by
  have:=(List.nodup_append.1 hn).2.1
  exact(List.nodup_cons.1 this).1
 rw[List.reverse_append,List.reverse_cons,List.append_assoc]
 have h1:(q.reverse++([u]++p.reverse)).idxOf v<q.reverse.length:=by
  rw[List.idxOf_append,if_pos (by simpa using hv)]
  exact List.idxOf_lt_length_of_mem (by simpa using hv)
 have h2:(q.reverse++([u]++p.reverse)).idxOf u=q.reverse.length:=by
  rw[List.idxOf_append,if_neg (by simpa using hu)]
  simp
 omega
theorem jg{g:Gr}(hg:0<g.length):Ord g (a7 g):=by
 have hT:=vN (nx:=cS g) (m:=g.length) (fun a _ _ y hy=>uW hy) g.length 0 (List.replicate g.length false,[]) (by omega) (by omega) (by simp) (aq (by simpa using hg)) (by simp[cW])
 have ho:a7 g=(iT (cS g) g.length 0 (List.replicate g.length false,[])).2.reverse:=by
  rw[EG,jY,if_neg (by omega)]
 obtain⟨new,T⟩:=hT
 have hout:=T.out
 simp only[List.nil_append]at hout
 rw[ho,hout]
 have hv0 : ∀x:Int,¬vis (List.replicate g.length false,([]:List Int)) x:=by
  intro x h
  unfold vis at h
  simp only at h
  rcases Nat.lt_or_ge x.toNat g.length with h1 | h1
  ·rw[aq h1]at h;cases h
  ·rw[aV (by simpa using h1)]at h;cases h
 have hvis : ∀x,0≤x→(vis (iT (cS g) g.length 0 (List.replicate g.length false,[])) x↔x∈new):=fun x hx=>by
  rw[T.visd x hx]
  exact⟨fun h=>h.resolve_left (hv0 x),.inr⟩
 obtain⟨t,ht⟩:=T.last
 have h0:(0:Int)∈new:=by rw[ht];simp
 have hre : ∀x∈new,Re g (-1) x.toNat:=by
  intro x hx
  have:=T.desc x hx
  clear hx
  induction this with
  | self=>exact .root hg (by decide)
  | step _ h1 h2 ih=>
   have hpr:=T.fresh _ h2.mem.2
   have hqr:=T.fresh _ h2.mem.1
   have he:=dO.1 h1
   refine .step ih ?_ (by omega)
   rwa [Int.toNat_of_nonneg hpr.2.1,Int.toNat_of_nonneg hqr.2.1]
 refine⟨by simpa[List.Nodup,List.pairwise_reverse,ne_comm]using T.nodup,fun x=>?_,fun x hx=>(T.fresh x (by simpa using hx)).2,?_,?_,?_⟩
 ·rw[List.mem_reverse]
  constructor
  ·intro h;simpa using hre x h
  ·intro h
   induction h with
   | root _ _=>exact h0
   | step _ he _ ih=>
    exact(hvis _ (by omega)).1 (T.clos _ ih _ (dO.2 he))
 ·rw[ht,List.reverse_append];rfl
 ·intro x hx hne
  obtain⟨p,hp,h1,h2⟩:=T.par x (by simpa using hx) hne
  exact⟨p,by simpa using hp,dO.1 h1,rn T.nodup h2⟩
 ·intro x hx y hy he hle
  rcases T.ret x (by simpa using hx) y (dO.2 he) (by simpa using hy)with h | h
  ·have:=rn T.nodup h
   omega
  ·exact⟨new,h,fun u v huv=>rn T.nodup huv⟩
theorem rK{order:List Int}(hn:order.Nodup)(hr : ∀x∈order,0≤x∧x<(n:Int)){x:Nat}(hx:x<n):nth (ff n order) x=if(x:Int)∈order then(order.idxOf (x:Int):Int) else -1:=by
 have key : ∀k,k≤order.length→(up (fun i l=>l.set (nth order i).toNat (i:Int)) k (List.replicate n (-1))).length=n∧nth (up (fun i l=>l.set (nth order i).toNat (i:Int)) k (List.replicate n (-1))) x=if(x:Int)∈order.take k then(order.idxOf (x:Int):Int) else -1:=by
  intro k
  induction k with
  | zero=>intro _;exact⟨by simp[up],by rw[up,aq hx];simp⟩
  | succ k ih=>
   intro hk
   obtain⟨h1,h2⟩:=ih (by omega)
   rw[up]
   refine⟨by simpa using h1,?_⟩
   rw[aH (by omega),List.take_succ_eq_append_getElem (by omega),h2]
   have hmem:order[k]∈order:=List.getElem_mem _
   have hrk:=hr _ hmem
   rw[ak (show k<order.length by omega)]
   by_cases e:order[k].toNat=x
   ·have e2:order[k]=(x:Int):=by omega
    rw[if_pos e,if_pos (by rw[←e2];exact List.mem_append_right _ (List.mem_singleton.2 rfl)),←e2,List.Nodup.idxOf_getElem hn]
   ·rw[if_neg e]
    have e2:¬(x:Int)=order[k]:=fun h=>e (by omega)
    simp only[List.mem_append,List.mem_singleton,e2,or_false]
 have:=(key order.length (Nat.le_refl _)).2
 rw[List.take_of_length_le (Nat.le_refl _)]at this
 exact this
end
section
open Go Go.Lft Chk
def st (out:List Int):Nat→Nat:=fun b=>(nth out b).toNat
def pd (out:List Int):Nat→Prop:=fun b=>b<out.length∧0≤nth out b
def rk (g:Gr) (x:Nat):Nat:=(a7 g).idxOf (x:Int)
def Eg (g:Gr) (a b:Nat):Prop:=db g a b=true
def Dm (g:Gr) (d b:Nat):Prop:=domC g d b=true
def Rg (g:Gr) (x:Nat):Prop:=Re g (-1) x
section
variable {g:Gr}
theorem Bh{x:Nat}(h:Rg g x):rk g x<(a7 g).length:=List.idxOf_lt_length_of_mem (((jg (Nat.lt_of_le_of_lt (Nat.zero_le _) h.lt)).mem x).2 h)
theorem Rg.pos{x:Nat}(h:Rg g x):0<g.length:=Nat.lt_of_le_of_lt (Nat.zero_le _) h.lt
theorem Fm{x:Nat}(h:Rg g x):rk g x<g.length:=Nat.lt_of_lt_of_le (Bh h) pY
variable{b:Nat}
theorem AN{a:Nat}(ha:Rg g a)(hb:Rg g b)(h:rk g a=rk g b):a=b:=by
 have O:=jg ha.pos
 have h1:=List.getElem_idxOf (Bh ha)
 have h2:=List.getElem_idxOf (Bh hb)
 have:(a:Int)=(b:Int):=by rw[←h1,←h2];congr 1
 omega
theorem sA(hg:0<g.length):rk g 0=0:=by
 have O:=jg hg
 unfold rk
 have hl:0<(a7 g).length:=by
  have:=O.head
  rcases Nat.eq_zero_or_pos (a7 g).length with h | h
  ·rw[List.eq_nil_of_length_eq_zero h]at this;cases this
  ·exact h
 have h0:=O.head
 rw[List.getElem?_eq_getElem hl]at h0
 have h1:(a7 g)[0]=0:=Option.some.inj h0
 have:=List.Nodup.idxOf_getElem O.nodup 0 hl
 rw[h1]at this
 exact this
theorem qQ{x:Nat}(h:Rg g x):nth (ff g.length (a7 g)) x=(rk g x:Int):=by
 have O:=jg h.pos
 rw[rK O.nodup O.rng h.lt,if_pos ((O.mem x).2 h)];rfl
theorem AA{x:Nat}(hx:x<g.length)(h:¬Rg g x):nth (ff g.length (a7 g)) x=-1:=by
 have O:=jg (g:=g) (by omega)
 rw[rK O.nodup O.rng hx,if_neg fun e=>h ((O.mem x).1 e)]
theorem F8(hg:0<g.length): ∃f:Nat→Nat,∀x,Rg g x→x≠0→Rg g (f x)∧Eg g (f x) x∧rk g (f x)<rk g x:=by
 have O:=jg hg
 have : ∀x,∃p,Rg g x→x≠0→Rg g p∧Eg g p x∧rk g p<rk g x:=by
  intro x
  by_cases h:Rg g x∧x≠0
  ·obtain⟨p,hp,h1,h2⟩:=O.par x ((O.mem x).2 h.1) (by omega)
   have hr:=O.rng p hp
   have e:((p.toNat:Nat):Int)=p:=Int.toNat_of_nonneg hr.1
   refine⟨p.toNat,fun _ _=>⟨(O.mem _).1 (by rw[e];exact hp),by unfold Eg;rw[e];exact h1,by unfold rk;rw[e];exact h2⟩⟩
  ·exact⟨0,fun h1 h2=>absurd ⟨h1,h2⟩ h⟩
 exact⟨fun x=>(this x).choose,fun x=>(this x).choose_spec⟩
theorem IZ(hg:0<g.length){f:Nat→Nat}(hf : ∀x,Rg g x→x≠0→Rg g (f x)∧Eg g (f x) x∧rk g (f x)<rk g x):Ch (Rg g) (rk g) (Eg g) f (Dm g) where
 inj:=fun a b ha hb h=>AN ha hb h
 R0:=.root hg (by decide)
 r0:=sA hg
 hf:=hf
 d1:=fun d b a hd hne he ha=>by
  obtain⟨h1,h2,h3⟩:=nT.1 hd
  exact nT.2 ⟨h1,ha,fun h=>h3 (.step h he (by omega))⟩
 d0:=fun d hd=>by
  obtain⟨h1,h2,h3⟩:=nT.1 hd
  rcases Nat.eq_zero_or_pos d with h | h
  ·exact h
  ·exact absurd (.root hg (by omega)) h3
structure Good (g:Gr) (f:Nat→Nat) (k:Nat) (out:List Int):Prop where
 len:out.length=g.length
 rng : ∀b,b<g.length→nth out b=-1∨(0≤nth out b∧nth out b<g.length)
 inv:Inv (Rg g) (rk g) (Eg g) f (Dm g) k (st out) (pd out)
variable {f:Nat→Nat} {k:Nat} {out:List Int}
theorem Good.yw(G:Good g f k out)(C:Ch (Rg g) (rk g) (Eg g) f (Dm g)){x:Nat}(h:Ok (pd out) x):Rg g x∧x<g.length:=⟨G.inv.okR C h,(G.inv.okR C h).lt⟩
theorem nu (G:Good g f k out) (C:Ch (Rg g) (rk g) (Eg g) f (Dm g)) : ∀(fuel a b:Nat),Ok (pd out) a→Ok (pd out) b→rk g a+rk g b<fuel→
  ∃c:Nat,jD out (ff g.length (a7 g)) fuel a b=some (c:Int)∧Ok (pd out) c∧∀x,Anc (st out) x c↔Anc (st out) x a∧Anc (st out) x b
 | 0,a,b,_,_,h=>by omega
 | fuel+1,a,b,ha,hb,h=>by
  obtain⟨ra,la⟩:=G.yw C ha
  obtain⟨rb,lb⟩:=G.yw C hb
  have hg:=ra.pos
  have hnl:(ff g.length (a7 g)).length=g.length:=by rw[ff,xN List.length (fun _ _=>by simp)];simp
  have hol:=G.len
  rw[jD,if_pos (by omega),Int.toNat_natCast,Int.toNat_natCast,qQ ra,qQ rb]
  have step : ∀a b:Nat,Ok (pd out) a→Ok (pd out) b→rk g b<rk g a→a≠0∧nth out a=((st out a:Nat):Int)∧Ok (pd out) (st out a)∧rk g (st out a)<rk g a∧∀x,Anc (st out) x (st out a)∧Anc (st out) x b↔Anc (st out) x a∧Anc (st out) x b:=by
   intro a b ha hb hlt
   have ha0:a≠0:=fun e=>by subst e;rw[sA hg]at hlt;omega
   have hpa:=ha.resolve_left ha0
   obtain⟨_,_,h3,h4⟩:=G.inv.pr a hpa
   refine⟨ha0,(Int.toNat_of_nonneg hpa.2).symm,h3,h4,fun x=>⟨fun⟨h5,h6⟩=>⟨.up ha0 h5,h6⟩,fun⟨h5,h6⟩=>⟨?_,h6⟩⟩⟩
   rcases(mg ha0).1 h5 with rfl | h7
   ·have:=(G.inv.anc h6 hb).2
    rcases this with e | e
    ·subst e;omega
    ·omega
   ·exact h7
  by_cases h1:rk g b<rk g a
  ·rw[if_pos (by omega)]
   obtain⟨ha0,e,h3,h4,h5⟩:=step a b ha hb h1
   rw[e]
   obtain⟨c,h6,h7,h8⟩:=nu G C fuel (st out a) b h3 hb (by omega)
   exact⟨c,h6,h7,fun x=>(h8 x).trans (h5 x)⟩
  ·rw[if_neg (by omega)]
   by_cases h2:rk g a<rk g b
   ·rw[if_pos (by omega)]
    obtain⟨hb0,e,h3,h4,h5⟩:=step b a hb ha h2
    rw[e]
    obtain⟨c,h6,h7,h8⟩:=nu G C fuel a (st out b) ha h3 (by omega)
    exact⟨c,h6,h7,fun x=>(h8 x).trans (by rw[and_comm,h5 x,and_comm])⟩
   ·rw[if_neg (by omega)]
    have e:a=b:=AN ra rb (by omega)
    subst e
    exact⟨a,rfl,ha,fun x=>by simp⟩
def Bst (out:List Int) (best:Int) (Q:Nat→Prop):Prop:=
 (best=-1∧∀a,¬Q a)∨∃c:Nat,best=(c:Int)∧Ok (pd out) c∧(∃a,Q a)∧∀x,Anc (st out) x c↔∀a,Q a→Anc (st out) x a
def Cons (g:Gr) (out:List Int) (a:Nat):Prop:=Rg g a∧Ok (pd out) a
theorem oH{best:Int}{Q Q':Nat→Prop}(h : ∀a,Q a↔Q' a)(b:Bst out best Q):Bst out best Q':=by
 have:Q=Q':=funext fun a=>propext (h a)
 rw[←this];exact b
theorem qe (G:Good g f k out) (C:Ch (Rg g) (rk g) (Eg g) f (Dm g)) : ∀(l:List Int) (best:Int) (Q:Nat→Prop),Bst out best Q→(∀a∈l,0≤a∧a<(g.length:Int))→
  ∃best',bstS out (ff g.length (a7 g)) g.length l best=some best'∧Bst out best' fun a=>Q a∨((a:Int)∈l∧Cons g out a)
 | [],best,Q,hB,_=>⟨best,rfl,oH (fun a=>by simp) hB⟩
 | a::l,best,Q,hB,hl=>by
  obtain⟨h0,h1⟩:=hl a (List.mem_cons_self ..)
  have hl':=fun x hx=>hl x (List.mem_cons_of_mem _ hx)
  obtain⟨n,rfl⟩:=Int.eq_ofNat_of_zero_le h0
  have hn:n<g.length:=by omega
  have hol:=G.len
  rw[bstS,if_pos ⟨h0,h1⟩,Int.toNat_natCast]
  have hcons:(nth (ff g.length (a7 g)) n<0∨((n:Int)≠0∧nth out n<0))↔¬Cons g out n:=by
   by_cases hr:Rg g n
   ·rw[qQ hr]
    constructor
    ·rintro(h | ⟨h2,h3⟩)
     ·omega
     ·rintro⟨_,h4 | h4⟩
      ·omega
      ·have:=h4.2;omega
    ·intro h
     right
     refine⟨fun e=>h ⟨hr,.inl (by omega)⟩,?_⟩
     rcases Int.lt_or_le (nth out n) 0 with h2 | h2
     ·exact h2
     ·exact absurd ⟨hr,.inr ⟨by omega,h2⟩⟩ h
   ·rw[AA hn hr]
    exact⟨fun _ h=>hr h.1,fun _=>.inl (by omega)⟩
  by_cases hc:Cons g out n
  ·rw[if_neg fun h=>hcons.1 h hc]
   rcases hB with⟨rfl,hQ⟩ | ⟨c,rfl,hok,hex,hq⟩
   ·rw[if_pos (by decide)]
    obtain⟨b',h2,h3⟩:=qe G C l n (fun a=>a=n) (.inr ⟨n,rfl,hc.2,⟨n,rfl⟩,fun x=>by simp⟩) hl'
    refine⟨b',h2,oH (fun a=>?_) h3⟩
    constructor
    ·rintro(rfl | ⟨h4,h5⟩)
     ·exact .inr ⟨List.mem_cons_self ..,hc⟩
     ·exact .inr ⟨List.mem_cons_of_mem _ h4,h5⟩
    ·rintro(h4 | ⟨h4,h5⟩)
     ·exact absurd h4 (hQ a)
     ·rcases List.mem_cons.1 h4 with h4 | h4
      ·exact .inl (by omega)
      ·exact .inr ⟨h4,h5⟩
   ·rw[if_neg (by omega)]
    obtain⟨rc,_⟩:=G.yw C hok
    obtain⟨d,h2,h3,h4⟩:=nu G C (2*g.length+2) c n hok hc.2 (by have:=Fm rc;have:=Fm hc.1;omega)
    rw[h2]
    simp only[Option.bind_some]
    obtain⟨b',h5,h6⟩:=qe G C l d (fun a=>Q a∨a=n) (.inr ⟨d,rfl,h3,⟨n,.inr rfl⟩,fun x=>by
     rw[h4,hq]
     constructor
     ·rintro⟨h7,h8⟩ a (ha | rfl)
      ·exact h7 a ha
      ·exact h8
     ·intro h7
      exact⟨fun a ha=>h7 a (.inl ha),h7 n (.inr rfl)⟩⟩) hl'
    refine⟨b',h5,oH (fun a=>?_) h6⟩
    constructor
    ·rintro((h7 | rfl) | ⟨h7,h8⟩)
     ·exact .inl h7
     ·exact .inr ⟨List.mem_cons_self ..,hc⟩
     ·exact .inr ⟨List.mem_cons_of_mem _ h7,h8⟩
    ·rintro(h7 | ⟨h7,h8⟩)
     ·exact .inl (.inl h7)
     ·rcases List.mem_cons.1 h7 with h7 | h7
      ·exact .inl (.inr (by omega))
      ·exact .inr ⟨h7,h8⟩
  ·rw[if_pos (hcons.2 hc)]
   obtain⟨b',h2,h3⟩:=qe G C l best Q hB hl'
   refine⟨b',h2,oH (fun a=>?_) h3⟩
   constructor
   ·rintro(h4 | ⟨h4,h5⟩)
    ·exact .inl h4
    ·exact .inr ⟨List.mem_cons_of_mem _ h4,h5⟩
   ·rintro(h4 | ⟨h4,h5⟩)
    ·exact .inl h4
    ·rcases List.mem_cons.1 h4 with h6 | h6
     ·exact absurd ((show a=n by omega)▸h5) hc
     ·exact .inr ⟨h6,h5⟩
theorem CB(G:Good g f k out)(C:Ch (Rg g) (rk g) (Eg g) f (Dm g)){c:Nat}(hR:Rg g c)(hc:c≠0)(hk:rk g c=k):
  ∃q:Nat,bstS out (ff g.length (a7 g)) g.length (nth (cd g) c) (-1)=some (q:Int)∧Turn (Rg g) (rk g) (Eg g) (st out) (pd out) c q:=by
 have hlt:=hR.lt
 obtain⟨best,h1,h2⟩:=qe G C (nth (cd g) c) (-1) (fun _=>False) (.inl ⟨rfl,fun _ h=>h⟩) (ry (fun e he=>(lV he).1) (fun i x hx=>by
  rcases Nat.lt_or_ge i g.length with hi | hi
  ·rw[aq hi]at hx;cases hx
  ·rw[aV (by simpa using hi)]at hx;cases hx) c)
 have hm : ∀a:Nat,(a:Int)∈nth (cd g) c↔Eg g a c:=fun a=>by
  have:=CT (g:=g) (a:=a) (b:=c) ⟨by omega,by omega⟩
  rwa [Int.toNat_natCast]at this
 obtain⟨f1,f2,f3⟩:=C.hf c hR hc
 rcases h2 with⟨_,h3⟩ | ⟨q,rfl,hok,_,hq⟩
 ·exact absurd (.inr ⟨(hm _).2 f2,f1,G.inv.fc C hR hc hk⟩) (h3 (f c))
 ·refine⟨q,h1,hok,fun x=>?_⟩
  rw[hq]
  constructor
  ·intro h a h4 h5 h6
   exact h a (.inr ⟨(hm a).2 h4,h5,h6⟩)
  ·rintro h a (h4 | ⟨h4,h5,h6⟩)
   ·exact h4.elim
   ·exact h a ((hm a).1 h4) h5 h6
end
end
section
open Go Go.Lft Chk
def mT (w:Nat→Nat):Nat→Nat
 | 0=>0
 | n+1=>mT w n+w n
theorem CZ {w w':Nat→Nat} : ∀{n:Nat},(∀b,b<n→w' b≤w b)→mT w' n≤mT w n
 | 0,_=>Nat.le_refl _
 | n+1,h=>Nat.add_le_add (CZ fun b hb=>h b (by omega)) (h n (by omega))
theorem EF {w w':Nat→Nat} {c:Nat} : ∀{n:Nat},(∀b,b<n→w' b≤w b)→c<n→w' c<w c→mT w' n<mT w n
 | 0,_,h,_=>by omega
 | n+1,h,hc,hlt=>by
  rcases Nat.lt_or_ge c n with h1 | h1
  ·have:=EF (n:=n) (fun b hb=>h b (by omega)) h1 hlt
   have:=h n (by omega)
   simp only[mT];omega
  ·obtain rfl:c=n:=by omega
   have:=CZ (n:=c) fun b hb=>h b (by omega)
   simp only[mT];omega
theorem vu {w:Nat→Nat} {m:Nat} : ∀{n:Nat},(∀b,b<n→w b≤m)→mT w n≤n*m
 | 0,_=>by simp[mT]
 | n+1,h=>by
  have:=vu (n:=n) fun b hb=>h b (by omega)
  have:=h n (by omega)
  rw[mT,Nat.succ_mul];omega
section
variable {g:Gr} {f:Nat→Nat} {k:Nat} {out:List Int}
def wt (g:Gr) (out:List Int) (b:Nat):Nat:=if nth out b<0 then g.length else rk g (st out b)
def mu (g:Gr) (out:List Int):Nat:=mT (wt g out) g.length
theorem Good.set (G:Good g f k out) (C:Ch (Rg g) (rk g) (Eg g) f (Dm g)) {c q:Nat} (hR:Rg g c) (hc:c≠0) (hk:rk g c=k) (T:Turn (Rg g) (rk g) (Eg g) (st out) (pd out) c q) (ch:Bool) :
  Good g f (k+1) (setS out ch c q).1∧mu g (setS out ch c q).1≤mu g out∧((setS out ch c q).2=true→ch=true∨mu g (setS out ch c q).1<mu g out)∧((setS out ch c q).2=false→ch=false∧(setS out ch c q).1=out∧st out c=q∧pd out c):=by
 have hlt:=hR.lt
 have hol:=G.len
 obtain⟨hq,hqn⟩:=G.yw C T.ok
 have I:=G.inv.turn C hR hc hk T
 by_cases e:nth out c=q
 ·have hs:setS out ch c q=(out,ch):=by simp[setS,e]
  rw[hs]
  have hst:upd (st out) c q=st out:=by
   funext b;unfold upd
   split
   ·rename_i hb;subst hb;simp[st,e]
   ·rfl
  have hpd:add (pd out) c=pd out:=by
   funext b
   refine propext ⟨fun h=>?_,.inr⟩
   rcases h with rfl | h
   ·exact⟨by omega,by omega⟩
   ·exact h
  rw[hst,hpd]at I
  exact⟨⟨G.len,G.rng,I⟩,Nat.le_refl _,.inl,fun h=>⟨h,rfl,by simp[st,e],by omega,by omega⟩⟩
 ·have hs:setS out ch c q=(out.set c q,true):=by simp[setS,e]
  rw[hs]
  have hn : ∀b,b<g.length→nth (out.set c q) b=if c=b then(q:Int) else nth out b:=fun b hb=>aH (by omega)
  have hst:st (out.set c q)=upd (st out) c q:=by
   funext b;unfold upd st
   rcases Nat.lt_or_ge b out.length with hb | hb
   ·rw[aH hb]
    by_cases h:c=b
    ·rw[if_pos h,if_pos h.symm];simp
    ·rw[if_neg h,if_neg (Ne.symm h)]
   ·rw[aV (by simpa using hb),aV hb,if_neg (by omega)]
  have hpd:pd (out.set c q)=add (pd out) c:=by
   funext b
   refine propext ?_
   unfold pd add
   rw[List.length_set]
   constructor
   ·rintro⟨h1,h2⟩
    rw[aH h1]at h2
    by_cases h:c=b
    ·exact .inl h.symm
    ·rw[if_neg h]at h2;exact .inr ⟨h1,h2⟩
   ·rintro(rfl | ⟨h1,h2⟩)
    ·exact⟨by omega,by rw[aH (by omega),if_pos rfl];omega⟩
    ·refine⟨h1,?_⟩
     rw[aH h1]
     split
     ·omega
     ·exact h2
  have hw : ∀b,b<g.length→wt g (out.set c q) b≤wt g out b∧(b=c→wt g (out.set c q) b<wt g out b):=by
   intro b hb
   by_cases h:c=b
   ·subst h
    have e1:wt g (out.set c q) c=rk g q:=by
     unfold wt
     rw[hn c hb,if_pos rfl,if_neg (by omega),hst];simp[upd]
    have e2:rk g q<wt g out c:=by
     unfold wt
     split
     ·exact Fm hq
     ·rename_i h1
      have hp:pd out c:=⟨by omega,by omega⟩
      rcases G.inv.Iq T hp with h2 | h2
      ·exfalso
       have:=Int.toNat_of_nonneg hp.2
       unfold st at h2
       omega
      ·exact h2
    omega
   ·have e1:wt g (out.set c q) b=wt g out b:=by
     unfold wt st
     rw[hn b hb,if_neg h]
    exact⟨by omega,fun e=>absurd e.symm h⟩
  have hmu:mu g (out.set c q)<mu g out:=EF (fun b hb=>(hw b hb).1) hlt ((hw c hlt).2 rfl)
  refine⟨⟨by simpa using hol,fun b hb=>?_,by rw[hst,hpd];exact I⟩,by show mu g (out.set c q)≤_;omega,fun _=>.inr hmu,fun h=>by cases h⟩
  rw[hn b hb]
  split
  ·right;omega
  ·exact G.rng b hb
theorem sW (C:Ch (Rg g) (rk g) (Eg g) f (Dm g)) : ∀(l:List Int) (k:Nat) (out:List Int) (ch:Bool),l=(a7 g).drop k→1≤k→k≤(a7 g).length→Good g f k out→
  ∃out' ch',pC (ff g.length (a7 g)) (cd g) g.length l (out,ch)=some (out',ch')∧Good g f (a7 g).length out'∧mu g out'≤mu g out∧(ch'=true→ch=true∨mu g out'<mu g out)∧
   (ch'=false→ch=false∧out'=out∧∀c:Nat,(c:Int)∈l→pd out c∧Turn (Rg g) (rk g) (Eg g) (st out) (pd out) c (st out c))
 | [],k,out,ch,hl,_,hk,G=>by
  have hk2:(a7 g).length≤k:=by
   have:=congrArg List.length hl
   simp only[List.length_nil,List.length_drop]at this;omega
  obtain rfl:k=(a7 g).length:=by omega
  exact⟨out,ch,rfl,G,Nat.le_refl _,.inl,fun h=>⟨h,rfl,by simp⟩⟩
 | b::l,k,out,ch,hl,h1,hk,G=>by
  have hlt:k<(a7 g).length:=by
   have:=congrArg List.length hl
   simp only[List.length_cons,List.length_drop]at this;omega
  rw[List.drop_eq_getElem_cons hlt]at hl
  obtain⟨hb,hl2⟩:=List.cons.inj hl
  have hmem:b∈a7 g:=by rw[hb];exact List.getElem_mem _
  have hg:0<g.length:=by have:=pY (g:=g);omega
  have O:=jg hg
  have hr:=O.rng b hmem
  obtain⟨c,rfl⟩:=Int.eq_ofNat_of_zero_le hr.1
  have hR:Rg g c:=(O.mem c).1 hmem
  have hrk:rk g c=k:=by
   unfold rk;rw[hb,List.Nodup.idxOf_getElem O.nodup]
  have hc0:c≠0:=fun e=>by subst e;rw[sA hg]at hrk;omega
  obtain⟨q,h3,T⟩:=CB G C hR hc0 hrk
  rw[pC,if_pos hr,Int.toNat_natCast]
  simp only
  rw[h3]
  simp only[Option.bind_some]
  obtain⟨g1,g2,g3,g4⟩:=G.set C hR hc0 hrk T ch
  have e:setS out ch c q=((setS out ch c q).1,(setS out ch c q).2):=rfl
  rw[e]
  generalize hs1:(setS out ch c q).1=o1 at g1 g2 g3 g4
  generalize hs2:(setS out ch c q).2=c1 at g3 g4
  obtain⟨out',ch',k1,k2,k3,k4,k5⟩:=sW C l (k+1) o1 c1 hl2 (by omega) (by omega) g1
  refine⟨out',ch',k1,k2,by omega,fun h=>?_,fun h=>?_⟩
  ·rcases k4 h with h4 | h4
   ·rcases g3 h4 with h5 | h5
    ·exact .inl h5
    ·exact .inr (by omega)
   ·exact .inr (by omega)
  ·obtain⟨h4,rfl,h6⟩:=k5 h
   obtain⟨h7,rfl,h8,h9⟩:=g4 h4
   refine⟨h7,rfl,fun x hx=>?_⟩
   rcases List.mem_cons.1 hx with hx | hx
   ·obtain rfl:x=c:=by omega
    exact⟨h9,h8▸T⟩
   ·exact h6 x hx
theorem Good.one(hg:0<g.length)(G:Good g f 0 out):Good g f 1 out:=by
 have I:=G.inv
 have h0 : ∀b,Rg g b→b≠0→¬rk g b<1:=fun b hR hb h=>hb (AN hR (.root hg (by decide)) (by rw[sA hg];omega))
 exact⟨G.len,G.rng,⟨I.pr,fun b hR hb h=>absurd h (h0 b hR hb),I.fok,I.K,fun b hb y hy _=>I.FP b hb y hy (by omega),fun b hb h=>absurd h (h0 b (I.pr b hb).1 (I.pr b hb).2.1),I.S⟩⟩
structure mV (g:Gr) (f:Nat→Nat) (l:List Int):Prop where
 good:Good g f (a7 g).length l
 turn : ∀c,Rg g c→c≠0→pd l c∧Turn (Rg g) (rk g) (Eg g) (st l) (pd l) c (st l c)
theorem uY (hg:0<g.length) (C:Ch (Rg g) (rk g) (Eg g) f (Dm g)) : ∀(fuel:Nat) (out:List Int),Good g f 0 out→mu g out<fuel→
  ∃l,lO (ff g.length (a7 g)) (cd g) g.length ((a7 g).drop (min 1 (a7 g).length)) fuel out=some l∧mV g f l
 | 0,_,_,h=>by omega
 | fuel+1,out,G,h=>by
  have O:=jg hg
  have hlen:0<(a7 g).length:=by
   rcases Nat.eq_zero_or_pos (a7 g).length with h | h
   ·have:=O.head;rw[List.eq_nil_of_length_eq_zero h]at this;cases this
   ·exact h
  have hm:min 1 (a7 g).length=1:=by omega
  rw[lO,hm]
  obtain⟨out',ch',k1,k2,k3,k4,k5⟩:=sW C ((a7 g).drop 1) 1 out false rfl (Nat.le_refl _) hlen (G.one hg)
  rw[k1]
  simp only[Option.bind_some]
  cases ch' with
  | true=>
   rw[if_pos rfl]
   have:=uY hg C fuel out' ⟨k2.len,k2.rng,k2.inv.again fun b hb=>Bh hb⟩ (by rcases k4 rfl with h1 | h1;cases h1;omega)
   rwa [hm]at this
  | false=>
   rw[if_neg (by simp)]
   obtain⟨_,rfl,h6⟩:=k5 rfl
   refine⟨_,rfl,k2,fun c hR hc=>h6 c ?_⟩
   have hmem:=(O.mem c).2 hR
   obtain⟨i,hi,e⟩:=List.getElem_of_mem hmem
   have hi0:i≠0:=fun h0=>by
    subst h0
    have:=O.head
    rw[List.getElem?_eq_getElem hi]at this
    have:=Option.some.inj this
    omega
   rw[←e]
   refine List.mem_iff_getElem.2 ⟨i-1,by rw[List.length_drop];omega,?_⟩
   rw[List.getElem_drop]
   congr 1
   omega
theorem vU(hg:0<g.length): ∃f,Ch (Rg g) (rk g) (Eg g) f (Dm g)∧∃l,uZ g (g.length*g.length+1)=some l∧mV g f l:=by
 obtain⟨f,hf⟩:=F8 hg
 have C:=IZ hg hf
 refine⟨f,C,?_⟩
 refine uY hg C _ _ ⟨by simp,fun b hb=>.inl (aq hb),?_⟩ ?_
 ·have:pd (List.replicate g.length (-1))=fun _=>False:=by
   funext b
   refine propext ⟨fun⟨h1,h2⟩=>?_,fun h=>h.elim⟩
   rw[aq (by simpa using h1)]at h2
   omega
  rw[this]
  exact Inv.start
 ·have:=vu (w:=wt g (List.replicate g.length (-1))) (m:=g.length) (n:=g.length) fun b hb=>by
   unfold wt
   rw[aq hb,if_pos (by omega)]
   exact Nat.le_refl _
  unfold mu;omega
theorem mV.anc {l:List Int} (I:mV g f l) (C:Ch (Rg g) (rk g) (Eg g) f (Dm g)) {x b:Nat} (hb:Rg g b):Anc (st l) x b↔Dm g x b:=by
 have hok : ∀b,Rg g b→Ok (pd l) b:=fun b h=>by
  by_cases e:b=0
  ·exact .inl e
  ·exact .inr (I.turn b h e).1
 constructor
 ·intro h
  have hx:=(I.good.yw C (I.good.inv.anc h (hok b hb)).1).1
  refine nT.2 ⟨hx,hb,fun hre=>?_⟩
  have key : ∀b,Re g x b→¬Anc (st l) x b:=by
   intro b hre
   induction hre with
   | root h1 h2=>intro h;have:=qB.1 h;omega
   | step ha he hne ih=>
    rename_i a b
    intro h
    by_cases e:b=0
    ·subst e;have:=qB.1 h;omega
    ·have hRb:Rg g b:=.step ha.all he (by omega)
     have h3:=((mg e).1 h).resolve_left (by omega)
     exact ih (((I.turn b hRb e).2.q x).1 h3 a he ha.all (hok a ha.all))
  exact key b hre h
 ·intro h
  exact I.good.inv.dom C (hok b hb) h
end
end
section
open Go Go.Lft Chk
variable{n:Nat}
theorem Gl{p:Nat→Bool}:vh p n=true↔∃i,i<n∧p i=true:=by
 unfold vh
 induction n with
 | zero=>simp[up]
 | succ n ih=>
  rw[up,Dg,Bool.or_eq_true,ih]
  constructor
  ·rintro(⟨i,h1,h2⟩ | h)
   ·exact⟨i,by omega,h2⟩
   ·exact⟨n,by omega,h⟩
  ·rintro⟨i,h1,h2⟩
   rcases Nat.lt_or_ge i n with h | h
   ·exact .inl ⟨i,h,h2⟩
   ·obtain rfl:i=n:=by omega
    exact .inr h2
theorem AV{p:Nat→Bool}:rW p n=true↔∀i,i<n→p i=true:=by
 unfold rW
 induction n with
 | zero=>simp[up]
 | succ n ih=>
  rw[up,Bl,Bool.and_eq_true,ih]
  constructor
  ·rintro⟨h1,h2⟩ i hi
   rcases Nat.lt_or_ge i n with h | h
   ·exact h1 i h
   ·obtain rfl:i=n:=by omega
    exact h2
  ·intro h
   exact⟨fun i hi=>h i (by omega),h n (by omega)⟩
section
variable {g:Gr} {f:Nat→Nat} {l:List Int}
variable{b:Nat}
theorem mV.none(I:mV g f l)(hb:b<g.length)(h:¬Rg g b∨b=0):nth l b=-1:=by
 rcases I.good.rng b hb with h1 | h1
 ·exact h1
 ·exfalso
  have:=I.good.inv.pr b ⟨by rw[I.good.len];exact hb,h1.1⟩
  rcases h with h | h
  ·exact h this.1
  ·exact this.2.1 h
theorem BH{a:Int}(ha:0≤a): ∀k,nY l a k (-1)=false
 | 0=>rfl
 | k+1=>by rw[nY,if_neg (by omega),if_pos (.inl (by omega))]
theorem sP (I:mV g f l) (C:Ch (Rg g) (rk g) (Eg g) f (Dm g)) {a:Nat} : ∀(k b:Nat),Rg g b→rk g b<k→(nY l a k b=true↔Anc (st l) a b)
 | 0,b,_,h=>by omega
 | k+1,b,hb,h=>by
  have hlt:=hb.lt
  have hll:=I.good.len
  rw[nY]
  by_cases e:(b:Int)=a
  ·rw[if_pos e]
   have:a=b:=by omega
   subst this
   exact⟨fun _=>.self,fun _=>rfl⟩
  ·rw[if_neg e,if_neg (by omega),Int.toNat_natCast]
   by_cases h0:b=0
   ·subst h0
    rw[I.none hlt (.inr rfl),BH (by omega),qB]
    constructor
    ·intro h;cases h
    ·intro h;omega
   ·obtain⟨hp,_⟩:=I.turn b hb h0
    obtain⟨h1,h2,h3,h4⟩:=I.good.inv.pr b hp
    have e2:nth l b=((st l b:Nat):Int):=(Int.toNat_of_nonneg hp.2).symm
    rw[e2,sP I C k (st l b) (I.good.inv.okR C h3) (by omega),mg h0]
    exact⟨.inr,fun h=>h.resolve_left (by omega)⟩
theorem qw(I:mV g f l)(C:Ch (Rg g) (rk g) (Eg g) f (Dm g)){a:Nat}(ha:a<g.length)(hb:Rg g b):dY l a b=domC g a b:=by
 have hlt:=hb.lt
 have hll:=I.good.len
 rw[dY,decide_eq_true (by omega),Bool.true_and,Bool.eq_iff_iff,sP I C _ _ hb (by have:=Fm hb;omega),I.anc C hb]
 rfl
end
end
theorem EH{l:List Int}{x:Int}{v:Value}{h:Heap}(hl:SlRd (vw h) v l):aB Tryz.prog N.slices_Index_int #[v,.int .i64 x] h (fun u h'=>(∃r:Int,u = .int .i64 r∧(0≤r↔x∈l))∧h'=h):=by
 refine ao (args:=[v,.int .i64 x]) follows F.slices_Index_int E.slices_Index_int (Nat.le_of_ble_eq_true (by kernel_rfl)) fun K hK=>?_
 have bl:=hl.bound
 simp[L.slices_Index_int,hl.len]
 refine aW [0,1,7,8] (fun(_:Unit) i=>[v,.int .i64 x,.int .i64 l.length,.int .i64 i]) (fun _ i h1=>h1=h∧∀j,j<i→nth l j≠x) l.length ()
  rfl (by omega) rfl ⟨rfl,fun j hj=>by omega⟩ (fun _ _=>rfl) (fun v i h1 hk m=>by simp) ?_ ?_
 ·rintro _ i h hlt ⟨rfl,hpre⟩ K2 hK2
  simp(disch:=omega)[hl.idx1 rfl,hl.int (View.le_refl _)]
  refine⟨fun e=>hK _ _ ⟨⟨i,rfl,by simp;rw[e];exact bw hlt⟩,rfl⟩,fun e=>hK2 () _ _ rfl rfl ⟨rfl,fun j hj=>?_⟩⟩
  rcases Nat.lt_or_ge j i with h | h
  ·exact hpre j h
  ·have:j=i:=by omega
   subst this;exact fun e2=>e e2.symm
 ·rintro _ h ⟨rfl,hpre⟩
  simp
  refine hK _ _ ⟨⟨-1,rfl,by simp;intro hm;obtain⟨j,hj,e⟩:=List.getElem_of_mem hm;exact hpre j hj (by rw[ak hj];exact e)⟩,rfl⟩
theorem yX{l:List Int}{x:Int}{v:Value}{h:Heap}(hl:SlRd (vw h) v l):aB Tryz.prog N.slices_Contains_int #[v,.int .i64 x] h (fun u h'=>u = .bool (l.contains x)∧h'=h):=by
 refine ao (args:=[v,.int .i64 x]) follows F.slices_Contains_int E.slices_Contains_int (Nat.le_of_ble_eq_true (by kernel_rfl)) fun K hK=>?_
 simp[L.slices_Contains_int]
 refine af (by kernel_rfl) (EH hl) ?_
 rintro _ _ ⟨⟨r,rfl,hr⟩,rfl⟩
 simp
 exact hK _ _ ⟨by simp[←hr],rfl⟩
def ofG (l:List BlkD):Gr:=rows (fun i=>j8 (nth l i).term.to l.length) l.length
theorem tF{l:List BlkD}{v:Value}{p:Int}{h:Heap}(hv:SlRd (vw h) v l)(hl:l.length≤1000000)(hs : ∀i,i<l.length→(nth l i).term.to.length≤1000000):
  aB Tryz.prog N.gT #[.agg #[.int .i64 p,v]] h (fun u h'=>(vw h).le (vw h')∧SlRd (fresh h h') u (ofG l)):=by
 refine ao (args:=[.agg #[.int .i64 p,v]]) follows F.gT E.gT (Nat.le_of_ble_eq_true (by kernel_rfl)) fun K hK=>?_
 obtain⟨hvc,hvo⟩:=hv.cells
 simp[L.gT]
 refine ln (v:=.agg #[.int .i64 p,v]) (by simp) ?_
 have hle1:=bD h (.cells (Value.agg #[.int .i64 p,v]).cells T.aD)
 have hc1:an (vw (h.push (.cells (Value.agg #[.int .i64 p,v]).cells T.aD))) ⟨h.size,1,none⟩=some v:=bP (c:=#[.int .i64 p,v]) (T:=T.aD) (fz:=(0,0)) (by simp[vw,Value.cells]) rfl
 generalize h.push (.cells (Value.agg #[.int .i64 p,v]).cells T.aD)=h1 at hle1 hc1
 have hv1:=hv.mono hle1
 simp[hc1,hv1.len]
 refine Mine.made (α:=List Int) (V:=nothing) (W:=nothing) (h0:=h1) (n:=l.length) (d:=[]) El.cL (View.le_refl _) (fun _ _ h=>by cases h) (Old.nothing _ _) (by simp<;>rfl) (by simp<;>rfl) C9 (by omega) (by omega) fun o h2 m hle2 _=>?_
 have hc2:=ae hle2 hc1
 have hv2:=hv1.mono hle2
 simp[hc2,hv2.len]
 refine aW [1,3,11,12,13] (fun(_:View) k=>[.pointer (some ⟨h.size,0,none⟩),o,v,.int .i64 l.length,.int .i64 k]) (fun W k h3=>Mine nothing h1 h3 W T.bc o (rows (fun i=>j8 (nth l i).term.to l.length) k++List.replicate (l.length-k) [])) l.length nothing
  rfl (by omega) rfl m (fun _ _=>rfl) (fun v k h1 hk m=>by simp) ?_ ?_
 ·rintro W a h3 hlta m K2 hK2
  have hle3:=m.old
  have hc3:=ae hle3 hc1
  have hv3:=hv1.mono hle3
  obtain⟨u,hu1,hu2⟩:=hv3.wh rfl (N:=6) rfl hlta
  have hal:=hs a hlta
  have hl5:(rows (fun i=>j8 (nth l i).term.to l.length) a++List.replicate (l.length-a) ([]:List Int)).length=l.length:=by simp;omega
  refine aa fun z hz=>?_
  simp(disch:=omega)[hv3.idxn (N:=6) rfl,hu1 _ (View.le_refl _)]
  refine iA (z:=.agg #[.slice none 0 0,.slice none 0 0,.int .i64 0,.slice none 0 0,.slice none 0 0,.int .i32 0]) (by kernel_rfl) rfl (by kernel_rfl) hu2 (fun _=>by simp) (fun _=>by simp) fun h4 hle4 hsz4 hat=>?_
  obtain⟨vp,vi,va,vt,bp,bi,bk,ba,bt⟩:=jK (hat (vw h4) hle4 rfl)
  have hc4:=ae hle4 hc3
  have hv4:=hv3.mono hle4
  rw[hz];clear hz z
  simp[bt.1,hc4,hv4.len]
  refine af (by kernel_rfl) (BD bt.2 (by omega)) ?_
  rintro r h5 ⟨W',mr⟩
  have m5:=(m.ext' hle4).ext mr.old
  have hr:=mr.fresh.mono (eT W _ _)
  simp(disch:=omega)[m5.now.idx1 rfl]
  refine m5.put1 (α:=List Int) (i:=a) (by kernel_rfl) rfl (by simp) (by simp<;>rfl) (by omega) (gh.2 hr) fun h6 m6=>hK2 (grow W h4 h5) _ _ rfl rfl ?_
  rw[kA (x:=fun i=>j8 (nth l i).term.to l.length) hlta]at m6
  exact m6
 ·rintro W h3 m
  simp at m
  simp
  exact hK _ _ ⟨View.le_trans hle1 m.old,m.fresh.mono (ma hle1)⟩
def ke (w:Int × Int) (idom:List Int) (blk at_:Int):Bool:=(decide (w.1=blk)&&(decide (w.2<at_)||decide (w.2<0)))||(!decide (w.1=blk)&&dY idom w.1 blk)
def useS (ps:Int) (m:MW) (idom:List Int) (v blk place at_ told:Int):Except Tr Unit:=
 if 0≤v∧v<ps then .ok () else match m v with
  | none=>.error (13,told,place)
  | some w=>if ke w idom blk at_ then .ok () else .error (13,told,place)
theorem zY{Kb r:Nat}{vb vd:Value}{f:ah}{m:MW}{idom:List Int}{h:Heap}{p5 p6:Addr}{v blk place at_ told:Int}(k:Lk h Kb r vb f m)(h5:an (vw h) p5=some (.pointer (some ⟨Kb,0,none⟩)))(h6:an (vw h) p6=some vd)(hd:SlRd (vw h) vd idom):
  fD Tryz.prog N.aN #[.int .i64 v,.int .i64 blk,.int .i64 place,.int .i64 at_,.int .i64 told,.pointer (some p5),.pointer (some p6)] h (fun _ h'=>useS f.params m idom v blk place at_ told = .ok ()∧(vw h).le (vw h'))
   (fun ch h'=>∃t,useS f.params m idom v blk place at_ told = .error t∧ch=trV t∧(vw h).le (vw h')):=by
 refine gZ (args:=[.int .i64 v,.int .i64 blk,.int .i64 place,.int .i64 at_,.int .i64 told,.pointer (some p5),.pointer (some p6)]) follows F.aN E.aN (Nat.le_of_ble_eq_true (by kernel_rfl)) fun K Kp hK hKp=>?_
 dsimp only[L.aN]
 by_cases hp:0≤v∧v<f.params
 ·simp[h5,ae b6 k.c0,hp]
  exact hK _ _ ⟨by simp[useS,hp],View.le_refl _⟩
 ·have hu:useS f.params m idom v blk place at_ told=match m v with
    | none=>.error (13,told,place)
    | some w=>if ke w idom blk at_ then .ok () else .error (13,told,place):=by rw[useS,if_neg hp]
  rw[hu]at hK hKp
  refine aa fun z hz=>?_
  have hc:(decide (0≤v)&&decide (v<f.params))=false:=by
   rw[Bool.eq_false_iff];intro e;exact hp (by simpa using e)
  simp[h5,ae b6 k.c0,hc]
  rw[hz];clear hz z
  refine aa fun z hz=>?_
  simp[h5,ae b6 k.c2]
  refine kL (z:=.agg #[.int .i64 0,.int .i64 0]) U.fg U.int (by kernel_rfl) (by simp<;>rfl) (by simp<;>rfl) lf k.map ?_
  have cellsW:((mapE encW m (.int .i64 v))).getD (.agg #[.int .i64 0,.int .i64 0])=encW ((m v).getD (0,0)):=by rw[nJ];cases m v<;>rfl
  have isW:(mapE encW m (.int .i64 v)).isSome=(m v).isSome:=by rw[nJ];cases m v<;>rfl
  rw[cellsW,isW]
  simp
  refine jA (n:=2) (v:=encW ((m v).getD (0,0))) (z:=.agg #[.int .i64 0,.int .i64 0]) (by kernel_rfl) rfl (by kernel_rfl) rfl (by simp[encW,Value.oneCell']) (fun _=>by simp) (fun _=>by simp) fun h3 hle3 hsz3 hb3=>?_
  have d0:an (vw h3) ⟨h.size,0,none⟩=some (.int .i64 ((m v).getD (0,0)).1):=bP (show vw h3 h.size=_ from hb3) rfl
  have d1:an (vw h3) ⟨h.size,1,none⟩=some (.int .i64 ((m v).getD (0,0)).2):=bP (show vw h3 h.size=_ from hb3) rfl
  have h63:=ae hle3 h6
  have hd3:=hd.mono hle3
  generalize h.size=B at d0 d1
  rw[hz];clear hz z
  have fin : ∀(ok:Bool) (h4:Heap) (ρ:Env) (z:LC),(vw h).le (vw h4)→(∀w,m v=some w→ok=ke w idom blk at_)→(m v=none→ok=false)→z = .reg false (.loud [65,66,67] [] [(65,.tmp 13),(66,.tmp 4),(67,.tmp 2)] none [] false (.call ⟨.value (.func N.eO),#[.tmp 65,.const (.int .i64 13),.tmp 66,.tmp 67],#[T.bool,T.lF,T.int,T.int]⟩) 0 (some 68) false (.fin [] [] []))→
    Lft.look ρ 13=some (.bool ok)→Lft.look ρ 4=some (.int .i64 told)→Lft.look ρ 2=some (.int .i64 place)→@LC.wp (ppOf Kp) Tryz.prog z (@eQ [] K) ρ h4:=by
   rintro ok h4 ρ _ hle4 hs hn rfl e13 e4 e2
   simp[e13,e4,e2]
   refine dD (by kernel_rfl) gO ?_ ?_
   ·rintro _ _ ⟨e,rfl⟩
    refine hK _ _ ⟨?_,hle4⟩
    cases hm:m v with
    | none=>rw[hn hm]at e;cases e
    | some w=>simp only;rw[if_pos (by rw[←hs w hm];exact e)]
   ·rintro _ _ ⟨e,rfl,rfl⟩
    refine⟨.inl rfl,hKp _ _ ⟨_,?_,rfl,hle4⟩⟩
    cases hm:m v with
    | none=>rfl
    | some w=>simp only;rw[if_neg (by rw[←hs w hm,e];simp)]
  refine aa fun z hz=>?_
  cases hm:m v with
  | none=>
   rw[hm]at d0 d1
   simp[d0,d1]
   refine fin false _ _ _ hle3 (fun w hw=>by rw[hm]at hw;cases hw) (fun _=>rfl) hz ?_ ?_ ?_<;>simp
  | some w=>
   rw[hm]at d0 d1
   simp at d0 d1
   by_cases c1:w.1=blk
   ·by_cases c2:w.2<at_
    ·simp[d0,d1,c1,c2]
     refine fin true _ _ _ hle3 (fun w' hw=>by rw[hm]at hw;cases hw;simp[ke,c1,c2]) (fun e=>by simp[hm]at e) hz ?_ ?_ ?_<;>simp
    ·by_cases c3:w.2<0
     ·simp[d0,d1,c1,c2,c3]
      refine fin true _ _ _ hle3 (fun w' hw=>by rw[hm]at hw;cases hw;simp[ke,c1,c2,c3]) (fun e=>by simp[hm]at e) hz ?_ ?_ ?_<;>simp
     ·simp[d0,d1,c1,c2,c3]
      refine fin false _ _ _ hle3 (fun w' hw=>by rw[hm]at hw;cases hw;simp[ke,c1,c2,c3]) (fun e=>by simp[hm]at e) hz ?_ ?_ ?_<;>simp
   ·simp[d0,d1,c1,h63]
    refine af (by kernel_rfl) (wN hd3) ?_
    rintro _ h4 ⟨rfl,hle4⟩
    refine fin _ _ _ _ (View.le_trans hle3 hle4) (fun w' hw=>by rw[hm]at hw;cases hw;simp[ke,c1];rfl) (fun e=>by simp[hm]at e) hz ?_ ?_ ?_<;>simp
def jS (x:PhiD) (row:List Int) (b:Nat):Bool:=decide (0<b)&&decide ((x.ins.length:Int)=(row.length:Int))
def vk (x:PhiD) (row:List Int) (j:Nat):Bool:=decide ((nth x.ins j).frm=nth row j)
def zt (x:PhiD) (row:List Int) (b:Nat):Bool:=jS x row b&&rW (vk x row) x.ins.length
def uAll (g:Nat→Except Tr Unit) (n:Nat):Except Tr Unit:=upE (fun i _=>g i) n ()
def phiU (f:ah) (m:MW) (idom:List Int) (preds:Gr) (b i:Nat):Except Tr Unit:=
 let x:=nth (nth f.blocks b).phis i
 if zt x (nth preds b) b then uAll (fun j=>useS f.params m idom (nth x.ins j).val (nth x.ins j).frm (-1-i) (nth f.blocks (nth x.ins j).frm.toNat).ins.length b) x.ins.length else .error (16,b,-1-i)
def insU (f:ah) (m:MW) (idom:List Int) (b i:Nat):Except Tr Unit:=
 uAll (fun j=>useS f.params m idom (nth (nth (nth f.blocks b).ins i).args j) b i i b) (nth (nth f.blocks b).ins i).args.length
def endU (f:ah) (m:MW) (idom:List Int) (b:Nat):Except Tr Unit:=
 uAll (fun j=>useS f.params m idom (nth (nth f.blocks b).term.args j) b (nth f.blocks b).ins.length (nth f.blocks b).ins.length b) (nth f.blocks b).term.args.length
def andE (x y:Except Tr Unit):Except Tr Unit:=match x with | .ok _=>y | .error t=>.error t
def blkU (f:ah) (m:MW) (idom:List Int) (preds:Gr) (b:Nat):Except Tr Unit:=
 andE (uAll (phiU f m idom preds b) (nth f.blocks b).phis.length) (andE (uAll (insU f m idom b) (nth f.blocks b).ins.length) (endU f m idom b))
def rm (f:ah) (b:Nat):Except Tr Unit:=if decide ((b:Int)∈a7 (ofG f.blocks)) then .ok () else .error (15,b,0)
def p9 (f:ah) (m:MW) (idom:List Int):Except Tr Unit:=
 andE (uAll (rm f) f.blocks.length) (uAll (blkU f m idom (cd (ofG f.blocks))) f.blocks.length)
variable{n:Nat}
theorem mo{g:Nat→Except Tr Unit}{k:Nat}{t:Tr}(h:uAll g k = .ok ())(hk:k<n)(he:g k = .error t):uAll g n = .error t:=wP h hk he
theorem jw{g:Nat→Except Tr Unit}{k:Nat}(h:uAll g k = .ok ()):uAll g (k+1)=g k:=lJ h
variable{H:View}
theorem Dn{B:Nat}{u v:Value}(h0:an H ⟨B,0,none⟩=some u)(h1:an H ⟨B,1,none⟩=some v):Un.ev H (.ar 2) (.pointer (some ⟨B,0,none⟩))=some (.agg #[u,v]):=by
 simp[Un.ev,vP,dz,h0,h1]
theorem DI{l:List BlkD}(hl:l.length≤1000000)(hs : ∀i,i<l.length→(nth l i).term.to.length≤1000000):Sm (ofG l):=by
 have hlen:(ofG l).length=l.length:=by simp[ofG]
 refine⟨by omega,fun i hi=>?_⟩
 rw[hlen]at hi
 rw[ofG,dm hi]
 exact Nat.le_trans wD (hs i hi)
theorem Fq{Kb r:Nat}{vb:Value}{f:ah}{m:MW}{idom:List Int}{fuel:Nat}{h:Heap}(k:Lk h Kb r vb f m)(hn:f.blocks.length≤1000000)(hto : ∀i,i<f.blocks.length→(nth f.blocks i).term.to.length≤1000000)(hd:uZ (ofG f.blocks) fuel=some idom):
  fD Tryz.prog N.ay #[.pointer (some ⟨Kb,0,none⟩)] h (fun _ h'=>p9 f m idom = .ok ()∧(vw h).le (vw h')) (fun ch h'=>∃t,p9 f m idom = .error t∧ch=trV t∧(vw h).le (vw h')):=by
 refine gZ (args:=[.pointer (some ⟨Kb,0,none⟩)]) follows F.ay E.ay (Nat.le_of_ble_eq_true (by kernel_rfl)) fun K Kp hK hKp=>?_
 have hbb:=k.rb.bound
 have hsm:=DI hn hto
 have hgl:(ofG f.blocks).length=f.blocks.length:=by simp[ofG]
 dsimp only[L.ay]
 refine aa fun z hz=>?_
 simp
 refine ln (v:=.pointer (some ⟨Kb,0,none⟩)) (by simp) ?_
 have hle1:=bD h (.cells (Value.cells (.pointer (some ⟨Kb,0,none⟩))) T.ku)
 have h51:an (vw (h.push (.cells (Value.cells (.pointer (some ⟨Kb,0,none⟩))) T.ku))) ⟨h.size,0,none⟩=some (.pointer (some ⟨Kb,0,none⟩)):=by simp[an,vw]
 generalize h.push (.cells (Value.cells (.pointer (some ⟨Kb,0,none⟩))) T.ku)=h1 at hle1 h51
 generalize h.size=B at h51
 have k1:=k.ext hle1
 rw[hz];clear hz z
 refine aa fun z hz=>?_
 simp[h51,Dn (ae b6 k1.c0) (ae b6 k1.c1)]
 refine af (by kernel_rfl) (tF (k1.rb.mono b6) hn hto) ?_
 rintro vg h2 ⟨hle2,hg⟩
 have hg2:=hg.mono (gz _ _)
 rw[hz];clear hz z
 refine aa fun z hz=>?_
 simp
 refine af (by kernel_rfl) (yk hg2 hsm) ?_
 rintro vo h3 ⟨hle3,ho⟩
 have ho3:=ho.mono (gz _ _)
 have hg3:=hg2.mono hle3
 have hle13:=View.le_trans hle2 hle3
 have k3:=k1.ext hle13
 have h53:=ae hle13 h51
 have hle03:=View.le_trans hle1 hle13
 rw[hz];clear hz z
 refine aa fun z hz=>?_
 simp[h53,ae b6 k3.c1,k3.rb.len]
 refine aW [0,1,2,3,35,36] (fun(_:Unit) b=>[.pointer (some ⟨Kb,0,none⟩),.pointer (some ⟨B,0,none⟩),vg,vo,.int .i64 f.blocks.length,.int .i64 b]) (fun _ b h4=>h4=h3∧uAll (rm f) b = .ok ()) f.blocks.length ()
  rfl (by omega) rfl ⟨rfl,rfl⟩ (fun _ _=>rfl) (fun v i h1 hk m=>by simp) ?_ ?_
 ·rintro _ b h3 hlt ⟨rfl,hpre⟩ K2 hK2
  simp
  refine af (by kernel_rfl) (yX ho3) ?_
  rintro _ _ ⟨rfl,rfl⟩
  simp
  refine dD (by kernel_rfl) gO ?_ ?_
  ·rintro _ _ ⟨e,rfl⟩
   exact hK2 () _ _ rfl rfl ⟨rfl,by rw[jw hpre,rm,if_pos e]⟩
  ·rintro _ _ ⟨e,rfl,rfl⟩
   exact⟨.inl rfl,hKp _ _ ⟨_,by rw[p9,mo hpre hlt (by rw[rm,if_neg (by rw[e];simp)])];rfl,rfl,hle03⟩⟩
 ·rintro _ h3 ⟨rfl,hreach⟩
  have hus:p9 f m idom=uAll (blkU f m idom (cd (ofG f.blocks))) f.blocks.length:=by rw[p9,hreach];rfl
  rw[hus]at hK hKp
  simp
  rw[hz];clear hz z
  refine aa fun z hz=>?_
  simp
  refine af (by kernel_rfl) (tG hg3 hsm) ?_
  rintro vp h4 ⟨hle4,hp⟩
  have hp4:=hp.mono (gz _ _)
  refine af (by kernel_rfl) (FM (hg3.mono hle4) hsm hd) ?_
  rintro vi h5 ⟨W,mi⟩
  have hi5:=mi.now
  refine iA (α:=List Int) (z:=.slice none 0 0) (X:=vw h5) (by kernel_rfl) rfl (by kernel_rfl) (gh.2 hi5) (fun _=>by simp) (fun _=>by simp) fun h6 hle6 hsz6 hat=>?_
  obtain⟨vd,hvd,hd6⟩:=(hat (vw h6) hle6 rfl).sl
  generalize h5.size=C at hvd
  rw[hz];clear hz z
  have hle36:=View.le_trans hle4 (View.le_trans mi.old hle6)
  have hp6:=hp4.mono (View.le_trans mi.old hle6)
  have k6:=k3.ext hle36
  have h56:=ae hle36 h53
  have hle06:=View.le_trans hle03 hle36
  have hpl:(cd (ofG f.blocks)).length=f.blocks.length:=by rw[nL,hgl]
  have hin : ∀b,∀x∈nth (cd (ofG f.blocks)) b,0≤x∧x<f.blocks.length:=by
   rw[←hgl]
   exact ry (fun e he=>(lV he).1) (fun i x hx=>by
    rcases Nat.lt_or_ge i (ofG f.blocks).length with hi | hi
    ·rw[aq hi]at hx;cases hx
    ·rw[aV (by simpa using hi)]at hx;cases hx)
  generalize cd (ofG f.blocks)=preds at hp6 hpl hin hK hKp
  obtain⟨pv,hpv⟩:=hp6.rows
  simp[h56,ae b6 k6.c1,k6.rb.len]
  refine aW [1,5,7,54,55,56] (fun(_:Unit) b=>[.pointer (some ⟨B,0,none⟩),vp,.func (.func N.aN) #[] #[.pointer (some ⟨B,0,none⟩),.pointer (some ⟨C,0,none⟩)],vb,.int .i64 f.blocks.length,.int .i64 b]) (fun _ b h7=>(vw h6).le (vw h7)∧uAll (blkU f m idom preds) b = .ok ()) f.blocks.length ()
   rfl (by omega) rfl ⟨View.le_refl _,rfl⟩ (fun _ _=>rfl) (fun v i h1 hk m=>by simp) ?_ ?_
  ·rintro _ b h7 hltb ⟨hle7,hpre⟩ K2 hK2
   have k7:=k6.ext hle7
   have rb7:=k7.rb.mono b6
   obtain⟨u,hu,hur⟩:=rb7.wh rfl (N:=6) rfl hltb
   obtain⟨pc,pr⟩:=hpv b (by omega)
   have hst:=jw hpre
   have her : ∀{t},blkU f m idom preds b = .error t→uAll (blkU f m idom preds) f.blocks.length = .error t:=fun e=>mo hpre hltb e
   refine aa fun z hz=>?_
   simp(disch:=omega)[rb7.idxn (N:=6) rfl,hu _ (View.le_refl _)]
   refine iA (z:=.agg #[.slice none 0 0,.slice none 0 0,.int .i64 0,.slice none 0 0,.slice none 0 0,.int .i32 0]) (by kernel_rfl) rfl (by kernel_rfl) hur (fun _=>by simp) (fun _=>by simp) fun h8 hle8 hsz8 hat=>?_
   obtain⟨wp,wi,wa,wt,bp,bi,bk,ba,bt⟩:=jK (hat (vw h8) hle8 rfl)
   generalize h7.size=D at bp bi bk ba bt
   rw[hz];clear hz z
   have hle68:=View.le_trans hle7 hle8
   have bph:=bp.2.bound
   have bin:=bi.2.bound
   have bar:=ba.2.bound
   refine aa fun z hz=>?_
   simp[bp.1,bp.2.len]
   refine aW [1,5,7,8,9,54,55,56,62,63,64] (fun(_:Unit) i=>[.pointer (some ⟨B,0,none⟩),vp,.func (.func N.aN) #[] #[.pointer (some ⟨B,0,none⟩),.pointer (some ⟨C,0,none⟩)],.int .i64 b,.pointer (some ⟨D,0,none⟩),vb,.int .i64 f.blocks.length,.int .i64 b,wp,.int .i64 (nth f.blocks b).phis.length,.int .i64 i])
    (fun _ i h9=>(vw h8).le (vw h9)∧uAll (phiU f m idom preds b) i = .ok ()) (nth f.blocks b).phis.length ()
    rfl (by omega) rfl ⟨View.le_refl _,rfl⟩ (fun _ _=>rfl) (fun v i h1 hk m=>by simp) ?_ ?_
   ·rintro _ i h9 hlti ⟨hle9,hpre9⟩ K3 hK3
    have hst9:=jw hpre9
    have her9 : ∀{t},phiU f m idom preds b i = .error t→blkU f m idom preds b = .error t:=fun e=>by rw[blkU,mo hpre9 hlti e];rfl
    have bp9:=bp.2.mono hle9
    obtain⟨u9,hu9,hur9⟩:=bp9.wh rfl (N:=2) rfl hlti
    refine aa fun y hy=>?_
    simp(disch:=omega)[bp9.idxn (N:=2) rfl,hu9 _ (View.le_refl _)]
    refine iA (z:=.agg #[.int .i64 0,.slice none 0 0]) (by kernel_rfl) rfl (by kernel_rfl) hur9 (fun _=>by simp) (fun _=>by simp) fun h10 hle10 hsz10 hat10=>?_
    obtain⟨_,wq,cq⟩:=AZ (hat10 (vw h10) hle10 rfl)
    simp only[phiU]at hst9 her9
    generalize nth (nth f.blocks b).phis i=x at cq hst9 her9
    generalize h9.size=D10 at cq
    have bq:=cq.2.bound
    rw[hy];clear hy y
    refine aa fun y hy=>?_
    have hle610:=View.le_trans hle68 (View.le_trans hle9 hle10)
    have hp10:=hp6.mono hle610
    have pr10:=pr.mono hle610
    have hbase:(decide (0<b)&&decide ((x.ins.length:Int)=((nth preds b).length:Int)))=jS x (nth preds b) b:=rfl
    simp(disch:=omega)[cq.1,cq.2.len,hp10.idx1 rfl,pc _ hle610,pr10.len]
    rw[hbase]
    rw[hy];clear hy y
    refine aa fun y hy=>?_
    simp[cq.1,cq.2.len]
    refine aW [1,5,7,8,9,10,11,12,54,55,56,62,63,64,83,84,85] (fun(_:Unit) j=>[.pointer (some ⟨B,0,none⟩),vp,.func (.func N.aN) #[] #[.pointer (some ⟨B,0,none⟩),.pointer (some ⟨C,0,none⟩)],.int .i64 b,.pointer (some ⟨D,0,none⟩),.int .i64 i,.pointer (some ⟨D10,0,none⟩),
      .bool (jS x (nth preds b) b&&rW (vk x (nth preds b)) j),vb,.int .i64 f.blocks.length,.int .i64 b,wp,.int .i64 (nth f.blocks b).phis.length,.int .i64 i,wq,.int .i64 x.ins.length,.int .i64 j])
     (fun _ j h11=>(vw h10).le (vw h11)) x.ins.length ()
     rfl (by omega) (by simp[bm];intro _;rfl) (View.le_refl _) (fun _ _=>rfl) (fun v i h1 hk m=>by simp) ?_ ?_
    ·rintro _ j h11 hltj hle11 K4 hK4
     have cq11:=cq.2.mono hle11
     obtain⟨u11,hu11,hur11⟩:=cq11.wh rfl (N:=2) rfl hltj
     refine aa fun q hq=>?_
     simp(disch:=omega)[cq11.idxn (N:=2) rfl,hu11 _ (View.le_refl _)]
     refine iA (z:=.agg #[.int .i64 0,.int .i64 0]) (by kernel_rfl) rfl (by kernel_rfl) hur11 (fun _=>by simp) (fun _=>by simp) fun h12 hle12 hsz12 hat12=>?_
     obtain⟨e0,e1⟩:=Eo (hat12 (vw h12) hle12 rfl)
     generalize h11.size=D12 at e0 e1
     rw[hq];clear hq q
     have hle612:=View.le_trans hle610 (View.le_trans hle11 hle12)
     have hp12:=hp6.mono hle612
     have pr12:=pr.mono hle612
     cases hfit:jS x (nth preds b) b&&rW (vk x (nth preds b)) j with
     | false=>
      simp
      refine hK4 () _ _ rfl ?_ (View.le_trans hle11 hle12)
      rw[tc,←Bool.and_assoc,hfit];rfl
     | true=>
      have hlen:x.ins.length=(nth preds b).length:=by
       simp only[Bool.and_eq_true,jS,decide_eq_true_eq]at hfit
       omega
      simp(disch:=omega)[e0,hp12.idx1 rfl,pc _ hle612,pr12.idx1 rfl,pr12.int (View.le_refl _)]
      refine hK4 () _ _ rfl ?_ (View.le_trans hle11 hle12)
      rw[tc,←Bool.and_assoc,hfit];rfl
    ·rintro _ h11 hle11
     have hfs:(jS x (nth preds b) b&&rW (vk x (nth preds b)) x.ins.length)=zt x (nth preds b) b:=rfl
     rw[hfs]
     simp
     rw[hy];clear hy y
     refine aa fun y hy=>?_
     simp(disch:=omega)
     have hle011:=View.le_trans hle06 (View.le_trans hle610 hle11)
     refine dD (by kernel_rfl) gO ?_ ?_
     rotate_left
     ·rintro _ _ ⟨e,rfl,rfl⟩
      exact⟨.inl rfl,hKp _ _ ⟨_,her (her9 (by rw[if_neg (by rw[e];simp)])),rfl,hle011⟩⟩
     rintro _ h11 ⟨efit,rfl⟩
     rw[if_pos efit]at hst9
     have her9' : ∀{t},uAll (fun j=>useS f.params m idom (nth x.ins j).val (nth x.ins j).frm (-1-i) (nth f.blocks (nth x.ins j).frm.toNat).ins.length b) x.ins.length = .error t→blkU f m idom preds b = .error t:=fun e=>her9 (by rw[if_pos efit];exact e)
     have hlen:x.ins.length=(nth preds b).length:=by
      simp only[Bool.and_eq_true,zt,jS,decide_eq_true_eq]at efit
      omega
     have hfrm : ∀j,j<x.ins.length→0≤(nth x.ins j).frm∧(nth x.ins j).frm<f.blocks.length:=fun j hj=>by
      have h1:=AV.1 (Bool.and_eq_true _ _▸efit:_∧_).2 j hj
      simp only[vk,decide_eq_true_eq]at h1
      rw[h1]
      exact hin b _ (bw (by omega))
     rw[hy];clear hy y
     have cq11:=cq.2.mono hle11
     simp[ae hle11 cq.1,cq11.len]
     refine aW [1,5,7,8,9,10,11,54,55,56,62,63,64,110,111,112] (fun(_:Unit) j=>[.pointer (some ⟨B,0,none⟩),vp,.func (.func N.aN) #[] #[.pointer (some ⟨B,0,none⟩),.pointer (some ⟨C,0,none⟩)],.int .i64 b,.pointer (some ⟨D,0,none⟩),.int .i64 i,.pointer (some ⟨D10,0,none⟩),
       vb,.int .i64 f.blocks.length,.int .i64 b,wp,.int .i64 (nth f.blocks b).phis.length,.int .i64 i,wq,.int .i64 x.ins.length,.int .i64 j])
      (fun _ j h12=>(vw h11).le (vw h12)∧uAll (fun j=>useS f.params m idom (nth x.ins j).val (nth x.ins j).frm (-1-i) (nth f.blocks (nth x.ins j).frm.toNat).ins.length b) j = .ok ()) x.ins.length ()
      rfl (by omega) rfl ⟨View.le_refl _,rfl⟩ (fun _ _=>rfl) (fun v i h1 hk m=>by simp) ?_ ?_
     ·rintro _ j h12 hltj ⟨hle12,hpre12⟩ K4 hK4
      have hst12:=jw hpre12
      have cq12:=cq11.mono hle12
      obtain⟨u12,hu12,hur12⟩:=cq12.wh rfl (N:=2) rfl hltj
      refine aa fun q hq=>?_
      simp(disch:=omega)[cq12.idxn (N:=2) rfl,hu12 _ (View.le_refl _)]
      refine iA (z:=.agg #[.int .i64 0,.int .i64 0]) (by kernel_rfl) rfl (by kernel_rfl) hur12 (fun _=>by simp) (fun _=>by simp) fun h13 hle13 hsz13 hat13=>?_
      obtain⟨e0,e1⟩:=Eo (hat13 (vw h13) hle13 rfl)
      generalize h12.size=D13 at e0 e1
      have hf:=hfrm j hltj
      generalize hxj:nth x.ins j=w at e0 e1 hst12 hf
      rw[hq];clear hq q
      have hle613:=View.le_trans hle610 (View.le_trans hle11 (View.le_trans hle12 hle13))
      have k13:=k6.ext hle613
      have rb13:=k13.rb.mono b6
      have h513:=ae hle613 h56
      obtain⟨ul,hul⟩:=(((rb13.at (i:=w.frm.toNat) (by omega)).part BlkD.mK)).sl
      rw[←ak (by omega)]at hul
      have hul1:an (vw h13) (((slA vb).add (w.frm.toNat*6)).add 1)=some ul:=hul.1
      refine cH (vw h13) (View.le_refl _) ?_
      simp(disch:=omega)[e0,e1,h513,ae b6 k13.c1,rb13.idxn (N:=6) rfl,hul1,hul.2.len]
      refine rq (ops:=[.tmp 118,.tmp 120,.tmp 122,.tmp 133,.tmp 134]) rfl (by kernel_rfl) (zY k13 h513 (ae hle613 hvd) (hd6.mono hle613)) ?_ ?_
      ·rintro _ h14 ⟨e,hle14⟩
       exact hK4 () _ _ rfl rfl ⟨View.le_trans hle12 (View.le_trans hle13 hle14),by rw[hst12];exact e⟩
      ·rintro _ h14 ⟨t,e,rfl,hle14⟩
       exact⟨.inr fun _=>trivial,hKp _ _ ⟨t,her (her9' (mo hpre12 hltj (by rw[hxj];exact e))),rfl,View.le_trans hle06 (View.le_trans hle613 hle14)⟩⟩
     ·rintro _ h12 ⟨hle12,hpre12⟩
      simp
      exact hK3 () _ _ rfl rfl ⟨View.le_trans hle9 (View.le_trans hle10 (View.le_trans hle11 hle12)),by rw[hst9];exact hpre12⟩
   ·rintro _ h9 ⟨hle9,hpre9⟩
    have hbu:blkU f m idom preds b=andE (uAll (insU f m idom b) (nth f.blocks b).ins.length) (endU f m idom b):=by rw[blkU,hpre9];rfl
    rw[hbu]at hst her
    simp
    rw[hz];clear hz z
    refine aa fun z hz=>?_
    have bi9:=bi.2.mono hle9
    simp[ae hle9 bi.1,bi9.len]
    refine aW [1,5,7,8,9,54,55,56,139,140,141] (fun(_:Unit) i=>[.pointer (some ⟨B,0,none⟩),vp,.func (.func N.aN) #[] #[.pointer (some ⟨B,0,none⟩),.pointer (some ⟨C,0,none⟩)],.int .i64 b,.pointer (some ⟨D,0,none⟩),vb,.int .i64 f.blocks.length,.int .i64 b,wi,.int .i64 (nth f.blocks b).ins.length,.int .i64 i])
     (fun _ i h10=>(vw h9).le (vw h10)∧uAll (insU f m idom b) i = .ok ()) (nth f.blocks b).ins.length ()
     rfl (by omega) rfl ⟨View.le_refl _,rfl⟩ (fun _ _=>rfl) (fun v i h1 hk m=>by simp) ?_ ?_
    ·rintro _ i h10 hlti ⟨hle10,hpre10⟩ K3 hK3
     have hst10:=jw hpre10
     have her10 : ∀{t},insU f m idom b i = .error t→uAll (blkU f m idom preds) f.blocks.length = .error t:=fun e=>her (by rw[mo hpre10 hlti e];rfl)
     have bi10:=bi9.mono hle10
     obtain⟨u10,hu10,hur10⟩:=bi10.wh rfl (N:=5) rfl hlti
     refine aa fun y hy=>?_
     simp(disch:=omega)[bi10.idxn (N:=5) rfl,hu10 _ (View.le_refl _)]
     refine iA (z:=.agg #[.int .i64 0,.int .i64 0,.int .i64 0,.slice none 0 0,.int .i32 0]) (by kernel_rfl) rfl (by kernel_rfl) hur10 (fun _=>by simp) (fun _=>by simp) fun h11 hle11 hsz11 hat11=>?_
     obtain⟨_,_,_,wq,cq⟩:=sM (hat11 (vw h11) hle11 rfl)
     rw[insU]at hst10 her10
     generalize nth (nth f.blocks b).ins i=x at cq hst10 her10
     generalize h10.size=D11 at cq
     have bq:=cq.2.bound
     rw[hy];clear hy y
     simp[cq.1,cq.2.len]
     refine aW [1,5,7,8,9,17,54,55,56,139,140,141,147,148,149] (fun(_:Unit) j=>[.pointer (some ⟨B,0,none⟩),vp,.func (.func N.aN) #[] #[.pointer (some ⟨B,0,none⟩),.pointer (some ⟨C,0,none⟩)],.int .i64 b,.pointer (some ⟨D,0,none⟩),.int .i64 i,vb,.int .i64 f.blocks.length,.int .i64 b,wi,.int .i64 (nth f.blocks b).ins.length,.int .i64 i,wq,.int .i64 x.args.length,.int .i64 j])
      (fun _ j h12=>(vw h11).le (vw h12)∧uAll (fun j=>useS f.params m idom (nth x.args j) b i i b) j = .ok ()) x.args.length ()
      rfl (by omega) rfl ⟨View.le_refl _,rfl⟩ (fun _ _=>rfl) (fun v i h1 hk m=>by simp) ?_ ?_
     ·rintro _ j h12 hltj ⟨hle12,hpre12⟩ K4 hK4
      have hst12:=jw hpre12
      have cq12:=cq.2.mono hle12
      have hle612:=View.le_trans hle68 (View.le_trans hle9 (View.le_trans hle10 (View.le_trans hle11 hle12)))
      have k12:=k6.ext hle612
      have h512:=ae hle612 h56
      simp(disch:=omega)[cq12.idx1 rfl,cq12.int (View.le_refl _)]
      refine rq (ops:=[.tmp 154,.tmp 155,.tmp 156,.tmp 157,.tmp 158]) rfl (by kernel_rfl) (zY k12 h512 (ae hle612 hvd) (hd6.mono hle612)) ?_ ?_
      ·rintro _ h14 ⟨e,hle14⟩
       exact hK4 () _ _ rfl rfl ⟨View.le_trans hle12 hle14,by rw[hst12];exact e⟩
      ·rintro _ h14 ⟨t,e,rfl,hle14⟩
       exact⟨.inl rfl,hKp _ _ ⟨t,her10 (mo hpre12 hltj e),rfl,View.le_trans hle06 (View.le_trans hle612 hle14)⟩⟩
     ·rintro _ h12 ⟨hle12,hpre12⟩
      simp
      exact hK3 () _ _ rfl rfl ⟨View.le_trans hle10 (View.le_trans hle11 hle12),by rw[hst10];exact hpre12⟩
    ·rintro _ h10 ⟨hle10,hpre10⟩
     have hbu2:andE (uAll (insU f m idom b) (nth f.blocks b).ins.length) (endU f m idom b)=endU f m idom b:=by rw[hpre10];rfl
     rw[hbu2]at hst her
     rw[endU]at hst her
     simp
     rw[hz];clear hz z
     have ba10:=ba.2.mono (View.le_trans hle9 hle10)
     have ca10:=ae (View.le_trans hle9 hle10) ba.1
     have bi10:=bi9.mono hle10
     have ci10:=ae (View.le_trans hle9 hle10) bi.1
     simp[ca10,ba10.len]
     refine aW [1,5,7,8,9,54,55,56,164,165,166] (fun(_:Unit) j=>[.pointer (some ⟨B,0,none⟩),vp,.func (.func N.aN) #[] #[.pointer (some ⟨B,0,none⟩),.pointer (some ⟨C,0,none⟩)],.int .i64 b,.pointer (some ⟨D,0,none⟩),vb,.int .i64 f.blocks.length,.int .i64 b,wa,.int .i64 (nth f.blocks b).term.args.length,.int .i64 j])
      (fun _ j h12=>(vw h10).le (vw h12)∧uAll (fun j=>useS f.params m idom (nth (nth f.blocks b).term.args j) b (nth f.blocks b).ins.length (nth f.blocks b).ins.length b) j = .ok ()) (nth f.blocks b).term.args.length ()
      rfl (by omega) rfl ⟨View.le_refl _,rfl⟩ (fun _ _=>rfl) (fun v i h1 hk m=>by simp) ?_ ?_
     ·rintro _ j h12 hltj ⟨hle12,hpre12⟩ K4 hK4
      have hst12:=jw hpre12
      have ba12:=ba10.mono hle12
      have bi12:=bi10.mono hle12
      have ci12:=ae hle12 ci10
      have hle612:=View.le_trans hle68 (View.le_trans hle9 (View.le_trans hle10 hle12))
      have k12:=k6.ext hle612
      have h512:=ae hle612 h56
      simp(disch:=omega)[ba12.idx1 rfl,ba12.int (View.le_refl _),ci12,bi12.len]
      refine rq (ops:=[.tmp 171,.tmp 172,.tmp 175,.tmp 178,.tmp 179]) rfl (by kernel_rfl) (zY k12 h512 (ae hle612 hvd) (hd6.mono hle612)) ?_ ?_
      ·rintro _ h14 ⟨e,hle14⟩
       exact hK4 () _ _ rfl rfl ⟨View.le_trans hle12 hle14,by rw[hst12];exact e⟩
      ·rintro _ h14 ⟨t,e,rfl,hle14⟩
       exact⟨.inl rfl,hKp _ _ ⟨t,her (mo hpre12 hltj e),rfl,View.le_trans hle06 (View.le_trans hle612 hle14)⟩⟩
     ·rintro _ h12 ⟨hle12,hpre12⟩
      simp
      exact hK2 () _ _ rfl rfl ⟨View.le_trans hle7 (View.le_trans hle8 (View.le_trans hle9 (View.le_trans hle10 hle12))),by rw[hst];exact hpre12⟩
  ·rintro _ h7 ⟨hle7,hpre⟩
   simp
   exact hK _ _ ⟨hpre,View.le_trans hle06 hle7⟩
def EL (t:Tr):FrameMode:=.panicking [{ v:=.iface T.fy (.agg #[.int .i64 t.1,.int .i64 t.2.1,.int .i64 t.2.2]),recovered:=true }]
variable{b:Nat}
theorem E1{a c:Nat}{t:Tr}{h:Heap}{ra rb rc:Array Value}{ea eb ec:TypeId}(ha:h[a]? = some (.cells ra ea (0,0)))(hb:h[b]? = some (.cells rb eb (0,0)))(hc:h[c]? = some (.cells rc ec (0,0)))(sa:ra.size=1)(sb:rb.size=1)(sc:rc.size=1)(hab:a≠b)(hac:a≠c)(hbc:b≠c):p7 Tryz.prog N.b8 #[.pointer (some ⟨a,0,none⟩),.pointer (some ⟨b,0,none⟩),.pointer (some ⟨c,0,none⟩)] (.panicking (trV t)) h
   (fun u' h'=>u'=EL t∧h'[a]? = some (.cells #[.int .i64 t.1] ea (0,0))∧h'[b]? = some (.cells #[.int .i64 t.2.1] eb (0,0))∧h'[c]? = some (.cells #[.int .i64 t.2.2] ec (0,0))∧h.size≤h'.size∧∀k,k<h.size→k≠a→k≠b→k≠c→h'[k]? = h[k]?):=by
 refine nD (args:=[.pointer (some ⟨a,0,none⟩),.pointer (some ⟨b,0,none⟩),.pointer (some ⟨c,0,none⟩)]) (t:=6) (L:=L.b8.body.tail) (tys:=#[]) follows F.b8 Q.b8 (by kernel_rfl) (by kernel_rfl) (by kernel_rfl) (Nat.le_of_ble_eq_true (by kernel_rfl)) E.nP (by kernel_rfl) (by kernel_rfl) (Nat.le_of_ble_eq_true (by kernel_rfl)) ?_
 have ala:a<h.size:=(Array.getElem?_eq_some_iff.1 ha).1
 have alb:b<h.size:=(Array.getElem?_eq_some_iff.1 hb).1
 have alc:c<h.size:=(Array.getElem?_eq_some_iff.1 hc).1
 have hrec:jj (.panicking (trV t))=(.iface T.fy (.agg #[.int .i64 t.1,.int .i64 t.2.1,.int .i64 t.2.2]),EL t):=rfl
 rw[hrec]
 simp[L.b8,LC.tail]
 refine yu (ms:=#[]) (by kernel_rfl) rfl (.inr ⟨_,_,rfl,rfl⟩) ?_
 simp
 refine Cf (d:=(Tryz.prog.underlying T.fy).getD .bool) (by kernel_rfl) (by kernel_rfl) rfl ?_
 simp
 refine jA (n:=3) (z:=.agg #[.int .i64 0,.int .i64 0,.int .i64 0]) (v:=.agg #[.int .i64 t.1,.int .i64 t.2.1,.int .i64 t.2.2]) (by kernel_rfl) rfl (by kernel_rfl) rfl (by simp[Value.oneCell']) (fun _=>by simp) (fun _=>by simp) fun h1 hle1 hs1 hb1=>?_
 generalize hD:h.size=D at hb1 hs1
 obtain⟨H,hH⟩ : ∃H:View,H=fun k=>if k=D then h1[k]? else none:=⟨_,rfl⟩
 have hHle : ∀h2:Heap,h2[D]? = h1[D]?→H.le (vw h2):=fun h2 e k o hk=>by
  rw[hH]at hk;simp only at hk
  split at hk
  ·rename_i e2;subst e2;show h2[_]? = _;rw[e];exact hk
  ·cases hk
 have hHD:H D=some (.cells #[.int .i64 t.1,.int .i64 t.2.1,.int .i64 t.2.2] T.fy (0,0)):=by rw[hH];simp only[if_true];exact hb1
 have d0:an H ⟨D,0,none⟩=some (.int .i64 t.1):=bP hHD rfl
 have d1:an H ⟨D,1,none⟩=some (.int .i64 t.2.1):=bP hHD rfl
 have d2:an H ⟨D,2,none⟩=some (.int .i64 t.2.2):=bP hHD rfl
 refine cH H (hHle h1 rfl) ?_
 simp[d0,d1,d2]
 refine dU (g:=a) (o:=0) (n:=1) (v:=.int .i64 t.1) (by kernel_rfl) rfl rfl rfl (by simp[Value.oneCell']) (hle1 _ _ ha) (by omega) fun h2 hs2 ⟨row2,hr2,he2⟩ ho2=>?_
 refine⟨hHle h2 (ho2 D (by omega)),?_⟩
 refine dU (g:=b) (o:=0) (n:=1) (v:=.int .i64 t.2.1) (by kernel_rfl) rfl rfl rfl (by simp[Value.oneCell']) ((ho2 b (Ne.symm hab)).trans (hle1 _ _ hb)) (by omega) fun h3 hs3 ⟨row3,hr3,he3⟩ ho3=>?_
 refine⟨hHle h3 ((ho3 D (by omega)).trans (ho2 D (by omega))),?_⟩
 refine dU (g:=c) (o:=0) (n:=1) (v:=.int .i64 t.2.2) (by kernel_rfl) rfl rfl rfl (by simp[Value.oneCell']) ((ho3 c (Ne.symm hbc)).trans ((ho2 c (Ne.symm hac)).trans (hle1 _ _ hc))) (by omega) fun h4 hs4 ⟨row4,hr4,he4⟩ ho4=>?_
 have one : ∀{row r:Array Value} {v:Value},v.cells = #[v]→r.size=1→row.toList=r.toList.take 0++v.cells.toList++r.toList.drop (0+1)→row = #[v]:=by
  intro row r v hv hr he
  rw[←Array.toList_inj,he,hv,List.take_zero,List.nil_append,List.drop_eq_nil_of_le (by simp[hr])]
  simp
 rw[one rfl sa he2]at hr2
 rw[one rfl sb he3]at hr3
 rw[one rfl sc he4]at hr4
 refine⟨?_,?_,hr4,by omega,fun k hk h1' h2' h3'=>?_⟩
 ·rw[ho4 a hac,ho3 a hab];exact hr2
 ·rw[ho4 b hbc];exact hr3
 ·rw[ho4 k h3',ho3 k h2',ho2 k h1']
  exact(hle1 k h[k] (Array.getElem?_eq_getElem (by omega))).trans (Array.getElem?_eq_getElem (by omega)).symm
theorem zX{a c:Nat}{h:Heap}:p7 Tryz.prog N.b8 #[.pointer (some ⟨a,0,none⟩),.pointer (some ⟨b,0,none⟩),.pointer (some ⟨c,0,none⟩)] .returning h (fun u' h'=>u' = .returning∧h'=h):=by
 refine nD (args:=[.pointer (some ⟨a,0,none⟩),.pointer (some ⟨b,0,none⟩),.pointer (some ⟨c,0,none⟩)]) (t:=6) (L:=L.b8.body.tail) (tys:=#[]) follows F.b8 Q.b8 (by kernel_rfl) (by kernel_rfl) (by kernel_rfl) (Nat.le_of_ble_eq_true (by kernel_rfl)) E.nP (by kernel_rfl) (by kernel_rfl) (Nat.le_of_ble_eq_true (by kernel_rfl)) ?_
 have hrec:jj .returning=(.nilIface,.returning):=rfl
 rw[hrec]
 simp[L.b8,LC.tail]
 refine yu (ms:=#[]) (by kernel_rfl) rfl (.inl ⟨rfl,rfl⟩) ?_
 simp
def manyN (f:ah) (k:Nat):Int:=up (fun i n=>n+(((nth f.blocks i).phis.length:Int)+(nth f.blocks i).ins.length)) k f.blocks.length
def BA (f:ah):Int:=manyN f f.blocks.length
def oQ (g:Gr):List Int:=(uZ g (g.length*g.length+1)).getD []
def vj (f:ah):Except Tr MW→Except Tr Unit
 | .error t=>.error t
 | .ok m=>p9 f m (oQ (ofG f.blocks))
def ky (f:ah):Except Tr Unit:=
 if bA f.params 0 4=false then .error (1,0,0)
 else if f.blocks.length=0 then .error (14,0,0)
 else if ¬(f.blocks.length≤512∧BA f≤4096) then .error (2,0,0)
 else vj f (kF f (fun _=>none))
def kU (f:ah):Tr:=match ky f with
 | .ok _=>(0,0,0)
 | .error t=>t
theorem Gi{f:ah}{k:Nat}:0≤manyN f k:=by
 unfold manyN
 induction k with
 | zero=>simp[up]
 | succ k ih=>rw[up];omega
theorem De{f:ah}{m m':MW}(h:kF f m = .ok m'): ∀i,i<f.blocks.length→(nth f.blocks i).term.to.length≤65:=by
 intro i hi
 have key : ∀n,n≤f.blocks.length→∃s,upE (blkS f) n m = .ok s:=fun n hn=>by
  cases e:upE (blkS f) n m with
  | ok s=>exact⟨s,rfl⟩
  | error t=>rw[kF,xw hn e]at h;cases h
 obtain⟨s,hs⟩:=key i (by omega)
 obtain⟨s',hs'⟩:=key (i+1) hi
 rw[lJ hs,blkS]at hs'
 split at hs'
 ·cases hs'
 ·split at hs'
  ·cases hs'
  ·rw[endS]at hs'
   split at hs'
   ·rename_i hok
    rw[nN]at hok
    split at hok
    ·rename_i sh hsh
     simp only[bA,Bool.and_eq_true,decide_eq_true_eq]at hok
     have:sh.2.2.2≤65:=by
      simp only[fE,putM]at hsh
      repeat' (split at hsh)
      all_goals first | (cases hsh;done) | (cases hsh;decide)
     omega
    ·cases hok
   ·cases hs'
theorem Df{g:Gr}(hg:0<g.length):uZ g (g.length*g.length+1)=some (oQ g):=by
 obtain⟨_,_,l,hl,_⟩:=vU hg
 rw[oQ,hl];rfl
theorem one_cell{row r:Array Value}{v:Value}(hv:v.cells = #[v])(hr:r.size=1)(he:row.toList=r.toList.take 0++v.cells.toList++r.toList.drop (0+1)):row = #[v]:=by
 rw[←Array.toList_inj,he,hv,List.take_zero,List.nil_append,List.drop_eq_nil_of_le (by simp[hr])]
 simp
structure SmB (x:BlkD):Prop where
 phis:x.phis.length≤10000
 ins:x.ins.length≤10000
 args:x.term.args.length≤10000
 to:x.term.to.length≤10000
 phi : ∀i,i<x.phis.length→(nth x.phis i).ins.length≤10000
 inn : ∀i,i<x.ins.length→(nth x.ins i).args.length≤10000
structure SmF (f:ah):Prop where
 len:f.blocks.length≤10000
 blk : ∀i,i<f.blocks.length→SmB (nth f.blocks i)
theorem FF{f:ah}{v:Value}{h:Heap}(hv:Rd (vw h) v f)(hsm:SmF f):
  aB Tryz.prog N.fA #[v] h (fun u h'=>u = .tuple #[.int .i64 (kU f).1,.int .i64 (kU f).2.1,.int .i64 (kU f).2.2]∧(vw h).le (vw h')):=by
 refine oM (args:=[v]) (g:=N.b8) (t:=9) (capops:=#[.tmp 2,.tmp 3,.tmp 4]) (tys:=#[])
  (Mid:=fun ρ hh=>ρ=[(0,v),(1,.pointer (some ⟨h.size,0,none⟩)),(2,.pointer (some ⟨h.size+1,0,none⟩)),(3,.pointer (some ⟨h.size+2,0,none⟩)),(4,.pointer (some ⟨h.size+3,0,none⟩))]∧hh.size=h.size+4∧(vw h).le (vw hh)∧At (vw hh) ⟨h.size,0,none⟩ f∧
   hh[h.size+1]? = some (.cells #[.int .i64 0] T.lF (0,0))∧hh[h.size+2]? = some (.cells #[.int .i64 0] T.int (0,0))∧hh[h.size+3]? = some (.cells #[.int .i64 0] T.int (0,0)))
  follows F.fA B.fA (by kernel_rfl) (by kernel_rfl) (by kernel_rfl) (by kernel_rfl) (by kernel_rfl) (by kernel_rfl) (Nat.le_of_ble_eq_true (by kernel_rfl)) (by kernel_rfl) E.jE (by kernel_rfl) E.gA (by kernel_rfl) R.uM (Nat.le_of_ble_eq_true (by kernel_rfl)) ?_ ?_
 ·simp[L.jE]
  refine ic rfl hv fun h1 e1 hle1 hs1 hat=>?_
  refine eN (z:=.int .i64 0) (by kernel_rfl) ?_
  refine eN (z:=.int .i64 0) (by kernel_rfl) ?_
  refine eN (z:=.int .i64 0) (by kernel_rfl) ?_
  have q1:=bD h1 (.cells (Value.int .i64 0).cells T.lF)
  generalize e2:h1.push (.cells (Value.int .i64 0).cells T.lF)=h2 at q1
  have b2:h2[h1.size]? = some (.cells #[.int .i64 0] T.lF (0,0)):=by rw[←e2];simp
  have s2:h2.size=h1.size+1:=by rw[←e2];simp
  have q2:=bD h2 (.cells (Value.int .i64 0).cells T.int)
  generalize e3:h2.push (.cells (Value.int .i64 0).cells T.int)=h3 at q2
  have b3:h3[h2.size]? = some (.cells #[.int .i64 0] T.int (0,0)):=by rw[←e3];simp
  have s3:h3.size=h2.size+1:=by rw[←e3];simp
  have q3:=bD h3 (.cells (Value.int .i64 0).cells T.int)
  generalize e4:h3.push (.cells (Value.int .i64 0).cells T.int)=h4 at q3
  have b4:h4[h3.size]? = some (.cells #[.int .i64 0] T.int (0,0)):=by rw[←e4];simp
  have s4:h4.size=h3.size+1:=by rw[←e4];simp
  have hsz:h1.size=h.size+1:=hs1
  have e22:h2.size=h.size+2:=by omega
  have e32:h3.size=h.size+3:=by omega
  rw[hsz]at b2
  rw[e22]at b3
  rw[e32]at b4
  rw[e22,e32,hsz]
  simp
  exact⟨by omega,View.le_trans hle1 (View.le_trans q1 (View.le_trans q2 q3)),hat.mono (View.le_trans q1 (View.le_trans q2 q3)),q3 _ _ (q2 _ _ b2),q3 _ _ b3,b4⟩
 ·rintro ρ hh ⟨rfl,hs,hle,hat,hb1,hb2,hb3⟩
  refine⟨[.pointer (some ⟨h.size+1,0,none⟩),.pointer (some ⟨h.size+2,0,none⟩),.pointer (some ⟨h.size+3,0,none⟩)],by simp[qy],
   ⟨fun ch h2=>∃t,ky f = .error t∧ch=trV t∧(vw hh).le (vw h2),fun ρ=>Lft.look ρ 2=some (.pointer (some ⟨h.size+1,0,none⟩))∧Lft.look ρ 3=some (.pointer (some ⟨h.size+2,0,none⟩))∧Lft.look ρ 4=some (.pointer (some ⟨h.size+3,0,none⟩))⟩,?_,?_⟩
  rotate_left
  ·rintro ch ρ2 h2 ⟨t,ht,rfl,hle2⟩ ⟨l2,l3,l4⟩
   refine⟨_,E1 (hle2 _ _ hb1) (hle2 _ _ hb2) (hle2 _ _ hb3) rfl rfl rfl (by omega) (by omega) (by omega),?_⟩
   rintro u' h3 ⟨rfl,g1,g2,g3,gs,go⟩
   have c1:an (vw h3) ⟨h.size+1,0,none⟩=some (.int .i64 t.1):=bP (show vw h3 _=_ from g1) rfl
   have c2:an (vw h3) ⟨h.size+2,0,none⟩=some (.int .i64 t.2.1):=bP (show vw h3 _=_ from g2) rfl
   have c3:an (vw h3) ⟨h.size+3,0,none⟩=some (.int .i64 t.2.2):=bP (show vw h3 _=_ from g3) rfl
   refine⟨rfl,[.int .i64 t.1,.int .i64 t.2.1,.int .i64 t.2.2],by simp[R.fA,l2,l3,l4,c1,c2,c3],?_⟩
   refine⟨by simp[kU,ht],fun b o hb=>?_⟩
   have hlt:=View.lt (View.le_refl (vw h)) hb
   show h3[b]? = _
   have hb2':=hle2 _ _ (hle _ _ hb)
   have hlt2:=View.lt (View.le_refl (vw h2)) hb2'
   rw[go b hlt2 (by omega) (by omega) (by omega)]
   exact hb2'
  ·obtain⟨cp,vb,cb⟩:=gW hat
   have hbb:=cb.2.bound
   have bad : ∀{t:Tr} {ch:List PanicEntry} {h2:Heap},ky f = .error t→ch=trV t→(vw hh).le (vw h2)→∃t,ky f = .error t∧ch=trV t∧(vw hh).le (vw h2):=fun a b c=>⟨_,a,b,c⟩
   simp only[kQ,BJ]
   dsimp only[L.gA]
   refine aa fun z hz=>?_
   simp[cp]
   refine af (by kernel_rfl) ju ?_
   rintro _ _ ⟨rfl,rfl⟩
   refine dD (by kernel_rfl) gO ?_ ?_
   rotate_left
   ·rintro _ _ ⟨e,rfl,rfl⟩
    exact⟨.inl rfl,bad (by rw[ky,if_pos e]) rfl (View.le_refl _)⟩
   rintro _ hh ⟨e1,rfl⟩
   have e1':¬bA f.params 0 4=false:=by rw[e1];simp
   rw[hz];clear hz z
   refine aa fun z hz=>?_
   simp[cb.1,cb.2.len]
   refine dD (by kernel_rfl) gO ?_ ?_
   rotate_left
   ·rintro _ _ ⟨e,rfl,rfl⟩
    exact⟨.inl rfl,bad (by rw[ky,if_neg e1',if_pos (by simpa using e)]) rfl (View.le_refl _)⟩
   rintro _ hh ⟨e2,rfl⟩
   have e2':¬f.blocks.length=0:=by
    intro e;rw[e]at e2;simp at e2
   rw[hz];clear hz z
   refine aa fun z hz=>?_
   simp[cb.1,cb.2.len]
   rw[hz];clear hz z
   refine aa fun z hz=>?_
   simp[cb.1,cb.2.len]
   refine aW [1,2,3,4,5,23,24,25] (fun(_:Unit) k=>[.pointer (some ⟨h.size,0,none⟩),.pointer (some ⟨h.size+1,0,none⟩),.pointer (some ⟨h.size+2,0,none⟩),.pointer (some ⟨h.size+3,0,none⟩),.int .i64 (manyN f k),vb,.int .i64 f.blocks.length,.int .i64 k])
    (fun _ k h1=>(vw hh).le (vw h1)∧manyN f k≤f.blocks.length+k*2000000) f.blocks.length ()
    rfl (by omega) rfl ⟨View.le_refl _,by simp[manyN,up]⟩ (fun _ _=>rfl) (fun v i h1 hk m=>by simp) ?_ ?_
   ·rintro _ k h1 hlt ⟨hle1,hmk⟩ K2 hK2
    have cb1:=cb.2.mono hle1
    obtain⟨u,hu,hur⟩:=cb1.wh rfl (N:=6) rfl hlt
    refine aa fun y hy=>?_
    simp(disch:=omega)[cb1.idxn (N:=6) rfl,hu _ (View.le_refl _)]
    refine iA (z:=.agg #[.slice none 0 0,.slice none 0 0,.int .i64 0,.slice none 0 0,.slice none 0 0,.int .i32 0]) (by kernel_rfl) rfl (by kernel_rfl) hur (fun _=>by simp) (fun _=>by simp) fun h2 hle2 hsz2 hat2=>?_
    obtain⟨vp,vi,va,vt,bp,bi,_⟩:=jK (hat2 (vw h2) hle2 rfl)
    have bph:=bp.2.bound
    have bih:=bi.2.bound
    have hm1:manyN f (k+1)=manyN f k+(((nth f.blocks k).phis.length:Int)+(nth f.blocks k).ins.length):=rfl
    have h0:=Gi (f:=f) (k:=k)
    rw[hy];clear hy y
    simp[bp.1,bp.2.len,bi.1,bi.2.len]
    have s1:=(hsm.blk k hlt).phis
    have s2:=(hsm.blk k hlt).ins
    have s0:=hsm.len
    rw[bN (a:=((nth f.blocks k).phis.length:Int)+(nth f.blocks k).ins.length) (by omega) (by omega),bN (by omega) (by omega)]
    exact hK2 () _ _ rfl (by rw[hm1];rfl) ⟨View.le_trans hle1 hle2,by rw[hm1];omega⟩
   ·rintro _ h1 ⟨hle1,hmk⟩
    simp
    rw[hz];clear hz z
    refine aa fun z hz=>?_
    have cb1:=cb.2.mono hle1
    have cc1:=ae hle1 cb.1
    have cp1:=ae hle1 cp
    simp[cc1,cb1.len]
    have hms:manyN f f.blocks.length=BA f:=rfl
    rw[hms]
    refine dD (by kernel_rfl) gO ?_ ?_
    rotate_left
    ·rintro _ _ ⟨e,rfl,rfl⟩
     refine⟨.inl rfl,bad ?_ rfl hle1⟩
     rw[ky,if_neg e1',if_neg e2',if_pos]
     intro e3
     simp at e;omega
    rintro _ h1 ⟨e3,rfl⟩
    have e3':¬¬(f.blocks.length≤512∧BA f≤4096):=by
     simp at e3;omega
    have hchk:ky f=vj f (kF f (fun _=>none)):=by rw[ky,if_neg e1',if_neg e2',if_neg e3']
    rw[hz];clear hz z
    refine aa fun z hz=>?_
    simp[Dn cp1 cc1]
    refine pB ?_
    have hle2:=bD h1 (.map #[] 0)
    have hm2:fT (.int .i64) (h1.push (.map #[] 0)) h1.size (mapE encW fun _=>none):=by rw[wH];exact fT.none (by simp)
    have hs2:(h1.push (.map #[] 0)).size=h1.size+1:=by simp
    generalize h1.push (.map #[] 0)=h2 at hle2 hm2 hs2
    refine aS (z:=.agg #[.int .i64 0,.slice none 0 0,.map none]) (places:=[(0,2),(2,1)]) (vs:=[(0,.agg #[.int .i64 f.params,vb]),(1,.map (some h1.size))]) (cs:=#[.int .i64 f.params,vb,.map (some h1.size)]) (by kernel_rfl) (by kernel_rfl) (by simp) (by rfl) ?_
    refine ln (v:=.agg #[.int .i64 f.params,vb,.map (some h1.size)]) rfl ?_
    have hle3:=bD h2 (.cells (Value.cells (.agg #[.int .i64 f.params,vb,.map (some h1.size)])) T.ia)
    have hbk:(h2.push (.cells (Value.cells (.agg #[.int .i64 f.params,vb,.map (some h1.size)])) T.ia))[h2.size]? = some (.cells #[.int .i64 f.params,vb,.map (some h1.size)] T.ia (0,0)):=by simp
    have hs3:(h2.push (.cells (Value.cells (.agg #[.int .i64 f.params,vb,.map (some h1.size)])) T.ia)).size=h2.size+1:=by simp
    generalize h2.push (.cells (Value.cells (.agg #[.int .i64 f.params,vb,.map (some h1.size)])) T.ia)=h3 at hle3 hbk hs3
    rw[hz];clear hz z
    have hsk:skip h1.size h3 h2.size=some (.cells #[.int .i64 f.params,vb,.map (some h1.size)] T.ia (0,0)):=by rw[iZ (by omega)];exact hbk
    have hle13:=View.le_trans hle2 hle3
    have hle1k:(vw h1).le (skip h1.size h3):=fun b o hb=>by
     have hlt:=View.lt (View.le_refl (vw h1)) hb
     rw[iZ (by omega)];exact hle13 b o hb
    have k3:Lk h3 h2.size h1.size vb f (fun _=>none):=⟨bP hsk rfl,bP hsk rfl,bP hsk rfl,cb1.mono hle1k,hm2.ext hle3⟩
    generalize h2.size=Kb at k3
    generalize hr:h1.size=r at k3
    have hkk : ∀{h':Heap},Kept h3 h' (some r)→(vw hh).le (vw h'):=fun kp b o hb=>by
     have h1b:=hle1 b o hb
     have hlt:=View.lt (View.le_refl (vw h1)) h1b
     have h3b:=hle13 b o h1b
     have hlt3:=View.lt (View.le_refl (vw h3)) h3b
     show _=_
     exact(kp.block b hlt3 (by simp;omega)).trans h3b
    refine aa fun z hz=>?_
    simp
    refine dD (by kernel_rfl) (EI k3) ?_ ?_
    rotate_left
    ·rintro _ h4 ⟨t,ht,rfl,kp4⟩
     exact⟨.inl rfl,bad (by rw[hchk,ht];rfl) rfl (hkk kp4)⟩
    rintro _ h4 ⟨m4,hm4,k4,kp4⟩
    have hto:=De hm4
    rw[hm4]at hchk
    have hchk:ky f=p9 f m4 (oQ (ofG f.blocks)):=hchk
    rw[hz];clear hz z
    refine aa fun z hz=>?_
    simp
    have hgl:(ofG f.blocks).length=f.blocks.length:=by simp[ofG]
    refine dD (by kernel_rfl) (Fq k4 (Nat.le_trans hsm.len (by decide)) (fun i hi=>Nat.le_trans (hto i hi) (by decide)) (Df (by omega))) ?_ ?_
    rotate_left
    ·rintro _ h5 ⟨t,ht,rfl,hle5⟩
     exact⟨.inl rfl,bad (by rw[hchk,ht]) rfl (View.le_trans (hkk kp4) hle5)⟩
    rintro _ h5 ⟨hus,hle5⟩
    have hle05:=View.le_trans (hkk kp4) hle5
    rw[hz];clear hz z
    simp
    refine dU (g:=h.size+1) (o:=0) (n:=1) (v:=.int .i64 0) (by kernel_rfl) rfl rfl rfl (by simp[Value.oneCell']) (hle05 _ _ hb1) (by simp) fun h6 hs6 ⟨row6,hr6,he6⟩ ho6=>?_
    refine dU (g:=h.size+2) (o:=0) (n:=1) (v:=.int .i64 0) (by kernel_rfl) rfl rfl rfl (by simp[Value.oneCell']) ((ho6 _ (by omega)).trans (hle05 _ _ hb2)) (by simp) fun h7 hs7 ⟨row7,hr7,he7⟩ ho7=>?_
    refine dU (g:=h.size+3) (o:=0) (n:=1) (v:=.int .i64 0) (by kernel_rfl) rfl rfl rfl (by simp[Value.oneCell']) ((ho7 _ (by omega)).trans ((ho6 _ (by omega)).trans (hle05 _ _ hb3))) (by simp) fun h8 hs8 ⟨row8,hr8,he8⟩ ho8=>?_
    rw[one_cell rfl rfl he6]at hr6
    rw[one_cell rfl rfl he7]at hr7
    rw[one_cell rfl rfl he8]at hr8
    refine⟨_,zX,?_⟩
    rintro u' h9 ⟨rfl,rfl⟩
    have c1:an (vw h9) ⟨h.size+1,0,none⟩=some (.int .i64 0):=bP (show vw h9 _=_ from(ho8 _ (by omega)).trans ((ho7 _ (by omega)).trans hr6)) rfl
    have c2:an (vw h9) ⟨h.size+2,0,none⟩=some (.int .i64 0):=bP (show vw h9 _=_ from(ho8 _ (by omega)).trans hr7) rfl
    have c3:an (vw h9) ⟨h.size+3,0,none⟩=some (.int .i64 0):=bP (show vw h9 _=_ from hr8) rfl
    refine⟨rfl,[.int .i64 0,.int .i64 0,.int .i64 0],by simp[R.fA,c1,c2,c3],?_⟩
    have htold:kU f=(0,0,0):=by rw[kU,hchk,hus]
    refine⟨by simp[htold],fun b o hb=>?_⟩
    have hlt:=View.lt (View.le_refl (vw h)) hb
    show h9[b]? = _
    rw[ho8 b (by omega),ho7 b (by omega),ho6 b (by omega)]
    exact hle05 _ _ (hle _ _ hb)
structure Th where
 blk:Int
 place:Int
 mks:List Int
 tks:List Int
 deriving Inhabited
def phiT (f:ah) (b i:Nat):Th:=⟨b,-1-i,[(nth (nth f.blocks b).phis i).dst],(nth (nth f.blocks b).phis i).ins.map InD.val⟩
def insT (f:ah) (b i:Nat):Th:=⟨b,i,a6 (nth (nth f.blocks b).ins i),(nth (nth f.blocks b).ins i).args⟩
def endT (f:ah) (b:Nat):Th:=⟨b,(nth f.blocks b).ins.length,[],(nth f.blocks b).term.args⟩
def thB (f:ah) (b:Nat):List Th:=rows (phiT f b) (nth f.blocks b).phis.length++rows (insT f b) (nth f.blocks b).ins.length++[endT f b]
def thTo (f:ah) (n:Nat):List Th:=up (fun b l=>l++thB f b) n []
def aF (f:ah):List Th:=thTo f f.blocks.length
theorem eK{f:ah}:thTo f (n+1)=thTo f n++thB f n:=rfl
def lZ (top n:Int):Int:=if bA n 0 8191 then(if top<n+1 then n+1 else top) else top
def IX (top:Int) (t:Th):Int:=t.mks.foldl lZ top
def wO (ps:Int):Int:=if 8192<(if ps<0 then 0 else ps) then 8192 else(if ps<0 then 0 else ps)
def topS (f:ah):Int:=(aF f).foldl IX (wO f.params)
theorem oe {α β:Type} (I:β→Prop) {f:β→α→β} (hf : ∀x a,I x→I (f x a)) : ∀(l:List α) (x:β),I x→I (l.foldl f x)
 | [],_,h=>h
 | a::l,x,h=>oe I hf l _ (hf x a h)
structure Nv (D:Nat) (T:TypeId) (x:Int) (W:View) (h:Heap):Prop where
 le:W.le (vw h)
 av:W D=none
 cell:h[D]? = some (.cells #[.int .i64 x] T (0,0))
theorem Nv.lt{D:Nat}{T:TypeId}{x:Int}{W:View}{h:Heap}(k:Nv D T x W h):D<h.size:=(Array.getElem?_eq_some_iff.1 k.cell).1
theorem Nv.ext{D:Nat}{T:TypeId}{x:Int}{W:View}{h h':Heap}(k:Nv D T x W h)(hle:(vw h).le (vw h')):Nv D T x (grow W h h') h':=
 ⟨kT (View.le_trans k.le hle),by rw[oK k.lt];exact k.av,hle _ _ k.cell⟩
structure Us (D:Nat) (vo:Value) (l:List Int) (W:View) (h:Heap):Prop where
 le:W.le (vw h)
 av:Av W vo
 own:OwnT nothing h T.int vo l
 box:an W ⟨D,0,none⟩=some vo
theorem Us.ext {D:Nat} {vo:Value} {l:List Int} {W:View} {h h':Heap} (k:Us D vo l W h) (hle:(vw h).le (vw h')):Us D vo l (grow W h h') h':=
 ⟨kT (View.le_trans k.le hle),k.av.grow fun b hb=>k.own.lt hb,k.own.ext hle,ae (cy k.le) k.box⟩
theorem Us.now {D:Nat} {vo:Value} {l:List Int} {W:View} {h:Heap} (k:Us D vo l W h):SlRd (vw h) vo l:=k.own.now cU
theorem sZ{β:Type}{x:Nat→β}{y:β}:y∈rows x n↔∃i,i<n∧y=x i:=by
 simp only[rows,List.mem_map,List.mem_range]
 exact⟨fun⟨i,h,e⟩=>⟨i,h,e.symm⟩,fun⟨i,h,e⟩=>⟨i,h,e.symm⟩⟩
theorem bC{f:ah}{t:Th}:t∈thTo f n↔∃b,b<n∧t∈thB f b:=by
 induction n with
 | zero=>simp[thTo,up]
 | succ n ih=>
  rw[eK,List.mem_append,ih]
  constructor
  ·rintro(⟨b,h1,h2⟩ | h)
   ·exact⟨b,by omega,h2⟩
   ·exact⟨n,by omega,h⟩
  ·rintro⟨b,h1,h2⟩
   rcases Nat.lt_or_ge b n with h | h
   ·exact .inl ⟨b,h,h2⟩
   ·rw[show b=n by omega]at h2;exact .inr h2
theorem bU{f:ah}{t:Th}:t∈thB f b↔(∃i,i<(nth f.blocks b).phis.length∧t=phiT f b i)∨(∃i,i<(nth f.blocks b).ins.length∧t=insT f b i)∨t=endT f b:=by
 simp only[thB,List.mem_append,sZ,List.mem_singleton,or_assoc]
theorem yi {f:ah} (hsm:SmF f) : ∀{n:Nat},n≤f.blocks.length→(thTo f n).length≤n*20001
 | 0,_=>by simp[thTo,up]
 | n+1,h=>by
  have ih:=yi hsm (n:=n) (by omega)
  have s:=hsm.blk n (by omega)
  have sp:=s.phis
  have si:=s.ins
  rw[eK,List.length_append,thB]
  simp only[List.length_append,lS,List.length_singleton]
  omega
theorem nR{d:InsD}{v:Value}{h:Heap}(hd:Rd (vw h) v d):aB Tryz.prog N.fe #[v] h (fun u h'=>(vw h).le (vw h')∧SlRd (fresh h h') u (a6 d)∧(d.op=16→u = .slice none 0 0)):=by
 refine ao (args:=[v]) follows F.fe E.fe (Nat.le_of_ble_eq_true (by kernel_rfl)) fun K hK=>?_
 simp[L.fe]
 refine ic rfl hd fun h1 _ hle1 hsz1 hat=>?_
 obtain⟨c0,c1,c2,va,ca⟩:=sM hat
 have r1:=(hat.part InsD.je).rng
 have r2:=(hat.part InsD.rV).rng
 simp[c0]
 refine⟨fun e1=>hK _ _ ⟨hle1,by simpa[a6,e1]using gk,fun _=>rfl⟩,fun e1=>⟨fun e2=>?_,fun e2=>?_⟩⟩
 ·simp[c1,c2]
  refine kW (X:=nothing) (ds:=[d.dst,d.two]) (vs:=[.int .i64 d.dst,.int .i64 d.two]) rfl El.bc (by simp) ⟨dR.2 ⟨rfl,r1⟩,dR.2 ⟨rfl,r2⟩,trivial⟩ cU rfl (by omega) fun u h2 hle2 hsz2 hu _=>?_
  exact hK _ _ ⟨View.le_trans hle1 hle2,by simpa[a6,e2]using hu _ cU (by unfold fresh;rw[if_neg (by omega)]),fun e=>absurd e e1⟩
 ·simp[c1]
  refine kW (X:=nothing) (ds:=[d.dst]) (vs:=[.int .i64 d.dst]) rfl El.bc (by simp) ⟨dR.2 ⟨rfl,r1⟩,trivial⟩ cU rfl (by omega) fun u h2 hle2 hsz2 hu _=>?_
  exact hK _ _ ⟨View.le_trans hle1 hle2,by simpa[a6,e1,e2]using hu _ cU (by unfold fresh;rw[if_neg (by omega)]),fun e=>absurd e e1⟩
def qz (op n:Int):Bool:=if op=1 then decide (n=0) else if op=15 then decide (n=1) else if op=17 then decide (n≤4) else decide (n=2)
def jq (t:dp):Bool:=
 if t.kind=1 then decide ((t.args.length:Int)=0)&&decide ((t.to.length:Int)=1)
 else if t.kind=2 then decide ((t.args.length:Int)=1)&&decide ((t.to.length:Int)=2)
 else if t.kind=3 then decide ((t.args.length:Int)=1)&&decide ((2:Int)≤t.to.length)&&decide ((t.to.length:Int)≤65)
 else if t.kind=4 then decide ((t.args.length:Int)≤1)&&decide ((t.to.length:Int)=0)
 else if t.kind=5 then decide ((t.args.length:Int)=0)&&decide ((t.to.length:Int)=0) else false
def aw (f:ah) (b:Int):List Int:=sift (fun a=>decide (b∈(nth f.blocks a).term.to)) (fun a=>(a:Int)) f.blocks.length
theorem sF{v:Value}{l:List BlkD}(h:SlRd H v l){i:Nat}(hi:i<l.length): ∃u,Sl H ((((slA v).add (i*6)).add 2).add 2) u (nth l i).term.to:=by
 rw[ak hi]
 exact((((h.at hi).part BlkD.mw).part dp.zT)).sl
theorem rO{f:ah}{b:Int}{v:Value}{h:Heap}(hv:Rd (vw h) v f)(hn:f.blocks.length≤1000000):
  aB Tryz.prog N.dC #[v,.int .i64 b] h (fun u h'=>(vw h).le (vw h')∧SlRd (fresh h h') u (aw f b)):=by
 refine ao (args:=[v,.int .i64 b]) follows F.dC E.dC (Nat.le_of_ble_eq_true (by kernel_rfl)) fun K hK=>?_
 dsimp only[L.dC]
 refine aa fun z hz=>?_
 simp
 refine ic rfl hv fun h1 _ hle1 hsz1 hat=>?_
 obtain⟨_,vb,cb⟩:=gW hat
 generalize h.size=B at cb
 rw[hz];clear hz z
 refine aa fun z hz=>?_
 simp
 refine sC (α:=Int) El.bc fun h2 hle2 hsz2 own2=>?_
 have m0:=Mine.empty (V:=nothing) (W:=nothing) (View.le_refl (vw h1)) hle2 cU (Old.nothing _ _) own2
 generalize Value.slice (some ⟨h1.size,0,none⟩) 0 0=v0 at m0
 have cb2:=cb.2
 have cc2:=cb.1
 rw[hz];clear hz z
 refine aa fun z hz=>?_
 simp
 refine bM [1,2,5,6] (fun(r:Value) k=>[.int .i64 b,.pointer (some ⟨B,0,none⟩),r,.int .i64 k]) (fun r k h3=>Mine nothing h1 h3 nothing T.int r (sift (fun a=>decide (b∈(nth f.blocks a).term.to)) (fun a=>(a:Int)) k)) f.blocks.length v0
  rfl (by omega) rfl m0 (fun _ _=>rfl) (fun v k h3 hk m=>by simp[ae m.old cc2,(cb2.mono m.old).len]) ?_ ?_
 ·rintro r k h3 hlt m K2 hK2
  have hle3:=m.old
  have cb3:=cb2.mono hle3
  obtain⟨w,hw⟩:=sF cb3 hlt
  have hwb:=hw.2.bound
  have hsl:=fH (p:=fun a=>decide (b∈(nth f.blocks a).term.to)) (x:=fun a=>(a:Int)) k
  refine aa fun y hy=>?_
  simp(disch:=omega)[ae hle3 cc2,cb3.idxn (N:=6) rfl,hw.1]
  rw[hy];clear hy y
  simp
  refine bM [1,2,5,6,7,8] (fun(_:Unit) j=>[.int .i64 b,.pointer (some ⟨B,0,none⟩),r,.int .i64 k,w,.int .i64 j]) (fun _ j h4=>h4=h3∧∀i,i<j→nth (nth f.blocks k).term.to i≠b) (nth f.blocks k).term.to.length ()
   rfl (by omega) rfl ⟨rfl,fun i hi=>by omega⟩ (fun _ _=>rfl) (fun v j h4 hk m=>by simp[hw.2.len]) ?_ ?_
  ·rintro _ j h3 hltj ⟨rfl,hpre⟩ K3 hK3
   simp(disch:=omega)[hw.2.idx1 rfl,hw.2.int (View.le_refl _)]
   refine⟨fun e=>?_,fun e=>hK3 () _ _ rfl rfl ⟨rfl,fun i hi=>?_⟩⟩
   ·have hmem:b∈(nth f.blocks k).term.to:=e▸bw hltj
    refine m.push (d:=(k:Int)) El.bc (by simp<;>rfl) (mS (by omega) (by omega)) (by omega) (by omega) (fun _=>by simp) (fun _=>by simp) fun u v' h5 m'=>?_
    exact hK2 v' _ _ rfl rfl (by rw[ib (by simpa using hmem)];exact m')
   ·rcases Nat.lt_or_ge i j with h | h
    ·exact hpre i h
    ·have:i=j:=by omega
     subst this;exact e
  ·rintro _ h3 ⟨rfl,hpre⟩
   have hmem:¬b∈(nth f.blocks k).term.to:=fun hm=>by
    obtain⟨i,hi,e⟩:=List.getElem_of_mem hm
    exact hpre i hi (by rw[ak hi];exact e)
   simp
   exact hK2 r _ _ rfl rfl (by rw[gj (by simpa using hmem)];exact m)
 ·rintro r h3 m
  simp
  rw[hz];clear hz z
  simp
  exact hK _ _ ⟨View.le_trans hle1 m.old,m.fresh.mono (ma hle1)⟩
theorem GF{u:Value}{d:PhiD}(h:Rd H u d): ∃vi,u = .agg #[.int .i64 d.dst,vi]∧I64 d.dst∧SlRd H vi d.ins:=by
 obtain⟨cs,rfl,c1,r1,e1,⟨rfl,hd⟩,vi,h2,h3⟩:=h
 exact⟨vi,by rw[←Array.toList_inj.1 ((by rw[e1,h2];rfl):cs.toList = #[Value.int .i64 d.dst,vi].toList)],hd,h3⟩
theorem Bo{u:Value}{d:InsD}(h:Rd H u d): ∃va,u = .agg #[.int .i64 d.op,.int .i64 d.dst,.int .i64 d.two,va,.int .i32 d.imm.v]∧(I64 d.op∧I64 d.dst∧I64 d.two∧-2147483648≤d.imm.v∧d.imm.v≤2147483647)∧SlRd H va d.args:=by
 obtain⟨cs,rfl,c1,r1,e1,⟨rfl,h1⟩,c2,r2,e2,⟨rfl,h2⟩,c3,r3,e3,⟨rfl,h3⟩,c4,r4,e4,⟨va,rfl,h4⟩,h5,h6⟩:=h
 subst e4 e3 e2
 exact⟨va,by rw[←Array.toList_inj.1 ((by rw[e1,h5];rfl):cs.toList = #[Value.int .i64 d.op,.int .i64 d.dst,.int .i64 d.two,va,.int .i32 d.imm.v].toList)],⟨h1,h2,h3,h6⟩,h4⟩
theorem yP{d:Int}{v:Value}{l:List InD}(h1:I64 d)(h2:SlRd H v l):Rd H (.agg #[.int .i64 d,v]) (PhiD.mk d l):=⟨_,rfl,[.int .i64 d],[v],rfl,⟨rfl,h1⟩,v,rfl,h2⟩
theorem yG{op d two:Int}{imm:I32}{v:Value}{l:List Int}(h:I64 op∧I64 d∧I64 two∧-2147483648≤imm.v∧imm.v≤2147483647)(h2:SlRd H v l):Rd H (.agg #[.int .i64 op,.int .i64 d,.int .i64 two,v,.int .i32 imm.v]) (InsD.mk op d two l imm):=
 ⟨_,rfl,[.int .i64 op],_,rfl,⟨rfl,h.1⟩,[.int .i64 d],_,rfl,⟨rfl,h.2.1⟩,[.int .i64 two],_,rfl,⟨rfl,h.2.2.1⟩,[v],_,rfl,⟨v,rfl,h2⟩,rfl,h.2.2.2⟩
theorem tj{vp vi va vt:Value}{p:List PhiD}{i:List InsD}{a t:List Int}{kd:Int}{imm:I32}(h1:SlRd H vp p)(h2:SlRd H vi i)(h3:SlRd H va a)(h4:SlRd H vt t)(h5:I64 kd)(h6:-2147483648≤imm.v∧imm.v≤2147483647):Rd H (.agg #[vp,vi,.int .i64 kd,va,vt,.int .i32 imm.v]) (BlkD.mk p i ⟨kd,a,t,imm⟩):=
 ⟨_,rfl,[vp],_,rfl,⟨vp,rfl,h1⟩,[vi],_,rfl,⟨vi,rfl,h2⟩,[.int .i64 kd],_,rfl,⟨rfl,h5⟩,[va],_,rfl,⟨va,rfl,h3⟩,[vt],_,rfl,⟨vt,rfl,h4⟩,rfl,h6⟩
theorem oh{α β:Type}[Rep α][Rep β]{v:Value}{l:List α}{l2:List β}(h:SlRd H v l)(hn:Rep.n α=Rep.n β)(hl:l.length=l2.length)(hc : ∀i (h1:i<l.length) (h2:i<l2.length) cs,Rep.rd H cs l[i]→Rep.rd H cs l2[i]):SlRd H v l2:=by
 obtain⟨a,cap,rfl,h1,h2,h3⟩:=h
 refine⟨a,cap,by rw[hl],by omega,by omega,?_⟩
 rcases h3 with rfl | ⟨ad,rfl,hs,hat⟩
 ·left;exact List.eq_nil_of_length_eq_zero (by rw[←hl];rfl)
 ·refine .inr ⟨ad,rfl,hs,fun i hi=>?_⟩
  obtain⟨cs,g1,g2⟩:=hat i (by omega)
  rw[←hn]
  exact⟨cs,g1,hc i (by omega) hi cs g2⟩
theorem nQ{u:Value}{f:ah}(h:Rd H u f): ∃vb,u = .agg #[.int .i64 f.params,vb]∧I64 f.params∧SlRd H vb f.blocks:=by
 obtain⟨cs,rfl,c1,r1,e1,⟨rfl,h1⟩,vb,h2,h3⟩:=h
 exact⟨vb,by rw[←Array.toList_inj.1 ((by rw[e1,h2];rfl):cs.toList = #[Value.int .i64 f.params,vb].toList)],h1,h3⟩
theorem gB{a:Value}{v:Int}(ha:a.oneCell'=true): ∀c∈[Value.int .i64 v,a],c.oneCell'=true:=by
 intro c hc
 simp only[List.mem_cons,List.not_mem_nil,or_false]at hc
 rcases hc with rfl | rfl<;>first | rfl | exact ha
abbrev Q3:=Cat Int (Cat Int Int)
instance:Inhabited Q3:=⟨⟨0,0,0⟩⟩
end Go.Proofs.YtbkdlhkoiagbbaaGreat
namespace Go.Lft
open Go
theorem yj : ∀(l:List Value) (k off:Nat) (A:Array Value),off+k+l.length≤A.size→
  ((l.zipIdx k).foldl (fun(cs:Array Value) (p:Value × Nat)=>cs.setIfInBounds (off+p.2) p.1) A).toList=A.toList.take (off+k)++l++A.toList.drop (off+k+l.length)
 | [],k,off,A,_=>by simp
 | x::l,k,off,A,h=>by
  simp only[List.length_cons]at h
  rw[List.zipIdx_cons,List.foldl_cons,yj l (k+1) off _ (by simp;omega)]
  have hk:off+k<A.toList.length:=by simp;omega
  simp only[Array.toList_setIfInBounds,List.length_cons]
  rw[show off+(k+1)=off+k+1 by omega,List.take_succ_eq_append_getElem (by simpa using hk),List.take_set_of_le (Nat.le_refl _),List.getElem_set_self,List.drop_set_of_lt (by omega),show off+k+1+l.length=off+k+(l.length+1) by omega]
  simp
theorem rR {s:Nat} : ∀(vs:List Value) (k:Nat) (A:Array Value),(∀v∈vs,v.cells.size=s)→(k+vs.length)*s=A.size→
  ∃B,Instr.fill (fun j=>some (j*s,s)) A ((vs.zipIdx k).map fun p=>(p.2,p.1))=some B∧B.toList=A.toList.take (k*s)++vs.flatMap fun v=>v.cells.toList
 | [],k,A,_,hk=>⟨A,rfl,by rw[List.take_of_length_le (by simp at hk;simp[hk])];simp⟩
 | v::vs,k,A,hv,hk=>by
  have hc:=hv v (List.mem_cons_self ..)
  have e1:(k+(vs.length+1))*s=(k+1+vs.length)*s:=by rw[show k+(vs.length+1)=k+1+vs.length by omega]
  have e2:(k+1+vs.length)*s=k*s+s+vs.length*s:=by rw[Nat.add_mul,Nat.add_mul,Nat.one_mul]
  simp only[List.length_cons]at hk
  have e3:(k+1)*s=k*s+s:=by rw[Nat.add_mul,Nat.one_mul]
  have hF:(v.cells.zipIdx.foldl (fun(cs:Array Value) (x:Value × Nat)=>cs.setIfInBounds (k*s+x.2) x.1) A).toList=A.toList.take (k*s)++v.cells.toList++A.toList.drop (k*s+s):=by
   rw[←Array.foldl_toList,Array.toList_zipIdx]
   have:=yj v.cells.toList 0 (k*s) A (by simp[hc];omega)
   simpa[hc]using this
  obtain⟨B,h1,h2⟩:=rR vs (k+1) (v.cells.zipIdx.foldl (fun(cs:Array Value) (x:Value × Nat)=>cs.setIfInBounds (k*s+x.2) x.1) A) (fun u hu=>hv u (List.mem_cons_of_mem _ hu)) (by
   rw[←Array.length_toList,hF]
   simp[hc];omega)
  refine⟨B,?_,?_⟩
  ·simp only[List.zipIdx_cons,List.map_cons,Instr.fill,hc]
   rw[if_neg (by simp;omega)]
   exact h1
  ·rw[h2,hF,e3,List.flatMap_cons,List.take_append_of_le_length (by simp[hc];omega),List.take_of_length_le (by simp[hc];omega),List.append_assoc]
theorem tZ {s:Nat} : ∀(vs:List Value) (i:Nat) (hi:i<vs.length),(∀v∈vs,v.cells.size=s)→((vs.flatMap fun v=>v.cells.toList).drop (i*s)).take s=vs[i].cells.toList
 | v::vs,0,_,hv=>by
  have hc:=hv v (List.mem_cons_self ..)
  simp only[Nat.zero_mul,List.drop_zero,List.flatMap_cons,List.getElem_cons_zero]
  rw[List.take_append_of_le_length (by simp[hc]),List.take_of_length_le (by simp[hc])]
 | v::vs,i+1,hi,hv=>by
  have hc:=hv v (List.mem_cons_self ..)
  have:=tZ vs i (by simpa using hi) fun u hu=>hv u (List.mem_cons_of_mem _ hu)
  rw[List.flatMap_cons,show(i+1)*s=v.cells.toList.length+i*s by rw[Nat.add_mul];simp[hc];omega,←List.drop_drop,List.drop_left]
  simpa using this
theorem Fc{po:OP}{α:Type}[Rep α]{P:Program}{t e n:Nat}{ty:TypeId}{bytes:Nat}{z:Value}{ps:Array (Nat × Operand)}{us:List (Nat × Value)}{vs:List Value}{ds:List α}{h:Heap}{K:Value→Heap→Prop}(hT:en P t e (Rep.n α) bytes z)(hp:ps.map (fun p=>(p.1,asg us p.2))=((vs.zipIdx 0).map fun p=>(p.2,p.1)).toArray){X:View}(hr:kY X vs ds)(hn:ds.length=n)(hb:n*Rep.n α≤16777216)(hb2:n≤16777216)(hk : ∀u h',(vw h).le (vw h')→h'.size=h.size+1→(∀Y:View,X.le Y→Y h.size=h'[h.size]?→SlRd Y u ds)→u.ownBlock=some h.size→K u h'):step P (.buildSlice t n ps) ty us h K:=by
 have hl:=hr.len
 have hcs : ∀v∈vs,v.cells.size=Rep.n α:=fun v hv=>by
  obtain⟨i,hi,rfl⟩:=List.getElem_of_mem hv
  exact(jQ (hr.get i hi (by omega))).2.1
 obtain⟨B,h1,h2⟩:=rR (s:=Rep.n α) vs 0 ((Array.range (n*Rep.n α)).map (z.cells[· % z.cells.size]!)) hcs (by simp;rw[hl,hn])
 have hB:B=(vs.flatMap fun v=>v.cells.toList).toArray:=by rw[←Array.toList_inj,h2];simp
 refine qj hT hb hp h1 ?_
 have hle:=bD h (.cells B e)
 refine hk _ _ hle (by simp) (fun Y hY hYb=>⟨some ⟨h.size,0,none⟩,n,by rw[hn],by omega,by omega,.inr ⟨_,rfl,rfl,fun i hi=>?_⟩⟩) rfl
 have hi2:i<vs.length:=by omega
 have hrd:=jQ (hr.get i hi2 hi)
 rw[bn rfl]
 refine⟨vs[i].cells.toList,⟨B,e,(0,0),rfl,by rw[hYb];simp,?_⟩,Rep.mono hY hrd.1⟩
 rw[hB,Nat.zero_add]
 have:=tZ vs i hi2 hcs
 rw[Array.length_toList,hrd.2.1]
 exact this
section
open Go Go.MapKept
def two (a b:Int):Value:=.agg #[.int .i64 a,.int .i64 b]
variable{b:Int}
theorem xE{a c d:Int}:two a b=two c d↔a=c∧b=d:=by simp[two]
structure Tw (P:Program) (k t:TypeId):Prop where
 hk:P.underlying k=some (.array 2 t)
 ht:P.underlying t=some (.int .i64)
 hs:P.cellsOf t=1
section
variable {P:Program} {k t:TypeId} {w:World}
theorem kq(q:Tw P k t){a:Int}{i:Nat}{v:Value}(hi:(#[Value.int .i64 a,.int .i64 b])[i]? = some v):(Go.part t #[.int .i64 a,.int .i64 b] i).run P w = .ok v w:=
 run_part_plain w (by simp[Program.plainKey,q.ht]) hi
theorem pa(q:Tw P k t){e:Bool}{a:Int}{n:Nat}:(Instr.checkKey e (n+2) k (two a b)).run P w = .ok () w:=by
 obtain⟨i,hi⟩:=info_of_underlying q.ht
 unfold Instr.checkKey two
 simp only[Sem.run_bind,run_underlying q.hk,Result.andThen_ok]
 simp only[Std.Legacy.Range.forIn_eq_forIn_range',Std.Legacy.Range.size,Nat.sub_zero,Nat.add_one_sub_one,Nat.div_one]
 have h0:=kq (w:=w) q (a:=a) (b:=b) (i:=0) (v:=.int .i64 a) rfl
 have h1:=kq (w:=w) q (a:=a) (b:=b) (i:=1) (v:=.int .i64 b) rfl
 have hc : ∀x:Int,(Instr.checkKey e (n+1) t (.int .i64 x)).run P w = .ok () w:=fun x=>MapKept.run_checkKey (d:=.int .i64) q.ht (lf (j:=x)) e n
 simp[List.range',Go.run_sizeOf w hi,q.hs,h0,h1,hc,Result.andThen]
theorem td(q:Tw P k t){a c d:Int}:(Op.equal k (two a b) (two c d)).run P w = .ok (decide (a=c∧b=d)) w:=by
 obtain⟨i,hi⟩:=info_of_underlying q.ht
 unfold Op.equal two
 rw[show Op.maxDepth=9998+1+1 from rfl,run_equalIn_array w _ _ _ q.hk hi,q.hs]
 have h0:=kq (w:=w) q (a:=a) (b:=b) (i:=0) (v:=.int .i64 a) rfl
 have h1:=kq (w:=w) q (a:=a) (b:=b) (i:=1) (v:=.int .i64 b) rfl
 have g0:=kq (w:=w) q (a:=c) (b:=d) (i:=0) (v:=.int .i64 c) rfl
 have g1:=kq (w:=w) q (a:=c) (b:=d) (i:=1) (v:=.int .i64 d) rfl
 have he : ∀x y:Int,(Op.equalIn (9998+1) t (.int .i64 x) (.int .i64 y)).run P w = .ok (x == y) w:=fun x y=>run_equalIn_int w 9998 t .i64 .i64 x y q.ht
 by_cases e1:a=c
 ·subst e1
  by_cases e2:b=d
  ·subst e2;simp[List.range,List.range.loop,Op.eqItems,h0,h1,he,Result.andThen]
  ·simp[List.range,List.range.loop,Op.eqItems,h0,h1,g0,g1,he,e2,Result.andThen]
 ·simp[List.range,List.range.loop,Op.eqItems,h0,h1,g0,g1,he,e1,Result.andThen]
structure Map2 (h:Heap) (r:Nat) (f:Int→Int→Option Value):Prop where
 ex : ∃es clock,h[r]? = some (.map es clock)∧(∀x∈es.toList,∃a b,x.key=two a b)∧(∀(i j:Nat) (x y:MapEntry),es[i]? = some x→es[j]? = some y→x.key=y.key→i=j)∧∀a b v,(∃x∈es.toList,x.key=two a b∧x.val=v)↔f a b=some v
theorem Map2.lt{h:Heap}{r:Nat}{f}(m:Map2 h r f):r<h.size:=by
 obtain⟨es,c,h1,_⟩:=m.ex
 exact(Array.getElem?_eq_some_iff.1 h1).1
theorem Map2.same{h h':Heap}{r:Nat}{f}(m:Map2 h r f)(e:h'[r]? = h[r]?):Map2 h' r f:=by
 obtain⟨es,c,h1,h2⟩:=m.ex
 exact⟨es,c,by rw[e];exact h1,h2⟩
theorem Map2.ext{h h':Heap}{r:Nat}{f}(m:Map2 h r f)(hle:(vw h).le (vw h')):Map2 h' r f:=by
 obtain⟨es,c,h1,h2⟩:=m.ex
 exact⟨es,c,hle _ _ h1,h2⟩
theorem Map2.none {h:Heap} {r:Nat} (hr:h[r]? = some (.map #[] 0)):Map2 h r fun _ _=>.none:=
 ⟨#[],0,hr,by simp,by simp,by simp⟩
theorem GZ (q:Tw P k t) {a b:Int} : ∀(l:List MapEntry) (i:Nat),(∀x∈l,∃a b,x.key=two a b)→
  ((Instr.findAsking k (two a b) l i).run P w = .ok .none w∧∀x∈l,x.key≠two a b)∨∃j e,(Instr.findAsking k (two a b) l i).run P w = .ok (some (i+j,e.val)) w∧l[j]? = some e∧e.key=two a b
 | [],_,_=>.inl ⟨by simp[Instr.findAsking],by simp⟩
 | e::es,i,h=>by
  obtain⟨c,d,hcd⟩:=h e (.head _)
  by_cases hx:a=c∧b=d
  ·refine .inr ⟨0,e,?_,rfl,by rw[hcd,xE];exact⟨hx.1.symm,hx.2.symm⟩⟩
   simp[Instr.findAsking,hcd,td q,hx,Result.andThen]
  ·have hne:e.key≠two a b:=fun g=>hx (by rw[hcd,xE]at g;exact⟨g.1.symm,g.2.symm⟩)
   have hs:(Instr.findAsking k (two a b) (e::es) i).run P w=(Instr.findAsking k (two a b) es (i+1)).run P w:=by
    simp[Instr.findAsking,hcd,td q,hx,Result.andThen]
   rcases GZ q es (i+1) (fun x hx=>h x (.tail _ hx))with⟨h1,h2⟩ | ⟨j,e',h1,h2,h3⟩
   ·refine .inl ⟨by rw[hs,h1],fun x hx=>?_⟩
    cases hx with
    | head=>exact hne
    | tail _ hx=>exact h2 x hx
   ·exact .inr ⟨j+1,e',by rw[hs,h1];congr 3;omega,by simpa using h2,h3⟩
theorem we(q:Tw P k t){a:Int}{l:List MapEntry}(h : ∀x∈l,∃a b,x.key=two a b):
  ((Instr.findKey k (two a b) l).run P w = .ok .none w∧∀x∈l,x.key≠two a b)∨∃j e,(Instr.findKey k (two a b) l).run P w = .ok (some (j,e.val)) w∧l[j]? = some e∧e.key=two a b:=by
 cases l with
 | nil=>exact .inl ⟨by simp[Instr.findKey,run_underlying q.hk,Instr.findNow,Result.andThen],by simp⟩
 | cons x l=>
  have hf:Instr.findNow (.array 2 t) (two a b) (x::l) 0 = .none:=by simp[Instr.findNow,Instr.sameNow,two]
  have he:(Instr.findKey k (two a b) (x::l)).run P w=(Instr.findAsking k (two a b) (x::l) 0).run P w:=by simp[Instr.findKey,run_underlying q.hk,hf,Result.andThen]
  rw[he]
  simpa using GZ q (a:=a) (b:=b) (x::l) 0 h
end
section
variable {po:OP} {pp:PP} {P:Program} {k t e:TypeId} {ty mt:TypeId} {us:List (Nat × Value)} {h:Heap} {K:Value→Heap→Prop} {r:Nat} {f:Int→Int→Option Value}
theorem yn{x y:Operand}{a:Int}{z:Value}(q:Tw P k t)(ht:P.underlying mt=some (.map k e))(hz:(P.info? e).map (·.zero)=some (some z))(hx:asg us x = .map (some r))(hy:asg us y=two a b)(m:Map2 h r f)(hk:K (.tuple #[(f a b).getD z,.bool (f a b).isSome]) h):step P (.lookup mt x y true) ty us h K:=by
 obtain⟨es,c,h1,h2,h3,h4⟩:=m.ex
 simp only[Option.map_eq_some_iff]at hz
 obtain⟨i,hi,hz⟩:=hz
 refine dF (di fun w hw=>⟨_,w,?_,Same.refl _,by rw[hw];exact hk⟩)
 have hz':(zeroValue e).run P w = .ok z w:=by simp[zeroValue,typeInfo,hi,hz]
 rw[←hw]at h1
 simp only[bK,execOp,hx,hy]
 have hc : ∀b',(Instr.checkKey b' 10000 k (two a b)).run P w = .ok () w:=fun b'=>pa q (n:=9998)
 rcases we (w:=w) q (a:=a) (b:=b) h2 with⟨g1,g2⟩ | ⟨j,x,g1,g2,g3⟩
 ·have hf:f a b = .none:=by
   cases hfu:f a b with
   | none=>rfl
   | some v=>obtain⟨x,hx,e1,_⟩:=(h4 a b v).2 hfu;exact absurd e1 (g2 x hx)
  simp[Instr.lookup,run_underlying ht,MapKept.run_getObj_map h1,hc,g1,Result.andThen,hf,hz']
 ·have hf:f a b=some x.val:=(h4 a b x.val).1 ⟨x,List.mem_of_getElem? g2,g3,rfl⟩
  simp[Instr.lookup,run_underlying ht,MapKept.run_getObj_map h1,hc,g1,Result.andThen,hf]
theorem Gs{x y p:Operand}{a:Int}{v:Value}(q:Tw P k t)(ht:P.underlying mt=some (.map k e))(hx:asg us x = .map (some r))(hy:asg us y=two a b)(hp:asg us p=v)(m:Map2 h r f)(hn:f a b = .none)(hk : ∀h':Heap,h'.size=h.size→(∀b,b≠r→h'[b]? = h[b]?)→Map2 h' r (fun c d=>if c=a∧d=b then some v else f c d)→K undef h'):step P (.mapUpdate mt x y p) ty us h K:=by
 obtain⟨es,c,h1,h2,h3,h4⟩:=m.ex
 refine dF (lD fun w hw=>?_)
 subst hw
 have hc : ∀b',(Instr.checkKey b' 10000 k (two a b)).run P w = .ok () w:=fun b'=>pa q (n:=9998)
 have hoth:=(MapKept.heap_set (o':=.map (es.push { key:=two a b,val:=v,born:=c }) (c+1)) h1)
 rcases we (w:=w) q (a:=a) (b:=b) h2 with⟨g1,g2⟩ | ⟨j,x,g1,g2,g3⟩
 ·refine⟨{ w with heap:=w.heap.setIfInBounds r (.map (es.push { key:=two a b,val:=v,born:=c }) (c+1)) },?_,Same.pL rfl rfl rfl (by simp) h1 (by simp) (fun k _ hne=>hoth.2 k hne),hk _ (by simp) hoth.2 ⟨_,_,hoth.1,?_,?_,?_⟩⟩
  ·simp only[bK,execOp,hx,hy,hp]
   simp[Instr.mapUpdate,run_underlying ht,MapKept.run_getObj_map h1,hc,g1,MapKept.run_setObj_map _ h1,Result.andThen]
  ·intro x hx
   simp only[Array.toList_push,List.mem_append,List.mem_singleton]at hx
   rcases hx with hx | rfl
   ·exact h2 x hx
   ·exact⟨a,b,rfl⟩
  ·intro i j x y hi hj hxy
   rw[Array.getElem?_push]at hi hj
   by_cases ei:i=es.size<;>by_cases ej:j=es.size
   ·omega
   ·rw[if_pos ei]at hi;rw[if_neg ej]at hj
    cases hi
    exact absurd hxy.symm (g2 y (by have:=List.mem_of_getElem? (l:=es.toList) (i:=j) (by simpa using hj);exact this))
   ·rw[if_neg ei]at hi;rw[if_pos ej]at hj
    cases hj
    exact absurd hxy (g2 x (by have:=List.mem_of_getElem? (l:=es.toList) (i:=i) (by simpa using hi);exact this))
   ·rw[if_neg ei]at hi;rw[if_neg ej]at hj
    exact h3 i j x y hi hj hxy
  ·intro c' d' p
   constructor
   ·rintro⟨x,hx,e1,e2⟩
    simp only[Array.toList_push,List.mem_append,List.mem_singleton]at hx
    rcases hx with hx | rfl
    ·rw[if_neg (fun e=>g2 x hx (by rw[e1,e.1,e.2]))]
     exact(h4 c' d' p).1 ⟨x,hx,e1,e2⟩
    ·simp only[xE]at e1 e2
     rw[if_pos ⟨e1.1.symm,e1.2.symm⟩,e2]
   ·intro hp
    by_cases hcd:c'=a∧d'=b
    ·rw[if_pos hcd]at hp;cases hp
     exact⟨{ key:=two a b,val:=v,born:=c },by simp,by simp[hcd.1,hcd.2],rfl⟩
    ·rw[if_neg hcd]at hp
     obtain⟨x,hx,e⟩:=(h4 c' d' p).2 hp
     exact⟨x,by simp[show x∈es from by simpa using hx],e⟩
 ·have:=(h4 a b x.val).1 ⟨x,List.mem_of_getElem? g2,g3,rfl⟩
  rw[hn]at this;cases this
end
theorem Owns.turn{W:View}{h h':Heap}{o:Own}{r:Nat}{x x':Obj}(w:Owns W h o)(hr:W r=some x)(hx : ∀c T fz,x≠.cells c T fz)(hr':h'[r]? = some x')(hs:h'.size=h.size)(ho : ∀k,k≠r→h'[k]? = h[k]?):Owns (W.set r x') h' o:=by
 have hle:W.eI.le (W.set r x'):=fun b y hb=>by
  unfold View.set
  split
  ·rename_i e
   subst e
   unfold View.eI at hb
   rw[hr]at hb
   cases x<;>first | (exact absurd rfl (hx _ _ _)) | cases hb
  ·exact View.zi _ _ hb
 have hne : ∀{k i b},o k=some i→i.v.ownBlock=some b→b≠r:=fun hk hb e=>by have:=w.av _ _ hk _ hb;rw[e,hr]at this;cases this
 refine⟨fun b y hb=>?_,fun k i hk=>?_,fun k i hk b hb=>?_,w.dj⟩
 ·unfold View.set at hb
  split at hb
  ·rename_i e;subst e;cases hb;exact hr'
  ·rename_i e;show h'[b]? = _;rw[ho b e];exact w.wle b y hb
 ·have h1:=w.own k i hk
  have h2:@OwnT i.α i.rep (W.set r x') h i.e i.v i.l:=let ⟨b,xs,h1,h2⟩:=h1;⟨b,xs,h1,fun j hj=>i.rep.mono hle (i.rep.eI (h2 j hj))⟩
  exact @OwnT.same i.α i.rep _ _ _ _ _ _ h2 fun b hb=>ho b (hne hk hb)
 ·unfold View.set;rw[if_neg (hne hk hb)];exact w.av k i hk b hb
end
end Go.Lft
namespace Go.Proofs.YtbkdlhkoiagbbaaGreat
open Go Go.Lft
theorem qI{β:Type}{p:β→Bool}{l:List β}{k:Nat}{x:β}(h:l[k]? = some x):(l.take (k+1)).filter p=(l.take k).filter p++if p x then[x] else[]:=by
 rw[List.take_add_one,h,List.filter_append];simp[List.filter_cons]
def nG (g:Gr) (e:Int × Int):Bool:=decide (1<(nth (cw g) e.1.toNat).length)&&decide (1<(nth (cd g) e.2.toNat).length)
def gE (g:Gr):List (Int × Int):=(eR g).filter (nG g)
theorem y6{g:Gr}{vg:Value}{h:Heap}(hg:SlRd (vw h) vg g)(hs:Sm g):
  aB Tryz.prog N.dJ #[vg] h (fun v h'=>(vw h).le (vw h')∧SlRd (fresh h h') v (gE g)):=by
 refine rN (args:=[vg]) follows F.dJ E.dJ (Nat.le_of_ble_eq_true (by kernel_rfl)) fun K hK=>?_
 have hel:=pK hs
 have hs1:=hs.1
 have hcl:=gm (g:=g)
 have hpl:(cd g).length=g.length:=by rw[cd,kM];simp
 simp[L.dJ]
 refine af (by kernel_rfl) (tM hg hs) ?_
 rintro vr h1 ⟨W1,m1⟩
 have hle1:=m1.old
 have hr:=m1.now
 refine af (by kernel_rfl) (tG (hg.mono hle1) hs) ?_
 rintro vp h2 ⟨hle2,hp⟩
 have hp:=hp.mono (gz _ _)
 have hr:=hr.mono hle2
 refine eN (z:=.slice none 0 0) (by kernel_rfl) ?_
 refine eN (z:=.slice none 0 0) (by kernel_rfl) ?_
 have hR0:((h2.push (.cells (Value.slice none 0 0).cells T.cL)).push (.cells (Value.slice none 0 0).cells T.cL))[h2.size]? = some (.cells #[.slice none 0 0] T.cL (0,0)):=by rw[Array.getElem?_push,if_neg (by simp),Array.getElem?_push_size];rfl
 have hP0:((h2.push (.cells (Value.slice none 0 0).cells T.cL)).push (.cells (Value.slice none 0 0).cells T.cL))[h2.size+1]? = some (.cells #[.slice none 0 0] T.cL (0,0)):=by rw[show h2.size+1=(h2.push (.cells (Value.slice none 0 0).cells T.cL)).size by simp];exact Array.getElem?_push_size
 have hle3:(vw h2).le (vw ((h2.push (.cells (Value.slice none 0 0).cells T.cL)).push (.cells (Value.slice none 0 0).cells T.cL))):=View.le_trans (bD _ _) (bD _ _)
 have hsz3:((h2.push (.cells (Value.slice none 0 0).cells T.cL)).push (.cells (Value.slice none 0 0).cells T.cL)).size=h2.size+2:=by simp
 simp only[Array.size_push]
 generalize (h2.push (.cells (Value.slice none 0 0).cells T.cL)).push (.cells (Value.slice none 0 0).cells T.cL)=h3 at hR0 hP0 hle3 hsz3
 obtain⟨c1,o1⟩:=hr.cells
 obtain⟨c2,o2⟩:=hp.cells
 refine dU (g:=h2.size) (o:=0) (n:=1) (v:=vr) (by kernel_rfl) (by simp) (by simp) (by rw[c1];rfl) (by rw[c1];simpa using o1) hR0 (by simp) fun h4 hsz4 ⟨row,hR4,he⟩ hoth4=>?_
 have hrow:row = #[vr]:=by rw[←Array.toList_inj,he,c1];rfl
 rw[hrow]at hR4
 refine dU (g:=h2.size+1) (o:=0) (n:=1) (e:=T.cL) (cur:=#[.slice none 0 0]) (v:=vp) (by kernel_rfl) (by simp) (by simp) (by rw[c2];rfl) (by rw[c2];simpa using o2) (by rw[hoth4 _ (by omega)];exact hP0) (by simp) fun h5 hsz5 ⟨row2,hP5,he2⟩ hoth5=>?_
 have hrow2:row2 = #[vp]:=by rw[←Array.toList_inj,he2,c2];rfl
 rw[hrow2]at hP5
 have hR5:h5[h2.size]? = some (.cells #[vr] T.cL (0,0)):=by rw[hoth5 _ (by omega)];exact hR4
 have hle5:(vw h2).le (vw h5):=fun b o hb=>by
  have hlt:=View.lt (View.le_refl (vw h2)) hb
  show h5[b]? = _
  rw[hoth5 b (by omega),hoth4 b (by omega)]
  exact hle3 b o hb
 refine eN (z:=.slice none 0 0) (by kernel_rfl) ?_
 refine af (by kernel_rfl) zJ ?_
 rintro _ _ ⟨rfl,rfl⟩
 rw[hg.cells.1]
 have hle6:(vw h5).le (vw ((h5.push (.cells (Value.slice none 0 0).cells T.iY)).push (.cells #[vg] T.cL))):=View.le_trans (bD _ _) (bD _ _)
 have hB6:((h5.push (.cells (Value.slice none 0 0).cells T.iY)).push (.cells #[vg] T.cL))[h5.size]? = some (.cells #[.slice none 0 0] T.iY (0,0)):=by rw[Array.getElem?_push,if_neg (by simp),Array.getElem?_push_size];rfl
 have hG6:((h5.push (.cells (Value.slice none 0 0).cells T.iY)).push (.cells #[vg] T.cL))[h5.size+1]? = some (.cells #[vg] T.cL (0,0)):=by rw[show h5.size+1=(h5.push (.cells (Value.slice none 0 0).cells T.iY)).size by simp];exact Array.getElem?_push_size
 simp only[Array.size_push]
 generalize (h5.push (.cells (Value.slice none 0 0).cells T.iY)).push (.cells #[vg] T.cL)=h6 at hle6 hB6 hG6
 have h5W:(vw h5).le (skip h5.size h6):=Fi hle6 (View.dh (View.le_refl _) (Nat.le_refl _))
 have h2W:=View.le_trans hle5 h5W
 have h0W:(vw h).le (skip h5.size h6):=View.le_trans (View.le_trans hle1 hle2) h2W
 have hp6:an (skip h5.size h6) ⟨h5.size+1,0,none⟩=some vg:=bP (c:=#[vg]) (T:=T.cL) (fz:=(0,0)) (by rw[iZ (by omega)];exact hG6) rfl
 have hcR:an (skip h5.size h6) ⟨h2.size,0,none⟩=some vr:=bP (h5W _ _ hR5) rfl
 have hcP:an (skip h5.size h6) ⟨h2.size+1,0,none⟩=some vp:=bP (h5W _ _ hP5) rfl
 have hrW:=hr.mono h2W
 have hpW:=hp.mono h2W
 have hWle:(skip h5.size h6).le (vw h6):=b6
 have hWB:skip h5.size h6 h5.size=none:=CM
 generalize skip h5.size h6=W0 at h5W h2W h0W hp6 hcR hcP hrW hpW hWle hWB
 obtain⟨rv,hrv⟩:=hrW.rows
 obtain⟨pv,hpv⟩:=hpW.rows
 refine tH (enc:=yx) (all:=eR g) (gf:=N.bT) (caps:=[.pointer (some ⟨h5.size+1,0,none⟩)]) W0 W0 (fun e k W h'=>e=none∧∃v,Bx W h' h5.size T.iY T.kH v (((eR g).take k).filter (nG g)))
  rfl (by kernel_rfl) (rZ (hg.mono h0W) hp6 hs) (fun _=>rfl) (View.le_refl _) (fun e k=>⟨fun⟨_,rv,r⟩=>r.wle,fun⟨a,rv,r⟩ _ h1 h2 _=>⟨a,rv,r.move h1 h2⟩⟩) ⟨rfl,_,Bx.start hWle hWB hB6⟩
  (fun x h1=>by simp[yx,cO];rfl) ?_ ?_ ?_
 ·rintro k e W h7 hag hk ⟨_,v,r⟩ K2 hK2 _
  have he:=lV (List.mem_of_getElem? hk)
  have hk1:k<(eR g).length:=(List.getElem?_eq_some_iff.1 hk).1
  have hfl:(((eR g).take k).filter (nG g)).length≤k:=by
   have:=List.length_filter_le (nG g) ((eR g).take k)
   rw[List.length_take]at this
   omega
  have hst:=qI (p:=nG g) hk
  have hW0W:W0.le W:=fun b o hb=>by rw[hag b (View.lt hWle hb)];exact hb
  have hWh:=View.le_trans hW0W r.wle
  obtain⟨cr,rr⟩:=hrv e.1.toNat (by omega)
  obtain⟨cp,rp⟩:=hpv e.2.toNat (by omega)
  have hcE:nG g e=(decide (1<(nth (cw g) e.1.toNat).length)&&decide (1<(nth (cd g) e.2.toNat).length)):=rfl
  by_cases hc1:1<(nth (cw g) e.1.toNat).length
  ·by_cases hc2:1<(nth (cd g) e.2.toNat).length
   ·rw[decide_eq_true hc1,decide_eq_true hc2]at hcE
    simp(disch:=omega)[ae hWh hcR,ae hWh hcP,hrW.idx1 rfl,hpW.idx1 rfl,cr _ hWh,cp _ hWh,rr.len,rp.len,show(1:Int)<((nth (cw g) e.1.toNat).length:Int) by omega,show(1:Int)<((nth (cd g) e.2.toNat).length:Int) by omega,dZ,r.cell]
    refine aS (z:=.agg #[.int .i64 0,.int .i64 0]) (places:=[(0,1),(1,1)]) (vs:=[(0,.int .i64 e.1),(1,.int .i64 e.2)]) (cs:=#[.int .i64 e.1,.int .i64 e.2]) (by kernel_rfl) (by kernel_rfl) (by simp) rfl ?_
    refine r.push (d:=e) El.iY (by kernel_rfl) (by simp<;>rfl) (sD.2 ⟨rfl,⟨by omega,by omega⟩,by omega,by omega⟩) (by omega) (by omega) (fun _=>by simp) (fun _=>by simp) (fun _ _=>by simp) (fun _ _=>by simp) fun u v' h6 r6=>hK2 _ _ ⟨rfl,v',?_⟩
    rw[hst,hcE];exact r6
   ·rw[decide_eq_true hc1,decide_eq_false hc2]at hcE
    simp(disch:=omega)[ae hWh hcR,ae hWh hcP,hrW.idx1 rfl,hpW.idx1 rfl,cr _ hWh,cp _ hWh,rr.len,rp.len,show(1:Int)<((nth (cw g) e.1.toNat).length:Int) by omega,show ¬(1:Int)<((nth (cd g) e.2.toNat).length:Int) by omega,dZ]
    refine hK2 _ _ ⟨rfl,v,?_⟩
    rw[hst,hcE];simpa using r
  ·rw[decide_eq_false hc1]at hcE
   simp(disch:=omega)[ae hWh hcR,ae hWh hcP,hrW.idx1 rfl,hpW.idx1 rfl,cr _ hWh,cp _ hWh,rr.len,rp.len,show ¬(1:Int)<((nth (cw g) e.1.toNat).length:Int) by omega,dZ]
   refine hK2 _ _ ⟨rfl,v,?_⟩
   rw[hst,hcE];simpa using r
 ·rintro W h7 hag ⟨_,v,r⟩
  rw[List.take_of_length_le (Nat.le_refl _)]at r
  have hW0W:W0.le W:=fun b o hb=>by rw[hag b (View.lt hWle hb)];exact hb
  simp[r.cell]
  intro h8 hsw
  have hWW:=View.le_trans h0W hW0W
  exact⟨_,rfl,hK _ _ ⟨hsw.ext (View.le_trans hWW r.wle),hsw.rd (r.fresh hWW)⟩⟩
 ·rintro e k W h1 hag ⟨hne,_⟩
  cases hne
section
variable {g:Gr}
theorem su:gE g=iW g:=by
 unfold gE iW
 rw[lN]
 have key : ∀n,n≤g.length→(gV (fun a=>cS g a) n).filter (nG g)=up (fun a l=>l++kc g (dH g) a) n []:=by
  intro n
  induction n with
  | zero=>exact fun _=>rfl
  | succ n ih=>
   intro hn
   rw[gg,List.filter_append,ih (by omega),up]
   congr 1
   rw[kc,jI,List.filter_map]
   have e1:cS g n=(List.range (cS g n).length).map fun i=>nth (cS g n) i:=by
    refine List.ext_getElem (by simp) fun i h1 h2=>?_
    simp[ak h1]
   conv=>lhs;rw[e1]
   rw[List.filter_map,List.map_map]
   have e2:(List.range (cS g n).length).filter ((nG g∘fun b=>((n:Int),b))∘fun i=>nth (cS g n) i)=(List.range (cS g n).length).filter (rU g (dH g) n):=by
    refine List.filter_congr fun i hi=>?_
    simp only[Function.comp,nG,rU,nj,Int.toNat_natCast]
    have hcn:=kB (g:=g) (a:=n) (by omega)
    rw[Bool.eq_iff_iff]
    simp only[Bool.and_eq_true,decide_eq_true_eq,hcn]
    omega
   rw[e2]
   rfl
 exact key g.length (Nat.le_refl _)
theorem lu{e:Int × Int}:e∈gE g↔db g e.1 e.2=true∧1<(cS g e.1).length∧1<(nth (dH g) e.2.toNat).length:=by
 unfold gE
 rw[List.mem_filter,CA]
 constructor
 ·rintro⟨h1,h2⟩
  have hr:=dX.1 h1
  simp only[nG,nj,Bool.and_eq_true,decide_eq_true_eq]at h2
  have hc:=kB (g:=g) (a:=e.1.toNat) (by omega)
  rw[Int.toNat_of_nonneg hr.1.1]at hc
  rw[hc]at h2
  exact⟨h1,h2⟩
 ·rintro⟨h1,h2⟩
  have hr:=dX.1 h1
  have hc:=kB (g:=g) (a:=e.1.toNat) (by omega)
  rw[Int.toNat_of_nonneg hr.1.1]at hc
  refine⟨h1,?_⟩
  simp only[nG,nj,Bool.and_eq_true,decide_eq_true_eq,hc]
  exact h2
theorem rM {f:Nat→List Int} (hf : ∀a,(f a).Nodup) : ∀n,(gV f n).Nodup
 | 0=>by simp[gV]
 | n+1=>by
  rw[gg]
  refine List.nodup_append.2 ⟨rM hf n,?_,?_⟩
  ·exact List.Pairwise.map _ (fun x y h e=>h (Prod.mk.inj e).2) (hf n)
  ·intro x hx y hy
   rw[gV,List.mem_flatMap]at hx
   obtain⟨a,ha,hx⟩:=hx
   simp only[List.mem_map]at hx hy
   obtain⟨b,_,rfl⟩:=hx
   obtain⟨c,_,rfl⟩:=hy
   intro e
   have:=(Prod.mk.inj e).1
   have:=List.mem_range.1 ha
   omega
theorem mN:(gE g).Nodup:=by
 unfold gE
 rw[lN]
 exact(rM (fun a=>hZ.imp fun h=>by omega) _).filter _
end
def mkL (vs:Value) (at_:Nat) (ps:Int) (vb:Value) (nx:Int) (vl:Value):List Value:=[vs,.int .i64 at_,.int .i64 ps,vb,.int .i64 nx,vl]
def rawV (s:List Int) (at_:Nat):Int:=if at_<s.length then nth s at_ else 0
def az (s:List Int) (at_:Nat) (n:Int):Int:=((rawV s at_).tmod n+n).tmod n
theorem bj{s:List Int}{at_:Nat}{n:Int}(hn:0<n):0≤az s at_ n∧az s at_ n<n:=by
 have b1:=Int.lt_tmod_of_pos (rawV s at_) hn
 exact⟨Int.tmod_nonneg _ (by omega),Int.tmod_lt_of_pos _ hn⟩
theorem FX{W:View}{h:Heap}{o:Own}{M at_:Nat}{vs vb vl:Value}{ps nx n:Int}{s:List Int}(w:Owns W h o)(hk:o (0,0)=bx T.aT M (RawN.mk (n:=5) (mkL vs at_ ps vb nx vl)))(hs:SlRd W vs s)(h1:at_≤1000000000)(hn:0<n)(hn2:n≤1000000000):
  aB Tryz.prog N.bW #[.pointer (some ⟨M,0,none⟩),.int .i64 n] h (fun u h'=>u = .int .i64 (az s at_ n)∧Owns W h' (o.upd (0,0) (bx T.aT M (RawN.mk (n:=5) (mkL vs (at_+1) ps vb nx vl))))):=by
 refine ao (args:=[.pointer (some ⟨M,0,none⟩),.int .i64 n]) follows F.bW E.bW (Nat.le_of_ble_eq_true (by kernel_rfl)) fun K hK=>?_
 have c0:an (vw h) ⟨M,0,none⟩=some vs:=w.raw hk (i:=0) (by decide)
 have c1:an (vw h) ⟨M,1,none⟩=some (.int .i64 at_):=w.raw hk (i:=1) (by decide)
 dsimp only[L.bW]
 refine aa fun z hz=>?_
 simp
 rw[hz];clear hz z
 refine aa fun z hz=>?_
 simp
 rw[hz];clear hz z
 refine aa fun z hz=>?_
 have hsl : ∀{Q:View},Un.ev Q .len vs=some (.int .i64 s.length):=fun{Q}=>hs.len
 refine xB (fun ρ h2=>h2=h∧I64 (rawV s at_)∧ρ=[(0,.pointer (some ⟨M,0,none⟩)),(1,.int .i64 n),(4,.int .i64 0),(5,.int .i64 (rawV s at_))]) ?_ ?_
 ·intro K2 hK2
  by_cases c:at_<s.length
  ·have hs2:=hs.mono w.wle
   have hr:=hs.range (i:=at_) c
   have e:rawV s at_=nth s at_:=if_pos c
   rw[e]at hK2
   simp(disch:=omega)[c0,c1,hsl,c,hs2.idx1 rfl,hs2.int (View.le_refl _)]
   exact hK2 _ _ ⟨rfl,hr,rfl⟩
  ·have e:rawV s at_=0:=if_neg c
   rw[e]at hK2
   simp[c0,c1,hsl,c]
   exact hK2 _ _ ⟨rfl,⟨by decide,by decide⟩,rfl⟩
 ·rintro _ h2 ⟨rfl,hx,rfl⟩
  rw[hz];clear hz z
  refine aa fun z hz=>?_
  simp(disch:=omega)[c1]
  refine w.cI (k:=(0,0)) (n:=5) (i:=1) (e:=T.aT) (B:=M) (l:=mkL vs at_ ps vb nx vl) hk (by decide) (by kernel_rfl) rfl rfl rfl fun h3 w3 _=>?_
  rw[hz];clear hz z
  have b1:=Int.lt_tmod_of_pos (rawV s at_) hn
  have b2:=Int.tmod_lt_of_pos (rawV s at_) hn
  have hw:IntKind.i64.wrap ((rawV s at_).tmod n+n)=(rawV s at_).tmod n+n:=bN (by omega) (by omega)
  have hne:¬n=0:=by omega
  simp[hw,hne]
  refine hK _ _ ⟨rfl,w3.congr fun q=>?_⟩
  rfl
theorem xU{W:View}{h:Heap}{o:Own}{M at_:Nat}{vs vb vl:Value}{ps nx:Int}(w:Owns W h o)(hk:o (0,0)=bx T.aT M (RawN.mk (n:=5) (mkL vs at_ ps vb nx vl)))(h0:0≤nx)(h1:nx≤1000000000):
  aB Tryz.prog N.bF #[.pointer (some ⟨M,0,none⟩)] h (fun u h'=>u = .int .i64 nx∧Owns W h' (o.upd (0,0) (bx T.aT M (RawN.mk (n:=5) (mkL vs at_ ps vb (nx+1) vl))))∧∀X:View,X.le (vw h)→X M=none→X.le (vw h')):=by
 refine ao (args:=[.pointer (some ⟨M,0,none⟩)]) follows F.bF E.bF (Nat.le_of_ble_eq_true (by kernel_rfl)) fun K hK=>?_
 have c4:an (vw h) ⟨M,4,none⟩=some (.int .i64 nx):=w.raw hk (i:=4) (by decide)
 dsimp only[L.bF]
 refine aa fun z hz=>?_
 simp
 rw[hz];clear hz z
 refine aa fun z hz=>?_
 simp(disch:=omega)[c4]
 refine w.cI (k:=(0,0)) (n:=5) (i:=4) (e:=T.aT) (B:=M) (l:=mkL vs at_ ps vb nx vl) hk (by decide) (by kernel_rfl) rfl rfl rfl fun h3 w3 hx3=>?_
 have w3:Owns W h3 (o.upd (0,0) (bx T.aT M (RawN.mk (n:=5) (mkL vs at_ ps vb (nx+1) vl)))):=w3
 have c5:an (vw h3) ⟨M,4,none⟩=some (.int .i64 (nx+1)):=w3.raw Own.ag (i:=4) (by decide)
 rw[hz];clear hz z
 simp(disch:=omega)[c5]
 exact hK _ _ ⟨by congr 1,w3,hx3⟩
end Go.Proofs.YtbkdlhkoiagbbaaGreat
namespace Go.Lft
open Go
variable {po:OP}
theorem Hf {P:Program} {t ty:TypeId} {us:List (Nat × Value)} {h:Heap} {K:Value→Heap→Prop} {x:Operand} {n:Int} (hx:asg us x = .int .i64 n) (hk:K (.int .i64 (IntKind.i64.wrap (-n))) h):step P (.unOp .neg t x) ty us h K:=by
 refine dF (di fun w hw=>⟨.int .i64 (IntKind.i64.wrap (-n)),w,?_,Same.refl _,by rw[hw];exact hk⟩)
 simp only[bK,execOp,hx]
 simp[Op.unary,Op.intArith]
end Go.Lft
namespace Go.Proofs.YtbkdlhkoiagbbaaGreat
open Go Go.Lft
structure MS where
 at_:Nat
 ps:Int
 blocks:List BlkD
 next:Int
 live:List Int
def MS.took (m:MS):MS:={ m with at_:=m.at_+1 }
def MS.aG (m:MS):MS:={ m with next:=m.next+1 }
structure BlkM where
 phis:Raw
 ins:Raw
 term:dp
instance:Rep BlkM:=Rep.via fun d=>Cat.mk d.phis (Cat.mk d.ins d.term)
instance:Inhabited BlkM:=⟨⟨default,default,default⟩⟩
theorem BlkM.mD:Part BlkM Raw 0 BlkM.phis (fun d x=>{ d with phis:=x }):=(Part.fst Part.all).via (fun _=>rfl) fun _ _=>rfl
theorem BlkM.mK:Part BlkM Raw 1 BlkM.ins (fun d x=>{ d with ins:=x }):=(Part.snd (Part.fst Part.all)).via (fun _=>rfl) fun _ _=>rfl
theorem BlkM.mw:Part BlkM dp 2 BlkM.term (fun d x=>{ d with term:=x }):=(Part.snd (Part.snd Part.all)).via (fun _=>rfl) fun _ _=>rfl
theorem yI {H:View} {cs:List Value} {d:BlkM} {p:List PhiD} {i:List InsD} (h:Rep.rd H cs d) (hp:SlRd H d.phis.v p) (hi:SlRd H d.ins.v i):Rep.rd H cs (BlkD.mk p i d.term):=by
 obtain⟨c1,r1,e1,⟨h1,_⟩,c2,r2,e2,⟨h2,_⟩,h3⟩:=h
 have h1:c1=[d.phis.v]:=h1
 have h2:c2=[d.ins.v]:=h2
 exact⟨c1,r1,e1,⟨d.phis.v,h1,hp⟩,c2,r2,e2,⟨d.ins.v,h2,hi⟩,h3⟩
structure MkB (M:Nat) (vs:Value) (m:MS) (o:Own) (vb vl:Value) (lb:List BlkM):Prop where
 box:o (0,0)=bx T.aT M (RawN.mk (n:=5) (mkL vs m.at_ m.ps vb m.next vl))
 live:o (0,1)=it T.int vl m.live
 blk:o (0,2)=it T.aY vb lb
 len:lb.length=m.blocks.length
 term : ∀i,i<m.blocks.length→(nth lb i).term=(nth m.blocks i).term
 phis : ∀i,i<m.blocks.length→o (1,i)=it T.dG (nth lb i).phis.v (nth m.blocks i).phis
 ins : ∀i,i<m.blocks.length→o (2,i)=it T.dq (nth lb i).ins.v (nth m.blocks i).ins
structure Mk (s:List Int) (M:Nat) (vs:Value) (W:View) (h:Heap) (o:Own) (m:MS):Prop where
 own:Owns W h o
 src:SlRd W vs s
 box : ∃vb vl lb,MkB M vs m o vb vl lb
def Nx (s:List Int) (M:Nat) (vs:Value) (W:View) (h:Heap) (o:Own) (m:MS):Prop:=∃W' o',W.le W'∧Mk s M vs W' h o' m∧∀k:Key,3≤k.1→o' k=o k
variable {s:List Int} {M:Nat} {vs:Value} {W:View} {h:Heap} {o:Own} {m:MS}
theorem Mk.nx (w:Mk s M vs W h o m):Nx s M vs W h o m:=⟨W,o,View.le_refl _,w,fun _ _=>rfl⟩
theorem Nx.trans {W':View} {o':Own} (hW:W.le W') (ho : ∀k:Key,3≤k.1→o' k=o k) (n:Nx s M vs W' h o' m):Nx s M vs W h o m:=by
 obtain⟨W2,o2,h1,h2,h3⟩:=n
 exact⟨W2,o2,View.le_trans hW h1,h2,fun k hk=>(h3 k hk).trans (ho k hk)⟩
theorem MkB.at {vb vl:Value} {lb:List BlkM} (b:MkB M vs m o vb vl lb) {at_:Nat} {next:Int}:MkB M vs { m with at_:=at_,next:=next } (o.upd (0,0) (bx T.aT M (RawN.mk (n:=5) (mkL vs at_ m.ps vb next vl)))) vb vl lb:=
 ⟨rfl,b.live,b.blk,b.len,b.term,fun i hi=>b.phis i hi,fun i hi=>b.ins i hi⟩
theorem lI {k:Key} {i:Option Lft.Item} (hk:k.1<3) : ∀q:Key,3≤q.1→o.upd k i q=o q:=fun q hq=>Own.ab fun e=>by rw[e]at hq;omega
theorem ir {k:Key} {i j:Option Lft.Item} (q:Key):(o.upd k i).upd k j q=o.upd k j q:=by
 unfold Own.upd;split<;>rfl
theorem Mk.take (w:Mk s M vs W h o m) {n:Int} (h1:m.at_≤1000000000) (hn:0<n) (hn2:n≤1000000000) :
  aB Tryz.prog N.bW #[.pointer (some ⟨M,0,none⟩),.int .i64 n] h (fun u h'=>u = .int .i64 (az s m.at_ n)∧∃o',Mk s M vs W h' o' m.took∧∀k:Key,3≤k.1→o' k=o k):=by
 obtain⟨vb,vl,lb,b⟩:=w.box
 refine(FX w.own b.box w.src h1 hn hn2).mono ?_
 rintro u h' ⟨rfl,w2⟩
 exact⟨rfl,_,⟨w2,w.src,vb,vl,lb,b.at⟩,lI (by decide)⟩
theorem Mk.fresh (w:Mk s M vs W h o m) (h0:0≤m.next) (h1:m.next≤1000000000) :
  aB Tryz.prog N.bF #[.pointer (some ⟨M,0,none⟩)] h (fun u h'=>u = .int .i64 m.next∧∃o',Mk s M vs W h' o' m.aG∧∀k:Key,3≤k.1→o' k=o k):=by
 obtain⟨vb,vl,lb,b⟩:=w.box
 refine(xU w.own b.box h0 h1).mono ?_
 rintro u h' ⟨rfl,w2,-⟩
 exact⟨rfl,_,⟨w2,w.src,vb,vl,lb,b.at⟩,lI (by decide)⟩
theorem kZ {x:Int}:-2147483648≤IntKind.i32.wrap x∧IntKind.i32.wrap x≤2147483647:=by
 rw[IntKind.wrap_i32];omega
def iG (s:List Int) (m:MS):Int:=
 if az s (m.at_+1) 8=0 then IntKind.i32.wrap (IntKind.i64.wrap (az s m.at_ 1048576*4099))
 else if az s (m.at_+1) 8=1 then IntKind.i32.wrap (IntKind.i64.wrap (-az s m.at_ 1048576))
 else if az s (m.at_+1) 8=2 then -2147483648
 else if az s (m.at_+1) 8=3 then IntKind.i32.wrap ((az s m.at_ 1048576).tmod 70000)
 else IntKind.i32.wrap (IntKind.i64.wrap ((az s m.at_ 1048576).tmod 20-4))
theorem oA:-2147483648≤iG s m∧iG s m≤2147483647:=by
 unfold iG
 repeat' split
 all_goals first | exact kZ | decide
theorem Mk.word (w:Mk s M vs W h o m) (h1:m.at_≤999999990) :
  aB Tryz.prog N.cf #[.pointer (some ⟨M,0,none⟩)] h (fun u h'=>u = .int .i32 (iG s m)∧∃o',Mk s M vs W h' o' m.took.took∧∀k:Key,3≤k.1→o' k=o k):=by
 refine ao (args:=[.pointer (some ⟨M,0,none⟩)]) follows F.cf E.cf (Nat.le_of_ble_eq_true (by kernel_rfl)) fun K hK=>?_
 dsimp only[L.cf]
 refine aa fun z hz=>?_
 simp
 rw[hz];clear hz z
 refine aa fun z hz=>?_
 simp
 refine af (by kernel_rfl) (w.take (by omega) (n:=1048576) (by decide) (by decide)) ?_
 rintro _ h2 ⟨rfl,o2,w2,f2⟩
 rw[hz];clear hz z
 refine aa fun z hz=>?_
 simp
 refine af (by kernel_rfl) (w2.take (show m.at_+1≤_ by omega) (n:=8) (by decide) (by decide)) ?_
 rintro _ h3 ⟨rfl,o3,w3,f3⟩
 have hx:m.took.at_=m.at_+1:=rfl
 rw[hx]
 have hf : ∀k:Key,3≤k.1→o3 k=o k:=fun k hk=>(f3 k hk).trans (f2 k hk)
 have hwd:iG s m=_:=iG.eq_1 s m
 generalize iG s m=r at hwd hK
 generalize az s (m.at_+1) 8=q at hwd
 generalize az s m.at_ 1048576=x at hwd
 by_cases c0:q=0
 ·rw[if_pos c0]at hwd
  simp[c0]
  exact hK _ _ ⟨by rw[hwd],_,w3,hf⟩
 rw[if_neg c0]at hwd
 by_cases c1:q=1
 ·rw[if_pos c1]at hwd
  simp[c1]
  refine Hf rfl ?_
  simp
  exact hK _ _ ⟨by rw[hwd],_,w3,hf⟩
 rw[if_neg c1]at hwd
 by_cases c2:q=2
 ·rw[if_pos c2]at hwd
  simp[c2]
  exact hK _ _ ⟨by rw[hwd],_,w3,hf⟩
 rw[if_neg c2]at hwd
 by_cases c3:q=3
 ·rw[if_pos c3]at hwd
  simp[c3]
  exact hK _ _ ⟨by rw[hwd],_,w3,hf⟩
 rw[if_neg c3]at hwd
 simp[c0,c1,c2,c3]
 rw[hz];clear hz z
 simp
 exact hK _ _ ⟨by rw[hwd],_,w3,hf⟩
end Go.Proofs.YtbkdlhkoiagbbaaGreat
namespace Go.Proofs.YtbkdlhkoiagbbaaGreat
open Go Go.Lft
def MS.add (m:MS) (b:Nat) (i:InsD):MS:={ m with blocks:=m.blocks.set b { nth m.blocks b with ins:=(nth m.blocks b).ins++[i] },live:=m.live++a6 i }
def conD (v:Int) (n:Int):InsD:=⟨1,v,0,[],⟨n⟩⟩
def MS.constant (m:MS) (b:Nat) (n:Int):MS:=m.aG.add b (conD m.next n)
def rE (s:List Int) (m:MS):Int:=nth m.live (if az s (m.at_+1) 3=0 then m.live.length-1 else(az s m.at_ m.live.length).toNat)
def Ba (s:List Int) (m:MS) (b:Nat):MS:=(m.took.took).constant b (iG s m)
def aA (s:List Int) (m:MS) (b:Nat):Int × MS:=
 if m.live.length=0 then(m.next,Ba s m b)
 else if az s (m.at_+2) 9=0 then(m.next,Ba s m.took.took.took b)
 else(rE s m,m.took.took.took)
def MS.two (m:MS) (b:Nat) (op x y:Int):MS:=m.aG.add b ⟨op,m.next,0,[x,y],⟨0⟩⟩
def binS (s:List Int) (m:MS) (b:Nat) (op:Int):MS:=
 let r1:=aA s m b
 let r2:=aA s r1.2 b
 if az s r2.2.at_ 3=0 then
  (r2.2.took.took.constant b (IntKind.i32.wrap (IntKind.i64.wrap (az s (r2.2.at_+1) 40-8)))).two b op r1.1 r2.2.next
 else r2.2.took.two b op r1.1 r2.1
def ltuS (s:List Int) (m:MS) (b:Nat):MS:=
 let r1:=aA s m b
 let r2:=aA s r1.2 b
 r2.2.two b 13 r1.1 r2.1
def divS (s:List Int) (m:MS) (b:Nat):MS:=
 let r1:=aA s m b
 let m2:=r1.2.took.constant b (IntKind.i32.wrap (az s r1.2.at_ 12))
 if 0<az s m2.at_ 3 then
  (m2.took.took.constant b (IntKind.i32.wrap (1+IntKind.i32.wrap (az s (m2.at_+1) 12)))).two b 14 r1.1 m2.next
 else m2.took.two b 14 r1.1 r1.2.next
def qt (s:List Int) (m:MS) (b:Nat):MS:=
 let r1:=aA s m b
 let r2:=aA s r1.2 b
 r2.2.aG.aG.add b ⟨18,r2.2.next,r2.2.next+1,[r1.1,r2.1],⟨0⟩⟩
def eW (s:List Int) (b:Nat):Nat→List Int × MS→List Int × MS:=fun _ x=>(x.1++[(aA s x.2 b).1],(aA s x.2 b).2)
def lj (s:List Int) (m:MS) (b:Nat):MS:=
 let r:=up (eW s b) (az s m.at_ 5).toNat ([],m.took)
 r.2.aG.took.add b ⟨17,r.2.next,0,r.1,⟨IntKind.i32.wrap (az s r.2.at_ 5)⟩⟩
def iE (s:List Int) (m:MS) (b:Nat):Int × MS:=
 let m1:=m.took.constant b (IntKind.i32.wrap (az s m.at_ 9))
 if az s m1.at_ 3=0 then
  let r:=aA s m1.took b
  let m3:=(r.2.constant b 7).two b 5 r.1 r.2.next
  (m3.next,m3.two b 2 m.next (r.2.next+1))
 else(m.next,m1.took)
def offS (s:List Int) (m:MS):Int × MS:=
 if az s (m.at_+1) 12=0 then(iG s m.took.took,m.took.took.took.took) else(IntKind.i32.wrap (az s m.at_ 4),m.took.took)
def gI (s:List Int) (m:MS) (b:Nat) (store:Bool):MS:=
 let a:=iE s m b
 let i:=offS s a.2
 if store then(aA s i.2 b).2.add b ⟨16,0,0,[a.1,(aA s i.2 b).1],⟨i.1⟩⟩
 else i.2.aG.add b ⟨15,i.2.next,0,[a.1],⟨i.1⟩⟩
def opsL:List Int:=[2,2,3,4,5,6,7,8,9,10,12,11]
def aC (s:List Int) (b:Nat) (m:MS):MS:=
 let k:=az s m.at_ 20
 if k<12 then binS s m.took b (nth opsL k.toNat)
 else if k=12 then ltuS s m.took b
 else if k=13 then divS s m.took b
 else if k<16 then gI s m.took b (decide (k=15))
 else if k=16 then lj s m.took b
 else if k=17 then qt s m.took b
 else m.took.took.took.constant b (iG s m.took)
section
variable{b:Nat}
theorem y4{H:View}{n:Nat}{cs:List Value}(hc:gJ H ⟨b,0,none⟩ cs)(hl:cs.length=n):Un.ev H (.ar n) (.pointer (some ⟨b,0,none⟩))=some (.agg cs.toArray):=by
 have:=fZ hc n 0 #[] (by omega)
 simp only[Un.ev,vP,Option.bind_some]
 rw[this]
 simp[←hl]
theorem CH{H:View}{n:Nat}{cs:Array Value}{t:TypeId}(hb:H b=some (.cells cs t (0,0)))(hl:cs.size=n):Un.ev H (.ar n) (.pointer (some ⟨b,0,none⟩))=some (.agg cs):=by
 have:gJ H ⟨b,0,none⟩ cs.toList:=⟨cs,t,(0,0),rfl,hb,by simp[List.take_of_length_le]⟩
 simpa using y4 this (by simpa using hl)
theorem MkB.Hm{s:List Int}{M:Nat}{vs:Value}{W:View}{h:Heap}{o:Own}{m:MS}{vb vl:Value}{lb:List BlkM}(w:Owns W h o)(b:MkB M vs m o vb vl lb):
  ∃X:View,W.le X∧X.le (vw h)∧(∀i,i≤5→an X ⟨M,i,none⟩=some ((mkL vs m.at_ m.ps vb m.next vl).getD i undef))∧SlRd X vb lb∧Av X vl∧∀i,i<m.blocks.length→Av X (nth lb i).phis.v∧Av X (nth lb i).ins.v:=by
 obtain⟨w5,s5⟩:=w.freeze (k:=(0,0)) (v:=.slice (some ⟨M,0,none⟩) 1 1) (l:=[RawN.mk (n:=5) (mkL vs m.at_ m.ps vb m.next vl)]) b.box
 have hb2:o.upd (0,0) none (0,2)=it T.aY vb lb:=b.blk
 obtain⟨w6,s6⟩:=w5.freeze (k:=(0,2)) (v:=vb) (l:=lb) hb2
 have s5:=s5.mono (jC (h:=h) (w5.av (0,2) _ hb2))
 refine⟨_,View.le_trans (jC (h:=h) (w.av (0,0) _ b.box)) (jC (h:=h) (w5.av (0,2) _ hb2)),w6.wle,fun i hi=>?_,s6,w6.av (0,1) _ b.live,fun i hi=>⟨w6.av (1,i) _ (b.phis i hi),w6.av (2,i) _ (b.ins i hi)⟩⟩
 have:=((s5.at (i:=0) (by simp)).part (RawN.p (n:=5) (o:=i) hi)).raw
 simpa[slA]using this
variable {s:List Int} {M:Nat} {vs:Value} {W:View} {h:Heap} {o:Own} {m:MS}
theorem MkB.cell{vb vl:Value}{lb:List BlkM}(w:Owns W h o)(b:MkB M vs m o vb vl lb){i:Nat}(hi:i≤5):an (vw h) ⟨M,i,none⟩=some ((mkL vs m.at_ m.ps vb m.next vl).getD i undef):=w.raw b.box hi
theorem MkB.aU{vb vl:Value}{lb:List BlkM}(bb:MkB M vs m o vb vl lb)(hb:b<m.blocks.length){x':BlkD}{y':BlkM}{o':Own}(hy:y'.term=x'.term)(h02:o' (0,2)=it T.aY vb (lb.set b y'))(h1:o' (1,b)=it T.dG y'.phis.v x'.phis)(h2:o' (2,b)=it T.dq y'.ins.v x'.ins)(ho : ∀q:Key,q≠(0,2)→q≠(1,b)→q≠(2,b)→o' q=o q):MkB M vs { m with blocks:=m.blocks.set b x' } o' vb vl (lb.set b y'):=by
 have hbl:b<lb.length:=by rw[bb.len];exact hb
 refine⟨(ho _ (by simp) (by simp) (by simp)).trans bb.box,(ho _ (by simp) (by simp) (by simp)).trans bb.live,h02,by simp[bb.len],fun j hj=>?_,fun j hj=>?_,fun j hj=>?_⟩
 all_goals
  have hj:j<m.blocks.length:=by simpa using hj
  have hjl:j<lb.length:=by rw[bb.len];exact hj
  show _=_
  simp only[aH hj,aH hjl]
  by_cases e:b=j
  ·subst e
   simp only[if_true]
   assumption
  ·simp only[if_neg e]
   first
    | exact bb.term j hj
    | exact(ho _ (by simp) (fun q=>e (by injection q with _ q;exact q.symm)) (by simp)).trans (bb.phis j hj)
    | exact(ho _ (by simp) (by simp) (fun q=>e (by injection q with _ q;exact q.symm))).trans (bb.ins j hj)
theorem Mk.value(w:Mk s M vs W h o m)(h1:m.at_≤999999990)(hl:m.live.length≤1000000000):
  aB Tryz.prog N.cQ #[.pointer (some ⟨M,0,none⟩)] h (fun u h'=>(m.live.length=0∧u = .tuple #[.int .i64 0,.bool false]∧h'=h)∨(m.live.length≠0∧u = .tuple #[.int .i64 (rE s m),.bool true]∧I64 (rE s m)∧∃o',Mk s M vs W h' o' m.took.took∧∀k:Key,3≤k.1→o' k=o k)):=by
 refine ao (args:=[.pointer (some ⟨M,0,none⟩)]) follows F.cQ E.cQ (Nat.le_of_ble_eq_true (by kernel_rfl)) fun K hK=>?_
 obtain⟨vb,vl,lb,b⟩:=w.box
 have c5:an (vw h) ⟨M,5,none⟩=some vl:=b.cell w.own (i:=5) (by decide)
 have hsl:=w.own.now b.live
 dsimp only[L.cQ]
 refine aa fun z hz=>?_
 simp
 rw[hz];clear hz z
 refine aa fun z hz=>?_
 by_cases h0:m.live.length=0
 ·have h0':m.live=[]:=List.eq_nil_of_length_eq_zero h0
  simp[c5,hsl.len,h0]
  exact hK _ _ (.inl ⟨h0,rfl,rfl⟩)
 ·have h0':¬(m.live=[]):=fun e=>h0 (by rw[e];rfl)
  simp[c5,hsl.len,h0']
  rw[hz];clear hz z
  refine aa fun z hz=>?_
  simp[c5,hsl.len]
  refine af (by kernel_rfl) (w.take (by omega) (n:=(m.live.length:Int)) (by omega) (by omega)) ?_
  rintro _ h2 ⟨rfl,o2,w2,f2⟩
  rw[hz];clear hz z
  refine aa fun z hz=>?_
  simp
  refine af (by kernel_rfl) (w2.take (show m.at_+1≤_ by omega) (n:=3) (by decide) (by decide)) ?_
  rintro _ h3 ⟨rfl,o3,w3,f3⟩
  have hx:m.took.at_=m.at_+1:=rfl
  rw[hx]
  have hf : ∀k:Key,3≤k.1→o3 k=o k:=fun k hk=>(f3 k hk).trans (f2 k hk)
  have hv:rE s m=_:=rE.eq_1 s m
  obtain⟨vb3,vl3,lb3,b3⟩:=w3.box
  have c53:an (vw h3) ⟨M,5,none⟩=some vl3:=b3.cell w3.own (i:=5) (by decide)
  have hsl3:SlRd (vw h3) vl3 m.live:=w3.own.now b3.live
  obtain⟨r0,r1⟩:=bj (s:=s) (at_:=m.at_) (n:=(m.live.length:Int)) (by omega)
  generalize az s m.at_ m.live.length=x at hv r0 r1
  generalize az s (m.at_+1) 3=q at hv
  obtain⟨i,hi,hvi,hii⟩ : ∃i:Nat,i<m.live.length∧rE s m=nth m.live i∧(i:Int)=if q=0 then(m.live.length:Int)-1 else x:=by
   by_cases c:q=0
   ·rw[if_pos c]at hv ⊢
    exact⟨m.live.length-1,by omega,hv,by omega⟩
   ·rw[if_neg c]at hv ⊢
    exact⟨x.toNat,by omega,hv,by omega⟩
  have h64:IntKind.i64.wrap ((m.live.length:Int)-1)=(m.live.length:Int)-1:=bN (by omega) (by omega)
  have fin : ∀ρ:Env,ρ=[(0,.pointer (some ⟨M,0,none⟩)),(2,.int .i64 0),(3,.bool false),(4,.int .i64 i),(17,.int .i64 x),(19,.int .i64 q)]→LC.wp Tryz.prog z (eQ [.tmp 2,.tmp 3] K) ρ h3:=by
   rintro _ rfl
   rw[hz];clear hz z
   refine aa fun z hz=>?_
   simp(disch:=omega)[c53,hsl3.idx1 rfl,hsl3.int (View.le_refl _)]
   rw[hz];clear hz z
   simp
   exact hK _ _ (.inr ⟨h0,by rw[hvi],by rw[hvi];exact hsl3.range hi,o3,w3,hf⟩)
  by_cases c:q=0
  ·rw[if_pos c]at hii
   simp[c,c53,hsl3.len,h64]
   refine fin _ ?_
   rw[hii,c]
  ·rw[if_neg c]at hii
   simp[c]
   refine fin _ ?_
   rw[hii]
theorem Mk.add (w:Mk s M vs W h o m) {b:Nat} {i:InsD} {v:Value} (hb:b<m.blocks.length) (hi:Rd W v i) (hn:(nth m.blocks b).ins.length≤100000000) (hl:m.live.length≤100000000) :
    aB Tryz.prog N.da #[.pointer (some ⟨M,0,none⟩),.int .i64 b,v] h (fun u h'=>Nx s M vs W h' o (m.add b i)):=by
  refine ao (args:=[.pointer (some ⟨M,0,none⟩),.int .i64 b,v]) follows F.da E.da (Nat.le_of_ble_eq_true (by kernel_rfl)) fun K hK=>?_
  obtain⟨vb,vl,lb,bb⟩:=w.box
  obtain⟨va,rfl,hir,hia⟩:=Bo hi
  dsimp only[L.da]
  refine aa fun z hz=>?_
  simp
  refine ic rfl (hi.mono w.own.wle) fun h1 e1 hle1 hs1 hat=>?_
  have w1:=w.own.ext hle1
  have hbx:(grow W h h1) h.size=some (.cells #[.int .i64 i.op,.int .i64 i.dst,.int .i64 i.two,va,.int .i32 i.imm.v] T.dq (0,0)):=by
    rw[iJ (Nat.le_refl _),e1];simp[Value.cells]
  have hi1:=hi.mono (cy (h':=h1) w.own.wle)
  have src1:=w.src.mono (cy (h':=h1) w.own.wle)
  have hW1:=cy (h':=h1) w.own.wle
  clear hat e1
  have hld:=CH hbx (n:=5) rfl
  generalize grow W h h1=W1 at w1 hld hi1 src1 hW1
  generalize h.size=B at hld
  rw[hz];clear hz z
  refine aa fun z hz=>?_
  obtain⟨X,hWX,hX,cX,sX,avl,avX⟩:=bb.Hm (s:=s) w1
  have c3:an X ⟨M,3,none⟩=some vb:=cX 3 (by decide)
  have hbl:b<lb.length:=by rw[bb.len];exact hb
  have a1:=(sX.at hbl).part BlkM.mK
  have hsv:=sX.bound
  have a2:an X (((slA vb).add (b*6)).add 1)=some (nth lb b).ins.v:=by rw[ak hbl];exact a1.raw
  have hldX:Un.ev X (.ar 5) (.pointer (some ⟨B,0,none⟩))=some (.agg #[.int .i64 i.op,.int .i64 i.dst,.int .i64 i.two,va,.int .i32 i.imm.v]):=by
    have:=de (ρ:=fun _=>none) (e:=.un (.ar 5) (.con (.pointer (some ⟨B,0,none⟩)))) hWX (by simpa using hld)
    simpa using this
  refine cH X hX ?_
  simp(disch:=omega)[c3,sX.idxn (N:=6) rfl,a2,hldX]
  refine kN (α:=InsD) (W:=W1) (d:=i) El.lU rfl hi1 fun u5 h5 src hle5 hs5=>⟨View.le_trans hX hle5,?_⟩
  refine(w1.ext' hle5).dW (k:=(2,b)) (α:=InsD) (v:=(nth lb b).ins.v) (l:=(nth m.blocks b).ins) (l2:=[i]) (bb.ins b hb) El.lU rfl rfl src (by simp;omega) (by simp;omega) fun v6 h6 w6 m6=>⟨(m6.view (View.le_trans hX hle5) (avX b hb).2).1,?_⟩
  have hv6:=(w6.cells (k:=(2,b)) Own.ag).2
  refine w6.kV (k:=(0,2)) (α:=BlkM) BlkM.mK (v:=vb) (l:=lb) (i:=b) (d:=⟨v6⟩) bb.blk (by kernel_rfl) rfl rfl hbl (qH.2 ⟨rfl,hv6⟩) fun h7 w7 _=>?_
  have b7:=bb.aU hb (x':={ nth m.blocks b with ins:=(nth m.blocks b).ins++[i] }) (y':={ lb[b]with ins:=⟨v6⟩ }) (o':=(o.upd (2,b) (it T.dq v6 ((nth m.blocks b).ins++[i]))).upd (0,2) (it T.aY vb (lb.set b { lb[b]with ins:=⟨v6⟩ }))) (by rw[←bb.term b hb,ak hbl]) Own.ag (by rw[←ak hbl];exact bb.phis b hb) ((Own.ab (by simp)).trans Own.ag) (fun q h1 h2 h3=>by rw[Own.ab h1,Own.ab h3])
  generalize hm7:({ m with blocks:=m.blocks.set b { nth m.blocks b with ins:=(nth m.blocks b).ins++[i] } }:MS)=m7 at b7
  have hadd:m.add b i={ m7 with live:=m.live++a6 i }:=by rw[←hm7];rfl
  have hl7:m7.live=m.live:=by rw[←hm7]
  have hf7 : ∀k:Key,3≤k.1→((o.upd (2,b) (it T.dq v6 ((nth m.blocks b).ins++[i]))).upd (0,2) (it T.aY vb (lb.set b { lb[b]with ins:=⟨v6⟩ }))) k=o k:=fun k hk=>by
    rw[Own.ab (by rintro rfl;simp at hk),Own.ab (by rintro rfl;simp at hk)]
  generalize (o.upd (2,b) (it T.dq v6 ((nth m.blocks b).ins++[i]))).upd (0,2) (it T.aY vb (lb.set b { lb[b]with ins:=⟨v6⟩ }))=o7 at w7 b7 hf7
  generalize lb.set b { lb[b]with ins:=⟨v6⟩ }=lb7 at b7
  clear src avX m6
  rw[hz];clear hz z
  refine aa fun z hz=>?_
  have hld7:Un.ev (vw h7) (.ar 5) (.pointer (some ⟨B,0,none⟩))=some (.agg #[.int .i64 i.op,.int .i64 i.dst,.int .i64 i.two,va,.int .i32 i.imm.v]):=by
    have:=de (ρ:=fun _=>none) (e:=.un (.ar 5) (.con (.pointer (some ⟨B,0,none⟩)))) w7.wle (by simpa using hld)
    simpa using this
  simp[hld7]
  refine af (by kernel_rfl) (nR (hi1.mono w7.wle)) ?_
  rintro u8 h8 ⟨hle8,hu8,-⟩
  have w8:=w7.ext hle8
  have hu8:SlRd (grow W1 h7 h8) u8 (a6 i):=hu8.mono (Ew (Nat.le_refl _) (View.le_refl _))
  have hW8:=cy (h':=h8) w7.wle
  generalize grow W1 h7 h8=W8 at w8 hu8 hW8
  rw[hz];clear hz z
  have c58:an (vw h8) ⟨M,5,none⟩=some vl:=b7.cell w8 (i:=5) (by decide)
  have hmk:(a6 i).length≤2:=by
                                         unfold a6;repeat' split
                                         all_goals simp
  simp[c58]
  refine w8.dW (k:=(0,1)) (α:=Int) (v:=vl) (l:=m.live) (l2:=a6 i) (by rw[←hl7];exact b7.live) El.bc rfl rfl (hu8.src w8.wle) (by omega) (by omega) fun v9 h9 w9 m9=>?_
  have hv9:=(w9.cells (k:=(0,1)) Own.ag).2
  have hbx9:(o7.upd (0,1) (it T.int v9 (m.live++a6 i))) (0,0)=bx T.aT M (RawN.mk (n:=5) (mkL vs m7.at_ m7.ps vb m7.next vl)):=b7.box
  refine w9.cI (k:=(0,0)) (n:=5) (i:=5) (e:=T.aT) (B:=M) (l:=mkL vs m7.at_ m7.ps vb m7.next vl) hbx9 (by decide) (by kernel_rfl) rfl rfl hv9 fun h10 w10 _=>?_
  refine hK _ _ ⟨W8,_,View.le_trans hW1 hW8,⟨w10,src1.mono hW8,vb,v9,lb7,?_⟩,fun k hk=>?_⟩
  · rw[hadd]
    exact⟨rfl,rfl,b7.blk,b7.len,b7.term,b7.phis,b7.ins⟩
  · rw[Own.ab (by rintro rfl;simp at hk),Own.ab (by rintro rfl;simp at hk)]
    exact hf7 k hk
end
section
structure MS.ok (c:Nat) (m:MS):Prop where
 at_:m.at_≤c
 n0:0≤m.next
 next:m.next≤c
 live:m.live.length≤c
 ins : ∀i,(nth m.blocks i).ins.length≤c
theorem MS.ok.mono{c d:Nat}{m:MS}(h:m.ok c)(hd:c≤d):m.ok d:=
 ⟨by have:=h.at_;omega,h.n0,by have:=h.next;omega,by have:=h.live;omega,fun i=>by have:=h.ins i;omega⟩
theorem MS.ok.took {c:Nat} {m:MS} (h:m.ok c):m.took.ok (c+1):=
 ⟨by have:=h.at_;show m.at_+1≤_;omega,h.n0,by have:=h.next;show m.next≤_;omega,by have:=h.live;show m.live.length≤_;omega,fun i=>by have:=h.ins i;show(nth m.blocks i).ins.length≤_;omega⟩
theorem MS.ok.aG {c:Nat} {m:MS} (h:m.ok c):m.aG.ok (c+1):=
 ⟨by have:=h.at_;show m.at_≤_;omega,by have:=h.n0;show 0≤m.next+1;omega,by have:=h.next;show m.next+1≤_;omega,by have:=h.live;show m.live.length≤_;omega,fun i=>by have:=h.ins i;show(nth m.blocks i).ins.length≤_;omega⟩
theorem Cs{i:InsD}:(a6 i).length≤2:=by
 unfold a6
 repeat' split
 all_goals simp
theorem MS.ok.add {c b:Nat} {m:MS} {i:InsD} (h:m.ok c):(m.add b i).ok (c+2):=by
 refine⟨by have:=h.at_;show m.at_≤_;omega,h.n0,by have:=h.next;show m.next≤_;omega,?_,fun j=>?_⟩
 ·have:=h.live
  have:=Cs (i:=i)
  show(m.live++a6 i).length≤_
  rw[List.length_append];omega
 ·show(nth (m.blocks.set b _) j).ins.length≤_
  have hj:=h.ins j
  rcases Nat.lt_or_ge j m.blocks.length with hl | hl
  ·rw[aH hl]
   split
   ·rename_i e
    subst e
    rw[List.length_append,List.length_singleton];omega
   ·omega
  ·rw[aV (by simpa using hl)]
   rw[aV hl]at hj;omega
theorem MS.ok.constant {c b:Nat} {m:MS} {n:Int} (h:m.ok c):(m.constant b n).ok (c+3):=h.aG.add
theorem MS.ok.two {c b:Nat} {m:MS} {op x y:Int} (h:m.ok c):(m.two b op x y).ok (c+3):=h.aG.add
variable {s:List Int} {M:Nat} {vs:Value} {W:View} {h:Heap} {o:Own} {m:MS}
theorem MS.ok.aA {c b:Nat} (h:m.ok c):(aA s m b).2.ok (c+10):=by
 unfold Go.Proofs.YtbkdlhkoiagbbaaGreat.aA
 repeat' split
 ·exact(h.took.took.constant).mono (by omega)
 ·exact(h.took.took.took.took.took.constant).mono (by omega)
 ·exact(h.took.took.took).mono (by omega)
variable{b:Nat}
theorem jB{i:InsD}:(m.add b i).blocks.length=m.blocks.length:=by simp[MS.add]
theorem dA:(aA s m b).2.blocks.length=m.blocks.length:=by
 unfold aA
 repeat' split
 all_goals simp[Ba,MS.constant,jB,MS.took,MS.aG]
theorem Mk.constant (w:Mk s M vs W h o m) {b c:Nat} {n:Int} (hb:b<m.blocks.length) (hm:m.ok c) (hc:c≤1000000) (hn:-2147483648≤n∧n≤2147483647) :
  aB Tryz.prog N.bu #[.pointer (some ⟨M,0,none⟩),.int .i64 b,.int .i32 n] h (fun u h'=>u = .int .i64 m.next∧Nx s M vs W h' o (m.constant b n)):=by
 refine ao (args:=[.pointer (some ⟨M,0,none⟩),.int .i64 b,.int .i32 n]) follows F.bu E.bu (Nat.le_of_ble_eq_true (by kernel_rfl)) fun K hK=>?_
 have q1:=hm.next
 have q0:=hm.n0
 dsimp only[L.bu]
 refine aa fun z hz=>?_
 simp
 rw[hz];clear hz z
 refine aa fun z hz=>?_
 simp
 refine af (by kernel_rfl) (w.fresh q0 (by omega)) ?_
 rintro _ h2 ⟨rfl,o2,w2,f2⟩
 rw[hz];clear hz z
 refine aa fun z hz=>?_
 simp
 refine aS (z:=.agg #[.int .i64 0,.int .i64 0,.int .i64 0,.slice none 0 0,.int .i32 0]) (places:=[(0,1),(1,1),(2,1),(3,1),(4,1)]) (vs:=[(0,.int .i64 1),(1,.int .i64 m.next),(4,.int .i32 n)]) (cs:=#[.int .i64 1,.int .i64 m.next,.int .i64 0,.slice none 0 0,.int .i32 n]) (by kernel_rfl) (by kernel_rfl) (by simp) (by rfl) ?_
 have hm2:=hm.aG
 refine af (by kernel_rfl) (w2.add (i:=conD m.next n) hb (yG (imm:=⟨n⟩) ⟨⟨by decide,by decide⟩,⟨by omega,by omega⟩,⟨by decide,by decide⟩,hn⟩ gk) (by have:=hm2.ins b;omega) (by have:=hm2.live;omega)) ?_
 rintro u3 h3 n3
 rw[hz];clear hz z
 simp
 exact hK _ _ ⟨rfl,n3.trans (View.le_refl _) f2⟩
theorem AQ(w:Mk s M vs W h o m){c:Nat}(hb:b<m.blocks.length)(hm:m.ok c)(hc:c≤999990):
  aB Tryz.prog N.cJ #[.pointer (some ⟨M,0,none⟩),.int .i64 b] h (fun u h'=>u = .int .i64 (aA s m b).1∧I64 (aA s m b).1∧Nx s M vs W h' o (aA s m b).2):=by
 refine ao (args:=[.pointer (some ⟨M,0,none⟩),.int .i64 b]) follows F.cJ E.cJ (Nat.le_of_ble_eq_true (by kernel_rfl)) fun K hK=>?_
 have qa:=hm.at_
 have ql:=hm.live
 have hsd:aA s m b=_:=aA.eq_1 s m b
 dsimp only[L.cJ]
 refine aa fun z hz=>?_
 simp
 rw[hz];clear hz z
 refine aa fun z hz=>?_
 simp
 refine af (by kernel_rfl) (w.value (by omega) (by omega)) ?_
 rintro u h2 hu
 have con : ∀{m2:MS} {o2:Own} {h2:Heap} {ρ:Env} {z:LC},Mk s M vs W h2 o2 m2→(∀k:Key,3≤k.1→o2 k=o k)→m2.ok (c+3)→b<m2.blocks.length→aA s m b=(m2.next,Ba s m2 b)→Lft.look ρ 0=some (.pointer (some ⟨M,0,none⟩))→Lft.look ρ 1=some (.int .i64 b)→
   LC.wp Tryz.prog (.seq (.reg false (.loud [19,20,21] [(19,(.tmp 0)),(20,(.tmp 1))] [(21,(.tmp 0))] none [] false (.call ⟨.value (.func N.cf),#[(.tmp 21)],#[T.oW]⟩) 21 (some 22) true
   (.loud [] [] [(19,(.tmp 19)),(20,(.tmp 20)),(22,(.tmp 22))] none [] false (.call ⟨.value (.func N.bu),#[(.tmp 19),(.tmp 20),(.tmp 22)],#[T.oW,3,21]⟩) 3 (some 23) true
    (.fin [4] [(4,(.tmp 23))] [])))) .ret) (ft (LC.wp Tryz.prog z (eQ [.tmp 4] K)) (eQ [.tmp 4] K)) ρ h2:=by
  intro m2 o2 h2 ρ z w2 f2 k2 b2 e2 r0 r1
  refine aa fun y hy=>?_
  simp[r0,r1]
  refine af (by kernel_rfl) (w2.word (by have:=k2.at_;omega)) ?_
  rintro _ h3 ⟨rfl,o3,w3,f3⟩
  simp[aj,al,r0,r1]
  refine af (by kernel_rfl) (w3.constant (n:=iG s m2) b2 k2.took.took (by omega) oA) ?_
  rintro _ h4 ⟨rfl,n4⟩
  rw[hy];clear hy y
  simp[aj,al]
  refine hK _ _ ⟨by rw[e2];rfl,by rw[e2];have:=k2.n0;have:=k2.next;exact⟨by show _≤m2.next;omega,by show m2.next≤_;omega⟩,?_⟩
  rw[e2]
  exact n4.trans (View.le_refl _) fun k hk=>(f3 k hk).trans (f2 k hk)
 rcases hu with⟨h0,rfl,rfl⟩ | ⟨h0,rfl,hi64,o2,w2,f2⟩
 ·rw[if_pos h0]at hsd
  simp
  rw[hz];clear hz z
  refine aa fun z hz=>?_
  refine aa fun y hy=>?_
  simp
  rw[hy];clear hy y
  refine a8 (by simp) ?_
  exact con w (fun _ _=>rfl) (hm.mono (by omega)) hb hsd (by simp[aj,al]) (by simp[aj,al])
 ·rw[if_neg h0]at hsd
  simp
  rw[hz];clear hz z
  refine aa fun z hz=>?_
  refine aa fun y hy=>?_
  simp
  have k2:=hm.took.took
  refine af (by kernel_rfl) (w2.take (by have:=k2.at_;omega) (n:=9) (by decide) (by decide)) ?_
  rintro _ h3 ⟨rfl,o3,w3,f3⟩
  have hx:m.took.took.at_=m.at_+2:=rfl
  rw[hx]
  simp
  rw[hy];clear hy y
  by_cases c9:az s (m.at_+2) 9=0
  ·rw[if_pos c9]at hsd
   refine a8 (by simp[c9]) ?_
   exact con w3 (fun k hk=>(f3 k hk).trans (f2 k hk)) k2.took hb hsd (by simp[aj,al]) (by simp[aj,al])
  ·rw[if_neg c9]at hsd
   refine aX (by simp[c9]) ?_
   simp
   rw[hz];clear hz z
   simp
   refine hK _ _ ⟨by rw[hsd],by rw[hsd];exact hi64,?_⟩
   rw[hsd]
   exact w3.nx.trans (View.le_refl _) fun k hk=>(f3 k hk).trans (f2 k hk)
end
def Nz (s:List Int) (M:Nat) (vs:Value) (W0:View) (h:Heap) (o0:Own) (m:MS) (u:Value) (ds:List Int):Prop:=∃W o,W0.le W∧Mk s M vs W h o m∧(∀k:Key,3≤k.1→o k=o0 k)∧SlRd W u ds
section
variable {s:List Int} {M:Nat} {vs:Value} {W0:View} {h:Heap} {o0:Own} {m:MS} {u:Value} {ds:List Int}
theorem Nx.z(n:Nx s M vs W0 h o0 m):Nz s M vs W0 h o0 m (.slice none 0 0) []:=by
 obtain⟨W,o,h1,h2,h3⟩:=n
 exact⟨W,o,h1,h2,h3,gk⟩
theorem Nz.x(n:Nz s M vs W0 h o0 m u ds):Nx s M vs W0 h o0 m:=by
 obtain⟨W,o,h1,h2,h3,_⟩:=n
 exact⟨W,o,h1,h2,h3⟩
theorem Nz.call{f:FuncId}{args:Array Value}{m':MS}{U:Value→Prop}(hc : ∀{W o},Mk s M vs W h o m→aB Tryz.prog f args h (fun u h'=>U u∧Nx s M vs W h' o m'))(n:Nz s M vs W0 h o0 m u ds):
  aB Tryz.prog f args h (fun v h'=>U v∧Nz s M vs W0 h' o0 m' u ds):=by
 obtain⟨W,o,h1,h2,h3,h4⟩:=n
 refine(hc h2).mono ?_
 rintro v h' ⟨hU,W',o',g1,g2,g3⟩
 exact⟨hU,W',o',View.le_trans h1 g1,g2,fun k hk=>(g3 k hk).trans (h3 k hk),h4.mono g1⟩
theorem eH(n:Nz s M vs W0 h o0 m u ds){c:Nat}(hm:m.ok c)(hc:c≤1000000){k:Int}(hk:0<k)(hk2:k≤1000000000):
  aB Tryz.prog N.bW #[.pointer (some ⟨M,0,none⟩),.int .i64 k] h (fun v h'=>v = .int .i64 (az s m.at_ k)∧Nz s M vs W0 h' o0 m.took u ds):=
 n.call (U:=fun v=>v=_) fun w=>((w.take (by have:=hm.at_;omega) hk hk2).mono fun v h' ⟨e,o',w',f'⟩=>⟨e,w'.nx.trans (View.le_refl _) f'⟩)
theorem gn(n:Nz s M vs W0 h o0 m u ds){c:Nat}(hm:m.ok c)(hc:c≤1000000):
  aB Tryz.prog N.bF #[.pointer (some ⟨M,0,none⟩)] h (fun v h'=>v = .int .i64 m.next∧Nz s M vs W0 h' o0 m.aG u ds):=
 n.call (U:=fun v=>v=_) fun w=>((w.fresh hm.n0 (by have:=hm.next;omega)).mono fun v h' ⟨e,o',w',f'⟩=>⟨e,w'.nx.trans (View.le_refl _) f'⟩)
theorem xR(n:Nz s M vs W0 h o0 m u ds){c:Nat}(hm:m.ok c)(hc:c≤1000000):
  aB Tryz.prog N.cf #[.pointer (some ⟨M,0,none⟩)] h (fun v h'=>v = .int .i32 (iG s m)∧Nz s M vs W0 h' o0 m.took.took u ds):=
 n.call (U:=fun v=>v=_) fun w=>((w.word (by have:=hm.at_;omega)).mono fun v h' ⟨e,o',w',f'⟩=>⟨e,w'.nx.trans (View.le_refl _) f'⟩)
variable{b:Nat}
theorem fO(n:Nz s M vs W0 h o0 m u ds){c:Nat}(hb:b<m.blocks.length)(hm:m.ok c)(hc:c≤1000000){k:Int}(hk:-2147483648≤k∧k≤2147483647):
  aB Tryz.prog N.bu #[.pointer (some ⟨M,0,none⟩),.int .i64 b,.int .i32 k] h (fun v h'=>v = .int .i64 m.next∧Nz s M vs W0 h' o0 (m.constant b k) u ds):=
 n.call (U:=fun v=>v=_) fun w=>w.constant hb hm hc hk
theorem iy(n:Nz s M vs W0 h o0 m u ds){c:Nat}(hb:b<m.blocks.length)(hm:m.ok c)(hc:c≤999990):
  aB Tryz.prog N.cJ #[.pointer (some ⟨M,0,none⟩),.int .i64 b] h (fun v h'=>(v = .int .i64 (aA s m b).1∧I64 (aA s m b).1)∧Nz s M vs W0 h' o0 (aA s m b).2 u ds):=
 n.call (U:=fun v=>v=_∧_) fun w=>(AQ w hb hm hc).mono fun v h' ⟨e1,e2,e3⟩=>⟨⟨e1,e2⟩,e3⟩
theorem jZ(n:Nz s M vs W0 h o0 m u ds){c:Nat}{op d two imm:Int}(hb:b<m.blocks.length)(hm:m.ok c)(hc:c≤1000000)(h1:I64 op)(h2:I64 d)(h3:I64 two)(h4:-2147483648≤imm∧imm≤2147483647):
  aB Tryz.prog N.da #[.pointer (some ⟨M,0,none⟩),.int .i64 b,.agg #[.int .i64 op,.int .i64 d,.int .i64 two,u,.int .i32 imm]] h (fun v h'=>Nx s M vs W0 h' o0 (m.add b ⟨op,d,two,ds,⟨imm⟩⟩)):=by
 obtain⟨W,o,g1,g2,g3,g4⟩:=n
 refine(g2.add (i:=⟨op,d,two,ds,⟨imm⟩⟩) hb (yG (imm:=⟨imm⟩) ⟨h1,h2,h3,h4⟩ g4) (by have:=hm.ins b;omega) (by have:=hm.live;omega)).mono ?_
 rintro v h' n'
 exact n'.trans g1 g3
theorem Nz.lit{po:OP}(n:Nz s M vs W0 h o0 m u ds){ty:TypeId}{ps:Array (Nat × Operand)}{us:List (Nat × Value)}{ls:List Int}{k:Nat}{K:Value→Heap→Prop}(hp:ps.map (fun p=>(p.1,asg us p.2))=(((ls.map fun x=>Value.int .i64 x).zipIdx 0).map fun p=>(p.2,p.1)).toArray)(hr : ∀x∈ls,I64 x)(hn:ls.length=k)(hb:k≤16777216)(hk : ∀a n c h',(vw h).le (vw h')→Nz s M vs W0 h' o0 m (.slice a n c) ls→K (.slice a n c) h'):@Lft.step po Tryz.prog (.buildSlice T.bc k ps) ty us h K:=by
 obtain⟨W,o,g1,g2,g3,g4⟩:=n
 have hra : ∀l:List Int,(∀x∈l,I64 x)→kY W (l.map fun x=>Value.int .i64 x) l:=by
  intro l
  induction l with
  | nil=>intro _;trivial
  | cons a l ih=>intro hl;exact⟨dR.2 ⟨rfl,hl a (by simp)⟩,ih fun x hx=>hl x (by simp[hx])⟩
 refine kW (X:=W) (ds:=ls) (vs:=ls.map fun x=>Value.int .i64 x) rfl El.bc hp (hra ls hr) g2.own.wle hn hb fun v h' hle hs hv _=>?_
 have hs2:=hv _ (cy g2.own.wle) (iJ (Nat.le_refl _))
 obtain⟨a,cp,rfl,_⟩:=id hs2
 refine hk _ _ _ h' hle ?_
 exact⟨_,o,View.le_trans g1 (cy g2.own.wle),⟨g2.own.ext hle,g2.src.mono (cy g2.own.wle),g2.box⟩,g3,hs2⟩
end
theorem MS.ok.jf{c:Nat}{m:MS}(h:m.ok c)(hc:c≤1000000):I64 m.next:=by
 have:=h.n0;have:=h.next;constructor<;>omega
variable{b:Nat}
theorem dx{m:MS}{n:Int}:(m.constant b n).blocks.length=m.blocks.length:=jB
theorem mC{m:MS}{op x y:Int}:(m.two b op x y).blocks.length=m.blocks.length:=jB
theorem i64c{x:Int}(h0:-1000≤x:=by decide)(h1:x≤1000:=by decide):I64 x:=⟨by omega,by omega⟩
theorem Cg{s:List Int}{M:Nat}{vs:Value}{W0:View}{h:Heap}{o0:Own}{m:MS}(n:Nx s M vs W0 h o0 m){c:Nat}{store:Bool}(hb:b<m.blocks.length)(hm:m.ok c)(hc:c≤900000):
  aB Tryz.prog N.cF #[.pointer (some ⟨M,0,none⟩),.int .i64 b,.bool store] h (fun v h'=>Nx s M vs W0 h' o0 (gI s m b store)):=by
 refine ao (args:=[.pointer (some ⟨M,0,none⟩),.int .i64 b,.bool store]) follows F.cF E.cF (Nat.le_of_ble_eq_true (by kernel_rfl)) fun K hK=>?_
 dsimp only[L.cF]
 have n:=n.z
 have hmm:gI s m b store=_:=gI.eq_1 s m b store
 refine aa fun z hz=>?_
 simp
 refine af (by kernel_rfl) (eH n hm (by omega) (k:=9) (by decide) (by decide)) ?_
 rintro _ h1 ⟨rfl,n⟩
 simp
 refine af (by kernel_rfl) (fO n (b:=b) hb hm.took (by omega) (k:=IntKind.i32.wrap (az s m.at_ 9)) kZ) ?_
 rintro _ h2 ⟨rfl,n⟩
 have q:=hm.took.constant (b:=b) (n:=IntKind.i32.wrap (az s m.at_ 9))
 have hb1:b<(m.took.constant b (IntKind.i32.wrap (az s m.at_ 9))).blocks.length:=by rw[dx];exact hb
 obtain⟨m1,hm1⟩ : ∃m1,m1=m.took.constant b (IntKind.i32.wrap (az s m.at_ 9)):=⟨_,rfl⟩
 have had:iE s m b=_:=iE.eq_1 s m b
 rw[←hm1]at n q hb1
 simp only[←hm1]at had
 have hnx:I64 m.next:=hm.jf (by omega)
 have hnt:m.took.next=m.next:=rfl
 rw[hnt]
 generalize m.next=a0 at had hnx
 clear hm1 hm hnt
 rw[hz];clear hz z
 refine aa fun z hz=>?_
 have fin : ∀(a:Int) (m2:MS) (h':Heap) (ρ:Env),iE s m b=(a,m2)→I64 a→m2.ok (c+30)→b<m2.blocks.length→Nz s M vs W0 h' o0 m2 (.slice none 0 0) []→Lft.look ρ 0=some (.pointer (some ⟨M,0,none⟩))→Lft.look ρ 1=some (.int .i64 b)→Lft.look ρ 2=some (.bool store)→Lft.look ρ 6=some (.int .i64 a)→LC.wp Tryz.prog z (eQ [] K) ρ h':=by
  intro a m2 h' ρ e ha q hb n r0 r1 r2 r6
  rw[hz];clear hz z
  simp only[e]at hmm
  refine aa fun z hz=>?_
  simp[aj,al,r0,r1,r2,r6]
  refine af (by kernel_rfl) (eH n q (by omega) (k:=4) (by decide) (by decide)) ?_
  rintro _ h1 ⟨rfl,n⟩
  simp[aj,al,r0,r1,r2,r6]
  rw[hz];clear hz z
  refine aa fun z hz=>?_
  have fin2 : ∀(i:Int) (m3:MS) (h':Heap) (ρ:Env),offS s m2=(i,m3)→(-2147483648≤i∧i≤2147483647)→m3.ok (c+40)→b<m3.blocks.length→Nz s M vs W0 h' o0 m3 (.slice none 0 0) []→Lft.look ρ 0=some (.pointer (some ⟨M,0,none⟩))→Lft.look ρ 1=some (.int .i64 b)→Lft.look ρ 2=some (.bool store)→Lft.look ρ 6=some (.int .i64 a)→Lft.look ρ 11=some (.int .i32 i)→LC.wp Tryz.prog z (eQ [] K) ρ h':=by
   intro i m3 h' ρ e hi q hb n r0 r1 r2 r6 r11
   rw[hz];clear hz z
   simp only[e]at hmm
   refine aa fun z hz=>?_
   simp[aj,al,r0,r1,r2,r6,r11]
   rw[hz];clear hz z
   cases store with
   | true=>
    rw[if_pos rfl]at hmm
    refine a8 (by simp[aj,al,r2]) ?_
    simp[aj,al,r0,r1,r2,r6,r11]
    refine af (by kernel_rfl) (iy n hb q (by omega)) ?_
    rintro _ h1 ⟨⟨rfl,hs⟩,n⟩
    refine n.lit (ls:=[a,(aA s m3 b).1]) (by simp) (by simp[ha,hs]) rfl (by decide) fun ua un uc h2 _ n=>?_
    refine aS (z:=.agg #[.int .i64 0,.int .i64 0,.int .i64 0,.slice none 0 0,.int .i32 0]) (places:=[(0,1),(1,1),(2,1),(3,1),(4,1)]) (vs:=[(0,.int .i64 16),(3,.slice ua un uc),(4,.int .i32 i)]) (cs:=#[.int .i64 16,.int .i64 0,.int .i64 0,.slice ua un uc,.int .i32 i]) (by kernel_rfl) (by kernel_rfl) (by simp) (by rfl) ?_
    refine af (by kernel_rfl) (jZ n (b:=b) (by rw[dA];exact hb) (q.aA (b:=b)) (by omega) i64c i64c i64c hi) ?_
    rintro _ h3 n
    refine hK _ _ ?_
    rw[hmm];exact n
   | false=>
    rw[if_neg (by simp)]at hmm
    refine aX (by simp[aj,al,r2]) ?_
    simp[aj,al,r0,r1,r2,r6,r11]
    refine af (by kernel_rfl) (gn n q (by omega)) ?_
    rintro _ h1 ⟨rfl,n⟩
    refine n.lit (ls:=[a]) (by simp) (by simp[ha]) rfl (by decide) fun ua un uc h2 _ n=>?_
    refine aS (z:=.agg #[.int .i64 0,.int .i64 0,.int .i64 0,.slice none 0 0,.int .i32 0]) (places:=[(0,1),(1,1),(2,1),(3,1),(4,1)]) (vs:=[(0,.int .i64 15),(1,.int .i64 m3.next),(3,.slice ua un uc),(4,.int .i32 i)]) (cs:=#[.int .i64 15,.int .i64 m3.next,.int .i64 0,.slice ua un uc,.int .i32 i]) (by kernel_rfl) (by kernel_rfl) (by simp) (by rfl) ?_
    refine af (by kernel_rfl) (jZ n (b:=b) hb q.aG (by omega) i64c (q.jf (by omega)) i64c hi) ?_
    rintro _ h3 n
    refine hK _ _ ?_
    rw[hmm];exact n
  have hof:offS s m2=_:=offS.eq_1 s m2
  refine aa fun y hy=>?_
  simp[aj,al,r0,r1,r2,r6]
  refine af (by kernel_rfl) (eH n q.took (by omega) (k:=12) (by decide) (by decide)) ?_
  rintro _ h2 ⟨rfl,n⟩
  have hx:m2.took.at_=m2.at_+1:=rfl
  rw[hx]
  simp[aj,al,r0,r1,r2,r6]
  rw[hy];clear hy y
  by_cases c12:az s (m2.at_+1) 12=0
  ·rw[if_pos c12]at hof
   refine a8 (by simp[aj,al,c12]) ?_
   simp[aj,al,r0,r1,r2,r6]
   refine af (by kernel_rfl) (xR n q.took.took (by omega)) ?_
   rintro _ h3 ⟨rfl,n⟩
   exact fin2 _ _ h3 _ hof oA (q.took.took.took.took.mono (by omega)) hb n (by simp[aj,al,r0]) (by simp[aj,al,r1]) (by simp[aj,al,r2]) (by simp[aj,al,r6]) (by simp[aj,al])
  ·rw[if_neg c12]at hof
   refine aX (by simp[aj,al,c12]) ?_
   simp[aj,al,r0,r1,r2,r6]
   exact fin2 _ _ h2 _ hof kZ (q.took.took.mono (by omega)) hb n (by simp[aj,al,r0]) (by simp[aj,al,r1]) (by simp[aj,al,r2]) (by simp[aj,al,r6]) (by simp[aj,al])
 refine aa fun y hy=>?_
 simp
 refine af (by kernel_rfl) (eH n q (by omega) (k:=3) (by decide) (by decide)) ?_
 rintro _ h3 ⟨rfl,n⟩
 simp
 rw[hy];clear hy y
 by_cases c3:az s m1.at_ 3=0
 ·rw[if_pos c3]at had
  refine a8 (by simp[c3]) ?_
  refine aa fun y hy=>?_
  simp
  refine af (by kernel_rfl) (iy n (b:=b) hb1 q.took (by omega)) ?_
  rintro _ h4 ⟨⟨rfl,hs⟩,n⟩
  have q:=q.took.aA (s:=s) (b:=b)
  have hb2:b<(aA s m1.took b).2.blocks.length:=by rw[dA];exact hb1
  generalize aA s m1.took b=r at had hs n q hb2
  rw[hy];clear hy y
  refine aa fun y hy=>?_
  simp
  refine af (by kernel_rfl) (fO n (b:=b) hb2 q (by omega) (k:=7) (by decide)) ?_
  rintro _ h5 ⟨rfl,n⟩
  rw[hy];clear hy y
  refine aa fun y hy=>?_
  simp
  have q5:=q.constant (b:=b) (n:=7)
  refine af (by kernel_rfl) (gn n q5 (by omega)) ?_
  rintro _ h6 ⟨rfl,n⟩
  have hn5:(r.2.constant b 7).next=r.2.next+1:=rfl
  rw[hn5]
  rw[hy];clear hy y
  refine aa fun y hy=>?_
  simp
  have i5:=q5.jf (by omega)
  rw[hn5]at i5
  refine n.lit (ls:=[r.1,r.2.next]) (by simp) (by simp[hs,q.jf (by omega:c+1+3+1+10≤1000000)]) rfl (by decide) fun ua un uc h7 _ n=>?_
  refine aS (z:=.agg #[.int .i64 0,.int .i64 0,.int .i64 0,.slice none 0 0,.int .i32 0]) (places:=[(0,1),(1,1),(2,1),(3,1),(4,1)]) (vs:=[(0,.int .i64 5),(1,.int .i64 (r.2.next+1)),(3,.slice ua un uc)]) (cs:=#[.int .i64 5,.int .i64 (r.2.next+1),.int .i64 0,.slice ua un uc,.int .i32 0]) (by kernel_rfl) (by kernel_rfl) (by simp) (by rfl) ?_
  refine af (by kernel_rfl) (jZ n (b:=b) (imm:=0) (by rw[show(r.2.constant b 7).aG.blocks=(r.2.constant b 7).blocks from rfl,dx];exact hb2) q5.aG (by omega) i64c i5 i64c (by decide)) ?_
  rintro _ h8 n
  have n:Nx s M vs W0 h8 o0 ((r.2.constant b 7).two b 5 r.1 r.2.next):=n
  have q6:=q5.two (b:=b) (op:=5) (x:=r.1) (y:=r.2.next)
  have hb3:b<((r.2.constant b 7).two b 5 r.1 r.2.next).blocks.length:=by rw[mC,dx];exact hb2
  generalize (r.2.constant b 7).two b 5 r.1 r.2.next=m3 at had n q6 hb3
  have n:=n.z
  rw[hy];clear hy y
  refine aa fun y hy=>?_
  simp
  refine af (by kernel_rfl) (gn n q6 (by omega)) ?_
  rintro _ h9 ⟨rfl,n⟩
  rw[hy];clear hy y
  refine aa fun y hy=>?_
  simp
  refine n.lit (ls:=[a0,r.2.next+1]) (by simp) (by simp[hnx,i5]) rfl (by decide) fun ua2 un2 uc2 h10 _ n=>?_
  refine aS (z:=.agg #[.int .i64 0,.int .i64 0,.int .i64 0,.slice none 0 0,.int .i32 0]) (places:=[(0,1),(1,1),(2,1),(3,1),(4,1)]) (vs:=[(0,.int .i64 2),(1,.int .i64 m3.next),(3,.slice ua2 un2 uc2)]) (cs:=#[.int .i64 2,.int .i64 m3.next,.int .i64 0,.slice ua2 un2 uc2,.int .i32 0]) (by kernel_rfl) (by kernel_rfl) (by simp) (by rfl) ?_
  refine af (by kernel_rfl) (jZ n (b:=b) (imm:=0) hb3 q6.aG (by omega) i64c (q6.jf (by omega)) i64c (by decide)) ?_
  rintro _ h11 n
  rw[hy];clear hy y
  simp
  refine fin m3.next (m3.two b 2 a0 (r.2.next+1)) h11 _ had (q6.jf (by omega)) (q6.two.mono (by omega)) (by rw[mC];exact hb3) n.z ?_ ?_ ?_ ?_
  all_goals simp
 ·rw[if_neg c3]at had
  refine aX (by simp[c3]) ?_
  simp
  exact fin a0 m1.took h3 _ had hnx (q.took.mono (by omega)) hb1 n (by simp) (by simp) (by simp) (by simp)
end Go.Proofs.YtbkdlhkoiagbbaaGreat
