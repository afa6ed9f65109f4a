/- A part of the proof: Pf, Pg, Ph, Hd, He, Hf, Hg, Hi, Hj, Hk, Ra, Ka, Kd, Kb, Wu, Wv, Kc, Ma, Mb, Mc, Md, Me, Mf, Mg, Mh, Mi, Rb, Rc, Rd, Rf, Rg, Rh, Mj, Mk, Ml, Mm, Mo, Mp, Ms, Mt, Mu, Mv, Mw, Mx, My, Na, Nb, Ta, Tb. -/
import Derived.Test.YtbkdlhkoiagbbaaZSMany2
import Derived.ChangeKeysEq
set_option linter.unusedSimpArgs false
set_option linter.unusedVariables false
namespace Go.Proofs.Ytbkdlhkoiagbbaa
open Go Go.Lft Chk
def st (out:List Int):Nat→Nat:=fun b=>(nth out b).toNat
def pd (out:List Int):Nat→Prop:=fun b=>b<out.length∧0≤nth out b
def rk (g:Gr) (x:Nat):Nat:=(aC g).idxOf (x:Int)
def Eg (g:Gr) (a b:Nat):Prop:=ek g a b=true
def Dm (g:Gr) (d b:Nat):Prop:=domC g d b=true
def Rg (g:Gr) (x:Nat):Prop:=Re g (-1) x
section
variable {g:Gr}
theorem vR {x:Nat} (h:Rg g x):rk g x<(aC g).length:=List.idxOf_lt_length_of_mem (((fE (Nat.lt_of_le_of_lt (Nat.zero_le _) h.lt)).mem x).2 h)
theorem Rg.pos {x:Nat} (h:Rg g x):0<g.length:=Nat.lt_of_le_of_lt (Nat.zero_le _) h.lt
theorem Ay {x:Nat} (h:Rg g x):rk g x<g.length:=Nat.lt_of_lt_of_le (vR h) lW
theorem uo {a b:Nat} (ha:Rg g a) (hb:Rg g b) (h:rk g a=rk g b):a=b:=by
 have O:=fE ha.pos
 have h1:=List.getElem_idxOf (vR ha)
 have h2:=List.getElem_idxOf (vR hb)
 have:(a:Int)=(b:Int):=by rw [←h1,←h2];congr 1
 omega
theorem nW (hg:0<g.length):rk g 0=0:=by
 have O:=fE hg
 unfold rk
 have hl:0<(aC g).length:=by
  have:=O.head
  rcases Nat.eq_zero_or_pos (aC g).length with h | h
  ·rw [List.eq_nil_of_length_eq_zero h] at this;cases this
  ·exact h
 have h0:=O.head
 rw [List.getElem?_eq_getElem hl] at h0
 have h1:(aC g)[0]=0:=Option.some.inj h0
 have:=List.Nodup.idxOf_getElem O.nodup 0 hl
 rw [h1] at this
 exact this
theorem mR {x:Nat} (h:Rg g x):nth (dr g.length (aC g)) x=(rk g x:Int):=by
 have O:=fE h.pos
 rw [nE O.nodup O.rng h.lt,if_pos ((O.mem x).2 h)];rfl
theorem tY {x:Nat} (hx:x<g.length) (h:¬Rg g x):nth (dr g.length (aC g)) x=-1:=by
 have O:=fE (g:=g) (by omega)
 rw [nE O.nodup O.rng hx,if_neg fun e=>h ((O.mem x).1 e)]
theorem zO (hg:0<g.length) : ∃ f:Nat→Nat,∀ x,Rg g x→x≠0→Rg g (f x)∧Eg g (f x) x∧rk g (f x)<rk g x:=by
 have O:=fE hg
 have : ∀ x,∃ p,Rg g x→x≠0→Rg g p∧Eg g p x∧rk g p<rk g x:=by
  intro x
  by_cases h:Rg g x∧x≠0
  ·obtain ⟨p,hp,h1,h2⟩:=O.par x ((O.mem x).2 h.1) (by omega)
   have hr:=O.rng p hp
   have e:((p.toNat:Nat):Int)=p:=Int.toNat_of_nonneg hr.1
   refine ⟨p.toNat,fun _ _=>⟨(O.mem _).1 (by rw [e];exact hp),by unfold Eg;rw [e];exact h1,by unfold rk;rw [e];exact h2⟩⟩
  ·exact ⟨0,fun h1 h2=>absurd ⟨h1,h2⟩ h⟩
 exact ⟨fun x=>(this x).choose,fun x=>(this x).choose_spec⟩
theorem CQ (hg:0<g.length) {f:Nat→Nat} (hf : ∀ x,Rg g x→x≠0→Rg g (f x)∧Eg g (f x) x∧rk g (f x)<rk g x):Ch (Rg g) (rk g) (Eg g) f (Dm g) where
 inj:=fun a b ha hb h=>uo ha hb h
 R0:=.root hg (by decide)
 r0:=nW hg
 hf:=hf
 d1:=fun d b a hd hne he ha=>by
  obtain ⟨h1,h2,h3⟩:=jX.1 hd
  exact jX.2 ⟨h1,ha,fun h=>h3 (.step h he (by omega))⟩
 d0:=fun d hd=>by
  obtain ⟨h1,h2,h3⟩:=jX.1 hd
  rcases Nat.eq_zero_or_pos d with h | h
  ·exact h
  ·exact absurd (.root hg (by omega)) h3
structure Good (g:Gr) (f:Nat→Nat) (k:Nat) (out:List Int):Prop where
 len:out.length=g.length
 rng : ∀ b,b<g.length→nth out b=-1∨(0≤nth out b∧nth out b<g.length)
 inv:Inv (Rg g) (rk g) (Eg g) f (Dm g) k (st out) (pd out)
variable {f:Nat→Nat} {k:Nat} {out:List Int}
theorem Good.sx (G:Good g f k out) (C:Ch (Rg g) (rk g) (Eg g) f (Dm g)) {x:Nat} (h:Ok (pd out) x):Rg g x∧x<g.length:=⟨G.inv.okR C h,(G.inv.okR C h).lt⟩
theorem j4 (G:Good g f k out) (C:Ch (Rg g) (rk g) (Eg g) f (Dm g)) : ∀ (fuel a b:Nat),Ok (pd out) a→Ok (pd out) b→rk g a+rk g b<fuel→
  ∃ c:Nat,fT out (dr g.length (aC g)) fuel a b=some (c:Int)∧Ok (pd out) c∧∀ x,Anc (st out) x c↔Anc (st out) x a∧Anc (st out) x b
 | 0,a,b,_,_,h=>by omega
 | fuel+1,a,b,ha,hb,h=>by
  obtain ⟨ra,la⟩:=G.sx C ha
  obtain ⟨rb,lb⟩:=G.sx C hb
  have hg:=ra.pos
  have hnl:(dr g.length (aC g)).length=g.length:=by rw [dr,qJ List.length (fun _ _=>by simp)];simp
  have hol:=G.len
  rw [fT,if_pos (by omega),Int.toNat_natCast,Int.toNat_natCast,mR ra,mR rb]
  have step : ∀ a b:Nat,Ok (pd out) a→Ok (pd out) b→rk g b<rk g a→a≠0∧nth out a=((st out a:Nat):Int)∧Ok (pd out) (st out a)∧rk g (st out a)<rk g a∧∀ x,Anc (st out) x (st out a)∧Anc (st out) x b↔Anc (st out) x a∧Anc (st out) x b:=by
   intro a b ha hb hlt
   have ha0:a≠0:=fun e=>by subst e;rw [nW hg] at hlt;omega
   have hpa:=ha.resolve_left ha0
   obtain ⟨_,_,h3,h4⟩:=G.inv.pr a hpa
   refine ⟨ha0,(Int.toNat_of_nonneg hpa.2).symm,h3,h4,fun x=>⟨fun ⟨h5,h6⟩=>⟨.up ha0 h5,h6⟩,fun ⟨h5,h6⟩=>⟨?_,h6⟩⟩⟩
   rcases (jq ha0).1 h5 with rfl | h7
   ·have:=(G.inv.anc h6 hb).2
    rcases this with e | e
    ·subst e;omega
    ·omega
   ·exact h7
  by_cases h1:rk g b<rk g a
  ·rw [if_pos (by omega)]
   obtain ⟨ha0,e,h3,h4,h5⟩:=step a b ha hb h1
   rw [e]
   obtain ⟨c,h6,h7,h8⟩:=j4 G C fuel (st out a) b h3 hb (by omega)
   exact ⟨c,h6,h7,fun x=>(h8 x).trans (h5 x)⟩
  ·rw [if_neg (by omega)]
   by_cases h2:rk g a<rk g b
   ·rw [if_pos (by omega)]
    obtain ⟨hb0,e,h3,h4,h5⟩:=step b a hb ha h2
    rw [e]
    obtain ⟨c,h6,h7,h8⟩:=j4 G C fuel a (st out b) ha h3 (by omega)
    exact ⟨c,h6,h7,fun x=>(h8 x).trans (by rw [and_comm,h5 x,and_comm])⟩
   ·rw [if_neg (by omega)]
    have e:a=b:=uo ra rb (by omega)
    subst e
    exact ⟨a,rfl,ha,fun x=>by simp⟩
def Bst (out:List Int) (best:Int) (Q:Nat→Prop):Prop:=
 (best=-1∧∀ a,¬Q a)∨∃ c:Nat,best=(c:Int)∧Ok (pd out) c∧(∃ a,Q a)∧∀ x,Anc (st out) x c↔∀ a,Q a→Anc (st out) x a
def Cons (g:Gr) (out:List Int) (a:Nat):Prop:=Rg g a∧Ok (pd out) a
theorem kK {best:Int} {Q Q':Nat→Prop} (h : ∀ a,Q a↔Q' a) (b:Bst out best Q):Bst out best Q':=by
 have:Q=Q':=funext fun a=>propext (h a)
 rw [←this];exact b
theorem mo (G:Good g f k out) (C:Ch (Rg g) (rk g) (Eg g) f (Dm g)) : ∀ (l:List Int) (best:Int) (Q:Nat→Prop),Bst out best Q→(∀ a∈l,0≤a∧a<(g.length:Int))→
  ∃ best',bstS out (dr g.length (aC g)) g.length l best=some best'∧Bst out best' fun a=>Q a∨((a:Int)∈l∧Cons g out a)
 | [],best,Q,hB,_=>⟨best,rfl,kK (fun a=>by simp) hB⟩
 | a::l,best,Q,hB,hl=>by
  obtain ⟨h0,h1⟩:=hl a (List.mem_cons_self ..)
  have hl':=fun x hx=>hl x (List.mem_cons_of_mem _ hx)
  obtain ⟨n,rfl⟩:=Int.eq_ofNat_of_zero_le h0
  have hn:n<g.length:=by omega
  have hol:=G.len
  rw [bstS,if_pos ⟨h0,h1⟩,Int.toNat_natCast]
  have hcons:(nth (dr g.length (aC g)) n<0∨((n:Int)≠0∧nth out n<0))↔¬Cons g out n:=by
   by_cases hr:Rg g n
   ·rw [mR hr]
    constructor
    ·rintro (h | ⟨h2,h3⟩)
     ·omega
     ·rintro ⟨_,h4 | h4⟩
      ·omega
      ·have:=h4.2;omega
    ·intro h
     right
     refine ⟨fun e=>h ⟨hr,.inl (by omega)⟩,?_⟩
     rcases Int.lt_or_le (nth out n) 0 with h2 | h2
     ·exact h2
     ·exact absurd ⟨hr,.inr ⟨by omega,h2⟩⟩ h
   ·rw [tY hn hr]
    exact ⟨fun _ h=>hr h.1,fun _=>.inl (by omega)⟩
  by_cases hc:Cons g out n
  ·rw [if_neg fun h=>hcons.1 h hc]
   rcases hB with ⟨rfl,hQ⟩ | ⟨c,rfl,hok,hex,hq⟩
   ·rw [if_pos (by decide)]
    obtain ⟨b',h2,h3⟩:=mo G C l n (fun a=>a=n) (.inr ⟨n,rfl,hc.2,⟨n,rfl⟩,fun x=>by simp⟩) hl'
    refine ⟨b',h2,kK (fun a=>?_) h3⟩
    constructor
    ·rintro (rfl | ⟨h4,h5⟩)
     ·exact .inr ⟨List.mem_cons_self ..,hc⟩
     ·exact .inr ⟨List.mem_cons_of_mem _ h4,h5⟩
    ·rintro (h4 | ⟨h4,h5⟩)
     ·exact absurd h4 (hQ a)
     ·rcases List.mem_cons.1 h4 with h4 | h4
      ·exact .inl (by omega)
      ·exact .inr ⟨h4,h5⟩
   ·rw [if_neg (by omega)]
    obtain ⟨rc,_⟩:=G.sx C hok
    obtain ⟨d,h2,h3,h4⟩:=j4 G C (2*g.length+2) c n hok hc.2 (by have:=Ay rc;have:=Ay hc.1;omega)
    rw [h2]
    simp only [Option.bind_some]
    obtain ⟨b',h5,h6⟩:=mo G C l d (fun a=>Q a∨a=n) (.inr ⟨d,rfl,h3,⟨n,.inr rfl⟩,fun x=>by
     rw [h4,hq]
     constructor
     ·rintro ⟨h7,h8⟩ a (ha | rfl)
      ·exact h7 a ha
      ·exact h8
     ·intro h7
      exact ⟨fun a ha=>h7 a (.inl ha),h7 n (.inr rfl)⟩⟩) hl'
    refine ⟨b',h5,kK (fun a=>?_) h6⟩
    constructor
    ·rintro ((h7 | rfl) | ⟨h7,h8⟩)
     ·exact .inl h7
     ·exact .inr ⟨List.mem_cons_self ..,hc⟩
     ·exact .inr ⟨List.mem_cons_of_mem _ h7,h8⟩
    ·rintro (h7 | ⟨h7,h8⟩)
     ·exact .inl (.inl h7)
     ·rcases List.mem_cons.1 h7 with h7 | h7
      ·exact .inl (.inr (by omega))
      ·exact .inr ⟨h7,h8⟩
  ·rw [if_pos (hcons.2 hc)]
   obtain ⟨b',h2,h3⟩:=mo G C l best Q hB hl'
   refine ⟨b',h2,kK (fun a=>?_) h3⟩
   constructor
   ·rintro (h4 | ⟨h4,h5⟩)
    ·exact .inl h4
    ·exact .inr ⟨List.mem_cons_of_mem _ h4,h5⟩
   ·rintro (h4 | ⟨h4,h5⟩)
    ·exact .inl h4
    ·rcases List.mem_cons.1 h4 with h6 | h6
     ·exact absurd ((show a=n by omega)▸h5) hc
     ·exact .inr ⟨h6,h5⟩
theorem xB (G:Good g f k out) (C:Ch (Rg g) (rk g) (Eg g) f (Dm g)) {c:Nat} (hR:Rg g c) (hc:c≠0) (hk:rk g c=k) :
  ∃ q:Nat,bstS out (dr g.length (aC g)) g.length (nth (bm g) c) (-1)=some (q:Int)∧Turn (Rg g) (rk g) (Eg g) (st out) (pd out) c q:=by
 have hlt:=hR.lt
 obtain ⟨best,h1,h2⟩:=mo G C (nth (bm g) c) (-1) (fun _=>False) (.inl ⟨rfl,fun _ h=>h⟩) (mN (fun e he=>(iJ he).1) (fun i x hx=>by
  rcases Nat.lt_or_ge i g.length with hi | hi
  ·rw [aB hi] at hx;cases hx
  ·rw [aU (by simpa using hi)] at hx;cases hx) c)
 have hm : ∀ a:Nat,(a:Int)∈nth (bm g) c↔Eg g a c:=fun a=>by
  have:=xj (g:=g) (a:=a) (b:=c) ⟨by omega,by omega⟩
  rwa [Int.toNat_natCast] at this
 obtain ⟨f1,f2,f3⟩:=C.hf c hR hc
 rcases h2 with ⟨_,h3⟩ | ⟨q,rfl,hok,_,hq⟩
 ·exact absurd (.inr ⟨(hm _).2 f2,f1,G.inv.fc C hR hc hk⟩) (h3 (f c))
 ·refine ⟨q,h1,hok,fun x=>?_⟩
  rw [hq]
  constructor
  ·intro h a h4 h5 h6
   exact h a (.inr ⟨(hm a).2 h4,h5,h6⟩)
  ·rintro h a (h4 | ⟨h4,h5,h6⟩)
   ·exact h4.elim
   ·exact h a ((hm a).1 h4) h5 h6
end
end Go.Proofs.Ytbkdlhkoiagbbaa
namespace Go.Proofs.Ytbkdlhkoiagbbaa
open Go Go.Lft Chk
def jR (w:Nat→Nat):Nat→Nat
 | 0=>0
 | n+1=>jR w n+w n
theorem zz {w w':Nat→Nat} : ∀ {n:Nat},(∀ b,b<n→w' b≤w b)→jR w' n≤jR w n
 | 0,_=>Nat.le_refl _
 | n+1,h=>Nat.add_le_add (zz fun b hb=>h b (by omega)) (h n (by omega))
theorem x2 {w w':Nat→Nat} {c:Nat} : ∀ {n:Nat},(∀ b,b<n→w' b≤w b)→c<n→w' c<w c→jR w' n<jR w n
 | 0,_,h,_=>by omega
 | n+1,h,hc,hlt=>by
  rcases Nat.lt_or_ge c n with h1 | h1
  ·have:=x2 (n:=n) (fun b hb=>h b (by omega)) h1 hlt
   have:=h n (by omega)
   simp only [jR];omega
  ·obtain rfl:c=n:=by omega
   have:=zz (n:=c) fun b hb=>h b (by omega)
   simp only [jR];omega
theorem qq {w:Nat→Nat} {m:Nat} : ∀ {n:Nat},(∀ b,b<n→w b≤m)→jR w n≤n*m
 | 0,_=>by simp [jR]
 | n+1,h=>by
  have:=qq (n:=n) fun b hb=>h b (by omega)
  have:=h n (by omega)
  rw [jR,Nat.succ_mul];omega
section
variable {g:Gr} {f:Nat→Nat} {k:Nat} {out:List Int}
def wt (g:Gr) (out:List Int) (b:Nat):Nat:=if nth out b<0 then g.length else rk g (st out b)
def mu (g:Gr) (out:List Int):Nat:=jR (wt g out) g.length
theorem Good.set (G:Good g f k out) (C:Ch (Rg g) (rk g) (Eg g) f (Dm g)) {c q:Nat} (hR:Rg g c) (hc:c≠0) (hk:rk g c=k) (T:Turn (Rg g) (rk g) (Eg g) (st out) (pd out) c q) (ch:Bool) :
  Good g f (k+1) (setS out ch c q).1∧mu g (setS out ch c q).1≤mu g out∧((setS out ch c q).2=true→ch=true∨mu g (setS out ch c q).1<mu g out)∧((setS out ch c q).2=false→ch=false∧(setS out ch c q).1=out∧st out c=q∧pd out c):=by
 have hlt:=hR.lt
 have hol:=G.len
 obtain ⟨hq,hqn⟩:=G.sx C T.ok
 have I:=G.inv.turn C hR hc hk T
 by_cases e:nth out c=q
 ·have hs:setS out ch c q=(out,ch):=by simp [setS,e]
  rw [hs]
  have hst:upd (st out) c q=st out:=by
   funext b;unfold upd
   split
   ·rename_i hb;subst hb;simp [st,e]
   ·rfl
  have hpd:add (pd out) c=pd out:=by
   funext b
   refine propext ⟨fun h=>?_,.inr⟩
   rcases h with rfl | h
   ·exact ⟨by omega,by omega⟩
   ·exact h
  rw [hst,hpd] at I
  exact ⟨⟨G.len,G.rng,I⟩,Nat.le_refl _,.inl,fun h=>⟨h,rfl,by simp [st,e],by omega,by omega⟩⟩
 ·have hs:setS out ch c q=(out.set c q,true):=by simp [setS,e]
  rw [hs]
  have hn : ∀ b,b<g.length→nth (out.set c q) b=if c=b then (q:Int) else nth out b:=fun b hb=>az (by omega)
  have hst:st (out.set c q)=upd (st out) c q:=by
   funext b;unfold upd st
   rcases Nat.lt_or_ge b out.length with hb | hb
   ·rw [az hb]
    by_cases h:c=b
    ·rw [if_pos h,if_pos h.symm];simp
    ·rw [if_neg h,if_neg (Ne.symm h)]
   ·rw [aU (by simpa using hb),aU hb,if_neg (by omega)]
  have hpd:pd (out.set c q)=add (pd out) c:=by
   funext b
   refine propext ?_
   unfold pd add
   rw [List.length_set]
   constructor
   ·rintro ⟨h1,h2⟩
    rw [az h1] at h2
    by_cases h:c=b
    ·exact .inl h.symm
    ·rw [if_neg h] at h2;exact .inr ⟨h1,h2⟩
   ·rintro (rfl | ⟨h1,h2⟩)
    ·exact ⟨by omega,by rw [az (by omega),if_pos rfl];omega⟩
    ·refine ⟨h1,?_⟩
     rw [az h1]
     split
     ·omega
     ·exact h2
  have hw : ∀ b,b<g.length→wt g (out.set c q) b≤wt g out b∧(b=c→wt g (out.set c q) b<wt g out b):=by
   intro b hb
   by_cases h:c=b
   ·subst h
    have e1:wt g (out.set c q) c=rk g q:=by
     unfold wt
     rw [hn c hb,if_pos rfl,if_neg (by omega),hst];simp [upd]
    have e2:rk g q<wt g out c:=by
     unfold wt
     split
     ·exact Ay hq
     ·rename_i h1
      have hp:pd out c:=⟨by omega,by omega⟩
      rcases G.inv.CH T hp with h2 | h2
      ·exfalso
       have:=Int.toNat_of_nonneg hp.2
       unfold st at h2
       omega
      ·exact h2
    omega
   ·have e1:wt g (out.set c q) b=wt g out b:=by
     unfold wt st
     rw [hn b hb,if_neg h]
    exact ⟨by omega,fun e=>absurd e.symm h⟩
  have hmu:mu g (out.set c q)<mu g out:=x2 (fun b hb=>(hw b hb).1) hlt ((hw c hlt).2 rfl)
  refine ⟨⟨by simpa using hol,fun b hb=>?_,by rw [hst,hpd];exact I⟩,by show mu g (out.set c q)≤_;omega,fun _=>.inr hmu,fun h=>by cases h⟩
  rw [hn b hb]
  split
  ·right;omega
  ·exact G.rng b hb
theorem oW (C:Ch (Rg g) (rk g) (Eg g) f (Dm g)) : ∀ (l:List Int) (k:Nat) (out:List Int) (ch:Bool),l=(aC g).drop k→1≤k→k≤(aC g).length→Good g f k out→
  ∃ out' ch',lA (dr g.length (aC g)) (bm g) g.length l (out,ch)=some (out',ch')∧Good g f (aC g).length out'∧mu g out'≤mu g out∧(ch'=true→ch=true∨mu g out'<mu g out)∧
   (ch'=false→ch=false∧out'=out∧∀ c:Nat,(c:Int)∈l→pd out c∧Turn (Rg g) (rk g) (Eg g) (st out) (pd out) c (st out c))
 | [],k,out,ch,hl,_,hk,G=>by
  have hk2:(aC g).length≤k:=by
   have:=congrArg List.length hl
   simp only [List.length_nil,List.length_drop] at this;omega
  obtain rfl:k=(aC g).length:=by omega
  exact ⟨out,ch,rfl,G,Nat.le_refl _,.inl,fun h=>⟨h,rfl,by simp⟩⟩
 | b::l,k,out,ch,hl,h1,hk,G=>by
  have hlt:k<(aC g).length:=by
   have:=congrArg List.length hl
   simp only [List.length_cons,List.length_drop] at this;omega
  rw [List.drop_eq_getElem_cons hlt] at hl
  obtain ⟨hb,hl2⟩:=List.cons.inj hl
  have hmem:b∈aC g:=by rw [hb];exact List.getElem_mem _
  have hg:0<g.length:=by have:=lW (g:=g);omega
  have O:=fE hg
  have hr:=O.rng b hmem
  obtain ⟨c,rfl⟩:=Int.eq_ofNat_of_zero_le hr.1
  have hR:Rg g c:=(O.mem c).1 hmem
  have hrk:rk g c=k:=by
   unfold rk;rw [hb,List.Nodup.idxOf_getElem O.nodup]
  have hc0:c≠0:=fun e=>by subst e;rw [nW hg] at hrk;omega
  obtain ⟨q,h3,T⟩:=xB G C hR hc0 hrk
  rw [lA,if_pos hr,Int.toNat_natCast]
  simp only
  rw [h3]
  simp only [Option.bind_some]
  obtain ⟨g1,g2,g3,g4⟩:=G.set C hR hc0 hrk T ch
  have e:setS out ch c q=((setS out ch c q).1,(setS out ch c q).2):=rfl
  rw [e]
  generalize hs1:(setS out ch c q).1=o1 at g1 g2 g3 g4
  generalize hs2:(setS out ch c q).2=c1 at g3 g4
  obtain ⟨out',ch',k1,k2,k3,k4,k5⟩:=oW C l (k+1) o1 c1 hl2 (by omega) (by omega) g1
  refine ⟨out',ch',k1,k2,by omega,fun h=>?_,fun h=>?_⟩
  ·rcases k4 h with h4 | h4
   ·rcases g3 h4 with h5 | h5
    ·exact .inl h5
    ·exact .inr (by omega)
   ·exact .inr (by omega)
  ·obtain ⟨h4,rfl,h6⟩:=k5 h
   obtain ⟨h7,rfl,h8,h9⟩:=g4 h4
   refine ⟨h7,rfl,fun x hx=>?_⟩
   rcases List.mem_cons.1 hx with hx | hx
   ·obtain rfl:x=c:=by omega
    exact ⟨h9,h8▸T⟩
   ·exact h6 x hx
theorem Good.one (hg:0<g.length) (G:Good g f 0 out):Good g f 1 out:=by
 have I:=G.inv
 have h0 : ∀ b,Rg g b→b≠0→¬rk g b<1:=fun b hR hb h=>hb (uo hR (.root hg (by decide)) (by rw [nW hg];omega))
 exact ⟨G.len,G.rng,⟨I.pr,fun b hR hb h=>absurd h (h0 b hR hb),I.fok,I.K,fun b hb y hy _=>I.FP b hb y hy (by omega),fun b hb h=>absurd h (h0 b (I.pr b hb).1 (I.pr b hb).2.1),I.S⟩⟩
structure jV (g:Gr) (f:Nat→Nat) (l:List Int):Prop where
 good:Good g f (aC g).length l
 turn : ∀ c,Rg g c→c≠0→pd l c∧Turn (Rg g) (rk g) (Eg g) (st l) (pd l) c (st l c)
theorem qf (hg:0<g.length) (C:Ch (Rg g) (rk g) (Eg g) f (Dm g)) : ∀ (fuel:Nat) (out:List Int),Good g f 0 out→mu g out<fuel→
  ∃ l,iO (dr g.length (aC g)) (bm g) g.length ((aC g).drop (min 1 (aC g).length)) fuel out=some l∧jV g f l
 | 0,_,_,h=>by omega
 | fuel+1,out,G,h=>by
  have O:=fE hg
  have hlen:0<(aC g).length:=by
   rcases Nat.eq_zero_or_pos (aC g).length with h | h
   ·have:=O.head;rw [List.eq_nil_of_length_eq_zero h] at this;cases this
   ·exact h
  have hm:min 1 (aC g).length=1:=by omega
  rw [iO,hm]
  obtain ⟨out',ch',k1,k2,k3,k4,k5⟩:=oW C ((aC g).drop 1) 1 out false rfl (Nat.le_refl _) hlen (G.one hg)
  rw [k1]
  simp only [Option.bind_some]
  cases ch' with
  | true=>
   rw [if_pos rfl]
   have:=qf hg C fuel out' ⟨k2.len,k2.rng,k2.inv.again fun b hb=>vR hb⟩ (by rcases k4 rfl with h1 | h1;cases h1;omega)
   rwa [hm] at this
  | false=>
   rw [if_neg (by simp)]
   obtain ⟨_,rfl,h6⟩:=k5 rfl
   refine ⟨_,rfl,k2,fun c hR hc=>h6 c ?_⟩
   have hmem:=(O.mem c).2 hR
   obtain ⟨i,hi,e⟩:=List.getElem_of_mem hmem
   have hi0:i≠0:=fun h0=>by
    subst h0
    have:=O.head
    rw [List.getElem?_eq_getElem hi] at this
    have:=Option.some.inj this
    omega
   rw [←e]
   refine List.mem_iff_getElem.2 ⟨i-1,by rw [List.length_drop];omega,?_⟩
   rw [List.getElem_drop]
   congr 1
   omega
theorem p8 (hg:0<g.length) : ∃ f,Ch (Rg g) (rk g) (Eg g) f (Dm g)∧∃ l,qm g (g.length*g.length+1)=some l∧jV g f l:=by
 obtain ⟨f,hf⟩:=zO hg
 have C:=CQ hg hf
 refine ⟨f,C,?_⟩
 refine qf hg C _ _ ⟨by simp,fun b hb=>.inl (aB hb),?_⟩ ?_
 ·have:pd (List.replicate g.length (-1))=fun _=>False:=by
   funext b
   refine propext ⟨fun ⟨h1,h2⟩=>?_,fun h=>h.elim⟩
   rw [aB (by simpa using h1)] at h2
   omega
  rw [this]
  exact Inv.start
 ·have:=qq (w:=wt g (List.replicate g.length (-1))) (m:=g.length) (n:=g.length) fun b hb=>by
   unfold wt
   rw [aB hb,if_pos (by omega)]
   exact Nat.le_refl _
  unfold mu;omega
theorem jV.anc {l:List Int} (I:jV g f l) (C:Ch (Rg g) (rk g) (Eg g) f (Dm g)) {x b:Nat} (hb:Rg g b):Anc (st l) x b↔Dm g x b:=by
 have hok : ∀ b,Rg g b→Ok (pd l) b:=fun b h=>by
  by_cases e:b=0
  ·exact .inl e
  ·exact .inr (I.turn b h e).1
 constructor
 ·intro h
  have hx:=(I.good.sx C (I.good.inv.anc h (hok b hb)).1).1
  refine jX.2 ⟨hx,hb,fun hre=>?_⟩
  have key : ∀ b,Re g x b→¬Anc (st l) x b:=by
   intro b hre
   induction hre with
   | root h1 h2=>intro h;have:=mg.1 h;omega
   | step ha he hne ih=>
    rename_i a b
    intro h
    by_cases e:b=0
    ·subst e;have:=mg.1 h;omega
    ·have hRb:Rg g b:=.step ha.all he (by omega)
     have h3:=((jq e).1 h).resolve_left (by omega)
     exact ih (((I.turn b hRb e).2.q x).1 h3 a he ha.all (hok a ha.all))
  exact key b hre h
 ·intro h
  exact I.good.inv.dom C (hok b hb) h
end
end Go.Proofs.Ytbkdlhkoiagbbaa
namespace Go.Proofs.Ytbkdlhkoiagbbaa
open Go Go.Lft Chk
theorem vO {p:Nat→Bool} {n:Nat}:nH p n=true↔∀ i,i<n→p i=true:=by
 unfold nH
 induction n with
 | zero=>simp [up]
 | succ n ih=>
  rw [up,vx,Bool.and_eq_true,ih]
  constructor
  ·rintro ⟨h1,h2⟩ i hi
   rcases Nat.lt_or_ge i n with h | h
   ·exact h1 i h
   ·obtain rfl:i=n:=by omega
    exact h2
  ·intro h
   exact ⟨fun i hi=>h i (by omega),h n (by omega)⟩
section
variable {g:Gr} {f:Nat→Nat} {l:List Int}
theorem jV.none (I:jV g f l) {b:Nat} (hb:b<g.length) (h:¬Rg g b∨b=0):nth l b=-1:=by
 rcases I.good.rng b hb with h1 | h1
 ·exact h1
 ·exfalso
  have:=I.good.inv.pr b ⟨by rw [I.good.len];exact hb,h1.1⟩
  rcases h with h | h
  ·exact h this.1
  ·exact this.2.1 h
theorem xh {a:Int} (ha:0≤a) : ∀ k,j0 l a k (-1)=false
 | 0=>rfl
 | k+1=>by rw [j0,if_neg (by omega),if_pos (.inl (by omega))]
theorem oH (I:jV g f l) (C:Ch (Rg g) (rk g) (Eg g) f (Dm g)) {a:Nat} : ∀ (k b:Nat),Rg g b→rk g b<k→(j0 l a k b=true↔Anc (st l) a b)
 | 0,b,_,h=>by omega
 | k+1,b,hb,h=>by
  have hlt:=hb.lt
  have hll:=I.good.len
  rw [j0]
  by_cases e:(b:Int)=a
  ·rw [if_pos e]
   have:a=b:=by omega
   subst this
   exact ⟨fun _=>.self,fun _=>rfl⟩
  ·rw [if_neg e,if_neg (by omega),Int.toNat_natCast]
   by_cases h0:b=0
   ·subst h0
    rw [I.none hlt (.inr rfl),xh (by omega),mg]
    constructor
    ·intro h;cases h
    ·intro h;omega
   ·obtain ⟨hp,_⟩:=I.turn b hb h0
    obtain ⟨h1,h2,h3,h4⟩:=I.good.inv.pr b hp
    have e2:nth l b=((st l b:Nat):Int):=(Int.toNat_of_nonneg hp.2).symm
    rw [e2,oH I C k (st l b) (I.good.inv.okR C h3) (by omega),jq h0]
    exact ⟨.inr,fun h=>h.resolve_left (by omega)⟩
theorem mJ (I:jV g f l) (C:Ch (Rg g) (rk g) (Eg g) f (Dm g)) {a b:Nat} (ha:a<g.length) (hb:Rg g b):cE l a b=domC g a b:=by
 have hlt:=hb.lt
 have hll:=I.good.len
 rw [cE,decide_eq_true (by omega),Bool.true_and,Bool.eq_iff_iff,oH I C _ _ hb (by have:=Ay hb;omega),I.anc C hb]
 rfl
end
end Go.Proofs.Ytbkdlhkoiagbbaa
namespace Go.Proofs.Ytbkdlhkoiagbbaa
open Go Go.Lft
theorem x9 {l:List Int} {x:Int} {v:Value} {h:Heap} (hl:SlRd (vw h) v l):ay Try.prog N.slices_Index_int #[v,.int .i64 x] h (fun u h'=>(∃ r:Int,u = .int .i64 r∧(0≤r↔x∈l))∧h'=h):=by
 refine an (args:=[v,.int .i64 x]) follows F.slices_Index_int E.slices_Index_int (Nat.le_of_ble_eq_true (by kernel_rfl)) fun K hK=>?_
 have bl:=hl.bound
 simp [L.slices_Index_int,hl.len]
 refine aA [0,1,7,8] (fun (_:Unit) i=>[v,.int .i64 x,.int .i64 l.length,.int .i64 i]) (fun _ i h1=>h1=h∧∀ j,j<i→nth l j≠x) l.length ()
  rfl (by omega) rfl ⟨rfl,fun j hj=>by omega⟩ (fun _ _=>rfl) (fun v i h1 hk m=>by simp) ?_ ?_
 ·rintro _ i h hlt ⟨rfl,hpre⟩ K2 hK2
  simp (disch:=omega) [hl.idx1 rfl,hl.int (View.le_refl _)]
  refine ⟨fun e=>hK _ _ ⟨⟨i,rfl,by simp;rw [e];exact bW hlt⟩,rfl⟩,fun e=>hK2 () _ _ rfl rfl ⟨rfl,fun j hj=>?_⟩⟩
  rcases Nat.lt_or_ge j i with h | h
  ·exact hpre j h
  ·have:j=i:=by omega
   subst this;exact fun e2=>e e2.symm
 ·rintro _ h ⟨rfl,hpre⟩
  simp
  refine hK _ _ ⟨⟨-1,rfl,by simp;intro hm;obtain ⟨j,hj,e⟩:=List.getElem_of_mem hm;exact hpre j hj (by rw [aj hj];exact e)⟩,rfl⟩
theorem tO {l:List Int} {x:Int} {v:Value} {h:Heap} (hl:SlRd (vw h) v l):ay Try.prog N.slices_Contains_int #[v,.int .i64 x] h (fun u h'=>u = .bool (l.contains x)∧h'=h):=by
 refine an (args:=[v,.int .i64 x]) follows F.slices_Contains_int E.slices_Contains_int (Nat.le_of_ble_eq_true (by kernel_rfl)) fun K hK=>?_
 simp [L.slices_Contains_int]
 refine aq (by kernel_rfl) (x9 hl) ?_
 rintro _ _ ⟨⟨r,rfl,hr⟩,rfl⟩
 simp
 exact hK _ _ ⟨by simp [←hr],rfl⟩
def ofG (l:List BlkD):Gr:=rows (fun i=>gw (nth l i).term.to l.length) l.length
theorem og {l:List BlkD} {v:Value} {p:Int} {h:Heap} (hv:SlRd (vw h) v l) (hl:l.length≤1000000) (hs : ∀ i,i<l.length→(nth l i).term.to.length≤1000000) :
  ay Try.prog N.eH #[.agg #[.int .i64 p,v]] h (fun u h'=>(vw h).le (vw h')∧SlRd (fresh h h') u (ofG l)):=by
 refine an (args:=[.agg #[.int .i64 p,v]]) follows F.eH E.eH (Nat.le_of_ble_eq_true (by kernel_rfl)) fun K hK=>?_
 obtain ⟨hvc,hvo⟩:=hv.cells
 simp [L.eH]
 refine lG (v:=.agg #[.int .i64 p,v]) (by simp) ?_
 have hle1:=bg h (.cells (Value.agg #[.int .i64 p,v]).cells T.aH)
 have hc1:ah (vw (h.push (.cells (Value.agg #[.int .i64 p,v]).cells T.aH))) ⟨h.size,1,none⟩=some v:=aY (c:=#[.int .i64 p,v]) (T:=T.aH) (fz:=(0,0)) (by simp [vw,Value.cells]) rfl
 generalize h.push (.cells (Value.agg #[.int .i64 p,v]).cells T.aH)=h1 at hle1 hc1
 have hv1:=hv.mono hle1
 simp [hc1,hv1.len]
 refine Mine.made (α:=List Int) (V:=nothing) (W:=nothing) (h0:=h1) (n:=l.length) (d:=[]) El.bQ (View.le_refl _) (fun _ _ h=>by cases h) (Old.nothing _ _) (by simp<;>rfl) (by simp<;>rfl) zg (by omega) (by omega) fun o h2 m hle2 _=>?_
 have hc2:=af hle2 hc1
 have hv2:=hv1.mono hle2
 simp [hc2,hv2.len]
 refine aA [1,3,11,12,13] (fun (_:View) k=>[.pointer (some ⟨h.size,0,none⟩),o,v,.int .i64 l.length,.int .i64 k]) (fun W k h3=>Mine nothing h1 h3 W T.bV o (rows (fun i=>gw (nth l i).term.to l.length) k++List.replicate (l.length-k) [])) l.length nothing
  rfl (by omega) rfl m (fun _ _=>rfl) (fun v k h1 hk m=>by simp) ?_ ?_
 ·rintro W a h3 hlta m K2 hK2
  have hle3:=m.old
  have hc3:=af hle3 hc1
  have hv3:=hv1.mono hle3
  obtain ⟨u,hu1,hu2⟩:=hv3.wh rfl (N:=6) rfl hlta
  have hal:=hs a hlta
  have hl5:(rows (fun i=>gw (nth l i).term.to l.length) a++List.replicate (l.length-a) ([]:List Int)).length=l.length:=by simp;omega
  refine aa fun z hz=>?_
  simp (disch:=omega) [hv3.idxn (N:=6) rfl,hu1 _ (View.le_refl _)]
  refine eV (z:=.agg #[.slice none 0 0,.slice none 0 0,.int .i64 0,.slice none 0 0,.slice none 0 0,.int .i32 0]) (by kernel_rfl) rfl (by kernel_rfl) hu2 (fun _=>by simp) (fun _=>by simp) fun h4 hle4 hsz4 hat=>?_
  obtain ⟨vp,vi,va,vt,bp,bi,bk,ba,bt⟩:=me (hat (vw h4) hle4 rfl)
  have hc4:=af hle4 hc3
  have hv4:=hv3.mono hle4
  rw [hz];clear hz z
  simp [bt.1,hc4,hv4.len]
  refine aq (by kernel_rfl) (wv bt.2 (by omega)) ?_
  rintro r h5 ⟨W',mr⟩
  have m5:=(m.ext' hle4).ext mr.old
  have hr:=mr.fresh.mono (jo W _ _)
  simp (disch:=omega) [m5.now.idx1 rfl]
  refine m5.put1 (α:=List Int) (i:=a) (by kernel_rfl) rfl (by simp) (by simp<;>rfl) (by omega) (gE.2 hr) fun h6 m6=>hK2 (grow W h4 h5) _ _ rfl rfl ?_
  rw [ie (x:=fun i=>gw (nth l i).term.to l.length) hlta] at m6
  exact m6
 ·rintro W h3 m
  simp at m
  simp
  exact hK _ _ ⟨View.le_trans hle1 m.old,m.fresh.mono (uK hle1)⟩
def gD (w:Int × Int) (idom:List Int) (blk at_:Int):Bool:=(decide (w.1=blk)&&(decide (w.2<at_)||decide (w.2<0)))||(!decide (w.1=blk)&&cE idom w.1 blk)
def useS (ps:Int) (m:MW) (idom:List Int) (v blk place at_ told:Int):Except Tr Unit:=
 if 0≤v∧v<ps then .ok () else match m v with
  | none=>.error (13,told,place)
  | some w=>if gD w idom blk at_ then .ok () else .error (13,told,place)
theorem vj {Kb r:Nat} {vb vd:Value} {f:ae} {m:MW} {idom:List Int} {h:Heap} {p5 p6:Addr} {v blk place at_ told:Int} (k:Lk h Kb r vb f m) (h5:ah (vw h) p5=some (.pointer (some ⟨Kb,0,none⟩))) (h6:ah (vw h) p6=some vd) (hd:SlRd (vw h) vd idom) :
  dF Try.prog N.ar #[.int .i64 v,.int .i64 blk,.int .i64 place,.int .i64 at_,.int .i64 told,.pointer (some p5),.pointer (some p6)] h (fun _ h'=>useS f.params m idom v blk place at_ told = .ok ()∧(vw h).le (vw h'))
   (fun ch h'=>∃ t,useS f.params m idom v blk place at_ told = .error t∧ch=trV t∧(vw h).le (vw h')):=by
 refine eB (args:=[.int .i64 v,.int .i64 blk,.int .i64 place,.int .i64 at_,.int .i64 told,.pointer (some p5),.pointer (some p6)]) follows F.ar E.ar (Nat.le_of_ble_eq_true (by kernel_rfl)) fun K Kp hK hKp=>?_
 dsimp only [L.ar]
 by_cases hp:0≤v∧v<f.params
 ·simp [h5,af a8 k.c0,hp]
  exact hK _ _ ⟨by simp [useS,hp],View.le_refl _⟩
 ·have hu:useS f.params m idom v blk place at_ told=match m v with
    | none=>.error (13,told,place)
    | some w=>if gD w idom blk at_ then .ok () else .error (13,told,place):=by rw [useS,if_neg hp]
  rw [hu] at hK hKp
  refine aa fun z hz=>?_
  have hc:(decide (0≤v)&&decide (v<f.params))=false:=by
   rw [Bool.eq_false_iff];intro e;exact hp (by simpa using e)
  simp [h5,af a8 k.c0,hc]
  rw [hz];clear hz z
  refine aa fun z hz=>?_
  simp [h5,af a8 k.c2]
  refine hC (z:=.agg #[.int .i64 0,.int .i64 0]) U.dq U.int (by kernel_rfl) (by simp<;>rfl) (by simp<;>rfl) ij k.map ?_
  have cellsW:((mapE encW m (.int .i64 v))).getD (.agg #[.int .i64 0,.int .i64 0])=encW ((m v).getD (0,0)):=by rw [j7];cases m v<;>rfl
  have isW:(mapE encW m (.int .i64 v)).isSome=(m v).isSome:=by rw [j7];cases m v<;>rfl
  rw [cellsW,isW]
  simp
  refine iX (n:=2) (v:=encW ((m v).getD (0,0))) (z:=.agg #[.int .i64 0,.int .i64 0]) (by kernel_rfl) rfl (by kernel_rfl) rfl (by simp [encW,Value.oneCell']) (fun _=>by simp) (fun _=>by simp) fun h3 hle3 hsz3 hb3=>?_
  have d0:ah (vw h3) ⟨h.size,0,none⟩=some (.int .i64 ((m v).getD (0,0)).1):=aY (show vw h3 h.size=_ from hb3) rfl
  have d1:ah (vw h3) ⟨h.size,1,none⟩=some (.int .i64 ((m v).getD (0,0)).2):=aY (show vw h3 h.size=_ from hb3) rfl
  have h63:=af hle3 h6
  have hd3:=hd.mono hle3
  generalize h.size=B at d0 d1
  rw [hz];clear hz z
  have fin : ∀ (ok:Bool) (h4:Heap) (ρ:Env) (z:LC),(vw h).le (vw h4)→(∀ w,m v=some w→ok=gD w idom blk at_)→(m v=none→ok=false)→z = .reg false (.loud [65,66,67] [] [(65,.tmp 13),(66,.tmp 4),(67,.tmp 2)] none [] false (.call ⟨.value (.func N.db),#[.tmp 65,.const (.int .i64 13),.tmp 66,.tmp 67],#[T.bool,T.iQ,T.int,T.int]⟩) 0 (some 68) false (.fin [] [] []))→
    Lft.look ρ 13=some (.bool ok)→Lft.look ρ 4=some (.int .i64 told)→Lft.look ρ 2=some (.int .i64 place)→@LC.wp (ppOf Kp) Try.prog z (@jc [] K) ρ h4:=by
   rintro ok h4 ρ _ hle4 hs hn rfl e13 e4 e2
   simp [e13,e4,e2]
   refine b9 (by kernel_rfl) eu ?_ ?_
   ·rintro _ _ ⟨e,rfl⟩
    refine hK _ _ ⟨?_,hle4⟩
    cases hm:m v with
    | none=>rw [hn hm] at e;cases e
    | some w=>simp only;rw [if_pos (by rw [←hs w hm];exact e)]
   ·rintro _ _ ⟨e,rfl,rfl⟩
    refine ⟨.inl rfl,hKp _ _ ⟨_,?_,rfl,hle4⟩⟩
    cases hm:m v with
    | none=>rfl
    | some w=>simp only;rw [if_neg (by rw [←hs w hm,e];simp)]
  refine aa fun z hz=>?_
  cases hm:m v with
  | none=>
   rw [hm] at d0 d1
   simp [d0,d1]
   refine fin false _ _ _ hle3 (fun w hw=>by rw [hm] at hw;cases hw) (fun _=>rfl) hz ?_ ?_ ?_<;>simp
  | some w=>
   rw [hm] at d0 d1
   simp at d0 d1
   by_cases c1:w.1=blk
   ·by_cases c2:w.2<at_
    ·simp [d0,d1,c1,c2]
     refine fin true _ _ _ hle3 (fun w' hw=>by rw [hm] at hw;cases hw;simp [gD,c1,c2]) (fun e=>by simp [hm] at e) hz ?_ ?_ ?_<;>simp
    ·by_cases c3:w.2<0
     ·simp [d0,d1,c1,c2,c3]
      refine fin true _ _ _ hle3 (fun w' hw=>by rw [hm] at hw;cases hw;simp [gD,c1,c2,c3]) (fun e=>by simp [hm] at e) hz ?_ ?_ ?_<;>simp
     ·simp [d0,d1,c1,c2,c3]
      refine fin false _ _ _ hle3 (fun w' hw=>by rw [hm] at hw;cases hw;simp [gD,c1,c2,c3]) (fun e=>by simp [hm] at e) hz ?_ ?_ ?_<;>simp
   ·simp [d0,d1,c1,h63]
    refine aq (by kernel_rfl) (rS hd3) ?_
    rintro _ h4 ⟨rfl,hle4⟩
    refine fin _ _ _ _ (View.le_trans hle3 hle4) (fun w' hw=>by rw [hm] at hw;cases hw;simp [gD,c1];rfl) (fun e=>by simp [hm] at e) hz ?_ ?_ ?_<;>simp
end Go.Proofs.Ytbkdlhkoiagbbaa
namespace Go.Proofs.Ytbkdlhkoiagbbaa
open Go Go.Lft
def gh (x:PhiD) (row:List Int) (b:Nat):Bool:=decide (0<b)&&decide ((x.ins.length:Int)=(row.length:Int))
def qb (x:PhiD) (row:List Int) (j:Nat):Bool:=decide ((nth x.ins j).frm=nth row j)
def s7 (x:PhiD) (row:List Int) (b:Nat):Bool:=gh x row b&&nH (qb x row) x.ins.length
def uAll (g:Nat→Except Tr Unit) (n:Nat):Except Tr Unit:=upE (fun i _=>g i) n ()
def phiU (f:ae) (m:MW) (idom:List Int) (preds:Gr) (b i:Nat):Except Tr Unit:=
 let x:=nth (nth f.blocks b).phis i
 if s7 x (nth preds b) b then uAll (fun j=>useS f.params m idom (nth x.ins j).val (nth x.ins j).frm (-1-i) (nth f.blocks (nth x.ins j).frm.toNat).ins.length b) x.ins.length else .error (16,b,-1-i)
def insU (f:ae) (m:MW) (idom:List Int) (b i:Nat):Except Tr Unit:=
 uAll (fun j=>useS f.params m idom (nth (nth (nth f.blocks b).ins i).args j) b i i b) (nth (nth f.blocks b).ins i).args.length
def endU (f:ae) (m:MW) (idom:List Int) (b:Nat):Except Tr Unit:=
 uAll (fun j=>useS f.params m idom (nth (nth f.blocks b).term.args j) b (nth f.blocks b).ins.length (nth f.blocks b).ins.length b) (nth f.blocks b).term.args.length
def andE (x y:Except Tr Unit):Except Tr Unit:=match x with | .ok _=>y | .error t=>.error t
def blkU (f:ae) (m:MW) (idom:List Int) (preds:Gr) (b:Nat):Except Tr Unit:=
 andE (uAll (phiU f m idom preds b) (nth f.blocks b).phis.length) (andE (uAll (insU f m idom b) (nth f.blocks b).ins.length) (endU f m idom b))
def mU (f:ae) (b:Nat):Except Tr Unit:=if decide ((b:Int)∈aC (ofG f.blocks)) then .ok () else .error (15,b,0)
def my (f:ae) (m:MW) (idom:List Int):Except Tr Unit:=
 andE (uAll (mU f) f.blocks.length) (uAll (blkU f m idom (bm (ofG f.blocks))) f.blocks.length)
theorem jk {g:Nat→Except Tr Unit} {n k:Nat} {t:Tr} (h:uAll g k = .ok ()) (hk:k<n) (he:g k = .error t):uAll g n = .error t:=rD h hk he
theorem fO {g:Nat→Except Tr Unit} {k:Nat} (h:uAll g k = .ok ()):uAll g (k+1)=g k:=iS h
theorem yE {H:View} {B:Nat} {u v:Value} (h0:ah H ⟨B,0,none⟩=some u) (h1:ah H ⟨B,1,none⟩=some v):Un.ev H (.ao 2) (.pointer (some ⟨B,0,none⟩))=some (.agg #[u,v]):=by
 simp [Un.ev,vP,b5,h0,h1]
theorem y0 {l:List BlkD} (hl:l.length≤1000000) (hs : ∀ i,i<l.length→(nth l i).term.to.length≤1000000):Sm (ofG l):=by
 have hlen:(ofG l).length=l.length:=by simp [ofG]
 refine ⟨by omega,fun i hi=>?_⟩
 rw [hlen] at hi
 rw [ofG,cm hi]
 exact Nat.le_trans qn (hs i hi)
theorem Aw {Kb r:Nat} {vb:Value} {f:ae} {m:MW} {idom:List Int} {fuel:Nat} {h:Heap} (k:Lk h Kb r vb f m) (hn:f.blocks.length≤1000000) (hto : ∀ i,i<f.blocks.length→(nth f.blocks i).term.to.length≤1000000) (hd:qm (ofG f.blocks) fuel=some idom) :
  dF Try.prog N.al #[.pointer (some ⟨Kb,0,none⟩)] h (fun _ h'=>my f m idom = .ok ()∧(vw h).le (vw h')) (fun ch h'=>∃ t,my f m idom = .error t∧ch=trV t∧(vw h).le (vw h')):=by
 refine eB (args:=[.pointer (some ⟨Kb,0,none⟩)]) follows F.al E.al (Nat.le_of_ble_eq_true (by kernel_rfl)) fun K Kp hK hKp=>?_
 have hbb:=k.rb.bound
 have hsm:=y0 hn hto
 have hgl:(ofG f.blocks).length=f.blocks.length:=by simp [ofG]
 dsimp only [L.al]
 refine aa fun z hz=>?_
 simp
 refine lG (v:=.pointer (some ⟨Kb,0,none⟩)) (by simp) ?_
 have hle1:=bg h (.cells (Value.cells (.pointer (some ⟨Kb,0,none⟩))) T.ib)
 have h51:ah (vw (h.push (.cells (Value.cells (.pointer (some ⟨Kb,0,none⟩))) T.ib))) ⟨h.size,0,none⟩=some (.pointer (some ⟨Kb,0,none⟩)):=by simp [ah,vw]
 generalize h.push (.cells (Value.cells (.pointer (some ⟨Kb,0,none⟩))) T.ib)=h1 at hle1 h51
 generalize h.size=B at h51
 have k1:=k.ext hle1
 rw [hz];clear hz z
 refine aa fun z hz=>?_
 simp [h51,yE (af a8 k1.c0) (af a8 k1.c1)]
 refine aq (by kernel_rfl) (og (k1.rb.mono a8) hn hto) ?_
 rintro vg h2 ⟨hle2,hg⟩
 have hg2:=hg.mono (fu _ _)
 rw [hz];clear hz z
 refine aa fun z hz=>?_
 simp
 refine aq (by kernel_rfl) (tz hg2 hsm) ?_
 rintro vo h3 ⟨hle3,ho⟩
 have ho3:=ho.mono (fu _ _)
 have hg3:=hg2.mono hle3
 have hle13:=View.le_trans hle2 hle3
 have k3:=k1.ext hle13
 have h53:=af hle13 h51
 have hle03:=View.le_trans hle1 hle13
 rw [hz];clear hz z
 refine aa fun z hz=>?_
 simp [h53,af a8 k3.c1,k3.rb.len]
 refine aA [0,1,2,3,35,36] (fun (_:Unit) b=>[.pointer (some ⟨Kb,0,none⟩),.pointer (some ⟨B,0,none⟩),vg,vo,.int .i64 f.blocks.length,.int .i64 b]) (fun _ b h4=>h4=h3∧uAll (mU f) b = .ok ()) f.blocks.length ()
  rfl (by omega) rfl ⟨rfl,rfl⟩ (fun _ _=>rfl) (fun v i h1 hk m=>by simp) ?_ ?_
 ·rintro _ b h3 hlt ⟨rfl,hpre⟩ K2 hK2
  simp
  refine aq (by kernel_rfl) (tO ho3) ?_
  rintro _ _ ⟨rfl,rfl⟩
  simp
  refine b9 (by kernel_rfl) eu ?_ ?_
  ·rintro _ _ ⟨e,rfl⟩
   exact hK2 () _ _ rfl rfl ⟨rfl,by rw [fO hpre,mU,if_pos e]⟩
  ·rintro _ _ ⟨e,rfl,rfl⟩
   exact ⟨.inl rfl,hKp _ _ ⟨_,by rw [my,jk hpre hlt (by rw [mU,if_neg (by rw [e];simp)])];rfl,rfl,hle03⟩⟩
 ·rintro _ h3 ⟨rfl,hreach⟩
  have hus:my f m idom=uAll (blkU f m idom (bm (ofG f.blocks))) f.blocks.length:=by rw [my,hreach];rfl
  rw [hus] at hK hKp
  simp
  rw [hz];clear hz z
  refine aa fun z hz=>?_
  simp
  refine aq (by kernel_rfl) (pg hg3 hsm) ?_
  rintro vp h4 ⟨hle4,hp⟩
  have hp4:=hp.mono (fu _ _)
  refine aq (by kernel_rfl) (Aq (hg3.mono hle4) hsm hd) ?_
  rintro vi h5 ⟨W,mi⟩
  have hi5:=mi.now
  refine eV (α:=List Int) (z:=.slice none 0 0) (X:=vw h5) (by kernel_rfl) rfl (by kernel_rfl) (gE.2 hi5) (fun _=>by simp) (fun _=>by simp) fun h6 hle6 hsz6 hat=>?_
  obtain ⟨vd,hvd,hd6⟩:=(hat (vw h6) hle6 rfl).sl
  generalize h5.size=C at hvd
  rw [hz];clear hz z
  have hle36:=View.le_trans hle4 (View.le_trans mi.old hle6)
  have hp6:=hp4.mono (View.le_trans mi.old hle6)
  have k6:=k3.ext hle36
  have h56:=af hle36 h53
  have hle06:=View.le_trans hle03 hle36
  have hpl:(bm (ofG f.blocks)).length=f.blocks.length:=by rw [kf,hgl]
  have hin : ∀ b,∀ x∈nth (bm (ofG f.blocks)) b,0≤x∧x<f.blocks.length:=by
   rw [←hgl]
   exact mN (fun e he=>(iJ he).1) (fun i x hx=>by
    rcases Nat.lt_or_ge i (ofG f.blocks).length with hi | hi
    ·rw [aB hi] at hx;cases hx
    ·rw [aU (by simpa using hi)] at hx;cases hx)
  generalize bm (ofG f.blocks)=preds at hp6 hpl hin hK hKp
  obtain ⟨pv,hpv⟩:=hp6.rows
  simp [h56,af a8 k6.c1,k6.rb.len]
  refine aA [1,5,7,54,55,56] (fun (_:Unit) b=>[.pointer (some ⟨B,0,none⟩),vp,.func (.func N.ar) #[] #[.pointer (some ⟨B,0,none⟩),.pointer (some ⟨C,0,none⟩)],vb,.int .i64 f.blocks.length,.int .i64 b]) (fun _ b h7=>(vw h6).le (vw h7)∧uAll (blkU f m idom preds) b = .ok ()) f.blocks.length ()
   rfl (by omega) rfl ⟨View.le_refl _,rfl⟩ (fun _ _=>rfl) (fun v i h1 hk m=>by simp) ?_ ?_
  ·rintro _ b h7 hltb ⟨hle7,hpre⟩ K2 hK2
   have k7:=k6.ext hle7
   have rb7:=k7.rb.mono a8
   obtain ⟨u,hu,hur⟩:=rb7.wh rfl (N:=6) rfl hltb
   obtain ⟨pc,pr⟩:=hpv b (by omega)
   have hst:=fO hpre
   have her : ∀ {t},blkU f m idom preds b = .error t→uAll (blkU f m idom preds) f.blocks.length = .error t:=fun e=>jk hpre hltb e
   refine aa fun z hz=>?_
   simp (disch:=omega) [rb7.idxn (N:=6) rfl,hu _ (View.le_refl _)]
   refine eV (z:=.agg #[.slice none 0 0,.slice none 0 0,.int .i64 0,.slice none 0 0,.slice none 0 0,.int .i32 0]) (by kernel_rfl) rfl (by kernel_rfl) hur (fun _=>by simp) (fun _=>by simp) fun h8 hle8 hsz8 hat=>?_
   obtain ⟨wp,wi,wa,wt,bp,bi,bk,ba,bt⟩:=me (hat (vw h8) hle8 rfl)
   generalize h7.size=D at bp bi bk ba bt
   rw [hz];clear hz z
   have hle68:=View.le_trans hle7 hle8
   have bph:=bp.2.bound
   have bin:=bi.2.bound
   have bar:=ba.2.bound
   refine aa fun z hz=>?_
   simp [bp.1,bp.2.len]
   refine aA [1,5,7,8,9,54,55,56,62,63,64] (fun (_:Unit) i=>[.pointer (some ⟨B,0,none⟩),vp,.func (.func N.ar) #[] #[.pointer (some ⟨B,0,none⟩),.pointer (some ⟨C,0,none⟩)],.int .i64 b,.pointer (some ⟨D,0,none⟩),vb,.int .i64 f.blocks.length,.int .i64 b,wp,.int .i64 (nth f.blocks b).phis.length,.int .i64 i])
    (fun _ i h9=>(vw h8).le (vw h9)∧uAll (phiU f m idom preds b) i = .ok ()) (nth f.blocks b).phis.length ()
    rfl (by omega) rfl ⟨View.le_refl _,rfl⟩ (fun _ _=>rfl) (fun v i h1 hk m=>by simp) ?_ ?_
   ·rintro _ i h9 hlti ⟨hle9,hpre9⟩ K3 hK3
    have hst9:=fO hpre9
    have her9 : ∀ {t},phiU f m idom preds b i = .error t→blkU f m idom preds b = .error t:=fun e=>by rw [blkU,jk hpre9 hlti e];rfl
    have bp9:=bp.2.mono hle9
    obtain ⟨u9,hu9,hur9⟩:=bp9.wh rfl (N:=2) rfl hlti
    refine aa fun y hy=>?_
    simp (disch:=omega) [bp9.idxn (N:=2) rfl,hu9 _ (View.le_refl _)]
    refine eV (z:=.agg #[.int .i64 0,.slice none 0 0]) (by kernel_rfl) rfl (by kernel_rfl) hur9 (fun _=>by simp) (fun _=>by simp) fun h10 hle10 hsz10 hat10=>?_
    obtain ⟨_,wq,cq⟩:=vv (hat10 (vw h10) hle10 rfl)
    simp only [phiU] at hst9 her9
    generalize nth (nth f.blocks b).phis i=x at cq hst9 her9
    generalize h9.size=D10 at cq
    have bq:=cq.2.bound
    rw [hy];clear hy y
    refine aa fun y hy=>?_
    have hle610:=View.le_trans hle68 (View.le_trans hle9 hle10)
    have hp10:=hp6.mono hle610
    have pr10:=pr.mono hle610
    have hbase:(decide (0<b)&&decide ((x.ins.length:Int)=((nth preds b).length:Int)))=gh x (nth preds b) b:=rfl
    simp (disch:=omega) [cq.1,cq.2.len,hp10.idx1 rfl,pc _ hle610,pr10.len]
    rw [hbase]
    rw [hy];clear hy y
    refine aa fun y hy=>?_
    simp [cq.1,cq.2.len]
    refine aA [1,5,7,8,9,10,11,12,54,55,56,62,63,64,83,84,85] (fun (_:Unit) j=>[.pointer (some ⟨B,0,none⟩),vp,.func (.func N.ar) #[] #[.pointer (some ⟨B,0,none⟩),.pointer (some ⟨C,0,none⟩)],.int .i64 b,.pointer (some ⟨D,0,none⟩),.int .i64 i,.pointer (some ⟨D10,0,none⟩),
      .bool (gh x (nth preds b) b&&nH (qb x (nth preds b)) j),vb,.int .i64 f.blocks.length,.int .i64 b,wp,.int .i64 (nth f.blocks b).phis.length,.int .i64 i,wq,.int .i64 x.ins.length,.int .i64 j])
     (fun _ j h11=>(vw h10).le (vw h11)) x.ins.length ()
     rfl (by omega) (by simp [cW];intro _;rfl) (View.le_refl _) (fun _ _=>rfl) (fun v i h1 hk m=>by simp) ?_ ?_
    ·rintro _ j h11 hltj hle11 K4 hK4
     have cq11:=cq.2.mono hle11
     obtain ⟨u11,hu11,hur11⟩:=cq11.wh rfl (N:=2) rfl hltj
     refine aa fun q hq=>?_
     simp (disch:=omega) [cq11.idxn (N:=2) rfl,hu11 _ (View.le_refl _)]
     refine eV (z:=.agg #[.int .i64 0,.int .i64 0]) (by kernel_rfl) rfl (by kernel_rfl) hur11 (fun _=>by simp) (fun _=>by simp) fun h12 hle12 hsz12 hat12=>?_
     obtain ⟨e0,e1⟩:=yW (hat12 (vw h12) hle12 rfl)
     generalize h11.size=D12 at e0 e1
     rw [hq];clear hq q
     have hle612:=View.le_trans hle610 (View.le_trans hle11 hle12)
     have hp12:=hp6.mono hle612
     have pr12:=pr.mono hle612
     cases hfit:gh x (nth preds b) b&&nH (qb x (nth preds b)) j with
     | false=>
      simp
      refine hK4 () _ _ rfl ?_ (View.le_trans hle11 hle12)
      rw [pI,←Bool.and_assoc,hfit];rfl
     | true=>
      have hlen:x.ins.length=(nth preds b).length:=by
       simp only [Bool.and_eq_true,gh,decide_eq_true_eq] at hfit
       omega
      simp (disch:=omega) [e0,hp12.idx1 rfl,pc _ hle612,pr12.idx1 rfl,pr12.int (View.le_refl _)]
      refine hK4 () _ _ rfl ?_ (View.le_trans hle11 hle12)
      rw [pI,←Bool.and_assoc,hfit];rfl
    ·rintro _ h11 hle11
     have hfs:(gh x (nth preds b) b&&nH (qb x (nth preds b)) x.ins.length)=s7 x (nth preds b) b:=rfl
     rw [hfs]
     simp
     rw [hy];clear hy y
     refine aa fun y hy=>?_
     simp (disch:=omega)
     have hle011:=View.le_trans hle06 (View.le_trans hle610 hle11)
     refine b9 (by kernel_rfl) eu ?_ ?_
     rotate_left
     ·rintro _ _ ⟨e,rfl,rfl⟩
      exact ⟨.inl rfl,hKp _ _ ⟨_,her (her9 (by rw [if_neg (by rw [e];simp)])),rfl,hle011⟩⟩
     rintro _ h11 ⟨efit,rfl⟩
     rw [if_pos efit] at hst9
     have her9' : ∀ {t},uAll (fun j=>useS f.params m idom (nth x.ins j).val (nth x.ins j).frm (-1-i) (nth f.blocks (nth x.ins j).frm.toNat).ins.length b) x.ins.length = .error t→blkU f m idom preds b = .error t:=fun e=>her9 (by rw [if_pos efit];exact e)
     have hlen:x.ins.length=(nth preds b).length:=by
      simp only [Bool.and_eq_true,s7,gh,decide_eq_true_eq] at efit
      omega
     have hfrm : ∀ j,j<x.ins.length→0≤(nth x.ins j).frm∧(nth x.ins j).frm<f.blocks.length:=fun j hj=>by
      have h1:=vO.1 (Bool.and_eq_true _ _▸efit:_∧_).2 j hj
      simp only [qb,decide_eq_true_eq] at h1
      rw [h1]
      exact hin b _ (bW (by omega))
     rw [hy];clear hy y
     have cq11:=cq.2.mono hle11
     simp [af hle11 cq.1,cq11.len]
     refine aA [1,5,7,8,9,10,11,54,55,56,62,63,64,110,111,112] (fun (_:Unit) j=>[.pointer (some ⟨B,0,none⟩),vp,.func (.func N.ar) #[] #[.pointer (some ⟨B,0,none⟩),.pointer (some ⟨C,0,none⟩)],.int .i64 b,.pointer (some ⟨D,0,none⟩),.int .i64 i,.pointer (some ⟨D10,0,none⟩),
       vb,.int .i64 f.blocks.length,.int .i64 b,wp,.int .i64 (nth f.blocks b).phis.length,.int .i64 i,wq,.int .i64 x.ins.length,.int .i64 j])
      (fun _ j h12=>(vw h11).le (vw h12)∧uAll (fun j=>useS f.params m idom (nth x.ins j).val (nth x.ins j).frm (-1-i) (nth f.blocks (nth x.ins j).frm.toNat).ins.length b) j = .ok ()) x.ins.length ()
      rfl (by omega) rfl ⟨View.le_refl _,rfl⟩ (fun _ _=>rfl) (fun v i h1 hk m=>by simp) ?_ ?_
     ·rintro _ j h12 hltj ⟨hle12,hpre12⟩ K4 hK4
      have hst12:=fO hpre12
      have cq12:=cq11.mono hle12
      obtain ⟨u12,hu12,hur12⟩:=cq12.wh rfl (N:=2) rfl hltj
      refine aa fun q hq=>?_
      simp (disch:=omega) [cq12.idxn (N:=2) rfl,hu12 _ (View.le_refl _)]
      refine eV (z:=.agg #[.int .i64 0,.int .i64 0]) (by kernel_rfl) rfl (by kernel_rfl) hur12 (fun _=>by simp) (fun _=>by simp) fun h13 hle13 hsz13 hat13=>?_
      obtain ⟨e0,e1⟩:=yW (hat13 (vw h13) hle13 rfl)
      generalize h12.size=D13 at e0 e1
      have hf:=hfrm j hltj
      generalize hxj:nth x.ins j=w at e0 e1 hst12 hf
      rw [hq];clear hq q
      have hle613:=View.le_trans hle610 (View.le_trans hle11 (View.le_trans hle12 hle13))
      have k13:=k6.ext hle613
      have rb13:=k13.rb.mono a8
      have h513:=af hle613 h56
      obtain ⟨ul,hul⟩:=(((rb13.at (i:=w.frm.toNat) (by omega)).part BlkD.j6)).sl
      rw [←aj (by omega)] at hul
      have hul1:ah (vw h13) (((slA vb).add (w.frm.toNat*6)).add 1)=some ul:=hul.1
      refine eI (vw h13) (View.le_refl _) ?_
      simp (disch:=omega) [e0,e1,h513,af a8 k13.c1,rb13.idxn (N:=6) rfl,hul1,hul.2.len]
      refine nm (ops:=[.tmp 118,.tmp 120,.tmp 122,.tmp 133,.tmp 134]) rfl (by kernel_rfl) (vj k13 h513 (af hle613 hvd) (hd6.mono hle613)) ?_ ?_
      ·rintro _ h14 ⟨e,hle14⟩
       exact hK4 () _ _ rfl rfl ⟨View.le_trans hle12 (View.le_trans hle13 hle14),by rw [hst12];exact e⟩
      ·rintro _ h14 ⟨t,e,rfl,hle14⟩
       exact ⟨.inr fun _=>trivial,hKp _ _ ⟨t,her (her9' (jk hpre12 hltj (by rw [hxj];exact e))),rfl,View.le_trans hle06 (View.le_trans hle613 hle14)⟩⟩
     ·rintro _ h12 ⟨hle12,hpre12⟩
      simp
      exact hK3 () _ _ rfl rfl ⟨View.le_trans hle9 (View.le_trans hle10 (View.le_trans hle11 hle12)),by rw [hst9];exact hpre12⟩
   ·rintro _ h9 ⟨hle9,hpre9⟩
    have hbu:blkU f m idom preds b=andE (uAll (insU f m idom b) (nth f.blocks b).ins.length) (endU f m idom b):=by rw [blkU,hpre9];rfl
    rw [hbu] at hst her
    simp
    rw [hz];clear hz z
    refine aa fun z hz=>?_
    have bi9:=bi.2.mono hle9
    simp [af hle9 bi.1,bi9.len]
    refine aA [1,5,7,8,9,54,55,56,139,140,141] (fun (_:Unit) i=>[.pointer (some ⟨B,0,none⟩),vp,.func (.func N.ar) #[] #[.pointer (some ⟨B,0,none⟩),.pointer (some ⟨C,0,none⟩)],.int .i64 b,.pointer (some ⟨D,0,none⟩),vb,.int .i64 f.blocks.length,.int .i64 b,wi,.int .i64 (nth f.blocks b).ins.length,.int .i64 i])
     (fun _ i h10=>(vw h9).le (vw h10)∧uAll (insU f m idom b) i = .ok ()) (nth f.blocks b).ins.length ()
     rfl (by omega) rfl ⟨View.le_refl _,rfl⟩ (fun _ _=>rfl) (fun v i h1 hk m=>by simp) ?_ ?_
    ·rintro _ i h10 hlti ⟨hle10,hpre10⟩ K3 hK3
     have hst10:=fO hpre10
     have her10 : ∀ {t},insU f m idom b i = .error t→uAll (blkU f m idom preds) f.blocks.length = .error t:=fun e=>her (by rw [jk hpre10 hlti e];rfl)
     have bi10:=bi9.mono hle10
     obtain ⟨u10,hu10,hur10⟩:=bi10.wh rfl (N:=5) rfl hlti
     refine aa fun y hy=>?_
     simp (disch:=omega) [bi10.idxn (N:=5) rfl,hu10 _ (View.le_refl _)]
     refine eV (z:=.agg #[.int .i64 0,.int .i64 0,.int .i64 0,.slice none 0 0,.int .i32 0]) (by kernel_rfl) rfl (by kernel_rfl) hur10 (fun _=>by simp) (fun _=>by simp) fun h11 hle11 hsz11 hat11=>?_
     obtain ⟨_,_,_,wq,cq⟩:=od (hat11 (vw h11) hle11 rfl)
     rw [insU] at hst10 her10
     generalize nth (nth f.blocks b).ins i=x at cq hst10 her10
     generalize h10.size=D11 at cq
     have bq:=cq.2.bound
     rw [hy];clear hy y
     simp [cq.1,cq.2.len]
     refine aA [1,5,7,8,9,17,54,55,56,139,140,141,147,148,149] (fun (_:Unit) j=>[.pointer (some ⟨B,0,none⟩),vp,.func (.func N.ar) #[] #[.pointer (some ⟨B,0,none⟩),.pointer (some ⟨C,0,none⟩)],.int .i64 b,.pointer (some ⟨D,0,none⟩),.int .i64 i,vb,.int .i64 f.blocks.length,.int .i64 b,wi,.int .i64 (nth f.blocks b).ins.length,.int .i64 i,wq,.int .i64 x.args.length,.int .i64 j])
      (fun _ j h12=>(vw h11).le (vw h12)∧uAll (fun j=>useS f.params m idom (nth x.args j) b i i b) j = .ok ()) x.args.length ()
      rfl (by omega) rfl ⟨View.le_refl _,rfl⟩ (fun _ _=>rfl) (fun v i h1 hk m=>by simp) ?_ ?_
     ·rintro _ j h12 hltj ⟨hle12,hpre12⟩ K4 hK4
      have hst12:=fO hpre12
      have cq12:=cq.2.mono hle12
      have hle612:=View.le_trans hle68 (View.le_trans hle9 (View.le_trans hle10 (View.le_trans hle11 hle12)))
      have k12:=k6.ext hle612
      have h512:=af hle612 h56
      simp (disch:=omega) [cq12.idx1 rfl,cq12.int (View.le_refl _)]
      refine nm (ops:=[.tmp 154,.tmp 155,.tmp 156,.tmp 157,.tmp 158]) rfl (by kernel_rfl) (vj k12 h512 (af hle612 hvd) (hd6.mono hle612)) ?_ ?_
      ·rintro _ h14 ⟨e,hle14⟩
       exact hK4 () _ _ rfl rfl ⟨View.le_trans hle12 hle14,by rw [hst12];exact e⟩
      ·rintro _ h14 ⟨t,e,rfl,hle14⟩
       exact ⟨.inl rfl,hKp _ _ ⟨t,her10 (jk hpre12 hltj e),rfl,View.le_trans hle06 (View.le_trans hle612 hle14)⟩⟩
     ·rintro _ h12 ⟨hle12,hpre12⟩
      simp
      exact hK3 () _ _ rfl rfl ⟨View.le_trans hle10 (View.le_trans hle11 hle12),by rw [hst10];exact hpre12⟩
    ·rintro _ h10 ⟨hle10,hpre10⟩
     have hbu2:andE (uAll (insU f m idom b) (nth f.blocks b).ins.length) (endU f m idom b)=endU f m idom b:=by rw [hpre10];rfl
     rw [hbu2] at hst her
     rw [endU] at hst her
     simp
     rw [hz];clear hz z
     have ba10:=ba.2.mono (View.le_trans hle9 hle10)
     have ca10:=af (View.le_trans hle9 hle10) ba.1
     have bi10:=bi9.mono hle10
     have ci10:=af (View.le_trans hle9 hle10) bi.1
     simp [ca10,ba10.len]
     refine aA [1,5,7,8,9,54,55,56,164,165,166] (fun (_:Unit) j=>[.pointer (some ⟨B,0,none⟩),vp,.func (.func N.ar) #[] #[.pointer (some ⟨B,0,none⟩),.pointer (some ⟨C,0,none⟩)],.int .i64 b,.pointer (some ⟨D,0,none⟩),vb,.int .i64 f.blocks.length,.int .i64 b,wa,.int .i64 (nth f.blocks b).term.args.length,.int .i64 j])
      (fun _ j h12=>(vw h10).le (vw h12)∧uAll (fun j=>useS f.params m idom (nth (nth f.blocks b).term.args j) b (nth f.blocks b).ins.length (nth f.blocks b).ins.length b) j = .ok ()) (nth f.blocks b).term.args.length ()
      rfl (by omega) rfl ⟨View.le_refl _,rfl⟩ (fun _ _=>rfl) (fun v i h1 hk m=>by simp) ?_ ?_
     ·rintro _ j h12 hltj ⟨hle12,hpre12⟩ K4 hK4
      have hst12:=fO hpre12
      have ba12:=ba10.mono hle12
      have bi12:=bi10.mono hle12
      have ci12:=af hle12 ci10
      have hle612:=View.le_trans hle68 (View.le_trans hle9 (View.le_trans hle10 hle12))
      have k12:=k6.ext hle612
      have h512:=af hle612 h56
      simp (disch:=omega) [ba12.idx1 rfl,ba12.int (View.le_refl _),ci12,bi12.len]
      refine nm (ops:=[.tmp 171,.tmp 172,.tmp 175,.tmp 178,.tmp 179]) rfl (by kernel_rfl) (vj k12 h512 (af hle612 hvd) (hd6.mono hle612)) ?_ ?_
      ·rintro _ h14 ⟨e,hle14⟩
       exact hK4 () _ _ rfl rfl ⟨View.le_trans hle12 hle14,by rw [hst12];exact e⟩
      ·rintro _ h14 ⟨t,e,rfl,hle14⟩
       exact ⟨.inl rfl,hKp _ _ ⟨t,her (jk hpre12 hltj e),rfl,View.le_trans hle06 (View.le_trans hle612 hle14)⟩⟩
     ·rintro _ h12 ⟨hle12,hpre12⟩
      simp
      exact hK2 () _ _ rfl rfl ⟨View.le_trans hle7 (View.le_trans hle8 (View.le_trans hle9 (View.le_trans hle10 hle12))),by rw [hst];exact hpre12⟩
  ·rintro _ h7 ⟨hle7,hpre⟩
   simp
   exact hK _ _ ⟨hpre,View.le_trans hle06 hle7⟩
end Go.Proofs.Ytbkdlhkoiagbbaa
namespace Go.Proofs.Ytbkdlhkoiagbbaa
open Go Go.Lft
def zC (t:Tr):FrameMode:=.panicking [{ v:=.iface T.dy (.agg #[.int .i64 t.1,.int .i64 t.2.1,.int .i64 t.2.2]),recovered:=true }]
theorem yS {a b c:Nat} {t:Tr} {h:Heap} {ra rb rc:Array Value} {ea eb ec:TypeId} (ha:h[a]? = some (.cells ra ea (0,0))) (hb:h[b]? = some (.cells rb eb (0,0))) (hc:h[c]? = some (.cells rc ec (0,0))) (sa:ra.size=1) (sb:rb.size=1) (sc:rc.size=1)
  (hab:a≠b) (hac:a≠c) (hbc:b≠c):lK Try.prog N.bj #[.pointer (some ⟨a,0,none⟩),.pointer (some ⟨b,0,none⟩),.pointer (some ⟨c,0,none⟩)] (.panicking (trV t)) h
   (fun u' h'=>u'=zC t∧h'[a]? = some (.cells #[.int .i64 t.1] ea (0,0))∧h'[b]? = some (.cells #[.int .i64 t.2.1] eb (0,0))∧h'[c]? = some (.cells #[.int .i64 t.2.2] ec (0,0))∧h.size≤h'.size∧∀ k,k<h.size→k≠a→k≠b→k≠c→h'[k]? = h[k]?):=by
 refine jZ (args:=[.pointer (some ⟨a,0,none⟩),.pointer (some ⟨b,0,none⟩),.pointer (some ⟨c,0,none⟩)]) (t:=6) (L:=L.bj.body.tail) (tys:=#[]) follows F.bj Q.bj (by kernel_rfl) (by kernel_rfl) (by kernel_rfl) (Nat.le_of_ble_eq_true (by kernel_rfl)) E.jO (by kernel_rfl) (by kernel_rfl) (Nat.le_of_ble_eq_true (by kernel_rfl)) ?_
 have ala:a<h.size:=(Array.getElem?_eq_some_iff.1 ha).1
 have alb:b<h.size:=(Array.getElem?_eq_some_iff.1 hb).1
 have alc:c<h.size:=(Array.getElem?_eq_some_iff.1 hc).1
 have hrec:fH (.panicking (trV t))=(.iface T.dy (.agg #[.int .i64 t.1,.int .i64 t.2.1,.int .i64 t.2.2]),zC t):=rfl
 rw [hrec]
 simp [L.bj,LC.tail]
 refine tT (ms:=#[]) (by kernel_rfl) rfl (.inr ⟨_,_,rfl,rfl⟩) ?_
 simp
 refine xg (d:=(Try.prog.underlying T.dy).getD .bool) (by kernel_rfl) (by kernel_rfl) rfl ?_
 simp
 refine iX (n:=3) (z:=.agg #[.int .i64 0,.int .i64 0,.int .i64 0]) (v:=.agg #[.int .i64 t.1,.int .i64 t.2.1,.int .i64 t.2.2]) (by kernel_rfl) rfl (by kernel_rfl) rfl (by simp [Value.oneCell']) (fun _=>by simp) (fun _=>by simp) fun h1 hle1 hs1 hb1=>?_
 generalize hD:h.size=D at hb1 hs1
 obtain ⟨H,hH⟩ : ∃ H:View,H=fun k=>if k=D then h1[k]? else none:=⟨_,rfl⟩
 have hHle : ∀ h2:Heap,h2[D]? = h1[D]?→H.le (vw h2):=fun h2 e k o hk=>by
  rw [hH] at hk;simp only at hk
  split at hk
  ·rename_i e2;subst e2;show h2[_]? = _;rw [e];exact hk
  ·cases hk
 have hHD:H D=some (.cells #[.int .i64 t.1,.int .i64 t.2.1,.int .i64 t.2.2] T.dy (0,0)):=by rw [hH];simp only [if_true];exact hb1
 have d0:ah H ⟨D,0,none⟩=some (.int .i64 t.1):=aY hHD rfl
 have d1:ah H ⟨D,1,none⟩=some (.int .i64 t.2.1):=aY hHD rfl
 have d2:ah H ⟨D,2,none⟩=some (.int .i64 t.2.2):=aY hHD rfl
 refine eI H (hHle h1 rfl) ?_
 simp [d0,d1,d2]
 refine cJ (g:=a) (o:=0) (n:=1) (v:=.int .i64 t.1) (by kernel_rfl) rfl rfl rfl (by simp [Value.oneCell']) (hle1 _ _ ha) (by omega) fun h2 hs2 ⟨row2,hr2,he2⟩ ho2=>?_
 refine ⟨hHle h2 (ho2 D (by omega)),?_⟩
 refine cJ (g:=b) (o:=0) (n:=1) (v:=.int .i64 t.2.1) (by kernel_rfl) rfl rfl rfl (by simp [Value.oneCell']) ((ho2 b (Ne.symm hab)).trans (hle1 _ _ hb)) (by omega) fun h3 hs3 ⟨row3,hr3,he3⟩ ho3=>?_
 refine ⟨hHle h3 ((ho3 D (by omega)).trans (ho2 D (by omega))),?_⟩
 refine cJ (g:=c) (o:=0) (n:=1) (v:=.int .i64 t.2.2) (by kernel_rfl) rfl rfl rfl (by simp [Value.oneCell']) ((ho3 c (Ne.symm hbc)).trans ((ho2 c (Ne.symm hac)).trans (hle1 _ _ hc))) (by omega) fun h4 hs4 ⟨row4,hr4,he4⟩ ho4=>?_
 have one : ∀ {row r:Array Value} {v:Value},v.cells = #[v]→r.size=1→row.toList=r.toList.take 0++v.cells.toList++r.toList.drop (0+1)→row = #[v]:=by
  intro row r v hv hr he
  rw [←Array.toList_inj,he,hv,List.take_zero,List.nil_append,List.drop_eq_nil_of_le (by simp [hr])]
  simp
 rw [one rfl sa he2] at hr2
 rw [one rfl sb he3] at hr3
 rw [one rfl sc he4] at hr4
 refine ⟨?_,?_,hr4,by omega,fun k hk h1' h2' h3'=>?_⟩
 ·rw [ho4 a hac,ho3 a hab];exact hr2
 ·rw [ho4 b hbc];exact hr3
 ·rw [ho4 k h3',ho3 k h2',ho2 k h1']
  exact (hle1 k h[k] (Array.getElem?_eq_getElem (by omega))).trans (Array.getElem?_eq_getElem (by omega)).symm
theorem tU {a b c:Nat} {h:Heap}:lK Try.prog N.bj #[.pointer (some ⟨a,0,none⟩),.pointer (some ⟨b,0,none⟩),.pointer (some ⟨c,0,none⟩)] .returning h (fun u' h'=>u' = .returning∧h'=h):=by
 refine jZ (args:=[.pointer (some ⟨a,0,none⟩),.pointer (some ⟨b,0,none⟩),.pointer (some ⟨c,0,none⟩)]) (t:=6) (L:=L.bj.body.tail) (tys:=#[]) follows F.bj Q.bj (by kernel_rfl) (by kernel_rfl) (by kernel_rfl) (Nat.le_of_ble_eq_true (by kernel_rfl)) E.jO (by kernel_rfl) (by kernel_rfl) (Nat.le_of_ble_eq_true (by kernel_rfl)) ?_
 have hrec:fH .returning=(.nilIface,.returning):=rfl
 rw [hrec]
 simp [L.bj,LC.tail]
 refine tT (ms:=#[]) (by kernel_rfl) rfl (.inl ⟨rfl,rfl⟩) ?_
 simp
def manyN (f:ae) (k:Nat):Int:=up (fun i n=>n+(((nth f.blocks i).phis.length:Int)+(nth f.blocks i).ins.length)) k f.blocks.length
def vU (f:ae):Int:=manyN f f.blocks.length
def lk (g:Gr):List Int:=(qm g (g.length*g.length+1)).getD []
def qj (f:ae):Except Tr MW→Except Tr Unit
 | .error t=>.error t
 | .ok m=>my f m (lk (ofG f.blocks))
def gV (f:ae):Except Tr Unit:=
 if aN f.params 0 4=false then .error (1,0,0)
 else if f.blocks.length=0 then .error (14,0,0)
 else if ¬(f.blocks.length≤512∧vU f≤4096) then .error (2,0,0)
 else qj f (gT f (fun _=>none))
def ig (f:ae):Tr:=match gV f with
 | .ok _=>(0,0,0)
 | .error t=>t
theorem zK {f:ae} {k:Nat}:0≤manyN f k:=by
 unfold manyN
 induction k with
 | zero=>simp [up]
 | succ k ih=>rw [up];omega
theorem yX {f:ae} {m m':MW} (h:gT f m = .ok m') : ∀ i,i<f.blocks.length→(nth f.blocks i).term.to.length≤65:=by
 intro i hi
 have key : ∀ n,n≤f.blocks.length→∃ s,upE (blkS f) n m = .ok s:=fun n hn=>by
  cases e:upE (blkS f) n m with
  | ok s=>exact ⟨s,rfl⟩
  | error t=>rw [gT,rB hn e] at h;cases h
 obtain ⟨s,hs⟩:=key i (by omega)
 obtain ⟨s',hs'⟩:=key (i+1) hi
 rw [iS hs,blkS] at hs'
 split at hs'
 ·cases hs'
 ·split at hs'
  ·cases hs'
  ·rw [endS] at hs'
   split at hs'
   ·rename_i hok
    rw [jG] at hok
    split at hok
    ·rename_i sh hsh
     simp only [aN,Bool.and_eq_true,decide_eq_true_eq] at hok
     have:sh.2.2.2≤65:=by
      simp only [dD,putM] at hsh
      repeat' (split at hsh)
      all_goals first | (cases hsh;done) | (cases hsh;decide)
     omega
    ·cases hok
   ·cases hs'
end Go.Proofs.Ytbkdlhkoiagbbaa
namespace Go.Proofs.Ytbkdlhkoiagbbaa
open Go Go.Lft
theorem yU {g:Gr} (hg:0<g.length):qm g (g.length*g.length+1)=some (lk g):=by
 obtain ⟨_,_,l,hl,_⟩:=p8 hg
 rw [lk,hl];rfl
theorem one_cell {row r:Array Value} {v:Value} (hv:v.cells = #[v]) (hr:r.size=1) (he:row.toList=r.toList.take 0++v.cells.toList++r.toList.drop (0+1)):row = #[v]:=by
 rw [←Array.toList_inj,he,hv,List.take_zero,List.nil_append,List.drop_eq_nil_of_le (by simp [hr])]
 simp
structure SmB (x:BlkD):Prop where
 phis:x.phis.length≤10000
 ins:x.ins.length≤10000
 args:x.term.args.length≤10000
 to:x.term.to.length≤10000
 phi : ∀ i,i<x.phis.length→(nth x.phis i).ins.length≤10000
 inn : ∀ i,i<x.ins.length→(nth x.ins i).args.length≤10000
structure SmF (f:ae):Prop where
 len:f.blocks.length≤10000
 blk : ∀ i,i<f.blocks.length→SmB (nth f.blocks i)
theorem Al {f:ae} {v:Value} {h:Heap} (hv:Rd (vw h) v f) (hsm:SmF f) :
  ay Try.prog N.dz #[v] h (fun u h'=>u = .tuple #[.int .i64 (ig f).1,.int .i64 (ig f).2.1,.int .i64 (ig f).2.2]∧(vw h).le (vw h')):=by
 refine kW (args:=[v]) (g:=N.bj) (t:=9) (capops:=#[.tmp 2,.tmp 3,.tmp 4]) (tys:=#[])
  (Mid:=fun ρ hh=>ρ=[(0,v),(1,.pointer (some ⟨h.size,0,none⟩)),(2,.pointer (some ⟨h.size+1,0,none⟩)),(3,.pointer (some ⟨h.size+2,0,none⟩)),(4,.pointer (some ⟨h.size+3,0,none⟩))]∧hh.size=h.size+4∧(vw h).le (vw hh)∧At (vw hh) ⟨h.size,0,none⟩ f∧
   hh[h.size+1]? = some (.cells #[.int .i64 0] T.iQ (0,0))∧hh[h.size+2]? = some (.cells #[.int .i64 0] T.int (0,0))∧hh[h.size+3]? = some (.cells #[.int .i64 0] T.int (0,0)))
  follows F.dz B.dz (by kernel_rfl) (by kernel_rfl) (by kernel_rfl) (by kernel_rfl) (by kernel_rfl) (by kernel_rfl) (Nat.le_of_ble_eq_true (by kernel_rfl)) (by kernel_rfl) E.fW (by kernel_rfl) E.dZ (by kernel_rfl) R.pK (Nat.le_of_ble_eq_true (by kernel_rfl)) ?_ ?_
 ·simp [L.fW]
  refine jj rfl hv fun h1 e1 hle1 hs1 hat=>?_
  refine dw (z:=.int .i64 0) (by kernel_rfl) ?_
  refine dw (z:=.int .i64 0) (by kernel_rfl) ?_
  refine dw (z:=.int .i64 0) (by kernel_rfl) ?_
  have q1:=bg h1 (.cells (Value.int .i64 0).cells T.iQ)
  generalize e2:h1.push (.cells (Value.int .i64 0).cells T.iQ)=h2 at q1
  have b2:h2[h1.size]? = some (.cells #[.int .i64 0] T.iQ (0,0)):=by rw [←e2];simp
  have s2:h2.size=h1.size+1:=by rw [←e2];simp
  have q2:=bg h2 (.cells (Value.int .i64 0).cells T.int)
  generalize e3:h2.push (.cells (Value.int .i64 0).cells T.int)=h3 at q2
  have b3:h3[h2.size]? = some (.cells #[.int .i64 0] T.int (0,0)):=by rw [←e3];simp
  have s3:h3.size=h2.size+1:=by rw [←e3];simp
  have q3:=bg h3 (.cells (Value.int .i64 0).cells T.int)
  generalize e4:h3.push (.cells (Value.int .i64 0).cells T.int)=h4 at q3
  have b4:h4[h3.size]? = some (.cells #[.int .i64 0] T.int (0,0)):=by rw [←e4];simp
  have s4:h4.size=h3.size+1:=by rw [←e4];simp
  have hsz:h1.size=h.size+1:=hs1
  have e22:h2.size=h.size+2:=by omega
  have e32:h3.size=h.size+3:=by omega
  rw [hsz] at b2
  rw [e22] at b3
  rw [e32] at b4
  rw [e22,e32,hsz]
  simp
  exact ⟨by omega,View.le_trans hle1 (View.le_trans q1 (View.le_trans q2 q3)),hat.mono (View.le_trans q1 (View.le_trans q2 q3)),q3 _ _ (q2 _ _ b2),q3 _ _ b3,b4⟩
 ·rintro ρ hh ⟨rfl,hs,hle,hat,hb1,hb2,hb3⟩
  refine ⟨[.pointer (some ⟨h.size+1,0,none⟩),.pointer (some ⟨h.size+2,0,none⟩),.pointer (some ⟨h.size+3,0,none⟩)],by simp [mG],
   ⟨fun ch h2=>∃ t,gV f = .error t∧ch=trV t∧(vw hh).le (vw h2),fun ρ=>Lft.look ρ 2=some (.pointer (some ⟨h.size+1,0,none⟩))∧Lft.look ρ 3=some (.pointer (some ⟨h.size+2,0,none⟩))∧Lft.look ρ 4=some (.pointer (some ⟨h.size+3,0,none⟩))⟩,?_,?_⟩
  rotate_left
  ·rintro ch ρ2 h2 ⟨t,ht,rfl,hle2⟩ ⟨l2,l3,l4⟩
   refine ⟨_,yS (hle2 _ _ hb1) (hle2 _ _ hb2) (hle2 _ _ hb3) rfl rfl rfl (by omega) (by omega) (by omega),?_⟩
   rintro u' h3 ⟨rfl,g1,g2,g3,gs,go⟩
   have c1:ah (vw h3) ⟨h.size+1,0,none⟩=some (.int .i64 t.1):=aY (show vw h3 _=_ from g1) rfl
   have c2:ah (vw h3) ⟨h.size+2,0,none⟩=some (.int .i64 t.2.1):=aY (show vw h3 _=_ from g2) rfl
   have c3:ah (vw h3) ⟨h.size+3,0,none⟩=some (.int .i64 t.2.2):=aY (show vw h3 _=_ from g3) rfl
   refine ⟨rfl,[.int .i64 t.1,.int .i64 t.2.1,.int .i64 t.2.2],by simp [R.dz,l2,l3,l4,c1,c2,c3],?_⟩
   refine ⟨by simp [ig,ht],fun b o hb=>?_⟩
   have hlt:=View.lt (View.le_refl (vw h)) hb
   show h3[b]? = _
   have hb2':=hle2 _ _ (hle _ _ hb)
   have hlt2:=View.lt (View.le_refl (vw h2)) hb2'
   rw [go b hlt2 (by omega) (by omega) (by omega)]
   exact hb2'
  ·obtain ⟨cp,vb,cb⟩:=iE hat
   have hbb:=cb.2.bound
   have bad : ∀ {t:Tr} {ch:List PanicEntry} {h2:Heap},gV f = .error t→ch=trV t→(vw hh).le (vw h2)→∃ t,gV f = .error t∧ch=trV t∧(vw hh).le (vw h2):=fun a b c=>⟨_,a,b,c⟩
   simp only [gS,wM]
   dsimp only [L.dZ]
   refine aa fun z hz=>?_
   simp [cp]
   refine aq (by kernel_rfl) fP ?_
   rintro _ _ ⟨rfl,rfl⟩
   refine b9 (by kernel_rfl) eu ?_ ?_
   rotate_left
   ·rintro _ _ ⟨e,rfl,rfl⟩
    exact ⟨.inl rfl,bad (by rw [gV,if_pos e]) rfl (View.le_refl _)⟩
   rintro _ hh ⟨e1,rfl⟩
   have e1':¬aN f.params 0 4=false:=by rw [e1];simp
   rw [hz];clear hz z
   refine aa fun z hz=>?_
   simp [cb.1,cb.2.len]
   refine b9 (by kernel_rfl) eu ?_ ?_
   rotate_left
   ·rintro _ _ ⟨e,rfl,rfl⟩
    exact ⟨.inl rfl,bad (by rw [gV,if_neg e1',if_pos (by simpa using e)]) rfl (View.le_refl _)⟩
   rintro _ hh ⟨e2,rfl⟩
   have e2':¬f.blocks.length=0:=by
    intro e;rw [e] at e2;simp at e2
   rw [hz];clear hz z
   refine aa fun z hz=>?_
   simp [cb.1,cb.2.len]
   rw [hz];clear hz z
   refine aa fun z hz=>?_
   simp [cb.1,cb.2.len]
   refine aA [1,2,3,4,5,23,24,25] (fun (_:Unit) k=>[.pointer (some ⟨h.size,0,none⟩),.pointer (some ⟨h.size+1,0,none⟩),.pointer (some ⟨h.size+2,0,none⟩),.pointer (some ⟨h.size+3,0,none⟩),.int .i64 (manyN f k),vb,.int .i64 f.blocks.length,.int .i64 k])
    (fun _ k h1=>(vw hh).le (vw h1)∧manyN f k≤f.blocks.length+k*2000000) f.blocks.length ()
    rfl (by omega) rfl ⟨View.le_refl _,by simp [manyN,up]⟩ (fun _ _=>rfl) (fun v i h1 hk m=>by simp) ?_ ?_
   ·rintro _ k h1 hlt ⟨hle1,hmk⟩ K2 hK2
    have cb1:=cb.2.mono hle1
    obtain ⟨u,hu,hur⟩:=cb1.wh rfl (N:=6) rfl hlt
    refine aa fun y hy=>?_
    simp (disch:=omega) [cb1.idxn (N:=6) rfl,hu _ (View.le_refl _)]
    refine eV (z:=.agg #[.slice none 0 0,.slice none 0 0,.int .i64 0,.slice none 0 0,.slice none 0 0,.int .i32 0]) (by kernel_rfl) rfl (by kernel_rfl) hur (fun _=>by simp) (fun _=>by simp) fun h2 hle2 hsz2 hat2=>?_
    obtain ⟨vp,vi,va,vt,bp,bi,_⟩:=me (hat2 (vw h2) hle2 rfl)
    have bph:=bp.2.bound
    have bih:=bi.2.bound
    have hm1:manyN f (k+1)=manyN f k+(((nth f.blocks k).phis.length:Int)+(nth f.blocks k).ins.length):=rfl
    have h0:=zK (f:=f) (k:=k)
    rw [hy];clear hy y
    simp [bp.1,bp.2.len,bi.1,bi.2.len]
    have s1:=(hsm.blk k hlt).phis
    have s2:=(hsm.blk k hlt).ins
    have s0:=hsm.len
    rw [cw (a:=((nth f.blocks k).phis.length:Int)+(nth f.blocks k).ins.length) (by omega) (by omega),cw (by omega) (by omega)]
    exact hK2 () _ _ rfl (by rw [hm1];rfl) ⟨View.le_trans hle1 hle2,by rw [hm1];omega⟩
   ·rintro _ h1 ⟨hle1,hmk⟩
    simp
    rw [hz];clear hz z
    refine aa fun z hz=>?_
    have cb1:=cb.2.mono hle1
    have cc1:=af hle1 cb.1
    have cp1:=af hle1 cp
    simp [cc1,cb1.len]
    have hms:manyN f f.blocks.length=vU f:=rfl
    rw [hms]
    refine b9 (by kernel_rfl) eu ?_ ?_
    rotate_left
    ·rintro _ _ ⟨e,rfl,rfl⟩
     refine ⟨.inl rfl,bad ?_ rfl hle1⟩
     rw [gV,if_neg e1',if_neg e2',if_pos]
     intro e3
     simp at e;omega
    rintro _ h1 ⟨e3,rfl⟩
    have e3':¬¬(f.blocks.length≤512∧vU f≤4096):=by
     simp at e3;omega
    have hchk:gV f=qj f (gT f (fun _=>none)):=by rw [gV,if_neg e1',if_neg e2',if_neg e3']
    rw [hz];clear hz z
    refine aa fun z hz=>?_
    simp [yE cp1 cc1]
    refine lY ?_
    have hle2:=bg h1 (.map #[] 0)
    have hm2:dO (.int .i64) (h1.push (.map #[] 0)) h1.size (mapE encW fun _=>none):=by rw [qd];exact dO.none (by simp)
    have hs2:(h1.push (.map #[] 0)).size=h1.size+1:=by simp
    generalize h1.push (.map #[] 0)=h2 at hle2 hm2 hs2
    refine bc (z:=.agg #[.int .i64 0,.slice none 0 0,.map none]) (places:=[(0,2),(2,1)]) (vs:=[(0,.agg #[.int .i64 f.params,vb]),(1,.map (some h1.size))]) (cs:=#[.int .i64 f.params,vb,.map (some h1.size)]) (by kernel_rfl) (by kernel_rfl) (by simp) (by rfl) ?_
    refine lG (v:=.agg #[.int .i64 f.params,vb,.map (some h1.size)]) rfl ?_
    have hle3:=bg h2 (.cells (Value.cells (.agg #[.int .i64 f.params,vb,.map (some h1.size)])) T.eO)
    have hbk:(h2.push (.cells (Value.cells (.agg #[.int .i64 f.params,vb,.map (some h1.size)])) T.eO))[h2.size]? = some (.cells #[.int .i64 f.params,vb,.map (some h1.size)] T.eO (0,0)):=by simp
    have hs3:(h2.push (.cells (Value.cells (.agg #[.int .i64 f.params,vb,.map (some h1.size)])) T.eO)).size=h2.size+1:=by simp
    generalize h2.push (.cells (Value.cells (.agg #[.int .i64 f.params,vb,.map (some h1.size)])) T.eO)=h3 at hle3 hbk hs3
    rw [hz];clear hz z
    have hsk:skip h1.size h3 h2.size=some (.cells #[.int .i64 f.params,vb,.map (some h1.size)] T.eO (0,0)):=by rw [fC (by omega)];exact hbk
    have hle13:=View.le_trans hle2 hle3
    have hle1k:(vw h1).le (skip h1.size h3):=fun b o hb=>by
     have hlt:=View.lt (View.le_refl (vw h1)) hb
     rw [fC (by omega)];exact hle13 b o hb
    have k3:Lk h3 h2.size h1.size vb f (fun _=>none):=⟨aY hsk rfl,aY hsk rfl,aY hsk rfl,cb1.mono hle1k,hm2.ext hle3⟩
    generalize h2.size=Kb at k3
    generalize hr:h1.size=r at k3
    have hkk : ∀ {h':Heap},Kept h3 h' (some r)→(vw hh).le (vw h'):=fun kp b o hb=>by
     have h1b:=hle1 b o hb
     have hlt:=View.lt (View.le_refl (vw h1)) h1b
     have h3b:=hle13 b o h1b
     have hlt3:=View.lt (View.le_refl (vw h3)) h3b
     show _=_
     exact (kp.block b hlt3 (by simp;omega)).trans h3b
    refine aa fun z hz=>?_
    simp
    refine b9 (by kernel_rfl) (yZ k3) ?_ ?_
    rotate_left
    ·rintro _ h4 ⟨t,ht,rfl,kp4⟩
     exact ⟨.inl rfl,bad (by rw [hchk,ht];rfl) rfl (hkk kp4)⟩
    rintro _ h4 ⟨m4,hm4,k4,kp4⟩
    have hto:=yX hm4
    rw [hm4] at hchk
    have hchk:gV f=my f m4 (lk (ofG f.blocks)):=hchk
    rw [hz];clear hz z
    refine aa fun z hz=>?_
    simp
    have hgl:(ofG f.blocks).length=f.blocks.length:=by simp [ofG]
    refine b9 (by kernel_rfl) (Aw k4 (Nat.le_trans hsm.len (by decide)) (fun i hi=>Nat.le_trans (hto i hi) (by decide)) (yU (by omega))) ?_ ?_
    rotate_left
    ·rintro _ h5 ⟨t,ht,rfl,hle5⟩
     exact ⟨.inl rfl,bad (by rw [hchk,ht]) rfl (View.le_trans (hkk kp4) hle5)⟩
    rintro _ h5 ⟨hus,hle5⟩
    have hle05:=View.le_trans (hkk kp4) hle5
    rw [hz];clear hz z
    simp
    refine cJ (g:=h.size+1) (o:=0) (n:=1) (v:=.int .i64 0) (by kernel_rfl) rfl rfl rfl (by simp [Value.oneCell']) (hle05 _ _ hb1) (by simp) fun h6 hs6 ⟨row6,hr6,he6⟩ ho6=>?_
    refine cJ (g:=h.size+2) (o:=0) (n:=1) (v:=.int .i64 0) (by kernel_rfl) rfl rfl rfl (by simp [Value.oneCell']) ((ho6 _ (by omega)).trans (hle05 _ _ hb2)) (by simp) fun h7 hs7 ⟨row7,hr7,he7⟩ ho7=>?_
    refine cJ (g:=h.size+3) (o:=0) (n:=1) (v:=.int .i64 0) (by kernel_rfl) rfl rfl rfl (by simp [Value.oneCell']) ((ho7 _ (by omega)).trans ((ho6 _ (by omega)).trans (hle05 _ _ hb3))) (by simp) fun h8 hs8 ⟨row8,hr8,he8⟩ ho8=>?_
    rw [one_cell rfl rfl he6] at hr6
    rw [one_cell rfl rfl he7] at hr7
    rw [one_cell rfl rfl he8] at hr8
    refine ⟨_,tU,?_⟩
    rintro u' h9 ⟨rfl,rfl⟩
    have c1:ah (vw h9) ⟨h.size+1,0,none⟩=some (.int .i64 0):=aY (show vw h9 _=_ from (ho8 _ (by omega)).trans ((ho7 _ (by omega)).trans hr6)) rfl
    have c2:ah (vw h9) ⟨h.size+2,0,none⟩=some (.int .i64 0):=aY (show vw h9 _=_ from (ho8 _ (by omega)).trans hr7) rfl
    have c3:ah (vw h9) ⟨h.size+3,0,none⟩=some (.int .i64 0):=aY (show vw h9 _=_ from hr8) rfl
    refine ⟨rfl,[.int .i64 0,.int .i64 0,.int .i64 0],by simp [R.dz,c1,c2,c3],?_⟩
    have htold:ig f=(0,0,0):=by rw [ig,hchk,hus]
    refine ⟨by simp [htold],fun b o hb=>?_⟩
    have hlt:=View.lt (View.le_refl (vw h)) hb
    show h9[b]? = _
    rw [ho8 b (by omega),ho7 b (by omega),ho6 b (by omega)]
    exact hle05 _ _ (hle _ _ hb)
end Go.Proofs.Ytbkdlhkoiagbbaa
namespace Go.Proofs.Ytbkdlhkoiagbbaa
open Go Go.Lft
structure Th where
 blk:Int
 place:Int
 mks:List Int
 tks:List Int
 deriving Inhabited
def phiT (f:ae) (b i:Nat):Th:=⟨b,-1-i,[(nth (nth f.blocks b).phis i).dst],(nth (nth f.blocks b).phis i).ins.map InD.val⟩
def insT (f:ae) (b i:Nat):Th:=⟨b,i,aI (nth (nth f.blocks b).ins i),(nth (nth f.blocks b).ins i).args⟩
def endT (f:ae) (b:Nat):Th:=⟨b,(nth f.blocks b).ins.length,[],(nth f.blocks b).term.args⟩
def thB (f:ae) (b:Nat):List Th:=rows (phiT f b) (nth f.blocks b).phis.length++rows (insT f b) (nth f.blocks b).ins.length++[endT f b]
def thTo (f:ae) (n:Nat):List Th:=up (fun b l=>l++thB f b) n []
def aM (f:ae):List Th:=thTo f f.blocks.length
theorem kq {f:ae} {n:Nat}:thTo f (n+1)=thTo f n++thB f n:=rfl
end Go.Proofs.Ytbkdlhkoiagbbaa
namespace Go.Proofs.Ytbkdlhkoiagbbaa
open Go Go.Lft
def je (top n:Int):Int:=if aN n 0 8191 then (if top<n+1 then n+1 else top) else top
def CJ (top:Int) (t:Th):Int:=t.mks.foldl je top
def rN (ps:Int):Int:=if 8192<(if ps<0 then 0 else ps) then 8192 else (if ps<0 then 0 else ps)
def topS (f:ae):Int:=(aM f).foldl CJ (rN f.params)
theorem kP {α β:Type} (I:β→Prop) {f:β→α→β} (hf : ∀ x a,I x→I (f x a)) : ∀ (l:List α) (x:β),I x→I (l.foldl f x)
 | [],_,h=>h
 | a::l,x,h=>kP I hf l _ (hf x a h)
structure Nv (D:Nat) (T:TypeId) (x:Int) (W:View) (h:Heap):Prop where
 le:W.le (vw h)
 av:W D=none
 cell:h[D]? = some (.cells #[.int .i64 x] T (0,0))
theorem Nv.lt {D:Nat} {T:TypeId} {x:Int} {W:View} {h:Heap} (k:Nv D T x W h):D<h.size:=(Array.getElem?_eq_some_iff.1 k.cell).1
theorem Nv.ext {D:Nat} {T:TypeId} {x:Int} {W:View} {h h':Heap} (k:Nv D T x W h) (hle:(vw h).le (vw h')):Nv D T x (grow W h h') h':=
 ⟨iW (View.le_trans k.le hle),by rw [kI k.lt];exact k.av,hle _ _ k.cell⟩
structure Us (D:Nat) (vo:Value) (l:List Int) (W:View) (h:Heap):Prop where
 le:W.le (vw h)
 av:Av W vo
 own:OwnT nothing h T.int vo l
 box:ah W ⟨D,0,none⟩=some vo
theorem Us.ext {D:Nat} {vo:Value} {l:List Int} {W:View} {h h':Heap} (k:Us D vo l W h) (hle:(vw h).le (vw h')):Us D vo l (grow W h h') h':=
 ⟨iW (View.le_trans k.le hle),k.av.grow fun b hb=>k.own.lt hb,k.own.ext hle,af (dU k.le) k.box⟩
theorem Us.now {D:Nat} {vo:Value} {l:List Int} {W:View} {h:Heap} (k:Us D vo l W h):SlRd (vw h) vo l:=k.own.now bE
end Go.Proofs.Ytbkdlhkoiagbbaa
namespace Go.Proofs.Ytbkdlhkoiagbbaa
open Go Go.Lft
theorem om {β:Type} {x:Nat→β} {n:Nat} {y:β}:y∈rows x n↔∃ i,i<n∧y=x i:=by
 simp only [rows,List.mem_map,List.mem_range]
 exact ⟨fun ⟨i,h,e⟩=>⟨i,h,e.symm⟩,fun ⟨i,h,e⟩=>⟨i,h,e.symm⟩⟩
theorem cf {f:ae} {n:Nat} {t:Th}:t∈thTo f n↔∃ b,b<n∧t∈thB f b:=by
 induction n with
 | zero=>simp [thTo,up]
 | succ n ih=>
  rw [kq,List.mem_append,ih]
  constructor
  ·rintro (⟨b,h1,h2⟩ | h)
   ·exact ⟨b,by omega,h2⟩
   ·exact ⟨n,by omega,h⟩
  ·rintro ⟨b,h1,h2⟩
   rcases Nat.lt_or_ge b n with h | h
   ·exact .inl ⟨b,h,h2⟩
   ·rw [show b=n by omega] at h2;exact .inr h2
theorem cN {f:ae} {b:Nat} {t:Th}:t∈thB f b↔(∃ i,i<(nth f.blocks b).phis.length∧t=phiT f b i)∨(∃ i,i<(nth f.blocks b).ins.length∧t=insT f b i)∨t=endT f b:=by
 simp only [thB,List.mem_append,om,List.mem_singleton,or_assoc]
end Go.Proofs.Ytbkdlhkoiagbbaa
namespace Go.Proofs.Ytbkdlhkoiagbbaa
open Go Go.Lft
theorem sO {d:InsD} {v:Value} {h:Heap} (hd:Rd (vw h) v d):ay Try.prog N.di #[v] h (fun u h'=>(vw h).le (vw h')∧SlRd (fresh h h') u (aI d)∧(d.op=16→u = .slice none 0 0)):=by
 refine an (args:=[v]) follows F.di E.di (Nat.le_of_ble_eq_true (by kernel_rfl)) fun K hK=>?_
 simp [L.di]
 refine jj rfl hd fun h1 _ hle1 hsz1 hat=>?_
 obtain ⟨c0,c1,c2,va,ca⟩:=od hat
 have r1:=(hat.part InsD.jw).rng
 have r2:=(hat.part InsD.qu).rng
 simp [c0]
 refine ⟨fun e1=>hK _ _ ⟨hle1,by simpa [aI,e1] using dX,fun _=>rfl⟩,fun e1=>⟨fun e2=>?_,fun e2=>?_⟩⟩
 ·simp [c1,c2]
  refine gH (X:=nothing) (ds:=[d.dst,d.two]) (vs:=[.int .i64 d.dst,.int .i64 d.two]) rfl El.bV (by simp) ⟨eF.2 ⟨rfl,r1⟩,eF.2 ⟨rfl,r2⟩,trivial⟩ bE rfl (by omega) fun u h2 hle2 hsz2 hu _=>?_
  exact hK _ _ ⟨View.le_trans hle1 hle2,by simpa [aI,e2] using hu _ bE (by unfold fresh;rw [if_neg (by omega)]),fun e=>absurd e e1⟩
 ·simp [c1]
  refine gH (X:=nothing) (ds:=[d.dst]) (vs:=[.int .i64 d.dst]) rfl El.bV (by simp) ⟨eF.2 ⟨rfl,r1⟩,trivial⟩ bE rfl (by omega) fun u h2 hle2 hsz2 hu _=>?_
  exact hK _ _ ⟨View.le_trans hle1 hle2,by simpa [aI,e1,e2] using hu _ bE (by unfold fresh;rw [if_neg (by omega)]),fun e=>absurd e e1⟩
def ml (op n:Int):Bool:=if op=1 then decide (n=0) else if op=15 then decide (n=1) else if op=17 then decide (n≤4) else decide (n=2)
def fq (t:de):Bool:=
 if t.kind=1 then decide ((t.args.length:Int)=0)&&decide ((t.to.length:Int)=1)
 else if t.kind=2 then decide ((t.args.length:Int)=1)&&decide ((t.to.length:Int)=2)
 else if t.kind=3 then decide ((t.args.length:Int)=1)&&decide ((2:Int)≤t.to.length)&&decide ((t.to.length:Int)≤65)
 else if t.kind=4 then decide ((t.args.length:Int)≤1)&&decide ((t.to.length:Int)=0)
 else if t.kind=5 then decide ((t.args.length:Int)=0)&&decide ((t.to.length:Int)=0) else false
def aw (f:ae) (b:Int):List Int:=sift (fun a=>decide (b∈(nth f.blocks a).term.to)) (fun a=>(a:Int)) f.blocks.length
end Go.Proofs.Ytbkdlhkoiagbbaa
namespace Go.Proofs.Ytbkdlhkoiagbbaa
open Go Go.Lft
theorem AF {H:View} {u:Value} {d:PhiD} (h:Rd H u d) : ∃ vi,u = .agg #[.int .i64 d.dst,vi]∧I64 d.dst∧SlRd H vi d.ins:=by
 obtain ⟨cs,rfl,c1,r1,e1,⟨rfl,hd⟩,vi,h2,h3⟩:=h
 exact ⟨vi,by rw [←Array.toList_inj.1 ((by rw [e1,h2];rfl):cs.toList = #[Value.int .i64 d.dst,vi].toList)],hd,h3⟩
theorem vz {H:View} {u:Value} {d:InsD} (h:Rd H u d) : ∃ va,u = .agg #[.int .i64 d.op,.int .i64 d.dst,.int .i64 d.two,va,.int .i32 d.imm.v]∧(I64 d.op∧I64 d.dst∧I64 d.two∧-2147483648≤d.imm.v∧d.imm.v≤2147483647)∧SlRd H va d.args:=by
 obtain ⟨cs,rfl,c1,r1,e1,⟨rfl,h1⟩,c2,r2,e2,⟨rfl,h2⟩,c3,r3,e3,⟨rfl,h3⟩,c4,r4,e4,⟨va,rfl,h4⟩,h5,h6⟩:=h
 subst e4 e3 e2
 exact ⟨va,by rw [←Array.toList_inj.1 ((by rw [e1,h5];rfl):cs.toList = #[Value.int .i64 d.op,.int .i64 d.dst,.int .i64 d.two,va,.int .i32 d.imm.v].toList)],⟨h1,h2,h3,h6⟩,h4⟩
theorem yK {H:View} {d:Int} {v:Value} {l:List InD} (h1:I64 d) (h2:SlRd H v l):Rd H (.agg #[.int .i64 d,v]) (PhiD.mk d l):=⟨_,rfl,[.int .i64 d],[v],rfl,⟨rfl,h1⟩,v,rfl,h2⟩
theorem zl {H:View} {op d two:Int} {imm:I32} {v:Value} {l:List Int} (h:I64 op∧I64 d∧I64 two∧-2147483648≤imm.v∧imm.v≤2147483647) (h2:SlRd H v l):Rd H (.agg #[.int .i64 op,.int .i64 d,.int .i64 two,v,.int .i32 imm.v]) (InsD.mk op d two l imm):=
 ⟨_,rfl,[.int .i64 op],_,rfl,⟨rfl,h.1⟩,[.int .i64 d],_,rfl,⟨rfl,h.2.1⟩,[.int .i64 two],_,rfl,⟨rfl,h.2.2.1⟩,[v],_,rfl,⟨v,rfl,h2⟩,rfl,h.2.2.2⟩
theorem oP {H:View} {vp vi va vt:Value} {p:List PhiD} {i:List InsD} {a t:List Int} {kd:Int} {imm:I32} (h1:SlRd H vp p) (h2:SlRd H vi i) (h3:SlRd H va a) (h4:SlRd H vt t) (h5:I64 kd) (h6:-2147483648≤imm.v∧imm.v≤2147483647):Rd H (.agg #[vp,vi,.int .i64 kd,va,vt,.int .i32 imm.v]) (BlkD.mk p i ⟨kd,a,t,imm⟩):=
 ⟨_,rfl,[vp],_,rfl,⟨vp,rfl,h1⟩,[vi],_,rfl,⟨vi,rfl,h2⟩,[.int .i64 kd],_,rfl,⟨rfl,h5⟩,[va],_,rfl,⟨va,rfl,h3⟩,[vt],_,rfl,⟨vt,rfl,h4⟩,rfl,h6⟩
theorem nZ {α β:Type} [Rep α] [Rep β] {H:View} {v:Value} {l:List α} {l2:List β} (h:SlRd H v l) (hn:Rep.n α=Rep.n β) (hl:l.length=l2.length) (hc : ∀ i (h1:i<l.length) (h2:i<l2.length) cs,Rep.rd H cs l[i]→Rep.rd H cs l2[i]):SlRd H v l2:=by
 obtain ⟨a,cap,rfl,h1,h2,h3⟩:=h
 refine ⟨a,cap,by rw [hl],by omega,by omega,?_⟩
 rcases h3 with rfl | ⟨ad,rfl,hs,hat⟩
 ·left;exact List.eq_nil_of_length_eq_zero (by rw [←hl];rfl)
 ·refine .inr ⟨ad,rfl,hs,fun i hi=>?_⟩
  obtain ⟨cs,g1,g2⟩:=hat i (by omega)
  rw [←hn]
  exact ⟨cs,g1,hc i (by omega) hi cs g2⟩
theorem sA {H:View} {u:Value} {f:ae} (h:Rd H u f) : ∃ vb,u = .agg #[.int .i64 f.params,vb]∧I64 f.params∧SlRd H vb f.blocks:=by
 obtain ⟨cs,rfl,c1,r1,e1,⟨rfl,h1⟩,vb,h2,h3⟩:=h
 exact ⟨vb,by rw [←Array.toList_inj.1 ((by rw [e1,h2];rfl):cs.toList = #[Value.int .i64 f.params,vb].toList)],h1,h3⟩
theorem ee {a:Value} {v:Int} (ha:a.oneCell'=true) : ∀ c∈[Value.int .i64 v,a],c.oneCell'=true:=by
 intro c hc
 simp only [List.mem_cons,List.not_mem_nil,or_false] at hc
 rcases hc with rfl | rfl<;>first | rfl | exact ha
abbrev Q3:=Cat Int (Cat Int Int)
instance:Inhabited Q3:=⟨⟨0,0,0⟩⟩
theorem zD {H:View} {va vt:Value} {a t:List Int} {kd:Int} {imm:I32} (h3:SlRd H va a) (h4:SlRd H vt t) (h5:I64 kd) (h6:-2147483648≤imm.v∧imm.v≤2147483647):Rd H (.agg #[.int .i64 kd,va,vt,.int .i32 imm.v]) (de.mk kd a t imm):=
 ⟨_,rfl,[.int .i64 kd],_,rfl,⟨rfl,h5⟩,[va],_,rfl,⟨va,rfl,h3⟩,[vt],_,rfl,⟨vt,rfl,h4⟩,rfl,h6⟩
end Go.Proofs.Ytbkdlhkoiagbbaa
namespace Go.Lft
open Go
theorem tu : ∀ (l:List Value) (k off:Nat) (A:Array Value),off+k+l.length≤A.size→
  ((l.zipIdx k).foldl (fun (cs:Array Value) (p:Value × Nat)=>cs.setIfInBounds (off+p.2) p.1) A).toList=A.toList.take (off+k)++l++A.toList.drop (off+k+l.length)
 | [],k,off,A,_=>by simp
 | x::l,k,off,A,h=>by
  simp only [List.length_cons] at h
  rw [List.zipIdx_cons,List.foldl_cons,tu l (k+1) off _ (by simp;omega)]
  have hk:off+k<A.toList.length:=by simp;omega
  simp only [Array.toList_setIfInBounds,List.length_cons]
  rw [show off+(k+1)=off+k+1 by omega,List.take_succ_eq_append_getElem (by simpa using hk),List.take_set_of_le (Nat.le_refl _),List.getElem_set_self,List.drop_set_of_lt (by omega),show off+k+1+l.length=off+k+(l.length+1) by omega]
  simp
theorem nP {s:Nat} : ∀ (vs:List Value) (k:Nat) (A:Array Value),(∀ v∈vs,v.cells.size=s)→(k+vs.length)*s=A.size→
  ∃ B,Instr.fill (fun j=>some (j*s,s)) A ((vs.zipIdx k).map fun p=>(p.2,p.1))=some B∧B.toList=A.toList.take (k*s)++vs.flatMap fun v=>v.cells.toList
 | [],k,A,_,hk=>⟨A,rfl,by rw [List.take_of_length_le (by simp at hk;simp [hk])];simp⟩
 | v::vs,k,A,hv,hk=>by
  have hc:=hv v (List.mem_cons_self ..)
  have e1:(k+(vs.length+1))*s=(k+1+vs.length)*s:=by rw [show k+(vs.length+1)=k+1+vs.length by omega]
  have e2:(k+1+vs.length)*s=k*s+s+vs.length*s:=by rw [Nat.add_mul,Nat.add_mul,Nat.one_mul]
  simp only [List.length_cons] at hk
  have e3:(k+1)*s=k*s+s:=by rw [Nat.add_mul,Nat.one_mul]
  have hF:(v.cells.zipIdx.foldl (fun (cs:Array Value) (x:Value × Nat)=>cs.setIfInBounds (k*s+x.2) x.1) A).toList=A.toList.take (k*s)++v.cells.toList++A.toList.drop (k*s+s):=by
   rw [←Array.foldl_toList,Array.toList_zipIdx]
   have:=tu v.cells.toList 0 (k*s) A (by simp [hc];omega)
   simpa [hc] using this
  obtain ⟨B,h1,h2⟩:=nP vs (k+1) (v.cells.zipIdx.foldl (fun (cs:Array Value) (x:Value × Nat)=>cs.setIfInBounds (k*s+x.2) x.1) A) (fun u hu=>hv u (List.mem_cons_of_mem _ hu)) (by
   rw [←Array.length_toList,hF]
   simp [hc];omega)
  refine ⟨B,?_,?_⟩
  ·simp only [List.zipIdx_cons,List.map_cons,Instr.fill,hc]
   rw [if_neg (by simp;omega)]
   exact h1
  ·rw [h2,hF,e3,List.flatMap_cons,List.take_append_of_le_length (by simp [hc];omega),List.take_of_length_le (by simp [hc];omega),List.append_assoc]
theorem oG {s:Nat} : ∀ (vs:List Value) (i:Nat) (hi:i<vs.length),(∀ v∈vs,v.cells.size=s)→((vs.flatMap fun v=>v.cells.toList).drop (i*s)).take s=vs[i].cells.toList
 | v::vs,0,_,hv=>by
  have hc:=hv v (List.mem_cons_self ..)
  simp only [Nat.zero_mul,List.drop_zero,List.flatMap_cons,List.getElem_cons_zero]
  rw [List.take_append_of_le_length (by simp [hc]),List.take_of_length_le (by simp [hc])]
 | v::vs,i+1,hi,hv=>by
  have hc:=hv v (List.mem_cons_self ..)
  have:=oG vs i (by simpa using hi) fun u hu=>hv u (List.mem_cons_of_mem _ hu)
  rw [List.flatMap_cons,show (i+1)*s=v.cells.toList.length+i*s by rw [Nat.add_mul];simp [hc];omega,←List.drop_drop,List.drop_left]
  simpa using this
theorem Az {po:OP} {α:Type} [Rep α] {P:Program} {t e n:Nat} {ty:TypeId} {bytes:Nat} {z:Value} {ps:Array (Nat × Operand)} {us:List (Nat × Value)} {vs:List Value} {ds:List α} {h:Heap} {K:Value→Heap→Prop} (hT:dA P t e (Rep.n α) bytes z)
  (hp:ps.map (fun p=>(p.1,asg us p.2))=((vs.zipIdx 0).map fun p=>(p.2,p.1)).toArray) {X:View} (hr:iK X vs ds) (hn:ds.length=n) (hb:n*Rep.n α≤16777216) (hb2:n≤16777216)
  (hk : ∀ u h',(vw h).le (vw h')→h'.size=h.size+1→(∀ Y:View,X.le Y→Y h.size=h'[h.size]?→SlRd Y u ds)→u.ownBlock=some h.size→K u h'):step P (.buildSlice t n ps) ty us h K:=by
 have hl:=hr.len
 have hcs : ∀ v∈vs,v.cells.size=Rep.n α:=fun v hv=>by
  obtain ⟨i,hi,rfl⟩:=List.getElem_of_mem hv
  exact (ia (hr.get i hi (by omega))).2.1
 obtain ⟨B,h1,h2⟩:=nP (s:=Rep.n α) vs 0 ((Array.range (n*Rep.n α)).map (z.cells[· % z.cells.size]!)) hcs (by simp;rw [hl,hn])
 have hB:B=(vs.flatMap fun v=>v.cells.toList).toArray:=by rw [←Array.toList_inj,h2];simp
 refine nY hT hb hp h1 ?_
 have hle:=bg h (.cells B e)
 refine hk _ _ hle (by simp) (fun Y hY hYb=>⟨some ⟨h.size,0,none⟩,n,by rw [hn],by omega,by omega,.inr ⟨_,rfl,rfl,fun i hi=>?_⟩⟩) rfl
 have hi2:i<vs.length:=by omega
 have hrd:=ia (hr.get i hi2 hi)
 rw [aL rfl]
 refine ⟨vs[i].cells.toList,⟨B,e,(0,0),rfl,by rw [hYb];simp,?_⟩,Rep.mono hY hrd.1⟩
 rw [hB,Nat.zero_add]
 have:=oG vs i hi2 hcs
 rw [Array.length_toList,hrd.2.1]
 exact this
end Go.Lft
namespace Go.Lft
open Go Go.MapKept
def two (a b:Int):Value:=.agg #[.int .i64 a,.int .i64 b]
theorem qT {a b c d:Int}:two a b=two c d↔a=c∧b=d:=by simp [two]
structure Tw (P:Program) (k t:TypeId):Prop where
 hk:P.underlying k=some (.array 2 t)
 ht:P.underlying t=some (.int .i64)
 hs:P.cellsOf t=1
section
variable {P:Program} {k t:TypeId} {w:World}
theorem gJ (q:Tw P k t) {a b:Int} {i:Nat} {v:Value} (hi:(#[Value.int .i64 a,.int .i64 b])[i]? = some v):(Go.part t #[.int .i64 a,.int .i64 b] i).run P w = .ok v w:=
 run_part_plain w (by simp [Program.plainKey,q.ht]) hi
theorem lg (q:Tw P k t) {e:Bool} {a b:Int} {n:Nat}:(Instr.checkKey e (n+2) k (two a b)).run P w = .ok () w:=by
 obtain ⟨i,hi⟩:=info_of_underlying q.ht
 unfold Instr.checkKey two
 simp only [Sem.run_bind,run_underlying q.hk,Result.andThen_ok]
 simp only [Std.Legacy.Range.forIn_eq_forIn_range',Std.Legacy.Range.size,Nat.sub_zero,Nat.add_one_sub_one,Nat.div_one]
 have h0:=gJ (w:=w) q (a:=a) (b:=b) (i:=0) (v:=.int .i64 a) rfl
 have h1:=gJ (w:=w) q (a:=a) (b:=b) (i:=1) (v:=.int .i64 b) rfl
 have hc : ∀ x:Int,(Instr.checkKey e (n+1) t (.int .i64 x)).run P w = .ok () w:=fun x=>MapKept.run_checkKey (d:=.int .i64) q.ht (ij (j:=x)) e n
 simp [List.range',Go.run_sizeOf w hi,q.hs,h0,h1,hc,Result.andThen]
theorem pt (q:Tw P k t) {a b c d:Int}:(Op.equal k (two a b) (two c d)).run P w = .ok (decide (a=c∧b=d)) w:=by
 obtain ⟨i,hi⟩:=info_of_underlying q.ht
 unfold Op.equal two
 rw [show Op.maxDepth=9998+1+1 from rfl,run_equalIn_array w _ _ _ q.hk hi,q.hs]
 have h0:=gJ (w:=w) q (a:=a) (b:=b) (i:=0) (v:=.int .i64 a) rfl
 have h1:=gJ (w:=w) q (a:=a) (b:=b) (i:=1) (v:=.int .i64 b) rfl
 have g0:=gJ (w:=w) q (a:=c) (b:=d) (i:=0) (v:=.int .i64 c) rfl
 have g1:=gJ (w:=w) q (a:=c) (b:=d) (i:=1) (v:=.int .i64 d) rfl
 have he : ∀ x y:Int,(Op.equalIn (9998+1) t (.int .i64 x) (.int .i64 y)).run P w = .ok (x == y) w:=fun x y=>run_equalIn_int w 9998 t .i64 .i64 x y q.ht
 by_cases e1:a=c
 ·subst e1
  by_cases e2:b=d
  ·subst e2;simp [List.range,List.range.loop,Op.eqItems,h0,h1,he,Result.andThen]
  ·simp [List.range,List.range.loop,Op.eqItems,h0,h1,g0,g1,he,e2,Result.andThen]
 ·simp [List.range,List.range.loop,Op.eqItems,h0,h1,g0,g1,he,e1,Result.andThen]
structure Map2 (h:Heap) (r:Nat) (f:Int→Int→Option Value):Prop where
 ex : ∃ es clock,h[r]? = some (.map es clock)∧(∀ x∈es.toList,∃ a b,x.key=two a b)∧(∀ (i j:Nat) (x y:MapEntry),es[i]? = some x→es[j]? = some y→x.key=y.key→i=j)∧∀ a b v,(∃ x∈es.toList,x.key=two a b∧x.val=v)↔f a b=some v
theorem Map2.lt {h:Heap} {r:Nat} {f} (m:Map2 h r f):r<h.size:=by
 obtain ⟨es,c,h1,_⟩:=m.ex
 exact (Array.getElem?_eq_some_iff.1 h1).1
theorem Map2.same {h h':Heap} {r:Nat} {f} (m:Map2 h r f) (e:h'[r]? = h[r]?):Map2 h' r f:=by
 obtain ⟨es,c,h1,h2⟩:=m.ex
 exact ⟨es,c,by rw [e];exact h1,h2⟩
theorem Map2.ext {h h':Heap} {r:Nat} {f} (m:Map2 h r f) (hle:(vw h).le (vw h')):Map2 h' r f:=by
 obtain ⟨es,c,h1,h2⟩:=m.ex
 exact ⟨es,c,hle _ _ h1,h2⟩
theorem Map2.none {h:Heap} {r:Nat} (hr:h[r]? = some (.map #[] 0)):Map2 h r fun _ _=>.none:=
 ⟨#[],0,hr,by simp,by simp,by simp⟩
theorem Bg (q:Tw P k t) {a b:Int} : ∀ (l:List MapEntry) (i:Nat),(∀ x∈l,∃ a b,x.key=two a b)→
  ((Instr.findAsking k (two a b) l i).run P w = .ok .none w∧∀ x∈l,x.key≠two a b)∨∃ j e,(Instr.findAsking k (two a b) l i).run P w = .ok (some (i+j,e.val)) w∧l[j]? = some e∧e.key=two a b
 | [],_,_=>.inl ⟨by simp [Instr.findAsking],by simp⟩
 | e::es,i,h=>by
  obtain ⟨c,d,hcd⟩:=h e (.head _)
  by_cases hx:a=c∧b=d
  ·refine .inr ⟨0,e,?_,rfl,by rw [hcd,qT];exact ⟨hx.1.symm,hx.2.symm⟩⟩
   simp [Instr.findAsking,hcd,pt q,hx,Result.andThen]
  ·have hne:e.key≠two a b:=fun g=>hx (by rw [hcd,qT] at g;exact ⟨g.1.symm,g.2.symm⟩)
   have hs:(Instr.findAsking k (two a b) (e::es) i).run P w=(Instr.findAsking k (two a b) es (i+1)).run P w:=by
    simp [Instr.findAsking,hcd,pt q,hx,Result.andThen]
   rcases Bg q es (i+1) (fun x hx=>h x (.tail _ hx)) with ⟨h1,h2⟩ | ⟨j,e',h1,h2,h3⟩
   ·refine .inl ⟨by rw [hs,h1],fun x hx=>?_⟩
    cases hx with
    | head=>exact hne
    | tail _ hx=>exact h2 x hx
   ·exact .inr ⟨j+1,e',by rw [hs,h1];congr 3;omega,by simpa using h2,h3⟩
theorem pU (q:Tw P k t) {a b:Int} {l:List MapEntry} (h : ∀ x∈l,∃ a b,x.key=two a b) :
  ((Instr.findKey k (two a b) l).run P w = .ok .none w∧∀ x∈l,x.key≠two a b)∨∃ j e,(Instr.findKey k (two a b) l).run P w = .ok (some (j,e.val)) w∧l[j]? = some e∧e.key=two a b:=by
 cases l with
 | nil=>exact .inl ⟨by simp [Instr.findKey,run_underlying q.hk,Instr.findNow,Result.andThen],by simp⟩
 | cons x l=>
  have hf:Instr.findNow (.array 2 t) (two a b) (x::l) 0 = .none:=by simp [Instr.findNow,Instr.sameNow,two]
  have he:(Instr.findKey k (two a b) (x::l)).run P w=(Instr.findAsking k (two a b) (x::l) 0).run P w:=by simp [Instr.findKey,run_underlying q.hk,hf,Result.andThen]
  rw [he]
  simpa using Bg q (a:=a) (b:=b) (x::l) 0 h
end
section
variable {po:OP} {pp:PP} {P:Program} {k t e:TypeId} {ty mt:TypeId} {us:List (Nat × Value)} {h:Heap} {K:Value→Heap→Prop} {r:Nat} {f:Int→Int→Option Value}
theorem sG {x y:Operand} {a b:Int} {z:Value} (q:Tw P k t) (ht:P.underlying mt=some (.map k e)) (hz:(P.info? e).map (·.zero)=some (some z)) (hx:asg us x = .map (some r)) (hy:asg us y=two a b) (m:Map2 h r f)
  (hk:K (.tuple #[(f a b).getD z,.bool (f a b).isSome]) h):step P (.lookup mt x y true) ty us h K:=by
 obtain ⟨es,c,h1,h2,h3,h4⟩:=m.ex
 simp only [Option.map_eq_some_iff] at hz
 obtain ⟨i,hi,hz⟩:=hz
 refine cB (cg fun w hw=>⟨_,w,?_,Same.refl _,by rw [hw];exact hk⟩)
 have hz':(zeroValue e).run P w = .ok z w:=by simp [zeroValue,typeInfo,hi,hz]
 rw [←hw] at h1
 simp only [a6,execOp,hx,hy]
 have hc : ∀ b',(Instr.checkKey b' 10000 k (two a b)).run P w = .ok () w:=fun b'=>lg q (n:=9998)
 rcases pU (w:=w) q (a:=a) (b:=b) h2 with ⟨g1,g2⟩ | ⟨j,x,g1,g2,g3⟩
 ·have hf:f a b = .none:=by
   cases hfu:f a b with
   | none=>rfl
   | some v=>obtain ⟨x,hx,e1,_⟩:=(h4 a b v).2 hfu;exact absurd e1 (g2 x hx)
  simp [Instr.lookup,run_underlying ht,MapKept.run_getObj_map h1,hc,g1,Result.andThen,hf,hz']
 ·have hf:f a b=some x.val:=(h4 a b x.val).1 ⟨x,List.mem_of_getElem? g2,g3,rfl⟩
  simp [Instr.lookup,run_underlying ht,MapKept.run_getObj_map h1,hc,g1,Result.andThen,hf]
theorem zM {x y p:Operand} {a b:Int} {v:Value} (q:Tw P k t) (ht:P.underlying mt=some (.map k e)) (hx:asg us x = .map (some r)) (hy:asg us y=two a b) (hp:asg us p=v) (m:Map2 h r f) (hn:f a b = .none)
  (hk : ∀ h':Heap,h'.size=h.size→(∀ b,b≠r→h'[b]? = h[b]?)→Map2 h' r (fun c d=>if c=a∧d=b then some v else f c d)→K undef h'):step P (.mapUpdate mt x y p) ty us h K:=by
 obtain ⟨es,c,h1,h2,h3,h4⟩:=m.ex
 refine cB (iP fun w hw=>?_)
 subst hw
 have hc : ∀ b',(Instr.checkKey b' 10000 k (two a b)).run P w = .ok () w:=fun b'=>lg q (n:=9998)
 have hoth:=(MapKept.heap_set (o':=.map (es.push { key:=two a b,val:=v,born:=c }) (c+1)) h1)
 rcases pU (w:=w) q (a:=a) (b:=b) h2 with ⟨g1,g2⟩ | ⟨j,x,g1,g2,g3⟩
 ·refine ⟨{ w with heap:=w.heap.setIfInBounds r (.map (es.push { key:=two a b,val:=v,born:=c }) (c+1)) },?_,Same.lE rfl rfl rfl (by simp) h1 (by simp) (fun k _ hne=>hoth.2 k hne),hk _ (by simp) hoth.2 ⟨_,_,hoth.1,?_,?_,?_⟩⟩
  ·simp only [a6,execOp,hx,hy,hp]
   simp [Instr.mapUpdate,run_underlying ht,MapKept.run_getObj_map h1,hc,g1,MapKept.run_setObj_map _ h1,Result.andThen]
  ·intro x hx
   simp only [Array.toList_push,List.mem_append,List.mem_singleton] at hx
   rcases hx with hx | rfl
   ·exact h2 x hx
   ·exact ⟨a,b,rfl⟩
  ·intro i j x y hi hj hxy
   rw [Array.getElem?_push] at hi hj
   by_cases ei:i=es.size<;>by_cases ej:j=es.size
   ·omega
   ·rw [if_pos ei] at hi;rw [if_neg ej] at hj
    cases hi
    exact absurd hxy.symm (g2 y (by have:=List.mem_of_getElem? (l:=es.toList) (i:=j) (by simpa using hj);exact this))
   ·rw [if_neg ei] at hi;rw [if_pos ej] at hj
    cases hj
    exact absurd hxy (g2 x (by have:=List.mem_of_getElem? (l:=es.toList) (i:=i) (by simpa using hi);exact this))
   ·rw [if_neg ei] at hi;rw [if_neg ej] at hj
    exact h3 i j x y hi hj hxy
  ·intro c' d' p
   constructor
   ·rintro ⟨x,hx,e1,e2⟩
    simp only [Array.toList_push,List.mem_append,List.mem_singleton] at hx
    rcases hx with hx | rfl
    ·rw [if_neg (fun e=>g2 x hx (by rw [e1,e.1,e.2]))]
     exact (h4 c' d' p).1 ⟨x,hx,e1,e2⟩
    ·simp only [qT] at e1 e2
     rw [if_pos ⟨e1.1.symm,e1.2.symm⟩,e2]
   ·intro hp
    by_cases hcd:c'=a∧d'=b
    ·rw [if_pos hcd] at hp;cases hp
     exact ⟨{ key:=two a b,val:=v,born:=c },by simp,by simp [hcd.1,hcd.2],rfl⟩
    ·rw [if_neg hcd] at hp
     obtain ⟨x,hx,e⟩:=(h4 c' d' p).2 hp
     exact ⟨x,by simp [show x∈es from by simpa using hx],e⟩
 ·have:=(h4 a b x.val).1 ⟨x,List.mem_of_getElem? g2,g3,rfl⟩
  rw [hn] at this;cases this
end
theorem Owns.turn {W:View} {h h':Heap} {o:Own} {r:Nat} {x x':Obj} (w:Owns W h o) (hr:W r=some x) (hx : ∀ c T fz,x≠.cells c T fz) (hr':h'[r]? = some x') (hs:h'.size=h.size) (ho : ∀ k,k≠r→h'[k]? = h[k]?):Owns (W.set r x') h' o:=by
 have hle:W.cT.le (W.set r x'):=fun b y hb=>by
  unfold View.set
  split
  ·rename_i e
   subst e
   unfold View.cT at hb
   rw [hr] at hb
   cases x<;>first | (exact absurd rfl (hx _ _ _)) | cases hb
  ·exact View.th _ _ hb
 have hne : ∀ {k i b},o k=some i→i.v.ownBlock=some b→b≠r:=fun hk hb e=>by have:=w.av _ _ hk _ hb;rw [e,hr] at this;cases this
 refine ⟨fun b y hb=>?_,fun k i hk=>?_,fun k i hk b hb=>?_,w.dj⟩
 ·unfold View.set at hb
  split at hb
  ·rename_i e;subst e;cases hb;exact hr'
  ·rename_i e;show h'[b]? = _;rw [ho b e];exact w.wle b y hb
 ·have h1:=w.own k i hk
  have h2:@OwnT i.α i.rep (W.set r x') h i.e i.v i.l:=let ⟨b,xs,h1,h2⟩:=h1;⟨b,xs,h1,fun j hj=>i.rep.mono hle (i.rep.cT (h2 j hj))⟩
  exact @OwnT.same i.α i.rep _ _ _ _ _ _ h2 fun b hb=>ho b (hne hk hb)
 ·unfold View.set;rw [if_neg (hne hk hb)];exact w.av k i hk b hb
end Go.Lft
namespace Go.Proofs.Ytbkdlhkoiagbbaa
open Go Go.Lft
theorem mM {β:Type} {p:β→Bool} {l:List β} {k:Nat} {x:β} (h:l[k]? = some x):(l.take (k+1)).filter p=(l.take k).filter p++if p x then [x] else []:=by
 rw [List.take_add_one,h,List.filter_append];simp [List.filter_cons]
end Go.Proofs.Ytbkdlhkoiagbbaa
namespace Go.Proofs.Ytbkdlhkoiagbbaa
open Go Go.Lft
def j5 (g:Gr) (e:Int × Int):Bool:=decide (1<(nth (bs g) e.1.toNat).length)&&decide (1<(nth (bm g) e.2.toNat).length)
def eP (g:Gr):List (Int × Int):=(cY g).filter (j5 g)
theorem sY {g:Gr} {vg:Value} {h:Heap} (hg:SlRd (vw h) vg g) (hs:Sm g) :
  ay Try.prog N.cj #[vg] h (fun v h'=>(vw h).le (vw h')∧SlRd (fresh h h') v (eP g)):=by
 refine nL (args:=[vg]) follows F.cj E.cj (Nat.le_of_ble_eq_true (by kernel_rfl)) fun K hK=>?_
 have hel:=lM hs
 have hs1:=hs.1
 have hcl:=dR (g:=g)
 have hpl:(bm g).length=g.length:=by rw [bm,gY];simp
 simp [L.cj]
 refine aq (by kernel_rfl) (oR hg hs) ?_
 rintro vr h1 ⟨W1,m1⟩
 have hle1:=m1.old
 have hr:=m1.now
 refine aq (by kernel_rfl) (pg (hg.mono hle1) hs) ?_
 rintro vp h2 ⟨hle2,hp⟩
 have hp:=hp.mono (fu _ _)
 have hr:=hr.mono hle2
 refine dw (z:=.slice none 0 0) (by kernel_rfl) ?_
 refine dw (z:=.slice none 0 0) (by kernel_rfl) ?_
 have hR0:((h2.push (.cells (Value.slice none 0 0).cells T.bQ)).push (.cells (Value.slice none 0 0).cells T.bQ))[h2.size]? = some (.cells #[.slice none 0 0] T.bQ (0,0)):=by rw [Array.getElem?_push,if_neg (by simp),Array.getElem?_push_size];rfl
 have hP0:((h2.push (.cells (Value.slice none 0 0).cells T.bQ)).push (.cells (Value.slice none 0 0).cells T.bQ))[h2.size+1]? = some (.cells #[.slice none 0 0] T.bQ (0,0)):=by rw [show h2.size+1=(h2.push (.cells (Value.slice none 0 0).cells T.bQ)).size by simp];exact Array.getElem?_push_size
 have hle3:(vw h2).le (vw ((h2.push (.cells (Value.slice none 0 0).cells T.bQ)).push (.cells (Value.slice none 0 0).cells T.bQ))):=View.le_trans (bg _ _) (bg _ _)
 have hsz3:((h2.push (.cells (Value.slice none 0 0).cells T.bQ)).push (.cells (Value.slice none 0 0).cells T.bQ)).size=h2.size+2:=by simp
 simp only [Array.size_push]
 generalize (h2.push (.cells (Value.slice none 0 0).cells T.bQ)).push (.cells (Value.slice none 0 0).cells T.bQ)=h3 at hR0 hP0 hle3 hsz3
 obtain ⟨c1,o1⟩:=hr.cells
 obtain ⟨c2,o2⟩:=hp.cells
 refine cJ (g:=h2.size) (o:=0) (n:=1) (v:=vr) (by kernel_rfl) (by simp) (by simp) (by rw [c1];rfl) (by rw [c1];simpa using o1) hR0 (by simp) fun h4 hsz4 ⟨row,hR4,he⟩ hoth4=>?_
 have hrow:row = #[vr]:=by rw [←Array.toList_inj,he,c1];rfl
 rw [hrow] at hR4
 refine cJ (g:=h2.size+1) (o:=0) (n:=1) (e:=T.bQ) (cur:=#[.slice none 0 0]) (v:=vp) (by kernel_rfl) (by simp) (by simp) (by rw [c2];rfl) (by rw [c2];simpa using o2) (by rw [hoth4 _ (by omega)];exact hP0) (by simp) fun h5 hsz5 ⟨row2,hP5,he2⟩ hoth5=>?_
 have hrow2:row2 = #[vp]:=by rw [←Array.toList_inj,he2,c2];rfl
 rw [hrow2] at hP5
 have hR5:h5[h2.size]? = some (.cells #[vr] T.bQ (0,0)):=by rw [hoth5 _ (by omega)];exact hR4
 have hle5:(vw h2).le (vw h5):=fun b o hb=>by
  have hlt:=View.lt (View.le_refl (vw h2)) hb
  show h5[b]? = _
  rw [hoth5 b (by omega),hoth4 b (by omega)]
  exact hle3 b o hb
 refine dw (z:=.slice none 0 0) (by kernel_rfl) ?_
 refine aq (by kernel_rfl) sZ ?_
 rintro _ _ ⟨rfl,rfl⟩
 rw [hg.cells.1]
 have hle6:(vw h5).le (vw ((h5.push (.cells (Value.slice none 0 0).cells T.fZ)).push (.cells #[vg] T.bQ))):=View.le_trans (bg _ _) (bg _ _)
 have hB6:((h5.push (.cells (Value.slice none 0 0).cells T.fZ)).push (.cells #[vg] T.bQ))[h5.size]? = some (.cells #[.slice none 0 0] T.fZ (0,0)):=by rw [Array.getElem?_push,if_neg (by simp),Array.getElem?_push_size];rfl
 have hG6:((h5.push (.cells (Value.slice none 0 0).cells T.fZ)).push (.cells #[vg] T.bQ))[h5.size+1]? = some (.cells #[vg] T.bQ (0,0)):=by rw [show h5.size+1=(h5.push (.cells (Value.slice none 0 0).cells T.fZ)).size by simp];exact Array.getElem?_push_size
 simp only [Array.size_push]
 generalize (h5.push (.cells (Value.slice none 0 0).cells T.fZ)).push (.cells #[vg] T.bQ)=h6 at hle6 hB6 hG6
 have h5W:(vw h5).le (skip h5.size h6):=Ai hle6 (View.da (View.le_refl _) (Nat.le_refl _))
 have h2W:=View.le_trans hle5 h5W
 have h0W:(vw h).le (skip h5.size h6):=View.le_trans (View.le_trans hle1 hle2) h2W
 have hp6:ah (skip h5.size h6) ⟨h5.size+1,0,none⟩=some vg:=aY (c:=#[vg]) (T:=T.bQ) (fz:=(0,0)) (by rw [fC (by omega)];exact hG6) rfl
 have hcR:ah (skip h5.size h6) ⟨h2.size,0,none⟩=some vr:=aY (h5W _ _ hR5) rfl
 have hcP:ah (skip h5.size h6) ⟨h2.size+1,0,none⟩=some vp:=aY (h5W _ _ hP5) rfl
 have hrW:=hr.mono h2W
 have hpW:=hp.mono h2W
 have hWle:(skip h5.size h6).le (vw h6):=a8
 have hWB:skip h5.size h6 h5.size=none:=xJ
 generalize skip h5.size h6=W0 at h5W h2W h0W hp6 hcR hcP hrW hpW hWle hWB
 obtain ⟨rv,hrv⟩:=hrW.rows
 obtain ⟨pv,hpv⟩:=hpW.rows
 refine oM (enc:=tE) (all:=cY g) (gf:=N.aS) (caps:=[.pointer (some ⟨h5.size+1,0,none⟩)]) W0 W0 (fun e k W h'=>e=none∧∃ v,Bx W h' h5.size T.fZ T.jl v (((cY g).take k).filter (j5 g)))
  rfl (by kernel_rfl) (nC (hg.mono h0W) hp6 hs) (fun _=>rfl) (View.le_refl _) (fun e k=>⟨fun ⟨_,rv,r⟩=>r.wle,fun ⟨a,rv,r⟩ _ h1 h2 _=>⟨a,rv,r.move h1 h2⟩⟩) ⟨rfl,_,Bx.start hWle hWB hB6⟩
  (fun x h1=>by simp [tE,bT];rfl) ?_ ?_ ?_
 ·rintro k e W h7 hag hk ⟨_,v,r⟩ K2 hK2 _
  have he:=iJ (List.mem_of_getElem? hk)
  have hk1:k<(cY g).length:=(List.getElem?_eq_some_iff.1 hk).1
  have hfl:(((cY g).take k).filter (j5 g)).length≤k:=by
   have:=List.length_filter_le (j5 g) ((cY g).take k)
   rw [List.length_take] at this
   omega
  have hst:=mM (p:=j5 g) hk
  have hW0W:W0.le W:=fun b o hb=>by rw [hag b (View.lt hWle hb)];exact hb
  have hWh:=View.le_trans hW0W r.wle
  obtain ⟨cr,rr⟩:=hrv e.1.toNat (by omega)
  obtain ⟨cp,rp⟩:=hpv e.2.toNat (by omega)
  have hcE:j5 g e=(decide (1<(nth (bs g) e.1.toNat).length)&&decide (1<(nth (bm g) e.2.toNat).length)):=rfl
  by_cases hc1:1<(nth (bs g) e.1.toNat).length
  ·by_cases hc2:1<(nth (bm g) e.2.toNat).length
   ·rw [decide_eq_true hc1,decide_eq_true hc2] at hcE
    simp (disch:=omega) [af hWh hcR,af hWh hcP,hrW.idx1 rfl,hpW.idx1 rfl,cr _ hWh,cp _ hWh,rr.len,rp.len,show (1:Int)<((nth (bs g) e.1.toNat).length:Int) by omega,show (1:Int)<((nth (bm g) e.2.toNat).length:Int) by omega,dT,r.cell]
    refine bc (z:=.agg #[.int .i64 0,.int .i64 0]) (places:=[(0,1),(1,1)]) (vs:=[(0,.int .i64 e.1),(1,.int .i64 e.2)]) (cs:=#[.int .i64 e.1,.int .i64 e.2]) (by kernel_rfl) (by kernel_rfl) (by simp) rfl ?_
    refine r.push (d:=e) El.fZ (by kernel_rfl) (by simp<;>rfl) (qZ.2 ⟨rfl,⟨by omega,by omega⟩,by omega,by omega⟩) (by omega) (by omega) (fun _=>by simp) (fun _=>by simp) (fun _ _=>by simp) (fun _ _=>by simp) fun u v' h6 r6=>hK2 _ _ ⟨rfl,v',?_⟩
    rw [hst,hcE];exact r6
   ·rw [decide_eq_true hc1,decide_eq_false hc2] at hcE
    simp (disch:=omega) [af hWh hcR,af hWh hcP,hrW.idx1 rfl,hpW.idx1 rfl,cr _ hWh,cp _ hWh,rr.len,rp.len,show (1:Int)<((nth (bs g) e.1.toNat).length:Int) by omega,show ¬(1:Int)<((nth (bm g) e.2.toNat).length:Int) by omega,dT]
    refine hK2 _ _ ⟨rfl,v,?_⟩
    rw [hst,hcE];simpa using r
  ·rw [decide_eq_false hc1] at hcE
   simp (disch:=omega) [af hWh hcR,af hWh hcP,hrW.idx1 rfl,hpW.idx1 rfl,cr _ hWh,cp _ hWh,rr.len,rp.len,show ¬(1:Int)<((nth (bs g) e.1.toNat).length:Int) by omega,dT]
   refine hK2 _ _ ⟨rfl,v,?_⟩
   rw [hst,hcE];simpa using r
 ·rintro W h7 hag ⟨_,v,r⟩
  rw [List.take_of_length_le (Nat.le_refl _)] at r
  have hW0W:W0.le W:=fun b o hb=>by rw [hag b (View.lt hWle hb)];exact hb
  simp [r.cell]
  intro h8 hsw
  have hWW:=View.le_trans h0W hW0W
  exact ⟨_,rfl,hK _ _ ⟨hsw.ext (View.le_trans hWW r.wle),hsw.rd (r.fresh hWW)⟩⟩
 ·rintro e k W h1 hag ⟨hne,_⟩
  cases hne
end Go.Proofs.Ytbkdlhkoiagbbaa
namespace Go.Proofs.Ytbkdlhkoiagbbaa
open Go Go.Lft
section
variable {g:Gr}
theorem tS:eP g=gN g:=by
 unfold eP gN
 rw [kN]
 have key : ∀ n,n≤g.length→(ey (fun a=>cV g a) n).filter (j5 g)=up (fun a l=>l++oe g (ez g) a) n []:=by
  intro n
  induction n with
  | zero=>exact fun _=>rfl
  | succ n ih=>
   intro hn
   rw [dP,List.filter_append,ih (by omega),up]
   congr 1
   rw [oe,jt,List.filter_map]
   have e1:cV g n=(List.range (cV g n).length).map fun i=>nth (cV g n) i:=by
    refine List.ext_getElem (by simp) fun i h1 h2=>?_
    simp [aj h1]
   conv=>lhs;rw [e1]
   rw [List.filter_map,List.map_map]
   have e2:(List.range (cV g n).length).filter ((j5 g∘fun b=>((n:Int),b))∘fun i=>nth (cV g n) i)=(List.range (cV g n).length).filter (wz g (ez g) n):=by
    refine List.filter_congr fun i hi=>?_
    simp only [Function.comp,j5,wz,ke,Int.toNat_natCast]
    have hcn:=gZ (g:=g) (a:=n) (by omega)
    rw [Bool.eq_iff_iff]
    simp only [Bool.and_eq_true,decide_eq_true_eq,hcn]
    omega
   rw [e2]
   rfl
 exact key g.length (Nat.le_refl _)
theorem pJ {e:Int × Int}:e∈eP g↔ek g e.1 e.2=true∧1<(cV g e.1).length∧1<(nth (ez g) e.2.toNat).length:=by
 unfold eP
 rw [List.mem_filter,wO]
 constructor
 ·rintro ⟨h1,h2⟩
  have hr:=cO.1 h1
  simp only [j5,ke,Bool.and_eq_true,decide_eq_true_eq] at h2
  have hc:=gZ (g:=g) (a:=e.1.toNat) (by omega)
  rw [Int.toNat_of_nonneg hr.1.1] at hc
  rw [hc] at h2
  exact ⟨h1,h2⟩
 ·rintro ⟨h1,h2⟩
  have hr:=cO.1 h1
  have hc:=gZ (g:=g) (a:=e.1.toNat) (by omega)
  rw [Int.toNat_of_nonneg hr.1.1] at hc
  refine ⟨h1,?_⟩
  simp only [j5,ke,Bool.and_eq_true,decide_eq_true_eq,hc]
  exact h2
theorem nR {f:Nat→List Int} (hf : ∀ a,(f a).Nodup) : ∀ n,(ey f n).Nodup
 | 0=>by simp [ey]
 | n+1=>by
  rw [dP]
  refine List.nodup_append.2 ⟨nR hf n,?_,?_⟩
  ·exact List.Pairwise.map _ (fun x y h e=>h (Prod.mk.inj e).2) (hf n)
  ·intro x hx y hy
   rw [ey,List.mem_flatMap] at hx
   obtain ⟨a,ha,hx⟩:=hx
   simp only [List.mem_map] at hx hy
   obtain ⟨b,_,rfl⟩:=hx
   obtain ⟨c,_,rfl⟩:=hy
   intro e
   have:=(Prod.mk.inj e).1
   have:=List.mem_range.1 ha
   omega
theorem jA:(eP g).Nodup:=by
 unfold eP
 rw [kN]
 exact (nR (fun a=>fI.imp fun h=>by omega) _).filter _
end
end Go.Proofs.Ytbkdlhkoiagbbaa
namespace Go.Proofs.Ytbkdlhkoiagbbaa
open Go Go.Lft
def mkL (vs:Value) (at_:Nat) (ps:Int) (vb:Value) (nx:Int) (vl:Value):List Value:=[vs,.int .i64 at_,.int .i64 ps,vb,.int .i64 nx,vl]
def rawV (s:List Int) (at_:Nat):Int:=if at_<s.length then nth s at_ else 0
def aP (s:List Int) (at_:Nat) (n:Int):Int:=((rawV s at_).tmod n+n).tmod n
theorem dh {s:List Int} {at_:Nat} {n:Int} (hn:0<n):0≤aP s at_ n∧aP s at_ n<n:=by
 have b1:=Int.lt_tmod_of_pos (rawV s at_) hn
 exact ⟨Int.tmod_nonneg _ (by omega),Int.tmod_lt_of_pos _ hn⟩
theorem zZ {W:View} {h:Heap} {o:Own} {M at_:Nat} {vs vb vl:Value} {ps nx n:Int} {s:List Int} (w:Owns W h o) (hk:o (0,0)=bx T.cL M (RawN.mk (n:=5) (mkL vs at_ ps vb nx vl))) (hs:SlRd W vs s) (h1:at_≤1000000000) (hn:0<n) (hn2:n≤1000000000) :
  ay Try.prog N.bz #[.pointer (some ⟨M,0,none⟩),.int .i64 n] h (fun u h'=>u = .int .i64 (aP s at_ n)∧Owns W h' (o.upd (0,0) (bx T.cL M (RawN.mk (n:=5) (mkL vs (at_+1) ps vb nx vl))))):=by
 refine an (args:=[.pointer (some ⟨M,0,none⟩),.int .i64 n]) follows F.bz E.bz (Nat.le_of_ble_eq_true (by kernel_rfl)) fun K hK=>?_
 have c0:ah (vw h) ⟨M,0,none⟩=some vs:=w.raw hk (i:=0) (by decide)
 have c1:ah (vw h) ⟨M,1,none⟩=some (.int .i64 at_):=w.raw hk (i:=1) (by decide)
 dsimp only [L.bz]
 refine aa fun z hz=>?_
 simp
 rw [hz];clear hz z
 refine aa fun z hz=>?_
 simp
 rw [hz];clear hz z
 refine aa fun z hz=>?_
 have hsl : ∀ {Q:View},Un.ev Q .len vs=some (.int .i64 s.length):=fun {Q}=>hs.len
 refine vu (fun ρ h2=>h2=h∧I64 (rawV s at_)∧ρ=[(0,.pointer (some ⟨M,0,none⟩)),(1,.int .i64 n),(4,.int .i64 0),(5,.int .i64 (rawV s at_))]) ?_ ?_
 ·intro K2 hK2
  by_cases c:at_<s.length
  ·have hs2:=hs.mono w.wle
   have hr:=hs.range (i:=at_) c
   have e:rawV s at_=nth s at_:=if_pos c
   rw [e] at hK2
   simp (disch:=omega) [c0,c1,hsl,c,hs2.idx1 rfl,hs2.int (View.le_refl _)]
   exact hK2 _ _ ⟨rfl,hr,rfl⟩
  ·have e:rawV s at_=0:=if_neg c
   rw [e] at hK2
   simp [c0,c1,hsl,c]
   exact hK2 _ _ ⟨rfl,⟨by decide,by decide⟩,rfl⟩
 ·rintro _ h2 ⟨rfl,hx,rfl⟩
  rw [hz];clear hz z
  refine aa fun z hz=>?_
  simp (disch:=omega) [c1]
  refine w.dV (k:=(0,0)) (n:=5) (i:=1) (e:=T.cL) (B:=M) (l:=mkL vs at_ ps vb nx vl) hk (by decide) (by kernel_rfl) rfl rfl rfl fun h3 w3 _=>?_
  rw [hz];clear hz z
  have b1:=Int.lt_tmod_of_pos (rawV s at_) hn
  have b2:=Int.tmod_lt_of_pos (rawV s at_) hn
  have hw:IntKind.i64.wrap ((rawV s at_).tmod n+n)=(rawV s at_).tmod n+n:=cw (by omega) (by omega)
  have hne:¬n=0:=by omega
  simp [hw,hne]
  refine hK _ _ ⟨rfl,w3.congr fun q=>?_⟩
  rfl
theorem yD {W:View} {h:Heap} {o:Own} {M at_:Nat} {vs vb vl:Value} {ps nx:Int} (w:Owns W h o) (hk:o (0,0)=bx T.cL M (RawN.mk (n:=5) (mkL vs at_ ps vb nx vl))) (h0:0≤nx) (h1:nx≤1000000000) :
  ay Try.prog N.bA #[.pointer (some ⟨M,0,none⟩)] h (fun u h'=>u = .int .i64 nx∧Owns W h' (o.upd (0,0) (bx T.cL M (RawN.mk (n:=5) (mkL vs at_ ps vb (nx+1) vl))))∧∀ X:View,X.le (vw h)→X M=none→X.le (vw h')):=by
 refine an (args:=[.pointer (some ⟨M,0,none⟩)]) follows F.bA E.bA (Nat.le_of_ble_eq_true (by kernel_rfl)) fun K hK=>?_
 have c4:ah (vw h) ⟨M,4,none⟩=some (.int .i64 nx):=w.raw hk (i:=4) (by decide)
 dsimp only [L.bA]
 refine aa fun z hz=>?_
 simp
 rw [hz];clear hz z
 refine aa fun z hz=>?_
 simp (disch:=omega) [c4]
 refine w.dV (k:=(0,0)) (n:=5) (i:=4) (e:=T.cL) (B:=M) (l:=mkL vs at_ ps vb nx vl) hk (by decide) (by kernel_rfl) rfl rfl rfl fun h3 w3 hx3=>?_
 have w3:Owns W h3 (o.upd (0,0) (bx T.cL M (RawN.mk (n:=5) (mkL vs at_ ps vb (nx+1) vl)))):=w3
 have c5:ah (vw h3) ⟨M,4,none⟩=some (.int .i64 (nx+1)):=w3.raw Own.ag (i:=4) (by decide)
 rw [hz];clear hz z
 simp (disch:=omega) [c5]
 exact hK _ _ ⟨by congr 1,w3,hx3⟩
end Go.Proofs.Ytbkdlhkoiagbbaa
namespace Go.Lft
open Go
variable {po:OP}
end Go.Lft
namespace Go.Proofs.Ytbkdlhkoiagbbaa
open Go Go.Lft
structure MS where
 at_:Nat
 ps:Int
 blocks:List BlkD
 next:Int
 live:List Int
def MS.took (m:MS):MS:={ m with at_:=m.at_+1 }
def MS.aJ (m:MS):MS:={ m with next:=m.next+1 }
structure BlkM where
 phis:Raw
 ins:Raw
 term:de
instance:Rep BlkM:=Rep.via fun d=>Cat.mk d.phis (Cat.mk d.ins d.term)
instance:Inhabited BlkM:=⟨⟨default,default,default⟩⟩
theorem BlkM.j6:Part BlkM Raw 1 BlkM.ins (fun d x=>{ d with ins:=x }):=(Part.snd (Part.fst Part.all)).via (fun _=>rfl) fun _ _=>rfl
theorem zn {H:View} {cs:List Value} {d:BlkM} {p:List PhiD} {i:List InsD} (h:Rep.rd H cs d) (hp:SlRd H d.phis.v p) (hi:SlRd H d.ins.v i):Rep.rd H cs (BlkD.mk p i d.term):=by
 obtain ⟨c1,r1,e1,⟨h1,_⟩,c2,r2,e2,⟨h2,_⟩,h3⟩:=h
 have h1:c1=[d.phis.v]:=h1
 have h2:c2=[d.ins.v]:=h2
 exact ⟨c1,r1,e1,⟨d.phis.v,h1,hp⟩,c2,r2,e2,⟨d.ins.v,h2,hi⟩,h3⟩
structure MkB (M:Nat) (vs:Value) (m:MS) (o:Own) (vb vl:Value) (lb:List BlkM):Prop where
 box:o (0,0)=bx T.cL M (RawN.mk (n:=5) (mkL vs m.at_ m.ps vb m.next vl))
 live:o (0,1)=it T.int vl m.live
 blk:o (0,2)=it T.aD vb lb
 len:lb.length=m.blocks.length
 term : ∀ i,i<m.blocks.length→(nth lb i).term=(nth m.blocks i).term
 phis : ∀ i,i<m.blocks.length→o (1,i)=it T.cH (nth lb i).phis.v (nth m.blocks i).phis
 ins : ∀ i,i<m.blocks.length→o (2,i)=it T.cd (nth lb i).ins.v (nth m.blocks i).ins
structure Mk (s:List Int) (M:Nat) (vs:Value) (W:View) (h:Heap) (o:Own) (m:MS):Prop where
 own:Owns W h o
 src:SlRd W vs s
 box : ∃ vb vl lb,MkB M vs m o vb vl lb
def Nx (s:List Int) (M:Nat) (vs:Value) (W:View) (h:Heap) (o:Own) (m:MS):Prop:=∃ W' o',W.le W'∧Mk s M vs W' h o' m∧∀ k:Key,3≤k.1→o' k=o k
variable {s:List Int} {M:Nat} {vs:Value} {W:View} {h:Heap} {o:Own} {m:MS}
theorem Mk.nx (w:Mk s M vs W h o m):Nx s M vs W h o m:=⟨W,o,View.le_refl _,w,fun _ _=>rfl⟩
theorem Nx.trans {W':View} {o':Own} (hW:W.le W') (ho : ∀ k:Key,3≤k.1→o' k=o k) (n:Nx s M vs W' h o' m):Nx s M vs W h o m:=by
 obtain ⟨W2,o2,h1,h2,h3⟩:=n
 exact ⟨W2,o2,View.le_trans hW h1,h2,fun k hk=>(h3 k hk).trans (ho k hk)⟩
theorem MkB.at {vb vl:Value} {lb:List BlkM} (b:MkB M vs m o vb vl lb) {at_:Nat} {next:Int}:MkB M vs { m with at_:=at_,next:=next } (o.upd (0,0) (bx T.cL M (RawN.mk (n:=5) (mkL vs at_ m.ps vb next vl)))) vb vl lb:=
 ⟨rfl,b.live,b.blk,b.len,b.term,fun i hi=>b.phis i hi,fun i hi=>b.ins i hi⟩
theorem p9 {k:Key} {i:Option Lft.Item} (hk:k.1<3) : ∀ q:Key,3≤q.1→o.upd k i q=o q:=fun q hq=>Own.ab fun e=>by rw [e] at hq;omega
theorem Mk.take (w:Mk s M vs W h o m) {n:Int} (h1:m.at_≤1000000000) (hn:0<n) (hn2:n≤1000000000) :
  ay Try.prog N.bz #[.pointer (some ⟨M,0,none⟩),.int .i64 n] h (fun u h'=>u = .int .i64 (aP s m.at_ n)∧∃ o',Mk s M vs W h' o' m.took∧∀ k:Key,3≤k.1→o' k=o k):=by
 obtain ⟨vb,vl,lb,b⟩:=w.box
 refine (zZ w.own b.box w.src h1 hn hn2).mono ?_
 rintro u h' ⟨rfl,w2⟩
 exact ⟨rfl,_,⟨w2,w.src,vb,vl,lb,b.at⟩,p9 (by decide)⟩
theorem Mk.fresh (w:Mk s M vs W h o m) (h0:0≤m.next) (h1:m.next≤1000000000) :
  ay Try.prog N.bA #[.pointer (some ⟨M,0,none⟩)] h (fun u h'=>u = .int .i64 m.next∧∃ o',Mk s M vs W h' o' m.aJ∧∀ k:Key,3≤k.1→o' k=o k):=by
 obtain ⟨vb,vl,lb,b⟩:=w.box
 refine (yD w.own b.box h0 h1).mono ?_
 rintro u h' ⟨rfl,w2,-⟩
 exact ⟨rfl,_,⟨w2,w.src,vb,vl,lb,b.at⟩,p9 (by decide)⟩
def mC (s:List Int) (m:MS):Int:=
 if aP s (m.at_+1) 8=0 then IntKind.i32.wrap (IntKind.i64.wrap (aP s m.at_ 1048576*4099))
 else if aP s (m.at_+1) 8=1 then IntKind.i32.wrap (IntKind.i64.wrap (-aP s m.at_ 1048576))
 else if aP s (m.at_+1) 8=2 then -2147483648
 else if aP s (m.at_+1) 8=3 then IntKind.i32.wrap ((aP s m.at_ 1048576).tmod 70000)
 else IntKind.i32.wrap (IntKind.i64.wrap ((aP s m.at_ 1048576).tmod 20-4))
end Go.Proofs.Ytbkdlhkoiagbbaa
namespace Go.Proofs.Ytbkdlhkoiagbbaa
open Go Go.Lft
def MS.add (m:MS) (b:Nat) (i:InsD):MS:={ m with blocks:=m.blocks.set b { nth m.blocks b with ins:=(nth m.blocks b).ins++[i] },live:=m.live++aI i }
def conD (v:Int) (n:Int):InsD:=⟨1,v,0,[],⟨n⟩⟩
def MS.constant (m:MS) (b:Nat) (n:Int):MS:=m.aJ.add b (conD m.next n)
def ny (s:List Int) (m:MS):Int:=nth m.live (if aP s (m.at_+1) 3=0 then m.live.length-1 else (aP s m.at_ m.live.length).toNat)
def ze (s:List Int) (m:MS) (b:Nat):MS:=(m.took.took).constant b (mC s m)
def aG (s:List Int) (m:MS) (b:Nat):Int × MS:=
 if m.live.length=0 then (m.next,ze s m b)
 else if aP s (m.at_+2) 9=0 then (m.next,ze s m.took.took.took b)
 else (ny s m,m.took.took.took)
def MS.two (m:MS) (b:Nat) (op x y:Int):MS:=m.aJ.add b ⟨op,m.next,0,[x,y],⟨0⟩⟩
def binS (s:List Int) (m:MS) (b:Nat) (op:Int):MS:=
 let r1:=aG s m b
 let r2:=aG s r1.2 b
 if aP s r2.2.at_ 3=0 then
  (r2.2.took.took.constant b (IntKind.i32.wrap (IntKind.i64.wrap (aP s (r2.2.at_+1) 40-8)))).two b op r1.1 r2.2.next
 else r2.2.took.two b op r1.1 r2.1
def ltuS (s:List Int) (m:MS) (b:Nat):MS:=
 let r1:=aG s m b
 let r2:=aG s r1.2 b
 r2.2.two b 13 r1.1 r2.1
def divS (s:List Int) (m:MS) (b:Nat):MS:=
 let r1:=aG s m b
 let m2:=r1.2.took.constant b (IntKind.i32.wrap (aP s r1.2.at_ 12))
 if 0<aP s m2.at_ 3 then
  (m2.took.took.constant b (IntKind.i32.wrap (1+IntKind.i32.wrap (aP s (m2.at_+1) 12)))).two b 14 r1.1 m2.next
 else m2.took.two b 14 r1.1 r1.2.next
def pC (s:List Int) (m:MS) (b:Nat):MS:=
 let r1:=aG s m b
 let r2:=aG s r1.2 b
 r2.2.aJ.aJ.add b ⟨18,r2.2.next,r2.2.next+1,[r1.1,r2.1],⟨0⟩⟩
def fL (s:List Int) (b:Nat):Nat→List Int × MS→List Int × MS:=fun _ x=>(x.1++[(aG s x.2 b).1],(aG s x.2 b).2)
def jY (s:List Int) (m:MS) (b:Nat):MS:=
 let r:=up (fL s b) (aP s m.at_ 5).toNat ([],m.took)
 r.2.aJ.took.add b ⟨17,r.2.next,0,r.1,⟨IntKind.i32.wrap (aP s r.2.at_ 5)⟩⟩
def gk (s:List Int) (m:MS) (b:Nat):Int × MS:=
 let m1:=m.took.constant b (IntKind.i32.wrap (aP s m.at_ 9))
 if aP s m1.at_ 3=0 then
  let r:=aG s m1.took b
  let m3:=(r.2.constant b 7).two b 5 r.1 r.2.next
  (m3.next,m3.two b 2 m.next (r.2.next+1))
 else (m.next,m1.took)
def offS (s:List Int) (m:MS):Int × MS:=
 if aP s (m.at_+1) 12=0 then (mC s m.took.took,m.took.took.took.took) else (IntKind.i32.wrap (aP s m.at_ 4),m.took.took)
def gG (s:List Int) (m:MS) (b:Nat) (store:Bool):MS:=
 let a:=gk s m b
 let i:=offS s a.2
 if store then (aG s i.2 b).2.add b ⟨16,0,0,[a.1,(aG s i.2 b).1],⟨i.1⟩⟩
 else i.2.aJ.add b ⟨15,i.2.next,0,[a.1],⟨i.1⟩⟩
def opsL:List Int:=[2,2,3,4,5,6,7,8,9,10,12,11]
def bh (s:List Int) (b:Nat) (m:MS):MS:=
 let k:=aP s m.at_ 20
 if k<12 then binS s m.took b (nth opsL k.toNat)
 else if k=12 then ltuS s m.took b
 else if k=13 then divS s m.took b
 else if k<16 then gG s m.took b (decide (k=15))
 else if k=16 then jY s m.took b
 else if k=17 then pC s m.took b
 else m.took.took.took.constant b (mC s m.took)
end Go.Proofs.Ytbkdlhkoiagbbaa
namespace Go.Proofs.Ytbkdlhkoiagbbaa
open Go Go.Lft
theorem sk {H:View} {b n:Nat} {cs:List Value} (hc:eX H ⟨b,0,none⟩ cs) (hl:cs.length=n):Un.ev H (.ao n) (.pointer (some ⟨b,0,none⟩))=some (.agg cs.toArray):=by
 have:=fG hc n 0 #[] (by omega)
 simp only [Un.ev,vP,Option.bind_some]
 rw [this]
 simp [←hl]
theorem wR {H:View} {b n:Nat} {cs:Array Value} {t:TypeId} (hb:H b=some (.cells cs t (0,0))) (hl:cs.size=n):Un.ev H (.ao n) (.pointer (some ⟨b,0,none⟩))=some (.agg cs):=by
 have:eX H ⟨b,0,none⟩ cs.toList:=⟨cs,t,(0,0),rfl,hb,by simp [List.take_of_length_le]⟩
 simpa using sk this (by simpa using hl)
theorem MkB.BU {s:List Int} {M:Nat} {vs:Value} {W:View} {h:Heap} {o:Own} {m:MS} {vb vl:Value} {lb:List BlkM} (w:Owns W h o) (b:MkB M vs m o vb vl lb) :
  ∃ X:View,W.le X∧X.le (vw h)∧(∀ i,i≤5→ah X ⟨M,i,none⟩=some ((mkL vs m.at_ m.ps vb m.next vl).getD i undef))∧SlRd X vb lb∧Av X vl∧∀ i,i<m.blocks.length→Av X (nth lb i).phis.v∧Av X (nth lb i).ins.v:=by
 obtain ⟨w5,s5⟩:=w.freeze (k:=(0,0)) (v:=.slice (some ⟨M,0,none⟩) 1 1) (l:=[RawN.mk (n:=5) (mkL vs m.at_ m.ps vb m.next vl)]) b.box
 have hb2:o.upd (0,0) none (0,2)=it T.aD vb lb:=b.blk
 obtain ⟨w6,s6⟩:=w5.freeze (k:=(0,2)) (v:=vb) (l:=lb) hb2
 have s5:=s5.mono (iZ (h:=h) (w5.av (0,2) _ hb2))
 refine ⟨_,View.le_trans (iZ (h:=h) (w.av (0,0) _ b.box)) (iZ (h:=h) (w5.av (0,2) _ hb2)),w6.wle,fun i hi=>?_,s6,w6.av (0,1) _ b.live,fun i hi=>⟨w6.av (1,i) _ (b.phis i hi),w6.av (2,i) _ (b.ins i hi)⟩⟩
 have:=((s5.at (i:=0) (by simp)).part (RawN.p (n:=5) (o:=i) hi)).raw
 simpa [slA] using this
variable {s:List Int} {M:Nat} {vs:Value} {W:View} {h:Heap} {o:Own} {m:MS}
theorem MkB.cell {vb vl:Value} {lb:List BlkM} (w:Owns W h o) (b:MkB M vs m o vb vl lb) {i:Nat} (hi:i≤5):ah (vw h) ⟨M,i,none⟩=some ((mkL vs m.at_ m.ps vb m.next vl).getD i undef):=w.raw b.box hi
theorem MkB.aE {vb vl:Value} {lb:List BlkM} (bb:MkB M vs m o vb vl lb) {b:Nat} (hb:b<m.blocks.length) {x':BlkD} {y':BlkM} {o':Own} (hy:y'.term=x'.term) (h02:o' (0,2)=it T.aD vb (lb.set b y')) (h1:o' (1,b)=it T.cH y'.phis.v x'.phis) (h2:o' (2,b)=it T.cd y'.ins.v x'.ins)
  (ho : ∀ q:Key,q≠(0,2)→q≠(1,b)→q≠(2,b)→o' q=o q):MkB M vs { m with blocks:=m.blocks.set b x' } o' vb vl (lb.set b y'):=by
 have hbl:b<lb.length:=by rw [bb.len];exact hb
 refine ⟨(ho _ (by simp) (by simp) (by simp)).trans bb.box,(ho _ (by simp) (by simp) (by simp)).trans bb.live,h02,by simp [bb.len],fun j hj=>?_,fun j hj=>?_,fun j hj=>?_⟩
 all_goals
  have hj:j<m.blocks.length:=by simpa using hj
  have hjl:j<lb.length:=by rw [bb.len];exact hj
  show _=_
  simp only [az hj,az hjl]
  by_cases e:b=j
  ·subst e
   simp only [if_true]
   assumption
  ·simp only [if_neg e]
   first
    | exact bb.term j hj
    | exact (ho _ (by simp) (fun q=>e (by injection q with _ q;exact q.symm)) (by simp)).trans (bb.phis j hj)
    | exact (ho _ (by simp) (by simp) (fun q=>e (by injection q with _ q;exact q.symm))).trans (bb.ins j hj)
theorem Mk.value (w:Mk s M vs W h o m) (h1:m.at_≤999999990) (hl:m.live.length≤1000000000) :
  ay Try.prog N.bL #[.pointer (some ⟨M,0,none⟩)] h (fun u h'=>(m.live.length=0∧u = .tuple #[.int .i64 0,.bool false]∧h'=h)∨(m.live.length≠0∧u = .tuple #[.int .i64 (ny s m),.bool true]∧I64 (ny s m)∧∃ o',Mk s M vs W h' o' m.took.took∧∀ k:Key,3≤k.1→o' k=o k)):=by
 refine an (args:=[.pointer (some ⟨M,0,none⟩)]) follows F.bL E.bL (Nat.le_of_ble_eq_true (by kernel_rfl)) fun K hK=>?_
 obtain ⟨vb,vl,lb,b⟩:=w.box
 have c5:ah (vw h) ⟨M,5,none⟩=some vl:=b.cell w.own (i:=5) (by decide)
 have hsl:=w.own.now b.live
 dsimp only [L.bL]
 refine aa fun z hz=>?_
 simp
 rw [hz];clear hz z
 refine aa fun z hz=>?_
 by_cases h0:m.live.length=0
 ·have h0':m.live=[]:=List.eq_nil_of_length_eq_zero h0
  simp [c5,hsl.len,h0]
  exact hK _ _ (.inl ⟨h0,rfl,rfl⟩)
 ·have h0':¬(m.live=[]):=fun e=>h0 (by rw [e];rfl)
  simp [c5,hsl.len,h0']
  rw [hz];clear hz z
  refine aa fun z hz=>?_
  simp [c5,hsl.len]
  refine aq (by kernel_rfl) (w.take (by omega) (n:=(m.live.length:Int)) (by omega) (by omega)) ?_
  rintro _ h2 ⟨rfl,o2,w2,f2⟩
  rw [hz];clear hz z
  refine aa fun z hz=>?_
  simp
  refine aq (by kernel_rfl) (w2.take (show m.at_+1≤_ by omega) (n:=3) (by decide) (by decide)) ?_
  rintro _ h3 ⟨rfl,o3,w3,f3⟩
  have hx:m.took.at_=m.at_+1:=rfl
  rw [hx]
  have hf : ∀ k:Key,3≤k.1→o3 k=o k:=fun k hk=>(f3 k hk).trans (f2 k hk)
  have hv:ny s m=_:=ny.eq_1 s m
  obtain ⟨vb3,vl3,lb3,b3⟩:=w3.box
  have c53:ah (vw h3) ⟨M,5,none⟩=some vl3:=b3.cell w3.own (i:=5) (by decide)
  have hsl3:SlRd (vw h3) vl3 m.live:=w3.own.now b3.live
  obtain ⟨r0,r1⟩:=dh (s:=s) (at_:=m.at_) (n:=(m.live.length:Int)) (by omega)
  generalize aP s m.at_ m.live.length=x at hv r0 r1
  generalize aP s (m.at_+1) 3=q at hv
  obtain ⟨i,hi,hvi,hii⟩ : ∃ i:Nat,i<m.live.length∧ny s m=nth m.live i∧(i:Int)=if q=0 then (m.live.length:Int)-1 else x:=by
   by_cases c:q=0
   ·rw [if_pos c] at hv ⊢
    exact ⟨m.live.length-1,by omega,hv,by omega⟩
   ·rw [if_neg c] at hv ⊢
    exact ⟨x.toNat,by omega,hv,by omega⟩
  have h64:IntKind.i64.wrap ((m.live.length:Int)-1)=(m.live.length:Int)-1:=cw (by omega) (by omega)
  have fin : ∀ ρ:Env,ρ=[(0,.pointer (some ⟨M,0,none⟩)),(2,.int .i64 0),(3,.bool false),(4,.int .i64 i),(17,.int .i64 x),(19,.int .i64 q)]→LC.wp Try.prog z (jc [.tmp 2,.tmp 3] K) ρ h3:=by
   rintro _ rfl
   rw [hz];clear hz z
   refine aa fun z hz=>?_
   simp (disch:=omega) [c53,hsl3.idx1 rfl,hsl3.int (View.le_refl _)]
   rw [hz];clear hz z
   simp
   exact hK _ _ (.inr ⟨h0,by rw [hvi],by rw [hvi];exact hsl3.range hi,o3,w3,hf⟩)
  by_cases c:q=0
  ·rw [if_pos c] at hii
   simp [c,c53,hsl3.len,h64]
   refine fin _ ?_
   rw [hii,c]
  ·rw [if_neg c] at hii
   simp [c]
   refine fin _ ?_
   rw [hii]
theorem Mk.add (w:Mk s M vs W h o m) {b:Nat} {i:InsD} {v:Value} (hb:b<m.blocks.length) (hi:Rd W v i) (hn:(nth m.blocks b).ins.length≤100000000) (hl:m.live.length≤100000000) :
    ay Try.prog N.bY #[.pointer (some ⟨M,0,none⟩),.int .i64 b,v] h (fun u h'=>Nx s M vs W h' o (m.add b i)):=by
  refine an (args:=[.pointer (some ⟨M,0,none⟩),.int .i64 b,v]) follows F.bY E.bY (Nat.le_of_ble_eq_true (by kernel_rfl)) fun K hK=>?_
  obtain ⟨vb,vl,lb,bb⟩:=w.box
  obtain ⟨va,rfl,hir,hia⟩:=vz hi
  dsimp only [L.bY]
  refine aa fun z hz=>?_
  simp
  refine jj rfl (hi.mono w.own.wle) fun h1 e1 hle1 hs1 hat=>?_
  have w1:=w.own.ext hle1
  have hbx:(grow W h h1) h.size=some (.cells #[.int .i64 i.op,.int .i64 i.dst,.int .i64 i.two,va,.int .i32 i.imm.v] T.cd (0,0)):=by
    rw [iz (Nat.le_refl _),e1];simp [Value.cells]
  have hi1:=hi.mono (dU (h':=h1) w.own.wle)
  have src1:=w.src.mono (dU (h':=h1) w.own.wle)
  have hW1:=dU (h':=h1) w.own.wle
  clear hat e1
  have hld:=wR hbx (n:=5) rfl
  generalize grow W h h1=W1 at w1 hld hi1 src1 hW1
  generalize h.size=B at hld
  rw [hz];clear hz z
  refine aa fun z hz=>?_
  obtain ⟨X,hWX,hX,cX,sX,avl,avX⟩:=bb.BU (s:=s) w1
  have c3:ah X ⟨M,3,none⟩=some vb:=cX 3 (by decide)
  have hbl:b<lb.length:=by rw [bb.len];exact hb
  have a1:=(sX.at hbl).part BlkM.j6
  have hsv:=sX.bound
  have a2:ah X (((slA vb).add (b*6)).add 1)=some (nth lb b).ins.v:=by rw [aj hbl];exact a1.raw
  have hldX:Un.ev X (.ao 5) (.pointer (some ⟨B,0,none⟩))=some (.agg #[.int .i64 i.op,.int .i64 i.dst,.int .i64 i.two,va,.int .i32 i.imm.v]):=by
    have:=cA (ρ:=fun _=>none) (e:=.un (.ao 5) (.con (.pointer (some ⟨B,0,none⟩)))) hWX (by simpa using hld)
    simpa using this
  refine eI X hX ?_
  simp (disch:=omega) [c3,sX.idxn (N:=6) rfl,a2,hldX]
  refine nj (α:=InsD) (W:=W1) (d:=i) El.iH rfl hi1 fun u5 h5 src hle5 hs5=>⟨View.le_trans hX hle5,?_⟩
  refine (w1.ext' hle5).eg (k:=(2,b)) (α:=InsD) (v:=(nth lb b).ins.v) (l:=(nth m.blocks b).ins) (l2:=[i]) (bb.ins b hb) El.iH rfl rfl src (by simp;omega) (by simp;omega) fun v6 h6 w6 m6=>⟨(m6.view (View.le_trans hX hle5) (avX b hb).2).1,?_⟩
  have hv6:=(w6.cells (k:=(2,b)) Own.ag).2
  refine w6.mc (k:=(0,2)) (α:=BlkM) BlkM.j6 (v:=vb) (l:=lb) (i:=b) (d:=⟨v6⟩) bb.blk (by kernel_rfl) rfl rfl hbl (tV.2 ⟨rfl,hv6⟩) fun h7 w7 _=>?_
  have b7:=bb.aE hb (x':={ nth m.blocks b with ins:=(nth m.blocks b).ins++[i] }) (y':={ lb[b] with ins:=⟨v6⟩ }) (o':=(o.upd (2,b) (it T.cd v6 ((nth m.blocks b).ins++[i]))).upd (0,2) (it T.aD vb (lb.set b { lb[b] with ins:=⟨v6⟩ }))) (by rw [←bb.term b hb,aj hbl]) Own.ag (by rw [←aj hbl];exact bb.phis b hb) ((Own.ab (by simp)).trans Own.ag) (fun q h1 h2 h3=>by rw [Own.ab h1,Own.ab h3])
  generalize hm7:({ m with blocks:=m.blocks.set b { nth m.blocks b with ins:=(nth m.blocks b).ins++[i] } }:MS)=m7 at b7
  have hadd:m.add b i={ m7 with live:=m.live++aI i }:=by rw [←hm7];rfl
  have hl7:m7.live=m.live:=by rw [←hm7]
  have hf7 : ∀ k:Key,3≤k.1→((o.upd (2,b) (it T.cd v6 ((nth m.blocks b).ins++[i]))).upd (0,2) (it T.aD vb (lb.set b { lb[b] with ins:=⟨v6⟩ }))) k=o k:=fun k hk=>by
    rw [Own.ab (by rintro rfl;simp at hk),Own.ab (by rintro rfl;simp at hk)]
  generalize (o.upd (2,b) (it T.cd v6 ((nth m.blocks b).ins++[i]))).upd (0,2) (it T.aD vb (lb.set b { lb[b] with ins:=⟨v6⟩ }))=o7 at w7 b7 hf7
  generalize lb.set b { lb[b] with ins:=⟨v6⟩ }=lb7 at b7
  clear src avX m6
  rw [hz];clear hz z
  refine aa fun z hz=>?_
  have hld7:Un.ev (vw h7) (.ao 5) (.pointer (some ⟨B,0,none⟩))=some (.agg #[.int .i64 i.op,.int .i64 i.dst,.int .i64 i.two,va,.int .i32 i.imm.v]):=by
    have:=cA (ρ:=fun _=>none) (e:=.un (.ao 5) (.con (.pointer (some ⟨B,0,none⟩)))) w7.wle (by simpa using hld)
    simpa using this
  simp [hld7]
  refine aq (by kernel_rfl) (sO (hi1.mono w7.wle)) ?_
  rintro u8 h8 ⟨hle8,hu8,-⟩
  have w8:=w7.ext hle8
  have hu8:SlRd (grow W1 h7 h8) u8 (aI i):=hu8.mono (zf (Nat.le_refl _) (View.le_refl _))
  have hW8:=dU (h':=h8) w7.wle
  generalize grow W1 h7 h8=W8 at w8 hu8 hW8
  rw [hz];clear hz z
  have c58:ah (vw h8) ⟨M,5,none⟩=some vl:=b7.cell w8 (i:=5) (by decide)
  have hmk:(aI i).length≤2:=by
                                         unfold aI;repeat' split
                                         all_goals simp
  simp [c58]
  refine w8.eg (k:=(0,1)) (α:=Int) (v:=vl) (l:=m.live) (l2:=aI i) (by rw [←hl7];exact b7.live) El.bV rfl rfl (hu8.src w8.wle) (by omega) (by omega) fun v9 h9 w9 m9=>?_
  have hv9:=(w9.cells (k:=(0,1)) Own.ag).2
  have hbx9:(o7.upd (0,1) (it T.int v9 (m.live++aI i))) (0,0)=bx T.cL M (RawN.mk (n:=5) (mkL vs m7.at_ m7.ps vb m7.next vl)):=b7.box
  refine w9.dV (k:=(0,0)) (n:=5) (i:=5) (e:=T.cL) (B:=M) (l:=mkL vs m7.at_ m7.ps vb m7.next vl) hbx9 (by decide) (by kernel_rfl) rfl rfl hv9 fun h10 w10 _=>?_
  refine hK _ _ ⟨W8,_,View.le_trans hW1 hW8,⟨w10,src1.mono hW8,vb,v9,lb7,?_⟩,fun k hk=>?_⟩
  · rw [hadd]
    exact ⟨rfl,rfl,b7.blk,b7.len,b7.term,b7.phis,b7.ins⟩
  · rw [Own.ab (by rintro rfl;simp at hk),Own.ab (by rintro rfl;simp at hk)]
    exact hf7 k hk
end Go.Proofs.Ytbkdlhkoiagbbaa
namespace Go.Proofs.Ytbkdlhkoiagbbaa
open Go Go.Lft
structure MS.ok (c:Nat) (m:MS):Prop where
 at_:m.at_≤c
 n0:0≤m.next
 next:m.next≤c
 live:m.live.length≤c
 ins : ∀ i,(nth m.blocks i).ins.length≤c
theorem MS.ok.mono {c d:Nat} {m:MS} (h:m.ok c) (hd:c≤d):m.ok d:=
 ⟨by have:=h.at_;omega,h.n0,by have:=h.next;omega,by have:=h.live;omega,fun i=>by have:=h.ins i;omega⟩
theorem MS.ok.took {c:Nat} {m:MS} (h:m.ok c):m.took.ok (c+1):=
 ⟨by have:=h.at_;show m.at_+1≤_;omega,h.n0,by have:=h.next;show m.next≤_;omega,by have:=h.live;show m.live.length≤_;omega,fun i=>by have:=h.ins i;show (nth m.blocks i).ins.length≤_;omega⟩
theorem MS.ok.aJ {c:Nat} {m:MS} (h:m.ok c):m.aJ.ok (c+1):=
 ⟨by have:=h.at_;show m.at_≤_;omega,by have:=h.n0;show 0≤m.next+1;omega,by have:=h.next;show m.next+1≤_;omega,by have:=h.live;show m.live.length≤_;omega,fun i=>by have:=h.ins i;show (nth m.blocks i).ins.length≤_;omega⟩
theorem xd {i:InsD}:(aI i).length≤2:=by
 unfold aI
 repeat' split
 all_goals simp
theorem MS.ok.add {c b:Nat} {m:MS} {i:InsD} (h:m.ok c):(m.add b i).ok (c+2):=by
 refine ⟨by have:=h.at_;show m.at_≤_;omega,h.n0,by have:=h.next;show m.next≤_;omega,?_,fun j=>?_⟩
 ·have:=h.live
  have:=xd (i:=i)
  show (m.live++aI i).length≤_
  rw [List.length_append];omega
 ·show (nth (m.blocks.set b _) j).ins.length≤_
  have hj:=h.ins j
  rcases Nat.lt_or_ge j m.blocks.length with hl | hl
  ·rw [az hl]
   split
   ·rename_i e
    subst e
    rw [List.length_append,List.length_singleton];omega
   ·omega
  ·rw [aU (by simpa using hl)]
   rw [aU hl] at hj;omega
theorem MS.ok.constant {c b:Nat} {m:MS} {n:Int} (h:m.ok c):(m.constant b n).ok (c+3):=h.aJ.add
theorem MS.ok.two {c b:Nat} {m:MS} {op x y:Int} (h:m.ok c):(m.two b op x y).ok (c+3):=h.aJ.add
variable {s:List Int} {M:Nat} {vs:Value} {W:View} {h:Heap} {o:Own} {m:MS}
theorem MS.ok.aG {c b:Nat} (h:m.ok c):(aG s m b).2.ok (c+10):=by
 unfold Go.Proofs.Ytbkdlhkoiagbbaa.aG
 repeat' split
 ·exact (h.took.took.constant).mono (by omega)
 ·exact (h.took.took.took.took.took.constant).mono (by omega)
 ·exact (h.took.took.took).mono (by omega)
theorem mI {b:Nat} {i:InsD}:(m.add b i).blocks.length=m.blocks.length:=by simp [MS.add]
theorem zj {b:Nat}:(aG s m b).2.blocks.length=m.blocks.length:=by
 unfold aG
 repeat' split
 all_goals simp [ze,MS.constant,mI,MS.took,MS.aJ]
theorem Mk.constant (w:Mk s M vs W h o m) {b c:Nat} {n:Int} (hb:b<m.blocks.length) (hm:m.ok c) (hc:c≤1000000) (hn:-2147483648≤n∧n≤2147483647) :
  ay Try.prog N.aZ #[.pointer (some ⟨M,0,none⟩),.int .i64 b,.int .i32 n] h (fun u h'=>u = .int .i64 m.next∧Nx s M vs W h' o (m.constant b n)):=by
 refine an (args:=[.pointer (some ⟨M,0,none⟩),.int .i64 b,.int .i32 n]) follows F.aZ E.aZ (Nat.le_of_ble_eq_true (by kernel_rfl)) fun K hK=>?_
 have q1:=hm.next
 have q0:=hm.n0
 dsimp only [L.aZ]
 refine aa fun z hz=>?_
 simp
 rw [hz];clear hz z
 refine aa fun z hz=>?_
 simp
 refine aq (by kernel_rfl) (w.fresh q0 (by omega)) ?_
 rintro _ h2 ⟨rfl,o2,w2,f2⟩
 rw [hz];clear hz z
 refine aa fun z hz=>?_
 simp
 refine bc (z:=.agg #[.int .i64 0,.int .i64 0,.int .i64 0,.slice none 0 0,.int .i32 0]) (places:=[(0,1),(1,1),(2,1),(3,1),(4,1)]) (vs:=[(0,.int .i64 1),(1,.int .i64 m.next),(4,.int .i32 n)]) (cs:=#[.int .i64 1,.int .i64 m.next,.int .i64 0,.slice none 0 0,.int .i32 n]) (by kernel_rfl) (by kernel_rfl) (by simp) (by rfl) ?_
 have hm2:=hm.aJ
 refine aq (by kernel_rfl) (w2.add (i:=conD m.next n) hb (zl (imm:=⟨n⟩) ⟨⟨by decide,by decide⟩,⟨by omega,by omega⟩,⟨by decide,by decide⟩,hn⟩ dX) (by have:=hm2.ins b;omega) (by have:=hm2.live;omega)) ?_
 rintro u3 h3 n3
 rw [hz];clear hz z
 simp
 exact hK _ _ ⟨rfl,n3.trans (View.le_refl _) f2⟩
end Go.Proofs.Ytbkdlhkoiagbbaa
namespace Go.Proofs.Ytbkdlhkoiagbbaa
open Go Go.Lft
def Nz (s:List Int) (M:Nat) (vs:Value) (W0:View) (h:Heap) (o0:Own) (m:MS) (u:Value) (ds:List Int):Prop:=∃ W o,W0.le W∧Mk s M vs W h o m∧(∀ k:Key,3≤k.1→o k=o0 k)∧SlRd W u ds
section
variable {s:List Int} {M:Nat} {vs:Value} {W0:View} {h:Heap} {o0:Own} {m:MS} {u:Value} {ds:List Int}
theorem Nx.z (n:Nx s M vs W0 h o0 m):Nz s M vs W0 h o0 m (.slice none 0 0) []:=by
 obtain ⟨W,o,h1,h2,h3⟩:=n
 exact ⟨W,o,h1,h2,h3,dX⟩
theorem Nz.x (n:Nz s M vs W0 h o0 m u ds):Nx s M vs W0 h o0 m:=by
 obtain ⟨W,o,h1,h2,h3,_⟩:=n
 exact ⟨W,o,h1,h2,h3⟩
theorem Nz.call {f:FuncId} {args:Array Value} {m':MS} {U:Value→Prop} (hc : ∀ {W o},Mk s M vs W h o m→ay Try.prog f args h (fun u h'=>U u∧Nx s M vs W h' o m')) (n:Nz s M vs W0 h o0 m u ds) :
  ay Try.prog f args h (fun v h'=>U v∧Nz s M vs W0 h' o0 m' u ds):=by
 obtain ⟨W,o,h1,h2,h3,h4⟩:=n
 refine (hc h2).mono ?_
 rintro v h' ⟨hU,W',o',g1,g2,g3⟩
 exact ⟨hU,W',o',View.le_trans h1 g1,g2,fun k hk=>(g3 k hk).trans (h3 k hk),h4.mono g1⟩
end
theorem rF {m:MS} {b:Nat} {n:Int}:(m.constant b n).blocks.length=m.blocks.length:=mI
end Go.Proofs.Ytbkdlhkoiagbbaa
namespace Go.Proofs.Ytbkdlhkoiagbbaa
open Go Go.Lft
section
variable {s:List Int} {M:Nat} {vs:Value} {W0:View} {h:Heap} {o0:Own} {m:MS} {u:Value} {ds:List Int}
theorem Nz.le (n:Nz s M vs W0 h o0 m u ds):W0.le (vw h):=by
 obtain ⟨W,o,h1,h2,_⟩:=n
 exact View.le_trans h1 h2.own.wle
end
theorem MkB.frame {M:Nat} {vs:Value} {m:MS} {o o':Own} {vb vl:Value} {lb:List BlkM} (b:MkB M vs m o vb vl lb) (hf : ∀ k:Key,k.1<3→o' k=o k):MkB M vs m o' vb vl lb:=
 ⟨(hf _ (by decide)).trans b.box,(hf _ (by decide)).trans b.live,(hf _ (by decide)).trans b.blk,b.len,b.term,fun i hi=>(hf _ (by show 1<3;decide)).trans (b.phis i hi),fun i hi=>(hf _ (by show 2<3;decide)).trans (b.ins i hi)⟩
theorem AG {s:List Int} {b c:Nat} {x:List Int × MS} (hx:x.2.ok c) : ∀ k,(up (fL s b) k x).2.ok (c+10*k)∧(up (fL s b) k x).1.length=x.1.length+k∧(up (fL s b) k x).2.blocks.length=x.2.blocks.length:=by
 intro k
 induction k with
 | zero=>exact ⟨hx,rfl,rfl⟩
 | succ k ih=>
  obtain ⟨h1,h2,h3⟩:=ih
  refine ⟨(h1.aG).mono (by omega),?_,?_⟩
  ·show ((up (fL s b) k x).1++[_]).length=_
   rw [List.length_append,h2,List.length_singleton];omega
  ·show (aG s (up (fL s b) k x).2 b).2.blocks.length=_
   rw [zj,h3]
end Go.Proofs.Ytbkdlhkoiagbbaa
namespace Go.Proofs.Ytbkdlhkoiagbbaa
open Go Go.Lft
variable {s:List Int} {m:MS} {b c:Nat}
theorem za:m.took.blocks.length=m.blocks.length:=rfl
theorem MS.ok.addr (h:m.ok c):(gk s m b).2.ok (c+30):=by
 unfold gk
 simp only
 split
 ·exact ((((h.took.constant).took.aG).constant).two.two).mono (by omega)
 ·exact (h.took.constant.took).mono (by omega)
theorem MS.ok.off (h:m.ok c):(offS s m).2.ok (c+4):=by
 unfold offS
 split
 ·exact h.took.took.took.took
 ·exact h.took.took.mono (by omega)
theorem MS.ok.memory {st:Bool} (h:m.ok c):(gG s m b st).ok (c+60):=by
 unfold gG
 simp only
 split
 ·exact (((h.addr).off.aG).add).mono (by omega)
 ·exact (((h.addr).off.aJ).add).mono (by omega)
theorem MS.ok.bin {op:Int} (h:m.ok c):(binS s m b op).ok (c+60):=by
 unfold binS
 simp only
 split
 ·exact ((h.aG.aG).took.took.constant.two).mono (by omega)
 ·exact ((h.aG.aG).took.two).mono (by omega)
theorem MS.ok.div (h:m.ok c):(divS s m b).ok (c+60):=by
 unfold divS
 simp only
 split
 ·exact ((h.aG).took.constant.took.took.constant.two).mono (by omega)
 ·exact ((h.aG).took.constant.took.two).mono (by omega)
theorem MS.ok.jY (h:m.ok c):(jY s m b).ok (c+70):=by
 unfold Go.Proofs.Ytbkdlhkoiagbbaa.jY
 simp only
 have ht:=dh (s:=s) (at_:=m.at_) (n:=5) (by decide)
 have:=(AG (s:=s) (b:=b) (x:=([],m.took)) h.took (aP s m.at_ 5).toNat).1
 exact (this.aJ.took.add).mono (by omega)
theorem MS.ok.fg (h:m.ok c):(bh s b m).ok (c+80):=by
 unfold bh
 simp only
 repeat' split
 ·exact h.took.bin.mono (by omega)
 ·unfold ltuS
  exact (h.took.aG.aG.two).mono (by omega)
 ·exact h.took.div.mono (by omega)
 ·exact h.took.memory.mono (by omega)
 ·exact h.took.jY.mono (by omega)
 ·unfold pC
  exact (h.took.aG.aG.aJ.aJ.add).mono (by omega)
 ·exact h.took.took.took.constant.mono (by omega)
end Go.Proofs.Ytbkdlhkoiagbbaa
namespace Go.Proofs.Ytbkdlhkoiagbbaa
open Go Go.Lft
def MS.dd (m:MS) (b:Nat) (t:de):MS:={ m with blocks:=m.blocks.set b { nth m.blocks b with term:=t } }
def cmpL:List Int:=[11,12,13]
def dC (s:List Int) (to:List Int) (b:Nat) (m:MS):de × MS:=
 if to.length=0 then
  if aP s m.at_ 8=0 then (⟨5,[],[],⟨IntKind.i32.wrap (aP s (m.at_+1) 200)⟩⟩,m.took.took)
  else if 1<aP s m.at_ 8 then (⟨4,[(aG s m.took b).1],[],⟨0⟩⟩,(aG s m.took b).2)
  else (⟨4,[],[],⟨0⟩⟩,m.took)
 else if to.length=1 then (⟨1,[],to,⟨0⟩⟩,m)
 else if to.length=2 then
  let r:=aG s m b
  if aP s r.2.at_ 2=0 then
   let w:=aG s r.2.took b
   (⟨2,[w.2.next],to,⟨0⟩⟩,w.2.aJ.took.add b ⟨nth cmpL (aP s w.2.at_ 3).toNat,w.2.next,0,[r.1,w.1],⟨0⟩⟩)
  else (⟨2,[r.1],to,⟨0⟩⟩,r.2.took)
 else
  let r:=aG s m b
  let m2:=r.2.constant b 7
  (⟨3,[m2.next],to,⟨0⟩⟩,m2.two b 5 r.1 r.2.next)
def mX (s:List Int) (to:List Int) (b:Nat) (m:MS):MS:=(dC s to b m).2.dd b (dC s to b m).1
section
variable {s:List Int} {M:Nat} {vs:Value} {W0:View} {h:Heap} {o0:Own} {m:MS} {u:Value} {ds:List Int}
theorem Nz.dV {po:OP} (n:Nz s M vs W0 h o0 m u ds) {k:Key} {e:TypeId} {B N i:Nat} {l:List Value} {ty t:TypeId} {us:List (Nat × Value)} {x y:Operand} {v:Value} {K:Value→Heap→Prop} (h3:3≤k.1) (hk:o0 k=bx e B (RawN.mk (n:=N) l)) (hi:i≤N) (hsz:b6 Try.prog t=some 1) (hx:asg us x = .pointer (some ⟨B,i,none⟩)) (hy:asg us y=v) (hv:v.oneCell'=true)
  (hK : ∀ h',Nz s M vs W0 h' (o0.upd k (bx e B (RawN.mk (n:=N) (l.set i v)))) m u ds→K undef h'):@Lft.step po Try.prog (.store t x y) ty us h K:=by
 obtain ⟨W,o,g1,w,f,sl⟩:=n
 refine w.own.dV (k:=k) (n:=N) (i:=i) (e:=e) (B:=B) (l:=l) ((f k h3).trans hk) hi hsz hx hy hv fun h' w' _=>hK h' ?_
 obtain ⟨vb,vl,lb,bb⟩:=w.box
 refine ⟨W,_,g1,⟨w',w.src,vb,vl,lb,bb.frame fun q hq=>Own.ab (by rintro rfl;omega)⟩,fun q hq=>?_,sl⟩
 unfold Own.upd
 split
 ·rfl
 ·exact f q hq
theorem Nz.slice (n:Nz s M vs W0 h o0 m u ds) : ∃ a k c,u = .slice a k c:=by
 obtain ⟨W,o,g1,w,f,a,c,e,_⟩:=n
 exact ⟨a,_,c,e⟩
theorem Nz.rows (n:Nz s M vs W0 h o0 m u ds) {u':Value} {ds':List Int} (h':SlRd W0 u' ds'):Nz s M vs W0 h o0 m u' ds':=by
 obtain ⟨W,o,g1,w,f,sl⟩:=n
 exact ⟨W,o,g1,w,f,h'.mono g1⟩
theorem Nz.re (n:Nz s M vs W0 h o0 m u ds) {o0':Own} (he : ∀ k,o0' k=o0 k):Nz s M vs W0 h o0' m u ds:=by
 obtain ⟨W,o,g1,w,f,sl⟩:=n
 exact ⟨W,o,g1,w,fun k hk=>(f k hk).trans (he k).symm,sl⟩
end
end Go.Proofs.Ytbkdlhkoiagbbaa
namespace Go.Proofs.Ytbkdlhkoiagbbaa
open Go Go.Lft
abbrev RSt:=List Bool × List Int
def jL (wo:Int) (to:List Int) (k:Nat) (s:RSt):RSt:=
 if (0≤nth to k∧nth to k<s.1.length)∧nth s.1 (nth to k).toNat=false∧nth to k≠wo then (s.1.set (nth to k).toNat true,s.2++[nth to k]) else s
def rK (f:ae) (wo:Int) (i:Nat) (s:RSt):RSt:=up (jL wo (nth f.blocks (nth s.2 i).toNat).term.to) (nth f.blocks (nth s.2 i).toNat).term.to.length s
def rchS (f:ae) (wo:Int):Nat→Nat→RSt→RSt
 | 0,_,s=>s
 | n+1,i,s=>if i<s.2.length then rchS f wo n (i+1) (rK f wo i s) else s
def rch0 (f:ae) (wo:Int):RSt:=if wo≠0∧0<f.blocks.length then ((List.replicate f.blocks.length false).set 0 true,[0]) else (List.replicate f.blocks.length false,[])
def fD (f:ae) (wo:Int):List Bool:=(rchS f wo (f.blocks.length+1) 0 (rch0 f wo)).1
structure ROk (n:Nat) (s:RSt):Prop where
 len:s.1.length=n
 cnt:s.2.length+bM s.1≤n
 rng : ∀ x∈s.2,0≤x∧x<n
theorem zF {n:Nat} {wo:Int} {to:List Int} {k:Nat} {s:RSt} (h:ROk n s):ROk n (jL wo to k s):=by
 unfold jL
 split
 ·rename_i hc
  have hf:=eZ (t:=s.1) (i:=(nth to k).toNat) (by omega) hc.2.1
  refine ⟨by simpa using h.len,?_,fun x hx=>?_⟩
  ·have:=h.cnt
   simp only [List.length_append,List.length_singleton];omega
  ·rcases List.mem_append.1 hx with hx | hx
   ·exact h.rng x hx
   ·rw [List.mem_singleton.1 hx,←h.len];exact hc.1
 ·exact h
theorem zQ {f:ae} {wo:Int}:ROk f.blocks.length (rch0 f wo):=by
 unfold rch0
 have hfa:bM (List.replicate f.blocks.length false)=f.blocks.length:=by simp [bM]
 split
 ·rename_i hc
  have hf:=eZ (t:=List.replicate f.blocks.length false) (i:=0) (by simpa using hc.2) (by rw [aj (by simpa using hc.2)];simp)
  exact ⟨by simp,by simp only [List.length_singleton];omega,fun x hx=>by rw [List.mem_singleton.1 hx];omega⟩
 ·exact ⟨by simp,by simp only [List.length_nil];omega,fun x hx=>by cases hx⟩
end Go.Proofs.Ytbkdlhkoiagbbaa
namespace Go.Proofs.Ytbkdlhkoiagbbaa
open Go Go.Lft
instance:Rep Th:=Rep.via fun d=>Cat.mk d.blk (Cat.mk d.place (Cat.mk d.mks d.tks))
structure ThR where
 blk:Int
 place:Int
 mks:List Int
 tks:Raw
instance:Rep ThR:=Rep.via fun d=>Cat.mk d.blk (Cat.mk d.place (Cat.mk d.mks d.tks))
def BR (vo:Value) (l:List Th):Own:=fun k=>if k=(0,0) then it T.tG vo l else none
structure ThS (V:View) (h0:Heap) (vo:Value) (l:List Th) (W:View) (h:Heap):Prop where
 own:Owns W h (BR vo l)
 old:Old V h0 W
 le:(vw h0).le (vw h)
 av:Av (vw h0) vo
theorem ThS.ext {V:View} {h0:Heap} {vo:Value} {l:List Th} {W:View} {h h':Heap} (k:ThS V h0 vo l W h) (hle:(vw h).le (vw h')):ThS V h0 vo l (grow W h h') h':=
 ⟨k.own.ext hle,k.old.grow (fw k.le),View.le_trans k.le hle,k.av⟩
end Go.Proofs.Ytbkdlhkoiagbbaa
namespace Go.Proofs.Ytbkdlhkoiagbbaa
open Go Go.Lft
structure GotD where
 e:Int
 b:Int
 p:Int
instance:Rep GotD:=Rep.via fun d=>Cat.mk d.e (Cat.mk d.b d.p)
abbrev BL:=List Bool
def kS (t:Th) (j:Nat) (m:BL):Except Tr BL:=if nth m (nth t.mks j).toNat then .error (12,t.blk,t.place) else .ok (m.set (nth t.mks j).toNat true)
def dN (f:ae) (t:Th):BlkD:=nth f.blocks t.blk.toNat
def oo (f:ae) (t:Th):InsD:=nth (dN f t).ins t.place.toNat
def il (f:ae) (t:Th):Bool:=decide (0≤t.place)&&decide (t.place<(dN f t).ins.length)
def gu (f:ae) (t:Th):Bool:=decide (t.place=(dN f t).ins.length)
def iq (s:InsD):Bool:=decide (s.op<1)||decide (18<s.op)||!ml s.op s.args.length
def iw (f:ae) (n:Int):Bool:=decide (n<f.params)||decide (8191<n)
def pH (f:ae) (n:Int):Bool:=decide (n<1)||decide ((f.blocks.length:Int)≤n)
def ju (f:ae) (t:Th):Except Tr BL→Except Tr BL
 | .error e=>.error e
 | .ok m'=>if gu f t&&(dN f t).term.to.any (pH f) then .error (14,t.blk,t.place) else .ok m'
def eW (f:ae) (t:Th) (m:BL):Except Tr BL:=
 if il f t&&iq (oo f t) then .error (10,t.blk,t.place)
 else if gu f t&&!fq (dN f t).term then .error (10,t.blk,t.place)
 else if t.mks.any (iw f) then .error (11,t.blk,t.place)
 else ju f t (upE (kS t) t.mks.length m)
def gK (f:ae):Except Tr BL:=upE (fun i m=>eW f (nth (aM f) i) m) (aM f).length (List.replicate 8192 false)
def qk {α:Type}:Except Tr α→Tr | .ok _=>(0,0,0) | .error t=>t
end Go.Proofs.Ytbkdlhkoiagbbaa
namespace Go.Proofs.Ytbkdlhkoiagbbaa
open Go Go.Lft
def noTh:Th:=⟨-1,0,[],[]⟩
def dm (t:Th) (l:List Th) (n:Int):List Th:=if 0≤n∧n<8192 then l.set n.toNat t else l
def lH (l:List Th) (t:Th):List Th:=t.mks.foldl (dm t) l
def rP (ts:List Th):List Th:=ts.foldl lH (List.replicate 8192 noTh)
theorem jg {t:Th} {l:List Th} {n:Int}:(dm t l n).length=l.length:=by unfold dm;split<;>simp
theorem uU {t:Th} {l:List Th}:(lH l t).length=l.length:=kP (f:=dm t) (fun x:List Th=>x.length=l.length) (fun _ _ h=>jg.trans h) _ _ rfl
theorem uH {ts:List Th}:(rP ts).length=8192:=kP (f:=lH) (fun x:List Th=>x.length=8192) (fun _ _ h=>uU.trans h) _ _ (List.length_replicate ..)
end Go.Proofs.Ytbkdlhkoiagbbaa
namespace Go.Proofs.Ytbkdlhkoiagbbaa
open Go Go.Lft
def eN (f:ae) (made:List Th) (away:List BL) (v blk place:Int):Bool:=
 if 0≤v∧v<f.params then true
 else if (v<0∨8191<v)∨(nth made v.toNat).blk<0 then false
 else if (nth made v.toNat).blk=blk then decide ((nth made v.toNat).place<0)||decide ((nth made v.toNat).place<place)
 else !nth (nth away (nth made v.toNat).blk.toNat) blk.toNat
end Go.Proofs.Ytbkdlhkoiagbbaa
namespace Go.Proofs.Ytbkdlhkoiagbbaa
open Go Go.Lft
def lj (f:ae) (t:Th):PhiD:=nth (dN f t).phis (-1-t.place).toNat
def uQ (f:ae) (b:Int):Int:=((nth f.blocks b.toNat).ins.length:Nat)
def mD (f:ae) (t:Th):Bool:=decide (0<t.blk)&&decide ((lj f t).ins.map InD.frm=aw f t.blk)
def stT (f:ae) (made:List Th) (away:List BL) (t:Th) (x:Int):Bool:=!eN f made away x t.blk t.place
def stP (f:ae) (made:List Th) (away:List BL) (p:InD):Bool:=!eN f made away p.val p.frm (uQ f p.frm)
def eJ (f:ae) (made:List Th) (away:List BL) (t:Th):Except Tr Unit:=
 if 0≤t.place then (if t.tks.any (stT f made away t) then .error (13,t.blk,t.place) else .ok ())
 else if !mD f t then .error (16,t.blk,t.place)
 else if (lj f t).ins.any (stP f made away) then .error (13,t.blk,t.place)
 else .ok ()
def eQ (f:ae):List Th:=rP (aM f)
def eo (f:ae):List BL:=rows (fun b=>fD f b) f.blocks.length
def dY (f:ae):Nat→Nat
 | 0=>f.blocks.length
 | n+1=>dY f n+(nth f.blocks n).phis.length+(nth f.blocks n).ins.length
def wayE (f:ae):Except Tr Unit:=upE (fun b _=>if nth (fD f (-1)) b=true then .ok () else .error (15,b,0)) f.blocks.length ()
def sL (f:ae):Except Tr Unit:=upE (fun i _=>eJ f (eQ f) (eo f) (nth (aM f) i)) (aM f).length ()
def Cs:Except Tr Unit→Except Tr Unit→Except Tr Unit
 | .ok _,y=>y
 | .error e,_=>.error e
def oQ (f:ae):Tr:=
 if f.params<0∨4<f.params then (1,0,0)
 else if f.blocks.length=0 then (14,0,0)
 else if 512<f.blocks.length∨4096<dY f f.blocks.length then (2,0,0)
 else if (qk (gK f)).1≠0 then qk (gK f)
 else qk (Cs (wayE f) (sL f))
theorem rZ {σ ε:Type} {f:Nat→σ→Except ε σ} {s:σ} {t:ε} : ∀ {n:Nat},upE f n s = .error t→∃ k s',k<n∧upE f k s = .ok s'∧f k s' = .error t
 | n+1,h=>by
  simp only [upE] at h
  split at h
  ·rename_i s' hs
   exact ⟨n,s',Nat.lt_succ_self n,hs,h⟩
  ·rename_i t' ht
   cases h
   obtain ⟨k,s',h1,h2⟩:=rZ ht
   exact ⟨k,s',Nat.lt_succ_of_lt h1,h2⟩
theorem tj {f:ae} {t:Th} {m:BL} {e:Tr} (h:eW f t m = .error e):(10≤e.1∧e.1≤14)∧e.2.1=t.blk∧e.2.2=t.place:=by
 unfold eW at h
 split at h
 ·cases h;simp
 ·split at h
  ·cases h;simp
  ·split at h
   ·cases h;simp
   ·unfold ju at h
    split at h
    ·rename_i e' he
     cases h
     obtain ⟨k,s',_,_,h3⟩:=rZ he
     unfold kS at h3
     split at h3
     ·cases h3;simp
     ·cases h3
    ·split at h
     ·cases h;simp
     ·cases h
theorem xw {n:Int} (hn:0≤n) {ts:List Th} (h : ∀ t∈ts,t.blk<n) {i:Nat} (hi:i<8192):(nth (rP ts) i).blk<n:=by
 have key : ∀ (ts:List Th),(∀ t∈ts,t.blk<n)→∀ l:List Th,(∀ x∈l,x.blk<n)→∀ x∈ts.foldl lH l,x.blk<n:=by
  intro ts
  induction ts with
  | nil=>exact fun _ l hl=>hl
  | cons t ts ih=>
   intro ht l hl
   refine ih (fun x hx=>ht x (List.mem_cons_of_mem _ hx)) _ ?_
   refine kP (f:=dm t) (fun l:List Th=>∀ x∈l,x.blk<n) (fun l a hl x hx=>?_) _ _ hl
   unfold dm at hx
   split at hx
   ·rcases List.mem_or_eq_of_mem_set hx with h | rfl
    ·exact hl x h
    ·exact ht _ List.mem_cons_self
   ·exact hl x hx
 refine key ts h _ (fun x hx=>?_) _ (bW (by show i<(rP ts).length;rw [uH];exact hi))
 rw [(List.mem_replicate.1 hx).2];show (-1:Int)<n;omega
end Go.Proofs.Ytbkdlhkoiagbbaa
namespace Go.Proofs.Ytbkdlhkoiagbbaa
open Go Go.Lft
def yR (f:ae) (b:Nat) (t:Th):Bool:=decide (t.blk=b)||!nth (fD f t.blk) b
def nc (f:ae) (b:Nat) (out:List Int) (t:Th):List Int:=if yR f b t then out++t.mks else out
def gP (f:ae) (b:Nat):List Int:=(aM f).foldl (nc f b) (rows (fun i=>(i:Int)) f.params.toNat)
end Go.Proofs.Ytbkdlhkoiagbbaa
namespace Go.Lft
open Go
open Classical in
/-- Several of one's own, written no more. -/
theorem Owns.qc {W:View} {h:Heap} {o:Own} (w:Owns W h o) (S:Key→Bool) :
  ∃ W':View,W.le W'∧Owns W' h (fun k=>if S k then none else o k)∧∀ {k:Key} {α:Type} [r:Rep α] {e:TypeId} {v:Value} {l:List α},S k=true→o k=it e v l→SlRd W' v l:=by
 have hle:W.le (fun b=>if ∃ k i,S k=true∧o k=some i∧i.v.ownBlock=some b then h[b]? else W b):=fun b x hb=>by
  show (if _ then _ else _)=_
  rw [if_neg]
  ·exact hb
  ·rintro ⟨k,i,_,h2,h3⟩
   rw [w.av k i h2 b h3] at hb;cases hb
 refine ⟨fun b=>if ∃ k i,S k=true∧o k=some i∧i.v.ownBlock=some b then h[b]? else W b,hle,?_,?_⟩
 ·refine ⟨fun b x hb=>?_,fun k i hk=>?_,fun k i hk b hb=>?_,fun k k' i i' b hk hk'=>?_⟩
  ·split at hb
   ·exact hb
   ·exact w.wle b x hb
  ·split at hk
   ·cases hk
   ·exact @OwnT.mono i.α i.rep _ _ _ _ _ (w.own k i hk) _ hle
  ·split at hk
   ·cases hk
   ·rename_i hs
    show (if _ then _ else _)=_
    rw [if_neg]
    ·exact w.av k i hk b hb
    ·rintro ⟨k',i',h1,h2,h3⟩
     exact hs (w.dj k k' i i' b hk h2 hb h3▸h1)
  ·split at hk
   ·cases hk
   ·split at hk'
    ·cases hk'
    ·exact w.dj k k' i i' b hk hk'
 ·intro k α r e v l hs hk
  refine (w.get hk).rd hle fun b hb=>?_
  rw [if_pos ⟨k,_,hs,hk,hb⟩]
theorem Owns.nils {W:View} {h:Heap} {o o':Own} (w:Owns W h o) (ho : ∀ k i,o' k=some i→o k=some i∨(i.v = .slice none 0 0∧@OwnT i.α i.rep W h i.e i.v i.l)):Owns W h o':=by
 have hnb : ∀ {i:Item} {b:Nat},i.v = .slice none 0 0→i.v.ownBlock=some b→False:=fun e hb=>by rw [e] at hb;simp [Value.ownBlock] at hb
 refine ⟨w.wle,fun k i hk=>?_,fun k i hk b hb=>?_,fun k k' i i' b hk hk' hb hb'=>?_⟩
 ·rcases ho k i hk with h1 | ⟨_,h1⟩
  ·exact w.own k i h1
  ·exact h1
 ·rcases ho k i hk with h1 | ⟨e,_⟩
  ·exact w.av k i h1 b hb
  ·exact (hnb e hb).elim
 ·rcases ho k i hk with h1 | ⟨e,_⟩
  ·rcases ho k' i' hk' with h2 | ⟨e,_⟩
   ·exact w.dj k k' i i' b h1 h2 hb hb'
   ·exact (hnb e hb').elim
  ·exact (hnb e hb).elim
end Go.Lft
namespace Go.Proofs.Ytbkdlhkoiagbbaa
open Go Go.Lft
abbrev TgS:=List (List Int) × MS
structure TgO (ri:Own) (o:Own) (vo:Value) (l:List (List Int)) (rv:List Raw):Prop where
 res : ∀ k:Key,8≤k.1→o k=ri k
 top:o (3,0)=it T.bV vo rv
 len:rv.length=l.length
 row : ∀ i,i<l.length→o (4,i)=it T.int (nth rv i).v (nth l i)
 els : ∀ k:Key,3≤k.1→k.1<8→k≠(3,0)→(∀ i,i<l.length→k≠(4,i))→o k=none
def Tg (ri:Own) (s:List Int) (M:Nat) (vs:Value) (W:View) (vo:Value) (h:Heap) (x:TgS):Prop:=∃ W' o rv,W.le W'∧Mk s M vs W' h o x.2∧TgO ri o vo x.1 rv
section
variable {s:List Int} {M:Nat} {vs:Value} {W:View} {vo:Value} {h:Heap} {x:TgS} {ri:Own}
theorem Tg.take (t:Tg ri s M vs W vo h x) {c:Nat} (hm:x.2.ok c) (hc:c≤1000000) {k:Int} (hk:0<k) (hk2:k≤1000000000) :
  ay Try.prog N.bz #[.pointer (some ⟨M,0,none⟩),.int .i64 k] h (fun v h'=>v = .int .i64 (aP s x.2.at_ k)∧Tg ri s M vs W vo h' (x.1,x.2.took)):=by
 obtain ⟨W',o,rv,g,w,q⟩:=t
 refine (w.take (by have:=hm.at_;omega) hk hk2).mono ?_
 rintro v h' ⟨e,o',w',f⟩
 exact ⟨e,W',o',rv,g,w',fun k hk=>(f k (by omega)).trans (q.res k hk),(f _ (by decide)).trans q.top,q.len,fun i hi=>(f _ (by show 3≤4;decide)).trans (q.row i hi),fun k h1 h8 h2 h3=>(f _ h1).trans (q.els k h1 h8 h2 h3)⟩
theorem Tg.len (t:Tg ri s M vs W vo h x) {Q:View}:Un.ev Q .len vo=some (.int .i64 x.1.length):=by
 obtain ⟨W',o,rv,g,w,q⟩:=t
 rw [←q.len]
 exact (w.own.now q.top).len
theorem Tg.idx (t:Tg ri s M vs W vo h x) {k:IntKind} {i:Int} (h0:0≤i) (h1:i<x.1.length):Bn.ev (.idx 1) vo (.int k i)=some (.pointer (some ((slA vo).add i.toNat))):=by
 obtain ⟨W',o,rv,g,w,q⟩:=t
 exact (w.own.now q.top).idx1 rfl h0 (by rw [q.len];exact h1)
end
structure TgK (n c:Nat) (x:TgS):Prop where
 len:x.1.length=n
 row : ∀ i,(nth x.1 i).length≤c
 ok:x.2.ok c
theorem TgK.mono {n c d:Nat} {x:TgS} (h:TgK n c x) (hd:c≤d):TgK n d x:=⟨h.len,fun i=>Nat.le_trans (h.row i) hd,h.ok.mono hd⟩
end Go.Proofs.Ytbkdlhkoiagbbaa
namespace Go.Proofs.Ytbkdlhkoiagbbaa
open Go Go.Lft
structure Grw (b k:Nat) (m m':MS):Prop where
 at0:m.at_≤m'.at_
 at1:m'.at_≤m.at_+k
 n0:m.next≤m'.next
 n1:m'.next≤m.next+k
 ps:m'.ps=m.ps
 live:m'.live.length≤m.live.length+k
 len:m'.blocks.length=m.blocks.length
 els : ∀ i,i≠b→nth m'.blocks i=nth m.blocks i
 ins:(nth m'.blocks b).ins.length≤(nth m.blocks b).ins.length+k
 phis:(nth m'.blocks b).phis=(nth m.blocks b).phis
 term:(nth m'.blocks b).term=(nth m.blocks b).term
variable {s:List Int} {m m' m2:MS} {b c k l:Nat}
theorem Grw.refl:Grw b 0 m m:=⟨Nat.le_refl _,Nat.le_refl _,Int.le_refl _,by omega,rfl,Nat.le_refl _,rfl,fun _ _=>rfl,Nat.le_refl _,rfl,rfl⟩
theorem Grw.trans (g:Grw b k m m') (h:Grw b l m' m2):Grw b (k+l) m m2:=
 ⟨Nat.le_trans g.at0 h.at0,by have:=g.at1;have:=h.at1;omega,Int.le_trans g.n0 h.n0,by have:=g.n1;have:=h.n1;omega,h.ps.trans g.ps,by have:=g.live;have:=h.live;omega,h.len.trans g.len,fun i hi=>(h.els i hi).trans (g.els i hi),by have:=g.ins;have:=h.ins;omega,h.phis.trans g.phis,h.term.trans g.term⟩
theorem Grw.mono (g:Grw b k m m') (h:k≤l):Grw b l m m':=
 ⟨g.at0,by have:=g.at1;omega,g.n0,by have:=g.n1;omega,g.ps,by have:=g.live;omega,g.len,g.els,by have:=g.ins;omega,g.phis,g.term⟩
theorem Grw.took (g:Grw b k m m'):Grw b (k+1) m m'.took:=g.trans ⟨by show _≤m'.at_+1;omega,Nat.le_refl _,Int.le_refl _,by show m'.next≤_;omega,rfl,by show m'.live.length≤_;omega,rfl,fun _ _=>rfl,by show (nth m'.blocks b).ins.length≤_;omega,rfl,rfl⟩
theorem Grw.aJ (g:Grw b k m m'):Grw b (k+1) m m'.aJ:=g.trans ⟨Nat.le_refl _,by show m'.at_≤_;omega,by show _≤m'.next+1;omega,Int.le_refl _,rfl,by show m'.live.length≤_;omega,rfl,fun _ _=>rfl,by show (nth m'.blocks b).ins.length≤_;omega,rfl,rfl⟩
theorem Grw.add {i:InsD} (hb:b<m.blocks.length) (g:Grw b k m m'):Grw b (k+2) m (m'.add b i):=by
 have hb':b<m'.blocks.length:=by rw [g.len];exact hb
 have e:nth (m'.add b i).blocks b={ nth m'.blocks b with ins:=(nth m'.blocks b).ins++[i] }:=by
  show nth (m'.blocks.set b _) b=_
  rw [az hb',if_pos rfl]
 refine g.trans ⟨Nat.le_refl _,by show m'.at_≤_;omega,Int.le_refl _,by show m'.next≤_;omega,rfl,?_,mI,fun j hj=>?_,?_,by rw [e],by rw [e]⟩
 ·show (m'.live++aI i).length≤_
  have h2:(aI i).length≤2:=by
   unfold aI
   repeat' split
   all_goals simp
  rw [List.length_append];omega
 ·show nth (m'.blocks.set b _) j=_
  rcases Nat.lt_or_ge j m'.blocks.length with hl | hl
  ·rw [az hl,if_neg (fun e=>hj e.symm)]
  ·rw [aU (by simpa using hl),aU hl]
 ·rw [e]
  show ((nth m'.blocks b).ins++[i]).length≤_
  rw [List.length_append,List.length_singleton];omega
theorem Grw.constant {n:Int} (hb:b<m.blocks.length) (g:Grw b k m m'):Grw b (k+3) m (m'.constant b n):=g.aJ.add hb
theorem Grw.two {op x y:Int} (hb:b<m.blocks.length) (g:Grw b k m m'):Grw b (k+3) m (m'.two b op x y):=g.aJ.add hb
theorem Grw.cQ (hb:b<m.blocks.length) (g:Grw b k m m'):Grw b (k+10) m (aG s m' b).2:=by
 unfold aG
 repeat' split
 ·exact (g.took.took.constant hb).mono (by omega)
 ·exact (g.took.took.took.took.took.constant hb).mono (by omega)
 ·exact (g.took.took.took).mono (by omega)
theorem Grw.addr (hb:b<m.blocks.length) (g:Grw b k m m'):Grw b (k+30) m (gk s m' b).2:=by
 unfold gk
 simp only
 split
 ·exact (((((g.took.constant hb).took.cQ hb).constant hb).two hb).two hb).mono (by omega)
 ·exact ((g.took.constant hb).took).mono (by omega)
theorem Grw.off (g:Grw b k m m'):Grw b (k+4) m (offS s m').2:=by
 unfold offS
 split
 ·exact g.took.took.took.took
 ·exact g.took.took.mono (by omega)
theorem Grw.memory {st:Bool} (hb:b<m.blocks.length) (g:Grw b k m m'):Grw b (k+60) m (gG s m' b st):=by
 unfold gG
 simp only
 split
 ·exact ((((g.addr hb).off.cQ hb)).add hb).mono (by omega)
 ·exact (((g.addr hb).off.aJ).add hb).mono (by omega)
theorem Grw.bin {op:Int} (hb:b<m.blocks.length) (g:Grw b k m m'):Grw b (k+60) m (binS s m' b op):=by
 unfold binS
 simp only
 split
 ·exact ((((g.cQ hb).cQ hb).took.took.constant hb).two hb).mono (by omega)
 ·exact (((g.cQ hb).cQ hb).took.two hb).mono (by omega)
theorem Grw.div (hb:b<m.blocks.length) (g:Grw b k m m'):Grw b (k+60) m (divS s m' b):=by
 unfold divS
 simp only
 split
 ·exact ((((g.cQ hb).took.constant hb).took.took.constant hb).two hb).mono (by omega)
 ·exact (((g.cQ hb).took.constant hb).took.two hb).mono (by omega)
theorem Grw.args (hb:b<m.blocks.length) {x:List Int × MS} (g:Grw b k m x.2) : ∀ n,Grw b (k+10*n) m (up (fL s b) n x).2
 | 0=>g
 | n+1=>((Grw.args hb g n).cQ hb).mono (by omega)
theorem Grw.call (hb:b<m.blocks.length) (g:Grw b k m m'):Grw b (k+70) m (jY s m' b):=by
 unfold jY
 simp only
 have ht:=dh (s:=s) (at_:=m'.at_) (n:=5) (by decide)
 have g2:=Grw.args (s:=s) hb (x:=([],m'.took)) g.took (aP s m'.at_ 5).toNat
 exact (g2.aJ.took.add hb).mono (by omega)
theorem Grw.fg (hb:b<m.blocks.length) (g:Grw b k m m'):Grw b (k+80) m (bh s b m'):=by
 unfold bh
 simp only
 repeat' split
 ·exact (g.took.bin hb).mono (by omega)
 ·unfold ltuS
  exact (((g.took.cQ hb).cQ hb).two hb).mono (by omega)
 ·exact (g.took.div hb).mono (by omega)
 ·exact (g.took.memory hb).mono (by omega)
 ·exact (g.took.call hb).mono (by omega)
 ·unfold pC
  exact (((g.took.cQ hb).cQ hb).aJ.aJ.add hb).mono (by omega)
 ·exact (g.took.took.took.constant hb).mono (by omega)
theorem Grw.cG (hb:b<m.blocks.length) (g:Grw b k m m') : ∀ n,Grw b (k+80*n) m (up (fun _=>bh s b) n m')
 | 0=>g
 | n+1=>((Grw.cG hb g n).fg hb).mono (by omega)
theorem Grw.yb {to:List Int} (hb:b<m.blocks.length) (g:Grw b k m m'):Grw b (k+40) m (dC s to b m').2:=by
 unfold dC
 simp only
 repeat' split
 ·exact g.took.took.mono (by omega)
 ·exact (g.took.cQ hb).mono (by omega)
 ·exact g.took.mono (by omega)
 ·exact g.mono (by omega)
 ·exact ((((g.cQ hb).took.cQ hb)).aJ.took.add hb).mono (by omega)
 ·exact (g.cQ hb).took.mono (by omega)
 ·exact (((g.cQ hb).constant hb).two hb).mono (by omega)
def MS.f (m:MS):ae:=⟨m.ps,m.blocks⟩
def lZ (s:List Int) (m:MS) (b:Nat):Int:=
 if 1<(aw m.f b).length then aP s m.at_ 4 else if aP s m.at_ 6=0 then 1 else 0
def dg (b:Nat) (m:MS):MS:={ m.aJ with blocks:=m.blocks.set b { nth m.blocks b with phis:=(nth m.blocks b).phis++[⟨m.next,[]⟩] } }
def js (s:List Int) (k:Nat) (x:List Int × MS):List Int × MS:=
 (x.1.set (k+1) (lZ s x.2 (k+1)),up (fun _=>dg (k+1)) (lZ s x.2 (k+1)).toNat x.2.took)
def iL (f:ae) (n:Nat):List BL:=rows (fun a=>fD f (a:Int)) n
def pw (dn:BL) (away:List BL) (b n:Nat):Bool:=up (fun a r=>r&&(decide (a=b)||nth dn a||nth (nth away a) b)) n (!nth dn b)
def gQ (m:MS) (dn:BL) (away:List BL) (b:Nat) (a:Nat) (l:List Int):List Int:=
 if decide (a≠b)&&(!nth dn a||nth (nth away a) b) then l
 else l++(nth m.blocks a).phis.map PhiD.dst++(nth m.blocks a).ins.flatMap aI
def jF (m:MS) (dn:BL) (away:List BL) (b n:Nat):List Int:=up (gQ m dn away b) n (rows (fun i=>(i:Int)) m.ps.toNat)
def eY (s:List Int) (to:List (List Int)) (n:Nat) (dn:BL) (away:List BL) (b:Nat) (m:MS):MS:=
 let m1:MS:={ m with live:=jF m dn away b n }
 mX s (nth to b) b (up (fun _=>bh s b) (aP s m1.at_ 7).toNat m1.took)
def dE (s:List Int) (to:List (List Int)) (n:Nat) (b:Nat) (x:BL × MS):BL × MS:=
 if pw x.1 (iL x.2.f n) b n then (x.1.set b true,eY s to n (x.1.set b true) (iL x.2.f n) b x.2) else x
def b0 (s:List Int) (p:List Int) (k:Nat) (x:List InD × MS):List InD × MS:=
 let b:=(nth p k).toNat
 let l:=gP x.2.f b
 let r:List Int × MS:=if l.length=0 then ([x.2.next],x.2.took.took.constant b (mC s x.2)) else (l,x.2)
 (x.1++[⟨nth p k,nth r.1 (aP s r.2.at_ r.1.length).toNat⟩],r.2.took)
def MS.fJ (m:MS) (b i:Nat) (l:List InD):MS:={ m with blocks:=m.blocks.set b { nth m.blocks b with phis:=(nth m.blocks b).phis.set i { nth (nth m.blocks b).phis i with ins:=l } } }
def phi3 (s:List Int) (b:Nat) (p:List Int) (i:Nat) (m:MS):MS:=(up (b0 s p) p.length ([],m)).2.fJ b i (up (b0 s p) p.length ([],m)).1
end Go.Proofs.Ytbkdlhkoiagbbaa
namespace Go.Proofs.Ytbkdlhkoiagbbaa
open Go Go.Lft
section
variable {s:List Int} {M:Nat} {vs:Value} {W0:View} {h:Heap} {o0:Own} {m:MS} {u:Value} {ds:List Int}
structure Reads (M:Nat) (m:MS) (h:Heap) (vb vl:Value):Prop where
 ps:ah (vw h) ⟨M,2,none⟩=some (.int .i64 m.ps)
 nx:ah (vw h) ⟨M,4,none⟩=some (.int .i64 m.next)
 cb:ah (vw h) ⟨M,3,none⟩=some vb
 cl:ah (vw h) ⟨M,5,none⟩=some vl
 f:Un.ev (vw h) (.ao 2) (.pointer (some ⟨M,2,none⟩))=some (.agg #[.int .i64 m.ps,vb])
 blk:SlRd (vw h) vb m.blocks
 live:SlRd (vw h) vl m.live
theorem Reads.rd {vb vl:Value} (r:Reads M m h vb vl) (hp:I64 m.ps):Rd (vw h) (.agg #[.int .i64 m.ps,vb]) m.f:=⟨_,rfl,[.int .i64 m.ps],[vb],rfl,⟨rfl,hp⟩,vb,rfl,r.blk⟩
theorem Nz.at {α:Type} [Rep α] (n:Nz s M vs W0 h o0 m u ds) {k:Key} (h3:3≤k.1) {e:TypeId} {v:Value} {l:List α} (hk:o0 k=it e v l):SlRd (vw h) v l:=by
 obtain ⟨W,o,g,w,f,sl⟩:=n
 exact w.own.now ((f k h3).trans hk)
end
end Go.Proofs.Ytbkdlhkoiagbbaa
namespace Go.Proofs.Ytbkdlhkoiagbbaa
open Go Go.Lft
theorem Nz.ext {s:List Int} {M:Nat} {vs:Value} {W0:View} {h h':Heap} {o0:Own} {m:MS} {u:Value} {ds:List Int} (n:Nz s M vs W0 h o0 m u ds) (hle:(vw h).le (vw h')):Nz s M vs W0 h' o0 m u ds:=by
 obtain ⟨W,o,g,w,f,sl⟩:=n
 exact ⟨W,o,g,⟨w.own.ext' hle,w.src,w.box⟩,f,sl⟩
structure Sz (n a p i:Nat) (m:MS):Prop where
 at_:m.at_≤a
 n0:0≤m.next
 next:m.next≤a
 live:m.live.length≤a
 ps0:0≤m.ps
 ps1:m.ps≤4
 len:m.blocks.length=n
 phis : ∀ j,(nth m.blocks j).phis.length≤p
 ins : ∀ j,(nth m.blocks j).ins.length≤i
theorem Sz.mono {n a p i a' p' i':Nat} {m:MS} (z:Sz n a p i m) (h1:a≤a') (h2:p≤p') (h3:i≤i'):Sz n a' p' i' m:=
 ⟨Nat.le_trans z.at_ h1,z.n0,by have:=z.next;omega,Nat.le_trans z.live h1,z.ps0,z.ps1,z.len,fun j=>Nat.le_trans (z.phis j) h2,fun j=>Nat.le_trans (z.ins j) h3⟩
theorem Sz.ok {n a p i:Nat} {m:MS} (z:Sz n a p i m) (h:i≤a):m.ok a:=⟨z.at_,z.n0,z.next,z.live,fun j=>Nat.le_trans (z.ins j) h⟩
theorem Sz.took {n a p i:Nat} {m:MS} (z:Sz n a p i m):Sz n (a+1) p i m.took:=⟨by have:=z.at_;show m.at_+1≤_;omega,z.n0,by have:=z.next;show m.next≤_;omega,by have:=z.live;show m.live.length≤_;omega,z.ps0,z.ps1,z.len,z.phis,z.ins⟩
theorem Sz.aE {n a p i:Nat} {m:MS} (z:Sz n a p i m) {b:Nat} {x:BlkD} (h1:x.phis.length≤p) (h2:x.ins.length≤i):Sz n a p i { m with blocks:=m.blocks.set b x }:=by
 refine ⟨z.at_,z.n0,z.next,z.live,z.ps0,z.ps1,by show (m.blocks.set b x).length=_;rw [List.length_set];exact z.len,fun j=>?_,fun j=>?_⟩
 all_goals
  show List.length (α:=_) _≤_
  rcases Nat.lt_or_ge j m.blocks.length with hl | hl
  ·simp only [az hl]
   split
   ·assumption
   ·first | exact z.phis j | exact z.ins j
  ·first
    | (have:=z.phis j;rw [aU hl] at this;rw [aU (by simpa using hl)];exact this)
    | (have:=z.ins j;rw [aU hl] at this;rw [aU (by simpa using hl)];exact this)
theorem Sz.dg {n a p i b:Nat} {m:MS} (z:Sz n a p i m):Sz n (a+1) (p+1) i (dg b m):=by
 have h1:Sz n (a+1) (p+1) i m.aJ:=⟨by have:=z.at_;show m.at_≤_;omega,by have:=z.n0;show 0≤m.next+1;omega,by have:=z.next;show m.next+1≤_;omega,by have:=z.live;show m.live.length≤_;omega,z.ps0,z.ps1,z.len,fun j=>by have:=z.phis j;show (nth m.blocks j).phis.length≤_;omega,z.ins⟩
 exact h1.aE (b:=b) (x:={ nth m.blocks b with phis:=(nth m.blocks b).phis++[⟨m.next,[]⟩] }) (by have:=z.phis b;show ((nth m.blocks b).phis++[_]).length≤_;rw [List.length_append,List.length_singleton];omega) (z.ins b)
theorem Sz.kh {n a p i b:Nat} {m:MS} (z:Sz n a p i m) : ∀ k,Sz n (a+k) (p+k) i (up (fun _=>Go.Proofs.Ytbkdlhkoiagbbaa.dg b) k m)
 | 0=>z
 | k+1=>(Sz.kh z k).dg
section
variable {s:List Int} {M:Nat} {vs:Value} {W0:View} {h:Heap} {o0:Own} {m:MS}
end
end Go.Proofs.Ytbkdlhkoiagbbaa
namespace Go.Proofs.Ytbkdlhkoiagbbaa
open Go Go.Lft
theorem uX {s:List Int} {m:MS} {b:Nat}:0≤lZ s m b∧lZ s m b≤3:=by
 unfold lZ
 have:=dh (s:=s) (at_:=m.at_) (n:=4) (by decide)
 repeat' split
 all_goals omega
end Go.Proofs.Ytbkdlhkoiagbbaa
namespace Go.Proofs.Ytbkdlhkoiagbbaa
open Go Go.Lft
theorem yw {l:List InsD}:(l.flatMap aI).length≤2*l.length:=by
 induction l with
 | nil=>simp
 | cons a l ih=>
  have:(aI a).length≤2:=by
   unfold aI
   repeat' split
   all_goals simp
  simp only [List.flatMap_cons,List.length_append,List.length_cons]
  omega
section
variable {s:List Int} {M:Nat} {vs:Value} {W0:View} {h:Heap} {o0:Own} {m:MS}
theorem xv {n a p i:Nat} (z:Sz n a p i m) {dn:BL} {away:List BL} {b ai:Nat} {l:List Int}:(gQ m dn away b ai l).length≤l.length+p+2*i:=by
 unfold gQ
 split
 ·omega
 ·have h1:=z.phis ai
  have h2:=z.ins ai
  have h3:=yw (l:=(nth m.blocks ai).ins)
  simp only [List.length_append,List.length_map]
  omega
theorem mh {n a p i:Nat} (z:Sz n a p i m) {dn:BL} {away:List BL} {b:Nat} {l:List Int} : ∀ k,(up (gQ m dn away b) k l).length≤l.length+(p+2*i)*k
 | 0=>Nat.le_refl _
 | k+1=>by
  have:=mh z (dn:=dn) (away:=away) (b:=b) (l:=l) k
  have h2:=xv z (dn:=dn) (away:=away) (b:=b) (ai:=k) (l:=up (gQ m dn away b) k l)
  show (gQ m dn away b k (up (gQ m dn away b) k l)).length≤_
  rw [Nat.mul_succ];omega
end
end Go.Proofs.Ytbkdlhkoiagbbaa
namespace Go.Proofs.Ytbkdlhkoiagbbaa
open Go Go.Lft
structure B2 (n a p:Nat) (x:BL × MS):Prop where
 z:Sz n a p 700 x.2
 len:x.1.length=n
 none : ∀ j,j<n→nth x.1 j=false→(nth x.2.blocks j).ins.length=0
theorem wT {n a p:Nat} {m:MS} {dn:BL} {away:List BL} {b:Nat} (z:Sz n a p 700 m) (hn:n≤10) (hp:p≤100):(jF m dn away b n).length≤15100:=by
 have:=mh z (dn:=dn) (away:=away) (b:=b) (l:=rows (fun i=>(i:Int)) m.ps.toNat) n
 rw [sS] at this
 have h2:(p+2*700)*n≤1500*10:=Nat.mul_le_mul (by omega) hn
 have:=z.ps1
 unfold jF
 omega
theorem jK {m:MS} {b j:Nat} {t:de} (hb:b<m.blocks.length):nth (m.dd b t).blocks j=if b=j then { nth m.blocks b with term:=t } else nth m.blocks j:=by
 show nth (m.blocks.set b _) j=_
 rcases Nat.lt_or_ge j m.blocks.length with hl | hl
 ·rw [az hl]
 ·rw [aU (by simpa using hl),aU hl,if_neg (by omega)]
theorem uA {s:List Int} {to:List (List Int)} {n a p b:Nat} {dn:BL} {away:List BL} {m:MS} (z:Sz n a p 700 m) (hb:b<n) (h0:(nth m.blocks b).ins.length=0) (hn:n≤10) (hp:p≤100) (ha:16000≤a) :
  Sz n (a+600) p 700 (eY s to n dn away b m)∧∀ j,j≠b→(nth (eY s to n dn away b m).blocks j).ins=(nth m.blocks j).ins:=by
 have hll:=wT (dn:=dn) (away:=away) (b:=b) z hn hp
 have ht:=dh (s:=s) (at_:=m.at_) (n:=7) (by decide)
 have hbl:b<m.blocks.length:=by rw [z.len];exact hb
 obtain ⟨m1,hm1⟩ : ∃ m1:MS,m1=MS.took { m with live:=jF m dn away b n }:=⟨_,rfl⟩
 have z1:Sz n (a+1) p 700 m1:=by
  rw [hm1]
  exact Sz.took ⟨z.at_,z.n0,z.next,by show (jF m dn away b n).length≤_;omega,z.ps0,z.ps1,z.len,z.phis,z.ins⟩
 have hl1:m1.live.length≤15100:=by rw [hm1];exact hll
 have e1 : ∀ j,nth m1.blocks j=nth m.blocks j:=fun j=>by rw [hm1];rfl
 have hb1:b<m1.blocks.length:=by rw [z1.len];exact hb
 have g:=((Grw.refl (b:=b) (m:=m1)).cG (s:=s) hb1 (aP s m.at_ 7).toNat).yb (s:=s) (to:=nth to b) hb1
 have g:=g.mono (l:=520) (by omega)
 have e:eY s to n dn away b m=mX s (nth to b) b (up (fun _=>bh s b) (aP s m.at_ 7).toNat m1):=by rw [hm1];rfl
 rw [e]
 unfold mX
 generalize dC s (nth to b) b (up (fun _=>bh s b) (aP s m.at_ 7).toNat m1)=r at g
 have hbr:b<r.2.blocks.length:=by rw [g.len];exact hb1
 have hown:=g.ins
 rw [e1,h0] at hown
 refine ⟨⟨?_,?_,?_,?_,?_,?_,?_,fun j=>?_,fun j=>?_⟩,fun j hj=>?_⟩
 ·show r.2.at_≤_;have:=g.at1;have:=z1.at_;omega
 ·show 0≤r.2.next;have:=g.n0;have:=z1.n0;omega
 ·show r.2.next≤_;have:=g.n1;have:=z1.next;omega
 ·show r.2.live.length≤_;have:=g.live;omega
 ·show 0≤r.2.ps;rw [g.ps];exact z1.ps0
 ·show r.2.ps≤4;rw [g.ps];exact z1.ps1
 ·show (r.2.blocks.set b _).length=n;rw [List.length_set,g.len];exact z1.len
 ·rw [jK hbr]
  split
  ·rename_i e;subst e
   show (nth r.2.blocks b).phis.length≤_;rw [g.phis];exact z1.phis b
  ·rename_i e
   rw [g.els j (fun q=>e q.symm)];exact z1.phis j
 ·rw [jK hbr]
  split
  ·rename_i e;subst e
   show (nth r.2.blocks b).ins.length≤_;omega
  ·rename_i e
   rw [g.els j (fun q=>e q.symm)];exact z1.ins j
 ·rw [jK hbr,if_neg (fun q=>hj q.symm),g.els j hj,e1]
theorem vh {s:List Int} {to:List (List Int)} {n a p b:Nat} {x:BL × MS} (q:B2 n a p x) (hb:b<n) (hn:n≤10) (hp:p≤100) (ha:16000≤a) (h0:pw x.1 (iL x.2.f n) b n=true→nth x.1 b=false):B2 n (a+600) p (dE s to n b x):=by
 unfold dE
 split
 ·rename_i hr
  obtain ⟨z2,e2⟩:=uA (s:=s) (to:=to) (dn:=x.1.set b true) (away:=iL x.2.f n) q.z hb (q.none b hb (h0 hr)) hn hp ha
  refine ⟨z2,by show (x.1.set b true).length=n;rw [List.length_set];exact q.len,fun j hj h=>?_⟩
  have h:nth (x.1.set b true) j=false:=h
  rw [az (by rw [q.len];exact hj)] at h
  split at h
  ·cases h
  ·rename_i e
   show (nth (eY _ _ _ _ _ _ _).blocks j).ins.length=0
   rw [e2 j (fun r=>e r.symm)]
   exact q.none j hj h
 ·exact ⟨q.z.mono (by omega) (Nat.le_refl _) (Nat.le_refl _),q.len,q.none⟩
theorem yu {f:Nat→Bool} : ∀ (n:Nat) (r:Bool),up (fun a r=>r&&f a) n r=true→r=true
 | 0,r,h=>h
 | n+1,r,h=>by
  have h:(up (fun a r=>r&&f a) n r&&f n)=true:=h
  simp only [Bool.and_eq_true] at h
  exact yu n r h.1
theorem qx {dn:BL} {away:List BL} {b n:Nat} (h:pw dn away b n=true):nth dn b=false:=by
 unfold pw at h
 have:=yu _ _ h
 simpa using this
section
variable {s:List Int} {M:Nat} {vs:Value} {W0:View} {h:Heap} {o0:Own} {m:MS}
end
end Go.Proofs.Ytbkdlhkoiagbbaa
namespace Go.Proofs.Ytbkdlhkoiagbbaa
open Go Go.Lft
theorem Nx.up {s:List Int} {M:Nat} {vs:Value} {W W0:View} {h:Heap} {o0:Own} {m:MS} (x:Nx s M vs W h o0 m) (hW:W0.le W):Nx s M vs W0 h o0 m:=by
 obtain ⟨W',o,g,w,f⟩:=x
 exact ⟨W',o,View.le_trans hW g,w,f⟩
theorem Nx.re {s:List Int} {M:Nat} {vs:Value} {W:View} {h:Heap} {o0 o0':Own} {m:MS} (x:Nx s M vs W h o0 m) (he : ∀ k,o0' k=o0 k):Nx s M vs W h o0' m:=by
 obtain ⟨W',o,g,w,f⟩:=x
 exact ⟨W',o,g,w,fun k hk=>(f k hk).trans (he k).symm⟩
section
variable {s:List Int} {M:Nat} {vs:Value} {W0:View} {h:Heap} {o0:Own} {m:MS}
end
end Go.Proofs.Ytbkdlhkoiagbbaa
namespace Go.Proofs.Ytbkdlhkoiagbbaa
open Go Go.Lft
structure GdB (x:BlkD):Prop where
 ins : ∀ i∈x.ins,i.args.length≤10
 args:x.term.args.length≤10
 to:x.term.to.length≤1000
 phis : ∀ p∈x.phis,p.ins.length≤1000
def Gd (m:MS):Prop:=∀ j,j<m.blocks.length→GdB (nth m.blocks j)
variable {s:List Int} {m:MS} {b:Nat}
theorem Gd.took (g:Gd m):Gd m.took:=g
theorem Gd.aJ (g:Gd m):Gd m.aJ:=g
theorem Gd.aE (g:Gd m) {x:BlkD} (hx:b<m.blocks.length→GdB x):Gd { m with blocks:=m.blocks.set b x }:=fun j hj=>by
 have hj:j<m.blocks.length:=by simpa using hj
 show GdB (nth (m.blocks.set b x) j)
 rw [az hj]
 split
 ·rename_i e;exact hx (by omega)
 ·exact g j hj
theorem Gd.add (g:Gd m) {i:InsD} (hi:i.args.length≤10):Gd (m.add b i):=by
 have:=g.aE (b:=b) (x:={ nth m.blocks b with ins:=(nth m.blocks b).ins++[i] }) fun hb=>⟨fun j hj=>by
  rcases List.mem_append.1 hj with h | h
  ·exact (g b hb).ins j h
  ·rw [List.mem_singleton] at h;rw [h];exact hi,(g b hb).args,(g b hb).to,(g b hb).phis⟩
 exact this
theorem Gd.constant (g:Gd m) {n:Int}:Gd (m.constant b n):=g.aJ.add (by show 0≤10;omega)
theorem Gd.two (g:Gd m) {op x y:Int}:Gd (m.two b op x y):=g.aJ.add (by show 2≤10;omega)
theorem Gd.aG (g:Gd m):Gd (aG s m b).2:=by
 unfold Go.Proofs.Ytbkdlhkoiagbbaa.aG
 repeat' split
 ·exact g.took.took.constant
 ·exact g.took.took.took.took.took.constant
 ·exact g.took.took.took
theorem Gd.addr (g:Gd m):Gd (gk s m b).2:=by
 unfold gk
 simp only
 split
 ·exact g.took.constant.took.aG.constant.two.two
 ·exact g.took.constant.took
theorem Gd.off (g:Gd m):Gd (offS s m).2:=by
 unfold offS
 split
 ·exact g.took.took.took.took
 ·exact g.took.took
theorem Gd.memory (g:Gd m) {st:Bool}:Gd (gG s m b st):=by
 unfold gG
 simp only
 split
 ·exact g.addr.off.aG.add (by show 2≤10;omega)
 ·exact g.addr.off.aJ.add (by show 1≤10;omega)
theorem Gd.bin (g:Gd m) {op:Int}:Gd (binS s m b op):=by
 unfold binS
 simp only
 split
 ·exact g.aG.aG.took.took.constant.two
 ·exact g.aG.aG.took.two
theorem Gd.div (g:Gd m):Gd (divS s m b):=by
 unfold divS
 simp only
 split
 ·exact g.aG.took.constant.took.took.constant.two
 ·exact g.aG.took.constant.took.two
theorem Gd.args {x:List Int × MS} (g:Gd x.2) : ∀ n,Gd (up (fL s b) n x).2∧(up (fL s b) n x).1.length=x.1.length+n
 | 0=>⟨g,rfl⟩
 | n+1=>⟨(Gd.args g n).1.aG,by show ((up (fL s b) n x).1++[_]).length=_;rw [List.length_append,(Gd.args g n).2,List.length_singleton];omega⟩
theorem Gd.call (g:Gd m):Gd (jY s m b):=by
 unfold jY
 simp only
 have ht:=dh (s:=s) (at_:=m.at_) (n:=5) (by decide)
 obtain ⟨g2,l2⟩:=Gd.args (s:=s) (b:=b) (x:=([],m.took)) g.took (aP s m.at_ 5).toNat
 refine g2.aJ.took.add ?_
 show (up (fL s b) (aP s m.at_ 5).toNat ([],m.took)).1.length≤10
 rw [l2];simp;omega
theorem Gd.fg (g:Gd m):Gd (bh s b m):=by
 unfold bh
 simp only
 repeat' split
 ·exact g.took.bin
 ·unfold ltuS
  exact g.took.aG.aG.two
 ·exact g.took.div
 ·exact g.took.memory
 ·exact g.took.call
 ·unfold pC
  exact g.took.aG.aG.aJ.aJ.add (by show 2≤10;omega)
 ·exact g.took.took.took.constant
theorem Gd.cG (g:Gd m) : ∀ n,Gd (up (fun _=>bh s b) n m)
 | 0=>g
 | n+1=>(Gd.cG g n).fg
theorem Gd.CC (g:Gd m) {to:List Int} (ht:to.length≤1000):Gd (mX s to b m):=by
 have h:Gd (dC s to b m).2∧(dC s to b m).1.args.length≤10∧(dC s to b m).1.to.length≤1000:=by
  unfold dC
  simp only
  repeat' split
  ·exact ⟨g.took.took,by show 0≤10;omega,by show 0≤1000;omega⟩
  ·exact ⟨g.took.aG,by show 1≤10;omega,by show 0≤1000;omega⟩
  ·exact ⟨g.took,by show 0≤10;omega,by show 0≤1000;omega⟩
  ·exact ⟨g,by show 0≤10;omega,ht⟩
  ·exact ⟨g.aG.took.aG.aJ.took.add (by show 2≤10;omega),by show 1≤10;omega,ht⟩
  ·exact ⟨g.aG.took,by show 1≤10;omega,ht⟩
  ·exact ⟨g.aG.constant.two,by show 1≤10;omega,ht⟩
 obtain ⟨h1,h2,h3⟩:=h
 exact h1.aE fun hb=>⟨(h1 b hb).ins,h2,h3,(h1 b hb).phis⟩
theorem Gd.dg (g:Gd m):Gd (Go.Proofs.Ytbkdlhkoiagbbaa.dg b m):=by
 have:=g.aJ.aE (b:=b) (x:={ nth m.blocks b with phis:=(nth m.blocks b).phis++[⟨m.next,[]⟩] }) fun hb=>⟨(g b hb).ins,(g b hb).args,(g b hb).to,fun p hp=>by
  rcases List.mem_append.1 hp with h | h
  ·exact (g b hb).phis p h
  ·rw [List.mem_singleton] at h;rw [h];show 0≤1000;omega⟩
 exact this
theorem Gd.kh (g:Gd m) : ∀ n,Gd (up (fun _=>Go.Proofs.Ytbkdlhkoiagbbaa.dg b) n m)
 | 0=>g
 | n+1=>(Gd.kh g n).dg
theorem Gd.fJ (g:Gd m) {i:Nat} {l:List InD} (hl:l.length≤1000):Gd (m.fJ b i l):=g.aE fun hb=>⟨(g b hb).ins,(g b hb).args,(g b hb).to,fun p hp=>by
 rcases List.mem_or_eq_of_mem_set hp with h | h
 ·exact (g b hb).phis p h
 ·rw [h];exact hl⟩
end Go.Proofs.Ytbkdlhkoiagbbaa
namespace Go.Proofs.Ytbkdlhkoiagbbaa
open Go Go.Lft
structure P3 (n a p i:Nat) (m:MS):Prop where
 z:Sz n a p i m
 g:Gd m
theorem P3.mono {n a p i a' p' i':Nat} {m:MS} (q:P3 n a p i m) (h1:a≤a') (h2:p≤p') (h3:i≤i'):P3 n a' p' i' m:=⟨q.z.mono h1 h2 h3,q.g⟩
theorem Sz.const {n a p i b:Nat} {m:MS} {k:Int} (z:Sz n a p i m):Sz n (a+3) p (i+1) (m.constant b k):=by
 have h1:Sz n (a+3) p (i+1) { m.aJ with live:=m.live++aI (conD m.next k) }:=⟨by have:=z.at_;show m.at_≤_;omega,by have:=z.n0;show 0≤m.next+1;omega,by have:=z.next;show m.next+1≤_;omega,by
  have:=z.live
  show (m.live++[m.next]).length≤_
  rw [List.length_append,List.length_singleton];omega,z.ps0,z.ps1,z.len,z.phis,fun j=>by have:=z.ins j;show (nth m.blocks j).ins.length≤_;omega⟩
 exact h1.aE (b:=b) (x:={ nth m.blocks b with ins:=(nth m.blocks b).ins++[conD m.next k] }) (z.phis b) (by have:=z.ins b;show ((nth m.blocks b).ins++[_]).length≤_;rw [List.length_append,List.length_singleton];omega)
theorem Sz.fJ {n a p i b j:Nat} {m:MS} {l:List InD} (z:Sz n a p i m):Sz n a p i (m.fJ b j l):=
 z.aE (by show ((nth m.blocks b).phis.set j _).length≤_;rw [List.length_set];exact z.phis b) (z.ins b)
def rowS (s:List Int) (b:Nat) (m:MS):List Int × MS:=if (gP m.f b).length=0 then ([m.next],m.took.took.constant b (mC s m)) else (gP m.f b,m)
theorem yC {s:List Int} {b:Nat} {m:MS}:0<(rowS s b m).1.length:=by
 unfold rowS
 split
 ·show 0<1;omega
 ·show 0<(gP m.f b).length;omega
theorem Af {s:List Int} {n a p i b:Nat} {m:MS} (q:P3 n a p i m):P3 n (a+5) p (i+1) (rowS s b m).2:=by
 unfold rowS
 split
 ·exact ⟨(q.z.took.took.const).mono (by omega) (Nat.le_refl _) (Nat.le_refl _),q.g.took.took.constant⟩
 ·exact q.mono (by omega) (Nat.le_refl _) (by omega)
theorem kr {s:List Int} {n a p i:Nat} {pl:List Int} {x:List InD × MS} (q:P3 n a p i x.2) : ∀ k,P3 n (a+6*k) p (i+k) (up (b0 s pl) k x).2∧(up (b0 s pl) k x).1.length=x.1.length+k
 | 0=>⟨q,rfl⟩
 | k+1=>by
  obtain ⟨h1,h2⟩:=kr (pl:=pl) q k
  have h3:=Af (s:=s) (b:=(nth pl k).toNat) h1
  refine ⟨?_,?_⟩
  ·have e:(up (b0 s pl) (k+1) x).2=(rowS s (nth pl k).toNat (up (b0 s pl) k x).2).2.took:=rfl
   rw [e]
   exact ⟨(h3.z.took).mono (by omega) (Nat.le_refl _) (by omega),h3.g.took⟩
  ·have e:(up (b0 s pl) (k+1) x).1=(up (b0 s pl) k x).1++[⟨nth pl k,nth (rowS s (nth pl k).toNat (up (b0 s pl) k x).2).1 (aP s (rowS s (nth pl k).toNat (up (b0 s pl) k x).2).2.at_ (rowS s (nth pl k).toNat (up (b0 s pl) k x).2).1.length).toNat⟩]:=rfl
   rw [e,List.length_append,h2,List.length_singleton];omega
end Go.Proofs.Ytbkdlhkoiagbbaa
namespace Go.Proofs.Ytbkdlhkoiagbbaa
open Go Go.Lft
section
variable {s:List Int} {M:Nat} {vs:Value} {W0:View} {h:Heap} {o0:Own} {m:MS}
theorem Nx.freeze {α:Type} [r:Rep α] {k:Key} {e:TypeId} {v:Value} {l:List α} (x:Nx s M vs W0 h (o0.upd k (it e v l)) m) (h3:3≤k.1) (hk:o0 k=none) : ∃ W',W0.le W'∧Nx s M vs W' h o0 m∧SlRd W' v l:=by
 obtain ⟨W,o,g,w,f⟩:=x
 have hk2:=(f k h3).trans Own.ag
 obtain ⟨w2,sl⟩:=w.own.freeze hk2
 have hWp:=iZ (h:=h) (w.own.av _ _ hk2)
 obtain ⟨vb,vl,lb,bb⟩:=w.box
 refine ⟨_,View.le_trans g hWp,⟨_,_,View.le_refl _,⟨w2,w.src.mono hWp,vb,vl,lb,bb.frame fun q hq=>Own.ab (by rintro rfl;omega)⟩,fun q hq=>?_⟩,sl⟩
 by_cases e2:q=k
 ·rw [e2,Own.ag,hk]
 ·rw [Own.ab e2,f q hq,Own.ab e2]
end
end Go.Proofs.Ytbkdlhkoiagbbaa
namespace Go.Proofs.Ytbkdlhkoiagbbaa
open Go Go.Lft
def Pc (lp:List Int) (m:MS):Prop:=∀ j,((nth m.blocks j).phis.length:Int)=nth lp j
theorem Pc.grw {lp:List Int} {m m':MS} {b k:Nat} (p:Pc lp m) (g:Grw b k m m'):Pc lp m':=fun j=>by
 by_cases e:j=b
 ·subst e;rw [g.phis];exact p j
 ·rw [g.els j e];exact p j
theorem Pc.aE {lp:List Int} {m:MS} {b:Nat} {x:BlkD} (p:Pc lp m) (hx:x.phis.length=(nth m.blocks b).phis.length):Pc lp { m with blocks:=m.blocks.set b x }:=fun j=>by
 show ((nth (m.blocks.set b x) j).phis.length:Int)=_
 rcases Nat.lt_or_ge j m.blocks.length with hl | hl
 ·rw [az hl]
  split
  ·rename_i e;subst e;rw [hx];exact p b
  ·exact p j
 ·rw [aU (by simpa using hl)]
  have:=p j
  rwa [aU hl] at this
theorem Pc.eY {s:List Int} {to:List (List Int)} {n b:Nat} {dn:BL} {away:List BL} {lp:List Int} {m:MS} (p:Pc lp m) (hb:b<m.blocks.length):Pc lp (eY s to n dn away b m):=by
 have p1:Pc lp (MS.took { m with live:=jF m dn away b n }):=p
 have hb1:b<(MS.took { m with live:=jF m dn away b n }).blocks.length:=hb
 have g:=((Grw.refl (b:=b) (m:=MS.took { m with live:=jF m dn away b n })).cG (s:=s) hb1 (aP s m.at_ 7).toNat).yb (s:=s) (to:=nth to b) hb1
 exact (p1.grw g).aE rfl
theorem Pc.dE {s:List Int} {to:List (List Int)} {n b:Nat} {lp:List Int} {x:BL × MS} (p:Pc lp x.2) (hb:b<x.2.blocks.length):Pc lp (dE s to n b x).2:=by
 unfold Go.Proofs.Ytbkdlhkoiagbbaa.dE
 split
 ·exact p.eY hb
 ·exact p
theorem Pc.rowS {s:List Int} {b:Nat} {lp:List Int} {m:MS} (p:Pc lp m) (hb:b<m.blocks.length):Pc lp (rowS s b m).2:=by
 unfold Go.Proofs.Ytbkdlhkoiagbbaa.rowS
 split
 ·have p1:Pc lp m.took.took:=p
  exact p1.grw ((Grw.refl (b:=b) (m:=m.took.took)).constant hb)
 ·exact p
theorem xR {s:List Int} {b:Nat} {m:MS}:(rowS s b m).2.blocks.length=m.blocks.length:=by
 unfold rowS
 split
 ·exact rF
 ·rfl
theorem Pc.kr {s:List Int} {pl:List Int} {lp:List Int} {x:List InD × MS} (p:Pc lp x.2) (hb : ∀ k,k<pl.length→(nth pl k).toNat<x.2.blocks.length) : ∀ k,k≤pl.length→Pc lp (up (b0 s pl) k x).2∧(up (b0 s pl) k x).2.blocks.length=x.2.blocks.length
 | 0,_=>⟨p,rfl⟩
 | k+1,h=>by
  obtain ⟨h1,h2⟩:=Pc.kr (s:=s) p hb k (by omega)
  have e:(up (b0 s pl) (k+1) x).2=(Go.Proofs.Ytbkdlhkoiagbbaa.rowS s (nth pl k).toNat (up (b0 s pl) k x).2).2.took:=rfl
  rw [e]
  exact ⟨h1.rowS (by rw [h2];exact hb k (by omega)),(za).trans (xR.trans h2)⟩
theorem Pc.phi3 {s:List Int} {b j:Nat} {pl:List Int} {lp:List Int} {m:MS} (p:Pc lp m) (hb : ∀ k,k<pl.length→(nth pl k).toNat<m.blocks.length):Pc lp (phi3 s b pl j m)∧(phi3 s b pl j m).blocks.length=m.blocks.length:=by
 obtain ⟨h1,h2⟩:=Pc.kr (s:=s) (pl:=pl) (x:=([],m)) p hb pl.length (Nat.le_refl _)
 exact ⟨h1.aE (by simp),by show (List.set _ _ _).length=_;rw [List.length_set];exact h2⟩
theorem oK {p:Nat→Bool} : ∀ (n:Nat) (v:Int),v∈sift p (fun a=>(a:Int)) n→∃ c:Nat,v=c∧c<n
 | 0,v,h=>by cases h
 | n+1,v,h=>by
  cases hp:p n with
  | true=>
   rw [kt hp] at h
   rcases List.mem_append.1 h with h | h
   ·obtain ⟨c,h1,h2⟩:=oK n v h;exact ⟨c,h1,by omega⟩
   ·rw [List.mem_singleton] at h;exact ⟨n,h,by omega⟩
  | false=>
   rw [jf hp] at h
   obtain ⟨c,h1,h2⟩:=oK n v h;exact ⟨c,h1,by omega⟩
theorem xW {p:Nat→Bool} (n k:Nat) (hk:k<(sift p (fun a=>(a:Int)) n).length) : ∃ c:Nat,nth (sift p (fun a=>(a:Int)) n) k=c∧c<n:=oK n _ (bW hk)
section
variable {s:List Int} {M:Nat} {vs:Value} {W0:View} {h:Heap} {o0:Own} {m:MS}
end
end Go.Proofs.Ytbkdlhkoiagbbaa
namespace Go.Proofs.Ytbkdlhkoiagbbaa
open Go Go.Lft
variable {s:List Int}
theorem Gd.eY {to:List (List Int)} {n b:Nat} {dn:BL} {away:List BL} {m:MS} (g:Gd m) (ht:(nth to b).length≤1000):Gd (eY s to n dn away b m):=by
 have g1:Gd (MS.took { m with live:=jF m dn away b n }):=g
 exact (Gd.cG g1 _).CC ht
theorem Gd.dE {to:List (List Int)} {n b:Nat} {x:BL × MS} (g:Gd x.2) (ht:(nth to b).length≤1000):Gd (dE s to n b x).2:=by
 unfold Go.Proofs.Ytbkdlhkoiagbbaa.dE
 split
 ·exact g.eY ht
 ·exact g
structure M4 (n a p:Nat) (lp:List Int) (x:BL × MS):Prop where
 b2:B2 n a p x
 gd:Gd x.2
 pc:Pc lp x.2
theorem M4.step {to:List (List Int)} {n a p b:Nat} {lp:List Int} {x:BL × MS} (q:M4 n a p lp x) (hb:b<n) (hn:n≤10) (hp:p≤100) (ha:16000≤a) (ht : ∀ j,(nth to j).length≤1000):M4 n (a+600) p lp (dE s to n b x):=
 ⟨vh q.b2 hb hn hp ha fun h=>qx h,q.gd.dE (ht b),q.pc.dE (by rw [q.b2.z.len];exact hb)⟩
theorem M4.blk {to:List (List Int)} {n a p:Nat} {lp:List Int} {x:BL × MS} (q:M4 n a p lp x) (hn:n≤10) (hp:p≤100) (ha:16000≤a) (ht : ∀ j,(nth to j).length≤1000) (k:Nat) (hk:k≤n):M4 n (a+600*k) p lp (up (Go.Proofs.Ytbkdlhkoiagbbaa.dE s to n) k x):=by
 induction k with
 | zero=>exact q
 | succ k ih=>
  have:=(ih (by omega)).step (s:=s) (to:=to) (b:=k) (by omega) hn hp (by omega) ht
  exact ⟨⟨this.b2.z.mono (by omega) (Nat.le_refl _) (Nat.le_refl _),this.b2.len,this.b2.none⟩,this.gd,this.pc⟩
end Go.Proofs.Ytbkdlhkoiagbbaa
namespace Go.Proofs.Ytbkdlhkoiagbbaa
open Go Go.Lft
section
variable {s:List Int} {M:Nat} {vs:Value} {W:View} {h:Heap} {o:Own} {m:MS}
end
structure FnB (o:Own) (vb:Value) (lb:List BlkM) (f:ae):Prop where
 blk:o (0,2)=it T.aD vb lb
 len:lb.length=f.blocks.length
 term : ∀ i,i<f.blocks.length→(nth lb i).term=(nth f.blocks i).term
 phis : ∀ i,i<f.blocks.length→o (1,i)=it T.cH (nth lb i).phis.v (nth f.blocks i).phis
 ins : ∀ i,i<f.blocks.length→o (2,i)=it T.cd (nth lb i).ins.v (nth f.blocks i).ins
theorem yk {H:View} {vb:Value} {lb:List BlkM} {f:ae} (h0:SlRd H vb lb) (hl:lb.length=f.blocks.length) (ht : ∀ i,i<f.blocks.length→(nth lb i).term=(nth f.blocks i).term) (h1 : ∀ i,i<f.blocks.length→SlRd H (nth lb i).phis.v (nth f.blocks i).phis) (h2 : ∀ i,i<f.blocks.length→SlRd H (nth lb i).ins.v (nth f.blocks i).ins):SlRd H vb f.blocks:=by
 refine nZ h0 rfl hl fun i g1 g2 cs hr=>?_
 have:=zn hr (p:=(nth f.blocks i).phis) (i:=(nth f.blocks i).ins) (by have:=h1 i g2;rwa [aj g1] at this) (by have:=h2 i g2;rwa [aj g1] at this)
 have ht:=ht i g2
 rw [aj g1] at ht
 rw [ht] at this
 rw [←aj g2]
 exact this
theorem FnB.rd {W:View} {h:Heap} {o:Own} {vb:Value} {lb:List BlkM} {f:ae} (b:FnB o vb lb f) (w:Owns W h o):SlRd (vw h) vb f.blocks:=
 yk (w.now b.blk) b.len b.term (fun i hi=>w.now (b.phis i hi)) fun i hi=>w.now (b.ins i hi)
theorem FnB.freeze {W:View} {h:Heap} {o o0:Own} {vb:Value} {lb:List BlkM} {f:ae} (b:FnB o vb lb f) (w:Owns W h o) (ho : ∀ k:Key,3≤k.1→o k=o0 k) (ho0 : ∀ k:Key,k.1<3→o0 k=none) : ∃ W',W.le W'∧Owns W' h o0∧SlRd W' vb f.blocks:=by
 obtain ⟨W17,hW17,w17,fr⟩:=w.qc (fun k=>decide (k.1<3))
 refine ⟨W17,hW17,w17.sub fun k i hk=>?_,yk (fr (k:=(0,2)) (by simp) b.blk) b.len b.term (fun i hi=>fr (k:=(1,i)) (by simp) (b.phis i hi)) fun i hi=>fr (k:=(2,i)) (by simp) (b.ins i hi)⟩
 rcases Nat.lt_or_ge k.1 3 with e | e
 ·rw [ho0 k e] at hk;cases hk
 ·have h2:¬k.1<3:=by omega
  simp only [h2,decide_false,Bool.false_eq_true,if_false]
  rw [ho k e];exact hk
end Go.Proofs.Ytbkdlhkoiagbbaa
namespace Go.Proofs.Ytbkdlhkoiagbbaa
open Go Go.Lft
theorem dG {l:List BlkD}:(ofG l).length=l.length:=by simp [ofG]
theorem cC {l:List BlkD} {a b:Int}:ek (ofG l) a b=true↔(0≤a∧a<l.length∧0≤b∧b<l.length)∧b∈(nth l a.toNat).term.to:=by
 rw [cO,dG]
 constructor
 ·rintro ⟨h,hm⟩
  rw [ofG,cm (by omega),mQ] at hm
  exact ⟨h,hm.1⟩
 ·rintro ⟨h,hm⟩
  refine ⟨h,?_⟩
  rw [ofG,cm (by omega),mQ]
  exact ⟨hm,h.2.2.1,h.2.2.2⟩
structure Rb (f:ae) (wo:Int) (s:RSt):Prop where
 ok:ROk f.blocks.length s
 seen : ∀ b:Nat,b<f.blocks.length→(nth s.1 b=true↔(b:Int)∈s.2)
 sound : ∀ x∈s.2,Re (ofG f.blocks) wo x.toNat
theorem CA {f:ae} {wo a:Int} {k:Nat} {s:RSt} (h:Rb f wo s) (h0:0≤a) (h1:a<f.blocks.length) (ha:Re (ofG f.blocks) wo a.toNat) (hk:k<(nth f.blocks a.toNat).term.to.length) :
  Rb f wo (jL wo (nth f.blocks a.toNat).term.to k s)∧s.2 <+: (jL wo (nth f.blocks a.toNat).term.to k s).2∧
   (0≤nth (nth f.blocks a.toNat).term.to k→nth (nth f.blocks a.toNat).term.to k<f.blocks.length→nth (nth f.blocks a.toNat).term.to k≠wo→nth (nth f.blocks a.toNat).term.to k∈(jL wo (nth f.blocks a.toNat).term.to k s).2):=by
 have hok:=zF (wo:=wo) (to:=(nth f.blocks a.toNat).term.to) (k:=k) h.ok
 have hm:=bW hk
 unfold jL at hok ⊢
 generalize hto:(nth f.blocks a.toNat).term.to=to at hm hok ⊢
 split
 ·rename_i hc
  rw [if_pos hc] at hok
  obtain ⟨⟨c1,c2⟩,c3,c4⟩:=hc
  rw [h.ok.len] at c2
  have hb:((nth to k).toNat:Int)=nth to k:=Int.toNat_of_nonneg c1
  refine ⟨⟨hok,fun b hb=>?_,fun x hx=>?_⟩,List.prefix_append _ _,fun _ _ _=>List.mem_append_right _ (List.mem_singleton.2 rfl)⟩
  ·rw [List.mem_append,List.mem_singleton]
   by_cases he:b=(nth to k).toNat
   ·subst he
    rw [az (by rw [h.ok.len];omega),if_pos rfl]
    exact ⟨fun _=>.inr (Int.toNat_of_nonneg c1),fun _=>rfl⟩
   ·rw [az (by rw [h.ok.len];exact hb),if_neg (fun e=>he e.symm),h.seen b hb]
    exact ⟨.inl,fun e=>e.resolve_right (by omega)⟩
  ·rcases List.mem_append.1 hx with hx | hx
   ·exact h.sound x hx
   ·rw [List.mem_singleton.1 hx]
    refine .step ha ?_ (by rw [hb];exact c4)
    rw [cC,hb]
    exact ⟨⟨by omega,by omega,c1,c2⟩,by rw [Int.toNat_natCast,hto];exact hm⟩
 ·rename_i hc
  rw [if_neg hc] at hok
  refine ⟨h,List.prefix_refl _,fun c1 c2 c4=>?_⟩
  have hb:((nth to k).toNat:Int)=nth to k:=Int.toNat_of_nonneg c1
  rw [←hb,←h.seen _ (by omega)]
  cases e:nth s.1 (nth to k).toNat with
  | true=>rfl
  | false=>exact absurd ⟨⟨c1,by rw [h.ok.len];exact c2⟩,e,c4⟩ hc
theorem yf {f:ae} {wo a:Int} {s:RSt} (h:Rb f wo s) (h0:0≤a) (h1:a<f.blocks.length) (ha:Re (ofG f.blocks) wo a.toNat) : ∀ m,m≤(nth f.blocks a.toNat).term.to.length→
  Rb f wo (up (jL wo (nth f.blocks a.toNat).term.to) m s)∧s.2 <+: (up (jL wo (nth f.blocks a.toNat).term.to) m s).2∧
   ∀ k,k<m→0≤nth (nth f.blocks a.toNat).term.to k→nth (nth f.blocks a.toNat).term.to k<f.blocks.length→nth (nth f.blocks a.toNat).term.to k≠wo→nth (nth f.blocks a.toNat).term.to k∈(up (jL wo (nth f.blocks a.toNat).term.to) m s).2
 | 0,_=>⟨h,List.prefix_refl _,fun k hk=>by omega⟩
 | m+1,hm=>by
  obtain ⟨i1,i2,i3⟩:=yf h h0 h1 ha m (by omega)
  obtain ⟨j1,j2,j3⟩:=CA (k:=m) i1 h0 h1 ha (by omega)
  rw [up]
  refine ⟨j1,i2.trans j2,fun k hk c1 c2 c3=>?_⟩
  rcases Nat.lt_or_ge k m with hlt | hge
  ·exact j2.subset (i3 k hlt c1 c2 c3)
  ·have:k=m:=by omega
   subst this;exact j3 c1 c2 c3
structure Rc (f:ae) (wo:Int) (i:Nat) (s:RSt):Prop where
 b:Rb f wo s
 root:wo≠0→0<f.blocks.length→(0:Int)∈s.2
 done : ∀ j,j<i→j<s.2.length→∀ b:Nat,ek (ofG f.blocks) (nth s.2 j) b=true→(b:Int)≠wo→(b:Int)∈s.2
theorem vZ {α:Type} [Inhabited α] {a b:List α} (h:a <+: b) {i:Nat} (hi:i<a.length):nth b i=nth a i:=by
 obtain ⟨t,rfl⟩:=h
 rw [aj (by simp;omega),aj hi,List.getElem_append_left hi]
theorem Ah {f:ae} {wo:Int} {i:Nat} {s:RSt} (h:Rc f wo i s) (hi:i<s.2.length):Rc f wo (i+1) (rK f wo i s)∧s.2 <+: (rK f wo i s).2:=by
 have hm:=bW hi
 obtain ⟨h0,h1⟩:=h.b.ok.rng _ hm
 have hre:=h.b.sound _ hm
 obtain ⟨i1,i2,i3⟩:=yf h.b h0 h1 hre _ (Nat.le_refl _)
 have he:rK f wo i s=up (jL wo (nth f.blocks (nth s.2 i).toNat).term.to) (nth f.blocks (nth s.2 i).toNat).term.to.length s:=rfl
 rw [←he] at i1 i2 i3
 refine ⟨⟨i1,fun a b=>i2.subset (h.root a b),fun j hj hjl b hb hne=>?_⟩,i2⟩
 rcases Nat.lt_or_ge j i with hlt | hge
 ·rw [vZ i2 (by omega)] at hb
  exact i2.subset (h.done j hlt (by omega) b hb hne)
 ·have:j=i:=by omega
  subst this
  rw [vZ i2 hi,cC] at hb
  obtain ⟨⟨_,_,q1,q2⟩,hmem⟩:=hb
  obtain ⟨k,hk,e⟩:=List.getElem_of_mem hmem
  rw [←aj hk] at e
  rw [←e]
  exact i3 k hk (by omega) (by omega) (by rw [e];exact hne)
theorem yM {f:ae} {wo:Int} : ∀ {m i:Nat} {s:RSt},Rc f wo i s→f.blocks.length<i+m→∃ k,Rc f wo k (rchS f wo m i s)∧(rchS f wo m i s).2.length≤k
 | 0,i,s,h,hm=>⟨i,h,by have:=h.b.ok.cnt;rw [rchS];omega⟩
 | m+1,i,s,h,hm=>by
  rw [rchS]
  split
  ·rename_i hi
   exact yM (Ah h hi).1 (by omega)
  ·rename_i hi
   exact ⟨i,h,by omega⟩
theorem AE {f:ae} {wo:Int}:Rc f wo 0 (rch0 f wo):=by
 have hok:=zQ (f:=f) (wo:=wo)
 unfold rch0 at hok ⊢
 split
 ·rename_i hc
  rw [if_pos hc] at hok
  refine ⟨⟨hok,fun b hb=>?_,fun x hx=>?_⟩,fun _ _=>List.mem_singleton.2 rfl,fun j hj=>by omega⟩
  ·rw [az (by simpa using hb),List.mem_singleton]
   split
   ·rename_i e;subst e;simp
   ·rename_i e
    rw [aj (by simpa using hb)]
    simp;omega
  ·rw [List.mem_singleton.1 hx]
   exact .root (by rw [dG];exact hc.2) hc.1
 ·rename_i hc
  rw [if_neg hc] at hok
  refine ⟨⟨hok,fun b hb=>?_,fun x hx=>by cases hx⟩,fun a b=>absurd ⟨a,b⟩ hc,fun j hj=>by omega⟩
  rw [aj (by simpa using hb)]
  simp
theorem dQ {f:ae} {wo:Int} {b:Nat} (hb:b<f.blocks.length):nth (fD f wo) b=true↔Re (ofG f.blocks) wo b:=by
 obtain ⟨k,h,hk⟩:=yM (AE (f:=f) (wo:=wo)) (m:=f.blocks.length+1) (by omega)
 unfold fD
 generalize rchS f wo (f.blocks.length+1) 0 (rch0 f wo)=s at h hk
 rw [h.b.seen b hb]
 constructor
 ·exact fun hm=>by simpa using h.b.sound _ hm
 ·intro hr
  induction hr with
  | root h1 h2=>exact h.root h2 (by rw [←dG];exact h1)
  | @step a b ha he hne ih=>
   have hm:=ih (by have:=(cC.1 he).1;omega)
   obtain ⟨j,hj,e⟩:=List.getElem_of_mem hm
   rw [←aj hj] at e
   exact h.done j (by omega) hj b (by rw [e];exact he) hne
end Go.Proofs.Ytbkdlhkoiagbbaa
namespace Go.Proofs.Ytbkdlhkoiagbbaa
open Go Go.Lft
theorem fb {σ α ε:Type} {f:σ→α→Except ε σ} {a b:List α} {s:σ}:(a++b).foldlM f s=(match a.foldlM f s with | .ok s'=>b.foldlM f s' | .error e=>.error e):=by
 rw [List.foldlM_append]
 cases a.foldlM f s<;>rfl
theorem lv {σ α ε:Type} {f:σ→α→Except ε σ} {a:α} {s:σ}:[a].foldlM f s=f s a:=by
 rw [List.foldlM_cons]
 cases f s a<;>rfl
theorem iF {σ α ε:Type} {g:Nat→σ→Except ε σ} {f:σ→α→Except ε σ} {x:Nat→α} {s:σ} : ∀ {n:Nat},(∀ i s,i<n→g i s=f s (x i))→upE g n s=(rows x n).foldlM f s
 | 0,_=>rfl
 | n+1,h=>by
  have ih:=iF (n:=n) (s:=s) fun i s hi=>h i s (by omega)
  rw [gL,fb,←ih]
  simp only [upE]
  cases upE g n s with
  | ok s'=>
   show g n s'=[x n].foldlM f s'
   rw [lv];exact h n s' (by omega)
  | error e=>rfl
theorem jJ {σ α ε:Type} [Inhabited α] {f:σ→α→Except ε σ} {l:List α} {s:σ}:upE (fun i s=>f s (nth l i)) l.length s=l.foldlM f s:=by
 rw [iF (f:=f) (x:=nth l) fun _ _ _=>rfl]
 congr 1
 refine List.ext_getElem (by simp) fun i h1 h2=>?_
 simp [rows,aj h2]
def gj (f:ae) (m:MW) (t:Th):Except Tr MW:=
 if t.place<0 then allS f.params t.mks t.blk t.place m
 else if t.place<(dN f t).ins.length then insS f.params t.blk (dN f t) t.place.toNat m
 else endS f.blocks.length t.blk (dN f t) m
theorem na {f:ae} {b i:Nat} {m:MW}:gj f m (phiT f b i)=phiS f.params b (nth f.blocks b) i m:=by
 unfold gj
 rw [if_pos (show (phiT f b i).place<0 by show -1-(i:Int)<0;omega)]
 rfl
theorem ni {f:ae} {b i:Nat} {m:MW} (hi:i<(nth f.blocks b).ins.length):gj f m (insT f b i)=insS f.params b (nth f.blocks b) i m:=by
 unfold gj
 rw [if_neg (show ¬(insT f b i).place<0 by show ¬(i:Int)<0;omega),if_pos (show (insT f b i).place<((dN f (insT f b i)).ins.length:Int) by show (i:Int)<((nth f.blocks b).ins.length:Int);omega)]
 rfl
theorem nw {f:ae} {b:Nat} {m:MW}:gj f m (endT f b)=endS f.blocks.length b (nth f.blocks b) m:=by
 unfold gj
 rw [if_neg (show ¬(endT f b).place<0 by show ¬((nth f.blocks b).ins.length:Int)<0;omega),if_neg (show ¬(endT f b).place<((dN f (endT f b)).ins.length:Int) by show ¬((nth f.blocks b).ins.length:Int)<((nth f.blocks b).ins.length:Int);omega)]
 rfl
theorem zq {f:ae} {b:Nat} {m:MW}:blkS f b m=(thB f b).foldlM (gj f) m:=by
 unfold blkS thB
 rw [iF (f:=gj f) (x:=phiT f b) (n:=(nth f.blocks b).phis.length) fun i s hi=>na.symm]
 rw [fb,fb]
 cases (rows (phiT f b) (nth f.blocks b).phis.length).foldlM (gj f) m with
 | error e=>rfl
 | ok m1=>
  simp only
  rw [iF (f:=gj f) (x:=insT f b) (n:=(nth f.blocks b).ins.length) fun i s hi=>(ni hi).symm]
  cases (rows (insT f b) (nth f.blocks b).ins.length).foldlM (gj f) m1 with
  | error e=>rfl
  | ok m2=>
   simp only
   rw [lv]
   exact nw.symm
theorem oA {f:ae} {m:MW}:gT f m=(aM f).foldlM (gj f) m:=by
 have key : ∀ n,upE (blkS f) n m=(thTo f n).foldlM (gj f) m:=by
  intro n
  induction n with
  | zero=>rfl
  | succ n ih=>
   rw [kq,fb,←ih]
   simp only [upE]
   cases upE (blkS f) n m with
   | error e=>rfl
   | ok s=>exact zq
 exact key _
theorem lu {f:ae}:gK f=(aM f).foldlM (fun m t=>eW f t m) (List.replicate 8192 false):=jJ (f:=fun (m:BL) (t:Th)=>eW f t m)
def nI (m:MW) (l:BL):Prop:=l.length=8192∧∀ n:Int,0≤n→n<8192→(m n).isSome=nth l n.toNat
def Alike {α β:Type} (R:α→β→Prop):Except Tr α→Except Tr β→Prop
 | .ok a,.ok b=>R a b
 | .error e,.error e'=>e=e'
 | _,_=>False
theorem l9 {α β γ:Type} {R:α→β→Prop} {F:α→γ→Except Tr α} {G:β→γ→Except Tr β} : ∀ {l:List γ},(∀ t∈l,∀ a b,R a b→Alike R (F a t) (G b t))→∀ {a:α} {b:β},R a b→Alike R (l.foldlM F a) (l.foldlM G b)
 | [],_,a,b,h=>h
 | t::l,hs,a,b,h=>by
  rw [List.foldlM_cons,List.foldlM_cons]
  have:=hs t List.mem_cons_self a b h
  cases e1:F a t with
  | error e=>
   cases e2:G b t with
   | error e'=>rw [e1,e2] at this;exact this
   | ok b'=>rw [e1,e2] at this;exact this.elim
  | ok a'=>
   cases e2:G b t with
   | error e'=>rw [e1,e2] at this;exact this.elim
   | ok b'=>
    rw [e1,e2] at this
    exact l9 (fun t ht=>hs t (List.mem_cons_of_mem _ ht)) this
theorem xq {f:ae} {n:Int}:aN n f.params 8191=!iw f n:=by
 rw [Bool.eq_iff_iff];simp [aN,iw]
theorem vD {α:Type} {p:α→Bool} {l:List α}:l.all (fun n=>!p n)=!l.any p:=by
 induction l with
 | nil=>rfl
 | cons a l ih=>simp [ih]
def fX (t:Th) (m:BL) (n:Int):Except Tr BL:=if nth m n.toNat then .error (12,t.blk,t.place) else .ok (m.set n.toNat true)
theorem xN {f:ae} {t:Th} {m:MW} {l:BL} (h:nI m l) (hp:0≤f.params) (hn : ∀ n∈t.mks,iw f n=false):Alike nI (t.mks.foldlM (lh t.blk t.place) m) (upE (kS t) t.mks.length l):=by
 have e:upE (kS t) t.mks.length l=t.mks.foldlM (fX t) l:=jJ (f:=fX t)
 rw [e]
 refine l9 (fun n hnm m l h=>?_) h
 have hb:=hn n hnm
 simp only [iw,Bool.or_eq_false_iff,decide_eq_false_iff_not] at hb
 have hs:=h.2 n (by omega) (by omega)
 unfold lh fX
 rw [hs]
 cases hc:nth l n.toNat with
 | true=>exact rfl
 | false=>
  refine ⟨by simpa using h.1,fun k h0 h1=>?_⟩
  rw [az (by rw [h.1];omega)]
  simp only [putM]
  by_cases hk:k=n
  ·subst hk;simp
  ·rw [if_neg hk,if_neg (by omega)];exact h.2 k h0 h1
theorem pS {f:ae} {t:Th} {m:MW} {l:BL} (h:nI m l) (hp:0≤f.params) :
  Alike nI (allS f.params t.mks t.blk t.place m) (if t.mks.any (iw f) then .error (11,t.blk,t.place) else upE (kS t) t.mks.length l):=by
 unfold allS
 have e:(t.mks.all fun n=>aN n f.params 8191)=!t.mks.any (iw f):=by
  rw [←vD];congr 1;funext n;exact xq
 rw [e]
 cases hb:t.mks.any (iw f) with
 | true=>exact rfl
 | false=>
  refine xN h hp fun n hn=>?_
  rw [Bool.eq_false_iff]
  intro e2
  rw [Bool.eq_false_iff] at hb
  exact hb (List.any_eq_true.2 ⟨n,hn,e2⟩)
theorem zY {x:InsD}:(aN x.op 1 18&&aN x.args.length (dK x.op).1 (dK x.op).2)=!iq x:=by
 rw [Bool.eq_iff_iff]
 simp only [iq,aN,dK,ml,Bool.and_eq_true,Bool.not_eq_true',Bool.or_eq_false_iff,decide_eq_true_eq,decide_eq_false_iff_not,Bool.not_eq_false']
 by_cases h1:x.op=1
 ·simp [h1]
 by_cases h2:x.op=15
 ·simp [h2];omega
 by_cases h3:x.op=17
 ·simp [h3]
 simp only [h1,h2,h3,if_false,decide_eq_true_eq];omega
theorem AM {f:ae} {n:Int}:aN n 1 ((f.blocks.length:Int)-1)=!pH f n:=by
 rw [Bool.eq_iff_iff];simp [aN,pH];omega
theorem xx {t:de}:jG t=fq t:=by
 unfold jG fq dD
 by_cases h1:t.kind=1
 ·rw [Bool.eq_iff_iff];simp [putM,h1,aN];omega
 by_cases h2:t.kind=2
 ·rw [Bool.eq_iff_iff];simp [putM,h2,aN];omega
 by_cases h3:t.kind=3
 ·rw [Bool.eq_iff_iff];simp [putM,h3,aN];omega
 by_cases h4:t.kind=4
 ·rw [Bool.eq_iff_iff];simp [putM,h4,aN]
 by_cases h5:t.kind=5
 ·rw [Bool.eq_iff_iff];simp [putM,h5,aN]
 simp [putM,h1,h2,h3,h4,h5]
theorem nG {f:ae} {t:Th} {x:Except Tr BL} (h:gu f t=false):ju f t x=x:=by
 unfold ju
 cases x with
 | error e=>rfl
 | ok m=>simp only [h,Bool.false_and];rfl
theorem wU {f:ae} {t:Th} (ht:t∈aM f) (hp:0≤f.params) {m:MW} {l:BL} (h:nI m l):Alike nI (gj f m t) (eW f t l):=by
 obtain ⟨b,hb,ht⟩:=cf.1 ht
 rcases cN.1 ht with ⟨i,hi,rfl⟩ | ⟨i,hi,rfl⟩ | rfl
 ·have e1:il f (phiT f b i)=false:=by simp [il,phiT];omega
  have e2:gu f (phiT f b i)=false:=by
   show decide (-1-(i:Int)=((nth f.blocks b).ins.length:Int))=false
   rw [decide_eq_false_iff_not];omega
  rw [na,eW,e1,e2,nG e2]
  exact pS (t:=phiT f b i) h hp
 ·have e1:il f (insT f b i)=true:=by simp [il,insT,dN];omega
  have e2:gu f (insT f b i)=false:=by
   show decide ((i:Int)=((nth f.blocks b).ins.length:Int))=false
   rw [decide_eq_false_iff_not];omega
  have e3:oo f (insT f b i)=nth (nth f.blocks b).ins i:=by simp [oo,dN,insT]
  rw [ni hi,eW,e1,e2,nG e2,e3,insS,zY]
  cases hb:iq (nth (nth f.blocks b).ins i) with
  | true=>exact rfl
  | false=>exact pS (t:=insT f b i) h hp
 ·have e1:il f (endT f b)=false:=by simp [il,endT,dN]
  have e2:gu f (endT f b)=true:=by simp [gu,endT,dN]
  have e3:dN f (endT f b)=nth f.blocks b:=by simp [dN,endT]
  rw [nw,eW,e1,e2,e3,endS,xx]
  cases hb:fq (nth f.blocks b).term with
  | false=>exact rfl
  | true=>
   have e4:((nth f.blocks b).term.to.all fun t=>aN t 1 ((f.blocks.length:Int)-1))=!(nth f.blocks b).term.to.any (pH f):=by
    rw [←vD];congr 1;funext n;exact AM
   rw [e4]
   show Alike nI _ (ju f (endT f b) (.ok l))
   unfold ju
   rw [e2,e3]
   cases (nth f.blocks b).term.to.any (pH f) with
   | true=>exact rfl
   | false=>exact h
theorem uO {f:ae} (hp:0≤f.params):Alike nI (gT f (fun _=>none)) (gK f):=by
 rw [oA,lu]
 refine l9 (fun t ht m l h=>wU ht hp h) ⟨List.length_replicate ..,fun n h0 h1=>?_⟩
 rw [aj (by rw [List.length_replicate];omega),List.getElem_replicate];rfl
end Go.Proofs.Ytbkdlhkoiagbbaa
