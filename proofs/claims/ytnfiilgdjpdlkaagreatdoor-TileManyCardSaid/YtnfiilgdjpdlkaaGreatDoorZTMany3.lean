/- A part of the proof: Pg, Ph, Hd, He, Hf, Hg, LftO, Hi, Hj, Hk, Oa, LftI, LftL, Ra, Ka, Kd, Ke, Ob, Oc, Od, Oe, Of, Og. -/
import Derived.Test.YtnfiilgdjpdlkaaGreatDoorZTMany2
import Derived.Maps.RangeRun
set_option linter.unusedSimpArgs false
set_option linter.unusedVariables false
namespace Go.Proofs.YtnfiilgdjpdlkaaGreatDoor
open Go Go.Lft
section
open Go Go.Lft Chk
def jU (w:Nat->Nat):Nat->Nat
 | 0=>0
 | n+1=>jU w n+w n
theorem yV {w w':Nat->Nat} : ∀{n:Nat},(∀b,b<n->w' b<=w b)->jU w' n<=jU w n
 | 0,_=>Dy _
 | n+1,h=>Nat.add_le_add (yV fun b hb=>h b (by omega)) (h n (by omega))
theorem yr {w w':Nat->Nat} {c:Nat} : ∀{n:Nat},(∀b,b<n->w' b<=w b)->c<n->w' c<w c->jU w' n<jU w n
 | 0,_,h,_=>by omega
 | n+1,h,hc,hlt=>by
  rcases DA c n with h1 | h1
  ·have:=yr (n:=n) (fun b hb=>h b (by omega)) h1 hlt;have:=h n (by omega);simp only[jU];omega
  obtain rfl:c=n:=by omega
  have:=yV (n:=c) fun b hb=>h b (by omega);simp only[jU];omega
theorem qf {w:Nat->Nat} {m:Nat} : ∀{n:Nat},(∀b,b<n->w b<=m)->jU w n<=n*m
 | 0,_=>by simp[jU]
 | n+1,h=>by
  have:=qf (n:=n) fun b hb=>h b (by omega);have:=h n (by omega)
  rw[jU,D9];omega
section
variable {g:Gr} {f:Nat->Nat} {k:Nat} {out:List Int}
def wt (g:Gr) (out:List Int) (b:Nat):Nat:=if nth out b<0 then g.length else rk g (st out b)
def mu (g:Gr) (out:List Int):Nat:=jU (wt g out) g.length
theorem Good.set (G:Good g f k out) (C:Ch (Rg g) (rk g) (Eg g) f (Dm g)) {c q:Nat} (hR:Rg g c) (hc:c≠0) (hk:rk g c=k) (T:Turn (Rg g) (rk g) (Eg g) (st out) (pd out) c q) (ch:Bool) :
  Good g f (k+1) (setS out ch c q).1/\mu g (setS out ch c q).1<=mu g out/\((setS out ch c q).2=true->ch=true\/mu g (setS out ch c q).1<mu g out)/\((setS out ch c q).2=false->ch=false/\(setS out ch c q).1=out/\st out c=q/\pd out c):=by
 have hlt:=hR.lt;have hol:=G.len;obtain⟨hq,hqn⟩:=G.sw C T.ok;have I:=G.inv.turn C hR hc hk T;by_cases e:nth out c=q
 ·have hs:setS out ch c q=(out,ch):=by simp[setS,e]
  rw[hs];have hst:upd (st out) c q=st out:=by
   funext b;unfold upd;split
   ·rename_i hb;subst hb;simp[st,e]
   rfl
  have hpd:add (pd out) c=pd out:=by
   funext b;refine propext ⟨fun h=>?_,.inr⟩;rcases h with rfl | h
   ·exact⟨by omega,by omega⟩
   exact h
  rw[hst,hpd]at I;exact⟨⟨G.len,G.rng,I⟩,Dy _,.inl,fun h=>⟨h,rfl,by simp[st,e],by omega,by omega⟩⟩
 have hs:setS out ch c q=(out.set c q,true):=by simp[setS,e]
 rw[hs];have hn : ∀b,b<g.length->nth (out.set c q) b=if c=b then(q:Int) else nth out b:=fun b hb=>cg (by omega);have hst:st (out.set c q)=upd (st out) c q:=by
  funext b;unfold upd st;rcases DA b out.length with hb | hb
  ·rw[cg hb];by_cases h:c=b
   ·rw[if_pos h,if_pos h.symm];simp
   rw[if_neg h,if_neg (Ne.symm h)]
  rw[fF (by simpa using hb),fF hb,if_neg (by omega)]
 have hpd:pd (out.set c q)=add (pd out) c:=by
  funext b;refine propext ?_;unfold pd add;rw[Ej];constructor
  ·rintro⟨h1,h2⟩;rw[cg h1]at h2;by_cases h:c=b
   ·exact .inl h.symm
   rw[if_neg h]at h2;exact .inr ⟨h1,h2⟩
  rintro(rfl | ⟨h1,h2⟩)
  ·exact⟨by omega,by rw[cg (by omega),if_pos rfl];omega⟩
  refine⟨h1,?_⟩;rw[cg h1];split
  ·omega
  exact h2
 have hw : ∀b,b<g.length->wt g (out.set c q) b<=wt g out b/\(b=c->wt g (out.set c q) b<wt g out b):=by
  intro b hb;by_cases h:c=b
  ·subst h;have e1:wt g (out.set c q) c=rk g q:=by unfold wt;rw[hn c hb,if_pos rfl,if_neg (by omega),hst];simp[upd]
   have e2:rk g q<wt g out c:=by
    unfold wt;split
    ·exact zW hq
    rename_i h1;have hp:pd out c:=⟨by omega,by omega⟩;rcases G.inv.CE T hp with h2 | h2
    ·exfalso;have:=DI hp.2;unfold st at h2;omega
    exact h2
   omega
  have e1:wt g (out.set c q) b=wt g out b:=by unfold wt st;rw[hn b hb,if_neg h]
  exact⟨by omega,fun e=>absurd e.symm h⟩
 have hmu:mu g (out.set c q)<mu g out:=yr (fun b hb=>(hw b hb).1) hlt ((hw c hlt).2 rfl);refine⟨⟨by simpa using hol,fun b hb=>?_,by rw[hst,hpd];exact I⟩,by show mu g (out.set c q)<=_;omega,fun _=>.inr hmu,fun h=>by cases h⟩;rw[hn b hb];split
 ·right;omega
 exact G.rng b hb
theorem oA (C:Ch (Rg g) (rk g) (Eg g) f (Dm g)) : ∀(l:List Int) (k:Nat) (out:List Int) (ch:Bool),l=(aC g).drop k->1<=k->k<=(aC g).length->Good g f k out->
  ∃out' ch',lz (dR g.length (aC g)) (cy g) g.length l (out,ch)=some (out',ch')/\Good g f (aC g).length out'/\mu g out'<=mu g out/\(ch'=true->ch=true\/mu g out'<mu g out)/\
   (ch'=false->ch=false/\out'=out/\∀c:Nat,(c:Int)∈l->pd out c/\Turn (Rg g) (rk g) (Eg g) (st out) (pd out) c (st out c))
 | [],k,out,ch,hl,_,hk,G=>by
  have hk2:(aC g).length<=k:=by have:=congrArg List.length hl;simp only[Fc,DV]at this;omega
  obtain rfl:k=(aC g).length:=by omega
  exact⟨out,ch,rfl,G,Dy _,.inl,fun h=>⟨h,rfl,by simp⟩⟩
 | b::l,k,out,ch,hl,h1,hk,G=>by
  have hlt:k<(aC g).length:=by have:=congrArg List.length hl;simp only[Ek,DV]at this;omega
  rw[DU hlt]at hl;obtain⟨hb,hl2⟩:=List.cons.inj hl;have hmem:b∈aC g:=by rw[hb];exact Ez _
  have hg:0<g.length:=by have:=lH (g:=g);omega
  have O:=fK hg;have hr:=O.rng b hmem;obtain⟨c,rfl⟩:=Fj hr.1;have hR:Rg g c:=(O.mem c).1 hmem;have hrk:rk g c=k:=by unfold rk;rw[hb,E9 O.nodup]
  have hc0:c≠0:=fun e=>by subst e;rw[om hg]at hrk;omega
  obtain⟨q,h3,T⟩:=wZ G C hR hc0 hrk;rw[lz,if_pos hr,DN];simp only;rw[h3];simp only[D0];obtain⟨g1,g2,g3,g4⟩:=G.set C hR hc0 hrk T ch;have e:setS out ch c q=((setS out ch c q).1,(setS out ch c q).2):=rfl;rw[e];generalize hs1:(setS out ch c q).1=o1 at g1 g2 g3 g4;generalize hs2:(setS out ch c q).2=c1 at g3 g4;obtain⟨out',ch',k1,k2,k3,k4,k5⟩:=oA C l (k+1) o1 c1 hl2 (by omega) (by omega) g1;refine⟨out',ch',k1,k2,by omega,fun h=>?_,fun h=>?_⟩
  ·rcases k4 h with h4 | h4
   ·rcases g3 h4 with h5 | h5
    ·exact .inl h5
    exact .inr (by omega)
   exact .inr (by omega)
  obtain⟨h4,rfl,h6⟩:=k5 h;obtain⟨h7,rfl,h8,h9⟩:=g4 h4;refine⟨h7,rfl,fun x hx=>?_⟩;rcases DL.1 hx with hx | hx
  ·obtain rfl:x=c:=by omega
   exact⟨h9,h8▸T⟩
  exact h6 x hx
theorem Good.one(hg:0<g.length)(G:Good g f 0 out):Good g f 1 out:=by have I:=G.inv;have h0 : ∀b,Rg g b->b≠0->¬rk g b<1:=fun b hR hb h=>hb (uJ hR (.root hg (by decide)) (by rw[om hg];omega));exact⟨G.len,G.rng,⟨I.pr,fun b hR hb h=>absurd h (h0 b hR hb),I.fok,I.K,fun b hb y hy _=>I.FP b hb y hy (by omega),fun b hb h=>absurd h (h0 b (I.pr b hb).1 (I.pr b hb).2.1),I.S⟩⟩
structure jK (g:Gr) (f:Nat->Nat) (l:List Int):Prop where
 good:Good g f (aC g).length l
 turn : ∀c,Rg g c->c≠0->pd l c/\Turn (Rg g) (rk g) (Eg g) (st l) (pd l) c (st l c)
theorem qw (hg:0<g.length) (C:Ch (Rg g) (rk g) (Eg g) f (Dm g)) : ∀(fuel:Nat) (out:List Int),Good g f 0 out->mu g out<fuel->
  ∃l,ja (dR g.length (aC g)) (cy g) g.length ((aC g).drop (min 1 (aC g).length)) fuel out=some l/\jK g f l
 | 0,_,_,h=>by omega
 | fuel+1,out,G,h=>by
  have O:=fK hg;have hlen:0<(aC g).length:=by
   rcases Fh (aC g).length with h | h
   ·have:=O.head;rw[DR h]at this;cases this
   exact h
  have hm:min 1 (aC g).length=1:=by omega
  rw[ja,hm];obtain⟨out',ch',k1,k2,k3,k4,k5⟩:=oA C ((aC g).drop 1) 1 out false rfl (Dy _) hlen (G.one hg);rw[k1];simp only[D0];cases ch' with
  | true=>rw[if_pos rfl];have:=qw hg C fuel out' ⟨k2.len,k2.rng,k2.inv.again fun b hb=>wb hb⟩ (by rcases k4 rfl with h1 | h1;cases h1;omega);rwa [hm]at this
  | false=>
   rw[if_neg (by simp)];obtain⟨_,rfl,h6⟩:=k5 rfl;refine⟨_,rfl,k2,fun c hR hc=>h6 c ?_⟩;have hmem:=(O.mem c).2 hR;obtain⟨i,hi,e⟩:=DO hmem;have hi0:i≠0:=fun h0=>by subst h0;have:=O.head;rw[Ee hi]at this;have:=Option.some.inj this;omega
   rw[<-e];refine List.mem_iff_getElem.2 ⟨i-1,by rw[DV];omega,?_⟩;rw[Fm];congr 1;omega
theorem pY(hg:0<g.length): ∃f,Ch (Rg g) (rk g) (Eg g) f (Dm g)/\∃l,pT g (g.length*g.length+1)=some l/\jK g f l:=by
 obtain⟨f,hf⟩:=zP hg;have C:=Cm hg hf;refine⟨f,C,?_⟩;refine qw hg C _ _ ⟨by simp,fun b hb=>.inl (aB hb),?_⟩ ?_
 ·have:pd (List.replicate g.length (-1))=fun _=>False:=by funext b;refine propext ⟨fun⟨h1,h2⟩=>?_,fun h=>h.elim⟩;rw[aB (by simpa using h1)]at h2;omega
  rw[this];exact Inv.start
 have:=qf (w:=wt g (List.replicate g.length (-1))) (m:=g.length) (n:=g.length) fun b hb=>by unfold wt;rw[aB hb,if_pos (by omega)];exact Dy _
 unfold mu;omega
theorem jK.anc {l:List Int} (I:jK g f l) (C:Ch (Rg g) (rk g) (Eg g) f (Dm g)) {x b:Nat} (hb:Rg g b):Anc (st l) x b↔Dm g x b:=by
 have hok : ∀b,Rg g b->Ok (pd l) b:=fun b h=>by
  by_cases e:b=0
  ·exact .inl e
  exact .inr (I.turn b h e).1
 constructor
 ·intro h;have hx:=(I.good.sw C (I.good.inv.anc h (hok b hb)).1).1;refine ko.2 ⟨hx,hb,fun hre=>?_⟩;have key : ∀b,Re g x b->¬Anc (st l) x b:=by
   intro b hre;induction hre with
   | root h1 h2=>intro h;have:=mK.1 h;omega
   | step ha he hne ih=>
    rename_i a b;intro h;by_cases e:b=0
    ·subst e;have:=mK.1 h;omega
    have hRb:Rg g b:=.step ha.all he (by omega);have h3:=((ju e).1 h).resolve_left (by omega);exact ih (((I.turn b hRb e).2.q x).1 h3 a he ha.all (hok a ha.all))
  exact key b hre h
 intro h;exact I.good.inv.dom C (hok b hb) h
end
end
section
open Go Go.Lft Chk
theorem wk{p:Nat->Bool}{n:Nat}:nS p n=true↔∀i,i<n->p i=true:=by
 unfold nS;induction n with
 | zero=>simp[up]
 | succ n ih=>
  rw[up,wO,DC,ih];constructor
  ·rintro⟨h1,h2⟩ i hi;rcases DA i n with h | h
   ·exact h1 i h
   obtain rfl:i=n:=by omega
   exact h2
  intro h;exact⟨fun i hi=>h i (by omega),h n (by omega)⟩
section
variable {g:Gr} {f:Nat->Nat} {l:List Int}
theorem jK.none(I:jK g f l){b:Nat}(hb:b<g.length)(h:¬Rg g b\/b=0):nth l b=-1:=by
 rcases I.good.rng b hb with h1 | h1
 ·exact h1
 exfalso;have:=I.good.inv.pr b ⟨by rw[I.good.len];exact hb,h1.1⟩;rcases h with h | h
 ·exact h this.1
 exact this.2.1 h
theorem xu{a:Int}(ha:0<=a): ∀k,jP l a k (-1)=false
 | 0=>rfl
 | k+1=>by rw[jP,if_neg (by omega),if_pos (.inl (by omega))]
theorem oV (I:jK g f l) (C:Ch (Rg g) (rk g) (Eg g) f (Dm g)) {a:Nat} : ∀(k b:Nat),Rg g b->rk g b<k->(jP l a k b=true↔Anc (st l) a b)
 | 0,b,_,h=>by omega
 | k+1,b,hb,h=>by
  have hlt:=hb.lt;have hll:=I.good.len;rw[jP];by_cases e:(b:Int)=a
  ·rw[if_pos e];have:a=b:=by omega
   subst this;exact⟨fun _=>.self,fun _=>rfl⟩
  rw[if_neg e,if_neg (by omega),DN];by_cases h0:b=0
  ·subst h0;rw[I.none hlt (.inr rfl),xu (by omega),mK];constructor
   ·intro h;cases h
   intro h;omega
  obtain⟨hp,_⟩:=I.turn b hb h0;obtain⟨h1,h2,h3,h4⟩:=I.good.inv.pr b hp;have e2:nth l b=((st l b:Nat):Int):=(DI hp.2).symm;rw[e2,oV I C k (st l b) (I.good.inv.okR C h3) (by omega),ju h0];exact⟨.inr,fun h=>h.resolve_left (by omega)⟩
theorem mA(I:jK g f l)(C:Ch (Rg g) (rk g) (Eg g) f (Dm g)){a b:Nat}(ha:a<g.length)(hb:Rg g b):cY l a b=domC g a b:=by have hlt:=hb.lt;have hll:=I.good.len;rw[cY,decide_eq_true (by omega),ET,DQ,oV I C _ _ hb (by have:=zW hb;omega),I.anc C hb];rfl
end
end
theorem yj{l:List Int}{x:Int}{v:Value}{h:Heap}(hl:SlRd (vw h) v l):aj Tryz.prog N.slices_Index_int #[v,.int .i64 x] h (fun u h'=>(∃r:Int,u = .int .i64 r/\(0<=r↔x∈l))/\h'=h):=by
 refine ah (args:=[v,.int .i64 x]) follows F.slices_Index_int E.slices_Index_int (Dv (by kernel_rfl)) fun K hK=>?_;have bl:=hl.bound;simp[L.slices_Index_int,hl.len];refine ao [0,1,7,8] (fun(_:Unit) i=>[v,.int .i64 x,.int .i64 l.length,.int .i64 i]) (fun _ i h1=>h1=h/\∀j,j<i->nth l j≠x) l.length ()
  rfl (by omega) rfl ⟨rfl,fun j hj=>by omega⟩ (fun _ _=>rfl) (fun v i h1 hk m=>by simp) ?_ ?_
 ·rintro _ i h hlt ⟨rfl,hpre⟩ K2 hK2;simp(disch:=omega)[hl.idx1 rfl,hl.int (View.le_refl _)];refine⟨fun e=>hK _ _ ⟨⟨i,rfl,by simp;rw[e];exact bT hlt⟩,rfl⟩,fun e=>hK2 () _ _ rfl rfl ⟨rfl,fun j hj=>?_⟩⟩;rcases DA j i with h | h
  ·exact hpre j h
  have:j=i:=by omega
  subst this;exact fun e2=>e e2.symm
 rintro _ h ⟨rfl,hpre⟩;simp;refine hK _ _ ⟨⟨-1,rfl,by simp;intro hm;obtain⟨j,hj,e⟩:=DO hm;exact hpre j hj (by rw[aq hj];exact e)⟩,rfl⟩
theorem nG{l:List Int}{x:Int}{v:Value}{h:Heap}(hl:SlRd (vw h) v l):aj Tryz.prog N.slices_Contains_int #[v,.int .i64 x] h (fun u h'=>u = .bool (l.contains x)/\h'=h):=by refine ah (args:=[v,.int .i64 x]) follows F.slices_Contains_int E.slices_Contains_int (Dv (by kernel_rfl)) fun K hK=>?_;simp[L.slices_Contains_int];refine af (by kernel_rfl) (yj hl) ?_;rintro _ _ ⟨⟨r,rfl,hr⟩,rfl⟩;simp;exact hK _ _ ⟨by simp[<-hr],rfl⟩
def ofG (l:List BlkD):Gr:=rows (fun i=>gI (nth l i).term.to l.length) l.length
theorem uN{l:List BlkD}{v:Value}{p:Int}{h:Heap}(hv:SlRd (vw h) v l)(hl:l.length<=1000000)(hs : ∀i,i<l.length->(nth l i).term.to.length<=1000000):
  aj Tryz.prog N.eQ #[.agg #[.int .i64 p,v]] h (fun u h'=>(vw h).le (vw h')/\SlRd (fresh h h') u (ofG l)):=by
 refine ah (args:=[.agg #[.int .i64 p,v]]) follows F.eQ E.eQ (Dv (by kernel_rfl)) fun K hK=>?_;obtain⟨hvc,hvo⟩:=hv.cells;simp[L.eQ];refine cS (v:=.agg #[.int .i64 p,v]) (by simp) ?_;have hle1:=bG h (.cells (Value.agg #[.int .i64 p,v]).cells T.ig);have hc1:ag (vw (h.push (.cells (Value.agg #[.int .i64 p,v]).cells T.ig))) ⟨h.size,1,none⟩=some v:=bS (c:=#[.int .i64 p,v]) (T:=T.ig) (fz:=(0,0)) (by simp[vw,Value.cells]) rfl;generalize h.push (.cells (Value.agg #[.int .i64 p,v]).cells T.ig)=h1 at hle1 hc1;have hv1:=hv.mono hle1;simp[hc1,hv1.len];refine Mine.made (α:=List Int) (V:=nothing) (W:=nothing) (h0:=h1) (n:=l.length) (d:=[]) El.fZ (View.le_refl _) (fun _ _ h=>by cases h) (Old.nothing _ _) (by simp<;>rfl) (by simp<;>rfl) yl (by omega) (by omega) fun o h2 m hle2 _=>?_;have hc2:=ab hle2 hc1
 have hv2:=hv1.mono hle2;simp[hc2,hv2.len];refine ao [1,3,11,12,13] (fun(_:View) k=>[.pointer (some ⟨h.size,0,none⟩),o,v,.int .i64 l.length,.int .i64 k]) (fun W k h3=>Mine nothing h1 h3 W T.ck o (rows (fun i=>gI (nth l i).term.to l.length) k++List.replicate (l.length-k) [])) l.length nothing
  rfl (by omega) rfl m (fun _ _=>rfl) (fun v k h1 hk m=>by simp) ?_ ?_
 ·rintro W a h3 hlta m K2 hK2;have hle3:=m.old;have hc3:=ab hle3 hc1;have hv3:=hv1.mono hle3;obtain⟨u,hu1,hu2⟩:=hv3.wh rfl (N:=6) rfl hlta;have hal:=hs a hlta;have hl5:(rows (fun i=>gI (nth l i).term.to l.length) a++List.replicate (l.length-a) ([]:List Int)).length=l.length:=by simp;omega
  refine aa fun z hz=>?_;simp(disch:=omega)[hv3.idxn (N:=6) rfl,hu1 _ (View.le_refl _)];refine dc (z:=.agg #[.slice none 0 0,.slice none 0 0,.int .i64 0,.slice none 0 0,.slice none 0 0,.int .i32 0]) (by kernel_rfl) rfl (by kernel_rfl) hu2 (fun _=>by simp) (fun _=>by simp) fun h4 hle4 hsz4 hat=>?_;obtain⟨vp,vi,va,vt,bp,bi,bk,ba,bt⟩:=gS (hat (vw h4) hle4 rfl);have hc4:=ab hle4 hc3;have hv4:=hv3.mono hle4;subst hz;simp[bt.1,hc4,hv4.len];refine af (by kernel_rfl) (wJ bt.2 (by omega)) ?_;rintro r h5 ⟨W',mr⟩;have m5:=(m.ext' hle4).ext mr.old;have hr:=mr.fresh.mono (lM W _ _);simp(disch:=omega)[m5.now.idx1 rfl];refine m5.put1 (α:=List Int) (i:=a) (by kernel_rfl) rfl (by simp) (by simp<;>rfl) (by omega) (dG.2 hr) fun h6 m6=>hK2 (grow W h4 h5) _ _ rfl rfl ?_;rw[mf (x:=fun i=>gI (nth l i).term.to l.length) hlta]at m6;exact m6
 rintro W h3 m;simp at m;simp;exact hK _ _ ⟨View.le_trans hle1 m.old,m.fresh.mono (vz hle1)⟩
def gO (w:Int × Int) (idom:List Int) (blk at_:Int):Bool:=(decide (w.1=blk)&&(decide (w.2<at_)||decide (w.2<0)))||(!decide (w.1=blk)&&cY idom w.1 blk)
def useS (ps:Int) (m:MW) (idom:List Int) (v blk place at_ told:Int):Except Tr Unit:=
 if 0<=v/\v<ps then .ok () else match m v with
  | none=>.error (13,told,place)
  | some w=>if gO w idom blk at_ then .ok () else .error (13,told,place)
theorem vH{Kb r:Nat}{vb vd:Value}{f:ae}{m:MW}{idom:List Int}{h:Heap}{p5 p6:Addr}{v blk place at_ told:Int}(k:Lk h Kb r vb f m)(h5:ag (vw h) p5=some (.pointer (some ⟨Kb,0,none⟩)))(h6:ag (vw h) p6=some vd)(hd:SlRd (vw h) vd idom):
  eT Tryz.prog N.au #[.int .i64 v,.int .i64 blk,.int .i64 place,.int .i64 at_,.int .i64 told,.pointer (some p5),.pointer (some p6)] h (fun _ h'=>useS f.params m idom v blk place at_ told = .ok ()/\(vw h).le (vw h'))
   (fun ch h'=>∃t,useS f.params m idom v blk place at_ told = .error t/\ch=trV t/\(vw h).le (vw h')):=by
 refine eP (args:=[.int .i64 v,.int .i64 blk,.int .i64 place,.int .i64 at_,.int .i64 told,.pointer (some p5),.pointer (some p6)]) follows F.au E.au (Dv (by kernel_rfl)) fun K Kp hK hKp=>?_;dsimp only[L.au];by_cases hp:0<=v/\v<f.params
 ·simp[h5,ab bK k.c0,hp];exact hK _ _ ⟨by simp[useS,hp],View.le_refl _⟩
 have hu:useS f.params m idom v blk place at_ told=match m v with
   | none=>.error (13,told,place)
   | some w=>if gO w idom blk at_ then .ok () else .error (13,told,place):=by rw[useS,if_neg hp]
 rw[hu]at hK hKp;refine aa fun z hz=>?_;have hc:(decide (0<=v)&&decide (v<f.params))=false:=by rw[EY];intro e;exact hp (by simpa using e)
 simp[h5,ab bK k.c0,hc];subst hz;refine aa fun z hz=>?_;simp[h5,ab bK k.c2];refine iw (z:=.agg #[.int .i64 0,.int .i64 0]) U.dN U.int (by kernel_rfl) (by simp<;>rfl) (by simp<;>rfl) dz k.map ?_;have cellsW:((mapE encW m (.int .i64 v))).getD (.agg #[.int .i64 0,.int .i64 0])=encW ((m v).getD (0,0)):=by rw[ke];cases m v<;>rfl
 have isW:(mapE encW m (.int .i64 v)).isSome=(m v).isSome:=by rw[ke];cases m v<;>rfl
 rw[cellsW,isW];simp;refine gp (n:=2) (v:=encW ((m v).getD (0,0))) (z:=.agg #[.int .i64 0,.int .i64 0]) (by kernel_rfl) rfl (by kernel_rfl) rfl (by simp[encW,Value.oneCell']) (fun _=>by simp) (fun _=>by simp) fun h3 hle3 hsz3 hb3=>?_;have d0:ag (vw h3) ⟨h.size,0,none⟩=some (.int .i64 ((m v).getD (0,0)).1):=bS (show vw h3 h.size=_ from hb3) rfl;have d1:ag (vw h3) ⟨h.size,1,none⟩=some (.int .i64 ((m v).getD (0,0)).2):=bS (show vw h3 h.size=_ from hb3) rfl;have h63:=ab hle3 h6;have hd3:=hd.mono hle3;generalize h.size=B at d0 d1;subst hz;have fin : ∀(ok:Bool) (h4:Heap) (ρ:Env) (z:LC),(vw h).le (vw h4)->(∀w,m v=some w->ok=gO w idom blk at_)->(m v=none->ok=false)->z = .reg false (.loud [65,66,67] [] [(65,.tmp 13),(66,.tmp 4),(67,.tmp 2)] none [] false (.call ⟨.value (.func N.dv),#[.tmp 65,.const (.int .i64 13),.tmp 66,.tmp 67],#[T.bool,T.jg,T.int,T.int]⟩) 0 (some 68) false (.fin [] [] []))->
   Lft.look ρ 13=some (.bool ok)->Lft.look ρ 4=some (.int .i64 told)->Lft.look ρ 2=some (.int .i64 place)->@LC.wp (ppOf Kp) Tryz.prog z (@kv [] K) ρ h4:=by
  rintro ok h4 ρ _ hle4 hs hn rfl e13 e4 e2;simp[e13,e4,e2];refine cK (by kernel_rfl) eG ?_ ?_
  ·rintro _ _ ⟨e,rfl⟩;refine hK _ _ ⟨?_,hle4⟩;cases hm:m v with
   | none=>rw[hn hm]at e;cases e
   | some w=>simp only;rw[if_pos (by rw[<-hs w hm];exact e)]
  rintro _ _ ⟨e,rfl,rfl⟩;refine⟨.inl rfl,hKp _ _ ⟨_,?_,rfl,hle4⟩⟩;cases hm:m v with
  | none=>rfl
  | some w=>simp only;rw[if_neg (by rw[<-hs w hm,e];simp)]
 refine aa fun z hz=>?_;cases hm:m v with
 | none=>rw[hm]at d0 d1;simp[d0,d1];refine fin false _ _ _ hle3 (fun w hw=>by rw[hm]at hw;cases hw) (fun _=>rfl) hz ?_ ?_ ?_<;>simp
 | some w=>
  rw[hm]at d0 d1;simp at d0 d1;by_cases c1:w.1=blk
  ·by_cases c2:w.2<at_
   ·simp[d0,d1,c1,c2];refine fin true _ _ _ hle3 (fun w' hw=>by rw[hm]at hw;cases hw;simp[gO,c1,c2]) (fun e=>by simp[hm]at e) hz ?_ ?_ ?_<;>simp
   by_cases c3:w.2<0
   ·simp[d0,d1,c1,c2,c3];refine fin true _ _ _ hle3 (fun w' hw=>by rw[hm]at hw;cases hw;simp[gO,c1,c2,c3]) (fun e=>by simp[hm]at e) hz ?_ ?_ ?_<;>simp
   simp[d0,d1,c1,c2,c3];refine fin false _ _ _ hle3 (fun w' hw=>by rw[hm]at hw;cases hw;simp[gO,c1,c2,c3]) (fun e=>by simp[hm]at e) hz ?_ ?_ ?_<;>simp
  simp[d0,d1,c1,h63];refine af (by kernel_rfl) (qV hd3) ?_;rintro _ h4 ⟨rfl,hle4⟩;refine fin _ _ _ _ (View.le_trans hle3 hle4) (fun w' hw=>by rw[hm]at hw;cases hw;simp[gO,c1];rfl) (fun e=>by simp[hm]at e) hz ?_ ?_ ?_<;>simp
def gB (x:PhiD) (row:List Int) (b:Nat):Bool:=decide (0<b)&&decide ((x.ins.length:Int)=(row.length:Int))
def qg (x:PhiD) (row:List Int) (j:Nat):Bool:=decide ((nth x.ins j).frm=nth row j)
def tf (x:PhiD) (row:List Int) (b:Nat):Bool:=gB x row b&&nS (qg x row) x.ins.length
def uAll (g:Nat->Except Tr Unit) (n:Nat):Except Tr Unit:=upE (fun i _=>g i) n ()
def phiU (f:ae) (m:MW) (idom:List Int) (preds:Gr) (b i:Nat):Except Tr Unit:=
 let x:=nth (nth f.blocks b).phis i
 if tf x (nth preds b) b then uAll (fun j=>useS f.params m idom (nth x.ins j).val (nth x.ins j).frm (-1-i) (nth f.blocks (nth x.ins j).frm.toNat).ins.length b) x.ins.length else .error (16,b,-1-i)
def insU (f:ae) (m:MW) (idom:List Int) (b i:Nat):Except Tr Unit:=
 uAll (fun j=>useS f.params m idom (nth (nth (nth f.blocks b).ins i).args j) b i i b) (nth (nth f.blocks b).ins i).args.length
def endU (f:ae) (m:MW) (idom:List Int) (b:Nat):Except Tr Unit:=
 uAll (fun j=>useS f.params m idom (nth (nth f.blocks b).term.args j) b (nth f.blocks b).ins.length (nth f.blocks b).ins.length b) (nth f.blocks b).term.args.length
def andE (x y:Except Tr Unit):Except Tr Unit:=match x with | .ok _=>y | .error t=>.error t
def blkU (f:ae) (m:MW) (idom:List Int) (preds:Gr) (b:Nat):Except Tr Unit:=
 andE (uAll (phiU f m idom preds b) (nth f.blocks b).phis.length) (andE (uAll (insU f m idom b) (nth f.blocks b).ins.length) (endU f m idom b))
def na (f:ae) (b:Nat):Except Tr Unit:=if decide ((b:Int)∈aC (ofG f.blocks)) then .ok () else .error (15,b,0)
def mD (f:ae) (m:MW) (idom:List Int):Except Tr Unit:=
 andE (uAll (na f) f.blocks.length) (uAll (blkU f m idom (cy (ofG f.blocks))) f.blocks.length)
theorem ji{g:Nat->Except Tr Unit}{n k:Nat}{t:Tr}(h:uAll g k = .ok ())(hk:k<n)(he:g k = .error t):uAll g n = .error t:=q5 h hk he
theorem gg{g:Nat->Except Tr Unit}{k:Nat}(h:uAll g k = .ok ()):uAll g (k+1)=g k:=iY h
theorem y5{H:View}{B:Nat}{u v:Value}(h0:ag H ⟨B,0,none⟩=some u)(h1:ag H ⟨B,1,none⟩=some v):Un.ev H (.ak 2) (.pointer (some ⟨B,0,none⟩))=some (.agg #[u,v]):=by simp[Un.ev,vP,cI,h0,h1]
theorem A4{l:List BlkD}(hl:l.length<=1000000)(hs : ∀i,i<l.length->(nth l i).term.to.length<=1000000):Sm (ofG l):=by
 have hlen:(ofG l).length=l.length:=by simp[ofG]
 refine⟨by omega,fun i hi=>?_⟩;rw[hlen]at hi;rw[ofG,eu hi];exact DW qa (hs i hi)
theorem z6{Kb r:Nat}{vb:Value}{f:ae}{m:MW}{idom:List Int}{fuel:Nat}{h:Heap}(k:Lk h Kb r vb f m)(hn:f.blocks.length<=1000000)(hto : ∀i,i<f.blocks.length->(nth f.blocks i).term.to.length<=1000000)(hd:pT (ofG f.blocks) fuel=some idom):
  eT Tryz.prog N.ai #[.pointer (some ⟨Kb,0,none⟩)] h (fun _ h'=>mD f m idom = .ok ()/\(vw h).le (vw h')) (fun ch h'=>∃t,mD f m idom = .error t/\ch=trV t/\(vw h).le (vw h')):=by
 refine eP (args:=[.pointer (some ⟨Kb,0,none⟩)]) follows F.ai E.ai (Dv (by kernel_rfl)) fun K Kp hK hKp=>?_;have hbb:=k.rb.bound;have hsm:=A4 hn hto;have hgl:(ofG f.blocks).length=f.blocks.length:=by simp[ofG]
 dsimp only[L.ai];refine aa fun z hz=>?_;simp;refine cS (v:=.pointer (some ⟨Kb,0,none⟩)) (by simp) ?_;have hle1:=bG h (.cells (Value.cells (.pointer (some ⟨Kb,0,none⟩))) T.iB);have h51:ag (vw (h.push (.cells (Value.cells (.pointer (some ⟨Kb,0,none⟩))) T.iB))) ⟨h.size,0,none⟩=some (.pointer (some ⟨Kb,0,none⟩)):=by simp[ag,vw]
 generalize h.push (.cells (Value.cells (.pointer (some ⟨Kb,0,none⟩))) T.iB)=h1 at hle1 h51;generalize h.size=B at h51;have k1:=k.ext hle1;subst hz;refine aa fun z hz=>?_;simp[h51,y5 (ab bK k1.c0) (ab bK k1.c1)];refine af (by kernel_rfl) (uN (k1.rb.mono bK) hn hto) ?_;rintro vg h2 ⟨hle2,hg⟩;have hg2:=hg.mono (ij _ _)
 subst hz;refine aa fun z hz=>?_;simp;refine af (by kernel_rfl) (tG hg2 hsm) ?_;rintro vo h3 ⟨hle3,ho⟩;have ho3:=ho.mono (ij _ _);have hg3:=hg2.mono hle3;have hle13:=View.le_trans hle2 hle3;have k3:=k1.ext hle13;have h53:=ab hle13 h51;have hle03:=View.le_trans hle1 hle13;subst hz;refine aa fun z hz=>?_;simp[h53,ab bK k3.c1,k3.rb.len];refine ao [0,1,2,3,35,36] (fun(_:Unit) b=>[.pointer (some ⟨Kb,0,none⟩),.pointer (some ⟨B,0,none⟩),vg,vo,.int .i64 f.blocks.length,.int .i64 b]) (fun _ b h4=>h4=h3/\uAll (na f) b = .ok ()) f.blocks.length ()
  rfl (by omega) rfl ⟨rfl,rfl⟩ (fun _ _=>rfl) (fun v i h1 hk m=>by simp) ?_ ?_
 ·rintro _ b h3 hlt ⟨rfl,hpre⟩ K2 hK2;simp;refine af (by kernel_rfl) (nG ho3) ?_;rintro _ _ ⟨rfl,rfl⟩;simp;refine cK (by kernel_rfl) eG ?_ ?_
  ·rintro _ _ ⟨e,rfl⟩;exact hK2 () _ _ rfl rfl ⟨rfl,by rw[gg hpre,na,if_pos e]⟩
  rintro _ _ ⟨e,rfl,rfl⟩;exact⟨.inl rfl,hKp _ _ ⟨_,by rw[mD,ji hpre hlt (by rw[na,if_neg (by rw[e];simp)])];rfl,rfl,hle03⟩⟩
 rintro _ h3 ⟨rfl,hreach⟩;have hus:mD f m idom=uAll (blkU f m idom (cy (ofG f.blocks))) f.blocks.length:=by rw[mD,hreach];rfl
 rw[hus]at hK hKp;simp;subst hz;refine aa fun z hz=>?_;simp;refine af (by kernel_rfl) (ta hg3 hsm) ?_;rintro vp h4 ⟨hle4,hp⟩;have hp4:=hp.mono (ij _ _);refine af (by kernel_rfl) (zH (hg3.mono hle4) hsm hd) ?_;rintro vi h5 ⟨W,mi⟩;have hi5:=mi.now;refine dc (α:=List Int) (z:=.slice none 0 0) (X:=vw h5) (by kernel_rfl) rfl (by kernel_rfl) (dG.2 hi5) (fun _=>by simp) (fun _=>by simp) fun h6 hle6 hsz6 hat=>?_;obtain⟨vd,hvd,hd6⟩:=(hat (vw h6) hle6 rfl).sl;generalize h5.size=C at hvd;subst hz;have hle36:=View.le_trans hle4 (View.le_trans mi.old hle6)
 have hp6:=hp4.mono (View.le_trans mi.old hle6);have k6:=k3.ext hle36;have h56:=ab hle36 h53;have hle06:=View.le_trans hle03 hle36;have hpl:(cy (ofG f.blocks)).length=f.blocks.length:=by rw[jS,hgl]
 have hin : ∀b,∀x∈nth (cy (ofG f.blocks)) b,0<=x/\x<f.blocks.length:=by
  rw[<-hgl];exact mS (fun e he=>(kC he).1) (fun i x hx=>by
   rcases DA i (ofG f.blocks).length with hi | hi
   ·rw[aB hi]at hx;cases hx
   rw[fF (by simpa using hi)]at hx;cases hx)
 generalize cy (ofG f.blocks)=preds at hp6 hpl hin hK hKp;obtain⟨pv,hpv⟩:=hp6.rows;simp[h56,ab bK k6.c1,k6.rb.len];refine ao [1,5,7,54,55,56] (fun(_:Unit) b=>[.pointer (some ⟨B,0,none⟩),vp,.func (.func N.au) #[] #[.pointer (some ⟨B,0,none⟩),.pointer (some ⟨C,0,none⟩)],vb,.int .i64 f.blocks.length,.int .i64 b]) (fun _ b h7=>(vw h6).le (vw h7)/\uAll (blkU f m idom preds) b = .ok ()) f.blocks.length ()
  rfl (by omega) rfl ⟨View.le_refl _,rfl⟩ (fun _ _=>rfl) (fun v i h1 hk m=>by simp) ?_ ?_
 ·rintro _ b h7 hltb ⟨hle7,hpre⟩ K2 hK2;have k7:=k6.ext hle7;have rb7:=k7.rb.mono bK;obtain⟨u,hu,hur⟩:=rb7.wh rfl (N:=6) rfl hltb;obtain⟨pc,pr⟩:=hpv b (by omega);have hst:=gg hpre;have her : ∀{t},blkU f m idom preds b = .error t->uAll (blkU f m idom preds) f.blocks.length = .error t:=fun e=>ji hpre hltb e;refine aa fun z hz=>?_;simp(disch:=omega)[rb7.idxn (N:=6) rfl,hu _ (View.le_refl _)];refine dc (z:=.agg #[.slice none 0 0,.slice none 0 0,.int .i64 0,.slice none 0 0,.slice none 0 0,.int .i32 0]) (by kernel_rfl) rfl (by kernel_rfl) hur (fun _=>by simp) (fun _=>by simp) fun h8 hle8 hsz8 hat=>?_;obtain⟨wp,wi,wa,wt,bp,bi,bk,ba,bt⟩:=gS (hat (vw h8) hle8 rfl);generalize h7.size=D at bp bi bk ba bt;subst hz;have hle68:=View.le_trans hle7 hle8
  have bph:=bp.2.bound;have bin:=bi.2.bound;have bar:=ba.2.bound;refine aa fun z hz=>?_;simp[bp.1,bp.2.len];refine ao [1,5,7,8,9,54,55,56,62,63,64] (fun(_:Unit) i=>[.pointer (some ⟨B,0,none⟩),vp,.func (.func N.au) #[] #[.pointer (some ⟨B,0,none⟩),.pointer (some ⟨C,0,none⟩)],.int .i64 b,.pointer (some ⟨D,0,none⟩),vb,.int .i64 f.blocks.length,.int .i64 b,wp,.int .i64 (nth f.blocks b).phis.length,.int .i64 i])
   (fun _ i h9=>(vw h8).le (vw h9)/\uAll (phiU f m idom preds b) i = .ok ()) (nth f.blocks b).phis.length ()
   rfl (by omega) rfl ⟨View.le_refl _,rfl⟩ (fun _ _=>rfl) (fun v i h1 hk m=>by simp) ?_ ?_
  ·rintro _ i h9 hlti ⟨hle9,hpre9⟩ K3 hK3;have hst9:=gg hpre9;have her9 : ∀{t},phiU f m idom preds b i = .error t->blkU f m idom preds b = .error t:=fun e=>by rw[blkU,ji hpre9 hlti e];rfl
   have bp9:=bp.2.mono hle9;obtain⟨u9,hu9,hur9⟩:=bp9.wh rfl (N:=2) rfl hlti;refine aa fun y hy=>?_;simp(disch:=omega)[bp9.idxn (N:=2) rfl,hu9 _ (View.le_refl _)];refine dc (z:=.agg #[.int .i64 0,.slice none 0 0]) (by kernel_rfl) rfl (by kernel_rfl) hur9 (fun _=>by simp) (fun _=>by simp) fun h10 hle10 hsz10 hat10=>?_;obtain⟨_,wq,cq⟩:=rI (hat10 (vw h10) hle10 rfl);simp only[phiU]at hst9 her9;generalize nth (nth f.blocks b).phis i=x at cq hst9 her9;generalize h9.size=D10 at cq;have bq:=cq.2.bound
   subst hy;refine aa fun y hy=>?_;have hle610:=View.le_trans hle68 (View.le_trans hle9 hle10);have hp10:=hp6.mono hle610;have pr10:=pr.mono hle610;have hbase:(decide (0<b)&&decide ((x.ins.length:Int)=((nth preds b).length:Int)))=gB x (nth preds b) b:=rfl;simp(disch:=omega)[cq.1,cq.2.len,hp10.idx1 rfl,pc _ hle610,pr10.len];rw[hbase];subst hy;refine aa fun y hy=>?_;simp[cq.1,cq.2.len];refine ao [1,5,7,8,9,10,11,12,54,55,56,62,63,64,83,84,85] (fun(_:Unit) j=>[.pointer (some ⟨B,0,none⟩),vp,.func (.func N.au) #[] #[.pointer (some ⟨B,0,none⟩),.pointer (some ⟨C,0,none⟩)],.int .i64 b,.pointer (some ⟨D,0,none⟩),.int .i64 i,.pointer (some ⟨D10,0,none⟩),
     .bool (gB x (nth preds b) b&&nS (qg x (nth preds b)) j),vb,.int .i64 f.blocks.length,.int .i64 b,wp,.int .i64 (nth f.blocks b).phis.length,.int .i64 i,wq,.int .i64 x.ins.length,.int .i64 j])
    (fun _ j h11=>(vw h10).le (vw h11)) x.ins.length ()
    rfl (by omega) (by simp[dA];intro _;rfl) (View.le_refl _) (fun _ _=>rfl) (fun v i h1 hk m=>by simp) ?_ ?_
   ·rintro _ j h11 hltj hle11 K4 hK4;have cq11:=cq.2.mono hle11;obtain⟨u11,hu11,hur11⟩:=cq11.wh rfl (N:=2) rfl hltj;refine aa fun q hq=>?_;simp(disch:=omega)[cq11.idxn (N:=2) rfl,hu11 _ (View.le_refl _)];refine dc (z:=.agg #[.int .i64 0,.int .i64 0]) (by kernel_rfl) rfl (by kernel_rfl) hur11 (fun _=>by simp) (fun _=>by simp) fun h12 hle12 hsz12 hat12=>?_;obtain⟨e0,e1⟩:=uq (hat12 (vw h12) hle12 rfl);generalize h11.size=D12 at e0 e1;subst hq;have hle612:=View.le_trans hle610 (View.le_trans hle11 hle12)
    have hp12:=hp6.mono hle612;have pr12:=pr.mono hle612;cases hfit:gB x (nth preds b) b&&nS (qg x (nth preds b)) j with
    | false=>simp;refine hK4 () _ _ rfl ?_ (View.le_trans hle11 hle12);rw[pg,<-Bool.and_assoc,hfit];rfl
    | true=>
     have hlen:x.ins.length=(nth preds b).length:=by simp only[DC,gB,decide_eq_true_eq]at hfit;omega
     simp(disch:=omega)[e0,hp12.idx1 rfl,pc _ hle612,pr12.idx1 rfl,pr12.int (View.le_refl _)];refine hK4 () _ _ rfl ?_ (View.le_trans hle11 hle12);rw[pg,<-Bool.and_assoc,hfit];rfl
   rintro _ h11 hle11;have hfs:(gB x (nth preds b) b&&nS (qg x (nth preds b)) x.ins.length)=tf x (nth preds b) b:=rfl;rw[hfs];simp;subst hy;refine aa fun y hy=>?_;simp(disch:=omega);have hle011:=View.le_trans hle06 (View.le_trans hle610 hle11)
   refine cK (by kernel_rfl) eG ?_ ?_;rotate_left
   ·rintro _ _ ⟨e,rfl,rfl⟩;exact⟨.inl rfl,hKp _ _ ⟨_,her (her9 (by rw[if_neg (by rw[e];simp)])),rfl,hle011⟩⟩
   rintro _ h11 ⟨efit,rfl⟩;rw[if_pos efit]at hst9;have her9' : ∀{t},uAll (fun j=>useS f.params m idom (nth x.ins j).val (nth x.ins j).frm (-1-i) (nth f.blocks (nth x.ins j).frm.toNat).ins.length b) x.ins.length = .error t->blkU f m idom preds b = .error t:=fun e=>her9 (by rw[if_pos efit];exact e);have hlen:x.ins.length=(nth preds b).length:=by simp only[DC,tf,gB,decide_eq_true_eq]at efit;omega
   have hfrm : ∀j,j<x.ins.length->0<=(nth x.ins j).frm/\(nth x.ins j).frm<f.blocks.length:=fun j hj=>by have h1:=wk.1 (DC _ _▸efit:_/\_).2 j hj;simp only[qg,decide_eq_true_eq]at h1;rw[h1];exact hin b _ (bT (by omega))
   subst hy;have cq11:=cq.2.mono hle11;simp[ab hle11 cq.1,cq11.len];refine ao [1,5,7,8,9,10,11,54,55,56,62,63,64,110,111,112] (fun(_:Unit) j=>[.pointer (some ⟨B,0,none⟩),vp,.func (.func N.au) #[] #[.pointer (some ⟨B,0,none⟩),.pointer (some ⟨C,0,none⟩)],.int .i64 b,.pointer (some ⟨D,0,none⟩),.int .i64 i,.pointer (some ⟨D10,0,none⟩),
     vb,.int .i64 f.blocks.length,.int .i64 b,wp,.int .i64 (nth f.blocks b).phis.length,.int .i64 i,wq,.int .i64 x.ins.length,.int .i64 j])
    (fun _ j h12=>(vw h11).le (vw h12)/\uAll (fun j=>useS f.params m idom (nth x.ins j).val (nth x.ins j).frm (-1-i) (nth f.blocks (nth x.ins j).frm.toNat).ins.length b) j = .ok ()) x.ins.length ()
    rfl (by omega) rfl ⟨View.le_refl _,rfl⟩ (fun _ _=>rfl) (fun v i h1 hk m=>by simp) ?_ ?_
   ·rintro _ j h12 hltj ⟨hle12,hpre12⟩ K4 hK4;have hst12:=gg hpre12;have cq12:=cq11.mono hle12;obtain⟨u12,hu12,hur12⟩:=cq12.wh rfl (N:=2) rfl hltj;refine aa fun q hq=>?_;simp(disch:=omega)[cq12.idxn (N:=2) rfl,hu12 _ (View.le_refl _)];refine dc (z:=.agg #[.int .i64 0,.int .i64 0]) (by kernel_rfl) rfl (by kernel_rfl) hur12 (fun _=>by simp) (fun _=>by simp) fun h13 hle13 hsz13 hat13=>?_;obtain⟨e0,e1⟩:=uq (hat13 (vw h13) hle13 rfl);generalize h12.size=D13 at e0 e1;have hf:=hfrm j hltj
    generalize hxj:nth x.ins j=w at e0 e1 hst12 hf;subst hq;have hle613:=View.le_trans hle610 (View.le_trans hle11 (View.le_trans hle12 hle13));have k13:=k6.ext hle613;have rb13:=k13.rb.mono bK;have h513:=ab hle613 h56;obtain⟨ul,hul⟩:=(((rb13.at (i:=w.frm.toNat) (by omega)).part BlkD.oZ)).sl;rw[<-aq (by omega)]at hul;have hul1:ag (vw h13) (((slA vb).add (w.frm.toNat*6)).add 1)=some ul:=hul.1;refine bR (vw h13) (View.le_refl _) ?_;simp(disch:=omega)[e0,e1,h513,ab bK k13.c1,rb13.idxn (N:=6) rfl,hul1,hul.2.len];refine ny (ops:=[.tmp 118,.tmp 120,.tmp 122,.tmp 133,.tmp 134]) rfl (by kernel_rfl) (vH k13 h513 (ab hle613 hvd) (hd6.mono hle613)) ?_ ?_
    ·rintro _ h14 ⟨e,hle14⟩;exact hK4 () _ _ rfl rfl ⟨View.le_trans hle12 (View.le_trans hle13 hle14),by rw[hst12];exact e⟩
    rintro _ h14 ⟨t,e,rfl,hle14⟩;exact⟨.inr fun _=>trivial,hKp _ _ ⟨t,her (her9' (ji hpre12 hltj (by rw[hxj];exact e))),rfl,View.le_trans hle06 (View.le_trans hle613 hle14)⟩⟩
   rintro _ h12 ⟨hle12,hpre12⟩;simp;exact hK3 () _ _ rfl rfl ⟨View.le_trans hle9 (View.le_trans hle10 (View.le_trans hle11 hle12)),by rw[hst9];exact hpre12⟩
  rintro _ h9 ⟨hle9,hpre9⟩;have hbu:blkU f m idom preds b=andE (uAll (insU f m idom b) (nth f.blocks b).ins.length) (endU f m idom b):=by rw[blkU,hpre9];rfl
  rw[hbu]at hst her;simp;subst hz;refine aa fun z hz=>?_;have bi9:=bi.2.mono hle9;simp[ab hle9 bi.1,bi9.len];refine ao [1,5,7,8,9,54,55,56,139,140,141] (fun(_:Unit) i=>[.pointer (some ⟨B,0,none⟩),vp,.func (.func N.au) #[] #[.pointer (some ⟨B,0,none⟩),.pointer (some ⟨C,0,none⟩)],.int .i64 b,.pointer (some ⟨D,0,none⟩),vb,.int .i64 f.blocks.length,.int .i64 b,wi,.int .i64 (nth f.blocks b).ins.length,.int .i64 i])
   (fun _ i h10=>(vw h9).le (vw h10)/\uAll (insU f m idom b) i = .ok ()) (nth f.blocks b).ins.length ()
   rfl (by omega) rfl ⟨View.le_refl _,rfl⟩ (fun _ _=>rfl) (fun v i h1 hk m=>by simp) ?_ ?_
  ·rintro _ i h10 hlti ⟨hle10,hpre10⟩ K3 hK3;have hst10:=gg hpre10;have her10 : ∀{t},insU f m idom b i = .error t->uAll (blkU f m idom preds) f.blocks.length = .error t:=fun e=>her (by rw[ji hpre10 hlti e];rfl);have bi10:=bi9.mono hle10
   obtain⟨u10,hu10,hur10⟩:=bi10.wh rfl (N:=5) rfl hlti;refine aa fun y hy=>?_;simp(disch:=omega)[bi10.idxn (N:=5) rfl,hu10 _ (View.le_refl _)];refine dc (z:=.agg #[.int .i64 0,.int .i64 0,.int .i64 0,.slice none 0 0,.int .i32 0]) (by kernel_rfl) rfl (by kernel_rfl) hur10 (fun _=>by simp) (fun _=>by simp) fun h11 hle11 hsz11 hat11=>?_;obtain⟨_,_,_,wq,cq⟩:=iF (hat11 (vw h11) hle11 rfl);rw[insU]at hst10 her10;generalize nth (nth f.blocks b).ins i=x at cq hst10 her10;generalize h10.size=D11 at cq;have bq:=cq.2.bound;subst hy;simp[cq.1,cq.2.len];refine ao [1,5,7,8,9,17,54,55,56,139,140,141,147,148,149] (fun(_:Unit) j=>[.pointer (some ⟨B,0,none⟩),vp,.func (.func N.au) #[] #[.pointer (some ⟨B,0,none⟩),.pointer (some ⟨C,0,none⟩)],.int .i64 b,.pointer (some ⟨D,0,none⟩),.int .i64 i,vb,.int .i64 f.blocks.length,.int .i64 b,wi,.int .i64 (nth f.blocks b).ins.length,.int .i64 i,wq,.int .i64 x.args.length,.int .i64 j])
    (fun _ j h12=>(vw h11).le (vw h12)/\uAll (fun j=>useS f.params m idom (nth x.args j) b i i b) j = .ok ()) x.args.length ()
    rfl (by omega) rfl ⟨View.le_refl _,rfl⟩ (fun _ _=>rfl) (fun v i h1 hk m=>by simp) ?_ ?_
   ·rintro _ j h12 hltj ⟨hle12,hpre12⟩ K4 hK4;have hst12:=gg hpre12;have cq12:=cq.2.mono hle12;have hle612:=View.le_trans hle68 (View.le_trans hle9 (View.le_trans hle10 (View.le_trans hle11 hle12)));have k12:=k6.ext hle612;have h512:=ab hle612 h56;simp(disch:=omega)[cq12.idx1 rfl,cq12.int (View.le_refl _)];refine ny (ops:=[.tmp 154,.tmp 155,.tmp 156,.tmp 157,.tmp 158]) rfl (by kernel_rfl) (vH k12 h512 (ab hle612 hvd) (hd6.mono hle612)) ?_ ?_
    ·rintro _ h14 ⟨e,hle14⟩;exact hK4 () _ _ rfl rfl ⟨View.le_trans hle12 hle14,by rw[hst12];exact e⟩
    rintro _ h14 ⟨t,e,rfl,hle14⟩;exact⟨.inl rfl,hKp _ _ ⟨t,her10 (ji hpre12 hltj e),rfl,View.le_trans hle06 (View.le_trans hle612 hle14)⟩⟩
   rintro _ h12 ⟨hle12,hpre12⟩;simp;exact hK3 () _ _ rfl rfl ⟨View.le_trans hle10 (View.le_trans hle11 hle12),by rw[hst10];exact hpre12⟩
  rintro _ h10 ⟨hle10,hpre10⟩;have hbu2:andE (uAll (insU f m idom b) (nth f.blocks b).ins.length) (endU f m idom b)=endU f m idom b:=by rw[hpre10];rfl
  rw[hbu2]at hst her;rw[endU]at hst her;simp;subst hz;have ba10:=ba.2.mono (View.le_trans hle9 hle10);have ca10:=ab (View.le_trans hle9 hle10) ba.1;have bi10:=bi9.mono hle10;have ci10:=ab (View.le_trans hle9 hle10) bi.1;simp[ca10,ba10.len];refine ao [1,5,7,8,9,54,55,56,164,165,166] (fun(_:Unit) j=>[.pointer (some ⟨B,0,none⟩),vp,.func (.func N.au) #[] #[.pointer (some ⟨B,0,none⟩),.pointer (some ⟨C,0,none⟩)],.int .i64 b,.pointer (some ⟨D,0,none⟩),vb,.int .i64 f.blocks.length,.int .i64 b,wa,.int .i64 (nth f.blocks b).term.args.length,.int .i64 j])
   (fun _ j h12=>(vw h10).le (vw h12)/\uAll (fun j=>useS f.params m idom (nth (nth f.blocks b).term.args j) b (nth f.blocks b).ins.length (nth f.blocks b).ins.length b) j = .ok ()) (nth f.blocks b).term.args.length ()
   rfl (by omega) rfl ⟨View.le_refl _,rfl⟩ (fun _ _=>rfl) (fun v i h1 hk m=>by simp) ?_ ?_
  ·rintro _ j h12 hltj ⟨hle12,hpre12⟩ K4 hK4;have hst12:=gg hpre12;have ba12:=ba10.mono hle12;have bi12:=bi10.mono hle12;have ci12:=ab hle12 ci10;have hle612:=View.le_trans hle68 (View.le_trans hle9 (View.le_trans hle10 hle12));have k12:=k6.ext hle612;have h512:=ab hle612 h56;simp(disch:=omega)[ba12.idx1 rfl,ba12.int (View.le_refl _),ci12,bi12.len];refine ny (ops:=[.tmp 171,.tmp 172,.tmp 175,.tmp 178,.tmp 179]) rfl (by kernel_rfl) (vH k12 h512 (ab hle612 hvd) (hd6.mono hle612)) ?_ ?_
   ·rintro _ h14 ⟨e,hle14⟩;exact hK4 () _ _ rfl rfl ⟨View.le_trans hle12 hle14,by rw[hst12];exact e⟩
   rintro _ h14 ⟨t,e,rfl,hle14⟩;exact⟨.inl rfl,hKp _ _ ⟨t,her (ji hpre12 hltj e),rfl,View.le_trans hle06 (View.le_trans hle612 hle14)⟩⟩
  rintro _ h12 ⟨hle12,hpre12⟩;simp;exact hK2 () _ _ rfl rfl ⟨View.le_trans hle7 (View.le_trans hle8 (View.le_trans hle9 (View.le_trans hle10 hle12))),by rw[hst];exact hpre12⟩
 rintro _ h7 ⟨hle7,hpre⟩;simp;exact hK _ _ ⟨hpre,View.le_trans hle06 hle7⟩
def zh (t:Tr):FrameMode:=.panicking [{ v:=.iface T.dU (.agg #[.int .i64 t.1,.int .i64 t.2.1,.int .i64 t.2.2]),recovered:=true }]
theorem yB{a b c:Nat}{t:Tr}{h:Heap}{ra rb rc:Array Value}{ea eb ec:TypeId}(ha:h[a]? = some (.cells ra ea (0,0)))(hb:h[b]? = some (.cells rb eb (0,0)))(hc:h[c]? = some (.cells rc ec (0,0)))(sa:ra.size=1)(sb:rb.size=1)(sc:rc.size=1)(hab:a≠b)(hac:a≠c)(hbc:b≠c):lN Tryz.prog N.bJ #[.pointer (some ⟨a,0,none⟩),.pointer (some ⟨b,0,none⟩),.pointer (some ⟨c,0,none⟩)] (.panicking (trV t)) h
   (fun u' h'=>u'=zh t/\h'[a]? = some (.cells #[.int .i64 t.1] ea (0,0))/\h'[b]? = some (.cells #[.int .i64 t.2.1] eb (0,0))/\h'[c]? = some (.cells #[.int .i64 t.2.2] ec (0,0))/\h.size<=h'.size/\∀k,k<h.size->k≠a->k≠b->k≠c->h'[k]? = h[k]?):=by
 refine kf (args:=[.pointer (some ⟨a,0,none⟩),.pointer (some ⟨b,0,none⟩),.pointer (some ⟨c,0,none⟩)]) (t:=6) (L:=L.bJ.body.tail) (tys:=#[]) follows F.bJ Q.bJ (by kernel_rfl) (by kernel_rfl) (by kernel_rfl) (Dv (by kernel_rfl)) E.ku (by kernel_rfl) (by kernel_rfl) (Dv (by kernel_rfl)) ?_;have ala:a<h.size:=(Dx.1 ha).1;have alb:b<h.size:=(Dx.1 hb).1;have alc:c<h.size:=(Dx.1 hc).1;have hrec:fG (.panicking (trV t))=(.iface T.dU (.agg #[.int .i64 t.1,.int .i64 t.2.1,.int .i64 t.2.2]),zh t):=rfl;rw[hrec];simp[L.bJ,LC.tail];refine tD (ms:=#[]) (by kernel_rfl) rfl (.inr ⟨_,_,rfl,rfl⟩) ?_;simp;refine xv (d:=(Tryz.prog.underlying T.dU).getD .bool) (by kernel_rfl) (by kernel_rfl) rfl ?_;simp;refine gp (n:=3) (z:=.agg #[.int .i64 0,.int .i64 0,.int .i64 0]) (v:=.agg #[.int .i64 t.1,.int .i64 t.2.1,.int .i64 t.2.2]) (by kernel_rfl) rfl (by kernel_rfl) rfl (by simp[Value.oneCell']) (fun _=>by simp) (fun _=>by simp) fun h1 hle1 hs1 hb1=>?_;generalize hD:h.size=D at hb1 hs1;obtain⟨H,hH⟩ : ∃H:View,H=fun k=>if k=D then h1[k]? else none:=⟨_,rfl⟩;have hHle : ∀h2:Heap,h2[D]? = h1[D]?->H.le (vw h2):=fun h2 e k o hk=>by
  rw[hH]at hk;simp only at hk;split at hk
  ·rename_i e2;subst e2;show h2[_]? = _;rw[e];exact hk
  cases hk
 have hHD:H D=some (.cells #[.int .i64 t.1,.int .i64 t.2.1,.int .i64 t.2.2] T.dU (0,0)):=by rw[hH];simp only[if_true];exact hb1
 have d0:ag H ⟨D,0,none⟩=some (.int .i64 t.1):=bS hHD rfl;have d1:ag H ⟨D,1,none⟩=some (.int .i64 t.2.1):=bS hHD rfl;have d2:ag H ⟨D,2,none⟩=some (.int .i64 t.2.2):=bS hHD rfl;refine bR H (hHle h1 rfl) ?_;simp[d0,d1,d2];refine dk (g:=a) (o:=0) (n:=1) (v:=.int .i64 t.1) (by kernel_rfl) rfl rfl rfl (by simp[Value.oneCell']) (hle1 _ _ ha) (by omega) fun h2 hs2 ⟨row2,hr2,he2⟩ ho2=>?_;refine⟨hHle h2 (ho2 D (by omega)),?_⟩;refine dk (g:=b) (o:=0) (n:=1) (v:=.int .i64 t.2.1) (by kernel_rfl) rfl rfl rfl (by simp[Value.oneCell']) ((ho2 b (Ne.symm hab)).trans (hle1 _ _ hb)) (by omega) fun h3 hs3 ⟨row3,hr3,he3⟩ ho3=>?_;refine⟨hHle h3 ((ho3 D (by omega)).trans (ho2 D (by omega))),?_⟩;refine dk (g:=c) (o:=0) (n:=1) (v:=.int .i64 t.2.2) (by kernel_rfl) rfl rfl rfl (by simp[Value.oneCell']) ((ho3 c (Ne.symm hbc)).trans ((ho2 c (Ne.symm hac)).trans (hle1 _ _ hc))) (by omega) fun h4 hs4 ⟨row4,hr4,he4⟩ ho4=>?_;have one : ∀{row r:Array Value} {v:Value},v.cells = #[v]->r.size=1->row.toList=r.toList.take 0++v.cells.toList++r.toList.drop (0+1)->row = #[v]:=by intro row r v hv hr he;rw[<-Array.toList_inj,he,hv,Fq,D7,DX (by simp[hr])];simp
 rw[one rfl sa he2]at hr2;rw[one rfl sb he3]at hr3;rw[one rfl sc he4]at hr4;refine⟨?_,?_,hr4,by omega,fun k hk h1' h2' h3'=>?_⟩
 ·rw[ho4 a hac,ho3 a hab];exact hr2
 ·rw[ho4 b hbc];exact hr3
 rw[ho4 k h3',ho3 k h2',ho2 k h1'];exact(hle1 k h[k] (DJ (by omega))).trans (DJ (by omega)).symm
theorem uE{a b c:Nat}{h:Heap}:lN Tryz.prog N.bJ #[.pointer (some ⟨a,0,none⟩),.pointer (some ⟨b,0,none⟩),.pointer (some ⟨c,0,none⟩)] .returning h (fun u' h'=>u' = .returning/\h'=h):=by refine kf (args:=[.pointer (some ⟨a,0,none⟩),.pointer (some ⟨b,0,none⟩),.pointer (some ⟨c,0,none⟩)]) (t:=6) (L:=L.bJ.body.tail) (tys:=#[]) follows F.bJ Q.bJ (by kernel_rfl) (by kernel_rfl) (by kernel_rfl) (Dv (by kernel_rfl)) E.ku (by kernel_rfl) (by kernel_rfl) (Dv (by kernel_rfl)) ?_;have hrec:fG .returning=(.nilIface,.returning):=rfl;rw[hrec];simp[L.bJ,LC.tail];refine tD (ms:=#[]) (by kernel_rfl) rfl (.inl ⟨rfl,rfl⟩) ?_;simp
def manyN (f:ae) (k:Nat):Int:=up (fun i n=>n+(((nth f.blocks i).phis.length:Int)+(nth f.blocks i).ins.length)) k f.blocks.length
def wK (f:ae):Int:=manyN f f.blocks.length
def lf (g:Gr):List Int:=(pT g (g.length*g.length+1)).getD []
def pR (f:ae):Except Tr MW->Except Tr Unit
 | .error t=>.error t
 | .ok m=>mD f m (lf (ofG f.blocks))
def gZ (f:ae):Except Tr Unit:=
 if aV f.params 0 4=false then .error (1,0,0)
 else if f.blocks.length=0 then .error (14,0,0)
 else if ¬(f.blocks.length<=512/\wK f<=4096) then .error (2,0,0)
 else pR f (hU f (fun _=>none))
def gx (f:ae):Tr:=match gZ f with
 | .ok _=>(0,0,0)
 | .error t=>t
theorem zK{f:ae}{k:Nat}:0<=manyN f k:=by
 unfold manyN;induction k with
 | zero=>simp[up]
 | succ k ih=>rw[up];omega
theorem yY{f:ae}{m m':MW}(h:hU f m = .ok m'): ∀i,i<f.blocks.length->(nth f.blocks i).term.to.length<=65:=by
 intro i hi;have key : ∀n,n<=f.blocks.length->∃s,upE (blkS f) n m = .ok s:=fun n hn=>by
  cases e:upE (blkS f) n m with
  | ok s=>exact⟨s,rfl⟩
  | error t=>rw[hU,rC hn e]at h;cases h
 obtain⟨s,hs⟩:=key i (by omega);obtain⟨s',hs'⟩:=key (i+1) hi;rw[iY hs,blkS]at hs';split at hs'
 ·cases hs'
 split at hs'
 ·cases hs'
 rw[endS]at hs';split at hs'
 ·rename_i hok;rw[kq]at hok;split at hok
  ·rename_i sh hsh;simp only[aV,DC,decide_eq_true_eq]at hok;have:sh.2.2.2<=65:=by
    simp only[dV,putM]at hsh;repeat' (split at hsh)
    all_goals first | (cases hsh;done) | (cases hsh;decide)
   omega
  cases hok
 cases hs'
theorem zw{g:Gr}(hg:0<g.length):pT g (g.length*g.length+1)=some (lf g):=by obtain⟨_,_,l,hl,_⟩:=pY hg;rw[lf,hl];rfl
theorem one_cell{row r:Array Value}{v:Value}(hv:v.cells = #[v])(hr:r.size=1)(he:row.toList=r.toList.take 0++v.cells.toList++r.toList.drop (0+1)):row = #[v]:=by rw[<-Array.toList_inj,he,hv,Fq,D7,DX (by simp[hr])];simp
structure SmB (x:BlkD):Prop where
 phis:x.phis.length<=10000
 ins:x.ins.length<=10000
 args:x.term.args.length<=10000
 to:x.term.to.length<=10000
 phi : ∀i,i<x.phis.length->(nth x.phis i).ins.length<=10000
 inn : ∀i,i<x.ins.length->(nth x.ins i).args.length<=10000
structure SmF (f:ae):Prop where
 len:f.blocks.length<=10000
 blk : ∀i,i<f.blocks.length->SmB (nth f.blocks i)
theorem Af{f:ae}{v:Value}{h:Heap}(hv:Rd (vw h) v f)(hsm:SmF f):
  aj Tryz.prog N.dS #[v] h (fun u h'=>u = .tuple #[.int .i64 (gx f).1,.int .i64 (gx f).2.1,.int .i64 (gx f).2.2]/\(vw h).le (vw h')):=by
 refine ld (args:=[v]) (g:=N.bJ) (t:=9) (capops:=#[.tmp 2,.tmp 3,.tmp 4]) (tys:=#[])
  (Mid:=fun ρ hh=>ρ=[(0,v),(1,.pointer (some ⟨h.size,0,none⟩)),(2,.pointer (some ⟨h.size+1,0,none⟩)),(3,.pointer (some ⟨h.size+2,0,none⟩)),(4,.pointer (some ⟨h.size+3,0,none⟩))]/\hh.size=h.size+4/\(vw h).le (vw hh)/\At (vw hh) ⟨h.size,0,none⟩ f/\
   hh[h.size+1]? = some (.cells #[.int .i64 0] T.jg (0,0))/\hh[h.size+2]? = some (.cells #[.int .i64 0] T.int (0,0))/\hh[h.size+3]? = some (.cells #[.int .i64 0] T.int (0,0)))
  follows F.dS B.dS (by kernel_rfl) (by kernel_rfl) (by kernel_rfl) (by kernel_rfl) (by kernel_rfl) (by kernel_rfl) (Dv (by kernel_rfl)) (by kernel_rfl) E.gl (by kernel_rfl) E.ez (by kernel_rfl) R.pL (Dv (by kernel_rfl)) ?_ ?_
 ·simp[L.gl];refine iD rfl hv fun h1 e1 hle1 hs1 hat=>?_;refine dF (z:=.int .i64 0) (by kernel_rfl) ?_;refine dF (z:=.int .i64 0) (by kernel_rfl) ?_;refine dF (z:=.int .i64 0) (by kernel_rfl) ?_;have q1:=bG h1 (.cells (Value.int .i64 0).cells T.jg);generalize e2:h1.push (.cells (Value.int .i64 0).cells T.jg)=h2 at q1;have b2:h2[h1.size]? = some (.cells #[.int .i64 0] T.jg (0,0)):=by rw[<-e2];simp
  have s2:h2.size=h1.size+1:=by rw[<-e2];simp
  have q2:=bG h2 (.cells (Value.int .i64 0).cells T.int);generalize e3:h2.push (.cells (Value.int .i64 0).cells T.int)=h3 at q2;have b3:h3[h2.size]? = some (.cells #[.int .i64 0] T.int (0,0)):=by rw[<-e3];simp
  have s3:h3.size=h2.size+1:=by rw[<-e3];simp
  have q3:=bG h3 (.cells (Value.int .i64 0).cells T.int);generalize e4:h3.push (.cells (Value.int .i64 0).cells T.int)=h4 at q3;have b4:h4[h3.size]? = some (.cells #[.int .i64 0] T.int (0,0)):=by rw[<-e4];simp
  have s4:h4.size=h3.size+1:=by rw[<-e4];simp
  have hsz:h1.size=h.size+1:=hs1;have e22:h2.size=h.size+2:=by omega
  have e32:h3.size=h.size+3:=by omega
  rw[hsz]at b2;rw[e22]at b3;rw[e32]at b4;rw[e22,e32,hsz];simp;exact⟨by omega,View.le_trans hle1 (View.le_trans q1 (View.le_trans q2 q3)),hat.mono (View.le_trans q1 (View.le_trans q2 q3)),q3 _ _ (q2 _ _ b2),q3 _ _ b3,b4⟩
 rintro ρ hh ⟨rfl,hs,hle,hat,hb1,hb2,hb3⟩;refine⟨[.pointer (some ⟨h.size+1,0,none⟩),.pointer (some ⟨h.size+2,0,none⟩),.pointer (some ⟨h.size+3,0,none⟩)],by simp[mF],
  ⟨fun ch h2=>∃t,gZ f = .error t/\ch=trV t/\(vw hh).le (vw h2),fun ρ=>Lft.look ρ 2=some (.pointer (some ⟨h.size+1,0,none⟩))/\Lft.look ρ 3=some (.pointer (some ⟨h.size+2,0,none⟩))/\Lft.look ρ 4=some (.pointer (some ⟨h.size+3,0,none⟩))⟩,?_,?_⟩;rotate_left
 ·rintro ch ρ2 h2 ⟨t,ht,rfl,hle2⟩ ⟨l2,l3,l4⟩;refine⟨_,yB (hle2 _ _ hb1) (hle2 _ _ hb2) (hle2 _ _ hb3) rfl rfl rfl (by omega) (by omega) (by omega),?_⟩;rintro u' h3 ⟨rfl,g1,g2,g3,gs,go⟩;have c1:ag (vw h3) ⟨h.size+1,0,none⟩=some (.int .i64 t.1):=bS (show vw h3 _=_ from g1) rfl;have c2:ag (vw h3) ⟨h.size+2,0,none⟩=some (.int .i64 t.2.1):=bS (show vw h3 _=_ from g2) rfl;have c3:ag (vw h3) ⟨h.size+3,0,none⟩=some (.int .i64 t.2.2):=bS (show vw h3 _=_ from g3) rfl;refine⟨rfl,[.int .i64 t.1,.int .i64 t.2.1,.int .i64 t.2.2],by simp[R.dS,l2,l3,l4,c1,c2,c3],?_⟩;refine⟨by simp[gx,ht],fun b o hb=>?_⟩;have hlt:=View.lt (View.le_refl (vw h)) hb;show h3[b]? = _;have hb2':=hle2 _ _ (hle _ _ hb);have hlt2:=View.lt (View.le_refl (vw h2)) hb2';rw[go b hlt2 (by omega) (by omega) (by omega)];exact hb2'
 obtain⟨cp,vb,cb⟩:=j9 hat;have hbb:=cb.2.bound;have bad : ∀{t:Tr} {ch:List PanicEntry} {h2:Heap},gZ f = .error t->ch=trV t->(vw hh).le (vw h2)->∃t,gZ f = .error t/\ch=trV t/\(vw hh).le (vw h2):=fun a b c=>⟨_,a,b,c⟩;simp only[gX,w8];dsimp only[L.ez];refine aa fun z hz=>?_;simp[cp];refine af (by kernel_rfl) gh ?_;rintro _ _ ⟨rfl,rfl⟩;refine cK (by kernel_rfl) eG ?_ ?_;rotate_left
 ·rintro _ _ ⟨e,rfl,rfl⟩;exact⟨.inl rfl,bad (by rw[gZ,if_pos e]) rfl (View.le_refl _)⟩
 rintro _ hh ⟨e1,rfl⟩;have e1':¬aV f.params 0 4=false:=by rw[e1];simp
 subst hz;refine aa fun z hz=>?_;simp[cb.1,cb.2.len];refine cK (by kernel_rfl) eG ?_ ?_;rotate_left
 ·rintro _ _ ⟨e,rfl,rfl⟩;exact⟨.inl rfl,bad (by rw[gZ,if_neg e1',if_pos (by simpa using e)]) rfl (View.le_refl _)⟩
 rintro _ hh ⟨e2,rfl⟩;have e2':¬f.blocks.length=0:=by intro e;rw[e]at e2;simp at e2
 subst hz;refine aa fun z hz=>?_;simp[cb.1,cb.2.len];subst hz;refine aa fun z hz=>?_;simp[cb.1,cb.2.len];refine ao [1,2,3,4,5,23,24,25] (fun(_:Unit) k=>[.pointer (some ⟨h.size,0,none⟩),.pointer (some ⟨h.size+1,0,none⟩),.pointer (some ⟨h.size+2,0,none⟩),.pointer (some ⟨h.size+3,0,none⟩),.int .i64 (manyN f k),vb,.int .i64 f.blocks.length,.int .i64 k])
  (fun _ k h1=>(vw hh).le (vw h1)/\manyN f k<=f.blocks.length+k*2000000) f.blocks.length ()
  rfl (by omega) rfl ⟨View.le_refl _,by simp[manyN,up]⟩ (fun _ _=>rfl) (fun v i h1 hk m=>by simp) ?_ ?_
 ·rintro _ k h1 hlt ⟨hle1,hmk⟩ K2 hK2;have cb1:=cb.2.mono hle1;obtain⟨u,hu,hur⟩:=cb1.wh rfl (N:=6) rfl hlt;refine aa fun y hy=>?_;simp(disch:=omega)[cb1.idxn (N:=6) rfl,hu _ (View.le_refl _)];refine dc (z:=.agg #[.slice none 0 0,.slice none 0 0,.int .i64 0,.slice none 0 0,.slice none 0 0,.int .i32 0]) (by kernel_rfl) rfl (by kernel_rfl) hur (fun _=>by simp) (fun _=>by simp) fun h2 hle2 hsz2 hat2=>?_;obtain⟨vp,vi,va,vt,bp,bi,_⟩:=gS (hat2 (vw h2) hle2 rfl);have bph:=bp.2.bound
  have bih:=bi.2.bound;have hm1:manyN f (k+1)=manyN f k+(((nth f.blocks k).phis.length:Int)+(nth f.blocks k).ins.length):=rfl;have h0:=zK (f:=f) (k:=k);subst hy;simp[bp.1,bp.2.len,bi.1,bi.2.len];have s1:=(hsm.blk k hlt).phis;have s2:=(hsm.blk k hlt).ins;have s0:=hsm.len;rw[cj (a:=((nth f.blocks k).phis.length:Int)+(nth f.blocks k).ins.length) (by omega) (by omega),cj (by omega) (by omega)];exact hK2 () _ _ rfl (by rw[hm1];rfl) ⟨View.le_trans hle1 hle2,by rw[hm1];omega⟩
 rintro _ h1 ⟨hle1,hmk⟩;simp;subst hz;refine aa fun z hz=>?_;have cb1:=cb.2.mono hle1;have cc1:=ab hle1 cb.1;have cp1:=ab hle1 cp;simp[cc1,cb1.len];have hms:manyN f f.blocks.length=wK f:=rfl;rw[hms];refine cK (by kernel_rfl) eG ?_ ?_;rotate_left
 ·rintro _ _ ⟨e,rfl,rfl⟩;refine⟨.inl rfl,bad ?_ rfl hle1⟩;rw[gZ,if_neg e1',if_neg e2',if_pos];intro e3;simp at e;omega
 rintro _ h1 ⟨e3,rfl⟩;have e3':¬¬(f.blocks.length<=512/\wK f<=4096):=by simp at e3;omega
 have hchk:gZ f=pR f (hU f (fun _=>none)):=by rw[gZ,if_neg e1',if_neg e2',if_neg e3']
 subst hz;refine aa fun z hz=>?_;simp[y5 cp1 cc1];refine gY ?_;have hle2:=bG h1 (.map #[] 0);have hm2:cA (.int .i64) (h1.push (.map #[] 0)) h1.size (mapE encW fun _=>none):=by rw[kL];exact cA.none (by simp)
 have hs2:(h1.push (.map #[] 0)).size=h1.size+1:=by simp
 generalize h1.push (.map #[] 0)=h2 at hle2 hm2 hs2;refine an (z:=.agg #[.int .i64 0,.slice none 0 0,.map none]) (places:=[(0,2),(2,1)]) (vs:=[(0,.agg #[.int .i64 f.params,vb]),(1,.map (some h1.size))]) (cs:=#[.int .i64 f.params,vb,.map (some h1.size)]) (by kernel_rfl) (by kernel_rfl) (by simp) (by rfl) ?_;refine cS (v:=.agg #[.int .i64 f.params,vb,.map (some h1.size)]) rfl ?_;have hle3:=bG h2 (.cells (Value.cells (.agg #[.int .i64 f.params,vb,.map (some h1.size)])) T.e5);have hbk:(h2.push (.cells (Value.cells (.agg #[.int .i64 f.params,vb,.map (some h1.size)])) T.e5))[h2.size]? = some (.cells #[.int .i64 f.params,vb,.map (some h1.size)] T.e5 (0,0)):=by simp
 have hs3:(h2.push (.cells (Value.cells (.agg #[.int .i64 f.params,vb,.map (some h1.size)])) T.e5)).size=h2.size+1:=by simp
 generalize h2.push (.cells (Value.cells (.agg #[.int .i64 f.params,vb,.map (some h1.size)])) T.e5)=h3 at hle3 hbk hs3;subst hz;have hsk:skip h1.size h3 h2.size=some (.cells #[.int .i64 f.params,vb,.map (some h1.size)] T.e5 (0,0)):=by rw[il (by omega)];exact hbk
 have hle13:=View.le_trans hle2 hle3;have hle1k:(vw h1).le (skip h1.size h3):=fun b o hb=>by have hlt:=View.lt (View.le_refl (vw h1)) hb;rw[il (by omega)];exact hle13 b o hb
 have k3:Lk h3 h2.size h1.size vb f (fun _=>none):=⟨bS hsk rfl,bS hsk rfl,bS hsk rfl,cb1.mono hle1k,hm2.ext hle3⟩;generalize h2.size=Kb at k3;generalize hr:h1.size=r at k3;have hkk : ∀{h':Heap},Kept h3 h' (some r)->(vw hh).le (vw h'):=fun kp b o hb=>by have h1b:=hle1 b o hb;have hlt:=View.lt (View.le_refl (vw h1)) h1b;have h3b:=hle13 b o h1b;have hlt3:=View.lt (View.le_refl (vw h3)) h3b;show _=_;exact(kp.block b hlt3 (by simp;omega)).trans h3b
 refine aa fun z hz=>?_;simp;refine cK (by kernel_rfl) (yE k3) ?_ ?_;rotate_left
 ·rintro _ h4 ⟨t,ht,rfl,kp4⟩;exact⟨.inl rfl,bad (by rw[hchk,ht];rfl) rfl (hkk kp4)⟩
 rintro _ h4 ⟨m4,hm4,k4,kp4⟩;have hto:=yY hm4;rw[hm4]at hchk;have hchk:gZ f=mD f m4 (lf (ofG f.blocks)):=hchk;subst hz;refine aa fun z hz=>?_;simp;have hgl:(ofG f.blocks).length=f.blocks.length:=by simp[ofG]
 refine cK (by kernel_rfl) (z6 k4 (DW hsm.len (by decide)) (fun i hi=>DW (hto i hi) (by decide)) (zw (by omega))) ?_ ?_;rotate_left
 ·rintro _ h5 ⟨t,ht,rfl,hle5⟩;exact⟨.inl rfl,bad (by rw[hchk,ht]) rfl (View.le_trans (hkk kp4) hle5)⟩
 rintro _ h5 ⟨hus,hle5⟩;have hle05:=View.le_trans (hkk kp4) hle5;subst hz;simp;refine dk (g:=h.size+1) (o:=0) (n:=1) (v:=.int .i64 0) (by kernel_rfl) rfl rfl rfl (by simp[Value.oneCell']) (hle05 _ _ hb1) (by simp) fun h6 hs6 ⟨row6,hr6,he6⟩ ho6=>?_;refine dk (g:=h.size+2) (o:=0) (n:=1) (v:=.int .i64 0) (by kernel_rfl) rfl rfl rfl (by simp[Value.oneCell']) ((ho6 _ (by omega)).trans (hle05 _ _ hb2)) (by simp) fun h7 hs7 ⟨row7,hr7,he7⟩ ho7=>?_;refine dk (g:=h.size+3) (o:=0) (n:=1) (v:=.int .i64 0) (by kernel_rfl) rfl rfl rfl (by simp[Value.oneCell']) ((ho7 _ (by omega)).trans ((ho6 _ (by omega)).trans (hle05 _ _ hb3))) (by simp) fun h8 hs8 ⟨row8,hr8,he8⟩ ho8=>?_;rw[one_cell rfl rfl he6]at hr6;rw[one_cell rfl rfl he7]at hr7;rw[one_cell rfl rfl he8]at hr8;refine⟨_,uE,?_⟩;rintro u' h9 ⟨rfl,rfl⟩;have c1:ag (vw h9) ⟨h.size+1,0,none⟩=some (.int .i64 0):=bS (show vw h9 _=_ from(ho8 _ (by omega)).trans ((ho7 _ (by omega)).trans hr6)) rfl
 have c2:ag (vw h9) ⟨h.size+2,0,none⟩=some (.int .i64 0):=bS (show vw h9 _=_ from(ho8 _ (by omega)).trans hr7) rfl;have c3:ag (vw h9) ⟨h.size+3,0,none⟩=some (.int .i64 0):=bS (show vw h9 _=_ from hr8) rfl;refine⟨rfl,[.int .i64 0,.int .i64 0,.int .i64 0],by simp[R.dS,c1,c2,c3],?_⟩;have htold:gx f=(0,0,0):=by rw[gx,hchk,hus]
 refine⟨by simp[htold],fun b o hb=>?_⟩;have hlt:=View.lt (View.le_refl (vw h)) hb;show h9[b]? = _;rw[ho8 b (by omega),ho7 b (by omega),ho6 b (by omega)];exact hle05 _ _ (hle _ _ hb)
theorem oH{f:ae}{v:Value}{h:Heap}(hv:Rd (vw h) v f)(hsm:SmF f):
  aj Tryz.prog N.dQ #[v] h (fun u h'=>u = .bool (decide ((gx f).1=0))/\(vw h).le (vw h')):=by refine ah (args:=[v]) follows F.dQ E.dQ (Dv (by kernel_rfl)) fun K hK=>?_;simp[L.dQ];refine iD rfl hv fun h1 e1 hle1 hs1 hat=>?_;obtain⟨u,hu,hur⟩:=hat.ak rfl;have hu':Un.ev (vw h1) (.ak 2) (.pointer (some ⟨h.size,0,none⟩))=some u:=hu;simp[hu'];refine af (by kernel_rfl) (Af hur hsm) ?_;rintro _ h2 ⟨rfl,hle2⟩;simp;exact hK _ _ ⟨rfl,View.le_trans hle1 hle2⟩
end Go.Proofs.YtnfiilgdjpdlkaaGreatDoor
namespace Go.Lft
open Go
section
variable {po po2 po3:OP} {pp:PP}
structure Raw where
 v:Value
instance:Rep Raw where
 n:=1
 agg:=false
 rd:=fun _ cs d=>cs=[d.v]/\d.v.oneCell'=true
 mono:=fun _ h=>h
 len:=fun h=>by rw[h.1];rfl
 one:=fun _=>rfl
 flat:=fun h u hu=>by rw[h.1]at hu;simp at hu;subst hu;exact h.2
 pos:=FE
 dB:=fun h=>h
instance:Inhabited Raw:=⟨⟨.bool false⟩⟩
theorem nw{H:View}{v:Value}{d:Raw}:Rd H v d↔v=d.v/\d.v.oneCell'=true:=by simp[Rd,Rep.agg,Rep.rd]
theorem At.raw{H:View}{a:Addr}{d:Raw}(h:At H a d):ag H a=some d.v:=by obtain⟨u,h1,h2⟩:=h.load rfl;rw[(nw.1 h2).1]at h1;exact h1
variable{α β:Type}{off:Nat}{W:View}
theorem wQ[Rep α][Rep β]{g:α->β}{s:α->β->α}(p:Part α β off g s){P:Program}{h:Heap}{e:TypeId}{v:Value}{l:List α}{t ty:TypeId}{x y:Operand}{us:List (Nat × Value)}{i:Nat}{u:Value}{d:β}{K:Value->Heap->Prop}(hsz:cH P t=some (Rep.n β))(hx:asg us x = .pointer (some (((slA v).add (i*Rep.n α)).add off)))(hy:asg us y=u)(ho:OwnT W h e v l)(hi:i<l.length)(hr:Rd W u d)(hk : ∀h',h'.size=h.size->OwnT W h' e v (l.set i (s l[i] d))->ic h h' v v->K undef h'):@step po P (.store t x y) ty us h K:=by
 obtain⟨c1,c2,c3⟩:=fh hr;obtain⟨hbd,xs,⟨hxl,hown⟩,hel⟩:=ho;have hf:=p.fits;refine cf (po:=po) (kZ fun w hw=>?_);subst hw;rcases hown with⟨rfl,hn⟩ | ⟨gb,cap,cur,rfl,hg,h1,h2,h3,h4⟩
 ·omega
 have hle:i*Rep.n α+Rep.n α<=l.length*Rep.n α:=by rw[<-Nat.succ_mul];exact DP _ hi
 have hcap:l.length*Rep.n α<=cap*Rep.n α:=DP _ h1;have hlen:u.cells.toList.length=Rep.n β:=by simpa using c2
 have hrun:=run_storeCells_at P gb (i*Rep.n α+off) e u.cells.toList 0 cur w hg (by simp only[Nat.add_zero];omega) c3;have hadd:((slA (.slice (some ⟨gb,0,none⟩) l.length cap)).add (i*Rep.n α)).add off=⟨gb,i*Rep.n α+off,none⟩:=by show((⟨gb,0,none⟩:Addr).add _).add _=_;simp[Addr.z]
 have hszr:=run_sizeOf (P:=P) (w:=w) hsz;obtain⟨row,hrow⟩ : ∃row:Array Value,row.toList=cur.toList.take (i*Rep.n α+off)++u.cells.toList++cur.toList.drop (i*Rep.n α+off+Rep.n β):=⟨(cur.toList.take (i*Rep.n α+off)++u.cells.toList++cur.toList.drop (i*Rep.n α+off+Rep.n β)).toArray,rfl⟩;have hrun':Sem.run P (storeCells ⟨gb,i*Rep.n α+off,none⟩ u.cells.toList) w = .ok () (w.setRow gb row):=by rw[hrun];congr 2;rw[<-Array.toList_inj,hrow,hlen];rfl
 have hrsz:row.size=cap*Rep.n α:=by have:=congrArg List.length hrow;simp only[EJ,DT,Ef,DV,c2]at this;omega
 refine⟨w.setRow gb row,?_,Same.lE rfl rfl rfl (by simp) hg (by simp) (fun k _ hne=>setRow_other w gb k _ (fun e=>hne e)),hk (w.setRow gb row).heap (by simp) ⟨by simpa using hbd,xs.take (i*Rep.n α+off)++u.cells.toList++xs.drop (i*Rep.n α+off+Rep.n β),⟨?_,.inr ⟨gb,cap,row,by simp,setRow_heap w gb cur row e _ hg,by simpa using h1,h2,?_,?_⟩⟩,?_⟩ ⟨⟨by simp,fun k hk hne=>setRow_other w gb k _ (fun e=>hne (by simp[Value.ownBlock,e]))⟩,.inl rfl⟩⟩
 ·simp only[aL,execOp,hx,hy,hadd];simp[Instr.storeAt,Instr.sureAddr,storeVar,hszr,c2,hrun']
 ·simp only[DT,Ef,DV,hlen,Ej];omega
 ·exact hrsz
 ·simp only[Ej];rw[hrow,<-h4,Ev,Ew (by omega),DG,DG];have e1:(cur.toList.take (i*Rep.n α+off)).length=i*Rep.n α+off:=by simp;omega
  rw[EB,e1,DH (by omega)];congr 1;rw[EB,hlen,DH (by omega)];congr 1;rw[Eu];congr 1;omega
 intro j hj;simp only[Ej]at hj;have hjle:j*Rep.n α+Rep.n α<=l.length*Rep.n α:=by rw[<-Nat.succ_mul];exact DP _ hj
 have e1:(xs.take (i*Rep.n α+off)).length=i*Rep.n α+off:=by simp;omega
 by_cases hij:i=j
 ·subst hij;have hset:(l.set i (s l[i] d))[i]'(by simpa using hj)=s l[i] d:=by simp
  rw[hset];have:=p.set (hel i hj) c1;have hcs:((xs.drop (i*Rep.n α)).take (Rep.n α)).length=Rep.n α:=by simp;omega
  have e3:((xs.take (i*Rep.n α+off)++u.cells.toList++xs.drop (i*Rep.n α+off+Rep.n β)).drop (i*Rep.n α)).take (Rep.n α)=((xs.drop (i*Rep.n α)).take (Rep.n α)).take off++u.cells.toList++((xs.drop (i*Rep.n α)).take (Rep.n α)).drop (off+Rep.n β):=by
   rw[DG,Ec (by omega),Eu,F5,Ev,Ew (by omega),DG];have e4:((xs.drop (i*Rep.n α)).take off).length=off:=by simp;omega
   rw[EB,e4,DH (by omega)];congr 1;rw[EB,hlen,DH (by omega)];congr 1;rw[Eu,EK];rw[show i*Rep.n α+(off+Rep.n β)=i*Rep.n α+off+Rep.n β by omega,show Rep.n α-off-Rep.n β=Rep.n α-(off+Rep.n β) by omega]
  rw[e3];exact this
 have hset:(l.set i (s l[i] d))[j]'(by simpa using hj)=l[j]:=by simp[hij]
 rw[hset];have:((xs.take (i*Rep.n α+off)++u.cells.toList++xs.drop (i*Rep.n α+off+Rep.n β)).drop (j*Rep.n α)).take (Rep.n α)=(xs.drop (j*Rep.n α)).take (Rep.n α):=by
  rcases DA j i with hlt | hge
  ·have h5:j*Rep.n α+Rep.n α<=i*Rep.n α:=by rw[<-Nat.succ_mul];exact DP _ hlt
   rw[DG,Ec (by omega),DZ (by simp;omega),Eu,Ev,Ew (by omega)]
  have h5:i*Rep.n α+Rep.n α<=j*Rep.n α:=by rw[<-Nat.succ_mul];exact DP _ (by omega)
  have e2:(xs.take (i*Rep.n α+off)++u.cells.toList).length=i*Rep.n α+off+Rep.n β:=by rw[DT,e1,hlen]
  rw[EL,DX (by omega),D7,e2,EK];congr 2;omega
 rw[this];exact hel j hj
abbrev Key:=Nat × Nat
structure Item where
 α:Type
 rep:Rep α
 e:TypeId
 v:Value
 l:List α
abbrev Own:=Key->Option Item
def it {α:Type} [r:Rep α] (e:TypeId) (v:Value) (l:List α):Option Item:=some ⟨α,r,e,v,l⟩
def bx {α:Type} [r:Rep α] (e:TypeId) (B:Nat) (d:α):Option Item:=some ⟨α,r,e,.slice (some ⟨B,0,none⟩) 1 1,[d]⟩
def Own.upd (o:Own) (k:Key) (i:Option Item):Own:=fun j=>if j=k then i else o j
structure Owns (W:View) (h:Heap) (o:Own):Prop where
 wle:W.le (vw h)
 own : ∀k i,o k=some i->@OwnT i.α i.rep W h i.e i.v i.l
 av : ∀k i,o k=some i->Av W i.v
 dj : ∀k k' i i' b,o k=some i->o k'=some i'->i.v.ownBlock=some b->i'.v.ownBlock=some b->k=k'
section
variable {W:View} {h h':Heap} {o:Own} {k:Key}
theorem Owns.congr{o':Own}(w:Owns W h o)(he : ∀k,o' k=o k):Owns W h o':=by have:o'=o:=funext he;rw[this];exact w
theorem Owns.start(hw:W.le (vw h)):Owns W h (fun _=>.none):=⟨hw,fun _ _ h=>(by cases h),fun _ _ h=>(by cases h),fun _ _ _ _ _ h=>(by cases h)⟩
theorem Owns.get[r:Rep α]{e:TypeId}{v:Value}{l:List α}(w:Owns W h o)(hk:o k=it e v l):OwnT W h e v l:=w.own k _ hk
theorem Owns.now {α:Type} [r:Rep α] {e:TypeId} {v:Value} {l:List α} (w:Owns W h o) (hk:o k=it e v l):SlRd (vw h) v l:=(w.get hk).now w.wle
theorem Owns.at {α:Type} [r:Rep α] {e:TypeId} {B:Nat} {d:α} (w:Owns W h o) (hk:o k=bx e B d):At (vw h) ⟨B,0,.none⟩ d:=by have:SlRd (vw h) (.slice (some ⟨B,0,.none⟩) 1 1) [d]:=w.now (k:=k) hk;have:=this.at (i:=0) (by simp);simpa[slA]using this
theorem Owns.cells {α:Type} [r:Rep α] {e:TypeId} {v:Value} {l:List α} (w:Owns W h o) (hk:o k=it e v l):v.cells = #[v]/\v.oneCell'=true:=by have:=(w.get hk).len (K:=nothing);cases v<;>first | exact⟨rfl,rfl⟩ | (simp[Un.ev,vL]at this)
theorem Owns.lt {i:Item} (w:Owns W h o) (hk:o k=some i) {b:Nat} (hb:i.v.ownBlock=some b):b<h.size:=@OwnT.lt i.α i.rep _ _ _ _ _ (w.own k i hk) _ hb
theorem Owns.ext'(w:Owns W h o)(hle:(vw h).le (vw h')):Owns W h' o:=
 ⟨View.le_trans w.wle hle,fun k i hk=>@OwnT.ext i.α i.rep _ _ _ _ _ _ (w.own k i hk) hle,w.av,w.dj⟩
theorem Owns.ext (w:Owns W h o) (hle:(vw h).le (vw h')):Owns (grow W h h') h' o:=
 ⟨iJ (View.le_trans w.wle hle),fun k i hk=>@OwnT.mono i.α i.rep _ _ _ _ _ (@OwnT.ext i.α i.rep _ _ _ _ _ _ (w.own k i hk) hle) _ (dg w.wle),
  fun k i hk=>(w.av k i hk).grow fun b hb=>w.lt hk hb,w.dj⟩
theorem Owns.Cq{W':View}(w:Owns W h o)(h1:W.le W')(h2:W'.le (vw h))(h3 : ∀k i b,o k=some i->i.v.ownBlock=some b->W' b = .none):Owns W' h o:=
 ⟨h2,fun k i hk=>@OwnT.mono i.α i.rep _ _ _ _ _ (w.own k i hk) _ h1,fun k i hk b hb=>h3 k i b hk hb,w.dj⟩
theorem Owns.sub{o':Own}(w:Owns W h o)(hs : ∀k i,o' k=some i->o k=some i):Owns W h o':=
 ⟨w.wle,fun k i hk=>w.own k i (hs k i hk),fun k i hk=>w.av k i (hs k i hk),fun k k' i i' b hk hk'=>w.dj k k' i i' b (hs k i hk) (hs k' i' hk')⟩
theorem Owns.jE{i:Item}[rb:Rep β]{e2:TypeId}{v':Value}{l':List β}(w:Owns W h o)(hk:o k=some i)(o2:OwnT W h' e2 v' l')(m:ic h h' i.v v'):Owns W h' (o.upd k (it e2 v' l')):=by
 obtain⟨w1,a1⟩:=m.view w.wle (w.av k i hk);have new : ∀(y:Item) (q:Key) (b:Nat),o q=some y->y.v.ownBlock=some b->v'.ownBlock=some b->q=k:=fun y q b hq hb hv=>by
  rcases m.at_ with e | e
  ·exact w.dj q k y i b hq hk hb (e▸hv)
  rw[e]at hv;simp only[o0]at hv;have:=w.lt hq hb;omega
 refine⟨w1,fun j x hj=>?_,fun j x hj=>?_,fun j j' x x' b hj hj' hb hb'=>?_⟩
 ·unfold Own.upd at hj;split at hj
  ·cases hj;exact o2
  rename_i hjk;refine @OwnT.kept x.α x.rep _ _ _ _ _ _ (w.own j x hj) _ m.kept ?_;cases hx:x.v.ownBlock with
  | none=>exact .inl rfl
  | some b=>exact .inr fun e=>hjk (w.dj j k x i b hj hk hx e.symm)
 ·unfold Own.upd at hj;split at hj
  ·cases hj;exact a1
  exact(m.view w.wle (w.av k i hk) |>.1:_) |> fun _=>w.av j x hj
 unfold Own.upd at hj hj';split at hj
 ·rename_i a;cases hj;split at hj'
  ·rename_i c;rw[a,c]
  rw[a];exact(new x' j' b hj' hb' hb).symm
 split at hj'
 ·rename_i c;cases hj';rw[c];exact new x j b hj hb hb'
 exact w.dj j j' x x' b hj hj' hb hb'
theorem Owns.add[rb:Rep β]{e2:TypeId}{v':Value}{l':List β}(w:Owns W h o)(hk:o k = .none)(o2:OwnT W h' e2 v' l')(hle:(vw h).le (vw h'))(hb : ∀b,v'.ownBlock=some b->h.size<=b):Owns W h' (o.upd k (it e2 v' l')):=by
 have w1:=w.ext' hle;refine⟨w1.wle,fun j x hj=>?_,fun j x hj=>?_,fun j j' x x' b hj hj' hb1 hb2=>?_⟩
 ·unfold Own.upd at hj;split at hj
  ·cases hj;exact o2
  exact w1.own j x hj
 ·unfold Own.upd at hj;split at hj
  ·cases hj;intro b hb';exact View.cJ w.wle (hb b hb')
  exact w.av j x hj
 unfold Own.upd at hj hj';split at hj
 ·rename_i a;cases hj;split at hj'
  ·rename_i c;rw[a,c]
  have:=w.lt hj' hb2;have:=hb b hb1;omega
 split at hj'
 ·cases hj';have:=w.lt hj hb1;have:=hb b hb2;omega
 exact w.dj j j' x x' b hj hj' hb1 hb2
theorem Own.aw{i:Option Item}:o.upd k i k=i:=by simp[Own.upd]
theorem Own.uM{i:Option Item}{j:Key}(hj:j≠k):o.upd k i j=o j:=by simp[Own.upd,hj]
theorem pa[Rep β]{B:Nat}{e:TypeId}{v:Value}{d:β}(hb:h[B]? = some (.cells v.cells e (0,0)))(hr:Rd W v d)(hn:Rep.n β<=1000):OwnT W h e (.slice (some ⟨B,0,.none⟩) 1 1) [d]:=by
 obtain⟨c1,c2,c3⟩:=fh hr;refine⟨by simp,v.cells.toList,⟨by simp[c2],.inr ⟨B,1,v.cells,rfl,hb,Dy _,by simp[maxLen],by omega,?_⟩⟩,fun i hi=>?_⟩
 ·rw[DH];simp[c2]
 have:i=0:=by simpa using hi
 subst this;simp only[FH,E0,Fs];rw[DH (by simp[c2])];exact c1
section
variable {P:Program} {ty:TypeId} {us:List (Nat × Value)} {α:Type} [r:Rep α] {e:TypeId} {v:Value} {l:List α}
theorem Owns.fY {t:TypeId} {bytes:Nat} {z:Value} {x y:Operand} {u:Value} {l2:List α} {K:Value->Heap->Prop} (w:Owns W h o) (hk:o k=it e v l) (hT:eR P t e (Rep.n α) bytes z) (hx:asg us x=v) (hy:asg us y=u)
  (hs:SrcT (vw h) W u l2) (hb:(l.length+l2.length)*bytes<=140737488355328) (hb2:l.length+l2.length<=140737488355328)
  (hK : ∀v' h',Owns W h' (o.upd k (it e v' (l++l2)))->ic h h' v v'->K v' h'):@step po P (.call ⟨.builtin .append,#[x,y],#[t,t]⟩) ty us h K:=
 Lft.fY hT hx hy (w.get hk) hs hb hb2 fun v' h' o2 m=>hK v' h' (w.jE hk o2 m) m
variable{bytes:Nat}
theorem Owns.wC{t ty2:TypeId}{z:Value}{x y y2:Operand}{us2:Value->List (Nat × Value)}{u:Value}{d:α}{K:Value->Value->Heap->Prop}(w:Owns W h o)(hk:o k=it e v l)(hT:eR P t e (Rep.n α) bytes z)(hx:asg us x=u)(hr:Rd W u d)(hb:(l.length+1)*bytes<=140737488355328)(hb2:l.length+1<=140737488355328)(hy : ∀u,asg (us2 u) y=v)(hy2 : ∀u,asg (us2 u) y2=u)(hK : ∀u v' h',Owns W h' (o.upd k (it e v' (l++[d])))->h.size<=h'.size->K u v' h'):
  @step po P (.buildSlice t 1 #[(0,x)]) ty us h fun u h2=>@step po2 P (.call ⟨.builtin .append,#[y,y2],#[t,t]⟩) ty2 (us2 u) h2 fun v' h3=>K u v' h3:=by refine rF (po:=po) hT hx hr fun u h2 hs hle hsz=>?_;exact(w.ext' hle).fY hk hT (hy u) (hy2 u) hs hb hb2 fun v' h3 w3 m=>hK u v' h3 w3 (by have:=m.kept.size;omega)
theorem Owns.od[Rep β]{g:α->β}{s:α->β->α}(p:Part α β off g s){t:TypeId}{x y:Operand}{i:Nat}{u:Value}{d:β}{K:Value->Heap->Prop}(w:Owns W h o)(hk:o k=it e v l)(hsz:cH P t=some (Rep.n β))(hx:asg us x = .pointer (some (((slA v).add (i*Rep.n α)).add off)))(hy:asg us y=u)(hi:i<l.length)(hr:Rd W u d)(hK : ∀h',Owns W h' (o.upd k (it e v (l.set i (s l[i] d))))->h'.size=h.size->K undef h'):@step po P (.store t x y) ty us h K:=
 wQ (po:=po) p hsz hx hy (w.get hk) hi hr fun h' hs o2 m=>hK h' (w.jE hk o2 m) hs
theorem Owns.tL[Rep β]{g:α->β}{s:α->β->α}(p:Part α β off g s){t:TypeId}{x y:Operand}{B:Nat}{D:α}{u:Value}{d:β}{K:Value->Heap->Prop}(w:Owns W h o)(hk:o k=bx e B D)(hsz:cH P t=some (Rep.n β))(hx:asg us x = .pointer (some ⟨B,off,.none⟩))(hy:asg us y=u)(hr:Rd W u d)(hK : ∀h',Owns W h' (o.upd k (bx e B (s D d)))->h'.size=h.size->K undef h'):@step po P (.store t x y) ty us h K:=
 w.od (po:=po) (v:=.slice (some ⟨B,0,.none⟩) 1 1) (l:=[D]) (i:=0) p hk hsz (by rw[hx];simp[slA,Addr.z]) hy (by simp) hr fun h' w' hs=>hK h' w' hs
end
end
theorem sG{h0 h1 h2 h3:Heap}(hs:h0.size<=h1.size)(hle:(vw h2).le (vw h3)):(fresh h1 h2).le (grow W h0 h3):=fun b o hb=>by
 unfold fresh at hb;split at hb
 ·cases hb
 unfold grow;rw[if_neg (by omega)];exact hle b o hb
theorem xf{h0 h1 h2:Heap}(hle:(vw h1).le (vw h2)):(grow W h0 h1).le (grow W h0 h2):=fun b o hb=>by
 unfold grow at hb ⊢;split
 ·rename_i hlt;rw[if_pos hlt]at hb;exact hb
 rename_i hlt;rw[if_neg hlt]at hb;exact hle b o hb
theorem dm{h0 h1:Heap}{b:Nat}(hb:h0.size<=b):grow W h0 h1 b=h1[b]?:=by unfold grow;rw[if_neg (by omega)]
variable{bytes:Nat}
theorem Al[Rep α]{P:Program}{t e:TypeId}{z:Value}{ty:TypeId}{us:List (Nat × Value)}{h:Heap}{K:Value->Heap->Prop}(hT:eR P t e (Rep.n α) bytes z)(hk : ∀h',(vw h).le (vw h')->h'.size=h.size+1->(∀W,OwnT (α:=α) W h' e (.slice (some ⟨h.size,0,none⟩) 0 0) [])->K (.slice (some ⟨h.size,0,none⟩) 0 0) h'):@step po P (.buildSlice t 0 #[]) ty us h K:=by refine qK (n:=0) (size:=Rep.n α) (vs:=[]) (cs:=#[]) hT (by omega) (by simp) (by simp only[Instr.fill,FH];rw[show Array.range 0 = #[] by simp[Array.range_zero'],Array.map_empty]) (hk _ (bG _ _) (by simp) fun W=>⟨by simp,[],⟨by simp,.inr ⟨h.size,0,#[],rfl,by simp,Dy _,by simp[maxLen],by simp,by simp⟩⟩,fun i hi=>by simp at hi⟩)
theorem Mine.empty[Rep α]{V:View}{h0 h h':Heap}{e:TypeId}(hle:(vw h0).le (vw h))(hle2:(vw h).le (vw h'))(hW:W.le (vw h))(ho:Old V h0 W)(own : ∀W,OwnT (α:=α) W h' e (.slice (some ⟨h.size,0,none⟩) 0 0) []):Mine (α:=α) V h0 h' W e (.slice (some ⟨h.size,0,none⟩) 0 0) []:=
 ⟨View.le_trans hle hle2,View.le_trans hW hle2,fun b hb=>by cases hb;exact View.cJ hW (Dy _),fun b hb=>by cases hb;exact View.cJ hle (Dy _),ho,own W⟩
theorem Owns.atW{h:Heap}{o:Own}{k:Key}[r:Rep α]{e:TypeId}{B:Nat}{d:α}(w:Owns W h o)(hk:o k=bx e B d): ∃cs,gM (vw h) ⟨B,0,none⟩ cs/\Rep.rd W cs d:=by
 obtain⟨hb,xs,⟨hl,hown⟩,hel⟩:=w.get (k:=k) (v:=.slice (some ⟨B,0,none⟩) 1 1) (l:=[d]) hk;have h0:=hel 0 (by simp);simp only[FH,E0,Fs,EE,Gc]at h0 hl;rw[DH (by omega)]at h0;rcases hown with⟨h1,_⟩ | ⟨g,cap,cur,h1,h2,h3,h4,h5,h6⟩
 ·cases h1
 simp only[Value.slice.injEq,o0,Addr.mk.injEq]at h1;obtain⟨⟨rfl,_⟩,_⟩:=h1;refine⟨xs,⟨cur,e,(0,0),rfl,h2,?_⟩,h0⟩;rw[hl,E0];simpa using h6
theorem Owns.qi{h:Heap}{o:Own}{k:Key}{P:Program}{ty:TypeId}{us:List (Nat × Value)}[r:Rep α][Rep β]{e:TypeId}{g:α->β}{s:α->β->α}(p:Part α β off g s){t:TypeId}{x y:Operand}{B:Nat}{D:α}{u:Value}{d:β}{K:Value->Heap->Prop}(w:Owns W h o)(hk:o k=bx e B D)(hsz:cH P t=some (Rep.n β))(hx:asg us x = .pointer (some ⟨B,off,.none⟩))(hy:asg us y=u)(hr:Rd W u d)(hK : ∀h',Owns W h' (o.upd k (bx e B (s D d)))->(∀X:View,X.le (vw h)->X B = .none->X.le (vw h'))->K undef h'):@step po P (.store t x y) ty us h K:=
 wQ (po:=po) p (v:=.slice (some ⟨B,0,.none⟩) 1 1) (l:=[D]) (i:=0) hsz (by rw[hx];simp[slA,Addr.z]) hy (w.get (k:=k) (v:=.slice (some ⟨B,0,.none⟩) 1 1) (l:=[D]) hk) (by simp) hr fun h' hs o2 m=>hK h' (w.jE hk o2 m) fun X hX hB=>(m.view hX fun b hb=>by simp only[Value.ownBlock,o0]at hb;subst hb;exact hB).1
theorem gj{P:Program}{c:E}{kill:List Nat}{x y:LC}{Q:Post}{ρ:Env}{h:Heap}(hc:ev (look ρ) (vw h) c=some (.bool true))(hx:x.wp P Q (bu ρ kill) h):LC.wp P (.cond c kill x y) Q ρ h:=by rw[mJ,hc,uo];exact hx
theorem fW{P:Program}{c:E}{kill:List Nat}{x y:LC}{Q:Post}{ρ:Env}{h:Heap}(hc:ev (look ρ) (vw h) c=some (.bool false))(hy:y.wp P Q (bu ρ kill) h):LC.wp P (.cond c kill x y) Q ρ h:=by rw[mJ,hc,sZ];exact hy
end
end Go.Lft
namespace Go.Proofs.YtnfiilgdjpdlkaaGreatDoor
open Go Go.Lft
structure Th where
 blk:Int
 place:Int
 mks:List Int
 tks:List Int
 deriving Inhabited
def phiT (f:ae) (b i:Nat):Th:=⟨b,-1-i,[(nth (nth f.blocks b).phis i).dst],(nth (nth f.blocks b).phis i).ins.map InD.val⟩
def insT (f:ae) (b i:Nat):Th:=⟨b,i,gH (nth (nth f.blocks b).ins i),(nth (nth f.blocks b).ins i).args⟩
def endT (f:ae) (b:Nat):Th:=⟨b,(nth f.blocks b).ins.length,[],(nth f.blocks b).term.args⟩
def thB (f:ae) (b:Nat):List Th:=rows (phiT f b) (nth f.blocks b).phis.length++rows (insT f b) (nth f.blocks b).ins.length++[endT f b]
def thTo (f:ae) (n:Nat):List Th:=up (fun b l=>l++thB f b) n []
def aK (f:ae):List Th:=thTo f f.blocks.length
theorem gi{f:ae}{n:Nat}:thTo f (n+1)=thTo f n++thB f n:=rfl
theorem zd{f:ae}{n m:Nat}(h:n<=m):thTo f n <+: thTo f m:=by
 induction m with
 | zero=>rw[show n=0 by omega];exact EM _
 | succ m ih=>
  rcases DA n (m+1)with h1 | h1
  ·exact(ih (by omega)).trans ⟨_,gi.symm⟩
  rw[show n=m+1 by omega];exact EM _
theorem tP{β:Type}{x:Nat->β}{n m:Nat}(h:n<=m):rows x n <+: rows x m:=by
 induction m with
 | zero=>rw[show n=0 by omega];exact EM _
 | succ m ih=>
  rcases DA n (m+1)with h1 | h1
  ·exact(ih (by omega)).trans ⟨_,fA.symm⟩
  rw[show n=m+1 by omega];exact EM _
theorem qW{α:Type}{a b c:List α}(h:b <+: c):a++b <+: a++c:=by obtain⟨t,rfl⟩:=h;exact⟨t,by simp⟩
structure ThJ (J:List Th->View->Heap->Prop):Prop where
 le : ∀{l W h},J l W h->W.le (vw h)
 ext : ∀{l W h h'},J l W h->(vw h).le (vw h')->J l (grow W h h') h'
theorem xx{f:ae}{v:Value}{h:Heap}{V:View}{gf:Nat}{caps:List Value}{J:List Th->View->Heap->Prop}(hv:Rd V v f)(hsm:SmF f)(hJ:ThJ J)(hg:isFn Tryz.prog gf=true)(h0:J [] V h)(hstep : ∀(l:List Th) (t:Th) (W:View) (h1:Heap) (vm vt:Value),V.le W->l++[t] <+: aK f->J l W h1->SlRd W vm t.mks->SlRd W vt t.tks->aj Tryz.prog gf (.int .i64 t.blk::.int .i64 t.place::vm::vt::caps).toArray h1 (fun _ h2=>J (l++[t]) W h2)):
  aj Tryz.prog N.bj #[v,.func (.func gf) #[] caps.toArray] h (fun _ h'=>∃W,V.le W/\J (aK f) W h'):=by
 refine ah (args:=[v,.func (.func gf) #[] caps.toArray]) follows F.bj E.bj (Dv (by kernel_rfl)) fun K hK=>?_;dsimp only[L.bj];refine aa fun z hz=>?_;simp;refine iD rfl (hv.mono (hJ.le h0)) fun h1 e1 hle1 hs1 hat=>?_;have j1:=hJ.ext h0 hle1;obtain⟨cp,vb,cb⟩:=j9 hat;have hvb:SlRd V vb f.blocks:=by
  obtain⟨u,hu,hur⟩:=hv.Cf ae.pj rfl rfl (K:=vw h);have e:vb=u:=by
   have hv' : ∃cs:Array Value,v = .agg cs/\Rep.rd V cs.toList f:=hv;obtain⟨cs,rfl,hcs⟩:=hv';have hb:h1[h.size]? = some (.cells cs T.ig (0,0)):=by rw[e1];simp
   have h3:ag (vw h1) ⟨h.size,1,none⟩=cs[1]?:=by simp[ag,vw,hb]
   simp at hu;rw[cb.1]at h3;rw[hu]at h3;exact Option.some.inj h3
  rw[e];exact dG.1 hur
 have hVW:V.le (grow V h h1):=dg (hJ.le h0);generalize grow V h h1=W1 at j1 hVW;generalize h.size=B at cb;have hbb:=cb.2.bound;subst hz;simp[cb.1,cb.2.len];refine ao [1,14,15,16] (fun(_:Unit) b=>[.func (.func gf) #[] caps.toArray,vb,.int .i64 f.blocks.length,.int .i64 b]) (fun _ b h2=>∃W,V.le W/\J (thTo f b) W h2) f.blocks.length ()
  rfl (by omega) rfl ⟨W1,hVW,j1⟩ (fun _ _=>rfl) (fun v i h1 hk m=>by simp) ?_ ?_
 ·rintro _ b h2 hltb ⟨W2,hW2,j2⟩ K2 hK2;have hvb2:=hvb.mono (View.le_trans hW2 (hJ.le j2));obtain⟨u,hu,hur⟩:=(hvb.mono hW2).wh rfl (N:=6) rfl hltb;refine aa fun z hz=>?_;simp(disch:=omega)[hvb2.idxn (N:=6) rfl,hu _ (hJ.le j2)];refine dc (X:=W2) (z:=.agg #[.slice none 0 0,.slice none 0 0,.int .i64 0,.slice none 0 0,.slice none 0 0,.int .i32 0]) (by kernel_rfl) rfl (by kernel_rfl) hur (fun _=>by simp) (fun _=>by simp) fun h3 hle3 hsz3 hat3=>?_;have j3:=hJ.ext j2 hle3
  have hat3':=hat3 (grow W2 h2 h3) (dg (hJ.le j2)) (by unfold grow;rw[if_neg (by omega)]);obtain⟨vp,vi,va,vt,bp,bi,bk,ba,bt⟩:=gS hat3';have hVW3:=View.le_trans hW2 (dg (h':=h3) (hJ.le j2));generalize grow W2 h2 h3=W3 at j3 hVW3 bp bi bk ba bt;generalize h2.size=D at bp bi bk ba bt;have hpre:thTo f b++thB f b <+: aK f:=by rw[<-gi];exact zd hltb
  subst hz;have bph:=bp.2.bound;have bih:=bi.2.bound;refine aa fun z hz=>?_;simp[ab (hJ.le j3) bp.1,bp.2.len];refine ao [1,4,5,14,15,16,22,23,24] (fun(_:Unit) i=>[.func (.func gf) #[] caps.toArray,.int .i64 b,.pointer (some ⟨D,0,none⟩),vb,.int .i64 f.blocks.length,.int .i64 b,vp,.int .i64 (nth f.blocks b).phis.length,.int .i64 i])
   (fun _ i h4=>∃W,W3.le W/\J (thTo f b++rows (phiT f b) i) W h4) (nth f.blocks b).phis.length ()
   rfl (by omega) rfl ⟨W3,View.le_refl _,by simpa using j3⟩ (fun _ _=>rfl) (fun v i h1 hk m=>by simp) ?_ ?_
  ·rintro _ i h4 hlti ⟨W4,hW4,j4⟩ K3 hK3;have bp4:=bp.2.mono (View.le_trans hW4 (hJ.le j4));obtain⟨u4,hu4,hur4⟩:=bp4.wh rfl (N:=2) rfl hlti;refine aa fun y hy=>?_;simp(disch:=omega)[bp4.idxn (N:=2) rfl,hu4 _ (View.le_refl _)];refine dc (z:=.agg #[.int .i64 0,.slice none 0 0]) (by kernel_rfl) rfl (by kernel_rfl) hur4 (fun _=>by simp) (fun _=>by simp) fun h5 hle5 hsz5 hat5=>?_;obtain⟨c0,vq,cq⟩:=rI (hat5 (vw h5) hle5 rfl);have rd:=((hat5 (vw h5) hle5 rfl).part PhiD.gK).rng
   have hpl:=(hsm.blk b hltb).phi i hlti;have hpt:phiT f b i=⟨b,-1-i,[(nth (nth f.blocks b).phis i).dst],(nth (nth f.blocks b).phis i).ins.map InD.val⟩:=rfl;generalize nth (nth f.blocks b).phis i=x at c0 cq rd hpt hpl;generalize h4.size=D4 at c0 cq;have bq:=cq.2.bound;subst hy;refine aa fun y hy=>?_;simp;subst hy;refine aa fun y hy=>?_;simp[cq.1,cq.2.len];refine ao [1,4,5,6,7,8,14,15,16,22,23,24,30,31,32] (fun(r:Value) j=>[.func (.func gf) #[] caps.toArray,.int .i64 b,.pointer (some ⟨D,0,none⟩),.int .i64 i,.pointer (some ⟨D4,0,none⟩),r,vb,.int .i64 f.blocks.length,.int .i64 b,vp,.int .i64 (nth f.blocks b).phis.length,.int .i64 i,vq,.int .i64 x.ins.length,.int .i64 j])
    (fun r j h6=>Mine nothing h5 h6 nothing T.int r ((x.ins.map InD.val).take j)) x.ins.length (.slice none 0 0)
    rfl (by omega) rfl (Mine.start bO) (fun _ _=>rfl) (fun v i h1 hk m=>by simp) ?_ ?_
   ·rintro r j h6 hltj m6 K4 hK4;have cq6:=cq.2.mono m6.old;obtain⟨u6,hu6,hur6⟩:=cq6.wh rfl (N:=2) rfl hltj;refine aa fun q hq=>?_;simp(disch:=omega)[cq6.idxn (N:=2) rfl,hu6 _ (View.le_refl _)];refine dc (z:=.agg #[.int .i64 0,.int .i64 0]) (by kernel_rfl) rfl (by kernel_rfl) hur6 (fun _=>by simp) (fun _=>by simp) fun h7 hle7 hsz7 hat7=>?_;have e1:=(uq (hat7 (vw h7) hle7 rfl)).2
    have rv:=((hat7 (vw h7) hle7 rfl).part InD.AU).rng;generalize h6.size=D6 at e1;subst hq;simp[e1];have hl8:((x.ins.map InD.val).take j).length=j:=by simp;omega
    refine(m6.ext' hle7).push (d:=(nth x.ins j).val) El.ck (by simp<;>rfl) (lX rv.1 rv.2) (by omega) (by omega) (fun _=>by simp) (fun _=>by simp) fun u8 v8 h8 m8=>?_;refine hK4 v8 _ _ rfl rfl ?_;rw[List.take_add_one,EW,Ee hltj];rw[aq hltj]at m8;exact m8
   rintro r h6 m6;rw[DH (by simp)]at m6;simp;subst hy;simp(disch:=omega)[ab m6.old c0];refine mj (X:=nothing) (ds:=[x.dst]) (vs:=[.int .i64 x.dst]) rfl El.ck (by simp) ⟨bh.2 ⟨rfl,rd⟩,trivial⟩ bO rfl (by omega) fun u7 h7 hle7 hsz7 hu7 _=>?_;have hle47:=View.le_trans hle5 (View.le_trans m6.old hle7);have j7:=hJ.ext j4 hle47;have hW7:=View.le_trans hW4 (dg (h':=h7) (hJ.le j4));have pre:(thTo f b++rows (phiT f b) i)++[phiT f b i] <+: aK f:=by rw[DG,<-fA];exact(qW ((tP hlti).trans ⟨_,(DG ..).symm⟩)).trans hpre
   rw[hpt]at pre;refine bL (ops:=[.tmp 43,.tmp 45,.tmp 48,.tmp 49]) rfl hg (hstep _ ⟨b,-1-i,[x.dst],x.ins.map InD.val⟩ _ h7 u7 r (View.le_trans hVW3 hW7) pre j7 (hu7 _ bO (dm (by have:=cO hle5;have:=cO m6.old;omega))) (m6.fresh.mono (sG (cO hle5) hle7))) ?_;rintro _ h8 j8;exact hK3 () _ _ rfl rfl ⟨_,hW7,by rw[fA,<-List.append_assoc,hpt];exact j8⟩
  rintro _ h4 ⟨W4,hW4,j4⟩;simp;subst hz;refine aa fun z hz=>?_;have hW4h:=View.le_trans hW4 (hJ.le j4);simp[ab hW4h bi.1,(bi.2.mono hW4h).len];refine ao [1,4,5,14,15,16,53,54,55] (fun(_:Unit) i=>[.func (.func gf) #[] caps.toArray,.int .i64 b,.pointer (some ⟨D,0,none⟩),vb,.int .i64 f.blocks.length,.int .i64 b,vi,.int .i64 (nth f.blocks b).ins.length,.int .i64 i])
   (fun _ i h5=>∃W,W3.le W/\J (thTo f b++rows (phiT f b) (nth f.blocks b).phis.length++rows (insT f b) i) W h5) (nth f.blocks b).ins.length ()
   rfl (by omega) rfl ⟨W4,hW4,by simpa using j4⟩ (fun _ _=>rfl) (fun v i h1 hk m=>by simp) ?_ ?_
  ·rintro _ i h5 hlti ⟨W5,hW5,j5⟩ K3 hK3;have bi5:=bi.2.mono (View.le_trans hW5 (hJ.le j5));obtain⟨u5,hu5,hur5⟩:=(bi.2.mono hW5).wh rfl (N:=5) rfl hlti;refine aa fun y hy=>?_;simp(disch:=omega)[bi5.idxn (N:=5) rfl,hu5 _ (hJ.le j5)];refine dc (z:=.agg #[.int .i64 0,.int .i64 0,.int .i64 0,.slice none 0 0,.int .i32 0]) (by kernel_rfl) rfl (by kernel_rfl) hur5 (fun _=>by simp) (fun _=>by simp) fun h6 hle6 hsz6 hat6=>?_;have hatg:=hat6 (grow W5 h5 h6) (dg (hJ.le j5)) (dm (Dy _))
   have hat6':=hatg.mono (iJ (View.le_trans (hJ.le j5) hle6));obtain⟨_,_,_,vq,cq⟩:=iF hatg;obtain⟨w,w1,w2⟩:=hat6'.ak rfl;have w1:Un.ev (vw h6) (.ak 5) (.pointer (some ⟨h5.size,0,none⟩))=some w:=w1;have hpt:insT f b i=⟨b,i,gH (nth (nth f.blocks b).ins i),(nth (nth f.blocks b).ins i).args⟩:=rfl;generalize nth (nth f.blocks b).ins i=x at cq w2 hpt;generalize h5.size=D5 at cq w1;subst hy;have hg6:(grow W5 h5 h6).le (vw h6):=iJ (View.le_trans (hJ.le j5) hle6);refine bR (vw h6) (View.le_refl _) ?_;simp[ab hg6 cq.1,w1];refine af (by kernel_rfl) (sA w2) ?_;rintro u7 h7 ⟨hle7,hu7⟩;refine⟨hle7,?_⟩;have hle57:=View.le_trans hle6 hle7;have j7:=hJ.ext j5 hle57;have hW7:=View.le_trans hW5 (dg (h':=h7) (hJ.le j5));have pre:(thTo f b++rows (phiT f b) (nth f.blocks b).phis.length++rows (insT f b) i)++[insT f b i] <+: aK f:=by rw[DG,<-fA,DG];refine(qW ?_).trans hpre;exact(qW (tP hlti)).trans ⟨_,rfl⟩
   rw[hpt]at pre;refine bL (ops:=[.tmp 61,.tmp 62,.tmp 64,.tmp 66]) rfl hg (hstep _ ⟨b,i,gH x,x.args⟩ _ h7 u7 vq (View.le_trans hVW3 hW7) pre j7 (hu7.mono (sG (cO hle6) (View.le_refl _))) (cq.2.mono (xf hle7))) ?_;rintro _ h8 j8;exact hK3 () _ _ rfl rfl ⟨_,hW7,by rw[fA,<-List.append_assoc,hpt];exact j8⟩
  rintro _ h5 ⟨W5,hW5,j5⟩;simp;subst hz;have hW5h:=View.le_trans hW5 (hJ.le j5);simp[ab hW5h bi.1,(bi.2.mono hW5h).len,ab hW5h ba.1];have pre:(thTo f b++rows (phiT f b) (nth f.blocks b).phis.length++rows (insT f b) (nth f.blocks b).ins.length)++[endT f b] <+: aK f:=by rw[DG,DG,<-List.append_assoc (rows _ _)];exact hpre
  refine bL (ops:=[.tmp 70,.tmp 73,.const (.slice none 0 0),.tmp 76]) rfl hg (hstep _ ⟨b,(nth f.blocks b).ins.length,[],(nth f.blocks b).term.args⟩ _ h5 (.slice none 0 0) va (View.le_trans hVW3 hW5) pre j5 aF (ba.2.mono hW5)) ?_;rintro _ h6 j6;refine hK2 () _ _ rfl rfl ⟨_,View.le_trans hVW3 hW5,?_⟩;have e:thTo f (b+1)=(thTo f b++rows (phiT f b) (nth f.blocks b).phis.length++rows (insT f b) (nth f.blocks b).ins.length)++[endT f b]:=by rw[gi,thB];simp[DG]
  rw[e];exact j6
 rintro _ h2 ⟨W2,hW2,j2⟩;simp;exact hK _ _ ⟨W2,hW2,j2⟩
theorem kO {α β:Type} (I:β->Prop) {f:β->α->β} (hf : ∀x a,I x->I (f x a)) : ∀(l:List α) (x:β),I x->I (l.foldl f x)
 | [],_,h=>h
 | a::l,x,h=>kO I hf l _ (hf x a h)
theorem yg{β:Type}{x:Nat->β}{n:Nat}{y:β}:y∈rows x n↔∃i,i<n/\y=x i:=by simp only[rows,Ex,EC];exact⟨fun⟨i,h,e⟩=>⟨i,h,e.symm⟩,fun⟨i,h,e⟩=>⟨i,h,e.symm⟩⟩
theorem fi{f:ae}{n:Nat}{t:Th}:t∈thTo f n↔∃b,b<n/\t∈thB f b:=by
 induction n with
 | zero=>simp[thTo,up]
 | succ n ih=>
  rw[gi,DE,ih];constructor
  ·rintro(⟨b,h1,h2⟩ | h)
   ·exact⟨b,by omega,h2⟩
   exact⟨n,by omega,h⟩
  rintro⟨b,h1,h2⟩;rcases DA b n with h | h
  ·exact .inl ⟨b,h,h2⟩
  rw[show b=n by omega]at h2;exact .inr h2
theorem gq{f:ae}{b:Nat}{t:Th}:t∈thB f b↔(∃i,i<(nth f.blocks b).phis.length/\t=phiT f b i)\/(∃i,i<(nth f.blocks b).ins.length/\t=insT f b i)\/t=endT f b:=by simp only[thB,DE,yg,DF,or_assoc]
theorem vK{i:InsD}:(gH i).length<=2:=by unfold gH;split<;>(try split)<;>simp
structure ThOk (f:ae) (t:Th):Prop where
 blk:0<=t.blk/\t.blk<f.blocks.length
 place:-10000<=t.place/\t.place<=10000
 mks:t.mks.length<=10000
 tks:t.tks.length<=10000
 ins:0<=t.place->t.mks≠[]->t.place<(nth f.blocks t.blk.toNat).ins.length
theorem rX{f:ae}(hsm:SmF f){t:Th}(h:t∈aK f):ThOk f t:=by
 obtain⟨b,hb,h⟩:=fi.1 h;have s:=hsm.blk b hb;have sp:=s.phis;have si:=s.ins;rcases gq.1 h with⟨i,hi,rfl⟩ | ⟨i,hi,rfl⟩ | rfl
 ·exact⟨⟨by simp[phiT],by simp[phiT];omega⟩,by simp only[phiT];omega,by simp[phiT],by simpa[phiT]using s.phi i hi,fun h=>by simp only[phiT]at h;omega⟩
 ·refine⟨⟨by simp[insT],by simp[insT];omega⟩,by simp only[insT];omega,DW vK (by decide),s.inn i hi,fun _ _=>by simp[insT];omega⟩
 exact⟨⟨by simp[endT],by simp[endT];omega⟩,by simp only[endT];omega,by simp[endT],s.args,fun _ h=>absurd rfl h⟩
theorem sW {f:ae} (hsm:SmF f) : ∀{n:Nat},n<=f.blocks.length->(thTo f n).length<=n*20001
 | 0,_=>by simp[thTo,up]
 | n+1,h=>by have ih:=sW hsm (n:=n) (by omega);have s:=hsm.blk n (by omega);have sp:=s.phis;have si:=s.ins;rw[gi,DT,thB];simp only[DT,sY,EE];omega
theorem tT{f:ae}(hsm:SmF f):(aK f).length<=200010000:=by have:=sW hsm (Dy f.blocks.length);have:=hsm.len;unfold aK;omega
abbrev WL:=List (Int × Int)
def aS (val:Int) (w:Int × Int) (l:WL) (n:Int):WL:=if n=val then l++[w] else l
def qR (val:Int) (l:WL) (t:Th):WL:=t.mks.foldl (aS val (t.blk,t.place)) l
def og (val:Int) (l:WL) (t:Th):WL:=t.tks.foldl (aS val (t.blk,t.place)) l
variable{val:Int}
theorem gr{w:Int × Int}{ns:List Int}: ∀{l:WL},(ns.foldl (aS val w) l).length<=l.length+ns.length:=by
 induction ns with
 | nil=>simp
 | cons n ns ih=>
  intro l;rw[DS];have:=ih (l:=aS val w l n);have h2:(aS val w l n).length<=l.length+1:=by unfold aS;split<;>simp
  simp only[Ek];omega
theorem oN{F:WL->Th->WL}{c:Nat}{l:List Th}(h : ∀t∈l,∀x,(F x t).length<=x.length+c): ∀(x:WL),(l.foldl F x).length<=x.length+l.length*c:=by
 induction l with
 | nil=>simp
 | cons t l ih=>intro x;rw[DS];have h1:=ih (fun t ht=>h t (DB _ ht)) (F x t);have h2:=h t (Dz ..) x;simp only[Ek,D9];omega
def mb (B1:Nat) (v1:Value) (l1:WL) (B2:Nat) (v2:Value) (l2:WL):Own:=fun k=>if k=(0,0) then bx T.aH B1 (Raw.mk v1) else if k=(0,1) then it T.fE v1 l1 else if k=(1,0) then bx T.aH B2 (Raw.mk v2) else if k=(1,1) then it T.fE v2 l2 else none
structure Fo (val:Int) (C B1 B2:Nat) (l1 l2:WL) (W:View) (h:Heap):Prop where
 box:ag W ⟨C,0,none⟩=some (.int .i64 val)
 ex : ∃v1 v2,Owns W h (mb B1 v1 l1 B2 v2 l2)
theorem Fo.le {val:Int} {C B1 B2:Nat} {l1 l2:WL} {W:View} {h:Heap} (k:Fo val C B1 B2 l1 l2 W h):W.le (vw h):=let ⟨_,_,w⟩:=k.ex;w.wle
theorem Fo.ext {val:Int} {C B1 B2:Nat} {l1 l2:WL} {W:View} {h h':Heap} (k:Fo val C B1 B2 l1 l2 W h) (hle:(vw h).le (vw h')):Fo val C B1 B2 l1 l2 (grow W h h') h':=
 ⟨ab (dg k.le) k.box,let ⟨v1,v2,w⟩:=k.ex;⟨v1,v2,w.ext hle⟩⟩
theorem yt{blk place:Int}{C B1 B2:Nat}{l1 l2:WL}{ms ts:List Int}{vm vt:Value}{W:View}{h:Heap}(k:Fo val C B1 B2 l1 l2 W h)(hm:SlRd W vm ms)(ht:SlRd W vt ts)(r1:-10000<=blk/\blk<=10000)(r2:-10000<=place/\place<=10000)(b1:l1.length+ms.length<=2000100000000)(b2:l2.length+ts.length<=2000100000000):
  aj Tryz.prog N.aT #[.int .i64 blk,.int .i64 place,vm,vt,.pointer (some ⟨C,0,none⟩),.pointer (some ⟨B1,0,none⟩),.pointer (some ⟨B2,0,none⟩)] h
   (fun _ h2=>Fo val C B1 B2 (ms.foldl (aS val (blk,place)) l1) (ts.foldl (aS val (blk,place)) l2) W h2):=by
 refine ah (args:=[.int .i64 blk,.int .i64 place,vm,vt,.pointer (some ⟨C,0,none⟩),.pointer (some ⟨B1,0,none⟩),.pointer (some ⟨B2,0,none⟩)]) follows F.aT E.aT (Dv (by kernel_rfl)) fun K hK=>?_;have bm:=hm.bound;have bt:=ht.bound;dsimp only[L.aT];refine aa fun z hz=>?_;simp[(hm.mono k.le).len];refine ao [0,1,3,4,5,6,15,16,17] (fun(_:Unit) i=>[.int .i64 blk,.int .i64 place,vt,.pointer (some ⟨C,0,none⟩),.pointer (some ⟨B1,0,none⟩),.pointer (some ⟨B2,0,none⟩),vm,.int .i64 ms.length,.int .i64 i])
  (fun _ i h1=>Fo val C B1 B2 ((ms.take i).foldl (aS val (blk,place)) l1) l2 W h1) ms.length ()
  rfl (by omega) rfl k (fun _ _=>rfl) (fun v i h1 hk m=>by simp) ?_ ?_
 ·rintro _ i h1 hlt k1 K2 hK2;have hm1:=hm.mono k1.le;have hst:(ms.take (i+1)).foldl (aS val (blk,place)) l1=aS val (blk,place) ((ms.take i).foldl (aS val (blk,place)) l1) (nth ms i):=by rw[DK hlt,EX,aq hlt];rfl
  have hlen:=gr (val:=val) (w:=(blk,place)) (ns:=ms.take i) (l:=l1);rw[Ef]at hlen;generalize (ms.take i).foldl (aS val (blk,place)) l1=y at k1 hst hlen;refine aa fun z hz=>?_;simp(disch:=omega)[hm1.idx1 rfl,hm1.int (View.le_refl _)];subst hz;refine aa fun z hz=>?_;simp[ab k1.le k1.box];subst hz;by_cases he:nth ms i=val
  ·rw[aS,if_pos he]at hst;obtain⟨v1,v2,w⟩:=k1.ex;have hbx:=(w.at (k:=(0,0)) (d:=Raw.mk v1) (B:=B1) (e:=T.aH) rfl).raw;simp[he,hbx];refine an (z:=.agg #[.int .i64 0,.int .i64 0]) (places:=[(0,1),(1,1)]) (vs:=[(0,.int .i64 blk),(1,.int .i64 place)]) (cs:=#[.int .i64 blk,.int .i64 place]) (by kernel_rfl) (by kernel_rfl) (by simp) (by rfl) ?_;refine w.wC (k:=(0,1)) (α:=Int × Int) (d:=(blk,place)) rfl El.aH rfl (kF.2 ⟨rfl,⟨by omega,by omega⟩,by omega,by omega⟩) (by omega) (by omega) (fun _=>rfl) (fun _=>rfl) fun u v' h2 w2 hs2=>?_;have hc:=w2.cells (k:=(0,1)) (Own.aw)
   refine w2.tL (k:=(0,0)) (D:=Raw.mk v1) (B:=B1) (e:=T.aH) (Part.all) (d:=Raw.mk v') rfl (by kernel_rfl) rfl rfl (nw.2 ⟨rfl,hc.2⟩) fun h3 w3 hs3=>?_;refine hK2 () _ _ rfl rfl ⟨k1.box,v',v2,w3.congr fun q=>?_⟩;rw[hst];unfold mb Own.upd;repeat' split
   all_goals first | rfl | simp_all
  rw[aS,if_neg he]at hst;simp[he];exact hK2 () _ _ rfl rfl (by rw[hst];exact k1)
 rintro _ h1 k1;rw[Ep]at k1;simp;subst hz;simp[(ht.mono k1.le).len];generalize ms.foldl (aS val (blk,place)) l1=m1 at k1 hK;refine ao [0,1,4,5,6,31,32,33] (fun(_:Unit) i=>[.int .i64 blk,.int .i64 place,.pointer (some ⟨C,0,none⟩),.pointer (some ⟨B1,0,none⟩),.pointer (some ⟨B2,0,none⟩),vt,.int .i64 ts.length,.int .i64 i])
  (fun _ i h2=>Fo val C B1 B2 m1 ((ts.take i).foldl (aS val (blk,place)) l2) W h2) ts.length ()
  rfl (by omega) rfl k1 (fun _ _=>rfl) (fun v i h1 hk m=>by simp) ?_ ?_
 ·rintro _ i h2 hlt k2 K2 hK2;have ht2:=ht.mono k2.le;have hst:(ts.take (i+1)).foldl (aS val (blk,place)) l2=aS val (blk,place) ((ts.take i).foldl (aS val (blk,place)) l2) (nth ts i):=by rw[DK hlt,EX,aq hlt];rfl
  have hlen:=gr (val:=val) (w:=(blk,place)) (ns:=ts.take i) (l:=l2);rw[Ef]at hlen;generalize (ts.take i).foldl (aS val (blk,place)) l2=y at k2 hst hlen;refine aa fun z hz=>?_;simp(disch:=omega)[ht2.idx1 rfl,ht2.int (View.le_refl _)];subst hz;refine aa fun z hz=>?_;simp[ab k2.le k2.box];subst hz;by_cases he:nth ts i=val
  ·rw[aS,if_pos he]at hst;obtain⟨v1,v2,w⟩:=k2.ex;have hbx:=(w.at (k:=(1,0)) (d:=Raw.mk v2) (B:=B2) (e:=T.aH) rfl).raw;simp[he,hbx];refine an (z:=.agg #[.int .i64 0,.int .i64 0]) (places:=[(0,1),(1,1)]) (vs:=[(0,.int .i64 blk),(1,.int .i64 place)]) (cs:=#[.int .i64 blk,.int .i64 place]) (by kernel_rfl) (by kernel_rfl) (by simp) (by rfl) ?_;refine w.wC (k:=(1,1)) (α:=Int × Int) (d:=(blk,place)) rfl El.aH rfl (kF.2 ⟨rfl,⟨by omega,by omega⟩,by omega,by omega⟩) (by omega) (by omega) (fun _=>rfl) (fun _=>rfl) fun u v' h3 w2 hs2=>?_;have hc:=w2.cells (k:=(1,1)) (Own.aw)
   refine w2.tL (k:=(1,0)) (D:=Raw.mk v2) (B:=B2) (e:=T.aH) (Part.all) (d:=Raw.mk v') rfl (by kernel_rfl) rfl rfl (nw.2 ⟨rfl,hc.2⟩) fun h4 w3 hs3=>?_;refine hK2 () _ _ rfl rfl ⟨k2.box,v1,v',w3.congr fun q=>?_⟩;rw[hst];unfold mb Own.upd;repeat' split
   all_goals first | rfl | simp_all
  rw[aS,if_neg he]at hst;simp[he];exact hK2 () _ _ rfl rfl (by rw[hst];exact k2)
 rintro _ h2 k2;rw[Ep]at k2;simp;exact hK _ _ k2
def km (val:Int) (l:List Th):WL:=l.foldl (qR val) []
def iQ (val:Int) (l:List Th):WL:=l.foldl (og val) []
def jj (l1 l2:WL):Bool:=!decide (l1.length=1)||!decide (l2.length=1)||decide ((nth l1 0).2<0)||!decide ((nth l1 0).1=(nth l2 0).1)||decide ((nth l2 0).2<=(nth l1 0).2)
def gV (f:ae) (val:Int) (l1 l2:WL):Bool:=!jj l1 l2&&(decide ((nth (nth f.blocks (nth l1 0).1.toNat).ins (nth l1 0).2.toNat).dst=val)&&[1,2,4,11,12,13].contains (nth (nth f.blocks (nth l1 0).1.toNat).ins (nth l1 0).2.toNat).op)
def dC (f:ae) (val:Int):Bool:=gV f val (km val (aK f)) (iQ val (aK f))
theorem lj{w x:Int × Int}{ns:List Int}: ∀{l:WL},x∈ns.foldl (aS val w) l↔x∈l\/(x=w/\val∈ns):=by
 induction ns with
 | nil=>simp
 | cons n ns ih=>intro l;rw[DS,ih,aS];grind
theorem mB{x:Int × Int}{l:List Th}: ∀{y:WL},x∈l.foldl (qR val) y↔x∈y\/∃t∈l,x=(t.blk,t.place)/\val∈t.mks:=by
 induction l with
 | nil=>simp
 | cons t l ih=>
  intro y;rw[DS,ih,qR,lj];simp only[DL,exists_eq_or_imp];constructor
  ·rintro((h | h) | h)
   ·exact .inl h
   ·exact .inr (.inl h)
   exact .inr (.inr h)
  rintro(h | h | h)
  ·exact .inl (.inl h)
  ·exact .inl (.inr h)
  exact .inr h
theorem nO{f:ae}{v:Value}{h:Heap}(hv:Rd (vw h) v f)(hsm:SmF f)(hval:I64 val):aj Tryz.prog N.cT #[v,.int .i64 val] h (fun u h'=>u = .bool (dC f val)/\(vw h).le (vw h')):=by
 refine ah (args:=[v,.int .i64 val]) follows F.cT E.cT (Dv (by kernel_rfl)) fun K hK=>?_;dsimp only[L.cT];refine aa fun z hz=>?_;simp;refine iD rfl hv fun h1 e1 hle1 hs1 hat=>?_;refine iD (α:=Int) rfl (bh.2 ⟨rfl,hval⟩) fun h2 e2 hle2 hs2 hat2=>?_;have hatf:=hat.mono hle2;obtain⟨u,hu,hur⟩:=hatf.ak rfl;have hu:Un.ev (vw h2) (.ak 2) (.pointer (some ⟨h.size,0,none⟩))=some u:=hu;obtain⟨cp,vb,cb⟩:=j9 hatf;have cval:=hat2.int;generalize hB:h.size=B at hu cp cb;generalize hC:h1.size=C at cval;subst hz;refine aa fun z hz=>?_;simp;refine dF (z:=.slice none 0 0) (by kernel_rfl) ?_;refine dF (z:=.slice none 0 0) (by kernel_rfl) ?_;have q1:=bG h2 (.cells (Value.slice none 0 0).cells T.aH)
 generalize e3:h2.push (.cells (Value.slice none 0 0).cells T.aH)=h3 at q1;have b3:h3[h2.size]? = some (.cells (Value.slice none 0 0).cells T.aH (0,0)):=by rw[<-e3];simp
 have s3:h3.size=h2.size+1:=by rw[<-e3];simp
 have q2:=bG h3 (.cells (Value.slice none 0 0).cells T.aH);generalize e4:h3.push (.cells (Value.slice none 0 0).cells T.aH)=h4 at q2;have b4:h4[h3.size]? = some (.cells (Value.slice none 0 0).cells T.aH (0,0)):=by rw[<-e4];simp
 have hle24:=View.le_trans q1 q2;have w0:Owns (vw h2) h4 (mb h2.size (.slice none 0 0) [] h3.size (.slice none 0 0) []):=by
  have w1:=(Owns.start (h:=h2) (View.le_refl (vw h2))).add (k:=(0,0)) rfl (pa (h:=h3) (e:=T.aH) (d:=Raw.mk (.slice none 0 0)) b3 (nw.2 ⟨rfl,rfl⟩) (by decide)) q1 (fun b hb=>by simp only[Value.ownBlock,o0]at hb;omega);have w2:=w1.add (k:=(1,0)) rfl (pa (h:=h4) (e:=T.aH) (d:=Raw.mk (.slice none 0 0)) b4 (nw.2 ⟨rfl,rfl⟩) (by decide)) q2 (fun b hb=>by simp only[Value.ownBlock,o0]at hb;omega);have w3:=w2.add (k:=(0,1)) rfl (OwnT.nil (α:=Int × Int) (vw h2) h4 T.fE) (View.le_refl _) (fun b hb=>by simp[Value.ownBlock]at hb);have w4:=w3.add (k:=(1,1)) rfl (OwnT.nil (α:=Int × Int) (vw h2) h4 T.fE) (View.le_refl _) (fun b hb=>by simp[Value.ownBlock]at hb);refine w4.congr fun q=>?_;unfold mb Own.upd;repeat' split
  all_goals first | rfl | simp_all
 have k0:Fo val C h2.size h3.size [] [] (vw h2) h4:=⟨cval,_,_,w0⟩;have hu4:Un.ev (vw h4) (.ak 2) (.pointer (some ⟨B,0,none⟩))=some u:=by have:=dp (ρ:=fun _=>none) (e:=.un (.ak 2) (.con (.pointer (some ⟨B,0,none⟩)))) hle24 (v:=u) (by simpa using hu);simpa using this
 generalize h2.size=B1 at k0;generalize h3.size=B2 at k0;subst hz;refine aa fun z hz=>?_;simp[hu4];have hml:=tT hsm;refine af (by kernel_rfl) (xx (caps:=[.pointer (some ⟨C,0,none⟩),.pointer (some ⟨B1,0,none⟩),.pointer (some ⟨B2,0,none⟩)]) (J:=fun l W h=>Fo val C B1 B2 (km val l) (iQ val l) W h) hur hsm ⟨fun k=>k.le,fun k hle=>k.ext hle⟩ (by kernel_rfl) k0 fun l t W h5 vm vt hVW hpre k hm ht=>?_) ?_
 ·have hmem : ∀x∈l++[t],ThOk f x:=fun x hx=>rX hsm (hpre.subset hx);have hll:=hpre.length_le
  rw[DT,EE]at hll;have ot:=hmem t (by simp);have hl:=hsm.len;have c1:=oN (F:=qR val) (c:=10000) (l:=l) (fun t ht x=>DW gr (Nat.add_le_add_left (hmem t (by simp[ht])).mks _)) [];have c2:=oN (F:=og val) (c:=10000) (l:=l) (fun t ht x=>DW gr (Nat.add_le_add_left (hmem t (by simp[ht])).tks _)) [];have c1':(km val l).length<=l.length*10000:=by simpa[km]using c1
  have c2':(iQ val l).length<=l.length*10000:=by simpa[iQ]using c2
  have o1:=ot.mks;have o2:=ot.tks;have ob:=ot.blk;refine(yt k hm ht (by omega) ot.place (by omega) (by omega)).mono fun _ h6 k6=>?_;have e1:km val (l++[t])=t.mks.foldl (aS val (t.blk,t.place)) (km val l):=by rw[km,EX];rfl
  have e2:iQ val (l++[t])=t.tks.foldl (aS val (t.blk,t.place)) (iQ val l):=by rw[iQ,EX];rfl
  simp only[e1,e2];exact k6
 rintro _ h5 ⟨W,hVW,k⟩;have hin : ∀w∈km val (aK f),0<=w.1/\w.1<f.blocks.length/\(0<=w.2->w.2<(nth f.blocks w.1.toNat).ins.length):=by
  intro w hw;rcases mB.1 hw with h | ⟨t,ht,rfl,hv⟩
  ·cases h
  have ot:=rX hsm ht;exact⟨ot.blk.1,ot.blk.2,fun h=>ot.ins h (fun e=>by rw[e]at hv;cases hv)⟩
 have hfs:dC f val=gV f val (km val (aK f)) (iQ val (aK f)):=rfl;rw[hfs]at hK;generalize km val (aK f)=l1 at k hin hK;generalize iQ val (aK f)=l2 at k hK;obtain⟨v1,v2,w⟩:=k.ex;have hb1:=(w.at (k:=(0,0)) (d:=Raw.mk v1) (B:=B1) (e:=T.aH) rfl).raw;have hb2:=(w.at (k:=(1,0)) (d:=Raw.mk v2) (B:=B2) (e:=T.aH) rfl).raw;have n1:=w.now (k:=(0,1)) (v:=v1) (l:=l1) rfl;have n2:=w.now (k:=(1,1)) (v:=v2) (l:=l2) rfl;have hle5:=View.le_trans hVW w.wle;have hle:=View.le_trans hle1 (View.le_trans hle2 hle5);have cb5:=cb.2.mono hle5;have cc5:=ab hle5 cb.1;have cv5:=ab hle5 cval;subst hz;refine aa fun z hz=>?_;have no:jj l1 l2=true->K (.bool false) h5:=fun e=>hK _ _ ⟨by rw[gV,e];rfl,hle⟩
 by_cases hA:l1.length=1
 ·by_cases hB2:l2.length=1
  ·have i1 : ∀kd,Bn.ev (.idx 2) v1 (.int kd 0)=some (.pointer (some (slA v1))):=fun kd=>by have:=n1.idxn (N:=2) rfl (k:=kd) (i:=0) (by omega) (by omega);simpa[Addr.add]using this
   have i2 : ∀kd,Bn.ev (.idx 2) v2 (.int kd 0)=some (.pointer (some (slA v2))):=fun kd=>by have:=n2.idxn (N:=2) rfl (k:=kd) (i:=0) (by omega) (by omega);simpa[Addr.add]using this
   obtain⟨a0,a1⟩:=n1.wj (View.le_refl _) (i:=0) (by omega);obtain⟨d0,d1⟩:=n2.wj (View.le_refl _) (i:=0) (by omega);have z1 : ∀a:Addr,a.add (0*2)=a:=fun a=>by simp[Addr.add]
   rw[z1]at a0 a1 d0 d1;have hw:=hin (nth l1 0) (bT (by omega));have hbad:jj l1 l2=(decide ((nth l1 0).2<0)||!decide ((nth l1 0).1=(nth l2 0).1)||decide ((nth l2 0).2<=(nth l1 0).2)):=by simp[jj,hA,hB2]
   rw[hbad]at no;have hfb:gV f val l1 l2=(!(decide ((nth l1 0).2<0)||!decide ((nth l1 0).1=(nth l2 0).1)||decide ((nth l2 0).2<=(nth l1 0).2))&&(decide ((nth (nth f.blocks (nth l1 0).1.toNat).ins (nth l1 0).2.toNat).dst=val)&&[1,2,4,11,12,13].contains (nth (nth f.blocks (nth l1 0).1.toNat).ins (nth l1 0).2.toNat).op)):=by rw[gV,hbad]
   rw[hfb]at hK;generalize nth l1 0=w1 at a0 a1 hw no hK;generalize nth l2 0=w2 at d0 d1 no hK;by_cases c3:w1.2<0
   ·simp[hb1,hb2,n1.len,n2.len,hA,hB2,i1,i2,a0,a1,d0,d1,c3];exact no (by simp[c3])
   by_cases c4:w1.1=w2.1
   ·by_cases c5:w2.2<=w1.2
    ·simp[hb1,hb2,n1.len,n2.len,hA,hB2,i1,i2,a0,a1,d0,d1,c3,c4,c5];exact no (by simp[c5])
    have hs:(!(decide (w1.2<0)||!decide (w1.1=w2.1)||decide (w2.2<=w1.2)))=true:=by simp[c3,c4,c5]
    rw[hs,ET]at hK;have hw2:=hw.2.2 (by omega);obtain⟨ul,hul⟩:=((cb5.at (i:=w1.1.toNat) (by omega)).part BlkD.oZ).sl;rw[<-aq (by omega)]at hul;have hul1:ag (vw h5) (((slA vb).add (w1.1.toNat*6)).add 1)=some ul:=hul.1;obtain⟨ui,hui,huir⟩:=hul.2.wh rfl (N:=5) rfl (i:=w1.2.toNat) (by omega);have hli:=hul.2;generalize nth (nth f.blocks w1.1.toNat).ins w1.2.toNat=x at huir hK;simp[hb1,hb2,n1.len,n2.len,hA,hB2,i1,i2,a0,a1,d0,d1,c3,c5,<-c4];subst hz;refine aa fun z hz=>?_;have z0 : ∀a:Addr,a.add 0=a:=fun a=>by simp[Addr.add]
    refine bR (vw h5) (View.le_refl _) ?_;simp(disch:=omega)[hb1,i1,a0,a1,cc5,cb5.idxn (N:=6) rfl,hul1,hli.idxn (N:=5) rfl,hui _ (View.le_refl _)];refine dF (z:=.agg #[.int .i64 0,.int .i64 0,.int .i64 0,.slice none 0 0,.int .i32 0]) (by kernel_rfl) ?_;have hle6:=bG h5 (.cells (Value.cells (.agg #[.int .i64 0,.int .i64 0,.int .i64 0,.slice none 0 0,.int .i32 0])) T.fk);have hb6:(h5.push (.cells (Value.cells (.agg #[.int .i64 0,.int .i64 0,.int .i64 0,.slice none 0 0,.int .i32 0])) T.fk))[h5.size]? = some (.cells (Value.cells (.agg #[.int .i64 0,.int .i64 0,.int .i64 0,.slice none 0 0,.int .i32 0])) T.fk (0,0)):=by simp
    generalize h5.push (.cells (Value.cells (.agg #[.int .i64 0,.int .i64 0,.int .i64 0,.slice none 0 0,.int .i32 0])) T.fk)=h6 at hle6 hb6;refine⟨hle6,?_⟩;obtain⟨g1,g2,g3⟩:=fh huir;refine dk (g:=h5.size) (o:=0) (n:=5) (v:=ui) (by kernel_rfl) rfl rfl g2 g3 hb6 (by simp) fun h7 hs7 ⟨row,hr7,he7⟩ ho7=>?_;have hrow:row=ui.cells:=by have g2':ui.cells.size=5:=g2;rw[<-Array.toList_inj,he7];simp
    rw[hrow]at hr7;have hle7:(vw h5).le (vw h7):=fun b o hb=>by have hlt:=View.lt (View.le_refl (vw h5)) hb;show h7[b]? = _;rw[ho7 b (by omega)];exact hle6 b o hb
    have hat7:At (vw h7) ⟨h5.size,0,none⟩ x:=nq (show vw h7 h5.size=_ from hr7) (huir.mono hle7);obtain⟨q0,q1,_⟩:=iF hat7;have ro:=(hat7.part InsD.pM).rng;generalize h5.size=D at q0 q1;subst hz;have cv7:=ab hle7 cv5;refine aa fun z hz=>?_;by_cases c6:x.dst=val
    ·simp[q0,q1,cv7,c6];refine mj (α:=Int) (X:=nothing) (ds:=[1,2,4,11,12,13]) (vs:=[.int .i64 1,.int .i64 2,.int .i64 4,.int .i64 11,.int .i64 12,.int .i64 13]) rfl El.ck (by simp) ⟨lX (by omega) (by omega),lX (by omega) (by omega),lX (by omega) (by omega),lX (by omega) (by omega),lX (by omega) (by omega),lX (by omega) (by omega),trivial⟩ bO rfl (by omega) fun u8 h8 hle8 hsz8 hu8 _=>?_;simp[ab hle8 q0];refine af (by kernel_rfl) (nG (hu8 (vw h8) bO rfl)) ?_;rintro _ _ ⟨rfl,rfl⟩;simp;subst hz;simp;exact hK _ _ ⟨by simp[c6],View.le_trans hle (View.le_trans hle7 hle8)⟩
    simp[q0,q1,cv7,c6];subst hz;simp;exact hK _ _ ⟨by simp[c6],View.le_trans hle hle7⟩
   simp[hb1,hb2,n1.len,n2.len,hA,hB2,i1,i2,a0,a1,d0,d1,c3,c4];exact no (by simp[c4])
  have hB3:¬(l2.length:Int)=1:=by omega
  simp[hb1,hb2,n1.len,n2.len,hA,hB3];exact no (by simp[jj,hB2])
 have hA3:¬(l1.length:Int)=1:=by omega
 simp[hb1,hb2,n1.len,n2.len,hA3];exact no (by simp[jj,hA])
end Go.Proofs.YtnfiilgdjpdlkaaGreatDoor
namespace Go.Lft
open Go
structure aU where
 op:Int
 d:Int
 e:Int
 a:Int
 b:Int
 c:Int
 imm:I32
 args:List Int
 deriving Inhabited,DecidableEq
instance:Rep aU:=Rep.via fun x=>Cat.mk x.op (Cat.mk x.d (Cat.mk x.e (Cat.mk x.a (Cat.mk x.b (Cat.mk x.c (Cat.mk x.imm x.args))))))
structure EndD where
 op:Int
 a:Int
 b:Int
 to:List Int
 imm:I32
 deriving Inhabited,DecidableEq
instance:Rep EndD:=Rep.via fun x=>Cat.mk x.op (Cat.mk x.a (Cat.mk x.b (Cat.mk x.to x.imm)))
structure FitD where
 takes:List Int
 inner:List Int
 code:List aU
 fin:EndD
 deriving Inhabited,DecidableEq
instance:Rep FitD:=Rep.via fun x=>Cat.mk x.takes (Cat.mk x.inner (Cat.mk x.code x.fin))
structure bf where
 f:ae
 i:InsD
 t:cL
 term:Bool
 temp:Int
instance:Rep bf:=Rep.via fun x=>Cat.mk x.f (Cat.mk x.i (Cat.mk x.t (Cat.mk x.term x.temp)))
structure bP where
 pat:Int
 cost:Int
 deriving Inhabited,DecidableEq
instance:Rep bP:=Rep.via fun x=>Cat.mk x.pat x.cost
end Go.Lft
namespace Go.Proofs.YtnfiilgdjpdlkaaGreatDoor
open Go Go.Lft
def dr (f:ae):List InsD:=f.blocks.flatMap BlkD.ins
def fb (v:Int) (i:InsD):Bool:=!decide (i.op=16)&&decide (i.dst=v)
def jJ (f:ae) (v:Int):Option InsD:=(dr f).find? (fb v)
def ia:InsD:=⟨0,0,0,[],⟨0⟩⟩
def A9 (f:ae) (v op:Int):Option InsD->InsD × Bool
 | none=>(ia,false)
 | some i=>(i,decide (i.op=op)&&dC f v)
def aD (f:ae) (v op:Int):InsD × Bool:=A9 f v op (jJ f v)
def inR (n lo hi:Int):Bool:=decide (lo<=n)&&decide (n<=hi)
def fe (f:ae) (v lo hi:Int):Int × Bool:=((aD f v 1).1.imm.v,(aD f v 1).2&&inR (aD f v 1).1.imm.v lo hi)
def dJ:EndD:=⟨0,0,0,[],⟨0⟩⟩
def CA:FitD:=⟨[],[],[],dJ⟩
def w32 (n:Int):I32:=⟨IntKind.i32.wrap n⟩
def immS (f:ae) (i:InsD) (m lo hi sign:Int):Option FitD:=
 if(fe f (nth i.args 1) lo hi).2 then some ⟨[nth i.args 0],[nth i.args 1],[⟨m,i.dst,0,nth i.args 0,0,0,w32 (sign*(fe f (nth i.args 1) lo hi).1),[]⟩],dJ⟩ else none
def wL (i:InsD) (op plain:Int) (m:aU):aU:=if op=15 then{ m with d:=i.dst } else if m.op=plain then{ m with b:=nth i.args 1 } else{ m with c:=nth i.args 1 }
def memS (f:ae) (i:InsD) (temp op plain sum:Int):Nat->Option FitD
 | 0=>if inR i.imm.v 0 255 then some ⟨nth i.args 0::i.args.drop 1,[],[wL i op plain ⟨plain,0,0,nth i.args 0,0,0,i.imm,[]⟩],dJ⟩ else none
 | 1=>if(aD f (nth i.args 0) 2).2 then
   if(fe f (nth (aD f (nth i.args 0) 2).1.args 1) (-2147483648) 2147483647).2&&inR ((fe f (nth (aD f (nth i.args 0) 2).1.args 1) (-2147483648) 2147483647).1+i.imm.v) 0 255 then
    some ⟨nth (aD f (nth i.args 0) 2).1.args 0::i.args.drop 1,[nth i.args 0,nth (aD f (nth i.args 0) 2).1.args 1],
     [wL i op plain ⟨plain,0,0,nth (aD f (nth i.args 0) 2).1.args 0,0,0,w32 ((fe f (nth (aD f (nth i.args 0) 2).1.args 1) (-2147483648) 2147483647).1+i.imm.v),[]⟩],dJ⟩
   else none
  else none
 | 2=>if(aD f (nth i.args 0) 2).2&&decide (i.imm.v=0) then
   some ⟨nth (aD f (nth i.args 0) 2).1.args 0::nth (aD f (nth i.args 0) 2).1.args 1::i.args.drop 1,[nth i.args 0],
    [wL i op plain ⟨sum,0,0,nth (aD f (nth i.args 0) 2).1.args 0,nth (aD f (nth i.args 0) 2).1.args 1,0,⟨0⟩,[]⟩],dJ⟩
  else none
 | _=>some ⟨nth i.args 0::i.args.drop 1,[],[⟨4,temp,0,0,0,0,i.imm,[]⟩,wL i op plain ⟨sum,0,0,nth i.args 0,temp,0,⟨0⟩,[]⟩],dJ⟩
def opOf (pat:Nat):Int:=
 if pat=1\/pat=2 then 1 else if 3<=pat/\pat<=15 then pat-1 else if pat=16\/pat=22 then 2 else if pat=17 then 3 else if pat=18 then 5 else if 19<=pat/\pat<=21 then pat-11
 else if 23<=pat/\pat<=26 then 15 else if 27<=pat/\pat<=30 then 16 else if pat=31 then 17 else if pat=32 then 18 else 0
def doS (f:ae) (i:InsD) (temp:Int) (pat:Nat):Option FitD:=
 if pat=1 then(if inR i.imm.v (-32768) 32767 then some ⟨[],[],[⟨3,i.dst,0,0,0,0,i.imm,[]⟩],dJ⟩ else none)
 else if pat=2 then some ⟨[],[],[⟨4,i.dst,0,0,0,0,i.imm,[]⟩],dJ⟩
 else if pat<=15 then some ⟨i.args,[],[⟨pat+2,i.dst,0,nth i.args 0,nth i.args 1,0,⟨0⟩,[]⟩],dJ⟩
 else if pat=16 then immS f i 18 (-128) 127 1
 else if pat=17 then immS f i 18 (-127) 128 (-1)
 else if pat=18 then immS f i 19 (-128) 127 1
 else if pat<=21 then immS f i (pat+1) 0 31 1
 else if pat=22 then(if(aD f (nth i.args 0) 4).2 then
   some ⟨[nth (aD f (nth i.args 0) 4).1.args 0,nth (aD f (nth i.args 0) 4).1.args 1,nth i.args 1],[nth i.args 0],[⟨23,i.dst,0,nth (aD f (nth i.args 0) 4).1.args 0,nth (aD f (nth i.args 0) 4).1.args 1,nth i.args 1,⟨0⟩,[]⟩],dJ⟩
  else none)
 else if pat<=26 then memS f i temp 15 24 25 (pat-23)
 else if pat<=30 then memS f i temp 16 26 27 (pat-27)
 else if pat=31 then some ⟨i.args,[],[⟨28,i.dst,0,0,0,0,i.imm,i.args⟩],dJ⟩
 else some ⟨i.args,[],[⟨29,i.dst,i.two,nth i.args 0,nth i.args 1,0,⟨0⟩,[]⟩],dJ⟩
def patS (f:ae) (i:InsD) (temp pat:Int):Option FitD:=if 1<=pat/\pat<=32/\i.op=opOf pat.toNat then doS f i temp pat.toNat else none
def e7 (f:ae) (t:cL) (pat:Int):Option FitD:=
 if pat=0/\t.kind=1 then some ⟨[],[],[],⟨1,0,0,t.to,⟨0⟩⟩⟩
 else if pat=0/\t.kind=4 then some ⟨t.args,[],[],⟨7,if t.args=[] then -1 else nth t.args 0,0,[],⟨0⟩⟩⟩
 else if pat=0/\t.kind=5 then some ⟨[],[],[],⟨8,0,0,[],t.imm⟩⟩
 else if pat=33/\t.kind=2 then some ⟨t.args,[],[],⟨2,nth t.args 0,0,t.to,⟨0⟩⟩⟩
 else if(34<=pat/\pat<=36)/\t.kind=2 then
  (if(aD f (nth t.args 0) (pat-23)).2 then some ⟨(aD f (nth t.args 0) (pat-23)).1.args,t.args,[],⟨pat-31,nth (aD f (nth t.args 0) (pat-23)).1.args 0,nth (aD f (nth t.args 0) (pat-23)).1.args 1,t.to,⟨0⟩⟩⟩ else none)
 else if pat=37/\t.kind=3 then some ⟨t.args,[],[],⟨6,nth t.args 0,0,t.to,⟨0⟩⟩⟩
 else none
def jT:cL:=⟨0,[],[],⟨0⟩⟩
def uT:bf:=⟨⟨0,[]⟩,ia,jT,false,0⟩
def cC (f:ae) (b p:Int):Bool:=decide (0<=b)&&decide (b<f.blocks.length)&&decide (0<=p)&&decide (p<=(nth f.blocks b.toNat).ins.length)
def dw (f:ae) (b p temp:Int):bf:=
 if p=(nth f.blocks b.toNat).ins.length then⟨f,ia,(nth f.blocks b.toNat).term,true,temp⟩ else⟨f,nth (nth f.blocks b.toNat).ins p.toNat,jT,false,temp⟩
def tryS (s:bf) (pat:Int):Option FitD:=if s.term then e7 s.f s.t pat else patS s.f s.i s.temp pat
end Go.Proofs.YtnfiilgdjpdlkaaGreatDoor
namespace Go.Lft
open Go
section
variable {po po2 po3:OP} {pp:PP}
structure RawN (n:Nat) where
 l:List Value
instance {n:Nat}:Rep (RawN n) where
 n:=n+1
 agg:=true
 rd:=fun _ cs d=>cs=d.l/\cs.length=n+1/\∀u∈cs,u.oneCell'=true
 mono:=fun _ h=>h
 len:=fun h=>h.2.1
 one:=fun h=>by cases h
 flat:=fun h u hu=>h.2.2 u hu
 pos:=Nat.succ_pos _
 dB:=fun h=>h
theorem wv{n:Nat}{H:View}{l:List Value}(h1:l.length=n+1)(h2 : ∀u∈l,u.oneCell'=true):Rd H (.agg l.toArray) (RawN.mk (n:=n) l):=by unfold Rd;rw[if_pos (show Rep.agg (RawN n)=true from rfl)];exact⟨_,rfl,rfl,h1,h2⟩
theorem RawN.p{n o:Nat}(ho:o<=n):Part (RawN n) Raw o (fun d=>⟨d.l.getD o undef⟩) (fun d x=>⟨d.l.set o x.v⟩) where
 fits:=by show o+1<=n+1;omega
 get:=by
  rintro H cs d ⟨rfl,h1,h2⟩
  have hlt:o<d.l.length:=by omega
  have e:(d.l.drop o).take (Rep.n Raw)=[d.l.getD o undef]:=by
   have:d.l.getD o undef=d.l[o]:=by simp[hlt]
   rw[this]
   show(d.l.drop o).take 1=_
   rw[DU hlt];rfl
  refine⟨e,?_⟩
  have:d.l.getD o undef=d.l[o]:=by simp[hlt]
  show(d.l.getD o undef).oneCell'=true
  rw[this];exact h2 _ (Ez hlt)
 set:=by
  rintro H cs us d x ⟨rfl,h1,h2⟩ ⟨rfl,h3⟩
  have hlt:o<d.l.length:=by omega
  have e:d.l.take o++[x.v]++d.l.drop (o+Rep.n Raw)=d.l.set o x.v:=by
   show d.l.take o++[x.v]++d.l.drop (o+1)=_
   rw[Fl,if_pos hlt];simp
  refine⟨e,by simp[e,h1],fun u hu=>?_⟩
  rw[e]at hu
  rcases E4 hu with h | rfl
  ·exact h2 _ h
  ·exact h3
section
variable {W:View} {h:Heap} {o:Own} {k:Key}
theorem Owns.raw {n:Nat} {e:TypeId} {B:Nat} {l:List Value} (w:Owns W h o) (hk:o k=bx e B (RawN.mk (n:=n) l)) {i:Nat} (hi:i<=n):ag (vw h) ⟨B,i,none⟩=some (l.getD i undef):=by have:=((w.at hk).part (RawN.p hi)).raw;simpa using this
theorem Owns.Bw{n:Nat}{e:TypeId}{B:Nat}{l:List Value}(w:Owns W h o)(hk:o k=bx e B (RawN.mk (n:=n) l)):Un.ev (vw h) (.ak (n+1)) (.pointer (some ⟨B,0,none⟩))=some (.agg l.toArray):=by obtain⟨cs,hcs,he,h1,h2⟩:=w.atW hk;have he:cs=l:=he;subst he;have h1:cs.length=n+1:=h1;have:=jy hcs (n+1) 0 #[] (by omega);simp only[Un.ev,vP,D0];rw[this];simp[h1]
theorem Owns.cU{P:Program}{ty:TypeId}{us:List (Nat × Value)}{t:TypeId}{n:Nat}{z:Value}{K:Value->Heap->Prop}(w:Owns W h o)(hk:o k=none)(hz:(P.info? t).map (·.zero)=some (some z))(hzc:z.cells.size=n+1)(hn:n+1<=1000)(hone : ∀c∈z.cells.toList,c.oneCell'=true)(hK : ∀h':Heap,(vw h).le (vw h')->Owns W h' (o.upd k (bx t h.size (RawN.mk (n:=n) z.cells.toList)))->K (.pointer (some ⟨h.size,0,none⟩)) h'):
  @step po P (.alloc t) ty us h K:=by
 refine dF hz ?_;have q1:=bG h (.cells z.cells t);have b2:(h.push (.cells z.cells t))[h.size]? = some (.cells z.cells t (0,0)):=by simp
 generalize h.push (.cells z.cells t)=h2 at q1 b2;have hz2:(Value.agg z.cells).cells=z.cells:=rfl;refine hK h2 q1 (w.add hk (pa (v:=.agg z.cells) (d:=RawN.mk (n:=n) z.cells.toList) (by rw[hz2];exact b2) ?_ hn) q1 fun b hb=>by simp only[Value.ownBlock,o0]at hb;omega);have:=wv (n:=n) (H:=W) (l:=z.cells.toList) (by simpa using hzc) hone;simpa using this
theorem Owns.rN{P:Program}{ty:TypeId}{us:List (Nat × Value)}{n i:Nat}{e t:TypeId}{B:Nat}{l:List Value}{x y:Operand}{u:Value}{K:Value->Heap->Prop}(w:Owns W h o)(hk:o k=bx e B (RawN.mk (n:=n) l))(hi:i<=n)(hsz:cH P t=some 1)(hx:asg us x = .pointer (some ⟨B,i,none⟩))(hy:asg us y=u)(hu:u.oneCell'=true)(hK : ∀h',Owns W h' (o.upd k (bx e B (RawN.mk (n:=n) (l.set i u))))->(∀X:View,X.le (vw h)->X B=none->X.le (vw h'))->K undef h'):@step po P (.store t x y) ty us h K:=
 w.qi (po:=po) (RawN.p hi) (d:=⟨u⟩) hk hsz hx hy (nw.2 ⟨rfl,hu⟩) hK
end
end
end Go.Lft
namespace Go.Lft
open Go
variable {po po2 po3:OP} {pp:PP}
section
variable {W:View} {h:Heap} {o:Own} {k:Key}
end
section
variable {po:OP}
end
end Go.Lft
namespace Go.Lft
open Go
variable {po:OP}
theorem yJ {P:Program} {ty t rt e:TypeId} {us:List (Nat × Value)} {h:Heap} {K:Value->Heap->Prop} {x y:Operand} {a:Option Addr} {n c:Nat} (hu:P.underlying t=some (.slice e)) (hx:asg us x = .slice a n c) (hy:asg us y = .slice none 0 0) (hk:K (.bool a.isNone) h):step P (.binOp .eql t x y rt) ty us h K:=by
 refine cf (bE fun w hw=>⟨_,w,?_,Same.refl _,by rw[hw];exact hk⟩);simp only[aL,execOp,hx,hy];have e1:(Op.equal t (.slice a n c) (.slice none 0 0)).run P w = .ok a.isNone w:=by show(Op.equalIn (9999+1) t _ _).run P w=_;rw[Op.equalIn];cases a<;>simp[run_underlying hu]
 simp[eqGuard,binOp,e1]
end Go.Lft
namespace Go.Proofs.YtnfiilgdjpdlkaaGreatDoor
open Go Go.Lft
def rq (op n:Int):Bool:=if op=1 then decide (n=0) else if op=15 then decide (n=1) else if op=17 then decide (n<=4) else decide (n=2)
def pD (t:cL):Bool:=
 if t.kind=1 then decide ((t.args.length:Int)=0)&&decide ((t.to.length:Int)=1)
 else if t.kind=2 then decide ((t.args.length:Int)=1)&&decide ((t.to.length:Int)=2)
 else if t.kind=3 then decide ((t.args.length:Int)=1)&&decide ((2:Int)<=t.to.length)&&decide ((t.to.length:Int)<=65)
 else if t.kind=4 then decide ((t.args.length:Int)<=1)&&decide ((t.to.length:Int)=0)
 else if t.kind=5 then decide ((t.args.length:Int)=0)&&decide ((t.to.length:Int)=0) else false
def eW (f:ae) (b:Int):List Int:=sift (fun a=>decide (b∈(nth f.blocks a).term.to)) (fun a=>(a:Int)) f.blocks.length
theorem AO{x:Int}: ∃r:Nat,Bn.ev (.bits .and) (.int .i64 x) (.int .i64 65535)=some (.int .i64 r)/\r<65536:=by
 refine⟨(BitVec.ofInt 64 x&&& BitVec.ofInt 64 65535).toNat,?_,?_⟩
 ·have hlt:(BitVec.ofInt 64 x&&& BitVec.ofInt 64 65535).toNat<=65535:=by rw[BitVec.toNat_and];exact DW Nat.and_le_right (by decide)
  have e:Bn.ev (.bits .and) (.int .i64 x) (.int .i64 65535)=some (.int .i64 (IntKind.i64.wrap ((BitVec.ofInt 64 x&&& BitVec.ofInt 64 65535).toNat))):=rfl;rw[e,cj (by omega) (by omega)]
 rw[BitVec.toNat_and];exact FT Nat.and_le_right (by decide)
abbrev Q3:=Cat Int (Cat Int Int)
instance:Inhabited Q3:=⟨⟨0,0,0⟩⟩
end Go.Proofs.YtnfiilgdjpdlkaaGreatDoor
namespace Go.Lft
open Go
theorem rW : ∀(l:List Value) (k off:Nat) (A:Array Value),off+k+l.length<=A.size->
  ((l.zipIdx k).foldl (fun(cs:Array Value) (p:Value × Nat)=>cs.setIfInBounds (off+p.2) p.1) A).toList=A.toList.take (off+k)++l++A.toList.drop (off+k+l.length)
 | [],k,off,A,_=>by simp
 | x::l,k,off,A,h=>by
  simp only[Ek]at h;rw[FB,DS,rW l (k+1) off _ (by simp;omega)];have hk:off+k<A.toList.length:=by simp;omega
  simp only[FL,Ek];rw[show off+(k+1)=off+k+1 by omega,DK (by simpa using hk),E5 (Dy _),List.getElem_set_self,List.drop_set_of_lt (by omega),show off+k+1+l.length=off+k+(l.length+1) by omega];simp
theorem nP {s:Nat} : ∀(vs:List Value) (k:Nat) (A:Array Value),(∀v∈vs,v.cells.size=s)->(k+vs.length)*s=A.size->
  ∃B,Instr.fill (fun j=>some (j*s,s)) A ((vs.zipIdx k).map fun p=>(p.2,p.1))=some B/\B.toList=A.toList.take (k*s)++vs.flatMap fun v=>v.cells.toList
 | [],k,A,_,hk=>⟨A,rfl,by rw[DH (by simp at hk;simp[hk])];simp⟩
 | v::vs,k,A,hv,hk=>by
  have hc:=hv v (Dz ..);have e1:(k+(vs.length+1))*s=(k+1+vs.length)*s:=by rw[show k+(vs.length+1)=k+1+vs.length by omega]
  have e2:(k+1+vs.length)*s=k*s+s+vs.length*s:=by rw[EZ,EZ,Gc]
  simp only[Ek]at hk;have e3:(k+1)*s=k*s+s:=by rw[EZ,Gc]
  have hF:(v.cells.zipIdx.foldl (fun(cs:Array Value) (x:Value × Nat)=>cs.setIfInBounds (k*s+x.2) x.1) A).toList=A.toList.take (k*s)++v.cells.toList++A.toList.drop (k*s+s):=by rw[<-Array.foldl_toList,Array.toList_zipIdx];have:=rW v.cells.toList 0 (k*s) A (by simp[hc];omega);simpa[hc]using this
  obtain⟨B,h1,h2⟩:=nP vs (k+1) (v.cells.zipIdx.foldl (fun(cs:Array Value) (x:Value × Nat)=>cs.setIfInBounds (k*s+x.2) x.1) A) (fun u hu=>hv u (DB _ hu)) (by rw[<-Array.length_toList,hF];simp[hc];omega);refine⟨B,?_,?_⟩
  ·simp only[FB,Et,Instr.fill,hc];rw[if_neg (by simp;omega)];exact h1
  rw[h2,hF,e3,F2,DZ (by simp[hc];omega),DH (by simp[hc];omega),DG]
theorem py {s:Nat} : ∀(vs:List Value) (i:Nat) (hi:i<vs.length),(∀v∈vs,v.cells.size=s)->((vs.flatMap fun v=>v.cells.toList).drop (i*s)).take s=vs[i].cells.toList
 | v::vs,0,_,hv=>by have hc:=hv v (Dz ..);simp only[FH,E0,F2,Fs];rw[DZ (by simp[hc]),DH (by simp[hc])]
 | v::vs,i+1,hi,hv=>by have hc:=hv v (Dz ..);have:=py vs i (by simpa using hi) fun u hu=>hv u (DB _ hu);rw[F2,show(i+1)*s=v.cells.toList.length+i*s by rw[EZ];simp[hc];omega,<-List.drop_drop,List.drop_left];simpa using this
theorem gm{po:OP}{α:Type}[Rep α]{P:Program}{t e n:Nat}{ty:TypeId}{bytes:Nat}{z:Value}{ps:Array (Nat × Operand)}{us:List (Nat × Value)}{vs:List Value}{ds:List α}{h:Heap}{K:Value->Heap->Prop}(hT:eR P t e (Rep.n α) bytes z)(hp:ps.map (fun p=>(p.1,asg us p.2))=((vs.zipIdx 0).map fun p=>(p.2,p.1)).toArray){X:View}(hr:lp X vs ds)(hn:ds.length=n)(hb:n*Rep.n α<=16777216)(hb2:n<=16777216)(hk : ∀u h',(vw h).le (vw h')->h'.size=h.size+1->(∀Y:View,X.le Y->Y h.size=h'[h.size]?->SlRd Y u ds)->u.ownBlock=some h.size->K u h'):step P (.buildSlice t n ps) ty us h K:=by
 have hl:=hr.len;have hcs : ∀v∈vs,v.cells.size=Rep.n α:=fun v hv=>by obtain⟨i,hi,rfl⟩:=DO hv;exact(fh (hr.get i hi (by omega))).2.1
 obtain⟨B,h1,h2⟩:=nP (s:=Rep.n α) vs 0 ((Array.range (n*Rep.n α)).map (z.cells[· % z.cells.size]!)) hcs (by simp;rw[hl,hn]);have hB:B=(vs.flatMap fun v=>v.cells.toList).toArray:=by rw[<-Array.toList_inj,h2];simp
 refine qK hT hb hp h1 ?_;have hle:=bG h (.cells B e);refine hk _ _ hle (by simp) (fun Y hY hYb=>⟨some ⟨h.size,0,none⟩,n,by rw[hn],by omega,by omega,.inr ⟨_,rfl,rfl,fun i hi=>?_⟩⟩) rfl;have hi2:i<vs.length:=by omega
 have hrd:=fh (hr.get i hi2 hi);rw[aM rfl];refine⟨vs[i].cells.toList,⟨B,e,(0,0),rfl,by rw[hYb];simp,?_⟩,Rep.mono hY hrd.1⟩;rw[hB,Em];have:=py vs i hi2 hcs;rw[EJ,hrd.2.1];exact this
section
open Go Go.MapKept Go.ChangeMaps
variable {po:OP} {pp:PP}
structure It (h:Heap) (b r:Nat) (left:List (Value × Value)):Prop where
 ex : ∃es since seen c0,h[b]? = some (.map es since)/\Stamped es since/\h[r]? = some (.mapIter (some b) since seen c0)/\since<=c0/\left=(leftOf es seen).toList.map fun x=>(x.key,x.val)
structure ItE (h:Heap) (b r:Nat) (p:Value × Value) (left:List (Value × Value)):Prop where
 ex : ∃(es:Array MapEntry) (since:Nat) (seen:Array Nat) (e:MapEntry),h[b]? = some (.map es since)/\Stamped es since/\h[r]? = some (.mapIter (some b) since (seen.push e.born) since)/\e∈es.toList/\p=(e.key,e.val)/\left=(leftOf es (seen.push e.born)).toList.map fun x=>(x.key,x.val)
section
variable {P:Program} {ty:TypeId} {us:List (Nat × Value)} {h h':Heap} {K:Value->Heap->Prop} {d:TypeDesc} {b r:Nat} {f:Value->Option Value} {t k e:TypeId} {left:List (Value × Value)} {p:Value × Value}
theorem It.same(m:It h b r left)(e1:h'[b]? = h[b]?)(e2:h'[r]? = h[r]?):It h' b r left:=by obtain⟨es,s,q,c,a1,a2,a3,a4⟩:=m.ex;exact⟨es,s,q,c,by rw[e1];exact a1,a2,by rw[e2];exact a3,a4⟩
theorem ItE.it(m:ItE h b r p left):It h b r left:=by obtain⟨es,s,q,e,a1,a2,a3,a4,a5,a6⟩:=m.ex;exact⟨es,s,_,s,a1,a2,a3,Dy _,a6⟩
theorem It.lt(m:It h b r left):b<h.size/\r<h.size/\b≠r:=by obtain⟨es,s,q,c,a1,a2,a3,a4⟩:=m.ex;refine⟨(Dx.1 a1).1,(Dx.1 a3).1,?_⟩;rintro rfl;rw[a1]at a3;cases a3
theorem tv{x:Operand}(ht:P.underlying t=some (.map k e))(hx:asg us x = .map (some b))(m:cA d h b f)(hk : ∀h' left,(vw h).le (vw h')->h'.size=h.size+1->It h' b h.size left->(left.map (·.1)).Nodup->(∀u v,(u,v)∈left->IsKey d u)->(∀u v,IsKey d u->((u,v)∈left↔f u=some v))->K (.pointer (some ⟨h.size,0,none⟩)) h'):step P (.range t x) ty us h K:=by
 obtain⟨es,c,h1,h2,h3,h4⟩:=m.ex;refine cf (bE fun w hw=>?_);subst hw;refine⟨.pointer (some ⟨w.heap.size,0,none⟩),w.alloc (.mapIter (some b) c #[] c),?_,eM _ _,?_⟩
 ·simp only[aL,execOp,hx];simp[Instr.range,run_underlying ht,MapKept.run_getObj_map h1,newObj,Result.andThen];rfl
 have hb:(w.alloc (.mapIter (some b) c #[] c)).heap[b]? = some (.map es c):=(heap_alloc_old _ _ (Dx.1 h1).1).trans h1;have hl:(leftOf es #[]).toList=es.toList:=by unfold leftOf;simp
 refine hk _ (es.toList.map fun x=>(x.key,x.val)) (by show(vw w.heap).le (vw (w.heap.push _));exact bG _ _) (by simp) ⟨es,c,#[],c,hb,h3,World.alloc_heap_new w _,Dy _,by rw[hl]⟩ ?_ ?_ ?_
 ·rw[List.map_map];exact h3.2.2
 ·intro u v hu;obtain⟨x,hx,e⟩:=Ex.1 hu;cases e;exact h2 x hx
 intro u v hu;rw[<-h4 u v hu,Ex];constructor
 ·rintro⟨x,hx,e⟩;cases e;exact⟨x,hx,rfl,rfl⟩
 rintro⟨x,hx,e1,e2⟩;exact⟨x,hx,by rw[e1,e2]⟩
theorem xE{es:Array MapEntry}{c:Nat}{seen:Array Nat}{e:MapEntry}(hs:Stamped es c)(he:e∈(leftOf es seen).toList): ∃a z,(leftOf es seen).toList=a++e::z/\(leftOf es (seen.push e.born)).toList=a++z:=by
 obtain⟨a,z,q⟩:=List.append_of_mem he;refine⟨a,z,q,?_⟩;have e1:(leftOf es (seen.push e.born)).toList=(leftOf es seen).toList.filter fun x=>x.born != e.born:=by unfold leftOf;rw[E6,E6,List.filter_filter];refine F0 fun x _=>?_;rw[DQ];simp;exact⟨fun h=>⟨h.2,h.1⟩,fun h=>⟨h.2,h.1⟩⟩
 have nd:((leftOf es seen).toList.map (·.born)).Nodup:=by refine hs.2.1.sublist (List.Sublist.map _ ?_);unfold leftOf;rw[E6];exact List.filter_sublist
 rw[q]at nd;rw[Fa,Et]at nd;obtain⟨n1,n2,n3⟩:=EH.1 nd;obtain⟨n4,n5⟩:=FG.1 n2;rw[e1,q,FM,List.filter_cons_of_neg (by simp)];have f1:a.filter (fun x=>x.born != e.born)=a:=List.filter_eq_self.2 fun x hx=>by simp only[bne_iff_ne,ne_eq];exact fun h=>n3 x.born (E7 hx) e.born (Dz) h
 have f2:z.filter (fun x=>x.born != e.born)=z:=List.filter_eq_self.2 fun x hx=>by simp only[bne_iff_ne,ne_eq];exact fun h=>n4 (h▸E7 (f:=(·.born)) hx)
 rw[f1,f2]
theorem vy{x:Operand}(hx:asg us x = .pointer (some ⟨r,0,none⟩))(m:It h b r left)(h0:left=[]->K (.tuple #[.bool false]) h)(h1 : ∀a p z h',left=a++p::z->h'.size=h.size->(∀j,j≠r->h'[j]? = h[j]?)->ItE h' b r p (a++z)->K (.tuple #[.bool true,p.1,p.2]) h'):step P (.next x false) ty us h K:=by
 obtain⟨es,s,q,c,a1,a2,a3,a4,rfl⟩:=m.ex;have hne:b≠r:=m.lt.2.2;refine cf (bE fun w hw=>?_);subst hw;rcases run_next_at (P:=P) w ty r b s c q es s a3 a1 a2.1 a4 with⟨hz,hrun⟩ | ⟨e,he,w1,hw1,hrun⟩
 ·refine⟨.tuple #[.bool false],w,?_,Same.refl _,h0 ?_⟩
  ·simp only[aL,execOp,hx];simp[hrun]
  rw[List.map_eq_nil_iff];exact DR (by simpa using hz)
 obtain⟨a,z,e1,e2⟩:=xE a2 he;have hh:w1.heap=w.heap:=by rcases hw1 with rfl | rfl<;>rfl
 have hset:=MapKept.heap_set (o':=Obj.mapIter (some b) s (q.push e.born) s) a3;refine⟨.tuple #[.bool true,e.key,e.val],setBlock w1 r (.mapIter (some b) s (q.push e.born) s),by simp only[aL,execOp,hx];simp[hrun],?_,h1 (a.map fun x=>(x.key,x.val)) (e.key,e.val) (z.map fun x=>(x.key,x.val)) _ (by rw[e1];simp) (by simp[setBlock,hh]) ?_ ?_⟩
 ·have s1:Same w w1:=by
   rcases hw1 with rfl | rfl
   ·exact Same.refl _
   exact⟨rfl,rfl,rfl,Dy _,fun _ h=>h⟩
  refine s1.trans (Same.lE rfl rfl rfl (by simp[setBlock]) (g:=r) (by rw[hh];exact a3) (by simp) fun k _ hk=>?_);simp only[setBlock,hh];exact hset.2 k hk
 ·intro j hj;simp only[setBlock,hh];exact hset.2 j hj
 refine⟨es,s,q,e,?_,a2,?_,?_,rfl,?_⟩
 ·simp only[setBlock,hh];rw[hset.2 b hne];exact a1
 ·simp only[setBlock,hh];exact hset.1
 ·unfold leftOf at he;rw[E6]at he;exact(EP.1 he).1
 rw[e2,Fa]
theorem yM{x:Operand}(hx:asg us x = .pointer (some ⟨r,0,none⟩))(m:ItE h b r p left)(hk:K (.tuple #[p.1,p.2]) h):step P (.entry x) ty us h K:=by obtain⟨es,s,q,e,a1,a2,a3,a4,rfl,_⟩:=m.ex;refine cf (bE fun w hw=>?_);subst hw;refine⟨.tuple #[e.key,e.val],w,?_,Same.refl _,hk⟩;simp only[aL,execOp,hx];simp[run_entry_at (P:=P) w r b s q es s e a3 a1 a4 a2.2.1]
end
def AS:Value->Bool
 | .nilFunc=>true
 | .func _ _ _=>true
 | _=>false
def qY:Value->Bool
 | .nilFunc=>true
 | _=>false
theorem Ap{P:Program}{ty t rt:TypeId}{us:List (Nat × Value)}{h:Heap}{K:Value->Heap->Prop}{x y:Operand}{v:Value}{ps rs:Array TypeId}{vr:Bool}(hu:P.underlying t=some (.func ps rs vr))(hv:AS v=true)(hx:asg us x=v)(hy:asg us y = .nilFunc)(hk:K (.bool (qY v)) h):step P (.binOp .eql t x y rt) ty us h K:=by
 refine cf (bE fun w hw=>⟨_,w,?_,Same.refl _,by rw[hw];exact hk⟩);simp only[aL,execOp,hx,hy];have e1:(Op.equal t v .nilFunc).run P w = .ok (qY v) w:=by show(Op.equalIn (9999+1) t _ _).run P w=_;rw[Op.equalIn];cases v<;>simp[AS]at hv<;>simp[run_underlying hu,qY]
 simp[eqGuard,binOp,e1]
end
end Go.Lft
namespace Go.Lft
open Go
variable {po po2:OP}
theorem aU.pM:Part aU Int 0 aU.op (fun d x=>{ d with op:=x }):=(Part.fst Part.all).via (fun _=>rfl) fun _ _=>rfl
theorem aU.Dr:Part aU Int 1 aU.d (fun d x=>{ d with d:=x }):=(Part.snd (Part.fst Part.all)).via (fun _=>rfl) fun _ _=>rfl
theorem aU.Ds:Part aU Int 2 aU.e (fun d x=>{ d with e:=x }):=(Part.snd (Part.snd (Part.fst Part.all))).via (fun _=>rfl) fun _ _=>rfl
theorem aU.CM:Part aU Int 3 aU.a (fun d x=>{ d with a:=x }):=(Part.snd (Part.snd (Part.snd (Part.fst Part.all)))).via (fun _=>rfl) fun _ _=>rfl
theorem aU.Dn:Part aU Int 4 aU.b (fun d x=>{ d with b:=x }):=(Part.snd (Part.snd (Part.snd (Part.snd (Part.fst Part.all))))).via (fun _=>rfl) fun _ _=>rfl
theorem aU.Dp:Part aU Int 5 aU.c (fun d x=>{ d with c:=x }):=(Part.snd (Part.snd (Part.snd (Part.snd (Part.snd (Part.fst Part.all)))))).via (fun _=>rfl) fun _ _=>rfl
theorem aU.iy:Part aU I32 6 aU.imm (fun d x=>{ d with imm:=x }):=(Part.snd (Part.snd (Part.snd (Part.snd (Part.snd (Part.snd (Part.fst Part.all))))))).via (fun _=>rfl) fun _ _=>rfl
theorem aU.fm:Part aU (List Int) 7 aU.args (fun d x=>{ d with args:=x }):=(Part.snd (Part.snd (Part.snd (Part.snd (Part.snd (Part.snd (Part.snd Part.all))))))).via (fun _=>rfl) fun _ _=>rfl
theorem EndD.pM:Part EndD Int 0 EndD.op (fun d x=>{ d with op:=x }):=(Part.fst Part.all).via (fun _=>rfl) fun _ _=>rfl
theorem EndD.CM:Part EndD Int 1 EndD.a (fun d x=>{ d with a:=x }):=(Part.snd (Part.fst Part.all)).via (fun _=>rfl) fun _ _=>rfl
theorem FitD.vZ:Part FitD (List Int) 0 FitD.takes (fun d x=>{ d with takes:=x }):=(Part.fst Part.all).via (fun _=>rfl) fun _ _=>rfl
theorem FitD.zX:Part FitD (List Int) 1 FitD.inner (fun d x=>{ d with inner:=x }):=(Part.snd (Part.fst Part.all)).via (fun _=>rfl) fun _ _=>rfl
theorem FitD.BA:Part FitD (List aU) 2 FitD.code (fun d x=>{ d with code:=x }):=(Part.snd (Part.snd (Part.fst Part.all))).via (fun _=>rfl) fun _ _=>rfl
theorem FitD.CD:Part FitD EndD 3 FitD.fin (fun d x=>{ d with fin:=x }):=(Part.snd (Part.snd (Part.snd Part.all))).via (fun _=>rfl) fun _ _=>rfl
theorem bf.Dq:Part bf ae 0 bf.f (fun d x=>{ d with f:=x }):=(Part.fst Part.all).via (fun _=>rfl) fun _ _=>rfl
theorem bf.C9:Part bf InsD 2 bf.i (fun d x=>{ d with i:=x }):=(Part.snd (Part.fst Part.all)).via (fun _=>rfl) fun _ _=>rfl
theorem bf.Du:Part bf cL 7 bf.t (fun d x=>{ d with t:=x }):=(Part.snd (Part.snd (Part.fst Part.all))).via (fun _=>rfl) fun _ _=>rfl
theorem bf.nA:Part bf Bool 11 bf.term (fun d x=>{ d with term:=x }):=(Part.snd (Part.snd (Part.snd (Part.fst Part.all)))).via (fun _=>rfl) fun _ _=>rfl
theorem bf.zb:Part bf Int 12 bf.temp (fun d x=>{ d with temp:=x }):=(Part.snd (Part.snd (Part.snd (Part.snd Part.all)))).via (fun _=>rfl) fun _ _=>rfl
theorem bP.wy:Part bP Int 0 bP.pat (fun d x=>{ d with pat:=x }):=(Part.fst Part.all).via (fun _=>rfl) fun _ _=>rfl
theorem bP.zr:Part bP Int 1 bP.cost (fun d x=>{ d with cost:=x }):=(Part.snd Part.all).via (fun _=>rfl) fun _ _=>rfl
theorem iH {H:View} {op d e a b c:Int} {imm:I32} {va:Value} {args:List Int} (h : ∀x∈[op,d,e,a,b,c],-9223372036854775808<=x/\x<=9223372036854775807) (hi:-2147483648<=imm.v/\imm.v<=2147483647) (ha:SlRd H va args) :
  Rd H (.agg #[.int .i64 op,.int .i64 d,.int .i64 e,.int .i64 a,.int .i64 b,.int .i64 c,.int .i32 imm.v,va]) (⟨op,d,e,a,b,c,imm,args⟩:aU):=by
 simp only[DL,FC,or_false,forall_eq_or_imp,forall_eq]at h;obtain⟨h1,h2,h3,h4,h5,h6⟩:=h;have hl:Rep.rd H [va] args:=by have:=dG.2 ha;unfold Rd at this;simpa[Rep.agg]using this
 unfold Rd;rw[if_pos (show Rep.agg _=true from rfl)];exact⟨_,rfl,[_],_,rfl,⟨rfl,h1⟩,[_],_,rfl,⟨rfl,h2⟩,[_],_,rfl,⟨rfl,h3⟩,[_],_,rfl,⟨rfl,h4⟩,[_],_,rfl,⟨rfl,h5⟩,[_],_,rfl,⟨rfl,h6⟩,[_],[_],rfl,⟨rfl,hi⟩,hl⟩
theorem iC {H:View} {op a b:Int} {imm:I32} {vt:Value} {l:List Int} (h : ∀x∈[op,a,b],-9223372036854775808<=x/\x<=9223372036854775807) (hi:-2147483648<=imm.v/\imm.v<=2147483647) (ht:SlRd H vt l) :
  Rep.rd H [.int .i64 op,.int .i64 a,.int .i64 b,vt,.int .i32 imm.v] (⟨op,a,b,l,imm⟩:EndD):=by
 simp only[DL,FC,or_false,forall_eq_or_imp,forall_eq]at h;obtain⟨h1,h2,h3⟩:=h;have hl:Rep.rd H [vt] l:=by have:=dG.2 ht;unfold Rd at this;simpa[Rep.agg]using this
 exact⟨[_],_,rfl,⟨rfl,h1⟩,[_],_,rfl,⟨rfl,h2⟩,[_],_,rfl,⟨rfl,h3⟩,[_],[_],rfl,hl,⟨rfl,hi⟩⟩
theorem iP {H:View} {v1 v2 v3:Value} {takes inner:List Int} {code:List aU} {ce:List Value} {fin:EndD} (h1:SlRd H v1 takes) (h2:SlRd H v2 inner) (h3:SlRd H v3 code) (h4:Rep.rd H ce fin) :
  Rd H (.agg (v1::v2::v3::ce).toArray) (⟨takes,inner,code,fin⟩:FitD):=by
 have q1:Rep.rd H [v1] takes:=by have:=dG.2 h1;unfold Rd at this;simpa[Rep.agg]using this
 have q2:Rep.rd H [v2] inner:=by have:=dG.2 h2;unfold Rd at this;simpa[Rep.agg]using this
 have q3:Rep.rd H [v3] code:=by have:=dG.2 h3;unfold Rd at this;simpa[Rep.agg]using this
 unfold Rd;rw[if_pos (show Rep.agg _=true from rfl)];exact⟨_,rfl,[_],_,rfl,q1,[_],_,rfl,q2,[_],_,rfl,q3,h4⟩
theorem Owns.rh {W:View} {h:Heap} {o:Own} {k:Key} {P:Program} {ty:TypeId} {us:List (Nat × Value)} {n:Nat} {e t:TypeId} {B:Nat} {l l':List Value} {x y:Operand} {K:Value->Heap->Prop} (w:Owns W h o) (hk:o k=bx e B (RawN.mk (n:=n) l)) (hsz:cH P t=some (n+1)) (hx:asg us x = .pointer (some ⟨B,0,none⟩)) (hy:asg us y = .agg l'.toArray) (hl:l'.length=n+1) (h1 : ∀c∈l',c.oneCell'=true)
  (hK : ∀h',Owns W h' (o.upd k (bx e B (RawN.mk (n:=n) l')))->(∀X:View,X.le (vw h)->X B=none->X.le (vw h'))->K undef h'):@step po P (.store t x y) ty us h K:=
 w.qi (po:=po) (Part.all) (d:=RawN.mk (n:=n) l') hk hsz hx hy (wv hl h1) hK
theorem jY [pp:PP] {P:Program} {m:Option View} {x y:Reg} {Q:Env->Heap->Prop} {ρ:Env} {h:Heap} (h1:df P m x Q ρ h) (h2:df P m y Q ρ h):df P m (.both x y) Q ρ h:=⟨h1,h2⟩
theorem At.ldN {α:Type} [Rep α] {H:View} {a:Addr} {d:α} (h:At H a d) (ha:Rep.agg α=true) {N:Nat} (hN:Rep.n α=N) : ∃u,(∀K:View,H.le K->Un.ev K (.ak N) (.pointer (some a))=some u)/\Rd H u d:=by subst hN;obtain⟨u,h1,h2⟩:=h.ak ha;refine⟨u,fun K hk=>?_,h2⟩;have:=dp (ρ:=fun _=>none) (e:=.un (.ak (Rep.n α)) (.con (.pointer (some a)))) hk (v:=u) (by simpa using h1);simpa using this
structure Cx (V:View) (h0:Heap) (W:View) (h:Heap) (o:Own):Prop where
 own:Owns W h o
 old:Old V h0 W
 le0:(vw h0).le (vw h)
 new : ∀k i b,o k=some i->i.v.ownBlock=some b->h0.size<=b
section
variable {V W:View} {h0 h h':Heap} {o:Own} {k:Key} {P:Program} {ty:TypeId} {us:List (Nat × Value)}
theorem Cx.start (hV:V.le (vw h)):Cx V h V h fun _=>none:=⟨Owns.start hV,Old.refl _ _,View.le_refl _,fun _ _ _ e=>by cases e⟩
theorem Cx.wle (c:Cx V h0 W h o):W.le (vw h):=c.own.wle
theorem Cx.ext (c:Cx V h0 W h o) (hle:(vw h).le (vw h')):Cx V h0 (grow W h h') h' o:=⟨c.own.ext hle,c.old.grow (cO c.le0),View.le_trans c.le0 hle,c.new⟩
theorem Cx.fin (c:Cx V h0 W h o):W.le (grow V h0 h):=c.old.le c.wle
theorem Cx.up (c:Cx V h0 W h o):W.le (grow W h h'):=dg c.wle
theorem Cx.cS {α:Type} [Rep α] {t:TypeId} {x:Operand} {v:Value} {d:α} {K:Value->Heap->Prop} (c:Cx V h0 W h o) (hx:asg us x=v) (hv:Rd W v d)
  (hk : ∀B h' W',W.le W'->Cx V h0 W' h' o->At W' ⟨B,0,none⟩ d->(vw h).le (vw h')->K (.pointer (some ⟨B,0,none⟩)) h'):@step po P (.box t x) ty us h K:=by refine iD hx (hv.mono c.wle) fun h1 hp hle hs _=>?_;exact hk _ _ _ c.up (c.ext hle) (nq (t:=t) (fz:=(0,0)) (by rw[dm (Dy _),hp];simp) (hv.mono c.up)) hle
theorem Cx.da {α:Type} [Rep α] {t ty2:TypeId} {n:Nat} {z:Value} {x y:Operand} {us2:Value->List (Nat × Value)} {v:Value} {d:α} {K:Value->Heap->Prop} (c:Cx V h0 W h o) (hv:Rd W v d) (hz:(P.info? t).map (·.zero)=some (some z)) (hN:Rep.n α=n) (hzc:z.cells.size=n) (hsz:cH P t=some n)
  (hx : ∀p,asg (us2 p) x=p) (hy : ∀p,asg (us2 p) y=v) (hk : ∀B h' W',W.le W'->Cx V h0 W' h' o->At W' ⟨B,0,none⟩ d->(vw h).le (vw h')->K (.pointer (some ⟨B,0,none⟩)) h') :
  @step po P (.alloc t) ty us h fun p h2=>@step po2 P (.store t x y) ty2 (us2 p) h2 fun _ h3=>K p h3:=by subst hN;refine dc (X:=W) hz hzc hsz hv hx hy fun h1 hle hs hat=>?_;exact hk _ _ _ c.up (c.ext hle) (hat _ c.up (dm (Dy _))) hle
theorem Cx.cU {t:TypeId} {n:Nat} {z:Value} {K:Value->Heap->Prop} (c:Cx V h0 W h o) (hk:o k=none) (hz:(P.info? t).map (·.zero)=some (some z)) (hzc:z.cells.size=n+1) (hn:n+1<=1000)
  (hone : ∀c∈z.cells.toList,c.oneCell'=true) (hK : ∀B h':_,(vw h).le (vw h')->Cx V h0 W h' (o.upd k (bx t B (RawN.mk (n:=n) z.cells.toList)))->K (.pointer (some ⟨B,0,none⟩)) h') :
  @step po P (.alloc t) ty us h K:=
 c.own.cU hk hz hzc hn hone fun h1 hle w=>hK _ _ hle ⟨w,c.old,View.le_trans c.le0 hle,fun j i b hj hb=>by
  by_cases e:j=k
  ·subst e;rw[Own.aw]at hj;cases hj;cases hb;exact cO c.le0
  rw[Own.uM e]at hj;exact c.new j i b hj hb⟩
theorem Cx.rh {n:Nat} {e t:TypeId} {B:Nat} {l l':List Value} {x y:Operand} {K:Value->Heap->Prop} (c:Cx V h0 W h o) (hk:o k=bx e B (RawN.mk (n:=n) l)) (hsz:cH P t=some (n+1)) (hx:asg us x = .pointer (some ⟨B,0,none⟩)) (hy:asg us y = .agg l'.toArray) (hl:l'.length=n+1) (h1 : ∀c∈l',c.oneCell'=true)
  (hK : ∀h',Cx V h0 W h' (o.upd k (bx e B (RawN.mk (n:=n) l')))->K undef h'):@step po P (.store t x y) ty us h K:=
 c.own.rh hk hsz hx hy hl h1 fun h2 w hX=>hK _ ⟨w,c.old,hX _ c.le0 (View.cJ (View.le_refl _) (c.new k _ B hk rfl)),fun j i b hj hb=>by
  by_cases e:j=k
  ·subst e;rw[Own.aw]at hj;cases hj;exact c.new _ _ b hk hb
  rw[Own.uM e]at hj;exact c.new j i b hj hb⟩
theorem Cx.bC {α:Type} [Rep α] {n:Nat} {e t:TypeId} {B:Nat} {l:List Value} {x y:Operand} {v:Value} {d:α} {K:Value->Heap->Prop} (c:Cx V h0 W h o) (hk:o k=bx e B (RawN.mk (n:=n) l)) (hr:Rd W v d) (ha:Rep.agg α=true) (hN:Rep.n α=n+1) (hsz:cH P t=some (n+1)) (hx:asg us x = .pointer (some ⟨B,0,none⟩)) (hy:asg us y=v)
  (hK : ∀h' l',v = .agg l'.toArray->Cx V h0 W h' (o.upd k (bx e B (RawN.mk (n:=n) l')))->K undef h'):@step po P (.store t x y) ty us h K:=by have h2:=fh hr;unfold Rd at hr;rw[if_pos ha]at hr;obtain⟨cs,rfl,h1⟩:=hr;have hl:=Rep.len h1;exact c.rh hk hsz hx (l':=cs.toList) (by simpa using hy) (by rw[hl,hN]) (fun c hc=>Rep.flat h1 c hc) fun h'=>hK h' cs.toList (by simp)
theorem Cx.all {n:Nat} {e:TypeId} {B:Nat} {l:List Value} (c:Cx V h0 W h o) (hk:o k=bx e B (RawN.mk (n:=n) l)):Un.ev (vw h) (.ak (n+1)) (.pointer (some ⟨B,0,none⟩))=some (.agg l.toArray):=c.own.Bw hk
theorem Cx.jh {α:Type} [Rep α] {t e n:Nat} {bytes:Nat} {z:Value} {ps:Array (Nat × Operand)} {vs:List Value} {ds:List α} {K:Value->Heap->Prop} (c:Cx V h0 W h o) (hT:eR P t e (Rep.n α) bytes z)
  (hp:ps.map (fun p=>(p.1,asg us p.2))=((vs.zipIdx 0).map fun p=>(p.2,p.1)).toArray) (hr:lp W vs ds) (hn:ds.length=n) (hb:n*Rep.n α<=16777216) (hb2:n<=16777216)
  (hk : ∀u h' W',W.le W'->Cx V h0 W' h' o->SlRd W' u ds->(vw h).le (vw h')->K u h'):@step po P (.buildSlice t n ps) ty us h K:=
 gm hT hp hr hn hb hb2 fun u h1 hle hs hu _=>hk _ _ _ c.up (c.ext hle) (hu _ c.up (dm (Dy _))) hle
end
end Go.Lft
namespace Go.Proofs.YtnfiilgdjpdlkaaGreatDoor
open Go Go.Lft
theorem iv {n lo hi:Int} {h:Heap}:aj Tryz.prog N.dH #[.int .i64 n,.int .i64 lo,.int .i64 hi] h (fun u h'=>h'=h/\u = .bool (inR n lo hi)):=by
 refine ah (args:=[.int .i64 n,.int .i64 lo,.int .i64 hi]) follows F.dH E.dH (Dv (by kernel_rfl)) fun K hK=>?_;dsimp only[L.dH];by_cases c:lo<=n
 ·simp[c];exact hK _ _ ⟨rfl,by simp[inR,c]⟩
 simp[c];exact hK _ _ ⟨rfl,by simp[inR,c]⟩
end Go.Proofs.YtnfiilgdjpdlkaaGreatDoor
namespace Go.Lft
open Go
theorem yq {H:View} {B:Nat} {s:bf} (h:At H ⟨B,0,none⟩ s) : ∃vb va wa wt,Sl H ⟨B,1,none⟩ vb s.f.blocks/\ag H ⟨B,2,none⟩=some (.int .i64 s.i.op)/\ag H ⟨B,3,none⟩=some (.int .i64 s.i.dst)/\Sl H ⟨B,5,none⟩ va s.i.args/\
  ag H ⟨B,6,none⟩=some (.int .i32 s.i.imm.v)/\ag H ⟨B,7,none⟩=some (.int .i64 s.t.kind)/\Sl H ⟨B,8,none⟩ wa s.t.args/\Sl H ⟨B,9,none⟩ wt s.t.to/\ag H ⟨B,10,none⟩=some (.int .i32 s.t.imm.v)/\
  ag H ⟨B,11,none⟩=some (.bool s.term)/\ag H ⟨B,12,none⟩=some (.int .i64 s.temp):=by
 have hf:=h.part bf.Dq;have hi:=h.part bf.C9;have ht:=h.part bf.Du;obtain⟨vb,h1⟩:=(hf.part ae.pj).sl;obtain⟨va,h5⟩:=(hi.part InsD.fm).sl;obtain⟨wa,h8⟩:=(ht.part cL.fm).sl;obtain⟨wt,h9⟩:=(ht.part cL.Bq).sl;exact⟨vb,va,wa,wt,by simpa using h1,by simpa using(hi.part InsD.pM).int,by simpa using(hi.part InsD.gK).int,by simpa using h5,by simpa using(hi.part InsD.iy).i32,by simpa using(ht.part cL.uV).int,
  by simpa using h8,by simpa using h9,by simpa using(ht.part cL.iy).i32,by simpa using(h.part bf.nA).bool,by simpa using(h.part bf.zb).int⟩
theorem Sl.mono {α:Type} [Rep α] {H K:View} (hk:H.le K) {a:Addr} {v:Value} {l:List α} (s:Sl H a v l):Sl K a v l:=⟨ab hk s.1,s.2.mono hk⟩
end Go.Lft
namespace Go.Proofs.YtnfiilgdjpdlkaaGreatDoor
open Go Go.Lft
theorem cZ{v:Value}{l:List Int}{h:Heap}{W:View}(hW:W.le (vw h))(hv:SlRd W v l)(hb:l.length<=1000000):
  aj Tryz.prog N.cu #[v] h (fun u h'=>(vw h).le (vw h')/\SlRd (grow W h h') u l):=by
 refine ah (args:=[v]) follows F.cu E.cu (Dv (by kernel_rfl)) fun K hK=>?_;dsimp only[L.cu];have hv0:=hv;obtain⟨a,cap,rfl,g1,g2,g3⟩:=hv0;refine aa fun z hz=>?_;simp;subst hz;refine aa fun z hz=>?_;refine aa fun y hy=>?_;simp;refine yJ U.ck rfl rfl ?_;subst hy;by_cases ha:a=none
 ·subst ha;have hl:l=[]:=by
   rcases g3 with g3 | ⟨ad,g3,_⟩
   ·first | exact g3 | exact DR (by simpa using g3)
   cases g3
  subst hl;simp;exact hK _ _ ⟨View.le_refl _,aF⟩
 have hi:a.isNone=false:=by cases a<;>simp at ha ⊢
 simp[hi];subst hz;refine aa fun z hz=>?_;simp;refine Al (α:=Int) El.ck fun h1 hle1 hs1 own1=>?_;have m1:=Mine.empty (V:=W) (W:=W) (View.le_refl _) hle1 hW (Old.refl _ _) own1;refine fY (α:=Int) (l:=[]) (l2:=l) El.ck rfl rfl m1.own (hv.src (View.le_trans hW hle1)) (by simp;omega) (by simp;omega) fun v2 h2 own2 mv=>?_;have m2:=m1.jE own2 mv
 subst hz;simp;refine hK _ _ ⟨m2.old,?_⟩;have:=m2.result;simpa using this
theorem iR{v0 v1 v2:Value}{m:aU}{takes inner:List Int}{h:Heap}{W:View}(hW:W.le (vw h))(h0:Rd W v0 m)(h1:SlRd W v1 takes)(h2:SlRd W v2 inner):
  aj Tryz.prog N.fN #[v0,v1,v2] h (fun u h'=>(vw h).le (vw h')/\∃vf,u = .tuple #[vf,.bool true]/\Rd (grow W h h') vf (⟨takes,inner,[m],dJ⟩:FitD)):=by
 refine ah (args:=[v0,v1,v2]) follows F.fN E.fN (Dv (by kernel_rfl)) fun K hK=>?_;dsimp only[L.fN];have c0:=Cx.start hW;refine aa fun z hz=>?_;simp;refine c0.cS rfl h0 fun B ha Wa hWa ca hat hlea=>?_;obtain⟨um,hum,hmr⟩:=hat.ldN rfl (N:=8) rfl;refine ca.cU (k:=(0,0)) (n:=7) (z:=.agg #[.slice none 0 0,.slice none 0 0,.slice none 0 0,.int .i64 0,.int .i64 0,.int .i64 0,.slice none 0 0,.int .i32 0]) rfl (by kernel_rfl) rfl (by decide) (by simp[Value.cells,Value.oneCell']) fun R hb hleb cb=>?_;subst hz;refine aa fun z hz=>?_;simp[hum _ (View.le_trans ca.wle hleb)];refine cb.jh (α:=aU) (n:=1) (vs:=[um]) (ds:=[m]) El.jx (by simp) ⟨hmr,trivial⟩ rfl (by decide) (by decide) fun u hc Wc hWc cc hu hlec=>?_;have hr:Rd Wc (.agg (v1::v2::u::[.int .i64 0,.int .i64 0,.int .i64 0,.slice none 0 0,.int .i32 0]).toArray) (⟨takes,inner,[m],dJ⟩:FitD):=
  iP (h1.mono (View.le_trans hWa hWc)) (h2.mono (View.le_trans hWa hWc)) hu (iC (by simp) (by decide) aF)
 have e1:=h1;have e2:=h2;have e3:=hu;obtain⟨a1,k1,rfl,-⟩:=e1;obtain⟨a2,k2,rfl,-⟩:=e2;obtain⟨a3,k3,rfl,-⟩:=e3;refine an (z:=.agg #[.slice none 0 0,.slice none 0 0,.slice none 0 0,.int .i64 0,.int .i64 0,.int .i64 0,.slice none 0 0,.int .i32 0]) (places:=[(0,1),(1,1),(2,1),(3,5)]) (vs:=[(0,.slice a1 takes.length k1),(1,.slice a2 inner.length k2),(2,.slice a3 [m].length k3)]) (cs:=#[.slice a1 takes.length k1,.slice a2 inner.length k2,.slice a3 [m].length k3,.int .i64 0,.int .i64 0,.int .i64 0,.slice none 0 0,.int .i32 0]) (by kernel_rfl) (by kernel_rfl) (by simp) (by rfl) ?_;refine cc.bC (k:=(0,0)) Own.aw hr rfl rfl (by kernel_rfl) rfl rfl fun hd l' hl' cd=>?_;subst hz;simp[cd.all (k:=(0,0)) Own.aw];refine hK _ _ ⟨cd.le0,_,rfl,?_⟩;rw[<-hl'];exact hr.mono cd.fin
theorem tE{f:ae}{v:Int}:jJ f v=f.blocks.findSome? fun b=>b.ins.find? (fb v):=by unfold jJ dr;rw[List.find?_flatMap]
theorem yO{f:ae}{v:Int}{b i:Nat}(hb:b<f.blocks.length)(hi:i<(nth f.blocks b).ins.length)(h1:((f.blocks.take b).findSome? fun b=>b.ins.find? (fb v))=none)(h2:((nth f.blocks b).ins.take i).find? (fb v)=none)(h3:fb v (nth (nth f.blocks b).ins i)=true):jJ f v=some (nth (nth f.blocks b).ins i):=by
 have e1:f.blocks.take b++nth f.blocks b::f.blocks.drop (b+1)=f.blocks:=by rw[aq hb,<-List.drop_eq_getElem_cons hb,EU]
 have e2:(nth f.blocks b).ins.take i++nth (nth f.blocks b).ins i::(nth f.blocks b).ins.drop (i+1)=(nth f.blocks b).ins:=by rw[aq hi,<-List.drop_eq_getElem_cons hi,EU]
 have e3:(nth f.blocks b).ins.find? (fb v)=some (nth (nth f.blocks b).ins i):=by
  have:((nth f.blocks b).ins.take i++nth (nth f.blocks b).ins i::(nth f.blocks b).ins.drop (i+1)).find? (fb v)=some (nth (nth f.blocks b).ins i):=by rw[Ft,h2,EN,List.find?_cons,h3]
  rwa [e2]at this
 have:((f.blocks.take b++nth f.blocks b::f.blocks.drop (b+1)).findSome? fun b=>b.ins.find? (fb v))=some (nth (nth f.blocks b).ins i):=by rw[EV,h1,List.findSome?_cons,e3];rfl
 rw[e1]at this;rw[tE];exact this
theorem pn{H:View}:Rd H (.agg #[.int .i64 0,.int .i64 0,.int .i64 0,.slice none 0 0,.int .i32 0]) ia:=by
 have hl:Rep.rd H [Value.slice none 0 0] ([]:List Int):=by have:=dG.2 (aF (α:=Int) (H:=H));unfold Rd at this;simpa[Rep.agg]using this
 unfold Rd;rw[if_pos (show Rep.agg InsD=true from rfl)];exact⟨_,rfl,[_],_,rfl,⟨rfl,by decide,by decide⟩,[_],_,rfl,⟨rfl,by decide,by decide⟩,[_],_,rfl,⟨rfl,by decide,by decide⟩,[_],[_],rfl,hl,rfl,by decide,by decide⟩
theorem tQ{s:bf}{v:Value}{x:Int}{h:Heap}{W:View}(hW:W.le (vw h))(hv:Rd W v s)(hsm:SmF s.f):
  aj Tryz.prog N.bN #[v,.int .i64 x] h (fun u h'=>(vw h).le (vw h')/\∃vi,u = .tuple #[vi,.bool (jJ s.f x).isSome]/\Rd (grow W h h') vi ((jJ s.f x).getD ia)):=by
 refine ah (args:=[v,.int .i64 x]) follows F.bN E.bN (Dv (by kernel_rfl)) fun K hK=>?_;dsimp only[L.bN];have c0:=Cx.start hW;refine aa fun z hz=>?_;simp;refine c0.cS rfl hv fun B ha Wa hWa ca hat hlea=>?_;obtain⟨vb,va,wa,wt,sb,-⟩:=yq hat;refine ca.cU (k:=(0,0)) (n:=4) (z:=.agg #[.int .i64 0,.int .i64 0,.int .i64 0,.slice none 0 0,.int .i32 0]) rfl (by kernel_rfl) rfl (by decide) (by simp[Value.cells,Value.oneCell']) fun R hb hleb cb=>?_;subst hz;refine aa fun z hz=>?_;have sbb:=sb.mono cb.wle
 have hbd:=sb.2.bound;simp[sbb.1,sbb.2.len];refine ao [0,1,2,4,5,12,13,14] (fun(_:Unit) k=>[v,.int .i64 x,.pointer (some ⟨B,0,none⟩),.pointer (some ⟨R,0,none⟩),.bool false,vb,.int .i64 s.f.blocks.length,.int .i64 k])
  (fun _ k h1=>(s.f.blocks.take k).findSome? (fun b=>b.ins.find? (fb x))=none/\∃W1,Wa.le W1/\Cx W h W1 h1 (Own.upd (fun _=>none) (0,0) (bx T.fk R (RawN.mk (n:=4) [.int .i64 0,.int .i64 0,.int .i64 0,.slice none 0 0,.int .i32 0])))) s.f.blocks.length ()
  rfl (by omega) rfl ⟨rfl,Wa,View.le_refl _,cb⟩ (fun _ _=>rfl) (fun v i h1 hk m=>by simp) ?_ ?_
 ·rintro _ k h1 hk ⟨hn,W1,hW1,c1⟩ K2 hK2;have q1:=(sb.2.mono hW1).wh rfl (N:=6) rfl hk;obtain⟨ub,hub,rub⟩:=q1;have hbs:=hsm.blk k hk;refine aa fun z hz=>?_;simp(disch:=omega)[(sb.2.mono (View.le_trans hW1 c1.wle)).idxn (N:=6) rfl,hub _ c1.wle];refine c1.da (α:=BlkD) rub (n:=6) (z:=.agg #[.slice none 0 0,.slice none 0 0,.int .i64 0,.slice none 0 0,.slice none 0 0,.int .i32 0]) (by kernel_rfl) rfl rfl (by kernel_rfl) (fun _=>by simp) (fun _=>by simp) fun B2 h2 W2 hW2 c2 hat2 hle2=>?_;obtain⟨vp,vi,va2,vt2,-,si,-⟩:=gS hat2;subst hz;refine aa fun z hz=>?_;have si2:=si.mono c2.wle
  have hbd2:=si.2.bound;simp[si2.1,si2.2.len];subst hz;generalize hbk:nth s.f.blocks k=bk at *;refine ao [0,1,2,4,5,7,12,13,14,19,20,21] (fun(_:Unit) i=>[v,.int .i64 x,.pointer (some ⟨B,0,none⟩),.pointer (some ⟨R,0,none⟩),.bool false,.pointer (some ⟨B2,0,none⟩),vb,.int .i64 s.f.blocks.length,.int .i64 k,vi,.int .i64 bk.ins.length,.int .i64 i])
   (fun _ i h3=>(bk.ins.take i).find? (fb x)=none/\∃W3,W2.le W3/\Cx W h W3 h3 (Own.upd (fun _=>none) (0,0) (bx T.fk R (RawN.mk (n:=4) [.int .i64 0,.int .i64 0,.int .i64 0,.slice none 0 0,.int .i32 0])))) bk.ins.length ()
   rfl (by omega) rfl ⟨rfl,W2,View.le_refl _,c2⟩ (fun _ _=>rfl) (fun v i h1 hk m=>by simp) ?_ ?_
  ·rintro _ i h3 hi ⟨hn3,W3,hW3,c3⟩ K3 hK3;have si3:=si.2.mono hW3;obtain⟨ui,hui,rui⟩:=si3.wh rfl (N:=5) rfl hi;have hst:(bk.ins.take (i+1)).find? (fb x)=if fb x (nth bk.ins i) then some (nth bk.ins i) else none:=by rw[DK hi,Ft,hn3,EN,aq hi,List.find?_singleton]
   refine aa fun z hz=>?_;simp(disch:=omega)[(si3.mono c3.wle).idxn (N:=5) rfl,hui _ c3.wle];refine c3.da (α:=InsD) rui (n:=5) (z:=.agg #[.int .i64 0,.int .i64 0,.int .i64 0,.slice none 0 0,.int .i32 0]) (by kernel_rfl) rfl rfl (by kernel_rfl) (fun _=>by simp) (fun _=>by simp) fun B4 h4 W4 hW4 c4 hat4 hle4=>?_;obtain⟨q0,q1,-⟩:=iF (hat4.mono c4.wle);obtain⟨ur,hur,rur⟩:=hat4.ldN rfl (N:=5) rfl;have hur:=hur _ c4.wle;generalize hxi:nth bk.ins i=xi at *;subst hz;refine aa fun z hz=>?_;by_cases p:fb x xi=true
   ·have hm:jJ s.f x=some xi:=by have:=yO (v:=x) hk (i:=i) (by rw[hbk];exact hi) hn (by rw[hbk];exact hn3) (by rw[hbk,hxi];exact p);rw[hbk,hxi]at this;exact this
    have p2:xi.op≠16/\xi.dst=x:=by simpa[fb]using p
    simp[q0,q1,p2.1,p2.2];subst hz;simp[hur];refine c4.bC (k:=(0,0)) Own.aw rur rfl rfl (by kernel_rfl) rfl rfl fun h5 l5 hl5 c5=>?_;simp[c5.all (k:=(0,0)) Own.aw];refine hK _ _ ⟨c5.le0,_,by rw[hm];rfl,?_⟩;rw[hm,<-hl5];exact rur.mono c5.fin
   have hc:(!decide (xi.op=16)&&decide (xi.dst=x))=false:=by simpa[fb]using p
   rw[if_neg p]at hst;by_cases p3:xi.op=16
   ·simp[q0,q1,p3];subst hz;simp;exact hK3 () _ _ rfl rfl ⟨hst,W4,View.le_trans hW3 hW4,c4⟩
   have p4:¬xi.dst=x:=by simpa[p3]using hc
   simp[q0,q1,p3,p4];subst hz;simp;exact hK3 () _ _ rfl rfl ⟨hst,W4,View.le_trans hW3 hW4,c4⟩
  rintro _ h3 ⟨hn3,W3,hW3,c3⟩;rw[Ep]at hn3;simp;refine hK2 () _ _ rfl rfl ⟨?_,W3,View.le_trans hW1 (View.le_trans hW2 hW3),c3⟩;rw[DK hk,EV,hn,EN,<-aq hk,hbk];simp[hn3]
 rintro _ h1 ⟨hn,W1,hW1,c1⟩;rw[Ep]at hn;have hm:jJ s.f x=none:=by rw[tE];exact hn
 simp;subst hz;refine aa fun z hz=>?_;simp;have hr:Rd W1 (.agg #[.int .i64 0,.int .i64 0,.int .i64 0,.slice none 0 0,.int .i32 0]) ia:=pn;refine an (z:=.agg #[.int .i64 0,.int .i64 0,.int .i64 0,.slice none 0 0,.int .i32 0]) (places:=[(0,1),(1,1),(2,1),(3,1),(4,1)]) (vs:=[]) (cs:=#[.int .i64 0,.int .i64 0,.int .i64 0,.slice none 0 0,.int .i32 0]) (by kernel_rfl) (by kernel_rfl) (by simp) (by rfl) ?_;refine c1.bC (k:=(0,0)) Own.aw hr rfl rfl (by kernel_rfl) rfl rfl fun h5 l5 hl5 c5=>?_;subst hz;simp[c5.all (k:=(0,0)) Own.aw];refine hK _ _ ⟨c5.le0,_,by rw[hm];rfl,?_⟩;rw[hm,<-hl5];exact hr.mono c5.fin
theorem mg{s:bf}{v:Value}{x op:Int}{h:Heap}{W:View}(hW:W.le (vw h))(hv:Rd W v s)(hsm:SmF s.f)(hx:I64 x):
  aj Tryz.prog N.cD #[v,.int .i64 x,.int .i64 op] h (fun u h'=>(vw h).le (vw h')/\∃vi,u = .tuple #[vi,.bool (aD s.f x op).2]/\Rd (grow W h h') vi (aD s.f x op).1):=by
 refine ah (args:=[v,.int .i64 x,.int .i64 op]) follows F.cD E.cD (Dv (by kernel_rfl)) fun K hK=>?_;dsimp only[L.cD];have c0:=Cx.start hW;refine aa fun z hz=>?_;simp;refine c0.cS rfl hv fun B ha Wa hWa ca hat hlea=>?_;refine ca.cU (k:=(0,0)) (n:=4) (z:=.agg #[.int .i64 0,.int .i64 0,.int .i64 0,.slice none 0 0,.int .i32 0]) rfl (by kernel_rfl) rfl (by decide) (by simp[Value.cells,Value.oneCell']) fun R hb hleb cb=>?_;subst hz;refine aa fun z hz=>?_;obtain⟨us,hus,rus⟩:=hat.ldN rfl (N:=13) rfl;simp[hus _ cb.wle];refine af (by kernel_rfl) (tQ cb.wle rus hsm) ?_;rintro _ hc ⟨hle,vi,rfl,hvi⟩;have cc:=cb.ext hle
 simp;refine cc.da (α:=InsD) hvi (n:=5) (z:=.agg #[.int .i64 0,.int .i64 0,.int .i64 0,.slice none 0 0,.int .i32 0]) (by kernel_rfl) rfl rfl (by kernel_rfl) (fun _=>by simp) (fun _=>by simp) fun B2 hd Wd hWd cd hat2 hle2=>?_;subst hz;refine aa fun z hz=>?_;refine bR Wd cd.wle ?_;obtain⟨d0,-⟩:=iF hat2;obtain⟨uf,huf,ruf⟩:=(hat.part bf.Dq).ldN rfl (N:=2) rfl;obtain⟨ui,hui,rui⟩:=hat2.ldN rfl (N:=5) rfl;have cbw:Wa.le Wd:=View.le_trans cb.up hWd;have huf:Un.ev Wd (.ak 2) (.pointer (some ⟨B,0,none⟩))=some uf:=by simpa using huf Wd cbw
 have ruf:=ruf.mono cbw;have hui:=hui Wd (View.le_refl _);have fin : ∀(b:Bool) (h2:Heap) (l':List Value),b=(aD s.f x op).2->ui = .agg l'.toArray->(jJ s.f x).getD ia=(aD s.f x op).1->Cx W h Wd h2 (Own.upd (Own.upd (fun _=>none) (0,0) (bx T.fk R (RawN.mk (n:=4) [.int .i64 0,.int .i64 0,.int .i64 0,.slice none 0 0,.int .i32 0]))) (0,0) (bx T.fk R (RawN.mk (n:=4) l')))->K (.tuple #[.agg l'.toArray,.bool b]) h2:=by rintro _ h2 l' rfl hl' e c2;refine hK _ _ ⟨c2.le0,_,rfl,?_⟩;rw[<-e,<-hl'];exact rui.mono c2.fin
 cases hm:jJ s.f x with
 | none=>rw[hm]at fin d0;simp[hui];refine cd.bC (k:=(0,0)) Own.aw rui rfl rfl (by kernel_rfl) rfl rfl fun h2 l' hl' c2=>?_;subst hz;simp[c2.all (k:=(0,0)) Own.aw];exact fin _ _ _ (by unfold aD;rw[hm];rfl) hl' (by unfold aD;rw[hm];rfl) c2
 | some i=>
  rw[hm]at fin d0;have d0:ag Wd ⟨B2,0,none⟩=some (.int .i64 i.op):=d0;have e1:aD s.f x op=(i,decide (i.op=op)&&dC s.f x):=by unfold aD;rw[hm];rfl
  by_cases c:i.op=op
  ·simp[hui,d0,c,huf];refine af (by kernel_rfl) (nO (ruf.mono cd.wle) hsm hx) ?_;rintro _ h1 ⟨rfl,hle1⟩;have c1:Cx W h Wd h1 _:=⟨cd.own.ext' hle1,cd.old,View.le_trans cd.le0 hle1,cd.new⟩;refine⟨c1.wle,?_⟩;refine c1.bC (k:=(0,0)) Own.aw rui rfl rfl (by kernel_rfl) rfl rfl fun h2 l' hl' c2=>?_;subst hz;simp[c2.all (k:=(0,0)) Own.aw];exact fin _ _ _ (by rw[e1];simp[c]) hl' (by rw[e1];rfl) c2
  simp[hui,d0,c];refine cd.bC (k:=(0,0)) Own.aw rui rfl rfl (by kernel_rfl) rfl rfl fun h2 l' hl' c2=>?_;subst hz;simp[c2.all (k:=(0,0)) Own.aw];exact fin _ _ _ (by rw[e1];simp[c]) hl' (by rw[e1];rfl) c2
theorem r9{s:bf}{v:Value}{x lo hi:Int}{h:Heap}{W:View}(hW:W.le (vw h))(hv:Rd W v s)(hsm:SmF s.f)(hx:I64 x):
  aj Tryz.prog N.bU #[v,.int .i64 x,.int .i64 lo,.int .i64 hi] h (fun u h'=>(vw h).le (vw h')/\u = .tuple #[.int .i64 (fe s.f x lo hi).1,.bool (fe s.f x lo hi).2]):=by
 refine ah (args:=[v,.int .i64 x,.int .i64 lo,.int .i64 hi]) follows F.bU E.bU (Dv (by kernel_rfl)) fun K hK=>?_;dsimp only[L.bU];have c0:=Cx.start hW;refine aa fun z hz=>?_;simp;refine c0.cS rfl hv fun B ha Wa hWa ca hat hlea=>?_;subst hz;refine aa fun z hz=>?_;obtain⟨us,hus,rus⟩:=hat.ldN rfl (N:=13) rfl;simp[hus _ ca.wle];refine af (by kernel_rfl) (mg ca.wle rus hsm hx) ?_;rintro _ hc ⟨hle,vi,rfl,hvi⟩;have cc:=ca.ext hle
 simp;refine cc.da (α:=InsD) hvi (n:=5) (z:=.agg #[.int .i64 0,.int .i64 0,.int .i64 0,.slice none 0 0,.int .i32 0]) (by kernel_rfl) rfl rfl (by kernel_rfl) (fun _=>by simp) (fun _=>by simp) fun B2 hd Wd hWd cd hat2 hle2=>?_;subst hz;refine aa fun z hz=>?_;refine bR Wd cd.wle ?_;have hp:=hat2.part InsD.iy;have d4:ag Wd ⟨B2,4,none⟩=some (.int .i32 (aD s.f x 1).1.imm.v):=by simpa using hp.i32
 obtain⟨_,-,rng⟩:=hp.load rfl;have rng:=(uY.1 rng).2;have ew:IntKind.i64.wrap (aD s.f x 1).1.imm.v=(aD s.f x 1).1.imm.v:=cj (by omega) (by omega);cases hb:(aD s.f x 1).2 with
 | false=>simp[d4,ew];subst hz;simp;exact hK _ _ ⟨cd.le0,by simp[fe,hb]⟩
 | true=>simp[d4,ew];refine af (by kernel_rfl) iv ?_;rintro _ hd ⟨rfl,rfl⟩;refine⟨cd.wle,?_⟩;subst hz;simp;exact hK _ _ ⟨cd.le0,by simp[fe,hb]⟩
end Go.Proofs.YtnfiilgdjpdlkaaGreatDoor
namespace Go.Lft
open Go
theorem SlRd.rng {H:View} {v:Value} {l:List Int} (h:SlRd H v l) {i:Nat} (hi:i<l.length):-9223372036854775808<=nth l i/\nth l i<=9223372036854775807:=by have:=(h.at hi).rng;rw[aq hi];exact this
theorem At.ox {H:View} {a:Addr} {d:I32} (h:At H a d):-2147483648<=d.v/\d.v<=2147483647:=by obtain⟨u,h1,h2⟩:=h.load rfl;exact(uY.1 h2).2
end Go.Lft
namespace Go.Proofs.YtnfiilgdjpdlkaaGreatDoor
open Go Go.Lft
def bD (V:View) (h h':Heap) (u:Value) (r:Option FitD):Prop:=(vw h).le (vw h')/\∃vf x,u = .tuple #[vf,.bool r.isSome]/\Rd (grow V h h') vf x/\∀y,r=some y->x=y
structure jI (W:View) (v:Value) (r:Option FitD):Prop where
 ex : ∃fn caps,v = .func (.func fn) #[] caps/\isFn Tryz.prog fn=true/\∀h V,W.le V->V.le (vw h)->aj Tryz.prog fn caps h (fun u h'=>bD V h h' u r)
theorem jI.mono {W W':View} {v:Value} {r:Option FitD} (f:jI W v r) (hW:W.le W'):jI W' v r:=let ⟨fn,caps,e,i,h⟩:=f.ex;⟨fn,caps,e,i,fun h' V hV hh=>h h' V (View.le_trans hW hV) hh⟩
theorem bD.of {V W:View} {h h':Heap} {o:Own} {u:Value} {x:FitD} {b:Bool} {r:Option FitD} (c:Cx V h W h' o) (hr:Rd W u x) (hb:b=r.isSome) (hx : ∀y,r=some y->x=y):bD V h h' (.tuple #[u,.bool b]) r:=⟨c.le0,u,x,by rw[hb],hr.mono c.fin,hx⟩
structure oF (i:InsD):Prop where
 two:2<=i.op/\i.op<=14\/i.op=16\/i.op=18->2<=i.args.length
 one:i.op=15->1<=i.args.length
 most:i.args.length<=10000
structure jW (s:bf):Prop where
 sm:SmF s.f
 all : ∀i∈dr s.f,oF i
 one:oF s.i
 rng : ∀i∈dr s.f,-2147483648<=i.imm.v/\i.imm.v<=2147483647
structure Ct (W:View) (S I:Nat) (s:bf):Prop where
 site:At W ⟨S,0,none⟩ s
 ins:At W ⟨I,0,none⟩ s.i
theorem Ct.mono {W W':View} {S I:Nat} {s:bf} (c:Ct W S I s) (h:W.le W'):Ct W' S I s:=⟨c.site.mono h,c.ins.mono h⟩
abbrev fitZ:List Value:=[.slice none 0 0,.slice none 0 0,.slice none 0 0,.int .i64 0,.int .i64 0,.int .i64 0,.slice none 0 0,.int .i32 0]
theorem gE {H:View}:Rd H (.agg fitZ.toArray) CA:=iP (v1:=.slice none 0 0) (v2:=.slice none 0 0) (v3:=.slice none 0 0) aF aF aF (iC (by simp) (by decide) aF)
section
variable {W V:View} {S I R:Nat} {s:bf} {h:Heap}
theorem wH (hV:V.le (vw h)):aj Tryz.prog N.ay #[] h (fun u h'=>bD V h h' u none):=by refine ah (args:=[]) follows F.ay E.ay (Dv (by kernel_rfl)) fun K hK=>?_;dsimp only[L.ay];have c0:=Cx.start hV;refine aa fun z hz=>?_;simp;refine c0.cU (k:=(0,0)) (n:=7) (z:=.agg fitZ.toArray) rfl (by kernel_rfl) rfl (by decide) (by simp[Value.cells,Value.oneCell']) fun R hb hleb cb=>?_;subst hz;refine aa fun z hz=>?_;simp;refine an (z:=.agg fitZ.toArray) (places:=[(0,1),(1,1),(2,1),(3,5)]) (vs:=[]) (cs:=fitZ.toArray) (by kernel_rfl) (by kernel_rfl) (by simp) (by rfl) ?_;refine cb.bC (k:=(0,0)) Own.aw gE rfl rfl (by kernel_rfl) rfl rfl fun h9 l9 hl9 c9=>?_;subst hz;simp[c9.all (k:=(0,0)) Own.aw];exact hK _ _ (bD.of c9 (hl9▸gE) rfl fun y e=>by cases e)
theorem zL (ct:Ct V S I s) (hV:V.le (vw h)):aj Tryz.prog N.bb #[.pointer (some ⟨I,0,none⟩)] h (fun u h'=>bD V h h' u (some ⟨[],[],[⟨4,s.i.dst,0,0,0,0,s.i.imm,[]⟩],dJ⟩)):=by
 refine ah (args:=[.pointer (some ⟨I,0,none⟩)]) follows F.bb E.bb (Dv (by kernel_rfl)) fun K hK=>?_;dsimp only[L.bb];have c0:=Cx.start hV;refine aa fun z hz=>?_;simp;refine c0.cU (k:=(0,0)) (n:=7) (z:=.agg fitZ.toArray) rfl (by kernel_rfl) rfl (by decide) (by simp[Value.cells,Value.oneCell']) fun R hb hleb cb=>?_;subst hz;refine aa fun z hz=>?_;have i1:=(ct.ins.part InsD.gK)
 have i4:=(ct.ins.part InsD.iy);have r1:=i1.rng;have r4:=i4.ox;have i1:ag (vw hb) ⟨I,1,none⟩=some (.int .i64 s.i.dst):=ab cb.wle (by simpa using i1.int);have i4:ag (vw hb) ⟨I,4,none⟩=some (.int .i32 s.i.imm.v):=ab cb.wle (by simpa using i4.i32);simp[i1,i4];refine an (z:=.agg #[.int .i64 0,.int .i64 0,.int .i64 0,.int .i64 0,.int .i64 0,.int .i64 0,.int .i32 0,.slice none 0 0]) (places:=[(0,1),(1,1),(2,1),(3,1),(4,1),(5,1),(6,1),(7,1)]) (vs:=[(0,.int .i64 4),(1,.int .i64 s.i.dst),(6,.int .i32 s.i.imm.v)]) (cs:=#[.int .i64 4,.int .i64 s.i.dst,.int .i64 0,.int .i64 0,.int .i64 0,.int .i64 0,.int .i32 s.i.imm.v,.slice none 0 0]) (by kernel_rfl) (by kernel_rfl) (by simp) (by rfl) ?_;have hm:Rd V (.agg #[.int .i64 4,.int .i64 s.i.dst,.int .i64 0,.int .i64 0,.int .i64 0,.int .i64 0,.int .i32 s.i.imm.v,.slice none 0 0]) (⟨4,s.i.dst,0,0,0,0,s.i.imm,[]⟩:aU):=iH (by simp[r1]) r4 aF;refine af (by kernel_rfl) (iR cb.wle hm aF aF) ?_;rintro _ hE ⟨hle,vf,rfl,hvf⟩;have cE:=cb.ext hle;simp;refine cE.bC (k:=(0,0)) Own.aw hvf rfl rfl (by kernel_rfl) rfl rfl fun h9 l9 hl9 c9=>?_;subst hz;simp[c9.all (k:=(0,0)) Own.aw];exact hK _ _ (bD.of c9 (hl9▸hvf) rfl fun y e=>by cases e;rfl)
theorem zM (ct:Ct V S I s) (hV:V.le (vw h)):aj Tryz.prog N.bn #[.pointer (some ⟨I,0,none⟩)] h (fun u h'=>bD V h h' u (if inR s.i.imm.v (-32768) 32767 then some ⟨[],[],[⟨3,s.i.dst,0,0,0,0,s.i.imm,[]⟩],dJ⟩ else none)):=by
 refine ah (args:=[.pointer (some ⟨I,0,none⟩)]) follows F.bn E.bn (Dv (by kernel_rfl)) fun K hK=>?_;dsimp only[L.bn];have c0:=Cx.start hV;refine aa fun z hz=>?_;simp;refine c0.cU (k:=(0,0)) (n:=7) (z:=.agg fitZ.toArray) rfl (by kernel_rfl) rfl (by decide) (by simp[Value.cells,Value.oneCell']) fun R hb hleb cb=>?_;subst hz;refine aa fun z hz=>?_;have i1:=(ct.ins.part InsD.gK)
 have i4:=(ct.ins.part InsD.iy);have r1:=i1.rng;have r4:=i4.ox;have i1:ag V ⟨I,1,none⟩=some (.int .i64 s.i.dst):=by simpa using i1.int
 have i4:ag V ⟨I,4,none⟩=some (.int .i32 s.i.imm.v):=by simpa using i4.i32
 simp[ab cb.wle i1,ab cb.wle i4];refine an (z:=.agg #[.int .i64 0,.int .i64 0,.int .i64 0,.int .i64 0,.int .i64 0,.int .i64 0,.int .i32 0,.slice none 0 0]) (places:=[(0,1),(1,1),(2,1),(3,1),(4,1),(5,1),(6,1),(7,1)]) (vs:=[(0,.int .i64 3),(1,.int .i64 s.i.dst),(6,.int .i32 s.i.imm.v)]) (cs:=#[.int .i64 3,.int .i64 s.i.dst,.int .i64 0,.int .i64 0,.int .i64 0,.int .i64 0,.int .i32 s.i.imm.v,.slice none 0 0]) (by kernel_rfl) (by kernel_rfl) (by simp) (by rfl) ?_;have hm:Rd V (.agg #[.int .i64 3,.int .i64 s.i.dst,.int .i64 0,.int .i64 0,.int .i64 0,.int .i64 0,.int .i32 s.i.imm.v,.slice none 0 0]) (⟨3,s.i.dst,0,0,0,0,s.i.imm,[]⟩:aU):=iH (by simp[r1]) r4 aF;refine af (by kernel_rfl) (iR cb.wle hm aF aF) ?_;rintro _ hE ⟨hle,vf,rfl,hvf⟩;have cE:=cb.ext hle;simp;refine cE.da (α:=FitD) hvf (n:=8) (z:=.agg fitZ.toArray) (by kernel_rfl) rfl rfl (by kernel_rfl) (fun _=>by simp) (fun _=>by simp) fun B2 hF WF hWF cF hatF hleF=>?_;obtain⟨ux,hux,rux⟩:=hatF.ldN rfl (N:=8) rfl;have hux:=hux WF (View.le_refl _)
 subst hz;refine aa fun z hz=>?_;refine bR WF cF.wle ?_;have ew:IntKind.i64.wrap s.i.imm.v=s.i.imm.v:=cj (by omega) (by omega);have vw1:V.le WF:=View.le_trans cb.up hWF;simp[hux,ab vw1 i4,ew];refine af (by kernel_rfl) iv ?_;rintro _ hF ⟨rfl,rfl⟩;refine⟨cF.wle,?_⟩;refine cF.bC (k:=(0,0)) Own.aw rux rfl rfl (by kernel_rfl) rfl rfl fun h9 l9 hl9 c9=>?_;subst hz;simp[c9.all (k:=(0,0)) Own.aw];refine hK _ _ (bD.of c9 (hl9▸rux) (by split<;>simp_all) fun y e=>?_);split at e<;>cases e;rfl
theorem Ao {O:Nat} {op:Int} (ct:Ct V S I s) (hV:V.le (vw h)) (hO:ag V ⟨O,0,none⟩=some (.int .i64 op)) (hop:2<=op/\op<=14) (ha:2<=s.i.args.length/\s.i.args.length<=10000) :
  aj Tryz.prog N.bo #[.pointer (some ⟨O,0,none⟩),.pointer (some ⟨I,0,none⟩)] h (fun u h'=>bD V h h' u (some ⟨s.i.args,[],[⟨op+3,s.i.dst,0,nth s.i.args 0,nth s.i.args 1,0,⟨0⟩,[]⟩],dJ⟩)):=by
 refine ah (args:=[.pointer (some ⟨O,0,none⟩),.pointer (some ⟨I,0,none⟩)]) follows F.bo E.bo (Dv (by kernel_rfl)) fun K hK=>?_;dsimp only[L.bo];have c0:=Cx.start hV;refine aa fun z hz=>?_;simp;refine c0.cU (k:=(0,0)) (n:=7) (z:=.agg fitZ.toArray) rfl (by kernel_rfl) rfl (by decide) (by simp[Value.cells,Value.oneCell']) fun R hb hleb cb=>?_;subst hz;refine aa fun z hz=>?_;have i1:=(ct.ins.part InsD.gK)
 have r1:=i1.rng;have i1:ag V ⟨I,1,none⟩=some (.int .i64 s.i.dst):=by simpa using i1.int
 have i2:=(ct.ins.part InsD.th);have r2:=i2.rng;have i2:ag V ⟨I,2,none⟩=some (.int .i64 s.i.two):=by simpa using i2.int
 have i4:=(ct.ins.part InsD.iy);have r4:=i4.ox;have i4:ag V ⟨I,4,none⟩=some (.int .i32 s.i.imm.v):=by simpa using i4.i32
 obtain⟨va,i3,hva⟩:=(ct.ins.part InsD.fm).sl;have i3:ag V ⟨I,3,none⟩=some va:=by simpa using i3
 have e1:5+op-2=op+3:=by omega
 have a0:=hva.rng (i:=0) (by omega);have a1:=hva.rng (i:=1) (by omega);have hm : ∀X,Rd X (.agg #[.int .i64 (op+3),.int .i64 s.i.dst,.int .i64 0,.int .i64 (nth s.i.args 0),.int .i64 (nth s.i.args 1),.int .i64 0,.int .i32 0,.slice none 0 0]) (⟨op+3,s.i.dst,0,nth s.i.args 0,nth s.i.args 1,0,⟨0⟩,[]⟩:aU):=fun X=>iH (by simp;omega) (by simp) aF;refine bR V cb.wle ?_;simp(disch:=omega)[hO,i1,i3,hva.idx1 rfl,hva.int (View.le_refl _),e1];refine⟨?_,?_⟩
 ·refine an (z:=.agg #[.int .i64 0,.int .i64 0,.int .i64 0,.int .i64 0,.int .i64 0,.int .i64 0,.int .i32 0,.slice none 0 0]) (places:=[(0,1),(1,1),(2,1),(3,1),(4,1),(5,1),(6,1),(7,1)]) (vs:=[(0,.int .i64 (op+3)),(1,.int .i64 s.i.dst),(3,.int .i64 (nth s.i.args 0)),(4,.int .i64 (nth s.i.args 1))]) (cs:=#[.int .i64 (op+3),.int .i64 s.i.dst,.int .i64 0,.int .i64 (nth s.i.args 0),.int .i64 (nth s.i.args 1),.int .i64 0,.int .i32 0,.slice none 0 0]) (by kernel_rfl) (by kernel_rfl) (by simp) (by rfl) ?_;refine⟨View.le_trans (View.le_refl _) cb.wle,?_⟩;refine af (by kernel_rfl) (cZ cb.wle (hva.mono (View.le_refl _)) (by omega)) ?_;rintro u1 h1 ⟨hle1,hcl1⟩;have c1:=cb.ext hle1;refine⟨View.le_trans (View.le_trans (View.le_refl _) (cb.up)) c1.wle,?_⟩;refine af (by kernel_rfl) (iR c1.wle (hm _) hcl1 aF) ?_;rintro _ hE ⟨hleE,vf,rfl,hvf⟩;have cE:=c1.ext hleE;simp;refine cE.bC (k:=(0,0)) Own.aw hvf rfl rfl (by kernel_rfl) rfl rfl fun h9 l9 hl9 c9=>?_;subst hz;simp[c9.all (k:=(0,0)) Own.aw];exact hK _ _ (bD.of c9 (hl9▸hvf) rfl fun y e=>by cases e;rfl)
 refine af (by kernel_rfl) (cZ cb.wle (hva.mono (View.le_refl _)) (by omega)) ?_;rintro u1 h1 ⟨hle1,hcl1⟩;have c1:=cb.ext hle1;refine⟨View.le_trans (View.le_trans (View.le_refl _) (cb.up)) c1.wle,?_⟩;refine an (z:=.agg #[.int .i64 0,.int .i64 0,.int .i64 0,.int .i64 0,.int .i64 0,.int .i64 0,.int .i32 0,.slice none 0 0]) (places:=[(0,1),(1,1),(2,1),(3,1),(4,1),(5,1),(6,1),(7,1)]) (vs:=[(0,.int .i64 (op+3)),(1,.int .i64 s.i.dst),(3,.int .i64 (nth s.i.args 0)),(4,.int .i64 (nth s.i.args 1))]) (cs:=#[.int .i64 (op+3),.int .i64 s.i.dst,.int .i64 0,.int .i64 (nth s.i.args 0),.int .i64 (nth s.i.args 1),.int .i64 0,.int .i32 0,.slice none 0 0]) (by kernel_rfl) (by kernel_rfl) (by simp) (by rfl) ?_;refine⟨View.le_trans (View.le_trans (View.le_refl _) (cb.up)) c1.wle,?_⟩;refine af (by kernel_rfl) (iR c1.wle (hm _) hcl1 aF) ?_;rintro _ hE ⟨hleE,vf,rfl,hvf⟩;have cE:=c1.ext hleE;simp;refine cE.bC (k:=(0,0)) Own.aw hvf rfl rfl (by kernel_rfl) rfl rfl fun h9 l9 hl9 c9=>?_;subst hz;simp[c9.all (k:=(0,0)) Own.aw];exact hK _ _ (bD.of c9 (hl9▸hvf) rfl fun y e=>by cases e;rfl)
theorem Aq (ct:Ct V S I s) (hV:V.le (vw h)) (ha:s.i.args.length<=10000) :
  aj Tryz.prog N.bs #[.pointer (some ⟨I,0,none⟩)] h (fun u h'=>bD V h h' u (some ⟨s.i.args,[],[⟨28,s.i.dst,0,0,0,0,s.i.imm,s.i.args⟩],dJ⟩)):=by
 refine ah (args:=[.pointer (some ⟨I,0,none⟩)]) follows F.bs E.bs (Dv (by kernel_rfl)) fun K hK=>?_;dsimp only[L.bs];have c0:=Cx.start hV;refine aa fun z hz=>?_;simp;refine c0.cU (k:=(0,0)) (n:=7) (z:=.agg fitZ.toArray) rfl (by kernel_rfl) rfl (by decide) (by simp[Value.cells,Value.oneCell']) fun R hb hleb cb=>?_;subst hz;refine aa fun z hz=>?_;have i1:=(ct.ins.part InsD.gK)
 have r1:=i1.rng;have i1:ag V ⟨I,1,none⟩=some (.int .i64 s.i.dst):=by simpa using i1.int
 have i2:=(ct.ins.part InsD.th);have r2:=i2.rng;have i2:ag V ⟨I,2,none⟩=some (.int .i64 s.i.two):=by simpa using i2.int
 have i4:=(ct.ins.part InsD.iy);have r4:=i4.ox;have i4:ag V ⟨I,4,none⟩=some (.int .i32 s.i.imm.v):=by simpa using i4.i32
 obtain⟨va,i3,hva⟩:=(ct.ins.part InsD.fm).sl;have i3:ag V ⟨I,3,none⟩=some va:=by simpa using i3
 have hm : ∀{X w},SlRd X w s.i.args->Rd X (.agg #[.int .i64 28,.int .i64 s.i.dst,.int .i64 0,.int .i64 0,.int .i64 0,.int .i64 0,.int .i32 s.i.imm.v,w]) (⟨28,s.i.dst,0,0,0,0,s.i.imm,s.i.args⟩:aU):=fun hw=>iH (by simp;omega) r4 hw;refine bR V cb.wle ?_;simp(disch:=omega)[i1,i3,i4];refine af (by kernel_rfl) (cZ cb.wle hva (by omega)) ?_;rintro u1 h1 ⟨hle1,hcl1⟩;have c1:=cb.ext hle1
 refine⟨View.le_trans cb.up c1.wle,?_⟩;have q1:=hcl1;obtain⟨b1,k1,rfl,-⟩:=q1;refine⟨?_,?_⟩
 ·refine an (z:=.agg #[.int .i64 0,.int .i64 0,.int .i64 0,.int .i64 0,.int .i64 0,.int .i64 0,.int .i32 0,.slice none 0 0]) (places:=[(0,1),(1,1),(2,1),(3,1),(4,1),(5,1),(6,1),(7,1)]) (vs:=[(0,.int .i64 28),(1,.int .i64 s.i.dst),(6,.int .i32 s.i.imm.v),(7,.slice b1 s.i.args.length k1)]) (cs:=#[.int .i64 28,.int .i64 s.i.dst,.int .i64 0,.int .i64 0,.int .i64 0,.int .i64 0,.int .i32 s.i.imm.v,.slice b1 s.i.args.length k1]) (by kernel_rfl) (by kernel_rfl) (by simp) (by rfl) ?_;refine⟨View.le_trans cb.up c1.wle,?_⟩;refine af (by kernel_rfl) (cZ c1.wle (hva.mono cb.up) (by omega)) ?_;rintro u2 h2 ⟨hle2,hcl2⟩;have c2:=c1.ext hle2;refine⟨View.le_trans (View.le_trans cb.up c1.up) c2.wle,?_⟩;refine af (by kernel_rfl) (iR c2.wle (hm (hcl1.mono c1.up)) hcl2 aF) ?_;rintro _ hE ⟨hleE,vf,rfl,hvf⟩;have cE:=c2.ext hleE;simp;refine cE.bC (k:=(0,0)) Own.aw hvf rfl rfl (by kernel_rfl) rfl rfl fun h9 l9 hl9 c9=>?_;subst hz;simp[c9.all (k:=(0,0)) Own.aw];exact hK _ _ (bD.of c9 (hl9▸hvf) rfl fun y e=>by cases e;rfl)
 refine af (by kernel_rfl) (cZ c1.wle (hva.mono cb.up) (by omega)) ?_;rintro u2 h2 ⟨hle2,hcl2⟩;have c2:=c1.ext hle2;refine⟨View.le_trans (View.le_trans cb.up c1.up) c2.wle,?_⟩;refine an (z:=.agg #[.int .i64 0,.int .i64 0,.int .i64 0,.int .i64 0,.int .i64 0,.int .i64 0,.int .i32 0,.slice none 0 0]) (places:=[(0,1),(1,1),(2,1),(3,1),(4,1),(5,1),(6,1),(7,1)]) (vs:=[(0,.int .i64 28),(1,.int .i64 s.i.dst),(6,.int .i32 s.i.imm.v),(7,.slice b1 s.i.args.length k1)]) (cs:=#[.int .i64 28,.int .i64 s.i.dst,.int .i64 0,.int .i64 0,.int .i64 0,.int .i64 0,.int .i32 s.i.imm.v,.slice b1 s.i.args.length k1]) (by kernel_rfl) (by kernel_rfl) (by simp) (by rfl) ?_;refine⟨View.le_trans (View.le_trans cb.up c1.up) c2.wle,?_⟩;refine af (by kernel_rfl) (iR c2.wle (hm (hcl1.mono c1.up)) hcl2 aF) ?_;rintro _ hE ⟨hleE,vf,rfl,hvf⟩;have cE:=c2.ext hleE;simp;refine cE.bC (k:=(0,0)) Own.aw hvf rfl rfl (by kernel_rfl) rfl rfl fun h9 l9 hl9 c9=>?_;subst hz;simp[c9.all (k:=(0,0)) Own.aw];exact hK _ _ (bD.of c9 (hl9▸hvf) rfl fun y e=>by cases e;rfl)
theorem Aj (ct:Ct V S I s) (hV:V.le (vw h)) (ha:2<=s.i.args.length/\s.i.args.length<=10000) :
  aj Tryz.prog N.bc #[.pointer (some ⟨I,0,none⟩)] h (fun u h'=>bD V h h' u (some ⟨s.i.args,[],[⟨29,s.i.dst,s.i.two,nth s.i.args 0,nth s.i.args 1,0,⟨0⟩,[]⟩],dJ⟩)):=by
 refine ah (args:=[.pointer (some ⟨I,0,none⟩)]) follows F.bc E.bc (Dv (by kernel_rfl)) fun K hK=>?_;dsimp only[L.bc];have c0:=Cx.start hV;refine aa fun z hz=>?_;simp;refine c0.cU (k:=(0,0)) (n:=7) (z:=.agg fitZ.toArray) rfl (by kernel_rfl) rfl (by decide) (by simp[Value.cells,Value.oneCell']) fun R hb hleb cb=>?_;subst hz;refine aa fun z hz=>?_;have i1:=(ct.ins.part InsD.gK)
 have r1:=i1.rng;have i1:ag V ⟨I,1,none⟩=some (.int .i64 s.i.dst):=by simpa using i1.int
 have i2:=(ct.ins.part InsD.th);have r2:=i2.rng;have i2:ag V ⟨I,2,none⟩=some (.int .i64 s.i.two):=by simpa using i2.int
 have i4:=(ct.ins.part InsD.iy);have r4:=i4.ox;have i4:ag V ⟨I,4,none⟩=some (.int .i32 s.i.imm.v):=by simpa using i4.i32
 obtain⟨va,i3,hva⟩:=(ct.ins.part InsD.fm).sl;have i3:ag V ⟨I,3,none⟩=some va:=by simpa using i3
 have a0:=hva.rng (i:=0) (by omega);have a1:=hva.rng (i:=1) (by omega);have hm : ∀X,Rd X (.agg #[.int .i64 29,.int .i64 s.i.dst,.int .i64 s.i.two,.int .i64 (nth s.i.args 0),.int .i64 (nth s.i.args 1),.int .i64 0,.int .i32 0,.slice none 0 0]) (⟨29,s.i.dst,s.i.two,nth s.i.args 0,nth s.i.args 1,0,⟨0⟩,[]⟩:aU):=fun X=>iH (by simp;omega) (by simp) aF;refine bR V cb.wle ?_;simp(disch:=omega)[i1,i2,i3,hva.idx1 rfl,hva.int (View.le_refl _)];refine⟨?_,?_⟩
 ·refine an (z:=.agg #[.int .i64 0,.int .i64 0,.int .i64 0,.int .i64 0,.int .i64 0,.int .i64 0,.int .i32 0,.slice none 0 0]) (places:=[(0,1),(1,1),(2,1),(3,1),(4,1),(5,1),(6,1),(7,1)]) (vs:=[(0,.int .i64 29),(1,.int .i64 s.i.dst),(2,.int .i64 s.i.two),(3,.int .i64 (nth s.i.args 0)),(4,.int .i64 (nth s.i.args 1))]) (cs:=#[.int .i64 29,.int .i64 s.i.dst,.int .i64 s.i.two,.int .i64 (nth s.i.args 0),.int .i64 (nth s.i.args 1),.int .i64 0,.int .i32 0,.slice none 0 0]) (by kernel_rfl) (by kernel_rfl) (by simp) (by rfl) ?_;refine⟨View.le_trans (View.le_refl _) cb.wle,?_⟩;refine af (by kernel_rfl) (cZ cb.wle (hva.mono (View.le_refl _)) (by omega)) ?_;rintro u1 h1 ⟨hle1,hcl1⟩;have c1:=cb.ext hle1;refine⟨View.le_trans (View.le_trans (View.le_refl _) (cb.up)) c1.wle,?_⟩;refine af (by kernel_rfl) (iR c1.wle (hm _) hcl1 aF) ?_;rintro _ hE ⟨hleE,vf,rfl,hvf⟩;have cE:=c1.ext hleE;simp;refine cE.bC (k:=(0,0)) Own.aw hvf rfl rfl (by kernel_rfl) rfl rfl fun h9 l9 hl9 c9=>?_;subst hz;simp[c9.all (k:=(0,0)) Own.aw];exact hK _ _ (bD.of c9 (hl9▸hvf) rfl fun y e=>by cases e;rfl)
 refine af (by kernel_rfl) (cZ cb.wle (hva.mono (View.le_refl _)) (by omega)) ?_;rintro u1 h1 ⟨hle1,hcl1⟩;have c1:=cb.ext hle1;refine⟨View.le_trans (View.le_trans (View.le_refl _) (cb.up)) c1.wle,?_⟩;refine an (z:=.agg #[.int .i64 0,.int .i64 0,.int .i64 0,.int .i64 0,.int .i64 0,.int .i64 0,.int .i32 0,.slice none 0 0]) (places:=[(0,1),(1,1),(2,1),(3,1),(4,1),(5,1),(6,1),(7,1)]) (vs:=[(0,.int .i64 29),(1,.int .i64 s.i.dst),(2,.int .i64 s.i.two),(3,.int .i64 (nth s.i.args 0)),(4,.int .i64 (nth s.i.args 1))]) (cs:=#[.int .i64 29,.int .i64 s.i.dst,.int .i64 s.i.two,.int .i64 (nth s.i.args 0),.int .i64 (nth s.i.args 1),.int .i64 0,.int .i32 0,.slice none 0 0]) (by kernel_rfl) (by kernel_rfl) (by simp) (by rfl) ?_;refine⟨View.le_trans (View.le_trans (View.le_refl _) (cb.up)) c1.wle,?_⟩;refine af (by kernel_rfl) (iR c1.wle (hm _) hcl1 aF) ?_;rintro _ hE ⟨hleE,vf,rfl,hvf⟩;have cE:=c1.ext hleE;simp;refine cE.bC (k:=(0,0)) Own.aw hvf rfl rfl (by kernel_rfl) rfl rfl fun h9 l9 hl9 c9=>?_;subst hz;simp[c9.all (k:=(0,0)) Own.aw];exact hK _ _ (bD.of c9 (hl9▸hvf) rfl fun y e=>by cases e;rfl)
end
end Go.Proofs.YtnfiilgdjpdlkaaGreatDoor
namespace Go.Proofs.YtnfiilgdjpdlkaaGreatDoor
open Go Go.Lft
theorem Ar(n:Int):-2147483648<=(w32 n).v/\(w32 n).v<=2147483647:=by unfold w32 IntKind.wrap;simp[IntKind.signed,IntKind.bits];omega
section
variable {W V:View} {S I R:Nat} {s:bf} {h:Heap}
theorem uG{f:ae}{v lo hi:Int}(hr : ∀i∈dr f,-2147483648<=i.imm.v/\i.imm.v<=2147483647):-2147483648<=(fe f v lo hi).1/\(fe f v lo hi).1<=2147483647:=by
 unfold fe aD;cases hm:jJ f v with
 | none=>exact⟨(by decide:(-2147483648:Int)<=0),(by decide:(0:Int)<=2147483647)⟩
 | some i=>exact hr i (E2 hm)
set_option maxHeartbeats 4000000 in
/-- addi to sari. -/
theorem yW{L1 M1 O1 G1:Nat}{lo hi m sign:Int}(ct:Ct V S I s)(hV:V.le (vw h))(hok:jW s)(ha:2<=s.i.args.length)(hl:ag V ⟨L1,0,none⟩=some (.int .i64 lo))(hh:ag V ⟨M1,0,none⟩=some (.int .i64 hi))(hm:ag V ⟨O1,0,none⟩=some (.int .i64 m))(hg:ag V ⟨G1,0,none⟩=some (.int .i64 sign))(hs:sign=1\/sign=-1)(hm0:0<=m/\m<=100):
    aj Tryz.prog N.aN #[.pointer (some ⟨S,0,none⟩),.pointer (some ⟨I,0,none⟩),.pointer (some ⟨L1,0,none⟩),.pointer (some ⟨M1,0,none⟩),.pointer (some ⟨O1,0,none⟩),.pointer (some ⟨G1,0,none⟩)] h
      (fun u h'=>bD V h h' u (immS s.f s.i m lo hi sign)):=by
  refine ah (args:=[.pointer (some ⟨S,0,none⟩),.pointer (some ⟨I,0,none⟩),.pointer (some ⟨L1,0,none⟩),.pointer (some ⟨M1,0,none⟩),.pointer (some ⟨O1,0,none⟩),.pointer (some ⟨G1,0,none⟩)]) follows F.aN E.aN (Dv (by kernel_rfl)) fun K hK=>?_
  dsimp only[L.aN]
  have c0:=Cx.start hV
  refine aa fun z hz=>?_
  simp
  refine c0.cU (k:=(0,0)) (n:=7) (z:=.agg fitZ.toArray) rfl (by kernel_rfl) rfl (by decide) (by simp[Value.cells,Value.oneCell']) fun R hb hleb cb=>?_
  subst hz
  have i1:=(ct.ins.part InsD.gK)
  have r1:=i1.rng
  have i1:ag V ⟨I,1,none⟩=some (.int .i64 s.i.dst):=by simpa using i1.int
  obtain⟨va,i3,hva⟩:=(ct.ins.part InsD.fm).sl
  have i3:ag V ⟨I,3,none⟩=some va:=by simpa using i3
  have a0:=hva.rng (i:=0) (by omega)
  have a1:=hva.rng (i:=1) (by omega)
  obtain⟨us,hus,rus⟩:=ct.site.ldN rfl (N:=13) rfl
  have hus:=hus V (View.le_refl _)
  have most:=hok.one.most
  refine aa fun z hz=>?_
  refine bR V cb.wle ?_
  simp(disch:=omega)[hus,i3,hva.idx1 rfl,hva.int (View.le_refl _),hl,hh]
  refine af (by kernel_rfl) (r9 cb.wle rus hok.sm a1) ?_
  rintro _ hc ⟨hle,rfl⟩
  have cc:Cx V h V hc _:=⟨cb.own.ext' hle,cb.old,View.le_trans cb.le0 hle,cb.new⟩
  simp
  have rk:-2147483648<=(fe s.f (nth s.i.args 1) lo hi).1/\(fe s.f (nth s.i.args 1) lo hi).1<=2147483647:=uG hok.rng
  generalize hk:(fe s.f (nth s.i.args 1) lo hi).1=k at *
  generalize hb2:(fe s.f (nth s.i.args 1) lo hi).2=ok at *
  subst hz
  refine aa fun z hz=>?_
  refine bR V cc.wle ?_
  have e1:IntKind.i64.wrap (sign*k)=sign*k:=by rcases hs with rfl | rfl<;>exact cj (by omega) (by omega)
  have hmm : ∀X,Rd X (.agg #[.int .i64 m,.int .i64 s.i.dst,.int .i64 0,.int .i64 (nth s.i.args 0),.int .i64 0,.int .i64 0,.int .i32 (IntKind.i32.wrap (sign*k)),.slice none 0 0]) (⟨m,s.i.dst,0,nth s.i.args 0,0,0,w32 (sign*k),[]⟩:aU):=fun X=>iH (imm:=w32 (sign*k)) (by simp;omega) (Ar _) aF
  have fin : ∀(W:View) (hx:Heap) (o:Own) (l9:List Value),Cx V h W hx o->Rd W (.agg l9.toArray) (⟨[nth s.i.args 0],[nth s.i.args 1],[⟨m,s.i.dst,0,nth s.i.args 0,0,0,w32 (sign*k),[]⟩],dJ⟩:FitD)->K (.tuple #[.agg l9.toArray,.bool ok]) hx:=fun W hx o l9 c hr=>
    hK _ _ (bD.of c hr (by unfold immS;rw[hb2];split<;>simp_all) fun y e=>by
      unfold immS at e
      rw[hb2,hk]at e
      split at e<;>cases e
      rfl)
  have c:=cc
  have q0:=hva.idx1 (k:=.i64) (i:=0) rfl (by decide) (by omega)
  have q1:=hva.idx1 (k:=.i64) (i:=1) rfl (by decide) (by omega)
  have d0:=hva.int (View.le_refl V) (i:=0) (by omega)
  have d1:=hva.int (View.le_refl V) (i:=1) (by omega)
  repeat' (first
    | refine jY ?_ ?_
    | (refine dL fun y hy=>?_
       simp[hm,hg,i1,i3,q0,q1,d0,d1,e1]
       first
       | refine an (z:=.agg #[.int .i64 0,.int .i64 0,.int .i64 0,.int .i64 0,.int .i64 0,.int .i64 0,.int .i32 0,.slice none 0 0]) (places:=[(0,1),(1,1),(2,1),(3,1),(4,1),(5,1),(6,1),(7,1)]) (vs:=[(0,.int .i64 m),(1,.int .i64 s.i.dst),(3,.int .i64 (nth s.i.args 0)),(6,.int .i32 (IntKind.i32.wrap (sign*k)))]) (cs:=#[.int .i64 m,.int .i64 s.i.dst,.int .i64 0,.int .i64 (nth s.i.args 0),.int .i64 0,.int .i64 0,.int .i32 (IntKind.i32.wrap (sign*k)),.slice none 0 0]) (by kernel_rfl) (by kernel_rfl) (by simp) (by rfl) ?_
       | (refine c.jh (α:=Int) (n:=1) (vs:=[.int .i64 (nth s.i.args 0)]) (ds:=[nth s.i.args 0]) El.ck ?_ ⟨bh.2 ⟨rfl,a0⟩,trivial⟩ rfl (by decide) (by decide) fun uA h W hW c huA hle=>?_
          · simp;done)
       | (refine c.jh (α:=Int) (n:=1) (vs:=[.int .i64 (nth s.i.args 1)]) (ds:=[nth s.i.args 1]) El.ck ?_ ⟨bh.2 ⟨rfl,a1⟩,trivial⟩ rfl (by decide) (by decide) fun uB h W hW c huB hle=>?_
          · simp;done)
       | refine c.cU (k:=(0,1)) (n:=7) (z:=.agg fitZ.toArray) (by rfl) (by kernel_rfl) rfl (by decide) (by simp[Value.cells,Value.oneCell']) fun R2 h hle c=>?_
       | (refine af (by kernel_rfl) (iR c.wle (hmm _) (huA.mono (by repeat (first | exact View.le_refl _ | assumption | refine View.le_trans ?_ (by assumption)))) (huB.mono (by repeat (first | exact View.le_refl _ | assumption | refine View.le_trans ?_ (by assumption))))) ?_
          rintro _ h ⟨hle,vf,rfl,hvf⟩
          have hW:=c.up (h':=h)
          have c:=c.ext hle)
       | refine c.bC (k:=(0,1)) (n:=7) (l:=fitZ) (by rfl) (hvf.mono (by repeat (first | exact View.le_refl _ | assumption | refine View.le_trans ?_ (by assumption)))) rfl rfl (by kernel_rfl) rfl rfl fun h l9 hl9 c=>?_
       try refine⟨View.le_trans (by repeat (first | exact View.le_refl _ | assumption | refine View.le_trans ?_ (by assumption))) c.wle,?_⟩
       subst hy))
  all_goals
    simp
    rw[hz]
    subst hl9
    have hall:=c.all (k:=(0,1)) (n:=7) (l:=l9) (B:=R2) (e:=T.bH) (by rfl)
    simp at hall
    simp[hall]
    refine c.bC (k:=(0,0)) (n:=7) (l:=fitZ) (by rfl) (hvf.mono (by repeat (first | exact View.le_refl _ | assumption | refine View.le_trans ?_ (by assumption)))) rfl rfl (by kernel_rfl) rfl rfl fun h9 l9' hl9' c9=>?_
    have hall:=c9.all (k:=(0,0)) (n:=7) (l:=l9') (B:=R) (e:=T.bH) (by rfl)
    simp at hall
    simp[hall]
    exact fin _ _ _ _ c9 (hl9'▸hvf.mono (by repeat (first | exact View.le_refl _ | assumption | refine View.le_trans ?_ (by assumption))))
end
end Go.Proofs.YtnfiilgdjpdlkaaGreatDoor
namespace Go.Lft
open Go
variable {po:OP}
theorem xX {P:Program} {ty:TypeId} {us:List (Nat × Value)} {h:Heap} {K:Value->Heap->Prop} {f:FuncId} {x:Operand} {v:Value} (hx:asg us x=v) (hk:K (.func (.func f) #[v] #[]) h):step P (.makeFunc (.func f) #[x] #[]) ty us h K:=by refine cf (bE fun w hw=>⟨_,w,?_,Same.refl _,by rw[hw];exact hk⟩);simp only[aL,execOp];simp[Instr.makeFunc,hx]
theorem xO {P:Program} {ty:TypeId} {us:List (Nat × Value)} {h:Heap} {K:Value->Heap->Prop} {f:FuncId} {t:Nat} {ops:List Operand} {T:Array TypeId} {first caps:Array Value} (hf:asg us (.tmp t) = .func (.func f) first caps) {R:Value->Heap->Prop} (hfn:isFn P f=true)
  (hc:aj P f (first.toList++ops.map (asg us)++caps.toList).toArray h R) (hk : ∀v h',R v h'->K v h'):step P (.call ⟨.value (.tmp t),ops.toArray,T⟩) ty us h K:=by
 refine cf (lD (R:=R) (f:=f) (args:=(first.toList++ops.map (asg us)++caps.toList).toArray) (fun w _=>?_) hc hk);unfold isFn at hfn;cases hfn':P.funcs[f]? with
 | none=>simp[hfn']at hfn
 | some fn=>simp only[hfn',DC,bne_iff_ne,ne_eq]at hfn;obtain⟨h1,h2⟩:=hfn;simp[aL,execOp,resolve,Deferred.ofValue,hf,invoke,callFunc,program,Sem.run,hfn',h1,Option.isNone];cases hb:fn.body<;>simp[hb]at h2 ⊢
end Go.Lft
namespace Go.Proofs.YtnfiilgdjpdlkaaGreatDoor
open Go Go.Lft
section
variable {W V:View} {S I R:Nat} {s:bf} {h:Heap}
theorem jf {f:ae} {v op:Int} (hb:(aD f v op).2=true):(aD f v op).1∈dr f/\(aD f v op).1.op=op/\dC f v=true/\(aD f v op).1.dst=v/\(aD f v op).1.op≠16:=by
 unfold aD at *;cases hm:jJ f v with
 | none=>rw[hm]at hb;cases hb
 | some i=>rw[hm]at hb;have hb:(decide (i.op=op)&&dC f v)=true:=hb;simp at hb;have hp:=List.find?_some hm;simp[fb]at hp;exact⟨E2 hm,hb.1,hb.2,hp.2,hp.1⟩
set_option maxHeartbeats 4000000 in
/-- madd. -/
theorem An {Z:Nat} (ct:Ct V S I s) (hV:V.le (vw h)) (hok:jW s) (ha:2<=s.i.args.length) (hz0:ag V ⟨Z,0,none⟩=some (.func (.func N.ay) #[] #[])) :
    aj Tryz.prog N.bg #[.pointer (some ⟨S,0,none⟩),.pointer (some ⟨I,0,none⟩),.pointer (some ⟨Z,0,none⟩)] h
      (fun u h'=>bD V h h' u (doS s.f s.i s.temp 22)):=by
  refine ah (args:=[.pointer (some ⟨S,0,none⟩),.pointer (some ⟨I,0,none⟩),.pointer (some ⟨Z,0,none⟩)]) follows F.bg E.bg (Dv (by kernel_rfl)) fun K hK=>?_
  dsimp only[L.bg]
  have c0:=Cx.start hV
  refine aa fun z hz=>?_
  simp
  refine c0.cU (k:=(0,0)) (n:=7) (z:=.agg fitZ.toArray) rfl (by kernel_rfl) rfl (by decide) (by simp[Value.cells,Value.oneCell']) fun R hb hleb cb=>?_
  subst hz
  have i1:=(ct.ins.part InsD.gK)
  have r1:=i1.rng
  have i1:ag V ⟨I,1,none⟩=some (.int .i64 s.i.dst):=by simpa using i1.int
  obtain⟨va,i3,hva⟩:=(ct.ins.part InsD.fm).sl
  have i3:ag V ⟨I,3,none⟩=some va:=by simpa using i3
  have a0:=hva.rng (i:=0) (by omega)
  have a1:=hva.rng (i:=1) (by omega)
  obtain⟨us,hus,rus⟩:=ct.site.ldN rfl (N:=13) rfl
  have q0:=hva.idx1 (k:=.i64) (i:=0) rfl (by decide) (by omega)
  have q1:=hva.idx1 (k:=.i64) (i:=1) rfl (by decide) (by omega)
  refine aa fun z hz=>?_
  simp[hus _ cb.wle]
  refine xX rfl ?_
  subst hz
  refine aa fun z hz=>?_
  simp[ab cb.wle i3,q0,hva.int cb.wle (i:=0) (by omega)]
  refine xO (ops:=[.tmp 15,.const (.int .i64 4)]) rfl (by kernel_rfl) (mg (x:=nth s.i.args 0) (op:=4) cb.wle rus hok.sm a0) ?_
  rintro _ hc ⟨hle,vm,rfl,hvm⟩
  have cc:=cb.ext hle
  have hWc:=cb.up (h':=hc)
  have hdo:doS s.f s.i s.temp 22=if(aD s.f (nth s.i.args 0) 4).2 then
      some ⟨[nth (aD s.f (nth s.i.args 0) 4).1.args 0,nth (aD s.f (nth s.i.args 0) 4).1.args 1,nth s.i.args 1],[nth s.i.args 0],[⟨23,s.i.dst,0,nth (aD s.f (nth s.i.args 0) 4).1.args 0,nth (aD s.f (nth s.i.args 0) 4).1.args 1,nth s.i.args 1,⟨0⟩,[]⟩],dJ⟩
    else none:=rfl
  have hfm:=jf (f:=s.f) (v:=nth s.i.args 0) (op:=4)
  generalize (aD s.f (nth s.i.args 0) 4).1=m at *
  generalize (aD s.f (nth s.i.args 0) 4).2=b at *
  simp
  refine cc.da (α:=InsD) hvm (n:=5) (z:=.agg #[.int .i64 0,.int .i64 0,.int .i64 0,.slice none 0 0,.int .i32 0]) (by kernel_rfl) rfl rfl (by kernel_rfl) (fun _=>by simp) (fun _=>by simp) fun B2 hd Wd hWd cd hat2 hle2=>?_
  subst hz
  have vw1:V.le Wd:=View.le_trans hWc hWd
  refine aa fun z hz=>?_
  cases b with
  | false=>
    simp[ab (View.le_trans vw1 cd.wle) hz0]
    refine bL (ops:=[]) rfl (by kernel_rfl) (wH cd.wle) ?_
    rintro _ he ⟨hle3,vf,x,rfl,hvf,-⟩
    have ce:=cd.ext hle3
    simp
    refine ce.bC (k:=(0,0)) (n:=7) (l:=fitZ) (by rfl) hvf rfl rfl (by kernel_rfl) rfl rfl fun h9 l9 hl9 c9=>?_
    simp[c9.all (k:=(0,0)) Own.aw]
    exact hK _ _ (bD.of c9 (hl9▸hvf) (by rw[hdo];rfl) fun y e=>by rw[hdo]at e;cases e)
  | true=>
    obtain⟨m1,m2,-⟩:=hfm rfl
    have hma:=(hok.all _ m1).two (by omega)
    have r2:=hok.all _ m1
    obtain⟨vb,j3,hvb⟩:=(hat2.part InsD.fm).sl
    have j3:ag Wd ⟨B2,3,none⟩=some vb:=by simpa using j3
    have b0:=hvb.rng (i:=0) (by omega)
    have b1:=hvb.rng (i:=1) (by omega)
    simp
    subst hz
    refine aa fun z hz=>?_
    refine bR Wd cd.wle ?_
    have hmm : ∀X,Rd X (.agg #[.int .i64 23,.int .i64 s.i.dst,.int .i64 0,.int .i64 (nth m.args 0),.int .i64 (nth m.args 1),.int .i64 (nth s.i.args 1),.int .i32 0,.slice none 0 0]) (⟨23,s.i.dst,0,nth m.args 0,nth m.args 1,nth s.i.args 1,⟨0⟩,[]⟩:aU):=fun X=>iH (imm:=⟨0⟩) (by simp;omega) (by simp) aF
    have fin : ∀(W:View) (hx:Heap) (o:Own) (l9:List Value),Cx V h W hx o->Rd W (.agg l9.toArray) (⟨[nth m.args 0,nth m.args 1,nth s.i.args 1],[nth s.i.args 0],[⟨23,s.i.dst,0,nth m.args 0,nth m.args 1,nth s.i.args 1,⟨0⟩,[]⟩],dJ⟩:FitD)->K (.tuple #[.agg l9.toArray,.bool true]) hx:=fun W hx o l9 c hr=>
      hK _ _ (bD.of c hr (by rw[hdo];rfl) fun y e=>by rw[hdo]at e;cases e;rfl)
    have c:=cd
    have i1:=ab vw1 i1
    have i3:=ab vw1 i3
    have q2:=hvb.idx1 (k:=.i64) (i:=0) rfl (by decide) (by omega)
    have q3:=hvb.idx1 (k:=.i64) (i:=1) rfl (by decide) (by omega)
    have d0:=hva.int vw1 (i:=0) (by omega)
    have d1:=hva.int vw1 (i:=1) (by omega)
    have d2:=hvb.int (View.le_refl Wd) (i:=0) (by omega)
    have d3:=hvb.int (View.le_refl Wd) (i:=1) (by omega)
    repeat' (first
      | refine jY ?_ ?_
      | (refine dL fun y hy=>?_
         simp[i1,i3,j3,q0,q1,q2,q3,d0,d1,d2,d3]
         first
         | refine an (z:=.agg #[.int .i64 0,.int .i64 0,.int .i64 0,.int .i64 0,.int .i64 0,.int .i64 0,.int .i32 0,.slice none 0 0]) (places:=[(0,1),(1,1),(2,1),(3,1),(4,1),(5,1),(6,1),(7,1)]) (vs:=[(0,.int .i64 23),(1,.int .i64 s.i.dst),(3,.int .i64 (nth m.args 0)),(4,.int .i64 (nth m.args 1)),(5,.int .i64 (nth s.i.args 1))]) (cs:=#[.int .i64 23,.int .i64 s.i.dst,.int .i64 0,.int .i64 (nth m.args 0),.int .i64 (nth m.args 1),.int .i64 (nth s.i.args 1),.int .i32 0,.slice none 0 0]) (by kernel_rfl) (by kernel_rfl) (by simp) (by rfl) ?_
         | (refine c.jh (α:=Int) (n:=3) (vs:=[.int .i64 (nth m.args 0),.int .i64 (nth m.args 1),.int .i64 (nth s.i.args 1)]) (ds:=[nth m.args 0,nth m.args 1,nth s.i.args 1]) El.ck ?_ ⟨bh.2 ⟨rfl,b0⟩,bh.2 ⟨rfl,b1⟩,bh.2 ⟨rfl,a1⟩,trivial⟩ rfl (by decide) (by decide) fun uA h W hW c huA hle=>?_
            · simp;done)
         | (refine c.jh (α:=Int) (n:=1) (vs:=[.int .i64 (nth s.i.args 0)]) (ds:=[nth s.i.args 0]) El.ck ?_ ⟨bh.2 ⟨rfl,a0⟩,trivial⟩ rfl (by decide) (by decide) fun uB h W hW c huB hle=>?_
            · simp;done)
         | (refine af (by kernel_rfl) (iR c.wle (hmm _) (huA.mono (by repeat (first | exact View.le_refl _ | assumption | refine View.le_trans ?_ (by assumption)))) (huB.mono (by repeat (first | exact View.le_refl _ | assumption | refine View.le_trans ?_ (by assumption))))) ?_
            rintro _ h ⟨hle,vf,rfl,hvf⟩
            have hW:=c.up (h':=h)
            have c:=c.ext hle)
         | refine c.bC (k:=(0,0)) (n:=7) (l:=fitZ) (by rfl) (hvf.mono (by repeat (first | exact View.le_refl _ | assumption | refine View.le_trans ?_ (by assumption)))) rfl rfl (by kernel_rfl) rfl rfl fun h l9 hl9 c=>?_
         try refine⟨View.le_trans (by repeat (first | exact View.le_refl _ | assumption | refine View.le_trans ?_ (by assumption))) c.wle,?_⟩
         subst hy))
    all_goals
      simp
      rw[hz]
      have hall:=c.all (k:=(0,0)) (n:=7) (l:=l9) (B:=R) (e:=T.bH) (by rfl)
      simp at hall
      simp[hall]
      exact fin _ _ _ _ c (hl9▸hvf.mono (by repeat (first | exact View.le_refl _ | assumption | refine View.le_trans ?_ (by assumption))))
end
end Go.Proofs.YtnfiilgdjpdlkaaGreatDoor
