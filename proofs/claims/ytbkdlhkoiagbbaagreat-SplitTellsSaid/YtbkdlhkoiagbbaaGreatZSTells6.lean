/- A part of the proof: Ta, Tb, Tc, Td, Th, Tk, Tm, Tn, Ef, Eg, Ei, Eh, Es, Kd, Ej, Ek, Ya, Yb, El, Et. -/
import Derived.Test.YtbkdlhkoiagbbaaGreatZSTells5
set_option linter.unusedSimpArgs false
set_option linter.unusedVariables false
namespace Go.Proofs.YtbkdlhkoiagbbaaGreat
open Go Go.Lft
theorem iJ{l:List BlkD}:(ofG l).length=l.length:=by simp[ofG]
theorem et{l:List BlkD}{a b:Int}:eH (ofG l) a b=true↔(0<=a/\a<l.length/\0<=b/\b<l.length)/\b∈(nth l a.toNat).term.to:=by
 rw[fl,iJ];constructor
 ·rintro⟨h,hm⟩;rw[ofG,eQ (by omega),sO]at hm;exact⟨h,hm.1⟩
 rintro⟨h,hm⟩;refine⟨h,?_⟩;rw[ofG,eQ (by omega),sO];exact⟨hm,h.2.2.1,h.2.2.2⟩
structure Rb (f:an) (wo:Int) (s:RSt):Prop where
 ok:ROk f.blocks.length s
 seen : ∀b:Nat,b<f.blocks.length->(nth s.1 b=true↔(b:Int)∈s.2)
 sound : ∀x∈s.2,Re (ofG f.blocks) wo x.toNat
variable{wo:Int}
theorem Kt{f:an}{a:Int}{k:Nat}{s:RSt}(h:Rb f wo s)(h0:0<=a)(h1:a<f.blocks.length)(ha:Re (ofG f.blocks) wo a.toNat)(hk:k<(nth f.blocks a.toNat).term.to.length):
  Rb f wo (jW wo (nth f.blocks a.toNat).term.to k s)/\s.2 <+: (jW wo (nth f.blocks a.toNat).term.to k s).2/\
   (0<=nth (nth f.blocks a.toNat).term.to k->nth (nth f.blocks a.toNat).term.to k<f.blocks.length->nth (nth f.blocks a.toNat).term.to k≠wo->nth (nth f.blocks a.toNat).term.to k∈(jW wo (nth f.blocks a.toNat).term.to k s).2):=by
 have hok:=AE (wo:=wo) (to:=(nth f.blocks a.toNat).term.to) (k:=k) h.ok;have hm:=bc hk;unfold jW at hok ⊢;generalize hto:(nth f.blocks a.toNat).term.to=to at hm hok ⊢;split
 ·rename_i hc;rw[if_pos hc]at hok;obtain⟨⟨c1,c2⟩,c3,c4⟩:=hc;rw[h.ok.len]at c2;have hb:((nth to k).toNat:Int)=nth to k:=LX c1;refine⟨⟨hok,fun b hb=>?_,fun x hx=>?_⟩,List.prefix_append _ _,fun _ _ _=>M5 _ (LM.2 rfl)⟩
  ·rw[LP,LM];by_cases he:b=(nth to k).toNat
   ·subst he;rw[aF (by rw[h.ok.len];omega),if_pos rfl];exact⟨fun _=>.inr (LX c1),fun _=>rfl⟩
   rw[aF (by rw[h.ok.len];exact hb),if_neg (fun e=>he e.symm),h.seen b hb];exact⟨.inl,fun e=>e.resolve_right (by omega)⟩
  rcases LP.1 hx with hx | hx
  ·exact h.sound x hx
  rw[LM.1 hx];refine .step ha ?_ (by rw[hb];exact c4);rw[et,hb];exact⟨⟨by omega,by omega,c1,c2⟩,by rw[LY,hto];exact hm⟩
 rename_i hc;rw[if_neg hc]at hok;refine⟨h,List.prefix_refl _,fun c1 c2 c4=>?_⟩;have hb:((nth to k).toNat:Int)=nth to k:=LX c1;rw[<-hb,<-h.seen _ (by omega)];cases e:nth s.1 (nth to k).toNat with
 | true=>rfl
 | false=>exact absurd ⟨⟨c1,by rw[h.ok.len];exact c2⟩,e,c4⟩ hc
theorem GM {f:an} {wo a:Int} {s:RSt} (h:Rb f wo s) (h0:0<=a) (h1:a<f.blocks.length) (ha:Re (ofG f.blocks) wo a.toNat) : ∀m,m<=(nth f.blocks a.toNat).term.to.length->
  Rb f wo (up (jW wo (nth f.blocks a.toNat).term.to) m s)/\s.2 <+: (up (jW wo (nth f.blocks a.toNat).term.to) m s).2/\
   ∀k,k<m->0<=nth (nth f.blocks a.toNat).term.to k->nth (nth f.blocks a.toNat).term.to k<f.blocks.length->nth (nth f.blocks a.toNat).term.to k≠wo->nth (nth f.blocks a.toNat).term.to k∈(up (jW wo (nth f.blocks a.toNat).term.to) m s).2
 | 0,_=>⟨h,List.prefix_refl _,fun k hk=>by omega⟩
 | m+1,hm=>by
  obtain⟨i1,i2,i3⟩:=GM h h0 h1 ha m (by omega);obtain⟨j1,j2,j3⟩:=Kt (k:=m) i1 h0 h1 ha (by omega);rw[up];refine⟨j1,i2.trans j2,fun k hk c1 c2 c3=>?_⟩;rcases LI k m with hlt | hge
  ·exact j2.subset (i3 k hlt c1 c2 c3)
  have:k=m:=by omega
  subst this;exact j3 c1 c2 c3
structure Rc (f:an) (wo:Int) (i:Nat) (s:RSt):Prop where
 b:Rb f wo s
 root:wo≠0->0<f.blocks.length->(0:Int)∈s.2
 done : ∀j,j<i->j<s.2.length->∀b:Nat,eH (ofG f.blocks) (nth s.2 j) b=true->(b:Int)≠wo->(b:Int)∈s.2
variable{α:Type}
theorem Dd[Inhabited α]{a b:List α}(h:a <+: b){i:Nat}(hi:i<a.length):nth b i=nth a i:=by obtain⟨t,rfl⟩:=h;rw[ak (by simp;omega),ak hi,Nv hi]
theorem Iu{f:an}{i:Nat}{s:RSt}(h:Rc f wo i s)(hi:i<s.2.length):Rc f wo (i+1) (uG f wo i s)/\s.2 <+: (uG f wo i s).2:=by
 have hm:=bc hi;obtain⟨h0,h1⟩:=h.b.ok.rng _ hm;have hre:=h.b.sound _ hm;obtain⟨i1,i2,i3⟩:=GM h.b h0 h1 hre _ (LG _);have he:uG f wo i s=up (jW wo (nth f.blocks (nth s.2 i).toNat).term.to) (nth f.blocks (nth s.2 i).toNat).term.to.length s:=rfl;rw[<-he]at i1 i2 i3;refine⟨⟨i1,fun a b=>i2.subset (h.root a b),fun j hj hjl b hb hne=>?_⟩,i2⟩;rcases LI j i with hlt | hge
 ·rw[Dd i2 (by omega)]at hb;exact i2.subset (h.done j hlt (by omega) b hb hne)
 have:j=i:=by omega
 subst this;rw[Dd i2 hi,et]at hb;obtain⟨⟨_,_,q1,q2⟩,hmem⟩:=hb;obtain⟨k,hk,e⟩:=LQ hmem;rw[<-ak hk]at e;rw[<-e];exact i3 k hk (by omega) (by omega) (by rw[e];exact hne)
theorem E4 {f:an} {wo:Int} : ∀{m i:Nat} {s:RSt},Rc f wo i s->f.blocks.length<i+m->∃k,Rc f wo k (rchS f wo m i s)/\(rchS f wo m i s).2.length<=k
 | 0,i,s,h,hm=>⟨i,h,by have:=h.b.ok.cnt;rw[rchS];omega⟩
 | m+1,i,s,h,hm=>by
  rw[rchS];split
  ·rename_i hi;exact E4 (Iu h hi).1 (by omega)
  rename_i hi;exact⟨i,h,by omega⟩
theorem Ik{f:an}:Rc f wo 0 (rch0 f wo):=by
 have hok:=yt (f:=f) (wo:=wo);unfold rch0 at hok ⊢;split
 ·rename_i hc;rw[if_pos hc]at hok;refine⟨⟨hok,fun b hb=>?_,fun x hx=>?_⟩,fun _ _=>LM.2 rfl,fun j hj=>by omega⟩
  ·rw[aF (by simpa using hb),LM];split
   ·rename_i e;subst e;simp
   rename_i e;rw[ak (by simpa using hb)];simp;omega
  rw[LM.1 hx];exact .root (by rw[iJ];exact hc.2) hc.1
 rename_i hc;rw[if_neg hc]at hok;refine⟨⟨hok,fun b hb=>?_,fun x hx=>by cases hx⟩,fun a b=>absurd ⟨a,b⟩ hc,fun j hj=>by omega⟩;rw[ak (by simpa using hb)];simp
variable{b:Nat}
theorem jg{f:an}(hb:b<f.blocks.length):nth (dw f wo) b=true↔Re (ofG f.blocks) wo b:=by
 obtain⟨k,h,hk⟩:=E4 (Ik (f:=f) (wo:=wo)) (m:=f.blocks.length+1) (by omega);unfold dw;generalize rchS f wo (f.blocks.length+1) 0 (rch0 f wo)=s at h hk;rw[h.b.seen b hb];constructor
 ·exact fun hm=>by simpa using h.b.sound _ hm
 intro hr;induction hr with
 | root h1 h2=>exact h.root h2 (by rw[<-iJ];exact h1)
 | @step a b ha he hne ih=>have hm:=ih (by have:=(et.1 he).1;omega);obtain⟨j,hj,e⟩:=LQ hm;rw[<-ak hj]at e;exact h.done j (by omega) hj b (by rw[e];exact he) hne
theorem jA{σ ε:Type}{f:σ->α->Except ε σ}{a b:List α}{s:σ}:(a++b).foldlM f s=(match a.foldlM f s with | .ok s'=>b.foldlM f s' | .error e=>.error e):=by rw[OL];cases a.foldlM f s<;>rfl
theorem qh{σ ε:Type}{f:σ->α->Except ε σ}{a:α}{s:σ}:[a].foldlM f s=f s a:=by rw[Nn];cases f s a<;>rfl
theorem mM {σ α ε:Type} {g:Nat->σ->Except ε σ} {f:σ->α->Except ε σ} {x:Nat->α} {s:σ} : ∀{n:Nat},(∀i s,i<n->g i s=f s (x i))->upE g n s=(rows x n).foldlM f s
 | 0,_=>rfl
 | n+1,h=>by
  have ih:=mM (n:=n) (s:=s) fun i s hi=>h i s (by omega);rw[eG,jA,<-ih];simp only[upE];cases upE g n s with
  | ok s'=>show g n s'=[x n].foldlM f s';rw[qh];exact h n s' (by omega)
  | error e=>rfl
theorem oM{σ ε:Type}[Inhabited α]{f:σ->α->Except ε σ}{l:List α}{s:σ}:upE (fun i s=>f s (nth l i)) l.length s=l.foldlM f s:=by rw[mM (f:=f) (x:=nth l) fun _ _ _=>rfl];congr 1;refine MJ (by simp) fun i h1 h2=>?_;simp[rows,ak h2]
def kT (f:an) (m:MW) (t:Th):Except Tr MW:=
 if t.place<0 then allS f.params t.mks t.blk t.place m
 else if t.place<(eY f t).ins.length then insS f.params t.blk (eY f t) t.place.toNat m
 else endS f.blocks.length t.blk (eY f t) m
theorem tc{f:an}{i:Nat}{m:MW}:kT f m (phiT f b i)=phiS f.params b (nth f.blocks b) i m:=by unfold kT;rw[if_pos (show(phiT f b i).place<0 by show -1-(i:Int)<0;omega)];rfl
theorem rV{f:an}{i:Nat}{m:MW}(hi:i<(nth f.blocks b).ins.length):kT f m (insT f b i)=insS f.params b (nth f.blocks b) i m:=by unfold kT;rw[if_neg (show ¬(insT f b i).place<0 by show ¬(i:Int)<0;omega),if_pos (show(insT f b i).place<((eY f (insT f b i)).ins.length:Int) by show(i:Int)<((nth f.blocks b).ins.length:Int);omega)];rfl
theorem sW{f:an}{m:MW}:kT f m (endT f b)=endS f.blocks.length b (nth f.blocks b) m:=by unfold kT;rw[if_neg (show ¬(endT f b).place<0 by show ¬((nth f.blocks b).ins.length:Int)<0;omega),if_neg (show ¬(endT f b).place<((eY f (endT f b)).ins.length:Int) by show ¬((nth f.blocks b).ins.length:Int)<((nth f.blocks b).ins.length:Int);omega)];rfl
theorem FE{f:an}{m:MW}:blkS f b m=(thB f b).foldlM (kT f) m:=by
 unfold blkS thB;rw[mM (f:=kT f) (x:=phiT f b) (n:=(nth f.blocks b).phis.length) fun i s hi=>tc.symm];rw[jA,jA];cases (rows (phiT f b) (nth f.blocks b).phis.length).foldlM (kT f) m with
 | error e=>rfl
 | ok m1=>
  simp only;rw[mM (f:=kT f) (x:=insT f b) (n:=(nth f.blocks b).ins.length) fun i s hi=>(rV hi).symm];cases (rows (insT f b) (nth f.blocks b).ins.length).foldlM (kT f) m1 with
  | error e=>rfl
  | ok m2=>simp only;rw[qh];exact sW.symm
theorem vX{f:an}{m:MW}:ma f m=(aL f).foldlM (kT f) m:=by
 have key : ∀n,upE (blkS f) n m=(thTo f n).foldlM (kT f) m:=by
  intro n;induction n with
  | zero=>rfl
  | succ n ih=>
   rw[iE,jA,<-ih];simp only[upE];cases upE (blkS f) n m with
   | error e=>rfl
   | ok s=>exact FE
 exact key _
theorem mL{f:an}:dL f=(aL f).foldlM (fun m t=>b6 f t m) (List.replicate 8192 false):=oM (f:=fun(m:BL) (t:Th)=>b6 f t m)
def th (m:MW) (l:BL):Prop:=l.length=8192/\∀n:Int,0<=n->n<8192->(m n).isSome=nth l n.toNat
def Alike {α β:Type} (R:α->β->Prop):Except Tr α->Except Tr β->Prop
 | .ok a,.ok b=>R a b
 | .error e,.error e'=>e=e'
 | _,_=>False
theorem qG {α β γ:Type} {R:α->β->Prop} {F:α->γ->Except Tr α} {G:β->γ->Except Tr β} : ∀{l:List γ},(∀t∈l,∀a b,R a b->Alike R (F a t) (G b t))->∀{a:α} {b:β},R a b->Alike R (l.foldlM F a) (l.foldlM G b)
 | [],_,a,b,h=>h
 | t::l,hs,a,b,h=>by
  rw[Nn,Nn];have:=hs t LR a b h;cases e1:F a t with
  | error e=>
   cases e2:G b t with
   | error e'=>rw[e1,e2]at this;exact this
   | ok b'=>rw[e1,e2]at this;exact this.elim
  | ok a'=>
   cases e2:G b t with
   | error e'=>rw[e1,e2]at this;exact this.elim
   | ok b'=>rw[e1,e2]at this;exact qG (fun t ht=>hs t (LS _ ht)) this
theorem Ee{f:an}{n:Int}:bU n f.params 8191=!jm f n:=by rw[MH];simp[bU,jm]
theorem CE{p:α->Bool}{l:List α}:l.all (fun n=>!p n)=!l.any p:=by
 induction l with
 | nil=>rfl
 | cons a l ih=>simp[ih]
def jV (t:Th) (m:BL) (n:Int):Except Tr BL:=if nth m n.toNat then .error (12,t.blk,t.place) else .ok (m.set n.toNat true)
theorem Dq{f:an}{t:Th}{m:MW}{l:BL}(h:th m l)(hp:0<=f.params)(hn : ∀n∈t.mks,jm f n=false):Alike th (t.mks.foldlM (p9 t.blk t.place) m) (upE (jy t) t.mks.length l):=by
 have e:upE (jy t) t.mks.length l=t.mks.foldlM (jV t) l:=oM (f:=jV t);rw[e];refine qG (fun n hnm m l h=>?_) h;have hb:=hn n hnm;simp only[jm,MZ,decide_eq_false_iff_not]at hb;have hs:=h.2 n (by omega) (by omega);unfold p9 jV;rw[hs];cases hc:nth l n.toNat with
 | true=>exact rfl
 | false=>
  refine⟨by simpa using h.1,fun k h0 h1=>?_⟩;rw[aF (by rw[h.1];omega)];simp only[putM];by_cases hk:k=n
  ·subst hk;simp
  rw[if_neg hk,if_neg (by omega)];exact h.2 k h0 h1
theorem xl{f:an}{t:Th}{m:MW}{l:BL}(h:th m l)(hp:0<=f.params):
  Alike th (allS f.params t.mks t.blk t.place m) (if t.mks.any (jm f) then .error (11,t.blk,t.place) else upE (jy t) t.mks.length l):=by
 unfold allS;have e:(t.mks.all fun n=>bU n f.params 8191)=!t.mks.any (jm f):=by rw[<-CE];congr 1;funext n;exact Ee
 rw[e];cases hb:t.mks.any (jm f)with
 | true=>exact rfl
 | false=>refine Dq h hp fun n hn=>?_;rw[MN];intro e2;rw[MN]at hb;exact hb (Np.2 ⟨n,hn,e2⟩)
theorem Hz{x:InsD}:(bU x.op 1 18&&bU x.args.length (gR x.op).1 (gR x.op).2)=!lX x:=by
 rw[MH];simp only[lX,bU,gR,mF,LK,NI,MZ,decide_eq_true_eq,decide_eq_false_iff_not,Bool.not_eq_false'];by_cases h1:x.op=1
 ·simp[h1]
 by_cases h2:x.op=15
 ·simp[h2];omega
 by_cases h3:x.op=17
 ·simp[h3]
 simp only[h1,h2,h3,if_false,decide_eq_true_eq];omega
theorem Ig{f:an}{n:Int}:bU n 1 ((f.blocks.length:Int)-1)=!nW f n:=by rw[MH];simp[bU,nW];omega
theorem Ek{t:da}:n8 t=jG t:=by
 unfold n8 jG gJ;by_cases h1:t.kind=1
 ·rw[MH];simp[putM,h1,bU];omega
 by_cases h2:t.kind=2
 ·rw[MH];simp[putM,h2,bU];omega
 by_cases h3:t.kind=3
 ·rw[MH];simp[putM,h3,bU];omega
 by_cases h4:t.kind=4
 ·rw[MH];simp[putM,h4,bU]
 by_cases h5:t.kind=5
 ·rw[MH];simp[putM,h5,bU]
 simp[putM,h1,h2,h3,h4,h5]
theorem tj{f:an}{t:Th}{x:Except Tr BL}(h:eT f t=false):kI f t x=x:=by
 unfold kI;cases x with
 | error e=>rfl
 | ok m=>simp only[h,O7];rfl
theorem En{f:an}{t:Th}(ht:t∈aL f)(hp:0<=f.params){m:MW}{l:BL}(h:th m l):Alike th (kT f m t) (b6 f t l):=by
 obtain⟨b,hb,ht⟩:=dX.1 ht;rcases eN.1 ht with⟨i,hi,rfl⟩ | ⟨i,hi,rfl⟩ | rfl
 ·have e1:ld f (phiT f b i)=false:=by simp[ld,phiT];omega
  have e2:eT f (phiT f b i)=false:=by show decide (-1-(i:Int)=((nth f.blocks b).ins.length:Int))=false;rw[decide_eq_false_iff_not];omega
  rw[tc,b6,e1,e2,tj e2];exact xl (t:=phiT f b i) h hp
 ·have e1:ld f (insT f b i)=true:=by simp[ld,insT,eY];omega
  have e2:eT f (insT f b i)=false:=by show decide ((i:Int)=((nth f.blocks b).ins.length:Int))=false;rw[decide_eq_false_iff_not];omega
  have e3:kb f (insT f b i)=nth (nth f.blocks b).ins i:=by simp[kb,eY,insT]
  rw[rV hi,b6,e1,e2,tj e2,e3,insS,Hz];cases hb:lX (nth (nth f.blocks b).ins i)with
  | true=>exact rfl
  | false=>exact xl (t:=insT f b i) h hp
 have e1:ld f (endT f b)=false:=by simp[ld,endT,eY]
 have e2:eT f (endT f b)=true:=by simp[eT,endT,eY]
 have e3:eY f (endT f b)=nth f.blocks b:=by simp[eY,endT]
 rw[sW,b6,e1,e2,e3,endS,Ek];cases hb:jG (nth f.blocks b).term with
 | false=>exact rfl
 | true=>
  have e4:((nth f.blocks b).term.to.all fun t=>bU t 1 ((f.blocks.length:Int)-1))=!(nth f.blocks b).term.to.any (nW f):=by rw[<-CE];congr 1;funext n;exact Ig
  rw[e4];show Alike th _ (kI f (endT f b) (.ok l));unfold kI;rw[e2,e3];cases (nth f.blocks b).term.to.any (nW f)with
  | true=>exact rfl
  | false=>exact h
theorem Bk{f:an}(hp:0<=f.params):Alike th (ma f (fun _=>none)) (dL f):=by rw[vX,mL];refine qG (fun t ht m l h=>En ht hp h) ⟨MM ..,fun n h0 h1=>?_⟩;rw[ak (by rw[MM];omega),O1];rfl
def BT (t:Th):Option (Int × Int):=if t.blk<0 then none else some (t.blk,t.place)
structure Site (m:MW) (s:List Th):Prop where
 len:s.length=8192
 inn : ∀n:Int,0<=n->n<8192->m n=BT (nth s n.toNat)
 out : ∀n:Int,¬(0<=n/\n<8192)->m n=none
theorem zY {t:Th} (hb:0<=t.blk) : ∀{l:List Int} {m:MW} {s:List Th},Site m s->(∀n∈l,0<=n/\n<8192)->Site (l.foldl (fun m n=>putM m n (t.blk,t.place)) m) (l.foldl (dG t) s)
 | [],m,s,h,_=>h
 | n::l,m,s,h,hl=>by
  rw[MU,MU];have hn:=hl n LR;refine zY hb ⟨lE.trans h.len,fun k h0 h1=>?_,fun k hk=>?_⟩ fun k hk=>hl k (LS _ hk)
  ·unfold dG putM;rw[if_pos hn,aF (by rw[h.len];omega)];by_cases e:k=n
   ·subst e;rw[if_pos rfl,if_pos rfl];unfold BT;rw[if_neg (by omega)]
   rw[if_neg e,if_neg (by omega)];exact h.inn k h0 h1
  unfold putM;rw[if_neg (by rintro rfl;exact hk hn)];exact h.out k hk
theorem AM {b p:Int} : ∀{l:List Int} {m m':MW},l.foldlM (p9 b p) m = .ok m'->m'=l.foldl (fun m n=>putM m n (b,p)) m
 | [],m,m',h=>by cases h;rfl
 | n::l,m,m',h=>by
  rw[Nn]at h;cases e:p9 b p m n with
  | error t=>rw[e]at h;cases h
  | ok m1=>
   rw[e]at h;unfold p9 at e;split at e
   ·cases e
   cases e;exact AM (l:=l) (m:=putM m n (b,p)) h
theorem AK{ps b p:Int}{l:List Int}{m m':MW}(h:allS ps l b p m = .ok m'):m'=l.foldl (fun m n=>putM m n (b,p)) m/\∀n∈l,ps<=n/\n<=8191:=by
 unfold allS at h;split at h
 ·rename_i ha;refine⟨AM h,fun n hn=>?_⟩;have:=M8.1 ha n hn;simpa[bU]using this
 cases h
theorem E5{f:an}{t:Th}(ht:t∈aL f){m m':MW}(h:kT f m t = .ok m'):(m'=t.mks.foldl (fun m n=>putM m n (t.blk,t.place)) m/\∀n∈t.mks,f.params<=n/\n<=8191)/\0<=t.blk:=by
 obtain⟨b,hb,ht⟩:=dX.1 ht;rcases eN.1 ht with⟨i,hi,rfl⟩ | ⟨i,hi,rfl⟩ | rfl
 ·rw[tc]at h;exact⟨AK h,by show 0<=(b:Int);omega⟩
 ·rw[rV hi]at h;unfold insS at h;split at h
  ·exact⟨AK h,by show 0<=(b:Int);omega⟩
  cases h
 rw[sW]at h;unfold endS at h;split at h
 ·split at h
  ·cases h;exact⟨⟨rfl,fun n hn=>by cases hn⟩,by show 0<=(b:Int);omega⟩
  cases h
 cases h
theorem xV {f:an} (hp:0<=f.params) : ∀{l:List Th},(∀t∈l,t∈aL f)->∀{m m':MW} {s:List Th},Site m s->l.foldlM (kT f) m = .ok m'->Site m' (l.foldl jn s)
 | [],_,m,m',s,h,e=>by cases e;exact h
 | t::l,hl,m,m',s,h,e=>by
  rw[Nn]at e;cases e1:kT f m t with
  | error x=>rw[e1]at e;cases e
  | ok m1=>rw[e1]at e;obtain⟨⟨q1,q2⟩,q3⟩:=E5 (hl t LR) e1;rw[MU];refine xV hp (fun t ht=>hl t (LS _ ht)) (m:=m1) ?_ e;rw[q1];exact zY q3 h fun n hn=>by have:=q2 n hn;omega
theorem DD{f:an}(hp:0<=f.params){m:MW}(h:ma f (fun _=>none) = .ok m):Site m (gw f):=by rw[vX]at h;refine xV hp (fun t ht=>ht) ⟨MM ..,fun n h0 h1=>?_,fun n _=>rfl⟩ h;rw[ak (by rw[MM];omega),O1];rfl
theorem vW{f:an}{m:MW}{made:List Th}{away:List BL}{idom:List Int}{v blk place at_ told:Int}(hp:f.params<=8192)(hs:Site m made)(hd : ∀a:Int,0<=a->a<f.blocks.length->eU idom a blk=!nth (nth away a.toNat) blk.toNat)(hm : ∀i,i<8192->(nth made i).blk<f.blocks.length):useS f.params m idom v blk place at_ told=if(!eX f made away v blk at_) then .error (13,told,place) else .ok ():=by
 unfold useS;by_cases c1:0<=v/\v<f.params
 ·have e:eX f made away v blk at_=true:=by unfold eX;rw[if_pos c1]
  rw[if_pos c1,e];rfl
 rw[if_neg c1];by_cases c2:v<0\/8191<v
 ·have e:eX f made away v blk at_=false:=by unfold eX;rw[if_neg c1,if_pos (.inl c2)]
  rw[hs.out v (by omega),e];rfl
 have e:eX f made away v blk at_=if(nth made v.toNat).blk<0 then false else if(nth made v.toNat).blk=blk then decide ((nth made v.toNat).place<0)||decide ((nth made v.toNat).place<at_) else !nth (nth away (nth made v.toNat).blk.toNat) blk.toNat:=by
  unfold eX;rw[if_neg c1];by_cases c3:(nth made v.toNat).blk<0
  ·rw[if_pos (.inr c3),if_pos c3]
  rw[if_neg (by rintro(q | q)<;>contradiction),if_neg c3]
 rw[hs.inn v (by omega) (by omega),e];have hmb:=hm v.toNat (by omega);generalize nth made v.toNat=t at hmb;unfold BT;by_cases c3:t.blk<0
 ·rw[if_pos c3,if_pos c3];rfl
 rw[if_neg c3,if_neg c3];have e2:ly (t.blk,t.place) idom blk at_=if t.blk=blk then decide (t.place<0)||decide (t.place<at_) else !nth (nth away t.blk.toNat) blk.toNat:=by
  unfold ly;by_cases c4:t.blk=blk
  ·simp only[c4,decide_true,N7,Bool.not_true,O7,Bool.or_false,if_true];rw[Bool.or_comm]
  simp only[c4,decide_false,O7,Bool.not_false,N7,O8,if_false];exact hd t.blk (by omega) hmb
 simp only[e2];generalize (if t.blk=blk then decide (t.place<0)||decide (t.place<at_) else !nth (nth away t.blk.toNat) blk.toNat)=B;cases B<;>rfl
theorem uN[Inhabited α]{l:List α}{p:α->Bool}{e:Tr}{g:Nat->Except Tr Unit}(h : ∀j,j<l.length->g j=if p (nth l j) then .error e else .ok ()):uAll g l.length=if l.any p then .error e else .ok ():=by
 have h1:uAll g l.length=l.foldlM (fun(_:Unit) x=>if p x then Except.error e else .ok ()) ():=by
  unfold uAll;rw[<-oM (f:=fun(_:Unit) x=>if p x then Except.error e else .ok ())];have key : ∀n,n<=l.length->upE (fun i (_:Unit)=>g i) n ()=upE (fun i (_:Unit)=>if p (nth l i) then Except.error e else .ok ()) n ():=by
   intro n;induction n with
   | zero=>exact fun _=>rfl
   | succ n ih=>intro hn;simp only[upE];rw[ih (by omega),h n (by omega)]
  exact key _ (LG _)
 rw[h1];clear h1 h;induction l with
 | nil=>rfl
 | cons a l ih=>
  rw[Nn,List.any_cons];cases hp:p a with
  | true=>rfl
  | false=>rw[O8];exact ih
variable{n:Nat}
theorem BH{β:Type}{p q:Nat->Bool}{x:Nat->β}(h : ∀a,a<n->p a=q a):sift p x n=sift q x n:=by rw[kE,kE];congr 1;exact OT fun a ha=>h a (M7.1 ha)
theorem BU{f:an}(hb:b<f.blocks.length):nth (cO (ofG f.blocks)) b=bf f b:=by rw[oV,fT,iJ,eQ hb,bf];refine BH fun a ha=>?_;rw[MH,et,decide_eq_true_eq,LY];exact⟨fun h=>h.2,fun h=>⟨by omega,h⟩⟩
theorem D9{f:an}{i:Nat}(hb:b<f.blocks.length):AT (nth (nth f.blocks b).phis i) (nth (cO (ofG f.blocks)) b) b=jQ f (phiT f b i):=by
 have e1:lr f (phiT f b i)=nth (nth f.blocks b).phis i:=by unfold lr eY phiT;simp only[LY];rw[show(-1-(-1-(i:Int))).toNat=i by omega]
 have e2:(phiT f b i).blk=(b:Int):=rfl;unfold AT kW jQ;rw[e1,e2,BU hb];generalize nth (nth f.blocks b).phis i=x;generalize bf f b=row;rw[MH];simp only[LK,decide_eq_true_eq,CM,xp];constructor
 ·rintro⟨⟨h1,h2⟩,h3⟩;refine⟨by omega,MJ (by simp;omega) fun j hj hj2=>?_⟩;have:=h3 j (by simpa using hj);rw[ak hj2,ak (by simpa using hj)]at this;simpa using this
 rintro⟨h1,h2⟩;have hl:x.ins.length=row.length:=by rw[<-h2,L6]
 refine⟨⟨by omega,by omega⟩,fun j hj=>?_⟩;rw[<-h2,ak (l:=List.map InD.frm x.ins) (by rw[L6];exact hj),ak hj];simp
theorem uY{f:an}: ∀i,i<8192->(nth (gw f) i).blk<f.blocks.length:=fun i hi=>xn (by omega) (fun t ht=>by
 obtain⟨b,hb,ht⟩:=dX.1 ht;rcases eN.1 ht with⟨i,hi,rfl⟩ | ⟨i,hi,rfl⟩ | rfl
 ·show(b:Int)<_;omega
 ·show(b:Int)<_;omega
 show(b:Int)<_;omega) hi
section
variable {f:an} {m:MW} {idom:List Int} (hp0:f.params<=8192) (hs:Site m (gw f)) (hd : ∀a b:Int,0<=a->a<f.blocks.length->0<=b->b<f.blocks.length->eU idom a b=!nth (nth (fh f) a.toNat) b.toNat)
include hp0 hs hd
theorem G3{i:Nat}(hb:b<f.blocks.length)(hi:i<(nth f.blocks b).phis.length):phiU f m idom (cO (ofG f.blocks)) b i=eh f (gw f) (fh f) (phiT f b i):=by
 have hf:=D9 (f:=f) (i:=i) hb;have e1:lr f (phiT f b i)=nth (nth f.blocks b).phis i:=by unfold lr eY phiT;simp only[LY];rw[show(-1-(-1-(i:Int))).toNat=i by omega]
 have e3:eh f (gw f) (fh f) (phiT f b i)=if !jQ f (phiT f b i) then .error (16,b,-1-i) else if(nth (nth f.blocks b).phis i).ins.any (stP f (gw f) (fh f)) then .error (13,b,-1-i) else .ok ():=by unfold eh;rw[if_neg (show ¬0<=(phiT f b i).place by show ¬0<=-1-(i:Int);omega),e1];rfl
 rw[e3];unfold phiU;simp only[hf];cases hss:jQ f (phiT f b i)with
 | false=>rfl
 | true=>
  rw[if_pos rfl,if_neg (by simp)];refine uN fun j hj=>?_;have hfr:0<=(nth (nth (nth f.blocks b).phis i).ins j).frm/\(nth (nth (nth f.blocks b).phis i).ins j).frm<f.blocks.length:=by unfold jQ at hss;rw[e1]at hss;simp only[LK,decide_eq_true_eq]at hss;have hm:=Nu (f:=InD.frm) (bc hj);rw[hss.2]at hm;obtain⟨a,h1,_,h2⟩:=kZ.1 hm;omega
  rw[vW hp0 hs (fun a h0 h1=>hd a _ h0 h1 hfr.1 hfr.2) uY];rfl
theorem Hw{i:Nat}(hb:b<f.blocks.length)(hi:i<(nth f.blocks b).ins.length):insU f m idom b i=eh f (gw f) (fh f) (insT f b i):=by
 have e3:eh f (gw f) (fh f) (insT f b i)=if(nth (nth f.blocks b).ins i).args.any (stT f (gw f) (fh f) (insT f b i)) then .error (13,b,i) else .ok ():=by unfold eh;rw[if_pos (show 0<=(insT f b i).place by show 0<=(i:Int);omega)];rfl
 rw[e3];unfold insU;refine uN fun j hj=>?_;rw[vW hp0 hs (fun a h0 h1=>hd a _ h0 h1 (by omega) (by omega)) uY];rfl
theorem Hc(hb:b<f.blocks.length):endU f m idom b=eh f (gw f) (fh f) (endT f b):=by
 have e3:eh f (gw f) (fh f) (endT f b)=if(nth f.blocks b).term.args.any (stT f (gw f) (fh f) (endT f b)) then .error (13,b,(nth f.blocks b).ins.length) else .ok ():=by unfold eh;rw[if_pos (show 0<=(endT f b).place by show 0<=((nth f.blocks b).ins.length:Int);omega)];rfl
 rw[e3];unfold endU;refine uN fun j hj=>?_;rw[vW hp0 hs (fun a h0 h1=>hd a _ h0 h1 (by omega) (by omega)) uY];rfl
def stF (f:an) (_:Unit) (t:Th):Except Tr Unit:=eh f (gw f) (fh f) t
theorem H5(hb:b<f.blocks.length):blkU f m idom (cO (ofG f.blocks)) b=(thB f b).foldlM (stF f) ():=by
 unfold blkU thB uAll;rw[mM (f:=stF f) (x:=phiT f b) (n:=(nth f.blocks b).phis.length) fun i s hi=>G3 hp0 hs hd hb hi];rw[mM (f:=stF f) (x:=insT f b) (n:=(nth f.blocks b).ins.length) fun i s hi=>Hw hp0 hs hd hb hi];rw[jA,jA,Hc hp0 hs hd hb];cases (rows (phiT f b) (nth f.blocks b).phis.length).foldlM (stF f) ()with
 | error e=>rfl
 | ok m1=>
  obtain⟨⟩:=m1;cases hI:(rows (insT f b) (nth f.blocks b).ins.length).foldlM (stF f) ()with
  | error e=>simp only[andE,hI]
  | ok m2=>simp only[andE,hI];rw[qh];rfl
theorem DE:uAll (blkU f m idom (cO (ofG f.blocks))) f.blocks.length=tQ f:=by
 have key : ∀n,n<=f.blocks.length->uAll (blkU f m idom (cO (ofG f.blocks))) n=(thTo f n).foldlM (stF f) ():=by
  intro n;induction n with
  | zero=>exact fun _=>rfl
  | succ n ih=>
   intro hn;rw[iE,jA,<-ih (by omega)];have e:uAll (blkU f m idom (cO (ofG f.blocks))) (n+1)=match uAll (blkU f m idom (cO (ofG f.blocks))) n with | .ok _=>blkU f m idom (cO (ofG f.blocks)) n | .error e=>.error e:=by show upE _ (n+1) ()=_;simp only[upE];unfold uAll;cases upE (fun i (_:Unit)=>blkU f m idom (cO (ofG f.blocks)) i) n ()<;>rfl
   rw[e];cases uAll (blkU f m idom (cO (ofG f.blocks))) n with
   | error e=>rfl
   | ok s=>exact H5 hp0 hs hd (by omega)
 rw[key _ (LG _)];exact(oM (f:=stF f)).symm
end
theorem xv {f:an} : ∀k,manyN f k=(iu f k:Int)
 | 0=>rfl
 | k+1=>by have ih:=xv (f:=f) k;unfold manyN at ih ⊢;rw[up,ih,iu];omega
theorem xE {σ ε:Type} {f g:Nat->σ->Except ε σ} {s:σ} : ∀{n:Nat},(∀i s,i<n->f i s=g i s)->upE f n s=upE g n s
 | 0,_=>rfl
 | n+1,h=>by
  simp only[upE];rw[xE (n:=n) fun i s hi=>h i s (by omega)];cases upE g n s with
  | ok s'=>exact h n s' (by omega)
  | error e=>rfl
theorem uk {f:Nat->Unit->Except Tr Unit} : ∀{n:Nat},upE f n () = .ok ()->∀i,i<n->f i () = .ok ()
 | n+1,h,i,hi=>by
  simp only[upE]at h;cases e:upE f n ()with
  | error t=>rw[e]at h;cases h
  | ok s=>
   rw[e]at h;rcases LI i n with hlt | hge
   ·exact uk e i hlt
   have:i=n:=by omega
   subst this;exact h
theorem Fl{f:an}(hn:0<f.blocks.length):uAll (td f) f.blocks.length=wayE f:=by
 unfold uAll wayE;refine xE fun b s hb=>?_;unfold td;have e:decide ((b:Int)∈a8 (ofG f.blocks))=nth (dw f (-1)) b:=by rw[MH,decide_eq_true_eq,(jS (by rw[iJ];exact hn)).mem,jg hb]
 rw[e]
theorem Gy{f:an}(hn:0<f.blocks.length)(hw:wayE f = .ok ())(a b:Int)(h0:0<=a)(h1:a<f.blocks.length)(h2:0<=b)(h3:b<f.blocks.length):
  eU (qd (ofG f.blocks)) a b=!nth (nth (fh f) a.toNat) b.toNat:=by
 have hR : ∀x:Nat,x<f.blocks.length->Re (ofG f.blocks) (-1) x:=fun x hx=>by
  have:=uk hw x hx;rw[<-jg hx];split at this
  ·assumption
  cases this
 have hg:0<(ofG f.blocks).length:=by rw[iJ];exact hn
 obtain⟨fp,C,l,hl,I⟩:=xF hg;have hi:qd (ofG f.blocks)=l:=by unfold qd;rw[hl];rfl
 rw[hi];have e:=rM I C (a:=a.toNat) (b:=b.toNat) (by rw[iJ];omega) (hR _ (by omega));rw[LX h0,LX h2]at e;rw[e,MH,oH];have ha:nth (fh f) a.toNat=dw f a:=by unfold fh;rw[eQ (by omega),LX h0]
 rw[ha];have hr:=jg (f:=f) (wo:=a) (b:=b.toNat) (by omega);have haa:((a.toNat:Nat):Int)=a:=LX h0;rw[haa];cases hc:nth (dw f a) b.toNat with
 | true=>rw[hc]at hr;simp[hr.1 rfl]
 | false=>
  rw[hc]at hr;have hnr:¬Re (ofG f.blocks) a b.toNat:=fun h=>by have:=hr.2 h;cases this
  simp[hnr,hR _ (show a.toNat<f.blocks.length by omega),hR _ (show b.toNat<f.blocks.length by omega)]
theorem pR(f:an):ir f=gq f:=by
 unfold ir mg gq;by_cases c1:f.params<0\/4<f.params
 ·have:bU f.params 0 4=false:=by rw[MN];simp[bU];omega
  rw[if_pos this,if_pos c1]
 have hw4:¬bU f.params 0 4=false:=by simp[bU];omega
 rw[if_neg hw4,if_neg c1];by_cases c2:f.blocks.length=0
 ·rw[if_pos c2,if_pos c2]
 rw[if_neg c2,if_neg c2];have hm:CK f=(iu f f.blocks.length:Int):=xv _;by_cases c3:512<f.blocks.length\/4096<iu f f.blocks.length
 ·rw[if_pos (by rw[hm];omega),if_pos c3]
 rw[if_neg (by rw[hm];omega),if_neg c3];have hp:0<=f.params:=by omega
 have hsh:=Bk hp;cases hS:ma f (fun _=>none)with
 | error e=>
  cases hR:dL f with
  | ok l=>rw[hS,hR]at hsh;exact hsh.elim
  | error e'=>rw[hS,hR]at hsh;have hee:e=e':=hsh;subst hee;obtain⟨k,s',h1,_,h3⟩:=nB hR;have:=(oX h3).1;rw[if_pos (by show e.1≠0;omega)];rfl
 | ok m=>
  cases hR:dL f with
  | error e'=>rw[hS,hR]at hsh;exact hsh.elim
  | ok l=>
   rw[if_neg (by simp[iM])];have hs:=DD hp hS;show(match qR f m (qd (ofG f.blocks))with | .ok _=>((0,0,0):Tr) | .error t=>t)=_;unfold qR;rw[Fl (by omega)];cases hW:wayE f with
   | error e=>rfl
   | ok s=>obtain⟨⟩:=s;have:=DE (f:=f) (m:=m) (idom:=qd (ofG f.blocks)) (by omega) hs fun a b h0 h1 h2 h3=>Gy (by omega) hW a b h0 h1 h2 h3;show(match uAll (blkU f m (qd (ofG f.blocks)) (cO (ofG f.blocks))) f.blocks.length with | .ok _=>((0,0,0):Tr) | .error t=>t)=iM (tQ f);rw[this];cases tQ f<;>rfl
def Marks (m:BL) (S:Int->Prop):Prop:=m.length=8192/\∀n:Int,0<=n->n<8192->(nth m n.toNat=true↔S n)
theorem vE:Marks (List.replicate 8192 false) (fun _=>False):=⟨MM,fun n h0 h1=>by rw[aA (by omega)];simp⟩
theorem xH{m:BL}{S:Int->Prop}{n:Int}(h:Marks m S)(h0:0<=n)(h1:n<8192):Marks (m.set n.toNat true) (fun k=>S k\/k=n):=by
 refine⟨by simpa using h.1,fun k k0 k1=>?_⟩;rw[aF (by rw[h.1];omega)];split
 ·rename_i e;exact⟨fun _=>.inr (by omega),fun _=>rfl⟩
 rename_i e;rw[h.2 k k0 k1];exact⟨.inl,fun o=>o.resolve_right (by rintro rfl;exact e rfl)⟩
theorem Marks.congr{m:BL}{S T:Int->Prop}(h:Marks m S)(he : ∀n,S n↔T n):Marks m T:=⟨h.1,fun n a b=>(h.2 n a b).trans (he n)⟩
theorem qp {t:Th} : ∀{l:List Int} {m m':BL} {S:Int->Prop},Marks m S->(∀n∈l,0<=n/\n<8192)->l.foldlM (jV t) m = .ok m'->Marks m' (fun k=>S k\/k∈l)/\l.Nodup/\∀n∈l,¬S n
 | [],m,m',S,h,_,e=>by cases e;exact⟨h.congr fun n=>by simp,O5,fun n hn=>by cases hn⟩
 | a::l,m,m',S,h,hl,e=>by
  rw[Nn]at e;have ha:=hl a LR;unfold jV at e;by_cases hc:nth m a.toNat=true
  ·rw[if_pos hc]at e;cases e
  rw[if_neg hc]at e;obtain⟨g1,g2,g3⟩:=qp (xH h ha.1 ha.2) (fun n hn=>hl n (LS _ hn)) e;refine⟨g1.congr fun n=>by rw[L4,or_assoc],OD.2 ⟨fun hm=>g3 a hm (.inr rfl),g2⟩,fun n hn=>?_⟩;rcases L4.1 hn with rfl | hn
  ·exact fun hs=>hc ((h.2 n ha.1 ha.2).2 hs)
  exact fun hs=>g3 n hn (.inl hs)
theorem uZ {t:Th} : ∀{l:List Int} {m:BL} {S:Int->Prop},Marks m S->(∀n∈l,0<=n/\n<8192)->l.Nodup->(∀n∈l,¬S n)->∃m',l.foldlM (jV t) m = .ok m'
 | [],m,S,h,_,_,_=>⟨m,rfl⟩
 | a::l,m,S,h,hl,hd,hs=>by
  have ha:=hl a LR;rw[Nn];unfold jV;rw[if_neg fun hc=>hs a LR ((h.2 a ha.1 ha.2).1 hc)];obtain⟨d1,d2⟩:=OD.1 hd;refine uZ (xH h ha.1 ha.2) (fun n hn=>hl n (LS _ hn)) d2 fun n hn=>?_;rintro(g | rfl)
  ·exact hs n (LS _ hn) g
  exact d1 hn
structure mK (f:an) (t:Th):Prop where
 op:ld f t=true->lX (kb f t)=false
 term:eT f t=true->jG (eY f t).term=true
 mks : ∀n∈t.mks,f.params<=n/\n<=8191
 to:eT f t=true->∀n∈(eY f t).term.to,1<=n/\n<f.blocks.length
theorem zo{t:Th}{m:BL}:upE (jy t) t.mks.length m=t.mks.foldlM (jV t) m:=oM (f:=jV t)
theorem any_false{p:α->Bool}{l:List α}:l.any p=false↔∀n∈l,p n=false:=by rw[List.any_eq_false];exact forall_congr' fun n=>forall_congr' fun _=>by simp
theorem zD{f:an}{n:Int}:jm f n=false↔f.params<=n/\n<=8191:=by simp[jm]
theorem CR{f:an}{n:Int}:nW f n=false↔1<=n/\n<f.blocks.length:=by simp[nW]
theorem Cd{f:an}{t:Th}{m m':BL}(h:b6 f t m = .ok m'):mK f t/\t.mks.foldlM (jV t) m = .ok m':=by
 unfold b6 at h;split at h
 ·cases h
 rename_i c1;split at h
 ·cases h
 rename_i c2;split at h
 ·cases h
 rename_i c3;rw[zo]at h;unfold kI at h;split at h
 ·cases h
 rename_i m1 e;split at h
 ·cases h
 rename_i c4;cases h;refine⟨⟨fun g=>?_,fun g=>?_,fun n hn=>?_,fun g n hn=>?_⟩,e⟩
 ·simpa[g]using c1
 ·simpa[g]using c2
 ·exact zD.1 (any_false.1 (by simpa only[Bool.not_eq_true]using c3) n hn)
 refine CR.1 (any_false.1 (by simpa only[g,N7,Bool.not_eq_true]using c4) n hn)
theorem Au{f:an}{t:Th}{m m':BL}(h:mK f t)(e:t.mks.foldlM (jV t) m = .ok m'):b6 f t m = .ok m':=by
 unfold b6;rw[if_neg,if_neg,if_neg]
 ·rw[zo,e];unfold kI;dsimp only;rw[if_neg];intro c;obtain⟨c1,c2⟩:=(LK _ _).mp c;rw[any_false.2 fun n hn=>CR.2 (h.to c1 n hn)]at c2;cases c2
 ·rw[any_false.2 fun n hn=>zD.2 (h.mks n hn)];exact Bool.false_ne_true
 ·intro c;obtain⟨c1,c2⟩:=(LK _ _).mp c;rw[h.term c1]at c2;cases c2
 intro c;obtain⟨c1,c2⟩:=(LK _ _).mp c;rw[h.op c1]at c2;cases c2
def nV (l:List Th):List Int:=l.flatMap Th.mks
theorem tK {f:an} (hp:0<=f.params) : ∀{l:List Th} {m m':BL} {S:Int->Prop},Marks m S->l.foldlM (fun m t=>b6 f t m) m = .ok m'->(∀t∈l,mK f t)/\(nV l).Nodup/\∀n∈nV l,¬S n
 | [],m,m',S,h,e=>⟨fun t ht=>(by cases ht),O5,fun n hn=>(by cases hn)⟩
 | t::l,m,m',S,h,e=>by
  rw[Nn]at e;cases e1:b6 f t m with
  | error x=>rw[e1]at e;cases e
  | ok m1=>
   rw[e1]at e;obtain⟨g,e2⟩:=Cd e1;obtain⟨k1,k2,k3⟩:=qp h (fun n hn=>by have:=g.mks n hn;omega) e2;obtain⟨i1,i2,i3⟩:=tK hp k1 e;refine⟨fun x hx=>?_,?_,fun n hn=>?_⟩
   ·rcases L4.1 hx with rfl | hx
    ·exact g
    exact i1 x hx
   ·refine Nq.2 ⟨k2,i2,fun a ha b hb=>?_⟩;rintro rfl;exact i3 a hb (.inr ha)
   rcases LP.1 hn with hn | hn
   ·exact k3 n hn
   exact fun hs=>i3 n hn (.inl hs)
theorem wK {f:an} (hp:0<=f.params) : ∀{l:List Th} {m:BL} {S:Int->Prop},Marks m S->(∀t∈l,mK f t)->(nV l).Nodup->(∀n∈nV l,¬S n)->∃m',l.foldlM (fun m t=>b6 f t m) m = .ok m'
 | [],m,S,_,_,_,_=>⟨m,rfl⟩
 | t::l,m,S,h,hg,hd,hs=>by
  have g:=hg t LR;obtain⟨d1,d2,d3⟩:=Nq.1 (show(t.mks++nV l).Nodup from hd);have hr : ∀n∈t.mks,0<=n/\n<8192:=fun n hn=>by have:=g.mks n hn;omega
  obtain⟨m1,e⟩:=uZ (t:=t) h hr d1 fun n hn=>hs n (Ng _ hn);rw[Nn,Au g e];obtain⟨k1,_,_⟩:=qp h hr e;exact wK hp k1 (fun x hx=>hg x (LS _ hx)) d2 fun n hn=>by
   rintro(q | q)
   ·exact hs n (M5 _ hn) q
   exact d3 n q n hn rfl
def lu (f:an) (v b p:Int):Prop:=(0<=v/\v<f.params)\/∃t∈aL f,v∈t.mks/\(t.blk=b/\(t.place<0\/t.place<p)\/t.blk≠b/\¬Re (ofG f.blocks) t.blk b.toNat)
structure Fs (ts:List Th) (s:List Th):Prop where
 len:s.length=8192
 is : ∀n:Int,0<=n->n<8192->(nth s n.toNat=noTh/\∀t∈ts,n∉t.mks)\/(nth s n.toNat∈ts/\n∈(nth s n.toNat).mks)
theorem zV {t:Th} {ts:List Th} : ∀{l:List Int} {s:List Th} {d:List Int},(∀n∈l,n∈t.mks)->(s.length=8192/\∀n:Int,0<=n->n<8192->(nth s n.toNat=noTh/\(∀t∈ts,n∉t.mks)/\n∉d)\/(nth s n.toNat∈ts++[t]/\n∈(nth s n.toNat).mks))->
  ((l.foldl (dG t) s).length=8192/\∀n:Int,0<=n->n<8192->(nth (l.foldl (dG t) s) n.toNat=noTh/\(∀t∈ts,n∉t.mks)/\n∉d++l)\/(nth (l.foldl (dG t) s) n.toNat∈ts++[t]/\n∈(nth (l.foldl (dG t) s) n.toNat).mks))
 | [],s,d,_,h=>by simpa using h
 | a::l,s,d,hl,h=>by
  rw[MU];have:=zV (t:=t) (ts:=ts) (l:=l) (s:=dG t s a) (d:=d++[a]) (fun n hn=>hl n (LS _ hn)) ⟨by rw[lE];exact h.1,fun n h0 h1=>?_⟩
  ·simpa using this
  unfold dG;split
  ·rw[aF (by rw[h.1];omega)];split
   ·rename_i hc e;have:n=a:=by omega
    subst this;exact .inr ⟨M5 _ (LM.2 rfl),hl n LR⟩
   rename_i hc e;rcases h.2 n h0 h1 with⟨a1,a2,a3⟩ | a1
   ·refine .inl ⟨a1,a2,?_⟩;rw[LP,LM];rintro(q | rfl)
    ·exact a3 q
    exact e rfl
   exact .inr a1
  rename_i hc;rcases h.2 n h0 h1 with⟨a1,a2,a3⟩ | a1
  ·refine .inl ⟨a1,a2,?_⟩;rw[LP,LM];rintro(q | rfl)
   ·exact a3 q
   exact hc ⟨h0,h1⟩
  exact .inr a1
theorem AD : ∀{l ts s:List Th},Fs ts s->Fs (ts++l) (l.foldl jn s)
 | [],ts,s,h=>by simpa using h
 | t::l,ts,s,h=>by
  rw[MU];have:=zV (t:=t) (ts:=ts) (l:=t.mks) (s:=s) (d:=[]) (fun n hn=>hn) ⟨h.len,fun n h0 h1=>(h.is n h0 h1).elim (fun a=>.inl ⟨a.1,a.2,MF⟩) fun a=>.inr ⟨Ng _ a.1,a.2⟩⟩;have:=AD (l:=l) (ts:=ts++[t]) (s:=jn s t) ⟨this.1,fun n h0 h1=>(this.2 n h0 h1).elim (fun a=>.inl ⟨a.1,fun x hx=>?_⟩) .inr⟩
  ·simpa using this
  rcases LP.1 hx with hx | hx
  ·exact a.2.1 x hx
  rw[LM.1 hx];simpa using a.2.2
theorem yc{f:an}:Fs (aL f) (gw f):=
 AD (l:=aL f) (ts:=[]) (s:=List.replicate 8192 noTh) ⟨MM,fun n h0 h1=>.inl ⟨aA (by omega),fun t ht=>by cases ht⟩⟩
theorem me{f:an}{t:Th}(h:t∈aL f):0<=t.blk/\t.blk<f.blocks.length:=by obtain⟨b,hb,ht⟩:=dX.1 h;rcases eN.1 ht with⟨i,hi,rfl⟩ | ⟨i,hi,rfl⟩ | rfl<;>exact⟨M3 _,Int.ofNat_lt.2 hb⟩
theorem C3{f:an}{a b:Int}(h0:0<=a)(h1:a<f.blocks.length)(h2:0<=b)(h3:b<f.blocks.length):nth (nth (fh f) a.toNat) b.toNat=true↔Re (ofG f.blocks) a b.toNat:=by unfold fh;rw[eQ (by omega),LX h0];exact jg (by omega)
theorem xr{f:an}{v b p:Int}(hb0:0<=b)(hb1:b<f.blocks.length)(h:eX f (gw f) (fh f) v b p=true):lu f v b p:=by
 unfold eX at h;split at h
 ·rename_i c;exact .inl c
 split at h
 ·cases h
 rename_i c1 c2;rcases yc.is v (by omega) (by omega)with⟨e,_⟩ | ⟨hm,hv⟩
 ·exact absurd (.inr (by rw[e];decide)) c2
 have hat:=me hm;refine .inr ⟨_,hm,hv,?_⟩;split at h
 ·rename_i e;exact .inl ⟨e,by simpa using h⟩
 rename_i e;refine .inr ⟨e,fun hr=>?_⟩;rw[(C3 hat.1 hat.2 hb0 hb1).2 hr]at h;cases h
theorem AY : ∀{l:List Th},(nV l).Nodup->∀{t t':Th} {v:Int},t∈l->t'∈l->v∈t.mks->v∈t'.mks->t=t'
 | a::l,hd,t,t',v,h,h',hv,hv'=>by
  obtain⟨d1,d2,d3⟩:=Nq.1 (show(a.mks++nV l).Nodup from hd);rcases L4.1 h with e1 | h1
  ·rcases L4.1 h' with e2 | h2
   ·rw[e1,e2]
   exact absurd rfl (d3 v (by rw[<-e1];exact hv) v (Oe.2 ⟨t',h2,hv'⟩))
  rcases L4.1 h' with e2 | h2
  ·exact absurd rfl (d3 v (by rw[<-e2];exact hv') v (Oe.2 ⟨t,h1,hv⟩))
  exact AY d2 h1 h2 hv hv'
theorem xL{f:an}{v b p:Int}(hd:(nV (aL f)).Nodup)(hr : ∀t∈aL f,∀n∈t.mks,0<=n/\n<=8191)(hb0:0<=b)(hb1:b<f.blocks.length)(h:lu f v b p):eX f (gw f) (fh f) v b p=true:=by
 unfold eX;rcases h with c | ⟨t,ht,hv,h⟩
 ·rw[if_pos c]
 split
 ·rfl
 have hn:=hr t ht v hv;have hat:=me ht;have e:nth (gw f) v.toNat=t:=by
  rcases yc.is v hn.1 (by omega)with⟨_,a⟩ | ⟨a,b⟩
  ·exact absurd hv (a t ht)
  exact AY hd a ht b hv
 rw[e,if_neg (by omega)];rcases h with⟨h1,h2⟩ | ⟨h1,h2⟩
 ·rw[if_pos h1];simpa using h2
 rw[if_neg h1];cases ec:nth (nth (fh f) t.blk.toNat) b.toNat with
 | false=>rfl
 | true=>exact absurd ((C3 hat.1 hat.2 hb0 hb1).1 ec) h2
structure ke (f:an):Prop where
 params:0<=f.params/\f.params<=4
 blocks:0<f.blocks.length/\f.blocks.length<=512
 cnt:iu f f.blocks.length<=4096
 good : ∀t∈aL f,mK f t
 nodup:(nV (aL f)).Nodup
 way : ∀b:Nat,b<f.blocks.length->Re (ofG f.blocks) (-1) b
 takes : ∀t∈aL f,0<=t.place->∀v∈t.tks,lu f v t.blk t.place
 phi : ∀b i:Nat,b<f.blocks.length->i<(nth f.blocks b).phis.length->0<b/\(nth (nth f.blocks b).phis i).ins.map InD.frm=bf f b/\∀p∈(nth (nth f.blocks b).phis i).ins,lu f p.val p.frm (nF f p.frm)
theorem mP{f:an}{b x:Int}:x∈bf f b↔(0<=x/\x<f.blocks.length)/\b∈(nth f.blocks x.toNat).term.to:=by
 unfold bf;rw[kZ];constructor
 ·rintro⟨a,ha,hb,rfl⟩;exact⟨⟨by omega,by omega⟩,by simpa using hb⟩
 rintro⟨⟨h0,h1⟩,h⟩;exact⟨x.toNat,by omega,by simpa using h,by omega⟩
theorem vY {g:Nat->Unit->Except Tr Unit} : ∀{n:Nat},(∀i,i<n->g i () = .ok ())->upE g n () = .ok ()
 | 0,_=>rfl
 | n+1,h=>by simp only[upE];rw[vY fun i hi=>h i (by omega)];exact h n (by omega)
theorem vV{f:an}{t:Th}:eh f (gw f) (fh f) t = .ok ()↔
  (0<=t.place/\∀v∈t.tks,eX f (gw f) (fh f) v t.blk t.place=true)\/(t.place<0/\jQ f t=true/\∀p∈(lr f t).ins,eX f (gw f) (fh f) p.val p.frm (nF f p.frm)=true):=by
 unfold eh;by_cases h0:0<=t.place
 ·rw[if_pos h0];have hn:¬t.place<0:=by omega
  simp only[h0,hn,true_and,false_and,or_false];cases e:t.tks.any (stT f (gw f) (fh f) t)with
  | true=>
   obtain⟨v,hv,hs⟩:=Np.1 e;constructor
   ·intro h;cases h
   intro h;unfold stT at hs;rw[h v hv]at hs;cases hs
  | false=>
   constructor
   ·intro _ v hv;have:=any_false.1 e v hv;simpa[stT]using this
   intro _;rfl
 rw[if_neg h0];have hn:t.place<0:=by omega
 simp only[h0,hn,true_and,false_and,false_or];cases e1:jQ f t with
 | false=>simp
 | true=>
  rw[if_neg (by simp)];cases e:(lr f t).ins.any (stP f (gw f) (fh f))with
  | true=>
   obtain⟨v,hv,hs⟩:=Np.1 e;constructor
   ·intro h;cases h
   rintro⟨_,h⟩;unfold stP at hs;rw[h v hv]at hs;cases hs
  | false=>
   constructor
   ·intro _;refine⟨rfl,fun v hv=>?_⟩;have:=any_false.1 e v hv;simpa[stP]using this
   intro _;rfl
theorem AQ{f:an}{i:Nat}:lr f (phiT f b i)=nth (nth f.blocks b).phis i:=by unfold lr eY phiT;dsimp only;rw[LY];congr 1;omega
theorem zk{f:an}(h:(ir f).1=0):ke f:=by
 rw[pR]at h;unfold gq at h;split at h
 ·cases h
 rename_i c1;split at h
 ·cases h
 rename_i c2;split at h
 ·cases h
 rename_i c3;cases hs:dL f with
 | error e=>obtain⟨k,s',_,_,h3⟩:=nB (show upE _ _ _=_ from hs);have:=(oX h3).1;rw[hs]at h;rw[if_pos (by show e.1≠0;omega)]at h;have h:e.1=0:=h;omega
 | ok m=>
  rw[hs,if_neg (by simp[iM])]at h;obtain⟨g1,g2,_⟩:=tK (f:=f) (by omega) vE (by rw[<-mL];exact hs);cases hw:wayE f with
  | error e=>
   rw[hw]at h;obtain⟨k,s',_,_,h3⟩:=nB (show upE _ _ _=_ from hw);split at h3
   ·cases h3
   cases h3;exact absurd (show(15:Int)=0 from h) (by decide)
  | ok u=>
   obtain⟨⟩:=u;rw[hw]at h;cases hu:tQ f with
   | error e=>
    rw[hu]at h;obtain⟨k,s',_,_,h3⟩:=nB (show upE _ _ _=_ from hu);have h:e.1=0:=h;unfold eh at h3;repeat' split at h3
    all_goals first | (cases h3;done) | (cases h3;first | exact absurd (show(13:Int)=0 from h) (by decide) | exact absurd (show(16:Int)=0 from h) (by decide))
   | ok u=>
    obtain⟨⟩:=u;have hst : ∀t∈aL f,eh f (gw f) (fh f) t = .ok ():=fun t ht=>by obtain⟨i,hi,e⟩:=LQ ht;have:=uk hu i hi;rw[ak hi,e]at this;exact this
    refine⟨by omega,by omega,by omega,g1,g2,fun b hb=>?_,fun t ht h0 v hv=>?_,fun b i hb hi=>?_⟩
    ·have:=uk hw b hb;rw[<-jg hb];split at this
     ·assumption
     cases this
    ·have hat:=me ht;rcases vV.1 (hst t ht)with⟨_,k⟩ | ⟨k,_⟩
     ·exact xr hat.1 hat.2 (k v hv)
     omega
    have ht:phiT f b i∈aL f:=dX.2 ⟨b,hb,eN.2 (.inl ⟨i,hi,rfl⟩)⟩;rcases vV.1 (hst _ ht)with⟨k,_⟩ | ⟨_,k1,k2⟩
    ·exact absurd k (by show ¬(0:Int)<=-1-(i:Int);omega)
    unfold jQ at k1;rw[AQ]at k1 k2;obtain⟨k3,k4⟩:=(LK _ _).mp k1;have k4:(nth (nth f.blocks b).phis i).ins.map InD.frm=bf f b:=of_decide_eq_true k4;have k3:(0:Int)<b:=of_decide_eq_true k3;refine⟨by omega,k4,fun p hp=>?_⟩;have hm:p.frm∈bf f b:=by rw[<-k4];exact Nu hp
    have:=(mP.1 hm).1;exact xr this.1 this.2 (k2 p hp)
theorem I6{f:an}(h:ke f):ir f=(0,0,0):=by
 rw[pR];have hp:=h.params;have hb:=h.blocks;have hc:=h.cnt;have hr : ∀t∈aL f,∀n∈t.mks,0<=n/\n<=8191:=fun t ht n hn=>by have:=(h.good t ht).mks n hn;omega
 unfold gq;rw[if_neg (by omega),if_neg (by omega),if_neg (by omega)];obtain⟨m,hm⟩:=wK (f:=f) (by omega) vE h.good h.nodup fun _ _=>id;rw[mL,hm,if_neg (by simp[iM])];have hw:wayE f = .ok ():=vY fun i hi=>if_pos ((jg hi).2 (h.way i hi));have hu:tQ f = .ok ():=vY fun i hi=>by
  have ht:=bc hi;generalize nth (aL f) i=t at ht;rw[vV];have hat:=me ht;by_cases h0:0<=t.place
  ·exact .inl ⟨h0,fun v hv=>xL h.nodup hr hat.1 hat.2 (h.takes t ht h0 v hv)⟩
  refine .inr ⟨by omega,?_⟩;obtain⟨b,hb,hm⟩:=dX.1 ht;rcases eN.1 hm with⟨i,hi,rfl⟩ | ⟨i,hi,rfl⟩ | rfl
  ·obtain⟨k1,k2,k3⟩:=h.phi b i hb hi;unfold jQ;rw[AQ];refine⟨(LK _ _).mpr ⟨decide_eq_true (by show(0:Int)<b;omega),decide_eq_true k2⟩,fun p hp=>?_⟩;have hm:p.frm∈bf f b:=by rw[<-k2];exact Nu hp
   have:=(mP.1 hm).1;exact xL h.nodup hr this.1 this.2 (k3 p hp)
  ·exact absurd (M3 _) h0
  exact absurd (M3 _) h0
 rw[hw,hu];rfl
section
variable {f:an} {b i:Nat}
theorem zF:eT f (phiT f b i)=false:=by refine decide_eq_false ?_;show ¬(-1-(i:Int)=((eY f (phiT f b i)).ins.length:Nat));omega
theorem AG(hi:i<(nth f.blocks b).ins.length):eT f (insT f b i)=false:=by refine decide_eq_false ?_;show ¬((i:Int)=((nth f.blocks ((b:Nat):Int).toNat).ins.length:Nat));rw[LY];omega
theorem Aa:eT f (endT f b)=true:=by refine decide_eq_true ?_;show(((nth f.blocks b).ins.length:Nat):Int)=((nth f.blocks ((b:Nat):Int).toNat).ins.length:Nat);rw[LY]
theorem Hl:ld f (phiT f b i)=false:=by have h:decide (0<=(phiT f b i).place)=false:=decide_eq_false (by show ¬(0:Int)<=-1-(i:Int);omega);unfold ld;rw[h];rfl
theorem yy(hi:i<(nth f.blocks b).ins.length):ld f (insT f b i)=true/\kb f (insT f b i)=nth (nth f.blocks b).ins i:=by
 refine⟨(LK _ _).mpr ⟨decide_eq_true (M3 _),decide_eq_true ?_⟩,?_⟩
 ·show(i:Int)<((nth f.blocks ((b:Nat):Int).toNat).ins.length:Nat);rw[LY];omega
 show nth (nth f.blocks ((b:Nat):Int).toNat).ins ((i:Nat):Int).toNat=_;rw[LY,LY]
theorem Iw:ld f (endT f b)=false:=by have h:decide ((endT f b).place<((eY f (endT f b)).ins.length:Nat))=false:=decide_eq_false (by show ¬(((nth f.blocks b).ins.length:Nat):Int)<((nth f.blocks ((b:Nat):Int).toNat).ins.length:Nat);rw[LY];omega);unfold ld;rw[h];exact Bool.and_false _
theorem yo:eY f (endT f b)=nth f.blocks b:=by show nth f.blocks ((b:Nat):Int).toNat=_;rw[LY]
theorem EG(h : ∀n∈(phiT f b i).mks,f.params<=n/\n<=8191):mK f (phiT f b i):=
 ⟨fun c=>(by rw[Hl]at c;cases c),fun c=>(by rw[zF]at c;cases c),h,fun c=>(by rw[zF]at c;cases c)⟩
theorem Gl(hi:i<(nth f.blocks b).ins.length)(ho:lX (nth (nth f.blocks b).ins i)=false)(h : ∀n∈(insT f b i).mks,f.params<=n/\n<=8191):mK f (insT f b i):=
 ⟨fun _=>(by rw[(yy hi).2];exact ho),fun c=>(by rw[AG hi]at c;cases c),h,fun c=>(by rw[AG hi]at c;cases c)⟩
theorem zN(ht:jG (nth f.blocks b).term=true)(h : ∀n∈(nth f.blocks b).term.to,1<=n/\n<f.blocks.length):mK f (endT f b):=
 ⟨fun c=>(by rw[Iw]at c;cases c),fun _=>(by rw[yo];exact ht),fun n hn=>(by cases hn),fun _=>(by rw[yo];exact h)⟩
theorem ke.phiG(m:ke f)(hb:b<f.blocks.length)(hi:i<(nth f.blocks b).phis.length):mK f (phiT f b i):=m.good _ (dX.2 ⟨b,hb,eN.2 (.inl ⟨i,hi,rfl⟩)⟩)
theorem ke.insG(m:ke f)(hb:b<f.blocks.length)(hi:i<(nth f.blocks b).ins.length):mK f (insT f b i)/\lX (nth (nth f.blocks b).ins i)=false:=by have g:=m.good _ (dX.2 ⟨b,hb,eN.2 (.inr (.inl ⟨i,hi,rfl⟩))⟩);exact⟨g,by have:=g.op (yy hi).1;rwa [(yy hi).2]at this⟩
theorem ke.endG(m:ke f)(hb:b<f.blocks.length):jG (nth f.blocks b).term=true/\∀n∈(nth f.blocks b).term.to,1<=n/\n<f.blocks.length:=by have g:=m.good _ (dX.2 ⟨b,hb,eN.2 (.inr (.inr rfl))⟩);have h1:=g.term Aa;have h2:=g.to Aa;rw[yo]at h1 h2;exact⟨h1,h2⟩
end
section
variable {f g:an} {n:Nat}
end
section
variable {s:Nat->Nat} {S:Int->Int} {f g:an}
def jz (l:List InD):Prop:=l.Pairwise fun x y=>x.frm<=y.frm
theorem Fv: ∀{n:Nat},(List.range n).Pairwise (· < ·):=OY
theorem rI{f:an}{c:Int}:(bf f c).Pairwise (· < ·):=by unfold bf;rw[kE];refine NT.2 (List.Pairwise.filter _ (Fv.imp fun h=>by omega))
end
structure Way (A B:List InD) (x:InD):Prop where
 ris:jz (A++B)
 gt : ∀y∈B,x.frm<y.frm
theorem Way.done{A B:List InD}{x:InD}(w:Way A B x)(h : ∀y,A.getLast? = some y->y.frm<=x.frm):jz (A++x::B):=by
 obtain⟨r,g⟩:=w;have ra:=Ob.1 r;refine Ob.2 ⟨ra.1,N3.2 ⟨fun y hy=>Int.le_of_lt (g y hy),ra.2.1⟩,fun y hy z hz=>?_⟩;rcases L4.1 hz with rfl | hz
 ·rcases A.eq_nil_or_concat with e | ⟨A',l,e⟩
  ·subst e;cases hy
  rw[List.concat_eq_append]at e;subst e;have hl:=h l (by simp);rcases LP.1 hy with hy | hy
  ·have:=(Ob.1 ra.1).2.2 y hy l (LM.2 rfl);omega
  rw[LM.1 hy];exact hl
 exact ra.2.2 y hy z hz
theorem Way.step{A B:List InD}{x y:InD}(w:Way (A++[y]) B x)(h:x.frm<y.frm):Way A (y::B) x:=
 ⟨by have:=w.ris;rw[L5]at this;exact this,fun z hz=>by
  rcases L4.1 hz with rfl | hz
  ·exact h
  exact w.gt z hz⟩
theorem Way.start{A:List InD}{x:InD}(r:jz A):Way A [] x:=⟨by rw[Nj];exact r,fun y hy=>by cases hy⟩
section
variable {K:Nat} {s:Nat->Nat}
end
theorem JL{p q:InD}{up uq:Value}{h:Heap}(hp:Rd (vw h) up p)(hq:Rd (vw h) uq q):az Tryz.prog N.bS #[up,uq] h (fun u h'=>u = .int .i64 (IntKind.i64.wrap (p.frm-q.frm))/\(vw h).le (vw h')):=by refine aq (args:=[up,uq]) follows F.bS E.bS (LD (by kernel_rfl)) fun K hK=>?_;dsimp only[L.bS];refine aa fun z hz=>?_;simp;refine gm rfl hp fun h1 e1 hle1 hs1 hat1=>?_;refine gm rfl (hq.mono hle1) fun h2 e2 hle2 hs2 hat2=>?_;have c1:ao (vw h2) ⟨h.size,0,none⟩=some (.int .i64 p.frm):=ae hle2 (hat1.part InD.mE).int;have c2:ao (vw h2) ⟨h1.size,0,none⟩=some (.int .i64 q.frm):=(hat2.part InD.mE).int;subst hz;simp[c1,c2];exact hK _ _ ⟨rfl,View.le_trans hle1 hle2⟩
variable{W:View}
theorem By(k:Key){l:List InD}{v:Value}{h:Heap}{o:Own}(w:Owns W h o)(hk:o k=it T.bI v l)(hl:l.length<=12)(hr : ∀x∈l,0<=x.frm/\x.frm<=100000):
  az Tryz.prog N.aC #[v,.int .i64 0,.int .i64 l.length,.func (.func N.bS) #[] #[]] h (fun _ h'=>∃l',l'.Perm l/\jz l'/\Owns W h' (o.upd k (it T.bI v l'))):=by
 refine aq (args:=[v,.int .i64 0,.int .i64 l.length,.func (.func N.bS) #[] #[]]) follows F.aC E.aC (LD (by kernel_rfl)) fun Kc hK=>?_;dsimp only[L.aC];refine aa fun z hz=>?_;simp;subst hz;have w0:Owns W h (o.upd k (it T.bI v (l.take 1++l.drop (0+1)))):=w.congr fun q=>by
  rw[Nt,NB];unfold Own.upd;split
  ·rename_i e;rw[e,hk]
  rfl
 have r0:jz (l.take 1):=by
  match l with
  | []=>exact .nil
  | x::_=>exact List.pairwise_singleton _ _
 refine Gp [0,1,2,3,8] (fun(_:Unit) j=>[v,.int .i64 0,.int .i64 l.length,.func (.func N.bS) #[] #[],.int .i64 ((j:Int)+1)]) (fun _ j h1=>∃R,Owns W h1 (o.upd k (it T.bI v (R++l.drop (j+1))))/\R.Perm (l.take (j+1))/\jz R) (l.length-1) 1 ()
  rfl (by omega) (by omega) rfl ⟨_,w0,.refl _,r0⟩ (fun _ _=>rfl) (fun _ j h1 hj _=>?_) ?_ ?_
 ·have e:decide ((j:Int)+1<l.length)=decide (j<l.length-1):=by rw[MH,decide_eq_true_eq,decide_eq_true_eq];omega
  rw[<-e];simp
 ·rintro _ i h1 hi ⟨R,w1,hp1,hr1⟩ K4 hK4;have hk1:i+1<l.length:=by omega
  have hkR:R.length=i+1:=by rw[hp1.length_eq,MA];omega
  obtain⟨x0,hx0⟩ : ∃x0,x0=l[i+1]:=⟨_,rfl⟩;have hx0m:x0∈l:=by rw[hx0];exact MD hk1
  have hdrop:l.drop (i+1)=x0::l.drop (i+1+1):=by rw[hx0];exact MV hk1
  have htake:l.take (i+1+1)=l.take (i+1)++[x0]:=by rw[hx0];exact L8 hk1
  obtain⟨rest,hrest⟩ : ∃rest,rest=l.drop (i+1+1):=⟨_,rfl⟩;rw[<-hrest]at hdrop;rw[hdrop]at w1;refine aa fun q hq=>?_;simp;subst hq;simp only[aR];refine fN [0,1,2,3,8,9] (fun m ρ h2=>∃A B,m=A.length/\ρ=[(0,v),(1,.int .i64 0),(2,.int .i64 l.length),(3,.func (.func N.bS) #[] #[]),(8,.int .i64 ((i:Int)+1)),(9,.int .i64 (A.length:Nat))]/\
   Owns W h2 (o.upd k (it T.bI v (A++x0::(B++rest))))/\Way A B x0/\(A++B).Perm (l.take (i+1))) (i+1) ⟨R,[],hkR.symm,by rw[hkR];rfl,w1,.start hr1,by rw[Nj];exact hp1⟩ ?_;rintro m ρ h2 ⟨A,B,rfl,rfl,w2,wy,hpm⟩ K5 hK5;have hAB:A.length+B.length=i+1:=by have:=hpm.length_eq;rw[LH,MA]at this;omega
  have hfin:jz (A++x0::B)->∀{h3:Heap},Owns W h3 (o.upd k (it T.bI v (A++x0::(B++rest))))->∃R',Owns W h3 (o.upd k (it T.bI v (R'++l.drop (i+1+1))))/\R'.Perm (l.take (i+1+1))/\jz R':=fun hr h3 w3=>⟨A++x0::B,by rw[<-hrest,L5,NY];exact w3,by rw[htake];exact List.perm_middle.trans ((List.Perm.cons _ hpm).trans (List.perm_append_comm (l₁:=[x0]))),hr⟩;refine aa fun q hq=>?_;refine aa fun p hp=>?_;rcases A.eq_nil_or_concat with e | ⟨A',y',e⟩
  ·subst e;refine bF (vw h2) (View.le_refl _) ?_;simp;subst hp;refine au (by simp) ?_;simp;exact hK4 () _ _ rfl (by simp[aZ]) (hfin (wy.done fun y hy=>by cases hy) w2)
  rw[List.concat_eq_append]at e;subst e;have hLl:((A'++[y'])++x0::(B++rest))=A'++y'::x0::(B++rest):=by simp
  have hlenj:(A'++[y']).length=A'.length+1:=by simp
  have w2:Owns W h2 (o.upd k (it T.bI v (A'++y'::x0::(B++rest)))):=by rw[<-hLl];exact w2
  have hfin:jz ((A'++[y'])++x0::B)->∀{h3:Heap},Owns W h3 (o.upd k (it T.bI v (A'++y'::x0::(B++rest))))->∃R',Owns W h3 (o.upd k (it T.bI v (R'++l.drop (i+1+1))))/\R'.Perm (l.take (i+1+1))/\jz R':=fun hr h3 w3=>hfin hr (by rw[hLl];exact w3);have hym:y'∈l:=NH (hpm.mem_iff.1 (by simp))
  have i1:A'.length<(A'++y'::x0::(B++rest)).length:=by simp
  have i2:A'.length+1<(A'++y'::x0::(B++rest)).length:=by simp
  have en1:(A'++y'::x0::(B++rest))[A'.length]=y':=by rw[Ni (LG _)];simp
  have en2:(A'++y'::x0::(B++rest))[A'.length+1]=x0:=by rw[Ni (by omega)];simp
  have s2:=w2.now Own.af;have y1:Bn.ev (.idx 2) v (.int .i64 (A'.length:Nat))=some (.pointer (some ((slA v).add (A'.length*2)))):=s2.idxn (N:=2) rfl (M3 _) (by omega);have z1:Bn.ev (.idx 2) v (.int .i64 ((A'.length+1:Nat):Int))=some (.pointer (some ((slA v).add ((A'.length+1)*2)))):=s2.idxn (N:=2) rfl (M3 _) (by omega);obtain⟨uy,huy,ruy⟩:=Owns.ldW w2 Own.af rfl (N:=2) rfl i1;obtain⟨uj,huj,ruj⟩:=Owns.ldW w2 Own.af rfl (N:=2) rfl i2;rw[en1]at ruy;rw[en2]at ruj;rw[hlenj]at hAB hK5 ⊢;have set1:(A'++y'::x0::(B++rest)).set (A'.length+1) y'=A'++y'::y'::(B++rest):=by rw[Ou _ _ (by omega)];simp
  have set2:(A'++y'::y'::(B++rest)).set A'.length x0=A'++x0::y'::(B++rest):=by rw[Ou _ _ (LG _)];simp
  have i3:A'.length<(A'++y'::y'::(B++rest)).length:=by simp
  obtain⟨j,hj⟩ : ∃j,j=A'.length+1:=⟨_,rfl⟩;rw[<-hj]at z1 huj i2 hAB set1 hK5 ⊢;have hw:IntKind.i64.wrap ((j:Int)-1)=(A'.length:Int):=by rw[bJ (by omega) (by omega)];omega
  have hj0:0<j:=by omega
  have hjl:A'.length<j:=by omega
  clear hj en1 en2;have f1:=hr _ hx0m;have f2:=hr _ hym;refine bF (vw h2) (View.le_refl _) ?_;simp[hw,hj0,y1,z1,huy,huj];refine j0 (ops:=[.tmp 26,.tmp 31]) rfl (by kernel_rfl) (JL (ruj.mono w2.wle) (ruy.mono w2.wle)) ?_;rintro _ h3 ⟨rfl,hle3⟩;have ew:IntKind.i64.wrap (x0.frm-y'.frm)=x0.frm-y'.frm:=bJ (by omega) (by omega);rw[ew];refine⟨hle3,?_⟩;have w3:=w2.ext' hle3;by_cases hgt:x0.frm<y'.frm
  ·have hlt:x0.frm-y'.frm<0:=by omega
   simp[hj0,hlt];subst hp;refine aw (by simp) ?_;simp;subst hq;refine aa fun q hq=>?_;simp only[aR];have huy3:Un.ev (vw h3) (.al 2) (.pointer (some ((slA v).add (A'.length*2))))=some uy:=by have:=cV (ρ:=fun _=>none) (e:=.un (.al 2) (.con (.pointer (some ((slA v).add (A'.length*2)))))) hle3 (by simpa using huy);simpa using this
   have huj3:Un.ev (vw h3) (.al 2) (.pointer (some ((slA v).add (j*2))))=some uj:=by have:=cV (ρ:=fun _=>none) (e:=.un (.al 2) (.con (.pointer (some ((slA v).add (j*2)))))) hle3 (by simpa using huj);simpa using this
   refine bF (vw h3) (View.le_refl _) ?_;simp[hw,y1,z1,huy3,huj3];refine w3.ky (k:=k) (α:=InD) (v:=v) (l:=A'++y'::x0::(B++rest)) (i:=j) (d:=y') Own.af (by kernel_rfl) rfl rfl i2 ruy fun h4 w4 _=>?_;rw[set1]at w4;refine w4.ky (k:=k) (α:=InD) (v:=v) (l:=A'++y'::y'::(B++rest)) (i:=A'.length) (d:=x0) Own.af (by kernel_rfl) rfl rfl i3 ruj fun h5 w5 _=>?_;rw[set2]at w5;subst hq;simp[hw];refine hK5 A'.length _ _ hjl ⟨A',y'::B,rfl,by simp[aZ,hw],w5.congr fun q=>?_,wy.step hgt,?_⟩
   ·rw[NY];unfold Own.upd;split<;>rfl
   rw[L5]at hpm;exact hpm
  have hlt:¬x0.frm-y'.frm<0:=by omega
  simp[hj0,hlt];subst hp;refine au (by simp) ?_;simp;exact hK4 () _ _ rfl (by simp[aZ]) (hfin (wy.done fun y hy=>by simp at hy;subst hy;omega) w3)
 rintro _ h1 ⟨R,w1,hp1,hr1⟩;have e1:l.drop (l.length-1+1)=[]:=List.drop_of_length_le (by omega);have e2:l.take (l.length-1+1)=l:=LV (by omega);rw[e1,Nj]at w1;rw[e2]at hp1;simp;exact hK _ _ ⟨R,hp1,hr1,w1⟩
theorem Jr(k:Key){l:List InD}{v:Value}{lim:Int}{h:Heap}{o:Own}(w:Owns W h o)(hk:o k=it T.bI v l)(hl:l.length<=12)(hr : ∀x∈l,0<=x.frm/\x.frm<=100000):
  az Tryz.prog N.aW #[v,.int .i64 0,.int .i64 l.length,.int .i64 lim,.func (.func N.bS) #[] #[]] h (fun _ h'=>∃l',l'.Perm l/\jz l'/\Owns W h' (o.upd k (it T.bI v l'))):=by
 refine aq (args:=[v,.int .i64 0,.int .i64 l.length,.int .i64 lim,.func (.func N.bS) #[] #[]]) follows F.aW E.aW (LD (by kernel_rfl)) fun Kc hK=>?_;dsimp only[L.aW];refine aa fun z hz=>?_;simp;subst hz;refine aa fun z hz=>?_;simp;subst hz;simp only[aR];refine fN [0,1,2,3,4,10,11] (fun m ρ h2=>h2=h/\ρ=[(0,v),(1,.int .i64 0),(2,.int .i64 l.length),(3,.int .i64 lim),(4,.func (.func N.bS) #[] #[]),(10,.bool true),(11,.bool true)]) 0 ⟨rfl,rfl⟩ ?_;rintro m ρ h2 ⟨rfl,rfl⟩ K2 hK2;dsimp only[L.aW.l1];simp only[aR];refine aa fun z hz=>?_;have ew:IntKind.i64.wrap ((l.length:Int)-0)=l.length:=by rw[bJ (by omega) (by omega)];omega
 simp[ew];subst hz;refine aa fun z hz=>?_;have h12:(l.length:Int)<=12:=by omega
 have ew2:IntKind.i64.wrap (l.length:Int)=l.length:=bJ (by omega) (by omega);simp[ew2,hl,h12];refine aj (by kernel_rfl) (By k w hk hl hr) ?_;rintro _ h3 hx;exact hK _ _ hx
theorem Jc{h:Heap}(hn:n<=1000000):az Tryz.prog N.wX #[.int .u64 n] h (fun u h'=>(∃i:Int,u = .int .i64 i)/\h'=h):=by rintro w rfl;refine(Tryz.bits_Len (n:Int) w (by omega) (by omega)).mono ?_;rintro e w' ⟨rfl,rfl⟩;exact⟨_,rfl,⟨⟨_,rfl⟩,rfl⟩,Same.refl _⟩
theorem zy(k:Key){l:List InD}{v:Value}{h:Heap}{o:Own}(w:Owns W h o)(hk:o k=it T.bI v l)(hl:l.length<=12)(hr : ∀x∈l,0<=x.frm/\x.frm<=100000):
  az Tryz.prog N.cU #[v,.func (.func N.bS) #[] #[]] h (fun _ h'=>∃l',l'.Perm l/\jz l'/\Owns W h' (o.upd k (it T.bI v l'))):=by
 refine aq (args:=[v,.func (.func N.bS) #[] #[]]) follows F.cU E.cU (LD (by kernel_rfl)) fun Kc hK=>?_;dsimp only[L.cU];have s:=w.now hk;refine aa fun z hz=>?_;simp[s.len];subst hz;have ew:IntKind.u64.wrap (l.length:Int)=l.length:=by rw[IntKind.wrap_u64];omega
 simp[ew];refine aj (by kernel_rfl) (Jc (by omega)) ?_;rintro _ h2 ⟨⟨i,rfl⟩,rfl⟩;refine aj (by kernel_rfl) (Jr k w hk hl hr) ?_;rintro _ h3 hx;exact hK _ _ hx
def putE (E:List (Int × Int)) (n:Nat) (a b:Int):Option Int:=if(a,b)∈E then some ((n:Int)+E.idxOf (a,b)) else none
theorem v8{a b:Int}:putE [] n a b=none:=by simp[putE]
theorem sv{E:List (Int × Int)}{x:Int × Int}(hx:x∉E)(a b:Int):putE (E++[x]) n a b=if a=x.1/\b=x.2 then some ((n:Int)+E.length) else putE E n a b:=by
 have he:a=x.1/\b=x.2↔(a,b)=x:=by cases x;simp
 unfold putE;by_cases h:(a,b)=x
 ·rw[if_pos (he.2 h),h,if_pos (by simp),Oq,if_neg hx];simp
 rw[if_neg (fun e=>h (he.1 e))];by_cases h2:(a,b)∈E
 ·rw[if_pos (by simp[h2]),if_pos h2,Oq,if_pos h2]
 rw[if_neg (by simp[h2,h]),if_neg h2]
theorem jt{E:List (Int × Int)}{a b x:Int}(h:putE E n a b=some x):(n:Int)<=x/\x<n+E.length/\(a,b)∈E:=by
 unfold putE at h;split at h
 ·rename_i hm;have:=NF.2 hm;cases h;exact⟨by omega,by omega,hm⟩
 cases h
def toE (E:List (Int × Int)) (n:Nat) (a t:Int):Int:=(putE E n a t).getD t
def frmE (E:List (Int × Int)) (n:Nat) (b:Int) (x:InD):InD:=⟨(putE E n x.frm b).getD x.frm,x.val⟩
def srt (l:List InD):List InD:=l.mergeSort fun x y=>decide (x.frm<=y.frm)
theorem mR{l:List InD}:(srt l).Perm l:=List.mergeSort_perm _ _
theorem qt{l:List InD}:jz (srt l):=by have:=OW (le:=fun x y:InD=>decide (x.frm<=y.frm)) (fun a b c h1 h2=>by simp at *;omega) (fun a b=>by simp;omega) l;exact this.imp fun h=>by simpa using h
theorem uF{l l':List InD}(hp:l'.Perm l)(hr:jz l')(hn:(l.map (·.frm)).Nodup):l'=srt l:=by refine OU (le:=fun x y:InD=>x.frm<=y.frm) (fun a b ha hb h1 h2=>?_) hr qt (hp.trans mR.symm);have ha:=hp.subset ha;have hb:=mR.subset hb;obtain⟨i,hi,rfl⟩:=LQ ha;obtain⟨j,hj,rfl⟩:=LQ hb;have:i=j:=(Ox (xs:=l.map (·.frm)) (h₀:=by simpa using hi) (h₁:=by simpa using hj) hn).1 (by simp;omega);subst this;rfl
def phE (E:List (Int × Int)) (n:Nat) (a:Int) (p:PhiD):PhiD:=⟨p.dst,srt (p.ins.map (frmE E n a))⟩
def tmE (E:List (Int × Int)) (n:Nat) (a:Int) (t:da):da:={ t with to:=t.to.map (toE E n a) }
def blE (E:List (Int × Int)) (n:Nat) (a:Int) (d:BlkD):BlkD:=⟨d.phis.map (phE E n a),d.ins,tmE E n a d.term⟩
def eK (b:Int):BlkD:=⟨[],[],⟨1,[],[b],⟨0⟩⟩⟩
def onE (E:List (Int × Int)) (f:an):an:=⟨f.params,rows (fun a=>blE E f.blocks.length a (nth f.blocks a)) f.blocks.length++E.map fun e=>eK e.2⟩
def gD (f:an):List (Int × Int):=ji (ofG f.blocks)
def lO (f:an):an:=onE (gD f) f
def Cr (f:an):Prop:=∀b,b<f.blocks.length->∀i,i<(nth f.blocks b).phis.length->(nth (nth f.blocks b).phis i).ins.length<=12/\((nth (nth f.blocks b).phis i).ins.map (·.frm)).Nodup/\∀x∈(nth (nth f.blocks b).phis i).ins,0<=x.frm/\x.frm<f.blocks.length
theorem qz{E:List (Int × Int)}{b:Int}{l:List InD}(h1:(l.map (·.frm)).Nodup)(h2 : ∀x∈l,0<=x.frm/\x.frm<n):((l.map (frmE E n b)).map (·.frm)).Nodup:=by
 rw[N4];rw[List.Nodup,NT]at h1 ⊢;refine List.Pairwise.imp_of_mem (fun{x y} hx hy h e=>h ?_) h1;simp only[Function.comp,frmE]at e;have gx:=h2 x hx;have gy:=h2 y hy;cases px:putE E n x.frm b with
 | none=>
  cases py:putE E n y.frm b with
  | none=>rw[px,py]at e;exact e
  | some q=>rw[px,py]at e;have:=jt py;simp only[Nd,Nf]at e;omega
 | some p=>
  cases py:putE E n y.frm b with
  | none=>rw[px,py]at e;have:=jt px;simp only[Nd,Nf]at e;omega
  | some q=>
   rw[px,py]at e;simp only[Nf]at e;subst e;unfold putE at px py;split at px
   ·rename_i m1;split at py
    ·rename_i m2;have l1:=NF.2 m1;have l2:=NF.2 m2;have e2:E.idxOf (x.frm,b)=E.idxOf (y.frm,b):=by have a1:=Option.some.inj px;have a2:=Option.some.inj py;omega
     have q1:=NO l1;have q2:=NO l2;have:(x.frm,b)=(y.frm,b):=by rw[<-q1,<-q2];congr 1
     exact(Prod.mk.inj this).1
    cases py
   cases px
theorem tw:Tw Tryz.prog T.lM T.int:=⟨U.lM,U.int,by kernel_rfl⟩
section
variable {H:View} {a b c:Value}
@[simp] theorem Lw:Un.ev H (.ext 0) (.tuple #[a,b])=some a:=rfl
@[simp] theorem Lv:Un.ev H (.ext 1) (.tuple #[a,b])=some b:=rfl
@[simp] theorem Lx:Un.ev H (.ext 0) (.tuple #[a,b,c])=some a:=rfl
@[simp] theorem LA:Un.ev H (.ext 1) (.tuple #[a,b,c])=some b:=rfl
@[simp] theorem Lz:Un.ev H (.ext 2) (.tuple #[a,b,c])=some c:=rfl
end
section
variable {W:View} {h:Heap} {K:Nat} {ob:Own} {vb:Value} {V:Nat->Bv} {f:an} {b:Nat} {d:BlkD}
theorem Wt.FH(w:Wt W h K ob vb V (bj f b d))(hb:b<f.blocks.length):ao (vw h) (((slA vb).add (b*6)).add 0)=some (V b).p/\ao (vw h) ((((slA vb).add (b*6)).add 2).add 2)=some (V b).t:=by
 obtain⟨o,w,g,r⟩:=w.ex;have hl:b<(rows (fun c=>bkO (V c) (nth (bj f b d).blocks c)) (bj f b d).blocks.length).length:=by simpa[ku]using hb
 have a:=(w.now g.blk).at hl;rw[dV hl]at a;exact⟨(a.part BkO.km).raw,((a.part BkO.kz).part TmO.tY).raw⟩
end
theorem Gb[Inhabited α]{l m:List α}{i:Nat}(h:i<l.length):nth (l++m) i=nth l i:=by rw[ak (show i<(l++m).length by rw[LH];omega),ak h,Nv h]
theorem qL{d:BlkD}{i:Nat}{p q:PhiD}:cJ (cJ d i p) i q=cJ d i q:=by unfold cJ;dsimp only;rw[OH]
theorem Wt.phLd{h:Heap}{K:Nat}{ob:Own}{vb:Value}{V:Nat->Bv}{f:an}{i:Nat}{d:BlkD}(w:Wt W h K ob vb V (bj f b d))(hb:b<f.blocks.length)(hi:i<d.phis.length):
  Un.ev (vw h) (.al 2) (.pointer (some ((slA (V b).p).add (i*2))))=some (.agg #[.int .i64 (nth d.phis i).dst,(V b).pin i])/\((V b).pin i).oneCell'=true/\I64 (nth d.phis i).dst:=by
 obtain⟨o,w,g,r⟩:=w.ex;have hl:i<(rows (phO (V b) d) d.phis.length).length:=by simpa using hi
 obtain⟨u,hu,hr⟩:=Owns.ldW w (g.cur hb).phis rfl (N:=2) rfl hl;rw[dV hl]at hr;obtain⟨cs,rfl,c1,r1,e1,⟨q1,o1⟩,q2,o2⟩:=hr;have q1:c1=[.int .i64 (nth d.phis i).dst]:=q1;have q2:r1=[(V b).pin i]:=q2;have he:cs.toList = #[Value.int .i64 (nth d.phis i).dst,(V b).pin i].toList:=by rw[e1,q1,q2];rfl
 exact⟨by rw[hu,LZ.1 he],o2,o1⟩
def spTo (ed:List (Int × Int)) (f:an) (k:Nat):an:=⟨f.params,rows (fun a=>if a<k then blE ed f.blocks.length a (nth f.blocks a) else nth f.blocks a) f.blocks.length++ed.map fun e=>eK e.2⟩
section
variable {ed:List (Int × Int)} {f:an} {k:Nat}
theorem A8:(spTo ed f k).blocks.length=f.blocks.length+ed.length:=by simp[spTo]
theorem EF(hk:k<f.blocks.length):bj (spTo ed f k) k (nth f.blocks k)=spTo ed f k:=by
 have:nth (spTo ed f k).blocks k=nth f.blocks k:=by unfold spTo;dsimp only;rw[Gb (by simpa using hk),eQ hk,if_neg (OA _)]
 rw[<-this];exact Bc (by rw[A8];omega)
theorem DM(hk:k<f.blocks.length):bj (spTo ed f k) k (blE ed f.blocks.length k (nth f.blocks k))=spTo ed f (k+1):=by
 unfold bj spTo;dsimp only;rw[List.set_append_left _ _ (by simpa using hk),lS (y:=fun a=>if a<k+1 then blE ed f.blocks.length a (nth f.blocks a) else nth f.blocks a) hk (by rw[if_pos (Oy k)])];intro j hj hne;by_cases h:j<k
 ·rw[if_pos h,if_pos (by omega)]
 rw[if_neg h,if_neg (by omega)]
theorem D2:spTo ed f 0=⟨f.params,f.blocks++ed.map fun e=>eK e.2⟩:=by unfold spTo;congr 2;refine MJ (by simp) fun i h1 h2=>?_;rw[dV,if_neg (MC _),ak h2]
theorem FM:spTo ed f f.blocks.length=onE ed f:=by unfold spTo onE;congr 2;refine MJ (by simp) fun i h1 h2=>?_;rw[dV,dV,if_pos (by simpa using h1)]
end
def d4 (ed:List (Int × Int)) (n:Nat) (a:Int) (x:BlkD) (i:Nat):BlkD:=gO x (dq (toE ed n a) x.term.to i)
def d5 (ed:List (Int × Int)) (n:Nat) (a:Int) (x:BlkD) (i:Nat):BlkD:=⟨dq (phE ed n a) x.phis i,x.ins,tmE ed n a x.term⟩
section
variable {ed:List (Int × Int)} {n:Nat} {a:Int} {x:BlkD} {i:Nat}
theorem Hk:d4 ed n a x 0=x:=by unfold d4;rw[jC];rfl
theorem I9:d4 ed n a x x.term.to.length=d5 ed n a x 0:=by unfold d4 d5;rw[kf,jC];rfl
theorem Jg:d5 ed n a x x.phis.length=blE ed n a x:=by unfold d5 blE;rw[kf]
end
section
variable {H:View}
theorem F6(K:Nat){f:an}{ed:List (Int × Int)}{ob:Own}{vb:Value}{V:Nat->Bv}{h:Heap}{B R D r:Nat}{es:Array MapEntry}{ck:Nat}{Q:Post}{ρ:Env}(sm:SmF f)(hin:Cr f)(hlen:f.blocks.length+ed.length<=512)(cb : ∃v,ao W ⟨B,1,none⟩=some v/\SlRd W v f.blocks)(hD:ob (K+10,0)=bx T.ar D (RawN.mk (n:=1) [.int .i64 f.params,vb]))(hX:ob (K+11,2)=none)(hr:W r=some (.map es ck))(m0:Map2 h r fun a b=>(putE ed f.blocks.length a b).map (.int .i64))(t0:Wt W h K ob vb V (spTo ed f 0))(hρ:aZ [1,2,11,12,98,99] ρ=[(1,.pointer (some ⟨B,0,none⟩)),(2,.pointer (some ⟨R,0,none⟩)),(11,.pointer (some ⟨D,0,none⟩)),(12,.map (some r)),(98,.int .i64 f.blocks.length),(99,.int .i64 0)])(done : ∀h',Wt W h' K ob vb V (onE ed f)->Q .normal [(1,.pointer (some ⟨B,0,none⟩)),(2,.pointer (some ⟨R,0,none⟩)),(11,.pointer (some ⟨D,0,none⟩)),(12,.map (some r)),(98,.int .i64 f.blocks.length),(99,.int .i64 f.blocks.length)] h'):
  LC.wp Tryz.prog (.loop L.bQ.l3) (dJ 4 Q) ρ h:=by
 have mp : ∀{h':Heap},W.le (vw h')->Map2 h' r fun a b=>(putE ed f.blocks.length a b).map (.int .i64):=fun{h'} hle=>m0.same (by have e1:h'[r]? = some (.map es ck):=hle r _ hr;have e2:h[r]? = some (.map es ck):=t0.wle r _ hr;rw[e1,e2]);have hl:=sm.len
 refine a6 [1,2,11,12,98,99] (fun(_:Unit) k=>[.pointer (some ⟨B,0,none⟩),.pointer (some ⟨R,0,none⟩),.pointer (some ⟨D,0,none⟩),.map (some r),.int .i64 f.blocks.length,.int .i64 k])
  (fun _ k h1=>Wt W h1 K ob vb V (spTo ed f k)) f.blocks.length ()
  rfl (by omega) hρ t0 (fun _ _=>rfl) (fun _ k h2 hk _=>by simp) ?_ ?_
 ·rintro _ k h1 hk t1 K2 hK2;have hb:k<(spTo ed f k).blocks.length:=by rw[A8];omega
  rw[<-EF hk]at t1;have hsb:=sm.blk k hk;have hik:=hin k hk;generalize hx:nth f.blocks k=x at t1 hsb hik;have c1:ao (vw h1) ⟨D,1,none⟩=some vb:=t1.raw (k:=(K+10,0)) (by simp) hD (i:=1) (by decide);have sB:=t1.blks;have hkl:k<(bj (spTo ed f k) k x).blocks.length:=by rw[ku];exact hb
  obtain⟨cp,ct⟩:=t1.FH hb;refine aa fun y hy=>?_;simp;subst hy;refine aa fun y hy=>?_;simp(disch:=omega)[c1,sB.idxn (N:=6) rfl];subst hy;refine aa fun y hy=>?_;have t1:Wt W h1 K ob vb V (bj (spTo ed f k) k (d4 ed f.blocks.length k x 0)):=by rw[Hk];exact t1
  have hto:=hsb.to;have hl0:(d4 ed f.blocks.length k x 0).term.to.length=x.term.to.length:=iB;simp[ct,(t1.to hb).len,hl0];refine a6 [1,2,11,12,15,16,98,99,110,111,112] (fun(_:Unit) i=>[.pointer (some ⟨B,0,none⟩),.pointer (some ⟨R,0,none⟩),.pointer (some ⟨D,0,none⟩),.map (some r),.int .i64 k,.pointer (some ((slA vb).add (k*6))),.int .i64 f.blocks.length,.int .i64 k,(V k).t,.int .i64 x.term.to.length,.int .i64 i])
   (fun _ i h2=>Wt W h2 K ob vb V (bj (spTo ed f k) k (d4 ed f.blocks.length k x i))) x.term.to.length ()
   rfl (by omega) rfl t1 (fun _ _=>rfl) (fun _ i h2 hk _=>by simp) ?_ ?_
  ·rintro _ i h2 hi t2 K3 hK3;have hi2:i<(d4 ed f.blocks.length k x i).term.to.length:=by show i<(dq _ _ _).length;rw[iB];exact hi
   obtain⟨g1,g2,g3⟩:=t2.ixT hb hi2;have e2:nth (d4 ed f.blocks.length k x i).term.to i=nth x.term.to i:=iC hi;rw[e2]at g2 g3;refine aa fun y2 hy2=>?_;simp[g1,g2];rw[hy2];clear hy2 y2;refine aa fun y2 hy2=>?_;simp;refine aE (z:=.agg #[.int .i64 0,.int .i64 0]) (places:=[(0,1),(1,1)]) (vs:=[(0,.int .i64 k),(1,.int .i64 (nth x.term.to i))]) (cs:=#[.int .i64 k,.int .i64 (nth x.term.to i)]) (by kernel_rfl) (by kernel_rfl) (by simp) rfl ?_;refine Az (a:=k) (b:=nth x.term.to i) (z:=.int .i64 0) tw U.lf (by kernel_rfl) rfl rfl (mp t2.wle) ?_;have hset:(d4 ed f.blocks.length k x i).term.to.set i (toE ed f.blocks.length k (nth x.term.to i))=(d4 ed f.blocks.length k x (i+1)).term.to:=jB hi
   cases hp:putE ed f.blocks.length k (nth x.term.to i)with
   | none=>
    simp;rw[hy2];clear hy2 y2;simp;refine hK3 () _ _ rfl rfl ?_;have e3:toE ed f.blocks.length k (nth x.term.to i)=nth x.term.to i:=by unfold toE;rw[hp];rfl
    have e4:d4 ed f.blocks.length k x (i+1)=d4 ed f.blocks.length k x i:=by
     have:(d4 ed f.blocks.length k x (i+1)).term.to=(d4 ed f.blocks.length k x i).term.to:=by rw[<-hset,e3,<-e2,ak hi2,MT]
     unfold d4 gO at this ⊢;dsimp only at this;rw[this]
    rw[e4];exact t2
   | some q=>
    simp;rw[hy2];clear hy2 y2;have ct2:=(t2.FH hb).2;simp[ct2,g1];have hq:=jt hp;refine t2.tt hb hi2 (by kernel_rfl) rfl rfl (v:=q) (by constructor<;>omega) fun h3 t3=>?_;refine hK3 () _ _ rfl rfl ?_;have e3:toE ed f.blocks.length k (nth x.term.to i)=q:=by unfold toE;rw[hp];rfl
    rw[e3]at hset;rw[hset]at t3;exact t3
  rintro _ h2 t2;rw[I9]at t2;rw[bT,hy];clear hy y;have cp2:=(t2.FH hb).1;have hph:=hsb.phis;have hl5 : ∀i,(d5 ed f.blocks.length k x i).phis.length=x.phis.length:=fun i=>iB;have s2:=t2.phN hb
  have sl2:Un.ev (vw h2) .len (V k).p=some (.int .i64 x.phis.length):=by have:=s2.len (K:=vw h2);simpa[hl5]using this
  refine aa fun y hy=>?_;simp[cp2,sl2];subst hy;refine a6 [1,2,11,12,15,98,99,138,139,140] (fun(_:Unit) i=>[.pointer (some ⟨B,0,none⟩),.pointer (some ⟨R,0,none⟩),.pointer (some ⟨D,0,none⟩),.map (some r),.int .i64 k,.int .i64 f.blocks.length,.int .i64 k,(V k).p,.int .i64 x.phis.length,.int .i64 i])
   (fun _ i h2=>Wt W h2 K ob vb V (bj (spTo ed f k) k (d5 ed f.blocks.length k x i))) x.phis.length ()
   rfl (by omega) rfl t2 (fun _ _=>rfl) (fun _ i h2 hk _=>by simp) ?_ ?_
  ·rintro _ i h3 hi t3 K3 hK3;have hi3:i<(d5 ed f.blocks.length k x i).phis.length:=by rw[hl5];exact hi
   have ix:=t3.ixP hb hi3;have e3:nth (d5 ed f.blocks.length k x i).phis i=nth x.phis i:=iC hi;have lds:=t3.phLd hb hi3;rw[e3]at lds;refine aa fun y2 hy2=>?_;simp[ix,lds.1];obtain⟨o3,w3,g3,r3⟩:=t3.ex;refine w3.mI (k:=(K+11,2)) (n:=1) (l:=[.int .i64 (nth x.phis i).dst,(V k).pin i]) ((r3 _ (by simp)).trans hX) (z:=.agg #[.int .i64 0,.slice none 0 0]) (by kernel_rfl) rfl (by kernel_rfl) rfl (by decide) (gV lds.2.1) (fun _=>by simp) (fun _=>by simp) fun h4 q4 w4=>?_;generalize h3.size=X at w4;obtain⟨oc,hoc⟩ : ∃oc,oc=ob.upd (K+11,2) (bx T.cE X (RawN.mk (n:=1) [.int .i64 (nth x.phis i).dst,(V k).pin i])):=⟨_,rfl⟩;have kX:oc (K+11,2)=bx T.cE X (RawN.mk (n:=1) [.int .i64 (nth x.phis i).dst,(V k).pin i]):=by rw[hoc,Own.af]
   have es5:cJ (d5 ed f.blocks.length k x i) i ⟨(nth x.phis i).dst,dq (frmE ed f.blocks.length k) (nth x.phis i).ins 0⟩=d5 ed f.blocks.length k x i:=by
    rw[jC];have:(⟨(nth x.phis i).dst,(nth x.phis i).ins⟩:PhiD)=nth (d5 ed f.blocks.length k x i).phis i:=by rw[e3]
    rw[this];unfold cJ;rw[ak hi3,MT]
   have t4:Wt W h4 K oc vb V (bj (spTo ed f k) k (cJ (d5 ed f.blocks.length k x i) i ⟨(nth x.phis i).dst,dq (frmE ed f.blocks.length k) (nth x.phis i).ins 0⟩)):=by
    rw[es5];refine⟨_,w4,g3.upd (by simp),fun q hq=>?_⟩;rw[hoc];unfold Own.upd;split
    ·rfl
    exact r3 q hq
   have hs8 : ∀l:List InD,nth (cJ (d5 ed f.blocks.length k x i) i ⟨(nth x.phis i).dst,l⟩).phis i=⟨(nth x.phis i).dst,l⟩:=fun l=>by unfold cJ;dsimp only;rw[aF hi3,if_pos rfl]
   have hn8 : ∀l:List InD,i<(cJ (d5 ed f.blocks.length k x i) i ⟨(nth x.phis i).dst,l⟩).phis.length:=fun l=>by show i<(List.set _ _ _).length;rw[LN];exact hi3
   have cX : ∀{h':Heap} {d:BlkD},Wt W h' K oc vb V (bj (spTo ed f k) k d)->ao (vw h') ⟨X,1,none⟩=some ((V k).pin i):=fun t=>t.raw (k:=(K+11,2)) (by simp) kX (i:=1) (by decide);obtain⟨i12,ind,irg⟩:=hik i hi;clear w3 g3 r3 w4 t3;rw[hy2];clear hy2 y2;refine aa fun y2 hy2=>?_;have s4:=(t4.pin hb (hn8 _)).len (K:=vw h4)
   rw[hs8]at s4;have hl4:(dq (frmE ed f.blocks.length k) (nth x.phis i).ins 0).length=(nth x.phis i).ins.length:=iB;simp[cX t4,s4,hl4];refine a6 [1,2,11,12,15,22,98,99,138,139,140,146,147] (fun(_:Unit) j=>[.pointer (some ⟨B,0,none⟩),.pointer (some ⟨R,0,none⟩),.pointer (some ⟨D,0,none⟩),.map (some r),.int .i64 k,.pointer (some ⟨X,0,none⟩),.int .i64 f.blocks.length,.int .i64 k,(V k).p,.int .i64 x.phis.length,.int .i64 i,.int .i64 (nth x.phis i).ins.length,.int .i64 j])
    (fun _ j h5=>Wt W h5 K oc vb V (bj (spTo ed f k) k (cJ (d5 ed f.blocks.length k x i) i ⟨(nth x.phis i).dst,dq (frmE ed f.blocks.length k) (nth x.phis i).ins j⟩))) (nth x.phis i).ins.length ()
    rfl (by omega) rfl t4 (fun _ _=>rfl) (fun _ j h5 hk _=>by simp) ?_ ?_
   ·rintro _ j h5 hj t5 K4 hK4;have hj5:j<(nth (cJ (d5 ed f.blocks.length k x i) i ⟨(nth x.phis i).dst,dq (frmE ed f.blocks.length k) (nth x.phis i).ins j⟩).phis i).ins.length:=by rw[hs8];show j<(dq _ _ _).length;rw[iB];exact hj
    obtain⟨g1,g2,g3,g4,g5⟩:=t5.ixN hb (hn8 _) hj5;have ej:nth (nth (cJ (d5 ed f.blocks.length k x i) i ⟨(nth x.phis i).dst,dq (frmE ed f.blocks.length k) (nth x.phis i).ins j⟩).phis i).ins j=nth (nth x.phis i).ins j:=by rw[hs8];exact iC hj
    rw[ej]at g2 g3 g4 g5;have hset:(dq (frmE ed f.blocks.length k) (nth x.phis i).ins j).set j (frmE ed f.blocks.length k (nth (nth x.phis i).ins j))=dq (frmE ed f.blocks.length k) (nth x.phis i).ins (j+1):=jB hj;refine aa fun y3 hy3=>?_;simp;rw[hy3];clear hy3 y3;refine aa fun y3 hy3=>?_;simp[cX t5,g1,g2];refine aE (z:=.agg #[.int .i64 0,.int .i64 0]) (places:=[(0,1),(1,1)]) (vs:=[(0,.int .i64 (nth (nth x.phis i).ins j).frm),(1,.int .i64 k)]) (cs:=#[.int .i64 (nth (nth x.phis i).ins j).frm,.int .i64 k]) (by kernel_rfl) (by kernel_rfl) (by simp) rfl ?_;refine Az (a:=(nth (nth x.phis i).ins j).frm) (b:=k) (z:=.int .i64 0) tw U.lf (by kernel_rfl) rfl rfl (mp t5.wle) ?_;cases hp:putE ed f.blocks.length (nth (nth x.phis i).ins j).frm k with
    | none=>
     simp;rw[hy3];clear hy3 y3;simp;refine hK4 () _ _ rfl rfl ?_;have e6:frmE ed f.blocks.length k (nth (nth x.phis i).ins j)=nth (nth x.phis i).ins j:=by unfold frmE;rw[hp];rfl
     have e7:dq (frmE ed f.blocks.length k) (nth x.phis i).ins (j+1)=dq (frmE ed f.blocks.length k) (nth x.phis i).ins j:=by
      rw[<-hset,e6];have hjm:j<(dq (frmE ed f.blocks.length k) (nth x.phis i).ins j).length:=by rw[iB];exact hj
      have e8:nth (nth x.phis i).ins j=nth (dq (frmE ed f.blocks.length k) (nth x.phis i).ins j) j:=(iC hj).symm;rw[e8,ak hjm,MT]
     rw[e7];exact t5
    | some q=>
     simp;rw[hy3];clear hy3 y3;simp[cX t5,g1];have hq:=jt hp;refine t5.pf hb (hn8 _) hj5 (by kernel_rfl) rfl rfl (v:=q) (by constructor<;>omega) fun h6 t6=>?_;refine hK4 () _ _ rfl rfl ?_;have e6:frmE ed f.blocks.length k (nth (nth x.phis i).ins j)=⟨q,(nth (nth x.phis i).ins j).val⟩:=by unfold frmE;rw[hp];rfl
     rw[e6]at hset;rw[ej,qL,hs8]at t6;rw[<-hset];exact t6
   rintro _ h5 t5;rw[kf]at t5;rw[bT,hy2];clear hy2 y2;simp[cX t5];obtain⟨o5,w5,g5,r5⟩:=t5.ex;have hpin:=(g5.cur hb).pin i (hn8 _);rw[hs8]at hpin;refine aj (by kernel_rfl) (zy (K+5,pr k i) w5 hpin (by rw[L6];exact i12) (fun z hz=>by
    obtain⟨z0,hz0,rfl⟩:=MR.1 hz;have h1:=irg z0 hz0;unfold frmE;dsimp only;cases hp:putE ed f.blocks.length z0.frm k with
    | none=>simp only[Nd];omega
    | some q=>have:=jt hp;simp only[Nf];omega)) ?_;rintro _ h6 ⟨l',hperm,hris,w6⟩;have hl':=uF hperm hris (qz ind irg);subst hl';have bo5:=(g5.cur hb).IE (o':=o5.upd (K+5,pr k i) (it T.bI ((V k).pin i) (srt ((nth x.phis i).ins.map (frmE ed f.blocks.length k))))) (l:=srt ((nth x.phis i).ins.map (frmE ed f.blocks.length k))) (hn8 _) fun _=>rfl;rw[hs8,qL]at bo5;have t6:=Wt.wr (d':=cJ (d5 ed f.blocks.length k x i) i (phE ed f.blocks.length k (nth x.phis i))) g5 r5 hb w6 ofB5 rfl bo5
   rw[hoc]at t6;refine hK3 () _ _ rfl rfl ?_;have e9:cJ (d5 ed f.blocks.length k x i) i (phE ed f.blocks.length k (nth x.phis i))=d5 ed f.blocks.length k x (i+1):=by unfold cJ d5;rw[<-jB hi]
   rw[<-e9];exact t6.drop hX (by simp)
  rintro _ h3 t3;rw[Jg,<-hx,DM hk]at t3;exact hK2 () _ _ rfl rfl t3
 rintro _ h1 t1;rw[FM]at t1;exact done h1 t1
end
def cntT (f:an):Nat->Nat
 | 0=>0
 | k+1=>cntT f k+((nth f.blocks k).phis.length+(nth f.blocks k).ins.length+1)
theorem uh {f:an} (sm:SmF f) : ∀k,k<=f.blocks.length->cntT f k<=2000001*k
 | 0,_=>by simp[cntT]
 | k+1,hk=>by have h1:=uh sm k (by omega);have h2:=(sm.blk k (by omega)).phis;have h3:=(sm.blk k (by omega)).ins;unfold cntT;omega
def my (f:an):Bool:=decide (512<f.blocks.length+(gD f).length)||decide (4096<(gD f).length+cntT f f.blocks.length)
def ek (f:an):Int:=if(ir f).1≠0 then(ir f).1 else if my f then 2 else 0
theorem Owns.H4{po:OP}{P:Program}{h:Heap}{o:Own}{k:Key}{t e ty:TypeId}{us:List (Nat × Value)}{x:Operand}{d:Int}{K:Value->Heap->Prop}(w:Owns W h o)(hk:o k=none)(hT:ff P t e 1 8 (.int .i64 0))(hx:asg us x = .int .i64 d)(hd:I64 d)(hK : ∀u h',(vw h).le (vw h')->Owns W h' (o.upd k (it e u [d]))->u.oneCell'=true->K u h'):@Lft.step po P (.buildSlice t 1 #[(0,x)]) ty us h K:=by
 refine pB (vs:=[(0,.int .i64 d)]) (cs:=#[.int .i64 d]) hT (by omega) (by simp[hx]) (by
  have e1:Array.map (fun x=>(Value.int .i64 0).cells[x % (Value.int .i64 0).cells.size]!) (Array.range (1*1)) = #[.int .i64 0]:=by simp[Array.range,Value.cells];rfl
  rw[e1];rfl) ?_;have hle:=bm h (.cells #[.int .i64 d] e);have hb:(h.push (.cells #[.int .i64 d] e))[h.size]? = some (.cells #[.int .i64 d] e (0,0)):=by simp
 generalize h.push (.cells #[.int .i64 d] e)=h1 at hle hb;exact hK _ _ hle (w.add hk (iq (W:=W) (v:=.int .i64 d) (d:=d) hb (dr.2 ⟨rfl,hd⟩) (by decide)) hle fun b hb=>by simp only[Value.ownBlock,LF]at hb;omega) rfl
theorem za[Inhabited α]{l:List α}{k:Nat}(h:l.Nodup)(hk:k<l.length):nth l k∉l.take k:=by intro hm;obtain⟨i,hi,e⟩:=LQ hm;rw[Ol,ak hk]at e;have:=(Ox h).1 e;simp at hi;omega
theorem yV{sz:Nat}{a:Addr}{k:IntKind}{i:Int}(h0:0<=i)(h1:i<n):Bn.ev (.aidx n sz) (.pointer (some a)) (.int k i)=some (.pointer (some (a.add (i.toNat*sz)))):=by simp[Bn.ev,vP,vI,h0,h1]
structure PutI (K:Nat) (f:an) (ed:List (Int × Int)) (S:View) (r D:Nat) (ob:Own) (k:Nat) (h:Heap) (W:View) (o:Own) (vb:Value) (V:Nat->Bv):Prop where
 le:S.le W
 row : ∃es c,W r=some (.map es c)
 w:Owns W h o
 fno:FnO K o vb V ⟨f.params,f.blocks++(ed.take k).map fun e=>eK e.2⟩
 box:o (K+10,0)=bx T.ar D (RawN.mk (n:=1) [.int .i64 f.params,vb])
 fr : ∀q:Key,(q.1<K\/K+6<q.1)->q≠(K+10,0)->o q=ob q
 free : ∀b,f.blocks.length+k<=b->∀q,OfB K b q->o q=none
 map:Map2 h r fun a b=>(putE (ed.take k) f.blocks.length a b).map (.int .i64)
theorem rh(K:Nat){f:an}{v:Value}{h:Heap}{o0:Own}(w0:Owns W h o0)(ho0 : ∀k:Key,K<=k.1->k.1<=K+13->o0 k=none)(hv:Rd W v f)(sm:SmF f)(hi:(ir f).1=0->Cr f):
    az Tryz.prog N.bQ #[v] h (fun u h'=>∃W',W.le W'/\
      ((ek f≠0/\u = .tuple #[.agg #[.int .i64 0,.slice none 0 0],.int .i64 (ek f)]/\Owns W' h' o0)\/
       (ek f=0/\∃o' vb V,u = .tuple #[.agg #[.int .i64 f.params,vb],.int .i64 0]/\I64 f.params/\Owns W' h' o'/\FnO K o' vb V (lO f)/\∀k:Key,(k.1<K\/K+6<k.1)->o' k=o0 k))):=by
  refine aq (args:=[v]) follows F.bQ E.bQ (LD (by kernel_rfl)) fun Kc hK=>?_
  dsimp only[L.bQ]
  refine aa fun z hz=>?_
  simp
  refine Owns.ru w0 (d:=f) rfl hv fun B h1 W1 hW1 w1 hat hle1=>?_
  obtain⟨cp,vb0,cb0⟩:=fM hat
  obtain⟨uf,huf,rf⟩:=hat.al rfl
  have huf:Un.ev W1 (.al 2) (.pointer (some ⟨B,0,none⟩))=some uf:=huf
  have hufm : ∀{H:View},W1.le H->Un.ev H (.al 2) (.pointer (some ⟨B,0,none⟩))=some uf:=fun hH=>by
    have:=cV (ρ:=fun _=>none) (e:=.un (.al 2) (.con (.pointer (some ⟨B,0,none⟩)))) hH (by simpa using huf)
    simpa using this
  refine w1.kF (k:=(K+10,1)) (n:=1) (z:=.agg #[.int .i64 0,.slice none 0 0]) (ho0 _ (by simp) (by simp)) (by kernel_rfl) rfl (by decide) (by simp[Value.cells,Value.oneCell']) fun h2 q2 w2=>?_
  generalize h1.size=R at w2
  subst hz
  refine aa fun z hz=>?_
  simp[hufm w2.wle]
  refine aj (by kernel_rfl) (Hm (rf.mono w2.wle) sm) ?_
  rintro _ h3 ⟨rfl,hle3⟩
  have w3:Owns W1 h3 (o0.upd (K+10,1) (bx T.ar R (RawN.mk (n:=1) [.int .i64 0,.slice none 0 0]))):=w2.ext' hle3
  have hw1 : ∀k:Key,k≠(K+10,1)->(o0.upd (K+10,1) (bx T.ar R (RawN.mk (n:=1) [.int .i64 0,.slice none 0 0]))) k=o0 k:=fun k hk=>Own.ab hk
  simp
  subst hz
  refine aa fun z hz=>?_
  obtain⟨e,he⟩ : ∃e,e=(ir f).1:=⟨_,rfl⟩
  have kR:(o0.upd (K+10,1) (bx T.ar R (RawN.mk (n:=1) [.int .i64 0,.slice none 0 0]))) (K+10,1)=bx T.ar R (RawN.mk (n:=1) [.int .i64 0,.slice none 0 0]):=Own.af
  generalize o0.upd (K+10,1) (bx T.ar R (RawN.mk (n:=1) [.int .i64 0,.slice none 0 0]))=o1 at w3 hw1 kR
  simp[<-he]
  refine⟨fun e0=>?_,fun e0=>?_⟩
  rotate_left
  · refine aE (z:=.agg #[.int .i64 0,.slice none 0 0]) (places:=[(0,1),(1,1)]) (vs:=[]) (cs:=#[.int .i64 0,.slice none 0 0]) (by kernel_rfl) (by kernel_rfl) (by simp) (by rfl) ?_
    refine w3.ez (k:=(K+10,1)) (e:=T.ar) (B:=R) Part.all (d:=RawN.mk (n:=1) [.int .i64 0,.slice none 0 0]) kR (by kernel_rfl) rfl rfl (eP rfl (gV rfl)) fun h4 w4 _=>?_
    have c4:Un.ev (vw h4) (.al 2) (.pointer (some ⟨R,0,none⟩))=some (.agg #[.int .i64 0,.slice none 0 0]):=w4.dI (k:=(K+10,1)) (n:=1) Own.af
    simp[c4]
    have hs:ek f=e:=by unfold ek;rw[<-he,if_pos e0]
    refine hK _ _ ⟨W1,?_,.inl ⟨by rw[hs];exact e0,by rw[hs],w4.sub fun q i hq=>?_⟩⟩
    · exact hW1
    · have hne:q≠(K+10,1):=by rintro rfl;rw[ho0 _ (by simp) (by simp)]at hq;cases hq
      rw[Own.ab hne,hw1 q hne];exact hq
  · have rf3:=rf.mono w3.wle
    obtain⟨vb1,rfl,ip,sb1⟩:=v7 rf
    have hin:=hi (he.symm.trans e0)
    subst hz
    refine aa fun z hz=>?_
    simp[hufm w3.wle]
    refine aj (by kernel_rfl) (uM (sb1.mono w3.wle) (L9 sm.len (by decide)) fun i hi=>L9 (sm.blk i hi).to (by decide)) ?_
    rintro ug h4 ⟨hle4,sg4⟩
    have sm4:Sm (ofG f.blocks):=EI (L9 sm.len (by decide)) fun i hi=>L9 (sm.blk i hi).to (by decide)
    refine aj (by kernel_rfl) (Al (sg4.mono (iz _ _)) sm4) ?_
    rintro ue h5 ⟨hle5,se5⟩
    subst hz
    have se5:SlRd (fresh h4 h5) ue (gD f):=se5
    generalize hE:gD f=ed at se5
    refine aa fun z hz=>?_
    simp[se5.len]
    subst hz
    refine aa fun z hz=>?_
    have w5:=(w3.ext' hle4).ext hle5
    have hW5:W1.le (grow W1 h4 h5):=aH (View.le_trans w3.wle hle4)
    have eE:=se5.mono (eC W1 h4 h5)
    have sbm:=sb1.mono hW5
    have cp5:=ae hW5 cp
    have cb5:=ae hW5 cb0.1
    have sb5:=cb0.2.mono hW5
    have uf5 : ∀{H:View},(grow W1 h4 h5).le H->Un.ev H (.al 2) (.pointer (some ⟨B,0,none⟩))=some (.agg #[.int .i64 f.params,vb1]):=fun hH=>hufm (View.le_trans hW5 hH)
    obtain⟨W5,hW5e⟩ : ∃W5,W5=grow W1 h4 h5:=⟨_,rfl⟩
    rw[<-hW5e]at w5 hW5 eE sbm cp5 cb5 sb5 uf5
    clear hW5e
    have nX : ∀i,o1 (K+11,i)=none:=fun i=>(hw1 _ (by simp)).trans (ho0 _ (by simp) (by simp))
    have cl:=fun k hk=>uh sm k hk
    have hl:=sm.len
    have hEl:ed.length<=1000000000000:=by rw[<-hE];exact L9 (N8 _ _) (qm sm4)
    simp[ae w5.wle cb5,(sb5.mono w5.wle).len]
    refine a6 [1,2,7,8,42,43,44] (fun(_:Unit) k=>[.pointer (some ⟨B,0,none⟩),.pointer (some ⟨R,0,none⟩),ue,.int .i64 ((ed.length+cntT f k:Nat):Int),vb0,.int .i64 f.blocks.length,.int .i64 k]) (fun _ k h6=>Owns W5 h6 o1) f.blocks.length ()
      rfl (by omega) rfl w5 (fun _ _=>rfl) (fun _ k h2 hk _=>by simp) ?_ ?_
    · rintro _ k h6 hk w6 K2 hK2
      obtain⟨ux,hux,rux⟩:=sb5.wh rfl (N:=6) rfl hk
      have s6:=sb5.mono w6.wle
      refine aa fun y hy=>?_
      simp(disch:=omega)[s6.idxn (N:=6) rfl,hux _ w6.wle]
      refine w6.nI (k:=(K+11,0)) (α:=BlkD) (n:=6) (nX 0) rux rfl (z:=.agg #[.slice none 0 0,.slice none 0 0,.int .i64 0,.slice none 0 0,.slice none 0 0,.int .i32 0]) (by kernel_rfl) rfl (by kernel_rfl) (by decide) (fun _=>by simp) (fun _=>by simp) fun h7 q7 w7=>?_
      generalize h6.size=X at w7
      have hat7:=w7.at (k:=(K+11,0)) (d:=nth f.blocks k) (e:=T.ay) (B:=X) Own.af
      obtain⟨vp,vi,va,vt,gp,gi,_,_,_⟩:=ib hat7
      have hsb:=sm.blk k hk
      have b1:=hsb.phis
      have b2:=hsb.ins
      have b3:=cl k (by omega)
      subst hy
      simp[gp.1,gp.2.len,gi.1,gi.2.len]
      rw[bJ (a:=((nth f.blocks k).phis.length:Int)+(nth f.blocks k).ins.length) (by omega) (by omega),bJ (a:=((nth f.blocks k).phis.length:Int)+(nth f.blocks k).ins.length+1) (by omega) (by omega),bJ (by omega) (by omega)]
      refine hK2 () _ _ rfl ?_ (w7.sub fun q i hq=>?_)
      · have ec:((ed.length+cntT f (k+1):Nat):Int)=(ed.length:Int)+cntT f k+((nth f.blocks k).phis.length+(nth f.blocks k).ins.length+1):=by
          show((ed.length+(cntT f k+((nth f.blocks k).phis.length+(nth f.blocks k).ins.length+1)):Nat):Int)=_
          omega
        rw[ec]
        rfl
      · rw[Own.ab (by rintro rfl;rw[nX]at hq;cases hq)];exact hq
    · rintro _ h6 w6
      rw[bT,hz];clear hz z
      refine aa fun z hz=>?_
      simp[ae w6.wle cb5,(sb5.mono w6.wle).len,(eE.mono w6.wle).len]
      rw[bJ (by omega) (by omega)]
      obtain⟨mb,hmb⟩ : ∃mb,mb=(decide (512<(f.blocks.length:Int)+ed.length)||decide (4096<(ed.length:Int)+cntT f f.blocks.length)):=⟨_,rfl⟩
      have hmany:my f=mb:=by
        rw[hmb];unfold my;rw[hE]
        congr 1<;>exact decide_eq_decide.2 (by omega)
      rw[<-hmb]
      cases mb with
      | true=>
        simp
        refine aE (z:=.agg #[.int .i64 0,.slice none 0 0]) (places:=[(0,1),(1,1)]) (vs:=[]) (cs:=#[.int .i64 0,.slice none 0 0]) (by kernel_rfl) (by kernel_rfl) (by simp) (by rfl) ?_
        refine w6.ez (k:=(K+10,1)) (e:=T.ar) (B:=R) Part.all (d:=RawN.mk (n:=1) [.int .i64 0,.slice none 0 0]) kR (by kernel_rfl) rfl rfl (eP rfl (gV rfl)) fun h4 w4 _=>?_
        have c4:Un.ev (vw h4) (.al 2) (.pointer (some ⟨R,0,none⟩))=some (.agg #[.int .i64 0,.slice none 0 0]):=w4.dI (k:=(K+10,1)) (n:=1) Own.af
        simp[c4]
        have hs:ek f=2:=by unfold ek;rw[<-he,if_neg (by omega),hmany];rfl
        refine hK _ _ ⟨W5,?_,.inl ⟨by rw[hs];decide,by rw[hs],w4.sub fun q i hq=>?_⟩⟩
        · exact View.le_trans hW1 hW5
        · have hne:q≠(K+10,1):=by rintro rfl;rw[ho0 _ (by simp) (by simp)]at hq;cases hq
          rw[Own.ab hne,hw1 q hne];exact hq
      | false=>
        simp
        have hs0:ek f=0:=by unfold ek;rw[<-he,if_neg (by omega),hmany];rfl
        have l512:f.blocks.length+ed.length<=512:=by
          have:=MZ.1 hmb.symm
          have:=of_decide_eq_false this.1;omega
        have w6:Owns W5 h6 o1:=w6
        subst hz
        refine aa fun z hz=>?_
        simp[uf5 w6.wle]
        refine aj (by kernel_rfl) (JT K w6 (fun k h1 h2=>(hw1 k (by rintro rfl;simp at h2)).trans (ho0 k h1 (by omega))) (rf.mono hW5) sm) ?_
        rintro _ h7 ⟨o7,vb,V,rfl,_,w7,g7,fr7,free7⟩
        have o7n : ∀q:Key,K<=q.1->q.1<=K+13->(K+6<q.1)->q≠(K+10,1)->o7 q=none:=fun q h1 h2 h3 h4=>(fr7 q (.inr h3)).trans ((hw1 q h4).trans (ho0 q h1 h2))
        refine w7.mI (k:=(K+10,0)) (n:=1) (l:=[.int .i64 f.params,vb]) (o7n _ (by simp) (by simp) (by simp) (by simp)) (z:=.agg #[.int .i64 0,.slice none 0 0]) (by kernel_rfl) rfl (by kernel_rfl) rfl (by decide) (gV (w7.cells g7.blk).2) (fun _=>by simp) (fun _=>by simp) fun h8 q8 w8=>?_
        generalize h7.size=D at w8
        subst hz
        refine aa fun z hz=>?_
        simp
        refine qk ?_
        have q9:=bm h8 (.map #[] 0)
        have m9:Map2 (h8.push (.map #[] 0)) h8.size (fun _ _=>none):=Map2.none (by simp)
        have w9:=w8.ext q9
        have r9:grow W5 h8 (h8.push (.map #[] 0)) h8.size=some (.map #[] 0):=by rw[cM (LG _)];simp
        generalize h8.push (.map #[] 0)=h9 at q9 m9 w9 r9
        have hr5:W5 h8.size=none:=View.dH w8.wle (LG _)
        generalize h8.size=r at m9 r9 hr5
        have hW9:W5.le (grow W5 h8 h9):=aH w8.wle
        generalize grow W5 h8 h9=W9 at w9 r9 hW9
        subst hz
        refine aa fun z hz=>?_
        have eS:SlRd W5 ue ed:=eE
        have hnd:ed.Nodup:=by rw[<-hE];exact nS
        have w9:Owns W9 h9 (o7.upd (K+10,0) (bx T.ar D (RawN.mk (n:=1) [.int .i64 f.params,vb]))):=w9
        obtain⟨o8,ho8⟩ : ∃o8,o8=o7.upd (K+10,0) (bx T.ar D (RawN.mk (n:=1) [.int .i64 f.params,vb])):=⟨_,rfl⟩
        have kD:o8 (K+10,0)=bx T.ar D (RawN.mk (n:=1) [.int .i64 f.params,vb]):=by rw[ho8];exact Own.af
        have kX : ∀i,o8 (K+11,i)=none:=fun i=>by rw[ho8,Own.ab (by simp)];exact o7n _ (by simp) (by simp) (by simp) (by simp)
        have p0:PutI K f ed W5 r D o8 0 h9 W9 o8 vb V:=
          ⟨hW9,⟨_,_,r9⟩,by rw[ho8];exact w9,by rw[ho8];simpa using g7.upd (by simp),kD,fun _ _ _=>rfl,fun b hb q hq=>by rw[ho8,Own.ab (by rintro rfl;have:=ja hq;simp at this)];exact free7 b (by omega) q hq,by simpa[v8]using m9⟩
        simp[(eS.mono (View.le_trans hW9 w9.wle)).len]
        refine a6 [1,2,11,12,74,75,76] (fun(_:Unit) k=>[.pointer (some ⟨B,0,none⟩),.pointer (some ⟨R,0,none⟩),.pointer (some ⟨D,0,none⟩),.map (some r),ue,.int .i64 ed.length,.int .i64 k]) (fun _ k h6=>∃W' o' vb' V',PutI K f ed W5 r D o8 k h6 W' o' vb' V') ed.length ()
          rfl (by omega) rfl ⟨_,_,_,_,p0⟩ (fun _ _=>rfl) (fun _ k h2 hk _=>by simp) ?_ ?_
        · rintro _ k h10 hk ⟨W',o',vb',V',pk⟩ K2 hK2
          have hnk:nth ed k∉ed.take k:=za hnd hk
          have hI:I64 (nth ed k).1/\I64 (nth ed k).2:=by
            obtain⟨u,_,h2⟩:=eS.wh rfl (N:=2) rfl hk
            exact(uC.1 h2).2
          have s10:=eS.mono (View.le_trans pk.le pk.w.wle)
          have hex:=eS.pair (View.le_trans pk.le pk.w.wle) hk
          generalize hn:nth ed k=e1 at hnk hI hex
          obtain⟨ea,eb⟩:=e1
          refine aa fun y hy=>?_
          simp(disch:=omega)[s10.idxn (N:=2) rfl,hex]
          refine pk.w.mI (k:=(K+11,1)) (n:=1) (l:=[.int .i64 ea,.int .i64 eb]) ((pk.fr _ (by simp) (by simp)).trans (kX 1)) (z:=.agg #[.int .i64 0,.int .i64 0]) (by kernel_rfl) rfl (by kernel_rfl) rfl (by decide) (gV rfl) (fun _=>by simp) (fun _=>by simp) fun h11 q11 w11=>?_
          generalize h10.size=X at w11
          have c0:Un.ev (vw h11) (.al 2) (.pointer (some ⟨X,0,none⟩))=some (.agg #[.int .i64 ea,.int .i64 eb]):=w11.dI (k:=(K+11,1)) (n:=1) Own.af
          have c1:ao (vw h11) ⟨D,1,none⟩=some vb':=w11.raw (k:=(K+10,0)) (e:=T.ar) (n:=1) (by rw[Own.ab (by simp)];exact pk.box) (i:=1) (by decide)
          have g11:FnO K (o'.upd (K+11,1) (bx T.lM X (RawN.mk (n:=1) [.int .i64 ea,.int .i64 eb]))) vb' V' ⟨f.params,f.blocks++(ed.take k).map fun e=>eK e.2⟩:=pk.fno.upd (by simp)
          have hlk:(ed.take k).length=k:=by rw[MA];omega
          have s11:=g11.rd w11
          have hl11:(f.blocks++(ed.take k).map fun e=>eK e.2).length=f.blocks.length+k:=by rw[LH,L6,hlk]
          have hmk:min k ed.length=k:=by omega
          subst hy
          refine aa fun y hy=>?_
          simp[c0,c1,s11.len,hmk]
          refine Hd tw U.lf rfl rfl rfl (pk.map.ext q11) (a:=ea) (b:=eb) (by
            have:putE (ed.take k) f.blocks.length ea eb=none:=by unfold putE;rw[if_neg hnk]
            rw[this];rfl) fun h12 hs12 ho12 m12=>?_
          obtain⟨es,ck,hrow⟩:=pk.row
          obtain⟨es',ck',hr',_⟩:=m12.ex
          have w12:=w11.turn hrow (fun _ _ _=>Obj.noConfusion) hr' hs12 ho12
          have le12:W5.le (W'.set r (.map es' ck')):=fun b x hb=>by
            unfold View.set
            split
            · rename_i e;subst e;rw[hr5]at hb;cases hb
            · exact pk.le _ _ hb
          subst hy
          have d0:ao (vw h12) ⟨X,1,none⟩=some (.int .i64 eb):=w12.raw (k:=(K+11,1)) (n:=1) Own.af (i:=1) (by decide)
          have d1:ao (vw h12) ⟨D,1,none⟩=some vb':=w12.raw (k:=(K+10,0)) (e:=T.ar) (n:=1) (by rw[Own.ab (by simp)];exact pk.box) (i:=1) (by decide)
          simp(disch:=omega)[yV,d0,d1]
          have fk : ∀q,OfB K (f.blocks.length+k) q->o' q=none:=pk.free _ (LG _)
          refine Owns.H4 (k:=(K+4,f.blocks.length+k)) (d:=eb) w12 (by rw[Own.ab (by simp)];exact fk _ (.inl ⟨rfl,by simp,by simp⟩)) El.aS rfl hI.2 fun u h13 q13 w13 hu=>?_
          refine aE (z:=.agg #[.int .i64 0,.slice none 0 0,.slice none 0 0,.int .i32 0]) (places:=[(0,1),(1,1),(2,1),(3,1)]) (vs:=[(0,.int .i64 1),(2,u)]) (cs:=#[.int .i64 1,.slice none 0 0,u,.int .i32 0]) (by kernel_rfl) (by kernel_rfl) (by simp) (by cases u<;>first | rfl | cases hu) ?_
          refine aE (z:=.agg #[.slice none 0 0,.slice none 0 0,.int .i64 0,.slice none 0 0,.slice none 0 0,.int .i32 0]) (places:=[(0,1),(1,1),(2,4)]) (vs:=[(2,.agg #[.int .i64 1,.slice none 0 0,u,.int .i32 0])]) (cs:=#[.slice none 0 0,.slice none 0 0,.int .i64 1,.slice none 0 0,u,.int .i32 0]) (by kernel_rfl) (by kernel_rfl) (by simp) (by rfl) ?_
          obtain⟨Vn,hVn⟩ : ∃Vn:Bv,Vn=⟨.slice none 0 0,.slice none 0 0,.slice none 0 0,u,fun _=>.slice none 0 0,fun _=>.slice none 0 0⟩:=⟨_,rfl⟩
          refine w13.fg (k:=(K,0)) (α:=BkO) (v:=vb') (d:=bkO Vn (eK eb)) (by rw[Own.ab (by simp),Own.ab (by simp)];exact pk.fno.blk) El.fH rfl (by rw[hVn];exact Fj rfl rfl rfl hu ⟨by decide,by decide⟩ ⟨by decide,by decide⟩) (by simp;omega) (by simp;omega) (fun _=>rfl) (fun _=>rfl) fun u5 v5 h14 w14 _=>?_
          have hv5:=(w14.cells (k:=(K,0)) Own.af).2
          refine w14.bu (k:=(K+10,0)) (n:=1) (i:=1) (e:=T.ar) (B:=D) (l:=[.int .i64 f.params,vb']) (by rw[Own.ab (by simp),Own.ab (by simp),Own.ab (by simp)];exact pk.box) (by decide) (by kernel_rfl) rfl rfl hv5 fun h15 w15 _=>?_
          obtain⟨O,hO⟩ : ∃O:Own,O=(((o'.upd (K+11,1) (bx T.lM X (RawN.mk (n:=1) [.int .i64 ea,.int .i64 eb]))).upd (K+4,f.blocks.length+k) (it T.int u [eb])).upd (K,0) (it T.ay v5 (rows (fun b=>bkO (V' b) (nth (f.blocks++(ed.take k).map fun e=>eK e.2) b)) (f.blocks++(ed.take k).map fun e=>eK e.2).length++[bkO Vn (eK eb)]))).upd (K+10,0) (bx T.ar D (RawN.mk (n:=1) [.int .i64 f.params,v5])):=⟨_,rfl⟩
          have w15:Owns (W'.set r (.map es' ck')) h15 O:=by rw[hO];exact w15
          have O0:O (K,0)=it T.ay v5 (rows (fun b=>bkO (V' b) (nth (f.blocks++(ed.take k).map fun e=>eK e.2) b)) (f.blocks++(ed.take k).map fun e=>eK e.2).length++[bkO Vn (eK eb)]):=by rw[hO,Own.ab (by simp),Own.af]
          have O10:O (K+10,0)=bx T.ar D (RawN.mk (n:=1) [.int .i64 f.params,v5]):=by rw[hO,Own.af]
          have O4:O (K+4,f.blocks.length+k)=it T.int u [eb]:=by rw[hO,Own.ab (by simp),Own.ab (by simp),Own.af]
          have Of : ∀q,q≠(K+11,1)->q≠(K+4,f.blocks.length+k)->q≠(K,0)->q≠(K+10,0)->O q=o' q:=fun q h1 h2 h3 h4=>by rw[hO,Own.ab h4,Own.ab h3,Own.ab h2,Own.ab h1]
          clear hO
          obtain⟨oF,hoF⟩ : ∃oF:Own,oF=fun q=>if q=(K+11,1) then none else if q=(K+1,f.blocks.length+k) then it T.cE (.slice none 0 0) ([]:List PhO) else if q=(K+2,f.blocks.length+k) then it T.cg (.slice none 0 0) ([]:List InO) else if q=(K+3,f.blocks.length+k) then it T.int (.slice none 0 0) ([]:List Int) else O q:=⟨_,rfl⟩
          have F1:oF (K+1,f.blocks.length+k)=it T.cE (.slice none 0 0) ([]:List PhO):=by rw[hoF];simp
          have F2:oF (K+2,f.blocks.length+k)=it T.cg (.slice none 0 0) ([]:List InO):=by rw[hoF];simp
          have F3:oF (K+3,f.blocks.length+k)=it T.int (.slice none 0 0) ([]:List Int):=by rw[hoF];simp
          have F11:oF (K+11,1)=none:=by rw[hoF];simp
          have Ff : ∀q,q≠(K+11,1)->q≠(K+1,f.blocks.length+k)->q≠(K+2,f.blocks.length+k)->q≠(K+3,f.blocks.length+k)->oF q=O q:=fun q h1 h2 h3 h4=>by rw[hoF];simp only[h1,h2,h3,h4,if_false]
          have wF:Owns (W'.set r (.map es' ck')) h15 oF:=Owns.nils w15 fun q i hq=>by
            by_cases e1:q=(K+11,1)
            · rw[e1,F11]at hq;cases hq
            by_cases e2:q=(K+1,f.blocks.length+k)
            · rw[e2,F1]at hq;cases hq;exact .inr ⟨rfl,OwnT.nil (α:=PhO) _ h15 T.cE⟩
            by_cases e3:q=(K+2,f.blocks.length+k)
            · rw[e3,F2]at hq;cases hq;exact .inr ⟨rfl,OwnT.nil (α:=InO) _ h15 T.cg⟩
            by_cases e4:q=(K+3,f.blocks.length+k)
            · rw[e4,F3]at hq;cases hq;exact .inr ⟨rfl,OwnT.nil (α:=Int) _ h15 T.int⟩
            rw[Ff q e1 e2 e3 e4]at hq;exact .inl hq
          clear hoF
          have nb : ∀{b:Nat} {q:Key},b≠f.blocks.length+k->OfB K b q->oF q=o' q:=fun{b q} hb h=>by
            have h1:=ja h
            have h2:=yP hb h
            have n4:q≠(K+4,f.blocks.length+k):=by rintro rfl;exact h2 (.inl ⟨rfl,by simp,by simp⟩)
            have n1:q≠(K+1,f.blocks.length+k):=by rintro rfl;exact h2 (.inl ⟨rfl,by simp,by simp⟩)
            have n2:q≠(K+2,f.blocks.length+k):=by rintro rfl;exact h2 (.inl ⟨rfl,by simp,by simp⟩)
            have n3:q≠(K+3,f.blocks.length+k):=by rintro rfl;exact h2 (.inl ⟨rfl,by simp,by simp⟩)
            have n11:q≠(K+11,1):=by rintro rfl;simp at h1
            have n0:q≠(K,0):=by rintro rfl;simp at h1;omega
            have n10:q≠(K+10,0):=by rintro rfl;simp at h1
            rw[Ff q n11 n1 n2 n3,Of q n11 n4 n0 n10]
          have etk:ed.take (k+1)=ed.take k++[(ea,eb)]:=by
            rw[L8 hk,<-ak hk,hn]
          have ebl:f.blocks++(ed.take (k+1)).map (fun e=>eK e.2)=(f.blocks++(ed.take k).map fun e=>eK e.2)++[eK eb]:=by
            rw[etk,N5,L5];rfl
          have bo:BO K oF (f.blocks.length+k) Vn (eK eb):=by
            rw[hVn]
            exact⟨F1,F2,F3,by rw[Ff _ (by simp) (by simp) (by simp) (by simp)];exact O4,fun i hi=>absurd hi (MC _),fun i hi=>absurd hi (MC _)⟩
          refine hK2 () _ _ rfl rfl ⟨_,oF,v5,fun b=>if b=(f.blocks++(ed.take k).map fun e=>eK e.2).length then Vn else V' b,le12,⟨es',ck',by unfold View.set;rw[if_pos rfl]⟩,wF,?_,?_,fun q hq hq2=>?_,fun b hb q hq=>?_,?_⟩
          · rw[ebl]
            refine pk.fno.push (Vn:=Vn) (x:=bkO Vn (eK eb)) rfl ?_ (fun b hb q hq=>?_) ?_
            · rw[Ff _ (by simp) (by simp) (by simp) (by simp)];exact O0
            · rw[hl11]at hb;exact nb (by omega) hq
            · rw[hl11];exact bo
          · rw[Ff _ (by simp) (by simp) (by simp) (by simp)];exact O10
          · by_cases e:q=(K+11,1)
            · rw[e,F11];exact(kX 1).symm
            · rw[Ff q e (by rintro rfl;dsimp only at hq;omega) (by rintro rfl;dsimp only at hq;omega) (by rintro rfl;dsimp only at hq;omega),Of q e (by rintro rfl;dsimp only at hq;omega) (by rintro rfl;dsimp only at hq;omega) hq2]
              exact pk.fr q hq hq2
          · rw[nb (by omega) hq];exact pk.free b (by omega) q hq
          · have m15:Map2 h15 r _:=m12.same (by
              have:=wF.wle r (.map es' ck') (by unfold View.set;rw[if_pos rfl])
              have:h15[r]? = some (.map es' ck'):=this
              rw[this,hr'])
            have ef:(fun a b=>(putE (ed.take (k+1)) f.blocks.length a b).map (Value.int .i64))=fun c d=>if c=ea/\d=eb then some (.int .i64 ((f.blocks.length:Int)+k)) else(putE (ed.take k) f.blocks.length c d).map (.int .i64):=by
              funext c d
              rw[etk,sv hnk,hlk]
              dsimp only
              split<;>rfl
            rw[ef];exact m15
        · rintro _ h10 ⟨W',o',vb',V',pk⟩
          rw[bT,hz];clear hz z
          refine aa fun z hz=>?_
          have hatS:At W5 ⟨B,0,none⟩ f:=hat.mono hW5
          obtain⟨_,vbS,cbS⟩:=fM hatS
          have cbW:=ae pk.le cbS.1
          have sbW:=cbS.2.mono pk.le
          simp[ae pk.w.wle cbW,(sbW.mono pk.w.wle).len]
          obtain⟨es,ck,hrow⟩:=pk.row
          have fn0:=pk.fno
          have mp0:=pk.map
          rw[MK]at fn0 mp0
          refine F6 K (B:=B) (R:=R) (D:=D) (r:=r) (ed:=ed) sm hin l512 ⟨vbS,cbW,sbW⟩ pk.box ((pk.fr _ (by simp) (by simp)).trans (kX 2)) hrow mp0 (by rw[D2];exact⟨o',pk.w,fn0,fun _ _=>rfl⟩) rfl fun h11 t11=>?_
          rw[bT,hz];clear hz z
          have cD:=t11.dI (k:=(K+10,0)) (by simp) pk.box
          have cD:Un.ev (vw h11) (.al 2) (.pointer (some ⟨D,0,none⟩))=some (.agg #[.int .i64 f.params,vb']):=cD
          simp[cD]
          obtain⟨o11,w11,g11,r11⟩:=t11.ex
          have kR11:o11 (K+10,1)=bx T.ar R (RawN.mk (n:=1) [.int .i64 0,.slice none 0 0]):=by
            rw[r11 _ (by simp),pk.fr _ (by simp) (by simp),ho8,Own.ab (by simp),fr7 _ (by simp)];exact kR
          refine w11.ez (k:=(K+10,1)) (e:=T.ar) (B:=R) Part.all (d:=RawN.mk (n:=1) [.int .i64 f.params,vb']) kR11 (by kernel_rfl) rfl rfl (eP rfl (gV (w11.cells g11.blk).2)) fun h12 w12 _=>?_
          have c12:Un.ev (vw h12) (.al 2) (.pointer (some ⟨R,0,none⟩))=some (.agg #[.int .i64 f.params,vb']):=w12.dI (k:=(K+10,1)) (n:=1) Own.af
          simp[c12]
          refine hK _ _ ⟨W',?_,.inr ⟨hs0,fun q=>if q=(K+10,0)\/q=(K+10,1) then none else o11 q,vb',V',rfl,ip,w12.sub fun q i hq=>?_,?_,fun q hq=>?_⟩⟩
          · exact View.le_trans hW1 (View.le_trans hW5 pk.le)
          · split at hq
            · cases hq
            · rename_i e
              rw[Own.ab (fun g=>e (.inr g))];exact hq
          · have hsp:lO f=onE ed f:=by unfold lO;rw[hE]
            rw[hsp]
            exact g11.congr fun q h1 h2=>if_neg (by rintro(rfl | rfl)<;>simp at h2)
          · by_cases e:q=(K+10,0)\/q=(K+10,1)
            · refine(if_pos e).trans ?_
              rcases e with rfl | rfl<;>exact(ho0 _ (by simp) (by simp)).symm
            · refine(if_neg e).trans ?_
              rw[r11 q hq,pk.fr q hq (fun g=>e (.inl g)),ho8,Own.ab (fun g=>e (.inl g)),fr7 q hq,hw1 q (fun g=>e (.inr g))]
def swS (was is x:Int):Int:=if x=was then is else x
theorem wS{l:List Int}{was is:Int}{v:Value}{h:Heap}(hv:SlRd (vw h) v l)(hi:I64 is)(hl:l.length<=1000000):
  az Tryz.prog N.dM #[v,.int .i64 was,.int .i64 is] h (fun u h'=>(vw h).le (vw h')/\SlRd (fresh h h') u (l.map (swS was is))):=by
 refine aq (args:=[v,.int .i64 was,.int .i64 is]) follows F.dM E.dM (LD (by kernel_rfl)) fun K hK=>?_;simp[L.dM];refine aO [0,1,2,7,8] (fun(u:Value) k=>[v,.int .i64 was,.int .i64 is,u,.int .i64 k]) (fun u k h1=>Mine nothing h h1 nothing T.int u ((l.take k).map (swS was is))) l.length (.slice none 0 0)
  rfl (by omega) rfl (Mine.start (fun _ _ h=>by cases h)) (fun _ _=>rfl) (fun v k h1 hk m=>by simp[hv.len]) ?_ ?_
 ·intro u k h1 hlt m K2 hK2;have hv1:=hv.mono m.old;have hr:I64 (nth l k):=by have:=(hv1.at hlt).rng;rwa [<-ak hlt]at this
  have ht:(l.take (k+1)).map (swS was is)=(l.take k).map (swS was is)++[swS was is (nth l k)]:=by rw[M0,List.getElem?_eq_getElem hlt,ak hlt,N5];rfl
  have hln:((l.take k).map (swS was is)).length=k:=by simp;omega
  simp(disch:=omega)[hv1.idx1 rfl,hv1.int (View.le_refl _)];refine⟨fun he=>?_,fun he=>?_⟩
  ·have e:swS was is (nth l k)=is:=if_pos he;rw[e]at ht;refine m.push El.aS (by simp<;>rfl) (dr.2 ⟨rfl,hi⟩) (by omega) (by omega) (fun _=>by simp) (fun _=>by simp) fun u2 v' h3 m'=>hK2 v' _ _ rfl rfl (by rw[ht];exact m')
  have e:swS was is (nth l k)=nth l k:=if_neg he;rw[e]at ht;refine m.push El.aS (by simp<;>rfl) (dr.2 ⟨rfl,hr⟩) (by omega) (by omega) (fun _=>by simp) (fun _=>by simp) fun u2 v' h3 m'=>hK2 v' _ _ rfl rfl (by rw[ht];exact m')
 intro u h1 m;simp;exact hK _ _ ⟨m.old,by have:=m.fresh;rwa [MK]at this⟩
theorem Cn[Rep α][Inhabited α]{H:View}{v:Value}{l:List α}(h:SlRd H v l){N:Nat}(hn:Rep.n α=N){i:Nat}(hi:i<l.length):At H ((slA v).add (i*N)) (nth l i):=by subst hn;rw[ak hi];exact h.at hi
theorem JF{H:View}{u:Value}{d:InD}(h:Rd H u d): ∃x:Unit,u = .agg #[.int .i64 d.frm,.int .i64 d.val]/\I64 d.frm/\I64 d.val:=by
 obtain⟨cs,rfl,c1,r1,e1,⟨q1,i1⟩,q2,i2⟩:=h;have q1:c1=[.int .i64 d.frm]:=q1;have q2:r1=[.int .i64 d.val]:=q2;have he:cs.toList = #[Value.int .i64 d.frm,.int .i64 d.val].toList:=by rw[e1,q1,q2];rfl
 exact⟨(),by rw[LZ.1 he],i1,i2⟩
theorem JN{H:View}{d:InD}(h1:I64 d.frm)(h2:I64 d.val):Rd H (.agg #[.int .i64 d.frm,.int .i64 d.val]) d:=⟨_,rfl,[.int .i64 d.frm],[.int .i64 d.val],rfl,⟨rfl,h1⟩,rfl,h2⟩
theorem yT{H:View}{v:Value}{l:List InD}(h:SlRd H v l){i:Nat}(hi:i<l.length):ao H (((slA v).add (i*2)).add 0)=some (.int .i64 (nth l i).frm)/\True:=by have:=((h.at hi).part InD.mE).int;rw[<-ak hi]at this;exact⟨this,trivial⟩
def kA (l:List InD) (i:Nat):Nat->Nat
 | 0=>0
 | k+1=>if(nth l k).frm<(nth l i).frm then kA l i k+1 else kA l i k
def jo (l:List InD) (n:Nat):Nat->Int
 | 0=>-1
 | i+1=>if kA l i l.length=n then i else jo l n i
def j9 (l:List InD):Nat->List InD
 | 0=>[]
 | n+1=>if 0<=jo l n l.length then j9 l n++[nth l (jo l n l.length).toNat] else j9 l n
theorem Da {l:List InD} {i:Nat} : ∀{k:Nat},kA l i k<=k
 | 0=>LG _
 | k+1=>by unfold kA;have:=Da (l:=l) (i:=i) (k:=k);split<;>omega
theorem zO {l:List InD} {n:Nat} : ∀{i:Nat},-1<=jo l n i/\jo l n i<i
 | 0=>by unfold jo;omega
 | i+1=>by unfold jo;have:=zO (l:=l) (n:=n) (i:=i);split<;>omega
theorem Di {l:List InD} : ∀{n:Nat},(j9 l n).length<=n
 | 0=>LG _
 | n+1=>by unfold j9;have:=Di (l:=l) (n:=n);split<;>simp<;>omega
theorem yH{l:List InD}{v:Value}{h:Heap}(hv:SlRd (vw h) v l)(hl:l.length<=1000000):
  az Tryz.prog N.cZ #[v] h (fun u h'=>(vw h).le (vw h')/\SlRd (fresh h h') u (j9 l l.length)):=by
 refine aq (args:=[v]) follows F.cZ E.cZ (LD (by kernel_rfl)) fun K hK=>?_;simp[L.cZ];refine aO [0,3,4] (fun(s:Value × View) n=>[v,s.1,.int .i64 n]) (fun s n h1=>Mine nothing h h1 s.2 T.bI s.1 (j9 l n)) l.length (.slice none 0 0,nothing)
  rfl (by omega) rfl (Mine.start (fun _ _ h=>by cases h)) (fun _ _=>rfl) (fun v k h1 hk m=>by simp[hv.len]) ?_ ?_
 ·rintro⟨u,W⟩ n h1 hlt m K2 hK2;have hv1:=hv.mono m.old;refine aa fun y hy=>?_;simp;subst hy;refine aa fun y hy=>?_;simp;refine aO [0,3,4,5,6] (fun(_:Unit) i=>[v,u,.int .i64 n,.int .i64 (jo l n i),.int .i64 i]) (fun _ i h2=>h2=h1) l.length ()
   rfl (by omega) rfl rfl (fun _ _=>rfl) (fun _ k h2 hk e=>by simp[hv.len]) ?_ ?_
  ·rintro _ i h2 hi rfl K3 hK3;refine aa fun q hq=>?_;simp;subst hq;refine aa fun q hq=>?_;simp;refine aO [0,3,4,5,6,7,8] (fun(_:Unit) k=>[v,u,.int .i64 n,.int .i64 (jo l n i),.int .i64 i,.int .i64 (kA l i k),.int .i64 k]) (fun _ k h3=>h3=h2) l.length ()
    rfl (by omega) rfl rfl (fun _ _=>rfl) (fun _ k h3 hk e=>by simp[hv.len]) ?_ ?_
   ·rintro _ k h3 hk rfl K4 hK4;have a1:=(yT hv1 hk).1;have a2:=(yT hv1 hi).1;have:=Da (l:=l) (i:=i) (k:=k);simp(disch:=omega)[hv1.idxn (N:=2) rfl,a1,a2];refine⟨fun hc=>?_,fun hc=>?_⟩
    ·refine hK4 () _ _ rfl ?_ rfl;have:kA l i (k+1)=kA l i k+1:=if_pos hc;rw[this];simp;rfl
    refine hK4 () _ _ rfl ?_ rfl;have:kA l i (k+1)=kA l i k:=if_neg (by omega);rw[this];rfl
   rintro _ h3 rfl;subst hq;simp;refine⟨fun hc=>?_,fun hc=>?_⟩
   ·refine hK3 () _ _ rfl ?_ rfl;have:jo l n (i+1)=i:=if_pos (by omega);rw[this];rfl
   refine hK3 () _ _ rfl ?_ rfl;have:jo l n (i+1)=jo l n i:=if_neg (by omega);rw[this];rfl
  rintro _ h2 rfl;subst hy;have hb:=zO (l:=l) (n:=n) (i:=l.length);have ho:=Di (l:=l) (n:=n);simp;refine⟨fun hc=>?_,fun hc=>?_⟩
  ·obtain⟨uq,huq,ruq⟩:=hv1.wh rfl (N:=2) rfl (i:=(jo l n l.length).toNat) (by omega);have e:j9 l (n+1)=j9 l n++[nth l (jo l n l.length).toNat]:=if_pos hc;obtain⟨x,rfl,ra,rb⟩:=JF ruq;simp(disch:=omega)[hv1.idxn (N:=2) rfl,huq _ (View.le_refl _)];refine m.push El.bZ (by simp<;>rfl) (JN ra rb) (by omega) (by omega) (fun _=>by simp) (fun _=>by simp) fun u2 v' h3 m'=>hK2 (v',W) _ _ rfl rfl (by rw[e];exact m')
  have e:j9 l (n+1)=j9 l n:=if_neg (by omega);exact hK2 (u,W) _ _ rfl rfl (by rw[e];exact m)
 rintro⟨u,W⟩ h1 m;simp;exact hK _ _ ⟨m.old,m.fresh⟩
theorem ve {l:List InD} {i:Nat} : ∀{k:Nat},k<=l.length->kA l i k=(l.take k).countP fun x=>decide (x.frm<(nth l i).frm)
 | 0,_=>rfl
 | k+1,h=>by rw[M0,List.getElem?_eq_getElem (by omega),List.countP_append];show(if _ then _ else _)=_;rw[ve (by omega),ak (show k<l.length by omega)];simp only[Option.toList,List.countP_singleton,decide_eq_true_eq];split<;>rfl
theorem Gc{L:List InD}(hL:L.Pairwise fun x y=>x.frm<y.frm){m:Nat}(hm:m<L.length):(L.countP fun x=>decide (x.frm<L[m].frm))=m:=by
 have h1:L=L.take m++L[m]::L.drop (m+1):=by rw[List.getElem_cons_drop,NB]
 generalize hp:L[m]=p at *;rw[h1]at hL;obtain⟨_,g2,g3⟩:=Ob.1 hL;rw[h1,List.countP_append,List.countP_cons];have e1:(L.take m).countP (fun x=>decide (x.frm<p.frm))=(L.take m).length:=List.countP_eq_length.2 fun x hx=>by simpa using g3 x hx p (LR ..)
 have e2:(L.drop (m+1)).countP (fun x=>decide (x.frm<p.frm))=0:=List.countP_eq_zero.2 fun x hx=>by have:=(N3.1 g2).1 x hx;simp;omega
 rw[e1,e2,MA];simp;omega
theorem CW {l:List InD} {n j:Nat} (hj:j<l.length) (h : ∀i,i<l.length->(kA l i l.length=n↔i=j)) : ∀{i:Nat},i<=l.length->jo l n i=if j<i then(j:Int) else -1
 | 0,_=>by rw[if_neg (by omega)];rfl
 | i+1,hi=>by
  unfold jo;by_cases e:i=j
  ·rw[if_pos ((h i (by omega)).2 e),if_pos (by omega),e]
  rw[if_neg (fun c=>e ((h i (by omega)).1 c)),CW hj h (by omega)];by_cases g:j<i
  ·rw[if_pos g,if_pos (by omega)]
  rw[if_neg g,if_neg (by omega)]
theorem HU{l:List InD}(hn:(l.map InD.frm).Nodup):j9 l l.length=srt l:=by
 have hp:=mR (l:=l);have hL:(srt l).Pairwise fun x y=>x.frm<y.frm:=by have h1:=qt (l:=l);have h2:((srt l).map InD.frm).Nodup:=(hp.map InD.frm).nodup_iff.2 hn;have h2:=NT.1 h2;exact h1.imp₂ (fun a b h1 h2=>by omega) h2
 generalize srt l=L at hp hL;have hlen:=hp.length_eq;have rank : ∀{i m:Nat},i<l.length->(hm:m<L.length)->nth l i=L[m]->kA l i l.length=m:=fun{i m} hi hm e=>by rw[ve (LG _),MK,e,<-hp.countP_eq];exact Gc hL hm
 have key : ∀n,n<=l.length->j9 l n=L.take n:=fun n=>by
  induction n with
  | zero=>intro _;rfl
  | succ n ih=>
   intro hnl;have hm:n<L.length:=by omega
   obtain⟨j,hj,ej⟩:=LQ (hp.subset (MD hm));have hb:=CW (n:=n) hj (fun i hi=>by
    constructor
    ·intro hc;obtain⟨m,hm2,em⟩:=LQ (hp.symm.subset (MD hi));have:=rank hi hm2 (by rw[ak hi,em]);have hmn:m=n:=by omega
     subst hmn;have e2:l[i]=l[j]:=by rw[<-em,ej]
     have e3:(l.map InD.frm)[i]'(by simpa using hi)=(l.map InD.frm)[j]'(by simpa using hj):=by simp[e2]
     exact(Ox hn).1 e3
    rintro rfl;exact rank hj hm (by rw[ak hj,ej])) (LG l.length);rw[if_pos hj]at hb;show(if _ then _ else _)=_;rw[hb,if_pos (by omega),ih (by omega),M0,List.getElem?_eq_getElem hm,LY,ak hj,ej];rfl
 rw[key _ (LG _),<-hlen,MK]
theorem xc{f:an}{v:Value}{h:Heap}(hv:Rd (vw h) v f)(sm:SmF f):
  az Tryz.prog N.eu #[v] h (fun u h'=>u = .int .i64 (cntT f f.blocks.length:Nat)/\(vw h).le (vw h')):=by
 refine aq (args:=[v]) follows F.eu E.eu (LD (by kernel_rfl)) fun K hK=>?_;dsimp only[L.eu];refine aa fun z hz=>?_;simp;refine gm rfl hv fun h1 _ hle1 hsz1 hat=>?_;obtain⟨_,vb,cb⟩:=fM hat;generalize h.size=B at cb;have hbl:=sm.len;subst hz;refine aa fun z hz=>?_;simp;subst hz;refine aa fun z hz=>?_;simp;refine aO [1,3,4] (fun(_:Unit) b=>[.pointer (some ⟨B,0,none⟩),.int .i64 (cntT f b:Nat),.int .i64 b]) (fun _ b h3=>h3=h1) f.blocks.length ()
  rfl (by omega) rfl rfl (fun _ _=>rfl) (fun _ b h3 hb t=>?_) ?_ ?_
 ·subst t;simp[cb.1,cb.2.len]
 ·rintro _ b h3 hb rfl K2 hK2;have aB:=Cn cb.2 (N:=6) rfl hb;obtain⟨vx,cx,sx⟩:=(aB.part BlkD.km).sl;obtain⟨vy,cy,sy⟩:=(aB.part BlkD.jr).sl;have s1:=(sm.blk b hb).phis;have s2:=(sm.blk b hb).ins;have c1:=uh sm b (by omega);refine bF (vw h3) (View.le_refl _) ?_;simp(disch:=omega)[cb.1,cb.2.idxn (N:=6) rfl,cx,cy,sx.len,sy.len];refine hK2 () _ _ rfl ?_ rfl;have e:((cntT f (b+1):Nat):Int)=(cntT f b:Nat)+(nth f.blocks b).phis.length+(nth f.blocks b).ins.length+1:=by show((cntT f b+_:Nat):Int)=_;omega
  rw[e];rfl
 rintro _ h3 rfl;simp;subst hz;simp;exact hK _ _ ⟨rfl,hle1⟩
end Go.Proofs.YtbkdlhkoiagbbaaGreat
namespace Go.Lft
open Go
theorem A9 : ∀(l:List Value) (k off:Nat) (A:Array Value),off+k+l.length<=A.size->
  ((l.zipIdx k).foldl (fun(cs:Array Value) (p:Value × Nat)=>cs.setIfInBounds (off+p.2) p.1) A).toList=A.toList.take (off+k)++l++A.toList.drop (off+k+l.length)
 | [],k,off,A,_=>by simp
 | x::l,k,off,A,h=>by
  simp only[Nl]at h;rw[Ow,MU,A9 l (k+1) off _ (by simp;omega)];have hk:off+k<A.toList.length:=by simp;omega
  simp only[OK,Nl];rw[show off+(k+1)=off+k+1 by omega,L8 (by simpa using hk),OE (LG _),List.getElem_set_self,List.drop_set_of_lt (by omega),show off+k+1+l.length=off+k+(l.length+1) by omega];simp
theorem tx {s:Nat} : ∀(vs:List Value) (k:Nat) (A:Array Value),(∀v∈vs,v.cells.size=s)->(k+vs.length)*s=A.size->
  ∃B,Instr.fill (fun j=>some (j*s,s)) A ((vs.zipIdx k).map fun p=>(p.2,p.1))=some B/\B.toList=A.toList.take (k*s)++vs.flatMap fun v=>v.cells.toList
 | [],k,A,_,hk=>⟨A,rfl,by rw[LV (by simp at hk;simp[hk])];simp⟩
 | v::vs,k,A,hv,hk=>by
  have hc:=hv v (LR ..);have e1:(k+(vs.length+1))*s=(k+1+vs.length)*s:=by rw[show k+(vs.length+1)=k+1+vs.length by omega]
  have e2:(k+1+vs.length)*s=k*s+s+vs.length*s:=by rw[N1,N1,OB]
  simp only[Nl]at hk;have e3:(k+1)*s=k*s+s:=by rw[N1,OB]
  have hF:(v.cells.zipIdx.foldl (fun(cs:Array Value) (x:Value × Nat)=>cs.setIfInBounds (k*s+x.2) x.1) A).toList=A.toList.take (k*s)++v.cells.toList++A.toList.drop (k*s+s):=by rw[<-Array.foldl_toList,Array.toList_zipIdx];have:=A9 v.cells.toList 0 (k*s) A (by simp[hc];omega);simpa[hc]using this
  obtain⟨B,h1,h2⟩:=tx vs (k+1) (v.cells.zipIdx.foldl (fun(cs:Array Value) (x:Value × Nat)=>cs.setIfInBounds (k*s+x.2) x.1) A) (fun u hu=>hv u (LS _ hu)) (by rw[<-Array.length_toList,hF];simp[hc];omega);refine⟨B,?_,?_⟩
  ·simp only[Ow,NK,Instr.fill,hc];rw[if_neg (by simp;omega)];exact h1
  rw[h2,hF,e3,NU,MQ (by simp[hc];omega),LV (by simp[hc];omega),L5]
theorem wN {s:Nat} : ∀(vs:List Value) (i:Nat) (hi:i<vs.length),(∀v∈vs,v.cells.size=s)->((vs.flatMap fun v=>v.cells.toList).drop (i*s)).take s=vs[i].cells.toList
 | v::vs,0,_,hv=>by have hc:=hv v (LR ..);simp only[Ny,NM,NU,NJ];rw[MQ (by simp[hc]),LV (by simp[hc])]
 | v::vs,i+1,hi,hv=>by have hc:=hv v (LR ..);have:=wN vs i (by simpa using hi) fun u hu=>hv u (LS _ hu);rw[NU,show(i+1)*s=v.cells.toList.length+i*s by rw[N1];simp[hc];omega,<-List.drop_drop,List.drop_left];simpa using this
theorem G2{po:OP}{α:Type}[Rep α]{P:Program}{t e n:Nat}{ty:TypeId}{bytes:Nat}{z:Value}{ps:Array (Nat × Operand)}{us:List (Nat × Value)}{vs:List Value}{ds:List α}{h:Heap}{K:Value->Heap->Prop}(hT:ff P t e (Rep.n α) bytes z)(hp:ps.map (fun p=>(p.1,asg us p.2))=((vs.zipIdx 0).map fun p=>(p.2,p.1)).toArray){X:View}(hr:oe X vs ds)(hn:ds.length=n)(hb:n*Rep.n α<=16777216)(hb2:n<=16777216)(hk : ∀u h',(vw h).le (vw h')->h'.size=h.size+1->(∀Y:View,X.le Y->Y h.size=h'[h.size]?->SlRd Y u ds)->u.ownBlock=some h.size->K u h'):step P (.buildSlice t n ps) ty us h K:=by
 have hl:=hr.len;have hcs : ∀v∈vs,v.cells.size=Rep.n α:=fun v hv=>by obtain⟨i,hi,rfl⟩:=LQ hv;exact(kY (hr.get i hi (by omega))).2.1
 obtain⟨B,h1,h2⟩:=tx (s:=Rep.n α) vs 0 ((Array.range (n*Rep.n α)).map (z.cells[· % z.cells.size]!)) hcs (by simp;rw[hl,hn]);have hB:B=(vs.flatMap fun v=>v.cells.toList).toArray:=by rw[<-Array.toList_inj,h2];simp
 refine pB hT hb hp h1 ?_;have hle:=bm h (.cells B e);refine hk _ _ hle (by simp) (fun Y hY hYb=>⟨some ⟨h.size,0,none⟩,n,by rw[hn],by omega,by omega,.inr ⟨_,rfl,rfl,fun i hi=>?_⟩⟩) rfl;have hi2:i<vs.length:=by omega
 have hrd:=kY (hr.get i hi2 hi);rw[bn rfl];refine⟨vs[i].cells.toList,⟨B,e,(0,0),rfl,by rw[hYb];simp,?_⟩,Rep.mono hY hrd.1⟩;rw[hB,Nt];have:=wN vs i hi2 hcs;rw[NW,hrd.2.1];exact this
end Go.Lft
namespace Go.Proofs.YtbkdlhkoiagbbaaGreat
open Go Go.Lft
def exF:an:=⟨1,[⟨[],[],⟨2,[0],[1,2],⟨0⟩⟩⟩,⟨[],[],⟨1,[],[2],⟨0⟩⟩⟩,⟨[⟨1,[⟨0,0⟩,⟨1,0⟩]⟩],[],⟨4,[1],[],⟨0⟩⟩⟩]⟩
def exG:an:=⟨1,[⟨[],[],⟨2,[0],[1,3],⟨0⟩⟩⟩,⟨[],[],⟨1,[],[2],⟨0⟩⟩⟩,⟨[⟨1,[⟨1,0⟩,⟨3,0⟩]⟩],[],⟨4,[1],[],⟨0⟩⟩⟩,⟨[],[],⟨1,[],[2],⟨0⟩⟩⟩]⟩
section
variable {g g':Gr}
theorem vJ(hl:g.length=g'.length)(h : ∀a b,eH g a b=eH g' a b):jF g=jF g':=by
 have h1:dC g=dC g':=by funext a;unfold dC;rw[hl];congr 1;funext b;rw[h]
 have h2:fT g=fT g':=by unfold fT;rw[hl];congr 1;funext b;congr 1;funext a;rw[h]
 unfold jF lB tP;rw[h1,h2,hl]
end
theorem Ga{f:an}:gD f=jF (f.blocks.map (·.term.to)):=by
 unfold gD;rw[tS];refine vJ (by rw[iJ,L6]) fun a b=>?_;rw[MH,et,fl,L6];constructor
 ·rintro⟨h,m⟩;refine⟨h,?_⟩;rw[ak (by rw[L6];omega),NC,<-ak (by omega)];exact m
 rintro⟨h,m⟩;refine⟨h,?_⟩;rw[ak (by rw[L6];omega),NC,<-ak (by omega)]at m;exact m
theorem Cw:gD exF=[(0,2)]:=by rw[Ga];kernel_rfl
theorem JH:srt [⟨3,0⟩,⟨1,0⟩]=[⟨1,0⟩,⟨3,0⟩]:=
 (uF (List.Perm.swap _ _ _) (by simp[jz]) (by decide)).symm
theorem GB:lO exF=exG:=by
 unfold lO;rw[Cw];have:onE [(0,2)] exF=⟨1,[⟨[],[],⟨2,[0],[1,3],⟨0⟩⟩⟩,⟨[],[],⟨1,[],[2],⟨0⟩⟩⟩,⟨[⟨1,srt [⟨3,0⟩,⟨1,0⟩]⟩],[],⟨4,[1],[],⟨0⟩⟩⟩,⟨[],[],⟨1,[],[2],⟨0⟩⟩⟩]⟩:=by rfl
 rw[this,JH];rfl
theorem HN:(ir exF).1=0:=by rw[pR];kernel_rfl
theorem Li:ek exF=0:=by unfold ek my;rw[HN,Cw];rfl
theorem KC:SmF exF:=by
 refine⟨by decide,fun i hi=>?_⟩;have hi:i<3:=hi;rcases i with _ | _ | _ | i
 ·exact⟨by decide,by decide,by decide,by decide,fun j hj=>absurd hj (MC _),fun j hj=>absurd hj (MC _)⟩
 ·exact⟨by decide,by decide,by decide,by decide,fun j hj=>absurd hj (MC _),fun j hj=>absurd hj (MC _)⟩
 ·refine⟨by decide,by decide,by decide,by decide,fun j hj=>?_,fun j hj=>absurd hj (MC _)⟩;have hj:j<1:=hj;have:j=0:=by omega
  subst this;decide
 omega
theorem Kz:Cr exF:=by
 intro b hb i hi;have hb:b<3:=hb;rcases b with _ | _ | _ | b
 ·exact absurd hi (MC _)
 ·exact absurd hi (MC _)
 ·have hi:i<1:=hi;have:i=0:=by omega
  subst this;exact⟨by decide,by decide,by decide⟩
 omega
theorem lT{h0 h h':Heap}(hle:(vw h).le (vw h')):(fresh h0 h).le (fresh h0 h'):=fun b o hb=>by
 unfold fresh at hb ⊢;split at hb
 ·cases hb
 rename_i e;rw[if_neg e];exact hle b o hb
theorem zw{h0 h:Heap}{b:Nat}(hb:h0.size<=b):fresh h0 h b=h[b]?:=by unfold fresh;rw[if_neg (by omega)]
theorem CL{po:OP}{n:Nat}{ty:TypeId}{ps:Array (Nat × Operand)}{us:List (Nat × Value)}{vs:List Value}{ds:List Int}{h0 h:Heap}{K:Value->Heap->Prop}(hs:h0.size<=h.size)(hp:ps.map (fun p=>(p.1,asg us p.2))=((vs.zipIdx 0).map fun p=>(p.2,p.1)).toArray)(hr:oe nothing vs ds)(hn:ds.length=n)(hb:n<=1000)(hk : ∀u h',(vw h).le (vw h')->h0.size<=h'.size->SlRd (fresh h0 h') u ds->K u h'):@Lft.step po Tryz.prog (.buildSlice T.aS n ps) ty us h K:=
 lA (α:=Int) rfl El.aS hp hr dg hn (by omega) fun u h' hle hsz hY _=>hk u h' hle (by omega) (hY _ dg (zw hs))
theorem FK{po:OP}{α:Type}[Rep α]{t e bytes n:Nat}{z:Value}{ty:TypeId}{ps:Array (Nat × Operand)}{us:List (Nat × Value)}{vs:List Value}{ds:List α}{h0 h:Heap}{K:Value->Heap->Prop}(hs:h0.size<=h.size)(hT:ff Tryz.prog t e (Rep.n α) bytes z)(hp:ps.map (fun p=>(p.1,asg us p.2))=((vs.zipIdx 0).map fun p=>(p.2,p.1)).toArray)(hr:oe (fresh h0 h) vs ds)(hn:ds.length=n)(hb:n*Rep.n α<=16777216)(hb2:n<=1000)(hk : ∀u h',(vw h).le (vw h')->h0.size<=h'.size->SlRd (fresh h0 h') u ds->K u h'):@Lft.step po Tryz.prog (.buildSlice t n ps) ty us h K:=
 G2 hT hp hr hn hb (by omega) fun u h' hle hsz hY _=>hk u h' hle (by omega) (hY _ (lT hle) (zw hs))
theorem BC{h:Heap}:az Tryz.prog N.eW #[] h (fun u h'=>(vw h).le (vw h')/\Rd (vw h') u exF):=by
 refine aq (args:=[]) follows F.eW E.eW (LD (by kernel_rfl)) fun Kc hK=>?_;dsimp only[L.eW];refine aa fun z hz=>?_;simp;refine eZ (z:=.agg #[.int .i64 0,.slice none 0 0]) (by kernel_rfl) ?_;have q1:=bm h (.cells (Value.agg #[.int .i64 0,.slice none 0 0]).cells T.ar);have b1:(h.push (.cells (Value.agg #[.int .i64 0,.slice none 0 0]).cells T.ar))[h.size]? = some (.cells (Value.agg #[.int .i64 0,.slice none 0 0]).cells T.ar (0,0)):=by simp
 have z1:h.size<(h.push (.cells (Value.agg #[.int .i64 0,.slice none 0 0]).cells T.ar)).size:=by simp
 generalize h.push (.cells (Value.agg #[.int .i64 0,.slice none 0 0]).cells T.ar)=h1 at q1 b1 z1;subst hz;refine aa fun z hz=>?_;simp;refine CL (LG h1.size) (vs:=[.int .i64 0]) (ds:=[0]) (by simp) ⟨mN (by decide) (by decide),trivial⟩ rfl (by decide) fun u1 h2 q2 z2 s1=>?_;obtain⟨as1,cs1,es1,_⟩:=id s1;subst es1;refine CL z2 (vs:=[.int .i64 1,.int .i64 2]) (ds:=[1,2]) (by simp) ⟨mN (by decide) (by decide),mN (by decide) (by decide),trivial⟩ rfl (by decide) fun u2 h3 q3 z3 s2=>?_;obtain⟨as2,cs2,es2,_⟩:=id s2;subst es2;refine aE (z:=.agg #[.int .i64 0,.slice none 0 0,.slice none 0 0,.int .i32 0]) (places:=[(0,1),(1,1),(2,1),(3,1)]) (vs:=[(0,.int .i64 2),(1,.slice as1 1 cs1),(2,.slice as2 2 cs2)]) (cs:=#[.int .i64 2,.slice as1 1 cs1,.slice as2 2 cs2,.int .i32 0]) (by kernel_rfl) (by kernel_rfl) (by simp) (by rfl) ?_;refine aE (z:=.agg #[.slice none 0 0,.slice none 0 0,.int .i64 0,.slice none 0 0,.slice none 0 0,.int .i32 0]) (places:=[(0,1),(1,1),(2,4)]) (vs:=[(2,.agg #[.int .i64 2,.slice as1 1 cs1,.slice as2 2 cs2,.int .i32 0])]) (cs:=#[.slice none 0 0,.slice none 0 0,.int .i64 2,.slice as1 1 cs1,.slice as2 2 cs2,.int .i32 0]) (by kernel_rfl) (by kernel_rfl) (by simp) (by rfl) ?_;refine CL z3 (vs:=[.int .i64 2]) (ds:=[2]) (by simp) ⟨mN (by decide) (by decide),trivial⟩ rfl (by decide) fun u5 h4 q4 z4 s5=>?_;obtain⟨as5,cs5,es5,_⟩:=id s5;subst es5;refine aE (z:=.agg #[.int .i64 0,.slice none 0 0,.slice none 0 0,.int .i32 0]) (places:=[(0,1),(1,1),(2,1),(3,1)]) (vs:=[(0,.int .i64 1),(2,.slice as5 1 cs5)]) (cs:=#[.int .i64 1,.slice none 0 0,.slice as5 1 cs5,.int .i32 0]) (by kernel_rfl) (by kernel_rfl) (by simp) (by rfl) ?_;refine aE (z:=.agg #[.slice none 0 0,.slice none 0 0,.int .i64 0,.slice none 0 0,.slice none 0 0,.int .i32 0]) (places:=[(0,1),(1,1),(2,4)]) (vs:=[(2,.agg #[.int .i64 1,.slice none 0 0,.slice as5 1 cs5,.int .i32 0])]) (cs:=#[.slice none 0 0,.slice none 0 0,.int .i64 1,.slice none 0 0,.slice as5 1 cs5,.int .i32 0]) (by kernel_rfl) (by kernel_rfl) (by simp) (by rfl) ?_;refine aE (z:=.agg #[.int .i64 0,.int .i64 0]) (places:=[(0,1),(1,1)]) (vs:=[(0,.int .i64 0),(1,.int .i64 0)]) (cs:=#[.int .i64 0,.int .i64 0]) (by kernel_rfl) (by kernel_rfl) (by simp) rfl ?_;refine aE (z:=.agg #[.int .i64 0,.int .i64 0]) (places:=[(0,1),(1,1)]) (vs:=[(0,.int .i64 1),(1,.int .i64 0)]) (cs:=#[.int .i64 1,.int .i64 0]) (by kernel_rfl) (by kernel_rfl) (by simp) rfl ?_;have rin : ∀k:Int,I64 k->Rd (fresh h1 h4) (.agg #[.int .i64 k,.int .i64 0]) (InD.mk k 0):=fun k hk=>⟨_,rfl,[.int .i64 k],_,rfl,⟨rfl,hk⟩,rfl,⟨(by decide:(-9223372036854775808:Int)<=0),(by decide:(0:Int)<=9223372036854775807)⟩⟩;refine FK (α:=InD) z4 (vs:=[.agg #[.int .i64 0,.int .i64 0],.agg #[.int .i64 1,.int .i64 0]]) (ds:=[⟨0,0⟩,⟨1,0⟩]) El.bZ (by simp) ⟨rin 0 ⟨by decide,by decide⟩,rin 1 ⟨by decide,by decide⟩,trivial⟩ rfl (by decide) (by decide) fun u10 h5 q5 z5 s10=>?_;obtain⟨as10,cs10,es10,_⟩:=id s10;subst es10;refine aE (z:=.agg #[.int .i64 0,.slice none 0 0]) (places:=[(0,1),(1,1)]) (vs:=[(0,.int .i64 1),(1,.slice as10 2 cs10)]) (cs:=#[.int .i64 1,.slice as10 2 cs10]) (by kernel_rfl) (by kernel_rfl) (by simp) rfl ?_;refine FK (α:=PhiD) z5 (vs:=[.agg #[.int .i64 1,.slice as10 2 cs10]]) (ds:=[⟨1,[⟨0,0⟩,⟨1,0⟩]⟩]) El.gM (by simp) ⟨uU ⟨by decide,by decide⟩ s10,trivial⟩ rfl (by decide) (by decide) fun u12 h6 q6 z6 s12=>?_;obtain⟨as12,cs12,es12,_⟩:=id s12;subst es12;refine CL z6 (vs:=[.int .i64 1]) (ds:=[1]) (by simp) ⟨mN (by decide) (by decide),trivial⟩ rfl (by decide) fun u13 h7 q7 z7 s13=>?_;obtain⟨as13,cs13,es13,_⟩:=id s13;subst es13;refine aE (z:=.agg #[.int .i64 0,.slice none 0 0,.slice none 0 0,.int .i32 0]) (places:=[(0,1),(1,1),(2,1),(3,1)]) (vs:=[(0,.int .i64 4),(1,.slice as13 1 cs13)]) (cs:=#[.int .i64 4,.slice as13 1 cs13,.slice none 0 0,.int .i32 0]) (by kernel_rfl) (by kernel_rfl) (by simp) (by rfl) ?_;refine aE (z:=.agg #[.slice none 0 0,.slice none 0 0,.int .i64 0,.slice none 0 0,.slice none 0 0,.int .i32 0]) (places:=[(0,1),(1,1),(2,4)]) (vs:=[(0,.slice as12 1 cs12),(2,.agg #[.int .i64 4,.slice as13 1 cs13,.slice none 0 0,.int .i32 0])]) (cs:=#[.slice as12 1 cs12,.slice none 0 0,.int .i64 4,.slice as13 1 cs13,.slice none 0 0,.int .i32 0]) (by kernel_rfl) (by kernel_rfl) (by simp) (by rfl) ?_;have l2:=View.le_trans q3 (View.le_trans q4 (View.le_trans q5 (View.le_trans q6 q7)))
 have l3:=View.le_trans q4 (View.le_trans q5 (View.le_trans q6 q7));have l4:=View.le_trans q5 (View.le_trans q6 q7);refine FK (α:=BlkD) z7 (vs:=[.agg #[.slice none 0 0,.slice none 0 0,.int .i64 2,.slice as1 1 cs1,.slice as2 2 cs2,.int .i32 0],.agg #[.slice none 0 0,.slice none 0 0,.int .i64 1,.slice none 0 0,.slice as5 1 cs5,.int .i32 0],.agg #[.slice as12 1 cs12,.slice none 0 0,.int .i64 4,.slice as13 1 cs13,.slice none 0 0,.int .i32 0]]) (ds:=exF.blocks) El.fH (by simp)
  ⟨rB fo fo (s1.mono (lT l2)) (s2.mono (lT l3)) ⟨by decide,by decide⟩ ⟨by decide,by decide⟩,rB fo fo fo (s5.mono (lT l4)) ⟨by decide,by decide⟩ ⟨by decide,by decide⟩,rB (s12.mono (lT q7)) fo s13 fo ⟨by decide,by decide⟩ ⟨by decide,by decide⟩,trivial⟩ (by rfl) (by decide) (by decide) fun u16 h8 q8 z8 s16=>?_;have l1:=View.le_trans q2 (View.le_trans l2 q8);obtain⟨as16,cs16,es16,_⟩:=id s16;have es16:u16 = .slice as16 3 cs16:=es16;subst es16;refine aE (z:=.agg #[.int .i64 0,.slice none 0 0]) (places:=[(0,1),(1,1)]) (vs:=[(0,.int .i64 1),(1,.slice as16 3 cs16)]) (cs:=#[.int .i64 1,.slice as16 3 cs16]) (by kernel_rfl) (by kernel_rfl) (by simp) rfl ?_;refine eR (g:=h.size) (o:=0) (n:=2) (v:=.agg #[.int .i64 1,.slice as16 3 cs16]) (cur:=(Value.agg #[.int .i64 0,.slice none 0 0]).cells) (e:=T.ar) (by kernel_rfl) rfl rfl rfl (by simp[Value.cells,Value.oneCell']) (l1 _ _ b1) (by decide) fun h9 hs9 ⟨row,hrow,he⟩ ho9=>?_;have hrow2:row=(Value.agg #[.int .i64 1,.slice as16 3 cs16]).cells:=by rw[<-Array.toList_inj,he];simp[Value.cells]
 subst hrow2;have hf9:(fresh h1 h8).le (vw h9):=fun b o hb=>by
  unfold fresh at hb;split at hb
  ·cases hb
  rename_i e;show h9[b]? = _;rw[ho9 b (by omega)];exact hb
 have s9:=s16.mono hf9;have at9:At (vw h9) ⟨h.size,0,none⟩ exF:=oW (v:=.agg #[.int .i64 1,.slice as16 3 cs16]) (t:=T.ar) (fz:=(0,0)) hrow ⟨_,rfl,[.int .i64 1],[_],rfl,⟨rfl,by decide,by decide⟩,_,rfl,s9⟩;obtain⟨u,hu,hr⟩:=at9.al rfl;have hu:Un.ev (vw h9) (.al 2) (.pointer (some ⟨h.size,0,none⟩))=some u:=hu;subst hz;simp[hu];refine hK _ _ ⟨fun b o hb=>?_,hr⟩;have hb':h[b]? = some o:=hb;have hlt:=(Array.getElem?_eq_some_iff.1 hb').1;show h9[b]? = _;rw[ho9 b (by omega)];exact l1 _ _ (q1 _ _ hb)
theorem D4{h:Heap}:az Tryz.prog N.gu #[] h (fun u h'=>u = .bool true/\(vw h).le (vw h')):=by
 refine aq (args:=[]) follows F.gu E.gu (LD (by kernel_rfl)) fun Kc hK=>?_;dsimp only[L.gu];refine aa fun z hz=>?_;simp;subst hz;refine aa fun z hz=>?_;simp;refine aj (by kernel_rfl) BC ?_;rintro fv h1 ⟨q1,r1⟩;refine aj (by kernel_rfl) (rh 0 (Owns.start (View.le_refl (vw h1))) (fun _ _ _=>rfl) r1 KC fun _=>Kz) ?_;rintro u h2 ⟨W2,hW2,⟨hne,_⟩ | ⟨_,o2,vb,V,rfl,ip,w2,g2,_⟩⟩
 ·exact absurd Li hne
 rw[GB]at g2;have hp:exG.params=1:=rfl;have rG:Rd (vw h2) (.agg #[.int .i64 1,vb]) exG:=g2.rdF w2 ip;have hep:exF.params=1:=rfl;simp[hep];refine fm (α:=an) (d:=exG) (X:=vw h2) (z:=.agg #[.int .i64 0,.slice none 0 0]) (v:=.agg #[.int .i64 1,vb]) (by kernel_rfl) rfl (by kernel_rfl) rG (fun _=>by simp) (fun _=>by simp) fun h3 q3 _ hY=>?_;have at3:=hY (vw h3) q3 rfl
 generalize h2.size=B at at3;obtain⟨_,vb',cb,sb⟩:=fM at3;have sb:SlRd (vw h3) vb' exG.blocks:=sb;have l4:exG.blocks.length=4:=rfl;obtain⟨v0,c0,s0⟩:=(((sb.at (i:=0) (by decide)).part BlkD.kz).part da.tY).sl;obtain⟨v2,c2,s2⟩:=((sb.at (i:=2) (by decide)).part BlkD.km).sl;have k3:=(((sb.at (i:=3) (by decide)).part BlkD.kz).part da.wz).int;have s0:SlRd (vw h3) v0 ([1,3]:List Int):=s0;have s2:SlRd (vw h3) v2 ([⟨1,[⟨1,0⟩,⟨3,0⟩]⟩]:List PhiD):=s2;obtain⟨v5,c5,s5⟩:=((s2.at (i:=0) (by decide)).part PhiD.jr).sl;have s5:SlRd (vw h3) v5 ([⟨1,0⟩,⟨3,0⟩]:List InD):=s5;have a1:=(s0.at (i:=1) (by decide)).int;have f0:=((s5.at (i:=0) (by decide)).part InD.mE).int;have f1:=((s5.at (i:=1) (by decide)).part InD.mE).int;have k3:ao (vw h3) ((((slA vb').add (3*6)).add 2).add 0)=some (.int .i64 1):=k3;have n6 : ∀i:Nat,i<4->Bn.ev (.idx 6) vb' (.int .i64 i)=some (.pointer (some ((slA vb').add (i*6)))):=fun i hi=>by have:=sb.idxn (N:=6) rfl (k:=.i64) (i:=i) (by omega) (by rw[l4];omega);simpa using this
 have n60:Bn.ev (.idx 6) vb' (.int .i64 0)=some (.pointer (some ((slA vb').add (0*6)))):=n6 0 (by decide);have n62:Bn.ev (.idx 6) vb' (.int .i64 2)=some (.pointer (some ((slA vb').add (2*6)))):=n6 2 (by decide);have n63:Bn.ev (.idx 6) vb' (.int .i64 3)=some (.pointer (some ((slA vb').add (3*6)))):=n6 3 (by decide);have n2:Bn.ev (.idx 2) v2 (.int .i64 0)=some (.pointer (some ((slA v2).add (0*2)))):=s2.idxn (N:=2) rfl (k:=.i64) (i:=0) (by decide) (by decide);have m0:Bn.ev (.idx 2) v5 (.int .i64 0)=some (.pointer (some ((slA v5).add (0*2)))):=s5.idxn (N:=2) rfl (k:=.i64) (i:=0) (by decide) (by decide);have m1:Bn.ev (.idx 2) v5 (.int .i64 1)=some (.pointer (some ((slA v5).add (1*2)))):=s5.idxn (N:=2) rfl (k:=.i64) (i:=1) (by decide) (by decide);have t1:Bn.ev (.idx 1) v0 (.int .i64 1)=some (.pointer (some ((slA v0).add (1*1)))):=s0.idxn (N:=1) rfl (k:=.i64) (i:=1) (by decide) (by decide);subst hz;refine aa fun z hz=>?_;have c0:ao (vw h3) ((((slA vb').add 0).add 2).add 2)=some v0:=c0
 have c2:ao (vw h3) (((slA vb').add 12).add 0)=some v2:=c2;have k3:ao (vw h3) ((((slA vb').add 18).add 2).add 0)=some (.int .i64 1):=k3;have c5:ao (vw h3) (((slA v2).add 0).add 1)=some v5:=c5;have a1:ao (vw h3) ((slA v0).add 1)=some (.int .i64 3):=a1;have f0:ao (vw h3) (((slA v5).add 0).add 0)=some (.int .i64 1):=f0;have f1:ao (vw h3) (((slA v5).add 2).add 0)=some (.int .i64 3):=f1;have l0:=s0.len (K:=vw h3);have l2:=s2.len (K:=vw h3);have l5:=s5.len (K:=vw h3);simp only[Ny,OB,Nat.reduceMul,Nl,N6,Nt,Nat.reduceAdd,Int.natCast_zero,Int.cast_ofNat_Int]at n60 n62 n63 n2 m0 m1 t1 l0 l2 l5;simp[cb,sb.len,l4,n60,n62,n63,n2,m0,m1,t1,c0,c2,c5,k3,a1,f0,f1,l0,l2,l5];subst hz;refine aa fun z hz=>?_;simp[cb,n60,n62,n63,n2,m0,m1,t1,c0,c2,c5,k3,a1,f0,f1];subst hz;simp[cb,n60,n62,n63,n2,m0,m1,t1,c0,c2,c5,k3,a1,f0,f1];refine hK _ _ ⟨rfl,?_⟩;exact View.le_trans q1 (View.le_trans hW2 (View.le_trans w2.wle q3))
theorem DW{α:Type}[Inhabited α]{l m:List α}{i:Nat}(h:i<l.length):nth (l++m) i=nth l i:=by rw[ak (show i<(l++m).length by rw[LH];omega),ak h,Nv h]
section
variable {f:an} {ed:List (Int × Int)}
theorem eO:(onE ed f).blocks.length=f.blocks.length+ed.length:=by simp[onE]
theorem nL{a:Nat}(ha:a<f.blocks.length):nth (onE ed f).blocks a=blE ed f.blocks.length a (nth f.blocks a):=by unfold onE;dsimp only;rw[DW (by simpa using ha),eQ ha]
theorem kK{k:Nat}(hk:k<ed.length):nth (onE ed f).blocks (f.blocks.length+k)=eK (nth ed k).2:=by unfold onE;dsimp only;rw[ak (by simp;omega),Ni (by simp),ak hk];simp
structure gL (f:an) (ed:List (Int × Int)):Prop where
 hto : ∀a,a<f.blocks.length->∀t∈(nth f.blocks a).term.to,0<=t/\t<f.blocks.length
 hed : ∀e∈ed,eH (ofG f.blocks) e.1 e.2=true
 hnd:ed.Nodup
theorem gL.rng(w:gL f ed){k:Nat}(hk:k<ed.length):(0<=(nth ed k).1/\(nth ed k).1<f.blocks.length)/\0<=(nth ed k).2/\(nth ed k).2<f.blocks.length:=by have h:=w.hed _ (bc hk);rw[et]at h;omega
theorem yp(w:gL f ed){k:Nat}(hk:k<ed.length):putE ed f.blocks.length (nth ed k).1 (nth ed k).2=some ((f.blocks.length:Int)+k):=by unfold putE;have hm:((nth ed k).1,(nth ed k).2)∈ed:=bc hk;rw[if_pos hm];congr 2;have:((nth ed k).1,(nth ed k).2)=ed[k]:=ak hk;rw[this,NV w.hnd]
theorem rA(w:gL f ed){a b:Nat}(ha:a<f.blocks.length)(hb:b<f.blocks.length):eH (ofG (onE ed f).blocks) a b=true↔eH (ofG f.blocks) a b=true/\((a:Int),(b:Int))∉ed:=by
 rw[et,et,eO,LY,nL ha];show _/\(b:Int)∈((nth f.blocks a).term.to.map (toE ed f.blocks.length a))↔_;rw[MR];constructor
 ·rintro⟨_,t,ht,e⟩;unfold toE at e;cases hp:putE ed f.blocks.length a t with
  | none=>rw[hp]at e;simp only[Nd]at e;subst e;refine⟨⟨by omega,ht⟩,fun hm=>?_⟩;unfold putE at hp;rw[if_pos hm]at hp;cases hp
  | some q=>rw[hp]at e;have:=jt hp;simp only[Nf]at e;omega
 rintro⟨⟨_,ht⟩,hn⟩;refine⟨by omega,b,ht,?_⟩;unfold toE putE;rw[if_neg hn];rfl
theorem zi(w:gL f ed){a k:Nat}(ha:a<f.blocks.length)(hk:k<ed.length):eH (ofG (onE ed f).blocks) a ((f.blocks.length+k:Nat):Int)=true↔(nth ed k).1=a:=by
 rw[et,eO,LY,nL ha];show _/\((f.blocks.length+k:Nat):Int)∈((nth f.blocks a).term.to.map (toE ed f.blocks.length a))↔_;rw[MR];have hr:=w.rng hk;have hpk:=yp w hk;constructor
 ·rintro⟨_,t,ht,e⟩;unfold toE at e;cases hp:putE ed f.blocks.length a t with
  | none=>rw[hp]at e;have:=w.hto a ha t ht;simp only[Nd]at e;omega
  | some q=>
   rw[hp]at e;simp only[Nf]at e;unfold putE at hp;split at hp
   ·rename_i hm;have hlt:=NF.2 hm;have hq:=Option.some.inj hp;have hk2:ed.idxOf ((a:Int),t)=k:=by omega
    have:=NO hlt;rw[ak hk];have e2:ed[k]=((a:Int),t):=by rw[<-this];congr 1;exact hk2.symm
    rw[e2]
   cases hp
 intro e;have hm:=w.hed _ (bc hk);rw[et]at hm;refine⟨by omega,(nth ed k).2,?_,?_⟩
 ·have:=hm.2;rw[e,LY]at this;exact this
 unfold toE;rw[<-e,hpk];simp
theorem qQ(w:gL f ed){k:Nat}{b:Int}(hk:k<ed.length):eH (ofG (onE ed f).blocks) ((f.blocks.length+k:Nat):Int) b=true↔(nth ed k).2=b:=by
 rw[et,eO,LY,kK hk];have hr:=w.rng hk;show _/\b∈[(nth ed k).2]↔_;rw[LM];constructor
 ·rintro⟨_,e⟩;exact e.symm
 intro e;exact⟨by omega,e.symm⟩
theorem EO(w:gL f ed){wo:Int}(hwo:wo<f.blocks.length){b:Nat}(h:Re (ofG f.blocks) wo b):Re (ofG (onE ed f).blocks) wo b:=by
 induction h with
 | root h1 h2=>exact .root (by rw[iJ,eO];rw[iJ]at h1;omega) h2
 | @step a b ha he hb ih=>
  have hr:=(et.1 he).1;have la:a<f.blocks.length:=by omega
  have lb:b<f.blocks.length:=by omega
  by_cases hm:((a:Int),(b:Int))∈ed
  ·obtain⟨k,hk,e⟩:=LQ hm;have e1:(nth ed k).1=a:=by rw[ak hk,e]
   have e2:(nth ed k).2=b:=by rw[ak hk,e]
   have s1:Re (ofG (onE ed f).blocks) wo (f.blocks.length+k):=.step ih ((zi w la hk).2 e1) (by omega);exact .step s1 ((qQ w hk).2 e2) hb
  exact .step ih ((rA w la lb).2 ⟨he,hm⟩) hb
theorem CP(w:gL f ed){wo:Int}{x:Nat}(h:Re (ofG (onE ed f).blocks) wo x):(x<f.blocks.length->Re (ofG f.blocks) wo x)/\∀k,k<ed.length->x=f.blocks.length+k->Re (ofG f.blocks) wo (nth ed k).1.toNat:=by
 induction h with
 | root h1 h2=>refine⟨fun hx=>.root (by rw[iJ];exact hx) h2,fun k hk e=>?_⟩;have:=w.rng hk;omega
 | @step a b ha he hb ih=>
  have hr:=(et.1 he).1;rw[eO]at hr;rcases LI a f.blocks.length with la | la
  ·refine⟨fun lb=>?_,fun k hk e=>?_⟩
   ·exact .step (ih.1 la) ((rA w la lb).1 he).1 hb
   subst e;have:=(zi w la hk).1 he;rw[this];exact ih.1 la
  obtain⟨k',rfl⟩ : ∃k',a=f.blocks.length+k':=⟨a-f.blocks.length,by omega⟩;have hk':k'<ed.length:=by omega
  have e2:=(qQ w hk').1 he;have hr':=w.rng hk';refine⟨fun lb=>?_,fun k hk e=>by omega⟩;have hre:=ih.2 k' hk' rfl;have hee:=w.hed _ (bc hk');refine .step hre (?_:eH (ofG f.blocks) _ _=true) hb;rw[<-e2,LX hr'.1.1];exact hee
theorem H2(w:gL f ed){wo:Int}(hwo:wo<f.blocks.length){b:Nat}(hb:b<f.blocks.length):Re (ofG (onE ed f).blocks) wo b↔Re (ofG f.blocks) wo b:=
 ⟨fun h=>(CP w h).1 hb,EO w hwo⟩
end
theorem Fa{f:an}:(gD f).length<=f.blocks.length*f.blocks.length:=by unfold gD ji;refine L9 (N8 _ _) ?_;rw[nc,iJ];refine xP fun a _=>?_;have:=rY (g:=ofG f.blocks) (a:=a);rw[iJ]at this;exact this
section
variable {s:List Int}
end
theorem Jn{f:an}(m:ke f)(hn:f.blocks.length<=12):Cr f:=by
 intro b hb i hi;have h:=(m.phi b i hb hi).2.1;have hl:(nth (nth f.blocks b).phis i).ins.length=(bf f b).length:=by rw[<-h,L6]
 refine⟨?_,?_,fun x hx=>?_⟩
 ·rw[hl];exact L9 (ij _) hn
 ·rw[h];exact tG.imp fun h=>by omega
 have:x.frm∈bf f b:=by rw[<-h];exact Nu hx
 exact(mP.1 this).1
theorem BJ{f:an}(m:ke f):gL f (gD f) where
 hto a ha t ht:=by have:=(m.endG ha).2 t ht;omega
 hed e he:=(wY.1 he).1
 hnd:=nS
theorem E1{f:an}{ed:List (Int × Int)}(sm:SmF f)(he:f.blocks.length+ed.length<=10000):SmF (onE ed f):=by
 refine⟨by rw[eO];exact he,fun i hi=>?_⟩;rw[eO]at hi;rcases LI i f.blocks.length with h | h
 ·rw[nL h];have q:=sm.blk i h;refine⟨by show(List.map _ _).length<=_;rw[L6];exact q.phis,q.ins,q.args,by show(List.map _ _).length<=_;rw[L6];exact q.to,fun j hj=>?_,q.inn⟩;have hj:j<(nth f.blocks i).phis.length:=by simpa[blE]using hj
  show(nth ((nth f.blocks i).phis.map (phE ed f.blocks.length i)) j).ins.length<=_;rw[ak (by rw[L6];exact hj),NC];show(srt _).length<=_;rw[mR.length_eq,L6,<-ak hj];exact q.phi j hj
 obtain⟨k,rfl⟩ : ∃k,i=f.blocks.length+k:=⟨i-f.blocks.length,by omega⟩;rw[kK (by omega)];exact⟨NA _,NA _,NA _,by show 1<=_;decide,fun j hj=>absurd hj (MC _),fun j hj=>absurd hj (MC _)⟩
theorem EC{s:List Int}{v:Value}{h:Heap}(hs:SlRd (vw h) v s):az Tryz.prog N.ig #[v] h (fun u h'=>h'=h/\SlRd (vw h) u (s.take 400)):=by
 refine aq (args:=[v]) follows F.ig E.ig (LD (by kernel_rfl)) fun Kc hK=>?_;dsimp only[L.ig];have hb:=hs.bound;simp[hs.len];refine⟨fun h1=>?_,fun h1=>?_⟩
 ·obtain⟨u,h2,h3⟩:=hs.take (n:=400) (by omega) (kd:=.i64);have h2:Bn.ev .hi v (.int .i64 400)=some u:=h2;simp[h2];exact hK _ _ ⟨rfl,h3⟩
 refine hK _ _ ⟨rfl,?_⟩;rw[LV (by omega)];exact hs
structure BkW where
 phis:Raw
 ins:List InsD
 term:da
instance:Rep BkW:=Rep.via fun d=>Cat.mk d.phis (Cat.mk d.ins d.term)
instance:Inhabited BkW:=⟨⟨default,[],default⟩⟩
theorem BkW.tY:Part BkW (List Int) 4 (fun d=>d.term.to) (fun d x=>{ d with term:={ d.term with to:=x } }):=(Part.snd (Part.snd da.tY)).via (fun _=>rfl) fun _ _=>rfl
theorem BkW.km:Part BkW Raw 0 BkW.phis (fun d x=>{ d with phis:=x }):=(Part.fst Part.all).via (fun _=>rfl) fun _ _=>rfl
theorem FW{H:View}{vp vi va vt:Value}{i:List InsD}{a t:List Int}{kd:Int}{imm:I32}(h1:vp.oneCell'=true)(h2:SlRd H vi i)(h3:SlRd H va a)(h4:SlRd H vt t)(h5:I64 kd)(h6:-2147483648<=imm.v/\imm.v<=2147483647):Rd H (.agg #[vp,vi,.int .i64 kd,va,vt,.int .i32 imm.v]) (BkW.mk ⟨vp⟩ i ⟨kd,a,t,imm⟩):=
 ⟨_,rfl,[vp],_,rfl,⟨rfl,h1⟩,[vi],_,rfl,⟨vi,rfl,h2⟩,[.int .i64 kd],_,rfl,⟨rfl,h5⟩,[va],_,rfl,⟨va,rfl,h3⟩,[vt],_,rfl,⟨vt,rfl,h4⟩,rfl,h6⟩
theorem G1{H:View}{cs:List Value}{d:BkW}{p:List PhiD}(h:Rep.rd H cs d)(hp:SlRd H d.phis.v p):Rep.rd H cs (BlkD.mk p d.ins d.term):=by obtain⟨c1,r1,e1,⟨h1,_⟩,h2⟩:=h;have h1:c1=[d.phis.v]:=h1;exact⟨c1,r1,e1,⟨d.phis.v,h1,hp⟩,h2⟩
def bkW (v:Value) (d:BlkD):BkW:=⟨⟨v⟩,d.ins,d.term⟩
def phW (pin:Nat->Value) (l:List PhiD) (i:Nat):PhO:=⟨(nth l i).dst,⟨pin i⟩⟩
def fwO (X:Own) (vo:Value) (vp:Nat->Value) (pin:Nat->Nat->Value) (S:Nat->Nat->Bool) (l:List BlkD):Own:=fun k=>
 if k=(0,0) then it T.ay vo (rows (fun b=>bkW (vp b) (nth l b)) l.length)
 else if k.1=1 then(if k.2<l.length then it T.cE (vp k.2) (rows (phW (pin k.2) (nth l k.2).phis) (nth l k.2).phis.length) else none)
 else if 10<=k.1 then(if k.1-10<l.length/\k.2<(nth l (k.1-10)).phis.length/\S (k.1-10) k.2=false then it T.bI (pin (k.1-10) k.2) (nth (nth l (k.1-10)).phis k.2).ins else none)
 else X k
def cwO (base:Own) (n D:Nat) (c:List Value) (vq:Value) (pin:Nat->Value) (ps:List PhiD) (vr:Value) (is:List InsD):Own:=fun k=>
 if k=(4,0) then bx T.ay D (RawN.mk (n:=5) c)
 else if k=(5,0) then it T.cg vr is
 else if k=(1,n) then it T.cE vq (rows (phW pin ps) ps.length)
 else if k.1=10+n then(if k.2<ps.length then it T.bI (pin k.2) (nth ps k.2).ins else none)
 else base k
theorem Owns.frozen{W:View}{h:Heap}{o:Own}{k:Key}{α:Type}[r:Rep α]{e:TypeId}{v:Value}{l:List α}(w:Owns W h (o.upd k (it e v l)))(hk:o k=none): ∃W',W.le W'/\Owns W' h o/\SlRd W' v l:=by
 obtain⟨w1,s1⟩:=w.freeze (k:=k) Own.af;refine⟨_,eD (h:=h) (w.av k _ Own.af),w1.congr fun q=>?_,s1⟩;unfold Own.upd;split
 ·rename_i e;rw[e,hk]
 rfl
section
variable {W:View} {h:Heap} {ob:Own} {n D:Nat} {c c':List Value} {vq v' vr u:Value} {pin:Nat->Value} {ps:List PhiD} {is:List InsD} {p:PhiD}
theorem EA(w:Owns W h ((((cwO ob n D c vq pin ps vr is).upd (10+n,ps.length) (it T.bI u p.ins)).upd (1,n) (it T.cE v' (rows (phW pin ps) ps.length++[⟨p.dst,⟨u⟩⟩]))).upd (4,0) (bx T.ay D (RawN.mk (n:=5) c')))):Owns W h (cwO ob n D c' v' (fun i=>if i=ps.length then u else pin i) (ps++[p]) vr is):=by
 refine w.congr fun q=>?_;unfold cwO;by_cases e1:q=(4,0)
 ·subst e1;rw[Own.af,if_pos rfl]
 rw[Own.ab e1,if_neg e1];by_cases e2:q=(1,n)
 ·subst e2;rw[Own.af,if_neg (by simp),if_pos rfl];congr 1;rw[LH,LJ,eG];congr 1
  ·refine iK fun i hi=>?_;unfold phW;dsimp only;rw[fX hi,if_neg (by omega)]
  unfold phW;dsimp only;rw[gk,if_pos rfl]
 rw[Own.ab e2];by_cases e3:q=(5,0)
 ·subst e3;rw[if_pos rfl,Own.ab (by simp;omega),if_neg (by simp),if_pos rfl]
 rw[if_neg e3,if_neg e2];by_cases e4:q=(10+n,ps.length)
 ·subst e4;rw[Own.af,if_pos rfl,if_pos (by simp)];dsimp only;rw[gk,if_pos rfl]
 rw[Own.ab e4,if_neg e1,if_neg e3,if_neg e2];by_cases e5:q.1=10+n
 ·rw[if_pos e5,if_pos e5];have:q.2≠ps.length:=fun e=>e4 (by rw[<-e5,<-e]);by_cases e6:q.2<ps.length
  ·rw[if_pos (by simp;omega),if_pos e6,fX e6];dsimp only;rw[if_neg this]
  rw[if_neg (by simp;omega),if_neg e6]
 rw[if_neg e5,if_neg e5]
theorem zW:(cwO ob n D c vq pin ps vr is) (4,0)=bx T.ay D (RawN.mk (n:=5) c):=if_pos rfl
theorem CJ:(cwO ob n D c vq pin ps vr is) (5,0)=it T.cg vr is:=by unfold cwO;rw[if_neg (by simp),if_pos rfl]
theorem EB:(cwO ob n D c vq pin ps vr is) (1,n)=it T.cE vq (rows (phW pin ps) ps.length):=by unfold cwO;rw[if_neg (by simp),if_neg (by simp),if_pos rfl]
theorem Jx:(cwO ob n D c vq pin ps vr is) (10+n,ps.length)=none:=by unfold cwO;rw[if_neg (by simp;omega),if_neg (by simp;omega),if_neg (by simp;omega),if_pos rfl,if_neg (OA _)]
theorem Il{D5:Nat}{x:BlkD}{W5:View}{v1 v2 v3 v4:Value}{Q:Post}{ρ:Env}(hat:At W5 ⟨D5,0,none⟩ x)(smx:SmB x)(w:Owns W5 h (cwO ob n D [.slice none 0 0,.slice none 0 0,.int .i64 0,.slice none 0 0,.slice none 0 0,.int .i32 0] (.slice none 0 0) (fun _=>.slice none 0 0) (x.phis.take 0) (.slice none 0 0) is))(hρ:aZ [1,2,3,4,5,6,7] ρ=[1,2,3,4,5,6,7].zip [v1,v2,v3,v4,.pointer (some ⟨D5,0,none⟩),.pointer (some ⟨D,0,none⟩),.int .i64 0])(hQ : ∀h' W vq pin y,W5.le W->Owns W h' (cwO ob n D [vq,.slice none 0 0,.int .i64 0,.slice none 0 0,.slice none 0 0,.int .i32 0] vq pin x.phis (.slice none 0 0) is)->Q .normal ([1,2,3,4,5,6,7].zip [v1,v2,v3,v4,.pointer (some ⟨D5,0,none⟩),.pointer (some ⟨D,0,none⟩),y]) h'):
  LC.wp Tryz.prog L.du.l2.loop (dJ 2 Q) ρ h:=by
 obtain⟨vp,vi,va,vt,bp,bi,bk,ba,bt⟩:=ib hat;have np:=smx.phis;refine aO [1,2,3,4,5,6,7] (fun(_:Unit) j=>[v1,v2,v3,v4,.pointer (some ⟨D5,0,none⟩),.pointer (some ⟨D,0,none⟩),.int .i64 j])
  (fun _ j h7=>∃W vq pin,W5.le W/\Owns W h7 (cwO ob n D [vq,.slice none 0 0,.int .i64 0,.slice none 0 0,.slice none 0 0,.int .i32 0] vq pin (x.phis.take j) (.slice none 0 0) is)) x.phis.length ()
  rfl (by omega) hρ ⟨W5,_,_,View.le_refl _,w⟩ (fun _ _=>rfl) (fun _ j h7 hk ⟨W,vq,_,q1,q2⟩=>by simp[ae (View.le_trans q1 q2.wle) bp.1,(bp.2.mono (View.le_trans q1 q2.wle)).len]) ?_ ?_
 ·rintro _ j h7 hj ⟨W7,vq,pin,hW7,w7⟩ K3 hK3;have bp7:=bp.2.mono hW7;have bc7:=ae hW7 bp.1;have aP:=Cn bp7 (N:=2) rfl hj;obtain⟨vn,cn,sn⟩:=(aP.part PhiD.jr).sl;have cd:=(aP.part PhiD.kQ).int;have rd:=(aP.part PhiD.kQ).rng;have nin:=smx.phi j hj;have htk:x.phis.take (j+1)=x.phis.take j++[nth x.phis j]:=by rw[M0,List.getElem?_eq_getElem hj,ak hj];rfl
  have hlk:(x.phis.take j).length=j:=by simp;omega
  generalize nth x.phis j=p at cn sn cd rd htk nin;generalize x.phis.take j=ps at w7 htk hlk;have c7:=w7.raw (k:=(4,0)) zW (i:=0) (by decide);have c7:ao (vw h7) ⟨D,0,none⟩=some vq:=c7;simp only[aR];refine bF (vw h7) (View.le_refl _) ?_;simp(disch:=omega)[c7,ae w7.wle bc7,(bp7.mono w7.wle).idxn (N:=2) rfl,ae w7.wle cn,ae w7.wle cd];refine w7.dy (k:=(10+n,ps.length)) (α:=InD) Jx El.bZ fun v9 h9 hle9 hv9 w9 av9=>⟨hle9,?_⟩;refine Owns.pO w9 (k:=(10+n,ps.length)) (α:=InD) (v:=v9) (u:=vn) (l2:=p.ins) Own.af El.bZ (by simp) (by simp) sn (by omega) fun v10 h10 w10 hv10 m10=>?_;have t10:=m10 (vw h7) hle9 (av9 _ (View.le_refl _))
  have cc10:=(w10.cells (k:=(10+n,ps.length)) Own.af).1;refine⟨t10,?_⟩;refine aE (z:=.agg #[.int .i64 0,.slice none 0 0]) (places:=[(0,1),(1,1)]) (vs:=[(0,.int .i64 p.dst),(1,v10)]) (cs:=#[.int .i64 p.dst,v10]) (by kernel_rfl) (by kernel_rfl) (by simp) (by simp[Instr.fill,cc10]) ?_;refine⟨t10,?_⟩;refine lg (α:=PhO) (W:=W7) (d:=⟨p.dst,⟨v10⟩⟩) El.gM rfl (Gx rd hv10) fun u11 h11 src hle11 hs11=>⟨View.le_trans t10 hle11,?_⟩;refine(w10.ext' hle11).bw (k:=(1,n)) (α:=PhO) (v:=vq) (l:=rows (phW pin ps) ps.length) (l2:=[⟨p.dst,⟨v10⟩⟩]) (by rw[Own.ab (by simp;omega),Own.ab (by simp;omega)];exact EB) El.gM rfl rfl src (by simp;omega) (by simp;omega) fun v12 h12 w12 m12=>?_;have hv12:=(w12.cells (k:=(1,n)) Own.af).2
  refine w12.bu (k:=(4,0)) (n:=5) (i:=0) (e:=T.ay) (B:=D) (l:=[vq,.slice none 0 0,.int .i64 0,.slice none 0 0,.slice none 0 0,.int .i32 0]) (by rw[Own.ab (by simp),Own.ab (by simp;omega),Own.ab (by simp;omega)];exact zW) (by decide) (by kernel_rfl) rfl rfl hv12 fun h13 w13 _=>?_;refine hK3 () _ _ rfl rfl ⟨W7,v12,fun i=>if i=ps.length then v10 else pin i,hW7,?_⟩;rw[htk];refine EA (c:=[vq,.slice none 0 0,.int .i64 0,.slice none 0 0,.slice none 0 0,.int .i32 0]) (vq:=vq) (c':=[v12,.slice none 0 0,.int .i64 0,.slice none 0 0,.slice none 0 0,.int .i32 0]) (u:=v10) (w13.congr fun q=>?_);by_cases e1:q=(4,0)
  ·subst e1;rw[Own.af,Own.af];rfl
  rw[Own.ab e1,Own.ab e1];by_cases e2:q=(1,n)
  ·subst e2;rw[Own.af,Own.af]
  rw[Own.ab e2,Own.ab e2];by_cases e3:q=(10+n,ps.length)
  ·subst e3;rw[Own.af,Own.af]
  rw[Own.ab e3,Own.ab e3,Own.ab e3]
 rintro _ h7 ⟨W7,vq,pin,hW7,w7⟩;rw[MK]at w7;exact hQ _ _ _ _ _ hW7 w7
theorem JM{vr':Value}{is':List InsD}(w:Owns W h (((cwO ob n D c vq pin ps vr is).upd (5,0) (it T.cg vr' is')).upd (4,0) (bx T.ay D (RawN.mk (n:=5) c')))):Owns W h (cwO ob n D c' vq pin ps vr' is'):=by
 refine w.congr fun q=>?_;unfold cwO;by_cases e1:q=(4,0)
 ·subst e1;rw[Own.af,if_pos rfl]
 rw[Own.ab e1,if_neg e1];by_cases e2:q=(5,0)
 ·subst e2;rw[Own.af,if_pos rfl]
 rw[Own.ab e2,if_neg e1,if_neg e2,if_neg e2]
theorem EZ(w:Owns W h ((cwO ob n D c vq pin ps vr is).upd (4,0) (bx T.ay D (RawN.mk (n:=5) c')))):Owns W h (cwO ob n D c' vq pin ps vr is):=by
 refine w.congr fun q=>?_;unfold cwO;by_cases e1:q=(4,0)
 ·subst e1;rw[Own.af,if_pos rfl]
 rw[Own.ab e1,if_neg e1,if_neg e1]
theorem mJ{q:Key}(h1:q≠(4,0))(h2:q≠(5,0))(h3:q≠(1,n))(h4:q.1≠10+n):(cwO ob n D c vq pin ps vr is) q=ob q:=by unfold cwO;rw[if_neg h1,if_neg h2,if_neg h3,if_neg h4]
theorem Iy{D5:Nat}{x:BlkD}{W5:View}{v1 v2 v3 v4:Value}{Q:Post}{ρ:Env}(hob:ob (4,1)=none/\ob (6,0)=none)(hat:At W5 ⟨D5,0,none⟩ x)(smx:SmB x)(w:Owns W5 h (cwO ob n D [vq,.slice none 0 0,.int .i64 0,.slice none 0 0,.slice none 0 0,.int .i32 0] vq pin ps (.slice none 0 0) (x.ins.take 0)))(hρ:aZ [1,2,3,4,5,6,8] ρ=[1,2,3,4,5,6,8].zip [v1,v2,v3,v4,.pointer (some ⟨D5,0,none⟩),.pointer (some ⟨D,0,none⟩),.int .i64 0])(hQ : ∀h' W vr y,W5.le W->Owns W h' (cwO ob n D [vq,vr,.int .i64 0,.slice none 0 0,.slice none 0 0,.int .i32 0] vq pin ps vr x.ins)->Q .normal ([1,2,3,4,5,6,8].zip [v1,v2,v3,v4,.pointer (some ⟨D5,0,none⟩),.pointer (some ⟨D,0,none⟩),y]) h'):
  LC.wp Tryz.prog L.du.l3.loop (dJ 4 Q) ρ h:=by
 obtain⟨vp,vi,va,vt,bp,bi,bk,ba,bt⟩:=ib hat;have np:=smx.ins;have k41 : ∀{c vr is},(cwO ob n D c vq pin ps vr is) (4,1)=none:=by intros;rw[mJ (by simp) (by simp) (by simp) (by simp;omega)];exact hob.1
 have k60 : ∀{c vr is},(cwO ob n D c vq pin ps vr is) (6,0)=none:=by intros;rw[mJ (by simp) (by simp) (by simp) (by simp;omega)];exact hob.2
 refine aO [1,2,3,4,5,6,8] (fun(_:Unit) j=>[v1,v2,v3,v4,.pointer (some ⟨D5,0,none⟩),.pointer (some ⟨D,0,none⟩),.int .i64 j])
  (fun _ j h7=>∃W vr,W5.le W/\Owns W h7 (cwO ob n D [vq,vr,.int .i64 0,.slice none 0 0,.slice none 0 0,.int .i32 0] vq pin ps vr (x.ins.take j))) x.ins.length ()
  rfl (by omega) hρ ⟨W5,_,View.le_refl _,w⟩ (fun _ _=>rfl) (fun _ j h7 hk ⟨W,vr,q1,q2⟩=>by simp[ae (View.le_trans q1 q2.wle) bi.1,(bi.2.mono (View.le_trans q1 q2.wle)).len]) ?_ ?_
 ·rintro _ j h7 hj ⟨W7,vr,hW7,w7⟩ K3 hK3;have bp7:=bi.2.mono hW7;have bc7:=ae hW7 bi.1;obtain⟨ux,hux,huxr⟩:=bp7.wh rfl (N:=5) rfl hj;have nin:=smx.inn j hj;have htk:x.ins.take (j+1)=x.ins.take j++[nth x.ins j]:=by rw[M0,List.getElem?_eq_getElem hj,ak hj];rfl
  have hlk:(x.ins.take j).length=j:=by simp;omega
  generalize nth x.ins j=p at huxr htk nin;generalize x.ins.take j=is at w7 htk hlk;refine aa fun q hq=>?_;simp(disch:=omega)[ae w7.wle bc7,(bp7.mono w7.wle).idxn (N:=5) rfl,hux _ w7.wle];obtain⟨vin,rfl,hd,h3⟩:=uD huxr;refine w7.mI (k:=(4,1)) (n:=4) (l:=[.int .i64 p.op,.int .i64 p.dst,.int .i64 p.two,vin,.int .i32 p.imm.v]) k41 (z:=.agg #[.int .i64 0,.int .i64 0,.int .i64 0,.slice none 0 0,.int .i32 0]) (by kernel_rfl) rfl (by kernel_rfl) rfl (by decide) (by intro c hc;simp only[L4,MF,or_false]at hc;rcases hc with rfl | rfl | rfl | rfl | rfl<;>first | rfl | exact h3.cells.2) (fun _=>by simp) (fun _=>by simp) fun h8 q8 w8=>?_;generalize h7.size=D8 at w8;subst hq;refine aa fun q hq=>?_;simp;refine w8.dy (k:=(6,0)) (α:=Int) ((Own.ab (by simp)).trans k60) El.aS fun v9 h9 hle9 hv9 w9 av9=>?_;have c9:ao (vw h9) ⟨D8,3,none⟩=some vin:=w9.raw (k:=(4,1)) (e:=T.cg) (B:=D8) (l:=[.int .i64 p.op,.int .i64 p.dst,.int .i64 p.two,vin,.int .i32 p.imm.v]) (n:=4) (by rw[Own.ab (by simp),Own.af]) (i:=3) (by decide);simp[c9];refine Owns.pO w9 (k:=(6,0)) (α:=Int) (v:=v9) (u:=vin) (l2:=p.args) Own.af El.aS (by simp) (by simp) h3 (by omega) fun v10 h10 w10 hv10 _=>?_;obtain⟨W10,hW10,w10,s10⟩:=Owns.frozen (k:=(6,0)) (o:=(cwO ob n D [vq,vr,.int .i64 0,.slice none 0 0,.slice none 0 0,.int .i32 0] vq pin ps vr is).upd (4,1) (bx T.cg D8 (RawN.mk (n:=4) [.int .i64 p.op,.int .i64 p.dst,.int .i64 p.two,vin,.int .i32 p.imm.v]))) (w10.congr fun q=>by unfold Own.upd;split<;>rfl) ((Own.ab (by simp)).trans k60);refine w10.bu (k:=(4,1)) (n:=4) (i:=3) (e:=T.cg) (B:=D8) (l:=[.int .i64 p.op,.int .i64 p.dst,.int .i64 p.two,vin,.int .i32 p.imm.v]) Own.af (by decide) (by kernel_rfl) rfl rfl hv10 fun h11 w11 _=>?_;subst hq;have c11:ao (vw h11) ⟨D,1,none⟩=some vr:=w11.raw (k:=(4,0)) (by rw[Own.ab (by simp),Own.ab (by simp)];exact zW) (i:=1) (by decide)
  have c12:Un.ev (vw h11) (.al 5) (.pointer (some ⟨D8,0,none⟩))=some (.agg #[.int .i64 p.op,.int .i64 p.dst,.int .i64 p.two,v10,.int .i32 p.imm.v]):=w11.dI (k:=(4,1)) (e:=T.cg) (B:=D8) (l:=[.int .i64 p.op,.int .i64 p.dst,.int .i64 p.two,v10,.int .i32 p.imm.v]) (n:=4) Own.af;simp[c11,c12];refine w11.fg (k:=(5,0)) (α:=InsD) (v:=vr) (l:=is) (d:=p) (by rw[Own.ab (by simp),Own.ab (by simp)];exact CJ) El.jf rfl ⟨_,rfl,[.int .i64 p.op],_,rfl,⟨rfl,hd.1⟩,[.int .i64 p.dst],_,rfl,⟨rfl,hd.2.1⟩,[.int .i64 p.two],_,rfl,⟨rfl,hd.2.2.1⟩,[v10],_,rfl,⟨v10,rfl,s10⟩,rfl,hd.2.2.2⟩ (by omega) (by omega) (fun _=>rfl) (fun _=>rfl) fun u13 v13 h13 w13 _=>?_;have hv13:=(w13.cells (k:=(5,0)) Own.af).2
  refine w13.bu (k:=(4,0)) (n:=5) (i:=1) (e:=T.ay) (B:=D) (l:=[vq,vr,.int .i64 0,.slice none 0 0,.slice none 0 0,.int .i32 0]) (by rw[Own.ab (by simp),Own.ab (by simp),Own.ab (by simp)];exact zW) (by decide) (by kernel_rfl) rfl rfl hv13 fun h14 w14 _=>?_;refine hK3 () _ _ rfl rfl ⟨W10,v13,View.le_trans hW7 hW10,?_⟩;rw[htk];refine JM (c:=[vq,vr,.int .i64 0,.slice none 0 0,.slice none 0 0,.int .i32 0]) (vr:=vr) (is:=is) (c':=[vq,v13,.int .i64 0,.slice none 0 0,.slice none 0 0,.int .i32 0]) (w14.sub fun q i hq=>?_);by_cases e1:q=(4,0)
  ·subst e1;rw[Own.af]at hq ⊢;exact hq
  rw[Own.ab e1]at hq ⊢;by_cases e2:q=(5,0)
  ·subst e2;rw[Own.af]at hq ⊢;exact hq
  rw[Own.ab e2]at hq ⊢;by_cases e3:q=(4,1)
  ·subst e3;rw[k41]at hq;cases hq
  rw[Own.ab e3,Own.ab e3];exact hq
 rintro _ h7 ⟨W7,vr,hW7,w7⟩;rw[MK]at w7;exact hQ _ _ _ _ hW7 w7
end
theorem RawN.pm{n m o:Nat}(ho:o+m<=n):Part (RawN n) (RawN m) o (fun d=>⟨(d.l.drop o).take (m+1)⟩) (fun d x=>⟨d.l.take o++x.l++d.l.drop (o+(m+1))⟩) where
 fits:=by show o+(m+1)<=n+1;omega
 get:=by
  rintro H cs d ⟨rfl,h1,h2⟩
  refine⟨rfl,?_,fun u hu=>h2 u (OC (NH hu))⟩
  show((d.l.drop o).take (m+1)).length=m+1
  rw[MA,ME];omega
 set:=by
  rintro H cs us d x ⟨rfl,h1,h2⟩ ⟨rfl,h3,h4⟩
  refine⟨rfl,?_,fun u hu=>?_⟩
  ·show(d.l.take o++x.l++d.l.drop (o+(m+1))).length=n+1
   rw[LH,LH,MA,ME];omega
  ·rcases LP.1 hu with hu | hu
   ·rcases LP.1 hu with hu | hu
    ·exact h2 u (NH hu)
    ·exact h4 u hu
   ·exact h2 u (OC hu)
theorem Bj{f:an}{v:Value}{h:Heap}{W0:View}{X:Own}(w0:Owns W0 h X)(hX : ∀k:Key,(k.1=0\/k.1=1\/k.1=2\/(4<=k.1/\k.1<=6)\/10<=k.1)->X k=none)(hv:Rd W0 v f)(sm:SmF f):
  az Tryz.prog N.du #[v] h (fun u h'=>∃W' vo vp pin,W0.le W'/\Owns W' h' (fwO X vo vp pin (fun _ _=>false) f.blocks)/\u = .agg #[.int .i64 f.params,vo]):=by
 refine aq (args:=[v]) follows F.du E.du (LD (by kernel_rfl)) fun Kc hK=>?_;dsimp only[L.du];refine aa fun z hz=>?_;simp;refine Owns.ru w0 (d:=f) rfl hv fun B h1 W1 hW1 w1 hat hle1=>?_;obtain⟨cp,vb,cb⟩:=fM hat;have ip:=(hat.part an.rC).rng;refine w1.kF (k:=(2,1)) (n:=1) (z:=.agg #[.int .i64 0,.slice none 0 0]) (hX _ (by simp)) (by kernel_rfl) rfl (by decide) (by simp[Value.cells,Value.oneCell']) fun h2 q2 w2=>?_;generalize h1.size=R at w2;subst hz;refine aa fun z hz=>?_;simp[ae w2.wle cp];refine aE (z:=.agg #[.int .i64 0,.slice none 0 0]) (places:=[(0,1),(1,1)]) (vs:=[(0,.int .i64 f.params)]) (cs:=#[.int .i64 f.params,.slice none 0 0]) (by kernel_rfl) (by kernel_rfl) (by simp) (by rfl) ?_;refine w2.mI (k:=(2,0)) (n:=1) (l:=[.int .i64 f.params,.slice none 0 0]) ((Own.ab (by simp)).trans (hX _ (by simp))) (z:=.agg #[.int .i64 0,.slice none 0 0]) (by kernel_rfl) rfl (by kernel_rfl) rfl (by decide) (by simp[Value.oneCell']) (fun _=>by simp) (fun _=>by simp) fun h3 q3 w3=>?_;generalize h2.size=D at w3;obtain⟨bs,hbs⟩ : ∃bs:Value->Own->Own,bs=fun vo o=>(o.upd (2,1) (bx T.ar R (RawN.mk (n:=1) [.int .i64 0,.slice none 0 0]))).upd (2,0) (bx T.ar D (RawN.mk (n:=1) [.int .i64 f.params,vo])):=⟨_,rfl⟩;have w3:Owns W1 h3 (bs (.slice none 0 0) (fwO X (.slice none 0 0) (fun _=>.slice none 0 0) (fun _ _=>.slice none 0 0) (fun _ _=>false) (f.blocks.take 0))):=by
  refine w3.nils fun q i hq=>?_;rw[hbs]at hq;dsimp only at hq;by_cases e1:q=(2,0)
  ·subst e1;rw[Own.af]at hq ⊢;exact .inl hq
  rw[Own.ab e1]at hq ⊢;by_cases e2:q=(2,1)
  ·subst e2;rw[Own.af]at hq ⊢;exact .inl hq
  rw[Own.ab e2]at hq ⊢;unfold fwO at hq;by_cases e3:q=(0,0)
  ·rw[if_pos e3]at hq;cases hq;exact .inr ⟨rfl,OwnT.nil (α:=BkW) _ h3 T.ay⟩
  rw[if_neg e3]at hq;by_cases e4:q.1=1
  ·rw[if_pos e4,if_neg (show ¬q.2<(f.blocks.take 0).length from MC _)]at hq;cases hq
  rw[if_neg e4]at hq;by_cases e5:10<=q.1
  ·rw[if_pos e5,if_neg (fun c=>absurd c.1 (MC _))]at hq;cases hq
  rw[if_neg e5]at hq;exact .inl hq
 subst hz;refine aa fun z hz=>?_;simp;have hbl:=sm.len;refine aO [1,2,3,4] (fun(_:Unit) k=>[.pointer (some ⟨B,0,none⟩),.pointer (some ⟨R,0,none⟩),.pointer (some ⟨D,0,none⟩),.int .i64 k])
  (fun _ k h4=>∃W vo vp pin,W1.le W/\Owns W h4 (bs vo (fwO X vo vp pin (fun _ _=>false) (f.blocks.take k)))) f.blocks.length ()
  rfl (by omega) rfl ⟨W1,_,_,_,View.le_refl _,w3⟩ (fun _ _=>rfl) (fun v k h4 hk ⟨W,vo,_,_,q1,q2⟩=>by simp[ae (View.le_trans q1 q2.wle) cb.1,(cb.2.mono (View.le_trans q1 q2.wle)).len]) ?_ ?_
 ·rintro _ n h4 hn ⟨W4,vo,vp0,pin,hW4,w4⟩ K2 hK2;have cb4:=cb.2.mono hW4;have cc4:=ae hW4 cb.1;obtain⟨ux,hux,huxr⟩:=cb4.wh rfl (N:=6) rfl hn;have smx:=sm.blk n hn;have htk:f.blocks.take (n+1)=f.blocks.take n++[nth f.blocks n]:=by rw[M0,List.getElem?_eq_getElem hn,ak hn];rfl
  have hlk:(f.blocks.take n).length=n:=by simp;omega
  generalize nth f.blocks n=x at huxr htk smx;generalize f.blocks.take n=l at w4 htk hlk;refine aa fun y hy=>?_;simp(disch:=omega)[ae w4.wle cc4,(cb4.mono w4.wle).idxn (N:=6) rfl,hux _ w4.wle];refine fm (X:=W4) (z:=.agg #[.slice none 0 0,.slice none 0 0,.int .i64 0,.slice none 0 0,.slice none 0 0,.int .i32 0]) (by kernel_rfl) rfl (by kernel_rfl) huxr (fun _=>by simp) (fun _=>by simp) fun h5 hle5 hs5 hat5=>?_;have w5:=w4.ext hle5;have hat5:=hat5 (grow W4 h4 h5) (aH w4.wle) (cM (LG _));have hW5:=View.le_trans hW4 (aH (h':=h5) w4.wle);generalize grow W4 h4 h5=W5 at w5 hat5 hW5;generalize h4.size=D5 at hat5;subst hy;refine aa fun y hy=>?_;simp;refine w5.kF (k:=(4,0)) (n:=5) (z:=.agg #[.slice none 0 0,.slice none 0 0,.int .i64 0,.slice none 0 0,.slice none 0 0,.int .i32 0]) (by rw[hbs];exact hX (4,0) (by simp)) (by kernel_rfl) rfl (by decide) (by simp[Value.cells,Value.oneCell']) fun h6 q6 w6=>?_;generalize h5.size=D6 at w6;obtain⟨ob,hob⟩ : ∃ob,ob=bs vo (fwO X vo vp0 pin (fun _ _=>false) l):=⟨_,rfl⟩;rw[<-hob]at w6;have w6:Owns W5 h6 (cwO ob n D6 [.slice none 0 0,.slice none 0 0,.int .i64 0,.slice none 0 0,.slice none 0 0,.int .i32 0] (.slice none 0 0) (fun _=>.slice none 0 0) (x.phis.take 0) (.slice none 0 0) (x.ins.take 0)):=by
   refine w6.nils fun q i hq=>?_;unfold cwO at hq;by_cases e1:q=(4,0)
   ·subst e1;rw[Own.af];exact .inl hq
   rw[Own.ab e1];rw[if_neg e1]at hq;split at hq
   ·cases hq;exact .inr ⟨rfl,OwnT.nil (α:=InsD) _ h6 T.cg⟩
   split at hq
   ·cases hq;exact .inr ⟨rfl,OwnT.nil (α:=PhO) _ h6 T.cE⟩
   split at hq
   ·simp at hq
   exact .inl hq
  subst hy;refine aa fun y hy=>?_;simp;have hob1:ob (4,1)=none/\ob (6,0)=none:=by rw[hob,hbs];exact⟨hX (4,1) (by simp),hX (6,0) (by simp)⟩
  refine Il hat5 smx w6 rfl fun h7 W7 vq pn y7 hW7 w7=>?_;subst hy;refine aa fun y hy=>?_;simp;refine Iy hob1 (hat5.mono hW7) smx w7 rfl fun h8 W8 vr y8 hW8 w8=>?_;subst hy;have hat8:=hat5.mono (View.le_trans hW7 hW8);obtain⟨vp,vi,va,vt,bp,bi,bk,ba,bt⟩:=ib hat8;have hterm:=hat8.part BlkD.kz;obtain⟨uT,huT,huTr⟩:=hterm.al rfl;obtain⟨va',vt',rfl,ta,tt⟩:=F4 huTr;have tk:=(hterm.part da.wz).rng;have ti:-2147483648<=x.term.imm.v/\x.term.imm.v<=2147483647:=by obtain⟨cs,_,c1,r1,_,_,c2,r2,_,_,c3,r3,_,_,_,h6⟩:=hterm;exact h6
  have huT:Un.ev W8 (.al 4) (.pointer (some ⟨D5,2,none⟩))=some (.agg #[.int .i64 x.term.kind,va',vt',.int .i32 x.term.imm.v]):=by have h2:Un.ev W8 (.al 4) (.pointer (some ((⟨D5,0,none⟩:Addr).add 2)))=_:=huT;rwa [vD]at h2
  have huT8:Un.ev (vw h8) (.al 4) (.pointer (some ⟨D5,2,none⟩))=some (.agg #[.int .i64 x.term.kind,va',vt',.int .i32 x.term.imm.v]):=by have:=cV (ρ:=fun _=>none) (e:=.un (.al 4) (.con (.pointer (some ⟨D5,2,none⟩)))) w8.wle (by simpa using huT);simpa using this
  refine aa fun y hy=>?_;simp[huT8];have hvq:=(w8.cells EB).2;have hvr:=(w8.cells CJ).2;refine w8.ez (k:=(4,0)) (e:=T.ay) (B:=D6) (D:=RawN.mk (n:=5) [vq,vr,.int .i64 0,.slice none 0 0,.slice none 0 0,.int .i32 0]) (RawN.pm (n:=5) (m:=3) (o:=2) (by decide)) (d:=RawN.mk (n:=3) [.int .i64 x.term.kind,va',vt',.int .i32 x.term.imm.v]) zW (by kernel_rfl) rfl rfl (eP rfl (by intro c hc;simp only[L4,MF,or_false]at hc;rcases hc with rfl | rfl | rfl | rfl<;>first | rfl | exact ta.cells.2 | exact tt.cells.2)) fun h9 w9 _=>?_;have w9:Owns W8 h9 (cwO ob n D6 [vq,vr,.int .i64 x.term.kind,va',vt',.int .i32 x.term.imm.v] vq pn x.phis vr x.ins):=EZ w9
  have k60 : ∀{c:List Value},(cwO ob n D6 c vq pn x.phis vr x.ins) (6,0)=none:=by intros;rw[mJ (by simp) (by simp) (by simp) (by simp;omega)];exact hob1.2
  subst hy;refine aa fun y hy=>?_;simp;refine w9.dy (k:=(6,0)) (α:=Int) k60 El.aS fun v10 h10 hle10 hv10 w10 av10=>?_;have ca:=ae w10.wle ba.1;simp[ca];refine Owns.pO w10 (k:=(6,0)) (α:=Int) (v:=v10) (u:=va) (l2:=x.term.args) Own.af El.aS (by simp) (by simp) ba.2 (by have:=smx.args;omega) fun v11 h11 w11 hv11 _=>?_;obtain⟨W11,hW11,w11,s11⟩:=Owns.frozen (k:=(6,0)) (o:=cwO ob n D6 [vq,vr,.int .i64 x.term.kind,va',vt',.int .i32 x.term.imm.v] vq pn x.phis vr x.ins) (w11.congr fun q=>by unfold Own.upd;split<;>rfl) k60;refine w11.bu (k:=(4,0)) (n:=5) (i:=3) (e:=T.ay) (B:=D6) (l:=[vq,vr,.int .i64 x.term.kind,va',vt',.int .i32 x.term.imm.v]) zW (by decide) (by kernel_rfl) rfl rfl hv11 fun h12 w12 _=>?_;have w12:Owns W11 h12 (cwO ob n D6 [vq,vr,.int .i64 x.term.kind,v11,vt',.int .i32 x.term.imm.v] vq pn x.phis vr x.ins):=EZ w12
  subst hy;refine aa fun y hy=>?_;simp;refine w12.dy (k:=(6,0)) (α:=Int) k60 El.aS fun v13 h13 hle13 hv13 w13 av13=>?_;have ct:=ae (View.le_trans hW11 w13.wle) bt.1;simp[ct];refine Owns.pO w13 (k:=(6,0)) (α:=Int) (v:=v13) (u:=vt) (l2:=x.term.to) Own.af El.aS (by simp) (by simp) (bt.2.mono hW11) (by have:=smx.to;omega) fun v14 h14 w14 hv14 _=>?_;obtain⟨W14,hW14,w14,s14⟩:=Owns.frozen (k:=(6,0)) (o:=cwO ob n D6 [vq,vr,.int .i64 x.term.kind,v11,vt',.int .i32 x.term.imm.v] vq pn x.phis vr x.ins) (w14.congr fun q=>by unfold Own.upd;split<;>rfl) k60;refine w14.bu (k:=(4,0)) (n:=5) (i:=4) (e:=T.ay) (B:=D6) (l:=[vq,vr,.int .i64 x.term.kind,v11,vt',.int .i32 x.term.imm.v]) zW (by decide) (by kernel_rfl) rfl rfl hv14 fun h15 w15 _=>?_;have w15:Owns W14 h15 (cwO ob n D6 [vq,vr,.int .i64 x.term.kind,v11,v14,.int .i32 x.term.imm.v] vq pn x.phis vr x.ins):=EZ w15
  obtain⟨w16,s16⟩:=w15.freeze (k:=(5,0)) CJ;have hW16:W14.le (W14.plus vr h15):=eD (w15.av (5,0) _ CJ);generalize W14.plus vr h15=W16 at w16 s16 hW16;subst hy;have kD:ob (2,0)=bx T.ar D (RawN.mk (n:=1) [.int .i64 f.params,vo]):=by rw[hob,hbs];exact Own.af
  have kB:ob (0,0)=it T.ay vo (rows (fun b=>bkW (vp0 b) (nth l b)) l.length):=by rw[hob,hbs];rfl
  have c1:ao (vw h15) ⟨D,1,none⟩=some vo:=w16.raw (k:=(2,0)) (e:=T.ar) (B:=D) (l:=[.int .i64 f.params,vo]) (n:=1) (by rw[Own.ab (by simp),mJ (by simp) (by simp) (by simp) (by simp;omega)];exact kD) (i:=1) (by decide);have c2:Un.ev (vw h15) (.al 6) (.pointer (some ⟨D6,0,none⟩))=some (.agg #[vq,vr,.int .i64 x.term.kind,v11,v14,.int .i32 x.term.imm.v]):=w16.dI (k:=(4,0)) (e:=T.ay) (B:=D6) (l:=[vq,vr,.int .i64 x.term.kind,v11,v14,.int .i32 x.term.imm.v]) (n:=5) (by rw[Own.ab (by simp)];exact zW);simp[c1,c2];refine w16.fg (k:=(0,0)) (α:=BkW) (v:=vo) (l:=rows (fun b=>bkW (vp0 b) (nth l b)) l.length) (d:=bkW vq x) (by rw[Own.ab (by simp),mJ (by simp) (by simp) (by simp) (by simp;omega)];exact kB) El.fH rfl (FW hvq s16 (s11.mono (View.le_trans hW14 hW16)) (s14.mono hW16) tk ti) (by simp;omega) (by simp;omega) (fun _=>rfl) (fun _=>rfl) fun u17 v17 h17 w17 _=>?_;have hv17:=(w17.cells (k:=(0,0)) Own.af).2
  refine w17.bu (k:=(2,0)) (n:=1) (i:=1) (e:=T.ar) (B:=D) (l:=[.int .i64 f.params,vo]) (by rw[Own.ab (by simp),Own.ab (by simp),mJ (by simp) (by simp) (by simp) (by simp;omega)];exact kD) (by decide) (by kernel_rfl) rfl rfl hv17 fun h18 w18 _=>?_;refine hK2 () _ _ rfl rfl ⟨W16,v17,fun b=>if b=n then vq else vp0 b,fun b=>if b=n then pn else pin b,View.le_trans hW5 (View.le_trans hW7 (View.le_trans hW8 (View.le_trans hW11 (View.le_trans hW14 hW16)))),?_⟩;rw[htk];refine w18.sub fun q i hq=>?_;have hobq : ∀q:Key,q≠(2,0)->q≠(2,1)->ob q=fwO X vo vp0 pin (fun _ _=>false) l q:=fun q h1 h2=>by rw[hob,hbs];dsimp only;rw[Own.ab h1,Own.ab h2]
  have kR:ob (2,1)=bx T.ar R (RawN.mk (n:=1) [.int .i64 0,.slice none 0 0]):=by rw[hob,hbs];exact(Own.ab (by simp)).trans Own.af
  rw[hbs]at hq;dsimp only at hq;by_cases e1:q=(2,0)
  ·subst e1;rw[Own.af]at hq ⊢;exact hq
  rw[Own.ab e1]at hq ⊢;by_cases e2:q=(2,1)
  ·subst e2;rw[Own.af]at hq;rw[Own.ab (by simp),Own.ab (by simp),mJ (by simp) (by simp) (by simp) (by simp;omega),kR];exact hq
  rw[Own.ab e2]at hq;by_cases e3:q=(0,0)
  ·subst e3;rw[Own.af,<-hq];unfold fwO;rw[if_pos rfl,LH,LJ,eG];congr 2
   ·refine iK fun b hb=>?_;dsimp only;rw[fX hb,if_neg (by omega)]
   dsimp only;rw[gk,if_pos hlk]
  rw[Own.ab e3];unfold fwO at hq;rw[if_neg e3]at hq;split at hq
  ·rename_i e4;split at hq
   ·rename_i e5;rw[LH,LJ]at e5;by_cases e6:q.2=n
    ·have eq:q=(1,n):=by rw[<-e4,<-e6]
     subst eq;rw[Own.ab (by simp),EB,<-hq];dsimp only;have:nth (l++[x]) n=x:=by rw[<-hlk];exact gk
     rw[this,if_pos rfl,if_pos rfl]
    rw[Own.ab (by rintro rfl;simp at e4),mJ (by rintro rfl;simp at e4) (by rintro rfl;simp at e4) (by rintro rfl;exact e6 rfl) (by omega),hobq q e1 e2,<-hq];unfold fwO;rw[if_neg e3,if_pos e4,if_pos (by omega)];dsimp only;rw[fX (by omega),if_neg e6,if_neg e6]
   cases hq
  rename_i e4;split at hq
  ·rename_i e5;split at hq
   ·rename_i e6;obtain⟨g1,g2,g3⟩:=e6;rw[LH,LJ]at g1;by_cases e6:q.1-10=n
    ·have e7:q.1=10+n:=by omega
     rw[e6]at hq g2;have en:nth (l++[x]) n=x:=by rw[<-hlk];exact gk
     rw[en]at hq g2;rw[Own.ab (by rintro rfl;simp at e5),<-hq];unfold cwO;rw[if_neg (by rintro rfl;simp at e5),if_neg (by rintro rfl;simp at e5),if_neg (by rintro rfl;exact e4 rfl),if_pos e7,if_pos g2];dsimp only;rw[if_pos rfl]
    rw[Own.ab (by rintro rfl;simp at e5),mJ (by rintro rfl;simp at e5) (by rintro rfl;simp at e5) (by rintro rfl;exact e4 rfl) (by omega),hobq q e1 e2,<-hq];have eo:nth (l++[x]) (q.1-10)=nth l (q.1-10):=fX (by omega);rw[eo]at g2 ⊢;unfold fwO;rw[if_neg e3,if_neg e4,if_pos e5,if_pos ⟨by omega,g2,rfl⟩];dsimp only;rw[if_neg e6]
   cases hq
  rename_i e5;have n4:q≠(4,0):=by rintro rfl;rw[hX _ (by simp)]at hq;cases hq
  have n5:q≠(5,0):=by rintro rfl;rw[hX _ (by simp)]at hq;cases hq
  rw[Own.ab n5,mJ n4 n5 (by rintro rfl;exact e4 rfl) (by omega),hobq q e1 e2,<-hq];unfold fwO;rw[if_neg e3,if_neg e4,if_neg e5]
 rintro _ h4 ⟨W4,vo,vp,pin,hW4,w4⟩;rw[MK]at w4;simp;subst hz;have kD:(bs vo (fwO X vo vp pin (fun _ _=>false) f.blocks)) (2,0)=bx T.ar D (RawN.mk (n:=1) [.int .i64 f.params,vo]):=by rw[hbs];exact Own.af
 have kR:(bs vo (fwO X vo vp pin (fun _ _=>false) f.blocks)) (2,1)=bx T.ar R (RawN.mk (n:=1) [.int .i64 0,.slice none 0 0]):=by rw[hbs];exact(Own.ab (by simp)).trans Own.af
 have kB:(bs vo (fwO X vo vp pin (fun _ _=>false) f.blocks)) (0,0)=it T.ay vo (rows (fun b=>bkW (vp b) (nth f.blocks b)) f.blocks.length):=by rw[hbs];rfl
 have hvo:=(w4.cells kB).2;have c1:Un.ev (vw h4) (.al 2) (.pointer (some ⟨D,0,none⟩))=some (.agg #[.int .i64 f.params,vo]):=w4.dI (k:=(2,0)) (e:=T.ar) (B:=D) (l:=[.int .i64 f.params,vo]) (n:=1) kD;simp[c1];refine w4.ez (k:=(2,1)) (e:=T.ar) (B:=R) (D:=RawN.mk (n:=1) [.int .i64 0,.slice none 0 0]) Part.all (d:=RawN.mk (n:=1) [.int .i64 f.params,vo]) kR (by kernel_rfl) rfl rfl (eP rfl (by intro c hc;simp only[L4,MF,or_false]at hc;rcases hc with rfl | rfl<;>first | rfl | exact hvo)) fun h5 w5 _=>?_;have c2:Un.ev (vw h5) (.al 2) (.pointer (some ⟨R,0,none⟩))=some (.agg #[.int .i64 f.params,vo]):=w5.dI (k:=(2,1)) (e:=T.ar) (B:=R) (l:=[.int .i64 f.params,vo]) (n:=1) Own.af
 simp[c2];refine hK _ _ ⟨W4,vo,vp,pin,View.le_trans hW1 hW4,w5.sub fun q i hq=>?_,rfl⟩;by_cases e2:q=(2,1)
 ·subst e2;have hq:X (2,1)=some i:=hq;rw[hX _ (by simp)]at hq;cases hq
 rw[Own.ab e2,hbs];dsimp only;by_cases e1:q=(2,0)
 ·subst e1;have hq:X (2,0)=some i:=hq;rw[hX _ (by simp)]at hq;cases hq
 rw[Own.ab e1,Own.ab e2];exact hq
end Go.Proofs.YtbkdlhkoiagbbaaGreat
