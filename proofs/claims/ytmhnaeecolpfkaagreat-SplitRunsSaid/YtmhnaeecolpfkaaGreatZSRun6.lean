/- A part of the proof: Va, Vb, Vc, Tk, Im, In, Io, Ip, Ir, Wu, Wv, Kc, Nb, Nc, Da, Db, Dd, Ea, Ec. -/
import Derived.Test.YtmhnaeecolpfkaaGreatZSRun5
set_option linter.unusedSimpArgs false
set_option linter.unusedVariables false
open Go.Value renaming int->Qy,slice->QD,pointer->QE
open Go.IntKind renaming i64->Qz,i32->QA
open Option renaming some->QB,none->QC
open Bool renaming true->QF,false->QG
open Go.Proofs.Tryz renaming prog->QH
open Go.Proofs
namespace Go.Lft
def mkB(x:BlkD):List Int:=x.phis.map PhiD.dst++x.ins.flatMap bm
def Sd(m:MS)(b p:Nat)(v:Int):Prop:=
 (0<=v/\v<m.ps)\/v∈(nth m.blocks b).phis.map PhiD.dst\/v∈((nth m.blocks b).ins.take p).flatMap bm\/∃a,a<m.blocks.length/\a≠b/\v∈mkB (nth m.blocks a)/\¬Re (ofG m.blocks) a b
structure Ext(m m':MS):Prop where
 ps:m'.ps=m.ps
 len:m'.blocks.length=m.blocks.length
 to : ∀j,(nth m'.blocks j).term.to=(nth m.blocks j).term.to
 phis : ∀j,∀v∈(nth m.blocks j).phis.map PhiD.dst,v∈(nth m'.blocks j).phis.map PhiD.dst
 ins : ∀j,∃l,(nth m'.blocks j).ins=(nth m.blocks j).ins++l
theorem EJ{a b:List BlkD}(hl:a.length=b.length)(h : ∀j,(nth a j).term.to=(nth b j).term.to):ofG a=ofG b:=by unfold ofG;rw[hl];exact congrFun (congrArg rows (funext λi=>by rw[h i])) _
section
variable{m m' m2:MS}
theorem Ext.gr(e:Ext m m'):ofG m'.blocks=ofG m.blocks:=EJ e.len e.to
theorem Ext.refl:Ext m m:=⟨rfl,rfl,λ_=>rfl,λ_ _ h=>h,λ_=>⟨[],by simp⟩⟩
theorem Ext.trans(e:Ext m m')(f:Ext m' m2):Ext m m2:=⟨f.ps.trans e.ps,f.len.trans e.len,λj=>(f.to j).trans (e.to j),λj v h=>f.phis j v (e.phis j v h),λj=>by obtain⟨l,h⟩:=e.ins j;obtain⟨k,g⟩:=f.ins j;exact⟨l++k,by rw[g,h,Nk]⟩⟩
theorem Ext.mkB(e:Ext m m'){j:Nat}{v:Int}(h:v∈mkB (nth m.blocks j)):v∈mkB (nth m'.blocks j):=by
 obtain⟨l,g⟩:=e.ins j;unfold Go.Lft.mkB at *;rw[g,NR];rcases M1.1 h with h | h
 ·exact NC _ (e.phis _ _ h)
 exact NG _ (NC _ h)
theorem Ext.le(e:Ext m m')(j:Nat):(nth m.blocks j).ins.length<=(nth m'.blocks j).ins.length:=by obtain⟨l,g⟩:=e.ins j;rw[g,M3];omega
theorem Sd.ext(e:Ext m m'){b p:Nat}{v:Int}(h:Sd m b p v):Sd m' b p v:=by
 rcases h with h | h | h | ⟨a,h1,h2,h3,h4⟩
 ·exact .inl (by rw[e.ps];exact h)
 ·exact .inr (.inl (e.phis _ _ h))
 ·obtain⟨l,g⟩:=e.ins b;refine .inr (.inr (.inl ?_));rw[g,OA,NR];exact NC _ h
 exact .inr (.inr (.inr ⟨a,by rw[e.len];exact h1,h2,e.mkB h3,by rw[e.gr];exact h4⟩))
variable{b:Nat}
theorem Sd.le{p q:Nat}{v:Int}(h:Sd m b p v)(hpq:p<=q):Sd m b q v:=by
 rcases h with h | h | h | h
 ·exact .inl h
 ·exact .inr (.inl h)
 ·refine .inr (.inr (.inl ?_));obtain⟨i,hi,hv⟩:=Om.1 h;exact Om.2 ⟨i,(List.take_sublist_take_left hpq).subset hi,hv⟩
 exact .inr (.inr (.inr h))
theorem Sd.end(e:Ext m m'){v:Int}(h:Sd m b (nth m.blocks b).ins.length v):Sd m' b (nth m'.blocks b).ins.length v:=(h.ext e).le (e.le b)
def NumI(i:InsD):Prop:=(i.op=16->i.dst=0)/\(i.op≠18->i.two=0)
structure Ok(m:MS):Prop where
 p0:0<=m.ps
 pn:m.ps<=m.next
 op : ∀b,b<m.blocks.length->∀i∈(nth m.blocks b).ins,lr i=QG/\NumI i
 nd : ∀b,b<m.blocks.length->(mkB (nth m.blocks b)).Nodup
 dj : ∀a b,a<m.blocks.length->b<m.blocks.length->a≠b->∀v∈mkB (nth m.blocks a),v∉mkB (nth m.blocks b)
 rg : ∀b,b<m.blocks.length->∀v∈mkB (nth m.blocks b),m.ps<=v/\v<m.next
 tk : ∀b,b<m.blocks.length->∀i,i<(nth m.blocks b).ins.length->∀v∈(nth (nth m.blocks b).ins i).args,Sd m b i v
 tm : ∀b,b<m.blocks.length->∀v∈(nth m.blocks b).term.args,Sd m b (nth m.blocks b).ins.length v
theorem Ok.at(q:Ok m){a:Nat}{nx:Int}{l:List Int}(h:m.next<=nx):Ok ⟨a,m.ps,m.blocks,nx,l⟩:=
 ⟨q.p0,Qm q.pn h,q.op,q.nd,q.dj,λb hb v hv=>⟨(q.rg b hb v hv).1,Int.lt_of_lt_of_le (q.rg b hb v hv).2 h⟩,q.tk,q.tm⟩
theorem qn{j:Nat}{i:InsD}(hb:b<m.blocks.length):nth (m.add b i).blocks j=if b=j then{ nth m.blocks b with ins:=(nth m.blocks b).ins++[i] } else nth m.blocks j:=by
 show nth (m.blocks.set b _) j=_;rcases M0 j m.blocks.length with hl | hl
 ·rw[aK hl]
 rw[aW (by simpa using hl),if_neg Q1,aW hl]
theorem yJ{i:InsD}(hb:b<m.blocks.length):Ext m (m.add b i):=by
 refine⟨rfl,kP,λj=>?_,λj=>?_,λj=>?_⟩<;>rw[qn hb]<;>split
 ·rename_i e;rw[e]
 ·rfl
 ·rename_i e;rw[e];exact λ_ h=>h
 ·exact λ_ h=>h
 ·rename_i e;rw[e];exact⟨[i],rfl⟩
 exact⟨[],by simp⟩
theorem vh{x:BlkD}{i:InsD}:mkB { x with ins:=x.ins++[i] }=mkB x++bm i:=by unfold mkB;simp
theorem Ok.add(q:Ok m){b a:Nat}{nx:Int}{i:InsD}{l:List Int}(hb:b<m.blocks.length)(hn:m.next<=nx)(hf : ∀v∈bm i,m.next<=v/\v<nx)(hd:(bm i).Nodup)(ho:lr i=QG/\NumI i)(ha : ∀v∈i.args,Sd m b (nth m.blocks b).ins.length v) :
  Ok (MS.add ⟨a,m.ps,m.blocks,nx,l⟩ b i):=by
 have q1:=q.pn;have q:=q.at (a:=a) (l:=l) hn;have ha : ∀v∈i.args,Sd ⟨a,m.ps,m.blocks,nx,l⟩ b (nth m.blocks b).ins.length v:=ha;have q0 : ∀b,b<m.blocks.length->∀v∈mkB (nth m.blocks b),v<m.next:=λb hb v hv=>(‹Ok m›.rg b hb v hv).2;have hl:((⟨a,m.ps,m.blocks,nx,l⟩:MS).add b i).blocks.length=m.blocks.length:=kP;have e:=yJ (m:=⟨a,m.ps,m.blocks,nx,l⟩) (i:=i) hb;have hnth : ∀j,nth ((⟨a,m.ps,m.blocks,nx,l⟩:MS).add b i).blocks j=if b=j then{ nth m.blocks b with ins:=(nth m.blocks b).ins++[i] } else nth m.blocks j:=λj=>qn hb;refine⟨q.p0,q.pn,λc hc=>?_,λc hc=>?_,λc d hc hd' hcd=>?_,λc hc=>?_,λc hc=>?_,λc hc=>?_⟩<;>rw[hl]at hc
 ·rw[hnth];split
  ·intro x hx;rcases M1.1 hx with hx | hx
   ·exact q.op b hb x hx
   rw[MZ.1 hx];exact ho
  exact q.op c hc
 ·rw[hnth];split
  ·rw[vh];refine N3.2 ⟨q.nd b hb,hd,λx hx y hy=>?_⟩;have:=q0 b hb x hx;have:=(hf y hy).1;omega
  exact q.nd c hc
 ·rw[hl]at hd';rw[hnth,hnth];intro v hv hv';split at hv
  ·rename_i e1;subst e1;rw[if_neg hcd]at hv';rw[vh]at hv;rcases M1.1 hv with hv | hv
   ·exact q.dj _ _ hc hd' hcd v hv hv'
   have:=q0 d hd' v hv';have:=(hf v hv).1;omega
  split at hv'
  ·rename_i e1;subst e1;rw[vh]at hv';rcases M1.1 hv' with hv' | hv'
   ·exact q.dj _ _ hc hd' hcd v hv hv'
   have:=q0 c hc v hv;have:=(hf v hv').1;omega
  exact q.dj _ _ hc hd' hcd v hv hv'
 ·rw[hnth];split
  ·intro v hv;rw[vh]at hv;rcases M1.1 hv with hv | hv
   ·exact q.rg b hb v hv
   have h1:=hf v hv;have h2:m.ps<=m.next:=q1;exact⟨by show m.ps<=v;omega,h1.2⟩
  exact q.rg c hc
 ·intro k hk v hv;refine Sd.ext e ?_;rw[hnth]at hk hv;split at hk
  ·rename_i e1;subst e1;rw[if_pos rfl]at hv;rw[show({ nth m.blocks b with ins:=(nth m.blocks b).ins++[i] }:BlkD).ins=(nth m.blocks b).ins++[i] from rfl]at hk hv;rw[M3,M6]at hk;rcases M0 k (nth m.blocks b).ins.length with h | h
   ·rw[ao Q8,Oa h,<-ao h]at hv;exact q.tk b hb k h v hv
   have:k=(nth m.blocks b).ins.length:=by omega
   subst this;rw[ao Sb,N5 (MY _)]at hv;simp at hv;exact ha v hv
  rename_i e1;rw[if_neg e1]at hv;exact q.tk c hc k hk v hv
 intro v hv;have ht:(nth ((⟨a,m.ps,m.blocks,nx,l⟩:MS).add b i).blocks c).term=(nth m.blocks c).term:=by
  rw[hnth];split
  ·rename_i e1;rw[e1]
  rfl
 rw[ht]at hv;exact(q.tm c hc v hv).end e
theorem F7{a:Nat}{nx:Int}{i:InsD}{l:List Int}(hb:b<m.blocks.length){v:Int}(hv:v∈bm i):Sd (MS.add ⟨a,m.ps,m.blocks,nx,l⟩ b i) b (nth (MS.add ⟨a,m.ps,m.blocks,nx,l⟩ b i).blocks b).ins.length v:=by rw[qn (m:=⟨a,m.ps,m.blocks,nx,l⟩) hb,if_pos rfl];refine .inr (.inr (.inl ?_));rw[qn (m:=⟨a,m.ps,m.blocks,nx,l⟩) hb,if_pos rfl];show v∈((((nth m.blocks b).ins++[i]).take ((nth m.blocks b).ins++[i]).length).flatMap bm);rw[NQ,NR];exact NG _ (by simpa using hv)
structure In(b:Nat)(m:MS):Prop where
 ok:Ok m
 lt:b<m.blocks.length
 live : ∀v∈m.live,Sd m b (nth m.blocks b).ins.length v
structure Wk(b k:Nat)(m m':MS):Prop where
 inn:In b m'
 live : ∀v∈m.live,v∈m'.live
 n0:m.next<=m'.next
 nx:m'.next<=m.next+k
 ins:(nth m'.blocks b).ins.length<=(nth m.blocks b).ins.length+k
 ext:Ext m m'
variable{b c k l:Nat}{s:List Int}
theorem Wk.refl(q:In b m):Wk b 0 m m:=⟨q,λ_ h=>h,NP _,by omega,MY _,.refl⟩
theorem Wk.trans(g:Wk b k m m')(h:Wk b l m' m2):Wk b (k+l) m m2:=
 ⟨h.inn,λv hv=>h.live v (g.live v hv),Qm g.n0 h.n0,by have:=g.nx;have:=h.nx;omega,by have:=g.ins;have:=h.ins;omega,g.ext.trans h.ext⟩
theorem Wk.mono(g:Wk b k m m')(h:k<=l):Wk b l m m':=⟨g.inn,g.live,g.n0,by have:=g.nx;omega,by have:=g.ins;omega,g.ext⟩
theorem In.took(q:In b m):In b m.took:=⟨q.ok.at (NP _),q.lt,q.live⟩
theorem Ext.same(e:Ext m m'){m2:MS}(h1:m2.ps=m'.ps)(h2:m2.blocks=m'.blocks):Ext m m2:=by obtain⟨a,b,c,d,f⟩:=e;exact⟨by rw[h1];exact a,by rw[h2];exact b,by rw[h2];exact c,by rw[h2];exact d,by rw[h2];exact f⟩
theorem Ext.frm{m2:MS}(e:Ext m2 m')(h1:m2.ps=m.ps)(h2:m2.blocks=m.blocks):Ext m m':=by obtain⟨a,b,c,d,f⟩:=e;rw[h2]at b c d f;exact⟨by rw[<-h1];exact a,b,c,d,f⟩
theorem Wk.took(g:Wk b k m m'):Wk b k m m'.took:=⟨g.inn.took,g.live,g.n0,g.nx,g.ins,g.ext.same rfl rfl⟩
theorem In.add(q:In b m){a:Nat}{j:Nat}{i:InsD}(hj:j<=2)(hf : ∀v∈bm i,m.next<=v/\v<m.next+j)(hd:(bm i).Nodup)(ho:lr i=QG/\NumI i)(ha : ∀v∈i.args,v∈m.live) :
  Wk b (max 1 j) m (MS.add ⟨a,m.ps,m.blocks,m.next+j,m.live⟩ b i)/\∀v∈bm i,v∈(MS.add ⟨a,m.ps,m.blocks,m.next+j,m.live⟩ b i).live:=by
 have e:Ext m (MS.add ⟨a,m.ps,m.blocks,m.next+j,m.live⟩ b i):=(yJ (m:=⟨a,m.ps,m.blocks,m.next+j,m.live⟩) (i:=i) q.lt).frm rfl rfl;refine⟨⟨⟨q.ok.add q.lt Q1 hf hd ho λv hv=>q.live v (ha v hv),by rw[e.len];exact q.lt,λv hv=>?_⟩,λv hv=>NC _ hv,by show m.next<=m.next+j;omega,by show m.next+j<=_;omega,?_,e⟩,λv hv=>NG _ hv⟩
 ·rcases M1.1 (show v∈m.live++bm i from hv)with h | h
  ·exact(q.live v h).end e
  exact F7 q.lt h
 rw[qn (m:=⟨a,m.ps,m.blocks,m.next+j,m.live⟩) q.lt,if_pos rfl];show((nth m.blocks b).ins++[i]).length<=_;rw[M3,M6];omega
theorem In.one(q:In b m){op:Int}{a:Nat}{x:List Int}{im:I32}(h16:op≠16)(h18:op≠18)(ho:lr ⟨op,m.next,0,x,im⟩=QG)(ha : ∀v∈x,v∈m.live):
  Wk b 1 m (MS.add ⟨a,m.ps,m.blocks,m.next+1,m.live⟩ b ⟨op,m.next,0,x,im⟩)/\m.next∈(MS.add ⟨a,m.ps,m.blocks,m.next+1,m.live⟩ b ⟨op,m.next,0,x,im⟩).live:=by
 have e:bm ⟨op,m.next,0,x,im⟩=[m.next]:=by unfold bm;rw[if_neg h16,if_neg h18]
 have:=q.add (a:=a) (j:=1) (i:=⟨op,m.next,0,x,im⟩) Q1 (by rw[e];intro v hv;rw[MZ.1 hv];omega) (by rw[e];simp) ⟨ho,λh=>absurd h h16,λ_=>rfl⟩ ha;exact⟨this.1,this.2 _ (by rw[e];exact MZ.2 rfl)⟩
theorem In.constant(q:In b m){n:Int}:Wk b 1 m (m.constant b n)/\m.next∈(m.constant b n).live:=
 q.one (a:=m.at_) (op:=1) Q2 Q2 rfl λv hv=>by cases hv
theorem In.two(q:In b m){op x y:Int}(h1:2<=op)(h2:op<=14)(hx:x∈m.live)(hy:y∈m.live):Wk b 1 m (m.two b op x y)/\m.next∈(m.two b op x y).live:=by
 refine q.one (a:=m.at_) (op:=op) Q1 Q1 ?_ λv hv=>?_
 ·have e1:¬op<1:=by omega
  have e2:¬18<op:=by omega
  have e3:op≠1:=by omega
  have e4:op≠15:=by omega
  have e5:op≠17:=by omega
  simp[lr,qd,e1,e2,e3,e4,e5]
 rcases Nu.1 hv with rfl | hv
 ·exact hx
 rw[MZ.1 hv];exact hy
theorem In.eT(q:In b m):Wk b 1 m (aE s m b).2/\(aE s m b).1∈(aE s m b).2.live:=by
 unfold aE;split
 ·obtain⟨h1,h2⟩:=q.took.took.constant (n:=fo s m);exact⟨(Wk.refl q).took.took.trans h1,h2⟩
 split
 ·obtain⟨h1,h2⟩:=q.took.took.took.took.took.constant (n:=fo s m.took.took.took);exact⟨(Wk.refl q).took.took.took.took.took.trans h1,h2⟩
 rename_i h _;refine⟨(Wk.refl q).took.took.took.mono Q1,?_⟩;show uv s m∈m.live;have:=bc (s:=s) (at_:=m.at_) (n:=(m.live.length:Int)) Q1;unfold uv;refine bD ?_;split<;>omega
theorem In.bin(q:In b m){op:Int}(h1:2<=op)(h2:op<=14):Wk b 4 m (binS s m b op):=by
 obtain⟨w1,e1⟩:=q.eT (s:=s);obtain⟨w2,e2⟩:=w1.inn.eT (s:=s);unfold binS;simp only;split
 ·obtain⟨w3,e3⟩:=w2.inn.took.took.constant (n:=IntKind.i32.wrap (IntKind.i64.wrap (aB s ((aE s (aE s m b).2 b).2.at_+1) 40-8)));obtain⟨w4,_⟩:=w3.inn.two h1 h2 (w3.live _ (w2.live _ e1)) e3;exact((w1.trans w2).took.took.trans w3).trans w4
 obtain⟨w4,_⟩:=w2.inn.took.two h1 h2 (w2.live _ e1) e2;exact((w1.trans w2).took.trans w4).mono Q1
theorem In.ltu(q:In b m):Wk b 3 m (ltuS s m b):=by obtain⟨w1,e1⟩:=q.eT (s:=s);obtain⟨w2,e2⟩:=w1.inn.eT (s:=s);obtain⟨w3,_⟩:=w2.inn.two (op:=13) Q2 Q2 (w2.live _ e1) e2;exact(w1.trans w2).trans w3
theorem In.div(q:In b m):Wk b 4 m (divS s m b):=by
 obtain⟨w1,e1⟩:=q.eT (s:=s);obtain⟨w2,e2⟩:=w1.inn.took.constant (n:=IntKind.i32.wrap (aB s (aE s m b).2.at_ 12));unfold divS;simp only;split
 ·obtain⟨w3,e3⟩:=w2.inn.took.took.constant (n:=IntKind.i32.wrap (1+IntKind.i32.wrap (aB s (((aE s m b).2.took.constant b (IntKind.i32.wrap (aB s (aE s m b).2.at_ 12))).at_+1) 12)));obtain⟨w4,_⟩:=w3.inn.two (op:=14) Q2 Q2 (w3.live _ (w2.live _ e1)) e3;exact(((w1.took.trans w2).took.took.trans w3).trans w4)
 obtain⟨w4,_⟩:=w2.inn.took.two (op:=14) Q2 Q2 (w2.live _ e1) e2;exact((w1.took.trans w2).took.trans w4).mono Q1
theorem In.mulw(q:In b m):Wk b 4 m (sy s m b):=by
 obtain⟨w1,e1⟩:=q.eT (s:=s);obtain⟨w2,e2⟩:=w1.inn.eT (s:=s);generalize hr:aE s (aE s m b).2 b=r at w2 e2;have e:bm ⟨18,r.2.next,r.2.next+1,[(aE s m b).1,r.1],⟨0⟩⟩=[r.2.next,r.2.next+1]:=rfl;have:=w2.inn.add (a:=r.2.at_) (j:=2) (i:=⟨18,r.2.next,r.2.next+1,[(aE s m b).1,r.1],⟨0⟩⟩) Q1 (by
  rw[e];intro v hv;rcases Nu.1 hv with rfl | hv
  ·omega
  ·rw[MZ.1 hv];omega) (by rw[e];simp;omega) ⟨rfl,λh=>absurd h (show(18:Int)≠16 by decide),λh=>absurd rfl h⟩ (λv hv=>by
  rcases Nu.1 hv with rfl | hv
  ·exact w2.live _ e1
  rw[MZ.1 hv];exact e2);have h:=(w1.trans w2).trans this.1;have e3:sy s m b=MS.add ⟨r.2.at_,r.2.ps,r.2.blocks,r.2.next+2,r.2.live⟩ b ⟨18,r.2.next,r.2.next+1,[(aE s m b).1,r.1],⟨0⟩⟩:=by unfold sy;simp only[hr];unfold MS.add MS.aH;simp only[MS.mk.injEq,and_true,true_and];omega
 rw[e3];exact h.mono Q1
theorem In.args(q:In b m) : ∀n,Wk b n m (up (fI s b) n ([],m)).2/\(up (fI s b) n ([],m)).1.length=n/\∀v∈(up (fI s b) n ([],m)).1,v∈(up (fI s b) n ([],m)).2.live
 | 0=>⟨.refl q,rfl,λv hv=>by cases hv⟩
 | n+1=>by
  obtain⟨h1,h2,h3⟩:=In.args q n;obtain⟨w,e⟩:=h1.inn.eT (s:=s);refine⟨h1.trans w,?_,λv hv=>?_⟩
  ·show(_++[_]).length=_;rw[M3,h2];rfl
  rcases M1.1 (show v∈(up (fI s b) n ([],m)).1++[(aE s (up (fI s b) n ([],m)).2 b).1] from hv)with h | h
  ·exact w.live _ (h3 v h)
  rw[MZ.1 h];exact e
theorem In.call(q:In b m):Wk b 5 m (mT s m b):=by
 unfold mT;simp only;have ht:=bc (s:=s) (at_:=m.at_) (n:=5) Q2;obtain⟨h1,h2,h3⟩:=q.took.args (s:=s) (aB s m.at_ 5).toNat;generalize up (fI s b) (aB s m.at_ 5).toNat ([],m.took)=r at h1 h2 h3;have hl:((r.1.length:Nat):Int)<=4:=by omega
 have w:=h1.inn.one (a:=r.2.at_+1) (op:=17) (x:=r.1) (im:=⟨IntKind.i32.wrap (aB s r.2.at_ 5)⟩) Q2 Q2 (by simp[lr,qd];omega) h3;have h:Wk b 0 m m.took:=(Wk.refl q).took;exact((h.trans h1).trans w.1).mono Q1
theorem In.addr(q:In b m):Wk b 5 m (jw s m b).2/\(jw s m b).1∈(jw s m b).2.live:=by
 obtain⟨w1,e1⟩:=q.took.constant (n:=IntKind.i32.wrap (aB s m.at_ 9));have h:Wk b 0 m m.took:=(Wk.refl q).took;have w1:=h.trans w1;have e1:m.next∈_:=e1;unfold jw;simp only;split
 ·obtain⟨w2,e2⟩:=w1.inn.took.eT (s:=s);obtain⟨w3,e3⟩:=w2.inn.constant (n:=7);obtain⟨w4,e4⟩:=w3.inn.two (op:=5) Q2 Q2 (w3.live _ e2) e3;obtain⟨w5,e5⟩:=w4.inn.two (op:=2) Q2 Q2 (w4.live _ (w3.live _ (w2.live _ e1))) e4;exact⟨(((w1.took.trans w2).trans w3).trans w4).trans w5,e5⟩
 exact⟨w1.took.mono Q1,e1⟩
theorem In.off(q:In b m):Wk b 0 m (offS s m).2/\(offS s m).2.live=m.live:=by
 unfold offS;split
 ·exact⟨(Wk.refl q).took.took.took.took,rfl⟩
 exact⟨(Wk.refl q).took.took,rfl⟩
theorem In.memory(q:In b m){st:Bool}:Wk b 7 m (iL s m b st):=by
 obtain⟨w1,e1⟩:=q.addr (s:=s);obtain⟨w2,_⟩:=w1.inn.off (s:=s);unfold iL;simp only;split
 ·obtain⟨w3,e3⟩:=w2.inn.eT (s:=s);generalize hr:aE s (offS s (jw s m b).2).2 b=r at w3 e3;have:=w3.inn.add (a:=r.2.at_) (j:=0) (i:=⟨16,0,0,[(jw s m b).1,r.1],⟨(offS s (jw s m b).2).1⟩⟩) Q1 (λv hv=>by cases hv) PA ⟨rfl,λ_=>rfl,λ_=>rfl⟩ (λv hv=>by
   rcases Nu.1 hv with rfl | hv
   ·exact w3.live _ (w2.live _ e1)
   rw[MZ.1 hv];exact e3);have e:(⟨r.2.at_,r.2.ps,r.2.blocks,r.2.next+((0:Nat):Int),r.2.live⟩:MS)=r.2:=by cases r.2;simp
  rw[e]at this;exact((w1.trans w2).trans w3).trans this.1
 have w:=w2.inn.one (a:=(offS s (jw s m b).2).2.at_) (op:=15) (x:=[(jw s m b).1]) (im:=⟨(offS s (jw s m b).2).1⟩) Q2 Q2 rfl (λv hv=>by rw[MZ.1 hv];exact w2.live _ e1);exact((w1.trans w2).trans w.1).mono Q1
theorem In.gW(q:In b m):Wk b 7 m (aF s b m):=by
 have h:Wk b 0 m m.took:=(Wk.refl q).took;have ht:=bc (s:=s) (at_:=m.at_) (n:=20) Q2;unfold aF;simp only;split
 ·have h2 : ∀x∈opsL,2<=x/\x<=14:=by decide
  have hl:opsL.length=12:=rfl;have:=h2 _ (bD (l:=opsL) (i:=(aB s m.at_ 20).toNat) Q1);exact(h.trans (q.took.bin this.1 this.2)).mono Q1
 split
 ·exact(h.trans q.took.ltu).mono Q1
 split
 ·exact(h.trans q.took.div).mono Q1
 split
 ·exact(h.trans q.took.memory).mono Q1
 split
 ·exact(h.trans q.took.call).mono Q1
 split
 ·exact(h.trans q.took.mulw).mono Q1
 exact((Wk.refl q).took.took.took.trans (q.took.took.took.constant (n:=fo s m.took)).1).mono Q1
theorem In.eA(q:In b m) : ∀n,Wk b (7*n) m (up (λ_=>aF s b) n m)
 | 0=>.refl q
 | n+1=>by have h:=In.eA q n;exact(h.trans h.inn.gW).mono Q1
theorem In.term(q:In b m){to:List Int}(hl:to.length<=65):Wk b 3 m (eN s to b m).2/\iT (eN s to b m).1=QF/\(eN s to b m).1.to=to/\∀v∈(eN s to b m).1.args,v∈(eN s to b m).2.live:=by
 have h:Wk b 0 m m.took:=(Wk.refl q).took;unfold eN;simp only;split
 ·rename_i h0;have hto:to=[]:=List.length_eq_zero_iff.1 h0;split
  ·exact⟨(Wk.refl q).took.took.mono Q1,rfl,hto.symm,λv hv=>by cases hv⟩
  split
  ·obtain⟨w,e⟩:=q.took.eT (s:=s);exact⟨(h.trans w).mono Q1,rfl,hto.symm,λv hv=>by rw[MZ.1 hv];exact e⟩
  exact⟨h.mono Q1,rfl,hto.symm,λv hv=>by cases hv⟩
 split
 ·rename_i h1;exact⟨(Wk.refl q).mono Q1,by simp[iT,h1],rfl,λv hv=>by cases hv⟩
 split
 ·rename_i h2;obtain⟨w1,e1⟩:=q.eT (s:=s);split
  ·obtain⟨w2,e2⟩:=w1.inn.took.eT (s:=s);generalize aE s (aE s m b).2.took b=r at w2 e2;have hr:=bc (s:=s) (at_:=r.2.at_) (n:=3) Q2;have hop : ∀x∈cmpL,11<=x/\x<=13:=by decide
   have hcl:cmpL.length=3:=rfl;have ho:=hop _ (bD (l:=cmpL) (i:=(aB s r.2.at_ 3).toNat) Q1);generalize nth cmpL (aB s r.2.at_ 3).toNat=op at ho;have w3:=w2.inn.one (a:=r.2.at_+1) (op:=op) (x:=[(aE s m b).1,r.1]) (im:=⟨0⟩) Q1 Q1 (by
    have e1:¬op<1:=by omega
    have e2:¬18<op:=by omega
    have e3:op≠1:=by omega
    have e4:op≠15:=by omega
    have e5:op≠17:=by omega
    simp[lr,qd,e1,e2,e3,e4,e5]) (λv hv=>by
    rcases Nu.1 hv with rfl | hv
    ·exact w2.live _ e1
    rw[MZ.1 hv];exact e2);exact⟨(w1.took.trans w2).trans w3.1,by simp[iT,h2],rfl,λv hv=>by rw[MZ.1 hv];exact w3.2⟩
  exact⟨w1.took.mono Q1,by simp[iT,h2],rfl,λv hv=>by rw[MZ.1 hv];exact e1⟩
 rename_i h0 h1 h2;obtain⟨w1,e1⟩:=q.eT (s:=s);obtain⟨w2,e2⟩:=w1.inn.constant (n:=7);obtain⟨w3,e3⟩:=w2.inn.two (op:=5) Q2 Q2 (w2.live _ e1) e2;exact⟨(w1.trans w2).trans w3,by simp[iT];omega,rfl,λv hv=>by rw[MZ.1 hv];exact e3⟩
end
structure Tt(n k c:Nat)(x:TgS):Prop where
 len:x.1.length=n
 row : ∀i,(nth x.1 i).length<=c
 rng : ∀i,∀v∈nth x.1 i,1<=v/\v<n
 way : ∀b:Nat,1<=b->b<=k->∃a,a<b/\(b:Int)∈nth x.1 a
section
variable{s:List Int}{n k c:Nat}{x:TgS}
variable{b:Nat}
theorem qw{p:Nat}{m:MS}(hp:p<x.1.length)(i:Nat):nth (lG x p b m).1 i=if p=i then nth x.1 p++[(b:Int)] else nth x.1 i:=by
 show nth (x.1.set p _) i=_;rcases M0 i x.1.length with hl | hl
 ·rw[aK hl]
 rw[aW (by simpa using hl),if_neg Q1,aW hl]
theorem Tt.put(h:Tt n k c x){p:Nat}{m:MS}(hp:p<n)(h1:1<=b)(hb:b<n):Tt n k (c+1) (lG x p b m)/\(b:Int)∈nth (lG x p b m).1 p:=by
 have hp':p<x.1.length:=by rw[h.len];exact hp
 refine⟨⟨tJ.trans h.len,λi=>?_,λi v hv=>?_,λd h1 h2=>?_⟩,by rw[qw hp',if_pos rfl];exact NG _ (MZ.2 rfl)⟩
 ·rw[qw hp'];split
  ·rw[M3,M6];have:=h.row p;omega
  have:=h.row i;omega
 ·rw[qw hp']at hv;split at hv
  ·rcases M1.1 hv with hv | hv
   ·exact h.rng _ v hv
   rw[MZ.1 hv];omega
  exact h.rng _ v hv
 obtain⟨a,h3,h4⟩:=h.way d h1 h2;refine⟨a,h3,?_⟩;rw[qw hp'];split
 ·rename_i e;subst e;exact NC _ h4
 exact h4
theorem Tt.tgA(h:Tt n k c x)(hk:k+1<n):Tt n (k+1) (c+1) (tgA s k x):=by
 have key : ∀{p:Nat} {m:MS},p<=k->Tt n (k+1) (c+1) (lG x p (k+1) m):=fun{p m} hp=>by
  obtain⟨h1,h2⟩:=h.put (p:=p) (b:=k+1) (m:=m) Q1 Q1 hk;refine⟨h1.len,h1.row,h1.rng,λb hb1 hb2=>?_⟩;rcases M0 k b with q | q
  ·have:b=k+1:=by omega
   subst this;exact⟨p,by omega,h2⟩
  exact h1.way b hb1 q
 unfold Go.Lft.tgA;split
 ·have:=bc (s:=s) (at_:=x.2.at_+1) (n:=((k+1:Nat):Int)) Q1;exact key Q1
 exact key (MY _)
theorem Tt.tgI(h:Tt n k c x){b:Nat}(hb:b<n)(hn:1<n):Tt n k (c+1) (tgI s n b x):=by
 have:=bc (s:=s) (at_:=x.2.at_) (n:=(n:Int)-1) Q1;unfold Go.Lft.tgI;simp only;repeat' split
 ·exact(h.put Q1 Q1 Q1).1
 ·exact(h.put Q1 Q1 Q1).1
 exact(h.put Q1 Q1 Q1).1
theorem Tt.upI(h:Tt n k c x){b:Nat}(hb:b<n)(hn:1<n) : ∀j,Tt n k (c+j) (up (λ_=>Go.Lft.tgI s n b) j x)
 | 0=>h
 | j+1=>(Tt.upI h hb hn j).tgI hb hn
theorem Tt.mono{d:Nat}(h:Tt n k c x)(hd:c<=d):Tt n k d x:=⟨h.len,λi=>NB (h.row i) hd,h.rng,h.way⟩
theorem Tt.tgB(h:Tt n k c x){b:Nat}(hb:b<n):Tt n k (c+2) (tgB s n b x):=by
 unfold Go.Lft.tgB;have h0:Tt n k c (x.1,x.2.took):=⟨h.len,h.row,h.rng,h.way⟩;by_cases hn:1<n
 ·rw[if_pos hn];have:=bc (s:=s) (at_:=x.2.at_) (n:=6) Q2;exact(h0.upI hb hn _).mono Q1
 rw[if_neg hn];exact h0.mono Q1
theorem Tt.upB(h:Tt n k c x) : ∀j,j<=n->Tt n k (c+2*j) (up (Go.Lft.tgB s n) j x)
 | 0,_=>h
 | j+1,hj=>(Tt.upB h j Q1).tgB Q1
theorem Tt.upA(h:Tt n 0 c x) : ∀j,j<n->Tt n j (c+j) (up (Go.Lft.tgA s) j x)
 | 0,_=>h
 | j+1,hj=>(Tt.upA h j Q1).tgA hj
theorem yX:Tt (aG s) (aG s-1) 26 (eW s):=by
 obtain⟨h1,h2⟩:=eK (s:=s);have e : ∀i,nth (List.replicate (aG s) ([]:List Int)) i=[]:=λi=>by
  rcases M0 i (aG s)with hi | hi
  ·rw[ay hi]
  rw[aW (by simpa using hi)];rfl
 have t0:Tt (aG s) 0 0 (List.replicate (aG s) ([]:List Int),uA s):=⟨by simp,λi=>by rw[e];exact MY _,λi v hv=>by{ rw[e]at hv;cases hv },λb h1 h2=>by omega⟩;exact((t0.upA (s:=s) (aG s-1) Q1).upB (s:=s) (aG s) (MY _)).mono Q1
end
structure Gt(n:Nat)(to:List (List Int))(m:MS):Prop where
 len:m.blocks.length=n
 to : ∀j,j<n->(nth m.blocks j).term.to=nth to j
section
variable{s:List Int}{n:Nat}{to:List (List Int)}{m m':MS}{b:Nat}
theorem Gt.ext(g:Gt n to m)(e:Ext m m'):Gt n to m':=⟨e.len.trans g.len,λj hj=>(e.to j).trans (g.to j hj)⟩
theorem Ew{l:List Int}{j:Nat}(hb:b<m.blocks.length):nth (m.gV b l).blocks j=if b=j then{ nth m.blocks b with term:={ (nth m.blocks b).term with to:=l } } else nth m.blocks j:=by
 show nth (m.blocks.set b _) j=_;rcases M0 j m.blocks.length with hl | hl
 ·rw[aK hl]
 rw[aW (by simpa using hl),if_neg Q1,aW hl]
theorem AK{m0:MS}(hl:m0.blocks=List.replicate n pt) : ∀k,k<=n->(up (λb m=>MS.gV m b (nth to b)) k m0).blocks.length=n/\(∀j,j<n->nth (up (λb m=>MS.gV m b (nth to b)) k m0).blocks j=⟨[],[],⟨0,[],if j<k then nth to j else[],⟨0⟩⟩⟩)/\(up (λb m=>MS.gV m b (nth to b)) k m0).ps=m0.ps/\(up (λb m=>MS.gV m b (nth to b)) k m0).next=m0.next
 | 0,_=>⟨by show m0.blocks.length=n;rw[hl,NM],λj hj=>by show nth m0.blocks j=_;rw[hl,ay hj,if_neg Q1];rfl,rfl,rfl⟩
 | k+1,hk=>by
  obtain⟨h1,h2,h3,h4⟩:=AK hl k Q1;refine⟨?_,λj hj=>?_,h3,h4⟩
  ·show(List.set _ _ _).length=n;rw[Nq];exact h1
  show nth (MS.gV _ k (nth to k)).blocks j=_;rw[Ew (by rw[h1];omega),h2 k Q1,h2 j hj];by_cases e:k=j
  ·subst e;rw[if_pos rfl,if_pos (PL _)]
  rw[if_neg e];by_cases h:j<k
  ·rw[if_pos h,if_pos Q1]
  rw[if_neg h,if_neg Q1]
theorem zQ:(lI s).blocks.length=aG s/\(∀j,j<aG s->nth (lI s).blocks j=⟨[],[],⟨0,[],nth (eW s).1 j,⟨0⟩⟩⟩)/\(lI s).ps=aB s 0 5/\(lI s).next=aB s 0 5:=by have e:=rB (s:=s);obtain⟨h1,h2,h3,h4⟩:=AK (n:=aG s) (to:=(eW s).1) (m0:={ (eW s).2 with blocks:=List.replicate (aG s) pt }) rfl (aG s) (MY _);exact⟨h1,λj hj=>by have:=h2 j hj;rw[if_pos hj]at this;exact this,h3.trans e.1,h4.trans e.2.2.1⟩
theorem Ka{l:List BlkD}(h0:0<l.length)(h : ∀b:Nat,1<=b->b<l.length->∃a,a<b/\(b:Int)∈(nth l a).term.to): ∀b,b<l.length->Re (ofG l) (-1) b:=by
 intro b;induction b using Nat.strongRecOn with
 | ind b ih=>
  intro hb;rcases Oe b with rfl | hp
  ·exact .root (by rw[gq];exact hb) Q2
  obtain⟨a,ha,hm⟩:=h b hp hb;refine .step (ih a ha Q1) ?_ Q1;rw[dL];exact⟨⟨by omega,by omega,by omega,by omega⟩,by rw[M9];exact hm⟩
theorem F6{l:List BlkD}{dn:BL}(hw : ∀b,b<l.length->Re (ofG l) (-1) b){b:Nat}(hb:b<l.length)(hd:nth dn b=QG): ∃x,x<l.length/\nth dn x=QG/\∀a,a<l.length->a=x\/nth dn a=QF\/Re (ofG l) (a:Int) x:=by
  have key : ∀{b:Nat},Re (ofG l) (-1) b->(∃x,x<l.length/\nth dn x=QG/\∀a,a<l.length->a=x\/nth dn a=QF\/Re (ofG l) (a:Int) x)\/(nth dn b=QF/\∀a,a<l.length->nth dn a=QG->Re (ofG l) (a:Int) b):=by
    intro b h
    induction h with
    | root h0 _=>
      cases e:nth dn 0 with
      | true=>exact .inr ⟨rfl,λa _ ha=>.root h0 (by
                                                            rintro h;have:a=0:=by omega
                                                            subst this;rw[e]at ha;cases ha)⟩
      | false=>exact .inl ⟨0,by rw[gq]at h0;exact h0,e,λa _=>by
          rcases Oe a with q | q
          · exact .inl q
          · exact .inr (.inr (.root h0 Q1))⟩
    | @step a b ha he _ ih=>
      rcases ih with ih | ⟨ih1,ih2⟩
      · exact .inl ih
      have hlb:=(dL.1 he).1
      cases e:nth dn b with
      | true=>exact .inr ⟨rfl,λc hc h=>.step (ih2 c hc h) he (by
                                                                         rintro q;have:b=c:=by omega
                                                                         subst this;rw[e]at h;cases h)⟩
      | false=>
        refine .inl ⟨b,by omega,e,λc hc=>?_⟩
        rcases Nat.decEq c b with q | q
        · cases e2:nth dn c with
          | true=>exact .inr (.inl rfl)
          | false=>exact .inr (.inr (.step (ih2 c hc e2) he Q1))
        · exact .inl q
  rcases key (hw b hb)with h | ⟨h,_⟩
  · exact h
  · rw[hd]at h;cases h
theorem nP{j:Nat}(hb:b<m.blocks.length):nth (dc b m).blocks j=if b=j then{ nth m.blocks b with phis:=(nth m.blocks b).phis++[⟨m.next,[]⟩] } else nth m.blocks j:=by
 show nth (m.blocks.set b _) j=_;rcases M0 j m.blocks.length with hl | hl
 ·rw[aK hl]
 rw[aW (by simpa using hl),if_neg Q1,aW hl]
structure P0(n:Nat)(to:List (List Int))(m:MS):Prop where
 gt:Gt n to m
 ok:Ok m
 none : ∀j,j<n->(nth m.blocks j).ins=[]
theorem HS{x:BlkD}{v:Int}(h:x.ins=[]):mkB { x with phis:=x.phis++[⟨v,[]⟩] }=mkB x++[v]:=by unfold mkB;simp[h]
theorem P0.dc(q:P0 n to m)(hb:b<n):P0 n to (dc b m):=by
 have hbl:b<m.blocks.length:=by rw[q.gt.len];exact hb
 have hl:(Go.Lft.dc b m).blocks.length=m.blocks.length:=Nq;have hlen:=q.gt.len;have e:Ext m (Go.Lft.dc b m):=by
  refine⟨rfl,hl,λj=>?_,λj=>?_,λj=>?_⟩<;>rw[nP hbl]<;>split
  ·rename_i e;rw[e]
  ·rfl
  ·rename_i e;rw[<-e];intro v hv;show v∈(List.map PhiD.dst ((nth m.blocks b).phis++[_]));rw[Ov];exact NC _ hv
  ·exact λ_ h=>h
  ·rename_i e;rw[e];exact⟨[],by simp⟩
  exact⟨[],by simp⟩
 have hin : ∀j,(nth (Go.Lft.dc b m).blocks j).ins=(nth m.blocks j).ins:=λj=>by
  rw[nP hbl];split
  ·rename_i e;rw[e]
  rfl
 have htm : ∀j,(nth (Go.Lft.dc b m).blocks j).term=(nth m.blocks j).term:=λj=>by
  rw[nP hbl];split
  ·rename_i e;rw[e]
  rfl
 have hmk : ∀j,j<n->mkB (nth (Go.Lft.dc b m).blocks j)=if b=j then mkB (nth m.blocks j)++[m.next] else mkB (nth m.blocks j):=λj hj=>by
  rw[nP hbl];split
  ·rename_i e;rw[HS (q.none b hb),e]
  rfl
 have k:=q.ok;refine⟨q.gt.ext e,⟨k.p0,by have:=k.pn;show m.ps<=m.next+1;omega,λc hc=>?_,λc hc=>?_,λc d hc hd hcd=>?_,λc hc=>?_,λc hc i hi=>?_,λc hc v hv=>?_⟩,λj hj=>by rw[hin];exact q.none j hj⟩<;>rw[hl]at hc
 ·rw[hin];exact k.op c hc
 ·rw[hmk c Q1];split
  ·refine N3.2 ⟨k.nd c hc,by simp,λx hx y hy=>?_⟩;have:=(k.rg c hc x hx).2;have:=MZ.1 hy;omega
  exact k.nd c hc
 ·rw[hl]at hd;rw[hmk c Q1,hmk d Q1];intro v hv hv';have h1:v∈mkB (nth m.blocks c)\/(b=c/\v=m.next):=by
   split at hv
   ·rcases M1.1 hv with h | h
    ·exact .inl h
    exact .inr ⟨‹_›,MZ.1 h⟩
   exact .inl hv
  have h2:v∈mkB (nth m.blocks d)\/(b=d/\v=m.next):=by
   split at hv'
   ·rcases M1.1 hv' with h | h
    ·exact .inl h
    exact .inr ⟨‹_›,MZ.1 h⟩
   exact .inl hv'
  rcases h1 with h1 | ⟨h1,h1'⟩
  ·rcases h2 with h2 | ⟨h2,h2'⟩
   ·exact k.dj c d hc hd hcd v h1 h2
   have:=(k.rg c hc v h1).2;omega
  rcases h2 with h2 | ⟨h2,h2'⟩
  ·have:=(k.rg d hd v h2).2;omega
  exact hcd (h1.symm.trans h2)
 ·rw[hmk c Q1];intro v hv;have h1:v∈mkB (nth m.blocks c)\/v=m.next:=by
   split at hv
   ·rcases M1.1 hv with h | h
    ·exact .inl h
    exact .inr (MZ.1 h)
   exact .inl hv
  show m.ps<=v/\v<m.next+1;rcases h1 with h1 | h1
  ·have:=k.rg c hc v h1;omega
  have:=k.pn;omega
 ·rw[hin,q.none c Q1]at hi;exact absurd hi (Nw _)
 rw[htm]at hv;exact(k.tm c hc v hv).end e
theorem P0.took(q:P0 n to m):P0 n to m.took:=⟨⟨q.gt.len,q.gt.to⟩,q.ok.at (NP _),q.none⟩
theorem P0.lL(q:P0 n to m)(hb:b<n) : ∀k,P0 n to (up (λ_=>Go.Lft.dc b) k m)/\(up (λ_=>Go.Lft.dc b) k m).next=m.next+k
 | 0=>⟨q,by show m.next=m.next+((0:Nat):Int);omega⟩
 | k+1=>by obtain⟨h1,h2⟩:=P0.lL q hb k;refine⟨h1.dc hb,?_⟩;show(up (λ_=>Go.Lft.dc b) k m).next+1=_;rw[h2];omega
theorem P0.phis{lp:List Int}(q:P0 n to m) : ∀k,k<n->P0 n to (up (du s) k (lp,m)).2/\(up (du s) k (lp,m)).2.next<=m.next+3*k/\nth (up (du s) k (lp,m)).1 0=nth lp 0
 | 0,_=>⟨q,by show m.next<=_;omega,rfl⟩
 | k+1,hk=>by
  obtain⟨h1,h2,h3⟩:=P0.phis (lp:=lp) q k Q1;have e:up (du s) (k+1) (lp,m)=du s k (up (du s) k (lp,m)):=rfl;rw[e];generalize up (du s) k (lp,m)=y at h1 h2 h3;obtain⟨c0,c1⟩:=nL (s:=s) (m:=y.2) (b:=k+1);obtain⟨h4,h5⟩:=h1.took.lL (b:=k+1) hk (gZ s y.2 (k+1)).toNat;refine⟨h4,?_,?_⟩
  ·show(up (λ_=>Go.Lft.dc (k+1)) (gZ s y.2 (k+1)).toNat y.2.took).next<=_;rw[h5];show y.2.next+_<=_;omega
  show nth (y.1.set (k+1) _) 0=_;rcases M0 0 y.1.length with hl | hl
  ·rw[aK hl,if_neg Q1];exact h3
  rw[aW (by simpa using hl),<-h3,aW hl]
theorem Fy:P0 (aG s) (eW s).1 (lI s):=by
 obtain⟨h1,h2,h3,h4⟩:=zQ (s:=s);have t:=bc (s:=s) (at_:=0) (n:=5) Q2;refine⟨⟨h1,λj hj=>by rw[h2 j hj]⟩,⟨by rw[h3];omega,by rw[h3,h4];omega,λb hb=>?_,λb hb=>?_,λa b ha hb _=>?_,λb hb=>?_,λb hb i hi=>?_,λb hb=>?_⟩,λj hj=>by rw[h2 j hj]⟩<;>rw[h1]at *
 ·rw[h2 b hb];intro i hi;cases hi
 ·rw[h2 b hb];exact PA
 ·rw[h2 a ha];intro v hv;cases hv
 ·rw[h2 b hb];intro v hv;cases hv
 ·rw[h2 b hb]at hi;exact absurd hi (Nw _)
 rw[h2 b hb];intro v hv;cases hv
theorem Bs:P0 (aG s) (eW s).1 (gl s).2/\(gl s).2.next<=28/\nth (gl s).1 0=0:=by
 obtain⟨h1,h2⟩:=eK (s:=s);obtain⟨q1,q2,q3⟩:=(Fy (s:=s)).phis (s:=s) (lp:=List.replicate (aG s) 0) (aG s-1) Q1;have t:=bc (s:=s) (at_:=0) (n:=5) Q2;have e:=(zQ (s:=s)).2.2.2;refine⟨q1,?_,?_⟩
 ·show(up (du s) (aG s-1) (List.replicate (aG s) 0,lI s)).2.next<=28;omega
 show nth (up (du s) (aG s-1) (List.replicate (aG s) 0,lI s)).1 0=0;rw[q3,ay Q1]
def cnt0:BL->Nat
 | []=>0
 | a::l=>(if a=QF then 0 else 1)+cnt0 l
theorem mo{α:Type}[Inhabited α]{a:α}{l:List α}{j:Nat}:nth (a::l) (j+1)=nth l j:=by simp[nth]
theorem DQ : ∀{l l':BL},l.length=l'.length->(∀j,j<l.length->nth l j=QF->nth l' j=QF)->cnt0 l'<=cnt0 l
 | [],[],_,_=>MY _
 | a::l,a'::l',hl,h=>by
  have h1:=DQ (l:=l) (l':=l') (by simpa using hl) λj hj=>by have:=h (j+1) (by simpa using hj);rwa [mo,mo]at this
  have h2:a=QF->a'=true:=h 0 Sb;unfold cnt0;cases a<;>cases a'<;>simp_all<;>omega
theorem zl : ∀{l l':BL},l.length=l'.length->(∀j,j<l.length->nth l j=QF->nth l' j=QF)->∀b,b<l.length->nth l b=QG->nth l' b=QF->cnt0 l'<cnt0 l
 | [],[],_,_,b,hb,_,_=>absurd hb (Nw _)
 | a::l,a'::l',hl,h,b,hb,h0,h1=>by
  have hr : ∀j,j<l.length->nth l j=QF->nth l' j=true:=λj hj=>by have:=h (j+1) (by simpa using hj);rwa [mo,mo]at this
  have hll:l.length=l'.length:=by simpa using hl
  have h2:a=QF->a'=true:=h 0 Sb;match b,hb,h0,h1 with
  | 0,_,h0,h1=>have h0:a=false:=h0;have h1:a'=true:=h1;have:=DQ hll hr;unfold cnt0;rw[h0,h1];simp;omega
  | b+1,hb,h0,h1=>rw[mo]at h0 h1;have:=zl hll hr b (by simpa using hb) h0 h1;unfold cnt0;cases a<;>cases a'<;>simp_all<;>omega
theorem yi : ∀{l:BL},cnt0 l=0->∀j,j<l.length->nth l j=QF
 | [],_,j,hj=>absurd hj (Nw _)
 | a::l,h,j,hj=>by
  unfold cnt0 at h;match j,hj with
  | 0,_=>show a=QF;cases a<;>simp_all
  | j+1,hj=>rw[mo];exact yi Q1 j (by simpa using hj)
theorem wj : ∀{l:BL},cnt0 l<=l.length
 | []=>MY _
 | a::l=>by have:=wj (l:=l);unfold cnt0;rw[N2];split<;>omega
theorem xL{f:Nat->Bool} : ∀(n:Nat) (r:Bool),r=QF->(∀a,a<n->f a=QF)->up (λa r=>r&&f a) n r=QF
 | 0,r,h,_=>h
 | n+1,r,h,hf=>by show(up (λa r=>r&&f a) n r&&f n)=QF;rw[xL n r h λa ha=>hf a Q1,hf n Q1];rfl
theorem C6(hl:m.blocks.length=n){a:Nat}(ha:a<n)(hb:b<n):nth (nth (jR m.f n) a) b=QF↔Re (ofG m.blocks) (a:Int) b:=by unfold jR;rw[eF ha];exact ic (by show b<m.blocks.length;omega)
theorem Fz{dn:BL}(hl:m.blocks.length=n)(hb:b<n)(hd:nth dn b=QG)(h : ∀a,a<n->a=b\/nth dn a=QF\/Re (ofG m.blocks) (a:Int) b):og dn (jR m.f n) b n=true:=by
 unfold og;refine xL n _ (by simp[hd]) λa ha=>?_;rcases h a ha with e | e | e
 ·simp[e]
 ·simp[e]
 simp[(C6 hl ha hb).2 e]
theorem IK{dn:BL}(hp:0<=m.ps)(hl:m.blocks.length=n)(hb:b<n): ∀v∈lF m dn (jR m.f n) b n,Sd m b (nth m.blocks b).ins.length v:=by
 have key : ∀k,k<=n->∀v∈up (iuq m dn (jR m.f n) b) k (rows (λi=>(i:Int)) m.ps.toNat),Sd m b (nth m.blocks b).ins.length v:=by
  intro k;induction k with
  | zero=>intro _ v hv;obtain⟨i,hi,rfl⟩:=vZ.1 hv;exact .inl Q5
  | succ k ih=>
   intro hk v hv;have hv:v∈iuq m dn (jR m.f n) b k (up (iuq m dn (jR m.f n) b) k (rows (λi=>(i:Int)) m.ps.toNat)):=hv;unfold iuq at hv;split at hv
   ·exact ih Q1 v hv
   rename_i hc;rw[Nk]at hv;rcases M1.1 hv with h1 | h1
   ·exact ih Q1 v h1
   clear hv;rcases Nat.decEq k b with e | e
   ·refine .inr (.inr (.inr ⟨k,by omega,e,h1,λhr=>hc ?_⟩));rw[(C6 hl Q1 hb).2 hr];simp[e]
   subst e;rcases M1.1 h1 with h2 | h2
   ·exact .inr (.inl h2)
   refine .inr (.inr (.inl ?_));rw[NQ];exact h2
 exact key n (MY _)
theorem Ok.ff(q:In b m){t:cK}(ht:t.to=(nth m.blocks b).term.to)(ha : ∀v∈t.args,v∈m.live):Ok (m.ff b t)/\Ext m (m.ff b t):=by
 have hnth : ∀j,nth (m.ff b t).blocks j=if b=j then{ nth m.blocks b with term:=t } else nth m.blocks j:=λj=>by
  show nth (m.blocks.set b _) j=_;rcases M0 j m.blocks.length with hl | hl
  ·rw[aK hl]
  have:=q.lt;rw[aW (by simpa using hl),if_neg Q1,aW hl]
 have hl:(m.ff b t).blocks.length=m.blocks.length:=Nq;have hin : ∀j,(nth (m.ff b t).blocks j).ins=(nth m.blocks j).ins:=λj=>by
  rw[hnth];split
  ·rename_i e;rw[e]
  rfl
 have hph : ∀j,(nth (m.ff b t).blocks j).phis=(nth m.blocks j).phis:=λj=>by
  rw[hnth];split
  ·rename_i e;rw[e]
  rfl
 have e:Ext m (m.ff b t):=⟨rfl,hl,λj=>by
  rw[hnth];split
  ·rename_i e;rw[<-e];exact ht
  rfl,λj v h=>by rw[hph];exact h,λj=>⟨[],by rw[hin];simp⟩⟩;have hmk : ∀j,mkB (nth (m.ff b t).blocks j)=mkB (nth m.blocks j):=λj=>by unfold mkB;rw[hin,hph]
 have k:=q.ok;refine⟨⟨k.p0,k.pn,λc hc=>?_,λc hc=>?_,λc d hc hd=>?_,λc hc=>?_,λc hc i hi v hv=>?_,λc hc v hv=>?_⟩,e⟩<;>rw[hl]at hc
 ·rw[hin];exact k.op c hc
 ·rw[hmk];exact k.nd c hc
 ·rw[hl]at hd;rw[hmk,hmk];exact k.dj c d hc hd
 ·rw[hmk];exact k.rg c hc
 ·rw[hin]at hi hv;exact(k.tk c hc i hi v hv).ext e
 rw[hnth]at hv;split at hv
 ·rename_i e1;subst e1;exact(q.live v (ha v hv)).end e
 exact(k.tm c hc v hv).end e
structure D4(n:Nat)(to:List (List Int))(x:BL × MS):Prop where
 gt:Gt n to x.2
 ok:Ok x.2
 len:x.1.length=n
 term : ∀j,j<n->nth x.1 j=QF->iT (nth x.2.blocks j).term=QF
 emp : ∀j,j<n->nth x.1 j=QG->(nth x.2.blocks j).ins.length=0
 ins : ∀j,j<n->(nth x.2.blocks j).ins.length<=45
 nx:x.2.next+45*(cnt0 x.1:Nat)<=28+45*n
theorem D4.step{x:BL × MS}(q:D4 n to x)(hb:b<n)(ht:(nth to b).length<=65):D4 n to (aN s to n b x)/\(∀j,nth x.1 j=QF->nth (aN s to n b x).1 j=QF)/\(og x.1 (jR x.2.f n) b n=QF->nth (aN s to n b x).1 b=QF):=by
 unfold aN;have hlen:=q.gt.len;have hbl:b<x.2.blocks.length:=by rw[hlen];exact hb
 split
 ·rename_i hr;have hd:=nk hr;have hset : ∀j,nth (x.1.set b QF) j=if b=j then QF else nth x.1 j:=λj=>by
   have:=q.len;rcases M0 j x.1.length with hl | hl
   ·rw[aK hl]
   rw[aW (by simpa using hl),if_neg Q1,aW hl]
  generalize hdn:x.1.set b QF=dn at hset;have hdl:dn.length=n:=by rw[<-hdn,Nq];exact q.len
  have hmono : ∀j,nth x.1 j=QF->nth dn j=true:=λj hj=>by rw[hset];split<;>simp_all
  have hlt:cnt0 dn<cnt0 x.1:=zl (by rw[hdl];exact q.len) (λj _=>hmono j) b (by rw[q.len];exact hb) hd (by rw[hset,if_pos rfl]);refine⟨?_,hmono,λ_=>by rw[hset,if_pos rfl]⟩;generalize hm1:(MS.took { x.2 with live:=lF x.2 dn (jR x.2.f n) b n }:MS)=m1;have hB:m1.blocks=x.2.blocks:=by rw[<-hm1];rfl
  have hN:m1.next=x.2.next:=by rw[<-hm1];rfl
  have i1:In b m1:=by rw[<-hm1];exact⟨q.ok.at (NP _),hbl,IK (m:=x.2) (dn:=dn) q.ok.p0 hlen hb⟩
  have tk:=bc (s:=s) (at_:=x.2.at_) (n:=7) Q2;have w1:=i1.eA (s:=s) (aB s x.2.at_ 7).toNat;obtain⟨w2,t1,t2,t3⟩:=w1.inn.term (s:=s) ht;have g:=((Grw.refl (b:=b) (m:=m1)).eA (s:=s) i1.lt (aB s x.2.at_ 7).toNat).GW (s:=s) (to:=nth to b) i1.lt;have w:=w1.trans w2;have eD:jn s to n dn (jR x.2.f n) b x.2=mU s (nth to b) b (up (λ_=>aF s b) (aB s x.2.at_ 7).toNat m1):=by rw[<-hm1];rfl
  rw[eD];unfold mU;generalize eN s (nth to b) b (up (λ_=>aF s b) (aB s x.2.at_ 7).toNat m1)=r at w2 t1 t2 t3 g w;have e0:Ext x.2 r.2:=by have e:=w.ext;exact⟨by rw[e.ps,<-hm1];rfl,by rw[e.len,hB],λj=>by rw[e.to,hB],λj v hv=>e.phis j v (by rw[hB];exact hv),λj=>by have:=e.ins j;rw[hB]at this;exact this⟩
  have gt2:=q.gt.ext e0;obtain⟨k1,k2⟩:=Ok.ff w2.inn (t:=r.1) (by rw[t2,gt2.to b hb]) t3;have hnth : ∀j,nth (r.2.ff b r.1).blocks j=if b=j then{ nth r.2.blocks b with term:=r.1 } else nth r.2.blocks j:=λj=>by
   show nth (r.2.blocks.set b _) j=_;have:=gt2.len;rcases M0 j r.2.blocks.length with hl | hl
   ·rw[aK hl]
   rw[aW (by simpa using hl),if_neg Q1,aW hl]
  have hels : ∀j,b≠j->nth (r.2.ff b r.1).blocks j=nth x.2.blocks j:=λj hj=>by rw[hnth,if_neg hj,g.els j (λe=>hj e.symm),hB]
  have hlen0:=q.emp b hb hd;refine⟨gt2.ext k2,k1,hdl,λj hj h=>?_,λj hj h=>?_,λj hj=>?_,?_⟩
  ·by_cases e:b=j
   ·show iT (nth (r.2.ff b r.1).blocks j).term=QF;rw[hnth,if_pos e];exact t1
   show iT (nth (r.2.ff b r.1).blocks j).term=QF;rw[hels j e];refine q.term j hj ?_;have h:nth dn j=true:=h;rw[hset,if_neg e]at h;exact h
  ·have h:nth dn j=false:=h;rw[hset]at h;split at h
   ·cases h
   rename_i e;show(nth (r.2.ff b r.1).blocks j).ins.length=0;rw[hels j e];exact q.emp j hj h
  ·show(nth (r.2.ff b r.1).blocks j).ins.length<=45;by_cases e:b=j
   ·rw[hnth,if_pos e];have:=w.ins;rw[hB]at this;show(nth r.2.blocks b).ins.length<=45;omega
   rw[hels j e];exact q.ins j hj
  show r.2.next+45*((cnt0 dn:Nat):Int)<=_;have:=w.nx;have:=q.nx;omega
 rename_i hr;exact⟨q,λj h=>h,λh=>absurd h hr⟩
theorem D4.upto{x:BL × MS}(q:D4 n to x)(ht : ∀j,(nth to j).length<=65) : ∀k,k<=n->D4 n to (up (aN s to n) k x)/\(∀j,nth x.1 j=QF->nth (up (aN s to n) k x).1 j=QF)/\(∀b,b<k->nth x.1 b=QG->(∀a,a<n->a=b\/nth x.1 a=QF\/Re (ofG x.2.blocks) (a:Int) b)->nth (up (aN s to n) k x).1 b=QF)
 | 0,_=>⟨q,λj h=>h,λb hb=>absurd hb (Nw _)⟩
 | k+1,hk=>by
  obtain⟨h1,h2,h3⟩:=D4.upto q ht k Q1;have e:up (aN s to n) (k+1) x=aN s to n k (up (aN s to n) k x):=rfl;rw[e];generalize up (aN s to n) k x=y at h1 h2 h3;obtain⟨h4,h5,h6⟩:=h1.step (s:=s) (b:=k) Q1 (ht k);refine⟨h4,λj h=>h5 j (h2 j h),λb hb hd hr=>?_⟩;rcases M0 b k with h | h
  ·exact h5 b (h3 b h hd hr)
  have:b=k:=by omega
  subst this;cases hy:nth y.1 b with
  | true=>exact h5 b hy
  | false=>
   refine h6 (Fz h1.gt.len Q1 hy λa ha=>?_);rcases hr a ha with r | r | r
   ·exact .inl r
   ·exact .inr (.inl (h2 a r))
   refine .inr (.inr ?_);have eg:ofG y.2.blocks=ofG x.2.blocks:=by unfold ofG;rw[h1.gt.len,q.gt.len];refine Pu λi hi=>?_;have hi:i<n:=N0.1 hi;rw[h1.gt.to i hi,q.gt.to i hi]
   rw[eg];exact r
theorem D4.turn{x:BL × MS}(q:D4 n to x)(ht : ∀j,(nth to j).length<=65)(hw : ∀b,b<n->Re (ofG x.2.blocks) (-1) b):D4 n to (up (aN s to n) n x)/\(cnt0 (up (aN s to n) n x).1=0\/cnt0 (up (aN s to n) n x).1<cnt0 x.1):=by
 obtain⟨h1,h2,h3⟩:=q.upto (s:=s) ht n (MY _);refine⟨h1,?_⟩;generalize up (aN s to n) n x=y at h1 h2 h3;by_cases hz : ∃b,b<n/\nth x.1 b=QG
 ·obtain⟨b,hb,hd⟩:=hz;obtain⟨c,k1,k2,k3⟩:=F6 (l:=x.2.blocks) (dn:=x.1) (λb hb=>hw b (by rw[q.gt.len]at hb;exact hb)) (b:=b) (by rw[q.gt.len];exact hb) hd;rw[q.gt.len]at k1 k3;exact .inr (zl (by rw[h1.len,q.len]) (λj _=>h2 j) c (by rw[q.len];exact k1) k2 (h3 c k1 k2 k3))
 refine .inl ?_;have : ∀{l:BL},(∀j,j<l.length->nth l j=QF)->cnt0 l=0:=fun{l}=>by
  induction l with
  | nil=>intro _;rfl
  | cons a l ih=>
   intro h;have h1:a=true:=h 0 Sb;have h2:=ih λj hj=>by have:=h (j+1) (by simpa using hj);rwa [mo]at this
   unfold cnt0;rw[h1,h2];rfl
 refine this λj hj=>h2 j ?_;rw[h1.len]at hj;cases e:nth x.1 j with
 | true=>rfl
 | false=>exact absurd ⟨j,hj,e⟩ hz
theorem D4.turns{x:BL × MS}(q:D4 n to x)(ht : ∀j,(nth to j).length<=65)(hw : ∀{m:MS},Gt n to m->∀b,b<n->Re (ofG m.blocks) (-1) b) : ∀k,D4 n to (up (λ_=>up (aN s to n) n) k x)/\(cnt0 (up (λ_=>up (aN s to n) n) k x).1=0\/cnt0 (up (λ_=>up (aN s to n) n) k x).1+k<=n)
 | 0=>⟨q,.inr (by have:=wj (l:=x.1);rw[q.len]at this;exact this)⟩
 | k+1=>by
  obtain⟨h1,h2⟩:=D4.turns q ht hw k;have e:up (λ_=>up (aN s to n) n) (k+1) x=up (aN s to n) n (up (λ_=>up (aN s to n) n) k x):=rfl;rw[e];generalize up (λ_=>up (aN s to n) n) k x=y at h1 h2;obtain⟨h3,h4⟩:=h1.turn (s:=s) ht (hw h1.gt);refine⟨h3,?_⟩;rcases h4 with h4 | h4
  ·exact .inl h4
  rcases h2 with h2 | h2
  ·omega
  exact .inr Q1
theorem FE{m:MS}(g:Gt (aG s) (eW s).1 m): ∀b,b<aG s->Re (ofG m.blocks) (-1) b:=by have t:=yX (s:=s);obtain⟨h1,h2⟩:=eK (s:=s);intro b hb;refine Ka (by rw[g.len];omega) (λb h1 hb=>?_) b (by rw[g.len];exact hb);rw[g.len]at hb;obtain⟨a,ha,hm⟩:=t.way b h1 Q1;exact⟨a,ha,by rw[g.to a Q1];exact hm⟩
theorem I2:D4 (aG s) (eW s).1 (nz s)/\∀j,j<aG s->nth (nz s).1 j=true:=by
 obtain⟨q,h1,h2⟩:=Bs (s:=s);have t:=yX (s:=s);have hr : ∀j,nth (List.replicate (aG s) QG) j=false:=λj=>by
  rcases M0 j (aG s)with hl | hl
  ·rw[ay hl]
  rw[aW (by simpa using hl)];rfl
 have d0:D4 (aG s) (eW s).1 (List.replicate (aG s) QG,(gl s).2):=
  ⟨q.gt,q.ok,by simp,λj hj h=>by{ rw[hr]at h;cases h },λj hj _=>by{ show(nth (gl s).2.blocks j).ins.length=0;rw[q.none j hj];rfl },λj hj=>by{ show(nth (gl s).2.blocks j).ins.length<=45;rw[q.none j hj];exact OL _ },by have:=wj (l:=List.replicate (aG s) QG);rw[NM]at this;show(gl s).2.next+45*((cnt0 (List.replicate (aG s) QG):Nat):Int)<=_;omega⟩;obtain⟨h3,h4⟩:=d0.turns (s:=s) (λj=>by have:=t.row j;omega) (λg=>FE g) (aG s);refine⟨h3,λj hj=>?_⟩;have h4:cnt0 (nz s).1=0\/cnt0 (nz s).1+aG s<=aG s:=h4;exact yi Q1 j (by rw[show(nz s).1.length=aG s from h3.len];exact hj)
end
section
variable{s:List Int}{n:Nat}{to:List (List Int)}{m m':MS}{b:Nat}
theorem qN{α:Type}[Inhabited α]{β:Type}{l:List α}{g:α->β}:rows (λi=>g (nth l i)) l.length=l.map g:=by
 refine NU Sb λi h1 h2=>?_;have hi:i<l.length:=by simpa using h2
 simp[rows,ao hi]
theorem zf{f:aq}:jW (thB f b)=mkB (nth f.blocks b):=by
 unfold thB jW mkB;rw[NR,NR];have e1:(rows (phiT f b) (nth f.blocks b).phis.length).flatMap Th.mks=(nth f.blocks b).phis.map PhiD.dst:=by
  rw[<-qN];unfold rows;rw[O5];show(List.range _).flatMap (λi=>[(nth (nth f.blocks b).phis i).dst])=_;generalize List.range _=l;induction l with
  | nil=>rfl
  | cons a l ih=>rw[OH,ih,N8];rfl
 have e2:(rows (insT f b) (nth f.blocks b).ins.length).flatMap Th.mks=(nth f.blocks b).ins.flatMap bm:=by have h:(nth f.blocks b).ins.map bm=rows (λi=>bm (nth (nth f.blocks b).ins i)) (nth f.blocks b).ins.length:=qN.symm;rw[show(nth f.blocks b).ins.flatMap bm=((nth f.blocks b).ins.map bm).flatten from rfl,h];unfold rows;rw[O5];rfl
 rw[e1,e2];simp[endT]
theorem BI{f:aq}{v:Int} : ∀{k:Nat},v∈jW (thTo f k)↔∃b,b<k/\v∈mkB (nth f.blocks b)
 | 0=>⟨λh=>(by cases h),λ⟨b,h,_⟩=>absurd h (Nw _)⟩
 | k+1=>by
  rw[fJ];unfold jW;rw[NR,M1];have ih:=BI (f:=f) (v:=v) (k:=k);unfold jW at ih;rw[ih];have e:=zf (f:=f) (b:=k);unfold jW at e;rw[e];constructor
  ·rintro(⟨b,h1,h2⟩ | h)
   ·exact⟨b,by omega,h2⟩
   exact⟨k,by omega,h⟩
  rintro⟨b,h1,h2⟩;rcases M0 b k with h | h
  ·exact .inl ⟨b,h,h2⟩
  have:b=k:=by omega
  subst this;exact .inr h2
theorem xN{f:aq}(nd : ∀b,b<f.blocks.length->(mkB (nth f.blocks b)).Nodup)(dj : ∀a b,a<f.blocks.length->b<f.blocks.length->a≠b->∀v∈mkB (nth f.blocks a),v∉mkB (nth f.blocks b)) : ∀k,k<=f.blocks.length->(jW (thTo f k)).Nodup
 | 0,_=>PA
 | k+1,hk=>by
  rw[fJ];have e:jW (thTo f k++thB f k)=jW (thTo f k)++mkB (nth f.blocks k):=by rw[<-zf];exact NR
  rw[e];refine N3.2 ⟨xN nd dj k Q1,nd k Q1,λx hx y hy=>?_⟩;rintro rfl;obtain⟨b,h1,h2⟩:=BI.1 hx;exact dj b k Q1 Q1 Q1 x h2 hy
theorem JU{f:aq}(hb:b<f.blocks.length){v:Int}(hv:v∈mkB (nth f.blocks b)): ∃t∈aS f,v∈t.mks/\t.blk=b:=by
 rcases M1.1 hv with h | h
 ·obtain⟨p,hp,rfl⟩:=ND.1 h;obtain⟨i,hi,rfl⟩:=Ni hp;exact⟨phiT f b i,cO.2 ⟨b,hb,dw.2 (.inl ⟨i,hi,rfl⟩)⟩,by show _∈[_];rw[ao hi];exact MZ.2 rfl,rfl⟩
 obtain⟨p,hp,h2⟩:=Om.1 h;obtain⟨i,hi,rfl⟩:=Ni hp;exact⟨insT f b i,cO.2 ⟨b,hb,dw.2 (.inr (.inl ⟨i,hi,rfl⟩))⟩,by show _∈bm _;rw[ao hi];exact h2,rfl⟩
theorem Ge{f:aq}{t:Th}{v:Int}(ht:t∈aS f)(hv:v∈t.mks): ∃b,b<f.blocks.length/\t.blk=b/\v∈mkB (nth f.blocks b):=by
 obtain⟨b,hb,hm⟩:=cO.1 ht;refine⟨b,hb,?_,?_⟩
 ·rcases dw.1 hm with⟨i,hi,rfl⟩ | ⟨i,hi,rfl⟩ | rfl<;>rfl
 rw[<-zf];exact Om.2 ⟨t,hm,hv⟩
theorem tQ(hb:b<m.blocks.length){p:Nat}{v:Int}(h:Sd m b p v):kZ m.f v b p:=by
 rcases h with h | h | h | ⟨a,h1,h2,h3,h4⟩
 ·exact .inl h
 ·obtain⟨q,hq,rfl⟩:=ND.1 h;obtain⟨i,hi,rfl⟩:=Ni hq;refine .inr ⟨phiT m.f b i,cO.2 ⟨b,hb,dw.2 (.inl ⟨i,hi,rfl⟩)⟩,?_,.inl ⟨rfl,.inl ?_⟩⟩
  ·show _∈[(nth (nth m.blocks b).phis i).dst];rw[ao hi];exact MZ.2 rfl
  show(-1-(i:Int))<0;omega
 ·obtain⟨q,hq,h2⟩:=Om.1 h;obtain⟨i,hi,rfl⟩:=Ni hq;have hi2:i<p/\i<(nth m.blocks b).ins.length:=by rw[Ny]at hi;omega
  rw[OS]at h2;refine .inr ⟨insT m.f b i,cO.2 ⟨b,hb,dw.2 (.inr (.inl ⟨i,hi2.2,rfl⟩))⟩,?_,.inl ⟨rfl,.inr ?_⟩⟩
  ·show _∈bm (nth (nth m.blocks b).ins i);rw[ao hi2.2];exact h2
  show((i:Nat):Int)<p;omega
 obtain⟨t,ht,h5,h6⟩:=JU (f:=m.f) h1 h3;refine .inr ⟨t,ht,h5,.inr ⟨by rw[h6];omega,?_⟩⟩;rw[h6,M9];exact h4
theorem AL(hp:0<=m.ps)(hb:b<m.blocks.length){v:Int}(h:v∈gP m.f b):Sd m b (nth m.blocks b).ins.length v:=by
 have key : ∀(l:List Th) (o:List Int),(∀t∈l,t∈aS m.f)->(∀v∈o,Sd m b (nth m.blocks b).ins.length v)->∀v∈l.foldl (dZ m.f b) o,Sd m b (nth m.blocks b).ins.length v:=by
  intro l;induction l with
  | nil=>intro o _ ho v hv;exact ho v hv
  | cons t l ih=>
   intro o hl ho v hv;rw[NF]at hv;refine ih _ (λx hx=>hl x (Nf _ hx)) (λv hv=>?_) v hv;unfold dZ at hv;split at hv
   ·rename_i ha;rcases M1.1 hv with hv | hv
    ·exact ho v hv
    obtain⟨a,h1,h2,h3⟩:=Ge (hl t Ng) hv;rcases Nat.decEq a b with e | e
    ·refine .inr (.inr (.inr ⟨a,h1,e,h3,λhr=>?_⟩));unfold rh at ha;rw[h2,(ic (f:=m.f) hb).2 hr]at ha;simp at ha;exact e Q1
    subst e;rcases M1.1 h3 with h | h
    ·exact .inr (.inl h)
    refine .inr (.inr (.inl ?_));rw[NQ];exact h
   exact ho v hv
 unfold gP at h;refine key _ _ (λt h=>h) (λv hv=>?_) v h;obtain⟨i,hi,rfl⟩:=vZ.1 hv;have hi:i<m.ps.toNat:=hi;exact .inl Q5
def PhOk(m:MS)(p:PhiD)(b:Nat):Prop:=p.ins.map InD.frm=aA m.f b/\∀q∈p.ins,∃c:Nat,q.frm=c/\c<m.blocks.length/\Sd m c (nth m.blocks c).ins.length q.val
theorem pS(hl:m'.blocks.length=m.blocks.length)(h : ∀j,(nth m'.blocks j).term.to=(nth m.blocks j).term.to){b:Int}:aA m'.f b=aA m.f b:=by unfold aA;rw[show m'.f.blocks.length=m.f.blocks.length from hl];congr 1;funext a;rw[show(nth m'.f.blocks a).term.to=(nth m.f.blocks a).term.to from h a]
theorem PhOk.ext{p:PhiD}(h:PhOk m p b)(e:Ext m m'):PhOk m' p b:=
 ⟨by rw[pS e.len e.to];exact h.1,λq hq=>by obtain⟨c,h1,h2,h3⟩:=h.2 q hq;exact⟨c,h1,by rw[e.len];exact h2,h3.end e⟩⟩
structure D5(n c:Nat)(to:List (List Int))(m:MS):Prop where
 gt:Gt n to m
 ok:Ok m
 term : ∀j,j<n->iT (nth m.blocks j).term=QF
 ins : ∀j,j<n->(nth m.blocks j).ins.length<=45+c
 nx:m.next<=433+c
theorem D5.mono{c d:Nat}(q:D5 n c to m)(h:c<=d):D5 n d to m:=⟨q.gt,q.ok,q.term,λj hj=>by have:=q.ins j hj;omega,by have:=q.nx;omega⟩
theorem D5.took{c:Nat}(q:D5 n c to m):D5 n c to m.took:=⟨⟨q.gt.len,q.gt.to⟩,q.ok.at (NP _),q.term,q.ins,q.nx⟩
theorem D5.constant{c:Nat}(q:D5 n c to m)(hb:b<n){w:Int}:D5 n (c+1) to (m.constant b w)/\Ext m (m.constant b w)/\(∀j,(nth (m.constant b w).blocks j).phis=(nth m.blocks j).phis)/\Sd (m.constant b w) b (nth (m.constant b w).blocks b).ins.length m.next:=by
 have hlen:=q.gt.len;have hbl:b<m.blocks.length:=by rw[hlen];exact hb
 have e:m.constant b w=MS.add ⟨m.at_,m.ps,m.blocks,m.next+1,m.live⟩ b (conD m.next w):=rfl;have mk:bm (conD m.next w)=[m.next]:=rfl;have k:=q.ok.add (a:=m.at_) (nx:=m.next+1) (i:=conD m.next w) (l:=m.live) hbl Q1 (by rw[mk];intro v hv;rw[MZ.1 hv];omega) (by rw[mk];simp) ⟨rfl,λh=>absurd h (show(1:Int)≠16 by decide),λ_=>rfl⟩ (λv hv=>by cases hv);have ex:Ext m (m.constant b w):=(yJ (m:=⟨m.at_,m.ps,m.blocks,m.next+1,m.live⟩) (i:=conD m.next w) hbl).frm rfl rfl;have hnth : ∀j,nth (m.constant b w).blocks j=if b=j then{ nth m.blocks b with ins:=(nth m.blocks b).ins++[conD m.next w] } else nth m.blocks j:=λj=>qn (m:=⟨m.at_,m.ps,m.blocks,m.next+1,m.live⟩) hbl;refine⟨⟨q.gt.ext ex,k,λj hj=>?_,λj hj=>?_,?_⟩,ex,λj=>?_,F7 (m:=m) hbl (by rw[mk];exact MZ.2 rfl)⟩
 ·rw[hnth];split
  ·exact q.term b hb
  exact q.term j hj
 ·have:=q.ins j hj;rw[hnth];split
  ·rename_i e1;subst e1;show((nth m.blocks b).ins++[_]).length<=_;rw[M3,M6];omega
  omega
 ·have:=q.nx;show m.next+1<=_;omega
 rw[hnth];split
 ·rename_i e1;rw[e1]
 rfl
theorem D5.row{c:Nat}(q:D5 n c to m)(hb:b<n):D5 n (c+1) to (rowS s b m).2/\Ext m (rowS s b m).2/\(∀j,(nth (rowS s b m).2.blocks j).phis=(nth m.blocks j).phis)/\∀v∈(rowS s b m).1,Sd (rowS s b m).2 b (nth (rowS s b m).2.blocks b).ins.length v:=by
 unfold rowS;split
 ·obtain⟨h1,h2,h3,h4⟩:=q.took.took.constant (w:=fo s m) hb;refine⟨h1,⟨h2.ps,h2.len,h2.to,h2.phis,h2.ins⟩,h3,λv hv=>?_⟩;rw[MZ.1 hv];exact h4
 have hlen:=q.gt.len;exact⟨q.mono Q1,.refl,λj=>rfl,λv hv=>AL q.ok.p0 Q1 hv⟩
theorem D5.ups{c:Nat}{p:List Int}(q:D5 n c to m)(hp : ∀k,k<p.length->∃a:Nat,nth p k=a/\a<n) : ∀k,k<=p.length->
  D5 n (c+k) to (up (bQ s p) k ([],m)).2/\Ext m (up (bQ s p) k ([],m)).2/\(∀j,(nth (up (bQ s p) k ([],m)).2.blocks j).phis=(nth m.blocks j).phis)/\(up (bQ s p) k ([],m)).1.map InD.frm=p.take k/\
   ∀r∈(up (bQ s p) k ([],m)).1,∃a:Nat,r.frm=a/\a<n/\Sd (up (bQ s p) k ([],m)).2 a (nth (up (bQ s p) k ([],m)).2.blocks a).ins.length r.val
 | 0,_=>⟨q,.refl,λ_=>rfl,rfl,λr hr=>by cases hr⟩
 | k+1,hk=>by
  obtain⟨h1,h2,h3,h4,h5⟩:=D5.ups q hp k Q1;obtain⟨a,ha,han⟩:=hp k Q1;have e1:(up (bQ s p) (k+1) ([],m)).2=(rowS s (nth p k).toNat (up (bQ s p) k ([],m)).2).2.took:=rfl;have e2:(up (bQ s p) (k+1) ([],m)).1=(up (bQ s p) k ([],m)).1++[⟨nth p k,nth (rowS s (nth p k).toNat (up (bQ s p) k ([],m)).2).1 (aB s (rowS s (nth p k).toNat (up (bQ s p) k ([],m)).2).2.at_ (rowS s (nth p k).toNat (up (bQ s p) k ([],m)).2).1.length).toNat⟩]:=rfl;rw[e1,e2];generalize up (bQ s p) k ([],m)=y at h1 h2 h3 h4 h5;have hat:(nth p k).toNat=a:=by omega
  rw[hat];obtain⟨k1,k2,k3,k4⟩:=h1.row (s:=s) (b:=a) han;have hpos:=Bo (s:=s) (b:=a) (m:=y.2);generalize rowS s a y.2=r at k1 k2 k3 k4 hpos;refine⟨k1.took,h2.trans ⟨k2.ps,k2.len,k2.to,k2.phis,k2.ins⟩,λj=>(k3 j).trans (h3 j),?_,λt ht=>?_⟩
  ·rw[Ov,h4,Np Q1];show p.take k++[nth p k]=_;rw[ao Q1]
  rcases M1.1 ht with ht | ht
  ·obtain⟨d,d1,d2,d3⟩:=h5 t ht;exact⟨d,d1,d2,d3.end k2⟩
  rw[MZ.1 ht];refine⟨a,ha,han,k4 _ (bD ?_)⟩;have:=bc (s:=s) (at_:=r.2.at_) (n:=(r.1.length:Int)) Q1;omega
theorem xY{i j:Nat}{l:List InD}(hb:b<m.blocks.length):nth (m.ju b i l).blocks j=if b=j then{ nth m.blocks b with phis:=(nth m.blocks b).phis.set i { nth (nth m.blocks b).phis i with ins:=l } } else nth m.blocks j:=by
 show nth (m.blocks.set b _) j=_;rcases M0 j m.blocks.length with hl | hl
 ·rw[aK hl]
 rw[aW (by simpa using hl),if_neg Q1,aW hl]
theorem IU{l:List PhiD}{i:Nat}{x:List InD}:(l.set i { nth l i with ins:=x }).map PhiD.dst=l.map PhiD.dst:=by
 refine NU Sb λj h1 h2=>?_;have hj:j<l.length:=by simpa using h2
 rw[Oc,Oc,Qe];split
 ·rename_i e;subst e;rw[ao hj]
 rfl
theorem D5.ju{c i:Nat}{l:List InD}(q:D5 n c to m)(hb:b<n):D5 n c to (m.ju b i l)/\Ext m (m.ju b i l):=by
 have hlen:=q.gt.len;have hbl:b<m.blocks.length:=by omega
 have hnth : ∀j,nth (m.ju b i l).blocks j=_:=λj=>xY (i:=i) (l:=l) hbl;have hl:(m.ju b i l).blocks.length=m.blocks.length:=Nq;have hin : ∀j,(nth (m.ju b i l).blocks j).ins=(nth m.blocks j).ins:=λj=>by
  rw[hnth];split
  ·rename_i e;rw[e]
  rfl
 have htm : ∀j,(nth (m.ju b i l).blocks j).term=(nth m.blocks j).term:=λj=>by
  rw[hnth];split
  ·rename_i e;rw[e]
  rfl
 have hph : ∀j,(nth (m.ju b i l).blocks j).phis.map PhiD.dst=(nth m.blocks j).phis.map PhiD.dst:=λj=>by
  rw[hnth];split
  ·rename_i e;rw[<-e];exact IU
  rfl
 have hmk : ∀j,mkB (nth (m.ju b i l).blocks j)=mkB (nth m.blocks j):=λj=>by unfold mkB;rw[hin,hph]
 have e:Ext m (m.ju b i l):=⟨rfl,hl,λj=>by rw[htm],λj v h=>by rw[hph];exact h,λj=>⟨[],by rw[hin];simp⟩⟩;have k:=q.ok;refine⟨⟨q.gt.ext e,⟨k.p0,k.pn,λc hc=>?_,λc hc=>?_,λc d hc hd=>?_,λc hc=>?_,λc hc i hi v hv=>?_,λc hc v hv=>?_⟩,λj hj=>by rw[htm];exact q.term j hj,λj hj=>by rw[hin];exact q.ins j hj,q.nx⟩,e⟩<;>rw[hl]at hc
 ·rw[hin];exact k.op c hc
 ·rw[hmk];exact k.nd c hc
 ·rw[hl]at hd;rw[hmk,hmk];exact k.dj c d hc hd
 ·rw[hmk];exact k.rg c hc
 ·rw[hin]at hi hv;exact(k.tk c hc i hi v hv).ext e
 rw[htm]at hv;exact(k.tm c hc v hv).end e
theorem E3{k:Nat}{b:Int}(hk:k<(aA m.f b).length): ∃a:Nat,nth (aA m.f b) k=a/\a<m.blocks.length:=vX _ k hk
theorem Fh{b:Int}:(aA m.f b).length<=m.blocks.length:=lh _
theorem D5.phi{c i:Nat}(q:D5 n c to m)(hb:b<n)(hi:i<(nth m.blocks b).phis.length):
  D5 n (c+n) to (phi3 s b (aA m.f b) i m)/\Ext m (phi3 s b (aA m.f b) i m)/\(∀j,(nth (phi3 s b (aA m.f b) i m).blocks j).phis.length=(nth m.blocks j).phis.length)/\
   PhOk (phi3 s b (aA m.f b) i m) (nth (nth (phi3 s b (aA m.f b) i m).blocks b).phis i) b/\
   ∀d j,(d≠b\/j≠i)->nth (nth (phi3 s b (aA m.f b) i m).blocks d).phis j=nth (nth m.blocks d).phis j:=by
 have hlen:=q.gt.len;obtain⟨h1,h2,h3,h4,h5⟩:=q.ups (s:=s) (p:=aA m.f b) (λk hk=>by obtain⟨a,h1,h2⟩:=E3 hk;exact⟨a,h1,by omega⟩) (aA m.f b).length (MY _);have hp:=Fh (m:=m) (b:=b);unfold phi3;generalize up (bQ s (aA m.f b)) (aA m.f b).length ([],m)=y at h1 h2 h3 h4 h5;have hyl:=h1.gt.len;obtain⟨k1,k2⟩:=h1.ju (b:=b) (i:=i) (l:=y.1) hb;have hnth : ∀j,nth (y.2.ju b i y.1).blocks j=_:=λj=>xY (i:=i) (l:=y.1) (by omega:b<y.2.blocks.length);have hi2:i<(nth y.2.blocks b).phis.length:=by rw[h3];exact hi
 refine⟨k1.mono Q1,h2.trans k2,λj=>?_,?_,λd j hd=>?_⟩
 ·rw[hnth];split
  ·rename_i e;rw[<-e,<-h3 b];show(List.set _ _ _).length=_;rw[Nq]
  rw[h3]
 ·rw[hnth,if_pos rfl];show PhOk _ (nth ((nth y.2.blocks b).phis.set i _) i) b;rw[aK hi2,if_pos rfl];refine⟨?_,λt ht=>?_⟩
  ·rw[pS (h2.trans k2).len (h2.trans k2).to];show y.1.map InD.frm=_;rw[h4,NQ]
  obtain⟨a,d1,d2,d3⟩:=h5 t ht;exact⟨a,d1,by rw[k2.len];omega,d3.end k2⟩
 rw[hnth];split
 ·rename_i e;subst e;show nth ((nth y.2.blocks b).phis.set i _) j=_;rw[<-h3 b];rcases M0 j (nth y.2.blocks b).phis.length with hl | hl
  ·rw[aK hl,if_neg (by rcases hd with hd | hd;exact absurd rfl hd;exact λe=>hd e.symm)]
  rw[aW (by simpa using hl),aW hl]
 rw[h3]
theorem D5.phis{c cnt:Nat}(q:D5 n c to m)(hb:b<n)(hc:(nth m.blocks b).phis.length=cnt) : ∀k,k<=cnt->
  D5 n (c+n*k) to (up (phi3 s b (aA m.f b)) k m)/\Ext m (up (phi3 s b (aA m.f b)) k m)/\(∀j,(nth (up (phi3 s b (aA m.f b)) k m).blocks j).phis.length=(nth m.blocks j).phis.length)/\
   (∀i,i<k->PhOk (up (phi3 s b (aA m.f b)) k m) (nth (nth (up (phi3 s b (aA m.f b)) k m).blocks b).phis i) b)/\
   ∀d j,d≠b->nth (nth (up (phi3 s b (aA m.f b)) k m).blocks d).phis j=nth (nth m.blocks d).phis j
 | 0,_=>⟨q,.refl,λ_=>rfl,λi hi=>absurd hi (Nw _),λ_ _ _=>rfl⟩
 | k+1,hk=>by
  obtain⟨h1,h2,h3,h4,h5⟩:=D5.phis q hb hc k Q1;have e:up (phi3 s b (aA m.f b)) (k+1) m=phi3 s b (aA m.f b) k (up (phi3 s b (aA m.f b)) k m):=rfl;rw[e];have ep:aA m.f b=aA (up (phi3 s b (aA m.f b)) k m).f b:=(pS h2.len h2.to).symm;generalize hy:up (phi3 s b (aA m.f b)) k m=y at h1 h2 h3 h4 h5 ep;rw[ep];obtain⟨k1,k2,k3,k4,k5⟩:=h1.phi (s:=s) (i:=k) hb (by rw[h3];omega);refine⟨k1.mono (by rw[OW];omega),h2.trans k2,λj=>(k3 j).trans (h3 j),λi hi=>?_,λd j hd=>(k5 d j (.inl hd)).trans (h5 d j hd)⟩;rcases M0 i k with h | h
  ·rw[k5 b i (.inr Q1)];exact(h4 i h).ext k2
  have:i=k:=by omega
  subst this;exact k4
theorem D5.blks{c:Nat}{lp:List Int}(q:D5 n c to m)(hc : ∀j,((nth m.blocks j).phis.length:Int)=nth lp j)(h3 : ∀j,nth lp j<=3) : ∀k,k<n->
  D5 n (c+n*3*k) to (up (blk3 s lp) k m)/\Ext m (up (blk3 s lp) k m)/\(∀j,(nth (up (blk3 s lp) k m).blocks j).phis.length=(nth m.blocks j).phis.length)/\
   ∀b,1<=b->b<=k->∀i,i<(nth m.blocks b).phis.length->PhOk (up (blk3 s lp) k m) (nth (nth (up (blk3 s lp) k m).blocks b).phis i) b
 | 0,_=>⟨q,.refl,λ_=>rfl,λb h1 h2=>by omega⟩
 | k+1,hk=>by
  obtain⟨h1,h2,h4,h5⟩:=D5.blks q hc h3 k Q1;have e:up (blk3 s lp) (k+1) m=blk3 s lp k (up (blk3 s lp) k m):=rfl;rw[e];generalize up (blk3 s lp) k m=y at h1 h2 h4 h5;have hcnt:(nth y.blocks (k+1)).phis.length=(nth lp (k+1)).toNat:=by have:=hc (k+1);rw[h4];omega
  have hc3:=h3 (k+1);obtain⟨k1,k2,k3,k4,k5⟩:=h1.phis (s:=s) (b:=k+1) hk hcnt (nth lp (k+1)).toNat (MY _);have hbd:n*(nth lp (k+1)).toNat<=n*3:=Nat.mul_le_mul_left _ Q1;have hms:n*3*(k+1)=n*3*k+n*3:=OW _ _;refine⟨k1.mono (by rw[hms];omega),h2.trans k2,λj=>(k3 j).trans (h4 j),λb hb1 hb2 i hi=>?_⟩;rcases M0 k b with h | h
  ·have:b=k+1:=by omega
   subst this;have:=hc (k+1);exact k4 i Q1
  have:=(h5 b hb1 h i hi).ext k2;rw[<-k5 b i Q1]at this;exact this
theorem Dx:D5 (aG s) 216 (eW s).1 (gS s)/\(∀j,(nth (gS s).blocks j).phis.length<=3)/\(nth (gS s).blocks 0).phis.length=0/\∀b,b<aG s->∀i,i<(nth (gS s).blocks b).phis.length->PhOk (gS s) (nth (nth (gS s).blocks b).phis i) b:=by
 obtain⟨n1,n2⟩:=eK (s:=s);obtain⟨q,h4⟩:=I2 (s:=s);obtain⟨p,_,_⟩:=oN (s:=s);obtain⟨_,pc⟩:=vR (s:=s);obtain⟨_,_,e0⟩:=Bs (s:=s);have d:D5 (aG s) 0 (eW s).1 (nz s).2:=⟨q.gt,q.ok,λj hj=>q.term j hj (h4 j hj),q.ins,by have:=q.nx;omega⟩;obtain⟨k1,k2,k3,k4⟩:=d.blks (s:=s) (lp:=(gl s).1) pc (λj=>(p.rng j).2) (aG s-1) Q1;have e:up (blk3 s (gl s).1) (aG s-1) (nz s).2=gS s:=rfl;rw[e]at k1 k2 k3 k4;have hz:(nth (gS s).blocks 0).phis.length=0:=by rw[k3];have:=pc 0;omega
 have hm:aG s*3*(aG s-1)<=27*8:=OD Q1 Q1;refine⟨k1.mono Q1,λj=>?_,hz,λb hb i hi=>?_⟩
 ·rw[k3];have:=pc j;have:=(p.rng j).2;omega
 rcases Oe b with h | h
 ·subst h;omega
 exact k4 b h Q1 i (by rw[<-k3];exact hi)
theorem AH{f:aq}{p i:Nat}(h : ∀j,j<f.blocks.length->(nth f.blocks j).phis.length<=p/\(nth f.blocks j).ins.length<=i) : ∀k,k<=f.blocks.length->ko f k<=f.blocks.length+(p+i)*k
 | 0,_=>by show f.blocks.length<=_;omega
 | k+1,hk=>by have ih:=AH h k Q1;have:=h k Q1;show ko f k+_+_<=_;rw[OW];omega
theorem AQ:jf (iV s):=by
 obtain⟨d,p3,p0,hph⟩:=Dx (s:=s);obtain⟨n1,n2⟩:=eK (s:=s);have t:=yX (s:=s);have hlen:=d.gt.len;have hf:(iV s)=(gS s).f:=rfl;rw[hf];have k:=d.ok;have hB:(gS s).f.blocks=(gS s).blocks:=rfl;have hP:(gS s).f.params=(gS s).ps:=rfl;have mp:0<=(gS s).ps/\(gS s).ps<=4:=uH (s:=s);have gt:=d.gt;have hto : ∀b,b<aG s->∀v∈(nth (gS s).blocks b).term.to,1<=v/\v<aG s:=λb hb v hv=>by rw[gt.to b hb]at hv;exact t.rng b v hv
 have way:=FE gt;have dn:=d.nx;have hins:=d.ins;have dt:=d.term;generalize gS s=m at *;refine⟨mp,⟨by rw[hB];omega,by rw[hB];omega⟩,?_,λt ht=>?_,xN k.nd k.dj _ (MY _),λb hb=>?_,λt ht h0 v hv=>?_,λb i hb hi=>?_⟩
 ·have:=AH (f:=m.f) (p:=3) (i:=261) (λj hj=>⟨p3 j,by have:=hins j (by rw[hB]at hj;omega);exact this⟩) _ (MY _);rw[hB,hlen]at this;rw[hB,hlen];omega
 ·have hmk : ∀n∈t.mks,m.f.params<=n/\n<=8191:=λv hv=>by obtain⟨b,hb,_,hm⟩:=Ge ht hv;have:=k.rg b hb v hm;rw[hP];omega
  obtain⟨b,hb,hm⟩:=cO.1 ht;have hb':b<m.blocks.length:=hb;rcases dw.1 hm with⟨i,hi,rfl⟩ | ⟨i,hi,rfl⟩ | rfl
  ·have nl:jA m.f (phiT m.f b i)=QF->False:=λh=>by have h1:-1-(i:Int)=((gm m.f (phiT m.f b i)).ins.length:Nat):=of_decide_eq_true h;omega
   refine⟨λh=>?_,λh=>(nl h).elim,hmk,λh=>(nl h).elim⟩;have h1:(0:Int)<=-1-(i:Int):=of_decide_eq_true ((M8 _ _).mp h).1;omega
  ·have nl:jA m.f (insT m.f b i)=QF->False:=λh=>by have h1:(i:Int)=((nth m.f.blocks ((b:Nat):Int).toNat).ins.length:Nat):=of_decide_eq_true h;rw[M9]at h1;omega
   refine⟨λh=>?_,λh=>(nl h).elim,hmk,λh=>(nl h).elim⟩;refine(k.op b hb' _ ?_).1;show nth (nth m.f.blocks ((b:Nat):Int).toNat).ins ((i:Nat):Int).toNat∈_;rw[M9,M9];exact bD hi
  refine⟨λh=>?_,λh=>?_,hmk,λh v hv=>?_⟩
  ·have h1:(((nth m.f.blocks b).ins.length:Nat):Int)<((nth m.f.blocks ((b:Nat):Int).toNat).ins.length:Nat):=of_decide_eq_true ((M8 _ _).mp h).2;rw[M9]at h1;omega
  ·show iT (nth m.f.blocks ((b:Nat):Int).toNat).term=QF;rw[M9];exact dt b Q1
  have hv:v∈(nth m.f.blocks ((b:Nat):Int).toNat).term.to:=hv;rw[M9]at hv;have:=hto b Q1 v hv;rw[hB];omega
 ·exact way b (by rw[hB]at hb;omega)
 ·obtain⟨b,hb,hm⟩:=cO.1 ht;have hb':b<m.blocks.length:=hb;rcases dw.1 hm with⟨i,hi,rfl⟩ | ⟨i,hi,rfl⟩ | rfl
  ·exact absurd h0 (by show ¬(0:Int)<=-1-(i:Int);omega)
  ·exact tQ hb' (k.tk b hb' i hi v hv)
  exact tQ hb' (k.tm b hb' v hv)
 have hb':b<m.blocks.length:=hb;obtain⟨g1,g2⟩:=hph b Q1 i hi;refine⟨?_,g1,λq hq=>?_⟩
 ·rcases Oe b with h | h
  ·subst h;have hi:i<(nth m.blocks 0).phis.length:=hi;omega
  exact h
 obtain⟨c,h1,h2,h3⟩:=g2 q hq;rw[h1];have:=tQ h2 h3;show kZ m.f q.val c (oU m.f c);unfold oU;rw[M9];exact this
end
section
variable{f:aq}{b i:Nat}
theorem Bq:jA f (phiT f b i)=false:=by refine decide_eq_false ?_;show ¬(-1-(i:Int)=((gm f (phiT f b i)).ins.length:Nat));omega
theorem AX(hi:i<(nth f.blocks b).ins.length):jA f (insT f b i)=false:=by refine decide_eq_false ?_;show ¬((i:Int)=((nth f.blocks ((b:Nat):Int).toNat).ins.length:Nat));rw[M9];omega
theorem Am:jA f (endT f b)=true:=by refine decide_eq_true ?_;show(((nth f.blocks b).ins.length:Nat):Int)=((nth f.blocks ((b:Nat):Int).toNat).ins.length:Nat);rw[M9]
theorem I3:np f (phiT f b i)=false:=by have h:decide (0<=(phiT f b i).place)=false:=decide_eq_false (by show ¬(0:Int)<=-1-(i:Int);omega);unfold np;rw[h];rfl
theorem yK(hi:i<(nth f.blocks b).ins.length):np f (insT f b i)=QF/\Bp f (insT f b i)=nth (nth f.blocks b).ins i:=by
 refine⟨(M8 _ _).mpr ⟨decide_eq_true (N6 _),decide_eq_true ?_⟩,?_⟩
 ·show(i:Int)<((nth f.blocks ((b:Nat):Int).toNat).ins.length:Nat);rw[M9];omega
 show nth (nth f.blocks ((b:Nat):Int).toNat).ins ((i:Nat):Int).toNat=_;rw[M9,M9]
theorem IZ:np f (endT f b)=false:=by have h:decide ((endT f b).place<((gm f (endT f b)).ins.length:Nat))=false:=decide_eq_false (by show ¬(((nth f.blocks b).ins.length:Nat):Int)<((nth f.blocks ((b:Nat):Int).toNat).ins.length:Nat);rw[M9];omega);unfold np;rw[h];exact Bool.and_false _
theorem zL:gm f (endT f b)=nth f.blocks b:=by show nth f.blocks ((b:Nat):Int).toNat=_;rw[M9]
theorem Hx(h : ∀n∈(phiT f b i).mks,f.params<=n/\n<=8191):oH f (phiT f b i):=
 ⟨λc=>(by rw[I3]at c;cases c),λc=>(by rw[Bq]at c;cases c),h,λc=>(by rw[Bq]at c;cases c)⟩
theorem FM(hi:i<(nth f.blocks b).ins.length)(ho:lr (nth (nth f.blocks b).ins i)=QG)(h : ∀n∈(insT f b i).mks,f.params<=n/\n<=8191):oH f (insT f b i):=
 ⟨λ_=>(by rw[(yK hi).2];exact ho),λc=>(by rw[AX hi]at c;cases c),h,λc=>(by rw[AX hi]at c;cases c)⟩
theorem Al(ht:iT (nth f.blocks b).term=QF)(h : ∀n∈(nth f.blocks b).term.to,1<=n/\n<f.blocks.length):oH f (endT f b):=
 ⟨λc=>(by rw[IZ]at c;cases c),λ_=>(by rw[zL];exact ht),λn hn=>(by cases hn),λ_=>(by rw[zL];exact h)⟩
theorem jf.phiG(m:jf f)(hb:b<f.blocks.length)(hi:i<(nth f.blocks b).phis.length):oH f (phiT f b i):=m.good _ (cO.2 ⟨b,hb,dw.2 (.inl ⟨i,hi,rfl⟩)⟩)
theorem jf.insG(m:jf f)(hb:b<f.blocks.length)(hi:i<(nth f.blocks b).ins.length):oH f (insT f b i)/\lr (nth (nth f.blocks b).ins i)=false:=by have g:=m.good _ (cO.2 ⟨b,hb,dw.2 (.inr (.inl ⟨i,hi,rfl⟩))⟩);exact⟨g,by have:=g.op (yK hi).1;rwa [(yK hi).2]at this⟩
theorem jf.endG(m:jf f)(hb:b<f.blocks.length):iT (nth f.blocks b).term=QF/\∀n∈(nth f.blocks b).term.to,1<=n/\n<f.blocks.length:=by have g:=m.good _ (cO.2 ⟨b,hb,dw.2 (.inr (.inr rfl))⟩);have h1:=g.term Am;have h2:=g.to Am;rw[zL]at h1 h2;exact⟨h1,h2⟩
end
section
variable{f g:aq}{n:Nat}
end
structure BkSz(b:BlkD):Prop where
 phis:b.phis.length<=1000000
 pin : ∀p∈b.phis,p.ins.length<=1000000
 ins:b.ins.length<=1000000
 args : ∀x∈b.ins,x.args.length<=1000000
 targs:b.term.args.length<=1000000
 to:b.term.to.length<=1000000
section
variable{Bv W:View}{h h':Heap}{oo:Own}{B r:Nat}{lim:Int}{s:RunS}
theorem H3{l:List InsD}: ∀{s:RunS},s.st<=(insL lim l s).st:=by
 induction l with
 | nil=>intro s;exact NP _
 | cons x l ih=>
  intro s;have e:s.st<=(bY lim s).st:=by
   unfold bY;split
   ·split
    ·exact NP _
    show s.st<=s.st+1;omega
   exact NP _
  unfold insL;split
  ·have:=ih (s:=insR (bY lim s) x);rw[xq.1]at this;omega
  exact e
theorem Rlm.phis{l:List PhiD}{frm:Int}(q:Rlm lim s):Rlm lim (gT s frm l):=⟨q.st0,q.st1,q.cl⟩
variable{b:Nat}
theorem Wy.next{f:aq}{frm:Int}(m:jf f)(wy:Wy f (λ_=>True) frm b){s:RunS}(hk:toR s (nth f.blocks b).term∈(nth f.blocks b).term.to):
  Wy f (λ_=>True) b (toR s (nth f.blocks b).term).toNat/\((toR s (nth f.blocks b).term).toNat:Int)=toR s (nth f.blocks b).term:=by
 obtain⟨-,h2⟩:=m.endG wy.lt;obtain⟨h3,h4⟩:=h2 _ hk;have e:((toR s (nth f.blocks b).term).toNat:Int)=toR s (nth f.blocks b).term:=by omega
 refine⟨⟨by omega,.inr ⟨trivial,by omega,by have:=wy.lt;omega,?_,λc hc=>absurd trivial hc⟩⟩,e⟩;rw[e];simpa using hk
structure Fine(lim:Int)(s:RunS):Prop where
 e:0<=s.e/\s.e<=3
 v:-2147483648<=s.v/\s.v<=2147483647
 st:0<=s.st/\s.st<=lim
theorem Fine.step(q:Fine lim s):Fine lim (bY lim s):=by
 obtain⟨a,b,c⟩:=q;unfold bY;split
 ·split
  ·exact⟨by show(0:Int)<=3/\(3:Int)<=3;decide,by show -2147483648<=(0:Int)/\(0:Int)<=2147483647;decide,c⟩
  exact⟨a,b,by show 0<=s.st+1/\s.st+1<=lim;omega⟩
 exact⟨a,b,c⟩
theorem Fine.ins(q:Fine lim s){x:InsD}:Fine lim (insR s x):=by
 obtain⟨a,b,c⟩:=q;have a2:(0:Int)<=2/\(2:Int)<=3:=by decide
 have b1:-2147483648<=(-1:Int)/\(-1:Int)<=2147483647:=by decide
 have b2:-2147483648<=(-2:Int)/\(-2:Int)<=2147483647:=by decide
 unfold insR;repeat' split
 all_goals refine⟨?_,?_,c⟩
 all_goals first | exact a | exact b | exact a2 | exact b1 | exact b2
theorem Fine.insL{l:List InsD} : ∀{s:RunS},Fine lim s->Fine lim (insL lim l s):=by
 induction l with
 | nil=>intro s q;exact q
 | cons x l ih=>
  intro s q;rw[xX];split
  ·exact ih q.step.ins
  exact q.step
theorem Fine.term(q:Fine lim s){t:cK}(hv : ∀j,-2147483648<=s.vals j/\s.vals j<=2147483647)(hi:-2147483648<=t.imm.v/\t.imm.v<=2147483647):Fine lim (eu s t):=by
 obtain⟨a,b,c⟩:=q;unfold eu;split
 ·refine⟨by show(0:Int)<=1/\(1:Int)<=3;decide,?_,c⟩;show -2147483648<=nth (t.args.map s.vals) 0/\nth (t.args.map s.vals) 0<=2147483647;cases t.args with
  | nil=>show -2147483648<=(0:Int)/\(0:Int)<=2147483647;decide
  | cons x l=>exact hv x
 split
 ·exact⟨by show(0:Int)<=2/\(2:Int)<=3;decide,hi,c⟩
 exact⟨a,b,c⟩
theorem Rn.rng(R:Rn Bv W h oo B r lim s)(j:Int):-2147483648<=s.vals j/\s.vals j<=2147483647:=by obtain⟨⟨mv,cv,av,g,w,m,hv,hg,ha⟩,hb,hr⟩:=R;rw[hv];exact hg j
theorem GP{f:aq}{n a:Nat}{frm:Int}:goR f lim (n+1) a frm s =
  if(bY lim (insL lim (nth f.blocks a).ins (gT s frm (nth f.blocks a).phis))).e=0 then
   (if(eu (bY lim (insL lim (nth f.blocks a).ins (gT s frm (nth f.blocks a).phis))) (nth f.blocks a).term).e=0 then
    goR f lim n (toR (bY lim (insL lim (nth f.blocks a).ins (gT s frm (nth f.blocks a).phis))) (nth f.blocks a).term) a (bY lim (insL lim (nth f.blocks a).ins (gT s frm (nth f.blocks a).phis)))
   else eu (bY lim (insL lim (nth f.blocks a).ins (gT s frm (nth f.blocks a).phis))) (nth f.blocks a).term)
  else bY lim (insL lim (nth f.blocks a).ins (gT s frm (nth f.blocks a).phis)):=rfl
theorem Rn.endC(R:Rn Bv W h oo B r lim s):aj (vw h) ⟨B,1,QC⟩=QB (Qy Qz s.e):=by obtain⟨⟨mv,cv,av,g,w,m,hv,hg,ha⟩,hb,hr⟩:=R;exact w.raw (n:=7) eR (i:=1) Q2
theorem KU{t:cK}(hok:iT t=QF)(he:(eu s t).e=0)(hs:s.e=0):toR s t∈t.to:=by
 have mem : ∀i,i<t.to.length->nth t.to i∈t.to:=λi hi=>bD hi;unfold iT at hok;unfold toR;by_cases c1:t.kind=1
 ·rw[if_pos c1]at hok ⊢;exact mem 0 (by simp at hok;omega)
 rw[if_neg c1]at hok ⊢;by_cases c2:t.kind=2
 ·rw[if_pos c2]at hok ⊢;have hl:t.to.length=2:=by simp at hok;omega
  split
  ·exact mem 0 Q1
  exact mem 1 Q1
 rw[if_neg c2]at hok ⊢;by_cases c3:t.kind=3
 ·rw[if_pos c3]at hok ⊢;have hl:2<=t.to.length:=by simp at hok;omega
  have hw:0<=IntKind.u32.wrap (nth (t.args.map s.vals) 0):=by rw[IntKind.wrap_u32];omega
  exact mem _ Q1
 rw[if_neg c3]at hok;by_cases c4:t.kind=4
 ·unfold eu at he;rw[if_pos c4]at he;cases he
 rw[if_neg c4]at hok;by_cases c5:t.kind=5
 ·unfold eu at he;rw[if_neg c4,if_pos c5]at he;cases he
 rw[if_neg c5]at hok;cases hok
variable{vb:Value}
theorem Ee{f:aq}{Fb:Nat}{v4:Value}{Q:Post}{ρ:Env}(m:jf f)(hsz : ∀b,b<f.blocks.length->BkSz (nth f.blocks b))(hbl:f.blocks.length<=1000000)(cF:aj Bv ⟨Fb,1,QC⟩=QB vb)(sF:SlRd Bv vb f.blocks)(R:Rn Bv W h oo B r lim s)(q:Rlm lim s)(hlim:lim<=1000000)(hst:s.st=0)(he:s.e=0)(h0:0<f.blocks.length)(hρ:bh [2,4,5,8,9] ρ=[(2,QT Fb),(4,v4),(5,QT B),(8,Qy Qz 0),(9,Qy Qz (-1))])(hf:Fine lim s)(hN : ∀ρ' h' W',Slk ρ' [(4,v4),(5,QT B)]->Rn Bv W' h' oo B r lim (goR f lim (lim.toNat+1) 0 (-1) s)->Fine lim (goR f lim (lim.toNat+1) 0 (-1) s)->Q .normal ρ' h'):
  LC.wp QH (.loop L.cW.l2) (dU 2 Q) ρ h:=by
 refine iA [2,4,5,8,9] (λmm ρ hx=>∃(W':View) (s':RunS) (a:Nat) (frm:Int),ρ=[(2,QT Fb),(4,v4),(5,QT B),(8,Qy Qz a),(9,Qy Qz frm)]/\Rn Bv W' hx oo B r lim s'/\Rlm lim s'/\
  Wy f (λ_=>True) frm a/\Fine lim s'/\s'.e=0/\lim+1<=mm+s'.st/\goR f lim (lim.toNat+1) 0 (-1) s=goR f lim mm a frm s') (lim.toNat+1) ⟨W,s,0,-1,hρ,R,q,Ax h0,hf,he,by have:=q.st0;have:=q.st1;omega,rfl⟩ ?_;rintro mm ρ hx ⟨W1,s1,a,frm,rfl,R1,q1,wy,hf1,he1,hm1,e1⟩ K2 hK2;obtain⟨n,rfl⟩ : ∃n,mm=n+1:=⟨mm-1,by have:=q1.st1;omega⟩;have sz:=hsz a wy.lt;have hle1:=Qx R1.base R1.wle;unfold L.cW.l2;refine fE ?_;refine ab λy hy=>?_;have sx:=sF.mono hle1;have cx:=ae hle1 cF;obtain⟨ux,hux,rux⟩:=sF.wh rfl (N:=6) rfl wy.lt;have qx:=sx.idxn (k:=.i64) (N:=6) rfl (i:=(a:Int)) Q1 (by have:=wy.lt;omega);simp at qx;simp[cx,qx,hux _ hle1];refine eP (X:=Bv) (z:=zz3) Q0 rfl Q0 rux Q4 Q4 λh2 hle2 hs2 at2=>?_;subst hy;have R2:=R1.ext hle2;have hr1:=R1.rlt;have lB:Bv.le (butV r (grow W1 hx h2)):=zG (Qx R1.base (bE R1.wle)) R1.out;have at2:=at2 (butV r (grow W1 hx h2)) lB (by unfold butV grow;rw[if_neg Q1,if_neg Q1]);have R2:=R2.on (B2:=butV r (grow W1 hx h2)) yU zw;generalize butV r (grow W1 hx h2)=B2 at lB at2 R2;generalize grow W1 hx h2=W2 at R2;generalize Array.size hx=X at *;obtain⟨vp,vi,va,vt,⟨cp,sp⟩,⟨ci,si⟩,ck,⟨ca,sa⟩,⟨ct,st⟩⟩:=nZ at2
 have hfr:I64 frm:=by
  rcases wy.way with⟨c,-⟩ | ⟨-,c1,c2,-⟩
  ·rw[c];exact ⟨Q2,Q2⟩
  exact Q5
 refine ab λy hy=>?_;simp[ae (Qx R2.base R2.wle) cp];refine ag Q0 (Cf R2 sp (frm:=frm) (λp hp=>?_) sz.pin sz.phis hfr) ?_
 ·obtain⟨i,hi,rfl⟩:=Ni hp;rw[<-ao hi];obtain⟨⟨x,hx,hf⟩,-⟩:=wy.phi m hi;exact⟨x,hx,hf⟩
 rintro _ h3 ⟨W3,R3⟩;subst hy;refine ab λy hy=>?_;have l3:=Qx R3.base R3.wle;have sl3 : ∀{K:View},Un.ev K .len vi=QB (Qy Qz (nth f.blocks a).ins.length):=si.len;simp[ae l3 ci,sl3];have q3:Rlm lim (gT s1 frm (nth f.blocks a).phis):=q1.phis;have t3:(gT s1 frm (nth f.blocks a).phis).st=s1.st:=rfl;have eg:=GP (f:=f) (lim:=lim) (n:=n) (a:=a) (frm:=frm) (s:=s1);have f3:Fine lim (gT s1 frm (nth f.blocks a).phis):=⟨hf1.e,hf1.v,hf1.st⟩;generalize hs3:gT s1 frm (nth f.blocks a).phis=s3 at *;refine HC (v2:=QT Fb) (v4:=v4) (v8:=Qy Qz a) (v9:=Qy Qz frm) (v10:=QT X) si (λx hx=>⟨?_,sz.args x hx⟩) R3 q3 hlim sz.ins rfl ?_ ?_
 ·obtain⟨i,hi,rfl⟩:=Ni hx;rw[<-ao hi];exact(m.insG wy.lt hi).2
 ·intro ρ4 h4 W4 s4 k4 R4 e4 n4;have es:bY lim s4=s4:=by unfold bY;rw[if_neg n4]
  rw[e4,es,if_neg n4]at eg;refine hN ρ4 h4 W4 k4 ?_ ?_
  ·rw[e1,eg];exact R4.on (Qx lB R4.base) R1.out
  rw[e1,eg,<-e4];exact f3.insL
 intro h4 W4 s4 y4 R4 e4 q4;have t4:s3.st<=s4.st:=by rw[<-e4];exact H3
 have f4:Fine lim s4:=by rw[<-e4];exact f3.insL
 rw[e4]at eg;simp;subst hy;refine ab λy hy=>?_;simp;refine ag Q0 (xo R4 ⟨q4.st0,by have:=q4.st1;omega⟩) ?_;rintro _ h5 ⟨rfl,R5⟩;by_cases c5:(bY lim s4).e=0
 ·simp[c5];subst hy;rw[if_pos c5]at eg;have q5:=q4.step c5;have t5:(bY lim s4).st=s4.st+1:=by
   unfold bY at c5 ⊢;by_cases c:s4.e=0
   ·rw[if_pos c]at c5 ⊢;by_cases d:lim<=s4.st
    ·rw[if_pos d]at c5;cases c5
    rw[if_neg d]
   rw[if_neg c]at c5;exact absurd c5 c
  have lx5:B2.le (vw h5):=Qx R5.base R5.wle;obtain⟨u5,lu5,ru5⟩:=(at2.part BlkD.mW).ldK rfl (N:=4) rfl;have lu5:=lu5 _ lx5;simp at lu5;refine ab λy hy=>?_;simp[lu5];obtain⟨eh,-⟩:=m.endG wy.lt;refine ag Q0 (Cp R5 ru5 eh sz.targs sz.to) ?_;rintro _ h6 ⟨rfl,W6,R6⟩;subst hy;simp;simp[R6.endC];have R6':=R6.on (Qx lB R6.base) R1.out;by_cases c6:(eu (bY lim s4) (nth f.blocks a).term).e=0
  ·have es:eu (bY lim s4) (nth f.blocks a).term=bY lim s4:=by
    unfold eu at c6 ⊢;split
    ·rename_i c;rw[if_pos c]at c6;cases c6
    rename_i c;rw[if_neg c]at c6;split
    ·rename_i d;rw[if_pos d]at c6;cases c6
    rfl
   have tm:=KU eh c6 c5;obtain⟨wy6,te⟩:=Wy.next m wy tm;simp[c6];rw[if_pos c6]at eg;rw[es]at R6';refine hK2 n _ _ Q1 ⟨W6,bY lim s4,(toR (bY lim s4) (nth f.blocks a).term).toNat,a,?_,R6',⟨q5.1,q5.2.1,by have:=q5.2.2;omega⟩,wy6,f4.step,c5,?_,?_⟩
   ·rw[te];rfl
   ·rw[t5];omega
   rw[e1,eg,te]
  simp[c6];rw[if_neg c6]at eg;refine hN _ _ W6 (by rw[j9,j9,zK];exact⟨rfl,rfl,trivial⟩) ?_ ?_
  ·rw[e1,eg];exact R6'
  rw[e1,eg];exact f4.step.term R5.rng (At.rngW ((at2.part BlkD.mW).part cK.AM))
 simp[c5];rw[if_neg c5]at eg;refine hN _ _ W4 (by rw[j9,j9,zK];exact⟨rfl,rfl,trivial⟩) ?_ ?_
 ·rw[e1,eg];exact R5.on (Qx lB R5.base) R1.out
 rw[e1,eg];exact f4.step
end
structure OutR where
 e:Int
 v:I32
 mem:List I32
 calls:List eI
 st:Int
instance:Rep OutR:=Rep.via λx=>Cat.mk x.e (Cat.mk x.v (Cat.mk x.mem (Cat.mk x.calls x.st)))
def outR(s:RunS):OutR:=⟨s.e,⟨s.v⟩,s.mem,s.calls,s.st⟩
theorem Kr{H:View}{B i:Nat}{c0 c1 c2 c3 c4:Value}(h0:aj H ⟨B,i,QC⟩=QB c0)(h1:aj H ⟨B,i+1,QC⟩=QB c1)(h2:aj H ⟨B,i+2,QC⟩=QB c2)(h3:aj H ⟨B,i+3,QC⟩=QB c3)(h4:aj H ⟨B,i+4,QC⟩=QB c4):
  Un.ev H (.ax 5) (QE (QB ⟨B,i,QC⟩))=QB (.agg #[c0,c1,c2,c3,c4]):=by simp only[Un.ev,vP,Nn];simp[dy,h0,h1,h2,h3,h4]
structure InSz(i:cU):Prop where
 args:i.args.length<=1000000
 mem:i.mem.length<=1000000
 ans:i.ans.length<=1000000
 steps:0<=i.steps/\i.steps<=1000000
theorem Gq{f:aq}{i:cU}{v vi:Value}{h:Heap}(hv:Rd (vw h) v f)(hi:Rd (vw h) vi i)(sm:SmF f)(m:jf f)(sz:InSz i):
  aw QH N.cW #[v,vi] h (λu h'=>(vw h).le (vw h')/\Rd (vw h') u (outR (runR f i))/\(runR f i).st<=i.steps):=by
 refine ak (args:=[v,vi]) follows F.cW E.cW Q9 λK hK=>?_;dsimp only[L.cW];refine ab λz hz=>?_;simp;have w:=Owns.start (View.le_refl (vw h));refine w.qu (α:=aq) rfl hv λFb h1 W1 hW1 w1 atF hle1=>?_;refine w1.qu (α:=cU) rfl (hi.mono hW1) λIb h2 W2 hW2 w2 atI hle2=>?_;have atF:=atF.mono hW2;have hB2:(vw h).le W2:=Qx hW1 hW2;clear w w1 hW1 hW2 hle1 hle2;refine w2.mL (k:=(1,0)) (n:=4) (z:=zz11) rfl Q0 rfl Q2 Q6 λh3 hle3 w3=>?_;generalize Array.size h2=Rb at *;subst hz;refine ab λz hz=>?_;obtain⟨uF,huF,rF⟩:=atF.ldK rfl (N:=2) rfl;simp[huF _ w3.wle];refine ag Q0 (FU (rF.mono w3.wle) sm) ?_;rintro _ h4 ⟨rfl,q4⟩;rw[BU m];have w4:=w3.ext' q4;clear q4 hle3 w3 huF rF;simp;subst hz;refine ab λz hz=>?_;simp;refine w4.BQ (d:=.int .i64) λh5 W5 hW5 hle5 w5 hn5 m5=>?_;generalize Array.size h4=r at *;obtain⟨vg,kg,sg⟩:=(atI.part cU.mV).sl;obtain⟨vm,km,smm⟩:=(atI.part cU.AY).sl;obtain⟨va,ka,sa⟩:=(atI.part cU.LM).sl;have kl:=(atI.part cU.sG).int;simp at kg km ka kl;have l5:=Qx hW5 w5.wle;simp[ae l5 ka,ae l5 kl];obtain⟨aa,ca,rfl,-⟩:=id sa;refine aQ (z:=zz12) (places:=[(0,1),(1,5),(6,1),(7,1)]) (vs:=[(0,.map (QB r)),(2,.slice aa i.ans.length ca),(3,Qy Qz i.steps)]) (cs:=#[.map (QB r),Qy Qz 0,Qy QA 0,QD QC 0 0,QD QC 0 0,Qy Qz 0,.slice aa i.ans.length ca,Qy Qz i.steps]) Q0 Q0 Sb Q0 ?_;refine w5.qt (k:=(0,0)) (n:=7) (l:=[.map (QB r),Qy Qz 0,Qy QA 0,QD QC 0 0,QD QC 0 0,Qy Qz 0,.slice aa i.ans.length ca,Qy Qz i.steps]) rfl rfl rfl Q2 Q6 λB h6 hle6 w6=>?_;subst hz;refine ab λz hz=>?_;obtain⟨uI,huI,rI⟩:=atI.ldK rfl (N:=4) rfl;have l6:=Qx hW5 w6.wle;simp[huI _ l6];refine ag Q0 (Ep (rI.mono l6) sz.mem) ?_;rintro um h7 m7;have w7:=w6.add (k:=(0,1)) Ri (m7.own.mono (W':=W5) λb x hb=>by cases hb) m7.old λb e=>by have:=m7.av0 b e;simpa[vw]using this
 have um1:um.oneCell'=true:=zF m7.now;clear m7 huI rI w6 l6;refine w7.bG (k:=(0,0)) (n:=7) (i:=3) rfl Q2 Q0 rfl rfl um1 λh8 w8 c8=>?_;have w9:=w8.add (k:=(0,2)) rfl (OwnT.nil (α:=eI) W5 h8 T.kK) Qw λb hb=>by simp[Value.ownBlock]at hb
 have R9:Rn W2 W5 h8 (Own.upd (λ_=>QC) (1,0) (bx T.oV Rb (RawN.mk (n:=4) [Qy Qz 0,Qy QA 0,QD QC 0 0,QD QC 0 0,Qy Qz 0]))) B r i.steps ⟨qQ 0 i.args,0,0,i.mem.take 4096,[],0,i.ans⟩:=by
  refine⟨⟨um,QD QC 0 0,.slice aa i.ans.length ca,λ_=>QC,?_,?_,?_,?_,?_⟩,hW5,hn5⟩
  ·refine w9.congr λq=>?_;unfold runO Own.upd;by_cases c0:q=(0,0)
   ·subst c0;rfl
   by_cases c1:q=(0,1)
   ·subst c1;rfl
   by_cases c2:q=(0,2)
   ·subst c2;rfl
   simp only[if_neg c0,if_neg c1,if_neg c2];rfl
  ·rw[pZ];exact m5
  ·funext q;show qQ 0 i.args q=0;unfold qQ;rw[if_neg Q1]
  ·intro q;show -2147483648<=(0:Int)/\(0:Int)<=2147483647;decide
  exact sa.mono hW5
 generalize ho:Own.upd (λ_=>QC) (1,0) (bx T.oV Rb (RawN.mk (n:=4) [Qy Qz 0,Qy QA 0,QD QC 0 0,QD QC 0 0,Qy Qz 0]))=oo at R9;clear w9 w8 w7 c8 um1 w5 w4 m5 hW5 l5 sa;subst hz;refine ab λz hz=>?_;obtain⟨hp,vF,kF,sF⟩:=jX atF;have l8:=Qx R9.base R9.wle;have mp:=m.params;obtain⟨ug,hug,sug⟩:=sg.take (n:=min i.args.length f.params.toNat) Q1 (kd:=.i64);have em:(if f.params<i.args.length then f.params else(i.args.length:Int))=((min i.args.length f.params.toNat:Nat):Int):=by split<;>omega
 have slu : ∀{K:View},Un.ev K .len ug=QB (Qy Qz (i.args.take (min i.args.length f.params.toNat)).length):=sug.len;simp[ae l8 kg,ae l8 hp,sg.len,em,hug,slu];have eM:((min i.args.length f.params.toNat:Nat):Int)=min (i.args.length:Int) f.params:=by omega
 have eL:(i.args.take (min i.args.length f.params.toNat)).length=min i.args.length f.params.toNat:=by rw[Ny];omega
 have eS:runR f i=goR f i.steps (i.steps.toNat+1) 0 (-1) ⟨qQ ((min i.args.length f.params.toNat:Nat):Int) i.args,0,0,i.mem.take 4096,[],0,i.ans⟩:=by rw[eM];rfl
 rw[eS]at hK;clear eS eM em;generalize hM:min i.args.length f.params.toNat=M at *;have hM1:M<=i.args.length:=by omega
 refine aJ [2,4,5,38,39,40] (fun(_:Unit) k=>[QT Fb,QT Rb,QT B,ug,Qy Qz M,Qy Qz k])
  (λ_ k hx=>∃W',Rn W2 W' hx oo B r i.steps ⟨qQ (k:Int) i.args,0,0,i.mem.take 4096,[],0,i.ans⟩) M ()
  rfl (by have:=sz.args;omega) rfl ⟨W5,R9⟩ (λ_ _=>rfl) (λv k h1 hk m=>by simp) ?_ ?_
 ·rintro _ k hx hk ⟨W6,R6⟩ K2 hK2;have hk:k<M:=hk;have su6:=sug.mono (Qx R6.base R6.wle);have hkl:k<(i.args.take M).length:=by omega
  have q6:=su6.idx1 (k:=.i64) (i:=(k:Int)) rfl Q1 Q1;have p6:=(su6.at hkl).i32;rw[show k*Rep.n I32=k from NN _,OS,<-ao Q1]at p6;have rg:-2147483648<=(nth i.args k).v/\(nth i.args k).v<=2147483647:=by have:=At.rngW (su6.at hkl);rwa [OS,<-ao Q1]at this
  simp at q6;refine fE ?_;refine ab λy hy=>?_;simp[q6,p6];subst hy;obtain⟨⟨mv,cv,av,g,w6,m6,hv6,hg6,ha6⟩,hb6,hr6⟩:=R6;have x0:aj (vw hx) ⟨B,0,QC⟩=QB (.map (QB r)):=w6.raw (n:=7) eR (i:=0) Q2;simp[x0];refine mS w6 m6 hg6 ha6 hb6 hr6 rg (.inl rfl) rfl rfl rfl λh7 W7 w7 m7 hg7 ha7 hb7 _ _ _=>?_;refine hK2 () _ _ rfl rfl ⟨W7,⟨⟨mv,cv,av,putM g k (nth i.args k).v,w7,m7,?_,hg7,ha7⟩,hb7,hr6⟩⟩;rw[iy,<-hv6];funext q;show qQ ((k+1:Nat):Int) i.args q=setV (qQ k i.args) k (nth i.args k).v q;unfold setV qQ;by_cases c:q=(k:Int)
  ·rw[if_pos c,if_pos Q1,c];rfl
  rw[if_neg c];by_cases d:0<=q/\q<(k:Int)
  ·rw[if_pos d,if_pos Q1]
  rw[if_neg d,if_neg Q1]
 rintro _ hx ⟨W6,R6⟩;simp;subst hz;simp;have hb:=m.blocks;refine Ee (v4:=QT Rb) m (λb hb=>?_) Q1 (by simpa using kF) sF R6 ⟨NP _,sz.steps.1,NP _⟩ sz.steps.2 rfl rfl hb.1 rfl ⟨by show(0:Int)<=0/\(0:Int)<=3;decide,by show -2147483648<=(0:Int)/\(0:Int)<=2147483647;decide,NP _,sz.steps.1⟩ λρ8 h8 W8 k8 R8 f8=>?_
 ·have sb:=sm.blk b hb;refine⟨by have:=sb.phis;omega,λp hp=>?_,by have:=sb.ins;omega,λp hp=>?_,by have:=sb.args;omega,by have:=sb.to;omega⟩
  ·obtain⟨j,hj,rfl⟩:=Ni hp;have:=sb.phi j hj;rw[ao hj]at this;omega
  obtain⟨j,hj,rfl⟩:=Ni hp;have:=sb.inn j hj;rw[ao hj]at this;omega
 generalize goR f i.steps (i.steps.toNat+1) 0 (-1) ⟨qQ ((M:Nat):Int) i.args,0,0,i.mem.take 4096,[],0,i.ans⟩=s8 at R8 f8 hK;obtain⟨⟨mv,cv,av,g,w8,m8,hv8,hg8,ha8⟩,hb8,hr8⟩:=R8;have e4:Lft.look ρ8 4=QB (QT Rb):=(j9.1 k8).1;have e5:Lft.look ρ8 5=QB (QT B):=(j9.1 (j9.1 k8).2).1;have L5:=Kr (w8.raw (k:=(0,0)) (n:=7) eR (i:=1) Q2) (w8.raw (k:=(0,0)) (n:=7) eR (i:=2) Q2) (w8.raw (k:=(0,0)) (n:=7) eR (i:=3) Q2) (w8.raw (k:=(0,0)) (n:=7) eR (i:=4) Q2) (w8.raw (k:=(0,0)) (n:=7) eR (i:=5) Q2);simp at L5;have hk:runO oo B (.map (QB r)) s8.e s8.v mv cv s8.st av i.steps s8.mem cv s8.calls (1,0)=bx T.oV Rb (RawN.mk (n:=4) [Qy Qz 0,Qy QA 0,QD QC 0 0,QD QC 0 0,Qy Qz 0]):=by rw[<-ho];rfl
 have vm1:mv.oneCell'=true:=zF (w8.now (k:=(0,1)) Cy);have vc1:cv.oneCell'=true:=zF (w8.now (k:=(0,2)) GQ);simp[e4,e5,L5];refine w8.lR Part.all (k:=(1,0)) (d:=RawN.mk (n:=4) [Qy Qz s8.e,Qy QA s8.v,mv,cv,Qy Qz s8.st]) hk Q0 rfl rfl (iO rfl (by intro c hc;simp at hc;rcases hc with rfl | rfl | rfl | rfl | rfl;rfl;rfl;exact vm1;exact vc1;rfl)) λh9 w9 _=>?_;have q9:=w9.gg (k:=(1,0)) (n:=4) Own.ah;simp at q9;simp[e4,au,q9];have n1:=w9.now (k:=(0,1)) (e:=T.int32) (v:=mv) (l:=s8.mem) (by unfold Own.upd;rw[if_neg Q2];rfl);have n2:=w9.now (k:=(0,2)) (e:=T.kK) (v:=cv) (l:=s8.calls) (by unfold Own.upd;rw[if_neg Q2];rfl);refine hK _ _ ⟨Qx hB2 (Qx hb8 w9.wle),?_,f8.st.2⟩;have b1:=f8.e;have b2:=f8.st;have b3:=sz.steps;have c1:-9223372036854775808<=s8.e/\s8.e<=9223372036854775807:=by omega
 have c2:-9223372036854775808<=s8.st/\s8.st<=9223372036854775807:=by omega
 exact⟨_,rfl,[_],[_,_,_,_],rfl,⟨rfl,c1⟩,[_],[_,_,_],rfl,⟨rfl,f8.v⟩,[_],[_,_],rfl,⟨_,rfl,n1⟩,[_],[_],rfl,⟨_,rfl,n2⟩,⟨rfl,c2⟩⟩
variable{vb:Value}
theorem vH{l:List I32}{va:Value}{h:Heap}(ha:SlRd (vw h) va l)(hb:SlRd (vw h) vb l):
  aw QH N.bP #[va,vb] h (λu h'=>h'=h/\u = .bool QF):=by
 refine ak (args:=[va,vb]) follows F.bP E.bP Q9 λK hK=>?_;dsimp only[L.bP];refine ab λz hz=>?_;have hl:=ha.bound;have sa : ∀{K:View},Un.ev K .len va=QB (Qy Qz l.length):=ha.len;have sb : ∀{K:View},Un.ev K .len vb=QB (Qy Qz l.length):=hb.len;simp;subst hz;refine ab λz hz=>?_;simp[sa,sb];subst hz;refine ab λz hz=>?_;simp[sa];refine aJ [0,1,12,13] (fun(_:Unit) k=>[va,vb,Qy Qz l.length,Qy Qz k]) (λ_ k hx=>hx=h) l.length ()
  rfl Q1 rfl rfl (λ_ _=>rfl) (λv k h1 hk m=>by simp) ?_ ?_
 ·rintro _ k hx hk rfl K2 hK2;have hk:k<l.length:=hk;have q1:=ha.idx1 (k:=.i64) (i:=(k:Int)) rfl Q1 Q1;have p1:=(ha.at hk).i32;have q2:=hb.idx1 (k:=.i64) (i:=(k:Int)) rfl Q1 Q1;have p2:=(hb.at hk).i32;rw[show k*Rep.n I32=k from NN _]at p1 p2;simp at q1 q2;refine fE ?_;refine ab λy hy=>?_;simp;subst hy;refine ab λy hy=>?_;refine bz (vw hx) Qw ?_;simp[q1,q2,p1,p2];subst hy;simp;exact hK2 () _ _ rfl rfl rfl
 rintro _ hx rfl;simp;subst hz;simp;exact hK _ _ ⟨rfl,rfl⟩
theorem eI.AO:Part eI I32 0 eI.callee (λd x=>{ d with callee:=x }):=(Part.fst Part.all).via (λ_=>rfl) λ_ _=>rfl
theorem eI.mV:Part eI (List I32) 1 eI.args (λd x=>{ d with args:=x }):=(Part.snd Part.all).via (λ_=>rfl) λ_ _=>rfl
theorem HE{x:eI}{va:Value}{h:Heap}(ha:Rd (vw h) va x)(hb:Rd (vw h) vb x):
  aw QH N.dm #[va,vb] h (λu h'=>(vw h).le (vw h')/\u = .bool QF):=by refine ak (args:=[va,vb]) follows F.dm E.dm Q9 λK hK=>?_;dsimp only[L.dm];refine ab λz hz=>?_;simp;refine fH rfl ha λh1 e1 hle1 hs1 at1=>?_;refine fH rfl (hb.mono hle1) λh2 e2 hle2 hs2 at2=>?_;have at1:=at1.mono hle2;have k1:=(at1.part eI.AO).i32;have k2:=(at2.part eI.AO).i32;obtain⟨v1,c1,s1⟩:=(at1.part eI.mV).sl;obtain⟨v2,c2,s2⟩:=(at2.part eI.mV).sl;simp at k1 k2 c1 c2;subst hz;refine ab λz hz=>?_;simp[k1,k2,c1,c2];refine ag Q0 (vH s1 s2) ?_;rintro _ _ ⟨rfl,rfl⟩;subst hz;simp;exact hK _ _ ⟨Qx hle1 hle2,rfl⟩
theorem Cq{l:List eI}{va:Value}{h:Heap}(ha:SlRd (vw h) va l)(hb:SlRd (vw h) vb l):
  aw QH N.al #[va,vb,.func (.func N.dm) #[] #[]] h (λu h'=>(vw h).le (vw h')/\u = .bool QF):=by
 refine ak (args:=[va,vb,.func (.func N.dm) #[] #[]]) follows F.al E.al Q9 λK hK=>?_;dsimp only[L.al];refine ab λz hz=>?_;have hl:=ha.bound;have sa : ∀{K:View},Un.ev K .len va=QB (Qy Qz l.length):=ha.len;have sb : ∀{K:View},Un.ev K .len vb=QB (Qy Qz l.length):=hb.len;simp;subst hz;refine ab λz hz=>?_;simp[sa,sb];subst hz;refine ab λz hz=>?_;simp[sa];refine aJ [1,2,15,16,17] (fun(_:Unit) k=>[vb,.func (.func N.dm) #[] #[],va,Qy Qz l.length,Qy Qz k]) (λ_ k hx=>(vw h).le (vw hx)) l.length ()
  rfl Q1 rfl Qw (λ_ _=>rfl) (λv k h1 hk m=>by simp) ?_ ?_
 ·rintro _ k h1 hk l1 K2 hK2;have hk:k<l.length:=hk;have ha1:=ha.mono l1;have hb1:=hb.mono l1;obtain⟨u1,hu1,ru1⟩:=ha1.wh rfl (N:=2) rfl hk;obtain⟨u2,hu2,ru2⟩:=hb1.wh rfl (N:=2) rfl hk;have q1:=ha1.idxn (k:=.i64) (N:=2) rfl (i:=(k:Int)) Q1 Q1;have q2:=hb1.idxn (k:=.i64) (N:=2) rfl (i:=(k:Int)) Q1 Q1;simp at q1 q2;refine fE ?_;refine ab λy hy=>?_;simp[q1,hu1 _ Qw];refine eP (X:=vw h1) (z:=zz10) Q0 rfl Q0 ru1 Q4 Q4 λh2 hle2 hs2 at2=>?_;have at2:=at2 (vw h2) hle2 rfl;subst hy;refine ab λy hy=>?_;simp[q2,hu2 _ hle2];refine eP (X:=vw h1) (z:=zz10) Q0 rfl Q0 ru2 Q4 Q4 λh3 hle3 hs3 at3=>?_;have at3:=at3 (vw h3) (Qx hle2 hle3) rfl;have at2:=at2.mono hle3;subst hy;refine ab λy hy=>?_;obtain⟨w1,lw1,rw1⟩:=at2.ldK rfl (N:=2) rfl;obtain⟨w2,lw2,rw2⟩:=at3.ldK rfl (N:=2) rfl;simp[lw1 _ Qw,lw2 _ Qw];refine cJ (ops:=[.tmp 27,.tmp 28]) (caps:=#[]) rfl Q0 (HE rw1 rw2) ?_;rintro _ h4 ⟨l4,rfl⟩;simp;subst hy;simp;exact hK2 () _ _ rfl rfl (Qx l1 (Qx (Qx hle2 hle3) l4))
 rintro _ h1 l1;simp;subst hz;simp;exact hK _ _ ⟨l1,rfl⟩
theorem OutR.Mq:Part OutR Int 0 OutR.e (λd x=>{ d with e:=x }):=(Part.fst Part.all).via (λ_=>rfl) λ_ _=>rfl
theorem OutR.MQ:Part OutR I32 1 OutR.v (λd x=>{ d with v:=x }):=(Part.snd (Part.fst Part.all)).via (λ_=>rfl) λ_ _=>rfl
theorem OutR.AY:Part OutR (List I32) 2 OutR.mem (λd x=>{ d with mem:=x }):=(Part.snd (Part.snd (Part.fst Part.all))).via (λ_=>rfl) λ_ _=>rfl
theorem OutR.DD:Part OutR (List eI) 3 OutR.calls (λd x=>{ d with calls:=x }):=(Part.snd (Part.snd (Part.snd (Part.fst Part.all)))).via (λ_=>rfl) λ_ _=>rfl
theorem OutR.L3:Part OutR Int 4 OutR.st (λd x=>{ d with st:=x }):=(Part.snd (Part.snd (Part.snd (Part.snd Part.all)))).via (λ_=>rfl) λ_ _=>rfl
theorem Cb{x:OutR}{st:Int}{va:Value}{h:Heap}(ha:Rd (vw h) va x)(hb:Rd (vw h) vb { x with st:=st }):
  aw QH N.fX #[va,vb] h (λu h'=>(vw h).le (vw h')/\u = .bool QF):=by refine ak (args:=[va,vb]) follows F.fX E.fX Q9 λK hK=>?_;dsimp only[L.fX];refine ab λz hz=>?_;simp;refine fH rfl ha λh1 e1 hle1 hs1 at1=>?_;refine fH rfl (hb.mono hle1) λh2 e2 hle2 hs2 at2=>?_;have at1:=at1.mono hle2;have a1:=(at1.part OutR.Mq).int;have a2:=(at2.part OutR.Mq).int;have b1:=(at1.part OutR.MQ).i32;have b2:=(at2.part OutR.MQ).i32;obtain⟨m1,c1,s1⟩:=(at1.part OutR.AY).sl;obtain⟨m2,c2,s2⟩:=(at2.part OutR.AY).sl;obtain⟨v1,d1,t1⟩:=(at1.part OutR.DD).sl;obtain⟨v2,d2,t2⟩:=(at2.part OutR.DD).sl;simp at a1 a2 b1 b2 c1 c2 d1 d2;subst hz;refine ab λz hz=>?_;simp[a1,a2,b1,b2,c1,c2];refine ag Q0 (vH s1 s2) ?_;rintro _ _ ⟨rfl,rfl⟩;simp[d1,d2];refine ag Q0 (Cq t1 t2) ?_;rintro _ h4 ⟨l4,rfl⟩;subst hz;simp;exact hK _ _ ⟨Qx (Qx hle1 hle2) l4,rfl⟩
end Go.Lft
namespace Go.Lft
theorem Owns.raws{W:View}{h:Heap}{o:Own}{k:Key}{n:Nat}{e:TypeId}{B:Nat}{l:List Value}(w:Owns W h o)(hk:o k=bx e B (RawN.mk (n:=n) l)):h[B]? = QB (.cells l.toArray e (0,0)):=by
 obtain⟨-,xs,⟨hx,h1⟩,h2⟩:=w.get (α:=RawN n) (v:=QD (QB ⟨B,0,QC⟩) 1 1) (l:=[RawN.mk l]) hk;rcases h1 with⟨h1,-⟩ | ⟨g,cap,cur,e1,hg,-,-,hs,ht⟩
 ·cases h1
 cases e1;obtain⟨e2,-,-⟩:=h2 0 Sb;have e2:(xs.drop (0*(n+1))).take (n+1)=l:=e2;have hx:xs.length=1*(n+1):=hx;have hs:cur.size=1*(n+1):=hs;have ht:cur.toList.take (1*(n+1))=xs:=ht;rw[OT,Oy,Nd Q1]at e2;rw[Nd Q8]at ht;rw[<-e2,<-ht];exact hg
def oneB(B:Nat)(l:List Value)(e:TypeId):View:=λb=>if b=B then QB (.cells l.toArray e (0,0)) else QC
theorem H7{h:Heap}{B:Nat}{l:List Value}{e:TypeId}(hb:h[B]? = QB (.cells l.toArray e (0,0))):(oneB B l e).le (vw h):=λb x hx=>by
 unfold oneB at hx;split at hx
 ·rename_i c;subst c;rw[<-hx];exact hb
 cases hx
theorem tr{B:Nat}{l:List Value}{e:TypeId}{i:Nat}{v:Value}(hv:l[i]? = QB v):aj (oneB B l e) ⟨B,i,QC⟩=QB v:=by exact bV (T:=e) (c:=l.toArray) (fz:=(0,0)) (if_pos rfl) (by simpa using hv)
def ipO(oo:Own)(R:Nat)(va vm vn:Value)(la lm ln:List I32):Own:=λk=>if k=(3,0) then bx T.cg R (RawN.mk (n:=3) [va,vm,vn,Qy Qz 300]) else if k=(3,1) then it T.int32 va la else if k=(3,2) then it T.int32 vm lm else if k=(3,3) then it T.int32 vn ln else oo k
structure Ip(s:List Int)(M:Nat)(vs:Value)(W:View)(h:Heap)(oo:Own)(R:Nat)(m:MS)(va vm vn:Value)(la lm ln:List I32):Prop where
 ex : ∃o,Mk s M vs W h o m/\∀k:Key,3<=k.1->o k=ipO oo R va vm vn la lm ln k
section
variable{s:List Int}{M R:Nat}{vs va vm vn v2 v9:Value}{W:View}{h:Heap}{oo:Own}{m:MS}{la lm ln:List I32}
theorem Ip.word(p:Ip s M vs W h oo R m va vm vn la lm ln)(h1:m.at_<=999999990) :
  aw QH N.b6 #[QT M] h (λu h'=>u = Qy QA (fo s m)/\Ip s M vs W h' oo R m.took.took va vm vn la lm ln):=by obtain⟨o,w,f⟩:=p.ex;refine(w.word h1).mono ?_;rintro u h' ⟨rfl,o',w',f'⟩;exact⟨rfl,o',w',λk hk=>(f' k hk).trans (f k hk)⟩
theorem Ip.take(p:Ip s M vs W h oo R m va vm vn la lm ln)(h1:m.at_<=1000000000){n:Int}(hn:0<n)(hn2:n<=1000000000) :
  aw QH N.bH #[QT M,Qy Qz n] h (λu h'=>u = Qy Qz (aB s m.at_ n)/\Ip s M vs W h' oo R m.took va vm vn la lm ln):=by obtain⟨o,w,f⟩:=p.ex;refine(w.take h1 hn hn2).mono ?_;rintro u h' ⟨rfl,o',w',f'⟩;exact⟨rfl,o',w',λk hk=>(f' k hk).trans (f k hk)⟩
theorem Ip.one(p:Ip s M vs W h oo R m va vm vn la lm ln):(oneB R [va,vm,vn,Qy Qz 300] T.cg).le (vw h):=by obtain⟨o,w,f⟩:=p.ex;exact H7 (w.own.raws (n:=3) (f (3,0) Q2))
theorem Ip.LG{Q:Post}{ρ:Env}(p:Ip s M vs W h oo R m va vm vn la lm ln)(hm:m.at_<=900)(hl:la.length<=1000)
  (hρ:bh [2,3,4,5] ρ=[(2,v2),(3,QT M),(4,QT R),(5,Qy Qz 0)])
  (hN : ∀h' m' va' la',Ip s M vs W h' oo R m' va' vm vn la' lm ln->m'.at_=m.at_+8->la'.length=la.length+4->Q .normal [(2,v2),(3,QT M),(4,QT R),(5,Qy Qz 4)] h') :
  LC.wp QH (.loop L.cm.l1) (dU 0 Q) ρ h:=by
 refine dq [2,3,4,5] (fun(_:Unit) k=>[v2,QT M,QT R,Qy Qz k]) (λ_ k hx=>∃m' va' la',Ip s M vs W hx oo R m' va' vm vn la' lm ln/\m'.at_=m.at_+2*k/\la'.length=la.length+k) 4 ()
  rfl Q2 hρ ⟨m,va,la,p,rfl,rfl⟩ (λ_ _=>rfl) (λ_ _ _ _ _=>rfl) ?_ ?_
 ·rintro _ k h1 hk ⟨m1,va1,la1,p1,em,el⟩ K2 hK2;refine fE ?_;refine bz (oneB R [va1,vm,vn,Qy Qz 300] T.cg) p1.one ?_;simp[tr (B:=R) (l:=[va1,vm,vn,Qy Qz 300]) (e:=T.cg) (i:=0) rfl];refine ag Q0 (p1.word Q1) ?_;rintro _ h2 ⟨rfl,p2⟩;refine⟨p2.one,?_⟩;obtain⟨o2,w2,f2⟩:=p2.ex;have g0:o2 (3,0)=bx T.cg R (RawN.mk (n:=3) [va1,vm,vn,Qy Qz 300]):=f2 (3,0) Q2;have g1:o2 (3,1)=it T.int32 va1 la1:=f2 (3,1) Q2;refine jz (α:=I32) (W:=W) (d:=⟨fo s m1⟩) (u:=Qy QA (fo s m1)) El.gz rfl (oL.2 ⟨rfl,kN⟩) λu4 h4 hsrc hle4 _=>⟨Qx p2.one hle4,?_⟩;have w4:=w2.own.ext' hle4;refine Lft.cR El.gz rfl rfl (w4.get (k:=(3,1)) (v:=va1) (l:=la1) g1) hsrc (by simp only[M6];omega) (by simp only[M6];omega) λv5 h5 o5 mo5=>?_;have w5:=w4.kz (k:=(3,1)) g1 o5 mo5;refine w5.bG (k:=(3,0)) (n:=3) (i:=0) (e:=T.cg) (B:=R) (l:=[va1,vm,vn,Qy Qz 300]) (by rw[Own.af Q2];exact g0) Q2 Q0 rfl rfl (w5.cells (k:=(3,1)) Own.ah).2 λh6 w6 _=>?_;refine hK2 () _ _ rfl rfl ⟨m1.took.took,v5,la1++[⟨fo s m1⟩],⟨_,⟨w6,w2.src,?_⟩,λk hk=>?_⟩,by show m1.at_+1+1=_;omega,by simp;omega⟩
  ·obtain⟨vb,vl,lb,bb⟩:=w2.box;exact⟨vb,vl,lb,bb.frame λk hk=>by rw[Own.af (by rintro rfl;simp at hk),Own.af (by rintro rfl;simp at hk)]⟩
  unfold ipO;by_cases c0:k=(3,0)
  ·subst c0;rfl
  by_cases c1:k=(3,1)
  ·subst c1;rfl
  rw[Own.af c0,Own.af c1,f2 k hk];unfold ipO;rw[if_neg c0,if_neg c1,if_neg c0,if_neg c1]
 rintro _ h1 ⟨m1,va1,la1,p1,em,el⟩;exact hN h1 m1 va1 la1 p1 em el
theorem Ip.Ly{Q:Post}{ρ:Env}{n:Nat}(p:Ip s M vs W h oo R m va vm vn la lm ln)(hm:m.at_<=900)(hl:lm.length<=1000)(hn4:n<=100)
  (hρ:bh [2,3,4,6,7] ρ=[(2,v2),(3,QT M),(4,QT R),(6,Qy Qz n),(7,Qy Qz 0)])
  (hN : ∀h' m' vm' lm',Ip s M vs W h' oo R m' va vm' vn la lm' ln->m'.at_=m.at_+2*n->lm'.length=lm.length+n->Q .normal [(2,v2),(3,QT M),(4,QT R),(6,Qy Qz n),(7,Qy Qz n)] h') :
  LC.wp QH (.loop L.cm.l2) (dU 2 Q) ρ h:=by
 refine dq [2,3,4,6,7] (fun(_:Unit) k=>[v2,QT M,QT R,Qy Qz n,Qy Qz k]) (λ_ k hx=>∃m' vm' lm',Ip s M vs W hx oo R m' va vm' vn la lm' ln/\m'.at_=m.at_+2*k/\lm'.length=lm.length+k) n ()
  rfl Q1 hρ ⟨m,vm,lm,p,rfl,rfl⟩ (λ_ _=>rfl) (λ_ _ _ _ _=>rfl) ?_ ?_
 ·rintro _ k h1 hk ⟨m1,vm1,lm1,p1,em,el⟩ K2 hK2;refine fE ?_;refine bz (oneB R [va,vm1,vn,Qy Qz 300] T.cg) p1.one ?_;simp[tr (B:=R) (l:=[va,vm1,vn,Qy Qz 300]) (e:=T.cg) (i:=1) rfl];refine ag Q0 (p1.word Q1) ?_;rintro _ h2 ⟨rfl,p2⟩;refine⟨p2.one,?_⟩;obtain⟨o2,w2,f2⟩:=p2.ex;have g0:o2 (3,0)=bx T.cg R (RawN.mk (n:=3) [va,vm1,vn,Qy Qz 300]):=f2 (3,0) Q2;have g1:o2 (3,2)=it T.int32 vm1 lm1:=f2 (3,2) Q2;refine jz (α:=I32) (W:=W) (d:=⟨fo s m1⟩) (u:=Qy QA (fo s m1)) El.gz rfl (oL.2 ⟨rfl,kN⟩) λu4 h4 hsrc hle4 _=>⟨Qx p2.one hle4,?_⟩;have w4:=w2.own.ext' hle4;refine Lft.cR El.gz rfl rfl (w4.get (k:=(3,2)) (v:=vm1) (l:=lm1) g1) hsrc (by simp only[M6];omega) (by simp only[M6];omega) λv5 h5 o5 mo5=>?_;have w5:=w4.kz (k:=(3,2)) g1 o5 mo5;refine w5.bG (k:=(3,0)) (n:=3) (i:=1) (e:=T.cg) (B:=R) (l:=[va,vm1,vn,Qy Qz 300]) (by rw[Own.af Q2];exact g0) Q2 Q0 rfl rfl (w5.cells (k:=(3,2)) Own.ah).2 λh6 w6 _=>?_;refine hK2 () _ _ rfl rfl ⟨m1.took.took,v5,lm1++[⟨fo s m1⟩],⟨_,⟨w6,w2.src,?_⟩,λk hk=>?_⟩,by show m1.at_+1+1=_;omega,by simp;omega⟩
  ·obtain⟨vb,vl,lb,bb⟩:=w2.box;exact⟨vb,vl,lb,bb.frame λk hk=>by rw[Own.af (by rintro rfl;simp at hk),Own.af (by rintro rfl;simp at hk)]⟩
  unfold ipO;by_cases c0:k=(3,0)
  ·subst c0;rfl
  by_cases c1:k=(3,2)
  ·subst c1;rfl
  rw[Own.af c0,Own.af c1,f2 k hk];unfold ipO;rw[if_neg c0,if_neg c1,if_neg c0,if_neg c1]
 rintro _ h1 ⟨m1,vm1,lm1,p1,em,el⟩;exact hN h1 m1 vm1 lm1 p1 em el
theorem Ip.LW{Q:Post}{ρ:Env}{n:Nat}(p:Ip s M vs W h oo R m va vm vn la lm ln)(hm:m.at_<=900)(hl:ln.length<=1000)(hn4:n<=100)
  (hρ:bh [2,3,4,6,8] ρ=[(2,v2),(3,QT M),(4,QT R),(6,Qy Qz n),(8,Qy Qz 0)])
  (hN : ∀h' m' vn' ln',Ip s M vs W h' oo R m' va vm vn' la lm ln'->m'.at_=m.at_+2*n->ln'.length=ln.length+n->Q .normal [(2,v2),(3,QT M),(4,QT R),(6,Qy Qz n),(8,Qy Qz n)] h') :
  LC.wp QH (.loop L.cm.l3) (dU 4 Q) ρ h:=by
 refine dq [2,3,4,6,8] (fun(_:Unit) k=>[v2,QT M,QT R,Qy Qz n,Qy Qz k]) (λ_ k hx=>∃m' vn' ln',Ip s M vs W hx oo R m' va vm vn' la lm ln'/\m'.at_=m.at_+2*k/\ln'.length=ln.length+k) n ()
  rfl Q1 hρ ⟨m,vn,ln,p,rfl,rfl⟩ (λ_ _=>rfl) (λ_ _ _ _ _=>rfl) ?_ ?_
 ·rintro _ k h1 hk ⟨m1,vn1,ln1,p1,em,el⟩ K2 hK2;refine fE ?_;refine bz (oneB R [va,vm,vn1,Qy Qz 300] T.cg) p1.one ?_;simp[tr (B:=R) (l:=[va,vm,vn1,Qy Qz 300]) (e:=T.cg) (i:=2) rfl];refine ag Q0 (p1.word Q1) ?_;rintro _ h2 ⟨rfl,p2⟩;refine⟨p2.one,?_⟩;obtain⟨o2,w2,f2⟩:=p2.ex;have g0:o2 (3,0)=bx T.cg R (RawN.mk (n:=3) [va,vm,vn1,Qy Qz 300]):=f2 (3,0) Q2;have g1:o2 (3,3)=it T.int32 vn1 ln1:=f2 (3,3) Q2;refine jz (α:=I32) (W:=W) (d:=⟨fo s m1⟩) (u:=Qy QA (fo s m1)) El.gz rfl (oL.2 ⟨rfl,kN⟩) λu4 h4 hsrc hle4 _=>⟨Qx p2.one hle4,?_⟩;have w4:=w2.own.ext' hle4;refine Lft.cR El.gz rfl rfl (w4.get (k:=(3,3)) (v:=vn1) (l:=ln1) g1) hsrc (by simp only[M6];omega) (by simp only[M6];omega) λv5 h5 o5 mo5=>?_;have w5:=w4.kz (k:=(3,3)) g1 o5 mo5;refine w5.bG (k:=(3,0)) (n:=3) (i:=2) (e:=T.cg) (B:=R) (l:=[va,vm,vn1,Qy Qz 300]) (by rw[Own.af Q2];exact g0) Q2 Q0 rfl rfl (w5.cells (k:=(3,3)) Own.ah).2 λh6 w6 _=>?_;refine hK2 () _ _ rfl rfl ⟨m1.took.took,v5,ln1++[⟨fo s m1⟩],⟨_,⟨w6,w2.src,?_⟩,λk hk=>?_⟩,by show m1.at_+1+1=_;omega,by simp;omega⟩
  ·obtain⟨vb,vl,lb,bb⟩:=w2.box;exact⟨vb,vl,lb,bb.frame λk hk=>by rw[Own.af (by rintro rfl;simp at hk),Own.af (by rintro rfl;simp at hk)]⟩
  unfold ipO;by_cases c0:k=(3,0)
  ·subst c0;rfl
  by_cases c1:k=(3,3)
  ·subst c1;rfl
  rw[Own.af c0,Own.af c1,f2 k hk];unfold ipO;rw[if_neg c0,if_neg c1,if_neg c0,if_neg c1]
 rintro _ h1 ⟨m1,vn1,ln1,p1,em,el⟩;exact hN h1 m1 vn1 ln1 p1 em el
end
theorem takeN{s:List Int}{a:Nat}{n:Int}(hn:0<n)(hb:n<=50) : ∃k:Nat,aB s a n=k/\k<50:=by have:=bc (s:=s) (at_:=a) hn;exact⟨(aB s a n).toNat,by omega,by omega⟩
theorem Gy{s:List Int}{vs:Value}{h:Heap}(hs:SlRd (vw h) vs s) :
  aw QH N.cm #[vs] h (λu h'=>(vw h).le (vw h')/\∃i:cU,Rd (vw h') u i/\InSz i):=by
 refine ak (args:=[vs]) follows F.cm E.cm Q9 λK hK=>?_;dsimp only[L.cm];refine ab λz hz=>?_;simp;have w:=Owns.start (View.le_refl (vw h));refine w.mL (k:=(3,4)) (n:=3) (z:=zz13) rfl Q0 rfl Q2 Q6 λh1 _ w1=>?_;generalize Array.size h=R2 at *;subst hz;refine ab λz hz=>?_;simp;obtain⟨aa,ca,rfl,-⟩:=id hs;refine aQ (z:=zz14) (places:=[(0,1),(1,1),(2,2),(4,1),(5,1)]) (vs:=[(0,.slice aa s.length ca)]) (cs:=#[.slice aa s.length ca,Qy Qz 0,Qy Qz 0,QD QC 0 0,Qy Qz 0,QD QC 0 0]) Q0 Q0 Sb Q0 ?_;refine w1.qt (k:=(0,0)) (n:=5) (l:=mkL (.slice aa s.length ca) 0 0 (QD QC 0 0) 0 (QD QC 0 0)) rfl rfl rfl Q2 (by simp[mkL,Value.oneCell']) λM h2 _ w2=>?_;subst hz;refine ab λz hz=>?_;simp;refine aQ (z:=zz13) (places:=zpb) (vs:=[(3,Qy Qz 300)]) (cs:=#[QD QC 0 0,QD QC 0 0,QD QC 0 0,Qy Qz 300]) Q0 Q0 Sb Q0 ?_;refine w2.vJ (k:=(3,0)) (n:=3) (z:=zz13) (l:=[QD QC 0 0,QD QC 0 0,QD QC 0 0,Qy Qz 300]) rfl Q0 rfl Q0 rfl Q2 Q6 Q4 Q4 λh3 _ w3=>?_;generalize Array.size h2=R at *;have p3:Ip s M (.slice aa s.length ca) (vw h) h3 (λk=>if k=(3,4) then bx T.cg R2 (RawN.mk (n:=3) [QD QC 0 0,QD QC 0 0,QD QC 0 0,Qy Qz 0]) else QC) R ⟨0,0,[],0,[]⟩ (QD QC 0 0) (QD QC 0 0) (QD QC 0 0) [] [] []:=by
  refine⟨λk=>if k=(0,0) then bx T.aT M (RawN.mk (n:=5) (mkL (.slice aa s.length ca) 0 0 (QD QC 0 0) 0 (QD QC 0 0))) else if k=(0,1) then it T.int (QD QC 0 0) ([]:List Int) else if k=(0,2) then it T.a8 (QD QC 0 0) ([]:List BlkM) else if k.1<3 then QC else
   ipO (λk=>if k=(3,4) then bx T.cg R2 (RawN.mk (n:=3) [QD QC 0 0,QD QC 0 0,QD QC 0 0,Qy Qz 0]) else QC) R (QD QC 0 0) (QD QC 0 0) (QD QC 0 0) [] [] [] k,⟨w3.nils λk i hk=>?_,hs,QD QC 0 0,QD QC 0 0,[],⟨rfl,rfl,rfl,rfl,λi hi=>(by cases hi),λi hi=>(by cases hi),λi hi=>(by cases hi)⟩⟩,λk hk=>?_⟩
  ·skip;by_cases c0:k=(0,0)
   ·subst c0;exact .inl hk
   rw[if_neg c0]at hk;by_cases c1:k=(0,1)
   ·rw[if_pos c1]at hk;cases hk;exact .inr ⟨rfl,OwnT.nil (α:=Int) _ _ _⟩
   rw[if_neg c1]at hk;by_cases c2:k=(0,2)
   ·rw[if_pos c2]at hk;cases hk;exact .inr ⟨rfl,OwnT.nil (α:=BlkM) _ _ _⟩
   rw[if_neg c2]at hk;by_cases c3:k.1<3
   ·rw[if_pos c3]at hk;cases hk
   rw[if_neg c3]at hk;unfold ipO at hk;by_cases c4:k=(3,0)
   ·subst c4;exact .inl hk
   rw[if_neg c4]at hk;by_cases c5:k=(3,1)
   ·rw[if_pos c5]at hk;cases hk;exact .inr ⟨rfl,OwnT.nil (α:=I32) _ _ _⟩
   rw[if_neg c5]at hk;by_cases c6:k=(3,2)
   ·rw[if_pos c6]at hk;cases hk;exact .inr ⟨rfl,OwnT.nil (α:=I32) _ _ _⟩
   rw[if_neg c6]at hk;by_cases c7:k=(3,3)
   ·rw[if_pos c7]at hk;cases hk;exact .inr ⟨rfl,OwnT.nil (α:=I32) _ _ _⟩
   rw[if_neg c7]at hk;dsimp only at hk;by_cases c8:k=(3,4)
   ·subst c8;exact .inl hk
   rw[if_neg c8]at hk;cases hk
  dsimp only;rw[if_neg (by rintro rfl;simp at hk),if_neg (by rintro rfl;simp at hk),if_neg (by rintro rfl;simp at hk),if_neg Q1]
 generalize ho:(λk:Key=>if k=(3,4) then bx T.cg R2 (RawN.mk (n:=3) [QD QC 0 0,QD QC 0 0,QD QC 0 0,Qy Qz 0]) else QC)=oo at p3;clear w3 w2 w1 w;subst hz;refine ab λz hz=>?_;simp;refine Ip.LG p3 Q2 Q2 rfl λh4 m4 va la p4 em4 el4=>?_;subst hz;refine ab λz hz=>?_;simp;refine ag Q0 (p4.take (n:=13) (by rw[em4];decide) Q2 Q2) ?_;rintro _ h5 ⟨rfl,p5⟩;obtain⟨n5,e5,b5⟩:=takeN (s:=s) (a:=m4.at_) (n:=13) Q2 Q2;have w5:IntKind.i64.wrap (4+(n5:Int))=((4+n5:Nat):Int):=by rw[bu Q1 Q1];omega
 rw[e5];simp[w5];subst hz;refine ab λz hz=>?_;simp;refine Ip.Ly (n:=4+n5) p5 (by show m4.at_+1<=900;rw[em4];show 0+8+1<=900;omega) Q2 Q1 rfl λh6 m6 vm lm p6 em6 el6=>?_;subst hz;refine ab λz hz=>?_;simp;refine ag Q0 (p6.take (n:=7) (by rw[em6];show m4.at_+1+2*(4+n5)<=_;rw[em4];show 0+8+1+_<=_;omega) Q2 Q2) ?_;rintro _ h7 ⟨rfl,p7⟩;obtain⟨n7,e7,b7⟩:=takeN (s:=s) (a:=m6.at_) (n:=7) Q2 Q2;rw[e7];subst hz;refine ab λz hz=>?_;simp;refine Ip.LW (n:=n7) p7 (by show m6.at_+1<=900;rw[em6];show m4.at_+1+2*(4+n5)+1<=900;rw[em4];show 0+8+1+2*(4+n5)+1<=900;omega) Q2 Q1 rfl λh8 m8 vn ln p8 em8 el8=>?_;obtain⟨o8,w8,f8⟩:=p8.ex;have g0:o8 (3,0)=bx T.cg R (RawN.mk (n:=3) [va,vm,vn,Qy Qz 300]):=f8 (3,0) Q2;have g1:o8 (3,1)=it T.int32 va la:=f8 (3,1) Q2;have g2:o8 (3,2)=it T.int32 vm lm:=f8 (3,2) Q2;have g3:o8 (3,3)=it T.int32 vn ln:=f8 (3,3) Q2;have g4:o8 (3,4)=bx T.cg R2 (RawN.mk (n:=3) [QD QC 0 0,QD QC 0 0,QD QC 0 0,Qy Qz 0]):=(f8 (3,4) Q2).trans (by rw[<-ho];rfl);have q8:=w8.own.gg g0;have c1:=(w8.own.cells (k:=(3,1)) g1).2;have c2:=(w8.own.cells (k:=(3,2)) g2).2;have c3:=(w8.own.cells (k:=(3,3)) g3).2;simp at q8;simp;subst hz;simp[q8];refine w8.own.lR Part.all (k:=(3,4)) (d:=RawN.mk (n:=3) [va,vm,vn,Qy Qz 300]) g4 Q0 rfl rfl (iO rfl (by intro c hc;simp at hc;rcases hc with rfl | rfl | rfl | rfl;exact c1;exact c2;exact c3;rfl)) λh9 w9 _=>?_;have q9:=w9.gg (k:=(3,4)) (n:=3) Own.ah;simp at q9;simp[q9];have n1:=w9.now (k:=(3,1)) (e:=T.int32) (v:=va) (l:=la) (by rw[Own.af Q2];exact g1);have n2:=w9.now (k:=(3,2)) (e:=T.int32) (v:=vm) (l:=lm) (by rw[Own.af Q2];exact g2);have n3:=w9.now (k:=(3,3)) (e:=T.int32) (v:=vn) (l:=ln) (by rw[Own.af Q2];exact g3);have d1:-9223372036854775808<=(300:Int)/\(300:Int)<=9223372036854775807:=by decide
 have d2:0<=(300:Int)/\(300:Int)<=1000000:=by decide
 exact hK _ _ ⟨w9.wle,⟨la,lm,ln,300⟩,⟨_,rfl,[_],[_,_,_],rfl,⟨_,rfl,n1⟩,[_],[_,_],rfl,⟨_,rfl,n2⟩,[_],[_],rfl,⟨_,rfl,n3⟩,⟨rfl,d1⟩⟩,⟨by rw[el4];decide,by rw[el6];show 0+_<=_;omega,by rw[el8];show 0+_<=_;omega,d2⟩⟩
section
variable{H:View}{C:Nat}{c:Array Value}{T:TypeId}{fz:Nat × Nat}
theorem xf{a:Addr}{cs:List Value}(h:fO H a cs)(hne:a.block≠C):fO (butV C H) a cs:=by obtain⟨cur,t,fz,h1,h2,h3⟩:=h;exact⟨cur,t,fz,h1,by unfold butV;rw[if_neg hne];exact h2,h3⟩
theorem Ae{a:Addr}{n:Int}{r:List Value}(hC:H C=QB (.cells c T fz))(hn : ∀u∈c.toList,∀n,u≠Qy QA n)(h:fO H a (Qy QA n::r)):a.block≠C:=by
 rintro rfl;obtain⟨cur,t,fz,h1,h2,h3⟩:=h;rw[hC]at h2;cases h2;have:Qy QA n∈c.toList:=by
  have h4:Qy QA n∈(c.toList.drop a.off).take (r.length+1):=by
   have h3:(c.toList.drop a.off).take (r.length+1) = Qy QA n::r:=by simpa using h3
   rw[h3];simp
  exact List.mem_of_mem_drop (Pp h4)
 exact hn _ this n rfl
theorem CU{a:Addr}{d:I32}(hC:H C=QB (.cells c T fz))(hn : ∀u∈c.toList,∀n,u≠Qy QA n)(h:At H a d):At (butV C H) a d:=by obtain⟨cs,h1,h2⟩:=h;obtain⟨e,-⟩:=id h2;have e:cs=[Qy QA d.v]:=e;subst e;exact⟨_,xf h1 (Ae hC hn h1),h2⟩
theorem BW{α:Type}[Rep α]{v:Value}{l:List α}(hf : ∀{a:Addr} {d:α},At H a d->At (butV C H) a d)(h:SlRd H v l):SlRd (butV C H) v l:=by
 obtain⟨a,cap,h1,h2,h3,h4⟩:=h;refine⟨a,cap,h1,h2,h3,?_⟩;rcases h4 with h4 | ⟨ad,h4,h5,h6⟩
 ·exact .inl h4
 exact .inr ⟨ad,h4,h5,λi hi=>hf (h6 i hi)⟩
theorem I0{a:Addr}{d:eI}(hC:H C=QB (.cells c T fz))(hn : ∀u∈c.toList,∀n,u≠Qy QA n)(h:At H a d):At (butV C H) a d:=by obtain⟨cs,h1,c1,c2,e,⟨h2,h2'⟩,⟨v,e2,h3⟩⟩:=h;have h2:c1=[Qy QA d.callee.v]:=h2;subst h2;subst e;exact⟨_,xf h1 (Ae hC hn h1),_,_,rfl,⟨rfl,h2'⟩,v,e2,BW (CU hC hn) h3⟩
theorem Jt{u:Value}{x:OutR}(hC:H C=QB (.cells c T fz))(hn : ∀u∈c.toList,∀n,u≠Qy QA n)(h:Rd H u x):Rd (butV C H) u x:=by obtain⟨cs,e,a1,r1,e1,h1,a2,r2,e2,h2,a3,r3,e3,⟨v3,e4,h3⟩,a5,r5,e5,⟨v5,e6,h5⟩,h6⟩:=h;exact⟨cs,e,a1,r1,e1,h1,a2,r2,e2,h2,a3,r3,e3,⟨v3,e4,BW (CU hC hn) h3⟩,a5,r5,e5,⟨v5,e6,BW (I0 hC hn) h5⟩,h6⟩
end
theorem GU{W:View}{h:Heap}{o:Own}{k:Key}{C:Nat}{i:cU}(w:Owns W h o)(hk:o k=bx T.cg C i): ∃c,h[C]? = QB (.cells c T.cg (0,0))/\∀u∈c.toList,∀n,u≠Qy QA n:=by
 obtain⟨-,xs,⟨hx,h1⟩,h2⟩:=w.get (α:=cU) (v:=QD (QB ⟨C,0,QC⟩) 1 1) (l:=[i]) hk;rcases h1 with⟨h1,-⟩ | ⟨g,cap,cur,e1,hg,-,-,hs,ht⟩
 ·cases h1
 cases e1;have h2:=h2 0 Sb;have hx:xs.length=1*4:=hx;have hs:cur.size=1*4:=hs;have ht:cur.toList.take (1*4)=xs:=ht;rw[Nd Q8]at ht;refine⟨cur,hg,λu hu n=>?_⟩;rw[ht]at hu;obtain⟨a1,r1,e1,⟨v1,f1,s1⟩,a2,r2,e2,⟨v2,f2,s2⟩,a3,r3,e3,⟨v3,f3,s3⟩,f4,-⟩:=h2;rw[show(xs.drop (0*Rep.n cU)).take (Rep.n cU)=xs from by rw[OT,Oy];exact Nd (by show xs.length<=4;omega)]at e1;obtain⟨_,_,q1,_⟩:=s1;obtain⟨_,_,q2,_⟩:=s2;obtain⟨_,_,q3,_⟩:=s3;subst f1 f2 f3 q1 q2 q3 e3 e2;rw[e1]at hu;rintro rfl;rw[f4]at hu;simp at hu
theorem tN{β:Type}{p:β->Bool}{l:List β}{k:Nat}{x:β}(h:l[k]? = QB x):(l.take (k+1)).filter p=(l.take k).filter p++if p x then[x] else[]:=by rw[P8,h,O7];simp[Pq]
def pB(g:Gr)(e:Int × Int):Bool:=decide (1<(nth (cA g) e.1.toNat).length)&&decide (1<(nth (cw g) e.2.toNat).length)
def jk(g:Gr):List (Int × Int):=(fC g).filter (pB g)
theorem BB{g:Gr}{vg:Value}{h:Heap}(hg:SlRd (vw h) vg g)(hs:Sm g):
  aw QH N.dX #[vg] h (λv h'=>(vw h).le (vw h')/\SlRd (fresh h h') v (jk g)):=by
 refine uP (args:=[vg]) follows F.dX E.dX Q9 λK hK=>?_;have hel:=rj hs;have hs1:=hs.1;have hcl:=gY (g:=g);have hpl:(cw g).length=g.length:=by rw[cw,mA];simp
 simp[L.dX];refine ag Q0 (vY hg hs) ?_;rintro vr h1 ⟨W1,m1⟩;have hle1:=m1.old;have hr:=m1.now;refine ag Q0 (vK (hg.mono hle1) hs) ?_;rintro vp h2 ⟨hle2,hp⟩;have hp:=hp.mono (jE _ _);have hr:=hr.mono hle2;refine fF (z:=QD QC 0 0) Q0 ?_;refine fF (z:=QD QC 0 0) Q0 ?_;have hR0:((h2.push (.cells (QD QC 0 0).cells T.dd)).push (.cells (QD QC 0 0).cells T.dd))[h2.size]? = QB (.cells #[QD QC 0 0] T.dd (0,0)):=by rw[OI,if_neg Sb,Ob];rfl
 have hP0:((h2.push (.cells (QD QC 0 0).cells T.dd)).push (.cells (QD QC 0 0).cells T.dd))[h2.size+1]? = QB (.cells #[QD QC 0 0] T.dd (0,0)):=by rw[show h2.size+1=(h2.push (.cells (QD QC 0 0).cells T.dd)).size by simp];exact Ob
 have hle3:(vw h2).le (vw ((h2.push (.cells (QD QC 0 0).cells T.dd)).push (.cells (QD QC 0 0).cells T.dd))):=Qx (bA _ _) (bA _ _);have hsz3:((h2.push (.cells (QD QC 0 0).cells T.dd)).push (.cells (QD QC 0 0).cells T.dd)).size=h2.size+2:=by simp
 simp only[Array.size_push];generalize (h2.push (.cells (QD QC 0 0).cells T.dd)).push (.cells (QD QC 0 0).cells T.dd)=h3 at hR0 hP0 hle3 hsz3;obtain⟨c1,o1⟩:=hr.cells;obtain⟨c2,o2⟩:=hp.cells;refine ey (g:=h2.size) (o:=0) (n:=1) (v:=vr) Q0 Sb Sb (by rw[c1];rfl) (by rw[c1];simpa using o1) hR0 Sb λh4 hsz4 ⟨row,hR4,he⟩ hoth4=>?_;have hrow:row = #[vr]:=by rw[<-Array.toList_inj,he,c1];rfl
 rw[hrow]at hR4;refine ey (g:=h2.size+1) (o:=0) (n:=1) (e:=T.dd) (cur:=#[QD QC 0 0]) (v:=vp) Q0 Sb Sb (by rw[c2];rfl) (by rw[c2];simpa using o2) (by rw[hoth4 _ Q1];exact hP0) Sb λh5 hsz5 ⟨row2,hP5,he2⟩ hoth5=>?_;have hrow2:row2 = #[vp]:=by rw[<-Array.toList_inj,he2,c2];rfl
 rw[hrow2]at hP5;have hR5:h5[h2.size]? = QB (.cells #[vr] T.dd (0,0)):=by rw[hoth5 _ Q1];exact hR4
 have hle5:(vw h2).le (vw h5):=λb o hb=>by have hlt:=View.lt (View.le_refl (vw h2)) hb;show h5[b]? = _;rw[hoth5 b Q1,hoth4 b Q1];exact hle3 b o hb
 refine fF (z:=QD QC 0 0) Q0 ?_;refine ag Q0 zT ?_;rintro _ _ ⟨rfl,rfl⟩;rw[hg.cells.1];have hle6:(vw h5).le (vw ((h5.push (.cells (QD QC 0 0).cells T.kV)).push (.cells #[vg] T.dd))):=Qx (bA _ _) (bA _ _);have hB6:((h5.push (.cells (QD QC 0 0).cells T.kV)).push (.cells #[vg] T.dd))[h5.size]? = QB (.cells #[QD QC 0 0] T.kV (0,0)):=by rw[OI,if_neg Sb,Ob];rfl
 have hG6:((h5.push (.cells (QD QC 0 0).cells T.kV)).push (.cells #[vg] T.dd))[h5.size+1]? = QB (.cells #[vg] T.dd (0,0)):=by rw[show h5.size+1=(h5.push (.cells (QD QC 0 0).cells T.kV)).size by simp];exact Ob
 simp only[Array.size_push];generalize (h5.push (.cells (QD QC 0 0).cells T.kV)).push (.cells #[vg] T.dd)=h6 at hle6 hB6 hG6;have h5W:(vw h5).le (skip h5.size h6):=IV hle6 (View.cT Qw (MY _));have h2W:=Qx hle5 h5W;have h0W:(vw h).le (skip h5.size h6):=Qx (Qx hle1 hle2) h2W;have hp6:aj (skip h5.size h6) ⟨h5.size+1,0,QC⟩=QB vg:=bV (c:=#[vg]) (T:=T.dd) (fz:=(0,0)) (by rw[j8 Q1];exact hG6) rfl;have hcR:aj (skip h5.size h6) ⟨h2.size,0,QC⟩=QB vr:=bV (h5W _ _ hR5) rfl;have hcP:aj (skip h5.size h6) ⟨h2.size+1,0,QC⟩=QB vp:=bV (h5W _ _ hP5) rfl;have hrW:=hr.mono h2W;have hpW:=hp.mono h2W;have hWle:(skip h5.size h6).le (vw h6):=cj;have hWB:skip h5.size h6 h5.size=none:=EF;generalize skip h5.size h6=W0 at h5W h2W h0W hp6 hcR hcP hrW hpW hWle hWB;obtain⟨rv,hrv⟩:=hrW.rows;obtain⟨pv,hpv⟩:=hpW.rows;refine xj (enc:=AN) (all:=fC g) (gf:=N.bX) (caps:=[QE (QB ⟨h5.size+1,0,QC⟩)]) W0 W0 (λe k W h'=>e=QC/\∃v,Bx W h' h5.size T.kV T.ou v (((fC g).take k).filter (pB g)))
  rfl Q0 (uJ (hg.mono h0W) hp6 hs) (λ_=>rfl) Qw (λe k=>⟨λ⟨_,rv,r⟩=>r.wle,λ⟨a,rv,r⟩ _ h1 h2 _=>⟨a,rv,r.move h1 h2⟩⟩) ⟨rfl,_,Bx.start hWle hWB hB6⟩
  (λx h1=>by simp[AN,db];rfl) ?_ ?_ ?_
 ·rintro k e W h7 hag hk ⟨_,v,r⟩ K2 hK2 _;have he:=nI (Nv hk);have hk1:k<(fC g).length:=(Oq.1 hk).1;have hfl:(((fC g).take k).filter (pB g)).length<=k:=by have:=Pk (pB g) ((fC g).take k);rw[Ny]at this;omega
  have hst:=tN (p:=pB g) hk;have hW0W:W0.le W:=λb o hb=>by rw[hag b (View.lt hWle hb)];exact hb
  have hWh:=Qx hW0W r.wle;obtain⟨cr,rr⟩:=hrv e.1.toNat Q1;obtain⟨cp,rp⟩:=hpv e.2.toNat Q1;have hcE:pB g e=(decide (1<(nth (cA g) e.1.toNat).length)&&decide (1<(nth (cw g) e.2.toNat).length)):=rfl;by_cases hc1:1<(nth (cA g) e.1.toNat).length
  ·by_cases hc2:1<(nth (cw g) e.2.toNat).length
   ·rw[decide_eq_true hc1,decide_eq_true hc2]at hcE;simp(disch:=omega)[ae hWh hcR,ae hWh hcP,hrW.idx1 rfl,hpW.idx1 rfl,cr _ hWh,cp _ hWh,rr.len,rp.len,show(1:Int)<((nth (cA g) e.1.toNat).length:Int) by omega,show(1:Int)<((nth (cw g) e.2.toNat).length:Int) by omega,ij,r.cell];refine aQ (z:=zz1) (places:=zpc) (vs:=[(0,Qy Qz e.1),(1,Qy Qz e.2)]) (cs:=#[Qy Qz e.1,Qy Qz e.2]) Q0 Q0 Sb rfl ?_;refine r.push (d:=e) El.kV Q0 (by simp<;>rfl) (zB.2 ⟨rfl,Q5,by omega,by omega⟩) Q1 Q1 Q4 Q4 (λ_ _=>by simp) (λ_ _=>by simp) λu v' h6 r6=>hK2 _ _ ⟨rfl,v',?_⟩;rw[hst,hcE];exact r6
   rw[decide_eq_true hc1,decide_eq_false hc2]at hcE;simp(disch:=omega)[ae hWh hcR,ae hWh hcP,hrW.idx1 rfl,hpW.idx1 rfl,cr _ hWh,cp _ hWh,rr.len,rp.len,show(1:Int)<((nth (cA g) e.1.toNat).length:Int) by omega,show ¬(1:Int)<((nth (cw g) e.2.toNat).length:Int) by omega,ij];refine hK2 _ _ ⟨rfl,v,?_⟩;rw[hst,hcE];simpa using r
  rw[decide_eq_false hc1]at hcE;simp(disch:=omega)[ae hWh hcR,ae hWh hcP,hrW.idx1 rfl,hpW.idx1 rfl,cr _ hWh,cp _ hWh,rr.len,rp.len,show ¬(1:Int)<((nth (cA g) e.1.toNat).length:Int) by omega,ij];refine hK2 _ _ ⟨rfl,v,?_⟩;rw[hst,hcE];simpa using r
 ·rintro W h7 hag ⟨_,v,r⟩;rw[Nd (MY _)]at r;have hW0W:W0.le W:=λb o hb=>by rw[hag b (View.lt hWle hb)];exact hb
  simp[r.cell];intro h8 hsw;have hWW:=Qx h0W hW0W;exact⟨_,rfl,hK _ _ ⟨hsw.ext (Qx hWW r.wle),hsw.rd (r.fresh hWW)⟩⟩
 rintro e k W h1 hag ⟨hne,_⟩;cases hne
section
variable{g:Gr}
theorem A1:jk g=lP g:=by
 unfold jk lP;rw[nr];have key : ∀n,n<=g.length->(iZ (λa=>fg g a) n).filter (pB g)=up (λa l=>l++uX g (kG g) a) n []:=by
  intro n;induction n with
  | zero=>exact λ_=>rfl
  | succ n ih=>
   intro hn;rw[hZ,O7,ih Q1,up];congr 1;rw[uX,mR,Qq];have e1:fg g n=(List.range (fg g n).length).map λi=>nth (fg g n) i:=by refine NU Sb λi h1 h2=>?_;simp[ao h1]
   conv=>lhs;rw[e1]
   rw[Qq,PR];have e2:(List.range (fg g n).length).filter ((pB g∘λb=>((n:Int),b))∘λi=>nth (fg g n) i)=(List.range (fg g n).length).filter (Da g (kG g) n):=by refine PD λi hi=>?_;simp only[Function.comp,pB,Da,pQ,M9];have hcn:=mz (g:=g) (a:=n) Q1;rw[NH];simp only[M8,decide_eq_true_eq,hcn];omega
   rw[e2];rfl
 exact key g.length (MY _)
theorem xF{e:Int × Int}:e∈jk g↔gX g e.1 e.2=QF/\1<(fg g e.1).length/\1<(nth (kG g) e.2.toNat).length:=by
 unfold jk;rw[ON,D6];constructor
 ·rintro⟨h1,h2⟩;have hr:=fj.1 h1;simp only[pB,pQ,M8,decide_eq_true_eq]at h2;have hc:=mz (g:=g) (a:=e.1.toNat) Q1;rw[Nj hr.1.1]at hc;rw[hc]at h2;exact⟨h1,h2⟩
 rintro⟨h1,h2⟩;have hr:=fj.1 h1;have hc:=mz (g:=g) (a:=e.1.toNat) Q1;rw[Nj hr.1.1]at hc;refine⟨h1,?_⟩;simp only[pB,pQ,M8,decide_eq_true_eq,hc];exact h2
theorem uu{f:Nat->List Int}(hf : ∀a,(f a).Nodup) : ∀n,(iZ f n).Nodup
 | 0=>by simp[iZ]
 | n+1=>by
  rw[hZ];refine N3.2 ⟨uu hf n,?_,?_⟩
  ·exact List.Pairwise.map _ (λx y h e=>h (Prod.mk.inj e).2) (hf n)
  intro x hx y hy;rw[iZ,Om]at hx;obtain⟨a,ha,hx⟩:=hx;simp only[ND]at hx hy;obtain⟨b,_,rfl⟩:=hx;obtain⟨c,_,rfl⟩:=hy;intro e;have:=(Prod.mk.inj e).1;have:=N0.1 ha;omega
theorem oE:(jk g).Nodup:=by unfold jk;rw[nr];exact(uu (λa=>nY.imp λh=>by omega) _).filter _
end
section
variable{s:List Int}{M:Nat}{vs:Value}{W:View}{h:Heap}{o:Own}{m:MS}
theorem MkB.boxed{vb vl:Value}{lb:List BlkM}(bb:MkB M vs m o vb vl lb)(m':MS)(h1:m'.blocks=m.blocks)(h2:m'.live=m.live):MkB M vs m' (o.upd (0,0) (bx T.aT M (RawN.mk (n:=5) (mkL vs m'.at_ m'.ps vb m'.next vl)))) vb vl lb:=
 ⟨rfl,by rw[h2];exact bb.live,bb.blk,by rw[h1];exact bb.len,by rw[h1];exact bb.term,by rw[h1];exact λi hi=>bb.phis i hi,by rw[h1];exact λi hi=>bb.ins i hi⟩
end
def iU(R:Nat)(i10:Own):Own:=λk=>if k=(8,0) then bx T.a7 R (RawN.mk (n:=1) [Qy Qz 0,QD QC 0 0]) else if 10<=k.1 then i10 k else QC
structure FnB(o:Own)(vb:Value)(lb:List BlkM)(f:aq):Prop where
 blk:o (0,2)=it T.a8 vb lb
 len:lb.length=f.blocks.length
 term : ∀i,i<f.blocks.length->(nth lb i).term=(nth f.blocks i).term
 phis : ∀i,i<f.blocks.length->o (1,i)=it T.dY (nth lb i).phis.v (nth f.blocks i).phis
 ins : ∀i,i<f.blocks.length->o (2,i)=it T.dT (nth lb i).ins.v (nth f.blocks i).ins
theorem K0{H:View}{vb:Value}{lb:List BlkM}{f:aq}(h0:SlRd H vb lb)(hl:lb.length=f.blocks.length)(ht : ∀i,i<f.blocks.length->(nth lb i).term=(nth f.blocks i).term)(h1 : ∀i,i<f.blocks.length->SlRd H (nth lb i).phis.v (nth f.blocks i).phis)(h2 : ∀i,i<f.blocks.length->SlRd H (nth lb i).ins.v (nth f.blocks i).ins):SlRd H vb f.blocks:=by refine qh h0 rfl hl λi g1 g2 cs hr=>?_;have:=AB hr (p:=(nth f.blocks i).phis) (i:=(nth f.blocks i).ins) (by have:=h1 i g2;rwa [ao g1]at this) (by have:=h2 i g2;rwa [ao g1]at this);have ht:=ht i g2;rw[ao g1]at ht;rw[ht]at this;rw[<-ao g2];exact this
theorem FnB.freeze{W:View}{h:Heap}{o o0:Own}{vb:Value}{lb:List BlkM}{f:aq}(b:FnB o vb lb f)(w:Owns W h o)(ho : ∀k:Key,3<=k.1->o k=o0 k)(ho0 : ∀k:Key,k.1<3->o0 k=QC): ∃W',W.le W'/\Owns W' h o0/\SlRd W' vb f.blocks:=by
 obtain⟨W17,hW17,w17,fr⟩:=w.tM (λk=>decide (k.1<3));refine⟨W17,hW17,w17.sub λk i hk=>?_,K0 (fr (k:=(0,2)) Sb b.blk) b.len b.term (λi hi=>fr (k:=(1,i)) Sb (b.phis i hi)) λi hi=>fr (k:=(2,i)) Sb (b.ins i hi)⟩;rcases M0 k.1 3 with e | e
 ·rw[ho0 k e]at hk;cases hk
 have h2:¬k.1<3:=by omega
 simp only[h2,decide_false,Ow,if_false];rw[ho k e];exact hk
theorem Gx{s:List Int}{vs:Value}{h:Heap}{W:View}{o0:Own}(w0:Owns W h o0)(ho0 : ∀k:Key,k.1<10->o0 k=QC)(hs:SlRd W vs s):
  aw QH N.az #[vs] h (λu h'=>∃W' o vb lb,W.le W'/\Owns W' h' o/\(∀k:Key,3<=k.1->o k=o0 k)/\FnB o vb lb (iV s)/\u = .agg #[Qy Qz (iV s).params,vb]):=by
 refine ak (args:=[vs]) follows F.az E.az Q9 λK hK=>?_;have hs0:=hs;obtain⟨sa,sc,rfl,_⟩:=hs0;dsimp only[L.az];refine ab λz hz=>?_;simp;refine w0.mL (k:=(8,0)) (n:=1) (z:=.agg #[Qy Qz 0,QD QC 0 0]) (ho0 _ Q2) Q0 rfl Q2 Q7 λh1 q1 w1=>?_;generalize h.size=R at w1;subst hz;refine ab λz hz=>?_;simp;refine aQ (z:=zz14) (places:=[(0,1),(1,1),(2,2),(4,1),(5,1)]) (vs:=[(0,.slice sa s.length sc)]) (cs:=#[.slice sa s.length sc,Qy Qz 0,Qy Qz 0,QD QC 0 0,Qy Qz 0,QD QC 0 0]) Q0 Q0 Sb Q0 ?_;generalize s.length=sl at hs;refine my rfl ?_;have hbx:(h1.push (.cells (Value.agg #[.slice sa sl sc,Qy Qz 0,Qy Qz 0,QD QC 0 0,Qy Qz 0,QD QC 0 0]).cells T.aT))[h1.size]? = QB (.cells (Value.agg #[.slice sa sl sc,Qy Qz 0,Qy Qz 0,QD QC 0 0,Qy Qz 0,QD QC 0 0]).cells T.aT (0,0)):=by simp
 have hle2:=bA h1 (.cells (Value.agg #[.slice sa sl sc,Qy Qz 0,Qy Qz 0,QD QC 0 0,Qy Qz 0,QD QC 0 0]).cells T.aT);have hbg : ∀b,(QD (QB ⟨h1.size,0,QC⟩) 1 1).ownBlock=QB b->h1.size<=b:=λb hb=>by simp only[Value.ownBlock,MX]at hb;omega
 show LC.wp QH z _ _ (h1.push (.cells (Value.agg #[.slice sa sl sc,Qy Qz 0,Qy Qz 0,QD QC 0 0,Qy Qz 0,QD QC 0 0]).cells T.aT));generalize h1.push (.cells (Value.agg #[.slice sa sl sc,Qy Qz 0,Qy Qz 0,QD QC 0 0,Qy Qz 0,QD QC 0 0]).cells T.aT)=h2 at hbx hle2;have w2:=w1.add (k:=(0,0)) ((Own.af Sb).trans (ho0 _ Q2)) (lZ (W:=W) (d:=RawN.mk (n:=5) [.slice sa sl sc,Qy Qz 0,Qy Qz 0,QD QC 0 0,Qy Qz 0,QD QC 0 0]) hbx (iO rfl Q6) Q2) hle2 hbg;generalize h1.size=M at w2;generalize hvs:Value.slice sa sl sc=vs at hs w2;obtain⟨m0,hm0⟩ : ∃m0:MS,m0=⟨0,0,[],0,[]⟩:=⟨_,rfl⟩;obtain⟨o2,ho2⟩ : ∃o2:Own,o2=λk=>if k=(0,0) then bx T.aT M (RawN.mk (n:=5) (mkL vs 0 0 (QD QC 0 0) 0 (QD QC 0 0))) else if k=(0,1) then it T.int (QD QC 0 0) ([]:List Int) else if k=(0,2) then it T.a8 (QD QC 0 0) ([]:List BlkM) else iU R o0 k:=⟨_,rfl⟩;have w2:Owns W h2 o2:=w2.nils λk i hk=>by
  rw[ho2]at hk;dsimp only at hk;split at hk
  ·rename_i e;rw[e];exact .inl hk
  rename_i e0;split at hk
  ·cases hk;exact .inr ⟨rfl,OwnT.nil (α:=Int) _ _ _⟩
  split at hk
  ·cases hk;exact .inr ⟨rfl,OwnT.nil (α:=BlkM) _ _ _⟩
  refine .inl ?_;rw[Own.af e0];by_cases e8:k=(8,0)
  ·subst e8;exact hk
  rw[Own.af e8];unfold iU at hk;rw[if_neg e8]at hk;split at hk
  ·exact hk
  cases hk
 have w2:Mk s M vs W h2 o2 m0:=⟨w2,hs,QD QC 0 0,QD QC 0 0,[],by rw[ho2,hm0];rfl,by rw[ho2,hm0];rfl,by rw[ho2];rfl,by rw[hm0];rfl,λi hi=>by rw[hm0]at hi;simp at hi,λi hi=>by rw[hm0]at hi;simp at hi,λi hi=>by rw[hm0]at hi;simp at hi⟩;have f2 : ∀k:Key,3<=k.1->o2 k=iU R o0 k:=λk hk=>by rw[ho2];dsimp only;rw[if_neg (by rintro rfl;simp at hk),if_neg (by rintro rfl;simp at hk),if_neg (by rintro rfl;simp at hk)]
 clear w1 hbx hbg hle2 q1 ho2;subst hz;refine ab λz hz=>?_;simp;refine ag Q0 (w2.take (by rw[hm0];decide) (n:=5) Q2 Q2) ?_;rintro _ h3 ⟨rfl,o3,w3,f3⟩;have tv:=bc (s:=s) (at_:=m0.at_) (n:=5) Q2;obtain⟨vb,vl,lb,bb⟩:=w3.box;refine w3.own.bG (k:=(0,0)) (n:=5) (i:=2) (e:=T.aT) (B:=M) (l:=mkL vs m0.took.at_ m0.took.ps vb m0.took.next vl) bb.box Q2 Q0 rfl rfl rfl λh4 w4 _=>?_;have b4:=bb.boxed ⟨m0.took.at_,aB s m0.at_ 5,m0.took.blocks,m0.took.next,m0.took.live⟩ rfl rfl;subst hz;refine ab λz hz=>?_;have w4:Mk s M vs W h4 _ _:=⟨w4,w3.src,vb,vl,lb,b4⟩;have rd:=w4.reads b4;simp[rd.ps];refine w4.own.bG (k:=(0,0)) (n:=5) (i:=4) (e:=T.aT) (B:=M) (l:=mkL vs m0.took.at_ (aB s m0.at_ 5) vb m0.took.next vl) b4.box Q2 Q0 rfl rfl rfl λh5 w5 _=>?_;have b5:=b4.boxed ⟨m0.took.at_,aB s m0.at_ 5,m0.took.blocks,aB s m0.at_ 5,m0.took.live⟩ rfl rfl;have w5:Mk s M vs W h5 _ _:=⟨w5,w3.src,vb,vl,lb,b5⟩;obtain⟨o5,ho5⟩ : ∃o5,o5=(o3.upd (0,0) (bx T.aT M (RawN.mk (n:=5) (mkL vs m0.took.at_ (aB s m0.at_ 5) vb m0.took.next vl)))).upd (0,0) (bx T.aT M (RawN.mk (n:=5) (mkL vs m0.took.at_ (aB s m0.at_ 5) vb (aB s m0.at_ 5) vl))):=⟨_,rfl⟩;have f5 : ∀k:Key,3<=k.1->o5 k=iU R o0 k:=λk hk=>by rw[ho5,Own.af (by rintro rfl;simp at hk),Own.af (by rintro rfl;simp at hk),f3 k hk,f2 k hk]
 rw[hm0]at w5;have w5:Mk s M vs W h5 o5 ⟨1,aB s 0 5,[],aB s 0 5,[]⟩:=by rw[ho5,hm0];exact w5
 clear b5 b4 rd w4 bb w3 f3 w2 f2 ho5 hvs;subst hz;refine ab λz hz=>?_;simp;refine ag Q0 (w5.take (show 1<=_ by omega) (n:=9) Q2 Q2) ?_;rintro _ h6 ⟨rfl,o6,w6,f6⟩;have w6:Mk s M vs W h6 o6 (uA s):=w6;have f6 : ∀k:Key,3<=k.1->o6 k=iU R o0 k:=λk hk=>(f6 k hk).trans (f5 k hk);clear w5 f5;have hN:=D0 (s:=s);obtain⟨n1,n2⟩:=eK (s:=s);have hw:IntKind.i64.wrap (1+aB s 1 9)=(aG s:Nat):=by rw[hN];exact bu Q1 Q1
 simp[hw];subst hz;refine ab λz hz=>?_;simp;refine ag Q0 (B0 (ri:=iU R o0) w6 (λk hk=>f6 k Q1) (λk h1 h2=>(f6 k h1).trans (by unfold iU;rw[if_neg (by rintro rfl;simp at h2),if_neg Q1])) (n:=aG s) A8 Q1 n1 Q1) ?_;rintro vt h7 ⟨W7,o7,g7,w7,r7,e7,st⟩;have w7:Mk s M vs W7 h7 o7 (eW s).2:=w7;have st:SlRd W7 vt (eW s).1:=st;have f7 : ∀k:Key,3<=k.1->o7 k=iU R o0 k:=λk hk=>by
  by_cases e:8<=k.1
  ·exact r7 k e
  rw[e7 k hk Q1];unfold iU;rw[if_neg (by rintro rfl;simp at e),if_neg Q1]
 clear r7 e7 w6 f6;have k1:=za (s:=s);have s4:=rB (s:=s);subst hz;refine ab λz hz=>?_;simp;refine nO (α:=BlkM) (W:=W7) (k:=.i64) (n:=aG s) (d:=⟨⟨QD QC 0 0⟩,⟨QD QC 0 0⟩,⟨0,[],[],⟨0⟩⟩⟩) El.jQ Ri Ri ⟨[QD QC 0 0],_,rfl,⟨rfl,rfl⟩,[QD QC 0 0],_,rfl,⟨rfl,rfl⟩,[Qy Qz 0],_,rfl,⟨rfl,by decide,by decide⟩,[QD QC 0 0],_,rfl,⟨_,rfl,ia⟩,[QD QC 0 0],_,rfl,⟨_,rfl,ia⟩,rfl,by decide,by decide⟩ Q1 Q1 λvb8 h8 ob8 m8 hle8 hb8=>?_;obtain⟨vb,vl,lb,bb⟩:=w7.box;have wa:=w7.own.sub (o':=o7.upd (0,2) QC) λj i hj=>by
  unfold Own.upd at hj;split at hj
  ·cases hj
  exact hj
 have wb:=wa.add (k:=(0,2)) Own.ah ob8 hle8 (λb hb=>by rw[hb8]at hb;cases hb;exact MY _);have hv8:=(wb.cells (k:=(0,2)) Own.ah).2;obtain⟨o8,ho8⟩ : ∃o8:Own,o8=λk=>if k.1=1/\k.2<aG s then it T.dY (QD QC 0 0) ([]:List PhiD) else if k.1=2/\k.2<aG s then it T.dT (QD QC 0 0) ([]:List InsD) else o7.upd (0,2) (it T.a8 vb8 (List.replicate (aG s) (BlkM.mk ⟨QD QC 0 0⟩ ⟨QD QC 0 0⟩ ⟨0,[],[],⟨0⟩⟩))) k:=⟨_,rfl⟩;have w8:Owns W7 h8 o8:=wb.nils λk i hk=>by
  rw[ho8]at hk;dsimp only at hk;split at hk
  ·cases hk;exact .inr ⟨rfl,OwnT.nil (α:=PhiD) _ _ _⟩
  split at hk
  ·cases hk;exact .inr ⟨rfl,OwnT.nil (α:=InsD) _ _ _⟩
  refine .inl ?_;by_cases e:k=(0,2)
  ·subst e;rw[Own.ah]at hk ⊢;exact hk
  rw[Own.af e]at hk;rw[Own.af e,Own.af e];exact hk
 have c8 : ∀k:Key,¬(k.1=1/\k.2<aG s)->¬(k.1=2/\k.2<aG s)->o8 k=o7.upd (0,2) (it T.a8 vb8 (List.replicate (aG s) (BlkM.mk ⟨QD QC 0 0⟩ ⟨QD QC 0 0⟩ ⟨0,[],[],⟨0⟩⟩))) k:=λk h1 h2=>by rw[ho8];dsimp only;rw[if_neg h1,if_neg h2]
 refine w8.bG (k:=(0,0)) (n:=5) (i:=3) (e:=T.aT) (B:=M) (l:=mkL vs (eW s).2.at_ (eW s).2.ps vb (eW s).2.next vl) (by rw[c8 _ Sb Sb,Own.af Sb];exact bb.box) Q2 Q0 rfl rfl hv8 λh9 w9 _=>?_;obtain⟨o9,ho9⟩ : ∃o9:Own,o9=o8.upd (0,0) (bx T.aT M (RawN.mk (n:=5) (mkL vs (eW s).2.at_ (eW s).2.ps vb8 (eW s).2.next vl))):=⟨_,rfl⟩;have w9:Owns W7 h9 o9:=by rw[ho9];exact w9
 have b9:MkB M vs { (eW s).2 with blocks:=List.replicate (aG s) pt } o9 vb8 vl (List.replicate (aG s) (BlkM.mk ⟨QD QC 0 0⟩ ⟨QD QC 0 0⟩ ⟨0,[],[],⟨0⟩⟩)):=by
  rw[ho9];refine⟨rfl,?_,?_,by simp,λi hi=>?_,λi hi=>?_,λi hi=>?_⟩
  ·rw[Own.af Sb,c8 _ Sb Sb,Own.af Sb];exact bb.live
  ·rw[Own.af Sb,c8 _ Sb Sb,Own.ah]
  ·have hi:i<aG s:=by simpa using hi
   rw[ay hi,ay hi];rfl
  ·have hi:i<aG s:=by simpa using hi
   rw[Own.af Sb,ho8];dsimp only;rw[if_pos ⟨rfl,hi⟩,ay hi,ay hi];rfl
  have hi:i<aG s:=by simpa using hi
  rw[Own.af Sb,ho8];dsimp only;rw[if_neg Sb,if_pos ⟨rfl,hi⟩,ay hi,ay hi];rfl
 have x9:Nx s M vs W7 h9 (iU R o0) { (eW s).2 with blocks:=List.replicate (aG s) pt }:=⟨W7,o9,View.le_refl _,⟨w9,w7.src,vb8,vl,_,b9⟩,λk hk=>by rw[ho9,Own.af (by rintro rfl;simp at hk),c8 _ Q1 Q1,Own.af (by rintro rfl;simp at hk)];exact f7 k hk⟩;clear b9 w9 ho9 c8 w8 ho8 wb wa hv8 bb ob8 m8 hle8 hb8 w7 f7;subst hz;refine ab λz hz=>?_;refine ab λy hy=>?_;simp;subst hy;refine IA (vr:=QT R) st k1.len x9 Sb Q1 (by simp[bh,ar,au]) λh10 x10=>?_;have x10:Nx s M vs W7 h10 (iU R o0) (lI s):=x10;clear x9;simp;subst hz;refine ab λz hz=>?_;simp;obtain⟨Wa,oa,ga,wa,fa⟩:=x10;refine nO (α:=Int) (W:=Wa) (k:=.i64) (n:=aG s) (d:=0) El.bn Ri Ri ⟨rfl,by decide,by decide⟩ Q1 Q1 λvp h11 ob11 m11 hle11 hb11=>?_;have x11:Nx s M vs W7 h11 ((iU R o0).upd (5,0) (it T.int vp (List.replicate (aG s) (0:Int)))) (lI s):=by
  have w11:=wa.own.add (k:=(5,0)) ((fa _ Q2).trans rfl) ob11 hle11 (λb hb=>by rw[hb11]at hb;cases hb;exact MY _);obtain⟨vb,vl,lb,bb⟩:=wa.box;refine⟨Wa,_,ga,⟨w11,wa.src,vb,vl,lb,bb.frame λq hq=>Own.af (by rintro rfl;simp at hq)⟩,λq hq=>?_⟩;unfold Own.upd;split
  ·rfl
  exact fa q hq
 clear wa fa ob11 m11 hb11;subst hz;refine ab λz hz=>?_;refine ab λy hy=>?_;simp;subst hy;obtain⟨z2,g2⟩:=Bg (s:=s);have p0:Ph (aG s) 200 0 (List.replicate (aG s) (0:Int),lI s):=by
  have hz : ∀j,nth (List.replicate (aG s) (0:Int)) j=0:=λj=>by
   rcases M0 j (aG s)with hj | hj
   ·rw[ay hj]
   rw[aW (by simpa using hj)];rfl
  exact⟨z2,by simp,λj _=>hz j,λj=>by show 0<=nth (List.replicate _ (0:Int)) j/\nth (List.replicate _ (0:Int)) j<=3;rw[hz];omega⟩
 refine Il (x0:=(List.replicate (aG s) (0:Int),lI s)) (vr:=QT R) (vt:=vt) (vp:=vp) x11 p0 n1 Q1 Q1 (by simp[bh,ar,au]) λh12 x12=>?_;have x12:Nx s M vs W7 h12 ((iU R o0).upd (5,0) (it T.int vp (gl s).1)) (gl s).2:=x12;obtain⟨ph,pc,g3⟩:=oN (s:=s);clear p0 x11 z2 g2;simp;subst hz;refine ab λz hz=>?_;simp;obtain⟨Wa,oa,ga,wa,fa⟩:=x12;refine nO (α:=Bool) (W:=Wa) (k:=.i64) (n:=aG s) (d:=false) El.oe Ri Ri rfl Q1 Q1 λvd h13 ob13 m13 hle13 hb13=>?_;have x13:Nx s M vs W7 h13 (((iU R o0).upd (5,0) (it T.int vp (gl s).1)).upd (6,0) (it T.bool vd (List.replicate (aG s) QG))) (gl s).2:=by
  have w13:=wa.own.add (k:=(6,0)) ((fa _ Q2).trans rfl) ob13 hle13 (λb hb=>by rw[hb13]at hb;cases hb;exact MY _);obtain⟨vb,vl,lb,bb⟩:=wa.box;refine⟨Wa,_,ga,⟨w13,wa.src,vb,vl,lb,bb.frame λq hq=>Own.af (by rintro rfl;simp at hq)⟩,λq hq=>?_⟩;unfold Own.upd;split
  ·rfl
  exact fa q hq
 clear wa fa ob13 m13 hb13;subst hz;refine ab λz hz=>?_;refine ab λy hy=>?_;simp;subst hy;refine Jg (a:=16000) (p:=27) (x0:=(List.replicate (aG s) QG,(gl s).2)) (vr:=QT R) (vp:=vp) x13 st k1.len rfl rfl rfl AW n2 Q1 Q1 Q1 (by simp[bh,ar,au]) λh14 x14=>?_;have x14:Nx s M vs W7 h14 (((iU R o0).upd (5,0) (it T.int vp (gl s).1)).upd (6,0) (it T.bool vd (nz s).1)) (nz s).2:=x14;obtain⟨q4,pc4⟩:=vR (s:=s);clear x13 pc g3;simp;subst hz;refine ab λz hz=>?_;refine ab λy hy=>?_;simp;subst hy;refine Hb (vr:=QT R) (vt:=vt) (vp:=vp) (vd:=vd) (lp:=(gl s).1) x14 ((Own.af Sb).trans Own.ah) rfl rfl q4 pc4 ph.len ph.rng n1 n2 Q1 Q1 Q1 Q1 (by simp[bh,ar,au]) λh15 x15=>?_;have x15:Nx s M vs W7 h15 (((iU R o0).upd (5,0) (it T.int vp (gl s).1)).upd (6,0) (it T.bool vd (nz s).1)) (gS s):=x15;have q5:=nh (s:=s);clear x14 q4 pc4 ph;simp;subst hz;refine ab λz hz=>?_;obtain⟨Wa,oa,ga,wa,fa⟩:=x15;obtain⟨vb,vl,lb,bb⟩:=wa.box;have rd:=wa.reads bb;simp[rd.f];have hvb:vb.oneCell'=true:=rd.blk.cells.2;refine wa.own.lu (k:=(8,0)) (α:=RawN 1) (β:=RawN 1) Part.all (B:=R) (D:=RawN.mk (n:=1) [Qy Qz 0,QD QC 0 0]) (d:=RawN.mk (n:=1) [Qy Qz (gS s).ps,vb]) ((fa _ Q2).trans rfl) Q0 rfl rfl (iO rfl (by intro c hc;simp only[Nu,O3,or_false]at hc;rcases hc with rfl | rfl<;>first | rfl | exact hvb)) λh16 w16 _=>?_;have c16:=w16.gg (k:=(8,0)) (n:=1) (l:=[Qy Qz (gS s).ps,vb]) Own.ah;have c16:Un.ev (vw h16) (.ax 2) (QT R)=QB (.agg #[Qy Qz (gS s).ps,vb]):=c16;have b16:=bb.frame (o':=oa.upd (8,0) (bx T.a7 R (RawN.mk (n:=1) [Qy Qz (gS s).ps,vb]))) λq hq=>Own.af (by rintro rfl;simp at hq);have w16:Mk s M vs Wa h16 _ (gS s):=⟨w16,wa.src,vb,vl,lb,b16⟩;have rd16:=w16.reads b16;subst hz;simp[c16];refine hK _ _ ⟨Wa,λk=>if 3<=k.1 then o0 k else if k=(0,2)\/k.1=1\/k.1=2 then oa k else QC,vb,lb,Qx g7 ga,w16.own.sub λk i hk=>?_,λk hk=>if_pos hk,⟨?_,b16.len,b16.term,λi hi=>?_,λi hi=>?_⟩,rfl⟩
 ·split at hk
  ·rename_i e3;rcases M0 k.1 10 with e | e
   ·rw[ho0 k e]at hk;cases hk
   have h1:oa k=o0 k:=(fa k Q1).trans (by rw[Own.af (by rintro rfl;simp at e),Own.af (by rintro rfl;simp at e)];unfold iU;rw[if_neg (by rintro rfl;simp at e),if_pos e]);rw[Own.af (by rintro rfl;simp at e),h1];exact hk
  rename_i e3;split at hk
  ·rw[Own.af (by rintro rfl;simp at e3)];exact hk
  cases hk
 ·have:=b16.blk;rw[Own.af Sb]at this;simpa using this
 ·have:=b16.phis i hi;rw[Own.af Sb]at this;exact(by simp:_=oa (1,i)).trans this
 have:=b16.ins i hi;rw[Own.af Sb]at this;exact(by simp:_=oa (2,i)).trans this
theorem I6{s:List Int}{vs:Value}{h:Heap}{W:View}{o0:Own}(w0:Owns W h o0)(ho0 : ∀k:Key,k.1<10->o0 k=QC)(hs:SlRd W vs s):
  aw QH N.az #[vs] h (λu h'=>∃W',W.le W'/\Owns W' h' o0/\Rd W' u (iV s)):=by refine(Gx w0 ho0 hs).mono ?_;rintro u h' ⟨W1,o,vb,lb,hW,w,ho,b,rfl⟩;obtain⟨W2,hW2,w2,sb⟩:=b.freeze w ho λk hk=>ho0 k Q1;have mp:=uH (s:=s);have mi:I64 (iV s).params:=Q5;exact⟨W2,Qx hW hW2,w2,⟨_,rfl,[Qy Qz (iV s).params],[vb],rfl,⟨rfl,mi⟩,vb,rfl,sb⟩⟩
variable{po:OP}
end Go.Lft
namespace Go.Lft
section
variable{R F X c:Nat}{i10:Own}{W0 W:View}{vbk:Value}{bl:List BlkD}{h:Heap}{o:Own}{ps:Int}{vp vi va vt:Value}{kd im:Int}{lp:List PhiD}{li:List InsD}{la lt:List Int}
variable{po:OP}{ty t2:TypeId}{us:List (Nat × Value)}{x y:Operand}{K:Value->Heap->Prop}
end
theorem Ic{H:View}{u:Value}{d:BlkD}(h:Rd H u d) : ∃vp vi va vt,u = .agg #[vp,vi,Qy Qz d.term.kind,va,vt,Qy QA d.term.imm.v]/\SlRd H vp d.phis/\SlRd H vi d.ins/\SlRd H va d.term.args/\SlRd H vt d.term.to/\I64 d.term.kind/\-2147483648<=d.term.imm.v/\d.term.imm.v<=2147483647:=by
 obtain⟨cs,rfl,c1,r1,e1,⟨vp,rfl,h1⟩,c2,r2,e2,⟨vi,rfl,h2⟩,c3,r3,e3,⟨rfl,h3⟩,c4,r4,e4,⟨va,rfl,h4⟩,c5,r5,e5,⟨vt,rfl,h5⟩,h6,h7⟩:=h;subst e5 e4 e3 e2;have he:cs.toList=[vp,vi,Qy Qz d.term.kind,va,vt,Qy QA d.term.imm.v]:=by rw[e1,h6];rfl
 refine⟨vp,vi,va,vt,?_,h1,h2,h4,h5,h3,h7⟩;rw[<-Array.toList_inj.1 (he.trans rfl:cs.toList = #[vp,vi,Qy Qz d.term.kind,va,vt,Qy QA d.term.imm.v].toList)]
theorem Owns.elW{W:View}{h:Heap}{o:Own}{k:Key}{α:Type}[r:Rep α]{e:TypeId}{v:Value}{l:List α}(w:Owns W h o)(hk:o k=it e v l){i:Nat}(hi:i<l.length) : ∃cs,fO (vw h) ((slA v).add (i*Rep.n α)) cs/\cs.length=Rep.n α/\Rep.rd W cs l[i]:=by
 obtain⟨hb,xs,⟨hl,hown⟩,hel⟩:=w.get hk;have h0:=hel i hi;have hle:i*Rep.n α+Rep.n α<=l.length*Rep.n α:=by rw[<-Nat.succ_mul];exact NA _ hi
 have hcl:((xs.drop (i*Rep.n α)).take (Rep.n α)).length=Rep.n α:=by simp;omega
 rcases hown with⟨rfl,hn⟩ | ⟨g,cap,cur,rfl,h2,h3,h4,h5,h6⟩
 ·omega
 have hadd:(slA (QD (QB ⟨g,0,QC⟩) l.length cap)).add (i*Rep.n α)=⟨g,i*Rep.n α,QC⟩:=by show(⟨g,0,QC⟩:Addr).add _=_;simp[Addr.z]
 rw[hadd];refine⟨_,⟨cur,e,(0,0),rfl,h2,?_⟩,hcl,h0⟩;rw[hcl,<-h6,Ot,Od,N7 Q1]
theorem Owns.ldW{W:View}{h:Heap}{o:Own}{k:Key}{α:Type}[r:Rep α]{e:TypeId}{v:Value}{l:List α}(w:Owns W h o)(hk:o k=it e v l)(ha:Rep.agg α=QF){N:Nat}(hn:Rep.n α=N){i:Nat}(hi:i<l.length) : ∃u,Un.ev (vw h) (.ax N) (QE (QB ((slA v).add (i*N))))=QB u/\Rd W u l[i]:=by
 subst hn;obtain⟨cs,h1,h2,h3⟩:=Owns.elW w hk hi;have:=ir h1 cs.length 0 #[] Q1;refine⟨.agg cs.toArray,?_,?_⟩
 ·simp only[Un.ev,vP,Nn];rw[h2]at this;rw[this];simp
 unfold Rd;rw[if_pos ha];exact⟨_,rfl,by simpa using h3⟩
def pr:Nat->Nat->Nat
 | 0,i=>2*i+1
 | b+1,i=>2*pr b i
theorem CR : ∀{b c i j:Nat},pr b i=pr c j->b=c/\i=j
 | 0,0,i,j,h=>⟨rfl,by unfold pr at h;omega⟩
 | 0,c+1,i,j,h=>by unfold pr at h;omega
 | b+1,0,i,j,h=>by unfold pr at h;omega
 | b+1,c+1,i,j,h=>by have h:2*pr b i=2*pr c j:=h;have:=CR (show pr b i=pr c j by omega);exact⟨by omega,this.2⟩
variable{b:Nat}
theorem Ao{c i j:Nat}:pr b i=pr c j↔b=c/\i=j:=⟨CR,λh=>by rw[h.1,h.2]⟩
structure PhO where
 dst:Int
 ins:Raw
instance:Rep PhO:=Rep.via λd=>Cat.mk d.dst d.ins
instance:Inhabited PhO:=⟨⟨0,default⟩⟩
structure InO where
 op:Int
 dst:Int
 two:Int
 args:Raw
 imm:I32
instance:Rep InO:=Rep.via λd=>Cat.mk d.op (Cat.mk d.dst (Cat.mk d.two (Cat.mk d.args d.imm)))
instance:Inhabited InO:=⟨⟨0,0,0,default,default⟩⟩
structure TmO where
 kind:Int
 args:Raw
 to:Raw
 imm:I32
instance:Rep TmO:=Rep.via λd=>Cat.mk d.kind (Cat.mk d.args (Cat.mk d.to d.imm))
instance:Inhabited TmO:=⟨⟨0,default,default,default⟩⟩
theorem TmO.AG:Part TmO Raw 2 TmO.to (λd x=>{ d with to:=x }):=(Part.snd (Part.snd (Part.fst Part.all))).via (λ_=>rfl) λ_ _=>rfl
structure BkO where
 phis:Raw
 ins:Raw
 term:TmO
instance:Rep BkO:=Rep.via λd=>Cat.mk d.phis (Cat.mk d.ins d.term)
instance:Inhabited BkO:=⟨⟨default,default,default⟩⟩
theorem BkO.oy:Part BkO Raw 0 BkO.phis (λd x=>{ d with phis:=x }):=(Part.fst Part.all).via (λ_=>rfl) λ_ _=>rfl
theorem BkO.mW:Part BkO TmO 2 BkO.term (λd x=>{ d with term:=x }):=(Part.snd (Part.snd Part.all)).via (λ_=>rfl) λ_ _=>rfl
section
variable{H:View}{cs:List Value}
theorem HT{d:PhO}{l:List InD}(h:Rep.rd H cs d)(hl:SlRd H d.ins.v l):Rep.rd H cs (PhiD.mk d.dst l):=by obtain⟨c1,r1,e1,h1,h2,_⟩:=h;have h2:r1=[d.ins.v]:=h2;exact⟨c1,r1,e1,h1,d.ins.v,h2,hl⟩
theorem H0{d:InO}{l:List Int}(h:Rep.rd H cs d)(hl:SlRd H d.args.v l):Rep.rd H cs (InsD.mk d.op d.dst d.two l d.imm):=by obtain⟨c1,r1,e1,h1,c2,r2,e2,h2,c3,r3,e3,h3,c4,r4,e4,⟨h4,_⟩,h5⟩:=h;have h4:c4=[d.args.v]:=h4;exact⟨c1,r1,e1,h1,c2,r2,e2,h2,c3,r3,e3,h3,c4,r4,e4,⟨d.args.v,h4,hl⟩,h5⟩
theorem Iu{d:BkO}{p:List PhiD}{i:List InsD}{a t:List Int}(h:Rep.rd H cs d)(hp:SlRd H d.phis.v p)(hi:SlRd H d.ins.v i)(ha:SlRd H d.term.args.v a)(ht:SlRd H d.term.to.v t):Rep.rd H cs (BlkD.mk p i ⟨d.term.kind,a,t,d.term.imm⟩):=by obtain⟨c1,r1,e1,⟨h1,_⟩,c2,r2,e2,⟨h2,_⟩,c3,r3,e3,h3,c4,r4,e4,⟨h4,_⟩,c5,r5,e5,⟨h5,_⟩,h6⟩:=h;have h1:c1=[d.phis.v]:=h1;have h2:c2=[d.ins.v]:=h2;have h4:c4=[d.term.args.v]:=h4;have h5:c5=[d.term.to.v]:=h5;exact⟨c1,r1,e1,⟨d.phis.v,h1,hp⟩,c2,r2,e2,⟨d.ins.v,h2,hi⟩,c3,r3,e3,h3,c4,r4,e4,⟨d.term.args.v,h4,ha⟩,c5,r5,e5,⟨d.term.to.v,h5,ht⟩,h6⟩
end
structure Bv where
 p:Value
 i:Value
 a:Value
 t:Value
 pin:Nat->Value
 iar:Nat->Value
def phO(V:Bv)(d:BlkD)(i:Nat):PhO:=⟨(nth d.phis i).dst,⟨V.pin i⟩⟩
def inO(V:Bv)(d:BlkD)(i:Nat):InO:=⟨(nth d.ins i).op,(nth d.ins i).dst,(nth d.ins i).two,⟨V.iar i⟩,(nth d.ins i).imm⟩
def tmO(V:Bv)(d:BlkD):TmO:=⟨d.term.kind,⟨V.a⟩,⟨V.t⟩,d.term.imm⟩
def bkO(V:Bv)(d:BlkD):BkO:=⟨⟨V.p⟩,⟨V.i⟩,tmO V d⟩
structure BO(K:Nat)(o:Own)(b:Nat)(V:Bv)(d:BlkD):Prop where
 phis:o (K+1,b)=it T.dY V.p (rows (phO V d) d.phis.length)
 ins:o (K+2,b)=it T.dT V.i (rows (inO V d) d.ins.length)
 args:o (K+3,b)=it T.int V.a d.term.args
 to:o (K+4,b)=it T.int V.t d.term.to
 pin : ∀i,i<d.phis.length->o (K+5,pr b i)=it T.dK (V.pin i) (nth d.phis i).ins
 iar : ∀i,i<d.ins.length->o (K+6,pr b i)=it T.int (V.iar i) (nth d.ins i).args
structure FnO(K:Nat)(o:Own)(vb:Value)(V:Nat->Bv)(f:aq):Prop where
 blk:o (K,0)=it T.a8 vb (rows (λb=>bkO (V b) (nth f.blocks b)) f.blocks.length)
 bo : ∀b,b<f.blocks.length->BO K o b (V b) (nth f.blocks b)
def OfB(K b:Nat)(k:Key):Prop:=(k.2=b/\K+1<=k.1/\k.1<=K+4)\/∃i,k.2=pr b i/\(k.1=K+5\/k.1=K+6)
section
variable{K:Nat}{o o':Own}{b c:Nat}{V:Bv}{d:BlkD}
theorem BO.congr(w:BO K o b V d)(h : ∀k,OfB K b k->o' k=o k):BO K o' b V d:=
 ⟨(h _ (.inl ⟨rfl,by simp,by simp⟩)).trans w.phis,(h _ (.inl ⟨rfl,by simp,by simp⟩)).trans w.ins,(h _ (.inl ⟨rfl,by simp,by simp⟩)).trans w.args,(h _ (.inl ⟨rfl,by simp,by simp⟩)).trans w.to,
  λi hi=>(h _ (.inr ⟨i,rfl,.inl rfl⟩)).trans (w.pin i hi),λi hi=>(h _ (.inr ⟨i,rfl,.inr rfl⟩)).trans (w.iar i hi)⟩
theorem y8(hbc:b≠c){k:Key}(h:OfB K b k):¬OfB K c k:=by
 intro g;rcases h with⟨h1,h2,h3⟩ | ⟨i,h1,h2⟩<;>rcases g with⟨g1,g2,g3⟩ | ⟨j,g1,g2⟩
 ·omega
 ·omega
 ·omega
 exact hbc (CR (h1.symm.trans g1)).1
theorem jl{k:Key}(h:OfB K b k):K+1<=k.1/\k.1<=K+6:=by rcases h with⟨h1,h2,h3⟩ | ⟨i,h1,h2⟩<;>omega
end
section
variable{H:View}{vb:Value}{V:Nat->Bv}{f:aq}
theorem Dj{V:Bv}{d:BlkD}(h0:SlRd H V.p (rows (phO V d) d.phis.length))(h1 : ∀i,i<d.phis.length->SlRd H (V.pin i) (nth d.phis i).ins):SlRd H V.p d.phis:=by
 refine qh h0 rfl Sb λi g1 g2 cs hr=>?_;have e:(rows (phO V d) d.phis.length)[i]=phO V d i:=by simp[rows]
 rw[e]at hr;have:=HT hr (h1 i g2);rw[<-ao g2];exact this
theorem GD{V:Bv}{d:BlkD}(h0:SlRd H V.i (rows (inO V d) d.ins.length))(h1 : ∀i,i<d.ins.length->SlRd H (V.iar i) (nth d.ins i).args):SlRd H V.i d.ins:=by
 refine qh h0 rfl Sb λi g1 g2 cs hr=>?_;have e:(rows (inO V d) d.ins.length)[i]=inO V d i:=by simp[rows]
 rw[e]at hr;have:=H0 hr (h1 i g2);rw[<-ao g2];exact this
theorem DL(h0:SlRd H vb (rows (λb=>bkO (V b) (nth f.blocks b)) f.blocks.length))(hp : ∀b,b<f.blocks.length->SlRd H (V b).p (nth f.blocks b).phis)(hi : ∀b,b<f.blocks.length->SlRd H (V b).i (nth f.blocks b).ins)(ha : ∀b,b<f.blocks.length->SlRd H (V b).a (nth f.blocks b).term.args)(ht : ∀b,b<f.blocks.length->SlRd H (V b).t (nth f.blocks b).term.to):SlRd H vb f.blocks:=by
 refine qh h0 rfl Sb λb g1 g2 cs hr=>?_;have e:(rows (λb=>bkO (V b) (nth f.blocks b)) f.blocks.length)[b]=bkO (V b) (nth f.blocks b):=by simp[rows]
 rw[e]at hr;have:=Iu hr (hp b g2) (hi b g2) (ha b g2) (ht b g2);rw[<-ao g2];exact this
end
section
variable{W:View}{h:Heap}{K:Nat}{o o':Own}{vb:Value}{V:Nat->Bv}{f:aq}{b:Nat}
theorem FnO.rd(w:Owns W h o)(g:FnO K o vb V f):SlRd (vw h) vb f.blocks:=
 DL (w.now g.blk) (λb hb=>Dj (w.now (g.bo b hb).phis) λi hi=>w.now ((g.bo b hb).pin i hi)) (λb hb=>GD (w.now (g.bo b hb).ins) λi hi=>w.now ((g.bo b hb).iar i hi)) (λb hb=>w.now (g.bo b hb).args) λb hb=>w.now (g.bo b hb).to
theorem FnO.rdF(w:Owns W h o)(g:FnO K o vb V f)(hp:I64 f.params):Rd (vw h) (.agg #[Qy Qz f.params,vb]) f:=
 ⟨_,rfl,[Qy Qz f.params],[vb],rfl,⟨rfl,hp⟩,vb,rfl,g.rd w⟩
theorem FnO.congr(g:FnO K o vb V f)(h : ∀k:Key,K<=k.1->k.1<=K+6->o' k=o k):FnO K o' vb V f:=
 ⟨(h _ (MY _) Sb).trans g.blk,λb hb=>(g.bo b hb).congr λk hk=>by have:=jl hk;exact h k Q1 Q1⟩
theorem FnO.upd(g:FnO K o vb V f){k:Key}{x:Option Lft.Item}(h:k.1<K\/K+6<k.1):FnO K (o.upd k x) vb V f:=
 g.congr λq h1 h2=>Own.af (by rintro rfl;omega)
def bj(f:aq)(b:Nat)(d:BlkD):aq:=⟨f.params,f.blocks.set b d⟩
theorem kC{d:BlkD}:(bj f b d).blocks.length=f.blocks.length:=Nq
theorem rU{d:BlkD}(hb:b<f.blocks.length)(c:Nat):nth (bj f b d).blocks c=if b=c then d else nth f.blocks c:=by
 unfold bj;dsimp only;rcases M0 c f.blocks.length with h | h
 ·exact aK h
 rw[aW (by rw[Nq];exact h),aW h,if_neg Q1]
theorem Bj(hb:b<f.blocks.length):bj f b (nth f.blocks b)=f:=by unfold bj;rw[ao hb,Oz hb]
theorem zH{d e:BlkD}:bj (bj f b d) b e=bj f b e:=by unfold bj;rw[List.set_set]
theorem FnO.setB(g:FnO K o vb V f)(hb:b<f.blocks.length){d:BlkD}(h0:o' (K,0)=o (K,0))(ho : ∀k,K+1<=k.1->k.1<=K+6->¬OfB K b k->o' k=o k)(hk:tmO (V b) d=tmO (V b) (nth f.blocks b))(hd:BO K o' b (V b) d):FnO K o' vb V (bj f b d):=by
 have hn:=λc=>rU (d:=d) hb c;refine⟨?_,λc hc=>?_⟩
 ·rw[h0,g.blk,kC];congr 1;refine Pu λc _=>?_;rw[hn];split
  ·rename_i e;subst e;unfold bkO;rw[hk]
  rfl
 rw[kC]at hc;rw[hn];split
 ·rename_i e;subst e;exact hd
 rename_i e;exact(g.bo c hc).congr λk hk=>by have:=jl hk;exact ho k Q1 Q1 (y8 (λq=>e q.symm) hk)
theorem FnO.freeze(g:FnO K o vb V f)(w:Owns W h o): ∃W',W.le W'/\Owns W' h (λk=>if K<=k.1/\k.1<=K+6 then .none else o k)/\SlRd W' vb f.blocks:=by
 obtain⟨W',hW,w',s⟩:=Owns.tM w λk=>decide (K<=k.1/\k.1<=K+6);refine⟨W',hW,w'.congr λk=>?_,?_⟩
 ·by_cases e:K<=k.1/\k.1<=K+6
  ·rw[if_pos e,if_pos (decide_eq_true e)]
  rw[if_neg e,if_neg (by rw[decide_eq_false e];exact Bool.false_ne_true)]
 refine DL (s Sb g.blk) (λb hb=>Dj (s Sb (g.bo b hb).phis) λi hi=>s Sb ((g.bo b hb).pin i hi)) (λb hb=>GD (s Sb (g.bo b hb).ins) λi hi=>s Sb ((g.bo b hb).iar i hi)) (λb hb=>s Sb (g.bo b hb).args) λb hb=>s Sb (g.bo b hb).to
end
theorem kr{β:Type}{x:Nat->β}{n i:Nat}(h:i<(rows x n).length):(rows x n)[i]=x i:=by simp[rows]
theorem nyq{β:Type}{x y:Nat->β}{n i:Nat}{z:β}(hi:i<n)(hz:z=y i)(h : ∀j,j<n->j≠i->x j=y j):(rows x n).set i z=rows y n:=by
 refine NU Sb λj g1 g2=>?_;have hj:j<n:=by simpa using g2
 rw[Qe,kr,kr];split
 ·rename_i e;subst e;exact hz
 rename_i e;exact h j hj λq=>e q.symm
def gk(d:BlkD)(i:Nat)(p:PhiD):BlkD:={ d with phis:=d.phis.set i p }
def gV(d:BlkD)(l:List Int):BlkD:={ d with term:={ d.term with to:=l } }
section
variable{K:Nat}{o o':Own}{b i:Nat}{V:Bv}{d:BlkD}
theorem BO.JG(w:BO K o b V d)(hi:i<d.phis.length){l:List InD}(ho : ∀k,o' k=o.upd (K+5,pr b i) (it T.dK (V.pin i) l) k):BO K o' b V (gk d i ⟨(nth d.phis i).dst,l⟩):=by
 have hl:(gk d i ⟨(nth d.phis i).dst,l⟩).phis.length=d.phis.length:=Nq;have hn:=λj (hj:j<d.phis.length)=>aK (l:=d.phis) (i:=i) (j:=j) (x:=⟨(nth d.phis i).dst,l⟩) hj;refine⟨?_,?_,?_,?_,λj hj=>?_,λj hj=>?_⟩
 ·rw[ho,Own.af Sb,w.phis,hl];congr 1;refine Pu λj hj=>?_;unfold phO gk;dsimp only;rw[hn j (N0.1 hj)];split
  ·rename_i e;subst e;rfl
  rfl
 ·rw[ho,Own.af Sb];exact w.ins
 ·rw[ho,Own.af Sb];exact w.args
 ·rw[ho,Own.af Sb];exact w.to
 ·rw[hl]at hj;rw[ho];unfold gk;dsimp only;rw[hn j hj];split
  ·rename_i e;subst e;rw[Own.ah]
  rename_i e;rw[Own.af (by simp[Ao];exact λq=>e q.symm),w.pin j hj]
 rw[ho,Own.af Sb];exact w.iar j hj
theorem BO.LQ(w:BO K o b V d){l:List Int}(ho : ∀k,o' k=o.upd (K+4,b) (it T.int V.t l) k):BO K o' b V (gV d l):=
 ⟨by rw[ho,Own.af Sb];exact w.phis,by rw[ho,Own.af Sb];exact w.ins,by rw[ho,Own.af Sb];exact w.args,by rw[ho,Own.ah];rfl,λj hj=>by rw[ho,Own.af Sb];exact w.pin j hj,λj hj=>by rw[ho,Own.af Sb];exact w.iar j hj⟩
end
section
variable{K:Nat}{o o':Own}{vb:Value}{V:Nat->Bv}{f:aq}{b i:Nat}
theorem FnO.wr(g:FnO K o vb V f)(hb:b<f.blocks.length){k:Key}{x:Option Lft.Item}(hk:OfB K b k)(ho : ∀q,o' q=o.upd k x q){d:BlkD}(ht:tmO (V b) d=tmO (V b) (nth f.blocks b))(hd:BO K o' b (V b) d):FnO K o' vb V (bj f b d):=
 g.setB hb (by rw[ho,Own.af (by rintro rfl;have:=jl hk;simp at this;omega)]) (λq _ _ h=>by rw[ho,Own.af (by rintro rfl;exact h hk)]) ht hd
end
def phR(pin:Nat->Value)(l:List PhiD)(i:Nat):PhO:=⟨(nth l i).dst,⟨pin i⟩⟩
def inR(iar:Nat->Value)(l:List InsD)(i:Nat):InO:=⟨(nth l i).op,(nth l i).dst,(nth l i).two,⟨iar i⟩,(nth l i).imm⟩
structure PhsO(K:Nat)(o:Own)(b:Nat)(v:Value)(pin:Nat->Value)(l:List PhiD):Prop where
 row:o (K+1,b)=it T.dY v (rows (phR pin l) l.length)
 pin : ∀i,i<l.length->o (K+5,pr b i)=it T.dK (pin i) (nth l i).ins
structure InsO(K:Nat)(o:Own)(b:Nat)(v:Value)(iar:Nat->Value)(l:List InsD):Prop where
 row:o (K+2,b)=it T.dT v (rows (inR iar l) l.length)
 iar : ∀i,i<l.length->o (K+6,pr b i)=it T.int (iar i) (nth l i).args
theorem CY{α:Type}[Inhabited α]{l:List α}{x:α}{i:Nat}:nth (l++[x]) i=if i<l.length then nth l i else if i=l.length then x else default:=by
 split
 ·rename_i h;rw[ao (l:=l++[x]) (i:=i) Q8,ao h,Oa h]
 split
 ·rename_i h h2;subst h2;rw[ao (l:=l++[x]) (i:=l.length) Sb,N5 (MY _)];simp
 exact aW Q8
theorem qE{α:Type}[Inhabited α]{l:List α}{x:α}:nth (l++[x]) l.length=x:=by rw[CY,if_neg (Qb _),if_pos rfl]
theorem qo{α:Type}[Inhabited α]{l:List α}{x:α}{i:Nat}(h:i<l.length):nth (l++[x]) i=nth l i:=by rw[CY,if_pos h]
theorem rQ{β:Type}{x y:Nat->β}{n:Nat}(h : ∀i,i<n->x i=y i):rows x n=rows y n:=Pu λi hi=>h i (N0.1 hi)
section
variable{K b:Nat}{o o':Own}{v v':Value}{pin iar:Nat->Value}
theorem PhsO.push{l:List PhiD}{p:PhiD}{u:Value}(w:PhsO K o b v pin l)(h1:o' (K+1,b)=it T.dY v' (rows (phR pin l) l.length++[⟨p.dst,⟨u⟩⟩]))(h2:o' (K+5,pr b l.length)=it T.dK u p.ins)(h3 : ∀i,i<l.length->o' (K+5,pr b i)=o (K+5,pr b i)):PhsO K o' b v' (λi=>if i=l.length then u else pin i) (l++[p]):=by
 refine⟨?_,λi hi=>?_⟩
 ·rw[h1,M3,M6,iG];congr 1;congr 1
  ·refine rQ λi hi=>?_;unfold phR;dsimp only;rw[qo hi,if_neg Q1]
  unfold phR;dsimp only;rw[qE,if_pos rfl]
 rw[M3,M6]at hi;rcases M0 i l.length with h | h
 ·rw[h3 i h,if_neg Q1,qo h];exact w.pin i h
 have e:i=l.length:=by omega
 subst e;rw[h2,if_pos rfl,qE]
theorem InsO.push{l:List InsD}{p:InsD}{u:Value}(w:InsO K o b v iar l)(h1:o' (K+2,b)=it T.dT v' (rows (inR iar l) l.length++[⟨p.op,p.dst,p.two,⟨u⟩,p.imm⟩]))(h2:o' (K+6,pr b l.length)=it T.int u p.args)(h3 : ∀i,i<l.length->o' (K+6,pr b i)=o (K+6,pr b i)):InsO K o' b v' (λi=>if i=l.length then u else iar i) (l++[p]):=by
 refine⟨?_,λi hi=>?_⟩
 ·rw[h1,M3,M6,iG];congr 1;congr 1
  ·refine rQ λi hi=>?_;unfold inR;dsimp only;rw[qo hi,if_neg Q1]
  unfold inR;dsimp only;rw[qE,if_pos rfl]
 rw[M3,M6]at hi;rcases M0 i l.length with h | h
 ·rw[h3 i h,if_neg Q1,qo h];exact w.iar i h
 have e:i=l.length:=by omega
 subst e;rw[h2,if_pos rfl,qE]
theorem BO.of{p:List PhiD}{i:List InsD}{t:cK}{va vt vp vi:Value}(wp:PhsO K o b vp pin p)(wi:InsO K o b vi iar i)(ha:o (K+3,b)=it T.int va t.args)(ht:o (K+4,b)=it T.int vt t.to):BO K o b ⟨vp,vi,va,vt,pin,iar⟩ ⟨p,i,t⟩:=
 ⟨wp.row,wi.row,ha,ht,wp.pin,wi.iar⟩
end
variable{K:Nat}
theorem FnO.push{o o':Own}{vb vb':Value}{V:Nat->Bv}{Vn:Bv}{ps:Int}{l:List BlkD}{d:BlkD}{x:BkO}(g:FnO K o vb V ⟨ps,l⟩)(hx:x=bkO Vn d)(h1:o' (K,0)=it T.a8 vb' (rows (λb=>bkO (V b) (nth l b)) l.length++[x]))(h2 : ∀b,b<l.length->∀k,OfB K b k->o' k=o k)(h3:BO K o' l.length Vn d):FnO K o' vb' (λb=>if b=l.length then Vn else V b) ⟨ps,l++[d]⟩:=by
 refine⟨?_,λb hb=>?_⟩
 ·dsimp only;rw[h1,M3,M6,iG];congr 1;congr 1
  ·refine rQ λi hi=>?_;rw[qo hi,if_neg Q1]
  rw[qE,if_pos rfl,hx]
 have hb:b<(l++[d]).length:=hb;rw[M3,M6]at hb;dsimp only;rcases M0 b l.length with h | h
 ·rw[if_neg Q1,qo h];exact(g.bo b h).congr (h2 b h)
 have e:b=l.length:=by omega
 subst e;rw[if_pos rfl,qE];exact h3
variable{W:View}
theorem Owns.C8{po:OP}{P:Program}{h:Heap}{o:Own}{k:Key}{ty:TypeId}{us:List (Nat × Value)}{α:Type}[r:Rep α]{e:TypeId}{v:Value}{t:TypeId}{bytes:Nat}{z:Value}{x y:Operand}{u:Value}{l2:List α}{K:Value->Heap->Prop}(w:Owns W h o)(hk:o k=it e v ([]:List α))(hT:eG P t e (Rep.n α) bytes z)(hx:asg us x=v)(hy:asg us y=u)(hs:SlRd W u l2)(hb:l2.length*bytes<=140737488355328)(hK : ∀v' h',Owns W h' (o.upd k (it e v' l2))->v'.oneCell'=QF->(∀X:View,X.le (vw h)->Av X v->X.le (vw h'))->K v' h'):@Lft.step po P (.call ⟨.builtin .append,#[x,y],#[t,t]⟩) ty us h K:=
 w.cR (k:=k) (l:=([]:List α)) (l2:=l2) hk hT hx hy (hs.src w.wle) (by simpa using hb) (by have:=hs.bound;simpa using this) λv' h' w' m=>by exact hK v' h' w' ((w'.cells (k:=k) Own.ah).2) λX hX hA=>(m.view hX hA).1
theorem ofB1:OfB K b (K+1,b):=.inl ⟨rfl,by simp,by simp⟩
theorem ofB2:OfB K b (K+2,b):=.inl ⟨rfl,by simp,by simp⟩
theorem ofB3:OfB K b (K+3,b):=.inl ⟨rfl,by simp,by simp⟩
theorem ofB4:OfB K b (K+4,b):=.inl ⟨rfl,by simp,by simp⟩
theorem ofB5{i:Nat}:OfB K b (K+5,pr b i):=.inr ⟨i,rfl,.inl rfl⟩
theorem ofB6{i:Nat}:OfB K b (K+6,pr b i):=.inr ⟨i,rfl,.inr rfl⟩
theorem J2{H:View}{d:Int}{v:Value}(h1:I64 d)(h2:v.oneCell'=QF):Rd H (.agg #[Qy Qz d,v]) (PhO.mk d ⟨v⟩):=⟨_,rfl,[Qy Qz d],[v],rfl,⟨rfl,h1⟩,rfl,h2⟩
theorem KT{H:View}{op d two:Int}{imm:I32}{v:Value}(h:I64 op/\I64 d/\I64 two/\-2147483648<=imm.v/\imm.v<=2147483647)(h2:v.oneCell'=QF):Rd H (.agg #[Qy Qz op,Qy Qz d,Qy Qz two,v,Qy QA imm.v]) (InO.mk op d two ⟨v⟩ imm):=
 ⟨_,rfl,[Qy Qz op],_,rfl,⟨rfl,h.1⟩,[Qy Qz d],_,rfl,⟨rfl,h.2.1⟩,[Qy Qz two],_,rfl,⟨rfl,h.2.2.1⟩,[v],_,rfl,⟨rfl,h2⟩,rfl,h.2.2.2⟩
theorem HF{H:View}{vp vi va vt:Value}{kd:Int}{imm:I32}(h1:vp.oneCell'=QF)(h2:vi.oneCell'=QF)(h3:va.oneCell'=QF)(h4:vt.oneCell'=QF)(h5:I64 kd)(h6:-2147483648<=imm.v/\imm.v<=2147483647):Rd H (.agg #[vp,vi,Qy Qz kd,va,vt,Qy QA imm.v]) (BkO.mk ⟨vp⟩ ⟨vi⟩ ⟨kd,⟨va⟩,⟨vt⟩,imm⟩):=
 ⟨_,rfl,[vp],_,rfl,⟨rfl,h1⟩,[vi],_,rfl,⟨rfl,h2⟩,[Qy Qz kd],_,rfl,⟨rfl,h5⟩,[va],_,rfl,⟨rfl,h3⟩,[vt],_,rfl,⟨rfl,h4⟩,rfl,h6⟩
structure Wt(W:View)(h:Heap)(K:Nat)(ob:Own)(vb:Value)(V:Nat->Bv)(f:aq):Prop where
 ex : ∃o,Owns W h o/\FnO K o vb V f/\∀k:Key,(k.1<K\/K+6<k.1)->o k=ob k
section
variable{W:View}{h:Heap}{K:Nat}{ob:Own}{vb:Value}{V:Nat->Bv}{f:aq}
theorem Wt.wle(w:Wt W h K ob vb V f):W.le (vw h):=let ⟨_,w,_⟩:=w.ex;w.wle
theorem Wt.blks(w:Wt W h K ob vb V f):SlRd (vw h) vb f.blocks:=let ⟨_,w,g,_⟩:=w.ex;g.rd w
theorem Wt.raw(w:Wt W h K ob vb V f){k:Key}(hk:k.1<K\/K+6<k.1){n:Nat}{e:TypeId}{B:Nat}{l:List Value}(hb:ob k=bx e B (RawN.mk (n:=n) l)){i:Nat}(hi:i<=n):aj (vw h) ⟨B,i,QC⟩=QB (l.getD i undef):=
 let ⟨o,w,g,r⟩:=w.ex
 w.raw (k:=k) ((r k hk).trans hb) hi
theorem Wt.gg(w:Wt W h K ob vb V f){k:Key}(hk:k.1<K\/K+6<k.1){n:Nat}{e:TypeId}{B:Nat}{l:List Value}(hb:ob k=bx e B (RawN.mk (n:=n) l)):Un.ev (vw h) (.ax (n+1)) (QT B)=QB (.agg l.toArray):=
 let ⟨o,w,g,r⟩:=w.ex
 w.gg (k:=k) ((r k hk).trans hb)
theorem FnO.cur{o:Own}{d:BlkD}(g:FnO K o vb V (bj f b d))(hb:b<f.blocks.length):BO K o b (V b) d:=by have:=g.bo b (by rw[kC];exact hb);rw[rU hb,if_pos rfl]at this;exact this
section
variable{b i:Nat}{d:BlkD}
theorem Wt.phN(w:Wt W h K ob vb V (bj f b d))(hb:b<f.blocks.length):SlRd (vw h) (V b).p (rows (phO (V b) d) d.phis.length):=let ⟨_,w,g,_⟩:=w.ex;w.now (g.cur hb).phis
theorem Wt.to(w:Wt W h K ob vb V (bj f b d))(hb:b<f.blocks.length):SlRd (vw h) (V b).t d.term.to:=let ⟨_,w,g,_⟩:=w.ex;w.now (g.cur hb).to
theorem Wt.pin(w:Wt W h K ob vb V (bj f b d))(hb:b<f.blocks.length)(hi:i<d.phis.length):SlRd (vw h) ((V b).pin i) (nth d.phis i).ins:=let ⟨_,w,g,_⟩:=w.ex;w.now ((g.cur hb).pin i hi)
theorem Wt.wr{h':Heap}{o:Own}(g:FnO K o vb V (bj f b d))(r : ∀k:Key,(k.1<K\/K+6<k.1)->o k=ob k)(hb:b<f.blocks.length){k:Key}{x:Option Lft.Item}{d':BlkD}(w:Owns W h' (o.upd k x))(hk:OfB K b k)(ht:tmO (V b) d'=tmO (V b) d)(hd:BO K (o.upd k x) b (V b) d'):Wt W h' K ob vb V (bj f b d'):=by
 refine⟨_,w,?_,λq hq=>?_⟩
 ·have:=g.wr (by rw[kC];exact hb) hk (λ_=>rfl) (by rw[rU hb,if_pos rfl];exact ht) hd;rw[zH]at this;exact this
 have:=jl hk;rw[Own.af (by rintro rfl;omega)];exact r q hq
variable{po:OP}{P:Program}{ty t:TypeId}{us:List (Nat × Value)}{x y:Operand}{Kc:Value->Heap->Prop}{v:Int}
theorem Wt.pf(w:Wt W h K ob vb V (bj f b d))(hb:b<f.blocks.length)(hi:i<d.phis.length){k:Nat}(hk:k<(nth d.phis i).ins.length)(hsz:dp P t=QB 1)(hx:asg us x = QE (QB (((slA ((V b).pin i)).add (k*2)).add 0)))(hy:asg us y = Qy Qz v)(hv:I64 v)(hK : ∀h',Wt W h' K ob vb V (bj f b (gk d i ⟨(nth d.phis i).dst,(nth d.phis i).ins.set k ⟨v,(nth (nth d.phis i).ins k).val⟩⟩))->Kc undef h'):@Lft.step po P (.store t x y) ty us h Kc:=by obtain⟨o,w,g,r⟩:=w.ex;refine w.n8 (k:=(K+5,pr b i)) (α:=InD) InD.sn (v:=(V b).pin i) (l:=(nth d.phis i).ins) (i:=k) (d:=v) ((g.cur hb).pin i hi) hsz hx hy hk (dJ.2 ⟨rfl,hv⟩) λh' w' _=>hK h' ?_;refine Wt.wr g r hb w' ofB5 rfl ((g.cur hb).JG hi λ_=>?_);rw[ao hk]
theorem Wt.tt(w:Wt W h K ob vb V (bj f b d))(hb:b<f.blocks.length){k:Nat}(hk:k<d.term.to.length)(hsz:dp P t=QB 1)(hx:asg us x = QE (QB ((slA (V b).t).add k)))(hy:asg us y = Qy Qz v)(hv:I64 v)(hK : ∀h',Wt W h' K ob vb V (bj f b (gV d (d.term.to.set k v)))->Kc undef h'):@Lft.step po P (.store t x y) ty us h Kc:=by obtain⟨o,w,g,r⟩:=w.ex;refine w.oT (k:=(K+4,b)) (α:=Int) (v:=(V b).t) (l:=d.term.to) (i:=k) (d:=v) (g.cur hb).to hsz (by rw[hx];rw[show k*Rep.n Int=k from NN k]) hy hk (dJ.2 ⟨rfl,hv⟩) λh' w' _=>hK h' ?_;exact Wt.wr g r hb w' ofB4 rfl ((g.cur hb).LQ λ_=>rfl)
end
end
section
variable{W:View}{h:Heap}{K:Nat}{ob:Own}{vb:Value}{V:Nat->Bv}{f:aq}{b i:Nat}{d:BlkD}
theorem Wt.ixP(w:Wt W h K ob vb V (bj f b d))(hb:b<f.blocks.length)(hi:i<d.phis.length):Bn.ev (.idx 2) (V b).p (Qy Qz i)=QB (QE (QB ((slA (V b).p).add (i*2)))):=
 (w.phN hb).idxn (N:=2) rfl (N6 _) Q8
theorem Wt.ixT(w:Wt W h K ob vb V (bj f b d))(hb:b<f.blocks.length){k:Nat}(hk:k<d.term.to.length):Bn.ev (.idx 1) (V b).t (Qy Qz k)=QB (QE (QB ((slA (V b).t).add k)))/\aj (vw h) ((slA (V b).t).add k)=QB (Qy Qz (nth d.term.to k))/\I64 (nth d.term.to k):=
 ⟨(w.to hb).idx1 rfl (N6 _) Q1,(w.to hb).int Qw hk,by have:=((w.to hb).at hk).rng;rw[ao hk];exact this⟩
theorem Wt.ixN(w:Wt W h K ob vb V (bj f b d))(hb:b<f.blocks.length)(hi:i<d.phis.length){k:Nat}(hk:k<(nth d.phis i).ins.length):Bn.ev (.idx 2) ((V b).pin i) (Qy Qz k)=QB (QE (QB ((slA ((V b).pin i)).add (k*2))))/\aj (vw h) (((slA ((V b).pin i)).add (k*2)).add 0)=QB (Qy Qz (nth (nth d.phis i).ins k).frm)/\aj (vw h) (((slA ((V b).pin i)).add (k*2)).add 1)=QB (Qy Qz (nth (nth d.phis i).ins k).val)/\I64 (nth (nth d.phis i).ins k).frm/\I64 (nth (nth d.phis i).ins k).val:=by have a:=(w.pin hb hi).at hk;rw[<-ao hk]at a;exact⟨(w.pin hb hi).idxn (N:=2) rfl (N6 _) Q1,(a.part InD.sn).int,(a.part InD.xJ).int,(a.part InD.sn).rng,(a.part InD.xJ).rng⟩
end
section
variable{W:View}{h:Heap}{K:Nat}{ob:Own}{vb:Value}{V:Nat->Bv}{f:aq}{b i:Nat}{d:BlkD}
theorem Wt.drop{k:Key}{x:Option Lft.Item}(w:Wt W h K (ob.upd k x) vb V f)(hk:ob k=QC)(hf:k.1<K\/K+6<k.1):Wt W h K ob vb V f:=by
 obtain⟨o,w,g,r⟩:=w.ex;refine⟨λq=>if q=k then QC else o q,w.sub λq i hq=>?_,g.congr λq h1 h2=>if_neg (by rintro rfl;omega),λq hq=>?_⟩
 ·split at hq
  ·cases hq
  exact hq
 by_cases e:q=k
 ·exact(if_pos e).trans (by rw[e];exact hk.symm)
 exact(if_neg e).trans (by rw[r q hq,Own.af e])
end
def gn{α:Type}[Inhabited α](g:α->α)(l:List α)(k:Nat):List α:=rows (λi=>if i<k then g (nth l i) else nth l i) l.length
section
variable{α:Type}[Inhabited α]{g:α->α}{l:List α}{k:Nat}
theorem lS:(gn g l k).length=l.length:=by simp[gn]
theorem rz:gn g l 0=l:=by unfold gn;refine NU Sb λi h1 h2=>?_;rw[kr,if_neg (Nw _),ao h2]
theorem tU:gn g l l.length=l.map g:=by
 unfold gn;refine NU Sb λi h1 h2=>?_;have hi:i<l.length:=by simpa using h2
 rw[kr,if_pos hi,ao hi,Oc]
theorem Eo{i:Nat}(hi:i<l.length):nth (gn g l k) i=if i<k then g (nth l i) else nth l i:=by unfold gn;exact eF hi
theorem qc(hk:k<l.length):nth (gn g l k) k=nth l k:=by rw[Eo hk,if_neg (Qb _)]
theorem rA(hk:k<l.length):(gn g l k).set k (g (nth l k))=gn g l (k+1):=by
 unfold gn;refine nyq hk (by rw[if_pos (PL k)]) λj hj hne=>?_;by_cases h:j<k
 ·rw[if_pos h,if_pos Q1]
 rw[if_neg h,if_neg Q1]
end
theorem yD{α:Type}[Rep α]{n:Nat}(k:Key){v:Value}{l:List α}{h:Heap}{o:Own}(w:Owns W h o)(hk:o k=QC)(hv:SlRd W v l):
  ∃a m c,v = .slice a m c/\(a=QC->l=[]):=by
 obtain⟨a,cap,rfl,h1,h2,h3⟩:=hv;exact⟨_,_,_,rfl,λe=>by
  subst e;rcases h3 with h3 | ⟨ad,h3,_⟩
  ·first | exact h3 | exact Nl (by simpa using h3)
  cases h3⟩
theorem Owns.past{h:Heap}{cur o':Own}(w:Owns W h cur){P:Key->Prop}(he : ∀k,¬P k->cur k=o' k)(hn : ∀k,P k->o' k=QC):Owns W h o':=w.sub λk i hk=>by
 by_cases p:P k
 ·rw[hn k p]at hk;cases hk
 rw[he k p];exact hk
theorem CG(k:Key){v:Value}{l:List InD}{h:Heap}{o:Own}(w:Owns W h o)(hk:o k=QC)(hv:SlRd W v l)(hb:l.length<=1000000):
  aw QH N.dD #[v] h (λu h'=>Owns W h' (o.upd k (it T.dK u l))/\u.oneCell'=QF/\(vw h).le (vw h')):=by
 refine ak (args:=[v]) follows F.dD E.dD Q9 λK hK=>?_;dsimp only[L.dD];obtain⟨a,m,c,rfl,hn⟩:=yD (n:=0) k w hk hv;refine ab λz hz=>?_;simp;subst hz;refine ab λz hz=>?_;refine ab λy hy=>?_;simp;refine xm U.jB rfl rfl ?_;subst hy;by_cases ha:a=QC
 ·have hl:=hn ha;subst ha;subst hl;simp;refine hK _ _ ⟨Owns.nils w λq i hq=>?_,rfl,View.le_refl _⟩;by_cases e:q=k
  ·subst e;rw[Own.ah]at hq;cases hq;exact .inr ⟨rfl,OwnT.nil (α:=InD) _ h T.dK⟩
  rw[Own.af e]at hq;exact .inl hq
 have hi:a.isNone=false:=by cases a<;>simp at ha ⊢
 simp[hi];subst hz;refine ab λz hz=>?_;simp;refine w.kf (k:=k) (α:=InD) hk El.jB λv1 h1 hle1 hv1 w1 av1=>?_;refine Owns.C8 w1 (k:=k) (α:=InD) (v:=v1) (u:=.slice a m c) (l2:=l) Own.ah El.jB Sb Sb hv Q1 λv2 h2 w2 hv2 m2=>?_;subst hz;simp;refine hK _ _ ⟨w2.congr λq=>?_,hv2,m2 _ hle1 (av1 _ Qw)⟩;unfold Own.upd;split<;>rfl
theorem pE(k:Key){v:Value}{l:List Int}{h:Heap}{o:Own}(w:Owns W h o)(hk:o k=QC)(hv:SlRd W v l)(hb:l.length<=1000000):
  aw QH N.dr #[v] h (λu h'=>Owns W h' (o.upd k (it T.int u l))/\u.oneCell'=QF/\(vw h).le (vw h')):=by
 refine ak (args:=[v]) follows F.dr E.dr Q9 λK hK=>?_;dsimp only[L.dr];obtain⟨a,m,c,rfl,hn⟩:=yD (n:=0) k w hk hv;refine ab λz hz=>?_;simp;subst hz;refine ab λz hz=>?_;refine ab λy hy=>?_;simp;refine xm U.bn rfl rfl ?_;subst hy;by_cases ha:a=QC
 ·have hl:=hn ha;subst ha;subst hl;simp;refine hK _ _ ⟨Owns.nils w λq i hq=>?_,rfl,View.le_refl _⟩;by_cases e:q=k
  ·subst e;rw[Own.ah]at hq;cases hq;exact .inr ⟨rfl,OwnT.nil (α:=Int) _ h T.int⟩
  rw[Own.af e]at hq;exact .inl hq
 have hi:a.isNone=false:=by cases a<;>simp at ha ⊢
 simp[hi];subst hz;refine ab λz hz=>?_;simp;refine w.kf (k:=k) (α:=Int) hk El.bn λv1 h1 hle1 hv1 w1 av1=>?_;refine Owns.C8 w1 (k:=k) (α:=Int) (v:=v1) (u:=.slice a m c) (l2:=l) Own.ah El.bn Sb Sb hv Q1 λv2 h2 w2 hv2 m2=>?_;subst hz;simp;refine hK _ _ ⟨w2.congr λq=>?_,hv2,m2 _ hle1 (av1 _ Qw)⟩;unfold Own.upd;split<;>rfl
theorem Fa(K:Nat)(k:Key){p:PhiD}{u:Value}{h:Heap}{o:Own}(w:Owns W h o)(hk:o k=QC)(hkK:k.1≠K+8)(ht : ∀i,10<=i->o (K+8,i)=QC)(hr:Rd W u p)(hb:p.ins.length<=1000000):
  aw QH N.di #[u] h (λr h'=>∃v,r = .agg #[Qy Qz p.dst,v]/\v.oneCell'=QF/\I64 p.dst/\Owns W h' (o.upd k (it T.dK v p.ins))):=by
 refine ak (args:=[u]) follows F.di E.di Q9 λKc hK=>?_;dsimp only[L.di];obtain⟨vi,rfl,hd,si⟩:=HR hr;have k1:k≠(K+8,10):=by rintro rfl;exact hkK rfl
 have k2:k≠(K+8,11):=by rintro rfl;exact hkK rfl
 refine ab λz hz=>?_;simp;refine w.qt (k:=(K+8,10)) (n:=1) (l:=[Qy Qz p.dst,vi]) (ht 10 Q2) rfl rfl Q2 (iH si.cells.2) λB h1 hle1 w1=>?_;refine w1.mL (k:=(K+8,11)) (n:=1) (z:=.agg #[Qy Qz 0,QD QC 0 0]) ((Own.af Sb).trans (ht 11 Q2)) Q0 rfl Q2 Q7 λh2 q2 w2=>?_;generalize h1.size=R at w2;have c1:aj (vw h2) ⟨B,1,QC⟩=QB vi:=w2.raw (k:=(K+8,10)) (e:=T.dY) (n:=1) (by rw[Own.af Sb,Own.ah]) (i:=1) Q2;subst hz;refine ab λz hz=>?_;simp[c1];refine ag Q0 (CG k w2 (by rw[Own.af k2,Own.af k1];exact hk) si hb) ?_;rintro v h3 ⟨w3,hv,_⟩;refine w3.bG (k:=(K+8,10)) (n:=1) (i:=1) (e:=T.dY) (B:=B) (l:=[Qy Qz p.dst,vi]) (by rw[Own.af k1.symm,Own.af Sb,Own.ah]) Q2 Q0 rfl rfl hv λh4 w4 _=>?_;subst hz;refine ab λz hz=>?_;have c2:Un.ev (vw h4) (.ax 2) (QT B)=QB (.agg #[Qy Qz p.dst,v]):=w4.gg (k:=(K+8,10)) (n:=1) Own.ah;simp[c2];refine w4.lu (k:=(K+8,11)) (e:=T.dY) (B:=R) (D:=RawN.mk (n:=1) [Qy Qz 0,QD QC 0 0]) Part.all (d:=RawN.mk (n:=1) [Qy Qz p.dst,v]) (by rw[Own.af Sb,Own.af k2.symm,Own.ah];rfl) Q0 rfl rfl (iO rfl (iH hv)) λh5 w5 _=>?_;have c3:Un.ev (vw h5) (.ax 2) (QT R)=QB (.agg #[Qy Qz p.dst,v]):=w5.gg (k:=(K+8,11)) (n:=1) Own.ah;subst hz;simp[c3];refine hK _ _ ⟨v,rfl,hv,hd,Owns.past w5 (P:=λq=>q=(K+8,10)\/q=(K+8,11)) (λq hq=>?_) λq hq=>?_⟩
 ·have e1:q≠(K+8,10):=λe=>hq (.inl e);have e2:q≠(K+8,11):=λe=>hq (.inr e);rw[Own.af e2,Own.af e1];unfold Own.upd;split
  ·rfl
  rfl
 rcases hq with rfl | rfl
 ·rw[Own.af k1.symm];exact ht 10 Q2
 rw[Own.af k2.symm];exact ht 11 Q2
theorem Eb(K:Nat)(k:Key){p:InsD}{u:Value}{h:Heap}{o:Own}(w:Owns W h o)(hk:o k=QC)(hkK:k.1≠K+8)(ht : ∀i,10<=i->o (K+8,i)=QC)(hr:Rd W u p)(hb:p.args.length<=1000000):
  aw QH N.dg #[u] h (λr h'=>∃v,r = .agg #[Qy Qz p.op,Qy Qz p.dst,Qy Qz p.two,v,Qy QA p.imm.v]/\v.oneCell'=QF/\(I64 p.op/\I64 p.dst/\I64 p.two/\-2147483648<=p.imm.v/\p.imm.v<=2147483647)/\Owns W h' (o.upd k (it T.int v p.args))):=by
 refine ak (args:=[u]) follows F.dg E.dg Q9 λKc hK=>?_;dsimp only[L.dg];obtain⟨vi,rfl,hd,si⟩:=CT hr;have k1:k≠(K+8,10):=by rintro rfl;exact hkK rfl
 have k2:k≠(K+8,11):=by rintro rfl;exact hkK rfl
 have five : ∀{v:Value},v.oneCell'=QF->∀c∈[Qy Qz p.op,Qy Qz p.dst,Qy Qz p.two,v,Qy QA p.imm.v],c.oneCell'=true:=λhv c hc=>by simp only[Nu,O3,or_false]at hc;rcases hc with rfl | rfl | rfl | rfl | rfl<;>first | rfl | exact hv
 refine ab λz hz=>?_;simp;refine w.qt (k:=(K+8,10)) (n:=4) (l:=[Qy Qz p.op,Qy Qz p.dst,Qy Qz p.two,vi,Qy QA p.imm.v]) (ht 10 Q2) rfl rfl Q2 (five si.cells.2) λB h1 hle1 w1=>?_;refine w1.mL (k:=(K+8,11)) (n:=4) (z:=.agg #[Qy Qz 0,Qy Qz 0,Qy Qz 0,QD QC 0 0,Qy QA 0]) ((Own.af Sb).trans (ht 11 Q2)) Q0 rfl Q2 Q7 λh2 q2 w2=>?_;generalize h1.size=R at w2;have c1:aj (vw h2) ⟨B,3,QC⟩=QB vi:=w2.raw (k:=(K+8,10)) (e:=T.dT) (n:=4) (by rw[Own.af Sb,Own.ah]) (i:=3) Q2;subst hz;refine ab λz hz=>?_;simp[c1];refine ag Q0 (pE k w2 (by rw[Own.af k2,Own.af k1];exact hk) si hb) ?_;rintro v h3 ⟨w3,hv,_⟩;refine w3.bG (k:=(K+8,10)) (n:=4) (i:=3) (e:=T.dT) (B:=B) (l:=[Qy Qz p.op,Qy Qz p.dst,Qy Qz p.two,vi,Qy QA p.imm.v]) (by rw[Own.af k1.symm,Own.af Sb,Own.ah]) Q2 Q0 rfl rfl hv λh4 w4 _=>?_;subst hz;refine ab λz hz=>?_;have c2:Un.ev (vw h4) (.ax 5) (QT B)=QB (.agg #[Qy Qz p.op,Qy Qz p.dst,Qy Qz p.two,v,Qy QA p.imm.v]):=w4.gg (k:=(K+8,10)) (n:=4) Own.ah;simp[c2];refine w4.lu (k:=(K+8,11)) (e:=T.dT) (B:=R) (D:=RawN.mk (n:=4) [Qy Qz 0,Qy Qz 0,Qy Qz 0,QD QC 0 0,Qy QA 0]) Part.all (d:=RawN.mk (n:=4) [Qy Qz p.op,Qy Qz p.dst,Qy Qz p.two,v,Qy QA p.imm.v]) (by rw[Own.af Sb,Own.af k2.symm,Own.ah];rfl) Q0 rfl rfl (iO rfl (five hv)) λh5 w5 _=>?_;have c3:Un.ev (vw h5) (.ax 5) (QT R)=QB (.agg #[Qy Qz p.op,Qy Qz p.dst,Qy Qz p.two,v,Qy QA p.imm.v]):=w5.gg (k:=(K+8,11)) (n:=4) Own.ah;subst hz;simp[c3];refine hK _ _ ⟨v,rfl,hv,hd,Owns.past w5 (P:=λq=>q=(K+8,10)\/q=(K+8,11)) (λq hq=>?_) λq hq=>?_⟩
 ·have e1:q≠(K+8,10):=λe=>hq (.inl e);have e2:q≠(K+8,11):=λe=>hq (.inr e);rw[Own.af e2,Own.af e1];unfold Own.upd;split
  ·rfl
  rfl
 rcases hq with rfl | rfl
 ·rw[Own.af k1.symm];exact ht 10 Q2
 rw[Own.af k2.symm];exact ht 11 Q2
structure CpP(K b:Nat)(o o':Own)(u:Value)(pin:Nat->Value)(l:List PhiD):Prop where
 phs:PhsO K o' b u pin l
 fr : ∀k,k≠(K+1,b)->(∀i,k≠(K+5,pr b i))->o' k=o k
 fp : ∀i,l.length<=i->o' (K+5,pr b i)=QC
structure CpI(K b:Nat)(o o':Own)(u:Value)(iar:Nat->Value)(l:List InsD):Prop where
 ins:InsO K o' b u iar l
 fr : ∀k,k≠(K+2,b)->(∀i,k≠(K+6,pr b i))->o' k=o k
 fi : ∀i,l.length<=i->o' (K+6,pr b i)=QC
section
variable{K b:Nat}{o o' o2:Own}{u u' v:Value}{pin iar:Nat->Value}
theorem CpP.push{l:List PhiD}{p:PhiD}(c:CpP K b o o' u pin l)(ho : ∀k,o2 k=((o'.upd (K+5,pr b l.length) (it T.dK v p.ins)).upd (K+1,b) (it T.dY u' (rows (phR pin l) l.length++[⟨p.dst,⟨v⟩⟩]))) k):CpP K b o o2 u' (λi=>if i=l.length then v else pin i) (l++[p]):=by
 refine⟨c.phs.push ?_ ?_ λi hi=>?_,λk h1 h2=>?_,λi hi=>?_⟩
 ·rw[ho,Own.ah]
 ·rw[ho,Own.af Sb,Own.ah]
 ·rw[ho,Own.af Sb,Own.af (by simp[Ao];omega)]
 ·rw[ho,Own.af h1,Own.af (h2 _)];exact c.fr k h1 h2
 rw[M3,M6]at hi;rw[ho,Own.af Sb,Own.af (by simp[Ao];omega)];exact c.fp i Q1
theorem CpI.push{l:List InsD}{p:InsD}(c:CpI K b o o' u iar l)(ho : ∀k,o2 k=((o'.upd (K+6,pr b l.length) (it T.int v p.args)).upd (K+2,b) (it T.dT u' (rows (inR iar l) l.length++[⟨p.op,p.dst,p.two,⟨v⟩,p.imm⟩]))) k):CpI K b o o2 u' (λi=>if i=l.length then v else iar i) (l++[p]):=by
 refine⟨c.ins.push ?_ ?_ λi hi=>?_,λk h1 h2=>?_,λi hi=>?_⟩
 ·rw[ho,Own.ah]
 ·rw[ho,Own.af Sb,Own.ah]
 ·rw[ho,Own.af Sb,Own.af (by simp[Ao];omega)]
 ·rw[ho,Own.af h1,Own.af (h2 _)];exact c.fr k h1 h2
 rw[M3,M6]at hi;rw[ho,Own.af Sb,Own.af (by simp[Ao];omega)];exact c.fi i Q1
end
theorem wQ{α:Type}[Inhabited α]{l:List α}{k:Nat}(h:k<l.length):l.take (k+1)=l.take k++[nth l k]:=by rw[Np h,ao h]
theorem zb(K b:Nat){l:List PhiD}{v:Value}{h:Heap}{o:Own}(w:Owns W h o)(hn : ∀k,OfB K b k->o k=QC)(ht : ∀k:Key,k.1=K+8->o k=QC)(hs:SlRd W v l)(hl:l.length<=10000)(hp : ∀i,i<l.length->(nth l i).ins.length<=10000):
  aw QH N.cB #[v,.func (.func N.di) #[] #[]] h (λu h'=>∃o' pin,Owns W h' o'/\CpP K b o o' u pin l):=by
 refine ak (args:=[v,.func (.func N.di) #[] #[]]) follows F.cB E.cB Q9 λKc hK=>?_;dsimp only[L.cB];refine ab λz hz=>?_;simp;subst hz;refine ab λz hz=>?_;simp;subst hz;refine ab λz hz=>?_;have s0:=hs.mono w.wle;simp[s0.len];have w1:=Owns.nils w (o':=o.upd (K+1,b) (it T.dY (QD QC 0 0) ([]:List PhO))) (λq i hq=>by
  by_cases e:q=(K+1,b)
  ·subst e;rw[Own.ah]at hq;cases hq;exact .inr ⟨rfl,OwnT.nil (α:=PhO) _ h T.dY⟩
  rw[Own.af e]at hq;exact .inl hq)
 have c1:CpP K b o (o.upd (K+1,b) (it T.dY (QD QC 0 0) ([]:List PhO))) (QD QC 0 0) (λ_=>QD QC 0 0) (l.take 0):=
  ⟨⟨Own.ah,λi hi=>absurd hi (Nw _)⟩,λk h1 _=>Own.af h1,λi _=>(Own.af Sb).trans (hn _ ofB5)⟩
 refine aJ [1,5,8,9,10] (fun(u:Value) k=>[.func (.func N.di) #[] #[],u,v,Qy Qz l.length,Qy Qz k]) (λu k h2=>∃o' pin,Owns W h2 o'/\CpP K b o o' u pin (l.take k)) l.length (QD QC 0 0)
  rfl Q1 rfl ⟨_,_,w1,c1⟩ (λ_ _=>rfl) (λu k h2 hk _=>by simp) ?_ ?_
 ·rintro u k h2 hk ⟨o2,pin,w2,c2⟩ K2 hK2;have hlk:(l.take k).length=k:=by rw[Ny];omega
  have s2:=hs.mono w2.wle;have ht2 : ∀q:Key,q.1=K+8->o2 q=none:=λq hq=>by rw[c2.fr q (by rintro rfl;simp at hq) (λi=>by rintro rfl;simp at hq)];exact ht q hq
  obtain⟨ux,hux,rux⟩:=hs.wh rfl (N:=2) rfl hk;refine ab λy hy=>?_;simp(disch:=omega)[s2.idxn (N:=2) rfl,hux _ w2.wle];refine w2.sL (k:=(K+8,1)) (α:=PhiD) (n:=2) (ht2 _ rfl) rux rfl (z:=zz4) Q0 rfl Q0 Q2 Q4 Q4 λh3 q3 w3=>?_;generalize h2.size=X at w3;obtain⟨uy,huy,ruy⟩:=Owns.ldW w3 (k:=(K+8,1)) (v:=QD (QB ⟨X,0,QC⟩) 1 1) (l:=[nth l k]) Own.ah rfl (N:=2) rfl (i:=0) Sb;have huy:Un.ev (vw h3) (.ax 2) (QT X)=QB uy:=by simpa[slA]using huy
  have ruy:Rd W uy (nth l k):=ruy;subst hy;simp[huy];refine cJ (ops:=[.tmp 16]) rfl Q0 (Fa K (K+5,pr b k) w3 ((Own.af Sb).trans (c2.fp k Q1)) Sb (λi hi=>(Own.af Q8).trans (ht2 _ rfl)) ruy (by have:=hp k hk;omega)) ?_;rintro _ h4 ⟨vn,rfl,hvn,hd,w4⟩;refine w4.iN (k:=(K+1,b)) (α:=PhO) (v:=u) (l:=rows (phR pin (l.take k)) (l.take k).length) (d:=⟨(nth l k).dst,⟨vn⟩⟩) (by rw[Own.af Sb,Own.af Sb];exact c2.phs.row) El.lQ rfl (J2 hd hvn) Q8 Q8 (λ_=>rfl) (λ_=>rfl) λu5 v5 h5 w5 _=>?_;refine hK2 v5 _ _ rfl rfl ⟨_,_,Owns.past w5 (o':=(o2.upd (K+5,pr b (l.take k).length) (it T.dK vn (nth l k).ins)).upd (K+1,b) (it T.dY v5 (rows (phR pin (l.take k)) (l.take k).length++[⟨(nth l k).dst,⟨vn⟩⟩]))) (P:=λq=>q=(K+8,1)) (λq hq=>?_) λq hq=>?_,by rw[wQ hk];exact c2.push λ_=>rfl⟩
  ·rw[hlk];by_cases e1:q=(K+1,b)
   ·subst e1;rw[Own.ah,Own.ah]
   rw[Own.af e1,Own.af e1];by_cases e2:q=(K+5,pr b k)
   ·subst e2;rw[Own.ah,Own.ah]
   rw[Own.af e2,Own.af e2,Own.af hq]
  subst hq;rw[Own.af Sb,Own.af Sb];exact ht2 _ rfl
 rintro u h2 ⟨o2,pin,w2,c2⟩;rw[NQ]at c2;rw[bS,hz];clear hz z;simp;exact hK _ _ ⟨o2,pin,w2,c2⟩
theorem zM(K b:Nat){l:List InsD}{v:Value}{h:Heap}{o:Own}(w:Owns W h o)(hn : ∀i,o (K+6,pr b i)=QC)(ht : ∀k:Key,k.1=K+8->o k=QC)(hs:SlRd W v l)(hl:l.length<=10000)(hp : ∀i,i<l.length->(nth l i).args.length<=10000):
  aw QH N.cC #[v,.func (.func N.dg) #[] #[]] h (λu h'=>∃o' iar,Owns W h' o'/\CpI K b o o' u iar l):=by
 refine ak (args:=[v,.func (.func N.dg) #[] #[]]) follows F.cC E.cC Q9 λKc hK=>?_;dsimp only[L.cC];refine ab λz hz=>?_;simp;subst hz;refine ab λz hz=>?_;simp;subst hz;refine ab λz hz=>?_;have s0:=hs.mono w.wle;simp[s0.len];have w1:=Owns.nils w (o':=o.upd (K+2,b) (it T.dT (QD QC 0 0) ([]:List InO))) (λq i hq=>by
  by_cases e:q=(K+2,b)
  ·subst e;rw[Own.ah]at hq;cases hq;exact .inr ⟨rfl,OwnT.nil (α:=InO) _ h T.dT⟩
  rw[Own.af e]at hq;exact .inl hq)
 have c1:CpI K b o (o.upd (K+2,b) (it T.dT (QD QC 0 0) ([]:List InO))) (QD QC 0 0) (λ_=>QD QC 0 0) (l.take 0):=
  ⟨⟨Own.ah,λi hi=>absurd hi (Nw _)⟩,λk h1 _=>Own.af h1,λi _=>(Own.af Sb).trans (hn i)⟩
 refine aJ [1,5,8,9,10] (fun(u:Value) k=>[.func (.func N.dg) #[] #[],u,v,Qy Qz l.length,Qy Qz k]) (λu k h2=>∃o' iar,Owns W h2 o'/\CpI K b o o' u iar (l.take k)) l.length (QD QC 0 0)
  rfl Q1 rfl ⟨_,_,w1,c1⟩ (λ_ _=>rfl) (λu k h2 hk _=>by simp) ?_ ?_
 ·rintro u k h2 hk ⟨o2,iar,w2,c2⟩ K2 hK2;have hlk:(l.take k).length=k:=by rw[Ny];omega
  have s2:=hs.mono w2.wle;have ht2 : ∀q:Key,q.1=K+8->o2 q=none:=λq hq=>by rw[c2.fr q (by rintro rfl;simp at hq) (λi=>by rintro rfl;simp at hq)];exact ht q hq
  obtain⟨ux,hux,rux⟩:=hs.wh rfl (N:=5) rfl hk;refine ab λy hy=>?_;simp(disch:=omega)[s2.idxn (N:=5) rfl,hux _ w2.wle];refine w2.sL (k:=(K+8,1)) (α:=InsD) (n:=5) (ht2 _ rfl) rux rfl (z:=zz5) Q0 rfl Q0 Q2 Q4 Q4 λh3 q3 w3=>?_;generalize h2.size=X at w3;obtain⟨uy,huy,ruy⟩:=Owns.ldW w3 (k:=(K+8,1)) (v:=QD (QB ⟨X,0,QC⟩) 1 1) (l:=[nth l k]) Own.ah rfl (N:=5) rfl (i:=0) Sb;have huy:Un.ev (vw h3) (.ax 5) (QT X)=QB uy:=by simpa[slA]using huy
  have ruy:Rd W uy (nth l k):=ruy;subst hy;simp[huy];refine cJ (ops:=[.tmp 16]) rfl Q0 (Eb K (K+6,pr b k) w3 ((Own.af Sb).trans (c2.fi k Q1)) Sb (λi hi=>(Own.af Q8).trans (ht2 _ rfl)) ruy (by have:=hp k hk;omega)) ?_;rintro _ h4 ⟨vn,rfl,hvn,hd,w4⟩;refine w4.iN (k:=(K+2,b)) (α:=InO) (v:=u) (l:=rows (inR iar (l.take k)) (l.take k).length) (d:=⟨(nth l k).op,(nth l k).dst,(nth l k).two,⟨vn⟩,(nth l k).imm⟩) (by rw[Own.af Sb,Own.af Sb];exact c2.ins.row) El.ni rfl (KT hd hvn) Q8 Q8 (λ_=>rfl) (λ_=>rfl) λu5 v5 h5 w5 _=>?_;refine hK2 v5 _ _ rfl rfl ⟨_,_,Owns.past w5 (o':=(o2.upd (K+6,pr b (l.take k).length) (it T.int vn (nth l k).args)).upd (K+2,b) (it T.dT v5 (rows (inR iar (l.take k)) (l.take k).length++[⟨(nth l k).op,(nth l k).dst,(nth l k).two,⟨vn⟩,(nth l k).imm⟩]))) (P:=λq=>q=(K+8,1)) (λq hq=>?_) λq hq=>?_,by rw[wQ hk];exact c2.push λ_=>rfl⟩
  ·rw[hlk];by_cases e1:q=(K+2,b)
   ·subst e1;rw[Own.ah,Own.ah]
   rw[Own.af e1,Own.af e1];by_cases e2:q=(K+6,pr b k)
   ·subst e2;rw[Own.ah,Own.ah]
   rw[Own.af e2,Own.af e2,Own.af hq]
  subst hq;rw[Own.af Sb,Own.af Sb];exact ht2 _ rfl
 rintro u h2 ⟨o2,iar,w2,c2⟩;rw[NQ]at c2;rw[bS,hz];clear hz z;simp;exact hK _ _ ⟨o2,iar,w2,c2⟩
end Go.Lft
