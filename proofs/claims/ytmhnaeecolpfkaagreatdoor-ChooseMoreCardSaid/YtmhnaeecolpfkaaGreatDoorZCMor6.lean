/- A part of the proof: Vb, Vc, Tk, Om, On, Ja. -/
import Derived.Test.YtmhnaeecolpfkaaGreatDoorZCMor5
import Derived.Laws.BytesArg
set_option linter.unusedSimpArgs false
set_option linter.unusedVariables false
open Go.Value renaming int->VB,slice->VG,pointer->VH
open Go.IntKind renaming i64->VC,i32->VD
open Option renaming some->VE,none->VF
open Bool renaming true->VI,false->VJ
open Go.Proofs.Tryz renaming prog->VK
open Go.Proofs
namespace Go.Lft
structure Tt (n k c:Nat) (x:TgS):Prop where
 len:x.1.length=n
 row : ∀i,(nth x.1 i).length<=c
 rng : ∀i,∀v∈nth x.1 i,1<=v/\v<n
 way : ∀b:Nat,1<=b->b<=k->∃a,a<b/\(b:Int)∈nth x.1 a
section
variable {s:List Int} {n k c:Nat} {x:TgS}
variable{b:Nat}
theorem tf{p:Nat}{m:MS}(hp:p<x.1.length)(i:Nat):nth (nf x p b m).1 i=if p=i then nth x.1 p++[(b:Int)] else nth x.1 i:=by
 show nth (x.1.set p _) i=_;rcases RX i x.1.length with hl | hl
 ·rw[bj hl]
 rw[bH (by simpa using hl),if_neg V4,bH hl]
theorem Tt.put(h:Tt n k c x){p:Nat}{m:MS}(hp:p<n)(h1:1<=b)(hb:b<n):Tt n k (c+1) (nf x p b m)/\(b:Int)∈nth (nf x p b m).1 p:=by
 have hp':p<x.1.length:=by rw[h.len];exact hp
 refine⟨⟨wQ.trans h.len,λi=>?_,λi v hv=>?_,λd h1 h2=>?_⟩,by rw[tf hp',if_pos rfl];exact SE _ (RR.2 rfl)⟩
 ·rw[tf hp'];split
  ·rw[RZ,Sp];have:=h.row p;omega
  have:=h.row i;omega
 ·rw[tf hp']at hv;split at hv
  ·rcases RW.1 hv with hv | hv
   ·exact h.rng _ v hv
   rw[RR.1 hv];omega
  exact h.rng _ v hv
 obtain⟨a,h3,h4⟩:=h.way d h1 h2;refine⟨a,h3,?_⟩;rw[tf hp'];split
 ·rename_i e;subst e;exact SA _ h4
 exact h4
theorem Tt.tgA (h:Tt n k c x) (hk:k+1<n):Tt n (k+1) (c+1) (tgA s k x):=by
 have key : ∀{p:Nat} {m:MS},p<=k->Tt n (k+1) (c+1) (nf x p (k+1) m):=fun{p m} hp=>by
  obtain⟨h1,h2⟩:=h.put (p:=p) (b:=k+1) (m:=m) V4 V4 hk;refine⟨h1.len,h1.row,h1.rng,λb hb1 hb2=>?_⟩;rcases RX k b with q | q
  ·have:b=k+1:=by omega
   subst this;exact⟨p,by omega,h2⟩
  exact h1.way b hb1 q
 unfold Go.Lft.tgA;split
 ·have:=bT (s:=s) (at_:=x.2.at_+1) (n:=((k+1:Nat):Int)) V4;exact key V4
 exact key (RQ _)
theorem Tt.tgI (h:Tt n k c x) {b:Nat} (hb:b<n) (hn:1<n):Tt n k (c+1) (tgI s n b x):=by
 have:=bT (s:=s) (at_:=x.2.at_) (n:=(n:Int)-1) V4;unfold Go.Lft.tgI;simp only;repeat' split
 ·exact(h.put V4 V4 V4).1
 ·exact(h.put V4 V4 V4).1
 exact(h.put V4 V4 V4).1
theorem Tt.upI (h:Tt n k c x) {b:Nat} (hb:b<n) (hn:1<n) : ∀j,Tt n k (c+j) (up (λ_=>Go.Lft.tgI s n b) j x)
 | 0=>h
 | j+1=>(Tt.upI h hb hn j).tgI hb hn
theorem Tt.mono{d:Nat}(h:Tt n k c x)(hd:c<=d):Tt n k d x:=⟨h.len,λi=>Sk (h.row i) hd,h.rng,h.way⟩
theorem Tt.tgB (h:Tt n k c x) {b:Nat} (hb:b<n):Tt n k (c+2) (tgB s n b x):=by
 unfold Go.Lft.tgB;have h0:Tt n k c (x.1,x.2.took):=⟨h.len,h.row,h.rng,h.way⟩;by_cases hn:1<n
 ·rw[if_pos hn];have:=bT (s:=s) (at_:=x.2.at_) (n:=6) V6;exact(h0.upI hb hn _).mono V4
 rw[if_neg hn];exact h0.mono V4
theorem Tt.upB (h:Tt n k c x) : ∀j,j<=n->Tt n k (c+2*j) (up (Go.Lft.tgB s n) j x)
 | 0,_=>h
 | j+1,hj=>(Tt.upB h j V4).tgB V4
theorem Tt.upA (h:Tt n 0 c x) : ∀j,j<n->Tt n j (c+j) (up (Go.Lft.tgA s) j x)
 | 0,_=>h
 | j+1,hj=>(Tt.upA h j V4).tgA hj
theorem Cr:Tt (aS s) (aS s-1) 26 (ft s):=by
 obtain⟨h1,h2⟩:=fJ (s:=s);have e : ∀i,nth (List.replicate (aS s) ([]:List Int)) i=[]:=λi=>by
  rcases RX i (aS s)with hi | hi
  ·rw[aD hi]
  rw[bH (by simpa using hi)];rfl
 have t0:Tt (aS s) 0 0 (List.replicate (aS s) ([]:List Int),yi s):=⟨by simp,λi=>by rw[e];exact RQ _,λi v hv=>by{ rw[e]at hv;cases hv },λb h1 h2=>by omega⟩;exact((t0.upA (s:=s) (aS s-1) V4).upB (s:=s) (aS s) (RQ _)).mono V4
end
structure Gt (n:Nat) (to:List (List Int)) (m:MS):Prop where
 len:m.blocks.length=n
 to : ∀j,j<n->(nth m.blocks j).term.to=nth to j
section
variable {s:List Int} {n:Nat} {to:List (List Int)} {m m':MS} {b:Nat}
theorem Gt.ext(g:Gt n to m)(e:Ext m m'):Gt n to m':=⟨e.len.trans g.len,λj hj=>(e.to j).trans (g.to j hj)⟩
theorem I8{l:List Int}{j:Nat}(hb:b<m.blocks.length):nth (m.jZ b l).blocks j=if b=j then{ nth m.blocks b with term:={ (nth m.blocks b).term with to:=l } } else nth m.blocks j:=by
 show nth (m.blocks.set b _) j=_;rcases RX j m.blocks.length with hl | hl
 ·rw[bj hl]
 rw[bH (by simpa using hl),if_neg V4,bH hl]
theorem DC {m0:MS} (hl:m0.blocks=List.replicate n rY) : ∀k,k<=n->(up (λb m=>MS.jZ m b (nth to b)) k m0).blocks.length=n/\(∀j,j<n->nth (up (λb m=>MS.jZ m b (nth to b)) k m0).blocks j=⟨[],[],⟨0,[],if j<k then nth to j else[],⟨0⟩⟩⟩)/\(up (λb m=>MS.jZ m b (nth to b)) k m0).ps=m0.ps/\(up (λb m=>MS.jZ m b (nth to b)) k m0).next=m0.next
 | 0,_=>⟨by show m0.blocks.length=n;rw[hl,SI],λj hj=>by show nth m0.blocks j=_;rw[hl,aD hj,if_neg V4];rfl,rfl,rfl⟩
 | k+1,hk=>by
  obtain⟨h1,h2,h3,h4⟩:=DC hl k V4;refine⟨?_,λj hj=>?_,h3,h4⟩
  ·show(List.set _ _ _).length=n;rw[Sv];exact h1
  show nth (MS.jZ _ k (nth to k)).blocks j=_;rw[I8 (by rw[h1];omega),h2 k V4,h2 j hj];by_cases e:k=j
  ·subst e;rw[if_pos rfl,if_pos (Nat.lt_succ_self _)]
  rw[if_neg e];by_cases h:j<k
  ·rw[if_pos h,if_pos V4]
  rw[if_neg h,if_neg V4]
theorem EE:(ni s).blocks.length=aS s/\(∀j,j<aS s->nth (ni s).blocks j=⟨[],[],⟨0,[],nth (ft s).1 j,⟨0⟩⟩⟩)/\(ni s).ps=aH s 0 5/\(ni s).next=aH s 0 5:=by have e:=uU (s:=s);obtain⟨h1,h2,h3,h4⟩:=DC (n:=aS s) (to:=(ft s).1) (m0:={ (ft s).2 with blocks:=List.replicate (aS s) rY }) rfl (aS s) (RQ _);exact⟨h1,λj hj=>by have:=h2 j hj;rw[if_pos hj]at this;exact this,h3.trans e.1,h4.trans e.2.2.1⟩
theorem ON{l:List BlkD}(h0:0<l.length)(h : ∀b:Nat,1<=b->b<l.length->∃a,a<b/\(b:Int)∈(nth l a).term.to): ∀b,b<l.length->Re (ofG l) (-1) b:=by
 intro b;induction b using Nat.strongRecOn with
 | ind b ih=>
  intro hb;rcases SQ b with rfl | hp
  ·exact .root (by rw[nu];exact hb) V6
  obtain⟨a,ha,hm⟩:=h b hp hb;refine .step (ih a ha V4) ?_ V4;rw[qg];exact⟨⟨by omega,by omega,by omega,by omega⟩,by rw[Si];exact hm⟩
theorem KR{l:List BlkD}{dn:BL}(hw : ∀b,b<l.length->Re (ofG l) (-1) b){b:Nat}(hb:b<l.length)(hd:nth dn b=VJ): ∃x,x<l.length/\nth dn x=VJ/\∀a,a<l.length->a=x\/nth dn a=VI\/Re (ofG l) (a:Int) x:=by
  have key : ∀{b:Nat},Re (ofG l) (-1) b->(∃x,x<l.length/\nth dn x=VJ/\∀a,a<l.length->a=x\/nth dn a=VI\/Re (ofG l) (a:Int) x)\/(nth dn b=VI/\∀a,a<l.length->nth dn a=VJ->Re (ofG l) (a:Int) b):=by
    intro b h
    induction h with
    | root h0 _=>
      cases e:nth dn 0 with
      | true=>exact .inr ⟨rfl,λa _ ha=>.root h0 (by
                                                            rintro h;have:a=0:=by omega
                                                            subst this;rw[e]at ha;cases ha)⟩
      | false=>exact .inl ⟨0,by rw[nu]at h0;exact h0,e,λa _=>by
          rcases SQ a with q | q
          · exact .inl q
          · exact .inr (.inr (.root h0 V4))⟩
    | @step a b ha he _ ih=>
      rcases ih with ih | ⟨ih1,ih2⟩
      · exact .inl ih
      have hlb:=(qg.1 he).1
      cases e:nth dn b with
      | true=>exact .inr ⟨rfl,λc hc h=>.step (ih2 c hc h) he (by
                                                                         rintro q;have:b=c:=by omega
                                                                         subst this;rw[e]at h;cases h)⟩
      | false=>
        refine .inl ⟨b,by omega,e,λc hc=>?_⟩
        rcases Nat.decEq c b with q | q
        · cases e2:nth dn c with
          | true=>exact .inr (.inl rfl)
          | false=>exact .inr (.inr (.step (ih2 c hc e2) he V4))
        · exact .inl q
  rcases key (hw b hb)with h | ⟨h,_⟩
  · exact h
  · rw[hd]at h;cases h
theorem qo{j:Nat}(hb:b<m.blocks.length):nth (dD b m).blocks j=if b=j then{ nth m.blocks b with phis:=(nth m.blocks b).phis++[⟨m.next,[]⟩] } else nth m.blocks j:=by
 show nth (m.blocks.set b _) j=_;rcases RX j m.blocks.length with hl | hl
 ·rw[bj hl]
 rw[bH (by simpa using hl),if_neg V4,bH hl]
structure P0 (n:Nat) (to:List (List Int)) (m:MS):Prop where
 gt:Gt n to m
 ok:Ok m
 none : ∀j,j<n->(nth m.blocks j).ins=[]
theorem NO{x:BlkD}{v:Int}(h:x.ins=[]):mkB { x with phis:=x.phis++[⟨v,[]⟩] }=mkB x++[v]:=by unfold mkB;simp[h]
theorem P0.dD (q:P0 n to m) (hb:b<n):P0 n to (dD b m):=by
 have hbl:b<m.blocks.length:=by rw[q.gt.len];exact hb
 have hl:(Go.Lft.dD b m).blocks.length=m.blocks.length:=Sv;have hlen:=q.gt.len;have e:Ext m (Go.Lft.dD b m):=by
  refine⟨rfl,hl,λj=>?_,λj=>?_,λj=>?_⟩<;>rw[qo hbl]<;>split
  ·rename_i e;rw[e]
  ·rfl
  ·rename_i e;rw[<-e];intro v hv;show v∈(List.map PhiD.dst ((nth m.blocks b).phis++[_]));rw[Tw];exact SA _ hv
  ·exact λ_ h=>h
  ·rename_i e;rw[e];exact⟨[],by simp⟩
  exact⟨[],by simp⟩
 have hin : ∀j,(nth (Go.Lft.dD b m).blocks j).ins=(nth m.blocks j).ins:=λj=>by
  rw[qo hbl];split
  ·rename_i e;rw[e]
  rfl
 have htm : ∀j,(nth (Go.Lft.dD b m).blocks j).term=(nth m.blocks j).term:=λj=>by
  rw[qo hbl];split
  ·rename_i e;rw[e]
  rfl
 have hmk : ∀j,j<n->mkB (nth (Go.Lft.dD b m).blocks j)=if b=j then mkB (nth m.blocks j)++[m.next] else mkB (nth m.blocks j):=λj hj=>by
  rw[qo hbl];split
  ·rename_i e;rw[NO (q.none b hb),e]
  rfl
 have k:=q.ok;refine⟨q.gt.ext e,⟨k.p0,by have:=k.pn;show m.ps<=m.next+1;omega,λc hc=>?_,λc hc=>?_,λc d hc hd hcd=>?_,λc hc=>?_,λc hc i hi=>?_,λc hc v hv=>?_⟩,λj hj=>by rw[hin];exact q.none j hj⟩<;>rw[hl]at hc
 ·rw[hin];exact k.op c hc
 ·rw[hmk c V4];split
  ·refine SX.2 ⟨k.nd c hc,by simp,λx hx y hy=>?_⟩;have:=(k.rg c hc x hx).2;have:=RR.1 hy;omega
  exact k.nd c hc
 ·rw[hl]at hd;rw[hmk c V4,hmk d V4];intro v hv hv';have h1:v∈mkB (nth m.blocks c)\/(b=c/\v=m.next):=by
   split at hv
   ·rcases RW.1 hv with h | h
    ·exact .inl h
    exact .inr ⟨‹_›,RR.1 h⟩
   exact .inl hv
  have h2:v∈mkB (nth m.blocks d)\/(b=d/\v=m.next):=by
   split at hv'
   ·rcases RW.1 hv' with h | h
    ·exact .inl h
    exact .inr ⟨‹_›,RR.1 h⟩
   exact .inl hv'
  rcases h1 with h1 | ⟨h1,h1'⟩
  ·rcases h2 with h2 | ⟨h2,h2'⟩
   ·exact k.dj c d hc hd hcd v h1 h2
   have:=(k.rg c hc v h1).2;omega
  rcases h2 with h2 | ⟨h2,h2'⟩
  ·have:=(k.rg d hd v h2).2;omega
  exact hcd (h1.symm.trans h2)
 ·rw[hmk c V4];intro v hv;have h1:v∈mkB (nth m.blocks c)\/v=m.next:=by
   split at hv
   ·rcases RW.1 hv with h | h
    ·exact .inl h
    exact .inr (RR.1 h)
   exact .inl hv
  show m.ps<=v/\v<m.next+1;rcases h1 with h1 | h1
  ·have:=k.rg c hc v h1;omega
  have:=k.pn;omega
 ·rw[hin,q.none c V4]at hi;exact absurd hi (Tx _)
 rw[htm]at hv;exact(k.tm c hc v hv).end e
theorem P0.took (q:P0 n to m):P0 n to m.took:=⟨⟨q.gt.len,q.gt.to⟩,q.ok.at (SW _),q.none⟩
theorem P0.nk (q:P0 n to m) (hb:b<n) : ∀k,P0 n to (up (λ_=>Go.Lft.dD b) k m)/\(up (λ_=>Go.Lft.dD b) k m).next=m.next+k
 | 0=>⟨q,by show m.next=m.next+((0:Nat):Int);omega⟩
 | k+1=>by obtain⟨h1,h2⟩:=P0.nk q hb k;refine⟨h1.dD hb,?_⟩;show(up (λ_=>Go.Lft.dD b) k m).next+1=_;rw[h2];omega
theorem P0.phis {lp:List Int} (q:P0 n to m) : ∀k,k<n->P0 n to (up (dL s) k (lp,m)).2/\(up (dL s) k (lp,m)).2.next<=m.next+3*k/\nth (up (dL s) k (lp,m)).1 0=nth lp 0
 | 0,_=>⟨q,by show m.next<=_;omega,rfl⟩
 | k+1,hk=>by
  obtain⟨h1,h2,h3⟩:=P0.phis (lp:=lp) q k V4;have e:up (dL s) (k+1) (lp,m)=dL s k (up (dL s) k (lp,m)):=rfl;rw[e];generalize up (dL s) k (lp,m)=y at h1 h2 h3;obtain⟨c0,c1⟩:=qW (s:=s) (m:=y.2) (b:=k+1);obtain⟨h4,h5⟩:=h1.took.nk (b:=k+1) hk (iu s y.2 (k+1)).toNat;refine⟨h4,?_,?_⟩
  ·show(up (λ_=>Go.Lft.dD (k+1)) (iu s y.2 (k+1)).toNat y.2.took).next<=_;rw[h5];show y.2.next+_<=_;omega
  show nth (y.1.set (k+1) _) 0=_;rcases RX 0 y.1.length with hl | hl
  ·rw[bj hl,if_neg V4];exact h3
  rw[bH (by simpa using hl),<-h3,bH hl]
theorem JG:P0 (aS s) (ft s).1 (ni s):=by
 obtain⟨h1,h2,h3,h4⟩:=EE (s:=s);have t:=bT (s:=s) (at_:=0) (n:=5) V6;refine⟨⟨h1,λj hj=>by rw[h2 j hj]⟩,⟨by rw[h3];omega,by rw[h3,h4];omega,λb hb=>?_,λb hb=>?_,λa b ha hb _=>?_,λb hb=>?_,λb hb i hi=>?_,λb hb=>?_⟩,λj hj=>by rw[h2 j hj]⟩<;>rw[h1]at *
 ·rw[h2 b hb];intro i hi;cases hi
 ·rw[h2 b hb];exact TS
 ·rw[h2 a ha];intro v hv;cases hv
 ·rw[h2 b hb];intro v hv;cases hv
 ·rw[h2 b hb]at hi;exact absurd hi (Tx _)
 rw[h2 b hb];intro v hv;cases hv
theorem Ee:P0 (aS s) (ft s).1 (gJ s).2/\(gJ s).2.next<=28/\nth (gJ s).1 0=0:=by
 obtain⟨h1,h2⟩:=fJ (s:=s);obtain⟨q1,q2,q3⟩:=(JG (s:=s)).phis (s:=s) (lp:=List.replicate (aS s) 0) (aS s-1) V4;have t:=bT (s:=s) (at_:=0) (n:=5) V6;have e:=(EE (s:=s)).2.2.2;refine⟨q1,?_,?_⟩
 ·show(up (dL s) (aS s-1) (List.replicate (aS s) 0,ni s)).2.next<=28;omega
 show nth (up (dL s) (aS s-1) (List.replicate (aS s) 0,ni s)).1 0=0;rw[q3,aD V4]
def cnt0:BL->Nat
 | []=>0
 | a::l=>(if a=VI then 0 else 1)+cnt0 l
theorem nT{α:Type}[Inhabited α]{a:α}{l:List α}{j:Nat}:nth (a::l) (j+1)=nth l j:=by simp[nth]
theorem HE : ∀{l l':BL},l.length=l'.length->(∀j,j<l.length->nth l j=VI->nth l' j=VI)->cnt0 l'<=cnt0 l
 | [],[],_,_=>RQ _
 | a::l,a'::l',hl,h=>by
  have h1:=HE (l:=l) (l':=l') (by simpa using hl) λj hj=>by have:=h (j+1) (by simpa using hj);rwa [nT,nT]at this
  have h2:a=VI->a'=true:=h 0 V5;unfold cnt0;cases a<;>cases a'<;>simp_all<;>omega
theorem CW : ∀{l l':BL},l.length=l'.length->(∀j,j<l.length->nth l j=VI->nth l' j=VI)->∀b,b<l.length->nth l b=VJ->nth l' b=VI->cnt0 l'<cnt0 l
 | [],[],_,_,b,hb,_,_=>absurd hb (Tx _)
 | a::l,a'::l',hl,h,b,hb,h0,h1=>by
  have hr : ∀j,j<l.length->nth l j=VI->nth l' j=true:=λj hj=>by have:=h (j+1) (by simpa using hj);rwa [nT,nT]at this
  have hll:l.length=l'.length:=by simpa using hl
  have h2:a=VI->a'=true:=h 0 V5;match b,hb,h0,h1 with
  | 0,_,h0,h1=>have h0:a=false:=h0;have h1:a'=true:=h1;have:=HE hll hr;unfold cnt0;rw[h0,h1];simp;omega
  | b+1,hb,h0,h1=>rw[nT]at h0 h1;have:=CW hll hr b (by simpa using hb) h0 h1;unfold cnt0;cases a<;>cases a'<;>simp_all<;>omega
theorem B0 : ∀{l:BL},cnt0 l=0->∀j,j<l.length->nth l j=VI
 | [],_,j,hj=>absurd hj (Tx _)
 | a::l,h,j,hj=>by
  unfold cnt0 at h;match j,hj with
  | 0,_=>show a=VI;cases a<;>simp_all
  | j+1,hj=>rw[nT];exact B0 V4 j (by simpa using hj)
theorem zf : ∀{l:BL},cnt0 l<=l.length
 | []=>RQ _
 | a::l=>by have:=zf (l:=l);unfold cnt0;rw[SP];split<;>omega
theorem AN {f:Nat->Bool} : ∀(n:Nat) (r:Bool),r=VI->(∀a,a<n->f a=VI)->up (λa r=>r&&f a) n r=VI
 | 0,r,h,_=>h
 | n+1,r,h,hf=>by show(up (λa r=>r&&f a) n r&&f n)=VI;rw[AN n r h λa ha=>hf a V4,hf n V4];rfl
theorem HC(hl:m.blocks.length=n){a:Nat}(ha:a<n)(hb:b<n):nth (nth (kS m.f n) a) b=VI↔Re (ofG m.blocks) (a:Int) b:=by unfold kS;rw[gC ha];exact gz (by show b<m.blocks.length;omega)
theorem Kz{dn:BL}(hl:m.blocks.length=n)(hb:b<n)(hd:nth dn b=VJ)(h : ∀a,a<n->a=b\/nth dn a=VI\/Re (ofG m.blocks) (a:Int) b):qO dn (kS m.f n) b n=true:=by
 unfold qO;refine AN n _ (by simp[hd]) λa ha=>?_;rcases h a ha with e | e | e
 ·simp[e]
 ·simp[e]
 simp[(HC hl ha hb).2 e]
theorem M0{dn:BL}(hp:0<=m.ps)(hl:m.blocks.length=n)(hb:b<n): ∀v∈nh m dn (kS m.f n) b n,Sd m b (nth m.blocks b).ins.length v:=by
 have key : ∀k,k<=n->∀v∈up (gTq m dn (kS m.f n) b) k (rows (λi=>(i:Int)) m.ps.toNat),Sd m b (nth m.blocks b).ins.length v:=by
  intro k;induction k with
  | zero=>intro _ v hv;obtain⟨i,hi,rfl⟩:=zD.1 hv;exact .inl V9
  | succ k ih=>
   intro hk v hv;have hv:v∈gTq m dn (kS m.f n) b k (up (gTq m dn (kS m.f n) b) k (rows (λi=>(i:Int)) m.ps.toNat)):=hv;unfold gTq at hv;split at hv
   ·exact ih V4 v hv
   rename_i hc;rw[Sc]at hv;rcases RW.1 hv with h1 | h1
   ·exact ih V4 v h1
   clear hv;rcases Nat.decEq k b with e | e
   ·refine .inr (.inr (.inr ⟨k,by omega,e,h1,λhr=>hc ?_⟩));rw[(HC hl V4 hb).2 hr];simp[e]
   subst e;rcases RW.1 h1 with h2 | h2
   ·exact .inr (.inl h2)
   refine .inr (.inr (.inl ?_));rw[SD];exact h2
 exact key n (RQ _)
theorem Ok.fB (q:In b m) {t:de} (ht:t.to=(nth m.blocks b).term.to) (ha : ∀v∈t.args,v∈m.live):Ok (m.fB b t)/\Ext m (m.fB b t):=by
 have hnth : ∀j,nth (m.fB b t).blocks j=if b=j then{ nth m.blocks b with term:=t } else nth m.blocks j:=λj=>by
  show nth (m.blocks.set b _) j=_;rcases RX j m.blocks.length with hl | hl
  ·rw[bj hl]
  have:=q.lt;rw[bH (by simpa using hl),if_neg V4,bH hl]
 have hl:(m.fB b t).blocks.length=m.blocks.length:=Sv;have hin : ∀j,(nth (m.fB b t).blocks j).ins=(nth m.blocks j).ins:=λj=>by
  rw[hnth];split
  ·rename_i e;rw[e]
  rfl
 have hph : ∀j,(nth (m.fB b t).blocks j).phis=(nth m.blocks j).phis:=λj=>by
  rw[hnth];split
  ·rename_i e;rw[e]
  rfl
 have e:Ext m (m.fB b t):=⟨rfl,hl,λj=>by
  rw[hnth];split
  ·rename_i e;rw[<-e];exact ht
  rfl,λj v h=>by rw[hph];exact h,λj=>⟨[],by rw[hin];simp⟩⟩;have hmk : ∀j,mkB (nth (m.fB b t).blocks j)=mkB (nth m.blocks j):=λj=>by unfold mkB;rw[hin,hph]
 have k:=q.ok;refine⟨⟨k.p0,k.pn,λc hc=>?_,λc hc=>?_,λc d hc hd=>?_,λc hc=>?_,λc hc i hi v hv=>?_,λc hc v hv=>?_⟩,e⟩<;>rw[hl]at hc
 ·rw[hin];exact k.op c hc
 ·rw[hmk];exact k.nd c hc
 ·rw[hl]at hd;rw[hmk,hmk];exact k.dj c d hc hd
 ·rw[hmk];exact k.rg c hc
 ·rw[hin]at hi hv;exact(k.tk c hc i hi v hv).ext e
 rw[hnth]at hv;split at hv
 ·rename_i e1;subst e1;exact(q.live v (ha v hv)).end e
 exact(k.tm c hc v hv).end e
structure D4 (n:Nat) (to:List (List Int)) (x:BL × MS):Prop where
 gt:Gt n to x.2
 ok:Ok x.2
 len:x.1.length=n
 term : ∀j,j<n->nth x.1 j=VI->lh (nth x.2.blocks j).term=VI
 emp : ∀j,j<n->nth x.1 j=VJ->(nth x.2.blocks j).ins.length=0
 ins : ∀j,j<n->(nth x.2.blocks j).ins.length<=45
 nx:x.2.next+45*(cnt0 x.1:Nat)<=28+45*n
theorem D4.step{x:BL × MS}(q:D4 n to x)(hb:b<n)(ht:(nth to b).length<=65):D4 n to (bo s to n b x)/\(∀j,nth x.1 j=VI->nth (bo s to n b x).1 j=VI)/\(qO x.1 (kS x.2.f n) b n=VI->nth (bo s to n b x).1 b=VI):=by
 unfold bo;have hlen:=q.gt.len;have hbl:b<x.2.blocks.length:=by rw[hlen];exact hb
 split
 ·rename_i hr;have hd:=pE hr;have hset : ∀j,nth (x.1.set b VI) j=if b=j then VI else nth x.1 j:=λj=>by
   have:=q.len;rcases RX j x.1.length with hl | hl
   ·rw[bj hl]
   rw[bH (by simpa using hl),if_neg V4,bH hl]
  generalize hdn:x.1.set b VI=dn at hset;have hdl:dn.length=n:=by rw[<-hdn,Sv];exact q.len
  have hmono : ∀j,nth x.1 j=VI->nth dn j=true:=λj hj=>by rw[hset];split<;>simp_all
  have hlt:cnt0 dn<cnt0 x.1:=CW (by rw[hdl];exact q.len) (λj _=>hmono j) b (by rw[q.len];exact hb) hd (by rw[hset,if_pos rfl]);refine⟨?_,hmono,λ_=>by rw[hset,if_pos rfl]⟩;generalize hm1:(MS.took { x.2 with live:=nh x.2 dn (kS x.2.f n) b n }:MS)=m1;have hB:m1.blocks=x.2.blocks:=by rw[<-hm1];rfl
  have hN:m1.next=x.2.next:=by rw[<-hm1];rfl
  have i1:In b m1:=by rw[<-hm1];exact⟨q.ok.at (SW _),hbl,M0 (m:=x.2) (dn:=dn) q.ok.p0 hlen hb⟩
  have tk:=bT (s:=s) (at_:=x.2.at_) (n:=7) V6;have w1:=i1.eV (s:=s) (aH s x.2.at_ 7).toNat;obtain⟨w2,t1,t2,t3⟩:=w1.inn.term (s:=s) ht;have g:=((Grw.refl (b:=b) (m:=m1)).eV (s:=s) i1.lt (aH s x.2.at_ 7).toNat).Ky (s:=s) (to:=nth to b) i1.lt;have w:=w1.trans w2;have eD:jJ s to n dn (kS x.2.f n) b x.2=py s (nth to b) b (up (λ_=>aN s b) (aH s x.2.at_ 7).toNat m1):=by rw[<-hm1];rfl
  rw[eD];unfold py;generalize e9 s (nth to b) b (up (λ_=>aN s b) (aH s x.2.at_ 7).toNat m1)=r at w2 t1 t2 t3 g w;have e0:Ext x.2 r.2:=by have e:=w.ext;exact⟨by rw[e.ps,<-hm1];rfl,by rw[e.len,hB],λj=>by rw[e.to,hB],λj v hv=>e.phis j v (by rw[hB];exact hv),λj=>by have:=e.ins j;rw[hB]at this;exact this⟩
  have gt2:=q.gt.ext e0;obtain⟨k1,k2⟩:=Ok.fB w2.inn (t:=r.1) (by rw[t2,gt2.to b hb]) t3;have hnth : ∀j,nth (r.2.fB b r.1).blocks j=if b=j then{ nth r.2.blocks b with term:=r.1 } else nth r.2.blocks j:=λj=>by
   show nth (r.2.blocks.set b _) j=_;have:=gt2.len;rcases RX j r.2.blocks.length with hl | hl
   ·rw[bj hl]
   rw[bH (by simpa using hl),if_neg V4,bH hl]
  have hels : ∀j,b≠j->nth (r.2.fB b r.1).blocks j=nth x.2.blocks j:=λj hj=>by rw[hnth,if_neg hj,g.els j (λe=>hj e.symm),hB]
  have hlen0:=q.emp b hb hd;refine⟨gt2.ext k2,k1,hdl,λj hj h=>?_,λj hj h=>?_,λj hj=>?_,?_⟩
  ·by_cases e:b=j
   ·show lh (nth (r.2.fB b r.1).blocks j).term=VI;rw[hnth,if_pos e];exact t1
   show lh (nth (r.2.fB b r.1).blocks j).term=VI;rw[hels j e];refine q.term j hj ?_;have h:nth dn j=true:=h;rw[hset,if_neg e]at h;exact h
  ·have h:nth dn j=false:=h;rw[hset]at h;split at h
   ·cases h
   rename_i e;show(nth (r.2.fB b r.1).blocks j).ins.length=0;rw[hels j e];exact q.emp j hj h
  ·show(nth (r.2.fB b r.1).blocks j).ins.length<=45;by_cases e:b=j
   ·rw[hnth,if_pos e];have:=w.ins;rw[hB]at this;show(nth r.2.blocks b).ins.length<=45;omega
   rw[hels j e];exact q.ins j hj
  show r.2.next+45*((cnt0 dn:Nat):Int)<=_;have:=w.nx;have:=q.nx;omega
 rename_i hr;exact⟨q,λj h=>h,λh=>absurd h hr⟩
theorem D4.upto {x:BL × MS} (q:D4 n to x) (ht : ∀j,(nth to j).length<=65) : ∀k,k<=n->D4 n to (up (bo s to n) k x)/\(∀j,nth x.1 j=VI->nth (up (bo s to n) k x).1 j=VI)/\(∀b,b<k->nth x.1 b=VJ->(∀a,a<n->a=b\/nth x.1 a=VI\/Re (ofG x.2.blocks) (a:Int) b)->nth (up (bo s to n) k x).1 b=VI)
 | 0,_=>⟨q,λj h=>h,λb hb=>absurd hb (Tx _)⟩
 | k+1,hk=>by
  obtain⟨h1,h2,h3⟩:=D4.upto q ht k V4;have e:up (bo s to n) (k+1) x=bo s to n k (up (bo s to n) k x):=rfl;rw[e];generalize up (bo s to n) k x=y at h1 h2 h3;obtain⟨h4,h5,h6⟩:=h1.step (s:=s) (b:=k) V4 (ht k);refine⟨h4,λj h=>h5 j (h2 j h),λb hb hd hr=>?_⟩;rcases RX b k with h | h
  ·exact h5 b (h3 b h hd hr)
  have:b=k:=by omega
  subst this;cases hy:nth y.1 b with
  | true=>exact h5 b hy
  | false=>
   refine h6 (Kz h1.gt.len V4 hy λa ha=>?_);rcases hr a ha with r | r | r
   ·exact .inl r
   ·exact .inr (.inl (h2 a r))
   refine .inr (.inr ?_);have eg:ofG y.2.blocks=ofG x.2.blocks:=by unfold ofG;rw[h1.gt.len,q.gt.len];refine List.map_congr_left λi hi=>?_;have hi:i<n:=Tq.1 hi;rw[h1.gt.to i hi,q.gt.to i hi]
   rw[eg];exact r
theorem D4.turn{x:BL × MS}(q:D4 n to x)(ht : ∀j,(nth to j).length<=65)(hw : ∀b,b<n->Re (ofG x.2.blocks) (-1) b):D4 n to (up (bo s to n) n x)/\(cnt0 (up (bo s to n) n x).1=0\/cnt0 (up (bo s to n) n x).1<cnt0 x.1):=by
 obtain⟨h1,h2,h3⟩:=q.upto (s:=s) ht n (RQ _);refine⟨h1,?_⟩;generalize up (bo s to n) n x=y at h1 h2 h3;by_cases hz : ∃b,b<n/\nth x.1 b=VJ
 ·obtain⟨b,hb,hd⟩:=hz;obtain⟨c,k1,k2,k3⟩:=KR (l:=x.2.blocks) (dn:=x.1) (λb hb=>hw b (by rw[q.gt.len]at hb;exact hb)) (b:=b) (by rw[q.gt.len];exact hb) hd;rw[q.gt.len]at k1 k3;exact .inr (CW (by rw[h1.len,q.len]) (λj _=>h2 j) c (by rw[q.len];exact k1) k2 (h3 c k1 k2 k3))
 refine .inl ?_;have : ∀{l:BL},(∀j,j<l.length->nth l j=VI)->cnt0 l=0:=fun{l}=>by
  induction l with
  | nil=>intro _;rfl
  | cons a l ih=>
   intro h;have h1:a=true:=h 0 V5;have h2:=ih λj hj=>by have:=h (j+1) (by simpa using hj);rwa [nT]at this
   unfold cnt0;rw[h1,h2];rfl
 refine this λj hj=>h2 j ?_;rw[h1.len]at hj;cases e:nth x.1 j with
 | true=>rfl
 | false=>exact absurd ⟨j,hj,e⟩ hz
theorem D4.turns {x:BL × MS} (q:D4 n to x) (ht : ∀j,(nth to j).length<=65) (hw : ∀{m:MS},Gt n to m->∀b,b<n->Re (ofG m.blocks) (-1) b) : ∀k,D4 n to (up (λ_=>up (bo s to n) n) k x)/\(cnt0 (up (λ_=>up (bo s to n) n) k x).1=0\/cnt0 (up (λ_=>up (bo s to n) n) k x).1+k<=n)
 | 0=>⟨q,.inr (by have:=zf (l:=x.1);rw[q.len]at this;exact this)⟩
 | k+1=>by
  obtain⟨h1,h2⟩:=D4.turns q ht hw k;have e:up (λ_=>up (bo s to n) n) (k+1) x=up (bo s to n) n (up (λ_=>up (bo s to n) n) k x):=rfl;rw[e];generalize up (λ_=>up (bo s to n) n) k x=y at h1 h2;obtain⟨h3,h4⟩:=h1.turn (s:=s) ht (hw h1.gt);refine⟨h3,?_⟩;rcases h4 with h4 | h4
  ·exact .inl h4
  rcases h2 with h2 | h2
  ·omega
  exact .inr V4
theorem K1{m:MS}(g:Gt (aS s) (ft s).1 m): ∀b,b<aS s->Re (ofG m.blocks) (-1) b:=by have t:=Cr (s:=s);obtain⟨h1,h2⟩:=fJ (s:=s);intro b hb;refine ON (by rw[g.len];omega) (λb h1 hb=>?_) b (by rw[g.len];exact hb);rw[g.len]at hb;obtain⟨a,ha,hm⟩:=t.way b h1 V4;exact⟨a,ha,by rw[g.to a V4];exact hm⟩
theorem Nn:D4 (aS s) (ft s).1 (pG s)/\∀j,j<aS s->nth (pG s).1 j=true:=by
 obtain⟨q,h1,h2⟩:=Ee (s:=s);have t:=Cr (s:=s);have hr : ∀j,nth (List.replicate (aS s) VJ) j=false:=λj=>by
  rcases RX j (aS s)with hl | hl
  ·rw[aD hl]
  rw[bH (by simpa using hl)];rfl
 have d0:D4 (aS s) (ft s).1 (List.replicate (aS s) VJ,(gJ s).2):=
  ⟨q.gt,q.ok,by simp,λj hj h=>by{ rw[hr]at h;cases h },λj hj _=>by{ show(nth (gJ s).2.blocks j).ins.length=0;rw[q.none j hj];rfl },λj hj=>by{ show(nth (gJ s).2.blocks j).ins.length<=45;rw[q.none j hj];exact To _ },by have:=zf (l:=List.replicate (aS s) VJ);rw[SI]at this;show(gJ s).2.next+45*((cnt0 (List.replicate (aS s) VJ):Nat):Int)<=_;omega⟩;obtain⟨h3,h4⟩:=d0.turns (s:=s) (λj=>by have:=t.row j;omega) (λg=>K1 g) (aS s);refine⟨h3,λj hj=>?_⟩;have h4:cnt0 (pG s).1=0\/cnt0 (pG s).1+aS s<=aS s:=h4;exact B0 V4 j (by rw[show(pG s).1.length=aS s from h3.len];exact hj)
end
section
variable {s:List Int} {n:Nat} {to:List (List Int)} {m m':MS} {b:Nat}
theorem tU{α:Type}[Inhabited α]{β:Type}{l:List α}{g:α->β}:rows (λi=>g (nth l i)) l.length=l.map g:=by
 refine TG V5 λi h1 h2=>?_;have hi:i<l.length:=by simpa using h2
 simp[rows,ay hi]
theorem CE{f:ak}:iK (thB f b)=mkB (nth f.blocks b):=by
 unfold thB iK mkB;rw[Tm,Tm];have e1:(rows (phiT f b) (nth f.blocks b).phis.length).flatMap Th.mks=(nth f.blocks b).phis.map PhiD.dst:=by
  rw[<-tU];unfold rows;rw[List.flatMap_map];show(List.range _).flatMap (λi=>[(nth (nth f.blocks b).phis i).dst])=_;generalize List.range _=l;induction l with
  | nil=>rfl
  | cons a l ih=>rw[TC,ih,S7];rfl
 have e2:(rows (insT f b) (nth f.blocks b).ins.length).flatMap Th.mks=(nth f.blocks b).ins.flatMap bg:=by have h:(nth f.blocks b).ins.map bg=rows (λi=>bg (nth (nth f.blocks b).ins i)) (nth f.blocks b).ins.length:=tU.symm;rw[show(nth f.blocks b).ins.flatMap bg=((nth f.blocks b).ins.map bg).flatten from rfl,h];unfold rows;rw[List.flatMap_map];rfl
 rw[e1,e2];simp[endT]
theorem Fp {f:ak} {v:Int} : ∀{k:Nat},v∈iK (thTo f k)↔∃b,b<k/\v∈mkB (nth f.blocks b)
 | 0=>⟨λh=>(by cases h),λ⟨b,h,_⟩=>absurd h (Tx _)⟩
 | k+1=>by
  rw[fR];unfold iK;rw[Tm,RW];have ih:=Fp (f:=f) (v:=v) (k:=k);unfold iK at ih;rw[ih];have e:=CE (f:=f) (b:=k);unfold iK at e;rw[e];constructor
  ·rintro(⟨b,h1,h2⟩ | h)
   ·exact⟨b,by omega,h2⟩
   exact⟨k,by omega,h⟩
  rintro⟨b,h1,h2⟩;rcases RX b k with h | h
  ·exact .inl ⟨b,h,h2⟩
  have:b=k:=by omega
  subst this;exact .inr h2
theorem AA {f:ak} (nd : ∀b,b<f.blocks.length->(mkB (nth f.blocks b)).Nodup) (dj : ∀a b,a<f.blocks.length->b<f.blocks.length->a≠b->∀v∈mkB (nth f.blocks a),v∉mkB (nth f.blocks b)) : ∀k,k<=f.blocks.length->(iK (thTo f k)).Nodup
 | 0,_=>TS
 | k+1,hk=>by
  rw[fR];have e:iK (thTo f k++thB f k)=iK (thTo f k)++mkB (nth f.blocks k):=by rw[<-CE];exact Tm
  rw[e];refine SX.2 ⟨AA nd dj k V4,nd k V4,λx hx y hy=>?_⟩;rintro rfl;obtain⟨b,h1,h2⟩:=Fp.1 hx;exact dj b k V4 V4 V4 x h2 hy
theorem PI{f:ak}(hb:b<f.blocks.length){v:Int}(hv:v∈mkB (nth f.blocks b)): ∃t∈aC f,v∈t.mks/\t.blk=b:=by
 rcases RW.1 hv with h | h
 ·obtain⟨p,hp,rfl⟩:=SV.1 h;obtain⟨i,hi,rfl⟩:=Sn hp;exact⟨phiT f b i,eu.2 ⟨b,hb,fE.2 (.inl ⟨i,hi,rfl⟩)⟩,by show _∈[_];rw[ay hi];exact RR.2 rfl,rfl⟩
 obtain⟨p,hp,h2⟩:=SS.1 h;obtain⟨i,hi,rfl⟩:=Sn hp;exact⟨insT f b i,eu.2 ⟨b,hb,fE.2 (.inr (.inl ⟨i,hi,rfl⟩))⟩,by show _∈bg _;rw[ay hi];exact h2,rfl⟩
theorem Lg{f:ak}{t:Th}{v:Int}(ht:t∈aC f)(hv:v∈t.mks): ∃b,b<f.blocks.length/\t.blk=b/\v∈mkB (nth f.blocks b):=by
 obtain⟨b,hb,hm⟩:=eu.1 ht;refine⟨b,hb,?_,?_⟩
 ·rcases fE.1 hm with⟨i,hi,rfl⟩ | ⟨i,hi,rfl⟩ | rfl<;>rfl
 rw[<-CE];exact SS.2 ⟨t,hm,hv⟩
theorem xF(hb:b<m.blocks.length){p:Nat}{v:Int}(h:Sd m b p v):sV m.f v b p:=by
 rcases h with h | h | h | ⟨a,h1,h2,h3,h4⟩
 ·exact .inl h
 ·obtain⟨q,hq,rfl⟩:=SV.1 h;obtain⟨i,hi,rfl⟩:=Sn hq;refine .inr ⟨phiT m.f b i,eu.2 ⟨b,hb,fE.2 (.inl ⟨i,hi,rfl⟩)⟩,?_,.inl ⟨rfl,.inl ?_⟩⟩
  ·show _∈[(nth (nth m.blocks b).phis i).dst];rw[ay hi];exact RR.2 rfl
  show(-1-(i:Int))<0;omega
 ·obtain⟨q,hq,h2⟩:=SS.1 h;obtain⟨i,hi,rfl⟩:=Sn hq;have hi2:i<p/\i<(nth m.blocks b).ins.length:=by rw[SG]at hi;omega
  rw[U5]at h2;refine .inr ⟨insT m.f b i,eu.2 ⟨b,hb,fE.2 (.inr (.inl ⟨i,hi2.2,rfl⟩))⟩,?_,.inl ⟨rfl,.inr ?_⟩⟩
  ·show _∈bg (nth (nth m.blocks b).ins i);rw[ay hi2.2];exact h2
  show((i:Nat):Int)<p;omega
 obtain⟨t,ht,h5,h6⟩:=PI (f:=m.f) h1 h3;refine .inr ⟨t,ht,h5,.inr ⟨by rw[h6];omega,?_⟩⟩;rw[h6,Si];exact h4
theorem DJ(hp:0<=m.ps)(hb:b<m.blocks.length){v:Int}(h:v∈gX m.f b):Sd m b (nth m.blocks b).ins.length v:=by
 have key : ∀(l:List Th) (o:List Int),(∀t∈l,t∈aC m.f)->(∀v∈o,Sd m b (nth m.blocks b).ins.length v)->∀v∈l.foldl (eB m.f b) o,Sd m b (nth m.blocks b).ins.length v:=by
  intro l;induction l with
  | nil=>intro o _ ho v hv;exact ho v hv
  | cons t l ih=>
   intro o hl ho v hv;rw[Su]at hv;refine ih _ (λx hx=>hl x (RU _ hx)) (λv hv=>?_) v hv;unfold eB at hv;split at hv
   ·rename_i ha;rcases RW.1 hv with hv | hv
    ·exact ho v hv
    obtain⟨a,h1,h2,h3⟩:=Lg (hl t R1) hv;rcases Nat.decEq a b with e | e
    ·refine .inr (.inr (.inr ⟨a,h1,e,h3,λhr=>?_⟩));unfold uZ at ha;rw[h2,(gz (f:=m.f) hb).2 hr]at ha;simp at ha;exact e V4
    subst e;rcases RW.1 h3 with h | h
    ·exact .inr (.inl h)
    refine .inr (.inr (.inl ?_));rw[SD];exact h
   exact ho v hv
 unfold gX at h;refine key _ _ (λt h=>h) (λv hv=>?_) v h;obtain⟨i,hi,rfl⟩:=zD.1 hv;have hi:i<m.ps.toNat:=hi;exact .inl V9
def PhOk (m:MS) (p:PhiD) (b:Nat):Prop:=p.ins.map InD.frm=aJ m.f b/\∀q∈p.ins,∃c:Nat,q.frm=c/\c<m.blocks.length/\Sd m c (nth m.blocks c).ins.length q.val
theorem sw(hl:m'.blocks.length=m.blocks.length)(h : ∀j,(nth m'.blocks j).term.to=(nth m.blocks j).term.to){b:Int}:aJ m'.f b=aJ m.f b:=by unfold aJ;rw[show m'.f.blocks.length=m.f.blocks.length from hl];congr 1;funext a;rw[show(nth m'.f.blocks a).term.to=(nth m.f.blocks a).term.to from h a]
theorem PhOk.ext{p:PhiD}(h:PhOk m p b)(e:Ext m m'):PhOk m' p b:=
 ⟨by rw[sw e.len e.to];exact h.1,λq hq=>by obtain⟨c,h1,h2,h3⟩:=h.2 q hq;exact⟨c,h1,by rw[e.len];exact h2,h3.end e⟩⟩
structure D5 (n c:Nat) (to:List (List Int)) (m:MS):Prop where
 gt:Gt n to m
 ok:Ok m
 term : ∀j,j<n->lh (nth m.blocks j).term=VI
 ins : ∀j,j<n->(nth m.blocks j).ins.length<=45+c
 nx:m.next<=433+c
theorem D5.mono{c d:Nat}(q:D5 n c to m)(h:c<=d):D5 n d to m:=⟨q.gt,q.ok,q.term,λj hj=>by have:=q.ins j hj;omega,by have:=q.nx;omega⟩
theorem D5.took {c:Nat} (q:D5 n c to m):D5 n c to m.took:=⟨⟨q.gt.len,q.gt.to⟩,q.ok.at (SW _),q.term,q.ins,q.nx⟩
theorem D5.constant {c:Nat} (q:D5 n c to m) (hb:b<n) {w:Int}:D5 n (c+1) to (m.constant b w)/\Ext m (m.constant b w)/\(∀j,(nth (m.constant b w).blocks j).phis=(nth m.blocks j).phis)/\Sd (m.constant b w) b (nth (m.constant b w).blocks b).ins.length m.next:=by
 have hlen:=q.gt.len;have hbl:b<m.blocks.length:=by rw[hlen];exact hb
 have e:m.constant b w=MS.add ⟨m.at_,m.ps,m.blocks,m.next+1,m.live⟩ b (conD m.next w):=rfl;have mk:bg (conD m.next w)=[m.next]:=rfl;have k:=q.ok.add (a:=m.at_) (nx:=m.next+1) (i:=conD m.next w) (l:=m.live) hbl V4 (by rw[mk];intro v hv;rw[RR.1 hv];omega) (by rw[mk];simp) ⟨rfl,λh=>absurd h (show(1:Int)≠16 by decide),λ_=>rfl⟩ (λv hv=>by cases hv);have ex:Ext m (m.constant b w):=(CK (m:=⟨m.at_,m.ps,m.blocks,m.next+1,m.live⟩) (i:=conD m.next w) hbl).frm rfl rfl;have hnth : ∀j,nth (m.constant b w).blocks j=if b=j then{ nth m.blocks b with ins:=(nth m.blocks b).ins++[conD m.next w] } else nth m.blocks j:=λj=>tF (m:=⟨m.at_,m.ps,m.blocks,m.next+1,m.live⟩) hbl;refine⟨⟨q.gt.ext ex,k,λj hj=>?_,λj hj=>?_,?_⟩,ex,λj=>?_,JE (m:=m) hbl (by rw[mk];exact RR.2 rfl)⟩
 ·rw[hnth];split
  ·exact q.term b hb
  exact q.term j hj
 ·have:=q.ins j hj;rw[hnth];split
  ·rename_i e1;subst e1;show((nth m.blocks b).ins++[_]).length<=_;rw[RZ,Sp];omega
  omega
 ·have:=q.nx;show m.next+1<=_;omega
 rw[hnth];split
 ·rename_i e1;rw[e1]
 rfl
theorem D5.row{c:Nat}(q:D5 n c to m)(hb:b<n):D5 n (c+1) to (rowS s b m).2/\Ext m (rowS s b m).2/\(∀j,(nth (rowS s b m).2.blocks j).phis=(nth m.blocks j).phis)/\∀v∈(rowS s b m).1,Sd (rowS s b m).2 b (nth (rowS s b m).2.blocks b).ins.length v:=by
 unfold rowS;split
 ·obtain⟨h1,h2,h3,h4⟩:=q.took.took.constant (w:=jY s m) hb;refine⟨h1,⟨h2.ps,h2.len,h2.to,h2.phis,h2.ins⟩,h3,λv hv=>?_⟩;rw[RR.1 hv];exact h4
 have hlen:=q.gt.len;exact⟨q.mono V4,.refl,λj=>rfl,λv hv=>DJ q.ok.p0 V4 hv⟩
theorem D5.ups {c:Nat} {p:List Int} (q:D5 n c to m) (hp : ∀k,k<p.length->∃a:Nat,nth p k=a/\a<n) : ∀k,k<=p.length->
  D5 n (c+k) to (up (cL s p) k ([],m)).2/\Ext m (up (cL s p) k ([],m)).2/\(∀j,(nth (up (cL s p) k ([],m)).2.blocks j).phis=(nth m.blocks j).phis)/\(up (cL s p) k ([],m)).1.map InD.frm=p.take k/\
   ∀r∈(up (cL s p) k ([],m)).1,∃a:Nat,r.frm=a/\a<n/\Sd (up (cL s p) k ([],m)).2 a (nth (up (cL s p) k ([],m)).2.blocks a).ins.length r.val
 | 0,_=>⟨q,.refl,λ_=>rfl,rfl,λr hr=>by cases hr⟩
 | k+1,hk=>by
  obtain⟨h1,h2,h3,h4,h5⟩:=D5.ups q hp k V4;obtain⟨a,ha,han⟩:=hp k V4;have e1:(up (cL s p) (k+1) ([],m)).2=(rowS s (nth p k).toNat (up (cL s p) k ([],m)).2).2.took:=rfl;have e2:(up (cL s p) (k+1) ([],m)).1=(up (cL s p) k ([],m)).1++[⟨nth p k,nth (rowS s (nth p k).toNat (up (cL s p) k ([],m)).2).1 (aH s (rowS s (nth p k).toNat (up (cL s p) k ([],m)).2).2.at_ (rowS s (nth p k).toNat (up (cL s p) k ([],m)).2).1.length).toNat⟩]:=rfl;rw[e1,e2];generalize up (cL s p) k ([],m)=y at h1 h2 h3 h4 h5;have hat:(nth p k).toNat=a:=by omega
  rw[hat];obtain⟨k1,k2,k3,k4⟩:=h1.row (s:=s) (b:=a) han;have hpos:=EZ (s:=s) (b:=a) (m:=y.2);generalize rowS s a y.2=r at k1 k2 k3 k4 hpos;refine⟨k1.took,h2.trans ⟨k2.ps,k2.len,k2.to,k2.phis,k2.ins⟩,λj=>(k3 j).trans (h3 j),?_,λt ht=>?_⟩
  ·rw[Tw,h4,Se V4];show p.take k++[nth p k]=_;rw[ay V4]
  rcases RW.1 ht with ht | ht
  ·obtain⟨d,d1,d2,d3⟩:=h5 t ht;exact⟨d,d1,d2,d3.end k2⟩
  rw[RR.1 ht];refine⟨a,ha,han,k4 _ (aX ?_)⟩;have:=bT (s:=s) (at_:=r.2.at_) (n:=(r.1.length:Int)) V4;omega
theorem Bw{i j:Nat}{l:List InD}(hb:b<m.blocks.length):nth (m.jT b i l).blocks j=if b=j then{ nth m.blocks b with phis:=(nth m.blocks b).phis.set i { nth (nth m.blocks b).phis i with ins:=l } } else nth m.blocks j:=by
 show nth (m.blocks.set b _) j=_;rcases RX j m.blocks.length with hl | hl
 ·rw[bj hl]
 rw[bH (by simpa using hl),if_neg V4,bH hl]
theorem Ng{l:List PhiD}{i:Nat}{x:List InD}:(l.set i { nth l i with ins:=x }).map PhiD.dst=l.map PhiD.dst:=by
 refine TG V5 λj h1 h2=>?_;have hj:j<l.length:=by simpa using h2
 rw[Vd,Vd,Ve];split
 ·rename_i e;subst e;rw[ay hj]
 rfl
theorem D5.jT {c i:Nat} {l:List InD} (q:D5 n c to m) (hb:b<n):D5 n c to (m.jT b i l)/\Ext m (m.jT b i l):=by
 have hlen:=q.gt.len;have hbl:b<m.blocks.length:=by omega
 have hnth : ∀j,nth (m.jT b i l).blocks j=_:=λj=>Bw (i:=i) (l:=l) hbl;have hl:(m.jT b i l).blocks.length=m.blocks.length:=Sv;have hin : ∀j,(nth (m.jT b i l).blocks j).ins=(nth m.blocks j).ins:=λj=>by
  rw[hnth];split
  ·rename_i e;rw[e]
  rfl
 have htm : ∀j,(nth (m.jT b i l).blocks j).term=(nth m.blocks j).term:=λj=>by
  rw[hnth];split
  ·rename_i e;rw[e]
  rfl
 have hph : ∀j,(nth (m.jT b i l).blocks j).phis.map PhiD.dst=(nth m.blocks j).phis.map PhiD.dst:=λj=>by
  rw[hnth];split
  ·rename_i e;rw[<-e];exact Ng
  rfl
 have hmk : ∀j,mkB (nth (m.jT b i l).blocks j)=mkB (nth m.blocks j):=λj=>by unfold mkB;rw[hin,hph]
 have e:Ext m (m.jT b i l):=⟨rfl,hl,λj=>by rw[htm],λj v h=>by rw[hph];exact h,λj=>⟨[],by rw[hin];simp⟩⟩;have k:=q.ok;refine⟨⟨q.gt.ext e,⟨k.p0,k.pn,λc hc=>?_,λc hc=>?_,λc d hc hd=>?_,λc hc=>?_,λc hc i hi v hv=>?_,λc hc v hv=>?_⟩,λj hj=>by rw[htm];exact q.term j hj,λj hj=>by rw[hin];exact q.ins j hj,q.nx⟩,e⟩<;>rw[hl]at hc
 ·rw[hin];exact k.op c hc
 ·rw[hmk];exact k.nd c hc
 ·rw[hl]at hd;rw[hmk,hmk];exact k.dj c d hc hd
 ·rw[hmk];exact k.rg c hc
 ·rw[hin]at hi hv;exact(k.tk c hc i hi v hv).ext e
 rw[htm]at hv;exact(k.tm c hc v hv).end e
theorem Ib{k:Nat}{b:Int}(hk:k<(aJ m.f b).length): ∃a:Nat,nth (aJ m.f b) k=a/\a<m.blocks.length:=Aa _ k hk
theorem HY{b:Int}:(aJ m.f b).length<=m.blocks.length:=pU _
theorem D5.phi{c i:Nat}(q:D5 n c to m)(hb:b<n)(hi:i<(nth m.blocks b).phis.length):
  D5 n (c+n) to (phi3 s b (aJ m.f b) i m)/\Ext m (phi3 s b (aJ m.f b) i m)/\(∀j,(nth (phi3 s b (aJ m.f b) i m).blocks j).phis.length=(nth m.blocks j).phis.length)/\
   PhOk (phi3 s b (aJ m.f b) i m) (nth (nth (phi3 s b (aJ m.f b) i m).blocks b).phis i) b/\
   ∀d j,(d≠b\/j≠i)->nth (nth (phi3 s b (aJ m.f b) i m).blocks d).phis j=nth (nth m.blocks d).phis j:=by
 have hlen:=q.gt.len;obtain⟨h1,h2,h3,h4,h5⟩:=q.ups (s:=s) (p:=aJ m.f b) (λk hk=>by obtain⟨a,h1,h2⟩:=Ib hk;exact⟨a,h1,by omega⟩) (aJ m.f b).length (RQ _);have hp:=HY (m:=m) (b:=b);unfold phi3;generalize up (cL s (aJ m.f b)) (aJ m.f b).length ([],m)=y at h1 h2 h3 h4 h5;have hyl:=h1.gt.len;obtain⟨k1,k2⟩:=h1.jT (b:=b) (i:=i) (l:=y.1) hb;have hnth : ∀j,nth (y.2.jT b i y.1).blocks j=_:=λj=>Bw (i:=i) (l:=y.1) (by omega:b<y.2.blocks.length);have hi2:i<(nth y.2.blocks b).phis.length:=by rw[h3];exact hi
 refine⟨k1.mono V4,h2.trans k2,λj=>?_,?_,λd j hd=>?_⟩
 ·rw[hnth];split
  ·rename_i e;rw[<-e,<-h3 b];show(List.set _ _ _).length=_;rw[Sv]
  rw[h3]
 ·rw[hnth,if_pos rfl];show PhOk _ (nth ((nth y.2.blocks b).phis.set i _) i) b;rw[bj hi2,if_pos rfl];refine⟨?_,λt ht=>?_⟩
  ·rw[sw (h2.trans k2).len (h2.trans k2).to];show y.1.map InD.frm=_;rw[h4,SD]
  obtain⟨a,d1,d2,d3⟩:=h5 t ht;exact⟨a,d1,by rw[k2.len];omega,d3.end k2⟩
 rw[hnth];split
 ·rename_i e;subst e;show nth ((nth y.2.blocks b).phis.set i _) j=_;rw[<-h3 b];rcases RX j (nth y.2.blocks b).phis.length with hl | hl
  ·rw[bj hl,if_neg (by rcases hd with hd | hd;exact absurd rfl hd;exact λe=>hd e.symm)]
  rw[bH (by simpa using hl),bH hl]
 rw[h3]
theorem D5.phis {c cnt:Nat} (q:D5 n c to m) (hb:b<n) (hc:(nth m.blocks b).phis.length=cnt) : ∀k,k<=cnt->
  D5 n (c+n*k) to (up (phi3 s b (aJ m.f b)) k m)/\Ext m (up (phi3 s b (aJ m.f b)) k m)/\(∀j,(nth (up (phi3 s b (aJ m.f b)) k m).blocks j).phis.length=(nth m.blocks j).phis.length)/\
   (∀i,i<k->PhOk (up (phi3 s b (aJ m.f b)) k m) (nth (nth (up (phi3 s b (aJ m.f b)) k m).blocks b).phis i) b)/\
   ∀d j,d≠b->nth (nth (up (phi3 s b (aJ m.f b)) k m).blocks d).phis j=nth (nth m.blocks d).phis j
 | 0,_=>⟨q,.refl,λ_=>rfl,λi hi=>absurd hi (Tx _),λ_ _ _=>rfl⟩
 | k+1,hk=>by
  obtain⟨h1,h2,h3,h4,h5⟩:=D5.phis q hb hc k V4;have e:up (phi3 s b (aJ m.f b)) (k+1) m=phi3 s b (aJ m.f b) k (up (phi3 s b (aJ m.f b)) k m):=rfl;rw[e];have ep:aJ m.f b=aJ (up (phi3 s b (aJ m.f b)) k m).f b:=(sw h2.len h2.to).symm;generalize hy:up (phi3 s b (aJ m.f b)) k m=y at h1 h2 h3 h4 h5 ep;rw[ep];obtain⟨k1,k2,k3,k4,k5⟩:=h1.phi (s:=s) (i:=k) hb (by rw[h3];omega);refine⟨k1.mono (by rw[Ug];omega),h2.trans k2,λj=>(k3 j).trans (h3 j),λi hi=>?_,λd j hd=>(k5 d j (.inl hd)).trans (h5 d j hd)⟩;rcases RX i k with h | h
  ·rw[k5 b i (.inr V4)];exact(h4 i h).ext k2
  have:i=k:=by omega
  subst this;exact k4
theorem D5.blks {c:Nat} {lp:List Int} (q:D5 n c to m) (hc : ∀j,((nth m.blocks j).phis.length:Int)=nth lp j) (h3 : ∀j,nth lp j<=3) : ∀k,k<n->
  D5 n (c+n*3*k) to (up (blk3 s lp) k m)/\Ext m (up (blk3 s lp) k m)/\(∀j,(nth (up (blk3 s lp) k m).blocks j).phis.length=(nth m.blocks j).phis.length)/\
   ∀b,1<=b->b<=k->∀i,i<(nth m.blocks b).phis.length->PhOk (up (blk3 s lp) k m) (nth (nth (up (blk3 s lp) k m).blocks b).phis i) b
 | 0,_=>⟨q,.refl,λ_=>rfl,λb h1 h2=>by omega⟩
 | k+1,hk=>by
  obtain⟨h1,h2,h4,h5⟩:=D5.blks q hc h3 k V4;have e:up (blk3 s lp) (k+1) m=blk3 s lp k (up (blk3 s lp) k m):=rfl;rw[e];generalize up (blk3 s lp) k m=y at h1 h2 h4 h5;have hcnt:(nth y.blocks (k+1)).phis.length=(nth lp (k+1)).toNat:=by have:=hc (k+1);rw[h4];omega
  have hc3:=h3 (k+1);obtain⟨k1,k2,k3,k4,k5⟩:=h1.phis (s:=s) (b:=k+1) hk hcnt (nth lp (k+1)).toNat (RQ _);have hbd:n*(nth lp (k+1)).toNat<=n*3:=Nat.mul_le_mul_left _ V4;have hms:n*3*(k+1)=n*3*k+n*3:=Ug _ _;refine⟨k1.mono (by rw[hms];omega),h2.trans k2,λj=>(k3 j).trans (h4 j),λb hb1 hb2 i hi=>?_⟩;rcases RX k b with h | h
  ·have:b=k+1:=by omega
   subst this;have:=hc (k+1);exact k4 i V4
  have:=(h5 b hb1 h i hi).ext k2;rw[<-k5 b i V4]at this;exact this
theorem CC:D5 (aS s) 216 (ft s).1 (fP s)/\(∀j,(nth (fP s).blocks j).phis.length<=3)/\(nth (fP s).blocks 0).phis.length=0/\∀b,b<aS s->∀i,i<(nth (fP s).blocks b).phis.length->PhOk (fP s) (nth (nth (fP s).blocks b).phis i) b:=by
 obtain⟨n1,n2⟩:=fJ (s:=s);obtain⟨q,h4⟩:=Nn (s:=s);obtain⟨p,_,_⟩:=sO (s:=s);obtain⟨_,pc⟩:=y3 (s:=s);obtain⟨_,_,e0⟩:=Ee (s:=s);have d:D5 (aS s) 0 (ft s).1 (pG s).2:=⟨q.gt,q.ok,λj hj=>q.term j hj (h4 j hj),q.ins,by have:=q.nx;omega⟩;obtain⟨k1,k2,k3,k4⟩:=d.blks (s:=s) (lp:=(gJ s).1) pc (λj=>(p.rng j).2) (aS s-1) V4;have e:up (blk3 s (gJ s).1) (aS s-1) (pG s).2=fP s:=rfl;rw[e]at k1 k2 k3 k4;have hz:(nth (fP s).blocks 0).phis.length=0:=by rw[k3];have:=pc 0;omega
 have hm:aS s*3*(aS s-1)<=27*8:=T7 V4 V4;refine⟨k1.mono V4,λj=>?_,hz,λb hb i hi=>?_⟩
 ·rw[k3];have:=pc j;have:=(p.rng j).2;omega
 rcases SQ b with h | h
 ·subst h;omega
 exact k4 b h V4 i (by rw[<-k3];exact hi)
theorem zM {f:ak} {p i:Nat} (h : ∀j,j<f.blocks.length->(nth f.blocks j).phis.length<=p/\(nth f.blocks j).ins.length<=i) : ∀k,k<=f.blocks.length->jt f k<=f.blocks.length+(p+i)*k
 | 0,_=>by show f.blocks.length<=_;omega
 | k+1,hk=>by have ih:=zM h k V4;have:=h k V4;show jt f k+_+_<=_;rw[Ug];omega
theorem y4:kP (iq s):=by
 obtain⟨d,p3,p0,hph⟩:=CC (s:=s);obtain⟨n1,n2⟩:=fJ (s:=s);have t:=Cr (s:=s);have hlen:=d.gt.len;have hf:(iq s)=(fP s).f:=rfl;rw[hf];have k:=d.ok;have hB:(fP s).f.blocks=(fP s).blocks:=rfl;have hP:(fP s).f.params=(fP s).ps:=rfl;have mp:0<=(fP s).ps/\(fP s).ps<=4:=sK (s:=s);have gt:=d.gt;have hto : ∀b,b<aS s->∀v∈(nth (fP s).blocks b).term.to,1<=v/\v<aS s:=λb hb v hv=>by rw[gt.to b hb]at hv;exact t.rng b v hv
 have way:=K1 gt;have dn:=d.nx;have hins:=d.ins;have dt:=d.term;generalize fP s=m at *;refine⟨mp,⟨by rw[hB];omega,by rw[hB];omega⟩,?_,λt ht=>?_,AA k.nd k.dj _ (RQ _),λb hb=>?_,λt ht h0 v hv=>?_,λb i hb hi=>?_⟩
 ·have:=zM (f:=m.f) (p:=3) (i:=261) (λj hj=>⟨p3 j,by have:=hins j (by rw[hB]at hj;omega);exact this⟩) _ (RQ _);rw[hB,hlen]at this;rw[hB,hlen];omega
 ·have hmk : ∀n∈t.mks,m.f.params<=n/\n<=8191:=λv hv=>by obtain⟨b,hb,_,hm⟩:=Lg ht hv;have:=k.rg b hb v hm;rw[hP];omega
  obtain⟨b,hb,hm⟩:=eu.1 ht;have hb':b<m.blocks.length:=hb;rcases fE.1 hm with⟨i,hi,rfl⟩ | ⟨i,hi,rfl⟩ | rfl
  ·have nl:mU m.f (phiT m.f b i)=VI->False:=λh=>by have h1:-1-(i:Int)=((je m.f (phiT m.f b i)).ins.length:Nat):=of_decide_eq_true h;omega
   refine⟨λh=>?_,λh=>(nl h).elim,hmk,λh=>(nl h).elim⟩;have h1:(0:Int)<=-1-(i:Int):=of_decide_eq_true ((RV _ _).mp h).1;omega
  ·have nl:mU m.f (insT m.f b i)=VI->False:=λh=>by have h1:(i:Int)=((nth m.f.blocks ((b:Nat):Int).toNat).ins.length:Nat):=of_decide_eq_true h;rw[Si]at h1;omega
   refine⟨λh=>?_,λh=>(nl h).elim,hmk,λh=>(nl h).elim⟩;refine(k.op b hb' _ ?_).1;show nth (nth m.f.blocks ((b:Nat):Int).toNat).ins ((i:Nat):Int).toNat∈_;rw[Si,Si];exact aX hi
  refine⟨λh=>?_,λh=>?_,hmk,λh v hv=>?_⟩
  ·have h1:(((nth m.f.blocks b).ins.length:Nat):Int)<((nth m.f.blocks ((b:Nat):Int).toNat).ins.length:Nat):=of_decide_eq_true ((RV _ _).mp h).2;rw[Si]at h1;omega
  ·show lh (nth m.f.blocks ((b:Nat):Int).toNat).term=VI;rw[Si];exact dt b V4
  have hv:v∈(nth m.f.blocks ((b:Nat):Int).toNat).term.to:=hv;rw[Si]at hv;have:=hto b V4 v hv;rw[hB];omega
 ·exact way b (by rw[hB]at hb;omega)
 ·obtain⟨b,hb,hm⟩:=eu.1 ht;have hb':b<m.blocks.length:=hb;rcases fE.1 hm with⟨i,hi,rfl⟩ | ⟨i,hi,rfl⟩ | rfl
  ·exact absurd h0 (by show ¬(0:Int)<=-1-(i:Int);omega)
  ·exact xF hb' (k.tk b hb' i hi v hv)
  exact xF hb' (k.tm b hb' v hv)
 have hb':b<m.blocks.length:=hb;obtain⟨g1,g2⟩:=hph b V4 i hi;refine⟨?_,g1,λq hq=>?_⟩
 ·rcases SQ b with h | h
  ·subst h;have hi:i<(nth m.blocks 0).phis.length:=hi;omega
  exact h
 obtain⟨c,h1,h2,h3⟩:=g2 q hq;rw[h1];have:=xF h2 h3;show sV m.f q.val c (y9 m.f c);unfold y9;rw[Si];exact this
theorem Ji:kR (iq s)=(0,0,0):=PA y4
end
theorem JO{s:List Int}:(∀x∈(iq s).blocks,∀p∈x.phis,p.dst<=4000)/\∀x∈(iq s).blocks,∀i∈x.ins,i.dst<=4000/\i.two<=4000:=by
 obtain⟨d,_,_,_⟩:=CC (s:=s);have hn:=d.nx;have key : ∀x∈(iq s).blocks,∃b,b<(fP s).blocks.length/\x=nth (fP s).blocks b:=λx hx=>by obtain⟨b,hb,rfl⟩:=Sn hx;have hb:b<(fP s).blocks.length:=hb;exact⟨b,hb,(ay hb).symm⟩
 refine⟨λx hx p hp=>?_,λx hx i hi=>?_⟩
 ·obtain⟨b,hb,rfl⟩:=key x hx;have:=d.ok.rg b hb p.dst (SA _ (TM hp));omega
 obtain⟨b,hb,rfl⟩:=key x hx;have o:=(d.ok.op b hb i hi).2;have rg : ∀v∈bg i,v<(fP s).next:=λv hv=>(d.ok.rg b hb v (SE _ (SS.2 ⟨i,hi,hv⟩))).2;unfold bg at rg;unfold NumI at o;constructor
 ·by_cases h:i.op=16
  ·rw[o.1 h];decide
  rw[if_neg h]at rg;have:=rg i.dst (by split<;>simp);omega
 by_cases h:i.op=18
 ·rw[if_neg (by rw[h];decide),if_pos h]at rg;have:=rg i.two V5;omega
 rw[o.2 h];decide
section
variable {f:ak} {b i:Nat}
theorem DZ:mU f (endT f b)=true:=by refine decide_eq_true ?_;show(((nth f.blocks b).ins.length:Nat):Int)=((nth f.blocks ((b:Nat):Int).toNat).ins.length:Nat);rw[Si]
theorem He(hi:i<(nth f.blocks b).ins.length):vR f (insT f b i)=VI/\Ei f (insT f b i)=nth (nth f.blocks b).ins i:=by
 refine⟨(RV _ _).mpr ⟨decide_eq_true (Uy _),decide_eq_true ?_⟩,?_⟩
 ·show(i:Int)<((nth f.blocks ((b:Nat):Int).toNat).ins.length:Nat);rw[Si];omega
 show nth (nth f.blocks ((b:Nat):Int).toNat).ins ((i:Nat):Int).toNat=_;rw[Si,Si]
theorem MI:je f (endT f b)=nth f.blocks b:=by show nth f.blocks ((b:Nat):Int).toNat=_;rw[Si]
theorem kP.insG(m:kP f)(hb:b<f.blocks.length)(hi:i<(nth f.blocks b).ins.length):xh f (insT f b i)/\oO (nth (nth f.blocks b).ins i)=false:=by have g:=m.good _ (eu.2 ⟨b,hb,fE.2 (.inr (.inl ⟨i,hi,rfl⟩))⟩);exact⟨g,by have:=g.op (He hi).1;rwa [(He hi).2]at this⟩
theorem kP.endG(m:kP f)(hb:b<f.blocks.length):lh (nth f.blocks b).term=VI/\∀n∈(nth f.blocks b).term.to,1<=n/\n<f.blocks.length:=by have g:=m.good _ (eu.2 ⟨b,hb,fE.2 (.inr (.inr rfl))⟩);have h1:=g.term DZ;have h2:=g.to DZ;rw[MI]at h1 h2;exact⟨h1,h2⟩
end
section
variable {f g:ak} {n:Nat}
end
theorem J6{s:List Int}:jt (iq s) (iq s).blocks.length<=4000:=by obtain⟨d,p3,_,_⟩:=CC (s:=s);obtain⟨n1,n2⟩:=fJ (s:=s);have hlen:=d.gt.len;have hB:(iq s).blocks=(fP s).blocks:=rfl;have:=zM (f:=iq s) (p:=3) (i:=261) (λj hj=>⟨p3 j,by have:=d.ins j (by rw[hB]at hj;omega);exact this⟩) _ (RQ _);rw[hB,hlen]at this;rw[hB,hlen];omega
def ll (f:ak):Bool:=decide ((kR f).1=0)
def fO (f:ak) (b p pat temp:Int):Option FitD:=if dq f b p&&ll f then tryS (eh f b p temp) pat else VF
def dy (f:ak) (b p pat:Int):Option FitD:=if 1<=pat then fO f b p pat 0 else VF
def HK:Option FitD->List Int | some x=>x.takes | none=>[]
def Hq:Option FitD->List Int | some x=>x.inner | none=>[]
def sS:Option FitD->List bU | some x=>x.code | none=>[]
def AW:Option FitD->EndD | some x=>x.fin | none=>cV
theorem nW{f:ak}{i:InsD}:i∈fm f↔∃b k,b<f.blocks.length/\k<(nth f.blocks b).ins.length/\i=nth (nth f.blocks b).ins k:=by
 unfold fm;rw[SS];constructor
 ·rintro⟨x,hx,hi⟩;obtain⟨b,hb,rfl⟩:=Sn hx;obtain⟨k,hk,rfl⟩:=Sn hi;exact⟨b,k,hb,by rw[ay hb];exact hk,by rw[ay hb,ay hk]⟩
 rintro⟨b,k,hb,hk,rfl⟩;exact⟨_,aX hb,aX hk⟩
theorem oK{H:View}{v:Value}{f:ak}(h:Rd H v f): ∀i∈fm f,-2147483648<=i.imm.v/\i.imm.v<=2147483647:=by intro i hi;obtain⟨b,k,hb,hk,rfl⟩:=nW.1 hi;obtain⟨c1,c2,c3⟩:=gh h;unfold Rd at h;rw[if_pos (show Rep.agg ak=VI from rfl)]at h;obtain⟨cs,rfl,d1,d2,e,h1,h2⟩:=h;obtain⟨vb,rfl⟩:=xf h2;have hs:=qw.1 h2;have h3:=((hs.at hb).part BlkD.jS).sl;obtain⟨vi,-,h4⟩:=h3;rw[<-ay hb]at h4;have:=((h4.at hk).part InsD.lQ).sA;rw[ay hk];exact this
theorem CR{f:ak}(m:kP f)(hsm:SmF f): ∀i∈fm f,xt i:=by
 intro i hi;obtain⟨b,k,hb,hk,rfl⟩:=nW.1 hi;obtain⟨-,h⟩:=m.insG hb hk;have hm:=(hsm.blk b hb).inn k hk;generalize nth (nth f.blocks b).ins k=i at *;unfold oO at h;simp at h;obtain⟨⟨h1,h2⟩,h3⟩:=h;unfold td at h3;refine⟨λho=>?_,λho=>?_,hm⟩
 ·rw[if_neg V4,if_neg V4,if_neg V4]at h3;simp at h3;omega
 rw[if_neg V4,if_pos V4]at h3;simp at h3;omega
variable{b:Nat}
theorem JW{f:ak}(m:kP f)(hsm:SmF f)(hb:b<f.blocks.length):yV (nth f.blocks b).term:=by
 have h:=(m.endG hb).1;have s:=hsm.blk b hb;have s1:=s.args;have s2:=s.to;generalize (nth f.blocks b).term=t at *;refine⟨λho=>?_,s1,s2⟩;unfold lh at h;rcases ho with ho | ho
 ·rw[if_neg V4,if_pos ho]at h;simp at h;omega
 rw[if_neg V4,if_neg V4,if_pos ho]at h;simp at h;omega
theorem JQ:xt iR:=⟨λh=>by simp[iR]at h,λh=>by simp[iR]at h,by simp[iR]⟩
variable{temp:Int}
theorem zS{f:ak}{b p:Int}(m:kP f)(hsm:SmF f)(hr : ∀i∈fm f,-2147483648<=i.imm.v/\i.imm.v<=2147483647)(hp:dq f b p=VI):mY (eh f b p temp)/\yV (eh f b p temp).t/\((eh f b p temp).i=iR\/(eh f b p temp).i∈fm f)/\(eh f b p temp).f=f:=by
 simp[dq]at hp;obtain⟨⟨⟨g1,g2⟩,g3⟩,g4⟩:=hp;have hb:b.toNat<f.blocks.length:=by omega
 unfold eh;by_cases e:p=(nth f.blocks b.toNat).ins.length
 ·rw[if_pos e];exact⟨⟨hsm,CR m hsm,JQ,hr⟩,JW m hsm hb,.inl rfl,rfl⟩
 rw[if_neg e];have hi:nth (nth f.blocks b.toNat).ins p.toNat∈fm f:=nW.2 ⟨_,_,hb,by omega,rfl⟩;exact⟨⟨hsm,CR m hsm,CR m hsm _ hi,hr⟩,⟨λh=>by simp[oc]at h,by simp[oc],by simp[oc]⟩,.inr hi,rfl⟩
theorem CN{f:ak}{v:Value}{b p pat:Int}{h:Heap}{W:View}(hW:W.le (vw h))(hv:Rd W v (eh f b p temp))(m:kP f)(hsm:SmF f)(hr : ∀i∈fm f,-2147483648<=i.imm.v/\i.imm.v<=2147483647)(hM : ∀i∈fm f,i.op=15\/i.op=16->iG)(hpl:dq f b p=VI)(hp:I64 pat):
  az VK 93 #[v,VB VC pat] h (λu h'=>cr W h h' u (tryS (eh f b p temp) pat)):=by
 obtain⟨h1,h2,h3,-⟩:=zS (temp:=temp) m hsm hr hpl;refine OR hW hv (λ_=>h1) (λ_=>⟨h1,h2⟩) (λho=>?_) hp;rcases h3 with h3 | h3
 ·rw[h3]at ho;simp[iR]at ho
 exact hM _ h3 ho
theorem ld{f:ak}(h:ll f=VI):kP f:=OW (by simpa[ll]using h)
theorem DU{f:ak}{v:Value}{b p pat:Int}{h:Heap}{W:View}(hW:W.le (vw h))(hv:Rd W v f)(hsm:SmF f)(hM : ∀i∈fm f,i.op=15\/i.op=16->iG)(hp:I64 pat):
  az VK 112 #[v,VB VC b,VB VC p,VB VC pat] h (λu h'=>(vw h).le (vw h')/\∃v1 v2,u = .tuple #[v1,v2,.bool (dy f b p pat).isSome]/\SlRd (vw h') v1 (HK (dy f b p pat))/\SlRd (vw h') v2 (Hq (dy f b p pat))):=by
 refine aq (args:=[v,VB VC b,VB VC p,VB VC pat]) follows Tryz.func112 E.qz Vw λK hK=>?_;dsimp only[L.qz,lkF,lkG];have c0:=Cx.start hW;refine aa λz hz=>?_;simp;refine c0.ef rfl hv λB h1 W1 hW1 c1 at1 hle1=>?_;subst hz;obtain⟨uf,huf,ruf⟩:=at1.ldN rfl (N:=2) rfl;have hr:=oK hv;refine aa λz hz=>?_;simp[huf _ c1.wle];refine ah V0 (KP c1.wle ruf (by constructor<;>decide)) ?_;rintro _ h2 ⟨hle2,vs,rfl,hvs⟩;have c2:=c1.ext hle2;have hW2:=c1.up (h':=h2);simp;refine c2.ey (α:=cD) hvs (n:=13) (z:=.agg rh.toArray) V0 rfl rfl V0 V8 V8 λB2 h3 W3 hW3 c3 at3 hle3=>?_;subst hz;have huf3:=huf _ (Vz hW2 (Vz hW3 c3.wle));have ruf3:=ruf.mono (Vz hW2 (Vz hW3 c3.wle));have none_:dy f b p pat=VF->K (.tuple #[VG VF 0 0,VG VF 0 0,.bool VJ]) h3:=λe=>hK _ _ ⟨c3.le0,_,_,by rw[e];rfl,by rw[e];exact aO,by rw[e];exact aO⟩;refine aa λz hz=>?_;cases hpl:dq f b p with
 | false=>
  have e:dy f b p pat=none:=by unfold dy fO;rw[hpl];split<;>rfl
  simp;exact none_ e
 | true=>
  by_cases h1p:pat<1
  ·have e:dy f b p pat=none:=by unfold dy;rw[if_neg V4]
   simp[h1p];exact none_ e
  simp[h1p,huf3];refine ah V0 (Ai ruf3 hsm) ?_;rintro _ h4 ⟨rfl,hle4⟩;have c4:=c3.ext hle4;have hW4:=c3.up (h':=h4);cases hrt:ll f with
  | false=>
   have e:dy f b p pat=none:=by unfold dy fO;rw[hpl,hrt];split<;>rfl
   have hrt2:decide ((kR f).1=0)=false:=hrt;simp[hrt2];exact hK _ _ ⟨c4.le0,_,_,by rw[e];rfl,by rw[e];exact aO,by rw[e];exact aO⟩
  | true=>
   have hrt2:decide ((kR f).1=0)=true:=hrt;have m:=ld hrt;have e:dy f b p pat=tryS (eh f b p 0) pat:=by unfold dy fO;rw[if_pos V4,hpl,hrt];rfl
   rw[e]at hK none_;have hpS:pk f b p 0=eh f b p 0:=by unfold pk;rw[hpl,if_pos rfl]
   rw[hpS]at at3;obtain⟨us,hus,rus⟩:=at3.ldN rfl (N:=13) rfl;have hus4:=hus _ (Vz hW4 c4.wle);simp[hrt2];subst hz;refine aa λz hz=>?_;simp[hus4];refine ah V0 (CN c4.wle (rus.mono hW4) m hsm hr hM hpl hp) ?_;rintro _ h5 ⟨hle5,vf,x,rfl,hvf,hx⟩;have c5:=c4.ext hle5;simp;refine c5.ey (α:=FitD) hvf (n:=8) (z:=.agg fitZ.toArray) V0 rfl rfl V0 V8 V8 λB3 h6 W6 hW6 c6 at6 hle6=>?_;subst hz;refine aa λz hz=>?_;cases hq:tryS (eh f b p 0) pat with
   | none=>rw[hq]at hK;simp;exact hK _ _ ⟨c6.le0,_,_,rfl,aO,aO⟩
   | some y=>
    obtain rfl:=hx y hq;rw[hq]at hK;obtain⟨v1,k1,s1⟩:=((at6.mono c6.wle).part FitD.HM).sl;obtain⟨v2,k2,s2⟩:=((at6.mono c6.wle).part FitD.NF).sl;have k1:ao (vw h6) ⟨B3,0,VF⟩=VE v1:=by simpa using k1
    have k2:ao (vw h6) ⟨B3,1,VF⟩=VE v2:=by simpa using k2
    simp;subst hz;simp[k1,k2];exact hK _ _ ⟨c6.le0,_,_,rfl,s1,s2⟩
abbrev endZ:List Value:=[VB VC 0,VB VC 0,VB VC 0,VG VF 0 0,VB VD 0]
theorem pQ{H:View}:Rd H (.agg endZ.toArray) cV:=by unfold Rd;rw[if_pos (show Rep.agg EndD=VI from rfl)];exact⟨_,rfl,mg V5 V6 aO⟩
theorem KS{f:ak}{v:Value}{b p pat:Int}{h:Heap}{W:View}(hW:W.le (vw h))(hv:Rd W v f)(hsm:SmF f)(hM : ∀i∈fm f,i.op=15\/i.op=16->iG)(hp:I64 pat)(htm:I64 temp):
  az VK 51 #[v,VB VC b,VB VC p,VB VC pat,VB VC temp] h (λu h'=>(vw h).le (vw h')/\∃v1 v2,u = .tuple #[v1,v2,.bool (fO f b p pat temp).isSome]/\SlRd (grow W h h') v1 (sS (fO f b p pat temp))/\Rd (grow W h h') v2 (AW (fO f b p pat temp))):=by
 refine aq (args:=[v,VB VC b,VB VC p,VB VC pat,VB VC temp]) follows Tryz.func51 E.tE Vw λK hK=>?_;dsimp only[L.tE,lkF,lkG];have c0:=Cx.start hW;refine aa λz hz=>?_;simp;refine c0.ef rfl hv λB h1 W1 hW1 c1 at1 hle1=>?_;refine c1.dc (k:=(0,0)) (n:=4) (z:=.agg endZ.toArray) rfl V0 rfl V6 Vu λR h1' hle1' c1=>?_;subst hz;obtain⟨uf,huf,ruf⟩:=at1.ldN rfl (N:=2) rfl;have hr:=oK hv;refine aa λz hz=>?_;simp[huf _ c1.wle];refine ah V0 (KP c1.wle ruf htm) ?_;rintro _ h2 ⟨hle2,vs,rfl,hvs⟩;have c2:=c1.ext hle2;have hW2:=c1.up (h':=h2);simp;refine c2.ey (α:=cD) hvs (n:=13) (z:=.agg rh.toArray) V0 rfl rfl V0 V8 V8 λB2 h3 W3 hW3 c3 at3 hle3=>?_;subst hz;have huf3:=huf _ (Vz hW2 (Vz hW3 c3.wle));have ruf3:=ruf.mono (Vz hW2 (Vz hW3 c3.wle));have none_ : ∀(hx:Heap) (Wx:View) (l9:List Value) (o:Own),fO f b p pat temp=VF->Cx W h Wx hx o->Rd Wx (.agg l9.toArray) cV->K (.tuple #[VG VF 0 0,.agg l9.toArray,.bool VJ]) hx:=λhx Wx l9 o e c r=>hK _ _ ⟨c.le0,_,_,by rw[e];rfl,by rw[e];exact aO,by rw[e];exact r.mono (c.old.le c.wle)⟩;refine aa λz hz=>?_;cases hpl:dq f b p with
 | false=>
  have e:fO f b p pat temp=none:=by unfold fO;rw[hpl];rfl
  simp;refine aA (t:=T.eU) (z:=.agg endZ.toArray) (places:=zpa) (vs:=[]) (cs:=endZ.toArray) V0 V0 V5 V0 ?_;refine c3.bI (k:=(0,0)) (n:=4) (l:=endZ) V7 pQ rfl rfl V0 rfl rfl λh9 l9 hl9 c9=>?_;have hall:=c9.all (k:=(0,0)) (n:=4) (l:=l9) (B:=R) (e:=T.eU) V7;simp at hall;simp[hall];exact none_ _ _ _ _ e c9 (hl9▸pQ)
 | true=>
  simp[huf3];refine ah V0 (Ai ruf3 hsm) ?_;rintro _ h4 ⟨rfl,hle4⟩;have c4:=c3.ext hle4;have hW4:=c3.up (h':=h4);cases hrt:ll f with
  | false=>
   have e:fO f b p pat temp=none:=by unfold fO;rw[hpl,hrt];rfl
   have hrt2:decide ((kR f).1=0)=false:=hrt;simp[hrt2];refine aA (t:=T.eU) (z:=.agg endZ.toArray) (places:=zpa) (vs:=[]) (cs:=endZ.toArray) V0 V0 V5 V0 ?_;refine c4.bI (k:=(0,0)) (n:=4) (l:=endZ) V7 pQ rfl rfl V0 rfl rfl λh9 l9 hl9 c9=>?_;have hall:=c9.all (k:=(0,0)) (n:=4) (l:=l9) (B:=R) (e:=T.eU) V7;simp at hall;simp[hall];exact none_ _ _ _ _ e c9 (hl9▸pQ)
  | true=>
   have hrt2:decide ((kR f).1=0)=true:=hrt;have m:=ld hrt;have e:fO f b p pat temp=tryS (eh f b p temp) pat:=by unfold fO;rw[hpl,hrt];rfl
   rw[e]at hK none_;have hpS:pk f b p temp=eh f b p temp:=by unfold pk;rw[hpl,if_pos rfl]
   rw[hpS]at at3;obtain⟨us,hus,rus⟩:=at3.ldN rfl (N:=13) rfl;have hus4:=hus _ (Vz hW4 c4.wle);simp[hrt2];subst hz;refine aa λz hz=>?_;simp[hus4];refine ah V0 (CN c4.wle (rus.mono hW4) m hsm hr hM hpl hp) ?_;rintro _ h5 ⟨hle5,vf,x,rfl,hvf,hx⟩;have c5:=c4.ext hle5;simp;refine c5.ey (α:=FitD) hvf (n:=8) (z:=.agg fitZ.toArray) V0 rfl rfl V0 V8 V8 λB3 h6 W6 hW6 c6 at6 hle6=>?_;subst hz;refine aa λz hz=>?_;cases hq:tryS (eh f b p temp) pat with
   | none=>simp;refine aA (t:=T.eU) (z:=.agg endZ.toArray) (places:=zpa) (vs:=[]) (cs:=endZ.toArray) V0 V0 V5 V0 ?_;refine c6.bI (k:=(0,0)) (n:=4) (l:=endZ) V7 pQ rfl rfl V0 rfl rfl λh9 l9 hl9 c9=>?_;have hall:=c9.all (k:=(0,0)) (n:=4) (l:=l9) (B:=R) (e:=T.eU) V7;simp at hall;simp[hall];exact none_ _ _ _ _ hq c9 (hl9▸pQ)
   | some y=>
    obtain rfl:=hx y hq;rw[hq]at hK;obtain⟨v1,k1,s1⟩:=(at6.part FitD.Pw).sl;obtain⟨v2,k2,s2⟩:=(at6.part FitD.Hw).ldN rfl (N:=5) rfl;have k1:ao W6 ⟨B3,2,VF⟩=VE v1:=by simpa using k1
    have k2:Un.ev W6 (.bM 5) (VH (VE ⟨B3,3,VF⟩))=VE v2:=by simpa using k2 W6 Vy
    simp;subst hz;refine aa λz hz=>?_;refine aQ W6 c6.wle ?_;simp[k1,k2];refine c6.bI (k:=(0,0)) (n:=4) (l:=endZ) V7 s2 rfl rfl V0 rfl rfl λh9 l9 hl9 c9=>?_;subst hz;have hall:=c9.all (k:=(0,0)) (n:=4) (l:=l9) (B:=R) (e:=T.eU) V7;simp at hall;simp[hall];exact hK _ _ ⟨c9.le0,_,_,rfl,s1.mono (c9.old.le c9.wle),hl9▸s2.mono (c9.old.le c9.wle)⟩
theorem Kj{a b:ByteArray}{n:Bool}:Bn.ev (.eqS n) (.string a) (.string b)=VE (.bool ((a.toList == b.toList) != n)):=rfl
end Go.Lft
