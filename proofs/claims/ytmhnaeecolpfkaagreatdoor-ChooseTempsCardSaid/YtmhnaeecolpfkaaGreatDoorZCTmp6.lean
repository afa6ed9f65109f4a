/- A part of the proof: Vc, Tk, Om, On, Ja. -/
import Derived.Test.YtmhnaeecolpfkaaGreatDoorZCTmp5
import Derived.Laws.BytesArg
set_option linter.unusedSimpArgs false
set_option linter.unusedVariables false
open Go.Value renaming int->Vz,slice->VE,pointer->VF
open Go.IntKind renaming i64->VA,i32->VB
open Option renaming some->VC,none->VD
open Bool renaming true->VG,false->VH
open Go.Proofs.Tryz renaming prog->VI
open Go.Proofs
namespace Go.Lft
section
variable{s:List Int}{n:Nat}{to:List (List Int)}{m m':MS}{b:Nat}
theorem tP{α:Type}[Inhabited α]{β:Type}{l:List α}{g:α->β}:rows (λi=>g (nth l i)) l.length=l.map g:=by
 refine TJ V5 λi h1 h2=>?_;have hi:i<l.length:=by simpa using h2
 simp[rows,az hi]
theorem CK{f:ak}:lQ (thB f b)=mkB (nth f.blocks b):=by
 unfold thB lQ mkB;rw[Tz,Tz];have e1:(rows (phiT f b) (nth f.blocks b).phis.length).flatMap Th.mks=(nth f.blocks b).phis.map PhiD.dst:=by
  rw[<-tP];unfold rows;rw[List.flatMap_map];show(List.range _).flatMap (λi=>[(nth (nth f.blocks b).phis i).dst])=_;generalize List.range _=l;induction l with
  | nil=>rfl
  | cons a l ih=>rw[TH,ih,S8];rfl
 have e2:(rows (insT f b) (nth f.blocks b).ins.length).flatMap Th.mks=(nth f.blocks b).ins.flatMap bz:=by have h:(nth f.blocks b).ins.map bz=rows (λi=>bz (nth (nth f.blocks b).ins i)) (nth f.blocks b).ins.length:=tP.symm;rw[show(nth f.blocks b).ins.flatMap bz=((nth f.blocks b).ins.map bz).flatten from rfl,h];unfold rows;rw[List.flatMap_map];rfl
 rw[e1,e2];simp[endT]
theorem Ee{f:ak}{v:Int} : ∀{k:Nat},v∈lQ (thTo f k)↔∃b,b<k/\v∈mkB (nth f.blocks b)
 | 0=>⟨λh=>(by cases h),λ⟨b,h,_⟩=>absurd h (Tx _)⟩
 | k+1=>by
  rw[fS];unfold lQ;rw[Tz,R1];have ih:=Ee (f:=f) (v:=v) (k:=k);unfold lQ at ih;rw[ih];have e:=CK (f:=f) (b:=k);unfold lQ at e;rw[e];constructor
  ·rintro(⟨b,h1,h2⟩ | h)
   ·exact⟨b,by omega,h2⟩
   exact⟨k,by omega,h⟩
  rintro⟨b,h1,h2⟩;rcases Sb b k with h | h
  ·exact .inl ⟨b,h,h2⟩
  have:b=k:=by omega
  subst this;exact .inr h2
theorem A2{f:ak}(nd : ∀b,b<f.blocks.length->(mkB (nth f.blocks b)).Nodup)(dj : ∀a b,a<f.blocks.length->b<f.blocks.length->a≠b->∀v∈mkB (nth f.blocks a),v∉mkB (nth f.blocks b)) : ∀k,k<=f.blocks.length->(lQ (thTo f k)).Nodup
 | 0,_=>TV
 | k+1,hk=>by
  rw[fS];have e:lQ (thTo f k++thB f k)=lQ (thTo f k)++mkB (nth f.blocks k):=by rw[<-CK];exact Tz
  rw[e];refine Ti.2 ⟨A2 nd dj k V4,nd k V4,λx hx y hy=>?_⟩;rintro rfl;obtain⟨b,h1,h2⟩:=Ee.1 hx;exact dj b k V4 V4 V4 x h2 hy
theorem O5{f:ak}(hb:b<f.blocks.length){v:Int}(hv:v∈mkB (nth f.blocks b)): ∃t∈aC f,v∈t.mks/\t.blk=b:=by
 rcases R1.1 hv with h | h
 ·obtain⟨p,hp,rfl⟩:=SZ.1 h;obtain⟨i,hi,rfl⟩:=Sy hp;exact⟨phiT f b i,fe.2 ⟨b,hb,gC.2 (.inl ⟨i,hi,rfl⟩)⟩,by show _∈[_];rw[az hi];exact RY.2 rfl,rfl⟩
 obtain⟨p,hp,h2⟩:=Te.1 h;obtain⟨i,hi,rfl⟩:=Sy hp;exact⟨insT f b i,fe.2 ⟨b,hb,gC.2 (.inr (.inl ⟨i,hi,rfl⟩))⟩,by show _∈bz _;rw[az hi];exact h2,rfl⟩
theorem JN{f:ak}{t:Th}{v:Int}(ht:t∈aC f)(hv:v∈t.mks): ∃b,b<f.blocks.length/\t.blk=b/\v∈mkB (nth f.blocks b):=by
 obtain⟨b,hb,hm⟩:=fe.1 ht;refine⟨b,hb,?_,?_⟩
 ·rcases gC.1 hm with⟨i,hi,rfl⟩ | ⟨i,hi,rfl⟩ | rfl<;>rfl
 rw[<-CK];exact Te.2 ⟨t,hm,hv⟩
theorem xJ(hb:b<m.blocks.length){p:Nat}{v:Int}(h:Sd m b p v):vO m.f v b p:=by
 rcases h with h | h | h | ⟨a,h1,h2,h3,h4⟩
 ·exact .inl h
 ·obtain⟨q,hq,rfl⟩:=SZ.1 h;obtain⟨i,hi,rfl⟩:=Sy hq;refine .inr ⟨phiT m.f b i,fe.2 ⟨b,hb,gC.2 (.inl ⟨i,hi,rfl⟩)⟩,?_,.inl ⟨rfl,.inl ?_⟩⟩
  ·show _∈[(nth (nth m.blocks b).phis i).dst];rw[az hi];exact RY.2 rfl
  show(-1-(i:Int))<0;omega
 ·obtain⟨q,hq,h2⟩:=Te.1 h;obtain⟨i,hi,rfl⟩:=Sy hq;have hi2:i<p/\i<(nth m.blocks b).ins.length:=by rw[SH]at hi;omega
  rw[U6]at h2;refine .inr ⟨insT m.f b i,fe.2 ⟨b,hb,gC.2 (.inr (.inl ⟨i,hi2.2,rfl⟩))⟩,?_,.inl ⟨rfl,.inr ?_⟩⟩
  ·show _∈bz (nth (nth m.blocks b).ins i);rw[az hi2.2];exact h2
  show((i:Nat):Int)<p;omega
 obtain⟨t,ht,h5,h6⟩:=O5 (f:=m.f) h1 h3;refine .inr ⟨t,ht,h5,.inr ⟨by rw[h6];omega,?_⟩⟩;rw[h6,Sn];exact h4
theorem Ei(hp:0<=m.ps)(hb:b<m.blocks.length){v:Int}(h:v∈gU m.f b):Sd m b (nth m.blocks b).ins.length v:=by
 have key : ∀(l:List Th) (o:List Int),(∀t∈l,t∈aC m.f)->(∀v∈o,Sd m b (nth m.blocks b).ins.length v)->∀v∈l.foldl (eB m.f b) o,Sd m b (nth m.blocks b).ins.length v:=by
  intro l;induction l with
  | nil=>intro o _ ho v hv;exact ho v hv
  | cons t l ih=>
   intro o hl ho v hv;rw[Sx]at hv;refine ih _ (λx hx=>hl x (Sa _ hx)) (λv hv=>?_) v hv;unfold eB at hv;split at hv
   ·rename_i ha;rcases R1.1 hv with hv | hv
    ·exact ho v hv
    obtain⟨a,h1,h2,h3⟩:=JN (hl t Sg) hv;rcases Nat.decEq a b with e | e
    ·refine .inr (.inr (.inr ⟨a,h1,e,h3,λhr=>?_⟩));unfold uE at ha;rw[h2,(ik (f:=m.f) hb).2 hr]at ha;simp at ha;exact e V4
    subst e;rcases R1.1 h3 with h | h
    ·exact .inr (.inl h)
    refine .inr (.inr (.inl ?_));rw[SF];exact h
   exact ho v hv
 unfold gU at h;refine key _ _ (λt h=>h) (λv hv=>?_) v h;obtain⟨i,hi,rfl⟩:=Ao.1 hv;have hi:i<m.ps.toNat:=hi;exact .inl V9
def PhOk(m:MS)(p:PhiD)(b:Nat):Prop:=p.ins.map InD.frm=aJ m.f b/\∀q∈p.ins,∃c:Nat,q.frm=c/\c<m.blocks.length/\Sd m c (nth m.blocks c).ins.length q.val
theorem sy(hl:m'.blocks.length=m.blocks.length)(h : ∀j,(nth m'.blocks j).term.to=(nth m.blocks j).term.to){b:Int}:aJ m'.f b=aJ m.f b:=by unfold aJ;rw[show m'.f.blocks.length=m.f.blocks.length from hl];congr 1;funext a;rw[show(nth m'.f.blocks a).term.to=(nth m.f.blocks a).term.to from h a]
theorem PhOk.ext{p:PhiD}(h:PhOk m p b)(e:Ext m m'):PhOk m' p b:=
 ⟨by rw[sy e.len e.to];exact h.1,λq hq=>by obtain⟨c,h1,h2,h3⟩:=h.2 q hq;exact⟨c,h1,by rw[e.len];exact h2,h3.end e⟩⟩
structure D5(n c:Nat)(to:List (List Int))(m:MS):Prop where
 gt:Gt n to m
 ok:Ok m
 term : ∀j,j<n->lI (nth m.blocks j).term=VG
 ins : ∀j,j<n->(nth m.blocks j).ins.length<=45+c
 nx:m.next<=433+c
theorem D5.mono{c d:Nat}(q:D5 n c to m)(h:c<=d):D5 n d to m:=⟨q.gt,q.ok,q.term,λj hj=>by have:=q.ins j hj;omega,by have:=q.nx;omega⟩
theorem D5.took{c:Nat}(q:D5 n c to m):D5 n c to m.took:=⟨⟨q.gt.len,q.gt.to⟩,q.ok.at (Tf _),q.term,q.ins,q.nx⟩
theorem D5.constant{c:Nat}(q:D5 n c to m)(hb:b<n){w:Int}:D5 n (c+1) to (m.constant b w)/\Ext m (m.constant b w)/\(∀j,(nth (m.constant b w).blocks j).phis=(nth m.blocks j).phis)/\Sd (m.constant b w) b (nth (m.constant b w).blocks b).ins.length m.next:=by
 have hlen:=q.gt.len;have hbl:b<m.blocks.length:=by rw[hlen];exact hb
 have e:m.constant b w=MS.add ⟨m.at_,m.ps,m.blocks,m.next+1,m.live⟩ b (conD m.next w):=rfl;have mk:bz (conD m.next w)=[m.next]:=rfl;have k:=q.ok.add (a:=m.at_) (nx:=m.next+1) (i:=conD m.next w) (l:=m.live) hbl V4 (by rw[mk];intro v hv;rw[RY.1 hv];omega) (by rw[mk];simp) ⟨rfl,λh=>absurd h (show(1:Int)≠16 by decide),λ_=>rfl⟩ (λv hv=>by cases hv);have ex:Ext m (m.constant b w):=(Cr (m:=⟨m.at_,m.ps,m.blocks,m.next+1,m.live⟩) (i:=conD m.next w) hbl).frm rfl rfl;have hnth : ∀j,nth (m.constant b w).blocks j=if b=j then{ nth m.blocks b with ins:=(nth m.blocks b).ins++[conD m.next w] } else nth m.blocks j:=λj=>tF (m:=⟨m.at_,m.ps,m.blocks,m.next+1,m.live⟩) hbl;refine⟨⟨q.gt.ext ex,k,λj hj=>?_,λj hj=>?_,?_⟩,ex,λj=>?_,LI (m:=m) hbl (by rw[mk];exact RY.2 rfl)⟩
 ·rw[hnth];split
  ·exact q.term b hb
  exact q.term j hj
 ·have:=q.ins j hj;rw[hnth];split
  ·rename_i e1;subst e1;show((nth m.blocks b).ins++[_]).length<=_;rw[Sf,Su];omega
  omega
 ·have:=q.nx;show m.next+1<=_;omega
 rw[hnth];split
 ·rename_i e1;rw[e1]
 rfl
theorem D5.row{c:Nat}(q:D5 n c to m)(hb:b<n):D5 n (c+1) to (rowS s b m).2/\Ext m (rowS s b m).2/\(∀j,(nth (rowS s b m).2.blocks j).phis=(nth m.blocks j).phis)/\∀v∈(rowS s b m).1,Sd (rowS s b m).2 b (nth (rowS s b m).2.blocks b).ins.length v:=by
 unfold rowS;split
 ·obtain⟨h1,h2,h3,h4⟩:=q.took.took.constant (w:=jW s m) hb;refine⟨h1,⟨h2.ps,h2.len,h2.to,h2.phis,h2.ins⟩,h3,λv hv=>?_⟩;rw[RY.1 hv];exact h4
 have hlen:=q.gt.len;exact⟨q.mono V4,.refl,λj=>rfl,λv hv=>Ei q.ok.p0 V4 hv⟩
theorem D5.ups{c:Nat}{p:List Int}(q:D5 n c to m)(hp : ∀k,k<p.length->∃a:Nat,nth p k=a/\a<n) : ∀k,k<=p.length->
  D5 n (c+k) to (up (cQ s p) k ([],m)).2/\Ext m (up (cQ s p) k ([],m)).2/\(∀j,(nth (up (cQ s p) k ([],m)).2.blocks j).phis=(nth m.blocks j).phis)/\(up (cQ s p) k ([],m)).1.map InD.frm=p.take k/\
   ∀r∈(up (cQ s p) k ([],m)).1,∃a:Nat,r.frm=a/\a<n/\Sd (up (cQ s p) k ([],m)).2 a (nth (up (cQ s p) k ([],m)).2.blocks a).ins.length r.val
 | 0,_=>⟨q,.refl,λ_=>rfl,rfl,λr hr=>by cases hr⟩
 | k+1,hk=>by
  obtain⟨h1,h2,h3,h4,h5⟩:=D5.ups q hp k V4;obtain⟨a,ha,han⟩:=hp k V4;have e1:(up (cQ s p) (k+1) ([],m)).2=(rowS s (nth p k).toNat (up (cQ s p) k ([],m)).2).2.took:=rfl;have e2:(up (cQ s p) (k+1) ([],m)).1=(up (cQ s p) k ([],m)).1++[⟨nth p k,nth (rowS s (nth p k).toNat (up (cQ s p) k ([],m)).2).1 (aG s (rowS s (nth p k).toNat (up (cQ s p) k ([],m)).2).2.at_ (rowS s (nth p k).toNat (up (cQ s p) k ([],m)).2).1.length).toNat⟩]:=rfl;rw[e1,e2];generalize up (cQ s p) k ([],m)=y at h1 h2 h3 h4 h5;have hat:(nth p k).toNat=a:=by omega
  rw[hat];obtain⟨k1,k2,k3,k4⟩:=h1.row (s:=s) (b:=a) han;have hpos:=DP (s:=s) (b:=a) (m:=y.2);generalize rowS s a y.2=r at k1 k2 k3 k4 hpos;refine⟨k1.took,h2.trans ⟨k2.ps,k2.len,k2.to,k2.phis,k2.ins⟩,λj=>(k3 j).trans (h3 j),?_,λt ht=>?_⟩
  ·rw[TP,h4,Si V4];show p.take k++[nth p k]=_;rw[az V4]
  rcases R1.1 ht with ht | ht
  ·obtain⟨d,d1,d2,d3⟩:=h5 t ht;exact⟨d,d1,d2,d3.end k2⟩
  rw[RY.1 ht];refine⟨a,ha,han,k4 _ (bh ?_)⟩;have:=bU (s:=s) (at_:=r.2.at_) (n:=(r.1.length:Int)) V4;omega
theorem BF{i j:Nat}{l:List InD}(hb:b<m.blocks.length):nth (m.jM b i l).blocks j=if b=j then{ nth m.blocks b with phis:=(nth m.blocks b).phis.set i { nth (nth m.blocks b).phis i with ins:=l } } else nth m.blocks j:=by
 show nth (m.blocks.set b _) j=_;rcases Sb j m.blocks.length with hl | hl
 ·rw[bs hl]
 rw[bK (by simpa using hl),if_neg V4,bK hl]
theorem Mt{l:List PhiD}{i:Nat}{x:List InD}:(l.set i { nth l i with ins:=x }).map PhiD.dst=l.map PhiD.dst:=by
 refine TJ V5 λj h1 h2=>?_;have hj:j<l.length:=by simpa using h2
 rw[Ve,Ve,List.getElem_set];split
 ·rename_i e;subst e;rw[az hj]
 rfl
theorem D5.jM{c i:Nat}{l:List InD}(q:D5 n c to m)(hb:b<n):D5 n c to (m.jM b i l)/\Ext m (m.jM b i l):=by
 have hlen:=q.gt.len;have hbl:b<m.blocks.length:=by omega
 have hnth : ∀j,nth (m.jM b i l).blocks j=_:=λj=>BF (i:=i) (l:=l) hbl;have hl:(m.jM b i l).blocks.length=m.blocks.length:=SC;have hin : ∀j,(nth (m.jM b i l).blocks j).ins=(nth m.blocks j).ins:=λj=>by
  rw[hnth];split
  ·rename_i e;rw[e]
  rfl
 have htm : ∀j,(nth (m.jM b i l).blocks j).term=(nth m.blocks j).term:=λj=>by
  rw[hnth];split
  ·rename_i e;rw[e]
  rfl
 have hph : ∀j,(nth (m.jM b i l).blocks j).phis.map PhiD.dst=(nth m.blocks j).phis.map PhiD.dst:=λj=>by
  rw[hnth];split
  ·rename_i e;rw[<-e];exact Mt
  rfl
 have hmk : ∀j,mkB (nth (m.jM b i l).blocks j)=mkB (nth m.blocks j):=λj=>by unfold mkB;rw[hin,hph]
 have e:Ext m (m.jM b i l):=⟨rfl,hl,λj=>by rw[htm],λj v h=>by rw[hph];exact h,λj=>⟨[],by rw[hin];simp⟩⟩;have k:=q.ok;refine⟨⟨q.gt.ext e,⟨k.p0,k.pn,λc hc=>?_,λc hc=>?_,λc d hc hd=>?_,λc hc=>?_,λc hc i hi v hv=>?_,λc hc v hv=>?_⟩,λj hj=>by rw[htm];exact q.term j hj,λj hj=>by rw[hin];exact q.ins j hj,q.nx⟩,e⟩<;>rw[hl]at hc
 ·rw[hin];exact k.op c hc
 ·rw[hmk];exact k.nd c hc
 ·rw[hl]at hd;rw[hmk,hmk];exact k.dj c d hc hd
 ·rw[hmk];exact k.rg c hc
 ·rw[hin]at hi hv;exact(k.tk c hc i hi v hv).ext e
 rw[htm]at hv;exact(k.tm c hc v hv).end e
theorem IF{k:Nat}{b:Int}(hk:k<(aJ m.f b).length): ∃a:Nat,nth (aJ m.f b) k=a/\a<m.blocks.length:=z8 _ k hk
theorem IZ{b:Int}:(aJ m.f b).length<=m.blocks.length:=qv _
theorem D5.phi{c i:Nat}(q:D5 n c to m)(hb:b<n)(hi:i<(nth m.blocks b).phis.length):
  D5 n (c+n) to (phi3 s b (aJ m.f b) i m)/\Ext m (phi3 s b (aJ m.f b) i m)/\(∀j,(nth (phi3 s b (aJ m.f b) i m).blocks j).phis.length=(nth m.blocks j).phis.length)/\
   PhOk (phi3 s b (aJ m.f b) i m) (nth (nth (phi3 s b (aJ m.f b) i m).blocks b).phis i) b/\
   ∀d j,(d≠b\/j≠i)->nth (nth (phi3 s b (aJ m.f b) i m).blocks d).phis j=nth (nth m.blocks d).phis j:=by
 have hlen:=q.gt.len;obtain⟨h1,h2,h3,h4,h5⟩:=q.ups (s:=s) (p:=aJ m.f b) (λk hk=>by obtain⟨a,h1,h2⟩:=IF hk;exact⟨a,h1,by omega⟩) (aJ m.f b).length (RX _);have hp:=IZ (m:=m) (b:=b);unfold phi3;generalize up (cQ s (aJ m.f b)) (aJ m.f b).length ([],m)=y at h1 h2 h3 h4 h5;have hyl:=h1.gt.len;obtain⟨k1,k2⟩:=h1.jM (b:=b) (i:=i) (l:=y.1) hb;have hnth : ∀j,nth (y.2.jM b i y.1).blocks j=_:=λj=>BF (i:=i) (l:=y.1) (by omega:b<y.2.blocks.length);have hi2:i<(nth y.2.blocks b).phis.length:=by rw[h3];exact hi
 refine⟨k1.mono V4,h2.trans k2,λj=>?_,?_,λd j hd=>?_⟩
 ·rw[hnth];split
  ·rename_i e;rw[<-e,<-h3 b];show(List.set _ _ _).length=_;rw[SC]
  rw[h3]
 ·rw[hnth,if_pos rfl];show PhOk _ (nth ((nth y.2.blocks b).phis.set i _) i) b;rw[bs hi2,if_pos rfl];refine⟨?_,λt ht=>?_⟩
  ·rw[sy (h2.trans k2).len (h2.trans k2).to];show y.1.map InD.frm=_;rw[h4,SF]
  obtain⟨a,d1,d2,d3⟩:=h5 t ht;exact⟨a,d1,by rw[k2.len];omega,d3.end k2⟩
 rw[hnth];split
 ·rename_i e;subst e;show nth ((nth y.2.blocks b).phis.set i _) j=_;rw[<-h3 b];rcases Sb j (nth y.2.blocks b).phis.length with hl | hl
  ·rw[bs hl,if_neg (by rcases hd with hd | hd;exact absurd rfl hd;exact λe=>hd e.symm)]
  rw[bK (by simpa using hl),bK hl]
 rw[h3]
theorem D5.phis{c cnt:Nat}(q:D5 n c to m)(hb:b<n)(hc:(nth m.blocks b).phis.length=cnt) : ∀k,k<=cnt->
  D5 n (c+n*k) to (up (phi3 s b (aJ m.f b)) k m)/\Ext m (up (phi3 s b (aJ m.f b)) k m)/\(∀j,(nth (up (phi3 s b (aJ m.f b)) k m).blocks j).phis.length=(nth m.blocks j).phis.length)/\
   (∀i,i<k->PhOk (up (phi3 s b (aJ m.f b)) k m) (nth (nth (up (phi3 s b (aJ m.f b)) k m).blocks b).phis i) b)/\
   ∀d j,d≠b->nth (nth (up (phi3 s b (aJ m.f b)) k m).blocks d).phis j=nth (nth m.blocks d).phis j
 | 0,_=>⟨q,.refl,λ_=>rfl,λi hi=>absurd hi (Tx _),λ_ _ _=>rfl⟩
 | k+1,hk=>by
  obtain⟨h1,h2,h3,h4,h5⟩:=D5.phis q hb hc k V4;have e:up (phi3 s b (aJ m.f b)) (k+1) m=phi3 s b (aJ m.f b) k (up (phi3 s b (aJ m.f b)) k m):=rfl;rw[e];have ep:aJ m.f b=aJ (up (phi3 s b (aJ m.f b)) k m).f b:=(sy h2.len h2.to).symm;generalize hy:up (phi3 s b (aJ m.f b)) k m=y at h1 h2 h3 h4 h5 ep;rw[ep];obtain⟨k1,k2,k3,k4,k5⟩:=h1.phi (s:=s) (i:=k) hb (by rw[h3];omega);refine⟨k1.mono (by rw[Uh];omega),h2.trans k2,λj=>(k3 j).trans (h3 j),λi hi=>?_,λd j hd=>(k5 d j (.inl hd)).trans (h5 d j hd)⟩;rcases Sb i k with h | h
  ·rw[k5 b i (.inr V4)];exact(h4 i h).ext k2
  have:i=k:=by omega
  subst this;exact k4
theorem D5.blks{c:Nat}{lp:List Int}(q:D5 n c to m)(hc : ∀j,((nth m.blocks j).phis.length:Int)=nth lp j)(h3 : ∀j,nth lp j<=3) : ∀k,k<n->
  D5 n (c+n*3*k) to (up (blk3 s lp) k m)/\Ext m (up (blk3 s lp) k m)/\(∀j,(nth (up (blk3 s lp) k m).blocks j).phis.length=(nth m.blocks j).phis.length)/\
   ∀b,1<=b->b<=k->∀i,i<(nth m.blocks b).phis.length->PhOk (up (blk3 s lp) k m) (nth (nth (up (blk3 s lp) k m).blocks b).phis i) b
 | 0,_=>⟨q,.refl,λ_=>rfl,λb h1 h2=>by omega⟩
 | k+1,hk=>by
  obtain⟨h1,h2,h4,h5⟩:=D5.blks q hc h3 k V4;have e:up (blk3 s lp) (k+1) m=blk3 s lp k (up (blk3 s lp) k m):=rfl;rw[e];generalize up (blk3 s lp) k m=y at h1 h2 h4 h5;have hcnt:(nth y.blocks (k+1)).phis.length=(nth lp (k+1)).toNat:=by have:=hc (k+1);rw[h4];omega
  have hc3:=h3 (k+1);obtain⟨k1,k2,k3,k4,k5⟩:=h1.phis (s:=s) (b:=k+1) hk hcnt (nth lp (k+1)).toNat (RX _);have hbd:n*(nth lp (k+1)).toNat<=n*3:=Nat.mul_le_mul_left _ V4;have hms:n*3*(k+1)=n*3*k+n*3:=Uh _ _;refine⟨k1.mono (by rw[hms];omega),h2.trans k2,λj=>(k3 j).trans (h4 j),λb hb1 hb2 i hi=>?_⟩;rcases Sb k b with h | h
  ·have:b=k+1:=by omega
   subst this;have:=hc (k+1);exact k4 i V4
  have:=(h5 b hb1 h i hi).ext k2;rw[<-k5 b i V4]at this;exact this
theorem MH:D5 (aT s) 216 (fA s).1 (iK s)/\(∀j,(nth (iK s).blocks j).phis.length<=3)/\(nth (iK s).blocks 0).phis.length=0/\∀b,b<aT s->∀i,i<(nth (iK s).blocks b).phis.length->PhOk (iK s) (nth (nth (iK s).blocks b).phis i) b:=by
 obtain⟨n1,n2⟩:=fT (s:=s);obtain⟨q,h4⟩:=Mc (s:=s);obtain⟨p,_,_⟩:=sv (s:=s);obtain⟨_,pc⟩:=zz (s:=s);obtain⟨_,_,e0⟩:=Ey (s:=s);have d:D5 (aT s) 0 (fA s).1 (pM s).2:=⟨q.gt,q.ok,λj hj=>q.term j hj (h4 j hj),q.ins,by have:=q.nx;omega⟩;obtain⟨k1,k2,k3,k4⟩:=d.blks (s:=s) (lp:=(gL s).1) pc (λj=>(p.rng j).2) (aT s-1) V4;have e:up (blk3 s (gL s).1) (aT s-1) (pM s).2=iK s:=rfl;rw[e]at k1 k2 k3 k4;have hz:(nth (iK s).blocks 0).phis.length=0:=by rw[k3];have:=pc 0;omega
 have hm:aT s*3*(aT s-1)<=27*8:=T9 V4 V4;refine⟨k1.mono V4,λj=>?_,hz,λb hb i hi=>?_⟩
 ·rw[k3];have:=pc j;have:=(p.rng j).2;omega
 rcases SW b with h | h
 ·subst h;omega
 exact k4 b h V4 i (by rw[<-k3];exact hi)
theorem Fq{f:ak}{p i:Nat}(h : ∀j,j<f.blocks.length->(nth f.blocks j).phis.length<=p/\(nth f.blocks j).ins.length<=i) : ∀k,k<=f.blocks.length->wz f k<=f.blocks.length+(p+i)*k
 | 0,_=>by show f.blocks.length<=_;omega
 | k+1,hk=>by have ih:=Fq h k V4;have:=h k V4;show wz f k+_+_<=_;rw[Uh];omega
theorem K9:jV (sZ s):=by
 obtain⟨d,p3,p0,hph⟩:=MH (s:=s);obtain⟨n1,n2⟩:=fT (s:=s);have t:=Da (s:=s);have hlen:=d.gt.len;have hf:(sZ s)=(iK s).f:=rfl;rw[hf];have k:=d.ok;have hB:(iK s).f.blocks=(iK s).blocks:=rfl;have hP:(iK s).f.params=(iK s).ps:=rfl;have mp:0<=(iK s).ps/\(iK s).ps<=4:=xS (s:=s);have gt:=d.gt;have hto : ∀b,b<aT s->∀v∈(nth (iK s).blocks b).term.to,1<=v/\v<aT s:=λb hb v hv=>by rw[gt.to b hb]at hv;exact t.rng b v hv
 have way:=KF gt;have dn:=d.nx;have hins:=d.ins;have dt:=d.term;generalize iK s=m at *;refine⟨mp,⟨by rw[hB];omega,by rw[hB];omega⟩,?_,λt ht=>?_,A2 k.nd k.dj _ (RX _),λb hb=>?_,λt ht h0 v hv=>?_,λb i hb hi=>?_⟩
 ·have:=Fq (f:=m.f) (p:=3) (i:=261) (λj hj=>⟨p3 j,by have:=hins j (by rw[hB]at hj;omega);exact this⟩) _ (RX _);rw[hB,hlen]at this;rw[hB,hlen];omega
 ·have hmk : ∀n∈t.mks,m.f.params<=n/\n<=8191:=λv hv=>by obtain⟨b,hb,_,hm⟩:=JN ht hv;have:=k.rg b hb v hm;rw[hP];omega
  obtain⟨b,hb,hm⟩:=fe.1 ht;have hb':b<m.blocks.length:=hb;rcases gC.1 hm with⟨i,hi,rfl⟩ | ⟨i,hi,rfl⟩ | rfl
  ·have nl:mZ m.f (phiT m.f b i)=VG->False:=λh=>by have h1:-1-(i:Int)=((iY m.f (phiT m.f b i)).ins.length:Nat):=of_decide_eq_true h;omega
   refine⟨λh=>?_,λh=>(nl h).elim,hmk,λh=>(nl h).elim⟩;have h1:(0:Int)<=-1-(i:Int):=of_decide_eq_true ((Se _ _).mp h).1;omega
  ·have nl:mZ m.f (insT m.f b i)=VG->False:=λh=>by have h1:(i:Int)=((nth m.f.blocks ((b:Nat):Int).toNat).ins.length:Nat):=of_decide_eq_true h;rw[Sn]at h1;omega
   refine⟨λh=>?_,λh=>(nl h).elim,hmk,λh=>(nl h).elim⟩;refine(k.op b hb' _ ?_).1;show nth (nth m.f.blocks ((b:Nat):Int).toNat).ins ((i:Nat):Int).toNat∈_;rw[Sn,Sn];exact bh hi
  refine⟨λh=>?_,λh=>?_,hmk,λh v hv=>?_⟩
  ·have h1:(((nth m.f.blocks b).ins.length:Nat):Int)<((nth m.f.blocks ((b:Nat):Int).toNat).ins.length:Nat):=of_decide_eq_true ((Se _ _).mp h).2;rw[Sn]at h1;omega
  ·show lI (nth m.f.blocks ((b:Nat):Int).toNat).term=VG;rw[Sn];exact dt b V4
  have hv:v∈(nth m.f.blocks ((b:Nat):Int).toNat).term.to:=hv;rw[Sn]at hv;have:=hto b V4 v hv;rw[hB];omega
 ·exact way b (by rw[hB]at hb;omega)
 ·obtain⟨b,hb,hm⟩:=fe.1 ht;have hb':b<m.blocks.length:=hb;rcases gC.1 hm with⟨i,hi,rfl⟩ | ⟨i,hi,rfl⟩ | rfl
  ·exact absurd h0 (by show ¬(0:Int)<=-1-(i:Int);omega)
  ·exact xJ hb' (k.tk b hb' i hi v hv)
  exact xJ hb' (k.tm b hb' v hv)
 have hb':b<m.blocks.length:=hb;obtain⟨g1,g2⟩:=hph b V4 i hi;refine⟨?_,g1,λq hq=>?_⟩
 ·rcases SW b with h | h
  ·subst h;have hi:i<(nth m.blocks 0).phis.length:=hi;omega
  exact h
 obtain⟨c,h1,h2,h3⟩:=g2 q hq;rw[h1];have:=xJ h2 h3;show vO m.f q.val c (Aq m.f c);unfold Aq;rw[Sn];exact this
end
section
variable{f:ak}{b i:Nat}
theorem DC:mZ f (endT f b)=true:=by refine decide_eq_true ?_;show(((nth f.blocks b).ins.length:Nat):Int)=((nth f.blocks ((b:Nat):Int).toNat).ins.length:Nat);rw[Sn]
theorem Hr(hi:i<(nth f.blocks b).ins.length):wC f (insT f b i)=VG/\EI f (insT f b i)=nth (nth f.blocks b).ins i:=by
 refine⟨(Se _ _).mpr ⟨decide_eq_true (Int.natCast_nonneg _),decide_eq_true ?_⟩,?_⟩
 ·show(i:Int)<((nth f.blocks ((b:Nat):Int).toNat).ins.length:Nat);rw[Sn];omega
 show nth (nth f.blocks ((b:Nat):Int).toNat).ins ((i:Nat):Int).toNat=_;rw[Sn,Sn]
theorem NH:iY f (endT f b)=nth f.blocks b:=by show nth f.blocks ((b:Nat):Int).toNat=_;rw[Sn]
theorem jV.insG(m:jV f)(hb:b<f.blocks.length)(hi:i<(nth f.blocks b).ins.length):CS f (insT f b i)/\py (nth (nth f.blocks b).ins i)=false:=by have g:=m.good _ (fe.2 ⟨b,hb,gC.2 (.inr (.inl ⟨i,hi,rfl⟩))⟩);exact⟨g,by have:=g.op (Hr hi).1;rwa [(Hr hi).2]at this⟩
theorem jV.endG(m:jV f)(hb:b<f.blocks.length):lI (nth f.blocks b).term=VG/\∀n∈(nth f.blocks b).term.to,1<=n/\n<f.blocks.length:=by have g:=m.good _ (fe.2 ⟨b,hb,gC.2 (.inr (.inr rfl))⟩);have h1:=g.term DC;have h2:=g.to DC;rw[NH]at h1 h2;exact⟨h1,h2⟩
end
section
variable{f g:ak}{n:Nat}
end
def pG(f:ak):Bool:=decide ((mP f).1=0)
def dV(f:ak)(b p pat temp:Int):Option FitD:=if de f b p&&pG f then tryS (eh f b p temp) pat else VD
def dx(f:ak)(b p pat:Int):Option FitD:=if 1<=pat then dV f b p pat 0 else VD
def Hw:Option FitD->List Int | some x=>x.takes | none=>[]
def Hx:Option FitD->List Int | some x=>x.inner | none=>[]
def pF:Option FitD->List aU | some x=>x.code | none=>[]
def Ay:Option FitD->EndD | some x=>x.fin | none=>cT
theorem oz{f:ak}{i:InsD}:i∈ft f↔∃b k,b<f.blocks.length/\k<(nth f.blocks b).ins.length/\i=nth (nth f.blocks b).ins k:=by
 unfold ft;rw[Te];constructor
 ·rintro⟨x,hx,hi⟩;obtain⟨b,hb,rfl⟩:=Sy hx;obtain⟨k,hk,rfl⟩:=Sy hi;exact⟨b,k,hb,by rw[az hb];exact hk,by rw[az hb,az hk]⟩
 rintro⟨b,k,hb,hk,rfl⟩;exact⟨_,bh hb,bh hk⟩
theorem oL{H:View}{v:Value}{f:ak}(h:Rd H v f): ∀i∈ft f,-2147483648<=i.imm.v/\i.imm.v<=2147483647:=by intro i hi;obtain⟨b,k,hb,hk,rfl⟩:=oz.1 hi;obtain⟨c1,c2,c3⟩:=gn h;unfold Rd at h;rw[if_pos (show Rep.agg ak=VG from rfl)]at h;obtain⟨cs,rfl,d1,d2,e,h1,h2⟩:=h;obtain⟨vb,rfl⟩:=wX h2;have hs:=qZ.1 h2;have h3:=((hs.at hb).part BlkD.jm).sl;obtain⟨vi,-,h4⟩:=h3;rw[<-az hb]at h4;have:=((h4.at hk).part InsD.lL).sP;rw[az hk];exact this
theorem CN{f:ak}(m:jV f)(hsm:SmF f): ∀i∈ft f,xd i:=by
 intro i hi;obtain⟨b,k,hb,hk,rfl⟩:=oz.1 hi;obtain⟨-,h⟩:=m.insG hb hk;have hm:=(hsm.blk b hb).inn k hk;generalize nth (nth f.blocks b).ins k=i at *;unfold py at h;simp at h;obtain⟨⟨h1,h2⟩,h3⟩:=h;unfold tj at h3;refine⟨λho=>?_,λho=>?_,hm⟩
 ·rw[if_neg V4,if_neg V4,if_neg V4]at h3;simp at h3;omega
 rw[if_neg V4,if_pos V4]at h3;simp at h3;omega
theorem KI{f:ak}{b:Nat}(m:jV f)(hsm:SmF f)(hb:b<f.blocks.length):zp (nth f.blocks b).term:=by
 have h:=(m.endG hb).1;have s:=hsm.blk b hb;have s1:=s.args;have s2:=s.to;generalize (nth f.blocks b).term=t at *;refine⟨λho=>?_,s1,s2⟩;unfold lI at h;rcases ho with ho | ho
 ·rw[if_neg V4,if_pos ho]at h;simp at h;omega
 rw[if_neg V4,if_neg V4,if_pos ho]at h;simp at h;omega
theorem KQ:xd iH:=⟨λh=>by simp[iH]at h,λh=>by simp[iH]at h,by simp[iH]⟩
variable{b temp:Int}
theorem y9{f:ak}{p:Int}(m:jV f)(hsm:SmF f)(hr : ∀i∈ft f,-2147483648<=i.imm.v/\i.imm.v<=2147483647)(hp:de f b p=VG):np (eh f b p temp)/\zp (eh f b p temp).t/\((eh f b p temp).i=iH\/(eh f b p temp).i∈ft f)/\(eh f b p temp).f=f:=by
 simp[de]at hp;obtain⟨⟨⟨g1,g2⟩,g3⟩,g4⟩:=hp;have hb:b.toNat<f.blocks.length:=by omega
 unfold eh;by_cases e:p=(nth f.blocks b.toNat).ins.length
 ·rw[if_pos e];exact⟨⟨hsm,CN m hsm,KQ,hr⟩,KI m hsm hb,.inl rfl,rfl⟩
 rw[if_neg e];have hi:nth (nth f.blocks b.toNat).ins p.toNat∈ft f:=oz.2 ⟨_,_,hb,by omega,rfl⟩;exact⟨⟨hsm,CN m hsm,CN m hsm _ hi,hr⟩,⟨λh=>by simp[oq]at h,by simp[oq],by simp[oq]⟩,.inr hi,rfl⟩
theorem CY{f:ak}{v:Value}{p pat:Int}{h:Heap}{W:View}(hW:W.le (vw h))(hv:Rd W v (eh f b p temp))(m:jV f)(hsm:SmF f)(hr : ∀i∈ft f,-2147483648<=i.imm.v/\i.imm.v<=2147483647)(hM : ∀i∈ft f,i.op=15\/i.op=16->iu)(hpl:de f b p=VG)(hp:I64 pat):
  ay VI 93 #[v,Vz VA pat] h (λu h'=>cu W h h' u (tryS (eh f b p temp) pat)):=by
 obtain⟨h1,h2,h3,-⟩:=y9 (temp:=temp) m hsm hr hpl;refine PL hW hv (λ_=>h1) (λ_=>⟨h1,h2⟩) (λho=>?_) hp;rcases h3 with h3 | h3
 ·rw[h3]at ho;simp[iH]at ho
 exact hM _ h3 ho
theorem jH{f:ak}(h:pG f=VG):jV f:=PD (by simpa[pG]using h)
theorem D2{f:ak}{v:Value}{p pat:Int}{h:Heap}{W:View}(hW:W.le (vw h))(hv:Rd W v f)(hsm:SmF f)(hM : ∀i∈ft f,i.op=15\/i.op=16->iu)(hp:I64 pat):
  ay VI 112 #[v,Vz VA b,Vz VA p,Vz VA pat] h (λu h'=>(vw h).le (vw h')/\∃v1 v2,u = .tuple #[v1,v2,.bool (dx f b p pat).isSome]/\SlRd (vw h') v1 (Hw (dx f b p pat))/\SlRd (vw h') v2 (Hx (dx f b p pat))):=by
 refine ao (args:=[v,Vz VA b,Vz VA p,Vz VA pat]) follows Tryz.func112 E.qB Vu λK hK=>?_;dsimp only[L.qB,lkF,lkG];have c0:=Cx.start hW;refine aa λz hz=>?_;simp;refine c0.ef rfl hv λB h1 W1 hW1 c1 at1 hle1=>?_;subst hz;obtain⟨uf,huf,ruf⟩:=at1.ldN rfl (N:=2) rfl;have hr:=oL hv;refine aa λz hz=>?_;simp[huf _ c1.wle];refine ah V0 (Kw c1.wle ruf (by constructor<;>decide)) ?_;rintro _ h2 ⟨hle2,vs,rfl,hvs⟩;have c2:=c1.ext hle2;have hW2:=c1.up (h':=h2);simp;refine c2.eu (α:=cG) hvs (n:=13) (z:=.agg rI.toArray) V0 rfl rfl V0 V8 V8 λB2 h3 W3 hW3 c3 at3 hle3=>?_;subst hz;have huf3:=huf _ (Vx hW2 (Vx hW3 c3.wle));have ruf3:=ruf.mono (Vx hW2 (Vx hW3 c3.wle));have none_:dx f b p pat=VD->K (.tuple #[VE VD 0 0,VE VD 0 0,.bool VH]) h3:=λe=>hK _ _ ⟨c3.le0,_,_,by rw[e];rfl,by rw[e];exact aL,by rw[e];exact aL⟩;refine aa λz hz=>?_;cases hpl:de f b p with
 | false=>
  have e:dx f b p pat=none:=by unfold dx dV;rw[hpl];split<;>rfl
  simp;exact none_ e
 | true=>
  by_cases h1p:pat<1
  ·have e:dx f b p pat=none:=by unfold dx;rw[if_neg V4]
   simp[h1p];exact none_ e
  simp[h1p,huf3];refine ah V0 (zd ruf3 hsm) ?_;rintro _ h4 ⟨rfl,hle4⟩;have c4:=c3.ext hle4;have hW4:=c3.up (h':=h4);cases hrt:pG f with
  | false=>
   have e:dx f b p pat=none:=by unfold dx dV;rw[hpl,hrt];split<;>rfl
   have hrt2:decide ((mP f).1=0)=false:=hrt;simp[hrt2];exact hK _ _ ⟨c4.le0,_,_,by rw[e];rfl,by rw[e];exact aL,by rw[e];exact aL⟩
  | true=>
   have hrt2:decide ((mP f).1=0)=true:=hrt;have m:=jH hrt;have e:dx f b p pat=tryS (eh f b p 0) pat:=by unfold dx dV;rw[if_pos V4,hpl,hrt];rfl
   rw[e]at hK none_;have hpS:pE f b p 0=eh f b p 0:=by unfold pE;rw[hpl,if_pos rfl]
   rw[hpS]at at3;obtain⟨us,hus,rus⟩:=at3.ldN rfl (N:=13) rfl;have hus4:=hus _ (Vx hW4 c4.wle);simp[hrt2];subst hz;refine aa λz hz=>?_;simp[hus4];refine ah V0 (CY c4.wle (rus.mono hW4) m hsm hr hM hpl hp) ?_;rintro _ h5 ⟨hle5,vf,x,rfl,hvf,hx⟩;have c5:=c4.ext hle5;simp;refine c5.eu (α:=FitD) hvf (n:=8) (z:=.agg fitZ.toArray) V0 rfl rfl V0 V8 V8 λB3 h6 W6 hW6 c6 at6 hle6=>?_;subst hz;refine aa λz hz=>?_;cases hq:tryS (eh f b p 0) pat with
   | none=>rw[hq]at hK;simp;exact hK _ _ ⟨c6.le0,_,_,rfl,aL,aL⟩
   | some y=>
    obtain rfl:=hx y hq;rw[hq]at hK;obtain⟨v1,k1,s1⟩:=((at6.mono c6.wle).part FitD.Hl).sl;obtain⟨v2,k2,s2⟩:=((at6.mono c6.wle).part FitD.MY).sl;have k1:aq (vw h6) ⟨B3,0,VD⟩=VC v1:=by simpa using k1
    have k2:aq (vw h6) ⟨B3,1,VD⟩=VC v2:=by simpa using k2
    simp;subst hz;simp[k1,k2];exact hK _ _ ⟨c6.le0,_,_,rfl,s1,s2⟩
abbrev endZ:List Value:=[Vz VA 0,Vz VA 0,Vz VA 0,VE VD 0 0,Vz VB 0]
theorem qh{H:View}:Rd H (.agg endZ.toArray) cT:=by unfold Rd;rw[if_pos (show Rep.agg EndD=VG from rfl)];exact⟨_,rfl,ml V5 V6 aL⟩
theorem Js{f:ak}{v:Value}{p pat:Int}{h:Heap}{W:View}(hW:W.le (vw h))(hv:Rd W v f)(hsm:SmF f)(hM : ∀i∈ft f,i.op=15\/i.op=16->iu)(hp:I64 pat)(htm:I64 temp):
  ay VI 51 #[v,Vz VA b,Vz VA p,Vz VA pat,Vz VA temp] h (λu h'=>(vw h).le (vw h')/\∃v1 v2,u = .tuple #[v1,v2,.bool (dV f b p pat temp).isSome]/\SlRd (grow W h h') v1 (pF (dV f b p pat temp))/\Rd (grow W h h') v2 (Ay (dV f b p pat temp))):=by
 refine ao (args:=[v,Vz VA b,Vz VA p,Vz VA pat,Vz VA temp]) follows Tryz.func51 E.tL Vu λK hK=>?_;dsimp only[L.tL,lkF,lkG];have c0:=Cx.start hW;refine aa λz hz=>?_;simp;refine c0.ef rfl hv λB h1 W1 hW1 c1 at1 hle1=>?_;refine c1.cV (k:=(0,0)) (n:=4) (z:=.agg endZ.toArray) rfl V0 rfl V6 Vs λR h1' hle1' c1=>?_;subst hz;obtain⟨uf,huf,ruf⟩:=at1.ldN rfl (N:=2) rfl;have hr:=oL hv;refine aa λz hz=>?_;simp[huf _ c1.wle];refine ah V0 (Kw c1.wle ruf htm) ?_;rintro _ h2 ⟨hle2,vs,rfl,hvs⟩;have c2:=c1.ext hle2;have hW2:=c1.up (h':=h2);simp;refine c2.eu (α:=cG) hvs (n:=13) (z:=.agg rI.toArray) V0 rfl rfl V0 V8 V8 λB2 h3 W3 hW3 c3 at3 hle3=>?_;subst hz;have huf3:=huf _ (Vx hW2 (Vx hW3 c3.wle));have ruf3:=ruf.mono (Vx hW2 (Vx hW3 c3.wle));have none_ : ∀(hx:Heap) (Wx:View) (l9:List Value) (o:Own),dV f b p pat temp=VD->Cx W h Wx hx o->Rd Wx (.agg l9.toArray) cT->K (.tuple #[VE VD 0 0,.agg l9.toArray,.bool VH]) hx:=λhx Wx l9 o e c r=>hK _ _ ⟨c.le0,_,_,by rw[e];rfl,by rw[e];exact aL,by rw[e];exact r.mono (c.old.le c.wle)⟩;refine aa λz hz=>?_;cases hpl:de f b p with
 | false=>
  have e:dV f b p pat temp=none:=by unfold dV;rw[hpl];rfl
  simp;refine aA (t:=T.eX) (z:=.agg endZ.toArray) (places:=zpa) (vs:=[]) (cs:=endZ.toArray) V0 V0 V5 V0 ?_;refine c3.bJ (k:=(0,0)) (n:=4) (l:=endZ) V7 qh rfl rfl V0 rfl rfl λh9 l9 hl9 c9=>?_;have hall:=c9.all (k:=(0,0)) (n:=4) (l:=l9) (B:=R) (e:=T.eX) V7;simp at hall;simp[hall];exact none_ _ _ _ _ e c9 (hl9▸qh)
 | true=>
  simp[huf3];refine ah V0 (zd ruf3 hsm) ?_;rintro _ h4 ⟨rfl,hle4⟩;have c4:=c3.ext hle4;have hW4:=c3.up (h':=h4);cases hrt:pG f with
  | false=>
   have e:dV f b p pat temp=none:=by unfold dV;rw[hpl,hrt];rfl
   have hrt2:decide ((mP f).1=0)=false:=hrt;simp[hrt2];refine aA (t:=T.eX) (z:=.agg endZ.toArray) (places:=zpa) (vs:=[]) (cs:=endZ.toArray) V0 V0 V5 V0 ?_;refine c4.bJ (k:=(0,0)) (n:=4) (l:=endZ) V7 qh rfl rfl V0 rfl rfl λh9 l9 hl9 c9=>?_;have hall:=c9.all (k:=(0,0)) (n:=4) (l:=l9) (B:=R) (e:=T.eX) V7;simp at hall;simp[hall];exact none_ _ _ _ _ e c9 (hl9▸qh)
  | true=>
   have hrt2:decide ((mP f).1=0)=true:=hrt;have m:=jH hrt;have e:dV f b p pat temp=tryS (eh f b p temp) pat:=by unfold dV;rw[hpl,hrt];rfl
   rw[e]at hK none_;have hpS:pE f b p temp=eh f b p temp:=by unfold pE;rw[hpl,if_pos rfl]
   rw[hpS]at at3;obtain⟨us,hus,rus⟩:=at3.ldN rfl (N:=13) rfl;have hus4:=hus _ (Vx hW4 c4.wle);simp[hrt2];subst hz;refine aa λz hz=>?_;simp[hus4];refine ah V0 (CY c4.wle (rus.mono hW4) m hsm hr hM hpl hp) ?_;rintro _ h5 ⟨hle5,vf,x,rfl,hvf,hx⟩;have c5:=c4.ext hle5;simp;refine c5.eu (α:=FitD) hvf (n:=8) (z:=.agg fitZ.toArray) V0 rfl rfl V0 V8 V8 λB3 h6 W6 hW6 c6 at6 hle6=>?_;subst hz;refine aa λz hz=>?_;cases hq:tryS (eh f b p temp) pat with
   | none=>simp;refine aA (t:=T.eX) (z:=.agg endZ.toArray) (places:=zpa) (vs:=[]) (cs:=endZ.toArray) V0 V0 V5 V0 ?_;refine c6.bJ (k:=(0,0)) (n:=4) (l:=endZ) V7 qh rfl rfl V0 rfl rfl λh9 l9 hl9 c9=>?_;have hall:=c9.all (k:=(0,0)) (n:=4) (l:=l9) (B:=R) (e:=T.eX) V7;simp at hall;simp[hall];exact none_ _ _ _ _ hq c9 (hl9▸qh)
   | some y=>
    obtain rfl:=hx y hq;rw[hq]at hK;obtain⟨v1,k1,s1⟩:=(at6.part FitD.PM).sl;obtain⟨v2,k2,s2⟩:=(at6.part FitD.HA).ldN rfl (N:=5) rfl;have k1:aq W6 ⟨B3,2,VD⟩=VC v1:=by simpa using k1
    have k2:Un.ev W6 (.bI 5) (VF (VC ⟨B3,3,VD⟩))=VC v2:=by simpa using k2 W6 Vw
    simp;subst hz;refine aa λz hz=>?_;refine aN W6 c6.wle ?_;simp[k1,k2];refine c6.bJ (k:=(0,0)) (n:=4) (l:=endZ) V7 s2 rfl rfl V0 rfl rfl λh9 l9 hl9 c9=>?_;subst hz;have hall:=c9.all (k:=(0,0)) (n:=4) (l:=l9) (B:=R) (e:=T.eX) V7;simp at hall;simp[hall];exact hK _ _ ⟨c9.le0,_,_,rfl,s1.mono (c9.old.le c9.wle),hl9▸s2.mono (c9.old.le c9.wle)⟩
theorem LJ{a b:ByteArray}{n:Bool}:Bn.ev (.eqS n) (.string a) (.string b)=VC (.bool ((a.toList == b.toList) != n)):=rfl
end Go.Lft
