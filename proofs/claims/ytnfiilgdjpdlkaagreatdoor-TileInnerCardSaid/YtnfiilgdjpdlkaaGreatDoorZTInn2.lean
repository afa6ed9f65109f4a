/- A part of the proof: Wl, Wm, Wn, Wo, Wq, Wr, Ws, Wt, Ha, Hb, Hc, Pa, Pb, Pd, Pc, Pe, Pf, Pg, Ph, Hd, He, Hf, Hg. -/
import Derived.Test.YtnfiilgdjpdlkaaGreatDoorZTInn1
set_option linter.unusedSimpArgs false
set_option linter.unusedVariables false
open Go.Value renaming int->Pv,slice->PA,pointer->PB
open Go.IntKind renaming i64->Pw,i32->Px
open Option renaming some->Py,none->Pz
open Bool renaming true->PC,false->PD
open Go.Proofs.Tryz renaming prog->PE
namespace Go.Proofs.YtnfiilgdjpdlkaaGreatDoor
open Go Go.Lft
def oH (row:List Int) (n:Int) (i:Nat):Bool:=decide (0<=nth row i)&&decide (nth row i<n)
def kK (row:List Int) (n:Int):List Int:=Lib.compact (nX (sift (oH row n) (λi=>nth row i) row.length))
variable{row:List Int}
theorem B0{n:Int}{vr:Value}{h:Heap}(hr:SlRd (vw h) vr row)(hs:row.length<=1000000):
  az PE 140 #[vr,Pv Pw n] h (λv h'=>∃W,Mine nothing h h' W T.int v (kK row n)):=by
 refine au (args:=[vr,Pv Pw n]) follows Tryz.func140 E.dY Pp λK hK=>?_;simp[L.dY,hr.len];refine aO [0,1,5,8,9,10] (fun(v:Value) k=>[vr,Pv Pw n,v,vr,Pv Pw row.length,Pv Pw k]) (λv k h1=>Mine nothing h h1 nothing T.int v (sift (oH row n) (λi=>nth row i) k)) row.length (PA Pz 0 0)
  rfl P2 rfl (Mine.start (λ_ _ h=>by cases h)) (λ_ _=>rfl) (λv k h1 hk m=>by simp) ?_ ?_
 ·intro v k h1 hlt m K2 hK2;have hr1:=hr.mono m.old;have hrange:=hr.range hlt;have:=oz (p:=oH row n) (x:=λi=>nth row i) k;simp(disch:=omega)[hr1.idx1 rfl,hr1.int Ps,jH,-Bool.and_eq_true,-Bool.and_eq_false_imp];refine⟨λhe=>?_,λhe=>hK2 v _ _ rfl rfl (by rw[ll (show oH row n k=PD from he)];exact m)⟩;refine m.push El.aR (by simp<;>rfl) (nY hrange.1 hrange.2) P2 P2 P5 P5 λu v' h3 m'=>hK2 v' _ _ rfl rfl (by rw[mK (show oH row n k=PC from he)];exact m')
 intro v h1 m;simp;refine af P1 (Hr m.own) ?_;rintro _ h2 ⟨o2,k2⟩;have m2:=m.jf o2 ⟨k2,.inl rfl⟩;try simp
 refine af P1 (Bv m2.own) ?_;rintro v3 h3 ⟨o3,k3⟩;have m3:=m2.jf o3 k3;try simp
 exact hK _ _ ⟨_,m3⟩
def cY (g:Gr):Gr:=rows (λa=>kK (nth g a) g.length) g.length
def Sm (g:Gr):Prop:=g.length<=1000000/\∀i,i<g.length->(nth g i).length<=1000000
variable{W:View}
theorem E8{α:Type}[Rep α]:Rep.rd W (PA Pz 0 0).cells.toList ([]:List α):=⟨PA Pz 0 0,rfl,Pz,0,rfl,by simp,by simp,.inl rfl⟩
variable{vg:Value}
theorem z6{g:Gr}{h:Heap}(hg:SlRd (vw h) vg g)(hs:Sm g):
  az PE 141 #[vg] h (λv h'=>∃W,Mine nothing h h' W T.aR v (cY g)):=by
 refine au (args:=[vg]) follows Tryz.func141 E.dE Pp λK hK=>?_;have hs1:=hs.1;simp[L.dE,hg.len];refine Mine.made (α:=List Int) (V:=nothing) (W:=nothing) (h0:=h) (n:=g.length) (d:=[]) El.jw Ps (λ_ _ h=>by cases h) (Old.nothing _ _) (by simp<;>rfl) (by simp<;>rfl) E8 P2 P2 λv h1 m _ _=>?_;refine aO [0,3,9,10,11] (fun(_:View) k=>[vg,v,vg,Pv Pw g.length,Pv Pw k]) (λW k h2=>Mine nothing h h2 W T.aR v (rows (λa=>kK (nth g a) g.length) k++List.replicate (g.length-k) [])) g.length nothing
  rfl P2 rfl m (λ_ _=>rfl) (λv k h1 hk m=>by simp) ?_ ?_
 ·intro W a h2 hlta m K2 hK2;have hg2:=hg.mono m.old;obtain⟨rv,hrv⟩:=hg2.rows;obtain⟨cv,rr⟩:=hrv a hlta;have hl5:(rows (λa=>kK (nth g a) g.length) a++List.replicate (g.length-a) ([]:List Int)).length=g.length:=by simp;omega
  simp(disch:=omega)[hg2.idx1 rfl,cv _ Ps,hg.len];refine af P1 (B0 rr (hs.2 a hlta)) ?_;rintro r h3 ⟨W',mr⟩;have m3:=m.ext mr.old;have hr:=mr.fresh.mono (iU W _ _);simp(disch:=omega)[m3.now.idx1 rfl];refine m3.put1 (α:=List Int) (i:=a) P1 rfl Sa (by simp<;>rfl) P2 (dN.2 hr) λh4 m4=>hK2 (grow W h2 h3) _ _ rfl rfl ?_;rw[vH (x:=λa=>kK (nth g a) g.length) hlta]at m4;exact m4
 intro W h2 m;simp at m;simp;exact hK _ _ ⟨_,m⟩
theorem we{l:List Int}{x:Int}{v:Value}{h:Heap}{b:Addr}(hl:SlRd (vw h) v l)(hb:ak (vw h) b=Py v):
  az PE 146 #[Pv Pw x,PB (Py b)] h (λu h'=>u = .bool (decide (0<=x)&&decide (x<l.length))/\h'=h):=by refine au (args:=[Pv Pw x,PB (Py b)]) follows Tryz.func146 E.gu Pp λK hK=>?_;simp[L.gu,hb,hl.len];exact hK _ _ ⟨rfl,rfl⟩
variable{b:Int}
theorem yG{l:List Int}{a:Int}{v:Value}{h:Heap}(hl:SlRd (vw h) v l):
  az PE 123 #[v,Pv Pw a,Pv Pw b] h (λu h'=>u = .bool (dJ l a b)/\(vw h).le (vw h')):=by
 refine au (args:=[v,Pv Pw a,Pv Pw b]) follows Tryz.func123 E.cC Pp λK hK=>?_;have bl:=hl.bound;simp[L.cC];refine dm (v:=v) Sa ?_;have hvc:v.cells = #[v]:=by obtain⟨_,_,rfl,_⟩:=hl;rfl
 rw[hvc];have hle:=bQ h (.cells #[v] T.aR);have hl:=hl.mono hle;have hb:ak (vw (h.push (.cells #[v] T.aR))) ⟨h.size,0,Pz⟩=Py v:=by simp[ak,vw]
 generalize h.push (.cells #[v] T.aR)=h1 at hle hl hb;generalize h.size=B at hb;refine bN (ops:=[.tmp 10]) rfl P1 (by simpa using we (x:=a) hl hb) ?_;rintro _ _ ⟨rfl,rfl⟩;cases ha:decide (0<=a)&&decide (a<l.length)with
 | false=>
  have hsp:dJ l a b=false:=by simp only[N7,decide_eq_false_iff_not]at ha;simp[dJ];intros;omega
  rw[hsp]at hK;simp[grdP];exact hK _ _ ⟨rfl,hle⟩
 | true=>
  simp only[Lt,decide_eq_true_eq]at ha;simp[grdP];refine bN (ops:=[.tmp 15]) rfl P1 (by simpa using we (x:=b) hl hb) ?_;rintro _ _ ⟨rfl,rfl⟩;cases hbb:decide (0<=b)&&decide (b<l.length)with
  | false=>
   have hsp:dJ l a b=false:=by simp only[N7,decide_eq_false_iff_not]at hbb;simp[dJ];intros;omega
   rw[hsp]at hK;simp;exact hK _ _ ⟨rfl,hle⟩
  | true=>
   simp only[Lt,decide_eq_true_eq]at hbb;have hsp:dJ l a b=n8 l a (l.length+1) b:=by simp[dJ,ha,hbb]
   rw[hsp]at hK;simp(disch:=omega)[hb,hl.len];refine aO [1,2,3,6,7,21,22] (fun(c:Int) k=>[Pv Pw a,Pv Pw c,PB (Py ⟨B,0,Pz⟩),.bool PD,.func (.func 146) #[] #[PB (Py ⟨B,0,Pz⟩)],Pv Pw ((l.length:Int)+1),Pv Pw k])
    (λc k h2=>h2=_/\n8 l a (l.length+1-k) c=n8 l a (l.length+1) b) (l.length+1) b
    rfl P2 rfl ⟨rfl,rfl⟩ (λ_ _=>rfl) (λv k h1 hk m=>by simp) ?_ ?_
   ·rintro c k h2 hlt ⟨rfl,hch⟩ K2 hK2;have hfu:l.length+1-k=(l.length-k)+1:=by omega
    rw[hfu,n8]at hch;simp;refine⟨λhe=>hK _ _ ⟨by rw[<-hch,if_pos he.symm],hle⟩,λhe=>?_⟩;rw[if_neg (λe=>he e.symm)]at hch;refine bN (ops:=[.tmp 28]) rfl P1 (by simpa using we (x:=c) hl hb) ?_;rintro _ _ ⟨rfl,rfl⟩;cases hc:decide (0<=c)&&decide (c<l.length)with
    | false=>simp only[N7,decide_eq_false_iff_not]at hc;simp;exact hK _ _ ⟨by rw[<-hch,if_pos P2],hle⟩
    | true=>simp only[Lt,decide_eq_true_eq]at hc;rw[if_neg P2]at hch;simp(disch:=omega)[hb,hl.idx1 rfl,hl.int Ps];refine hK2 (nth l c.toNat) _ _ rfl rfl ⟨rfl,?_⟩;rw[<-hch];congr 1;omega
   rintro c h2 ⟨rfl,hch⟩;rw[OI,n8]at hch;simp;exact hK _ _ ⟨by rw[<-hch],hle⟩
def j0 (idom number:List Int):Nat->Int->Int->Option Int
 | 0,_,_=>Pz
 | n+1,a,b=>
  if 0<=a/\a<number.length/\a<idom.length/\0<=b/\b<number.length/\b<idom.length then
   if nth number b.toNat<nth number a.toNat then j0 idom number n (nth idom a.toNat) b
   else if nth number a.toNat<nth number b.toNat then j0 idom number n a (nth idom b.toNat)
   else Py a
  else Pz
variable{number:List Int}{n:Nat}
theorem wN{idom:List Int}{vi vn:Value}{h:Heap}{r:Int}(hi:SlRd (vw h) vi idom)(hn:SlRd (vw h) vn number){a:Int}(hc:j0 idom number n a b=Py r):
  az PE 145 #[vi,vn,Pv Pw a,Pv Pw b] h (λu h'=>u = Pv Pw r/\h'=h):=by
 refine au (args:=[vi,vn,Pv Pw a,Pv Pw b]) follows Tryz.func145 E.dg Pp λK hK=>?_;simp[L.dg];refine iD [0,1,2,3] (λm ρ h'=>∃(c d:Int),ρ=[(0,vi),(1,vn),(2,Pv Pw c),(3,Pv Pw d)]/\h'=h/\j0 idom number m c d=Py r) n ⟨a,b,rfl,rfl,hc⟩ ?_;rintro m ρ h' ⟨c,d,rfl,rfl,hc⟩ K2 hK2;cases m with
 | zero=>cases hc
 | succ m=>
  rw[j0]at hc;split at hc;case isFalse=>cases hc
  rename_i hr;obtain⟨r1,r2,r3,r4,r5,r6⟩:=hr;simp(disch:=omega)[L.dg.l1,hn.idx1 rfl,hn.int Ps];refine⟨λh1=>?_,λh1=>?_⟩
  ·rw[if_pos h1]at hc;simp(disch:=omega)[hi.idx1 rfl,hi.int Ps];exact hK2 m _ _ P2 ⟨_,_,rfl,rfl,hc⟩
  rw[if_neg P2]at hc;refine⟨λh2=>?_,λh2=>?_⟩
  ·rw[if_pos h2]at hc;simp(disch:=omega)[hi.idx1 rfl,hi.int Ps];exact hK2 m _ _ P2 ⟨_,_,rfl,rfl,hc⟩
  rw[if_neg P2]at hc;cases hc;exact hK _ _ ⟨rfl,rfl⟩
structure Wo (W:View) (h:Heap) (B:Nat) (vt vl:Value) (s:List Bool × List Int):Prop where
 wle:W.le (vw h)
 box:h[B]? = Py (.cells #[vl] T.aR (0,0))
 wB:W B=Pz
 avt:Av W vt
 avl:Av W vl
 nt:vt.ownBlock≠Py B
 nl:vl.ownBlock≠Py B
 ne:vl.ownBlock=Pz\/vl.ownBlock≠vt.ownBlock
 ot:OwnT nothing h T.bool vt s.1
 ol:OwnT nothing h T.int vl s.2
 nn:vt.ownBlock=Pz\/vt.ownBlock≠vl.ownBlock
theorem Wo.lt{W:View}{h:Heap}{B:Nat}{vt vl:Value}{s:List Bool × List Int}(k:Wo W h B vt vl s):B<h.size:=(Lu.1 k.box).1
theorem Wo.ext {W:View} {h h':Heap} {B:Nat} {vt vl:Value} {s:List Bool × List Int} (k:Wo W h B vt vl s) (hle:(vw h).le (vw h')):Wo W h' B vt vl s:=
 {k with wle:=Pt k.wle hle,box:=hle _ _ k.box,ot:=k.ot.ext hle,ol:=k.ol.ext hle }
variable{h':Heap}{vt vl:Value}
theorem Wo.flag{h:Heap}{B:Nat}{s:List Bool × List Int}{t':List Bool}(k:Wo W h B vt vl s)(o:OwnT nothing h' T.bool vt t')(m:kv h h' vt vt):Wo W h' B vt vl (t',s.2):=
 {k with
  wle:=(m.view k.wle k.avt).1
  box:=by rw[m.kept.block B k.lt (λe=>k.nt e.symm)];exact k.box
  ot:=o
  ol:=k.ol.kept m.kept k.ne }
theorem Wo.I5{h h'':Heap}{B:Nat}{vl':Value}{s:List Bool × List Int}{l':List Int}(k:Wo W h B vt vl s)(o:OwnT nothing h' T.int vl' l')(m:kv h h' vl vl')(hsz:h''.size=h'.size)(hB:h''[B]? = Py (.cells #[vl'] T.aR (0,0)))(hoth : ∀j,j≠B->h''[j]? = h'[j]?):Wo W h'' B vt vl' (s.1,l'):=by
 obtain⟨hw',ha'⟩:=m.view k.wle k.avl;have hlt:=k.lt;have nl':vl'.ownBlock≠Py B:=by
  rcases m.at_ with e | e
  ·rw[e];exact k.nl
  rw[e];intro e2;cases e2;omega
 have kep:Kept h' h'' (Py B):=⟨by omega,λj _ hj=>hoth j (λe=>hj (by rw[e]))⟩;refine⟨λb x hb=>?_,hB,k.wB,k.avt,ha',k.nt,nl',?_,?_,?_,?_⟩
 ·have hne:b≠B:=λe=>by rw[e,k.wB]at hb;cases hb
  show h''[b]? = _;rw[hoth b hne];exact hw' b x hb
 ·rcases m.at_ with e | e
  ·rw[e];exact k.ne
  right;rw[e];intro e2;have:=k.ot.lt e2.symm;omega
 ·exact(k.ot.kept m.kept k.nn).kept kep (.inr k.nt)
 ·exact o.kept kep (.inr nl')
 rcases m.at_ with e | e
 ·rw[e];exact k.nn
 right;rw[e];intro e2;have:=k.ot.lt e2;omega
theorem Wo.cell{h:Heap}{B:Nat}{s:List Bool × List Int}(k:Wo W h B vt vl s):ak (vw h) ⟨B,0,Pz⟩=Py vl:=by simp[ak,vw,k.box]
def nx (rows:Gr) (a:Int):List Int:=nth rows a.toNat
theorem Aw {rows:Gr} {vr:Value} {Tp R O:Addr} {B:Nat} (hs:rows.length<=1000000) (hin : ∀i,i<rows.length->∀j,j<(nth rows i).length->0<=nth (nth rows i) j/\nth (nth rows i) j<rows.length) : ∀(n:Nat) {M:Nat} {W:View} {h:Heap} {vt vl:Value} {s:List Bool × List Int} {a:Int},Wo W h B vt vl s->SlRd W vr rows->
  ak W Tp=Py vt->ak W R=Py vr->ak W O=Py (.func (.func 142) #[] #[PB (Py Tp),PB (Py R),PB (Py O),PB (Py ⟨B,0,Pz⟩)])->0<=a->a<rows.length->s.1.length=rows.length->nth s.1 a.toNat=PD->
  cV s.1<=n->s.2.length+cV s.1<=M->M<=1000000->
  az PE 142 #[Pv Pw a,PB (Py Tp),PB (Py R),PB (Py O),PB (Py ⟨B,0,Pz⟩)] h (λ_ h'=>∃vl',Wo W h' B vt vl' (iX (nx rows) n a s)/\(iX (nx rows) n a s).2.length+cV (iX (nx rows) n a s).1<=M)
 | 0,M,W,h,vt,vl,s,a,k,hg,hT,hR,hO,h0,h1,hl,hf,hc,hb,hM=>by exfalso;have:=iW (t:=s.1) (i:=a.toNat) P2 hf;omega
 | n+1,M,W,h,vt,vl,(t,l),a,k,hg,hT,hR,hO,h0,h1,hl,hf,hc,hb,hM=>by
  obtain⟨i,rfl⟩:=NY h0;simp only at hl hf hc hb;have hfs:=iW (t:=t) (i:=i) P2 (by simpa using hf);refine au (args:=[Pv Pw i,PB (Py Tp),PB (Py R),PB (Py O),PB (Py ⟨B,0,Pz⟩)]) follows Tryz.func142 E.dc Pp λK hK=>?_;have hnow:SlRd (vw h) vt t:=k.ot.now (λ_ _ h=>by cases h);simp(disch:=omega)[L.dc,ae k.wle hT,hnow.idx1 rfl];refine sK (W:=nothing) (i:=i) (d:=true) P1 (by simp[show Rep.n Bool=1 from rfl]) (by simp<;>rfl) k.ot (by simpa using by omega) IE λh2 o2 m2=>?_;have k2:=k.flag o2 m2;have hg2:=hg.mono k2.wle;obtain⟨rv,hrv⟩:=hg.rows;obtain⟨cv,rr⟩:=hrv i P2;have br:=rr.bound;have hov:iX (nx rows) (n+1) i (t,l)=((up (cD (nx rows) n i) (nx rows i).length (t.set i PC,l)).1,(up (cD (nx rows) n i) (nx rows i).length (t.set i PC,l)).2++[(i:Int)]):=jS;rw[hov]at hK;have hnx:nx rows i=nth rows i:=rfl;rw[hnx]at hK;simp(disch:=omega)[ae k2.wle hR,hg2.idx1 rfl,cv _ k2.wle,rr.len];refine aO [0,1,2,3,4,14,15,16] (fun(_:Value) j=>[Pv Pw i,PB (Py Tp),PB (Py R),PB (Py O),PB (Py ⟨B,0,Pz⟩),rv i,Pv Pw (nth rows i).length,Pv Pw j]) (λvl j h4=>Wo W h4 B vt vl (up (cD (nx rows) n i) j (t.set i PC,l))/\(up (cD (nx rows) n i) j (t.set i PC,l)).2.length+cV (up (cD (nx rows) n i) j (t.set i PC,l)).1<=M-1) (nth rows i).length vl
   rfl P2 rfl ⟨k2,by simp[up];omega⟩ (λ_ _=>rfl) (λv j h4 hk m=>by simp) ?_ ?_
  ·rintro vl j h4 hltj ⟨k4,hb4⟩ K2 hK2;have hinv:=sP (λs:List Bool × List Int=>s.1.length=rows.length/\cV s.1<=n) (f:=cD (nx rows) n i) (λk x hx=>by
    unfold cD;split
    ·exact hx
    exact om n _ x hx) j (t.set i PC,l) ⟨by simpa using hl,by simp only;omega⟩;generalize hx:up (cD (nx rows) n i) j (t.set i PC,l)=x at k4 hb4 hinv;obtain⟨e0,e1⟩:=hin i P2 j hltj;have hr4:=rr.mono k4.wle;have hnow4:=k4.ot.now (λ_ _ h=>by cases h);simp(disch:=omega)[ae k4.wle hT,hr4.idx1 rfl,hr4.int Ps,hnow4.idx1 rfl,hnow4.bool Ps,jH];refine⟨λhe=>?_,λhe=>hK2 vl _ _ rfl rfl ?_⟩
   ·simp[ae k4.wle hO];refine bN (ops:=[.tmp 26]) rfl P1 (by simpa using Aw hs hin n k4 hg hT hR hO e0 e1 hinv.1 he hinv.2 hb4 P2) ?_;rintro _ h5 ⟨⟨vl',k5⟩,hb5⟩;have hst:up (cD (nx rows) n i) (j+1) (t.set i PC,l)=iX (nx rows) n (nth (nth rows i) j) x:=by rw[up,hx,cD,show nx rows i=nth rows i from rfl,he];rfl
    refine hK2 vl' _ _ rfl rfl ?_;rw[hst];exact⟨k5,hb5⟩
   have hst:up (cD (nx rows) n i) (j+1) (t.set i PC,l)=x:=by rw[up,hx,cD,show nx rows i=nth rows i from rfl,he];rfl
   rw[hst];exact⟨k4,hb4⟩
  rintro vl h4 ⟨k4,hb4⟩;generalize hx:up (cD (nx rows) n i) (nth rows i).length (t.set i PC,l)=x at k4 hb4 hK;simp[k4.cell];refine mC (α:=Int) (W:=nothing) El.aR (by simp<;>rfl) (nY P2 P2) λu h5 hsrc hle5 _=>?_;have k5:=k4.ext hle5;refine df El.aR Sa Sa k5.ol hsrc P9 P9 λvl' h6 o6 m6=>?_;have hB6:h6[B]? = Py (.cells #[vl] T.aR (0,0)):=by rw[m6.kept.block B k5.lt (λe=>k5.nl e.symm)];exact k5.box
  obtain⟨hcells,hone⟩:=kS o6;refine ef (g:=B) (o:=0) (n:=1) (v:=vl') P1 Sa Sa (by rw[hcells];rfl) (by rw[hcells];simpa using hone) hB6 Sa λh7 hsz7 ⟨row,hrow,he⟩ hoth=>hK _ _ ⟨vl',?_,?_⟩
  ·have hrow2:row = #[vl']:=by rw[<-Array.toList_inj,he,hcells];rfl
   rw[hrow2]at hrow;exact k5.I5 o6 m6 hsz7 hrow hoth
  simp;omega
def bf (g:Gr):List Int:=kH (nx (cY g)) g.length
theorem gD{g:Gr}:(cY g).length=g.length:=by simp[cY]
theorem sr{g:Gr}: ∀i,i<(cY g).length->∀j,j<(nth (cY g) i).length->0<=nth (nth (cY g) i) j/\nth (nth (cY g) i) j<(cY g).length:=by
 intro i hi j hj;rw[gD]at hi;have hm:=bC hj;rw[cY,ft hi,kK]at hm;have h2:=og hm;rw[nX,OS,pa]at h2;simp only[MN,NA,M0,oH,Lt,decide_eq_true_eq]at h2;obtain⟨k,⟨_,h3⟩,h4⟩:=h2;rw[gD];have e:nth (nth (cY g) i) j=nth (nth g i) k:=by rw[cY,ft hi,kK,h4,nX,pa]
 rw[e];exact h3
theorem Af{g:Gr}{h:Heap}(hg:SlRd (vw h) vg g)(hs:Sm g):
  az PE 119 #[vg] h (λv h'=>(vw h).le (vw h')/\SlRd (fresh h h') v (bf g)):=by
 refine au (args:=[vg]) follows Tryz.func119 E.mf Pp λK hK=>?_;have hs1:=hs.1;simp[L.mf,hg.len];refine⟨λh0=>?_,λh0=>?_⟩
 ·exact hK _ _ ⟨View.le_refl _,⟨Pz,0,by simp[bf,kH,h0],by simp[bf,kH,h0],by simp[bf,kH,h0],.inl (by simp[bf,kH,h0])⟩⟩
 refine af P1 (z6 hg hs) ?_;rintro vr h1 ⟨W1,m1⟩;have hvr:=m1.now;obtain⟨hrc,hro⟩:=kS m1.own;refine sA (z:=PA Pz 0 0) P1 rfl P1 hrc hro P5 P5 λh2 hle2 hsz2 hR2=>?_;refine ny (W:=nothing) (n:=g.length) (d:=false) El.nh (by simp<;>rfl) (by simp<;>rfl) rfl P2 P2 λvt h3 o3 m3 hle3 hb3=>?_;obtain⟨htc,hto⟩:=kS o3;refine sA (z:=PA Pz 0 0) P1 rfl P1 htc hto P5 P5 λh4 hle4 hsz4 hT4=>?_;refine dw (z:=PA Pz 0 0) P1 ?_;refine dw (z:=.nilFunc) P1 ?_;have hsz3:h2.size<h3.size:=o3.lt hb3;have hle6:(vw h4).le (vw ((h4.push (.cells (PA Pz 0 0).cells T.aR)).push (.cells Value.nilFunc.cells T.zZ))):=Pt (bQ _ _) (bQ _ _);refine ef (g:=h4.size+1) (o:=0) (n:=1) (e:=T.zZ) (cur:=#[.nilFunc]) (v:=.func (.func 142) #[] #[PB (Py ⟨h3.size,0,Pz⟩),PB (Py ⟨h1.size,0,Pz⟩),PB (Py ⟨h4.size+1,0,Pz⟩),PB (Py ⟨h4.size,0,Pz⟩)]) P1 Sa Sa rfl P8 (by rw[show h4.size+1=(h4.push (.cells (PA Pz 0 0).cells T.aR)).size by simp];exact NT) Sa λh7 hsz7 ⟨row,hrow,he⟩ hoth=>?_;have hrow2:row = #[.func (.func 142) #[] #[PB (Py ⟨h3.size,0,Pz⟩),PB (Py ⟨h1.size,0,Pz⟩),PB (Py ⟨h4.size+1,0,Pz⟩),PB (Py ⟨h4.size,0,Pz⟩)]]:=by rw[<-Array.toList_inj,he];rfl
 rw[hrow2]at hrow;have hle7:(vw h4).le (vw h7):=λb o hb=>by have hlt:=View.lt (View.le_refl (vw h4)) hb;show h7[b]? = _;rw[hoth b P2];exact hle6 b o hb
 have hL7:h7[h4.size]? = Py (.cells #[PA Pz 0 0] T.aR (0,0)):=by rw[hoth _ P2,Array.getElem?_push,if_neg Sa,NT];rfl
 have hle27:=Pt hle3 (Pt hle4 hle7);have hle17:=Pt hle2 hle27;obtain⟨W,hW⟩ : ∃W:View,W=λb=>if b=h2.size\/b=h4.size then Pz else h7[b]?:=⟨_,rfl⟩;have hWle:W.le (vw h7):=by
  intro b o hb;rw[hW]at hb;simp only at hb;split at hb
  ·cases hb
  exact hb
 have hW1:(vw h1).le W:=λb o hb=>by have hlt:=View.lt (View.le_refl (vw h1)) hb;rw[hW];simp only;rw[if_neg P2];exact hle17 b o hb
 have k7:Wo W h7 h4.size vt (PA Pz 0 0) (List.replicate g.length PD,[]):=
  ⟨hWle,hL7,by rw[hW];simp,λb hb=>by rw[hb3]at hb;cases hb;rw[hW];simp,Av.nil _ _ _,by rw[hb3];intro e;simp only[Ln]at e;omega,by simp[Value.ownBlock],.inl rfl,
   (o3.ext hle4).ext hle7,OwnT.nil ..,.inr (by rw[hb3];simp[Value.ownBlock])⟩
 have hT:ak W ⟨h3.size,0,Pz⟩=Py vt:=by
  have h5:W h3.size=Py (.cells #[vt] T.nh (0,0)):=by rw[hW];simp only;rw[if_neg P2];exact hle7 _ _ hT4
  simp[ak,h5]
 have hR:ak W ⟨h1.size,0,Pz⟩=Py vr:=by
  have h5:W h1.size=Py (.cells #[vr] T.jw (0,0)):=by rw[hW];simp only;rw[if_neg P2];exact hle27 _ _ hR2
  simp[ak,h5]
 have hO:ak W ⟨h4.size+1,0,Pz⟩=Py (.func (.func 142) #[] #[PB (Py ⟨h3.size,0,Pz⟩),PB (Py ⟨h1.size,0,Pz⟩),PB (Py ⟨h4.size+1,0,Pz⟩),PB (Py ⟨h4.size,0,Pz⟩)]):=by
  have h5:W (h4.size+1)=h7[h4.size+1]?:=by rw[hW];simp only;rw[if_neg P2]
  rw[hrow]at h5;simp[ak,h5]
 have hvrW:=hvr.mono hW1;have hlen:g.length≠0:=by simpa using h0
 have hcl:=gD (g:=g);have hfa:cV (List.replicate g.length PD)=g.length:=by simp[cV]
 simp[ae hWle hO];refine bN (ops:=[.const (Pv Pw 0)]) (f:=142) (caps:=#[PB (Py ⟨h3.size,0,Pz⟩),PB (Py ⟨h1.size,0,Pz⟩),PB (Py ⟨h4.size+1,0,Pz⟩),PB (Py ⟨h4.size,0,Pz⟩)]) Sa P1
  (by simpa using Aw P2 sr g.length (M:=g.length) k7 hvrW hT hR hO (a:=0) P2 P2 (by simp[hcl]) (by rw[aA P9];simp) (by rw[hfa];exact Lp _) (by simp[hfa]) P2) ?_;rintro _ h8 ⟨⟨vl,k8⟩,hb8⟩;have hord:bf g=(iX (nx (cY g)) g.length 0 (List.replicate g.length PD,[])).2.reverse:=by simp[bf,kH,h0]
 rw[hord]at hK;generalize iX (nx (cY g)) g.length 0 (List.replicate g.length PD,[])=s at k8 hb8 hK;simp[k8.cell];refine af P1 (AW k8.ol) ?_;rintro _ h9 ⟨o9,k9⟩;have hB9:h9[h4.size]? = Py (.cells #[vl] T.aR (0,0)):=by rw[k9.block _ k8.lt (λe=>k8.nl e.symm)];exact k8.box
 have hc9:ak (vw h9) ⟨h4.size,0,Pz⟩=Py vl:=by simp[ak,vw,hB9]
 have hW9:=k9.view k8.wle k8.avl;have hle9:(vw h).le (vw h9):=Pt (Pt m1.old hW1) hW9;have hav:Av (vw h) vl:=λb hb=>by
  cases hx:vw h b with
  | none=>rfl
  | some o=>have:=(Pt m1.old hW1) _ _ hx;rw[k8.avl b hb]at this;cases this
 simp[hc9];exact hK _ _ ⟨hle9,o9.fresh (λ_ _ h=>by cases h) hav⟩
def jE (f:Nat->List Int) (n:Nat):List (Int × Int):=(List.range n).flatMap λa=>(f a).map λb=>((a:Int),b)
theorem iR{f:Nat->List Int}:jE f (n+1)=jE f n++(f n).map λb=>((n:Int),b):=by simp[jE,NB]
theorem DI{f:Nat->List Int}{m:Nat}(h:n<=m): ∃t,jE f m=jE f n++t:=by
 induction m with
 | zero=>exact⟨[],by simp[show n=0 by omega]⟩
 | succ m ih=>
  rcases Lr n (m+1)with h1 | h1
  ·obtain⟨t,ht⟩:=ih P2;exact⟨t++(f m).map λb=>((m:Int),b),by rw[iR,ht,LB]⟩
  exact⟨[],by simp[show n=m+1 by omega]⟩
theorem Da{f:Nat->List Int}{a j:Nat}(ha:a<n)(hj:j<(f a).length):(jE f n)[(jE f a).length+j]? = Py ((a:Int),nth (f a) j):=by obtain⟨t,ht⟩:=DI (f:=f) (n:=a+1) (m:=n) P2;rw[ht,iR,LB,List.getElem?_append_right P2,O4,OU (by simpa using hj)];simp[aA hj,hj]
def iz (g:Gr):List (Int × Int):=jE (λa=>nth (cY g) a) g.length
def D8 (e:Int × Int):List Value:=[Pv Pw e.1,Pv Pw e.2]
def xY (g:Gr):List (List Value):=(iz g).map D8
theorem FE{h:Heap}:
  az PE 144 #[vg] h (λv h'=>v = .func (.func 150) #[] #[PB (Py ⟨h.size,0,Pz⟩)]/\h'=h.push (.cells vg.cells T.jw)):=by refine au (args:=[vg]) follows Tryz.func144 E.mj Pp λK hK=>?_;simp[L.mj];refine dm rfl ?_;simp;exact hK _ _ ⟨rfl,rfl⟩
theorem As{g:Gr}{V:View}{p:Addr}(hg:SlRd V vg g)(hp:ak V p=Py vg)(hs:Sm g):Iter PE 150 [PB (Py p)] V (xY g):=by
 intro l J W h hM hV hVl h0 hround;have hW:=(hM PC 0).le h0;refine au (args:=[.func (.yield l) #[] #[],PB (Py p)]) follows Tryz.func150 E.cg Pp λK hK=>?_;simp[L.cg,ae (Pt hV hW) hp];refine af P1 (z6 (hg.mono (Pt hV hW)) hs) ?_;rintro vr h1 ⟨W1,m1⟩;have hJ1:=(hM PC 0).grown h0 (Lp _) m1.old;have hr1:=m1.fresh.mono (iU W h h1);have hag : ∀b,b<h.size->grow W h h1 b=W b:=λb hb=>gQ hb;generalize grow W h h1=W2 at hJ1 hr1 hag;have hlen:=hr1.bound;have hcl:=gD (g:=g);obtain⟨rv,hrv⟩:=hr1.rows;simp[hr1.len];have hall : ∀{a j:Nat},a<(cY g).length->j<(nth (cY g) a).length->(xY g)[(jE (λa=>nth (cY g) a) a).length+j]? = Py [Pv Pw a,Pv Pw (nth (nth (cY g) a) j)]:=by intro a j ha hj;rw[xY,Nl,iz,Da (f:=λa=>nth (cY g) a) P2 hj];rfl
 refine aO [0,8,9,10] (fun(_:Unit) k=>[.func (.yield l) #[] #[],vr,Pv Pw (cY g).length,Pv Pw k]) (λ_ k h2=>J PC (jE (λa=>nth (cY g) a) k).length W2 h2) (cY g).length ()
  rfl P2 rfl hJ1 (λ_ _=>rfl) (λv k h1 hk m=>by simp) ?_ ?_
 ·intro _ a h2 hlt hJ2 K2 hK2;have hW2:=(hM _ _).le hJ2;obtain⟨cv,rr⟩:=hrv a hlt;have br:=rr.bound;simp(disch:=omega)[hr1.idx1 rfl,cv _ hW2,rr.len];refine aO [0,8,9,10,3,15,16,17] (fun(_:Unit) j=>[.func (.yield l) #[] #[],vr,Pv Pw (cY g).length,Pv Pw a,Pv Pw a,rv a,Pv Pw (nth (cY g) a).length,Pv Pw j])
   (λ_ j h3=>J PC ((jE (λa=>nth (cY g) a) a).length+j) W2 h3) (nth (cY g) a).length () rfl P2 rfl hJ2 (λ_ _=>rfl) (λv k h1 hk m=>by simp) ?_ ?_
  ·intro _ j h3 hlt3 hJ3 K3 hK3;have hW3:=(hM _ _).le hJ3;simp(disch:=omega)[rr.idx1 rfl,rr.int hW3];refine Fz (ops:=[.tmp 22,.tmp 23]) rfl (by simpa using hround _ _ W2 h3 hag (hall hlt hlt3) hJ3) ?_;rintro b h4 ⟨W4,e1,e2,hJ4⟩;cases b with
   | true=>obtain rfl:=e2 rfl;simp[jH];exact hK3 () _ _ rfl rfl hJ4
   | false=>simp[jH];exact hK _ _ ⟨PD,_,W4,λi hi hne=>by rw[e1 i hne,hag i hi],hJ4,λh=>by cases h⟩
  intro _ h3 hJ3;simp;refine hK2 () _ _ rfl rfl ?_;rw[iR,Lx,M5];exact hJ3
 intro _ h2 hJ2;simp;refine hK _ _ ⟨PC,_,W2,λi hi _=>hag i hi,hJ2,λ_=>?_⟩;rw[xY,M5,iz,hcl]
def ez (p:Gr) (e:Int × Int):Gr:=p.set e.2.toNat (nth p e.2.toNat++[e.1])
def dd (g:Gr):Gr:=(iz g).foldl ez (List.replicate g.length [])
theorem tH{β γ:Type}{f:β->γ->β}{l:List γ}{k:Nat}{x:γ}{b:β}(h:l[k]? = Py x):(l.take (k+1)).foldl f b=f ((l.take k).foldl f b) x:=by rw[OZ,h,Nn];rfl
theorem oR{g:Gr}{e:Int × Int}(h:e∈iz g):(0<=e.1/\e.1<g.length)/\0<=e.2/\e.2<g.length:=by simp only[iz,jE,List.mem_flatMap,M0,MN]at h;obtain⟨a,ha,b,hb,rfl⟩:=h;obtain⟨j,hj,rfl⟩:=LO hb;have:=sr a (by rw[gD];exact ha) j hj;rw[gD,aA hj]at this;exact⟨⟨by omega,by simp only;omega⟩,this⟩
theorem ni{l:List (Int × Int)}{p:Gr}:(l.foldl ez p).length=p.length:=by
 induction l generalizing p with
 | nil=>rfl
 | cons e l ih=>rw[LR,ih];simp[ez]
theorem Ar{l:List (Int × Int)}{p:Gr}{i m:Nat}(hp:(nth p i).length<=m):(nth (l.foldl ez p) i).length<=m+l.length:=by
 induction l generalizing p m with
 | nil=>exact hp
 | cons e l ih=>
  rw[LR];have:=ih (p:=ez p e) (m:=m+1) ?_
  ·simp only[ME];omega
  unfold ez;rcases Lr i p.length with hi | hi
  ·rw[bz hi];split
   ·rename_i h;rw[h];simp;omega
   omega
  rw[cL (by simpa using hi)];simp[default]
theorem xO{n:Int}:(kK row n).length<=row.length:=by have h1:=oz (p:=oH row n) (x:=λi=>nth row i) row.length;have h2:(nX (sift (oH row n) (λi=>nth row i) row.length)).length=(sift (oH row n) (λi=>nth row i) row.length).length:=List.length_mergeSort _;have h3:=th (l:=nX (sift (oH row n) (λi=>nth row i) row.length));rw[kK];omega
theorem Dp{f:Nat->List Int}{m:Nat}(h : ∀a,a<n->(f a).length<=m):(jE f n).length<=n*m:=by
 induction n with
 | zero=>simp[jE]
 | succ n ih=>have:=ih λa ha=>h a P2;have:=h n P2;rw[iR,Lx,M5,MH];omega
theorem AK{g:Gr}(hs:Sm g):(iz g).length<=1000000000000:=by
 have h1:=Dp (f:=λa=>nth (cY g) a) (n:=g.length) (m:=1000000) λa ha=>by have:=hs.2 a ha;rw[cY,ft ha];exact LG xO this
 have h2:g.length*1000000<=1000000*1000000:=LQ _ hs.1;rw[iz];omega
theorem zl{g:Gr}{h:Heap}(hg:SlRd (vw h) vg g)(hs:Sm g):
  az PE 120 #[vg] h (λv h'=>(vw h).le (vw h')/\SlRd (fresh h h') v (dd g)):=by
 refine z7 (args:=[vg]) follows Tryz.func120 E.mb Pp λK hK=>?_;have hs1:=hs.1;have hel:=AK hs;simp[L.mb,hg.len];refine EL (n:=g.length) El.jw (by simp<;>rfl) (by simp<;>rfl) rfl P2 P2 ?_;refine sA (z:=PA Pz 0 0) (v:=PA (Py ⟨h.size,0,Pz⟩) g.length g.length) P1 rfl P1 rfl rfl P5 P5 λh2 hle2 hsz2 hB2=>?_;have hle02:(vw h).le (vw h2):=Pt (bQ _ _) hle2;have hg2:h2[h.size]? = Py (.cells (List.replicate g.length (PA Pz 0 0)).toArray T.aR (0,0)):=hle2 _ _ (show(h.push _)[h.size]? = _ by simp);simp at hsz2 hB2;simp;refine af P1 FE ?_;rintro _ _ ⟨rfl,rfl⟩;have hgc:=hg.cells.1;rw[hgc];have hle3:=bQ h2 (.cells #[vg] T.jw);generalize hh3:h2.push (.cells #[vg] T.jw)=h3 at hle3;have hsz3:h3.size=h.size+3:=by rw[<-hh3];simp[hsz2]
 obtain⟨W0,hW0⟩ : ∃W:View,W=λb=>if b=h.size then Pz else h3[b]?:=⟨_,rfl⟩;have hW0le:W0.le (vw h3):=λb o hb=>by
  rw[hW0]at hb;simp only at hb;split at hb
  ·cases hb
  exact hb
 have h0W:(vw h).le W0:=λb o hb=>by have hlt:=View.lt (View.le_refl (vw h)) hb;rw[hW0];simp only;rw[if_neg P2];exact Pt hle02 hle3 b o hb
 have hp3:ak W0 ⟨h2.size,0,Pz⟩=Py vg:=by
  have e:W0 h2.size=Py (.cells #[vg] T.jw (0,0)):=by rw[hW0];simp only;rw[if_neg P2,<-hh3];simp
  simp[ak,e]
 have hB3:W0 (h.size+1)=Py (.cells #[PA (Py ⟨h.size,0,Pz⟩) g.length g.length] T.jw (0,0)):=by rw[hW0];simp only;rw[if_neg P2];exact hle3 _ _ hB2
 refine A3 (enc:=D8) (all:=iz g) (gf:=150) (caps:=[PB (Py ⟨h2.size,0,Pz⟩)]) W0 W0 (λe k W h'=>e=Pz/\∃rv,Rw W h' T.aR T.int h.size rv (((iz g).take k).foldl ez (List.replicate g.length [])))
  rfl P1 (As (hg.mono h0W) hp3 hs) (λ_=>rfl) Ps (λe k=>⟨λ⟨_,rv,r⟩=>r.wle,λ⟨a,rv,r⟩ _ h1 h2 _=>⟨a,rv,r.move h1 h2⟩⟩) ⟨rfl,_,Rw.start hW0le (by rw[hW0];simp) (hle3 _ _ hg2)⟩
  (λx h1=>by simp[D8,cW];rfl) ?_ ?_ ?_
 ·rintro k e W h1 hag hk ⟨_,rv,r⟩ K2 hK2 _;have he:=oR (L4 hk);have hk1:k<(iz g).length:=(NO.1 hk).1;have hst:=tH (f:=ez) (b:=List.replicate g.length []) hk;have hpl:=ni (l:=(iz g).take k) (p:=List.replicate g.length []);have hrl:=Ar (l:=(iz g).take k) (p:=List.replicate g.length []) (i:=e.2.toNat) (m:=0) (by rw[aC P2];simp);rw[L6]at hrl;rw[MC]at hpl;generalize hp:((iz g).take k).foldl ez (List.replicate g.length [])=p at r hst hpl hrl;have hlt:=r.lt;have hB1:h1[h.size+1]? = Py (.cells #[PA (Py ⟨h.size,0,Pz⟩) g.length g.length] T.jw (0,0)):=r.wle _ _ (by rw[hag _ P2];exact hB3);have hlt1:=(Lu.1 hB1).1;obtain⟨H,hH⟩ : ∃H:View,H=λb=>if b=h.size\/b=h.size+1 then h1[b]? else none:=⟨_,rfl⟩;have hHle:H.le (vw h1):=λb o hb=>by
   rw[hH]at hb;simp only at hb;split at hb
   ·exact hb
   cases hb
  have c1:ak H ⟨h.size+1,0,Pz⟩=Py (PA (Py ⟨h.size,0,Pz⟩) g.length g.length):=cJ (by rw[hH];simp only;rw[if_pos Sa];exact hB1) rfl;have hlen:=r.len;have c2:ak H ⟨h.size,e.2.toNat,Pz⟩=Py (nth rv e.2.toNat):=cJ (by rw[hH];simp only;rw[if_pos Sa];exact r.blk) (by rw[aA P2];simp);refine aT H hHle ?_;simp(disch:=omega)[c1,c2,G8];refine mC (α:=Int) (W:=nothing) El.aR (by simp<;>rfl) (nY P2 P2) λu h4 hsrc hle4 _=>⟨Pt hHle hle4,?_⟩;have r4:=r.ext hle4;have hi:e.2.toNat<p.length:=by omega
  refine df El.aR Sa Sa (r4.own _ hi) hsrc P9 P9 λv' h5 o5 m5=>?_;have hg5:h5[h.size]? = Py (.cells rv.toArray T.aR (0,0)):=by rw[m5.kept.block _ r4.lt (λe=>r4.ng _ hi e.symm)];exact r4.blk
  obtain⟨hcells,hone⟩:=kS o5;have hH5:H.le (vw h5):=by
   intro b o hb;have hlt4:=View.lt (Pt hHle hle4) hb;have h4b:=Pt hHle hle4 b o hb;show h5[b]? = _;rw[m5.kept.block b hlt4 ?_]
   ·exact h4b
   rw[hH]at hb;simp only at hb;split at hb
   ·rename_i e1;rcases e1 with rfl | rfl
    ·exact λe=>r4.ng _ hi e.symm
    intro e;have:=r4.av _ hi _ e.symm;rw[hag _ P2,hB3]at this;cases this
   cases hb
  refine⟨hH5,?_⟩;refine ef (g:=h.size) (o:=e.2.toNat) (n:=1) (v:=v') P1 Sa Sa (by rw[hcells];rfl) (by rw[hcells];simpa using hone) hg5 P9 λh6 hsz6 ⟨row,hrow,hre⟩ hoth=>?_;refine hK2 _ _ ⟨rfl,rv.set e.2.toNat v',?_⟩;rw[hst,ez];have hrow2:row=(rv.set e.2.toNat v').toArray:=by rw[<-Array.toList_inj,hre,hcells,N0,if_pos P2];simp
  rw[hrow2]at hrow;exact r4.put hi o5 m5 hrow hoth hsz6
 ·rintro W h1 hag ⟨_,rv,r⟩;rw[Lw (Lp _)]at r;have hB1:h1[h.size+1]? = Py (.cells #[PA (Py ⟨h.size,0,Pz⟩) g.length g.length] T.jw (0,0)):=r.wle _ _ (by rw[hag _ P2];exact hB3);have c1:ak (vw h1) ⟨h.size+1,0,Pz⟩=Py (PA (Py ⟨h.size,0,Pz⟩) g.length g.length):=cJ hB1 rfl;simp[c1];intro h4 hsw;have hWW:(vw h).le W:=λb o hb=>by rw[hag b (by have:=View.lt (View.le_refl (vw h)) hb;omega)];exact h0W b o hb
  have hfl:=ni (l:=iz g) (p:=List.replicate g.length []);rw[MC]at hfl;have hfr:=r.fresh hWW P2;rw[hfl]at hfr;exact⟨_,rfl,hK _ _ ⟨hsw.ext (Pt hWW r.wle),hsw.rd hfr⟩⟩
 rintro e k W h1 hag ⟨hne,_⟩;cases hne
def eM (n:Nat) (order:List Int):List Int:=up (λi l=>l.set (nth order i).toNat (i:Int)) order.length (List.replicate n (-1))
def bstS (out number:List Int) (n:Nat):List Int->Int->Option Int
 | [],best=>Py best
 | a::l,best=>
  if 0<=a/\a<n then
   if nth number a.toNat<0\/(a≠0/\nth out a.toNat<0) then bstS out number n l best
   else if best<0 then bstS out number n l a
   else(j0 out number (2*n+2) best a).bind (bstS out number n l)
  else Pz
def setS (out:List Int) (ch:Bool) (b best:Int):List Int × Bool:=if nth out b.toNat≠best then(out.set b.toNat best,PC) else(out,ch)
def qB (number:List Int) (preds:Gr) (n:Nat):List Int->List Int × Bool->Option (List Int × Bool)
 | [],s=>Py s
 | b::l,s=>
  if 0<=b/\b<n then(bstS s.1 number n (nth preds b.toNat) (-1)).bind λbest=>qB number preds n l (setS s.1 s.2 b best)
  else Pz
def mW (number:List Int) (preds:Gr) (n:Nat) (tail:List Int):Nat->List Int->Option (List Int)
 | 0,_=>Pz
 | m+1,out=>(qB number preds n tail (out,PD)).bind λs=>if s.2 then mW number preds n tail m s.1 else Py s.1
def xc (g:Gr) (fuel:Nat):Option (List Int):=
 mW (eM g.length (bf g)) (dd g) g.length ((bf g).drop (min 1 (bf g).length)) fuel (List.replicate g.length (-1))
theorem iC {out number:List Int} {c:Int} : ∀{k:Nat} {x y:Int},j0 out number k x y=Py c->0<=c/\c<number.length
 | 0,x,y,h=>by cases h
 | k+1,x,y,h=>by
  rw[j0]at h;split at h;case isFalse=>cases h
  rename_i hr;split at h
  ·exact iC h
  split at h
  ·exact iC h
  cases h;omega
theorem AR{out:List Int}: ∀{l:List Int} {best r:Int},(-1<=best/\best<n)->out.length=n->number.length=n->(∀i,i<n->-1<=nth out i/\nth out i<n)->bstS out number n l best=Py r->-1<=r/\r<n:=by
 intro l;induction l with
 | nil=>intro best r hb _ _ _ h;simp only[bstS,Ln]at h;subst h;exact hb
 | cons a l ih=>
  intro best r hb h1 h2 h3 h;rw[bstS]at h;split at h;case isFalse=>cases h
  rename_i ha;split at h
  ·exact ih hb h1 h2 h3 h
  split at h
  ·exact ih P6 h1 h2 h3 h
  simp only[Ly]at h;obtain⟨c,hc,h⟩:=h;refine ih ?_ h1 h2 h3 h;have:=iC hc;omega
structure OvOk (m M:Nat) (s:List Bool × List Int):Prop where
 len:s.1.length=m
 cnt:s.2.length+cV s.1<=M
 rng : ∀x∈s.2,0<=x/\x<m
theorem yZ {nx:Int->List Int} {m:Nat} (hnx : ∀a:Int,0<=a->a<m->∀i,i<(nx a).length->0<=nth (nx a) i/\nth (nx a) i<m) : ∀(n M:Nat) (a:Int) (s:List Bool × List Int),0<=a->a<m->nth s.1 a.toNat=PD->OvOk m M s->OvOk m M (iX nx n a s)
 | 0,_,_,_,_,_,_,h=>h
 | n+1,M,a,s,h0,h1,hf,h=>by
  rw[jS];have hlen:=h.len;have hfs:=iW (t:=s.1) (i:=a.toNat) P2 hf;have hc:=h.cnt;have hup : ∀k,k<=(nx a).length->OvOk m (M-1) (up (cD nx n a) k (s.1.set a.toNat PC,s.2)):=by
   intro k;induction k with
   | zero=>exact λ_=>⟨by simpa[up]using hlen,by simp only[up];omega,h.rng⟩
   | succ k ih=>
    intro hk;have:=ih P2;rw[up];generalize up (cD nx n a) k (s.1.set a.toNat PC,s.2)=z at this;unfold cD;split
    ·exact this
    rename_i hz;obtain⟨e0,e1⟩:=hnx a h0 h1 k P2;exact yZ hnx n (M-1) _ z e0 e1 (by simpa using hz) this
  have:=hup _ (Lp _);exact⟨this.len,by have:=this.cnt;simp;omega,λx hx=>by
   rcases Lv.1 hx with hx | hx
   ·exact this.rng x hx
   simp only[Ls]at hx;subst hx;exact⟨h0,h1⟩⟩
theorem xD{nx:Int->List Int}{m:Nat}(hnx : ∀a:Int,0<=a->a<m->∀i,i<(nx a).length->0<=nth (nx a) i/\nth (nx a) i<m):(kH nx m).length<=m/\∀x∈kH nx m,0<=x/\x<m:=by
 unfold kH;split
 ·simp
 rename_i h0;have:=yZ hnx m m 0 (List.replicate m PD,[]) P2 P2 (aC P9) ⟨by simp,by simp[cV],by simp⟩;refine⟨?_,λx hx=>this.rng x (by simpa using hx)⟩;have:=this.cnt;simp;omega
theorem H5{g:Gr}: ∀a:Int,0<=a->a<(g.length:Int)->∀i,i<(nx (cY g) a).length->0<=nth (nx (cY g) a) i/\nth (nx (cY g) a) i<g.length:=by intro a h0 h1 i hi;have:=sr a.toNat (by rw[gD];omega) i hi;rwa [gD]at this
theorem CS{g:Gr}{i:Nat}(hi:i<(bf g).length):0<=nth (bf g) i/\nth (bf g) i<g.length:=
 (xD H5).2 _ (bC hi)
theorem qE{g:Gr}:(bf g).length<=g.length:=(xD H5).1
theorem rM{g:Gr}: ∀{l:List (Int × Int)} {p:Gr},(∀e∈l,0<=e.1/\e.1<g.length)->(∀i,∀x∈nth p i,0<=x/\x<g.length)->∀i,∀x∈nth (l.foldl ez p) i,0<=x/\x<g.length:=by
 intro l;induction l with
 | nil=>exact λ_ h=>h
 | cons e l ih=>
  intro p hl hp;rw[LR];refine ih (λe' he'=>hl e' (LA _ he')) λi x hx=>?_;unfold ez at hx;rcases Lr i p.length with hi | hi
  ·rw[bz hi]at hx;split at hx
   ·rcases Lv.1 hx with hx | hx
    ·exact hp _ x hx
    simp only[Ls]at hx;subst hx;exact hl e (Lz ..)
   exact hp _ x hx
  rw[cL (by simpa using hi)]at hx;cases hx
theorem vV{h:Heap}{v v':Value}(m:kv h h' v v')(hw:W.le (vw h))(ha:Av W v):W.le (vw h'):=(m.view hw ha).1
theorem GF{g:Gr}{h:Heap}{fuel:Nat}{l:List Int}(hg:SlRd (vw h) vg g)(hs:Sm g)(hl:xc g fuel=Py l):
  az PE 121 #[vg] h (λv h'=>∃W,Mine nothing h h' W T.int v l):=by
 refine au (args:=[vg]) follows Tryz.func121 E.bj Pp λK hK=>?_;have hs1:=hs.1;simp[L.bj,hg.len];refine af P1 (Af hg hs) ?_;rintro vo h1 ⟨hle1,ho⟩;have hoin:=@CS g;have holen:=qE (g:=g);rw[xc]at hl;generalize bf g=order at ho hoin holen hl;refine Mine.made (V:=nothing) (W:=nothing) (h0:=h) (n:=g.length) (d:=(0:Int)) El.aR hle1 (λ_ _ h=>by cases h) (Old.nothing _ _) (by simp<;>rfl) (by simp<;>rfl) ⟨rfl,by omega,by omega⟩ P2 P2 λvn h2 mn hle2 hbn=>?_;refine Mine.made (V:=nothing) (W:=nothing) (h0:=h) (n:=g.length) (d:=(0:Int)) El.aR mn.old (λ_ _ h=>by cases h) (Old.nothing _ _) (by simp<;>rfl) (by simp<;>rfl) ⟨rfl,by omega,by omega⟩ P2 P2 λvi h3 mi hle3 hbi=>?_;have mn3:=mn.ext' hle3;have hne:vn.ownBlock≠vi.ownBlock:=by have:=mn.own.lt hbn;rw[hbn,hbi];intro e;simp only[Ln]at e;omega
 have hle13:(vw h1).le (vw h3):=Pt hle2 hle3;have av1n:Av (vw h1) vn:=λb hb=>by rw[hbn]at hb;cases hb;exact View.cz Ps (Lp _)
 have av1i:Av (vw h1) vi:=λb hb=>by rw[hbi]at hb;cases hb;exact View.cz hle2 (Lp _)
 refine aO [0,3,4,5,25,26] (fun(_:Unit) k=>[vg,vo,vn,vi,Pv Pw g.length,Pv Pw k])
  (λ_ k h4=>Mine nothing h h4 nothing T.int vn (rows (λ_=>(-1:Int)) k++List.replicate (g.length-k) 0)/\Mine nothing h h4 nothing T.int vi (rows (λ_=>(-1:Int)) k++List.replicate (g.length-k) 0)/\(vw h1).le (vw h4)) g.length ()
  rfl P2 rfl ⟨by simpa using mn3,by simpa using mi,hle13⟩ (λ_ _=>rfl) (λv k h1 hk m=>by simp) ?_ ?_
 ·rintro _ k h4 hlt ⟨m4n,m4i,hle4⟩ K2 hK2;have hlk:(rows (λ_=>(-1:Int)) k++List.replicate (g.length-k) (0:Int)).length=g.length:=by simp;omega
  simp(disch:=omega)[m4n.now.idx1 rfl,m4i.now.idx1 rfl];refine sK (W:=nothing) (i:=k) (d:=(-1:Int)) P1 (by simp[show Rep.n Int=1 from rfl]) (by simp<;>rfl) m4n.own P2 (nY P2 P2) λh5 o5 mv5=>?_;have m5n:=m4n.jf o5 mv5;have m5i:=m4i.beside m5n mv5 (.inr (Ne.symm hne));refine sK (W:=nothing) (i:=k) (d:=(-1:Int)) P1 (by simp[show Rep.n Int=1 from rfl]) (by simp<;>rfl) m5i.own P2 (nY P2 P2) λh6 o6 mv6=>?_;have m6i:=m5i.jf o6 mv6;have m6n:=m5n.beside m6i mv6 (.inr hne);rw[vH (x:=λ_=>(-1:Int)) hlt]at m6i m6n;exact hK2 () _ _ rfl rfl ⟨m6n,m6i,vV mv6 (vV mv5 hle4 av1n) av1i⟩
 rintro _ h4 ⟨m4n,m4i,hle4⟩;have hrows:rows (λ_=>(-1:Int)) g.length=List.replicate g.length (-1):=by refine M7 Sa λi h1 h2=>?_;simp[rows]
 rw[hrows]at m4n m4i;simp only[OI,List.replicate_zero,Ng]at m4n m4i;have ho1:=ho.mono (kg h h1);simp[ho1.len];refine aO [0,3,4,5,36,37,38] (fun(_:Unit) k=>[vg,vo,vn,vi,vo,Pv Pw order.length,Pv Pw k])
  (λ_ k h5=>Mine nothing h h5 nothing T.int vn (up (λi l=>l.set (nth order i).toNat (i:Int)) k (List.replicate g.length (-1)))/\Mine nothing h h5 nothing T.int vi (List.replicate g.length (-1))/\(vw h1).le (vw h5)) order.length ()
  rfl P2 rfl ⟨m4n,m4i,hle4⟩ (λ_ _=>rfl) (λv k h1 hk m=>by simp) ?_ ?_
 ·rintro _ k h5 hlt ⟨m5n,m5i,hle5⟩ K2 hK2;have hlen5:(up (λi l=>l.set (nth order i).toNat (i:Int)) k (List.replicate g.length (-1))).length=g.length:=by rw[xS List.length (λ_ _=>by simp)];simp
  have ho5:=ho1.mono hle5;obtain⟨e0,e1⟩:=hoin hlt;simp(disch:=omega)[ho5.idx1 rfl,ho5.int Ps,m5n.now.idx1 rfl];refine sK (W:=nothing) (i:=(nth order k).toNat) (d:=(k:Int)) P1 (by simp[show Rep.n Int=1 from rfl]) (by simp<;>rfl) m5n.own P2 (nY P2 P2) λh6 o6 mv6=>?_;have m6n:=m5n.jf o6 mv6;exact hK2 () _ _ rfl rfl ⟨m6n,m5i.beside m6n mv6 (.inr (Ne.symm hne)),vV mv6 hle5 av1n⟩
 rintro _ h5 ⟨m5n,m5i,hle5⟩;have hnum:up (λi l=>l.set (nth order i).toNat (i:Int)) order.length (List.replicate g.length (-1))=eM g.length order:=rfl;rw[hnum]at m5n;have hnl:(eM g.length order).length=g.length:=by rw[eM,xS List.length (λ_ _=>by simp)];simp
 simp;refine af P1 (zl (hg.mono m5n.old) hs) ?_;rintro vp h6 ⟨hle6,hp⟩;have hpl:(dd g).length=g.length:=by rw[dd,ni];simp
 have hpin : ∀i,∀x∈nth (dd g) i,0<=x/\x<g.length:=rM (λe he=>(oR he).1) (λi x hx=>by
  rcases Lr i g.length with hi | hi
  ·rw[aC hi]at hx;cases hx
  rw[cL (by simpa using hi)]at hx;cases hx);have m6:=(m5i.ext' hle6).over;have hn6:SlRd (but vi h6) vn (eM g.length order):=(m5n.own.rd (V:=but vi h5) (λ_ _ h=>by cases h) (λb hb=>by unfold but;rw[if_neg (λe=>hne (hb.trans e.symm))])).mono (AG hle6)
 have hp6:SlRd (but vi h6) vp (dd g):=hp.mono λb o hb=>by
  have hb2:=kg _ _ b o hb;unfold but;split
  ·rename_i e;have:=m5i.own.lt e;unfold fresh at hb;rw[if_pos this]at hb;cases hb
  exact hb2
 have ho6:SlRd (but vi h6) vo order:=ho1.mono (Pt (IF hle5 av1i) (AG hle6));generalize hW:but vi h6=W at m6 hn6 hp6 ho6;generalize eM g.length order=number at hn6 hnl hl;generalize hpr:dd g=preds at hp6 hpl hpin hl;obtain⟨pv,hpv⟩:=hp6.rows;refine iD [3,4,5,9,10] (λm ρ h7=>∃(out:List Int) (ch:Bool),ρ=[(3,vo),(4,vn),(5,vi),(9,vp),(10,.bool ch)]/\Mine (vw h) h h7 W T.int vi out/\out.length=g.length/\(∀i,i<g.length->-1<=nth out i/\nth out i<g.length)/\
  (ch=PC->mW number preds g.length (order.drop (min 1 order.length)) m out=Py l)/\(ch=PD->out=l)) fuel
  ⟨_,PC,rfl,m6,by simp,λi hi=>by rw[aC hi];omega,λ_=>hl,λh=>by cases h⟩ ?_;rintro m ρ h7 ⟨out,ch,rfl,m7,hol,hor,hch1,hch2⟩ K2 hK2;cases ch with
 | false=>simp[L.bj.l3,jH];have:=hch2 rfl;subst this;exact hK _ _ ⟨_,m7.JN⟩
 | true=>
  have hit:=hch1 rfl;cases m with
  | zero=>cases hit
  | succ m=>
   rw[mW,Ly]at hit;obtain⟨⟨out',ch'⟩,hsw,hfin⟩:=hit;simp only at hfin;simp[L.bj.l3,jH];have hmin:(if(order.length:Int)<1 then(order.length:Int) else 1)=((min 1 order.length:Nat):Int):=by split<;>omega
   obtain⟨u,hu,hur⟩:=ho6.drop (n:=min 1 order.length) P2 (kd:=.i64);rw[show Rep.n Int=1 from rfl]at hu;have hti : ∀j,j<(order.drop (min 1 order.length)).length->nth (order.drop (min 1 order.length)) j=nth order (min 1 order.length+j):=by intro j hj;rw[LW]at hj;rw[aA (by rw[LW];omega),aA P2,N1]
   generalize order.drop (min 1 order.length)=tail at hur hti hsw hfin hK2;simp only[ho6.len,LM,ID,hmin,hu,hur.len,jB,cW];have hub:=hur.bound;simp;refine aO [3,4,5,9,10,55,56,57] (fun(s:List Int × Bool) k=>[vo,vn,vi,vp,.bool s.2,u,Pv Pw tail.length,Pv Pw k])
    (λs k h8=>Mine (vw h) h h8 W T.int vi s.1/\s.1.length=g.length/\(∀i,i<g.length->-1<=nth s.1 i/\nth s.1 i<g.length)/\qB number preds g.length (tail.drop k) s=Py (out',ch')) tail.length (out,PD)
    rfl P2 rfl ⟨m7,hol,hor,by simpa using hsw⟩ (λ_ _=>rfl) (λv k h1 hk m=>by simp) ?_ ?_
   ·rintro⟨o8,c8⟩ k h8 hlt8 ⟨m8,hol8,hor8,hs8⟩ K3 hK3;simp only at m8 hol8 hor8;rw[LS hlt8,<-aA hlt8,qB]at hs8;split at hs8;case isFalse=>cases hs8
    rename_i hb;rw[Ly]at hs8;obtain⟨best,hbest,hs8⟩:=hs8;simp only at hbest hs8;have hb2:=AR P2 hol8 hnl hor8 hbest;generalize hbe:nth tail k=b at hb hbest hs8;obtain⟨cv,rr⟩:=hpv b.toNat P2;have br:=rr.bound;simp(disch:=omega)[hur.idx1 rfl,hur.int m8.wle,hbe,hp6.idx1 rfl,cv _ m8.wle,rr.len];refine aO [3,4,5,9,10,55,56,57,12,13,64,65,66] (fun(bst:Int) j=>[vo,vn,vi,vp,.bool c8,u,Pv Pw tail.length,Pv Pw k,Pv Pw b,Pv Pw bst,pv b.toNat,Pv Pw (nth preds b.toNat).length,Pv Pw j])
     (λbst j h9=>Mine (vw h) h h9 W T.int vi o8/\(-1<=bst/\bst<g.length)/\bstS o8 number g.length ((nth preds b.toNat).drop j) bst=Py best) (nth preds b.toNat).length (-1)
     rfl P2 rfl ⟨m8,by omega,by simpa using hbest⟩ (λ_ _=>rfl) (λv k h1 hk m=>by simp) ?_ ?_
    ·rintro bst j h9 hlt9 ⟨m9,hb9,hs9⟩ K4 hK4;rw[LS hlt9,<-aA hlt9,bstS]at hs9;have ha:=hpin _ _ (bC hlt9);rw[if_pos ha]at hs9;have hra:=rr.int m9.wle hlt9;generalize nth (nth preds b.toNat) j=a at hs9 ha hra;have hn9:=hn6.int m9.wle (i:=a.toNat) P2;have ho9:=m9.now.int Ps (i:=a.toNat) P2;have hi9:=m9.now;by_cases c1:nth number a.toNat<0
     ·rw[if_pos (.inl c1)]at hs9;simp(disch:=omega)[rr.idx1 rfl,hra,hn6.idx1 rfl,hn9,c1,hi9.idx1 rfl,ho9];exact hK4 bst _ _ rfl rfl ⟨m9,hb9,hs9⟩
     by_cases c2:a=0
     ·rw[if_neg (by rintro(h | h);exact c1 h;exact h.1 c2)]at hs9;subst c2;rw[Int.toNat_zero]at hn9 ho9 c1;simp(disch:=omega)[rr.idx1 rfl,hra,hn6.idx1 rfl,hn9,c1,hi9.idx1 rfl,ho9];refine⟨λc4=>?_,λc4=>?_⟩
      ·rw[if_pos c4]at hs9;exact hK4 _ _ _ rfl rfl ⟨m9,by omega,hs9⟩
      rw[if_neg P2,Ly]at hs9;obtain⟨c,hc,hs9⟩:=hs9;have hcr:=iC hc;refine af P1 (wN m9.now (hn6.mono m9.wle) hc) ?_;rintro _ _ ⟨rfl,rfl⟩;exact hK4 c _ _ rfl rfl ⟨m9,by omega,hs9⟩
     by_cases c3:nth o8 a.toNat<0
     ·rw[if_pos (.inr ⟨c2,c3⟩)]at hs9;simp(disch:=omega)[rr.idx1 rfl,hra,hn6.idx1 rfl,hn9,c1,c2,hi9.idx1 rfl,ho9,c3];exact hK4 bst _ _ rfl rfl ⟨m9,hb9,hs9⟩
     rw[if_neg (by rintro(h | h);exact c1 h;exact c3 h.2)]at hs9;simp(disch:=omega)[rr.idx1 rfl,hra,hn6.idx1 rfl,hn9,c1,c2,hi9.idx1 rfl,ho9,c3];refine⟨λc4=>?_,λc4=>?_⟩
     ·rw[if_pos c4]at hs9;exact hK4 _ _ _ rfl rfl ⟨m9,by omega,hs9⟩
     rw[if_neg P2,Ly]at hs9;obtain⟨c,hc,hs9⟩:=hs9;have hcr:=iC hc;refine af P1 (wN m9.now (hn6.mono m9.wle) hc) ?_;rintro _ _ ⟨rfl,rfl⟩;exact hK4 c _ _ rfl rfl ⟨m9,by omega,hs9⟩
    rintro bst h9 ⟨m9,hb9,hs9⟩;simp only[List.drop_length,bstS,Ln]at hs9;subst hs9;simp(disch:=omega)[m9.now.idx1 rfl,m9.now.int Ps];refine⟨λe=>hK3 (o8,c8) _ _ rfl rfl ⟨m9,hol8,hor8,by rw[setS,if_neg (by simpa using e)]at hs8;exact hs8⟩,λe=>?_⟩;refine m9.put1 (α:=Int) (i:=b.toNat) P1 rfl Sa (by simp<;>rfl) P2 (nY P2 P2) λh10 m10=>hK3 (o8.set b.toNat bst,PC) _ _ rfl rfl ⟨m10,by simpa using hol8,λi hi=>?_,by rw[setS,if_pos e]at hs8;exact hs8⟩;simp only;rw[bz P2];split
    ·exact hb9
    exact hor8 i hi
   rintro⟨o8,c8⟩ h8 ⟨m8,hol8,hor8,hs8⟩;simp only[List.drop_length,qB,Ln,MZ]at hs8 m8 hol8 hor8;obtain⟨rfl,rfl⟩:=hs8;simp;refine hK2 m _ _ P2 ⟨_,_,rfl,m8,hol8,hor8,λe=>?_,λe=>?_⟩
   ·rw[if_pos e]at hfin;exact hfin
   rw[if_neg (by simp[e])]at hfin;exact Option.some.inj hfin
abbrev Tr:=Int × Int × Int
def trV (t:Tr):List PanicEntry:=[{ v:=.iface T.fi (.agg #[Pv Pw t.1,Pv Pw t.2.1,Pv Pw t.2.2]),recovered:=false }]
def bZ (n a b:Int):Bool:=decide (a<=n)&&decide (n<=b)
theorem jJ{n a:Int}{h:Heap}:az PE 69 #[Pv Pw n,Pv Pw a,Pv Pw b] h (λv h'=>v = .bool (bZ n a b)/\h'=h):=by refine au (args:=[Pv Pw n,Pv Pw a,Pv Pw b]) follows Tryz.func69 E.kM Pp λK hK=>?_;simp[L.kM];exact hK _ _ ⟨by by_cases h1:a<=n<;>simp[bZ,h1],rfl⟩
theorem gm{ok:Bool}{e p:Int}{h:Heap}:gP PE 68 #[.bool ok,Pv Pw e,Pv Pw b,Pv Pw p] h (λv h'=>ok=PC/\h'=h) (λch h'=>ok=PD/\ch=trV (e,b,p)/\h'=h):=by
 refine gH (args:=[.bool ok,Pv Pw e,Pv Pw b,Pv Pw p]) follows Tryz.func68 E.lD Pp λK Kp hK hKp=>?_;cases ok with
 | true=>simp[L.lD];exact hK _ _ ⟨rfl,rfl⟩
 | false=>simp[L.lD];refine ay (z:=.agg #[Pv Pw 0,Pv Pw 0,Pv Pw 0]) (places:=[(0,1),(1,1),(2,1)]) (vs:=[(0,Pv Pw e),(1,Pv Pw b),(2,Pv Pw p)]) (cs:=#[Pv Pw e,Pv Pw b,Pv Pw p]) P1 P1 Sa P1 ?_;refine Ft (d:=(Tryz.prog.underlying T.fi).getD .bool) P1 P1 rfl ?_;simp;refine F2 (t:=T.fi) (v:=.agg #[Pv Pw e,Pv Pw b,Pv Pw p]) rfl ?_;exact⟨.inl rfl,hKp _ _ ⟨rfl,rfl,rfl⟩⟩
def fm (op:Int):Int × Int:=if op=1 then(0,0) else if op=15 then(1,1) else if op=17 then(0,4) else(2,2)
theorem zQ{op:Int}{h:Heap}:az PE 116 #[Pv Pw op] h (λv h'=>v = .tuple #[Pv Pw (fm op).1,Pv Pw (fm op).2]/\h'=h):=by refine au (args:=[Pv Pw op]) follows Tryz.func116 E.jj Pp λK hK=>?_;simp[L.jj];refine⟨λh1=>hK _ _ ⟨by simp[fm,h1],rfl⟩,λh1=>⟨λh2=>hK _ _ ⟨by simp[fm,h1,h2],rfl⟩,λh2=>⟨λh3=>hK _ _ ⟨by simp[fm,h1,h2,h3],rfl⟩,λh3=>hK _ _ ⟨by simp[fm,h1,h2,h3],rfl⟩⟩⟩⟩
def cr (i:InsD):List Int:=if i.op=16 then[] else if i.op=18 then[i.dst,i.two] else[i.dst]
theorem zS{d:InsD}{v:Value}{h:Heap}(hd:Rd (vw h) v d):az PE 72 #[v] h (λu h'=>(vw h).le (vw h')/\SlRd (fresh h h') u (cr d)):=by
 refine au (args:=[v]) follows Tryz.func72 E.mh Pp λK hK=>?_;simp[L.mh];refine hZ rfl hd λh1 _ hle1 hsz1 hat=>?_;obtain⟨c0,c1,c2,va,ca⟩:=kP hat;have r1:=(hat.part InsD.gJ).rng;have r2:=(hat.part InsD.xP).rng;simp[c0];refine⟨λe1=>hK _ _ ⟨hle1,by simpa[cr,e1]using aN⟩,λe1=>⟨λe2=>?_,λe2=>?_⟩⟩
 ·simp[c1,c2];refine kO (X:=nothing) (ds:=[d.dst,d.two]) (vs:=[Pv Pw d.dst,Pv Pw d.two]) rfl El.aR Sa ⟨bn.2 ⟨rfl,r1⟩,bn.2 ⟨rfl,r2⟩,trivial⟩ bE rfl P2 λu h2 hle2 hsz2 hu _=>?_;exact hK _ _ ⟨Pt hle1 hle2,by simpa[cr,e2]using hu _ bE (by unfold fresh;rw[if_neg P2])⟩
 simp[c1];refine kO (X:=nothing) (ds:=[d.dst]) (vs:=[Pv Pw d.dst]) rfl El.aR Sa ⟨bn.2 ⟨rfl,r1⟩,trivial⟩ bE rfl P2 λu h2 hle2 hsz2 hu _=>?_;exact hK _ _ ⟨Pt hle1 hle2,by simpa[cr,e1,e2]using hu _ bE (by unfold fresh;rw[if_neg P2])⟩
abbrev MW:=Int->Option (Int × Int)
def encW (w:Int × Int):Value:=.agg #[Pv Pw w.1,Pv Pw w.2]
variable{Kb:Nat}
theorem HD{ps n p:Int}{h:Heap}(h0:ak (vw h) ⟨Kb,0,Pz⟩=Py (Pv Pw ps)):
  gP PE 138 #[PB (Py ⟨Kb,0,Pz⟩),Pv Pw n,Pv Pw b,Pv Pw p] h (λ_ h'=>bZ n ps 8191=PC/\h'=h) (λch h'=>bZ n ps 8191=PD/\ch=trV (11,b,p)/\h'=h):=by
 refine gH (args:=[PB (Py ⟨Kb,0,Pz⟩),Pv Pw n,Pv Pw b,Pv Pw p]) follows Tryz.func138 E.gp Pp λK Kp hK hKp=>?_;simp[L.gp,h0];refine af P1 jJ ?_;rintro _ _ ⟨rfl,rfl⟩;refine du P1 gm ?_ ?_
 ·rintro _ _ ⟨e,rfl⟩;exact hK _ _ ⟨e,rfl⟩
 rintro _ _ ⟨e,rfl,rfl⟩;exact⟨.inl rfl,hKp _ _ ⟨e,rfl,rfl⟩⟩
theorem GA{r:Nat}{m:MW}{n p:Int}{h:Heap}(h2:ak (skip r h) ⟨Kb,2,Pz⟩=Py (.map (Py r)))(hm:dp (.int .i64) h r (mapE encW m)):
  gP PE 139 #[PB (Py ⟨Kb,0,Pz⟩),Pv Pw n,Pv Pw b,Pv Pw p] h (λ_ h'=>m n=Pz/\dp (.int .i64) h' r (mapE encW (putM m n (b,p)))/\Kept h h' (Py r))
   (λch h'=>m n≠Pz/\ch=trV (12,b,p)/\Kept h h' (Py r)):=by
 refine gH (args:=[PB (Py ⟨Kb,0,Pz⟩),Pv Pw n,Pv Pw b,Pv Pw p]) follows Tryz.func139 E.gz Pp λK Kp hK hKp=>?_;simp[L.gz,ae cB h2];refine ld (z:=.agg #[Pv Pw 0,Pv Pw 0]) U.eK U.int P1 (by simp<;>rfl) (by simp<;>rfl) eC hm ?_;simp;refine gk (n:=2) (z:=.agg #[Pv Pw 0,Pv Pw 0]) (v:=((m n).map encW).getD (.agg #[Pv Pw 0,Pv Pw 0])) P1 rfl P1 (by cases m n<;>rfl) (by cases m n<;>simp[encW,Value.oneCell']) P5 P5 λh3 hle3 _ _=>?_;have k3:=Kept.of_le (b:=Py r) hle3;have hm3:=hm.ext hle3;have h23:=ae k3.Cg h2;refine du P1 gm ?_ ?_
 ·rintro _ _ ⟨e,rfl⟩;simp[h23];refine ay (z:=.agg #[Pv Pw 0,Pv Pw 0]) (places:=[(0,1),(1,1)]) (vs:=[(0,Pv Pw b),(1,Pv Pw p)]) (cs:=#[Pv Pw b,Pv Pw p]) P1 P1 Sa P1 ?_;refine jQ (v:=encW (b,p)) (.inl rfl) U.eK U.int (by simp<;>rfl) (by simp<;>rfl) (by simp<;>rfl) eC hm3 _ iE.1 iE.2 λh4 hs4 ho4 hm4=>?_;exact hK _ _ ⟨by simpa using e,hm4,k3.trans (Kept.upd hs4 ho4)⟩
 rintro _ _ ⟨e,rfl,rfl⟩;exact⟨.inl rfl,hKp _ _ ⟨(by intro e2;rw[e2]at e;cases e),rfl,k3⟩⟩
def pP (b p:Int) (m:MW) (n:Int):Except Tr MW:=if(m n).isSome then .error (12,b,p) else .ok (putM m n (b,p))
def allS (ps:Int) (l:List Int) (b p:Int) (m:MW):Except Tr MW:=if l.all (λn=>bZ n ps 8191) then l.foldlM (pP b p) m else .error (11,b,p)
structure Lk (h:Heap) (Kb r:Nat) (vb:Value) (f:aj) (m:MW):Prop where
 c0:ak (skip r h) ⟨Kb,0,Pz⟩=Py (Pv Pw f.params)
 c1:ak (skip r h) ⟨Kb,1,Pz⟩=Py vb
 c2:ak (skip r h) ⟨Kb,2,Pz⟩=Py (.map (Py r))
 rb:SlRd (skip r h) vb f.blocks
 map:dp (.int .i64) h r (mapE encW m)
theorem Lk.kept{h h':Heap}{Kb r:Nat}{vb:Value}{f:aj}{m m':MW}(k:Lk h Kb r vb f m)(hk:Kept h h' (Py r))(hm:dp (.int .i64) h' r (mapE encW m')):Lk h' Kb r vb f m':=
 ⟨ae hk.skip k.c0,ae hk.skip k.c1,ae hk.skip k.c2,k.rb.mono hk.skip,hm⟩
theorem Lk.ext {h h':Heap} {Kb r:Nat} {vb:Value} {f:aj} {m:MW} (k:Lk h Kb r vb f m) (hle:(vw h).le (vw h')):Lk h' Kb r vb f m:=
 k.kept (Kept.of_le hle) (k.map.ext hle)
theorem Ey{r:Nat}{vb:Value}{f:aj}{m:MW}{l:List Int}{p:Int}{h:Heap}(k:Lk h Kb r vb f m)(hl:SlRd (skip r h) vl l):
  gP PE 115 #[PB (Py ⟨Kb,0,Pz⟩),vl,Pv Pw b,Pv Pw p] h (λ_ h'=>∃m',allS f.params l b p m = .ok m'/\Lk h' Kb r vb f m'/\Kept h h' (Py r))
   (λch h'=>∃t,allS f.params l b p m = .error t/\ch=trV t/\Kept h h' (Py r)):=by
 refine gH (args:=[PB (Py ⟨Kb,0,Pz⟩),vl,Pv Pw b,Pv Pw p]) follows Tryz.func115 E.bu Pp λK Kp hK hKp=>?_;have hlb:=hl.bound;simp[L.bu,hl.len];refine aO [0,1,2,3,12,13,14] (fun(_:Unit) i=>[PB (Py ⟨Kb,0,Pz⟩),vl,Pv Pw b,Pv Pw p,vl,Pv Pw l.length,Pv Pw i]) (λ_ i h1=>h1=h/\∀j,j<i->bZ (nth l j) f.params 8191=PC) l.length ()
  rfl P2 rfl ⟨rfl,λj hj=>by omega⟩ (λ_ _=>rfl) (λv i h1 hk m=>by simp) ?_ ?_
 ·rintro _ i _ hlt ⟨rfl,hpre⟩ K2 hK2;simp(disch:=omega)[hl.idx1 rfl,hl.int cB];refine du P1 (HD (ae cB k.c0)) ?_ ?_
  ·rintro _ _ ⟨e,rfl⟩;refine hK2 () _ _ rfl rfl ⟨rfl,λj hj=>?_⟩;rcases Lr j i with h | h
   ·exact hpre j h
   have:j=i:=by omega
   subst this;exact e
  rintro _ _ ⟨e,rfl,rfl⟩;refine⟨.inl rfl,hKp _ _ ⟨_,?_,rfl,Kept.refl _ _⟩⟩;rw[allS,if_neg];intro ha;rw[LY.1 ha _ (bC hlt)]at e;cases e
 rintro _ h ⟨rfl,hpre⟩;have hall:allS f.params l b p m=l.foldlM (pP b p) m:=by rw[allS,if_pos];rw[LY];intro x hx;obtain⟨j,hj,rfl⟩:=LO hx;rw[<-aA hj];exact hpre j hj
 rw[hall]at hK hKp;simp[hl.len];refine aO [0,2,3,24,25,26] (fun(_:Unit) i=>[PB (Py ⟨Kb,0,Pz⟩),Pv Pw b,Pv Pw p,vl,Pv Pw l.length,Pv Pw i]) (λ_ i h1=>∃m',(l.take i).foldlM (pP b p) m = .ok m'/\Lk h1 Kb r vb f m'/\Kept h h1 (Py r)) l.length ()
  rfl P2 rfl ⟨m,rfl,k,Kept.refl _ _⟩ (λ_ _=>rfl) (λv i h1 hk m=>by simp) ?_ ?_
 ·rintro _ i h1 hlt ⟨m1,hm1,k1,kp1⟩ K2 hK2;have hl1:=hl.mono kp1.Cg;have hst:=Bz hlt hm1;simp(disch:=omega)[hl1.idx1 rfl,hl1.int Ps];refine du P1 (GA k1.c2 k1.map) ?_ ?_
  ·rintro _ h2 ⟨e,hm2,kp2⟩;refine hK2 () _ _ rfl rfl ⟨_,by rw[hst,pP,e];rfl,k1.kept kp2 hm2,kp1.trans kp2⟩
  rintro _ h2 ⟨e,rfl,kp2⟩;refine⟨.inl rfl,hKp _ _ ⟨_,DX (k:=i+1) (by rw[hst,pP,if_pos (Option.isSome_iff_ne_none.2 e)]),rfl,kp1.trans kp2⟩⟩
 rintro _ h1 ⟨m1,hm1,k1,kp1⟩;rw[MK]at hm1;simp;exact hK _ _ ⟨m1,hm1,k1,kp1⟩
abbrev Sh:=Int × Int × Int × Int
def encS (s:Sh):Value:=.agg #[Pv Pw s.1,Pv Pw s.2.1,Pv Pw s.2.2.1,Pv Pw s.2.2.2]
def fk:Int->Option Sh:=putM (putM (putM (putM (putM (λ_=>Pz) 1 (0,0,1,1)) 2 (1,1,2,2)) 3 (1,1,2,65)) 4 (0,1,0,0)) 5 (0,0,0,0)
theorem oK{po:OP}{ty:TypeId}{us:List (Nat × Value)}{h:Heap}{K:Value->Heap->Prop}{a c d:Int}(hk:K (encS (a,b,c,d)) h):
  Lft.step PE (.build T.di #[(0,.const (Pv Pw a)),(1,.const (Pv Pw b)),(2,.const (Pv Pw c)),(3,.const (Pv Pw d))]) ty us h K:=
 ay (z:=.agg #[Pv Pw 0,Pv Pw 0,Pv Pw 0,Pv Pw 0]) (places:=[(0,1),(1,1),(2,1),(3,1)]) (vs:=[(0,Pv Pw a),(1,Pv Pw b),(2,Pv Pw c),(3,Pv Pw d)]) (cs:=#[Pv Pw a,Pv Pw b,Pv Pw c,Pv Pw d]) P1 P1 (by simp only[List.map_toArray,MO,List.map_nil,wP]) Ri hk
theorem kf{po:OP}{ty:TypeId}{us:List (Nat × Value)}{h:Heap}{K:Value->Heap->Prop}{x y:Operand}{r:Nat}{f:Int->Option Sh}{j:Int}{s:Sh}(hx:asg us x = .map (Py r))(hy:asg us y=encS s)(m:dp (.int .i64) h r (mapE encS f))(hk : ∀h':Heap,Kept h h' (Py r)->dp (.int .i64) h' r (mapE encS (putM f j s))->K undef h'):Lft.step PE (.insert T.dC x (.const (Pv Pw j)) y) ty us h K:=
 jQ (v:=encS s) (.inr rfl) U.dC U.int hx rfl hy eC m _ iE.1 iE.2 λh' hs ho hm=>hk h' (Kept.upd hs ho) hm
theorem xx{h:Heap}:az PE 117 #[] h (λv h'=>v = .map (Py h.size)/\(vw h).le (vw h')/\dp (.int .i64) h' h.size (mapE encS fk)):=by
 refine au (args:=[]) follows Tryz.func117 E.kT Pp λK hK=>?_;simp[L.kT];refine lz ?_;have m0:dp (.int .i64) (h.push (.map #[] 0)) h.size (mapE encS λ_=>Pz):=by rw[pC];exact dp.none Sa
 have hle:=bQ h (.map #[] 0);generalize h.push (.map #[] 0)=h0 at m0 hle;refine oK (kf (s:=(0,0,1,1)) rfl rfl m0 λh1 k1 m1=>?_);refine oK (kf (s:=(1,1,2,2)) rfl rfl m1 λh2 k2 m2=>?_);refine oK (kf (s:=(1,1,2,65)) rfl rfl m2 λh3 k3 m3=>?_);refine oK (kf (s:=(0,1,0,0)) rfl rfl m3 λh4 k4 m4=>?_);refine oK (kf (s:=(0,0,0,0)) rfl rfl m4 λh5 k5 m5=>?_);refine hK _ _ ⟨rfl,λb o hb=>?_,m5⟩;have hlt:=View.lt (View.le_refl (vw h)) hb;have kk:=(((k1.trans k2).trans k3).trans k4).trans k5;show h5[b]? = _;rw[kk.block b (Nw hlt (bY hle)) P9];exact hle b o hb
def n7 (t:cM):Bool:=match fk t.kind with
 | some s=>bZ t.args.length s.1 s.2.1&&bZ t.to.length s.2.2.1 s.2.2.2
 | none=>PD
def insS (ps b:Int) (x:BlkD) (i:Nat) (m:MW):Except Tr MW:=
 if bZ (nth x.ins i).op 1 18&&bZ (nth x.ins i).args.length (fm (nth x.ins i).op).1 (fm (nth x.ins i).op).2 then allS ps (cr (nth x.ins i)) b i m else .error (10,b,i)
def phiS (ps b:Int) (x:BlkD) (i:Nat) (m:MW):Except Tr MW:=allS ps [(nth x.phis i).dst] b (-1-i) m
def endS (n b:Int) (x:BlkD) (m:MW):Except Tr MW:=
 if n7 x.term then(if x.term.to.all (λt=>bZ t 1 (n-1)) then .ok m else .error (14,b,x.ins.length)) else .error (10,b,x.ins.length)
def blkS (f:aj) (b:Nat) (m:MW):Except Tr MW:=
 match upE (phiS f.params b (nth f.blocks b)) (nth f.blocks b).phis.length m with
 | .error t=>.error t
 | .ok m1=>match upE (insS f.params b (nth f.blocks b)) (nth f.blocks b).ins.length m1 with
  | .error t=>.error t
  | .ok m2=>endS f.blocks.length b (nth f.blocks b) m2
def lj (f:aj) (m:MW):Except Tr MW:=upE (blkS f) f.blocks.length m
theorem Ff{r:Nat}{vb:Value}{f:aj}{m:MW}{h:Heap}(k:Lk h Kb r vb f m):
  gP PE 70 #[PB (Py ⟨Kb,0,Pz⟩)] h (λ_ h'=>∃m',lj f m = .ok m'/\Lk h' Kb r vb f m'/\Kept h h' (Py r))
   (λch h'=>∃t,lj f m = .error t/\ch=trV t/\Kept h h' (Py r)):=by
 refine gH (args:=[PB (Py ⟨Kb,0,Pz⟩)]) follows Tryz.func70 E.aE Pp λK Kp hK hKp=>?_;have hbb:=k.rb.bound;simp[L.aE,ae cB k.c1,k.rb.len];refine aO [0,18,19,20] (fun(_:Unit) b=>[PB (Py ⟨Kb,0,Pz⟩),vb,Pv Pw f.blocks.length,Pv Pw b]) (λ_ b h1=>∃m',upE (blkS f) b m = .ok m'/\Lk h1 Kb r vb f m'/\Kept h h1 (Py r)) f.blocks.length ()
  rfl P2 rfl ⟨m,rfl,k,Kept.refl _ _⟩ (λ_ _=>rfl) (λv i h1 hk m=>by simp) ?_ ?_
 ·rintro _ b h1 hltb ⟨m1,hm1,k1,kp1⟩ K2 hK2;have hst:=mT hm1;have her : ∀{t},blkS f b m1 = .error t->lj f m = .error t:=λe=>xU hm1 hltb e;obtain⟨u,hu,hur⟩:=k1.rb.wh rfl (N:=6) rfl hltb;rw[blkS]at hst her;have hr1:=k1.map.lt;generalize hx:nth f.blocks b=x at hst her hur;refine ab λz hz=>?_;simp(disch:=omega)[k1.rb.idxn (N:=6) rfl,hu _ cB];refine dz (z:=.agg #[PA Pz 0 0,PA Pz 0 0,Pv Pw 0,PA Pz 0 0,PA Pz 0 0,Pv Px 0]) P1 rfl P1 hur P5 P5 λh2 hle2 hsz2 hat=>?_;have k2:=k1.ext hle2;have kp2:=kp1.trans (Kept.of_le hle2);have hat2:=hat (skip r h2) (Kept.of_le hle2).skip (lq P2);obtain⟨vp,vi,va,vt,bp,bi,bk,ba,bt⟩:=jW hat2;generalize h1.size=B at bp bi bk ba bt;subst hz;refine ab λz hz=>?_;simp[ae cB bp.1,bp.2.len];have bph:=bp.2.bound;have bin:=bi.2.bound;have bto:=bt.2.bound;refine aO [0,2,3,18,19,20,26,27,28] (fun(_:Unit) i=>[PB (Py ⟨Kb,0,Pz⟩),Pv Pw b,PB (Py ⟨B,0,Pz⟩),vb,Pv Pw f.blocks.length,Pv Pw b,vp,Pv Pw x.phis.length,Pv Pw i])
   (λ_ i h3=>∃m',upE (phiS f.params b x) i m1 = .ok m'/\Lk h3 Kb r vb f m'/\Kept h2 h3 (Py r)) x.phis.length ()
   rfl P2 rfl ⟨m1,rfl,k2,Kept.refl _ _⟩ (λ_ _=>rfl) (λv i h1 hk m=>by simp) ?_ ?_
  ·rintro _ i h3 hlti ⟨m3,hm3,k3,kp3⟩ K3 hK3;have bp3:=bp.2.mono kp3.skip;obtain⟨u5,hu5,hur5⟩:=bp3.wh rfl (N:=2) rfl hlti;have hr3:=k3.map.lt;have hst3:=mT hm3;have her3 : ∀{t},phiS f.params b x i m3 = .error t->upE (phiS f.params b x) x.phis.length m1 = .error t:=λe=>xU hm3 hlti e;rw[phiS]at hst3 her3;refine ab λy hy=>?_;simp(disch:=omega)[bp3.idxn (N:=2) rfl,hu5 _ cB];refine dz (z:=.agg #[Pv Pw 0,PA Pz 0 0]) P1 rfl P1 hur5 P5 P5 λh4 hle4 hsz4 hat4=>?_;have hat4':=hat4 (skip r h4) (Kept.of_le hle4).skip (lq P2);obtain⟨c0,_⟩:=xV hat4';have rd:=(hat4'.part PhiD.gJ).rng;generalize nth x.phis i=q at c0 rd hst3 her3;generalize h3.size=B3 at c0;subst hy;simp[ae cB c0];refine kO (X:=nothing) (ds:=[q.dst]) (vs:=[Pv Pw q.dst]) rfl El.aR Sa ⟨bn.2 ⟨rfl,rd⟩,trivial⟩ bE rfl P2 λu6 h5 hle5 hsz5 hu6 _=>?_;have k5:=(k3.ext hle4).ext hle5;have kp5:=(kp3.trans (Kept.of_le hle4)).trans (Kept.of_le hle5);have hr5:=k5.map.lt;simp(disch:=omega);refine du P1 (Ey k5 (hu6 _ bE (lq P2))) ?_ ?_
   ·rintro _ h6 ⟨m6,hm6,k6,kp6⟩;exact hK3 () _ _ rfl rfl ⟨m6,by rw[hst3,hm6],k6,kp5.trans kp6⟩
   rintro _ h6 ⟨t,ht,rfl,kp6⟩;exact⟨.inl rfl,hKp _ _ ⟨t,her (by rw[her3 ht]),rfl,(kp2.trans kp5).trans kp6⟩⟩
  rintro _ h3 ⟨m3,hm3,k3,kp3⟩;simp only[hm3]at hst her;simp;subst hz;refine ab λz hz=>?_;have bi3:=bi.2.mono kp3.skip;have ci3:=ae kp3.Cg bi.1;have kp03:=kp2.trans kp3;simp[ci3,bi3.len];refine aO [0,2,3,18,19,20,43,44,45] (fun(_:Unit) i=>[PB (Py ⟨Kb,0,Pz⟩),Pv Pw b,PB (Py ⟨B,0,Pz⟩),vb,Pv Pw f.blocks.length,Pv Pw b,vi,Pv Pw x.ins.length,Pv Pw i])
   (λ_ i h4=>∃m',upE (insS f.params b x) i m3 = .ok m'/\Lk h4 Kb r vb f m'/\Kept h3 h4 (Py r)) x.ins.length ()
   rfl P2 rfl ⟨m3,rfl,k3,Kept.refl _ _⟩ (λ_ _=>rfl) (λv i h1 hk m=>by simp) ?_ ?_
  ·rintro _ i h4 hlti ⟨m4,hm4,k4,kp4⟩ K3 hK3;have bi4:=bi3.mono kp4.skip;obtain⟨u5,hu5,hur5⟩:=bi4.wh rfl (N:=5) rfl hlti;have hr4:=k4.map.lt;have hst4:=mT hm4;have her4 : ∀{t},insS f.params b x i m4 = .error t->upE (insS f.params b x) x.ins.length m3 = .error t:=λe=>xU hm4 hlti e;rw[insS]at hst4 her4;refine ab λy hy=>?_;simp(disch:=omega)[bi4.idxn (N:=5) rfl,hu5 _ cB];refine dz (z:=.agg #[Pv Pw 0,Pv Pw 0,Pv Pw 0,PA Pz 0 0,Pv Px 0]) P1 rfl P1 hur5 P5 P5 λh5 hle5 hsz5 hat5=>?_;have hat5':=hat5 (skip r h5) (Kept.of_le hle5).skip (lq P2);obtain⟨c0,c1,c2,va5,ca5⟩:=kP hat5';have k5:=k4.ext hle5;have kp5:=kp4.trans (Kept.of_le hle5);have whole : ∃w,Un.ev (vw h5) (.bU 5) (PB (Py ⟨h4.size,0,Pz⟩))=Py w/\Rd (vw h5) w (nth x.ins i):=by obtain⟨w,w1,w2⟩:=(hat5'.mono cB).bU rfl;exact⟨w,w1,w2⟩
   obtain⟨w,w1,w2⟩:=whole;generalize nth x.ins i=q at c0 c1 c2 ca5 hst4 her4 w2;generalize h4.size=B4 at c0 c1 c2 ca5 w1;subst hy;refine ab λy hy=>?_;simp[ae cB c0];refine af P1 jJ ?_;rintro _ _ ⟨rfl,rfl⟩;refine du P1 gm ?_ ?_;rotate_left
   ·rintro _ _ ⟨e,rfl,rfl⟩;exact⟨.inl rfl,hKp _ _ ⟨_,her (by rw[her4 (by rw[if_neg (by simp[e])])]),rfl,kp03.trans kp5⟩⟩
   rintro _ _ ⟨e1,rfl⟩;subst hy;refine ab λy hy=>?_;simp[ae cB c0];refine af P1 zQ ?_;rintro _ _ ⟨rfl,rfl⟩;simp;subst hy;refine ab λy hy=>?_;simp[ae cB ca5.1,ca5.2.len];refine af P1 jJ ?_;rintro _ _ ⟨rfl,rfl⟩;refine du P1 gm ?_ ?_;rotate_left
   ·rintro _ _ ⟨e,rfl,rfl⟩;exact⟨.inl rfl,hKp _ _ ⟨_,her (by rw[her4 (by rw[if_neg (by simp[e])])]),rfl,kp03.trans kp5⟩⟩
   rintro _ _ ⟨e2,rfl⟩;subst hy;simp[w1];refine af P1 (zS w2) ?_;rintro u6 h6 ⟨hle6,hu6⟩;have k6:=k5.ext hle6;have kp6:=kp5.trans (Kept.of_le hle6);rw[if_pos (by simp[e1,e2])]at hst4 her4;have hr5:=k5.map.lt;refine du P1 (Ey k6 (hu6.mono λb o hb=>?_)) ?_ ?_
   ·unfold fresh at hb;unfold Lft.skip;split at hb
    ·cases hb
    rw[if_neg P2];exact hb
   ·rintro _ h7 ⟨m7,hm7,k7,kp7⟩;exact hK3 () _ _ rfl rfl ⟨m7,by rw[hst4,hm7],k7,kp6.trans kp7⟩
   rintro _ h7 ⟨t,ht,rfl,kp7⟩;exact⟨.inl rfl,hKp _ _ ⟨t,her (by rw[her4 ht]),rfl,(kp03.trans kp6).trans kp7⟩⟩
  rintro _ h4 ⟨m4,hm4,k4,kp4⟩;simp only[hm4]at hst her;simp;subst hz;refine ab λz hz=>?_;have kp24:=kp3.trans kp4;have hr4:=k4.map.lt;have ck4:=ae kp24.skip bk;have hc : ∀{h5:Heap},Kept h4 h5 (Py r)->(skip r h4).le (vw h5):=λhk=>hk.Cg;have cellsS : ∀o:Option Sh,((o.map encS).getD (.agg #[Pv Pw 0,Pv Pw 0,Pv Pw 0,Pv Pw 0]))=encS (o.getD (0,0,0,0)):=λo=>by cases o<;>rfl
  have hone : ∀s:Sh,∀c∈(encS s).cells.toList,c.oneCell'=true:=λs=>by simp[encS,Value.oneCell']
  refine gy (λρ h5=>∃(B5:Nat) (v79 v83:Value) (tl:Env),ρ=[(0,PB (Py ⟨Kb,0,Pz⟩)),(2,Pv Pw b),(3,PB (Py ⟨B,0,Pz⟩)),(10,PB (Py ⟨B5,0,Pz⟩)),(11,.bool (fk x.term.kind).isSome),(18,vb),(19,Pv Pw f.blocks.length),(20,Pv Pw b),(43,vi),
    (44,Pv Pw x.ins.length),(45,Pv Pw x.ins.length),(79,v79),(82,Pv Pw x.term.kind),(83,v83)]++tl/\Lk h5 Kb r vb f m4/\Kept h4 h5 (Py r)/\B5≠r/\h5[B5]? = Py (.cells (encS ((fk x.term.kind).getD (0,0,0,0))).cells T.di (0,0))) ?_ ?_
  ·intro K3 hK3;refine aT (skip r h4) cB ?_;simp[ck4];refine⟨?_,?_⟩
   ·refine af P1 xx ?_;rintro _ h5 ⟨rfl,hle5,hm5⟩;have hs5:=bY hle5;refine⟨hc (Kept.of_le hle5),?_,?_⟩
    ·refine ld (z:=.agg #[Pv Pw 0,Pv Pw 0,Pv Pw 0,Pv Pw 0]) U.dC U.int P1 (by simp<;>rfl) (by simp<;>rfl) eC hm5 ?_;rw[oN,cellsS,O0];simp;refine gk (n:=4) (v:=encS ((fk x.term.kind).getD (0,0,0,0))) (z:=.agg #[Pv Pw 0,Pv Pw 0,Pv Pw 0,Pv Pw 0]) P1 rfl P1 rfl (hone _) P5 P5 λh6 hle6 hsz6 hb6=>?_;exact hK3 _ _ ⟨_,_,_,_,rfl,(k4.ext hle5).ext hle6,(Kept.of_le hle5).trans (Kept.of_le hle6),by omega,hb6⟩
    refine dw (z:=.agg #[Pv Pw 0,Pv Pw 0,Pv Pw 0,Pv Pw 0]) P1 ?_;have hle6:=bQ h5 (.cells (Value.cells (.agg #[Pv Pw 0,Pv Pw 0,Pv Pw 0,Pv Pw 0])) T.di);have hb6:(h5.push (.cells (Value.cells (.agg #[Pv Pw 0,Pv Pw 0,Pv Pw 0,Pv Pw 0])) T.di))[h5.size]? = Py (.cells (Value.cells (.agg #[Pv Pw 0,Pv Pw 0,Pv Pw 0,Pv Pw 0])) T.di (0,0)):=by simp
    have hs6:(h5.push (.cells (Value.cells (.agg #[Pv Pw 0,Pv Pw 0,Pv Pw 0,Pv Pw 0])) T.di)).size=h5.size+1:=by simp
    generalize h5.push (.cells (Value.cells (.agg #[Pv Pw 0,Pv Pw 0,Pv Pw 0,Pv Pw 0])) T.di)=h6 at hle6 hb6 hs6;refine⟨hc ((Kept.of_le hle5).trans (Kept.of_le hle6)),?_⟩;refine ld (z:=.agg #[Pv Pw 0,Pv Pw 0,Pv Pw 0,Pv Pw 0]) U.dC U.int P1 (by simp<;>rfl) (by simp<;>rfl) eC (hm5.ext hle6) ?_;rw[oN,cellsS,O0];simp;refine ef (g:=h5.size) (o:=0) (n:=4) (v:=encS ((fk x.term.kind).getD (0,0,0,0))) P1 rfl rfl rfl (hone _) hb6 Sa λh7 hs7 ⟨row,hb7,hrow⟩ ho7=>?_;have hrow2:row=(encS ((fk x.term.kind).getD (0,0,0,0))).cells:=by rw[<-Array.toList_inj,hrow];simp
    rw[hrow2]at hb7;have kp7:Kept h4 h7 (Py r):=⟨by omega,λq hq hne=>by rw[ho7 q P2];exact hle6 _ _ (hle5 _ _ (LI hq)) |>.trans (LI hq).symm⟩;exact hK3 _ _ ⟨_,_,_,_,rfl,k4.kept kp7 (((k4.map.ext hle5).ext hle6).same (ho7 r P2)),kp7,by omega,hb7⟩
   refine dw (z:=.agg #[Pv Pw 0,Pv Pw 0,Pv Pw 0,Pv Pw 0]) P1 ?_;have hle5:=bQ h4 (.cells (Value.cells (.agg #[Pv Pw 0,Pv Pw 0,Pv Pw 0,Pv Pw 0])) T.di);have hb5:(h4.push (.cells (Value.cells (.agg #[Pv Pw 0,Pv Pw 0,Pv Pw 0,Pv Pw 0])) T.di))[h4.size]? = Py (.cells (Value.cells (.agg #[Pv Pw 0,Pv Pw 0,Pv Pw 0,Pv Pw 0])) T.di (0,0)):=by simp
   have hs5:(h4.push (.cells (Value.cells (.agg #[Pv Pw 0,Pv Pw 0,Pv Pw 0,Pv Pw 0])) T.di)).size=h4.size+1:=by simp
   generalize h4.push (.cells (Value.cells (.agg #[Pv Pw 0,Pv Pw 0,Pv Pw 0,Pv Pw 0])) T.di)=h5 at hle5 hb5 hs5;refine⟨hc (Kept.of_le hle5),?_⟩;refine af P1 xx ?_;rintro _ h6 ⟨rfl,hle6,hm6⟩;have hs6:=bY hle6;refine⟨hc ((Kept.of_le hle5).trans (Kept.of_le hle6)),?_⟩;refine ld (z:=.agg #[Pv Pw 0,Pv Pw 0,Pv Pw 0,Pv Pw 0]) U.dC U.int P1 (by simp<;>rfl) (by simp<;>rfl) eC hm6 ?_;rw[oN,cellsS,O0];simp;refine ef (g:=h4.size) (o:=0) (n:=4) (v:=encS ((fk x.term.kind).getD (0,0,0,0))) P1 rfl rfl rfl (hone _) (hle6 _ _ hb5) Sa λh7 hs7 ⟨row,hb7,hrow⟩ ho7=>?_;have hrow2:row=(encS ((fk x.term.kind).getD (0,0,0,0))).cells:=by rw[<-Array.toList_inj,hrow];simp
   rw[hrow2]at hb7;have kp7:Kept h4 h7 (Py r):=⟨by omega,λq hq hne=>by rw[ho7 q P2];exact hle6 _ _ (hle5 _ _ (LI hq)) |>.trans (LI hq).symm⟩;exact hK3 _ _ ⟨_,_,_,_,rfl,k4.kept kp7 (((k4.map.ext hle5).ext hle6).same (ho7 r P2)),kp7,by omega,hb7⟩
  rintro ρ h5 ⟨B5,v79,v83,tl,rfl,k5,kp5,hB5,hb5⟩;subst hz;refine ab λz hz=>?_;have kp25:=kp24.trans kp5;have ci5:=ae kp25.skip bi.1;have bi5:=bi.2.mono kp25.skip;have ca5:=ae kp25.skip ba.1;have ba5:=ba.2.mono kp25.skip;have ct5:=ae kp25.skip bt.1;have bt5:=bt.2.mono kp25.skip;have hb5':skip r h5 B5=Py (.cells (encS ((fk x.term.kind).getD (0,0,0,0))).cells T.di (0,0)):=by rw[lq hB5];exact hb5
  generalize hsh:(fk x.term.kind).getD (0,0,0,0)=s at hb5';have d0:ak (skip r h5) ⟨B5,0,Pz⟩=Py (Pv Pw s.1):=cJ hb5' rfl;have d1:ak (skip r h5) ⟨B5,1,Pz⟩=Py (Pv Pw s.2.1):=cJ hb5' rfl;have d2:ak (skip r h5) ⟨B5,2,Pz⟩=Py (Pv Pw s.2.2.1):=cJ hb5' rfl;have d3:ak (skip r h5) ⟨B5,3,Pz⟩=Py (Pv Pw s.2.2.2):=cJ hb5' rfl;have hto:n7 x.term=((fk x.term.kind).isSome&&(bZ x.term.args.length s.1 s.2.1&&bZ x.term.to.length s.2.2.1 s.2.2.2)):=by rw[n7,<-hsh];cases fk x.term.kind<;>rfl
  refine aT (skip r h5) cB ?_;have bad:n7 x.term=PD->∀ch,ch=trV (10,(b:Int),(x.ins.length:Int))->Kp ch h5:=λe ch hch=>hKp _ _ ⟨_,her (by rw[endS,if_neg (by simp[e])]),hch,kp03.trans (kp4.trans kp5)⟩;have good:n7 x.term=PC->∀tl:Env,@LC.wp (ppOf Kp) PE z (eA 1 (eG K2 (eA 0 (@dB [] K)))) ([(0,PB (Py ⟨Kb,0,Pz⟩)),(2,Pv Pw b),(3,PB (Py ⟨B,0,Pz⟩)),(10,PB (Py ⟨B5,0,Pz⟩)),(11,.bool PC),(18,vb),(19,Pv Pw f.blocks.length),(20,Pv Pw b),(43,vi),
   (44,Pv Pw x.ins.length),(45,Pv Pw x.ins.length),(79,v79),(82,Pv Pw x.term.kind),(83,v83)]++tl) h5:=by
   intro hgood tl;subst hz;have ct5':=ae cB ct5;have cb5:=k5.c1;have hne:0<f.blocks.length:=by omega
   simp[ct5',bt5.len];refine aO [0,2,3,18,19,20,116,117,118] (fun(_:Unit) i=>[PB (Py ⟨Kb,0,Pz⟩),Pv Pw b,PB (Py ⟨B,0,Pz⟩),vb,Pv Pw f.blocks.length,Pv Pw b,vt,Pv Pw x.term.to.length,Pv Pw i])
    (λ_ i h6=>h6=h5/\∀j,j<i->bZ (nth x.term.to j) 1 (f.blocks.length-1)=PC) x.term.to.length ()
    rfl P2 (by simp[bK,ag,ah]) ⟨rfl,λj hj=>by omega⟩ (λ_ _=>rfl) (λv i h1 hk m=>by simp) ?_ ?_
   ·rintro _ i h5 hlti ⟨rfl,hpre⟩ K3 hK3;refine ab λy hy=>?_;simp(disch:=omega)[bt5.idx1 rfl,bt5.int cB];subst hy;refine aT (skip r h5) cB ?_;simp(disch:=omega)[ci5,bi5.len,cb5,k5.rb.len];refine af P1 jJ ?_;rintro _ _ ⟨rfl,rfl⟩;refine⟨cB,?_⟩;refine du P1 gm ?_ ?_
    ·rintro _ _ ⟨e,rfl⟩;refine hK3 () _ _ rfl rfl ⟨rfl,λj hj=>?_⟩;rcases Lr j i with h | h
     ·exact hpre j h
     have:j=i:=by omega
     subst this;exact e
    rintro ch _ ⟨e,hch,rfl⟩;refine⟨.inr λ_=>trivial,hKp _ _ ⟨_,her ?_,hch,kp03.trans (kp4.trans kp5)⟩⟩;rw[endS,if_pos hgood,if_neg];intro ha;rw[LY.1 ha _ (bC hlti)]at e;cases e
   rintro _ h5 ⟨rfl,hpre⟩;simp;refine hK2 () _ _ rfl rfl ⟨m4,?_,k5,kp03.trans (kp4.trans kp5)⟩;rw[hst,endS,if_pos hgood,if_pos];rw[LY];intro y hy;obtain⟨j,hj,rfl⟩:=LO hy;rw[<-aA hj];exact hpre j hj
  cases hso:(fk x.term.kind).isSome with
  | false=>
   simp[ci5,bi5.len,d0,d1,d2,d3,ca5,ba5.len,ct5,bt5.len,ag,ah];refine du P1 gm ?_ ?_
   ·rintro _ _ ⟨e,_⟩;cases e
   rintro ch _ ⟨_,hch,rfl⟩;exact⟨.inr λ_=>trivial,bad (by rw[hto,hso];rfl) _ hch⟩
  | true=>
   rw[hso,NC]at hto;simp[ci5,bi5.len,d0,d1,d2,d3,ca5,ba5.len,ct5,bt5.len,ag,ah];refine af P1 jJ ?_;rintro _ _ ⟨rfl,rfl⟩;refine⟨cB,?_⟩;cases hw1:bZ x.term.args.length s.1 s.2.1 with
   | false=>
    simp[ag,ah];refine du P1 gm ?_ ?_
    ·rintro _ _ ⟨e,_⟩;cases e
    rintro ch _ ⟨_,hch,rfl⟩;exact⟨.inr λ_=>trivial,bad (by rw[hto,hw1];rfl) _ hch⟩
   | true=>
    simp[ag,ah];refine af P1 jJ ?_;rintro _ _ ⟨rfl,rfl⟩;refine⟨cB,?_⟩;refine du P1 gm ?_ ?_
    ·rintro _ _ ⟨e,rfl⟩;exact good (by rw[hto,hw1,e];rfl) _
    rintro ch _ ⟨e,hch,rfl⟩;exact⟨.inr λ_=>trivial,bad (by rw[hto,hw1,e];rfl) _ hch⟩
 rintro _ h1 ⟨m1,hm1,k1,kp1⟩;simp;exact hK _ _ ⟨m1,hm1,k1,kp1⟩
theorem pN : ∀{a b:List Int},a.Pairwise (· < ·)->b.Pairwise (· < ·)->(∀x,x∈a↔x∈b)->a=b
 | [],[],_,_,_=>rfl
 | [],y::b,_,_,h=>by have:=(h y).2 (Lz ..);cases this
 | x::a,[],_,_,h=>by have:=(h x).1 (Lz ..);cases this
 | x::a,y::b,ha,hb,h=>by
  obtain⟨a1,a2⟩:=OT.1 ha;obtain⟨b1,b2⟩:=OT.1 hb;have e:x=y:=by
   rcases LF.1 ((h x).1 (Lz ..))with e | h1
   ·exact e
   rcases LF.1 ((h y).2 (Lz ..))with e | h2
   ·exact e.symm
   have:=a1 y h2;have:=b1 x h1;omega
  subst e;rw[pN a2 b2 λz=>?_];constructor
  ·intro hz;rcases LF.1 ((h z).1 (LA _ hz))with e | h1
   ·have:=a1 z hz;omega
   exact h1
  intro hz;rcases LF.1 ((h z).2 (LA _ hz))with e | h1
  ·have:=b1 z hz;omega
  exact h1
theorem yh(l:List Int):(nX l).Pairwise (·<=·):=by have:=List.pairwise_mergeSort (le:=λx y:Int=>decide (x<=y)) (λa b c h1 h2=>by simp at *;omega) (λa b=>by simp;omega) l;exact this.imp λh=>by simpa using h
theorem get!_nth{l:List Int}{i:Nat}:l.toArray[i]! = nth l i:=by simp[nth,NK]
theorem tZ{l:List Int}(hs:l.Pairwise (·<=·)){i j:Nat}(hij:i<=j)(hj:j<l.length):nth l i<=nth l j:=by
 rw[aA P2,aA hj];rcases Lr i j with h | h
 ·exact List.pairwise_iff_getElem.1 hs i j P2 hj h
 have:i=j:=by omega
 subst this;exact NX _
theorem vK{l:List Int}(hs:l.Pairwise (·<=·)):(Lib.compact l).Pairwise (· < ·):=by unfold Lib.compact Lib.compactUpTo;rw[List.pairwise_map,List.pairwise_filter];refine(List.pairwise_lt_range (n:=l.length)).imp_of_mem fun{i j} hi hj hij ki kj=>?_;simp only[M0]at hi hj;simp only[Lib.keeps,get!_nth,decide_eq_true_eq]at kj;rw[get!_nth,get!_nth];have h1:=tZ hs (i:=i) (j:=j-1) P2 P2;have h2:=tZ hs (i:=j-1) (j:=j) P2 hj;rcases kj with h | h<;>omega
theorem tI{l:List Int}{x:Int}:x∈Lib.compact l↔x∈l:=by
 refine⟨og,λhx=>?_⟩;obtain⟨j,hj,rfl⟩:=LO hx;have key : ∀j,j<l.length->nth l j∈Lib.compact l:=by
  intro j;induction j with
  | zero=>intro h;unfold Lib.compact Lib.compactUpTo;refine MN.2 ⟨0,NA.2 ⟨by simpa using h,by simp[Lib.keeps]⟩,get!_nth⟩
  | succ j ih=>
   intro h;by_cases he:nth l (j+1)=nth l j
   ·rw[he];exact ih P2
   unfold Lib.compact Lib.compactUpTo;refine MN.2 ⟨j+1,NA.2 ⟨by simpa using h,by simp only[Lib.keeps,get!_nth,decide_eq_true_eq];exact .inr (by simpa using he)⟩,get!_nth⟩
 rw[<-aA hj];exact key j hj
theorem nW{β:Type}{p:Nat->Bool}{x:Nat->β}{y:β}:y∈sift p x n↔∃i,i<n/\p i=PC/\x i=y:=by rw[pa];simp[and_assoc]
theorem yo{n:Int}:(kK row n).Pairwise (· < ·):=vK (yh _)
theorem rT{n x:Int}:x∈kK row n↔x∈row/\0<=x/\x<n:=by
 rw[kK,tI,nX,OS,nW];simp only[oH,Lt,decide_eq_true_eq];constructor
 ·rintro⟨i,hi,h,rfl⟩;exact⟨bC hi,h⟩
 rintro⟨h,h1⟩;obtain⟨i,hi,rfl⟩:=LO h;exact⟨i,hi,by rw[aA hi];exact h1,aA hi⟩
theorem gS{g:Gr}{a:Int}:mX g a b=PC↔(0<=a/\a<g.length/\0<=b/\b<g.length)/\b∈nth g a.toNat:=by simp[mX]
theorem zU{p:Nat->Bool}:(sift p (λb=>(b:Int)) n).Pairwise (· < ·):=by rw[pa,List.pairwise_map,List.pairwise_filter];exact List.pairwise_lt_range.imp λh _ _=>by omega
theorem gg{g:Gr}{a:Int}:b∈kJ g a↔mX g a b=true:=by
 rw[kJ,nW];constructor
 ·rintro⟨i,_,h,rfl⟩;exact h
 intro h;have:=(gS.1 h).1;exact⟨b.toNat,by omega,by rw[LK P2];exact h,LK P2⟩
theorem rm{g:Gr}{a:Int}:(kJ g a).Pairwise (· < ·):=zU
theorem vC{g:Gr}{a:Nat}(ha:a<g.length):nth (cY g) a=kJ g a:=by rw[cY,ft ha];refine pN yo rm λx=>?_;rw[rT,gg,gS,LN];exact⟨λ⟨h1,h2,h3⟩=>⟨⟨by omega,by omega,h2,h3⟩,h1⟩,λ⟨⟨_,_,h2,h3⟩,h1⟩=>⟨h1,h2,h3⟩⟩
theorem zf{f k:Nat->List Int}(h : ∀a,a<n->f a=k a):jE f n=jE k n:=by
 induction n with
 | zero=>rfl
 | succ n ih=>rw[iR,iR,ih λa ha=>h a P2,h n P2]
theorem DC{g:Gr}:iz g=jE (λa=>kJ g a) g.length:=zf λa ha=>vC ha
theorem E9{l:List (Int × Int)}: ∀{p:Gr} {i:Nat},i<p.length->nth (l.foldl ez p) i=nth p i++(l.filter λe=>decide (e.2.toNat=i)).map Prod.fst:=by
 induction l with
 | nil=>intro p i _;simp
 | cons e l ih=>
  intro p i hi;rw[LR,ih (by simpa[ez]using hi),ez,bz hi,N9];split
  ·rename_i h;simp[h]
  rename_i h;simp[h]
theorem filter_one{l:List Int}(hs:l.Pairwise (· < ·)):l.filter (λx=>decide (x=b))=if b∈l then[b] else[]:=by
 induction l with
 | nil=>simp
 | cons x l ih=>
  obtain⟨h1,h2⟩:=OT.1 hs;rw[N9,ih h2];by_cases hx:x=b
  ·subst hx;have:¬x∈l:=λh=>by have:=h1 x h;omega
   simp[this]
  simp[hx,Ne.symm hx]
theorem E1{f:Nat->List Int}(hf : ∀a,(f a).Pairwise (· < ·))(hp : ∀a,∀x∈f a,0<=x){b:Nat}:((jE f n).filter λe=>decide (e.2.toNat=b)).map Prod.fst=sift (λa=>decide ((b:Int)∈f a)) (λa=>(a:Int)) n:=by
 induction n with
 | zero=>rfl
 | succ n ih=>
  rw[iR,OO,Ny,ih];have e1:((f n).map λb=>((n:Int),b)).filter (λe=>decide (e.2.toNat=b))=((f n).filter λx=>decide (x=(b:Int))).map λb=>((n:Int),b):=by rw[List.filter_map];congr 1;refine O2 λx hx=>?_;have:=hp n x hx;simp only[Function.comp,decide_eq_decide];omega
  rw[e1,filter_one (hf n)];by_cases h:(b:Int)∈f n
  ·rw[if_pos h,mK (by simpa using h)];rfl
  rw[if_neg h,ll (by simpa using h)];simp
theorem nU{g:Gr}:(dd g).length=g.length:=by rw[dd,ni];simp
theorem AD{g:Gr}:dd g=sL g:=by
 refine wL (by rw[nU,Bl]) λb hb=>?_;rw[nU]at hb;rw[dd,E9 (by simpa using hb),aC hb,MB,sL,ft hb,DC,E1 (λ_=>rm) (λa x hx=>by have:=(gS.1 (gg.1 hx)).1;omega)];have e:(λa:Nat=>decide ((b:Int)∈kJ g a))=λa:Nat=>mX g a b:=by funext a;rw[LV];simp[gg]
 rw[e]
theorem Dl{g:Gr}{a:Int}(hb:0<=b/\b<g.length):a∈nth (dd g) b.toNat↔mX g a b=true:=by
 rw[AD,sL,ft P2,nW];constructor
 ·rintro⟨i,_,h,rfl⟩;rwa [LK hb.1]at h
 intro h;have:=(gS.1 h).1;exact⟨a.toNat,by omega,by rw[LK P2,LK P2];exact h,LK P2⟩
structure Le (x y:List Bool):Prop where
 len:y.length=x.length
 le : ∀i,nth x i=PC->nth y i=PC
theorem Le.refl(x:List Bool):Le x x:=⟨rfl,λ_ h=>h⟩
theorem Le.trans {x y z:List Bool} (h:Le x y) (k:Le y z):Le x z:=⟨k.len.trans h.len,λi e=>k.le i (h.le i e)⟩
theorem Le.antisymm{x y:List Bool}(h:Le x y)(k:Le y x):x=y:=by refine wL h.len.symm λi _=>?_;rw[LV];exact⟨h.le i,k.le i⟩
theorem Le.cV : ∀{x y:List Bool},Le x y->x=y\/cV y<cV x
 | [],y,h=>.inl (LH h.len).symm
 | a::x,y,h=>by
  match y,h with
  | [],h=>have:=h.len;simp at this
  | b::y,h=>
   have h2:Le x y:=⟨by simpa using h.len,λi e=>by have:=h.le (i+1);simpa[nth]using this (by simpa[nth]using e)⟩;have h0:a=PC->b=true:=λe=>by have:=h.le 0;simpa[nth]using this (by simpa[nth]using e)
   unfold Go.Proofs.YtnfiilgdjpdlkaaGreatDoor.cV;rcases h2.cV with rfl | h3
   ·cases a<;>cases b<;>simp at h0 ⊢
   unfold Go.Proofs.YtnfiilgdjpdlkaaGreatDoor.cV at h3;cases a<;>cases b<;>simp at h0 ⊢<;>omega
theorem Je{x:List Bool}{i:Nat}{b:Bool}(hb:nth x i=PC->b=PC):Le x (x.set i b):=by
 refine⟨by simp,λj hj=>?_⟩;rcases Lr j x.length with h | h
 ·rw[bz h];split
  ·rename_i e;subst e;exact hb hj
  exact hj
 rw[cL h]at hj;cases hj
theorem xJ {f:Nat->List Bool->List Bool} (hf : ∀k x,Le x (f k x)) (x:List Bool) : ∀n m,n<=m->Le (up f n x) (up f m x)
  | n,0,h=>by
                  obtain rfl:n=0:=by omega
                  exact Le.refl _
  | n,m+1,h=>by
    rcases Lr n (m+1)with h1 | h1
    · exact(xJ hf x n m P2).trans (hf m _)
    · obtain rfl:n=m+1:=by omega
      exact Le.refl _
theorem Iq{f:Nat->List Bool->List Bool}(hf : ∀k x,Le x (f k x)){x:List Bool}(h:up f n x=x): ∀k,k<n->f k x=x:=by
 have key : ∀k,k<=n->up f k x=x:=λk hk=>by have h1:=xJ hf x k n hk;rw[h]at h1;have h2:=xJ hf x 0 k (Nk _);exact(h2.antisymm h1).symm
 intro k hk;have h1:=key (k+1) P2;rw[up,key k P2]at h1;exact h1
theorem y8 {β:Type} {F:β->β} : ∀(n:Nat) (x:β),up (λ_=>F) (n+1) x=up (λ_=>F) n (F x)
 | 0,x=>rfl
 | n+1,x=>by show F (up (λ_=>F) (n+1) x)=F (up (λ_=>F) n (F x));rw[y8 n x]
theorem zO {β:Type} {F:β->β} {x:β} (h:F x=x) : ∀n,up (λ_=>F) n x=x
 | 0=>rfl
 | n+1=>by show F (up (λ_=>F) n x)=x;rw[zO h n,h]
theorem Et {F:List Bool->List Bool} (hF : ∀x,Le x (F x)) : ∀(n:Nat) (x:List Bool),cV x<=n->F (up (λ_=>F) n x)=up (λ_=>F) n x
 | 0,x,h=>by
  rcases(hF x).cV with e | e
  ·exact e.symm
  omega
 | n+1,x,h=>by
  rw[y8];rcases(hF x).cV with e | e
  ·rw[<-e,zO e.symm];exact e.symm
  exact Et hF n _ P2
inductive Re (g:Gr) (gone:Int):Nat->Prop
 | root:0<g.length->gone≠0->Re g gone 0
 | step {a b:Nat}:Re g gone a->mX g a b=PC->(b:Int)≠gone->Re g gone b
theorem Re.lt{g:Gr}{gone:Int}{b:Nat}(h:Re g gone b):b<g.length:=by
 cases h with
 | root h _=>exact h
 | step _ h _=>have:=(gS.1 h).1;omega
variable{gone:Int}
theorem Re.ne{g:Gr}{b:Nat}(h:Re g gone b):(b:Int)≠gone:=by
 cases h with
 | root _ h=>exact λe=>h e.symm
 | step _ _ h=>exact h
theorem Re.all{g:Gr}{b:Nat}(h:Re g gone b):Re g (-1) b:=by
 induction h with
 | root h _=>exact .root h P4
 | step _ h _ ih=>exact .step ih h P2
theorem wm{l:List Int}{i:Nat}{x:List Bool}:Le x (tS gone l i x):=Je λh=>by rw[h];rfl
theorem tj{g:Gr}{a:Nat}{x:List Bool}:Le x (outBlock g gone a x):=by
 unfold outBlock;split
 ·exact xJ (λk x=>wm) x 0 _ (Nk _)
 exact Le.refl _
theorem tg{g:Gr}{x:List Bool}:Le x (mL g gone x):=xJ (λk x=>tj) x 0 _ (Nk _)
theorem yH{β:Type}(I:β->Prop){f:Nat->β->β}(hf : ∀k x,k<n->I x->I (f k x)){x:β}(hx:I x):I (up f n x):=by
 have : ∀m,m<=n->I (up f m x):=by
  intro m;induction m with
  | zero=>exact λ_=>hx
  | succ m ih=>exact λh=>hf _ _ P2 (ih P2)
 exact this n (Lp _)
theorem yB{g:Gr}{b:Nat}:nth (mJ g gone) b=PC↔Re g gone b:=by
 by_cases h0:g.length=0\/gone=0
 ·rw[mJ,if_pos h0];constructor
  ·intro h;rcases Lr b g.length with h1 | h1
   ·rw[aC h1]at h;cases h
   rw[cL (by simpa using h1)]at h;cases h
  intro h;exfalso;induction h with
  | root h1 h2=>rcases h0 with h0 | h0;omega;exact h2 h0
  | step _ _ _ ih=>exact ih
 rw[mJ,if_neg h0];have hg:g.length≠0:=λe=>h0 (.inl e);have hgone:gone≠0:=λe=>h0 (.inr e);have hinit:((List.replicate g.length PD).set 0 PC).length=g.length:=by simp
 constructor
 ·have hI : ∀x:List Bool,(∀b,nth x b=PC->Re g gone b)->∀b,nth (mL g gone x) b=PC->Re g gone b:=by
   intro x hx;refine yH (λx:List Bool=>∀b,nth x b=PC->Re g gone b) (λa x ha hx=>?_) hx;unfold outBlock;split
   ·rename_i hxa;have hra:=hx a hxa;refine yH (λx:List Bool=>∀b,nth x b=PC->Re g gone b) (λi x hi hx=>?_) hx;intro b hb;have hm:=bC hi;have hed:=gg.1 hm;have hrng:=(gS.1 hed).1;unfold tS at hb;rcases Lr b x.length with h1 | h1
    ·rw[bz h1]at hb;split at hb
     ·rename_i e;rcases(MD _ _).mp hb with h2 | h2
      ·rw[e]at h2;exact hx b h2
      have eb:(b:Int)=nth (kJ g a) i:=by omega
      exact .step hra (by rw[eb];exact hed) (by rw[eb];simpa using h2)
     exact hx b hb
    rw[cL (by simpa using h1)]at hb;cases hb
   exact hx
  exact yH (λx:List Bool=>∀b,nth x b=PC->Re g gone b) (λ_ x _ hx=>hI x hx) (λb hb=>by
   rcases Lr b g.length with h1 | h1
   ·rw[bz (by simpa using h1)]at hb;split at hb
    ·rename_i e;subst e;exact .root P2 hgone
    rw[aC h1]at hb;cases hb
   rw[cL (by simpa using h1)]at hb;cases hb) b
 intro h;have hfix:=Et (F:=mL g gone) (λx=>tg) g.length ((List.replicate g.length PD).set 0 PC) (by
  have:=xn (t:=List.replicate g.length PD) (i:=0);have h2:cV (List.replicate g.length PD)=g.length:=by simp[cV]
  omega);have hle:=xJ (f:=λ_=>mL g gone) (λ_ x=>tg) ((List.replicate g.length PD).set 0 PC) 0 g.length (Nk _);generalize up (λ_=>mL g gone) g.length ((List.replicate g.length PD).set 0 PC)=x at hfix hle;have hxl:x.length=g.length:=hle.len.trans hinit;induction h with
 | root h1 _=>exact hle.le 0 (by show nth ((List.replicate g.length PD).set 0 PC) 0=PC;rw[bz (by simpa using h1),if_pos rfl])
 | step ha he hb ih=>rename_i a b;have hrng:=(gS.1 he).1;have h1:=Iq (λk x=>tj) hfix a P2;rw[outBlock,if_pos ih]at h1;obtain⟨i,hi,e⟩:=LO (gg.2 he);have h2:=Iq (λk x=>wm) h1 i hi;rw[<-aA hi]at e;unfold tS at h2;rw[e]at h2;have h3:=congrArg (λl=>nth l b) h2;simp only[LN]at h3;rw[bz P2,if_pos rfl]at h3;rw[<-h3];simp[hb]
theorem ox{g:Gr}{a b:Nat}:domC g a b=PC↔Re g (-1) a/\Re g (-1) b/\¬Re g a b:=by
 rw[domC];simp only[Lt,MD,M3,decide_eq_true_eq,yB,NF,ne_eq];constructor
 ·rintro⟨⟨h1,h2⟩,h3⟩;refine⟨h1,h2,?_⟩;rcases h3 with h3 | h3
  ·exact λh=>h.ne h3.symm
  exact h3
 rintro⟨h1,h2,h3⟩;exact⟨⟨h1,h2⟩,.inr h3⟩
def Bef (l:List Int) (u v:Int):Prop:=∃p q,l=p++u::q/\v∈q
theorem Bef.app{l:List Int}{u v:Int}(h:Bef l u v)(t:List Int):Bef (l++t) u v:=by obtain⟨p,q,rfl,hv⟩:=h;exact⟨p,q++t,by simp,L8 _ hv⟩
theorem Bef.pre{l:List Int}{u v:Int}(h:Bef l u v)(t:List Int):Bef (t++l) u v:=by obtain⟨p,q,rfl,hv⟩:=h;exact⟨t++p,q,by simp,hv⟩
theorem Bef.Cn{l t:List Int}{u v:Int}(hu:u∈l)(hv:v∈t):Bef (l++t) u v:=by obtain⟨p,q,rfl⟩:=List.append_of_mem hu;exact⟨p,q++t,by simp,MG _ hv⟩
theorem Bef.mem{l:List Int}{u v:Int}(h:Bef l u v):u∈l/\v∈l:=by obtain⟨p,q,rfl,hv⟩:=h;exact⟨by simp,by simp[hv]⟩
inductive Adv (nx:Int->List Int) (l:List Int) (u:Int):Int->Prop
 | self:Adv nx l u u
 | step {p q:Int}:Adv nx l u p->q∈nx p->Bef l q p->Adv nx l u q
theorem Adv.app {nx:Int->List Int} {l:List Int} {u v:Int} (h:Adv nx l u v) (t:List Int):Adv nx (l++t) u v:=by
 induction h with
 | self=>exact .self
 | step _ h1 h2 ih=>exact .step ih h1 (h2.app t)
theorem Adv.pre {nx:Int->List Int} {l:List Int} {u v:Int} (h:Adv nx l u v) (t:List Int):Adv nx (t++l) u v:=by
 induction h with
 | self=>exact .self
 | step _ h1 h2 ih=>exact .step ih h1 (h2.pre t)
theorem Adv.trans{nx:Int->List Int}{l:List Int}{u v w:Int}(h:Adv nx l u v)(k:Adv nx l v w):Adv nx l u w:=by
 induction k with
 | self=>exact h
 | step _ h1 h2 ih=>exact .step ih h1 h2
def vis (s:List Bool × List Int) (x:Int):Prop:=nth s.1 x.toNat=PC
structure Told (nx:Int->List Int) (m:Nat) (a:Int) (s s':List Bool × List Int) (new:List Int):Prop where
 out:s'.2=s.2++new
 len:s'.1.length=s.1.length
 nodup:new.Nodup
 visd : ∀x,0<=x->(vis s' x↔vis s x\/x∈new)
 fresh : ∀x∈new,¬vis s x/\0<=x/\x<m
 last : ∃t,new=t++[a]
 clos : ∀x∈new,∀y∈nx x,vis s' y
 par : ∀x∈new,x≠a->∃p∈new,x∈nx p/\Bef new x p
 desc : ∀x∈new,Adv nx new a x
 ret : ∀x∈new,∀y∈nx x,y∈new->Bef new y x\/Adv nx new y x
structure Half (nx:Int->List Int) (m:Nat) (a:Int) (k:Nat) (s s':List Bool × List Int) (new:List Int):Prop where
 out:s'.2=s.2++new
 len:s'.1.length=s.1.length
 nodup:new.Nodup
 visd : ∀x,0<=x->(vis s' x↔vis s x\/x=a\/x∈new)
 fresh : ∀x∈new,¬vis s x/\(0<=x/\x<m)/\x≠a
 clos : ∀x∈new,∀y∈nx x,vis s' y
 done : ∀j,j<k->vis s' (nth (nx a) j)
 par : ∀x∈new,x∈nx a\/∃p∈new,x∈nx p/\Bef new x p
 desc : ∀x∈new,∃b∈new,b∈nx a/\Adv nx new b x
 ret : ∀x∈new,∀y∈nx x,y∈new->Bef new y x\/Adv nx new y x
theorem xt {nx:Int->List Int} {m:Nat} (hnx : ∀a:Int,0<=a->a<m->∀y∈nx a,0<=y/\y<m) : ∀(n:Nat) (a:Int) (s:List Bool × List Int),0<=a->a<m->s.1.length=m->nth s.1 a.toNat=PD->cV s.1<=n->
  ∃new,Told nx m a s (iX nx n a s) new
 | 0,a,s,h0,h1,hl,hf,hc=>by exfalso;have:=iW (t:=s.1) (i:=a.toNat) P2 hf;omega
 | n+1,a,s,h0,h1,hl,hf,hc=>by
  have hfs:=iW (t:=s.1) (i:=a.toNat) P2 hf;rw[jS];have half : ∀k,k<=(nx a).length->∃new,Half nx m a k s (up (cD nx n a) k (s.1.set a.toNat PC,s.2)) new/\cV (up (cD nx n a) k (s.1.set a.toNat PC,s.2)).1<=n:=by
   intro k;induction k with
   | zero=>
    intro _;refine⟨[],⟨by simp[up],by simp[up],by simp,λx hx=>?_,by simp,by simp,by simp,by simp,by simp,by simp⟩,by simp only[up];omega⟩;unfold vis;show nth (s.1.set a.toNat PC) x.toNat=PC↔_;rcases Lr x.toNat s.1.length with hlt | hge
    ·rw[bz hlt];split
     ·rename_i e;have:x=a:=by omega
      simp[this]
     rename_i e;have:x≠a:=λh=>e (by rw[h]);simp[this]
    rw[cL (by simpa using hge),cL hge];have:x≠a:=by omega
    simp[this]
   | succ k ih=>
    intro hk;obtain⟨new,H,hcn⟩:=ih P2;rw[up];generalize up (cD nx n a) k (s.1.set a.toNat PC,s.2)=z at H hcn;have hb:=hnx a h0 h1 (nth (nx a) k) (bC P2);have hbm:nth (nx a) k∈nx a:=bC P2;have hzl:z.1.length=m:=H.len.trans hl;rw[cD];split
    ·rename_i hv;refine⟨new,{ H with done:=λj hj=>?_ },hcn⟩;rcases Lr j k with h | h
     ·exact H.done j h
     obtain rfl:j=k:=by omega
     exact hv
    rename_i hv;obtain⟨new',T⟩:=xt hnx n (nth (nx a) k) z hb.1 hb.2 hzl (by simpa using hv) hcn;have hkeep:=(om (nx:=nx) (m:=m) (c:=n) n (nth (nx a) k) z ⟨hzl,hcn⟩).2;generalize iX nx n (nth (nx a) k) z=z' at T hkeep;obtain⟨t,ht⟩:=T.last;have hbn:nth (nx a) k∈new':=by rw[ht];simp
    have up : ∀y,0<=y->vis z y->vis z' y:=λy hy h=>(T.visd y hy).2 (.inl h);have hnv : ∀x∈new,vis z x:=λx hx=>(H.visd x (H.fresh x hx).2.1.1).2 (.inr (.inr hx));refine⟨new++new',⟨?_,?_,?_,?_,?_,?_,?_,?_,?_,?_⟩,hkeep⟩
    ·rw[T.out,H.out,LB]
    ·rw[T.len,H.len]
    ·exact Ni.2 ⟨H.nodup,T.nodup,λx hx y hy e=>by subst e;exact(T.fresh x hy).1 (hnv x hx)⟩
    ·intro x hx;rw[T.visd x hx,H.visd x hx,Lv];constructor
     ·rintro((h | h | h) | h)
      ·exact .inl h
      ·exact .inr (.inl h)
      ·exact .inr (.inr (.inl h))
      exact .inr (.inr (.inr h))
     rintro(h | h | h | h)
     ·exact .inl (.inl h)
     ·exact .inl (.inr (.inl h))
     ·exact .inl (.inr (.inr h))
     exact .inr h
    ·intro x hx;rcases Lv.1 hx with hx | hx
     ·exact H.fresh x hx
     obtain⟨g1,g2⟩:=T.fresh x hx;refine⟨λh=>g1 ((H.visd x g2.1).2 (.inl h)),g2,λe=>g1 ((H.visd x g2.1).2 (.inr (.inl e)))⟩
    ·intro x hx y hy;rcases Lv.1 hx with hx | hx
     ·have hxr:=(H.fresh x hx).2.1;exact up y (hnx x hxr.1 hxr.2 y hy).1 (H.clos x hx y hy)
     exact T.clos x hx y hy
    ·intro j hj;rcases Lr j k with h | h
     ·exact up _ (hnx a h0 h1 _ (bC P2)).1 (H.done j h)
     obtain rfl:j=k:=by omega
     exact(T.visd _ hb.1).2 (.inr hbn)
    ·intro x hx;rcases Lv.1 hx with hx | hx
     ·rcases H.par x hx with h | ⟨p,hp,h2,h3⟩
      ·exact .inl h
      exact .inr ⟨p,L8 _ hp,h2,h3.app _⟩
     by_cases e:x=nth (nx a) k
     ·exact .inl (e▸hbm)
     obtain⟨p,hp,h2,h3⟩:=T.par x hx e;exact .inr ⟨p,MG _ hp,h2,h3.pre _⟩
    ·intro x hx;rcases Lv.1 hx with hx | hx
     ·obtain⟨b,hb,h2,h3⟩:=H.desc x hx;exact⟨b,L8 _ hb,h2,h3.app _⟩
     exact⟨_,MG _ hbn,hbm,(T.desc x hx).pre _⟩
    intro x hx y hy hyn;rcases Lv.1 hx with hx | hx<;>rcases Lv.1 hyn with hyn | hyn
    ·exact(H.ret x hx y hy hyn).imp (·.app _) (·.app _)
    ·exact absurd (H.clos x hx y hy) (T.fresh y hyn).1
    ·exact .inl (Bef.Cn hyn hx)
    exact(T.ret x hx y hy hyn).imp (·.pre _) (·.pre _)
  obtain⟨new,H,hcn⟩:=half (nx a).length (Lp _);generalize up (cD nx n a) (nx a).length (s.1.set a.toNat PC,s.2)=z at H hcn;have hda : ∀y∈nx a,vis z y:=by intro y hy;obtain⟨j,hj,rfl⟩:=LO hy;have:=H.done j hj;rwa [aA hj]at this
  have hadv : ∀x∈new,Adv nx (new++[a]) a x:=by intro x hx;obtain⟨b,hb,h2,h3⟩:=H.desc x hx;exact(Adv.step .self h2 (Bef.Cn hb Sa)).trans (h3.app _)
  refine⟨new++[a],⟨?_,H.len,?_,?_,?_,⟨new,rfl⟩,?_,?_,?_,?_⟩⟩
  ·simp only[H.out,LB]
  ·refine Ni.2 ⟨H.nodup,by simp,λx hx y hy e=>?_⟩;simp only[Ls]at hy;exact(H.fresh x hx).2.2 (e.trans hy)
  ·intro x hx;show nth z.1 x.toNat=PC↔_;have:=H.visd x hx;unfold vis at this ⊢;rw[this];simp only[Lv,Ls];constructor
   ·rintro(h | h | h)
    ·exact .inl h
    ·exact .inr (.inr h)
    exact .inr (.inl h)
   rintro(h | h | h)
   ·exact .inl h
   ·exact .inr (.inr h)
   exact .inr (.inl h)
  ·intro x hx;rcases Lv.1 hx with hx | hx
   ·exact⟨(H.fresh x hx).1,(H.fresh x hx).2.1⟩
   simp only[Ls]at hx;subst hx;exact⟨by unfold vis;rw[hf];simp,h0,h1⟩
  ·intro x hx y hy;rcases Lv.1 hx with hx | hx
   ·exact H.clos x hx y hy
   simp only[Ls]at hx;subst hx;exact hda y hy
  ·intro x hx hne;rcases Lv.1 hx with hx | hx
   ·rcases H.par x hx with h | ⟨p,hp,h2,h3⟩
    ·exact⟨a,by simp,h,Bef.Cn hx Sa⟩
    exact⟨p,L8 _ hp,h2,h3.app _⟩
   simp only[Ls]at hx;exact absurd hx hne
  ·intro x hx;rcases Lv.1 hx with hx | hx
   ·exact hadv x hx
   simp only[Ls]at hx;subst hx;exact .self
  intro x hx y hy hyn;rcases Lv.1 hyn with hn | hn
  ·rcases Lv.1 hx with hx | hx
   ·exact(H.ret x hx y hy hn).imp (·.app _) (·.app _)
   simp only[Ls]at hx;subst hx;exact .inl (Bef.Cn hn Sa)
  simp only[Ls]at hn;subst hn;rcases Lv.1 hx with hx | hx
  ·exact .inr (hadv x hx)
  simp only[Ls]at hx;subst hx;exact .inr .self
end Go.Proofs.YtnfiilgdjpdlkaaGreatDoor
namespace Go.Proofs.YtnfiilgdjpdlkaaGreatDoor.Chk
inductive Anc (o:Nat->Nat) (x:Nat):Nat->Prop
 | self:Anc o x x
 | up {b:Nat}:b≠0->Anc o x (o b)->Anc o x b
theorem rI{o:Nat->Nat}{x:Nat}:Anc o x 0↔x=0:=by
 constructor
 ·intro h;cases h with
  | self=>rfl
  | up h _=>exact absurd rfl h
 rintro rfl;exact .self
variable{b:Nat}
theorem nz{o:Nat->Nat}{x:Nat}(hb:b≠0):Anc o x b↔x=b\/Anc o x (o b):=by
 constructor
 ·intro h;cases h with
  | self=>exact .inl rfl
  | up _ h=>exact .inr h
 rintro(rfl | h)
 ·exact .self
 exact .up hb h
theorem Anc.trans{o:Nat->Nat}{x y:Nat}(h:Anc o x y)(k:Anc o y b):Anc o x b:=by
 induction k with
 | self=>exact h
 | up hb _ ih=>exact .up hb ih
theorem Anc.total{o:Nat->Nat}{x y:Nat}(h:Anc o x b)(k:Anc o y b):Anc o x y\/Anc o y x:=by
 induction h with
 | self=>exact .inr k
 | up hb h ih=>
  cases k with
  | self=>exact .inl (.up hb h)
  | up _ k=>exact ih k
structure Ch (R:Nat->Prop) (r:Nat->Nat) (E:Nat->Nat->Prop) (f:Nat->Nat) (D:Nat->Nat->Prop):Prop where
 inj : ∀a b,R a->R b->r a=r b->a=b
 R0:R 0
 r0:r 0=0
 hf : ∀x,R x->x≠0->R (f x)/\E (f x) x/\r (f x)<r x
 d1 : ∀d b a,D d b->d≠b->E a b->R a->D d a
 d0 : ∀d,D d 0->d=0
def Ok (Pr:Nat->Prop) (x:Nat):Prop:=x=0\/Pr x
structure Inv (R:Nat->Prop) (r:Nat->Nat) (E:Nat->Nat->Prop) (f:Nat->Nat) (D:Nat->Nat->Prop) (k:Nat) (o:Nat->Nat) (Pr:Nat->Prop):Prop where
 pr : ∀b,Pr b->R b/\b≠0/\Ok Pr (o b)/\r (o b)<r b
 all : ∀b,R b->b≠0->r b<k->Pr b
 fok : ∀b,Pr b->Ok Pr (f b)
 K : ∀b,Pr b->∀x,(∀a,E a b->R a->Ok Pr a->Anc o x a)->Anc o x (o b)
 FP : ∀b,Pr b->∀y,Anc o y (o b)->k<=r y->Anc o y (f b)
 FP2 : ∀b,Pr b->r b<k->Anc o (o b) (f b)
 S : ∀b,Pr b->∀d,D d b->d≠b->Anc o d (o b)
section
variable {R:Nat->Prop} {r:Nat->Nat} {E:Nat->Nat->Prop} {f:Nat->Nat} {D:Nat->Nat->Prop} {k:Nat} {o:Nat->Nat} {Pr:Nat->Prop}
theorem Inv.okR(I:Inv R r E f D k o Pr)(C:Ch R r E f D){x:Nat}(h:Ok Pr x):R x:=by
 rcases h with rfl | h
 ·exact C.R0
 exact(I.pr x h).1
theorem Inv.anc(I:Inv R r E f D k o Pr){x:Nat}(h:Anc o x b):Ok Pr b->Ok Pr x/\(x=b\/r x<r b):=by
 induction h with
 | self=>exact λhb=>⟨hb,.inl rfl⟩
 | up hb _ ih=>
  intro hok;rcases hok with rfl | hp
  ·exact absurd rfl hb
  obtain⟨_,_,h3,h4⟩:=I.pr _ hp;obtain⟨h5,h6⟩:=ih h3;refine⟨h5,.inr ?_⟩;rcases h6 with rfl | h6
  ·exact h4
  omega
theorem Inv.dom(I:Inv R r E f D k o Pr)(C:Ch R r E f D){d:Nat}(hb:Ok Pr b)(h:D d b):Anc o d b:=by
 by_cases e:d=b
 ·subst e;exact .self
 rcases hb with rfl | hb
 ·exact absurd (C.d0 d h) e
 exact .up (I.pr b hb).2.1 (I.S b hb d h e)
def upd (o:Nat->Nat) (c q:Nat):Nat->Nat:=λb=>if b=c then q else o b
def add (Pr:Nat->Prop) (c:Nat):Nat->Prop:=λb=>b=c\/Pr b
theorem jq{c q x:Nat}(h:¬Anc o c b):Anc (upd o c q) x b↔Anc o x b:=by
 constructor
 ·intro k;induction k with
  | self=>exact .self
  | up hb k ih=>
   rename_i b;have hne:b≠c:=λe=>h (e▸.self);have e:upd o c q b=o b:=by unfold upd;rw[if_neg hne]
   rw[e]at ih k;exact .up hb (ih λhc=>h (.up hb hc))
 intro k;induction k with
 | self=>exact .self
 | up hb k ih=>
  rename_i b;have hne:b≠c:=λe=>h (e▸.self);have e:upd o c q b=o b:=by unfold upd;rw[if_neg hne]
  exact .up hb (by rw[e];exact ih λhc=>h (.up hb hc))
theorem Iw{c q x:Nat}(hc:c≠0)(hq:¬Anc o c q):Anc (upd o c q) x c↔x=c\/Anc o x q:=by rw[nz hc,show upd o c q c=q by simp[upd],jq hq]
theorem Inv.Hw(I:Inv R r E f D k o Pr){x y:Nat}(hx:Ok Pr x)(hy:Ok Pr y)(h1:Anc o x y)(h2:Anc o y x):x=y:=by have e1:=(I.anc h1 hy).2;have e2:=(I.anc h2 hx).2;omega
theorem Inv.below(I:Inv R r E f D k o Pr){c q x:Nat}(hpc:Pr c)(hq:¬Anc o c q)(h:Anc o c b):Ok Pr b->(Anc (upd o c q) x b↔(Anc o x b/\Anc o c x)\/Anc o x q):=by
 have hc:=(I.pr c hpc).2.1;induction h with
 | self=>
  intro hb;rw[Iw hc hq];constructor
  ·rintro(rfl | h)
   ·exact .inl ⟨.self,.self⟩
   exact .inr h
  rintro(⟨h1,h2⟩ | h)
  ·exact .inl (I.Hw (I.anc h1 hb).1 hb h1 h2)
  exact .inr h
 | up hb h ih=>
  rename_i b;intro hok;have hpb:Pr b:=hok.resolve_left hb;obtain⟨_,_,h3,h4⟩:=I.pr b hpb;have hne:b≠c:=λe=>by
   subst e;rcases(I.anc h h3).2 with e | e
   ·rw[<-e]at h4;omega
   omega
  have e:upd o c q b=o b:=by unfold upd;rw[if_neg hne]
  rw[nz hb,e,ih h3,nz hb];constructor
  ·rintro(rfl | ⟨h1,h2⟩ | h1)
   ·exact .inl ⟨.inl rfl,.up hb h⟩
   ·exact .inl ⟨.inr h1,h2⟩
   exact .inr h1
  rintro(⟨rfl | h1,h2⟩ | h1)
  ·exact .inl rfl
  ·exact .inr (.inl ⟨h1,h2⟩)
  exact .inr (.inr h1)
structure Turn (R:Nat->Prop) (r:Nat->Nat) (E:Nat->Nat->Prop) (o:Nat->Nat) (Pr:Nat->Prop) (c q:Nat):Prop where
 ok:Ok Pr q
 q : ∀x,Anc o x q↔∀a,E a c->R a->Ok Pr a->Anc o x a
theorem Inv.fc(I:Inv R r E f D k o Pr)(C:Ch R r E f D){c:Nat}(hR:R c)(hc:c≠0)(hk:r c=k):Ok Pr (f c):=by
 obtain⟨h1,_,h3⟩:=C.hf c hR hc;by_cases e:f c=0
 ·exact .inl e
 exact .inr (I.all _ h1 e P2)
theorem Turn.lt{c q:Nat}(T:Turn R r E o Pr c q)(I:Inv R r E f D k o Pr)(C:Ch R r E f D)(hR:R c)(hc:c≠0)(hk:r c=k):r q<r c/\Anc o q (f c):=by
 obtain⟨h1,h2,h3⟩:=C.hf c hR hc;have h4:=(T.q q).1 .self (f c) h2 h1 (I.fc C hR hc hk);have:=(I.anc h4 (I.fc C hR hc hk)).2;refine⟨?_,h4⟩;rcases this with e | e
 ·rw[e];exact h3
 omega
theorem Inv.turn(I:Inv R r E f D k o Pr)(C:Ch R r E f D){c q:Nat}(hR:R c)(hc:c≠0)(hk:r c=k)(T:Turn R r E o Pr c q):Inv R r E f D (k+1) (upd o c q) (add Pr c):=by
 obtain⟨f1,f2,f3⟩:=C.hf c hR hc;have hfok:=I.fc C hR hc hk;obtain⟨hlt,hqf⟩:=T.lt I C hR hc hk;have hq:¬Anc o c q:=λh=>by
  have:=(I.anc h T.ok).2;rcases this with e | e
  ·rw[e]at hlt;omega
  omega
 have hcf:¬Anc o c (f c):=λh=>by
  have:=(I.anc h hfok).2;rcases this with e | e
  ·rw[<-e]at f3;omega
  omega
 have okm : ∀x,Ok Pr x->Ok (add Pr c) x:=λx h=>h.imp id .inr;have up_ne : ∀b,b≠c->upd o c q b=o b:=λb hb=>by unfold upd;rw[if_neg hb]
 have up_c:upd o c q c=q:=by simp[upd]
 have hpc : ∀b,Ok Pr b->Anc o c b->Pr c:=λb hb h=>((I.anc h hb).1).resolve_left hc;have mono : ∀b,Ok Pr b->∀x,Anc (upd o c q) x b->Anc o x b:=by
  intro b hb x h;by_cases hcb:Anc o c b
  ·have hp:=hpc b hb hcb;rcases(I.below hp hq hcb hb).1 h with⟨h1,_⟩ | h1
   ·exact h1
   exact(Anc.up hc (I.K c hp x ((T.q x).1 h1))).trans hcb
  exact(jq hcb).1 h
 have stay : ∀b,Ok Pr b->∀x,Anc o x b->(Anc o c b->Anc o c x\/Anc o x q)->Anc (upd o c q) x b:=by
  intro b hb x h h2;by_cases hcb:Anc o c b
  ·refine(I.below (hpc b hb hcb) hq hcb hb).2 ?_;rcases h2 hcb with h3 | h3
   ·exact .inl ⟨h,h3⟩
   exact .inr h3
  exact(jq hcb).2 h
 have domc : ∀n b,r b<=n->Ok Pr b->Anc o c b->∀d,D d b->r d<r c->D d c:=by
  intro n;induction n with
  | zero=>
   intro b hb hok hcb d hd hlt;have:=(I.anc hcb hok).2;rcases this with rfl | h
   ·exact hd
   omega
  | succ n ih=>
   intro b hb hok hcb d hd hlt;by_cases e:c=b
   ·subst e;exact hd
   have hb0:b≠0:=λe0=>by subst e0;exact e (rI.1 hcb)
   have hpb:=hok.resolve_left hb0;have hcb':Anc o c (o b):=((nz hb0).1 hcb).resolve_left e;obtain⟨g1,g2,g3⟩:=C.hf b (I.pr b hpb).1 hb0;have hlb:=(I.anc hcb hok).2;have hdb:d≠b:=λe2=>by subst e2;omega
   exact ih (f b) P2 (I.fok b hpb) (I.FP b hpb c hcb' P2) d (C.d1 d b (f b) hd hdb g2 g1) hlt
 have domq : ∀d,D d c->d≠c->Anc o d q:=by intro d hd hne;refine(T.q d).2 λa ha hRa hoka=>?_;exact I.dom C hoka (C.d1 d c a hd hne ha hRa)
 refine⟨?_,?_,?_,?_,?_,?_,?_⟩
 ·rintro b (rfl | hb)
  ·rw[up_c];exact⟨hR,hc,okm _ T.ok,hlt⟩
  by_cases e:b=c
  ·subst e;rw[up_c];exact⟨hR,hc,okm _ T.ok,hlt⟩
  rw[up_ne b e];obtain⟨h1,h2,h3,h4⟩:=I.pr b hb;exact⟨h1,h2,okm _ h3,h4⟩
 ·intro b hRb hb0 hlt;by_cases e:r b=k
  ·exact .inl (C.inj b c hRb hR P2)
  exact .inr (I.all b hRb hb0 P2)
 ·rintro b (rfl | hb)
  ·exact okm _ hfok
  exact okm _ (I.fok b hb)
 ·intro b hb x hx;have hx' : ∀a,E a b->R a->Ok Pr a->Anc o x a:=λa h1 h2 h3=>mono a h3 x (hx a h1 h2 (okm a h3));by_cases e:b=c
  ·subst e;rw[up_c,jq hq];exact(T.q x).2 hx'
  have hpb:Pr b:=hb.resolve_left e;rw[up_ne b e];obtain⟨h1,h2,h3,h4⟩:=I.pr b hpb;have hxo:=I.K b hpb x hx';refine stay (o b) h3 x hxo λhco=>?_;rcases Anc.total hxo hco with h5 | h5
  ·obtain⟨g1,g2,g3⟩:=C.hf b h1 h2;have hcf2:=I.FP b hpb c hco P2;have hxf:=hx (f b) g2 g1 (okm _ (I.fok b hpb));rcases(I.below (hpc _ h3 hco) hq hcf2 (I.fok b hpb)).1 hxf with⟨_,h6⟩ | h6
   ·exact .inl h6
   exact .inr h6
  exact .inl h5
 ·intro b hb y hy hky;by_cases e:b=c
  ·subst e;rw[up_c,jq hq]at hy;exact(jq hcf).2 (hy.trans hqf)
  have hpb:Pr b:=hb.resolve_left e;rw[up_ne b e]at hy;obtain⟨h1,h2,h3,h4⟩:=I.pr b hpb;have hyf:=I.FP b hpb y (mono _ h3 y hy) P2;refine stay (f b) (I.fok b hpb) y hyf λhcf2=>?_;rcases Anc.total hyf hcf2 with h5 | h5
  ·exfalso;have:=(I.anc h5 (.inr (hpc _ (I.fok b hpb) hcf2))).2;rcases this with e2 | e2
   ·subst e2;omega
   omega
  exact .inl h5
 ·intro b hb hlt;by_cases e:b=c
  ·subst e;rw[up_c];exact(jq hcf).2 hqf
  have hpb:Pr b:=hb.resolve_left e;rw[up_ne b e];obtain⟨h1,h2,h3,h4⟩:=I.pr b hpb;obtain⟨g1,g2,g3⟩:=C.hf b h1 h2;have hbk:r b<k:=by
   rcases Lr (r b) k with h | h
   ·exact h
   exact absurd (C.inj b c h1 hR P2) e
  have h5:=I.FP2 b hpb hbk;refine(jq λhcf2=>?_).2 h5;have:=(I.anc hcf2 (I.fok b hpb)).2;rcases this with e2 | e2
  ·rw[<-e2]at g3;omega
  omega
 intro b hb d hd hne;by_cases e:b=c
 ·subst e;rw[up_c,jq hq];exact domq d hd hne
 have hpb:Pr b:=hb.resolve_left e;rw[up_ne b e];obtain⟨h1,h2,h3,h4⟩:=I.pr b hpb;have hdo:=I.S b hpb d hd hne;refine stay (o b) h3 d hdo λhco=>?_;rcases Anc.total hdo hco with h5 | h5
 ·have hpcc:=hpc _ h3 hco;rcases(I.anc h5 (.inr hpcc)).2 with e2 | e2
  ·subst e2;exact .inl .self
  exact .inr (domq d (domc (r b) b (Lp _) (.inr hpb) (.up h2 hco) d hd e2) λe3=>by subst e3;omega)
 exact .inl h5
theorem Inv.again(I:Inv R r E f D k o Pr)(hk : ∀b,R b->r b<k):Inv R r E f D 0 o Pr:=by refine⟨I.pr,λb hR h0 h=>I.all b hR h0 (hk b hR),I.fok,I.K,λb hb y hy _=>?_,λb _ h=>absurd h P2,I.S⟩;exact hy.trans (I.FP2 b hb (hk b (I.pr b hb).1))
theorem Inv.start:Inv R r E f D 0 o (λ_=>False):=
 ⟨λ_ h=>h.elim,λ_ _ _ h=>absurd h P2,λ_ h=>h.elim,λ_ h=>h.elim,λ_ h=>h.elim,λ_ h=>h.elim,λ_ h=>h.elim⟩
theorem Inv.JW(I:Inv R r E f D k o Pr){c q:Nat}(T:Turn R r E o Pr c q)(hp:Pr c):q=o c\/r q<r (o c):=by have:=I.K c hp q ((T.q q).1 .self);exact(I.anc this (I.pr c hp).2.2.1).2
end
end Go.Proofs.YtnfiilgdjpdlkaaGreatDoor.Chk
namespace Go.Proofs.YtnfiilgdjpdlkaaGreatDoor
open Go Go.Lft Chk
theorem FL{β:Type}{f k:Nat->β->β}{n:Nat}(I:β->Prop)(h : ∀i x,i<n->I x->f i x=k i x)(hI : ∀i x,i<n->I x->I (f i x)){x:β}(hx:I x):up f n x=up k n x:=by
 have key : ∀m,m<=n->up f m x=up k m x/\I (up f m x):=by
  intro m;induction m with
  | zero=>exact λ_=>⟨rfl,hx⟩
  | succ m ih=>intro hm;obtain⟨h1,h2⟩:=ih P2;exact⟨by rw[up,up,<-h1,h m _ P2 h2],hI _ _ P2 h2⟩
 exact(key n (Lp _)).1
theorem tx {nx nx':Int->List Int} {m:Nat} (hnx : ∀a:Int,0<=a->a<m->nx a=nx' a/\∀y∈nx a,0<=y/\y<m) : ∀(n:Nat) (a:Int) (s:List Bool × List Int),0<=a->a<m->iX nx n a s=iX nx' n a s
 | 0,_,_,_,_=>rfl
 | n+1,a,s,h0,h1=>by
  obtain⟨e,hr⟩:=hnx a h0 h1;rw[jS,jS,<-e];have:up (cD nx n a) (nx a).length (s.1.set a.toNat PC,s.2)=up (cD nx' n a) (nx a).length (s.1.set a.toNat PC,s.2):=by refine FL (λ_=>True) (λi x hi _=>?_) (λ_ _ _ _=>trivial) trivial;unfold cD;rw[<-e];obtain⟨g0,g1⟩:=hr _ (bC hi);rw[tx hnx n _ x g0 g1]
  rw[this]
theorem wQ{g:Gr}{a y:Int}(h:y∈kJ g a):0<=y/\y<g.length:=by have:=(gS.1 (gg.1 h)).1;omega
theorem Ci{g:Gr}{a:Int}(h0:0<=a)(h1:a<g.length):nx (cY g) a=kJ g a:=by unfold nx;rw[vC P2,LK h0]
theorem FC{g:Gr}:bf g=kH (kJ g) g.length:=by
 unfold bf kH;split
 ·rfl
 rw[tx (m:=g.length) (λa h0 h1=>⟨Ci h0 h1,λy hy=>wQ (by rwa [Ci h0 h1]at hy)⟩) _ _ _ P2 P2]
structure Ord (g:Gr) (order:List Int):Prop where
 nodup:order.Nodup
 mem : ∀x:Nat,(x:Int)∈order↔Re g (-1) x
 rng : ∀x∈order,0<=x/\x<g.length
 head:order[0]? = Py 0
 par : ∀x∈order,x≠0->∃p∈order,mX g p x=PC/\order.idxOf p<order.idxOf x
 ret : ∀x∈order,∀y∈order,mX g x y=PC->order.idxOf y<=order.idxOf x->∃l,Adv (kJ g) l y x/\∀u v,Bef l u v->order.idxOf v<order.idxOf u
theorem rW{l:List Int}(hn:l.Nodup){u v:Int}(h:Bef l u v):l.reverse.idxOf v<l.reverse.idxOf u:=by
 obtain⟨p,q,rfl,hv⟩:=h;have hu:u∉q:=by have:=(Ni.1 hn).2.1;exact(OE.1 this).1
 rw[List.reverse_append,List.reverse_cons,LB];have h1:(q.reverse++([u]++p.reverse)).idxOf v<q.reverse.length:=by rw[List.idxOf_append,if_pos (by simpa using hv)];exact OJ (by simpa using hv)
 have h2:(q.reverse++([u]++p.reverse)).idxOf u=q.reverse.length:=by rw[List.idxOf_append,if_neg (by simpa using hu)];simp
 omega
theorem jr{g:Gr}(hg:0<g.length):Ord g (bf g):=by
 have hT:=xt (nx:=kJ g) (m:=g.length) (λa _ _ y hy=>wQ hy) g.length 0 (List.replicate g.length PD,[]) P2 P2 Sa (aC (by simpa using hg)) (by simp[cV]);have ho:bf g=(iX (kJ g) g.length 0 (List.replicate g.length PD,[])).2.reverse:=by rw[FC,kH,if_neg P2]
 obtain⟨new,T⟩:=hT;have hout:=T.out;simp only[MB]at hout;rw[ho,hout];have hv0 : ∀x:Int,¬vis (List.replicate g.length PD,([]:List Int)) x:=by
  intro x h;unfold vis at h;simp only at h;rcases Lr x.toNat g.length with h1 | h1
  ·rw[aC h1]at h;cases h
  rw[cL (by simpa using h1)]at h;cases h
 have hvis : ∀x,0<=x->(vis (iX (kJ g) g.length 0 (List.replicate g.length PD,[])) x↔x∈new):=λx hx=>by rw[T.visd x hx];exact⟨λh=>h.resolve_left (hv0 x),.inr⟩
 obtain⟨t,ht⟩:=T.last;have h0:(0:Int)∈new:=by rw[ht];simp
 have hre : ∀x∈new,Re g (-1) x.toNat:=by
  intro x hx;have:=T.desc x hx;clear hx;induction this with
  | self=>exact .root hg P4
  | step _ h1 h2 ih=>have hpr:=T.fresh _ h2.mem.2;have hqr:=T.fresh _ h2.mem.1;have he:=gg.1 h1;refine .step ih ?_ P2;rwa [LK hpr.2.1,LK hqr.2.1]
 refine⟨by simpa[List.Nodup,List.pairwise_reverse,ne_comm]using T.nodup,λx=>?_,λx hx=>(T.fresh x (by simpa using hx)).2,?_,?_,?_⟩
 ·rw[List.mem_reverse];constructor
  ·intro h;simpa using hre x h
  intro h;induction h with
  | root _ _=>exact h0
  | step _ he _ ih=>exact(hvis _ P2).1 (T.clos _ ih _ (gg.2 he))
 ·rw[ht,List.reverse_append];rfl
 ·intro x hx hne;obtain⟨p,hp,h1,h2⟩:=T.par x (by simpa using hx) hne;exact⟨p,by simpa using hp,gg.1 h1,rW T.nodup h2⟩
 intro x hx y hy he hle;rcases T.ret x (by simpa using hx) y (gg.2 he) (by simpa using hy)with h | h
 ·have:=rW T.nodup h;omega
 exact⟨new,h,λu v huv=>rW T.nodup huv⟩
theorem tE{n:Nat}{order:List Int}(hn:order.Nodup)(hr : ∀x∈order,0<=x/\x<(n:Int)){x:Nat}(hx:x<n):nth (eM n order) x=if(x:Int)∈order then(order.idxOf (x:Int):Int) else -1:=by
 have key : ∀k,k<=order.length->(up (λi l=>l.set (nth order i).toNat (i:Int)) k (List.replicate n (-1))).length=n/\nth (up (λi l=>l.set (nth order i).toNat (i:Int)) k (List.replicate n (-1))) x=if(x:Int)∈order.take k then(order.idxOf (x:Int):Int) else -1:=by
  intro k;induction k with
  | zero=>intro _;exact⟨by simp[up],by rw[up,aC hx];simp⟩
  | succ k ih=>
   intro hk;obtain⟨h1,h2⟩:=ih P2;rw[up];refine⟨by simpa using h1,?_⟩;rw[bz P2,LD P2,h2];have hmem:order[k]∈order:=MJ _;have hrk:=hr _ hmem;rw[aA (show k<order.length by omega)];by_cases e:order[k].toNat=x
   ·have e2:order[k]=(x:Int):=by omega
    rw[if_pos e,if_pos (by rw[<-e2];exact MG _ (Ls.2 rfl)),<-e2,NU hn]
   rw[if_neg e];have e2:¬(x:Int)=order[k]:=λh=>e P2;simp only[Lv,Ls,e2,or_false]
 have:=(key order.length (Lp _)).2;rw[Lw (Lp _)]at this;exact this
def st (out:List Int):Nat->Nat:=λb=>(nth out b).toNat
def pd (out:List Int):Nat->Prop:=λb=>b<out.length/\0<=nth out b
def rk (g:Gr) (x:Nat):Nat:=(bf g).idxOf (x:Int)
def Eg (g:Gr) (a b:Nat):Prop:=mX g a b=PC
def Dm (g:Gr) (d b:Nat):Prop:=domC g d b=PC
def Rg (g:Gr) (x:Nat):Prop:=Re g (-1) x
section
variable {g:Gr}
theorem Cp{x:Nat}(h:Rg g x):rk g x<(bf g).length:=OJ (((jr (Nat.lt_of_le_of_lt (Nk _) h.lt)).mem x).2 h)
theorem Rg.pos{x:Nat}(h:Rg g x):0<g.length:=Nat.lt_of_le_of_lt (Nk _) h.lt
theorem Hx{x:Nat}(h:Rg g x):rk g x<g.length:=Nw (Cp h) qE
theorem Bc{a b:Nat}(ha:Rg g a)(hb:Rg g b)(h:rk g a=rk g b):a=b:=by
 have O:=jr ha.pos;have h1:=List.getElem_idxOf (Cp ha);have h2:=List.getElem_idxOf (Cp hb);have:(a:Int)=(b:Int):=by rw[<-h1,<-h2];congr 1
 omega
theorem tQ(hg:0<g.length):rk g 0=0:=by
 have O:=jr hg;unfold rk;have hl:0<(bf g).length:=by
  have:=O.head;rcases ML (bf g).length with h | h
  ·rw[LH h]at this;cases this
  exact h
 have h0:=O.head;rw[LZ hl]at h0;have h1:(bf g)[0]=0:=Option.some.inj h0;have:=NU O.nodup 0 hl;rw[h1]at this;exact this
theorem rN{x:Nat}(h:Rg g x):nth (eM g.length (bf g)) x=(rk g x:Int):=by have O:=jr h.pos;rw[tE O.nodup O.rng h.lt,if_pos ((O.mem x).2 h)];rfl
theorem Bj{x:Nat}(hx:x<g.length)(h:¬Rg g x):nth (eM g.length (bf g)) x=-1:=by have O:=jr (g:=g) P2;rw[tE O.nodup O.rng hx,if_neg λe=>h ((O.mem x).1 e)]
theorem Gn(hg:0<g.length): ∃f:Nat->Nat,∀x,Rg g x->x≠0->Rg g (f x)/\Eg g (f x) x/\rk g (f x)<rk g x:=by
 have O:=jr hg;have : ∀x,∃p,Rg g x->x≠0->Rg g p/\Eg g p x/\rk g p<rk g x:=by
  intro x;by_cases h:Rg g x/\x≠0
  ·obtain⟨p,hp,h1,h2⟩:=O.par x ((O.mem x).2 h.1) P2;have hr:=O.rng p hp;have e:((p.toNat:Nat):Int)=p:=LK hr.1;refine⟨p.toNat,λ_ _=>⟨(O.mem _).1 (by rw[e];exact hp),by unfold Eg;rw[e];exact h1,by unfold rk;rw[e];exact h2⟩⟩
  exact⟨0,λh1 h2=>absurd ⟨h1,h2⟩ h⟩
 exact⟨λx=>(this x).choose,λx=>(this x).choose_spec⟩
theorem Kj(hg:0<g.length){f:Nat->Nat}(hf : ∀x,Rg g x->x≠0->Rg g (f x)/\Eg g (f x) x/\rk g (f x)<rk g x):Ch (Rg g) (rk g) (Eg g) f (Dm g) where
 inj:=λa b ha hb h=>Bc ha hb h
 R0:=.root hg P4
 r0:=tQ hg
 hf:=hf
 d1:=λd b a hd hne he ha=>by
  obtain⟨h1,h2,h3⟩:=ox.1 hd
  exact ox.2 ⟨h1,ha,λh=>h3 (.step h he P2)⟩
 d0:=λd hd=>by
  obtain⟨h1,h2,h3⟩:=ox.1 hd
  rcases ML d with h | h
  ·exact h
  ·exact absurd (.root hg P2) h3
structure Good (g:Gr) (f:Nat->Nat) (k:Nat) (out:List Int):Prop where
 len:out.length=g.length
 rng : ∀b,b<g.length->nth out b=-1\/(0<=nth out b/\nth out b<g.length)
 inv:Inv (Rg g) (rk g) (Eg g) f (Dm g) k (st out) (pd out)
variable {f:Nat->Nat} {k:Nat} {out:List Int}
theorem Good.zB(G:Good g f k out)(C:Ch (Rg g) (rk g) (Eg g) f (Dm g)){x:Nat}(h:Ok (pd out) x):Rg g x/\x<g.length:=⟨G.inv.okR C h,(G.inv.okR C h).lt⟩
theorem od (G:Good g f k out) (C:Ch (Rg g) (rk g) (Eg g) f (Dm g)) : ∀(fuel a b:Nat),Ok (pd out) a->Ok (pd out) b->rk g a+rk g b<fuel->
  ∃c:Nat,j0 out (eM g.length (bf g)) fuel a b=Py (c:Int)/\Ok (pd out) c/\∀x,Anc (st out) x c↔Anc (st out) x a/\Anc (st out) x b
 | 0,a,b,_,_,h=>by omega
 | fuel+1,a,b,ha,hb,h=>by
  obtain⟨ra,la⟩:=G.zB C ha;obtain⟨rb,lb⟩:=G.zB C hb;have hg:=ra.pos;have hnl:(eM g.length (bf g)).length=g.length:=by rw[eM,xS List.length (λ_ _=>by simp)];simp
  have hol:=G.len;rw[j0,if_pos P2,LN,LN,rN ra,rN rb];have step : ∀a b:Nat,Ok (pd out) a->Ok (pd out) b->rk g b<rk g a->a≠0/\nth out a=((st out a:Nat):Int)/\Ok (pd out) (st out a)/\rk g (st out a)<rk g a/\∀x,Anc (st out) x (st out a)/\Anc (st out) x b↔Anc (st out) x a/\Anc (st out) x b:=by
   intro a b ha hb hlt;have ha0:a≠0:=λe=>by subst e;rw[tQ hg]at hlt;omega
   have hpa:=ha.resolve_left ha0;obtain⟨_,_,h3,h4⟩:=G.inv.pr a hpa;refine⟨ha0,(LK hpa.2).symm,h3,h4,λx=>⟨λ⟨h5,h6⟩=>⟨.up ha0 h5,h6⟩,λ⟨h5,h6⟩=>⟨?_,h6⟩⟩⟩;rcases(nz ha0).1 h5 with rfl | h7
   ·have:=(G.inv.anc h6 hb).2;rcases this with e | e
    ·subst e;omega
    omega
   exact h7
  by_cases h1:rk g b<rk g a
  ·rw[if_pos P2];obtain⟨ha0,e,h3,h4,h5⟩:=step a b ha hb h1;rw[e];obtain⟨c,h6,h7,h8⟩:=od G C fuel (st out a) b h3 hb P2;exact⟨c,h6,h7,λx=>(h8 x).trans (h5 x)⟩
  rw[if_neg P2];by_cases h2:rk g a<rk g b
  ·rw[if_pos P2];obtain⟨hb0,e,h3,h4,h5⟩:=step b a hb ha h2;rw[e];obtain⟨c,h6,h7,h8⟩:=od G C fuel a (st out b) ha h3 P2;exact⟨c,h6,h7,λx=>(h8 x).trans (by rw[and_comm,h5 x,and_comm])⟩
  rw[if_neg P2];have e:a=b:=Bc ra rb P2;subst e;exact⟨a,rfl,ha,λx=>by simp⟩
def Bst (out:List Int) (best:Int) (Q:Nat->Prop):Prop:=
 (best=-1/\∀a,¬Q a)\/∃c:Nat,best=(c:Int)/\Ok (pd out) c/\(∃a,Q a)/\∀x,Anc (st out) x c↔∀a,Q a->Anc (st out) x a
def Cons (g:Gr) (out:List Int) (a:Nat):Prop:=Rg g a/\Ok (pd out) a
theorem pg{best:Int}{Q Q':Nat->Prop}(h : ∀a,Q a↔Q' a)(b:Bst out best Q):Bst out best Q':=by have:Q=Q':=funext λa=>propext (h a);rw[<-this];exact b
theorem qV (G:Good g f k out) (C:Ch (Rg g) (rk g) (Eg g) f (Dm g)) : ∀(l:List Int) (best:Int) (Q:Nat->Prop),Bst out best Q->(∀a∈l,0<=a/\a<(g.length:Int))->
  ∃best',bstS out (eM g.length (bf g)) g.length l best=Py best'/\Bst out best' λa=>Q a\/((a:Int)∈l/\Cons g out a)
 | [],best,Q,hB,_=>⟨best,rfl,pg (λa=>by simp) hB⟩
 | a::l,best,Q,hB,hl=>by
  obtain⟨h0,h1⟩:=hl a (Lz ..);have hl':=λx hx=>hl x (LA _ hx);obtain⟨n,rfl⟩:=NY h0;have hn:n<g.length:=by omega
  have hol:=G.len;rw[bstS,if_pos ⟨h0,h1⟩,LN];have hcons:(nth (eM g.length (bf g)) n<0\/((n:Int)≠0/\nth out n<0))↔¬Cons g out n:=by
   by_cases hr:Rg g n
   ·rw[rN hr];constructor
    ·rintro(h | ⟨h2,h3⟩)
     ·omega
     rintro⟨_,h4 | h4⟩
     ·omega
     have:=h4.2;omega
    intro h;right;refine⟨λe=>h ⟨hr,.inl P2⟩,?_⟩;rcases Int.lt_or_le (nth out n) 0 with h2 | h2
    ·exact h2
    exact absurd ⟨hr,.inr ⟨by omega,h2⟩⟩ h
   rw[Bj hn hr];exact⟨λ_ h=>hr h.1,λ_=>.inl P2⟩
  by_cases hc:Cons g out n
  ·rw[if_neg λh=>hcons.1 h hc];rcases hB with⟨rfl,hQ⟩ | ⟨c,rfl,hok,hex,hq⟩
   ·rw[if_pos P4];obtain⟨b',h2,h3⟩:=qV G C l n (λa=>a=n) (.inr ⟨n,rfl,hc.2,⟨n,rfl⟩,λx=>by simp⟩) hl';refine⟨b',h2,pg (λa=>?_) h3⟩;constructor
    ·rintro(rfl | ⟨h4,h5⟩)
     ·exact .inr ⟨Lz ..,hc⟩
     exact .inr ⟨LA _ h4,h5⟩
    rintro(h4 | ⟨h4,h5⟩)
    ·exact absurd h4 (hQ a)
    rcases LF.1 h4 with h4 | h4
    ·exact .inl P2
    exact .inr ⟨h4,h5⟩
   rw[if_neg P2];obtain⟨rc,_⟩:=G.zB C hok;obtain⟨d,h2,h3,h4⟩:=od G C (2*g.length+2) c n hok hc.2 (by have:=Hx rc;have:=Hx hc.1;omega);rw[h2];simp only[LM];obtain⟨b',h5,h6⟩:=qV G C l d (λa=>Q a\/a=n) (.inr ⟨d,rfl,h3,⟨n,.inr rfl⟩,λx=>by
    rw[h4,hq];constructor
    ·rintro⟨h7,h8⟩ a (ha | rfl)
     ·exact h7 a ha
     exact h8
    intro h7;exact⟨λa ha=>h7 a (.inl ha),h7 n (.inr rfl)⟩⟩) hl';refine⟨b',h5,pg (λa=>?_) h6⟩;constructor
   ·rintro((h7 | rfl) | ⟨h7,h8⟩)
    ·exact .inl h7
    ·exact .inr ⟨Lz ..,hc⟩
    exact .inr ⟨LA _ h7,h8⟩
   rintro(h7 | ⟨h7,h8⟩)
   ·exact .inl (.inl h7)
   rcases LF.1 h7 with h7 | h7
   ·exact .inl (.inr P2)
   exact .inr ⟨h7,h8⟩
  rw[if_pos (hcons.2 hc)];obtain⟨b',h2,h3⟩:=qV G C l best Q hB hl';refine⟨b',h2,pg (λa=>?_) h3⟩;constructor
  ·rintro(h4 | ⟨h4,h5⟩)
   ·exact .inl h4
   exact .inr ⟨LA _ h4,h5⟩
  rintro(h4 | ⟨h4,h5⟩)
  ·exact .inl h4
  rcases LF.1 h4 with h6 | h6
  ·exact absurd ((show a=n by omega)▸h5) hc
  exact .inr ⟨h6,h5⟩
theorem C9(G:Good g f k out)(C:Ch (Rg g) (rk g) (Eg g) f (Dm g)){c:Nat}(hR:Rg g c)(hc:c≠0)(hk:rk g c=k):
  ∃q:Nat,bstS out (eM g.length (bf g)) g.length (nth (dd g) c) (-1)=Py (q:Int)/\Turn (Rg g) (rk g) (Eg g) (st out) (pd out) c q:=by
 have hlt:=hR.lt;obtain⟨best,h1,h2⟩:=qV G C (nth (dd g) c) (-1) (λ_=>False) (.inl ⟨rfl,λ_ h=>h⟩) (rM (λe he=>(oR he).1) (λi x hx=>by
  rcases Lr i g.length with hi | hi
  ·rw[aC hi]at hx;cases hx
  rw[cL (by simpa using hi)]at hx;cases hx) c);have hm : ∀a:Nat,(a:Int)∈nth (dd g) c↔Eg g a c:=λa=>by have:=Dl (g:=g) (a:=a) (b:=c) P6;rwa [LN]at this
 obtain⟨f1,f2,f3⟩:=C.hf c hR hc;rcases h2 with⟨_,h3⟩ | ⟨q,rfl,hok,_,hq⟩
 ·exact absurd (.inr ⟨(hm _).2 f2,f1,G.inv.fc C hR hc hk⟩) (h3 (f c))
 refine⟨q,h1,hok,λx=>?_⟩;rw[hq];constructor
 ·intro h a h4 h5 h6;exact h a (.inr ⟨(hm a).2 h4,h5,h6⟩)
 rintro h a (h4 | ⟨h4,h5,h6⟩)
 ·exact h4.elim
 exact h a ((hm a).1 h4) h5 h6
end
def oD (w:Nat->Nat):Nat->Nat
 | 0=>0
 | n+1=>oD w n+w n
theorem EM {w w':Nat->Nat} : ∀{n:Nat},(∀b,b<n->w' b<=w b)->oD w' n<=oD w n
 | 0,_=>Lp _
 | n+1,h=>Nat.add_le_add (EM λb hb=>h b P2) (h n P2)
theorem EK {w w':Nat->Nat} {c:Nat} : ∀{n:Nat},(∀b,b<n->w' b<=w b)->c<n->w' c<w c->oD w' n<oD w n
 | 0,_,h,_=>by omega
 | n+1,h,hc,hlt=>by
  rcases Lr c n with h1 | h1
  ·have:=EK (n:=n) (λb hb=>h b P2) h1 hlt;have:=h n P2;simp only[oD];omega
  obtain rfl:c=n:=by omega
  have:=EM (n:=c) λb hb=>h b P2;simp only[oD];omega
theorem xd {w:Nat->Nat} {m:Nat} : ∀{n:Nat},(∀b,b<n->w b<=m)->oD w n<=n*m
 | 0,_=>by simp[oD]
 | n+1,h=>by have:=xd (n:=n) λb hb=>h b P2;have:=h n P2;rw[oD,MH];omega
section
variable {g:Gr} {f:Nat->Nat} {k:Nat} {out:List Int}
def wt (g:Gr) (out:List Int) (b:Nat):Nat:=if nth out b<0 then g.length else rk g (st out b)
def mu (g:Gr) (out:List Int):Nat:=oD (wt g out) g.length
theorem Good.set (G:Good g f k out) (C:Ch (Rg g) (rk g) (Eg g) f (Dm g)) {c q:Nat} (hR:Rg g c) (hc:c≠0) (hk:rk g c=k) (T:Turn (Rg g) (rk g) (Eg g) (st out) (pd out) c q) (ch:Bool) :
  Good g f (k+1) (setS out ch c q).1/\mu g (setS out ch c q).1<=mu g out/\((setS out ch c q).2=PC->ch=PC\/mu g (setS out ch c q).1<mu g out)/\((setS out ch c q).2=PD->ch=PD/\(setS out ch c q).1=out/\st out c=q/\pd out c):=by
 have hlt:=hR.lt;have hol:=G.len;obtain⟨hq,hqn⟩:=G.zB C T.ok;have I:=G.inv.turn C hR hc hk T;by_cases e:nth out c=q
 ·have hs:setS out ch c q=(out,ch):=by simp[setS,e]
  rw[hs];have hst:upd (st out) c q=st out:=by
   funext b;unfold upd;split
   ·rename_i hb;subst hb;simp[st,e]
   rfl
  have hpd:add (pd out) c=pd out:=by
   funext b;refine propext ⟨λh=>?_,.inr⟩;rcases h with rfl | h
   ·exact P6
   exact h
  rw[hst,hpd]at I;exact⟨⟨G.len,G.rng,I⟩,Lp _,.inl,λh=>⟨h,rfl,by simp[st,e],by omega,by omega⟩⟩
 have hs:setS out ch c q=(out.set c q,PC):=by simp[setS,e]
 rw[hs];have hn : ∀b,b<g.length->nth (out.set c q) b=if c=b then(q:Int) else nth out b:=λb hb=>bz P2;have hst:st (out.set c q)=upd (st out) c q:=by
  funext b;unfold upd st;rcases Lr b out.length with hb | hb
  ·rw[bz hb];by_cases h:c=b
   ·rw[if_pos h,if_pos h.symm];simp
   rw[if_neg h,if_neg (Ne.symm h)]
  rw[cL (by simpa using hb),cL hb,if_neg P2]
 have hpd:pd (out.set c q)=add (pd out) c:=by
  funext b;refine propext ?_;unfold pd add;rw[LU];constructor
  ·rintro⟨h1,h2⟩;rw[bz h1]at h2;by_cases h:c=b
   ·exact .inl h.symm
   rw[if_neg h]at h2;exact .inr ⟨h1,h2⟩
  rintro(rfl | ⟨h1,h2⟩)
  ·exact⟨by omega,by rw[bz P2,if_pos rfl];omega⟩
  refine⟨h1,?_⟩;rw[bz h1];split
  ·omega
  exact h2
 have hw : ∀b,b<g.length->wt g (out.set c q) b<=wt g out b/\(b=c->wt g (out.set c q) b<wt g out b):=by
  intro b hb;by_cases h:c=b
  ·subst h;have e1:wt g (out.set c q) c=rk g q:=by unfold wt;rw[hn c hb,if_pos rfl,if_neg P2,hst];simp[upd]
   have e2:rk g q<wt g out c:=by
    unfold wt;split
    ·exact Hx hq
    rename_i h1;have hp:pd out c:=P6;rcases G.inv.JW T hp with h2 | h2
    ·exfalso;have:=LK hp.2;unfold st at h2;omega
    exact h2
   omega
  have e1:wt g (out.set c q) b=wt g out b:=by unfold wt st;rw[hn b hb,if_neg h]
  exact⟨by omega,λe=>absurd e.symm h⟩
 have hmu:mu g (out.set c q)<mu g out:=EK (λb hb=>(hw b hb).1) hlt ((hw c hlt).2 rfl);refine⟨⟨by simpa using hol,λb hb=>?_,by rw[hst,hpd];exact I⟩,by show mu g (out.set c q)<=_;omega,λ_=>.inr hmu,λh=>by cases h⟩;rw[hn b hb];split
 ·right;omega
 exact G.rng b hb
theorem vQ (C:Ch (Rg g) (rk g) (Eg g) f (Dm g)) : ∀(l:List Int) (k:Nat) (out:List Int) (ch:Bool),l=(bf g).drop k->1<=k->k<=(bf g).length->Good g f k out->
  ∃out' ch',qB (eM g.length (bf g)) (dd g) g.length l (out,ch)=Py (out',ch')/\Good g f (bf g).length out'/\mu g out'<=mu g out/\(ch'=PC->ch=PC\/mu g out'<mu g out)/\
   (ch'=PD->ch=PD/\out'=out/\∀c:Nat,(c:Int)∈l->pd out c/\Turn (Rg g) (rk g) (Eg g) (st out) (pd out) c (st out c))
 | [],k,out,ch,hl,_,hk,G=>by
  have hk2:(bf g).length<=k:=by have:=congrArg List.length hl;simp only[NV,LW]at this;omega
  obtain rfl:k=(bf g).length:=by omega
  exact⟨out,ch,rfl,G,Lp _,.inl,λh=>⟨h,rfl,by simp⟩⟩
 | b::l,k,out,ch,hl,h1,hk,G=>by
  have hlt:k<(bf g).length:=by have:=congrArg List.length hl;simp only[ME,LW]at this;omega
  rw[LS hlt]at hl;obtain⟨hb,hl2⟩:=List.cons.inj hl;have hmem:b∈bf g:=by rw[hb];exact MJ _
  have hg:0<g.length:=by have:=qE (g:=g);omega
  have O:=jr hg;have hr:=O.rng b hmem;obtain⟨c,rfl⟩:=NY hr.1;have hR:Rg g c:=(O.mem c).1 hmem;have hrk:rk g c=k:=by unfold rk;rw[hb,NU O.nodup]
  have hc0:c≠0:=λe=>by subst e;rw[tQ hg]at hrk;omega
  obtain⟨q,h3,T⟩:=C9 G C hR hc0 hrk;rw[qB,if_pos hr,LN];simp only;rw[h3];simp only[LM];obtain⟨g1,g2,g3,g4⟩:=G.set C hR hc0 hrk T ch;have e:setS out ch c q=((setS out ch c q).1,(setS out ch c q).2):=rfl;rw[e];generalize hs1:(setS out ch c q).1=o1 at g1 g2 g3 g4;generalize hs2:(setS out ch c q).2=c1 at g3 g4;obtain⟨out',ch',k1,k2,k3,k4,k5⟩:=vQ C l (k+1) o1 c1 hl2 P2 P2 g1;refine⟨out',ch',k1,k2,by omega,λh=>?_,λh=>?_⟩
  ·rcases k4 h with h4 | h4
   ·rcases g3 h4 with h5 | h5
    ·exact .inl h5
    exact .inr P2
   exact .inr P2
  obtain⟨h4,rfl,h6⟩:=k5 h;obtain⟨h7,rfl,h8,h9⟩:=g4 h4;refine⟨h7,rfl,λx hx=>?_⟩;rcases LF.1 hx with hx | hx
  ·obtain rfl:x=c:=by omega
   exact⟨h9,h8▸T⟩
  exact h6 x hx
theorem Good.one(hg:0<g.length)(G:Good g f 0 out):Good g f 1 out:=by have I:=G.inv;have h0 : ∀b,Rg g b->b≠0->¬rk g b<1:=λb hR hb h=>hb (Bc hR (.root hg P4) (by rw[tQ hg];omega));exact⟨G.len,G.rng,⟨I.pr,λb hR hb h=>absurd h (h0 b hR hb),I.fok,I.K,λb hb y hy _=>I.FP b hb y hy P2,λb hb h=>absurd h (h0 b (I.pr b hb).1 (I.pr b hb).2.1),I.S⟩⟩
structure oh (g:Gr) (f:Nat->Nat) (l:List Int):Prop where
 good:Good g f (bf g).length l
 turn : ∀c,Rg g c->c≠0->pd l c/\Turn (Rg g) (rk g) (Eg g) (st l) (pd l) c (st l c)
theorem xI (hg:0<g.length) (C:Ch (Rg g) (rk g) (Eg g) f (Dm g)) : ∀(fuel:Nat) (out:List Int),Good g f 0 out->mu g out<fuel->
  ∃l,mW (eM g.length (bf g)) (dd g) g.length ((bf g).drop (min 1 (bf g).length)) fuel out=Py l/\oh g f l
 | 0,_,_,h=>by omega
 | fuel+1,out,G,h=>by
  have O:=jr hg;have hlen:0<(bf g).length:=by
   rcases ML (bf g).length with h | h
   ·have:=O.head;rw[LH h]at this;cases this
   exact h
  have hm:min 1 (bf g).length=1:=by omega
  rw[mW,hm];obtain⟨out',ch',k1,k2,k3,k4,k5⟩:=vQ C ((bf g).drop 1) 1 out PD rfl (Lp _) hlen (G.one hg);rw[k1];simp only[LM];cases ch' with
  | true=>rw[if_pos rfl];have:=xI hg C fuel out' ⟨k2.len,k2.rng,k2.inv.again λb hb=>Cp hb⟩ (by rcases k4 rfl with h1 | h1;cases h1;omega);rwa [hm]at this
  | false=>
   rw[if_neg Sa];obtain⟨_,rfl,h6⟩:=k5 rfl;refine⟨_,rfl,k2,λc hR hc=>h6 c ?_⟩;have hmem:=(O.mem c).2 hR;obtain⟨i,hi,e⟩:=LO hmem;have hi0:i≠0:=λh0=>by subst h0;have:=O.head;rw[LZ hi]at this;have:=Option.some.inj this;omega
   rw[<-e];refine List.mem_iff_getElem.2 ⟨i-1,by rw[LW];omega,?_⟩;rw[N1];congr 1;omega
theorem xj(hg:0<g.length): ∃f,Ch (Rg g) (rk g) (Eg g) f (Dm g)/\∃l,xc g (g.length*g.length+1)=Py l/\oh g f l:=by
 obtain⟨f,hf⟩:=Gn hg;have C:=Kj hg hf;refine⟨f,C,?_⟩;refine xI hg C _ _ ⟨by simp,λb hb=>.inl (aC hb),?_⟩ ?_
 ·have:pd (List.replicate g.length (-1))=λ_=>False:=by funext b;refine propext ⟨λ⟨h1,h2⟩=>?_,λh=>h.elim⟩;rw[aC (by simpa using h1)]at h2;omega
  rw[this];exact Inv.start
 have:=xd (w:=wt g (List.replicate g.length (-1))) (m:=g.length) (n:=g.length) λb hb=>by unfold wt;rw[aC hb,if_pos P2];exact Lp _
 unfold mu;omega
theorem oh.anc {l:List Int} (I:oh g f l) (C:Ch (Rg g) (rk g) (Eg g) f (Dm g)) {x b:Nat} (hb:Rg g b):Anc (st l) x b↔Dm g x b:=by
 have hok : ∀b,Rg g b->Ok (pd l) b:=λb h=>by
  by_cases e:b=0
  ·exact .inl e
  exact .inr (I.turn b h e).1
 constructor
 ·intro h;have hx:=(I.good.zB C (I.good.inv.anc h (hok b hb)).1).1;refine ox.2 ⟨hx,hb,λhre=>?_⟩;have key : ∀b,Re g x b->¬Anc (st l) x b:=by
   intro b hre;induction hre with
   | root h1 h2=>intro h;have:=rI.1 h;omega
   | step ha he hne ih=>
    rename_i a b;intro h;by_cases e:b=0
    ·subst e;have:=rI.1 h;omega
    have hRb:Rg g b:=.step ha.all he P2;have h3:=((nz e).1 h).resolve_left P2;exact ih (((I.turn b hRb e).2.q x).1 h3 a he ha.all (hok a ha.all))
  exact key b hre h
 intro h;exact I.good.inv.dom C (hok b hb) h
end
theorem CE{p:Nat->Bool}{n:Nat}:tq p n=PC↔∀i,i<n->p i=true:=by
 unfold tq;induction n with
 | zero=>simp[up]
 | succ n ih=>
  rw[up,BT,Lt,ih];constructor
  ·rintro⟨h1,h2⟩ i hi;rcases Lr i n with h | h
   ·exact h1 i h
   obtain rfl:i=n:=by omega
   exact h2
  intro h;exact⟨λi hi=>h i P2,h n P2⟩
section
variable {g:Gr} {f:Nat->Nat} {l:List Int}
theorem oh.none(I:oh g f l){b:Nat}(hb:b<g.length)(h:¬Rg g b\/b=0):nth l b=-1:=by
 rcases I.good.rng b hb with h1 | h1
 ·exact h1
 exfalso;have:=I.good.inv.pr b ⟨by rw[I.good.len];exact hb,h1.1⟩;rcases h with h | h
 ·exact h this.1
 exact this.2.1 h
theorem C5{a:Int}(ha:0<=a): ∀k,n8 l a k (-1)=PD
 | 0=>rfl
 | k+1=>by rw[n8,if_neg P2,if_pos (.inl P2)]
theorem uq (I:oh g f l) (C:Ch (Rg g) (rk g) (Eg g) f (Dm g)) {a:Nat} : ∀(k b:Nat),Rg g b->rk g b<k->(n8 l a k b=PC↔Anc (st l) a b)
 | 0,b,_,h=>by omega
 | k+1,b,hb,h=>by
  have hlt:=hb.lt;have hll:=I.good.len;rw[n8];by_cases e:(b:Int)=a
  ·rw[if_pos e];have:a=b:=by omega
   subst this;exact⟨λ_=>.self,λ_=>rfl⟩
  rw[if_neg e,if_neg P2,LN];by_cases h0:b=0
  ·subst h0;rw[I.none hlt (.inr rfl),C5 P2,rI];constructor
   ·intro h;cases h
   intro h;omega
  obtain⟨hp,_⟩:=I.turn b hb h0;obtain⟨h1,h2,h3,h4⟩:=I.good.inv.pr b hp;have e2:nth l b=((st l b:Nat):Int):=(LK hp.2).symm;rw[e2,uq I C k (st l b) (I.good.inv.okR C h3) P2,nz h0];exact⟨.inr,λh=>h.resolve_left P2⟩
theorem qS(I:oh g f l)(C:Ch (Rg g) (rk g) (Eg g) f (Dm g)){a b:Nat}(ha:a<g.length)(hb:Rg g b):dJ l a b=domC g a b:=by have hlt:=hb.lt;have hll:=I.good.len;rw[dJ,decide_eq_true P2,NC,LV,uq I C _ _ hb (by have:=Hx hb;omega),I.anc C hb];rfl
end
section
open Go Go.Lft
theorem F5{l:List Int}{x:Int}{v:Value}{h:Heap}(hl:SlRd (vw h) v l):az PE 73 #[v,Pv Pw x] h (λu h'=>(∃r:Int,u = Pv Pw r/\(0<=r↔x∈l))/\h'=h):=by
 refine au (args:=[v,Pv Pw x]) follows Tryz.func73 E.slices_Index_int Pp λK hK=>?_;have bl:=hl.bound;simp[L.slices_Index_int,hl.len];refine aO [0,1,7,8] (fun(_:Unit) i=>[v,Pv Pw x,Pv Pw l.length,Pv Pw i]) (λ_ i h1=>h1=h/\∀j,j<i->nth l j≠x) l.length ()
  rfl P2 rfl ⟨rfl,λj hj=>by omega⟩ (λ_ _=>rfl) (λv i h1 hk m=>by simp) ?_ ?_
 ·rintro _ i h hlt ⟨rfl,hpre⟩ K2 hK2;simp(disch:=omega)[hl.idx1 rfl,hl.int Ps];refine⟨λe=>hK _ _ ⟨⟨i,rfl,by simp;rw[e];exact bC hlt⟩,rfl⟩,λe=>hK2 () _ _ rfl rfl ⟨rfl,λj hj=>?_⟩⟩;rcases Lr j i with h | h
  ·exact hpre j h
  have:j=i:=by omega
  subst this;exact λe2=>e e2.symm
 rintro _ h ⟨rfl,hpre⟩;simp;refine hK _ _ ⟨⟨-1,rfl,by simp;intro hm;obtain⟨j,hj,e⟩:=LO hm;exact hpre j hj (by rw[aA hj];exact e)⟩,rfl⟩
theorem tz{l:List Int}{x:Int}{v:Value}{h:Heap}(hl:SlRd (vw h) v l):az PE 47 #[v,Pv Pw x] h (λu h'=>u = .bool (l.contains x)/\h'=h):=by refine au (args:=[v,Pv Pw x]) follows Tryz.func47 E.slices_Contains_int Pp λK hK=>?_;simp[L.slices_Contains_int];refine af P1 (F5 hl) ?_;rintro _ _ ⟨⟨r,rfl,hr⟩,rfl⟩;simp;exact hK _ _ ⟨by simp[<-hr],rfl⟩
def ofG (l:List BlkD):Gr:=rows (λi=>kK (nth l i).term.to l.length) l.length
theorem Bt{l:List BlkD}{v:Value}{p:Int}{h:Heap}(hv:SlRd (vw h) v l)(hl:l.length<=1000000)(hs : ∀i,i<l.length->(nth l i).term.to.length<=1000000):
  az PE 118 #[.agg #[Pv Pw p,v]] h (λu h'=>(vw h).le (vw h')/\SlRd (fresh h h') u (ofG l)):=by
 refine au (args:=[.agg #[Pv Pw p,v]]) follows Tryz.func118 E.fS Pp λK hK=>?_;obtain⟨hvc,hvo⟩:=hv.cells;simp[L.fS];refine dm (v:=.agg #[Pv Pw p,v]) Sa ?_;have hle1:=bQ h (.cells (Value.agg #[Pv Pw p,v]).cells T.dR);have hc1:ak (vw (h.push (.cells (Value.agg #[Pv Pw p,v]).cells T.dR))) ⟨h.size,1,Pz⟩=Py v:=cJ (c:=#[Pv Pw p,v]) (T:=T.dR) (fz:=(0,0)) (by simp[vw,Value.cells]) rfl;generalize h.push (.cells (Value.agg #[Pv Pw p,v]).cells T.dR)=h1 at hle1 hc1;have hv1:=hv.mono hle1;simp[hc1,hv1.len];refine Mine.made (α:=List Int) (V:=nothing) (W:=nothing) (h0:=h1) (n:=l.length) (d:=[]) El.jw Ps (λ_ _ h=>by cases h) (Old.nothing _ _) (by simp<;>rfl) (by simp<;>rfl) E8 P2 P2 λo h2 m hle2 _=>?_;have hc2:=ae hle2 hc1;have hv2:=hv1.mono hle2;simp[hc2,hv2.len];refine aO [1,3,11,12,13] (fun(_:View) k=>[PB (Py ⟨h.size,0,Pz⟩),o,v,Pv Pw l.length,Pv Pw k]) (λW k h3=>Mine nothing h1 h3 W T.aR o (rows (λi=>kK (nth l i).term.to l.length) k++List.replicate (l.length-k) [])) l.length nothing
  rfl P2 rfl m (λ_ _=>rfl) (λv k h1 hk m=>by simp) ?_ ?_
 ·rintro W a h3 hlta m K2 hK2;have hle3:=m.old;have hc3:=ae hle3 hc1;have hv3:=hv1.mono hle3;obtain⟨u,hu1,hu2⟩:=hv3.wh rfl (N:=6) rfl hlta;have hal:=hs a hlta;have hl5:(rows (λi=>kK (nth l i).term.to l.length) a++List.replicate (l.length-a) ([]:List Int)).length=l.length:=by simp;omega
  refine ab λz hz=>?_;simp(disch:=omega)[hv3.idxn (N:=6) rfl,hu1 _ Ps];refine dz (z:=.agg #[PA Pz 0 0,PA Pz 0 0,Pv Pw 0,PA Pz 0 0,PA Pz 0 0,Pv Px 0]) P1 rfl P1 hu2 P5 P5 λh4 hle4 hsz4 hat=>?_;obtain⟨vp,vi,va,vt,bp,bi,bk,ba,bt⟩:=jW (hat (vw h4) hle4 rfl);have hc4:=ae hle4 hc3;have hv4:=hv3.mono hle4;subst hz;simp[bt.1,hc4,hv4.len];refine af P1 (B0 bt.2 P2) ?_;rintro r h5 ⟨W',mr⟩;have m5:=(m.ext' hle4).ext mr.old;have hr:=mr.fresh.mono (iU W _ _);simp(disch:=omega)[m5.now.idx1 rfl];refine m5.put1 (α:=List Int) (i:=a) P1 rfl Sa (by simp<;>rfl) P2 (dN.2 hr) λh6 m6=>hK2 (grow W h4 h5) _ _ rfl rfl ?_;rw[vH (x:=λi=>kK (nth l i).term.to l.length) hlta]at m6;exact m6
 rintro W h3 m;simp at m;simp;exact hK _ _ ⟨Pt hle1 m.old,m.fresh.mono (wj hle1)⟩
def kR (w:Int × Int) (idom:List Int) (blk at_:Int):Bool:=(decide (w.1=blk)&&(decide (w.2<at_)||decide (w.2<0)))||(!decide (w.1=blk)&&dJ idom w.1 blk)
def useS (ps:Int) (m:MW) (idom:List Int) (v blk place at_ told:Int):Except Tr Unit:=
 if 0<=v/\v<ps then .ok () else match m v with
  | none=>.error (13,told,place)
  | some w=>if kR w idom blk at_ then .ok () else .error (13,told,place)
theorem Bx{Kb r:Nat}{vb vd:Value}{f:aj}{m:MW}{idom:List Int}{h:Heap}{p5 p6:Addr}{v blk place at_ told:Int}(k:Lk h Kb r vb f m)(h5:ak (vw h) p5=Py (PB (Py ⟨Kb,0,Pz⟩)))(h6:ak (vw h) p6=Py vd)(hd:SlRd (vw h) vd idom):
  gP PE 122 #[Pv Pw v,Pv Pw blk,Pv Pw place,Pv Pw at_,Pv Pw told,PB (Py p5),PB (Py p6)] h (λ_ h'=>useS f.params m idom v blk place at_ told = .ok ()/\(vw h).le (vw h'))
   (λch h'=>∃t,useS f.params m idom v blk place at_ told = .error t/\ch=trV t/\(vw h).le (vw h')):=by
 refine gH (args:=[Pv Pw v,Pv Pw blk,Pv Pw place,Pv Pw at_,Pv Pw told,PB (Py p5),PB (Py p6)]) follows Tryz.func122 E.fj Pp λK Kp hK hKp=>?_;dsimp only[L.fj,lkF,lkG];by_cases hp:0<=v/\v<f.params
 ·simp[h5,ae cB k.c0,hp];exact hK _ _ ⟨by simp[useS,hp],View.le_refl _⟩
 have hu:useS f.params m idom v blk place at_ told=match m v with
   | none=>.error (13,told,place)
   | some w=>if kR w idom blk at_ then .ok () else .error (13,told,place):=by rw[useS,if_neg hp]
 rw[hu]at hK hKp;refine ab λz hz=>?_;have hc:(decide (0<=v)&&decide (v<f.params))=false:=by rw[NF];intro e;exact hp (by simpa using e)
 simp[h5,ae cB k.c0,hc];subst hz;refine ab λz hz=>?_;simp[h5,ae cB k.c2];refine ld (z:=.agg #[Pv Pw 0,Pv Pw 0]) U.eK U.int P1 (by simp<;>rfl) (by simp<;>rfl) eC k.map ?_;have cellsW:((mapE encW m (Pv Pw v))).getD (.agg #[Pv Pw 0,Pv Pw 0])=encW ((m v).getD (0,0)):=by rw[oN];cases m v<;>rfl
 have isW:(mapE encW m (Pv Pw v)).isSome=(m v).isSome:=by rw[oN];cases m v<;>rfl
 rw[cellsW,isW];simp;refine gk (n:=2) (v:=encW ((m v).getD (0,0))) (z:=.agg #[Pv Pw 0,Pv Pw 0]) P1 rfl P1 rfl (by simp[encW,Value.oneCell']) P5 P5 λh3 hle3 hsz3 hb3=>?_;have d0:ak (vw h3) ⟨h.size,0,Pz⟩=Py (Pv Pw ((m v).getD (0,0)).1):=cJ (show vw h3 h.size=_ from hb3) rfl;have d1:ak (vw h3) ⟨h.size,1,Pz⟩=Py (Pv Pw ((m v).getD (0,0)).2):=cJ (show vw h3 h.size=_ from hb3) rfl;have h63:=ae hle3 h6;have hd3:=hd.mono hle3;generalize h.size=B at d0 d1;subst hz;have fin : ∀(ok:Bool) (h4:Heap) (ρ:Env) (z:LC),(vw h).le (vw h4)->(∀w,m v=Py w->ok=kR w idom blk at_)->(m v=Pz->ok=PD)->z = .reg PD (.loud [65,66,67] [] [(65,.tmp 13),(66,.tmp 4),(67,.tmp 2)] Pz [] PD (.call ⟨.value (.func 68),#[.tmp 65,.const (Pv Pw 13),.tmp 66,.tmp 67],#[T.bool,T.mO,T.int,T.int]⟩) 0 (Py 68) PD (.fin [] [] []))->
   Lft.look ρ 13=Py (.bool ok)->Lft.look ρ 4=Py (Pv Pw told)->Lft.look ρ 2=Py (Pv Pw place)->@LC.wp (ppOf Kp) PE z (@dB [] K) ρ h4:=by
  rintro ok h4 ρ _ hle4 hs hn rfl e13 e4 e2;simp[e13,e4,e2];refine du P1 gm ?_ ?_
  ·rintro _ _ ⟨e,rfl⟩;refine hK _ _ ⟨?_,hle4⟩;cases hm:m v with
   | none=>rw[hn hm]at e;cases e
   | some w=>simp only;rw[if_pos (by rw[<-hs w hm];exact e)]
  rintro _ _ ⟨e,rfl,rfl⟩;refine⟨.inl rfl,hKp _ _ ⟨_,?_,rfl,hle4⟩⟩;cases hm:m v with
  | none=>rfl
  | some w=>simp only;rw[if_neg (by rw[<-hs w hm,e];simp)]
 refine ab λz hz=>?_;cases hm:m v with
 | none=>rw[hm]at d0 d1;simp[d0,d1];refine fin PD _ _ _ hle3 (λw hw=>by rw[hm]at hw;cases hw) (λ_=>rfl) hz ?_ ?_ ?_<;>simp
 | some w=>
  rw[hm]at d0 d1;simp at d0 d1;by_cases c1:w.1=blk
  ·by_cases c2:w.2<at_
   ·simp[d0,d1,c1,c2];refine fin PC _ _ _ hle3 (λw' hw=>by rw[hm]at hw;cases hw;simp[kR,c1,c2]) (λe=>by simp[hm]at e) hz ?_ ?_ ?_<;>simp
   by_cases c3:w.2<0
   ·simp[d0,d1,c1,c2,c3];refine fin PC _ _ _ hle3 (λw' hw=>by rw[hm]at hw;cases hw;simp[kR,c1,c2,c3]) (λe=>by simp[hm]at e) hz ?_ ?_ ?_<;>simp
   simp[d0,d1,c1,c2,c3];refine fin PD _ _ _ hle3 (λw' hw=>by rw[hm]at hw;cases hw;simp[kR,c1,c2,c3]) (λe=>by simp[hm]at e) hz ?_ ?_ ?_<;>simp
  simp[d0,d1,c1,h63];refine af P1 (yG hd3) ?_;rintro _ h4 ⟨rfl,hle4⟩;refine fin _ _ _ _ (Pt hle3 hle4) (λw' hw=>by rw[hm]at hw;cases hw;simp[kR,c1];rfl) (λe=>by simp[hm]at e) hz ?_ ?_ ?_<;>simp
end
section
open Go Go.Lft
def kr (x:PhiD) (row:List Int) (b:Nat):Bool:=decide (0<b)&&decide ((x.ins.length:Int)=(row.length:Int))
def xo (x:PhiD) (row:List Int) (j:Nat):Bool:=decide ((nth x.ins j).frm=nth row j)
def zY (x:PhiD) (row:List Int) (b:Nat):Bool:=kr x row b&&tq (xo x row) x.ins.length
def uAll (g:Nat->Except Tr Unit) (n:Nat):Except Tr Unit:=upE (λi _=>g i) n ()
def phiU (f:aj) (m:MW) (idom:List Int) (preds:Gr) (b i:Nat):Except Tr Unit:=
 let x:=nth (nth f.blocks b).phis i
 if zY x (nth preds b) b then uAll (λj=>useS f.params m idom (nth x.ins j).val (nth x.ins j).frm (-1-i) (nth f.blocks (nth x.ins j).frm.toNat).ins.length b) x.ins.length else .error (16,b,-1-i)
def insU (f:aj) (m:MW) (idom:List Int) (b i:Nat):Except Tr Unit:=
 uAll (λj=>useS f.params m idom (nth (nth (nth f.blocks b).ins i).args j) b i i b) (nth (nth f.blocks b).ins i).args.length
def endU (f:aj) (m:MW) (idom:List Int) (b:Nat):Except Tr Unit:=
 uAll (λj=>useS f.params m idom (nth (nth f.blocks b).term.args j) b (nth f.blocks b).ins.length (nth f.blocks b).ins.length b) (nth f.blocks b).term.args.length
def andE (x y:Except Tr Unit):Except Tr Unit:=match x with | .ok _=>y | .error t=>.error t
def blkU (f:aj) (m:MW) (idom:List Int) (preds:Gr) (b:Nat):Except Tr Unit:=
 andE (uAll (phiU f m idom preds b) (nth f.blocks b).phis.length) (andE (uAll (insU f m idom b) (nth f.blocks b).ins.length) (endU f m idom b))
def sR (f:aj) (b:Nat):Except Tr Unit:=if decide ((b:Int)∈bf (ofG f.blocks)) then .ok () else .error (15,b,0)
def qJ (f:aj) (m:MW) (idom:List Int):Except Tr Unit:=
 andE (uAll (sR f) f.blocks.length) (uAll (blkU f m idom (dd (ofG f.blocks))) f.blocks.length)
theorem nv{g:Nat->Except Tr Unit}{n k:Nat}{t:Tr}(h:uAll g k = .ok ())(hk:k<n)(he:g k = .error t):uAll g n = .error t:=xU h hk he
theorem jN{g:Nat->Except Tr Unit}{k:Nat}(h:uAll g k = .ok ()):uAll g (k+1)=g k:=mT h
theorem Fa{H:View}{B:Nat}{u v:Value}(h0:ak H ⟨B,0,Pz⟩=Py u)(h1:ak H ⟨B,1,Pz⟩=Py v):Un.ev H (.bU 2) (PB (Py ⟨B,0,Pz⟩))=Py (.agg #[u,v]):=by simp[Un.ev,vP,dr,h0,h1]
theorem I1{l:List BlkD}(hl:l.length<=1000000)(hs : ∀i,i<l.length->(nth l i).term.to.length<=1000000):Sm (ofG l):=by
 have hlen:(ofG l).length=l.length:=by simp[ofG]
 refine⟨by omega,λi hi=>?_⟩;rw[hlen]at hi;rw[ofG,ft hi];exact LG xO (hs i hi)
theorem Gt{Kb r:Nat}{vb:Value}{f:aj}{m:MW}{idom:List Int}{fuel:Nat}{h:Heap}(k:Lk h Kb r vb f m)(hn:f.blocks.length<=1000000)(hto : ∀i,i<f.blocks.length->(nth f.blocks i).term.to.length<=1000000)(hd:xc (ofG f.blocks) fuel=Py idom):
  gP PE 71 #[PB (Py ⟨Kb,0,Pz⟩)] h (λ_ h'=>qJ f m idom = .ok ()/\(vw h).le (vw h')) (λch h'=>∃t,qJ f m idom = .error t/\ch=trV t/\(vw h).le (vw h')):=by
 refine gH (args:=[PB (Py ⟨Kb,0,Pz⟩)]) follows Tryz.func71 E.aw Pp λK Kp hK hKp=>?_;have hbb:=k.rb.bound;have hsm:=I1 hn hto;have hgl:(ofG f.blocks).length=f.blocks.length:=by simp[ofG]
 dsimp only[L.aw,lkF,lkG];refine ab λz hz=>?_;simp;refine dm (v:=PB (Py ⟨Kb,0,Pz⟩)) Sa ?_;have hle1:=bQ h (.cells (Value.cells (PB (Py ⟨Kb,0,Pz⟩))) T.lk);have h51:ak (vw (h.push (.cells (Value.cells (PB (Py ⟨Kb,0,Pz⟩))) T.lk))) ⟨h.size,0,Pz⟩=Py (PB (Py ⟨Kb,0,Pz⟩)):=by simp[ak,vw]
 generalize h.push (.cells (Value.cells (PB (Py ⟨Kb,0,Pz⟩))) T.lk)=h1 at hle1 h51;generalize h.size=B at h51;have k1:=k.ext hle1;subst hz;refine ab λz hz=>?_;simp[h51,Fa (ae cB k1.c0) (ae cB k1.c1)];refine af P1 (Bt (k1.rb.mono cB) hn hto) ?_;rintro vg h2 ⟨hle2,hg⟩;have hg2:=hg.mono (kg _ _);subst hz;refine ab λz hz=>?_;simp;refine af P1 (Af hg2 hsm) ?_;rintro vo h3 ⟨hle3,ho⟩;have ho3:=ho.mono (kg _ _);have hg3:=hg2.mono hle3;have hle13:=Pt hle2 hle3;have k3:=k1.ext hle13;have h53:=ae hle13 h51;have hle03:=Pt hle1 hle13;subst hz;refine ab λz hz=>?_;simp[h53,ae cB k3.c1,k3.rb.len];refine aO [0,1,2,3,35,36] (fun(_:Unit) b=>[PB (Py ⟨Kb,0,Pz⟩),PB (Py ⟨B,0,Pz⟩),vg,vo,Pv Pw f.blocks.length,Pv Pw b]) (λ_ b h4=>h4=h3/\uAll (sR f) b = .ok ()) f.blocks.length ()
  rfl P2 rfl ⟨rfl,rfl⟩ (λ_ _=>rfl) (λv i h1 hk m=>by simp) ?_ ?_
 ·rintro _ b h3 hlt ⟨rfl,hpre⟩ K2 hK2;simp;refine af P1 (tz ho3) ?_;rintro _ _ ⟨rfl,rfl⟩;simp;refine du P1 gm ?_ ?_
  ·rintro _ _ ⟨e,rfl⟩;exact hK2 () _ _ rfl rfl ⟨rfl,by rw[jN hpre,sR,if_pos e]⟩
  rintro _ _ ⟨e,rfl,rfl⟩;exact⟨.inl rfl,hKp _ _ ⟨_,by rw[qJ,nv hpre hlt (by rw[sR,if_neg (by rw[e];simp)])];rfl,rfl,hle03⟩⟩
 rintro _ h3 ⟨rfl,hreach⟩;have hus:qJ f m idom=uAll (blkU f m idom (dd (ofG f.blocks))) f.blocks.length:=by rw[qJ,hreach];rfl
 rw[hus]at hK hKp;simp;subst hz;refine ab λz hz=>?_;simp;refine af P1 (zl hg3 hsm) ?_;rintro vp h4 ⟨hle4,hp⟩;have hp4:=hp.mono (kg _ _);refine af P1 (GF (hg3.mono hle4) hsm hd) ?_;rintro vi h5 ⟨W,mi⟩;have hi5:=mi.now;refine dz (α:=List Int) (z:=PA Pz 0 0) (X:=vw h5) P1 rfl P1 (dN.2 hi5) P5 P5 λh6 hle6 hsz6 hat=>?_;obtain⟨vd,hvd,hd6⟩:=(hat (vw h6) hle6 rfl).sl;generalize h5.size=C at hvd;subst hz;have hle36:=Pt hle4 (Pt mi.old hle6);have hp6:=hp4.mono (Pt mi.old hle6);have k6:=k3.ext hle36;have h56:=ae hle36 h53;have hle06:=Pt hle03 hle36;have hpl:(dd (ofG f.blocks)).length=f.blocks.length:=by rw[nU,hgl]
 have hin : ∀b,∀x∈nth (dd (ofG f.blocks)) b,0<=x/\x<f.blocks.length:=by
  rw[<-hgl];exact rM (λe he=>(oR he).1) (λi x hx=>by
   rcases Lr i (ofG f.blocks).length with hi | hi
   ·rw[aC hi]at hx;cases hx
   rw[cL (by simpa using hi)]at hx;cases hx)
 generalize dd (ofG f.blocks)=preds at hp6 hpl hin hK hKp;obtain⟨pv,hpv⟩:=hp6.rows;simp[h56,ae cB k6.c1,k6.rb.len];refine aO [1,5,7,54,55,56] (fun(_:Unit) b=>[PB (Py ⟨B,0,Pz⟩),vp,.func (.func 122) #[] #[PB (Py ⟨B,0,Pz⟩),PB (Py ⟨C,0,Pz⟩)],vb,Pv Pw f.blocks.length,Pv Pw b]) (λ_ b h7=>(vw h6).le (vw h7)/\uAll (blkU f m idom preds) b = .ok ()) f.blocks.length ()
  rfl P2 rfl ⟨View.le_refl _,rfl⟩ (λ_ _=>rfl) (λv i h1 hk m=>by simp) ?_ ?_
 ·rintro _ b h7 hltb ⟨hle7,hpre⟩ K2 hK2;have k7:=k6.ext hle7;have rb7:=k7.rb.mono cB;obtain⟨u,hu,hur⟩:=rb7.wh rfl (N:=6) rfl hltb;obtain⟨pc,pr⟩:=hpv b P2;have hst:=jN hpre;have her : ∀{t},blkU f m idom preds b = .error t->uAll (blkU f m idom preds) f.blocks.length = .error t:=λe=>nv hpre hltb e;refine ab λz hz=>?_;simp(disch:=omega)[rb7.idxn (N:=6) rfl,hu _ Ps];refine dz (z:=.agg #[PA Pz 0 0,PA Pz 0 0,Pv Pw 0,PA Pz 0 0,PA Pz 0 0,Pv Px 0]) P1 rfl P1 hur P5 P5 λh8 hle8 hsz8 hat=>?_;obtain⟨wp,wi,wa,wt,bp,bi,bk,ba,bt⟩:=jW (hat (vw h8) hle8 rfl);generalize h7.size=D at bp bi bk ba bt;subst hz;have hle68:=Pt hle7 hle8;have bph:=bp.2.bound;have bin:=bi.2.bound;have bar:=ba.2.bound;refine ab λz hz=>?_;simp[bp.1,bp.2.len];refine aO [1,5,7,8,9,54,55,56,62,63,64] (fun(_:Unit) i=>[PB (Py ⟨B,0,Pz⟩),vp,.func (.func 122) #[] #[PB (Py ⟨B,0,Pz⟩),PB (Py ⟨C,0,Pz⟩)],Pv Pw b,PB (Py ⟨D,0,Pz⟩),vb,Pv Pw f.blocks.length,Pv Pw b,wp,Pv Pw (nth f.blocks b).phis.length,Pv Pw i])
   (λ_ i h9=>(vw h8).le (vw h9)/\uAll (phiU f m idom preds b) i = .ok ()) (nth f.blocks b).phis.length ()
   rfl P2 rfl ⟨View.le_refl _,rfl⟩ (λ_ _=>rfl) (λv i h1 hk m=>by simp) ?_ ?_
  ·rintro _ i h9 hlti ⟨hle9,hpre9⟩ K3 hK3;have hst9:=jN hpre9;have her9 : ∀{t},phiU f m idom preds b i = .error t->blkU f m idom preds b = .error t:=λe=>by rw[blkU,nv hpre9 hlti e];rfl
   have bp9:=bp.2.mono hle9;obtain⟨u9,hu9,hur9⟩:=bp9.wh rfl (N:=2) rfl hlti;refine ab λy hy=>?_;simp(disch:=omega)[bp9.idxn (N:=2) rfl,hu9 _ Ps];refine dz (z:=.agg #[Pv Pw 0,PA Pz 0 0]) P1 rfl P1 hur9 P5 P5 λh10 hle10 hsz10 hat10=>?_;obtain⟨_,wq,cq⟩:=xV (hat10 (vw h10) hle10 rfl);simp only[phiU]at hst9 her9;generalize nth (nth f.blocks b).phis i=x at cq hst9 her9;generalize h9.size=D10 at cq;have bq:=cq.2.bound;subst hy;refine ab λy hy=>?_;have hle610:=Pt hle68 (Pt hle9 hle10);have hp10:=hp6.mono hle610;have pr10:=pr.mono hle610;have hbase:(decide (0<b)&&decide ((x.ins.length:Int)=((nth preds b).length:Int)))=kr x (nth preds b) b:=rfl;simp(disch:=omega)[cq.1,cq.2.len,hp10.idx1 rfl,pc _ hle610,pr10.len];rw[hbase];subst hy;refine ab λy hy=>?_;simp[cq.1,cq.2.len];refine aO [1,5,7,8,9,10,11,12,54,55,56,62,63,64,83,84,85] (fun(_:Unit) j=>[PB (Py ⟨B,0,Pz⟩),vp,.func (.func 122) #[] #[PB (Py ⟨B,0,Pz⟩),PB (Py ⟨C,0,Pz⟩)],Pv Pw b,PB (Py ⟨D,0,Pz⟩),Pv Pw i,PB (Py ⟨D10,0,Pz⟩),
     .bool (kr x (nth preds b) b&&tq (xo x (nth preds b)) j),vb,Pv Pw f.blocks.length,Pv Pw b,wp,Pv Pw (nth f.blocks b).phis.length,Pv Pw i,wq,Pv Pw x.ins.length,Pv Pw j])
    (λ_ j h11=>(vw h10).le (vw h11)) x.ins.length ()
    rfl P2 (by simp[bK];intro _;rfl) Ps (λ_ _=>rfl) (λv i h1 hk m=>by simp) ?_ ?_
   ·rintro _ j h11 hltj hle11 K4 hK4;have cq11:=cq.2.mono hle11;obtain⟨u11,hu11,hur11⟩:=cq11.wh rfl (N:=2) rfl hltj;refine ab λq hq=>?_;simp(disch:=omega)[cq11.idxn (N:=2) rfl,hu11 _ Ps];refine dz (z:=.agg #[Pv Pw 0,Pv Pw 0]) P1 rfl P1 hur11 P5 P5 λh12 hle12 hsz12 hat12=>?_;obtain⟨e0,e1⟩:=Bo (hat12 (vw h12) hle12 rfl);generalize h11.size=D12 at e0 e1;subst hq;have hle612:=Pt hle610 (Pt hle11 hle12);have hp12:=hp6.mono hle612;have pr12:=pr.mono hle612;cases hfit:kr x (nth preds b) b&&tq (xo x (nth preds b)) j with
    | false=>simp;refine hK4 () _ _ rfl ?_ (Pt hle11 hle12);rw[wu,<-Bool.and_assoc,hfit];rfl
    | true=>
     have hlen:x.ins.length=(nth preds b).length:=by simp only[Lt,kr,decide_eq_true_eq]at hfit;omega
     simp(disch:=omega)[e0,hp12.idx1 rfl,pc _ hle612,pr12.idx1 rfl,pr12.int Ps];refine hK4 () _ _ rfl ?_ (Pt hle11 hle12);rw[wu,<-Bool.and_assoc,hfit];rfl
   rintro _ h11 hle11;have hfs:(kr x (nth preds b) b&&tq (xo x (nth preds b)) x.ins.length)=zY x (nth preds b) b:=rfl;rw[hfs];simp;subst hy;refine ab λy hy=>?_;simp(disch:=omega);have hle011:=Pt hle06 (Pt hle610 hle11);refine du P1 gm ?_ ?_;rotate_left
   ·rintro _ _ ⟨e,rfl,rfl⟩;exact⟨.inl rfl,hKp _ _ ⟨_,her (her9 (by rw[if_neg (by rw[e];simp)])),rfl,hle011⟩⟩
   rintro _ h11 ⟨efit,rfl⟩;rw[if_pos efit]at hst9;have her9' : ∀{t},uAll (λj=>useS f.params m idom (nth x.ins j).val (nth x.ins j).frm (-1-i) (nth f.blocks (nth x.ins j).frm.toNat).ins.length b) x.ins.length = .error t->blkU f m idom preds b = .error t:=λe=>her9 (by rw[if_pos efit];exact e);have hlen:x.ins.length=(nth preds b).length:=by simp only[Lt,zY,kr,decide_eq_true_eq]at efit;omega
   have hfrm : ∀j,j<x.ins.length->0<=(nth x.ins j).frm/\(nth x.ins j).frm<f.blocks.length:=λj hj=>by have h1:=CE.1 (Lt _ _▸efit:_/\_).2 j hj;simp only[xo,decide_eq_true_eq]at h1;rw[h1];exact hin b _ (bC P2)
   subst hy;have cq11:=cq.2.mono hle11;simp[ae hle11 cq.1,cq11.len];refine aO [1,5,7,8,9,10,11,54,55,56,62,63,64,110,111,112] (fun(_:Unit) j=>[PB (Py ⟨B,0,Pz⟩),vp,.func (.func 122) #[] #[PB (Py ⟨B,0,Pz⟩),PB (Py ⟨C,0,Pz⟩)],Pv Pw b,PB (Py ⟨D,0,Pz⟩),Pv Pw i,PB (Py ⟨D10,0,Pz⟩),
     vb,Pv Pw f.blocks.length,Pv Pw b,wp,Pv Pw (nth f.blocks b).phis.length,Pv Pw i,wq,Pv Pw x.ins.length,Pv Pw j])
    (λ_ j h12=>(vw h11).le (vw h12)/\uAll (λj=>useS f.params m idom (nth x.ins j).val (nth x.ins j).frm (-1-i) (nth f.blocks (nth x.ins j).frm.toNat).ins.length b) j = .ok ()) x.ins.length ()
    rfl P2 rfl ⟨View.le_refl _,rfl⟩ (λ_ _=>rfl) (λv i h1 hk m=>by simp) ?_ ?_
   ·rintro _ j h12 hltj ⟨hle12,hpre12⟩ K4 hK4;have hst12:=jN hpre12;have cq12:=cq11.mono hle12;obtain⟨u12,hu12,hur12⟩:=cq12.wh rfl (N:=2) rfl hltj;refine ab λq hq=>?_;simp(disch:=omega)[cq12.idxn (N:=2) rfl,hu12 _ Ps];refine dz (z:=.agg #[Pv Pw 0,Pv Pw 0]) P1 rfl P1 hur12 P5 P5 λh13 hle13 hsz13 hat13=>?_;obtain⟨e0,e1⟩:=Bo (hat13 (vw h13) hle13 rfl);generalize h12.size=D13 at e0 e1;have hf:=hfrm j hltj;generalize hxj:nth x.ins j=w at e0 e1 hst12 hf;subst hq;have hle613:=Pt hle610 (Pt hle11 (Pt hle12 hle13));have k13:=k6.ext hle613;have rb13:=k13.rb.mono cB;have h513:=ae hle613 h56;obtain⟨ul,hul⟩:=(((rb13.at (i:=w.frm.toNat) P2).part BlkD.mw)).sl;rw[<-aA P2]at hul;have hul1:ak (vw h13) (((slA vb).add (w.frm.toNat*6)).add 1)=Py ul:=hul.1;refine aT (vw h13) Ps ?_;simp(disch:=omega)[e0,e1,h513,ae cB k13.c1,rb13.idxn (N:=6) rfl,hul1,hul.2.len];refine rZ (ops:=[.tmp 118,.tmp 120,.tmp 122,.tmp 133,.tmp 134]) rfl P1 (Bx k13 h513 (ae hle613 hvd) (hd6.mono hle613)) ?_ ?_
    ·rintro _ h14 ⟨e,hle14⟩;exact hK4 () _ _ rfl rfl ⟨Pt hle12 (Pt hle13 hle14),by rw[hst12];exact e⟩
    rintro _ h14 ⟨t,e,rfl,hle14⟩;exact⟨.inr λ_=>trivial,hKp _ _ ⟨t,her (her9' (nv hpre12 hltj (by rw[hxj];exact e))),rfl,Pt hle06 (Pt hle613 hle14)⟩⟩
   rintro _ h12 ⟨hle12,hpre12⟩;simp;exact hK3 () _ _ rfl rfl ⟨Pt hle9 (Pt hle10 (Pt hle11 hle12)),by rw[hst9];exact hpre12⟩
  rintro _ h9 ⟨hle9,hpre9⟩;have hbu:blkU f m idom preds b=andE (uAll (insU f m idom b) (nth f.blocks b).ins.length) (endU f m idom b):=by rw[blkU,hpre9];rfl
  rw[hbu]at hst her;simp;subst hz;refine ab λz hz=>?_;have bi9:=bi.2.mono hle9;simp[ae hle9 bi.1,bi9.len];refine aO [1,5,7,8,9,54,55,56,139,140,141] (fun(_:Unit) i=>[PB (Py ⟨B,0,Pz⟩),vp,.func (.func 122) #[] #[PB (Py ⟨B,0,Pz⟩),PB (Py ⟨C,0,Pz⟩)],Pv Pw b,PB (Py ⟨D,0,Pz⟩),vb,Pv Pw f.blocks.length,Pv Pw b,wi,Pv Pw (nth f.blocks b).ins.length,Pv Pw i])
   (λ_ i h10=>(vw h9).le (vw h10)/\uAll (insU f m idom b) i = .ok ()) (nth f.blocks b).ins.length ()
   rfl P2 rfl ⟨View.le_refl _,rfl⟩ (λ_ _=>rfl) (λv i h1 hk m=>by simp) ?_ ?_
  ·rintro _ i h10 hlti ⟨hle10,hpre10⟩ K3 hK3;have hst10:=jN hpre10;have her10 : ∀{t},insU f m idom b i = .error t->uAll (blkU f m idom preds) f.blocks.length = .error t:=λe=>her (by rw[nv hpre10 hlti e];rfl);have bi10:=bi9.mono hle10;obtain⟨u10,hu10,hur10⟩:=bi10.wh rfl (N:=5) rfl hlti;refine ab λy hy=>?_;simp(disch:=omega)[bi10.idxn (N:=5) rfl,hu10 _ Ps];refine dz (z:=.agg #[Pv Pw 0,Pv Pw 0,Pv Pw 0,PA Pz 0 0,Pv Px 0]) P1 rfl P1 hur10 P5 P5 λh11 hle11 hsz11 hat11=>?_;obtain⟨_,_,_,wq,cq⟩:=kP (hat11 (vw h11) hle11 rfl);rw[insU]at hst10 her10;generalize nth (nth f.blocks b).ins i=x at cq hst10 her10;generalize h10.size=D11 at cq;have bq:=cq.2.bound;subst hy;simp[cq.1,cq.2.len];refine aO [1,5,7,8,9,17,54,55,56,139,140,141,147,148,149] (fun(_:Unit) j=>[PB (Py ⟨B,0,Pz⟩),vp,.func (.func 122) #[] #[PB (Py ⟨B,0,Pz⟩),PB (Py ⟨C,0,Pz⟩)],Pv Pw b,PB (Py ⟨D,0,Pz⟩),Pv Pw i,vb,Pv Pw f.blocks.length,Pv Pw b,wi,Pv Pw (nth f.blocks b).ins.length,Pv Pw i,wq,Pv Pw x.args.length,Pv Pw j])
    (λ_ j h12=>(vw h11).le (vw h12)/\uAll (λj=>useS f.params m idom (nth x.args j) b i i b) j = .ok ()) x.args.length ()
    rfl P2 rfl ⟨View.le_refl _,rfl⟩ (λ_ _=>rfl) (λv i h1 hk m=>by simp) ?_ ?_
   ·rintro _ j h12 hltj ⟨hle12,hpre12⟩ K4 hK4;have hst12:=jN hpre12;have cq12:=cq.2.mono hle12;have hle612:=Pt hle68 (Pt hle9 (Pt hle10 (Pt hle11 hle12)));have k12:=k6.ext hle612;have h512:=ae hle612 h56;simp(disch:=omega)[cq12.idx1 rfl,cq12.int Ps];refine rZ (ops:=[.tmp 154,.tmp 155,.tmp 156,.tmp 157,.tmp 158]) rfl P1 (Bx k12 h512 (ae hle612 hvd) (hd6.mono hle612)) ?_ ?_
    ·rintro _ h14 ⟨e,hle14⟩;exact hK4 () _ _ rfl rfl ⟨Pt hle12 hle14,by rw[hst12];exact e⟩
    rintro _ h14 ⟨t,e,rfl,hle14⟩;exact⟨.inl rfl,hKp _ _ ⟨t,her10 (nv hpre12 hltj e),rfl,Pt hle06 (Pt hle612 hle14)⟩⟩
   rintro _ h12 ⟨hle12,hpre12⟩;simp;exact hK3 () _ _ rfl rfl ⟨Pt hle10 (Pt hle11 hle12),by rw[hst10];exact hpre12⟩
  rintro _ h10 ⟨hle10,hpre10⟩;have hbu2:andE (uAll (insU f m idom b) (nth f.blocks b).ins.length) (endU f m idom b)=endU f m idom b:=by rw[hpre10];rfl
  rw[hbu2]at hst her;rw[endU]at hst her;simp;subst hz;have ba10:=ba.2.mono (Pt hle9 hle10);have ca10:=ae (Pt hle9 hle10) ba.1;have bi10:=bi9.mono hle10;have ci10:=ae (Pt hle9 hle10) bi.1;simp[ca10,ba10.len];refine aO [1,5,7,8,9,54,55,56,164,165,166] (fun(_:Unit) j=>[PB (Py ⟨B,0,Pz⟩),vp,.func (.func 122) #[] #[PB (Py ⟨B,0,Pz⟩),PB (Py ⟨C,0,Pz⟩)],Pv Pw b,PB (Py ⟨D,0,Pz⟩),vb,Pv Pw f.blocks.length,Pv Pw b,wa,Pv Pw (nth f.blocks b).term.args.length,Pv Pw j])
   (λ_ j h12=>(vw h10).le (vw h12)/\uAll (λj=>useS f.params m idom (nth (nth f.blocks b).term.args j) b (nth f.blocks b).ins.length (nth f.blocks b).ins.length b) j = .ok ()) (nth f.blocks b).term.args.length ()
   rfl P2 rfl ⟨View.le_refl _,rfl⟩ (λ_ _=>rfl) (λv i h1 hk m=>by simp) ?_ ?_
  ·rintro _ j h12 hltj ⟨hle12,hpre12⟩ K4 hK4;have hst12:=jN hpre12;have ba12:=ba10.mono hle12;have bi12:=bi10.mono hle12;have ci12:=ae hle12 ci10;have hle612:=Pt hle68 (Pt hle9 (Pt hle10 hle12));have k12:=k6.ext hle612;have h512:=ae hle612 h56;simp(disch:=omega)[ba12.idx1 rfl,ba12.int Ps,ci12,bi12.len];refine rZ (ops:=[.tmp 171,.tmp 172,.tmp 175,.tmp 178,.tmp 179]) rfl P1 (Bx k12 h512 (ae hle612 hvd) (hd6.mono hle612)) ?_ ?_
   ·rintro _ h14 ⟨e,hle14⟩;exact hK4 () _ _ rfl rfl ⟨Pt hle12 hle14,by rw[hst12];exact e⟩
   rintro _ h14 ⟨t,e,rfl,hle14⟩;exact⟨.inl rfl,hKp _ _ ⟨t,her (nv hpre12 hltj e),rfl,Pt hle06 (Pt hle612 hle14)⟩⟩
  rintro _ h12 ⟨hle12,hpre12⟩;simp;exact hK2 () _ _ rfl rfl ⟨Pt hle7 (Pt hle8 (Pt hle9 (Pt hle10 hle12))),by rw[hst];exact hpre12⟩
 rintro _ h7 ⟨hle7,hpre⟩;simp;exact hK _ _ ⟨hpre,Pt hle06 hle7⟩
end
section
open Go Go.Lft
def Fx (t:Tr):FrameMode:=.panicking [{ v:=.iface T.fi (.agg #[Pv Pw t.1,Pv Pw t.2.1,Pv Pw t.2.2]),recovered:=true }]
theorem Fe{a b c:Nat}{t:Tr}{h:Heap}{ra rb rc:Array Value}{ea eb ec:TypeId}(ha:h[a]? = Py (.cells ra ea (0,0)))(hb:h[b]? = Py (.cells rb eb (0,0)))(hc:h[c]? = Py (.cells rc ec (0,0)))(sa:ra.size=1)(sb:rb.size=1)(sc:rc.size=1)(hab:a≠b)(hac:a≠c)(hbc:b≠c):qg PE 67 #[PB (Py ⟨a,0,Pz⟩),PB (Py ⟨b,0,Pz⟩),PB (Py ⟨c,0,Pz⟩)] (.panicking (trV t)) h
   (λu' h'=>u'=Fx t/\h'[a]? = Py (.cells #[Pv Pw t.1] ea (0,0))/\h'[b]? = Py (.cells #[Pv Pw t.2.1] eb (0,0))/\h'[c]? = Py (.cells #[Pv Pw t.2.2] ec (0,0))/\h.size<=h'.size/\∀k,k<h.size->k≠a->k≠b->k≠c->h'[k]? = h[k]?):=by
 refine oM (args:=[PB (Py ⟨a,0,Pz⟩),PB (Py ⟨b,0,Pz⟩),PB (Py ⟨c,0,Pz⟩)]) (t:=6) (L:=L.eV.body.tail) (tys:=#[]) follows Tryz.func67 Q.eV P1 P1 P1 Pp E.nZ P1 P1 Pp ?_;have ala:a<h.size:=(Lu.1 ha).1;have alb:b<h.size:=(Lu.1 hb).1;have alc:c<h.size:=(Lu.1 hc).1;have hrec:jv (.panicking (trV t))=(.iface T.fi (.agg #[Pv Pw t.1,Pv Pw t.2.1,Pv Pw t.2.2]),Fx t):=rfl;rw[hrec];simp[L.eV,LC.tail];refine zn (ms:=#[]) P1 rfl (.inr ⟨_,_,rfl,rfl⟩) ?_;simp;refine Dy (d:=(Tryz.prog.underlying T.fi).getD .bool) P1 P1 rfl ?_;simp;refine gk (n:=3) (z:=.agg #[Pv Pw 0,Pv Pw 0,Pv Pw 0]) (v:=.agg #[Pv Pw t.1,Pv Pw t.2.1,Pv Pw t.2.2]) P1 rfl P1 rfl P7 P5 P5 λh1 hle1 hs1 hb1=>?_;generalize hD:h.size=D at hb1 hs1;obtain⟨H,hH⟩ : ∃H:View,H=λk=>if k=D then h1[k]? else none:=⟨_,rfl⟩;have hHle : ∀h2:Heap,h2[D]? = h1[D]?->H.le (vw h2):=λh2 e k o hk=>by
  rw[hH]at hk;simp only at hk;split at hk
  ·rename_i e2;subst e2;show h2[_]? = _;rw[e];exact hk
  cases hk
 have hHD:H D=Py (.cells #[Pv Pw t.1,Pv Pw t.2.1,Pv Pw t.2.2] T.fi (0,0)):=by rw[hH];simp only[if_true];exact hb1
 have d0:ak H ⟨D,0,Pz⟩=Py (Pv Pw t.1):=cJ hHD rfl;have d1:ak H ⟨D,1,Pz⟩=Py (Pv Pw t.2.1):=cJ hHD rfl;have d2:ak H ⟨D,2,Pz⟩=Py (Pv Pw t.2.2):=cJ hHD rfl;refine aT H (hHle h1 rfl) ?_;simp[d0,d1,d2];refine ef (g:=a) (o:=0) (n:=1) (v:=Pv Pw t.1) P1 rfl rfl rfl P7 (hle1 _ _ ha) P2 λh2 hs2 ⟨row2,hr2,he2⟩ ho2=>?_;refine⟨hHle h2 (ho2 D P2),?_⟩;refine ef (g:=b) (o:=0) (n:=1) (v:=Pv Pw t.2.1) P1 rfl rfl rfl P7 ((ho2 b (Ne.symm hab)).trans (hle1 _ _ hb)) P2 λh3 hs3 ⟨row3,hr3,he3⟩ ho3=>?_;refine⟨hHle h3 ((ho3 D P2).trans (ho2 D P2)),?_⟩;refine ef (g:=c) (o:=0) (n:=1) (v:=Pv Pw t.2.2) P1 rfl rfl rfl P7 ((ho3 c (Ne.symm hbc)).trans ((ho2 c (Ne.symm hac)).trans (hle1 _ _ hc))) P2 λh4 hs4 ⟨row4,hr4,he4⟩ ho4=>?_;have one : ∀{row r:Array Value} {v:Value},v.cells = #[v]->r.size=1->row.toList=r.toList.take 0++v.cells.toList++r.toList.drop (0+1)->row = #[v]:=by intro row r v hv hr he;rw[<-Array.toList_inj,he,hv,NI,MB,L2 (by simp[hr])];simp
 rw[one rfl sa he2]at hr2;rw[one rfl sb he3]at hr3;rw[one rfl sc he4]at hr4;refine⟨?_,?_,hr4,by omega,λk hk h1' h2' h3'=>?_⟩
 ·rw[ho4 a hac,ho3 a hab];exact hr2
 ·rw[ho4 b hbc];exact hr3
 rw[ho4 k h3',ho3 k h2',ho2 k h1'];exact(hle1 k h[k] (LI P2)).trans (LI P2).symm
theorem BD{a b c:Nat}{h:Heap}:qg PE 67 #[PB (Py ⟨a,0,Pz⟩),PB (Py ⟨b,0,Pz⟩),PB (Py ⟨c,0,Pz⟩)] .returning h (λu' h'=>u' = .returning/\h'=h):=by refine oM (args:=[PB (Py ⟨a,0,Pz⟩),PB (Py ⟨b,0,Pz⟩),PB (Py ⟨c,0,Pz⟩)]) (t:=6) (L:=L.eV.body.tail) (tys:=#[]) follows Tryz.func67 Q.eV P1 P1 P1 Pp E.nZ P1 P1 Pp ?_;have hrec:jv .returning=(.nilIface,.returning):=rfl;rw[hrec];simp[L.eV,LC.tail];refine zn (ms:=#[]) P1 rfl (.inl ⟨rfl,rfl⟩) ?_;simp
def manyN (f:aj) (k:Nat):Int:=up (λi n=>n+(((nth f.blocks i).phis.length:Int)+(nth f.blocks i).ins.length)) k f.blocks.length
def BS (f:aj):Int:=manyN f f.blocks.length
def pM (g:Gr):List Int:=(xc g (g.length*g.length+1)).getD []
def xa (f:aj):Except Tr MW->Except Tr Unit
 | .error t=>.error t
 | .ok m=>qJ f m (pM (ofG f.blocks))
def lA (f:aj):Except Tr Unit:=
 if bZ f.params 0 4=PD then .error (1,0,0)
 else if f.blocks.length=0 then .error (14,0,0)
 else if ¬(f.blocks.length<=512/\BS f<=4096) then .error (2,0,0)
 else xa f (lj f (λ_=>Pz))
def ku (f:aj):Tr:=match lA f with
 | .ok _=>(0,0,0)
 | .error t=>t
theorem HA{f:aj}{k:Nat}:0<=manyN f k:=by
 unfold manyN;induction k with
 | zero=>simp[up]
 | succ k ih=>rw[up];omega
theorem F3{f:aj}{m m':MW}(h:lj f m = .ok m'): ∀i,i<f.blocks.length->(nth f.blocks i).term.to.length<=65:=by
 intro i hi;have key : ∀n,n<=f.blocks.length->∃s,upE (blkS f) n m = .ok s:=λn hn=>by
  cases e:upE (blkS f) n m with
  | ok s=>exact⟨s,rfl⟩
  | error t=>rw[lj,yr hn e]at h;cases h
 obtain⟨s,hs⟩:=key i P2;obtain⟨s',hs'⟩:=key (i+1) hi;rw[mT hs,blkS]at hs';split at hs'
 ·cases hs'
 split at hs'
 ·cases hs'
 rw[endS]at hs';split at hs'
 ·rename_i hok;rw[n7]at hok;split at hok
  ·rename_i sh hsh;simp only[bZ,Lt,decide_eq_true_eq]at hok;have:sh.2.2.2<=65:=by
    simp only[fk,putM]at hsh;repeat' (split at hsh)
    all_goals first | (cases hsh;done) | (cases hsh;decide)
   omega
  cases hok
 cases hs'
end
section
open Go Go.Lft
theorem FX{g:Gr}(hg:0<g.length):xc g (g.length*g.length+1)=Py (pM g):=by obtain⟨_,_,l,hl,_⟩:=xj hg;rw[pM,hl];rfl
theorem one_cell{row r:Array Value}{v:Value}(hv:v.cells = #[v])(hr:r.size=1)(he:row.toList=r.toList.take 0++v.cells.toList++r.toList.drop (0+1)):row = #[v]:=by rw[<-Array.toList_inj,he,hv,NI,MB,L2 (by simp[hr])];simp
structure SmB (x:BlkD):Prop where
 phis:x.phis.length<=10000
 ins:x.ins.length<=10000
 args:x.term.args.length<=10000
 to:x.term.to.length<=10000
 phi : ∀i,i<x.phis.length->(nth x.phis i).ins.length<=10000
 inn : ∀i,i<x.ins.length->(nth x.ins i).args.length<=10000
structure SmF (f:aj):Prop where
 len:f.blocks.length<=10000
 blk : ∀i,i<f.blocks.length->SmB (nth f.blocks i)
theorem GG{f:aj}{v:Value}{h:Heap}(hv:Rd (vw h) v f)(hsm:SmF f):
  az PE 44 #[v] h (λu h'=>u = .tuple #[Pv Pw (ku f).1,Pv Pw (ku f).2.1,Pv Pw (ku f).2.2]/\(vw h).le (vw h')):=by
 refine pH (args:=[v]) (g:=67) (t:=9) (capops:=#[.tmp 2,.tmp 3,.tmp 4]) (tys:=#[])
  (Mid:=λρ hh=>ρ=[(0,v),(1,PB (Py ⟨h.size,0,Pz⟩)),(2,PB (Py ⟨h.size+1,0,Pz⟩)),(3,PB (Py ⟨h.size+2,0,Pz⟩)),(4,PB (Py ⟨h.size+3,0,Pz⟩))]/\hh.size=h.size+4/\(vw h).le (vw hh)/\At (vw hh) ⟨h.size,0,Pz⟩ f/\
   hh[h.size+1]? = Py (.cells #[Pv Pw 0] T.mO (0,0))/\hh[h.size+2]? = Py (.cells #[Pv Pw 0] T.int (0,0))/\hh[h.size+3]? = Py (.cells #[Pv Pw 0] T.int (0,0)))
  follows Tryz.func44 B.lh P1 P1 P1 P1 P1 P1 Pp P1 E.jV P1 E.fZ P1 R.wH Pp ?_ ?_
 ·simp[L.jV];refine hZ rfl hv λh1 e1 hle1 hs1 hat=>?_;refine dw (z:=Pv Pw 0) P1 ?_;refine dw (z:=Pv Pw 0) P1 ?_;refine dw (z:=Pv Pw 0) P1 ?_;have q1:=bQ h1 (.cells (Pv Pw 0).cells T.mO);generalize e2:h1.push (.cells (Pv Pw 0).cells T.mO)=h2 at q1;have b2:h2[h1.size]? = Py (.cells #[Pv Pw 0] T.mO (0,0)):=by rw[<-e2];simp
  have s2:h2.size=h1.size+1:=by rw[<-e2];simp
  have q2:=bQ h2 (.cells (Pv Pw 0).cells T.int);generalize e3:h2.push (.cells (Pv Pw 0).cells T.int)=h3 at q2;have b3:h3[h2.size]? = Py (.cells #[Pv Pw 0] T.int (0,0)):=by rw[<-e3];simp
  have s3:h3.size=h2.size+1:=by rw[<-e3];simp
  have q3:=bQ h3 (.cells (Pv Pw 0).cells T.int);generalize e4:h3.push (.cells (Pv Pw 0).cells T.int)=h4 at q3;have b4:h4[h3.size]? = Py (.cells #[Pv Pw 0] T.int (0,0)):=by rw[<-e4];simp
  have s4:h4.size=h3.size+1:=by rw[<-e4];simp
  have hsz:h1.size=h.size+1:=hs1;have e22:h2.size=h.size+2:=by omega
  have e32:h3.size=h.size+3:=by omega
  rw[hsz]at b2;rw[e22]at b3;rw[e32]at b4;rw[e22,e32,hsz];simp;exact⟨by omega,Pt hle1 (Pt q1 (Pt q2 q3)),hat.mono (Pt q1 (Pt q2 q3)),q3 _ _ (q2 _ _ b2),q3 _ _ b3,b4⟩
 rintro ρ hh ⟨rfl,hs,hle,hat,hb1,hb2,hb3⟩;refine⟨[PB (Py ⟨h.size+1,0,Pz⟩),PB (Py ⟨h.size+2,0,Pz⟩),PB (Py ⟨h.size+3,0,Pz⟩)],by simp[qI],
  ⟨λch h2=>∃t,lA f = .error t/\ch=trV t/\(vw hh).le (vw h2),λρ=>Lft.look ρ 2=Py (PB (Py ⟨h.size+1,0,Pz⟩))/\Lft.look ρ 3=Py (PB (Py ⟨h.size+2,0,Pz⟩))/\Lft.look ρ 4=Py (PB (Py ⟨h.size+3,0,Pz⟩))⟩,?_,?_⟩;rotate_left
 ·rintro ch ρ2 h2 ⟨t,ht,rfl,hle2⟩ ⟨l2,l3,l4⟩;refine⟨_,Fe (hle2 _ _ hb1) (hle2 _ _ hb2) (hle2 _ _ hb3) rfl rfl rfl P2 P2 P2,?_⟩;rintro u' h3 ⟨rfl,g1,g2,g3,gs,go⟩;have c1:ak (vw h3) ⟨h.size+1,0,Pz⟩=Py (Pv Pw t.1):=cJ (show vw h3 _=_ from g1) rfl;have c2:ak (vw h3) ⟨h.size+2,0,Pz⟩=Py (Pv Pw t.2.1):=cJ (show vw h3 _=_ from g2) rfl;have c3:ak (vw h3) ⟨h.size+3,0,Pz⟩=Py (Pv Pw t.2.2):=cJ (show vw h3 _=_ from g3) rfl;refine⟨rfl,[Pv Pw t.1,Pv Pw t.2.1,Pv Pw t.2.2],by simp[R.lh,l2,l3,l4,c1,c2,c3],?_⟩;refine⟨by simp[ku,ht],λb o hb=>?_⟩;have hlt:=View.lt (View.le_refl (vw h)) hb;show h3[b]? = _;have hb2':=hle2 _ _ (hle _ _ hb);have hlt2:=View.lt (View.le_refl (vw h2)) hb2';rw[go b hlt2 P2 P2 P2];exact hb2'
 obtain⟨cp,vb,cb⟩:=jx hat;have hbb:=cb.2.bound;have bad : ∀{t:Tr} {ch:List PanicEntry} {h2:Heap},lA f = .error t->ch=trV t->(vw hh).le (vw h2)->∃t,lA f = .error t/\ch=trV t/\(vw hh).le (vw h2):=λa b c=>⟨_,a,b,c⟩;simp only[lK,Dc];dsimp only[L.fZ,lkF,lkG];refine ab λz hz=>?_;simp[cp];refine af P1 jJ ?_;rintro _ _ ⟨rfl,rfl⟩;refine du P1 gm ?_ ?_;rotate_left
 ·rintro _ _ ⟨e,rfl,rfl⟩;exact⟨.inl rfl,bad (by rw[lA,if_pos e]) rfl Ps⟩
 rintro _ hh ⟨e1,rfl⟩;have e1':¬bZ f.params 0 4=false:=by rw[e1];simp
 subst hz;refine ab λz hz=>?_;simp[cb.1,cb.2.len];refine du P1 gm ?_ ?_;rotate_left
 ·rintro _ _ ⟨e,rfl,rfl⟩;exact⟨.inl rfl,bad (by rw[lA,if_neg e1',if_pos (by simpa using e)]) rfl Ps⟩
 rintro _ hh ⟨e2,rfl⟩;have e2':¬f.blocks.length=0:=by intro e;rw[e]at e2;simp at e2
 subst hz;refine ab λz hz=>?_;simp[cb.1,cb.2.len];subst hz;refine ab λz hz=>?_;simp[cb.1,cb.2.len];refine aO [1,2,3,4,5,23,24,25] (fun(_:Unit) k=>[PB (Py ⟨h.size,0,Pz⟩),PB (Py ⟨h.size+1,0,Pz⟩),PB (Py ⟨h.size+2,0,Pz⟩),PB (Py ⟨h.size+3,0,Pz⟩),Pv Pw (manyN f k),vb,Pv Pw f.blocks.length,Pv Pw k])
  (λ_ k h1=>(vw hh).le (vw h1)/\manyN f k<=f.blocks.length+k*2000000) f.blocks.length ()
  rfl P2 rfl ⟨View.le_refl _,by simp[manyN,up]⟩ (λ_ _=>rfl) (λv i h1 hk m=>by simp) ?_ ?_
 ·rintro _ k h1 hlt ⟨hle1,hmk⟩ K2 hK2;have cb1:=cb.2.mono hle1;obtain⟨u,hu,hur⟩:=cb1.wh rfl (N:=6) rfl hlt;refine ab λy hy=>?_;simp(disch:=omega)[cb1.idxn (N:=6) rfl,hu _ Ps];refine dz (z:=.agg #[PA Pz 0 0,PA Pz 0 0,Pv Pw 0,PA Pz 0 0,PA Pz 0 0,Pv Px 0]) P1 rfl P1 hur P5 P5 λh2 hle2 hsz2 hat2=>?_;obtain⟨vp,vi,va,vt,bp,bi,_⟩:=jW (hat2 (vw h2) hle2 rfl);have bph:=bp.2.bound;have bih:=bi.2.bound;have hm1:manyN f (k+1)=manyN f k+(((nth f.blocks k).phis.length:Int)+(nth f.blocks k).ins.length):=rfl;have h0:=HA (f:=f) (k:=k);subst hy;simp[bp.1,bp.2.len,bi.1,bi.2.len];have s1:=(hsm.blk k hlt).phis;have s2:=(hsm.blk k hlt).ins;have s0:=hsm.len;rw[bH (a:=((nth f.blocks k).phis.length:Int)+(nth f.blocks k).ins.length) P2 P2,bH P2 P2];exact hK2 () _ _ rfl (by rw[hm1];rfl) ⟨Pt hle1 hle2,by rw[hm1];omega⟩
 rintro _ h1 ⟨hle1,hmk⟩;simp;subst hz;refine ab λz hz=>?_;have cb1:=cb.2.mono hle1;have cc1:=ae hle1 cb.1;have cp1:=ae hle1 cp;simp[cc1,cb1.len];have hms:manyN f f.blocks.length=BS f:=rfl;rw[hms];refine du P1 gm ?_ ?_;rotate_left
 ·rintro _ _ ⟨e,rfl,rfl⟩;refine⟨.inl rfl,bad ?_ rfl hle1⟩;rw[lA,if_neg e1',if_neg e2',if_pos];intro e3;simp at e;omega
 rintro _ h1 ⟨e3,rfl⟩;have e3':¬¬(f.blocks.length<=512/\BS f<=4096):=by simp at e3;omega
 have hchk:lA f=xa f (lj f (λ_=>Pz)):=by rw[lA,if_neg e1',if_neg e2',if_neg e3']
 subst hz;refine ab λz hz=>?_;simp[Fa cp1 cc1];refine lz ?_;have hle2:=bQ h1 (.map #[] 0);have hm2:dp (.int .i64) (h1.push (.map #[] 0)) h1.size (mapE encW λ_=>Pz):=by rw[pC];exact dp.none Sa
 have hs2:(h1.push (.map #[] 0)).size=h1.size+1:=by simp
 generalize h1.push (.map #[] 0)=h2 at hle2 hm2 hs2;refine ay (z:=.agg #[Pv Pw 0,PA Pz 0 0,.map Pz]) (places:=[(0,2),(2,1)]) (vs:=[(0,.agg #[Pv Pw f.params,vb]),(1,.map (Py h1.size))]) (cs:=#[Pv Pw f.params,vb,.map (Py h1.size)]) P1 P1 Sa P1 ?_;refine dm (v:=.agg #[Pv Pw f.params,vb,.map (Py h1.size)]) rfl ?_;have hle3:=bQ h2 (.cells (Value.cells (.agg #[Pv Pw f.params,vb,.map (Py h1.size)])) T.ik);have hbk:(h2.push (.cells (Value.cells (.agg #[Pv Pw f.params,vb,.map (Py h1.size)])) T.ik))[h2.size]? = Py (.cells #[Pv Pw f.params,vb,.map (Py h1.size)] T.ik (0,0)):=by simp
 have hs3:(h2.push (.cells (Value.cells (.agg #[Pv Pw f.params,vb,.map (Py h1.size)])) T.ik)).size=h2.size+1:=by simp
 generalize h2.push (.cells (Value.cells (.agg #[Pv Pw f.params,vb,.map (Py h1.size)])) T.ik)=h3 at hle3 hbk hs3;subst hz;have hsk:skip h1.size h3 h2.size=Py (.cells #[Pv Pw f.params,vb,.map (Py h1.size)] T.ik (0,0)):=by rw[lq P2];exact hbk
 have hle13:=Pt hle2 hle3;have hle1k:(vw h1).le (skip h1.size h3):=λb o hb=>by have hlt:=View.lt (View.le_refl (vw h1)) hb;rw[lq P2];exact hle13 b o hb
 have k3:Lk h3 h2.size h1.size vb f (λ_=>Pz):=⟨cJ hsk rfl,cJ hsk rfl,cJ hsk rfl,cb1.mono hle1k,hm2.ext hle3⟩;generalize h2.size=Kb at k3;generalize hr:h1.size=r at k3;have hkk : ∀{h':Heap},Kept h3 h' (Py r)->(vw hh).le (vw h'):=λkp b o hb=>by have h1b:=hle1 b o hb;have hlt:=View.lt (View.le_refl (vw h1)) h1b;have h3b:=hle13 b o h1b;have hlt3:=View.lt (View.le_refl (vw h3)) h3b;show _=_;exact(kp.block b hlt3 P9).trans h3b
 refine ab λz hz=>?_;simp;refine du P1 (Ff k3) ?_ ?_;rotate_left
 ·rintro _ h4 ⟨t,ht,rfl,kp4⟩;exact⟨.inl rfl,bad (by rw[hchk,ht];rfl) rfl (hkk kp4)⟩
 rintro _ h4 ⟨m4,hm4,k4,kp4⟩;have hto:=F3 hm4;rw[hm4]at hchk;have hchk:lA f=qJ f m4 (pM (ofG f.blocks)):=hchk;subst hz;refine ab λz hz=>?_;simp;have hgl:(ofG f.blocks).length=f.blocks.length:=by simp[ofG]
 refine du P1 (Gt k4 (LG hsm.len P4) (λi hi=>LG (hto i hi) P4) (FX P2)) ?_ ?_;rotate_left
 ·rintro _ h5 ⟨t,ht,rfl,hle5⟩;exact⟨.inl rfl,bad (by rw[hchk,ht]) rfl (Pt (hkk kp4) hle5)⟩
 rintro _ h5 ⟨hus,hle5⟩;have hle05:=Pt (hkk kp4) hle5;subst hz;simp;refine ef (g:=h.size+1) (o:=0) (n:=1) (v:=Pv Pw 0) P1 rfl rfl rfl P7 (hle05 _ _ hb1) Sa λh6 hs6 ⟨row6,hr6,he6⟩ ho6=>?_;refine ef (g:=h.size+2) (o:=0) (n:=1) (v:=Pv Pw 0) P1 rfl rfl rfl P7 ((ho6 _ P2).trans (hle05 _ _ hb2)) Sa λh7 hs7 ⟨row7,hr7,he7⟩ ho7=>?_;refine ef (g:=h.size+3) (o:=0) (n:=1) (v:=Pv Pw 0) P1 rfl rfl rfl P7 ((ho7 _ P2).trans ((ho6 _ P2).trans (hle05 _ _ hb3))) Sa λh8 hs8 ⟨row8,hr8,he8⟩ ho8=>?_;rw[one_cell rfl rfl he6]at hr6;rw[one_cell rfl rfl he7]at hr7;rw[one_cell rfl rfl he8]at hr8;refine⟨_,BD,?_⟩;rintro u' h9 ⟨rfl,rfl⟩;have c1:ak (vw h9) ⟨h.size+1,0,Pz⟩=Py (Pv Pw 0):=cJ (show vw h9 _=_ from(ho8 _ P2).trans ((ho7 _ P2).trans hr6)) rfl;have c2:ak (vw h9) ⟨h.size+2,0,Pz⟩=Py (Pv Pw 0):=cJ (show vw h9 _=_ from(ho8 _ P2).trans hr7) rfl;have c3:ak (vw h9) ⟨h.size+3,0,Pz⟩=Py (Pv Pw 0):=cJ (show vw h9 _=_ from hr8) rfl;refine⟨rfl,[Pv Pw 0,Pv Pw 0,Pv Pw 0],by simp[R.lh,c1,c2,c3],?_⟩;have htold:ku f=(0,0,0):=by rw[ku,hchk,hus]
 refine⟨by simp[htold],λb o hb=>?_⟩;have hlt:=View.lt (View.le_refl (vw h)) hb;show h9[b]? = _;rw[ho8 b P2,ho7 b P2,ho6 b P2];exact hle05 _ _ (hle _ _ hb)
theorem vG{f:aj}{v:Value}{h:Heap}(hv:Rd (vw h) v f)(hsm:SmF f):
  az PE 27 #[v] h (λu h'=>u = .bool (decide ((ku f).1=0))/\(vw h).le (vw h')):=by refine au (args:=[v]) follows Tryz.func27 E.mq Pp λK hK=>?_;simp[L.mq];refine hZ rfl hv λh1 e1 hle1 hs1 hat=>?_;obtain⟨u,hu,hur⟩:=hat.bU rfl;have hu':Un.ev (vw h1) (.bU 2) (PB (Py ⟨h.size,0,Pz⟩))=Py u:=hu;simp[hu'];refine af P1 (GG hur hsm) ?_;rintro _ h2 ⟨rfl,hle2⟩;simp;exact hK _ _ ⟨rfl,Pt hle1 hle2⟩
end
end Go.Proofs.YtnfiilgdjpdlkaaGreatDoor
