/- A part of the proof: Wo, Wq, Wr, Ws, Wt, Ha, Hb, Hc, Pa, Pb, Pd, Pc, Pe, Pf, Pg, Ph, Hd, He, Hf, Hg, Hi, Hj, Hk, Ra, Rb, Ta. -/
import Derived.Test.YtmhnaeecolpfkaaGreatZSRun2
set_option linter.unusedSimpArgs false
set_option linter.unusedVariables false
open Go.Value renaming int->Qy,slice->QD,pointer->QE
open Go.IntKind renaming i64->Qz
open Option renaming some->QB,none->QC
open Bool renaming true->QF,false->QG
open Go.Proofs.Tryz renaming prog->QH
open Go.Proofs
namespace Go.Lft
def aY(g:Gr):List Int:=lE (nx (cA g)) g.length
theorem gY{g:Gr}:(cA g).length=g.length:=by simp[cA]
theorem tG{g:Gr}: ∀i,i<(cA g).length->∀j,j<(nth (cA g) i).length->0<=nth (nth (cA g) i) j/\nth (nth (cA g) i) j<(cA g).length:=by
 intro i hi j hj;rw[gY]at hi;have hm:=bD hj;rw[cA,eF hi,lH]at hm;have h2:=pC hm;rw[pJ,PZ,mR]at h2;simp only[ND,ON,N0,oS,M8,decide_eq_true_eq]at h2;obtain⟨k,⟨_,h3⟩,h4⟩:=h2;rw[gY];have e:nth (nth (cA g) i) j=nth (nth g i) k:=by rw[cA,eF hi,lH,h4,pJ,mR]
 rw[e];exact h3
variable{vg:Value}
theorem Aw{g:Gr}{h:Heap}(hg:SlRd (vw h) vg g)(hs:Sm g):
  aw QH N.fV #[vg] h (λv h'=>(vw h).le (vw h')/\SlRd (fresh h h') v (aY g)):=by
 refine ak (args:=[vg]) follows F.fV E.fV Q9 λK hK=>?_;have hs1:=hs.1;simp[L.fV,hg.len];refine⟨λh0=>?_,λh0=>?_⟩
 ·exact hK _ _ ⟨View.le_refl _,⟨QC,0,by simp[aY,lE,h0],by simp[aY,lE,h0],by simp[aY,lE,h0],.inl (by simp[aY,lE,h0])⟩⟩
 refine ag Q0 (vY hg hs) ?_;rintro vr h1 ⟨W1,m1⟩;have hvr:=m1.now;obtain⟨hrc,hro⟩:=lO m1.own;refine tp (z:=QD QC 0 0) Q0 rfl Q0 hrc hro Q4 Q4 λh2 hle2 hsz2 hR2=>?_;refine nO (W:=nothing) (n:=g.length) (d:=false) El.oe (by simp<;>rfl) (by simp<;>rfl) rfl Q1 Q1 λvt h3 o3 m3 hle3 hb3=>?_;obtain⟨htc,hto⟩:=lO o3;refine tp (z:=QD QC 0 0) Q0 rfl Q0 htc hto Q4 Q4 λh4 hle4 hsz4 hT4=>?_;refine fF (z:=QD QC 0 0) Q0 ?_;refine fF (z:=.nilFunc) Q0 ?_;have hsz3:h2.size<h3.size:=o3.lt hb3;have hle6:(vw h4).le (vw ((h4.push (.cells (QD QC 0 0).cells T.bn)).push (.cells Value.nilFunc.cells T.A6))):=Qx (bA _ _) (bA _ _);refine ey (g:=h4.size+1) (o:=0) (n:=1) (e:=T.A6) (cur:=#[.nilFunc]) (v:=.func (.func N.bW) #[] #[QT h3.size,QT h1.size,QE (QB ⟨h4.size+1,0,QC⟩),QT h4.size]) Q0 Sb Sb rfl Q7 (by rw[show h4.size+1=(h4.push (.cells (QD QC 0 0).cells T.bn)).size by simp];exact Ob) Sb λh7 hsz7 ⟨row,hrow,he⟩ hoth=>?_;have hrow2:row = #[.func (.func N.bW) #[] #[QT h3.size,QT h1.size,QE (QB ⟨h4.size+1,0,QC⟩),QT h4.size]]:=by rw[<-Array.toList_inj,he];rfl
 rw[hrow2]at hrow;have hle7:(vw h4).le (vw h7):=λb o hb=>by have hlt:=View.lt (View.le_refl (vw h4)) hb;show h7[b]? = _;rw[hoth b Q1];exact hle6 b o hb
 have hL7:h7[h4.size]? = QB (.cells #[QD QC 0 0] T.bn (0,0)):=by rw[hoth _ Q1,OI,if_neg Sb,Ob];rfl
 have hle27:=Qx hle3 (Qx hle4 hle7);have hle17:=Qx hle2 hle27;obtain⟨W,hW⟩ : ∃W:View,W=λb=>if b=h2.size\/b=h4.size then QC else h7[b]?:=⟨_,rfl⟩;have hWle:W.le (vw h7):=by
  intro b o hb;rw[hW]at hb;simp only at hb;split at hb
  ·cases hb
  exact hb
 have hW1:(vw h1).le W:=λb o hb=>by have hlt:=View.lt (View.le_refl (vw h1)) hb;rw[hW];simp only;rw[if_neg Q1];exact hle17 b o hb
 have k7:Wo W h7 h4.size vt (QD QC 0 0) (List.replicate g.length QG,[]):=
  ⟨hWle,hL7,by rw[hW];simp,λb hb=>by rw[hb3]at hb;cases hb;rw[hW];simp,Av.nil _ _ _,by rw[hb3];intro e;simp only[MX]at e;omega,by simp[Value.ownBlock],.inl rfl,
   (o3.ext hle4).ext hle7,OwnT.nil ..,.inr (by rw[hb3];simp[Value.ownBlock])⟩
 have hT:aj W ⟨h3.size,0,QC⟩=QB vt:=by
  have h5:W h3.size=QB (.cells #[vt] T.oe (0,0)):=by rw[hW];simp only;rw[if_neg Q1];exact hle7 _ _ hT4
  simp[aj,h5]
 have hR:aj W ⟨h1.size,0,QC⟩=QB vr:=by
  have h5:W h1.size=QB (.cells #[vr] T.dd (0,0)):=by rw[hW];simp only;rw[if_neg Q1];exact hle27 _ _ hR2
  simp[aj,h5]
 have hO:aj W ⟨h4.size+1,0,QC⟩=QB (.func (.func N.bW) #[] #[QT h3.size,QT h1.size,QE (QB ⟨h4.size+1,0,QC⟩),QT h4.size]):=by
  have h5:W (h4.size+1)=h7[h4.size+1]?:=by rw[hW];simp only;rw[if_neg Q1]
  rw[hrow]at h5;simp[aj,h5]
 have hvrW:=hvr.mono hW1;have hlen:g.length≠0:=by simpa using h0
 have hcl:=gY (g:=g);have hfa:df (List.replicate g.length QG)=g.length:=by simp[df]
 simp[ae hWle hO];refine cJ (ops:=[.const (Qy Qz 0)]) (f:=N.bW) (caps:=#[QT h3.size,QT h1.size,QE (QB ⟨h4.size+1,0,QC⟩),QT h4.size]) Sb Q0
  (by simpa using Bd Q1 tG g.length (M:=g.length) k7 hvrW hT hR hO (a:=0) Q1 Q1 (by simp[hcl]) (by rw[ao Q8];simp) (by rw[hfa];exact MY _) (by simp[hfa]) Q1) ?_;rintro _ h8 ⟨⟨vl,k8⟩,hb8⟩;have hord:aY g=(jS (nx (cA g)) g.length 0 (List.replicate g.length QG,[])).2.reverse:=by simp[aY,lE,h0]
 rw[hord]at hK;generalize jS (nx (cA g)) g.length 0 (List.replicate g.length QG,[])=s at k8 hb8 hK;simp[k8.cell];refine ag Q0 (Cc k8.ol) ?_;rintro _ h9 ⟨o9,k9⟩;have hB9:h9[h4.size]? = QB (.cells #[vl] T.bn (0,0)):=by rw[k9.block _ k8.lt (λe=>k8.nl e.symm)];exact k8.box
 have hc9:aj (vw h9) ⟨h4.size,0,QC⟩=QB vl:=by simp[aj,vw,hB9]
 have hW9:=k9.view k8.wle k8.avl;have hle9:(vw h).le (vw h9):=Qx (Qx m1.old hW1) hW9;have hav:Av (vw h) vl:=λb hb=>by
  cases hx:vw h b with
  | none=>rfl
  | some o=>have:=(Qx m1.old hW1) _ _ hx;rw[k8.avl b hb]at this;cases this
 simp[hc9];exact hK _ _ ⟨hle9,o9.fresh (λ_ _ h=>by cases h) hav⟩
def iZ(f:Nat->List Int)(n:Nat):List (Int × Int):=(List.range n).flatMap λa=>(f a).map λb=>((a:Int),b)
variable{n:Nat}
theorem hZ{f:Nat->List Int}:iZ f (n+1)=iZ f n++(f n).map λb=>((n:Int),b):=by simp[iZ,Qo]
theorem EY{f:Nat->List Int}{m:Nat}(h:n<=m): ∃t,iZ f m=iZ f n++t:=by
 induction m with
 | zero=>exact⟨[],by simp[show n=0 by omega]⟩
 | succ m ih=>
  rcases M0 n (m+1)with h1 | h1
  ·obtain⟨t,ht⟩:=ih Q1;exact⟨t++(f m).map λb=>((m:Int),b),by rw[hZ,ht,Nk]⟩
  exact⟨[],by simp[show n=m+1 by omega]⟩
theorem Fi{f:Nat->List Int}{a j:Nat}(ha:a<n)(hj:j<(f a).length):(iZ f n)[(iZ f a).length+j]? = QB ((a:Int),nth (f a) j):=by obtain⟨t,ht⟩:=EY (f:=f) (n:=a+1) (m:=n) Q1;rw[ht,hZ,Nk,List.getElem?_append_right Q1,Qf,P2 (by simpa using hj)];simp[ao hj,hj]
def fC(g:Gr):List (Int × Int):=iZ (λa=>nth (cA g) a) g.length
def AN(e:Int × Int):List Value:=[Qy Qz e.1,Qy Qz e.2]
def zE(g:Gr):List (List Value):=(fC g).map AN
theorem zT{h:Heap}:
  aw QH N.fR #[vg] h (λv h'=>v = .func (.func N.bX) #[] #[QT h.size]/\h'=h.push (.cells vg.cells T.dd)):=by refine ak (args:=[vg]) follows F.fR E.fR Q9 λK hK=>?_;simp[L.fR];refine my rfl ?_;simp;exact hK _ _ ⟨rfl,rfl⟩
theorem uJ{g:Gr}{V:View}{p:Addr}(hg:SlRd V vg g)(hp:aj V p=QB vg)(hs:Sm g):Iter QH N.bX [QE (QB p)] V (zE g):=by
 intro l J W h hM hV hVl h0 hround;have hW:=(hM QF 0).le h0;refine ak (args:=[.func (.yield l) #[] #[],QE (QB p)]) follows F.bX E.bX Q9 λK hK=>?_;simp[L.bX,ae (Qx hV hW) hp];refine ag Q0 (vY (hg.mono (Qx hV hW)) hs) ?_;rintro vr h1 ⟨W1,m1⟩;have hJ1:=(hM QF 0).grown h0 (MY _) m1.old;have hr1:=m1.fresh.mono (jd W h h1);have hag : ∀b,b<h.size->grow W h h1 b=W b:=λb hb=>tW hb;generalize grow W h h1=W2 at hJ1 hr1 hag;have hlen:=hr1.bound;have hcl:=gY (g:=g);obtain⟨rv,hrv⟩:=hr1.rows;simp[hr1.len];have hall : ∀{a j:Nat},a<(cA g).length->j<(nth (cA g) a).length->(zE g)[(iZ (λa=>nth (cA g) a) a).length+j]? = QB [Qy Qz a,Qy Qz (nth (nth (cA g) a) j)]:=by intro a j ha hj;rw[zE,OU,fC,Fi (f:=λa=>nth (cA g) a) Q1 hj];rfl
 refine aJ [0,8,9,10] (fun(_:Unit) k=>[.func (.yield l) #[] #[],vr,Qy Qz (cA g).length,Qy Qz k]) (λ_ k h2=>J QF (iZ (λa=>nth (cA g) a) k).length W2 h2) (cA g).length ()
  rfl Q1 rfl hJ1 (λ_ _=>rfl) (λv k h1 hk m=>by simp) ?_ ?_
 ·intro _ a h2 hlt hJ2 K2 hK2;have hW2:=(hM _ _).le hJ2;obtain⟨cv,rr⟩:=hrv a hlt;have br:=rr.bound;simp(disch:=omega)[hr1.idx1 rfl,cv _ hW2,rr.len];refine aJ [0,8,9,10,3,15,16,17] (fun(_:Unit) j=>[.func (.yield l) #[] #[],vr,Qy Qz (cA g).length,Qy Qz a,Qy Qz a,rv a,Qy Qz (nth (cA g) a).length,Qy Qz j])
   (λ_ j h3=>J QF ((iZ (λa=>nth (cA g) a) a).length+j) W2 h3) (nth (cA g) a).length () rfl Q1 rfl hJ2 (λ_ _=>rfl) (λv k h1 hk m=>by simp) ?_ ?_
  ·intro _ j h3 hlt3 hJ3 K3 hK3;have hW3:=(hM _ _).le hJ3;simp(disch:=omega)[rr.idx1 rfl,rr.int hW3];refine Hw (ops:=[.tmp 22,.tmp 23]) rfl (by simpa using hround _ _ W2 h3 hag (hall hlt hlt3) hJ3) ?_;rintro b h4 ⟨W4,e1,e2,hJ4⟩;cases b with
   | true=>obtain rfl:=e2 rfl;simp[ij];exact hK3 () _ _ rfl rfl hJ4
   | false=>simp[ij];exact hK _ _ ⟨QG,_,W4,λi hi hne=>by rw[e1 i hne,hag i hi],hJ4,λh=>by cases h⟩
  intro _ h3 hJ3;simp;refine hK2 () _ _ rfl rfl ?_;rw[hZ,M3,Nr];exact hJ3
 intro _ h2 hJ2;simp;refine hK _ _ ⟨QF,_,W2,λi hi _=>hag i hi,hJ2,λ_=>?_⟩;rw[zE,Nr,fC,hcl]
def fw(p:Gr)(e:Int × Int):Gr:=p.set e.2.toNat (nth p e.2.toNat++[e.1])
def cw(g:Gr):Gr:=(fC g).foldl fw (List.replicate g.length [])
theorem uT{β γ:Type}{f:β->γ->β}{l:List γ}{k:Nat}{x:γ}{b:β}(h:l[k]? = QB x):(l.take (k+1)).foldl f b=f ((l.take k).foldl f b) x:=by rw[P8,h,P9];rfl
theorem nI{g:Gr}{e:Int × Int}(h:e∈fC g):(0<=e.1/\e.1<g.length)/\0<=e.2/\e.2<g.length:=by simp only[fC,iZ,Om,N0,ND]at h;obtain⟨a,ha,b,hb,rfl⟩:=h;obtain⟨j,hj,rfl⟩:=Ni hb;have:=tG a (by rw[gY];exact ha) j hj;rw[gY,ao hj]at this;exact⟨⟨by omega,by simp only;omega⟩,this⟩
theorem mA{l:List (Int × Int)}{p:Gr}:(l.foldl fw p).length=p.length:=by
 induction l generalizing p with
 | nil=>rfl
 | cons e l ih=>rw[NF,ih];simp[fw]
theorem Bf{l:List (Int × Int)}{p:Gr}{i m:Nat}(hp:(nth p i).length<=m):(nth (l.foldl fw p) i).length<=m+l.length:=by
 induction l generalizing p m with
 | nil=>exact hp
 | cons e l ih=>
  rw[NF];have:=ih (p:=fw p e) (m:=m+1) ?_
  ·simp only[N2];omega
  unfold fw;rcases M0 i p.length with hi | hi
  ·rw[aK hi];split
   ·rename_i h;rw[h];simp;omega
   omega
  rw[aW (by simpa using hi)];simp[default]
theorem yy{row:List Int}{n:Int}:(lH row n).length<=row.length:=by have h1:=lh (p:=oS row n) (x:=λi=>nth row i) row.length;have h2:(pJ (sift (oS row n) (λi=>nth row i) row.length)).length=(sift (oS row n) (λi=>nth row i) row.length).length:=List.length_mergeSort _;have h3:=uO (l:=pJ (sift (oS row n) (λi=>nth row i) row.length));rw[lH];omega
theorem ya{f:Nat->List Int}{m:Nat}(h : ∀a,a<n->(f a).length<=m):(iZ f n).length<=n*m:=by
 induction n with
 | zero=>simp[iZ]
 | succ n ih=>have:=ih λa ha=>h a Q1;have:=h n Q1;rw[hZ,M3,Nr,NY];omega
theorem rj{g:Gr}(hs:Sm g):(fC g).length<=1000000000000:=by
 have h1:=ya (f:=λa=>nth (cA g) a) (n:=g.length) (m:=1000000) λa ha=>by have:=hs.2 a ha;rw[cA,eF ha];exact NB yy this
 have h2:g.length*1000000<=1000000*1000000:=NA _ hs.1;rw[fC];omega
theorem vK{g:Gr}{h:Heap}(hg:SlRd (vw h) vg g)(hs:Sm g):
  aw QH N.fZ #[vg] h (λv h'=>(vw h).le (vw h')/\SlRd (fresh h h') v (cw g)):=by
 refine uP (args:=[vg]) follows F.fZ E.fZ Q9 λK hK=>?_;have hs1:=hs.1;have hel:=rj hs;simp[L.fZ,hg.len];refine Hc (n:=g.length) El.dd (by simp<;>rfl) (by simp<;>rfl) rfl Q1 Q1 ?_;refine tp (z:=QD QC 0 0) (v:=QD (QB ⟨h.size,0,QC⟩) g.length g.length) Q0 rfl Q0 rfl rfl Q4 Q4 λh2 hle2 hsz2 hB2=>?_;have hle02:(vw h).le (vw h2):=Qx (bA _ _) hle2;have hg2:h2[h.size]? = QB (.cells (List.replicate g.length (QD QC 0 0)).toArray T.bn (0,0)):=hle2 _ _ (show(h.push _)[h.size]? = _ by simp);simp at hsz2 hB2;simp;refine ag Q0 zT ?_;rintro _ _ ⟨rfl,rfl⟩;have hgc:=hg.cells.1;rw[hgc];have hle3:=bA h2 (.cells #[vg] T.dd);generalize hh3:h2.push (.cells #[vg] T.dd)=h3 at hle3;have hsz3:h3.size=h.size+3:=by rw[<-hh3];simp[hsz2]
 obtain⟨W0,hW0⟩ : ∃W:View,W=λb=>if b=h.size then QC else h3[b]?:=⟨_,rfl⟩;have hW0le:W0.le (vw h3):=λb o hb=>by
  rw[hW0]at hb;simp only at hb;split at hb
  ·cases hb
  exact hb
 have h0W:(vw h).le W0:=λb o hb=>by have hlt:=View.lt (View.le_refl (vw h)) hb;rw[hW0];simp only;rw[if_neg Q1];exact Qx hle02 hle3 b o hb
 have hp3:aj W0 ⟨h2.size,0,QC⟩=QB vg:=by
  have e:W0 h2.size=QB (.cells #[vg] T.dd (0,0)):=by rw[hW0];simp only;rw[if_neg Q1,<-hh3];simp
  simp[aj,e]
 have hB3:W0 (h.size+1)=QB (.cells #[QD (QB ⟨h.size,0,QC⟩) g.length g.length] T.dd (0,0)):=by rw[hW0];simp only;rw[if_neg Q1];exact hle3 _ _ hB2
 refine xj (enc:=AN) (all:=fC g) (gf:=N.bX) (caps:=[QT h2.size]) W0 W0 (λe k W h'=>e=QC/\∃rv,Rw W h' T.bn T.int h.size rv (((fC g).take k).foldl fw (List.replicate g.length [])))
  rfl Q0 (uJ (hg.mono h0W) hp3 hs) (λ_=>rfl) Qw (λe k=>⟨λ⟨_,rv,r⟩=>r.wle,λ⟨a,rv,r⟩ _ h1 h2 _=>⟨a,rv,r.move h1 h2⟩⟩) ⟨rfl,_,Rw.start hW0le (by rw[hW0];simp) (hle3 _ _ hg2)⟩
  (λx h1=>by simp[AN,db];rfl) ?_ ?_ ?_
 ·rintro k e W h1 hag hk ⟨_,rv,r⟩ K2 hK2 _;have he:=nI (Nv hk);have hk1:k<(fC g).length:=(Oq.1 hk).1;have hst:=uT (f:=fw) (b:=List.replicate g.length []) hk;have hpl:=mA (l:=(fC g).take k) (p:=List.replicate g.length []);have hrl:=Bf (l:=(fC g).take k) (p:=List.replicate g.length []) (i:=e.2.toNat) (m:=0) (by rw[ay Q1];simp);rw[Ny]at hrl;rw[NM]at hpl;generalize hp:((fC g).take k).foldl fw (List.replicate g.length [])=p at r hst hpl hrl;have hlt:=r.lt;have hB1:h1[h.size+1]? = QB (.cells #[QD (QB ⟨h.size,0,QC⟩) g.length g.length] T.dd (0,0)):=r.wle _ _ (by rw[hag _ Q1];exact hB3);have hlt1:=(M7.1 hB1).1;obtain⟨H,hH⟩ : ∃H:View,H=λb=>if b=h.size\/b=h.size+1 then h1[b]? else none:=⟨_,rfl⟩;have hHle:H.le (vw h1):=λb o hb=>by
   rw[hH]at hb;simp only at hb;split at hb
   ·exact hb
   cases hb
  have c1:aj H ⟨h.size+1,0,QC⟩=QB (QD (QB ⟨h.size,0,QC⟩) g.length g.length):=bV (by rw[hH];simp only;rw[if_pos Sb];exact hB1) rfl;have hlen:=r.len;have c2:aj H ⟨h.size,e.2.toNat,QC⟩=QB (nth rv e.2.toNat):=bV (by rw[hH];simp only;rw[if_pos Sb];exact r.blk) (by rw[ao Q1];simp);refine bz H hHle ?_;simp(disch:=omega)[c1,c2,IX];refine jz (α:=Int) (W:=nothing) El.bn (by simp<;>rfl) (rS Q1 Q1) λu h4 hsrc hle4 _=>⟨Qx hHle hle4,?_⟩;have r4:=r.ext hle4;have hi:e.2.toNat<p.length:=by omega
  refine cR El.bn Sb Sb (r4.own _ hi) hsrc Q8 Q8 λv' h5 o5 m5=>?_;have hg5:h5[h.size]? = QB (.cells rv.toArray T.bn (0,0)):=by rw[m5.kept.block _ r4.lt (λe=>r4.ng _ hi e.symm)];exact r4.blk
  obtain⟨hcells,hone⟩:=lO o5;have hH5:H.le (vw h5):=by
   intro b o hb;have hlt4:=View.lt (Qx hHle hle4) hb;have h4b:=Qx hHle hle4 b o hb;show h5[b]? = _;rw[m5.kept.block b hlt4 ?_]
   ·exact h4b
   rw[hH]at hb;simp only at hb;split at hb
   ·rename_i e1;rcases e1 with rfl | rfl
    ·exact λe=>r4.ng _ hi e.symm
    intro e;have:=r4.av _ hi _ e.symm;rw[hag _ Q1,hB3]at this;cases this
   cases hb
  refine⟨hH5,?_⟩;refine ey (g:=h.size) (o:=e.2.toNat) (n:=1) (v:=v') Q0 Sb Sb (by rw[hcells];rfl) (by rw[hcells];simpa using hone) hg5 Q8 λh6 hsz6 ⟨row,hrow,hre⟩ hoth=>?_;refine hK2 _ _ ⟨rfl,rv.set e.2.toNat v',?_⟩;rw[hst,fw];have hrow2:row=(rv.set e.2.toNat v').toArray:=by rw[<-Array.toList_inj,hre,hcells,Pz,if_pos Q1];simp
  rw[hrow2]at hrow;exact r4.put hi o5 m5 hrow hoth hsz6
 ·rintro W h1 hag ⟨_,rv,r⟩;rw[Nd (MY _)]at r;have hB1:h1[h.size+1]? = QB (.cells #[QD (QB ⟨h.size,0,QC⟩) g.length g.length] T.dd (0,0)):=r.wle _ _ (by rw[hag _ Q1];exact hB3);have c1:aj (vw h1) ⟨h.size+1,0,QC⟩=QB (QD (QB ⟨h.size,0,QC⟩) g.length g.length):=bV hB1 rfl;simp[c1];intro h4 hsw;have hWW:(vw h).le W:=λb o hb=>by rw[hag b (by have:=View.lt (View.le_refl (vw h)) hb;omega)];exact h0W b o hb
  have hfl:=mA (l:=fC g) (p:=List.replicate g.length []);rw[NM]at hfl;have hfr:=r.fresh hWW Q1;rw[hfl]at hfr;exact⟨_,rfl,hK _ _ ⟨hsw.ext (Qx hWW r.wle),hsw.rd hfr⟩⟩
 rintro e k W h1 hag ⟨hne,_⟩;cases hne
def fU(n:Nat)(order:List Int):List Int:=up (λi l=>l.set (nth order i).toNat (i:Int)) order.length (List.replicate n (-1))
def bstS(out number:List Int)(n:Nat):List Int->Int->Option Int
 | [],best=>QB best
 | a::l,best=>
  if 0<=a/\a<n then
   if nth number a.toNat<0\/(a≠0/\nth out a.toNat<0) then bstS out number n l best
   else if best<0 then bstS out number n l a
   else(kW out number (2*n+2) best a).bind (bstS out number n l)
  else QC
def setS(out:List Int)(ch:Bool)(b best:Int):List Int × Bool:=if nth out b.toNat≠best then(out.set b.toNat best,QF) else(out,ch)
def rH(number:List Int)(preds:Gr)(n:Nat):List Int->List Int × Bool->Option (List Int × Bool)
 | [],s=>QB s
 | b::l,s=>
  if 0<=b/\b<n then(bstS s.1 number n (nth preds b.toNat) (-1)).bind λbest=>rH number preds n l (setS s.1 s.2 b best)
  else QC
def nG(number:List Int)(preds:Gr)(n:Nat)(tail:List Int):Nat->List Int->Option (List Int)
 | 0,_=>QC
 | m+1,out=>(rH number preds n tail (out,QG)).bind λs=>if s.2 then nG number preds n tail m s.1 else QB s.1
def yu(g:Gr)(fuel:Nat):Option (List Int):=
 nG (fU g.length (aY g)) (cw g) g.length ((aY g).drop (min 1 (aY g).length)) fuel (List.replicate g.length (-1))
theorem jC{out number:List Int}{c:Int} : ∀{k:Nat} {x y:Int},kW out number k x y=QB c->0<=c/\c<number.length
 | 0,x,y,h=>by cases h
 | k+1,x,y,h=>by
  rw[kW]at h;split at h;case isFalse=>cases h
  rename_i hr;split at h
  ·exact jC h
  split at h
  ·exact jC h
  cases h;omega
variable{number:List Int}
theorem CN{out:List Int}: ∀{l:List Int} {best r:Int},(-1<=best/\best<n)->out.length=n->number.length=n->(∀i,i<n->-1<=nth out i/\nth out i<n)->bstS out number n l best=QB r->-1<=r/\r<n:=by
 intro l;induction l with
 | nil=>intro best r hb _ _ _ h;simp only[bstS,MX]at h;subst h;exact hb
 | cons a l ih=>
  intro best r hb h1 h2 h3 h;rw[bstS]at h;split at h;case isFalse=>cases h
  rename_i ha;split at h
  ·exact ih hb h1 h2 h3 h
  split at h
  ·exact ih Q5 h1 h2 h3 h
  simp only[Nh]at h;obtain⟨c,hc,h⟩:=h;refine ih ?_ h1 h2 h3 h;have:=jC hc;omega
structure OvOk(m M:Nat)(s:List Bool × List Int):Prop where
 len:s.1.length=m
 cnt:s.2.length+df s.1<=M
 rng : ∀x∈s.2,0<=x/\x<m
theorem An{nx:Int->List Int}{m:Nat}(hnx : ∀a:Int,0<=a->a<m->∀i,i<(nx a).length->0<=nth (nx a) i/\nth (nx a) i<m) : ∀(n M:Nat) (a:Int) (s:List Bool × List Int),0<=a->a<m->nth s.1 a.toNat=QG->OvOk m M s->OvOk m M (jS nx n a s)
 | 0,_,_,_,_,_,_,h=>h
 | n+1,M,a,s,h0,h1,hf,h=>by
  rw[kL];have hlen:=h.len;have hfs:=jL (t:=s.1) (i:=a.toNat) Q1 hf;have hc:=h.cnt;have hup : ∀k,k<=(nx a).length->OvOk m (M-1) (up (cy nx n a) k (s.1.set a.toNat QF,s.2)):=by
   intro k;induction k with
   | zero=>exact λ_=>⟨by simpa[up]using hlen,by simp only[up];omega,h.rng⟩
   | succ k ih=>
    intro hk;have:=ih Q1;rw[up];generalize up (cy nx n a) k (s.1.set a.toNat QF,s.2)=z at this;unfold cy;split
    ·exact this
    rename_i hz;obtain⟨e0,e1⟩:=hnx a h0 h1 k Q1;exact An hnx n (M-1) _ z e0 e1 (by simpa using hz) this
  have:=hup _ (MY _);exact⟨this.len,by have:=this.cnt;simp;omega,λx hx=>by
   rcases M1.1 hx with hx | hx
   ·exact this.rng x hx
   simp only[MZ]at hx;subst hx;exact⟨h0,h1⟩⟩
theorem yp{nx:Int->List Int}{m:Nat}(hnx : ∀a:Int,0<=a->a<m->∀i,i<(nx a).length->0<=nth (nx a) i/\nth (nx a) i<m):(lE nx m).length<=m/\∀x∈lE nx m,0<=x/\x<m:=by
 unfold lE;split
 ·simp
 rename_i h0;have:=An hnx m m 0 (List.replicate m QG,[]) Q1 Q1 (ay Q8) ⟨by simp,by simp[df],by simp⟩;refine⟨?_,λx hx=>this.rng x (by simpa using hx)⟩;have:=this.cnt;simp;omega
theorem Jv{g:Gr}: ∀a:Int,0<=a->a<(g.length:Int)->∀i,i<(nx (cA g) a).length->0<=nth (nx (cA g) a) i/\nth (nx (cA g) a) i<g.length:=by intro a h0 h1 i hi;have:=tG a.toNat (by rw[gY];omega) i hi;rwa [gY]at this
theorem Eh{g:Gr}{i:Nat}(hi:i<(aY g).length):0<=nth (aY g) i/\nth (aY g) i<g.length:=
 (yp Jv).2 _ (bD hi)
theorem rM{g:Gr}:(aY g).length<=g.length:=(yp Jv).1
theorem tS{g:Gr}: ∀{l:List (Int × Int)} {p:Gr},(∀e∈l,0<=e.1/\e.1<g.length)->(∀i,∀x∈nth p i,0<=x/\x<g.length)->∀i,∀x∈nth (l.foldl fw p) i,0<=x/\x<g.length:=by
 intro l;induction l with
 | nil=>exact λ_ h=>h
 | cons e l ih=>
  intro p hl hp;rw[NF];refine ih (λe' he'=>hl e' (Nf _ he')) λi x hx=>?_;unfold fw at hx;rcases M0 i p.length with hi | hi
  ·rw[aK hi]at hx;split at hx
   ·rcases M1.1 hx with hx | hx
    ·exact hp _ x hx
    simp only[MZ]at hx;subst hx;exact hl e (Ng ..)
   exact hp _ x hx
  rw[aW (by simpa using hi)]at hx;cases hx
theorem wH{h h':Heap}{v v':Value}(m:lk h h' v v'){W:View}(hw:W.le (vw h))(ha:Av W v):W.le (vw h'):=(m.view hw ha).1
theorem Im{g:Gr}{h:Heap}{fuel:Nat}{l:List Int}(hg:SlRd (vw h) vg g)(hs:Sm g)(hl:yu g fuel=QB l):
  aw QH N.cf #[vg] h (λv h'=>∃W,Mine nothing h h' W T.int v l):=by
 refine ak (args:=[vg]) follows F.cf E.cf Q9 λK hK=>?_;have hs1:=hs.1;simp[L.cf,hg.len];refine ag Q0 (Aw hg hs) ?_;rintro vo h1 ⟨hle1,ho⟩;have hoin:=@Eh g;have holen:=rM (g:=g);rw[yu]at hl;generalize aY g=order at ho hoin holen hl;refine Mine.made (V:=nothing) (W:=nothing) (h0:=h) (n:=g.length) (d:=(0:Int)) El.bn hle1 (λ_ _ h=>by cases h) (Old.nothing _ _) (by simp<;>rfl) (by simp<;>rfl) ⟨rfl,by omega,by omega⟩ Q1 Q1 λvn h2 mn hle2 hbn=>?_;refine Mine.made (V:=nothing) (W:=nothing) (h0:=h) (n:=g.length) (d:=(0:Int)) El.bn mn.old (λ_ _ h=>by cases h) (Old.nothing _ _) (by simp<;>rfl) (by simp<;>rfl) ⟨rfl,by omega,by omega⟩ Q1 Q1 λvi h3 mi hle3 hbi=>?_;have mn3:=mn.ext' hle3;have hne:vn.ownBlock≠vi.ownBlock:=by have:=mn.own.lt hbn;rw[hbn,hbi];intro e;simp only[MX]at e;omega
 have hle13:(vw h1).le (vw h3):=Qx hle2 hle3;have av1n:Av (vw h1) vn:=λb hb=>by rw[hbn]at hb;cases hb;exact View.cT Qw (MY _)
 have av1i:Av (vw h1) vi:=λb hb=>by rw[hbi]at hb;cases hb;exact View.cT hle2 (MY _)
 refine aJ [0,3,4,5,25,26] (fun(_:Unit) k=>[vg,vo,vn,vi,Qy Qz g.length,Qy Qz k])
  (λ_ k h4=>Mine nothing h h4 nothing T.int vn (rows (λ_=>(-1:Int)) k++List.replicate (g.length-k) 0)/\Mine nothing h h4 nothing T.int vi (rows (λ_=>(-1:Int)) k++List.replicate (g.length-k) 0)/\(vw h1).le (vw h4)) g.length ()
  rfl Q1 rfl ⟨by simpa using mn3,by simpa using mi,hle13⟩ (λ_ _=>rfl) (λv k h1 hk m=>by simp) ?_ ?_
 ·rintro _ k h4 hlt ⟨m4n,m4i,hle4⟩ K2 hK2;have hlk:(rows (λ_=>(-1:Int)) k++List.replicate (g.length-k) (0:Int)).length=g.length:=by simp;omega
  simp(disch:=omega)[m4n.now.idx1 rfl,m4i.now.idx1 rfl];refine tx (W:=nothing) (i:=k) (d:=(-1:Int)) Q0 (by simp[show Rep.n Int=1 from rfl]) (by simp<;>rfl) m4n.own Q1 (rS Q1 Q1) λh5 o5 mv5=>?_;have m5n:=m4n.kz o5 mv5;have m5i:=m4i.beside m5n mv5 (.inr (Ne.symm hne));refine tx (W:=nothing) (i:=k) (d:=(-1:Int)) Q0 (by simp[show Rep.n Int=1 from rfl]) (by simp<;>rfl) m5i.own Q1 (rS Q1 Q1) λh6 o6 mv6=>?_;have m6i:=m5i.kz o6 mv6;have m6n:=m5n.beside m6i mv6 (.inr hne);rw[ny (x:=λ_=>(-1:Int)) hlt]at m6i m6n;exact hK2 () _ _ rfl rfl ⟨m6n,m6i,wH mv6 (wH mv5 hle4 av1n) av1i⟩
 rintro _ h4 ⟨m4n,m4i,hle4⟩;have hrows:rows (λ_=>(-1:Int)) g.length=List.replicate g.length (-1):=by refine NU Sb λi h1 h2=>?_;simp[rows]
 rw[hrows]at m4n m4i;simp only[PQ,List.replicate_zero,Oh]at m4n m4i;have ho1:=ho.mono (jE h h1);simp[ho1.len];refine aJ [0,3,4,5,36,37,38] (fun(_:Unit) k=>[vg,vo,vn,vi,vo,Qy Qz order.length,Qy Qz k])
  (λ_ k h5=>Mine nothing h h5 nothing T.int vn (up (λi l=>l.set (nth order i).toNat (i:Int)) k (List.replicate g.length (-1)))/\Mine nothing h h5 nothing T.int vi (List.replicate g.length (-1))/\(vw h1).le (vw h5)) order.length ()
  rfl Q1 rfl ⟨m4n,m4i,hle4⟩ (λ_ _=>rfl) (λv k h1 hk m=>by simp) ?_ ?_
 ·rintro _ k h5 hlt ⟨m5n,m5i,hle5⟩ K2 hK2;have hlen5:(up (λi l=>l.set (nth order i).toNat (i:Int)) k (List.replicate g.length (-1))).length=g.length:=by rw[zt List.length (λ_ _=>by simp)];simp
  have ho5:=ho1.mono hle5;obtain⟨e0,e1⟩:=hoin hlt;simp(disch:=omega)[ho5.idx1 rfl,ho5.int Qw,m5n.now.idx1 rfl];refine tx (W:=nothing) (i:=(nth order k).toNat) (d:=(k:Int)) Q0 (by simp[show Rep.n Int=1 from rfl]) (by simp<;>rfl) m5n.own Q1 (rS Q1 Q1) λh6 o6 mv6=>?_;have m6n:=m5n.kz o6 mv6;exact hK2 () _ _ rfl rfl ⟨m6n,m5i.beside m6n mv6 (.inr (Ne.symm hne)),wH mv6 hle5 av1n⟩
 rintro _ h5 ⟨m5n,m5i,hle5⟩;have hnum:up (λi l=>l.set (nth order i).toNat (i:Int)) order.length (List.replicate g.length (-1))=fU g.length order:=rfl;rw[hnum]at m5n;have hnl:(fU g.length order).length=g.length:=by rw[fU,zt List.length (λ_ _=>by simp)];simp
 simp;refine ag Q0 (vK (hg.mono m5n.old) hs) ?_;rintro vp h6 ⟨hle6,hp⟩;have hpl:(cw g).length=g.length:=by rw[cw,mA];simp
 have hpin : ∀i,∀x∈nth (cw g) i,0<=x/\x<g.length:=tS (λe he=>(nI he).1) (λi x hx=>by
  rcases M0 i g.length with hi | hi
  ·rw[ay hi]at hx;cases hx
  rw[aW (by simpa using hi)]at hx;cases hx);have m6:=(m5i.ext' hle6).over;have hn6:SlRd (but vi h6) vn (fU g.length order):=(m5n.own.rd (V:=but vi h5) (λ_ _ h=>by cases h) (λb hb=>by unfold but;rw[if_neg (λe=>hne (hb.trans e.symm))])).mono (A0 hle6)
 have hp6:SlRd (but vi h6) vp (cw g):=hp.mono λb o hb=>by
  have hb2:=jE _ _ b o hb;unfold but;split
  ·rename_i e;have:=m5i.own.lt e;unfold fresh at hb;rw[if_pos this]at hb;cases hb
  exact hb2
 have ho6:SlRd (but vi h6) vo order:=ho1.mono (Qx (Hd hle5 av1i) (A0 hle6));generalize hW:but vi h6=W at m6 hn6 hp6 ho6;generalize fU g.length order=number at hn6 hnl hl;generalize hpr:cw g=preds at hp6 hpl hpin hl;obtain⟨pv,hpv⟩:=hp6.rows;refine iA [3,4,5,9,10] (λm ρ h7=>∃(out:List Int) (ch:Bool),ρ=[(3,vo),(4,vn),(5,vi),(9,vp),(10,.bool ch)]/\Mine (vw h) h h7 W T.int vi out/\out.length=g.length/\(∀i,i<g.length->-1<=nth out i/\nth out i<g.length)/\
  (ch=QF->nG number preds g.length (order.drop (min 1 order.length)) m out=QB l)/\(ch=QG->out=l)) fuel
  ⟨_,QF,rfl,m6,by simp,λi hi=>by rw[ay hi];omega,λ_=>hl,λh=>by cases h⟩ ?_;rintro m ρ h7 ⟨out,ch,rfl,m7,hol,hor,hch1,hch2⟩ K2 hK2;cases ch with
 | false=>simp[L.cf.l3,ij];have:=hch2 rfl;subst this;exact hK _ _ ⟨_,m7.Lr⟩
 | true=>
  have hit:=hch1 rfl;cases m with
  | zero=>cases hit
  | succ m=>
   rw[nG,Nh]at hit;obtain⟨⟨out',ch'⟩,hsw,hfin⟩:=hit;simp only at hfin;simp[L.cf.l3,ij];have hmin:(if(order.length:Int)<1 then(order.length:Int) else 1)=((min 1 order.length:Nat):Int):=by split<;>omega
   obtain⟨u,hu,hur⟩:=ho6.drop (n:=min 1 order.length) Q1 (kd:=.i64);rw[show Rep.n Int=1 from rfl]at hu;have hti : ∀j,j<(order.drop (min 1 order.length)).length->nth (order.drop (min 1 order.length)) j=nth order (min 1 order.length+j):=by intro j hj;rw[NJ]at hj;rw[ao (by rw[NJ];omega),ao Q1,PB]
   generalize order.drop (min 1 order.length)=tail at hur hti hsw hfin hK2;simp only[ho6.len,Nn,Kn,hmin,hu,hur.len,jc,db];have hub:=hur.bound;simp;refine aJ [3,4,5,9,10,55,56,57] (fun(s:List Int × Bool) k=>[vo,vn,vi,vp,.bool s.2,u,Qy Qz tail.length,Qy Qz k])
    (λs k h8=>Mine (vw h) h h8 W T.int vi s.1/\s.1.length=g.length/\(∀i,i<g.length->-1<=nth s.1 i/\nth s.1 i<g.length)/\rH number preds g.length (tail.drop k) s=QB (out',ch')) tail.length (out,QG)
    rfl Q1 rfl ⟨m7,hol,hor,by simpa using hsw⟩ (λ_ _=>rfl) (λv k h1 hk m=>by simp) ?_ ?_
   ·rintro⟨o8,c8⟩ k h8 hlt8 ⟨m8,hol8,hor8,hs8⟩ K3 hK3;simp only at m8 hol8 hor8;rw[NK hlt8,<-ao hlt8,rH]at hs8;split at hs8;case isFalse=>cases hs8
    rename_i hb;rw[Nh]at hs8;obtain⟨best,hbest,hs8⟩:=hs8;simp only at hbest hs8;have hb2:=CN Q1 hol8 hnl hor8 hbest;generalize hbe:nth tail k=b at hb hbest hs8;obtain⟨cv,rr⟩:=hpv b.toNat Q1;have br:=rr.bound;simp(disch:=omega)[hur.idx1 rfl,hur.int m8.wle,hbe,hp6.idx1 rfl,cv _ m8.wle,rr.len];refine aJ [3,4,5,9,10,55,56,57,12,13,64,65,66] (fun(bst:Int) j=>[vo,vn,vi,vp,.bool c8,u,Qy Qz tail.length,Qy Qz k,Qy Qz b,Qy Qz bst,pv b.toNat,Qy Qz (nth preds b.toNat).length,Qy Qz j])
     (λbst j h9=>Mine (vw h) h h9 W T.int vi o8/\(-1<=bst/\bst<g.length)/\bstS o8 number g.length ((nth preds b.toNat).drop j) bst=QB best) (nth preds b.toNat).length (-1)
     rfl Q1 rfl ⟨m8,by omega,by simpa using hbest⟩ (λ_ _=>rfl) (λv k h1 hk m=>by simp) ?_ ?_
    ·rintro bst j h9 hlt9 ⟨m9,hb9,hs9⟩ K4 hK4;rw[NK hlt9,<-ao hlt9,bstS]at hs9;have ha:=hpin _ _ (bD hlt9);rw[if_pos ha]at hs9;have hra:=rr.int m9.wle hlt9;generalize nth (nth preds b.toNat) j=a at hs9 ha hra;have hn9:=hn6.int m9.wle (i:=a.toNat) Q1;have ho9:=m9.now.int Qw (i:=a.toNat) Q1;have hi9:=m9.now;by_cases c1:nth number a.toNat<0
     ·rw[if_pos (.inl c1)]at hs9;simp(disch:=omega)[rr.idx1 rfl,hra,hn6.idx1 rfl,hn9,c1,hi9.idx1 rfl,ho9];exact hK4 bst _ _ rfl rfl ⟨m9,hb9,hs9⟩
     by_cases c2:a=0
     ·rw[if_neg (by rintro(h | h);exact c1 h;exact h.1 c2)]at hs9;subst c2;rw[Int.toNat_zero]at hn9 ho9 c1;simp(disch:=omega)[rr.idx1 rfl,hra,hn6.idx1 rfl,hn9,c1,hi9.idx1 rfl,ho9];refine⟨λc4=>?_,λc4=>?_⟩
      ·rw[if_pos c4]at hs9;exact hK4 _ _ _ rfl rfl ⟨m9,by omega,hs9⟩
      rw[if_neg Q1,Nh]at hs9;obtain⟨c,hc,hs9⟩:=hs9;have hcr:=jC hc;refine ag Q0 (yw m9.now (hn6.mono m9.wle) hc) ?_;rintro _ _ ⟨rfl,rfl⟩;exact hK4 c _ _ rfl rfl ⟨m9,by omega,hs9⟩
     by_cases c3:nth o8 a.toNat<0
     ·rw[if_pos (.inr ⟨c2,c3⟩)]at hs9;simp(disch:=omega)[rr.idx1 rfl,hra,hn6.idx1 rfl,hn9,c1,c2,hi9.idx1 rfl,ho9,c3];exact hK4 bst _ _ rfl rfl ⟨m9,hb9,hs9⟩
     rw[if_neg (by rintro(h | h);exact c1 h;exact c3 h.2)]at hs9;simp(disch:=omega)[rr.idx1 rfl,hra,hn6.idx1 rfl,hn9,c1,c2,hi9.idx1 rfl,ho9,c3];refine⟨λc4=>?_,λc4=>?_⟩
     ·rw[if_pos c4]at hs9;exact hK4 _ _ _ rfl rfl ⟨m9,by omega,hs9⟩
     rw[if_neg Q1,Nh]at hs9;obtain⟨c,hc,hs9⟩:=hs9;have hcr:=jC hc;refine ag Q0 (yw m9.now (hn6.mono m9.wle) hc) ?_;rintro _ _ ⟨rfl,rfl⟩;exact hK4 c _ _ rfl rfl ⟨m9,by omega,hs9⟩
    rintro bst h9 ⟨m9,hb9,hs9⟩;simp only[Qg,bstS,MX]at hs9;subst hs9;simp(disch:=omega)[m9.now.idx1 rfl,m9.now.int Qw];refine⟨λe=>hK3 (o8,c8) _ _ rfl rfl ⟨m9,hol8,hor8,by rw[setS,if_neg (by simpa using e)]at hs8;exact hs8⟩,λe=>?_⟩;refine m9.put1 (α:=Int) (i:=b.toNat) Q0 rfl Sb (by simp<;>rfl) Q1 (rS Q1 Q1) λh10 m10=>hK3 (o8.set b.toNat bst,QF) _ _ rfl rfl ⟨m10,by simpa using hol8,λi hi=>?_,by rw[setS,if_pos e]at hs8;exact hs8⟩;simp only;rw[aK Q1];split
    ·exact hb9
    exact hor8 i hi
   rintro⟨o8,c8⟩ h8 ⟨m8,hol8,hor8,hs8⟩;simp only[Qg,rH,MX,Og]at hs8 m8 hol8 hor8;obtain⟨rfl,rfl⟩:=hs8;simp;refine hK2 m _ _ Q1 ⟨_,_,rfl,m8,hol8,hor8,λe=>?_,λe=>?_⟩
   ·rw[if_pos e]at hfin;exact hfin
   rw[if_neg (by simp[e])]at hfin;exact Option.some.inj hfin
abbrev Tr:=Int × Int × Int
def trV(t:Tr):List PanicEntry:=[{ v:=.iface T.gh (.agg #[Qy Qz t.1,Qy Qz t.2.1,Qy Qz t.2.2]),recovered:=false }]
def bT(n a b:Int):Bool:=decide (a<=n)&&decide (n<=b)
variable{b:Int}
theorem kA{n a:Int}{h:Heap}:aw QH N.fe #[Qy Qz n,Qy Qz a,Qy Qz b] h (λv h'=>v = .bool (bT n a b)/\h'=h):=by refine ak (args:=[Qy Qz n,Qy Qz a,Qy Qz b]) follows F.fe E.fe Q9 λK hK=>?_;simp[L.fe];exact hK _ _ ⟨by by_cases h1:a<=n<;>simp[bT,h1],rfl⟩
theorem iP{ok:Bool}{e p:Int}{h:Heap}:jr QH N.ft #[.bool ok,Qy Qz e,Qy Qz b,Qy Qz p] h (λv h'=>ok=QF/\h'=h) (λch h'=>ok=QG/\ch=trV (e,b,p)/\h'=h):=by
 refine iY (args:=[.bool ok,Qy Qz e,Qy Qz b,Qy Qz p]) follows F.ft E.ft Q9 λK Kp hK hKp=>?_;cases ok with
 | true=>simp[L.ft];exact hK _ _ ⟨rfl,rfl⟩
 | false=>simp[L.ft];refine aQ (z:=zz0) (places:=[(0,1),(1,1),(2,1)]) (vs:=[(0,Qy Qz e),(1,Qy Qz b),(2,Qy Qz p)]) (cs:=#[Qy Qz e,Qy Qz b,Qy Qz p]) Q0 Q0 Sb Q0 ?_;refine Gl (d:=(Tryz.prog.underlying T.gh).getD .bool) Q0 Q0 rfl ?_;simp;refine Gz (t:=T.gh) (v:=.agg #[Qy Qz e,Qy Qz b,Qy Qz p]) rfl ?_;exact⟨.inl rfl,hKp _ _ ⟨rfl,rfl,rfl⟩⟩
def gL(op:Int):Int × Int:=if op=1 then(0,0) else if op=15 then(1,1) else if op=17 then(0,4) else(2,2)
theorem Ay{op:Int}{h:Heap}:aw QH N.dR #[Qy Qz op] h (λv h'=>v = .tuple #[Qy Qz (gL op).1,Qy Qz (gL op).2]/\h'=h):=by refine ak (args:=[Qy Qz op]) follows F.dR E.dR Q9 λK hK=>?_;simp[L.dR];refine⟨λh1=>hK _ _ ⟨by simp[gL,h1],rfl⟩,λh1=>⟨λh2=>hK _ _ ⟨by simp[gL,h1,h2],rfl⟩,λh2=>⟨λh3=>hK _ _ ⟨by simp[gL,h1,h2,h3],rfl⟩,λh3=>hK _ _ ⟨by simp[gL,h1,h2,h3],rfl⟩⟩⟩⟩
def bm(i:InsD):List Int:=if i.op=16 then[] else if i.op=18 then[i.dst,i.two] else[i.dst]
theorem HL{d:InsD}{v:Value}{h:Heap}(hd:Rd (vw h) v d):aw QH N.fT #[v] h (λu h'=>(vw h).le (vw h')/\SlRd (fresh h h') u (bm d)):=by
 refine ak (args:=[v]) follows F.fT E.fT Q9 λK hK=>?_;simp[L.fT];refine fH rfl hd λh1 _ hle1 hsz1 hat=>?_;obtain⟨c0,c1,c2,va,ca⟩:=rX hat;have r1:=(hat.part InsD.qR).rng;have r2:=(hat.part InsD.HB).rng;simp[c0];refine⟨λe1=>hK _ _ ⟨hle1,by simpa[bm,e1]using ia⟩,λe1=>⟨λe2=>?_,λe2=>?_⟩⟩
 ·simp[c1,c2];refine mQ (X:=nothing) (ds:=[d.dst,d.two]) (vs:=[Qy Qz d.dst,Qy Qz d.two]) rfl El.bn Sb ⟨dJ.2 ⟨rfl,r1⟩,dJ.2 ⟨rfl,r2⟩,trivial⟩ dx rfl Q1 λu h2 hle2 hsz2 hu _=>?_;exact hK _ _ ⟨Qx hle1 hle2,by simpa[bm,e2]using hu _ dx (by unfold fresh;rw[if_neg Q1])⟩
 simp[c1];refine mQ (X:=nothing) (ds:=[d.dst]) (vs:=[Qy Qz d.dst]) rfl El.bn Sb ⟨dJ.2 ⟨rfl,r1⟩,trivial⟩ dx rfl Q1 λu h2 hle2 hsz2 hu _=>?_;exact hK _ _ ⟨Qx hle1 hle2,by simpa[bm,e1,e2]using hu _ dx (by unfold fresh;rw[if_neg Q1])⟩
abbrev MW:=Int->Option (Int × Int)
def encW(w:Int × Int):Value:=.agg #[Qy Qz w.1,Qy Qz w.2]
variable{Kb:Nat}
theorem HZ{ps n p:Int}{h:Heap}(h0:aj (vw h) ⟨Kb,0,QC⟩=QB (Qy Qz ps)):
  jr QH N.cY #[QT Kb,Qy Qz n,Qy Qz b,Qy Qz p] h (λ_ h'=>bT n ps 8191=QF/\h'=h) (λch h'=>bT n ps 8191=QG/\ch=trV (11,b,p)/\h'=h):=by
 refine iY (args:=[QT Kb,Qy Qz n,Qy Qz b,Qy Qz p]) follows F.cY E.cY Q9 λK Kp hK hKp=>?_;simp[L.cY,h0];refine ag Q0 kA ?_;rintro _ _ ⟨rfl,rfl⟩;refine dM Q0 iP ?_ ?_
 ·rintro _ _ ⟨e,rfl⟩;exact hK _ _ ⟨e,rfl⟩
 rintro _ _ ⟨e,rfl,rfl⟩;exact⟨.inl rfl,hKp _ _ ⟨e,rfl,rfl⟩⟩
theorem Jp{r:Nat}{m:MW}{n p:Int}{h:Heap}(h2:aj (skip r h) ⟨Kb,2,QC⟩=QB (.map (QB r)))(hm:dI (.int .i64) h r (mapE encW m)):
  jr QH N.da #[QT Kb,Qy Qz n,Qy Qz b,Qy Qz p] h (λ_ h'=>m n=QC/\dI (.int .i64) h' r (mapE encW (putM m n (b,p)))/\Kept h h' (QB r))
   (λch h'=>m n≠QC/\ch=trV (12,b,p)/\Kept h h' (QB r)):=by
 refine iY (args:=[QT Kb,Qy Qz n,Qy Qz b,Qy Qz p]) follows F.da E.da Q9 λK Kp hK hKp=>?_;simp[L.da,ae cj h2];refine mc (z:=zz1) U.fS U.int Q0 (by simp<;>rfl) (by simp<;>rfl) gu hm ?_;simp;refine j6 (n:=2) (z:=zz1) (v:=((m n).map encW).getD (.agg #[Qy Qz 0,Qy Qz 0])) Q0 rfl Q0 (by cases m n<;>rfl) (by cases m n<;>simp[encW,Value.oneCell']) Q4 Q4 λh3 hle3 _ _=>?_;have k3:=Kept.of_le (b:=QB r) hle3;have hm3:=hm.ext hle3;have h23:=ae k3.CW h2;refine dM Q0 iP ?_ ?_
 ·rintro _ _ ⟨e,rfl⟩;simp[h23];refine aQ (z:=zz1) (places:=zpc) (vs:=[(0,Qy Qz b),(1,Qy Qz p)]) (cs:=#[Qy Qz b,Qy Qz p]) Q0 Q0 Sb Q0 ?_;refine nD (v:=encW (b,p)) (.inl rfl) U.fS U.int (by simp<;>rfl) (by simp<;>rfl) (by simp<;>rfl) gu hm3 _ mH.1 mH.2 λh4 hs4 ho4 hm4=>?_;exact hK _ _ ⟨by simpa using e,hm4,k3.trans (Kept.upd hs4 ho4)⟩
 rintro _ _ ⟨e,rfl,rfl⟩;exact⟨.inl rfl,hKp _ _ ⟨(by intro e2;rw[e2]at e;cases e),rfl,k3⟩⟩
def qY(b p:Int)(m:MW)(n:Int):Except Tr MW:=if(m n).isSome then .error (12,b,p) else .ok (putM m n (b,p))
def allS(ps:Int)(l:List Int)(b p:Int)(m:MW):Except Tr MW:=if l.all (λn=>bT n ps 8191) then l.foldlM (qY b p) m else .error (11,b,p)
structure Lk(h:Heap)(Kb r:Nat)(vb:Value)(f:aq)(m:MW):Prop where
 c0:aj (skip r h) ⟨Kb,0,QC⟩=QB (Qy Qz f.params)
 c1:aj (skip r h) ⟨Kb,1,QC⟩=QB vb
 c2:aj (skip r h) ⟨Kb,2,QC⟩=QB (.map (QB r))
 rb:SlRd (skip r h) vb f.blocks
 map:dI (.int .i64) h r (mapE encW m)
theorem Lk.kept{h h':Heap}{Kb r:Nat}{vb:Value}{f:aq}{m m':MW}(k:Lk h Kb r vb f m)(hk:Kept h h' (QB r))(hm:dI (.int .i64) h' r (mapE encW m')):Lk h' Kb r vb f m':=
 ⟨ae hk.skip k.c0,ae hk.skip k.c1,ae hk.skip k.c2,k.rb.mono hk.skip,hm⟩
theorem Lk.ext{h h':Heap}{Kb r:Nat}{vb:Value}{f:aq}{m:MW}(k:Lk h Kb r vb f m)(hle:(vw h).le (vw h')):Lk h' Kb r vb f m:=
 k.kept (Kept.of_le hle) (k.map.ext hle)
theorem GR{r:Nat}{vb vl:Value}{f:aq}{m:MW}{l:List Int}{p:Int}{h:Heap}(k:Lk h Kb r vb f m)(hl:SlRd (skip r h) vl l):
  jr QH N.bI #[QT Kb,vl,Qy Qz b,Qy Qz p] h (λ_ h'=>∃m',allS f.params l b p m = .ok m'/\Lk h' Kb r vb f m'/\Kept h h' (QB r))
   (λch h'=>∃t,allS f.params l b p m = .error t/\ch=trV t/\Kept h h' (QB r)):=by
 refine iY (args:=[QT Kb,vl,Qy Qz b,Qy Qz p]) follows F.bI E.bI Q9 λK Kp hK hKp=>?_;have hlb:=hl.bound;simp[L.bI,hl.len];refine aJ [0,1,2,3,12,13,14] (fun(_:Unit) i=>[QT Kb,vl,Qy Qz b,Qy Qz p,vl,Qy Qz l.length,Qy Qz i]) (λ_ i h1=>h1=h/\∀j,j<i->bT (nth l j) f.params 8191=QF) l.length ()
  rfl Q1 rfl ⟨rfl,λj hj=>by omega⟩ (λ_ _=>rfl) (λv i h1 hk m=>by simp) ?_ ?_
 ·rintro _ i _ hlt ⟨rfl,hpre⟩ K2 hK2;simp(disch:=omega)[hl.idx1 rfl,hl.int cj];refine dM Q0 (HZ (ae cj k.c0)) ?_ ?_
  ·rintro _ _ ⟨e,rfl⟩;refine hK2 () _ _ rfl rfl ⟨rfl,λj hj=>?_⟩;rcases M0 j i with h | h
   ·exact hpre j h
   have:j=i:=by omega
   subst this;exact e
  rintro _ _ ⟨e,rfl,rfl⟩;refine⟨.inl rfl,hKp _ _ ⟨_,?_,rfl,Kept.refl _ _⟩⟩;rw[allS,if_neg];intro ha;rw[N1.1 ha _ (bD hlt)]at e;cases e
 rintro _ h ⟨rfl,hpre⟩;have hall:allS f.params l b p m=l.foldlM (qY b p) m:=by rw[allS,if_pos];rw[N1];intro x hx;obtain⟨j,hj,rfl⟩:=Ni hx;rw[<-ao hj];exact hpre j hj
 rw[hall]at hK hKp;simp[hl.len];refine aJ [0,2,3,24,25,26] (fun(_:Unit) i=>[QT Kb,Qy Qz b,Qy Qz p,vl,Qy Qz l.length,Qy Qz i]) (λ_ i h1=>∃m',(l.take i).foldlM (qY b p) m = .ok m'/\Lk h1 Kb r vb f m'/\Kept h h1 (QB r)) l.length ()
  rfl Q1 rfl ⟨m,rfl,k,Kept.refl _ _⟩ (λ_ _=>rfl) (λv i h1 hk m=>by simp) ?_ ?_
 ·rintro _ i h1 hlt ⟨m1,hm1,k1,kp1⟩ K2 hK2;have hl1:=hl.mono kp1.CW;have hst:=BR hlt hm1;simp(disch:=omega)[hl1.idx1 rfl,hl1.int Qw];refine dM Q0 (Jp k1.c2 k1.map) ?_ ?_
  ·rintro _ h2 ⟨e,hm2,kp2⟩;refine hK2 () _ _ rfl rfl ⟨_,by rw[hst,qY,e];rfl,k1.kept kp2 hm2,kp1.trans kp2⟩
  rintro _ h2 ⟨e,rfl,kp2⟩;refine⟨.inl rfl,hKp _ _ ⟨_,ED (k:=i+1) (by rw[hst,qY,if_pos (Option.isSome_iff_ne_none.2 e)]),rfl,kp1.trans kp2⟩⟩
 rintro _ h1 ⟨m1,hm1,k1,kp1⟩;rw[NQ]at hm1;simp;exact hK _ _ ⟨m1,hm1,k1,kp1⟩
abbrev Sh:=Int × Int × Int × Int
def encS(s:Sh):Value:=.agg #[Qy Qz s.1,Qy Qz s.2.1,Qy Qz s.2.2.1,Qy Qz s.2.2.2]
def gA:Int->Option Sh:=putM (putM (putM (putM (putM (λ_=>QC) 1 (0,0,1,1)) 2 (1,1,2,2)) 3 (1,1,2,65)) 4 (0,1,0,0)) 5 (0,0,0,0)
theorem pL{po:OP}{ty:TypeId}{us:List (Nat × Value)}{h:Heap}{K:Value->Heap->Prop}{a c d:Int}(hk:K (encS (a,b,c,d)) h):
  Lft.step QH (.build T.dz #[(0,.const (Qy Qz a)),(1,.const (Qy Qz b)),(2,.const (Qy Qz c)),(3,.const (Qy Qz d))]) ty us h K:=
 aQ (z:=zz2) (places:=zpb) (vs:=[(0,Qy Qz a),(1,Qy Qz b),(2,Qy Qz c),(3,Qy Qz d)]) (cs:=#[Qy Qz a,Qy Qz b,Qy Qz c,Qy Qz d]) Q0 Q0 (by simp only[List.map_toArray,N8,List.map_nil,xW]) Ri hk
theorem lg{po:OP}{ty:TypeId}{us:List (Nat × Value)}{h:Heap}{K:Value->Heap->Prop}{x y:Operand}{r:Nat}{f:Int->Option Sh}{j:Int}{s:Sh}(hx:asg us x = .map (QB r))(hy:asg us y=encS s)(m:dI (.int .i64) h r (mapE encS f))(hk : ∀h':Heap,Kept h h' (QB r)->dI (.int .i64) h' r (mapE encS (putM f j s))->K undef h'):Lft.step QH (.insert T.dS x (.const (Qy Qz j)) y) ty us h K:=
 nD (v:=encS s) (.inr rfl) U.dS U.int hx rfl hy gu m _ mH.1 mH.2 λh' hs ho hm=>hk h' (Kept.upd hs ho) hm
theorem yb{h:Heap}:aw QH N.eX #[] h (λv h'=>v = .map (QB h.size)/\(vw h).le (vw h')/\dI (.int .i64) h' h.size (mapE encS gA)):=by
 refine ak (args:=[]) follows F.eX E.eX Q9 λK hK=>?_;simp[L.eX];refine kE ?_;have m0:dI (.int .i64) (h.push (.map #[] 0)) h.size (mapE encS λ_=>QC):=by rw[pZ];exact dI.none Sb
 have hle:=bA h (.map #[] 0);generalize h.push (.map #[] 0)=h0 at m0 hle;refine pL (lg (s:=(0,0,1,1)) rfl rfl m0 λh1 k1 m1=>?_);refine pL (lg (s:=(1,1,2,2)) rfl rfl m1 λh2 k2 m2=>?_);refine pL (lg (s:=(1,1,2,65)) rfl rfl m2 λh3 k3 m3=>?_);refine pL (lg (s:=(0,1,0,0)) rfl rfl m3 λh4 k4 m4=>?_);refine pL (lg (s:=(0,0,0,0)) rfl rfl m4 λh5 k5 m5=>?_);refine hK _ _ ⟨rfl,λb o hb=>?_,m5⟩;have hlt:=View.lt (View.le_refl (vw h)) hb;have kk:=(((k1.trans k2).trans k3).trans k4).trans k5;show h5[b]? = _;rw[kk.block b (PV hlt (iB hle)) Q8];exact hle b o hb
def pz(t:cK):Bool:=match gA t.kind with
 | some s=>bT t.args.length s.1 s.2.1&&bT t.to.length s.2.2.1 s.2.2.2
 | none=>QG
def insS(ps b:Int)(x:BlkD)(i:Nat)(m:MW):Except Tr MW:=
 if bT (nth x.ins i).op 1 18&&bT (nth x.ins i).args.length (gL (nth x.ins i).op).1 (gL (nth x.ins i).op).2 then allS ps (bm (nth x.ins i)) b i m else .error (10,b,i)
def phiS(ps b:Int)(x:BlkD)(i:Nat)(m:MW):Except Tr MW:=allS ps [(nth x.phis i).dst] b (-1-i) m
def endS(n b:Int)(x:BlkD)(m:MW):Except Tr MW:=
 if pz x.term then(if x.term.to.all (λt=>bT t 1 (n-1)) then .ok m else .error (14,b,x.ins.length)) else .error (10,b,x.ins.length)
def blkS(f:aq)(b:Nat)(m:MW):Except Tr MW:=
 match upE (phiS f.params b (nth f.blocks b)) (nth f.blocks b).phis.length m with
 | .error t=>.error t
 | .ok m1=>match upE (insS f.params b (nth f.blocks b)) (nth f.blocks b).ins.length m1 with
  | .error t=>.error t
  | .ok m2=>endS f.blocks.length b (nth f.blocks b) m2
def mg(f:aq)(m:MW):Except Tr MW:=upE (blkS f) f.blocks.length m
theorem FJ{r:Nat}{vb:Value}{f:aq}{m:MW}{h:Heap}(k:Lk h Kb r vb f m):
  jr QH N.aP #[QT Kb] h (λ_ h'=>∃m',mg f m = .ok m'/\Lk h' Kb r vb f m'/\Kept h h' (QB r))
   (λch h'=>∃t,mg f m = .error t/\ch=trV t/\Kept h h' (QB r)):=by
 refine iY (args:=[QT Kb]) follows F.aP E.aP Q9 λK Kp hK hKp=>?_;have hbb:=k.rb.bound;simp[L.aP,ae cj k.c1,k.rb.len];refine aJ [0,18,19,20] (fun(_:Unit) b=>[QT Kb,vb,Qy Qz f.blocks.length,Qy Qz b]) (λ_ b h1=>∃m',upE (blkS f) b m = .ok m'/\Lk h1 Kb r vb f m'/\Kept h h1 (QB r)) f.blocks.length ()
  rfl Q1 rfl ⟨m,rfl,k,Kept.refl _ _⟩ (λ_ _=>rfl) (λv i h1 hk m=>by simp) ?_ ?_
 ·rintro _ b h1 hltb ⟨m1,hm1,k1,kp1⟩ K2 hK2;have hst:=nE hm1;have her : ∀{t},blkS f b m1 = .error t->mg f m = .error t:=λe=>yT hm1 hltb e;obtain⟨u,hu,hur⟩:=k1.rb.wh rfl (N:=6) rfl hltb;rw[blkS]at hst her;have hr1:=k1.map.lt;generalize hx:nth f.blocks b=x at hst her hur;refine ab λz hz=>?_;simp(disch:=omega)[k1.rb.idxn (N:=6) rfl,hu _ cj];refine eP (z:=zz3) Q0 rfl Q0 hur Q4 Q4 λh2 hle2 hsz2 hat=>?_;have k2:=k1.ext hle2;have kp2:=kp1.trans (Kept.of_le hle2);have hat2:=hat (skip r h2) (Kept.of_le hle2).skip (j8 Q1);obtain⟨vp,vi,va,vt,bp,bi,bk,ba,bt⟩:=nZ hat2;generalize h1.size=B at bp bi bk ba bt;subst hz;refine ab λz hz=>?_;simp[ae cj bp.1,bp.2.len];have bph:=bp.2.bound;have bin:=bi.2.bound;have bto:=bt.2.bound;refine aJ [0,2,3,18,19,20,26,27,28] (fun(_:Unit) i=>[QT Kb,Qy Qz b,QT B,vb,Qy Qz f.blocks.length,Qy Qz b,vp,Qy Qz x.phis.length,Qy Qz i])
   (λ_ i h3=>∃m',upE (phiS f.params b x) i m1 = .ok m'/\Lk h3 Kb r vb f m'/\Kept h2 h3 (QB r)) x.phis.length ()
   rfl Q1 rfl ⟨m1,rfl,k2,Kept.refl _ _⟩ (λ_ _=>rfl) (λv i h1 hk m=>by simp) ?_ ?_
  ·rintro _ i h3 hlti ⟨m3,hm3,k3,kp3⟩ K3 hK3;have bp3:=bp.2.mono kp3.skip;obtain⟨u5,hu5,hur5⟩:=bp3.wh rfl (N:=2) rfl hlti;have hr3:=k3.map.lt;have hst3:=nE hm3;have her3 : ∀{t},phiS f.params b x i m3 = .error t->upE (phiS f.params b x) x.phis.length m1 = .error t:=λe=>yT hm3 hlti e;rw[phiS]at hst3 her3;refine ab λy hy=>?_;simp(disch:=omega)[bp3.idxn (N:=2) rfl,hu5 _ cj];refine eP (z:=zz4) Q0 rfl Q0 hur5 Q4 Q4 λh4 hle4 hsz4 hat4=>?_;have hat4':=hat4 (skip r h4) (Kept.of_le hle4).skip (j8 Q1);obtain⟨c0,_⟩:=y0 hat4';have rd:=(hat4'.part PhiD.qR).rng;generalize nth x.phis i=q at c0 rd hst3 her3;generalize h3.size=B3 at c0;subst hy;simp[ae cj c0];refine mQ (X:=nothing) (ds:=[q.dst]) (vs:=[Qy Qz q.dst]) rfl El.bn Sb ⟨dJ.2 ⟨rfl,rd⟩,trivial⟩ dx rfl Q1 λu6 h5 hle5 hsz5 hu6 _=>?_;have k5:=(k3.ext hle4).ext hle5;have kp5:=(kp3.trans (Kept.of_le hle4)).trans (Kept.of_le hle5);have hr5:=k5.map.lt;simp(disch:=omega);refine dM Q0 (GR k5 (hu6 _ dx (j8 Q1))) ?_ ?_
   ·rintro _ h6 ⟨m6,hm6,k6,kp6⟩;exact hK3 () _ _ rfl rfl ⟨m6,by rw[hst3,hm6],k6,kp5.trans kp6⟩
   rintro _ h6 ⟨t,ht,rfl,kp6⟩;exact⟨.inl rfl,hKp _ _ ⟨t,her (by rw[her3 ht]),rfl,(kp2.trans kp5).trans kp6⟩⟩
  rintro _ h3 ⟨m3,hm3,k3,kp3⟩;simp only[hm3]at hst her;simp;subst hz;refine ab λz hz=>?_;have bi3:=bi.2.mono kp3.skip;have ci3:=ae kp3.CW bi.1;have kp03:=kp2.trans kp3;simp[ci3,bi3.len];refine aJ [0,2,3,18,19,20,43,44,45] (fun(_:Unit) i=>[QT Kb,Qy Qz b,QT B,vb,Qy Qz f.blocks.length,Qy Qz b,vi,Qy Qz x.ins.length,Qy Qz i])
   (λ_ i h4=>∃m',upE (insS f.params b x) i m3 = .ok m'/\Lk h4 Kb r vb f m'/\Kept h3 h4 (QB r)) x.ins.length ()
   rfl Q1 rfl ⟨m3,rfl,k3,Kept.refl _ _⟩ (λ_ _=>rfl) (λv i h1 hk m=>by simp) ?_ ?_
  ·rintro _ i h4 hlti ⟨m4,hm4,k4,kp4⟩ K3 hK3;have bi4:=bi3.mono kp4.skip;obtain⟨u5,hu5,hur5⟩:=bi4.wh rfl (N:=5) rfl hlti;have hr4:=k4.map.lt;have hst4:=nE hm4;have her4 : ∀{t},insS f.params b x i m4 = .error t->upE (insS f.params b x) x.ins.length m3 = .error t:=λe=>yT hm4 hlti e;rw[insS]at hst4 her4;refine ab λy hy=>?_;simp(disch:=omega)[bi4.idxn (N:=5) rfl,hu5 _ cj];refine eP (z:=zz5) Q0 rfl Q0 hur5 Q4 Q4 λh5 hle5 hsz5 hat5=>?_;have hat5':=hat5 (skip r h5) (Kept.of_le hle5).skip (j8 Q1);obtain⟨c0,c1,c2,va5,ca5⟩:=rX hat5';have k5:=k4.ext hle5;have kp5:=kp4.trans (Kept.of_le hle5);have whole : ∃w,Un.ev (vw h5) (.ax 5) (QT h4.size)=QB w/\Rd (vw h5) w (nth x.ins i):=by obtain⟨w,w1,w2⟩:=(hat5'.mono cj).ax rfl;exact⟨w,w1,w2⟩
   obtain⟨w,w1,w2⟩:=whole;generalize nth x.ins i=q at c0 c1 c2 ca5 hst4 her4 w2;generalize h4.size=B4 at c0 c1 c2 ca5 w1;subst hy;refine ab λy hy=>?_;simp[ae cj c0];refine ag Q0 kA ?_;rintro _ _ ⟨rfl,rfl⟩;refine dM Q0 iP ?_ ?_;rotate_left
   ·rintro _ _ ⟨e,rfl,rfl⟩;exact⟨.inl rfl,hKp _ _ ⟨_,her (by rw[her4 (by rw[if_neg (by simp[e])])]),rfl,kp03.trans kp5⟩⟩
   rintro _ _ ⟨e1,rfl⟩;subst hy;refine ab λy hy=>?_;simp[ae cj c0];refine ag Q0 Ay ?_;rintro _ _ ⟨rfl,rfl⟩;simp;subst hy;refine ab λy hy=>?_;simp[ae cj ca5.1,ca5.2.len];refine ag Q0 kA ?_;rintro _ _ ⟨rfl,rfl⟩;refine dM Q0 iP ?_ ?_;rotate_left
   ·rintro _ _ ⟨e,rfl,rfl⟩;exact⟨.inl rfl,hKp _ _ ⟨_,her (by rw[her4 (by rw[if_neg (by simp[e])])]),rfl,kp03.trans kp5⟩⟩
   rintro _ _ ⟨e2,rfl⟩;subst hy;simp[w1];refine ag Q0 (HL w2) ?_;rintro u6 h6 ⟨hle6,hu6⟩;have k6:=k5.ext hle6;have kp6:=kp5.trans (Kept.of_le hle6);rw[if_pos (by simp[e1,e2])]at hst4 her4;have hr5:=k5.map.lt;refine dM Q0 (GR k6 (hu6.mono λb o hb=>?_)) ?_ ?_
   ·unfold fresh at hb;unfold Lft.skip;split at hb
    ·cases hb
    rw[if_neg Q1];exact hb
   ·rintro _ h7 ⟨m7,hm7,k7,kp7⟩;exact hK3 () _ _ rfl rfl ⟨m7,by rw[hst4,hm7],k7,kp6.trans kp7⟩
   rintro _ h7 ⟨t,ht,rfl,kp7⟩;exact⟨.inl rfl,hKp _ _ ⟨t,her (by rw[her4 ht]),rfl,(kp03.trans kp6).trans kp7⟩⟩
  rintro _ h4 ⟨m4,hm4,k4,kp4⟩;simp only[hm4]at hst her;simp;subst hz;refine ab λz hz=>?_;have kp24:=kp3.trans kp4;have hr4:=k4.map.lt;have ck4:=ae kp24.skip bk;have hc : ∀{h5:Heap},Kept h4 h5 (QB r)->(skip r h4).le (vw h5):=λhk=>hk.CW;have cellsS : ∀o:Option Sh,((o.map encS).getD (.agg #[Qy Qz 0,Qy Qz 0,Qy Qz 0,Qy Qz 0]))=encS (o.getD (0,0,0,0)):=λo=>by cases o<;>rfl
  have hone : ∀s:Sh,∀c∈(encS s).cells.toList,c.oneCell'=true:=λs=>by simp[encS,Value.oneCell']
  refine zo (λρ h5=>∃(B5:Nat) (v79 v83:Value) (tl:Env),ρ=[(0,QT Kb),(2,Qy Qz b),(3,QT B),(10,QT B5),(11,.bool (gA x.term.kind).isSome),(18,vb),(19,Qy Qz f.blocks.length),(20,Qy Qz b),(43,vi),
    (44,Qy Qz x.ins.length),(45,Qy Qz x.ins.length),(79,v79),(82,Qy Qz x.term.kind),(83,v83)]++tl/\Lk h5 Kb r vb f m4/\Kept h4 h5 (QB r)/\B5≠r/\h5[B5]? = QB (.cells (encS ((gA x.term.kind).getD (0,0,0,0))).cells T.dz (0,0))) ?_ ?_
  ·intro K3 hK3;refine bz (skip r h4) cj ?_;simp[ck4];refine⟨?_,?_⟩
   ·refine ag Q0 yb ?_;rintro _ h5 ⟨rfl,hle5,hm5⟩;have hs5:=iB hle5;refine⟨hc (Kept.of_le hle5),?_,?_⟩
    ·refine mc (z:=zz2) U.dS U.int Q0 (by simp<;>rfl) (by simp<;>rfl) gu hm5 ?_;rw[ly,cellsS,Qa];simp;refine j6 (n:=4) (v:=encS ((gA x.term.kind).getD (0,0,0,0))) (z:=zz2) Q0 rfl Q0 rfl (hone _) Q4 Q4 λh6 hle6 hsz6 hb6=>?_;exact hK3 _ _ ⟨_,_,_,_,rfl,(k4.ext hle5).ext hle6,(Kept.of_le hle5).trans (Kept.of_le hle6),by omega,hb6⟩
    refine fF (z:=zz2) Q0 ?_;have hle6:=bA h5 (.cells (Value.cells (.agg #[Qy Qz 0,Qy Qz 0,Qy Qz 0,Qy Qz 0])) T.dz);have hb6:(h5.push (.cells (Value.cells (.agg #[Qy Qz 0,Qy Qz 0,Qy Qz 0,Qy Qz 0])) T.dz))[h5.size]? = QB (.cells (Value.cells (.agg #[Qy Qz 0,Qy Qz 0,Qy Qz 0,Qy Qz 0])) T.dz (0,0)):=by simp
    have hs6:(h5.push (.cells (Value.cells (.agg #[Qy Qz 0,Qy Qz 0,Qy Qz 0,Qy Qz 0])) T.dz)).size=h5.size+1:=by simp
    generalize h5.push (.cells (Value.cells (.agg #[Qy Qz 0,Qy Qz 0,Qy Qz 0,Qy Qz 0])) T.dz)=h6 at hle6 hb6 hs6;refine⟨hc ((Kept.of_le hle5).trans (Kept.of_le hle6)),?_⟩;refine mc (z:=zz2) U.dS U.int Q0 (by simp<;>rfl) (by simp<;>rfl) gu (hm5.ext hle6) ?_;rw[ly,cellsS,Qa];simp;refine ey (g:=h5.size) (o:=0) (n:=4) (v:=encS ((gA x.term.kind).getD (0,0,0,0))) Q0 rfl rfl rfl (hone _) hb6 Sb λh7 hs7 ⟨row,hb7,hrow⟩ ho7=>?_;have hrow2:row=(encS ((gA x.term.kind).getD (0,0,0,0))).cells:=by rw[<-Array.toList_inj,hrow];simp
    rw[hrow2]at hb7;have kp7:Kept h4 h7 (QB r):=⟨by omega,λq hq hne=>by rw[ho7 q Q1];exact hle6 _ _ (hle5 _ _ (Nt hq)) |>.trans (Nt hq).symm⟩;exact hK3 _ _ ⟨_,_,_,_,rfl,k4.kept kp7 (((k4.map.ext hle5).ext hle6).same (ho7 r Q1)),kp7,by omega,hb7⟩
   refine fF (z:=zz2) Q0 ?_;have hle5:=bA h4 (.cells (Value.cells (.agg #[Qy Qz 0,Qy Qz 0,Qy Qz 0,Qy Qz 0])) T.dz);have hb5:(h4.push (.cells (Value.cells (.agg #[Qy Qz 0,Qy Qz 0,Qy Qz 0,Qy Qz 0])) T.dz))[h4.size]? = QB (.cells (Value.cells (.agg #[Qy Qz 0,Qy Qz 0,Qy Qz 0,Qy Qz 0])) T.dz (0,0)):=by simp
   have hs5:(h4.push (.cells (Value.cells (.agg #[Qy Qz 0,Qy Qz 0,Qy Qz 0,Qy Qz 0])) T.dz)).size=h4.size+1:=by simp
   generalize h4.push (.cells (Value.cells (.agg #[Qy Qz 0,Qy Qz 0,Qy Qz 0,Qy Qz 0])) T.dz)=h5 at hle5 hb5 hs5;refine⟨hc (Kept.of_le hle5),?_⟩;refine ag Q0 yb ?_;rintro _ h6 ⟨rfl,hle6,hm6⟩;have hs6:=iB hle6;refine⟨hc ((Kept.of_le hle5).trans (Kept.of_le hle6)),?_⟩;refine mc (z:=zz2) U.dS U.int Q0 (by simp<;>rfl) (by simp<;>rfl) gu hm6 ?_;rw[ly,cellsS,Qa];simp;refine ey (g:=h4.size) (o:=0) (n:=4) (v:=encS ((gA x.term.kind).getD (0,0,0,0))) Q0 rfl rfl rfl (hone _) (hle6 _ _ hb5) Sb λh7 hs7 ⟨row,hb7,hrow⟩ ho7=>?_;have hrow2:row=(encS ((gA x.term.kind).getD (0,0,0,0))).cells:=by rw[<-Array.toList_inj,hrow];simp
   rw[hrow2]at hb7;have kp7:Kept h4 h7 (QB r):=⟨by omega,λq hq hne=>by rw[ho7 q Q1];exact hle6 _ _ (hle5 _ _ (Nt hq)) |>.trans (Nt hq).symm⟩;exact hK3 _ _ ⟨_,_,_,_,rfl,k4.kept kp7 (((k4.map.ext hle5).ext hle6).same (ho7 r Q1)),kp7,by omega,hb7⟩
  rintro ρ h5 ⟨B5,v79,v83,tl,rfl,k5,kp5,hB5,hb5⟩;subst hz;refine ab λz hz=>?_;have kp25:=kp24.trans kp5;have ci5:=ae kp25.skip bi.1;have bi5:=bi.2.mono kp25.skip;have ca5:=ae kp25.skip ba.1;have ba5:=ba.2.mono kp25.skip;have ct5:=ae kp25.skip bt.1;have bt5:=bt.2.mono kp25.skip;have hb5':skip r h5 B5=QB (.cells (encS ((gA x.term.kind).getD (0,0,0,0))).cells T.dz (0,0)):=by rw[j8 hB5];exact hb5
  generalize hsh:(gA x.term.kind).getD (0,0,0,0)=s at hb5';have d0:aj (skip r h5) ⟨B5,0,QC⟩=QB (Qy Qz s.1):=bV hb5' rfl;have d1:aj (skip r h5) ⟨B5,1,QC⟩=QB (Qy Qz s.2.1):=bV hb5' rfl;have d2:aj (skip r h5) ⟨B5,2,QC⟩=QB (Qy Qz s.2.2.1):=bV hb5' rfl;have d3:aj (skip r h5) ⟨B5,3,QC⟩=QB (Qy Qz s.2.2.2):=bV hb5' rfl;have hto:pz x.term=((gA x.term.kind).isSome&&(bT x.term.args.length s.1 s.2.1&&bT x.term.to.length s.2.2.1 s.2.2.2)):=by rw[pz,<-hsh];cases gA x.term.kind<;>rfl
  refine bz (skip r h5) cj ?_;have bad:pz x.term=QG->∀ch,ch=trV (10,(b:Int),(x.ins.length:Int))->Kp ch h5:=λe ch hch=>hKp _ _ ⟨_,her (by rw[endS,if_neg (by simp[e])]),hch,kp03.trans (kp4.trans kp5)⟩;have good:pz x.term=QF->∀tl:Env,@LC.wp (ppOf Kp) QH z (dU 1 (fN K2 (dU 0 (@fu [] K)))) ([(0,QT Kb),(2,Qy Qz b),(3,QT B),(10,QT B5),(11,.bool QF),(18,vb),(19,Qy Qz f.blocks.length),(20,Qy Qz b),(43,vi),
   (44,Qy Qz x.ins.length),(45,Qy Qz x.ins.length),(79,v79),(82,Qy Qz x.term.kind),(83,v83)]++tl) h5:=by
   intro hgood tl;subst hz;have ct5':=ae cj ct5;have cb5:=k5.c1;have hne:0<f.blocks.length:=by omega
   simp[ct5',bt5.len];refine aJ [0,2,3,18,19,20,116,117,118] (fun(_:Unit) i=>[QT Kb,Qy Qz b,QT B,vb,Qy Qz f.blocks.length,Qy Qz b,vt,Qy Qz x.term.to.length,Qy Qz i])
    (λ_ i h6=>h6=h5/\∀j,j<i->bT (nth x.term.to j) 1 (f.blocks.length-1)=QF) x.term.to.length ()
    rfl Q1 (by simp[bh,ar,au]) ⟨rfl,λj hj=>by omega⟩ (λ_ _=>rfl) (λv i h1 hk m=>by simp) ?_ ?_
   ·rintro _ i h5 hlti ⟨rfl,hpre⟩ K3 hK3;refine ab λy hy=>?_;simp(disch:=omega)[bt5.idx1 rfl,bt5.int cj];subst hy;refine bz (skip r h5) cj ?_;simp(disch:=omega)[ci5,bi5.len,cb5,k5.rb.len];refine ag Q0 kA ?_;rintro _ _ ⟨rfl,rfl⟩;refine⟨cj,?_⟩;refine dM Q0 iP ?_ ?_
    ·rintro _ _ ⟨e,rfl⟩;refine hK3 () _ _ rfl rfl ⟨rfl,λj hj=>?_⟩;rcases M0 j i with h | h
     ·exact hpre j h
     have:j=i:=by omega
     subst this;exact e
    rintro ch _ ⟨e,hch,rfl⟩;refine⟨.inr λ_=>trivial,hKp _ _ ⟨_,her ?_,hch,kp03.trans (kp4.trans kp5)⟩⟩;rw[endS,if_pos hgood,if_neg];intro ha;rw[N1.1 ha _ (bD hlti)]at e;cases e
   rintro _ h5 ⟨rfl,hpre⟩;simp;refine hK2 () _ _ rfl rfl ⟨m4,?_,k5,kp03.trans (kp4.trans kp5)⟩;rw[hst,endS,if_pos hgood,if_pos];rw[N1];intro y hy;obtain⟨j,hj,rfl⟩:=Ni hy;rw[<-ao hj];exact hpre j hj
  cases hso:(gA x.term.kind).isSome with
  | false=>
   simp[ci5,bi5.len,d0,d1,d2,d3,ca5,ba5.len,ct5,bt5.len,ar,au];refine dM Q0 iP ?_ ?_
   ·rintro _ _ ⟨e,_⟩;cases e
   rintro ch _ ⟨_,hch,rfl⟩;exact⟨.inr λ_=>trivial,bad (by rw[hto,hso];rfl) _ hch⟩
  | true=>
   rw[hso,Qc]at hto;simp[ci5,bi5.len,d0,d1,d2,d3,ca5,ba5.len,ct5,bt5.len,ar,au];refine ag Q0 kA ?_;rintro _ _ ⟨rfl,rfl⟩;refine⟨cj,?_⟩;cases hw1:bT x.term.args.length s.1 s.2.1 with
   | false=>
    simp[ar,au];refine dM Q0 iP ?_ ?_
    ·rintro _ _ ⟨e,_⟩;cases e
    rintro ch _ ⟨_,hch,rfl⟩;exact⟨.inr λ_=>trivial,bad (by rw[hto,hw1];rfl) _ hch⟩
   | true=>
    simp[ar,au];refine ag Q0 kA ?_;rintro _ _ ⟨rfl,rfl⟩;refine⟨cj,?_⟩;refine dM Q0 iP ?_ ?_
    ·rintro _ _ ⟨e,rfl⟩;exact good (by rw[hto,hw1,e];rfl) _
    rintro ch _ ⟨e,hch,rfl⟩;exact⟨.inr λ_=>trivial,bad (by rw[hto,hw1,e];rfl) _ hch⟩
 rintro _ h1 ⟨m1,hm1,k1,kp1⟩;simp;exact hK _ _ ⟨m1,hm1,k1,kp1⟩
theorem qL : ∀{a b:List Int},a.Pairwise (· < ·)->b.Pairwise (· < ·)->(∀x,x∈a↔x∈b)->a=b
 | [],[],_,_,_=>rfl
 | [],y::b,_,_,h=>by have:=(h y).2 (Ng ..);cases this
 | x::a,[],_,_,h=>by have:=(h x).1 (Ng ..);cases this
 | x::a,y::b,ha,hb,h=>by
  obtain⟨a1,a2⟩:=Px.1 ha;obtain⟨b1,b2⟩:=Px.1 hb;have e:x=y:=by
   rcases Nu.1 ((h x).1 (Ng ..))with e | h1
   ·exact e
   rcases Nu.1 ((h y).2 (Ng ..))with e | h2
   ·exact e.symm
   have:=a1 y h2;have:=b1 x h1;omega
  subst e;rw[qL a2 b2 λz=>?_];constructor
  ·intro hz;rcases Nu.1 ((h z).1 (Nf _ hz))with e | h1
   ·have:=a1 z hz;omega
   exact h1
  intro hz;rcases Nu.1 ((h z).2 (Nf _ hz))with e | h1
  ·have:=b1 z hz;omega
  exact h1
theorem zp(l:List Int):(pJ l).Pairwise (·<=·):=by have:=Qh (le:=λx y:Int=>decide (x<=y)) (λa b c h1 h2=>by simp at *;omega) (λa b=>by simp;omega) l;exact this.imp λh=>by simpa using h
theorem get!_nth{l:List Int}{i:Nat}:l.toArray[i]! = nth l i:=by simp[nth,List.getD_eq_getElem?_getD]
theorem xt{l:List Int}(hs:l.Pairwise (·<=·)){i j:Nat}(hij:i<=j)(hj:j<l.length):nth l i<=nth l j:=by
 rw[ao Q1,ao hj];rcases M0 i j with h | h
 ·exact List.pairwise_iff_getElem.1 hs i j Q1 hj h
 have:i=j:=by omega
 subst this;exact NP _
theorem wO{l:List Int}(hs:l.Pairwise (·<=·)):(Lib.compact l).Pairwise (· < ·):=by unfold Lib.compact Lib.compactUpTo;rw[Pl,List.pairwise_filter];refine(Qk (n:=l.length)).imp_of_mem fun{i j} hi hj hij ki kj=>?_;simp only[N0]at hi hj;simp only[Lib.keeps,get!_nth,decide_eq_true_eq]at kj;rw[get!_nth,get!_nth];have h1:=xt hs (i:=i) (j:=j-1) Q1 Q1;have h2:=xt hs (i:=j-1) (j:=j) Q1 hj;rcases kj with h | h<;>omega
theorem uU{l:List Int}{x:Int}:x∈Lib.compact l↔x∈l:=by
 refine⟨pC,λhx=>?_⟩;obtain⟨j,hj,rfl⟩:=Ni hx;have key : ∀j,j<l.length->nth l j∈Lib.compact l:=by
  intro j;induction j with
  | zero=>intro h;unfold Lib.compact Lib.compactUpTo;refine ND.2 ⟨0,ON.2 ⟨by simpa using h,by simp[Lib.keeps]⟩,get!_nth⟩
  | succ j ih=>
   intro h;by_cases he:nth l (j+1)=nth l j
   ·rw[he];exact ih Q1
   unfold Lib.compact Lib.compactUpTo;refine ND.2 ⟨j+1,ON.2 ⟨by simpa using h,by simp only[Lib.keeps,get!_nth,decide_eq_true_eq];exact .inr (by simpa using he)⟩,get!_nth⟩
 rw[<-ao hj];exact key j hj
theorem oJ{β:Type}{p:Nat->Bool}{x:Nat->β}{y:β}:y∈sift p x n↔∃i,i<n/\p i=QF/\x i=y:=by rw[mR];simp[and_assoc]
theorem zd{row:List Int}{n:Int}:(lH row n).Pairwise (· < ·):=wO (zp _)
theorem tz{row:List Int}{n x:Int}:x∈lH row n↔x∈row/\0<=x/\x<n:=by
 rw[lH,uU,pJ,PZ,oJ];simp only[oS,M8,decide_eq_true_eq];constructor
 ·rintro⟨i,hi,h,rfl⟩;exact⟨bD hi,h⟩
 rintro⟨h,h1⟩;obtain⟨i,hi,rfl⟩:=Ni h;exact⟨i,hi,by rw[ao hi];exact h1,ao hi⟩
theorem fj{g:Gr}{a:Int}:gX g a b=QF↔(0<=a/\a<g.length/\0<=b/\b<g.length)/\b∈nth g a.toNat:=by simp[gX]
theorem pg{p:Nat->Bool}:(sift p (λb=>(b:Int)) n).Pairwise (· < ·):=by rw[mR,Pl,List.pairwise_filter];exact Qk.imp λh _ _=>by omega
theorem fL{g:Gr}{a:Int}:b∈fg g a↔gX g a b=true:=by
 rw[fg,oJ];constructor
 ·rintro⟨i,_,h,rfl⟩;exact h
 intro h;have:=(fj.1 h).1;exact⟨b.toNat,by omega,by rw[Nj Q1];exact h,Nj Q1⟩
theorem nY{g:Gr}{a:Int}:(fg g a).Pairwise (· < ·):=pg
theorem mz{g:Gr}{a:Nat}(ha:a<g.length):nth (cA g) a=fg g a:=by rw[cA,eF ha];refine qL zd nY λx=>?_;rw[tz,fL,fj,M9];exact⟨λ⟨h1,h2,h3⟩=>⟨⟨by omega,by omega,h2,h3⟩,h1⟩,λ⟨⟨_,_,h2,h3⟩,h1⟩=>⟨h1,h2,h3⟩⟩
theorem Ac{f k:Nat->List Int}(h : ∀a,a<n->f a=k a):iZ f n=iZ k n:=by
 induction n with
 | zero=>rfl
 | succ n ih=>rw[hZ,hZ,ih λa ha=>h a Q1,h n Q1]
theorem nr{g:Gr}:fC g=iZ (λa=>fg g a) g.length:=Ac λa ha=>mz ha
theorem D6{g:Gr}{e:Int × Int}:e∈fC g↔gX g e.1 e.2=true:=by
 rw[nr,iZ,Om];simp only[N0,ND];constructor
 ·rintro⟨a,ha,b,hb,rfl⟩;exact fL.1 hb
 intro h;have:=(fj.1 h).1;exact⟨e.1.toNat,by omega,e.2,fL.2 (by rw[Nj Q1];exact h),by rw[Nj Q1]⟩
theorem FG{l:List (Int × Int)}: ∀{p:Gr} {i:Nat},i<p.length->nth (l.foldl fw p) i=nth p i++(l.filter λe=>decide (e.2.toNat=i)).map Prod.fst:=by
 induction l with
 | nil=>intro p i _;simp
 | cons e l ih=>
  intro p i hi;rw[NF,ih (by simpa[fw]using hi),fw,aK hi,Pq];split
  ·rename_i h;simp[h]
  rename_i h;simp[h]
theorem filter_one{l:List Int}(hs:l.Pairwise (· < ·)):l.filter (λx=>decide (x=b))=if b∈l then[b] else[]:=by
 induction l with
 | nil=>simp
 | cons x l ih=>
  obtain⟨h1,h2⟩:=Px.1 hs;rw[Pq,ih h2];by_cases hx:x=b
  ·subst hx;have:¬x∈l:=λh=>by have:=h1 x h;omega
   simp[this]
  simp[hx,Ne.symm hx]
theorem GO{f:Nat->List Int}(hf : ∀a,(f a).Pairwise (· < ·))(hp : ∀a,∀x∈f a,0<=x){b:Nat}:((iZ f n).filter λe=>decide (e.2.toNat=b)).map Prod.fst=sift (λa=>decide ((b:Int)∈f a)) (λa=>(a:Int)) n:=by
 induction n with
 | zero=>rfl
 | succ n ih=>
  rw[hZ,O7,Ov,ih];have e1:((f n).map λb=>((n:Int),b)).filter (λe=>decide (e.2.toNat=b))=((f n).filter λx=>decide (x=(b:Int))).map λb=>((n:Int),b):=by rw[Qq];congr 1;refine PD λx hx=>?_;have:=hp n x hx;simp only[Function.comp,decide_eq_decide];omega
  rw[e1,filter_one (hf n)];by_cases h:(b:Int)∈f n
  ·rw[if_pos h,nH (by simpa using h)];rfl
  rw[if_neg h,mB (by simpa using h)];simp
theorem pK{g:Gr}:(cw g).length=g.length:=by rw[cw,mA];simp
theorem pQ{g:Gr}:cw g=kG g:=by
 refine yH (by rw[pK,Cj]) λb hb=>?_;rw[pK]at hb;rw[cw,FG (by simpa using hb),ay hb,NT,kG,eF hb,nr,GO (λ_=>nY) (λa x hx=>by have:=(fj.1 (fL.1 hx)).1;omega)];have e:(λa:Nat=>decide ((b:Int)∈fg g a))=λa:Nat=>gX g a b:=by funext a;rw[NH];simp[fL]
 rw[e]
theorem DY{g:Gr}{a:Int}(hb:0<=b/\b<g.length):a∈nth (cw g) b.toNat↔gX g a b=true:=by
 rw[pQ,kG,eF Q1,oJ];constructor
 ·rintro⟨i,_,h,rfl⟩;rwa [Nj hb.1]at h
 intro h;have:=(fj.1 h).1;exact⟨a.toNat,by omega,by rw[Nj Q1,Nj Q1];exact h,Nj Q1⟩
structure Le(x y:List Bool):Prop where
 len:y.length=x.length
 le : ∀i,nth x i=QF->nth y i=QF
theorem Le.refl(x:List Bool):Le x x:=⟨rfl,λ_ h=>h⟩
theorem Le.trans{x y z:List Bool}(h:Le x y)(k:Le y z):Le x z:=⟨k.len.trans h.len,λi e=>k.le i (h.le i e)⟩
theorem Le.antisymm{x y:List Bool}(h:Le x y)(k:Le y x):x=y:=by refine yH h.len.symm λi _=>?_;rw[NH];exact⟨h.le i,k.le i⟩
theorem Le.df : ∀{x y:List Bool},Le x y->x=y\/df y<df x
 | [],y,h=>.inl (Nl h.len).symm
 | a::x,y,h=>by
  match y,h with
  | [],h=>have:=h.len;simp at this
  | b::y,h=>
   have h2:Le x y:=⟨by simpa using h.len,λi e=>by have:=h.le (i+1);simpa[nth]using this (by simpa[nth]using e)⟩;have h0:a=QF->b=true:=λe=>by have:=h.le 0;simpa[nth]using this (by simpa[nth]using e)
   unfold Go.Lft.df;rcases h2.df with rfl | h3
   ·cases a<;>cases b<;>simp at h0 ⊢
   unfold Go.Lft.df at h3;cases a<;>cases b<;>simp at h0 ⊢<;>omega
theorem KJ{x:List Bool}{i:Nat}{b:Bool}(hb:nth x i=QF->b=QF):Le x (x.set i b):=by
 refine⟨by simp,λj hj=>?_⟩;rcases M0 j x.length with h | h
 ·rw[aK h];split
  ·rename_i e;subst e;exact hb hj
  exact hj
 rw[aW h]at hj;cases hj
theorem yt{f:Nat->List Bool->List Bool}(hf : ∀k x,Le x (f k x))(x:List Bool) : ∀n m,n<=m->Le (up f n x) (up f m x)
  | n,0,h=>by
                  obtain rfl:n=0:=by omega
                  exact Le.refl _
  | n,m+1,h=>by
    rcases M0 n (m+1)with h1 | h1
    · exact(yt hf x n m Q1).trans (hf m _)
    · obtain rfl:n=m+1:=by omega
      exact Le.refl _
theorem JH{f:Nat->List Bool->List Bool}(hf : ∀k x,Le x (f k x)){x:List Bool}(h:up f n x=x): ∀k,k<n->f k x=x:=by
 have key : ∀k,k<=n->up f k x=x:=λk hk=>by have h1:=yt hf x k n hk;rw[h]at h1;have h2:=yt hf x 0 k (OL _);exact(h2.antisymm h1).symm
 intro k hk;have h1:=key (k+1) Q1;rw[up,key k Q1]at h1;exact h1
theorem BF{β:Type}{F:β->β} : ∀(n:Nat) (x:β),up (λ_=>F) (n+1) x=up (λ_=>F) n (F x)
 | 0,x=>rfl
 | n+1,x=>by show F (up (λ_=>F) (n+1) x)=F (up (λ_=>F) n (F x));rw[BF n x]
theorem Ag{β:Type}{F:β->β}{x:β}(h:F x=x) : ∀n,up (λ_=>F) n x=x
 | 0=>rfl
 | n+1=>by show F (up (λ_=>F) n x)=x;rw[Ag h n,h]
theorem Ft{F:List Bool->List Bool}(hF : ∀x,Le x (F x)) : ∀(n:Nat) (x:List Bool),df x<=n->F (up (λ_=>F) n x)=up (λ_=>F) n x
 | 0,x,h=>by
  rcases(hF x).df with e | e
  ·exact e.symm
  omega
 | n+1,x,h=>by
  rw[BF];rcases(hF x).df with e | e
  ·rw[<-e,Ag e.symm];exact e.symm
  exact Ft hF n _ Q1
inductive Re(g:Gr)(gone:Int):Nat->Prop
 | root:0<g.length->gone≠0->Re g gone 0
 | step {a b:Nat}:Re g gone a->gX g a b=QF->(b:Int)≠gone->Re g gone b
theorem Re.lt{g:Gr}{gone:Int}{b:Nat}(h:Re g gone b):b<g.length:=by
 cases h with
 | root h _=>exact h
 | step _ h _=>have:=(fj.1 h).1;omega
variable{gone:Int}
theorem Re.ne{g:Gr}{b:Nat}(h:Re g gone b):(b:Int)≠gone:=by
 cases h with
 | root _ h=>exact λe=>h e.symm
 | step _ _ h=>exact h
theorem Re.all{g:Gr}{b:Nat}(h:Re g gone b):Re g (-1) b:=by
 induction h with
 | root h _=>exact .root h Q2
 | step _ h _ ih=>exact .step ih h Q1
theorem wT{l:List Int}{i:Nat}{x:List Bool}:Le x (ve gone l i x):=KJ λh=>by rw[h];rfl
theorem uG{g:Gr}{a:Nat}{x:List Bool}:Le x (outBlock g gone a x):=by
 unfold outBlock;split
 ·exact yt (λk x=>wT) x 0 _ (OL _)
 exact Le.refl _
theorem uk{g:Gr}{x:List Bool}:Le x (nu g gone x):=yt (λk x=>uG) x 0 _ (OL _)
theorem zc{β:Type}(I:β->Prop){f:Nat->β->β}(hf : ∀k x,k<n->I x->I (f k x)){x:β}(hx:I x):I (up f n x):=by
 have : ∀m,m<=n->I (up f m x):=by
  intro m;induction m with
  | zero=>exact λ_=>hx
  | succ m ih=>exact λh=>hf _ _ Q1 (ih Q1)
 exact this n (MY _)
theorem y6{g:Gr}{b:Nat}:nth (nF g gone) b=QF↔Re g gone b:=by
 by_cases h0:g.length=0\/gone=0
 ·rw[nF,if_pos h0];constructor
  ·intro h;rcases M0 b g.length with h1 | h1
   ·rw[ay h1]at h;cases h
   rw[aW (by simpa using h1)]at h;cases h
  intro h;exfalso;induction h with
  | root h1 h2=>rcases h0 with h0 | h0;omega;exact h2 h0
  | step _ _ _ ih=>exact ih
 rw[nF,if_neg h0];have hg:g.length≠0:=λe=>h0 (.inl e);have hgone:gone≠0:=λe=>h0 (.inr e);have hinit:((List.replicate g.length QG).set 0 QF).length=g.length:=by simp
 constructor
 ·have hI : ∀x:List Bool,(∀b,nth x b=QF->Re g gone b)->∀b,nth (nu g gone x) b=QF->Re g gone b:=by
   intro x hx;refine zc (λx:List Bool=>∀b,nth x b=QF->Re g gone b) (λa x ha hx=>?_) hx;unfold outBlock;split
   ·rename_i hxa;have hra:=hx a hxa;refine zc (λx:List Bool=>∀b,nth x b=QF->Re g gone b) (λi x hi hx=>?_) hx;intro b hb;have hm:=bD hi;have hed:=fL.1 hm;have hrng:=(fj.1 hed).1;unfold ve at hb;rcases M0 b x.length with h1 | h1
    ·rw[aK h1]at hb;split at hb
     ·rename_i e;rcases(NS _ _).mp hb with h2 | h2
      ·rw[e]at h2;exact hx b h2
      have eb:(b:Int)=nth (fg g a) i:=by omega
      exact .step hra (by rw[eb];exact hed) (by rw[eb];simpa using h2)
     exact hx b hb
    rw[aW (by simpa using h1)]at hb;cases hb
   exact hx
  exact zc (λx:List Bool=>∀b,nth x b=QF->Re g gone b) (λ_ x _ hx=>hI x hx) (λb hb=>by
   rcases M0 b g.length with h1 | h1
   ·rw[aK (by simpa using h1)]at hb;split at hb
    ·rename_i e;subst e;exact .root Q1 hgone
    rw[ay h1]at hb;cases hb
   rw[aW (by simpa using h1)]at hb;cases hb) b
 intro h;have hfix:=Ft (F:=nu g gone) (λx=>uk) g.length ((List.replicate g.length QG).set 0 QF) (by
  have:=ym (t:=List.replicate g.length QG) (i:=0);have h2:df (List.replicate g.length QG)=g.length:=by simp[df]
  omega);have hle:=yt (f:=λ_=>nu g gone) (λ_ x=>uk) ((List.replicate g.length QG).set 0 QF) 0 g.length (OL _);generalize up (λ_=>nu g gone) g.length ((List.replicate g.length QG).set 0 QF)=x at hfix hle;have hxl:x.length=g.length:=hle.len.trans hinit;induction h with
 | root h1 _=>exact hle.le 0 (by show nth ((List.replicate g.length QG).set 0 QF) 0=QF;rw[aK (by simpa using h1),if_pos rfl])
 | step ha he hb ih=>rename_i a b;have hrng:=(fj.1 he).1;have h1:=JH (λk x=>uG) hfix a Q1;rw[outBlock,if_pos ih]at h1;obtain⟨i,hi,e⟩:=Ni (fL.2 he);have h2:=JH (λk x=>wT) h1 i hi;rw[<-ao hi]at e;unfold ve at h2;rw[e]at h2;have h3:=congrArg (λl=>nth l b) h2;simp only[M9]at h3;rw[aK Q1,if_pos rfl]at h3;rw[<-h3];simp[hb]
theorem pW{g:Gr}{a b:Nat}:domC g a b=QF↔Re g (-1) a/\Re g (-1) b/\¬Re g a b:=by
 rw[domC];simp only[M8,NS,OE,decide_eq_true_eq,y6,Pm,ne_eq];constructor
 ·rintro⟨⟨h1,h2⟩,h3⟩;refine⟨h1,h2,?_⟩;rcases h3 with h3 | h3
  ·exact λh=>h.ne h3.symm
  exact h3
 rintro⟨h1,h2,h3⟩;exact⟨⟨h1,h2⟩,.inr h3⟩
def Bef(l:List Int)(u v:Int):Prop:=∃p q,l=p++u::q/\v∈q
theorem Bef.app{l:List Int}{u v:Int}(h:Bef l u v)(t:List Int):Bef (l++t) u v:=by obtain⟨p,q,rfl,hv⟩:=h;exact⟨p,q++t,by simp,NC _ hv⟩
theorem Bef.pre{l:List Int}{u v:Int}(h:Bef l u v)(t:List Int):Bef (t++l) u v:=by obtain⟨p,q,rfl,hv⟩:=h;exact⟨t++p,q,by simp,hv⟩
theorem Bef.DJ{l t:List Int}{u v:Int}(hu:u∈l)(hv:v∈t):Bef (l++t) u v:=by obtain⟨p,q,rfl⟩:=List.append_of_mem hu;exact⟨p,q++t,by simp,NG _ hv⟩
theorem Bef.mem{l:List Int}{u v:Int}(h:Bef l u v):u∈l/\v∈l:=by obtain⟨p,q,rfl,hv⟩:=h;exact⟨by simp,by simp[hv]⟩
inductive Adv(nx:Int->List Int)(l:List Int)(u:Int):Int->Prop
 | self:Adv nx l u u
 | step {p q:Int}:Adv nx l u p->q∈nx p->Bef l q p->Adv nx l u q
theorem Adv.app{nx:Int->List Int}{l:List Int}{u v:Int}(h:Adv nx l u v)(t:List Int):Adv nx (l++t) u v:=by
 induction h with
 | self=>exact .self
 | step _ h1 h2 ih=>exact .step ih h1 (h2.app t)
theorem Adv.pre{nx:Int->List Int}{l:List Int}{u v:Int}(h:Adv nx l u v)(t:List Int):Adv nx (t++l) u v:=by
 induction h with
 | self=>exact .self
 | step _ h1 h2 ih=>exact .step ih h1 (h2.pre t)
theorem Adv.trans{nx:Int->List Int}{l:List Int}{u v w:Int}(h:Adv nx l u v)(k:Adv nx l v w):Adv nx l u w:=by
 induction k with
 | self=>exact h
 | step _ h1 h2 ih=>exact .step ih h1 h2
def vis(s:List Bool × List Int)(x:Int):Prop:=nth s.1 x.toNat=QF
structure Told(nx:Int->List Int)(m:Nat)(a:Int)(s s':List Bool × List Int)(new:List Int):Prop where
 out:s'.2=s.2++new
 len:s'.1.length=s.1.length
 nodup:new.Nodup
 visd : ∀x,0<=x->(vis s' x↔vis s x\/x∈new)
 fresh : ∀x∈new,¬vis s x/\0<=x/\x<m
 last : ∃t,new=t++[a]
 clos : ∀x∈new,∀y∈nx x,vis s' y
 par : ∀x∈new,x≠a->∃p∈new,x∈nx p/\Bef new x p
 desc : ∀x∈new,Adv nx new a x
 ret : ∀x∈new,∀y∈nx x,y∈new->Bef new y x\/Adv nx new y x
structure Half(nx:Int->List Int)(m:Nat)(a:Int)(k:Nat)(s s':List Bool × List Int)(new:List Int):Prop where
 out:s'.2=s.2++new
 len:s'.1.length=s.1.length
 nodup:new.Nodup
 visd : ∀x,0<=x->(vis s' x↔vis s x\/x=a\/x∈new)
 fresh : ∀x∈new,¬vis s x/\(0<=x/\x<m)/\x≠a
 clos : ∀x∈new,∀y∈nx x,vis s' y
 done : ∀j,j<k->vis s' (nth (nx a) j)
 par : ∀x∈new,x∈nx a\/∃p∈new,x∈nx p/\Bef new x p
 desc : ∀x∈new,∃b∈new,b∈nx a/\Adv nx new b x
 ret : ∀x∈new,∀y∈nx x,y∈new->Bef new y x\/Adv nx new y x
theorem xU{nx:Int->List Int}{m:Nat}(hnx : ∀a:Int,0<=a->a<m->∀y∈nx a,0<=y/\y<m) : ∀(n:Nat) (a:Int) (s:List Bool × List Int),0<=a->a<m->s.1.length=m->nth s.1 a.toNat=QG->df s.1<=n->
  ∃new,Told nx m a s (jS nx n a s) new
 | 0,a,s,h0,h1,hl,hf,hc=>by exfalso;have:=jL (t:=s.1) (i:=a.toNat) Q1 hf;omega
 | n+1,a,s,h0,h1,hl,hf,hc=>by
  have hfs:=jL (t:=s.1) (i:=a.toNat) Q1 hf;rw[kL];have half : ∀k,k<=(nx a).length->∃new,Half nx m a k s (up (cy nx n a) k (s.1.set a.toNat QF,s.2)) new/\df (up (cy nx n a) k (s.1.set a.toNat QF,s.2)).1<=n:=by
   intro k;induction k with
   | zero=>
    intro _;refine⟨[],⟨by simp[up],by simp[up],by simp,λx hx=>?_,by simp,by simp,by simp,by simp,by simp,by simp⟩,by simp only[up];omega⟩;unfold vis;show nth (s.1.set a.toNat QF) x.toNat=QF↔_;rcases M0 x.toNat s.1.length with hlt | hge
    ·rw[aK hlt];split
     ·rename_i e;have:x=a:=by omega
      simp[this]
     rename_i e;have:x≠a:=λh=>e (by rw[h]);simp[this]
    rw[aW (by simpa using hge),aW hge];have:x≠a:=by omega
    simp[this]
   | succ k ih=>
    intro hk;obtain⟨new,H,hcn⟩:=ih Q1;rw[up];generalize up (cy nx n a) k (s.1.set a.toNat QF,s.2)=z at H hcn;have hb:=hnx a h0 h1 (nth (nx a) k) (bD Q1);have hbm:nth (nx a) k∈nx a:=bD Q1;have hzl:z.1.length=m:=H.len.trans hl;rw[cy];split
    ·rename_i hv;refine⟨new,{ H with done:=λj hj=>?_ },hcn⟩;rcases M0 j k with h | h
     ·exact H.done j h
     obtain rfl:j=k:=by omega
     exact hv
    rename_i hv;obtain⟨new',T⟩:=xU hnx n (nth (nx a) k) z hb.1 hb.2 hzl (by simpa using hv) hcn;have hkeep:=(pR (nx:=nx) (m:=m) (c:=n) n (nth (nx a) k) z ⟨hzl,hcn⟩).2;generalize jS nx n (nth (nx a) k) z=z' at T hkeep;obtain⟨t,ht⟩:=T.last;have hbn:nth (nx a) k∈new':=by rw[ht];simp
    have up : ∀y,0<=y->vis z y->vis z' y:=λy hy h=>(T.visd y hy).2 (.inl h);have hnv : ∀x∈new,vis z x:=λx hx=>(H.visd x (H.fresh x hx).2.1.1).2 (.inr (.inr hx));refine⟨new++new',⟨?_,?_,?_,?_,?_,?_,?_,?_,?_,?_⟩,hkeep⟩
    ·rw[T.out,H.out,Nk]
    ·rw[T.len,H.len]
    ·exact N3.2 ⟨H.nodup,T.nodup,λx hx y hy e=>by subst e;exact(T.fresh x hy).1 (hnv x hx)⟩
    ·intro x hx;rw[T.visd x hx,H.visd x hx,M1];constructor
     ·rintro((h | h | h) | h)
      ·exact .inl h
      ·exact .inr (.inl h)
      ·exact .inr (.inr (.inl h))
      exact .inr (.inr (.inr h))
     rintro(h | h | h | h)
     ·exact .inl (.inl h)
     ·exact .inl (.inr (.inl h))
     ·exact .inl (.inr (.inr h))
     exact .inr h
    ·intro x hx;rcases M1.1 hx with hx | hx
     ·exact H.fresh x hx
     obtain⟨g1,g2⟩:=T.fresh x hx;refine⟨λh=>g1 ((H.visd x g2.1).2 (.inl h)),g2,λe=>g1 ((H.visd x g2.1).2 (.inr (.inl e)))⟩
    ·intro x hx y hy;rcases M1.1 hx with hx | hx
     ·have hxr:=(H.fresh x hx).2.1;exact up y (hnx x hxr.1 hxr.2 y hy).1 (H.clos x hx y hy)
     exact T.clos x hx y hy
    ·intro j hj;rcases M0 j k with h | h
     ·exact up _ (hnx a h0 h1 _ (bD Q1)).1 (H.done j h)
     obtain rfl:j=k:=by omega
     exact(T.visd _ hb.1).2 (.inr hbn)
    ·intro x hx;rcases M1.1 hx with hx | hx
     ·rcases H.par x hx with h | ⟨p,hp,h2,h3⟩
      ·exact .inl h
      exact .inr ⟨p,NC _ hp,h2,h3.app _⟩
     by_cases e:x=nth (nx a) k
     ·exact .inl (e▸hbm)
     obtain⟨p,hp,h2,h3⟩:=T.par x hx e;exact .inr ⟨p,NG _ hp,h2,h3.pre _⟩
    ·intro x hx;rcases M1.1 hx with hx | hx
     ·obtain⟨b,hb,h2,h3⟩:=H.desc x hx;exact⟨b,NC _ hb,h2,h3.app _⟩
     exact⟨_,NG _ hbn,hbm,(T.desc x hx).pre _⟩
    intro x hx y hy hyn;rcases M1.1 hx with hx | hx<;>rcases M1.1 hyn with hyn | hyn
    ·exact(H.ret x hx y hy hyn).imp (·.app _) (·.app _)
    ·exact absurd (H.clos x hx y hy) (T.fresh y hyn).1
    ·exact .inl (Bef.DJ hyn hx)
    exact(T.ret x hx y hy hyn).imp (·.pre _) (·.pre _)
  obtain⟨new,H,hcn⟩:=half (nx a).length (MY _);generalize up (cy nx n a) (nx a).length (s.1.set a.toNat QF,s.2)=z at H hcn;have hda : ∀y∈nx a,vis z y:=by intro y hy;obtain⟨j,hj,rfl⟩:=Ni hy;have:=H.done j hj;rwa [ao hj]at this
  have hadv : ∀x∈new,Adv nx (new++[a]) a x:=by intro x hx;obtain⟨b,hb,h2,h3⟩:=H.desc x hx;exact(Adv.step .self h2 (Bef.DJ hb Sb)).trans (h3.app _)
  refine⟨new++[a],⟨?_,H.len,?_,?_,?_,⟨new,rfl⟩,?_,?_,?_,?_⟩⟩
  ·simp only[H.out,Nk]
  ·refine N3.2 ⟨H.nodup,by simp,λx hx y hy e=>?_⟩;simp only[MZ]at hy;exact(H.fresh x hx).2.2 (e.trans hy)
  ·intro x hx;show nth z.1 x.toNat=QF↔_;have:=H.visd x hx;unfold vis at this ⊢;rw[this];simp only[M1,MZ];constructor
   ·rintro(h | h | h)
    ·exact .inl h
    ·exact .inr (.inr h)
    exact .inr (.inl h)
   rintro(h | h | h)
   ·exact .inl h
   ·exact .inr (.inr h)
   exact .inr (.inl h)
  ·intro x hx;rcases M1.1 hx with hx | hx
   ·exact⟨(H.fresh x hx).1,(H.fresh x hx).2.1⟩
   simp only[MZ]at hx;subst hx;exact⟨by unfold vis;rw[hf];simp,h0,h1⟩
  ·intro x hx y hy;rcases M1.1 hx with hx | hx
   ·exact H.clos x hx y hy
   simp only[MZ]at hx;subst hx;exact hda y hy
  ·intro x hx hne;rcases M1.1 hx with hx | hx
   ·rcases H.par x hx with h | ⟨p,hp,h2,h3⟩
    ·exact⟨a,by simp,h,Bef.DJ hx Sb⟩
    exact⟨p,NC _ hp,h2,h3.app _⟩
   simp only[MZ]at hx;exact absurd hx hne
  ·intro x hx;rcases M1.1 hx with hx | hx
   ·exact hadv x hx
   simp only[MZ]at hx;subst hx;exact .self
  intro x hx y hy hyn;rcases M1.1 hyn with hn | hn
  ·rcases M1.1 hx with hx | hx
   ·exact(H.ret x hx y hy hn).imp (·.app _) (·.app _)
   simp only[MZ]at hx;subst hx;exact .inl (Bef.DJ hn Sb)
  simp only[MZ]at hn;subst hn;rcases M1.1 hx with hx | hx
  ·exact .inr (hadv x hx)
  simp only[MZ]at hx;subst hx;exact .inr .self
end Go.Lft
namespace Go.Lft.Chk
inductive Anc(o:Nat->Nat)(x:Nat):Nat->Prop
 | self:Anc o x x
 | up {b:Nat}:b≠0->Anc o x (o b)->Anc o x b
theorem sK{o:Nat->Nat}{x:Nat}:Anc o x 0↔x=0:=by
 constructor
 ·intro h;cases h with
  | self=>rfl
  | up h _=>exact absurd rfl h
 rintro rfl;exact .self
variable{b:Nat}
theorem nU{o:Nat->Nat}{x:Nat}(hb:b≠0):Anc o x b↔x=b\/Anc o x (o b):=by
 constructor
 ·intro h;cases h with
  | self=>exact .inl rfl
  | up _ h=>exact .inr h
 rintro(rfl | h)
 ·exact .self
 exact .up hb h
theorem Anc.trans{o:Nat->Nat}{x y:Nat}(h:Anc o x y)(k:Anc o y b):Anc o x b:=by
 induction k with
 | self=>exact h
 | up hb _ ih=>exact .up hb ih
theorem Anc.total{o:Nat->Nat}{x y:Nat}(h:Anc o x b)(k:Anc o y b):Anc o x y\/Anc o y x:=by
 induction h with
 | self=>exact .inr k
 | up hb h ih=>
  cases k with
  | self=>exact .inl (.up hb h)
  | up _ k=>exact ih k
structure Ch(R:Nat->Prop)(r:Nat->Nat)(E:Nat->Nat->Prop)(f:Nat->Nat)(D:Nat->Nat->Prop):Prop where
 inj : ∀a b,R a->R b->r a=r b->a=b
 R0:R 0
 r0:r 0=0
 hf : ∀x,R x->x≠0->R (f x)/\E (f x) x/\r (f x)<r x
 d1 : ∀d b a,D d b->d≠b->E a b->R a->D d a
 d0 : ∀d,D d 0->d=0
def Ok(Pr:Nat->Prop)(x:Nat):Prop:=x=0\/Pr x
structure Inv(R:Nat->Prop)(r:Nat->Nat)(E:Nat->Nat->Prop)(f:Nat->Nat)(D:Nat->Nat->Prop)(k:Nat)(o:Nat->Nat)(Pr:Nat->Prop):Prop where
 pr : ∀b,Pr b->R b/\b≠0/\Ok Pr (o b)/\r (o b)<r b
 all : ∀b,R b->b≠0->r b<k->Pr b
 fok : ∀b,Pr b->Ok Pr (f b)
 K : ∀b,Pr b->∀x,(∀a,E a b->R a->Ok Pr a->Anc o x a)->Anc o x (o b)
 FP : ∀b,Pr b->∀y,Anc o y (o b)->k<=r y->Anc o y (f b)
 FP2 : ∀b,Pr b->r b<k->Anc o (o b) (f b)
 S : ∀b,Pr b->∀d,D d b->d≠b->Anc o d (o b)
section
variable{R:Nat->Prop}{r:Nat->Nat}{E:Nat->Nat->Prop}{f:Nat->Nat}{D:Nat->Nat->Prop}{k:Nat}{o:Nat->Nat}{Pr:Nat->Prop}
theorem Inv.okR(I:Inv R r E f D k o Pr)(C:Ch R r E f D){x:Nat}(h:Ok Pr x):R x:=by
 rcases h with rfl | h
 ·exact C.R0
 exact(I.pr x h).1
theorem Inv.anc(I:Inv R r E f D k o Pr){x:Nat}(h:Anc o x b):Ok Pr b->Ok Pr x/\(x=b\/r x<r b):=by
 induction h with
 | self=>exact λhb=>⟨hb,.inl rfl⟩
 | up hb _ ih=>
  intro hok;rcases hok with rfl | hp
  ·exact absurd rfl hb
  obtain⟨_,_,h3,h4⟩:=I.pr _ hp;obtain⟨h5,h6⟩:=ih h3;refine⟨h5,.inr ?_⟩;rcases h6 with rfl | h6
  ·exact h4
  omega
theorem Inv.dom(I:Inv R r E f D k o Pr)(C:Ch R r E f D){d:Nat}(hb:Ok Pr b)(h:D d b):Anc o d b:=by
 by_cases e:d=b
 ·subst e;exact .self
 rcases hb with rfl | hb
 ·exact absurd (C.d0 d h) e
 exact .up (I.pr b hb).2.1 (I.S b hb d h e)
def upd(o:Nat->Nat)(c q:Nat):Nat->Nat:=λb=>if b=c then q else o b
def add(Pr:Nat->Prop)(c:Nat):Nat->Prop:=λb=>b=c\/Pr b
theorem j7{c q x:Nat}(h:¬Anc o c b):Anc (upd o c q) x b↔Anc o x b:=by
 constructor
 ·intro k;induction k with
  | self=>exact .self
  | up hb k ih=>
   rename_i b;have hne:b≠c:=λe=>h (e▸.self);have e:upd o c q b=o b:=by unfold upd;rw[if_neg hne]
   rw[e]at ih k;exact .up hb (ih λhc=>h (.up hb hc))
 intro k;induction k with
 | self=>exact .self
 | up hb k ih=>
  rename_i b;have hne:b≠c:=λe=>h (e▸.self);have e:upd o c q b=o b:=by unfold upd;rw[if_neg hne]
  exact .up hb (by rw[e];exact ih λhc=>h (.up hb hc))
theorem KZ{c q x:Nat}(hc:c≠0)(hq:¬Anc o c q):Anc (upd o c q) x c↔x=c\/Anc o x q:=by rw[nU hc,show upd o c q c=q by simp[upd],j7 hq]
theorem Inv.Ji(I:Inv R r E f D k o Pr){x y:Nat}(hx:Ok Pr x)(hy:Ok Pr y)(h1:Anc o x y)(h2:Anc o y x):x=y:=by have e1:=(I.anc h1 hy).2;have e2:=(I.anc h2 hx).2;omega
theorem Inv.below(I:Inv R r E f D k o Pr){c q x:Nat}(hpc:Pr c)(hq:¬Anc o c q)(h:Anc o c b):Ok Pr b->(Anc (upd o c q) x b↔(Anc o x b/\Anc o c x)\/Anc o x q):=by
 have hc:=(I.pr c hpc).2.1;induction h with
 | self=>
  intro hb;rw[KZ hc hq];constructor
  ·rintro(rfl | h)
   ·exact .inl ⟨.self,.self⟩
   exact .inr h
  rintro(⟨h1,h2⟩ | h)
  ·exact .inl (I.Ji (I.anc h1 hb).1 hb h1 h2)
  exact .inr h
 | up hb h ih=>
  rename_i b;intro hok;have hpb:Pr b:=hok.resolve_left hb;obtain⟨_,_,h3,h4⟩:=I.pr b hpb;have hne:b≠c:=λe=>by
   subst e;rcases(I.anc h h3).2 with e | e
   ·rw[<-e]at h4;omega
   omega
  have e:upd o c q b=o b:=by unfold upd;rw[if_neg hne]
  rw[nU hb,e,ih h3,nU hb];constructor
  ·rintro(rfl | ⟨h1,h2⟩ | h1)
   ·exact .inl ⟨.inl rfl,.up hb h⟩
   ·exact .inl ⟨.inr h1,h2⟩
   exact .inr h1
  rintro(⟨rfl | h1,h2⟩ | h1)
  ·exact .inl rfl
  ·exact .inr (.inl ⟨h1,h2⟩)
  exact .inr (.inr h1)
structure Turn(R:Nat->Prop)(r:Nat->Nat)(E:Nat->Nat->Prop)(o:Nat->Nat)(Pr:Nat->Prop)(c q:Nat):Prop where
 ok:Ok Pr q
 q : ∀x,Anc o x q↔∀a,E a c->R a->Ok Pr a->Anc o x a
theorem Inv.fc(I:Inv R r E f D k o Pr)(C:Ch R r E f D){c:Nat}(hR:R c)(hc:c≠0)(hk:r c=k):Ok Pr (f c):=by
 obtain⟨h1,_,h3⟩:=C.hf c hR hc;by_cases e:f c=0
 ·exact .inl e
 exact .inr (I.all _ h1 e Q1)
theorem Turn.lt{c q:Nat}(T:Turn R r E o Pr c q)(I:Inv R r E f D k o Pr)(C:Ch R r E f D)(hR:R c)(hc:c≠0)(hk:r c=k):r q<r c/\Anc o q (f c):=by
 obtain⟨h1,h2,h3⟩:=C.hf c hR hc;have h4:=(T.q q).1 .self (f c) h2 h1 (I.fc C hR hc hk);have:=(I.anc h4 (I.fc C hR hc hk)).2;refine⟨?_,h4⟩;rcases this with e | e
 ·rw[e];exact h3
 omega
theorem Inv.turn(I:Inv R r E f D k o Pr)(C:Ch R r E f D){c q:Nat}(hR:R c)(hc:c≠0)(hk:r c=k)(T:Turn R r E o Pr c q):Inv R r E f D (k+1) (upd o c q) (add Pr c):=by
 obtain⟨f1,f2,f3⟩:=C.hf c hR hc;have hfok:=I.fc C hR hc hk;obtain⟨hlt,hqf⟩:=T.lt I C hR hc hk;have hq:¬Anc o c q:=λh=>by
  have:=(I.anc h T.ok).2;rcases this with e | e
  ·rw[e]at hlt;omega
  omega
 have hcf:¬Anc o c (f c):=λh=>by
  have:=(I.anc h hfok).2;rcases this with e | e
  ·rw[<-e]at f3;omega
  omega
 have okm : ∀x,Ok Pr x->Ok (add Pr c) x:=λx h=>h.imp id .inr;have up_ne : ∀b,b≠c->upd o c q b=o b:=λb hb=>by unfold upd;rw[if_neg hb]
 have up_c:upd o c q c=q:=by simp[upd]
 have hpc : ∀b,Ok Pr b->Anc o c b->Pr c:=λb hb h=>((I.anc h hb).1).resolve_left hc;have mono : ∀b,Ok Pr b->∀x,Anc (upd o c q) x b->Anc o x b:=by
  intro b hb x h;by_cases hcb:Anc o c b
  ·have hp:=hpc b hb hcb;rcases(I.below hp hq hcb hb).1 h with⟨h1,_⟩ | h1
   ·exact h1
   exact(Anc.up hc (I.K c hp x ((T.q x).1 h1))).trans hcb
  exact(j7 hcb).1 h
 have stay : ∀b,Ok Pr b->∀x,Anc o x b->(Anc o c b->Anc o c x\/Anc o x q)->Anc (upd o c q) x b:=by
  intro b hb x h h2;by_cases hcb:Anc o c b
  ·refine(I.below (hpc b hb hcb) hq hcb hb).2 ?_;rcases h2 hcb with h3 | h3
   ·exact .inl ⟨h,h3⟩
   exact .inr h3
  exact(j7 hcb).2 h
 have domc : ∀n b,r b<=n->Ok Pr b->Anc o c b->∀d,D d b->r d<r c->D d c:=by
  intro n;induction n with
  | zero=>
   intro b hb hok hcb d hd hlt;have:=(I.anc hcb hok).2;rcases this with rfl | h
   ·exact hd
   omega
  | succ n ih=>
   intro b hb hok hcb d hd hlt;by_cases e:c=b
   ·subst e;exact hd
   have hb0:b≠0:=λe0=>by subst e0;exact e (sK.1 hcb)
   have hpb:=hok.resolve_left hb0;have hcb':Anc o c (o b):=((nU hb0).1 hcb).resolve_left e;obtain⟨g1,g2,g3⟩:=C.hf b (I.pr b hpb).1 hb0;have hlb:=(I.anc hcb hok).2;have hdb:d≠b:=λe2=>by subst e2;omega
   exact ih (f b) Q1 (I.fok b hpb) (I.FP b hpb c hcb' Q1) d (C.d1 d b (f b) hd hdb g2 g1) hlt
 have domq : ∀d,D d c->d≠c->Anc o d q:=by intro d hd hne;refine(T.q d).2 λa ha hRa hoka=>?_;exact I.dom C hoka (C.d1 d c a hd hne ha hRa)
 refine⟨?_,?_,?_,?_,?_,?_,?_⟩
 ·rintro b (rfl | hb)
  ·rw[up_c];exact⟨hR,hc,okm _ T.ok,hlt⟩
  by_cases e:b=c
  ·subst e;rw[up_c];exact⟨hR,hc,okm _ T.ok,hlt⟩
  rw[up_ne b e];obtain⟨h1,h2,h3,h4⟩:=I.pr b hb;exact⟨h1,h2,okm _ h3,h4⟩
 ·intro b hRb hb0 hlt;by_cases e:r b=k
  ·exact .inl (C.inj b c hRb hR Q1)
  exact .inr (I.all b hRb hb0 Q1)
 ·rintro b (rfl | hb)
  ·exact okm _ hfok
  exact okm _ (I.fok b hb)
 ·intro b hb x hx;have hx' : ∀a,E a b->R a->Ok Pr a->Anc o x a:=λa h1 h2 h3=>mono a h3 x (hx a h1 h2 (okm a h3));by_cases e:b=c
  ·subst e;rw[up_c,j7 hq];exact(T.q x).2 hx'
  have hpb:Pr b:=hb.resolve_left e;rw[up_ne b e];obtain⟨h1,h2,h3,h4⟩:=I.pr b hpb;have hxo:=I.K b hpb x hx';refine stay (o b) h3 x hxo λhco=>?_;rcases Anc.total hxo hco with h5 | h5
  ·obtain⟨g1,g2,g3⟩:=C.hf b h1 h2;have hcf2:=I.FP b hpb c hco Q1;have hxf:=hx (f b) g2 g1 (okm _ (I.fok b hpb));rcases(I.below (hpc _ h3 hco) hq hcf2 (I.fok b hpb)).1 hxf with⟨_,h6⟩ | h6
   ·exact .inl h6
   exact .inr h6
  exact .inl h5
 ·intro b hb y hy hky;by_cases e:b=c
  ·subst e;rw[up_c,j7 hq]at hy;exact(j7 hcf).2 (hy.trans hqf)
  have hpb:Pr b:=hb.resolve_left e;rw[up_ne b e]at hy;obtain⟨h1,h2,h3,h4⟩:=I.pr b hpb;have hyf:=I.FP b hpb y (mono _ h3 y hy) Q1;refine stay (f b) (I.fok b hpb) y hyf λhcf2=>?_;rcases Anc.total hyf hcf2 with h5 | h5
  ·exfalso;have:=(I.anc h5 (.inr (hpc _ (I.fok b hpb) hcf2))).2;rcases this with e2 | e2
   ·subst e2;omega
   omega
  exact .inl h5
 ·intro b hb hlt;by_cases e:b=c
  ·subst e;rw[up_c];exact(j7 hcf).2 hqf
  have hpb:Pr b:=hb.resolve_left e;rw[up_ne b e];obtain⟨h1,h2,h3,h4⟩:=I.pr b hpb;obtain⟨g1,g2,g3⟩:=C.hf b h1 h2;have hbk:r b<k:=by
   rcases M0 (r b) k with h | h
   ·exact h
   exact absurd (C.inj b c h1 hR Q1) e
  have h5:=I.FP2 b hpb hbk;refine(j7 λhcf2=>?_).2 h5;have:=(I.anc hcf2 (I.fok b hpb)).2;rcases this with e2 | e2
  ·rw[<-e2]at g3;omega
  omega
 intro b hb d hd hne;by_cases e:b=c
 ·subst e;rw[up_c,j7 hq];exact domq d hd hne
 have hpb:Pr b:=hb.resolve_left e;rw[up_ne b e];obtain⟨h1,h2,h3,h4⟩:=I.pr b hpb;have hdo:=I.S b hpb d hd hne;refine stay (o b) h3 d hdo λhco=>?_;rcases Anc.total hdo hco with h5 | h5
 ·have hpcc:=hpc _ h3 hco;rcases(I.anc h5 (.inr hpcc)).2 with e2 | e2
  ·subst e2;exact .inl .self
  exact .inr (domq d (domc (r b) b (MY _) (.inr hpb) (.up h2 hco) d hd e2) λe3=>by subst e3;omega)
 exact .inl h5
theorem Inv.again(I:Inv R r E f D k o Pr)(hk : ∀b,R b->r b<k):Inv R r E f D 0 o Pr:=by refine⟨I.pr,λb hR h0 h=>I.all b hR h0 (hk b hR),I.fok,I.K,λb hb y hy _=>?_,λb _ h=>absurd h Q1,I.S⟩;exact hy.trans (I.FP2 b hb (hk b (I.pr b hb).1))
theorem Inv.start:Inv R r E f D 0 o (λ_=>False):=
 ⟨λ_ h=>h.elim,λ_ _ _ h=>absurd h Q1,λ_ h=>h.elim,λ_ h=>h.elim,λ_ h=>h.elim,λ_ h=>h.elim,λ_ h=>h.elim⟩
theorem Inv.L6(I:Inv R r E f D k o Pr){c q:Nat}(T:Turn R r E o Pr c q)(hp:Pr c):q=o c\/r q<r (o c):=by have:=I.K c hp q ((T.q q).1 .self);exact(I.anc this (I.pr c hp).2.2.1).2
end
end Go.Lft.Chk
namespace Go.Lft
section
open Chk
variable{n:Nat}
theorem He{β:Type}{f k:Nat->β->β}(I:β->Prop)(h : ∀i x,i<n->I x->f i x=k i x)(hI : ∀i x,i<n->I x->I (f i x)){x:β}(hx:I x):up f n x=up k n x:=by
 have key : ∀m,m<=n->up f m x=up k m x/\I (up f m x):=by
  intro m;induction m with
  | zero=>exact λ_=>⟨rfl,hx⟩
  | succ m ih=>intro hm;obtain⟨h1,h2⟩:=ih Q1;exact⟨by rw[up,up,<-h1,h m _ Q1 h2],hI _ _ Q1 h2⟩
 exact(key n (MY _)).1
theorem uK{nx nx':Int->List Int}{m:Nat}(hnx : ∀a:Int,0<=a->a<m->nx a=nx' a/\∀y∈nx a,0<=y/\y<m) : ∀(n:Nat) (a:Int) (s:List Bool × List Int),0<=a->a<m->jS nx n a s=jS nx' n a s
 | 0,_,_,_,_=>rfl
 | n+1,a,s,h0,h1=>by
  obtain⟨e,hr⟩:=hnx a h0 h1;rw[kL,kL,<-e];have:up (cy nx n a) (nx a).length (s.1.set a.toNat QF,s.2)=up (cy nx' n a) (nx a).length (s.1.set a.toNat QF,s.2):=by refine He (λ_=>True) (λi x hi _=>?_) (λ_ _ _ _=>trivial) trivial;unfold cy;rw[<-e];obtain⟨g0,g1⟩:=hr _ (bD hi);rw[uK hnx n _ x g0 g1]
  rw[this]
theorem yo{g:Gr}{a y:Int}(h:y∈fg g a):0<=y/\y<g.length:=by have:=(fj.1 (fL.1 h)).1;omega
theorem Dh{g:Gr}{a:Int}(h0:0<=a)(h1:a<g.length):nx (cA g) a=fg g a:=by unfold nx;rw[mz Q1,Nj h0]
theorem Hu{g:Gr}:aY g=lE (fg g) g.length:=by
 unfold aY lE;split
 ·rfl
 rw[uK (m:=g.length) (λa h0 h1=>⟨Dh h0 h1,λy hy=>yo (by rwa [Dh h0 h1]at hy)⟩) _ _ _ Q1 Q1]
structure Ord(g:Gr)(order:List Int):Prop where
 nodup:order.Nodup
 mem : ∀x:Nat,(x:Int)∈order↔Re g (-1) x
 rng : ∀x∈order,0<=x/\x<g.length
 head:order[0]? = QB 0
 par : ∀x∈order,x≠0->∃p∈order,gX g p x=QF/\order.idxOf p<order.idxOf x
 ret : ∀x∈order,∀y∈order,gX g x y=QF->order.idxOf y<=order.idxOf x->∃l,Adv (fg g) l y x/\∀u v,Bef l u v->order.idxOf v<order.idxOf u
theorem tL{l:List Int}(hn:l.Nodup){u v:Int}(h:Bef l u v):l.reverse.idxOf v<l.reverse.idxOf u:=by
 obtain⟨p,q,rfl,hv⟩:=h;have hu:u∉q:=by have:=(N3.1 hn).2.1;exact(OO.1 this).1
 rw[List.reverse_append,List.reverse_cons,Nk];have h1:(q.reverse++([u]++p.reverse)).idxOf v<q.reverse.length:=by rw[PE,if_pos (by simpa using hv)];exact PS (by simpa using hv)
 have h2:(q.reverse++([u]++p.reverse)).idxOf u=q.reverse.length:=by rw[PE,if_neg (by simpa using hu)];simp
 omega
theorem kq{g:Gr}(hg:0<g.length):Ord g (aY g):=by
 have hT:=xU (nx:=fg g) (m:=g.length) (λa _ _ y hy=>yo hy) g.length 0 (List.replicate g.length QG,[]) Q1 Q1 Sb (ay (by simpa using hg)) (by simp[df]);have ho:aY g=(jS (fg g) g.length 0 (List.replicate g.length QG,[])).2.reverse:=by rw[Hu,lE,if_neg Q1]
 obtain⟨new,T⟩:=hT;have hout:=T.out;simp only[NT]at hout;rw[ho,hout];have hv0 : ∀x:Int,¬vis (List.replicate g.length QG,([]:List Int)) x:=by
  intro x h;unfold vis at h;simp only at h;rcases M0 x.toNat g.length with h1 | h1
  ·rw[ay h1]at h;cases h
  rw[aW (by simpa using h1)]at h;cases h
 have hvis : ∀x,0<=x->(vis (jS (fg g) g.length 0 (List.replicate g.length QG,[])) x↔x∈new):=λx hx=>by rw[T.visd x hx];exact⟨λh=>h.resolve_left (hv0 x),.inr⟩
 obtain⟨t,ht⟩:=T.last;have h0:(0:Int)∈new:=by rw[ht];simp
 have hre : ∀x∈new,Re g (-1) x.toNat:=by
  intro x hx;have:=T.desc x hx;clear hx;induction this with
  | self=>exact .root hg Q2
  | step _ h1 h2 ih=>have hpr:=T.fresh _ h2.mem.2;have hqr:=T.fresh _ h2.mem.1;have he:=fL.1 h1;refine .step ih ?_ Q1;rwa [Nj hpr.2.1,Nj hqr.2.1]
 refine⟨by simpa[List.Nodup,List.pairwise_reverse,ne_comm]using T.nodup,λx=>?_,λx hx=>(T.fresh x (by simpa using hx)).2,?_,?_,?_⟩
 ·rw[List.mem_reverse];constructor
  ·intro h;simpa using hre x h
  intro h;induction h with
  | root _ _=>exact h0
  | step _ he _ ih=>exact(hvis _ Q1).1 (T.clos _ ih _ (fL.2 he))
 ·rw[ht,List.reverse_append];rfl
 ·intro x hx hne;obtain⟨p,hp,h1,h2⟩:=T.par x (by simpa using hx) hne;exact⟨p,by simpa using hp,fL.1 h1,tL T.nodup h2⟩
 intro x hx y hy he hle;rcases T.ret x (by simpa using hx) y (fL.2 he) (by simpa using hy)with h | h
 ·have:=tL T.nodup h;omega
 exact⟨new,h,λu v huv=>tL T.nodup huv⟩
theorem uB{order:List Int}(hn:order.Nodup)(hr : ∀x∈order,0<=x/\x<(n:Int)){x:Nat}(hx:x<n):nth (fU n order) x=if(x:Int)∈order then(order.idxOf (x:Int):Int) else -1:=by
 have key : ∀k,k<=order.length->(up (λi l=>l.set (nth order i).toNat (i:Int)) k (List.replicate n (-1))).length=n/\nth (up (λi l=>l.set (nth order i).toNat (i:Int)) k (List.replicate n (-1))) x=if(x:Int)∈order.take k then(order.idxOf (x:Int):Int) else -1:=by
  intro k;induction k with
  | zero=>intro _;exact⟨by simp[up],by rw[up,ay hx];simp⟩
  | succ k ih=>
   intro hk;obtain⟨h1,h2⟩:=ih Q1;rw[up];refine⟨by simpa using h1,?_⟩;rw[aK Q1,Np Q1,h2];have hmem:order[k]∈order:=Oi _;have hrk:=hr _ hmem;rw[ao (show k<order.length by omega)];by_cases e:order[k].toNat=x
   ·have e2:order[k]=(x:Int):=by omega
    rw[if_pos e,if_pos (by rw[<-e2];exact NG _ (MZ.2 rfl)),<-e2,OX hn]
   rw[if_neg e];have e2:¬(x:Int)=order[k]:=λh=>e Q1;simp only[M1,MZ,e2,or_false]
 have:=(key order.length (MY _)).2;rw[Nd (MY _)]at this;exact this
end
section
open Chk
def st(out:List Int):Nat->Nat:=λb=>(nth out b).toNat
def pd(out:List Int):Nat->Prop:=λb=>b<out.length/\0<=nth out b
def rk(g:Gr)(x:Nat):Nat:=(aY g).idxOf (x:Int)
def Eg(g:Gr)(a b:Nat):Prop:=gX g a b=QF
def Dm(g:Gr)(d b:Nat):Prop:=domC g d b=QF
def Rg(g:Gr)(x:Nat):Prop:=Re g (-1) x
section
variable{g:Gr}
theorem C9{x:Nat}(h:Rg g x):rk g x<(aY g).length:=PS (((kq (Nat.lt_of_le_of_lt (OL _) h.lt)).mem x).2 h)
theorem Rg.pos{x:Nat}(h:Rg g x):0<g.length:=Nat.lt_of_le_of_lt (OL _) h.lt
theorem IP{x:Nat}(h:Rg g x):rk g x<g.length:=PV (C9 h) rM
variable{b:Nat}
theorem Cl{a:Nat}(ha:Rg g a)(hb:Rg g b)(h:rk g a=rk g b):a=b:=by
 have O:=kq ha.pos;have h1:=OB (C9 ha);have h2:=OB (C9 hb);have:(a:Int)=(b:Int):=by rw[<-h1,<-h2];congr 1
 omega
theorem vf(hg:0<g.length):rk g 0=0:=by
 have O:=kq hg;unfold rk;have hl:0<(aY g).length:=by
  have:=O.head;rcases Oe (aY g).length with h | h
  ·rw[Nl h]at this;cases this
  exact h
 have h0:=O.head;rw[N9 hl]at h0;have h1:(aY g)[0]=0:=Option.some.inj h0;have:=OX O.nodup 0 hl;rw[h1]at this;exact this
theorem tZ{x:Nat}(h:Rg g x):nth (fU g.length (aY g)) x=(rk g x:Int):=by have O:=kq h.pos;rw[uB O.nodup O.rng h.lt,if_pos ((O.mem x).2 h)];rfl
theorem CD{x:Nat}(hx:x<g.length)(h:¬Rg g x):nth (fU g.length (aY g)) x=-1:=by have O:=kq (g:=g) Q1;rw[uB O.nodup O.rng hx,if_neg λe=>h ((O.mem x).1 e)]
theorem Jo(hg:0<g.length): ∃f:Nat->Nat,∀x,Rg g x->x≠0->Rg g (f x)/\Eg g (f x) x/\rk g (f x)<rk g x:=by
 have O:=kq hg;have : ∀x,∃p,Rg g x->x≠0->Rg g p/\Eg g p x/\rk g p<rk g x:=by
  intro x;by_cases h:Rg g x/\x≠0
  ·obtain⟨p,hp,h1,h2⟩:=O.par x ((O.mem x).2 h.1) Q1;have hr:=O.rng p hp;have e:((p.toNat:Nat):Int)=p:=Nj hr.1;refine⟨p.toNat,λ_ _=>⟨(O.mem _).1 (by rw[e];exact hp),by unfold Eg;rw[e];exact h1,by unfold rk;rw[e];exact h2⟩⟩
  exact⟨0,λh1 h2=>absurd ⟨h1,h2⟩ h⟩
 exact⟨λx=>(this x).choose,λx=>(this x).choose_spec⟩
theorem LU(hg:0<g.length){f:Nat->Nat}(hf : ∀x,Rg g x->x≠0->Rg g (f x)/\Eg g (f x) x/\rk g (f x)<rk g x):Ch (Rg g) (rk g) (Eg g) f (Dm g) where
 inj:=λa b ha hb h=>Cl ha hb h
 R0:=.root hg Q2
 r0:=vf hg
 hf:=hf
 d1:=λd b a hd hne he ha=>by
  obtain⟨h1,h2,h3⟩:=pW.1 hd
  exact pW.2 ⟨h1,ha,λh=>h3 (.step h he Q1)⟩
 d0:=λd hd=>by
  obtain⟨h1,h2,h3⟩:=pW.1 hd
  rcases Oe d with h | h
  ·exact h
  ·exact absurd (.root hg Q1) h3
structure Good(g:Gr)(f:Nat->Nat)(k:Nat)(out:List Int):Prop where
 len:out.length=g.length
 rng : ∀b,b<g.length->nth out b=-1\/(0<=nth out b/\nth out b<g.length)
 inv:Inv (Rg g) (rk g) (Eg g) f (Dm g) k (st out) (pd out)
variable{f:Nat->Nat}{k:Nat}{out:List Int}
theorem Good.BG(G:Good g f k out)(C:Ch (Rg g) (rk g) (Eg g) f (Dm g)){x:Nat}(h:Ok (pd out) x):Rg g x/\x<g.length:=⟨G.inv.okR C h,(G.inv.okR C h).lt⟩
theorem pw(G:Good g f k out)(C:Ch (Rg g) (rk g) (Eg g) f (Dm g)) : ∀(fuel a b:Nat),Ok (pd out) a->Ok (pd out) b->rk g a+rk g b<fuel->
  ∃c:Nat,kW out (fU g.length (aY g)) fuel a b=QB (c:Int)/\Ok (pd out) c/\∀x,Anc (st out) x c↔Anc (st out) x a/\Anc (st out) x b
 | 0,a,b,_,_,h=>by omega
 | fuel+1,a,b,ha,hb,h=>by
  obtain⟨ra,la⟩:=G.BG C ha;obtain⟨rb,lb⟩:=G.BG C hb;have hg:=ra.pos;have hnl:(fU g.length (aY g)).length=g.length:=by rw[fU,zt List.length (λ_ _=>by simp)];simp
  have hol:=G.len;rw[kW,if_pos Q1,M9,M9,tZ ra,tZ rb];have step : ∀a b:Nat,Ok (pd out) a->Ok (pd out) b->rk g b<rk g a->a≠0/\nth out a=((st out a:Nat):Int)/\Ok (pd out) (st out a)/\rk g (st out a)<rk g a/\∀x,Anc (st out) x (st out a)/\Anc (st out) x b↔Anc (st out) x a/\Anc (st out) x b:=by
   intro a b ha hb hlt;have ha0:a≠0:=λe=>by subst e;rw[vf hg]at hlt;omega
   have hpa:=ha.resolve_left ha0;obtain⟨_,_,h3,h4⟩:=G.inv.pr a hpa;refine⟨ha0,(Nj hpa.2).symm,h3,h4,λx=>⟨λ⟨h5,h6⟩=>⟨.up ha0 h5,h6⟩,λ⟨h5,h6⟩=>⟨?_,h6⟩⟩⟩;rcases(nU ha0).1 h5 with rfl | h7
   ·have:=(G.inv.anc h6 hb).2;rcases this with e | e
    ·subst e;omega
    omega
   exact h7
  by_cases h1:rk g b<rk g a
  ·rw[if_pos Q1];obtain⟨ha0,e,h3,h4,h5⟩:=step a b ha hb h1;rw[e];obtain⟨c,h6,h7,h8⟩:=pw G C fuel (st out a) b h3 hb Q1;exact⟨c,h6,h7,λx=>(h8 x).trans (h5 x)⟩
  rw[if_neg Q1];by_cases h2:rk g a<rk g b
  ·rw[if_pos Q1];obtain⟨hb0,e,h3,h4,h5⟩:=step b a hb ha h2;rw[e];obtain⟨c,h6,h7,h8⟩:=pw G C fuel a (st out b) ha h3 Q1;exact⟨c,h6,h7,λx=>(h8 x).trans (by rw[and_comm,h5 x,and_comm])⟩
  rw[if_neg Q1];have e:a=b:=Cl ra rb Q1;subst e;exact⟨a,rfl,ha,λx=>by simp⟩
def Bst(out:List Int)(best:Int)(Q:Nat->Prop):Prop:=
 (best=-1/\∀a,¬Q a)\/∃c:Nat,best=(c:Int)/\Ok (pd out) c/\(∃a,Q a)/\∀x,Anc (st out) x c↔∀a,Q a->Anc (st out) x a
def Cons(g:Gr)(out:List Int)(a:Nat):Prop:=Rg g a/\Ok (pd out) a
theorem pY{best:Int}{Q Q':Nat->Prop}(h : ∀a,Q a↔Q' a)(b:Bst out best Q):Bst out best Q':=by have:Q=Q':=funext λa=>propext (h a);rw[<-this];exact b
theorem sv(G:Good g f k out)(C:Ch (Rg g) (rk g) (Eg g) f (Dm g)) : ∀(l:List Int) (best:Int) (Q:Nat->Prop),Bst out best Q->(∀a∈l,0<=a/\a<(g.length:Int))->
  ∃best',bstS out (fU g.length (aY g)) g.length l best=QB best'/\Bst out best' λa=>Q a\/((a:Int)∈l/\Cons g out a)
 | [],best,Q,hB,_=>⟨best,rfl,pY (λa=>by simp) hB⟩
 | a::l,best,Q,hB,hl=>by
  obtain⟨h0,h1⟩:=hl a (Ng ..);have hl':=λx hx=>hl x (Nf _ hx);obtain⟨n,rfl⟩:=OG h0;have hn:n<g.length:=by omega
  have hol:=G.len;rw[bstS,if_pos ⟨h0,h1⟩,M9];have hcons:(nth (fU g.length (aY g)) n<0\/((n:Int)≠0/\nth out n<0))↔¬Cons g out n:=by
   by_cases hr:Rg g n
   ·rw[tZ hr];constructor
    ·rintro(h | ⟨h2,h3⟩)
     ·omega
     rintro⟨_,h4 | h4⟩
     ·omega
     have:=h4.2;omega
    intro h;right;refine⟨λe=>h ⟨hr,.inl Q1⟩,?_⟩;rcases Int.lt_or_le (nth out n) 0 with h2 | h2
    ·exact h2
    exact absurd ⟨hr,.inr ⟨by omega,h2⟩⟩ h
   rw[CD hn hr];exact⟨λ_ h=>hr h.1,λ_=>.inl Q1⟩
  by_cases hc:Cons g out n
  ·rw[if_neg λh=>hcons.1 h hc];rcases hB with⟨rfl,hQ⟩ | ⟨c,rfl,hok,hex,hq⟩
   ·rw[if_pos Q2];obtain⟨b',h2,h3⟩:=sv G C l n (λa=>a=n) (.inr ⟨n,rfl,hc.2,⟨n,rfl⟩,λx=>by simp⟩) hl';refine⟨b',h2,pY (λa=>?_) h3⟩;constructor
    ·rintro(rfl | ⟨h4,h5⟩)
     ·exact .inr ⟨Ng ..,hc⟩
     exact .inr ⟨Nf _ h4,h5⟩
    rintro(h4 | ⟨h4,h5⟩)
    ·exact absurd h4 (hQ a)
    rcases Nu.1 h4 with h4 | h4
    ·exact .inl Q1
    exact .inr ⟨h4,h5⟩
   rw[if_neg Q1];obtain⟨rc,_⟩:=G.BG C hok;obtain⟨d,h2,h3,h4⟩:=pw G C (2*g.length+2) c n hok hc.2 (by have:=IP rc;have:=IP hc.1;omega);rw[h2];simp only[Nn];obtain⟨b',h5,h6⟩:=sv G C l d (λa=>Q a\/a=n) (.inr ⟨d,rfl,h3,⟨n,.inr rfl⟩,λx=>by
    rw[h4,hq];constructor
    ·rintro⟨h7,h8⟩ a (ha | rfl)
     ·exact h7 a ha
     exact h8
    intro h7;exact⟨λa ha=>h7 a (.inl ha),h7 n (.inr rfl)⟩⟩) hl';refine⟨b',h5,pY (λa=>?_) h6⟩;constructor
   ·rintro((h7 | rfl) | ⟨h7,h8⟩)
    ·exact .inl h7
    ·exact .inr ⟨Ng ..,hc⟩
    exact .inr ⟨Nf _ h7,h8⟩
   rintro(h7 | ⟨h7,h8⟩)
   ·exact .inl (.inl h7)
   rcases Nu.1 h7 with h7 | h7
   ·exact .inl (.inr Q1)
   exact .inr ⟨h7,h8⟩
  rw[if_pos (hcons.2 hc)];obtain⟨b',h2,h3⟩:=sv G C l best Q hB hl';refine⟨b',h2,pY (λa=>?_) h3⟩;constructor
  ·rintro(h4 | ⟨h4,h5⟩)
   ·exact .inl h4
   exact .inr ⟨Nf _ h4,h5⟩
  rintro(h4 | ⟨h4,h5⟩)
  ·exact .inl h4
  rcases Nu.1 h4 with h6 | h6
  ·exact absurd ((show a=n by omega)▸h5) hc
  exact .inr ⟨h6,h5⟩
theorem EB(G:Good g f k out)(C:Ch (Rg g) (rk g) (Eg g) f (Dm g)){c:Nat}(hR:Rg g c)(hc:c≠0)(hk:rk g c=k):
  ∃q:Nat,bstS out (fU g.length (aY g)) g.length (nth (cw g) c) (-1)=QB (q:Int)/\Turn (Rg g) (rk g) (Eg g) (st out) (pd out) c q:=by
 have hlt:=hR.lt;obtain⟨best,h1,h2⟩:=sv G C (nth (cw g) c) (-1) (λ_=>False) (.inl ⟨rfl,λ_ h=>h⟩) (tS (λe he=>(nI he).1) (λi x hx=>by
  rcases M0 i g.length with hi | hi
  ·rw[ay hi]at hx;cases hx
  rw[aW (by simpa using hi)]at hx;cases hx) c);have hm : ∀a:Nat,(a:Int)∈nth (cw g) c↔Eg g a c:=λa=>by have:=DY (g:=g) (a:=a) (b:=c) Q5;rwa [M9]at this
 obtain⟨f1,f2,f3⟩:=C.hf c hR hc;rcases h2 with⟨_,h3⟩ | ⟨q,rfl,hok,_,hq⟩
 ·exact absurd (.inr ⟨(hm _).2 f2,f1,G.inv.fc C hR hc hk⟩) (h3 (f c))
 refine⟨q,h1,hok,λx=>?_⟩;rw[hq];constructor
 ·intro h a h4 h5 h6;exact h a (.inr ⟨(hm a).2 h4,h5,h6⟩)
 rintro h a (h4 | ⟨h4,h5,h6⟩)
 ·exact h4.elim
 exact h a ((hm a).1 h4) h5 h6
end
end
section
open Chk
def pG(w:Nat->Nat):Nat->Nat
 | 0=>0
 | n+1=>pG w n+w n
theorem FC{w w':Nat->Nat} : ∀{n:Nat},(∀b,b<n->w' b<=w b)->pG w' n<=pG w n
 | 0,_=>MY _
 | n+1,h=>Nat.add_le_add (FC λb hb=>h b Q1) (h n Q1)
theorem G0{w w':Nat->Nat}{c:Nat} : ∀{n:Nat},(∀b,b<n->w' b<=w b)->c<n->w' c<w c->pG w' n<pG w n
 | 0,_,h,_=>by omega
 | n+1,h,hc,hlt=>by
  rcases M0 c n with h1 | h1
  ·have:=G0 (n:=n) (λb hb=>h b Q1) h1 hlt;have:=h n Q1;simp only[pG];omega
  obtain rfl:c=n:=by omega
  have:=FC (n:=c) λb hb=>h b Q1;simp only[pG];omega
theorem yz{w:Nat->Nat}{m:Nat} : ∀{n:Nat},(∀b,b<n->w b<=m)->pG w n<=n*m
 | 0,_=>by simp[pG]
 | n+1,h=>by have:=yz (n:=n) λb hb=>h b Q1;have:=h n Q1;rw[pG,NY];omega
section
variable{g:Gr}{f:Nat->Nat}{k:Nat}{out:List Int}
def wt(g:Gr)(out:List Int)(b:Nat):Nat:=if nth out b<0 then g.length else rk g (st out b)
def mu(g:Gr)(out:List Int):Nat:=pG (wt g out) g.length
theorem Good.set(G:Good g f k out)(C:Ch (Rg g) (rk g) (Eg g) f (Dm g)){c q:Nat}(hR:Rg g c)(hc:c≠0)(hk:rk g c=k)(T:Turn (Rg g) (rk g) (Eg g) (st out) (pd out) c q)(ch:Bool) :
  Good g f (k+1) (setS out ch c q).1/\mu g (setS out ch c q).1<=mu g out/\((setS out ch c q).2=QF->ch=QF\/mu g (setS out ch c q).1<mu g out)/\((setS out ch c q).2=QG->ch=QG/\(setS out ch c q).1=out/\st out c=q/\pd out c):=by
 have hlt:=hR.lt;have hol:=G.len;obtain⟨hq,hqn⟩:=G.BG C T.ok;have I:=G.inv.turn C hR hc hk T;by_cases e:nth out c=q
 ·have hs:setS out ch c q=(out,ch):=by simp[setS,e]
  rw[hs];have hst:upd (st out) c q=st out:=by
   funext b;unfold upd;split
   ·rename_i hb;subst hb;simp[st,e]
   rfl
  have hpd:add (pd out) c=pd out:=by
   funext b;refine propext ⟨λh=>?_,.inr⟩;rcases h with rfl | h
   ·exact Q5
   exact h
  rw[hst,hpd]at I;exact⟨⟨G.len,G.rng,I⟩,MY _,.inl,λh=>⟨h,rfl,by simp[st,e],by omega,by omega⟩⟩
 have hs:setS out ch c q=(out.set c q,QF):=by simp[setS,e]
 rw[hs];have hn : ∀b,b<g.length->nth (out.set c q) b=if c=b then(q:Int) else nth out b:=λb hb=>aK Q1;have hst:st (out.set c q)=upd (st out) c q:=by
  funext b;unfold upd st;rcases M0 b out.length with hb | hb
  ·rw[aK hb];by_cases h:c=b
   ·rw[if_pos h,if_pos h.symm];simp
   rw[if_neg h,if_neg (Ne.symm h)]
  rw[aW (by simpa using hb),aW hb,if_neg Q1]
 have hpd:pd (out.set c q)=add (pd out) c:=by
  funext b;refine propext ?_;unfold pd add;rw[Nq];constructor
  ·rintro⟨h1,h2⟩;rw[aK h1]at h2;by_cases h:c=b
   ·exact .inl h.symm
   rw[if_neg h]at h2;exact .inr ⟨h1,h2⟩
  rintro(rfl | ⟨h1,h2⟩)
  ·exact⟨by omega,by rw[aK Q1,if_pos rfl];omega⟩
  refine⟨h1,?_⟩;rw[aK h1];split
  ·omega
  exact h2
 have hw : ∀b,b<g.length->wt g (out.set c q) b<=wt g out b/\(b=c->wt g (out.set c q) b<wt g out b):=by
  intro b hb;by_cases h:c=b
  ·subst h;have e1:wt g (out.set c q) c=rk g q:=by unfold wt;rw[hn c hb,if_pos rfl,if_neg Q1,hst];simp[upd]
   have e2:rk g q<wt g out c:=by
    unfold wt;split
    ·exact IP hq
    rename_i h1;have hp:pd out c:=Q5;rcases G.inv.L6 T hp with h2 | h2
    ·exfalso;have:=Nj hp.2;unfold st at h2;omega
    exact h2
   omega
  have e1:wt g (out.set c q) b=wt g out b:=by unfold wt st;rw[hn b hb,if_neg h]
  exact⟨by omega,λe=>absurd e.symm h⟩
 have hmu:mu g (out.set c q)<mu g out:=G0 (λb hb=>(hw b hb).1) hlt ((hw c hlt).2 rfl);refine⟨⟨by simpa using hol,λb hb=>?_,by rw[hst,hpd];exact I⟩,by show mu g (out.set c q)<=_;omega,λ_=>.inr hmu,λh=>by cases h⟩;rw[hn b hb];split
 ·right;omega
 exact G.rng b hb
theorem vD(C:Ch (Rg g) (rk g) (Eg g) f (Dm g)) : ∀(l:List Int) (k:Nat) (out:List Int) (ch:Bool),l=(aY g).drop k->1<=k->k<=(aY g).length->Good g f k out->
  ∃out' ch',rH (fU g.length (aY g)) (cw g) g.length l (out,ch)=QB (out',ch')/\Good g f (aY g).length out'/\mu g out'<=mu g out/\(ch'=QF->ch=QF\/mu g out'<mu g out)/\
   (ch'=QG->ch=QG/\out'=out/\∀c:Nat,(c:Int)∈l->pd out c/\Turn (Rg g) (rk g) (Eg g) (st out) (pd out) c (st out c))
 | [],k,out,ch,hl,_,hk,G=>by
  have hk2:(aY g).length<=k:=by have:=congrArg List.length hl;simp only[O9,NJ]at this;omega
  obtain rfl:k=(aY g).length:=by omega
  exact⟨out,ch,rfl,G,MY _,.inl,λh=>⟨h,rfl,by simp⟩⟩
 | b::l,k,out,ch,hl,h1,hk,G=>by
  have hlt:k<(aY g).length:=by have:=congrArg List.length hl;simp only[N2,NJ]at this;omega
  rw[NK hlt]at hl;obtain⟨hb,hl2⟩:=List.cons.inj hl;have hmem:b∈aY g:=by rw[hb];exact Oi _
  have hg:0<g.length:=by have:=rM (g:=g);omega
  have O:=kq hg;have hr:=O.rng b hmem;obtain⟨c,rfl⟩:=OG hr.1;have hR:Rg g c:=(O.mem c).1 hmem;have hrk:rk g c=k:=by unfold rk;rw[hb,OX O.nodup]
  have hc0:c≠0:=λe=>by subst e;rw[vf hg]at hrk;omega
  obtain⟨q,h3,T⟩:=EB G C hR hc0 hrk;rw[rH,if_pos hr,M9];simp only;rw[h3];simp only[Nn];obtain⟨g1,g2,g3,g4⟩:=G.set C hR hc0 hrk T ch;have e:setS out ch c q=((setS out ch c q).1,(setS out ch c q).2):=rfl;rw[e];generalize hs1:(setS out ch c q).1=o1 at g1 g2 g3 g4;generalize hs2:(setS out ch c q).2=c1 at g3 g4;obtain⟨out',ch',k1,k2,k3,k4,k5⟩:=vD C l (k+1) o1 c1 hl2 Q1 Q1 g1;refine⟨out',ch',k1,k2,by omega,λh=>?_,λh=>?_⟩
  ·rcases k4 h with h4 | h4
   ·rcases g3 h4 with h5 | h5
    ·exact .inl h5
    exact .inr Q1
   exact .inr Q1
  obtain⟨h4,rfl,h6⟩:=k5 h;obtain⟨h7,rfl,h8,h9⟩:=g4 h4;refine⟨h7,rfl,λx hx=>?_⟩;rcases Nu.1 hx with hx | hx
  ·obtain rfl:x=c:=by omega
   exact⟨h9,h8▸T⟩
  exact h6 x hx
theorem Good.one(hg:0<g.length)(G:Good g f 0 out):Good g f 1 out:=by have I:=G.inv;have h0 : ∀b,Rg g b->b≠0->¬rk g b<1:=λb hR hb h=>hb (Cl hR (.root hg Q2) (by rw[vf hg];omega));exact⟨G.len,G.rng,⟨I.pr,λb hR hb h=>absurd h (h0 b hR hb),I.fok,I.K,λb hb y hy _=>I.FP b hb y hy Q1,λb hb h=>absurd h (h0 b (I.pr b hb).1 (I.pr b hb).2.1),I.S⟩⟩
structure pU(g:Gr)(f:Nat->Nat)(l:List Int):Prop where
 good:Good g f (aY g).length l
 turn : ∀c,Rg g c->c≠0->pd l c/\Turn (Rg g) (rk g) (Eg g) (st l) (pd l) c (st l c)
theorem xZ(hg:0<g.length)(C:Ch (Rg g) (rk g) (Eg g) f (Dm g)) : ∀(fuel:Nat) (out:List Int),Good g f 0 out->mu g out<fuel->
  ∃l,nG (fU g.length (aY g)) (cw g) g.length ((aY g).drop (min 1 (aY g).length)) fuel out=QB l/\pU g f l
 | 0,_,_,h=>by omega
 | fuel+1,out,G,h=>by
  have O:=kq hg;have hlen:0<(aY g).length:=by
   rcases Oe (aY g).length with h | h
   ·have:=O.head;rw[Nl h]at this;cases this
   exact h
  have hm:min 1 (aY g).length=1:=by omega
  rw[nG,hm];obtain⟨out',ch',k1,k2,k3,k4,k5⟩:=vD C ((aY g).drop 1) 1 out QG rfl (MY _) hlen (G.one hg);rw[k1];simp only[Nn];cases ch' with
  | true=>rw[if_pos rfl];have:=xZ hg C fuel out' ⟨k2.len,k2.rng,k2.inv.again λb hb=>C9 hb⟩ (by rcases k4 rfl with h1 | h1;cases h1;omega);rwa [hm]at this
  | false=>
   rw[if_neg Sb];obtain⟨_,rfl,h6⟩:=k5 rfl;refine⟨_,rfl,k2,λc hR hc=>h6 c ?_⟩;have hmem:=(O.mem c).2 hR;obtain⟨i,hi,e⟩:=Ni hmem;have hi0:i≠0:=λh0=>by subst h0;have:=O.head;rw[N9 hi]at this;have:=Option.some.inj this;omega
   rw[<-e];refine List.mem_iff_getElem.2 ⟨i-1,by rw[NJ];omega,?_⟩;rw[PB];congr 1;omega
theorem yv(hg:0<g.length): ∃f,Ch (Rg g) (rk g) (Eg g) f (Dm g)/\∃l,yu g (g.length*g.length+1)=QB l/\pU g f l:=by
 obtain⟨f,hf⟩:=Jo hg;have C:=LU hg hf;refine⟨f,C,?_⟩;refine xZ hg C _ _ ⟨by simp,λb hb=>.inl (ay hb),?_⟩ ?_
 ·have:pd (List.replicate g.length (-1))=λ_=>False:=by funext b;refine propext ⟨λ⟨h1,h2⟩=>?_,λh=>h.elim⟩;rw[ay (by simpa using h1)]at h2;omega
  rw[this];exact Inv.start
 have:=yz (w:=wt g (List.replicate g.length (-1))) (m:=g.length) (n:=g.length) λb hb=>by unfold wt;rw[ay hb,if_pos Q1];exact MY _
 unfold mu;omega
theorem pU.anc{l:List Int}(I:pU g f l)(C:Ch (Rg g) (rk g) (Eg g) f (Dm g)){x b:Nat}(hb:Rg g b):Anc (st l) x b↔Dm g x b:=by
 have hok : ∀b,Rg g b->Ok (pd l) b:=λb h=>by
  by_cases e:b=0
  ·exact .inl e
  exact .inr (I.turn b h e).1
 constructor
 ·intro h;have hx:=(I.good.BG C (I.good.inv.anc h (hok b hb)).1).1;refine pW.2 ⟨hx,hb,λhre=>?_⟩;have key : ∀b,Re g x b->¬Anc (st l) x b:=by
   intro b hre;induction hre with
   | root h1 h2=>intro h;have:=sK.1 h;omega
   | step ha he hne ih=>
    rename_i a b;intro h;by_cases e:b=0
    ·subst e;have:=sK.1 h;omega
    have hRb:Rg g b:=.step ha.all he Q1;have h3:=((nU e).1 h).resolve_left Q1;exact ih (((I.turn b hRb e).2.q x).1 h3 a he ha.all (hok a ha.all))
  exact key b hre h
 intro h;exact I.good.inv.dom C (hok b hb) h
end
end
section
open Chk
variable{n:Nat}
theorem Db{p:Nat->Bool}:uw p n=QF↔∀i,i<n->p i=true:=by
 unfold uw;induction n with
 | zero=>simp[up]
 | succ n ih=>
  rw[up,De,M8,ih];constructor
  ·rintro⟨h1,h2⟩ i hi;rcases M0 i n with h | h
   ·exact h1 i h
   obtain rfl:i=n:=by omega
   exact h2
  intro h;exact⟨λi hi=>h i Q1,h n Q1⟩
section
variable{g:Gr}{f:Nat->Nat}{l:List Int}
variable{b:Nat}
theorem pU.none(I:pU g f l)(hb:b<g.length)(h:¬Rg g b\/b=0):nth l b=-1:=by
 rcases I.good.rng b hb with h1 | h1
 ·exact h1
 exfalso;have:=I.good.inv.pr b ⟨by rw[I.good.len];exact hb,h1.1⟩;rcases h with h | h
 ·exact h this.1
 exact this.2.1 h
theorem DX{a:Int}(ha:0<=a): ∀k,pT l a k (-1)=QG
 | 0=>rfl
 | k+1=>by rw[pT,if_neg Q1,if_pos (.inl Q1)]
theorem wP(I:pU g f l)(C:Ch (Rg g) (rk g) (Eg g) f (Dm g)){a:Nat} : ∀(k b:Nat),Rg g b->rk g b<k->(pT l a k b=QF↔Anc (st l) a b)
 | 0,b,_,h=>by omega
 | k+1,b,hb,h=>by
  have hlt:=hb.lt;have hll:=I.good.len;rw[pT];by_cases e:(b:Int)=a
  ·rw[if_pos e];have:a=b:=by omega
   subst this;exact⟨λ_=>.self,λ_=>rfl⟩
  rw[if_neg e,if_neg Q1,M9];by_cases h0:b=0
  ·subst h0;rw[I.none hlt (.inr rfl),DX Q1,sK];constructor
   ·intro h;cases h
   intro h;omega
  obtain⟨hp,_⟩:=I.turn b hb h0;obtain⟨h1,h2,h3,h4⟩:=I.good.inv.pr b hp;have e2:nth l b=((st l b:Nat):Int):=(Nj hp.2).symm;rw[e2,wP I C k (st l b) (I.good.inv.okR C h3) Q1,nU h0];exact⟨.inr,λh=>h.resolve_left Q1⟩
theorem sM(I:pU g f l)(C:Ch (Rg g) (rk g) (Eg g) f (Dm g)){a:Nat}(ha:a<g.length)(hb:Rg g b):ez l a b=domC g a b:=by have hlt:=hb.lt;have hll:=I.good.len;rw[ez,decide_eq_true Q1,Qc,NH,wP I C _ _ hb (by have:=IP hb;omega),I.anc C hb];rfl
end
end
theorem Gb{l:List Int}{x:Int}{v:Value}{h:Heap}(hl:SlRd (vw h) v l):aw QH N.slices_Index_int #[v,Qy Qz x] h (λu h'=>(∃r:Int,u = Qy Qz r/\(0<=r↔x∈l))/\h'=h):=by
 refine ak (args:=[v,Qy Qz x]) follows F.slices_Index_int E.slices_Index_int Q9 λK hK=>?_;have bl:=hl.bound;simp[L.slices_Index_int,hl.len];refine aJ [0,1,7,8] (fun(_:Unit) i=>[v,Qy Qz x,Qy Qz l.length,Qy Qz i]) (λ_ i h1=>h1=h/\∀j,j<i->nth l j≠x) l.length ()
  rfl Q1 rfl ⟨rfl,λj hj=>by omega⟩ (λ_ _=>rfl) (λv i h1 hk m=>by simp) ?_ ?_
 ·rintro _ i h hlt ⟨rfl,hpre⟩ K2 hK2;simp(disch:=omega)[hl.idx1 rfl,hl.int Qw];refine⟨λe=>hK _ _ ⟨⟨i,rfl,by simp;rw[e];exact bD hlt⟩,rfl⟩,λe=>hK2 () _ _ rfl rfl ⟨rfl,λj hj=>?_⟩⟩;rcases M0 j i with h | h
  ·exact hpre j h
  have:j=i:=by omega
  subst this;exact λe2=>e e2.symm
 rintro _ h ⟨rfl,hpre⟩;simp;refine hK _ _ ⟨⟨-1,rfl,by simp;intro hm;obtain⟨j,hj,e⟩:=Ni hm;exact hpre j hj (by rw[ao hj];exact e)⟩,rfl⟩
theorem AF{l:List Int}{x:Int}{v:Value}{h:Heap}(hl:SlRd (vw h) v l):aw QH N.slices_Contains_int #[v,Qy Qz x] h (λu h'=>u = .bool (l.contains x)/\h'=h):=by refine ak (args:=[v,Qy Qz x]) follows F.slices_Contains_int E.slices_Contains_int Q9 λK hK=>?_;simp[L.slices_Contains_int];refine ag Q0 (Gb hl) ?_;rintro _ _ ⟨⟨r,rfl,hr⟩,rfl⟩;simp;exact hK _ _ ⟨by simp[<-hr],rfl⟩
def ofG(l:List BlkD):Gr:=rows (λi=>lH (nth l i).term.to l.length) l.length
theorem vk{l:List BlkD}{v:Value}{p:Int}{h:Heap}(hv:SlRd (vw h) v l)(hl:l.length<=1000000)(hs : ∀i,i<l.length->(nth l i).term.to.length<=1000000):
  aw QH N.je #[.agg #[Qy Qz p,v]] h (λu h'=>(vw h).le (vw h')/\SlRd (fresh h h') u (ofG l)):=by
 refine ak (args:=[.agg #[Qy Qz p,v]]) follows F.je E.je Q9 λK hK=>?_;obtain⟨hvc,hvo⟩:=hv.cells;simp[L.je];refine my (v:=.agg #[Qy Qz p,v]) Sb ?_;have hle1:=bA h (.cells (Value.agg #[Qy Qz p,v]).cells T.a7);have hc1:aj (vw (h.push (.cells (Value.agg #[Qy Qz p,v]).cells T.a7))) ⟨h.size,1,QC⟩=QB v:=bV (c:=#[Qy Qz p,v]) (T:=T.a7) (fz:=(0,0)) (by simp[vw,Value.cells]) rfl;generalize h.push (.cells (Value.agg #[Qy Qz p,v]).cells T.a7)=h1 at hle1 hc1;have hv1:=hv.mono hle1;simp[hc1,hv1.len];refine Mine.made (α:=List Int) (V:=nothing) (W:=nothing) (h0:=h1) (n:=l.length) (d:=[]) El.dd Qw (λ_ _ h=>by cases h) (Old.nothing _ _) (by simp<;>rfl) (by simp<;>rfl) Hl Q1 Q1 λo h2 m hle2 _=>?_;have hc2:=ae hle2 hc1;have hv2:=hv1.mono hle2;simp[hc2,hv2.len];refine aJ [1,3,11,12,13] (fun(_:View) k=>[QT h.size,o,v,Qy Qz l.length,Qy Qz k]) (λW k h3=>Mine nothing h1 h3 W T.bn o (rows (λi=>lH (nth l i).term.to l.length) k++List.replicate (l.length-k) [])) l.length nothing
  rfl Q1 rfl m (λ_ _=>rfl) (λv k h1 hk m=>by simp) ?_ ?_
 ·rintro W a h3 hlta m K2 hK2;have hle3:=m.old;have hc3:=ae hle3 hc1;have hv3:=hv1.mono hle3;obtain⟨u,hu1,hu2⟩:=hv3.wh rfl (N:=6) rfl hlta;have hal:=hs a hlta;have hl5:(rows (λi=>lH (nth l i).term.to l.length) a++List.replicate (l.length-a) ([]:List Int)).length=l.length:=by simp;omega
  refine ab λz hz=>?_;simp(disch:=omega)[hv3.idxn (N:=6) rfl,hu1 _ Qw];refine eP (z:=zz3) Q0 rfl Q0 hu2 Q4 Q4 λh4 hle4 hsz4 hat=>?_;obtain⟨vp,vi,va,vt,bp,bi,bk,ba,bt⟩:=nZ (hat (vw h4) hle4 rfl);have hc4:=ae hle4 hc3;have hv4:=hv3.mono hle4;subst hz;simp[bt.1,hc4,hv4.len];refine ag Q0 (DK bt.2 Q1) ?_;rintro r h5 ⟨W',mr⟩;have m5:=(m.ext' hle4).ext mr.old;have hr:=mr.fresh.mono (jd W _ _);simp(disch:=omega)[m5.now.idx1 rfl];refine m5.put1 (α:=List Int) (i:=a) Q0 rfl Sb (by simp<;>rfl) Q1 (fG.2 hr) λh6 m6=>hK2 (grow W h4 h5) _ _ rfl rfl ?_;rw[ny (x:=λi=>lH (nth l i).term.to l.length) hlta]at m6;exact m6
 rintro W h3 m;simp at m;simp;exact hK _ _ ⟨Qx hle1 m.old,m.fresh.mono (xg hle1)⟩
def lJ(w:Int × Int)(idom:List Int)(blk at_:Int):Bool:=(decide (w.1=blk)&&(decide (w.2<at_)||decide (w.2<0)))||(!decide (w.1=blk)&&ez idom w.1 blk)
def useS(ps:Int)(m:MW)(idom:List Int)(v blk place at_ told:Int):Except Tr Unit:=
 if 0<=v/\v<ps then .ok () else match m v with
  | none=>.error (13,told,place)
  | some w=>if lJ w idom blk at_ then .ok () else .error (13,told,place)
theorem CK{Kb r:Nat}{vb vd:Value}{f:aq}{m:MW}{idom:List Int}{h:Heap}{p5 p6:Addr}{v blk place at_ told:Int}(k:Lk h Kb r vb f m)(h5:aj (vw h) p5=QB (QT Kb))(h6:aj (vw h) p6=QB vd)(hd:SlRd (vw h) vd idom):
  jr QH N.aO #[Qy Qz v,Qy Qz blk,Qy Qz place,Qy Qz at_,Qy Qz told,QE (QB p5),QE (QB p6)] h (λ_ h'=>useS f.params m idom v blk place at_ told = .ok ()/\(vw h).le (vw h'))
   (λch h'=>∃t,useS f.params m idom v blk place at_ told = .error t/\ch=trV t/\(vw h).le (vw h')):=by
 refine iY (args:=[Qy Qz v,Qy Qz blk,Qy Qz place,Qy Qz at_,Qy Qz told,QE (QB p5),QE (QB p6)]) follows F.aO E.aO Q9 λK Kp hK hKp=>?_;dsimp only[L.aO];by_cases hp:0<=v/\v<f.params
 ·simp[h5,ae cj k.c0,hp];exact hK _ _ ⟨by simp[useS,hp],View.le_refl _⟩
 have hu:useS f.params m idom v blk place at_ told=match m v with
   | none=>.error (13,told,place)
   | some w=>if lJ w idom blk at_ then .ok () else .error (13,told,place):=by rw[useS,if_neg hp]
 rw[hu]at hK hKp;refine ab λz hz=>?_;have hc:(decide (0<=v)&&decide (v<f.params))=false:=by rw[Pm];intro e;exact hp (by simpa using e)
 simp[h5,ae cj k.c0,hc];subst hz;refine ab λz hz=>?_;simp[h5,ae cj k.c2];refine mc (z:=zz1) U.fS U.int Q0 (by simp<;>rfl) (by simp<;>rfl) gu k.map ?_;have cellsW:((mapE encW m (Qy Qz v))).getD (.agg #[Qy Qz 0,Qy Qz 0])=encW ((m v).getD (0,0)):=by rw[ly];cases m v<;>rfl
 have isW:(mapE encW m (Qy Qz v)).isSome=(m v).isSome:=by rw[ly];cases m v<;>rfl
 rw[cellsW,isW];simp;refine j6 (n:=2) (v:=encW ((m v).getD (0,0))) (z:=zz1) Q0 rfl Q0 rfl (by simp[encW,Value.oneCell']) Q4 Q4 λh3 hle3 hsz3 hb3=>?_;have d0:aj (vw h3) ⟨h.size,0,QC⟩=QB (Qy Qz ((m v).getD (0,0)).1):=bV (show vw h3 h.size=_ from hb3) rfl;have d1:aj (vw h3) ⟨h.size,1,QC⟩=QB (Qy Qz ((m v).getD (0,0)).2):=bV (show vw h3 h.size=_ from hb3) rfl;have h63:=ae hle3 h6;have hd3:=hd.mono hle3;generalize h.size=B at d0 d1;subst hz;have fin : ∀(ok:Bool) (h4:Heap) (ρ:Env) (z:LC),(vw h).le (vw h4)->(∀w,m v=QB w->ok=lJ w idom blk at_)->(m v=QC->ok=QG)->z = .reg QG (.loud [65,66,67] [] [(65,.tmp 13),(66,.tmp 4),(67,.tmp 2)] QC [] QG (.call ⟨.value (.func N.ft),#[.tmp 65,.const (Qy Qz 13),.tmp 66,.tmp 67],#[T.bool,T.nj,T.int,T.int]⟩) 0 (QB 68) QG (.fin [] [] []))->
   Lft.look ρ 13=QB (.bool ok)->Lft.look ρ 4=QB (Qy Qz told)->Lft.look ρ 2=QB (Qy Qz place)->@LC.wp (ppOf Kp) QH z (@fu [] K) ρ h4:=by
  rintro ok h4 ρ _ hle4 hs hn rfl e13 e4 e2;simp[e13,e4,e2];refine dM Q0 iP ?_ ?_
  ·rintro _ _ ⟨e,rfl⟩;refine hK _ _ ⟨?_,hle4⟩;cases hm:m v with
   | none=>rw[hn hm]at e;cases e
   | some w=>simp only;rw[if_pos (by rw[<-hs w hm];exact e)]
  rintro _ _ ⟨e,rfl,rfl⟩;refine⟨.inl rfl,hKp _ _ ⟨_,?_,rfl,hle4⟩⟩;cases hm:m v with
  | none=>rfl
  | some w=>simp only;rw[if_neg (by rw[<-hs w hm,e];simp)]
 refine ab λz hz=>?_;cases hm:m v with
 | none=>rw[hm]at d0 d1;simp[d0,d1];refine fin QG _ _ _ hle3 (λw hw=>by rw[hm]at hw;cases hw) (λ_=>rfl) hz ?_ ?_ ?_<;>simp
 | some w=>
  rw[hm]at d0 d1;simp at d0 d1;by_cases c1:w.1=blk
  ·by_cases c2:w.2<at_
   ·simp[d0,d1,c1,c2];refine fin QF _ _ _ hle3 (λw' hw=>by rw[hm]at hw;cases hw;simp[lJ,c1,c2]) (λe=>by simp[hm]at e) hz ?_ ?_ ?_<;>simp
   by_cases c3:w.2<0
   ·simp[d0,d1,c1,c2,c3];refine fin QF _ _ _ hle3 (λw' hw=>by rw[hm]at hw;cases hw;simp[lJ,c1,c2,c3]) (λe=>by simp[hm]at e) hz ?_ ?_ ?_<;>simp
   simp[d0,d1,c1,c2,c3];refine fin QG _ _ _ hle3 (λw' hw=>by rw[hm]at hw;cases hw;simp[lJ,c1,c2,c3]) (λe=>by simp[hm]at e) hz ?_ ?_ ?_<;>simp
  simp[d0,d1,c1,h63];refine ag Q0 (yL hd3) ?_;rintro _ h4 ⟨rfl,hle4⟩;refine fin _ _ _ _ (Qx hle3 hle4) (λw' hw=>by rw[hm]at hw;cases hw;simp[lJ,c1];rfl) (λe=>by simp[hm]at e) hz ?_ ?_ ?_<;>simp
def lq(x:PhiD)(row:List Int)(b:Nat):Bool:=decide (0<b)&&decide ((x.ins.length:Int)=(row.length:Int))
def yq(x:PhiD)(row:List Int)(j:Nat):Bool:=decide ((nth x.ins j).frm=nth row j)
def Bt(x:PhiD)(row:List Int)(b:Nat):Bool:=lq x row b&&uw (yq x row) x.ins.length
def uAll(g:Nat->Except Tr Unit)(n:Nat):Except Tr Unit:=upE (λi _=>g i) n ()
def phiU(f:aq)(m:MW)(idom:List Int)(preds:Gr)(b i:Nat):Except Tr Unit:=
 let x:=nth (nth f.blocks b).phis i
 if Bt x (nth preds b) b then uAll (λj=>useS f.params m idom (nth x.ins j).val (nth x.ins j).frm (-1-i) (nth f.blocks (nth x.ins j).frm.toNat).ins.length b) x.ins.length else .error (16,b,-1-i)
def insU(f:aq)(m:MW)(idom:List Int)(b i:Nat):Except Tr Unit:=
 uAll (λj=>useS f.params m idom (nth (nth (nth f.blocks b).ins i).args j) b i i b) (nth (nth f.blocks b).ins i).args.length
def endU(f:aq)(m:MW)(idom:List Int)(b:Nat):Except Tr Unit:=
 uAll (λj=>useS f.params m idom (nth (nth f.blocks b).term.args j) b (nth f.blocks b).ins.length (nth f.blocks b).ins.length b) (nth f.blocks b).term.args.length
def andE(x y:Except Tr Unit):Except Tr Unit:=match x with | .ok _=>y | .error t=>.error t
def blkU(f:aq)(m:MW)(idom:List Int)(preds:Gr)(b:Nat):Except Tr Unit:=
 andE (uAll (phiU f m idom preds b) (nth f.blocks b).phis.length) (andE (uAll (insU f m idom b) (nth f.blocks b).ins.length) (endU f m idom b))
def tE(f:aq)(b:Nat):Except Tr Unit:=if decide ((b:Int)∈aY (ofG f.blocks)) then .ok () else .error (15,b,0)
def tg(f:aq)(m:MW)(idom:List Int):Except Tr Unit:=
 andE (uAll (tE f) f.blocks.length) (uAll (blkU f m idom (cw (ofG f.blocks))) f.blocks.length)
variable{n:Nat}
theorem nS{g:Nat->Except Tr Unit}{k:Nat}{t:Tr}(h:uAll g k = .ok ())(hk:k<n)(he:g k = .error t):uAll g n = .error t:=yT h hk he
theorem kH{g:Nat->Except Tr Unit}{k:Nat}(h:uAll g k = .ok ()):uAll g (k+1)=g k:=nE h
theorem FX{H:View}{B:Nat}{u v:Value}(h0:aj H ⟨B,0,QC⟩=QB u)(h1:aj H ⟨B,1,QC⟩=QB v):Un.ev H (.ax 2) (QT B)=QB (.agg #[u,v]):=by simp[Un.ev,vP,dy,h0,h1]
theorem FT{l:List BlkD}(hl:l.length<=1000000)(hs : ∀i,i<l.length->(nth l i).term.to.length<=1000000):Sm (ofG l):=by
 have hlen:(ofG l).length=l.length:=by simp[ofG]
 refine⟨by omega,λi hi=>?_⟩;rw[hlen]at hi;rw[ofG,eF hi];exact NB yy (hs i hi)
theorem I5{Kb r:Nat}{vb:Value}{f:aq}{m:MW}{idom:List Int}{fuel:Nat}{h:Heap}(k:Lk h Kb r vb f m)(hn:f.blocks.length<=1000000)(hto : ∀i,i<f.blocks.length->(nth f.blocks i).term.to.length<=1000000)(hd:yu (ofG f.blocks) fuel=QB idom):
  jr QH N.aD #[QT Kb] h (λ_ h'=>tg f m idom = .ok ()/\(vw h).le (vw h')) (λch h'=>∃t,tg f m idom = .error t/\ch=trV t/\(vw h).le (vw h')):=by
 refine iY (args:=[QT Kb]) follows F.aD E.aD Q9 λK Kp hK hKp=>?_;have hbb:=k.rb.bound;have hsm:=FT hn hto;have hgl:(ofG f.blocks).length=f.blocks.length:=by simp[ofG]
 dsimp only[L.aD];refine ab λz hz=>?_;simp;refine my (v:=QT Kb) Sb ?_;have hle1:=bA h (.cells (Value.cells (QT Kb)) T.mE);have h51:aj (vw (h.push (.cells (Value.cells (QT Kb)) T.mE))) ⟨h.size,0,QC⟩=QB (QT Kb):=by simp[aj,vw]
 generalize h.push (.cells (Value.cells (QT Kb)) T.mE)=h1 at hle1 h51;generalize h.size=B at h51;have k1:=k.ext hle1;subst hz;refine ab λz hz=>?_;simp[h51,FX (ae cj k1.c0) (ae cj k1.c1)];refine ag Q0 (vk (k1.rb.mono cj) hn hto) ?_;rintro vg h2 ⟨hle2,hg⟩;have hg2:=hg.mono (jE _ _);subst hz;refine ab λz hz=>?_;simp;refine ag Q0 (Aw hg2 hsm) ?_;rintro vo h3 ⟨hle3,ho⟩;have ho3:=ho.mono (jE _ _);have hg3:=hg2.mono hle3;have hle13:=Qx hle2 hle3;have k3:=k1.ext hle13;have h53:=ae hle13 h51;have hle03:=Qx hle1 hle13;subst hz;refine ab λz hz=>?_;simp[h53,ae cj k3.c1,k3.rb.len];refine aJ [0,1,2,3,35,36] (fun(_:Unit) b=>[QT Kb,QT B,vg,vo,Qy Qz f.blocks.length,Qy Qz b]) (λ_ b h4=>h4=h3/\uAll (tE f) b = .ok ()) f.blocks.length ()
  rfl Q1 rfl ⟨rfl,rfl⟩ (λ_ _=>rfl) (λv i h1 hk m=>by simp) ?_ ?_
 ·rintro _ b h3 hlt ⟨rfl,hpre⟩ K2 hK2;simp;refine ag Q0 (AF ho3) ?_;rintro _ _ ⟨rfl,rfl⟩;simp;refine dM Q0 iP ?_ ?_
  ·rintro _ _ ⟨e,rfl⟩;exact hK2 () _ _ rfl rfl ⟨rfl,by rw[kH hpre,tE,if_pos e]⟩
  rintro _ _ ⟨e,rfl,rfl⟩;exact⟨.inl rfl,hKp _ _ ⟨_,by rw[tg,nS hpre hlt (by rw[tE,if_neg (by rw[e];simp)])];rfl,rfl,hle03⟩⟩
 rintro _ h3 ⟨rfl,hreach⟩;have hus:tg f m idom=uAll (blkU f m idom (cw (ofG f.blocks))) f.blocks.length:=by rw[tg,hreach];rfl
 rw[hus]at hK hKp;simp;subst hz;refine ab λz hz=>?_;simp;refine ag Q0 (vK hg3 hsm) ?_;rintro vp h4 ⟨hle4,hp⟩;have hp4:=hp.mono (jE _ _);refine ag Q0 (Im (hg3.mono hle4) hsm hd) ?_;rintro vi h5 ⟨W,mi⟩;have hi5:=mi.now;refine eP (α:=List Int) (z:=QD QC 0 0) (X:=vw h5) Q0 rfl Q0 (fG.2 hi5) Q4 Q4 λh6 hle6 hsz6 hat=>?_;obtain⟨vd,hvd,hd6⟩:=(hat (vw h6) hle6 rfl).sl;generalize h5.size=C at hvd;subst hz;have hle36:=Qx hle4 (Qx mi.old hle6);have hp6:=hp4.mono (Qx mi.old hle6);have k6:=k3.ext hle36;have h56:=ae hle36 h53;have hle06:=Qx hle03 hle36;have hpl:(cw (ofG f.blocks)).length=f.blocks.length:=by rw[pK,hgl]
 have hin : ∀b,∀x∈nth (cw (ofG f.blocks)) b,0<=x/\x<f.blocks.length:=by
  rw[<-hgl];exact tS (λe he=>(nI he).1) (λi x hx=>by
   rcases M0 i (ofG f.blocks).length with hi | hi
   ·rw[ay hi]at hx;cases hx
   rw[aW (by simpa using hi)]at hx;cases hx)
 generalize cw (ofG f.blocks)=preds at hp6 hpl hin hK hKp;obtain⟨pv,hpv⟩:=hp6.rows;simp[h56,ae cj k6.c1,k6.rb.len];refine aJ [1,5,7,54,55,56] (fun(_:Unit) b=>[QT B,vp,.func (.func N.aO) #[] #[QT B,QT C],vb,Qy Qz f.blocks.length,Qy Qz b]) (λ_ b h7=>(vw h6).le (vw h7)/\uAll (blkU f m idom preds) b = .ok ()) f.blocks.length ()
  rfl Q1 rfl ⟨View.le_refl _,rfl⟩ (λ_ _=>rfl) (λv i h1 hk m=>by simp) ?_ ?_
 ·rintro _ b h7 hltb ⟨hle7,hpre⟩ K2 hK2;have k7:=k6.ext hle7;have rb7:=k7.rb.mono cj;obtain⟨u,hu,hur⟩:=rb7.wh rfl (N:=6) rfl hltb;obtain⟨pc,pr⟩:=hpv b Q1;have hst:=kH hpre;have her : ∀{t},blkU f m idom preds b = .error t->uAll (blkU f m idom preds) f.blocks.length = .error t:=λe=>nS hpre hltb e;refine ab λz hz=>?_;simp(disch:=omega)[rb7.idxn (N:=6) rfl,hu _ Qw];refine eP (z:=zz3) Q0 rfl Q0 hur Q4 Q4 λh8 hle8 hsz8 hat=>?_;obtain⟨wp,wi,wa,wt,bp,bi,bk,ba,bt⟩:=nZ (hat (vw h8) hle8 rfl);generalize h7.size=D at bp bi bk ba bt;subst hz;have hle68:=Qx hle7 hle8;have bph:=bp.2.bound;have bin:=bi.2.bound;have bar:=ba.2.bound;refine ab λz hz=>?_;simp[bp.1,bp.2.len];refine aJ [1,5,7,8,9,54,55,56,62,63,64] (fun(_:Unit) i=>[QT B,vp,.func (.func N.aO) #[] #[QT B,QT C],Qy Qz b,QT D,vb,Qy Qz f.blocks.length,Qy Qz b,wp,Qy Qz (nth f.blocks b).phis.length,Qy Qz i])
   (λ_ i h9=>(vw h8).le (vw h9)/\uAll (phiU f m idom preds b) i = .ok ()) (nth f.blocks b).phis.length ()
   rfl Q1 rfl ⟨View.le_refl _,rfl⟩ (λ_ _=>rfl) (λv i h1 hk m=>by simp) ?_ ?_
  ·rintro _ i h9 hlti ⟨hle9,hpre9⟩ K3 hK3;have hst9:=kH hpre9;have her9 : ∀{t},phiU f m idom preds b i = .error t->blkU f m idom preds b = .error t:=λe=>by rw[blkU,nS hpre9 hlti e];rfl
   have bp9:=bp.2.mono hle9;obtain⟨u9,hu9,hur9⟩:=bp9.wh rfl (N:=2) rfl hlti;refine ab λy hy=>?_;simp(disch:=omega)[bp9.idxn (N:=2) rfl,hu9 _ Qw];refine eP (z:=zz4) Q0 rfl Q0 hur9 Q4 Q4 λh10 hle10 hsz10 hat10=>?_;obtain⟨_,wq,cq⟩:=y0 (hat10 (vw h10) hle10 rfl);simp only[phiU]at hst9 her9;generalize nth (nth f.blocks b).phis i=x at cq hst9 her9;generalize h9.size=D10 at cq;have bq:=cq.2.bound;subst hy;refine ab λy hy=>?_;have hle610:=Qx hle68 (Qx hle9 hle10);have hp10:=hp6.mono hle610;have pr10:=pr.mono hle610;have hbase:(decide (0<b)&&decide ((x.ins.length:Int)=((nth preds b).length:Int)))=lq x (nth preds b) b:=rfl;simp(disch:=omega)[cq.1,cq.2.len,hp10.idx1 rfl,pc _ hle610,pr10.len];rw[hbase];subst hy;refine ab λy hy=>?_;simp[cq.1,cq.2.len];refine aJ [1,5,7,8,9,10,11,12,54,55,56,62,63,64,83,84,85] (fun(_:Unit) j=>[QT B,vp,.func (.func N.aO) #[] #[QT B,QT C],Qy Qz b,QT D,Qy Qz i,QT D10,
     .bool (lq x (nth preds b) b&&uw (yq x (nth preds b)) j),vb,Qy Qz f.blocks.length,Qy Qz b,wp,Qy Qz (nth f.blocks b).phis.length,Qy Qz i,wq,Qy Qz x.ins.length,Qy Qz j])
    (λ_ j h11=>(vw h10).le (vw h11)) x.ins.length ()
    rfl Q1 (by simp[bh];intro _;rfl) Qw (λ_ _=>rfl) (λv i h1 hk m=>by simp) ?_ ?_
   ·rintro _ j h11 hltj hle11 K4 hK4;have cq11:=cq.2.mono hle11;obtain⟨u11,hu11,hur11⟩:=cq11.wh rfl (N:=2) rfl hltj;refine ab λq hq=>?_;simp(disch:=omega)[cq11.idxn (N:=2) rfl,hu11 _ Qw];refine eP (z:=zz1) Q0 rfl Q0 hur11 Q4 Q4 λh12 hle12 hsz12 hat12=>?_;obtain⟨e0,e1⟩:=GL (hat12 (vw h12) hle12 rfl);generalize h11.size=D12 at e0 e1;subst hq;have hle612:=Qx hle610 (Qx hle11 hle12);have hp12:=hp6.mono hle612;have pr12:=pr.mono hle612;cases hfit:lq x (nth preds b) b&&uw (yq x (nth preds b)) j with
    | false=>simp;refine hK4 () _ _ rfl ?_ (Qx hle11 hle12);rw[xp,<-Bool.and_assoc,hfit];rfl
    | true=>
     have hlen:x.ins.length=(nth preds b).length:=by simp only[M8,lq,decide_eq_true_eq]at hfit;omega
     simp(disch:=omega)[e0,hp12.idx1 rfl,pc _ hle612,pr12.idx1 rfl,pr12.int Qw];refine hK4 () _ _ rfl ?_ (Qx hle11 hle12);rw[xp,<-Bool.and_assoc,hfit];rfl
   rintro _ h11 hle11;have hfs:(lq x (nth preds b) b&&uw (yq x (nth preds b)) x.ins.length)=Bt x (nth preds b) b:=rfl;rw[hfs];simp;subst hy;refine ab λy hy=>?_;simp(disch:=omega);have hle011:=Qx hle06 (Qx hle610 hle11);refine dM Q0 iP ?_ ?_;rotate_left
   ·rintro _ _ ⟨e,rfl,rfl⟩;exact⟨.inl rfl,hKp _ _ ⟨_,her (her9 (by rw[if_neg (by rw[e];simp)])),rfl,hle011⟩⟩
   rintro _ h11 ⟨efit,rfl⟩;rw[if_pos efit]at hst9;have her9' : ∀{t},uAll (λj=>useS f.params m idom (nth x.ins j).val (nth x.ins j).frm (-1-i) (nth f.blocks (nth x.ins j).frm.toNat).ins.length b) x.ins.length = .error t->blkU f m idom preds b = .error t:=λe=>her9 (by rw[if_pos efit];exact e);have hlen:x.ins.length=(nth preds b).length:=by simp only[M8,Bt,lq,decide_eq_true_eq]at efit;omega
   have hfrm : ∀j,j<x.ins.length->0<=(nth x.ins j).frm/\(nth x.ins j).frm<f.blocks.length:=λj hj=>by have h1:=Db.1 (M8 _ _▸efit:_/\_).2 j hj;simp only[yq,decide_eq_true_eq]at h1;rw[h1];exact hin b _ (bD Q1)
   subst hy;have cq11:=cq.2.mono hle11;simp[ae hle11 cq.1,cq11.len];refine aJ [1,5,7,8,9,10,11,54,55,56,62,63,64,110,111,112] (fun(_:Unit) j=>[QT B,vp,.func (.func N.aO) #[] #[QT B,QT C],Qy Qz b,QT D,Qy Qz i,QT D10,
     vb,Qy Qz f.blocks.length,Qy Qz b,wp,Qy Qz (nth f.blocks b).phis.length,Qy Qz i,wq,Qy Qz x.ins.length,Qy Qz j])
    (λ_ j h12=>(vw h11).le (vw h12)/\uAll (λj=>useS f.params m idom (nth x.ins j).val (nth x.ins j).frm (-1-i) (nth f.blocks (nth x.ins j).frm.toNat).ins.length b) j = .ok ()) x.ins.length ()
    rfl Q1 rfl ⟨View.le_refl _,rfl⟩ (λ_ _=>rfl) (λv i h1 hk m=>by simp) ?_ ?_
   ·rintro _ j h12 hltj ⟨hle12,hpre12⟩ K4 hK4;have hst12:=kH hpre12;have cq12:=cq11.mono hle12;obtain⟨u12,hu12,hur12⟩:=cq12.wh rfl (N:=2) rfl hltj;refine ab λq hq=>?_;simp(disch:=omega)[cq12.idxn (N:=2) rfl,hu12 _ Qw];refine eP (z:=zz1) Q0 rfl Q0 hur12 Q4 Q4 λh13 hle13 hsz13 hat13=>?_;obtain⟨e0,e1⟩:=GL (hat13 (vw h13) hle13 rfl);generalize h12.size=D13 at e0 e1;have hf:=hfrm j hltj;generalize hxj:nth x.ins j=w at e0 e1 hst12 hf;subst hq;have hle613:=Qx hle610 (Qx hle11 (Qx hle12 hle13));have k13:=k6.ext hle613;have rb13:=k13.rb.mono cj;have h513:=ae hle613 h56;obtain⟨ul,hul⟩:=(((rb13.at (i:=w.frm.toNat) Q1).part BlkD.pP)).sl;rw[<-ao Q1]at hul;have hul1:aj (vw h13) (((slA vb).add (w.frm.toNat*6)).add 1)=QB ul:=hul.1;refine bz (vw h13) Qw ?_;simp(disch:=omega)[e0,e1,h513,ae cj k13.c1,rb13.idxn (N:=6) rfl,hul1,hul.2.len];refine tY (ops:=[.tmp 118,.tmp 120,.tmp 122,.tmp 133,.tmp 134]) rfl Q0 (CK k13 h513 (ae hle613 hvd) (hd6.mono hle613)) ?_ ?_
    ·rintro _ h14 ⟨e,hle14⟩;exact hK4 () _ _ rfl rfl ⟨Qx hle12 (Qx hle13 hle14),by rw[hst12];exact e⟩
    rintro _ h14 ⟨t,e,rfl,hle14⟩;exact⟨.inr λ_=>trivial,hKp _ _ ⟨t,her (her9' (nS hpre12 hltj (by rw[hxj];exact e))),rfl,Qx hle06 (Qx hle613 hle14)⟩⟩
   rintro _ h12 ⟨hle12,hpre12⟩;simp;exact hK3 () _ _ rfl rfl ⟨Qx hle9 (Qx hle10 (Qx hle11 hle12)),by rw[hst9];exact hpre12⟩
  rintro _ h9 ⟨hle9,hpre9⟩;have hbu:blkU f m idom preds b=andE (uAll (insU f m idom b) (nth f.blocks b).ins.length) (endU f m idom b):=by rw[blkU,hpre9];rfl
  rw[hbu]at hst her;simp;subst hz;refine ab λz hz=>?_;have bi9:=bi.2.mono hle9;simp[ae hle9 bi.1,bi9.len];refine aJ [1,5,7,8,9,54,55,56,139,140,141] (fun(_:Unit) i=>[QT B,vp,.func (.func N.aO) #[] #[QT B,QT C],Qy Qz b,QT D,vb,Qy Qz f.blocks.length,Qy Qz b,wi,Qy Qz (nth f.blocks b).ins.length,Qy Qz i])
   (λ_ i h10=>(vw h9).le (vw h10)/\uAll (insU f m idom b) i = .ok ()) (nth f.blocks b).ins.length ()
   rfl Q1 rfl ⟨View.le_refl _,rfl⟩ (λ_ _=>rfl) (λv i h1 hk m=>by simp) ?_ ?_
  ·rintro _ i h10 hlti ⟨hle10,hpre10⟩ K3 hK3;have hst10:=kH hpre10;have her10 : ∀{t},insU f m idom b i = .error t->uAll (blkU f m idom preds) f.blocks.length = .error t:=λe=>her (by rw[nS hpre10 hlti e];rfl);have bi10:=bi9.mono hle10;obtain⟨u10,hu10,hur10⟩:=bi10.wh rfl (N:=5) rfl hlti;refine ab λy hy=>?_;simp(disch:=omega)[bi10.idxn (N:=5) rfl,hu10 _ Qw];refine eP (z:=zz5) Q0 rfl Q0 hur10 Q4 Q4 λh11 hle11 hsz11 hat11=>?_;obtain⟨_,_,_,wq,cq⟩:=rX (hat11 (vw h11) hle11 rfl);rw[insU]at hst10 her10;generalize nth (nth f.blocks b).ins i=x at cq hst10 her10;generalize h10.size=D11 at cq;have bq:=cq.2.bound;subst hy;simp[cq.1,cq.2.len];refine aJ [1,5,7,8,9,17,54,55,56,139,140,141,147,148,149] (fun(_:Unit) j=>[QT B,vp,.func (.func N.aO) #[] #[QT B,QT C],Qy Qz b,QT D,Qy Qz i,vb,Qy Qz f.blocks.length,Qy Qz b,wi,Qy Qz (nth f.blocks b).ins.length,Qy Qz i,wq,Qy Qz x.args.length,Qy Qz j])
    (λ_ j h12=>(vw h11).le (vw h12)/\uAll (λj=>useS f.params m idom (nth x.args j) b i i b) j = .ok ()) x.args.length ()
    rfl Q1 rfl ⟨View.le_refl _,rfl⟩ (λ_ _=>rfl) (λv i h1 hk m=>by simp) ?_ ?_
   ·rintro _ j h12 hltj ⟨hle12,hpre12⟩ K4 hK4;have hst12:=kH hpre12;have cq12:=cq.2.mono hle12;have hle612:=Qx hle68 (Qx hle9 (Qx hle10 (Qx hle11 hle12)));have k12:=k6.ext hle612;have h512:=ae hle612 h56;simp(disch:=omega)[cq12.idx1 rfl,cq12.int Qw];refine tY (ops:=[.tmp 154,.tmp 155,.tmp 156,.tmp 157,.tmp 158]) rfl Q0 (CK k12 h512 (ae hle612 hvd) (hd6.mono hle612)) ?_ ?_
    ·rintro _ h14 ⟨e,hle14⟩;exact hK4 () _ _ rfl rfl ⟨Qx hle12 hle14,by rw[hst12];exact e⟩
    rintro _ h14 ⟨t,e,rfl,hle14⟩;exact⟨.inl rfl,hKp _ _ ⟨t,her10 (nS hpre12 hltj e),rfl,Qx hle06 (Qx hle612 hle14)⟩⟩
   rintro _ h12 ⟨hle12,hpre12⟩;simp;exact hK3 () _ _ rfl rfl ⟨Qx hle10 (Qx hle11 hle12),by rw[hst10];exact hpre12⟩
  rintro _ h10 ⟨hle10,hpre10⟩;have hbu2:andE (uAll (insU f m idom b) (nth f.blocks b).ins.length) (endU f m idom b)=endU f m idom b:=by rw[hpre10];rfl
  rw[hbu2]at hst her;rw[endU]at hst her;simp;subst hz;have ba10:=ba.2.mono (Qx hle9 hle10);have ca10:=ae (Qx hle9 hle10) ba.1;have bi10:=bi9.mono hle10;have ci10:=ae (Qx hle9 hle10) bi.1;simp[ca10,ba10.len];refine aJ [1,5,7,8,9,54,55,56,164,165,166] (fun(_:Unit) j=>[QT B,vp,.func (.func N.aO) #[] #[QT B,QT C],Qy Qz b,QT D,vb,Qy Qz f.blocks.length,Qy Qz b,wa,Qy Qz (nth f.blocks b).term.args.length,Qy Qz j])
   (λ_ j h12=>(vw h10).le (vw h12)/\uAll (λj=>useS f.params m idom (nth (nth f.blocks b).term.args j) b (nth f.blocks b).ins.length (nth f.blocks b).ins.length b) j = .ok ()) (nth f.blocks b).term.args.length ()
   rfl Q1 rfl ⟨View.le_refl _,rfl⟩ (λ_ _=>rfl) (λv i h1 hk m=>by simp) ?_ ?_
  ·rintro _ j h12 hltj ⟨hle12,hpre12⟩ K4 hK4;have hst12:=kH hpre12;have ba12:=ba10.mono hle12;have bi12:=bi10.mono hle12;have ci12:=ae hle12 ci10;have hle612:=Qx hle68 (Qx hle9 (Qx hle10 hle12));have k12:=k6.ext hle612;have h512:=ae hle612 h56;simp(disch:=omega)[ba12.idx1 rfl,ba12.int Qw,ci12,bi12.len];refine tY (ops:=[.tmp 171,.tmp 172,.tmp 175,.tmp 178,.tmp 179]) rfl Q0 (CK k12 h512 (ae hle612 hvd) (hd6.mono hle612)) ?_ ?_
   ·rintro _ h14 ⟨e,hle14⟩;exact hK4 () _ _ rfl rfl ⟨Qx hle12 hle14,by rw[hst12];exact e⟩
   rintro _ h14 ⟨t,e,rfl,hle14⟩;exact⟨.inl rfl,hKp _ _ ⟨t,her (nS hpre12 hltj e),rfl,Qx hle06 (Qx hle612 hle14)⟩⟩
  rintro _ h12 ⟨hle12,hpre12⟩;simp;exact hK2 () _ _ rfl rfl ⟨Qx hle7 (Qx hle8 (Qx hle9 (Qx hle10 hle12))),by rw[hst];exact hpre12⟩
 rintro _ h7 ⟨hle7,hpre⟩;simp;exact hK _ _ ⟨hpre,Qx hle06 hle7⟩
def GK(t:Tr):FrameMode:=.panicking [{ v:=.iface T.gh (.agg #[Qy Qz t.1,Qy Qz t.2.1,Qy Qz t.2.2]),recovered:=true }]
variable{b:Nat}
theorem GN{a c:Nat}{t:Tr}{h:Heap}{ra rb rc:Array Value}{ea eb ec:TypeId}(ha:h[a]? = QB (.cells ra ea (0,0)))(hb:h[b]? = QB (.cells rb eb (0,0)))(hc:h[c]? = QB (.cells rc ec (0,0)))(sa:ra.size=1)(sb:rb.size=1)(sc:rc.size=1)(hab:a≠b)(hac:a≠c)(hbc:b≠c):rK QH N.cn #[QT a,QT b,QT c] (.panicking (trV t)) h
   (λu' h'=>u'=GK t/\h'[a]? = QB (.cells #[Qy Qz t.1] ea (0,0))/\h'[b]? = QB (.cells #[Qy Qz t.2.1] eb (0,0))/\h'[c]? = QB (.cells #[Qy Qz t.2.2] ec (0,0))/\h.size<=h'.size/\∀k,k<h.size->k≠a->k≠b->k≠c->h'[k]? = h[k]?):=by
 refine pF (args:=[QT a,QT b,QT c]) (t:=6) (L:=L.cn.body.tail) (tys:=#[]) follows F.cn Q.cn Q0 Q0 Q0 Q9 E.pq Q0 Q0 Q9 ?_;have ala:a<h.size:=(M7.1 ha).1;have alb:b<h.size:=(M7.1 hb).1;have alc:c<h.size:=(M7.1 hc).1;have hrec:kb (.panicking (trV t))=(.iface T.gh (.agg #[Qy Qz t.1,Qy Qz t.2.1,Qy Qz t.2.2]),GK t):=rfl;rw[hrec];simp[L.cn,LC.tail];refine Bi (ms:=#[]) Q0 rfl (.inr ⟨_,_,rfl,rfl⟩) ?_;simp;refine EM (d:=(Tryz.prog.underlying T.gh).getD .bool) Q0 Q0 rfl ?_;simp;refine j6 (n:=3) (z:=zz0) (v:=.agg #[Qy Qz t.1,Qy Qz t.2.1,Qy Qz t.2.2]) Q0 rfl Q0 rfl Q6 Q4 Q4 λh1 hle1 hs1 hb1=>?_;generalize hD:h.size=D at hb1 hs1;obtain⟨H,hH⟩ : ∃H:View,H=λk=>if k=D then h1[k]? else none:=⟨_,rfl⟩;have hHle : ∀h2:Heap,h2[D]? = h1[D]?->H.le (vw h2):=λh2 e k o hk=>by
  rw[hH]at hk;simp only at hk;split at hk
  ·rename_i e2;subst e2;show h2[_]? = _;rw[e];exact hk
  cases hk
 have hHD:H D=QB (.cells #[Qy Qz t.1,Qy Qz t.2.1,Qy Qz t.2.2] T.gh (0,0)):=by rw[hH];simp only[if_true];exact hb1
 have d0:aj H ⟨D,0,QC⟩=QB (Qy Qz t.1):=bV hHD rfl;have d1:aj H ⟨D,1,QC⟩=QB (Qy Qz t.2.1):=bV hHD rfl;have d2:aj H ⟨D,2,QC⟩=QB (Qy Qz t.2.2):=bV hHD rfl;refine bz H (hHle h1 rfl) ?_;simp[d0,d1,d2];refine ey (g:=a) (o:=0) (n:=1) (v:=Qy Qz t.1) Q0 rfl rfl rfl Q6 (hle1 _ _ ha) Q1 λh2 hs2 ⟨row2,hr2,he2⟩ ho2=>?_;refine⟨hHle h2 (ho2 D Q1),?_⟩;refine ey (g:=b) (o:=0) (n:=1) (v:=Qy Qz t.2.1) Q0 rfl rfl rfl Q6 ((ho2 b (Ne.symm hab)).trans (hle1 _ _ hb)) Q1 λh3 hs3 ⟨row3,hr3,he3⟩ ho3=>?_;refine⟨hHle h3 ((ho3 D Q1).trans (ho2 D Q1)),?_⟩;refine ey (g:=c) (o:=0) (n:=1) (v:=Qy Qz t.2.2) Q0 rfl rfl rfl Q6 ((ho3 c (Ne.symm hbc)).trans ((ho2 c (Ne.symm hac)).trans (hle1 _ _ hc))) Q1 λh4 hs4 ⟨row4,hr4,he4⟩ ho4=>?_;have one : ∀{row r:Array Value} {v:Value},v.cells = #[v]->r.size=1->row.toList=r.toList.take 0++v.cells.toList++r.toList.drop (0+1)->row = #[v]:=by intro row r v hv hr he;rw[<-Array.toList_inj,he,hv,Po,NT,NI (by simp[hr])];simp
 rw[one rfl sa he2]at hr2;rw[one rfl sb he3]at hr3;rw[one rfl sc he4]at hr4;refine⟨?_,?_,hr4,by omega,λk hk h1' h2' h3'=>?_⟩
 ·rw[ho4 a hac,ho3 a hab];exact hr2
 ·rw[ho4 b hbc];exact hr3
 rw[ho4 k h3',ho3 k h2',ho2 k h1'];exact(hle1 k h[k] (Nt Q1)).trans (Nt Q1).symm
theorem CB{a c:Nat}{h:Heap}:rK QH N.cn #[QT a,QT b,QT c] .returning h (λu' h'=>u' = .returning/\h'=h):=by refine pF (args:=[QT a,QT b,QT c]) (t:=6) (L:=L.cn.body.tail) (tys:=#[]) follows F.cn Q.cn Q0 Q0 Q0 Q9 E.pq Q0 Q0 Q9 ?_;have hrec:kb .returning=(.nilIface,.returning):=rfl;rw[hrec];simp[L.cn,LC.tail];refine Bi (ms:=#[]) Q0 rfl (.inl ⟨rfl,rfl⟩) ?_;simp
def manyN(f:aq)(k:Nat):Int:=up (λi n=>n+(((nth f.blocks i).phis.length:Int)+(nth f.blocks i).ins.length)) k f.blocks.length
def C3(f:aq):Int:=manyN f f.blocks.length
def qM(g:Gr):List Int:=(yu g (g.length*g.length+1)).getD []
def yA(f:aq):Except Tr MW->Except Tr Unit
 | .error t=>.error t
 | .ok m=>tg f m (qM (ofG f.blocks))
def ma(f:aq):Except Tr Unit:=
 if bT f.params 0 4=QG then .error (1,0,0)
 else if f.blocks.length=0 then .error (14,0,0)
 else if ¬(f.blocks.length<=512/\C3 f<=4096) then .error (2,0,0)
 else yA f (mg f (λ_=>QC))
def mJ(f:aq):Tr:=match ma f with
 | .ok _=>(0,0,0)
 | .error t=>t
theorem H4{f:aq}{k:Nat}:0<=manyN f k:=by
 unfold manyN;induction k with
 | zero=>simp[up]
 | succ k ih=>rw[up];omega
theorem GS{f:aq}{m m':MW}(h:mg f m = .ok m'): ∀i,i<f.blocks.length->(nth f.blocks i).term.to.length<=65:=by
 intro i hi;have key : ∀n,n<=f.blocks.length->∃s,upE (blkS f) n m = .ok s:=λn hn=>by
  cases e:upE (blkS f) n m with
  | ok s=>exact⟨s,rfl⟩
  | error t=>rw[mg,zJ hn e]at h;cases h
 obtain⟨s,hs⟩:=key i Q1;obtain⟨s',hs'⟩:=key (i+1) hi;rw[nE hs,blkS]at hs';split at hs'
 ·cases hs'
 split at hs'
 ·cases hs'
 rw[endS]at hs';split at hs'
 ·rename_i hok;rw[pz]at hok;split at hok
  ·rename_i sh hsh;simp only[bT,M8,decide_eq_true_eq]at hok;have:sh.2.2.2<=65:=by
    simp only[gA,putM]at hsh;repeat' (split at hsh)
    all_goals first | (cases hsh;done) | (cases hsh;decide)
   omega
  cases hok
 cases hs'
theorem Hj{g:Gr}(hg:0<g.length):yu g (g.length*g.length+1)=QB (qM g):=by obtain⟨_,_,l,hl,_⟩:=yv hg;rw[qM,hl];rfl
theorem one_cell{row r:Array Value}{v:Value}(hv:v.cells = #[v])(hr:r.size=1)(he:row.toList=r.toList.take 0++v.cells.toList++r.toList.drop (0+1)):row = #[v]:=by rw[<-Array.toList_inj,he,hv,Po,NT,NI (by simp[hr])];simp
structure SmB(x:BlkD):Prop where
 phis:x.phis.length<=10000
 ins:x.ins.length<=10000
 args:x.term.args.length<=10000
 to:x.term.to.length<=10000
 phi : ∀i,i<x.phis.length->(nth x.phis i).ins.length<=10000
 inn : ∀i,i<x.ins.length->(nth x.ins i).args.length<=10000
structure SmF(f:aq):Prop where
 len:f.blocks.length<=10000
 blk : ∀i,i<f.blocks.length->SmB (nth f.blocks i)
theorem Dt{f:aq}{v:Value}{h:Heap}(hv:Rd (vw h) v f)(hsm:SmF f):
  aw QH N.gj #[v] h (λu h'=>u = .tuple #[Qy Qz (mJ f).1,Qy Qz (mJ f).2.1,Qy Qz (mJ f).2.2]/\(vw h).le (vw h')):=by
 refine qF (args:=[v]) (g:=N.cn) (t:=9) (capops:=#[.tmp 2,.tmp 3,.tmp 4]) (tys:=#[])
  (Mid:=λρ hh=>ρ=[(0,v),(1,QT h.size),(2,QE (QB ⟨h.size+1,0,QC⟩)),(3,QE (QB ⟨h.size+2,0,QC⟩)),(4,QE (QB ⟨h.size+3,0,QC⟩))]/\hh.size=h.size+4/\(vw h).le (vw hh)/\At (vw hh) ⟨h.size,0,QC⟩ f/\
   hh[h.size+1]? = QB (.cells #[Qy Qz 0] T.nj (0,0))/\hh[h.size+2]? = QB (.cells #[Qy Qz 0] T.int (0,0))/\hh[h.size+3]? = QB (.cells #[Qy Qz 0] T.int (0,0)))
  follows F.gj B.gj Q0 Q0 Q0 Q0 Q0 Q0 Q9 Q0 E.lf Q0 E.iD Q0 R.xA Q9 ?_ ?_
 ·simp[L.lf];refine fH rfl hv λh1 e1 hle1 hs1 hat=>?_;refine fF (z:=Qy Qz 0) Q0 ?_;refine fF (z:=Qy Qz 0) Q0 ?_;refine fF (z:=Qy Qz 0) Q0 ?_;have q1:=bA h1 (.cells (Qy Qz 0).cells T.nj);generalize e2:h1.push (.cells (Qy Qz 0).cells T.nj)=h2 at q1;have b2:h2[h1.size]? = QB (.cells #[Qy Qz 0] T.nj (0,0)):=by rw[<-e2];simp
  have s2:h2.size=h1.size+1:=by rw[<-e2];simp
  have q2:=bA h2 (.cells (Qy Qz 0).cells T.int);generalize e3:h2.push (.cells (Qy Qz 0).cells T.int)=h3 at q2;have b3:h3[h2.size]? = QB (.cells #[Qy Qz 0] T.int (0,0)):=by rw[<-e3];simp
  have s3:h3.size=h2.size+1:=by rw[<-e3];simp
  have q3:=bA h3 (.cells (Qy Qz 0).cells T.int);generalize e4:h3.push (.cells (Qy Qz 0).cells T.int)=h4 at q3;have b4:h4[h3.size]? = QB (.cells #[Qy Qz 0] T.int (0,0)):=by rw[<-e4];simp
  have s4:h4.size=h3.size+1:=by rw[<-e4];simp
  have hsz:h1.size=h.size+1:=hs1;have e22:h2.size=h.size+2:=by omega
  have e32:h3.size=h.size+3:=by omega
  rw[hsz]at b2;rw[e22]at b3;rw[e32]at b4;rw[e22,e32,hsz];simp;exact⟨by omega,Qx hle1 (Qx q1 (Qx q2 q3)),hat.mono (Qx q1 (Qx q2 q3)),q3 _ _ (q2 _ _ b2),q3 _ _ b3,b4⟩
 rintro ρ hh ⟨rfl,hs,hle,hat,hb1,hb2,hb3⟩;refine⟨[QE (QB ⟨h.size+1,0,QC⟩),QE (QB ⟨h.size+2,0,QC⟩),QE (QB ⟨h.size+3,0,QC⟩)],by simp[sT],
  ⟨λch h2=>∃t,ma f = .error t/\ch=trV t/\(vw hh).le (vw h2),λρ=>Lft.look ρ 2=QB (QE (QB ⟨h.size+1,0,QC⟩))/\Lft.look ρ 3=QB (QE (QB ⟨h.size+2,0,QC⟩))/\Lft.look ρ 4=QB (QE (QB ⟨h.size+3,0,QC⟩))⟩,?_,?_⟩;rotate_left
 ·rintro ch ρ2 h2 ⟨t,ht,rfl,hle2⟩ ⟨l2,l3,l4⟩;refine⟨_,GN (hle2 _ _ hb1) (hle2 _ _ hb2) (hle2 _ _ hb3) rfl rfl rfl Q1 Q1 Q1,?_⟩;rintro u' h3 ⟨rfl,g1,g2,g3,gs,go⟩;have c1:aj (vw h3) ⟨h.size+1,0,QC⟩=QB (Qy Qz t.1):=bV (show vw h3 _=_ from g1) rfl;have c2:aj (vw h3) ⟨h.size+2,0,QC⟩=QB (Qy Qz t.2.1):=bV (show vw h3 _=_ from g2) rfl;have c3:aj (vw h3) ⟨h.size+3,0,QC⟩=QB (Qy Qz t.2.2):=bV (show vw h3 _=_ from g3) rfl;refine⟨rfl,[Qy Qz t.1,Qy Qz t.2.1,Qy Qz t.2.2],by simp[R.gj,l2,l3,l4,c1,c2,c3],?_⟩;refine⟨by simp[mJ,ht],λb o hb=>?_⟩;have hlt:=View.lt (View.le_refl (vw h)) hb;show h3[b]? = _;have hb2':=hle2 _ _ (hle _ _ hb);have hlt2:=View.lt (View.le_refl (vw h2)) hb2';rw[go b hlt2 Q1 Q1 Q1];exact hb2'
 obtain⟨cp,vb,cb⟩:=jX hat;have hbb:=cb.2.bound;have bad : ∀{t:Tr} {ch:List PanicEntry} {h2:Heap},ma f = .error t->ch=trV t->(vw hh).le (vw h2)->∃t,ma f = .error t/\ch=trV t/\(vw hh).le (vw h2):=λa b c=>⟨_,a,b,c⟩;simp only[mF,ES];dsimp only[L.iD];refine ab λz hz=>?_;simp[cp];refine ag Q0 kA ?_;rintro _ _ ⟨rfl,rfl⟩;refine dM Q0 iP ?_ ?_;rotate_left
 ·rintro _ _ ⟨e,rfl,rfl⟩;exact⟨.inl rfl,bad (by rw[ma,if_pos e]) rfl Qw⟩
 rintro _ hh ⟨e1,rfl⟩;have e1':¬bT f.params 0 4=false:=by rw[e1];simp
 subst hz;refine ab λz hz=>?_;simp[cb.1,cb.2.len];refine dM Q0 iP ?_ ?_;rotate_left
 ·rintro _ _ ⟨e,rfl,rfl⟩;exact⟨.inl rfl,bad (by rw[ma,if_neg e1',if_pos (by simpa using e)]) rfl Qw⟩
 rintro _ hh ⟨e2,rfl⟩;have e2':¬f.blocks.length=0:=by intro e;rw[e]at e2;simp at e2
 subst hz;refine ab λz hz=>?_;simp[cb.1,cb.2.len];subst hz;refine ab λz hz=>?_;simp[cb.1,cb.2.len];refine aJ [1,2,3,4,5,23,24,25] (fun(_:Unit) k=>[QT h.size,QE (QB ⟨h.size+1,0,QC⟩),QE (QB ⟨h.size+2,0,QC⟩),QE (QB ⟨h.size+3,0,QC⟩),Qy Qz (manyN f k),vb,Qy Qz f.blocks.length,Qy Qz k])
  (λ_ k h1=>(vw hh).le (vw h1)/\manyN f k<=f.blocks.length+k*2000000) f.blocks.length ()
  rfl Q1 rfl ⟨View.le_refl _,by simp[manyN,up]⟩ (λ_ _=>rfl) (λv i h1 hk m=>by simp) ?_ ?_
 ·rintro _ k h1 hlt ⟨hle1,hmk⟩ K2 hK2;have cb1:=cb.2.mono hle1;obtain⟨u,hu,hur⟩:=cb1.wh rfl (N:=6) rfl hlt;refine ab λy hy=>?_;simp(disch:=omega)[cb1.idxn (N:=6) rfl,hu _ Qw];refine eP (z:=zz3) Q0 rfl Q0 hur Q4 Q4 λh2 hle2 hsz2 hat2=>?_;obtain⟨vp,vi,va,vt,bp,bi,_⟩:=nZ (hat2 (vw h2) hle2 rfl);have bph:=bp.2.bound;have bih:=bi.2.bound;have hm1:manyN f (k+1)=manyN f k+(((nth f.blocks k).phis.length:Int)+(nth f.blocks k).ins.length):=rfl;have h0:=H4 (f:=f) (k:=k);subst hy;simp[bp.1,bp.2.len,bi.1,bi.2.len];have s1:=(hsm.blk k hlt).phis;have s2:=(hsm.blk k hlt).ins;have s0:=hsm.len;rw[bu (a:=((nth f.blocks k).phis.length:Int)+(nth f.blocks k).ins.length) Q1 Q1,bu Q1 Q1];exact hK2 () _ _ rfl (by rw[hm1];rfl) ⟨Qx hle1 hle2,by rw[hm1];omega⟩
 rintro _ h1 ⟨hle1,hmk⟩;simp;subst hz;refine ab λz hz=>?_;have cb1:=cb.2.mono hle1;have cc1:=ae hle1 cb.1;have cp1:=ae hle1 cp;simp[cc1,cb1.len];have hms:manyN f f.blocks.length=C3 f:=rfl;rw[hms];refine dM Q0 iP ?_ ?_;rotate_left
 ·rintro _ _ ⟨e,rfl,rfl⟩;refine⟨.inl rfl,bad ?_ rfl hle1⟩;rw[ma,if_neg e1',if_neg e2',if_pos];intro e3;simp at e;omega
 rintro _ h1 ⟨e3,rfl⟩;have e3':¬¬(f.blocks.length<=512/\C3 f<=4096):=by simp at e3;omega
 have hchk:ma f=yA f (mg f (λ_=>QC)):=by rw[ma,if_neg e1',if_neg e2',if_neg e3']
 subst hz;refine ab λz hz=>?_;simp[FX cp1 cc1];refine kE ?_;have hle2:=bA h1 (.map #[] 0);have hm2:dI (.int .i64) (h1.push (.map #[] 0)) h1.size (mapE encW λ_=>QC):=by rw[pZ];exact dI.none Sb
 have hs2:(h1.push (.map #[] 0)).size=h1.size+1:=by simp
 generalize h1.push (.map #[] 0)=h2 at hle2 hm2 hs2;refine aQ (z:=zz6) (places:=[(0,2),(2,1)]) (vs:=[(0,.agg #[Qy Qz f.params,vb]),(1,.map (QB h1.size))]) (cs:=#[Qy Qz f.params,vb,.map (QB h1.size)]) Q0 Q0 Sb Q0 ?_;refine my (v:=.agg #[Qy Qz f.params,vb,.map (QB h1.size)]) rfl ?_;have hle3:=bA h2 (.cells (Value.cells (.agg #[Qy Qz f.params,vb,.map (QB h1.size)])) T.jj);have hbk:(h2.push (.cells (Value.cells (.agg #[Qy Qz f.params,vb,.map (QB h1.size)])) T.jj))[h2.size]? = QB (.cells #[Qy Qz f.params,vb,.map (QB h1.size)] T.jj (0,0)):=by simp
 have hs3:(h2.push (.cells (Value.cells (.agg #[Qy Qz f.params,vb,.map (QB h1.size)])) T.jj)).size=h2.size+1:=by simp
 generalize h2.push (.cells (Value.cells (.agg #[Qy Qz f.params,vb,.map (QB h1.size)])) T.jj)=h3 at hle3 hbk hs3;subst hz;have hsk:skip h1.size h3 h2.size=QB (.cells #[Qy Qz f.params,vb,.map (QB h1.size)] T.jj (0,0)):=by rw[j8 Q1];exact hbk
 have hle13:=Qx hle2 hle3;have hle1k:(vw h1).le (skip h1.size h3):=λb o hb=>by have hlt:=View.lt (View.le_refl (vw h1)) hb;rw[j8 Q1];exact hle13 b o hb
 have k3:Lk h3 h2.size h1.size vb f (λ_=>QC):=⟨bV hsk rfl,bV hsk rfl,bV hsk rfl,cb1.mono hle1k,hm2.ext hle3⟩;generalize h2.size=Kb at k3;generalize hr:h1.size=r at k3;have hkk : ∀{h':Heap},Kept h3 h' (QB r)->(vw hh).le (vw h'):=λkp b o hb=>by have h1b:=hle1 b o hb;have hlt:=View.lt (View.le_refl (vw h1)) h1b;have h3b:=hle13 b o h1b;have hlt3:=View.lt (View.le_refl (vw h3)) h3b;show _=_;exact(kp.block b hlt3 Q8).trans h3b
 refine ab λz hz=>?_;simp;refine dM Q0 (FJ k3) ?_ ?_;rotate_left
 ·rintro _ h4 ⟨t,ht,rfl,kp4⟩;exact⟨.inl rfl,bad (by rw[hchk,ht];rfl) rfl (hkk kp4)⟩
 rintro _ h4 ⟨m4,hm4,k4,kp4⟩;have hto:=GS hm4;rw[hm4]at hchk;have hchk:ma f=tg f m4 (qM (ofG f.blocks)):=hchk;subst hz;refine ab λz hz=>?_;simp;have hgl:(ofG f.blocks).length=f.blocks.length:=by simp[ofG]
 refine dM Q0 (I5 k4 (NB hsm.len Q2) (λi hi=>NB (hto i hi) Q2) (Hj Q1)) ?_ ?_;rotate_left
 ·rintro _ h5 ⟨t,ht,rfl,hle5⟩;exact⟨.inl rfl,bad (by rw[hchk,ht]) rfl (Qx (hkk kp4) hle5)⟩
 rintro _ h5 ⟨hus,hle5⟩;have hle05:=Qx (hkk kp4) hle5;subst hz;simp;refine ey (g:=h.size+1) (o:=0) (n:=1) (v:=Qy Qz 0) Q0 rfl rfl rfl Q6 (hle05 _ _ hb1) Sb λh6 hs6 ⟨row6,hr6,he6⟩ ho6=>?_;refine ey (g:=h.size+2) (o:=0) (n:=1) (v:=Qy Qz 0) Q0 rfl rfl rfl Q6 ((ho6 _ Q1).trans (hle05 _ _ hb2)) Sb λh7 hs7 ⟨row7,hr7,he7⟩ ho7=>?_;refine ey (g:=h.size+3) (o:=0) (n:=1) (v:=Qy Qz 0) Q0 rfl rfl rfl Q6 ((ho7 _ Q1).trans ((ho6 _ Q1).trans (hle05 _ _ hb3))) Sb λh8 hs8 ⟨row8,hr8,he8⟩ ho8=>?_;rw[one_cell rfl rfl he6]at hr6;rw[one_cell rfl rfl he7]at hr7;rw[one_cell rfl rfl he8]at hr8;refine⟨_,CB,?_⟩;rintro u' h9 ⟨rfl,rfl⟩;have c1:aj (vw h9) ⟨h.size+1,0,QC⟩=QB (Qy Qz 0):=bV (show vw h9 _=_ from(ho8 _ Q1).trans ((ho7 _ Q1).trans hr6)) rfl;have c2:aj (vw h9) ⟨h.size+2,0,QC⟩=QB (Qy Qz 0):=bV (show vw h9 _=_ from(ho8 _ Q1).trans hr7) rfl;have c3:aj (vw h9) ⟨h.size+3,0,QC⟩=QB (Qy Qz 0):=bV (show vw h9 _=_ from hr8) rfl;refine⟨rfl,[Qy Qz 0,Qy Qz 0,Qy Qz 0],by simp[R.gj,c1,c2,c3],?_⟩;have htold:mJ f=(0,0,0):=by rw[mJ,hchk,hus]
 refine⟨by simp[htold],λb o hb=>?_⟩;have hlt:=View.lt (View.le_refl (vw h)) hb;show h9[b]? = _;rw[ho8 b Q1,ho7 b Q1,ho6 b Q1];exact hle05 _ _ (hle _ _ hb)
theorem FU{f:aq}{v:Value}{h:Heap}(hv:Rd (vw h) v f)(hsm:SmF f):
  aw QH N.fQ #[v] h (λu h'=>u = .bool (decide ((mJ f).1=0))/\(vw h).le (vw h')):=by refine ak (args:=[v]) follows F.fQ E.fQ Q9 λK hK=>?_;simp[L.fQ];refine fH rfl hv λh1 e1 hle1 hs1 hat=>?_;obtain⟨u,hu,hur⟩:=hat.ax rfl;have hu':Un.ev (vw h1) (.ax 2) (QT h.size)=QB u:=hu;simp[hu'];refine ag Q0 (Dt hur hsm) ?_;rintro _ h2 ⟨rfl,hle2⟩;simp;exact hK _ _ ⟨rfl,Qx hle1 hle2⟩
structure Th where
 blk:Int
 place:Int
 mks:List Int
 tks:List Int
 deriving Inhabited
def phiT(f:aq)(b i:Nat):Th:=⟨b,-1-i,[(nth (nth f.blocks b).phis i).dst],(nth (nth f.blocks b).phis i).ins.map InD.val⟩
def insT(f:aq)(b i:Nat):Th:=⟨b,i,bm (nth (nth f.blocks b).ins i),(nth (nth f.blocks b).ins i).args⟩
def endT(f:aq)(b:Nat):Th:=⟨b,(nth f.blocks b).ins.length,[],(nth f.blocks b).term.args⟩
def thB(f:aq)(b:Nat):List Th:=rows (phiT f b) (nth f.blocks b).phis.length++rows (insT f b) (nth f.blocks b).ins.length++[endT f b]
def thTo(f:aq)(n:Nat):List Th:=up (λb l=>l++thB f b) n []
def aS(f:aq):List Th:=thTo f f.blocks.length
theorem fJ{f:aq}:thTo f (n+1)=thTo f n++thB f n:=rfl
theorem qf{α β:Type}(I:β->Prop){f:β->α->β}(hf : ∀x a,I x->I (f x a)) : ∀(l:List α) (x:β),I x->I (l.foldl f x)
 | [],_,h=>h
 | a::l,x,h=>qf I hf l _ (hf x a h)
theorem vZ{β:Type}{x:Nat->β}{y:β}:y∈rows x n↔∃i,i<n/\y=x i:=by simp only[rows,ND,N0];exact⟨λ⟨i,h,e⟩=>⟨i,h,e.symm⟩,λ⟨i,h,e⟩=>⟨i,h,e.symm⟩⟩
theorem cO{f:aq}{t:Th}:t∈thTo f n↔∃b,b<n/\t∈thB f b:=by
 induction n with
 | zero=>simp[thTo,up]
 | succ n ih=>
  rw[fJ,M1,ih];constructor
  ·rintro(⟨b,h1,h2⟩ | h)
   ·exact⟨b,by omega,h2⟩
   exact⟨n,by omega,h⟩
  rintro⟨b,h1,h2⟩;rcases M0 b n with h | h
  ·exact .inl ⟨b,h,h2⟩
  rw[show b=n by omega]at h2;exact .inr h2
theorem dw{f:aq}{t:Th}:t∈thB f b↔(∃i,i<(nth f.blocks b).phis.length/\t=phiT f b i)\/(∃i,i<(nth f.blocks b).ins.length/\t=insT f b i)\/t=endT f b:=by simp only[thB,M1,vZ,MZ,or_assoc]
theorem zW{f:aq}(hsm:SmF f) : ∀{n:Nat},n<=f.blocks.length->(thTo f n).length<=n*20001
 | 0,_=>by simp[thTo,up]
 | n+1,h=>by have ih:=zW hsm (n:=n) Q1;have s:=hsm.blk n Q1;have sp:=s.phis;have si:=s.ins;rw[fJ,M3,thB];simp only[M3,nB,M6];omega
theorem oX{d:InsD}{v:Value}{h:Heap}(hd:Rd (vw h) v d):aw QH N.fW #[v] h (λu h'=>(vw h).le (vw h')/\SlRd (fresh h h') u (bm d)/\(d.op=16->u = QD QC 0 0)):=by
 refine ak (args:=[v]) follows F.fW E.fW Q9 λK hK=>?_;simp[L.fW];refine fH rfl hd λh1 _ hle1 hsz1 hat=>?_;obtain⟨c0,c1,c2,va,ca⟩:=rX hat;have r1:=(hat.part InsD.qR).rng;have r2:=(hat.part InsD.HB).rng;simp[c0];refine⟨λe1=>hK _ _ ⟨hle1,by simpa[bm,e1]using ia,λ_=>rfl⟩,λe1=>⟨λe2=>?_,λe2=>?_⟩⟩
 ·simp[c1,c2];refine mQ (X:=nothing) (ds:=[d.dst,d.two]) (vs:=[Qy Qz d.dst,Qy Qz d.two]) rfl El.bn Sb ⟨dJ.2 ⟨rfl,r1⟩,dJ.2 ⟨rfl,r2⟩,trivial⟩ dx rfl Q1 λu h2 hle2 hsz2 hu _=>?_;exact hK _ _ ⟨Qx hle1 hle2,by simpa[bm,e2]using hu _ dx (by unfold fresh;rw[if_neg Q1]),λe=>absurd e e1⟩
 simp[c1];refine mQ (X:=nothing) (ds:=[d.dst]) (vs:=[Qy Qz d.dst]) rfl El.bn Sb ⟨dJ.2 ⟨rfl,r1⟩,trivial⟩ dx rfl Q1 λu h2 hle2 hsz2 hu _=>?_;exact hK _ _ ⟨Qx hle1 hle2,by simpa[bm,e1,e2]using hu _ dx (by unfold fresh;rw[if_neg Q1]),λe=>absurd e e1⟩
def qd(op n:Int):Bool:=if op=1 then decide (n=0) else if op=15 then decide (n=1) else if op=17 then decide (n<=4) else decide (n=2)
def iT(t:cK):Bool:=
 if t.kind=1 then decide ((t.args.length:Int)=0)&&decide ((t.to.length:Int)=1)
 else if t.kind=2 then decide ((t.args.length:Int)=1)&&decide ((t.to.length:Int)=2)
 else if t.kind=3 then decide ((t.args.length:Int)=1)&&decide ((2:Int)<=t.to.length)&&decide ((t.to.length:Int)<=65)
 else if t.kind=4 then decide ((t.args.length:Int)<=1)&&decide ((t.to.length:Int)=0)
 else if t.kind=5 then decide ((t.args.length:Int)=0)&&decide ((t.to.length:Int)=0) else QG
def aA(f:aq)(b:Int):List Int:=sift (λa=>decide (b∈(nth f.blocks a).term.to)) (λa=>(a:Int)) f.blocks.length
theorem zv{H:View}{v:Value}{l:List BlkD}(h:SlRd H v l){i:Nat}(hi:i<l.length): ∃u,Sl H ((((slA v).add (i*6)).add 2).add 2) u (nth l i).term.to:=by rw[ao hi];exact((((h.at hi).part BlkD.mW).part cK.AG)).sl
theorem ud{f:aq}{b:Int}{v:Value}{h:Heap}(hv:Rd (vw h) v f)(hn:f.blocks.length<=1000000):
  aw QH N.dP #[v,Qy Qz b] h (λu h'=>(vw h).le (vw h')/\SlRd (fresh h h') u (aA f b)):=by
 refine ak (args:=[v,Qy Qz b]) follows F.dP E.dP Q9 λK hK=>?_;dsimp only[L.dP];refine ab λz hz=>?_;simp;refine fH rfl hv λh1 _ hle1 hsz1 hat=>?_;obtain⟨_,vb,cb⟩:=jX hat;generalize h.size=B at cb;subst hz;refine ab λz hz=>?_;simp;refine sR (α:=Int) El.bn λh2 hle2 hsz2 own2=>?_;have m0:=Mine.empty (V:=nothing) (W:=nothing) (View.le_refl (vw h1)) hle2 dx (Old.nothing _ _) own2;generalize QD (QB ⟨h1.size,0,QC⟩) 0 0=v0 at m0;have cb2:=cb.2;have cc2:=cb.1;subst hz;refine ab λz hz=>?_;simp;refine dq [1,2,5,6] (fun(r:Value) k=>[Qy Qz b,QT B,r,Qy Qz k]) (λr k h3=>Mine nothing h1 h3 nothing T.int r (sift (λa=>decide (b∈(nth f.blocks a).term.to)) (λa=>(a:Int)) k)) f.blocks.length v0
  rfl Q1 rfl m0 (λ_ _=>rfl) (λv k h3 hk m=>by simp[ae m.old cc2,(cb2.mono m.old).len]) ?_ ?_
 ·rintro r k h3 hlt m K2 hK2;have hle3:=m.old;have cb3:=cb2.mono hle3;obtain⟨w,hw⟩:=zv cb3 hlt;have hwb:=hw.2.bound;have hsl:=lh (p:=λa=>decide (b∈(nth f.blocks a).term.to)) (x:=λa=>(a:Int)) k;refine ab λy hy=>?_;simp(disch:=omega)[ae hle3 cc2,cb3.idxn (N:=6) rfl,hw.1];subst hy;simp;refine dq [1,2,5,6,7,8] (fun(_:Unit) j=>[Qy Qz b,QT B,r,Qy Qz k,w,Qy Qz j]) (λ_ j h4=>h4=h3/\∀i,i<j->nth (nth f.blocks k).term.to i≠b) (nth f.blocks k).term.to.length ()
   rfl Q1 rfl ⟨rfl,λi hi=>by omega⟩ (λ_ _=>rfl) (λv j h4 hk m=>by simp[hw.2.len]) ?_ ?_
  ·rintro _ j h3 hltj ⟨rfl,hpre⟩ K3 hK3;simp(disch:=omega)[hw.2.idx1 rfl,hw.2.int Qw];refine⟨λe=>?_,λe=>hK3 () _ _ rfl rfl ⟨rfl,λi hi=>?_⟩⟩
   ·have hmem:b∈(nth f.blocks k).term.to:=e▸bD hltj;refine m.push (d:=(k:Int)) El.bn (by simp<;>rfl) (rS Q1 Q1) Q1 Q1 Q4 Q4 λu v' h5 m'=>?_;exact hK2 v' _ _ rfl rfl (by rw[nH (by simpa using hmem)];exact m')
   rcases M0 i j with h | h
   ·exact hpre i h
   have:i=j:=by omega
   subst this;exact e
  rintro _ h3 ⟨rfl,hpre⟩;have hmem:¬b∈(nth f.blocks k).term.to:=λhm=>by obtain⟨i,hi,e⟩:=Ni hm;exact hpre i hi (by rw[ao hi];exact e)
  simp;exact hK2 r _ _ rfl rfl (by rw[mB (by simpa using hmem)];exact m)
 rintro r h3 m;simp;subst hz;simp;exact hK _ _ ⟨Qx hle1 m.old,m.fresh.mono (xg hle1)⟩
abbrev RSt:=List Bool × List Int
def kh(wo:Int)(to:List Int)(k:Nat)(s:RSt):RSt:=
 if(0<=nth to k/\nth to k<s.1.length)/\nth s.1 (nth to k).toNat=QG/\nth to k≠wo then(s.1.set (nth to k).toNat QF,s.2++[nth to k]) else s
def vN(f:aq)(wo:Int)(i:Nat)(s:RSt):RSt:=up (kh wo (nth f.blocks (nth s.2 i).toNat).term.to) (nth f.blocks (nth s.2 i).toNat).term.to.length s
def rchS(f:aq)(wo:Int):Nat->Nat->RSt->RSt
 | 0,_,s=>s
 | n+1,i,s=>if i<s.2.length then rchS f wo n (i+1) (vN f wo i s) else s
def rch0(f:aq)(wo:Int):RSt:=if wo≠0/\0<f.blocks.length then((List.replicate f.blocks.length QG).set 0 QF,[0]) else(List.replicate f.blocks.length QG,[])
def eJ(f:aq)(wo:Int):List Bool:=(rchS f wo (f.blocks.length+1) 0 (rch0 f wo)).1
structure ROk(n:Nat)(s:RSt):Prop where
 len:s.1.length=n
 cnt:s.2.length+df s.1<=n
 rng : ∀x∈s.2,0<=x/\x<n
variable{wo:Int}
theorem Ai{to:List Int}{k:Nat}{s:RSt}(h:ROk n s):ROk n (kh wo to k s):=by
 unfold kh;split
 ·rename_i hc;have hf:=jL (t:=s.1) (i:=(nth to k).toNat) Q1 hc.2.1;refine⟨by simpa using h.len,?_,λx hx=>?_⟩
  ·have:=h.cnt;simp only[M3,M6];omega
  rcases M1.1 hx with hx | hx
  ·exact h.rng x hx
  rw[MZ.1 hx,<-h.len];exact hc.1
 exact h
theorem vG{to:List Int}{s:RSt}(h:ROk n s)(m:Nat):ROk n (up (kh wo to) m s):=tP (ROk n) (λk x hx=>Ai hx) m s h
theorem zN{f:aq}:ROk f.blocks.length (rch0 f wo):=by
 unfold rch0;have hfa:df (List.replicate f.blocks.length QG)=f.blocks.length:=by simp[df]
 split
 ·rename_i hc;have hf:=jL (t:=List.replicate f.blocks.length QG) (i:=0) (by simpa using hc.2) (by rw[ao (by simpa using hc.2)];simp);exact⟨by simp,by simp only[M6];omega,λx hx=>by rw[MZ.1 hx];omega⟩
 exact⟨by simp,by simp only[O9];omega,λx hx=>by cases hx⟩
theorem C4{f:aq}{wo:Int} : ∀{m i:Nat} {s:RSt},ROk f.blocks.length s->ROk f.blocks.length (rchS f wo m i s)
 | 0,_,_,h=>h
 | m+1,i,s,h=>by
  rw[rchS];split
  ·exact C4 (vG h _)
  exact h
theorem sE{f:aq}:(eJ f wo).length=f.blocks.length:=(C4 zN).len
def rV(vo vq:Value)(s:RSt):Own:=λk=>if k=(0,0) then it T.bool vo s.1 else if k=(0,1) then it T.int vq s.2 else QC
theorem xn{f:aq}{v:Value}{h:Heap}(hv:Rd (vw h) v f)(hn:f.blocks.length<=1000000):
  aw QH N.cG #[v,Qy Qz wo] h (λu h'=>(vw h).le (vw h')/\SlRd (fresh h h') u (eJ f wo)):=by
 refine ak (args:=[v,Qy Qz wo]) follows F.cG E.cG Q9 λK hK=>?_;dsimp only[L.cG];refine ab λz hz=>?_;simp;refine fH rfl hv λh1 _ hle1 hsz1 hat=>?_;obtain⟨_,vb,cb⟩:=jX hat;generalize h.size=B at cb;subst hz;refine ab λz hz=>?_;simp[cb.1,cb.2.len];refine nO (α:=Bool) (W:=vw h1) (k:=.i64) (n:=f.blocks.length) (d:=false) El.oe Sb Sb rfl Q1 Q1 λvo h2 o2 m2 hle2 hb2=>?_;have w2:=(Owns.start (h:=h1) (View.le_refl (vw h1))).add (k:=(0,0)) rfl o2 hle2 (λb hb=>by rw[hb2]at hb;cases hb;exact MY _);subst hz;refine ab λz hz=>?_;simp;refine sR (α:=Int) El.bn λh3 hle3 hsz3 own3=>?_;have w3:=w2.add (k:=(0,1)) rfl (own3 _) hle3 (λb hb=>by simp only[Value.ownBlock,MX]at hb;omega);have w3:Owns (vw h1) h3 (rV vo (QD (QB ⟨h2.size,0,QC⟩) 0 0) (List.replicate f.blocks.length QG,[])):=w3.congr λq=>by
  unfold rV Own.upd;repeat' split
  all_goals first | rfl | simp_all
 generalize QD (QB ⟨h2.size,0,QC⟩) 0 0=vq at w3;subst hz;refine ab λz hz=>?_;have cc3:=ae w3.wle cb.1;have cb3:=cb.2.mono w3.wle;have fin : ∀(h4:Heap) (vq:Value) (tl:Env),Owns (vw h1) h4 (rV vo vq (rch0 f wo))->@LC.wp noPP QH z (@fu [.tmp 4] K) ([(0,v),(1,Qy Qz wo),(2,QT B),(4,QD QC 0 0),(5,vo),(6,vq)]++tl) h4:=by
  intro h4 vq tl w4;subst hz;refine ab λz hz=>?_;simp;refine iA [1,2,5,6,7] (λm ρ h5=>∃(i:Nat) (s:RSt) (vq:Value),i<=f.blocks.length/\m=f.blocks.length+1-i/\ρ=[(1,Qy Qz wo),(2,QT B),(5,vo),(6,vq),(7,Qy Qz i)]/\Owns (vw h1) h5 (rV vo vq s)/\ROk f.blocks.length s/\
   (rchS f wo m i s).1=eJ f wo) (f.blocks.length+1) ⟨0,_,vq,by omega,rfl,by simp[bh,ar],w4,zN,rfl⟩ ?_;rintro m ρ h5 ⟨i,s,vq5,hi,rfl,rfl,w5,hok,hfin⟩ K2 hK2;have no:=w5.now (k:=(0,0)) (v:=vo) (l:=s.1) rfl;have nq:=w5.now (k:=(0,1)) (v:=vq5) (l:=s.2) rfl;have hcnt:=hok.cnt;by_cases hlt:i<s.2.length
  ·have hm:f.blocks.length+1-i=(f.blocks.length-i)+1:=by omega
   rw[hm,rchS,if_pos hlt]at hfin;obtain⟨r0,r1⟩:=hok.rng _ (bD hlt);have cb5:=cb.2.mono w5.wle;obtain⟨w,hw⟩:=zv cb5 (i:=(nth s.2 i).toNat) Q1;obtain⟨w',hw'⟩:=zv cb.2 (i:=(nth s.2 i).toNat) Q1;have eww:w'=w:=Option.some.inj ((ae w5.wle hw'.1).symm.trans hw.1);rw[eww]at hw';have hwb:=hw.2.bound;have hrow:vN f wo i s=up (kh wo (nth f.blocks (nth s.2 i).toNat).term.to) (nth f.blocks (nth s.2 i).toNat).term.to.length s:=rfl;rw[hrow]at hfin;generalize hto:(nth f.blocks (nth s.2 i).toNat).term.to=to at hw hw' hwb hfin;refine ab λy hy=>?_;simp(disch:=omega)[nq.len,hlt];subst hy;refine ab λy hy=>?_;refine ab λx hx=>?_;simp(disch:=omega)[ae w5.wle cb.1,cb5.idxn (N:=6) rfl,nq.idx1 rfl,nq.int Qw,hw.1];subst hx;simp;refine dq [1,2,5,6,7,8,9] (fun(q:Value) j=>[Qy Qz wo,QT B,vo,q,Qy Qz i,w,Qy Qz j]) (λq j h6=>Owns (vw h1) h6 (rV vo q (up (kh wo to) j s))) to.length vq5
    rfl Q1 rfl w5 (λ_ _=>rfl) (λv j h4 hk m=>by simp[hw.2.len]) ?_ ?_
   ·rintro q j h6 hltj w6 K3 hK3;have hst:up (kh wo to) (j+1) s=kh wo to j (up (kh wo to) j s):=rfl;have hok6:=vG (wo:=wo) (to:=to) hok j;generalize up (kh wo to) j s=s6 at w6 hst hok6;have no6:=w6.now (k:=(0,0)) (v:=vo) (l:=s6.1) rfl;have nq6:=w6.now (k:=(0,1)) (v:=q) (l:=s6.2) rfl;have hcnt6:=hok6.cnt;have hlen6:=hok6.len;have hr6:=hw'.2.mono w6.wle;have hrng:=hw'.2.range hltj;rw[kh]at hst;by_cases c1:0<=nth to j/\nth to j<s6.1.length
    ·have c1a:=c1.1;have c1b:=c1.2;cases c2:nth s6.1 (nth to j).toNat with
     | true=>rw[if_neg (by rw[c2];simp)]at hst;simp(disch:=omega)[hr6.idx1 rfl,hr6.int Qw,no6.len,no6.idx1 rfl,no6.bool Qw,c1a,c1b,c2];exact hK3 q _ _ rfl rfl (by rw[hst];exact w6)
     | false=>
      by_cases c3:nth to j=wo
      ·rw[if_neg (by simp[c3])]at hst;rw[c3]at c1a c1b c2;simp(disch:=omega)[hr6.idx1 rfl,hr6.int Qw,no6.len,no6.idx1 rfl,no6.bool Qw,c1a,c1b,c2,c3];exact hK3 q _ _ rfl rfl (by rw[hst];exact w6)
      rw[if_pos ⟨c1,c2,c3⟩]at hst;refine ab λx hx=>?_;simp(disch:=omega)[hr6.idx1 rfl,hr6.int Qw,no6.len,no6.idx1 rfl,no6.bool Qw,c1a,c1b,c2,c3];subst hx;simp(disch:=omega)[hr6.idx1 rfl,hr6.int Qw,no6.idx1 rfl];refine w6.oT (k:=(0,0)) (α:=Bool) (l:=s6.1) (v:=vo) (i:=(nth to j).toNat) (d:=true) rfl Q0 (by simp[show Rep.n Bool=1 from rfl]) (by simp<;>rfl) Q1 J6 λh7 w7 hs7=>?_;have hr7:=hw'.2.mono w7.wle;simp(disch:=omega)[hr7.idx1 rfl,hr7.int Qw];refine w7.iN (k:=(0,1)) (α:=Int) (v:=q) (l:=s6.2) (d:=nth to j) rfl El.bn (by simp<;>rfl) (rS hrng.1 hrng.2) Q1 Q1 Q4 Q4 λu q8 h8 w8 hs8=>?_;refine hK3 q8 _ _ rfl rfl ?_;rw[hst];refine w8.congr λq=>?_;unfold rV Own.upd;repeat' split
      all_goals first | rfl | simp_all
    rw[if_neg (λe=>c1 e.1)]at hst;by_cases c1a:0<=nth to j
    ·have c1b:¬nth to j<s6.1.length:=λe=>c1 ⟨c1a,e⟩;simp(disch:=omega)[hr6.idx1 rfl,hr6.int Qw,no6.len,c1a,c1b];exact hK3 q _ _ rfl rfl (by rw[hst];exact w6)
    simp(disch:=omega)[hr6.idx1 rfl,hr6.int Qw,no6.len,c1a];exact hK3 q _ _ rfl rfl (by rw[hst];exact w6)
   rintro q h6 w6;simp;subst hy;simp(disch:=omega);exact hK2 (f.blocks.length+1-(i+1)) _ _ Q1 ⟨i+1,_,q,by omega,rfl,by simp[bh],w6,vG hok _,by rw[show f.blocks.length+1-(i+1)=f.blocks.length-i by omega];exact hfin⟩
  have hlt':¬(i:Int)<s.2.length:=by omega
  simp(disch:=omega)[L.cG.l1,nq.len,hlt];subst hz;simp;have hs1:s.1=eJ f wo:=by
   rw[<-hfin];cases f.blocks.length+1-i with
   | zero=>rfl
   | succ m=>rw[rchS,if_neg hlt]
  have ow:=w5.get (k:=(0,0)) (v:=vo) (l:=s.1) rfl;refine hK _ _ ⟨Qx hle1 w5.wle,?_⟩;rw[<-hs1];have ow':OwnT nothing h5 T.bool vo s.1:=ow;refine ow'.fresh (λ_ _ h=>by cases h) λb hb=>?_;rw[hb2]at hb;cases hb;exact View.cT Qw Q1
 by_cases c1:wo=0
 ·have hr0:rch0 f wo=(List.replicate f.blocks.length QG,[]):=by rw[rch0,if_neg (λe=>e.1 c1)]
  rw[hr0]at fin;simp[cc3,cb3.len,c1];rw[c1]at fin;exact fin _ _ _ w3
 by_cases c2:0<f.blocks.length
 ·have hr0:rch0 f wo=((List.replicate f.blocks.length QG).set 0 QF,[0]):=by rw[rch0,if_pos ⟨c1,c2⟩]
  rw[hr0]at fin;have no:=w3.now (k:=(0,0)) (v:=vo) (l:=List.replicate f.blocks.length QG) rfl;refine ab λy hy=>?_;simp(disch:=omega)[cc3,cb3.len,c1,c2];subst hy;have i0:Bn.ev (.idx 1) vo (Qy Qz 0)=QB (QE (QB ((slA vo).add 0))):=no.idx1 rfl Q1 (by simpa using c2);simp(disch:=omega)[i0];refine w3.oT (k:=(0,0)) (α:=Bool) (l:=List.replicate f.blocks.length QG) (v:=vo) (i:=0) (d:=true) rfl Q0 (by simp[show Rep.n Bool=1 from rfl]) (by simp<;>rfl) (by simpa using c2) J6 λh4 w4 hs4=>?_;refine w4.iN (k:=(0,1)) (α:=Int) (v:=vq) (l:=[]) (d:=0) rfl El.bn (by simp<;>rfl) (rS Q1 Q1) Sb Sb Q4 Q4 λu q5 h5 w5 hs5=>?_;refine fin _ _ _ (w5.congr λq=>?_);unfold rV Own.upd;repeat' split
  all_goals first | rfl | simp_all
 have hr0:rch0 f wo=(List.replicate f.blocks.length QG,[]):=by rw[rch0,if_neg (λe=>c2 e.2)]
 rw[hr0]at fin;simp[cc3,cb3.len,c1,c2];exact fin _ _ _ w3
theorem gq{l:List BlkD}:(ofG l).length=l.length:=by simp[ofG]
theorem dL{l:List BlkD}{a b:Int}:gX (ofG l) a b=QF↔(0<=a/\a<l.length/\0<=b/\b<l.length)/\b∈(nth l a.toNat).term.to:=by
 rw[fj,gq];constructor
 ·rintro⟨h,hm⟩;rw[ofG,eF Q1,tz]at hm;exact⟨h,hm.1⟩
 rintro⟨h,hm⟩;refine⟨h,?_⟩;rw[ofG,eF Q1,tz];exact⟨hm,h.2.2.1,h.2.2.2⟩
structure Rb(f:aq)(wo:Int)(s:RSt):Prop where
 ok:ROk f.blocks.length s
 seen : ∀b:Nat,b<f.blocks.length->(nth s.1 b=QF↔(b:Int)∈s.2)
 sound : ∀x∈s.2,Re (ofG f.blocks) wo x.toNat
theorem LD{f:aq}{a:Int}{k:Nat}{s:RSt}(h:Rb f wo s)(h0:0<=a)(h1:a<f.blocks.length)(ha:Re (ofG f.blocks) wo a.toNat)(hk:k<(nth f.blocks a.toNat).term.to.length):
  Rb f wo (kh wo (nth f.blocks a.toNat).term.to k s)/\s.2 <+: (kh wo (nth f.blocks a.toNat).term.to k s).2/\
   (0<=nth (nth f.blocks a.toNat).term.to k->nth (nth f.blocks a.toNat).term.to k<f.blocks.length->nth (nth f.blocks a.toNat).term.to k≠wo->nth (nth f.blocks a.toNat).term.to k∈(kh wo (nth f.blocks a.toNat).term.to k s).2):=by
 have hok:=Ai (wo:=wo) (to:=(nth f.blocks a.toNat).term.to) (k:=k) h.ok;have hm:=bD hk;unfold kh at hok ⊢;generalize hto:(nth f.blocks a.toNat).term.to=to at hm hok ⊢;split
 ·rename_i hc;rw[if_pos hc]at hok;obtain⟨⟨c1,c2⟩,c3,c4⟩:=hc;rw[h.ok.len]at c2;have hb:((nth to k).toNat:Int)=nth to k:=Nj c1;refine⟨⟨hok,λb hb=>?_,λx hx=>?_⟩,List.prefix_append _ _,λ_ _ _=>NG _ (MZ.2 rfl)⟩
  ·rw[M1,MZ];by_cases he:b=(nth to k).toNat
   ·subst he;rw[aK (by rw[h.ok.len];omega),if_pos rfl];exact⟨λ_=>.inr (Nj c1),λ_=>rfl⟩
   rw[aK (by rw[h.ok.len];exact hb),if_neg (λe=>he e.symm),h.seen b hb];exact⟨.inl,λe=>e.resolve_right Q1⟩
  rcases M1.1 hx with hx | hx
  ·exact h.sound x hx
  rw[MZ.1 hx];refine .step ha ?_ (by rw[hb];exact c4);rw[dL,hb];exact⟨⟨by omega,by omega,c1,c2⟩,by rw[M9,hto];exact hm⟩
 rename_i hc;rw[if_neg hc]at hok;refine⟨h,List.prefix_refl _,λc1 c2 c4=>?_⟩;have hb:((nth to k).toNat:Int)=nth to k:=Nj c1;rw[<-hb,<-h.seen _ Q1];cases e:nth s.1 (nth to k).toNat with
 | true=>rfl
 | false=>exact absurd ⟨⟨c1,by rw[h.ok.len];exact c2⟩,e,c4⟩ hc
theorem Gg{f:aq}{wo a:Int}{s:RSt}(h:Rb f wo s)(h0:0<=a)(h1:a<f.blocks.length)(ha:Re (ofG f.blocks) wo a.toNat) : ∀m,m<=(nth f.blocks a.toNat).term.to.length->
  Rb f wo (up (kh wo (nth f.blocks a.toNat).term.to) m s)/\s.2 <+: (up (kh wo (nth f.blocks a.toNat).term.to) m s).2/\
   ∀k,k<m->0<=nth (nth f.blocks a.toNat).term.to k->nth (nth f.blocks a.toNat).term.to k<f.blocks.length->nth (nth f.blocks a.toNat).term.to k≠wo->nth (nth f.blocks a.toNat).term.to k∈(up (kh wo (nth f.blocks a.toNat).term.to) m s).2
 | 0,_=>⟨h,List.prefix_refl _,λk hk=>by omega⟩
 | m+1,hm=>by
  obtain⟨i1,i2,i3⟩:=Gg h h0 h1 ha m Q1;obtain⟨j1,j2,j3⟩:=LD (k:=m) i1 h0 h1 ha Q1;rw[up];refine⟨j1,i2.trans j2,λk hk c1 c2 c3=>?_⟩;rcases M0 k m with hlt | hge
  ·exact j2.subset (i3 k hlt c1 c2 c3)
  have:k=m:=by omega
  subst this;exact j3 c1 c2 c3
structure Rc(f:aq)(wo:Int)(i:Nat)(s:RSt):Prop where
 b:Rb f wo s
 root:wo≠0->0<f.blocks.length->(0:Int)∈s.2
 done : ∀j,j<i->j<s.2.length->∀b:Nat,gX (ofG f.blocks) (nth s.2 j) b=QF->(b:Int)≠wo->(b:Int)∈s.2
theorem Dk{α:Type}[Inhabited α]{a b:List α}(h:a <+: b){i:Nat}(hi:i<a.length):nth b i=nth a i:=by obtain⟨t,rfl⟩:=h;rw[ao Q8,ao hi,Oa hi]
theorem Jl{f:aq}{i:Nat}{s:RSt}(h:Rc f wo i s)(hi:i<s.2.length):Rc f wo (i+1) (vN f wo i s)/\s.2 <+: (vN f wo i s).2:=by
 have hm:=bD hi;obtain⟨h0,h1⟩:=h.b.ok.rng _ hm;have hre:=h.b.sound _ hm;obtain⟨i1,i2,i3⟩:=Gg h.b h0 h1 hre _ (MY _);have he:vN f wo i s=up (kh wo (nth f.blocks (nth s.2 i).toNat).term.to) (nth f.blocks (nth s.2 i).toNat).term.to.length s:=rfl;rw[<-he]at i1 i2 i3;refine⟨⟨i1,λa b=>i2.subset (h.root a b),λj hj hjl b hb hne=>?_⟩,i2⟩;rcases M0 j i with hlt | hge
 ·rw[Dk i2 Q1]at hb;exact i2.subset (h.done j hlt Q1 b hb hne)
 have:j=i:=by omega
 subst this;rw[Dk i2 hi,dL]at hb;obtain⟨⟨_,_,q1,q2⟩,hmem⟩:=hb;obtain⟨k,hk,e⟩:=Ni hmem;rw[<-ao hk]at e;rw[<-e];exact i3 k hk Q1 Q1 (by rw[e];exact hne)
theorem FN{f:aq}{wo:Int} : ∀{m i:Nat} {s:RSt},Rc f wo i s->f.blocks.length<i+m->∃k,Rc f wo k (rchS f wo m i s)/\(rchS f wo m i s).2.length<=k
 | 0,i,s,h,hm=>⟨i,h,by have:=h.b.ok.cnt;rw[rchS];omega⟩
 | m+1,i,s,h,hm=>by
  rw[rchS];split
  ·rename_i hi;exact FN (Jl h hi).1 Q1
  rename_i hi;exact⟨i,h,by omega⟩
theorem IY{f:aq}:Rc f wo 0 (rch0 f wo):=by
 have hok:=zN (f:=f) (wo:=wo);unfold rch0 at hok ⊢;split
 ·rename_i hc;rw[if_pos hc]at hok;refine⟨⟨hok,λb hb=>?_,λx hx=>?_⟩,λ_ _=>MZ.2 rfl,λj hj=>by omega⟩
  ·rw[aK (by simpa using hb),MZ];split
   ·rename_i e;subst e;simp
   rename_i e;rw[ao (by simpa using hb)];simp;omega
  rw[MZ.1 hx];exact .root (by rw[gq];exact hc.2) hc.1
 rename_i hc;rw[if_neg hc]at hok;refine⟨⟨hok,λb hb=>?_,λx hx=>by cases hx⟩,λa b=>absurd ⟨a,b⟩ hc,λj hj=>by omega⟩;rw[ao (by simpa using hb)];simp
theorem ic{f:aq}(hb:b<f.blocks.length):nth (eJ f wo) b=QF↔Re (ofG f.blocks) wo b:=by
 obtain⟨k,h,hk⟩:=FN (IY (f:=f) (wo:=wo)) (m:=f.blocks.length+1) Q1;unfold eJ;generalize rchS f wo (f.blocks.length+1) 0 (rch0 f wo)=s at h hk;rw[h.b.seen b hb];constructor
 ·exact λhm=>by simpa using h.b.sound _ hm
 intro hr;induction hr with
 | root h1 h2=>exact h.root h2 (by rw[<-gq];exact h1)
 | @step a b ha he hne ih=>have hm:=ih (by have:=(dL.1 he).1;omega);obtain⟨j,hj,e⟩:=Ni hm;rw[<-ao hj]at e;exact h.done j Q1 hj b (by rw[e];exact he) hne
end Go.Lft
