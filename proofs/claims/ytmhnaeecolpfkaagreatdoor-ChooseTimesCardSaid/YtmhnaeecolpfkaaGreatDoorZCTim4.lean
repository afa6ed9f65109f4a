/- A part of the proof: Oi, Oj, Ok, Ol, Rb, Ta, Rc, Rd, Rf, Rg, Rh, Tb, Tc, Td, Th, Ma, Mb, Mc, Md, Me, Mf. -/
import Derived.Test.YtmhnaeecolpfkaaGreatDoorZCTim3
set_option linter.unusedSimpArgs false
set_option linter.unusedVariables false
open Go.Value renaming int->UH,slice->UM,pointer->UN
open Go.IntKind renaming i64->UI,i32->UJ
open Option renaming some->UK,none->UL
open Bool renaming true->UO,false->UP
open Go.Proofs.Tryz renaming prog->UQ
namespace Go.Proofs.YtmhnaeecolpfkaaGreatDoor
open Go Go.Lft
section
variable {W V:View} {h h':Heap} {r S I O Z:Nat} {n:Int->Bool} {s:cC}
def nTo (m:Int):Int->Bool:=λq=>decide (1<=q/\q<=m)
theorem Pm.to{a b:Int}(m:Pm s.f s.i s.temp W h r (λq=>nTo a q||decide (q=b)))(hb:b=a+1)(ha:0<=a):Pm s.f s.i s.temp W h r (nTo b):=by
 have e:(λq=>nTo a q||decide (q=b))=nTo b:=by funext q;unfold nTo;rw[RH];simp;omega
 rw[<-e];exact m
theorem Pm.to4{a b:Int}(m:Pm s.f s.i s.temp W h r (λq=>nTo a q||decide (b<=q/\q<b+4)))(hb:b=a+1)(ha:0<=a):Pm s.f s.i s.temp W h r (nTo (a+4)):=by
 have e:(λq=>nTo a q||decide (b<=q/\q<b+4))=nTo (a+4):=by funext q;unfold nTo;rw[RH];simp;omega
 rw[<-e];exact m
theorem Mf{f:ak}{i:InsD}{temp:Int}{p:Nat}(h:3<=p/\p<=15):doS f i temp p=UK ⟨i.args,[],[⟨p+2,i.dst,0,nth i.args 0,nth i.args 1,0,⟨0⟩,[]⟩],cK⟩:=by unfold doS;rw[if_neg U1,if_neg U1,if_pos U1]
theorem DB{vs:Value}{W0:View}(hW:W0.le (vw h))(hvs:Rd W0 vs s)(hok:mB s)(hterm:s.term=UP)(hM:s.i.op=15\/s.i.op=16->iB):
  ay UQ 139 #[vs] h (λu h'=>∃r W',u = .map (UK r)/\Up W0 h W'/\Pm s.f s.i s.temp W' h' r (nTo 32)/\(vw h).le (vw h')):=by
 refine ao (args:=[vs]) follows Tryz.func139 E.bj UC λK hK=>?_;dsimp only[L.bj,lkF,lkG];have c0:=Cx.start hW;refine aa λz hz=>?_;simp;refine c0.eo rfl hvs λS h1 W1 hW1 c1 at1 hle1=>?_;subst hz;refine aa λz hz=>?_;obtain⟨ui,hui,rui⟩:=(at1.part cC.Qt).ldN rfl (N:=5) rfl;have hui:Un.ev (vw h1) (.bM 5) (UN (UK ⟨S,2,UL⟩))=UK ui:=by simpa using hui _ c1.wle
 simp[hui];refine c1.ey (α:=InsD) rui (n:=5) (z:=.agg #[UH UI 0,UH UI 0,UH UI 0,UM UL 0 0,UH UJ 0]) U0 rfl rfl U0 U5 U5 λI h2 W2 hW2 c2 at2 hle2=>?_;subst hz;refine aa λz hz=>?_;simp;refine gk (n:=1) (z:=.nilFunc) (v:=.func (.func 187) #[] #[]) U0 rfl U0 rfl U8 U5 U5 λh3 hle3 hs3 hb3=>?_;have c3:=c2.ext hle3;have hW3:=c2.up (h':=h3);have z3:an (grow W2 h2 h3) ⟨h2.size,0,UL⟩=UK (.func (.func 187) #[] #[]):=cell_of (by rw[bY (QY _)];exact hb3) rfl;generalize grow W2 h2 h3=W3 at *;generalize h2.size=Z at z3;subst hz;refine aa λz hz=>?_;simp;refine lj ?_;have m3:dd (.int .i64) (h3.push (.map #[] 0)) h3.size (mapE id λ_=>UL):=by rw[mV];exact dd.none U2
 have q3:=bO h3 (.map #[] 0);have av3:W3 h3.size=none:=View.cf c3.wle (QY _);have k3:Kept h3 (h3.push (.map #[] 0)) none:=Kept.push ..;have hsz:h3.size<(h3.push (.map #[] 0)).size:=by simp
 generalize h3.push (.map #[] 0)=h4 at *;obtain⟨r,hr⟩ : ∃r,r=h3.size:=⟨_,rfl⟩;rw[<-hr]at m3 av3 ⊢;have p4:Pm s.f s.i s.temp W3 h4 r (nTo 0):=⟨UF c3.wle q3,av3,_,m3,λp=>by unfold nTo;simp;omega,λp v hp=>by cases hp⟩;have u03:Up W0 h W3:=⟨UF hW1 (UF hW2 hW3),c3.old⟩;have le04:(vw h).le (vw h4):=UF c3.le0 q3;have hrs:h.size<=r:=by rw[hr];exact bL c3.le0
 refine p4.ey (k:=1) (z:=.map UL) (v:=.map (UK r)) U0 rfl U0 rfl U8 U5 U5 λO h5 W5 u5 p5 b5 k5=>?_;subst hz;refine aa λz hz=>?_;simp;refine p5.ey (k:=1) (z:=.nilFunc) (v:=.func (.func 188) #[] #[ptr S,ptr I,ptr O,ptr Z]) U0 rfl U0 rfl U8 U5 U5 λB h6 W6 u6 p6 b6 k6=>?_;have l16:W1.le W6:=UF hW2 (UF hW3 (UF u5.le u6.le));have l26:W2.le W6:=UF hW3 (UF u5.le u6.le);have ct:Ct W6 S I s:=⟨at1.mono l16,at2.mono l26⟩;have w6:Wn W6 s S I O Z r:=⟨by have:=(ct.site.part cC.mj).bool;rw[hterm]at this;simpa using this,by simpa using(ct.ins.part InsD.tB).int,cell_of (u6.le _ _ b5) rfl,ae (UF u5.le u6.le) z3⟩;have hB:an W6 ⟨B,0,UL⟩=UK (.func (.func 188) #[] #[ptr S,ptr I,ptr O,ptr Z]):=cell_of b6 rfl;have s06:h.size<=h4.size:=bL le04;have u06:Up W0 h W6:=u03.trans s06 (u5.trans k5.size u6);have k46:=k5.trans k6;generalize W6=Wa at *;generalize h6=ha at *;clear b5 b6 k5 k6 u5 u6 p5 l16 l26 z3 hui at1 at2 c1 c2 c3;subst hz;refine aa λz hz=>?_;have hb:=ae p6.wle hB;simp[hb];refine bX (ops:=[.const (UH UI 1),.const (UH UI 1),.tmp 16]) rfl U0 (kI (op:=1) (pat:=1) p6 w6 U4 U1 U4 λho=>⟨_,_,rfl,by kernel_rfl,λh V hW hV=>MC (ct.mono hW) hV⟩) ?_;rintro _ hc1 ⟨p7,k7⟩;have p7:=p7.to (a:=0) U4 U1;subst hz;refine aa λz hz=>?_;have hb:=ae p7.wle hB;simp[hb];refine bX (ops:=[.const (UH UI 1),.const (UH UI 2),.tmp 19]) rfl U0 (kI (op:=1) (pat:=2) p7 w6 U4 U1 U4 λho=>⟨_,_,rfl,by kernel_rfl,λh V hW hV=>MQ (ct.mono hW) hV⟩) ?_;rintro _ hc2 ⟨p8,k8⟩;have p8:=p8.to (a:=1) U4 U1;have k48:=k46.trans (k7.trans k8);subst hz;refine aa λz hz=>?_;refine aa λy hy=>?_;simp;refine p8.ey (k:=1) (z:=UH UI 0) (v:=UH UI 2) U0 rfl U0 rfl U8 U5 U5 λP0 h9 W9 u9 p9 b9 k9=>?_;have c9:an W9 ⟨P0,0,UL⟩=UK (UH UI ((2:Int)+(0:Nat))):=cell_of b9 rfl;have k49:=k48.trans k9;have u09:Up W0 h W9:=u06.trans (Rq s06 k48.size) u9;have l9:=u9.le;subst hy;simp only[aW];refine ic [0,1,2,3,4,5,6,7] (λm ρ hx=>∃(k:Nat) (W:View) (P:Nat),k<=13/\m=13-k/\ρ=[(0,vs),(1,ptr S),(2,.map UL),(3,ptr I),(4,ptr Z),(5,ptr O),(6,ptr B),(7,ptr P)]/\Wa.le W/\Up W0 h W/\Pm s.f s.i s.temp W hx r (nTo (2+k))/\an W ⟨P,0,UL⟩=UK (UH UI ((2:Int)+k))/\Kept h4 hx (UK r)) 13
  ⟨0,W9,P0,by omega,rfl,rfl,l9,u09,by simpa using p9,c9,k49⟩ ?_;clear hb k7 k8 k9 p6 p7 p8 p9 b9 c9 k46 k48 k49 u9 u09 l9;rintro m ρ hx ⟨k,W,P,hk,rfl,rfl,lW,uW,pW,cP,kW⟩ K2 hK2;have cPx:=ae pW.wle cP;have hb:=ae (UF lW pW.wle) hB;dsimp only[L.bj.l1,lkF,lkG];refine aa λx hx2=>?_;by_cases c:k<13
 ·have e14:(2:Int)+k<=14:=by omega
  simp[cPx,e14];rw[hx2];clear hx2 x;refine aa λx hx2=>?_;have e1:(3:Int)+(2+k)-2=3+k:=by omega
  simp(disch:=omega)[cPx,hb,e1];refine bX (ops:=[.tmp 26,.tmp 29,.tmp 30]) rfl U0 (kI (op:=2+k) (pat:=3+k) pW (w6.mono lW) (by unfold nTo;simp<;>omega) U1 (by unfold opOf;rw[if_neg U1,if_pos U1];try omega) λho=>?_) ?_
  ·rw[Mf U1];have e:((3+(k:Int)).toNat:Int)+2=(2+(k:Int))+3:=by omega
   rw[e];exact⟨_,_,rfl,by kernel_rfl,λh V hW hV=>M3 ((ct.mono lW).mono hW) hV (ae hW cP) U1 ⟨hok.one.two U1,hok.one.most⟩⟩
  rintro _ hy1 ⟨pX,kX⟩;have pX:=pX.to (a:=2+k) U1 U1;rw[hx2];clear hx2 x;simp[ae pX.wle cP];refine gk (n:=1) (z:=UH UI 0) (v:=UH UI (2+k)) U0 rfl U0 rfl U8 U5 U5 λhy2 hle2 hs2 hb2=>?_;have cN:an (vw hy2) ⟨hy1.size,0,UL⟩=UK (UH UI (2+k)):=cell_of hb2 rfl;simp(disch:=omega)[cN];refine eB (g:=hy1.size) (o:=0) (n:=1) (v:=UH UI (2+k+1)) (cur:=(UH UI (2+k)).cells) (e:=T.int) U0 rfl rfl rfl U8 hb2 (by simp[Value.cells]) λhy3 hs3 ⟨row,hr3,he3⟩ ho3=>?_;have hrow:row = #[UH UI (2+k+1)]:=by rw[<-Array.toList_inj,he3];simp[Value.cells]
  rw[hrow]at hr3;have le13:(vw hy1).le (vw hy3):=λb o hb=>by have hlt:=View.lt (View.le_refl (vw hy1)) hb;show hy3[b]? = _;rw[ho3 b U1];exact hle2 b o hb
  have cN3:an (grow W hy1 hy3) ⟨hy1.size,0,UL⟩=UK (UH UI ((2:Int)+(k+1:Nat))):=by rw[show((2:Int)+(k+1:Nat))=2+k+1 by omega];simp[an,bY (QY _),hr3]
  have uX:=xY (h':=hy3) pX.wle;have eN:(2:Int)+((k+1:Nat):Int)=3+k:=by omega
  refine hK2 (13-(k+1)) _ _ U1 ⟨k+1,_,hy1.size,by omega,rfl,rfl,UF lW uX.le,uW.trans (Rq s06 (kW.trans kX).size) uX,?_,cN3,kW.trans (kX.trans (Kept.of_le le13))⟩;rw[eN];exact pX.ext le13
 have e13:k=13:=by omega
 subst e13;simp[cPx];clear hK2 cPx cP hx2 x;subst hz;refine aa λz hz=>?_;simp;subst hz;refine aa λz hz=>?_;simp;have ctW:=ct.mono lW;have wW:=w6.mono lW;have hBW:=ae lW hB;refine bX (ops:=[.const (UH UI 2),.const (UH UI 16),.const (UH UI 18),.const (UH UI (-128)),.const (UH UI 127),.const (UH UI 1)]) rfl U0 (Co (op:=2) (pat:=16) (mo:=18) (lo:=-128) (hi:=127) (sign:=1) pW wW ctW hBW U4 U1 U4 hok U1 (.inl rfl) U1 (by constructor<;>decide) (by constructor<;>decide) rfl) ?_;rintro _ i1 ⟨V1,v1,p1,k1⟩;have p1:=p1.to (a:=15) U4 U1;subst hz;refine aa λz hz=>?_;simp;refine bX (ops:=[.const (UH UI 3),.const (UH UI 17),.const (UH UI 18),.const (UH UI (-127)),.const (UH UI 128),.const (UH UI (-1))]) rfl U0 (Co (op:=3) (pat:=17) (mo:=18) (lo:=-127) (hi:=128) (sign:=-1) p1 (wW.mono v1.le) (ctW.mono v1.le) (ae v1.le hBW) U4 U1 U4 hok U1 (.inr rfl) U1 (by constructor<;>decide) (by constructor<;>decide) rfl) ?_;rintro _ i2 ⟨V2,v2,p2,k2⟩;have v12:=UF v1.le v2.le;have p2:=p2.to (a:=16) U4 U1;subst hz;refine aa λz hz=>?_;simp;refine bX (ops:=[.const (UH UI 5),.const (UH UI 18),.const (UH UI 19),.const (UH UI (-128)),.const (UH UI 127),.const (UH UI 1)]) rfl U0 (Co (op:=5) (pat:=18) (mo:=19) (lo:=-128) (hi:=127) (sign:=1) p2 (wW.mono v12) (ctW.mono v12) (ae v12 hBW) U4 U1 U4 hok U1 (.inl rfl) U1 (by constructor<;>decide) (by constructor<;>decide) rfl) ?_;rintro _ i3 ⟨V3,v3,p3,k3⟩;have v13:=UF v12 v3.le;have p3:=p3.to (a:=17) U4 U1;have uV3:Up W0 h V3:=uW.trans (Rq s06 kW.size) (v1.trans k1.size (v2.trans k2.size v3));have kV3:=kW.trans (k1.trans (k2.trans k3));have lV3:=UF lW v13;clear v1 v2 v3 v12 v13 p1 p2 k1 k2 k3 pW uW kW hBW wW ctW lW;subst hz;refine aa λz hz=>?_;refine aa λy hy=>?_;simp;refine xX (α:=Int) (n:=3) (X:=V3) (vs:=[UH UI 8,UH UI 9,UH UI 10]) (ds:=[8,9,10]) El.aY U2 ⟨bu.2 ⟨rfl,by decide,by decide⟩,bu.2 ⟨rfl,by decide,by decide⟩,bu.2 ⟨rfl,by decide,by decide⟩,trivial⟩ rfl U3 U3 λu40 i4 hle4 hs4 hu4 _=>?_;have hu4:=hu4 (grow V3 i3 i4) (bw p3.wle) (bY (QY _));have p4:=p3.ext hle4;have u4:=xY (h':=i4) p3.wle;have uV4:=uV3.trans (Rq s06 kV3.size) u4;have kV4:=kV3.trans (Kept.of_le hle4);have lV4:=UF lV3 u4.le;subst hy;simp[hu4.len];refine aF [0,1,2,3,4,5,6,8,40,41,42] (fun(_:Unit) j=>[vs,ptr S,.map UL,ptr I,ptr Z,ptr O,ptr B,.func (.func 193) #[] #[ptr B,ptr S,ptr I],u40,UH UI 3,UH UI j])
  (λ_ j hx=>∃W,(grow V3 i3 i4).le W/\Up W0 h W/\Pm s.f s.i s.temp W hx r (nTo (18+j))/\Kept h4 hx (UK r)) 3 ()
  rfl U1 rfl ⟨_,View.le_refl _,uV4,by simpa using p4,kV4⟩ (λ_ _=>rfl) (λv i h1 hk m=>by simp) ?_ ?_
 ·rintro _ j hx hj ⟨W,lW,uW,pW,kW⟩ K2 hK2;have hux:=hu4.mono (UF lW pW.wle);refine aa λx hx2=>?_;have hj3:j<[8,9,10].length:=hj;simp(disch:=omega)[hux.idx1 rfl,hux.int UE];have h012:j=0\/j=1\/j=2:=by omega
  have ej:nth ([8,9,10]:List Int) j=8+(j:Int):=by rcases h012 with rfl | rfl | rfl<;>rfl
  rw[ej,hx2];clear hx2 x;simp(disch:=omega);have lWa:=UF lV4 lW;refine bX (ops:=[.tmp 48,.tmp 50,.tmp 52,.const (UH UI 0),.const (UH UI 31),.const (UH UI 1)]) rfl U0 (Co (op:=8+j) (pat:=19+j) (mo:=20+j) (lo:=0) (hi:=31) (sign:=1) pW (w6.mono lWa) (ct.mono lWa) (ae lWa hB) (by unfold nTo;simp<;>omega) U1 (by rcases h012 with rfl | rfl | rfl<;>rfl) hok U1 (.inl rfl) U1 (by constructor<;>decide) (by constructor<;>decide) (by rcases h012 with rfl | rfl | rfl<;>rfl)) ?_;rintro _ hx3 ⟨W3,v3,p3,k3⟩;have p3:=p3.to (a:=18+j) U1 U1;refine hK2 () _ _ rfl rfl ⟨W3,UF lW v3.le,uW.trans (Rq s06 kW.size) v3,?_,kW.trans k3⟩;rw[show(18:Int)+((j+1:Nat):Int)=19+j by omega];exact p3
 rintro _ hx ⟨W,lW,uW,pW,kW⟩;have lWa:=UF lV4 lW;simp;subst hz;refine aa λz hz=>?_;have ctW:=ct.mono lWa;have wW:=w6.mono lWa;have hBW:=ae lWa hB;have hb:=ae pW.wle hBW;simp[hb];refine bX (ops:=[.const (UH UI 2),.const (UH UI 22),.tmp 56]) rfl U0 (kI (op:=2) (pat:=22) pW wW U4 U1 U4 λho=>⟨_,_,rfl,by kernel_rfl,λh V hW hV=>Mw (ctW.mono hW) hV hok (hok.one.two U1) (ae hW wW.zero)⟩) ?_;rintro _ i1 ⟨p1,k1⟩;have p1:=p1.to (a:=21) U4 U1;subst hz;refine aa λz hz=>?_;obtain⟨us,hus,rus⟩:=ctW.site.ldN rfl (N:=13) rfl;have hb:=ae p1.wle hBW;simp[hb,hus _ p1.wle];refine wP _ U0 U2 (AT (op:=15) (pat:=23) (plain:=24) (sum:=25) p1 wW rus (λk h0 h4=>by unfold nTo;simp<;>omega) U1 (λk h0 h4=>?_) hok (.inl rfl) U3 U1 U1 (λho=>hM (.inl ho)) (λk hk=>?_)) ?_
 ·rcases(by omega:k=0\/k=1\/k=2\/k=3)with rfl | rfl | rfl | rfl<;>rfl
 ·rcases(by omega:k=0\/k=1\/k=2\/k=3)with rfl | rfl | rfl | rfl<;>rfl
 rintro _ i2 ⟨V2,v2,p2,k2⟩;have p2:=p2.to4 (a:=22) U4 U1;subst hz;refine aa λz hz=>?_;have hb:=ae p2.wle (ae v2.le hBW);simp[hb,hus _ (UF v2.le p2.wle)];refine wP _ U0 U2 (AT (op:=16) (pat:=27) (plain:=26) (sum:=27) p2 (wW.mono v2.le) (rus.mono v2.le) (λk h0 h4=>by unfold nTo;simp<;>omega) U1 (λk h0 h4=>?_) hok (.inr rfl) U3 U1 U1 (λho=>hM (.inr ho)) (λk hk=>?_)) ?_
 ·rcases(by omega:k=0\/k=1\/k=2\/k=3)with rfl | rfl | rfl | rfl<;>rfl
 ·rcases(by omega:k=0\/k=1\/k=2\/k=3)with rfl | rfl | rfl | rfl<;>rfl
 rintro _ i3 ⟨V3',v3,p3,k3⟩;have p3:=p3.to4 (a:=26) U4 U1;have v23:=UF v2.le v3.le;have ct3:=ctW.mono v23;have w3:=wW.mono v23;have hb:=ae p3.wle (ae v23 hBW);subst hz;refine aa λz hz=>?_;simp[hb];refine bX (ops:=[.const (UH UI 17),.const (UH UI 31),.tmp 65]) rfl U0 (kI (op:=17) (pat:=31) p3 w3 U4 U1 U4 λho=>⟨_,_,rfl,by kernel_rfl,λh V hW hV=>LY (ct3.mono hW) hV hok.one.most⟩) ?_;rintro _ i4' ⟨p4',k4⟩;have p4':=p4'.to (a:=30) U4 U1;subst hz;refine aa λz hz=>?_;have hb:=ae p4'.wle (ae v23 hBW);simp[hb];refine bX (ops:=[.const (UH UI 18),.const (UH UI 32),.tmp 68]) rfl U0 (kI (op:=18) (pat:=32) p4' w3 U4 U1 U4 λho=>⟨_,_,rfl,by kernel_rfl,λh V hW hV=>LD (ct3.mono hW) hV ⟨hok.one.two U1,hok.one.most⟩⟩) ?_;rintro _ i5 ⟨p5,k5⟩;have p5:=p5.to (a:=31) U4 U1;subst hz;simp[ae p5.wle w3.out];have kk:=kW.trans (k1.trans (k2.trans (k3.trans (k4.trans k5))));have sx:h.size<=hx.size:=Rq s06 kW.size;refine hK _ _ ⟨r,V3',rfl,uW.trans (Rq sx k1.size) (v2.trans k2.size v3),p5,?_⟩;intro b o hb;have hlt:=View.lt (View.le_refl (vw h)) hb;show i5[b]? = _;rw[kk.block b U1 U9];exact le04 b o hb
end
end Go.Proofs.YtmhnaeecolpfkaaGreatDoor
namespace Go.Lft
open Go Go.MapKept
variable {po:OP} {pp:PP}
theorem og {P:Program} {ty:TypeId} {us:List (Nat × Value)} {h:Heap} {K:Value->Heap->Prop} {d:TypeDesc} {r:Nat} {f:Value->Option Value} {t k e:TypeId} {x y:Operand} {u z:Value} (ht:P.underlying t=UK (.map k e)) (hd:P.underlying k=UK d) (hz:(P.info? e).map (·.zero)=UK (UK z)) (hx:asg us x = .map (UK r)) (hy:asg us y=u) (hu:IsKey d u) (m:dd d h r f)
  (hk:K (.tuple #[(f u).getD z,.bool (f u).isSome]) h):@step po P (.lookup t x y UO) ty us h K:=by
 obtain⟨es,c,h1,h2,h3,h4⟩:=m.ex;simp only[Q0]at hz;obtain⟨i,hi,hz⟩:=hz;refine dg (cH λw hw=>⟨_,w,?_,Same.refl _,by rw[hw];exact hk⟩);have hz':(zeroValue e).run P w = .ok z w:=by simp[zeroValue,typeInfo,hi,hz]
 rw[<-hw]at h1;simp only[bN,execOp,hx,hy];rcases findNow_spec hu es.toList 0 h2 with⟨g1,g2⟩ | ⟨j,x,g1,g2,g3⟩
 ·have hf:f u = .none:=by
   cases hfu:f u with
   | none=>rfl
   | some v=>obtain⟨x,hx,e1,_⟩:=(h4 u v hu).2 hfu;exact absurd e1 (g2 x hx)
  simp[Instr.lookup,run_underlying ht,MapKept.run_getObj_map h1,MapKept.run_checkKey hd hu,MapKept.run_findKey hd g1,Result.andThen,hf,hz']
 have hf:f u=UK x.val:=(h4 u x.val hu).1 ⟨x,RA g2,g3,rfl⟩;simp[Instr.lookup,run_underlying ht,MapKept.run_getObj_map h1,MapKept.run_checkKey hd hu,MapKept.run_findKey hd g1,Result.andThen,hf]
theorem qe {H:View} {α:Type} [Rep α] {v:Value} {l:List α}:Rep.rd H [v] l↔SlRd H v l:=by rw[<-dy];unfold Rd;simp[Rep.agg]
theorem wJ {H:View} {α:Type} [Rep α] {cs:List Value} {l:List α} (h:Rep.rd H cs l) : ∃v,cs=[v]:=by
 have:=Rep.len h;match cs,this with
 | [v],_=>exact⟨v,rfl⟩
theorem xj {H:View} {v:Value} {f:ak} (h:Rd H v f) : ∃a m c,v = .agg #[UH UI f.params,.slice a m c]:=by unfold Rd at h;rw[if_pos (show Rep.agg ak=UO from rfl)]at h;obtain⟨cs,rfl,c1,c2,e,h1,h2⟩:=h;rw[h1.1]at e;obtain⟨v,rfl⟩:=wJ h2;obtain⟨a,c,rfl,-⟩:=qe.1 h2;exact⟨a,_,c,by congr 1;rw[<-Array.toList_inj,e];rfl⟩
theorem yJ {H:View} {v:Value} {i:InsD} (h:Rd H v i) : ∃a m c,v = .agg #[UH UI i.op,UH UI i.dst,UH UI i.two,.slice a m c,UH UJ i.imm.v]:=by unfold Rd at h;rw[if_pos (show Rep.agg InsD=UO from rfl)]at h;obtain⟨cs,rfl,c1,_,e,h1,c2,_,rfl,h2,c3,_,rfl,h3,c4,c5,rfl,h4,h5⟩:=h;rw[h1.1,h2.1,h3.1,h5.1]at e;obtain⟨v,rfl⟩:=wJ h4;obtain⟨a,c,rfl,-⟩:=qe.1 h4;exact⟨a,_,c,by congr 1;rw[<-Array.toList_inj,e];rfl⟩
theorem Ey {H:View} {v:Value} {t:de} (h:Rd H v t) : ∃a m c a2 m2 c2,v = .agg #[UH UI t.kind,.slice a m c,.slice a2 m2 c2,UH UJ t.imm.v]:=by unfold Rd at h;rw[if_pos (show Rep.agg de=UO from rfl)]at h;obtain⟨cs,rfl,c1,_,e,h1,c2,_,rfl,h2,c3,c4,rfl,h3,h4⟩:=h;rw[h1.1,h4.1]at e;obtain⟨v,rfl⟩:=wJ h2;obtain⟨w,rfl⟩:=wJ h3;obtain⟨a,c,rfl,-⟩:=qe.1 h2;obtain⟨a2,c2,rfl,-⟩:=qe.1 h3;exact⟨a,_,c,a2,_,c2,by congr 1;rw[<-Array.toList_inj,e];rfl⟩
theorem CG {H:View} {α:Type} [Rep α] {cs:Array Value} {d:α} (ha:Rep.agg α=UO) (h:Rd H (.agg cs) d):Rep.rd H cs.toList d:=by unfold Rd at h;rw[if_pos ha]at h;obtain⟨cs',e,h⟩:=h;cases e;exact h
theorem BX {H:View} {c1 c2 c3:Array Value} {s:cC} (h1:Rd H (.agg c1) s.f) (h2:Rd H (.agg c2) s.i) (h3:Rd H (.agg c3) s.t) (h5:-9223372036854775808<=s.temp/\s.temp<=9223372036854775807) :
  Rd H (.agg (c1.toList++(c2.toList++(c3.toList++([Value.bool s.term]++[UH UI s.temp])))).toArray) s:=by unfold Rd;rw[if_pos (show Rep.agg cC=UO from rfl)];exact⟨_,rfl,_,_,rfl,CG rfl h1,_,_,rfl,CG rfl h2,_,_,rfl,CG rfl h3,_,_,rfl,rfl,rfl,h5⟩
end Go.Lft
namespace Go.Proofs.YtmhnaeecolpfkaaGreatDoor
open Go Go.Lft
abbrev qC:List Value:=[UH UI 0,UM UL 0 0,UH UI 0,UH UI 0,UH UI 0,UM UL 0 0,UH UJ 0,UH UI 0,UM UL 0 0,UM UL 0 0,UH UJ 0,.bool UP,UH UI 0]
theorem Hp {H:View}:Rd H (.agg #[UH UI 0,UM UL 0 0]) (⟨0,[]⟩:ak):=by unfold Rd;rw[if_pos (show Rep.agg ak=UO from rfl)];exact⟨_,rfl,[_],[_],rfl,⟨rfl,by decide,by decide⟩,qe.2 aL⟩
theorem AN {H:View}:Rd H (.agg #[UH UI 0,UM UL 0 0,UM UL 0 0,UH UJ 0]) nM:=by unfold Rd;rw[if_pos (show Rep.agg de=UO from rfl)];exact⟨_,rfl,[_],_,rfl,⟨rfl,by decide,by decide⟩,[_],_,rfl,qe.2 aL,[_],[_],rfl,qe.2 aL,rfl,by decide,by decide⟩
theorem A0 {H:View}:Rd H (.agg qC.toArray) Fs:=BX (s:=Fs) Hp nA AN U3
def oL (f:ak) (b p temp:Int):cC:=if dz f b p then eH f b p temp else Fs
set_option maxHeartbeats 400000 in
theorem I7 {f:ak} {v:Value} {b p temp:Int} {h:Heap} {W:View} (hW:W.le (vw h)) (hv:Rd W v f) (ht:I64 temp) :
  ay UQ 92 #[v,UH UI b,UH UI p,UH UI temp] h (λu h'=>(vw h).le (vw h')/\∃vs,u = .tuple #[vs,.bool (dz f b p)]/\Rd (grow W h h') vs (oL f b p temp)):=by
 refine ao (args:=[v,UH UI b,UH UI p,UH UI temp]) follows Tryz.func92 E.yj UC λK hK=>?_;dsimp only[L.yj,lkF,lkG];have c0:=Cx.start hW;refine aa λz hz=>?_;simp;refine c0.eo rfl hv λB h1 W1 hW1 c1 at1 hle1=>?_;refine c1.db (k:=(0,0)) (n:=12) (z:=.agg qC.toArray) rfl U0 rfl U3 U8 λR h2 hle2 c2=>?_;subst hz;obtain⟨-,vb,hb1,hb2⟩:=fq at1;have l2:=c2.wle;have hl:=hb2.len (K:=vw h2);have hb1':=ae l2 hb1;have bd:=hb2.bound;refine aa λz hz=>?_;refine aa λy hy=>?_;refine gD (λρ h5=>h5=h2/\ρ=[(0,v),(1,UH UI b),(2,UH UI p),(3,UH UI temp),(4,ptr B),(8,ptr R),(9,.bool UP),(34,.bool (!dz f b p))]) ?_ ?_
 ·intro K2 hK2;by_cases e1:b<0
  ·simp[e1];exact hK2 _ _ ⟨rfl,by simp[dz];omega⟩
  by_cases e2:(f.blocks.length:Int)<=b
  ·simp[e1,e2,hb1',hl];exact hK2 _ _ ⟨rfl,by simp[dz];omega⟩
  by_cases e3:p<0
  ·simp[e1,e2,e3,hb1',hl];exact hK2 _ _ ⟨rfl,by simp[dz];omega⟩
  have hbl:b.toNat<f.blocks.length:=by omega
  have hx:=hb2.idxn (k:=.i64) (N:=6) rfl (i:=b) U1 U1;obtain⟨vi,hv1,hv2⟩:=((hb2.at hbl).part BlkD.ig).sl;have hv1:=ae l2 hv1;have hnb:f.blocks[b.toNat]=nth f.blocks b.toNat:=(aA hbl).symm;rw[hnb]at hv2;have hx:Bn.ev (.idx 6) vb (UH UI b)=UK (UN (UK ((slA vb).add (b.toNat*Rep.n BlkD)))):=hx;simp[e1,e2,e3,hb1',hl,hx,hv1,(hv2.mono l2).len];have ei:dz f b p=decide (p<=(nth f.blocks b.toNat).ins.length):=by unfold dz;simp[show 0<=b by omega,show b<f.blocks.length by omega,show 0<=p by omega]
  exact hK2 _ _ ⟨rfl,by rw[ei,show(!decide (p<=((nth f.blocks b.toNat).ins.length:Int)))=decide (((nth f.blocks b.toNat).ins.length:Int)<p) by rw[RH];simp]⟩
 rintro _ _ ⟨rfl,rfl⟩;subst hy;cases hq:dz f b p with
 | false=>simp;refine az (z:=.agg qC.toArray) (places:=[(0,2),(2,5),(7,4),(11,1),(12,1)]) (vs:=[]) (cs:=qC.toArray) U0 U0 U2 U0 ?_;refine c2.bG (k:=(0,0)) (n:=12) (l:=qC) Own.aq A0 rfl rfl U0 rfl rfl λh9 l9 hl9 c9=>?_;have hall:=c9.all (k:=(0,0)) (n:=12) (l:=l9) (B:=R) (e:=T.wN) Own.aq;simp at hall;simp[hall];refine hK _ _ ⟨c9.le0,_,by rw[hq],?_⟩;unfold oL;rw[hq,if_neg U2,<-hl9];exact A0
 | true=>
  have hq2:=hq;simp[dz]at hq2;obtain⟨⟨⟨g1,g2⟩,g3⟩,g4⟩:=hq2;have hbl:b.toNat<f.blocks.length:=by omega
  simp;subst hz;refine aa λz hz=>?_;obtain⟨ub,hub,rub⟩:=hb2.wh rfl (N:=6) rfl hbl;have hx:=hb2.idxn (k:=.i64) (N:=6) rfl (i:=b) U1 U1;simp[hb1',hx,hub _ l2];refine c2.ey (α:=BlkD) rub (n:=6) (z:=.agg #[UM UL 0 0,UM UL 0 0,UH UI 0,UM UL 0 0,UM UL 0 0,UH UJ 0]) U0 rfl rfl U0 U5 U5 λB3 h3 W3 hW3 c3 at3 hle3=>?_;subst hz;refine aa λz hz=>?_;obtain⟨vp,vi,va,vt,-,si,-⟩:=lQ at3;have sim:=si.mono c3.wle;obtain⟨uf,huf,ruf⟩:=at1.ldN rfl (N:=2) rfl;have huf3:=huf _ (UF hW3 c3.wle);have ruf:=ruf.mono hW3;have hsite:oL f b p temp=eH f b p temp:=by unfold oL;rw[hq,if_pos rfl]
  generalize hbk:nth f.blocks b.toNat=bk at *;by_cases e:p=bk.ins.length
  ·obtain⟨ut,hut,rut⟩:=(at3.part BlkD.mj).ldN rfl (N:=4) rfl;have hut:Un.ev (vw h3) (.bM 4) (UN (UK ⟨B3,2,UL⟩))=UK ut:=by simpa using hut _ c3.wle
   obtain⟨a1,m1,k1,rfl⟩:=xj ruf;obtain⟨a2,m2,k2,a3,m3,k3,rfl⟩:=Ey rut;have hs:eH f b p temp=⟨f,ik,bk.term,UO,temp⟩:=by unfold eH;rw[hbk,if_pos e]
   have rs:Rd W3 (.agg #[UH UI f.params,.slice a1 m1 k1,UH UI 0,UH UI 0,UH UI 0,UM UL 0 0,UH UJ 0,UH UI bk.term.kind,.slice a2 m2 k2,.slice a3 m3 k3,UH UJ bk.term.imm.v,.bool UO,UH UI temp]) (eH f b p temp):=by rw[hs];exact BX (s:=⟨f,ik,bk.term,UO,temp⟩) ruf nA rut ht
   simp[sim.1,sim.2.len,e,huf3,hut];refine az (z:=.agg qC.toArray) (places:=[(0,2),(2,5),(7,4),(11,1),(12,1)]) (vs:=[(0,.agg #[UH UI f.params,.slice a1 m1 k1]),(2,.agg #[UH UI bk.term.kind,.slice a2 m2 k2,.slice a3 m3 k3,UH UJ bk.term.imm.v]),(3,.bool UO),(4,UH UI temp)]) (cs:=#[UH UI f.params,.slice a1 m1 k1,UH UI 0,UH UI 0,UH UI 0,UM UL 0 0,UH UJ 0,UH UI bk.term.kind,.slice a2 m2 k2,.slice a3 m3 k3,UH UJ bk.term.imm.v,.bool UO,UH UI temp]) U0 U0 U2 (by simp[Instr.fill,Value.cells]) ?_;refine c3.bG (k:=(0,0)) (n:=12) (l:=qC) Own.aq rs rfl rfl U0 rfl rfl λh9 l9 hl9 c9=>?_;have hall:=c9.all (k:=(0,0)) (n:=12) (l:=l9) (B:=R) (e:=T.wN) Own.aq;simp at hall;simp[hall];refine hK _ _ ⟨c9.le0,_,by rw[hq],?_⟩;rw[hsite,<-hl9];exact rs.mono c9.fin
  have hlt:p.toNat<bk.ins.length:=by omega
  obtain⟨ui,hui,rui⟩:=si.2.wh rfl (N:=5) rfl hlt;have hxi:=si.2.idxn (k:=.i64) (N:=5) rfl (i:=p) U1 U1;obtain⟨a1,m1,k1,rfl⟩:=xj ruf;obtain⟨a2,m2,k2,rfl⟩:=yJ rui;have hs:eH f b p temp=⟨f,nth bk.ins p.toNat,nM,UP,temp⟩:=by unfold eH;rw[hbk,if_neg e]
  generalize nth bk.ins p.toNat=xi at *;have rs:Rd W3 (.agg #[UH UI f.params,.slice a1 m1 k1,UH UI xi.op,UH UI xi.dst,UH UI xi.two,.slice a2 m2 k2,UH UJ xi.imm.v,UH UI 0,UM UL 0 0,UM UL 0 0,UH UJ 0,.bool UP,UH UI temp]) (eH f b p temp):=by rw[hs];exact BX (s:=⟨f,xi,nM,UP,temp⟩) ruf rui AN ht
  simp[sim.1,sim.2.len,e];subst hz;refine aa λz hz=>?_;refine aG W3 c3.wle ?_;simp[huf W3 hW3,si.1,hxi,hui W3 UE];refine az (z:=.agg qC.toArray) (places:=[(0,2),(2,5),(7,4),(11,1),(12,1)]) (vs:=[(0,.agg #[UH UI f.params,.slice a1 m1 k1]),(1,.agg #[UH UI xi.op,UH UI xi.dst,UH UI xi.two,.slice a2 m2 k2,UH UJ xi.imm.v]),(4,UH UI temp)]) (cs:=#[UH UI f.params,.slice a1 m1 k1,UH UI xi.op,UH UI xi.dst,UH UI xi.two,.slice a2 m2 k2,UH UJ xi.imm.v,UH UI 0,UM UL 0 0,UM UL 0 0,UH UJ 0,.bool UP,UH UI temp]) U0 U0 U2 (by simp[Instr.fill,Value.cells]) ?_;refine c3.bG (k:=(0,0)) (n:=12) (l:=qC) Own.aq rs rfl rfl U0 rfl rfl λh9 l9 hl9 c9=>?_;subst hz;have hall:=c9.all (k:=(0,0)) (n:=12) (l:=l9) (B:=R) (e:=T.wN) Own.aq;simp at hall;simp[hall];refine hK _ _ ⟨c9.le0,_,by rw[hq],?_⟩;rw[hsite,<-hl9];exact rs.mono c9.fin
end Go.Proofs.YtmhnaeecolpfkaaGreatDoor
namespace Go.Lft
open Go
variable {po po2:OP}
theorem Cx.dS {V W:View} {h0 h:Heap} {o:Own} {k:Key} {P:Program} {ty:TypeId} {us:List (Nat × Value)} {n i:Nat} {e t:TypeId} {B:Nat} {l:List Value} {x y:Operand} {u:Value} {K:Value->Heap->Prop} (c:Cx V h0 W h o) (hk:o k=bx e B (RawN.mk (n:=n) l)) (hi:i<=n) (hsz:cS P t=UK 1) (hx:asg us x = UN (UK ⟨B,i,UL⟩)) (hy:asg us y=u) (hu:u.oneCell'=UO)
  (hK : ∀h',Cx V h0 W h' (o.upd k (bx e B (RawN.mk (n:=n) (l.set i u))))->K undef h'):@step po P (.store t x y) ty us h K:=
 c.own.dS hk hi hsz hx hy hu λh2 w hX=>hK _ ⟨w,c.old,hX _ c.le0 (View.cf UE (c.new k _ B hk rfl)),λj i b hj hb=>by
  by_cases e:j=k
  ·subst e;rw[Own.aq]at hj;cases hj;exact c.new _ _ b hk hb
  rw[Own.aB e]at hj;exact c.new j i b hj hb⟩
end Go.Lft
namespace Go.Proofs.YtmhnaeecolpfkaaGreatDoor
open Go Go.Lft
structure zC (t:de):Prop where
 one:t.kind=2\/t.kind=3->1<=t.args.length
 most:t.args.length<=10000
 to:t.to.length<=10000
theorem CT {H:View} {x0 x1 x2 va x4:Value} {i:InsD} (h:Rd H (.agg #[x0,x1,x2,va,x4]) i):SlRd H va i.args:=by unfold Rd at h;rw[if_pos (show Rep.agg InsD=UO from rfl)]at h;obtain⟨cs,e0,c1,_,e,h1,c2,_,rfl,h2,c3,_,rfl,h3,c4,c5,rfl,h4,h5⟩:=h;cases e0;rw[h1.1,h2.1,h3.1,h5.1]at e;obtain⟨v,rfl⟩:=wJ h4;simp at e;obtain⟨-,-,-,rfl,-⟩:=e;exact qe.1 h4
set_option maxHeartbeats 4000000 in
theorem Of {s:cC} {v:Value} {pat:Int} {h:Heap} {W:View} (hW:W.le (vw h)) (hv:Rd W v s) (hok:mB s) (htk:zC s.t) (hp:I64 pat) :
    ay UQ 138 #[v,UH UI pat] h (λu h'=>bZ W h h' u (gZ s.f s.t pat)):=by
  refine ao (args:=[v,UH UI pat]) follows Tryz.func138 E.fy UC λK hK=>?_
  dsimp only[L.fy,lkF,lkG]
  have c0:=Cx.start hW
  refine aa λz hz=>?_
  simp
  refine c0.eo rfl hv λS h1 W1 hW1 c1 at1 hle1=>?_
  refine c1.db (k:=(0,0)) (n:=7) (z:=.agg fitZ.toArray) rfl U0 rfl U3 U8 λR h2 hle2 c2=>?_
  subst hz
  refine aa λz hz=>?_
  obtain⟨ut,hut,rut⟩:=(at1.part cC.QW).ldN rfl (N:=4) rfl
  have hut:Un.ev (vw h2) (.bM 4) (UN (UK ⟨S,7,UL⟩))=UK ut:=by simpa using hut _ c2.wle
  simp[hut]
  refine c2.ey (α:=de) rut (n:=4) (z:=.agg #[UH UI 0,UM UL 0 0,UM UL 0 0,UH UJ 0]) U0 rfl rfl U0 U5 U5 λTb h3 W3 hW3 c3 at3 hle3=>?_
  have t0:=(at3.part de.Ck).int
  obtain⟨va,t1,hva⟩:=(at3.part de.eK).sl
  obtain⟨vt,t2,hvt⟩:=(at3.part de.zX).sl
  have t3:=(at3.part de.iR).i32
  have ri:=(at3.part de.iR).nO
  have t0:an W3 ⟨Tb,0,UL⟩=UK (UH UI s.t.kind):=by simpa using t0
  have t1:an W3 ⟨Tb,1,UL⟩=UK va:=by simpa using t1
  have t2:an W3 ⟨Tb,2,UL⟩=UK vt:=by simpa using t2
  have t3:an W3 ⟨Tb,3,UL⟩=UK (UH UJ s.t.imm.v):=by simpa using t3
  have most:=htk.most
  have mosto:=htk.to
  subst hz
  refine aa λz hz=>?_
  simp[ae c3.wle t2]
  refine ah U0 (eM c3.wle hvt U1) ?_
  rintro uto h4 ⟨hle4,hto⟩
  have c4:=c3.ext hle4
  have hW4:=c3.up (h':=h4)
  have hto0:=hto
  obtain⟨b0,k0,rfl,-⟩:=hto0
  generalize grow W3 h3 h4=W4 at *
  have s0:=ae hW4 t0
  have s1:=ae hW4 t1
  have s3:=ae hW4 t3
  have hva4:=hva.mono hW4
  have z0:=ae c4.wle s0
  have z1:=ae c4.wle s1
  have z3:=ae c4.wle s3
  clear t0 t1 t2 t3 hut hle1 hle2 hle3 hle4
  subst hz
  refine aa λz hz=>?_
  simp only[aW]
  refine aa λy hy=>?_
  by_cases p1:pat=0/\s.t.kind=1
  · have he:gZ s.f s.t pat=UK ⟨[],[],[],⟨1,0,0,s.t.to,⟨0⟩⟩⟩:=by unfold gZ;rw[if_pos p1]
    simp[p1.1,z0,p1.2]
    subst hy
    simp
    refine az (t:=T.eU) (z:=.agg #[UH UI 0,UH UI 0,UH UI 0,UM UL 0 0,UH UJ 0]) (places:=[(0,1),(1,1),(2,1),(3,1),(4,1)]) (vs:=[(0,UH UI 1),(3,.slice b0 s.t.to.length k0)]) (cs:=#[UH UI 1,UH UI 0,UH UI 0,.slice b0 s.t.to.length k0,UH UJ 0]) U0 U0 U2 (by simp[Instr.fill,Value.cells]) ?_
    refine az (t:=T.bf) (z:=.agg fitZ.toArray) (places:=[(0,1),(1,1),(2,1),(3,5)]) (vs:=[(3,.agg #[UH UI 1,UH UI 0,UH UI 0,.slice b0 s.t.to.length k0,UH UJ 0])]) (cs:=#[UM UL 0 0,UM UL 0 0,UM UL 0 0,UH UI 1,UH UI 0,UH UI 0,.slice b0 s.t.to.length k0,UH UJ 0]) U0 U0 U2 (by simp[Instr.fill,Value.cells]) ?_
    have hr:Rd W4 (.agg #[UM UL 0 0,UM UL 0 0,UM UL 0 0,UH UI 1,UH UI 0,UH UI 0,.slice b0 s.t.to.length k0,UH UJ 0]) (⟨[],[],[],⟨1,0,0,s.t.to,⟨0⟩⟩⟩:FitD):=nB (ce:=[_,_,_,_,_]) aL aL aL (lz (imm:=⟨0⟩) U2 U2 hto)
    refine c4.bG (k:=(0,0)) (n:=7) (l:=fitZ) U4 hr rfl rfl U0 rfl rfl λh9 l9 hl9 c9=>?_
    have hall:=c9.all (k:=(0,0)) (n:=7) (l:=l9) (B:=R) (e:=T.bf) U4
    simp at hall
    simp[hall]
    exact hK _ _ (bZ.of c9 (hl9▸hr) (by rw[he];rfl) λy e=>by rw[he]at e;cases e;rfl)
  refine gD (λρ h5=>h5=h4/\ρ=[(0,v),(1,UH UI pat),(2,ptr S),(4,ptr R),(5,.bool UP),(6,ptr Tb),(7,.slice b0 s.t.to.length k0),(13,ut),(16,.slice b0 s.t.to.length k0),(17,.bool UP)]) ?_ ?_
  · intro K2 hK2
    by_cases e0:pat=0
    · have e2:¬s.t.kind=1:=λe=>p1 ⟨e0,e⟩
      simp[e0,z0,e2]
      exact hK2 _ _ ⟨rfl,by rw[e0]⟩
    · simp[e0,z0]
      exact hK2 _ _ ⟨rfl,rfl⟩
  rintro _ h4 ⟨rfl,rfl⟩
  subst hy
  refine bg U2 ?_
  refine aa λy hy=>?_
  by_cases p2:pat=0/\s.t.kind=4
  · have he:gZ s.f s.t pat=UK ⟨s.t.args,[],[],⟨7,if s.t.args=[] then -1 else nth s.t.args 0,0,[],⟨0⟩⟩⟩:=by unfold gZ;rw[if_neg p1,if_pos p2]
    simp[p2.1,z0,p2.2]
    subst hy
    refine aQ U2 ?_
    refine aa λy hy=>?_
    simp
    refine az (t:=T.eU) (z:=.agg #[UH UI 0,UH UI 0,UH UI 0,UM UL 0 0,UH UJ 0]) (places:=[(0,1),(1,1),(2,1),(3,1),(4,1)]) (vs:=[(0,UH UI 7),(1,UH UI (-1))]) (cs:=#[UH UI 7,UH UI (-1),UH UI 0,UM UL 0 0,UH UJ 0]) U0 U0 U2 (by simp[Instr.fill,Value.cells]) ?_
    refine c4.db (k:=(0,1)) (n:=4) (z:=.agg #[UH UI 0,UH UI 0,UH UI 0,UM UL 0 0,UH UJ 0]) U4 U0 rfl U3 U8 λEb h5 hle5 c5=>?_
    refine c5.uj (k:=(0,1)) (n:=4) (l:=[UH UI 0,UH UI 0,UH UI 0,UM UL 0 0,UH UJ 0]) (l':=[UH UI 7,UH UI (-1),UH UI 0,UM UL 0 0,UH UJ 0]) U4 U0 rfl rfl rfl U7 λh6 c6=>?_
    subst hy
    have y1:=ae c6.wle s1
    have hlen:=hva4.len (K:=vw h6)
    generalize hae:(if s.t.args=[] then(-1:Int) else nth s.t.args 0)=a at *
    refine aa λy hy=>?_
    refine gD (λρ h7=>∃o6,Cx W h W4 h7 o6/\o6 (0,0)=bx T.bf R (RawN.mk (n:=7) fitZ)/\o6 (0,1)=bx T.eU Eb (RawN.mk (n:=4) [UH UI 7,UH UI a,UH UI 0,UM UL 0 0,UH UJ 0])/\(-9223372036854775808<=a/\a<=9223372036854775807)/\
      ρ=[(0,v),(1,UH UI 0),(2,ptr S),(4,ptr R),(5,.bool UP),(6,ptr Tb),(7,.slice b0 s.t.to.length k0),(8,ptr Eb),(13,ut),(16,.slice b0 s.t.to.length k0),(36,.agg #[UH UI 7,UH UI (-1),UH UI 0,UM UL 0 0,UH UJ 0])]) ?_ ?_
    · intro K2 hK2
      by_cases ea:s.t.args=[]
      · have el:(s.t.args.length:Int)=0:=by rw[ea];rfl
        rw[if_pos ea]at hae
        subst hae
        simp[y1,hlen,ea]
        exact hK2 _ _ ⟨_,c6,by rfl,by rfl,by decide,rfl⟩
      · have el:=List.length_pos_iff.2 ea
        rw[if_neg ea]at hae
        have a0:=hva4.rng (i:=0) el
        have x0:=hva4.idx1 (k:=.i64) (i:=0) rfl U3 U1
        have d0:=hva4.int c6.wle (i:=0) el
        simp[y1,hlen,el,x0,d0]
        refine c6.dS (k:=(0,1)) (n:=4) (i:=1) (l:=[UH UI 7,UH UI (-1),UH UI 0,UM UL 0 0,UH UJ 0]) U4 U3 U0 rfl rfl rfl λh7 c7=>?_
        exact hK2 _ _ ⟨_,c7,by rfl,by rw[<-hae];rfl,by rw[<-hae];exact a0,rfl⟩
    · rintro _ h7 ⟨o6,c7,k00,k01,ar,rfl⟩
      subst hy
      refine aa λy hy=>?_
      refine aG (vw h7) UE ?_
      have hall7:=c7.all k01
      simp at hall7
      simp[ae c7.wle s1,hall7]
      refine ah U0 (eM c7.wle hva4 U1) ?_
      rintro ucl h8 ⟨hle8,hcl⟩
      refine⟨hle8,?_⟩
      have c8:=c7.ext hle8
      have hW8:=c7.up (h':=h8)
      have hcl0:=hcl
      obtain⟨b1,k1,rfl,-⟩:=hcl0
      refine az (t:=T.bf) (z:=.agg fitZ.toArray) (places:=[(0,1),(1,1),(2,1),(3,5)]) (vs:=[(0,.slice b1 s.t.args.length k1),(3,.agg #[UH UI 7,UH UI a,UH UI 0,UM UL 0 0,UH UJ 0])]) (cs:=#[.slice b1 s.t.args.length k1,UM UL 0 0,UM UL 0 0,UH UI 7,UH UI a,UH UI 0,UM UL 0 0,UH UJ 0]) U0 U0 U2 (by simp[Instr.fill,Value.cells]) ?_
      have hr:Rd (grow W4 h7 h8) (.agg #[.slice b1 s.t.args.length k1,UM UL 0 0,UM UL 0 0,UH UI 7,UH UI a,UH UI 0,UM UL 0 0,UH UJ 0]) (⟨s.t.args,[],[],⟨7,a,0,[],⟨0⟩⟩⟩:FitD):=nB (ce:=[_,_,_,_,_]) hcl aL aL (lz (imm:=⟨0⟩) U9 U2 aL)
      refine c8.bG (k:=(0,0)) (n:=7) (l:=fitZ) k00 hr rfl rfl U0 rfl rfl λh9 l9 hl9 c9=>?_
      subst hy
      have hall:=c9.all (k:=(0,0)) (n:=7) (l:=l9) (B:=R) (e:=T.bf) Own.aq
      simp at hall
      simp[hall]
      exact hK _ _ (bZ.of c9 (hl9▸hr) (by rw[he];rfl) λy e=>by rw[he]at e;cases e;rfl)
  refine gD (λρ h5=>h5=h4/\ρ=[(0,v),(1,UH UI pat),(2,ptr S),(4,ptr R),(5,.bool UP),(6,ptr Tb),(7,.slice b0 s.t.to.length k0),(13,ut),(16,.slice b0 s.t.to.length k0),(28,.bool UP)]) ?_ ?_
  · intro K2 hK2
    by_cases e0:pat=0
    · have e2:¬s.t.kind=4:=λe=>p2 ⟨e0,e⟩
      simp[e0,z0,e2]
      exact hK2 _ _ ⟨rfl,by rw[e0]⟩
    · simp[e0,z0]
      exact hK2 _ _ ⟨rfl,rfl⟩
  rintro _ h4 ⟨rfl,rfl⟩
  subst hy
  refine bg U2 ?_
  refine aa λy hy=>?_
  by_cases p3:pat=0/\s.t.kind=5
  · have he:gZ s.f s.t pat=UK ⟨[],[],[],⟨8,0,0,[],s.t.imm⟩⟩:=by unfold gZ;rw[if_neg p1,if_neg p2,if_pos p3]
    simp[p3.1,z0,p3.2]
    subst hy
    simp[z3]
    refine az (t:=T.eU) (z:=.agg #[UH UI 0,UH UI 0,UH UI 0,UM UL 0 0,UH UJ 0]) (places:=[(0,1),(1,1),(2,1),(3,1),(4,1)]) (vs:=[(0,UH UI 8),(4,UH UJ s.t.imm.v)]) (cs:=#[UH UI 8,UH UI 0,UH UI 0,UM UL 0 0,UH UJ s.t.imm.v]) U0 U0 U2 (by simp[Instr.fill,Value.cells]) ?_
    refine az (t:=T.bf) (z:=.agg fitZ.toArray) (places:=[(0,1),(1,1),(2,1),(3,5)]) (vs:=[(3,.agg #[UH UI 8,UH UI 0,UH UI 0,UM UL 0 0,UH UJ s.t.imm.v])]) (cs:=#[UM UL 0 0,UM UL 0 0,UM UL 0 0,UH UI 8,UH UI 0,UH UI 0,UM UL 0 0,UH UJ s.t.imm.v]) U0 U0 U2 (by simp[Instr.fill,Value.cells]) ?_
    have hr:Rd W4 (.agg #[UM UL 0 0,UM UL 0 0,UM UL 0 0,UH UI 8,UH UI 0,UH UI 0,UM UL 0 0,UH UJ s.t.imm.v]) (⟨[],[],[],⟨8,0,0,[],s.t.imm⟩⟩:FitD):=nB (ce:=[_,_,_,_,_]) aL aL aL (lz U2 ri aL)
    refine c4.bG (k:=(0,0)) (n:=7) (l:=fitZ) U4 hr rfl rfl U0 rfl rfl λh9 l9 hl9 c9=>?_
    have hall:=c9.all (k:=(0,0)) (n:=7) (l:=l9) (B:=R) (e:=T.bf) U4
    simp at hall
    simp[hall]
    exact hK _ _ (bZ.of c9 (hl9▸hr) (by rw[he];rfl) λy e=>by rw[he]at e;cases e;rfl)
  refine gD (λρ h5=>h5=h4/\ρ=[(0,v),(1,UH UI pat),(2,ptr S),(4,ptr R),(5,.bool UP),(6,ptr Tb),(7,.slice b0 s.t.to.length k0),(13,ut),(16,.slice b0 s.t.to.length k0),(51,.bool UP)]) ?_ ?_
  · intro K2 hK2
    by_cases e0:pat=0
    · have e2:¬s.t.kind=5:=λe=>p3 ⟨e0,e⟩
      simp[e0,z0,e2]
      exact hK2 _ _ ⟨rfl,by rw[e0]⟩
    · simp[e0,z0]
      exact hK2 _ _ ⟨rfl,rfl⟩
  rintro _ h4 ⟨rfl,rfl⟩
  subst hy
  refine bg U2 ?_
  refine aa λy hy=>?_
  by_cases p4:pat=33/\s.t.kind=2
  · have he:gZ s.f s.t pat=UK ⟨s.t.args,[],[],⟨2,nth s.t.args 0,0,s.t.to,⟨0⟩⟩⟩:=by unfold gZ;rw[if_neg p1,if_neg p2,if_neg p3,if_pos p4]
    have al:=htk.one U1
    have a0:=hva4.rng (i:=0) al
    have x0:=hva4.idx1 (k:=.i64) (i:=0) rfl U3 U1
    have d0:=hva4.int (View.le_refl W4) (i:=0) al
    simp[p4.1,z0,p4.2]
    subst hy
    refine aQ U2 ?_
    refine aa λy hy=>?_
    refine aG W4 c4.wle ?_
    simp[s1,x0,d0]
    refine⟨?_,?_⟩
    · refine ah U0 (eM c4.wle hva4 U1) ?_
      rintro ucl h5 ⟨hle5,hcl⟩
      have c5:=c4.ext hle5
      have hW5:=c4.up (h':=h5)
      refine⟨UF hW5 c5.wle,?_⟩
      have hcl0:=hcl
      obtain⟨b1,k1,rfl,-⟩:=hcl0
      generalize grow W4 h4 h5=W5 at *
      refine az (t:=T.eU) (z:=.agg #[UH UI 0,UH UI 0,UH UI 0,UM UL 0 0,UH UJ 0]) (places:=[(0,1),(1,1),(2,1),(3,1),(4,1)]) (vs:=[(0,UH UI 2),(1,UH UI (nth s.t.args 0)),(3,.slice b0 s.t.to.length k0)]) (cs:=#[UH UI 2,UH UI (nth s.t.args 0),UH UI 0,.slice b0 s.t.to.length k0,UH UJ 0]) U0 U0 U2 (by simp[Instr.fill,Value.cells]) ?_
      refine⟨UF hW5 c5.wle,?_⟩
      refine az (t:=T.bf) (z:=.agg fitZ.toArray) (places:=[(0,1),(1,1),(2,1),(3,5)]) (vs:=[(0,.slice b1 s.t.args.length k1),(3,.agg #[UH UI 2,UH UI (nth s.t.args 0),UH UI 0,.slice b0 s.t.to.length k0,UH UJ 0])]) (cs:=#[.slice b1 s.t.args.length k1,UM UL 0 0,UM UL 0 0,UH UI 2,UH UI (nth s.t.args 0),UH UI 0,.slice b0 s.t.to.length k0,UH UJ 0]) U0 U0 U2 (by simp[Instr.fill,Value.cells]) ?_
      have hr:Rd W5 (.agg #[.slice b1 s.t.args.length k1,UM UL 0 0,UM UL 0 0,UH UI 2,UH UI (nth s.t.args 0),UH UI 0,.slice b0 s.t.to.length k0,UH UJ 0]) (⟨s.t.args,[],[],⟨2,nth s.t.args 0,0,s.t.to,⟨0⟩⟩⟩:FitD):=nB (ce:=[_,_,_,_,_]) hcl aL aL (lz (imm:=⟨0⟩) U9 U2 (hto.mono hW5))
      refine c5.bG (k:=(0,0)) (n:=7) (l:=fitZ) U4 hr rfl rfl U0 rfl rfl λh9 l9 hl9 c9=>?_
      subst hy
      have hall:=c9.all (k:=(0,0)) (n:=7) (l:=l9) (B:=R) (e:=T.bf) U4
      simp at hall
      simp[hall]
      exact hK _ _ (bZ.of c9 (hl9▸hr) (by rw[he];rfl) λy e=>by rw[he]at e;cases e;rfl)
    · refine az (t:=T.eU) (z:=.agg #[UH UI 0,UH UI 0,UH UI 0,UM UL 0 0,UH UJ 0]) (places:=[(0,1),(1,1),(2,1),(3,1),(4,1)]) (vs:=[(0,UH UI 2),(1,UH UI (nth s.t.args 0)),(3,.slice b0 s.t.to.length k0)]) (cs:=#[UH UI 2,UH UI (nth s.t.args 0),UH UI 0,.slice b0 s.t.to.length k0,UH UJ 0]) U0 U0 U2 (by simp[Instr.fill,Value.cells]) ?_
      refine⟨c4.wle,?_⟩
      refine ah U0 (eM c4.wle hva4 U1) ?_
      rintro ucl h5 ⟨hle5,hcl⟩
      have c5:=c4.ext hle5
      have hW5:=c4.up (h':=h5)
      refine⟨UF hW5 c5.wle,?_⟩
      have hcl0:=hcl
      obtain⟨b1,k1,rfl,-⟩:=hcl0
      generalize grow W4 h4 h5=W5 at *
      refine az (t:=T.bf) (z:=.agg fitZ.toArray) (places:=[(0,1),(1,1),(2,1),(3,5)]) (vs:=[(0,.slice b1 s.t.args.length k1),(3,.agg #[UH UI 2,UH UI (nth s.t.args 0),UH UI 0,.slice b0 s.t.to.length k0,UH UJ 0])]) (cs:=#[.slice b1 s.t.args.length k1,UM UL 0 0,UM UL 0 0,UH UI 2,UH UI (nth s.t.args 0),UH UI 0,.slice b0 s.t.to.length k0,UH UJ 0]) U0 U0 U2 (by simp[Instr.fill,Value.cells]) ?_
      have hr:Rd W5 (.agg #[.slice b1 s.t.args.length k1,UM UL 0 0,UM UL 0 0,UH UI 2,UH UI (nth s.t.args 0),UH UI 0,.slice b0 s.t.to.length k0,UH UJ 0]) (⟨s.t.args,[],[],⟨2,nth s.t.args 0,0,s.t.to,⟨0⟩⟩⟩:FitD):=nB (ce:=[_,_,_,_,_]) hcl aL aL (lz (imm:=⟨0⟩) U9 U2 (hto.mono hW5))
      refine c5.bG (k:=(0,0)) (n:=7) (l:=fitZ) U4 hr rfl rfl U0 rfl rfl λh9 l9 hl9 c9=>?_
      subst hy
      have hall:=c9.all (k:=(0,0)) (n:=7) (l:=l9) (B:=R) (e:=T.bf) U4
      simp at hall
      simp[hall]
      exact hK _ _ (bZ.of c9 (hl9▸hr) (by rw[he];rfl) λy e=>by rw[he]at e;cases e;rfl)
  refine gD (λρ h5=>h5=h4/\ρ=[(0,v),(1,UH UI pat),(2,ptr S),(4,ptr R),(5,.bool UP),(6,ptr Tb),(7,.slice b0 s.t.to.length k0),(13,ut),(16,.slice b0 s.t.to.length k0),(63,.bool UP)]) ?_ ?_
  · intro K2 hK2
    by_cases e0:pat=33
    · have e2:¬s.t.kind=2:=λe=>p4 ⟨e0,e⟩
      simp[e0,z0,e2]
      exact hK2 _ _ ⟨rfl,by rw[e0]⟩
    · simp[e0,z0]
      exact hK2 _ _ ⟨rfl,rfl⟩
  rintro _ h4 ⟨rfl,rfl⟩
  subst hy
  refine bg U2 ?_
  refine aa λy hy=>?_
  by_cases p5:(34<=pat/\pat<=36)/\s.t.kind=2
  · have w5:inR pat 34 36=true:=by simp[inR,p5.1.1,p5.1.2]
    have al:=htk.one U1
    have a0:=hva4.rng (i:=0) al
    have x0:=hva4.idx1 (k:=.i64) (i:=0) rfl U3 U1
    simp
    refine ah U0 jY ?_
    rintro _ h4 ⟨rfl,rfl⟩
    simp[w5,z0,p5.2]
    subst hy
    refine aQ U2 ?_
    refine aa λy hy=>?_
    simp
    subst hy
    refine aa λy hy=>?_
    refine aG (vw h4) UE ?_
    obtain⟨us,hus,rus⟩:=at1.ldN rfl (N:=13) rfl
    have hus:=hus _ (UF hW3 (UF hW4 c4.wle))
    have rus:=rus.mono (UF hW3 hW4)
    have d0:=hva4.int c4.wle (i:=0) al
    have ek:(11:Int)+(pat-34)=pat-23:=by omega
    have ew0:IntKind.i64.wrap (pat-34)=pat-34:=aS U1 U1
    have ew:IntKind.i64.wrap (11+(pat-34))=pat-23:=by rw[aS U1 U1];omega
    have ew2:IntKind.i64.wrap (3+(pat-34))=pat-31:=by rw[aS U1 U1];omega
    have hE:gZ s.f s.t pat=if(aK s.f (nth s.t.args 0) (pat-23)).2 then UK ⟨(aK s.f (nth s.t.args 0) (pat-23)).1.args,s.t.args,[],⟨pat-31,nth (aK s.f (nth s.t.args 0) (pat-23)).1.args 0,nth (aK s.f (nth s.t.args 0) (pat-23)).1.args 1,s.t.to,⟨0⟩⟩⟩ else none:=by
      unfold gZ;rw[if_neg p1,if_neg p2,if_neg p3,if_neg p4,if_pos p5]
    have hfm:=ff (f:=s.f) (v:=nth s.t.args 0) (op:=pat-23)
    have hfo:=oU (s:=s) (v:=us) (x:=nth s.t.args 0) (op:=pat-23) (W:=W4) (h:=h4)
    have rng : ∀{hx:Heap} {Wx:View},Cx W h Wx hx (Own.upd (λ_=>UL) (0,0) (bx T.bf R (RawN.mk (n:=7) fitZ)))->True:=λ_=>trivial
    generalize hm:(aK s.f (nth s.t.args 0) (pat-23)).1=m at *
    generalize hbb:(aK s.f (nth s.t.args 0) (pat-23)).2=b at *
    have c:=c4
    have hrefl:(vw h4).le (vw h4):=View.le_refl _
    repeat' (first
      | refine iX ?_ ?_
      | (refine dc λx hx=>?_
         simp[s1,z1,x0,d0,hus,ew0,ew]
         first
         | refine c.db (k:=(0,2)) (n:=4) (z:=.agg #[UH UI 0,UH UI 0,UH UI 0,UM UL 0 0,UH UJ 0]) U4 U0 rfl U3 U8 λBi h hle c=>?_
         | (refine ah U0 (oU c.wle rus hok.sm a0) ?_
            rw[hm,hbb]
            rintro _ h ⟨hle,vm,rfl,hvm⟩
            have hW:=c.up (h':=h)
            have c:=c.ext hle)
         | refine c.bG (k:=(0,2)) (n:=4) (l:=[UH UI 0,UH UI 0,UH UI 0,UM UL 0 0,UH UJ 0]) U4 (hvm.mono UD) rfl rfl U0 rfl rfl λh l10 hl10 c=>?_
         try refine⟨UD,?_⟩
         subst hx))
    all_goals
      simp
      subst hy
      have hvm0:=hvm
      obtain⟨a3,m3,k3,rfl⟩:=yJ hvm0
      have hl10:=hl10
      have e10:l10=[UH UI m.op,UH UI m.dst,UH UI m.two,.slice a3 m3 k3,UH UJ m.imm.v]:=by
        simp only[Value.agg.injEq]at hl10
        have:=congrArg Array.toList hl10
        simpa using this.symm
      subst e10
      have y10:=c.own.raw (k:=(0,2)) (n:=4) (l:=[UH UI m.op,UH UI m.dst,UH UI m.two,.slice a3 m3 k3,UH UJ m.imm.v]) (B:=Bi) (e:=T.e9) U4 (i:=3) U3
      simp at y10
      have hma:=CT hvm
      cases b with
      | false=>
        have he:gZ s.f s.t pat=none:=by rw[hE];rfl
        refine aa λy hy=>?_
        simp
        refine az (z:=.agg fitZ.toArray) (places:=[(0,1),(1,1),(2,1),(3,5)]) (vs:=[]) (cs:=fitZ.toArray) U0 U0 U2 U0 ?_
        refine c.bG (k:=(0,0)) (n:=7) (l:=fitZ) U4 gh rfl rfl U0 rfl rfl λh9 l9 hl9 c9=>?_
        have hall:=c9.all (k:=(0,0)) (n:=7) (l:=l9) (B:=R) (e:=T.bf) U4
        simp at hall
        simp[hall]
        exact hK _ _ (bZ.of c9 (hl9▸gh) (by rw[he];rfl) λy e=>by rw[he]at e;cases e)
      | true=>
        have he:gZ s.f s.t pat=UK ⟨m.args,s.t.args,[],⟨pat-31,nth m.args 0,nth m.args 1,s.t.to,⟨0⟩⟩⟩:=by rw[hE];rfl
        obtain⟨mm1,mm2,-⟩:=hfm rfl
        have hal2:=(hok.all _ mm1).two U1
        have hmost:=(hok.all _ mm1).most
        have r0:=hma.rng (i:=0) U1
        have r1:=hma.rng (i:=1) U1
        have x2':=hma.idx1 (k:=.i64) (i:=0) rfl U3 U1
        have x3':=hma.idx1 (k:=.i64) (i:=1) rfl U3 U1
        refine aa λy hy=>?_
        simp
        subst hy
        refine aa λy hy=>?_
        refine aG (vw h) UE ?_
        have d2':=hma.int (UF UD c.wle) (i:=0) U1
        have d3':=hma.int (UF UD c.wle) (i:=1) U1
        have s1h:=ae (UF UD c.wle) s1
        have d0h:=hva4.int (UF UD c.wle) (i:=0) al
        have hva5:=hva4.mono UD
        have hto5:=hto.mono UD
        have hma5:=hma.mono UD
        have hH:(vw h).le (vw h):=View.le_refl _
        have hr : ∀{X:View} {bA bB:Option Addr} {kA kB:Nat},SlRd X (.slice bA m.args.length kA) m.args->SlRd X (.slice bB s.t.args.length kB) s.t.args->SlRd X (.slice b0 s.t.to.length k0) s.t.to->Rd X (.agg #[.slice bA m.args.length kA,.slice bB s.t.args.length kB,UM UL 0 0,UH UI (pat-31),UH UI (nth m.args 0),UH UI (nth m.args 1),.slice b0 s.t.to.length k0,UH UJ 0]) (⟨m.args,s.t.args,[],⟨pat-31,nth m.args 0,nth m.args 1,s.t.to,⟨0⟩⟩⟩:FitD):=λq1 q2 q3=>nB (ce:=[_,_,_,_,_]) q1 q2 aL (lz (imm:=⟨0⟩) U9 U2 q3)
        repeat' (first
          | refine iX ?_ ?_
          | (refine dc λx hx=>?_
             simp[y10,s1h,x2',x3',d2',d3',ew2]
             first
             | refine az (t:=T.eU) (z:=.agg #[UH UI 0,UH UI 0,UH UI 0,UM UL 0 0,UH UJ 0]) (places:=[(0,1),(1,1),(2,1),(3,1),(4,1)]) (vs:=[(0,UH UI (pat-31)),(1,UH UI (nth m.args 0)),(2,UH UI (nth m.args 1)),(3,.slice b0 s.t.to.length k0)]) (cs:=#[UH UI (pat-31),UH UI (nth m.args 0),UH UI (nth m.args 1),.slice b0 s.t.to.length k0,UH UJ 0]) U0 U0 U2 (by simp[Instr.fill,Value.cells]) ?_
             | (refine ah U0 (eM c.wle (hma5.mono UD) U1) ?_
                rintro uA h ⟨hle,hcA⟩
                have hW:=c.up (h':=h)
                have c:=c.ext hle
                have hcA0:=hcA
                obtain⟨bA,kA,rfl,-⟩:=hcA0)
             | (refine ah U0 (eM c.wle (hva5.mono UD) U1) ?_
                rintro uB h ⟨hle,hcB⟩
                have hW:=c.up (h':=h)
                have c:=c.ext hle
                have hcB0:=hcB
                obtain⟨bB,kB,rfl,-⟩:=hcB0)
             | refine az (t:=T.bf) (z:=.agg fitZ.toArray) (places:=[(0,1),(1,1),(2,1),(3,5)]) (vs:=[(0,.slice bA m.args.length kA),(1,.slice bB s.t.args.length kB),(3,.agg #[UH UI (pat-31),UH UI (nth m.args 0),UH UI (nth m.args 1),.slice b0 s.t.to.length k0,UH UJ 0])]) (cs:=#[.slice bA m.args.length kA,.slice bB s.t.args.length kB,UM UL 0 0,UH UI (pat-31),UH UI (nth m.args 0),UH UI (nth m.args 1),.slice b0 s.t.to.length k0,UH UJ 0]) U0 U0 U2 (by simp[Instr.fill,Value.cells]) ?_
             | refine c.bG (k:=(0,0)) (n:=7) (l:=fitZ) U4 (hr (hcA.mono UD) (hcB.mono UD) (hto5.mono UD)) rfl rfl U0 rfl rfl λh l9 hl9 c=>?_
             try refine⟨UD,?_⟩
             subst hx))
        all_goals
          simp
          rw[hy]
          have hall:=c.all (k:=(0,0)) (n:=7) (l:=l9) (B:=R) (e:=T.bf) U4
          simp at hall
          simp[hall]
          exact hK _ _ (bZ.of c (hl9▸hr (hcA.mono UD) (hcB.mono UD) (hto5.mono UD)) (by rw[he];rfl) λy e=>by rw[he]at e;cases e;rfl)
  refine gD (λρ h5=>h5=h4/\ρ=[(0,v),(1,UH UI pat),(2,ptr S),(4,ptr R),(5,.bool UP),(6,ptr Tb),(7,.slice b0 s.t.to.length k0),(13,ut),(16,.slice b0 s.t.to.length k0),(81,.bool UP),(83,.bool (inR pat 34 36))]) ?_ ?_
  · intro K2 hK2
    simp
    refine ah U0 jY ?_
    rintro _ h4 ⟨rfl,rfl⟩
    by_cases e0:inR pat 34 36=UO
    · have e2:¬s.t.kind=2:=λe=>p5 ⟨by simpa[inR]using e0,e⟩
      simp[e0,z0,e2]
      exact hK2 _ _ ⟨rfl,by rw[e0]⟩
    · have e0:inR pat 34 36=false:=by simpa using e0
      simp[e0]
      exact hK2 _ _ ⟨rfl,by rw[e0]⟩
  rintro _ h4 ⟨rfl,rfl⟩
  subst hy
  refine bg U2 ?_
  refine aa λy hy=>?_
  by_cases p6:pat=37/\s.t.kind=3
  · have he:gZ s.f s.t pat=UK ⟨s.t.args,[],[],⟨6,nth s.t.args 0,0,s.t.to,⟨0⟩⟩⟩:=by unfold gZ;rw[if_neg p1,if_neg p2,if_neg p3,if_neg p4,if_neg p5,if_pos p6]
    have al:=htk.one U1
    have a0:=hva4.rng (i:=0) al
    have x0:=hva4.idx1 (k:=.i64) (i:=0) rfl U3 U1
    have d0:=hva4.int (View.le_refl W4) (i:=0) al
    simp[p6.1,z0,p6.2]
    subst hy
    refine aQ U2 ?_
    refine aa λy hy=>?_
    refine aG W4 c4.wle ?_
    simp[s1,x0,d0]
    refine⟨?_,?_⟩
    · refine ah U0 (eM c4.wle hva4 U1) ?_
      rintro ucl h5 ⟨hle5,hcl⟩
      have c5:=c4.ext hle5
      have hW5:=c4.up (h':=h5)
      refine⟨UF hW5 c5.wle,?_⟩
      have hcl0:=hcl
      obtain⟨b1,k1,rfl,-⟩:=hcl0
      generalize grow W4 h4 h5=W5 at *
      refine az (t:=T.eU) (z:=.agg #[UH UI 0,UH UI 0,UH UI 0,UM UL 0 0,UH UJ 0]) (places:=[(0,1),(1,1),(2,1),(3,1),(4,1)]) (vs:=[(0,UH UI 6),(1,UH UI (nth s.t.args 0)),(3,.slice b0 s.t.to.length k0)]) (cs:=#[UH UI 6,UH UI (nth s.t.args 0),UH UI 0,.slice b0 s.t.to.length k0,UH UJ 0]) U0 U0 U2 (by simp[Instr.fill,Value.cells]) ?_
      refine⟨UF hW5 c5.wle,?_⟩
      refine az (t:=T.bf) (z:=.agg fitZ.toArray) (places:=[(0,1),(1,1),(2,1),(3,5)]) (vs:=[(0,.slice b1 s.t.args.length k1),(3,.agg #[UH UI 6,UH UI (nth s.t.args 0),UH UI 0,.slice b0 s.t.to.length k0,UH UJ 0])]) (cs:=#[.slice b1 s.t.args.length k1,UM UL 0 0,UM UL 0 0,UH UI 6,UH UI (nth s.t.args 0),UH UI 0,.slice b0 s.t.to.length k0,UH UJ 0]) U0 U0 U2 (by simp[Instr.fill,Value.cells]) ?_
      have hr:Rd W5 (.agg #[.slice b1 s.t.args.length k1,UM UL 0 0,UM UL 0 0,UH UI 6,UH UI (nth s.t.args 0),UH UI 0,.slice b0 s.t.to.length k0,UH UJ 0]) (⟨s.t.args,[],[],⟨6,nth s.t.args 0,0,s.t.to,⟨0⟩⟩⟩:FitD):=nB (ce:=[_,_,_,_,_]) hcl aL aL (lz (imm:=⟨0⟩) U9 U2 (hto.mono hW5))
      refine c5.bG (k:=(0,0)) (n:=7) (l:=fitZ) U4 hr rfl rfl U0 rfl rfl λh9 l9 hl9 c9=>?_
      subst hy
      have hall:=c9.all (k:=(0,0)) (n:=7) (l:=l9) (B:=R) (e:=T.bf) U4
      simp at hall
      simp[hall]
      exact hK _ _ (bZ.of c9 (hl9▸hr) (by rw[he];rfl) λy e=>by rw[he]at e;cases e;rfl)
    · refine az (t:=T.eU) (z:=.agg #[UH UI 0,UH UI 0,UH UI 0,UM UL 0 0,UH UJ 0]) (places:=[(0,1),(1,1),(2,1),(3,1),(4,1)]) (vs:=[(0,UH UI 6),(1,UH UI (nth s.t.args 0)),(3,.slice b0 s.t.to.length k0)]) (cs:=#[UH UI 6,UH UI (nth s.t.args 0),UH UI 0,.slice b0 s.t.to.length k0,UH UJ 0]) U0 U0 U2 (by simp[Instr.fill,Value.cells]) ?_
      refine⟨c4.wle,?_⟩
      refine ah U0 (eM c4.wle hva4 U1) ?_
      rintro ucl h5 ⟨hle5,hcl⟩
      have c5:=c4.ext hle5
      have hW5:=c4.up (h':=h5)
      refine⟨UF hW5 c5.wle,?_⟩
      have hcl0:=hcl
      obtain⟨b1,k1,rfl,-⟩:=hcl0
      generalize grow W4 h4 h5=W5 at *
      refine az (t:=T.bf) (z:=.agg fitZ.toArray) (places:=[(0,1),(1,1),(2,1),(3,5)]) (vs:=[(0,.slice b1 s.t.args.length k1),(3,.agg #[UH UI 6,UH UI (nth s.t.args 0),UH UI 0,.slice b0 s.t.to.length k0,UH UJ 0])]) (cs:=#[.slice b1 s.t.args.length k1,UM UL 0 0,UM UL 0 0,UH UI 6,UH UI (nth s.t.args 0),UH UI 0,.slice b0 s.t.to.length k0,UH UJ 0]) U0 U0 U2 (by simp[Instr.fill,Value.cells]) ?_
      have hr:Rd W5 (.agg #[.slice b1 s.t.args.length k1,UM UL 0 0,UM UL 0 0,UH UI 6,UH UI (nth s.t.args 0),UH UI 0,.slice b0 s.t.to.length k0,UH UJ 0]) (⟨s.t.args,[],[],⟨6,nth s.t.args 0,0,s.t.to,⟨0⟩⟩⟩:FitD):=nB (ce:=[_,_,_,_,_]) hcl aL aL (lz (imm:=⟨0⟩) U9 U2 (hto.mono hW5))
      refine c5.bG (k:=(0,0)) (n:=7) (l:=fitZ) U4 hr rfl rfl U0 rfl rfl λh9 l9 hl9 c9=>?_
      subst hy
      have hall:=c9.all (k:=(0,0)) (n:=7) (l:=l9) (B:=R) (e:=T.bf) U4
      simp at hall
      simp[hall]
      exact hK _ _ (bZ.of c9 (hl9▸hr) (by rw[he];rfl) λy e=>by rw[he]at e;cases e;rfl)
  refine gD (λρ h5=>h5=h4/\ρ=[(0,v),(1,UH UI pat),(2,ptr S),(4,ptr R),(5,.bool UP),(6,ptr Tb),(7,.slice b0 s.t.to.length k0),(13,ut),(16,.slice b0 s.t.to.length k0),(83,.bool (inR pat 34 36)),(124,.bool UP)]) ?_ ?_
  · intro K2 hK2
    by_cases e0:pat=37
    · have e2:¬s.t.kind=3:=λe=>p6 ⟨e0,e⟩
      simp[e0,z0,e2]
      exact hK2 _ _ ⟨rfl,by rw[e0]⟩
    · simp[e0,z0]
      exact hK2 _ _ ⟨rfl,rfl⟩
  rintro _ h4 ⟨rfl,rfl⟩
  subst hy
  refine bg U2 ?_
  have he:gZ s.f s.t pat=none:=by unfold gZ;rw[if_neg p1,if_neg p2,if_neg p3,if_neg p4,if_neg p5,if_neg p6]
  simp
  subst hz
  refine aa λz hz=>?_
  simp
  refine az (z:=.agg fitZ.toArray) (places:=[(0,1),(1,1),(2,1),(3,5)]) (vs:=[]) (cs:=fitZ.toArray) U0 U0 U2 U0 ?_
  refine c4.bG (k:=(0,0)) (n:=7) (l:=fitZ) U4 gh rfl rfl U0 rfl rfl λh9 l9 hl9 c9=>?_
  subst hz
  have hall:=c9.all (k:=(0,0)) (n:=7) (l:=l9) (B:=R) (e:=T.bf) U4
  simp at hall
  simp[hall]
  exact hK _ _ (bZ.of c9 (hl9▸gh) (by rw[he];rfl) λy e=>by rw[he]at e;cases e)
end Go.Proofs.YtmhnaeecolpfkaaGreatDoor
namespace Go.Proofs.YtmhnaeecolpfkaaGreatDoor
open Go Go.Lft
theorem Cx.upW{V W W':View}{h0 h h':Heap}{o:Own}(c:Cx V h0 W h o)(hle:(vw h).le (vw h'))(u:Up W h W')(hW:W'.le (vw h')):Cx V h0 W' h' o:=by
 have A : ∀k i b,o k=UK i->i.v.ownBlock=UK b->W' b=none:=λk i b hk hb=>by
  have hlt:=c.own.lt hk hb;have hav:=c.own.av k i hk b hb;cases hx:W' b with
  | none=>rfl
  | some x=>rw[u.old b x hlt hx]at hav;cases hav
 exact⟨(c.own.ext' hle).NQ u.le hW A,λb x hb hx=>c.old b x hb (u.old b x (RX hb (bL c.le0)) hx),UF c.le0 hle,c.new⟩
theorem Ox{s:cC}{v:Value}{pat:Int}{h:Heap}{W:View}(hW:W.le (vw h))(hv:Rd W v s)(hok:s.term=UP->mB s)(htk:s.term=UO->mB s/\zC s.t)(hM:s.i.op=15\/s.i.op=16->iB)(hp:I64 pat):
  ay UQ 93 #[v,UH UI pat] h (λu h'=>bZ W h h' u (tryS s pat)):=by
 refine ao (args:=[v,UH UI pat]) follows Tryz.func93 E.lG UC λK hK=>?_;dsimp only[L.lG,lkF,lkG];have c0:=Cx.start hW;refine aa λz hz=>?_;simp;refine c0.eo rfl hv λS h1 W1 hW1 c1 at1 hle1=>?_;refine c1.db (k:=(0,0)) (n:=7) (z:=.agg fitZ.toArray) rfl U0 rfl U3 U8 λR h2 hle2 c2=>?_;subst hz;have tm:=(at1.part cC.mj).bool;have tm:an W1 ⟨S,11,UL⟩=UK (.bool s.term):=by simpa using tm
 have tm:=ae c2.wle tm;obtain⟨us,hus,rus⟩:=at1.ldN rfl (N:=13) rfl;have hus:=hus _ c2.wle;refine aa λz hz=>?_;cases ht:s.term with
 | true=>
  rw[ht]at tm;obtain⟨hk1,hk2⟩:=htk ht;have e:tryS s pat=gZ s.f s.t pat:=by unfold tryS;rw[if_pos ht]
  rw[e]at hK;simp[tm,hus];refine ah U0 (Of c2.wle rus hk1 hk2 hp) ?_;rintro _ h3 ⟨hle3,vf,x,rfl,hvf,hx⟩;have c3:=c2.ext hle3;simp;refine c3.bG (k:=(0,0)) (n:=7) (l:=fitZ) U4 hvf rfl rfl U0 rfl rfl λh9 l9 hl9 c9=>?_;have hall:=c9.all (k:=(0,0)) (n:=7) (l:=l9) (B:=R) (e:=T.bf) U4;simp at hall;simp[hall];exact hK _ _ (bZ.of c9 (hl9▸hvf) rfl hx)
 | false=>
  rw[ht]at tm;have e:tryS s pat=patS s.f s.i s.temp pat:=by unfold tryS;rw[ht];rfl
  rw[e]at hK;simp[tm];subst hz;refine aa λz hz=>?_;simp[hus];refine ah U0 (DB c2.wle rus (hok ht) ht hM) ?_;rintro _ h3 ⟨r,W3,rfl,u3,p3,hle3⟩;have c3:=Cx.upW c2 hle3 u3 p3.wle;obtain⟨g,g1,g2,g3⟩:=p3.ex;refine og (f:=mapE id g) (z:=.nilFunc) (k:=T.int) (e:=T.gH) (d:=.int .i64) (r:=r) (u:=UH UI pat) U.cT U.int U0 rfl rfl cQ g1 ?_;simp;subst hz;refine aa λz hz=>?_;have g2p:=g2 pat;have g3p:=g3 pat;cases hg:g pat with
  | none=>
   rw[hg]at g2p;have e0:patS s.f s.i s.temp pat=none:=by unfold patS;rw[if_neg];rintro⟨a1,a2,-⟩;simp[nTo]at g2p;omega
   rw[e0]at hK;simp;refine az (t:=T.bf) (z:=.agg fitZ.toArray) (places:=[(0,1),(1,1),(2,1),(3,5)]) (vs:=[]) (cs:=fitZ.toArray) U0 U0 U2 U0 ?_;refine c3.bG (k:=(0,0)) (n:=7) (l:=fitZ) U4 gh rfl rfl U0 rfl rfl λh9 l9 hl9 c9=>?_;have hall:=c9.all (k:=(0,0)) (n:=7) (l:=l9) (B:=R) (e:=T.bf) U4;simp at hall;simp[hall];exact hK _ _ (bZ.of c9 (hl9▸gh) rfl λy e=>by cases e)
  | some fv=>obtain⟨fn,caps,rfl,hfn,hcall⟩:=(g3p fv hg).ex;simp;subst hz;refine aa λz hz=>?_;simp;refine bX (ops:=[]) rfl hfn (by simpa using hcall h3 W3 UE p3.wle) ?_;rintro _ h4 ⟨hle4,vf,x,rfl,hvf,hx⟩;have c4:=c3.ext hle4;simp;refine c4.bG (k:=(0,0)) (n:=7) (l:=fitZ) U4 hvf rfl rfl U0 rfl rfl λh9 l9 hl9 c9=>?_;subst hz;have hall:=c9.all (k:=(0,0)) (n:=7) (l:=l9) (B:=R) (e:=T.bf) U4;simp at hall;simp[hall];exact hK _ _ (bZ.of c9 (hl9▸hvf) rfl hx)
abbrev RSt:=List Bool × List Int
def kK (wo:Int) (to:List Int) (k:Nat) (s:RSt):RSt:=
 if(0<=nth to k/\nth to k<s.1.length)/\nth s.1 (nth to k).toNat=UP/\nth to k≠wo then(s.1.set (nth to k).toNat UO,s.2++[nth to k]) else s
def yu (f:ak) (wo:Int) (i:Nat) (s:RSt):RSt:=up (kK wo (nth f.blocks (nth s.2 i).toNat).term.to) (nth f.blocks (nth s.2 i).toNat).term.to.length s
def rchS (f:ak) (wo:Int):Nat->Nat->RSt->RSt
 | 0,_,s=>s
 | n+1,i,s=>if i<s.2.length then rchS f wo n (i+1) (yu f wo i s) else s
def rch0 (f:ak) (wo:Int):RSt:=if wo≠0/\0<f.blocks.length then((List.replicate f.blocks.length UP).set 0 UO,[0]) else(List.replicate f.blocks.length UP,[])
def eW (f:ak) (wo:Int):List Bool:=(rchS f wo (f.blocks.length+1) 0 (rch0 f wo)).1
structure ROk (n:Nat) (s:RSt):Prop where
 len:s.1.length=n
 cnt:s.2.length+dI s.1<=n
 rng : ∀x∈s.2,0<=x/\x<n
variable{wo:Int}
theorem Dk{n:Nat}{to:List Int}{k:Nat}{s:RSt}(h:ROk n s):ROk n (kK wo to k s):=by
 unfold kK;split
 ·rename_i hc;have hf:=jT (t:=s.1) (i:=(nth to k).toNat) U1 hc.2.1;refine⟨by simpa using h.len,?_,λx hx=>?_⟩
  ·have:=h.cnt;simp only[Q7,Rz];omega
  rcases Q6.1 hx with hx | hx
  ·exact h.rng x hx
  rw[Q2.1 hx,<-h.len];exact hc.1
 exact h
theorem yT{n:Nat}{to:List Int}{s:RSt}(h:ROk n s)(m:Nat):ROk n (up (kK wo to) m s):=wm (ROk n) (λk x hx=>Dk hx) m s h
theorem BV{f:ak}:ROk f.blocks.length (rch0 f wo):=by
 unfold rch0;have hfa:dI (List.replicate f.blocks.length UP)=f.blocks.length:=by simp[dI]
 split
 ·rename_i hc;have hf:=jT (t:=List.replicate f.blocks.length UP) (i:=0) (by simpa using hc.2) (by rw[aA (by simpa using hc.2)];simp);exact⟨by simp,by simp only[Rz];omega,λx hx=>by rw[Q2.1 hx];omega⟩
 exact⟨by simp,by simp only[TC];omega,λx hx=>by cases hx⟩
theorem Ha {f:ak} {wo:Int} : ∀{m i:Nat} {s:RSt},ROk f.blocks.length s->ROk f.blocks.length (rchS f wo m i s)
 | 0,_,_,h=>h
 | m+1,i,s,h=>by
  rw[rchS];split
  ·exact Ha (yT h _)
  exact h
theorem uL{f:ak}:(eW f wo).length=f.blocks.length:=(Ha BV).len
def tE (vo vq:Value) (s:RSt):Own:=λk=>if k=(0,0) then it T.bool vo s.1 else if k=(0,1) then it T.int vq s.2 else UL
theorem yI{f:ak}{v:Value}{h:Heap}(hv:Rd (vw h) v f)(hn:f.blocks.length<=1000000):
  ay UQ 38 #[v,UH UI wo] h (λu h'=>(vw h).le (vw h')/\SlRd (fresh h h') u (eW f wo)):=by
 refine ao (args:=[v,UH UI wo]) follows Tryz.func38 E.cI UC λK hK=>?_;dsimp only[L.cI,lkF,lkG];refine aa λz hz=>?_;simp;refine gu rfl hv λh1 _ hle1 hsz1 hat=>?_;obtain⟨_,vb,cb⟩:=fq hat;generalize h.size=B at cb;subst hz;refine aa λz hz=>?_;simp[cb.1,cb.2.len];refine nZ (α:=Bool) (W:=vw h1) (k:=.i64) (n:=f.blocks.length) (d:=false) El.qj U2 U2 rfl U1 U1 λvo h2 o2 m2 hle2 hb2=>?_;have w2:=(Owns.start (h:=h1) (View.le_refl (vw h1))).add (k:=(0,0)) rfl o2 hle2 (λb hb=>by rw[hb2]at hb;cases hb;exact QY _);subst hz;refine aa λz hz=>?_;simp;refine qg (α:=Int) El.aY λh3 hle3 hsz3 own3=>?_;have w3:=w2.add (k:=(0,1)) rfl (own3 _) hle3 (λb hb=>by simp only[Value.ownBlock,QX]at hb;omega);have w3:Owns (vw h1) h3 (tE vo (UM (UK ⟨h2.size,0,UL⟩) 0 0) (List.replicate f.blocks.length UP,[])):=w3.congr λq=>by
  unfold tE Own.upd;repeat' split
  all_goals first | rfl | simp_all
 generalize UM (UK ⟨h2.size,0,UL⟩) 0 0=vq at w3;subst hz;refine aa λz hz=>?_;have cc3:=ae w3.wle cb.1;have cb3:=cb.2.mono w3.wle;have fin : ∀(h4:Heap) (vq:Value) (tl:Env),Owns (vw h1) h4 (tE vo vq (rch0 f wo))->@LC.wp noPP UQ z (@dU [.tmp 4] K) ([(0,v),(1,UH UI wo),(2,UN (UK ⟨B,0,UL⟩)),(4,UM UL 0 0),(5,vo),(6,vq)]++tl) h4:=by
  intro h4 vq tl w4;subst hz;refine aa λz hz=>?_;simp;refine ic [1,2,5,6,7] (λm ρ h5=>∃(i:Nat) (s:RSt) (vq:Value),i<=f.blocks.length/\m=f.blocks.length+1-i/\ρ=[(1,UH UI wo),(2,UN (UK ⟨B,0,UL⟩)),(5,vo),(6,vq),(7,UH UI i)]/\Owns (vw h1) h5 (tE vo vq s)/\ROk f.blocks.length s/\
   (rchS f wo m i s).1=eW f wo) (f.blocks.length+1) ⟨0,_,vq,by omega,rfl,by simp[aX,af],w4,BV,rfl⟩ ?_;rintro m ρ h5 ⟨i,s,vq5,hi,rfl,rfl,w5,hok,hfin⟩ K2 hK2;have no:=w5.now (k:=(0,0)) (v:=vo) (l:=s.1) rfl;have nq:=w5.now (k:=(0,1)) (v:=vq5) (l:=s.2) rfl;have hcnt:=hok.cnt;by_cases hlt:i<s.2.length
  ·have hm:f.blocks.length+1-i=(f.blocks.length-i)+1:=by omega
   rw[hm,rchS,if_pos hlt]at hfin;obtain⟨r0,r1⟩:=hok.rng _ (bo hlt);have cb5:=cb.2.mono w5.wle;obtain⟨w,hw⟩:=Bu cb5 (i:=(nth s.2 i).toNat) U1;obtain⟨w',hw'⟩:=Bu cb.2 (i:=(nth s.2 i).toNat) U1;have eww:w'=w:=Option.some.inj ((ae w5.wle hw'.1).symm.trans hw.1);rw[eww]at hw';have hwb:=hw.2.bound;have hrow:yu f wo i s=up (kK wo (nth f.blocks (nth s.2 i).toNat).term.to) (nth f.blocks (nth s.2 i).toNat).term.to.length s:=rfl;rw[hrow]at hfin;generalize hto:(nth f.blocks (nth s.2 i).toNat).term.to=to at hw hw' hwb hfin;refine aa λy hy=>?_;simp(disch:=omega)[nq.len,hlt];subst hy;refine aa λy hy=>?_;refine aa λx hx=>?_;simp(disch:=omega)[ae w5.wle cb.1,cb5.idxn (N:=6) rfl,nq.idx1 rfl,nq.int UE,hw.1];subst hx;simp;refine dq [1,2,5,6,7,8,9] (fun(q:Value) j=>[UH UI wo,UN (UK ⟨B,0,UL⟩),vo,q,UH UI i,w,UH UI j]) (λq j h6=>Owns (vw h1) h6 (tE vo q (up (kK wo to) j s))) to.length vq5
    rfl U1 rfl w5 (λ_ _=>rfl) (λv j h4 hk m=>by simp[hw.2.len]) ?_ ?_
   ·rintro q j h6 hltj w6 K3 hK3;have hst:up (kK wo to) (j+1) s=kK wo to j (up (kK wo to) j s):=rfl;have hok6:=yT (wo:=wo) (to:=to) hok j;generalize up (kK wo to) j s=s6 at w6 hst hok6;have no6:=w6.now (k:=(0,0)) (v:=vo) (l:=s6.1) rfl;have nq6:=w6.now (k:=(0,1)) (v:=q) (l:=s6.2) rfl;have hcnt6:=hok6.cnt;have hlen6:=hok6.len;have hr6:=hw'.2.mono w6.wle;have hrng:=hw'.2.range hltj;rw[kK]at hst;by_cases c1:0<=nth to j/\nth to j<s6.1.length
    ·have c1a:=c1.1;have c1b:=c1.2;cases c2:nth s6.1 (nth to j).toNat with
     | true=>rw[if_neg (by rw[c2];simp)]at hst;simp(disch:=omega)[hr6.idx1 rfl,hr6.int UE,no6.len,no6.idx1 rfl,no6.bool UE,c1a,c1b,c2];exact hK3 q _ _ rfl rfl (by rw[hst];exact w6)
     | false=>
      by_cases c3:nth to j=wo
      ·rw[if_neg (by simp[c3])]at hst;rw[c3]at c1a c1b c2;simp(disch:=omega)[hr6.idx1 rfl,hr6.int UE,no6.len,no6.idx1 rfl,no6.bool UE,c1a,c1b,c2,c3];exact hK3 q _ _ rfl rfl (by rw[hst];exact w6)
      rw[if_pos ⟨c1,c2,c3⟩]at hst;refine aa λx hx=>?_;simp(disch:=omega)[hr6.idx1 rfl,hr6.int UE,no6.len,no6.idx1 rfl,no6.bool UE,c1a,c1b,c2,c3];subst hx;simp(disch:=omega)[hr6.idx1 rfl,hr6.int UE,no6.idx1 rfl];refine w6.bG (k:=(0,0)) (α:=Bool) (l:=s6.1) (v:=vo) (i:=(nth to j).toNat) (d:=true) rfl U0 (by simp[show Rep.n Bool=1 from rfl]) (by simp<;>rfl) U1 OI λh7 w7 hs7=>?_;have hr7:=hw'.2.mono w7.wle;simp(disch:=omega)[hr7.idx1 rfl,hr7.int UE];refine w7.fM (k:=(0,1)) (α:=Int) (v:=q) (l:=s6.2) (d:=nth to j) rfl El.aY (by simp<;>rfl) (qP hrng.1 hrng.2) U1 U1 U5 U5 λu q8 h8 w8 hs8=>?_;refine hK3 q8 _ _ rfl rfl ?_;rw[hst];refine w8.congr λq=>?_;unfold tE Own.upd;repeat' split
      all_goals first | rfl | simp_all
    rw[if_neg (λe=>c1 e.1)]at hst;by_cases c1a:0<=nth to j
    ·have c1b:¬nth to j<s6.1.length:=λe=>c1 ⟨c1a,e⟩;simp(disch:=omega)[hr6.idx1 rfl,hr6.int UE,no6.len,c1a,c1b];exact hK3 q _ _ rfl rfl (by rw[hst];exact w6)
    simp(disch:=omega)[hr6.idx1 rfl,hr6.int UE,no6.len,c1a];exact hK3 q _ _ rfl rfl (by rw[hst];exact w6)
   rintro q h6 w6;simp;subst hy;simp(disch:=omega);exact hK2 (f.blocks.length+1-(i+1)) _ _ U1 ⟨i+1,_,q,by omega,rfl,by simp[aX],w6,yT hok _,by rw[show f.blocks.length+1-(i+1)=f.blocks.length-i by omega];exact hfin⟩
  have hlt':¬(i:Int)<s.2.length:=by omega
  simp(disch:=omega)[L.cI.l1,nq.len,hlt];subst hz;simp;have hs1:s.1=eW f wo:=by
   rw[<-hfin];cases f.blocks.length+1-i with
   | zero=>rfl
   | succ m=>rw[rchS,if_neg hlt]
  have ow:=w5.get (k:=(0,0)) (v:=vo) (l:=s.1) rfl;refine hK _ _ ⟨UF hle1 w5.wle,?_⟩;rw[<-hs1];have ow':OwnT nothing h5 T.bool vo s.1:=ow;refine ow'.fresh (λ_ _ h=>by cases h) λb hb=>?_;rw[hb2]at hb;cases hb;exact View.cf UE U1
 by_cases c1:wo=0
 ·have hr0:rch0 f wo=(List.replicate f.blocks.length UP,[]):=by rw[rch0,if_neg (λe=>e.1 c1)]
  rw[hr0]at fin;simp[cc3,cb3.len,c1];rw[c1]at fin;exact fin _ _ _ w3
 by_cases c2:0<f.blocks.length
 ·have hr0:rch0 f wo=((List.replicate f.blocks.length UP).set 0 UO,[0]):=by rw[rch0,if_pos ⟨c1,c2⟩]
  rw[hr0]at fin;have no:=w3.now (k:=(0,0)) (v:=vo) (l:=List.replicate f.blocks.length UP) rfl;refine aa λy hy=>?_;simp(disch:=omega)[cc3,cb3.len,c1,c2];subst hy;have i0:Bn.ev (.idx 1) vo (UH UI 0)=UK (UN (UK ((slA vo).add 0))):=no.idx1 rfl U1 (by simpa using c2);simp(disch:=omega)[i0];refine w3.bG (k:=(0,0)) (α:=Bool) (l:=List.replicate f.blocks.length UP) (v:=vo) (i:=0) (d:=true) rfl U0 (by simp[show Rep.n Bool=1 from rfl]) (by simp<;>rfl) (by simpa using c2) OI λh4 w4 hs4=>?_;refine w4.fM (k:=(0,1)) (α:=Int) (v:=vq) (l:=[]) (d:=0) rfl El.aY (by simp<;>rfl) (qP U1 U1) U2 U2 U5 U5 λu q5 h5 w5 hs5=>?_;refine fin _ _ _ (w5.congr λq=>?_);unfold tE Own.upd;repeat' split
  all_goals first | rfl | simp_all
 have hr0:rch0 f wo=(List.replicate f.blocks.length UP,[]):=by rw[rch0,if_neg (λe=>c2 e.2)]
 rw[hr0]at fin;simp[cc3,cb3.len,c1,c2];exact fin _ _ _ w3
theorem pS{l:List BlkD}:(ofG l).length=l.length:=by simp[ofG]
theorem uO{l:List BlkD}{a b:Int}:oP (ofG l) a b=UO↔(0<=a/\a<l.length/\0<=b/\b<l.length)/\b∈(nth l a.toNat).term.to:=by
 rw[jw,pS];constructor
 ·rintro⟨h,hm⟩;rw[ofG,gE U1,wO]at hm;exact⟨h,hm.1⟩
 rintro⟨h,hm⟩;refine⟨h,?_⟩;rw[ofG,gE U1,wO];exact⟨hm,h.2.2.1,h.2.2.2⟩
structure Rb (f:ak) (wo:Int) (s:RSt):Prop where
 ok:ROk f.blocks.length s
 seen : ∀b:Nat,b<f.blocks.length->(nth s.1 b=UO↔(b:Int)∈s.2)
 sound : ∀x∈s.2,Re (ofG f.blocks) wo x.toNat
theorem P9{f:ak}{a:Int}{k:Nat}{s:RSt}(h:Rb f wo s)(h0:0<=a)(h1:a<f.blocks.length)(ha:Re (ofG f.blocks) wo a.toNat)(hk:k<(nth f.blocks a.toNat).term.to.length):
  Rb f wo (kK wo (nth f.blocks a.toNat).term.to k s)/\s.2 <+: (kK wo (nth f.blocks a.toNat).term.to k s).2/\
   (0<=nth (nth f.blocks a.toNat).term.to k->nth (nth f.blocks a.toNat).term.to k<f.blocks.length->nth (nth f.blocks a.toNat).term.to k≠wo->nth (nth f.blocks a.toNat).term.to k∈(kK wo (nth f.blocks a.toNat).term.to k s).2):=by
 have hok:=Dk (wo:=wo) (to:=(nth f.blocks a.toNat).term.to) (k:=k) h.ok;have hm:=bo hk;unfold kK at hok ⊢;generalize hto:(nth f.blocks a.toNat).term.to=to at hm hok ⊢;split
 ·rename_i hc;rw[if_pos hc]at hok;obtain⟨⟨c1,c2⟩,c3,c4⟩:=hc;rw[h.ok.len]at c2;have hb:((nth to k).toNat:Int)=nth to k:=Rt c1;refine⟨⟨hok,λb hb=>?_,λx hx=>?_⟩,List.prefix_append _ _,λ_ _ _=>Si _ (Q2.2 rfl)⟩
  ·rw[Q6,Q2];by_cases he:b=(nth to k).toNat
   ·subst he;rw[bS (by rw[h.ok.len];omega),if_pos rfl];exact⟨λ_=>.inr (Rt c1),λ_=>rfl⟩
   rw[bS (by rw[h.ok.len];exact hb),if_neg (λe=>he e.symm),h.seen b hb];exact⟨.inl,λe=>e.resolve_right U1⟩
  rcases Q6.1 hx with hx | hx
  ·exact h.sound x hx
  rw[Q2.1 hx];refine .step ha ?_ (by rw[hb];exact c4);rw[uO,hb];exact⟨⟨by omega,by omega,c1,c2⟩,by rw[Ru,hto];exact hm⟩
 rename_i hc;rw[if_neg hc]at hok;refine⟨h,S3 _,λc1 c2 c4=>?_⟩;have hb:((nth to k).toNat:Int)=nth to k:=Rt c1;rw[<-hb,<-h.seen _ U1];cases e:nth s.1 (nth to k).toNat with
 | true=>rfl
 | false=>exact absurd ⟨⟨c1,by rw[h.ok.len];exact c2⟩,e,c4⟩ hc
theorem KB {f:ak} {wo a:Int} {s:RSt} (h:Rb f wo s) (h0:0<=a) (h1:a<f.blocks.length) (ha:Re (ofG f.blocks) wo a.toNat) : ∀m,m<=(nth f.blocks a.toNat).term.to.length->
  Rb f wo (up (kK wo (nth f.blocks a.toNat).term.to) m s)/\s.2 <+: (up (kK wo (nth f.blocks a.toNat).term.to) m s).2/\
   ∀k,k<m->0<=nth (nth f.blocks a.toNat).term.to k->nth (nth f.blocks a.toNat).term.to k<f.blocks.length->nth (nth f.blocks a.toNat).term.to k≠wo->nth (nth f.blocks a.toNat).term.to k∈(up (kK wo (nth f.blocks a.toNat).term.to) m s).2
 | 0,_=>⟨h,S3 _,λk hk=>by omega⟩
 | m+1,hm=>by
  obtain⟨i1,i2,i3⟩:=KB h h0 h1 ha m U1;obtain⟨j1,j2,j3⟩:=P9 (k:=m) i1 h0 h1 ha U1;rw[up];refine⟨j1,i2.trans j2,λk hk c1 c2 c3=>?_⟩;rcases Q5 k m with hlt | hge
  ·exact j2.subset (i3 k hlt c1 c2 c3)
  have:k=m:=by omega
  subst this;exact j3 c1 c2 c3
structure Rc (f:ak) (wo:Int) (i:Nat) (s:RSt):Prop where
 b:Rb f wo s
 root:wo≠0->0<f.blocks.length->(0:Int)∈s.2
 done : ∀j,j<i->j<s.2.length->∀b:Nat,oP (ofG f.blocks) (nth s.2 j) b=UO->(b:Int)≠wo->(b:Int)∈s.2
variable{α:Type}
theorem Gl[Inhabited α]{a b:List α}(h:a <+: b){i:Nat}(hi:i<a.length):nth b i=nth a i:=by obtain⟨t,rfl⟩:=h;rw[aA U9,aA hi,TA hi]
theorem L6{f:ak}{i:Nat}{s:RSt}(h:Rc f wo i s)(hi:i<s.2.length):Rc f wo (i+1) (yu f wo i s)/\s.2 <+: (yu f wo i s).2:=by
 have hm:=bo hi;obtain⟨h0,h1⟩:=h.b.ok.rng _ hm;have hre:=h.b.sound _ hm;obtain⟨i1,i2,i3⟩:=KB h.b h0 h1 hre _ (QY _);have he:yu f wo i s=up (kK wo (nth f.blocks (nth s.2 i).toNat).term.to) (nth f.blocks (nth s.2 i).toNat).term.to.length s:=rfl;rw[<-he]at i1 i2 i3;refine⟨⟨i1,λa b=>i2.subset (h.root a b),λj hj hjl b hb hne=>?_⟩,i2⟩;rcases Q5 j i with hlt | hge
 ·rw[Gl i2 U1]at hb;exact i2.subset (h.done j hlt U1 b hb hne)
 have:j=i:=by omega
 subst this;rw[Gl i2 hi,uO]at hb;obtain⟨⟨_,_,q1,q2⟩,hmem⟩:=hb;obtain⟨k,hk,e⟩:=RC hmem;rw[<-aA hk]at e;rw[<-e];exact i3 k hk U1 U1 (by rw[e];exact hne)
theorem IY {f:ak} {wo:Int} : ∀{m i:Nat} {s:RSt},Rc f wo i s->f.blocks.length<i+m->∃k,Rc f wo k (rchS f wo m i s)/\(rchS f wo m i s).2.length<=k
 | 0,i,s,h,hm=>⟨i,h,by have:=h.b.ok.cnt;rw[rchS];omega⟩
 | m+1,i,s,h,hm=>by
  rw[rchS];split
  ·rename_i hi;exact IY (L6 h hi).1 U1
  rename_i hi;exact⟨i,h,by omega⟩
theorem Lp{f:ak}:Rc f wo 0 (rch0 f wo):=by
 have hok:=BV (f:=f) (wo:=wo);unfold rch0 at hok ⊢;split
 ·rename_i hc;rw[if_pos hc]at hok;refine⟨⟨hok,λb hb=>?_,λx hx=>?_⟩,λ_ _=>Q2.2 rfl,λj hj=>by omega⟩
  ·rw[bS (by simpa using hb),Q2];split
   ·rename_i e;subst e;simp
   rename_i e;rw[aA (by simpa using hb)];simp;omega
  rw[Q2.1 hx];exact .root (by rw[pS];exact hc.2) hc.1
 rename_i hc;rw[if_neg hc]at hok;refine⟨⟨hok,λb hb=>?_,λx hx=>by cases hx⟩,λa b=>absurd ⟨a,b⟩ hc,λj hj=>by omega⟩;rw[aA (by simpa using hb)];simp
variable{b:Nat}
theorem kG{f:ak}(hb:b<f.blocks.length):nth (eW f wo) b=UO↔Re (ofG f.blocks) wo b:=by
 obtain⟨k,h,hk⟩:=IY (Lp (f:=f) (wo:=wo)) (m:=f.blocks.length+1) U1;unfold eW;generalize rchS f wo (f.blocks.length+1) 0 (rch0 f wo)=s at h hk;rw[h.b.seen b hb];constructor
 ·exact λhm=>by simpa using h.b.sound _ hm
 intro hr;induction hr with
 | root h1 h2=>exact h.root h2 (by rw[<-pS];exact h1)
 | @step a b ha he hne ih=>have hm:=ih (by have:=(uO.1 he).1;omega);obtain⟨j,hj,e⟩:=RC hm;rw[<-aA hj]at e;exact h.done j U1 hj b (by rw[e];exact he) hne
instance:Rep Th:=Rep.via λd=>Cat.mk d.blk (Cat.mk d.place (Cat.mk d.mks d.tks))
theorem Th.Nr:Part Th Int 0 Th.blk (λd x=>{ d with blk:=x }):=(Part.fst Part.all).via (λ_=>rfl) λ_ _=>rfl
theorem Th.P8:Part Th (List Int) 2 Th.mks (λd x=>{ d with mks:=x }):=(Part.snd (Part.snd (Part.fst Part.all))).via (λ_=>rfl) λ_ _=>rfl
structure ThR where
 blk:Int
 place:Int
 mks:List Int
 tks:Raw
instance:Rep ThR:=Rep.via λd=>Cat.mk d.blk (Cat.mk d.place (Cat.mk d.mks d.tks))
theorem ThR.NY:Part ThR Raw 3 ThR.tks (λd x=>{ d with tks:=x }):=(Part.snd (Part.snd (Part.snd Part.all))).via (λ_=>rfl) λ_ _=>rfl
theorem KZ{H:View}{a b:Int}{u q:Value}{m t:List Int}(ha:I64 a)(hb:I64 b)(hm:SlRd H u m)(ht:SlRd H q t):Rd H (.agg #[UH UI a,UH UI b,u,q]) (Th.mk a b m t):=
 ⟨_,rfl,[UH UI a],[UH UI b,u,q],rfl,⟨rfl,ha⟩,[UH UI b],[u,q],rfl,⟨rfl,hb⟩,[u],[q],rfl,⟨u,rfl,hm⟩,⟨q,rfl,ht⟩⟩
theorem N6{H:View}{a b:Int}{u q:Value}{m:List Int}(ha:I64 a)(hb:I64 b)(hm:SlRd H u m)(hq:q.oneCell'=UO):Rd H (.agg #[UH UI a,UH UI b,u,q]) (ThR.mk a b m ⟨q⟩):=
 ⟨_,rfl,[UH UI a],[UH UI b,u,q],rfl,⟨rfl,ha⟩,[UH UI b],[u,q],rfl,⟨rfl,hb⟩,[u],[q],rfl,⟨u,rfl,hm⟩,⟨rfl,hq⟩⟩
theorem Ia{H:View}{cs:List Value}{d:ThR}(h:Rep.rd H cs d): ∃u,cs=[UH UI d.blk,UH UI d.place,u,d.tks.v]/\I64 d.blk/\I64 d.place/\SlRd H u d.mks:=by obtain⟨c1,r1,rfl,⟨rfl,h1⟩,c2,r2,rfl,⟨rfl,h2⟩,c3,r3,rfl,⟨u,rfl,h3⟩,rfl,_⟩:=h;exact⟨u,rfl,h1,h2,h3⟩
def qR (vo:Value) (l:List Th):Own:=λk=>if k=(0,0) then it T.fA vo l else UL
def xZ (vo:Value) (l:List Th) (D:Nat) (d:ThR) (q:Value) (t:List Int):Own:=λk=>if k=(0,0) then it T.fA vo l else if k=(1,0) then bx T.fA D d else if k=(1,1) then it T.int q t else UL
structure ThS (V:View) (h0:Heap) (vo:Value) (l:List Th) (W:View) (h:Heap):Prop where
 own:Owns W h (qR vo l)
 old:Old V h0 W
 le:(vw h0).le (vw h)
 av:Av (vw h0) vo
theorem ThS.ext {V:View} {h0:Heap} {vo:Value} {l:List Th} {W:View} {h h':Heap} (k:ThS V h0 vo l W h) (hle:(vw h).le (vw h')):ThS V h0 vo l (grow W h h') h':=
 ⟨k.own.ext hle,k.old.grow (bL k.le),UF k.le hle,k.av⟩
theorem KK{po:OP}{ty:TypeId}{us:List (Nat × Value)}{h:Heap}{K:Value->Heap->Prop}{x y z w:Operand}{a b:Int}{u q:Value}(hx:asg us x = UH UI a)(hy:asg us y = UH UI b)(hz:asg us z=u)(hw:asg us w=q)(hu:u.cells = #[u])(hq:q.cells = #[q])(hk:K (.agg #[UH UI a,UH UI b,u,q]) h):
  Lft.step UQ (.build T.fA #[(0,x),(1,y),(2,z),(3,w)]) ty us h K:=
 az (z:=.agg #[UH UI 0,UH UI 0,UM UL 0 0,UM UL 0 0]) (places:=[(0,1),(1,1),(2,1),(3,1)]) (vs:=[(0,UH UI a),(1,UH UI b),(2,u),(3,q)]) (cs:=#[UH UI a,UH UI b,u,q]) U0 U0 (by simp[hx,hy,hz,hw])
  (by simp[Instr.fill,hu,hq]) hk
theorem Hj{po:OP}{ty:TypeId}{us:List (Nat × Value)}{h:Heap}{K:Value->Heap->Prop}{x y z:Operand}{a b:Int}{u:Value}(hx:asg us x = UH UI a)(hy:asg us y = UH UI b)(hz:asg us z=u)(hu:u.cells = #[u])(hk:K (.agg #[UH UI a,UH UI b,u,UM UL 0 0]) h):
  Lft.step UQ (.build T.fA #[(0,x),(1,y),(2,z)]) ty us h K:=
 az (z:=.agg #[UH UI 0,UH UI 0,UM UL 0 0,UM UL 0 0]) (places:=[(0,1),(1,1),(2,1),(3,1)]) (vs:=[(0,UH UI a),(1,UH UI b),(2,u)]) (cs:=#[UH UI a,UH UI b,u,UM UL 0 0]) U0 U0 (by simp[hx,hy,hz])
  (by simp[Instr.fill,hu]) hk
theorem HY{po:OP}{ty:TypeId}{us:List (Nat × Value)}{h:Heap}{K:Value->Heap->Prop}{x y w:Operand}{a b:Int}{q:Value}(hx:asg us x = UH UI a)(hy:asg us y = UH UI b)(hw:asg us w=q)(hq:q.cells = #[q])(hk:K (.agg #[UH UI a,UH UI b,UM UL 0 0,q]) h):
  Lft.step UQ (.build T.fA #[(0,x),(1,y),(3,w)]) ty us h K:=
 az (z:=.agg #[UH UI 0,UH UI 0,UM UL 0 0,UM UL 0 0]) (places:=[(0,1),(1,1),(2,1),(3,1)]) (vs:=[(0,UH UI a),(1,UH UI b),(3,q)]) (cs:=#[UH UI a,UH UI b,UM UL 0 0,q]) U0 U0 (by simp[hx,hy,hw])
  (by simp[Instr.fill,hq]) hk
theorem BC{f:ak}{v:Value}{V:View}{h:Heap}(hv:Rd V v f)(hV:V.le (vw h))(hsm:SmF f):
  ay UQ 63 #[v] h (λu h'=>(vw h).le (vw h')/\SlRd (grow V h h') u (aC f)):=by
 refine ao (args:=[v]) follows Tryz.func63 E.bH UC λK hK=>?_;have hn:=hsm.len;dsimp only[L.bH,lkF,lkG];refine aa λz hz=>?_;simp;refine eo (v:=v) rfl ?_;have hle1:=bO h (.cells v.cells T.gm);have hat1:At (grow V h (h.push (.cells v.cells T.gm))) ⟨h.size,0,UL⟩ f:=oH (t:=T.gm) (fz:=(0,0)) (by rw[bY (QY _)];simp) (hv.mono (bw hV));have hs1:(h.push (.cells v.cells T.gm)).size=h.size+1:=by simp
 generalize h.push (.cells v.cells T.gm)=h1 at hle1 hat1 hs1;have hW1:(grow V h h1).le (vw h1):=lR (UF hV hle1);have old1:Old V h (grow V h h1):=(Old.refl V h).grow (QY _);obtain⟨_,vb,cb⟩:=fq hat1;generalize grow V h h1=W1 at cb hW1 old1;generalize h.size=B at cb;subst hz;refine aa λz hz=>?_;simp;refine qg (α:=Th) El.iu λh2 hle2 hsz2 own2=>?_;have t2:ThS V h (UM (UK ⟨h1.size,0,UL⟩) 0 0) [] W1 h2:=⟨((Owns.start hW1).add (k:=(0,0)) rfl (own2 _) hle2 (λb hb=>by simp only[Value.ownBlock,QX]at hb;omega)).congr λq=>by
   unfold qR Own.upd;repeat' split
   all_goals first | rfl | simp_all,old1,UF hle1 hle2,λb hb=>by cases hb;exact View.cf UE (by show h.size<=h1.size;omega)⟩;generalize UM (UK ⟨h1.size,0,UL⟩) 0 0=v0 at t2;subst hz;refine aa λz hz=>?_;simp
 refine dq [1,3,4] (fun(r:Value) b=>[UN (UK ⟨B,0,UL⟩),r,UH UI b]) (λr b h3=>∃W,W1.le W/\ThS V h r (thTo f b) W h3) f.blocks.length v0
  rfl U1 rfl ⟨W1,View.le_refl _,t2⟩ (λ_ _=>rfl) (λv k h3 hk ⟨W,q1,q2⟩=>by simp[ae (UF q1 q2.own.wle) cb.1,(cb.2.mono (UF q1 q2.own.wle)).len]) ?_ ?_
 ·rintro r b h3 hltb ⟨W3,hW3,t3⟩ K2 hK2;have hl3:=y8 hsm (n:=b) U1;have cb3:=cb.2.mono (UF hW3 t3.own.wle);have cc3:=ae (UF hW3 t3.own.wle) cb.1;obtain⟨u,hu,hur⟩:=(cb.2.mono hW3).wh rfl (N:=6) rfl hltb;have sb:=hsm.blk b hltb;refine aa λy hy=>?_;simp(disch:=omega)[cc3,cb3.idxn (N:=6) rfl,hu _ t3.own.wle];refine df (X:=W3) (z:=.agg #[UM UL 0 0,UM UL 0 0,UH UI 0,UM UL 0 0,UM UL 0 0,UH UJ 0]) U0 rfl U0 hur U5 U5 λh4 hle4 hsz4 hat4=>?_;have t4:=t3.ext hle4;have hat4':=hat4 (grow W3 h3 h4) (bw t3.own.wle) (bY (QY _));obtain⟨vp,vi,va,vt,bp,bi,bk,ba,bt⟩:=lQ hat4';have hW4:=UF hW3 (bw (h':=h4) t3.own.wle);generalize grow W3 h3 h4=W4 at t4 bp bi bk ba bt hW4;generalize h3.size=D at bp bi bk ba bt;subst hy;refine aa λy hy=>?_;simp;have sp:=sb.phis;refine dq [1,3,4,5,6] (fun(r:Value) i=>[UN (UK ⟨B,0,UL⟩),r,UH UI b,UN (UK ⟨D,0,UL⟩),UH UI i]) (λr i h5=>∃W,W4.le W/\ThS V h r (thTo f b++rows (phiT f b) i) W h5) (nth f.blocks b).phis.length r
   rfl U1 rfl ⟨W4,View.le_refl _,by simpa using t4⟩ (λ_ _=>rfl) (λv k h3 hk ⟨W,q1,q2⟩=>by simp[ae (UF q1 q2.own.wle) bp.1,(bp.2.mono (UF q1 q2.own.wle)).len]) ?_ ?_
  ·rintro r i h5 hlti ⟨W5,hW5,t5⟩ K3 hK3;have bp5:=bp.2.mono hW5;have bph:=bp5.mono t5.own.wle;have cph:=ae (UF hW5 t5.own.wle) bp.1;have hap:=(bp5.at hlti);rw[<-aA hlti]at hap;have hdst:an W5 (((slA vp).add (i*2)).add 0)=UK (UH UI (nth (nth f.blocks b).phis i).dst):=(hap.part PhiD.gG).int;have hdr:=(hap.part PhiD.gG).rng;obtain⟨vq,hvq⟩:=(hap.part PhiD.ig).sl;have hvq1:an W5 (((slA vp).add (i*2)).add 1)=UK vq:=hvq.1;have hvq2:=hvq.2;have hpl:=sb.phi i hlti;have hpt:phiT f b i=⟨b,-1-i,[(nth (nth f.blocks b).phis i).dst],(nth (nth f.blocks b).phis i).ins.map InD.val⟩:=rfl;generalize nth (nth f.blocks b).phis i=x at hdst hdr hvq2 hpl hpt;refine aa λq hq=>?_;simp(disch:=omega)[cph,bph.idxn (N:=2) rfl,ae t5.own.wle hdst];refine mM (X:=nothing) (ds:=[x.dst]) (vs:=[UH UI x.dst]) rfl El.aY U2 ⟨bu.2 ⟨rfl,hdr⟩,trivial⟩ cR rfl U1 λu6 h6 hle6 hsz6 hu6 hub6=>?_;have hu6n:=hu6 (vw h6) cR rfl;refine Hj rfl rfl rfl hu6n.cells.1 ?_;simp;refine gk (n:=4) (v:=.agg #[UH UI b,UH UI (-1-i),u6,UM UL 0 0]) (z:=.agg #[UH UI 0,UH UI 0,UM UL 0 0,UM UL 0 0]) U0 rfl U0 rfl (by intro c hc;simp at hc;rcases hc with rfl | rfl | rfl | rfl<;>first | rfl | exact hu6n.cells.2) U5 U5 λh7 hle7 hsz7 hb7=>?_;have w6:=t5.own.ext hle6;have w7:=(w6.add (k:=(1,0)) rfl (iq (h:=h7) (d:=ThR.mk b (-1-i) [x.dst] ⟨UM UL 0 0⟩) hb7 (N6 U6 U6 (hu6 _ cR (bY (QY _))) rfl) U3) hle7 (λb hb=>by simp only[Value.ownBlock,QX]at hb;omega)).add (k:=(1,1)) rfl (OwnT.nil (α:=Int) _ h7 T.int) UE (λb hb=>by simp[Value.ownBlock]at hb);have w7:Owns (grow W5 h5 h6) h7 (xZ r (thTo f b++rows (phiT f b) i) h6.size (ThR.mk b (-1-i) [x.dst] ⟨UM UL 0 0⟩) (UM UL 0 0) []):=w7.congr λq=>by
    unfold xZ qR Own.upd;repeat' split
    all_goals first | rfl | simp_all
   have hW7:=UF hW5 (bw (h':=h6) t5.own.wle);have old7:=t5.old.grow (h1:=h5) (h2:=h6) (bL t5.le);have hle07:=UF t5.le (UF hle6 hle7);have hvq7:=hvq2.mono (bw (h':=h6) t5.own.wle);have cvq7:=ae (bw (h':=h6) t5.own.wle) hvq1;generalize grow W5 h5 h6=W7 at w7 hW7 old7 hvq7 cvq7;have hD7:h.size<=h6.size:=Rq (bL t5.le) (bL hle6);generalize h6.size=D7 at w7 hD7;subst hq;refine aa λq hq=>?_;simp;refine dq [1,3,4,5,6,7,8] (fun(q:Value) j=>[UN (UK ⟨B,0,UL⟩),r,UH UI b,UN (UK ⟨D,0,UL⟩),UH UI i,UN (UK ⟨D7,0,UL⟩),UH UI j])
    (λq j h8=>Owns W7 h8 (xZ r (thTo f b++rows (phiT f b) i) D7 (ThR.mk b (-1-i) [x.dst] ⟨q⟩) q ((x.ins.map InD.val).take j))/\(vw h).le (vw h8)/\Av (vw h) q) x.ins.length (UM UL 0 0)
    rfl U1 rfl ⟨w7,hle07,Av.nil _ _ _⟩ (λ_ _=>rfl) (λv k h8 hk ⟨w8,q2⟩=>by have bp8:=(bp.2.mono hW7).mono w8.wle;simp(disch:=omega)[ae (UF hW7 w8.wle) bp.1,bp8.idxn (N:=2) rfl,ae w8.wle cvq7,(hvq7.mono w8.wle).len]) ?_ ?_
   ·rintro q8 j h8 hltj ⟨w8,hle08,av8⟩ K4 hK4;have bp8:=(bp.2.mono hW7).mono w8.wle;have hv8:=hvq7.mono w8.wle;have hai:=(hvq7.at hltj);rw[<-aA hltj]at hai;have hval:an W7 (((slA vq).add (j*2)).add 1)=UK (UH UI (nth x.ins j).val):=(hai.part InD.A9).int;have hvr:=(hai.part InD.A9).rng;have hl8:((x.ins.map InD.val).take j).length=j:=by simp;omega
    have htk:(x.ins.map InD.val).take (j+1)=(x.ins.map InD.val).take j++[(nth x.ins j).val]:=by rw[Ti,SC,RE hltj,aA hltj];rfl
    have hq8:an (vw h8) ⟨D7,3,UL⟩=UK q8:=by have:=((w8.at (k:=(1,0)) (e:=T.fA) (B:=D7) (d:=ThR.mk b (-1-i) [x.dst] ⟨q8⟩) rfl).part ThR.NY).raw;simpa using this
    refine aG (vw h8) UE ?_;simp(disch:=omega)[hq8,ae (UF hW7 w8.wle) bp.1,bp8.idxn (N:=2) rfl,ae w8.wle cvq7,hv8.idxn (N:=2) rfl,ae w8.wle hval];refine mq (α:=Int) (W:=W7) El.aY rfl (bu.2 ⟨rfl,hvr⟩) λu9 h9 hs9 hle9 hsz9=>⟨hle9,?_⟩;refine(w8.ext' hle9).dA (k:=(1,1)) (α:=Int) (v:=q8) (l:=(x.ins.map InD.val).take j) rfl El.aY rfl rfl hs9 U9 U9 λq10 h10 w10 m10=>?_;have hc10:=w10.cells (k:=(1,1)) (Own.aq);obtain⟨hX10,av10⟩:=m10.view (UF hle08 hle9) av8;refine w10.pk (k:=(1,0)) (e:=T.fA) (B:=D7) (D:=ThR.mk b (-1-i) [x.dst] ⟨q8⟩) ThR.NY (d:=⟨q10⟩) rfl U0 rfl rfl (iE.2 ⟨rfl,hc10.2⟩) λh11 w11 hX11=>?_;refine hK4 q10 _ _ rfl rfl ⟨w11.congr λp=>?_,hX11 _ hX10 (View.cf UE hD7),av10⟩;rw[htk];unfold xZ Own.upd;repeat' split
    all_goals first | rfl | simp_all
   rintro q8 h8 ⟨w8,hle08,av8⟩;rw[Rl U2]at w8;simp;subst hq;obtain⟨cs,hcs,hrd⟩:=w8.atW (k:=(1,0)) (e:=T.fA) (B:=D7) (d:=ThR.mk b (-1-i) [x.dst] ⟨q8⟩) rfl;obtain⟨u9,rfl,i1,i2,hu9⟩:=Ia hrd;obtain⟨w9,hq9⟩:=w8.freeze (k:=(1,1)) (v:=q8) (l:=x.ins.map InD.val) rfl;have hpl9:W7.le (W7.plus q8 h8):=iN (w8.av (1,1) _ rfl);have hload:Un.ev (vw h8) (.bM 4) (UN (UK ⟨D7,0,UL⟩))=UK (.agg #[UH UI b,UH UI (-1-i),u9,q8]):=by have:=gr hcs 4 0 #[] U4;simp[Un.ev,vP,this]
   have hold9:Old V h (W7.plus q8 h8):=λc o hc hco=>by
    unfold View.plus at hco;split at hco
    ·rename_i e;have:=av8 c e;simp only[vw]at this;rw[Rv hc]at this;cases this
    exact old7 c o hc hco
   have w9:Owns (W7.plus q8 h8) h8 (qR r (thTo f b++rows (phiT f b) i)):=w9.sub λp x hp=>by
    unfold qR at hp;split at hp
    ·rename_i e;subst e;exact hp
    cases hp
   have hlr:(thTo f b++rows (phiT f b) i).length=(thTo f b).length+i:=by simp
   simp[hload];refine w9.zK (k:=(0,0)) (α:=Th) (v:=r) (l:=thTo f b++rows (phiT f b) i) (d:=phiT f b i) rfl El.iu rfl (by rw[hpt];exact KZ i1 i2 (hu9.mono hpl9) hq9) U1 U1 (λ_=>rfl) (λ_=>rfl) λu10 r10 h10 w10 hX10=>?_;obtain⟨g1,g2⟩:=hX10 _ hle08 t5.av;refine hK3 r10 _ _ rfl rfl ⟨W7.plus q8 h8,UF hW7 hpl9,⟨w10.congr λp=>?_,hold9,g1,g2⟩⟩;rw[fB,<-List.append_assoc];unfold qR Own.upd;repeat' split
   all_goals first | rfl | simp_all
  rintro r h5 ⟨W5,hW5,t5⟩;simp;subst hy;refine aa λy hy=>?_;simp;have si:=sb.ins;refine dq [1,3,4,5,9] (fun(r:Value) i=>[UN (UK ⟨B,0,UL⟩),r,UH UI b,UN (UK ⟨D,0,UL⟩),UH UI i]) (λr i h6=>∃W,W4.le W/\ThS V h r (thTo f b++rows (phiT f b) (nth f.blocks b).phis.length++rows (insT f b) i) W h6) (nth f.blocks b).ins.length r
   rfl U1 rfl ⟨W5,hW5,by simpa using t5⟩ (λ_ _=>rfl) (λv k h3 hk ⟨W,q1,q2⟩=>by simp[ae (UF q1 q2.own.wle) bi.1,(bi.2.mono (UF q1 q2.own.wle)).len]) ?_ ?_
  ·rintro r i h6 hlti ⟨W6,hW6,t6⟩ K3 hK3;have bi6:=bi.2.mono hW6;have bih:=bi6.mono t6.own.wle;have cih:=ae (UF hW6 t6.own.wle) bi.1;obtain⟨ux,hux,huxr⟩:=bi6.wh rfl (N:=5) rfl hlti;have hap:=(bi6.at hlti);rw[<-aA hlti]at hap;obtain⟨vq,hvq⟩:=(hap.part InsD.eK).sl;have hvq1:an W6 (((slA vi).add (i*5)).add 3)=UK vq:=hvq.1;have hvq2:=hvq.2;have hpt:insT f b i=⟨b,i,cL (nth (nth f.blocks b).ins i),(nth (nth f.blocks b).ins i).args⟩:=rfl;generalize nth (nth f.blocks b).ins i=x at hvq2 huxr hpt;have hlr:(thTo f b++rows (phiT f b) (nth f.blocks b).phis.length++rows (insT f b) i).length=(thTo f b).length+(nth f.blocks b).phis.length+i:=by simp;omega
   refine aG (vw h6) UE ?_;simp(disch:=omega)[cih,bih.idxn (N:=5) rfl,hux _ t6.own.wle,ae t6.own.wle hvq1];refine ah U0 (qV (huxr.mono t6.own.wle)) ?_;rintro u7 h7 ⟨hle7,hu7,_⟩;refine⟨hle7,?_⟩;have t7:=t6.ext hle7;have hu7':=hu7.mono (jW W6 h6 h7);have hvq7:=hvq2.mono (bw (h':=h7) t6.own.wle);refine KK rfl rfl rfl rfl hu7.cells.1 hvq2.cells.1 ?_;simp;refine t7.own.zK (k:=(0,0)) (α:=Th) (v:=r) (l:=thTo f b++rows (phiT f b) (nth f.blocks b).phis.length++rows (insT f b) i) (d:=insT f b i) rfl El.iu rfl (by rw[hpt];exact KZ U6 U6 hu7' hvq7) U1 U1 (λ_=>rfl) (λ_=>rfl) λu10 r10 h10 w10 hX10=>?_;obtain⟨g1,g2⟩:=hX10 _ t7.le t7.av;refine hK3 r10 _ _ rfl rfl ⟨_,UF hW6 (bw (h':=h7) t6.own.wle),⟨w10.congr λp=>?_,t7.old,g1,g2⟩⟩;rw[fB,<-List.append_assoc];unfold qR Own.upd;repeat' split
   all_goals first | rfl | simp_all
  rintro r h6 ⟨W6,hW6,t6⟩;simp;subst hy;have hW6h:=UF hW6 t6.own.wle;have bih:=bi.2.mono hW6h;have cih:=ae hW6h bi.1;have hlr:(thTo f b++rows (phiT f b) (nth f.blocks b).phis.length++rows (insT f b) (nth f.blocks b).ins.length).length=(thTo f b).length+(nth f.blocks b).phis.length+(nth f.blocks b).ins.length:=by simp;omega
  simp[cih,bih.len,ae hW6h ba.1];refine HY rfl rfl rfl (ba.2.cells.1) ?_;simp;refine t6.own.zK (k:=(0,0)) (α:=Th) (v:=r) (l:=thTo f b++rows (phiT f b) (nth f.blocks b).phis.length++rows (insT f b) (nth f.blocks b).ins.length) (d:=endT f b) rfl El.iu rfl (KZ U6 U6 aL (ba.2.mono hW6)) U1 U1 (λ_=>rfl) (λ_=>rfl) λu10 r10 h10 w10 hX10=>?_;obtain⟨g1,g2⟩:=hX10 _ t6.le t6.av;refine hK2 r10 _ _ rfl rfl ⟨_,UF hW4 hW6,⟨w10.congr λp=>?_,t6.old,g1,g2⟩⟩;have e:thTo f (b+1)=thTo f b++rows (phiT f b) (nth f.blocks b).phis.length++rows (insT f b) (nth f.blocks b).ins.length++[endT f b]:=by rw[iA,thB];simp[Rj]
  rw[e];unfold qR Own.upd;repeat' split
  all_goals first | rfl | simp_all
 rintro r h3 ⟨W3,hW3,t3⟩;simp;subst hz;simp;exact hK _ _ ⟨t3.le,(t3.own.get (k:=(0,0)) (v:=r) (l:=thTo f f.blocks.length) rfl).rd (t3.old.le t3.own.wle) λb hb=>by
  have:=t3.av b hb;rw[bY];rcases Q5 b h.size with hlt | hge
  ·simp[vw,hlt]at this
  exact hge⟩
structure GotD where
 e:Int
 b:Int
 p:Int
instance:Rep GotD:=Rep.via λd=>Cat.mk d.e (Cat.mk d.b d.p)
abbrev BL:=List Bool
def sN (t:Th) (j:Nat) (m:BL):Except Tr BL:=if nth m (nth t.mks j).toNat then .error (12,t.blk,t.place) else .ok (m.set (nth t.mks j).toNat UO)
def jd (f:ak) (t:Th):BlkD:=nth f.blocks t.blk.toNat
def Ek (f:ak) (t:Th):InsD:=nth (jd f t).ins t.place.toNat
def uq (f:ak) (t:Th):Bool:=decide (0<=t.place)&&decide (t.place<(jd f t).ins.length)
def oJ (f:ak) (t:Th):Bool:=decide (t.place=(jd f t).ins.length)
def yF (s:InsD):Bool:=decide (s.op<1)||decide (18<s.op)||!Cn s.op s.args.length
def oK (f:ak) (n:Int):Bool:=decide (n<f.params)||decide (8191<n)
def zE (f:ak) (n:Int):Bool:=decide (n<1)||decide ((f.blocks.length:Int)<=n)
def qh (f:ak) (t:Th):Except Tr BL->Except Tr BL
 | .error e=>.error e
 | .ok m'=>if oJ f t&&(jd f t).term.to.any (zE f) then .error (14,t.blk,t.place) else .ok m'
def jm (f:ak) (t:Th) (m:BL):Except Tr BL:=
 if uq f t&&yF (Ek f t) then .error (10,t.blk,t.place)
 else if oJ f t&&!xl (jd f t).term then .error (10,t.blk,t.place)
 else if t.mks.any (oK f) then .error (11,t.blk,t.place)
 else qh f t (upE (sN t) t.mks.length m)
def lu (f:ak):Except Tr BL:=upE (λi m=>jm f (nth (aC f) i) m) (aC f).length (List.replicate 8192 UP)
def AH {α:Type}:Except Tr α->Tr | .ok _=>(0,0,0) | .error t=>t
def noTh:Th:=⟨-1,0,[],[]⟩
def fZ (t:Th) (l:List Th) (n:Int):List Th:=if 0<=n/\n<8192 then l.set n.toNat t else l
def tY (l:List Th) (t:Th):List Th:=t.mks.foldl (fZ t) l
def BB (ts:List Th):List Th:=ts.foldl tY (List.replicate 8192 noTh)
variable{n:Int}
theorem pN{t:Th}{l:List Th}:(fZ t l n).length=l.length:=by unfold fZ;split<;>simp
theorem FU{t:Th}{l:List Th}:(tY l t).length=l.length:=kz (f:=fZ t) (λx:List Th=>x.length=l.length) (λ_ _ h=>pN.trans h) _ _ rfl
theorem FE{ts:List Th}:(BB ts).length=8192:=kz (f:=tY) (λx:List Th=>x.length=8192) (λ_ _ h=>FU.trans h) _ _ (RS ..)
def jo (f:ak) (made:List Th) (away:List BL) (v blk place:Int):Bool:=
 if 0<=v/\v<f.params then UO
 else if(v<0\/8191<v)\/(nth made v.toNat).blk<0 then UP
 else if(nth made v.toNat).blk=blk then decide ((nth made v.toNat).place<0)||decide ((nth made v.toNat).place<place)
 else !nth (nth away (nth made v.toNat).blk.toNat) blk.toNat
def tj (f:ak) (t:Th):PhiD:=nth (jd f t).phis (-1-t.place).toNat
def F8 (f:ak) (b:Int):Int:=((nth f.blocks b.toNat).ins.length:Nat)
def uI (f:ak) (t:Th):Bool:=decide (0<t.blk)&&decide ((tj f t).ins.map InD.frm=dm f t.blk)
def stT (f:ak) (made:List Th) (away:List BL) (t:Th) (x:Int):Bool:=!jo f made away x t.blk t.place
def stP (f:ak) (made:List Th) (away:List BL) (p:InD):Bool:=!jo f made away p.val p.frm (F8 f p.frm)
def gQ (f:ak) (made:List Th) (away:List BL) (t:Th):Except Tr Unit:=
 if 0<=t.place then(if t.tks.any (stT f made away t) then .error (13,t.blk,t.place) else .ok ())
 else if !uI f t then .error (16,t.blk,t.place)
 else if(tj f t).ins.any (stP f made away) then .error (13,t.blk,t.place)
 else .ok ()
def jy (f:ak):List Th:=BB (aC f)
def iF (f:ak):List BL:=rows (λb=>eW f b) f.blocks.length
def yE (f:ak):Nat->Nat
 | 0=>f.blocks.length
 | n+1=>yE f n+(nth f.blocks n).phis.length+(nth f.blocks n).ins.length
def wayE (f:ak):Except Tr Unit:=upE (λb _=>if nth (eW f (-1)) b=UO then .ok () else .error (15,b,0)) f.blocks.length ()
def EK (f:ak):Except Tr Unit:=upE (λi _=>gQ f (jy f) (iF f) (nth (aC f) i)) (aC f).length ()
def Pt:Except Tr Unit->Except Tr Unit->Except Tr Unit
 | .ok _,y=>y
 | .error e,_=>.error e
def y3 (f:ak):Tr:=
 if f.params<0\/4<f.params then(1,0,0)
 else if f.blocks.length=0 then(14,0,0)
 else if 512<f.blocks.length\/4096<yE f f.blocks.length then(2,0,0)
 else if(AH (lu f)).1≠0 then AH (lu f)
 else AH (Pt (wayE f) (EK f))
theorem sv {σ ε:Type} {f:Nat->σ->Except ε σ} {s:σ} {t:ε} : ∀{n:Nat},upE f n s = .error t->∃k s',k<n/\upE f k s = .ok s'/\f k s' = .error t
 | n+1,h=>by
  simp only[upE]at h;split at h
  ·rename_i s' hs;exact⟨n,s',Nat.lt_succ_self n,hs,h⟩
  rename_i t' ht;cases h;obtain⟨k,s',h1,h2⟩:=sv ht;exact⟨k,s',Nat.lt_succ_of_lt h1,h2⟩
theorem xh{f:ak}{t:Th}{m:BL}{e:Tr}(h:jm f t m = .error e):(10<=e.1/\e.1<=14)/\e.2.1=t.blk/\e.2.2=t.place:=by
 unfold jm at h;split at h
 ·cases h;simp
 split at h
 ·cases h;simp
 split at h
 ·cases h;simp
 unfold qh at h;split at h
 ·rename_i e' he;cases h;obtain⟨k,s',_,_,h3⟩:=sv he;unfold sN at h3;split at h3
  ·cases h3;simp
  cases h3
 split at h
 ·cases h;simp
 cases h
theorem HF(hn:0<=n){ts:List Th}(h : ∀t∈ts,t.blk<n){i:Nat}(hi:i<8192):(nth (BB ts) i).blk<n:=by
 have key : ∀(ts:List Th),(∀t∈ts,t.blk<n)->∀l:List Th,(∀x∈l,x.blk<n)->∀x∈ts.foldl tY l,x.blk<n:=by
  intro ts;induction ts with
  | nil=>exact λ_ l hl=>hl
  | cons t ts ih=>
   intro ht l hl;refine ih (λx hx=>ht x (Q1 _ hx)) _ ?_;refine kz (f:=fZ t) (λl:List Th=>∀x∈l,x.blk<n) (λl a hl x hx=>?_) _ _ hl;unfold fZ at hx;split at hx
   ·rcases Tx hx with h | rfl
    ·exact hl x h
    exact ht _ Q9
   exact hl x hx
 refine key ts h _ (λx hx=>?_) _ (bo (by show i<(BB ts).length;rw[FE];exact hi));rw[(List.mem_replicate.1 hx).2];show(-1:Int)<n;omega
theorem jZ{σ ε:Type}{f:σ->α->Except ε σ}{a b:List α}{s:σ}:(a++b).foldlM f s=(match a.foldlM f s with | .ok s'=>b.foldlM f s' | .error e=>.error e):=by rw[Ud];cases a.foldlM f s<;>rfl
theorem uh{σ ε:Type}{f:σ->α->Except ε σ}{a:α}{s:σ}:[a].foldlM f s=f s a:=by rw[SA];cases f s a<;>rfl
theorem pE {σ α ε:Type} {g:Nat->σ->Except ε σ} {f:σ->α->Except ε σ} {x:Nat->α} {s:σ} : ∀{n:Nat},(∀i s,i<n->g i s=f s (x i))->upE g n s=(rows x n).foldlM f s
 | 0,_=>rfl
 | n+1,h=>by
  have ih:=pE (n:=n) (s:=s) λi s hi=>h i s U1;rw[fB,jZ,<-ih];simp only[upE];cases upE g n s with
  | ok s'=>show g n s'=[x n].foldlM f s';rw[uh];exact h n s' U1
  | error e=>rfl
theorem qO{σ ε:Type}[Inhabited α]{f:σ->α->Except ε σ}{l:List α}{s:σ}:upE (λi s=>f s (nth l i)) l.length s=l.foldlM f s:=by rw[pE (f:=f) (x:=nth l) λ_ _ _=>rfl];congr 1;refine S1 U2 λi h1 h2=>?_;simp[rows,aA h2]
def lV (f:ak) (m:MW) (t:Th):Except Tr MW:=
 if t.place<0 then allS f.params t.mks t.blk t.place m
 else if t.place<(jd f t).ins.length then insS f.params t.blk (jd f t) t.place.toNat m
 else endS f.blocks.length t.blk (jd f t) m
theorem vN{f:ak}{i:Nat}{m:MW}:lV f m (phiT f b i)=phiS f.params b (nth f.blocks b) i m:=by unfold lV;rw[if_pos (show(phiT f b i).place<0 by show -1-(i:Int)<0;omega)];rfl
theorem wF{f:ak}{i:Nat}{m:MW}(hi:i<(nth f.blocks b).ins.length):lV f m (insT f b i)=insS f.params b (nth f.blocks b) i m:=by unfold lV;rw[if_neg (show ¬(insT f b i).place<0 by show ¬(i:Int)<0;omega),if_pos (show(insT f b i).place<((jd f (insT f b i)).ins.length:Int) by show(i:Int)<((nth f.blocks b).ins.length:Int);omega)];rfl
theorem xa{f:ak}{m:MW}:lV f m (endT f b)=endS f.blocks.length b (nth f.blocks b) m:=by unfold lV;rw[if_neg (show ¬(endT f b).place<0 by show ¬((nth f.blocks b).ins.length:Int)<0;omega),if_neg (show ¬(endT f b).place<((jd f (endT f b)).ins.length:Int) by show ¬((nth f.blocks b).ins.length:Int)<((nth f.blocks b).ins.length:Int);omega)];rfl
theorem I6{f:ak}{m:MW}:blkS f b m=(thB f b).foldlM (lV f) m:=by
 unfold blkS thB;rw[pE (f:=lV f) (x:=phiT f b) (n:=(nth f.blocks b).phis.length) λi s hi=>vN.symm];rw[jZ,jZ];cases (rows (phiT f b) (nth f.blocks b).phis.length).foldlM (lV f) m with
 | error e=>rfl
 | ok m1=>
  simp only;rw[pE (f:=lV f) (x:=insT f b) (n:=(nth f.blocks b).ins.length) λi s hi=>(wF hi).symm];cases (rows (insT f b) (nth f.blocks b).ins.length).foldlM (lV f) m1 with
  | error e=>rfl
  | ok m2=>simp only;rw[uh];exact xa.symm
theorem zM{f:ak}{m:MW}:nN f m=(aC f).foldlM (lV f) m:=by
 have key : ∀n,upE (blkS f) n m=(thTo f n).foldlM (lV f) m:=by
  intro n;induction n with
  | zero=>rfl
  | succ n ih=>
   rw[iA,jZ,<-ih];simp only[upE];cases upE (blkS f) n m with
   | error e=>rfl
   | ok s=>exact I6
 exact key _
theorem tu{f:ak}:lu f=(aC f).foldlM (λm t=>jm f t m) (List.replicate 8192 UP):=qO (f:=fun(m:BL) (t:Th)=>jm f t m)
def xw (m:MW) (l:BL):Prop:=l.length=8192/\∀n:Int,0<=n->n<8192->(m n).isSome=nth l n.toNat
def Alike {α β:Type} (R:α->β->Prop):Except Tr α->Except Tr β->Prop
 | .ok a,.ok b=>R a b
 | .error e,.error e'=>e=e'
 | _,_=>False
theorem tH {α β γ:Type} {R:α->β->Prop} {F:α->γ->Except Tr α} {G:β->γ->Except Tr β} : ∀{l:List γ},(∀t∈l,∀a b,R a b->Alike R (F a t) (G b t))->∀{a:α} {b:β},R a b->Alike R (l.foldlM F a) (l.foldlM G b)
 | [],_,a,b,h=>h
 | t::l,hs,a,b,h=>by
  rw[SA,SA];have:=hs t Q9 a b h;cases e1:F a t with
  | error e=>
   cases e2:G b t with
   | error e'=>rw[e1,e2]at this;exact this
   | ok b'=>rw[e1,e2]at this;exact this.elim
  | ok a'=>
   cases e2:G b t with
   | error e'=>rw[e1,e2]at this;exact this.elim
   | ok b'=>rw[e1,e2]at this;exact tH (λt ht=>hs t (Q1 _ ht)) this
theorem Ir{f:ak}:cr n f.params 8191=!oK f n:=by rw[RH];simp[cr,oK]
theorem Gw{p:α->Bool}{l:List α}:l.all (λn=>!p n)=!l.any p:=by
 induction l with
 | nil=>rfl
 | cons a l ih=>simp[ih]
def oD (t:Th) (m:BL) (n:Int):Except Tr BL:=if nth m n.toNat then .error (12,t.blk,t.place) else .ok (m.set n.toNat UO)
theorem IC{f:ak}{t:Th}{m:MW}{l:BL}(h:xw m l)(hp:0<=f.params)(hn : ∀n∈t.mks,oK f n=UP):Alike xw (t.mks.foldlM (tg t.blk t.place) m) (upE (sN t) t.mks.length l):=by
 have e:upE (sN t) t.mks.length l=t.mks.foldlM (oD t) l:=qO (f:=oD t);rw[e];refine tH (λn hnm m l h=>?_) h;have hb:=hn n hnm;simp only[oK,Sy,decide_eq_false_iff_not]at hb;have hs:=h.2 n U1 U1;unfold tg oD;rw[hs];cases hc:nth l n.toNat with
 | true=>exact rfl
 | false=>
  refine⟨by simpa using h.1,λk h0 h1=>?_⟩;rw[bS (by rw[h.1];omega)];simp only[putM];by_cases hk:k=n
  ·subst hk;simp
  rw[if_neg hk,if_neg U1];exact h.2 k h0 h1
theorem AX{f:ak}{t:Th}{m:MW}{l:BL}(h:xw m l)(hp:0<=f.params):
  Alike xw (allS f.params t.mks t.blk t.place m) (if t.mks.any (oK f) then .error (11,t.blk,t.place) else upE (sN t) t.mks.length l):=by
 unfold allS;have e:(t.mks.all λn=>cr n f.params 8191)=!t.mks.any (oK f):=by rw[<-Gw];congr 1;funext n;exact Ir
 rw[e];cases hb:t.mks.any (oK f)with
 | true=>exact rfl
 | false=>refine IC h hp λn hn=>?_;rw[Tj];intro e2;rw[Tj]at hb;exact hb (TZ.2 ⟨n,hn,e2⟩)
theorem M6{x:InsD}:(cr x.op 1 18&&cr x.args.length (gJ x.op).1 (gJ x.op).2)=!yF x:=by
 rw[RH];simp only[yF,cr,gJ,Cn,Q4,Sj,Sy,decide_eq_true_eq,decide_eq_false_iff_not,Bool.not_eq_false'];by_cases h1:x.op=1
 ·simp[h1]
 by_cases h2:x.op=15
 ·simp[h2];omega
 by_cases h3:x.op=17
 ·simp[h3]
 simp only[h1,h2,h3,if_false,decide_eq_true_eq];omega
theorem Md{f:ak}:cr n 1 ((f.blocks.length:Int)-1)=!zE f n:=by rw[RH];simp[cr,zE];omega
theorem Ik{t:de}:qW t=xl t:=by
 unfold qW xl gB;by_cases h1:t.kind=1
 ·rw[RH];simp[putM,h1,cr];omega
 by_cases h2:t.kind=2
 ·rw[RH];simp[putM,h2,cr];omega
 by_cases h3:t.kind=3
 ·rw[RH];simp[putM,h3,cr];omega
 by_cases h4:t.kind=4
 ·rw[RH];simp[putM,h4,cr]
 by_cases h5:t.kind=5
 ·rw[RH];simp[putM,h5,cr]
 simp[putM,h1,h2,h3,h4,h5]
theorem xv{f:ak}{t:Th}{x:Except Tr BL}(h:oJ f t=UP):qh f t x=x:=by
 unfold qh;cases x with
 | error e=>rfl
 | ok m=>simp only[h,Uy];rfl
theorem Hr{f:ak}{t:Th}(ht:t∈aC f)(hp:0<=f.params){m:MW}{l:BL}(h:xw m l):Alike xw (lV f m t) (jm f t l):=by
 obtain⟨b,hb,ht⟩:=jF.1 ht;rcases lL.1 ht with⟨i,hi,rfl⟩ | ⟨i,hi,rfl⟩ | rfl
 ·have e1:uq f (phiT f b i)=false:=by simp[uq,phiT];omega
  have e2:oJ f (phiT f b i)=false:=by show decide (-1-(i:Int)=((nth f.blocks b).ins.length:Int))=UP;rw[decide_eq_false_iff_not];omega
  rw[vN,jm,e1,e2,xv e2];exact AX (t:=phiT f b i) h hp
 ·have e1:uq f (insT f b i)=true:=by simp[uq,insT,jd];omega
  have e2:oJ f (insT f b i)=false:=by show decide ((i:Int)=((nth f.blocks b).ins.length:Int))=UP;rw[decide_eq_false_iff_not];omega
  have e3:Ek f (insT f b i)=nth (nth f.blocks b).ins i:=by simp[Ek,jd,insT]
  rw[wF hi,jm,e1,e2,xv e2,e3,insS,M6];cases hb:yF (nth (nth f.blocks b).ins i)with
  | true=>exact rfl
  | false=>exact AX (t:=insT f b i) h hp
 have e1:uq f (endT f b)=false:=by simp[uq,endT,jd]
 have e2:oJ f (endT f b)=true:=by simp[oJ,endT,jd]
 have e3:jd f (endT f b)=nth f.blocks b:=by simp[jd,endT]
 rw[xa,jm,e1,e2,e3,endS,Ik];cases hb:xl (nth f.blocks b).term with
 | false=>exact rfl
 | true=>
  have e4:((nth f.blocks b).term.to.all λt=>cr t 1 ((f.blocks.length:Int)-1))=!(nth f.blocks b).term.to.any (zE f):=by rw[<-Gw];congr 1;funext n;exact Md
  rw[e4];show Alike xw _ (qh f (endT f b) (.ok l));unfold qh;rw[e2,e3];cases (nth f.blocks b).term.to.any (zE f)with
  | true=>exact rfl
  | false=>exact h
theorem Fe{f:ak}(hp:0<=f.params):Alike xw (nN f (λ_=>UL)) (lu f):=by rw[zM,tu];refine tH (λt ht m l h=>Hr ht hp h) ⟨RS ..,λn h0 h1=>?_⟩;rw[aA (by rw[RS];omega),Ut];rfl
def E5 (t:Th):Option (Int × Int):=if t.blk<0 then UL else UK (t.blk,t.place)
structure Site (m:MW) (s:List Th):Prop where
 len:s.length=8192
 inn : ∀n:Int,0<=n->n<8192->m n=E5 (nth s n.toNat)
 out : ∀n:Int,¬(0<=n/\n<8192)->m n=UL
theorem DJ {t:Th} (hb:0<=t.blk) : ∀{l:List Int} {m:MW} {s:List Th},Site m s->(∀n∈l,0<=n/\n<8192)->Site (l.foldl (λm n=>putM m n (t.blk,t.place)) m) (l.foldl (fZ t) s)
 | [],m,s,h,_=>h
 | n::l,m,s,h,hl=>by
  rw[RB,RB];have hn:=hl n Q9;refine DJ hb ⟨pN.trans h.len,λk h0 h1=>?_,λk hk=>?_⟩ λk hk=>hl k (Q1 _ hk)
  ·unfold fZ putM;rw[if_pos hn,bS (by rw[h.len];omega)];by_cases e:k=n
   ·subst e;rw[if_pos rfl,if_pos rfl];unfold E5;rw[if_neg U1]
   rw[if_neg e,if_neg U1];exact h.inn k h0 h1
  unfold putM;rw[if_neg (by rintro rfl;exact hk hn)];exact h.out k hk
theorem DQ {b p:Int} : ∀{l:List Int} {m m':MW},l.foldlM (tg b p) m = .ok m'->m'=l.foldl (λm n=>putM m n (b,p)) m
 | [],m,m',h=>by cases h;rfl
 | n::l,m,m',h=>by
  rw[SA]at h;cases e:tg b p m n with
  | error t=>rw[e]at h;cases h
  | ok m1=>
   rw[e]at h;unfold tg at e;split at e
   ·cases e
   cases e;exact DQ (l:=l) (m:=putM m n (b,p)) h
theorem EG{ps b p:Int}{l:List Int}{m m':MW}(h:allS ps l b p m = .ok m'):m'=l.foldl (λm n=>putM m n (b,p)) m/\∀n∈l,ps<=n/\n<=8191:=by
 unfold allS at h;split at h
 ·rename_i ha;refine⟨DQ h,λn hn=>?_⟩;have:=RN.1 ha n hn;simpa[cr]using this
 cases h
theorem Jt{f:ak}{t:Th}(ht:t∈aC f){m m':MW}(h:lV f m t = .ok m'):(m'=t.mks.foldl (λm n=>putM m n (t.blk,t.place)) m/\∀n∈t.mks,f.params<=n/\n<=8191)/\0<=t.blk:=by
 obtain⟨b,hb,ht⟩:=jF.1 ht;rcases lL.1 ht with⟨i,hi,rfl⟩ | ⟨i,hi,rfl⟩ | rfl
 ·rw[vN]at h;exact⟨EG h,by show 0<=(b:Int);omega⟩
 ·rw[wF hi]at h;unfold insS at h;split at h
  ·exact⟨EG h,by show 0<=(b:Int);omega⟩
  cases h
 rw[xa]at h;unfold endS at h;split at h
 ·split at h
  ·cases h;exact⟨⟨rfl,λn hn=>by cases hn⟩,by show 0<=(b:Int);omega⟩
  cases h
 cases h
theorem A4 {f:ak} (hp:0<=f.params) : ∀{l:List Th},(∀t∈l,t∈aC f)->∀{m m':MW} {s:List Th},Site m s->l.foldlM (lV f) m = .ok m'->Site m' (l.foldl tY s)
 | [],_,m,m',s,h,e=>by cases e;exact h
 | t::l,hl,m,m',s,h,e=>by
  rw[SA]at e;cases e1:lV f m t with
  | error x=>rw[e1]at e;cases e
  | ok m1=>rw[e1]at e;obtain⟨⟨q1,q2⟩,q3⟩:=Jt (hl t Q9) e1;rw[RB];refine A4 hp (λt ht=>hl t (Q1 _ ht)) (m:=m1) ?_ e;rw[q1];exact DJ q3 h λn hn=>by have:=q2 n hn;omega
theorem Hq{f:ak}(hp:0<=f.params){m:MW}(h:nN f (λ_=>UL) = .ok m):Site m (jy f):=by rw[zM]at h;refine A4 hp (λt ht=>ht) ⟨RS ..,λn h0 h1=>?_,λn _=>rfl⟩ h;rw[aA (by rw[RS];omega),Ut];rfl
theorem yw{f:ak}{m:MW}{made:List Th}{away:List BL}{idom:List Int}{v blk place at_ told:Int}(hp:f.params<=8192)(hs:Site m made)(hd : ∀a:Int,0<=a->a<f.blocks.length->eJ idom a blk=!nth (nth away a.toNat) blk.toNat)(hm : ∀i,i<8192->(nth made i).blk<f.blocks.length):useS f.params m idom v blk place at_ told=if(!jo f made away v blk at_) then .error (13,told,place) else .ok ():=by
 unfold useS;by_cases c1:0<=v/\v<f.params
 ·have e:jo f made away v blk at_=true:=by unfold jo;rw[if_pos c1]
  rw[if_pos c1,e];rfl
 rw[if_neg c1];by_cases c2:v<0\/8191<v
 ·have e:jo f made away v blk at_=false:=by unfold jo;rw[if_neg c1,if_pos (.inl c2)]
  rw[hs.out v U1,e];rfl
 have e:jo f made away v blk at_=if(nth made v.toNat).blk<0 then UP else if(nth made v.toNat).blk=blk then decide ((nth made v.toNat).place<0)||decide ((nth made v.toNat).place<at_) else !nth (nth away (nth made v.toNat).blk.toNat) blk.toNat:=by
  unfold jo;rw[if_neg c1];by_cases c3:(nth made v.toNat).blk<0
  ·rw[if_pos (.inr c3),if_pos c3]
  rw[if_neg (by rintro(q | q)<;>contradiction),if_neg c3]
 rw[hs.inn v U1 U1,e];have hmb:=hm v.toNat U1;generalize nth made v.toNat=t at hmb;unfold E5;by_cases c3:t.blk<0
 ·rw[if_pos c3,if_pos c3];rfl
 rw[if_neg c3,if_neg c3];have e2:mE (t.blk,t.place) idom blk at_=if t.blk=blk then decide (t.place<0)||decide (t.place<at_) else !nth (nth away t.blk.toNat) blk.toNat:=by
  unfold mE;by_cases c4:t.blk=blk
  ·simp only[c4,decide_true,Te,Bool.not_true,Uy,Bool.or_false,if_true];rw[Bool.or_comm]
  simp only[c4,decide_false,Uy,Bool.not_false,Te,UA,if_false];exact hd t.blk U1 hmb
 simp only[e2];generalize (if t.blk=blk then decide (t.place<0)||decide (t.place<at_) else !nth (nth away t.blk.toNat) blk.toNat)=B;cases B<;>rfl
theorem yv[Inhabited α]{l:List α}{p:α->Bool}{e:Tr}{g:Nat->Except Tr Unit}(h : ∀j,j<l.length->g j=if p (nth l j) then .error e else .ok ()):uAll g l.length=if l.any p then .error e else .ok ():=by
 have h1:uAll g l.length=l.foldlM (fun(_:Unit) x=>if p x then Except.error e else .ok ()) ():=by
  unfold uAll;rw[<-qO (f:=fun(_:Unit) x=>if p x then Except.error e else .ok ())];have key : ∀n,n<=l.length->upE (λi (_:Unit)=>g i) n ()=upE (λi (_:Unit)=>if p (nth l i) then Except.error e else .ok ()) n ():=by
   intro n;induction n with
   | zero=>exact λ_=>rfl
   | succ n ih=>intro hn;simp only[upE];rw[ih U1,h n U1]
  exact key _ (QY _)
 rw[h1];clear h1 h;induction l with
 | nil=>rfl
 | cons a l ih=>
  rw[SA,List.any_cons];cases hp:p a with
  | true=>rfl
  | false=>rw[UA];exact ih
theorem FW{β:Type}{p q:Nat->Bool}{x:Nat->β}{n:Nat}(h : ∀a,a<n->p a=q a):sift p x n=sift q x n:=by rw[sZ,sZ];congr 1;exact TM λa ha=>h a (SB.1 ha)
theorem F0{f:ak}(hb:b<f.blocks.length):nth (dO (ofG f.blocks)) b=dm f b:=by rw[DX,wy,pS,gE hb,dm];refine FW λa ha=>?_;rw[RH,uO,decide_eq_true_eq,Ru];exact⟨λh=>h.2,λh=>⟨by omega,h⟩⟩
theorem Ie{f:ak}{i:Nat}(hb:b<f.blocks.length):Ez (nth (nth f.blocks b).phis i) (nth (dO (ofG f.blocks)) b) b=uI f (phiT f b i):=by
 have e1:tj f (phiT f b i)=nth (nth f.blocks b).phis i:=by unfold tj jd phiT;simp only[Ru];rw[show(-1-(-1-(i:Int))).toNat=i by omega]
 have e2:(phiT f b i).blk=(b:Int):=rfl;unfold Ez lU uI;rw[e1,e2,F0 hb];generalize nth (nth f.blocks b).phis i=x;generalize dm f b=row;rw[RH];simp only[Q4,decide_eq_true_eq,Gp,Bh];constructor
 ·rintro⟨⟨h1,h2⟩,h3⟩;refine⟨by omega,S1 U9 λj hj hj2=>?_⟩;have:=h3 j (by simpa using hj);rw[aA hj2,aA (by simpa using hj)]at this;simpa using this
 rintro⟨h1,h2⟩;have hl:x.ins.length=row.length:=by rw[<-h2,Sw]
 refine⟨U6,λj hj=>?_⟩;rw[<-h2,aA (l:=List.map InD.frm x.ins) (by rw[Sw];exact hj),aA hj];simp
theorem yB{f:ak}: ∀i,i<8192->(nth (jy f) i).blk<f.blocks.length:=λi hi=>HF U1 (λt ht=>by
 obtain⟨b,hb,ht⟩:=jF.1 ht;rcases lL.1 ht with⟨i,hi,rfl⟩ | ⟨i,hi,rfl⟩ | rfl
 ·show(b:Int)<_;omega
 ·show(b:Int)<_;omega
 show(b:Int)<_;omega) hi
section
variable {f:ak} {m:MW} {idom:List Int} (hp0:f.params<=8192) (hs:Site m (jy f)) (hd : ∀a b:Int,0<=a->a<f.blocks.length->0<=b->b<f.blocks.length->eJ idom a b=!nth (nth (iF f) a.toNat) b.toNat)
include hp0 hs hd
theorem Lq{i:Nat}(hb:b<f.blocks.length)(hi:i<(nth f.blocks b).phis.length):phiU f m idom (dO (ofG f.blocks)) b i=gQ f (jy f) (iF f) (phiT f b i):=by
 have hf:=Ie (f:=f) (i:=i) hb;have e1:tj f (phiT f b i)=nth (nth f.blocks b).phis i:=by unfold tj jd phiT;simp only[Ru];rw[show(-1-(-1-(i:Int))).toNat=i by omega]
 have e3:gQ f (jy f) (iF f) (phiT f b i)=if !uI f (phiT f b i) then .error (16,b,-1-i) else if(nth (nth f.blocks b).phis i).ins.any (stP f (jy f) (iF f)) then .error (13,b,-1-i) else .ok ():=by unfold gQ;rw[if_neg (show ¬0<=(phiT f b i).place by show ¬0<=-1-(i:Int);omega),e1];rfl
 rw[e3];unfold phiU;simp only[hf];cases hss:uI f (phiT f b i)with
 | false=>rfl
 | true=>
  rw[if_pos rfl,if_neg U2];refine yv λj hj=>?_;have hfr:0<=(nth (nth (nth f.blocks b).phis i).ins j).frm/\(nth (nth (nth f.blocks b).phis i).ins j).frm<f.blocks.length:=by unfold uI at hss;rw[e1]at hss;simp only[Q4,decide_eq_true_eq]at hss;have hm:=Tz (f:=InD.frm) (bo hj);rw[hss.2]at hm;obtain⟨a,h1,_,h2⟩:=rU.1 hm;omega
  rw[yw hp0 hs (λa h0 h1=>hd a _ h0 h1 hfr.1 hfr.2) yB];rfl
theorem LG{i:Nat}(hb:b<f.blocks.length)(hi:i<(nth f.blocks b).ins.length):insU f m idom b i=gQ f (jy f) (iF f) (insT f b i):=by
 have e3:gQ f (jy f) (iF f) (insT f b i)=if(nth (nth f.blocks b).ins i).args.any (stT f (jy f) (iF f) (insT f b i)) then .error (13,b,i) else .ok ():=by unfold gQ;rw[if_pos (show 0<=(insT f b i).place by show 0<=(i:Int);omega)];rfl
 rw[e3];unfold insU;refine yv λj hj=>?_;rw[yw hp0 hs (λa h0 h1=>hd a _ h0 h1 U1 U1) yB];rfl
theorem MM(hb:b<f.blocks.length):endU f m idom b=gQ f (jy f) (iF f) (endT f b):=by
 have e3:gQ f (jy f) (iF f) (endT f b)=if(nth f.blocks b).term.args.any (stT f (jy f) (iF f) (endT f b)) then .error (13,b,(nth f.blocks b).ins.length) else .ok ():=by unfold gQ;rw[if_pos (show 0<=(endT f b).place by show 0<=((nth f.blocks b).ins.length:Int);omega)];rfl
 rw[e3];unfold endU;refine yv λj hj=>?_;rw[yw hp0 hs (λa h0 h1=>hd a _ h0 h1 U1 U1) yB];rfl
def stF (f:ak) (_:Unit) (t:Th):Except Tr Unit:=gQ f (jy f) (iF f) t
theorem MX(hb:b<f.blocks.length):blkU f m idom (dO (ofG f.blocks)) b=(thB f b).foldlM (stF f) ():=by
 unfold blkU thB uAll;rw[pE (f:=stF f) (x:=phiT f b) (n:=(nth f.blocks b).phis.length) λi s hi=>Lq hp0 hs hd hb hi];rw[pE (f:=stF f) (x:=insT f b) (n:=(nth f.blocks b).ins.length) λi s hi=>LG hp0 hs hd hb hi];rw[jZ,jZ,MM hp0 hs hd hb];cases (rows (phiT f b) (nth f.blocks b).phis.length).foldlM (stF f) ()with
 | error e=>rfl
 | ok m1=>
  obtain⟨⟩:=m1;cases hI:(rows (insT f b) (nth f.blocks b).ins.length).foldlM (stF f) ()with
  | error e=>simp only[andE,hI]
  | ok m2=>simp only[andE,hI];rw[uh];rfl
theorem Ii:uAll (blkU f m idom (dO (ofG f.blocks))) f.blocks.length=EK f:=by
 have key : ∀n,n<=f.blocks.length->uAll (blkU f m idom (dO (ofG f.blocks))) n=(thTo f n).foldlM (stF f) ():=by
  intro n;induction n with
  | zero=>exact λ_=>rfl
  | succ n ih=>
   intro hn;rw[iA,jZ,<-ih U1];have e:uAll (blkU f m idom (dO (ofG f.blocks))) (n+1)=match uAll (blkU f m idom (dO (ofG f.blocks))) n with | .ok _=>blkU f m idom (dO (ofG f.blocks)) n | .error e=>.error e:=by show upE _ (n+1) ()=_;simp only[upE];unfold uAll;cases upE (λi (_:Unit)=>blkU f m idom (dO (ofG f.blocks)) i) n ()<;>rfl
   rw[e];cases uAll (blkU f m idom (dO (ofG f.blocks))) n with
   | error e=>rfl
   | ok s=>exact MX hp0 hs hd U1
 rw[key _ (QY _)];exact(qO (f:=stF f)).symm
end
theorem Ay {f:ak} : ∀k,manyN f k=(yE f k:Int)
 | 0=>rfl
 | k+1=>by have ih:=Ay (f:=f) k;unfold manyN at ih ⊢;rw[up,ih,yE];omega
theorem Ba {σ ε:Type} {f g:Nat->σ->Except ε σ} {s:σ} : ∀{n:Nat},(∀i s,i<n->f i s=g i s)->upE f n s=upE g n s
 | 0,_=>rfl
 | n+1,h=>by
  simp only[upE];rw[Ba (n:=n) λi s hi=>h i s U1];cases upE g n s with
  | ok s'=>exact h n s' U1
  | error e=>rfl
theorem yh {f:Nat->Unit->Except Tr Unit} : ∀{n:Nat},upE f n () = .ok ()->∀i,i<n->f i () = .ok ()
 | n+1,h,i,hi=>by
  simp only[upE]at h;cases e:upE f n ()with
  | error t=>rw[e]at h;cases h
  | ok s=>
   rw[e]at h;rcases Q5 i n with hlt | hge
   ·exact yh e i hlt
   have:i=n:=by omega
   subst this;exact h
theorem JD{f:ak}(hn:0<f.blocks.length):uAll (wM f) f.blocks.length=wayE f:=by
 unfold uAll wayE;refine Ba λb s hb=>?_;unfold wM;have e:decide ((b:Int)∈bJ (ofG f.blocks))=nth (eW f (-1)) b:=by rw[RH,decide_eq_true_eq,(kS (by rw[pS];exact hn)).mem,kG hb]
 rw[e]
theorem JL{f:ak}(hn:0<f.blocks.length)(hw:wayE f = .ok ())(a b:Int)(h0:0<=a)(h1:a<f.blocks.length)(h2:0<=b)(h3:b<f.blocks.length):
  eJ (te (ofG f.blocks)) a b=!nth (nth (iF f) a.toNat) b.toNat:=by
 have hR : ∀x:Nat,x<f.blocks.length->Re (ofG f.blocks) (-1) x:=λx hx=>by
  have:=yh hw x hx;rw[<-kG hx];split at this
  ·assumption
  cases this
 have hg:0<(ofG f.blocks).length:=by rw[pS];exact hn
 obtain⟨fp,C,l,hl,I⟩:=Au hg;have hi:te (ofG f.blocks)=l:=by unfold te;rw[hl];rfl
 rw[hi];have e:=uS I C (a:=a.toNat) (b:=b.toNat) (by rw[pS];omega) (hR _ U1);rw[Rt h0,Rt h2]at e;rw[e,RH,rz];have ha:nth (iF f) a.toNat=eW f a:=by unfold iF;rw[gE U1,Rt h0]
 rw[ha];have hr:=kG (f:=f) (wo:=a) (b:=b.toNat) U1;have haa:((a.toNat:Nat):Int)=a:=Rt h0;rw[haa];cases hc:nth (eW f a) b.toNat with
 | true=>rw[hc]at hr;simp[hr.1 rfl]
 | false=>
  rw[hc]at hr;have hnr:¬Re (ofG f.blocks) a b.toNat:=λh=>by have:=hr.2 h;cases this
  simp[hnr,hR _ (show a.toNat<f.blocks.length by omega),hR _ (show b.toNat<f.blocks.length by omega)]
theorem HI(f:ak):lS f=y3 f:=by
 unfold lS nI y3;by_cases c1:f.params<0\/4<f.params
 ·have:cr f.params 0 4=false:=by rw[Tj];simp[cr];omega
  rw[if_pos this,if_pos c1]
 have hw4:¬cr f.params 0 4=false:=by simp[cr];omega
 rw[if_neg hw4,if_neg c1];by_cases c2:f.blocks.length=0
 ·rw[if_pos c2,if_pos c2]
 rw[if_neg c2,if_neg c2];have hm:GP f=(yE f f.blocks.length:Int):=Ay _;by_cases c3:512<f.blocks.length\/4096<yE f f.blocks.length
 ·rw[if_pos (by rw[hm];omega),if_pos c3]
 rw[if_neg (by rw[hm];omega),if_neg c3];have hp:0<=f.params:=by omega
 have hsh:=Fe hp;cases hS:nN f (λ_=>UL)with
 | error e=>
  cases hR:lu f with
  | ok l=>rw[hS,hR]at hsh;exact hsh.elim
  | error e'=>rw[hS,hR]at hsh;have hee:e=e':=hsh;subst hee;obtain⟨k,s',h1,_,h3⟩:=sv hR;have:=(xh h3).1;rw[if_pos (by show e.1≠0;omega)];rfl
 | ok m=>
  cases hR:lu f with
  | error e'=>rw[hS,hR]at hsh;exact hsh.elim
  | ok l=>
   rw[if_neg (by simp[AH])];have hs:=Hq hp hS;show(match uV f m (te (ofG f.blocks))with | .ok _=>((0,0,0):Tr) | .error t=>t)=_;unfold uV;rw[JD U1];cases hW:wayE f with
   | error e=>rfl
   | ok s=>obtain⟨⟩:=s;have:=Ii (f:=f) (m:=m) (idom:=te (ofG f.blocks)) U1 hs λa b h0 h1 h2 h3=>JL U1 hW a b h0 h1 h2 h3;show(match uAll (blkU f m (te (ofG f.blocks)) (dO (ofG f.blocks))) f.blocks.length with | .ok _=>((0,0,0):Tr) | .error t=>t)=AH (EK f);rw[this];cases EK f<;>rfl
def Marks (m:BL) (S:Int->Prop):Prop:=m.length=8192/\∀n:Int,0<=n->n<8192->(nth m n.toNat=UO↔S n)
theorem F9:Marks (List.replicate 8192 UP) (λ_=>False):=⟨RS,λn h0 h1=>by rw[aD U1];simp⟩
theorem He{m:BL}{S:Int->Prop}(h:Marks m S)(h0:0<=n)(h1:n<8192):Marks (m.set n.toNat UO) (λk=>S k\/k=n):=by
 refine⟨by simpa using h.1,λk k0 k1=>?_⟩;rw[bS (by rw[h.1];omega)];split
 ·rename_i e;exact⟨λ_=>.inr U1,λ_=>rfl⟩
 rename_i e;rw[h.2 k k0 k1];exact⟨.inl,λo=>o.resolve_right (by rintro rfl;exact e rfl)⟩
theorem Marks.congr{m:BL}{S T:Int->Prop}(h:Marks m S)(he : ∀n,S n↔T n):Marks m T:=⟨h.1,λn a b=>(h.2 n a b).trans (he n)⟩
theorem yR {t:Th} : ∀{l:List Int} {m m':BL} {S:Int->Prop},Marks m S->(∀n∈l,0<=n/\n<8192)->l.foldlM (oD t) m = .ok m'->Marks m' (λk=>S k\/k∈l)/\l.Nodup/\∀n∈l,¬S n
 | [],m,m',S,h,_,e=>by cases e;exact⟨h.congr λn=>by simp,TI,λn hn=>by cases hn⟩
 | a::l,m,m',S,h,hl,e=>by
  rw[SA]at e;have ha:=hl a Q9;unfold oD at e;by_cases hc:nth m a.toNat=UO
  ·rw[if_pos hc]at e;cases e
  rw[if_neg hc]at e;obtain⟨g1,g2,g3⟩:=yR (He h ha.1 ha.2) (λn hn=>hl n (Q1 _ hn)) e;refine⟨g1.congr λn=>by rw[Rm,or_assoc],SX.2 ⟨λhm=>g3 a hm (.inr rfl),g2⟩,λn hn=>?_⟩;rcases Rm.1 hn with rfl | hn
  ·exact λhs=>hc ((h.2 n ha.1 ha.2).2 hs)
  exact λhs=>g3 n hn (.inl hs)
structure Cm (f:ak) (t:Th):Prop where
 op:uq f t=UO->yF (Ek f t)=UP
 term:oJ f t=UO->xl (jd f t).term=UO
 mks : ∀n∈t.mks,f.params<=n/\n<=8191
 to:oJ f t=UO->∀n∈(jd f t).term.to,1<=n/\n<f.blocks.length
theorem KP{t:Th}{m:BL}:upE (sN t) t.mks.length m=t.mks.foldlM (oD t) m:=qO (f:=oD t)
theorem any_false{p:α->Bool}{l:List α}:l.any p=UP↔∀n∈l,p n=false:=by rw[List.any_eq_false];exact forall_congr' λn=>forall_congr' λ_=>by simp
theorem JW{f:ak}:oK f n=UP↔f.params<=n/\n<=8191:=by simp[oK]
theorem Mi{f:ak}:zE f n=UP↔1<=n/\n<f.blocks.length:=by simp[zE]
theorem Fh{f:ak}{t:Th}{m m':BL}(h:jm f t m = .ok m'):Cm f t/\t.mks.foldlM (oD t) m = .ok m':=by
 unfold jm at h;split at h
 ·cases h
 rename_i c1;split at h
 ·cases h
 rename_i c2;split at h
 ·cases h
 rename_i c3;rw[KP]at h;unfold qh at h;split at h
 ·cases h
 rename_i m1 e;split at h
 ·cases h
 rename_i c4;cases h;refine⟨⟨λg=>?_,λg=>?_,λn hn=>?_,λg n hn=>?_⟩,e⟩
 ·simpa[g]using c1
 ·simpa[g]using c2
 ·exact JW.1 (any_false.1 (by simpa only[Bool.not_eq_true]using c3) n hn)
 refine Mi.1 (any_false.1 (by simpa only[g,Te,Bool.not_eq_true]using c4) n hn)
def JO (l:List Th):List Int:=l.flatMap Th.mks
theorem xx {f:ak} (hp:0<=f.params) : ∀{l:List Th} {m m':BL} {S:Int->Prop},Marks m S->l.foldlM (λm t=>jm f t m) m = .ok m'->(∀t∈l,Cm f t)/\(JO l).Nodup/\∀n∈JO l,¬S n
 | [],m,m',S,h,e=>⟨λt ht=>(by cases ht),TI,λn hn=>(by cases hn)⟩
 | t::l,m,m',S,h,e=>by
  rw[SA]at e;cases e1:jm f t m with
  | error x=>rw[e1]at e;cases e
  | ok m1=>
   rw[e1]at e;obtain⟨g,e2⟩:=Fh e1;obtain⟨k1,k2,k3⟩:=yR h (λn hn=>by have:=g.mks n hn;omega) e2;obtain⟨i1,i2,i3⟩:=xx hp k1 e;refine⟨λx hx=>?_,?_,λn hn=>?_⟩
   ·rcases Rm.1 hx with rfl | hx
    ·exact g
    exact i1 x hx
   ·refine SJ.2 ⟨k2,i2,λa ha b hb=>?_⟩;rintro rfl;exact i3 a hb (.inr ha)
   rcases Q6.1 hn with hn | hn
   ·exact k3 n hn
   exact λhs=>i3 n hn (.inl hs)
def BT (f:ak) (v b p:Int):Prop:=(0<=v/\v<f.params)\/∃t∈aC f,v∈t.mks/\(t.blk=b/\(t.place<0\/t.place<p)\/t.blk≠b/\¬Re (ofG f.blocks) t.blk b.toNat)
structure KX (ts:List Th) (s:List Th):Prop where
 len:s.length=8192
 is : ∀n:Int,0<=n->n<8192->(nth s n.toNat=noTh/\∀t∈ts,n∉t.mks)\/(nth s n.toNat∈ts/\n∈(nth s n.toNat).mks)
theorem D8 {t:Th} {ts:List Th} : ∀{l:List Int} {s:List Th} {d:List Int},(∀n∈l,n∈t.mks)->(s.length=8192/\∀n:Int,0<=n->n<8192->(nth s n.toNat=noTh/\(∀t∈ts,n∉t.mks)/\n∉d)\/(nth s n.toNat∈ts++[t]/\n∈(nth s n.toNat).mks))->
  ((l.foldl (fZ t) s).length=8192/\∀n:Int,0<=n->n<8192->(nth (l.foldl (fZ t) s) n.toNat=noTh/\(∀t∈ts,n∉t.mks)/\n∉d++l)\/(nth (l.foldl (fZ t) s) n.toNat∈ts++[t]/\n∈(nth (l.foldl (fZ t) s) n.toNat).mks))
 | [],s,d,_,h=>by simpa using h
 | a::l,s,d,hl,h=>by
  rw[RB];have:=D8 (t:=t) (ts:=ts) (l:=l) (s:=fZ t s a) (d:=d++[a]) (λn hn=>hl n (Q1 _ hn)) ⟨by rw[pN];exact h.1,λn h0 h1=>?_⟩
  ·simpa using this
  unfold fZ;split
  ·rw[bS (by rw[h.1];omega)];split
   ·rename_i hc e;have:n=a:=by omega
    subst this;exact .inr ⟨Si _ (Q2.2 rfl),hl n Q9⟩
   rename_i hc e;rcases h.2 n h0 h1 with⟨a1,a2,a3⟩ | a1
   ·refine .inl ⟨a1,a2,?_⟩;rw[Q6,Q2];rintro(q | rfl)
    ·exact a3 q
    exact e rfl
   exact .inr a1
  rename_i hc;rcases h.2 n h0 h1 with⟨a1,a2,a3⟩ | a1
  ·refine .inl ⟨a1,a2,?_⟩;rw[Q6,Q2];rintro(q | rfl)
   ·exact a3 q
   exact hc ⟨h0,h1⟩
  exact .inr a1
theorem Er : ∀{l ts s:List Th},KX ts s->KX (ts++l) (l.foldl tY s)
 | [],ts,s,h=>by simpa using h
 | t::l,ts,s,h=>by
  rw[RB];have:=D8 (t:=t) (ts:=ts) (l:=t.mks) (s:=s) (d:=[]) (λn hn=>hn) ⟨h.len,λn h0 h1=>(h.is n h0 h1).elim (λa=>.inl ⟨a.1,a.2,Tv⟩) λa=>.inr ⟨Sk _ a.1,a.2⟩⟩;have:=Er (l:=l) (ts:=ts++[t]) (s:=tY s t) ⟨this.1,λn h0 h1=>(this.2 n h0 h1).elim (λa=>.inl ⟨a.1,λx hx=>?_⟩) .inr⟩
  ·simpa using this
  rcases Q6.1 hx with hx | hx
  ·exact a.2.1 x hx
  rw[Q2.1 hx];simpa using a.2.2
theorem Ip{f:ak}:KX (aC f) (jy f):=
 Er (l:=aC f) (ts:=[]) (s:=List.replicate 8192 noTh) ⟨RS,λn h0 h1=>.inl ⟨aD U1,λt ht=>by cases ht⟩⟩
theorem Dg{f:ak}{t:Th}(h:t∈aC f):0<=t.blk/\t.blk<f.blocks.length:=by obtain⟨b,hb,ht⟩:=jF.1 h;rcases lL.1 ht with⟨i,hi,rfl⟩ | ⟨i,hi,rfl⟩ | rfl<;>exact⟨Int.natCast_nonneg _,Int.ofNat_lt.2 hb⟩
theorem Lw{f:ak}{a b:Int}(h0:0<=a)(h1:a<f.blocks.length)(h2:0<=b)(h3:b<f.blocks.length):nth (nth (iF f) a.toNat) b.toNat=UO↔Re (ofG f.blocks) a b.toNat:=by unfold iF;rw[gE U1,Rt h0];exact kG U1
theorem AQ{f:ak}{v b p:Int}(hb0:0<=b)(hb1:b<f.blocks.length)(h:jo f (jy f) (iF f) v b p=UO):BT f v b p:=by
 unfold jo at h;split at h
 ·rename_i c;exact .inl c
 split at h
 ·cases h
 rename_i c1 c2;rcases Ip.is v U1 U1 with⟨e,_⟩ | ⟨hm,hv⟩
 ·exact absurd (.inr (by rw[e];decide)) c2
 have hat:=Dg hm;refine .inr ⟨_,hm,hv,?_⟩;split at h
 ·rename_i e;exact .inl ⟨e,by simpa using h⟩
 rename_i e;refine .inr ⟨e,λhr=>?_⟩;rw[(Lw hat.1 hat.2 hb0 hb1).2 hr]at h;cases h
structure np (f:ak):Prop where
 params:0<=f.params/\f.params<=4
 blocks:0<f.blocks.length/\f.blocks.length<=512
 cnt:yE f f.blocks.length<=4096
 good : ∀t∈aC f,Cm f t
 nodup:(JO (aC f)).Nodup
 way : ∀b:Nat,b<f.blocks.length->Re (ofG f.blocks) (-1) b
 takes : ∀t∈aC f,0<=t.place->∀v∈t.tks,BT f v t.blk t.place
 phi : ∀b i:Nat,b<f.blocks.length->i<(nth f.blocks b).phis.length->0<b/\(nth (nth f.blocks b).phis i).ins.map InD.frm=dm f b/\∀p∈(nth (nth f.blocks b).phis i).ins,BT f p.val p.frm (F8 f p.frm)
theorem Kn{f:ak}{b x:Int}:x∈dm f b↔(0<=x/\x<f.blocks.length)/\b∈(nth f.blocks x.toNat).term.to:=by
 unfold dm;rw[rU];constructor
 ·rintro⟨a,ha,hb,rfl⟩;exact⟨U6,by simpa using hb⟩
 rintro⟨⟨h0,h1⟩,h⟩;exact⟨x.toNat,by omega,by simpa using h,by omega⟩
theorem DR{f:ak}{t:Th}:gQ f (jy f) (iF f) t = .ok ()↔
  (0<=t.place/\∀v∈t.tks,jo f (jy f) (iF f) v t.blk t.place=UO)\/(t.place<0/\uI f t=UO/\∀p∈(tj f t).ins,jo f (jy f) (iF f) p.val p.frm (F8 f p.frm)=UO):=by
 unfold gQ;by_cases h0:0<=t.place
 ·rw[if_pos h0];have hn:¬t.place<0:=by omega
  simp only[h0,hn,true_and,false_and,or_false];cases e:t.tks.any (stT f (jy f) (iF f) t)with
  | true=>
   obtain⟨v,hv,hs⟩:=TZ.1 e;constructor
   ·intro h;cases h
   intro h;unfold stT at hs;rw[h v hv]at hs;cases hs
  | false=>
   constructor
   ·intro _ v hv;have:=any_false.1 e v hv;simpa[stT]using this
   intro _;rfl
 rw[if_neg h0];have hn:t.place<0:=by omega
 simp only[h0,hn,true_and,false_and,false_or];cases e1:uI f t with
 | false=>simp
 | true=>
  rw[if_neg U2];cases e:(tj f t).ins.any (stP f (jy f) (iF f))with
  | true=>
   obtain⟨v,hv,hs⟩:=TZ.1 e;constructor
   ·intro h;cases h
   rintro⟨_,h⟩;unfold stP at hs;rw[h v hv]at hs;cases hs
  | false=>
   constructor
   ·intro _;refine⟨rfl,λv hv=>?_⟩;have:=any_false.1 e v hv;simpa[stP]using this
   intro _;rfl
theorem I1{f:ak}{i:Nat}:tj f (phiT f b i)=nth (nth f.blocks b).phis i:=by unfold tj jd phiT;dsimp only;rw[Ru];congr 1;omega
theorem ON{f:ak}(h:(lS f).1=0):np f:=by
 rw[HI]at h;unfold y3 at h;split at h
 ·cases h
 rename_i c1;split at h
 ·cases h
 rename_i c2;split at h
 ·cases h
 rename_i c3;cases hs:lu f with
 | error e=>obtain⟨k,s',_,_,h3⟩:=sv (show upE _ _ _=_ from hs);have:=(xh h3).1;rw[hs]at h;rw[if_pos (by show e.1≠0;omega)]at h;have h:e.1=0:=h;omega
 | ok m=>
  rw[hs,if_neg (by simp[AH])]at h;obtain⟨g1,g2,_⟩:=xx (f:=f) U1 F9 (by rw[<-tu];exact hs);cases hw:wayE f with
  | error e=>
   rw[hw]at h;obtain⟨k,s',_,_,h3⟩:=sv (show upE _ _ _=_ from hw);split at h3
   ·cases h3
   cases h3;exact absurd (show(15:Int)=0 from h) U3
  | ok u=>
   obtain⟨⟩:=u;rw[hw]at h;cases hu:EK f with
   | error e=>
    rw[hu]at h;obtain⟨k,s',_,_,h3⟩:=sv (show upE _ _ _=_ from hu);have h:e.1=0:=h;unfold gQ at h3;repeat' split at h3
    all_goals first | (cases h3;done) | (cases h3;first | exact absurd (show(13:Int)=0 from h) U3 | exact absurd (show(16:Int)=0 from h) U3)
   | ok u=>
    obtain⟨⟩:=u;have hst : ∀t∈aC f,gQ f (jy f) (iF f) t = .ok ():=λt ht=>by obtain⟨i,hi,e⟩:=RC ht;have:=yh hu i hi;rw[aA hi,e]at this;exact this
    refine⟨by omega,by omega,by omega,g1,g2,λb hb=>?_,λt ht h0 v hv=>?_,λb i hb hi=>?_⟩
    ·have:=yh hw b hb;rw[<-kG hb];split at this
     ·assumption
     cases this
    ·have hat:=Dg ht;rcases DR.1 (hst t ht)with⟨_,k⟩ | ⟨k,_⟩
     ·exact AQ hat.1 hat.2 (k v hv)
     omega
    have ht:phiT f b i∈aC f:=jF.2 ⟨b,hb,lL.2 (.inl ⟨i,hi,rfl⟩)⟩;rcases DR.1 (hst _ ht)with⟨k,_⟩ | ⟨_,k1,k2⟩
    ·exact absurd k (by show ¬(0:Int)<=-1-(i:Int);omega)
    unfold uI at k1;rw[I1]at k1 k2;obtain⟨k3,k4⟩:=(Q4 _ _).mp k1;have k4:(nth (nth f.blocks b).phis i).ins.map InD.frm=dm f b:=of_decide_eq_true k4;have k3:(0:Int)<b:=of_decide_eq_true k3;refine⟨by omega,k4,λp hp=>?_⟩;have hm:p.frm∈dm f b:=by rw[<-k4];exact Tz hp
    have:=(Kn.1 hm).1;exact AQ this.1 this.2 (k2 p hp)
def mkL (vs:Value) (at_:Nat) (ps:Int) (vb:Value) (nx:Int) (vl:Value):List Value:=[vs,UH UI at_,UH UI ps,vb,UH UI nx,vl]
def rawV (s:List Int) (at_:Nat):Int:=if at_<s.length then nth s at_ else 0
def aT (s:List Int) (at_:Nat) (n:Int):Int:=((rawV s at_).tmod n+n).tmod n
theorem dv{s:List Int}{at_:Nat}(hn:0<n):0<=aT s at_ n/\aT s at_ n<n:=by have b1:=TE (rawV s at_) hn;exact⟨T3 _ U1,S9 _ hn⟩
theorem Ly{W:View}{h:Heap}{o:Own}{M at_:Nat}{vs vb vl:Value}{ps nx:Int}{s:List Int}(w:Owns W h o)(hk:o (0,0)=bx T.bz M (RawN.mk (n:=5) (mkL vs at_ ps vb nx vl)))(hs:SlRd W vs s)(h1:at_<=1000000000)(hn:0<n)(hn2:n<=1000000000):
  ay UQ 34 #[UN (UK ⟨M,0,UL⟩),UH UI n] h (λu h'=>u = UH UI (aT s at_ n)/\Owns W h' (o.upd (0,0) (bx T.bz M (RawN.mk (n:=5) (mkL vs (at_+1) ps vb nx vl))))):=by
 refine ao (args:=[UN (UK ⟨M,0,UL⟩),UH UI n]) follows Tryz.func34 E.jv UC λK hK=>?_;have c0:an (vw h) ⟨M,0,UL⟩=UK vs:=w.raw hk (i:=0) U3;have c1:an (vw h) ⟨M,1,UL⟩=UK (UH UI at_):=w.raw hk (i:=1) U3;dsimp only[L.jv,lkF,lkG];refine aa λz hz=>?_;simp;subst hz;refine aa λz hz=>?_;simp;subst hz;refine aa λz hz=>?_;have hsl : ∀{Q:View},Un.ev Q .len vs=UK (UH UI s.length):=fun{Q}=>hs.len;refine gD (λρ h2=>h2=h/\I64 (rawV s at_)/\ρ=[(0,UN (UK ⟨M,0,UL⟩)),(1,UH UI n),(4,UH UI 0),(5,UH UI (rawV s at_))]) ?_ ?_
 ·intro K2 hK2;by_cases c:at_<s.length
  ·have hs2:=hs.mono w.wle;have hr:=hs.range (i:=at_) c;have e:rawV s at_=nth s at_:=if_pos c;rw[e]at hK2;simp(disch:=omega)[c0,c1,hsl,c,hs2.idx1 rfl,hs2.int UE];exact hK2 _ _ ⟨rfl,hr,rfl⟩
  have e:rawV s at_=0:=if_neg c;rw[e]at hK2;simp[c0,c1,hsl,c];exact hK2 _ _ ⟨rfl,⟨U3,U3⟩,rfl⟩
 rintro _ h2 ⟨rfl,hx,rfl⟩;subst hz;refine aa λz hz=>?_;simp(disch:=omega)[c1];refine w.dS (k:=(0,0)) (n:=5) (i:=1) (e:=T.bz) (B:=M) (l:=mkL vs at_ ps vb nx vl) hk U3 U0 rfl rfl rfl λh3 w3 _=>?_;subst hz;have b1:=TE (rawV s at_) hn;have b2:=S9 (rawV s at_) hn;have hw:IntKind.i64.wrap ((rawV s at_).tmod n+n)=(rawV s at_).tmod n+n:=aS U1 U1;have hne:¬n=0:=by omega
 simp[hw,hne];refine hK _ _ ⟨rfl,w3.congr λq=>?_⟩;rfl
theorem Ex{W:View}{h:Heap}{o:Own}{M at_:Nat}{vs vb vl:Value}{ps nx:Int}(w:Owns W h o)(hk:o (0,0)=bx T.bz M (RawN.mk (n:=5) (mkL vs at_ ps vb nx vl)))(h0:0<=nx)(h1:nx<=1000000000):
  ay UQ 37 #[UN (UK ⟨M,0,UL⟩)] h (λu h'=>u = UH UI nx/\Owns W h' (o.upd (0,0) (bx T.bz M (RawN.mk (n:=5) (mkL vs at_ ps vb (nx+1) vl))))/\∀X:View,X.le (vw h)->X M=UL->X.le (vw h')):=by refine ao (args:=[UN (UK ⟨M,0,UL⟩)]) follows Tryz.func37 E.iO UC λK hK=>?_;have c4:an (vw h) ⟨M,4,UL⟩=UK (UH UI nx):=w.raw hk (i:=4) U3;dsimp only[L.iO,lkF,lkG];refine aa λz hz=>?_;simp;subst hz;refine aa λz hz=>?_;simp(disch:=omega)[c4];refine w.dS (k:=(0,0)) (n:=5) (i:=4) (e:=T.bz) (B:=M) (l:=mkL vs at_ ps vb nx vl) hk U3 U0 rfl rfl rfl λh3 w3 hx3=>?_;have w3:Owns W h3 (o.upd (0,0) (bx T.bz M (RawN.mk (n:=5) (mkL vs at_ ps vb (nx+1) vl)))):=w3;have c5:an (vw h3) ⟨M,4,UL⟩=UK (UH UI (nx+1)):=w3.raw Own.aq (i:=4) U3;subst hz;simp(disch:=omega)[c5];exact hK _ _ ⟨by congr 1,w3,hx3⟩
end Go.Proofs.YtmhnaeecolpfkaaGreatDoor
namespace Go.Lft
open Go
variable {po:OP}
theorem Oo {P:Program} {t ty:TypeId} {us:List (Nat × Value)} {h:Heap} {K:Value->Heap->Prop} {x:Operand} {n:Int} (hx:asg us x = UH UI n) (hk:K (UH UI (IntKind.i64.wrap (-n))) h):step P (.unOp .neg t x) ty us h K:=by refine dg (cH λw hw=>⟨UH UI (IntKind.i64.wrap (-n)),w,?_,Same.refl _,by rw[hw];exact hk⟩);simp only[bN,execOp,hx];simp[Op.unary,Op.intArith]
end Go.Lft
namespace Go.Proofs.YtmhnaeecolpfkaaGreatDoor
open Go Go.Lft
structure MS where
 at_:Nat
 ps:Int
 blocks:List BlkD
 next:Int
 live:List Int
def MS.took (m:MS):MS:={ m with at_:=m.at_+1 }
def MS.aV (m:MS):MS:={ m with next:=m.next+1 }
structure BlkM where
 phis:Raw
 ins:Raw
 term:de
instance:Rep BlkM:=Rep.via λd=>Cat.mk d.phis (Cat.mk d.ins d.term)
instance:Inhabited BlkM:=⟨⟨default,default,default⟩⟩
theorem BlkM.pY:Part BlkM Raw 0 BlkM.phis (λd x=>{ d with phis:=x }):=(Part.fst Part.all).via (λ_=>rfl) λ_ _=>rfl
theorem BlkM.ig:Part BlkM Raw 1 BlkM.ins (λd x=>{ d with ins:=x }):=(Part.snd (Part.fst Part.all)).via (λ_=>rfl) λ_ _=>rfl
theorem BlkM.mj:Part BlkM de 2 BlkM.term (λd x=>{ d with term:=x }):=(Part.snd (Part.snd Part.all)).via (λ_=>rfl) λ_ _=>rfl
theorem D1 {H:View} {cs:List Value} {d:BlkM} {p:List PhiD} {i:List InsD} (h:Rep.rd H cs d) (hp:SlRd H d.phis.v p) (hi:SlRd H d.ins.v i):Rep.rd H cs (BlkD.mk p i d.term):=by obtain⟨c1,r1,e1,⟨h1,_⟩,c2,r2,e2,⟨h2,_⟩,h3⟩:=h;have h1:c1=[d.phis.v]:=h1;have h2:c2=[d.ins.v]:=h2;exact⟨c1,r1,e1,⟨d.phis.v,h1,hp⟩,c2,r2,e2,⟨d.ins.v,h2,hi⟩,h3⟩
structure MkB (M:Nat) (vs:Value) (m:MS) (o:Own) (vb vl:Value) (lb:List BlkM):Prop where
 box:o (0,0)=bx T.bz M (RawN.mk (n:=5) (mkL vs m.at_ m.ps vb m.next vl))
 live:o (0,1)=it T.int vl m.live
 blk:o (0,2)=it T.eZ vb lb
 len:lb.length=m.blocks.length
 term : ∀i,i<m.blocks.length->(nth lb i).term=(nth m.blocks i).term
 phis : ∀i,i<m.blocks.length->o (1,i)=it T.iH (nth lb i).phis.v (nth m.blocks i).phis
 ins : ∀i,i<m.blocks.length->o (2,i)=it T.e9 (nth lb i).ins.v (nth m.blocks i).ins
structure Mk (s:List Int) (M:Nat) (vs:Value) (W:View) (h:Heap) (o:Own) (m:MS):Prop where
 own:Owns W h o
 src:SlRd W vs s
 box : ∃vb vl lb,MkB M vs m o vb vl lb
def Nx (s:List Int) (M:Nat) (vs:Value) (W:View) (h:Heap) (o:Own) (m:MS):Prop:=∃W' o',W.le W'/\Mk s M vs W' h o' m/\∀k:Key,3<=k.1->o' k=o k
variable {s:List Int} {M:Nat} {vs:Value} {W:View} {h:Heap} {o:Own} {m:MS}
theorem Mk.nx (w:Mk s M vs W h o m):Nx s M vs W h o m:=⟨W,o,View.le_refl _,w,λ_ _=>rfl⟩
theorem Nx.trans {W':View} {o':Own} (hW:W.le W') (ho : ∀k:Key,3<=k.1->o' k=o k) (n:Nx s M vs W' h o' m):Nx s M vs W h o m:=by obtain⟨W2,o2,h1,h2,h3⟩:=n;exact⟨W2,o2,UF hW h1,h2,λk hk=>(h3 k hk).trans (ho k hk)⟩
theorem MkB.at {vb vl:Value} {lb:List BlkM} (b:MkB M vs m o vb vl lb) {at_:Nat} {next:Int}:MkB M vs { m with at_:=at_,next:=next } (o.upd (0,0) (bx T.bz M (RawN.mk (n:=5) (mkL vs at_ m.ps vb next vl)))) vb vl lb:=
 ⟨rfl,b.live,b.blk,b.len,b.term,λi hi=>b.phis i hi,λi hi=>b.ins i hi⟩
theorem oY {k:Key} {i:Option Lft.Item} (hk:k.1<3) : ∀q:Key,3<=q.1->o.upd k i q=o q:=λq hq=>Own.aB λe=>by rw[e]at hq;omega
theorem fw {k:Key} {i j:Option Lft.Item} (q:Key):(o.upd k i).upd k j q=o.upd k j q:=by unfold Own.upd;split<;>rfl
theorem Mk.take (w:Mk s M vs W h o m) {n:Int} (h1:m.at_<=1000000000) (hn:0<n) (hn2:n<=1000000000) :
  ay UQ 34 #[UN (UK ⟨M,0,UL⟩),UH UI n] h (λu h'=>u = UH UI (aT s m.at_ n)/\∃o',Mk s M vs W h' o' m.took/\∀k:Key,3<=k.1->o' k=o k):=by obtain⟨vb,vl,lb,b⟩:=w.box;refine(Ly w.own b.box w.src h1 hn hn2).mono ?_;rintro u h' ⟨rfl,w2⟩;exact⟨rfl,_,⟨w2,w.src,vb,vl,lb,b.at⟩,oY U3⟩
theorem Mk.fresh (w:Mk s M vs W h o m) (h0:0<=m.next) (h1:m.next<=1000000000) :
  ay UQ 37 #[UN (UK ⟨M,0,UL⟩)] h (λu h'=>u = UH UI m.next/\∃o',Mk s M vs W h' o' m.aV/\∀k:Key,3<=k.1->o' k=o k):=by obtain⟨vb,vl,lb,b⟩:=w.box;refine(Ex w.own b.box h0 h1).mono ?_;rintro u h' ⟨rfl,w2,-⟩;exact⟨rfl,_,⟨w2,w.src,vb,vl,lb,b.at⟩,oY U3⟩
theorem oh {x:Int}:-2147483648<=IntKind.i32.wrap x/\IntKind.i32.wrap x<=2147483647:=by rw[IntKind.wrap_i32];omega
def me (s:List Int) (m:MS):Int:=
 if aT s (m.at_+1) 8=0 then IntKind.i32.wrap (IntKind.i64.wrap (aT s m.at_ 1048576*4099))
 else if aT s (m.at_+1) 8=1 then IntKind.i32.wrap (IntKind.i64.wrap (-aT s m.at_ 1048576))
 else if aT s (m.at_+1) 8=2 then -2147483648
 else if aT s (m.at_+1) 8=3 then IntKind.i32.wrap ((aT s m.at_ 1048576).tmod 70000)
 else IntKind.i32.wrap (IntKind.i64.wrap ((aT s m.at_ 1048576).tmod 20-4))
theorem sE:-2147483648<=me s m/\me s m<=2147483647:=by
 unfold me;repeat' split
 all_goals first | exact oh | decide
theorem Mk.word (w:Mk s M vs W h o m) (h1:m.at_<=999999990) :
  ay UQ 44 #[UN (UK ⟨M,0,UL⟩)] h (λu h'=>u = UH UJ (me s m)/\∃o',Mk s M vs W h' o' m.took.took/\∀k:Key,3<=k.1->o' k=o k):=by
 refine ao (args:=[UN (UK ⟨M,0,UL⟩)]) follows Tryz.func44 E.jk UC λK hK=>?_;dsimp only[L.jk,lkF,lkG];refine aa λz hz=>?_;simp;subst hz;refine aa λz hz=>?_;simp;refine ah U0 (w.take U1 (n:=1048576) U3 U3) ?_;rintro _ h2 ⟨rfl,o2,w2,f2⟩;subst hz;refine aa λz hz=>?_;simp;refine ah U0 (w2.take (show m.at_+1<=_ by omega) (n:=8) U3 U3) ?_;rintro _ h3 ⟨rfl,o3,w3,f3⟩;have hx:m.took.at_=m.at_+1:=rfl;rw[hx];have hf : ∀k:Key,3<=k.1->o3 k=o k:=λk hk=>(f3 k hk).trans (f2 k hk);have hwd:me s m=_:=me.eq_1 s m;generalize me s m=r at hwd hK;generalize aT s (m.at_+1) 8=q at hwd;generalize aT s m.at_ 1048576=x at hwd;by_cases c0:q=0
 ·rw[if_pos c0]at hwd;simp[c0];exact hK _ _ ⟨by rw[hwd],_,w3,hf⟩
 rw[if_neg c0]at hwd;by_cases c1:q=1
 ·rw[if_pos c1]at hwd;simp[c1];refine Oo rfl ?_;simp;exact hK _ _ ⟨by rw[hwd],_,w3,hf⟩
 rw[if_neg c1]at hwd;by_cases c2:q=2
 ·rw[if_pos c2]at hwd;simp[c2];exact hK _ _ ⟨by rw[hwd],_,w3,hf⟩
 rw[if_neg c2]at hwd;by_cases c3:q=3
 ·rw[if_pos c3]at hwd;simp[c3];exact hK _ _ ⟨by rw[hwd],_,w3,hf⟩
 rw[if_neg c3]at hwd;simp[c0,c1,c2,c3];subst hz;simp;exact hK _ _ ⟨by rw[hwd],_,w3,hf⟩
end Go.Proofs.YtmhnaeecolpfkaaGreatDoor
namespace Go.Proofs.YtmhnaeecolpfkaaGreatDoor
open Go Go.Lft
def MS.add (m:MS) (b:Nat) (i:InsD):MS:={ m with blocks:=m.blocks.set b { nth m.blocks b with ins:=(nth m.blocks b).ins++[i] },live:=m.live++cL i }
def conD (v:Int) (n:Int):InsD:=⟨1,v,0,[],⟨n⟩⟩
def MS.constant (m:MS) (b:Nat) (n:Int):MS:=m.aV.add b (conD m.next n)
def AE (s:List Int) (m:MS):Int:=nth m.live (if aT s (m.at_+1) 3=0 then m.live.length-1 else(aT s m.at_ m.live.length).toNat)
def GN (s:List Int) (m:MS) (b:Nat):MS:=(m.took.took).constant b (me s m)
def aU (s:List Int) (m:MS) (b:Nat):Int × MS:=
 if m.live.length=0 then(m.next,GN s m b)
 else if aT s (m.at_+2) 9=0 then(m.next,GN s m.took.took.took b)
 else(AE s m,m.took.took.took)
def MS.two (m:MS) (b:Nat) (op x y:Int):MS:=m.aV.add b ⟨op,m.next,0,[x,y],⟨0⟩⟩
def binS (s:List Int) (m:MS) (b:Nat) (op:Int):MS:=
 let r1:=aU s m b
 let r2:=aU s r1.2 b
 if aT s r2.2.at_ 3=0 then
  (r2.2.took.took.constant b (IntKind.i32.wrap (IntKind.i64.wrap (aT s (r2.2.at_+1) 40-8)))).two b op r1.1 r2.2.next
 else r2.2.took.two b op r1.1 r2.1
def ltuS (s:List Int) (m:MS) (b:Nat):MS:=
 let r1:=aU s m b
 let r2:=aU s r1.2 b
 r2.2.two b 13 r1.1 r2.1
def divS (s:List Int) (m:MS) (b:Nat):MS:=
 let r1:=aU s m b
 let m2:=r1.2.took.constant b (IntKind.i32.wrap (aT s r1.2.at_ 12))
 if 0<aT s m2.at_ 3 then
  (m2.took.took.constant b (IntKind.i32.wrap (1+IntKind.i32.wrap (aT s (m2.at_+1) 12)))).two b 14 r1.1 m2.next
 else m2.took.two b 14 r1.1 r1.2.next
def AB (s:List Int) (m:MS) (b:Nat):MS:=
 let r1:=aU s m b
 let r2:=aU s r1.2 b
 r2.2.aV.aV.add b ⟨18,r2.2.next,r2.2.next+1,[r1.1,r2.1],⟨0⟩⟩
def iS (s:List Int) (b:Nat):Nat->List Int × MS->List Int × MS:=λ_ x=>(x.1++[(aU s x.2 b).1],(aU s x.2 b).2)
def qE (s:List Int) (m:MS) (b:Nat):MS:=
 let r:=up (iS s b) (aT s m.at_ 5).toNat ([],m.took)
 r.2.aV.took.add b ⟨17,r.2.next,0,r.1,⟨IntKind.i32.wrap (aT s r.2.at_ 5)⟩⟩
def qA (s:List Int) (m:MS) (b:Nat):Int × MS:=
 let m1:=m.took.constant b (IntKind.i32.wrap (aT s m.at_ 9))
 if aT s m1.at_ 3=0 then
  let r:=aU s m1.took b
  let m3:=(r.2.constant b 7).two b 5 r.1 r.2.next
  (m3.next,m3.two b 2 m.next (r.2.next+1))
 else(m.next,m1.took)
def offS (s:List Int) (m:MS):Int × MS:=
 if aT s (m.at_+1) 12=0 then(me s m.took.took,m.took.took.took.took) else(IntKind.i32.wrap (aT s m.at_ 4),m.took.took)
def jL (s:List Int) (m:MS) (b:Nat) (store:Bool):MS:=
 let a:=qA s m b
 let i:=offS s a.2
 if store then(aU s i.2 b).2.add b ⟨16,0,0,[a.1,(aU s i.2 b).1],⟨i.1⟩⟩
 else i.2.aV.add b ⟨15,i.2.next,0,[a.1],⟨i.1⟩⟩
def opsL:List Int:=[2,2,3,4,5,6,7,8,9,10,12,11]
def aZ (s:List Int) (b:Nat) (m:MS):MS:=
 let k:=aT s m.at_ 20
 if k<12 then binS s m.took b (nth opsL k.toNat)
 else if k=12 then ltuS s m.took b
 else if k=13 then divS s m.took b
 else if k<16 then jL s m.took b (decide (k=15))
 else if k=16 then qE s m.took b
 else if k=17 then AB s m.took b
 else m.took.took.took.constant b (me s m.took)
section
variable{b:Nat}
theorem EN{H:View}{n:Nat}{cs:List Value}(hc:gA H ⟨b,0,UL⟩ cs)(hl:cs.length=n):Un.ev H (.bM n) (UN (UK ⟨b,0,UL⟩))=UK (.agg cs.toArray):=by have:=gr hc n 0 #[] U1;simp only[Un.ev,vP,Ry];rw[this];simp[<-hl]
theorem Hf{H:View}{n:Nat}{cs:Array Value}{t:TypeId}(hb:H b=UK (.cells cs t (0,0)))(hl:cs.size=n):Un.ev H (.bM n) (UN (UK ⟨b,0,UL⟩))=UK (.agg cs):=by have:gA H ⟨b,0,UL⟩ cs.toList:=⟨cs,t,(0,0),rfl,hb,by simp[Rl]⟩;simpa using EN this (by simpa using hl)
theorem MkB.OC{s:List Int}{M:Nat}{vs:Value}{W:View}{h:Heap}{o:Own}{m:MS}{vb vl:Value}{lb:List BlkM}(w:Owns W h o)(b:MkB M vs m o vb vl lb):
  ∃X:View,W.le X/\X.le (vw h)/\(∀i,i<=5->an X ⟨M,i,UL⟩=UK ((mkL vs m.at_ m.ps vb m.next vl).getD i undef))/\SlRd X vb lb/\Av X vl/\∀i,i<m.blocks.length->Av X (nth lb i).phis.v/\Av X (nth lb i).ins.v:=by obtain⟨w5,s5⟩:=w.freeze (k:=(0,0)) (v:=UM (UK ⟨M,0,UL⟩) 1 1) (l:=[RawN.mk (n:=5) (mkL vs m.at_ m.ps vb m.next vl)]) b.box;have hb2:o.upd (0,0) UL (0,2)=it T.eZ vb lb:=b.blk;obtain⟨w6,s6⟩:=w5.freeze (k:=(0,2)) (v:=vb) (l:=lb) hb2;have s5:=s5.mono (iN (h:=h) (w5.av (0,2) _ hb2));refine⟨_,UF (iN (h:=h) (w.av (0,0) _ b.box)) (iN (h:=h) (w5.av (0,2) _ hb2)),w6.wle,λi hi=>?_,s6,w6.av (0,1) _ b.live,λi hi=>⟨w6.av (1,i) _ (b.phis i hi),w6.av (2,i) _ (b.ins i hi)⟩⟩;have:=((s5.at (i:=0) U2).part (RawN.p (n:=5) (o:=i) hi)).raw;simpa[slA]using this
variable {s:List Int} {M:Nat} {vs:Value} {W:View} {h:Heap} {o:Own} {m:MS}
theorem MkB.cell{vb vl:Value}{lb:List BlkM}(w:Owns W h o)(b:MkB M vs m o vb vl lb){i:Nat}(hi:i<=5):an (vw h) ⟨M,i,UL⟩=UK ((mkL vs m.at_ m.ps vb m.next vl).getD i undef):=w.raw b.box hi
theorem MkB.gT{vb vl:Value}{lb:List BlkM}(bb:MkB M vs m o vb vl lb)(hb:b<m.blocks.length){x':BlkD}{y':BlkM}{o':Own}(hy:y'.term=x'.term)(h02:o' (0,2)=it T.eZ vb (lb.set b y'))(h1:o' (1,b)=it T.iH y'.phis.v x'.phis)(h2:o' (2,b)=it T.e9 y'.ins.v x'.ins)(ho : ∀q:Key,q≠(0,2)->q≠(1,b)->q≠(2,b)->o' q=o q):MkB M vs { m with blocks:=m.blocks.set b x' } o' vb vl (lb.set b y'):=by
 have hbl:b<lb.length:=by rw[bb.len];exact hb
 refine⟨(ho _ U2 U2 U2).trans bb.box,(ho _ U2 U2 U2).trans bb.live,h02,by simp[bb.len],λj hj=>?_,λj hj=>?_,λj hj=>?_⟩;all_goals
  have hj:j<m.blocks.length:=by simpa using hj
  have hjl:j<lb.length:=by rw[bb.len];exact hj
  show _=_
  simp only[bS hj,bS hjl]
  by_cases e:b=j
  ·subst e
   simp only[if_true]
   assumption
  ·simp only[if_neg e]
   first
    | exact bb.term j hj
    | exact(ho _ U2 (λq=>e (by injection q with _ q;exact q.symm)) U2).trans (bb.phis j hj)
    | exact(ho _ U2 U2 (λq=>e (by injection q with _ q;exact q.symm))).trans (bb.ins j hj)
theorem Mk.value(w:Mk s M vs W h o m)(h1:m.at_<=999999990)(hl:m.live.length<=1000000000):
  ay UQ 133 #[UN (UK ⟨M,0,UL⟩)] h (λu h'=>(m.live.length=0/\u = .tuple #[UH UI 0,.bool UP]/\h'=h)\/(m.live.length≠0/\u = .tuple #[UH UI (AE s m),.bool UO]/\I64 (AE s m)/\∃o',Mk s M vs W h' o' m.took.took/\∀k:Key,3<=k.1->o' k=o k)):=by
 refine ao (args:=[UN (UK ⟨M,0,UL⟩)]) follows Tryz.func133 E.iJ UC λK hK=>?_;obtain⟨vb,vl,lb,b⟩:=w.box;have c5:an (vw h) ⟨M,5,UL⟩=UK vl:=b.cell w.own (i:=5) U3;have hsl:=w.own.now b.live;dsimp only[L.iJ,lkF,lkG];refine aa λz hz=>?_;simp;subst hz;refine aa λz hz=>?_;by_cases h0:m.live.length=0
 ·have h0':m.live=[]:=Ro h0;simp[c5,hsl.len,h0];exact hK _ _ (.inl ⟨h0,rfl,rfl⟩)
 have h0':¬(m.live=[]):=λe=>h0 (by rw[e];rfl);simp[c5,hsl.len,h0'];subst hz;refine aa λz hz=>?_;simp[c5,hsl.len];refine ah U0 (w.take U1 (n:=(m.live.length:Int)) U1 U1) ?_;rintro _ h2 ⟨rfl,o2,w2,f2⟩;subst hz;refine aa λz hz=>?_;simp;refine ah U0 (w2.take (show m.at_+1<=_ by omega) (n:=3) U3 U3) ?_;rintro _ h3 ⟨rfl,o3,w3,f3⟩;have hx:m.took.at_=m.at_+1:=rfl;rw[hx];have hf : ∀k:Key,3<=k.1->o3 k=o k:=λk hk=>(f3 k hk).trans (f2 k hk);have hv:AE s m=_:=AE.eq_1 s m;obtain⟨vb3,vl3,lb3,b3⟩:=w3.box;have c53:an (vw h3) ⟨M,5,UL⟩=UK vl3:=b3.cell w3.own (i:=5) U3;have hsl3:SlRd (vw h3) vl3 m.live:=w3.own.now b3.live;obtain⟨r0,r1⟩:=dv (s:=s) (at_:=m.at_) (n:=(m.live.length:Int)) U1;generalize aT s m.at_ m.live.length=x at hv r0 r1;generalize aT s (m.at_+1) 3=q at hv;obtain⟨i,hi,hvi,hii⟩ : ∃i:Nat,i<m.live.length/\AE s m=nth m.live i/\(i:Int)=if q=0 then(m.live.length:Int)-1 else x:=by
  by_cases c:q=0
  ·rw[if_pos c]at hv ⊢;exact⟨m.live.length-1,by omega,hv,by omega⟩
  rw[if_neg c]at hv ⊢;exact⟨x.toNat,by omega,hv,by omega⟩
 have h64:IntKind.i64.wrap ((m.live.length:Int)-1)=(m.live.length:Int)-1:=aS U1 U1;have fin : ∀ρ:Env,ρ=[(0,UN (UK ⟨M,0,UL⟩)),(2,UH UI 0),(3,.bool UP),(4,UH UI i),(17,UH UI x),(19,UH UI q)]->LC.wp UQ z (dU [.tmp 2,.tmp 3] K) ρ h3:=by rintro _ rfl;subst hz;refine aa λz hz=>?_;simp(disch:=omega)[c53,hsl3.idx1 rfl,hsl3.int UE];subst hz;simp;exact hK _ _ (.inr ⟨h0,by rw[hvi],by rw[hvi];exact hsl3.range hi,o3,w3,hf⟩)
 by_cases c:q=0
 ·rw[if_pos c]at hii;simp[c,c53,hsl3.len,h64];refine fin _ ?_;rw[hii,c]
 rw[if_neg c]at hii;simp[c];refine fin _ ?_;rw[hii]
theorem Mk.add (w:Mk s M vs W h o m) {b:Nat} {i:InsD} {v:Value} (hb:b<m.blocks.length) (hi:Rd W v i) (hn:(nth m.blocks b).ins.length<=100000000) (hl:m.live.length<=100000000) :
    ay UQ 87 #[UN (UK ⟨M,0,UL⟩),UH UI b,v] h (λu h'=>Nx s M vs W h' o (m.add b i)):=by
  refine ao (args:=[UN (UK ⟨M,0,UL⟩),UH UI b,v]) follows Tryz.func87 E.jJ UC λK hK=>?_
  obtain⟨vb,vl,lb,bb⟩:=w.box
  obtain⟨va,rfl,hir,hia⟩:=LZ hi
  dsimp only[L.jJ,lkF,lkG]
  refine aa λz hz=>?_
  simp
  refine gu rfl (hi.mono w.own.wle) λh1 e1 hle1 hs1 hat=>?_
  have w1:=w.own.ext hle1
  have hbx:(grow W h h1) h.size=UK (.cells #[UH UI i.op,UH UI i.dst,UH UI i.two,va,UH UJ i.imm.v] T.e9 (0,0)):=by
    rw[bY (QY _),e1];simp[Value.cells]
  have hi1:=hi.mono (bw (h':=h1) w.own.wle)
  have src1:=w.src.mono (bw (h':=h1) w.own.wle)
  have hW1:=bw (h':=h1) w.own.wle
  clear hat e1
  have hld:=Hf hbx (n:=5) rfl
  generalize grow W h h1=W1 at w1 hld hi1 src1 hW1
  generalize h.size=B at hld
  subst hz
  refine aa λz hz=>?_
  obtain⟨X,hWX,hX,cX,sX,avl,avX⟩:=bb.OC (s:=s) w1
  have c3:an X ⟨M,3,UL⟩=UK vb:=cX 3 U3
  have hbl:b<lb.length:=by rw[bb.len];exact hb
  have a1:=(sX.at hbl).part BlkM.ig
  have hsv:=sX.bound
  have a2:an X (((slA vb).add (b*6)).add 1)=UK (nth lb b).ins.v:=by rw[aA hbl];exact a1.raw
  have hldX:Un.ev X (.bM 5) (UN (UK ⟨B,0,UL⟩))=UK (.agg #[UH UI i.op,UH UI i.dst,UH UI i.two,va,UH UJ i.imm.v]):=by
    have:=dX (ρ:=λ_=>UL) (e:=.un (.bM 5) (.con (UN (UK ⟨B,0,UL⟩)))) hWX (by simpa using hld)
    simpa using this
  refine aG X hX ?_
  simp(disch:=omega)[c3,sX.idxn (N:=6) rfl,a2,hldX]
  refine mq (α:=InsD) (W:=W1) (d:=i) El.pb rfl hi1 λu5 h5 src hle5 hs5=>⟨UF hX hle5,?_⟩
  refine(w1.ext' hle5).dA (k:=(2,b)) (α:=InsD) (v:=(nth lb b).ins.v) (l:=(nth m.blocks b).ins) (l2:=[i]) (bb.ins b hb) El.pb rfl rfl src U9 U9 λv6 h6 w6 m6=>⟨(m6.view (UF hX hle5) (avX b hb).2).1,?_⟩
  have hv6:=(w6.cells (k:=(2,b)) Own.aq).2
  refine w6.sM (k:=(0,2)) (α:=BlkM) BlkM.ig (v:=vb) (l:=lb) (i:=b) (d:=⟨v6⟩) bb.blk U0 rfl rfl hbl (iE.2 ⟨rfl,hv6⟩) λh7 w7 _=>?_
  have b7:=bb.gT hb (x':={ nth m.blocks b with ins:=(nth m.blocks b).ins++[i] }) (y':={ lb[b]with ins:=⟨v6⟩ }) (o':=(o.upd (2,b) (it T.e9 v6 ((nth m.blocks b).ins++[i]))).upd (0,2) (it T.eZ vb (lb.set b { lb[b]with ins:=⟨v6⟩ }))) (by rw[<-bb.term b hb,aA hbl]) Own.aq (by rw[<-aA hbl];exact bb.phis b hb) ((Own.aB U2).trans Own.aq) (λq h1 h2 h3=>by rw[Own.aB h1,Own.aB h3])
  generalize hm7:({ m with blocks:=m.blocks.set b { nth m.blocks b with ins:=(nth m.blocks b).ins++[i] } }:MS)=m7 at b7
  have hadd:m.add b i={ m7 with live:=m.live++cL i }:=by rw[<-hm7];rfl
  have hl7:m7.live=m.live:=by rw[<-hm7]
  have hf7 : ∀k:Key,3<=k.1->((o.upd (2,b) (it T.e9 v6 ((nth m.blocks b).ins++[i]))).upd (0,2) (it T.eZ vb (lb.set b { lb[b]with ins:=⟨v6⟩ }))) k=o k:=λk hk=>by
    rw[Own.aB (by rintro rfl;simp at hk),Own.aB (by rintro rfl;simp at hk)]
  generalize (o.upd (2,b) (it T.e9 v6 ((nth m.blocks b).ins++[i]))).upd (0,2) (it T.eZ vb (lb.set b { lb[b]with ins:=⟨v6⟩ }))=o7 at w7 b7 hf7
  generalize lb.set b { lb[b]with ins:=⟨v6⟩ }=lb7 at b7
  clear src avX m6
  subst hz
  refine aa λz hz=>?_
  have hld7:Un.ev (vw h7) (.bM 5) (UN (UK ⟨B,0,UL⟩))=UK (.agg #[UH UI i.op,UH UI i.dst,UH UI i.two,va,UH UJ i.imm.v]):=by
    have:=dX (ρ:=λ_=>UL) (e:=.un (.bM 5) (.con (UN (UK ⟨B,0,UL⟩)))) w7.wle (by simpa using hld)
    simpa using this
  simp[hld7]
  refine ah U0 (qV (hi1.mono w7.wle)) ?_
  rintro u8 h8 ⟨hle8,hu8,-⟩
  have w8:=w7.ext hle8
  have hu8:SlRd (grow W1 h7 h8) u8 (cL i):=hu8.mono (zt (QY _) UE)
  have hW8:=bw (h':=h8) w7.wle
  generalize grow W1 h7 h8=W8 at w8 hu8 hW8
  subst hz
  have c58:an (vw h8) ⟨M,5,UL⟩=UK vl:=b7.cell w8 (i:=5) U3
  have hmk:(cL i).length<=2:=by
                                         unfold cL;repeat' split
                                         all_goals simp
  simp[c58]
  refine w8.dA (k:=(0,1)) (α:=Int) (v:=vl) (l:=m.live) (l2:=cL i) (by rw[<-hl7];exact b7.live) El.aY rfl rfl (hu8.src w8.wle) U1 U1 λv9 h9 w9 m9=>?_
  have hv9:=(w9.cells (k:=(0,1)) Own.aq).2
  have hbx9:(o7.upd (0,1) (it T.int v9 (m.live++cL i))) (0,0)=bx T.bz M (RawN.mk (n:=5) (mkL vs m7.at_ m7.ps vb m7.next vl)):=b7.box
  refine w9.dS (k:=(0,0)) (n:=5) (i:=5) (e:=T.bz) (B:=M) (l:=mkL vs m7.at_ m7.ps vb m7.next vl) hbx9 U3 U0 rfl rfl hv9 λh10 w10 _=>?_
  refine hK _ _ ⟨W8,_,UF hW1 hW8,⟨w10,src1.mono hW8,vb,v9,lb7,?_⟩,λk hk=>?_⟩
  · rw[hadd]
    exact⟨rfl,rfl,b7.blk,b7.len,b7.term,b7.phis,b7.ins⟩
  · rw[Own.aB (by rintro rfl;simp at hk),Own.aB (by rintro rfl;simp at hk)]
    exact hf7 k hk
end
section
structure MS.ok (c:Nat) (m:MS):Prop where
 at_:m.at_<=c
 n0:0<=m.next
 next:m.next<=c
 live:m.live.length<=c
 ins : ∀i,(nth m.blocks i).ins.length<=c
theorem MS.ok.mono{c d:Nat}{m:MS}(h:m.ok c)(hd:c<=d):m.ok d:=
 ⟨by have:=h.at_;omega,h.n0,by have:=h.next;omega,by have:=h.live;omega,λi=>by have:=h.ins i;omega⟩
theorem MS.ok.took {c:Nat} {m:MS} (h:m.ok c):m.took.ok (c+1):=
 ⟨by have:=h.at_;show m.at_+1<=_;omega,h.n0,by have:=h.next;show m.next<=_;omega,by have:=h.live;show m.live.length<=_;omega,λi=>by have:=h.ins i;show(nth m.blocks i).ins.length<=_;omega⟩
theorem MS.ok.aV {c:Nat} {m:MS} (h:m.ok c):m.aV.ok (c+1):=
 ⟨by have:=h.at_;show m.at_<=_;omega,by have:=h.n0;show 0<=m.next+1;omega,by have:=h.next;show m.next+1<=_;omega,by have:=h.live;show m.live.length<=_;omega,λi=>by have:=h.ins i;show(nth m.blocks i).ins.length<=_;omega⟩
theorem HW{i:InsD}:(cL i).length<=2:=by
 unfold cL;repeat' split
 all_goals simp
theorem MS.ok.add {c b:Nat} {m:MS} {i:InsD} (h:m.ok c):(m.add b i).ok (c+2):=by
 refine⟨by have:=h.at_;show m.at_<=_;omega,h.n0,by have:=h.next;show m.next<=_;omega,?_,λj=>?_⟩
 ·have:=h.live;have:=HW (i:=i);show(m.live++cL i).length<=_;rw[Q7];omega
 show(nth (m.blocks.set b _) j).ins.length<=_;have hj:=h.ins j;rcases Q5 j m.blocks.length with hl | hl
 ·rw[bS hl];split
  ·rename_i e;subst e;rw[Q7,Rz];omega
  omega
 rw[dr (by simpa using hl)];rw[dr hl]at hj;omega
theorem MS.ok.constant {c b:Nat} {m:MS} {n:Int} (h:m.ok c):(m.constant b n).ok (c+3):=h.aV.add
theorem MS.ok.two {c b:Nat} {m:MS} {op x y:Int} (h:m.ok c):(m.two b op x y).ok (c+3):=h.aV.add
variable {s:List Int} {M:Nat} {vs:Value} {W:View} {h:Heap} {o:Own} {m:MS}
theorem MS.ok.aU {c b:Nat} (h:m.ok c):(aU s m b).2.ok (c+10):=by
 unfold Go.Proofs.YtmhnaeecolpfkaaGreatDoor.aU;repeat' split
 ·exact(h.took.took.constant).mono U1
 ·exact(h.took.took.took.took.took.constant).mono U1
 exact(h.took.took.took).mono U1
variable{b:Nat}
theorem oA{i:InsD}:(m.add b i).blocks.length=m.blocks.length:=by simp[MS.add]
theorem ee:(aU s m b).2.blocks.length=m.blocks.length:=by
 unfold aU;repeat' split
 all_goals simp[GN,MS.constant,oA,MS.took,MS.aV]
theorem Mk.constant (w:Mk s M vs W h o m) {b c:Nat} {n:Int} (hb:b<m.blocks.length) (hm:m.ok c) (hc:c<=1000000) (hn:-2147483648<=n/\n<=2147483647) :
  ay UQ 43 #[UN (UK ⟨M,0,UL⟩),UH UI b,UH UJ n] h (λu h'=>u = UH UI m.next/\Nx s M vs W h' o (m.constant b n)):=by refine ao (args:=[UN (UK ⟨M,0,UL⟩),UH UI b,UH UJ n]) follows Tryz.func43 E.fS UC λK hK=>?_;have q1:=hm.next;have q0:=hm.n0;dsimp only[L.fS,lkF,lkG];refine aa λz hz=>?_;simp;subst hz;refine aa λz hz=>?_;simp;refine ah U0 (w.fresh q0 U1) ?_;rintro _ h2 ⟨rfl,o2,w2,f2⟩;subst hz;refine aa λz hz=>?_;simp;refine az (z:=.agg #[UH UI 0,UH UI 0,UH UI 0,UM UL 0 0,UH UJ 0]) (places:=[(0,1),(1,1),(2,1),(3,1),(4,1)]) (vs:=[(0,UH UI 1),(1,UH UI m.next),(4,UH UJ n)]) (cs:=#[UH UI 1,UH UI m.next,UH UI 0,UM UL 0 0,UH UJ n]) U0 U0 U2 U0 ?_;have hm2:=hm.aV;refine ah U0 (w2.add (i:=conD m.next n) hb (Et (imm:=⟨n⟩) ⟨⟨U3,U3⟩,U6,⟨U3,U3⟩,hn⟩ aL) (by have:=hm2.ins b;omega) (by have:=hm2.live;omega)) ?_;rintro u3 h3 n3;subst hz;simp;exact hK _ _ ⟨rfl,n3.trans UE f2⟩
theorem G0(w:Mk s M vs W h o m){c:Nat}(hb:b<m.blocks.length)(hm:m.ok c)(hc:c<=999990):
  ay UQ 86 #[UN (UK ⟨M,0,UL⟩),UH UI b] h (λu h'=>u = UH UI (aU s m b).1/\I64 (aU s m b).1/\Nx s M vs W h' o (aU s m b).2):=by
 refine ao (args:=[UN (UK ⟨M,0,UL⟩),UH UI b]) follows Tryz.func86 E.jx UC λK hK=>?_;have qa:=hm.at_;have ql:=hm.live;have hsd:aU s m b=_:=aU.eq_1 s m b;dsimp only[L.jx,lkF,lkG];refine aa λz hz=>?_;simp;subst hz;refine aa λz hz=>?_;simp;refine ah U0 (w.value U1 U1) ?_;rintro u h2 hu;have con : ∀{m2:MS} {o2:Own} {h2:Heap} {ρ:Env} {z:LC},Mk s M vs W h2 o2 m2->(∀k:Key,3<=k.1->o2 k=o k)->m2.ok (c+3)->b<m2.blocks.length->aU s m b=(m2.next,GN s m2 b)->Lft.look ρ 0=UK (UN (UK ⟨M,0,UL⟩))->Lft.look ρ 1=UK (UH UI b)->
   LC.wp UQ (.seq (.reg UP (.loud [19,20,21] [(19,(.tmp 0)),(20,(.tmp 1))] [(21,(.tmp 0))] UL [] UP (.call ⟨.value (.func 44),#[(.tmp 21)],#[T.ta]⟩) 21 (UK 22) UO
   (.loud [] [] [(19,(.tmp 19)),(20,(.tmp 20)),(22,(.tmp 22))] UL [] UP (.call ⟨.value (.func 43),#[(.tmp 19),(.tmp 20),(.tmp 22)],#[T.ta,3,21]⟩) 3 (UK 23) UO
    (.fin [4] [(4,(.tmp 23))] [])))) .ret) (fJ (LC.wp UQ z (dU [.tmp 4] K)) (dU [.tmp 4] K)) ρ h2:=by intro m2 o2 h2 ρ z w2 f2 k2 b2 e2 r0 r1;refine aa λy hy=>?_;simp[r0,r1];refine ah U0 (w2.word (by have:=k2.at_;omega)) ?_;rintro _ h3 ⟨rfl,o3,w3,f3⟩;simp[af,ag,r0,r1];refine ah U0 (w3.constant (n:=me s m2) b2 k2.took.took U1 sE) ?_;rintro _ h4 ⟨rfl,n4⟩;subst hy;simp[af,ag];refine hK _ _ ⟨by rw[e2];rfl,by rw[e2];have:=k2.n0;have:=k2.next;exact⟨by show _<=m2.next;omega,by show m2.next<=_;omega⟩,?_⟩;rw[e2];exact n4.trans UE λk hk=>(f3 k hk).trans (f2 k hk)
 rcases hu with⟨h0,rfl,rfl⟩ | ⟨h0,rfl,hi64,o2,w2,f2⟩
 ·rw[if_pos h0]at hsd;simp;subst hz;refine aa λz hz=>?_;refine aa λy hy=>?_;simp;subst hy;refine aQ U2 ?_;exact con w (λ_ _=>rfl) (hm.mono U1) hb hsd (by simp[af,ag]) (by simp[af,ag])
 rw[if_neg h0]at hsd;simp;subst hz;refine aa λz hz=>?_;refine aa λy hy=>?_;simp;have k2:=hm.took.took;refine ah U0 (w2.take (by have:=k2.at_;omega) (n:=9) U3 U3) ?_;rintro _ h3 ⟨rfl,o3,w3,f3⟩;have hx:m.took.took.at_=m.at_+2:=rfl;rw[hx];simp;subst hy;by_cases c9:aT s (m.at_+2) 9=0
 ·rw[if_pos c9]at hsd;refine aQ (by simp[c9]) ?_;exact con w3 (λk hk=>(f3 k hk).trans (f2 k hk)) k2.took hb hsd (by simp[af,ag]) (by simp[af,ag])
 rw[if_neg c9]at hsd;refine bg (by simp[c9]) ?_;simp;subst hz;simp;refine hK _ _ ⟨by rw[hsd],by rw[hsd];exact hi64,?_⟩;rw[hsd];exact w3.nx.trans UE λk hk=>(f3 k hk).trans (f2 k hk)
end
def Nz (s:List Int) (M:Nat) (vs:Value) (W0:View) (h:Heap) (o0:Own) (m:MS) (u:Value) (ds:List Int):Prop:=∃W o,W0.le W/\Mk s M vs W h o m/\(∀k:Key,3<=k.1->o k=o0 k)/\SlRd W u ds
section
variable {s:List Int} {M:Nat} {vs:Value} {W0:View} {h:Heap} {o0:Own} {m:MS} {u:Value} {ds:List Int}
theorem Nx.z(n:Nx s M vs W0 h o0 m):Nz s M vs W0 h o0 m (UM UL 0 0) []:=by obtain⟨W,o,h1,h2,h3⟩:=n;exact⟨W,o,h1,h2,h3,aL⟩
theorem Nz.x(n:Nz s M vs W0 h o0 m u ds):Nx s M vs W0 h o0 m:=by obtain⟨W,o,h1,h2,h3,_⟩:=n;exact⟨W,o,h1,h2,h3⟩
theorem Nz.call{f:FuncId}{args:Array Value}{m':MS}{U:Value->Prop}(hc : ∀{W o},Mk s M vs W h o m->ay UQ f args h (λu h'=>U u/\Nx s M vs W h' o m'))(n:Nz s M vs W0 h o0 m u ds):
  ay UQ f args h (λv h'=>U v/\Nz s M vs W0 h' o0 m' u ds):=by obtain⟨W,o,h1,h2,h3,h4⟩:=n;refine(hc h2).mono ?_;rintro v h' ⟨hU,W',o',g1,g2,g3⟩;exact⟨hU,W',o',UF h1 g1,g2,λk hk=>(g3 k hk).trans (h3 k hk),h4.mono g1⟩
theorem fu(n:Nz s M vs W0 h o0 m u ds){c:Nat}(hm:m.ok c)(hc:c<=1000000){k:Int}(hk:0<k)(hk2:k<=1000000000):
  ay UQ 34 #[UN (UK ⟨M,0,UL⟩),UH UI k] h (λv h'=>v = UH UI (aT s m.at_ k)/\Nz s M vs W0 h' o0 m.took u ds):=
 n.call (U:=λv=>v=_) λw=>((w.take (by have:=hm.at_;omega) hk hk2).mono λv h' ⟨e,o',w',f'⟩=>⟨e,w'.nx.trans UE f'⟩)
theorem gY(n:Nz s M vs W0 h o0 m u ds){c:Nat}(hm:m.ok c)(hc:c<=1000000):
  ay UQ 37 #[UN (UK ⟨M,0,UL⟩)] h (λv h'=>v = UH UI m.next/\Nz s M vs W0 h' o0 m.aV u ds):=
 n.call (U:=λv=>v=_) λw=>((w.fresh hm.n0 (by have:=hm.next;omega)).mono λv h' ⟨e,o',w',f'⟩=>⟨e,w'.nx.trans UE f'⟩)
theorem CE(n:Nz s M vs W0 h o0 m u ds){c:Nat}(hm:m.ok c)(hc:c<=1000000):
  ay UQ 44 #[UN (UK ⟨M,0,UL⟩)] h (λv h'=>v = UH UJ (me s m)/\Nz s M vs W0 h' o0 m.took.took u ds):=
 n.call (U:=λv=>v=_) λw=>((w.word (by have:=hm.at_;omega)).mono λv h' ⟨e,o',w',f'⟩=>⟨e,w'.nx.trans UE f'⟩)
variable{b:Nat}
theorem gO(n:Nz s M vs W0 h o0 m u ds){c:Nat}(hb:b<m.blocks.length)(hm:m.ok c)(hc:c<=1000000){k:Int}(hk:-2147483648<=k/\k<=2147483647):
  ay UQ 43 #[UN (UK ⟨M,0,UL⟩),UH UI b,UH UJ k] h (λv h'=>v = UH UI m.next/\Nz s M vs W0 h' o0 (m.constant b k) u ds):=
 n.call (U:=λv=>v=_) λw=>w.constant hb hm hc hk
theorem ji(n:Nz s M vs W0 h o0 m u ds){c:Nat}(hb:b<m.blocks.length)(hm:m.ok c)(hc:c<=999990):
  ay UQ 86 #[UN (UK ⟨M,0,UL⟩),UH UI b] h (λv h'=>(v = UH UI (aU s m b).1/\I64 (aU s m b).1)/\Nz s M vs W0 h' o0 (aU s m b).2 u ds):=
 n.call (U:=λv=>v=_/\_) λw=>(G0 w hb hm hc).mono λv h' ⟨e1,e2,e3⟩=>⟨⟨e1,e2⟩,e3⟩
theorem mz(n:Nz s M vs W0 h o0 m u ds){c:Nat}{op d two imm:Int}(hb:b<m.blocks.length)(hm:m.ok c)(hc:c<=1000000)(h1:I64 op)(h2:I64 d)(h3:I64 two)(h4:-2147483648<=imm/\imm<=2147483647):
  ay UQ 87 #[UN (UK ⟨M,0,UL⟩),UH UI b,.agg #[UH UI op,UH UI d,UH UI two,u,UH UJ imm]] h (λv h'=>Nx s M vs W0 h' o0 (m.add b ⟨op,d,two,ds,⟨imm⟩⟩)):=by obtain⟨W,o,g1,g2,g3,g4⟩:=n;refine(g2.add (i:=⟨op,d,two,ds,⟨imm⟩⟩) hb (Et (imm:=⟨imm⟩) ⟨h1,h2,h3,h4⟩ g4) (by have:=hm.ins b;omega) (by have:=hm.live;omega)).mono ?_;rintro v h' n';exact n'.trans g1 g3
theorem Nz.lit{po:OP}(n:Nz s M vs W0 h o0 m u ds){ty:TypeId}{ps:Array (Nat × Operand)}{us:List (Nat × Value)}{ls:List Int}{k:Nat}{K:Value->Heap->Prop}(hp:ps.map (λp=>(p.1,asg us p.2))=(((ls.map λx=>UH UI x).zipIdx 0).map λp=>(p.2,p.1)).toArray)(hr : ∀x∈ls,I64 x)(hn:ls.length=k)(hb:k<=16777216)(hk : ∀a n c h',(vw h).le (vw h')->Nz s M vs W0 h' o0 m (.slice a n c) ls->K (.slice a n c) h'):@Lft.step po UQ (.buildSlice T.aY k ps) ty us h K:=by
 obtain⟨W,o,g1,g2,g3,g4⟩:=n;have hra : ∀l:List Int,(∀x∈l,I64 x)->qU W (l.map λx=>UH UI x) l:=by
  intro l;induction l with
  | nil=>intro _;trivial
  | cons a l ih=>intro hl;exact⟨bu.2 ⟨rfl,hl a U2⟩,ih λx hx=>hl x (by simp[hx])⟩
 refine mM (X:=W) (ds:=ls) (vs:=ls.map λx=>UH UI x) rfl El.aY hp (hra ls hr) g2.own.wle hn hb λv h' hle hs hv _=>?_;have hs2:=hv _ (bw g2.own.wle) (bY (QY _));obtain⟨a,cp,rfl,_⟩:=id hs2;refine hk _ _ _ h' hle ?_;exact⟨_,o,UF g1 (bw g2.own.wle),⟨g2.own.ext hle,g2.src.mono (bw g2.own.wle),g2.box⟩,g3,hs2⟩
end
theorem MS.ok.kL{c:Nat}{m:MS}(h:m.ok c)(hc:c<=1000000):I64 m.next:=by have:=h.n0;have:=h.next;constructor<;>omega
variable{b:Nat}
theorem dW{m:MS}{n:Int}:(m.constant b n).blocks.length=m.blocks.length:=oA
theorem pJ{m:MS}{op x y:Int}:(m.two b op x y).blocks.length=m.blocks.length:=oA
theorem i64c{x:Int}(h0:-1000<=x:=by decide)(h1:x<=1000:=by decide):I64 x:=U6
theorem Hm{s:List Int}{M:Nat}{vs:Value}{W0:View}{h:Heap}{o0:Own}{m:MS}(n:Nx s M vs W0 h o0 m){c:Nat}{store:Bool}(hb:b<m.blocks.length)(hm:m.ok c)(hc:c<=900000):
  ay UQ 88 #[UN (UK ⟨M,0,UL⟩),UH UI b,.bool store] h (λv h'=>Nx s M vs W0 h' o0 (jL s m b store)):=by
 refine ao (args:=[UN (UK ⟨M,0,UL⟩),UH UI b,.bool store]) follows Tryz.func88 E.gP UC λK hK=>?_;dsimp only[L.gP,lkF,lkG];have n:=n.z;have hmm:jL s m b store=_:=jL.eq_1 s m b store;refine aa λz hz=>?_;simp;refine ah U0 (fu n hm U1 (k:=9) U3 U3) ?_;rintro _ h1 ⟨rfl,n⟩;simp;refine ah U0 (gO n (b:=b) hb hm.took U1 (k:=IntKind.i32.wrap (aT s m.at_ 9)) oh) ?_;rintro _ h2 ⟨rfl,n⟩;have q:=hm.took.constant (b:=b) (n:=IntKind.i32.wrap (aT s m.at_ 9));have hb1:b<(m.took.constant b (IntKind.i32.wrap (aT s m.at_ 9))).blocks.length:=by rw[dW];exact hb
 obtain⟨m1,hm1⟩ : ∃m1,m1=m.took.constant b (IntKind.i32.wrap (aT s m.at_ 9)):=⟨_,rfl⟩;have had:qA s m b=_:=qA.eq_1 s m b;rw[<-hm1]at n q hb1;simp only[<-hm1]at had;have hnx:I64 m.next:=hm.kL U1;have hnt:m.took.next=m.next:=rfl;rw[hnt];generalize m.next=a0 at had hnx;clear hm1 hm hnt;subst hz;refine aa λz hz=>?_;have fin : ∀(a:Int) (m2:MS) (h':Heap) (ρ:Env),qA s m b=(a,m2)->I64 a->m2.ok (c+30)->b<m2.blocks.length->Nz s M vs W0 h' o0 m2 (UM UL 0 0) []->Lft.look ρ 0=UK (UN (UK ⟨M,0,UL⟩))->Lft.look ρ 1=UK (UH UI b)->Lft.look ρ 2=UK (.bool store)->Lft.look ρ 6=UK (UH UI a)->LC.wp UQ z (dU [] K) ρ h':=by
  intro a m2 h' ρ e ha q hb n r0 r1 r2 r6;subst hz;simp only[e]at hmm;refine aa λz hz=>?_;simp[af,ag,r0,r1,r2,r6];refine ah U0 (fu n q U1 (k:=4) U3 U3) ?_;rintro _ h1 ⟨rfl,n⟩;simp[af,ag,r0,r1,r2,r6];subst hz;refine aa λz hz=>?_;have fin2 : ∀(i:Int) (m3:MS) (h':Heap) (ρ:Env),offS s m2=(i,m3)->(-2147483648<=i/\i<=2147483647)->m3.ok (c+40)->b<m3.blocks.length->Nz s M vs W0 h' o0 m3 (UM UL 0 0) []->Lft.look ρ 0=UK (UN (UK ⟨M,0,UL⟩))->Lft.look ρ 1=UK (UH UI b)->Lft.look ρ 2=UK (.bool store)->Lft.look ρ 6=UK (UH UI a)->Lft.look ρ 11=UK (UH UJ i)->LC.wp UQ z (dU [] K) ρ h':=by
   intro i m3 h' ρ e hi q hb n r0 r1 r2 r6 r11;subst hz;simp only[e]at hmm;refine aa λz hz=>?_;simp[af,ag,r0,r1,r2,r6,r11];subst hz;cases store with
   | true=>rw[if_pos rfl]at hmm;refine aQ (by simp[af,ag,r2]) ?_;simp[af,ag,r0,r1,r2,r6,r11];refine ah U0 (ji n hb q U1) ?_;rintro _ h1 ⟨⟨rfl,hs⟩,n⟩;refine n.lit (ls:=[a,(aU s m3 b).1]) U2 (by simp[ha,hs]) rfl U3 λua un uc h2 _ n=>?_;refine az (z:=.agg #[UH UI 0,UH UI 0,UH UI 0,UM UL 0 0,UH UJ 0]) (places:=[(0,1),(1,1),(2,1),(3,1),(4,1)]) (vs:=[(0,UH UI 16),(3,.slice ua un uc),(4,UH UJ i)]) (cs:=#[UH UI 16,UH UI 0,UH UI 0,.slice ua un uc,UH UJ i]) U0 U0 U2 U0 ?_;refine ah U0 (mz n (b:=b) (by rw[ee];exact hb) (q.aU (b:=b)) U1 i64c i64c i64c hi) ?_;rintro _ h3 n;refine hK _ _ ?_;rw[hmm];exact n
   | false=>rw[if_neg U2]at hmm;refine bg (by simp[af,ag,r2]) ?_;simp[af,ag,r0,r1,r2,r6,r11];refine ah U0 (gY n q U1) ?_;rintro _ h1 ⟨rfl,n⟩;refine n.lit (ls:=[a]) U2 (by simp[ha]) rfl U3 λua un uc h2 _ n=>?_;refine az (z:=.agg #[UH UI 0,UH UI 0,UH UI 0,UM UL 0 0,UH UJ 0]) (places:=[(0,1),(1,1),(2,1),(3,1),(4,1)]) (vs:=[(0,UH UI 15),(1,UH UI m3.next),(3,.slice ua un uc),(4,UH UJ i)]) (cs:=#[UH UI 15,UH UI m3.next,UH UI 0,.slice ua un uc,UH UJ i]) U0 U0 U2 U0 ?_;refine ah U0 (mz n (b:=b) hb q.aV U1 i64c (q.kL U1) i64c hi) ?_;rintro _ h3 n;refine hK _ _ ?_;rw[hmm];exact n
  have hof:offS s m2=_:=offS.eq_1 s m2;refine aa λy hy=>?_;simp[af,ag,r0,r1,r2,r6];refine ah U0 (fu n q.took U1 (k:=12) U3 U3) ?_;rintro _ h2 ⟨rfl,n⟩;have hx:m2.took.at_=m2.at_+1:=rfl;rw[hx];simp[af,ag,r0,r1,r2,r6];subst hy;by_cases c12:aT s (m2.at_+1) 12=0
  ·rw[if_pos c12]at hof;refine aQ (by simp[af,ag,c12]) ?_;simp[af,ag,r0,r1,r2,r6];refine ah U0 (CE n q.took.took U1) ?_;rintro _ h3 ⟨rfl,n⟩;exact fin2 _ _ h3 _ hof sE (q.took.took.took.took.mono U1) hb n (by simp[af,ag,r0]) (by simp[af,ag,r1]) (by simp[af,ag,r2]) (by simp[af,ag,r6]) (by simp[af,ag])
  rw[if_neg c12]at hof;refine bg (by simp[af,ag,c12]) ?_;simp[af,ag,r0,r1,r2,r6];exact fin2 _ _ h2 _ hof oh (q.took.took.mono U1) hb n (by simp[af,ag,r0]) (by simp[af,ag,r1]) (by simp[af,ag,r2]) (by simp[af,ag,r6]) (by simp[af,ag])
 refine aa λy hy=>?_;simp;refine ah U0 (fu n q U1 (k:=3) U3 U3) ?_;rintro _ h3 ⟨rfl,n⟩;simp;subst hy;by_cases c3:aT s m1.at_ 3=0
 ·rw[if_pos c3]at had;refine aQ (by simp[c3]) ?_;refine aa λy hy=>?_;simp;refine ah U0 (ji n (b:=b) hb1 q.took U1) ?_;rintro _ h4 ⟨⟨rfl,hs⟩,n⟩;have q:=q.took.aU (s:=s) (b:=b);have hb2:b<(aU s m1.took b).2.blocks.length:=by rw[ee];exact hb1
  generalize aU s m1.took b=r at had hs n q hb2;subst hy;refine aa λy hy=>?_;simp;refine ah U0 (gO n (b:=b) hb2 q U1 (k:=7) U3) ?_;rintro _ h5 ⟨rfl,n⟩;subst hy;refine aa λy hy=>?_;simp;have q5:=q.constant (b:=b) (n:=7);refine ah U0 (gY n q5 U1) ?_;rintro _ h6 ⟨rfl,n⟩;have hn5:(r.2.constant b 7).next=r.2.next+1:=rfl;rw[hn5];subst hy;refine aa λy hy=>?_;simp;have i5:=q5.kL U1;rw[hn5]at i5;refine n.lit (ls:=[r.1,r.2.next]) U2 (by simp[hs,q.kL (by omega:c+1+3+1+10<=1000000)]) rfl U3 λua un uc h7 _ n=>?_;refine az (z:=.agg #[UH UI 0,UH UI 0,UH UI 0,UM UL 0 0,UH UJ 0]) (places:=[(0,1),(1,1),(2,1),(3,1),(4,1)]) (vs:=[(0,UH UI 5),(1,UH UI (r.2.next+1)),(3,.slice ua un uc)]) (cs:=#[UH UI 5,UH UI (r.2.next+1),UH UI 0,.slice ua un uc,UH UJ 0]) U0 U0 U2 U0 ?_;refine ah U0 (mz n (b:=b) (imm:=0) (by rw[show(r.2.constant b 7).aV.blocks=(r.2.constant b 7).blocks from rfl,dW];exact hb2) q5.aV U1 i64c i5 i64c U3) ?_;rintro _ h8 n;have n:Nx s M vs W0 h8 o0 ((r.2.constant b 7).two b 5 r.1 r.2.next):=n;have q6:=q5.two (b:=b) (op:=5) (x:=r.1) (y:=r.2.next);have hb3:b<((r.2.constant b 7).two b 5 r.1 r.2.next).blocks.length:=by rw[pJ,dW];exact hb2
  generalize (r.2.constant b 7).two b 5 r.1 r.2.next=m3 at had n q6 hb3;have n:=n.z;subst hy;refine aa λy hy=>?_;simp;refine ah U0 (gY n q6 U1) ?_;rintro _ h9 ⟨rfl,n⟩;subst hy;refine aa λy hy=>?_;simp;refine n.lit (ls:=[a0,r.2.next+1]) U2 (by simp[hnx,i5]) rfl U3 λua2 un2 uc2 h10 _ n=>?_;refine az (z:=.agg #[UH UI 0,UH UI 0,UH UI 0,UM UL 0 0,UH UJ 0]) (places:=[(0,1),(1,1),(2,1),(3,1),(4,1)]) (vs:=[(0,UH UI 2),(1,UH UI m3.next),(3,.slice ua2 un2 uc2)]) (cs:=#[UH UI 2,UH UI m3.next,UH UI 0,.slice ua2 un2 uc2,UH UJ 0]) U0 U0 U2 U0 ?_;refine ah U0 (mz n (b:=b) (imm:=0) hb3 q6.aV U1 i64c (q6.kL U1) i64c U3) ?_;rintro _ h11 n;subst hy;simp;refine fin m3.next (m3.two b 2 a0 (r.2.next+1)) h11 _ had (q6.kL U1) (q6.two.mono U1) (by rw[pJ];exact hb3) n.z ?_ ?_ ?_ ?_;all_goals simp
 rw[if_neg c3]at had;refine bg (by simp[c3]) ?_;simp;exact fin a0 m1.took h3 _ had hnx (q.took.mono U1) hb1 n U2 U2 U2 U2
end Go.Proofs.YtmhnaeecolpfkaaGreatDoor
