/- A part of the proof: As, At, Au, Av, Jb, Ax, Ay, Az, To. -/
import Derived.Test.YtmhnaeecolpfkaaGreatDoorZCTim8
set_option linter.unusedSimpArgs false
set_option linter.unusedVariables false
open Go.Value renaming int->UH,slice->UM,pointer->UN
open Go.IntKind renaming i64->UI,i32->UJ
open Option renaming some->UK,none->UL
open Bool renaming true->UO,false->UP
open Go.Proofs.Tryz renaming prog->UQ
namespace Go.Proofs.YtmhnaeecolpfkaaGreatDoor
open Go Go.Lft
theorem KD{W:View}:Rd W (.agg #[UM UL 0 0,UM UL 0 0,UH UI 0,UM UL 0 0,UM UL 0 0,UH UJ 0]) (⟨[],[],⟨0,[],[],⟨0⟩⟩⟩:BlkD):=by unfold Rd;rw[if_pos (show Rep.agg BlkD=UO from rfl)];exact⟨_,rfl,[_],[_,_,_,_,_],rfl,⟨_,rfl,aL⟩,[_],[_,_,_,_],rfl,⟨_,rfl,aL⟩,[_],[_,_,_],rfl,⟨rfl,by decide⟩,[_],[_,_],rfl,⟨_,rfl,aL⟩,[_],[_],rfl,⟨_,rfl,aL⟩,rfl,by decide⟩
abbrev Nf:List Value:=[UM UL 0 0,UM UL 0 0,UH UI 0,UH UI 0,UH UI 0,UM UL 0 0,UH UJ 0]
theorem Jo{W:View}:Rd W (.agg Nf.toArray) (⟨⟨UM UL 0 0⟩,⟨⟨UM UL 0 0⟩,cK⟩⟩:lf):=by unfold Rd;rw[if_pos (show Rep.agg lf=UO from rfl)];exact⟨_,rfl,[_],[_,_,_,_,_,_],rfl,⟨rfl,rfl⟩,[_],[_,_,_,_,_],rfl,⟨rfl,rfl⟩,lz U2 U3 aL⟩
theorem uv{W:View}{n:Int}(h:I64 n):Rd W (.agg #[UH UI n,UM UL 0 0]) (⟨n,⟨UM UL 0 0⟩⟩:OutD):=by unfold Rd;rw[if_pos (show Rep.agg OutD=UO from rfl)];exact⟨_,rfl,[_],[_],rfl,⟨rfl,h⟩,rfl,rfl⟩
set_option maxHeartbeats 8000000 in
theorem oI{f:ak}{l:List aH}{v vl:Value}{h:Heap}(hv:Rd (vw h) v f)(hl:SlRd (vw h) vl l)(hsm:SmF f)(ht:Tab h)(hM:iB):
  ay UQ 14 #[v,vl] h (λu h'=>(vw h).le (vw h')/\∃vm,u = .tuple #[vm,UH UI (dN f l).cost,UH UI (dN f l).err]/\Rd (vw h') vm (dN f l).code):=by
 refine rM (args:=[v,vl]) follows Tryz.func14 E.gN UC λK hK=>?_;dsimp only[L.gN,lkF,lkG];have hlen:=hsm.len;have w0:=Owns.start (h:=h) (View.le_refl (vw h));refine aa λz hz=>?_;simp;refine w0.vH (α:=ak) rfl hv λBf h1 W1 hW1 w1 atF hle1=>?_;refine w1.vH (α:=List aH) rfl (dy.2 (hl.mono hW1)) λBl h2 W2 hW2 w2 atL hle2=>?_;refine w2.nk (k:=(2,0)) (α:=OutD) (z:=.agg #[UH UI 0,UM UL 0 0]) (d:=⟨0,⟨UM UL 0 0⟩⟩) rfl U0 (uv ⟨U3,U3⟩) U3 λh3 hle3 w3=>?_;generalize h2.size=R at w3 ⊢;have atF:=atF.mono hW2;have l03:=UF hle1 (UF hle2 hle3);have lW2:=UF hW1 hW2;obtain⟨uF,huF,rF⟩:=atF.ldN rfl (N:=2) rfl;obtain⟨vl2,cl,sl⟩:=atL.list;subst hz;refine aa λz hz=>?_;simp[huF _ w3.wle,ae w3.wle cl];refine ah U0 (Bj w3.wle sl rF hsm (ht.mono l03) (λ_ _ _=>hM) (λhr=>Gy (km hr) hsm (qn rF))) ?_;rintro _ h4 ⟨hle4,rfl⟩;have w4:=w3.ext hle4;have lW4:W2.le (grow W2 h3 h4):=bw w3.wle;generalize grow W2 h3 h4=W4 at *;have l0W4:=UF lW2 lW4;simp;subst hz;refine aa λz hz=>?_;clear w0 w1 w2 w3 hle1 hle2 hle3 hle4 hW1 hW2;by_cases ce:(dR l f).1=0;rotate_left
 ·have e:dN f l=noCh (dR l f).1:=by unfold dN;rw[if_pos ce]
  rw[e]at hK;simp[ce];refine az (t:=T.mX) (z:=.agg #[UH UI 0,UM UL 0 0]) (places:=[(0,1),(1,1)]) (vs:=[]) (cs:=#[UH UI 0,UM UL 0 0]) U0 U0 U2 U0 ?_;refine w4.cW (k:=(2,0)) (α:=OutD) Part.all (D:=⟨0,⟨UM UL 0 0⟩⟩) (d:=⟨0,⟨UM UL 0 0⟩⟩) Own.aq U0 U2 U2 (uv ⟨U3,U3⟩) λh5 w5 _=>?_;have aR:=(w5.at (k:=(2,0)) (B:=R) (d:=(⟨0,⟨UM UL 0 0⟩⟩:OutD)) Own.aq).b8;intro h6 hsw;obtain⟨ur,hur,rur⟩:=(aR.mono hsw.b8).ldN rfl (N:=2) rfl;refine⟨[ur,UH UI 0,UH UI (dR l f).1],by simp[hur _ UE],hK _ _ ⟨hsw.ext (UF l0W4 w5.wle),ur,rfl,FG rur aL⟩⟩
 obtain⟨tb0,hrt,-⟩:=tW ce;have hok:Okf f:=⟨km hrt,hsm,qn rF⟩;have hcl : ∀t∈l,0<=t.cost/\t.cost<=1000:=λt ht=>tU tb0 ht;have hpat : ∀t∈l,I64 t.pat:=λt ht=>Am tb0 ht;have atF:=atF.mono lW4;have atL:=atL.mono lW4;have huF:=λK hK=>huF K (UF lW4 hK);have rF:=rF.mono lW4;have cl:=ae lW4 cl;have sl:=sl.mono lW4;clear lW4;obtain⟨cp,vb,cb,sb⟩:=fq atF;have rp:I64 f.params:=(atF.part ak.rI).rng;simp[ce];subst hz;refine aa λz hz=>?_;simp[ae w4.wle cp];refine az (t:=T.mX) (z:=.agg #[UH UI 0,UM UL 0 0]) (places:=[(0,1),(1,1)]) (vs:=[(0,UH UI f.params)]) (cs:=#[UH UI f.params,UM UL 0 0]) U0 U0 U2 U0 ?_;refine w4.qo (k:=(0,6)) (α:=OutD) (n:=2) (Own.aB U2) (uv rp) rfl (z:=.agg #[UH UI 0,UM UL 0 0]) U0 rfl U0 U3 U5 U5 λh5 hle5 w5=>?_;generalize h4.size=Bo at w5 ⊢;subst hz;refine aa λz hz=>?_;simp[huF _ w5.wle];refine ah U0 (OJ (rF.mono w5.wle) hsm) ?_;rintro _ h6 ⟨rfl,hle6⟩;have w6:=w5.ext hle6;have lW6:W4.le (grow W4 h5 h6):=bw w5.wle;generalize grow W4 h5 h6=W6 at *;refine w6.nk (k:=(0,3)) (α:=Int) (d:=0) (z:=UH UI 0) rfl U0 (bu.2 ⟨rfl,by decide,by decide⟩) U3 λh7 hle7 w7=>?_;generalize h6.size=Bt at w7 ⊢;refine w7.nk (k:=(0,4)) (α:=Int) (d:=0) (z:=UH UI 0) rfl U0 (bu.2 ⟨rfl,by decide,by decide⟩) U3 λh8 hle8 w8=>?_;generalize h7.size=Bc at w8 ⊢;refine w8.nk (k:=(0,5)) (α:=Bool) (d:=false) (z:=.bool UP) rfl U0 (pV.2 rfl) U3 λh9 hle9 w9=>?_;generalize h8.size=Bn at w9 ⊢;have tr:=GU (f:=f);refine w9.cW (k:=(0,3)) (α:=Int) Part.all (D:=0) (d:=topS f) rfl U0 U2 U2 (bu.2 ⟨rfl,by omega,by omega⟩) λh10 w10 _=>?_;refine w10.cW (k:=(0,4)) (α:=Int) Part.all (D:=0) (d:=0) rfl U0 U2 U2 (bu.2 ⟨rfl,by decide,by decide⟩) λh11 w11 _=>?_;refine w11.cW (k:=(0,5)) (α:=Bool) Part.all (D:=false) (d:=false) rfl U0 U2 U2 (pV.2 rfl) λh12 w12 _=>?_;have w12:=w12.Bz (k:=(0,7)) (α:=dV) (e:=T.gy) rfl;have w12:Owns W6 h12 (fnO R Bo Bc Bt Bn f.params (UM UL 0 0) (UM UL 0 0) [] 0 (topS f) UP):=w12.sub λk i hk=>by
  unfold fnO at hk;by_cases c3:k=(0,3)
  ·subst c3;exact hk
  by_cases c4:k=(0,4)
  ·subst c4;exact hk
  by_cases c5:k=(0,5)
  ·subst c5;exact hk
  by_cases c6:k=(0,6)
  ·subst c6;exact hk
  by_cases c7:k=(0,7)
  ·subst c7;exact hk
  by_cases c2:k=(2,0)
  ·subst c2;exact hk
  rw[if_neg c3,if_neg c4,if_neg c5,if_neg c6,if_neg c7,if_neg c2]at hk;cases hk
 clear w4 w5 w6 w7 w8 w9 w10 w11 hle5 hle6 hle7 hle8 hle9;have atF:=atF.mono lW6;have huF:=λK hK=>huF K (UF lW6 hK);have rF:=rF.mono lW6;have cl:=ae lW6 cl;have sl:=sl.mono lW6;have cb:=ae lW6 cb;have sb:=sb.mono lW6;have l06:=UF l0W4 lW6;clear lW6 l0W4 atL;subst hz;refine aa λz hz=>?_;have sbn : ∀{K:View},Un.ev K .len vb=UK (UH UI f.blocks.length):=sb.len;simp[ae w12.wle cb,sbn];refine aF [2,3,4,10,11,12,13,41,42,43] (fun(_:Unit) k=>[UN (UK ⟨Bf,0,UL⟩),UN (UK ⟨Bl,0,UL⟩),UN (UK ⟨R,0,UL⟩),UN (UK ⟨Bo,0,UL⟩),UN (UK ⟨Bt,0,UL⟩),UN (UK ⟨Bc,0,UL⟩),UN (UK ⟨Bn,0,UL⟩),vb,UH UI f.blocks.length,UH UI k])
  (λ_ k hx=>∃Wk ov,W6.le Wk/\Owns Wk hx (fnO R Bo Bc Bt Bn f.params ov ov (fnAt f l k).out (fnAt f l k).cost (fnAt f l k).temp (fnAt f l k).many)) f.blocks.length ()
  U0 U1 (by simp[aX,af,ag]) ⟨W6,_,View.le_refl _,w12⟩ (λ_ _=>rfl) (λv i h1 hk m=>by simp) ?_ ?_
 ·clear w12;rintro _ b h13 hb ⟨Wk,ov,lWk,wk⟩ K2 hK2;have hb:b<f.blocks.length:=hb;obtain⟨fb1,fb2,fb3,fb4,fb5⟩:=FV (l:=l) hsm hcl (k:=b) U1;have hbk:=hsm.blk b hb;have hil:=hbk.ins;have hfs:=wU (f:=f) (l:=l) (k:=b);generalize fnAt f l b=S at *;have sbk:=sb.mono lWk;obtain⟨ux,hux,rux⟩:=sbk.wh rfl (N:=6) rfl hb;have qt:=(sbk.mono wk.wle).idxn (k:=.i64) (N:=6) rfl (i:=(b:Int)) U1 U1;simp at qt;refine dw ?_;refine aa λy hy=>?_;simp[qt,hux _ wk.wle];refine wk.nk (k:=(3,0)) (α:=Int) (d:=0) (z:=UH UI 0) rfl U0 (bu.2 ⟨rfl,by decide,by decide⟩) U3 λh14 hle14 w14=>?_;generalize h13.size=Bk at w14 ⊢;refine w14.nk (k:=(3,1)) (α:=BlkD) (z:=.agg #[UM UL 0 0,UM UL 0 0,UH UI 0,UM UL 0 0,UM UL 0 0,UH UJ 0]) rfl U0 KD U3 λh15 hle15 w15=>?_;generalize h14.size=Bb at w15 ⊢;refine w15.cW (k:=(3,0)) (α:=Int) Part.all (D:=0) (d:=(b:Int)) rfl U0 U2 U2 (bu.2 ⟨rfl,by omega,by omega⟩) λh16 w16 _=>?_;refine w16.cW (k:=(3,1)) (α:=BlkD) Part.all (D:=⟨[],[],⟨0,[],[],⟨0⟩⟩⟩) (d:=nth f.blocks b) rfl U0 U2 U2 rux λh17 w17 _=>?_;obtain⟨W18,lW18,w18,atK⟩:=w17.mQ (k:=(3,0)) (α:=Int) (d:=(b:Int)) (e:=T.int) (B:=Bk) rfl;obtain⟨W19,lW19,w19,atB⟩:=w18.mQ (k:=(3,1)) (α:=BlkD) (d:=nth f.blocks b) (e:=T.eZ) (B:=Bb) rfl;have w19:Owns W19 h17 (fnO R Bo Bc Bt Bn f.params ov ov S.out S.cost S.temp S.many):=w19.sub λk i hk=>by
   by_cases c0:k=(3,0)
   ·subst c0;cases hk
   by_cases c1:k=(3,1)
   ·subst c1;cases hk
   simp only[Own.upd,if_neg c0,if_neg c1];exact hk
  have ck:=ae lW19 atK.int;have lK:=UF lWk (UF lW18 lW19);clear wk w14 w15 w16 w17 w18 lWk lW18 lW19 hux rux qt hle14 hle15 atK sbk;subst hy;refine aa λy hy=>?_;simp;refine w19.nk (k:=(0,0)) (α:=lf) (z:=.agg Nf.toArray) (d:=⟨⟨UM UL 0 0⟩,⟨⟨UM UL 0 0⟩,cK⟩⟩) rfl U0 Jo U3 λh20 hle20 w20=>?_;generalize h17.size=Bm at w20 ⊢;have w20:=(w20.Bz (k:=(0,1)) (α:=PhiD) (e:=T.iH) rfl).Bz (k:=(0,2)) (α:=bc) (e:=T.dt) rfl;rw[Ls]at w20;clear w19 hle20;subst hy;refine aa λy hy=>?_;obtain⟨vph,cph,sph⟩:=(atB.part BlkD.pY).list;simp at cph;have sphn : ∀{K:View},Un.ev K .len vph=UK (UH UI (nth f.blocks b).phis.length):=sph.len;have hpn:=hbk.phis;simp[ae w20.wle cph,sphn];refine aF [2,3,4,10,11,12,13,14,15,16,41,42,43,49,50,51] (fun(_:Unit) j=>[UN (UK ⟨Bf,0,UL⟩),UN (UK ⟨Bl,0,UL⟩),UN (UK ⟨R,0,UL⟩),UN (UK ⟨Bo,0,UL⟩),UN (UK ⟨Bt,0,UL⟩),UN (UK ⟨Bc,0,UL⟩),UN (UK ⟨Bn,0,UL⟩),UN (UK ⟨Bk,0,UL⟩),UN (UK ⟨Bb,0,UL⟩),UN (UK ⟨Bm,0,UL⟩),vb,UH UI f.blocks.length,UH UI b,vph,UH UI (nth f.blocks b).phis.length,UH UI j])
   (λ_ j hx=>∃Wj pv,W19.le Wj/\Owns Wj hx (blkO R Bo Bc Bt Bn f.params ov S.out S.cost S.temp S.many Bm pv pv (UM UL 0 0) (UM UL 0 0) ((nth f.blocks b).phis.take j) cK [])) (nth f.blocks b).phis.length ()
   U0 U1 (by simp[aX,af,ag]) ⟨W19,_,View.le_refl _,w20⟩ (λ_ _=>rfl) (λv i h1 hk m=>by simp) ?_ ?_
  ·clear w20;rintro _ j h21 hj ⟨Wj,pv,lWj,wj⟩ K3 hK3;have hj:j<(nth f.blocks b).phis.length:=hj;have hpl:=hbk.phi j hj;have sj:=sph.mono lWj;obtain⟨up,hup,rup⟩:=sj.wh rfl (N:=2) rfl hj;have qp:=(sj.mono wj.wle).idxn (k:=.i64) (N:=2) rfl (i:=(j:Int)) U1 U1;simp at qp;refine dw ?_;refine aa λx hx=>?_;simp[qp,hup _ wj.wle];refine df (X:=Wj) (α:=PhiD) (z:=.agg #[UH UI 0,UM UL 0 0]) U0 rfl U0 rup U5 U5 λh22 hle22 _ at22=>?_;have at22:=at22 (grow Wj h21 h22) (bw wj.wle) (bY (QY _));have w22:=wj.ext hle22;have lW22:=UF lWj (bw (h':=h22) wj.wle);generalize h21.size=Bp at at22 ⊢;generalize grow Wj h21 h22=W22 at *;clear wj hle22 qp hup rup;subst hx;obtain⟨pd,vpi,pin⟩:=xU at22;have rdst:=(at22.part PhiD.gG).rng;have hH:=Fk w22.wle (w22.av (0,1) _ rfl);have hne:pv.ownBlock≠UK Bm:=λe=>by have:=w22.dj (0,1) (0,0) _ _ Bm rfl rfl e rfl;simp at this
   have cm:an (but pv h22) ⟨Bm,0,UL⟩=UK pv:=Dn (by simpa using((w22.at (k:=(0,0)) (B:=Bm) (d:=(⟨⟨pv⟩,⟨⟨UM UL 0 0⟩,cK⟩⟩:lf)) rfl).part GJ).raw) hne;refine aG (but pv h22) wK ?_;simp[cm,ae hH pd,ae hH pin.1];refine ah U0 (ES (pin.2.mono w22.wle) U1) ?_;rintro u23 h23 ⟨hle23,s23⟩;have lH:=UF (wK (v:=pv) (h:=h22)) hle23;refine⟨lH,?_⟩;have w23:=w22.ext hle23;have s23:=s23.mono (pU (Y:=W22));have lW23:=UF lW22 (bw (h':=h23) w22.wle);generalize grow W22 h22 h23=W23 at *;have s23':=s23;obtain⟨ua,uc,rfl,-,-,-⟩:=s23';refine az (t:=T.iH) (z:=.agg #[UH UI 0,UM UL 0 0]) (places:=[(0,1),(1,1)]) (vs:=[(0,UH UI (nth (nth f.blocks b).phis j).dst),(1,.slice ua (nth (nth f.blocks b).phis j).ins.length uc)]) (cs:=#[UH UI (nth (nth f.blocks b).phis j).dst,.slice ua (nth (nth f.blocks b).phis j).ins.length uc]) U0 U0 U2 U0 ?_;refine⟨lH,?_⟩;have rphi:Rd W23 (.agg #[UH UI (nth (nth f.blocks b).phis j).dst,.slice ua (nth (nth f.blocks b).phis j).ins.length uc]) (nth (nth f.blocks b).phis j):=by unfold Rd;rw[if_pos (show Rep.agg PhiD=UO from rfl)];exact⟨_,rfl,[_],[_],rfl,⟨rfl,rdst⟩,⟨_,rfl,s23⟩⟩
   refine mq (α:=PhiD) (W:=W23) El.mT U2 rphi λu24 h24 hsrc hle24 _=>⟨UF lH hle24,?_⟩;have w24:=w23.ext' hle24;have htk:((nth f.blocks b).phis.take j).length<=10000:=by rw[RJ];omega
   refine Lft.dA El.mT U2 U2 (w24.get (k:=(0,1)) (v:=pv) (l:=(nth f.blocks b).phis.take j) rfl) hsrc (by simp only[Rz];omega) (by simp only[Rz];omega) λv25 h25 o25 m25=>?_;have w25:=w24.gz (k:=(0,1)) rfl o25 m25;have hv25:=(w25.cells (k:=(0,1)) Own.aq).2;refine w25.cW (k:=(0,0)) (α:=lf) GJ (D:=⟨⟨pv⟩,⟨⟨UM UL 0 0⟩,cK⟩⟩) (d:=⟨v25⟩) rfl U0 U2 U2 (iE.2 ⟨rfl,hv25⟩) λh26 w26 _=>?_;rw[Ic]at w26;refine hK3 () _ _ (by simp[af,ag]) (by simp[aX,af,ag]) ⟨W23,v25,lW23,?_⟩;rw[Ri hj,<-aA hj];exact w26
  clear w20;rintro _ h21 ⟨Wj,pv,lWj,wj⟩;rw[RM]at wj;have lKj:=UF lK lWj;simp;subst hy;refine aa λy hy=>?_;simp[huF _ (UF lKj wj.wle),ae (UF lKj wj.wle) cl,ae (UF lWj wj.wle) ck];refine ah U0 (qF wj (rF.mono lKj) (sl.mono lKj) hok hM hb hpat hcl) ?_;rintro _ h22 ⟨C,rm,rc,rb,B22,W22,rfl,hsol,lW22,cw22⟩;refine df (α:=Raw) (d:=⟨UN (UK ⟨C,0,UL⟩)⟩) (X:=B22) (z:=UN UL) U0 rfl U0 (iE.2 ⟨rfl,rfl⟩) U5 U5 λh23 hle23 _ at23=>?_;have at23:=(at23 (grow B22 h22 h23) cw22.z.up (bY (QY _))).raw;have cw23:=cw22.ext hle23;have lW23:=UF lW22 (cw22.z.upW (h':=h23));generalize h22.size=Bq at at23 ⊢;generalize grow B22 h22 h23=B23 at *;generalize grow W22 h22 h23=W23 at *;subst hy;refine aa λy hy=>?_;simp;refine df (α:=Raw) (d:=⟨.func (.func 50) #[] #[UN (UK ⟨Bf,0,UL⟩),UN (UK ⟨Bk,0,UL⟩),UN (UK ⟨Bt,0,UL⟩),UN (UK ⟨Bm,0,UL⟩),UN (UK ⟨Bb,0,UL⟩),UN (UK ⟨Bn,0,UL⟩)]⟩) (X:=B23) (z:=.nilFunc) U0 rfl U0 (iE.2 ⟨rfl,rfl⟩) U5 U5 λh24 hle24 _ at24=>?_;have at24:=(at24 (grow B23 h23 h24) cw23.z.up (bY (QY _))).raw;have at23:=ae (cw23.z.up (h':=h24)) at23;have cw24:=cw23.ext hle24;have lW24:=UF lW23 (cw23.z.upW (h':=h24));generalize h23.size=Br at at24 ⊢;generalize grow B23 h23 h24=B24 at *;generalize grow W23 h23 h24=W24 at *;clear cw22 cw23 hle23 hle24 lW22 lW23 wj hsol;subst hy;refine aa λy hy=>?_;refine aa λx hx=>?_;simp[ae cw24.z.wle at23];refine ah U0 (CS cw24 (λp t=>rP) hpat) ?_;rintro _ h25 ⟨p1,p2,B25,W25,rfl,lB25,lW25,cw25,hit⟩;have ch:=cw25.ch.mono cw25.z.le;have c19:=ae (UF lB25 cw25.z.le) at23;have c20:=ae (UF lB25 cw25.z.le) at24;have mb:=cw25.mb;have own25:=cw25.z.own;have lj25:=UF lW24 lW25;have l25:=UF lKj lj25;have atF25:=atF.mono l25;have ck25:=ae (UF lWj lj25) ck;have atB25:=atB.mono (UF lWj lj25);have cl25:=ae l25 cl;have sl25:=sl.mono l25;clear cw24 cw25 at23 at24 lB25 lW25 lW24 lj25 lWj lK cph sph;subst hx;refine dw ?_;refine tN (enc:=natV) (all:=eO f b l) (gf:=99) (caps:=[UN (UK ⟨p1,0,UL⟩),UN (UK ⟨p2,0,UL⟩)]) W25 W25
   (λe k X hx=>e=UL/\∃Y o',Held h25.size X Y hx o'/\(W25.le Y/\∃iv,o'=blkO R Bo Bc Bt Bn f.params ov S.out (lX f l b S k).cost (lX f l b S k).temp (lX f l b S k).many Bm pv pv iv iv (nth f.blocks b).phis (lX f l b S k).blk.fin (lX f l b S k).blk.ins))
   rfl U0 hit (λ_=>rfl) UE (λe k=>⟨λ⟨_,q⟩=>Held.yf.le q,λ⟨a,q⟩ h1 h2 h3 h4=>⟨a,Held.yf.move q h1 h2 h3 h4⟩⟩) ⟨rfl,W25,_,Held.start own25,View.le_refl _,(UM UL 0 0),rfl⟩
   (λx h1=>by simp[natV,dC];rfl) ?_ ?_ ?_
  ·rintro k i X h26 hag hk ⟨_,Y,o',w,lY,iv,rfl⟩ K3 hK3 _;have hkr:k<(eO f b l).length:=(Sd.1 hk).1;obtain⟨hi,-⟩:=ED hk;have lb:=CA (s:=S) hsm hb hcl (k:=k) U1;have hls:=Fp (s:=S) hk;have hrl:=sI (f:=f) (b:=b) (l:=l);generalize lX f l b S k=q at *;obtain⟨q1,q2,q3,q4,q5,q6⟩:=lb;have q1:S.temp<=q.temp:=q1;have q2:q.temp<=S.temp+k:=q2;have q3:S.cost<=q.cost:=q3;have q4:q.cost<=S.cost+1000*k:=q4;have q5:q.blk.ins.length<=0+2*k:=q5;have lYh:=UF lY w.own.wle;refine dw ?_;refine aa λx hx=>?_;simp[ae lYh c19,ae lYh ch.x6];refine eR (f:=mapI (cY f b l).best) (z:=UH UI 0) (k:=T.int) (e:=T.int) (d:=.int .i64) (r:=rb) (u:=UH UI i) U0 U0 U0 rfl rfl cQ ((mb.mono lY).is w.own.wle) ?_;cases hbi:(cY f b l).best i with
   | none=>
    have er:fN f b l q i=layS f b i 0 q:=by unfold fN;rw[hbi]
    simp[hbi];subst hx;simp[ae lYh c20];refine bX (ops:=[.tmp 87,.const (UH UI 0)]) (caps:=#[UN (UK ⟨Bf,0,UL⟩),UN (UK ⟨Bk,0,UL⟩),UN (UK ⟨Bt,0,UL⟩),UN (UK ⟨Bm,0,UL⟩),UN (UK ⟨Bb,0,UL⟩),UN (UK ⟨Bn,0,UL⟩)]) rfl U0 (Jn w rfl rfl (atF25.mono lY) (ae lY ck25) (atB25.mono lY) hsm hM hb hi ⟨U3,U3⟩ U6 U1) ?_;rintro _ h27 ⟨Y',iv',lY',w'⟩;rw[DC]at w';refine hK3 _ _ ⟨rfl,Y',_,w',UF lY lY',iv',?_⟩;rw[hls,er];rfl
   | some t=>
    obtain⟨t0,t1⟩:=rP hbi;obtain⟨tn,rfl⟩:=Sa t0;have ht:tn<l.length:=by omega
    have hc:=hcl _ (bo ht);have er:fN f b l q i=layS f b i (nth l tn).pat { q with cost:=q.cost+(nth l tn).cost }:=by unfold fN;rw[hbi];rfl
    have slh:=sl25.mono lYh;have ql:=slh.idxn (k:=.i64) (N:=2) rfl (i:=(tn:Int)) U1 U1;have kc:=((slh.at ht).part aH.zQ).int;have kp:=((slh.at ht).part aH.zH).int;rw[<-aA ht]at kc kp;have n2:Rep.n aH=2:=rfl;simp[n2]at ql kc kp;have cc:an (vw h26) ⟨Bc,0,UL⟩=UK (UH UI q.cost):=(w.own.at (k:=(0,4)) rfl).int;have ew:IntKind.i64.wrap (q.cost+(nth l tn).cost)=q.cost+(nth l tn).cost:=aS U1 U1;simp[hbi];subst hx;refine aa λx hx=>?_;simp;subst hx;refine aa λx hx=>?_;refine aG (vw h26) UE ?_;simp[cc,ae lYh cl25,ql,kc,ew];refine w.cW (k:=(0,4)) (α:=Int) Part.all (D:=q.cost) (d:=q.cost+(nth l tn).cost) rfl U0 U2 U2 (bu.2 ⟨rfl,by omega,by omega⟩) λh27 w27=>?_;rw[Iu]at w27;subst hx;have lY27:=UF lY w27.own.wle;have sl27:=sl25.mono lY27;have kp:=((sl27.at ht).part aH.zH).int;rw[<-aA ht]at kp;simp[n2]at kp;refine aG (vw h27) UE ?_;simp[ae lY27 c20,ae lY27 cl25,ql,kp];refine bX (ops:=[.tmp 97,.tmp 102]) (caps:=#[UN (UK ⟨Bf,0,UL⟩),UN (UK ⟨Bk,0,UL⟩),UN (UK ⟨Bt,0,UL⟩),UN (UK ⟨Bm,0,UL⟩),UN (UK ⟨Bb,0,UL⟩),UN (UK ⟨Bn,0,UL⟩)]) rfl U0 (Jn w27 rfl rfl (atF25.mono lY) (ae lY ck25) (atB25.mono lY) hsm hM hb hi (hpat _ (bo ht)) U6 U1) ?_;rintro _ h28 ⟨Y',iv',lY',w'⟩;rw[DC]at w';refine hK3 _ _ ⟨rfl,Y',_,w',UF lY lY',iv',?_⟩;rw[hls,er];rfl
  ·rintro X h26 hag ⟨_,Y,o',w,lY,iv,rfl⟩;have w:=w.own;have lb:=CA (s:=S) hsm hb hcl (QY (eO f b l).length);have hrl:=sI (f:=f) (b:=b) (l:=l);generalize lX f l b S (eO f b l).length=q at *;obtain⟨q1,q2,q3,q4,q5,q6⟩:=lb;have q6:q.blk.phis=(nth f.blocks b).phis:=q6;have cov:an (vw h26) ⟨Bo,1,UL⟩=UK ov:=by simpa using((w.at (k:=(0,6)) (B:=Bo) (d:=(⟨f.params,⟨ov⟩⟩:OutD)) rfl).part GA).raw
   obtain⟨um,hum,rum⟩:=w.ldB (k:=(0,0)) (B:=Bm) (d:=(⟨⟨pv⟩,⟨⟨iv⟩,q.blk.fin⟩⟩:lf)) rfl rfl (N:=7) rfl;obtain⟨w2,s2⟩:=w.freeze (k:=(0,1)) (α:=PhiD) (e:=T.iH) (v:=pv) (l:=(nth f.blocks b).phis) rfl;have l2:=iN (h:=h26) (w.av (0,1) _ rfl);obtain⟨w3,s3⟩:=w2.freeze (k:=(0,2)) (α:=bc) (e:=T.dt) (v:=iv) (l:=q.blk.ins) rfl;have l3:=iN (h:=h26) (w2.av (0,2) _ rfl);have w4:=w3.sub H7;have rb:=LP (rum.mono (UF l2 l3)) (s2.mono l3) s3;have eb:(⟨(nth f.blocks b).phis,q.blk.ins,q.blk.fin⟩:dV)=q.blk:=by rw[<-q6]
   rw[eb]at rb;simp;subst hy;simp[cov,hum];refine w4.fM (k:=(0,7)) (α:=dV) (v:=ov) (l:=S.out) rfl El.pK U2 rb U1 U1 U5 U5 λu5 v5 h5 w5 _=>?_;have hv5:=(w5.cells (k:=(0,7)) Own.aq).2;refine w5.cW (k:=(0,6)) (α:=OutD) GA (D:=⟨f.params,⟨ov⟩⟩) (d:=⟨v5⟩) rfl U0 U2 U2 (iE.2 ⟨rfl,hv5⟩) λh6 w6 _=>?_;rw[Jd]at w6;refine hK2 () _ _ (by simp[af,ag]) (by simp[aX,af,ag]) ⟨_,v5,UF (UF l25 lY) (UF l2 l3),?_⟩;rw[hfs];exact w6
  rintro e k X h26 hag ⟨hne,_⟩;cases hne
 clear w12;rintro _ h13 ⟨Wk,ov,lWk,wk⟩;have hfn:fnAt f l f.blocks.length=fnS f l:=rfl;rw[hfn]at wk;have l0k:=UF l06 lWk;simp;subst hz;have nc:an (vw h13) ⟨Bn,0,UL⟩=UK (.bool (fnS f l).many):=(wk.at (k:=(0,5)) rfl).bool;refine aa λz hz=>?_;cases hm:(fnS f l).many with
 | true=>
  have e:dN f l=noCh 2:=by unfold dN;rw[if_neg (by rw[ce];simp),if_pos hm]
  rw[e]at hK;rw[hm]at nc;simp[nc];refine az (t:=T.mX) (z:=.agg #[UH UI 0,UM UL 0 0]) (places:=[(0,1),(1,1)]) (vs:=[]) (cs:=#[UH UI 0,UM UL 0 0]) U0 U0 U2 U0 ?_;refine wk.cW (k:=(2,0)) (α:=OutD) Part.all (D:=⟨0,⟨UM UL 0 0⟩⟩) (d:=⟨0,⟨UM UL 0 0⟩⟩) rfl U0 U2 U2 (uv ⟨U3,U3⟩) λh5 w5 _=>?_;have aR:=(w5.at (k:=(2,0)) (B:=R) (d:=(⟨0,⟨UM UL 0 0⟩⟩:OutD)) Own.aq).b8;intro h6 hsw;obtain⟨ur,hur,rur⟩:=(aR.mono hsw.b8).ldN rfl (N:=2) rfl;refine⟨[ur,UH UI 0,UH UI 2],by simp[hur _ UE],hK _ _ ⟨hsw.ext (UF l0k w5.wle),ur,rfl,FG rur aL⟩⟩
 | false=>
  have e:dN f l=⟨⟨f.params,(fnS f l).out⟩,(fnS f l).cost,0⟩:=by unfold dN;rw[if_neg (by rw[ce];simp),if_neg (by rw[hm];simp)]
  rw[e]at hK;rw[hm]at nc;simp[nc];subst hz;refine aa λz hz=>?_;have cc:an (vw h13) ⟨Bc,0,UL⟩=UK (UH UI (fnS f l).cost):=(wk.at (k:=(0,4)) rfl).int;have hRo:(UM (UK ⟨R,0,UL⟩) 1 1).ownBlock≠UK Bo:=λe=>by have:=wk.dj (2,0) (0,6) _ _ Bo rfl rfl e rfl;simp at this
  have hRc:(UM (UK ⟨R,0,UL⟩) 1 1).ownBlock≠UK Bc:=λe=>by have:=wk.dj (2,0) (0,4) _ _ Bc rfl rfl e rfl;simp at this
  obtain⟨uo,huo,ruo⟩:=(wk.Pv (k:=(0,6)) (B:=Bo) (d:=(⟨f.params,⟨ov⟩⟩:OutD)) rfl hRo (wk.av (2,0) _ rfl)).ldN rfl (N:=2) rfl;have ruo:Rd Wk uo (⟨f.params,⟨ov⟩⟩:OutD):=ruo;refine aG (but (UM (UK ⟨R,0,UL⟩) 1 1) h13) wK ?_;simp[Dn cc hRc,huo _ UE];refine wk.pk (k:=(2,0)) (α:=OutD) Part.all (D:=⟨0,⟨UM UL 0 0⟩⟩) (d:=⟨f.params,⟨ov⟩⟩) rfl U0 U2 U2 ruo λh5 w5 hX=>⟨hX _ wK (if_pos rfl),?_⟩;subst hz;have aR:=(w5.at (k:=(2,0)) (B:=R) (d:=(⟨f.params,⟨ov⟩⟩:OutD)) Own.aq).b8;have sR:=dy.1 (dy.2 (w5.now (k:=(0,7)) (α:=dV) (e:=T.gy) (v:=ov) (l:=(fnS f l).out) rfl)).b8;simp;intro h6 hsw;obtain⟨ur,hur,rur⟩:=(aR.mono hsw.b8).ldN rfl (N:=2) rfl;refine⟨[ur,UH UI (fnS f l).cost,UH UI 0],by simp[hur _ UE],hK _ _ ⟨hsw.ext (UF l0k w5.wle),ur,rfl,FG rur (sR.mono hsw.b8)⟩⟩
def wY (f:ak) (b:Nat) (l:List aH) (out:List Int) (i:Nat):List Int:=match (cY f b l).best i with
 | none=>out
 | some t=>out.set i t
def iI (f:ak) (l:List aH) (b k:Nat):List Int:=((eO f b l).take k).foldl (wY f b l) (List.replicate ((nth f.blocks b).ins.length+1) (-1))
def wE (f:ak) (l:List aH) (b:Int):List Int:=if(dR l f).1≠0\/b<0\/f.blocks.length<=b then[] else iI f l b.toNat (eO f b.toNat l).length
theorem Dv{f:ak}{l:List aH}{b k:Nat}:(iI f l b k).length=(nth f.blocks b).ins.length+1:=by
 unfold iI;have : ∀(r:List Nat) (s:List Int),(r.foldl (wY f b l) s).length=s.length:=λr=>by
  induction r with
  | nil=>intro s;rfl
  | cons a r ih=>intro s;rw[RB,ih];unfold wY;split<;>simp
 rw[this];simp
def qS (n k:Nat):List Int:=List.replicate k (-1)++List.replicate (n-k) 0
theorem Kw{n k:Nat}(h:k<n):(qS n k).set k (-1)=qS n (k+1):=by unfold qS;rw[List.set_append_right _ _ U2];simp only[RS,Tu];rw[show n-k=(n-(k+1))+1 by omega,List.replicate_succ,List.set_cons_zero,List.replicate_succ' (n:=k),Rj];rfl
theorem yr{n k:Nat}(h:k<=n):(qS n k).length=n:=by unfold qS;simp;omega
def tlO (Bo:Nat) (ov:Value) (l:List Int):Own:=λk=>if k=(0,0) then bx T.aY Bo (⟨ov⟩:Raw) else if k=(0,1) then it T.int ov l else UL
theorem Gz{Bo:Nat}{ov:Value}{l l2:List Int}:(tlO Bo ov l).upd (0,1) (it T.int ov l2)=tlO Bo ov l2:=by
 funext k;unfold tlO Own.upd;by_cases c:k=(0,1)
 ·subst c;rfl
 simp only[if_neg c]
set_option maxHeartbeats 4000000 in
theorem Jz{f:ak}{l:List aH}{v vl:Value}{b:Int}{h:Heap}(hv:Rd (vw h) v f)(hl:SlRd (vw h) vl l)(hsm:SmF f)(ht:Tab h)(hM:iB):
  ay UQ 32 #[v,vl,UH UI b] h (λu h'=>(vw h).le (vw h')/\SlRd (vw h') u (wE f l b)):=by
 refine rM (args:=[v,vl,UH UI b]) follows Tryz.func32 E.jj UC λK hK=>?_;dsimp only[L.jj,lkF,lkG];have hlen:=hsm.len;have w0:=Owns.start (h:=h) (View.le_refl (vw h));refine aa λz hz=>?_;simp;refine w0.vH (α:=ak) rfl hv λBf h1 W1 hW1 w1 atF hle1=>?_;subst hz;refine aa λz hz=>?_;obtain⟨uF,huF,rF⟩:=atF.ldN rfl (N:=2) rfl;have sl:=hl.mono hW1;simp[huF _ w1.wle];refine ah U0 (Bj w1.wle sl rF hsm (ht.mono hle1) (λ_ _ _=>hM) (λhr=>Gy (km hr) hsm (qn rF))) ?_;rintro _ h2 ⟨hle2,rfl⟩;have w2:=w1.ext hle2;have lW2:W1.le (grow W1 h1 h2):=bw w1.wle;generalize grow W1 h1 h2=W2 at *;have l02:=UF hW1 lW2;have huF:=λK hK=>huF K (UF lW2 hK);have rF:=rF.mono lW2;have sl:=sl.mono lW2;have atF:=atF.mono lW2;clear lW2 w1 w0 hW1 hle1 hle2;obtain⟨-,vb,cb,sb⟩:=fq atF;have sbn : ∀{K:View},Un.ev K .len vb=UK (UH UI f.blocks.length):=sb.len;simp;subst hz;refine aa λz hz=>?_;have cb2:=ae w2.wle cb;by_cases cn:(dR l f).1≠0\/b<0\/(f.blocks.length:Int)<=b
 ·have e:wE f l b=[]:=by unfold wE;rw[if_pos cn]
  rw[e]at hK;refine jR U4 ?_ ?_
  ·by_cases c1:(dR l f).1=0
   ·by_cases c2:b<0
    ·simp[cb2,sbn,c1,c2]
    have c3:(f.blocks.length:Int)<=b:=by
     rcases cn with c | c | c
     ·exact absurd c1 c
     ·exact absurd c c2
     exact c
    simp[cb2,sbn,c1,c2,c3]
   simp[cb2,sbn,c1]
  simp;intro h6 hsw;exact⟨_,rfl,hK _ _ ⟨hsw.ext (UF l02 w2.wle),aL⟩⟩
 have ce:(dR l f).1=0:=Classical.byContradiction λc=>cn (.inl c);have b0:0<=b:=by omega
 obtain⟨bn,rfl⟩:=Sa b0;have hb:bn<f.blocks.length:=by omega
 have e:wE f l bn=iI f l bn (eO f bn l).length:=by unfold wE;rw[if_neg cn];rfl
 rw[e]at hK;obtain⟨tb0,hrt,-⟩:=tW ce;have hok:Okf f:=⟨km hrt,hsm,qn rF⟩;have hcl : ∀t∈l,0<=t.cost/\t.cost<=1000:=λt ht=>tU tb0 ht;have hpat : ∀t∈l,I64 t.pat:=λt ht=>Am tb0 ht;have hil:=(hsm.blk bn hb).ins;have nb:¬((f.blocks.length:Int)<=bn):=by omega
 have nb2:¬((bn:Int)<0):=by omega
 refine jS U4 ?_ ?_
 ·simp[cb2,sbn,ce,nb,nb2]
 subst hz;refine aa λz hz=>?_;simp[huF _ w2.wle];refine ah U0 (qF w2 rF sl hok hM hb hpat hcl) ?_;rintro _ h22 ⟨C,rm,rc,rb,B22,W22,rfl,hsol,lW22,cw22⟩;refine df (α:=Raw) (d:=⟨UN (UK ⟨C,0,UL⟩)⟩) (X:=B22) (z:=UN UL) U0 rfl U0 (iE.2 ⟨rfl,rfl⟩) U5 U5 λh23 hle23 _ at23=>?_;have at23:=(at23 (grow B22 h22 h23) cw22.z.up (bY (QY _))).raw;have cw23:=cw22.ext hle23;have lW23:=UF lW22 (cw22.z.upW (h':=h23));generalize h22.size=Bq at at23 ⊢;generalize grow B22 h22 h23=B23 at *;generalize grow W22 h22 h23=W23 at *;clear cw22 hsol lW22 hle23 w2 cb2;subst hz;refine aa λz hz=>?_;have w3:=cw23.z.own;have atF3:=atF.mono lW23;have cb3:=ae w3.wle (ae lW23 cb);have qb:=(((sb.mono lW23).mono w3.wle)).idxn (k:=.i64) (N:=6) rfl (i:=(bn:Int)) U1 U1;obtain⟨vin,cin,sin⟩:=((((sb.mono lW23).mono w3.wle).at hb).part BlkD.ig).list;have n6:Rep.n BlkD=6:=rfl;simp[n6]at qb cin;rw[<-aA hb]at sin;have sn : ∀{K:View},Un.ev K .len vin=UK (UH UI (nth f.blocks bn).ins.length):=sin.len;have ew:IntKind.i64.wrap (((nth f.blocks bn).ins.length:Int)+1)=(((nth f.blocks bn).ins.length+1:Nat):Int):=by rw[aS U1 U1];omega
 obtain⟨n,hn⟩ : ∃n,n=(nth f.blocks bn).ins.length+1:=⟨_,rfl⟩;rw[<-hn]at ew;simp[cb3,qb,cin,sn,ew];refine nZ (α:=Int) (k:=.i64) (W:=W23) (n:=n) (d:=0) El.aY U2 U2 ⟨rfl,by decide,by decide⟩ U1 U1 λov h24 o24 _ hle24 hob=>?_;have w4:=w3.add (k:=(0,1)) rfl o24 hle24 (λb hb=>by rw[hob]at hb;simp at hb;omega);have hov:=(w4.cells (k:=(0,1)) Own.aq).2;refine w4.qo (k:=(0,0)) (α:=Raw) (d:=⟨ov⟩) (n:=1) (Own.aB U2) (iE.2 ⟨rfl,hov⟩) rfl (z:=UM UL 0 0) U0 rfl U0 U3 U5 U5 λh25 hle25 w5=>?_;generalize h24.size=Bo at w5 ⊢;have w5:Owns W23 h25 (tlO Bo ov (qS n 0)):=w5.sub λk i hk=>by
  unfold tlO at hk;by_cases c0:k=(0,0)
  ·subst c0;exact hk
  by_cases c1:k=(0,1)
  ·subst c1;exact hk
  rw[if_neg c0,if_neg c1]at hk;cases hk
 have lt25 : ∀{r:Nat} {g:Value->Option Value},MV (.int .i64) W23 r g->dd (.int .i64) h25 r g:=λm=>m.is w5.wle;clear w4 w3 o24 hob qb cin sn cb3;subst hz;refine aa λz hz=>?_;have co : ∀{hx:Heap} {Wx:View} {L:List Int},Owns Wx hx (tlO Bo ov L)->an (vw hx) ⟨Bo,0,UL⟩=UK ov:=λw=>(w.at (k:=(0,0)) (B:=Bo) (d:=(⟨ov⟩:Raw)) rfl).raw;have rn : ∀{hx:Heap} {Wx:View} {L:List Int},Owns Wx hx (tlO Bo ov L)->SlRd (vw hx) ov L:=λw=>w.now (k:=(0,1)) rfl;have lo : ∀{K:View},Un.ev K .len ov=UK (UH UI n):=fun{K}=>by have:=(rn w5).len (K:=K);rw[yr (Ss _)]at this;exact this
 simp[co w5,lo];refine aF [3,10,11,50,51] (fun(_:Unit) k=>[UN (UK ⟨Bf,0,UL⟩),UN (UK ⟨Bq,0,UL⟩),UN (UK ⟨Bo,0,UL⟩),UH UI n,UH UI k])
  (λ_ k hx=>Owns W23 hx (tlO Bo ov (qS n k))/\h23.size<=hx.size) n ()
  U0 U1 (by simp[aX,af,ag]) ⟨w5,Rq (bL hle24) (bL hle25)⟩ (λ_ _=>rfl) (λv i h1 hk m=>by simp) ?_ ?_
 ·rintro _ k h26 hk ⟨w6,hs6⟩ K2 hK2;have hk:k<n:=hk;have q:=(rn w6).idx1 (k:=.i64) (i:=(k:Int)) rfl U1 (by rw[yr U1];omega);simp at q;refine dw ?_;refine aa λy hy=>?_;simp;subst hy;simp[co w6,q];refine w6.bG (k:=(0,1)) (α:=Int) (l:=qS n k) (i:=k) (d:=-1) rfl U0 (by simp[Rep.n]) U2 (by rw[yr U1];omega) (bu.2 ⟨rfl,by decide,by decide⟩) λh27 w7 hs7=>?_;rw[Gz,Kw hk]at w7;exact hK2 () _ _ (by simp[af,ag]) (by simp[aX,af,ag]) ⟨w7,by omega⟩
 rintro _ h26 ⟨w6,hs6⟩;have cw26:Cw B23 W23 h26 (tlO Bo ov (qS n n)) C rm rc rb f bn l (mkU f bn) (cY f bn l) [rb,rc,rm]:=⟨⟨w6,cw23.z.le,cw23.z.no,λr hr=>RX (cw23.z.lt r hr) hs6⟩,cw23.ch,cw23.mm,cw23.mc,cw23.mb,cw23.ne,cw23.cin,cw23.bin⟩;have hfl:qS n n=iI f l bn 0:=by unfold qS iI;rw[<-hn];simp
 rw[hfl]at cw26;simp;subst hz;refine aa λz hz=>?_;refine aa λx hx=>?_;simp[ae cw26.z.wle at23];refine ah U0 (CS cw26 (λp t=>rP) hpat) ?_;rintro _ h27 ⟨p1,p2,B27,W27,rfl,lB27,lW27,cw27,hit⟩;have ch:=cw27.ch.mono cw27.z.le;have c10:=ae (UF lB27 cw27.z.le) at23;have mb:=cw27.mb;have own27:=cw27.z.own;subst hx;refine dw ?_;refine tN (enc:=natV) (all:=eO f bn l) (gf:=99) (caps:=[UN (UK ⟨p1,0,UL⟩),UN (UK ⟨p2,0,UL⟩)]) W27 W27
  (λe k X hx=>e=UL/\∃Y o',Held h27.size X Y hx o'/\(W27.le Y/\o'=tlO Bo ov (iI f l bn k)))
  rfl U0 hit (λ_=>rfl) UE (λe k=>⟨λ⟨_,q⟩=>Held.yf.le q,λ⟨a,q⟩ h1 h2 h3 h4=>⟨a,Held.yf.move q h1 h2 h3 h4⟩⟩) ⟨rfl,W27,_,Held.start own27,View.le_refl _,rfl⟩
  (λx h1=>by simp[natV,dC];rfl) ?_ ?_ ?_
 ·rintro k i X h28 hag hk ⟨_,Y,o',w,lY,rfl⟩ K3 hK3 _;obtain⟨hi,-⟩:=ED hk;have hst:iI f l bn (k+1)=wY f bn l (iI f l bn k) i:=tQ hk;have hle:=Dv (f:=f) (l:=l) (b:=bn) (k:=k);have lYh:=UF lY w.own.wle;refine dw ?_;refine aa λx hx=>?_;simp[ae lYh c10,ae lYh ch.x6];refine eR (f:=mapI (cY f bn l).best) (z:=UH UI 0) (k:=T.int) (e:=T.int) (d:=.int .i64) (r:=rb) (u:=UH UI i) U0 U0 U0 rfl rfl cQ ((mb.mono lY).is w.own.wle) ?_;cases hbi:(cY f bn l).best i with
  | none=>
   have er:iI f l bn (k+1)=iI f l bn k:=by rw[hst];unfold wY;rw[hbi]
   simp[hbi];subst hx;simp;exact hK3 _ _ ⟨rfl,Y,_,w,lY,by rw[er]⟩
  | some t=>
   have er:iI f l bn (k+1)=(iI f l bn k).set i t:=by rw[hst];unfold wY;rw[hbi]
   obtain⟨t0,t1⟩:=rP hbi;have bl:=sl.bound;have q:=(rn w.own).idx1 (k:=.i64) (i:=(i:Int)) rfl U1 (by rw[hle];omega);simp at q;simp[hbi];subst hx;simp[co w.own,q];refine w.bG (k:=(0,1)) (α:=Int) (l:=iI f l bn k) (i:=i) (d:=t) rfl U0 (by simp[Rep.n]) U2 (by rw[hle];omega) (bu.2 ⟨rfl,by omega,by omega⟩) λh29 w29=>?_;rw[Gz]at w29;exact hK3 _ _ ⟨rfl,Y,_,w29,lY,by rw[er]⟩
 ·rintro X h28 hag ⟨_,Y,o',w,lY,rfl⟩;simp;subst hz;have sR:=dy.1 (dy.2 (rn w.own)).b8;simp[co w.own];intro h6 hsw;exact⟨_,rfl,hK _ _ ⟨hsw.ext (UF l02 (UF lW23 (UF lW27 (UF lY w.own.wle)))),sR.mono hsw.b8⟩⟩
 rintro e k X h28 hag ⟨hne,_⟩;cases hne
def ex8F:ak:=⟨1,[⟨[],[⟨1,1,0,[],⟨5⟩⟩,⟨2,2,0,[0,1],⟨0⟩⟩],⟨4,[2],[],⟨0⟩⟩⟩]⟩
theorem N4{h:Heap}{W:View}(hW:W.le (vw h)):ay UQ 31 #[] h (λu h'=>(vw h).le (vw h')/\Rd (grow W h h') u ex8F):=by refine ao (args:=[]) follows Tryz.func31 E.lI UC λK hK=>?_;dsimp only[L.lI,lkF,lkG];have c0:=Cx.start hW;refine aa λz hz=>?_;simp;refine c0.db (k:=(0,0)) (n:=1) (z:=.agg #[UH UI 0,UM UL 0 0]) rfl U0 rfl U3 U8 λR h1 hle1 c1=>?_;subst hz;refine aa λz hz=>?_;simp;refine az (t:=T.e9) (z:=.agg #[UH UI 0,UH UI 0,UH UI 0,UM UL 0 0,UH UJ 0]) (places:=[(0,1),(1,1),(2,1),(3,1),(4,1)]) (vs:=[(0,UH UI 1),(1,UH UI 1),(4,UH UJ 5)]) (cs:=#[UH UI 1,UH UI 1,UH UI 0,UM UL 0 0,UH UJ 5]) U0 U0 U2 U0 ?_;refine c1.mw (α:=Int) (vs:=[UH UI 0,UH UI 1]) (ds:=[0,1]) El.aY U0 ⟨bu.2 ⟨rfl,by decide⟩,bu.2 ⟨rfl,by decide⟩,trivial⟩ rfl U3 U3 λu2 h2 W2 hW2 c2 s2 hle2=>?_;obtain⟨b2,n2,k2,rfl⟩:=SlRd.ex s2;refine az (t:=T.e9) (z:=.agg #[UH UI 0,UH UI 0,UH UI 0,UM UL 0 0,UH UJ 0]) (places:=[(0,1),(1,1),(2,1),(3,1),(4,1)]) (vs:=[(0,UH UI 2),(1,UH UI 2),(3,(.slice b2 n2 k2))]) (cs:=#[UH UI 2,UH UI 2,UH UI 0,(.slice b2 n2 k2),UH UJ 0]) U0 U0 U2 (by simp[Instr.fill,Value.cells]) ?_;refine c2.mw (α:=InsD) (vs:=[.agg #[UH UI 1,UH UI 1,UH UI 0,UM UL 0 0,UH UJ 5],.agg #[UH UI 2,UH UI 2,UH UI 0,(.slice b2 n2 k2),UH UJ 0]]) (ds:=[⟨1,1,0,[],⟨5⟩⟩,⟨2,2,0,[0,1],⟨0⟩⟩]) El.pb U2 ⟨GM ⟨U3,U3⟩ ⟨U3,U3⟩ ⟨U3,U3⟩ aL U3,GM ⟨U3,U3⟩ ⟨U3,U3⟩ ⟨U3,U3⟩ s2 U3,trivial⟩ rfl U3 U3 λu3 h3 W3 hW3 c3 s3 hle3=>?_;obtain⟨b3,n3,k3,rfl⟩:=SlRd.ex s3;refine c3.mw (α:=Int) (vs:=[UH UI 2]) (ds:=[2]) El.aY U0 ⟨bu.2 ⟨rfl,by decide⟩,trivial⟩ rfl U3 U3 λu4 h4 W4 hW4 c4 s4 hle4=>?_;obtain⟨b4,n4,k4,rfl⟩:=SlRd.ex s4;refine az (t:=T.jH) (z:=.agg #[UH UI 0,UM UL 0 0,UM UL 0 0,UH UJ 0]) (places:=[(0,1),(1,1),(2,1),(3,1)]) (vs:=[(0,UH UI 4),(1,(.slice b4 n4 k4))]) (cs:=#[UH UI 4,(.slice b4 n4 k4),UM UL 0 0,UH UJ 0]) U0 U0 U2 (by simp[Instr.fill,Value.cells]) ?_;refine az (t:=T.eZ) (z:=.agg #[UM UL 0 0,UM UL 0 0,UH UI 0,UM UL 0 0,UM UL 0 0,UH UJ 0]) (places:=[(0,1),(1,1),(2,4)]) (vs:=[(1,(.slice b3 n3 k3)),(2,.agg #[UH UI 4,(.slice b4 n4 k4),UM UL 0 0,UH UJ 0])]) (cs:=#[UM UL 0 0,(.slice b3 n3 k3),UH UI 4,(.slice b4 n4 k4),UM UL 0 0,UH UJ 0]) U0 U0 U2 (by simp[Instr.fill,Value.cells]) ?_;refine c4.mw (α:=BlkD) (vs:=[.agg #[UM UL 0 0,(.slice b3 n3 k3),UH UI 4,(.slice b4 n4 k4),UM UL 0 0,UH UJ 0]]) (ds:=ex8F.blocks) El.nW U2 ⟨LH aL (s3.mono hW4) s4 aL ⟨U3,U3⟩ U3,trivial⟩ rfl U3 U3 λu5 h5 W5 hW5 c5 s5 hle5=>?_;obtain⟨b5,n5,k5,rfl⟩:=SlRd.ex s5;refine az (t:=T.gm) (z:=.agg #[UH UI 0,UM UL 0 0]) (places:=[(0,1),(1,1)]) (vs:=[(0,UH UI 1),(1,(.slice b5 n5 k5))]) (cs:=#[UH UI 1,(.slice b5 n5 k5)]) U0 U0 U2 (by simp[Instr.fill,Value.cells]) ?_;refine c5.bG (α:=ak) (k:=(0,0)) (n:=1) U4 (DN (p:=1) ⟨U3,U3⟩ s5) rfl rfl U0 U2 U2 λh6 l6 hl6 c6=>?_;subst hz;have hall:=c6.all (k:=(0,0)) (n:=1) (l:=l6) (B:=R) (e:=T.gm) U4;simp at hall;simp[hall];refine hK _ _ ⟨c6.le0,?_⟩;rw[<-hl6];exact(DN (p:=1) ⟨U3,U3⟩ s5).mono c6.fin
theorem Kk:SmF ex8F:=by
 refine⟨by decide,λi hi=>?_⟩;have hi:i<1:=hi;obtain rfl:i=0:=by omega
 refine⟨by decide,by decide,by decide,by decide,λj hj=>absurd hj (T4 _),λj hj=>?_⟩;have hj:j<2:=hj;rcases j with _ | _ | j
 ·decide
 ·decide
 omega
def Jc:MFnD:=⟨1,[⟨[],[⟨18,2,0,0,0,0,⟨5⟩,[]⟩],⟨7,2,0,[],⟨0⟩⟩⟩]⟩
theorem FF:dN ex8F allT=⟨Jc,1,0⟩:=by kernel_rfl
theorem Ib:wE ex8F allT 0=[-1,15,-1]:=by kernel_rfl
theorem dV.ig:Part dV (List bc) 1 dV.ins (λd x=>{ d with ins:=x }):=(Part.snd (Part.fst Part.all)).via (λ_=>rfl) λ_ _=>rfl
theorem dV.CL:Part dV EndD 2 dV.fin (λd x=>{ d with fin:=x }):=(Part.snd (Part.snd Part.all)).via (λ_=>rfl) λ_ _=>rfl
theorem MFnD.pD:Part MFnD (List dV) 1 MFnD.blocks (λd x=>{ d with blocks:=x }):=(Part.snd Part.all).via (λ_=>rfl) λ_ _=>rfl
theorem DZ{s:List Int}{v:Value}{h:Heap}(hs:SlRd (vw h) v s):ay UQ 12 #[v] h (λu h'=>h'=h/\SlRd (vw h) u (s.take 300)):=by
 refine ao (args:=[v]) follows Tryz.func12 E.qu UC λKc hK=>?_;dsimp only[L.qu,lkF,lkG];have hb:=hs.bound;simp[hs.len];refine⟨λh1=>?_,λh1=>?_⟩
 ·obtain⟨u,h2,h3⟩:=hs.take (n:=300) U1 (kd:=.i64);have h2:Bn.ev .hi v (UH UI 300)=UK u:=h2;simp[h2];exact hK _ _ ⟨rfl,h3⟩
 refine hK _ _ ⟨rfl,?_⟩;rw[Rl U1];exact hs
theorem II{x n:Int}{h:Heap}(hn:0<n/\n<=1000000):ay UQ 16 #[UH UI x,UH UI n] h (λu h'=>∃r:Nat,u = UH UI r/\(r:Int)<n/\h'=h):=by
 refine ao (args:=[UH UI x,UH UI n]) follows Tryz.func16 E.pI UC λK hK=>?_;have h2:=TE x hn.1;have h3:=S9 x hn.1;have h4:n≠0:=by omega
 simp(disch:=omega)[L.pI,h4];have h5:0<=((x.tmod n)+n).tmod n:=T3 _ U1;exact hK _ _ ⟨(((x.tmod n)+n).tmod n).toNat,by rw[Rt h5],by rw[Rt h5];exact S9 _ hn.1,rfl⟩
theorem ex8'{h:Heap}:ay UQ 31 #[] h (λu h'=>(vw h).le (vw h')/\Rd (vw h') u ex8F):=
 (N4 UE).mono λu h' ⟨h1,h2⟩=>⟨h1,h2.mono (lR h1)⟩
theorem FL{v vl:Value}{h:Heap}(hv:Rd (vw h) v ex8F)(hl:SlRd (vw h) vl allT)(ht:Tab h)(hM:iB):
  ay UQ 14 #[v,vl] h (λu h'=>(vw h).le (vw h')/\∃vm,u = .tuple #[vm,UH UI 1,UH UI 0]/\Rd (vw h') vm Jc):=by have:=oI hv hl Kk ht hM;rw[FF]at this;exact this
theorem Hv{v vl:Value}{h:Heap}(hv:Rd (vw h) v ex8F)(hl:SlRd (vw h) vl allT)(ht:Tab h)(hM:iB):
  ay UQ 32 #[v,vl,UH UI 0] h (λu h'=>(vw h).le (vw h')/\SlRd (vw h') u [-1,15,-1]):=by have:=Jz (b:=0) hv hl Kk ht hM;rw[Ib]at this;exact this
set_option maxHeartbeats 1000000 in
theorem H8{h:Heap}(ht:Tab h)(hM:iB):ay UQ 10 #[] h (λu h'=>(vw h).le (vw h')/\u = .bool UO):=by
 refine ao (args:=[]) follows Tryz.func10 E.nQ UC λK hK=>?_;dsimp only[L.nQ,lkF,lkG];refine aa λz hz=>?_;simp;subst hz;refine aa λz hz=>?_;simp;refine ah U0 ex8' ?_;rintro u1 h1 ⟨le1,r1⟩;refine ah U0 JE ?_;rintro u2 h2 ⟨le2,s2⟩;refine ah U0 (FL (r1.mono le2) s2 (ht.mono (UF le1 le2)) hM) ?_;rintro _ h3 ⟨le3,vm,rfl,rm⟩;simp;refine df (X:=vw h3) (z:=.agg #[UH UI 0,UM UL 0 0]) U0 rfl U0 rm U5 U5 λh4 le4 _ at4=>?_;have at4:=at4 (vw h4) le4 rfl;generalize h3.size=B at at4 ⊢;have l04:=UF le1 (UF le2 (UF le3 le4));subst hz;refine aa λz hz=>?_;simp;refine ah U0 ex8' ?_;rintro u5 h5 ⟨le5,r5⟩;refine ah U0 JE ?_;rintro u6 h6 ⟨le6,s6⟩;have l46:=UF le5 le6;refine ah U0 (Hv (r5.mono le6) s6 (ht.mono (UF l04 l46)) hM) ?_;rintro vt h7 ⟨le7,st⟩;subst hz;refine aa λz hz=>?_;simp;refine xX (α:=Int) (ds:=[-1,15,-1]) (vs:=[UH UI (-1),UH UI 15,UH UI (-1)]) (X:=nothing) El.aY U0 ⟨bu.2 ⟨rfl,by decide,by decide⟩,bu.2 ⟨rfl,by decide,by decide⟩,bu.2 ⟨rfl,by decide,by decide⟩,trivial⟩ rfl U3 U3 λu8 h8 le8 _ s8 _=>?_;have s8:=s8 (vw h8) cR rfl;refine ah U0 (Oy (st.mono le8) s8) ?_;rintro _ h8 ⟨rfl,rfl⟩;have l48:=UF l46 (UF le7 le8);have at8:=at4.mono l48;obtain⟨vb,kb,sb⟩:=(at8.part MFnD.pD).sl;have sb:SlRd (vw h8) vb ([⟨[],[⟨18,2,0,0,0,0,⟨5⟩,[]⟩],⟨7,2,0,[],⟨0⟩⟩⟩]:List dV):=sb;have kb:an (vw h8) ⟨B,1,UL⟩=UK vb:=by simpa using kb
 have q:=sb.idxn (k:=.i64) (N:=7) rfl (i:=0) U1 U2;obtain⟨vi,ki,si⟩:=((sb.at (i:=0) U2).part dV.ig).sl;have e0:=(((sb.at (i:=0) U2).part dV.CL).part EndD.tB).int;have e1:=(((sb.at (i:=0) U2).part dV.CL).part EndD.O5).int;have lb : ∀{K:View},Un.ev K .len vb=UK (UH UI 1):=sb.len;have li : ∀{K:View},Un.ev K .len vi=UK (UH UI 1):=si.len;have qi:=si.idxn (k:=.i64) (N:=8) rfl (i:=0) U1 U2;obtain⟨um,hum,rum⟩:=(si.at (i:=0) U2).ldN rfl (N:=8) rfl;have hum:=hum _ UE;simp at q ki e0 e1 qi hum;subst hz;refine aa λz hz=>?_;simp[kb,lb,q,ki,li];subst hz;refine aa λz hz=>?_;simp[kb,q,ki,qi,hum];refine df (α:=bc) (X:=vw h8) (z:=.agg #[UH UI 0,UH UI 0,UH UI 0,UH UI 0,UH UI 0,UH UI 0,UH UJ 0,UM UL 0 0]) U0 rfl U0 rum U5 U5 λh9 le9 _ at9=>?_;have at9:=at9 (vw h9) le9 rfl;generalize h8.size=C at at9 ⊢;have a0:=(at9.part bc.tB).int;have a1:=(at9.part bc.Ql).int;have a6:=(at9.part bc.iR).i32;simp at a0 a1 a6;subst hz;simp[a0,a1,a6,ae le9 kb,q,ae le9 e0,ae le9 e1];exact hK _ _ ⟨UF l04 (UF l48 le9),rfl⟩
def upTo {α:Type} (f:ByteArray->α->ByteArray) (s:ByteArray) (l:List α) (k:Nat):ByteArray:=(l.take k).foldl f s
theorem Ar{α:Type}{f:ByteArray->α->ByteArray}{s:ByteArray}{l:List α}:upTo f s l 0=s:=rfl
section
variable {α:Type} [Inhabited α]
theorem mU{f:ByteArray->α->ByteArray}{s:ByteArray}{l:List α}{k:Nat}(h:k<l.length):upTo f s l (k+1)=f (upTo f s l k) (nth l k):=by unfold upTo;rw[Ti,Sb,RE h,aA h];rfl
theorem AM {f:ByteArray->α->ByteArray} {s:ByteArray} {l:List α} {c:Nat} (hc : ∀s i,i<l.length->(f s (nth l i)).size<=s.size+c) : ∀{k:Nat},k<=l.length->(upTo f s l k).size<=s.size+c*k
 | 0,_=>by rw[Ar];omega
 | k+1,h=>by rw[mU U1];have h1:=AM (f:=f) (s:=s) hc (k:=k) U1;have h2:=hc (upTo f s l k) k U1;rw[TP];omega
theorem sG{f:ByteArray->α->ByteArray}{s:ByteArray}{l:List α}{c N:Nat}(hc : ∀s i,i<l.length->(f s (nth l i)).size<=s.size+c)(hN:l.length<=N){k:Nat}(hk:k<=l.length):(upTo f s l k).size<=s.size+c*N:=by have h1:=AM (s:=s) hc hk;have h2:c*k<=c*N:=Nat.mul_le_mul_left c U1;omega
end
theorem At.nO{H:View}{a:Addr}{d:I32}(h:At H a d):I64 d.v:=by obtain⟨v,_,h2⟩:=h.load rfl;obtain⟨_,h3,h4⟩:=h2;exact U6
theorem Fx{α:Type}[Rep α][Inhabited α]{H:View}{v:Value}{l:List α}(h:SlRd H v l){N:Nat}(hn:Rep.n α=N){i:Nat}(hi:i<l.length):At H ((slA v).add (i*N)) (nth l i):=by subst hn;rw[aA hi];exact h.at hi
def numB (u:Int) (s:ByteArray):Bool:=!decide (u=0)||(s.toList == [])
def numL:Nat->Int->ByteArray->ByteArray
 | 0,_,s=>s
 | n+1,u,s=>if numB u s then numL n (u.tdiv 10) (digC u++s) else s
def num8 (n:Int):ByteArray:=if n<0 then⟨#[45]⟩++numL 21 n ⟨#[]⟩++⟨#[32]⟩ else numL 21 n ⟨#[]⟩++⟨#[32]⟩
theorem AY : ∀{n:Nat} {u:Int} {s:ByteArray},(numL n u s).size<=s.size+n
 | 0,_,_=>QY _
 | n+1,u,s=>by
  unfold numL;split
  ·have:=AY (n:=n) (u:=u.tdiv 10) (s:=digC u++s);rw[Rn,wR]at this;omega
  omega
theorem zj{u:Int}:(numL 21 u ⟨#[]⟩).size<=21:=by have:=AY (n:=21) (u:=u) (s:=⟨#[]⟩);have e:(⟨#[]⟩:ByteArray).size=0:=rfl;omega
theorem bh{n:Int}:(num8 n).size<=24:=by unfold num8;have h1:=zj (u:=n);have e1:(⟨#[45]⟩:ByteArray).size=1:=rfl;have e2:(⟨#[32]⟩:ByteArray).size=1:=rfl;split<;>simp only[Rn]<;>omega
theorem L4{u:Int}{s:ByteArray}(h:numB u s=UP): ∀{n:Nat},numL n u s=s
 | 0=>rfl
 | n+1=>by unfold numL;rw[h];rfl
theorem Fq{s:ByteArray}(h:(s.toList == [])=UO):s.size=0:=by
 rw[T7]at h;have h:s.data.toList=[]:=by simpa using h
 show s.data.size=0;rw[<-Array.length_toList,h];rfl
theorem JR{n:Int}{h:Heap}{Q:Post}{v2:Value}(hu:I64 n)(hQ : ∀h' u,(vw h).le (vw h')->Q .normal [(0,UH UI n),(2,v2),(3,.string (numL 21 n ⟨#[]⟩)),(4,UH UI u)] h'):
  LC.wp UQ L.fe.l1.loop (eA 0 Q) [(0,UH UI n),(2,v2),(3,.string ⟨#[]⟩),(4,UH UI n)] h:=by
 obtain⟨R,hR⟩ : ∃R,R=numL 21 n ⟨#[]⟩:=⟨_,rfl⟩;rw[<-hR]at hQ;refine ic [0,2,3,4] (λm ρ h'=>∃(u:Int) (s:ByteArray),m<=21/\ρ=[(0,UH UI n),(2,v2),(3,.string s),(4,UH UI u)]/\I64 u/\(vw h).le (vw h')/\s.size=21-m/\numL m u s=R/\- tens m<u/\u<tens m) 21 ⟨n,⟨#[]⟩,QY _,rfl,hu,View.le_refl _,rfl,hR.symm,?_,?_⟩ ?_
 ·have e:tens 21=1000000000000000000000:=by decide
  rw[e];obtain⟨h1,h2⟩:=hu;omega
 ·have e:tens 21=1000000000000000000000:=by decide
  rw[e];obtain⟨h1,h2⟩:=hu;omega
 rintro m ρ h1 ⟨u,s,hm,rfl,hu,hle,hs,hd,g1,g2⟩ K hK;dsimp only[L.fe.l1,lkF,lkG];cases hc:numB u s with
 | true=>
  have hm1:1<=m:=by
   unfold numB at hc;rcases Sf m with rfl | hp
   ·have e:tens 0=1:=rfl;rw[e]at g1 g2;have:u=0:=by omega
    subst this;have:=Fq (s:=s) (by simpa using hc);omega
   exact hp
  obtain⟨k,rfl⟩ : ∃k,m=k+1:=⟨m-1,by omega⟩;have t1:=En (n:=k);have b1:=TE u (show(0:Int)<10 by omega);have b2:=S9 u (show(0:Int)<10 by omega);have e10:=Int.mul_tdiv_add_tmod u 10;have g1:-(10*tens k)<u:=g1;have g2:u<10*tens k:=g2;obtain⟨hu1,hu2⟩:=hu;have sg:(0<=u->0<=u.tmod 10)/\(u<=0->u.tmod 10<=0):=⟨λh=>T3 10 h,λh=>by have:=T3 10 (show 0<=-u by omega);rw[Int.neg_tmod]at this;omega⟩;have b3:I64 (u.tdiv 10):=U6;have b4:- tens k<u.tdiv 10/\u.tdiv 10<tens k:=by
   rcases Int.le_total 0 u with hp | hp
   ·have:=sg.1 hp;constructor<;>omega
   have:=sg.2 hp;constructor<;>omega
  have hw:IntKind.i64.wrap (u.tdiv 10)=u.tdiv 10:=aS b3.1 b3.2;have hd:numL k (u.tdiv 10) (digC u++s)=R:=by have:(if numB u s then numL k (u.tdiv 10) (digC u++s) else s)=R:=hd;rw[hc]at this;exact this
  have step : ∀(h2:Heap) (ρ:Env),(vw h1).le (vw h2)->aX [0,2,3,4] ρ=[(0,UH UI n),(2,v2),(3,.string (digC u++s)),(4,UH UI (u.tdiv 10))]->K ρ h2:=λh2 ρ hle2 hk=>hK k _ _ U1 ⟨u.tdiv 10,digC u++s,by omega,hk,b3,UF hle hle2,by rw[Rn,wR];omega,hd,b4.1,b4.2⟩;have hcc : ∀{H:View} {σ:Nat->Option Value},σ 4=UK (UH UI u)->σ 3=UK (.string s)->ev σ H (.ite (.bin (.cmp .neq) (.tmp 4) (.con (UH UI 0))) (.con (.bool UO)) (.bin (.eqS UP) (.tmp 3) (.con (.string ⟨#[]⟩))))=UK (.bool UO):=fun{H σ} h4 h3=>by
   unfold numB at hc;have e0:(⟨#[]⟩:ByteArray).toList=[]:=by rw[T7]
   by_cases c:u=0
   ·subst c;have hc:(s.toList == [])=true:=by simpa using hc
    simp[h4,h3,yA,e0];simpa using hc
   simp[h4,c]
  have cbn:=fl (a:=digC u) (b:=s) (by rw[wR];omega);have hz0:IntKind.i64.wrap (0-u.tmod 10)=-u.tmod 10:=by rw[aS U1 U1];omega
  have hz1:IntKind.i64.wrap (-u.tmod 10)=-u.tmod 10:=aS U1 U1;refine aa λy hy=>?_;simp[hcc];subst hy;simp(disch:=omega)[hw,hz0,hz1];refine⟨λh0=>?_,λh0=>?_⟩
  ·have e:digC u=strOfNums [IntKind.u8.wrap (48+-u.tmod 10)]:=by unfold digC digB;rw[if_pos h0]
   refine CU (e:=T.uint8) El.oe rfl ?_;refine C0 (e:=T.uint8) U.oe U.uint8 U0 rfl (SH ..) rfl ?_;rw[<-e];simp(disch:=omega)[cbn,hw];exact step _ _ (bO _ _) (by simp[aX,af,ag])
  have e:digC u=strOfNums [IntKind.u8.wrap (48+u.tmod 10)]:=by unfold digC digB;rw[if_neg U1]
  refine CU (e:=T.uint8) El.oe rfl ?_;refine C0 (e:=T.uint8) U.oe U.uint8 U0 rfl (SH ..) rfl ?_;rw[<-e];simp(disch:=omega)[cbn,hw];exact step _ _ (bO _ _) (by simp[aX,af,ag])
 | false=>
  rw[L4 hc]at hd;subst hd;have hcc : ∀{H:View} {σ:Nat->Option Value},σ 4=UK (UH UI u)->σ 3=UK (.string s)->ev σ H (.ite (.bin (.cmp .neq) (.tmp 4) (.con (UH UI 0))) (.con (.bool UO)) (.bin (.eqS UP) (.tmp 3) (.con (.string ⟨#[]⟩))))=UK (.bool UP):=fun{H σ} h4 h3=>by
   unfold numB at hc;have e0:(⟨#[]⟩:ByteArray).toList=[]:=by rw[T7]
   have c:u=0:=by have:=hc;simp at this;exact this.1
   subst c;have hc:(s.toList == [])=false:=by simpa using hc
   simp[h4,h3,yA,e0];simpa using hc
  simp[hcc];exact hQ _ _ hle
theorem eV{n:Int}{h:Heap}(hn:I64 n):ay UQ 59 #[UH UI n] h (λu h'=>u = .string (num8 n)/\(vw h).le (vw h')):=by
 refine ao (args:=[UH UI n]) follows Tryz.func59 E.fe UC λKc hK=>?_;dsimp only[L.fe,lkF,lkG];have q1:=zj (u:=n);have e1:(⟨#[45]⟩:ByteArray).size=1:=rfl;have e2:(⟨#[32]⟩:ByteArray).size=1:=rfl;refine aa λz hz=>?_;simp;subst hz;refine aa λz hz=>?_;simp;subst hz;refine aa λz hz=>?_;simp;subst hz;refine aa λz hz=>?_;refine dw ?_;refine JR hn λh' u hle=>?_;rw[ft,hz];clear hz z;by_cases h0:n<0
 ·have e:num8 n=⟨#[45]⟩++numL 21 n ⟨#[]⟩++⟨#[32]⟩:=by unfold num8;rw[if_pos h0]
  have e3:=fl (a:=⟨#[45]⟩) (b:=numL 21 n ⟨#[]⟩) U1;have e4:=fl (a:=⟨#[45]⟩++numL 21 n ⟨#[]⟩) (b:=⟨#[32]⟩) (by rw[Rn];omega);simp[h0,e3,e4];exact hK _ _ ⟨by rw[e],hle⟩
 have e:num8 n=numL 21 n ⟨#[]⟩++⟨#[32]⟩:=by unfold num8;rw[if_neg h0]
 have e4:=fl (a:=numL 21 n ⟨#[]⟩) (b:=⟨#[32]⟩) U1;simp[h0,e4];exact hK _ _ ⟨by rw[e],hle⟩
theorem dV.pY:Part dV (List PhiD) 0 dV.phis (λd x=>{ d with phis:=x }):=(Part.fst Part.all).via (λ_=>rfl) λ_ _=>rfl
theorem MFnD.rI:Part MFnD Int 0 MFnD.params (λd x=>{ d with params:=x }):=(Part.fst Part.all).via (λ_=>rfl) λ_ _=>rfl
instance:Inhabited dV:=⟨⟨[],[],cK⟩⟩
structure SmMB (x:dV):Prop where
 phis:x.phis.length<=10000
 phi : ∀i,i<x.phis.length->(nth x.phis i).ins.length<=10000
 ins:x.ins.length<=30000
 inn : ∀i,i<x.ins.length->(nth x.ins i).args.length<=10000
 tos:(EndD.to x.fin).length<=10000
structure SmM (m:MFnD):Prop where
 len:m.blocks.length<=10000
 blk : ∀i,i<m.blocks.length->SmMB (nth m.blocks i)
def row8 (l:List Int):ByteArray:=upTo (λs n=>s++num8 n) (num8 l.length) l l.length
def in8 (s:ByteArray) (x:InD):ByteArray:=s++num8 x.frm++num8 x.val
def phi8 (s:ByteArray) (p:PhiD):ByteArray:=upTo in8 (s++num8 p.dst++num8 p.ins.length) p.ins p.ins.length
def oZ (s:ByteArray) (y:bc):ByteArray:=s++num8 y.op++num8 y.d++num8 y.e++num8 y.a++num8 y.b++num8 y.c++num8 y.imm.v++row8 y.args
def end8 (s:ByteArray) (e:EndD):ByteArray:=s++num8 e.op++num8 e.a++num8 e.b++row8 (EndD.to e)++num8 e.imm.v
def blk8 (s:ByteArray) (b:dV):ByteArray:=end8 (upTo oZ (upTo phi8 (s++num8 b.phis.length) b.phis b.phis.length++num8 b.ins.length) b.ins b.ins.length) b.fin
def OH (m:MFnD):ByteArray:=upTo blk8 (num8 m.params++num8 m.blocks.length) m.blocks m.blocks.length
theorem zO{l:List Int}(h:l.length<=10000){k:Nat}(hk:k<=l.length):(upTo (λs n=>s++num8 n) (num8 l.length) l k).size<=240024:=by have h1:=sG (f:=λs n=>s++num8 n) (s:=num8 l.length) (l:=l) (c:=24) (N:=10000) (λs i _=>by rw[Rn];have:=bh (n:=nth l i);omega) h hk;have:=bh (n:=l.length);omega
theorem sy{l:List Int}(h:l.length<=10000):(row8 l).size<=240024:=zO h (QY _)
theorem Jm{s:ByteArray}{x:InD}:(in8 s x).size<=s.size+48:=by unfold in8;have h1:=bh (n:=x.frm);have h2:=bh (n:=x.val);simp only[Rn];omega
theorem zp{s:ByteArray}{p:PhiD}(h:p.ins.length<=10000){k:Nat}(hk:k<=p.ins.length):(upTo in8 (s++num8 p.dst++num8 p.ins.length) p.ins k).size<=s.size+480048:=by have h1:=sG (f:=in8) (s:=s++num8 p.dst++num8 p.ins.length) (l:=p.ins) (c:=48) (N:=10000) (λs i _=>Jm) h hk;have h2:=bh (n:=p.dst);have h3:=bh (n:=p.ins.length);simp only[Rn]at h1;omega
theorem zD{s:ByteArray}{x:bc}(h:x.args.length<=10000):(oZ s x).size<=s.size+240200:=by unfold oZ;have h1:=bh (n:=x.op);have h2:=bh (n:=x.d);have h3:=bh (n:=x.e);have h4:=bh (n:=x.a);have h5:=bh (n:=x.b);have h6:=bh (n:=x.c);have h7:=bh (n:=x.imm.v);have h8:=sy h;simp only[Rn];omega
theorem Ix{s:ByteArray}{x:EndD}(h:(EndD.to x).length<=10000):(end8 s x).size<=s.size+240200:=by unfold end8;have h1:=bh (n:=x.op);have h2:=bh (n:=x.a);have h3:=bh (n:=x.b);have h4:=bh (n:=x.imm.v);have h5:=sy h;simp only[Rn];omega
theorem tA{s:ByteArray}{b:dV}(h:SmMB b){k:Nat}(hk:k<=b.phis.length):(upTo phi8 (s++num8 b.phis.length) b.phis k).size<=s.size+4800480024:=by have h1:=sG (f:=phi8) (s:=s++num8 b.phis.length) (l:=b.phis) (c:=480048) (N:=10000) (λs i hi=>zp (h.phi i hi) (QY _)) h.phis hk;have h2:=bh (n:=b.phis.length);simp only[Rn]at h1;omega
theorem zh{s:ByteArray}{b:dV}(h:SmMB b){k:Nat}(hk:k<=b.ins.length):(upTo oZ (upTo phi8 (s++num8 b.phis.length) b.phis b.phis.length++num8 b.ins.length) b.ins k).size<=s.size+12006480048:=by have h1:=sG (f:=oZ) (s:=upTo phi8 (s++num8 b.phis.length) b.phis b.phis.length++num8 b.ins.length) (l:=b.ins) (c:=240200) (N:=30000) (λs i hi=>zD (h.inn i hi)) h.ins hk;have h2:=tA (s:=s) h (QY _);have h3:=bh (n:=b.ins.length);simp only[Rn]at h1;omega
theorem HV{s:ByteArray}{b:dV}(h:SmMB b):(blk8 s b).size<=s.size+13000000000:=by unfold blk8;have h1:=Ix (s:=upTo oZ (upTo phi8 (s++num8 b.phis.length) b.phis b.phis.length++num8 b.ins.length) b.ins b.ins.length) h.tos;have h2:=zh (s:=s) h (QY _);omega
theorem BE{m:MFnD}(h:SmM m){k:Nat}(hk:k<=m.blocks.length):(upTo blk8 (num8 m.params++num8 m.blocks.length) m.blocks k).size<=130000000000048:=by have h1:=sG (f:=blk8) (s:=num8 m.params++num8 m.blocks.length) (l:=m.blocks) (c:=13000000000) (N:=10000) (λs i hi=>HV (h.blk i hi)) h.len hk;have h2:=bh (n:=m.params);have h3:=bh (n:=m.blocks.length);simp only[Rn]at h1;omega
theorem Gi{l:List Int}{v:Value}{h:Heap}(hv:SlRd (vw h) v l)(hl:l.length<=10000):ay UQ 60 #[v] h (λu h'=>u = .string (row8 l)/\(vw h).le (vw h')):=by
 refine ao (args:=[v]) follows Tryz.func60 E.fO UC λKc hK=>?_;dsimp only[L.fO,lkF,lkG];have hvl : ∀{K:View},Un.ev K .len v=UK (UH UI l.length):=hv.len;refine aa λz hz=>?_;simp;subst hz;refine aa λz hz=>?_;simp[hvl];refine ah U0 (eV U6) ?_;rintro _ h0 ⟨rfl,t0⟩;subst hz;refine aa λz hz=>?_;simp;refine dq [0,3,4] (fun(_:Unit) k=>[v,.string (upTo (λs n=>s++num8 n) (num8 l.length) l k),UH UI k]) (λ_ k h1=>(vw h).le (vw h1)) l.length ()
  U0 U1 (by simp[aX,af,ag,Ar]) t0 (λ_ _=>rfl) (λ_ k h1 hk t=>?_) ?_ ?_
 ·simp[hvl]
 ·rintro _ k h1 hk t K2 hK2;have hv1:=hv.mono t;have hr:I64 (nth l k):=by have:=(hv1.at hk).rng;rwa [<-aA hk]at this
  simp(disch:=omega)[hv1.idx1 rfl,hv1.int UE];refine ah U0 (eV hr) ?_;rintro _ h2 ⟨rfl,t2⟩;have e1:=zO hl (Nat.le_of_lt hk);have e2:=bh (n:=nth l k);simp[fl (a:=upTo (λs n=>s++num8 n) (num8 l.length) l k) (b:=num8 (nth l k)) U1];refine hK2 () _ _ rfl (by simp[aX,af,ag,mU hk]) (UF t t2)
 rintro _ h1 t;simp;subst hz;simp;exact hK _ _ ⟨rfl,t⟩
theorem xV{H:View}{B:Nat}{d:dV}(h:At H ⟨B,0,UL⟩ d):(∃v,Sl H ⟨B,0,UL⟩ v d.phis)/\∃v,Sl H ⟨B,1,UL⟩ v d.ins:=by obtain⟨v,hv⟩:=(h.part dV.pY).sl;obtain⟨w,hw⟩:=(h.part dV.ig).sl;exact⟨⟨v,by simpa using hv⟩,w,by simpa using hw⟩
theorem Hu{X i:Nat}{p1 p4:Value}{d:dV}{s0:ByteArray}{h:Heap}{Q:Post}{ρ:Env}(ha:At (vw h) ⟨X,0,UL⟩ d)(sm:SmMB d)(hi:i<d.phis.length)(hs:s0.size<=200000000000000)(hρ:aX [1,3,4,5,6,7] ρ=[1,3,4,5,6,7].zip [p1,.string (s0++num8 (nth d.phis i).dst++num8 (nth d.phis i).ins.length),p4,UN (UK ⟨X,0,UL⟩),UH UI i,UH UI 0])(hQ : ∀h' x,(vw h).le (vw h')->Q .normal ([1,3,4,5,6,7].zip [p1,.string (phi8 s0 (nth d.phis i)),p4,UN (UK ⟨X,0,UL⟩),UH UI i,x]) h'):
  LC.wp UQ L.bF.l3.loop (eA 4 Q) ρ h:=by
 have sp:=sm.phis;have si:=sm.phi i hi;obtain⟨⟨vp,cp⟩,-⟩:=xV ha;obtain⟨vn,cn,sn⟩:=((Fx cp.2 (N:=2) rfl hi).part PhiD.ig).sl;obtain⟨l,hl⟩ : ∃l,l=(nth d.phis i).ins:=⟨_,rfl⟩;rw[<-hl]at si sn;refine dq [1,3,4,5,6,7] (fun(_:Unit) k=>[p1,.string (upTo in8 (s0++num8 (nth d.phis i).dst++num8 (nth d.phis i).ins.length) l k),p4,UN (UK ⟨X,0,UL⟩),UH UI i,UH UI k]) (λ_ k h1=>(vw h).le (vw h1)) l.length ()
  rfl U1 hρ UE (λ_ _=>rfl) (λ_ k h1 hk t=>?_) ?_ ?_
 ·simp(disch:=omega)[ae t cp.1,(cp.2.mono t).idxn (N:=2) rfl,ae t cn,(sn.mono t).len]
 ·rintro _ k h1 hk t K2 hK2;have aI:=Fx sn (N:=2) rfl hk;have e1:=zp (s:=s0) (p:=nth d.phis i) (by rw[<-hl];exact si) (k:=k) (by rw[<-hl];omega);rw[<-hl]at e1;have e2:=bh (n:=(nth l k).frm);have e4:=bh (n:=(nth l k).val);refine aG (vw h1) UE ?_;simp(disch:=omega)[ae t cp.1,(cp.2.mono t).idxn (N:=2) rfl,ae t cn,(sn.mono t).idxn (N:=2) rfl,ae t (aI.part InD.Jj).int,ae t (aI.part InD.A9).int];refine ah U0 (eV (aI.part InD.Jj).rng) ?_;rintro _ h2 ⟨rfl,t2⟩;rw[hl]at e1;generalize hsk:upTo in8 (s0++num8 (nth d.phis i).dst++num8 (nth d.phis i).ins.length) l k=sk;rw[<-hl,hl,<-hl]at e1;have e1:sk.size<=s0.size+480048:=by rw[<-hsk,hl];rw[hl]at e1;exact e1
  refine⟨t2,?_⟩;simp[fl (a:=sk) (b:=num8 (nth l k).frm) U1];refine ah U0 (eV (aI.part InD.A9).rng) ?_;rintro _ h3 ⟨rfl,t3⟩;simp[fl (a:=sk++num8 (nth l k).frm) (b:=num8 (nth l k).val) (by simp only[Rn];omega)];refine hK2 () _ _ rfl ?_ (UF t (UF t2 t3));rw[mU hk,hsk];rfl
 rintro _ h1 t;have:=hQ _ (UH UI l.length) t;unfold phi8 at this;rw[<-hl]at this;rw[<-hl];exact this
theorem Im{X:Nat}{p1 p4:Value}{d:dV}{s0:ByteArray}{h:Heap}{Q:Post}{ρ:Env}(ha:At (vw h) ⟨X,0,UL⟩ d)(sm:SmMB d)(hs:s0.size<=150000000000000)(hρ:aX [1,3,4,5,6] ρ=[1,3,4,5,6].zip [p1,.string (s0++num8 d.phis.length),p4,UN (UK ⟨X,0,UL⟩),UH UI 0])(hQ : ∀h' x,(vw h).le (vw h')->Q .normal ([1,3,4,5,6].zip [p1,.string (upTo phi8 (s0++num8 d.phis.length) d.phis d.phis.length),p4,UN (UK ⟨X,0,UL⟩),x]) h'):
  LC.wp UQ L.bF.l2.loop (eA 2 Q) ρ h:=by
 have sp:=sm.phis;obtain⟨⟨vp,cp⟩,-⟩:=xV ha;refine dq [1,3,4,5,6] (fun(_:Unit) i=>[p1,.string (upTo phi8 (s0++num8 d.phis.length) d.phis i),p4,UN (UK ⟨X,0,UL⟩),UH UI i]) (λ_ i h1=>(vw h).le (vw h1)) d.phis.length ()
  rfl U1 hρ UE (λ_ _=>rfl) (λ_ i h1 hk t=>?_) ?_ ?_
 ·simp[ae t cp.1,(cp.2.mono t).len]
 ·rintro _ i h1 hi t K2 hK2;have aP:=Fx cp.2 (N:=2) rfl hi;have e1:=tA (s:=s0) sm (k:=i) U1;have e2:=bh (n:=(nth d.phis i).dst);have si:=sm.phi i hi;obtain⟨vn,cn,sn⟩:=(aP.part PhiD.ig).sl;have sne : ∀{K:View},Un.ev K .len vn=UK (UH UI (nth d.phis i).ins.length):=sn.len;have hsc:=mU (f:=phi8) (s:=s0++num8 d.phis.length) hi;generalize upTo phi8 (s0++num8 d.phis.length) d.phis i=sk at e1 hsc;refine aa λy hy=>?_;refine aG (vw h1) UE ?_;simp(disch:=omega)[ae t cp.1,(cp.2.mono t).idxn (N:=2) rfl,ae t (aP.part PhiD.gG).int,ae t cn,sne];refine ah U0 (eV (aP.part PhiD.gG).rng) ?_;rintro _ h2 ⟨rfl,t2⟩;refine⟨t2,?_⟩;simp[fl (a:=sk) (b:=num8 (nth d.phis i).dst) U1];refine ah U0 (eV U6) ?_;rintro _ h3 ⟨rfl,t3⟩;have e3:=bh (n:=(nth d.phis i).ins.length);simp[fl (a:=sk++num8 (nth d.phis i).dst) (b:=num8 (nth d.phis i).ins.length) (by simp only[Rn];omega)];subst hy;have t23:=UF t2 t3;simp;refine Hu (ha.mono (UF t t23)) sm hi (s0:=sk) U1 rfl λh4 x t4=>?_;simp;refine hK2 () _ _ rfl ?_ (UF t (UF t23 t4));rw[hsc];rfl
 rintro _ h1 t;exact hQ _ (UH UI d.phis.length) t
theorem HN{X:Nat}{p1 p4:Value}{d:dV}{s0:ByteArray}{h:Heap}{Q:Post}{ρ:Env}(ha:At (vw h) ⟨X,0,UL⟩ d)(sm:SmMB d)(hs:s0.size<=150000000000000)(hρ:aX [1,3,4,5,8] ρ=[1,3,4,5,8].zip [p1,.string s0,p4,UN (UK ⟨X,0,UL⟩),UH UI 0])(hQ : ∀h' x,(vw h).le (vw h')->Q .normal ([1,3,4,5,8].zip [p1,.string (upTo oZ s0 d.ins d.ins.length),p4,UN (UK ⟨X,0,UL⟩),x]) h'):
  LC.wp UQ L.bF.l4.loop (eA 6 Q) ρ h:=by
 have sp:=sm.ins;obtain⟨-,vi,cp⟩:=xV ha;refine dq [1,3,4,5,8] (fun(_:Unit) i=>[p1,.string (upTo oZ s0 d.ins i),p4,UN (UK ⟨X,0,UL⟩),UH UI i]) (λ_ i h1=>(vw h).le (vw h1)) d.ins.length ()
  rfl U1 hρ UE (λ_ _=>rfl) (λ_ i h1 hk t=>?_) ?_ ?_
 ·simp[ae t cp.1,(cp.2.mono t).len]
 ·rintro _ i h1 hi t K2 hK2;obtain⟨ub,hub,rub⟩:=(cp.2.mono t).wh rfl (N:=8) rfl hi;have e1:=sG (f:=oZ) (s:=s0) (l:=d.ins) (c:=240200) (N:=30000) (λs i hi=>zD (sm.inn i hi)) sm.ins (k:=i) U1;have sa:=sm.inn i hi;have hsc:=mU (f:=oZ) (s:=s0) hi;generalize upTo oZ s0 d.ins i=sk at e1 hsc;generalize nth d.ins i=x at rub sa hsc;refine aa λy hy=>?_;simp(disch:=omega)[ae t cp.1,(cp.2.mono t).idxn (N:=8) rfl,hub _ UE];refine Gj (d:=x) (z:=.agg #[UH UI 0,UH UI 0,UH UI 0,UH UI 0,UH UI 0,UH UI 0,UH UJ 0,UM UL 0 0]) U0 rfl U0 rub U5 U5 λh2 t2 _ _ hat=>?_;generalize h1.size=Y at hat ⊢;subst hy;obtain⟨v7,c7,s7⟩:=(hat.part bc.eK).sl;have c0:=(hat.part bc.tB).int;have c1:=(hat.part bc.Ql).int;have c2:=(hat.part bc.QT).int;have c3:=(hat.part bc.O5).int;have c4:=(hat.part bc.O6).int;have c5:=(hat.part bc.Qw).int;have c6:=(hat.part bc.iR).i32;have r0:=(hat.part bc.tB).rng;have r1:=(hat.part bc.Ql).rng;have r2:=(hat.part bc.QT).rng;have r3:=(hat.part bc.O5).rng;have r4:=(hat.part bc.O6).rng;have r5:=(hat.part bc.Qw).rng;have r6:=At.nO (hat.part bc.iR);simp at c0 c1 c2 c3 c4 c5 c6 c7;have d0:=bh (n:=x.op);have d1:=bh (n:=x.d);have d2:=bh (n:=x.e);have d3:=bh (n:=x.a);have d4:=bh (n:=x.b);have d5:=bh (n:=x.c);have d6:=bh (n:=x.imm.v);have d7:=sy sa;have hw:IntKind.i64.wrap x.imm.v=x.imm.v:=aS r6.1 r6.2;refine aG (vw h2) UE ?_;simp[c0,c1,c2,c3,c4,c5,c6,c7,hw];refine ah U0 (eV r0) ?_;rintro _ h3 ⟨rfl,t3⟩;refine⟨t3,?_⟩;simp[fl (a:=sk) (b:=num8 x.op) U1];refine ah U0 (eV r1) ?_;rintro _ h4 ⟨rfl,t4⟩;have t4:=UF t3 t4;refine⟨t4,?_⟩;simp[fl (a:=sk++num8 x.op) (b:=num8 x.d) (by simp only[Rn];omega)];refine ah U0 (eV r2) ?_;rintro _ h5 ⟨rfl,t5⟩;have t5:=UF t4 t5;refine⟨t5,?_⟩;simp[fl (a:=sk++num8 x.op++num8 x.d) (b:=num8 x.e) (by simp only[Rn];omega)];refine ah U0 (eV r3) ?_;rintro _ h6 ⟨rfl,t6⟩;have t6:=UF t5 t6;refine⟨t6,?_⟩;simp[fl (a:=sk++num8 x.op++num8 x.d++num8 x.e) (b:=num8 x.a) (by simp only[Rn];omega)];refine ah U0 (eV r4) ?_;rintro _ h7 ⟨rfl,t7⟩;have t7:=UF t6 t7;refine⟨t7,?_⟩;simp[fl (a:=sk++num8 x.op++num8 x.d++num8 x.e++num8 x.a) (b:=num8 x.b) (by simp only[Rn];omega)];refine ah U0 (eV r5) ?_;rintro _ h8 ⟨rfl,t8⟩;have t8:=UF t7 t8;refine⟨t8,?_⟩;simp[fl (a:=sk++num8 x.op++num8 x.d++num8 x.e++num8 x.a++num8 x.b) (b:=num8 x.c) (by simp only[Rn];omega)];refine ah U0 (eV r6) ?_;rintro _ h9 ⟨rfl,t9⟩;have t9:=UF t8 t9;refine⟨t9,?_⟩;simp[fl (a:=sk++num8 x.op++num8 x.d++num8 x.e++num8 x.a++num8 x.b++num8 x.c) (b:=num8 x.imm.v) (by simp only[Rn];omega)];refine ah U0 (Gi (s7.mono t9) sa) ?_;rintro _ h10 ⟨rfl,t10⟩;simp[fl (a:=sk++num8 x.op++num8 x.d++num8 x.e++num8 x.a++num8 x.b++num8 x.c++num8 x.imm.v) (b:=row8 x.args) (by simp only[Rn];omega)];refine hK2 () _ _ rfl ?_ (UF t (UF t2 (UF t9 t10)));rw[hsc];rfl
 rintro _ h1 t;exact hQ _ (UH UI d.ins.length) t
theorem Aw{m:MFnD}{v:Value}{h:Heap}(hv:Rd (vw h) v m)(sm:SmM m):ay UQ 17 #[v] h (λu h'=>u = .string (OH m)/\(vw h).le (vw h')):=by
 refine ao (args:=[v]) follows Tryz.func17 E.bF UC λKc hK=>?_;dsimp only[L.bF,lkF,lkG];refine aa λz hz=>?_;simp;refine gu rfl hv λh1 _ hle1 hsz1 hat=>?_;have ip:=(hat.part MFnD.rI).rng;have c0:an (vw h1) ⟨h.size,0,UL⟩=UK (UH UI m.params):=by simpa using(hat.part MFnD.rI).int
 obtain⟨vb,cb,sb⟩:=(hat.part MFnD.pD).sl;have cb:an (vw h1) ⟨h.size,1,UL⟩=UK vb:=by simpa using cb
 have sbl : ∀{K:View},Un.ev K .len vb=UK (UH UI m.blocks.length):=sb.len;generalize h.size=B at hat c0 cb ⊢;have hbl:=sm.len;subst hz;refine aa λz hz=>?_;refine aG (vw h1) UE ?_;simp[c0,cb,sbl];refine ah U0 (eV ip) ?_;rintro _ h2 ⟨rfl,t2⟩;refine⟨t2,?_⟩;refine ah U0 (eV U6) ?_;rintro _ h2b ⟨rfl,t2b⟩;have t2:=UF t2 t2b;have f1:=bh (n:=m.params);have f2:=bh (n:=m.blocks.length);simp[fl (a:=num8 m.params) (b:=num8 m.blocks.length) U1];subst hz;refine aa λz hz=>?_;simp;refine dq [1,3,4] (fun(_:Unit) b=>[UN (UK ⟨B,0,UL⟩),.string (upTo blk8 (num8 m.params++num8 m.blocks.length) m.blocks b),UH UI b]) (λ_ b h3=>(vw h1).le (vw h3)) m.blocks.length ()
  rfl U1 rfl t2 (λ_ _=>rfl) (λ_ b h3 hb t=>?_) ?_ ?_
 ·simp[ae t cb,sbl]
 ·rintro _ b h3 hb t K2 hK2;have sb:=sb.mono t;obtain⟨ub,hub,rub⟩:=sb.wh rfl (N:=7) rfl hb;have smb:=sm.blk b hb;have e1:=BE sm (k:=b) U1;have hsc:=mU (f:=blk8) (s:=num8 m.params++num8 m.blocks.length) hb;generalize upTo blk8 (num8 m.params++num8 m.blocks.length) m.blocks b=s0 at e1 hsc;generalize nth m.blocks b=d at rub smb hsc;refine aa λy hy=>?_;simp(disch:=omega)[ae t cb,sb.idxn (N:=7) rfl,hub _ UE];refine Gj (d:=d) (z:=.agg #[UM UL 0 0,UM UL 0 0,UH UI 0,UH UI 0,UH UI 0,UM UL 0 0,UH UJ 0]) U0 rfl U0 rub U5 U5 λh4 t4 _ _ hat4=>?_;generalize h3.size=X at hat4 ⊢;obtain⟨⟨vp,cp⟩,vi,ci⟩:=xV hat4;have lp : ∀{K:View},Un.ev K .len vp=UK (UH UI d.phis.length):=cp.2.len;have li : ∀{K:View},Un.ev K .len vi=UK (UH UI d.ins.length):=ci.2.len;have sp:=smb.phis;have si:=smb.ins;have g1:=bh (n:=d.phis.length);have g2:=bh (n:=d.ins.length);subst hy;refine aa λy hy=>?_;simp[cp.1,lp];refine ah U0 (eV U6) ?_;rintro _ h5 ⟨rfl,t5⟩;simp[fl (a:=s0) (b:=num8 d.phis.length) U1];subst hy;refine aa λy hy=>?_;simp;refine Im (hat4.mono t5) smb (s0:=s0) U1 rfl λh6 x6 t6=>?_;subst hy;refine aa λy hy=>?_;have t46:=UF t5 t6;have e5:=tA (s:=s0) smb (QY _);simp[ae t46 ci.1,li];refine ah U0 (eV U6) ?_;rintro _ h7 ⟨rfl,t7⟩;simp[fl (a:=upTo phi8 (s0++num8 d.phis.length) d.phis d.phis.length) (b:=num8 d.ins.length) U1];subst hy;refine aa λy hy=>?_;have t47:=UF t46 t7;simp;refine HN (hat4.mono t47) smb (s0:=upTo phi8 (s0++num8 d.phis.length) d.phis d.phis.length++num8 d.ins.length) (by simp only[Rn];omega) rfl λh8 x8 t8=>?_;have t48:=UF t47 t8;have e6:=zh (s:=s0) smb (QY _);have hat8:=hat4.mono t48;have hbl:blk8 s0 d=end8 (upTo oZ (upTo phi8 (s0++num8 d.phis.length) d.phis d.phis.length++num8 d.ins.length) d.ins d.ins.length) d.fin:=rfl;rw[hbl]at hsc;generalize upTo oZ (upTo phi8 (s0++num8 d.phis.length) d.phis d.phis.length++num8 d.ins.length) d.ins d.ins.length=sk at e6 hsc;subst hy;have ht:=hat8.part dV.CL;have sa:=smb.tos;have r0:=(ht.part EndD.tB).rng;have r1:=(ht.part EndD.O5).rng;have r2:=(ht.part EndD.O6).rng;have r4:=At.nO (ht.part EndD.iR);have c0:=(ht.part EndD.tB).int;have c1:=(ht.part EndD.O5).int;have c2:=(ht.part EndD.O6).int;have c4:=(ht.part EndD.iR).i32;obtain⟨v3,c3,s3⟩:=(ht.part EndD.zX).sl;simp at c0 c1 c2 c3 c4;generalize d.fin=x at c0 c1 c2 c3 c4 s3 r0 r1 r2 r4 sa hsc;have d0:=bh (n:=x.op);have d1:=bh (n:=x.a);have d2:=bh (n:=x.b);have d4:=bh (n:=x.imm.v);have d3:=sy sa;have hw:IntKind.i64.wrap x.imm.v=x.imm.v:=aS r4.1 r4.2;refine aG (vw h8) UE ?_;simp[c0,c1,c2,c3,c4,hw];refine ah U0 (eV r0) ?_;rintro _ h9 ⟨rfl,t9⟩;refine⟨t9,?_⟩;simp[fl (a:=sk) (b:=num8 x.op) U1];refine ah U0 (eV r1) ?_;rintro _ h10 ⟨rfl,t10⟩;have t10:=UF t9 t10;refine⟨t10,?_⟩;simp[fl (a:=sk++num8 x.op) (b:=num8 x.a) (by simp only[Rn];omega)];refine ah U0 (eV r2) ?_;rintro _ h11 ⟨rfl,t11⟩;have t11:=UF t10 t11;refine⟨t11,?_⟩;simp[fl (a:=sk++num8 x.op++num8 x.a) (b:=num8 x.b) (by simp only[Rn];omega)];refine ah U0 (Gi (s3.mono t11) sa) ?_;rintro _ h12 ⟨rfl,t12⟩;have t12:=UF t11 t12;refine⟨t12,?_⟩;simp[fl (a:=sk++num8 x.op++num8 x.a++num8 x.b) (b:=row8 (EndD.to x)) (by simp only[Rn];omega)];refine ah U0 (eV r4) ?_;rintro _ h13 ⟨rfl,t13⟩;simp[fl (a:=sk++num8 x.op++num8 x.a++num8 x.b++row8 (EndD.to x)) (b:=num8 x.imm.v) (by simp only[Rn];omega)];refine hK2 () _ _ rfl ?_ (UF t (UF t4 (UF t48 (UF t12 t13))));rw[hsc];rfl
 rintro _ h3 t;simp;subst hz;simp;exact hK _ _ ⟨rfl,UF hle1 t⟩
structure LayM (x:dV) (n k:Nat):Prop where
 n:x.ins.length<=n+2*k
 a : ∀m∈x.ins,m.args.length<=10000
 t:(EndD.to x.fin).length<=10000
section
variable {f:ak} {b:Nat} {l:List aH}
theorem PF(hsm:SmF f)(hb:b<f.blocks.length){s:hZ}{k i:Nat}(h:LayM s.blk 0 k):LayM (fN f b l s i).blk 0 (k+1)/\(fN f b l s i).blk.phis=s.blk.phis:=by
 have step : ∀{pat:Int} {q:hZ},q.blk=s.blk->LayM (layS f b i pat q).blk 0 (k+1)/\(layS f b i pat q).blk.phis=s.blk.phis:=fun{pat q} e=>by
  obtain⟨c1,c2,c3⟩:=ET (i:=i) (pat:=pat) (temp:=q.temp) hsm hb;obtain⟨h1,h2,h3⟩:=h;refine⟨⟨?_,?_,?_⟩,?_⟩
  ·show(q.blk.ins++_).length<=_;rw[Q7,e];omega
  ·show ∀m∈q.blk.ins++qk (fH f b i pat q.temp),_;intro m hm;rcases Q6.1 hm with hm | hm
   ·exact h2 m (by rw[<-e];exact hm)
   exact c2 m hm
  ·show(EndD.to (if i=_ then yK (fH f b i pat q.temp) else q.blk.fin)).length<=_;split
   ·exact c3
   rw[e];exact h3
  show q.blk.phis=_;rw[e]
 unfold fN;split
 ·exact step rfl
 exact step rfl
theorem IZ (hsm:SmF f) (hb:b<f.blocks.length) : ∀{r:List Nat} {s:hZ} {k:Nat},LayM s.blk 0 k->LayM (r.foldl (fN f b l) s).blk 0 (k+r.length)/\(r.foldl (fN f b l) s).blk.phis=s.blk.phis
 | [],s,k,h=>⟨h,rfl⟩
 | a::r,s,k,h=>by obtain⟨q1,q2⟩:=PF (l:=l) (i:=a) hsm hb h;obtain⟨q3,q4⟩:=IZ hsm hb (r:=r) q1;rw[RB,RR,show k+(r.length+1)=k+1+r.length by omega];exact⟨q3,q4.trans q2⟩
theorem Qc(hsm:SmF f)(hb:b<f.blocks.length){s:FnSt}:SmMB (lX f l b s (eO f b l).length).blk:=by have h0:LayM (lay0 f b s).blk 0 0:=⟨by show([]:List bc).length<=_;simp,(λm hm=>nomatch hm),by show(EndD.to cK).length<=_;simp[cK]⟩;obtain⟨⟨h1,h2,h3⟩,h4⟩:=IZ (l:=l) hsm hb (r:=(eO f b l).take (eO f b l).length) h0;have hr:=sI (f:=f) (b:=b) (l:=l);have sb:=hsm.blk b hb;have si:=sb.ins;unfold lX;rw[RJ]at h1;have h4:_=(nth f.blocks b).phis:=h4;refine⟨by rw[h4];exact sb.phis,λi hi=>by rw[h4]at hi ⊢;exact sb.phi i hi,by omega,λi hi=>h2 _ (bo hi),h3⟩
theorem Jx (hsm:SmF f) : ∀{k:Nat},k<=f.blocks.length->(fnAt f l k).out.length=k/\∀x∈(fnAt f l k).out,SmMB x
 | 0,_=>⟨rfl,λx hx=>nomatch hx⟩
 | k+1,h=>by
  obtain⟨h1,h2⟩:=Jx hsm (k:=k) U1;have q:=Qc (l:=l) hsm (b:=k) U1 (s:=fnAt f l k);rw[wU];refine⟨?_,λx hx=>?_⟩
  ·show(_++[_]).length=_;rw[Q7,h1];rfl
  have hx:x∈(fnAt f l k).out++[(lX f l k (fnAt f l k) (eO f k l).length).blk]:=hx;rcases Q6.1 hx with hx | hx
  ·exact h2 x hx
  rw[Q2.1 hx];exact q
theorem HQ(hsm:SmF f):SmM (dN f l).code:=by
 have no_ : ∀e,SmM (noCh e).code:=λe=>⟨Ss _,λi hi=>absurd hi (T4 _)⟩;obtain⟨h1,h2⟩:=Jx (l:=l) hsm (QY _);unfold dN;split
 ·exact no_ _
 split
 ·exact no_ _
 exact⟨by show(fnAt f l f.blocks.length).out.length<=_;rw[h1];exact hsm.len,λi hi=>h2 _ (bo hi)⟩
theorem DT(hsm:SmF f):0<=(dN f l).cost/\(dN f l).cost<=1000000000000:=by
 by_cases c:(dR l f).1=0
 ·obtain⟨tb0,-,-⟩:=tW c;obtain⟨-,-,h3,h4,-⟩:=FV (l:=l) hsm (λt ht=>tU tb0 ht) (QY f.blocks.length);have hl:=hsm.len;unfold dN;rw[if_neg (by rw[c];simp)];split
  ·exact⟨SE _,by show(0:Int)<=_;decide⟩
  exact⟨h3,by show(fnAt f l f.blocks.length).cost<=_;omega⟩
 unfold dN;rw[if_pos c];exact⟨SE _,by show(0:Int)<=_;decide⟩
end
theorem Fz{k:Int}{l:List aH}{i:Nat}(h:i<l.length):eh k (l.take (i+1))=eh k (l.take i)++[⟨(nth l i).pat,(nth l i).cost*k⟩]:=by unfold eh;rw[Ri h,SW,aA h];rfl
set_option maxHeartbeats 4000000 in
theorem zl{s t:List Int}{by_:Int}{vs vt:Value}{h:Heap}(ht:Tab h)(hM:iB)(hs:SlRd (vw h) vs s)(htb:SlRd (vw h) vt t):
  ay UQ 5 #[vs,vt,UH UI by_] h (λu h'=>u = .bool UO/\(vw h).le (vw h')):=by
 refine ao (args:=[vs,vt,UH UI by_]) follows Tryz.func5 E.cJ UC λK hK=>?_;dsimp only[L.cJ,lkF,lkG];refine aa λz hz=>?_;simp;subst hz;refine aa λz hz=>?_;simp;refine ah U0 (H8 ht hM) ?_;rintro _ h2 ⟨l02,rfl⟩;subst hz;refine aa λz hz=>?_;simp;refine ah U0 (DZ (hs.mono l02)) ?_;rintro us _ ⟨rfl,s3⟩;refine ah U0 (M5 (Owns.start UE) (λ_ _=>rfl) s3) ?_;rintro uf h4 ⟨W4,hW4,w4,rf⟩;have rf:=rf.mono w4.wle;have l24:=UF hW4 w4.wle;have l04:=UF l02 l24;have hsm:=Mb (s:=s.take 300);generalize uu (s.take 300)=f at rf hsm;refine df (X:=vw h4) (z:=.agg #[UH UI 0,UM UL 0 0]) U0 rfl U0 rf U5 U5 λh5 hle5 _ at5=>?_;have at5:=at5 (vw h5) hle5 rfl;generalize h4.size=B at at5 ⊢;obtain⟨uF,huF,rF⟩:=at5.ldN rfl (N:=2) rfl;have l05:=UF l04 hle5;subst hz;refine aa λz hz=>?_;simp;refine ah U0 (DZ (htb.mono l05)) ?_;rintro ut _ ⟨rfl,s6⟩;refine ah U0 (J1 s6) ?_;rintro ul h7 ⟨hle7,sl⟩;obtain⟨s',hs'⟩ : ∃s',s'=t.take 300:=⟨_,rfl⟩;rw[<-hs']at sl;have hl74:=Aa (s:=s');have hg:=NR (s:=s');have l07:=UF l05 hle7;have sll : ∀{K:View},Un.ev K .len ul=UK (UH UI (tabS s').length):=sl.len;subst hz;refine aa λz hz=>?_;simp;refine ah U0 (II U1) ?_;rintro _ h7 ⟨r,rfl,hr,rfl⟩;have ew:IntKind.i64.wrap (1+(r:Int))=1+(r:Int):=aS U1 U1;simp[ew];subst hz;refine aa λz hz=>?_;simp;subst hz;refine aa λz hz=>?_;obtain⟨k,hk0⟩ : ∃k:Int,k=1+(r:Int):=⟨_,rfl⟩;rw[<-hk0];have hk1:1<=k/\k<=20:=by omega
 clear hk0 hr ew;have w7:=(Owns.start (h:=h7) (View.le_refl (vw h7))).Bz (k:=(0,0)) (α:=aH) (e:=T.eI) rfl;simp;refine dq [7,8,9,10,11,12] (fun(mv:Value) i=>[.bool UO,UN (UK ⟨B,0,UL⟩),ul,UH UI k,mv,UH UI i]) (λmv i hx=>Owns (vw h7) hx (oneT mv (eh k ((tabS s').take i)))) (tabS s').length (UM UL 0 0)
  U0 U1 (by simp[aX,af,ag]) (Ll w7 Own.aq) (λ_ _=>rfl) (λmv i hx hi w=>?_) ?_ ?_
 ·simp[sll]
 ·rintro mv i hx hi w K2 hK2;have slx:=sl.mono w.wle;have q:=slx.idxn (k:=.i64) (N:=2) rfl (i:=(i:Int)) U1 U1;have kp:=((sl.at hi).part aH.zH).int;have kc:=((sl.at hi).part aH.zQ).int;rw[<-aA hi]at kp kc;have n2:Rep.n aH=2:=rfl;simp[n2]at q kp kc;obtain⟨g1,g2,g3⟩:=hg _ (bo hi);have b1:0<=(nth (tabS s') i).cost*k:=Uz g2 U1;have b2:(nth (tabS s') i).cost*k<=12*20:=Int.le_trans (S5 g3 U1) (T2 hk1.2 U1);have ewc:IntKind.i64.wrap ((nth (tabS s') i).cost*k)=(nth (tabS s') i).cost*k:=aS U1 U1;have hlen:(eh k ((tabS s').take i)).length<=74:=by unfold eh;rw[Sw,RJ];omega
  refine aG (vw h7) w.wle ?_;simp[q,kp,kc,ewc];refine az (t:=T.eI) (z:=.agg #[UH UI 0,UH UI 0]) (places:=[(0,1),(1,1)]) (vs:=[(0,UH UI (nth (tabS s') i).pat),(1,UH UI ((nth (tabS s') i).cost*k))]) (cs:=#[UH UI (nth (tabS s') i).pat,UH UI ((nth (tabS s') i).cost*k)]) U0 U0 U2 U0 ?_;refine w.fM (k:=(0,0)) (α:=aH) mY El.ja U2 (xW (p:=(nth (tabS s') i).pat) (c:=(nth (tabS s') i).cost*k) U6 U6) U1 U1 U5 U5 λu v8 h8 w8 _=>?_;rw[zv]at w8;refine hK2 v8 _ _ (by simp[af,ag]) (by simp[aX,af,ag]) ?_;rw[Fz hi];exact w8
 rintro mv hx w;rw[RM]at w;have sm:=w.now (k:=(0,0)) mY;have l7x:=w.wle;obtain⟨q1,q2,q3⟩:=EL (f:=f) (s:=s') hk1.1 hk1.2;have hc:=DT (f:=f) (l:=tabS s') hsm;have ewk:IntKind.i64.wrap ((dN f (tabS s')).cost*k)=(dN f (tabS s')).cost*k:=by have b1:0<=(dN f (tabS s')).cost*k:=Uz hc.1 U1;have b2:(dN f (tabS s')).cost*k<=1000000000000*20:=Int.le_trans (S5 hc.2 U1) (T2 hk1.2 U1);exact aS U1 U1
 have rF:=rF.mono (UF hle7 l7x);have huF:=λK hK=>huF K (UF (UF hle7 l7x) hK);clear w w7 w4;simp;subst hz;refine aa λz hz=>?_;simp[huF _ UE];refine ah U0 (oI rF (sl.mono l7x) hsm (ht.mono (UF l07 l7x)) hM) ?_;rintro _ h9 ⟨hle9,vm,rfl,rm⟩;simp;refine df (X:=vw h9) (z:=.agg #[UH UI 0,UM UL 0 0]) U0 rfl U0 rm U5 U5 λh10 hle10 _ at10=>?_;have at10:=at10 (vw h10) hle10 rfl;generalize h9.size=A at at10 ⊢;have l10:=UF hle9 hle10;have l010:=UF (UF l07 l7x) l10;subst hz;refine aa λz hz=>?_;simp[huF _ l10];refine ah U0 (oI (rF.mono l10) (sm.mono l10) hsm (ht.mono l010) hM) ?_;rintro _ h11 ⟨hle11,vm2,rfl,rm2⟩;rw[q1]at rm2;rw[q2,q3];simp;refine df (X:=vw h11) (z:=.agg #[UH UI 0,UM UL 0 0]) U0 rfl U0 rm2 U5 U5 λh12 hle12 _ at12=>?_;have at12:=at12 (vw h12) hle12 rfl;generalize h11.size=D at at12 ⊢;have l1012:=UF hle11 hle12;obtain⟨ua,hua,rua⟩:=(at10.mono l1012).ldN rfl (N:=2) rfl;obtain⟨ub,hub,rub⟩:=at12.ldN rfl (N:=2) rfl;have hua:=hua _ UE;have hub:=hub _ UE;have hsmM:=HQ (l:=tabS s') hsm;subst hz;refine aa λz hz=>?_;refine aG (vw h12) UE ?_;simp[ewk,hua,hub];refine ah U0 (Aw rua hsmM) ?_;rintro _ h13 ⟨rfl,hle13⟩;refine⟨hle13,?_⟩;refine ah U0 (Aw (rub.mono hle13) hsmM) ?_;rintro _ h14 ⟨rfl,hle14⟩;simp[yA];subst hz;simp;exact⟨UF hle13 hle14,hK _ _ ⟨rfl,UF l010 (UF l1012 (UF hle13 hle14))⟩⟩
end Go.Proofs.YtmhnaeecolpfkaaGreatDoor
