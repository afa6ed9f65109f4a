/- A part of the proof: As, At, Au, Av, Bd, Ag, Tp, Tq, Ay, To, Tr. -/
import Derived.Test.YtmhnaeecolpfkaaGreatDoorZCTmp8
set_option linter.unusedSimpArgs false
set_option linter.unusedVariables false
open Go.Value renaming int->Vz,slice->VE,pointer->VF
open Go.IntKind renaming i64->VA,i32->VB
open Option renaming some->VC,none->VD
open Bool renaming true->VG,false->VH
open Go.Proofs.Tryz renaming prog->VI
open Go.Proofs
namespace Go.Lft
theorem KZ{W:View}:Rd W (.agg #[VE VD 0 0,VE VD 0 0,Vz VA 0,VE VD 0 0,VE VD 0 0,Vz VB 0]) (⟨[],[],⟨0,[],[],⟨0⟩⟩⟩:BlkD):=by unfold Rd;rw[if_pos (show Rep.agg BlkD=VG from rfl)];exact⟨_,rfl,[_],[_,_,_,_,_],rfl,⟨_,rfl,aL⟩,[_],[_,_,_,_],rfl,⟨_,rfl,aL⟩,[_],[_,_,_],rfl,⟨rfl,by decide⟩,[_],[_,_],rfl,⟨_,rfl,aL⟩,[_],[_],rfl,⟨_,rfl,aL⟩,rfl,by decide⟩
abbrev Oh:List Value:=[VE VD 0 0,VE VD 0 0,Vz VA 0,Vz VA 0,Vz VA 0,VE VD 0 0,Vz VB 0]
theorem Lv{W:View}:Rd W (.agg Oh.toArray) (⟨⟨VE VD 0 0⟩,⟨⟨VE VD 0 0⟩,cT⟩⟩:lM):=by unfold Rd;rw[if_pos (show Rep.agg lM=VG from rfl)];exact⟨_,rfl,[_],[_,_,_,_,_,_],rfl,⟨rfl,rfl⟩,[_],[_,_,_,_,_],rfl,⟨rfl,rfl⟩,ml V5 V6 aL⟩
variable{n:Int}
theorem sE{W:View}(h:I64 n):Rd W (.agg #[Vz VA n,VE VD 0 0]) (⟨n,⟨VE VD 0 0⟩⟩:OutD):=by unfold Rd;rw[if_pos (show Rep.agg OutD=VG from rfl)];exact⟨_,rfl,[_],[_],rfl,⟨rfl,h⟩,rfl,rfl⟩
variable{vl:Value}
set_option maxHeartbeats 8000000 in
theorem kV{f:ak}{l:List aS}{v:Value}{h:Heap}{W:View}{oo:Own}(w0:Owns W h oo)(ho : ∀q:Key,q.1<10->oo q=VD)(hv:Rd W v f)(hl:SlRd W vl l)(hsm:SmF f)(ht:Tab h)(hM:iu):
  ay VI 14 #[v,vl] h (λu h'=>∃W' vm,W.cf.le W'/\W.le (vw h')/\Owns W' h' oo/\u = .tuple #[vm,Vz VA (dD f l).cost,Vz VA (dD f l).err]/\Rd W' vm (dD f l).code):=by
 refine rX (args:=[v,vl]) follows Tryz.func14 E.ib Vu λK hK=>?_;dsimp only[L.ib,lkF,lkG];have hlen:=hsm.len;refine aa λz hz=>?_;simp;refine w0.vD (α:=ak) rfl hv λBf h1 W1 hW1 w1 atF hle1=>?_;refine w1.vD (α:=List aS) rfl (dw.2 (hl.mono hW1)) λBl h2 W2 hW2 w2 atL hle2=>?_;refine w2.jS (k:=(2,0)) (α:=OutD) (z:=zz4) (d:=⟨0,⟨VE VD 0 0⟩⟩) (ho _ V6) V0 (sE ⟨V6,V6⟩) V6 λh3 hle3 w3=>?_;generalize h2.size=R at w3 ⊢;have hWh:=w0.wle;have out_ : ∀(h5:Heap) (W6:View) (o6:Own) (p:Int) (ov:Value) (blks:List eK) (c e:Int) (ρ:Env),W.le W6->Owns W6 h5 o6->(∀k i,oo k=VC i->o6 k=VC i)->At W6 ⟨R,0,VD⟩ (⟨p,⟨ov⟩⟩:OutD)->SlRd W6 ov blks->dD f l=⟨⟨p,blks⟩,c,e⟩->
   Lft.look ρ 4=VC (ptz R)->Lft.look ρ 5=VC (Vz VA c)->Lft.look ρ 6=VC (Vz VA e)->Dc h.size [.un (.bI 2) (.tmp 4),.tmp 5,.tmp 6] K .ret ρ h5:=by
  intro h5 W6 o6 p ov blks c e ρ hW6 w6 hsub aR s hch g4 g5 g6;rw[hch]at hK;intro h6 hsw;have w7:=w6.QY hsw;obtain⟨ur,hur,rur⟩:=aR.cf.ldN rfl (N:=2) rfl;refine⟨[ur,Vz VA c,Vz VA e],by simp[g4,g5,g6,hur _ w7.wle],hK _ _ ⟨W6.cf,ur,λb x hb=>?_,λb x hb=>?_,w7.sub hsub,rfl,Ld rur (dw.1 (dw.2 s).cf)⟩⟩
  ·have h1:=View.mX _ _ hb;have h2:=hW6 b x h1;unfold View.cf at hb ⊢;rw[h2];rw[h1]at hb;exact hb
  have hlt:=View.lt hWh hb;show h6[b]? = VC x;rw[hsw.same b (.inl hlt)];exact w6.wle b x (hW6 b x hb)
 have atF:=atF.mono hW2;have l03:=Vx hle1 (Vx hle2 hle3);have lW2:=Vx hW1 hW2;obtain⟨uF,huF,rF⟩:=atF.ldN rfl (N:=2) rfl;obtain⟨vl2,cl,sl⟩:=atL.list;subst hz;refine aa λz hz=>?_;simp[huF _ w3.wle,ae w3.wle cl];refine ah V0 (BX w3.wle sl rF hsm (ht.mono l03) (λ_ _ _=>hM) (λhr=>HF (jH hr) hsm (oL rF))) ?_;rintro _ h4 ⟨hle4,rfl⟩;have w4:=w3.ext hle4;have lW4:W2.le (grow W2 h3 h4):=bC w3.wle;generalize grow W2 h3 h4=W4 at *;have l0W4:=Vx lW2 lW4;simp;subst hz;refine aa λz hz=>?_;clear w0 w1 w2 w3 hle1 hle2 hle3 hle4 hW1 hW2;by_cases ce:(eW l f).1=0;rotate_left
 ·have e:dD f l=noCh (eW l f).1:=by unfold dD;rw[if_pos ce]
  simp[ce];refine aA (t:=T.jF) (z:=zz4) (places:=zpd) (vs:=[]) (cs:=#[Vz VA 0,VE VD 0 0]) V0 V0 V5 V0 ?_;refine w4.cz (k:=(2,0)) (α:=OutD) Part.all (D:=⟨0,⟨VE VD 0 0⟩⟩) (d:=⟨0,⟨VE VD 0 0⟩⟩) Own.an V0 V5 V5 (sE ⟨V6,V6⟩) λh5 w5 _=>?_;obtain⟨W6,lW6,w6,aR⟩:=w5.kg (k:=(2,0)) (α:=OutD) (e:=T.jF) (B:=R) (d:=⟨0,⟨VE VD 0 0⟩⟩) Own.an;refine out_ h5 W6 _ 0 (VE VD 0 0) [] 0 (eW l f).1 _ (Vx l0W4 lW6) w6 (λk i hk=>?_) aR aL e rfl rfl rfl;by_cases c:k=(2,0)
  ·subst c;have:=(ho (2,0) V6).symm.trans hk;cases this
  rw[Own.aB c,Own.aB c,Own.aB c];exact hk
 obtain⟨tb0,hrt,-⟩:=zR ce;have hok:Okf f:=⟨jH hrt,hsm,oL rF⟩;have hcl : ∀t∈l,0<=t.cost/\t.cost<=1000:=λt ht=>Ai tb0 ht;have hpat : ∀t∈l,I64 t.pat:=λt ht=>AY tb0 ht;have atF:=atF.mono lW4;have atL:=atL.mono lW4;have huF:=λK hK=>huF K (Vx lW4 hK);have rF:=rF.mono lW4;have cl:=ae lW4 cl;have sl:=sl.mono lW4;clear lW4;obtain⟨cp,vb,cb,sb⟩:=fh atF;have rp:I64 f.params:=(atF.part ak.Ap).rng;simp[ce];subst hz;refine aa λz hz=>?_;simp[ae w4.wle cp];refine aA (t:=T.jF) (z:=zz4) (places:=zpd) (vs:=[(0,Vz VA f.params)]) (cs:=#[Vz VA f.params,VE VD 0 0]) V0 V0 V5 V0 ?_;refine w4.qz (k:=(0,6)) (α:=OutD) (n:=2) ((Own.aB V5).trans (ho _ V6)) (sE rp) rfl (z:=zz4) V0 rfl V0 V6 V8 V8 λh5 hle5 w5=>?_;generalize h4.size=Bo at w5 ⊢;subst hz;refine aa λz hz=>?_;simp[huF _ w5.wle];refine ah V0 (PW (rF.mono w5.wle) hsm) ?_;rintro _ h6 ⟨rfl,hle6⟩;have w6:=w5.ext hle6;have lW6:W4.le (grow W4 h5 h6):=bC w5.wle;generalize grow W4 h5 h6=W6 at *;refine w6.jS (k:=(0,3)) (α:=Int) (d:=0) (z:=Vz VA 0) (ho (0,3) V6) V0 (bu.2 ⟨rfl,by decide,by decide⟩) V6 λh7 hle7 w7=>?_;generalize h6.size=Bt at w7 ⊢;refine w7.jS (k:=(0,4)) (α:=Int) (d:=0) (z:=Vz VA 0) (ho (0,4) V6) V0 (bu.2 ⟨rfl,by decide,by decide⟩) V6 λh8 hle8 w8=>?_;generalize h7.size=Bc at w8 ⊢;refine w8.jS (k:=(0,5)) (α:=Bool) (d:=false) (z:=.bool VH) (ho (0,5) V6) V0 (qN.2 rfl) V6 λh9 hle9 w9=>?_;generalize h8.size=Bn at w9 ⊢;have tr:=Cq (f:=f);refine w9.cz (k:=(0,3)) (α:=Int) Part.all (D:=0) (d:=topS f) rfl V0 V5 V5 (bu.2 ⟨rfl,by omega,by omega⟩) λh10 w10 _=>?_;refine w10.cz (k:=(0,4)) (α:=Int) Part.all (D:=0) (d:=0) rfl V0 V5 V5 (bu.2 ⟨rfl,by decide,by decide⟩) λh11 w11 _=>?_;refine w11.cz (k:=(0,5)) (α:=Bool) Part.all (D:=false) (d:=false) rfl V0 V5 V5 (qN.2 rfl) λh12 w12 _=>?_;have w12:=w12.GD (k:=(0,7)) (α:=eK) (e:=T.gI) (ho (0,7) V6);have w12:Owns W6 h12 (fnO oo R Bo Bc Bt Bn f.params (VE VD 0 0) (VE VD 0 0) [] 0 (topS f) VH):=w12.sub λk i hk=>by
  unfold fnO at hk;by_cases c3:k=(0,3)
  ·subst c3;exact hk
  by_cases c4:k=(0,4)
  ·subst c4;exact hk
  by_cases c5:k=(0,5)
  ·subst c5;exact hk
  by_cases c6:k=(0,6)
  ·subst c6;exact hk
  by_cases c7:k=(0,7)
  ·subst c7;exact hk
  by_cases c2:k=(2,0)
  ·subst c2;exact hk
  rw[if_neg c3,if_neg c4,if_neg c5,if_neg c6,if_neg c7,if_neg c2]at hk;simp only[Own.upd,if_neg c3,if_neg c4,if_neg c5,if_neg c6,if_neg c7,if_neg c2];exact hk
 clear w4 w5 w6 w7 w8 w9 w10 w11 hle5 hle6 hle7 hle8 hle9;have atF:=atF.mono lW6;have huF:=λK hK=>huF K (Vx lW6 hK);have rF:=rF.mono lW6;have cl:=ae lW6 cl;have sl:=sl.mono lW6;have cb:=ae lW6 cb;have sb:=sb.mono lW6;have l06:=Vx l0W4 lW6;clear lW6 l0W4 atL;subst hz;refine aa λz hz=>?_;have sbn : ∀{K:View},Un.ev K .len vb=VC (Vz VA f.blocks.length):=sb.len;simp[ae w12.wle cb,sbn];refine aF [2,3,4,10,11,12,13,41,42,43] (fun(_:Unit) k=>[ptz Bf,ptz Bl,ptz R,ptz Bo,ptz Bt,ptz Bc,ptz Bn,vb,Vz VA f.blocks.length,Vz VA k])
  (λ_ k hx=>∃Wk ov,W6.le Wk/\Owns Wk hx (fnO oo R Bo Bc Bt Bn f.params ov ov (fnAt f l k).out (fnAt f l k).cost (fnAt f l k).temp (fnAt f l k).many)) f.blocks.length ()
  V0 V4 (by simp[aY,af,ag]) ⟨W6,_,View.le_refl _,w12⟩ (λ_ _=>rfl) (λv i h1 hk m=>by simp) ?_ ?_
 ·clear w12;rintro _ b h13 hb ⟨Wk,ov,lWk,wk⟩ K2 hK2;have hb:b<f.blocks.length:=hb;obtain⟨fb1,fb2,fb3,fb4,fb5⟩:=Jq (l:=l) hsm hcl (k:=b) V4;have hbk:=hsm.blk b hb;have hil:=hbk.ins;have hfs:=xH (f:=f) (l:=l) (k:=b);generalize fnAt f l b=S at *;have sbk:=sb.mono lWk;obtain⟨ux,hux,rux⟩:=sbk.wh rfl (N:=6) rfl hb;have qt:=(sbk.mono wk.wle).idxn (k:=.i64) (N:=6) rfl (i:=(b:Int)) V4 V4;simp at qt;refine dc ?_;refine aa λy hy=>?_;simp[qt,hux _ wk.wle];refine wk.jS (k:=(3,0)) (α:=Int) (d:=0) (z:=Vz VA 0) (ho (3,0) V6) V0 (bu.2 ⟨rfl,by decide,by decide⟩) V6 λh14 hle14 w14=>?_;generalize h13.size=Bk at w14 ⊢;refine w14.jS (k:=(3,1)) (α:=BlkD) (z:=zz3) (ho (3,1) V6) V0 KZ V6 λh15 hle15 w15=>?_;generalize h14.size=Bb at w15 ⊢;refine w15.cz (k:=(3,0)) (α:=Int) Part.all (D:=0) (d:=(b:Int)) rfl V0 V5 V5 (bu.2 ⟨rfl,by omega,by omega⟩) λh16 w16 _=>?_;refine w16.cz (k:=(3,1)) (α:=BlkD) Part.all (D:=⟨[],[],⟨0,[],[],⟨0⟩⟩⟩) (d:=nth f.blocks b) rfl V0 V5 V5 rux λh17 w17 _=>?_;obtain⟨W18,lW18,w18,atK⟩:=w17.kg (k:=(3,0)) (α:=Int) (d:=(b:Int)) (e:=T.int) (B:=Bk) rfl;obtain⟨W19,lW19,w19,atB⟩:=w18.kg (k:=(3,1)) (α:=BlkD) (d:=nth f.blocks b) (e:=T.fi) (B:=Bb) rfl;have w19:Owns W19 h17 (fnO oo R Bo Bc Bt Bn f.params ov ov S.out S.cost S.temp S.many):=w19.sub λk i hk=>by
   by_cases c0:k=(3,0)
   ·subst c0;have:=(ho (3,0) V6).symm.trans hk;cases this
   by_cases c1:k=(3,1)
   ·subst c1;have:=(ho (3,1) V6).symm.trans hk;cases this
   simp only[Own.upd,if_neg c0,if_neg c1];exact hk
  have ck:=ae lW19 atK.int;have lK:=Vx lWk (Vx lW18 lW19);clear wk w14 w15 w16 w17 w18 lWk lW18 lW19 hux rux qt hle14 hle15 atK sbk;subst hy;refine aa λy hy=>?_;simp;refine w19.jS (k:=(0,0)) (α:=lM) (z:=.agg Oh.toArray) (d:=⟨⟨VE VD 0 0⟩,⟨⟨VE VD 0 0⟩,cT⟩⟩) (ho (0,0) V6) V0 Lv V6 λh20 hle20 w20=>?_;generalize h17.size=Bm at w20 ⊢;have w20:=(w20.GD (k:=(0,1)) (α:=PhiD) (e:=T.iZ) (ho (0,1) V6)).GD (k:=(0,2)) (α:=aU) (e:=T.du) (ho (0,2) V6);rw[Ni]at w20;clear w19 hle20;subst hy;refine aa λy hy=>?_;obtain⟨vph,cph,sph⟩:=(atB.part BlkD.uC).list;simp at cph;have sphn : ∀{K:View},Un.ev K .len vph=VC (Vz VA (nth f.blocks b).phis.length):=sph.len;have hpn:=hbk.phis;simp[ae w20.wle cph,sphn];refine aF [2,3,4,10,11,12,13,14,15,16,41,42,43,49,50,51] (fun(_:Unit) j=>[ptz Bf,ptz Bl,ptz R,ptz Bo,ptz Bt,ptz Bc,ptz Bn,ptz Bk,ptz Bb,ptz Bm,vb,Vz VA f.blocks.length,Vz VA b,vph,Vz VA (nth f.blocks b).phis.length,Vz VA j])
   (λ_ j hx=>∃Wj pv,W19.le Wj/\Owns Wj hx (blkO oo R Bo Bc Bt Bn f.params ov S.out S.cost S.temp S.many Bm pv pv (VE VD 0 0) (VE VD 0 0) ((nth f.blocks b).phis.take j) cT [])) (nth f.blocks b).phis.length ()
   V0 V4 (by simp[aY,af,ag]) ⟨W19,_,View.le_refl _,w20⟩ (λ_ _=>rfl) (λv i h1 hk m=>by simp) ?_ ?_
  ·clear w20;rintro _ j h21 hj ⟨Wj,pv,lWj,wj⟩ K3 hK3;have hj:j<(nth f.blocks b).phis.length:=hj;have hpl:=hbk.phi j hj;have sj:=sph.mono lWj;obtain⟨up,hup,rup⟩:=sj.wh rfl (N:=2) rfl hj;have qp:=(sj.mono wj.wle).idxn (k:=.i64) (N:=2) rfl (i:=(j:Int)) V4 V4;simp at qp;refine dc ?_;refine aa λx hx=>?_;simp[qp,hup _ wj.wle];refine cW (X:=Wj) (α:=PhiD) (z:=zz4) V0 rfl V0 rup V8 V8 λh22 hle22 _ at22=>?_;have at22:=at22 (grow Wj h21 h22) (bC wj.wle) (cg (RX _));have w22:=wj.ext hle22;have lW22:=Vx lWj (bC (h':=h22) wj.wle);generalize h21.size=Bp at at22 ⊢;generalize grow Wj h21 h22=W22 at *;clear wj hle22 qp hup rup;subst hx;obtain⟨pd,vpi,pin⟩:=yP at22;have rdst:=(at22.part PhiD.iG).rng;have hH:=FZ w22.wle (w22.av (0,1) _ rfl);have hne:pv.ownBlock≠VC Bm:=λe=>by have:=w22.dj (0,1) (0,0) _ _ Bm rfl rfl e rfl;simp at this
   have cm:aq (but pv h22) ⟨Bm,0,VD⟩=VC pv:=Fg (by simpa using((w22.at (k:=(0,0)) (B:=Bm) (d:=(⟨⟨pv⟩,⟨⟨VE VD 0 0⟩,cT⟩⟩:lM)) rfl).part GS).raw) hne;refine aN (but pv h22) xu ?_;simp[cm,ae hH pd,ae hH pin.1];refine ah V0 (Gq (pin.2.mono w22.wle) V4) ?_;rintro u23 h23 ⟨hle23,s23⟩;have lH:=Vx (xu (v:=pv) (h:=h22)) hle23;refine⟨lH,?_⟩;have w23:=w22.ext hle23;have s23:=s23.mono (lk (Y:=W22));have lW23:=Vx lW22 (bC (h':=h23) w22.wle);generalize grow W22 h22 h23=W23 at *;have s23':=s23;obtain⟨ua,uc,rfl,-,-,-⟩:=s23';refine aA (t:=T.iZ) (z:=zz4) (places:=zpd) (vs:=[(0,Vz VA (nth (nth f.blocks b).phis j).dst),(1,.slice ua (nth (nth f.blocks b).phis j).ins.length uc)]) (cs:=#[Vz VA (nth (nth f.blocks b).phis j).dst,.slice ua (nth (nth f.blocks b).phis j).ins.length uc]) V0 V0 V5 V0 ?_;refine⟨lH,?_⟩;have rphi:Rd W23 (.agg #[Vz VA (nth (nth f.blocks b).phis j).dst,.slice ua (nth (nth f.blocks b).phis j).ins.length uc]) (nth (nth f.blocks b).phis j):=by unfold Rd;rw[if_pos (show Rep.agg PhiD=VG from rfl)];exact⟨_,rfl,[_],[_],rfl,⟨rfl,rdst⟩,⟨_,rfl,s23⟩⟩
   refine ni (α:=PhiD) (W:=W23) El.nS V5 rphi λu24 h24 hsrc hle24 _=>⟨Vx lH hle24,?_⟩;have w24:=w23.ext' hle24;have htk:((nth f.blocks b).phis.take j).length<=10000:=by rw[SH];omega
   refine Lft.dA El.nS V5 V5 (w24.get (k:=(0,1)) (v:=pv) (l:=(nth f.blocks b).phis.take j) rfl) hsrc (by simp only[Su];omega) (by simp only[Su];omega) λv25 h25 o25 m25=>?_;have w25:=w24.gK (k:=(0,1)) rfl o25 m25;have hv25:=(w25.cells (k:=(0,1)) Own.an).2;refine w25.cz (k:=(0,0)) (α:=lM) GS (D:=⟨⟨pv⟩,⟨⟨VE VD 0 0⟩,cT⟩⟩) (d:=⟨v25⟩) rfl V0 V5 V5 (iT.2 ⟨rfl,hv25⟩) λh26 w26 _=>?_;rw[I5]at w26;refine hK3 () _ _ (by simp[af,ag]) (by simp[aY,af,ag]) ⟨W23,v25,lW23,?_⟩;rw[Si hj,<-az hj];exact w26
  clear w20;rintro _ h21 ⟨Wj,pv,lWj,wj⟩;rw[SF]at wj;have lKj:=Vx lK lWj;simp;subst hy;refine aa λy hy=>?_;simp[huF _ (Vx lKj wj.wle),ae (Vx lKj wj.wle) cl,ae (Vx lWj wj.wle) ck];refine ah V0 (rJ wj (rF.mono lKj) (sl.mono lKj) hok hM hb hpat hcl) ?_;rintro _ h22 ⟨C,rm,rc,rb,B22,W22,rfl,hsol,lW22,cw22⟩;refine cW (α:=Raw) (d:=⟨ptz C⟩) (X:=B22) (z:=VF VD) V0 rfl V0 (iT.2 ⟨rfl,rfl⟩) V8 V8 λh23 hle23 _ at23=>?_;have at23:=(at23 (grow B22 h22 h23) cw22.z.up (cg (RX _))).raw;have cw23:=cw22.ext hle23;have lW23:=Vx lW22 (cw22.z.upW (h':=h23));generalize h22.size=Bq at at23 ⊢;generalize grow B22 h22 h23=B23 at *;generalize grow W22 h22 h23=W23 at *;subst hy;refine aa λy hy=>?_;simp;refine cW (α:=Raw) (d:=⟨.func (.func 50) #[] #[ptz Bf,ptz Bk,ptz Bt,ptz Bm,ptz Bb,ptz Bn]⟩) (X:=B23) (z:=.nilFunc) V0 rfl V0 (iT.2 ⟨rfl,rfl⟩) V8 V8 λh24 hle24 _ at24=>?_;have at24:=(at24 (grow B23 h23 h24) cw23.z.up (cg (RX _))).raw;have at23:=ae (cw23.z.up (h':=h24)) at23;have cw24:=cw23.ext hle24;have lW24:=Vx lW23 (cw23.z.upW (h':=h24));generalize h23.size=Br at at24 ⊢;generalize grow B23 h23 h24=B24 at *;generalize grow W23 h23 h24=W24 at *;clear cw22 cw23 hle23 hle24 lW22 lW23 wj hsol;subst hy;refine aa λy hy=>?_;refine aa λx hx=>?_;simp[ae cw24.z.wle at23];refine ah V0 (DR cw24 (λp t=>rO) hpat) ?_;rintro _ h25 ⟨p1,p2,B25,W25,rfl,lB25,lW25,cw25,hit⟩;have ch:=cw25.ch.mono cw25.z.le;have c19:=ae (Vx lB25 cw25.z.le) at23;have c20:=ae (Vx lB25 cw25.z.le) at24;have mb:=cw25.mb;have own25:=cw25.z.own;have lj25:=Vx lW24 lW25;have l25:=Vx lKj lj25;have atF25:=atF.mono l25;have ck25:=ae (Vx lWj lj25) ck;have atB25:=atB.mono (Vx lWj lj25);have cl25:=ae l25 cl;have sl25:=sl.mono l25;clear cw24 cw25 at23 at24 lB25 lW25 lW24 lj25 lWj lK cph sph;subst hx;refine dc ?_;refine uJ (enc:=natV) (all:=eO f b l) (gf:=99) (caps:=[ptz p1,ptz p2]) W25 W25
   (λe k X hx=>e=VD/\∃Y o',Held h25.size X Y hx o'/\(W25.le Y/\∃iv,o'=blkO oo R Bo Bc Bt Bn f.params ov S.out (mT f l b S k).cost (mT f l b S k).temp (mT f l b S k).many Bm pv pv iv iv (nth f.blocks b).phis (mT f l b S k).blk.fin (mT f l b S k).blk.ins))
   rfl V0 hit (λ_=>rfl) Vw (λe k=>⟨λ⟨_,q⟩=>Held.yD.le q,λ⟨a,q⟩ h1 h2 h3 h4=>⟨a,Held.yD.move q h1 h2 h3 h4⟩⟩) ⟨rfl,W25,_,Held.start own25,View.le_refl _,(VE VD 0 0),rfl⟩
   (λx h1=>by simp[natV,dC];rfl) ?_ ?_ ?_
  ·rintro k i X h26 hag hk ⟨_,Y,o',w,lY,iv,rfl⟩ K3 hK3 _;have hkr:k<(eO f b l).length:=(S7.1 hk).1;obtain⟨hi,-⟩:=EF hk;have lb:=C7 (s:=S) hsm hb hcl (k:=k) V4;have hls:=F8 (s:=S) hk;have hrl:=te (f:=f) (b:=b) (l:=l);generalize mT f l b S k=q at *;obtain⟨q1,q2,q3,q4,q5,q6⟩:=lb;have q1:S.temp<=q.temp:=q1;have q2:q.temp<=S.temp+k:=q2;have q3:S.cost<=q.cost:=q3;have q4:q.cost<=S.cost+1000*k:=q4;have q5:q.blk.ins.length<=0+2*k:=q5;have lYh:=Vx lY w.own.wle;refine dc ?_;refine aa λx hx=>?_;simp[ae lYh c19,ae lYh ch.x6];refine eo (f:=mapI (cU f b l).best) (z:=Vz VA 0) (k:=T.int) (e:=T.int) (d:=.int .i64) (r:=rb) (u:=Vz VA i) V0 V0 V0 rfl rfl cM ((mb.mono lY).is w.own.wle) ?_;cases hbi:(cU f b l).best i with
   | none=>
    have er:fQ f b l q i=layS f b i 0 q:=by unfold fQ;rw[hbi]
    simp[hbi];subst hx;simp[ae lYh c20];refine bW (ops:=[.tmp 87,.const (Vz VA 0)]) (caps:=#[ptz Bf,ptz Bk,ptz Bt,ptz Bm,ptz Bb,ptz Bn]) rfl V0 (Ks w (ho (1,0) V6) (ho (1,1) V6) (atF25.mono lY) (ae lY ck25) (atB25.mono lY) hsm hM hb hi ⟨V6,V6⟩ V9 V4) ?_;rintro _ h27 ⟨Y',iv',lY',w'⟩;rw[Dw]at w';refine hK3 _ _ ⟨rfl,Y',_,w',Vx lY lY',iv',?_⟩;rw[hls,er];rfl
   | some t=>
    obtain⟨t0,t1⟩:=rO hbi;obtain⟨tn,rfl⟩:=S0 t0;have ht:tn<l.length:=by omega
    have hc:=hcl _ (bh ht);have er:fQ f b l q i=layS f b i (nth l tn).pat { q with cost:=q.cost+(nth l tn).cost }:=by unfold fQ;rw[hbi];rfl
    have slh:=sl25.mono lYh;have ql:=slh.idxn (k:=.i64) (N:=2) rfl (i:=(tn:Int)) V4 V4;have kc:=((slh.at ht).part aS.C5).int;have kp:=((slh.at ht).part aS.BI).int;rw[<-az ht]at kc kp;have n2:Rep.n aS=2:=rfl;simp[n2]at ql kc kp;have cc:aq (vw h26) ⟨Bc,0,VD⟩=VC (Vz VA q.cost):=(w.own.at (k:=(0,4)) rfl).int;have ew:IntKind.i64.wrap (q.cost+(nth l tn).cost)=q.cost+(nth l tn).cost:=bj V4 V4;simp[hbi];subst hx;refine aa λx hx=>?_;simp;subst hx;refine aa λx hx=>?_;refine aN (vw h26) Vw ?_;simp[cc,ae lYh cl25,ql,kc,ew];refine w.cz (k:=(0,4)) (α:=Int) Part.all (D:=q.cost) (d:=q.cost+(nth l tn).cost) rfl V0 V5 V5 (bu.2 ⟨rfl,by omega,by omega⟩) λh27 w27=>?_;rw[HQ]at w27;subst hx;have lY27:=Vx lY w27.own.wle;have sl27:=sl25.mono lY27;have kp:=((sl27.at ht).part aS.BI).int;rw[<-az ht]at kp;simp[n2]at kp;refine aN (vw h27) Vw ?_;simp[ae lY27 c20,ae lY27 cl25,ql,kp];refine bW (ops:=[.tmp 97,.tmp 102]) (caps:=#[ptz Bf,ptz Bk,ptz Bt,ptz Bm,ptz Bb,ptz Bn]) rfl V0 (Ks w27 (ho (1,0) V6) (ho (1,1) V6) (atF25.mono lY) (ae lY ck25) (atB25.mono lY) hsm hM hb hi (hpat _ (bh ht)) V9 V4) ?_;rintro _ h28 ⟨Y',iv',lY',w'⟩;rw[Dw]at w';refine hK3 _ _ ⟨rfl,Y',_,w',Vx lY lY',iv',?_⟩;rw[hls,er];rfl
  ·rintro X h26 hag ⟨_,Y,o',w,lY,iv,rfl⟩;have w:=w.own;have lb:=C7 (s:=S) hsm hb hcl (RX (eO f b l).length);have hrl:=te (f:=f) (b:=b) (l:=l);generalize mT f l b S (eO f b l).length=q at *;obtain⟨q1,q2,q3,q4,q5,q6⟩:=lb;have q6:q.blk.phis=(nth f.blocks b).phis:=q6;have cov:aq (vw h26) ⟨Bo,1,VD⟩=VC ov:=by simpa using((w.at (k:=(0,6)) (B:=Bo) (d:=(⟨f.params,⟨ov⟩⟩:OutD)) rfl).part Hd).raw
   obtain⟨um,hum,rum⟩:=w.ldB (k:=(0,0)) (B:=Bm) (d:=(⟨⟨pv⟩,⟨⟨iv⟩,q.blk.fin⟩⟩:lM)) rfl rfl (N:=7) rfl;obtain⟨w2,s2⟩:=w.freeze (k:=(0,1)) (α:=PhiD) (e:=T.iZ) (v:=pv) (l:=(nth f.blocks b).phis) rfl;have l2:=ij (h:=h26) (w.av (0,1) _ rfl);obtain⟨w3,s3⟩:=w2.freeze (k:=(0,2)) (α:=aU) (e:=T.du) (v:=iv) (l:=q.blk.ins) rfl;have l3:=ij (h:=h26) (w2.av (0,2) _ rfl);have w4:=w3.sub (IP ho);have rb:=M9 (rum.mono (Vx l2 l3)) (s2.mono l3) s3;have eb:(⟨(nth f.blocks b).phis,q.blk.ins,q.blk.fin⟩:eK)=q.blk:=by rw[<-q6]
   rw[eb]at rb;simp;subst hy;simp[cov,hum];refine w4.fW (k:=(0,7)) (α:=eK) (v:=ov) (l:=S.out) rfl El.qY V5 rb V4 V4 V8 V8 λu5 v5 h5 w5 _=>?_;have hv5:=(w5.cells (k:=(0,7)) Own.an).2;refine w5.cz (k:=(0,6)) (α:=OutD) Hd (D:=⟨f.params,⟨ov⟩⟩) (d:=⟨v5⟩) rfl V0 V5 V5 (iT.2 ⟨rfl,hv5⟩) λh6 w6 _=>?_;rw[Jz]at w6;refine hK2 () _ _ (by simp[af,ag]) (by simp[aY,af,ag]) ⟨_,v5,Vx (Vx l25 lY) (Vx l2 l3),?_⟩;rw[hfs];exact w6
  rintro e k X h26 hag ⟨hne,_⟩;cases hne
 clear w12;rintro _ h13 ⟨Wk,ov,lWk,wk⟩;have hfn:fnAt f l f.blocks.length=fnS f l:=rfl;rw[hfn]at wk;have l0k:=Vx l06 lWk;simp;subst hz;have nc:aq (vw h13) ⟨Bn,0,VD⟩=VC (.bool (fnS f l).many):=(wk.at (k:=(0,5)) rfl).bool;refine aa λz hz=>?_;cases hm:(fnS f l).many with
 | true=>
  have e:dD f l=noCh 2:=by unfold dD;rw[if_neg (by rw[ce];simp),if_pos hm]
  rw[hm]at nc;simp[nc];refine aA (t:=T.jF) (z:=zz4) (places:=zpd) (vs:=[]) (cs:=#[Vz VA 0,VE VD 0 0]) V0 V0 V5 V0 ?_;refine wk.cz (k:=(2,0)) (α:=OutD) Part.all (D:=⟨0,⟨VE VD 0 0⟩⟩) (d:=⟨0,⟨VE VD 0 0⟩⟩) rfl V0 V5 V5 (sE ⟨V6,V6⟩) λh5 w5 _=>?_;obtain⟨W6,lW6,w6,aR⟩:=w5.kg (k:=(2,0)) (α:=OutD) (e:=T.jF) (B:=R) (d:=⟨0,⟨VE VD 0 0⟩⟩) Own.an;exact out_ h5 W6 _ 0 (VE VD 0 0) [] 0 2 _ (Vx l0k lW6) w6 (λk i hk=>L5 ho k i hk) aR aL e rfl rfl rfl
 | false=>
  have e:dD f l=⟨⟨f.params,(fnS f l).out⟩,(fnS f l).cost,0⟩:=by unfold dD;rw[if_neg (by rw[ce];simp),if_neg (by rw[hm];simp)]
  rw[hm]at nc;simp[nc];subst hz;refine aa λz hz=>?_;have cc:aq (vw h13) ⟨Bc,0,VD⟩=VC (Vz VA (fnS f l).cost):=(wk.at (k:=(0,4)) rfl).int;have hRo:(VE (VC ⟨R,0,VD⟩) 1 1).ownBlock≠VC Bo:=λe=>by have:=wk.dj (2,0) (0,6) _ _ Bo rfl rfl e rfl;simp at this
  have hRc:(VE (VC ⟨R,0,VD⟩) 1 1).ownBlock≠VC Bc:=λe=>by have:=wk.dj (2,0) (0,4) _ _ Bc rfl rfl e rfl;simp at this
  obtain⟨uo,huo,ruo⟩:=(wk.QM (k:=(0,6)) (B:=Bo) (d:=(⟨f.params,⟨ov⟩⟩:OutD)) rfl hRo (wk.av (2,0) _ rfl)).ldN rfl (N:=2) rfl;have ruo:Rd Wk uo (⟨f.params,⟨ov⟩⟩:OutD):=ruo;refine aN (but (VE (VC ⟨R,0,VD⟩) 1 1) h13) xu ?_;simp[Fg cc hRc,huo _ Vw];refine wk.kP (k:=(2,0)) (α:=OutD) Part.all (D:=⟨0,⟨VE VD 0 0⟩⟩) (d:=⟨f.params,⟨ov⟩⟩) rfl V0 V5 V5 ruo λh5 w5 hX=>⟨hX _ xu (if_pos rfl),?_⟩;subst hz;obtain⟨W6,lW6,w6,aR⟩:=w5.kg (k:=(2,0)) (α:=OutD) (e:=T.jF) (B:=R) (d:=⟨f.params,⟨ov⟩⟩) Own.an;have lp:=ij (h:=h5) (w6.av (0,7) _ rfl);obtain⟨w8,s8⟩:=w6.freeze (k:=(0,7)) (α:=eK) (e:=T.gI) (v:=ov) (l:=(fnS f l).out) rfl;simp;refine out_ h5 _ _ f.params ov (fnS f l).out (fnS f l).cost 0 _ (Vx (Vx l0k lW6) lp) w8 (λk i hk=>?_) (aR.mono lp) s8 e rfl rfl rfl;by_cases c:k=(0,7)
  ·subst c;have:=(ho (0,7) V6).symm.trans hk;cases this
  rw[Own.aB c];exact L5 ho k i hk
theorem tS{f:ak}{l:List aS}{v:Value}{h:Heap}(hv:Rd (vw h) v f)(hl:SlRd (vw h) vl l)(hsm:SmF f)(ht:Tab h)(hM:iu):
  ay VI 14 #[v,vl] h (λu h'=>(vw h).le (vw h')/\∃vm,u = .tuple #[vm,Vz VA (dD f l).cost,Vz VA (dD f l).err]/\Rd (vw h') vm (dD f l).code):=
 (kV (Owns.start Vw) (λ_ _=>rfl) hv hl hsm ht hM).mono λu h' ⟨W',vm,_,h2,h3,h4,h5⟩=>⟨h2,vm,h4,h5.mono h3.wle⟩
def wV(f:ak)(b:Nat)(l:List aS)(out:List Int)(i:Nat):List Int:=match (cU f b l).best i with
 | none=>out
 | some t=>out.set i t
def ja(f:ak)(l:List aS)(b k:Nat):List Int:=((eO f b l).take k).foldl (wV f b l) (List.replicate ((nth f.blocks b).ins.length+1) (-1))
def xj(f:ak)(l:List aS)(b:Int):List Int:=if(eW l f).1≠0\/b<0\/f.blocks.length<=b then[] else ja f l b.toNat (eO f b.toNat l).length
theorem Ew{f:ak}{l:List aS}{b k:Nat}:(ja f l b k).length=(nth f.blocks b).ins.length+1:=by
 unfold ja;have : ∀(r:List Nat) (s:List Int),(r.foldl (wV f b l) s).length=s.length:=λr=>by
  induction r with
  | nil=>intro s;rfl
  | cons a r ih=>intro s;rw[Sx,ih];unfold wV;split<;>simp
 rw[this];simp
def sO(n k:Nat):List Int:=List.replicate k (-1)++List.replicate (n-k) 0
theorem KT{n k:Nat}(h:k<n):(sO n k).set k (-1)=sO n (k+1):=by unfold sO;rw[List.set_append_right _ _ V5];simp only[SN,Uo];rw[show n-k=(n-(k+1))+1 by omega,List.replicate_succ,List.set_cons_zero,List.replicate_succ' (n:=k),Sk];rfl
theorem Au{n k:Nat}(h:k<=n):(sO n k).length=n:=by unfold sO;simp;omega
def tlO(Bo:Nat)(ov:Value)(l:List Int):Own:=λk=>if k=(0,0) then bx T.aZ Bo (⟨ov⟩:Raw) else if k=(0,1) then it T.int ov l else VD
theorem HL{Bo:Nat}{ov:Value}{l l2:List Int}:(tlO Bo ov l).upd (0,1) (it T.int ov l2)=tlO Bo ov l2:=by
 funext k;unfold tlO Own.upd;by_cases c:k=(0,1)
 ·subst c;rfl
 simp only[if_neg c]
set_option maxHeartbeats 4000000 in
theorem Kl{f:ak}{l:List aS}{v:Value}{b:Int}{h:Heap}(hv:Rd (vw h) v f)(hl:SlRd (vw h) vl l)(hsm:SmF f)(ht:Tab h)(hM:iu):
  ay VI 32 #[v,vl,Vz VA b] h (λu h'=>(vw h).le (vw h')/\SlRd (vw h') u (xj f l b)):=by
 refine rX (args:=[v,vl,Vz VA b]) follows Tryz.func32 E.jz Vu λK hK=>?_;dsimp only[L.jz,lkF,lkG];have hlen:=hsm.len;have w0:=Owns.start (h:=h) (View.le_refl (vw h));refine aa λz hz=>?_;simp;refine w0.vD (α:=ak) rfl hv λBf h1 W1 hW1 w1 atF hle1=>?_;subst hz;refine aa λz hz=>?_;obtain⟨uF,huF,rF⟩:=atF.ldN rfl (N:=2) rfl;have sl:=hl.mono hW1;simp[huF _ w1.wle];refine ah V0 (BX w1.wle sl rF hsm (ht.mono hle1) (λ_ _ _=>hM) (λhr=>HF (jH hr) hsm (oL rF))) ?_;rintro _ h2 ⟨hle2,rfl⟩;have w2:=w1.ext hle2;have lW2:W1.le (grow W1 h1 h2):=bC w1.wle;generalize grow W1 h1 h2=W2 at *;have l02:=Vx hW1 lW2;have huF:=λK hK=>huF K (Vx lW2 hK);have rF:=rF.mono lW2;have sl:=sl.mono lW2;have atF:=atF.mono lW2;clear lW2 w1 w0 hW1 hle1 hle2;obtain⟨-,vb,cb,sb⟩:=fh atF;have sbn : ∀{K:View},Un.ev K .len vb=VC (Vz VA f.blocks.length):=sb.len;simp;subst hz;refine aa λz hz=>?_;have cb2:=ae w2.wle cb;by_cases cn:(eW l f).1≠0\/b<0\/(f.blocks.length:Int)<=b
 ·have e:xj f l b=[]:=by unfold xj;rw[if_pos cn]
  rw[e]at hK;refine kz V7 ?_ ?_
  ·by_cases c1:(eW l f).1=0
   ·by_cases c2:b<0
    ·simp[cb2,sbn,c1,c2]
    have c3:(f.blocks.length:Int)<=b:=by
     rcases cn with c | c | c
     ·exact absurd c1 c
     ·exact absurd c c2
     exact c
    simp[cb2,sbn,c1,c2,c3]
   simp[cb2,sbn,c1]
  simp;intro h6 hsw;exact⟨_,rfl,hK _ _ ⟨hsw.ext (Vx l02 w2.wle),aL⟩⟩
 have ce:(eW l f).1=0:=Classical.byContradiction λc=>cn (.inl c);have b0:0<=b:=by omega
 obtain⟨bn,rfl⟩:=S0 b0;have hb:bn<f.blocks.length:=by omega
 have e:xj f l bn=ja f l bn (eO f bn l).length:=by unfold xj;rw[if_neg cn];rfl
 rw[e]at hK;obtain⟨tb0,hrt,-⟩:=zR ce;have hok:Okf f:=⟨jH hrt,hsm,oL rF⟩;have hcl : ∀t∈l,0<=t.cost/\t.cost<=1000:=λt ht=>Ai tb0 ht;have hpat : ∀t∈l,I64 t.pat:=λt ht=>AY tb0 ht;have hil:=(hsm.blk bn hb).ins;have nb:¬((f.blocks.length:Int)<=bn):=by omega
 have nb2:¬((bn:Int)<0):=by omega
 refine kq V7 ?_ ?_
 ·simp[cb2,sbn,ce,nb,nb2]
 subst hz;refine aa λz hz=>?_;simp[huF _ w2.wle];refine ah V0 (rJ w2 rF sl hok hM hb hpat hcl) ?_;rintro _ h22 ⟨C,rm,rc,rb,B22,W22,rfl,hsol,lW22,cw22⟩;refine cW (α:=Raw) (d:=⟨ptz C⟩) (X:=B22) (z:=VF VD) V0 rfl V0 (iT.2 ⟨rfl,rfl⟩) V8 V8 λh23 hle23 _ at23=>?_;have at23:=(at23 (grow B22 h22 h23) cw22.z.up (cg (RX _))).raw;have cw23:=cw22.ext hle23;have lW23:=Vx lW22 (cw22.z.upW (h':=h23));generalize h22.size=Bq at at23 ⊢;generalize grow B22 h22 h23=B23 at *;generalize grow W22 h22 h23=W23 at *;clear cw22 hsol lW22 hle23 w2 cb2;subst hz;refine aa λz hz=>?_;have w3:=cw23.z.own;have atF3:=atF.mono lW23;have cb3:=ae w3.wle (ae lW23 cb);have qb:=(((sb.mono lW23).mono w3.wle)).idxn (k:=.i64) (N:=6) rfl (i:=(bn:Int)) V4 V4;obtain⟨vin,cin,sin⟩:=((((sb.mono lW23).mono w3.wle).at hb).part BlkD.jm).list;have n6:Rep.n BlkD=6:=rfl;simp[n6]at qb cin;rw[<-az hb]at sin;have sn : ∀{K:View},Un.ev K .len vin=VC (Vz VA (nth f.blocks bn).ins.length):=sin.len;have ew:IntKind.i64.wrap (((nth f.blocks bn).ins.length:Int)+1)=(((nth f.blocks bn).ins.length+1:Nat):Int):=by rw[bj V4 V4];omega
 obtain⟨n,hn⟩ : ∃n,n=(nth f.blocks bn).ins.length+1:=⟨_,rfl⟩;rw[<-hn]at ew;simp[cb3,qb,cin,sn,ew];refine oZ (α:=Int) (k:=.i64) (W:=W23) (n:=n) (d:=0) El.aZ V5 V5 ⟨rfl,by decide,by decide⟩ V4 V4 λov h24 o24 _ hle24 hob=>?_;have w4:=w3.add (k:=(0,1)) rfl o24 hle24 (λb hb=>by rw[hob]at hb;simp at hb;omega);have hov:=(w4.cells (k:=(0,1)) Own.an).2;refine w4.qz (k:=(0,0)) (α:=Raw) (d:=⟨ov⟩) (n:=1) (Own.aB V5) (iT.2 ⟨rfl,hov⟩) rfl (z:=VE VD 0 0) V0 rfl V0 V6 V8 V8 λh25 hle25 w5=>?_;generalize h24.size=Bo at w5 ⊢;have w5:Owns W23 h25 (tlO Bo ov (sO n 0)):=w5.sub λk i hk=>by
  unfold tlO at hk;by_cases c0:k=(0,0)
  ·subst c0;exact hk
  by_cases c1:k=(0,1)
  ·subst c1;exact hk
  rw[if_neg c0,if_neg c1]at hk;cases hk
 have lt25 : ∀{r:Nat} {g:Value->Option Value},MV (.int .i64) W23 r g->dh (.int .i64) h25 r g:=λm=>m.is w5.wle;clear w4 w3 o24 hob qb cin sn cb3;subst hz;refine aa λz hz=>?_;have co : ∀{hx:Heap} {Wx:View} {L:List Int},Owns Wx hx (tlO Bo ov L)->aq (vw hx) ⟨Bo,0,VD⟩=VC ov:=λw=>(w.at (k:=(0,0)) (B:=Bo) (d:=(⟨ov⟩:Raw)) rfl).raw;have rn : ∀{hx:Heap} {Wx:View} {L:List Int},Owns Wx hx (tlO Bo ov L)->SlRd (vw hx) ov L:=λw=>w.now (k:=(0,1)) rfl;have lo : ∀{K:View},Un.ev K .len ov=VC (Vz VA n):=fun{K}=>by have:=(rn w5).len (K:=K);rw[Au (Tv _)]at this;exact this
 simp[co w5,lo];refine aF [3,10,11,50,51] (fun(_:Unit) k=>[ptz Bf,ptz Bq,ptz Bo,Vz VA n,Vz VA k])
  (λ_ k hx=>Owns W23 hx (tlO Bo ov (sO n k))/\h23.size<=hx.size) n ()
  V0 V4 (by simp[aY,af,ag]) ⟨w5,St (bL hle24) (bL hle25)⟩ (λ_ _=>rfl) (λv i h1 hk m=>by simp) ?_ ?_
 ·rintro _ k h26 hk ⟨w6,hs6⟩ K2 hK2;have hk:k<n:=hk;have q:=(rn w6).idx1 (k:=.i64) (i:=(k:Int)) rfl V4 (by rw[Au V4];omega);simp at q;refine dc ?_;refine aa λy hy=>?_;simp;subst hy;simp[co w6,q];refine w6.bJ (k:=(0,1)) (α:=Int) (l:=sO n k) (i:=k) (d:=-1) rfl V0 (by simp[Rep.n]) V5 (by rw[Au V4];omega) (bu.2 ⟨rfl,by decide,by decide⟩) λh27 w7 hs7=>?_;rw[HL,KT hk]at w7;exact hK2 () _ _ (by simp[af,ag]) (by simp[aY,af,ag]) ⟨w7,by omega⟩
 rintro _ h26 ⟨w6,hs6⟩;have cw26:Cw B23 W23 h26 (tlO Bo ov (sO n n)) C rm rc rb f bn l (mkU f bn) (cU f bn l) [rb,rc,rm]:=⟨⟨w6,cw23.z.le,cw23.z.no,λr hr=>S2 (cw23.z.lt r hr) hs6⟩,cw23.ch,cw23.mm,cw23.mc,cw23.mb,cw23.ne,cw23.cin,cw23.bin⟩;have hfl:sO n n=ja f l bn 0:=by unfold sO ja;rw[<-hn];simp
 rw[hfl]at cw26;simp;subst hz;refine aa λz hz=>?_;refine aa λx hx=>?_;simp[ae cw26.z.wle at23];refine ah V0 (DR cw26 (λp t=>rO) hpat) ?_;rintro _ h27 ⟨p1,p2,B27,W27,rfl,lB27,lW27,cw27,hit⟩;have ch:=cw27.ch.mono cw27.z.le;have c10:=ae (Vx lB27 cw27.z.le) at23;have mb:=cw27.mb;have own27:=cw27.z.own;subst hx;refine dc ?_;refine uJ (enc:=natV) (all:=eO f bn l) (gf:=99) (caps:=[ptz p1,ptz p2]) W27 W27
  (λe k X hx=>e=VD/\∃Y o',Held h27.size X Y hx o'/\(W27.le Y/\o'=tlO Bo ov (ja f l bn k)))
  rfl V0 hit (λ_=>rfl) Vw (λe k=>⟨λ⟨_,q⟩=>Held.yD.le q,λ⟨a,q⟩ h1 h2 h3 h4=>⟨a,Held.yD.move q h1 h2 h3 h4⟩⟩) ⟨rfl,W27,_,Held.start own27,View.le_refl _,rfl⟩
  (λx h1=>by simp[natV,dC];rfl) ?_ ?_ ?_
 ·rintro k i X h28 hag hk ⟨_,Y,o',w,lY,rfl⟩ K3 hK3 _;obtain⟨hi,-⟩:=EF hk;have hst:ja f l bn (k+1)=wV f bn l (ja f l bn k) i:=uj hk;have hle:=Ew (f:=f) (l:=l) (b:=bn) (k:=k);have lYh:=Vx lY w.own.wle;refine dc ?_;refine aa λx hx=>?_;simp[ae lYh c10,ae lYh ch.x6];refine eo (f:=mapI (cU f bn l).best) (z:=Vz VA 0) (k:=T.int) (e:=T.int) (d:=.int .i64) (r:=rb) (u:=Vz VA i) V0 V0 V0 rfl rfl cM ((mb.mono lY).is w.own.wle) ?_;cases hbi:(cU f bn l).best i with
  | none=>
   have er:ja f l bn (k+1)=ja f l bn k:=by rw[hst];unfold wV;rw[hbi]
   simp[hbi];subst hx;simp;exact hK3 _ _ ⟨rfl,Y,_,w,lY,by rw[er]⟩
  | some t=>
   have er:ja f l bn (k+1)=(ja f l bn k).set i t:=by rw[hst];unfold wV;rw[hbi]
   obtain⟨t0,t1⟩:=rO hbi;have bl:=sl.bound;have q:=(rn w.own).idx1 (k:=.i64) (i:=(i:Int)) rfl V4 (by rw[hle];omega);simp at q;simp[hbi];subst hx;simp[co w.own,q];refine w.bJ (k:=(0,1)) (α:=Int) (l:=ja f l bn k) (i:=i) (d:=t) rfl V0 (by simp[Rep.n]) V5 (by rw[hle];omega) (bu.2 ⟨rfl,by omega,by omega⟩) λh29 w29=>?_;rw[HL]at w29;exact hK3 _ _ ⟨rfl,Y,_,w29,lY,by rw[er]⟩
 ·rintro X h28 hag ⟨_,Y,o',w,lY,rfl⟩;simp;subst hz;have sR:=dw.1 (dw.2 (rn w.own)).cf;simp[co w.own];intro h6 hsw;exact⟨_,rfl,hK _ _ ⟨hsw.ext (Vx l02 (Vx lW23 (Vx lW27 (Vx lY w.own.wle)))),sR.mono hsw.cf⟩⟩
 rintro e k X h28 hag ⟨hne,_⟩;cases hne
def ex8F:ak:=⟨1,[⟨[],[⟨1,1,0,[],⟨5⟩⟩,⟨2,2,0,[0,1],⟨0⟩⟩],⟨4,[2],[],⟨0⟩⟩⟩]⟩
theorem Pv{h:Heap}{W:View}(hW:W.le (vw h)):ay VI 31 #[] h (λu h'=>(vw h).le (vw h')/\Rd (grow W h h') u ex8F):=by refine ao (args:=[]) follows Tryz.func31 E.mH Vu λK hK=>?_;dsimp only[L.mH,lkF,lkG];have c0:=Cx.start hW;refine aa λz hz=>?_;simp;refine c0.cV (k:=(0,0)) (n:=1) (z:=.agg #[Vz VA 0,VE VD 0 0]) rfl V0 rfl V6 Vs λR h1 hle1 c1=>?_;subst hz;refine aa λz hz=>?_;simp;refine aA (t:=T.fj) (z:=zz5) (places:=zpa) (vs:=[(0,Vz VA 1),(1,Vz VA 1),(4,Vz VB 5)]) (cs:=#[Vz VA 1,Vz VA 1,Vz VA 0,VE VD 0 0,Vz VB 5]) V0 V0 V5 V0 ?_;refine c1.nf (α:=Int) (vs:=[Vz VA 0,Vz VA 1]) (ds:=[0,1]) El.aZ V0 ⟨bu.2 ⟨rfl,by decide⟩,bu.2 ⟨rfl,by decide⟩,trivial⟩ rfl V6 V6 λu2 h2 W2 hW2 c2 s2 hle2=>?_;obtain⟨b2,n2,k2,rfl⟩:=SlRd.ex s2;refine aA (t:=T.fj) (z:=.agg #[Vz VA 0,Vz VA 0,Vz VA 0,VE VD 0 0,Vz VB 0]) (places:=zpa) (vs:=[(0,Vz VA 2),(1,Vz VA 2),(3,(.slice b2 n2 k2))]) (cs:=#[Vz VA 2,Vz VA 2,Vz VA 0,(.slice b2 n2 k2),Vz VB 0]) V0 V0 V5 (by simp[Instr.fill,Value.cells]) ?_;refine c2.nf (α:=InsD) (vs:=[.agg #[Vz VA 1,Vz VA 1,Vz VA 0,VE VD 0 0,Vz VB 5],.agg #[Vz VA 2,Vz VA 2,Vz VA 0,(.slice b2 n2 k2),Vz VB 0]]) (ds:=[⟨1,1,0,[],⟨5⟩⟩,⟨2,2,0,[0,1],⟨0⟩⟩]) El.qe V5 ⟨GM ⟨V6,V6⟩ ⟨V6,V6⟩ ⟨V6,V6⟩ aL V6,GM ⟨V6,V6⟩ ⟨V6,V6⟩ ⟨V6,V6⟩ s2 V6,trivial⟩ rfl V6 V6 λu3 h3 W3 hW3 c3 s3 hle3=>?_;obtain⟨b3,n3,k3,rfl⟩:=SlRd.ex s3;refine c3.nf (α:=Int) (vs:=[Vz VA 2]) (ds:=[2]) El.aZ V0 ⟨bu.2 ⟨rfl,by decide⟩,trivial⟩ rfl V6 V6 λu4 h4 W4 hW4 c4 s4 hle4=>?_;obtain⟨b4,n4,k4,rfl⟩:=SlRd.ex s4;refine aA (t:=T.jR) (z:=.agg #[Vz VA 0,VE VD 0 0,VE VD 0 0,Vz VB 0]) (places:=zpe) (vs:=[(0,Vz VA 4),(1,(.slice b4 n4 k4))]) (cs:=#[Vz VA 4,(.slice b4 n4 k4),VE VD 0 0,Vz VB 0]) V0 V0 V5 (by simp[Instr.fill,Value.cells]) ?_;refine aA (t:=T.fi) (z:=.agg #[VE VD 0 0,VE VD 0 0,Vz VA 0,VE VD 0 0,VE VD 0 0,Vz VB 0]) (places:=[(0,1),(1,1),(2,4)]) (vs:=[(1,(.slice b3 n3 k3)),(2,.agg #[Vz VA 4,(.slice b4 n4 k4),VE VD 0 0,Vz VB 0])]) (cs:=#[VE VD 0 0,(.slice b3 n3 k3),Vz VA 4,(.slice b4 n4 k4),VE VD 0 0,Vz VB 0]) V0 V0 V5 (by simp[Instr.fill,Value.cells]) ?_;refine c4.nf (α:=BlkD) (vs:=[.agg #[VE VD 0 0,(.slice b3 n3 k3),Vz VA 4,(.slice b4 n4 k4),VE VD 0 0,Vz VB 0]]) (ds:=ex8F.blocks) El.oQ V5 ⟨NI aL (s3.mono hW4) s4 aL ⟨V6,V6⟩ V6,trivial⟩ rfl V6 V6 λu5 h5 W5 hW5 c5 s5 hle5=>?_;obtain⟨b5,n5,k5,rfl⟩:=SlRd.ex s5;refine aA (t:=T.gB) (z:=.agg #[Vz VA 0,VE VD 0 0]) (places:=zpd) (vs:=[(0,Vz VA 1),(1,(.slice b5 n5 k5))]) (cs:=#[Vz VA 1,(.slice b5 n5 k5)]) V0 V0 V5 (by simp[Instr.fill,Value.cells]) ?_;refine c5.bJ (α:=ak) (k:=(0,0)) (n:=1) V7 (Ex (p:=1) ⟨V6,V6⟩ s5) rfl rfl V0 V5 V5 λh6 l6 hl6 c6=>?_;subst hz;have hall:=c6.all (k:=(0,0)) (n:=1) (l:=l6) (B:=R) (e:=T.gB) V7;simp at hall;simp[hall];refine hK _ _ ⟨c6.le0,?_⟩;rw[<-hl6];exact(Ex (p:=1) ⟨V6,V6⟩ s5).mono c6.fin
theorem Kv:SmF ex8F:=by
 refine⟨by decide,λi hi=>?_⟩;have hi:i<1:=hi;obtain rfl:i=0:=by omega
 refine⟨by decide,by decide,by decide,by decide,λj hj=>absurd hj (Tx _),λj hj=>?_⟩;have hj:j<2:=hj;rcases j with _ | _ | j
 ·decide
 ·decide
 omega
def Jr:MFnD:=⟨1,[⟨[],[⟨18,2,0,0,0,0,⟨5⟩,[]⟩],⟨7,2,0,[],⟨0⟩⟩⟩]⟩
theorem FF:dD ex8F allT=⟨Jr,1,0⟩:=by kernel_rfl
theorem IQ:xj ex8F allT 0=[-1,15,-1]:=by kernel_rfl
theorem eK.jm:Part eK (List aU) 1 eK.ins (λd x=>{ d with ins:=x }):=(Part.snd (Part.fst Part.all)).via (λ_=>rfl) λ_ _=>rfl
theorem eK.HA:Part eK EndD 2 eK.fin (λd x=>{ d with fin:=x }):=(Part.snd (Part.snd Part.all)).via (λ_=>rfl) λ_ _=>rfl
theorem MFnD.qg:Part MFnD (List eK) 1 MFnD.blocks (λd x=>{ d with blocks:=x }):=(Part.snd Part.all).via (λ_=>rfl) λ_ _=>rfl
theorem zC{s:List Int}{v:Value}{h:Heap}(hs:SlRd (vw h) v s):ay VI 12 #[v] h (λu h'=>h'=h/\SlRd (vw h) u (s.take 300)):=by
 refine ao (args:=[v]) follows Tryz.func12 E.qV Vu λKc hK=>?_;dsimp only[L.qV,lkF,lkG];have hb:=hs.bound;simp[hs.len];refine⟨λh1=>?_,λh1=>?_⟩
 ·obtain⟨u,h2,h3⟩:=hs.take (n:=300) V4 (kd:=.i64);have h2:Bn.ev .hi v (Vz VA 300)=VC u:=h2;simp[h2];exact hK _ _ ⟨rfl,h3⟩
 refine hK _ _ ⟨rfl,?_⟩;rw[Sr V4];exact hs
theorem ex8'{h:Heap}:ay VI 31 #[] h (λu h'=>(vw h).le (vw h')/\Rd (vw h') u ex8F):=
 (Pv Vw).mono λu h' ⟨h1,h2⟩=>⟨h1,h2.mono (km h1)⟩
theorem Ga{v:Value}{h:Heap}(hv:Rd (vw h) v ex8F)(hl:SlRd (vw h) vl allT)(ht:Tab h)(hM:iu):
  ay VI 14 #[v,vl] h (λu h'=>(vw h).le (vw h')/\∃vm,u = .tuple #[vm,Vz VA 1,Vz VA 0]/\Rd (vw h') vm Jr):=by have:=tS hv hl Kv ht hM;rw[FF]at this;exact this
theorem HU{v:Value}{h:Heap}(hv:Rd (vw h) v ex8F)(hl:SlRd (vw h) vl allT)(ht:Tab h)(hM:iu):
  ay VI 32 #[v,vl,Vz VA 0] h (λu h'=>(vw h).le (vw h')/\SlRd (vw h') u [-1,15,-1]):=by have:=Kl (b:=0) hv hl Kv ht hM;rw[IQ]at this;exact this
set_option maxHeartbeats 1000000 in
theorem I3{h:Heap}(ht:Tab h)(hM:iu):ay VI 10 #[] h (λu h'=>(vw h).le (vw h')/\u = .bool VG):=by
 refine ao (args:=[]) follows Tryz.func10 E.oK Vu λK hK=>?_;dsimp only[L.oK,lkF,lkG];refine aa λz hz=>?_;simp;subst hz;refine aa λz hz=>?_;simp;refine ah V0 ex8' ?_;rintro u1 h1 ⟨le1,r1⟩;refine ah V0 JJ ?_;rintro u2 h2 ⟨le2,s2⟩;refine ah V0 (Ga (r1.mono le2) s2 (ht.mono (Vx le1 le2)) hM) ?_;rintro _ h3 ⟨le3,vm,rfl,rm⟩;simp;refine cW (X:=vw h3) (z:=zz4) V0 rfl V0 rm V8 V8 λh4 le4 _ at4=>?_;have at4:=at4 (vw h4) le4 rfl;generalize h3.size=B at at4 ⊢;have l04:=Vx le1 (Vx le2 (Vx le3 le4));subst hz;refine aa λz hz=>?_;simp;refine ah V0 ex8' ?_;rintro u5 h5 ⟨le5,r5⟩;refine ah V0 JJ ?_;rintro u6 h6 ⟨le6,s6⟩;have l46:=Vx le5 le6;refine ah V0 (HU (r5.mono le6) s6 (ht.mono (Vx l04 l46)) hM) ?_;rintro vt h7 ⟨le7,st⟩;subst hz;refine aa λz hz=>?_;simp;refine qM (α:=Int) (ds:=[-1,15,-1]) (vs:=[Vz VA (-1),Vz VA 15,Vz VA (-1)]) (X:=nothing) El.aZ V0 ⟨bu.2 ⟨rfl,by decide,by decide⟩,bu.2 ⟨rfl,by decide,by decide⟩,bu.2 ⟨rfl,by decide,by decide⟩,trivial⟩ rfl V6 V6 λu8 h8 le8 _ s8 _=>?_;have s8:=s8 (vw h8) cB rfl;refine ah V0 (PV (st.mono le8) s8) ?_;rintro _ h8 ⟨rfl,rfl⟩;have l48:=Vx l46 (Vx le7 le8);have at8:=at4.mono l48;obtain⟨vb,kb,sb⟩:=(at8.part MFnD.qg).sl;have sb:SlRd (vw h8) vb ([⟨[],[⟨18,2,0,0,0,0,⟨5⟩,[]⟩],⟨7,2,0,[],⟨0⟩⟩⟩]:List eK):=sb;have kb:aq (vw h8) ⟨B,1,VD⟩=VC vb:=by simpa using kb
 have q:=sb.idxn (k:=.i64) (N:=7) rfl (i:=0) V4 V5;obtain⟨vi,ki,si⟩:=((sb.at (i:=0) V5).part eK.jm).sl;have e0:=(((sb.at (i:=0) V5).part eK.HA).part EndD.xG).int;have e1:=(((sb.at (i:=0) V5).part eK.HA).part EndD.Q5).int;have lb : ∀{K:View},Un.ev K .len vb=VC (Vz VA 1):=sb.len;have li : ∀{K:View},Un.ev K .len vi=VC (Vz VA 1):=si.len;have qi:=si.idxn (k:=.i64) (N:=8) rfl (i:=0) V4 V5;obtain⟨um,hum,rum⟩:=(si.at (i:=0) V5).ldN rfl (N:=8) rfl;have hum:=hum _ Vw;simp at q ki e0 e1 qi hum;subst hz;refine aa λz hz=>?_;simp[kb,lb,q,ki,li];subst hz;refine aa λz hz=>?_;simp[kb,q,ki,qi,hum];refine cW (α:=aU) (X:=vw h8) (z:=zz8) V0 rfl V0 rum V8 V8 λh9 le9 _ at9=>?_;have at9:=at9 (vw h9) le9 rfl;generalize h8.size=C at at9 ⊢;have a0:=(at9.part aU.xG).int;have a1:=(at9.part aU.Qf).int;have a6:=(at9.part aU.lL).i32;simp at a0 a1 a6;subst hz;simp[a0,a1,a6,ae le9 kb,q,ae le9 e0,ae le9 e1];exact hK _ _ ⟨Vx l04 (Vx l48 le9),rfl⟩
theorem Nl{f:ak}{b p pat t:Int}{x:FitD}(h:dV f b p pat t=VC x):jV f:=by
 unfold dV at h;split at h
 ·rename_i c;simp only[Se]at c;exact jH c.2
 cases h
def fO(x:aU):List Int:=
 if x.op=2 then[x.a,x.b] else if x.op=26\/x.op=27\/x.op=31 then[] else if x.op=29 then[x.d,x.e]
 else if x.op=1\/x.op=3\/x.op=4\/x.op=23\/x.op=24\/x.op=25\/x.op=28\/x.op=30\/5<=x.op/\x.op<=22 then[x.d] else[]
def lP(x:aU):List Int->Int->Option Int
 | [],n=>VC n
 | r::l,n=>if n<r\/r=n/\x.op≠4 then VD else lP x l (if r=n then n+1 else n)
def fN:List aU->Int->Option Int
 | [],n=>VC n
 | x::l,n=>(lP x (fO x) n).bind (fN l)
def nW:List eK->Int->Option Int
 | [],n=>VC n
 | y::l,n=>(fN y.ins n).bind (nW l)
section
variable{f:ak}{b:Nat}{l:List aS}
theorem A9 : ∀{r s:List aU} {n:Int},fN (r++s) n=(fN r n).bind (fN s)
 | [],s,n=>rfl
 | x::r,s,n=>by
  show(lP x (fO x) n).bind (fN (r++s))=((lP x (fO x) n).bind (fN r)).bind (fN s);cases lP x (fO x) n with
  | none=>rfl
  | some m=>exact A9
theorem Bj : ∀{r s:List eK} {n:Int},nW (r++s) n=(nW r n).bind (nW s)
 | [],s,n=>rfl
 | x::r,s,n=>by
  show(fN x.ins n).bind (nW (r++s))=((fN x.ins n).bind (nW r)).bind (nW s);cases fN x.ins n with
  | none=>rfl
  | some m=>exact Bj
theorem Al{x:aU} : ∀{r:List Int} {n:Int},(∀v∈r,v<n)->lP x r n=VC n
 | [],n,_=>rfl
 | v::r,n,h=>by have:=h v V5;unfold lP;rw[if_neg V4,if_neg V4];exact Al λw hw=>h w (Sa _ hw)
theorem jj{x:aU}(h : ∀v∈fO x,v<n):fN [x] n=VC n:=by show(lP x (fO x) n).bind (fN [])=VC n;rw[Al h];rfl
def Low(i:InsD)(n:Int):Prop:=(i.op≠16->i.dst<n)/\(i.op=18->i.two<n)
theorem y3{x:aU}(h29:x.op≠29)(h2:x.op≠2)(h:x.d<n): ∀v∈fO x,v<n:=by
 intro v hv;unfold fO at hv;rw[if_neg h2]at hv;by_cases c:x.op=26\/x.op=27\/x.op=31
 ·rw[if_pos c]at hv;cases hv
 rw[if_neg c,if_neg h29]at hv;split at hv
 ·rw[RY.1 hv];exact h
 cases hv
variable{op:Int}
theorem wK{i:InsD}{pl su:Int}{m:aU}(hi:Low i n)(ho:i.op=op)(hm:m.op=pl\/m.op=su)(h:op=15/\pl=24/\su=25\/op=16/\pl=26/\su=27): ∀v∈fO (gM i op pl m),v<n:=by
 rcases h with⟨rfl,rfl,rfl⟩ | ⟨rfl,rfl,rfl⟩
 ·unfold gM;rw[if_pos rfl];exact y3 (by dsimp only;omega) (by dsimp only;omega) (hi.1 V4)
 intro v hv;have e:(gM i 16 26 m).op=m.op:=by unfold gM;rw[if_neg V4];split<;>rfl
 unfold fO at hv;rw[e,if_neg V4,if_pos V4]at hv;cases hv
set_option maxHeartbeats 1000000 in
theorem Kd{i:InsD}{pat:Int}{x:FitD}(hi:Low i n)(h:patS f i n pat=VC x):fN x.code n=VC (if pat=26\/pat=30 then n+1 else n):=by
  unfold patS at h
  split at h
  · rename_i c
    obtain⟨c1,c2,c3⟩:=c
    obtain⟨p,rfl⟩:=S0 (show 0<=pat by omega)
    rw[Sn]at h c3
    have cp:(((p:Int)=26\/(p:Int)=30)↔(p=26\/p=30)):=by omega
    have hd:(p<27\/30<p)->i.op≠16:=λq=>by
      rw[c3];unfold opOf
      repeat' split
      all_goals omega
    have im : ∀{mo lo hi' sg:Int},(mo≠29/\mo≠2)->i.op≠16->immS f i mo lo hi' sg=VC x->fN x.code n=VC n:=λhm h16 h=>by
      unfold immS at h;split at h
      · cases h;exact jj (y3 hm.1 hm.2 (hi.1 h16))
      · cases h
    have me : ∀{op pl su:Int} {k:Nat},i.op=op->(op=15/\pl=24/\su=25\/op=16/\pl=26/\su=27)->memS f i n op pl su k=VC x->fN x.code n=VC (if k=3 then n+1 else if 3<k then n+1 else n):=fun{op pl su k} ho hq h=>by
      match k with
      | 0=>
        simp only[memS]at h;split at h
        · cases h;exact jj (wK hi ho (.inl rfl) hq)
        · cases h
      | 1=>
        simp only[memS]at h;split at h
        · split at h
          · cases h;exact jj (wK hi ho (.inl rfl) hq)
          · cases h
        · cases h
      | 2=>
        simp only[memS]at h;split at h
        · cases h;exact jj (wK hi ho (.inr rfl) hq)
        · cases h
      | k+3=>
        simp only[memS]at h;cases h
        have hn : ∀v∈fO (gM i op pl ⟨su,0,0,nth i.args 0,n,0,⟨0⟩,[]⟩),v<n+1:=λv hv=>by
          have:=wK hi ho (.inr rfl) hq v hv;omega
        show(lP (⟨4,n,0,0,0,0,i.imm,[]⟩:aU) [n] n).bind (fN [_])=_
        have e:lP (⟨4,n,0,0,0,0,i.imm,[]⟩:aU) [n] n=VC (n+1):=by
          unfold lP
          rw[if_neg V5,if_pos rfl];rfl
        rw[e]
        show fN [_] (n+1)=_
        rw[jj hn]
        by_cases q:k=0
        · subst q;rfl
        · rw[if_neg V4,if_pos V4]
    unfold doS at h
    by_cases q1:p=1
    · rw[if_pos q1]at h;rw[if_neg V4];split at h
      · cases h;exact jj (y3 (by dsimp only;omega) (by dsimp only;omega) (hi.1 (hd V4)))
      · cases h
    rw[if_neg q1]at h
    by_cases q2:p=2
    · rw[if_pos q2]at h;rw[if_neg V4];cases h;exact jj (y3 (by dsimp only;omega) (by dsimp only;omega) (hi.1 (hd V4)))
    rw[if_neg q2]at h
    by_cases q3:p<=15
    · rw[if_pos q3]at h;rw[if_neg V4];cases h;exact jj (y3 (by dsimp only;omega) (by dsimp only;omega) (hi.1 (hd V4)))
    rw[if_neg q3]at h
    by_cases q4:p=16
    · rw[if_pos q4]at h;rw[if_neg V4];exact im V4 (hd V4) h
    rw[if_neg q4]at h
    by_cases q5:p=17
    · rw[if_pos q5]at h;rw[if_neg V4];exact im V4 (hd V4) h
    rw[if_neg q5]at h
    by_cases q6:p=18
    · rw[if_pos q6]at h;rw[if_neg V4];exact im V4 (hd V4) h
    rw[if_neg q6]at h
    by_cases q7:p<=21
    · rw[if_pos q7]at h;rw[if_neg V4];exact im V4 (hd V4) h
    rw[if_neg q7]at h
    by_cases q8:p=22
    · rw[if_pos q8]at h;rw[if_neg V4];split at h
      · cases h;exact jj (y3 (by dsimp only;omega) (by dsimp only;omega) (hi.1 (hd V4)))
      · cases h
    rw[if_neg q8]at h
    by_cases q9:p<=26
    · rw[if_pos q9]at h
      have ho:i.op=15:=by
                                rw[c3];unfold opOf;repeat' split
                                all_goals omega
      rw[me ho (.inl ⟨rfl,rfl,rfl⟩) h]
      by_cases e:p=26
      · rw[if_pos V4,if_pos V4]
      · rw[if_neg V4,if_neg V4,if_neg V4]
    rw[if_neg q9]at h
    by_cases q10:p<=30
    · rw[if_pos q10]at h
      have ho:i.op=16:=by
                                rw[c3];unfold opOf;repeat' split
                                all_goals omega
      rw[me ho (.inr ⟨rfl,rfl,rfl⟩) h]
      by_cases e:p=30
      · rw[if_pos V4,if_pos V4]
      · rw[if_neg V4,if_neg V4,if_neg V4]
    rw[if_neg q10]at h
    rw[if_neg V4]
    by_cases q11:p=31
    · rw[if_pos q11]at h;cases h;exact jj (y3 (by dsimp only;omega) (by dsimp only;omega) (hi.1 (hd V4)))
    · rw[if_neg q11]at h;cases h
      have ho:i.op=18:=by
                                rw[c3];unfold opOf;repeat' split
                                all_goals omega
      refine jj λv hv=>?_
      unfold fO at hv
      rw[if_neg (by dsimp only;omega),if_neg (by dsimp only;omega),if_pos rfl]at hv
      have h1:=hi.1 V4
      have h2:=hi.2 ho
      simp at hv
      omega
  · cases h
theorem NK(m:jV f)(hb:b<f.blocks.length){k:Nat}(hk:k<(nth f.blocks b).ins.length)(hn:topS f<=n):Low (nth (nth f.blocks b).ins k) n:=by
 have h:=(Mn m).2.2;have key : ∀v∈bz (nth (nth f.blocks b).ins k),v<n:=λv hv=>by have:=h v (Te.2 ⟨_,dF hb hk,hv⟩);omega
 unfold bz at key;refine⟨λh16=>?_,λh18=>?_⟩
 ·rw[if_neg h16]at key;split at key
  ·exact key _ V5
  exact key _ V5
 rw[if_neg V4,if_pos h18]at key;exact key _ V5
theorem Jv{k:Nat}{pat:Int}{x:FitD}(hb:b<f.blocks.length)(hn:topS f<=n)(h:dV f b k pat n=VC x):fN x.code n=VC (if pat=26\/pat=30 then n+1 else n):=by
 have m:=Nl h;unfold dV at h;split at h
 ·rename_i c;simp only[Se]at c;have hpl:=c.1;simp[de]at hpl;unfold eh at h;rw[show((b:Int)).toNat=b by omega]at h;by_cases e:(k:Int)=(nth f.blocks b).ins.length
  ·rw[if_pos e]at h;have h:gz f (nth f.blocks b).term pat=VC x:=h;have hc:x.code=[]/\¬(pat=26\/pat=30):=by
    unfold gz at h;split at h
    ·cases h;exact⟨rfl,by omega⟩
    split at h
    ·cases h;exact⟨rfl,by omega⟩
    split at h
    ·cases h;exact⟨rfl,by omega⟩
    split at h
    ·cases h;exact⟨rfl,by omega⟩
    split at h
    ·split at h
     ·cases h;exact⟨rfl,by omega⟩
     cases h
    split at h
    ·cases h;exact⟨rfl,by omega⟩
    cases h
   rw[hc.1,if_neg hc.2];rfl
  rw[if_neg e,Sn]at h;exact Kd (NK m hb V4 hn) h
 cases h
theorem I1(o:Okf f)(hb:b<f.blocks.length){i:Nat}(hi:i<=(nth f.blocks b).ins.length){t:Int}(h:(cU f b l).best i=VC t): ∃x,dx f b i (nth l t.toNat).pat=VC x:=by
 have hk:=Dg (l:=l) o hb i hi;unfold qT at hk;split at hk
 ·rw[hk.2]at h;cases h
 rcases hk with⟨-,a2,-⟩ | ⟨n,j,a1,a2,a3,a4,-,-⟩
 ·rw[a2]at h;cases h
 rw[a3]at h;cases h;rw[Sn];unfold wS at a4;cases hx:dx f b i (nth l j).pat with
 | none=>rw[hx]at a4;cases a4
 | some x=>exact⟨x,rfl⟩
theorem AH(o:Okf f)(hb:b<f.blocks.length) : ∀{K:Nat} {s:jn} {n0:Int},K<=(nth f.blocks b).ins.length+1->topS f<=s.temp->fN s.blk.ins n0=VC s.temp->
  topS f<=(Lft.up (mV f b l (cU f b l).best (inn8 f b l)) K s).temp/\fN (Lft.up (mV f b l (cU f b l).best (inn8 f b l)) K s).blk.ins n0=VC (Lft.up (mV f b l (cU f b l).best (inn8 f b l)) K s).temp
 | 0,s,n0,_,h1,h2=>⟨h1,h2⟩
 | K+1,s,n0,hK,h1,h2=>by
  obtain⟨g1,g2⟩:=AH o hb (K:=K) V4 h1 h2;rw[up_add];generalize Lft.up (mV f b l (cU f b l).best (inn8 f b l)) K s=q at *;have key : ∀{p:Int} {r:jn},r.temp=q.temp->r.blk=q.blk->(dV f b K p q.temp=VD->¬(p=26\/p=30))->topS f<=(layS f b K p r).temp/\fN (layS f b K p r).blk.ins n0=VC (layS f b K p r).temp:=by
   intro p r e1 e2 hp;unfold layS;dsimp only;rw[e1,e2];refine⟨by split<;>omega,?_⟩;rw[A9,g2];show fN (pF (dV f b K p q.temp)) q.temp=_;cases hx:dV f b K p q.temp with
   | none=>rw[if_neg (hp hx)];rfl
   | some x=>exact Jv hb g1 hx
  unfold mV;split
  ·exact⟨g1,g2⟩
  cases hbest:(cU f b l).best (K:Int)with
  | none=>exact key rfl rfl λ_=>by omega
  | some t=>
   obtain⟨x,hx⟩:=I1 o hb (show K<=_ by omega) hbest;refine key rfl rfl λhn=>?_;have h1:1<=(nth l t.toNat).pat:=by
    unfold dx at hx;split at hx
    ·assumption
    cases hx
   have h2:=hx;unfold dx at h2;rw[if_pos h1]at h2;intro h26;rcases IS (f:=f) (b:=b) (p:=K) (pat:=(nth l t.toNat).pat) (t:=q.temp) (t':=0) h26 with⟨_,e2⟩ | ⟨_,_,_,_,x',y',c2,c2',e1,_⟩
   ·rw[e2]at h2;cases h2
   rw[e1]at hn;cases hn
theorem GP(o:Okf f) : ∀{n:Nat},n<=f.blocks.length->topS f<=(Lft.up (rZ f l) n ⟨topS f,0,VH,[]⟩).temp/\nW (Lft.up (rZ f l) n ⟨topS f,0,VH,[]⟩).out (topS f)=VC (Lft.up (rZ f l) n ⟨topS f,0,VH,[]⟩).temp
 | 0,_=>⟨Tf _,rfl⟩
 | n+1,h=>by obtain⟨g1,g2⟩:=GP o (n:=n) V4;rw[up_add];generalize Lft.up (rZ f l) n ⟨topS f,0,VH,[]⟩=q at *;obtain⟨k1,k2⟩:=AH (l:=l) o (b:=n) V4 (K:=(nth f.blocks n).ins.length+1) (s:=⟨q.temp,q.cost,q.many,⟨(nth f.blocks n).phis,[],cT⟩⟩) (n0:=q.temp) (RX _) g1 rfl;refine⟨k1,?_⟩;show nW (q.out++[(uI f l n _).blk]) _=VC (uI f l n _).temp;rw[Bj,g2];show(fN (uI f l n _).blk.ins q.temp).bind (nW [])=_;unfold uI;rw[k2];rfl
theorem PT(o:Okf f):((dD f l).err≠0->(dD f l).code.blocks=[])/\((dD f l).err=0->∃n,nW (dD f l).code.blocks (topS f)=VC n):=by
 unfold dD;by_cases c:(eW l f).1≠0
 ·rw[if_pos c];exact⟨λ_=>rfl,λe=>absurd e c⟩
 rw[if_neg c];split
 ·exact⟨λ_=>rfl,λe=>by cases e⟩
 exact⟨λe=>absurd rfl e,λ_=>⟨_,(GP o (RX _)).2⟩⟩
end
def lC(op:Int):Nat:=if op=2 then 107 else if op=26\/op=27\/op=31 then 104 else if op=29 then 110
 else if op=1\/op=3\/op=4\/op=23\/op=24\/op=25\/op=28\/op=30\/5<=op/\op<=22 then 105 else 104
abbrev kv(p:Nat × Nat):Value:=.agg #[.func (.func p.1) #[] #[],.func (.func p.2) #[] #[]]
abbrev KMap:=Int->Option (Nat × Nat)
abbrev kF13:KMap:=[(1,106,105),(2,107,107),(3,104,105),(4,104,105),(23,108,105),(24,106,105),(25,107,105),(26,107,104),
 (27,108,104),(28,109,105),(29,107,110),(30,104,105),(31,106,104)].foldl (λf (p:Int × Nat × Nat)=>putM f p.1 p.2) λ_=>VD
theorem IH{β:Type}{f:Int->Option β}{i q:Int}{v p:β}(h:putM f i v q=VC p):(q=i/\v=p)\/f q=VC p:=by
 unfold putM at h;by_cases c:q=i
 ·rw[if_pos c]at h;cases h;exact .inl ⟨c,rfl⟩
 rw[if_neg c]at h;exact .inr h
theorem M6{β:Type}{f:Int->Option β}{i q:Int}{v:β}(h:putM f i v q=VD):q≠i/\f q=none:=by
 unfold putM at h;by_cases c:q=i
 ·rw[if_pos c]at h;cases h
 rw[if_neg c]at h;exact⟨c,h⟩
variable{op:Int}
theorem KS{p:Nat × Nat}(h:kF13 op=VC p):p.2=lC op:=by
 simp only[kF13,Sx,Vm]at h;iterate 13
  rcases IH h with⟨e,rfl⟩ | h
  ·subst e;rfl
 cases h
theorem GZ(h:kF13 op=VD):op≠2/\¬(op=26\/op=27\/op=31)/\op≠29/\¬(op=1\/op=3\/op=4\/op=23\/op=24\/op=25\/op=28\/op=30):=by
 simp only[kF13,Sx,Vm]at h;iterate 13 obtain⟨_,h⟩:=M6 h
 omega
theorem Er(h:kF13 op=VD)(h1:5<=op)(h2:op<=22):lC op=105:=by obtain⟨a,b,c,d⟩:=GZ h;unfold lC;rw[if_neg a,if_neg b,if_neg c,if_pos V4]
theorem LX(h:kF13 op=VD)(h1:¬(5<=op/\op<=22)):lC op=104:=by obtain⟨a,b,c,d⟩:=GZ h;unfold lC;rw[if_neg a,if_neg b,if_neg c,if_neg V4]
theorem Dr{n:Nat}{H K:View}{u:Value}{d:RawN n}(h:Rd H u d):Rd K u d:=h
section
variable{po po2:OP}{X W:View}{h:Heap}{o:Own}{p q r s rm a b:Nat}{ty ty2:TypeId}
theorem wy{K:Value->Heap->Prop}(hK:K (kv (a,b)) h)(hpq:p≠q:=by decide):@Lft.step po VI (.build T.nQ #[(0,.tmp p),(1,.tmp q)]) ty [(p,.func (.func a) #[] #[]),(q,.func (.func b) #[] #[])] h K:=
 aA (z:=.agg #[.nilFunc,.nilFunc]) (places:=zpd) (vs:=[(0,.func (.func a) #[] #[]),(1,.func (.func b) #[] #[])]) V0 V0 (by simp[asg,hpq]) V0 hK
theorem Gg{f:KMap}{j:Int}{K:Value->Value->Heap->Prop}(w:Owns W h o)(m:MV (.int .i64) W rm (mapE kv f))(l:X.le W)(hn : ∀b∈[rm],X b=VD)(hK : ∀h' W',Owns W' h' o->MV (.int .i64) W' rm (mapE kv (putM f j (a,b)))->X.le W'->K (kv (a,b)) undef h')(hpq:p≠q:=by decide)(hrs:r≠s:=by decide):
  @Lft.step po VI (.build T.nQ #[(0,.tmp p),(1,.tmp q)]) ty [(p,.func (.func a) #[] #[]),(q,.func (.func b) #[] #[])] h λu h2=>@Lft.step po2 VI (.insert T.yz (.tmp r) (.const (Vz VA j)) (.tmp s)) ty2 [(r,.map (VC rm)),(s,u)] h2 λv h3=>K u v h3:=by refine wy ?_ hpq;obtain⟨g1,g2⟩:=gX (enc:=kv) (f:=f) (j:=j) (v:=(a,b));exact w.nN m (.inr rfl) (k:=T.int) (e:=T.nQ) (u:=Vz VA j) (v:=kv (a,b)) V0 V0 (by simp[asg]) rfl (by simp[asg,hrs]) cM g1 g2 λh3 W3 w3 m3 t3 _ _=>hK h3 W3 w3 m3 (t3.le l hn)
end
set_option maxRecDepth 100000 in
set_option maxHeartbeats 4000000 in
theorem HV{h:Heap}:ay VI 64 #[Vz VA op] h (λu h'=>(vw h).le (vw h')/\∃v1,u = .agg #[v1,.func (.func (lC op)) #[] #[]]):=by
 refine ao (args:=[Vz VA op]) follows Tryz.func64 E.pa Vu λK hK=>?_;dsimp only[L.pa,lkF,lkG];have w0:=Owns.start (h:=h) (View.le_refl (vw h));refine aa λz hz=>?_;simp;refine w0.cV (k:=(0,0)) (n:=1) (z:=.agg #[.nilFunc,.nilFunc]) rfl V0 rfl V6 Vs λh1 hle1 w1=>?_;generalize h.size=R at w1 ⊢;iterate 8
  subst hz
  refine aa λz hz=>?_
  simp
 refine w1.lT (d:=.int .i64) λh2 W2 hW2 hle2 w2 hn2 m2=>?_;generalize h1.size=rm at hn2 m2 ⊢;have e0:mapE kv (λ_=>VD)=λ_=>none:=mj;rw[<-e0]at m2;have nrm : ∀b∈[rm],(vw h) b=none:=λb hb=>by rw[RY.1 hb];exact hn2
 iterate 13 refine Gg w2 m2 hW2 nrm λh2 W2 w2 m2 hW2=>?_
 refine eo (f:=mapE kv kF13) (z:=.agg #[.nilFunc,.nilFunc]) (k:=T.int) (e:=T.nQ) (d:=.int .i64) (r:=rm) (u:=Vz VA op) V0 V0 V0 rfl rfl cM (m2.is w2.wle) ?_;have fin_ : ∀(hx:Heap) (Wx:View) (a b:Nat),(vw h).le Wx->Owns Wx hx (λq=>if q=(0,0) then bx T.nQ R (RawN.mk (n:=1) [.func (.func a) #[] #[],.func (.func b) #[] #[]]) else VD)->b=lC op->sat ((Un.ev (vw hx) (.bI 2) (ptz R)).bind λv=>VC [v]) λvs=>K (pack vs) hx:=by intro hx Wx a b hl w hb;subst hb;have hall:=w.zF (k:=(0,0)) (n:=1) (B:=R) (e:=T.nQ) (l:=[.func (.func a) #[] #[],.func (.func (lC op)) #[] #[]]) rfl;simp at hall;rw[hall];simp;exact hK _ _ ⟨Vx hl w.wle,_,rfl⟩
 have own_ : ∀{x y:Option Lft.Item} (q:Key) (i:Lft.Item),(λq=>if q=(0,0) then y else none:Own) q=VC i->(Own.upd (Own.upd (λ_=>VD) (0,0) x) (0,0) y) q=VC i:=fun{x y} q i hq=>by
  unfold Own.upd;by_cases c:q=(0,0)
  ·rw[if_pos c];simpa[c]using hq
  simp[c]at hq
 cases hq:kF13 op with
 | some p=>
  have hp:=KS hq;have e1:(mapE kv kF13 (Vz VA op))=VC (kv p):=by rw[og,hq];rfl
  rw[e1];simp;refine cW (α:=RawN 1) (d:=⟨[.func (.func p.1) #[] #[],.func (.func p.2) #[] #[]]⟩) (X:=vw h2) (z:=.agg #[.nilFunc,.nilFunc]) V0 rfl V0 (j9 (l:=[.func (.func p.1) #[] #[],.func (.func p.2) #[] #[]]) rfl Vr) V8 V8 λh16 hle16 _ at16=>?_;have at16:=at16 (vw h16) hle16 rfl;generalize h2.size=Q at at16 ⊢;obtain⟨uk,huk,ruk⟩:=at16.ldN rfl (N:=2) rfl;have huk:=huk _ Vw;have w16:=w2.ext' hle16;subst hz;refine aa λz hz=>?_;simp;simp[huk];refine w16.cz (k:=(0,0)) (α:=RawN 1) Part.all (d:=⟨[.func (.func p.1) #[] #[],.func (.func p.2) #[] #[]]⟩) Own.an V0 V5 V5 (Dr ruk) λh17 w17 _=>?_;exact fin_ h17 _ p.1 p.2 hW2 (w17.sub own_) hp
 | none=>
  have e1:(mapE kv kF13 (Vz VA op))=none:=by rw[og,hq];rfl
  rw[e1];simp;refine cW (α:=RawN 1) (d:=⟨[.nilFunc,.nilFunc]⟩) (X:=vw h2) (z:=.agg #[.nilFunc,.nilFunc]) V0 rfl V0 (j9 (l:=[.nilFunc,.nilFunc]) rfl Vr) V8 V8 λh16 hle16 _ at16=>?_;generalize h2.size=Q;have w16:=w2.ext' hle16;subst hz;refine aa λz hz=>?_;by_cases c1:5<=op/\op<=17
  ·simp[c1.1,c1.2];refine wy ?_;refine w16.cz (k:=(0,0)) (α:=RawN 1) Part.all (d:=⟨[(.func (.func 107) #[] #[]),(.func (.func 105) #[] #[])]⟩) Own.an V0 V5 V5 (j9 (l:=[(.func (.func 107) #[] #[]),(.func (.func 105) #[] #[])]) rfl Vr) λh17 w17 _=>?_;exact fin_ h17 _ 107 105 hW2 (w17.sub own_) (Er hq c1.1 V4).symm
  have c1':(if 5<=op then Value.bool (decide (op<=17)) else Value.bool VH) = .bool false:=by
   by_cases d:5<=op
   ·have:¬op<=17:=λe=>c1 ⟨d,e⟩;simp[d,this]
   simp[d]
  by_cases c2:18<=op/\op<=22
  ·have d1:5<=op:=by omega
   have d2:¬op<=17:=by omega
   simp[d1,d2,c2.1,c2.2];refine wy ?_;refine w16.cz (k:=(0,0)) (α:=RawN 1) Part.all (d:=⟨[(.func (.func 106) #[] #[]),(.func (.func 105) #[] #[])]⟩) Own.an V0 V5 V5 (j9 (l:=[(.func (.func 106) #[] #[]),(.func (.func 105) #[] #[])]) rfl Vr) λh17 w17 _=>?_;exact fin_ h17 _ 106 105 hW2 (w17.sub own_) (Er hq V4 c2.2).symm
  have c3:¬(5<=op/\op<=22):=by omega
  have hb:=(LX hq c3).symm;rcases Int.lt_or_le op 5 with d | d
  ·have d1:¬5<=op:=by omega
   have d2:¬18<=op:=by omega
   simp[d1,d2];subst hz;simp;refine wy ?_;refine w16.cz (k:=(0,0)) (α:=RawN 1) Part.all (d:=⟨[(.func (.func 104) #[] #[]),(.func (.func 104) #[] #[])]⟩) Own.an V0 V5 V5 (j9 (l:=[(.func (.func 104) #[] #[]),(.func (.func 104) #[] #[])]) rfl Vr) λh17 w17 _=>?_;exact fin_ h17 _ 104 104 hW2 (w17.sub own_) hb
  have d1:¬op<=17:=by omega
  have d2:18<=op:=by omega
  have d3:¬op<=22:=by omega
  simp[d,d1,d2,d3];subst hz;simp;refine wy ?_;refine w16.cz (k:=(0,0)) (α:=RawN 1) Part.all (d:=⟨[(.func (.func 104) #[] #[]),(.func (.func 104) #[] #[])]⟩) Own.an V0 V5 V5 (j9 (l:=[(.func (.func 104) #[] #[]),(.func (.func 104) #[] #[])]) rfl Vr) λh17 w17 _=>?_;exact fin_ h17 _ 104 104 hW2 (w17.sub own_) hb
section
variable{y:aU}{v:Value}{h:Heap}
theorem Dk(hv:Rd (vw h) v y):ay VI 104 #[v] h (λu h'=>(vw h).le (vw h')/\SlRd (vw h') u ([]:List Int)):=by refine ao (args:=[v]) follows Tryz.func104 E.mB Vu λK hK=>?_;dsimp only[L.mB,lkF,lkG];refine aa λz hz=>?_;simp;refine eI rfl hv λh1 _ hle1 _ _=>?_;subst hz;simp;exact hK _ _ ⟨hle1,aL⟩
theorem KB(hv:Rd (vw h) v y):ay VI 105 #[v] h (λu h'=>(vw h).le (vw h')/\SlRd (vw h') u [y.d]):=by refine ao (args:=[v]) follows Tryz.func105 E.mE Vu λK hK=>?_;dsimp only[L.mE,lkF,lkG];refine aa λz hz=>?_;simp;refine eI rfl hv λh1 _ hle1 _ at1=>?_;have c1:=(at1.part aU.Qf).int;have r1:=(at1.part aU.Qf).rng;generalize h.size=B at c1 ⊢;simp at c1;subst hz;refine aa λz hz=>?_;simp[c1];refine qM (α:=Int) (ds:=[y.d]) (vs:=[Vz VA y.d]) (X:=nothing) El.aZ V5 ⟨bu.2 ⟨rfl,r1⟩,trivial⟩ rfl V6 V6 λu2 h2 le2 _ s2 _=>?_;subst hz;simp;exact hK _ _ ⟨Vx hle1 le2,s2 (vw h2) cB rfl⟩
theorem KG(hv:Rd (vw h) v y):ay VI 107 #[v] h (λu h'=>(vw h).le (vw h')/\SlRd (vw h') u [y.a,y.b]):=by refine ao (args:=[v]) follows Tryz.func107 E.mI Vu λK hK=>?_;dsimp only[L.mI,lkF,lkG];refine aa λz hz=>?_;simp;refine eI rfl hv λh1 _ hle1 _ at1=>?_;have c1:=(at1.part aU.Q5).int;have r1:=(at1.part aU.Q5).rng;have c2:=(at1.part aU.Ry).int;have r2:=(at1.part aU.Ry).rng;generalize h.size=B at c1 c2 ⊢;simp at c1 c2;subst hz;refine aa λz hz=>?_;simp[c1,c2];refine qM (α:=Int) (ds:=[y.a,y.b]) (vs:=[Vz VA y.a,Vz VA y.b]) (X:=nothing) El.aZ V5 ⟨bu.2 ⟨rfl,r1⟩,bu.2 ⟨rfl,r2⟩,trivial⟩ rfl V6 V6 λu2 h2 le2 _ s2 _=>?_;subst hz;simp;exact hK _ _ ⟨Vx hle1 le2,s2 (vw h2) cB rfl⟩
theorem JY(hv:Rd (vw h) v y):ay VI 110 #[v] h (λu h'=>(vw h).le (vw h')/\SlRd (vw h') u [y.d,y.e]):=by refine ao (args:=[v]) follows Tryz.func110 E.my Vu λK hK=>?_;dsimp only[L.my,lkF,lkG];refine aa λz hz=>?_;simp;refine eI rfl hv λh1 _ hle1 _ at1=>?_;have c1:=(at1.part aU.Qf).int;have r1:=(at1.part aU.Qf).rng;have c2:=(at1.part aU.RS).int;have r2:=(at1.part aU.RS).rng;generalize h.size=B at c1 c2 ⊢;simp at c1 c2;subst hz;refine aa λz hz=>?_;simp[c1,c2];refine qM (α:=Int) (ds:=[y.d,y.e]) (vs:=[Vz VA y.d,Vz VA y.e]) (X:=nothing) El.aZ V5 ⟨bu.2 ⟨rfl,r1⟩,bu.2 ⟨rfl,r2⟩,trivial⟩ rfl V6 V6 λu2 h2 le2 _ s2 _=>?_;subst hz;simp;exact hK _ _ ⟨Vx hle1 le2,s2 (vw h2) cB rfl⟩
theorem Mh(hv:Rd (vw h) v y):isFn VI (lC y.op)=VG/\ay VI (lC y.op) #[v] h (λu h'=>(vw h).le (vw h')/\SlRd (vw h') u (fO y)):=by
 unfold lC fO;by_cases c2:y.op=2
 ·rw[if_pos c2,if_pos c2];exact⟨by kernel_rfl,KG hv⟩
 rw[if_neg c2,if_neg c2];by_cases c26:y.op=26\/y.op=27\/y.op=31
 ·rw[if_pos c26,if_pos c26];exact⟨by kernel_rfl,Dk hv⟩
 rw[if_neg c26,if_neg c26];by_cases c29:y.op=29
 ·rw[if_pos c29,if_pos c29];exact⟨by kernel_rfl,JY hv⟩
 rw[if_neg c29,if_neg c29];by_cases c:y.op=1\/y.op=3\/y.op=4\/y.op=23\/y.op=24\/y.op=25\/y.op=28\/y.op=30\/5<=y.op/\y.op<=22
 ·rw[if_pos c,if_pos c];exact⟨by kernel_rfl,KB hv⟩
 rw[if_neg c,if_neg c];exact⟨by kernel_rfl,Dk hv⟩
theorem CT(hv:Rd (vw h) v y):ay VI 20 #[v] h (λu h'=>(vw h).le (vw h')/\SlRd (vw h') u (fO y)):=by refine ao (args:=[v]) follows Tryz.func20 E.qW Vu λK hK=>?_;dsimp only[L.qW,lkF,lkG];refine aa λz hz=>?_;simp;refine eI rfl hv λh1 _ hle1 _ at1=>?_;have c0:=(at1.part aU.xG).int;obtain⟨uy,huy,ruy⟩:=at1.ldN rfl (N:=8) rfl;have huy:=huy _ Vw;generalize h.size=B at c0 huy ⊢;simp at c0;subst hz;refine aa λz hz=>?_;refine aN (vw h1) Vw ?_;simp[c0,huy];refine ah V0 HV ?_;rintro _ h2 ⟨hle2,v1,rfl⟩;refine⟨hle2,?_⟩;simp;obtain⟨k1,k2⟩:=Mh (ruy.mono hle2);refine bW (ops:=[.tmp 7]) (caps:=#[]) rfl k1 k2 ?_;rintro u h3 ⟨hle3,s3⟩;subst hz;simp;exact hK _ _ ⟨Vx hle1 (Vx hle2 hle3),s3⟩
end
instance:Inhabited eK:=⟨⟨[],[],cT⟩⟩
structure SmMB(x:eK):Prop where
 phis:x.phis.length<=10000
 phi : ∀i,i<x.phis.length->(nth x.phis i).ins.length<=10000
 ins:x.ins.length<=30000
 inn : ∀i,i<x.ins.length->(nth x.ins i).args.length<=10000
 tos:(EndD.to x.fin).length<=10000
structure SmM(m:MFnD):Prop where
 len:m.blocks.length<=10000
 blk : ∀i,i<m.blocks.length->SmMB (nth m.blocks i)
structure LayM(x:eK)(n k:Nat):Prop where
 n:x.ins.length<=n+2*k
 a : ∀m∈x.ins,m.args.length<=10000
 t:(EndD.to x.fin).length<=10000
section
variable{f:ak}{b:Nat}{l:List aS}
theorem Qz(hsm:SmF f)(hb:b<f.blocks.length){s:jn}{k i:Nat}(h:LayM s.blk 0 k):LayM (fQ f b l s i).blk 0 (k+1)/\(fQ f b l s i).blk.phis=s.blk.phis:=by
 have step : ∀{pat:Int} {q:jn},q.blk=s.blk->LayM (layS f b i pat q).blk 0 (k+1)/\(layS f b i pat q).blk.phis=s.blk.phis:=fun{pat q} e=>by
  obtain⟨c1,c2,c3⟩:=FY (i:=i) (pat:=pat) (temp:=q.temp) hsm hb;obtain⟨h1,h2,h3⟩:=h;refine⟨⟨?_,?_,?_⟩,?_⟩
  ·show(q.blk.ins++_).length<=_;rw[Sf,e];omega
  ·show ∀m∈q.blk.ins++pF (dV f b i pat q.temp),_;intro m hm;rcases R1.1 hm with hm | hm
   ·exact h2 m (by rw[<-e];exact hm)
   exact c2 m hm
  ·show(EndD.to (if i=_ then Ay (dV f b i pat q.temp) else q.blk.fin)).length<=_;split
   ·exact c3
   rw[e];exact h3
  show q.blk.phis=_;rw[e]
 unfold fQ;split
 ·exact step rfl
 exact step rfl
theorem JR(hsm:SmF f)(hb:b<f.blocks.length) : ∀{r:List Nat} {s:jn} {k:Nat},LayM s.blk 0 k->LayM (r.foldl (fQ f b l) s).blk 0 (k+r.length)/\(r.foldl (fQ f b l) s).blk.phis=s.blk.phis
 | [],s,k,h=>⟨h,rfl⟩
 | a::r,s,k,h=>by obtain⟨q1,q2⟩:=Qz (l:=l) (i:=a) hsm hb h;obtain⟨q3,q4⟩:=JR hsm hb (r:=r) q1;rw[Sx,SL,show k+(r.length+1)=k+1+r.length by omega];exact⟨q3,q4.trans q2⟩
theorem Qx(hsm:SmF f)(hb:b<f.blocks.length){s:FnSt}:SmMB (mT f l b s (eO f b l).length).blk:=by have h0:LayM (lay0 f b s).blk 0 0:=⟨by show([]:List aU).length<=_;simp,(λm hm=>nomatch hm),by show(EndD.to cT).length<=_;simp[cT]⟩;obtain⟨⟨h1,h2,h3⟩,h4⟩:=JR (l:=l) hsm hb (r:=(eO f b l).take (eO f b l).length) h0;have hr:=te (f:=f) (b:=b) (l:=l);have sb:=hsm.blk b hb;have si:=sb.ins;unfold mT;rw[SH]at h1;have h4:_=(nth f.blocks b).phis:=h4;refine⟨by rw[h4];exact sb.phis,λi hi=>by rw[h4]at hi ⊢;exact sb.phi i hi,by omega,λi hi=>h2 _ (bh hi),h3⟩
theorem J9(hsm:SmF f) : ∀{k:Nat},k<=f.blocks.length->(fnAt f l k).out.length=k/\∀x∈(fnAt f l k).out,SmMB x
 | 0,_=>⟨rfl,λx hx=>nomatch hx⟩
 | k+1,h=>by
  obtain⟨h1,h2⟩:=J9 hsm (k:=k) V4;have q:=Qx (l:=l) hsm (b:=k) V4 (s:=fnAt f l k);rw[xH];refine⟨?_,λx hx=>?_⟩
  ·show(_++[_]).length=_;rw[Sf,h1];rfl
  have hx:x∈(fnAt f l k).out++[(mT f l k (fnAt f l k) (eO f k l).length).blk]:=hx;rcases R1.1 hx with hx | hx
  ·exact h2 x hx
  rw[RY.1 hx];exact q
theorem Ib(hsm:SmF f):SmM (dD f l).code:=by
 have no_ : ∀e,SmM (noCh e).code:=λe=>⟨Tv _,λi hi=>absurd hi (Tx _)⟩;obtain⟨h1,h2⟩:=J9 (l:=l) hsm (RX _);unfold dD;split
 ·exact no_ _
 split
 ·exact no_ _
 exact⟨by show(fnAt f l f.blocks.length).out.length<=_;rw[h1];exact hsm.len,λi hi=>h2 _ (bh hi)⟩
end
theorem Ar{y:aU}:(fO y).length<=2:=by
 unfold fO;repeat' split
 all_goals simp
theorem yZ{y:aU}{r:Int}{l:List Int}{m:Int}(h:lP y (r::l) n=VC m):¬(n<r\/r=n/\y.op≠4)/\lP y l (if r=n then n+1 else n)=VC m:=by
 unfold lP at h;split at h
 ·cases h
 rename_i c;exact⟨c,h⟩
theorem zS{y:aU}{l:List aU}{m:Int}(h:fN (y::l) n=VC m): ∃k,lP y (fO y) n=VC k/\fN l k=VC m:=by
 unfold fN at h;cases e:lP y (fO y) n with
 | none=>rw[e]at h;cases h
 | some k=>rw[e]at h;exact⟨k,rfl,h⟩
theorem FB{y:eK}{l:List eK}{m:Int}(h:nW (y::l) n=VC m): ∃k,fN y.ins n=VC k/\nW l k=VC m:=by
 unfold nW at h;cases e:fN y.ins n with
 | none=>rw[e]at h;cases h
 | some k=>rw[e]at h;exact⟨k,rfl,h⟩
theorem xA{y:aU} : ∀{l:List Int} {n m:Int},lP y l n=VC m->n<=m/\m<=n+l.length
 | [],n,m,h=>by cases h;simp
 | r::l,n,m,h=>by obtain⟨-,h⟩:=yZ h;have:=xA h;simp only[SL];split at this<;>omega
theorem BZ : ∀{l:List aU} {n m:Int},fN l n=VC m->n<=m/\m<=n+2*l.length
 | [],n,m,h=>by cases h;simp
 | y::l,n,m,h=>by obtain⟨k,h1,h2⟩:=zS h;have a:=xA h1;have b:=BZ h2;have c:=Ar (y:=y);simp only[SL];omega
theorem drop_cons{α:Type}[Inhabited α]{l:List α}{k:Nat}(h:k<l.length):l.drop k=nth l k::l.drop (k+1):=by rw[SD h,az h]
set_option maxHeartbeats 8000000 in
theorem z6{s t:List Int}{vs vt:Value}{h:Heap}(ht:Tab h)(hM:iu)(hs:SlRd (vw h) vs s)(htb:SlRd (vw h) vt t):
  ay VI 7 #[vs,vt] h (λu h'=>u = .bool VG/\(vw h).le (vw h')):=by
 refine ao (args:=[vs,vt]) follows Tryz.func7 E.bc Vu λK hK=>?_;dsimp only[L.bc,lkF,lkG];refine aa λz hz=>?_;simp;subst hz;refine aa λz hz=>?_;simp;refine ah V0 (I3 ht hM) ?_;rintro _ h2 ⟨l02,rfl⟩;subst hz;refine aa λz hz=>?_;simp;refine ah V0 (zC (hs.mono l02)) ?_;rintro us _ ⟨rfl,s3⟩;refine ah V0 (Ml (Owns.start Vw) (λ_ _=>rfl) s3) ?_;rintro uf h4 ⟨W4,hW4,w4,rf⟩;have rf:=rf.mono w4.wle;have l24:=Vx hW4 w4.wle;have l04:=Vx l02 l24;have hm:=K9 (s:=s.take 300);have hsm:=N3 (s:=s.take 300);generalize sZ (s.take 300)=f at rf hm hsm;have hok:Okf f:=⟨hm,hsm,oL rf⟩;refine cW (X:=vw h4) (z:=zz4) V0 rfl V0 rf V8 V8 λh5 hle5 _ at5=>?_;have at5:=at5 (vw h5) hle5 rfl;generalize h4.size=B at at5 ⊢;obtain⟨uF,huF,rF⟩:=at5.ldN rfl (N:=2) rfl;have l05:=Vx l04 hle5;subst hz;refine aa λz hz=>?_;obtain⟨s',hs'⟩ : ∃s',s'=t.take 300:=⟨_,rfl⟩;have hT:=PT (f:=f) (l:=tabS s') hok;have hsmM:=Ib (f:=f) (l:=tabS s') hsm;have rest : ∀(h10:Heap) (A:Nat) (ρ:Env),(vw h5).le (vw h10)->At (vw h10) ⟨A,0,VD⟩ (dD f (tabS s')).code->Slk ρ [(5,.bool VG),(6,ptz B),(7,ptz A),(9,Vz VA (dD f (tabS s')).err)]->LC.wp VI z (dR [.tmp 4] K) ρ h10:=by
  intro h10 A ρ l10 hat hS;simp only[ff,gw,and_true]at hS;obtain⟨g5,g6,g7,g9⟩:=hS;have l010:=Vx l05 l10;obtain⟨vb,cb,sb⟩:=(hat.part MFnD.qg).sl;have cb:aq (vw h10) ⟨A,1,VD⟩=VC vb:=by simpa using cb
  have sbl : ∀{K:View},Un.ev K .len vb=VC (Vz VA (dD f (tabS s')).code.blocks.length):=sb.len;rw[hz];clear hz;refine aa λy hy=>?_;by_cases ce:(dD f (tabS s')).err=0;rotate_left
  ·have e:=hT.1 ce;have sbl : ∀{K:View},Un.ev K .len vb=VC (Vz VA 0):=fun{K}=>by rw[sbl,e];rfl
   simp[g5,g7,g9,ce,af,ag,cb,sbl];exact hK _ _ ⟨rfl,l010⟩
  obtain⟨n9,hscan⟩:=hT.2 ce;generalize (dD f (tabS s')).code=m at hat sb sbl hscan hsmM;simp[g5,g7,g9,ce,af,ag];subst hy;refine aa λy hy=>?_;simp[af,ag,g6,huF _ l10];refine ah V0 (Ip (rF.mono l10) hsm) ?_;rintro _ h11 ⟨rfl,hle11⟩;have tr:=Cq (f:=f);subst hy;refine aa λy hy=>?_;have hml:=hsmM.len;simp;refine dy [5,7,10,11] (fun(n:Int) b=>[.bool VG,ptz A,Vz VA n,Vz VA b]) (λn b hx=>(vw h10).le (vw hx)/\nW (m.blocks.drop b) n=VC n9/\0<=n/\n<=8192+60000*(b:Int)) m.blocks.length (topS f)
   V0 V4 (by simp[aY,af,ag,g5,g7]) ⟨hle11,hscan,tr.1,by omega⟩ (λ_ _=>rfl) (λn b hx hb ⟨l,_⟩=>by simp[ae l cb,sbl]) ?_ ?_
  ·rintro n b hx hb ⟨lx,hsc,hn0,hn1⟩ K2 hK2;have smb:=hsmM.blk b hb;rw[drop_cons hb]at hsc;obtain⟨n2,hc1,hc2⟩:=FB hsc;have hrg:=BZ hc1;have sbx:=sb.mono lx;have qb:=sbx.idxn (k:=.i64) (N:=7) rfl (i:=(b:Int)) V4 V4;obtain⟨vi,ki,si⟩:=((sb.at hb).part eK.jm).sl;rw[<-az hb]at si;have n7:Rep.n eK=7:=rfl;simp[n7]at qb ki;have sil : ∀{K:View},Un.ev K .len vi=VC (Vz VA (nth m.blocks b).ins.length):=si.len;have sins:=smb.ins;generalize nth m.blocks b=x at si sil hc1 hrg sins smb;refine dc ?_;refine aa λy hy=>?_;simp;subst hy;refine dy [5,7,10,11,12] (fun(n:Int) i=>[.bool VG,ptz A,Vz VA n,Vz VA b,Vz VA i]) (λn i hx=>(vw h10).le (vw hx)/\fN (x.ins.drop i) n=VC n2/\0<=n/\n<=8192+60000*(b:Int)+2*(i:Int)) x.ins.length n
    V0 V4 (by simp[aY,af,ag]) ⟨lx,hc1,hn0,by omega⟩ (λ_ _=>rfl) (λn i hx hi ⟨l,_⟩=>by simp[ae l cb,(sb.mono l).idxn (k:=.i64) (N:=7) rfl (i:=(b:Int)) V4 V4,ae l ki,sil]) ?_ ?_
   ·rintro n i hx hi ⟨lx,hsc,hn0,hn1⟩ K3 hK3;rw[drop_cons hi]at hsc;obtain⟨n3,hr1,hr2⟩:=zS hsc;have hrg3:=xA hr1;have hm2:=Ar (y:=nth x.ins i);obtain⟨uy,huy,ruy⟩:=(si.mono lx).wh rfl (N:=8) rfl hi;have qi:=(si.mono lx).idxn (k:=.i64) (N:=8) rfl (i:=(i:Int)) V4 V4;have qb:=(sb.mono lx).idxn (k:=.i64) (N:=7) rfl (i:=(b:Int)) V4 V4;simp at qi qb;generalize nth x.ins i=y0 at hr1 hrg3 hm2 ruy;refine dc ?_;refine aa λy hy=>?_;simp[ae lx cb,qb,ae lx ki,qi,huy _ Vw];refine cW (α:=aU) (X:=vw hx) (z:=zz8) V0 rfl V0 ruy V8 V8 λh12 hle12 _ at12=>?_;have at12:=at12 (vw h12) hle12 rfl;generalize hx.size=D at at12 ⊢;obtain⟨uz,huz,ruz⟩:=at12.ldN rfl (N:=8) rfl;have huz:=huz _ Vw;have cop:=(at12.part aU.xG).int;simp at cop;subst hy;refine aa λy hy=>?_;simp[huz];refine ah V0 (CT ruz) ?_;rintro vl h13 ⟨hle13,sl⟩;have lx13:=Vx lx (Vx hle12 hle13);have cop:=ae hle13 cop;have sll : ∀{K:View},Un.ev K .len vl=VC (Vz VA (fO y0).length):=sl.len;subst hy;refine aa λy hy=>?_;simp;subst hy;refine dy [5,7,10,11,12,13,14,15] (fun(n:Int) k=>[.bool VG,ptz A,Vz VA n,Vz VA b,Vz VA i,ptz D,vl,Vz VA k]) (λn k hx=>hx=h13/\lP y0 ((fO y0).drop k) n=VC n3/\0<=n/\n<=8192+60000*(b:Int)+2*(i:Int)+k) (fO y0).length n
     V0 V4 (by simp[aY,af,ag]) ⟨rfl,hr1,hn0,by omega⟩ (λ_ _=>rfl) (λn k hx hk _=>by simp[sll]) ?_ ?_
    ·rintro n k hx hk ⟨rfl,hsr,hn0,hn1⟩ K4 hK4;rw[drop_cons hk]at hsr;obtain⟨hno,hsr⟩:=yZ hsr;have q:=sl.idx1 (k:=.i64) (i:=(k:Int)) rfl V4 V4;have p:=sl.int Vw (i:=k) hk;simp at q p;generalize nth (fO y0) k=r at *;have hkl:k<2:=by omega
     have ew:IntKind.i64.wrap (n+1)=n+1:=bj V4 V4;have h1:¬n<r:=λe=>hno (.inl e);refine dc ?_;refine aa λy hy=>?_;by_cases e:r=n
     ·have h4:y0.op=4:=Classical.byContradiction λc=>hno (.inr ⟨e,c⟩);rw[if_pos e]at hsr;subst e;simp[q,p,cop,h4];subst hy;simp[q,p,ew];exact hK4 (r+1) _ _ (by simp[af,ag]) (by simp[aY,af,ag]) ⟨rfl,hsr,by omega,by omega⟩
     rw[if_neg e]at hsr;simp[q,p,h1,e];subst hy;simp[q,p,e];exact hK4 n _ _ (by simp[af,ag]) (by simp[aY,af,ag]) ⟨rfl,hsr,by omega,by omega⟩
    rintro n hx ⟨rfl,hsr,hn0,hn1⟩;rw[UJ (RX _)]at hsr;have hsr:n=n3:=Option.some.inj hsr;subst hsr;simp;exact hK3 n _ _ (by simp[af,ag]) (by simp[aY,af,ag]) ⟨lx13,hr2,hn0,by omega⟩
   rintro n hx ⟨lx,hsc,hn0,hn1⟩;rw[UJ (RX _)]at hsc;have hsc:n=n2:=Option.some.inj hsc;subst hsc;simp;exact hK2 n _ _ (by simp[af,ag]) (by simp[aY,af,ag]) ⟨lx,hc2,hn0,by omega⟩
  rintro n hx ⟨lx,hsc,hn0,hn1⟩;simp;subst hy;simp;exact hK _ _ ⟨rfl,Vx l010 lx⟩
 have z33 : ∀{K:View},Rd K (.agg #[Vz VA 0,VE VD 0 0]) (⟨0,[]⟩:MFnD):=fun{K}=>Ld (sE ⟨V6,V6⟩) aL;have free_ : ∀{x:Option Lft.Item} (q:Key),q.1<10->Own.upd (λ_=>VD) (20,0) x q=none:=fun{x} q hq=>Own.aB (by rintro rfl;simp at hq)
 refine aN (vw h5) Vw ?_;simp[huF _ Vw];refine⟨?_,?_⟩
 ·refine ah V0 (zC (htb.mono l05)) ?_;rintro ut h6 ⟨rfl,s6⟩;rw[<-hs']at s6;refine⟨View.le_refl _,?_,?_⟩
  ·refine ah V0 (J8 s6) ?_;rintro ul h7 ⟨hle7,sl⟩;refine⟨hle7,?_,?_⟩
   ·refine ah V0 (tS (rF.mono hle7) sl hsm (ht.mono (Vx l05 hle7)) hM) ?_;rintro _ h8 ⟨hle8,vm,rfl,rm⟩;simp;refine cW (X:=vw h8) (z:=zz4) V0 rfl V0 rm V8 V8 λh9 hle9 _ at9=>?_;exact rest h9 _ _ (Vx hle7 (Vx hle8 hle9)) (at9 (vw h9) hle9 rfl) (by simp[ff,gw,af,ag])
   have w7:=Owns.start (h:=h7) (View.le_refl (vw h7));have hA:(vw h6) h7.size=none:=View.bS (View.le_refl (vw h6)) (bL hle7);refine w7.jS (k:=(20,0)) (α:=MFnD) (z:=zz4) (d:=⟨0,[]⟩) rfl V0 z33 V6 λh8 hle8 w8=>⟨Vx hle7 hle8,?_⟩;generalize h7.size=A at w8 hA ⊢;refine ah V0 (kV w8 free_ (rF.mono hle7) sl hsm (ht.mono (Vx l05 (Vx hle7 hle8))) hM) ?_;rintro _ h9 ⟨W9,vm,hso,hle9,w9,rfl,rm⟩;simp;refine w9.kP (k:=(20,0)) (α:=MFnD) Part.all (D:=⟨0,[]⟩) (d:=(dD f (tabS s')).code) Own.an V0 V5 V5 rm λh10 w10 hX=>?_;exact rest h10 A _ (hX _ (Vx hle7 hle9) hA) (w10.at (k:=(20,0)) Own.an) (by simp[ff,gw,af,ag])
  have w6:=Owns.start (h:=h6) (View.le_refl (vw h6));have hA:(vw h6) h6.size=none:=View.bS (View.le_refl (vw h6)) (RX _);refine w6.jS (k:=(20,0)) (α:=MFnD) (z:=zz4) (d:=⟨0,[]⟩) rfl V0 z33 V6 λh7 hle7 w7=>⟨hle7,?_⟩;generalize h6.size=A at w7 hA ⊢;refine ah V0 (xh (s6.mono hle7)) ?_;rintro ul h8 ⟨hle8,sl⟩;have l8:=Vx hle7 hle8;refine⟨l8,?_⟩;have w8:=w7.ext hle8;have lg:(vw h6).le (grow (vw h6) h7 h8):=bC w7.wle;refine ah V0 (kV w8 free_ (rF.mono lg) (sl.mono lk) hsm (ht.mono (Vx l05 l8)) hM) ?_;rintro _ h9 ⟨W9,vm,hso,hle9,w9,rfl,rm⟩;simp;refine w9.kP (k:=(20,0)) (α:=MFnD) Part.all (D:=⟨0,[]⟩) (d:=(dD f (tabS s')).code) Own.an V0 V5 V5 rm λh10 w10 hX=>?_;exact rest h10 A _ (hX _ (Vx lg hle9) hA) (w10.at (k:=(20,0)) Own.an) (by simp[ff,gw,af,ag])
 have w5:=Owns.start (h:=h5) (View.le_refl (vw h5));have hA:(vw h5) h5.size=none:=View.bS (View.le_refl (vw h5)) (RX _);refine w5.jS (k:=(20,0)) (α:=MFnD) (z:=zz4) (d:=⟨0,[]⟩) rfl V0 z33 V6 λh6 hle6 w6=>⟨hle6,?_⟩;generalize h5.size=A at w6 hA ⊢;refine ah V0 (zC (htb.mono (Vx l05 hle6))) ?_;rintro ut h7 ⟨rfl,s6⟩;rw[<-hs']at s6;refine⟨hle6,?_⟩;refine ah V0 (xh s6) ?_;rintro ul h8 ⟨hle8,sl⟩;have l8:=Vx hle6 hle8;refine⟨l8,?_⟩;have w8:=w6.ext hle8;have lg:(vw h5).le (grow (vw h5) h7 h8):=bC w6.wle;refine ah V0 (kV w8 free_ (rF.mono lg) (sl.mono lk) hsm (ht.mono (Vx l05 l8)) hM) ?_;rintro _ h9 ⟨W9,vm,hso,hle9,w9,rfl,rm⟩;simp;refine w9.kP (k:=(20,0)) (α:=MFnD) Part.all (D:=⟨0,[]⟩) (d:=(dD f (tabS s')).code) Own.an V0 V5 V5 rm λh10 w10 hX=>?_;exact rest h10 A _ (hX _ (Vx lg hle9) hA) (w10.at (k:=(20,0)) Own.an) (by simp[ff,gw,af,ag])
end Go.Lft
