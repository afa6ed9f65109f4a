/- A part of the proof: Aq, Ar, As, At, Au, Av, Jb, Ge. -/
import Derived.Test.YtmhnaeecolpfkaaGreatDoorZCOwn7
set_option linter.unusedSimpArgs false
set_option linter.unusedVariables false
open Go.Value renaming int->UH,slice->UM,pointer->UN
open Go.IntKind renaming i64->UI,i32->UJ
open Option renaming some->UK,none->UL
open Bool renaming true->UO,false->UP
open Go.Proofs.Tryz renaming prog->UQ
open Go.Proofs
namespace Go.Lft
abbrev lu(X0:View):=Cat Raw (Cat Raw (EndN X0))
theorem He{X0:View}:Part (lu X0) Raw 0 (λd=>d.a) (λd x=>⟨x,d.b⟩):=(Part.fst Part.all).via (λ_=>rfl) λ_ _=>rfl
theorem Kr{X0:View}:Part (lu X0) Raw 1 (λd=>d.b.a) (λd x=>⟨d.a,⟨x,d.b.b⟩⟩):=(Part.snd (Part.fst Part.all)).via (λ_=>rfl) λ_ _=>rfl
theorem OA{X0:View}:Part (lu X0) (EndN X0) 2 (λd=>d.b.b) (λd x=>⟨d.a,⟨d.b.a,x⟩⟩):=(Part.snd (Part.snd Part.all)).via (λ_=>rfl) λ_ _=>rfl
def layO(X0:View)(o:Own)(Bm:Nat)(pv iv rv:Value)(fin:EndD)(ins:List bz)(Bt:Nat)(temp:Int)(Bn:Nat)(many:Bool):Own:=λk=>if k=(0,0) then bx T.dU Bm (⟨⟨pv⟩,⟨⟨iv⟩,fin⟩⟩:lu X0) else if k=(0,2) then it (α:=jL X0) T.cT rv ins else if k=(0,3) then bx T.int Bt temp else if k=(0,5) then bx T.bool Bn many else o k
section
variable{X0:View}{o:Own}{Bm Bt Bn:Nat}{pv iv rv:Value}{fin:EndD}{ins:List bz}{temp:Int}{many:Bool}
theorem Fi:layO X0 o Bm pv iv rv fin ins Bt temp Bn many (0,0)=bx T.dU Bm (⟨⟨pv⟩,⟨⟨iv⟩,fin⟩⟩:lu X0):=rfl
theorem Jx:layO X0 o Bm pv iv rv fin ins Bt temp Bn many (0,2)=it (α:=jL X0) T.cT rv ins:=rfl
theorem Cg:layO X0 o Bm pv iv rv fin ins Bt temp Bn many (0,3)=bx T.int Bt temp:=rfl
theorem KM:layO X0 o Bm pv iv rv fin ins Bt temp Bn many (0,5)=bx T.bool Bn many:=rfl
theorem Hc{pv2 iv2:Value}{fin2:EndD}:(layO X0 o Bm pv iv rv fin ins Bt temp Bn many).upd (0,0) (bx T.dU Bm (⟨⟨pv2⟩,⟨⟨iv2⟩,fin2⟩⟩:lu X0))=layO X0 o Bm pv2 iv2 rv fin2 ins Bt temp Bn many:=by funext k;unfold Own.upd layO;split<;>rfl
theorem Lt{rv2:Value}{ins2:List bz}:(layO X0 o Bm pv iv rv fin ins Bt temp Bn many).upd (0,2) (it (α:=jL X0) T.cT rv2 ins2)=layO X0 o Bm pv iv rv2 fin ins2 Bt temp Bn many:=by
 funext k;unfold Own.upd layO;by_cases c:k=(0,2)
 ·subst c;rfl
 simp only[if_neg c]
theorem LW{t2:Int}:(layO X0 o Bm pv iv rv fin ins Bt temp Bn many).upd (0,3) (bx T.int Bt t2)=layO X0 o Bm pv iv rv fin ins Bt t2 Bn many:=by
 funext k;unfold Own.upd layO;by_cases c:k=(0,3)
 ·subst c;rfl
 simp only[if_neg c]
theorem MA{n2:Bool}:(layO X0 o Bm pv iv rv fin ins Bt temp Bn many).upd (0,5) (bx T.bool Bn n2)=layO X0 o Bm pv iv rv fin ins Bt temp Bn n2:=by
 funext k;unfold Own.upd layO;by_cases c:k=(0,5)
 ·subst c;rfl
 simp only[if_neg c]
theorem yn{a:Nat}{x:Option Lft.Item}:(layO X0 o Bm pv iv rv fin ins Bt temp Bn many).upd (1,a) x=layO X0 (o.upd (1,a) x) Bm pv iv rv fin ins Bt temp Bn many:=by
 funext k;unfold Own.upd layO;by_cases c:k=(1,a)
 ·subst c;rfl
 simp only[if_neg c]
theorem mO{a:Nat}:layO X0 o Bm pv iv rv fin ins Bt temp Bn many (1,a)=o (1,a):=rfl
theorem zf{a:Nat}{x:Option Lft.Item}(h:o (1,a)=UL): ∀k i,layO X0 o Bm pv iv rv fin ins Bt temp Bn many k=UK i->layO X0 (o.upd (1,a) x) Bm pv iv rv fin ins Bt temp Bn many k=UK i:=λk i hk=>by
 by_cases c:k=(1,a)
 ·subst c;rw[mO,h]at hk;cases hk
 unfold layO at hk ⊢;rw[Own.aB c];exact hk
end
theorem Bv{o:Own}{k:Key}{x y:Option Lft.Item}:(o.upd k x).upd k y=o.upd k y:=by funext q;unfold Own.upd;split<;>rfl
theorem qq{Y:View}{h h':Heap}:(grow nothing h h').le (grow Y h h'):=λb x hb=>by
 unfold grow at hb ⊢;split at hb
 ·cases hb
 rename_i c;rw[if_neg c];exact hb
set_option maxHeartbeats 2000000 in
theorem Kl{n:Nat}{X0 X Y:View}{h:Heap}{o:Own}{Bm Bt Bn Bf Bk Bb:Nat}{pv iv:Value}{fin:EndD}{ins:List bz}{temp:Int}{many:Bool}{f:ak}{b i:Nat}{pat:Int}(w:Held n X Y h (layO X0 o Bm pv iv iv fin ins Bt temp Bn many))(hX0:X0.le Y)(h10:o (1,0)=UL)(h11:o (1,1)=UL)(atF:At Y ⟨Bf,0,UL⟩ f)(ck:an Y ⟨Bk,0,UL⟩=UK (UH UI b))(atB:At Y ⟨Bb,0,UL⟩ (nth f.blocks b))(hsm:SmF f)(hM:ib)(hb:b<f.blocks.length)(hi:i<=(nth f.blocks b).ins.length)(hp:I64 pat)(ht:0<=temp/\temp<=1000000000000)(hins:ins.length<=1000000000):
  ay UQ 50 #[UH UI i,UH UI pat,ptz Bf,ptz Bk,ptz Bt,ptz Bm,ptz Bb,ptz Bn] h
   (λu h'=>∃Y' iv',Y.le Y'/\Held n X Y' h' (layO X0 o Bm pv iv' iv' (if i=(nth f.blocks b).ins.length then Au (gu f b i pat temp) else fin) (ins++qQ (gu f b i pat temp)) Bt (if pat=26\/pat=30 then temp+1 else temp) Bn (if pat=26\/pat=30 then many||decide (8192<=temp) else many))):=by
 refine aq (args:=[UH UI i,UH UI pat,ptz Bf,ptz Bk,ptz Bt,ptz Bm,ptz Bb,ptz Bn]) follows Tryz.func50 E.dO UC λK hK=>?_;dsimp only[L.dO,lkF,lkG];obtain⟨c1,c2,c3⟩:=KP (i:=i) (pat:=pat) (temp:=temp) hsm hb;have hil:(nth f.blocks b).ins.length<=10000:=(hsm.blk b hb).ins;obtain⟨uF,huF,rF⟩:=atF.ldN rfl (N:=2) rfl;have tc:an (vw h) ⟨Bt,0,UL⟩=UK (UH UI temp):=(w.own.at Cg).int;obtain⟨vin,cin,sin⟩:=(atB.part BlkD.gO).list;simp at cin;refine aa λz hz=>?_;simp[huF _ w.own.wle,ae w.own.wle ck,tc];refine ah U0 (I4 (b:=(b:Int)) (p:=(i:Int)) (pat:=pat) (temp:=temp) w.own.wle rF hsm (λ_ _ _=>hM) hp (by constructor<;>omega)) ?_;rintro _ h1 ⟨hle1,v1,v2,rfl,s1,r2⟩;have w1:=w.ext hle1;have lY1:Y.le (grow Y h h1):=bo w.own.wle;generalize grow Y h h1=Y1 at *;generalize hcode:qQ (gu f b i pat temp)=code at *;generalize hfin:Au (gu f b i pat temp)=fn at *;simp;obtain⟨ve,r2',se⟩:=LO r2;refine w1.pY (k:=(1,0)) (α:=EndR) (d:=endR fn ve) (m:=5) (by rw[mO];exact h10) r2' rfl (z:=.agg endZ.toArray) U0 rfl U0 U3 U5 U5 λh2 hle2 w2=>?_;rw[yn]at w2;generalize h1.size=Be at w2;have h10':(o.upd (1,0) (bx T.eS Be (endR fn ve))) (1,0)=bx T.eS Be (endR fn ve):=Own.ao;have h11':(o.upd (1,0) (bx T.eS Be (endR fn ve))) (1,1)=none:=by rw[Own.aB U2];exact h11
 generalize ho1:o.upd (1,0) (bx T.eS Be (endR fn ve))=o1 at *;subst hz;refine aa λz hz=>?_;have s1l : ∀{K:View},Un.ev K .len v1=UK (UH UI code.length):=s1.len;simp[s1l];refine aG [0,1,4,5,6,7,11,25,26,27] (fun(_:Unit) k=>[UH UI i,UH UI pat,ptz Bt,ptz Bm,ptz Bb,ptz Bn,ptz Be,v1,UH UI code.length,UH UI k])
  (λ_ k hx=>∃Yk iv',Y1.le Yk/\Held n X Yk hx (layO X0 o1 Bm pv iv' iv' fin (ins++code.take k) Bt temp Bn many)) code.length ()
  U0 U1 (by simp[aX,af,ag]) ⟨Y1,iv,View.le_refl _,by simpa using w2⟩ (λ_ _=>rfl) (λv i h1 hk m=>by simp) ?_ ?_
 ·rintro _ k h3 hk ⟨Yk,iv',lYk,wk⟩ K2 hK2;have hk:k<code.length:=hk;have sk:=s1.mono lYk;obtain⟨ut,hut,rut⟩:=sk.wh rfl (N:=8) rfl hk;have qt:=(sk.mono wk.own.wle).idxn (k:=.i64) (N:=8) rfl (i:=(k:Int)) U1 U1;simp at qt;have hml:(nth code k).args.length<=10000:=c2 _ (bF hk);refine dC ?_;refine aa λy hy=>?_;simp[qt,hut _ wk.own.wle];obtain⟨va,rut',sa⟩:=Jg rut;refine wk.pY (k:=(1,1)) (α:=A4) (d:=qO (nth code k) va) (m:=8) (by rw[mO];exact h11') rut' rfl (z:=zz8) U0 rfl U0 U3 U5 U5 λh4 hle4 w4=>?_;rw[yn]at w4;generalize h3.size=Bx at w4;subst hy;refine aa λy hy=>?_;have hx1 : ∀{x:Option Lft.Item},(o1.upd (1,1) x) (1,1)=x:=Own.ao;have ka:an (vw h4) ⟨Bx,7,UL⟩=UK va:=by simpa[qO]using((w4.own.at (k:=(1,1)) (B:=Bx) (d:=qO (nth code k) va) (by rw[mO];exact hx1)).part GI).raw
  have sa:=sa.mono w4.own.wle;simp[ka];refine ah U0 (wu sa U1) ?_;rintro u5 h5 ⟨hle5,s5⟩;have w5:=w4.ext hle5;have s5:=(s5 X0 (UF hX0 (UF lY1 (UF lYk w4.own.wle)))).mono (qq (Y:=Yk));have lY5:Yk.le (grow Yk h4 h5):=bo w4.own.wle;generalize grow Yk h4 h5=Y5 at *;refine w5.db (k:=(1,1)) (α:=A4) GI (D:=qO (nth code k) va) (d:=⟨u5⟩) (by rw[mO];exact hx1) U0 U2 U2 (gG.2 ⟨rfl,(jN.1 s5).1.flat⟩) λh6 w6=>?_;rw[yn]at w6;have w6:Held n X Y5 h6 (layO X0 ((o1.upd (1,1) (bx T.cT Bx (qO (nth code k) va))).upd (1,1) (bx T.cT Bx (qO (nth code k) u5))) Bm pv iv' iv' fin (ins++code.take k) Bt temp Bn many):=w6;subst hy;have ki:an (vw h6) ⟨Bm,1,UL⟩=UK iv':=by simpa using((w6.own.at Fi).part Kr).raw
  obtain⟨ux,hux,rux⟩:=w6.own.ldB (k:=(1,1)) (B:=Bx) (d:=qO (nth code k) u5) (by rw[mO];exact Own.ao) rfl (N:=8) rfl;have rux:=Fg rux s5;have htk:(ins++code.take k).length<=2000000000:=by rw[Rl,RO];omega
  simp[ki,hux];refine w6.gy (k:=(0,2)) (α:=jL X0) Jx El.ko U2 rux (Rt (RC _ (S9 htk)) U3) (Rt (S9 htk) U3) U5 U5 λu7 v7 h7 w7=>?_;have w7:Held n X Y5 h7 (layO X0 ((o1.upd (1,1) (bx T.cT Bx (qO (nth code k) va))).upd (1,1) (bx T.cT Bx (qO (nth code k) u5))) Bm pv iv' v7 fin (ins++code.take k++[nth code k]) Bt temp Bn many):=w7.congr λq=>(congrFun Lt q).symm;have hv7:=(w7.own.cells Jx).2;refine w7.db (k:=(0,0)) (α:=lu X0) Kr (D:=⟨⟨pv⟩,⟨⟨iv'⟩,fin⟩⟩) (d:=⟨v7⟩) Fi U0 U2 U2 (gG.2 ⟨rfl,hv7⟩) λh8 w8=>?_;rw[Hc,Bv]at w8;have w9:=w8.sub (zf h11');refine hK2 () _ _ (by simp[af,ag]) (by simp[aX,af,ag]) ⟨Y5,v7,UF lYk lY5,?_⟩;rw[Rr hk,<-aC hk,<-List.append_assoc];exact w9
 rintro _ h3 ⟨Yk,iv',lYk,wk⟩;rw[RR]at wk;have lY:=UF lY1 lYk;simp;subst hz;refine aa λz hz=>?_;have fin_ : ∀(hx:Heap) (Yx:View) (fin':EndD) (ρ:Env),Yk.le Yx->Held n X Yx hx (layO X0 o Bm pv iv' iv' fin' (ins++code) Bt temp Bn many)->(if i=(nth f.blocks b).ins.length then fn else fin)=fin'->Slk ρ [(1,UH UI pat),(4,ptz Bt),(7,ptz Bn)]->LC.wp UQ z (dY [] K) ρ hx:=by
  intro hx Yx fin' ρ lYx wx hf hS;rw[hz];clear hz;subst hf;simp only[ij,jR,and_true]at hS;obtain⟨e1,e4,e7⟩:=hS;have tc:an (vw hx) ⟨Bt,0,UL⟩=UK (UH UI temp):=(wx.own.at Cg).int;have nc:an (vw hx) ⟨Bn,0,UL⟩=UK (.bool many):=(wx.own.at KM).bool;by_cases cp:pat=26\/pat=30
  ·rw[if_pos cp,if_pos cp]at hK;refine aa λy hy=>?_;have ec:(if pat=26 then Value.bool UO else Value.bool (decide (pat=30))) = .bool true:=by rcases cp with rfl | rfl<;>rfl
   have ep : ∀{H:View} {σ:Nat->Option Value},σ 1=UK (UH UI pat)->ev σ H (.ite (.bin (.cmp .eql) (.tmp 1) (.con (UH UI 26))) (.con (.bool UO)) (.bin (.cmp .eql) (.tmp 1) (.con (UH UI 30))))=UK (.bool UO):=fun{H σ} hσ=>by rcases cp with rfl | rfl<;>simp[hσ]
   simp[af,ag,e1,e4,e7,ep];subst hy;refine aQ (by simp[af]) ?_;refine aa λy hy=>?_;have em:(if many=UO then Value.bool UO else Value.bool (decide (8192<=temp))) = .bool (many||decide (8192<=temp)):=by cases many<;>rfl
   simp[af,ag,e4,e7,tc,nc];refine wx.db (k:=(0,5)) (α:=Bool) Part.all (D:=many) (d:=many||decide (8192<=temp)) KM U0 U2 U2 (qn.2 rfl) λh4 w4=>?_;rw[MA]at w4;subst hy;have tc4:an (vw h4) ⟨Bt,0,UL⟩=UK (UH UI temp):=(w4.own.at Cg).int;have ew:IntKind.i64.wrap (temp+1)=temp+1:=bc U1 U1;simp[af,ag,e4,e7,tc4,ew];refine w4.db (k:=(0,3)) (α:=Int) Part.all (D:=temp) (d:=temp+1) Cg U0 U2 U2 (bw.2 ⟨rfl,by omega,by omega⟩) λh5 w5=>?_;rw[LW]at w5;exact hK _ _ ⟨Yx,iv',UF lY lYx,w5⟩
  rw[if_neg cp,if_neg cp]at hK;have p26:pat≠26:=λe=>cp (.inl e);have p30:pat≠30:=λe=>cp (.inr e);simp[af,ag,e1,e4,e7,p26,p30];exact hK _ _ ⟨Yx,iv',UF lY lYx,wx⟩
 have cin3:=ae (UF lY wk.own.wle) cin;have sn : ∀{K:View},Un.ev K .len vin=UK (UH UI (nth f.blocks b).ins.length):=sin.len;by_cases ci:i=(nth f.blocks b).ins.length
 ·refine aa λy hy=>?_;simp[cin3,sn,ci];subst hy;refine aQ U2 ?_;refine aa λy hy=>?_;have ke : ∀{x:Option Lft.Item},(o1.upd (1,0) x) (1,0)=x:=Own.ao;have ka:an (vw h3) ⟨Be,3,UL⟩=UK ve:=by simpa[endR]using((wk.own.at (k:=(1,0)) (B:=Be) (d:=endR fn ve) (by rw[mO];exact h10')).part NK).raw
  have sa:=se.mono (UF lYk wk.own.wle);simp[ka];refine ah U0 (wu sa U1) ?_;rintro u5 h5 ⟨hle5,s5⟩;have w5:=wk.ext hle5;have s5:=(s5 X0 (UF hX0 (UF lY wk.own.wle))).mono (qq (Y:=Yk));have lY5:Yk.le (grow Yk h3 h5):=bo wk.own.wle;generalize grow Yk h3 h5=Y5 at *;refine w5.db (k:=(1,0)) (α:=EndR) NK (D:=endR fn ve) (d:=⟨u5⟩) (by rw[mO];exact h10') U0 U2 U2 (gG.2 ⟨rfl,(jN.1 s5).1.flat⟩) λh6 w6=>?_;rw[yn,<-ho1,Bv]at w6;have w6:Held n X Y5 h6 (layO X0 (o.upd (1,0) (bx T.eS Be (endR fn u5))) Bm pv iv' iv' fin (ins++code) Bt temp Bn many):=w6;subst hy;obtain⟨ux,hux,rux⟩:=w6.own.ldB (k:=(1,0)) (B:=Be) (d:=endR fn u5) (by rw[mO];exact Own.ao) rfl (N:=5) rfl;have rux:=H8 rux s5;simp[hux];refine w6.db (k:=(0,0)) (α:=lu X0) OA (D:=⟨⟨pv⟩,⟨⟨iv'⟩,fin⟩⟩) (d:=fn) Fi U0 U2 U2 rux λh8 w8=>?_;rw[Hc]at w8;refine fin_ h8 Y5 fn _ lY5 (w8.sub (zf h10)) (by rw[if_pos ci]) ?_;simp[ij,jR]
 have ci2:¬((i:Int)=((nth f.blocks b).ins.length:Int)):=by omega
 simp[cin3,sn,ci2];refine fin_ h3 Yk fin _ UE (wk.sub (by rw[<-ho1];exact zf h10)) (by rw[if_neg ci]) ?_;simp[ij,jR]
variable{po po2:OP}
section
variable{W:View}{h h':Heap}{o:Own}{k:Key}
theorem Owns.nN{P:Program}{ty:TypeId}{us:List (Nat × Value)}{α:Type}[Rep α]{t:TypeId}{z:Value}{d:α}{K:Value->Heap->Prop}(w:Owns W h o)(hk:o k=UL)(hz:(P.info? t).map (·.zero)=UK (UK z))(hr:Rd W z d)(hn:Rep.n α<=1000)
  (hK : ∀h':Heap,(vw h).le (vw h')->Owns W h' (o.upd k (bx t h.size d))->K (ptz h.size) h'):@step po P (.alloc t) ty us h K:=by
 refine dK hz ?_;have q1:=bQ h (.cells z.cells t);have b2:(h.push (.cells z.cells t))[h.size]? = UK (.cells z.cells t (0,0)):=by simp
 generalize h.push (.cells z.cells t)=h2 at q1 b2;exact hK h2 q1 (w.add hk (iu (v:=z) b2 hr hn) q1 λb hb=>by simp only[Value.ownBlock,Q2]at hb;omega)
theorem Owns.F4{α:Type}[Rep α]{e:TypeId}(w:Owns W h o)(hk:o k=UL):Owns W h (o.upd k (it e (UM UL 0 0) ([]:List α))):=
 w.add hk (OwnT.nil (α:=α) W h e) UE λb hb=>by simp[Value.ownBlock]at hb
theorem Owns.P5{α:Type}[r:Rep α]{e:TypeId}{B:Nat}{d:α}{v:Value}(w:Owns W h o)(hk:o k=bx e B d)(hn:v.ownBlock≠UK B)(ha:Av W v):At (but v h) ⟨B,0,.none⟩ d:=by obtain⟨cs,⟨cur,t,fz,h1,h2,h3⟩,h4⟩:=w.atW hk;refine⟨cs,⟨cur,t,fz,h1,?_,h3⟩,Rep.mono (Fc w.wle ha) h4⟩;show but v h B=_;unfold but;rw[if_neg hn];exact h2
theorem Et{v x:Value}{B i:Nat}(hc:an (vw h) ⟨B,i,UL⟩=UK x)(hn:v.ownBlock≠UK B):an (but v h) ⟨B,i,UL⟩=UK x:=by
 have e:but v h B=(vw h) B:=by unfold but;rw[if_neg hn];rfl
 unfold an at *;simp only at *;rw[e];exact hc
end
theorem Owns.Qc{W:View}{h h':Heap}{o:Own}{n:Nat}(w:Owns W h o)(hs:nC n h h'):Owns W.bT h' o:=by
 have hb : ∀b x,W.bT b=UK x->h'[b]? = UK x:=λb x hx=>by
  have h1:=View.mB _ _ hx;have h2:h[b]? = UK x:=w.wle b x h1;rw[hs.same b (.inr λe=>?_)]
  ·exact h2
  rw[h2]at e;cases e;unfold View.bT at hx;rw[h1]at hx;cases hx
 refine⟨hb,λk i hk=>?_,λk i hk b hbb=>?_,w.dj⟩
 ·obtain⟨bd,xs,h1,h2⟩:=w.own k i hk;refine⟨bd,xs,⟨h1.1,?_⟩,λj hj=>i.rep.bT (h2 j hj)⟩;rcases h1.2 with e | ⟨g,cap,cur,e1,e2,e3⟩
  ·exact .inl e
  exact .inr ⟨g,cap,cur,e1,(hs.same g (.inr (by rw[e2];simp))).trans e2,e3⟩
 have:=w.av k i hk b hbb;unfold View.bT;rw[this]
end Go.Lft
namespace Go.Lft
section
variable{f:ak}{b:Nat}{l:List aO}
theorem qZ{p t:Int}(h:(dx f b l).best p=UK t):0<=t/\t<l.length:=by
 have key : ∀p t,(dx f b l).best p=UK t->0<=t/\t<l.length:=by
  refine uK (λs:CB=>∀p t,s.best p=UK t->0<=t/\t<l.length) (λk s hk hs=>?_) (λ_ _ e=>nomatch e);unfold plc8;split
  ·split<;>exact hs
  refine uK (λs:CB=>∀p t,s.best p=UK t->0<=t/\t<l.length) (λj q hj hq=>?_) hs;unfold cD;split
  ·exact hq
  split
  ·intro p t e;simp only[putM]at e;split at e
   ·cases e;omega
   exact hq p t e
  exact hq
 exact key p t h
theorem zJ(h:(ja l).1=0){t:aO}(ht:t∈l):0<=t.cost/\t.cost<=1000:=by
 unfold ja at h;split at h
 ·cases h
 have:=pQ h t ht;unfold eI at this;split at this
 ·cases this
 split at this
 ·cases this
 rename_i c;simp[inR]at c;exact c
theorem Ah(h:(ja l).1=0){t:aO}(ht:t∈l):I64 t.pat:=by have:=As h ht;simp[inR]at this;constructor<;>omega
structure LayB(s0 s:lk)(k:Nat):Prop where
 t0:s0.temp<=s.temp
 t1:s.temp<=s0.temp+k
 c0:s0.cost<=s.cost
 c1:s.cost<=s0.cost+1000*k
 n:s.blk.ins.length<=s0.blk.ins.length+2*k
 p:s.blk.phis=s0.blk.phis
theorem LayB.refl{s:lk}:LayB s s 0:=⟨SR _,by omega,SR _,by omega,by omega,rfl⟩
theorem PN(hsm:SmF f)(hb:b<f.blocks.length)(hcl : ∀t∈l,0<=t.cost/\t.cost<=1000){s0 s:lk}{k i:Nat}(h:LayB s0 s k):LayB s0 (jA f b l s i) (k+1):=by
 have step : ∀{pat:Int} {q:lk},q.temp=s.temp->q.blk=s.blk->0<=q.cost-s.cost->q.cost-s.cost<=1000->LayB s0 (layS f b i pat q) (k+1):=fun{pat q} e1 e2 e3 e4=>by
  have hc:=(KP (i:=i) (pat:=pat) (temp:=q.temp) hsm hb).1;obtain⟨h1,h2,h3,h4,h5,h6⟩:=h;refine⟨?_,?_,?_,?_,?_,?_⟩
  ·show s0.temp<=(if pat=26\/pat=30 then q.temp+1 else q.temp);split<;>omega
  ·show(if pat=26\/pat=30 then q.temp+1 else q.temp)<=s0.temp+((k+1:Nat):Int);split<;>omega
  ·show s0.cost<=q.cost;omega
  ·show q.cost<=_;omega
  ·show(q.blk.ins++_).length<=_;rw[Rl,e2];omega
  show q.blk.phis=_;rw[e2];exact h6
 unfold jA;split
 ·exact step rfl rfl U1 U1
 rename_i t ht;obtain⟨q1,q2⟩:=qZ ht;have:=hcl _ (bF (l:=l) (i:=t.toNat) U1);exact step rfl rfl (by show 0<=s.cost+_-s.cost;omega) (by show s.cost+_-s.cost<=1000;omega)
theorem I9(hsm:SmF f)(hb:b<f.blocks.length)(hcl : ∀t∈l,0<=t.cost/\t.cost<=1000){s0:lk} : ∀{r:List Nat} {s:lk} {k:Nat},LayB s0 s k->LayB s0 (r.foldl (jA f b l) s) (k+r.length)
 | [],s,k,h=>h
 | a::r,s,k,h=>by have:=I9 hsm hb hcl (r:=r) (PN (i:=a) hsm hb hcl h);rw[RG,RZ,show k+(r.length+1)=k+1+r.length by omega];exact this
theorem wc:(fI f b l).length<=(nth f.blocks b).ins.length+1:=by unfold fI;have:=TV (λi:Nat=>!inn8 f b l (i:Int)) (List.range ((nth f.blocks b).ins.length+1));rw[List.length_range]at this;exact this
end
def lay0(f:ak)(b:Nat)(s:FnSt):lk:=⟨s.temp,s.cost,s.many,⟨(nth f.blocks b).phis,[],dc⟩⟩
def fnOf(s:FnSt)(r:lk):FnSt:=⟨r.temp,r.cost,r.many,s.out++[r.blk]⟩
def od(f:ak)(l:List aO)(b:Nat)(s:FnSt)(k:Nat):lk:=((fI f b l).take k).foldl (jA f b l) (lay0 f b s)
theorem Mm{f:ak}{l:List aO}{b:Nat}{s:FnSt}:CA f l b s=fnOf s (od f l b s (fI f b l).length):=by unfold CA od fnOf;rw[D8,RR];rfl
def fnAt(f:ak)(l:List aO)(k:Nat):FnSt:=Lft.up (CA f l) k ⟨topS f,0,UP,[]⟩
theorem FG{f:ak}{l:List aO}{b k i:Nat}{s:FnSt}(h:(fI f b l)[k]? = UK i):od f l b s (k+1)=jA f b l (od f l b s k) i:=tQ h
theorem AI{f:ak}{l:List aO}{k:Nat}:fnAt f l (k+1)=fnOf (fnAt f l k) (od f l k (fnAt f l k) (fI f k l).length):=Mm
section
variable{f:ak}{l:List aO}
theorem CC{b k:Nat}{s:FnSt}(hsm:SmF f)(hb:b<f.blocks.length)(hcl : ∀t∈l,0<=t.cost/\t.cost<=1000)(hk:k<=(fI f b l).length):LayB (lay0 f b s) (od f l b s k) k:=by have:=I9 hsm hb hcl (r:=(fI f b l).take k) (LayB.refl (s:=lay0 f b s));rw[RO,Sv hk,R1]at this;exact this
theorem Jn(hsm:SmF f)(hcl : ∀t∈l,0<=t.cost/\t.cost<=1000) : ∀{k:Nat},k<=f.blocks.length->0<=(fnAt f l k).temp/\(fnAt f l k).temp<=8192+10001*k/\0<=(fnAt f l k).cost/\(fnAt f l k).cost<=10001000*k/\(fnAt f l k).out.length=k
 | 0,_=>by have:=GM (f:=f);exact⟨this.1,by show topS f<=_;omega,SR _,by show(0:Int)<=_;omega,rfl⟩
 | k+1,h=>by
  obtain⟨h1,h2,h3,h4,h5⟩:=Jn hsm hcl (k:=k) U1;have q:=CC (s:=fnAt f l k) hsm (b:=k) U1 hcl (Q4 _);have hr:=wc (f:=f) (b:=k) (l:=l);have hi:=(hsm.blk k U1).ins;rw[AI];generalize od f l k (fnAt f l k) (fI f k l).length=r at *;obtain⟨q1,q2,q3,q4,q5,q6⟩:=q;have q1:(fnAt f l k).temp<=r.temp:=q1;have q2:r.temp<=(fnAt f l k).temp+((fI f k l).length:Int):=q2;have q3:(fnAt f l k).cost<=r.cost:=q3;have q4:r.cost<=(fnAt f l k).cost+1000*((fI f k l).length:Int):=q4;refine⟨?_,?_,?_,?_,?_⟩
  ·show 0<=r.temp;omega
  ·show r.temp<=_;omega
  ·show 0<=r.cost;omega
  ·show r.cost<=_;omega
  show(_++[_]).length=_;rw[Rl,h5];rfl
end
abbrev OutD:=Cat Int Raw
theorem GY:Part OutD Raw 1 (λd=>d.b) (λd x=>⟨d.a,x⟩):=(Part.snd Part.all).via (λ_=>rfl) λ_ _=>rfl
def fnO(X0:View)(oo:Own)(R Bo Bc Bt Bn:Nat)(params:Int)(ov rv:Value)(blks:List dS)(cost temp:Int)(many:Bool):Own:=λk=>
 if k=(0,3) then bx T.int Bt temp else if k=(0,4) then bx T.int Bc cost else if k=(0,5) then bx T.bool Bn many else if k=(0,6) then bx T.gN Bo (⟨params,⟨ov⟩⟩:OutD) else if k=(0,7) then it (α:=fw X0) T.dU rv blks
 else if k=(2,0) then bx T.gN R (⟨0,⟨UM UL 0 0⟩⟩:OutD) else oo k
def blkO(X0:View)(oo:Own)(R Bo Bc Bt Bn:Nat)(params:Int)(ov:Value)(blks:List dS)(cost temp:Int)(many:Bool)(Bm:Nat)(pv rp iv rv:Value)(phis:List PhiD)(fin:EndD)(ins:List bz):Own:=
 layO X0 ((fnO X0 oo R Bo Bc Bt Bn params ov ov blks cost temp many).upd (0,1) (it (α:=PhiN X0) T.fM rp phis)) Bm pv iv rv fin ins Bt temp Bn many
section
variable{X0:View}{oo:Own}{R Bo Bc Bt Bn Bm:Nat}{params:Int}{ov rv pv rp iv ri:Value}{blks:List dS}{cost temp:Int}{many:Bool}{phis:List PhiD}{fin:EndD}{ins:List bz}
theorem Dn{t2:Int}{n2:Bool}{fin2:EndD}{ins2:List bz}:layO X0 ((fnO X0 oo R Bo Bc Bt Bn params ov ov blks cost temp many).upd (0,1) (it (α:=PhiN X0) T.fM rp phis)) Bm pv iv rv fin2 ins2 Bt t2 Bn n2=blkO X0 oo R Bo Bc Bt Bn params ov blks cost t2 n2 Bm pv rp iv rv phis fin2 ins2:=by
 funext k;unfold blkO layO fnO Own.upd;by_cases c3:k=(0,3)
 ·subst c3;rfl
 by_cases c5:k=(0,5)
 ·subst c5;rfl
 simp only[if_neg c3,if_neg c5]
theorem H5{c2:Int}:(blkO X0 oo R Bo Bc Bt Bn params ov blks cost temp many Bm pv rp iv rv phis fin ins).upd (0,4) (bx T.int Bc c2)=blkO X0 oo R Bo Bc Bt Bn params ov blks c2 temp many Bm pv rp iv rv phis fin ins:=by
 funext k;unfold blkO layO fnO Own.upd;by_cases c4:k=(0,4)
 ·subst c4;rfl
 simp only[if_neg c4]
theorem HJ{pv2 rp2:Value}{phis2:List PhiD}:((blkO X0 oo R Bo Bc Bt Bn params ov blks cost temp many Bm pv rp iv rv phis fin ins).upd (0,1) (it (α:=PhiN X0) T.fM rp2 phis2)).upd (0,0) (bx T.dU Bm (⟨⟨pv2⟩,⟨⟨iv⟩,fin⟩⟩:lu X0))=blkO X0 oo R Bo Bc Bt Bn params ov blks cost temp many Bm pv2 rp2 iv rv phis2 fin ins:=by
 funext k;unfold blkO layO fnO Own.upd;by_cases c0:k=(0,0)
 ·subst c0;rfl
 by_cases c1:k=(0,1)
 ·subst c1;rfl
 simp only[if_neg c0,if_neg c1]
theorem LN:(((fnO X0 oo R Bo Bc Bt Bn params ov ov blks cost temp many).upd (0,0) (bx T.dU Bm (⟨⟨pv⟩,⟨⟨iv⟩,fin⟩⟩:lu X0))).upd (0,1) (it (α:=PhiN X0) T.fM rp phis)).upd (0,2) (it (α:=jL X0) T.cT ri ins)=blkO X0 oo R Bo Bc Bt Bn params ov blks cost temp many Bm pv rp iv ri phis fin ins:=by
 funext k;unfold blkO layO fnO Own.upd;by_cases c2:k=(0,2)
 ·subst c2;rfl
 by_cases c1:k=(0,1)
 ·subst c1;rfl
 by_cases c0:k=(0,0)
 ·subst c0;rfl
 by_cases c3:k=(0,3)
 ·subst c3;rfl
 by_cases c5:k=(0,5)
 ·subst c5;rfl
 simp only[if_neg c0,if_neg c1,if_neg c2,if_neg c3,if_neg c5]
theorem Hy(ho : ∀q:Key,q.1<10->oo q=UL) : ∀k i,fnO X0 oo R Bo Bc Bt Bn params ov ov blks cost temp many k=UK i->((blkO X0 oo R Bo Bc Bt Bn params ov blks cost temp many Bm pv rp iv rv phis fin ins).upd (0,1) UL).upd (0,2) UL k=UK i:=λk i hk=>by
 unfold fnO at hk;unfold blkO layO fnO Own.upd;by_cases c2:k=(0,2)
 ·subst c2;have:=(ho (0,2) U3).symm.trans hk;cases this
 by_cases c1:k=(0,1)
 ·subst c1;have:=(ho (0,1) U3).symm.trans hk;cases this
 by_cases c0:k=(0,0)
 ·subst c0;have:=(ho (0,0) U3).symm.trans hk;cases this
 by_cases c3:k=(0,3)
 ·subst c3;exact hk
 by_cases c5:k=(0,5)
 ·subst c5;exact hk
 simp only[if_neg c0,if_neg c1,if_neg c2,if_neg c3,if_neg c5]at hk ⊢;exact hk
theorem K9{ov2 rv2:Value}{blks2:List dS}:((fnO X0 oo R Bo Bc Bt Bn params ov rv blks cost temp many).upd (0,7) (it (α:=fw X0) T.dU rv2 blks2)).upd (0,6) (bx T.gN Bo (⟨params,⟨ov2⟩⟩:OutD))=fnO X0 oo R Bo Bc Bt Bn params ov2 rv2 blks2 cost temp many:=by
 funext k;unfold fnO Own.upd;by_cases c6:k=(0,6)
 ·subst c6;rfl
 by_cases c7:k=(0,7)
 ·subst c7;rfl
 simp only[if_neg c6,if_neg c7]
end
theorem KU{X0:View}{oo:Own}(ho : ∀q:Key,q.1<10->oo q=UL){R Bo Bc Bt Bn:Nat}{params:Int}{ov rv:Value}{blks:List dS}{cost temp:Int}{many:Bool}{x:Option Lft.Item} : ∀k i,oo k=UK i->(((fnO X0 oo R Bo Bc Bt Bn params ov rv blks cost temp many).upd (2,0) x).upd (2,0) UL) k=UK i:=λk i hk=>by
 have hne : ∀q:Key,q.1<10->k≠q:=λq hq e=>by subst e;rw[ho _ hq]at hk;cases hk
 have h1:=hne (2,0) U3;have h2:=hne (0,3) U3;have h3:=hne (0,4) U3;have h4:=hne (0,5) U3;have h5:=hne (0,6) U3;have h6:=hne (0,7) U3;simp only[fnO,Own.upd,if_neg h1,if_neg h2,if_neg h3,if_neg h4,if_neg h5,if_neg h6];exact hk
theorem LK{X0 W:View}{u pv iv:Value}{phis:List PhiD}{ins:List bz}{fin:EndD}(h:Rd W u (⟨⟨pv⟩,⟨⟨iv⟩,fin⟩⟩:lu X0))(s1:Rd (α:=NRow nothing T.fM (PhiN X0)) W pv phis)(s2:Rd (α:=NRow nothing T.cT (jL X0)) W iv ins):Rd (α:=fw X0) W u ⟨phis,ins,fin⟩:=by unfold Rd at h ⊢;rw[if_pos (show Rep.agg (lu X0)=UO from rfl)]at h;rw[if_pos (show Rep.agg (fw X0)=UO from rfl)];obtain⟨cs,rfl,c1,c2,e,⟨h1,-⟩,c3,c4,e2,⟨h3,-⟩,h4⟩:=h;subst h1 h3;exact⟨cs,rfl,[pv],c2,e,s1.one1 rfl,[iv],c4,e2,s2.one1 rfl,h4⟩
theorem Ou{X0 W:View}{u ov:Value}{params:Int}{blks:List dS}(h:Rd W u (⟨params,⟨ov⟩⟩:OutD))(s1:Rd (α:=NRow nothing T.dU (fw X0)) W ov blks):Rd (α:=MFnN X0) W u ⟨params,blks⟩:=by unfold Rd at h ⊢;rw[if_pos (show Rep.agg OutD=UO from rfl)]at h;rw[if_pos (show Rep.agg (MFnN X0)=UO from rfl)];obtain⟨cs,rfl,c1,c2,e,h1,h3,-⟩:=h;subst h3;exact⟨cs,rfl,c1,[ov],e,h1,s1.one1 rfl⟩
variable{W:View}
theorem Ks:Rd W (.agg #[UM UL 0 0,UM UL 0 0,UH UI 0,UM UL 0 0,UM UL 0 0,UH UJ 0]) (⟨[],[],⟨0,[],[],⟨0⟩⟩⟩:BlkD):=by unfold Rd;rw[if_pos (show Rep.agg BlkD=UO from rfl)];exact⟨_,rfl,[_],[_,_,_,_,_],rfl,⟨_,rfl,aS⟩,[_],[_,_,_,_],rfl,⟨_,rfl,aS⟩,[_],[_,_,_],rfl,⟨rfl,by decide⟩,[_],[_,_],rfl,⟨_,rfl,aS⟩,[_],[_],rfl,⟨_,rfl,aS⟩,rfl,by decide⟩
abbrev NY:List Value:=[UM UL 0 0,UM UL 0 0,UH UI 0,UH UI 0,UH UI 0,UM UL 0 0,UH UJ 0]
theorem E2:-9223372036854775808<=(0:Int)/\(0:Int)<=9223372036854775807:=by decide
theorem OL:-2147483648<=(0:Int)/\(0:Int)<=2147483647:=by decide
theorem Kn{X0:View}:Rd W (.agg NY.toArray) (⟨⟨UM UL 0 0⟩,⟨⟨UM UL 0 0⟩,dc⟩⟩:lu X0):=by unfold Rd;rw[if_pos (show Rep.agg (lu X0)=UO from rfl)];exact⟨_,rfl,[_],[_,_,_,_,_,_],rfl,⟨rfl,rfl⟩,[_],[_,_,_,_,_],rfl,⟨rfl,rfl⟩,(show @Rep.rd (EndN X0) _ _ [_,_,_,_,_] dc from⟨[_],_,rfl,⟨rfl,E2⟩,[_],_,rfl,⟨rfl,E2⟩,[_],_,rfl,⟨rfl,E2⟩,[_],[_],rfl,sf.one1 rfl,⟨rfl,OL⟩⟩)⟩
theorem uR{n:Int}(h:I64 n):Rd W (.agg #[UH UI n,UM UL 0 0]) (⟨n,⟨UM UL 0 0⟩⟩:OutD):=by unfold Rd;rw[if_pos (show Rep.agg OutD=UO from rfl)];exact⟨_,rfl,[_],[_],rfl,⟨rfl,h⟩,rfl,rfl⟩
variable{vl:Value}
set_option maxHeartbeats 8000000 in
theorem rL{f:ak}{l:List aO}{v:Value}{h:Heap}{oo:Own}(w0:Owns W h oo)(ho : ∀q:Key,q.1<10->oo q=UL)(hv:Rd W v f)(hl:SlRd W vl l)(hsm:SmF f)(ht:Tab h)(hM:ib):
  ay UQ 14 #[v,vl] h (λu h'=>∃W' vm,W.bT.le W'/\W.le (vw h')/\Owns W' h' oo/\u = .tuple #[vm,UH UI (gW f l).cost,UH UI (gW f l).err]/\Rd (α:=MFnN W) W' vm ((gW f l).code)):=by
 refine rU (args:=[v,vl]) follows Tryz.func14 E.gR UC λK hK=>?_;dsimp only[L.gR,lkF,lkG];have hlen:=hsm.len;refine aa λz hz=>?_;simp;refine w0.uU (α:=ak) rfl hv λBf h1 W1 hW1 w1 atF hle1=>?_;refine w1.uU (α:=List aO) rfl (dD.2 (hl.mono hW1)) λBl h2 W2 hW2 w2 atL hle2=>?_;refine w2.nN (k:=(2,0)) (α:=OutD) (z:=zz4) (d:=⟨0,⟨UM UL 0 0⟩⟩) (ho _ U3) U0 (uR ⟨U3,U3⟩) U3 λh3 hle3 w3=>?_;generalize h2.size=R at w3 ⊢;have hWh:=w0.wle;have out_ : ∀(h5:Heap) (W6:View) (o6:Own) (p:Int) (ov:Value) (blks:List dS) (c e:Int) (ρ:Env),W.le W6->Owns W6 h5 o6->(∀k i,oo k=UK i->o6 k=UK i)->At W6 ⟨R,0,UL⟩ (⟨p,⟨ov⟩⟩:OutD)->Rd (α:=NRow nothing T.dU (fw W)) W6 ov blks->gW f l=⟨⟨p,blks⟩,c,e⟩->
   Lft.look ρ 4=UK (ptz R)->Lft.look ρ 5=UK (UH UI c)->Lft.look ρ 6=UK (UH UI e)->BR h.size [.un (.bM 2) (.tmp 4),.tmp 5,.tmp 6] K .ret ρ h5:=by
  intro h5 W6 o6 p ov blks c e ρ hW6 w6 hsub aR s hch g4 g5 g6;rw[hch]at hK;intro h6 hsw;have w7:=w6.Qc hsw;obtain⟨ur,hur,rur⟩:=aR.bT.ldN rfl (N:=2) rfl;refine⟨[ur,UH UI c,UH UI e],by simp[g4,g5,g6,hur _ w7.wle],hK _ _ ⟨W6.bT,ur,λb x hb=>?_,λb x hb=>?_,w7.sub hsub,rfl,Ou rur s.bT⟩⟩
  ·have h1:=View.mB _ _ hb;have h2:=hW6 b x h1;unfold View.bT at hb ⊢;rw[h2];rw[h1]at hb;exact hb
  have hlt:=View.lt hWh hb;show h6[b]? = UK x;rw[hsw.same b (.inl hlt)];exact w6.wle b x (hW6 b x hb)
 have atF:=atF.mono hW2;have l03:=UF hle1 (UF hle2 hle3);have lW2:=UF hW1 hW2;obtain⟨uF,huF,rF⟩:=atF.ldN rfl (N:=2) rfl;obtain⟨vl2,cl,sl⟩:=atL.list;subst hz;refine aa λz hz=>?_;simp[huF _ w3.wle,ae w3.wle cl];refine ah U0 (Am w3.wle sl rF hsm (ht.mono l03) (λ_ _ _=>hM) (λhr=>GA (kv hr) hsm (qC rF))) ?_;rintro _ h4 ⟨hle4,rfl⟩;have w4:=w3.ext hle4;have lW4:W2.le (grow W2 h3 h4):=bo w3.wle;generalize grow W2 h3 h4=W4 at *;have l0W4:=UF lW2 lW4;simp;subst hz;refine aa λz hz=>?_;clear w0 w1 w2 w3 hle1 hle2 hle3 hle4 hW1 hW2;by_cases ce:(eZ l f).1=0;rotate_left
 ·have e:gW f l=noCh (eZ l f).1:=by unfold gW;rw[if_pos ce]
  simp[ce];refine aA (t:=T.gN) (z:=zz4) (places:=zpd) (vs:=[]) (cs:=#[UH UI 0,UM UL 0 0]) U0 U0 U2 U0 ?_;refine w4.db (k:=(2,0)) (α:=OutD) Part.all (D:=⟨0,⟨UM UL 0 0⟩⟩) (d:=⟨0,⟨UM UL 0 0⟩⟩) Own.ao U0 U2 U2 (uR ⟨U3,U3⟩) λh5 w5 _=>?_;obtain⟨W6,lW6,w6,aR⟩:=w5.jT (k:=(2,0)) (α:=OutD) (e:=T.gN) (B:=R) (d:=⟨0,⟨UM UL 0 0⟩⟩) Own.ao;refine out_ h5 W6 _ 0 (UM UL 0 0) [] 0 (eZ l f).1 _ (UF l0W4 lW6) w6 (λk i hk=>?_) aR (sf (α:=fw W)) e rfl rfl rfl;by_cases c:k=(2,0)
  ·subst c;have:=(ho (2,0) U3).symm.trans hk;cases this
  rw[Own.aB c,Own.aB c,Own.aB c];exact hk
 obtain⟨tb0,hrt,-⟩:=y8 ce;have hok:Okf f:=⟨kv hrt,hsm,qC rF⟩;have hcl : ∀t∈l,0<=t.cost/\t.cost<=1000:=λt ht=>zJ tb0 ht;have hpat : ∀t∈l,I64 t.pat:=λt ht=>Ah tb0 ht;have atF:=atF.mono lW4;have atL:=atL.mono lW4;have huF:=λK hK=>huF K (UF lW4 hK);have rF:=rF.mono lW4;have cl:=ae lW4 cl;have sl:=sl.mono lW4;clear lW4;obtain⟨cp,vb,cb,sb⟩:=eU atF;have rp:I64 f.params:=(atF.part ak.zY).rng;simp[ce];subst hz;refine aa λz hz=>?_;simp[ae w4.wle cp];refine aA (t:=T.gN) (z:=zz4) (places:=zpd) (vs:=[(0,UH UI f.params)]) (cs:=#[UH UI f.params,UM UL 0 0]) U0 U0 U2 U0 ?_;refine w4.pY (k:=(0,6)) (α:=OutD) (n:=2) ((Own.aB U2).trans (ho _ U3)) (uR rp) rfl (z:=zz4) U0 rfl U0 U3 U5 U5 λh5 hle5 w5=>?_;generalize h4.size=Bo at w5 ⊢;subst hz;refine aa λz hz=>?_;simp[huF _ w5.wle];refine ah U0 (Of (rF.mono w5.wle) hsm) ?_;rintro _ h6 ⟨rfl,hle6⟩;have w6:=w5.ext hle6;have lW6:W4.le (grow W4 h5 h6):=bo w5.wle;generalize grow W4 h5 h6=W6 at *;refine w6.nN (k:=(0,3)) (α:=Int) (d:=0) (z:=UH UI 0) (ho (0,3) U3) U0 (bw.2 ⟨rfl,by decide,by decide⟩) U3 λh7 hle7 w7=>?_;generalize h6.size=Bt at w7 ⊢;refine w7.nN (k:=(0,4)) (α:=Int) (d:=0) (z:=UH UI 0) (ho (0,4) U3) U0 (bw.2 ⟨rfl,by decide,by decide⟩) U3 λh8 hle8 w8=>?_;generalize h7.size=Bc at w8 ⊢;refine w8.nN (k:=(0,5)) (α:=Bool) (d:=false) (z:=.bool UP) (ho (0,5) U3) U0 (qn.2 rfl) U3 λh9 hle9 w9=>?_;generalize h8.size=Bn at w9 ⊢;have tr:=GM (f:=f);refine w9.db (k:=(0,3)) (α:=Int) Part.all (D:=0) (d:=topS f) rfl U0 U2 U2 (bw.2 ⟨rfl,by omega,by omega⟩) λh10 w10 _=>?_;refine w10.db (k:=(0,4)) (α:=Int) Part.all (D:=0) (d:=0) rfl U0 U2 U2 (bw.2 ⟨rfl,by decide,by decide⟩) λh11 w11 _=>?_;refine w11.db (k:=(0,5)) (α:=Bool) Part.all (D:=false) (d:=false) rfl U0 U2 U2 (qn.2 rfl) λh12 w12 _=>?_;have w12:=w12.F4 (k:=(0,7)) (α:=fw W) (e:=T.dU) (ho (0,7) U3);have w12:Owns W6 h12 (fnO W oo R Bo Bc Bt Bn f.params (UM UL 0 0) (UM UL 0 0) [] 0 (topS f) UP):=w12.sub λk i hk=>by
  unfold fnO at hk;by_cases c3:k=(0,3)
  ·subst c3;exact hk
  by_cases c4:k=(0,4)
  ·subst c4;exact hk
  by_cases c5:k=(0,5)
  ·subst c5;exact hk
  by_cases c6:k=(0,6)
  ·subst c6;exact hk
  by_cases c7:k=(0,7)
  ·subst c7;exact hk
  by_cases c2:k=(2,0)
  ·subst c2;exact hk
  rw[if_neg c3,if_neg c4,if_neg c5,if_neg c6,if_neg c7,if_neg c2]at hk;simp only[Own.upd,if_neg c3,if_neg c4,if_neg c5,if_neg c6,if_neg c7,if_neg c2];exact hk
 clear w4 w5 w6 w7 w8 w9 w10 w11 hle5 hle6 hle7 hle8 hle9;have atF:=atF.mono lW6;have huF:=λK hK=>huF K (UF lW6 hK);have rF:=rF.mono lW6;have cl:=ae lW6 cl;have sl:=sl.mono lW6;have cb:=ae lW6 cb;have sb:=sb.mono lW6;have l06:=UF l0W4 lW6;clear lW6 l0W4 atL;subst hz;refine aa λz hz=>?_;have sbn : ∀{K:View},Un.ev K .len vb=UK (UH UI f.blocks.length):=sb.len;simp[ae w12.wle cb,sbn];refine aG [2,3,4,10,11,12,13,41,42,43] (fun(_:Unit) k=>[ptz Bf,ptz Bl,ptz R,ptz Bo,ptz Bt,ptz Bc,ptz Bn,vb,UH UI f.blocks.length,UH UI k])
  (λ_ k hx=>∃Wk ov,W6.le Wk/\Owns Wk hx (fnO W oo R Bo Bc Bt Bn f.params ov ov (fnAt f l k).out (fnAt f l k).cost (fnAt f l k).temp (fnAt f l k).many)) f.blocks.length ()
  U0 U1 (by simp[aX,af,ag]) ⟨W6,_,View.le_refl _,w12⟩ (λ_ _=>rfl) (λv i h1 hk m=>by simp) ?_ ?_
 ·clear w12;rintro _ b h13 hb ⟨Wk,ov,lWk,wk⟩ K2 hK2;have hb:b<f.blocks.length:=hb;obtain⟨fb1,fb2,fb3,fb4,fb5⟩:=Jn (l:=l) hsm hcl (k:=b) U1;have hbk:=hsm.blk b hb;have hil:=hbk.ins;have hfs:=AI (f:=f) (l:=l) (k:=b);generalize fnAt f l b=S at *;have sbk:=sb.mono lWk;obtain⟨ux,hux,rux⟩:=sbk.wh rfl (N:=6) rfl hb;have qt:=(sbk.mono wk.wle).idxn (k:=.i64) (N:=6) rfl (i:=(b:Int)) U1 U1;simp at qt;refine dC ?_;refine aa λy hy=>?_;simp[qt,hux _ wk.wle];refine wk.nN (k:=(3,0)) (α:=Int) (d:=0) (z:=UH UI 0) (ho (3,0) U3) U0 (bw.2 ⟨rfl,by decide,by decide⟩) U3 λh14 hle14 w14=>?_;generalize h13.size=Bk at w14 ⊢;refine w14.nN (k:=(3,1)) (α:=BlkD) (z:=zz3) (ho (3,1) U3) U0 Ks U3 λh15 hle15 w15=>?_;generalize h14.size=Bb at w15 ⊢;refine w15.db (k:=(3,0)) (α:=Int) Part.all (D:=0) (d:=(b:Int)) rfl U0 U2 U2 (bw.2 ⟨rfl,by omega,by omega⟩) λh16 w16 _=>?_;refine w16.db (k:=(3,1)) (α:=BlkD) Part.all (D:=⟨[],[],⟨0,[],[],⟨0⟩⟩⟩) (d:=nth f.blocks b) rfl U0 U2 U2 rux λh17 w17 _=>?_;obtain⟨W18,lW18,w18,atK⟩:=w17.jT (k:=(3,0)) (α:=Int) (d:=(b:Int)) (e:=T.int) (B:=Bk) rfl;obtain⟨W19,lW19,w19,atB⟩:=w18.jT (k:=(3,1)) (α:=BlkD) (d:=nth f.blocks b) (e:=T.e9) (B:=Bb) rfl;have w19:Owns W19 h17 (fnO W oo R Bo Bc Bt Bn f.params ov ov S.out S.cost S.temp S.many):=w19.sub λk i hk=>by
   by_cases c0:k=(3,0)
   ·subst c0;have:=(ho (3,0) U3).symm.trans hk;cases this
   by_cases c1:k=(3,1)
   ·subst c1;have:=(ho (3,1) U3).symm.trans hk;cases this
   simp only[Own.upd,if_neg c0,if_neg c1];exact hk
  have ck:=ae lW19 atK.int;have lK:=UF lWk (UF lW18 lW19);clear wk w14 w15 w16 w17 w18 lWk lW18 lW19 hux rux qt hle14 hle15 atK sbk;subst hy;refine aa λy hy=>?_;simp;refine w19.nN (k:=(0,0)) (α:=lu W) (z:=.agg NY.toArray) (d:=⟨⟨UM UL 0 0⟩,⟨⟨UM UL 0 0⟩,dc⟩⟩) (ho (0,0) U3) U0 Kn (by show 7<=1000;decide) λh20 hle20 w20=>?_;generalize h17.size=Bm at w20 ⊢;have w20:=(w20.F4 (k:=(0,1)) (α:=PhiN W) (e:=T.fM) (ho (0,1) U3)).F4 (k:=(0,2)) (α:=jL W) (e:=T.cT) (ho (0,2) U3);have w20:Owns W19 h20 (blkO W oo R Bo Bc Bt Bn f.params ov S.out S.cost S.temp S.many Bm (UM UL 0 0) (UM UL 0 0) (UM UL 0 0) (UM UL 0 0) [] dc []):=w20.congr λq=>(congrFun LN q).symm;clear w19 hle20;subst hy;refine aa λy hy=>?_;obtain⟨vph,cph,sph⟩:=(atB.part BlkD.qw).list;simp at cph;have sphn : ∀{K:View},Un.ev K .len vph=UK (UH UI (nth f.blocks b).phis.length):=sph.len;have hpn:=hbk.phis;simp[ae w20.wle cph,sphn];refine aG [2,3,4,10,11,12,13,14,15,16,41,42,43,49,50,51] (fun(_:Unit) j=>[ptz Bf,ptz Bl,ptz R,ptz Bo,ptz Bt,ptz Bc,ptz Bn,ptz Bk,ptz Bb,ptz Bm,vb,UH UI f.blocks.length,UH UI b,vph,UH UI (nth f.blocks b).phis.length,UH UI j])
   (λ_ j hx=>∃Wj pv,W19.le Wj/\Owns Wj hx (blkO W oo R Bo Bc Bt Bn f.params ov S.out S.cost S.temp S.many Bm pv pv (UM UL 0 0) (UM UL 0 0) ((nth f.blocks b).phis.take j) dc [])) (nth f.blocks b).phis.length ()
   U0 U1 (by simp[aX,af,ag]) ⟨W19,_,View.le_refl _,w20⟩ (λ_ _=>rfl) (λv i h1 hk m=>by simp) ?_ ?_
  ·clear w20;rintro _ j h21 hj ⟨Wj,pv,lWj,wj⟩ K3 hK3;have hj:j<(nth f.blocks b).phis.length:=hj;have hpl:=hbk.phi j hj;have sj:=sph.mono lWj;obtain⟨up,hup,rup⟩:=sj.wh rfl (N:=2) rfl hj;have qp:=(sj.mono wj.wle).idxn (k:=.i64) (N:=2) rfl (i:=(j:Int)) U1 U1;simp at qp;refine dC ?_;refine aa λx hx=>?_;simp[qp,hup _ wj.wle];refine dw (X:=Wj) (α:=PhiD) (z:=zz4) U0 rfl U0 rup U5 U5 λh22 hle22 _ at22=>?_;have at22:=at22 (grow Wj h21 h22) (bo wj.wle) (bY (Q4 _));have w22:=wj.ext hle22;have lW22:=UF lWj (bo (h':=h22) wj.wle);generalize h21.size=Bp at at22 ⊢;generalize grow Wj h21 h22=W22 at *;clear wj hle22 qp hup rup;subst hx;obtain⟨pd,vpi,pin⟩:=yt at22;have rdst:=(at22.part PhiD.gm).rng;have hH:=Fc w22.wle (w22.av (0,1) _ rfl);have hne:pv.ownBlock≠UK Bm:=λe=>by have:=w22.dj (0,1) (0,0) _ _ Bm rfl rfl e rfl;simp at this
   have cm:an (but pv h22) ⟨Bm,0,UL⟩=UK pv:=Et (by simpa using((w22.at (k:=(0,0)) (B:=Bm) (d:=(⟨⟨pv⟩,⟨⟨UM UL 0 0⟩,dc⟩⟩:lu W)) rfl).part He).raw) hne;refine aK (but pv h22) wF ?_;simp[cm,ae hH pd,ae hH pin.1];refine ah U0 (Fz (pin.2.mono w22.wle) U1) ?_;rintro u23 h23 ⟨hle23,s23⟩;have lH:=UF (wF (v:=pv) (h:=h22)) hle23;refine⟨lH,?_⟩;have w23:=w22.ext hle23;have s23:=(s23 W (UF (UF l06 (UF lK lW22)) w22.wle)).mono (qq (Y:=W22));have lW23:=UF lW22 (bo (h':=h23) w22.wle);generalize grow W22 h22 h23=W23 at *;have s23':=(jN.1 s23).1;obtain⟨ua,uc,rfl,-,-,-⟩:=s23';refine aA (t:=T.fM) (z:=zz4) (places:=zpd) (vs:=[(0,UH UI (nth (nth f.blocks b).phis j).dst),(1,.slice ua (nth (nth f.blocks b).phis j).ins.length uc)]) (cs:=#[UH UI (nth (nth f.blocks b).phis j).dst,.slice ua (nth (nth f.blocks b).phis j).ins.length uc]) U0 U0 U2 U0 ?_;refine⟨lH,?_⟩;have rphi:=Lz rdst s23;refine mC (α:=PhiN W) (d:=(nth (nth f.blocks b).phis j:PhiD)) (W:=W23) El.nj U2 rphi λu24 h24 hsrc hle24 _=>⟨UF lH hle24,?_⟩;have w24:=w23.ext' hle24;have htk:((nth f.blocks b).phis.take j).length<=10000:=by rw[RO];omega
   refine Lft.dA El.nj U2 U2 (w24.get (k:=(0,1)) (α:=PhiN W) (v:=pv) (l:=(nth f.blocks b).phis.take j) rfl) hsrc (Rt (RC _ (show _+1<=10001 from S9 htk)) U3) (Rt (show _+1<=10001 from S9 htk) U3) λv25 h25 o25 m25=>?_;have w25:=w24.gA (k:=(0,1)) rfl o25 m25;have hv25:=(w25.cells (k:=(0,1)) Own.ao).2;refine w25.db (k:=(0,0)) (α:=lu W) He (D:=⟨⟨pv⟩,⟨⟨UM UL 0 0⟩,dc⟩⟩) (d:=⟨v25⟩) rfl U0 U2 U2 (gG.2 ⟨rfl,hv25⟩) λh26 w26 _=>?_;have w26:Owns W23 h26 (blkO W oo R Bo Bc Bt Bn f.params ov S.out S.cost S.temp S.many Bm v25 v25 (UM UL 0 0) (UM UL 0 0) ((nth f.blocks b).phis.take j++[nth (nth f.blocks b).phis j]) dc []):=w26.congr λk=>(congrFun HJ k).symm;refine hK3 () _ _ (by simp[af,ag]) (by simp[aX,af,ag]) ⟨W23,v25,lW23,?_⟩;rw[Rr hj,<-aC hj];exact w26
  clear w20;rintro _ h21 ⟨Wj,pv,lWj,wj⟩;rw[RR]at wj;have lKj:=UF lK lWj;simp;subst hy;refine aa λy hy=>?_;simp[huF _ (UF lKj wj.wle),ae (UF lKj wj.wle) cl,ae (UF lWj wj.wle) ck];refine ah U0 (qH wj (rF.mono lKj) (sl.mono lKj) hok hM hb hpat hcl) ?_;rintro _ h22 ⟨C,rm,rc,rb,B22,W22,rfl,hsol,lW22,cw22⟩;refine dw (α:=Raw) (d:=⟨ptz C⟩) (X:=B22) (z:=UN UL) U0 rfl U0 (gG.2 ⟨rfl,rfl⟩) U5 U5 λh23 hle23 _ at23=>?_;have at23:=(at23 (grow B22 h22 h23) cw22.z.up (bY (Q4 _))).raw;have cw23:=cw22.ext hle23;have lW23:=UF lW22 (cw22.z.upW (h':=h23));generalize h22.size=Bq at at23 ⊢;generalize grow B22 h22 h23=B23 at *;generalize grow W22 h22 h23=W23 at *;subst hy;refine aa λy hy=>?_;simp;refine dw (α:=Raw) (d:=⟨.func (.func 50) #[] #[ptz Bf,ptz Bk,ptz Bt,ptz Bm,ptz Bb,ptz Bn]⟩) (X:=B23) (z:=.nilFunc) U0 rfl U0 (gG.2 ⟨rfl,rfl⟩) U5 U5 λh24 hle24 _ at24=>?_;have at24:=(at24 (grow B23 h23 h24) cw23.z.up (bY (Q4 _))).raw;have at23:=ae (cw23.z.up (h':=h24)) at23;have cw24:=cw23.ext hle24;have lW24:=UF lW23 (cw23.z.upW (h':=h24));generalize h23.size=Br at at24 ⊢;generalize grow B23 h23 h24=B24 at *;generalize grow W23 h23 h24=W24 at *;clear cw22 cw23 hle23 hle24 lW22 lW23 wj hsol;subst hy;refine aa λy hy=>?_;refine aa λx hx=>?_;simp[ae cw24.z.wle at23];refine ah U0 (DT cw24 (λp t=>qZ) hpat) ?_;rintro _ h25 ⟨p1,p2,B25,W25,rfl,lB25,lW25,cw25,hit⟩;have ch:=cw25.ch.mono cw25.z.le;have c19:=ae (UF lB25 cw25.z.le) at23;have c20:=ae (UF lB25 cw25.z.le) at24;have mb:=cw25.mb;have own25:=cw25.z.own;have lj25:=UF lW24 lW25;have l25:=UF lKj lj25;have atF25:=atF.mono l25;have ck25:=ae (UF lWj lj25) ck;have atB25:=atB.mono (UF lWj lj25);have cl25:=ae l25 cl;have sl25:=sl.mono l25;clear cw24 cw25 at23 at24 lB25 lW25 lW24 lj25 lWj lK cph sph;subst hx;refine dC ?_;refine ug (enc:=natV) (all:=fI f b l) (gf:=99) (caps:=[ptz p1,ptz p2]) W25 W25
   (λe k X hx=>e=UL/\∃Y o',Held h25.size X Y hx o'/\(W25.le Y/\∃iv,o'=blkO W oo R Bo Bc Bt Bn f.params ov S.out (od f l b S k).cost (od f l b S k).temp (od f l b S k).many Bm pv pv iv iv (nth f.blocks b).phis (od f l b S k).blk.fin (od f l b S k).blk.ins))
   rfl U0 hit (λ_=>rfl) UE (λe k=>⟨λ⟨_,q⟩=>Held.yf.le q,λ⟨a,q⟩ h1 h2 h3 h4=>⟨a,Held.yf.move q h1 h2 h3 h4⟩⟩) ⟨rfl,W25,_,Held.start own25,View.le_refl _,(UM UL 0 0),rfl⟩
   (λx h1=>by simp[natV,dE];rfl) ?_ ?_ ?_
  ·rintro k i X h26 hag hk ⟨_,Y,o',w,lY,iv,rfl⟩ K3 hK3 _;have hkr:k<(fI f b l).length:=(Sk.1 hk).1;obtain⟨hi,-⟩:=EH hk;have lb:=CC (s:=S) hsm hb hcl (k:=k) U1;have hls:=FG (s:=S) hk;have hrl:=wc (f:=f) (b:=b) (l:=l);generalize od f l b S k=q at *;obtain⟨q1,q2,q3,q4,q5,q6⟩:=lb;have q1:S.temp<=q.temp:=q1;have q2:q.temp<=S.temp+k:=q2;have q3:S.cost<=q.cost:=q3;have q4:q.cost<=S.cost+1000*k:=q4;have q5:q.blk.ins.length<=0+2*k:=q5;have lYh:=UF lY w.own.wle;refine dC ?_;refine aa λx hx=>?_;simp[ae lYh c19,ae lYh ch.x6];refine eM (f:=mapI (dx f b l).best) (z:=UH UI 0) (k:=T.int) (e:=T.int) (d:=.int .i64) (r:=rb) (u:=UH UI i) U0 U0 U0 rfl rfl cV ((mb.mono lY).is w.own.wle) ?_;cases hbi:(dx f b l).best i with
   | none=>
    have er:jA f b l q i=layS f b i 0 q:=by unfold jA;rw[hbi]
    simp[hbi];subst hx;simp[ae lYh c20];refine bZ (ops:=[.tmp 87,.const (UH UI 0)]) (caps:=#[ptz Bf,ptz Bk,ptz Bt,ptz Bm,ptz Bb,ptz Bn]) rfl U0 (Kl w (UF (UF l06 l25) lY) (ho (1,0) U3) (ho (1,1) U3) (atF25.mono lY) (ae lY ck25) (atB25.mono lY) hsm hM hb hi ⟨U3,U3⟩ U6 U1) ?_;rintro _ h27 ⟨Y',iv',lY',w'⟩;rw[Dn]at w';refine hK3 _ _ ⟨rfl,Y',_,w',UF lY lY',iv',?_⟩;rw[hls,er];rfl
   | some t=>
    obtain⟨t0,t1⟩:=qZ hbi;obtain⟨tn,rfl⟩:=Sg t0;have ht:tn<l.length:=by omega
    have hc:=hcl _ (bF ht);have er:jA f b l q i=layS f b i (nth l tn).pat { q with cost:=q.cost+(nth l tn).cost }:=by unfold jA;rw[hbi];rfl
    have slh:=sl25.mono lYh;have ql:=slh.idxn (k:=.i64) (N:=2) rfl (i:=(tn:Int)) U1 U1;have kc:=((slh.at ht).part aO.BJ).int;have kp:=((slh.at ht).part aO.AK).int;rw[<-aC ht]at kc kp;have n2:Rep.n aO=2:=rfl;simp[n2]at ql kc kp;have cc:an (vw h26) ⟨Bc,0,UL⟩=UK (UH UI q.cost):=(w.own.at (k:=(0,4)) rfl).int;have ew:IntKind.i64.wrap (q.cost+(nth l tn).cost)=q.cost+(nth l tn).cost:=bc U1 U1;simp[hbi];subst hx;refine aa λx hx=>?_;simp;subst hx;refine aa λx hx=>?_;refine aK (vw h26) UE ?_;simp[cc,ae lYh cl25,ql,kc,ew];refine w.db (k:=(0,4)) (α:=Int) Part.all (D:=q.cost) (d:=q.cost+(nth l tn).cost) rfl U0 U2 U2 (bw.2 ⟨rfl,by omega,by omega⟩) λh27 w27=>?_;rw[H5]at w27;subst hx;have lY27:=UF lY w27.own.wle;have sl27:=sl25.mono lY27;have kp:=((sl27.at ht).part aO.AK).int;rw[<-aC ht]at kp;simp[n2]at kp;refine aK (vw h27) UE ?_;simp[ae lY27 c20,ae lY27 cl25,ql,kp];refine bZ (ops:=[.tmp 97,.tmp 102]) (caps:=#[ptz Bf,ptz Bk,ptz Bt,ptz Bm,ptz Bb,ptz Bn]) rfl U0 (Kl w27 (UF (UF l06 l25) lY) (ho (1,0) U3) (ho (1,1) U3) (atF25.mono lY) (ae lY ck25) (atB25.mono lY) hsm hM hb hi (hpat _ (bF ht)) U6 U1) ?_;rintro _ h28 ⟨Y',iv',lY',w'⟩;rw[Dn]at w';refine hK3 _ _ ⟨rfl,Y',_,w',UF lY lY',iv',?_⟩;rw[hls,er];rfl
  ·rintro X h26 hag ⟨_,Y,o',w,lY,iv,rfl⟩;have w:=w.own;have lb:=CC (s:=S) hsm hb hcl (Q4 (fI f b l).length);have hrl:=wc (f:=f) (b:=b) (l:=l);generalize od f l b S (fI f b l).length=q at *;obtain⟨q1,q2,q3,q4,q5,q6⟩:=lb;have q6:q.blk.phis=(nth f.blocks b).phis:=q6;have cov:an (vw h26) ⟨Bo,1,UL⟩=UK ov:=by simpa using((w.at (k:=(0,6)) (B:=Bo) (d:=(⟨f.params,⟨ov⟩⟩:OutD)) rfl).part GY).raw
   obtain⟨um,hum,rum⟩:=w.ldB (k:=(0,0)) (B:=Bm) (d:=(⟨⟨pv⟩,⟨⟨iv⟩,q.blk.fin⟩⟩:lu W)) rfl rfl (N:=7) rfl;obtain⟨w2,s2⟩:=w.Cb (k:=(0,1)) (α:=PhiN W) (e:=T.fM) (v:=pv) (l:=(nth f.blocks b).phis) rfl;have l2:=gU (h:=h26) (w.av (0,1) _ rfl);obtain⟨w3,s3⟩:=w2.Cb (k:=(0,2)) (α:=jL W) (e:=T.cT) (v:=iv) (l:=q.blk.ins) rfl;have l3:=gU (h:=h26) (w2.av (0,2) _ rfl);have w4:=w3.sub (Hy ho);have rb:=LK (rum.mono (UF l2 l3)) (s2.mono l3) s3;have eb:(⟨(nth f.blocks b).phis,q.blk.ins,q.blk.fin⟩:dS)=q.blk:=by rw[<-q6]
   rw[eb]at rb;simp;subst hy;simp[cov,hum];have hS:S.out.length<=10000:=by omega
   refine w4.gy (k:=(0,7)) (α:=fw W) (v:=ov) (l:=S.out) rfl El.pO U2 rb (Rt (RC _ (S9 hS)) U3) (Rt (S9 hS) U3) U5 U5 λu5 v5 h5 w5 _=>?_;have hv5:=(w5.cells (k:=(0,7)) Own.ao).2;refine w5.db (k:=(0,6)) (α:=OutD) GY (D:=⟨f.params,⟨ov⟩⟩) (d:=⟨v5⟩) rfl U0 U2 U2 (gG.2 ⟨rfl,hv5⟩) λh6 w6 _=>?_;have w6:Owns ((Y.plus pv h26).plus iv h26) h6 (fnO W oo R Bo Bc Bt Bn f.params v5 v5 (S.out++[q.blk]) q.cost q.temp q.many):=w6.congr λk=>(congrFun K9 k).symm;refine hK2 () _ _ (by simp[af,ag]) (by simp[aX,af,ag]) ⟨_,v5,UF (UF l25 lY) (UF l2 l3),?_⟩;rw[hfs];exact w6
  rintro e k X h26 hag ⟨hne,_⟩;cases hne
 clear w12;rintro _ h13 ⟨Wk,ov,lWk,wk⟩;have hfn:fnAt f l f.blocks.length=fnS f l:=rfl;rw[hfn]at wk;have l0k:=UF l06 lWk;simp;subst hz;have nc:an (vw h13) ⟨Bn,0,UL⟩=UK (.bool (fnS f l).many):=(wk.at (k:=(0,5)) rfl).bool;refine aa λz hz=>?_;cases hm:(fnS f l).many with
 | true=>
  have e:gW f l=noCh 2:=by unfold gW;rw[if_neg (by rw[ce];simp),if_pos hm]
  rw[hm]at nc;simp[nc];refine aA (t:=T.gN) (z:=zz4) (places:=zpd) (vs:=[]) (cs:=#[UH UI 0,UM UL 0 0]) U0 U0 U2 U0 ?_;refine wk.db (k:=(2,0)) (α:=OutD) Part.all (D:=⟨0,⟨UM UL 0 0⟩⟩) (d:=⟨0,⟨UM UL 0 0⟩⟩) rfl U0 U2 U2 (uR ⟨U3,U3⟩) λh5 w5 _=>?_;obtain⟨W6,lW6,w6,aR⟩:=w5.jT (k:=(2,0)) (α:=OutD) (e:=T.gN) (B:=R) (d:=⟨0,⟨UM UL 0 0⟩⟩) Own.ao;exact out_ h5 W6 _ 0 (UM UL 0 0) [] 0 2 _ (UF l0k lW6) w6 (λk i hk=>KU ho k i hk) aR (sf (α:=fw W)) e rfl rfl rfl
 | false=>
  have e:gW f l=⟨⟨f.params,(fnS f l).out⟩,(fnS f l).cost,0⟩:=by unfold gW;rw[if_neg (by rw[ce];simp),if_neg (by rw[hm];simp)]
  rw[hm]at nc;simp[nc];subst hz;refine aa λz hz=>?_;have cc:an (vw h13) ⟨Bc,0,UL⟩=UK (UH UI (fnS f l).cost):=(wk.at (k:=(0,4)) rfl).int;have hRo:(UM (UK ⟨R,0,UL⟩) 1 1).ownBlock≠UK Bo:=λe=>by have:=wk.dj (2,0) (0,6) _ _ Bo rfl rfl e rfl;simp at this
  have hRc:(UM (UK ⟨R,0,UL⟩) 1 1).ownBlock≠UK Bc:=λe=>by have:=wk.dj (2,0) (0,4) _ _ Bc rfl rfl e rfl;simp at this
  obtain⟨uo,huo,ruo⟩:=(wk.P5 (k:=(0,6)) (B:=Bo) (d:=(⟨f.params,⟨ov⟩⟩:OutD)) rfl hRo (wk.av (2,0) _ rfl)).ldN rfl (N:=2) rfl;have ruo:Rd Wk uo (⟨f.params,⟨ov⟩⟩:OutD):=ruo;refine aK (but (UM (UK ⟨R,0,UL⟩) 1 1) h13) wF ?_;simp[Et cc hRc,huo _ UE];refine wk.pL (k:=(2,0)) (α:=OutD) Part.all (D:=⟨0,⟨UM UL 0 0⟩⟩) (d:=⟨f.params,⟨ov⟩⟩) rfl U0 U2 U2 ruo λh5 w5 hX=>⟨hX _ wF (if_pos rfl),?_⟩;subst hz;obtain⟨W6,lW6,w6,aR⟩:=w5.jT (k:=(2,0)) (α:=OutD) (e:=T.gN) (B:=R) (d:=⟨f.params,⟨ov⟩⟩) Own.ao;have lp:=gU (h:=h5) (w6.av (0,7) _ rfl);obtain⟨w8,s8⟩:=w6.Cb (k:=(0,7)) (α:=fw W) (e:=T.dU) (v:=ov) (l:=(fnS f l).out) rfl;simp;refine out_ h5 _ _ f.params ov (fnS f l).out (fnS f l).cost 0 _ (UF (UF l0k lW6) lp) w8 (λk i hk=>?_) (aR.mono lp) s8 e rfl rfl rfl;by_cases c:k=(0,7)
  ·subst c;have:=(ho (0,7) U3).symm.trans hk;cases this
  rw[Own.aB c];exact KU ho k i hk
theorem Aa{f:ak}{l:List aO}{v:Value}{h:Heap}(hv:Rd (vw h) v f)(hl:SlRd (vw h) vl l)(hsm:SmF f)(ht:Tab h)(hM:ib):
  ay UQ 14 #[v,vl] h (λu h'=>(vw h).le (vw h')/\∃vm,u = .tuple #[vm,UH UI (gW f l).cost,UH UI (gW f l).err]/\Rd (vw h') vm (gW f l).code):=
 (rL (Owns.start UE) (λ_ _=>rfl) hv hl hsm ht hM).mono λu h' ⟨W',vm,_,h2,h3,h4,h5⟩=>⟨h2,vm,h4,Nf.go (h5.mono h3.wle)⟩
def wU(f:ak)(b:Nat)(l:List aO)(out:List Int)(i:Nat):List Int:=match (dx f b l).best i with
 | none=>out
 | some t=>out.set i t
def iR(f:ak)(l:List aO)(b k:Nat):List Int:=((fI f b l).take k).foldl (wU f b l) (List.replicate ((nth f.blocks b).ins.length+1) (-1))
def wH(f:ak)(l:List aO)(b:Int):List Int:=if(eZ l f).1≠0\/b<0\/f.blocks.length<=b then[] else iR f l b.toNat (fI f b.toNat l).length
theorem EM{f:ak}{l:List aO}{b k:Nat}:(iR f l b k).length=(nth f.blocks b).ins.length+1:=by
 unfold iR;have : ∀(r:List Nat) (s:List Int),(r.foldl (wU f b l) s).length=s.length:=λr=>by
  induction r with
  | nil=>intro s;rfl
  | cons a r ih=>intro s;rw[RG,ih];unfold wU;split<;>simp
 rw[this];simp
def rO(n k:Nat):List Int:=List.replicate k (-1)++List.replicate (n-k) 0
theorem Kq{n k:Nat}(h:k<n):(rO n k).set k (-1)=rO n (k+1):=by unfold rO;rw[List.set_append_right _ _ U2];simp only[RX,Tw];rw[show n-k=(n-(k+1))+1 by omega,List.replicate_succ,List.set_cons_zero,List.replicate_succ' (n:=k),Rn];rfl
theorem y9{n k:Nat}(h:k<=n):(rO n k).length=n:=by unfold rO;simp;omega
def tlO(Bo:Nat)(ov:Value)(l:List Int):Own:=λk=>if k=(0,0) then bx T.aY Bo (⟨ov⟩:Raw) else if k=(0,1) then it T.int ov l else UL
theorem Gm{Bo:Nat}{ov:Value}{l l2:List Int}:(tlO Bo ov l).upd (0,1) (it T.int ov l2)=tlO Bo ov l2:=by
 funext k;unfold tlO Own.upd;by_cases c:k=(0,1)
 ·subst c;rfl
 simp only[if_neg c]
set_option maxHeartbeats 4000000 in
theorem KX{f:ak}{l:List aO}{v:Value}{b:Int}{h:Heap}(hv:Rd (vw h) v f)(hl:SlRd (vw h) vl l)(hsm:SmF f)(ht:Tab h)(hM:ib):
  ay UQ 32 #[v,vl,UH UI b] h (λu h'=>(vw h).le (vw h')/\SlRd (vw h') u (wH f l b)):=by
 refine rU (args:=[v,vl,UH UI b]) follows Tryz.func32 E.jw UC λK hK=>?_;dsimp only[L.jw,lkF,lkG];have hlen:=hsm.len;have w0:=Owns.start (h:=h) (View.le_refl (vw h));refine aa λz hz=>?_;simp;refine w0.uU (α:=ak) rfl hv λBf h1 W1 hW1 w1 atF hle1=>?_;subst hz;refine aa λz hz=>?_;obtain⟨uF,huF,rF⟩:=atF.ldN rfl (N:=2) rfl;have sl:=hl.mono hW1;simp[huF _ w1.wle];refine ah U0 (Am w1.wle sl rF hsm (ht.mono hle1) (λ_ _ _=>hM) (λhr=>GA (kv hr) hsm (qC rF))) ?_;rintro _ h2 ⟨hle2,rfl⟩;have w2:=w1.ext hle2;have lW2:W1.le (grow W1 h1 h2):=bo w1.wle;generalize grow W1 h1 h2=W2 at *;have l02:=UF hW1 lW2;have huF:=λK hK=>huF K (UF lW2 hK);have rF:=rF.mono lW2;have sl:=sl.mono lW2;have atF:=atF.mono lW2;clear lW2 w1 w0 hW1 hle1 hle2;obtain⟨-,vb,cb,sb⟩:=eU atF;have sbn : ∀{K:View},Un.ev K .len vb=UK (UH UI f.blocks.length):=sb.len;simp;subst hz;refine aa λz hz=>?_;have cb2:=ae w2.wle cb;by_cases cn:(eZ l f).1≠0\/b<0\/(f.blocks.length:Int)<=b
 ·have e:wH f l b=[]:=by unfold wH;rw[if_pos cn]
  rw[e]at hK;refine j0 U4 ?_ ?_
  ·by_cases c1:(eZ l f).1=0
   ·by_cases c2:b<0
    ·simp[cb2,sbn,c1,c2]
    have c3:(f.blocks.length:Int)<=b:=by
     rcases cn with c | c | c
     ·exact absurd c1 c
     ·exact absurd c c2
     exact c
    simp[cb2,sbn,c1,c2,c3]
   simp[cb2,sbn,c1]
  simp;intro h6 hsw;exact⟨_,rfl,hK _ _ ⟨hsw.ext (UF l02 w2.wle),aS⟩⟩
 have ce:(eZ l f).1=0:=Classical.byContradiction λc=>cn (.inl c);have b0:0<=b:=by omega
 obtain⟨bn,rfl⟩:=Sg b0;have hb:bn<f.blocks.length:=by omega
 have e:wH f l bn=iR f l bn (fI f bn l).length:=by unfold wH;rw[if_neg cn];rfl
 rw[e]at hK;obtain⟨tb0,hrt,-⟩:=y8 ce;have hok:Okf f:=⟨kv hrt,hsm,qC rF⟩;have hcl : ∀t∈l,0<=t.cost/\t.cost<=1000:=λt ht=>zJ tb0 ht;have hpat : ∀t∈l,I64 t.pat:=λt ht=>Ah tb0 ht;have hil:=(hsm.blk bn hb).ins;have nb:¬((f.blocks.length:Int)<=bn):=by omega
 have nb2:¬((bn:Int)<0):=by omega
 refine jX U4 ?_ ?_
 ·simp[cb2,sbn,ce,nb,nb2]
 subst hz;refine aa λz hz=>?_;simp[huF _ w2.wle];refine ah U0 (qH w2 rF sl hok hM hb hpat hcl) ?_;rintro _ h22 ⟨C,rm,rc,rb,B22,W22,rfl,hsol,lW22,cw22⟩;refine dw (α:=Raw) (d:=⟨ptz C⟩) (X:=B22) (z:=UN UL) U0 rfl U0 (gG.2 ⟨rfl,rfl⟩) U5 U5 λh23 hle23 _ at23=>?_;have at23:=(at23 (grow B22 h22 h23) cw22.z.up (bY (Q4 _))).raw;have cw23:=cw22.ext hle23;have lW23:=UF lW22 (cw22.z.upW (h':=h23));generalize h22.size=Bq at at23 ⊢;generalize grow B22 h22 h23=B23 at *;generalize grow W22 h22 h23=W23 at *;clear cw22 hsol lW22 hle23 w2 cb2;subst hz;refine aa λz hz=>?_;have w3:=cw23.z.own;have atF3:=atF.mono lW23;have cb3:=ae w3.wle (ae lW23 cb);have qb:=(((sb.mono lW23).mono w3.wle)).idxn (k:=.i64) (N:=6) rfl (i:=(bn:Int)) U1 U1;obtain⟨vin,cin,sin⟩:=((((sb.mono lW23).mono w3.wle).at hb).part BlkD.gO).list;have n6:Rep.n BlkD=6:=rfl;simp[n6]at qb cin;rw[<-aC hb]at sin;have sn : ∀{K:View},Un.ev K .len vin=UK (UH UI (nth f.blocks bn).ins.length):=sin.len;have ew:IntKind.i64.wrap (((nth f.blocks bn).ins.length:Int)+1)=(((nth f.blocks bn).ins.length+1:Nat):Int):=by rw[bc U1 U1];omega
 obtain⟨n,hn⟩ : ∃n,n=(nth f.blocks bn).ins.length+1:=⟨_,rfl⟩;rw[<-hn]at ew;simp[cb3,qb,cin,sn,ew];refine oz (α:=Int) (k:=.i64) (W:=W23) (n:=n) (d:=0) El.aY U2 U2 ⟨rfl,by decide,by decide⟩ U1 U1 λov h24 o24 _ hle24 hob=>?_;have w4:=w3.add (k:=(0,1)) rfl o24 hle24 (λb hb=>by rw[hob]at hb;simp at hb;omega);have hov:=(w4.cells (k:=(0,1)) Own.ao).2;refine w4.pY (k:=(0,0)) (α:=Raw) (d:=⟨ov⟩) (n:=1) (Own.aB U2) (gG.2 ⟨rfl,hov⟩) rfl (z:=UM UL 0 0) U0 rfl U0 U3 U5 U5 λh25 hle25 w5=>?_;generalize h24.size=Bo at w5 ⊢;have w5:Owns W23 h25 (tlO Bo ov (rO n 0)):=w5.sub λk i hk=>by
  unfold tlO at hk;by_cases c0:k=(0,0)
  ·subst c0;exact hk
  by_cases c1:k=(0,1)
  ·subst c1;exact hk
  rw[if_neg c0,if_neg c1]at hk;cases hk
 have lt25 : ∀{r:Nat} {g:Value->Option Value},MV (.int .i64) W23 r g->di (.int .i64) h25 r g:=λm=>m.is w5.wle;clear w4 w3 o24 hob qb cin sn cb3;subst hz;refine aa λz hz=>?_;have co : ∀{hx:Heap} {Wx:View} {L:List Int},Owns Wx hx (tlO Bo ov L)->an (vw hx) ⟨Bo,0,UL⟩=UK ov:=λw=>(w.at (k:=(0,0)) (B:=Bo) (d:=(⟨ov⟩:Raw)) rfl).raw;have rn : ∀{hx:Heap} {Wx:View} {L:List Int},Owns Wx hx (tlO Bo ov L)->SlRd (vw hx) ov L:=λw=>w.now (k:=(0,1)) rfl;have lo : ∀{K:View},Un.ev K .len ov=UK (UH UI n):=fun{K}=>by have:=(rn w5).len (K:=K);rw[y9 (SD _)]at this;exact this
 simp[co w5,lo];refine aG [3,10,11,50,51] (fun(_:Unit) k=>[ptz Bf,ptz Bq,ptz Bo,UH UI n,UH UI k])
  (λ_ k hx=>Owns W23 hx (tlO Bo ov (rO n k))/\h23.size<=hx.size) n ()
  U0 U1 (by simp[aX,af,ag]) ⟨w5,Rt (bO hle24) (bO hle25)⟩ (λ_ _=>rfl) (λv i h1 hk m=>by simp) ?_ ?_
 ·rintro _ k h26 hk ⟨w6,hs6⟩ K2 hK2;have hk:k<n:=hk;have q:=(rn w6).idx1 (k:=.i64) (i:=(k:Int)) rfl U1 (by rw[y9 U1];omega);simp at q;refine dC ?_;refine aa λy hy=>?_;simp;subst hy;simp[co w6,q];refine w6.bG (k:=(0,1)) (α:=Int) (l:=rO n k) (i:=k) (d:=-1) rfl U0 (by simp[Rep.n]) U2 (by rw[y9 U1];omega) (bw.2 ⟨rfl,by decide,by decide⟩) λh27 w7 hs7=>?_;rw[Gm,Kq hk]at w7;exact hK2 () _ _ (by simp[af,ag]) (by simp[aX,af,ag]) ⟨w7,by omega⟩
 rintro _ h26 ⟨w6,hs6⟩;have cw26:Cw B23 W23 h26 (tlO Bo ov (rO n n)) C rm rc rb f bn l (mkU f bn) (dx f bn l) [rb,rc,rm]:=⟨⟨w6,cw23.z.le,cw23.z.no,λr hr=>Sc (cw23.z.lt r hr) hs6⟩,cw23.ch,cw23.mm,cw23.mc,cw23.mb,cw23.ne,cw23.cin,cw23.bin⟩;have hfl:rO n n=iR f l bn 0:=by unfold rO iR;rw[<-hn];simp
 rw[hfl]at cw26;simp;subst hz;refine aa λz hz=>?_;refine aa λx hx=>?_;simp[ae cw26.z.wle at23];refine ah U0 (DT cw26 (λp t=>qZ) hpat) ?_;rintro _ h27 ⟨p1,p2,B27,W27,rfl,lB27,lW27,cw27,hit⟩;have ch:=cw27.ch.mono cw27.z.le;have c10:=ae (UF lB27 cw27.z.le) at23;have mb:=cw27.mb;have own27:=cw27.z.own;subst hx;refine dC ?_;refine ug (enc:=natV) (all:=fI f bn l) (gf:=99) (caps:=[ptz p1,ptz p2]) W27 W27
  (λe k X hx=>e=UL/\∃Y o',Held h27.size X Y hx o'/\(W27.le Y/\o'=tlO Bo ov (iR f l bn k)))
  rfl U0 hit (λ_=>rfl) UE (λe k=>⟨λ⟨_,q⟩=>Held.yf.le q,λ⟨a,q⟩ h1 h2 h3 h4=>⟨a,Held.yf.move q h1 h2 h3 h4⟩⟩) ⟨rfl,W27,_,Held.start own27,View.le_refl _,rfl⟩
  (λx h1=>by simp[natV,dE];rfl) ?_ ?_ ?_
 ·rintro k i X h28 hag hk ⟨_,Y,o',w,lY,rfl⟩ K3 hK3 _;obtain⟨hi,-⟩:=EH hk;have hst:iR f l bn (k+1)=wU f bn l (iR f l bn k) i:=tQ hk;have hle:=EM (f:=f) (l:=l) (b:=bn) (k:=k);have lYh:=UF lY w.own.wle;refine dC ?_;refine aa λx hx=>?_;simp[ae lYh c10,ae lYh ch.x6];refine eM (f:=mapI (dx f bn l).best) (z:=UH UI 0) (k:=T.int) (e:=T.int) (d:=.int .i64) (r:=rb) (u:=UH UI i) U0 U0 U0 rfl rfl cV ((mb.mono lY).is w.own.wle) ?_;cases hbi:(dx f bn l).best i with
  | none=>
   have er:iR f l bn (k+1)=iR f l bn k:=by rw[hst];unfold wU;rw[hbi]
   simp[hbi];subst hx;simp;exact hK3 _ _ ⟨rfl,Y,_,w,lY,by rw[er]⟩
  | some t=>
   have er:iR f l bn (k+1)=(iR f l bn k).set i t:=by rw[hst];unfold wU;rw[hbi]
   obtain⟨t0,t1⟩:=qZ hbi;have bl:=sl.bound;have q:=(rn w.own).idx1 (k:=.i64) (i:=(i:Int)) rfl U1 (by rw[hle];omega);simp at q;simp[hbi];subst hx;simp[co w.own,q];refine w.bG (k:=(0,1)) (α:=Int) (l:=iR f l bn k) (i:=i) (d:=t) rfl U0 (by simp[Rep.n]) U2 (by rw[hle];omega) (bw.2 ⟨rfl,by omega,by omega⟩) λh29 w29=>?_;rw[Gm]at w29;exact hK3 _ _ ⟨rfl,Y,_,w29,lY,by rw[er]⟩
 ·rintro X h28 hag ⟨_,Y,o',w,lY,rfl⟩;simp;subst hz;have sR:=dD.1 (dD.2 (rn w.own)).bT;simp[co w.own];intro h6 hsw;exact⟨_,rfl,hK _ _ ⟨hsw.ext (UF l02 (UF lW23 (UF lW27 (UF lY w.own.wle)))),sR.mono hsw.bT⟩⟩
 rintro e k X h28 hag ⟨hne,_⟩;cases hne
def ex8F:ak:=⟨1,[⟨[],[⟨1,1,0,[],⟨5⟩⟩,⟨2,2,0,[0,1],⟨0⟩⟩],⟨4,[2],[],⟨0⟩⟩⟩]⟩
theorem O6{h:Heap}(hW:W.le (vw h)):ay UQ 31 #[] h (λu h'=>(vw h).le (vw h')/\Rd (grow W h h') u ex8F):=by refine aq (args:=[]) follows Tryz.func31 E.lT UC λK hK=>?_;dsimp only[L.lT,lkF,lkG];have c0:=Cx.start hW;refine aa λz hz=>?_;simp;refine c0.de (k:=(0,0)) (n:=1) (z:=.agg #[UH UI 0,UM UL 0 0]) rfl U0 rfl U3 U8 λR h1 hle1 c1=>?_;subst hz;refine aa λz hz=>?_;simp;refine aA (t:=T.eY) (z:=zz5) (places:=zpa) (vs:=[(0,UH UI 1),(1,UH UI 1),(4,UH UJ 5)]) (cs:=#[UH UI 1,UH UI 1,UH UI 0,UM UL 0 0,UH UJ 5]) U0 U0 U2 U0 ?_;refine c1.mF (α:=Int) (vs:=[UH UI 0,UH UI 1]) (ds:=[0,1]) El.aY U0 ⟨bw.2 ⟨rfl,by decide⟩,bw.2 ⟨rfl,by decide⟩,trivial⟩ rfl U3 U3 λu2 h2 W2 hW2 c2 s2 hle2=>?_;obtain⟨b2,n2,k2,rfl⟩:=SlRd.ex s2;refine aA (t:=T.eY) (z:=.agg #[UH UI 0,UH UI 0,UH UI 0,UM UL 0 0,UH UJ 0]) (places:=zpa) (vs:=[(0,UH UI 2),(1,UH UI 2),(3,(.slice b2 n2 k2))]) (cs:=#[UH UI 2,UH UI 2,UH UI 0,(.slice b2 n2 k2),UH UJ 0]) U0 U0 U2 (by simp[Instr.fill,Value.cells]) ?_;refine c2.mF (α:=InsD) (vs:=[.agg #[UH UI 1,UH UI 1,UH UI 0,UM UL 0 0,UH UJ 5],.agg #[UH UI 2,UH UI 2,UH UI 0,(.slice b2 n2 k2),UH UJ 0]]) (ds:=[⟨1,1,0,[],⟨5⟩⟩,⟨2,2,0,[0,1],⟨0⟩⟩]) El.pD U2 ⟨G5 ⟨U3,U3⟩ ⟨U3,U3⟩ ⟨U3,U3⟩ aS U3,G5 ⟨U3,U3⟩ ⟨U3,U3⟩ ⟨U3,U3⟩ s2 U3,trivial⟩ rfl U3 U3 λu3 h3 W3 hW3 c3 s3 hle3=>?_;obtain⟨b3,n3,k3,rfl⟩:=SlRd.ex s3;refine c3.mF (α:=Int) (vs:=[UH UI 2]) (ds:=[2]) El.aY U0 ⟨bw.2 ⟨rfl,by decide⟩,trivial⟩ rfl U3 U3 λu4 h4 W4 hW4 c4 s4 hle4=>?_;obtain⟨b4,n4,k4,rfl⟩:=SlRd.ex s4;refine aA (t:=T.jH) (z:=.agg #[UH UI 0,UM UL 0 0,UM UL 0 0,UH UJ 0]) (places:=zpe) (vs:=[(0,UH UI 4),(1,(.slice b4 n4 k4))]) (cs:=#[UH UI 4,(.slice b4 n4 k4),UM UL 0 0,UH UJ 0]) U0 U0 U2 (by simp[Instr.fill,Value.cells]) ?_;refine aA (t:=T.e9) (z:=.agg #[UM UL 0 0,UM UL 0 0,UH UI 0,UM UL 0 0,UM UL 0 0,UH UJ 0]) (places:=[(0,1),(1,1),(2,4)]) (vs:=[(1,(.slice b3 n3 k3)),(2,.agg #[UH UI 4,(.slice b4 n4 k4),UM UL 0 0,UH UJ 0])]) (cs:=#[UM UL 0 0,(.slice b3 n3 k3),UH UI 4,(.slice b4 n4 k4),UM UL 0 0,UH UJ 0]) U0 U0 U2 (by simp[Instr.fill,Value.cells]) ?_;refine c4.mF (α:=BlkD) (vs:=[.agg #[UM UL 0 0,(.slice b3 n3 k3),UH UI 4,(.slice b4 n4 k4),UM UL 0 0,UH UJ 0]]) (ds:=ex8F.blocks) El.oE U2 ⟨Ng aS (s3.mono hW4) s4 aS ⟨U3,U3⟩ U3,trivial⟩ rfl U3 U3 λu5 h5 W5 hW5 c5 s5 hle5=>?_;obtain⟨b5,n5,k5,rfl⟩:=SlRd.ex s5;refine aA (t:=T.gx) (z:=.agg #[UH UI 0,UM UL 0 0]) (places:=zpd) (vs:=[(0,UH UI 1),(1,(.slice b5 n5 k5))]) (cs:=#[UH UI 1,(.slice b5 n5 k5)]) U0 U0 U2 (by simp[Instr.fill,Value.cells]) ?_;refine c5.bG (α:=ak) (k:=(0,0)) (n:=1) U4 (DG (p:=1) ⟨U3,U3⟩ s5) rfl rfl U0 U2 U2 λh6 l6 hl6 c6=>?_;subst hz;have hall:=c6.all (k:=(0,0)) (n:=1) (l:=l6) (B:=R) (e:=T.gx) U4;simp at hall;simp[hall];refine hK _ _ ⟨c6.le0,?_⟩;rw[<-hl6];exact(DG (p:=1) ⟨U3,U3⟩ s5).mono c6.fin
theorem K8:SmF ex8F:=by
 refine⟨by decide,λi hi=>?_⟩;have hi:i<1:=hi;obtain rfl:i=0:=by omega
 refine⟨by decide,by decide,by decide,by decide,λj hj=>absurd hj (Ux _),λj hj=>?_⟩;have hj:j<2:=hj;rcases j with _ | _ | j
 ·decide
 ·decide
 omega
def JH:MFnD:=⟨1,[⟨[],[⟨18,2,0,0,0,0,⟨5⟩,[]⟩],⟨7,2,0,[],⟨0⟩⟩⟩]⟩
theorem E1:gW ex8F allT=⟨JH,1,0⟩:=by kernel_rfl
theorem H3:wH ex8F allT 0=[-1,15,-1]:=by kernel_rfl
theorem dS.gO:Part dS (List bz) 1 dS.ins (λd x=>{ d with ins:=x }):=(Part.snd (Part.fst Part.all)).via (λ_=>rfl) λ_ _=>rfl
theorem dS.GX:Part dS EndD 2 dS.fin (λd x=>{ d with fin:=x }):=(Part.snd (Part.snd Part.all)).via (λ_=>rfl) λ_ _=>rfl
theorem MFnD.rY:Part MFnD (List dS) 1 MFnD.blocks (λd x=>{ d with blocks:=x }):=(Part.snd Part.all).via (λ_=>rfl) λ_ _=>rfl
theorem y6{s:List Int}{v:Value}{h:Heap}(hs:SlRd (vw h) v s):ay UQ 12 #[v] h (λu h'=>h'=h/\SlRd (vw h) u (s.take 300)):=by
 refine aq (args:=[v]) follows Tryz.func12 E.pS UC λKc hK=>?_;dsimp only[L.pS,lkF,lkG];have hb:=hs.bound;simp[hs.len];refine⟨λh1=>?_,λh1=>?_⟩
 ·obtain⟨u,h2,h3⟩:=hs.take (n:=300) U1 (kd:=.i64);have h2:Bn.ev .hi v (UH UI 300)=UK u:=h2;simp[h2];exact hK _ _ ⟨rfl,h3⟩
 refine hK _ _ ⟨rfl,?_⟩;rw[Rq U1];exact hs
theorem ex8'{h:Heap}:ay UQ 31 #[] h (λu h'=>(vw h).le (vw h')/\Rd (vw h') u ex8F):=
 (O6 UE).mono λu h' ⟨h1,h2⟩=>⟨h1,h2.mono (kR h1)⟩
theorem FY{v:Value}{h:Heap}(hv:Rd (vw h) v ex8F)(hl:SlRd (vw h) vl allT)(ht:Tab h)(hM:ib):
  ay UQ 14 #[v,vl] h (λu h'=>(vw h).le (vw h')/\∃vm,u = .tuple #[vm,UH UI 1,UH UI 0]/\Rd (vw h') vm JH):=by have:=Aa hv hl K8 ht hM;rw[E1]at this;exact this
theorem IA{v:Value}{h:Heap}(hv:Rd (vw h) v ex8F)(hl:SlRd (vw h) vl allT)(ht:Tab h)(hM:ib):
  ay UQ 32 #[v,vl,UH UI 0] h (λu h'=>(vw h).le (vw h')/\SlRd (vw h') u [-1,15,-1]):=by have:=KX (b:=0) hv hl K8 ht hM;rw[H3]at this;exact this
set_option maxHeartbeats 1000000 in
theorem HB{h:Heap}(ht:Tab h)(hM:ib):ay UQ 10 #[] h (λu h'=>(vw h).le (vw h')/\u = .bool UO):=by
 refine aq (args:=[]) follows Tryz.func10 E.oq UC λK hK=>?_;dsimp only[L.oq,lkF,lkG];refine aa λz hz=>?_;simp;subst hz;refine aa λz hz=>?_;simp;refine ah U0 ex8' ?_;rintro u1 h1 ⟨le1,r1⟩;refine ah U0 KB ?_;rintro u2 h2 ⟨le2,s2⟩;refine ah U0 (FY (r1.mono le2) s2 (ht.mono (UF le1 le2)) hM) ?_;rintro _ h3 ⟨le3,vm,rfl,rm⟩;simp;refine dw (X:=vw h3) (z:=zz4) U0 rfl U0 rm U5 U5 λh4 le4 _ at4=>?_;have at4:=at4 (vw h4) le4 rfl;generalize h3.size=B at at4 ⊢;have l04:=UF le1 (UF le2 (UF le3 le4));subst hz;refine aa λz hz=>?_;simp;refine ah U0 ex8' ?_;rintro u5 h5 ⟨le5,r5⟩;refine ah U0 KB ?_;rintro u6 h6 ⟨le6,s6⟩;have l46:=UF le5 le6;refine ah U0 (IA (r5.mono le6) s6 (ht.mono (UF l04 l46)) hM) ?_;rintro vt h7 ⟨le7,st⟩;subst hz;refine aa λz hz=>?_;simp;refine yc (α:=Int) (ds:=[-1,15,-1]) (vs:=[UH UI (-1),UH UI 15,UH UI (-1)]) (X:=nothing) El.aY U0 ⟨bw.2 ⟨rfl,by decide,by decide⟩,bw.2 ⟨rfl,by decide,by decide⟩,bw.2 ⟨rfl,by decide,by decide⟩,trivial⟩ rfl U3 U3 λu8 h8 le8 _ s8 _=>?_;have s8:=s8 (vw h8) cW rfl;refine ah U0 (O0 (st.mono le8) s8) ?_;rintro _ h8 ⟨rfl,rfl⟩;have l48:=UF l46 (UF le7 le8);have at8:=at4.mono l48;obtain⟨vb,kb,sb⟩:=(at8.part MFnD.rY).sl;have sb:SlRd (vw h8) vb ([⟨[],[⟨18,2,0,0,0,0,⟨5⟩,[]⟩],⟨7,2,0,[],⟨0⟩⟩⟩]:List dS):=sb;have kb:an (vw h8) ⟨B,1,UL⟩=UK vb:=by simpa using kb
 have q:=sb.idxn (k:=.i64) (N:=7) rfl (i:=0) U1 U2;obtain⟨vi,ki,si⟩:=((sb.at (i:=0) U2).part dS.gO).sl;have e0:=(((sb.at (i:=0) U2).part dS.GX).part EndD.wI).int;have e1:=(((sb.at (i:=0) U2).part dS.GX).part EndD.Q0).int;have lb : ∀{K:View},Un.ev K .len vb=UK (UH UI 1):=sb.len;have li : ∀{K:View},Un.ev K .len vi=UK (UH UI 1):=si.len;have qi:=si.idxn (k:=.i64) (N:=8) rfl (i:=0) U1 U2;obtain⟨um,hum,rum⟩:=(si.at (i:=0) U2).ldN rfl (N:=8) rfl;have hum:=hum _ UE;simp at q ki e0 e1 qi hum;subst hz;refine aa λz hz=>?_;simp[kb,lb,q,ki,li];subst hz;refine aa λz hz=>?_;simp[kb,q,ki,qi,hum];refine dw (α:=bz) (X:=vw h8) (z:=zz8) U0 rfl U0 rum U5 U5 λh9 le9 _ at9=>?_;have at9:=at9 (vw h9) le9 rfl;generalize h8.size=C at at9 ⊢;have a0:=(at9.part bz.wI).int;have a1:=(at9.part bz.QY).int;have a6:=(at9.part bz.jD).i32;simp at a0 a1 a6;subst hz;simp[a0,a1,a6,ae le9 kb,q,ae le9 e0,ae le9 e1];exact hK _ _ ⟨UF l04 (UF l48 le9),rfl⟩
def upTo{α:Type}(f:ByteArray->α->ByteArray)(s:ByteArray)(l:List α)(k:Nat):ByteArray:=(l.take k).foldl f s
theorem HK{α:Type}{f:ByteArray->α->ByteArray}{s:ByteArray}{l:List α}:upTo f s l 0=s:=rfl
section
variable{α:Type}[Inhabited α]
theorem nk{f:ByteArray->α->ByteArray}{s:ByteArray}{l:List α}{k:Nat}(h:k<l.length):upTo f s l (k+1)=f (upTo f s l k) (nth l k):=by unfold upTo;rw[To,Si,RK h,aC h];rfl
theorem AW{f:ByteArray->α->ByteArray}{s:ByteArray}{l:List α}{c:Nat}(hc : ∀s i,i<l.length->(f s (nth l i)).size<=s.size+c) : ∀{k:Nat},k<=l.length->(upTo f s l k).size<=s.size+c*k
 | 0,_=>by rw[HK];omega
 | k+1,h=>by rw[nk U1];have h1:=AW (f:=f) (s:=s) hc (k:=k) U1;have h2:=hc (upTo f s l k) k U1;rw[TR];omega
theorem sV{f:ByteArray->α->ByteArray}{s:ByteArray}{l:List α}{c N:Nat}(hc : ∀s i,i<l.length->(f s (nth l i)).size<=s.size+c)(hN:l.length<=N){k:Nat}(hk:k<=l.length):(upTo f s l k).size<=s.size+c*N:=by have h1:=AW (s:=s) hc hk;have h2:c*k<=c*N:=Nat.mul_le_mul_left c U1;omega
end
def rowP(l:List Int):ByteArray:=upTo (λs n=>s++bh n) ⟨#[91]⟩ l l.length++⟨#[93]⟩
def inP(s:ByteArray)(x:InD):ByteArray:=s++bh x.frm++⟨#[58]⟩++bh x.val
def phiP(s:ByteArray)(p:PhiD):ByteArray:=upTo inP (s++⟨#[112,104,105,32]⟩++bh p.dst) p.ins p.ins.length
def insP(s:ByteArray)(x:InsD):ByteArray:=s++⟨#[59]⟩++bh x.op++bh x.dst++bh x.two++rowP x.args++bh x.imm.v
def Gs(s:ByteArray)(t:cS):ByteArray:=s++⟨#[124]⟩++bh t.kind++rowP t.args++rowP t.to++bh t.imm.v
def blkP(s:ByteArray)(b:BlkD):ByteArray:=Gs (upTo insP (upTo phiP (s++⟨#[10]⟩) b.phis b.phis.length) b.ins b.ins.length) b.term
def JF(f:ak):ByteArray:=upTo blkP (bh f.params) f.blocks f.blocks.length
theorem wJ{l:List Int}(h:l.length<=10000){k:Nat}(hk:k<=l.length):(upTo (λs n=>s++bh n) ⟨#[91]⟩ l k).size<=220001:=by have h1:=sV (f:=λs n=>s++bh n) (s:=⟨#[91]⟩) (l:=l) (c:=22) (N:=10000) (λs i _=>by rw[Rv];have:=cf (n:=nth l i);omega) h hk;have e:(⟨#[91]⟩:ByteArray).size=1:=rfl;omega
theorem na{l:List Int}(h:l.length<=10000):(rowP l).size<=220002:=by unfold rowP;have:=wJ h (Q4 _);have e:(⟨#[93]⟩:ByteArray).size=1:=rfl;rw[Rv];omega
theorem Ka{s:ByteArray}{x:InD}:(inP s x).size<=s.size+45:=by unfold inP;have h1:=cf (n:=x.frm);have h2:=cf (n:=x.val);have e:(⟨#[58]⟩:ByteArray).size=1:=rfl;simp only[Rv];omega
theorem Bz{s:ByteArray}{p:PhiD}(h:p.ins.length<=10000){k:Nat}(hk:k<=p.ins.length):(upTo inP (s++⟨#[112,104,105,32]⟩++bh p.dst) p.ins k).size<=s.size+450030:=by have h1:=sV (f:=inP) (s:=s++⟨#[112,104,105,32]⟩++bh p.dst) (l:=p.ins) (c:=45) (N:=10000) (λs i _=>Ka) h hk;have h2:=cf (n:=p.dst);have e:(⟨#[112,104,105,32]⟩:ByteArray).size=4:=rfl;simp only[Rv]at h1;omega
theorem A3{s:ByteArray}{x:InsD}(h:x.args.length<=10000):(insP s x).size<=s.size+220100:=by unfold insP;have h1:=cf (n:=x.op);have h2:=cf (n:=x.dst);have h3:=cf (n:=x.two);have h4:=cf (n:=x.imm.v);have h5:=na h;have e:(⟨#[59]⟩:ByteArray).size=1:=rfl;simp only[Rv];omega
theorem FK{s:ByteArray}{x:cS}(h:x.args.length<=10000)(h':x.to.length<=10000):(Gs s x).size<=s.size+440100:=by unfold Gs;have h1:=cf (n:=x.kind);have h4:=cf (n:=x.imm.v);have h5:=na h;have h6:=na h';have e:(⟨#[124]⟩:ByteArray).size=1:=rfl;simp only[Rv];omega
theorem uu{s:ByteArray}{b:BlkD}(h:SmB b){k:Nat}(hk:k<=b.phis.length):(upTo phiP (s++⟨#[10]⟩) b.phis k).size<=s.size+4500300001:=by have h1:=sV (f:=phiP) (s:=s++⟨#[10]⟩) (l:=b.phis) (c:=450030) (N:=10000) (λs i hi=>Bz (h.phi i hi) (Q4 _)) h.phis hk;have e:(⟨#[10]⟩:ByteArray).size=1:=rfl;simp only[Rv]at h1;omega
theorem zM{s:ByteArray}{b:BlkD}(h:SmB b){k:Nat}(hk:k<=b.ins.length):(upTo insP (upTo phiP (s++⟨#[10]⟩) b.phis b.phis.length) b.ins k).size<=s.size+6701300001:=by have h1:=sV (f:=insP) (s:=upTo phiP (s++⟨#[10]⟩) b.phis b.phis.length) (l:=b.ins) (c:=220100) (N:=10000) (λs i hi=>A3 (h.inn i hi)) h.ins hk;have h2:=uu (s:=s) h (Q4 _);omega
theorem HP{s:ByteArray}{b:BlkD}(h:SmB b):(blkP s b).size<=s.size+7000000000:=by unfold blkP;have h1:=FK (s:=upTo insP (upTo phiP (s++⟨#[10]⟩) b.phis b.phis.length) b.ins b.ins.length) h.args h.to;have h2:=zM (s:=s) h (Q4 _);omega
theorem Dt{f:ak}(h:SmF f){k:Nat}(hk:k<=f.blocks.length):(upTo blkP (bh f.params) f.blocks k).size<=70000000000022:=by have h1:=sV (f:=blkP) (s:=bh f.params) (l:=f.blocks) (c:=7000000000) (N:=10000) (λs i hi=>HP (h.blk i hi)) h.len hk;have:=cf (n:=f.params);omega
theorem xc{l:List Int}{v:Value}{h:Heap}(hv:SlRd (vw h) v l)(hl:l.length<=10000):ay UQ 62 #[v] h (λu h'=>u = .string (rowP l)/\(vw h).le (vw h')):=by
 refine aq (args:=[v]) follows Tryz.func62 E.fN UC λKc hK=>?_;dsimp only[L.fN,lkF,lkG];simp;refine cL [0,2,3,4] (fun(_:Unit) k=>[v,.string ⟨#[]⟩,.string (upTo (λs n=>s++bh n) ⟨#[91]⟩ l k),UH UI k]) (λ_ k h1=>(vw h).le (vw h1)) l.length ()
  rfl U1 rfl UE (λ_ _=>rfl) (λ_ k h1 hk t=>?_) ?_ ?_
 ·simp[(hv.mono t).len]
 ·rintro _ k h1 hk t K2 hK2;have hv1:=hv.mono t;have hr:I64 (nth l k):=by have:=(hv1.at hk).rng;rwa [<-aC hk]at this
  simp(disch:=omega)[hv1.idx1 rfl,hv1.int UE];refine ah U0 (ez hr) ?_;rintro _ h2 ⟨rfl,t2⟩;have e1:=wJ hl (Nat.le_of_lt hk);have e2:=cf (n:=nth l k);simp[fo (a:=upTo (λs n=>s++bh n) ⟨#[91]⟩ l k) (b:=bh (nth l k)) U1];refine hK2 () _ _ rfl (by simp[nk hk];rfl) (UF t t2)
 rintro _ h1 t;have e1:=wJ hl (Q4 _);have e:(⟨#[93]⟩:ByteArray).size=1:=rfl;simp[fo (a:=upTo (λs n=>s++bh n) ⟨#[91]⟩ l l.length) (b:=⟨#[93]⟩) U1];exact hK _ _ ⟨rfl,t⟩
theorem At.nYq{H:View}{a:Addr}{d:I32}(h:At H a d):I64 d.v:=by obtain⟨v,_,h2⟩:=h.load rfl;obtain⟨_,h3,h4⟩:=h2;exact U6
theorem Cz{α:Type}[Rep α][Inhabited α]{H:View}{v:Value}{l:List α}(h:SlRd H v l){N:Nat}(hn:Rep.n α=N){i:Nat}(hi:i<l.length):At H ((slA v).add (i*N)) (nth l i):=by subst hn;rw[aC hi];exact h.at hi
theorem JS{X i:Nat}{p1 p4:Value}{d:BlkD}{s0:ByteArray}{h:Heap}{Q:Post}{ρ:Env}(ha:At (vw h) ⟨X,0,UL⟩ d)(sm:SmB d)(hi:i<d.phis.length)(hs:s0.size<=100000000000000)(hρ:aX [1,3,4,5,6,7] ρ=[1,3,4,5,6,7].zip [p1,.string (s0++(⟨#[112,104,105,32]⟩:ByteArray)++bh (nth d.phis i).dst),p4,ptz X,UH UI i,UH UI 0])(hQ : ∀h' x,(vw h).le (vw h')->Q .normal ([1,3,4,5,6,7].zip [p1,.string (phiP s0 (nth d.phis i)),p4,ptz X,UH UI i,x]) h'):
  LC.wp UQ L.bH.l3.loop (dT 4 Q) ρ h:=by
 have sp:=sm.phis;have si:=sm.phi i hi;obtain⟨vp,vi,va,vt,cp,_⟩:=iK ha;obtain⟨vn,cn,sn⟩:=((Cz cp.2 (N:=2) rfl hi).part PhiD.gO).sl;obtain⟨l,hl⟩ : ∃l,l=(nth d.phis i).ins:=⟨_,rfl⟩;rw[<-hl]at si sn;refine cL [1,3,4,5,6,7] (fun(_:Unit) k=>[p1,.string (upTo inP (s0++(⟨#[112,104,105,32]⟩:ByteArray)++bh (nth d.phis i).dst) l k),p4,ptz X,UH UI i,UH UI k]) (λ_ k h1=>(vw h).le (vw h1)) l.length ()
  rfl U1 hρ UE (λ_ _=>rfl) (λ_ k h1 hk t=>?_) ?_ ?_
 ·simp(disch:=omega)[ae t cp.1,(cp.2.mono t).idxn (N:=2) rfl,ae t cn,(sn.mono t).len]
 ·rintro _ k h1 hk t K2 hK2;have aI:=Cz sn (N:=2) rfl hk;have e1:=Bz (s:=s0) (p:=nth d.phis i) (by rw[<-hl];exact si) (k:=k) (by rw[<-hl];omega);rw[<-hl]at e1;have e2:=cf (n:=(nth l k).frm);have e3:(⟨#[58]⟩:ByteArray).size=1:=rfl;have e4:=cf (n:=(nth l k).val);refine aK (vw h1) UE ?_;simp(disch:=omega)[ae t cp.1,(cp.2.mono t).idxn (N:=2) rfl,ae t cn,(sn.mono t).idxn (N:=2) rfl,ae t (aI.part InD.I6).int,ae t (aI.part InD.BB).int];refine ah U0 (ez (aI.part InD.I6).rng) ?_;rintro _ h2 ⟨rfl,t2⟩;generalize hsk:upTo inP (s0++(⟨#[112,104,105,32]⟩:ByteArray)++bh (nth d.phis i).dst) l k=sk at e1;refine⟨t2,?_⟩;simp[fo (a:=sk) (b:=bh (nth l k).frm) U1,fo (a:=sk++bh (nth l k).frm) (b:=⟨#[58]⟩) (by simp only[Rv];omega)];refine ah U0 (ez (aI.part InD.BB).rng) ?_;rintro _ h3 ⟨rfl,t3⟩;simp[fo (a:=sk++bh (nth l k).frm++⟨#[58]⟩) (b:=bh (nth l k).val) (by simp only[Rv];omega)];refine hK2 () _ _ rfl ?_ (UF t (UF t2 t3));rw[nk hk,hsk];rfl
 rintro _ h1 t;have:=hQ _ (UH UI l.length) t;unfold phiP at this;rw[<-hl]at this;exact this
theorem KA{X:Nat}{p1 p4:Value}{d:BlkD}{s0:ByteArray}{h:Heap}{Q:Post}{ρ:Env}(ha:At (vw h) ⟨X,0,UL⟩ d)(sm:SmB d)(hs:s0.size<=80000000000000)(hρ:aX [1,3,4,5,6] ρ=[1,3,4,5,6].zip [p1,.string (s0++(⟨#[10]⟩:ByteArray)),p4,ptz X,UH UI 0])(hQ : ∀h' x,(vw h).le (vw h')->Q .normal ([1,3,4,5,6].zip [p1,.string (upTo phiP (s0++(⟨#[10]⟩:ByteArray)) d.phis d.phis.length),p4,ptz X,x]) h'):
  LC.wp UQ L.bH.l2.loop (dT 2 Q) ρ h:=by
 have sp:=sm.phis;obtain⟨vp,vi,va,vt,cp,_⟩:=iK ha;refine cL [1,3,4,5,6] (fun(_:Unit) i=>[p1,.string (upTo phiP (s0++(⟨#[10]⟩:ByteArray)) d.phis i),p4,ptz X,UH UI i]) (λ_ i h1=>(vw h).le (vw h1)) d.phis.length ()
  rfl U1 hρ UE (λ_ _=>rfl) (λ_ i h1 hk t=>?_) ?_ ?_
 ·simp[ae t cp.1,(cp.2.mono t).len]
 ·rintro _ i h1 hi t K2 hK2;have aP:=Cz cp.2 (N:=2) rfl hi;have e1:=uu (s:=s0) sm (k:=i) U1;have e2:=cf (n:=(nth d.phis i).dst);have e3:(⟨#[112,104,105,32]⟩:ByteArray).size=4:=rfl;have hsc:=nk (f:=phiP) (s:=s0++(⟨#[10]⟩:ByteArray)) hi;generalize upTo phiP (s0++(⟨#[10]⟩:ByteArray)) d.phis i=sk at e1 hsc;refine aa λy hy=>?_;simp(disch:=omega)[ae t cp.1,(cp.2.mono t).idxn (N:=2) rfl,ae t (aP.part PhiD.gm).int,fo (a:=sk) (b:=⟨#[112,104,105,32]⟩) U1];refine ah U0 (ez (aP.part PhiD.gm).rng) ?_;rintro _ h2 ⟨rfl,t2⟩;simp[fo (a:=sk++⟨#[112,104,105,32]⟩) (b:=bh (nth d.phis i).dst) (by simp only[Rv];omega)];subst hy;simp;refine JS (ha.mono (UF t t2)) sm hi (s0:=sk) U1 rfl λh3 x t3=>?_;simp;refine hK2 () _ _ rfl ?_ (UF t (UF t2 t3));rw[hsc];rfl
 rintro _ h1 t;exact hQ _ (UH UI d.phis.length) t
theorem Kk{X:Nat}{p1 p4:Value}{d:BlkD}{s0:ByteArray}{h:Heap}{Q:Post}{ρ:Env}(ha:At (vw h) ⟨X,0,UL⟩ d)(sm:SmB d)(hs:s0.size<=90000000000000)(hρ:aX [1,3,4,5,8] ρ=[1,3,4,5,8].zip [p1,.string s0,p4,ptz X,UH UI 0])(hQ : ∀h' x,(vw h).le (vw h')->Q .normal ([1,3,4,5,8].zip [p1,.string (upTo insP s0 d.ins d.ins.length),p4,ptz X,x]) h'):
  LC.wp UQ L.bH.l4.loop (dT 6 Q) ρ h:=by
 have sp:=sm.ins;obtain⟨vp,vi,va,vt,_,cp,_⟩:=iK ha;refine cL [1,3,4,5,8] (fun(_:Unit) i=>[p1,.string (upTo insP s0 d.ins i),p4,ptz X,UH UI i]) (λ_ i h1=>(vw h).le (vw h1)) d.ins.length ()
  rfl U1 hρ UE (λ_ _=>rfl) (λ_ i h1 hk t=>?_) ?_ ?_
 ·simp[ae t cp.1,(cp.2.mono t).len]
 ·rintro _ i h1 hi t K2 hK2;have aP:=Cz cp.2 (N:=5) rfl hi;have e1:=sV (f:=insP) (s:=s0) (l:=d.ins) (c:=220100) (N:=10000) (λs i hi=>A3 (sm.inn i hi)) sm.ins (k:=i) U1;have sa:=sm.inn i hi;have hsc:=nk (f:=insP) (s:=s0) hi;generalize upTo insP s0 d.ins i=sk at e1 hsc;obtain⟨v3,c3,s3⟩:=(aP.part InsD.eX).sl;have c0:=(aP.part InsD.wI).int;have c1:=(aP.part InsD.gm).int;have c2:=(aP.part InsD.xV).int;have c4:=(aP.part InsD.jD).i32;have r0:=(aP.part InsD.wI).rng;have r1:=(aP.part InsD.gm).rng;have r2:=(aP.part InsD.xV).rng;have r4:=At.nYq (aP.part InsD.jD);generalize nth d.ins i=x at c0 c1 c2 c3 c4 s3 r0 r1 r2 r4 sa hsc;have d0:=cf (n:=x.op);have d1:=cf (n:=x.dst);have d2:=cf (n:=x.two);have d4:=cf (n:=x.imm.v);have d3:=na sa;have e3:(⟨#[59]⟩:ByteArray).size=1:=rfl;have hw:IntKind.i64.wrap x.imm.v=x.imm.v:=bc r4.1 r4.2;refine aK (vw h1) UE ?_;simp(disch:=omega)[ae t cp.1,(cp.2.mono t).idxn (N:=5) rfl,ae t c0,ae t c1,ae t c2,ae t c3,ae t c4,fo (a:=sk) (b:=⟨#[59]⟩) U1];refine ah U0 (ez r0) ?_;rintro _ h2 ⟨rfl,t2⟩;refine⟨t2,?_⟩;simp[fo (a:=sk++⟨#[59]⟩) (b:=bh x.op) (by simp only[Rv];omega)];refine ah U0 (ez r1) ?_;rintro _ h3 ⟨rfl,t3⟩;refine⟨UF t2 t3,?_⟩;simp[fo (a:=sk++⟨#[59]⟩++bh x.op) (b:=bh x.dst) (by simp only[Rv];omega)];refine ah U0 (ez r2) ?_;rintro _ h4 ⟨rfl,t4⟩;have t14:=UF t2 (UF t3 t4);refine⟨t14,?_⟩;simp[fo (a:=sk++⟨#[59]⟩++bh x.op++bh x.dst) (b:=bh x.two) (by simp only[Rv];omega)];refine ah U0 (xc (s3.mono (UF t t14)) sa) ?_;rintro _ h5 ⟨rfl,t5⟩;have t15:=UF t14 t5;refine⟨t15,?_⟩;simp[fo (a:=sk++⟨#[59]⟩++bh x.op++bh x.dst++bh x.two) (b:=rowP x.args) (by simp only[Rv];omega),hw];refine ah U0 (ez r4) ?_;rintro _ h6 ⟨rfl,t6⟩;simp[fo (a:=sk++⟨#[59]⟩++bh x.op++bh x.dst++bh x.two++rowP x.args) (b:=bh x.imm.v) (by simp only[Rv];omega)];refine hK2 () _ _ rfl ?_ (UF t (UF t15 t6));rw[hsc];rfl
 rintro _ h1 t;exact hQ _ (UH UI d.ins.length) t
theorem xB{f:ak}{v:Value}{h:Heap}(hv:Rd (vw h) v f)(sm:SmF f):ay UQ 18 #[v] h (λu h'=>u = .string (JF f)/\(vw h).le (vw h')):=by
 refine aq (args:=[v]) follows Tryz.func18 E.bH UC λKc hK=>?_;dsimp only[L.bH,lkF,lkG];refine aa λz hz=>?_;simp;refine fT rfl hv λh1 _ hle1 hsz1 hat=>?_;obtain⟨c0,vb,cb⟩:=eU hat;have ip:=(hat.part ak.zY).rng;generalize h.size=B at hat c0 cb;subst hz;refine aa λz hz=>?_;simp[c0];refine ah U0 (ez ip) ?_;rintro _ h2 ⟨rfl,t2⟩;subst hz;refine aa λz hz=>?_;simp;have hbl:=sm.len;refine cL [1,3,4] (fun(_:Unit) b=>[ptz B,.string (upTo blkP (bh f.params) f.blocks b),UH UI b]) (λ_ b h3=>(vw h1).le (vw h3)) f.blocks.length ()
  rfl U1 rfl t2 (λ_ _=>rfl) (λ_ b h3 hb t=>?_) ?_ ?_
 ·simp[ae t cb.1,(cb.2.mono t).len]
 ·rintro _ b h3 hb t K2 hK2;have sb:=cb.2.mono t;obtain⟨ub,hub,rub⟩:=sb.wh rfl (N:=6) rfl hb;have smb:=sm.blk b hb;have e1:=Dt sm (k:=b) U1;have e2:(⟨#[10]⟩:ByteArray).size=1:=rfl;have hsc:=nk (f:=blkP) (s:=bh f.params) hb;generalize upTo blkP (bh f.params) f.blocks b=s0 at e1 hsc;generalize nth f.blocks b=d at rub smb hsc;refine aa λy hy=>?_;simp(disch:=omega)[ae t cb.1,sb.idxn (N:=6) rfl,hub _ UE];refine G8 (d:=d) (z:=zz3) U0 rfl U0 rub U5 U5 λh4 t4 _ _ hat4=>?_;generalize h3.size=X at hat4;subst hy;refine aa λy hy=>?_;simp[fo (a:=s0) (b:=⟨#[10]⟩) U1];subst hy;refine aa λy hy=>?_;simp;refine KA hat4 smb (s0:=s0) U1 rfl λh5 x5 t5=>?_;subst hy;refine aa λy hy=>?_;simp;have e5:=uu (s:=s0) smb (Q4 _);refine Kk (hat4.mono t5) smb (s0:=upTo phiP (s0++⟨#[10]⟩) d.phis d.phis.length) U1 rfl λh6 x6 t6=>?_;have e6:=zM (s:=s0) smb (Q4 _);have hat6:=hat4.mono (UF t5 t6);have hbl:blkP s0 d=Gs (upTo insP (upTo phiP (s0++⟨#[10]⟩) d.phis d.phis.length) d.ins d.ins.length) d.term:=rfl;rw[hbl]at hsc;generalize upTo insP (upTo phiP (s0++⟨#[10]⟩) d.phis d.phis.length) d.ins d.ins.length=sk at e6 hsc;subst hy;obtain⟨vp,vi,va,vt,_,_,ck,ca,ct⟩:=iK hat6;have ht:=hat6.part BlkD.lF;have r0:=(ht.part cS.yU).rng;have r4:=At.nYq (ht.part cS.jD);have c4:an (vw h6) ⟨X,5,UL⟩=UK (UH UJ d.term.imm.v):=by simpa using(ht.part cS.jD).i32
  have sa:=smb.args;have st:=smb.to;generalize d.term=x at ck ca ct c4 r0 r4 sa st hsc;have d0:=cf (n:=x.kind);have d4:=cf (n:=x.imm.v);have d1:=na sa;have d2:=na st;have e3:(⟨#[124]⟩:ByteArray).size=1:=rfl;have hw:IntKind.i64.wrap x.imm.v=x.imm.v:=bc r4.1 r4.2;refine aK (vw h6) UE ?_;simp(disch:=omega)[ck,ca.1,ct.1,c4,hw,fo (a:=sk) (b:=⟨#[124]⟩) U1];refine ah U0 (ez r0) ?_;rintro _ h7 ⟨rfl,t7⟩;refine⟨t7,?_⟩;simp[fo (a:=sk++⟨#[124]⟩) (b:=bh x.kind) (by simp only[Rv];omega)];refine ah U0 (xc (ca.2.mono t7) sa) ?_;rintro _ h8 ⟨rfl,t8⟩;have t68:=UF t7 t8;refine⟨t68,?_⟩;simp[fo (a:=sk++⟨#[124]⟩++bh x.kind) (b:=rowP x.args) (by simp only[Rv];omega)];refine ah U0 (xc (ct.2.mono t68) st) ?_;rintro _ h9 ⟨rfl,t9⟩;have t69:=UF t68 t9;refine⟨t69,?_⟩;simp[fo (a:=sk++⟨#[124]⟩++bh x.kind++rowP x.args) (b:=rowP x.to) (by simp only[Rv];omega)];refine ah U0 (ez r4) ?_;rintro _ h10 ⟨rfl,t10⟩;simp[fo (a:=sk++⟨#[124]⟩++bh x.kind++rowP x.args++rowP x.to) (b:=bh x.imm.v) (by simp only[Rv];omega)];refine hK2 () _ _ rfl ?_ (UF t (UF t4 (UF t5 (UF t6 (UF t69 t10)))));rw[hsc];rfl
 rintro _ h3 t;simp;subst hz;simp;exact hK _ _ ⟨rfl,UF hle1 t⟩
theorem I3{X W':View}{M:Nat}{vm:Value}{c:MFnD}(r:Rd (α:=MFnN X) W vm c)(hM:W' M=UK (.cells vm.cells T.gN (0,0)))(hle:W.le W'): ∃ub,zi X W' M ub/\Rd (α:=NRow nothing T.dU (fw X)) W' ub c.blocks:=by unfold Rd at r;rw[if_pos (show Rep.agg (MFnN X)=UO from rfl)]at r;obtain⟨cs,rfl,c1,c2,e,⟨h1,-⟩,ub,h2,s,ly⟩:=r;subst h1 h2;refine⟨ub,λh' d=>?_,(jN (α:=fw X)).2 ⟨SlRd.mono (α:=fw X) s hle,ly.mono hle⟩⟩;have hb:=d.st M _ _ hM U3 U3;have:=jf (H:=vw h') (a:=⟨M,0,UL⟩) (cs:=cs.toList) ⟨cs,T.gN,(0,0),rfl,hb,by rw[SM];exact RR⟩ (i:=1) (v:=ub) (by rw[e];rfl);rwa [Addr.z,R1]at this
theorem EB{u:Value}{d:aO}(h:Rd W u d):u = .agg #[UH UI d.pat,UH UI d.cost]:=by unfold Rd at h;rw[if_pos (show Rep.agg aO=UO from rfl)]at h;obtain⟨cs,rfl,c1,c2,e,⟨h1,-⟩,h2,-⟩:=h;subst h1 h2;rw[<-Array.toList_inj.1 (show cs.toList = #[UH UI d.pat,UH UI d.cost].toList from e)]
set_option maxHeartbeats 8000000 in
theorem CJ{s t:List Int}{vs vt:Value}{h:Heap}(ht:Tab h)(hM:ib)(hs:SlRd (vw h) vs s)(htb:SlRd (vw h) vt t):
  ay UQ 6 #[vs,vt] h (λu h'=>u = .bool UO/\(vw h).le (vw h')):=by
 refine aq (args:=[vs,vt]) follows Tryz.func6 E.az UC λK hK=>?_;dsimp only[L.az,lkF,lkG];refine aa λz hz=>?_;simp;subst hz;refine aa λz hz=>?_;simp;refine ah U0 (HB ht hM) ?_;rintro _ h2 ⟨l02,rfl⟩;subst hz;refine aa λz hz=>?_;simp;refine ah U0 (y6 (hs.mono l02)) ?_;rintro us _ ⟨rfl,s3⟩;refine ah U0 (LR (Owns.start UE) (λ_ _=>rfl) s3) ?_;rintro uf h4 ⟨W4,hW4,w4,rf⟩;have rf:=rf.mono w4.wle;have l24:=UF hW4 w4.wle;have l04:=UF l02 l24;have hsm:=MQ (s:=s.take 300);generalize vJ (s.take 300)=f at rf hsm;refine dw (X:=vw h4) (z:=zz4) U0 rfl U0 rf U5 U5 λh5 hle5 _ at5=>?_;have at5:=at5 (vw h5) hle5 rfl;generalize h4.size=B at at5 ⊢;obtain⟨uF,huF,rF⟩:=at5.ldN rfl (N:=2) rfl;have l05:=UF l04 hle5;subst hz;refine aa λz hz=>?_;simp;refine ah U0 (y6 (htb.mono l05)) ?_;rintro ut _ ⟨rfl,s6⟩;refine ah U0 (Ee s6) ?_;rintro ul h7 ⟨hle7,sl⟩;have l07:=UF l05 hle7;subst hz;refine aa λz hz=>?_;simp[huF _ hle7];refine ah U0 (xB (rF.mono hle7) hsm) ?_;rintro _ h8 ⟨rfl,hle8⟩;have l58:=UF hle7 hle8;have l08:=UF l07 hle8;subst hz;refine aa λz hz=>?_;simp[huF _ l58];refine ah U0 (rL (Owns.start (View.le_refl (vw h8))) (λ_ _=>rfl) (rF.mono l58) (sl.mono hle8) hsm (ht.mono l08) hM) ?_;rintro _ h9 ⟨W9,vm,hso,hle9,w9,rfl,rm⟩;simp;refine G8 (α:=MFnN (vw h8)) (d:=(gW f (tabS (t.take 300))).code) (z:=zz4) U0 rfl U0 (rm.mono w9.wle) U5 U5 λh10 hle10 hs10 hb10 _=>?_;have w10:=w9.ext hle10;obtain⟨ub,cM,rb⟩:=I3 (M:=h9.size) (W':=grow W9 h9 h10) rm (by rw[bY (Q4 _)];exact hb10) (bo w9.wle);have d10:=ft.start (X:=vw h8) (UF hle9 hle10) w10.wle;generalize grow W9 h9 h10=W10 at *;generalize h9.size=M at *;subst hz;refine aa λz hz=>?_;simp;refine MY cM rb d10 rfl λh11 y11 d11=>?_;have l811:=d11.old;have l011:=UF l08 l811;clear w9 w10 rm d10 d11 cM rb hso;subst hz;refine aa λz hz=>?_;simp;refine ah U0 (y6 (htb.mono l011)) ?_;rintro ut2 _ ⟨rfl,s12⟩;refine ah U0 (Ee s12) ?_;rintro uk h12 ⟨hle12,sk⟩;have l812:=UF l811 hle12;have sl:=sl.mono (UF hle8 l812);have hl74:=Hn (s:=t.take 300);generalize tabS (t.take 300)=l at sl sk hl74;have sll : ∀{K:View},Un.ev K .len ul=UK (UH UI l.length):=sl.len;subst hz;refine aa λz hz=>?_;simp;refine cL [5,6,7,8,18,19] (fun(_:Unit) i=>[.bool UO,ptz B,ul,.string (JF f),uk,UH UI i]) (λ_ i hx=>hx=h12) l.length ()
  U0 U1 (by simp[aX,af,ag]) rfl (λ_ _=>rfl) (λ_ i hx hi e=>by simp[sll]) ?_ ?_
 ·rintro _ i hx hi rfl K2 hK2;have q1:=sl.idxn (k:=.i64) (N:=2) rfl (i:=(i:Int)) U1 U1;have q2:=sk.idxn (k:=.i64) (N:=2) rfl (i:=(i:Int)) U1 U1;obtain⟨u1,e1,r1⟩:=sl.wh rfl (N:=2) rfl hi;obtain⟨u2,e2,r2⟩:=sk.wh rfl (N:=2) rfl hi;have a1:=EB r1;have a2:=EB r2;subst a1 a2;simp at q1 q2;refine aa λy hy=>?_;refine aK (vw hx) UE ?_;simp[q1,q2,e1 _ UE,e2 _ UE];refine Jd (e:=T.int) (ki:=.i64) U0 U0 U0 U0 U0 U0 rfl rfl ?_;subst hy;simp;exact hK2 () _ _ rfl rfl rfl
 rintro _ hx rfl;have huF:=huF _ (UF l58 l812);simp;subst hz;simp[huF];refine ah U0 (xB (rF.mono (UF l58 l812)) hsm) ?_;rintro _ h13 ⟨rfl,hle13⟩;simp[FN];exact hK _ _ ⟨rfl,UF l08 (UF l812 hle13)⟩
end Go.Lft
