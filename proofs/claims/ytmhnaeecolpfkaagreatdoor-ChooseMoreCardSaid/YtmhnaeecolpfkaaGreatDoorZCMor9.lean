/- A part of the proof: Aq, Ar, As, At, Au, Av, Aw. -/
import Derived.Test.YtmhnaeecolpfkaaGreatDoorZCMor8
set_option linter.unusedSimpArgs false
set_option linter.unusedVariables false
open Go.Value renaming int->VB,slice->VG,pointer->VH
open Go.IntKind renaming i64->VC,i32->VD
open Option renaming some->VE,none->VF
open Bool renaming true->VI,false->VJ
open Go.Proofs.Tryz renaming prog->VK
open Go.Proofs
namespace Go.Lft
abbrev lR:=Cat Raw (Cat Raw EndD)
theorem Hc:Part lR Raw 0 (λd=>d.a) (λd x=>⟨x,d.b⟩):=(Part.fst Part.all).via (λ_=>rfl) λ_ _=>rfl
theorem KI:Part lR Raw 1 (λd=>d.b.a) (λd x=>⟨d.a,⟨x,d.b.b⟩⟩):=(Part.snd (Part.fst Part.all)).via (λ_=>rfl) λ_ _=>rfl
theorem OO:Part lR EndD 2 (λd=>d.b.b) (λd x=>⟨d.a,⟨d.b.a,x⟩⟩):=(Part.snd (Part.snd Part.all)).via (λ_=>rfl) λ_ _=>rfl
def layO (o:Own) (Bm:Nat) (pv iv rv:Value) (fin:EndD) (ins:List bU) (Bt:Nat) (temp:Int) (Bn:Nat) (many:Bool):Own:=λk=>if k=(0,0) then bx T.gF Bm (⟨⟨pv⟩,⟨⟨iv⟩,fin⟩⟩:lR) else if k=(0,2) then it T.du rv ins else if k=(0,3) then bx T.int Bt temp else if k=(0,5) then bx T.bool Bn many else o k
section
variable {o:Own} {Bm Bt Bn:Nat} {pv iv rv:Value} {fin:EndD} {ins:List bU} {temp:Int} {many:Bool}
theorem FQ:layO o Bm pv iv rv fin ins Bt temp Bn many (0,0)=bx T.gF Bm (⟨⟨pv⟩,⟨⟨iv⟩,fin⟩⟩:lR):=rfl
theorem Kf:layO o Bm pv iv rv fin ins Bt temp Bn many (0,2)=it T.du rv ins:=rfl
theorem CQ:layO o Bm pv iv rv fin ins Bt temp Bn many (0,3)=bx T.int Bt temp:=rfl
theorem Lr:layO o Bm pv iv rv fin ins Bt temp Bn many (0,5)=bx T.bool Bn many:=rfl
theorem Hb{pv2 iv2:Value}{fin2:EndD}:(layO o Bm pv iv rv fin ins Bt temp Bn many).upd (0,0) (bx T.gF Bm (⟨⟨pv2⟩,⟨⟨iv2⟩,fin2⟩⟩:lR))=layO o Bm pv2 iv2 rv fin2 ins Bt temp Bn many:=by funext k;unfold Own.upd layO;split<;>rfl
theorem NJ{rv2:Value}{ins2:List bU}:(layO o Bm pv iv rv fin ins Bt temp Bn many).upd (0,2) (it T.du rv2 ins2)=layO o Bm pv iv rv2 fin ins2 Bt temp Bn many:=by
 funext k;unfold Own.upd layO;by_cases c:k=(0,2)
 ·subst c;rfl
 simp only[if_neg c]
theorem M3{t2:Int}:(layO o Bm pv iv rv fin ins Bt temp Bn many).upd (0,3) (bx T.int Bt t2)=layO o Bm pv iv rv fin ins Bt t2 Bn many:=by
 funext k;unfold Own.upd layO;by_cases c:k=(0,3)
 ·subst c;rfl
 simp only[if_neg c]
theorem MB{n2:Bool}:(layO o Bm pv iv rv fin ins Bt temp Bn many).upd (0,5) (bx T.bool Bn n2)=layO o Bm pv iv rv fin ins Bt temp Bn n2:=by
 funext k;unfold Own.upd layO;by_cases c:k=(0,5)
 ·subst c;rfl
 simp only[if_neg c]
theorem yq{a:Nat}{x:Option Lft.Item}:(layO o Bm pv iv rv fin ins Bt temp Bn many).upd (1,a) x=layO (o.upd (1,a) x) Bm pv iv rv fin ins Bt temp Bn many:=by
 funext k;unfold Own.upd layO;by_cases c:k=(1,a)
 ·subst c;rfl
 simp only[if_neg c]
theorem nz{a:Nat}:layO o Bm pv iv rv fin ins Bt temp Bn many (1,a)=o (1,a):=rfl
theorem DT{a:Nat}{x:Option Lft.Item}(h:o (1,a)=VF): ∀k i,layO o Bm pv iv rv fin ins Bt temp Bn many k=VE i->layO (o.upd (1,a) x) Bm pv iv rv fin ins Bt temp Bn many k=VE i:=λk i hk=>by
 by_cases c:k=(1,a)
 ·subst c;rw[nz,h]at hk;cases hk
 unfold layO at hk ⊢;rw[Own.aB c];exact hk
end
theorem qC{Y:View}{h h':Heap}:(grow nothing h h').le (grow Y h h'):=λb x hb=>by
 unfold grow at hb ⊢;split at hb
 ·cases hb
 rename_i c;rw[if_neg c];exact hb
set_option maxHeartbeats 2000000 in
theorem Jv{n:Nat}{X Y:View}{h:Heap}{o:Own}{Bm Bt Bn Bf Bk Bb:Nat}{pv iv:Value}{fin:EndD}{ins:List bU}{temp:Int}{many:Bool}{f:ak}{b i:Nat}{pat:Int}(w:Held n X Y h (layO o Bm pv iv iv fin ins Bt temp Bn many))(h10:o (1,0)=VF)(h11:o (1,1)=VF)(atF:At Y ⟨Bf,0,VF⟩ f)(ck:ao Y ⟨Bk,0,VF⟩=VE (VB VC b))(atB:At Y ⟨Bb,0,VF⟩ (nth f.blocks b))(hsm:SmF f)(hM:iG)(hb:b<f.blocks.length)(hi:i<=(nth f.blocks b).ins.length)(hp:I64 pat)(ht:0<=temp/\temp<=1000000000000)(hins:ins.length<=1000000000):
  az VK 50 #[VB VC i,VB VC pat,ptz Bf,ptz Bk,ptz Bt,ptz Bm,ptz Bb,ptz Bn] h
   (λu h'=>∃Y' iv',Y.le Y'/\Held n X Y' h' (layO o Bm pv iv' iv' (if i=(nth f.blocks b).ins.length then AW (fO f b i pat temp) else fin) (ins++sS (fO f b i pat temp)) Bt (if pat=26\/pat=30 then temp+1 else temp) Bn (if pat=26\/pat=30 then many||decide (8192<=temp) else many))):=by
 refine aq (args:=[VB VC i,VB VC pat,ptz Bf,ptz Bk,ptz Bt,ptz Bm,ptz Bb,ptz Bn]) follows Tryz.func50 E.dK Vw λK hK=>?_;dsimp only[L.dK,lkF,lkG];obtain⟨c1,c2,c3⟩:=J3 (i:=i) (pat:=pat) (temp:=temp) hsm hb;have hil:(nth f.blocks b).ins.length<=10000:=(hsm.blk b hb).ins;obtain⟨uF,huF,rF⟩:=atF.ldN rfl (N:=2) rfl;have tc:ao (vw h) ⟨Bt,0,VF⟩=VE (VB VC temp):=(w.own.at CQ).int;obtain⟨vin,cin,sin⟩:=(atB.part BlkD.jS).list;simp at cin;refine aa λz hz=>?_;simp[huF _ w.own.wle,ae w.own.wle ck,tc];refine ah V0 (KS (b:=(b:Int)) (p:=(i:Int)) (pat:=pat) (temp:=temp) w.own.wle rF hsm (λ_ _ _=>hM) hp (by constructor<;>omega)) ?_;rintro _ h1 ⟨hle1,v1,v2,rfl,s1,r2⟩;have w1:=w.ext hle1;have lY1:Y.le (grow Y h h1):=bz w.own.wle;generalize grow Y h h1=Y1 at *;generalize hcode:sS (fO f b i pat temp)=code at *;generalize hfin:AW (fO f b i pat temp)=fn at *;simp;refine w1.qR (k:=(1,0)) (α:=EndD) (m:=5) (by rw[nz];exact h10) r2 rfl (z:=.agg endZ.toArray) V0 rfl V0 V6 V8 V8 λh2 hle2 w2=>?_;rw[yq]at w2;generalize h1.size=Be at w2;have h10':(o.upd (1,0) (bx T.eU Be fn)) (1,0)=bx T.eU Be fn:=Own.an;have h11':(o.upd (1,0) (bx T.eU Be fn)) (1,1)=none:=by rw[Own.aB V5];exact h11
 generalize ho1:o.upd (1,0) (bx T.eU Be fn)=o1 at *;subst hz;refine aa λz hz=>?_;have s1l : ∀{K:View},Un.ev K .len v1=VE (VB VC code.length):=s1.len;simp[s1l];refine aG [0,1,4,5,6,7,11,25,26,27] (fun(_:Unit) k=>[VB VC i,VB VC pat,ptz Bt,ptz Bm,ptz Bb,ptz Bn,ptz Be,v1,VB VC code.length,VB VC k])
  (λ_ k hx=>∃Yk iv',Y1.le Yk/\Held n X Yk hx (layO o1 Bm pv iv' iv' fin (ins++code.take k) Bt temp Bn many)) code.length ()
  V0 V4 (by simp[bh,af,ag]) ⟨Y1,iv,View.le_refl _,by simpa using w2⟩ (λ_ _=>rfl) (λv i h1 hk m=>by simp) ?_ ?_
 ·rintro _ k h3 hk ⟨Yk,iv',lYk,wk⟩ K2 hK2;have hk:k<code.length:=hk;have sk:=s1.mono lYk;obtain⟨ut,hut,rut⟩:=sk.wh rfl (N:=8) rfl hk;have qt:=(sk.mono wk.own.wle).idxn (k:=.i64) (N:=8) rfl (i:=(k:Int)) V4 V4;simp at qt;have hml:(nth code k).args.length<=10000:=c2 _ (aX hk);refine dB ?_;refine aa λy hy=>?_;simp[qt,hut _ wk.own.wle];refine wk.qR (k:=(1,1)) (α:=bU) (m:=8) (by rw[nz];exact h11') rut rfl (z:=zz8) V0 rfl V0 V6 V8 V8 λh4 hle4 w4=>?_;rw[yq]at w4;generalize h3.size=Bx at w4;subst hy;refine aa λy hy=>?_;have hx1 : ∀{x:Option Lft.Item},(o1.upd (1,1) x) (1,1)=x:=Own.an;obtain⟨va,ka,sa⟩:=((w4.own.at (k:=(1,1)) (B:=Bx) (d:=nth code k) (by rw[nz];exact hx1)).part bU.eX).sl;have ka:ao (vw h4) ⟨Bx,7,VF⟩=VE va:=by simpa using ka
  simp[ka];refine ah V0 (xv sa V4) ?_;rintro u5 h5 ⟨hle5,s5⟩;have w5:=w4.ext hle5;have s5:=s5.mono (qC (Y:=Yk));have lY5:Yk.le (grow Yk h4 h5):=bz w4.own.wle;generalize grow Yk h4 h5=Y5 at *;refine w5.cT (k:=(1,1)) (α:=bU) bU.eX (D:=nth code k) (d:=(nth code k).args) (by rw[nz];exact hx1) V0 V5 V5 (dx.2 s5) λh6 w6=>?_;rw[yq]at w6;have eup:(o1.upd (1,1) (bx T.du Bx (nth code k))).upd (1,1) (bx T.du Bx (nth code k))=o1.upd (1,1) (bx T.du Bx (nth code k)):=by funext q;unfold Own.upd;split<;>rfl
  have w6:Held n X Y5 h6 (layO (o1.upd (1,1) (bx T.du Bx (nth code k))) Bm pv iv' iv' fin (ins++code.take k) Bt temp Bn many):=by rw[<-eup];exact w6
  subst hy;have ki:ao (vw h6) ⟨Bm,1,VF⟩=VE iv':=by simpa using((w6.own.at FQ).part KI).raw
  obtain⟨ux,hux,rux⟩:=w6.own.ldB (k:=(1,1)) (B:=Bx) (d:=nth code k) (by rw[nz];exact hx1) rfl (N:=8) rfl;have htk:(ins++code.take k).length<=2000000000:=by rw[RZ,SG];omega
  simp[ki,hux];refine w6.gu (k:=(0,2)) Kf El.kK V5 rux V4 V4 V8 V8 λu7 v7 h7 w7=>?_;rw[NJ]at w7;have hv7:=(w7.own.cells Kf).2;refine w7.cT (k:=(0,0)) (α:=lR) KI (D:=⟨⟨pv⟩,⟨⟨iv'⟩,fin⟩⟩) (d:=⟨v7⟩) FQ V0 V5 V5 (iZ.2 ⟨rfl,hv7⟩) λh8 w8=>?_;rw[Hb]at w8;have w9:=w8.sub (DT h11');refine hK2 () _ _ (by simp[af,ag]) (by simp[bh,af,ag]) ⟨Y5,v7,Vz lYk lY5,?_⟩;rw[Se hk,<-ay hk,<-List.append_assoc];exact w9
 rintro _ h3 ⟨Yk,iv',lYk,wk⟩;rw[SD]at wk;have lY:=Vz lY1 lYk;simp;subst hz;refine aa λz hz=>?_;have fin_ : ∀(hx:Heap) (Yx:View) (fin':EndD) (ρ:Env),Yk.le Yx->Held n X Yx hx (layO o1 Bm pv iv' iv' fin' (ins++code) Bt temp Bn many)->(if i=(nth f.blocks b).ins.length then fn else fin)=fin'->Slk ρ [(1,VB VC pat),(4,ptz Bt),(7,ptz Bn)]->LC.wp VK z (dT [] K) ρ hx:=by
  intro hx Yx fin' ρ lYx wx hf hS;rw[hz];clear hz;subst hf;simp only[iN,ko,and_true]at hS;obtain⟨e1,e4,e7⟩:=hS;have drop_ : ∀{hy:Heap} {t2:Int} {n2:Bool} {fin':EndD},Held n X Yx hy (layO o1 Bm pv iv' iv' fin' (ins++code) Bt t2 Bn n2)->Held n X Yx hy (layO o Bm pv iv' iv' fin' (ins++code) Bt t2 Bn n2):=λq=>by rw[<-ho1]at q;exact q.sub (DT h10)
  have tc:ao (vw hx) ⟨Bt,0,VF⟩=VE (VB VC temp):=(wx.own.at CQ).int;have nc:ao (vw hx) ⟨Bn,0,VF⟩=VE (.bool many):=(wx.own.at Lr).bool;by_cases cp:pat=26\/pat=30
  ·rw[if_pos cp,if_pos cp]at hK;refine aa λy hy=>?_;have ec:(if pat=26 then Value.bool VI else Value.bool (decide (pat=30))) = .bool true:=by rcases cp with rfl | rfl<;>rfl
   have ep : ∀{H:View} {σ:Nat->Option Value},σ 1=VE (VB VC pat)->ev σ H (.ite (.bin (.cmp .eql) (.tmp 1) (.con (VB VC 26))) (.con (.bool VI)) (.bin (.cmp .eql) (.tmp 1) (.con (VB VC 30))))=VE (.bool VI):=fun{H σ} hσ=>by rcases cp with rfl | rfl<;>simp[hσ]
   simp[af,ag,e1,e4,e7,ep];subst hy;refine aT (by simp[af]) ?_;refine aa λy hy=>?_;have em:(if many=VI then Value.bool VI else Value.bool (decide (8192<=temp))) = .bool (many||decide (8192<=temp)):=by cases many<;>rfl
   simp[af,ag,e4,e7,tc,nc];refine wx.cT (k:=(0,5)) (α:=Bool) Part.all (D:=many) (d:=many||decide (8192<=temp)) Lr V0 V5 V5 (qJ.2 rfl) λh4 w4=>?_;rw[MB]at w4;subst hy;have tc4:ao (vw h4) ⟨Bt,0,VF⟩=VE (VB VC temp):=(w4.own.at CQ).int;have ew:IntKind.i64.wrap (temp+1)=temp+1:=aZ V4 V4;simp[af,ag,e4,e7,tc4,ew];refine w4.cT (k:=(0,3)) (α:=Int) Part.all (D:=temp) (d:=temp+1) CQ V0 V5 V5 (bw.2 ⟨rfl,by omega,by omega⟩) λh5 w5=>?_;rw[M3]at w5;exact hK _ _ ⟨Yx,iv',Vz lY lYx,drop_ w5⟩
  rw[if_neg cp,if_neg cp]at hK;have p26:pat≠26:=λe=>cp (.inl e);have p30:pat≠30:=λe=>cp (.inr e);simp[af,ag,e1,e4,e7,p26,p30];exact hK _ _ ⟨Yx,iv',Vz lY lYx,drop_ wx⟩
 have cin3:=ae (Vz lY wk.own.wle) cin;have sn : ∀{K:View},Un.ev K .len vin=VE (VB VC (nth f.blocks b).ins.length):=sin.len;by_cases ci:i=(nth f.blocks b).ins.length
 ·refine aa λy hy=>?_;simp[cin3,sn,ci];subst hy;refine aT V5 ?_;refine aa λy hy=>?_;have ke : ∀{x:Option Lft.Item},(o1.upd (1,0) x) (1,0)=x:=Own.an;obtain⟨va,ka,sa⟩:=((wk.own.at (k:=(1,0)) (B:=Be) (d:=fn) (by rw[nz];exact h10')).part EndD.Dd).sl;have ka:ao (vw h3) ⟨Be,3,VF⟩=VE va:=by simpa using ka
  simp[ka];refine ah V0 (xv sa V4) ?_;rintro u5 h5 ⟨hle5,s5⟩;have w5:=wk.ext hle5;have s5:=s5.mono (qC (Y:=Yk));have lY5:Yk.le (grow Yk h3 h5):=bz wk.own.wle;generalize grow Yk h3 h5=Y5 at *;refine w5.cT (k:=(1,0)) (α:=EndD) EndD.Dd (D:=fn) (d:=fn.to) (by rw[nz];exact h10') V0 V5 V5 (dx.2 s5) λh6 w6=>?_;rw[yq]at w6;have eup:o1.upd (1,0) (bx T.eU Be fn)=o1:=by
   funext q;unfold Own.upd;split
   ·rename_i e;rw[e];exact h10'.symm
   rfl
  have w6:Held n X Y5 h6 (layO o1 Bm pv iv' iv' fin (ins++code) Bt temp Bn many):=by rw[<-eup];exact w6
  subst hy;obtain⟨ux,hux,rux⟩:=w6.own.ldB (k:=(1,0)) (B:=Be) (d:=fn) (by rw[nz];exact h10') rfl (N:=5) rfl;simp[hux];refine w6.cT (k:=(0,0)) (α:=lR) OO (D:=⟨⟨pv⟩,⟨⟨iv'⟩,fin⟩⟩) (d:=fn) FQ V0 V5 V5 rux λh8 w8=>?_;rw[Hb]at w8;refine fin_ h8 Y5 fn _ lY5 w8 (by rw[if_pos ci]) ?_;simp[iN,ko]
 have ci2:¬((i:Int)=((nth f.blocks b).ins.length:Int)):=by omega
 simp[cin3,sn,ci2];refine fin_ h3 Yk fin _ Vy wk (by rw[if_neg ci]) ?_;simp[iN,ko]
variable {po po2:OP}
section
variable {W:View} {h h':Heap} {o:Own} {k:Key}
theorem Owns.od {P:Program} {ty:TypeId} {us:List (Nat × Value)} {α:Type} [Rep α] {t:TypeId} {z:Value} {d:α} {K:Value->Heap->Prop} (w:Owns W h o) (hk:o k=VF) (hz:(P.info? t).map (·.zero)=VE (VE z)) (hr:Rd W z d) (hn:Rep.n α<=1000)
  (hK : ∀h':Heap,(vw h).le (vw h')->Owns W h' (o.upd k (bx t h.size d))->K (ptz h.size) h'):@step po P (.alloc t) ty us h K:=by
 refine dP hz ?_;have q1:=bZ h (.cells z.cells t);have b2:(h.push (.cells z.cells t))[h.size]? = VE (.cells z.cells t (0,0)):=by simp
 generalize h.push (.cells z.cells t)=h2 at q1 b2;exact hK h2 q1 (w.add hk (iO (v:=z) b2 hr hn) q1 λb hb=>by simp only[Value.ownBlock,RP]at hb;omega)
theorem Owns.Ga {α:Type} [Rep α] {e:TypeId} (w:Owns W h o) (hk:o k=VF):Owns W h (o.upd k (it e (VG VF 0 0) ([]:List α))):=
 w.add hk (OwnT.nil (α:=α) W h e) Vy λb hb=>by simp[Value.ownBlock]at hb
theorem Owns.QG {α:Type} [r:Rep α] {e:TypeId} {B:Nat} {d:α} {v:Value} (w:Owns W h o) (hk:o k=bx e B d) (hn:v.ownBlock≠VE B) (ha:Av W v):At (but v h) ⟨B,0,.none⟩ d:=by obtain⟨cs,⟨cur,t,fz,h1,h2,h3⟩,h4⟩:=w.atW hk;refine⟨cs,⟨cur,t,fz,h1,?_,h3⟩,Rep.mono (Gy w.wle ha) h4⟩;show but v h B=_;unfold but;rw[if_neg hn];exact h2
theorem EL {v x:Value} {B i:Nat} (hc:ao (vw h) ⟨B,i,VF⟩=VE x) (hn:v.ownBlock≠VE B):ao (but v h) ⟨B,i,VF⟩=VE x:=by
 have e:but v h B=(vw h) B:=by unfold but;rw[if_neg hn];rfl
 unfold ao at *;simp only at *;rw[e];exact hc
end
theorem Owns.QH {W:View} {h h':Heap} {o:Own} {n:Nat} (w:Owns W h o) (hs:om n h h'):Owns W.cf h' o:=by
 have hb : ∀b x,W.cf b=VE x->h'[b]? = VE x:=λb x hx=>by
  have h1:=View.mS _ _ hx;have h2:h[b]? = VE x:=w.wle b x h1;rw[hs.same b (.inr λe=>?_)]
  ·exact h2
  rw[h2]at e;cases e;unfold View.cf at hx;rw[h1]at hx;cases hx
 refine⟨hb,λk i hk=>?_,λk i hk b hbb=>?_,w.dj⟩
 ·obtain⟨bd,xs,h1,h2⟩:=w.own k i hk;refine⟨bd,xs,⟨h1.1,?_⟩,λj hj=>i.rep.cf (h2 j hj)⟩;rcases h1.2 with e | ⟨g,cap,cur,e1,e2,e3⟩
  ·exact .inl e
  exact .inr ⟨g,cap,cur,e1,(hs.same g (.inr (by rw[e2];simp))).trans e2,e3⟩
 have:=w.av k i hk b hbb;unfold View.cf;rw[this]
end Go.Lft
namespace Go.Lft
section
variable {f:ak} {b:Nat} {l:List aF}
theorem rN {p t:Int} (h:(bD f b l).best p=VE t):0<=t/\t<l.length:=by
 have key : ∀p t,(bD f b l).best p=VE t->0<=t/\t<l.length:=by
  refine vJ (λs:CB=>∀p t,s.best p=VE t->0<=t/\t<l.length) (λk s hk hs=>?_) (λ_ _ e=>nomatch e);unfold plc8;split
  ·split<;>exact hs
  refine vJ (λs:CB=>∀p t,s.best p=VE t->0<=t/\t<l.length) (λj q hj hq=>?_) hs;unfold cG;split
  ·exact hq
  split
  ·intro p t e;simp only[putM]at e;split at e
   ·cases e;omega
   exact hq p t e
  exact hq
 exact key p t h
theorem yP (h:(eA l).1=0) {t:aF} (ht:t∈l):0<=t.cost/\t.cost<=1000:=by
 unfold eA at h;split at h
 ·cases h
 have:=qB h t ht;unfold ee at this;split at this
 ·cases this
 split at this
 ·cases this
 rename_i c;simp[inR]at c;exact c
theorem AU (h:(eA l).1=0) {t:aF} (ht:t∈l):I64 t.pat:=by have:=BC h ht;simp[inR]at this;constructor<;>omega
structure LayB (s0 s:jR) (k:Nat):Prop where
 t0:s0.temp<=s.temp
 t1:s.temp<=s0.temp+k
 c0:s0.cost<=s.cost
 c1:s.cost<=s0.cost+1000*k
 n:s.blk.ins.length<=s0.blk.ins.length+2*k
 p:s.blk.phis=s0.blk.phis
theorem LayB.refl {s:jR}:LayB s s 0:=⟨SW _,by omega,SW _,by omega,by omega,rfl⟩
theorem Qj (hsm:SmF f) (hb:b<f.blocks.length) (hcl : ∀t∈l,0<=t.cost/\t.cost<=1000) {s0 s:jR} {k i:Nat} (h:LayB s0 s k):LayB s0 (jM f b l s i) (k+1):=by
 have step : ∀{pat:Int} {q:jR},q.temp=s.temp->q.blk=s.blk->0<=q.cost-s.cost->q.cost-s.cost<=1000->LayB s0 (layS f b i pat q) (k+1):=fun{pat q} e1 e2 e3 e4=>by
  have hc:=(J3 (i:=i) (pat:=pat) (temp:=q.temp) hsm hb).1;obtain⟨h1,h2,h3,h4,h5,h6⟩:=h;refine⟨?_,?_,?_,?_,?_,?_⟩
  ·show s0.temp<=(if pat=26\/pat=30 then q.temp+1 else q.temp);split<;>omega
  ·show(if pat=26\/pat=30 then q.temp+1 else q.temp)<=s0.temp+((k+1:Nat):Int);split<;>omega
  ·show s0.cost<=q.cost;omega
  ·show q.cost<=_;omega
  ·show(q.blk.ins++_).length<=_;rw[RZ,e2];omega
  show q.blk.phis=_;rw[e2];exact h6
 unfold jM;split
 ·exact step rfl rfl V4 V4
 rename_i t ht;obtain⟨q1,q2⟩:=rN ht;have:=hcl _ (aX (l:=l) (i:=t.toNat) V4);exact step rfl rfl (by show 0<=s.cost+_-s.cost;omega) (by show s.cost+_-s.cost<=1000;omega)
theorem KO (hsm:SmF f) (hb:b<f.blocks.length) (hcl : ∀t∈l,0<=t.cost/\t.cost<=1000) {s0:jR} : ∀{r:List Nat} {s:jR} {k:Nat},LayB s0 s k->LayB s0 (r.foldl (jM f b l) s) (k+r.length)
 | [],s,k,h=>h
 | a::r,s,k,h=>by have:=KO hsm hb hcl (r:=r) (Qj (i:=a) hsm hb hcl h);rw[Su,SP,show k+(r.length+1)=k+1+r.length by omega];exact this
theorem wU:(fN f b l).length<=(nth f.blocks b).ins.length+1:=by unfold fN;have:=UL (λi:Nat=>!inn8 f b l (i:Int)) (List.range ((nth f.blocks b).ins.length+1));rw[List.length_range]at this;exact this
end
def lay0 (f:ak) (b:Nat) (s:FnSt):jR:=⟨s.temp,s.cost,s.many,⟨(nth f.blocks b).phis,[],cV⟩⟩
def fnOf (s:FnSt) (r:jR):FnSt:=⟨r.temp,r.cost,r.many,s.out++[r.blk]⟩
def oU (f:ak) (l:List aF) (b:Nat) (s:FnSt) (k:Nat):jR:=((fN f b l).take k).foldl (jM f b l) (lay0 f b s)
theorem MY {f:ak} {l:List aF} {b:Nat} {s:FnSt}:qN f l b s=fnOf s (oU f l b s (fN f b l).length):=by unfold qN oU fnOf;rw[EG,SD];rfl
def fnAt (f:ak) (l:List aF) (k:Nat):FnSt:=Lft.up (qN f l) k ⟨topS f,0,VJ,[]⟩
theorem F0 {f:ak} {l:List aF} {b k i:Nat} {s:FnSt} (h:(fN f b l)[k]? = VE i):oU f l b s (k+1)=jM f b l (oU f l b s k) i:=uM h
theorem AS {f:ak} {l:List aF} {k:Nat}:fnAt f l (k+1)=fnOf (fnAt f l k) (oU f l k (fnAt f l k) (fN f k l).length):=MY
section
variable {f:ak} {l:List aF}
theorem C9 {b k:Nat} {s:FnSt} (hsm:SmF f) (hb:b<f.blocks.length) (hcl : ∀t∈l,0<=t.cost/\t.cost<=1000) (hk:k<=(fN f b l).length):LayB (lay0 f b s) (oU f l b s k) k:=by have:=KO hsm hb hcl (r:=(fN f b l).take k) (LayB.refl (s:=lay0 f b s));rw[SG,Ti hk,Te]at this;exact this
theorem Km (hsm:SmF f) (hcl : ∀t∈l,0<=t.cost/\t.cost<=1000) : ∀{k:Nat},k<=f.blocks.length->0<=(fnAt f l k).temp/\(fnAt f l k).temp<=8192+10001*k/\0<=(fnAt f l k).cost/\(fnAt f l k).cost<=10001000*k/\(fnAt f l k).out.length=k
 | 0,_=>by have:=G4 (f:=f);exact⟨this.1,by show topS f<=_;omega,SW _,by show(0:Int)<=_;omega,rfl⟩
 | k+1,h=>by
  obtain⟨h1,h2,h3,h4,h5⟩:=Km hsm hcl (k:=k) V4;have q:=C9 (s:=fnAt f l k) hsm (b:=k) V4 hcl (RQ _);have hr:=wU (f:=f) (b:=k) (l:=l);have hi:=(hsm.blk k V4).ins;rw[AS];generalize oU f l k (fnAt f l k) (fN f k l).length=r at *;obtain⟨q1,q2,q3,q4,q5,q6⟩:=q;have q1:(fnAt f l k).temp<=r.temp:=q1;have q2:r.temp<=(fnAt f l k).temp+((fN f k l).length:Int):=q2;have q3:(fnAt f l k).cost<=r.cost:=q3;have q4:r.cost<=(fnAt f l k).cost+1000*((fN f k l).length:Int):=q4;refine⟨?_,?_,?_,?_,?_⟩
  ·show 0<=r.temp;omega
  ·show r.temp<=_;omega
  ·show 0<=r.cost;omega
  ·show r.cost<=_;omega
  show(_++[_]).length=_;rw[RZ,h5];rfl
end
abbrev OutD:=Cat Int Raw
theorem Hv:Part OutD Raw 1 (λd=>d.b) (λd x=>⟨d.a,x⟩):=(Part.snd Part.all).via (λ_=>rfl) λ_ _=>rfl
def fnO (oo:Own) (R Bo Bc Bt Bn:Nat) (params:Int) (ov rv:Value) (blks:List gH) (cost temp:Int) (many:Bool):Own:=λk=>
 if k=(0,3) then bx T.int Bt temp else if k=(0,4) then bx T.int Bc cost else if k=(0,5) then bx T.bool Bn many else if k=(0,6) then bx T.jG Bo (⟨params,⟨ov⟩⟩:OutD) else if k=(0,7) then it T.gF rv blks
 else if k=(2,0) then bx T.jG R (⟨0,⟨VG VF 0 0⟩⟩:OutD) else oo k
def blkO (oo:Own) (R Bo Bc Bt Bn:Nat) (params:Int) (ov:Value) (blks:List gH) (cost temp:Int) (many:Bool) (Bm:Nat) (pv rp iv rv:Value) (phis:List PhiD) (fin:EndD) (ins:List bU):Own:=
 layO ((fnO oo R Bo Bc Bt Bn params ov ov blks cost temp many).upd (0,1) (it T.ja rp phis)) Bm pv iv rv fin ins Bt temp Bn many
section
variable {oo:Own} {R Bo Bc Bt Bn Bm:Nat} {params:Int} {ov rv pv rp iv ri:Value} {blks:List gH} {cost temp:Int} {many:Bool} {phis:List PhiD} {fin:EndD} {ins:List bU}
theorem EJ {t2:Int} {n2:Bool} {fin2:EndD} {ins2:List bU}:layO ((fnO oo R Bo Bc Bt Bn params ov ov blks cost temp many).upd (0,1) (it T.ja rp phis)) Bm pv iv rv fin2 ins2 Bt t2 Bn n2=blkO oo R Bo Bc Bt Bn params ov blks cost t2 n2 Bm pv rp iv rv phis fin2 ins2:=by
 funext k;unfold blkO layO fnO Own.upd;by_cases c3:k=(0,3)
 ·subst c3;rfl
 by_cases c5:k=(0,5)
 ·subst c5;rfl
 simp only[if_neg c3,if_neg c5]
theorem Ip {c2:Int}:(blkO oo R Bo Bc Bt Bn params ov blks cost temp many Bm pv rp iv rv phis fin ins).upd (0,4) (bx T.int Bc c2)=blkO oo R Bo Bc Bt Bn params ov blks c2 temp many Bm pv rp iv rv phis fin ins:=by
 funext k;unfold blkO layO fnO Own.upd;by_cases c4:k=(0,4)
 ·subst c4;rfl
 simp only[if_neg c4]
theorem IJ {pv2 rp2:Value} {phis2:List PhiD}:((blkO oo R Bo Bc Bt Bn params ov blks cost temp many Bm pv rp iv rv phis fin ins).upd (0,1) (it T.ja rp2 phis2)).upd (0,0) (bx T.gF Bm (⟨⟨pv2⟩,⟨⟨iv⟩,fin⟩⟩:lR))=blkO oo R Bo Bc Bt Bn params ov blks cost temp many Bm pv2 rp2 iv rv phis2 fin ins:=by
 funext k;unfold blkO layO fnO Own.upd;by_cases c0:k=(0,0)
 ·subst c0;rfl
 by_cases c1:k=(0,1)
 ·subst c1;rfl
 simp only[if_neg c0,if_neg c1]
theorem MZ:(((fnO oo R Bo Bc Bt Bn params ov ov blks cost temp many).upd (0,0) (bx T.gF Bm (⟨⟨pv⟩,⟨⟨iv⟩,fin⟩⟩:lR))).upd (0,1) (it T.ja rp phis)).upd (0,2) (it T.du ri ins)=blkO oo R Bo Bc Bt Bn params ov blks cost temp many Bm pv rp iv ri phis fin ins:=by
 funext k;unfold blkO layO fnO Own.upd;by_cases c2:k=(0,2)
 ·subst c2;rfl
 by_cases c1:k=(0,1)
 ·subst c1;rfl
 by_cases c0:k=(0,0)
 ·subst c0;rfl
 by_cases c3:k=(0,3)
 ·subst c3;rfl
 by_cases c5:k=(0,5)
 ·subst c5;rfl
 simp only[if_neg c0,if_neg c1,if_neg c2,if_neg c3,if_neg c5]
theorem Il (ho : ∀q:Key,q.1<10->oo q=VF) : ∀k i,fnO oo R Bo Bc Bt Bn params ov ov blks cost temp many k=VE i->((blkO oo R Bo Bc Bt Bn params ov blks cost temp many Bm pv rp iv rv phis fin ins).upd (0,1) VF).upd (0,2) VF k=VE i:=λk i hk=>by
 unfold fnO at hk;unfold blkO layO fnO Own.upd;by_cases c2:k=(0,2)
 ·subst c2;have:=(ho (0,2) V6).symm.trans hk;cases this
 by_cases c1:k=(0,1)
 ·subst c1;have:=(ho (0,1) V6).symm.trans hk;cases this
 by_cases c0:k=(0,0)
 ·subst c0;have:=(ho (0,0) V6).symm.trans hk;cases this
 by_cases c3:k=(0,3)
 ·subst c3;exact hk
 by_cases c5:k=(0,5)
 ·subst c5;exact hk
 simp only[if_neg c0,if_neg c1,if_neg c2,if_neg c3,if_neg c5]at hk ⊢;exact hk
theorem KD {ov2 rv2:Value} {blks2:List gH}:((fnO oo R Bo Bc Bt Bn params ov rv blks cost temp many).upd (0,7) (it T.gF rv2 blks2)).upd (0,6) (bx T.jG Bo (⟨params,⟨ov2⟩⟩:OutD))=fnO oo R Bo Bc Bt Bn params ov2 rv2 blks2 cost temp many:=by
 funext k;unfold fnO Own.upd;by_cases c6:k=(0,6)
 ·subst c6;rfl
 by_cases c7:k=(0,7)
 ·subst c7;rfl
 simp only[if_neg c6,if_neg c7]
end
theorem Lx {oo:Own} (ho : ∀q:Key,q.1<10->oo q=VF) {R Bo Bc Bt Bn:Nat} {params:Int} {ov rv:Value} {blks:List gH} {cost temp:Int} {many:Bool} {x:Option Lft.Item} : ∀k i,oo k=VE i->(((fnO oo R Bo Bc Bt Bn params ov rv blks cost temp many).upd (2,0) x).upd (2,0) VF) k=VE i:=λk i hk=>by
 have hne : ∀q:Key,q.1<10->k≠q:=λq hq e=>by subst e;rw[ho _ hq]at hk;cases hk
 have h1:=hne (2,0) V6;have h2:=hne (0,3) V6;have h3:=hne (0,4) V6;have h4:=hne (0,5) V6;have h5:=hne (0,6) V6;have h6:=hne (0,7) V6;simp only[fnO,Own.upd,if_neg h1,if_neg h2,if_neg h3,if_neg h4,if_neg h5,if_neg h6];exact hk
theorem NB {W:View} {u pv iv:Value} {phis:List PhiD} {ins:List bU} {fin:EndD} (h:Rd W u (⟨⟨pv⟩,⟨⟨iv⟩,fin⟩⟩:lR)) (s1:SlRd W pv phis) (s2:SlRd W iv ins):Rd W u (⟨phis,ins,fin⟩:gH):=by unfold Rd at h ⊢;rw[if_pos (show Rep.agg lR=VI from rfl)]at h;rw[if_pos (show Rep.agg gH=VI from rfl)];obtain⟨cs,rfl,c1,c2,e,⟨h1,-⟩,c3,c4,e2,⟨h3,-⟩,h4⟩:=h;subst h1 h3;exact⟨cs,rfl,[pv],c2,e,⟨pv,rfl,s1⟩,[iv],c4,e2,⟨iv,rfl,s2⟩,h4⟩
theorem PL {W:View} {u ov:Value} {params:Int} {blks:List gH} (h:Rd W u (⟨params,⟨ov⟩⟩:OutD)) (s1:SlRd W ov blks):Rd W u (⟨params,blks⟩:MFnD):=by unfold Rd at h ⊢;rw[if_pos (show Rep.agg OutD=VI from rfl)]at h;rw[if_pos (show Rep.agg MFnD=VI from rfl)];obtain⟨cs,rfl,c1,c2,e,h1,h3,-⟩:=h;subst h3;exact⟨cs,rfl,c1,[ov],e,h1,⟨ov,rfl,s1⟩⟩
theorem J4{W:View}:Rd W (.agg #[VG VF 0 0,VG VF 0 0,VB VC 0,VG VF 0 0,VG VF 0 0,VB VD 0]) (⟨[],[],⟨0,[],[],⟨0⟩⟩⟩:BlkD):=by unfold Rd;rw[if_pos (show Rep.agg BlkD=VI from rfl)];exact⟨_,rfl,[_],[_,_,_,_,_],rfl,⟨_,rfl,aO⟩,[_],[_,_,_,_],rfl,⟨_,rfl,aO⟩,[_],[_,_,_],rfl,⟨rfl,by decide⟩,[_],[_,_],rfl,⟨_,rfl,aO⟩,[_],[_],rfl,⟨_,rfl,aO⟩,rfl,by decide⟩
abbrev NZ:List Value:=[VG VF 0 0,VG VF 0 0,VB VC 0,VB VC 0,VB VC 0,VG VF 0 0,VB VD 0]
theorem JI{W:View}:Rd W (.agg NZ.toArray) (⟨⟨VG VF 0 0⟩,⟨⟨VG VF 0 0⟩,cV⟩⟩:lR):=by unfold Rd;rw[if_pos (show Rep.agg lR=VI from rfl)];exact⟨_,rfl,[_],[_,_,_,_,_,_],rfl,⟨rfl,rfl⟩,[_],[_,_,_,_,_],rfl,⟨rfl,rfl⟩,mg V5 V6 aO⟩
theorem vu{W:View}{n:Int}(h:I64 n):Rd W (.agg #[VB VC n,VG VF 0 0]) (⟨n,⟨VG VF 0 0⟩⟩:OutD):=by unfold Rd;rw[if_pos (show Rep.agg OutD=VI from rfl)];exact⟨_,rfl,[_],[_],rfl,⟨rfl,h⟩,rfl,rfl⟩
variable{vl:Value}
set_option maxHeartbeats 8000000 in
theorem zv{f:ak}{l:List aF}{v:Value}{h:Heap}{W:View}{oo:Own}(w0:Owns W h oo)(ho : ∀q:Key,q.1<10->oo q=VF)(hv:Rd W v f)(hl:SlRd W vl l)(hsm:SmF f)(ht:Tab h)(hM:iG):
  az VK 14 #[v,vl] h (λu h'=>∃W' vm,W.cf.le W'/\W.le (vw h')/\Owns W' h' oo/\u = .tuple #[vm,VB VC (dp f l).cost,VB VC (dp f l).err]/\Rd W' vm (dp f l).code):=by
 refine rZ (args:=[v,vl]) follows Tryz.func14 E.ik Vw λK hK=>?_;dsimp only[L.ik,lkF,lkG];have hlen:=hsm.len;refine aa λz hz=>?_;simp;refine w0.tC (α:=ak) rfl hv λBf h1 W1 hW1 w1 atF hle1=>?_;refine w1.tC (α:=List aF) rfl (dx.2 (hl.mono hW1)) λBl h2 W2 hW2 w2 atL hle2=>?_;refine w2.od (k:=(2,0)) (α:=OutD) (z:=zz4) (d:=⟨0,⟨VG VF 0 0⟩⟩) (ho _ V6) V0 (vu ⟨V6,V6⟩) V6 λh3 hle3 w3=>?_;generalize h2.size=R at w3 ⊢;have hWh:=w0.wle;have out_ : ∀(h5:Heap) (W6:View) (o6:Own) (p:Int) (ov:Value) (blks:List gH) (c e:Int) (ρ:Env),W.le W6->Owns W6 h5 o6->(∀k i,oo k=VE i->o6 k=VE i)->At W6 ⟨R,0,VF⟩ (⟨p,⟨ov⟩⟩:OutD)->SlRd W6 ov blks->dp f l=⟨⟨p,blks⟩,c,e⟩->
   Lft.look ρ 4=VE (ptz R)->Lft.look ρ 5=VE (VB VC c)->Lft.look ρ 6=VE (VB VC e)->CX h.size [.un (.bM 2) (.tmp 4),.tmp 5,.tmp 6] K .ret ρ h5:=by
  intro h5 W6 o6 p ov blks c e ρ hW6 w6 hsub aR s hch g4 g5 g6;rw[hch]at hK;intro h6 hsw;have w7:=w6.QH hsw;obtain⟨ur,hur,rur⟩:=aR.cf.ldN rfl (N:=2) rfl;refine⟨[ur,VB VC c,VB VC e],by simp[g4,g5,g6,hur _ w7.wle],hK _ _ ⟨W6.cf,ur,λb x hb=>?_,λb x hb=>?_,w7.sub hsub,rfl,PL rur (dx.1 (dx.2 s).cf)⟩⟩
  ·have h1:=View.mS _ _ hb;have h2:=hW6 b x h1;unfold View.cf at hb ⊢;rw[h2];rw[h1]at hb;exact hb
  have hlt:=View.lt hWh hb;show h6[b]? = VE x;rw[hsw.same b (.inl hlt)];exact w6.wle b x (hW6 b x hb)
 have atF:=atF.mono hW2;have l03:=Vz hle1 (Vz hle2 hle3);have lW2:=Vz hW1 hW2;obtain⟨uF,huF,rF⟩:=atF.ldN rfl (N:=2) rfl;obtain⟨vl2,cl,sl⟩:=atL.list;subst hz;refine aa λz hz=>?_;simp[huF _ w3.wle,ae w3.wle cl];refine ah V0 (AT w3.wle sl rF hsm (ht.mono l03) (λ_ _ _=>hM) (λhr=>HH (ld hr) hsm (oK rF))) ?_;rintro _ h4 ⟨hle4,rfl⟩;have w4:=w3.ext hle4;have lW4:W2.le (grow W2 h3 h4):=bz w3.wle;generalize grow W2 h3 h4=W4 at *;have l0W4:=Vz lW2 lW4;simp;subst hz;refine aa λz hz=>?_;clear w0 w1 w2 w3 hle1 hle2 hle3 hle4 hW1 hW2;by_cases ce:(db l f).1=0;rotate_left
 ·have e:dp f l=noCh (db l f).1:=by unfold dp;rw[if_pos ce]
  simp[ce];refine aA (t:=T.jG) (z:=zz4) (places:=zpd) (vs:=[]) (cs:=#[VB VC 0,VG VF 0 0]) V0 V0 V5 V0 ?_;refine w4.cT (k:=(2,0)) (α:=OutD) Part.all (D:=⟨0,⟨VG VF 0 0⟩⟩) (d:=⟨0,⟨VG VF 0 0⟩⟩) Own.an V0 V5 V5 (vu ⟨V6,V6⟩) λh5 w5 _=>?_;obtain⟨W6,lW6,w6,aR⟩:=w5.kr (k:=(2,0)) (α:=OutD) (e:=T.jG) (B:=R) (d:=⟨0,⟨VG VF 0 0⟩⟩) Own.an;refine out_ h5 W6 _ 0 (VG VF 0 0) [] 0 (db l f).1 _ (Vz l0W4 lW6) w6 (λk i hk=>?_) aR aO e rfl rfl rfl;by_cases c:k=(2,0)
  ·subst c;have:=(ho (2,0) V6).symm.trans hk;cases this
  rw[Own.aB c,Own.aB c,Own.aB c];exact hk
 obtain⟨tb0,hrt,-⟩:=qV ce;have hok:Okf f:=⟨ld hrt,hsm,oK rF⟩;have hcl : ∀t∈l,0<=t.cost/\t.cost<=1000:=λt ht=>yP tb0 ht;have hpat : ∀t∈l,I64 t.pat:=λt ht=>AU tb0 ht;have atF:=atF.mono lW4;have atL:=atL.mono lW4;have huF:=λK hK=>huF K (Vz lW4 hK);have rF:=rF.mono lW4;have cl:=ae lW4 cl;have sl:=sl.mono lW4;clear lW4;obtain⟨cp,vb,cb,sb⟩:=fw atF;have rp:I64 f.params:=(atF.part ak.D9).rng;simp[ce];subst hz;refine aa λz hz=>?_;simp[ae w4.wle cp];refine aA (t:=T.jG) (z:=zz4) (places:=zpd) (vs:=[(0,VB VC f.params)]) (cs:=#[VB VC f.params,VG VF 0 0]) V0 V0 V5 V0 ?_;refine w4.qR (k:=(0,6)) (α:=OutD) (n:=2) ((Own.aB V5).trans (ho _ V6)) (vu rp) rfl (z:=zz4) V0 rfl V0 V6 V8 V8 λh5 hle5 w5=>?_;generalize h4.size=Bo at w5 ⊢;subst hz;refine aa λz hz=>?_;simp[huF _ w5.wle];refine ah V0 (OX (rF.mono w5.wle) hsm) ?_;rintro _ h6 ⟨rfl,hle6⟩;have w6:=w5.ext hle6;have lW6:W4.le (grow W4 h5 h6):=bz w5.wle;generalize grow W4 h5 h6=W6 at *;refine w6.od (k:=(0,3)) (α:=Int) (d:=0) (z:=VB VC 0) (ho (0,3) V6) V0 (bw.2 ⟨rfl,by decide,by decide⟩) V6 λh7 hle7 w7=>?_;generalize h6.size=Bt at w7 ⊢;refine w7.od (k:=(0,4)) (α:=Int) (d:=0) (z:=VB VC 0) (ho (0,4) V6) V0 (bw.2 ⟨rfl,by decide,by decide⟩) V6 λh8 hle8 w8=>?_;generalize h7.size=Bc at w8 ⊢;refine w8.od (k:=(0,5)) (α:=Bool) (d:=false) (z:=.bool VJ) (ho (0,5) V6) V0 (qJ.2 rfl) V6 λh9 hle9 w9=>?_;generalize h8.size=Bn at w9 ⊢;have tr:=G4 (f:=f);refine w9.cT (k:=(0,3)) (α:=Int) Part.all (D:=0) (d:=topS f) rfl V0 V5 V5 (bw.2 ⟨rfl,by omega,by omega⟩) λh10 w10 _=>?_;refine w10.cT (k:=(0,4)) (α:=Int) Part.all (D:=0) (d:=0) rfl V0 V5 V5 (bw.2 ⟨rfl,by decide,by decide⟩) λh11 w11 _=>?_;refine w11.cT (k:=(0,5)) (α:=Bool) Part.all (D:=false) (d:=false) rfl V0 V5 V5 (qJ.2 rfl) λh12 w12 _=>?_;have w12:=w12.Ga (k:=(0,7)) (α:=gH) (e:=T.gF) (ho (0,7) V6);have w12:Owns W6 h12 (fnO oo R Bo Bc Bt Bn f.params (VG VF 0 0) (VG VF 0 0) [] 0 (topS f) VJ):=w12.sub λk i hk=>by
  unfold fnO at hk;by_cases c3:k=(0,3)
  ·subst c3;exact hk
  by_cases c4:k=(0,4)
  ·subst c4;exact hk
  by_cases c5:k=(0,5)
  ·subst c5;exact hk
  by_cases c6:k=(0,6)
  ·subst c6;exact hk
  by_cases c7:k=(0,7)
  ·subst c7;exact hk
  by_cases c2:k=(2,0)
  ·subst c2;exact hk
  rw[if_neg c3,if_neg c4,if_neg c5,if_neg c6,if_neg c7,if_neg c2]at hk;simp only[Own.upd,if_neg c3,if_neg c4,if_neg c5,if_neg c6,if_neg c7,if_neg c2];exact hk
 clear w4 w5 w6 w7 w8 w9 w10 w11 hle5 hle6 hle7 hle8 hle9;have atF:=atF.mono lW6;have huF:=λK hK=>huF K (Vz lW6 hK);have rF:=rF.mono lW6;have cl:=ae lW6 cl;have sl:=sl.mono lW6;have cb:=ae lW6 cb;have sb:=sb.mono lW6;have l06:=Vz l0W4 lW6;clear lW6 l0W4 atL;subst hz;refine aa λz hz=>?_;have sbn : ∀{K:View},Un.ev K .len vb=VE (VB VC f.blocks.length):=sb.len;simp[ae w12.wle cb,sbn];refine aG [2,3,4,10,11,12,13,41,42,43] (fun(_:Unit) k=>[ptz Bf,ptz Bl,ptz R,ptz Bo,ptz Bt,ptz Bc,ptz Bn,vb,VB VC f.blocks.length,VB VC k])
  (λ_ k hx=>∃Wk ov,W6.le Wk/\Owns Wk hx (fnO oo R Bo Bc Bt Bn f.params ov ov (fnAt f l k).out (fnAt f l k).cost (fnAt f l k).temp (fnAt f l k).many)) f.blocks.length ()
  V0 V4 (by simp[bh,af,ag]) ⟨W6,_,View.le_refl _,w12⟩ (λ_ _=>rfl) (λv i h1 hk m=>by simp) ?_ ?_
 ·clear w12;rintro _ b h13 hb ⟨Wk,ov,lWk,wk⟩ K2 hK2;have hb:b<f.blocks.length:=hb;obtain⟨fb1,fb2,fb3,fb4,fb5⟩:=Km (l:=l) hsm hcl (k:=b) V4;have hbk:=hsm.blk b hb;have hil:=hbk.ins;have hfs:=AS (f:=f) (l:=l) (k:=b);generalize fnAt f l b=S at *;have sbk:=sb.mono lWk;obtain⟨ux,hux,rux⟩:=sbk.wh rfl (N:=6) rfl hb;have qt:=(sbk.mono wk.wle).idxn (k:=.i64) (N:=6) rfl (i:=(b:Int)) V4 V4;simp at qt;refine dB ?_;refine aa λy hy=>?_;simp[qt,hux _ wk.wle];refine wk.od (k:=(3,0)) (α:=Int) (d:=0) (z:=VB VC 0) (ho (3,0) V6) V0 (bw.2 ⟨rfl,by decide,by decide⟩) V6 λh14 hle14 w14=>?_;generalize h13.size=Bk at w14 ⊢;refine w14.od (k:=(3,1)) (α:=BlkD) (z:=zz3) (ho (3,1) V6) V0 J4 V6 λh15 hle15 w15=>?_;generalize h14.size=Bb at w15 ⊢;refine w15.cT (k:=(3,0)) (α:=Int) Part.all (D:=0) (d:=(b:Int)) rfl V0 V5 V5 (bw.2 ⟨rfl,by omega,by omega⟩) λh16 w16 _=>?_;refine w16.cT (k:=(3,1)) (α:=BlkD) Part.all (D:=⟨[],[],⟨0,[],[],⟨0⟩⟩⟩) (d:=nth f.blocks b) rfl V0 V5 V5 rux λh17 w17 _=>?_;obtain⟨W18,lW18,w18,atK⟩:=w17.kr (k:=(3,0)) (α:=Int) (d:=(b:Int)) (e:=T.int) (B:=Bk) rfl;obtain⟨W19,lW19,w19,atB⟩:=w18.kr (k:=(3,1)) (α:=BlkD) (d:=nth f.blocks b) (e:=T.fg) (B:=Bb) rfl;have w19:Owns W19 h17 (fnO oo R Bo Bc Bt Bn f.params ov ov S.out S.cost S.temp S.many):=w19.sub λk i hk=>by
   by_cases c0:k=(3,0)
   ·subst c0;have:=(ho (3,0) V6).symm.trans hk;cases this
   by_cases c1:k=(3,1)
   ·subst c1;have:=(ho (3,1) V6).symm.trans hk;cases this
   simp only[Own.upd,if_neg c0,if_neg c1];exact hk
  have ck:=ae lW19 atK.int;have lK:=Vz lWk (Vz lW18 lW19);clear wk w14 w15 w16 w17 w18 lWk lW18 lW19 hux rux qt hle14 hle15 atK sbk;subst hy;refine aa λy hy=>?_;simp;refine w19.od (k:=(0,0)) (α:=lR) (z:=.agg NZ.toArray) (d:=⟨⟨VG VF 0 0⟩,⟨⟨VG VF 0 0⟩,cV⟩⟩) (ho (0,0) V6) V0 JI V6 λh20 hle20 w20=>?_;generalize h17.size=Bm at w20 ⊢;have w20:=(w20.Ga (k:=(0,1)) (α:=PhiD) (e:=T.ja) (ho (0,1) V6)).Ga (k:=(0,2)) (α:=bU) (e:=T.du) (ho (0,2) V6);rw[MZ]at w20;clear w19 hle20;subst hy;refine aa λy hy=>?_;obtain⟨vph,cph,sph⟩:=(atB.part BlkD.uE).list;simp at cph;have sphn : ∀{K:View},Un.ev K .len vph=VE (VB VC (nth f.blocks b).phis.length):=sph.len;have hpn:=hbk.phis;simp[ae w20.wle cph,sphn];refine aG [2,3,4,10,11,12,13,14,15,16,41,42,43,49,50,51] (fun(_:Unit) j=>[ptz Bf,ptz Bl,ptz R,ptz Bo,ptz Bt,ptz Bc,ptz Bn,ptz Bk,ptz Bb,ptz Bm,vb,VB VC f.blocks.length,VB VC b,vph,VB VC (nth f.blocks b).phis.length,VB VC j])
   (λ_ j hx=>∃Wj pv,W19.le Wj/\Owns Wj hx (blkO oo R Bo Bc Bt Bn f.params ov S.out S.cost S.temp S.many Bm pv pv (VG VF 0 0) (VG VF 0 0) ((nth f.blocks b).phis.take j) cV [])) (nth f.blocks b).phis.length ()
   V0 V4 (by simp[bh,af,ag]) ⟨W19,_,View.le_refl _,w20⟩ (λ_ _=>rfl) (λv i h1 hk m=>by simp) ?_ ?_
  ·clear w20;rintro _ j h21 hj ⟨Wj,pv,lWj,wj⟩ K3 hK3;have hj:j<(nth f.blocks b).phis.length:=hj;have hpl:=hbk.phi j hj;have sj:=sph.mono lWj;obtain⟨up,hup,rup⟩:=sj.wh rfl (N:=2) rfl hj;have qp:=(sj.mono wj.wle).idxn (k:=.i64) (N:=2) rfl (i:=(j:Int)) V4 V4;simp at qp;refine dB ?_;refine aa λx hx=>?_;simp[qp,hup _ wj.wle];refine cZ (X:=Wj) (α:=PhiD) (z:=zz4) V0 rfl V0 rup V8 V8 λh22 hle22 _ at22=>?_;have at22:=at22 (grow Wj h21 h22) (bz wj.wle) (b8 (RQ _));have w22:=wj.ext hle22;have lW22:=Vz lWj (bz (h':=h22) wj.wle);generalize h21.size=Bp at at22 ⊢;generalize grow Wj h21 h22=W22 at *;clear wj hle22 qp hup rup;subst hx;obtain⟨pd,vpi,pin⟩:=yB at22;have rdst:=(at22.part PhiD.iT).rng;have hH:=Gy w22.wle (w22.av (0,1) _ rfl);have hne:pv.ownBlock≠VE Bm:=λe=>by have:=w22.dj (0,1) (0,0) _ _ Bm rfl rfl e rfl;simp at this
   have cm:ao (but pv h22) ⟨Bm,0,VF⟩=VE pv:=EL (by simpa using((w22.at (k:=(0,0)) (B:=Bm) (d:=(⟨⟨pv⟩,⟨⟨VG VF 0 0⟩,cV⟩⟩:lR)) rfl).part Hc).raw) hne;refine aQ (but pv h22) xa ?_;simp[cm,ae hH pd,ae hH pin.1];refine ah V0 (Gx (pin.2.mono w22.wle) V4) ?_;rintro u23 h23 ⟨hle23,s23⟩;have lH:=Vz (xa (v:=pv) (h:=h22)) hle23;refine⟨lH,?_⟩;have w23:=w22.ext hle23;have s23:=s23.mono (qC (Y:=W22));have lW23:=Vz lW22 (bz (h':=h23) w22.wle);generalize grow W22 h22 h23=W23 at *;have s23':=s23;obtain⟨ua,uc,rfl,-,-,-⟩:=s23';refine aA (t:=T.ja) (z:=zz4) (places:=zpd) (vs:=[(0,VB VC (nth (nth f.blocks b).phis j).dst),(1,.slice ua (nth (nth f.blocks b).phis j).ins.length uc)]) (cs:=#[VB VC (nth (nth f.blocks b).phis j).dst,.slice ua (nth (nth f.blocks b).phis j).ins.length uc]) V0 V0 V5 V0 ?_;refine⟨lH,?_⟩;have rphi:Rd W23 (.agg #[VB VC (nth (nth f.blocks b).phis j).dst,.slice ua (nth (nth f.blocks b).phis j).ins.length uc]) (nth (nth f.blocks b).phis j):=by unfold Rd;rw[if_pos (show Rep.agg PhiD=VI from rfl)];exact⟨_,rfl,[_],[_],rfl,⟨rfl,rdst⟩,⟨_,rfl,s23⟩⟩
   refine lT (α:=PhiD) (W:=W23) El.nF V5 rphi λu24 h24 hsrc hle24 _=>⟨Vz lH hle24,?_⟩;have w24:=w23.ext' hle24;have htk:((nth f.blocks b).phis.take j).length<=10000:=by rw[SG];omega
   refine Lft.dd El.nF V5 V5 (w24.get (k:=(0,1)) (v:=pv) (l:=(nth f.blocks b).phis.take j) rfl) hsrc (by simp only[Sp];omega) (by simp only[Sp];omega) λv25 h25 o25 m25=>?_;have w25:=w24.gG (k:=(0,1)) rfl o25 m25;have hv25:=(w25.cells (k:=(0,1)) Own.an).2;refine w25.cT (k:=(0,0)) (α:=lR) Hc (D:=⟨⟨pv⟩,⟨⟨VG VF 0 0⟩,cV⟩⟩) (d:=⟨v25⟩) rfl V0 V5 V5 (iZ.2 ⟨rfl,hv25⟩) λh26 w26 _=>?_;rw[IJ]at w26;refine hK3 () _ _ (by simp[af,ag]) (by simp[bh,af,ag]) ⟨W23,v25,lW23,?_⟩;rw[Se hj,<-ay hj];exact w26
  clear w20;rintro _ h21 ⟨Wj,pv,lWj,wj⟩;rw[SD]at wj;have lKj:=Vz lK lWj;simp;subst hy;refine aa λy hy=>?_;simp[huF _ (Vz lKj wj.wle),ae (Vz lKj wj.wle) cl,ae (Vz lWj wj.wle) ck];refine ah V0 (rA wj (rF.mono lKj) (sl.mono lKj) hok hM hb hpat hcl) ?_;rintro _ h22 ⟨C,rm,rc,rb,B22,W22,rfl,hsol,lW22,cw22⟩;refine cZ (α:=Raw) (d:=⟨ptz C⟩) (X:=B22) (z:=VH VF) V0 rfl V0 (iZ.2 ⟨rfl,rfl⟩) V8 V8 λh23 hle23 _ at23=>?_;have at23:=(at23 (grow B22 h22 h23) cw22.z.up (b8 (RQ _))).raw;have cw23:=cw22.ext hle23;have lW23:=Vz lW22 (cw22.z.upW (h':=h23));generalize h22.size=Bq at at23 ⊢;generalize grow B22 h22 h23=B23 at *;generalize grow W22 h22 h23=W23 at *;subst hy;refine aa λy hy=>?_;simp;refine cZ (α:=Raw) (d:=⟨.func (.func 50) #[] #[ptz Bf,ptz Bk,ptz Bt,ptz Bm,ptz Bb,ptz Bn]⟩) (X:=B23) (z:=.nilFunc) V0 rfl V0 (iZ.2 ⟨rfl,rfl⟩) V8 V8 λh24 hle24 _ at24=>?_;have at24:=(at24 (grow B23 h23 h24) cw23.z.up (b8 (RQ _))).raw;have at23:=ae (cw23.z.up (h':=h24)) at23;have cw24:=cw23.ext hle24;have lW24:=Vz lW23 (cw23.z.upW (h':=h24));generalize h23.size=Br at at24 ⊢;generalize grow B23 h23 h24=B24 at *;generalize grow W23 h23 h24=W24 at *;clear cw22 cw23 hle23 hle24 lW22 lW23 wj hsol;subst hy;refine aa λy hy=>?_;refine aa λx hx=>?_;simp[ae cw24.z.wle at23];refine ah V0 (EW cw24 (λp t=>rN) hpat) ?_;rintro _ h25 ⟨p1,p2,B25,W25,rfl,lB25,lW25,cw25,hit⟩;have ch:=cw25.ch.mono cw25.z.le;have c19:=ae (Vz lB25 cw25.z.le) at23;have c20:=ae (Vz lB25 cw25.z.le) at24;have mb:=cw25.mb;have own25:=cw25.z.own;have lj25:=Vz lW24 lW25;have l25:=Vz lKj lj25;have atF25:=atF.mono l25;have ck25:=ae (Vz lWj lj25) ck;have atB25:=atB.mono (Vz lWj lj25);have cl25:=ae l25 cl;have sl25:=sl.mono l25;clear cw24 cw25 at23 at24 lB25 lW25 lW24 lj25 lWj lK cph sph;subst hx;refine dB ?_;refine uV (enc:=natV) (all:=fN f b l) (gf:=99) (caps:=[ptz p1,ptz p2]) W25 W25
   (λe k X hx=>e=VF/\∃Y o',Held h25.size X Y hx o'/\(W25.le Y/\∃iv,o'=blkO oo R Bo Bc Bt Bn f.params ov S.out (oU f l b S k).cost (oU f l b S k).temp (oU f l b S k).many Bm pv pv iv iv (nth f.blocks b).phis (oU f l b S k).blk.fin (oU f l b S k).blk.ins))
   rfl V0 hit (λ_=>rfl) Vy (λe k=>⟨λ⟨_,q⟩=>Held.yG.le q,λ⟨a,q⟩ h1 h2 h3 h4=>⟨a,Held.yG.move q h1 h2 h3 h4⟩⟩) ⟨rfl,W25,_,Held.start own25,View.le_refl _,(VG VF 0 0),rfl⟩
   (λx h1=>by simp[natV,dC];rfl) ?_ ?_ ?_
  ·rintro k i X h26 hag hk ⟨_,Y,o',w,lY,iv,rfl⟩ K3 hK3 _;have hkr:k<(fN f b l).length:=(S5.1 hk).1;obtain⟨hi,-⟩:=DS hk;have lb:=C9 (s:=S) hsm hb hcl (k:=k) V4;have hls:=F0 (s:=S) hk;have hrl:=wU (f:=f) (b:=b) (l:=l);generalize oU f l b S k=q at *;obtain⟨q1,q2,q3,q4,q5,q6⟩:=lb;have q1:S.temp<=q.temp:=q1;have q2:q.temp<=S.temp+k:=q2;have q3:S.cost<=q.cost:=q3;have q4:q.cost<=S.cost+1000*k:=q4;have q5:q.blk.ins.length<=0+2*k:=q5;have lYh:=Vz lY w.own.wle;refine dB ?_;refine aa λx hx=>?_;simp[ae lYh c19,ae lYh ch.x6];refine eO (f:=mapI (bD f b l).best) (z:=VB VC 0) (k:=T.int) (e:=T.int) (d:=.int .i64) (r:=rb) (u:=VB VC i) V0 V0 V0 rfl rfl cQ ((mb.mono lY).is w.own.wle) ?_;cases hbi:(bD f b l).best i with
   | none=>
    have er:jM f b l q i=layS f b i 0 q:=by unfold jM;rw[hbi]
    simp[hbi];subst hx;simp[ae lYh c20];refine bY (ops:=[.tmp 87,.const (VB VC 0)]) (caps:=#[ptz Bf,ptz Bk,ptz Bt,ptz Bm,ptz Bb,ptz Bn]) rfl V0 (Jv w (ho (1,0) V6) (ho (1,1) V6) (atF25.mono lY) (ae lY ck25) (atB25.mono lY) hsm hM hb hi ⟨V6,V6⟩ V9 V4) ?_;rintro _ h27 ⟨Y',iv',lY',w'⟩;rw[EJ]at w';refine hK3 _ _ ⟨rfl,Y',_,w',Vz lY lY',iv',?_⟩;rw[hls,er];rfl
   | some t=>
    obtain⟨t0,t1⟩:=rN hbi;obtain⟨tn,rfl⟩:=S2 t0;have ht:tn<l.length:=by omega
    have hc:=hcl _ (aX ht);have er:jM f b l q i=layS f b i (nth l tn).pat { q with cost:=q.cost+(nth l tn).cost }:=by unfold jM;rw[hbi];rfl
    have slh:=sl25.mono lYh;have ql:=slh.idxn (k:=.i64) (N:=2) rfl (i:=(tn:Int)) V4 V4;have kc:=((slh.at ht).part aF.wO).int;have kp:=((slh.at ht).part aF.Bs).int;rw[<-ay ht]at kc kp;have n2:Rep.n aF=2:=rfl;simp[n2]at ql kc kp;have cc:ao (vw h26) ⟨Bc,0,VF⟩=VE (VB VC q.cost):=(w.own.at (k:=(0,4)) rfl).int;have ew:IntKind.i64.wrap (q.cost+(nth l tn).cost)=q.cost+(nth l tn).cost:=aZ V4 V4;simp[hbi];subst hx;refine aa λx hx=>?_;simp;subst hx;refine aa λx hx=>?_;refine aQ (vw h26) Vy ?_;simp[cc,ae lYh cl25,ql,kc,ew];refine w.cT (k:=(0,4)) (α:=Int) Part.all (D:=q.cost) (d:=q.cost+(nth l tn).cost) rfl V0 V5 V5 (bw.2 ⟨rfl,by omega,by omega⟩) λh27 w27=>?_;rw[Ip]at w27;subst hx;have lY27:=Vz lY w27.own.wle;have sl27:=sl25.mono lY27;have kp:=((sl27.at ht).part aF.Bs).int;rw[<-ay ht]at kp;simp[n2]at kp;refine aQ (vw h27) Vy ?_;simp[ae lY27 c20,ae lY27 cl25,ql,kp];refine bY (ops:=[.tmp 97,.tmp 102]) (caps:=#[ptz Bf,ptz Bk,ptz Bt,ptz Bm,ptz Bb,ptz Bn]) rfl V0 (Jv w27 (ho (1,0) V6) (ho (1,1) V6) (atF25.mono lY) (ae lY ck25) (atB25.mono lY) hsm hM hb hi (hpat _ (aX ht)) V9 V4) ?_;rintro _ h28 ⟨Y',iv',lY',w'⟩;rw[EJ]at w';refine hK3 _ _ ⟨rfl,Y',_,w',Vz lY lY',iv',?_⟩;rw[hls,er];rfl
  ·rintro X h26 hag ⟨_,Y,o',w,lY,iv,rfl⟩;have w:=w.own;have lb:=C9 (s:=S) hsm hb hcl (RQ (fN f b l).length);have hrl:=wU (f:=f) (b:=b) (l:=l);generalize oU f l b S (fN f b l).length=q at *;obtain⟨q1,q2,q3,q4,q5,q6⟩:=lb;have q6:q.blk.phis=(nth f.blocks b).phis:=q6;have cov:ao (vw h26) ⟨Bo,1,VF⟩=VE ov:=by simpa using((w.at (k:=(0,6)) (B:=Bo) (d:=(⟨f.params,⟨ov⟩⟩:OutD)) rfl).part Hv).raw
   obtain⟨um,hum,rum⟩:=w.ldB (k:=(0,0)) (B:=Bm) (d:=(⟨⟨pv⟩,⟨⟨iv⟩,q.blk.fin⟩⟩:lR)) rfl rfl (N:=7) rfl;obtain⟨w2,s2⟩:=w.freeze (k:=(0,1)) (α:=PhiD) (e:=T.ja) (v:=pv) (l:=(nth f.blocks b).phis) rfl;have l2:=iI (h:=h26) (w.av (0,1) _ rfl);obtain⟨w3,s3⟩:=w2.freeze (k:=(0,2)) (α:=bU) (e:=T.du) (v:=iv) (l:=q.blk.ins) rfl;have l3:=iI (h:=h26) (w2.av (0,2) _ rfl);have w4:=w3.sub (Il ho);have rb:=NB (rum.mono (Vz l2 l3)) (s2.mono l3) s3;have eb:(⟨(nth f.blocks b).phis,q.blk.ins,q.blk.fin⟩:gH)=q.blk:=by rw[<-q6]
   rw[eb]at rb;simp;subst hy;simp[cov,hum];refine w4.gu (k:=(0,7)) (α:=gH) (v:=ov) (l:=S.out) rfl El.qT V5 rb V4 V4 V8 V8 λu5 v5 h5 w5 _=>?_;have hv5:=(w5.cells (k:=(0,7)) Own.an).2;refine w5.cT (k:=(0,6)) (α:=OutD) Hv (D:=⟨f.params,⟨ov⟩⟩) (d:=⟨v5⟩) rfl V0 V5 V5 (iZ.2 ⟨rfl,hv5⟩) λh6 w6 _=>?_;rw[KD]at w6;refine hK2 () _ _ (by simp[af,ag]) (by simp[bh,af,ag]) ⟨_,v5,Vz (Vz l25 lY) (Vz l2 l3),?_⟩;rw[hfs];exact w6
  rintro e k X h26 hag ⟨hne,_⟩;cases hne
 clear w12;rintro _ h13 ⟨Wk,ov,lWk,wk⟩;have hfn:fnAt f l f.blocks.length=fnS f l:=rfl;rw[hfn]at wk;have l0k:=Vz l06 lWk;simp;subst hz;have nc:ao (vw h13) ⟨Bn,0,VF⟩=VE (.bool (fnS f l).many):=(wk.at (k:=(0,5)) rfl).bool;refine aa λz hz=>?_;cases hm:(fnS f l).many with
 | true=>
  have e:dp f l=noCh 2:=by unfold dp;rw[if_neg (by rw[ce];simp),if_pos hm]
  rw[hm]at nc;simp[nc];refine aA (t:=T.jG) (z:=zz4) (places:=zpd) (vs:=[]) (cs:=#[VB VC 0,VG VF 0 0]) V0 V0 V5 V0 ?_;refine wk.cT (k:=(2,0)) (α:=OutD) Part.all (D:=⟨0,⟨VG VF 0 0⟩⟩) (d:=⟨0,⟨VG VF 0 0⟩⟩) rfl V0 V5 V5 (vu ⟨V6,V6⟩) λh5 w5 _=>?_;obtain⟨W6,lW6,w6,aR⟩:=w5.kr (k:=(2,0)) (α:=OutD) (e:=T.jG) (B:=R) (d:=⟨0,⟨VG VF 0 0⟩⟩) Own.an;exact out_ h5 W6 _ 0 (VG VF 0 0) [] 0 2 _ (Vz l0k lW6) w6 (λk i hk=>Lx ho k i hk) aR aO e rfl rfl rfl
 | false=>
  have e:dp f l=⟨⟨f.params,(fnS f l).out⟩,(fnS f l).cost,0⟩:=by unfold dp;rw[if_neg (by rw[ce];simp),if_neg (by rw[hm];simp)]
  rw[hm]at nc;simp[nc];subst hz;refine aa λz hz=>?_;have cc:ao (vw h13) ⟨Bc,0,VF⟩=VE (VB VC (fnS f l).cost):=(wk.at (k:=(0,4)) rfl).int;have hRo:(VG (VE ⟨R,0,VF⟩) 1 1).ownBlock≠VE Bo:=λe=>by have:=wk.dj (2,0) (0,6) _ _ Bo rfl rfl e rfl;simp at this
  have hRc:(VG (VE ⟨R,0,VF⟩) 1 1).ownBlock≠VE Bc:=λe=>by have:=wk.dj (2,0) (0,4) _ _ Bc rfl rfl e rfl;simp at this
  obtain⟨uo,huo,ruo⟩:=(wk.QG (k:=(0,6)) (B:=Bo) (d:=(⟨f.params,⟨ov⟩⟩:OutD)) rfl hRo (wk.av (2,0) _ rfl)).ldN rfl (N:=2) rfl;have ruo:Rd Wk uo (⟨f.params,⟨ov⟩⟩:OutD):=ruo;refine aQ (but (VG (VE ⟨R,0,VF⟩) 1 1) h13) xa ?_;simp[EL cc hRc,huo _ Vy];refine wk.pR (k:=(2,0)) (α:=OutD) Part.all (D:=⟨0,⟨VG VF 0 0⟩⟩) (d:=⟨f.params,⟨ov⟩⟩) rfl V0 V5 V5 ruo λh5 w5 hX=>⟨hX _ xa (if_pos rfl),?_⟩;subst hz;obtain⟨W6,lW6,w6,aR⟩:=w5.kr (k:=(2,0)) (α:=OutD) (e:=T.jG) (B:=R) (d:=⟨f.params,⟨ov⟩⟩) Own.an;have lp:=iI (h:=h5) (w6.av (0,7) _ rfl);obtain⟨w8,s8⟩:=w6.freeze (k:=(0,7)) (α:=gH) (e:=T.gF) (v:=ov) (l:=(fnS f l).out) rfl;simp;refine out_ h5 _ _ f.params ov (fnS f l).out (fnS f l).cost 0 _ (Vz (Vz l0k lW6) lp) w8 (λk i hk=>?_) (aR.mono lp) s8 e rfl rfl rfl;by_cases c:k=(0,7)
  ·subst c;have:=(ho (0,7) V6).symm.trans hk;cases this
  rw[Own.aB c];exact Lx ho k i hk
theorem mA{f:ak}{l:List aF}{v:Value}{h:Heap}(hv:Rd (vw h) v f)(hl:SlRd (vw h) vl l)(hsm:SmF f)(ht:Tab h)(hM:iG):
  az VK 14 #[v,vl] h (λu h'=>(vw h).le (vw h')/\∃vm,u = .tuple #[vm,VB VC (dp f l).cost,VB VC (dp f l).err]/\Rd (vw h') vm (dp f l).code):=
 (zv (Owns.start Vy) (λ_ _=>rfl) hv hl hsm ht hM).mono λu h' ⟨W',vm,_,h2,h3,h4,h5⟩=>⟨h2,vm,h4,h5.mono h3.wle⟩
def wL (f:ak) (b:Nat) (l:List aF) (out:List Int) (i:Nat):List Int:=match (bD f b l).best i with
 | none=>out
 | some t=>out.set i t
def jk (f:ak) (l:List aF) (b k:Nat):List Int:=((fN f b l).take k).foldl (wL f b l) (List.replicate ((nth f.blocks b).ins.length+1) (-1))
def xn (f:ak) (l:List aF) (b:Int):List Int:=if(db l f).1≠0\/b<0\/f.blocks.length<=b then[] else jk f l b.toNat (fN f b.toNat l).length
theorem Fx{f:ak}{l:List aF}{b k:Nat}:(jk f l b k).length=(nth f.blocks b).ins.length+1:=by
 unfold jk;have : ∀(r:List Nat) (s:List Int),(r.foldl (wL f b l) s).length=s.length:=λr=>by
  induction r with
  | nil=>intro s;rfl
  | cons a r ih=>intro s;rw[Su,ih];unfold wL;split<;>simp
 rw[this];simp
def sD (n k:Nat):List Int:=List.replicate k (-1)++List.replicate (n-k) 0
theorem Ll{n k:Nat}(h:k<n):(sD n k).set k (-1)=sD n (k+1):=by unfold sD;rw[List.set_append_right _ _ V5];simp only[SI,Um];rw[show n-k=(n-(k+1))+1 by omega,List.replicate_succ,List.set_cons_zero,List.replicate_succ' (n:=k),Sc];rfl
theorem zT{n k:Nat}(h:k<=n):(sD n k).length=n:=by unfold sD;simp;omega
def tlO (Bo:Nat) (ov:Value) (l:List Int):Own:=λk=>if k=(0,0) then bx T.aY Bo (⟨ov⟩:Raw) else if k=(0,1) then it T.int ov l else VF
theorem Hj{Bo:Nat}{ov:Value}{l l2:List Int}:(tlO Bo ov l).upd (0,1) (it T.int ov l2)=tlO Bo ov l2:=by
 funext k;unfold tlO Own.upd;by_cases c:k=(0,1)
 ·subst c;rfl
 simp only[if_neg c]
set_option maxHeartbeats 4000000 in
theorem Lq{f:ak}{l:List aF}{v:Value}{b:Int}{h:Heap}(hv:Rd (vw h) v f)(hl:SlRd (vw h) vl l)(hsm:SmF f)(ht:Tab h)(hM:iG):
  az VK 32 #[v,vl,VB VC b] h (λu h'=>(vw h).le (vw h')/\SlRd (vw h') u (xn f l b)):=by
 refine rZ (args:=[v,vl,VB VC b]) follows Tryz.func32 E.jP Vw λK hK=>?_;dsimp only[L.jP,lkF,lkG];have hlen:=hsm.len;have w0:=Owns.start (h:=h) (View.le_refl (vw h));refine aa λz hz=>?_;simp;refine w0.tC (α:=ak) rfl hv λBf h1 W1 hW1 w1 atF hle1=>?_;subst hz;refine aa λz hz=>?_;obtain⟨uF,huF,rF⟩:=atF.ldN rfl (N:=2) rfl;have sl:=hl.mono hW1;simp[huF _ w1.wle];refine ah V0 (AT w1.wle sl rF hsm (ht.mono hle1) (λ_ _ _=>hM) (λhr=>HH (ld hr) hsm (oK rF))) ?_;rintro _ h2 ⟨hle2,rfl⟩;have w2:=w1.ext hle2;have lW2:W1.le (grow W1 h1 h2):=bz w1.wle;generalize grow W1 h1 h2=W2 at *;have l02:=Vz hW1 lW2;have huF:=λK hK=>huF K (Vz lW2 hK);have rF:=rF.mono lW2;have sl:=sl.mono lW2;have atF:=atF.mono lW2;clear lW2 w1 w0 hW1 hle1 hle2;obtain⟨-,vb,cb,sb⟩:=fw atF;have sbn : ∀{K:View},Un.ev K .len vb=VE (VB VC f.blocks.length):=sb.len;simp;subst hz;refine aa λz hz=>?_;have cb2:=ae w2.wle cb;by_cases cn:(db l f).1≠0\/b<0\/(f.blocks.length:Int)<=b
 ·have e:xn f l b=[]:=by unfold xn;rw[if_pos cn]
  rw[e]at hK;refine kD V7 ?_ ?_
  ·by_cases c1:(db l f).1=0
   ·by_cases c2:b<0
    ·simp[cb2,sbn,c1,c2]
    have c3:(f.blocks.length:Int)<=b:=by
     rcases cn with c | c | c
     ·exact absurd c1 c
     ·exact absurd c c2
     exact c
    simp[cb2,sbn,c1,c2,c3]
   simp[cb2,sbn,c1]
  simp;intro h6 hsw;exact⟨_,rfl,hK _ _ ⟨hsw.ext (Vz l02 w2.wle),aO⟩⟩
 have ce:(db l f).1=0:=Classical.byContradiction λc=>cn (.inl c);have b0:0<=b:=by omega
 obtain⟨bn,rfl⟩:=S2 b0;have hb:bn<f.blocks.length:=by omega
 have e:xn f l bn=jk f l bn (fN f bn l).length:=by unfold xn;rw[if_neg cn];rfl
 rw[e]at hK;obtain⟨tb0,hrt,-⟩:=qV ce;have hok:Okf f:=⟨ld hrt,hsm,oK rF⟩;have hcl : ∀t∈l,0<=t.cost/\t.cost<=1000:=λt ht=>yP tb0 ht;have hpat : ∀t∈l,I64 t.pat:=λt ht=>AU tb0 ht;have hil:=(hsm.blk bn hb).ins;have nb:¬((f.blocks.length:Int)<=bn):=by omega
 have nb2:¬((bn:Int)<0):=by omega
 refine kJ V7 ?_ ?_
 ·simp[cb2,sbn,ce,nb,nb2]
 subst hz;refine aa λz hz=>?_;simp[huF _ w2.wle];refine ah V0 (rA w2 rF sl hok hM hb hpat hcl) ?_;rintro _ h22 ⟨C,rm,rc,rb,B22,W22,rfl,hsol,lW22,cw22⟩;refine cZ (α:=Raw) (d:=⟨ptz C⟩) (X:=B22) (z:=VH VF) V0 rfl V0 (iZ.2 ⟨rfl,rfl⟩) V8 V8 λh23 hle23 _ at23=>?_;have at23:=(at23 (grow B22 h22 h23) cw22.z.up (b8 (RQ _))).raw;have cw23:=cw22.ext hle23;have lW23:=Vz lW22 (cw22.z.upW (h':=h23));generalize h22.size=Bq at at23 ⊢;generalize grow B22 h22 h23=B23 at *;generalize grow W22 h22 h23=W23 at *;clear cw22 hsol lW22 hle23 w2 cb2;subst hz;refine aa λz hz=>?_;have w3:=cw23.z.own;have atF3:=atF.mono lW23;have cb3:=ae w3.wle (ae lW23 cb);have qb:=(((sb.mono lW23).mono w3.wle)).idxn (k:=.i64) (N:=6) rfl (i:=(bn:Int)) V4 V4;obtain⟨vin,cin,sin⟩:=((((sb.mono lW23).mono w3.wle).at hb).part BlkD.jS).list;have n6:Rep.n BlkD=6:=rfl;simp[n6]at qb cin;rw[<-ay hb]at sin;have sn : ∀{K:View},Un.ev K .len vin=VE (VB VC (nth f.blocks bn).ins.length):=sin.len;have ew:IntKind.i64.wrap (((nth f.blocks bn).ins.length:Int)+1)=(((nth f.blocks bn).ins.length+1:Nat):Int):=by rw[aZ V4 V4];omega
 obtain⟨n,hn⟩ : ∃n,n=(nth f.blocks bn).ins.length+1:=⟨_,rfl⟩;rw[<-hn]at ew;simp[cb3,qb,cin,sn,ew];refine pb (α:=Int) (k:=.i64) (W:=W23) (n:=n) (d:=0) El.aY V5 V5 ⟨rfl,by decide,by decide⟩ V4 V4 λov h24 o24 _ hle24 hob=>?_;have w4:=w3.add (k:=(0,1)) rfl o24 hle24 (λb hb=>by rw[hob]at hb;simp at hb;omega);have hov:=(w4.cells (k:=(0,1)) Own.an).2;refine w4.qR (k:=(0,0)) (α:=Raw) (d:=⟨ov⟩) (n:=1) (Own.aB V5) (iZ.2 ⟨rfl,hov⟩) rfl (z:=VG VF 0 0) V0 rfl V0 V6 V8 V8 λh25 hle25 w5=>?_;generalize h24.size=Bo at w5 ⊢;have w5:Owns W23 h25 (tlO Bo ov (sD n 0)):=w5.sub λk i hk=>by
  unfold tlO at hk;by_cases c0:k=(0,0)
  ·subst c0;exact hk
  by_cases c1:k=(0,1)
  ·subst c1;exact hk
  rw[if_neg c0,if_neg c1]at hk;cases hk
 have lt25 : ∀{r:Nat} {g:Value->Option Value},MV (.int .i64) W23 r g->dg (.int .i64) h25 r g:=λm=>m.is w5.wle;clear w4 w3 o24 hob qb cin sn cb3;subst hz;refine aa λz hz=>?_;have co : ∀{hx:Heap} {Wx:View} {L:List Int},Owns Wx hx (tlO Bo ov L)->ao (vw hx) ⟨Bo,0,VF⟩=VE ov:=λw=>(w.at (k:=(0,0)) (B:=Bo) (d:=(⟨ov⟩:Raw)) rfl).raw;have rn : ∀{hx:Heap} {Wx:View} {L:List Int},Owns Wx hx (tlO Bo ov L)->SlRd (vw hx) ov L:=λw=>w.now (k:=(0,1)) rfl;have lo : ∀{K:View},Un.ev K .len ov=VE (VB VC n):=fun{K}=>by have:=(rn w5).len (K:=K);rw[zT (To _)]at this;exact this
 simp[co w5,lo];refine aG [3,10,11,50,51] (fun(_:Unit) k=>[ptz Bf,ptz Bq,ptz Bo,VB VC n,VB VC k])
  (λ_ k hx=>Owns W23 hx (tlO Bo ov (sD n k))/\h23.size<=hx.size) n ()
  V0 V4 (by simp[bh,af,ag]) ⟨w5,Sk (bO hle24) (bO hle25)⟩ (λ_ _=>rfl) (λv i h1 hk m=>by simp) ?_ ?_
 ·rintro _ k h26 hk ⟨w6,hs6⟩ K2 hK2;have hk:k<n:=hk;have q:=(rn w6).idx1 (k:=.i64) (i:=(k:Int)) rfl V4 (by rw[zT V4];omega);simp at q;refine dB ?_;refine aa λy hy=>?_;simp;subst hy;simp[co w6,q];refine w6.bI (k:=(0,1)) (α:=Int) (l:=sD n k) (i:=k) (d:=-1) rfl V0 (by simp[Rep.n]) V5 (by rw[zT V4];omega) (bw.2 ⟨rfl,by decide,by decide⟩) λh27 w7 hs7=>?_;rw[Hj,Ll hk]at w7;exact hK2 () _ _ (by simp[af,ag]) (by simp[bh,af,ag]) ⟨w7,by omega⟩
 rintro _ h26 ⟨w6,hs6⟩;have cw26:Cw B23 W23 h26 (tlO Bo ov (sD n n)) C rm rc rb f bn l (mkU f bn) (bD f bn l) [rb,rc,rm]:=⟨⟨w6,cw23.z.le,cw23.z.no,λr hr=>SY (cw23.z.lt r hr) hs6⟩,cw23.ch,cw23.mm,cw23.mc,cw23.mb,cw23.ne,cw23.cin,cw23.bin⟩;have hfl:sD n n=jk f l bn 0:=by unfold sD jk;rw[<-hn];simp
 rw[hfl]at cw26;simp;subst hz;refine aa λz hz=>?_;refine aa λx hx=>?_;simp[ae cw26.z.wle at23];refine ah V0 (EW cw26 (λp t=>rN) hpat) ?_;rintro _ h27 ⟨p1,p2,B27,W27,rfl,lB27,lW27,cw27,hit⟩;have ch:=cw27.ch.mono cw27.z.le;have c10:=ae (Vz lB27 cw27.z.le) at23;have mb:=cw27.mb;have own27:=cw27.z.own;subst hx;refine dB ?_;refine uV (enc:=natV) (all:=fN f bn l) (gf:=99) (caps:=[ptz p1,ptz p2]) W27 W27
  (λe k X hx=>e=VF/\∃Y o',Held h27.size X Y hx o'/\(W27.le Y/\o'=tlO Bo ov (jk f l bn k)))
  rfl V0 hit (λ_=>rfl) Vy (λe k=>⟨λ⟨_,q⟩=>Held.yG.le q,λ⟨a,q⟩ h1 h2 h3 h4=>⟨a,Held.yG.move q h1 h2 h3 h4⟩⟩) ⟨rfl,W27,_,Held.start own27,View.le_refl _,rfl⟩
  (λx h1=>by simp[natV,dC];rfl) ?_ ?_ ?_
 ·rintro k i X h28 hag hk ⟨_,Y,o',w,lY,rfl⟩ K3 hK3 _;obtain⟨hi,-⟩:=DS hk;have hst:jk f l bn (k+1)=wL f bn l (jk f l bn k) i:=uM hk;have hle:=Fx (f:=f) (l:=l) (b:=bn) (k:=k);have lYh:=Vz lY w.own.wle;refine dB ?_;refine aa λx hx=>?_;simp[ae lYh c10,ae lYh ch.x6];refine eO (f:=mapI (bD f bn l).best) (z:=VB VC 0) (k:=T.int) (e:=T.int) (d:=.int .i64) (r:=rb) (u:=VB VC i) V0 V0 V0 rfl rfl cQ ((mb.mono lY).is w.own.wle) ?_;cases hbi:(bD f bn l).best i with
  | none=>
   have er:jk f l bn (k+1)=jk f l bn k:=by rw[hst];unfold wL;rw[hbi]
   simp[hbi];subst hx;simp;exact hK3 _ _ ⟨rfl,Y,_,w,lY,by rw[er]⟩
  | some t=>
   have er:jk f l bn (k+1)=(jk f l bn k).set i t:=by rw[hst];unfold wL;rw[hbi]
   obtain⟨t0,t1⟩:=rN hbi;have bl:=sl.bound;have q:=(rn w.own).idx1 (k:=.i64) (i:=(i:Int)) rfl V4 (by rw[hle];omega);simp at q;simp[hbi];subst hx;simp[co w.own,q];refine w.bI (k:=(0,1)) (α:=Int) (l:=jk f l bn k) (i:=i) (d:=t) rfl V0 (by simp[Rep.n]) V5 (by rw[hle];omega) (bw.2 ⟨rfl,by omega,by omega⟩) λh29 w29=>?_;rw[Hj]at w29;exact hK3 _ _ ⟨rfl,Y,_,w29,lY,by rw[er]⟩
 ·rintro X h28 hag ⟨_,Y,o',w,lY,rfl⟩;simp;subst hz;have sR:=dx.1 (dx.2 (rn w.own)).cf;simp[co w.own];intro h6 hsw;exact⟨_,rfl,hK _ _ ⟨hsw.ext (Vz l02 (Vz lW23 (Vz lW27 (Vz lY w.own.wle)))),sR.mono hsw.cf⟩⟩
 rintro e k X h28 hag ⟨hne,_⟩;cases hne
def ex8F:ak:=⟨1,[⟨[],[⟨1,1,0,[],⟨5⟩⟩,⟨2,2,0,[0,1],⟨0⟩⟩],⟨4,[2],[],⟨0⟩⟩⟩]⟩
theorem PD{h:Heap}{W:View}(hW:W.le (vw h)):az VK 31 #[] h (λu h'=>(vw h).le (vw h')/\Rd (grow W h h') u ex8F):=by refine aq (args:=[]) follows Tryz.func31 E.mz Vw λK hK=>?_;dsimp only[L.mz,lkF,lkG];have c0:=Cx.start hW;refine aa λz hz=>?_;simp;refine c0.dc (k:=(0,0)) (n:=1) (z:=.agg #[VB VC 0,VG VF 0 0]) rfl V0 rfl V6 Vu λR h1 hle1 c1=>?_;subst hz;refine aa λz hz=>?_;simp;refine aA (t:=T.ff) (z:=zz5) (places:=zpa) (vs:=[(0,VB VC 1),(1,VB VC 1),(4,VB VD 5)]) (cs:=#[VB VC 1,VB VC 1,VB VC 0,VG VF 0 0,VB VD 5]) V0 V0 V5 V0 ?_;refine c1.mX (α:=Int) (vs:=[VB VC 0,VB VC 1]) (ds:=[0,1]) El.aY V0 ⟨bw.2 ⟨rfl,by decide⟩,bw.2 ⟨rfl,by decide⟩,trivial⟩ rfl V6 V6 λu2 h2 W2 hW2 c2 s2 hle2=>?_;obtain⟨b2,n2,k2,rfl⟩:=SlRd.ex s2;refine aA (t:=T.ff) (z:=.agg #[VB VC 0,VB VC 0,VB VC 0,VG VF 0 0,VB VD 0]) (places:=zpa) (vs:=[(0,VB VC 2),(1,VB VC 2),(3,(.slice b2 n2 k2))]) (cs:=#[VB VC 2,VB VC 2,VB VC 0,(.slice b2 n2 k2),VB VD 0]) V0 V0 V5 (by simp[Instr.fill,Value.cells]) ?_;refine c2.mX (α:=InsD) (vs:=[.agg #[VB VC 1,VB VC 1,VB VC 0,VG VF 0 0,VB VD 5],.agg #[VB VC 2,VB VC 2,VB VC 0,(.slice b2 n2 k2),VB VD 0]]) (ds:=[⟨1,1,0,[],⟨5⟩⟩,⟨2,2,0,[0,1],⟨0⟩⟩]) El.qe V5 ⟨HN ⟨V6,V6⟩ ⟨V6,V6⟩ ⟨V6,V6⟩ aO V6,HN ⟨V6,V6⟩ ⟨V6,V6⟩ ⟨V6,V6⟩ s2 V6,trivial⟩ rfl V6 V6 λu3 h3 W3 hW3 c3 s3 hle3=>?_;obtain⟨b3,n3,k3,rfl⟩:=SlRd.ex s3;refine c3.mX (α:=Int) (vs:=[VB VC 2]) (ds:=[2]) El.aY V0 ⟨bw.2 ⟨rfl,by decide⟩,trivial⟩ rfl V6 V6 λu4 h4 W4 hW4 c4 s4 hle4=>?_;obtain⟨b4,n4,k4,rfl⟩:=SlRd.ex s4;refine aA (t:=T.j9) (z:=.agg #[VB VC 0,VG VF 0 0,VG VF 0 0,VB VD 0]) (places:=zpe) (vs:=[(0,VB VC 4),(1,(.slice b4 n4 k4))]) (cs:=#[VB VC 4,(.slice b4 n4 k4),VG VF 0 0,VB VD 0]) V0 V0 V5 (by simp[Instr.fill,Value.cells]) ?_;refine aA (t:=T.fg) (z:=.agg #[VG VF 0 0,VG VF 0 0,VB VC 0,VG VF 0 0,VG VF 0 0,VB VD 0]) (places:=[(0,1),(1,1),(2,4)]) (vs:=[(1,(.slice b3 n3 k3)),(2,.agg #[VB VC 4,(.slice b4 n4 k4),VG VF 0 0,VB VD 0])]) (cs:=#[VG VF 0 0,(.slice b3 n3 k3),VB VC 4,(.slice b4 n4 k4),VG VF 0 0,VB VD 0]) V0 V0 V5 (by simp[Instr.fill,Value.cells]) ?_;refine c4.mX (α:=BlkD) (vs:=[.agg #[VG VF 0 0,(.slice b3 n3 k3),VB VC 4,(.slice b4 n4 k4),VG VF 0 0,VB VD 0]]) (ds:=ex8F.blocks) El.oM V5 ⟨ND aO (s3.mono hW4) s4 aO ⟨V6,V6⟩ V6,trivial⟩ rfl V6 V6 λu5 h5 W5 hW5 c5 s5 hle5=>?_;obtain⟨b5,n5,k5,rfl⟩:=SlRd.ex s5;refine aA (t:=T.fS) (z:=.agg #[VB VC 0,VG VF 0 0]) (places:=zpd) (vs:=[(0,VB VC 1),(1,(.slice b5 n5 k5))]) (cs:=#[VB VC 1,(.slice b5 n5 k5)]) V0 V0 V5 (by simp[Instr.fill,Value.cells]) ?_;refine c5.bI (α:=ak) (k:=(0,0)) (n:=1) V7 (Fm (p:=1) ⟨V6,V6⟩ s5) rfl rfl V0 V5 V5 λh6 l6 hl6 c6=>?_;subst hz;have hall:=c6.all (k:=(0,0)) (n:=1) (l:=l6) (B:=R) (e:=T.fS) V7;simp at hall;simp[hall];refine hK _ _ ⟨c6.le0,?_⟩;rw[<-hl6];exact(Fm (p:=1) ⟨V6,V6⟩ s5).mono c6.fin
theorem LW:SmF ex8F:=by
 refine⟨by decide,λi hi=>?_⟩;have hi:i<1:=hi;obtain rfl:i=0:=by omega
 refine⟨by decide,by decide,by decide,by decide,λj hj=>absurd hj (Tx _),λj hj=>?_⟩;have hj:j<2:=hj;rcases j with _ | _ | j
 ·decide
 ·decide
 omega
def KK:MFnD:=⟨1,[⟨[],[⟨18,2,0,0,0,0,⟨5⟩,[]⟩],⟨7,2,0,[],⟨0⟩⟩⟩]⟩
theorem FV:dp ex8F allT=⟨KK,1,0⟩:=by kernel_rfl
theorem H3:xn ex8F allT 0=[-1,15,-1]:=by kernel_rfl
theorem gH.jS:Part gH (List bU) 1 gH.ins (λd x=>{ d with ins:=x }):=(Part.snd (Part.fst Part.all)).via (λ_=>rfl) λ_ _=>rfl
theorem gH.Hw:Part gH EndD 2 gH.fin (λd x=>{ d with fin:=x }):=(Part.snd (Part.snd Part.all)).via (λ_=>rfl) λ_ _=>rfl
theorem MFnD.sI:Part MFnD (List gH) 1 MFnD.blocks (λd x=>{ d with blocks:=x }):=(Part.snd Part.all).via (λ_=>rfl) λ_ _=>rfl
theorem EF{s:List Int}{v:Value}{h:Heap}(hs:SlRd (vw h) v s):az VK 12 #[v] h (λu h'=>h'=h/\SlRd (vw h) u (s.take 300)):=by
 refine aq (args:=[v]) follows Tryz.func12 E.qE Vw λKc hK=>?_;dsimp only[L.qE,lkF,lkG];have hb:=hs.bound;simp[hs.len];refine⟨λh1=>?_,λh1=>?_⟩
 ·obtain⟨u,h2,h3⟩:=hs.take (n:=300) V4 (kd:=.i64);have h2:Bn.ev .hi v (VB VC 300)=VE u:=h2;simp[h2];exact hK _ _ ⟨rfl,h3⟩
 refine hK _ _ ⟨rfl,?_⟩;rw[Sg V4];exact hs
theorem yL{x n:Int}{h:Heap}(hn:0<n/\n<=1000000):az VK 16 #[VB VC x,VB VC n] h (λu h'=>∃r:Nat,u = VB VC r/\(r:Int)<n/\h'=h):=by
 refine aq (args:=[VB VC x,VB VC n]) follows Tryz.func16 E.qH Vw λK hK=>?_;have h2:=U2 x hn.1;have h3:=Uz x hn.1;have h4:n≠0:=by omega
 simp(disch:=omega)[L.qH,h4];have h5:0<=((x.tmod n)+n).tmod n:=Int.tmod_nonneg _ V4;exact hK _ _ ⟨(((x.tmod n)+n).tmod n).toNat,by rw[Sr h5],by rw[Sr h5];exact Uz _ hn.1,rfl⟩
theorem ex8'{h:Heap}:az VK 31 #[] h (λu h'=>(vw h).le (vw h')/\Rd (vw h') u ex8F):=
 (PD Vy).mono λu h' ⟨h1,h2⟩=>⟨h1,h2.mono (lj h1)⟩
theorem Gm{v:Value}{h:Heap}(hv:Rd (vw h) v ex8F)(hl:SlRd (vw h) vl allT)(ht:Tab h)(hM:iG):
  az VK 14 #[v,vl] h (λu h'=>(vw h).le (vw h')/\∃vm,u = .tuple #[vm,VB VC 1,VB VC 0]/\Rd (vw h') vm KK):=by have:=mA hv hl LW ht hM;rw[FV]at this;exact this
theorem Jp{v:Value}{h:Heap}(hv:Rd (vw h) v ex8F)(hl:SlRd (vw h) vl allT)(ht:Tab h)(hM:iG):
  az VK 32 #[v,vl,VB VC 0] h (λu h'=>(vw h).le (vw h')/\SlRd (vw h') u [-1,15,-1]):=by have:=Lq (b:=0) hv hl LW ht hM;rw[H3]at this;exact this
set_option maxHeartbeats 1000000 in
theorem H0{h:Heap}(ht:Tab h)(hM:iG):az VK 10 #[] h (λu h'=>(vw h).le (vw h')/\u = .bool VI):=by
 refine aq (args:=[]) follows Tryz.func10 E.oZ Vw λK hK=>?_;dsimp only[L.oZ,lkF,lkG];refine aa λz hz=>?_;simp;subst hz;refine aa λz hz=>?_;simp;refine ah V0 ex8' ?_;rintro u1 h1 ⟨le1,r1⟩;refine ah V0 Kq ?_;rintro u2 h2 ⟨le2,s2⟩;refine ah V0 (Gm (r1.mono le2) s2 (ht.mono (Vz le1 le2)) hM) ?_;rintro _ h3 ⟨le3,vm,rfl,rm⟩;simp;refine cZ (X:=vw h3) (z:=zz4) V0 rfl V0 rm V8 V8 λh4 le4 _ at4=>?_;have at4:=at4 (vw h4) le4 rfl;generalize h3.size=B at at4 ⊢;have l04:=Vz le1 (Vz le2 (Vz le3 le4));subst hz;refine aa λz hz=>?_;simp;refine ah V0 ex8' ?_;rintro u5 h5 ⟨le5,r5⟩;refine ah V0 Kq ?_;rintro u6 h6 ⟨le6,s6⟩;have l46:=Vz le5 le6;refine ah V0 (Jp (r5.mono le6) s6 (ht.mono (Vz l04 l46)) hM) ?_;rintro vt h7 ⟨le7,st⟩;subst hz;refine aa λz hz=>?_;simp;refine yH (α:=Int) (ds:=[-1,15,-1]) (vs:=[VB VC (-1),VB VC 15,VB VC (-1)]) (X:=nothing) El.aY V0 ⟨bw.2 ⟨rfl,by decide,by decide⟩,bw.2 ⟨rfl,by decide,by decide⟩,bw.2 ⟨rfl,by decide,by decide⟩,trivial⟩ rfl V6 V6 λu8 h8 le8 _ s8 _=>?_;have s8:=s8 (vw h8) cR rfl;refine ah V0 (Pu (st.mono le8) s8) ?_;rintro _ h8 ⟨rfl,rfl⟩;have l48:=Vz l46 (Vz le7 le8);have at8:=at4.mono l48;obtain⟨vb,kb,sb⟩:=(at8.part MFnD.sI).sl;have sb:SlRd (vw h8) vb ([⟨[],[⟨18,2,0,0,0,0,⟨5⟩,[]⟩],⟨7,2,0,[],⟨0⟩⟩⟩]:List gH):=sb;have kb:ao (vw h8) ⟨B,1,VF⟩=VE vb:=by simpa using kb
 have q:=sb.idxn (k:=.i64) (N:=7) rfl (i:=0) V4 V5;obtain⟨vi,ki,si⟩:=((sb.at (i:=0) V5).part gH.jS).sl;have e0:=(((sb.at (i:=0) V5).part gH.Hw).part EndD.za).int;have e1:=(((sb.at (i:=0) V5).part gH.Hw).part EndD.RO).int;have lb : ∀{K:View},Un.ev K .len vb=VE (VB VC 1):=sb.len;have li : ∀{K:View},Un.ev K .len vi=VE (VB VC 1):=si.len;have qi:=si.idxn (k:=.i64) (N:=8) rfl (i:=0) V4 V5;obtain⟨um,hum,rum⟩:=(si.at (i:=0) V5).ldN rfl (N:=8) rfl;have hum:=hum _ Vy;simp at q ki e0 e1 qi hum;subst hz;refine aa λz hz=>?_;simp[kb,lb,q,ki,li];subst hz;refine aa λz hz=>?_;simp[kb,q,ki,qi,hum];refine cZ (α:=bU) (X:=vw h8) (z:=zz8) V0 rfl V0 rum V8 V8 λh9 le9 _ at9=>?_;have at9:=at9 (vw h9) le9 rfl;generalize h8.size=C at at9 ⊢;have a0:=(at9.part bU.za).int;have a1:=(at9.part bU.RK).int;have a6:=(at9.part bU.lQ).i32;simp at a0 a1 a6;subst hz;simp[a0,a1,a6,ae le9 kb,q,ae le9 e0,ae le9 e1];exact hK _ _ ⟨Vz l04 (Vz l48 le9),rfl⟩
theorem Gc{f:ak}(h:kR f=(0,0,0)):ll f=true:=by unfold ll;rw[h];rfl
set_option maxHeartbeats 4000000 in
theorem Aw{s t:List Int}{q:Q3}{vs vt vq:Value}{h:Heap}(ht:Tab h)(hM:iG)(hs:SlRd (vw h) vs s)(htb:SlRd (vw h) vt t)(hq:Rd (vw h) vq q):
  az VK 4 #[vs,vt,vq] h (λu h'=>u = .bool VI/\(vw h).le (vw h')):=by
 refine aq (args:=[vs,vt,vq]) follows Tryz.func4 E.jH Vw λK hK=>?_;dsimp only[L.jH,lkF,lkG];have w0:=Owns.start (h:=h) (View.le_refl (vw h));refine aa λz hz=>?_;simp;refine w0.tC (α:=Q3) rfl hq λX h1 W1 hW1 w1 atQ hle1=>?_;have atQ:=atQ.mono w1.wle;have l01:=hle1;subst hz;refine aa λz hz=>?_;simp;refine ah V0 (H0 (ht.mono l01) hM) ?_;rintro _ h2 ⟨hle2,rfl⟩;have l02:=Vz l01 hle2;subst hz;refine aa λz hz=>?_;simp;refine ah V0 (EF (hs.mono l02)) ?_;rintro us _ ⟨rfl,s3⟩;refine ah V0 (M8 (Owns.start Vy) (λ_ _=>rfl) s3) ?_;rintro uf h4 ⟨W4,hW4,w4,rf⟩;have rf:=rf.mono w4.wle;have l24:=Vz hW4 w4.wle;have l04:=Vz l02 l24;have hm:=y4 (s:=s.take 300);have hsm:=NT (s:=s.take 300);have htop:=Ki (s:=s.take 300);have hrt:=Gc (Ji (s:=s.take 300));generalize iq (s.take 300)=f at rf hm hsm htop hrt;have hok:Okf f:=⟨hm,hsm,oK rf⟩;refine cZ (X:=vw h4) (z:=zz4) V0 rfl V0 rf V8 V8 λh5 hle5 _ at5=>?_;have at5:=at5 (vw h5) hle5 rfl;generalize h4.size=B at at5 ⊢;obtain⟨uF,huF,rF⟩:=at5.ldN rfl (N:=2) rfl;have l05:=Vz l04 hle5;subst hz;refine aa λz hz=>?_;simp;refine ah V0 (EF (htb.mono l05)) ?_;rintro ut _ ⟨rfl,s6⟩;refine ah V0 (JN s6) ?_;rintro ul h7 ⟨hle7,sl⟩;obtain⟨s',hs'⟩ : ∃s',s'=t.take 300:=⟨_,rfl⟩;rw[<-hs']at sl;have hl74:=wP (s:=s');have hg:=HG (s:=s');have l07:=Vz l05 hle7;subst hz;refine aa λz hz=>?_;simp[huF _ hle7];refine ah V0 (mA (rF.mono hle7) sl hsm (ht.mono l07) hM) ?_;rintro _ h8 ⟨hle8,vm,rfl,rm⟩;simp;refine cZ (X:=vw h8) (z:=zz4) V0 rfl V0 rm V8 V8 λh9 hle9 _ _=>?_;have l79:=Vz hle8 hle9;have l59:=Vz hle7 l79;have l09:=Vz l05 l59;have sl:=sl.mono l79;have lq:=Vz hle2 (Vz l24 (Vz hle5 l59));obtain⟨qa,qbc⟩:=atQ.cat;obtain⟨qb,qc⟩:=qbc.cat;have c0:ao (vw h9) ⟨X,0,VF⟩=VE (VB VC q.a):=ae lq qa.int;have c1:ao (vw h9) ⟨X,1,VF⟩=VE (VB VC q.b.a):=ae lq qb.int;have c2:ao (vw h9) ⟨X,2,VF⟩=VE (VB VC q.b.b):=ae lq qc.int;have x0:Bn.ev (.aidx 3 1) (ptz X) (VB VC 0)=VE (ptz X):=rfl;have x1:Bn.ev (.aidx 3 1) (ptz X) (VB VC 1)=VE (VH (VE ⟨X,1,VF⟩)):=rfl;have x2:Bn.ev (.aidx 3 1) (ptz X) (VB VC 2)=VE (VH (VE ⟨X,2,VF⟩)):=rfl;have w9:=Owns.start (h:=h9) (View.le_refl (vw h9));have at9:=at5.mono l59;have huF:=λK hK=>huF K (Vz l59 hK);have rF:=rF.mono l59;clear qa qb qc qbc atQ lq w4 w1 w0 at5 hle8 hle9 hle7 l79 rm s3 s6 hW1 hle1;subst hz;refine aa λz hz=>?_;refine aQ (vw h9) Vy ?_;simp[x0,x1,c0,c1];refine w9.kf (k:=(0,0)) (α:=aF) rfl El.eJ λv10 h10 hle10 hv10 w10 _=>⟨hle10,?_⟩;refine w10.dd (k:=(0,0)) (α:=aF) (l:=[]) (l2:=tabS s') Own.an El.eJ V5 V5 (sl.src hle10) Vv Vv λv11 h11 w11 _=>⟨w11.wle,?_⟩;refine ah V0 (yL V4) ?_;rintro _ _ ⟨r1,rfl,hr1,rfl⟩;refine⟨w11.wle,?_⟩;have ew:IntKind.i64.wrap (1+(r1:Int))=1+(r1:Int):=aZ V4 V4;simp[ew];refine ah V0 (yL V4) ?_;rintro _ _ ⟨r2,rfl,hr2,rfl⟩;refine aA (t:=T.fu) (z:=zz1) (places:=zpd) (vs:=[(0,VB VC (1+(r1:Int))),(1,VB VC r2)]) (cs:=#[VB VC (1+(r1:Int)),VB VC r2]) V0 V0 V5 V0 ?_;refine lT (α:=aF) (W:=vw h9) El.eJ V5 (yv (p:=1+(r1:Int)) (c:=(r2:Int)) V9 V9) λu12 h12 hsrc hle12 _=>?_;have w12:=w11.ext' hle12;refine w12.dd (k:=(0,0)) (α:=aF) (v:=v11) (l:=[]++tabS s') (l2:=[⟨1+(r1:Int),r2⟩]) Own.an El.eJ V5 V5 hsrc Vv Vv λv13 h13 w13 _=>?_;have s13:=w13.now (k:=(0,0)) Own.an;have l13:=w13.wle;rw[SM]at s13;clear w9 w10 w11 w12 w13 hsrc hle12 hle10 hv10;subst hz;refine aa λz hz=>?_;simp[huF _ l13];refine ah V0 (mA (rF.mono l13) s13 hsm (ht.mono (Vz l09 l13)) hM) ?_;rintro _ h14 ⟨hle14,vm2,rfl,rm2⟩;simp;refine cZ (X:=vw h14) (z:=zz4) V0 rfl V0 rm2 V8 V8 λh15 hle15 _ _=>?_;have l15:=Vz l13 (Vz hle14 hle15);have l015:=Vz l09 l15;have sl:=sl.mono l15;have sll : ∀{K:View},Un.ev K .len ul=VE (VB VC (tabS s').length):=sl.len;obtain⟨p1,p2⟩:=QJ (s:=s') (t:=⟨1+(r1:Int),r2⟩) hok hrt htop ⟨⟨by show 1<=1+(r1:Int);omega,by show 1+(r1:Int)<=37;omega⟩,by show 0<=(r2:Int);omega,by show(r2:Int)<=20;omega⟩;generalize hA:dp f (tabS s'++[⟨1+(r1:Int),r2⟩])=A at p1 p2;clear rm2 s13 hle14 hle15;subst hz;refine aa λz hz=>?_;by_cases ce:(dp f (tabS s')).err=0;rotate_left
 ·rcases p1 with e | e
  ·simp[ce,e];exact hK _ _ ⟨rfl,l015⟩
  simp[ce,e];exact hK _ _ ⟨rfl,l015⟩
 obtain⟨p2,p3⟩:=p2 ce;simp[ce];subst hz;refine aa λz hz=>?_;by_cases cl:(tabS s').length=0
 ·simp[sll,cl,p2];exact hK _ _ ⟨rfl,l015⟩
 have cl2:¬(((tabS s').length:Int)=0):=by omega
 have cl3:tabS s'≠[]:=λe=>cl (by rw[e];rfl);simp[sll,cl3];subst hz;refine aa λz hz=>?_;have w15:=Owns.start (h:=h15) (View.le_refl (vw h15));simp;refine w15.kf (k:=(0,0)) (α:=aF) rfl El.eJ λv16 h16 hle16 hv16 w16 _=>?_;refine w16.dd (k:=(0,0)) (α:=aF) (l:=[]) (l2:=tabS s') Own.an El.eJ V5 V5 (sl.src hle16) Vv Vv λv17 h17 w17 _=>?_;rw[SM]at w17;have s17:=w17.now (k:=(0,0)) Own.an;have s17l : ∀{K:View},Un.ev K .len v17=VE (VB VC (tabS s').length):=s17.len;have c2:=ae (Vz l15 w17.wle) c2;subst hz;refine aa λz hz=>?_;simp[x2,c2,s17l];refine ah V0 (yL V4) ?_;rintro _ _ ⟨k,rfl,hk,rfl⟩;have hk:k<(tabS s').length:=by omega
 obtain⟨g1,g2,g3⟩:=hg _ (aX hk);have qk:=s17.idxn (k:=.i64) (N:=2) rfl (i:=(k:Int)) V4 V4;have kc:=((s17.at hk).part aF.wO).int;rw[<-ay hk]at kc;have n2:Rep.n aF=2:=rfl;simp[n2]at qk kc;have ew2:IntKind.i64.wrap ((nth (tabS s') k).cost.tdiv 2)=(nth (tabS s') k).cost.tdiv 2:=aZ (by rw[TD g2];omega) (by rw[TD g2];omega);obtain⟨p4,p5⟩:=Qz (s:=s') (k:=k) hok htop hk ce;subst hz;refine aa λz hz=>?_;simp(disch:=omega)[qk,kc,ew2];refine w17.qy (k:=(0,0)) (α:=aF) aF.wO (i:=k) (d:=(nth (tabS s') k).cost.tdiv 2) Own.an V0 (by simp[n2]) V5 hk (bw.2 ⟨rfl,by rw[TD g2];omega,by rw[TD g2];omega⟩) λh18 w18 _=>?_;have s18:=w18.now (k:=(0,0)) Own.an;have es:(tabS s').set k { (tabS s')[k]with cost:=(nth (tabS s') k).cost.tdiv 2 }=(tabS s').set k ⟨(nth (tabS s') k).pat,(nth (tabS s') k).cost.tdiv 2⟩:=by rw[ay hk]
 have s18:SlRd (vw h18) v17 ((tabS s').set k ⟨(nth (tabS s') k).pat,(nth (tabS s') k).cost.tdiv 2⟩):=by rw[<-es];exact s18
 have l18:=w18.wle;clear w15 w16 w17 w18;subst hz;refine aa λz hz=>?_;simp[huF _ (Vz l15 l18)];refine ah V0 (mA (rF.mono (Vz l15 l18)) s18 hsm (ht.mono (Vz l015 l18)) hM) ?_;rintro _ h19 ⟨hle19,vm3,rfl,rm3⟩;simp;refine cZ (X:=vw h19) (z:=zz4) V0 rfl V0 rm3 V8 V8 λh20 hle20 _ _=>?_;subst hz;simp[p2,p3,p4,p5];exact hK _ _ ⟨rfl,Vz l015 (Vz l18 (Vz hle19 hle20))⟩
end Go.Lft
