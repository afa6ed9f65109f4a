/- A part of the proof: Qn, Qo, Qp, Qq. -/
import Derived.Test.YtnfiilgdjpdlkaaGreatDoorZTMat8
set_option linter.unusedSimpArgs false
set_option linter.unusedVariables false
open Go.Value renaming int->Sb,slice->Sg,pointer->Si
open Go.IntKind renaming i64->Sc,i32->Sd
open Option renaming some->Se,none->Sf
open Bool renaming true->Sj,false->Sk
open Go.Proofs.Tryz renaming prog->Sn
namespace Go.Proofs.YtnfiilgdjpdlkaaGreatDoor
open Go Go.Lft
abbrev mz:List Value:=[Sb Sc 0,Sb Sc 0,Sb Sc 0,Sb Sc 0,Sb Sc 0,Sb Sc 0,Sb Sd 0,Sg Sf 0 0]
abbrev mchV (o d e a b c i:Int) (s:Value):List Value:=[Sb Sc o,Sb Sc d,Sb Sc e,Sb Sc a,Sb Sc b,Sb Sc c,Sb Sd i,s]
abbrev nT:List (Nat × Nat):=[(0,1),(1,1),(2,1),(3,1),(4,1),(5,1),(6,1),(7,1)]
def rmO (R OB M:Nat) (out:List Value) (D:aH) (tk cd:Option Lft.Item):Own:=λk=>
 if k=(0,0) then bx T.aJ R (RawN.mk (n:=8) bo) else if k=(0,1) then bx T.aJ OB (RawN.mk (n:=8) out) else if k=(0,2) then bx T.cW M D
 else if k=(0,3) then tk else if k=(0,4) then cd else Sf
section
variable {R OB M:Nat} {out out':List Value} {D D':aH} {tk cd tk':Option Lft.Item}
theorem rY:(rmO R OB M out D tk cd).upd (0,1) (bx T.aJ OB (RawN.mk (n:=8) out'))=rmO R OB M out' D tk cd:=by
 funext k;simp only[rmO,Own.upd];split<;>rename_i e
 ·subst e;rfl
 rfl
theorem uF:(rmO R OB M out D tk cd).upd (0,2) (bx T.cW M D')=rmO R OB M out D' tk cd:=by
 funext k;simp only[rmO,Own.upd];split<;>rename_i e
 ·subst e;rfl
 rfl
theorem sr:(rmO R OB M out D tk cd).upd (0,3) tk'=rmO R OB M out D tk' cd:=by
 funext k;simp only[rmO,Own.upd];split<;>rename_i e
 ·subst e;rfl
 rfl
theorem zk:(rmO R OB M out D tk cd).upd (0,4) tk'=rmO R OB M out D tk tk':=by
 funext k;simp only[rmO,Own.upd];split<;>rename_i e
 ·subst e;rfl
 rfl
end
theorem Nb{R OB M:Nat}{out:List Value}{D:aH}{tk cd:Option Lft.Item}:(rmO R OB M out D tk cd).upd (0,5) Sf=rmO R OB M out D tk cd:=by
 funext k;simp only[Own.upd];split<;>rename_i e
 ·subst e;rfl
 rfl
theorem Dz{f:aq}{v op:Int}(hr : ∀i∈dV f,-2147483648<=i.imm.v/\i.imm.v<=2147483647):-2147483648<=(de f v op).1.imm.v/\(de f v op).1.imm.v<=2147483647:=by
 unfold de;cases hs:qW f v with
 | none=>exact⟨show(-2147483648:Int)<=0 by decide,show(0:Int)<=2147483647 by decide⟩
 | some t=>
  simp only[uQ];split
  ·exact⟨show(-2147483648:Int)<=0 by decide,show(0:Int)<=2147483647 by decide⟩
  rename_i c;obtain⟨b,k,hb,hk,-,-,e⟩:=BI hs c;rw[e];exact hr _ (gZ.2 ⟨b,k,hb,hk,rfl⟩)
theorem xB{f:aq}{v lo hi:Int}(hr : ∀i∈dV f,-2147483648<=i.imm.v/\i.imm.v<=2147483647):-2147483648<=(mc f v lo hi).1/\(mc f v lo hi).1<=2147483647:=Dz hr
def memD (i:InsD):aH:=if i.op=16 then⟨26,0,0,0,nth i.args 1,0,⟨0⟩,[]⟩ else⟨24,i.dst,0,0,0,0,⟨0⟩,[]⟩
def memE (i:InsD) (way:Nat) (D:aH):aH:=if i.op=16/\2<=way then{ D with op:=27,d:=0,c:=nth i.args 1 } else D
def memL (i:InsD):List Int:=if i.op=16 then[nth i.args 1] else[]
structure Ef (i:InsD) (pl su:Int):Prop where
 ok:i.op=15/\i.args.length=1/\pl=24/\su=25\/i.op=16/\i.args.length=2/\pl=26/\su=27
def memR (f:aq) (i:InsD) (t:Int) (way:Nat):Option FitD:=
 match way with
 | 0=>if inR i.imm.v 0 255 then Se ⟨[nth i.args 0]++memL i,[],[memE i 0 { memD i with a:=nth i.args 0,imm:=i.imm }],cC⟩ else Sf
 | 1=>if(aG f (nth i.args 0) 2).2 then
   if(dH f (nth (aG f (nth i.args 0) 2).1.args 1) (-2147483648) 2147483647).2&&inR ((dH f (nth (aG f (nth i.args 0) 2).1.args 1) (-2147483648) 2147483647).1+i.imm.v) 0 255 then
    Se ⟨[nth (aG f (nth i.args 0) 2).1.args 0]++memL i,[nth i.args 0,nth (aG f (nth i.args 0) 2).1.args 1],
     [memE i 1 { memD i with a:=nth (aG f (nth i.args 0) 2).1.args 0,imm:=w32 ((dH f (nth (aG f (nth i.args 0) 2).1.args 1) (-2147483648) 2147483647).1+i.imm.v) }],cC⟩
   else Sf
  else Sf
 | 2=>if(aG f (nth i.args 0) 2).2&&decide (i.imm.v=0) then
   Se ⟨[nth (aG f (nth i.args 0) 2).1.args 0,nth (aG f (nth i.args 0) 2).1.args 1]++memL i,[nth i.args 0],
    [memE i 2 ⟨25,i.dst,0,nth (aG f (nth i.args 0) 2).1.args 0,nth (aG f (nth i.args 0) 2).1.args 1,0,⟨0⟩,[]⟩],cC⟩
  else Sf
 | _=>Se ⟨[nth i.args 0]++memL i,[],[⟨4,t,0,0,0,0,i.imm,[]⟩,memE i 3 ⟨25,i.dst,0,nth i.args 0,t,0,⟨0⟩,[]⟩],cC⟩
theorem HH{f:aq}{i:InsD}{t pl su:Int}(m:Ef i pl su): ∀way:Nat,way<4->memS f i t i.op pl su way=memR f i t way:=by
 obtain⟨ok⟩:=m;have e1:i.args.drop 1=memL i:=by
  rcases ok with⟨h1,h2,-⟩ | ⟨h1,h2,-⟩
  ·have:¬i.op=16:=by omega
   match i.args,h2 with
   | [a],_=>simp[memL,this]
  unfold memL;rw[if_pos h1];match i.args,h2 with
  | [a,b],_=>rfl
 intro way hw;rcases ok with⟨h1,h2,rfl,rfl⟩ | ⟨h1,h2,rfl,rfl⟩
 ·have h16:¬i.op=16:=by omega
  match way,hw with
  | 0,_=>simp[memS,memR,e1,gg,memE,memD,h1]
  | 1,_=>simp[memS,memR,e1,gg,memE,memD,h1]
  | 2,_=>simp[memS,memR,e1,gg,memE,memD,h1]
  | 3,_=>simp[memS,memR,e1,gg,memE,memD,h1]
 match way,hw with
 | 0,_=>simp[memS,memR,e1,gg,memE,memD,h1]
 | 1,_=>simp[memS,memR,e1,gg,memE,memD,h1]
 | 2,_=>simp[memS,memR,e1,gg,memE,memD,h1]
 | 3,_=>simp[memS,memR,e1,gg,memE,memD,h1]
abbrev outV (tk iv cd:Value) (ok:Bool):List Value:=[tk,iv,cd,Sb Sc 0,Sb Sc 0,Sb Sc 0,Sg Sf 0 0,Sb Sd 0,.bool ok]
theorem qU{H:View}{tk iv cd:Value}{l inn:List Int}{cl:List aH}{ok:Bool}(h1:SlRd H tk l)(h2:SlRd H iv inn)(h3:SlRd H cd cl):Rd H (.agg (outV tk iv cd ok).toArray) (⟨⟨l,inn,cl,cC⟩,ok⟩:FitR):=
 pJ (ce:=[Sb Sc 0,Sb Sc 0,Sb Sc 0,Sg Sf 0 0,Sb Sd 0]) h1 h2 h3 (hZ Sa R4 aF)
set_option maxHeartbeats 4000000 in
theorem tt{f:aq}{i:InsD}{vf vi:Value}{way:Nat}{t pl su:Int}{h:Heap}{W:View}(hW:W.le (vw h))(hvf:Rd W vf f)(hvi:Rd W vi i)(hsm:SmF f)(hall : ∀i∈dV f,qB i)(hr : ∀i∈dV f,-2147483648<=i.imm.v/\i.imm.v<=2147483647)(mo:Ef i pl su)(hw:way<4)(ht:I64 t):
  aA Sn 98 #[vf,vi,Sb Sc way,Sb Sc t] h (λu h'=>DB W h h' u (memS f i t i.op pl su way)):=by
 refine au (args:=[vf,vi,Sb Sc way,Sb Sc t]) follows Tryz.func98 E.gx S0 λK hK=>?_;dsimp only[L.gx,lkF,lkG];rw[HH mo way hw]at hK;obtain⟨ok⟩:=mo;have c0:=Cx.start hW;refine aa λz hz=>?_;simp;refine c0.cr rfl hvf λF1 h1 W1 hW1 c1 hat1 hle1=>?_;refine c1.cr rfl (hvi.mono hW1) λI1 h2 W2 hW2 c2 hat2 hle2=>?_;refine c2.bW (k:=(0,0)) (n:=8) (z:=.agg bo.toArray) rfl R1 rfl R4 R8 λR h3 hle3 c3=>?_;subst hz;refine aa λz hz=>?_;simp;refine an (z:=.agg bo.toArray) (places:=fitP) (vs:=[]) (cs:=bo.toArray) R1 R1 Sa R1 ?_;refine c3.bW (k:=(0,1)) (n:=8) (z:=.agg bo.toArray) RZ R1 rfl R4 R8 λOB h4 hle4 c4=>?_;refine c4.iS (k:=(0,1)) (n:=8) (l':=bo) RZ R1 Sa Sa rfl R7 λh5 c5=>?_;subst hz;have hat1:=hat1.mono hW2;obtain⟨i0,i1,-,va,i3,si⟩:=fO hat2;have i3:ao W2 ⟨I1,3,Sf⟩=Se va:=i3;have i4:=hat2.part InsD.gD;have r4:=i4.nK;have i4:ao W2 ⟨I1,4,Sf⟩=Se (Sb Sd i.imm.v):=by simpa using i4.i32
 have r1:=(hat2.part InsD.iq).rng;have l1:1<=i.args.length:=by omega
 have l2:i.op=16->2<=i.args.length:=by omega
 obtain⟨uf,huf,ruf⟩:=hat1.ldN rfl (N:=2) rfl;have huf:=huf W2 S2;have q0:=si.idx1 (k:=.i64) (i:=0) rfl R4 R3;have d0:=si.int (View.le_refl W2) (i:=0) R3;have a0:=si.rng (i:=0) R3;simp at q0 d0;have s1:i.op=16->Bn.ev (.idx 1) va (Sb Sc 1)=Se (Si (Se ((slA va).add 1)))/\ao W2 ((slA va).add 1)=Se (Sb Sc (nth i.args 1))/\I64 (nth i.args 1):=λh16=>by have:=l2 h16;have q1:=si.idx1 (k:=.i64) (i:=1) rfl R4 R3;have d1:=si.int (View.le_refl W2) (i:=1) R3;simp at q1 d1;exact⟨q1,by simpa using d1,si.rng (i:=1) R3⟩
 refine aa λzA hzA=>?_;simp[ae c5.wle i1];refine an (z:=.agg mz.toArray) (places:=nT) (vs:=[(0,Sb Sc 24),(1,Sb Sc i.dst)]) (cs:=(mchV 24 i.dst 0 0 0 0 0 (Sg Sf 0 0)).toArray) R1 R1 Sa R1 ?_;have rm0 : ∀X,Rd X (.agg mz.toArray) (⟨0,0,0,0,0,0,⟨0⟩,[]⟩:aH):=λX=>dY (imm:=⟨0⟩) Sa Sa aF;refine c5.db (k:=(0,2)) (z:=.agg mz.toArray) (d:=(⟨0,0,0,0,0,0,⟨0⟩,[]⟩:aH)) RZ R1 (rm0 _) R4 λM h6 hle6 c6=>?_;have rm1 : ∀X,Rd X (.agg (mchV 24 i.dst 0 0 0 0 0 (Sg Sf 0 0)).toArray) (⟨24,i.dst,0,0,0,0,⟨0⟩,[]⟩:aH):=λX=>dY (imm:=⟨0⟩) R9 Sa aF;refine c6.cA Part.all (k:=(0,2)) (D:=(⟨0,0,0,0,0,0,⟨0⟩,[]⟩:aH)) (d:=(⟨24,i.dst,0,0,0,0,⟨0⟩,[]⟩:aH)) RZ R1 Sa Sa (rm1 _) λh7 c7=>?_;rw[hzA];clear hzA zA;refine aa λzB hzB=>?_;have restB : ∀(h8:Heap) (ρ:Env),Cx W h W2 h8 (rmO R OB M bo (memD i) Sf Sf)->Slk ρ [(2,Sb Sc way),(3,Sb Sc t),(4,ptr F1),(5,ptr I1),(8,ptr R),(9,ptr OB),(10,ptr M)]->LC.wp Sn zB (cz [.un (.aT 9) (.tmp 8)] K) ρ h8:=by
  intro h8 ρ c8 hL;rw[hzB];clear hzB zB;refine aa λzC hzC=>?_;have g:=hL;simp only[bs,bV,and_true]at g;obtain⟨g2,g3,g4,g5,g8,g9,g10⟩:=g;have restC : ∀(W5:View) (h9:Heap) (ρ:Env) (S:Nat),W2.le W5->Cx W h W5 h9 (rmO R OB M bo (memD i) Sf Sf)->At W5 ⟨S,0,Sf⟩ (de f (nth i.args 0) 2).1->Slk ρ [(2,Sb Sc way),(3,Sb Sc t),(4,ptr F1),(5,ptr I1),(8,ptr R),(9,ptr OB),(10,ptr M),(11,ptr S),(12,.bool (de f (nth i.args 0) 2).2)]->
    LC.wp Sn zC (cz [.un (.aT 9) (.tmp 8)] K) ρ h9:=by
   clear c8 hL g2 g3 g4 g5 g8 g9 g10;intro W5 h9 ρ S hW5 c9 hatS hL;rw[hzC];clear hzC zC;refine aa λzD hzD=>?_;have restD : ∀(W6:View) (h10:Heap) (ρ:Env) (D:aH) (l inn:List Int) (cl:List aH) (tk iv cd:Value) (okb:Bool),W5.le W6->Cx W h W6 h10 (rmO R OB M (outV tk iv cd okb) D (it T.int tk l) (it T.cW cd cl))->l.length<=5->cl.length<=5->SlRd W6 iv inn->
     okb=(memR f i t way).isSome->(∀y,memR f i t way=Se y->(⟨l++memL i,inn,cl++[memE i way D],cC⟩:FitD)=y)->Slk ρ [(2,Sb Sc way),(5,ptr I1),(8,ptr R),(9,ptr OB),(10,ptr M)]->LC.wp Sn zD (cz [.un (.aT 9) (.tmp 8)] K) ρ h10:=by
    clear c9 hL;intro W6 h10 ρ D l inn cl tk iv cd okb hW6 c10 hl hcl hiv hok hy2 hL;rw[hzD];clear hzD zD;refine aa λzE hzE=>?_;have restE : ∀(W7:View) (h11:Heap) (ρ:Env) (D:aH) (l:List Int) (tk:Value),W6.le W7->Cx W h W7 h11 (rmO R OB M (outV tk iv cd okb) D (it T.int tk l) (it T.cW cd cl))->l.length<=10->
      (∀y,memR f i t way=Se y->(⟨l,inn,cl++[D],cC⟩:FitD)=y)->Slk ρ [(8,ptr R),(9,ptr OB),(10,ptr M)]->LC.wp Sn zE (cz [.un (.aT 9) (.tmp 8)] K) ρ h11:=by clear c10 hL hl hy2;intro W7 h11 ρ D l tk hW7 c11 hl hy2 hL;simp only[bs,bV,and_true]at hL;obtain⟨g8,g9,g10⟩:=hL;rw[hzE];clear hzE zE;refine aa λzF hzF=>?_;have hcd:=c11.own.raw (k:=(0,1)) (n:=8) (e:=T.aJ) (B:=OB) (l:=outV tk iv cd okb) RZ (i:=2) R4;simp only[List.getD_cons_succ,Ru]at hcd;obtain⟨um,hum,rum⟩:=c11.IU (k:=(0,2)) (e:=T.cW) (B:=M) (d:=D) RZ rfl (N:=8) rfl;simp[g8,g9,g10,af,ag,hcd,hum];refine c11.eF (α:=aH) (n:=1) (vs:=[um]) (ds:=[D]) El.dc Sa ⟨rum,trivial⟩ rfl R4 R4 λu12 h12 W12 hW12 c12 s12 hle12=>?_;refine bO (α:=aH) (v:=cd) (u:=u12) (l:=cl) (l2:=[D]) El.dc Sa Sa (c12.own.get (k:=(0,4)) RZ) (s12.src c12.wle) R9 R9 λv13 h13 o13 mv13=>?_;have c13:=c12.iu (k:=(0,4)) RZ o13 mv13;rw[zk]at c13;obtain⟨W14,hW14,c14,s14⟩:=c13.freeze (k:=(0,4)) (v:=v13) RZ;rw[zk]at c14;obtain⟨a9,n9,k9,rfl⟩:=eX s14;refine c14.cR (k:=(0,1)) (n:=8) (i:=2) (u:=.slice a9 n9 k9) (e:=T.aJ) (B:=OB) (l:=outV tk iv cd okb) RZ R4 R1 Sa Sa rfl λh15 c15=>?_;rw[rY]at c15;have c15:Cx W h W14 h15 (rmO R OB M (outV tk iv (.slice a9 n9 k9) okb) D (it T.int tk l) Sf):=c15;obtain⟨W16,hW16,c16,s16⟩:=c15.freeze (k:=(0,3)) (v:=tk) (l:=l) RZ;rw[sr]at c16;rw[hzF];clear hzF zF;have hall:=c16.all (k:=(0,1)) (n:=8) (B:=OB) (e:=T.aJ) (l:=outV tk iv (.slice a9 n9 k9) okb) RZ;simp at hall;simp[g8,g9,af,ag,hall];have hfit:Rd W16 (.agg (outV tk iv (.slice a9 n9 k9) okb).toArray) (⟨⟨l,inn,cl++[D],cC⟩,okb⟩:FitR):=qU s16 (hiv.mono (S3 hW7 (S3 hW12 (S3 hW14 hW16)))) (s14.mono hW16);refine c16.aK (k:=(0,0)) (n:=8) (l:=bo) RZ hfit rfl rfl R1 Sa Sa λh17 l17 hl17 c17=>?_;have hall2:=c17.all (k:=(0,0)) (n:=8) (l:=l17) (B:=R) (e:=T.aJ) Own.ah;simp at hall2;simp[g8,af,ag,hall2];refine hK _ _ ⟨c17.le0,_,(hl17▸hfit).mono c17.fin,hok,hy2⟩
    have le2:W2.le (vw h10):=S3 hW5 (S3 hW6 c10.wle);have g:=hL;simp only[bs,bV,and_true]at g;obtain⟨g2,g5,g8,g9,g10⟩:=g;by_cases h16:i.op=16
    ·obtain⟨q1,d1,b1⟩:=s1 h16;have d1:=ae le2 d1;have i3c:=ae le2 i3;refine dt [(2,Sb Sc way),(5,ptr I1),(8,ptr R),(9,ptr OB),(10,ptr M)] Sj hL RZ (by simp[g5,ae le2 i0,h16]) λρ' hL'=>?_;simp only[cond_true];clear g2 g5 g8 g9 g10 hL;have g:=hL';simp only[bs,bV,and_true]at g;obtain⟨g2,g5,g8,g9,g10⟩:=g;refine aa λzG hzG=>?_;have htk:=c10.own.raw (k:=(0,1)) (n:=8) (e:=T.aJ) (B:=OB) (l:=outV tk iv cd okb) RZ (i:=0) R4;simp only[Ru]at htk;refine aI (vw h10) S2 ?_;refine ay λy hy=>?_;simp[g5,g9,htk,i3c,q1,d1];refine c10.eF (α:=Int) (n:=1) (vs:=[Sb Sc (nth i.args 1)]) (ds:=[nth i.args 1]) El.aP Sa ⟨aX.2 ⟨rfl,b1⟩,trivial⟩ rfl R4 R4 λu12 h12 W12 hW12 c12 s12 hle12=>?_;refine⟨hle12,?_⟩;subst hy;refine ay λy hy=>?_;simp[af,ag];refine bO (α:=Int) (v:=tk) (u:=u12) (l:=l) (l2:=[nth i.args 1]) El.aP Sa Sa (c12.own.get (k:=(0,3)) RZ) (s12.src c12.wle) R9 R9 λv13 h13 o13 mv13=>?_;have c13:=c12.iu (k:=(0,3)) RZ o13 mv13;rw[sr]at c13;subst hy;have one13:v13.oneCell'=true:=(c13.own.cells (k:=(0,3)) (v:=v13) RZ).2;simp[af,ag,g9];refine c13.cR (k:=(0,1)) (n:=8) (i:=0) (u:=v13) (e:=T.aJ) (B:=OB) (l:=outV tk iv cd okb) RZ R4 R1 Sa Sa one13 λh15 c15=>?_;rw[rY]at c15;have c15:Cx W h W12 h15 (rmO R OB M (outV v13 iv cd okb) D (it T.int v13 (l++[nth i.args 1])) (it T.cW cd cl)):=c15;rw[hzG];clear hzG zG;have eL:memL i=[nth i.args 1]:=by unfold memL;rw[if_pos h16]
     rw[eL]at hy2;have le15:W2.le (vw h15):=S3 hW5 (S3 hW6 (S3 hW12 c15.wle));have hLa : ∀ρ2:Env,(∀k,k=2\/k=5\/k=8\/k=9\/k=10->Lft.look ρ2 k=Lft.look ρ' k)->Slk ρ2 [(2,Sb Sc way),(5,ptr I1),(8,ptr R),(9,ptr OB),(10,ptr M)]:=λρ2 hh=>by simp only[bs,bV,and_true];exact⟨(hh 2 Sa).trans g2,(hh 5 Sa).trans g5,(hh 8 Sa).trans g8,(hh 9 Sa).trans g9,(hh 10 Sa).trans g10⟩
     by_cases w2:2<=way
     ·have hE:memE i way D={ D with op:=27,d:=0,c:=nth i.args 1 }:=by unfold memE;rw[if_pos ⟨h16,w2⟩]
      rw[hE]at hy2;refine dt [(2,Sb Sc way),(5,ptr I1),(8,ptr R),(9,ptr OB),(10,ptr M)] Sj (hLa _ λk hk=>?_) RZ ?_ λρ3 hL3=>?_
      ·rcases hk with rfl | rfl | rfl | rfl | rfl<;>simp[af,ag]
      ·have:(2:Int)<=way:=by omega
       simp[af,ag,g2,this]
      simp only[cond_true];simp only[bs,bV,and_true]at hL3;obtain⟨m2,m5,m8,m9,m10⟩:=hL3;refine aa λzH hzH=>?_;simp[m10];refine c15.cA aH.sU (k:=(0,2)) (D:=D) (d:=(27:Int)) RZ R1 Sa Sa (aX.2 ⟨rfl,by decide,by decide⟩) λhq c16=>?_;rw[uF]at c16;rw[hzH];clear hzH zH;refine aa λzH hzH=>?_;simp[m10,af,ag];refine c16.cA aH.Nv (k:=(0,2)) (D:={ D with op:=27 }) (d:=(0:Int)) RZ R1 Sa Sa (aX.2 ⟨rfl,by decide,by decide⟩) λh17 c17=>?_;rw[uF]at c17;rw[hzH];clear hzH zH;have le17:W2.le (vw h17):=S3 hW5 (S3 hW6 (S3 hW12 c17.wle));simp[m10,m5,af,ag,ae le17 i3,q1,ae le17 (s1 h16).2.1];refine c17.cA aH.NA (k:=(0,2)) (D:={ D with op:=27,d:=0 }) (d:=nth i.args 1) RZ R1 Sa Sa (aX.2 ⟨rfl,(s1 h16).2.2⟩) λh18 c18=>?_;rw[uF]at c18;refine restE W12 h18 _ { D with op:=27,d:=0,c:=nth i.args 1 } (l++[nth i.args 1]) v13 hW12 c18 R9 hy2 ?_;simp[bs,bV,af,ag,m8,m9,m10]
     have eE:memE i way D=D:=by unfold memE;rw[if_neg λc=>w2 c.2]
     rw[eE]at hy2;refine dt [(2,Sb Sc way),(5,ptr I1),(8,ptr R),(9,ptr OB),(10,ptr M)] Sk (hLa _ λk hk=>?_) RZ ?_ λρ3 hL3=>?_
     ·rcases hk with rfl | rfl | rfl | rfl | rfl<;>simp[af,ag]
     ·have:¬(2:Int)<=way:=by omega
      simp[af,ag,g2,this]
     simp only[bs,bV,and_true]at hL3;obtain⟨m2,m5,m8,m9,m10⟩:=hL3;simp;refine restE W12 h15 _ D (l++[nth i.args 1]) v13 hW12 c15 R9 hy2 ?_;simp[bs,bV,af,ag,m8,m9,m10]
    have eE:memE i way D=D:=by unfold memE;rw[if_neg λc=>h16 c.1]
    have eL:memL i=[]:=by unfold memL;rw[if_neg h16]
    rw[eE,eL,PO]at hy2;refine dt [(8,ptr R),(9,ptr OB),(10,ptr M)] Sk (by simp only[bs,bV,and_true];exact⟨g8,g9,g10⟩) RZ (by simp[g5,ae le2 i0,h16]) λρ' hL'=>?_;simp;exact restE W6 h10 ρ' D l tk S2 c10 R3 hy2 hL'
   have le2:W2.le (vw h9):=S3 hW5 c9.wle;refine Iu [(2,Sb Sc way),(3,Sb Sc t),(4,ptr F1),(5,ptr I1),(8,ptr R),(9,ptr OB),(10,ptr M),(11,ptr S),(12,.bool (de f (nth i.args 0) 2).2)] (Sb Sc way) hL RZ (by have:=hL (2,Sb Sc way) Sa;simp at this;simp[this]) λρ1 hL1=>?_;clear hL;refine sK ?_;obtain⟨hs2,hs1⟩:=pP (f:=f) (v:=nth i.args 0) (op:=2);have c9n:Cx W h W5 h9 (rmO R OB M bo (memD i) Sf (it T.cW (Sg Sf 0 0) ([]:List aH))):=by have:=c9.add (k:=(0,4)) (e:=T.cW) (v:=Sg Sf 0 0) (l:=([]:List aH)) RZ (OwnT.nil _ _ _) S2 (λb hb=>by cases hb);rwa [zk]at this
   match way,hw with
   | 0,_=>
    have g36:=hL1 (36,Sb Sc 0) Sa;refine dt _ Sj hL1 RZ (by simp at g36;simp[g36]) λρ2 hL2=>?_;simp only[cond_true];clear hL1;have g:=hL2;simp only[bs,bV,and_true]at g;obtain⟨g36,g2,g3,g4,g5,g8,g9,g10,g11,g12⟩:=g;have i3c:=ae le2 i3;have d0c:=ae le2 d0;refine aa λy hy=>?_;simp[g5,g10,i3c,q0,d0c];refine c9n.cA aH.KA (k:=(0,2)) (D:=memD i) (d:=nth i.args 0) RZ R1 Sa Sa (aX.2 ⟨rfl,a0⟩) λh10 c10=>?_;rw[uF]at c10;subst hy;refine aa λy hy=>?_;have i4c:=ae (S3 hW5 c10.wle) i4;simp[g5,g10,af,ag,i4c];refine c10.cA aH.gD (k:=(0,2)) (D:={ memD i with a:=nth i.args 0 }) (d:=i.imm) RZ R1 Sa Sa (uZ.2 ⟨rfl,r4⟩) λh11 c11=>?_;rw[uF]at c11;subst hy;have le11:=S3 hW5 c11.wle;refine aI (vw h11) S2 ?_;refine ay λy hy=>?_;simp[g5,af,ag,ae le11 i3,ae le11 i4,q0,ae le11 d0];refine c11.jO (k:=(0,3)) (n:=1) (l:=[nth i.args 0]) RZ El.aP Sa (by simp;exact a0) rfl R4 λu12 h12 hle12 c12=>?_;rw[sr]at c12;obtain⟨a9,n9,k9,rfl⟩:=eX (c12.own.now (k:=(0,3)) (v:=u12) RZ);refine⟨hle12,?_⟩;subst hy;refine ay λy hy=>?_;simp[af,ag];refine an (z:=.agg bo.toArray) (places:=fitP) (vs:=[(0,.slice a9 n9 k9),(4,.bool (decide (0<=i.imm.v)&&decide (i.imm.v<=255)))]) (cs:=(outV (.slice a9 n9 k9) (Sg Sf 0 0) (Sg Sf 0 0) (decide (0<=i.imm.v)&&decide (i.imm.v<=255))).toArray) R1 R1 Sa R1 ?_;subst hy;refine ay λy hy=>?_;simp[af,ag,g9];refine c12.iS (k:=(0,1)) (n:=8) (l:=bo) (l':=outV (.slice a9 n9 k9) (Sg Sf 0 0) (Sg Sf 0 0) (decide (0<=i.imm.v)&&decide (i.imm.v<=255))) RZ R1 Sa Sa rfl R7 λh13 c13=>?_;rw[rY]at c13;subst hy;simp;refine restD W5 h13 _ { memD i with a:=nth i.args 0,imm:=i.imm } [nth i.args 0] [] [] _ _ _ (decide (0<=i.imm.v)&&decide (i.imm.v<=255)) S2 c13 Sa Sa aF ?_ ?_ ?_
    ·show inR i.imm.v 0 255=_;unfold memR;cases inR i.imm.v 0 255<;>rfl
    ·intro y hy;simp only[memR]at hy;split at hy<;>cases hy;rfl
    simp[bs,bV,af,ag,g2,g5,g8,g9,g10]
   | 1,_=>
    have g36:=hL1 (36,Sb Sc 1) Sa;refine dt _ Sk hL1 RZ (by simp at g36;simp[g36]) λρ2 hL2=>?_;simp only[cond_false];clear hL1;have g36:=hL2 (36,Sb Sc 1) Sa;refine dt _ Sj hL2 RZ (by simp at g36;simp[g36]) λρ3 hL3=>?_;simp only[cond_true];clear hL2;have g:=hL3;simp only[bs,bV,and_true]at g;obtain⟨g36,g2,g3,g4,g5,g8,g9,g10,g11,g12⟩:=g;refine aa λy hy=>?_;cases hb:(de f (nth i.args 0) 2).2 with
    | false=>
     rw[hb]at g12 hL3;have hmR:memR f i t 1=none:=by simp only[memR];rw[<-hs2,hb];rfl
     refine dt _ Sj hL3 RZ (by simp[g12]) λρ5 hL5=>?_;simp only[cond_true];simp only[bs,bV,and_true]at hL5;obtain⟨g36,g2,g3,g4,g5,g8,g9,g10,g11,g12⟩:=hL5;have hall0:=c9.all (k:=(0,1)) (n:=8) (B:=OB) (e:=T.aJ) (l:=bo) RZ;simp at hall0;simp[g8,g9,af,ag,hall0];refine c9.aK (k:=(0,0)) (n:=8) (l:=bo) RZ (ir (H:=W5)) rfl rfl R1 Sa Sa λh13 l13 hl13 c13=>?_;have hall2:=c13.all (k:=(0,0)) (n:=8) (l:=l13) (B:=R) (e:=T.aJ) Own.ah;simp at hall2;simp[g8,af,ag,hall2];refine hK _ _ ⟨c13.le0,⟨nJ,Sk⟩,(hl13▸(ir (H:=W5))).mono c13.fin,?_,?_⟩
     ·rw[hmR];rfl
     intro y hy;rw[hmR]at hy;cases hy
    | true=>
     rw[hb]at g12 hL3;have hf2:(aG f (nth i.args 0) 2).2=true:=by rw[<-hs2,hb]
     rw[hs1 hf2]at hatS;refine dt _ Sk hL3 RZ (by simp[g12]) λρ5 hL5=>?_;simp only[cond_false];simp only[bs,bV,and_true]at hL5;clear g36 g2 g3 g4 g5 g8 g9 g10 g11 g12 hL3;obtain⟨g36,g2,g3,g4,g5,g8,g9,g10,g11,g12⟩:=hL5;simp;subst hy;have hmR:memR f i t 1=if(dH f (nth (aG f (nth i.args 0) 2).1.args 1) (-2147483648) 2147483647).2&&inR ((dH f (nth (aG f (nth i.args 0) 2).1.args 1) (-2147483648) 2147483647).1+i.imm.v) 0 255 then
    Se ⟨[nth (aG f (nth i.args 0) 2).1.args 0]++memL i,[nth i.args 0,nth (aG f (nth i.args 0) 2).1.args 1],
     [memE i 1 { memD i with a:=nth (aG f (nth i.args 0) 2).1.args 0,imm:=w32 ((dH f (nth (aG f (nth i.args 0) 2).1.args 1) (-2147483648) 2147483647).1+i.imm.v) }],cC⟩
   else none:=by simp only[memR];rw[if_pos hf2]
     obtain⟨-,-,-,vs,j3,ss⟩:=fO hatS
     have j3:ao W5 ⟨S,3,Sf⟩=Se vs:=j3
     obtain⟨m1,m2,-⟩:=gK hf2
     have la:=(hall _ m1).two R3
     have jx0:=ss.idx1 (k:=.i64) (i:=0) rfl R4 R3
     have jd0:=ss.int (View.le_refl W5) (i:=0) R3
     have jx1:=ss.idx1 (k:=.i64) (i:=1) rfl R4 R3
     have jd1:=ss.int (View.le_refl W5) (i:=1) R3
     have b0:=ss.rng (i:=0) R3
     have b1:=ss.rng (i:=1) R3
     simp at jx0 jd0 jx1 jd1
     generalize (aG f (nth i.args 0) 2).1=s at *
     obtain⟨cs2,cs1⟩:=xr (f:=f) (v:=nth s.args 1) (lo:=-2147483648) (hi:=2147483647)
     have crng:=xB (f:=f) (v:=nth s.args 1) (lo:=-2147483648) (hi:=2147483647) hr
     refine aa λy hy=>?_
     refine aI W5 c9n.wle ?_
     have huf5:=(hat1.ldN rfl (N:=2) rfl)
     simp[g4,g11,j3,jx1,jd1,Un.dq hW5 huf]
     refine aj R1 (wv c9n.wle (ruf.mono hW5) hsm) ?_
     rintro _ h10 ⟨hle10,rfl⟩
     simp[af,ag]
     have c10:=c9n.ext hle10
     have hW10:=c9n.up (h':=h10)
     subst hy
     obtain⟨kc,hkc⟩ : ∃kc,kc=mc f (nth s.args 1) (-2147483648) 2147483647:=⟨_,rfl⟩
     rw[<-hkc]at cs1 cs2 crng ⊢
     have le10:=S3 hW5 (S3 hW10 c10.wle)
     have le10s:=S3 hW10 c10.wle
     refine aa λy hy=>?_
     simp[g10,g11,af,ag,ae le10s j3,jx0,ae le10s jd0]
     refine c10.cA aH.KA (k:=(0,2)) (D:=memD i) (d:=nth s.args 0) RZ R1 Sa Sa (aX.2 ⟨rfl,b0⟩) λh11 c11=>?_
     rw[uF]at c11
     subst hy
     have ew:IntKind.i64.wrap i.imm.v=i.imm.v:=bj R3 R3
     have ew2:IntKind.i64.wrap (kc.1+i.imm.v)=kc.1+i.imm.v:=bj R3 R3
     refine aa λy hy=>?_
     have le11:=S3 hW5 (S3 hW10 c11.wle)
     simp[g5,g10,af,ag,ae le11 i4,ew,ew2]
     refine c11.cA aH.gD (k:=(0,2)) (D:={ memD i with a:=nth s.args 0 }) (d:=w32 (kc.1+i.imm.v)) RZ R1 Sa (by simp[w32]) (uZ.2 ⟨rfl,xm _⟩) λh12 c12=>?_
     rw[uF]at c12
     subst hy
     have le12:=S3 hW5 (S3 hW10 c12.wle)
     have le12s:=S3 hW10 c12.wle
     have e1:kc.2=Sj->kc.1=(dH f (nth s.args 1) (-2147483648) 2147483647).1:=λe=>cs1 (by rw[<-cs2];exact e)
     have last : ∀(W14:View) (h14:Heap) (ρ:Env) (u14 iv:Value),W5.le W14->Cx W h W14 h14 (rmO R OB M (outV u14 iv (Sg Sf 0 0) (kc.2&&decide (0<=kc.1+i.imm.v)&&decide (kc.1+i.imm.v<=255))) { memD i with a:=nth s.args 0,imm:=w32 (kc.1+i.imm.v) } (it T.int u14 [nth s.args 0]) (it T.cW (Sg Sf 0 0) ([]:List aH)))->SlRd W14 iv [nth i.args 0,nth s.args 1]->
       Slk ρ [(2,Sb Sc 1),(5,ptr I1),(8,ptr R),(9,ptr OB),(10,ptr M)]->LC.wp Sn zD (cz [.un (.aT 9) (.tmp 8)] K) ρ h14:=λW14 h14 ρ u14 iv hW14 c14 hiv hL=>by
      refine restD W14 h14 ρ { memD i with a:=nth s.args 0,imm:=w32 (kc.1+i.imm.v) } [nth s.args 0] [nth i.args 0,nth s.args 1] [] _ _ _ _ hW14 c14 Sa Sa hiv ?_ ?_ hL
      ·rw[hmR,<-cs2];cases hk:kc.2 with
       | false=>rfl
       | true=>rw[PL,PL,<-e1 hk];show inR _ 0 255=_;cases inR (kc.1+i.imm.v) 0 255<;>rfl
      intro y hy;rw[hmR]at hy;split at hy
      ·rename_i c;rw[OA,<-cs2]at c;rw[<-e1 c.1]at hy;cases hy;rfl
      cases hy
     clear hmR
     refine aI (vw h12) S2 ?_
     have jj3:=ae le12s j3
     have jj0:=ae le12s jd0
     have jj1:=ae le12s jd1
     have ii3:=ae le12 i3
     have ii4:=ae le12 i4
     have dd0:=ae le12 d0
     refine dT ?_ ?_
     ·refine ay λy hy=>?_
      simp[g5,g11,af,ag,jj3,jj0,jj1,jx0,jx1,ii3,ii4,q0,dd0,ew,ew2]
      refine c12.jO (k:=(0,3)) (n:=1) (l:=[nth s.args 0]) RZ El.aP Sa (by simp;exact b0) rfl R4 λu13 h13 hle13 c13=>?_
      rw[sr]at c13
      obtain⟨a9,n9,k9,rfl⟩:=eX (c13.own.now (k:=(0,3)) (v:=u13) RZ)
      refine⟨hle13,?_⟩
      subst hy
      refine ay λy hy=>?_
      simp[af,ag]
      refine c13.eF (α:=Int) (n:=2) (vs:=[Sb Sc (nth i.args 0),Sb Sc (nth s.args 1)]) (ds:=[nth i.args 0,nth s.args 1]) El.aP Sa ⟨aX.2 ⟨rfl,a0⟩,aX.2 ⟨rfl,b1⟩,trivial⟩ rfl R4 R4 λu14 h14 W14 hW14 c14 s14 hle14=>?_
      obtain⟨a8,n8,k8,rfl⟩:=eX s14
      refine⟨S3 hle13 hle14,?_⟩
      subst hy
      refine ay λy hy=>?_
      simp[af,ag]
      refine an (z:=.agg bo.toArray) (places:=fitP) (vs:=[(0,.slice a9 n9 k9),(1,.slice a8 n8 k8),(4,.bool (kc.2&&decide (0<=kc.1+i.imm.v)&&decide (kc.1+i.imm.v<=255)))]) (cs:=(outV (.slice a9 n9 k9) (.slice a8 n8 k8) (Sg Sf 0 0) (kc.2&&decide (0<=kc.1+i.imm.v)&&decide (kc.1+i.imm.v<=255))).toArray) R1 R1 Sa R1 ?_
      subst hy
      refine ay λy hy=>?_
      simp[af,ag,g9]
      refine c14.iS (k:=(0,1)) (n:=8) (l:=bo) (l':=outV (.slice a9 n9 k9) (.slice a8 n8 k8) (Sg Sf 0 0) (kc.2&&decide (0<=kc.1+i.imm.v)&&decide (kc.1+i.imm.v<=255))) RZ R1 Sa Sa rfl R7 λh15 c15=>?_
      rw[rY]at c15
      subst hy
      simp
      refine last W14 h15 _ _ _ (S3 hW10 hW14) c15 s14 ?_
      simp[bs,bV,af,ag,g2,g5,g8,g9,g10]
     ·refine ay λy hy=>?_
      simp[g5,g11,af,ag,jj3,jj0,jj1,jx0,jx1,ii3,ii4,q0,dd0,ew,ew2]
      refine c12.eF (α:=Int) (n:=2) (vs:=[Sb Sc (nth i.args 0),Sb Sc (nth s.args 1)]) (ds:=[nth i.args 0,nth s.args 1]) El.aP Sa ⟨aX.2 ⟨rfl,a0⟩,aX.2 ⟨rfl,b1⟩,trivial⟩ rfl R4 R4 λu13 h13 W13 hW13 c13 s13 hle13=>?_
      obtain⟨a8,n8,k8,rfl⟩:=eX s13
      refine⟨hle13,?_⟩
      subst hy
      refine ay λy hy=>?_
      simp[af,ag]
      refine c13.jO (k:=(0,3)) (n:=1) (l:=[nth s.args 0]) RZ El.aP Sa (by simp;exact b0) rfl R4 λu14 h14 hle14 c14=>?_
      rw[sr]at c14
      obtain⟨a9,n9,k9,rfl⟩:=eX (c14.own.now (k:=(0,3)) (v:=u14) RZ)
      refine⟨S3 hle13 hle14,?_⟩
      subst hy
      refine ay λy hy=>?_
      simp[af,ag]
      refine an (z:=.agg bo.toArray) (places:=fitP) (vs:=[(0,.slice a9 n9 k9),(1,.slice a8 n8 k8),(4,.bool (kc.2&&decide (0<=kc.1+i.imm.v)&&decide (kc.1+i.imm.v<=255)))]) (cs:=(outV (.slice a9 n9 k9) (.slice a8 n8 k8) (Sg Sf 0 0) (kc.2&&decide (0<=kc.1+i.imm.v)&&decide (kc.1+i.imm.v<=255))).toArray) R1 R1 Sa R1 ?_
      subst hy
      refine ay λy hy=>?_
      simp[af,ag,g9]
      refine c14.iS (k:=(0,1)) (n:=8) (l:=bo) (l':=outV (.slice a9 n9 k9) (.slice a8 n8 k8) (Sg Sf 0 0) (kc.2&&decide (0<=kc.1+i.imm.v)&&decide (kc.1+i.imm.v<=255))) RZ R1 Sa Sa rfl R7 λh15 c15=>?_
      rw[rY]at c15
      subst hy
      simp
      refine last W13 h15 _ _ _ (S3 hW10 hW13) c15 s13 ?_
      simp[bs,bV,af,ag,g2,g5,g8,g9,g10]
   | 2,_=>
    have g36:=hL1 (36,Sb Sc 2) Sa;refine dt _ Sk hL1 RZ (by simp at g36;simp[g36]) λρ2 hL2=>?_;simp only[cond_false];clear hL1;have g36:=hL2 (36,Sb Sc 2) Sa;refine dt _ Sk hL2 RZ (by simp at g36;simp[g36]) λρ3 hL3=>?_;simp only[cond_false];clear hL2;have g36:=hL3 (36,Sb Sc 2) Sa;refine dt _ Sj hL3 RZ (by simp at g36;simp[g36]) λρ4 hL4=>?_;simp only[cond_true];clear hL3;have g:=hL4;simp only[bs,bV,and_true]at g;obtain⟨g36,g2,g3,g4,g5,g8,g9,g10,g11,g12⟩:=g;refine aa λy hy=>?_;have i4c:=ae le2 i4;by_cases hbb:(de f (nth i.args 0) 2).2=Sj/\i.imm.v=0
    ·obtain⟨hb,hz0⟩:=hbb;rw[hb]at g12 hL4;have hf2:(aG f (nth i.args 0) 2).2=true:=by rw[<-hs2,hb]
     rw[hs1 hf2]at hatS;refine dt _ Sk hL4 RZ (by simp[g5,g12,i4c,hz0]) λρ5 hL5=>?_;simp only[cond_false];simp only[bs,bV,and_true]at hL5;clear g36 g2 g3 g4 g5 g8 g9 g10 g11 g12 hL4;obtain⟨g36,g2,g3,g4,g5,g8,g9,g10,g11,g12⟩:=hL5;simp;subst hy;have hmR:memR f i t 2=Se ⟨[nth (aG f (nth i.args 0) 2).1.args 0,nth (aG f (nth i.args 0) 2).1.args 1]++memL i,[nth i.args 0],
    [memE i 2 ⟨25,i.dst,0,nth (aG f (nth i.args 0) 2).1.args 0,nth (aG f (nth i.args 0) 2).1.args 1,0,⟨0⟩,[]⟩],cC⟩:=by simp only[memR];rw[if_pos (by rw[hf2,hz0];rfl)]
     obtain⟨-,-,-,vs,j3,ss⟩:=fO hatS
     have j3:ao W5 ⟨S,3,Sf⟩=Se vs:=j3
     obtain⟨m1,m2,-⟩:=gK hf2
     have la:=(hall _ m1).two R3
     have jx0:=ss.idx1 (k:=.i64) (i:=0) rfl R4 R3
     have jd0:=ss.int (View.le_refl W5) (i:=0) R3
     have jx1:=ss.idx1 (k:=.i64) (i:=1) rfl R4 R3
     have jd1:=ss.int (View.le_refl W5) (i:=1) R3
     have b0:=ss.rng (i:=0) R3
     have b1:=ss.rng (i:=1) R3
     simp at jx0 jd0 jx1 jd1
     generalize (aG f (nth i.args 0) 2).1=s at *
     refine aa λy hy=>?_
     refine aI W5 c9n.wle ?_
     simp[g5,g11,j3,jx0,jd0,jx1,jd1,ae hW5 i1]
     refine an (z:=.agg mz.toArray) (places:=nT) (vs:=[(0,Sb Sc 25),(1,Sb Sc i.dst),(3,Sb Sc (nth s.args 0)),(4,Sb Sc (nth s.args 1))]) (cs:=(mchV 25 i.dst 0 (nth s.args 0) (nth s.args 1) 0 0 (Sg Sf 0 0)).toArray) R1 R1 Sa R1 ?_
     have rm3 : ∀X,Rd X (.agg (mchV 25 i.dst 0 (nth s.args 0) (nth s.args 1) 0 0 (Sg Sf 0 0)).toArray) (⟨25,i.dst,0,nth s.args 0,nth s.args 1,0,⟨0⟩,[]⟩:aH):=λX=>dY (imm:=⟨0⟩) R9 Sa aF
     simp[g10,af,ag]
     refine c9n.cA Part.all (k:=(0,2)) (D:=memD i) (d:=(⟨25,i.dst,0,nth s.args 0,nth s.args 1,0,⟨0⟩,[]⟩:aH)) RZ R1 Sa Sa (rm3 _) λh12 c12=>?_
     rw[uF]at c12
     subst hy
     have le12:=S3 hW5 c12.wle
     have last : ∀(W14:View) (h14:Heap) (ρ:Env) (u14 iv:Value),W5.le W14->Cx W h W14 h14 (rmO R OB M (outV u14 iv (Sg Sf 0 0) Sj) (⟨25,i.dst,0,nth s.args 0,nth s.args 1,0,⟨0⟩,[]⟩:aH) (it T.int u14 [nth s.args 0,nth s.args 1]) (it T.cW (Sg Sf 0 0) ([]:List aH)))->SlRd W14 iv [nth i.args 0]->
       Slk ρ [(2,Sb Sc 2),(5,ptr I1),(8,ptr R),(9,ptr OB),(10,ptr M)]->LC.wp Sn zD (cz [.un (.aT 9) (.tmp 8)] K) ρ h14:=λW14 h14 ρ u14 iv hW14 c14 hiv hL=>by
      refine restD W14 h14 ρ (⟨25,i.dst,0,nth s.args 0,nth s.args 1,0,⟨0⟩,[]⟩:aH) [nth s.args 0,nth s.args 1] [nth i.args 0] [] _ _ _ _ hW14 c14 Sa Sa hiv ?_ ?_ hL
      ·rw[hmR];rfl
      intro y hy;rw[hmR]at hy;cases hy;rfl
     clear hmR
     refine aI (vw h12) S2 ?_
     have jj3:=ae c12.wle j3
     have jj0:=ae c12.wle jd0
     have jj1:=ae c12.wle jd1
     have ii3:=ae le12 i3
     have dd0:=ae le12 d0
     refine dT ?_ ?_
     ·refine ay λy hy=>?_
      simp[g5,g11,af,ag,jj3,jj0,jj1,jx0,jx1,ii3,q0,dd0]
      refine c12.jO (k:=(0,3)) (n:=2) (l:=[nth s.args 0,nth s.args 1]) RZ El.aP Sa R9 rfl R4 λu13 h13 hle13 c13=>?_
      rw[sr]at c13
      obtain⟨a9,n9,k9,rfl⟩:=eX (c13.own.now (k:=(0,3)) (v:=u13) RZ)
      refine⟨hle13,?_⟩
      subst hy
      refine ay λy hy=>?_
      simp[af,ag]
      refine c13.eF (α:=Int) (n:=1) (vs:=[Sb Sc (nth i.args 0)]) (ds:=[nth i.args 0]) El.aP Sa ⟨aX.2 ⟨rfl,a0⟩,trivial⟩ rfl R4 R4 λu14 h14 W14 hW14 c14 s14 hle14=>?_
      obtain⟨a8,n8,k8,rfl⟩:=eX s14
      refine⟨S3 hle13 hle14,?_⟩
      subst hy
      refine ay λy hy=>?_
      simp[af,ag]
      refine an (z:=.agg bo.toArray) (places:=fitP) (vs:=[(0,.slice a9 n9 k9),(1,.slice a8 n8 k8),(4,.bool Sj)]) (cs:=(outV (.slice a9 n9 k9) (.slice a8 n8 k8) (Sg Sf 0 0) Sj).toArray) R1 R1 Sa R1 ?_
      subst hy
      refine ay λy hy=>?_
      simp[af,ag,g9]
      refine c14.iS (k:=(0,1)) (n:=8) (l:=bo) (l':=outV (.slice a9 n9 k9) (.slice a8 n8 k8) (Sg Sf 0 0) Sj) RZ R1 Sa Sa rfl R7 λh15 c15=>?_
      rw[rY]at c15
      subst hy
      simp
      refine last W14 h15 _ _ _ hW14 c15 s14 ?_
      simp[bs,bV,af,ag,g2,g5,g8,g9,g10]
     ·refine ay λy hy=>?_
      simp[g5,g11,af,ag,jj3,jj0,jj1,jx0,jx1,ii3,q0,dd0]
      refine c12.eF (α:=Int) (n:=1) (vs:=[Sb Sc (nth i.args 0)]) (ds:=[nth i.args 0]) El.aP Sa ⟨aX.2 ⟨rfl,a0⟩,trivial⟩ rfl R4 R4 λu13 h13 W13 hW13 c13 s13 hle13=>?_
      obtain⟨a8,n8,k8,rfl⟩:=eX s13
      refine⟨hle13,?_⟩
      subst hy
      refine ay λy hy=>?_
      simp[af,ag]
      refine c13.jO (k:=(0,3)) (n:=2) (l:=[nth s.args 0,nth s.args 1]) RZ El.aP Sa R9 rfl R4 λu14 h14 hle14 c14=>?_
      rw[sr]at c14
      obtain⟨a9,n9,k9,rfl⟩:=eX (c14.own.now (k:=(0,3)) (v:=u14) RZ)
      refine⟨S3 hle13 hle14,?_⟩
      subst hy
      refine ay λy hy=>?_
      simp[af,ag]
      refine an (z:=.agg bo.toArray) (places:=fitP) (vs:=[(0,.slice a9 n9 k9),(1,.slice a8 n8 k8),(4,.bool Sj)]) (cs:=(outV (.slice a9 n9 k9) (.slice a8 n8 k8) (Sg Sf 0 0) Sj).toArray) R1 R1 Sa R1 ?_
      subst hy
      refine ay λy hy=>?_
      simp[af,ag,g9]
      refine c14.iS (k:=(0,1)) (n:=8) (l:=bo) (l':=outV (.slice a9 n9 k9) (.slice a8 n8 k8) (Sg Sf 0 0) Sj) RZ R1 Sa Sa rfl R7 λh15 c15=>?_
      rw[rY]at c15
      subst hy
      simp
      refine last W13 h15 _ _ _ hW13 c15 s13 ?_
      simp[bs,bV,af,ag,g2,g5,g8,g9,g10]
    have hmR:memR f i t 2=none:=by simp only[memR];rw[<-hs2,if_neg (by simpa using hbb)]
    have hv:(!(de f (nth i.args 0) 2).2||!decide (i.imm.v=0))=true:=by
     cases hb:(de f (nth i.args 0) 2).2 with
     | false=>rfl
     | true=>have:¬i.imm.v=0:=λe=>hbb ⟨hb,e⟩;simp[this]
    refine dt _ Sj hL4 RZ (by simpa[g5,g12,i4c]using hv) λρ5 hL5=>?_;simp only[cond_true];simp only[bs,bV,and_true]at hL5;obtain⟨g36,g2,g3,g4,g5,g8,g9,g10,g11,g12⟩:=hL5;have hall0:=c9.all (k:=(0,1)) (n:=8) (B:=OB) (e:=T.aJ) (l:=bo) RZ;simp at hall0;simp[g8,g9,af,ag,hall0];refine c9.aK (k:=(0,0)) (n:=8) (l:=bo) RZ (ir (H:=W5)) rfl rfl R1 Sa Sa λh13 l13 hl13 c13=>?_;have hall2:=c13.all (k:=(0,0)) (n:=8) (l:=l13) (B:=R) (e:=T.aJ) Own.ah;simp at hall2;simp[g8,af,ag,hall2];refine hK _ _ ⟨c13.le0,⟨nJ,Sk⟩,(hl13▸(ir (H:=W5))).mono c13.fin,?_,?_⟩
    ·rw[hmR];rfl
    intro y hy;rw[hmR]at hy;cases hy
   | 3,_=>
    have g36:=hL1 (36,Sb Sc 3) Sa;refine dt _ Sk hL1 RZ (by simp at g36;simp[g36]) λρ2 hL2=>?_;simp only[cond_false];clear hL1;have g36:=hL2 (36,Sb Sc 3) Sa;refine dt _ Sk hL2 RZ (by simp at g36;simp[g36]) λρ3 hL3=>?_;simp only[cond_false];clear hL2;have g36:=hL3 (36,Sb Sc 3) Sa;refine dt _ Sk hL3 RZ (by simp at g36;simp[g36]) λρ4 hL4=>?_;simp only[cond_false];clear hL3;have g36:=hL4 (36,Sb Sc 3) Sa;refine dt _ Sj hL4 RZ (by simp at g36;simp[g36]) λρ5 hL5=>?_;simp only[cond_true];clear hL4;have g:=hL5;simp only[bs,bV,and_true]at g;obtain⟨g36,g2,g3,g4,g5,g8,g9,g10,g11,g12⟩:=g;refine aa λy hy=>?_;refine aI W5 c9.wle ?_;simp[g3,g5,ae hW5 i3,q0,ae hW5 d0,ae hW5 i1];obtain⟨t1,t2⟩:=ht;refine an (z:=.agg mz.toArray) (places:=nT) (vs:=[(0,Sb Sc 25),(1,Sb Sc i.dst),(3,Sb Sc (nth i.args 0)),(4,Sb Sc t)]) (cs:=(mchV 25 i.dst 0 (nth i.args 0) t 0 0 (Sg Sf 0 0)).toArray) R1 R1 Sa R1 ?_;have rm3 : ∀X,Rd X (.agg (mchV 25 i.dst 0 (nth i.args 0) t 0 0 (Sg Sf 0 0)).toArray) (⟨25,i.dst,0,nth i.args 0,t,0,⟨0⟩,[]⟩:aH):=λX=>dY (imm:=⟨0⟩) R9 Sa aF;have rm4 : ∀X,Rd X (.agg (mchV 4 t 0 0 0 0 i.imm.v (Sg Sf 0 0)).toArray) (⟨4,t,0,0,0,0,i.imm,[]⟩:aH):=λX=>dY R9 r4 aF;simp[g10,af,ag];refine c9.cA Part.all (k:=(0,2)) (D:=memD i) (d:=(⟨25,i.dst,0,nth i.args 0,t,0,⟨0⟩,[]⟩:aH)) RZ R1 Sa Sa (rm3 _) λh12 c12=>?_;rw[uF]at c12;subst hy;have le12:=S3 hW5 c12.wle;have last : ∀(h14:Heap) (ρ:Env) (u14 cd:Value),Cx W h W5 h14 (rmO R OB M (outV u14 (Sg Sf 0 0) cd Sj) (⟨25,i.dst,0,nth i.args 0,t,0,⟨0⟩,[]⟩:aH) (it T.int u14 [nth i.args 0]) (it T.cW cd [(⟨4,t,0,0,0,0,i.imm,[]⟩:aH)]))->
      Slk ρ [(2,Sb Sc 3),(5,ptr I1),(8,ptr R),(9,ptr OB),(10,ptr M)]->LC.wp Sn zD (cz [.un (.aT 9) (.tmp 8)] K) ρ h14:=λh14 ρ u14 cd c14 hL=>by
     refine restD W5 h14 ρ (⟨25,i.dst,0,nth i.args 0,t,0,⟨0⟩,[]⟩:aH) [nth i.args 0] [] [(⟨4,t,0,0,0,0,i.imm,[]⟩:aH)] _ _ _ _ S2 c14 Sa Sa aF ?_ ?_ hL
     ·simp only[memR];rfl
     intro y hy;simp only[memR]at hy;cases hy;rfl
    refine aI (vw h12) S2 ?_;have ii3:=ae le12 i3;have ii4:=ae le12 i4;have dd0:=ae le12 d0;refine dT ?_ ?_
    ·refine ay λy hy=>?_;simp[g3,g5,af,ag,ii3,ii4,q0,dd0];refine c12.jO (k:=(0,3)) (n:=1) (l:=[nth i.args 0]) RZ El.aP Sa (by simp;exact a0) rfl R4 λu13 h13 hle13 c13=>?_;rw[sr]at c13;obtain⟨a9,n9,k9,rfl⟩:=eX (c13.own.now (k:=(0,3)) (v:=u13) RZ);refine⟨hle13,?_⟩;subst hy;refine ay λy hy=>?_;simp[af,ag];refine an (z:=.agg mz.toArray) (places:=nT) (vs:=[(0,Sb Sc 4),(1,Sb Sc t),(6,Sb Sd i.imm.v)]) (cs:=(mchV 4 t 0 0 0 0 i.imm.v (Sg Sf 0 0)).toArray) R1 R1 Sa R1 ?_;refine⟨hle13,?_⟩;subst hy;refine ay λy hy=>?_;simp[af,ag];refine xc (α:=aH) (W:=W5) El.dc Sa (rm4 _) R4 λh14 hle14 own14=>?_;have c14:=c13.add (k:=(0,4)) RZ own14 hle14 (λb hb=>by simp only[Value.ownBlock,N7]at hb;omega);rw[zk]at c14;generalize (h13.size:Nat)=B8 at c14;refine⟨S3 hle13 hle14,?_⟩;subst hy;refine ay λy hy=>?_;simp[af,ag];refine an (z:=.agg bo.toArray) (places:=fitP) (vs:=[(0,.slice a9 n9 k9),(2,Sg (Se ⟨B8,0,Sf⟩) 1 1),(4,.bool Sj)]) (cs:=(outV (.slice a9 n9 k9) (Sg Sf 0 0) (Sg (Se ⟨B8,0,Sf⟩) 1 1) Sj).toArray) R1 R1 Sa R1 ?_;subst hy;refine ay λy hy=>?_;simp[af,ag,g9];refine c14.iS (k:=(0,1)) (n:=8) (l:=bo) (l':=outV (.slice a9 n9 k9) (Sg Sf 0 0) (Sg (Se ⟨B8,0,Sf⟩) 1 1) Sj) RZ R1 Sa Sa rfl R7 λh15 c15=>?_;rw[rY]at c15;subst hy;simp;refine last h15 _ _ _ c15 ?_;simp[bs,bV,af,ag,g2,g5,g8,g9,g10]
    refine ay λy hy=>?_;simp[g3,g5,af,ag,ii3,ii4,q0,dd0];refine an (z:=.agg mz.toArray) (places:=nT) (vs:=[(0,Sb Sc 4),(1,Sb Sc t),(6,Sb Sd i.imm.v)]) (cs:=(mchV 4 t 0 0 0 0 i.imm.v (Sg Sf 0 0)).toArray) R1 R1 Sa R1 ?_;refine⟨View.le_refl _,?_⟩;subst hy;refine dT ?_ ?_
    ·refine ay λy hy=>?_;simp[af,ag];refine c12.jO (k:=(0,3)) (n:=1) (l:=[nth i.args 0]) RZ El.aP Sa (by simp;exact a0) rfl R4 λu13 h13 hle13 c13=>?_;rw[sr]at c13;obtain⟨a9,n9,k9,rfl⟩:=eX (c13.own.now (k:=(0,3)) (v:=u13) RZ);refine⟨hle13,?_⟩;subst hy;refine ay λy hy=>?_;simp[af,ag];refine xc (α:=aH) (W:=W5) El.dc Sa (rm4 _) R4 λh14 hle14 own14=>?_;have c14:=c13.add (k:=(0,4)) RZ own14 hle14 (λb hb=>by simp only[Value.ownBlock,N7]at hb;omega);rw[zk]at c14;generalize (h13.size:Nat)=B8 at c14;refine⟨S3 hle13 hle14,?_⟩;subst hy;refine ay λy hy=>?_;simp[af,ag];refine an (z:=.agg bo.toArray) (places:=fitP) (vs:=[(0,.slice a9 n9 k9),(2,Sg (Se ⟨B8,0,Sf⟩) 1 1),(4,.bool Sj)]) (cs:=(outV (.slice a9 n9 k9) (Sg Sf 0 0) (Sg (Se ⟨B8,0,Sf⟩) 1 1) Sj).toArray) R1 R1 Sa R1 ?_;subst hy;refine ay λy hy=>?_;simp[af,ag,g9];refine c14.iS (k:=(0,1)) (n:=8) (l:=bo) (l':=outV (.slice a9 n9 k9) (Sg Sf 0 0) (Sg (Se ⟨B8,0,Sf⟩) 1 1) Sj) RZ R1 Sa Sa rfl R7 λh15 c15=>?_;rw[rY]at c15;subst hy;simp;refine last h15 _ _ _ c15 ?_;simp[bs,bV,af,ag,g2,g5,g8,g9,g10]
    refine ay λy hy=>?_;simp[af,ag];refine xc (α:=aH) (W:=W5) El.dc Sa (rm4 _) R4 λh13 hle13 own13=>?_;have c13:=c12.add (k:=(0,4)) RZ own13 hle13 (λb hb=>by simp only[Value.ownBlock,N7]at hb;omega);rw[zk]at c13;generalize (h12.size:Nat)=B8 at c13;refine⟨hle13,?_⟩;subst hy;refine ay λy hy=>?_;simp[af,ag];refine c13.jO (k:=(0,3)) (n:=1) (l:=[nth i.args 0]) RZ El.aP Sa (by simp;exact a0) rfl R4 λu14 h14 hle14 c14=>?_;rw[sr]at c14;obtain⟨a9,n9,k9,rfl⟩:=eX (c14.own.now (k:=(0,3)) (v:=u14) RZ);refine⟨S3 hle13 hle14,?_⟩;subst hy;refine ay λy hy=>?_;simp[af,ag];refine an (z:=.agg bo.toArray) (places:=fitP) (vs:=[(0,.slice a9 n9 k9),(2,Sg (Se ⟨B8,0,Sf⟩) 1 1),(4,.bool Sj)]) (cs:=(outV (.slice a9 n9 k9) (Sg Sf 0 0) (Sg (Se ⟨B8,0,Sf⟩) 1 1) Sj).toArray) R1 R1 Sa R1 ?_;subst hy;refine ay λy hy=>?_;simp[af,ag,g9];refine c14.iS (k:=(0,1)) (n:=8) (l:=bo) (l':=outV (.slice a9 n9 k9) (Sg Sf 0 0) (Sg (Se ⟨B8,0,Sf⟩) 1 1) Sj) RZ R1 Sa Sa rfl R7 λh15 c15=>?_;rw[rY]at c15;subst hy;simp;refine last h15 _ _ _ c15 ?_;simp[bs,bV,af,ag,g2,g5,g8,g9,g10]
  refine aI W2 c8.wle ?_;refine dT ?_ ?_
  ·refine ay λw hw=>?_;simp[g4,g5,huf,i3,q0,d0];refine aj R1 (jd c8.wle ruf hsm) ?_;rintro _ h9 ⟨hle9,vi,rfl,hvi⟩;have c9:=c8.ext hle9;subst hw;simp[af,ag];refine c9.dE (α:=InsD) hvi (n:=5) (z:=.agg insV.toArray) R1 rfl rfl R1 R5 R5 λS h10 W10 hW10 c10 hat10 hle10=>?_;refine restC W10 h10 _ S (S3 c8.up hW10) c10 hat10 ?_;simp[bs,bV,af,ag,g2,g3,g4,g5,g8,g9,g10]
  refine ay λw hw=>?_;simp[g4,g5,huf,i3,q0,d0];refine c8.db (k:=(0,5)) (z:=.agg insV.toArray) (d:=eZ) RZ R1 iU R4 λS h9 hle9 c9=>?_;refine⟨c9.wle,?_⟩;subst hw;refine ay λw hw=>?_;simp[af,ag];refine aj R1 (jd c9.wle ruf hsm) ?_;rintro _ h10 ⟨hle10,vi,rfl,hvi⟩;have hW10:=c9.up (h':=h10);have c10:=c9.ext hle10;subst hw;simp[af,ag];refine c10.cA Part.all (k:=(0,5)) (D:=eZ) (d:=(de f (nth i.args 0) 2).1) RZ R1 Sa Sa hvi λh11 c11=>?_;obtain⟨W11,hW11,c12,hat12⟩:=c11.mT (k:=(0,5)) (B:=S) (d:=(de f (nth i.args 0) 2).1) RZ;rw[Own.bX,Own.bX,Nb]at c12;refine restC W11 h11 _ S (S3 hW10 hW11) c12 hat12 ?_;simp[bs,bV,af,ag,g2,g3,g4,g5,g8,g9,g10]
 have ho : ∀D:aH,(Own.upd (Own.upd (Own.upd (Own.upd (λ_=>Sf) (0,0) (bx T.aJ R (RawN.mk (n:=8) (Value.agg bo.toArray).cells.toList))) (0,1) (bx T.aJ OB (RawN.mk (n:=8) (Value.agg bo.toArray).cells.toList))) (0,1) (bx T.aJ OB (RawN.mk (n:=8) bo))) (0,2) (bx T.cW M D))=rmO R OB M bo D Sf none:=λD=>by
  funext k;simp only[rmO,Own.upd];by_cases k2:k=(0,2)
  ·subst k2;rfl
  by_cases k1:k=(0,1)
  ·subst k1;rfl
  by_cases k0:k=(0,0)
  ·subst k0;rfl
  simp[k0,k1,k2]
 by_cases h16:i.op=16
 ·obtain⟨q1,d1,b0,b1⟩:=s1 h16;refine dd RZ (by simp[ae c7.wle i0,h16]) ?_;simp[ae c7.wle i3,q1,ae c7.wle d1];refine an (z:=.agg mz.toArray) (places:=nT) (vs:=[(0,Sb Sc 26),(4,Sb Sc (nth i.args 1))]) (cs:=(mchV 26 0 0 0 (nth i.args 1) 0 0 (Sg Sf 0 0)).toArray) R1 R1 Sa R1 ?_;have rm2 : ∀X,Rd X (.agg (mchV 26 0 0 0 (nth i.args 1) 0 0 (Sg Sf 0 0)).toArray) (⟨26,0,0,0,nth i.args 1,0,⟨0⟩,[]⟩:aH):=λX=>dY (imm:=⟨0⟩) R9 Sa aF;refine c7.cA Part.all (k:=(0,2)) (D:=(⟨24,i.dst,0,0,0,0,⟨0⟩,[]⟩:aH)) (d:=(⟨26,0,0,0,nth i.args 1,0,⟨0⟩,[]⟩:aH)) RZ R1 Sa Sa (rm2 _) λh8 c8=>?_;refine restB h8 _ ?_ ?_
  ·rw[Own.bX,Own.bX,ho]at c8;unfold memD;rw[if_pos h16];exact c8
  simp[bs,bV,Lft.look]
 refine df RZ (by simp[ae c7.wle i0,h16]) ?_;simp;refine restB h7 _ ?_ ?_
 ·rw[Own.bX,ho]at c7;unfold memD;rw[if_neg h16];exact c7
 simp[bs,bV,Lft.look]
structure GS (i:InsD):Prop where
 two:2<=i.op/\i.op<=14\/i.op=16\/i.op=18->i.args.length=2
 one:i.op=15->i.args.length=1
theorem Jy{f:aq}(m:nY f): ∀i∈dV f,GS i:=by
 intro i hi;obtain⟨b,k,hb,hk,rfl⟩:=gZ.1 hi;obtain⟨-,h⟩:=m.insG hb hk;generalize nth (nth f.blocks b).ins k=i at *;unfold ml at h;simp at h;obtain⟨⟨h1,h2⟩,h3⟩:=h;unfold lE at h3;refine⟨λho=>?_,λho=>?_⟩
 ·rw[if_neg R3,if_neg R3,if_neg R3]at h3;simp at h3;omega
 rw[if_neg R3,if_pos R3]at h3;simp at h3;omega
theorem Cp{l:List Int}(h:l.length=2):l.take 1=[nth l 0]/\l.drop 1=[nth l 1]:=by match l,h with | [a,b],_=>exact⟨rfl,rfl⟩
variable{pat:Int}
theorem Ha(h:16<=pat/\pat<=21): ∃op m lo hi sg:Int,immT pat=(op,m,lo,hi)/\(2<=op/\op<=14)/\(0<=m/\m<=100)/\opOf pat.toNat=op/\(sg=if pat=17 then -1 else 1)/\(-128<=lo/\lo<=128)/\(-128<=hi/\hi<=128)/\∀f i t,doS f i t pat.toNat=immS f i m lo hi sg:=by
 have:pat=16\/pat=17\/pat=18\/pat=19\/pat=20\/pat=21:=by omega
 rcases this with rfl | rfl | rfl | rfl | rfl | rfl
 ·exact⟨2,18,-128,127,1,rfl,by decide,by decide,rfl,rfl,by decide,by decide,λ_ _ _=>rfl⟩
 ·exact⟨3,18,-127,128,-1,rfl,by decide,by decide,rfl,rfl,by decide,by decide,λ_ _ _=>rfl⟩
 ·exact⟨5,19,-128,127,1,rfl,by decide,by decide,rfl,rfl,by decide,by decide,λ_ _ _=>rfl⟩
 ·exact⟨8,20,0,31,1,rfl,by decide,by decide,rfl,rfl,by decide,by decide,λ_ _ _=>rfl⟩
 ·exact⟨9,21,0,31,1,rfl,by decide,by decide,rfl,rfl,by decide,by decide,λ_ _ _=>rfl⟩
 exact⟨10,22,0,31,1,rfl,by decide,by decide,rfl,rfl,by decide,by decide,λ_ _ _=>rfl⟩
theorem Jt(h:¬(16<=pat/\pat<=21)):immT pat=(0,0,0,0):=by unfold immT;rw[if_neg R3,if_neg R3,if_neg R3,if_neg R3,if_neg R3,if_neg R3]
theorem Eo{f:aq}{i:InsD}{t:Int}(h:i.op≠opOf pat.toNat):patS f i t pat=none:=by unfold patS;rw[if_neg λc=>h c.2.2]
theorem mN{f:aq}{i:InsD}{t:Int}(h0:1<=pat/\pat<=32)(h:i.op=opOf pat.toNat):patS f i t pat=doS f i t pat.toNat:=by unfold patS;rw[if_pos ⟨h0.1,h0.2,h⟩]
set_option maxHeartbeats 4000000 in
theorem Ck{f:aq}{i:InsD}{vf vi:Value}{t:Int}{h:Heap}{W:View}(hW:W.le (vw h))(hvf:Rd W vf f)(hvi:Rd W vi i)(hsm:SmF f)(hall : ∀i∈dV f,qB i)(hex:GS i)(hr : ∀i∈dV f,-2147483648<=i.imm.v/\i.imm.v<=2147483647)(hp:I64 pat)(ht:I64 t):
    aA Sn 62 #[vf,vi,Sb Sc pat,Sb Sc t] h (λu h'=>DB W h h' u (patS f i t pat)):=by
  refine au (args:=[vf,vi,Sb Sc pat,Sb Sc t]) follows Tryz.func62 E.dX S0 λK hK=>?_
  dsimp only[L.dX,lkF,lkG]
  have c0:=Cx.start hW
  refine aa λz hz=>?_
  simp
  refine c0.cr rfl hvf λF1 h1 W1 hW1 c1 hat1 hle1=>?_
  refine c1.cr rfl (hvi.mono hW1) λI1 h2 W2 hW2 c2 hat2 hle2=>?_
  refine c2.bW (k:=(0,0)) (n:=8) (z:=.agg bo.toArray) rfl R1 rfl R4 R8 λR h3 hle3 c3=>?_
  subst hz
  have hat1:=hat1.mono hW2
  obtain⟨i0,i1,i2,va,i3,si⟩:=fO hat2
  have i3:ao W2 ⟨I1,3,Sf⟩=Se va:=i3
  have i4:=hat2.part InsD.gD
  have r4:=i4.nK
  have i4:ao W2 ⟨I1,4,Sf⟩=Se (Sb Sd i.imm.v):=by simpa using i4.i32
  have r1:=(hat2.part InsD.iq).rng
  have r2:=(hat2.part InsD.yn).rng
  obtain⟨uf,huf,ruf⟩:=hat1.ldN rfl (N:=2) rfl
  have huf:=huf W2 S2
  obtain⟨ui,hui,rui⟩:=hat2.ldN rfl (N:=5) rfl
  have hui:=hui W2 S2
  obtain⟨a5,n5,m5,rfl⟩:=eX si
  have at0:1<=i.args.length->Bn.ev (.idx 1) (.slice a5 n5 m5) (Sb Sc 0)=Se (Si (Se ((slA (.slice a5 n5 m5)).add 0)))/\ao W2 ((slA (.slice a5 n5 m5)).add 0)=Se (Sb Sc (nth i.args 0))/\I64 (nth i.args 0):=λhl=>by
    have q:=si.idx1 (k:=.i64) (i:=0) rfl R4 R3
    have d:=si.int (View.le_refl W2) (i:=0) R3
    simp at q d
    exact⟨q,by simpa using d,si.rng (i:=0) R3⟩
  have at1:2<=i.args.length->Bn.ev (.idx 1) (.slice a5 n5 m5) (Sb Sc 1)=Se (Si (Se ((slA (.slice a5 n5 m5)).add 1)))/\ao W2 ((slA (.slice a5 n5 m5)).add 1)=Se (Sb Sc (nth i.args 1))/\I64 (nth i.args 1):=λhl=>by
    have q:=si.idx1 (k:=.i64) (i:=1) rfl R4 R3
    have d:=si.int (View.le_refl W2) (i:=1) R3
    simp at q d
    exact⟨q,by simpa using d,si.rng (i:=1) R3⟩
  have i0c:=ae c3.wle i0
  have i1c:=ae c3.wle i1
  have i3c:=ae c3.wle i3
  have i4c:=ae c3.wle i4
  have fin : ∀(W':View) (h9:Heap) (o:Own) (l9:List Value) (x:FitR),Cx W h W' h9 o->Rd W' (.agg l9.toArray) x->x.ok=(patS f i t pat).isSome->(∀y,patS f i t pat=Se y->x.fit=y)->K (.agg l9.toArray) h9:=λW' h9 o l9 x c hr e1 e2=>hK _ _ ⟨c.le0,x,hr.mono c.fin,e1,e2⟩
  have e1 : ∀a b:Int,¬(pat=a/\i.op=b)->(decide (pat=a)&&decide (i.op=b))=false:=λa b hh=>by simpa using hh
  clear hK
  refine aa λz hz=>?_
  by_cases q1:3<=pat/\pat<=15
  · refine dd RZ (by simp[q1.1,q1.2]) ?_
    have ew:IntKind.i64.wrap (pat-3)=pat-3:=bj R3 R3
    have ew2:IntKind.i64.wrap (pat-3+2)=pat-1:=by rw[bj R3 R3];omega
    have ew5:IntKind.i64.wrap (pat-3+5)=pat+2:=by rw[bj R3 R3];omega
    have eo:opOf pat.toNat=pat-1:=by unfold opOf;rw[if_neg R3,if_pos R3];omega
    refine aa λw hw=>?_
    by_cases qo:i.op=pat-1
    · have er:patS f i t pat=Se ⟨i.args,[],[⟨pat+2,i.dst,0,nth i.args 0,nth i.args 1,0,⟨0⟩,[]⟩],cC⟩:=by
        rw[mN R6 (by rw[eo];exact qo),EB R6]
        have:((pat.toNat:Nat):Int)=pat:=by omega
        rw[this]
      have hl:=hex.two (.inl R6)
      obtain⟨q0,d0,b0⟩:=at0 R3
      obtain⟨q9,d9,b9⟩:=at1 R3
      obtain⟨b01,b02⟩:=b0
      obtain⟨b91,b92⟩:=b9
      refine df RZ (by simp[i0c,ew,ew2,qo]) ?_
      simp
      subst hw
      refine aa λw hw=>?_
      refine aI W2 c3.wle ?_
      simp[i1,i3,q0,d0,q9,d9,ew,ew5]
      refine an (z:=.agg mz.toArray) (places:=nT) (vs:=[(0,Sb Sc (pat+2)),(1,Sb Sc i.dst),(3,Sb Sc (nth i.args 0)),(4,Sb Sc (nth i.args 1))]) (cs:=(mchV (pat+2) i.dst 0 (nth i.args 0) (nth i.args 1) 0 0 (Sg Sf 0 0)).toArray) R1 R1 Sa R1 ?_
      have hm:Rd W2 (.agg (mchV (pat+2) i.dst 0 (nth i.args 0) (nth i.args 1) 0 0 (Sg Sf 0 0)).toArray) (⟨pat+2,i.dst,0,nth i.args 0,nth i.args 1,0,⟨0⟩,[]⟩:aH):=dY (imm:=⟨0⟩) R9 Sa aF
      refine⟨c3.wle,?_⟩
      refine c3.eF (α:=aH) (n:=1) (vs:=[.agg (mchV (pat+2) i.dst 0 (nth i.args 0) (nth i.args 1) 0 0 (Sg Sf 0 0)).toArray]) (ds:=[(⟨pat+2,i.dst,0,nth i.args 0,nth i.args 1,0,⟨0⟩,[]⟩:aH)]) El.dc Sa ⟨hm,trivial⟩ rfl R4 R4 λu8 h8 W8 hW8 c8 s8 hle8=>?_
      obtain⟨a8,n8,k8,rfl⟩:=eX s8
      refine⟨S3 c3.wle hle8,?_⟩
      refine an (z:=.agg bo.toArray) (places:=fitP) (vs:=[(0,.slice a5 n5 m5),(2,.slice a8 n8 k8),(4,.bool Sj)]) (cs:=(outV (.slice a5 n5 m5) (Sg Sf 0 0) (.slice a8 n8 k8) Sj).toArray) R1 R1 Sa R1 ?_
      have hr:Rd W8 (.agg (outV (.slice a5 n5 m5) (Sg Sf 0 0) (.slice a8 n8 k8) Sj).toArray) (⟨⟨i.args,[],[⟨pat+2,i.dst,0,nth i.args 0,nth i.args 1,0,⟨0⟩,[]⟩],cC⟩,Sj⟩:FitR):=qU (si.mono hW8) aF s8
      refine c8.aK (k:=(0,0)) Own.ah hr rfl rfl R1 Sa Sa λh5 l5 hl5 c5=>?_
      subst hw
      simp[c5.all (k:=(0,0)) Own.ah]
      exact fin _ _ _ _ _ c5 (hl5▸hr) (by rw[er];rfl) (λy hy=>by rw[er]at hy;cases hy;rfl)
    · have er:patS f i t pat=none:=Eo (by rw[eo];exact qo)
      refine dd RZ (by simp[i0c,ew,ew2,qo]) ?_
      simp
      refine an (z:=.agg bo.toArray) (places:=fitP) (vs:=[]) (cs:=bo.toArray) R1 R1 Sa R1 ?_
      have hr:Rd W2 (.agg bo.toArray) (⟨nJ,Sk⟩:FitR):=ir
      refine c3.aK (k:=(0,0)) Own.ah hr rfl rfl R1 Sa Sa λh5 l5 hl5 c5=>?_
      simp[c5.all (k:=(0,0)) Own.ah]
      exact fin _ _ _ _ _ c5 (hl5▸hr) (by rw[er];rfl) (λy hy=>by rw[er]at hy;cases hy)
  have x1:(decide (3<=pat)&&decide (pat<=15))=false:=by simpa using q1
  refine df RZ (by simp[x1]) ?_
  simp
  subst hz
  refine aa λz hz=>?_
  simp
  refine aj R1 (AQ (pat:=pat)) ?_
  rintro _ h3 ⟨rfl,rfl⟩
  simp
  subst hz
  refine aa λz hz=>?_
  by_cases q2:16<=pat/\pat<=21
  · obtain⟨op,mo,lo,hi,sg,eT,ho,hmo,eo,hsg,hlo,hhi,hdo⟩:=Ha q2
    rw[eT]
    refine dd RZ (by
                                   have:¬op=0:=by omega
                                   simp[this]) ?_
    refine aa λw hw=>?_
    by_cases qo:i.op=op
    · have hl:=hex.two (.inl R6)
      obtain⟨q0,d0,b0⟩:=at0 R3
      obtain⟨q9,d9,b9⟩:=at1 R3
      obtain⟨b01,b02⟩:=b0
      obtain⟨tl1,tl2⟩:=Cp hl
      have er:patS f i t pat=if(dH f (nth i.args 1) lo hi).2 then Se ⟨[nth i.args 0],[nth i.args 1],[⟨mo,i.dst,0,nth i.args 0,0,0,w32 (sg*(dH f (nth i.args 1) lo hi).1),[]⟩],cC⟩ else none:=by
        rw[mN R6 (by rw[eo];exact qo),hdo];rfl
      refine df RZ (by simp[i0c,qo]) ?_
      simp
      subst hw
      refine aa λw hw=>?_
      refine aI W2 c3.wle ?_
      simp[i3,q9,d9,huf]
      refine aj R1 (wv c3.wle ruf hsm) ?_
      rintro _ h4 ⟨hle4,rfl⟩
      have c4:=c3.ext hle4
      have hW4:=c3.up (h':=h4)
      obtain⟨cs2,cs1⟩:=xr (f:=f) (v:=nth i.args 1) (lo:=lo) (hi:=hi)
      have crng:=xB (f:=f) (v:=nth i.args 1) (lo:=lo) (hi:=hi) hr
      generalize mc f (nth i.args 1) lo hi=kc at cs1 cs2 crng
      simp
      subst hw
      obtain⟨ut,hut,rut⟩:=si.take (n:=1) R3 (kd:=.i64)
      obtain⟨ud,hud,rud⟩:=si.drop (n:=1) R3 (kd:=.i64)
      rw[tl1]at rut
      rw[tl2]at rud
      obtain⟨a6,n6,k6,rfl⟩:=eX rut
      obtain⟨a7,n7,k7,rfl⟩:=eX rud
      have nI:Rep.n Int=1:=rfl
      rw[nI]at hud
      simp at hut hud
      have le4:W2.le (vw h4):=S3 hW4 c4.wle
      refine aa λw hw=>?_
      have last : ∀(ρ:Env) (kk:Int),kk=(if pat=17 then 0-kc.1 else kc.1)->Slk ρ [(5,ptr I1),(8,ptr R),(10,Sb Sc mo),(13,Sb Sc kk),(14,.bool kc.2)]->LC.wp Sn w (fh (LC.wp Sn z (cz [.un (.aT 9) (.tmp 8)] K)) (cz [.un (.aT 9) (.tmp 8)] K)) ρ h4:=by
        intro ρ kk hkk hL
        simp only[bs,bV,and_true]at hL
        obtain⟨g5,g8,g10,g13,g14⟩:=hL
        subst hw
        have ew:w32 kk=w32 (sg*kc.1):=by rw[hkk,hsg];split<;>simp
        refine aa λw hw=>?_
        refine aI (vw h4) S2 ?_
        refine ay λy hy=>?_
        simp[g5,g8,g10,g13,g14,af,ag,ae le4 i1,ae le4 i3,q0,ae le4 d0,hut,hud]
        refine an (z:=.agg mz.toArray) (places:=nT) (vs:=[(0,Sb Sc mo),(1,Sb Sc i.dst),(3,Sb Sc (nth i.args 0)),(6,Sb Sd (w32 kk).v)]) (cs:=(mchV mo i.dst 0 (nth i.args 0) 0 0 (w32 kk).v (Sg Sf 0 0)).toArray) R1 R1 (by simp[w32]) R1 ?_
        have hm:Rd (grow W2 h3 h4) (.agg (mchV mo i.dst 0 (nth i.args 0) 0 0 (w32 kk).v (Sg Sf 0 0)).toArray) (⟨mo,i.dst,0,nth i.args 0,0,0,w32 kk,[]⟩:aH):=dY R9 (xm _) aF
        refine⟨View.le_refl _,?_⟩
        subst hy
        refine ay λy hy=>?_
        simp[af,ag]
        refine c4.eF (α:=aH) (n:=1) (vs:=[.agg (mchV mo i.dst 0 (nth i.args 0) 0 0 (w32 kk).v (Sg Sf 0 0)).toArray]) (ds:=[(⟨mo,i.dst,0,nth i.args 0,0,0,w32 kk,[]⟩:aH)]) El.dc Sa ⟨hm,trivial⟩ rfl R4 R4 λu8 h8 W8 hW8 c8 s8 hle8=>?_
        obtain⟨a8,n8,k8,rfl⟩:=eX s8
        refine⟨hle8,?_⟩
        subst hy
        refine ay λy hy=>?_
        simp[af,ag]
        refine an (z:=.agg bo.toArray) (places:=fitP) (vs:=[(0,.slice a6 n6 k6),(1,.slice a7 n7 k7),(2,.slice a8 n8 k8),(4,.bool kc.2)]) (cs:=(outV (.slice a6 n6 k6) (.slice a7 n7 k7) (.slice a8 n8 k8) kc.2).toArray) R1 R1 Sa R1 ?_
        have hr:Rd W8 (.agg (outV (.slice a6 n6 k6) (.slice a7 n7 k7) (.slice a8 n8 k8) kc.2).toArray) (⟨⟨[nth i.args 0],[nth i.args 1],[⟨mo,i.dst,0,nth i.args 0,0,0,w32 kk,[]⟩],cC⟩,kc.2⟩:FitR):=qU (rut.mono (S3 hW4 hW8)) (rud.mono (S3 hW4 hW8)) s8
        subst hy
        refine ay λy hy=>?_
        simp[af,ag,g8]
        refine c8.aK (k:=(0,0)) Own.ah hr rfl rfl R1 Sa Sa λh5 l5 hl5 c5=>?_
        subst hy
        simp
        subst hw
        simp[g8,af,ag,c5.all (k:=(0,0)) Own.ah]
        refine fin _ _ _ _ _ c5 (hl5▸hr) (by rw[er,<-cs2];cases kc.2<;>rfl) (λy hy=>?_)
        rw[er]at hy
        split at hy
        · rename_i c
          rw[<-cs1 c,<-ew]at hy
          cases hy;rfl
        · cases hy
      by_cases q17:pat=17
      · have ew0:IntKind.i64.wrap (0-kc.1)=0-kc.1:=bj R3 R3
        refine dd RZ (by simp[q17]) ?_
        simp
        refine last _ (0-kc.1) (by rw[if_pos q17]) ?_
        have ew1:IntKind.i64.wrap (-kc.1)=0-kc.1:=by rw[<-ew0];simp
        simp[bs,bV,Lft.look,af,ag,ew0,ew1]
      · refine df RZ (by simp[q17]) ?_
        simp
        refine last _ kc.1 (by rw[if_neg q17]) ?_
        simp[bs,bV,Lft.look,af,ag]
    · have er:patS f i t pat=none:=Eo (by rw[eo];exact qo)
      refine dd RZ (by simp[i0c,qo]) ?_
      simp
      refine an (z:=.agg bo.toArray) (places:=fitP) (vs:=[]) (cs:=bo.toArray) R1 R1 Sa R1 ?_
      have hr:Rd W2 (.agg bo.toArray) (⟨nJ,Sk⟩:FitR):=ir
      refine c3.aK (k:=(0,0)) Own.ah hr rfl rfl R1 Sa Sa λh5 l5 hl5 c5=>?_
      simp[c5.all (k:=(0,0)) Own.ah]
      exact fin _ _ _ _ _ c5 (hl5▸hr) (by rw[er];rfl) (λy hy=>by rw[er]at hy;cases hy)
  rw[Jt q2]
  refine df RZ Sa ?_
  simp
  subst hz
  refine aa λz hz=>?_
  refine sK ?_
  by_cases p1:pat=1/\i.op=1
  · obtain⟨rfl,po⟩:=p1
    refine dd RZ (by simp[i0c,po]) ?_
    have er:patS f i t 1=if inR i.imm.v (-32768) 32767 then Se ⟨[],[],[⟨3,i.dst,0,0,0,0,i.imm,[]⟩],cC⟩ else none:=by rw[mN ⟨R4,R4⟩ po];rfl
    refine aa λw hw=>?_
    simp[i1c,i4c]
    refine an (z:=.agg mz.toArray) (places:=nT) (vs:=[(0,Sb Sc 3),(1,Sb Sc i.dst),(6,Sb Sd i.imm.v)]) (cs:=(mchV 3 i.dst 0 0 0 0 i.imm.v (Sg Sf 0 0)).toArray) R1 R1 Sa R1 ?_
    have hm:Rd W2 (.agg (mchV 3 i.dst 0 0 0 0 i.imm.v (Sg Sf 0 0)).toArray) (⟨3,i.dst,0,0,0,0,i.imm,[]⟩:aH):=dY R9 r4 aF
    refine c3.eF (α:=aH) (n:=1) (vs:=[.agg (mchV 3 i.dst 0 0 0 0 i.imm.v (Sg Sf 0 0)).toArray]) (ds:=[(⟨3,i.dst,0,0,0,0,i.imm,[]⟩:aH)]) El.dc Sa ⟨hm,trivial⟩ rfl R4 R4 λu8 h8 W8 hW8 c8 s8 hle8=>?_
    obtain⟨a8,n8,k8,rfl⟩:=eX s8
    simp[ae (S3 hW8 c8.wle) i4]
    refine an (z:=.agg bo.toArray) (places:=fitP) (vs:=[(2,.slice a8 n8 k8),(4,.bool (decide (-32768<=i.imm.v)&&decide (i.imm.v<=32767)))]) (cs:=(outV (Sg Sf 0 0) (Sg Sf 0 0) (.slice a8 n8 k8) (decide (-32768<=i.imm.v)&&decide (i.imm.v<=32767))).toArray) R1 R1 Sa R1 ?_
    have hr:Rd W8 (.agg (outV (Sg Sf 0 0) (Sg Sf 0 0) (.slice a8 n8 k8) (decide (-32768<=i.imm.v)&&decide (i.imm.v<=32767))).toArray) (⟨⟨[],[],[⟨3,i.dst,0,0,0,0,i.imm,[]⟩],cC⟩,decide (-32768<=i.imm.v)&&decide (i.imm.v<=32767)⟩:FitR):=qU aF aF s8
    refine c8.aK (k:=(0,0)) Own.ah hr rfl rfl R1 Sa Sa λh5 l5 hl5 c5=>?_
    subst hw
    simp[c5.all (k:=(0,0)) Own.ah]
    refine fin _ _ _ _ _ c5 (hl5▸hr) ?_ (λy hy=>?_)
    · rw[er]
      show inR i.imm.v (-32768) 32767=_
      cases inR i.imm.v (-32768) 32767<;>rfl
    · rw[er]at hy
      split at hy<;>cases hy
      rfl
  have x2:=e1 1 1 p1
  refine df RZ (by simp[i0c,x2]) ?_
  by_cases p2:pat=2/\i.op=1
  · obtain⟨rfl,po⟩:=p2
    refine dd RZ (by simp[i0c,po]) ?_
    have er:patS f i t 2=Se ⟨[],[],[⟨4,i.dst,0,0,0,0,i.imm,[]⟩],cC⟩:=by rw[mN ⟨R4,R4⟩ po];rfl
    refine aa λw hw=>?_
    simp[i1c,i3c,i4c]
    refine an (z:=.agg mz.toArray) (places:=nT) (vs:=[(0,Sb Sc 4),(1,Sb Sc i.dst),(6,Sb Sd i.imm.v)]) (cs:=(mchV 4 i.dst 0 0 0 0 i.imm.v (Sg Sf 0 0)).toArray) R1 R1 Sa R1 ?_
    have hm:Rd W2 (.agg (mchV 4 i.dst 0 0 0 0 i.imm.v (Sg Sf 0 0)).toArray) (⟨4,i.dst,0,0,0,0,i.imm,[]⟩:aH):=dY R9 r4 aF
    refine c3.eF (α:=aH) (n:=1) (vs:=[.agg (mchV 4 i.dst 0 0 0 0 i.imm.v (Sg Sf 0 0)).toArray]) (ds:=[(⟨4,i.dst,0,0,0,0,i.imm,[]⟩:aH)]) El.dc Sa ⟨hm,trivial⟩ rfl R4 R4 λu8 h8 W8 hW8 c8 s8 hle8=>?_
    obtain⟨a8,n8,k8,rfl⟩:=eX s8
    refine an (z:=.agg bo.toArray) (places:=fitP) (vs:=[(2,.slice a8 n8 k8),(4,.bool Sj)]) (cs:=(outV (Sg Sf 0 0) (Sg Sf 0 0) (.slice a8 n8 k8) Sj).toArray) R1 R1 Sa R1 ?_
    have hr:Rd W8 (.agg (outV (Sg Sf 0 0) (Sg Sf 0 0) (.slice a8 n8 k8) Sj).toArray) (⟨⟨[],[],[⟨4,i.dst,0,0,0,0,i.imm,[]⟩],cC⟩,Sj⟩:FitR):=qU aF aF s8
    refine c8.aK (k:=(0,0)) Own.ah hr rfl rfl R1 Sa Sa λh5 l5 hl5 c5=>?_
    subst hw
    simp[c5.all (k:=(0,0)) Own.ah]
    exact fin _ _ _ _ _ c5 (hl5▸hr) (by rw[er];rfl) (λy hy=>by rw[er]at hy;cases hy;rfl)
  have x3:=e1 2 1 p2
  refine df RZ (by simp[i0c,x3]) ?_
  by_cases p3:pat=22/\i.op=2
  · obtain⟨rfl,po⟩:=p3
    refine dd RZ (by simp[i0c,po]) ?_
    have hl:=hex.two (.inl R6)
    obtain⟨q0,d0,b0⟩:=at0 R3
    obtain⟨q9,d9,b9⟩:=at1 R3
    obtain⟨tl1,tl2⟩:=Cp hl
    obtain⟨hs2,hs1⟩:=pP (f:=f) (v:=nth i.args 0) (op:=4)
    have er:patS f i t 22=if(aG f (nth i.args 0) 4).2 then
      Se ⟨[nth (aG f (nth i.args 0) 4).1.args 0,nth (aG f (nth i.args 0) 4).1.args 1,nth i.args 1],[nth i.args 0],[⟨23,i.dst,0,nth (aG f (nth i.args 0) 4).1.args 0,nth (aG f (nth i.args 0) 4).1.args 1,nth i.args 1,⟨0⟩,[]⟩],cC⟩
    else none:=by rw[mN ⟨R4,R4⟩ po];rfl
    refine aa λy hy=>?_
    have rest : ∀(W5:View) (h5:Heap) (o:Own) (S:Nat) (ρ:Env),W2.le W5->Cx W h W5 h5 o->o (0,0)=bx T.aJ R (RawN.mk (n:=8) bo)->At W5 ⟨S,0,Sf⟩ (de f (nth i.args 0) 4).1->Slk ρ [(5,ptr I1),(8,ptr R),(15,ptr S),(16,.bool (de f (nth i.args 0) 4).2)]->
        LC.wp Sn y (fm 0 (fh (LC.wp Sn z (cz [.un (.aT 9) (.tmp 8)] K)) (cz [.un (.aT 9) (.tmp 8)] K))) ρ h5:=by
      intro W5 h5 o S ρ hW5 c5 ho hat5 hL
      subst hy
      refine aa λy hy=>?_
      cases hb:(de f (nth i.args 0) 4).2 with
      | false=>
        rw[hb]at hL
        have er:patS f i t 22=none:=by rw[er,<-hs2,hb];rfl
        refine dt _ Sj hL RZ (by have g:=hL (16,.bool Sk) Sa;simp at g;simp[g]) λρ2 hL2=>?_
        simp only[cond_true]
        simp only[bs,bV,and_true]at hL2
        obtain⟨g5,g8,g15,g16⟩:=hL2
        simp[g8,af,ag]
        refine an (z:=.agg bo.toArray) (places:=fitP) (vs:=[]) (cs:=bo.toArray) R1 R1 Sa R1 ?_
        have hr:Rd W5 (.agg bo.toArray) (⟨nJ,Sk⟩:FitR):=ir
        refine c5.aK (k:=(0,0)) ho hr rfl rfl R1 Sa Sa λh6 l6 hl6 c6=>?_
        simp[g8,af,ag,c6.all (k:=(0,0)) Own.ah]
        exact fin _ _ _ _ _ c6 (hl6▸hr) (by rw[er];rfl) (λy hy=>by rw[er]at hy;cases hy)
      | true=>
        rw[hb]at hL
        have hf2:(aG f (nth i.args 0) 4).2=true:=by rw[<-hs2,hb]
        rw[hs1 hf2]at hat5
        rw[if_pos hf2]at er
        refine dt _ Sk hL RZ (by have g:=hL (16,.bool Sj) Sa;simp at g;simp[g]) λρ2 hL2=>?_
        simp only[cond_false]
        simp only[bs,bV,and_true]at hL2
        obtain⟨g5,g8,g15,g16⟩:=hL2
        simp
        subst hy
        obtain⟨m1,m2,-⟩:=gK hf2
        have la:=(hall _ m1).two R3
        generalize (aG f (nth i.args 0) 4).1=s at *
        obtain⟨-,-,-,vs,j3,ss⟩:=fO hat5
        have j3:ao W5 ⟨S,3,Sf⟩=Se vs:=j3
        have jx0:=ss.idx1 (k:=.i64) (i:=0) rfl R4 R3
        have jd0:=ss.int (View.le_refl W5) (i:=0) R3
        have jx1:=ss.idx1 (k:=.i64) (i:=1) rfl R4 R3
        have jd1:=ss.int (View.le_refl W5) (i:=1) R3
        have b2:=ss.rng (i:=0) R3
        have b3:=ss.rng (i:=1) R3
        simp at jx0 jd0 jx1 jd1
        obtain⟨ut,hut,rut⟩:=si.take (n:=1) R3 (kd:=.i64)
        rw[tl1]at rut
        obtain⟨a6,n6,k6,rfl⟩:=eX rut
        simp at hut
        have ii1:=ae hW5 i1
        have ii3:=ae hW5 i3
        have dd0:=ae hW5 d0
        have dd9:=ae hW5 d9
        obtain⟨b91,b92⟩:=b9
        have hmD:Rd W5 (.agg (mchV 23 i.dst 0 (nth s.args 0) (nth s.args 1) (nth i.args 1) 0 (Sg Sf 0 0)).toArray) (⟨23,i.dst,0,nth s.args 0,nth s.args 1,nth i.args 1,⟨0⟩,[]⟩:aH):=dY (imm:=⟨0⟩) R9 Sa aF
        have r3:ni W5 [Sb Sc (nth s.args 0),Sb Sc (nth s.args 1),Sb Sc (nth i.args 1)] [nth s.args 0,nth s.args 1,nth i.args 1]:=⟨aX.2 ⟨rfl,b2⟩,aX.2 ⟨rfl,b3⟩,aX.2 ⟨rfl,b91,b92⟩,trivial⟩
        refine aa λy hy=>?_
        have last : ∀(W8:View) (h8:Heap) (ρ:Env) (a9:Option Addr) (n9 k9:Nat) (a8:Option Addr) (n8 k8:Nat),W5.le W8->Cx W h W8 h8 o->SlRd W8 (.slice a9 n9 k9) [nth s.args 0,nth s.args 1,nth i.args 1]->SlRd W8 (.slice a8 n8 k8) [(⟨23,i.dst,0,nth s.args 0,nth s.args 1,nth i.args 1,⟨0⟩,[]⟩:aH)]->Slk ρ [(8,ptr R)]->
            ∀(po:OP) (us:List (Nat × Value)) (x y2:Operand),asg us x=ptr R->asg us y2 = .agg (outV (.slice a9 n9 k9) (.slice a6 n6 k6) (.slice a8 n8 k8) Sj).toArray->
            @Lft.step po Sn (.store T.aJ x y2) 0 us h8 λ_ h'=>LC.wp Sn y (fm 0 (fh (LC.wp Sn z (cz [.un (.aT 9) (.tmp 8)] K)) (cz [.un (.aT 9) (.tmp 8)] K))) ρ h':=by
          intro W8 h8 ρ a9 n9 k9 a8 n8 k8 hW8 c8 s9 s8 hL po us x y2 ex ey
          have hr:Rd W8 (.agg (outV (.slice a9 n9 k9) (.slice a6 n6 k6) (.slice a8 n8 k8) Sj).toArray) (⟨⟨[nth s.args 0,nth s.args 1,nth i.args 1],[nth i.args 0],[⟨23,i.dst,0,nth s.args 0,nth s.args 1,nth i.args 1,⟨0⟩,[]⟩],cC⟩,Sj⟩:FitR):=qU s9 (rut.mono (S3 hW5 hW8)) s8
          refine c8.aK (k:=(0,0)) ho hr rfl rfl R1 ex ey λh6 l6 hl6 c6=>?_
          rw[hy]
          have g8:=hL (8,ptr R) Sa
          simp at g8
          simp[g8,af,ag,c6.all (k:=(0,0)) Own.ah]
          exact fin _ _ _ _ _ c6 (hl6▸hr) (by rw[er];rfl) (λy hy=>by rw[er]at hy;cases hy;rfl)
        clear hy
        refine aI W5 c5.wle ?_
        refine dT ?_ ?_
        · refine ay λw hw=>?_
          simp[g5,g15,af,ag,ii1,ii3,j3,q9,dd9,jx0,jd0,jx1,jd1,hut]
          refine c5.eF (α:=Int) (n:=3) (vs:=[Sb Sc (nth s.args 0),Sb Sc (nth s.args 1),Sb Sc (nth i.args 1)]) (ds:=[nth s.args 0,nth s.args 1,nth i.args 1]) El.aP Sa (r3) rfl R4 R4 λu9 h6 W6 hW6 c6 s9 hle6=>?_
          obtain⟨a9,n9,k9,rfl⟩:=eX s9
          refine⟨S3 c5.wle hle6,?_⟩
          subst hw
          refine ay λw hw=>?_
          simp[af,ag]
          refine an (z:=.agg mz.toArray) (places:=nT) (vs:=[(0,Sb Sc 23),(1,Sb Sc i.dst),(3,Sb Sc (nth s.args 0)),(4,Sb Sc (nth s.args 1)),(5,Sb Sc (nth i.args 1))]) (cs:=(mchV 23 i.dst 0 (nth s.args 0) (nth s.args 1) (nth i.args 1) 0 (Sg Sf 0 0)).toArray) R1 R1 Sa R1 ?_
          refine⟨S3 c5.wle hle6,?_⟩
          subst hw
          refine ay λw hw=>?_
          simp[af,ag]
          refine c6.eF (α:=aH) (n:=1) (vs:=[.agg (mchV 23 i.dst 0 (nth s.args 0) (nth s.args 1) (nth i.args 1) 0 (Sg Sf 0 0)).toArray]) (ds:=[(⟨23,i.dst,0,nth s.args 0,nth s.args 1,nth i.args 1,⟨0⟩,[]⟩:aH)]) El.dc Sa ⟨hmD.mono hW6,trivial⟩ rfl R4 R4 λu8 h7 W7 hW7 c7 s8 hle7=>?_
          obtain⟨a8,n8,k8,rfl⟩:=eX s8
          refine⟨S3 c5.wle (S3 hle6 hle7),?_⟩
          subst hw
          refine ay λw hw=>?_
          simp[af,ag]
          refine an (z:=.agg bo.toArray) (places:=fitP) (vs:=[(0,.slice a9 n9 k9),(1,.slice a6 n6 k6),(2,.slice a8 n8 k8),(4,.bool Sj)]) (cs:=(outV (.slice a9 n9 k9) (.slice a6 n6 k6) (.slice a8 n8 k8) Sj).toArray) R1 R1 Sa R1 ?_
          subst hw
          refine ay λw hw=>?_
          simp[af,ag,g8]
          subst hw
          simp
          refine last W7 _ _ a9 n9 k9 a8 n8 k8 (S3 hW6 hW7) c7 (s9.mono hW7) s8 ?_ _ _ _ _ Sa Sa
          simp[bs,bV,af,ag,g8]
        · refine ay λw hw=>?_
          simp[g5,g15,af,ag,ii1,ii3,j3,q9,dd9,jx0,jd0,jx1,jd1,hut]
          refine an (z:=.agg mz.toArray) (places:=nT) (vs:=[(0,Sb Sc 23),(1,Sb Sc i.dst),(3,Sb Sc (nth s.args 0)),(4,Sb Sc (nth s.args 1)),(5,Sb Sc (nth i.args 1))]) (cs:=(mchV 23 i.dst 0 (nth s.args 0) (nth s.args 1) (nth i.args 1) 0 (Sg Sf 0 0)).toArray) R1 R1 Sa R1 ?_
          refine⟨c5.wle,?_⟩
          subst hw
          refine dT ?_ ?_
          · refine ay λw hw=>?_
            simp[af,ag]
            refine c5.eF (α:=Int) (n:=3) (vs:=[Sb Sc (nth s.args 0),Sb Sc (nth s.args 1),Sb Sc (nth i.args 1)]) (ds:=[nth s.args 0,nth s.args 1,nth i.args 1]) El.aP Sa (r3) rfl R4 R4 λu9 h6 W6 hW6 c6 s9 hle6=>?_
            obtain⟨a9,n9,k9,rfl⟩:=eX s9
            refine⟨S3 c5.wle hle6,?_⟩
            subst hw
            refine ay λw hw=>?_
            simp[af,ag]
            refine c6.eF (α:=aH) (n:=1) (vs:=[.agg (mchV 23 i.dst 0 (nth s.args 0) (nth s.args 1) (nth i.args 1) 0 (Sg Sf 0 0)).toArray]) (ds:=[(⟨23,i.dst,0,nth s.args 0,nth s.args 1,nth i.args 1,⟨0⟩,[]⟩:aH)]) El.dc Sa ⟨hmD.mono hW6,trivial⟩ rfl R4 R4 λu8 h7 W7 hW7 c7 s8 hle7=>?_
            obtain⟨a8,n8,k8,rfl⟩:=eX s8
            refine⟨S3 c5.wle (S3 hle6 hle7),?_⟩
            subst hw
            refine ay λw hw=>?_
            simp[af,ag]
            refine an (z:=.agg bo.toArray) (places:=fitP) (vs:=[(0,.slice a9 n9 k9),(1,.slice a6 n6 k6),(2,.slice a8 n8 k8),(4,.bool Sj)]) (cs:=(outV (.slice a9 n9 k9) (.slice a6 n6 k6) (.slice a8 n8 k8) Sj).toArray) R1 R1 Sa R1 ?_
            subst hw
            refine ay λw hw=>?_
            simp[af,ag,g8]
            subst hw
            simp
            refine last W7 _ _ a9 n9 k9 a8 n8 k8 (S3 hW6 hW7) c7 (s9.mono hW7) s8 ?_ _ _ _ _ Sa Sa
            simp[bs,bV,af,ag,g8]
          · refine ay λw hw=>?_
            simp[af,ag]
            refine c5.eF (α:=aH) (n:=1) (vs:=[.agg (mchV 23 i.dst 0 (nth s.args 0) (nth s.args 1) (nth i.args 1) 0 (Sg Sf 0 0)).toArray]) (ds:=[(⟨23,i.dst,0,nth s.args 0,nth s.args 1,nth i.args 1,⟨0⟩,[]⟩:aH)]) El.dc Sa ⟨hmD,trivial⟩ rfl R4 R4 λu8 h6 W6 hW6 c6 s8 hle6=>?_
            obtain⟨a8,n8,k8,rfl⟩:=eX s8
            refine⟨S3 c5.wle hle6,?_⟩
            subst hw
            refine ay λw hw=>?_
            simp[af,ag]
            refine c6.eF (α:=Int) (n:=3) (vs:=[Sb Sc (nth s.args 0),Sb Sc (nth s.args 1),Sb Sc (nth i.args 1)]) (ds:=[nth s.args 0,nth s.args 1,nth i.args 1]) El.aP Sa (r3.mono hW6) rfl R4 R4 λu9 h7 W7 hW7 c7 s9 hle7=>?_
            obtain⟨a9,n9,k9,rfl⟩:=eX s9
            refine⟨S3 c5.wle (S3 hle6 hle7),?_⟩
            subst hw
            refine ay λw hw=>?_
            simp[af,ag]
            refine an (z:=.agg bo.toArray) (places:=fitP) (vs:=[(0,.slice a9 n9 k9),(1,.slice a6 n6 k6),(2,.slice a8 n8 k8),(4,.bool Sj)]) (cs:=(outV (.slice a9 n9 k9) (.slice a6 n6 k6) (.slice a8 n8 k8) Sj).toArray) R1 R1 Sa R1 ?_
            subst hw
            refine ay λw hw=>?_
            simp[af,ag,g8]
            subst hw
            simp
            refine last W7 _ _ a9 n9 k9 a8 n8 k8 (S3 hW6 hW7) c7 s9 (s8.mono hW7) ?_ _ _ _ _ Sa Sa
            simp[bs,bV,af,ag,g8]
    clear hy
    refine aI W2 c3.wle ?_
    refine dT ?_ ?_
    · refine ay λw hw=>?_
      simp[huf,i3,q0,d0]
      refine aj R1 (jd c3.wle ruf hsm) ?_
      rintro _ h4 ⟨hle4,vi,rfl,hvi⟩
      have c4:=c3.ext hle4
      subst hw
      simp
      refine c4.dE (α:=InsD) hvi (n:=5) (z:=.agg insV.toArray) R1 rfl rfl R1 R5 R5 λS h5 W5 hW5 c5 hat5 hle5=>?_
      refine rest W5 h5 _ S _ (S3 c3.up hW5) c5 Own.ah hat5 ?_
      simp[bs,bV,Lft.look]
    · refine ay λw hw=>?_
      simp[huf,i3,q0,d0]
      refine c3.db (k:=(0,5)) (z:=.agg insV.toArray) (d:=eZ) RZ R1 iU R4 λS h4 hle4 c4=>?_
      refine⟨c4.wle,?_⟩
      subst hw
      refine ay λw hw=>?_
      simp
      refine aj R1 (jd c4.wle ruf hsm) ?_
      rintro _ h5 ⟨hle5,vi,rfl,hvi⟩
      have hW5:=c4.up (h':=h5)
      have c5:=c4.ext hle5
      subst hw
      simp
      refine c5.cA Part.all (k:=(0,5)) (D:=eZ) (d:=(de f (nth i.args 0) 4).1) RZ R1 Sa Sa hvi λh6 c6=>?_
      obtain⟨W6,hW6,c7,hat7⟩:=c6.mT (k:=(0,5)) (B:=S) (d:=(de f (nth i.args 0) 4).1) RZ
      refine rest W6 h6 _ S _ (S3 hW5 hW6) c7 RZ hat7 ?_
      simp[bs,bV,Lft.look]
  have x4:=e1 22 2 p3
  refine df RZ (by simp[i0c,x4]) ?_
  by_cases p4:(23<=pat/\pat<=26)/\i.op=15
  · obtain⟨qr,po⟩:=p4
    refine dd RZ (by simp[i0c,po,qr.1,qr.2]) ?_
    obtain⟨k,hk⟩ : ∃k:Nat,pat-23=k:=⟨(pat-23).toNat,by omega⟩
    have ew:IntKind.i64.wrap (pat-23)=(k:Int):=by rw[bj R3 R3,hk]
    have mo:Ef i 24 25:=⟨by have a:=hex.one;have b:=hex.two;simp only[po]at a b ⊢;simp at a b ⊢;omega⟩
    have er:patS f i t pat=memS f i t i.op 24 25 k:=by
      have ek:k=(pat-23).toNat:=by omega
      rw[ek]
      clear hk ew ek
      have:pat=23\/pat=24\/pat=25\/pat=26:=by omega
      rcases this with rfl | rfl | rfl | rfl<;>(rw[mN ⟨R4,R4⟩ po,po];rfl)
    refine aa λw hw=>?_
    simp[Un.dq c3.wle huf,Un.dq c3.wle hui,ew]
    refine aj R1 (tt (way:=k) c3.wle ruf rui hsm hall hr mo R3 ht) ?_
    rintro u4 h4 ⟨hle4,x,rx,ox,yx⟩
    have c4:=c3.ext hle4
    refine c4.aK (k:=(0,0)) Own.ah rx rfl rfl R1 Sa Sa λh5 l5 hl5 c5=>?_
    subst hw
    simp[c5.all (k:=(0,0)) Own.ah]
    exact fin _ _ _ _ _ c5 (hl5▸rx) (by rw[er];exact ox) (λy hy=>by rw[er]at hy;exact yx y hy)
  have x5:(decide (23<=pat)&&decide (pat<=26)&&decide (i.op=15))=false:=by simpa[and_assoc]using p4
  refine df RZ (by simp[i0c,x5]) ?_
  by_cases p5:(27<=pat/\pat<=30)/\i.op=16
  · obtain⟨qr,po⟩:=p5
    refine dd RZ (by simp[i0c,po,qr.1,qr.2]) ?_
    obtain⟨k,hk⟩ : ∃k:Nat,pat-27=k:=⟨(pat-27).toNat,by omega⟩
    have ew:IntKind.i64.wrap (pat-27)=(k:Int):=by rw[bj R3 R3,hk]
    have mo:Ef i 26 27:=⟨by have a:=hex.one;have b:=hex.two;simp only[po]at a b ⊢;simp at a b ⊢;omega⟩
    have er:patS f i t pat=memS f i t i.op 26 27 k:=by
      have ek:k=(pat-27).toNat:=by omega
      rw[ek]
      clear hk ew ek
      have:pat=27\/pat=28\/pat=29\/pat=30:=by omega
      rcases this with rfl | rfl | rfl | rfl<;>(rw[mN ⟨R4,R4⟩ po,po];rfl)
    refine aa λw hw=>?_
    simp[Un.dq c3.wle huf,Un.dq c3.wle hui,ew]
    refine aj R1 (tt (way:=k) c3.wle ruf rui hsm hall hr mo R3 ht) ?_
    rintro u4 h4 ⟨hle4,x,rx,ox,yx⟩
    have c4:=c3.ext hle4
    refine c4.aK (k:=(0,0)) Own.ah rx rfl rfl R1 Sa Sa λh5 l5 hl5 c5=>?_
    subst hw
    simp[c5.all (k:=(0,0)) Own.ah]
    exact fin _ _ _ _ _ c5 (hl5▸rx) (by rw[er];exact ox) (λy hy=>by rw[er]at hy;exact yx y hy)
  have x6:(decide (27<=pat)&&decide (pat<=30)&&decide (i.op=16))=false:=by simpa[and_assoc]using p5
  refine df RZ (by simp[i0c,x6]) ?_
  by_cases p6:pat=31/\i.op=17
  · obtain⟨rfl,po⟩:=p6
    refine dd RZ (by simp[i0c,po]) ?_
    have er:patS f i t 31=Se ⟨i.args,[],[⟨28,i.dst,0,0,0,0,i.imm,i.args⟩],cC⟩:=by rw[mN ⟨R4,R4⟩ po];rfl
    refine aa λw hw=>?_
    simp[i1c,i3c,i4c]
    refine an (z:=.agg mz.toArray) (places:=nT) (vs:=[(0,Sb Sc 28),(1,Sb Sc i.dst),(6,Sb Sd i.imm.v),(7,.slice a5 n5 m5)]) (cs:=(mchV 28 i.dst 0 0 0 0 i.imm.v (.slice a5 n5 m5)).toArray) R1 R1 Sa R1 ?_
    have hm:Rd W2 (.agg (mchV 28 i.dst 0 0 0 0 i.imm.v (.slice a5 n5 m5)).toArray) (⟨28,i.dst,0,0,0,0,i.imm,i.args⟩:aH):=dY R9 r4 si
    refine c3.eF (α:=aH) (n:=1) (vs:=[.agg (mchV 28 i.dst 0 0 0 0 i.imm.v (.slice a5 n5 m5)).toArray]) (ds:=[(⟨28,i.dst,0,0,0,0,i.imm,i.args⟩:aH)]) El.dc Sa ⟨hm,trivial⟩ rfl R4 R4 λu8 h8 W8 hW8 c8 s8 hle8=>?_
    obtain⟨a8,n8,k8,rfl⟩:=eX s8
    refine an (z:=.agg bo.toArray) (places:=fitP) (vs:=[(0,.slice a5 n5 m5),(2,.slice a8 n8 k8),(4,.bool Sj)]) (cs:=(outV (.slice a5 n5 m5) (Sg Sf 0 0) (.slice a8 n8 k8) Sj).toArray) R1 R1 Sa R1 ?_
    have hr:Rd W8 (.agg (outV (.slice a5 n5 m5) (Sg Sf 0 0) (.slice a8 n8 k8) Sj).toArray) (⟨⟨i.args,[],[⟨28,i.dst,0,0,0,0,i.imm,i.args⟩],cC⟩,Sj⟩:FitR):=qU (si.mono hW8) aF s8
    refine c8.aK (k:=(0,0)) Own.ah hr rfl rfl R1 Sa Sa λh5 l5 hl5 c5=>?_
    subst hw
    simp[c5.all (k:=(0,0)) Own.ah]
    exact fin _ _ _ _ _ c5 (hl5▸hr) (by rw[er];rfl) (λy hy=>by rw[er]at hy;cases hy;rfl)
  have x7:=e1 31 17 p6
  refine df RZ (by simp[i0c,x7]) ?_
  by_cases p7:pat=32/\i.op=18
  · obtain⟨rfl,po⟩:=p7
    refine dd RZ (by simp[i0c,po]) ?_
    have er:patS f i t 32=Se ⟨i.args,[],[⟨29,i.dst,i.two,nth i.args 0,nth i.args 1,0,⟨0⟩,[]⟩],cC⟩:=by rw[mN ⟨R4,R4⟩ po];rfl
    have hl:=hex.two (.inr (.inr po))
    obtain⟨q0,d0,b0⟩:=at0 R3
    obtain⟨q9,d9,b9⟩:=at1 R3
    obtain⟨b01,b02⟩:=b0
    obtain⟨b91,b92⟩:=b9
    refine aa λw hw=>?_
    refine aI W2 c3.wle ?_
    simp[i1,i2,i3,q0,d0,q9,d9]
    refine an (z:=.agg mz.toArray) (places:=nT) (vs:=[(0,Sb Sc 29),(1,Sb Sc i.dst),(2,Sb Sc i.two),(3,Sb Sc (nth i.args 0)),(4,Sb Sc (nth i.args 1))]) (cs:=(mchV 29 i.dst i.two (nth i.args 0) (nth i.args 1) 0 0 (Sg Sf 0 0)).toArray) R1 R1 Sa R1 ?_
    have hm:Rd W2 (.agg (mchV 29 i.dst i.two (nth i.args 0) (nth i.args 1) 0 0 (Sg Sf 0 0)).toArray) (⟨29,i.dst,i.two,nth i.args 0,nth i.args 1,0,⟨0⟩,[]⟩:aH):=dY (imm:=⟨0⟩) R9 Sa aF
    refine⟨c3.wle,?_⟩
    refine c3.eF (α:=aH) (n:=1) (vs:=[.agg (mchV 29 i.dst i.two (nth i.args 0) (nth i.args 1) 0 0 (Sg Sf 0 0)).toArray]) (ds:=[(⟨29,i.dst,i.two,nth i.args 0,nth i.args 1,0,⟨0⟩,[]⟩:aH)]) El.dc Sa ⟨hm,trivial⟩ rfl R4 R4 λu8 h8 W8 hW8 c8 s8 hle8=>?_
    obtain⟨a8,n8,k8,rfl⟩:=eX s8
    refine⟨S3 c3.wle hle8,?_⟩
    refine an (z:=.agg bo.toArray) (places:=fitP) (vs:=[(0,.slice a5 n5 m5),(2,.slice a8 n8 k8),(4,.bool Sj)]) (cs:=(outV (.slice a5 n5 m5) (Sg Sf 0 0) (.slice a8 n8 k8) Sj).toArray) R1 R1 Sa R1 ?_
    have hr:Rd W8 (.agg (outV (.slice a5 n5 m5) (Sg Sf 0 0) (.slice a8 n8 k8) Sj).toArray) (⟨⟨i.args,[],[⟨29,i.dst,i.two,nth i.args 0,nth i.args 1,0,⟨0⟩,[]⟩],cC⟩,Sj⟩:FitR):=qU (si.mono hW8) aF s8
    refine c8.aK (k:=(0,0)) Own.ah hr rfl rfl R1 Sa Sa λh5 l5 hl5 c5=>?_
    subst hw
    simp[c5.all (k:=(0,0)) Own.ah]
    exact fin _ _ _ _ _ c5 (hl5▸hr) (by rw[er];rfl) (λy hy=>by rw[er]at hy;cases hy;rfl)
  have x8:=e1 32 18 p7
  refine df RZ (by simp[i0c,x8]) ?_
  have er:patS f i t pat=none:=by
    unfold patS
    rw[if_neg]
    rintro⟨g1,g2,g3⟩
    have:pat=1\/pat=2\/pat=22\/(23<=pat/\pat<=26)\/(27<=pat/\pat<=30)\/pat=31\/pat=32:=by omega
    rcases this with rfl | rfl | rfl | hh | hh | rfl | rfl
    · exact p1 ⟨rfl,g3⟩
    · exact p2 ⟨rfl,g3⟩
    · exact p3 ⟨rfl,g3⟩
    · refine p4 ⟨hh,?_⟩
      rw[g3];unfold opOf
      rw[if_neg R3,if_neg R3,if_neg R3,if_neg R3,if_neg R3,if_neg R3,if_pos R3]
    · refine p5 ⟨hh,?_⟩
      rw[g3];unfold opOf
      rw[if_neg R3,if_neg R3,if_neg R3,if_neg R3,if_neg R3,if_neg R3,if_neg R3,if_pos R3]
    · exact p6 ⟨rfl,g3⟩
    · exact p7 ⟨rfl,g3⟩
  simp
  subst hz
  simp
  refine an (z:=.agg bo.toArray) (places:=fitP) (vs:=[]) (cs:=bo.toArray) R1 R1 Sa R1 ?_
  have hr:Rd W2 (.agg bo.toArray) (⟨nJ,Sk⟩:FitR):=ir
  refine c3.aK (k:=(0,0)) Own.ah hr rfl rfl R1 Sa Sa λh5 l5 hl5 c5=>?_
  simp[c5.all (k:=(0,0)) Own.ah]
  exact fin _ _ _ _ _ c5 (hl5▸hr) (by rw[er];rfl) (λy hy=>by rw[er]at hy;cases hy)
def lY:Option FitD->FitR
 | some y=>⟨y,Sj⟩
 | none=>⟨nJ,Sk⟩
theorem FC{H:View}{l:List Value}{x:FitR}(h:Rd H (.agg l.toArray) x):l.getD 8 undef = .bool x.ok/\l.length=9:=by have h:=uk (α:=FitR) rfl h;obtain⟨c1,c2,e,h1,h2⟩:=h;have hl:=Rep.len h1;have e2:c2=[.bool x.ok]:=h2;subst e2;simp at e;rw[e];have hl:c1.length=8:=hl;refine⟨?_,by simp[hl]⟩;rw[Qi,RF R3,hl];rfl
set_option maxHeartbeats 2000000 in
theorem Io{f:aq}{v:Value}{b p t:Int}{h:Heap}{W:View}(hW:W.le (vw h))(hv:Rd W v f)(m:nY f)(hsm:SmF f)(hp:I64 pat)(ht:I64 t):
  aA Sn 37 #[v,Sb Sc b,Sb Sc p,Sb Sc pat,Sb Sc t] h (λu h'=>(vw h).le (vw h')/\Rd (grow W h h') u (lY (fitS f b p pat t))):=by
 refine au (args:=[v,Sb Sc b,Sb Sc p,Sb Sc pat,Sb Sc t]) follows Tryz.func37 E.tx S0 λK hK=>?_;dsimp only[L.tx,lkF,lkG];have hr:=xa hv;have hall:=xo m hsm;have hex:=Jy m;have c0:=Cx.start hW;refine aa λz hz=>?_;simp;refine c0.cr rfl hv λF1 h1 W1 hW1 c1 hat1 hle1=>?_;refine c1.bW (k:=(0,0)) (n:=8) (z:=.agg bo.toArray) rfl R1 rfl R4 R8 λR h3 hle3 c3=>?_;subst hz;obtain⟨uf,huf,ruf⟩:=hat1.ldN rfl (N:=2) rfl;obtain⟨vb,kb,sb⟩:=(hat1.part aq.oV).sl;have kb:ao W1 ⟨F1,1,Sf⟩=Se vb:=by simpa using kb
 have kbc:=ae c3.wle kb;have bdb:=sb.bound;have zero : ∀(W':View) (h9:Heap) (o:Own),Cx W h W' h9 o->o (0,0)=bx T.aJ R (RawN.mk (n:=8) bo)->fitS f b p pat t=Sf->∀(po po2:OP) (ty:TypeId) (us:List (Nat × Value)) (us2:Value->List (Nat × Value)) (x y:Operand) (K2:Heap->Prop),(∀u,asg (us2 u) x=ptr R)->(∀u,asg (us2 u) y=u)->
   (∀h' l',Cx W h W' h' (o.upd (0,0) (bx T.aJ R (RawN.mk (n:=8) l')))->K (.agg l'.toArray) h'->K2 h')->
   @Lft.step po Sn (.build T.aJ #[]) ty us h9 λu h'=>@Lft.step po2 Sn (.store T.aJ x y) 0 (us2 u) h' λ_ h2=>K2 h2:=by intro W' h9 o c ho er po po2 ty us us2 x y K2 hx hy hk;refine an (z:=.agg bo.toArray) (places:=fitP) (vs:=[]) (cs:=bo.toArray) R1 R1 Sa R1 ?_;have hr:Rd W' (.agg bo.toArray) (⟨nJ,Sk⟩:FitR):=ir;refine c.aK (k:=(0,0)) ho hr rfl rfl R1 (hx _) (hy _) λh5 l5 hl5 c5=>?_;refine hk h5 l5 c5 (hK _ _ ⟨c5.le0,?_⟩);rw[er,<-hl5];exact hr.mono c5.fin
 refine aa λz hz=>?_;cases hpl:dG f b p with
 | false=>
  have er:fitS f b p pat t=none:=by unfold fitS;rw[hpl];rfl
  have hv : ∃e:Bool,e=Sj/\True:=⟨Sj,rfl,trivial⟩;clear hv;have hcase:b<0\/(0<=b/\(f.blocks.length:Int)<=b)\/(0<=b/\b<f.blocks.length/\p<0)\/(0<=b/\b<f.blocks.length/\0<=p/\((nth f.blocks b.toNat).ins.length:Int)<p):=by simp[dG]at hpl;omega
  refine dd RZ ?_ ?_
  ·rcases hcase with h0 | ⟨h0,h1⟩ | ⟨h0,h1,h2⟩ | ⟨h0,h1,h2,h3⟩
   ·simp[h0]
   ·have:¬b<0:=by omega
    simp[this,kbc,sb.len,h1]
   ·have h0':¬b<0:=by omega
    have h1':¬(f.blocks.length:Int)<=b:=by omega
    simp[h0',kbc,sb.len,h1',h2]
   have h0':¬b<0:=by omega
   have h1':¬(f.blocks.length:Int)<=b:=by omega
   have h2':¬p<0:=by omega
   have hatb:=sb.at (i:=b.toNat) R3;rw[<-aB R3]at hatb;obtain⟨vi,ci,si⟩:=(hatb.part BlkD.jB).sl;have n6:Rep.n BlkD=6:=rfl;rw[n6]at ci;have q:=sb.idxn (k:=.i64) (N:=6) rfl (i:=b) R3 R3;simp[h0',kbc,sb.len,h1',h2',q,ae c3.wle ci,si.len,h3]
  simp;exact zero W1 h3 _ c3 Own.ah er _ _ _ _ (λu=>[(10,ptr R),(37,u)]) _ _ _ R5 R5 λh' l' c' hk=>by simp[c'.all (k:=(0,0)) Own.ah];exact hk
 | true=>
  have hpl2:=hpl;simp[dG]at hpl2;obtain⟨⟨⟨g1,g2⟩,g3⟩,g4⟩:=hpl2;have h0':¬b<0:=by omega
  have h1':¬(f.blocks.length:Int)<=b:=by omega
  have h2':¬p<0:=by omega
  have h3':¬((nth f.blocks b.toNat).ins.length:Int)<p:=by omega
  have hatb:=sb.at (i:=b.toNat) R3;rw[<-aB R3]at hatb;obtain⟨ub,hub,rub⟩:=hatb.ldN rfl (N:=6) rfl;obtain⟨vi,ci,si⟩:=(hatb.part BlkD.jB).sl;have n6:Rep.n BlkD=6:=rfl;rw[n6]at ci hub;have q:=sb.idxn (k:=.i64) (N:=6) rfl (i:=b) R3 R3;refine df RZ ?_ ?_
  ·simp[h0',kbc,sb.len,h1',h2',q,ae c3.wle ci,si.len,h3']
  simp;subst hz;refine aa λz hz=>?_;simp[kbc,q,hub _ c3.wle];refine c3.dE (α:=BlkD) rub (n:=6) (z:=.agg #[Sg Sf 0 0,Sg Sf 0 0,Sb Sc 0,Sg Sf 0 0,Sg Sf 0 0,Sb Sd 0]) R1 rfl rfl R1 R5 R5 λB1 h4 W4 hW4 c4 hat4 hle4=>?_;subst hz;refine aa λz hz=>?_;simp;refine an (z:=.agg bo.toArray) (places:=fitP) (vs:=[]) (cs:=bo.toArray) R1 R1 Sa R1 ?_;refine c4.bW (k:=(0,1)) (n:=8) (z:=.agg bo.toArray) RZ R1 rfl R4 R8 λOB h5 hle5 c5=>?_;refine c5.iS (k:=(0,1)) (n:=8) (l':=bo) RZ R1 Sa Sa rfl R7 λh6 c6=>?_;subst hz;refine aa λz hz=>?_;have hbl:b.toNat<f.blocks.length:=by omega
  have htk:=Bb m hsm hbl;have hins : ∀k:Nat,k<(nth f.blocks b.toNat).ins.length->nth (nth f.blocks b.toNat).ins k∈dV f:=λk hk=>gZ.2 ⟨_,_,hbl,hk,rfl⟩;have hfit:fitS f b p pat t=tryS (eS f b p t) pat:=by unfold fitS;rw[hpl];rfl
  have hsite:eS f b p t=if p=(nth f.blocks b.toNat).ins.length then⟨f,eZ,(nth f.blocks b.toNat).term,Sj,t⟩ else⟨f,nth (nth f.blocks b.toNat).ins p.toNat,pw,Sk,t⟩:=rfl;generalize nth f.blocks b.toNat=bk at hat4 rub htk hins hfit hsite g4;obtain⟨-,vi4,-,-,-,⟨k1,s1⟩,-⟩:=jr hat4;have k1c:=ae c6.wle k1;obtain⟨ut,hut,rut⟩:=(hat4.part BlkD.nE).ldN rfl (N:=4) rfl;have rest : ∀(W7:View) (h7:Heap) (ρ:Env) (u:Value) (x:FitR) (po:OP) (us:List (Nat × Value)) (y2 y3:Operand),W4.le W7->Cx W h W7 h7 (Own.upd (Own.upd (Own.upd (λ_=>Sf) (0,0) (bx T.aJ R (RawN.mk (n:=8) bo))) (0,1) (bx T.aJ OB (RawN.mk (n:=8) bo))) (0,1) (bx T.aJ OB (RawN.mk (n:=8) bo)))->
    Rd W7 u x->x.ok=(fitS f b p pat t).isSome->(∀y,fitS f b p pat t=Se y->x.fit=y)->asg us y2=ptr OB->asg us y3=u->Slk ρ [(10,ptr R),(12,ptr OB)]->
    @Lft.step po Sn (.store T.aJ y2 y3) 0 us h7 λ_ h'=>LC.wp Sn z (cz [.un (.aT 9) (.tmp 10)] K) ρ h':=by
   intro W7 h7 ρ u x po us y2 y3 hW7 c7 rx ox yx e2 e3 hL;refine c7.aK (k:=(0,1)) (n:=8) (l:=bo) RZ rx rfl rfl R1 e2 e3 λh8 l8 hl8 c8=>?_;subst hl8;obtain⟨hok8,hl8⟩:=FC rx;subst hz;have g:=hL;simp only[bs,bV,and_true]at g;obtain⟨g10,g12⟩:=g;have hcell:=c8.own.raw (k:=(0,1)) (n:=8) (e:=T.aJ) (B:=OB) (l:=l8) Own.ah (i:=8) R4;rw[hok8]at hcell;refine aa λz hz=>?_;cases hx:x.ok with
   | false=>
    have er:fitS f b p pat t=none:=by
     rw[hx]at ox;cases hh:fitS f b p pat t with
     | none=>rfl
     | some y=>rw[hh]at ox;cases ox
    refine dt _ Sj hL RZ (by simp[g12,hcell,hx]) λρ2 hL2=>?_;simp only[cond_true];simp only[bs,bV,and_true]at hL2;obtain⟨m10,m12⟩:=hL2;simp[m10,af,ag];exact zero W7 h8 _ c8 RZ er _ _ _ _ (λu=>[(10,ptr R),(66,u)]) _ _ _ R5 R5 λh' l' c' hk=>by simp[m10,af,ag,c'.all (k:=(0,0)) Own.ah];exact hk
   | true=>
    refine dt _ Sk hL RZ (by simp[g12,hcell,hx]) λρ2 hL2=>?_;simp only[cond_false];simp only[bs,bV,and_true]at hL2;obtain⟨m10,m12⟩:=hL2;simp;subst hz;have hall:=c8.all (k:=(0,1)) (n:=8) (B:=OB) (e:=T.aJ) (l:=l8) Own.ah;simp at hall;simp[m10,m12,af,ag,hall];refine c8.aK (k:=(0,0)) (n:=8) (l:=bo) RZ rx rfl rfl R1 Sa Sa λh13 l13 hl13 c13=>?_;have hall2:=c13.all (k:=(0,0)) (n:=8) (l:=l13) (B:=R) (e:=T.aJ) Own.ah;simp at hall2;simp[m10,af,ag,hall2];refine hK _ _ ⟨c13.le0,?_⟩;obtain⟨y,hy⟩ : ∃y,fitS f b p pat t=Se y:=P1.1 (by rw[<-ox,hx]);have:x=lY (fitS f b p pat t):=by rw[hy];show x=⟨y,Sj⟩;have h1:=yx y hy;cases x;simp_all
    rw[<-this,<-hl13];exact rx.mono c13.fin
  clear hz;have hW14:=S3 hW4 (View.le_refl W4);by_cases hend:p=bk.ins.length
  ·refine dd RZ (by simp[k1c,s1.len,hend]) ?_;have huf6:=huf _ (S3 hW4 c6.wle);have hut6:=hut _ c6.wle;have n4:Rep.n cK=4:=rfl;simp at hut6;simp[huf6,hut6];refine aj R1 (D9 c6.wle (ruf.mono hW4) rut hsm hall htk hp) ?_;rintro u7 h7 ⟨hle7,x,rx,ox,yx⟩;have er:fitS f b p pat t=eA f bk.term pat:=by rw[hfit,hsite,if_pos hend];rfl
   refine rest _ h7 _ u7 x _ _ _ _ c6.up (c6.ext hle7) rx (by rw[er];exact ox) (by rw[er];exact yx) Sa Sa ?_;simp[bs,bV,Lft.look]
  refine df RZ (by simp[k1c,s1.len,hend]) ?_;have hpi:p.toNat<bk.ins.length:=by omega
  have hati:=s1.at hpi;rw[<-aB hpi]at hati;obtain⟨ui,hui,rui⟩:=hati.ldN rfl (N:=5) rfl;have n5:Rep.n InsD=5:=rfl;rw[n5]at hui;have q1:=s1.idxn (k:=.i64) (N:=5) rfl (i:=p) R3 R3;have huf6:=huf W4 hW4;refine aI W4 c6.wle ?_;simp[huf6,k1,q1,hui W4 S2];refine aj R1 (Ck c6.wle (ruf.mono hW4) rui hsm hall (hex _ (hins _ hpi)) hr hp ht) ?_;rintro u7 h7 ⟨hle7,x,rx,ox,yx⟩;have er:fitS f b p pat t=patS f (nth bk.ins p.toNat) t pat:=by rw[hfit,hsite,if_neg hend];rfl
  refine rest _ h7 _ u7 x _ _ _ _ c6.up (c6.ext hle7) rx (by rw[er];exact ox) (by rw[er];exact yx) Sa Sa ?_;simp[bs,bV,Lft.look]
theorem Bt{f:aq}{v:Value}{b p t:Int}{h:Heap}{W:View}(hW:W.le (vw h))(hv:Rd W v f)(hsm:SmF f)(hp:I64 pat)(ht:I64 t):
  aA Sn 14 #[v,Sb Sc b,Sb Sc p,Sb Sc pat,Sb Sc t] h (λu h'=>(vw h).le (vw h')/\Rd (grow W h h') u (lY (ed f b p pat t))):=by
 refine au (args:=[v,Sb Sc b,Sb Sc p,Sb Sc pat,Sb Sc t]) follows Tryz.func14 E.oq S0 λK hK=>?_;dsimp only[L.oq,lkF,lkG];have c0:=Cx.start hW;refine aa λz hz=>?_;simp;refine c0.cr rfl hv λF1 h1 W1 hW1 c1 hat1 hle1=>?_;refine c1.bW (k:=(0,0)) (n:=8) (z:=.agg bo.toArray) rfl R1 rfl R4 R8 λR h3 hle3 c3=>?_;subst hz;obtain⟨uf,huf,ruf⟩:=hat1.ldN rfl (N:=2) rfl;refine aa λz hz=>?_;refine aa λy hy=>?_;simp[huf _ c3.wle];refine aj R1 (CN c3.wle ruf hsm) ?_;rintro _ h4 ⟨hle4,rfl⟩;have c4:=c3.ext hle4;simp;subst hy;cases hr:mf f with
 | false=>
  have er:ed f b p pat t=none:=by unfold ed;rw[hr];simp
  simp;refine an (z:=.agg bo.toArray) (places:=fitP) (vs:=[]) (cs:=bo.toArray) R1 R1 Sa R1 ?_;have hr:Rd W1 (.agg bo.toArray) (⟨nJ,Sk⟩:FitR):=ir;refine c4.aK (k:=(0,0)) Own.ah (hr.mono c3.up) rfl rfl R1 Sa Sa λh5 l5 hl5 c5=>?_;simp[c5.all (k:=(0,0)) Own.ah];refine hK _ _ ⟨c5.le0,?_⟩;rw[er,<-hl5];exact(hr.mono c3.up).mono c5.fin
 | true=>
  have er:ed f b p pat t=fitS f b p pat t:=by unfold ed fitS;rw[hr,Bool.and_true]
  simp;subst hz;refine aa λz hz=>?_;simp[huf _ (S3 c3.up c4.wle)];refine aj R1 (Io (b:=b) (p:=p) c4.wle (ruf.mono c3.up) (pf hr) hsm hp ht) ?_;rintro u5 h5 ⟨hle5,rx⟩;have c5:=c4.ext hle5;refine c5.aK (k:=(0,0)) Own.ah rx rfl rfl R1 Sa Sa λh6 l6 hl6 c6=>?_;subst hz;simp[c6.all (k:=(0,0)) Own.ah];refine hK _ _ ⟨c6.le0,?_⟩;rw[er,<-hl6];exact rx.mono c6.fin
section
variable {f:aq} {i:InsD} {b p pat t t':Int}
def tkIn (r:Option FitD):Option (List Int × List Int):=r.map λx=>(x.takes,x.inner)
theorem IA:tkIn (ed f b p pat t)=tkIn (ed f b p pat t'):=by
 by_cases h1:pat=26
 ·subst h1;unfold ed tryS eS;split
  ·split
   ·rfl
   dsimp only;rw[if_neg Sa,if_neg Sa,EE,EE];split<;>rfl
  rfl
 by_cases h2:pat=30
 ·subst h2;unfold ed tryS eS;split
  ·split
   ·rfl
   dsimp only;rw[if_neg Sa,if_neg Sa,ET,ET];split<;>rfl
  rfl
 rw[D1 (t':=t') h1 h2]
theorem F3:(e9 f b p pat).isSome=((lY (ed f b p pat t)).ok&&decide (0<pat))/\
  ((e9 f b p pat).isSome=Sj->uy (e9 f b p pat)=(lY (ed f b p pat t)).fit.takes/\tI (e9 f b p pat)=(lY (ed f b p pat t)).fit.inner):=by
 have h:=IA (f:=f) (b:=b) (p:=p) (pat:=pat) (t:=0) (t':=t);unfold e9;by_cases hp:1<=pat
 ·have:0<pat:=by omega
  rw[if_pos hp];cases h1:ed f b p pat 0 with
  | none=>
   cases h2:ed f b p pat t with
   | none=>simp[lY]
   | some y=>rw[h1,h2]at h;cases h
  | some x=>
   cases h2:ed f b p pat t with
   | none=>rw[h1,h2]at h;cases h
   | some y=>rw[h1,h2]at h;simp only[tkIn,Option.map_some,N7,PW]at h;simp[lY,this,uy,tI,h.1,h.2]
 have:¬0<pat:=by omega
 rw[if_neg hp];simp[this]
theorem IJ:(ed f b p pat t).isSome=(lY (ed f b p pat t)).ok/\DT (ed f b p pat t)=(lY (ed f b p pat t)).fit.code/\GC (ed f b p pat t)=(lY (ed f b p pat t)).fit.fin:=by cases ed f b p pat t<;>exact⟨rfl,rfl,rfl⟩
theorem Kf(h:(e9 f b p pat).isSome=Sk):uy (e9 f b p pat)=[]/\tI (e9 f b p pat)=[]:=by
 cases e:e9 f b p pat with
 | none=>exact⟨rfl,rfl⟩
 | some x=>rw[e]at h;cases h
end
theorem JJ{H:View}{B:Nat}{x:FitR}(h:At H ⟨B,0,Sf⟩ x): ∃v0 v1 v2,(ao H ⟨B,0,Sf⟩=Se v0/\SlRd H v0 x.fit.takes)/\(ao H ⟨B,1,Sf⟩=Se v1/\SlRd H v1 x.fit.inner)/\(ao H ⟨B,2,Sf⟩=Se v2/\SlRd H v2 x.fit.code)/\ao H ⟨B,8,Sf⟩=Se (.bool x.ok)/\
  ∃u,(∀K:View,H.le K->Un.ev K (.aT 5) (Si (Se ⟨B,3,Sf⟩))=Se u)/\Rd H u x.fit.fin:=by have hf:=h.part FitR.MK;obtain⟨v0,h0⟩:=(hf.part FitD.Am).sl;obtain⟨v1,h1⟩:=(hf.part FitD.E3).sl;obtain⟨v2,h2⟩:=(hf.part FitD.HR).sl;obtain⟨u,hu,ru⟩:=(hf.part FitD.KQ).ldN rfl (N:=5) rfl;have hk:=h.part FitR.NB;refine⟨v0,v1,v2,show Sl H ⟨B,0,Sf⟩ v0 x.fit.takes by simpa using h0,show Sl H ⟨B,1,Sf⟩ v1 x.fit.inner by simpa using h1,show Sl H ⟨B,2,Sf⟩ v2 x.fit.code by simpa using h2,?_,u,by simpa using hu,ru⟩;obtain⟨cs,hc,e⟩:=hk;have e:cs=[.bool x.ok]:=e;subst e;simpa using gw hc (i:=0) rfl
set_option maxHeartbeats 4000000 in
theorem yJ{s:List Int}{q:Q3}{t:Int}{v vq:Value}{h:Heap}(ht:Tab h)(hM:nc)(hs:SlRd (vw h) v s)(hq:Rd (vw h) vq q)(hti:I64 t):
  aA Sn 3 #[v,vq,Sb Sc t] h (λu h'=>u = .bool Sj/\(vw h).le (vw h')):=by
 refine au (args:=[v,vq,Sb Sc t]) follows Tryz.func3 E.aZ S0 λK hK=>?_;dsimp only[L.aZ,lkF,lkG];have c0:=Cx.start (h:=h) (View.le_refl (vw h));refine aa λz hz=>?_;simp;refine c0.cr rfl hq λA h1 W1 hW1 c1 at1 hle1=>?_;subst hz;refine aa λz hz=>?_;simp;refine aj R1 (FU (ht.mono c1.le0)) ?_;rintro _ h2 ⟨hle2,rfl⟩;have l02:=S3 c1.le0 hle2;have v2:=S3 c1.wle hle2;obtain⟨uq,huq,hqr⟩:=at1.ldN rfl (N:=3) rfl;obtain⟨rfl,i0,i1,i2⟩:=JT hqr;have huq:=huq _ v2;have sl:=hs.mono l02;subst hz;refine aa λz hz=>?_;have rest : ∀(h9:Heap) (B:Nat) (f:aq) (ρ:Env),(vw h2).le (vw h9)->At (vw h9) ⟨B,0,Sf⟩ f->SmF f->Lft.look ρ 2=Se (Sb Sc t)->Lft.look ρ 7=Se (.bool Sj)->Lft.look ρ 8=Se (ptr B)->LC.wp Sn z (cz [.tmp 6] K) ρ h9:=by
  intro h9 B f ρ hle9 hat hsm g2 g7 g8;obtain⟨uf,huf,ruf⟩:=hat.ldN rfl (N:=2) rfl;have ht9:=ht.mono (S3 l02 hle9);obtain⟨vb,kb,sb⟩:=(hat.part aq.oV).sl;have kb:ao (vw h9) ⟨B,1,Sf⟩=Se vb:=by simpa using kb
  have bdb:=sb.bound;rw[hz];clear hz;refine aa λz1 hz1=>?_;simp[g2,g7,g8,af,ag];refine bZ [2,7,8,9] (fun(_:Unit) k=>[Sb Sc t,.bool Sj,ptr B,Sb Sc k]) (λ_ k h10=>(vw h9).le (vw h10)) f.blocks.length ()
   rfl R3 (by simp[bD,g2,g7,g8,af,ag]) S2 (λ_ _=>rfl) (λv k h1 hk m=>by simp[ae m kb,sb.len]) ?_ ?_
  ·rintro _ b h10 hb hle10 K2 hK2;have hatb:=sb.at hb;rw[<-aB hb]at hatb;obtain⟨vi,ci,si⟩:=(hatb.part BlkD.jB).sl;have n6:Rep.n BlkD=6:=rfl;rw[n6]at ci;have qb:=sb.idxn (k:=.i64) (N:=6) rfl (i:=(b:Int)) R3 R3;simp at qb;have bdi:=si.bound;refine aa λy hy=>?_;simp;subst hy;refine xP [2,7,8,9,10] (fun(_:Unit) k=>[Sb Sc t,.bool Sj,ptr B,Sb Sc b,Sb Sc k]) (λ_ k h11=>(vw h9).le (vw h11)) (min ((nth f.blocks b).ins.length+1) 12) ()
    rfl R3 rfl hle10 (λ_ _=>rfl) (λv k h1 hk m=>?_) ?_ ?_
   ·simp[ae m kb,qb,ae m ci,si.len];rw[<-Bool.decide_and];exact decide_eq_decide.2 R3
   ·rintro _ p h11 hpl hle11 K3 hK3;simp;refine xP [2,7,8,9,10,11] (fun(_:Unit) k=>[Sb Sc t,.bool Sj,ptr B,Sb Sc b,Sb Sc p,Sb Sc k]) (λ_ k h12=>(vw h9).le (vw h12)) 39 ()
     rfl R3 rfl hle11 (λ_ _=>rfl) (λv k h1 hk m=>?_) ?_ ?_
    ·have e:decide ((k:Int)<=38)=decide (k<39):=decide_eq_decide.2 R3;simp[e]
    ·rintro _ pt h12 hpt hle12 K4 hK4;have hI:I64 (pt:Int):=R6;refine aa λy hy=>?_;simp[huf _ hle12];refine aj R1 (Bt (b:=b) (p:=p) S2 (ruf.mono hle12) hsm hI hti) ?_;rintro u13 h13 ⟨hle13,r13⟩;have r13:=r13.mono (jl hle13);refine dB (X:=vw h13) (z:=.agg bo.toArray) R1 rfl R1 r13 R5 R5 λh14 hle14 _ at14=>?_;have at14:=at14 (vw h14) hle14 rfl;generalize h13.size=X at at14;have le14:=S3 hle12 (S3 hle13 hle14);subst hy;refine aa λy hy=>?_;simp[huf _ le14];refine aj R1 (BX (b:=b) (p:=p) (W:=vw h14) S2 (ruf.mono le14) hsm (λ_ _ _=>hM) hI) ?_;rintro _ h15 ⟨hle15,v1,v3,rfl,s1,s3⟩;have le15:=S3 le14 hle15;simp;subst hy;refine aa λy hy=>?_;simp[huf _ le15];refine aj R1 (Ey (b:=b) (p:=p) (W:=vw h15) S2 (ruf.mono le15) hsm (λ_ _ _=>hM) hI hti) ?_;rintro _ h16 ⟨hle16,v4,v5,rfl,s4,r5⟩;simp;refine dB (X:=vw h16) (z:=.agg endZ.toArray) R1 rfl R1 r5 R5 R5 λh17 hle17 _ at17=>?_;have at17:=at17 (vw h17) hle17 rfl;generalize h16.size=Y at at17;have le17:=S3 le15 (S3 hle16 hle17);have at14:=at14.mono (S3 hle15 (S3 hle16 hle17));have s1:=s1.mono (S3 hle16 hle17);have s3:=s3.mono (S3 hle16 hle17);have s4:=s4.mono hle17;obtain⟨e1,e2⟩:=F3 (f:=f) (b:=b) (p:=p) (pat:=pt) (t:=t);obtain⟨e3,e4,e5⟩:=IJ (f:=f) (b:=b) (p:=p) (pat:=pt) (t:=t);have e6:=Kf (f:=f) (b:=b) (p:=p) (pat:=pt);rw[e4]at s4;rw[e5]at at17;rw[e1]at e2 e6;rw[e1,e3];generalize lY (ed f b p pt t)=x at *;generalize e9 f b p pt=mt at *;clear e1 e3 e4 e5;obtain⟨w0,w1,w2,⟨k0,t0⟩,⟨k1,t1⟩,⟨k2,t2⟩,k8,ue,hue,rue⟩:=JJ at14;obtain⟨n1,hn1,rn1⟩:=at17.ldN rfl (N:=5) rfl;subst hy;refine aa λy hy=>?_;refine aa λw hw=>?_;have len1:=s1.len (K:=vw h17);have len3:=s3.len (K:=vw h17);obtain⟨okb,hokb⟩ : ∃okb,okb=(x.ok&&decide (0<(pt:Int))):=⟨_,rfl⟩;rw[<-hokb]at e2 e6 ⊢;generalize hc:(E.ite (E.bin (Bn.eqB Sj) (E.tmp 15) _) (E.con (Value.bool Sj)) (E.bin (Bn.eqB Sj) (E.tmp 18) _))=c;have hcv : ∀ρ:Nat->Option Value,ρ 11=Se (Sb Sc pt)->ρ 12=Se (ptr X)->ρ 15=Se (.bool okb)->ρ 18=Se (.bool x.ok)->ev ρ (vw h17) c=Se (.bool Sk):=λρ r1 r2 r3 r4=>by
      rw[<-hc];rw[hokb]at r3;cases hx:x.ok with
      | false=>rw[hx]at r3 r4 k8;simp[r1,r2,r3,r4,k8]
      | true=>rw[hx]at r3 r4 k8;simp[r1,r2,r3,r4,k8]
     simp[hcv,k2];refine aj R1 (wU (W:=vw h17) S2 s4 t2) ?_;rintro _ h18 ⟨rfl,hle18⟩;simp[hn1 _ hle18,hue _ hle18];refine aj R1 (DH (W:=vw h17) hle18 rn1 rue) ?_;rintro _ h19 ⟨rfl,hle19⟩;rw[DW];have le19:=S3 le17 (S3 hle18 hle19);have q19:=S3 hle18 hle19;simp;subst hw;simp;subst hy;refine aa λw hw=>?_;cases okb with
     | true=>obtain⟨e7,e8⟩:=e2 rfl;simp[ae q19 k0];refine aj R1 (uD (s1.mono q19) (t0.mono q19)) ?_;rintro _ h20 ⟨rfl,rfl⟩;simp[e7,ae q19 k1];refine aj R1 (uD (s3.mono q19) (t1.mono q19)) ?_;rintro _ h20 ⟨rfl,rfl⟩;simp[e8];subst hw;simp;exact hK4 () _ _ rfl rfl le19
     | false=>obtain⟨e7,e8⟩:=e6 rfl;rw[e7]at s1;rw[e8]at s3;have l1 : ∀K:View,Un.ev K .len v1=Se (Sb Sc 0):=λK=>s1.len (K:=K);have l3 : ∀K:View,Un.ev K .len v3=Se (Sb Sc 0):=λK=>s3.len (K:=K);simp[l1,l3];subst hw;simp;exact hK4 () _ _ rfl rfl le19
    rintro _ h12 hle12;simp;exact hK3 () _ _ rfl rfl hle12
   rintro _ h11 hle11;simp;exact hK2 () _ _ rfl rfl hle11
  rintro _ h10 hle10;simp;rw[hz1];clear hz1 z1;simp;exact hK _ _ ⟨rfl,S3 l02 (S3 hle9 hle10)⟩
 have tfm:=JR (s:=s.take 200);have rd0 : ∀W:View,Rd W (.agg #[Sb Sc 0,Sg Sf 0 0]) (⟨0,[]⟩:aq):=λW=>yb ⟨R4,R4⟩ aF;have fin : ∀(W:View) (h6:Heap) (o:Own) (B:Nat) (D:aq) (u:Value) (f:aq) (po:OP) (us:List (Nat × Value)) (ρ:Env),(vw h2).le W->Owns W h6 o->o (20,0)=bx T.bY B D->Rd W u f->TF 1001 f->asg us (.tmp 8)=ptr B->asg us (.tmp 23)=u->Lft.look ρ 2=Se (Sb Sc t)->Lft.look ρ 7=Se (.bool Sj)->Lft.look ρ 8=Se (ptr B)->
   @Lft.step po Sn (Op.store 27 (Operand.tmp 8) (Operand.tmp 23)) 0 us h6 λ_ h'=>LC.wp Sn z (cz [.tmp 6] K) ρ h':=λW h6 o B D u f po us ρ hW w ho hr tf e1 e2 g2 g7 g8=>by refine w.oZ Part.all (k:=(20,0)) (D:=D) (d:=f) ho R1 e1 e2 hr λh7 w7 hX=>?_;obtain⟨W8,hW8,w8,hat⟩:=w7.mT (k:=(20,0)) (B:=B) (d:=f) Own.ah;exact rest h7 B f ρ (S3 hW (S3 hW8 w8.wle)) (hat.mono w8.wle) (tf.sm R3) g2 g7 g8
 clear rest;have o20 : ∀(B:Nat) (D:aq) (k:Key),k.1<10->(Own.upd (λ_=>Sf) (20,0) (bx T.bY B D)) k=none:=λB D k hk=>Own.ak (by rintro rfl;simp at hk);have w2:=Owns.start (h:=h2) (View.le_refl (vw h2));refine aI (vw h2) S2 ?_;refine dT ?_ ?_
 ·refine ay λy hy=>?_;simp[huq];refine aj R1 (zT w2 (λ_ _=>rfl) rfl sl) ?_;rintro u3 h3 ⟨W3,hW3,w3,r3⟩;refine⟨S3 hW3 w3.wle,?_⟩;subst hy;refine dT ?_ ?_
  ·refine ay λy hy=>?_;simp;refine aj R1 (vD w3 (λ_ _=>rfl) r3 tfm R3 i0 i1 i2) ?_;rintro u4 h4 ⟨W4,f,hW4,w4,tf,r4⟩;subst hy;refine ay λy hy=>?_;simp;refine w4.uU (k:=(20,0)) (z:=.agg #[Sb Sc 0,Sg Sf 0 0]) (d:=(⟨0,[]⟩:aq)) rfl R1 (rd0 _) R4 λB h5 hle5 w5=>?_;subst hy;refine ay λy hy=>?_;subst hy;simp;exact fin _ _ _ B _ u4 f _ _ _ (S3 hW3 hW4) w5 Own.ah r4 tf rfl rfl rfl rfl rfl
  refine ay λy hy=>?_;simp;refine w3.uU (k:=(20,0)) (z:=.agg #[Sb Sc 0,Sg Sf 0 0]) (d:=(⟨0,[]⟩:aq)) rfl R1 (rd0 _) R4 λB h4 hle4 w4=>?_;refine⟨S3 hW3 w4.wle,?_⟩;subst hy;refine ay λy hy=>?_;simp;refine aj R1 (vD w4 (o20 B _) r3 tfm R3 i0 i1 i2) ?_;rintro u4 h5 ⟨W5,f,hW5,w5,tf,r4⟩;subst hy;refine ay λy hy=>?_;subst hy;simp;exact fin _ _ _ B _ u4 f _ _ _ (S3 hW3 hW5) w5 Own.ah r4 tf rfl rfl rfl rfl rfl
 refine ay λy hy=>?_;simp[huq];refine w2.uU (k:=(20,0)) (z:=.agg #[Sb Sc 0,Sg Sf 0 0]) (d:=(⟨0,[]⟩:aq)) rfl R1 (rd0 _) R4 λB h3 hle3 w3=>?_;refine⟨hle3,?_⟩;subst hy;refine ay λy hy=>?_;simp;refine aj R1 (zT w3 (o20 B _) (Own.ak Sa) sl) ?_;rintro u4 h4 ⟨W4,hW4,w4,r4⟩;refine⟨S3 hW4 w4.wle,?_⟩;subst hy;refine ay λy hy=>?_;simp;refine aj R1 (vD w4 (o20 B _) r4 tfm R3 i0 i1 i2) ?_;rintro u5 h5 ⟨W5,f,hW5,w5,tf,r5⟩;subst hy;refine ay λy hy=>?_;subst hy;simp;exact fin _ _ _ B _ u5 f _ _ _ (S3 hW4 hW5) w5 Own.ah r5 tf rfl rfl rfl rfl rfl
end Go.Proofs.YtnfiilgdjpdlkaaGreatDoor
