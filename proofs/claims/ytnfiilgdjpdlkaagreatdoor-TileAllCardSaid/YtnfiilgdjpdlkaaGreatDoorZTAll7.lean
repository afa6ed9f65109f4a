/- A part of the proof. -/
import Derived.Test.YtnfiilgdjpdlkaaGreatDoorZTAll6
import Derived.Test.YtnfiilgdjpdlkaaGreatDoorRows
import Derived.Test.YtnfiilgdjpdlkaaGreatDoorCards
import Derived.Test.YtnfiilgdjpdlkaaGreatDoorTie
import Derived.SevenTiedAt
set_option linter.unusedSimpArgs false
set_option linter.unusedVariables false
namespace Go.Lft
open Go
section
variable {po po2:OP} {W:View} {h h':Heap} {o:Own} {k:Key} {P:Program} {ty:TypeId} {us:List (Nat × Value)}
theorem Owns.rO {α:Type} [Rep α] {t:TypeId} {z:Value} {d:α} {K:Value->Heap->Prop} (w:Owns W h o) (hk:o k=none) (hz:(P.info? t).map (·.zero)=some (some z)) (hr:Rd W (.agg z.cells) d) (hn:Rep.n α<=1000)
  (hK : ∀B h',(vw h).le (vw h')->Owns W h' (o.upd k (bx t B d))->K (.pointer (some ⟨B,0,none⟩)) h'):@step po P (.alloc t) ty us h K:=by
 refine _root_.Go.Lft.ed hz ?_;have q1:=bV h (.cells z.cells t);have b2:(h.push (.cells z.cells t))[h.size]? = some (.cells z.cells t (0,0)):=by simp
 generalize h.push (.cells z.cells t)=h2 at q1 b2;have hz2:(Value.agg z.cells).cells=z.cells:=rfl;exact hK _ _ q1 (w.add hk (gQ (v:=.agg z.cells) (by rw[hz2];exact b2) hr hn) q1 λb hb=>by simp only[Value.ownBlock,Ln]at hb;omega)
theorem Owns.pA {α:Type} [Rep α] {e:TypeId} {B:Nat} {d:α} (w:Owns W h o) (hk:o k=bx e B d) : ∃W',W.le W'/\Owns W' h (o.upd k none)/\At W' ⟨B,0,none⟩ d:=by obtain⟨w1,s1⟩:=w.freeze (v:=.slice (some ⟨B,0,none⟩) 1 1) (l:=[d]) hk;refine⟨_,eM (w.av k _ hk),w1,?_⟩;have:=s1.at (i:=0) Sa;simpa[slA,Addr.z]using this
end
end Go.Lft
namespace Go.Proofs.YtnfiilgdjpdlkaaGreatDoor
open Go Go.Lft
abbrev Num6:=Cat (List Int) Q3
theorem FK {h:Heap}:az Tryz.prog N.gk #[] h (λu h'=>(vw h).le (vw h')/\u = .agg (fG.map λc=>Value.int .i64 c).toArray):=by refine aw (args:=[]) follows F.gk E.gk (Lm Ya) λK hK=>?_;dsimp only[L.gk,lkF,lkG];have c0:=Cx.start (h:=h) (View.le_refl (vw h));refine ab λz hz=>?_;simp;refine c0.cQ (k:=(0,0)) (n:=36) (z:=.agg (List.replicate 37 (Value.int .i64 0)).toArray) rfl Ya Ya Yc (by have:(Value.agg (List.replicate 37 (Value.int .i64 0)).toArray).cells.toList=List.replicate 37 (Value.int .i64 0):=rfl;rw[this];intro c hc;rw[List.eq_of_mem_replicate hc];rfl) λR h1 hle1 c1=>?_;subst hz;refine ab λz hz=>?_;simp;refine ay (t:=T.yg) (z:=.agg (List.replicate 37 (Value.int .i64 0)).toArray) (places:=(List.range 37).map λi=>(i,1)) (vs:=(((fG.map λc=>Value.int .i64 c).zipIdx 0).map λp=>(p.2,p.1))) (cs:=(fG.map λc=>Value.int .i64 c).toArray) Ya Ya Ya Ya ?_;refine c1.oL (k:=(0,0)) (n:=36) (l':=fG.map λc=>Value.int .i64 c) Ri Ya Sa Sa rfl (λc hc=>by obtain⟨x,_,rfl⟩:=MP.1 hc;rfl) λh2 c2=>?_;subst hz;have hall:=c2.all (k:=(0,0)) (n:=36) (l:=fG.map λc=>Value.int .i64 c) (B:=R) (e:=T.yg) Ri;simp at hall;simp[hall];exact hK _ _ ⟨c2.le0,by simp⟩
set_option maxHeartbeats 2000000 in
theorem BG {x:Num6} {vx:Value} {h:Heap} (ht:Tab h) (hM:lL) (hx:Rd (vw h) vx x) :
  az Tryz.prog N.cA #[vx] h (λu h'=>u = .bool true/\(vw h).le (vw h')):=by
 refine aw (args:=[vx]) follows F.cA E.cA (Lm Ya) λK hK=>?_;dsimp only[L.cA,lkF,lkG];have c0:=Cx.start (h:=h) (View.le_refl (vw h));refine ab λz hz=>?_;simp;refine c0.dK rfl hx λA h1 W1 hW1 c1 at1 hle1=>?_;subst hz;refine ab λz hz=>?_;simp;refine ah Ya (Dp (ht.mono c1.le0)) ?_;rintro _ h2 ⟨hle2,rfl⟩;have l02:=View.le_trans c1.le0 hle2;have v2:=View.le_trans c1.wle hle2;obtain⟨hal,haq⟩:=at1.cat;obtain⟨vl,cl,sl⟩:=hal.list;obtain⟨uq,huq,hqr⟩:=haq.bM rfl;obtain⟨rfl,i0,i1,i2⟩:=GN hqr;have cl:=ae v2 cl;have sl:=sl.mono v2;have huq:Un.ev (vw h2) (.bM 3) (.pointer (some ⟨A,1,none⟩))=some (.agg #[.int .i64 x.b.a,.int .i64 x.b.b.a,.int .i64 x.b.b.b]):=by have:=dY (ρ:=λ_=>none) (e:=.un (.bM 3) (.con (.pointer (some ⟨A,1,none⟩)))) v2 (by simpa using(show Un.ev W1 (.bM 3) (.pointer (some ((⟨A,0,none⟩:Addr).add 1)))=_ from huq));simpa using this
 clear hal haq hqr at1 c0 c1 hW1 hle1 v2 hle2;subst hz;refine ab λz hz=>?_;have rest : ∀(h9:Heap) (B:Nat) (f:an) (ρ:Env),(vw h2).le (vw h9)->At (vw h9) ⟨B,0,none⟩ f->SmF f->Lft.look ρ 3=some (.bool true)->Lft.look ρ 4=some (ptr B)->LC.wp Tryz.prog z (dW [.tmp 2] K) ρ h9:=by
  intro h9 B f ρ hle9 hat hsm g3 g4;obtain⟨uf,huf,ruf⟩:=hat.ldN rfl (N:=2) rfl;have ht9:=ht.mono (View.le_trans l02 hle9);rw[hz];clear hz;refine ab λz1 hz1=>?_;simp[g3,g4,af,ag];refine ah Ya E6 ?_;rintro u5 h10 ⟨hle10,s10⟩;rw[hz1];clear hz1 z1;refine ab λz1 hz1=>?_;simp[g3,g4,af,ag];refine ah Ya (rI (View.le_refl _) s10 (ht9.mono hle10)) ?_;rw[Cu];rintro _ h11 ⟨hle11,rfl⟩;simp[g3,g4,af,ag];rw[hz1];clear hz1 z1;refine ab λz1 hz1=>?_;have len5 : ∀K:View,Un.ev K .len u5=some (.int .i64 37):=λK=>s10.len (K:=K);simp[g3,g4,af,ag,len5];refine ah Ya (pS (ht9.mono (View.le_trans hle10 hle11))) ?_;rintro _ h12 ⟨hle12,rfl⟩;simp[g3,g4,af,ag];rw[hz1];clear hz1 z1;refine ab λz1 hz1=>?_;simp[g3,g4,af,ag];refine ah Ya FK ?_;rintro _ h13 ⟨hle13,rfl⟩;refine gM (v:=.agg (fG.map λc=>Value.int .i64 c).toArray) (z:=.agg (List.replicate 37 (Value.int .i64 0)).toArray) (n:=37) Ya Ya Ya Ya (λc hc=>by
   have hc:c∈fG.map λc=>Value.int .i64 c:=by simpa[Value.cells]using hc
   obtain⟨x,_,rfl⟩:=MP.1 hc;rfl) (λ_=>by simp) (λ_=>by simp) λh14 hle14 _ hb14=>?_;generalize h13.size=C at hb14;rw[hz1];clear hz1 z1;refine ab λz1 hz1=>?_;simp[g3,g4,af,ag];have ht14:Tab h14:=ht9.mono (View.le_trans hle10 (View.le_trans hle11 (View.le_trans hle12 (View.le_trans hle13 hle14))));have s14:=s10.mono (View.le_trans hle11 (View.le_trans hle12 (View.le_trans hle13 hle14)));have l914:(vw h9).le (vw h14):=View.le_trans hle10 (View.le_trans hle11 (View.le_trans hle12 (View.le_trans hle13 hle14)));have al:allT.length=37:=rfl;have cellC : ∀k:Nat,k<37->ao (vw h14) ⟨C,k,none⟩=some (.int .i64 (nth fG k)):=λk hk=>by refine dq (c:=(Value.agg (fG.map λc=>Value.int .i64 c).toArray).cells) (T:=T.yg) (fz:=(0,0)) hb14 ?_;have hl:fG.length=37:=rfl;show(fG.map λc=>Value.int .i64 c).toArray[k]? = _;rw[NJ,M6,LY Yb,aC Yb];rfl
  clear hb14;refine dR [3,4,5,8,9] (fun(_:Unit) k=>[.bool true,.pointer (some ⟨B,0,none⟩),u5,.pointer (some ⟨C,0,none⟩),.int .i64 k]) (λ_ k h15=>(vw h14).le (vw h15)) 37 ()
   rfl Yb (by simp[ck,g3,g4,af,ag]) (View.le_refl _) (λ_ _=>rfl) (λv i h1 hk m=>by simp[len5]) ?_ ?_
  ·rintro _ k h15 hk hle15 K2 hK2;have ek:nth allT k=⟨(k:Int)+1,nth fG k⟩:=by unfold allT rows;rw[aC (by simp;omega)];simp
   have p0:=ae hle15 ((s14.at (i:=k) (by rw[al];exact hk)).part eW.Fz).int;have p1:=ae hle15 ((s14.at (i:=k) (by rw[al];exact hk)).part eW.E5).int;rw[<-aC (by rw[al];exact hk),ek]at p0 p1;have q:=s14.idxn (k:=.i64) (N:=2) rfl (i:=(k:Int)) Yb (by rw[al];omega);have n2:Rep.n eW=2:=rfl;simp[n2]at p0 p1 q;have ew:IntKind.i64.wrap ((k:Int)+1)=(k:Int)+1:=bZ Yb Yb;have ax:Bn.ev (.aidx 37 1) (.pointer (some ⟨C,0,none⟩)) (.int .i64 k)=some (.pointer (some ⟨C,k,none⟩)):=by simp[Bn.ev,vP,vI];omega
   have cc:=ae hle15 (cellC k hk);refine ab λy hy=>?_;generalize hc:(E.ite (E.bin (Bn.cmp BinOp.neq) (E.un Un.load _) (E.bin _ _ _)) (E.con (Value.bool true)) (E.bin (Bn.cmp BinOp.neq) (E.un Un.load _) _))=c;have hcv : ∀ρ:Nat->Option Value,ρ 5=some u5->ρ 8=some (.pointer (some ⟨C,0,none⟩))->ρ 9=some (.int .i64 k)->ev ρ (vw h15) c=some (.bool false):=λρ r1 r2 r3=>by rw[<-hc];simp[r1,r2,r3,p0,p1,q,ew,ax,cc]
   refine aP (vw h15) (View.le_refl _) ?_;simp[hcv,ew];refine ah Ya (yG (pat:=(k:Int)+1) (ht14.mono hle15) ⟨by omega,by omega⟩) ?_;rintro _ h16 ⟨hle16,rfl⟩;refine⟨hle16,?_⟩;have hr:inR ((k:Int)+1) 1 37=true:=by simp[inR];omega
   have en:Bn.ev (.eqS false) (.string (pN ((k:Int)+1))) (.string ⟨#[]⟩)=some (.bool false):=by rw[Bo,yV,hr];rfl
   simp[en];subst hy;simp;exact hK2 () _ _ rfl rfl (View.le_trans hle15 hle16)
  rintro _ h15 hle15;simp;rw[hz1];clear hz1 z1;have l915:=View.le_trans l914 hle15;have h2f:=huf _ l915;refine ab λz1 hz1=>?_;simp[h2f];refine ah Ya (xA (View.le_refl _) (s14.mono hle15) (ruf.mono l915) hsm (ht14.mono hle15) (λ_ _ _=>hM) λhr=>xN (lF hr) hsm (qE ruf)) ?_;rw[Bk hsm (qE ruf)];rintro _ h16 ⟨hle16,rfl⟩;simp;rw[hz1];clear hz1 z1;have h3f:=huf _ (View.le_trans l915 hle16);refine ab λz1 hz1=>?_;have lend:=View.le_trans l02 (View.le_trans hle9 (View.le_trans l915 hle16));cases hr:kY f with
  | true=>simp[hr,h3f];refine ah Ya (oy (ruf.mono (View.le_trans l915 hle16)) hsm) ?_;rintro _ h17 ⟨rfl,hle17⟩;have hr2:decide ((jO f).1=0)=true:=hr;rw[hr2];simp;rw[hz1];clear hz1 z1;simp;exact hK _ _ ⟨rfl,View.le_trans lend hle17⟩
  | false=>simp[hr,h3f];refine ah Ya (oy (ruf.mono (View.le_trans l915 hle16)) hsm) ?_;rintro _ h17 ⟨rfl,hle17⟩;have hr2:decide ((jO f).1=0)=false:=hr;rw[hr2];simp;rw[hz1];clear hz1 z1;simp;exact hK _ _ ⟨rfl,View.le_trans lend hle17⟩
 have x18:I64 x.b.a/\I64 x.b.b.a/\I64 x.b.b.b:=⟨i0,i1,i2⟩;have tfm:=GW (s:=x.a.take 200);have rd0 : ∀W:View,Rd W (.agg #[.int .i64 0,.slice none 0 0]) (⟨0,[]⟩:an):=λW=>vC ⟨by decide,by decide⟩ aO;have fin : ∀(W:View) (h6:Heap) (o:Own) (B:Nat) (D:an) (u:Value) (f:an) (po:OP) (us:List (Nat × Value)) (ρ:Env),(vw h2).le W->Owns W h6 o->o (20,0)=bx T.cz B D->Rd W u f->TF 1001 f->asg us (.tmp 4)=ptr B->asg us (.tmp 19)=u->Lft.look ρ 3=some (.bool true)->Lft.look ρ 4=some (ptr B)->
   @Lft.step po Tryz.prog (Op.store 27 (Operand.tmp 4) (Operand.tmp 19)) 0 us h6 λ_ h'=>LC.wp Tryz.prog z (dW [.tmp 2] K) ρ h':=λW h6 o B D u f po us ρ hW w ho hr tf e1 e2 g3 g4=>by refine w.mV Part.all (k:=(20,0)) (D:=D) (d:=f) ho Ya e1 e2 hr λh7 w7 hX=>?_;obtain⟨W8,hW8,w8,hat⟩:=w7.pA (k:=(20,0)) (B:=B) (d:=f) Own.aj;exact rest h7 B f ρ (View.le_trans hW (View.le_trans hW8 w8.wle)) (hat.mono w8.wle) (tf.sm Yb) g3 g4
 have o20 : ∀(B:Nat) (D:an) (k:Key),k.1<10->(Own.upd (λ_=>none) (20,0) (bx T.cz B D)) k=none:=λB D k hk=>Own.ak (by rintro rfl;simp at hk);have w2:=Owns.start (h:=h2) (View.le_refl (vw h2));refine aP (vw h2) (View.le_refl _) ?_;refine gy ?_ ?_
 ·refine bf λy hy=>?_;simp[cl,huq];refine ah Ya (xt w2 (λ_ _=>rfl) rfl sl) ?_;rintro u3 h3 ⟨W3,hW3,w3,r3⟩;refine⟨View.le_trans hW3 w3.wle,?_⟩;subst hy;refine gy ?_ ?_
  ·refine bf λy hy=>?_;simp;refine ah Ya (sJ w3 (λ_ _=>rfl) r3 tfm Yb i0 i1 i2) ?_;rintro u4 h4 ⟨W4,f,hW4,w4,tf,r4⟩;subst hy;refine bf λy hy=>?_;simp;refine w4.rO (k:=(20,0)) (z:=.agg #[.int .i64 0,.slice none 0 0]) (d:=(⟨0,[]⟩:an)) rfl Ya (rd0 _) Yc λB h5 hle5 w5=>?_;subst hy;refine bf λy hy=>?_;subst hy;simp;exact fin _ _ _ B _ u4 f _ _ _ (View.le_trans hW3 hW4) w5 Own.aj r4 tf rfl rfl rfl rfl
  refine bf λy hy=>?_;simp;refine w3.rO (k:=(20,0)) (z:=.agg #[.int .i64 0,.slice none 0 0]) (d:=(⟨0,[]⟩:an)) rfl Ya (rd0 _) Yc λB h4 hle4 w4=>?_;refine⟨View.le_trans hW3 w4.wle,?_⟩;subst hy;refine bf λy hy=>?_;simp;refine ah Ya (sJ w4 (o20 B _) r3 tfm Yb i0 i1 i2) ?_;rintro u4 h5 ⟨W5,f,hW5,w5,tf,r4⟩;subst hy;refine bf λy hy=>?_;subst hy;simp;exact fin _ _ _ B _ u4 f _ _ _ (View.le_trans hW3 hW5) w5 Own.aj r4 tf rfl rfl rfl rfl
 refine bf λy hy=>?_;simp[cl,huq];refine w2.rO (k:=(20,0)) (z:=.agg #[.int .i64 0,.slice none 0 0]) (d:=(⟨0,[]⟩:an)) rfl Ya (rd0 _) Yc λB h3 hle3 w3=>?_;refine⟨hle3,?_⟩;subst hy;refine bf λy hy=>?_;simp;refine ah Ya (xt w3 (o20 B _) (Own.ak Sa) sl) ?_;rintro u4 h4 ⟨W4,hW4,w4,r4⟩;refine⟨View.le_trans hW4 w4.wle,?_⟩;subst hy;refine bf λy hy=>?_;simp;refine ah Ya (sJ w4 (o20 B _) r4 tfm Yb i0 i1 i2) ?_;rintro u5 h5 ⟨W5,f,hW5,w5,tf,r5⟩;subst hy;refine bf λy hy=>?_;subst hy;simp;exact fin _ _ _ B _ u5 f _ _ _ (View.le_trans hW4 hW5) w5 Own.aj r5 tf rfl rfl rfl rfl
end Go.Proofs.YtnfiilgdjpdlkaaGreatDoor
namespace Go.Proofs.YtnfiilgdjpdlkaaGreatDoor
open Go Go.Lft Go.ChangeShapes Go.WideShapes Go.ChangeAt Go.RowKit
theorem IA{P:Program}{t e:TypeId}(ht:P.underlying t=some (.array 3 e))(he:P.underlying e=some (.int .i64))(hc:P.cellsOf e=1)(hc2:P.cellsOf t=3):RT P t Q3 where
 cells:=fun{H enc W spare held fuel cs d ps} h _=>by
  obtain⟨xs,m,_,_,hl,hxl,hget⟩:=DataW.trod_array ht h
  rw[hc2]at hl
  match cs,hl with
  | [u,v,w],_=>
   have h0:=hget 0 Yb
   have h1:=hget 1 Yb
   have h2:=hget 2 Yb
   rw[hc,LY Yb]at h0 h1 h2
   obtain⟨a,e1,w1⟩:=trod_int he h0
   obtain⟨b,e2,w2⟩:=trod_int he h1
   obtain⟨c,e3,w3⟩:=trod_int he h2
   simp at e1 e2 e3
   subst e1;subst e2;subst e3
   exact⟨⟨a,b,c⟩,[.int .i64 a],[.int .i64 b,.int .i64 c],rfl,⟨rfl,wf_i64 w1⟩,[.int .i64 b],[.int .i64 c],rfl,⟨rfl,wf_i64 w2⟩,rfl,wf_i64 w3⟩
 val:=fun{W r base v} h=>by
  simp only[Value.okWide,ht]at h
  obtain⟨cs,rfl,_⟩:=h
  exact⟨cs,rfl⟩
theorem rtQ6:RT Tryz.prog T.lR Q3:=IA (e:=T.int) Ya Ya Ya Ya
theorem Jc:RT Tryz.prog T.fL Num6:=DH (f:=λc:Num6=>c) (λc=>c) (λ_=>rfl) (l:=[(0,T.aY),(1,T.lR)]) Ya Ya rfl (FRd.cons rtIs Ya (FRd.one rtQ6 Ya))
end Go.Proofs.YtnfiilgdjpdlkaaGreatDoor
namespace Go.Lft
open Go
section
variable {po po2:OP} {V W:View} {h0 h h':Heap} {o:Own} {k:Key} {P:Program} {ty:TypeId} {us:List (Nat × Value)}
theorem Cx.EF {α:Type} [Rep α] {t:TypeId} {x:Operand} {v:Value} {d:α} {K:Value->Heap->Prop} (c:Cx V h0 W h o) (hk:o k=none) (hx:asg us x=v) (hv:Rd W v d) (hn:Rep.n α<=1000)
  (hK : ∀B h',(vw h).le (vw h')->Cx V h0 W h' (o.upd k (bx t B d))->K (.pointer (some ⟨B,0,none⟩)) h'):@step po P (.box t x) ty us h K:=by
 refine _root_.Go.Lft.dK hx ?_;have q1:=bV h (.cells v.cells t);have b2:(h.push (.cells v.cells t))[h.size]? = some (.cells v.cells t (0,0)):=by simp
 generalize h.push (.cells v.cells t)=h2 at q1 b2;refine hK _ _ q1 ⟨c.own.add hk (gQ b2 hv hn) q1 λb hb=>by simp only[Value.ownBlock,Ln]at hb;omega,c.old,View.le_trans c.le0 q1,λj i b hj hb=>?_⟩;by_cases e:j=k
 ·subst e;rw[Own.aj]at hj;cases hj;cases hb;exact cG c.le0
 rw[Own.ak e]at hj;exact c.new j i b hj hb
theorem Cx.gH {α β:Type} [Rep α] [Rep β] {off:Nat} {g:α->β} {s:α->β->α} (p:Part α β off g s) {e t:TypeId} {x y:Operand} {B:Nat} {D:α} {u:Value} {d:β} {K:Value->Heap->Prop} (c:Cx V h0 W h o) (hk:o k=bx e B D) (hsz:db P t=some (Rep.n β)) (hx:asg us x = .pointer (some ⟨B,off,.none⟩)) (hy:asg us y=u) (hr:Rd W u d)
  (hK : ∀h',Cx V h0 W h' (o.upd k (bx e B (s D d)))->K undef h'):@step po P (.store t x y) ty us h K:=
 c.own.mV p hk hsz hx hy hr λh2 w hX=>hK _ ⟨w,c.old,hX _ c.le0 (View.df (View.le_refl _) (c.new k _ B hk rfl)),λj i b hj hb=>by
  by_cases e:j=k
  ·subst e;rw[Own.aj]at hj;cases hj;exact c.new _ _ b hk hb
  rw[Own.ak e]at hj;exact c.new j i b hj hb⟩
theorem Cx.Ip {α:Type} [Rep α] {e:TypeId} {B:Nat} {d:α} (c:Cx V h0 W h o) (hk:o k=bx e B d) (ha:Rep.agg α=true) {N:Nat} (hN:Rep.n α=N) : ∃u,Un.ev (vw h) (.bM N) (.pointer (some ⟨B,0,none⟩))=some u/\Rd W u d:=by
 subst hN;obtain⟨cs,hcs,hr⟩:=c.own.atW hk;have h1:=Rep.len hr;have:=fQ hcs (Rep.n α) 0 #[] Yb;refine⟨.agg cs.toArray,?_,?_⟩
 ·simp only[Un.ev,vP,LI];rw[this];simp[<-h1]
 unfold Rd;rw[if_pos ha];exact⟨_,rfl,by simpa using hr⟩
theorem Cx.Kg {α:Type} [Rep α] {e:TypeId} {B:Nat} {d:α} (c:Cx V h0 W h o) (hk:o k=bx e B d):At (vw h) ⟨B,0,none⟩ d:=c.own.at hk
end
end Go.Lft
namespace Go.Proofs.YtnfiilgdjpdlkaaGreatDoor
open Go Go.Lft
section
variable {V:View} {h:Heap} {S I O P Q LL TT:Nat} {s:cu} {op plain sum:Int}
abbrev sZ:List Value:=[.int .i64 0,.int .i64 0,.int .i64 0,.int .i64 0,.int .i64 0,.int .i64 0,.int .i32 0,.slice none 0 0]
theorem tK {W:View} {m:bH} {vm:Value} (mx:Mx V S I O P Q LL TT s op plain sum) (hV:V.le W) (hW:W.le (vw h)) (hm:Rd W vm m) (ho:op=15\/2<=s.i.args.length) :
  az Tryz.prog N.cJ #[vm,ptr O,ptr I,ptr P] h (λu h'=>(vw h).le (vw h')/\Rd (grow W h h') u (jV s.i op plain m)):=by
 refine aw (args:=[vm,ptr O,ptr I,ptr P]) follows F.cJ E.cJ (Lm Ya) λK hK=>?_;dsimp only[L.cJ,lkF,lkG];have c0:=Cx.start hW;refine ab λz hz=>?_;simp;refine c0.EF (k:=(0,1)) rfl rfl hm Yc λM h1 hle1 c1=>?_;refine c1.cQ (k:=(0,0)) (n:=7) (z:=.agg sZ.toArray) Ri Ya rfl Yc (by simp[Value.cells,Value.oneCell']) λR h2 hle2 c2=>?_;subst hz;have hk1:(Own.upd (Own.upd (λ_=>none) (0,1) (bx T.ff M m)) (0,0) (bx T.ff R (RawN.mk (n:=7) (Value.agg sZ.toArray).cells.toList))) (0,1)=bx T.ff M m:=rfl;have vh:V.le (vw h2):=View.le_trans hV c2.wle;have e1:=ae vh mx.op;have e2:=ae vh mx.plain;have i1:=(mx.ct.ins.part InsD.ix);have r1:=i1.rng;have i1:ao (vw h2) ⟨I,1,none⟩=some (.int .i64 s.i.dst):=ae vh (by simpa using i1.int);obtain⟨va,i3,hva⟩:=(mx.ct.ins.part InsD.fj).sl;have i3:ao (vw h2) ⟨I,3,none⟩=some va:=ae vh (by simpa using i3);refine ab λz hz=>?_;have fin : ∀(h3:Heap) (m3:bH),Cx W h W h3 (Own.upd (Own.upd (Own.upd (λ_=>none) (0,1) (bx T.ff M m)) (0,0) (bx T.ff R (RawN.mk (n:=7) (Value.agg sZ.toArray).cells.toList))) (0,1) (bx T.ff M m3))->jV s.i op plain m=m3->∀ρ:Env,Lft.look ρ 4=some (ptr M)->Lft.look ρ 5=some (ptr R)->LC.wp Tryz.prog z (dW [.un (.bM 8) (.tmp 5)] K) ρ h3:=λh3 m3 c3 he ρ h4 h5=>by rw[hz];refine ab λy hy=>?_;obtain⟨u,hu,ru⟩:=c3.Ip (k:=(0,1)) (e:=T.ff) (B:=M) (d:=m3) rfl rfl (N:=8) rfl;simp[h4,h5,hu];refine c3.bD (α:=bH) (k:=(0,0)) (n:=7) Ri ru rfl rfl Ya Sa Sa λh6 l6 hl6 c6=>?_;rw[hy];have hall:=c6.all (k:=(0,0)) (n:=7) (l:=l6) (B:=R) (e:=T.ff) Ri;simp at hall;simp[hall,af,ag,h5];refine hK _ _ ⟨c6.le0,?_⟩;rw[he,<-hl6];exact ru.mono c6.fin
 by_cases h15:op=15
 ·simp[e1,h15,i1];refine c2.gH (k:=(0,1)) (α:=bH) bH.KH (D:=m) (d:=s.i.dst) hk1 Ya Sa Sa (bK.2 ⟨rfl,r1⟩) λh3 c3=>?_;exact fin _ _ c3 (by unfold jV;rw[if_pos h15]) _ Sa Sa
 have ha:2<=s.i.args.length:=by omega
 have q1:=hva.idx1 (k:=.i64) (i:=1) rfl Yc Yb;have d1:=ae vh (hva.int (View.le_refl V) (i:=1) Yb);have ar:=hva.rng (i:=1) Yb;have m0:=ae (View.le_refl _) (((c2.Kg hk1).part bH.tB)).int;simp at m0 q1 d1;by_cases hp:m.op=plain
 ·simp[e1,h15,e2,m0,hp,i3,q1,d1];refine c2.gH (k:=(0,1)) (α:=bH) bH.KR (D:=m) (d:=nth s.i.args 1) hk1 Ya Sa Sa (bK.2 ⟨rfl,ar⟩) λh3 c3=>?_;exact fin _ _ c3 (by unfold jV;rw[if_neg h15,if_pos hp]) _ Sa Sa
 simp[e1,h15,e2,m0,hp,i3,q1,d1];refine c2.gH (k:=(0,1)) (α:=bH) bH.KC (D:=m) (d:=nth s.i.args 1) hk1 Ya Sa Sa (bK.2 ⟨rfl,ar⟩) λh3 c3=>?_;exact fin _ _ c3 (by unfold jV;rw[if_neg h15,if_neg hp]) _ Sa Sa
end
end Go.Proofs.YtnfiilgdjpdlkaaGreatDoor
namespace Go.Lft
open Go
theorem DW {W:View} {h:Heap} {e:TypeId} {B n:Nat} {l:List Int} (hb:h[B]? = some (.cells (l.map λc=>Value.int .i64 c).toArray e (0,0))) (hr : ∀x∈l,-9223372036854775808<=x/\x<=9223372036854775807) (hn:l.length=n) (h2:n<=1000000) :
  OwnT W h e (.slice (some ⟨B,0,.none⟩) n n) l:=by
 subst hn;refine⟨by omega,l.map λc=>Value.int .i64 c,⟨by simp[Rep.n],.inr ⟨B,l.length,_,rfl,hb,Lp _,by simp[maxLen];omega,by simp[Rep.n],?_⟩⟩,λi hi=>?_⟩
 ·rw[Lw (by simp[Rep.n])]
 show(List.take 1 (List.drop (i*1) (l.map λc=>Value.int .i64 c))=[.int .i64 l[i]])/\_;rw[MA];refine⟨?_,hr _ (LX hi)⟩;rw[LU (by simpa using hi)];simp
theorem xr : ∀{l:List Int},(l.map λc=>Value.int .i64 c).flatMap (λv=>v.cells.toList)=l.map λc=>Value.int .i64 c
 | []=>rfl
 | x::l=>by rw[M0,NN,xr];rfl
section
variable {po po2:OP} {V W:View} {h0 h h':Heap} {o:Own} {k:Key} {P:Program} {ty:TypeId} {us:List (Nat × Value)}
theorem Cx.tM {t e n:Nat} {bytes:Nat} {z:Value} {ps:Array (Nat × Operand)} {l:List Int} {K:Value->Heap->Prop} (c:Cx V h0 W h o) (hk:o k=none) (hT:fm P t e 1 bytes z)
  (hp:ps.map (λp=>(p.1,asg us p.2))=(((l.map λc=>Value.int .i64 c).zipIdx 0).map λp=>(p.2,p.1)).toArray) (hr : ∀x∈l,-9223372036854775808<=x/\x<=9223372036854775807) (hn:l.length=n) (h2:n<=1000)
  (hK : ∀u h',(vw h).le (vw h')->Cx V h0 W h' (o.upd k (it e u l))->K u h'):@step po P (.buildSlice t n ps) ty us h K:=by
 obtain⟨B,h1,hB⟩:=mA (s:=1) (l.map λc=>Value.int .i64 c) 0 ((Array.range (n*1)).map (z.cells[· % z.cells.size]!)) (λv hv=>by obtain⟨c,_,rfl⟩:=MP.1 hv;rfl) (by simp;omega);have hB:B=(l.map λc=>Value.int .i64 c).toArray:=by rw[<-Array.toList_inj,hB];simp only[M5,NP,LR,xr]
 subst hB;refine pg (size:=1) hT Yb hp h1 ?_;have q1:=bV h (.cells (l.map λc=>Value.int .i64 c).toArray e);have b2:(h.push (.cells (l.map λc=>Value.int .i64 c).toArray e))[h.size]? = some (.cells (l.map λc=>Value.int .i64 c).toArray e (0,0)):=by simp
 generalize h.push (.cells (l.map λc=>Value.int .i64 c).toArray e)=h3 at q1 b2;refine hK _ _ q1 ⟨c.own.add hk (DW b2 hr hn Yb) q1 λb hb=>by simp only[Value.ownBlock,Ln]at hb;omega,c.old,View.le_trans c.le0 q1,λj i b hj hb=>?_⟩;by_cases e:j=k
 ·subst e;rw[Own.aj]at hj;cases hj;cases hb;exact cG c.le0
 rw[Own.ak e]at hj;exact c.new j i b hj hb
theorem Cx.jf {α:Type} [Rep α] {e e2:TypeId} {v v':Value} {l l':List α} (c:Cx V h0 W h o) (hk:o k=it e v l) (o2:OwnT W h' e2 v' l') (m:kK h h' v v'):Cx V h0 W h' (o.upd k (it e2 v' l')):=by
 refine⟨c.own.jf hk o2 m,c.old,?_,λj i b hj hb=>?_⟩
 ·exact m.kept.view c.le0 λb hb=>View.df (View.le_refl _) (c.new k _ b hk hb)
 by_cases e:j=k
 ·subst e;rw[Own.aj]at hj;cases hj;rcases m.at_ with q | q
  ·exact c.new _ _ b hk (q▸hb)
  have hb:v'.ownBlock=some b:=hb;rw[q]at hb;cases hb;exact cG c.le0
 rw[Own.ak e]at hj;exact c.new j i b hj hb
theorem Cx.freeze {α:Type} [Rep α] {e:TypeId} {v:Value} {l:List α} (c:Cx V h0 W h o) (hk:o k=it e v l) : ∃W',W.le W'/\Cx V h0 W' h (o.upd k none)/\SlRd W' v l:=by
 obtain⟨w1,s1⟩:=c.own.freeze hk;refine⟨_,eM (c.own.av k _ hk),⟨w1,λb x hb hx=>?_,c.le0,λj i b hj hb=>?_⟩,s1⟩
 ·unfold View.plus at hx;split at hx
  ·rename_i e1;have:=c.new k _ b hk e1;omega
  exact c.old b x hb hx
 by_cases e:j=k
 ·subst e;rw[Own.aj]at hj;cases hj
 rw[Own.ak e]at hj;exact c.new j i b hj hb
end
end Go.Lft
namespace Go.Proofs.YtnfiilgdjpdlkaaGreatDoor
open Go Go.Lft
section
variable {V:View} {h:Heap} {S I O P Q LL TT:Nat} {s:cu} {op plain sum:Int}
theorem tG {W:View} {l:List Int} {vl:Value} (mx:Mx V S I O P Q LL TT s op plain sum) (hV:V.le W) (hW:W.le (vw h)) (ho:OwnT W h T.int vl l) (hl:l.length<=10) (h1:1<=s.i.args.length) (h2:s.i.args.length<=1000000) :
  az Tryz.prog N.cK #[vl,ptr I] h (λu h'=>OwnT W h' T.int u (l++s.i.args.drop 1)/\kK h h' vl u):=by refine aw (args:=[vl,ptr I]) follows F.cK E.cK (Lm Ya) λK hK=>?_;dsimp only[L.cK,lkF,lkG];obtain⟨va,i3,hva⟩:=(mx.ct.ins.part InsD.fj).sl;have i3:ao (vw h) ⟨I,3,none⟩=some va:=ae (View.le_trans hV hW) (by simpa using i3);obtain⟨u,hu,su⟩:=hva.drop (n:=1) h1 (kd:=.i64);have hu:Bn.ev (.lo 1) va (.int .i64 1)=some u:=hu;refine ab λz hz=>?_;simp;subst hz;refine ab λz hz=>?_;simp[i3,hu];refine bY (α:=Int) (e:=T.int) (l:=l) (l2:=s.i.args.drop 1) El.aY Sa Sa ho ((su.mono hV).src hW) (by simp;omega) (by simp;omega) λv2 h2 o2 mv=>?_;subst hz;simp;exact hK _ _ ⟨o2,mv⟩
end
end Go.Proofs.YtnfiilgdjpdlkaaGreatDoor
namespace Go.Proofs.YtnfiilgdjpdlkaaGreatDoor
open Go Go.Lft
section
variable {V:View} {h:Heap} {S I O P Q LL TT:Nat} {s:cu} {op plain sum:Int}
set_option maxHeartbeats 4000000 in
theorem GR(mx:Mx V S I O P Q LL TT s op plain sum)(hV:V.le (vw h))(hok:lJ s)(hop:s.i.op=op)(ho:op=15\/op=16)(hp0:0<=plain/\plain<=100):
    az Tryz.prog N.bE #[ptr LL,ptr P,ptr I,ptr TT] h (λu h'=>cg V h h' u (memS s.f s.i s.temp op plain sum 0)):=by
  refine aw (args:=[ptr LL,ptr P,ptr I,ptr TT]) follows F.bE E.bE (Lm Ya) λK hK=>?_
  dsimp only[L.bE,lkF,lkG]
  have c0:=Cx.start hV
  have l1:1<=s.i.args.length:=by
    rcases ho with q | q
    · exact hok.one.one (hop.trans q)
    · have:=hok.one.two (.inr (.inl (hop.trans q)));omega
  have l2:op=15\/2<=s.i.args.length:=ho.imp id λq=>hok.one.two (.inr (.inl (hop.trans q)))
  refine ab λz hz=>?_
  simp
  refine c0.cQ (k:=(0,0)) (n:=7) (z:=.agg fitZ.toArray) rfl Ya rfl Yc (by simp[Value.cells,Value.oneCell']) λR hb hleb cb=>?_
  subst hz
  have i4:=(mx.ct.ins.part InsD.jQ)
  have r4:=i4.nY
  have i4:ao V ⟨I,4,none⟩=some (.int .i32 s.i.imm.v):=by simpa using i4.i32
  obtain⟨va,i3,hva⟩:=(mx.ct.ins.part InsD.fj).sl
  have i3:ao V ⟨I,3,none⟩=some va:=by simpa using i3
  have a0:=hva.rng (i:=0) Yb
  have most:=hok.one.most
  have q0:=hva.idx1 (k:=.i64) (i:=0) rfl Yc Yb
  have d0:=hva.int (View.le_refl V) (i:=0) Yb
  simp at q0
  have eL:=mx.laid
  have eT:=mx.with_
  have eP:=mx.plain
  have hm : ∀X,Rd X (.agg #[.int .i64 plain,.int .i64 0,.int .i64 0,.int .i64 (nth s.i.args 0),.int .i64 0,.int .i64 0,.int .i32 s.i.imm.v,.slice none 0 0]) (⟨plain,0,0,nth s.i.args 0,0,0,s.i.imm,[]⟩:bH):=λX=>iK (by simp;omega) r4 aO
  have ew:IntKind.i64.wrap s.i.imm.v=s.i.imm.v:=bZ Yb Yb
  have fin : ∀(W:View) (hx:Heap) (o:Own) (l9:List Value),Cx V h W hx o->Rd W (.agg l9.toArray) (⟨nth s.i.args 0::s.i.args.drop 1,[],[jV s.i op plain ⟨plain,0,0,nth s.i.args 0,0,0,s.i.imm,[]⟩],eR⟩:FitD)->K (.tuple #[.agg l9.toArray,.bool (inR (IntKind.i64.wrap s.i.imm.v) 0 255)]) hx:=λW hx o l9 c hr=>
    hK _ _ (cg.of c hr (by rw[ew];simp only[memS];split<;>simp_all) λy e=>by
      simp only[memS]at e
      split at e<;>cases e
      rfl)
  clear hK
  refine ab λz hz=>?_
  refine aP V cb.wle ?_
  have c:=cb
  have hWV:V.le V:=View.le_refl _
  repeat' (first
    | refine gy ?_ ?_
    | (refine bf λy hy=>?_
       simp[i3,i4,q0,d0,eL,eT,eP]
       first
       | refine ay (t:=T.ff) (z:=.agg sZ.toArray) (places:=[(0,1),(1,1),(2,1),(3,1),(4,1),(5,1),(6,1),(7,1)]) (vs:=[(0,.int .i64 plain),(3,.int .i64 (nth s.i.args 0)),(6,.int .i32 s.i.imm.v)]) (cs:=#[.int .i64 plain,.int .i64 0,.int .i64 0,.int .i64 (nth s.i.args 0),.int .i64 0,.int .i64 0,.int .i32 s.i.imm.v,.slice none 0 0]) Ya Ya Sa Ya ?_
       | (refine c.tM (k:=(0,2)) (n:=1) (l:=[nth s.i.args 0]) Ri El.aY ?_ ?_ rfl Yc λuA h hle c=>?_
          · simp;done
          · simp;omega)
       | refine c.cQ (k:=(0,1)) (n:=7) (z:=.agg fitZ.toArray) Ri Ya rfl Yc (by simp[Value.cells,Value.oneCell']) λR2 h hle c=>?_
       | (refine cj (ops:=[.tmp 17]) (caps:=#[ptr O,ptr I,ptr P]) rfl Ya (tK mx (by repeat (first | exact View.le_refl _ | assumption | refine View.le_trans ?_ (by assumption))) c.wle (hm _) l2) ?_
          rintro um h ⟨hle,hum⟩
          have hW:=c.up (h':=h)
          have c:=c.ext hle)
       | (refine cj (ops:=[.tmp 24]) (caps:=#[ptr I]) rfl Ya (tG mx (by repeat (first | exact View.le_refl _ | assumption | refine View.le_trans ?_ (by assumption))) c.wle (c.own.get (k:=(0,2)) (v:=uA) (l:=[nth s.i.args 0]) Ri) Sa l1 Yb) ?_
          rintro uw h ⟨own2,mv⟩
          have c:=c.jf (k:=(0,2)) (v:=uA) (l:=[nth s.i.args 0]) Ri own2 mv
          obtain⟨W,hW,c,huA⟩:=c.freeze (k:=(0,2)) (v:=uw) (l:=[nth s.i.args 0]++s.i.args.drop 1) Ri)
       | (refine ah Ya (ko c.wle (hum.mono (by repeat (first | exact View.le_refl _ | assumption | refine View.le_trans ?_ (by assumption)))) (huA.mono (by repeat (first | exact View.le_refl _ | assumption | refine View.le_trans ?_ (by assumption)))) aO) ?_
          rintro _ h ⟨hle,vf,rfl,hvf⟩
          have hW:=c.up (h':=h)
          have c:=c.ext hle)
       | refine c.bD (k:=(0,1)) (n:=7) (l:=fitZ) Ri (hvf.mono (by repeat (first | exact View.le_refl _ | assumption | refine View.le_trans ?_ (by assumption)))) rfl rfl Ya rfl rfl λh l9 hl9 c=>?_
       try refine⟨View.le_trans (by repeat (first | exact View.le_refl _ | assumption | refine View.le_trans ?_ (by assumption))) c.wle,?_⟩
       subst hy))
  all_goals
    simp
    rw[hz]
    subst hl9
    have hall:=c.all (k:=(0,1)) (n:=7) (l:=l9) (B:=R2) (e:=T.aZ) Ri
    simp at hall
    refine ab λx hx=>?_
    refine aP (vw h) (View.le_refl _) ?_
    simp[hall,ae (View.le_trans (by repeat (first | exact View.le_refl _ | assumption | refine View.le_trans ?_ (by assumption))) c.wle) i4]
    refine ah Ya js ?_
    rintro _ h ⟨rfl,rfl⟩
    refine⟨View.le_refl _,?_⟩
    refine c.bD (k:=(0,0)) (n:=7) (l:=fitZ) Ri (hvf.mono (by repeat (first | exact View.le_refl _ | assumption | refine View.le_trans ?_ (by assumption)))) rfl rfl Ya rfl rfl λh9 l9' hl9' c9=>?_
    rw[hx]
    have hall:=c9.all (k:=(0,0)) (n:=7) (l:=l9') (B:=R) (e:=T.aZ) Ri
    simp at hall
    simp[hall]
    exact fin _ _ _ _ c9 (hl9'▸hvf.mono (by repeat (first | exact View.le_refl _ | assumption | refine View.le_trans ?_ (by assumption))))
end
end Go.Proofs.YtnfiilgdjpdlkaaGreatDoor
namespace Go.Lft
open Go
section
variable {po po2:OP} {V W:View} {h0 h h':Heap} {o:Own} {k:Key} {P:Program} {ty:TypeId} {us:List (Nat × Value)}
theorem Gj {α:Type} [Rep α] {t e:Nat} {bytes:Nat} {z v:Value} {x:Operand} {d:α} {K:Value->Heap->Prop} (hT:fm P t e (Rep.n α) bytes z) (hx:asg us x=v) (hr:Rd W v d) (hn:Rep.n α<=1000)
  (hk : ∀h',(vw h).le (vw h')->OwnT W h' e (.slice (some ⟨h.size,0,none⟩) 1 1) [d]->K (.slice (some ⟨h.size,0,none⟩) 1 1) h'):@step po P (.buildSlice t 1 #[(0,x)]) ty us h K:=by
 have hc:=gT hr;obtain⟨B,h1,hB⟩:=mA (s:=Rep.n α) [v] 0 ((Array.range (1*Rep.n α)).map (z.cells[· % z.cells.size]!)) (λu hu=>by simp at hu;subst hu;exact hc.2.1) Sa;have hB:B=v.cells:=by rw[<-Array.toList_inj,hB];simp
 subst hB;refine pg (size:=Rep.n α) (vs:=[(0,v)]) hT Yb (by simp[hx]) h1 ?_;have q1:=bV h (.cells v.cells e);have b2:(h.push (.cells v.cells e))[h.size]? = some (.cells v.cells e (0,0)):=by simp
 generalize h.push (.cells v.cells e)=h3 at q1 b2;exact hk _ q1 (gQ b2 hr hn)
theorem Cx.add {α:Type} [Rep α] {e:TypeId} {v:Value} {l:List α} (c:Cx V h0 W h o) (hk:o k=none) (o2:OwnT W h' e v l) (hle:(vw h).le (vw h')) (hb : ∀b,v.ownBlock=some b->h.size<=b):Cx V h0 W h' (o.upd k (it e v l)):=
 ⟨c.own.add hk o2 hle hb,c.old,View.le_trans c.le0 hle,λj i b hj hb'=>by
  by_cases e:j=k
  ·subst e;rw[Own.aj]at hj;cases hj;exact LM (cG c.le0) (hb b hb')
  rw[Own.ak e]at hj;exact c.new j i b hj hb'⟩
end
end Go.Lft
namespace Go.Proofs.YtnfiilgdjpdlkaaGreatDoor
open Go Go.Lft
theorem BO {α:Type} [Rep α] {H:View} {v:Value} {l:List α} (s:SlRd H v l) : ∃a n c,v = .slice a n c:=let ⟨a,c,e,_⟩:=s;⟨a,_,c,e⟩
theorem GB {v0 v1 v2:Value} {m:bH} {takes inner:List Int} {h:Heap} {W:View} (hW:W.le (vw h)) (h0:Rd W v0 m) (h1:SlRd W v1 takes) (h2:SlRd W v2 inner) :
  az Tryz.prog N.gA #[v0,v1,v2] h (λu h'=>(vw h).le (vw h')/\∃b,u = .tuple #[.agg #[v1,v2,.slice (some ⟨b,0,none⟩) 1 1,.int .i64 0,.int .i64 0,.int .i64 0,.slice none 0 0,.int .i32 0],.bool true]/\OwnT W h' T.ff (.slice (some ⟨b,0,none⟩) 1 1) [m]/\h.size<=b):=by
 refine aw (args:=[v0,v1,v2]) follows F.gA E.gA (Lm Ya) λK hK=>?_;dsimp only[L.gA,lkF,lkG];have c0:=Cx.start hW;refine ab λz hz=>?_;simp;refine c0.EF (k:=(0,1)) rfl rfl h0 Yc λB ha hlea ca=>?_;refine ca.cQ (k:=(0,0)) (n:=7) (z:=.agg fitZ.toArray) Ri Ya rfl Yc (by simp[Value.cells,Value.oneCell']) λR hb hleb cb=>?_;subst hz;obtain⟨um,hum,hmr⟩:=cb.Ip (k:=(0,1)) (e:=T.ff) (B:=B) (d:=m) rfl rfl (N:=8) rfl;refine ab λz hz=>?_;simp[hum];refine Gj (α:=bH) (W:=W) (v:=um) El.jt Sa hmr Yc λhc hlec own=>?_;have cc:=cb.add (k:=(0,2)) Ri own hlec λb hb=>by simp only[Value.ownBlock,Ln]at hb;omega
 obtain⟨a1,n1,k1,rfl⟩:=BO h1;obtain⟨a2,n2,k2,rfl⟩:=BO h2;refine ay (z:=.agg fitZ.toArray) (places:=[(0,1),(1,1),(2,1),(3,5)]) (vs:=[(0,.slice a1 n1 k1),(1,.slice a2 n2 k2),(2,.slice (some ⟨hb.size,0,none⟩) 1 1)]) (cs:=#[.slice a1 n1 k1,.slice a2 n2 k2,.slice (some ⟨hb.size,0,none⟩) 1 1,.int .i64 0,.int .i64 0,.int .i64 0,.slice none 0 0,.int .i32 0]) Ya Ya Sa Ya ?_;refine cc.oL (k:=(0,0)) (n:=7) (l':=[.slice a1 n1 k1,.slice a2 n2 k2,.slice (some ⟨hb.size,0,none⟩) 1 1,.int .i64 0,.int .i64 0,.int .i64 0,.slice none 0 0,.int .i32 0]) Ri Ya Sa Sa rfl (by simp[Value.oneCell']) λhd cd=>?_;subst hz;have hall:=cd.all (k:=(0,0)) (n:=7) (l:=[.slice a1 n1 k1,.slice a2 n2 k2,.slice (some ⟨hb.size,0,none⟩) 1 1,.int .i64 0,.int .i64 0,.int .i64 0,.slice none 0 0,.int .i32 0]) (B:=R) (e:=T.aZ) Ri;simp at hall;simp[hall];refine hK _ _ ⟨cd.le0,_,rfl,cd.own.get (k:=(0,2)) Ri,?_⟩;have q1:=cG hlea;have q2:=cG hleb;omega
end Go.Proofs.YtnfiilgdjpdlkaaGreatDoor
namespace Go.Proofs.YtnfiilgdjpdlkaaGreatDoor
open Go Go.Lft
section
variable {V:View} {h:Heap} {S I O P Q LL TT:Nat} {s:cu} {op plain sum:Int}
set_option maxHeartbeats 4000000 in
theorem GZ(mx:Mx V S I O P Q LL TT s op plain sum)(hV:V.le (vw h))(hok:lJ s)(hop:s.i.op=op)(ho:op=15\/op=16)(hp0:0<=sum/\sum<=100)(ht:-9223372036854775808<=s.temp/\s.temp<=9223372036854775807):
    az Tryz.prog N.bF #[ptr S,ptr I,ptr TT,ptr LL,ptr Q] h (λu h'=>cg V h h' u (memS s.f s.i s.temp op plain sum 3)):=by
  refine aw (args:=[ptr S,ptr I,ptr TT,ptr LL,ptr Q]) follows F.bF E.bF (Lm Ya) λK hK=>?_
  dsimp only[L.bF,lkF,lkG]
  have c0:=Cx.start hV
  have l1:1<=s.i.args.length:=by
    rcases ho with q | q
    · exact hok.one.one (hop.trans q)
    · have:=hok.one.two (.inr (.inl (hop.trans q)));omega
  have l2:op=15\/2<=s.i.args.length:=ho.imp id λq=>hok.one.two (.inr (.inl (hop.trans q)))
  refine ab λz hz=>?_
  simp
  refine c0.cQ (k:=(0,0)) (n:=7) (z:=.agg fitZ.toArray) rfl Ya rfl Yc (by simp[Value.cells,Value.oneCell']) λR hb hleb cb=>?_
  subst hz
  have i4:=(mx.ct.ins.part InsD.jQ)
  have r4:=i4.nY
  have i4:ao V ⟨I,4,none⟩=some (.int .i32 s.i.imm.v):=by simpa using i4.i32
  obtain⟨va,i3,hva⟩:=(mx.ct.ins.part InsD.fj).sl
  have i3:ao V ⟨I,3,none⟩=some va:=by simpa using i3
  have s12:ao V ⟨S,12,none⟩=some (.int .i64 s.temp):=by simpa using(mx.ct.site.part cu.BI).int
  have a0:=hva.rng (i:=0) Yb
  have most:=hok.one.most
  have q0:=hva.idx1 (k:=.i64) (i:=0) rfl Yc Yb
  have d0:=hva.int (View.le_refl V) (i:=0) Yb
  simp at q0
  have eL:=mx.laid
  have eT:=mx.with_
  have eQ:=mx.sum
  have hm : ∀X,Rd X (.agg #[.int .i64 4,.int .i64 s.temp,.int .i64 0,.int .i64 0,.int .i64 0,.int .i64 0,.int .i32 s.i.imm.v,.slice none 0 0]) (⟨4,s.temp,0,0,0,0,s.i.imm,[]⟩:bH):=λX=>iK (by simp;omega) r4 aO
  have hm2 : ∀X,Rd X (.agg #[.int .i64 sum,.int .i64 0,.int .i64 0,.int .i64 (nth s.i.args 0),.int .i64 s.temp,.int .i64 0,.int .i32 0,.slice none 0 0]) (⟨sum,0,0,nth s.i.args 0,s.temp,0,⟨0⟩,[]⟩:bH):=λX=>iK (imm:=⟨0⟩) (by simp;omega) Sa aO
  have fin : ∀(W:View) (hx:Heap) (o:Own) (l9:List Value),Cx V h W hx o->Rd W (.agg l9.toArray) (⟨nth s.i.args 0::s.i.args.drop 1,[],[⟨4,s.temp,0,0,0,0,s.i.imm,[]⟩,jV s.i op plain ⟨sum,0,0,nth s.i.args 0,s.temp,0,⟨0⟩,[]⟩],eR⟩:FitD)->K (.tuple #[.agg l9.toArray,.bool true]) hx:=λW hx o l9 c hr=>
    hK _ _ (cg.of c hr rfl λy e=>by simp only[memS]at e;cases e;rfl)
  clear hK
  refine ab λz hz=>?_
  refine aP V cb.wle ?_
  have c:=cb
  have hWV:V.le V:=View.le_refl _
  repeat' (first
    | refine gy ?_ ?_
    | (refine bf λy hy=>?_
       simp[i3,i4,s12,q0,d0,eL,eT,eQ]
       first
       | refine ay (t:=T.ff) (z:=.agg sZ.toArray) (places:=[(0,1),(1,1),(2,1),(3,1),(4,1),(5,1),(6,1),(7,1)]) (vs:=[(0,.int .i64 4),(1,.int .i64 s.temp),(6,.int .i32 s.i.imm.v)]) (cs:=#[.int .i64 4,.int .i64 s.temp,.int .i64 0,.int .i64 0,.int .i64 0,.int .i64 0,.int .i32 s.i.imm.v,.slice none 0 0]) Ya Ya Sa Ya ?_
       | (refine c.tM (k:=(0,2)) (n:=1) (l:=[nth s.i.args 0]) Ri El.aY ?_ ?_ rfl Yc λuA h hle c=>?_
          · simp;done
          · simp;omega)
       | refine c.cQ (k:=(0,1)) (n:=7) (z:=.agg fitZ.toArray) Ri Ya rfl Yc (by simp[Value.cells,Value.oneCell']) λR2 h hle c=>?_
       | (refine cj (ops:=[.tmp 20]) (caps:=#[ptr I]) rfl Ya (tG mx (by repeat (first | exact View.le_refl _ | assumption | refine View.le_trans ?_ (by assumption))) c.wle (c.own.get (k:=(0,2)) (v:=uA) (l:=[nth s.i.args 0]) Ri) Sa l1 Yb) ?_
          rintro uw h ⟨own2,mv⟩
          have c:=c.jf (k:=(0,2)) (v:=uA) (l:=[nth s.i.args 0]) Ri own2 mv
          obtain⟨W,hW,c,huA⟩:=c.freeze (k:=(0,2)) (v:=uw) (l:=[nth s.i.args 0]++s.i.args.drop 1) Ri)
       | (refine ah Ya (GB c.wle (hm _) (huA.mono (by repeat (first | exact View.le_refl _ | assumption | refine View.le_trans ?_ (by assumption)))) aO) ?_
          rintro _ h ⟨hle,b3,rfl,own3,hb3⟩
          have c:=c.add (k:=(0,3)) Ri own3 hle λb hb=>by simp only[Value.ownBlock,Ln]at hb;omega)
       | (obtain⟨a5,n5,k5,rfl⟩:=BO huA
          refine c.oL (k:=(0,1)) (n:=7) (l:=fitZ) (l':=[.slice a5 n5 k5,.slice none 0 0,.slice (some ⟨b3,0,none⟩) 1 1,.int .i64 0,.int .i64 0,.int .i64 0,.slice none 0 0,.int .i32 0]) Ri Ya rfl rfl rfl (by simp[Value.oneCell']) λh c=>?_)
       try refine⟨View.le_trans (by repeat (first | exact View.le_refl _ | assumption | refine View.le_trans ?_ (by assumption))) c.wle,?_⟩
       subst hy))
  all_goals
    simp
    rw[hz]
    refine ab λx hx=>?_
    have hcode:=c.own.raw (k:=(0,1)) (e:=T.aZ) (B:=R2) (n:=7) (l:=[.slice a5 n5 k5,.slice none 0 0,.slice (some ⟨b3,0,none⟩) 1 1,.int .i64 0,.int .i64 0,.int .i64 0,.slice none 0 0,.int .i32 0]) Ri (i:=2) Yc
    simp only[List.getD_cons_succ,List.getD_cons_zero]at hcode
    have hVh:=View.le_trans (show V.le _ from(by repeat (first | exact View.le_refl _ | assumption | refine View.le_trans ?_ (by assumption)))) c.wle
    refine aP (vw h) (View.le_refl _) ?_
    refine bf λy hy=>?_
    simp[hcode,ae hVh i3,ae hVh s12,q0,ae hVh d0,ae hVh eL,ae hVh eQ]
    refine ay (t:=T.ff) (z:=.agg sZ.toArray) (places:=[(0,1),(1,1),(2,1),(3,1),(4,1),(5,1),(6,1),(7,1)]) (vs:=[(0,.int .i64 sum),(3,.int .i64 (nth s.i.args 0)),(4,.int .i64 s.temp)]) (cs:=#[.int .i64 sum,.int .i64 0,.int .i64 0,.int .i64 (nth s.i.args 0),.int .i64 s.temp,.int .i64 0,.int .i32 0,.slice none 0 0]) Ya Ya Sa Ya ?_
    refine⟨View.le_refl _,?_⟩
    subst hy
    refine bf λy hy=>?_
    simp
    refine cj (ops:=[.tmp 35]) (caps:=#[ptr O,ptr I,ptr P]) rfl Ya (tK mx (by repeat (first | exact View.le_refl _ | assumption | refine View.le_trans ?_ (by assumption))) c.wle (hm2 _) l2) ?_
    rintro um h7 ⟨hle7,hum⟩
    have hW7:=c.up (h':=h7)
    have c7:=c.ext hle7
    refine⟨hle7,?_⟩
    subst hy
    refine bf λy hy=>?_
    simp
    refine c7.kR (α:=bH) (n:=1) (vs:=[um]) (ds:=[jV s.i op plain ⟨sum,0,0,nth s.i.args 0,s.temp,0,⟨0⟩,[]⟩]) El.jt Sa ⟨hum,trivial⟩ rfl Yc Yc λu8 h8 W8 hW8 c8 s8 hle8=>?_
    refine⟨View.le_trans hle7 hle8,?_⟩
    subst hy
    refine bf λy hy=>?_
    simp
    refine bY (α:=bH) (v:=.slice (some ⟨b3,0,none⟩) 1 1) (u:=u8) (l:=[(⟨4,s.temp,0,0,0,0,s.i.imm,[]⟩:bH)]) (l2:=[jV s.i op plain ⟨sum,0,0,nth s.i.args 0,s.temp,0,⟨0⟩,[]⟩]) El.jt Sa Sa (c8.own.get (k:=(0,3)) Ri) (s8.src c8.wle) Sa Sa λv9 h9 o9 mv9=>?_
    have c9:=c8.jf (k:=(0,3)) Ri o9 mv9
    obtain⟨W9,hW9,c10,s10⟩:=c9.freeze (k:=(0,3)) (v:=v9) Ri
    obtain⟨a9,n9,k9,rfl⟩:=BO s10
    subst hy
    refine bf λy hy=>?_
    simp
    refine c10.dg (k:=(0,1)) (n:=7) (i:=2) (u:=.slice a9 n9 k9) (e:=T.aZ) (B:=R2) (l:=[.slice a5 n5 k5,.slice none 0 0,.slice (some ⟨b3,0,none⟩) 1 1,.int .i64 0,.int .i64 0,.int .i64 0,.slice none 0 0,.int .i32 0]) Ri Yc Ya Sa Sa rfl λh11 c11=>?_
    subst hy
    simp
    subst hx
    have hall:=c11.all (k:=(0,1)) (n:=7) (B:=R2) (e:=T.aZ) (l:=[.slice a5 n5 k5,.slice none 0 0,.slice a9 n9 k9,.int .i64 0,.int .i64 0,.int .i64 0,.slice none 0 0,.int .i32 0]) Ri
    simp at hall
    refine ab λx hx=>?_
    simp[hall]
    have hfit:Rd W9 (.agg #[.slice a5 n5 k5,.slice none 0 0,.slice a9 n9 k9,.int .i64 0,.int .i64 0,.int .i64 0,.slice none 0 0,.int .i32 0]) (⟨nth s.i.args 0::s.i.args.drop 1,[],[⟨4,s.temp,0,0,0,0,s.i.imm,[]⟩,jV s.i op plain ⟨sum,0,0,nth s.i.args 0,s.temp,0,⟨0⟩,[]⟩],eR⟩:FitD):=
      lI (v1:=.slice a5 n5 k5) (v2:=.slice none 0 0) (v3:=.slice a9 n9 k9) (huA.mono (by repeat (first | exact View.le_refl _ | assumption | refine View.le_trans ?_ (by assumption)))) aO s10 (kV Sa Yc aO)
    refine c11.bD (k:=(0,0)) (n:=7) (l:=fitZ) Ri hfit rfl rfl Ya Sa Sa λh12 l12 hl12 c12=>?_
    rw[hx]
    have hall:=c12.all (k:=(0,0)) (n:=7) (l:=l12) (B:=R) (e:=T.aZ) Ri
    simp at hall
    simp[hall]
    exact fin _ _ _ _ c12 (hl12▸hfit)
end
end Go.Proofs.YtnfiilgdjpdlkaaGreatDoor
namespace Go.Lft
open Go
section
variable {po po2:OP} {V W:View} {h0 h h':Heap} {o:Own} {k:Key} {P:Program} {ty:TypeId} {us:List (Nat × Value)}
theorem Cx.ed {α:Type} [Rep α] {t:TypeId} {z:Value} {d:α} {K:Value->Heap->Prop} (c:Cx V h0 W h o) (hk:o k=none) (hz:(P.info? t).map (·.zero)=some (some z)) (hr:Rd W (.agg z.cells) d) (hn:Rep.n α<=1000)
  (hK : ∀B h',(vw h).le (vw h')->Cx V h0 W h' (o.upd k (bx t B d))->K (.pointer (some ⟨B,0,none⟩)) h'):@step po P (.alloc t) ty us h K:=by
 refine _root_.Go.Lft.ed hz ?_;have q1:=bV h (.cells z.cells t);have b2:(h.push (.cells z.cells t))[h.size]? = some (.cells z.cells t (0,0)):=by simp
 generalize h.push (.cells z.cells t)=h2 at q1 b2;have hz2:(Value.agg z.cells).cells=z.cells:=rfl;refine hK _ _ q1 ⟨c.own.add hk (gQ (v:=.agg z.cells) (by rw[hz2];exact b2) hr hn) q1 λb hb=>by simp only[Value.ownBlock,Ln]at hb;omega,c.old,View.le_trans c.le0 q1,λj i b hj hb=>?_⟩;by_cases e:j=k
 ·subst e;rw[Own.aj]at hj;cases hj;cases hb;exact cG c.le0
 rw[Own.ak e]at hj;exact c.new j i b hj hb
theorem Own.cw {a b:Option Item}:(o.upd k a).upd k b=o.upd k b:=by funext q;unfold Own.upd;split<;>rfl
theorem Own.qO {a:Option Item} (hk:o k=none):(o.upd k a).upd k none=o:=by
 funext q;unfold Own.upd;split
 ·rename_i e;subst e;exact hk.symm
 rfl
theorem Cx.pA {α:Type} [Rep α] {e:TypeId} {B:Nat} {d:α} (c:Cx V h0 W h o) (hk:o k=bx e B d) : ∃W',W.le W'/\Cx V h0 W' h (o.upd k none)/\At W' ⟨B,0,none⟩ d:=by obtain⟨W',h1,h2,h3⟩:=c.freeze (v:=.slice (some ⟨B,0,none⟩) 1 1) (l:=[d]) hk;refine⟨W',h1,h2,?_⟩;have:=h3.at (i:=0) Sa;simpa[slA,Addr.z]using this
end
end Go.Lft
namespace Go.Proofs.YtnfiilgdjpdlkaaGreatDoor
open Go Go.Lft
abbrev insZ:List Value:=[.int .i64 0,.int .i64 0,.int .i64 0,.slice none 0 0,.int .i32 0]
section
variable {V:View} {h:Heap} {S I O P Q LL TT:Nat} {s:cu} {op plain sum:Int}
set_option maxHeartbeats 4000000 in
theorem GV (mx:Mx V S I O P Q LL TT s op plain sum) (hV:V.le (vw h)) (hok:lJ s) (hop:s.i.op=op) (ho:op=15\/op=16) (hp0:0<=sum/\sum<=100) :
    az Tryz.prog N.bG #[ptr S,ptr I,ptr LL,ptr Q,ptr TT] h (λu h'=>cg V h h' u (memS s.f s.i s.temp op plain sum 2)):=by
  refine aw (args:=[ptr S,ptr I,ptr LL,ptr Q,ptr TT]) follows F.bG E.bG (Lm Ya) λK hK=>?_
  dsimp only[L.bG,lkF,lkG]
  have c0:=Cx.start hV
  have l1:1<=s.i.args.length:=by
    rcases ho with q | q
    · exact hok.one.one (hop.trans q)
    · have:=hok.one.two (.inr (.inl (hop.trans q)));omega
  have l2:op=15\/2<=s.i.args.length:=ho.imp id λq=>hok.one.two (.inr (.inl (hop.trans q)))
  refine ab λz hz=>?_
  simp
  refine c0.cQ (k:=(0,0)) (n:=7) (z:=.agg fitZ.toArray) rfl Ya rfl Yc (by simp[Value.cells,Value.oneCell']) λR hb hleb cb=>?_
  subst hz
  have i4:=(mx.ct.ins.part InsD.jQ)
  have r4:=i4.nY
  have i4:ao V ⟨I,4,none⟩=some (.int .i32 s.i.imm.v):=by simpa using i4.i32
  obtain⟨va,i3,hva⟩:=(mx.ct.ins.part InsD.fj).sl
  have i3:ao V ⟨I,3,none⟩=some va:=by simpa using i3
  have a0:=hva.rng (i:=0) Yb
  have most:=hok.one.most
  have q0:=hva.idx1 (k:=.i64) (i:=0) rfl Yc Yb
  have d0:=hva.int (View.le_refl V) (i:=0) Yb
  simp at q0
  obtain⟨us,hus,rus⟩:=mx.ct.site.ldN rfl (N:=13) rfl
  have hus:=hus V (View.le_refl _)
  have hfm:=kh (f:=s.f) (v:=nth s.i.args 0) (op:=2)
  have hdo:memS s.f s.i s.temp op plain sum 2=if(aT s.f (nth s.i.args 0) 2).2&&decide (s.i.imm.v=0) then
      some ⟨nth (aT s.f (nth s.i.args 0) 2).1.args 0::nth (aT s.f (nth s.i.args 0) 2).1.args 1::s.i.args.drop 1,[nth s.i.args 0],
        [jV s.i op plain ⟨sum,0,0,nth (aT s.f (nth s.i.args 0) 2).1.args 0,nth (aT s.f (nth s.i.args 0) 2).1.args 1,0,⟨0⟩,[]⟩],eR⟩
    else none:=rfl
  have hF:=@mT s us (nth s.i.args 0) 2
  generalize (aT s.f (nth s.i.args 0) 2).1=m at *
  generalize (aT s.f (nth s.i.args 0) 2).2=b at *
  refine ab λz hz=>?_
  have rest : ∀(W:View) (hx:Heap) (B2:Nat) (ρ:Env),V.le W->Cx V h W hx (Own.upd (λ_=>none) (0,0) (bx T.aZ R (RawN.mk (n:=7) fitZ)))->At W ⟨B2,0,none⟩ m->
      Lft.look ρ 0=some (ptr S)->Lft.look ρ 1=some (ptr I)->Lft.look ρ 2=some (ptr LL)->Lft.look ρ 3=some (ptr Q)->Lft.look ρ 4=some (ptr TT)->Lft.look ρ 5=some (ptr R)->Lft.look ρ 7=some (ptr B2)->Lft.look ρ 8=some (.bool b)->
      LC.wp Tryz.prog z (dW [.un (.bM 8) (.tmp 5),.tmp 6] K) ρ hx:=by
    intro W hx B2 ρ hVW c hat g0 g1 g2 g3 g4 g5 g7 g8
    rw[hz]
    refine ab λx hx'=>?_
    have none_ : ∀(hy:Heap) (o:Own) (l9:List Value),Cx V h W hy o->Rd W (.agg l9.toArray) Fa->(b&&decide (s.i.imm.v=0))=false->K (.tuple #[.agg l9.toArray,.bool false]) hy:=λhy o l9 c hr e=>
      hK _ _ (cg.of c hr (by rw[hdo,e];rfl) λy e2=>by rw[hdo,e]at e2;cases e2)
    cases b with
    | false=>
      simp[g8,af,ag,g5]
      refine ay (t:=T.aZ) (z:=.agg fitZ.toArray) (places:=[(0,1),(1,1),(2,1),(3,5)]) (vs:=[]) (cs:=fitZ.toArray) Ya Ya Sa Ya ?_
      refine c.bD (k:=(0,0)) (n:=7) (l:=fitZ) Ri fY rfl rfl Ya Sa Sa λh9 l9 hl9 c9=>?_
      have hall:=c9.all (k:=(0,0)) (n:=7) (l:=l9) (B:=R) (e:=T.aZ) Ri
      simp at hall
      simp[hall]
      exact none_ _ _ _ c9 (hl9▸fY) rfl
    | true=>
      by_cases e0:s.i.imm.v=0
      · obtain⟨m1,m2,-⟩:=hfm rfl
        have hma:=(hok.all _ m1).two Yb
        obtain⟨vb,j3,hvb⟩:=(hat.part InsD.fj).sl
        have j3:ao W ⟨B2,3,none⟩=some vb:=by simpa using j3
        have b0:=hvb.rng (i:=0) Yb
        have b1:=hvb.rng (i:=1) Yb
        have q2:=hvb.idx1 (k:=.i64) (i:=0) rfl Yc Yb
        have q3:=hvb.idx1 (k:=.i64) (i:=1) rfl Yc Yb
        have d2:=hvb.int (View.le_refl W) (i:=0) Yb
        have d3:=hvb.int (View.le_refl W) (i:=1) Yb
        simp at q2 q3
        have i4':=ae hVW i4
        have i3:=ae hVW i3
        have d0:=ae hVW d0
        have eL:=ae hVW mx.laid
        have eT:=ae hVW mx.with_
        have eQ:=ae hVW mx.sum
        have mx:=mx.mono hVW
        simp[g0,g1,g2,g3,g4,g5,g7,g8,af,ag,ae c.wle i4',e0]
        rw[hx'];clear hx'
        have hm : ∀X,Rd X (.agg #[.int .i64 sum,.int .i64 0,.int .i64 0,.int .i64 (nth m.args 0),.int .i64 (nth m.args 1),.int .i64 0,.int .i32 0,.slice none 0 0]) (⟨sum,0,0,nth m.args 0,nth m.args 1,0,⟨0⟩,[]⟩:bH):=λX=>iK (imm:=⟨0⟩) (by simp;omega) Sa aO
        have fin : ∀(W:View) (hx:Heap) (o:Own) (l9:List Value),Cx V h W hx o->Rd W (.agg l9.toArray) (⟨nth m.args 0::nth m.args 1::s.i.args.drop 1,[nth s.i.args 0],[jV s.i op plain ⟨sum,0,0,nth m.args 0,nth m.args 1,0,⟨0⟩,[]⟩],eR⟩:FitD)->K (.tuple #[.agg l9.toArray,.bool true]) hx:=λW hx o l9 c hr=>
          hK _ _ (cg.of c hr (by rw[hdo];simp[e0]) λy e=>by rw[hdo,e0]at e;cases e;rfl)
        clear none_ hK
        refine ab λx hx'=>?_
        refine aP W c.wle ?_
        have hWV:W.le W:=View.le_refl _
        repeat' (first
          | refine gy ?_ ?_
          | (refine bf λy hy=>?_
             simp[g0,g1,g2,g3,g4,g5,g7,g8,af,ag,i3,j3,q0,q2,q3,d0,d2,d3,eL,eT,eQ]
             first
             | refine ay (t:=T.ff) (z:=.agg sZ.toArray) (places:=[(0,1),(1,1),(2,1),(3,1),(4,1),(5,1),(6,1),(7,1)]) (vs:=[(0,.int .i64 sum),(3,.int .i64 (nth m.args 0)),(4,.int .i64 (nth m.args 1))]) (cs:=#[.int .i64 sum,.int .i64 0,.int .i64 0,.int .i64 (nth m.args 0),.int .i64 (nth m.args 1),.int .i64 0,.int .i32 0,.slice none 0 0]) Ya Ya Sa Ya ?_
             | (refine c.tM (k:=(0,2)) (n:=2) (l:=[nth m.args 0,nth m.args 1]) Ri El.aY ?_ ?_ rfl Yc λuA h hle c=>?_
                · simp;done
                · simp;omega)
             | (refine c.kR (α:=Int) (n:=1) (vs:=[.int .i64 (nth s.i.args 0)]) (ds:=[nth s.i.args 0]) El.aY ?_ ⟨bK.2 ⟨rfl,a0⟩,trivial⟩ rfl Yc Yc λuB h W hW c huB hle=>?_
                · simp;done)
             | (refine cj (ops:=[.tmp 36]) (caps:=#[ptr O,ptr I,ptr P]) rfl Ya (tK mx (by repeat (first | exact View.le_refl _ | assumption | refine View.le_trans ?_ (by assumption))) c.wle (hm _) l2) ?_
                rintro um h ⟨hle,hum⟩
                have hW:=c.up (h':=h)
                have c:=c.ext hle)
             | (refine cj (ops:=[.tmp 47]) (caps:=#[ptr I]) rfl Ya (tG mx (by repeat (first | exact View.le_refl _ | assumption | refine View.le_trans ?_ (by assumption))) c.wle (c.own.get (k:=(0,2)) (v:=uA) (l:=[nth m.args 0,nth m.args 1]) Ri) Sa l1 Yb) ?_
                rintro uw h ⟨own2,mv⟩
                have c:=c.jf (k:=(0,2)) (v:=uA) (l:=[nth m.args 0,nth m.args 1]) Ri own2 mv
                obtain⟨W,hW,c,huA⟩:=c.freeze (k:=(0,2)) (v:=uw) (l:=[nth m.args 0,nth m.args 1]++s.i.args.drop 1) Ri)
             | (refine ah Ya (ko c.wle (hum.mono (by repeat (first | exact View.le_refl _ | assumption | refine View.le_trans ?_ (by assumption)))) (huA.mono (by repeat (first | exact View.le_refl _ | assumption | refine View.le_trans ?_ (by assumption)))) (huB.mono (by repeat (first | exact View.le_refl _ | assumption | refine View.le_trans ?_ (by assumption))))) ?_
                rintro _ h ⟨hle,vf,rfl,hvf⟩
                have hW:=c.up (h':=h)
                have c:=c.ext hle)
             | refine c.bD (k:=(0,0)) (n:=7) (l:=fitZ) Ri hvf rfl rfl Ya Sa Sa λh l9 hl9 c=>?_
             try refine⟨View.le_trans (by repeat (first | exact View.le_refl _ | assumption | refine View.le_trans ?_ (by assumption))) c.wle,?_⟩
             subst hy))
        all_goals
          simp[g0,g1,g2,g3,g4,g5,g7,g8,af,ag]
          rw[hx']
          have hall:=c.all (k:=(0,0)) (n:=7) (l:=l9) (B:=R) (e:=T.aZ) Ri
          simp at hall
          simp[g0,g1,g2,g3,g4,g5,g7,g8,af,ag,hall]
          exact fin _ _ _ _ c (hl9▸hvf)
      · simp[g0,g1,g2,g3,g4,g5,g7,g8,af,ag,ae c.wle (ae hVW i4),e0]
        refine ay (t:=T.aZ) (z:=.agg fitZ.toArray) (places:=[(0,1),(1,1),(2,1),(3,5)]) (vs:=[]) (cs:=fitZ.toArray) Ya Ya Sa Ya ?_
        refine c.bD (k:=(0,0)) (n:=7) (l:=fitZ) Ri fY rfl rfl Ya Sa Sa λh9 l9 hl9 c9=>?_
        have hall:=c9.all (k:=(0,0)) (n:=7) (l:=l9) (B:=R) (e:=T.aZ) Ri
        simp at hall
        simp[hall]
        exact none_ _ _ _ c9 (hl9▸fY) (by simp[e0])
  refine aP V cb.wle ?_
  have c:=cb
  refine gy ?_ ?_
  · refine bf λy hy=>?_
    simp[hus,i3,q0,d0]
    refine ah Ya (hF c.wle rus hok.sm a0) ?_
    rintro _ h1 ⟨hle1,vm,rfl,hvm⟩
    have hW1:=c.up (h':=h1)
    have c:=c.ext hle1
    subst hy
    refine bf λy hy=>?_
    simp
    refine c.ed (k:=(0,4)) (z:=.agg insZ.toArray) (d:=iA) Ri Ya lS Yc λB2 h2 hle2 c=>?_
    subst hy
    refine bf λy hy=>?_
    simp
    refine c.gH Part.all (k:=(0,4)) (D:=iA) (d:=m) Ri Ya Sa Sa hvm λh3 c=>?_
    subst hy
    simp
    obtain⟨W4,hW4,c,hat⟩:=c.pA (k:=(0,4)) (B:=B2) (d:=m) Ri
    rw[Own.cw,Own.qO Ri]at c
    exact rest _ _ _ _ (View.le_trans hW1 hW4) c hat rfl rfl rfl rfl rfl rfl rfl rfl
  · refine bf λy hy=>?_
    simp[hus,i3,q0,d0]
    refine c.ed (k:=(0,4)) (z:=.agg insZ.toArray) (d:=iA) Ri Ya lS Yc λB2 h2 hle2 c=>?_
    refine⟨c.wle,?_⟩
    subst hy
    refine bf λy hy=>?_
    simp
    refine ah Ya (hF c.wle rus hok.sm a0) ?_
    rintro _ h1 ⟨hle1,vm,rfl,hvm⟩
    have hW1:=c.up (h':=h1)
    have c:=c.ext hle1
    subst hy
    refine bf λy hy=>?_
    simp
    refine c.gH Part.all (k:=(0,4)) (D:=iA) (d:=m) Ri Ya Sa Sa hvm λh3 c=>?_
    subst hy
    simp
    obtain⟨W4,hW4,c,hat⟩:=c.pA (k:=(0,4)) (B:=B2) (d:=m) Ri
    rw[Own.cw,Own.qO Ri]at c
    exact rest _ _ _ _ (View.le_trans hW1 hW4) c hat rfl rfl rfl rfl rfl rfl rfl rfl
end
end Go.Proofs.YtnfiilgdjpdlkaaGreatDoor
namespace Go.Lft
open Go
def Cm (subs:List (Array Bool × Reg)) (l:Array Bool):Option Reg:=(subs.find? λp=>p.1 == l).map (·.2)
theorem Df{subs:List (Array Bool × Reg)}{l:Array Bool}{R:Reg}(h:Cm subs l=some R):(l,R)∈subs:=by
 unfold Cm at h;rw[Lq]at h;obtain⟨p,hp,rfl⟩:=h;have h1:=O5 hp;have h2:=Nl hp;have:p.1=l:=by simpa using h1
 subst this;exact h2
def Ik (P:Program) (N:Nat) (ops:Array Oper) (live:List Nat) (l0:Option Nat) (listed:Array Bool) (subs:List (Array Bool × Reg)):Option Reg:=
 match nr P ops l0 ops.size listed with
 | none=>none
 | some (qs,l1)=>match rdy ops l1 with
  | []=>zi P N ops live (lU ops qs)
  | rs=>ji (λi=>match ops[i]? with
   | none=>none
   | some o=>match Cm subs (l1.setIfInBounds i true)with
    | some next=>sA P N ops live (lU ops qs) o (wj ops (l1.setIfInBounds i true)) (l0 == some i) next
    | none=>none) rs
theorem pV {f g:Nat->Option Reg} (h : ∀i X,f i=some X->g i=some X) : ∀{rs:List Nat} {R:Reg},ji f rs=some R->ji g rs=some R
 | [],_,e=>by cases e
 | [i],_,e=>h i _ e
 | i::j::rs,R,e=>by
  unfold ji at e ⊢;cases h1:f i with
  | none=>rw[h1]at e;cases e
  | some x=>
   cases h2:ji f (j::rs)with
   | none=>rw[h1,h2]at e;cases e
   | some y=>rw[h1,h2]at e;rw[h i x h1,pV h h2];exact e
theorem bT{P:Program}{N:Nat}{ops:Array Oper}{live:List Nat}{l0:Option Nat}{listed:Array Bool}{subs:List (Array Bool × Reg)}{R:Reg}{f:Nat}(h:Ik P N ops live l0 listed subs=some R)(hs : ∀p∈subs,regD P N ops live l0 f p.1=some p.2):regD P N ops live l0 (f+1) listed=some R:=by
 unfold Ik at h;unfold regD;split at h
 ·cases h
 rename_i qs l1 hq;rw[hq];simp only;split at h
 ·rename_i hr;rw[hr];exact h
 rename_i hne;split
 ·rename_i hr;exact absurd hr hne
 refine pV (λi X e=>?_) h;cases ho:ops[i]? with
 | none=>rw[ho]at e;cases e
 | some o=>
  rw[ho]at e;simp only at e ⊢;cases hb:Cm subs (l1.setIfInBounds i true)with
  | none=>rw[hb]at e;cases e
  | some next=>rw[hb]at e;rw[hs _ (Df hb)];exact e
def seqL:Code->Code | .seq x _=>x | x=>x
def seqR:Code->Code | .seq _ y=>y | x=>x
def H4:Code->Bool | .seq _ _=>true | _=>false
def opsR:Code->Array Oper | .region _ ops _=>ops | _=>#[]
def Ci:Code->Bool | .region _ ops d=>d&&ops.all λo=>eH o.op | _=>false
theorem ku{P:Program}{N:Nat}{lv lr:List Nat}{b:Bool}{c:Code}{x y:LC}(hc:H4 c=true)(h1:eJ P N lv lr b (seqL c)=some x)(h2:eJ P N lv lr b (seqR c)=some y):eJ P N lv lr b c=some (.seq x y):=by cases c<;>simp[H4]at hc;simp only[seqL,seqR]at h1 h2;simp only[eJ,h1,h2]
theorem xQ{P:Program}{N:Nat}{lv lr:List Nat}{b:Bool}{c:Code}{R:Reg}{l0:Option Nat}{n:Nat}(hc:Ci c=true)(h0:zZ P (opsR c)=l0)(hn:(opsR c).size=n)(h:regD P N (opsR c) lv l0 (n+1) (Array.replicate n false)=some R):eJ P N lv lr b c=some (.reg true R):=by subst h0;subst hn;cases c<;>simp[Ci]at hc;simp only[opsR]at h;simp only[eJ];rw[if_pos hc.1,if_pos (by simpa using hc.2),h];rfl
def rF (fn:Func):Code:=fn.body.getD .skip
theorem GP{P:Program}{fn:Func}{res:List E}{x:LC}{lv lr:List Nat}{n:Nat}(hb:fn.body.isSome=true)(hr:fn.results.toList.mapM (resE P)=some res)(h1:kD (rF fn)++sK fn (rF fn)=lv)(h2:sK fn (rF fn)=lr)(hn:fn.ntmps=n)(h:eJ P n lv lr false (rF fn)=some x):aV P fn=some ⟨res,x⟩:=by
 subst h1;subst h2;subst hn;unfold rF at h;unfold aV;cases hb':fn.body with
 | none=>rw[hb']at hb;cases hb
 | some c=>rw[hb']at h;simp only[O2]at h;simp only[hr,h]
end Go.Lft
namespace Go.Proofs.YtnfiilgdjpdlkaaGreatDoor
open Go Go.Lft
section
set_option maxRecDepth 100000
noncomputable def L.aa.q0.ops:Array Oper:=opsR (seqL (seqR (seqR (seqR (seqR (rF Tryz.f133))))))
def L.aa.q0.r0:Reg:=(.fin [11] [] [(.tmp 65)])
def L.aa.q0.r1:Reg:=(.loud [] [] [(10,(.tmp 10)),(64,(.tmp 64))] none [] false (.store 101 (.tmp 10) (.tmp 64)) 0 none false L.aa.q0.r0)
def L.aa.q0.r2:Reg:=(.loud [33,64,65] [(64,(.un (.ext 0) (.tmp 63))),(65,(.un (.ext 1) (.tmp 63)))] [] none [] false (.alloc 101) 0 (some 10) true L.aa.q0.r1)
def L.aa.q0.r3:Reg:=(.loud [33,64,65] [(65,(.un (.ext 1) (.tmp 63)))] [(10,(.tmp 10)),(64,(.un (.ext 0) (.tmp 63)))] none [] false (.store 101 (.tmp 10) (.tmp 64)) 0 none false L.aa.q0.r0)
def L.aa.q0.r4:Reg:=(.loud [] [] [(46,(.tmp 46)),(53,(.tmp 53)),(62,(.tmp 62))] none [] true (.call ⟨.value (.func 104),#[(.tmp 46),(.tmp 53),(.tmp 62)],#[80,22,22]⟩) 102 (some 63) true L.aa.q0.r3)
def L.aa.q0.r5:Reg:=(.both (.loud [] [] [(46,(.tmp 46)),(53,(.tmp 53)),(62,(.tmp 62))] none [] true (.call ⟨.value (.func 104),#[(.tmp 46),(.tmp 53),(.tmp 62)],#[80,22,22]⟩) 102 (some 63) true L.aa.q0.r2)
 (.loud [] [] [] none [] false (.alloc 101) 0 (some 10) true L.aa.q0.r4))
def L.aa.q0.r6:Reg:=(.loud [] [] [(57,(.tmp 57)),(61,(.tmp 61))] none [] false (.buildSlice 22 2 #[(0,(.tmp 57)),(1,(.tmp 61))]) 22 (some 62) true L.aa.q0.r4)
def L.aa.q0.r7:Reg:=(.both (.loud [] [] [(57,(.tmp 57)),(61,(.tmp 61))] none [] false (.buildSlice 22 2 #[(0,(.tmp 57)),(1,(.tmp 61))]) 22 (some 62) true L.aa.q0.r5)
 (.loud [] [] [] none [] false (.alloc 101) 0 (some 10) true L.aa.q0.r6))
def L.aa.q0.r8:Reg:=(.loud [] [] [(47,(.tmp 47)),(52,(.tmp 52))] none [] false (.call ⟨.value (.tmp 47),#[(.tmp 52)],#[22]⟩) 22 (some 53) true L.aa.q0.r4)
def L.aa.q0.r9:Reg:=(.both (.loud [] [] [(47,(.tmp 47)),(52,(.tmp 52))] none [] false (.call ⟨.value (.tmp 47),#[(.tmp 52)],#[22]⟩) 22 (some 53) true L.aa.q0.r5)
 (.loud [] [] [] none [] false (.alloc 101) 0 (some 10) true L.aa.q0.r8))
def L.aa.q0.r10:Reg:=(.both (.loud [] [] [(47,(.tmp 47)),(52,(.tmp 52))] none [] false (.call ⟨.value (.tmp 47),#[(.tmp 52)],#[22]⟩) 22 (some 53) true L.aa.q0.r6)
 (.loud [] [] [(57,(.tmp 57)),(61,(.tmp 61))] none [] false (.buildSlice 22 2 #[(0,(.tmp 57)),(1,(.tmp 61))]) 22 (some 62) true L.aa.q0.r8))
def L.aa.q0.r11:Reg:=(.both (.loud [] [] [(47,(.tmp 47)),(52,(.tmp 52))] none [] false (.call ⟨.value (.tmp 47),#[(.tmp 52)],#[22]⟩) 22 (some 53) true L.aa.q0.r7)
 (.both (.loud [] [] [(57,(.tmp 57)),(61,(.tmp 61))] none [] false (.buildSlice 22 2 #[(0,(.tmp 57)),(1,(.tmp 61))]) 22 (some 62) true L.aa.q0.r9)
 (.loud [] [] [] none [] false (.alloc 101) 0 (some 10) true L.aa.q0.r10)))
def L.aa.q0.r12:Reg:=(.loud [] [] [(51,(.tmp 51))] none [] false (.buildSlice 22 1 #[(0,(.tmp 51))]) 22 (some 52) true L.aa.q0.r8)
def L.aa.q0.r13:Reg:=(.both (.loud [] [] [(51,(.tmp 51))] none [] false (.buildSlice 22 1 #[(0,(.tmp 51))]) 22 (some 52) true L.aa.q0.r9)
 (.loud [] [] [] none [] false (.alloc 101) 0 (some 10) true L.aa.q0.r12))
def L.aa.q0.r14:Reg:=(.both (.loud [] [] [(51,(.tmp 51))] none [] false (.buildSlice 22 1 #[(0,(.tmp 51))]) 22 (some 52) true L.aa.q0.r10)
 (.loud [] [] [(57,(.tmp 57)),(61,(.tmp 61))] none [] false (.buildSlice 22 2 #[(0,(.tmp 57)),(1,(.tmp 61))]) 22 (some 62) true L.aa.q0.r12))
def L.aa.q0.r15:Reg:=(.both (.loud [] [] [(51,(.tmp 51))] none [] false (.buildSlice 22 1 #[(0,(.tmp 51))]) 22 (some 52) true L.aa.q0.r11)
 (.both (.loud [] [] [(57,(.tmp 57)),(61,(.tmp 61))] none [] false (.buildSlice 22 2 #[(0,(.tmp 57)),(1,(.tmp 61))]) 22 (some 62) true L.aa.q0.r13)
 (.loud [] [] [] none [] false (.alloc 101) 0 (some 10) true L.aa.q0.r14)))
def L.aa.q0.r16:Reg:=(.loud [] [] [(34,(.tmp 34)),(45,(.tmp 45))] none [] false (.call ⟨.value (.tmp 34),#[(.tmp 45)],#[80]⟩) 80 (some 46) true L.aa.q0.r8)
def L.aa.q0.r17:Reg:=(.both (.loud [] [] [(34,(.tmp 34)),(45,(.tmp 45))] none [] false (.call ⟨.value (.tmp 34),#[(.tmp 45)],#[80]⟩) 80 (some 46) true L.aa.q0.r9)
 (.loud [] [] [] none [] false (.alloc 101) 0 (some 10) true L.aa.q0.r16))
def L.aa.q0.r18:Reg:=(.both (.loud [] [] [(34,(.tmp 34)),(45,(.tmp 45))] none [] false (.call ⟨.value (.tmp 34),#[(.tmp 45)],#[80]⟩) 80 (some 46) true L.aa.q0.r10)
 (.loud [] [] [(57,(.tmp 57)),(61,(.tmp 61))] none [] false (.buildSlice 22 2 #[(0,(.tmp 57)),(1,(.tmp 61))]) 22 (some 62) true L.aa.q0.r16))
def L.aa.q0.r19:Reg:=(.both (.loud [] [] [(34,(.tmp 34)),(45,(.tmp 45))] none [] false (.call ⟨.value (.tmp 34),#[(.tmp 45)],#[80]⟩) 80 (some 46) true L.aa.q0.r11)
 (.both (.loud [] [] [(57,(.tmp 57)),(61,(.tmp 61))] none [] false (.buildSlice 22 2 #[(0,(.tmp 57)),(1,(.tmp 61))]) 22 (some 62) true L.aa.q0.r17)
 (.loud [] [] [] none [] false (.alloc 101) 0 (some 10) true L.aa.q0.r18)))
def L.aa.q0.r20:Reg:=(.both (.loud [] [] [(34,(.tmp 34)),(45,(.tmp 45))] none [] false (.call ⟨.value (.tmp 34),#[(.tmp 45)],#[80]⟩) 80 (some 46) true L.aa.q0.r12)
 (.loud [] [] [(51,(.tmp 51))] none [] false (.buildSlice 22 1 #[(0,(.tmp 51))]) 22 (some 52) true L.aa.q0.r16))
def L.aa.q0.r21:Reg:=(.both (.loud [] [] [(34,(.tmp 34)),(45,(.tmp 45))] none [] false (.call ⟨.value (.tmp 34),#[(.tmp 45)],#[80]⟩) 80 (some 46) true L.aa.q0.r13)
 (.both (.loud [] [] [(51,(.tmp 51))] none [] false (.buildSlice 22 1 #[(0,(.tmp 51))]) 22 (some 52) true L.aa.q0.r17)
 (.loud [] [] [] none [] false (.alloc 101) 0 (some 10) true L.aa.q0.r20)))
def L.aa.q0.r22:Reg:=(.both (.loud [] [] [(34,(.tmp 34)),(45,(.tmp 45))] none [] false (.call ⟨.value (.tmp 34),#[(.tmp 45)],#[80]⟩) 80 (some 46) true L.aa.q0.r14)
 (.both (.loud [] [] [(51,(.tmp 51))] none [] false (.buildSlice 22 1 #[(0,(.tmp 51))]) 22 (some 52) true L.aa.q0.r18)
 (.loud [] [] [(57,(.tmp 57)),(61,(.tmp 61))] none [] false (.buildSlice 22 2 #[(0,(.tmp 57)),(1,(.tmp 61))]) 22 (some 62) true L.aa.q0.r20)))
def L.aa.q0.r23:Reg:=(.both (.loud [] [] [(34,(.tmp 34)),(45,(.tmp 45))] none [] false (.call ⟨.value (.tmp 34),#[(.tmp 45)],#[80]⟩) 80 (some 46) true L.aa.q0.r15)
 (.both (.loud [] [] [(51,(.tmp 51))] none [] false (.buildSlice 22 1 #[(0,(.tmp 51))]) 22 (some 52) true L.aa.q0.r19)
 (.both (.loud [] [] [(57,(.tmp 57)),(61,(.tmp 61))] none [] false (.buildSlice 22 2 #[(0,(.tmp 57)),(1,(.tmp 61))]) 22 (some 62) true L.aa.q0.r21)
 (.loud [] [] [] none [] false (.alloc 101) 0 (some 10) true L.aa.q0.r22))))
def L.aa.q0.r24:Reg:=(.loud [] [] [(35,(.tmp 35)),(39,(.tmp 39)),(44,(.tmp 44))] none [] false (.build 80 #[(0,(.tmp 35)),(3,(.tmp 39)),(6,(.tmp 44))]) 80 (some 45) true L.aa.q0.r16)
def L.aa.q0.r25:Reg:=(.both (.loud [] [] [(35,(.tmp 35)),(39,(.tmp 39)),(44,(.tmp 44))] none [] false (.build 80 #[(0,(.tmp 35)),(3,(.tmp 39)),(6,(.tmp 44))]) 80 (some 45) true L.aa.q0.r17)
 (.loud [] [] [] none [] false (.alloc 101) 0 (some 10) true L.aa.q0.r24))
def L.aa.q0.r26:Reg:=(.both (.loud [] [] [(35,(.tmp 35)),(39,(.tmp 39)),(44,(.tmp 44))] none [] false (.build 80 #[(0,(.tmp 35)),(3,(.tmp 39)),(6,(.tmp 44))]) 80 (some 45) true L.aa.q0.r18)
 (.loud [] [] [(57,(.tmp 57)),(61,(.tmp 61))] none [] false (.buildSlice 22 2 #[(0,(.tmp 57)),(1,(.tmp 61))]) 22 (some 62) true L.aa.q0.r24))
def L.aa.q0.r27:Reg:=(.both (.loud [] [] [(35,(.tmp 35)),(39,(.tmp 39)),(44,(.tmp 44))] none [] false (.build 80 #[(0,(.tmp 35)),(3,(.tmp 39)),(6,(.tmp 44))]) 80 (some 45) true L.aa.q0.r19)
 (.both (.loud [] [] [(57,(.tmp 57)),(61,(.tmp 61))] none [] false (.buildSlice 22 2 #[(0,(.tmp 57)),(1,(.tmp 61))]) 22 (some 62) true L.aa.q0.r25)
 (.loud [] [] [] none [] false (.alloc 101) 0 (some 10) true L.aa.q0.r26)))
def L.aa.q0.r28:Reg:=(.both (.loud [] [] [(35,(.tmp 35)),(39,(.tmp 39)),(44,(.tmp 44))] none [] false (.build 80 #[(0,(.tmp 35)),(3,(.tmp 39)),(6,(.tmp 44))]) 80 (some 45) true L.aa.q0.r20)
 (.loud [] [] [(51,(.tmp 51))] none [] false (.buildSlice 22 1 #[(0,(.tmp 51))]) 22 (some 52) true L.aa.q0.r24))
def L.aa.q0.r29:Reg:=(.both (.loud [] [] [(35,(.tmp 35)),(39,(.tmp 39)),(44,(.tmp 44))] none [] false (.build 80 #[(0,(.tmp 35)),(3,(.tmp 39)),(6,(.tmp 44))]) 80 (some 45) true L.aa.q0.r21)
 (.both (.loud [] [] [(51,(.tmp 51))] none [] false (.buildSlice 22 1 #[(0,(.tmp 51))]) 22 (some 52) true L.aa.q0.r25)
 (.loud [] [] [] none [] false (.alloc 101) 0 (some 10) true L.aa.q0.r28)))
def L.aa.q0.r30:Reg:=(.both (.loud [] [] [(35,(.tmp 35)),(39,(.tmp 39)),(44,(.tmp 44))] none [] false (.build 80 #[(0,(.tmp 35)),(3,(.tmp 39)),(6,(.tmp 44))]) 80 (some 45) true L.aa.q0.r22)
 (.both (.loud [] [] [(51,(.tmp 51))] none [] false (.buildSlice 22 1 #[(0,(.tmp 51))]) 22 (some 52) true L.aa.q0.r26)
 (.loud [] [] [(57,(.tmp 57)),(61,(.tmp 61))] none [] false (.buildSlice 22 2 #[(0,(.tmp 57)),(1,(.tmp 61))]) 22 (some 62) true L.aa.q0.r28)))
def L.aa.q0.r31:Reg:=(.both (.loud [34,35,36,37,38,39,40,41,42,43,44,47,48,49,50,51,54,55,56,57,58,59,60,61] [(34,(.un .load (.tmp 2))),(47,(.un .load (.tmp 4))),(51,(.un .load (.bin (.idx 1) (.un .load (.un (.fld 3) (.tmp 7))) (.con (.int .i64 0))))),(57,(.un .load (.bin (.idx 1) (.un .load (.un (.fld 3) (.tmp 1))) (.con (.int .i64 0))))),(61,(.un .load (.bin (.idx 1) (.un .load (.un (.fld 3) (.tmp 7))) (.con (.int .i64 1)))))] [(35,(.un .load (.tmp 3))),(39,(.un .load (.bin (.idx 1) (.un .load (.un (.fld 3) (.tmp 7))) (.con (.int .i64 0))))),(44,(.bin (.arith .add) (.un (.conv .i32) (.tmp 9)) (.un .load (.un (.fld 4) (.tmp 1)))))] none [] false (.build 80 #[(0,(.tmp 35)),(3,(.tmp 39)),(6,(.tmp 44))]) 80 (some 45) true L.aa.q0.r23)
 (.both (.loud [34,35,36,37,38,39,40,41,42,43,44,47,48,49,50,51,54,55,56,57,58,59,60,61] [(34,(.un .load (.tmp 2))),(35,(.un .load (.tmp 3))),(39,(.un .load (.bin (.idx 1) (.un .load (.un (.fld 3) (.tmp 7))) (.con (.int .i64 0))))),(44,(.bin (.arith .add) (.un (.conv .i32) (.tmp 9)) (.un .load (.un (.fld 4) (.tmp 1))))),(47,(.un .load (.tmp 4))),(57,(.un .load (.bin (.idx 1) (.un .load (.un (.fld 3) (.tmp 1))) (.con (.int .i64 0))))),(61,(.un .load (.bin (.idx 1) (.un .load (.un (.fld 3) (.tmp 7))) (.con (.int .i64 1)))))] [(51,(.un .load (.bin (.idx 1) (.un .load (.un (.fld 3) (.tmp 7))) (.con (.int .i64 0)))))] none [] false (.buildSlice 22 1 #[(0,(.tmp 51))]) 22 (some 52) true L.aa.q0.r27)
 (.both (.loud [34,35,36,37,38,39,40,41,42,43,44,47,48,49,50,51,54,55,56,57,58,59,60,61] [(34,(.un .load (.tmp 2))),(35,(.un .load (.tmp 3))),(39,(.un .load (.bin (.idx 1) (.un .load (.un (.fld 3) (.tmp 7))) (.con (.int .i64 0))))),(44,(.bin (.arith .add) (.un (.conv .i32) (.tmp 9)) (.un .load (.un (.fld 4) (.tmp 1))))),(47,(.un .load (.tmp 4))),(51,(.un .load (.bin (.idx 1) (.un .load (.un (.fld 3) (.tmp 7))) (.con (.int .i64 0)))))] [(57,(.un .load (.bin (.idx 1) (.un .load (.un (.fld 3) (.tmp 1))) (.con (.int .i64 0))))),(61,(.un .load (.bin (.idx 1) (.un .load (.un (.fld 3) (.tmp 7))) (.con (.int .i64 1)))))] none [] false (.buildSlice 22 2 #[(0,(.tmp 57)),(1,(.tmp 61))]) 22 (some 62) true L.aa.q0.r29)
 (.loud [34,35,36,37,38,39,40,41,42,43,44,47,48,49,50,51,54,55,56,57,58,59,60,61] [(34,(.un .load (.tmp 2))),(35,(.un .load (.tmp 3))),(39,(.un .load (.bin (.idx 1) (.un .load (.un (.fld 3) (.tmp 7))) (.con (.int .i64 0))))),(44,(.bin (.arith .add) (.un (.conv .i32) (.tmp 9)) (.un .load (.un (.fld 4) (.tmp 1))))),(47,(.un .load (.tmp 4))),(51,(.un .load (.bin (.idx 1) (.un .load (.un (.fld 3) (.tmp 7))) (.con (.int .i64 0))))),(57,(.un .load (.bin (.idx 1) (.un .load (.un (.fld 3) (.tmp 1))) (.con (.int .i64 0))))),(61,(.un .load (.bin (.idx 1) (.un .load (.un (.fld 3) (.tmp 7))) (.con (.int .i64 1)))))] [] none [] false (.alloc 101) 0 (some 10) true L.aa.q0.r30))))
theorem E.aa.q0r0:regD Tryz.prog 76 L.aa.q0.ops [22,5,6,1,0,8,5,7,4,9,3,2,10] (some 29) 29 (Za 36 34359738367)=some L.aa.q0.r0:=bT (subs:=[]) Ya (λ_ h=>by cases h)
theorem E.aa.q0r1:regD Tryz.prog 76 L.aa.q0.ops [22,5,6,1,0,8,5,7,4,9,3,2,10] (some 29) 30 (Za 36 17179869183)=some L.aa.q0.r1:=bT (subs:=[((Za 36 34359738367),L.aa.q0.r0)]) Ya (Lo.2 ⟨E.aa.q0r0,λ_ h=>by cases h⟩)
theorem E.aa.q0r2:regD Tryz.prog 76 L.aa.q0.ops [22,5,6,1,0,8,5,7,4,9,3,2,10] (some 29) 31 (Za 36 1073741823)=some L.aa.q0.r2:=bT (subs:=[((Za 36 17179869183),L.aa.q0.r1)]) Ya (Lo.2 ⟨E.aa.q0r1,λ_ h=>by cases h⟩)
theorem E.aa.q0r3:regD Tryz.prog 76 L.aa.q0.ops [22,5,6,1,0,8,5,7,4,9,3,2,10] (some 29) 30 (Za 36 9663676415)=some L.aa.q0.r3:=bT (subs:=[((Za 36 34359738367),L.aa.q0.r0)]) Ya (Lo.2 ⟨E.aa.q0r0,λ_ h=>by cases h⟩)
theorem E.aa.q0r4:regD Tryz.prog 76 L.aa.q0.ops [22,5,6,1,0,8,5,7,4,9,3,2,10] (some 29) 31 (Za 36 9126805503)=some L.aa.q0.r4:=bT (subs:=[((Za 36 9663676415),L.aa.q0.r3)]) Ya (Lo.2 ⟨E.aa.q0r3,λ_ h=>by cases h⟩)
theorem E.aa.q0r5:regD Tryz.prog 76 L.aa.q0.ops [22,5,6,1,0,8,5,7,4,9,3,2,10] (some 29) 32 (Za 36 536870911)=some L.aa.q0.r5:=bT (subs:=[((Za 36 1073741823),L.aa.q0.r2),((Za 36 9126805503),L.aa.q0.r4)]) Ya (Lo.2 ⟨E.aa.q0r2,Lo.2 ⟨E.aa.q0r4,λ_ h=>by cases h⟩⟩)
theorem E.aa.q0r6:regD Tryz.prog 76 L.aa.q0.ops [22,5,6,1,0,8,5,7,4,9,3,2,10] (some 29) 32 (Za 36 8858370047)=some L.aa.q0.r6:=bT (subs:=[((Za 36 9126805503),L.aa.q0.r4)]) Ya (Lo.2 ⟨E.aa.q0r4,λ_ h=>by cases h⟩)
theorem E.aa.q0r7:regD Tryz.prog 76 L.aa.q0.ops [22,5,6,1,0,8,5,7,4,9,3,2,10] (some 29) 33 (Za 36 268435455)=some L.aa.q0.r7:=bT (subs:=[((Za 36 536870911),L.aa.q0.r5),((Za 36 8858370047),L.aa.q0.r6)]) Ya (Lo.2 ⟨E.aa.q0r5,Lo.2 ⟨E.aa.q0r6,λ_ h=>by cases h⟩⟩)
theorem E.aa.q0r8:regD Tryz.prog 76 L.aa.q0.ops [22,5,6,1,0,8,5,7,4,9,3,2,10] (some 29) 32 (Za 36 9126281215)=some L.aa.q0.r8:=bT (subs:=[((Za 36 9126805503),L.aa.q0.r4)]) Ya (Lo.2 ⟨E.aa.q0r4,λ_ h=>by cases h⟩)
theorem E.aa.q0r9:regD Tryz.prog 76 L.aa.q0.ops [22,5,6,1,0,8,5,7,4,9,3,2,10] (some 29) 33 (Za 36 536346623)=some L.aa.q0.r9:=bT (subs:=[((Za 36 536870911),L.aa.q0.r5),((Za 36 9126281215),L.aa.q0.r8)]) Ya (Lo.2 ⟨E.aa.q0r5,Lo.2 ⟨E.aa.q0r8,λ_ h=>by cases h⟩⟩)
theorem E.aa.E3:regD Tryz.prog 76 L.aa.q0.ops [22,5,6,1,0,8,5,7,4,9,3,2,10] (some 29) 33 (Za 36 8857845759)=some L.aa.q0.r10:=bT (subs:=[((Za 36 8858370047),L.aa.q0.r6),((Za 36 9126281215),L.aa.q0.r8)]) Ya (Lo.2 ⟨E.aa.q0r6,Lo.2 ⟨E.aa.q0r8,λ_ h=>by cases h⟩⟩)
theorem E.aa.HW:regD Tryz.prog 76 L.aa.q0.ops [22,5,6,1,0,8,5,7,4,9,3,2,10] (some 29) 34 (Za 36 267911167)=some L.aa.q0.r11:=bT (subs:=[((Za 36 268435455),L.aa.q0.r7),((Za 36 536346623),L.aa.q0.r9),((Za 36 8857845759),L.aa.q0.r10)]) Ya (Lo.2 ⟨E.aa.q0r7,Lo.2 ⟨E.aa.q0r9,Lo.2 ⟨E.aa.E3,λ_ h=>by cases h⟩⟩⟩)
theorem E.aa.EH:regD Tryz.prog 76 L.aa.q0.ops [22,5,6,1,0,8,5,7,4,9,3,2,10] (some 29) 33 (Za 36 9126019071)=some L.aa.q0.r12:=bT (subs:=[((Za 36 9126281215),L.aa.q0.r8)]) Ya (Lo.2 ⟨E.aa.q0r8,λ_ h=>by cases h⟩)
theorem E.aa.H8:regD Tryz.prog 76 L.aa.q0.ops [22,5,6,1,0,8,5,7,4,9,3,2,10] (some 29) 34 (Za 36 536084479)=some L.aa.q0.r13:=bT (subs:=[((Za 36 536346623),L.aa.q0.r9),((Za 36 9126019071),L.aa.q0.r12)]) Ya (Lo.2 ⟨E.aa.q0r9,Lo.2 ⟨E.aa.EH,λ_ h=>by cases h⟩⟩)
theorem E.aa.Ie:regD Tryz.prog 76 L.aa.q0.ops [22,5,6,1,0,8,5,7,4,9,3,2,10] (some 29) 34 (Za 36 8857583615)=some L.aa.q0.r14:=bT (subs:=[((Za 36 8857845759),L.aa.q0.r10),((Za 36 9126019071),L.aa.q0.r12)]) Ya (Lo.2 ⟨E.aa.E3,Lo.2 ⟨E.aa.EH,λ_ h=>by cases h⟩⟩)
theorem E.aa.JH:regD Tryz.prog 76 L.aa.q0.ops [22,5,6,1,0,8,5,7,4,9,3,2,10] (some 29) 35 (Za 36 267649023)=some L.aa.q0.r15:=bT (subs:=[((Za 36 267911167),L.aa.q0.r11),((Za 36 536084479),L.aa.q0.r13),((Za 36 8857583615),L.aa.q0.r14)]) Ya (Lo.2 ⟨E.aa.HW,Lo.2 ⟨E.aa.H8,Lo.2 ⟨E.aa.Ie,λ_ h=>by cases h⟩⟩⟩)
theorem E.aa.Ce:regD Tryz.prog 76 L.aa.q0.ops [22,5,6,1,0,8,5,7,4,9,3,2,10] (some 29) 33 (Za 36 9126277119)=some L.aa.q0.r16:=bT (subs:=[((Za 36 9126281215),L.aa.q0.r8)]) Ya (Lo.2 ⟨E.aa.q0r8,λ_ h=>by cases h⟩)
theorem E.aa.F5:regD Tryz.prog 76 L.aa.q0.ops [22,5,6,1,0,8,5,7,4,9,3,2,10] (some 29) 34 (Za 36 536342527)=some L.aa.q0.r17:=bT (subs:=[((Za 36 536346623),L.aa.q0.r9),((Za 36 9126277119),L.aa.q0.r16)]) Ya (Lo.2 ⟨E.aa.q0r9,Lo.2 ⟨E.aa.Ce,λ_ h=>by cases h⟩⟩)
theorem E.aa.EB:regD Tryz.prog 76 L.aa.q0.ops [22,5,6,1,0,8,5,7,4,9,3,2,10] (some 29) 34 (Za 36 8857841663)=some L.aa.q0.r18:=bT (subs:=[((Za 36 8857845759),L.aa.q0.r10),((Za 36 9126277119),L.aa.q0.r16)]) Ya (Lo.2 ⟨E.aa.E3,Lo.2 ⟨E.aa.Ce,λ_ h=>by cases h⟩⟩)
theorem E.aa.H6:regD Tryz.prog 76 L.aa.q0.ops [22,5,6,1,0,8,5,7,4,9,3,2,10] (some 29) 35 (Za 36 267907071)=some L.aa.q0.r19:=bT (subs:=[((Za 36 267911167),L.aa.q0.r11),((Za 36 536342527),L.aa.q0.r17),((Za 36 8857841663),L.aa.q0.r18)]) Ya (Lo.2 ⟨E.aa.HW,Lo.2 ⟨E.aa.F5,Lo.2 ⟨E.aa.EB,λ_ h=>by cases h⟩⟩⟩)
theorem E.aa.F0:regD Tryz.prog 76 L.aa.q0.ops [22,5,6,1,0,8,5,7,4,9,3,2,10] (some 29) 34 (Za 36 9126014975)=some L.aa.q0.r20:=bT (subs:=[((Za 36 9126019071),L.aa.q0.r12),((Za 36 9126277119),L.aa.q0.r16)]) Ya (Lo.2 ⟨E.aa.EH,Lo.2 ⟨E.aa.Ce,λ_ h=>by cases h⟩⟩)
theorem E.aa.HT:regD Tryz.prog 76 L.aa.q0.ops [22,5,6,1,0,8,5,7,4,9,3,2,10] (some 29) 35 (Za 36 536080383)=some L.aa.q0.r21:=bT (subs:=[((Za 36 536084479),L.aa.q0.r13),((Za 36 536342527),L.aa.q0.r17),((Za 36 9126014975),L.aa.q0.r20)]) Ya (Lo.2 ⟨E.aa.H8,Lo.2 ⟨E.aa.F5,Lo.2 ⟨E.aa.F0,λ_ h=>by cases h⟩⟩⟩)
theorem E.aa.H2:regD Tryz.prog 76 L.aa.q0.ops [22,5,6,1,0,8,5,7,4,9,3,2,10] (some 29) 35 (Za 36 8857579519)=some L.aa.q0.r22:=bT (subs:=[((Za 36 8857583615),L.aa.q0.r14),((Za 36 8857841663),L.aa.q0.r18),((Za 36 9126014975),L.aa.q0.r20)]) Ya (Lo.2 ⟨E.aa.Ie,Lo.2 ⟨E.aa.EB,Lo.2 ⟨E.aa.F0,λ_ h=>by cases h⟩⟩⟩)
theorem E.aa.J7:regD Tryz.prog 76 L.aa.q0.ops [22,5,6,1,0,8,5,7,4,9,3,2,10] (some 29) 36 (Za 36 267644927)=some L.aa.q0.r23:=bT (subs:=[((Za 36 267649023),L.aa.q0.r15),((Za 36 267907071),L.aa.q0.r19),((Za 36 536080383),L.aa.q0.r21),((Za 36 8857579519),L.aa.q0.r22)]) Ya (Lo.2 ⟨E.aa.JH,Lo.2 ⟨E.aa.H6,Lo.2 ⟨E.aa.HT,Lo.2 ⟨E.aa.H2,λ_ h=>by cases h⟩⟩⟩⟩)
theorem E.aa.FW:regD Tryz.prog 76 L.aa.q0.ops [22,5,6,1,0,8,5,7,4,9,3,2,10] (some 29) 34 (Za 36 9126275071)=some L.aa.q0.r24:=bT (subs:=[((Za 36 9126277119),L.aa.q0.r16)]) Ya (Lo.2 ⟨E.aa.Ce,λ_ h=>by cases h⟩)
theorem E.aa.Io:regD Tryz.prog 76 L.aa.q0.ops [22,5,6,1,0,8,5,7,4,9,3,2,10] (some 29) 35 (Za 36 536340479)=some L.aa.q0.r25:=bT (subs:=[((Za 36 536342527),L.aa.q0.r17),((Za 36 9126275071),L.aa.q0.r24)]) Ya (Lo.2 ⟨E.aa.F5,Lo.2 ⟨E.aa.FW,λ_ h=>by cases h⟩⟩)
theorem E.aa.HZ:regD Tryz.prog 76 L.aa.q0.ops [22,5,6,1,0,8,5,7,4,9,3,2,10] (some 29) 35 (Za 36 8857839615)=some L.aa.q0.r26:=bT (subs:=[((Za 36 8857841663),L.aa.q0.r18),((Za 36 9126275071),L.aa.q0.r24)]) Ya (Lo.2 ⟨E.aa.EB,Lo.2 ⟨E.aa.FW,λ_ h=>by cases h⟩⟩)
theorem E.aa.JZ:regD Tryz.prog 76 L.aa.q0.ops [22,5,6,1,0,8,5,7,4,9,3,2,10] (some 29) 36 (Za 36 267905023)=some L.aa.q0.r27:=bT (subs:=[((Za 36 267907071),L.aa.q0.r19),((Za 36 536340479),L.aa.q0.r25),((Za 36 8857839615),L.aa.q0.r26)]) Ya (Lo.2 ⟨E.aa.H6,Lo.2 ⟨E.aa.Io,Lo.2 ⟨E.aa.HZ,λ_ h=>by cases h⟩⟩⟩)
theorem E.aa.Im:regD Tryz.prog 76 L.aa.q0.ops [22,5,6,1,0,8,5,7,4,9,3,2,10] (some 29) 35 (Za 36 9126012927)=some L.aa.q0.r28:=bT (subs:=[((Za 36 9126014975),L.aa.q0.r20),((Za 36 9126275071),L.aa.q0.r24)]) Ya (Lo.2 ⟨E.aa.F0,Lo.2 ⟨E.aa.FW,λ_ h=>by cases h⟩⟩)
theorem E.aa.J1:regD Tryz.prog 76 L.aa.q0.ops [22,5,6,1,0,8,5,7,4,9,3,2,10] (some 29) 36 (Za 36 536078335)=some L.aa.q0.r29:=bT (subs:=[((Za 36 536080383),L.aa.q0.r21),((Za 36 536340479),L.aa.q0.r25),((Za 36 9126012927),L.aa.q0.r28)]) Ya (Lo.2 ⟨E.aa.HT,Lo.2 ⟨E.aa.Io,Lo.2 ⟨E.aa.Im,λ_ h=>by cases h⟩⟩⟩)
theorem E.aa.J9:regD Tryz.prog 76 L.aa.q0.ops [22,5,6,1,0,8,5,7,4,9,3,2,10] (some 29) 36 (Za 36 8857577471)=some L.aa.q0.r30:=bT (subs:=[((Za 36 8857579519),L.aa.q0.r22),((Za 36 8857839615),L.aa.q0.r26),((Za 36 9126012927),L.aa.q0.r28)]) Ya (Lo.2 ⟨E.aa.H2,Lo.2 ⟨E.aa.HZ,Lo.2 ⟨E.aa.Im,λ_ h=>by cases h⟩⟩⟩)
theorem E.aa.Kl:regD Tryz.prog 76 L.aa.q0.ops [22,5,6,1,0,8,5,7,4,9,3,2,10] (some 29) 37 (Array.replicate 36 false)=some L.aa.q0.r31:=bT (subs:=[((Za 36 267644927),L.aa.q0.r23),((Za 36 267905023),L.aa.q0.r27),((Za 36 536078335),L.aa.q0.r29),((Za 36 8857577471),L.aa.q0.r30)]) Ya (Lo.2 ⟨E.aa.J7,Lo.2 ⟨E.aa.JZ,Lo.2 ⟨E.aa.J1,Lo.2 ⟨E.aa.J9,λ_ h=>by cases h⟩⟩⟩⟩)
def L.aa:LFn:=
⟨[(.un (.bM 8) (.tmp 5)),(.tmp 6)],
 (.seq
 (.reg false (.loud [] [] [] none [] false (.alloc 101) 0 (some 5) true
  (.fin [6] [(6,(.con (.bool false)))] [])))
 (.seq
 (.reg true (.both
  (.loud [13,14,15,16,17] [] [(13,(.un (.bM 13) (.tmp 0))),(17,(.un .load (.bin (.idx 1) (.un .load (.un (.fld 3) (.tmp 1))) (.con (.int .i64 0)))))] none [] true (.call ⟨.value (.func 100),#[(.tmp 13),(.tmp 17),(.const (.int .i64 2))],#[97,3,3]⟩) 163 (some 18) true
   (.loud [12,19,20] [(19,(.un (.ext 0) (.tmp 18))),(20,(.un (.ext 1) (.tmp 18)))] [] none [] false (.alloc 70) 0 (some 7) true
    (.loud [] [] [(7,(.tmp 7)),(19,(.tmp 19))] none [] false (.store 70 (.tmp 7) (.tmp 19)) 0 none false
     (.fin [8] [(8,(.tmp 20))] []))))
  (.loud [13,14,15,16,17] [(13,(.un (.bM 13) (.tmp 0))),(17,(.un .load (.bin (.idx 1) (.un .load (.un (.fld 3) (.tmp 1))) (.con (.int .i64 0)))))] [] none [] false (.alloc 70) 0 (some 7) true
   (.loud [] [] [(13,(.tmp 13)),(17,(.tmp 17))] none [] true (.call ⟨.value (.func 100),#[(.tmp 13),(.tmp 17),(.const (.int .i64 2))],#[97,3,3]⟩) 163 (some 18) true
    (.loud [12,19,20] [(20,(.un (.ext 1) (.tmp 18)))] [(7,(.tmp 7)),(19,(.un (.ext 0) (.tmp 18)))] none [] false (.store 70 (.tmp 7) (.tmp 19)) 0 none false
     (.fin [8] [(8,(.tmp 20))] []))))))
 (.seq
 (.seq
 (.reg false (.fin [21,22] [(22,(.un .not (.tmp 8)))] []))
 (.cond (.tmp 22) [22]
  (.seq
  (.reg false (.loud [] [] [] none [] false (.build 101 #[]) 101 (some 23) true
   (.loud [] [] [(5,(.tmp 5)),(23,(.tmp 23))] none [] false (.store 101 (.tmp 5) (.tmp 23)) 0 none false
    (.fin [6] [(6,(.con (.bool false)))] []))))
  .ret)
  .skip))
 (.seq
 (.reg true (.loud [25,26,27,28,29] [] [(25,(.un (.bM 13) (.tmp 0))),(29,(.un .load (.bin (.idx 1) (.un .load (.un (.fld 3) (.tmp 7))) (.con (.int .i64 1)))))] none [] true (.call ⟨.value (.func 109),#[(.tmp 25),(.tmp 29),(.const (.int .i64 (-2147483648))),(.const (.int .i64 2147483647))],#[97,3,3,3]⟩) 167 (some 30) true
  (.fin [24,31,32,9,8] [(9,(.un (.ext 0) (.tmp 30))),(8,(.un (.ext 1) (.tmp 30)))] [])))
 (.seq
 (.reg true L.aa.q0.r31)
 (.seq
 (.reg true (.loud [66,67,68,69,70,71,72,73] [(66,(.un (.bM 8) (.tmp 10))),(68,(.tmp 8))] [(73,(.gd (.tmp 8) true (.bin (.arith .add) (.tmp 9) (.un (.conv .i64) (.un .load (.un (.fld 4) (.tmp 1)))))))] (some ((.tmp 8),true)) [] false (.call ⟨.value (.func 42),#[(.tmp 73),(.const (.int .i64 0)),(.const (.int .i64 255))],#[3,3,3]⟩) 4 (some 74) true
  (.loud [75] [(75,(.ite (.tmp 68) (.tmp 74) (.con (.bool false))))] [(5,(.tmp 5)),(66,(.tmp 66))] none [] true (.store 101 (.tmp 5) (.tmp 66)) 0 none false
   (.fin [6] [(6,(.tmp 75))] []))))
 .ret))))))⟩
theorem E.aa:aV Tryz.prog Tryz.f133=some L.aa:=GP (lv:=[22,5,6,1,0,8,5,7,4,9,3,2,10]) (lr:=[5,6,1,0,8,5,7,4,9,3,2,10]) (n:=76) Ya Ya Ya Ya Ya
 (ku Ya Ya
 (ku Ya Ya
 (ku Ya Ya
 (ku Ya Ya
 (ku Ya (xQ (l0:=(some 29)) (n:=36) Ya Ya Ya E.aa.Kl)
 (ku Ya Ya
 Ya))))))
end
theorem wrap32_in{a:Int}(h0:-2147483648<=a)(h1:a<=2147483647):IntKind.i32.wrap a=a:=by unfold IntKind.wrap;simp[IntKind.signed,IntKind.bits];omega
section
variable {V:View} {h:Heap} {S I O P Q LL TT:Nat} {s:cu} {op plain sum:Int}
set_option maxHeartbeats 4000000 in
theorem G4(mx:Mx V S I O P Q LL TT s op plain sum)(hV:V.le (vw h))(hok:lJ s)(hop:s.i.op=op)(ho:op=15\/op=16)(hp0:0<=plain/\plain<=100):
    az Tryz.prog N.eU #[ptr S,ptr I,ptr LL,ptr P,ptr TT] h (λu h'=>cg V h h' u (memS s.f s.i s.temp op plain sum 1)):=by
  refine aw (args:=[ptr S,ptr I,ptr LL,ptr P,ptr TT]) follows F.eU E.aa (Lm Ya) λK hK=>?_
  dsimp only[L.aa,lkF,lkG]
  have c0:=Cx.start hV
  have l1:1<=s.i.args.length:=by
    rcases ho with q | q
    · exact hok.one.one (hop.trans q)
    · have:=hok.one.two (.inr (.inl (hop.trans q)));omega
  have l2:op=15\/2<=s.i.args.length:=ho.imp id λq=>hok.one.two (.inr (.inl (hop.trans q)))
  refine ab λz hz=>?_
  simp
  refine c0.cQ (k:=(0,0)) (n:=7) (z:=.agg fitZ.toArray) rfl Ya rfl Yc (by simp[Value.cells,Value.oneCell']) λR hb hleb cb=>?_
  subst hz
  have i4:=(mx.ct.ins.part InsD.jQ)
  have r4:=i4.nY
  have i4:ao V ⟨I,4,none⟩=some (.int .i32 s.i.imm.v):=by simpa using i4.i32
  obtain⟨va,i3,hva⟩:=(mx.ct.ins.part InsD.fj).sl
  have i3:ao V ⟨I,3,none⟩=some va:=by simpa using i3
  have a0:=hva.rng (i:=0) Yb
  have most:=hok.one.most
  have q0:=hva.idx1 (k:=.i64) (i:=0) rfl Yc Yb
  have d0:=hva.int (View.le_refl V) (i:=0) Yb
  simp at q0
  obtain⟨us,hus,rus⟩:=mx.ct.site.ldN rfl (N:=13) rfl
  have hus:=hus V (View.le_refl _)
  have hfm:=kh (f:=s.f) (v:=nth s.i.args 0) (op:=2)
  have hdo:memS s.f s.i s.temp op plain sum 1=if(aT s.f (nth s.i.args 0) 2).2 then
      if(fE s.f (nth (aT s.f (nth s.i.args 0) 2).1.args 1) (-2147483648) 2147483647).2&&inR ((fE s.f (nth (aT s.f (nth s.i.args 0) 2).1.args 1) (-2147483648) 2147483647).1+s.i.imm.v) 0 255 then
        some ⟨nth (aT s.f (nth s.i.args 0) 2).1.args 0::s.i.args.drop 1,[nth s.i.args 0,nth (aT s.f (nth s.i.args 0) 2).1.args 1],
          [jV s.i op plain ⟨plain,0,0,nth (aT s.f (nth s.i.args 0) 2).1.args 0,0,0,w32 ((fE s.f (nth (aT s.f (nth s.i.args 0) 2).1.args 1) (-2147483648) 2147483647).1+s.i.imm.v),[]⟩],eR⟩
      else none
    else none:=rfl
  have hF:=@mT s us (nth s.i.args 0) 2
  generalize (aT s.f (nth s.i.args 0) 2).1=m at *
  generalize (aT s.f (nth s.i.args 0) 2).2=b at *
  refine ab λz hz=>?_
  have rest : ∀(W:View) (hx:Heap) (B2:Nat) (ρ:Env),V.le W->Cx V h W hx (Own.upd (λ_=>none) (0,0) (bx T.aZ R (RawN.mk (n:=7) fitZ)))->At W ⟨B2,0,none⟩ m->
      Lft.look ρ 0=some (ptr S)->Lft.look ρ 1=some (ptr I)->Lft.look ρ 2=some (ptr LL)->Lft.look ρ 3=some (ptr P)->Lft.look ρ 4=some (ptr TT)->Lft.look ρ 5=some (ptr R)->Lft.look ρ 7=some (ptr B2)->Lft.look ρ 8=some (.bool b)->
      LC.wp Tryz.prog z (dW [.un (.bM 8) (.tmp 5),.tmp 6] K) ρ hx:=by
    intro W hx B2 ρ hVW c hat g0 g1 g2 g3 g4 g5 g7 g8
    rw[hz]
    refine ab λx hx'=>?_
    have none_ : ∀(hy:Heap) (o:Own) (l9:List Value),Cx V h W hy o->Rd W (.agg l9.toArray) Fa->b=false->K (.tuple #[.agg l9.toArray,.bool false]) hy:=λhy o l9 c hr e=>
      hK _ _ (cg.of c hr (by rw[hdo,e];rfl) λy e2=>by rw[hdo,e]at e2;cases e2)
    cases b with
    | false=>
      simp[g0,g1,g2,g3,g4,g5,g7,af,ag,g8]
      refine ay (t:=T.aZ) (z:=.agg fitZ.toArray) (places:=[(0,1),(1,1),(2,1),(3,5)]) (vs:=[]) (cs:=fitZ.toArray) Ya Ya Sa Ya ?_
      refine c.bD (k:=(0,0)) (n:=7) (l:=fitZ) Ri fY rfl rfl Ya Sa Sa λh9 l9 hl9 c9=>?_
      have hall:=c9.all (k:=(0,0)) (n:=7) (l:=l9) (B:=R) (e:=T.aZ) Ri
      simp at hall
      simp[hall]
      exact none_ _ _ _ c9 (hl9▸fY) rfl
    | true=>
      obtain⟨m1,m2,-⟩:=hfm rfl
      have hma:=(hok.all _ m1).two Yb
      obtain⟨vb,j3,hvb⟩:=(hat.part InsD.fj).sl
      have j3:ao W ⟨B2,3,none⟩=some vb:=by simpa using j3
      have b0:=hvb.rng (i:=0) Yb
      have b1:=hvb.rng (i:=1) Yb
      have q2:=hvb.idx1 (k:=.i64) (i:=0) rfl Yc Yb
      have q3:=hvb.idx1 (k:=.i64) (i:=1) rfl Yc Yb
      have d2:=hvb.int (View.le_refl W) (i:=0) Yb
      have d3:=hvb.int (View.le_refl W) (i:=1) Yb
      simp at q2 q3
      have i4:=ae hVW i4
      have i3:=ae hVW i3
      have d0:=ae hVW d0
      have hus:=dY (ρ:=λ_=>none) (e:=.un (.bM 13) (.con (.pointer (some ⟨S,0,none⟩)))) hVW (v:=us) (by simpa using hus)
      have hus:Un.ev W (.bM 13) (.pointer (some ⟨S,0,none⟩))=some us:=by simpa using hus
      have rus:=rus.mono hVW
      have eL:=ae hVW mx.laid
      have eT:=ae hVW mx.with_
      have eP:=ae hVW mx.plain
      have mx:=mx.mono hVW
      simp[g0,g1,g2,g3,g4,g5,g7,af,ag,g8]
      rw[hx'];clear hx' x
      refine ab λx hx'=>?_
      refine aP W c.wle ?_
      simp[g0,g1,g2,g3,g4,g5,g7,af,ag,hus,j3,q3,d3]
      refine ah Ya (tp c.wle rus hok.sm b1) ?_
      rintro _ hc ⟨hle,rfl⟩
      have rk:-2147483648<=(fE s.f (nth m.args 1) (-2147483648) 2147483647).1/\(fE s.f (nth m.args 1) (-2147483648) 2147483647).1<=2147483647:=uy hok.rng
      generalize (fE s.f (nth m.args 1) (-2147483648) 2147483647).1=k at *
      generalize (fE s.f (nth m.args 1) (-2147483648) 2147483647).2=ok at *
      have cc:Cx V h W hc _:=⟨c.own.ext' hle,c.old,View.le_trans c.le0 hle,c.new⟩
      simp[g0,g1,g2,g3,g4,g5,g7,af,ag]
      rw[hx'];clear hx' x
      have ei:IntKind.i32.wrap k=k:=wrap32_in rk.1 rk.2
      have e2:IntKind.i64.wrap s.i.imm.v=s.i.imm.v:=bZ Yb Yb
      have e3:IntKind.i64.wrap (k+s.i.imm.v)=k+s.i.imm.v:=bZ Yb Yb
      have hm : ∀X,Rd X (.agg #[.int .i64 plain,.int .i64 0,.int .i64 0,.int .i64 (nth m.args 0),.int .i64 0,.int .i64 0,.int .i32 (IntKind.i32.wrap (k+s.i.imm.v)),.slice none 0 0]) (⟨plain,0,0,nth m.args 0,0,0,w32 (k+s.i.imm.v),[]⟩:bH):=λX=>iK (imm:=w32 (k+s.i.imm.v)) (by simp;omega) (BQ _) aO
      have fin : ∀(W:View) (hx:Heap) (o:Own) (l9:List Value),Cx V h W hx o->Rd W (.agg l9.toArray) (⟨nth m.args 0::s.i.args.drop 1,[nth s.i.args 0,nth m.args 1],[jV s.i op plain ⟨plain,0,0,nth m.args 0,0,0,w32 (k+s.i.imm.v),[]⟩],eR⟩:FitD)->K (.tuple #[.agg l9.toArray,.bool (ok&&inR (k+s.i.imm.v) 0 255)]) hx:=λW hx o l9 c hr=>
        hK _ _ (cg.of c hr (by rw[hdo];cases ok&&inR (k+s.i.imm.v) 0 255<;>rfl) λy e=>by
          rw[hdo,if_pos rfl]at e
          split at e
          · cases e;rfl
          · cases e)
      clear none_ hK hdo hF hfm hus
      refine ab λx hx'=>?_
      have tl : ∀(h2:Heap) (W2:View) (o:Own) (R2:Nat) (l9:List Value) (ρ2:Env),W.le W2->Cx V h W2 h2 o->o (0,0)=bx T.aZ R (RawN.mk (n:=7) fitZ)->o (0,1)=bx T.aZ R2 (RawN.mk (n:=7) l9)->Rd W2 (.agg l9.toArray) (⟨nth m.args 0::s.i.args.drop 1,[nth s.i.args 0,nth m.args 1],[jV s.i op plain ⟨plain,0,0,nth m.args 0,0,0,w32 (k+s.i.imm.v),[]⟩],eR⟩:FitD)->
          Lft.look ρ2 1=some (ptr I)->Lft.look ρ2 5=some (ptr R)->Lft.look ρ2 8=some (.bool ok)->Lft.look ρ2 9=some (.int .i64 k)->Lft.look ρ2 10=some (ptr R2)->LC.wp Tryz.prog x (dW [.un (.bM 8) (.tmp 5),.tmp 6] K) ρ2 h2:=by
        intro h2 W2 o R2 l9 ρ2 hW2 c ho1 ho2 hr f1 f5 f8 f9 f10
        rw[hx']
        refine ab λv hv=>?_
        have hall:=c.all (k:=(0,1)) (n:=7) (l:=l9) (B:=R2) (e:=T.aZ) ho2
        simp at hall
        refine aP (vw h2) (View.le_refl _) ?_
        have last : ∀(b:Bool) (ρ3:Env),Lft.look ρ3 5=some (ptr R)->Lft.look ρ3 6=some (.bool (ok&&inR (k+s.i.imm.v) 0 255))->∀h3 l3,Cx V h W2 h3 (o.upd (0,0) (bx T.aZ R (RawN.mk (n:=7) l3)))->Value.agg l9.toArray=Value.agg l3.toArray->LC.wp Tryz.prog v (dW [.un (.bM 8) (.tmp 5),.tmp 6] K) ρ3 h3:=λb ρ3 k5 k6 h3 l3 c3 el=>by
          rw[hv]
          have hall:=c3.all (k:=(0,0)) (n:=7) (l:=l3) (B:=R) (e:=T.aZ) Own.aj
          simp at hall
          simp[k5,k6,hall]
          exact fin _ _ _ _ c3 (el▸hr)
        refine bf λy hy=>?_
        cases ok with
        | false=>
          simp[f1,f5,f8,f9,f10,af,ag,hall,ae (View.le_trans hW2 c.wle) i4,e2,e3]
          subst hy
          refine bf λy hy=>?_
          simp[f1,f5,f8,f9,f10,af,ag]
          refine c.bD (k:=(0,0)) (n:=7) (l:=fitZ) ho1 hr rfl rfl Ya Sa Sa λh4 l4 hl4 c4=>?_
          subst hy
          simp[f1,f5,f8,f9,f10,af,ag]
          exact last false _ (by simp[f1,f5,f8,f9,f10,af,ag]) (by simp[f1,f5,f8,f9,f10,af,ag]) _ _ c4 hl4
        | true=>
          simp[f1,f5,f8,f9,f10,af,ag,hall,ae (View.le_trans hW2 c.wle) i4,e2,e3]
          refine ah Ya js ?_
          rintro _ h3 ⟨rfl,rfl⟩
          refine⟨View.le_refl _,?_⟩
          subst hy
          refine bf λy hy=>?_
          simp[f1,f5,f8,f9,f10,af,ag]
          refine c.bD (k:=(0,0)) (n:=7) (l:=fitZ) ho1 hr rfl rfl Ya Sa Sa λh4 l4 hl4 c4=>?_
          subst hy
          simp[f1,f5,f8,f9,f10,af,ag]
          exact last false _ (by simp[f1,f5,f8,f9,f10,af,ag]) (by simp[f1,f5,f8,f9,f10,af,ag]) _ _ c4 hl4
      clear fin
      have c:=cc
      refine aP W c.wle ?_
      have hWV:W.le W:=View.le_refl _
      repeat' (first
        | refine gy ?_ ?_
        | (refine bf λy hy=>?_
           simp[g0,g1,g2,g3,g4,g5,g7,af,ag,i3,i4,j3,q0,q2,q3,d0,d2,d3,eL,eT,eP,ei]
           first
           | refine ay (t:=T.ff) (z:=.agg sZ.toArray) (places:=[(0,1),(1,1),(2,1),(3,1),(4,1),(5,1),(6,1),(7,1)]) (vs:=[(0,.int .i64 plain),(3,.int .i64 (nth m.args 0)),(6,.int .i32 (IntKind.i32.wrap (k+s.i.imm.v)))]) (cs:=#[.int .i64 plain,.int .i64 0,.int .i64 0,.int .i64 (nth m.args 0),.int .i64 0,.int .i64 0,.int .i32 (IntKind.i32.wrap (k+s.i.imm.v)),.slice none 0 0]) Ya Ya Sa Ya ?_
           | (refine c.tM (k:=(0,2)) (n:=1) (l:=[nth m.args 0]) Ri El.aY ?_ ?_ rfl Yc λuA h hle c=>?_
              · simp;done
              · simp;omega)
           | (refine c.kR (α:=Int) (n:=2) (vs:=[.int .i64 (nth s.i.args 0),.int .i64 (nth m.args 1)]) (ds:=[nth s.i.args 0,nth m.args 1]) El.aY ?_ ⟨bK.2 ⟨rfl,a0⟩,bK.2 ⟨rfl,b1⟩,trivial⟩ rfl Yc Yc λuB h W hW c huB hle=>?_
              · simp;done)
           | (refine cj (ops:=[.tmp 45]) (caps:=#[ptr O,ptr I,ptr P]) rfl Ya (tK mx (by repeat (first | exact View.le_refl _ | assumption | refine View.le_trans ?_ (by assumption))) c.wle (hm _) l2) ?_
              rintro um h ⟨hle,hum⟩
              have hW:=c.up (h':=h)
              have c:=c.ext hle)
           | (refine cj (ops:=[.tmp 52]) (caps:=#[ptr I]) rfl Ya (tG mx (by repeat (first | exact View.le_refl _ | assumption | refine View.le_trans ?_ (by assumption))) c.wle (c.own.get (k:=(0,2)) (v:=uA) (l:=[nth m.args 0]) Ri) Sa l1 Yb) ?_
              rintro uw h ⟨own2,mv⟩
              have c:=c.jf (k:=(0,2)) (v:=uA) (l:=[nth m.args 0]) Ri own2 mv
              obtain⟨W,hW,c,huA⟩:=c.freeze (k:=(0,2)) (v:=uw) (l:=[nth m.args 0]++s.i.args.drop 1) Ri)
           | refine c.cQ (k:=(0,1)) (n:=7) (z:=.agg fitZ.toArray) Ri Ya rfl Yc (by simp[Value.cells,Value.oneCell']) λR2 h hle c=>?_
           | (refine ah Ya (ko c.wle (hum.mono (by repeat (first | exact View.le_refl _ | assumption | refine View.le_trans ?_ (by assumption)))) (huA.mono (by repeat (first | exact View.le_refl _ | assumption | refine View.le_trans ?_ (by assumption)))) (huB.mono (by repeat (first | exact View.le_refl _ | assumption | refine View.le_trans ?_ (by assumption))))) ?_
              rintro _ h ⟨hle,vf,rfl,hvf⟩
              have hW:=c.up (h':=h)
              have c:=c.ext hle)
           | refine c.bD (k:=(0,1)) (n:=7) (l:=fitZ) Ri (hvf.mono (by repeat (first | exact View.le_refl _ | assumption | refine View.le_trans ?_ (by assumption)))) rfl rfl Ya Sa Sa λh l9 hl9 c=>?_
           try refine⟨View.le_trans (by repeat (first | exact View.le_refl _ | assumption | refine View.le_trans ?_ (by assumption))) c.wle,?_⟩
           subst hy))
      all_goals
        simp[g0,g1,g2,g3,g4,g5,g7,af,ag,L.aa.q0.r0]
        exact tl _ _ _ _ _ _ (by repeat (first | exact View.le_refl _ | assumption | refine View.le_trans ?_ (by assumption))) c Ri Ri (hl9▸hvf.mono (by repeat (first | exact View.le_refl _ | assumption | refine View.le_trans ?_ (by assumption)))) (by simp[g0,g1,g2,g3,g4,g5,g7,af,ag]) (by simp[g0,g1,g2,g3,g4,g5,g7,af,ag]) (by simp[g0,g1,g2,g3,g4,g5,g7,af,ag]) (by simp[g0,g1,g2,g3,g4,g5,g7,af,ag]) (by simp[g0,g1,g2,g3,g4,g5,g7,af,ag])
  refine aP V cb.wle ?_
  have c:=cb
  refine gy ?_ ?_
  · refine bf λy hy=>?_
    simp[hus,i3,q0,d0]
    refine ah Ya (hF c.wle rus hok.sm a0) ?_
    rintro _ h1 ⟨hle1,vm,rfl,hvm⟩
    have hW1:=c.up (h':=h1)
    have c:=c.ext hle1
    subst hy
    refine bf λy hy=>?_
    simp
    refine c.ed (k:=(0,4)) (z:=.agg insZ.toArray) (d:=iA) Ri Ya lS Yc λB2 h2 hle2 c=>?_
    subst hy
    refine bf λy hy=>?_
    simp
    refine c.gH Part.all (k:=(0,4)) (D:=iA) (d:=m) Ri Ya Sa Sa hvm λh3 c=>?_
    subst hy
    simp
    obtain⟨W4,hW4,c,hat⟩:=c.pA (k:=(0,4)) (B:=B2) (d:=m) Ri
    rw[Own.cw,Own.qO Ri]at c
    exact rest _ _ _ _ (View.le_trans hW1 hW4) c hat rfl rfl rfl rfl rfl rfl rfl rfl
  · refine bf λy hy=>?_
    simp[hus,i3,q0,d0]
    refine c.ed (k:=(0,4)) (z:=.agg insZ.toArray) (d:=iA) Ri Ya lS Yc λB2 h2 hle2 c=>?_
    refine⟨c.wle,?_⟩
    subst hy
    refine bf λy hy=>?_
    simp
    refine ah Ya (hF c.wle rus hok.sm a0) ?_
    rintro _ h1 ⟨hle1,vm,rfl,hvm⟩
    have hW1:=c.up (h':=h1)
    have c:=c.ext hle1
    subst hy
    refine bf λy hy=>?_
    simp
    refine c.gH Part.all (k:=(0,4)) (D:=iA) (d:=m) Ri Ya Sa Sa hvm λh3 c=>?_
    subst hy
    simp
    obtain⟨W4,hW4,c,hat⟩:=c.pA (k:=(0,4)) (B:=B2) (d:=m) Ri
    rw[Own.cw,Own.qO Ri]at c
    exact rest _ _ _ _ (View.le_trans hW1 hW4) c hat rfl rfl rfl rfl rfl rfl rfl rfl
end
theorem IX:lL:=λV h s S I O P Q L T op plain sum mx hV hok hop ho hne hp hs ht=>⟨GR mx hV hok hop ho hp,G4 mx hV hok hop ho hp,GV mx hV hok hop ho hs,GZ mx hV hok hop ho hs ht⟩
end Go.Proofs.YtnfiilgdjpdlkaaGreatDoor
