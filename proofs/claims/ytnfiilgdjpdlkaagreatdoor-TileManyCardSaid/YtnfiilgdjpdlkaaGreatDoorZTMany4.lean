/- A part of the proof: Oh, Oi, Oj, Ok, Ol, Rb, Ta, Rc, Rd, Rf, Rg, Rh, Tb, Tc, Td, Th, Mb, Tk, Om, On, Ja. -/
import Derived.Test.YtnfiilgdjpdlkaaGreatDoorZTMany3
import Derived.Laws.BytesArg
set_option linter.unusedSimpArgs false
set_option linter.unusedVariables false
namespace Go.Proofs.YtnfiilgdjpdlkaaGreatDoor
open Go Go.Lft
structure Pm (f:ae) (i:InsD) (temp:Int) (W:View) (h:Heap) (r:Nat) (n:Int->Bool):Prop where
 wle:W.le (vw h)
 av:W r=none
 ex : ∃g:Int->Option Value,cA (.int .i64) h r (mapE id g)/\(∀p,(g p).isSome=n p)/\∀p v,g p=some v->jI W v (patS f i temp p)
section
variable {f:ae} {i:InsD} {temp:Int} {W:View} {h h':Heap} {r S I O Z:Nat} {n:Int->Bool}
theorem Pm.ext (m:Pm f i temp W h r n) (hle:(vw h).le (vw h')):Pm f i temp (grow W h h') h' r n:=by obtain⟨g,h1,h2,h3⟩:=m.ex;exact⟨iJ (View.le_trans m.wle hle),by rw[eS h1.lt];exact m.av,g,h1.ext hle,h2,fun p v hp=>(h3 p v hp).mono (dg m.wle)⟩
theorem Pm.put (m:Pm f i temp W h r n) {g:Int->Option Value} {p:Int} {v:Value} (hg:cA (.int .i64) h' r (mapE id (putM g p v))) (h2 : ∀q,(g q).isSome=n q) (h3 : ∀q u,g q=some u->jI W u (patS f i temp q)) (hv:jI W v (patS f i temp p)) (ho : ∀b,b≠r->h'[b]? = h[b]?) :
  Pm f i temp W h' r fun q=>n q||decide (q=p):=by
 refine⟨fun b o hb=>?_,m.av,_,hg,fun q=>?_,fun q u hq=>?_⟩
 ·show h'[b]? = _;rw[ho b (by rintro rfl;rw[m.av]at hb;cases hb)];exact m.wle b o hb
 ·unfold putM;by_cases e:q=p
  ·simp[e]
  simp[e,h2]
 unfold putM at hq;split at hq
 ·rename_i e;cases hq;rw[e];exact hv
 exact h3 q u hq
theorem uy:jI W (.func (.func N.ay) #[] #[]) none:=⟨_,_,rfl,by kernel_rfl,fun h V _ hV=>wH hV⟩
structure Wn (W:View) (s:bf) (S I O Z r:Nat):Prop where
 term:ag W ⟨S,11,none⟩=some (.bool false)
 op:ag W ⟨I,0,none⟩=some (.int .i64 s.i.op)
 out:ag W ⟨O,0,none⟩=some (.map (some r))
 zero:ag W ⟨Z,0,none⟩=some (.func (.func N.ay) #[] #[])
theorem Wn.mono {W':View} {s:bf} (w:Wn W s S I O Z r) (h:W.le W'):Wn W' s S I O Z r:=⟨ab h w.term,ab h w.op,ab h w.out,ab h w.zero⟩
theorem fH {s:bf} {op pat:Int} {v:Value} (m:Pm s.f s.i s.temp W h r n) (w:Wn W s S I O Z r) (hn:n pat=false) (hp:1<=pat/\pat<=32) (hop:opOf pat.toNat=op) (hv:s.i.op=op->jI W v (doS s.f s.i s.temp pat.toNat)) :
  aj Tryz.prog N.aA #[.int .i64 op,.int .i64 pat,v,.pointer (some ⟨S,0,none⟩),.pointer (some ⟨I,0,none⟩),.pointer (some ⟨O,0,none⟩),.pointer (some ⟨Z,0,none⟩)] h
   (fun _ h'=>Pm s.f s.i s.temp W h' r (fun q=>n q||decide (q=pat))/\Kept h h' (some r)):=by
 refine ah (args:=[.int .i64 op,.int .i64 pat,v,.pointer (some ⟨S,0,none⟩),.pointer (some ⟨I,0,none⟩),.pointer (some ⟨O,0,none⟩),.pointer (some ⟨Z,0,none⟩)]) follows F.aA E.aA (Dv (by kernel_rfl)) fun K hK=>?_;dsimp only[L.aA];have wh:=w.mono m.wle;obtain⟨g,h1,h2,h3⟩:=m.ex;have hg:g pat=none:=by have:=h2 pat;rw[hn]at this;simpa using this
 by_cases c:s.i.op=op
 ·simp[wh.term,wh.op,wh.out,c];refine fX (.inl rfl) (t:=T.aZ) (k:=T.int) (e:=T.ee) (u:=.int .i64 pat) U.aZ U.int rfl rfl rfl dz h1 (mapE id (putM g pat v)) fg.1 fg.2 fun h2' hs ho hm=>?_;exact hK _ _ ⟨m.put hm h2 h3 (by unfold patS;rw[if_pos ⟨hp.1,hp.2,by rw[hop];exact c⟩];exact hv c) ho,Kept.upd hs ho⟩
 simp[wh.term,wh.op,wh.out,c];refine xG (f:=mapE id g) (z:=.nilFunc) (k:=T.int) (e:=T.ee) (d:=.int .i64) (r:=r) (u:=.int .i64 pat) U.aZ U.int (by kernel_rfl) rfl rfl dz h1 ?_;simp[hg];refine Ap (v:=.nilFunc) (ps:=#[]) (rs:=#[T.bH,T.bool]) (vr:=false) (by kernel_rfl) rfl rfl rfl ?_;simp[qY,wh.out,wh.zero];refine fX (.inl rfl) (t:=T.aZ) (k:=T.int) (e:=T.ee) (u:=.int .i64 pat) U.aZ U.int rfl rfl rfl dz h1 (mapE id (putM g pat (.func (.func N.ay) #[] #[]))) fg.1 fg.2 fun h2' hs ho hm=>?_;exact hK _ _ ⟨m.put hm h2 h3 (by unfold patS;rw[if_neg (by rintro⟨-,-,e⟩;rw[hop]at e;exact c e)];exact uy) ho,Kept.upd hs ho⟩
end
end Go.Proofs.YtnfiilgdjpdlkaaGreatDoor
namespace Go.Proofs.YtnfiilgdjpdlkaaGreatDoor
open Go Go.Lft
section
variable {po po2:OP} {W:View} {h h':Heap} {r S I O Z:Nat} {n:Int->Bool} {s:bf}
structure Up (W:View) (h:Heap) (W':View):Prop where
 le:W.le W'
 old:Old W h W'
theorem Up.trans {W' W'':View} (u:Up W h W') (hs:h.size<=h'.size) (u':Up W' h' W''):Up W h W'':=⟨View.le_trans u.le u'.le,fun b o hb hx=>u.old b o hb (u'.old b o (by omega) hx)⟩
theorem n7 (hW:W.le (vw h)):Up W h (grow W h h'):=⟨dg hW,(Old.refl _ _).grow (Dy _)⟩
theorem Pm.cS {α:Type} [Rep α] {P:Program} {ty:TypeId} {us:List (Nat × Value)} {t:TypeId} {x:Operand} {v:Value} {d:α} {K:Value->Heap->Prop} (m:Pm s.f s.i s.temp W h r n) (hx:asg us x=v) (hv:Rd W v d)
  (hk : ∀B h' W',Up W h W'->Pm s.f s.i s.temp W' h' r n->At W' ⟨B,0,none⟩ d->Kept h h' (some r)->K (.pointer (some ⟨B,0,none⟩)) h'):@Lft.step po P (.box t x) ty us h K:=by refine iD hx (hv.mono m.wle) fun h1 hp hle hs _=>?_;exact hk _ _ _ (n7 m.wle) (m.ext hle) (nq (t:=t) (fz:=(0,0)) (by rw[dm (Dy _),hp];simp) (hv.mono (dg m.wle))) (Kept.of_le hle)
theorem rL {op pat mo lo hi sign:Int} {B:Nat} (m:Pm s.f s.i s.temp W h r n) (w:Wn W s S I O Z r) (ct:Ct W S I s) (hB:ag W ⟨B,0,none⟩=some (.func (.func N.aA) #[] #[.pointer (some ⟨S,0,none⟩),.pointer (some ⟨I,0,none⟩),.pointer (some ⟨O,0,none⟩),.pointer (some ⟨Z,0,none⟩)]))
  (hn:n pat=false) (hp:1<=pat/\pat<=32) (hop:opOf pat.toNat=op) (hok:jW s) (h2:2<=op/\op<=14) (hs:sign=1\/sign=-1) (hm0:0<=mo/\mo<=100) (hlo:I64 lo) (hhi:I64 hi) (hd:doS s.f s.i s.temp pat.toNat=immS s.f s.i mo lo hi sign) :
  aj Tryz.prog N.aP #[.int .i64 op,.int .i64 pat,.int .i64 mo,.int .i64 lo,.int .i64 hi,.int .i64 sign,.pointer (some ⟨B,0,none⟩),.pointer (some ⟨S,0,none⟩),.pointer (some ⟨I,0,none⟩)] h
   (fun _ h'=>∃W',Up W h W'/\Pm s.f s.i s.temp W' h' r (fun q=>n q||decide (q=pat))/\Kept h h' (some r)):=by
 refine ah (args:=[.int .i64 op,.int .i64 pat,.int .i64 mo,.int .i64 lo,.int .i64 hi,.int .i64 sign,.pointer (some ⟨B,0,none⟩),.pointer (some ⟨S,0,none⟩),.pointer (some ⟨I,0,none⟩)]) follows F.aP E.aP (Dv (by kernel_rfl)) fun K hK=>?_;dsimp only[L.aP];refine aa fun z hz=>?_;simp;refine m.cS (α:=Int) (d:=mo) rfl (bh.2 ⟨rfl,by omega,by omega⟩) fun B1 h1 W1 u1 m1 a1 k1=>?_;have l1:=u1.le;refine m1.cS (α:=Int) (d:=lo) rfl (bh.2 ⟨rfl,hlo⟩) fun B2 h2' W2 u2 m2 a2 k2=>?_;have l2:=u2.le
 refine m2.cS (α:=Int) (d:=hi) rfl (bh.2 ⟨rfl,hhi⟩) fun B3 h3 W3 u3 m3 a3 k3=>?_;have l3:=u3.le;refine m3.cS (α:=Int) (d:=sign) rfl (bh.2 ⟨rfl,by omega,by omega⟩) fun B4 h4 W4 u4 m4 a4 k4=>?_;have l4:=u4.le
 have l14:=View.le_trans l2 (View.le_trans l3 l4);have l04:=View.le_trans l1 l14;have w4:=w.mono l04;have ct4:=ct.mono l04;subst hz;simp[ab (View.le_trans l04 m4.wle) hB];refine bL (ops:=[.tmp 16,.tmp 17,.tmp 18]) rfl (by kernel_rfl) (fH (op:=op) (pat:=pat) (v:=.func (.func N.aN) #[] #[.pointer (some ⟨S,0,none⟩),.pointer (some ⟨I,0,none⟩),.pointer (some ⟨B2,0,none⟩),.pointer (some ⟨B3,0,none⟩),.pointer (some ⟨B1,0,none⟩),.pointer (some ⟨B4,0,none⟩)]) m4 w4 hn hp hop fun ho=>?_) ?_
 ·rw[hd];have ha:=hok.one.two (by omega);exact⟨_,_,rfl,by kernel_rfl,fun h V hW hV=>yW (ct4.mono hW) hV hok ha (ab (View.le_trans (View.le_trans l3 l4) hW) a2.int) (ab (View.le_trans l4 hW) a3.int) (ab (View.le_trans l14 hW) a1.int) (ab hW a4.int) hs hm0⟩
 rintro _ h5 ⟨m5,k5⟩;exact hK _ _ ⟨W4,u1.trans k1.size (u2.trans k2.size (u3.trans k3.size u4)),m5,k1.trans (k2.trans (k3.trans (k4.trans k5)))⟩
theorem Pm.da {P:Program} {ty:TypeId} {us:List (Nat × Value)} {t ty2:TypeId} {k:Nat} {z:Value} {x y:Operand} {us2:Value->List (Nat × Value)} {v:Value} {K:Value->Heap->Prop} (m:Pm s.f s.i s.temp W h r n) (hz:(P.info? t).map (·.zero)=some (some z)) (hzc:z.cells.size=k) (hsz:cH P t=some k) (hv:v.cells.size=k) (h1 : ∀c∈v.cells.toList,c.oneCell'=true)
  (hx : ∀p,asg (us2 p) x=p) (hy : ∀p,asg (us2 p) y=v) (hk : ∀B h' W',Up W h W'->Pm s.f s.i s.temp W' h' r n->W' B=some (.cells v.cells t (0,0))->Kept h h' (some r)->K (.pointer (some ⟨B,0,none⟩)) h') :
  @Lft.step po P (.alloc t) ty us h fun p h2=>@Lft.step po2 P (.store t x y) ty2 (us2 p) h2 fun _ h3=>K p h3:=
 gp hz hzc hsz hv h1 hx hy fun h' hle hs hb=>hk _ _ _ (n7 m.wle) (m.ext hle) (by rw[dm (Dy _)];exact hb) (Kept.of_le hle)
structure Mx (W:View) (S I O P Q L T:Nat) (s:bf) (op plain sum:Int):Prop where
 ct:Ct W S I s
 op:ag W ⟨O,0,none⟩=some (.int .i64 op)
 plain:ag W ⟨P,0,none⟩=some (.int .i64 plain)
 sum:ag W ⟨Q,0,none⟩=some (.int .i64 sum)
 laid:ag W ⟨L,0,none⟩=some (.func (.func N.gW) #[] #[.pointer (some ⟨O,0,none⟩),.pointer (some ⟨I,0,none⟩),.pointer (some ⟨P,0,none⟩)])
 with_:ag W ⟨T,0,none⟩=some (.func (.func N.iq) #[] #[.pointer (some ⟨I,0,none⟩)])
theorem Mx.mono {W':View} {P Q L T:Nat} {op plain sum:Int} (m:Mx W S I O P Q L T s op plain sum) (h:W.le W'):Mx W' S I O P Q L T s op plain sum:=
 ⟨m.ct.mono h,ab h m.op,ab h m.plain,ab h m.sum,ab h m.laid,ab h m.with_⟩
abbrev ptr (B:Nat):Value:=.pointer (some ⟨B,0,none⟩)
def jt:Prop:=∀(V:View) (h:Heap) (s:bf) (S I O P Q L T:Nat) (op plain sum:Int),Mx V S I O P Q L T s op plain sum->V.le (vw h)->jW s->s.i.op=op->(op=15\/op=16)->plain≠sum->(0<=plain/\plain<=100)->(0<=sum/\sum<=100)->-9223372036854775808<=s.temp/\s.temp<=9223372036854775807->
 aj Tryz.prog N.im #[ptr L,ptr P,ptr I,ptr T] h (fun u h'=>bD V h h' u (memS s.f s.i s.temp op plain sum 0))/\
 aj Tryz.prog N.ik #[ptr S,ptr I,ptr L,ptr P,ptr T] h (fun u h'=>bD V h h' u (memS s.f s.i s.temp op plain sum 1))/\
 aj Tryz.prog N.iu #[ptr S,ptr I,ptr L,ptr Q,ptr T] h (fun u h'=>bD V h h' u (memS s.f s.i s.temp op plain sum 2))/\
 aj Tryz.prog N.ie #[ptr S,ptr I,ptr T,ptr L,ptr Q] h (fun u h'=>bD V h h' u (memS s.f s.i s.temp op plain sum 3))
theorem cell_of {B:Nat} {v:Value} {t:TypeId} (h:W B=some (.cells v.cells t (0,0))) (h1:v.cells = #[v]):ag W ⟨B,0,none⟩=some v:=by simp[ag,h,h1]
theorem pQ {op pat plain sum:Int} {vs:Value} (m:Pm s.f s.i s.temp W h r n) (w:Wn W s S I O Z r) (hvs:Rd W vs s)
  (hn : ∀k,0<=k->k<4->n (pat+k)=false) (hp:1<=pat/\pat<=28) (hop : ∀k:Int,0<=k->k<4->opOf (pat+k).toNat=op) (hok:jW s) (h2:op=15\/op=16) (hne:plain≠sum) (hpl:0<=plain/\plain<=100) (hsu:0<=sum/\sum<=100)
  (hM:s.i.op=op->jt) (hd : ∀k:Nat,k<4->doS s.f s.i s.temp (pat+k).toNat=memS s.f s.i s.temp op plain sum k) :
  aj Tryz.prog N.cw #[vs,.func (.func N.aA) #[] #[ptr S,ptr I,ptr O,ptr Z],.int .i64 pat,.int .i64 op,.int .i64 plain,.int .i64 sum] h
   (fun _ h'=>∃W',Up W h W'/\Pm s.f s.i s.temp W' h' r (fun q=>n q||decide (pat<=q/\q<pat+4))/\Kept h h' (some r)):=by
 refine ah (args:=[vs,.func (.func N.aA) #[] #[ptr S,ptr I,ptr O,ptr Z],.int .i64 pat,.int .i64 op,.int .i64 plain,.int .i64 sum]) follows F.cw E.cw (Dv (by kernel_rfl)) fun K hK=>?_;dsimp only[L.cw];refine aa fun z hz=>?_;simp;refine m.cS (d:=s) rfl hvs fun B1 h1 W1 u1 m1 a1 k1=>?_;have l1:=u1.le;refine m1.cS (α:=Int) (d:=op) rfl (bh.2 ⟨rfl,by omega,by omega⟩) fun B2 h2' W2 u2 m2 a2 k2=>?_;have l2:=u2.le
 refine m2.cS (α:=Int) (d:=plain) rfl (bh.2 ⟨rfl,by omega,by omega⟩) fun B3 h3 W3 u3 m3 a3 k3=>?_;have l3:=u3.le;refine m3.cS (α:=Int) (d:=sum) rfl (bh.2 ⟨rfl,by omega,by omega⟩) fun B4 h4 W4 u4 m4 a4 k4=>?_;have l4:=u4.le
 subst hz;refine aa fun z hz=>?_;have l24:=View.le_trans l3 l4;have l14:=View.le_trans l2 l24;obtain⟨ui,hui,rui⟩:=(a1.part bf.C9).ldN rfl (N:=5) rfl;have hui:=hui _ (View.le_trans l14 m4.wle);have hui:Un.ev (vw h4) (.ak 5) (.pointer (some ⟨B1,2,none⟩))=some ui:=by simpa using hui
 obtain⟨c1,c2,c3⟩:=fh rui;simp[hui];refine m4.da (k:=5) (z:=.agg #[.int .i64 0,.int .i64 0,.int .i64 0,.slice none 0 0,.int .i32 0]) (by kernel_rfl) rfl (by kernel_rfl) c2 c3 (fun _=>by simp) (fun _=>by simp) fun B5 h5 W5 u5 m5 b5 k5=>?_;have l5:=u5.le;have a5:At W5 ⟨B5,0,none⟩ s.i:=nq b5 (rui.mono (View.le_trans l14 l5));subst hz;refine aa fun z hz=>?_;simp;refine m5.da (k:=1) (z:=.nilFunc) (v:=.func (.func N.gW) #[] #[ptr B2,ptr B5,ptr B3]) (by kernel_rfl) rfl (by kernel_rfl) rfl (by simp[Value.cells,Value.oneCell']) (fun _=>by simp) (fun _=>by simp) fun B6 h6 W6 u6 m6 b6 k6=>?_;have l6:=u6.le
 subst hz;refine aa fun z hz=>?_;simp;refine m6.da (k:=1) (z:=.nilFunc) (v:=.func (.func N.iq) #[] #[ptr B5]) (by kernel_rfl) rfl (by kernel_rfl) rfl (by simp[Value.cells,Value.oneCell']) (fun _=>by simp) (fun _=>by simp) fun B7 h7 W7 u7 m7 b7 k7=>?_;have l7:=u7.le;have l57:=View.le_trans l6 l7;have l47:=View.le_trans l5 l57;have l17:=View.le_trans l14 l47;have mx:Mx W7 B1 B5 B2 B3 B4 B6 B7 s op plain sum:=⟨⟨a1.mono l17,a5.mono l57⟩,ab (View.le_trans l24 l47) a2.int,ab (View.le_trans l4 l47) a3.int,ab l47 a4.int,ab l7 (cell_of b6 rfl),cell_of b7 rfl⟩;have w7:=w.mono (View.le_trans l1 l17);have tr:-9223372036854775808<=s.temp/\s.temp<=9223372036854775807:=(a1.part bf.zb).rng;have hn0:=hn 0 (by omega) (by omega);have fits:s.i.op=op->jI W7 (.func (.func N.im) #[] #[ptr B6,ptr B3,ptr B5,ptr B7]) (memS s.f s.i s.temp op plain sum 0)/\jI W7 (.func (.func N.ik) #[] #[ptr B1,ptr B5,ptr B6,ptr B3,ptr B7]) (memS s.f s.i s.temp op plain sum 1)/\
   jI W7 (.func (.func N.iu) #[] #[ptr B1,ptr B5,ptr B6,ptr B4,ptr B7]) (memS s.f s.i s.temp op plain sum 2)/\jI W7 (.func (.func N.ie) #[] #[ptr B1,ptr B5,ptr B7,ptr B6,ptr B4]) (memS s.f s.i s.temp op plain sum 3):=fun ho=>
  ⟨⟨_,_,rfl,by kernel_rfl,fun h V hW hV=>(hM ho V h s _ _ _ _ _ _ _ op plain sum (mx.mono hW) hV hok ho h2 hne hpl hsu tr).1⟩,⟨_,_,rfl,by kernel_rfl,fun h V hW hV=>(hM ho V h s _ _ _ _ _ _ _ op plain sum (mx.mono hW) hV hok ho h2 hne hpl hsu tr).2.1⟩,
   ⟨_,_,rfl,by kernel_rfl,fun h V hW hV=>(hM ho V h s _ _ _ _ _ _ _ op plain sum (mx.mono hW) hV hok ho h2 hne hpl hsu tr).2.2.1⟩,⟨_,_,rfl,by kernel_rfl,fun h V hW hV=>(hM ho V h s _ _ _ _ _ _ _ op plain sum (mx.mono hW) hV hok ho h2 hne hpl hsu tr).2.2.2⟩⟩;subst hz;refine aa fun z hz=>?_;simp[ab m7.wle mx.op];refine bL (ops:=[.tmp 20,.tmp 21,.tmp 22]) rfl (by kernel_rfl) (fH (op:=op) (pat:=pat) m7 w7 (by simpa using hn0) (by omega) (by simpa using hop 0 (by omega) (by omega)) fun ho=>by have:=hd 0 (by omega);simp at this;rw[this];exact(fits ho).1) ?_;rintro _ h8 ⟨m8,k8⟩;subst hz;refine aa fun z hz=>?_;have e1:IntKind.i64.wrap (pat+1)=pat+1:=cj (by omega) (by omega);simp[ab m8.wle mx.op,e1];refine bL (ops:=[.tmp 25,.tmp 27,.tmp 28]) rfl (by kernel_rfl) (fH (op:=op) (pat:=pat+1) m8 w7 (by have:=hn 1 (by omega) (by omega);simp[this]<;>omega) (by omega) (hop 1 (by omega) (by omega)) fun ho=>by have:=hd 1 (by omega);simp at this;rw[this];exact(fits ho).2.1) ?_;rintro _ h9 ⟨m9,k9⟩;subst hz;refine aa fun z hz=>?_;have e1:IntKind.i64.wrap (pat+2)=pat+2:=cj (by omega) (by omega)
 simp[ab m9.wle mx.op,e1];refine bL (ops:=[.tmp 31,.tmp 33,.tmp 34]) rfl (by kernel_rfl) (fH (op:=op) (pat:=pat+2) m9 w7 (by have:=hn 2 (by omega) (by omega);simp[this]<;>omega) (by omega) (hop 2 (by omega) (by omega)) fun ho=>by have:=hd 2 (by omega);simp at this;rw[this];exact(fits ho).2.2.1) ?_;rintro _ h10 ⟨m10,k10⟩;subst hz;have e1:IntKind.i64.wrap (pat+3)=pat+3:=cj (by omega) (by omega);simp[ab m10.wle mx.op,e1];refine bL (ops:=[.tmp 37,.tmp 39,.tmp 40]) rfl (by kernel_rfl) (fH (op:=op) (pat:=pat+3) m10 w7 (by have:=hn 3 (by omega) (by omega);simp[this]<;>omega) (by omega) (hop 3 (by omega) (by omega)) fun ho=>by have:=hd 3 (by omega);simp at this;rw[this];exact(fits ho).2.2.2) ?_;rintro _ h11 ⟨m11,k11⟩;refine hK _ _ ⟨W7,u1.trans k1.size (u2.trans k2.size (u3.trans k3.size (u4.trans k4.size (u5.trans k5.size (u6.trans k6.size u7))))),?_,k1.trans (k2.trans (k3.trans (k4.trans (k5.trans (k6.trans (k7.trans (k8.trans (k9.trans (k10.trans k11)))))))))⟩;have e:(fun q=>n q||decide (pat<=q/\q<pat+4))=fun q=>(((n q||decide (q=pat))||decide (q=pat+1))||decide (q=pat+2))||decide (q=pat+3):=by
  funext q;cases n q with
  | true=>simp
  | false=>rw[DQ];simp;omega
 rw[e];exact m11
end
end Go.Proofs.YtnfiilgdjpdlkaaGreatDoor
namespace Go.Proofs.YtnfiilgdjpdlkaaGreatDoor
open Go Go.Lft
section
variable {W V:View} {h h':Heap} {r S I O Z:Nat} {n:Int->Bool} {s:bf}
def nTo (m:Int):Int->Bool:=fun q=>decide (1<=q/\q<=m)
theorem Pm.to{a b:Int}(m:Pm s.f s.i s.temp W h r (fun q=>nTo a q||decide (q=b)))(hb:b=a+1)(ha:0<=a):Pm s.f s.i s.temp W h r (nTo b):=by
 have e:(fun q=>nTo a q||decide (q=b))=nTo b:=by funext q;unfold nTo;rw[DQ];simp;omega
 rw[<-e];exact m
theorem Pm.to4{a b:Int}(m:Pm s.f s.i s.temp W h r (fun q=>nTo a q||decide (b<=q/\q<b+4)))(hb:b=a+1)(ha:0<=a):Pm s.f s.i s.temp W h r (nTo (a+4)):=by
 have e:(fun q=>nTo a q||decide (b<=q/\q<b+4))=nTo (a+4):=by funext q;unfold nTo;rw[DQ];simp;omega
 rw[<-e];exact m
theorem As{f:ae}{i:InsD}{temp:Int}{p:Nat}(h:3<=p/\p<=15):doS f i temp p=some ⟨i.args,[],[⟨p+2,i.dst,0,nth i.args 0,nth i.args 1,0,⟨0⟩,[]⟩],dJ⟩:=by unfold doS;rw[if_neg (by omega),if_neg (by omega),if_pos (by omega)]
theorem tj{vs:Value}{W0:View}(hW:W0.le (vw h))(hvs:Rd W0 vs s)(hok:jW s)(hterm:s.term=false)(hM:s.i.op=15\/s.i.op=16->jt):
  aj Tryz.prog N.aE #[vs] h (fun u h'=>∃r W',u = .map (some r)/\Up W0 h W'/\Pm s.f s.i s.temp W' h' r (nTo 32)/\(vw h).le (vw h')):=by
 refine ah (args:=[vs]) follows F.aE E.aE (Dv (by kernel_rfl)) fun K hK=>?_;dsimp only[L.aE];have c0:=Cx.start hW;refine aa fun z hz=>?_;simp;refine c0.cS rfl hvs fun S h1 W1 hW1 c1 at1 hle1=>?_;subst hz;refine aa fun z hz=>?_;obtain⟨ui,hui,rui⟩:=(at1.part bf.C9).ldN rfl (N:=5) rfl;have hui:Un.ev (vw h1) (.ak 5) (.pointer (some ⟨S,2,none⟩))=some ui:=by simpa using hui _ c1.wle
 simp[hui];refine c1.da (α:=InsD) rui (n:=5) (z:=.agg #[.int .i64 0,.int .i64 0,.int .i64 0,.slice none 0 0,.int .i32 0]) (by kernel_rfl) rfl rfl (by kernel_rfl) (fun _=>by simp) (fun _=>by simp) fun I h2 W2 hW2 c2 at2 hle2=>?_;subst hz;refine aa fun z hz=>?_;simp;refine gp (n:=1) (z:=.nilFunc) (v:=.func (.func N.ay) #[] #[]) (by kernel_rfl) rfl (by kernel_rfl) rfl (by simp[Value.cells,Value.oneCell']) (fun _=>by simp) (fun _=>by simp) fun h3 hle3 hs3 hb3=>?_;have c3:=c2.ext hle3;have hW3:=c2.up (h':=h3);have z3:ag (grow W2 h2 h3) ⟨h2.size,0,none⟩=some (.func (.func N.ay) #[] #[]):=cell_of (by rw[dm (Dy _)];exact hb3) rfl;generalize grow W2 h2 h3=W3 at *;generalize h2.size=Z at z3;subst hz;refine aa fun z hz=>?_;simp;refine gY ?_;have m3:cA (.int .i64) (h3.push (.map #[] 0)) h3.size (mapE id fun _=>none):=by rw[kL];exact cA.none (by simp)
 have q3:=bG h3 (.map #[] 0);have av3:W3 h3.size=none:=View.cJ c3.wle (Dy _);have k3:Kept h3 (h3.push (.map #[] 0)) none:=Kept.push ..;have hsz:h3.size<(h3.push (.map #[] 0)).size:=by simp
 generalize h3.push (.map #[] 0)=h4 at *;obtain⟨r,hr⟩ : ∃r,r=h3.size:=⟨_,rfl⟩;rw[<-hr]at m3 av3 ⊢;have p4:Pm s.f s.i s.temp W3 h4 r (nTo 0):=⟨View.le_trans c3.wle q3,av3,_,m3,fun p=>by unfold nTo;simp;omega,fun p v hp=>by cases hp⟩;have u03:Up W0 h W3:=⟨View.le_trans hW1 (View.le_trans hW2 hW3),c3.old⟩;have le04:(vw h).le (vw h4):=View.le_trans c3.le0 q3;have hrs:h.size<=r:=by rw[hr];exact cO c3.le0
 refine p4.da (k:=1) (z:=.map none) (v:=.map (some r)) (by kernel_rfl) rfl (by kernel_rfl) rfl (by simp[Value.cells,Value.oneCell']) (fun _=>by simp) (fun _=>by simp) fun O h5 W5 u5 p5 b5 k5=>?_;subst hz;refine aa fun z hz=>?_;simp;refine p5.da (k:=1) (z:=.nilFunc) (v:=.func (.func N.aA) #[] #[ptr S,ptr I,ptr O,ptr Z]) (by kernel_rfl) rfl (by kernel_rfl) rfl (by simp[Value.cells,Value.oneCell']) (fun _=>by simp) (fun _=>by simp) fun B h6 W6 u6 p6 b6 k6=>?_;have l16:W1.le W6:=View.le_trans hW2 (View.le_trans hW3 (View.le_trans u5.le u6.le));have l26:W2.le W6:=View.le_trans hW3 (View.le_trans u5.le u6.le);have ct:Ct W6 S I s:=⟨at1.mono l16,at2.mono l26⟩;have w6:Wn W6 s S I O Z r:=⟨by have:=(ct.site.part bf.nA).bool;rw[hterm]at this;simpa using this,by simpa using(ct.ins.part InsD.pM).int,cell_of (u6.le _ _ b5) rfl,ab (View.le_trans u5.le u6.le) z3⟩;have hB:ag W6 ⟨B,0,none⟩=some (.func (.func N.aA) #[] #[ptr S,ptr I,ptr O,ptr Z]):=cell_of b6 rfl;have s06:h.size<=h4.size:=cO le04;have u06:Up W0 h W6:=u03.trans s06 (u5.trans k5.size u6);have k46:=k5.trans k6;generalize W6=Wa at *;generalize h6=ha at *;clear b5 b6 k5 k6 u5 u6 p5 l16 l26 z3 hui at1 at2 c1 c2 c3;subst hz;refine aa fun z hz=>?_;have hb:=ab p6.wle hB
 simp[hb];refine bL (ops:=[.const (.int .i64 1),.const (.int .i64 1),.tmp 16]) rfl (by kernel_rfl) (fH (op:=1) (pat:=1) p6 w6 (by rfl) (by omega) (by rfl) fun ho=>⟨_,_,rfl,by kernel_rfl,fun h V hW hV=>zM (ct.mono hW) hV⟩) ?_;rintro _ hc1 ⟨p7,k7⟩;have p7:=p7.to (a:=0) (by rfl) (by omega);subst hz;refine aa fun z hz=>?_;have hb:=ab p7.wle hB
 simp[hb];refine bL (ops:=[.const (.int .i64 1),.const (.int .i64 2),.tmp 19]) rfl (by kernel_rfl) (fH (op:=1) (pat:=2) p7 w6 (by rfl) (by omega) (by rfl) fun ho=>⟨_,_,rfl,by kernel_rfl,fun h V hW hV=>zL (ct.mono hW) hV⟩) ?_;rintro _ hc2 ⟨p8,k8⟩;have p8:=p8.to (a:=1) (by rfl) (by omega);have k48:=k46.trans (k7.trans k8);subst hz;refine aa fun z hz=>?_;refine aa fun y hy=>?_;simp;refine p8.da (k:=1) (z:=.int .i64 0) (v:=.int .i64 2) (by kernel_rfl) rfl (by kernel_rfl) rfl (by simp[Value.cells,Value.oneCell']) (fun _=>by simp) (fun _=>by simp) fun P0 h9 W9 u9 p9 b9 k9=>?_;have c9:ag W9 ⟨P0,0,none⟩=some (.int .i64 ((2:Int)+(0:Nat))):=cell_of b9 rfl
 have k49:=k48.trans k9;have u09:Up W0 h W9:=u06.trans (DW s06 k48.size) u9;have l9:=u9.le;subst hy;simp only[fw];refine je [0,1,2,3,4,5,6,7] (fun m ρ hx=>∃(k:Nat) (W:View) (P:Nat),k<=13/\m=13-k/\ρ=[(0,vs),(1,ptr S),(2,.map none),(3,ptr I),(4,ptr Z),(5,ptr O),(6,ptr B),(7,ptr P)]/\Wa.le W/\Up W0 h W/\Pm s.f s.i s.temp W hx r (nTo (2+k))/\ag W ⟨P,0,none⟩=some (.int .i64 ((2:Int)+k))/\Kept h4 hx (some r)) 13
  ⟨0,W9,P0,by omega,rfl,rfl,l9,u09,by simpa using p9,c9,k49⟩ ?_;clear hb k7 k8 k9 p6 p7 p8 p9 b9 c9 k46 k48 k49 u9 u09 l9;rintro m ρ hx ⟨k,W,P,hk,rfl,rfl,lW,uW,pW,cP,kW⟩ K2 hK2;have cPx:=ab pW.wle cP;have hb:=ab (View.le_trans lW pW.wle) hB;dsimp only[L.aE.l1];refine aa fun x hx2=>?_;by_cases c:k<13
 ·have e14:(2:Int)+k<=14:=by omega
  simp[cPx,e14];rw[hx2];clear hx2 x;refine aa fun x hx2=>?_;have e1:(3:Int)+(2+k)-2=3+k:=by omega
  simp(disch:=omega)[cPx,hb,e1];refine bL (ops:=[.tmp 26,.tmp 29,.tmp 30]) rfl (by kernel_rfl) (fH (op:=2+k) (pat:=3+k) pW (w6.mono lW) (by unfold nTo;simp<;>omega) (by omega) (by unfold opOf;rw[if_neg (by omega),if_pos (by omega)];try omega) fun ho=>?_) ?_
  ·rw[As (by omega)];have e:((3+(k:Int)).toNat:Int)+2=(2+(k:Int))+3:=by omega
   rw[e];exact⟨_,_,rfl,by kernel_rfl,fun h V hW hV=>Ao ((ct.mono lW).mono hW) hV (ab hW cP) (by omega) ⟨hok.one.two (by omega),hok.one.most⟩⟩
  rintro _ hy1 ⟨pX,kX⟩;have pX:=pX.to (a:=2+k) (by omega) (by omega);rw[hx2];clear hx2 x;simp[ab pX.wle cP];refine gp (n:=1) (z:=.int .i64 0) (v:=.int .i64 (2+k)) (by kernel_rfl) rfl (by kernel_rfl) rfl (by simp[Value.cells,Value.oneCell']) (fun _=>by simp) (fun _=>by simp) fun hy2 hle2 hs2 hb2=>?_;have cN:ag (vw hy2) ⟨hy1.size,0,none⟩=some (.int .i64 (2+k)):=cell_of hb2 rfl
  simp(disch:=omega)[cN];refine dk (g:=hy1.size) (o:=0) (n:=1) (v:=.int .i64 (2+k+1)) (cur:=(Value.int .i64 (2+k)).cells) (e:=T.int) (by kernel_rfl) rfl rfl rfl (by simp[Value.cells,Value.oneCell']) hb2 (by simp[Value.cells]) fun hy3 hs3 ⟨row,hr3,he3⟩ ho3=>?_;have hrow:row = #[.int .i64 (2+k+1)]:=by rw[<-Array.toList_inj,he3];simp[Value.cells]
  rw[hrow]at hr3;have le13:(vw hy1).le (vw hy3):=fun b o hb=>by have hlt:=View.lt (View.le_refl (vw hy1)) hb;show hy3[b]? = _;rw[ho3 b (by omega)];exact hle2 b o hb
  have cN3:ag (grow W hy1 hy3) ⟨hy1.size,0,none⟩=some (.int .i64 ((2:Int)+(k+1:Nat))):=by rw[show((2:Int)+(k+1:Nat))=2+k+1 by omega];simp[ag,dm (Dy _),hr3]
  have uX:=n7 (h':=hy3) pX.wle;have eN:(2:Int)+((k+1:Nat):Int)=3+k:=by omega
  refine hK2 (13-(k+1)) _ _ (by omega) ⟨k+1,_,hy1.size,by omega,rfl,rfl,View.le_trans lW uX.le,uW.trans (DW s06 (kW.trans kX).size) uX,?_,cN3,kW.trans (kX.trans (Kept.of_le le13))⟩;rw[eN];exact pX.ext le13
 have e13:k=13:=by omega
 subst e13;simp[cPx];clear hK2 cPx cP hx2 x;subst hz;refine aa fun z hz=>?_;simp;subst hz;refine aa fun z hz=>?_;simp;have ctW:=ct.mono lW;have wW:=w6.mono lW;have hBW:=ab lW hB;refine bL (ops:=[.const (.int .i64 2),.const (.int .i64 16),.const (.int .i64 18),.const (.int .i64 (-128)),.const (.int .i64 127),.const (.int .i64 1)]) rfl (by kernel_rfl) (rL (op:=2) (pat:=16) (mo:=18) (lo:=-128) (hi:=127) (sign:=1) pW wW ctW hBW (by rfl) (by omega) (by rfl) hok (by omega) (.inl rfl) (by omega) (by constructor<;>decide) (by constructor<;>decide) rfl) ?_;rintro _ i1 ⟨V1,v1,p1,k1⟩;have p1:=p1.to (a:=15) (by rfl) (by omega);subst hz;refine aa fun z hz=>?_;simp;refine bL (ops:=[.const (.int .i64 3),.const (.int .i64 17),.const (.int .i64 18),.const (.int .i64 (-127)),.const (.int .i64 128),.const (.int .i64 (-1))]) rfl (by kernel_rfl) (rL (op:=3) (pat:=17) (mo:=18) (lo:=-127) (hi:=128) (sign:=-1) p1 (wW.mono v1.le) (ctW.mono v1.le) (ab v1.le hBW) (by rfl) (by omega) (by rfl) hok (by omega) (.inr rfl) (by omega) (by constructor<;>decide) (by constructor<;>decide) rfl) ?_;rintro _ i2 ⟨V2,v2,p2,k2⟩;have v12:=View.le_trans v1.le v2.le
 have p2:=p2.to (a:=16) (by rfl) (by omega);subst hz;refine aa fun z hz=>?_;simp;refine bL (ops:=[.const (.int .i64 5),.const (.int .i64 18),.const (.int .i64 19),.const (.int .i64 (-128)),.const (.int .i64 127),.const (.int .i64 1)]) rfl (by kernel_rfl) (rL (op:=5) (pat:=18) (mo:=19) (lo:=-128) (hi:=127) (sign:=1) p2 (wW.mono v12) (ctW.mono v12) (ab v12 hBW) (by rfl) (by omega) (by rfl) hok (by omega) (.inl rfl) (by omega) (by constructor<;>decide) (by constructor<;>decide) rfl) ?_;rintro _ i3 ⟨V3,v3,p3,k3⟩;have v13:=View.le_trans v12 v3.le
 have p3:=p3.to (a:=17) (by rfl) (by omega);have uV3:Up W0 h V3:=uW.trans (DW s06 kW.size) (v1.trans k1.size (v2.trans k2.size v3));have kV3:=kW.trans (k1.trans (k2.trans k3));have lV3:=View.le_trans lW v13;clear v1 v2 v3 v12 v13 p1 p2 k1 k2 k3 pW uW kW hBW wW ctW lW;subst hz;refine aa fun z hz=>?_;refine aa fun y hy=>?_;simp;refine gm (α:=Int) (n:=3) (X:=V3) (vs:=[.int .i64 8,.int .i64 9,.int .i64 10]) (ds:=[8,9,10]) El.ck (by simp) ⟨bh.2 ⟨rfl,by decide,by decide⟩,bh.2 ⟨rfl,by decide,by decide⟩,bh.2 ⟨rfl,by decide,by decide⟩,trivial⟩ rfl (by decide) (by decide) fun u40 i4 hle4 hs4 hu4 _=>?_;have hu4:=hu4 (grow V3 i3 i4) (dg p3.wle) (dm (Dy _))
 have p4:=p3.ext hle4;have u4:=n7 (h':=i4) p3.wle;have uV4:=uV3.trans (DW s06 kV3.size) u4;have kV4:=kV3.trans (Kept.of_le hle4);have lV4:=View.le_trans lV3 u4.le;subst hy;simp[hu4.len];refine ao [0,1,2,3,4,5,6,8,40,41,42] (fun(_:Unit) j=>[vs,ptr S,.map none,ptr I,ptr Z,ptr O,ptr B,.func (.func N.aP) #[] #[ptr B,ptr S,ptr I],u40,.int .i64 3,.int .i64 j])
  (fun _ j hx=>∃W,(grow V3 i3 i4).le W/\Up W0 h W/\Pm s.f s.i s.temp W hx r (nTo (18+j))/\Kept h4 hx (some r)) 3 ()
  rfl (by omega) rfl ⟨_,View.le_refl _,uV4,by simpa using p4,kV4⟩ (fun _ _=>rfl) (fun v i h1 hk m=>by simp) ?_ ?_
 ·rintro _ j hx hj ⟨W,lW,uW,pW,kW⟩ K2 hK2;have hux:=hu4.mono (View.le_trans lW pW.wle);refine aa fun x hx2=>?_;have hj3:j<[8,9,10].length:=hj
  simp(disch:=omega)[hux.idx1 rfl,hux.int (View.le_refl _)];have h012:j=0\/j=1\/j=2:=by omega
  have ej:nth ([8,9,10]:List Int) j=8+(j:Int):=by rcases h012 with rfl | rfl | rfl<;>rfl
  rw[ej,hx2];clear hx2 x;simp(disch:=omega);have lWa:=View.le_trans lV4 lW;refine bL (ops:=[.tmp 48,.tmp 50,.tmp 52,.const (.int .i64 0),.const (.int .i64 31),.const (.int .i64 1)]) rfl (by kernel_rfl) (rL (op:=8+j) (pat:=19+j) (mo:=20+j) (lo:=0) (hi:=31) (sign:=1) pW (w6.mono lWa) (ct.mono lWa) (ab lWa hB) (by unfold nTo;simp<;>omega) (by omega) (by rcases h012 with rfl | rfl | rfl<;>rfl) hok (by omega) (.inl rfl) (by omega) (by constructor<;>decide) (by constructor<;>decide) (by rcases h012 with rfl | rfl | rfl<;>rfl)) ?_;rintro _ hx3 ⟨W3,v3,p3,k3⟩;have p3:=p3.to (a:=18+j) (by omega) (by omega);refine hK2 () _ _ rfl rfl ⟨W3,View.le_trans lW v3.le,uW.trans (DW s06 kW.size) v3,?_,kW.trans k3⟩;rw[show(18:Int)+((j+1:Nat):Int)=19+j by omega];exact p3
 rintro _ hx ⟨W,lW,uW,pW,kW⟩;have lWa:=View.le_trans lV4 lW;simp;subst hz;refine aa fun z hz=>?_;have ctW:=ct.mono lWa
 have wW:=w6.mono lWa;have hBW:=ab lWa hB;have hb:=ab pW.wle hBW;simp[hb];refine bL (ops:=[.const (.int .i64 2),.const (.int .i64 22),.tmp 56]) rfl (by kernel_rfl) (fH (op:=2) (pat:=22) pW wW (by rfl) (by omega) (by rfl) fun ho=>⟨_,_,rfl,by kernel_rfl,fun h V hW hV=>An (ctW.mono hW) hV hok (hok.one.two (by omega)) (ab hW wW.zero)⟩) ?_;rintro _ i1 ⟨p1,k1⟩;have p1:=p1.to (a:=21) (by rfl) (by omega);subst hz;refine aa fun z hz=>?_;obtain⟨us,hus,rus⟩:=ctW.site.ldN rfl (N:=13) rfl;have hb:=ab p1.wle hBW
 simp[hb,hus _ p1.wle];refine nb _ (by kernel_rfl) (by simp) (pQ (op:=15) (pat:=23) (plain:=24) (sum:=25) p1 wW rus (fun k h0 h4=>by unfold nTo;simp<;>omega) (by omega) (fun k h0 h4=>?_) hok (.inl rfl) (by decide) (by omega) (by omega) (fun ho=>hM (.inl ho)) (fun k hk=>?_)) ?_
 ·rcases(by omega:k=0\/k=1\/k=2\/k=3)with rfl | rfl | rfl | rfl<;>rfl
 ·rcases(by omega:k=0\/k=1\/k=2\/k=3)with rfl | rfl | rfl | rfl<;>rfl
 rintro _ i2 ⟨V2,v2,p2,k2⟩;have p2:=p2.to4 (a:=22) (by rfl) (by omega);subst hz;refine aa fun z hz=>?_;have hb:=ab p2.wle (ab v2.le hBW)
 simp[hb,hus _ (View.le_trans v2.le p2.wle)];refine nb _ (by kernel_rfl) (by simp) (pQ (op:=16) (pat:=27) (plain:=26) (sum:=27) p2 (wW.mono v2.le) (rus.mono v2.le) (fun k h0 h4=>by unfold nTo;simp<;>omega) (by omega) (fun k h0 h4=>?_) hok (.inr rfl) (by decide) (by omega) (by omega) (fun ho=>hM (.inr ho)) (fun k hk=>?_)) ?_
 ·rcases(by omega:k=0\/k=1\/k=2\/k=3)with rfl | rfl | rfl | rfl<;>rfl
 ·rcases(by omega:k=0\/k=1\/k=2\/k=3)with rfl | rfl | rfl | rfl<;>rfl
 rintro _ i3 ⟨V3',v3,p3,k3⟩;have p3:=p3.to4 (a:=26) (by rfl) (by omega);have v23:=View.le_trans v2.le v3.le;have ct3:=ctW.mono v23;have w3:=wW.mono v23;have hb:=ab p3.wle (ab v23 hBW);subst hz;refine aa fun z hz=>?_;simp[hb];refine bL (ops:=[.const (.int .i64 17),.const (.int .i64 31),.tmp 65]) rfl (by kernel_rfl) (fH (op:=17) (pat:=31) p3 w3 (by rfl) (by omega) (by rfl) fun ho=>⟨_,_,rfl,by kernel_rfl,fun h V hW hV=>Aq (ct3.mono hW) hV hok.one.most⟩) ?_;rintro _ i4' ⟨p4',k4⟩;have p4':=p4'.to (a:=30) (by rfl) (by omega)
 subst hz;refine aa fun z hz=>?_;have hb:=ab p4'.wle (ab v23 hBW);simp[hb];refine bL (ops:=[.const (.int .i64 18),.const (.int .i64 32),.tmp 68]) rfl (by kernel_rfl) (fH (op:=18) (pat:=32) p4' w3 (by rfl) (by omega) (by rfl) fun ho=>⟨_,_,rfl,by kernel_rfl,fun h V hW hV=>Aj (ct3.mono hW) hV ⟨hok.one.two (by omega),hok.one.most⟩⟩) ?_;rintro _ i5 ⟨p5,k5⟩;have p5:=p5.to (a:=31) (by rfl) (by omega);subst hz;simp[ab p5.wle w3.out];have kk:=kW.trans (k1.trans (k2.trans (k3.trans (k4.trans k5))));have sx:h.size<=hx.size:=DW s06 kW.size;refine hK _ _ ⟨r,V3',rfl,uW.trans (DW sx k1.size) (v2.trans k2.size v3),p5,?_⟩;intro b o hb;have hlt:=View.lt (View.le_refl (vw h)) hb;show i5[b]? = _;rw[kk.block b (by omega) (by simp;omega)];exact le04 b o hb
end
end Go.Proofs.YtnfiilgdjpdlkaaGreatDoor
namespace Go.Lft
open Go Go.MapKept
variable {po:OP} {pp:PP}
theorem iE {P:Program} {ty:TypeId} {us:List (Nat × Value)} {h:Heap} {K:Value->Heap->Prop} {d:TypeDesc} {r:Nat} {f:Value->Option Value} {t k e:TypeId} {x y:Operand} {u z:Value} (ht:P.underlying t=some (.map k e)) (hd:P.underlying k=some d) (hz:(P.info? e).map (·.zero)=some (some z)) (hx:asg us x = .map (some r)) (hy:asg us y=u) (hu:IsKey d u) (m:cA d h r f)
  (hk:K (.tuple #[(f u).getD z,.bool (f u).isSome]) h):@step po P (.lookup t x y true) ty us h K:=by
 obtain⟨es,c,h1,h2,h3,h4⟩:=m.ex;simp only[Dw]at hz;obtain⟨i,hi,hz⟩:=hz;refine cf (bE fun w hw=>⟨_,w,?_,Same.refl _,by rw[hw];exact hk⟩);have hz':(zeroValue e).run P w = .ok z w:=by simp[zeroValue,typeInfo,hi,hz]
 rw[<-hw]at h1;simp only[aL,execOp,hx,hy];rcases findNow_spec hu es.toList 0 h2 with⟨g1,g2⟩ | ⟨j,x,g1,g2,g3⟩
 ·have hf:f u = .none:=by
   cases hfu:f u with
   | none=>rfl
   | some v=>obtain⟨x,hx,e1,_⟩:=(h4 u v hu).2 hfu;exact absurd e1 (g2 x hx)
  simp[Instr.lookup,run_underlying ht,MapKept.run_getObj_map h1,MapKept.run_checkKey hd hu,MapKept.run_findKey hd g1,Result.andThen,hf,hz']
 have hf:f u=some x.val:=(h4 u x.val hu).1 ⟨x,DY g2,g3,rfl⟩;simp[Instr.lookup,run_underlying ht,MapKept.run_getObj_map h1,MapKept.run_checkKey hd hu,MapKept.run_findKey hd g1,Result.andThen,hf]
theorem jl {H:View} {α:Type} [Rep α] {v:Value} {l:List α}:Rep.rd H [v] l↔SlRd H v l:=by rw[<-dG];unfold Rd;simp[Rep.agg]
theorem nB {H:View} {α:Type} [Rep α] {cs:List Value} {l:List α} (h:Rep.rd H cs l) : ∃v,cs=[v]:=by
 have:=Rep.len h;match cs,this with
 | [v],_=>exact⟨v,rfl⟩
theorem nV {H:View} {v:Value} {f:ae} (h:Rd H v f) : ∃a m c,v = .agg #[.int .i64 f.params,.slice a m c]:=by unfold Rd at h;rw[if_pos (show Rep.agg ae=true from rfl)]at h;obtain⟨cs,rfl,c1,c2,e,h1,h2⟩:=h;rw[h1.1]at e;obtain⟨v,rfl⟩:=nB h2;obtain⟨a,c,rfl,-⟩:=jl.1 h2;exact⟨a,_,c,by congr 1;rw[<-Array.toList_inj,e];rfl⟩
theorem oB {H:View} {v:Value} {i:InsD} (h:Rd H v i) : ∃a m c,v = .agg #[.int .i64 i.op,.int .i64 i.dst,.int .i64 i.two,.slice a m c,.int .i32 i.imm.v]:=by unfold Rd at h;rw[if_pos (show Rep.agg InsD=true from rfl)]at h;obtain⟨cs,rfl,c1,_,e,h1,c2,_,rfl,h2,c3,_,rfl,h3,c4,c5,rfl,h4,h5⟩:=h;rw[h1.1,h2.1,h3.1,h5.1]at e;obtain⟨v,rfl⟩:=nB h4;obtain⟨a,c,rfl,-⟩:=jl.1 h4;exact⟨a,_,c,by congr 1;rw[<-Array.toList_inj,e];rfl⟩
theorem tc {H:View} {v:Value} {t:cL} (h:Rd H v t) : ∃a m c a2 m2 c2,v = .agg #[.int .i64 t.kind,.slice a m c,.slice a2 m2 c2,.int .i32 t.imm.v]:=by unfold Rd at h;rw[if_pos (show Rep.agg cL=true from rfl)]at h;obtain⟨cs,rfl,c1,_,e,h1,c2,_,rfl,h2,c3,c4,rfl,h3,h4⟩:=h;rw[h1.1,h4.1]at e;obtain⟨v,rfl⟩:=nB h2;obtain⟨w,rfl⟩:=nB h3;obtain⟨a,c,rfl,-⟩:=jl.1 h2;obtain⟨a2,c2,rfl,-⟩:=jl.1 h3;exact⟨a,_,c,a2,_,c2,by congr 1;rw[<-Array.toList_inj,e];rfl⟩
theorem rJ {H:View} {α:Type} [Rep α] {cs:Array Value} {d:α} (ha:Rep.agg α=true) (h:Rd H (.agg cs) d):Rep.rd H cs.toList d:=by unfold Rd at h;rw[if_pos ha]at h;obtain⟨cs',e,h⟩:=h;cases e;exact h
theorem qN {H:View} {c1 c2 c3:Array Value} {s:bf} (h1:Rd H (.agg c1) s.f) (h2:Rd H (.agg c2) s.i) (h3:Rd H (.agg c3) s.t) (h5:-9223372036854775808<=s.temp/\s.temp<=9223372036854775807) :
  Rd H (.agg (c1.toList++(c2.toList++(c3.toList++([Value.bool s.term]++[Value.int .i64 s.temp])))).toArray) s:=by unfold Rd;rw[if_pos (show Rep.agg bf=true from rfl)];exact⟨_,rfl,_,_,rfl,rJ rfl h1,_,_,rfl,rJ rfl h2,_,_,rfl,rJ rfl h3,_,_,rfl,rfl,rfl,h5⟩
end Go.Lft
namespace Go.Proofs.YtnfiilgdjpdlkaaGreatDoor
open Go Go.Lft
abbrev jF:List Value:=[.int .i64 0,.slice none 0 0,.int .i64 0,.int .i64 0,.int .i64 0,.slice none 0 0,.int .i32 0,.int .i64 0,.slice none 0 0,.slice none 0 0,.int .i32 0,.bool false,.int .i64 0]
theorem xr {H:View}:Rd H (.agg #[.int .i64 0,.slice none 0 0]) (⟨0,[]⟩:ae):=by unfold Rd;rw[if_pos (show Rep.agg ae=true from rfl)];exact⟨_,rfl,[_],[_],rfl,⟨rfl,by decide,by decide⟩,jl.2 aF⟩
theorem pZ {H:View}:Rd H (.agg #[.int .i64 0,.slice none 0 0,.slice none 0 0,.int .i32 0]) jT:=by unfold Rd;rw[if_pos (show Rep.agg cL=true from rfl)];exact⟨_,rfl,[_],_,rfl,⟨rfl,by decide,by decide⟩,[_],_,rfl,jl.2 aF,[_],[_],rfl,jl.2 aF,rfl,by decide,by decide⟩
theorem qh {H:View}:Rd H (.agg jF.toArray) uT:=qN (s:=uT) xr pn pZ (by decide)
def iS (f:ae) (b p temp:Int):bf:=if cC f b p then dw f b p temp else uT
set_option maxHeartbeats 400000 in
theorem zv {f:ae} {v:Value} {b p temp:Int} {h:Heap} {W:View} (hW:W.le (vw h)) (hv:Rd W v f) (ht:I64 temp) :
  aj Tryz.prog N.gP #[v,.int .i64 b,.int .i64 p,.int .i64 temp] h (fun u h'=>(vw h).le (vw h')/\∃vs,u = .tuple #[vs,.bool (cC f b p)]/\Rd (grow W h h') vs (iS f b p temp)):=by
 refine ah (args:=[v,.int .i64 b,.int .i64 p,.int .i64 temp]) follows F.gP E.gP (Dv (by kernel_rfl)) fun K hK=>?_;dsimp only[L.gP];have c0:=Cx.start hW;refine aa fun z hz=>?_;simp;refine c0.cS rfl hv fun B h1 W1 hW1 c1 at1 hle1=>?_;refine c1.cU (k:=(0,0)) (n:=12) (z:=.agg jF.toArray) rfl (by kernel_rfl) rfl (by decide) (by simp[Value.cells,Value.oneCell']) fun R h2 hle2 c2=>?_;subst hz;obtain⟨-,vb,hb1,hb2⟩:=j9 at1;have l2:=c2.wle
 have hl:=hb2.len (K:=vw h2);have hb1':=ab l2 hb1;have bd:=hb2.bound;refine aa fun z hz=>?_;refine aa fun y hy=>?_;refine fJ (fun ρ h5=>h5=h2/\ρ=[(0,v),(1,.int .i64 b),(2,.int .i64 p),(3,.int .i64 temp),(4,ptr B),(8,ptr R),(9,.bool false),(34,.bool (!cC f b p))]) ?_ ?_
 ·intro K2 hK2;by_cases e1:b<0
  ·simp[e1];exact hK2 _ _ ⟨rfl,by simp[cC];omega⟩
  by_cases e2:(f.blocks.length:Int)<=b
  ·simp[e1,e2,hb1',hl];exact hK2 _ _ ⟨rfl,by simp[cC];omega⟩
  by_cases e3:p<0
  ·simp[e1,e2,e3,hb1',hl];exact hK2 _ _ ⟨rfl,by simp[cC];omega⟩
  have hbl:b.toNat<f.blocks.length:=by omega
  have hx:=hb2.idxn (k:=.i64) (N:=6) rfl (i:=b) (by omega) (by omega);obtain⟨vi,hv1,hv2⟩:=((hb2.at hbl).part BlkD.oZ).sl;have hv1:=ab l2 hv1;have hnb:f.blocks[b.toNat]=nth f.blocks b.toNat:=(aq hbl).symm;rw[hnb]at hv2;have hx:Bn.ev (.idx 6) vb (.int .i64 b)=some (.pointer (some ((slA vb).add (b.toNat*Rep.n BlkD)))):=hx;simp[e1,e2,e3,hb1',hl,hx,hv1,(hv2.mono l2).len];have ei:cC f b p=decide (p<=(nth f.blocks b.toNat).ins.length):=by unfold cC;simp[show 0<=b by omega,show b<f.blocks.length by omega,show 0<=p by omega]
  exact hK2 _ _ ⟨rfl,by rw[ei,show(!decide (p<=((nth f.blocks b.toNat).ins.length:Int)))=decide (((nth f.blocks b.toNat).ins.length:Int)<p) by rw[DQ];simp]⟩
 rintro _ _ ⟨rfl,rfl⟩;subst hy;cases hq:cC f b p with
 | false=>simp;refine an (z:=.agg jF.toArray) (places:=[(0,2),(2,5),(7,4),(11,1),(12,1)]) (vs:=[]) (cs:=jF.toArray) (by kernel_rfl) (by kernel_rfl) (by simp) (by rfl) ?_;refine c2.bC (k:=(0,0)) (n:=12) (l:=jF) Own.aw qh rfl rfl (by kernel_rfl) rfl rfl fun h9 l9 hl9 c9=>?_;have hall:=c9.all (k:=(0,0)) (n:=12) (l:=l9) (B:=R) (e:=T.mO) Own.aw;simp at hall;simp[hall];refine hK _ _ ⟨c9.le0,_,by rw[hq],?_⟩;unfold iS;rw[hq,if_neg (by simp),<-hl9];exact qh
 | true=>
  have hq2:=hq;simp[cC]at hq2;obtain⟨⟨⟨g1,g2⟩,g3⟩,g4⟩:=hq2;have hbl:b.toNat<f.blocks.length:=by omega
  simp;subst hz;refine aa fun z hz=>?_;obtain⟨ub,hub,rub⟩:=hb2.wh rfl (N:=6) rfl hbl;have hx:=hb2.idxn (k:=.i64) (N:=6) rfl (i:=b) (by omega) (by omega);simp[hb1',hx,hub _ l2];refine c2.da (α:=BlkD) rub (n:=6) (z:=.agg #[.slice none 0 0,.slice none 0 0,.int .i64 0,.slice none 0 0,.slice none 0 0,.int .i32 0]) (by kernel_rfl) rfl rfl (by kernel_rfl) (fun _=>by simp) (fun _=>by simp) fun B3 h3 W3 hW3 c3 at3 hle3=>?_;subst hz;refine aa fun z hz=>?_;obtain⟨vp,vi,va,vt,-,si,-⟩:=gS at3;have sim:=si.mono c3.wle
  obtain⟨uf,huf,ruf⟩:=at1.ldN rfl (N:=2) rfl;have huf3:=huf _ (View.le_trans hW3 c3.wle);have ruf:=ruf.mono hW3;have hsite:iS f b p temp=dw f b p temp:=by unfold iS;rw[hq,if_pos rfl]
  generalize hbk:nth f.blocks b.toNat=bk at *;by_cases e:p=bk.ins.length
  ·obtain⟨ut,hut,rut⟩:=(at3.part BlkD.nA).ldN rfl (N:=4) rfl;have hut:Un.ev (vw h3) (.ak 4) (.pointer (some ⟨B3,2,none⟩))=some ut:=by simpa using hut _ c3.wle
   obtain⟨a1,m1,k1,rfl⟩:=nV ruf;obtain⟨a2,m2,k2,a3,m3,k3,rfl⟩:=tc rut;have hs:dw f b p temp=⟨f,ia,bk.term,true,temp⟩:=by unfold dw;rw[hbk,if_pos e]
   have rs:Rd W3 (.agg #[.int .i64 f.params,.slice a1 m1 k1,.int .i64 0,.int .i64 0,.int .i64 0,.slice none 0 0,.int .i32 0,.int .i64 bk.term.kind,.slice a2 m2 k2,.slice a3 m3 k3,.int .i32 bk.term.imm.v,.bool true,.int .i64 temp]) (dw f b p temp):=by rw[hs];exact qN (s:=⟨f,ia,bk.term,true,temp⟩) ruf pn rut ht
   simp[sim.1,sim.2.len,e,huf3,hut];refine an (z:=.agg jF.toArray) (places:=[(0,2),(2,5),(7,4),(11,1),(12,1)]) (vs:=[(0,.agg #[.int .i64 f.params,.slice a1 m1 k1]),(2,.agg #[.int .i64 bk.term.kind,.slice a2 m2 k2,.slice a3 m3 k3,.int .i32 bk.term.imm.v]),(3,.bool true),(4,.int .i64 temp)]) (cs:=#[.int .i64 f.params,.slice a1 m1 k1,.int .i64 0,.int .i64 0,.int .i64 0,.slice none 0 0,.int .i32 0,.int .i64 bk.term.kind,.slice a2 m2 k2,.slice a3 m3 k3,.int .i32 bk.term.imm.v,.bool true,.int .i64 temp]) (by kernel_rfl) (by kernel_rfl) (by simp) (by simp[Instr.fill,Value.cells]) ?_;refine c3.bC (k:=(0,0)) (n:=12) (l:=jF) Own.aw rs rfl rfl (by kernel_rfl) rfl rfl fun h9 l9 hl9 c9=>?_;have hall:=c9.all (k:=(0,0)) (n:=12) (l:=l9) (B:=R) (e:=T.mO) Own.aw;simp at hall;simp[hall];refine hK _ _ ⟨c9.le0,_,by rw[hq],?_⟩;rw[hsite,<-hl9];exact rs.mono c9.fin
  have hlt:p.toNat<bk.ins.length:=by omega
  obtain⟨ui,hui,rui⟩:=si.2.wh rfl (N:=5) rfl hlt;have hxi:=si.2.idxn (k:=.i64) (N:=5) rfl (i:=p) (by omega) (by omega);obtain⟨a1,m1,k1,rfl⟩:=nV ruf;obtain⟨a2,m2,k2,rfl⟩:=oB rui;have hs:dw f b p temp=⟨f,nth bk.ins p.toNat,jT,false,temp⟩:=by unfold dw;rw[hbk,if_neg e]
  generalize nth bk.ins p.toNat=xi at *;have rs:Rd W3 (.agg #[.int .i64 f.params,.slice a1 m1 k1,.int .i64 xi.op,.int .i64 xi.dst,.int .i64 xi.two,.slice a2 m2 k2,.int .i32 xi.imm.v,.int .i64 0,.slice none 0 0,.slice none 0 0,.int .i32 0,.bool false,.int .i64 temp]) (dw f b p temp):=by rw[hs];exact qN (s:=⟨f,xi,jT,false,temp⟩) ruf rui pZ ht
  simp[sim.1,sim.2.len,e];subst hz;refine aa fun z hz=>?_;refine bR W3 c3.wle ?_;simp[huf W3 hW3,si.1,hxi,hui W3 (View.le_refl _)];refine an (z:=.agg jF.toArray) (places:=[(0,2),(2,5),(7,4),(11,1),(12,1)]) (vs:=[(0,.agg #[.int .i64 f.params,.slice a1 m1 k1]),(1,.agg #[.int .i64 xi.op,.int .i64 xi.dst,.int .i64 xi.two,.slice a2 m2 k2,.int .i32 xi.imm.v]),(4,.int .i64 temp)]) (cs:=#[.int .i64 f.params,.slice a1 m1 k1,.int .i64 xi.op,.int .i64 xi.dst,.int .i64 xi.two,.slice a2 m2 k2,.int .i32 xi.imm.v,.int .i64 0,.slice none 0 0,.slice none 0 0,.int .i32 0,.bool false,.int .i64 temp]) (by kernel_rfl) (by kernel_rfl) (by simp) (by simp[Instr.fill,Value.cells]) ?_;refine c3.bC (k:=(0,0)) (n:=12) (l:=jF) Own.aw rs rfl rfl (by kernel_rfl) rfl rfl fun h9 l9 hl9 c9=>?_;subst hz;have hall:=c9.all (k:=(0,0)) (n:=12) (l:=l9) (B:=R) (e:=T.mO) Own.aw;simp at hall;simp[hall];refine hK _ _ ⟨c9.le0,_,by rw[hq],?_⟩;rw[hsite,<-hl9];exact rs.mono c9.fin
end Go.Proofs.YtnfiilgdjpdlkaaGreatDoor
namespace Go.Lft
open Go
variable {po po2:OP}
theorem Cx.rN {V W:View} {h0 h:Heap} {o:Own} {k:Key} {P:Program} {ty:TypeId} {us:List (Nat × Value)} {n i:Nat} {e t:TypeId} {B:Nat} {l:List Value} {x y:Operand} {u:Value} {K:Value->Heap->Prop} (c:Cx V h0 W h o) (hk:o k=bx e B (RawN.mk (n:=n) l)) (hi:i<=n) (hsz:cH P t=some 1) (hx:asg us x = .pointer (some ⟨B,i,none⟩)) (hy:asg us y=u) (hu:u.oneCell'=true)
  (hK : ∀h',Cx V h0 W h' (o.upd k (bx e B (RawN.mk (n:=n) (l.set i u))))->K undef h'):@step po P (.store t x y) ty us h K:=
 c.own.rN hk hi hsz hx hy hu fun h2 w hX=>hK _ ⟨w,c.old,hX _ c.le0 (View.cJ (View.le_refl _) (c.new k _ B hk rfl)),fun j i b hj hb=>by
  by_cases e:j=k
  ·subst e;rw[Own.aw]at hj;cases hj;exact c.new _ _ b hk hb
  rw[Own.uM e]at hj;exact c.new j i b hj hb⟩
end Go.Lft
namespace Go.Proofs.YtnfiilgdjpdlkaaGreatDoor
open Go Go.Lft
structure pk (t:cL):Prop where
 one:t.kind=2\/t.kind=3->1<=t.args.length
 most:t.args.length<=10000
 to:t.to.length<=10000
theorem sy {H:View} {x0 x1 x2 va x4:Value} {i:InsD} (h:Rd H (.agg #[x0,x1,x2,va,x4]) i):SlRd H va i.args:=by unfold Rd at h;rw[if_pos (show Rep.agg InsD=true from rfl)]at h;obtain⟨cs,e0,c1,_,e,h1,c2,_,rfl,h2,c3,_,rfl,h3,c4,c5,rfl,h4,h5⟩:=h;cases e0;rw[h1.1,h2.1,h3.1,h5.1]at e;obtain⟨v,rfl⟩:=nB h4;simp at e;obtain⟨-,-,-,rfl,-⟩:=e;exact jl.1 h4
set_option maxHeartbeats 4000000 in
theorem A2 {s:bf} {v:Value} {pat:Int} {h:Heap} {W:View} (hW:W.le (vw h)) (hv:Rd W v s) (hok:jW s) (htk:pk s.t) (hp:I64 pat) :
    aj Tryz.prog N.dd #[v,.int .i64 pat] h (fun u h'=>bD W h h' u (e7 s.f s.t pat)):=by
  refine ah (args:=[v,.int .i64 pat]) follows F.dd E.dd (Dv (by kernel_rfl)) fun K hK=>?_
  dsimp only[L.dd]
  have c0:=Cx.start hW
  refine aa fun z hz=>?_
  simp
  refine c0.cS rfl hv fun S h1 W1 hW1 c1 at1 hle1=>?_
  refine c1.cU (k:=(0,0)) (n:=7) (z:=.agg fitZ.toArray) rfl (by kernel_rfl) rfl (by decide) (by simp[Value.cells,Value.oneCell']) fun R h2 hle2 c2=>?_
  subst hz
  refine aa fun z hz=>?_
  obtain⟨ut,hut,rut⟩:=(at1.part bf.Du).ldN rfl (N:=4) rfl
  have hut:Un.ev (vw h2) (.ak 4) (.pointer (some ⟨S,7,none⟩))=some ut:=by simpa using hut _ c2.wle
  simp[hut]
  refine c2.da (α:=cL) rut (n:=4) (z:=.agg #[.int .i64 0,.slice none 0 0,.slice none 0 0,.int .i32 0]) (by kernel_rfl) rfl rfl (by kernel_rfl) (fun _=>by simp) (fun _=>by simp) fun Tb h3 W3 hW3 c3 at3 hle3=>?_
  have t0:=(at3.part cL.uV).int
  obtain⟨va,t1,hva⟩:=(at3.part cL.fm).sl
  obtain⟨vt,t2,hvt⟩:=(at3.part cL.Bq).sl
  have t3:=(at3.part cL.iy).i32
  have ri:=(at3.part cL.iy).ox
  have t0:ag W3 ⟨Tb,0,none⟩=some (.int .i64 s.t.kind):=by simpa using t0
  have t1:ag W3 ⟨Tb,1,none⟩=some va:=by simpa using t1
  have t2:ag W3 ⟨Tb,2,none⟩=some vt:=by simpa using t2
  have t3:ag W3 ⟨Tb,3,none⟩=some (.int .i32 s.t.imm.v):=by simpa using t3
  have most:=htk.most
  have mosto:=htk.to
  subst hz
  refine aa fun z hz=>?_
  simp[ab c3.wle t2]
  refine af (by kernel_rfl) (cZ c3.wle hvt (by omega)) ?_
  rintro uto h4 ⟨hle4,hto⟩
  have c4:=c3.ext hle4
  have hW4:=c3.up (h':=h4)
  have hto0:=hto
  obtain⟨b0,k0,rfl,-⟩:=hto0
  generalize grow W3 h3 h4=W4 at *
  have s0:=ab hW4 t0
  have s1:=ab hW4 t1
  have s3:=ab hW4 t3
  have hva4:=hva.mono hW4
  have z0:=ab c4.wle s0
  have z1:=ab c4.wle s1
  have z3:=ab c4.wle s3
  clear t0 t1 t2 t3 hut hle1 hle2 hle3 hle4
  subst hz
  refine aa fun z hz=>?_
  simp only[fw]
  refine aa fun y hy=>?_
  by_cases p1:pat=0/\s.t.kind=1
  · have he:e7 s.f s.t pat=some ⟨[],[],[],⟨1,0,0,s.t.to,⟨0⟩⟩⟩:=by unfold e7;rw[if_pos p1]
    simp[p1.1,z0,p1.2]
    subst hy
    simp
    refine an (t:=T.dW) (z:=.agg #[.int .i64 0,.int .i64 0,.int .i64 0,.slice none 0 0,.int .i32 0]) (places:=[(0,1),(1,1),(2,1),(3,1),(4,1)]) (vs:=[(0,.int .i64 1),(3,.slice b0 s.t.to.length k0)]) (cs:=#[.int .i64 1,.int .i64 0,.int .i64 0,.slice b0 s.t.to.length k0,.int .i32 0]) (by kernel_rfl) (by kernel_rfl) (by simp) (by simp[Instr.fill,Value.cells]) ?_
    refine an (t:=T.bH) (z:=.agg fitZ.toArray) (places:=[(0,1),(1,1),(2,1),(3,5)]) (vs:=[(3,.agg #[.int .i64 1,.int .i64 0,.int .i64 0,.slice b0 s.t.to.length k0,.int .i32 0])]) (cs:=#[.slice none 0 0,.slice none 0 0,.slice none 0 0,.int .i64 1,.int .i64 0,.int .i64 0,.slice b0 s.t.to.length k0,.int .i32 0]) (by kernel_rfl) (by kernel_rfl) (by simp) (by simp[Instr.fill,Value.cells]) ?_
    have hr:Rd W4 (.agg #[.slice none 0 0,.slice none 0 0,.slice none 0 0,.int .i64 1,.int .i64 0,.int .i64 0,.slice b0 s.t.to.length k0,.int .i32 0]) (⟨[],[],[],⟨1,0,0,s.t.to,⟨0⟩⟩⟩:FitD):=iP (ce:=[_,_,_,_,_]) aF aF aF (iC (imm:=⟨0⟩) (by simp) (by simp) hto)
    refine c4.bC (k:=(0,0)) (n:=7) (l:=fitZ) (by rfl) hr rfl rfl (by kernel_rfl) rfl rfl fun h9 l9 hl9 c9=>?_
    have hall:=c9.all (k:=(0,0)) (n:=7) (l:=l9) (B:=R) (e:=T.bH) (by rfl)
    simp at hall
    simp[hall]
    exact hK _ _ (bD.of c9 (hl9▸hr) (by rw[he];rfl) fun y e=>by rw[he]at e;cases e;rfl)
  refine fJ (fun ρ h5=>h5=h4/\ρ=[(0,v),(1,.int .i64 pat),(2,ptr S),(4,ptr R),(5,.bool false),(6,ptr Tb),(7,.slice b0 s.t.to.length k0),(13,ut),(16,.slice b0 s.t.to.length k0),(17,.bool false)]) ?_ ?_
  · intro K2 hK2
    by_cases e0:pat=0
    · have e2:¬s.t.kind=1:=fun e=>p1 ⟨e0,e⟩
      simp[e0,z0,e2]
      exact hK2 _ _ ⟨rfl,by rw[e0]⟩
    · simp[e0,z0]
      exact hK2 _ _ ⟨rfl,rfl⟩
  rintro _ h4 ⟨rfl,rfl⟩
  subst hy
  refine fW (by simp) ?_
  refine aa fun y hy=>?_
  by_cases p2:pat=0/\s.t.kind=4
  · have he:e7 s.f s.t pat=some ⟨s.t.args,[],[],⟨7,if s.t.args=[] then -1 else nth s.t.args 0,0,[],⟨0⟩⟩⟩:=by unfold e7;rw[if_neg p1,if_pos p2]
    simp[p2.1,z0,p2.2]
    subst hy
    refine gj (by simp) ?_
    refine aa fun y hy=>?_
    simp
    refine an (t:=T.dW) (z:=.agg #[.int .i64 0,.int .i64 0,.int .i64 0,.slice none 0 0,.int .i32 0]) (places:=[(0,1),(1,1),(2,1),(3,1),(4,1)]) (vs:=[(0,.int .i64 7),(1,.int .i64 (-1))]) (cs:=#[.int .i64 7,.int .i64 (-1),.int .i64 0,.slice none 0 0,.int .i32 0]) (by kernel_rfl) (by kernel_rfl) (by simp) (by simp[Instr.fill,Value.cells]) ?_
    refine c4.cU (k:=(0,1)) (n:=4) (z:=.agg #[.int .i64 0,.int .i64 0,.int .i64 0,.slice none 0 0,.int .i32 0]) (by rfl) (by kernel_rfl) rfl (by decide) (by simp[Value.cells,Value.oneCell']) fun Eb h5 hle5 c5=>?_
    refine c5.rh (k:=(0,1)) (n:=4) (l:=[.int .i64 0,.int .i64 0,.int .i64 0,.slice none 0 0,.int .i32 0]) (l':=[.int .i64 7,.int .i64 (-1),.int .i64 0,.slice none 0 0,.int .i32 0]) (by rfl) (by kernel_rfl) rfl rfl rfl (by simp[Value.oneCell']) fun h6 c6=>?_
    subst hy
    have y1:=ab c6.wle s1
    have hlen:=hva4.len (K:=vw h6)
    generalize hae:(if s.t.args=[] then(-1:Int) else nth s.t.args 0)=a at *
    refine aa fun y hy=>?_
    refine fJ (fun ρ h7=>∃o6,Cx W h W4 h7 o6/\o6 (0,0)=bx T.bH R (RawN.mk (n:=7) fitZ)/\o6 (0,1)=bx T.dW Eb (RawN.mk (n:=4) [.int .i64 7,.int .i64 a,.int .i64 0,.slice none 0 0,.int .i32 0])/\(-9223372036854775808<=a/\a<=9223372036854775807)/\
      ρ=[(0,v),(1,.int .i64 0),(2,ptr S),(4,ptr R),(5,.bool false),(6,ptr Tb),(7,.slice b0 s.t.to.length k0),(8,ptr Eb),(13,ut),(16,.slice b0 s.t.to.length k0),(36,.agg #[.int .i64 7,.int .i64 (-1),.int .i64 0,.slice none 0 0,.int .i32 0])]) ?_ ?_
    · intro K2 hK2
      by_cases ea:s.t.args=[]
      · have el:(s.t.args.length:Int)=0:=by rw[ea];rfl
        rw[if_pos ea]at hae
        subst hae
        simp[y1,hlen,ea]
        exact hK2 _ _ ⟨_,c6,by rfl,by rfl,by decide,rfl⟩
      · have el:=List.length_pos_iff.2 ea
        rw[if_neg ea]at hae
        have a0:=hva4.rng (i:=0) el
        have x0:=hva4.idx1 (k:=.i64) (i:=0) rfl (by decide) (by omega)
        have d0:=hva4.int c6.wle (i:=0) el
        simp[y1,hlen,el,x0,d0]
        refine c6.rN (k:=(0,1)) (n:=4) (i:=1) (l:=[.int .i64 7,.int .i64 (-1),.int .i64 0,.slice none 0 0,.int .i32 0]) (by rfl) (by decide) (by kernel_rfl) rfl rfl rfl fun h7 c7=>?_
        exact hK2 _ _ ⟨_,c7,by rfl,by rw[<-hae];rfl,by rw[<-hae];exact a0,rfl⟩
    · rintro _ h7 ⟨o6,c7,k00,k01,ar,rfl⟩
      subst hy
      refine aa fun y hy=>?_
      refine bR (vw h7) (View.le_refl _) ?_
      have hall7:=c7.all k01
      simp at hall7
      simp[ab c7.wle s1,hall7]
      refine af (by kernel_rfl) (cZ c7.wle hva4 (by omega)) ?_
      rintro ucl h8 ⟨hle8,hcl⟩
      refine⟨hle8,?_⟩
      have c8:=c7.ext hle8
      have hW8:=c7.up (h':=h8)
      have hcl0:=hcl
      obtain⟨b1,k1,rfl,-⟩:=hcl0
      refine an (t:=T.bH) (z:=.agg fitZ.toArray) (places:=[(0,1),(1,1),(2,1),(3,5)]) (vs:=[(0,.slice b1 s.t.args.length k1),(3,.agg #[.int .i64 7,.int .i64 a,.int .i64 0,.slice none 0 0,.int .i32 0])]) (cs:=#[.slice b1 s.t.args.length k1,.slice none 0 0,.slice none 0 0,.int .i64 7,.int .i64 a,.int .i64 0,.slice none 0 0,.int .i32 0]) (by kernel_rfl) (by kernel_rfl) (by simp) (by simp[Instr.fill,Value.cells]) ?_
      have hr:Rd (grow W4 h7 h8) (.agg #[.slice b1 s.t.args.length k1,.slice none 0 0,.slice none 0 0,.int .i64 7,.int .i64 a,.int .i64 0,.slice none 0 0,.int .i32 0]) (⟨s.t.args,[],[],⟨7,a,0,[],⟨0⟩⟩⟩:FitD):=iP (ce:=[_,_,_,_,_]) hcl aF aF (iC (imm:=⟨0⟩) (by simp;omega) (by simp) aF)
      refine c8.bC (k:=(0,0)) (n:=7) (l:=fitZ) k00 hr rfl rfl (by kernel_rfl) rfl rfl fun h9 l9 hl9 c9=>?_
      subst hy
      have hall:=c9.all (k:=(0,0)) (n:=7) (l:=l9) (B:=R) (e:=T.bH) Own.aw
      simp at hall
      simp[hall]
      exact hK _ _ (bD.of c9 (hl9▸hr) (by rw[he];rfl) fun y e=>by rw[he]at e;cases e;rfl)
  refine fJ (fun ρ h5=>h5=h4/\ρ=[(0,v),(1,.int .i64 pat),(2,ptr S),(4,ptr R),(5,.bool false),(6,ptr Tb),(7,.slice b0 s.t.to.length k0),(13,ut),(16,.slice b0 s.t.to.length k0),(28,.bool false)]) ?_ ?_
  · intro K2 hK2
    by_cases e0:pat=0
    · have e2:¬s.t.kind=4:=fun e=>p2 ⟨e0,e⟩
      simp[e0,z0,e2]
      exact hK2 _ _ ⟨rfl,by rw[e0]⟩
    · simp[e0,z0]
      exact hK2 _ _ ⟨rfl,rfl⟩
  rintro _ h4 ⟨rfl,rfl⟩
  subst hy
  refine fW (by simp) ?_
  refine aa fun y hy=>?_
  by_cases p3:pat=0/\s.t.kind=5
  · have he:e7 s.f s.t pat=some ⟨[],[],[],⟨8,0,0,[],s.t.imm⟩⟩:=by unfold e7;rw[if_neg p1,if_neg p2,if_pos p3]
    simp[p3.1,z0,p3.2]
    subst hy
    simp[z3]
    refine an (t:=T.dW) (z:=.agg #[.int .i64 0,.int .i64 0,.int .i64 0,.slice none 0 0,.int .i32 0]) (places:=[(0,1),(1,1),(2,1),(3,1),(4,1)]) (vs:=[(0,.int .i64 8),(4,.int .i32 s.t.imm.v)]) (cs:=#[.int .i64 8,.int .i64 0,.int .i64 0,.slice none 0 0,.int .i32 s.t.imm.v]) (by kernel_rfl) (by kernel_rfl) (by simp) (by simp[Instr.fill,Value.cells]) ?_
    refine an (t:=T.bH) (z:=.agg fitZ.toArray) (places:=[(0,1),(1,1),(2,1),(3,5)]) (vs:=[(3,.agg #[.int .i64 8,.int .i64 0,.int .i64 0,.slice none 0 0,.int .i32 s.t.imm.v])]) (cs:=#[.slice none 0 0,.slice none 0 0,.slice none 0 0,.int .i64 8,.int .i64 0,.int .i64 0,.slice none 0 0,.int .i32 s.t.imm.v]) (by kernel_rfl) (by kernel_rfl) (by simp) (by simp[Instr.fill,Value.cells]) ?_
    have hr:Rd W4 (.agg #[.slice none 0 0,.slice none 0 0,.slice none 0 0,.int .i64 8,.int .i64 0,.int .i64 0,.slice none 0 0,.int .i32 s.t.imm.v]) (⟨[],[],[],⟨8,0,0,[],s.t.imm⟩⟩:FitD):=iP (ce:=[_,_,_,_,_]) aF aF aF (iC (by simp) ri aF)
    refine c4.bC (k:=(0,0)) (n:=7) (l:=fitZ) (by rfl) hr rfl rfl (by kernel_rfl) rfl rfl fun h9 l9 hl9 c9=>?_
    have hall:=c9.all (k:=(0,0)) (n:=7) (l:=l9) (B:=R) (e:=T.bH) (by rfl)
    simp at hall
    simp[hall]
    exact hK _ _ (bD.of c9 (hl9▸hr) (by rw[he];rfl) fun y e=>by rw[he]at e;cases e;rfl)
  refine fJ (fun ρ h5=>h5=h4/\ρ=[(0,v),(1,.int .i64 pat),(2,ptr S),(4,ptr R),(5,.bool false),(6,ptr Tb),(7,.slice b0 s.t.to.length k0),(13,ut),(16,.slice b0 s.t.to.length k0),(51,.bool false)]) ?_ ?_
  · intro K2 hK2
    by_cases e0:pat=0
    · have e2:¬s.t.kind=5:=fun e=>p3 ⟨e0,e⟩
      simp[e0,z0,e2]
      exact hK2 _ _ ⟨rfl,by rw[e0]⟩
    · simp[e0,z0]
      exact hK2 _ _ ⟨rfl,rfl⟩
  rintro _ h4 ⟨rfl,rfl⟩
  subst hy
  refine fW (by simp) ?_
  refine aa fun y hy=>?_
  by_cases p4:pat=33/\s.t.kind=2
  · have he:e7 s.f s.t pat=some ⟨s.t.args,[],[],⟨2,nth s.t.args 0,0,s.t.to,⟨0⟩⟩⟩:=by unfold e7;rw[if_neg p1,if_neg p2,if_neg p3,if_pos p4]
    have al:=htk.one (by omega)
    have a0:=hva4.rng (i:=0) al
    have x0:=hva4.idx1 (k:=.i64) (i:=0) rfl (by decide) (by omega)
    have d0:=hva4.int (View.le_refl W4) (i:=0) al
    simp[p4.1,z0,p4.2]
    subst hy
    refine gj (by simp) ?_
    refine aa fun y hy=>?_
    refine bR W4 c4.wle ?_
    simp[s1,x0,d0]
    refine⟨?_,?_⟩
    · refine af (by kernel_rfl) (cZ c4.wle hva4 (by omega)) ?_
      rintro ucl h5 ⟨hle5,hcl⟩
      have c5:=c4.ext hle5
      have hW5:=c4.up (h':=h5)
      refine⟨View.le_trans hW5 c5.wle,?_⟩
      have hcl0:=hcl
      obtain⟨b1,k1,rfl,-⟩:=hcl0
      generalize grow W4 h4 h5=W5 at *
      refine an (t:=T.dW) (z:=.agg #[.int .i64 0,.int .i64 0,.int .i64 0,.slice none 0 0,.int .i32 0]) (places:=[(0,1),(1,1),(2,1),(3,1),(4,1)]) (vs:=[(0,.int .i64 2),(1,.int .i64 (nth s.t.args 0)),(3,.slice b0 s.t.to.length k0)]) (cs:=#[.int .i64 2,.int .i64 (nth s.t.args 0),.int .i64 0,.slice b0 s.t.to.length k0,.int .i32 0]) (by kernel_rfl) (by kernel_rfl) (by simp) (by simp[Instr.fill,Value.cells]) ?_
      refine⟨View.le_trans hW5 c5.wle,?_⟩
      refine an (t:=T.bH) (z:=.agg fitZ.toArray) (places:=[(0,1),(1,1),(2,1),(3,5)]) (vs:=[(0,.slice b1 s.t.args.length k1),(3,.agg #[.int .i64 2,.int .i64 (nth s.t.args 0),.int .i64 0,.slice b0 s.t.to.length k0,.int .i32 0])]) (cs:=#[.slice b1 s.t.args.length k1,.slice none 0 0,.slice none 0 0,.int .i64 2,.int .i64 (nth s.t.args 0),.int .i64 0,.slice b0 s.t.to.length k0,.int .i32 0]) (by kernel_rfl) (by kernel_rfl) (by simp) (by simp[Instr.fill,Value.cells]) ?_
      have hr:Rd W5 (.agg #[.slice b1 s.t.args.length k1,.slice none 0 0,.slice none 0 0,.int .i64 2,.int .i64 (nth s.t.args 0),.int .i64 0,.slice b0 s.t.to.length k0,.int .i32 0]) (⟨s.t.args,[],[],⟨2,nth s.t.args 0,0,s.t.to,⟨0⟩⟩⟩:FitD):=iP (ce:=[_,_,_,_,_]) hcl aF aF (iC (imm:=⟨0⟩) (by simp;omega) (by simp) (hto.mono hW5))
      refine c5.bC (k:=(0,0)) (n:=7) (l:=fitZ) (by rfl) hr rfl rfl (by kernel_rfl) rfl rfl fun h9 l9 hl9 c9=>?_
      subst hy
      have hall:=c9.all (k:=(0,0)) (n:=7) (l:=l9) (B:=R) (e:=T.bH) (by rfl)
      simp at hall
      simp[hall]
      exact hK _ _ (bD.of c9 (hl9▸hr) (by rw[he];rfl) fun y e=>by rw[he]at e;cases e;rfl)
    · refine an (t:=T.dW) (z:=.agg #[.int .i64 0,.int .i64 0,.int .i64 0,.slice none 0 0,.int .i32 0]) (places:=[(0,1),(1,1),(2,1),(3,1),(4,1)]) (vs:=[(0,.int .i64 2),(1,.int .i64 (nth s.t.args 0)),(3,.slice b0 s.t.to.length k0)]) (cs:=#[.int .i64 2,.int .i64 (nth s.t.args 0),.int .i64 0,.slice b0 s.t.to.length k0,.int .i32 0]) (by kernel_rfl) (by kernel_rfl) (by simp) (by simp[Instr.fill,Value.cells]) ?_
      refine⟨c4.wle,?_⟩
      refine af (by kernel_rfl) (cZ c4.wle hva4 (by omega)) ?_
      rintro ucl h5 ⟨hle5,hcl⟩
      have c5:=c4.ext hle5
      have hW5:=c4.up (h':=h5)
      refine⟨View.le_trans hW5 c5.wle,?_⟩
      have hcl0:=hcl
      obtain⟨b1,k1,rfl,-⟩:=hcl0
      generalize grow W4 h4 h5=W5 at *
      refine an (t:=T.bH) (z:=.agg fitZ.toArray) (places:=[(0,1),(1,1),(2,1),(3,5)]) (vs:=[(0,.slice b1 s.t.args.length k1),(3,.agg #[.int .i64 2,.int .i64 (nth s.t.args 0),.int .i64 0,.slice b0 s.t.to.length k0,.int .i32 0])]) (cs:=#[.slice b1 s.t.args.length k1,.slice none 0 0,.slice none 0 0,.int .i64 2,.int .i64 (nth s.t.args 0),.int .i64 0,.slice b0 s.t.to.length k0,.int .i32 0]) (by kernel_rfl) (by kernel_rfl) (by simp) (by simp[Instr.fill,Value.cells]) ?_
      have hr:Rd W5 (.agg #[.slice b1 s.t.args.length k1,.slice none 0 0,.slice none 0 0,.int .i64 2,.int .i64 (nth s.t.args 0),.int .i64 0,.slice b0 s.t.to.length k0,.int .i32 0]) (⟨s.t.args,[],[],⟨2,nth s.t.args 0,0,s.t.to,⟨0⟩⟩⟩:FitD):=iP (ce:=[_,_,_,_,_]) hcl aF aF (iC (imm:=⟨0⟩) (by simp;omega) (by simp) (hto.mono hW5))
      refine c5.bC (k:=(0,0)) (n:=7) (l:=fitZ) (by rfl) hr rfl rfl (by kernel_rfl) rfl rfl fun h9 l9 hl9 c9=>?_
      subst hy
      have hall:=c9.all (k:=(0,0)) (n:=7) (l:=l9) (B:=R) (e:=T.bH) (by rfl)
      simp at hall
      simp[hall]
      exact hK _ _ (bD.of c9 (hl9▸hr) (by rw[he];rfl) fun y e=>by rw[he]at e;cases e;rfl)
  refine fJ (fun ρ h5=>h5=h4/\ρ=[(0,v),(1,.int .i64 pat),(2,ptr S),(4,ptr R),(5,.bool false),(6,ptr Tb),(7,.slice b0 s.t.to.length k0),(13,ut),(16,.slice b0 s.t.to.length k0),(63,.bool false)]) ?_ ?_
  · intro K2 hK2
    by_cases e0:pat=33
    · have e2:¬s.t.kind=2:=fun e=>p4 ⟨e0,e⟩
      simp[e0,z0,e2]
      exact hK2 _ _ ⟨rfl,by rw[e0]⟩
    · simp[e0,z0]
      exact hK2 _ _ ⟨rfl,rfl⟩
  rintro _ h4 ⟨rfl,rfl⟩
  subst hy
  refine fW (by simp) ?_
  refine aa fun y hy=>?_
  by_cases p5:(34<=pat/\pat<=36)/\s.t.kind=2
  · have w5:inR pat 34 36=true:=by simp[inR,p5.1.1,p5.1.2]
    have al:=htk.one (by omega)
    have a0:=hva4.rng (i:=0) al
    have x0:=hva4.idx1 (k:=.i64) (i:=0) rfl (by decide) (by omega)
    simp
    refine af (by kernel_rfl) iv ?_
    rintro _ h4 ⟨rfl,rfl⟩
    simp[w5,z0,p5.2]
    subst hy
    refine gj (by simp) ?_
    refine aa fun y hy=>?_
    simp
    subst hy
    refine aa fun y hy=>?_
    refine bR (vw h4) (View.le_refl _) ?_
    obtain⟨us,hus,rus⟩:=at1.ldN rfl (N:=13) rfl
    have hus:=hus _ (View.le_trans hW3 (View.le_trans hW4 c4.wle))
    have rus:=rus.mono (View.le_trans hW3 hW4)
    have d0:=hva4.int c4.wle (i:=0) al
    have ek:(11:Int)+(pat-34)=pat-23:=by omega
    have ew0:IntKind.i64.wrap (pat-34)=pat-34:=cj (by omega) (by omega)
    have ew:IntKind.i64.wrap (11+(pat-34))=pat-23:=by rw[cj (by omega) (by omega)];omega
    have ew2:IntKind.i64.wrap (3+(pat-34))=pat-31:=by rw[cj (by omega) (by omega)];omega
    have hE:e7 s.f s.t pat=if(aD s.f (nth s.t.args 0) (pat-23)).2 then some ⟨(aD s.f (nth s.t.args 0) (pat-23)).1.args,s.t.args,[],⟨pat-31,nth (aD s.f (nth s.t.args 0) (pat-23)).1.args 0,nth (aD s.f (nth s.t.args 0) (pat-23)).1.args 1,s.t.to,⟨0⟩⟩⟩ else none:=by
      unfold e7;rw[if_neg p1,if_neg p2,if_neg p3,if_neg p4,if_pos p5]
    have hfm:=jf (f:=s.f) (v:=nth s.t.args 0) (op:=pat-23)
    have hfo:=mg (s:=s) (v:=us) (x:=nth s.t.args 0) (op:=pat-23) (W:=W4) (h:=h4)
    have rng : ∀{hx:Heap} {Wx:View},Cx W h Wx hx (Own.upd (fun _=>none) (0,0) (bx T.bH R (RawN.mk (n:=7) fitZ)))->True:=fun _=>trivial
    generalize hm:(aD s.f (nth s.t.args 0) (pat-23)).1=m at *
    generalize hbb:(aD s.f (nth s.t.args 0) (pat-23)).2=b at *
    have c:=c4
    have hrefl:(vw h4).le (vw h4):=View.le_refl _
    repeat' (first
      | refine jY ?_ ?_
      | (refine dL fun x hx=>?_
         simp[s1,z1,x0,d0,hus,ew0,ew]
         first
         | refine c.cU (k:=(0,2)) (n:=4) (z:=.agg #[.int .i64 0,.int .i64 0,.int .i64 0,.slice none 0 0,.int .i32 0]) (by rfl) (by kernel_rfl) rfl (by decide) (by simp[Value.cells,Value.oneCell']) fun Bi h hle c=>?_
         | (refine af (by kernel_rfl) (mg c.wle rus hok.sm a0) ?_
            rw[hm,hbb]
            rintro _ h ⟨hle,vm,rfl,hvm⟩
            have hW:=c.up (h':=h)
            have c:=c.ext hle)
         | refine c.bC (k:=(0,2)) (n:=4) (l:=[.int .i64 0,.int .i64 0,.int .i64 0,.slice none 0 0,.int .i32 0]) (by rfl) (hvm.mono (by repeat (first | exact View.le_refl _ | assumption | refine View.le_trans ?_ (by assumption)))) rfl rfl (by kernel_rfl) rfl rfl fun h l10 hl10 c=>?_
         try refine⟨(by repeat (first | exact View.le_refl _ | assumption | refine View.le_trans ?_ (by assumption))),?_⟩
         subst hx))
    all_goals
      simp
      subst hy
      have hvm0:=hvm
      obtain⟨a3,m3,k3,rfl⟩:=oB hvm0
      have hl10:=hl10
      have e10:l10=[.int .i64 m.op,.int .i64 m.dst,.int .i64 m.two,.slice a3 m3 k3,.int .i32 m.imm.v]:=by
        simp only[Value.agg.injEq]at hl10
        have:=congrArg Array.toList hl10
        simpa using this.symm
      subst e10
      have y10:=c.own.raw (k:=(0,2)) (n:=4) (l:=[.int .i64 m.op,.int .i64 m.dst,.int .i64 m.two,.slice a3 m3 k3,.int .i32 m.imm.v]) (B:=Bi) (e:=T.fk) (by rfl) (i:=3) (by decide)
      simp at y10
      have hma:=sy hvm
      cases b with
      | false=>
        have he:e7 s.f s.t pat=none:=by rw[hE];rfl
        refine aa fun y hy=>?_
        simp
        refine an (z:=.agg fitZ.toArray) (places:=[(0,1),(1,1),(2,1),(3,5)]) (vs:=[]) (cs:=fitZ.toArray) (by kernel_rfl) (by kernel_rfl) (by simp) (by rfl) ?_
        refine c.bC (k:=(0,0)) (n:=7) (l:=fitZ) (by rfl) gE rfl rfl (by kernel_rfl) rfl rfl fun h9 l9 hl9 c9=>?_
        have hall:=c9.all (k:=(0,0)) (n:=7) (l:=l9) (B:=R) (e:=T.bH) (by rfl)
        simp at hall
        simp[hall]
        exact hK _ _ (bD.of c9 (hl9▸gE) (by rw[he];rfl) fun y e=>by rw[he]at e;cases e)
      | true=>
        have he:e7 s.f s.t pat=some ⟨m.args,s.t.args,[],⟨pat-31,nth m.args 0,nth m.args 1,s.t.to,⟨0⟩⟩⟩:=by rw[hE];rfl
        obtain⟨mm1,mm2,-⟩:=hfm rfl
        have hal2:=(hok.all _ mm1).two (by omega)
        have hmost:=(hok.all _ mm1).most
        have r0:=hma.rng (i:=0) (by omega)
        have r1:=hma.rng (i:=1) (by omega)
        have x2':=hma.idx1 (k:=.i64) (i:=0) rfl (by decide) (by omega)
        have x3':=hma.idx1 (k:=.i64) (i:=1) rfl (by decide) (by omega)
        refine aa fun y hy=>?_
        simp
        subst hy
        refine aa fun y hy=>?_
        refine bR (vw h) (View.le_refl _) ?_
        have d2':=hma.int (View.le_trans (by repeat (first | exact View.le_refl _ | assumption | refine View.le_trans ?_ (by assumption))) c.wle) (i:=0) (by omega)
        have d3':=hma.int (View.le_trans (by repeat (first | exact View.le_refl _ | assumption | refine View.le_trans ?_ (by assumption))) c.wle) (i:=1) (by omega)
        have s1h:=ab (View.le_trans (by repeat (first | exact View.le_refl _ | assumption | refine View.le_trans ?_ (by assumption))) c.wle) s1
        have d0h:=hva4.int (View.le_trans (by repeat (first | exact View.le_refl _ | assumption | refine View.le_trans ?_ (by assumption))) c.wle) (i:=0) al
        have hva5:=hva4.mono (by repeat (first | exact View.le_refl _ | assumption | refine View.le_trans ?_ (by assumption)))
        have hto5:=hto.mono (by repeat (first | exact View.le_refl _ | assumption | refine View.le_trans ?_ (by assumption)))
        have hma5:=hma.mono (by repeat (first | exact View.le_refl _ | assumption | refine View.le_trans ?_ (by assumption)))
        have hH:(vw h).le (vw h):=View.le_refl _
        have hr : ∀{X:View} {bA bB:Option Addr} {kA kB:Nat},SlRd X (.slice bA m.args.length kA) m.args->SlRd X (.slice bB s.t.args.length kB) s.t.args->SlRd X (.slice b0 s.t.to.length k0) s.t.to->Rd X (.agg #[.slice bA m.args.length kA,.slice bB s.t.args.length kB,.slice none 0 0,.int .i64 (pat-31),.int .i64 (nth m.args 0),.int .i64 (nth m.args 1),.slice b0 s.t.to.length k0,.int .i32 0]) (⟨m.args,s.t.args,[],⟨pat-31,nth m.args 0,nth m.args 1,s.t.to,⟨0⟩⟩⟩:FitD):=fun q1 q2 q3=>iP (ce:=[_,_,_,_,_]) q1 q2 aF (iC (imm:=⟨0⟩) (by simp;omega) (by simp) q3)
        repeat' (first
          | refine jY ?_ ?_
          | (refine dL fun x hx=>?_
             simp[y10,s1h,x2',x3',d2',d3',ew2]
             first
             | refine an (t:=T.dW) (z:=.agg #[.int .i64 0,.int .i64 0,.int .i64 0,.slice none 0 0,.int .i32 0]) (places:=[(0,1),(1,1),(2,1),(3,1),(4,1)]) (vs:=[(0,.int .i64 (pat-31)),(1,.int .i64 (nth m.args 0)),(2,.int .i64 (nth m.args 1)),(3,.slice b0 s.t.to.length k0)]) (cs:=#[.int .i64 (pat-31),.int .i64 (nth m.args 0),.int .i64 (nth m.args 1),.slice b0 s.t.to.length k0,.int .i32 0]) (by kernel_rfl) (by kernel_rfl) (by simp) (by simp[Instr.fill,Value.cells]) ?_
             | (refine af (by kernel_rfl) (cZ c.wle (hma5.mono (by repeat (first | exact View.le_refl _ | assumption | refine View.le_trans ?_ (by assumption)))) (by omega)) ?_
                rintro uA h ⟨hle,hcA⟩
                have hW:=c.up (h':=h)
                have c:=c.ext hle
                have hcA0:=hcA
                obtain⟨bA,kA,rfl,-⟩:=hcA0)
             | (refine af (by kernel_rfl) (cZ c.wle (hva5.mono (by repeat (first | exact View.le_refl _ | assumption | refine View.le_trans ?_ (by assumption)))) (by omega)) ?_
                rintro uB h ⟨hle,hcB⟩
                have hW:=c.up (h':=h)
                have c:=c.ext hle
                have hcB0:=hcB
                obtain⟨bB,kB,rfl,-⟩:=hcB0)
             | refine an (t:=T.bH) (z:=.agg fitZ.toArray) (places:=[(0,1),(1,1),(2,1),(3,5)]) (vs:=[(0,.slice bA m.args.length kA),(1,.slice bB s.t.args.length kB),(3,.agg #[.int .i64 (pat-31),.int .i64 (nth m.args 0),.int .i64 (nth m.args 1),.slice b0 s.t.to.length k0,.int .i32 0])]) (cs:=#[.slice bA m.args.length kA,.slice bB s.t.args.length kB,.slice none 0 0,.int .i64 (pat-31),.int .i64 (nth m.args 0),.int .i64 (nth m.args 1),.slice b0 s.t.to.length k0,.int .i32 0]) (by kernel_rfl) (by kernel_rfl) (by simp) (by simp[Instr.fill,Value.cells]) ?_
             | refine c.bC (k:=(0,0)) (n:=7) (l:=fitZ) (by rfl) (hr (hcA.mono (by repeat (first | exact View.le_refl _ | assumption | refine View.le_trans ?_ (by assumption)))) (hcB.mono (by repeat (first | exact View.le_refl _ | assumption | refine View.le_trans ?_ (by assumption)))) (hto5.mono (by repeat (first | exact View.le_refl _ | assumption | refine View.le_trans ?_ (by assumption))))) rfl rfl (by kernel_rfl) rfl rfl fun h l9 hl9 c=>?_
             try refine⟨(by repeat (first | exact View.le_refl _ | assumption | refine View.le_trans ?_ (by assumption))),?_⟩
             subst hx))
        all_goals
          simp
          rw[hy]
          have hall:=c.all (k:=(0,0)) (n:=7) (l:=l9) (B:=R) (e:=T.bH) (by rfl)
          simp at hall
          simp[hall]
          exact hK _ _ (bD.of c (hl9▸hr (hcA.mono (by repeat (first | exact View.le_refl _ | assumption | refine View.le_trans ?_ (by assumption)))) (hcB.mono (by repeat (first | exact View.le_refl _ | assumption | refine View.le_trans ?_ (by assumption)))) (hto5.mono (by repeat (first | exact View.le_refl _ | assumption | refine View.le_trans ?_ (by assumption))))) (by rw[he];rfl) fun y e=>by rw[he]at e;cases e;rfl)
  refine fJ (fun ρ h5=>h5=h4/\ρ=[(0,v),(1,.int .i64 pat),(2,ptr S),(4,ptr R),(5,.bool false),(6,ptr Tb),(7,.slice b0 s.t.to.length k0),(13,ut),(16,.slice b0 s.t.to.length k0),(81,.bool false),(83,.bool (inR pat 34 36))]) ?_ ?_
  · intro K2 hK2
    simp
    refine af (by kernel_rfl) iv ?_
    rintro _ h4 ⟨rfl,rfl⟩
    by_cases e0:inR pat 34 36=true
    · have e2:¬s.t.kind=2:=fun e=>p5 ⟨by simpa[inR]using e0,e⟩
      simp[e0,z0,e2]
      exact hK2 _ _ ⟨rfl,by rw[e0]⟩
    · have e0:inR pat 34 36=false:=by simpa using e0
      simp[e0]
      exact hK2 _ _ ⟨rfl,by rw[e0]⟩
  rintro _ h4 ⟨rfl,rfl⟩
  subst hy
  refine fW (by simp) ?_
  refine aa fun y hy=>?_
  by_cases p6:pat=37/\s.t.kind=3
  · have he:e7 s.f s.t pat=some ⟨s.t.args,[],[],⟨6,nth s.t.args 0,0,s.t.to,⟨0⟩⟩⟩:=by unfold e7;rw[if_neg p1,if_neg p2,if_neg p3,if_neg p4,if_neg p5,if_pos p6]
    have al:=htk.one (by omega)
    have a0:=hva4.rng (i:=0) al
    have x0:=hva4.idx1 (k:=.i64) (i:=0) rfl (by decide) (by omega)
    have d0:=hva4.int (View.le_refl W4) (i:=0) al
    simp[p6.1,z0,p6.2]
    subst hy
    refine gj (by simp) ?_
    refine aa fun y hy=>?_
    refine bR W4 c4.wle ?_
    simp[s1,x0,d0]
    refine⟨?_,?_⟩
    · refine af (by kernel_rfl) (cZ c4.wle hva4 (by omega)) ?_
      rintro ucl h5 ⟨hle5,hcl⟩
      have c5:=c4.ext hle5
      have hW5:=c4.up (h':=h5)
      refine⟨View.le_trans hW5 c5.wle,?_⟩
      have hcl0:=hcl
      obtain⟨b1,k1,rfl,-⟩:=hcl0
      generalize grow W4 h4 h5=W5 at *
      refine an (t:=T.dW) (z:=.agg #[.int .i64 0,.int .i64 0,.int .i64 0,.slice none 0 0,.int .i32 0]) (places:=[(0,1),(1,1),(2,1),(3,1),(4,1)]) (vs:=[(0,.int .i64 6),(1,.int .i64 (nth s.t.args 0)),(3,.slice b0 s.t.to.length k0)]) (cs:=#[.int .i64 6,.int .i64 (nth s.t.args 0),.int .i64 0,.slice b0 s.t.to.length k0,.int .i32 0]) (by kernel_rfl) (by kernel_rfl) (by simp) (by simp[Instr.fill,Value.cells]) ?_
      refine⟨View.le_trans hW5 c5.wle,?_⟩
      refine an (t:=T.bH) (z:=.agg fitZ.toArray) (places:=[(0,1),(1,1),(2,1),(3,5)]) (vs:=[(0,.slice b1 s.t.args.length k1),(3,.agg #[.int .i64 6,.int .i64 (nth s.t.args 0),.int .i64 0,.slice b0 s.t.to.length k0,.int .i32 0])]) (cs:=#[.slice b1 s.t.args.length k1,.slice none 0 0,.slice none 0 0,.int .i64 6,.int .i64 (nth s.t.args 0),.int .i64 0,.slice b0 s.t.to.length k0,.int .i32 0]) (by kernel_rfl) (by kernel_rfl) (by simp) (by simp[Instr.fill,Value.cells]) ?_
      have hr:Rd W5 (.agg #[.slice b1 s.t.args.length k1,.slice none 0 0,.slice none 0 0,.int .i64 6,.int .i64 (nth s.t.args 0),.int .i64 0,.slice b0 s.t.to.length k0,.int .i32 0]) (⟨s.t.args,[],[],⟨6,nth s.t.args 0,0,s.t.to,⟨0⟩⟩⟩:FitD):=iP (ce:=[_,_,_,_,_]) hcl aF aF (iC (imm:=⟨0⟩) (by simp;omega) (by simp) (hto.mono hW5))
      refine c5.bC (k:=(0,0)) (n:=7) (l:=fitZ) (by rfl) hr rfl rfl (by kernel_rfl) rfl rfl fun h9 l9 hl9 c9=>?_
      subst hy
      have hall:=c9.all (k:=(0,0)) (n:=7) (l:=l9) (B:=R) (e:=T.bH) (by rfl)
      simp at hall
      simp[hall]
      exact hK _ _ (bD.of c9 (hl9▸hr) (by rw[he];rfl) fun y e=>by rw[he]at e;cases e;rfl)
    · refine an (t:=T.dW) (z:=.agg #[.int .i64 0,.int .i64 0,.int .i64 0,.slice none 0 0,.int .i32 0]) (places:=[(0,1),(1,1),(2,1),(3,1),(4,1)]) (vs:=[(0,.int .i64 6),(1,.int .i64 (nth s.t.args 0)),(3,.slice b0 s.t.to.length k0)]) (cs:=#[.int .i64 6,.int .i64 (nth s.t.args 0),.int .i64 0,.slice b0 s.t.to.length k0,.int .i32 0]) (by kernel_rfl) (by kernel_rfl) (by simp) (by simp[Instr.fill,Value.cells]) ?_
      refine⟨c4.wle,?_⟩
      refine af (by kernel_rfl) (cZ c4.wle hva4 (by omega)) ?_
      rintro ucl h5 ⟨hle5,hcl⟩
      have c5:=c4.ext hle5
      have hW5:=c4.up (h':=h5)
      refine⟨View.le_trans hW5 c5.wle,?_⟩
      have hcl0:=hcl
      obtain⟨b1,k1,rfl,-⟩:=hcl0
      generalize grow W4 h4 h5=W5 at *
      refine an (t:=T.bH) (z:=.agg fitZ.toArray) (places:=[(0,1),(1,1),(2,1),(3,5)]) (vs:=[(0,.slice b1 s.t.args.length k1),(3,.agg #[.int .i64 6,.int .i64 (nth s.t.args 0),.int .i64 0,.slice b0 s.t.to.length k0,.int .i32 0])]) (cs:=#[.slice b1 s.t.args.length k1,.slice none 0 0,.slice none 0 0,.int .i64 6,.int .i64 (nth s.t.args 0),.int .i64 0,.slice b0 s.t.to.length k0,.int .i32 0]) (by kernel_rfl) (by kernel_rfl) (by simp) (by simp[Instr.fill,Value.cells]) ?_
      have hr:Rd W5 (.agg #[.slice b1 s.t.args.length k1,.slice none 0 0,.slice none 0 0,.int .i64 6,.int .i64 (nth s.t.args 0),.int .i64 0,.slice b0 s.t.to.length k0,.int .i32 0]) (⟨s.t.args,[],[],⟨6,nth s.t.args 0,0,s.t.to,⟨0⟩⟩⟩:FitD):=iP (ce:=[_,_,_,_,_]) hcl aF aF (iC (imm:=⟨0⟩) (by simp;omega) (by simp) (hto.mono hW5))
      refine c5.bC (k:=(0,0)) (n:=7) (l:=fitZ) (by rfl) hr rfl rfl (by kernel_rfl) rfl rfl fun h9 l9 hl9 c9=>?_
      subst hy
      have hall:=c9.all (k:=(0,0)) (n:=7) (l:=l9) (B:=R) (e:=T.bH) (by rfl)
      simp at hall
      simp[hall]
      exact hK _ _ (bD.of c9 (hl9▸hr) (by rw[he];rfl) fun y e=>by rw[he]at e;cases e;rfl)
  refine fJ (fun ρ h5=>h5=h4/\ρ=[(0,v),(1,.int .i64 pat),(2,ptr S),(4,ptr R),(5,.bool false),(6,ptr Tb),(7,.slice b0 s.t.to.length k0),(13,ut),(16,.slice b0 s.t.to.length k0),(83,.bool (inR pat 34 36)),(124,.bool false)]) ?_ ?_
  · intro K2 hK2
    by_cases e0:pat=37
    · have e2:¬s.t.kind=3:=fun e=>p6 ⟨e0,e⟩
      simp[e0,z0,e2]
      exact hK2 _ _ ⟨rfl,by rw[e0]⟩
    · simp[e0,z0]
      exact hK2 _ _ ⟨rfl,rfl⟩
  rintro _ h4 ⟨rfl,rfl⟩
  subst hy
  refine fW (by simp) ?_
  have he:e7 s.f s.t pat=none:=by unfold e7;rw[if_neg p1,if_neg p2,if_neg p3,if_neg p4,if_neg p5,if_neg p6]
  simp
  subst hz
  refine aa fun z hz=>?_
  simp
  refine an (z:=.agg fitZ.toArray) (places:=[(0,1),(1,1),(2,1),(3,5)]) (vs:=[]) (cs:=fitZ.toArray) (by kernel_rfl) (by kernel_rfl) (by simp) (by rfl) ?_
  refine c4.bC (k:=(0,0)) (n:=7) (l:=fitZ) (by rfl) gE rfl rfl (by kernel_rfl) rfl rfl fun h9 l9 hl9 c9=>?_
  subst hz
  have hall:=c9.all (k:=(0,0)) (n:=7) (l:=l9) (B:=R) (e:=T.bH) (by rfl)
  simp at hall
  simp[hall]
  exact hK _ _ (bD.of c9 (hl9▸gE) (by rw[he];rfl) fun y e=>by rw[he]at e;cases e)
end Go.Proofs.YtnfiilgdjpdlkaaGreatDoor
namespace Go.Proofs.YtnfiilgdjpdlkaaGreatDoor
open Go Go.Lft
theorem Cx.upW{V W W':View}{h0 h h':Heap}{o:Own}(c:Cx V h0 W h o)(hle:(vw h).le (vw h'))(u:Up W h W')(hW:W'.le (vw h')):Cx V h0 W' h' o:=by
 have A : ∀k i b,o k=some i->i.v.ownBlock=some b->W' b=none:=fun k i b hk hb=>by
  have hlt:=c.own.lt hk hb;have hav:=c.own.av k i hk b hb;cases hx:W' b with
  | none=>rfl
  | some x=>rw[u.old b x hlt hx]at hav;cases hav
 exact⟨(c.own.ext' hle).Cq u.le hW A,fun b x hb hx=>c.old b x hb (u.old b x (Fg hb (cO c.le0)) hx),View.le_trans c.le0 hle,c.new⟩
theorem BD{s:bf}{v:Value}{pat:Int}{h:Heap}{W:View}(hW:W.le (vw h))(hv:Rd W v s)(hok:s.term=false->jW s)(htk:s.term=true->jW s/\pk s.t)(hM:s.i.op=15\/s.i.op=16->jt)(hp:I64 pat):
  aj Tryz.prog N.cQ #[v,.int .i64 pat] h (fun u h'=>bD W h h' u (tryS s pat)):=by
 refine ah (args:=[v,.int .i64 pat]) follows F.cQ E.cQ (Dv (by kernel_rfl)) fun K hK=>?_;dsimp only[L.cQ];have c0:=Cx.start hW;refine aa fun z hz=>?_;simp;refine c0.cS rfl hv fun S h1 W1 hW1 c1 at1 hle1=>?_;refine c1.cU (k:=(0,0)) (n:=7) (z:=.agg fitZ.toArray) rfl (by kernel_rfl) rfl (by decide) (by simp[Value.cells,Value.oneCell']) fun R h2 hle2 c2=>?_;subst hz;have tm:=(at1.part bf.nA).bool
 have tm:ag W1 ⟨S,11,none⟩=some (.bool s.term):=by simpa using tm
 have tm:=ab c2.wle tm;obtain⟨us,hus,rus⟩:=at1.ldN rfl (N:=13) rfl;have hus:=hus _ c2.wle;refine aa fun z hz=>?_;cases ht:s.term with
 | true=>
  rw[ht]at tm;obtain⟨hk1,hk2⟩:=htk ht;have e:tryS s pat=e7 s.f s.t pat:=by unfold tryS;rw[if_pos ht]
  rw[e]at hK;simp[tm,hus];refine af (by kernel_rfl) (A2 c2.wle rus hk1 hk2 hp) ?_;rintro _ h3 ⟨hle3,vf,x,rfl,hvf,hx⟩;have c3:=c2.ext hle3;simp;refine c3.bC (k:=(0,0)) (n:=7) (l:=fitZ) (by rfl) hvf rfl rfl (by kernel_rfl) rfl rfl fun h9 l9 hl9 c9=>?_;have hall:=c9.all (k:=(0,0)) (n:=7) (l:=l9) (B:=R) (e:=T.bH) (by rfl)
  simp at hall;simp[hall];exact hK _ _ (bD.of c9 (hl9▸hvf) rfl hx)
 | false=>
  rw[ht]at tm;have e:tryS s pat=patS s.f s.i s.temp pat:=by unfold tryS;rw[ht];rfl
  rw[e]at hK;simp[tm];subst hz;refine aa fun z hz=>?_;simp[hus];refine af (by kernel_rfl) (tj c2.wle rus (hok ht) ht hM) ?_;rintro _ h3 ⟨r,W3,rfl,u3,p3,hle3⟩;have c3:=Cx.upW c2 hle3 u3 p3.wle;obtain⟨g,g1,g2,g3⟩:=p3.ex;refine iE (f:=mapE id g) (z:=.nilFunc) (k:=T.int) (e:=T.ee) (d:=.int .i64) (r:=r) (u:=.int .i64 pat) U.aZ U.int (by kernel_rfl) rfl rfl dz g1 ?_;simp;subst hz;refine aa fun z hz=>?_;have g2p:=g2 pat
  have g3p:=g3 pat;cases hg:g pat with
  | none=>
   rw[hg]at g2p;have e0:patS s.f s.i s.temp pat=none:=by unfold patS;rw[if_neg];rintro⟨a1,a2,-⟩;simp[nTo]at g2p;omega
   rw[e0]at hK;simp;refine an (t:=T.bH) (z:=.agg fitZ.toArray) (places:=[(0,1),(1,1),(2,1),(3,5)]) (vs:=[]) (cs:=fitZ.toArray) (by kernel_rfl) (by kernel_rfl) (by simp) (by rfl) ?_;refine c3.bC (k:=(0,0)) (n:=7) (l:=fitZ) (by rfl) gE rfl rfl (by kernel_rfl) rfl rfl fun h9 l9 hl9 c9=>?_;have hall:=c9.all (k:=(0,0)) (n:=7) (l:=l9) (B:=R) (e:=T.bH) (by rfl);simp at hall;simp[hall];exact hK _ _ (bD.of c9 (hl9▸gE) rfl fun y e=>by cases e)
  | some fv=>
   obtain⟨fn,caps,rfl,hfn,hcall⟩:=(g3p fv hg).ex;simp;subst hz;refine aa fun z hz=>?_;simp;refine bL (ops:=[]) rfl hfn (by simpa using hcall h3 W3 (View.le_refl _) p3.wle) ?_;rintro _ h4 ⟨hle4,vf,x,rfl,hvf,hx⟩;have c4:=c3.ext hle4;simp;refine c4.bC (k:=(0,0)) (n:=7) (l:=fitZ) (by rfl) hvf rfl rfl (by kernel_rfl) rfl rfl fun h9 l9 hl9 c9=>?_;subst hz;have hall:=c9.all (k:=(0,0)) (n:=7) (l:=l9) (B:=R) (e:=T.bH) (by rfl)
   simp at hall;simp[hall];exact hK _ _ (bD.of c9 (hl9▸hvf) rfl hx)
abbrev RSt:=List Bool × List Int
def kn (wo:Int) (to:List Int) (k:Nat) (s:RSt):RSt:=
 if(0<=nth to k/\nth to k<s.1.length)/\nth s.1 (nth to k).toNat=false/\nth to k≠wo then(s.1.set (nth to k).toNat true,s.2++[nth to k]) else s
def q6 (f:ae) (wo:Int) (i:Nat) (s:RSt):RSt:=up (kn wo (nth f.blocks (nth s.2 i).toNat).term.to) (nth f.blocks (nth s.2 i).toNat).term.to.length s
def rchS (f:ae) (wo:Int):Nat->Nat->RSt->RSt
 | 0,_,s=>s
 | n+1,i,s=>if i<s.2.length then rchS f wo n (i+1) (q6 f wo i s) else s
def rch0 (f:ae) (wo:Int):RSt:=if wo≠0/\0<f.blocks.length then((List.replicate f.blocks.length false).set 0 true,[0]) else(List.replicate f.blocks.length false,[])
def hZ (f:ae) (wo:Int):List Bool:=(rchS f wo (f.blocks.length+1) 0 (rch0 f wo)).1
structure ROk (n:Nat) (s:RSt):Prop where
 len:s.1.length=n
 cnt:s.2.length+cr s.1<=n
 rng : ∀x∈s.2,0<=x/\x<n
variable{wo:Int}
theorem yU{n:Nat}{to:List Int}{k:Nat}{s:RSt}(h:ROk n s):ROk n (kn wo to k s):=by
 unfold kn;split
 ·rename_i hc;have hf:=fq (t:=s.1) (i:=(nth to k).toNat) (by omega) hc.2.1;refine⟨by simpa using h.len,?_,fun x hx=>?_⟩
  ·have:=h.cnt;simp only[DT,EE];omega
  rcases DE.1 hx with hx | hx
  ·exact h.rng x hx
  rw[DF.1 hx,<-h.len];exact hc.1
 exact h
theorem zZ{f:ae}:ROk f.blocks.length (rch0 f wo):=by
 unfold rch0;have hfa:cr (List.replicate f.blocks.length false)=f.blocks.length:=by simp[cr]
 split
 ·rename_i hc;have hf:=fq (t:=List.replicate f.blocks.length false) (i:=0) (by simpa using hc.2) (by rw[aq (by simpa using hc.2)];simp);exact⟨by simp,by simp only[EE];omega,fun x hx=>by rw[DF.1 hx];omega⟩
 exact⟨by simp,by simp only[Fc];omega,fun x hx=>by cases hx⟩
theorem jA{l:List BlkD}:(ofG l).length=l.length:=by simp[ofG]
theorem lY{l:List BlkD}{a b:Int}:iW (ofG l) a b=true↔(0<=a/\a<l.length/\0<=b/\b<l.length)/\b∈(nth l a.toNat).term.to:=by
 rw[eV,jA];constructor
 ·rintro⟨h,hm⟩;rw[ofG,eu (by omega),nf]at hm;exact⟨h,hm.1⟩
 rintro⟨h,hm⟩;refine⟨h,?_⟩;rw[ofG,eu (by omega),nf];exact⟨hm,h.2.2.1,h.2.2.2⟩
structure Rb (f:ae) (wo:Int) (s:RSt):Prop where
 ok:ROk f.blocks.length s
 seen : ∀b:Nat,b<f.blocks.length->(nth s.1 b=true↔(b:Int)∈s.2)
 sound : ∀x∈s.2,Re (ofG f.blocks) wo x.toNat
theorem Cj{f:ae}{a:Int}{k:Nat}{s:RSt}(h:Rb f wo s)(h0:0<=a)(h1:a<f.blocks.length)(ha:Re (ofG f.blocks) wo a.toNat)(hk:k<(nth f.blocks a.toNat).term.to.length):
  Rb f wo (kn wo (nth f.blocks a.toNat).term.to k s)/\s.2 <+: (kn wo (nth f.blocks a.toNat).term.to k s).2/\
   (0<=nth (nth f.blocks a.toNat).term.to k->nth (nth f.blocks a.toNat).term.to k<f.blocks.length->nth (nth f.blocks a.toNat).term.to k≠wo->nth (nth f.blocks a.toNat).term.to k∈(kn wo (nth f.blocks a.toNat).term.to k s).2):=by
 have hok:=yU (wo:=wo) (to:=(nth f.blocks a.toNat).term.to) (k:=k) h.ok;have hm:=bT hk;unfold kn at hok ⊢;generalize hto:(nth f.blocks a.toNat).term.to=to at hm hok ⊢;split
 ·rename_i hc;rw[if_pos hc]at hok;obtain⟨⟨c1,c2⟩,c3,c4⟩:=hc;rw[h.ok.len]at c2;have hb:((nth to k).toNat:Int)=nth to k:=DI c1;refine⟨⟨hok,fun b hb=>?_,fun x hx=>?_⟩,List.prefix_append _ _,fun _ _ _=>Eh _ (DF.2 rfl)⟩
  ·rw[DE,DF];by_cases he:b=(nth to k).toNat
   ·subst he;rw[cg (by rw[h.ok.len];omega),if_pos rfl];exact⟨fun _=>.inr (DI c1),fun _=>rfl⟩
   rw[cg (by rw[h.ok.len];exact hb),if_neg (fun e=>he e.symm),h.seen b hb];exact⟨.inl,fun e=>e.resolve_right (by omega)⟩
  rcases DE.1 hx with hx | hx
  ·exact h.sound x hx
  rw[DF.1 hx];refine .step ha ?_ (by rw[hb];exact c4);rw[lY,hb];exact⟨⟨by omega,by omega,c1,c2⟩,by rw[DN,hto];exact hm⟩
 rename_i hc;rw[if_neg hc]at hok;refine⟨h,EM _,fun c1 c2 c4=>?_⟩;have hb:((nth to k).toNat:Int)=nth to k:=DI c1;rw[<-hb,<-h.seen _ (by omega)];cases e:nth s.1 (nth to k).toNat with
 | true=>rfl
 | false=>exact absurd ⟨⟨c1,by rw[h.ok.len];exact c2⟩,e,c4⟩ hc
theorem yx {f:ae} {wo a:Int} {s:RSt} (h:Rb f wo s) (h0:0<=a) (h1:a<f.blocks.length) (ha:Re (ofG f.blocks) wo a.toNat) : ∀m,m<=(nth f.blocks a.toNat).term.to.length->
  Rb f wo (up (kn wo (nth f.blocks a.toNat).term.to) m s)/\s.2 <+: (up (kn wo (nth f.blocks a.toNat).term.to) m s).2/\
   ∀k,k<m->0<=nth (nth f.blocks a.toNat).term.to k->nth (nth f.blocks a.toNat).term.to k<f.blocks.length->nth (nth f.blocks a.toNat).term.to k≠wo->nth (nth f.blocks a.toNat).term.to k∈(up (kn wo (nth f.blocks a.toNat).term.to) m s).2
 | 0,_=>⟨h,EM _,fun k hk=>by omega⟩
 | m+1,hm=>by
  obtain⟨i1,i2,i3⟩:=yx h h0 h1 ha m (by omega);obtain⟨j1,j2,j3⟩:=Cj (k:=m) i1 h0 h1 ha (by omega);rw[up];refine⟨j1,i2.trans j2,fun k hk c1 c2 c3=>?_⟩;rcases DA k m with hlt | hge
  ·exact j2.subset (i3 k hlt c1 c2 c3)
  have:k=m:=by omega
  subst this;exact j3 c1 c2 c3
structure Rc (f:ae) (wo:Int) (i:Nat) (s:RSt):Prop where
 b:Rb f wo s
 root:wo≠0->0<f.blocks.length->(0:Int)∈s.2
 done : ∀j,j<i->j<s.2.length->∀b:Nat,iW (ofG f.blocks) (nth s.2 j) b=true->(b:Int)≠wo->(b:Int)∈s.2
variable{α:Type}
theorem vY[Inhabited α]{a b:List α}(h:a <+: b){i:Nat}(hi:i<a.length):nth b i=nth a i:=by obtain⟨t,rfl⟩:=h;rw[aq (by simp;omega),aq hi,F4 hi]
theorem Ax{f:ae}{i:Nat}{s:RSt}(h:Rc f wo i s)(hi:i<s.2.length):Rc f wo (i+1) (q6 f wo i s)/\s.2 <+: (q6 f wo i s).2:=by
 have hm:=bT hi;obtain⟨h0,h1⟩:=h.b.ok.rng _ hm;have hre:=h.b.sound _ hm;obtain⟨i1,i2,i3⟩:=yx h.b h0 h1 hre _ (Dy _);have he:q6 f wo i s=up (kn wo (nth f.blocks (nth s.2 i).toNat).term.to) (nth f.blocks (nth s.2 i).toNat).term.to.length s:=rfl;rw[<-he]at i1 i2 i3;refine⟨⟨i1,fun a b=>i2.subset (h.root a b),fun j hj hjl b hb hne=>?_⟩,i2⟩;rcases DA j i with hlt | hge
 ·rw[vY i2 (by omega)]at hb;exact i2.subset (h.done j hlt (by omega) b hb hne)
 have:j=i:=by omega
 subst this;rw[vY i2 hi,lY]at hb;obtain⟨⟨_,_,q1,q2⟩,hmem⟩:=hb;obtain⟨k,hk,e⟩:=DO hmem;rw[<-aq hk]at e;rw[<-e];exact i3 k hk (by omega) (by omega) (by rw[e];exact hne)
theorem ya {f:ae} {wo:Int} : ∀{m i:Nat} {s:RSt},Rc f wo i s->f.blocks.length<i+m->∃k,Rc f wo k (rchS f wo m i s)/\(rchS f wo m i s).2.length<=k
 | 0,i,s,h,hm=>⟨i,h,by have:=h.b.ok.cnt;rw[rchS];omega⟩
 | m+1,i,s,h,hm=>by
  rw[rchS];split
  ·rename_i hi;exact ya (Ax h hi).1 (by omega)
  rename_i hi;exact⟨i,h,by omega⟩
theorem Ag{f:ae}:Rc f wo 0 (rch0 f wo):=by
 have hok:=zZ (f:=f) (wo:=wo);unfold rch0 at hok ⊢;split
 ·rename_i hc;rw[if_pos hc]at hok;refine⟨⟨hok,fun b hb=>?_,fun x hx=>?_⟩,fun _ _=>DF.2 rfl,fun j hj=>by omega⟩
  ·rw[cg (by simpa using hb),DF];split
   ·rename_i e;subst e;simp
   rename_i e;rw[aq (by simpa using hb)];simp;omega
  rw[DF.1 hx];exact .root (by rw[jA];exact hc.2) hc.1
 rename_i hc;rw[if_neg hc]at hok;refine⟨⟨hok,fun b hb=>?_,fun x hx=>by cases hx⟩,fun a b=>absurd ⟨a,b⟩ hc,fun j hj=>by omega⟩;rw[aq (by simpa using hb)];simp
variable{b:Nat}
theorem fO{f:ae}(hb:b<f.blocks.length):nth (hZ f wo) b=true↔Re (ofG f.blocks) wo b:=by
 obtain⟨k,h,hk⟩:=ya (Ag (f:=f) (wo:=wo)) (m:=f.blocks.length+1) (by omega);unfold hZ;generalize rchS f wo (f.blocks.length+1) 0 (rch0 f wo)=s at h hk;rw[h.b.seen b hb];constructor
 ·exact fun hm=>by simpa using h.b.sound _ hm
 intro hr;induction hr with
 | root h1 h2=>exact h.root h2 (by rw[<-jA];exact h1)
 | @step a b ha he hne ih=>have hm:=ih (by have:=(lY.1 he).1;omega);obtain⟨j,hj,e⟩:=DO hm;rw[<-aq hj]at e;exact h.done j (by omega) hj b (by rw[e];exact he) hne
instance:Rep Th:=Rep.via fun d=>Cat.mk d.blk (Cat.mk d.place (Cat.mk d.mks d.tks))
structure ThR where
 blk:Int
 place:Int
 mks:List Int
 tks:Raw
instance:Rep ThR:=Rep.via fun d=>Cat.mk d.blk (Cat.mk d.place (Cat.mk d.mks d.tks))
structure GotD where
 e:Int
 b:Int
 p:Int
instance:Rep GotD:=Rep.via fun d=>Cat.mk d.e (Cat.mk d.b d.p)
abbrev BL:=List Bool
def kV (t:Th) (j:Nat) (m:BL):Except Tr BL:=if nth m (nth t.mks j).toNat then .error (12,t.blk,t.place) else .ok (m.set (nth t.mks j).toNat true)
def eL (f:ae) (t:Th):BlkD:=nth f.blocks t.blk.toNat
def tF (f:ae) (t:Th):InsD:=nth (eL f t).ins t.place.toNat
def lZ (f:ae) (t:Th):Bool:=decide (0<=t.place)&&decide (t.place<(eL f t).ins.length)
def iO (f:ae) (t:Th):Bool:=decide (t.place=(eL f t).ins.length)
def oW (s:InsD):Bool:=decide (s.op<1)||decide (18<s.op)||!rq s.op s.args.length
def iN (f:ae) (n:Int):Bool:=decide (n<f.params)||decide (8191<n)
def ou (f:ae) (n:Int):Bool:=decide (n<1)||decide ((f.blocks.length:Int)<=n)
def jv (f:ae) (t:Th):Except Tr BL->Except Tr BL
 | .error e=>.error e
 | .ok m'=>if iO f t&&(eL f t).term.to.any (ou f) then .error (14,t.blk,t.place) else .ok m'
def eX (f:ae) (t:Th) (m:BL):Except Tr BL:=
 if lZ f t&&oW (tF f t) then .error (10,t.blk,t.place)
 else if iO f t&&!pD (eL f t).term then .error (10,t.blk,t.place)
 else if t.mks.any (iN f) then .error (11,t.blk,t.place)
 else jv f t (upE (kV t) t.mks.length m)
def gk (f:ae):Except Tr BL:=upE (fun i m=>eX f (nth (aK f) i) m) (aK f).length (List.replicate 8192 false)
def qC {α:Type}:Except Tr α->Tr | .ok _=>(0,0,0) | .error t=>t
def noTh:Th:=⟨-1,0,[],[]⟩
def dO (t:Th) (l:List Th) (n:Int):List Th:=if 0<=n/\n<8192 then l.set n.toNat t else l
def lP (l:List Th) (t:Th):List Th:=t.mks.foldl (dO t) l
def rn (ts:List Th):List Th:=ts.foldl lP (List.replicate 8192 noTh)
variable{n:Int}
theorem jw{t:Th}{l:List Th}:(dO t l n).length=l.length:=by unfold dO;split<;>simp
theorem uU{t:Th}{l:List Th}:(lP l t).length=l.length:=kO (f:=dO t) (fun x:List Th=>x.length=l.length) (fun _ _ h=>jw.trans h) _ _ rfl
theorem ud{ts:List Th}:(rn ts).length=8192:=kO (f:=lP) (fun x:List Th=>x.length=8192) (fun _ _ h=>uU.trans h) _ _ (D2 ..)
def eY (f:ae) (made:List Th) (away:List BL) (v blk place:Int):Bool:=
 if 0<=v/\v<f.params then true
 else if(v<0\/8191<v)\/(nth made v.toNat).blk<0 then false
 else if(nth made v.toNat).blk=blk then decide ((nth made v.toNat).place<0)||decide ((nth made v.toNat).place<place)
 else !nth (nth away (nth made v.toNat).blk.toNat) blk.toNat
def ll (f:ae) (t:Th):PhiD:=nth (eL f t).phis (-1-t.place).toNat
def ug (f:ae) (b:Int):Int:=((nth f.blocks b.toNat).ins.length:Nat)
def mM (f:ae) (t:Th):Bool:=decide (0<t.blk)&&decide ((ll f t).ins.map InD.frm=eW f t.blk)
def stT (f:ae) (made:List Th) (away:List BL) (t:Th) (x:Int):Bool:=!eY f made away x t.blk t.place
def stP (f:ae) (made:List Th) (away:List BL) (p:InD):Bool:=!eY f made away p.val p.frm (ug f p.frm)
def eo (f:ae) (made:List Th) (away:List BL) (t:Th):Except Tr Unit:=
 if 0<=t.place then(if t.tks.any (stT f made away t) then .error (13,t.blk,t.place) else .ok ())
 else if !mM f t then .error (16,t.blk,t.place)
 else if(ll f t).ins.any (stP f made away) then .error (13,t.blk,t.place)
 else .ok ()
def e8 (f:ae):List Th:=rn (aK f)
def eH (f:ae):List BL:=rows (fun b=>hZ f b) f.blocks.length
def oE (f:ae):Nat->Nat
 | 0=>f.blocks.length
 | n+1=>oE f n+(nth f.blocks n).phis.length+(nth f.blocks n).ins.length
def wayE (f:ae):Except Tr Unit:=upE (fun b _=>if nth (hZ f (-1)) b=true then .ok () else .error (15,b,0)) f.blocks.length ()
def sF (f:ae):Except Tr Unit:=upE (fun i _=>eo f (e8 f) (eH f) (nth (aK f) i)) (aK f).length ()
def Ce:Except Tr Unit->Except Tr Unit->Except Tr Unit
 | .ok _,y=>y
 | .error e,_=>.error e
def oO (f:ae):Tr:=
 if f.params<0\/4<f.params then(1,0,0)
 else if f.blocks.length=0 then(14,0,0)
 else if 512<f.blocks.length\/4096<oE f f.blocks.length then(2,0,0)
 else if(qC (gk f)).1≠0 then qC (gk f)
 else qC (Ce (wayE f) (sF f))
theorem kK {σ ε:Type} {f:Nat->σ->Except ε σ} {s:σ} {t:ε} : ∀{n:Nat},upE f n s = .error t->∃k s',k<n/\upE f k s = .ok s'/\f k s' = .error t
 | n+1,h=>by
  simp only[upE]at h;split at h
  ·rename_i s' hs;exact⟨n,s',Nat.lt_succ_self n,hs,h⟩
  rename_i t' ht;cases h;obtain⟨k,s',h1,h2⟩:=kK ht;exact⟨k,s',Nat.lt_succ_of_lt h1,h2⟩
theorem nC{f:ae}{t:Th}{m:BL}{e:Tr}(h:eX f t m = .error e):(10<=e.1/\e.1<=14)/\e.2.1=t.blk/\e.2.2=t.place:=by
 unfold eX at h;split at h
 ·cases h;simp
 split at h
 ·cases h;simp
 split at h
 ·cases h;simp
 unfold jv at h;split at h
 ·rename_i e' he;cases h;obtain⟨k,s',_,_,h3⟩:=kK he;unfold kV at h3;split at h3
  ·cases h3;simp
  cases h3
 split at h
 ·cases h;simp
 cases h
theorem wV(hn:0<=n){ts:List Th}(h : ∀t∈ts,t.blk<n){i:Nat}(hi:i<8192):(nth (rn ts) i).blk<n:=by
 have key : ∀(ts:List Th),(∀t∈ts,t.blk<n)->∀l:List Th,(∀x∈l,x.blk<n)->∀x∈ts.foldl lP l,x.blk<n:=by
  intro ts;induction ts with
  | nil=>exact fun _ l hl=>hl
  | cons t ts ih=>
   intro ht l hl;refine ih (fun x hx=>ht x (DB _ hx)) _ ?_;refine kO (f:=dO t) (fun l:List Th=>∀x∈l,x.blk<n) (fun l a hl x hx=>?_) _ _ hl;unfold dO at hx;split at hx
   ·rcases E4 hx with h | rfl
    ·exact hl x h
    exact ht _ Dz
   exact hl x hx
 refine key ts h _ (fun x hx=>?_) _ (bT (by show i<(rn ts).length;rw[ud];exact hi));rw[(List.mem_replicate.1 hx).2];show(-1:Int)<n;omega
theorem fu{σ ε:Type}{f:σ->α->Except ε σ}{a b:List α}{s:σ}:(a++b).foldlM f s=(match a.foldlM f s with | .ok s'=>b.foldlM f s' | .error e=>.error e):=by rw[FN];cases a.foldlM f s<;>rfl
theorem lI{σ ε:Type}{f:σ->α->Except ε σ}{a:α}{s:σ}:[a].foldlM f s=f s a:=by rw[Eo];cases f s a<;>rfl
theorem jd {σ α ε:Type} {g:Nat->σ->Except ε σ} {f:σ->α->Except ε σ} {x:Nat->α} {s:σ} : ∀{n:Nat},(∀i s,i<n->g i s=f s (x i))->upE g n s=(rows x n).foldlM f s
 | 0,_=>rfl
 | n+1,h=>by
  have ih:=jd (n:=n) (s:=s) fun i s hi=>h i s (by omega);rw[fA,fu,<-ih];simp only[upE];cases upE g n s with
  | ok s'=>show g n s'=[x n].foldlM f s';rw[lI];exact h n s' (by omega)
  | error e=>rfl
theorem jM{σ ε:Type}[Inhabited α]{f:σ->α->Except ε σ}{l:List α}{s:σ}:upE (fun i s=>f s (nth l i)) l.length s=l.foldlM f s:=by rw[jd (f:=f) (x:=nth l) fun _ _ _=>rfl];congr 1;refine EA (by simp) fun i h1 h2=>?_;simp[rows,aq h2]
def gA (f:ae) (m:MW) (t:Th):Except Tr MW:=
 if t.place<0 then allS f.params t.mks t.blk t.place m
 else if t.place<(eL f t).ins.length then insS f.params t.blk (eL f t) t.place.toNat m
 else endS f.blocks.length t.blk (eL f t) m
theorem nm{f:ae}{i:Nat}{m:MW}:gA f m (phiT f b i)=phiS f.params b (nth f.blocks b) i m:=by unfold gA;rw[if_pos (show(phiT f b i).place<0 by show -1-(i:Int)<0;omega)];rfl
theorem mR{f:ae}{i:Nat}{m:MW}(hi:i<(nth f.blocks b).ins.length):gA f m (insT f b i)=insS f.params b (nth f.blocks b) i m:=by unfold gA;rw[if_neg (show ¬(insT f b i).place<0 by show ¬(i:Int)<0;omega),if_pos (show(insT f b i).place<((eL f (insT f b i)).ins.length:Int) by show(i:Int)<((nth f.blocks b).ins.length:Int);omega)];rfl
theorem mZ{f:ae}{m:MW}:gA f m (endT f b)=endS f.blocks.length b (nth f.blocks b) m:=by unfold gA;rw[if_neg (show ¬(endT f b).place<0 by show ¬((nth f.blocks b).ins.length:Int)<0;omega),if_neg (show ¬(endT f b).place<((eL f (endT f b)).ins.length:Int) by show ¬((nth f.blocks b).ins.length:Int)<((nth f.blocks b).ins.length:Int);omega)];rfl
theorem y6{f:ae}{m:MW}:blkS f b m=(thB f b).foldlM (gA f) m:=by
 unfold blkS thB;rw[jd (f:=gA f) (x:=phiT f b) (n:=(nth f.blocks b).phis.length) fun i s hi=>nm.symm];rw[fu,fu];cases (rows (phiT f b) (nth f.blocks b).phis.length).foldlM (gA f) m with
 | error e=>rfl
 | ok m1=>
  simp only;rw[jd (f:=gA f) (x:=insT f b) (n:=(nth f.blocks b).ins.length) fun i s hi=>(mR hi).symm];cases (rows (insT f b) (nth f.blocks b).ins.length).foldlM (gA f) m1 with
  | error e=>rfl
  | ok m2=>simp only;rw[lI];exact mZ.symm
theorem oQ{f:ae}{m:MW}:hU f m=(aK f).foldlM (gA f) m:=by
 have key : ∀n,upE (blkS f) n m=(thTo f n).foldlM (gA f) m:=by
  intro n;induction n with
  | zero=>rfl
  | succ n ih=>
   rw[gi,fu,<-ih];simp only[upE];cases upE (blkS f) n m with
   | error e=>rfl
   | ok s=>exact y6
 exact key _
theorem lg{f:ae}:gk f=(aK f).foldlM (fun m t=>eX f t m) (List.replicate 8192 false):=jM (f:=fun(m:BL) (t:Th)=>eX f t m)
def nN (m:MW) (l:BL):Prop:=l.length=8192/\∀n:Int,0<=n->n<8192->(m n).isSome=nth l n.toNat
def Alike {α β:Type} (R:α->β->Prop):Except Tr α->Except Tr β->Prop
 | .ok a,.ok b=>R a b
 | .error e,.error e'=>e=e'
 | _,_=>False
theorem lB {α β γ:Type} {R:α->β->Prop} {F:α->γ->Except Tr α} {G:β->γ->Except Tr β} : ∀{l:List γ},(∀t∈l,∀a b,R a b->Alike R (F a t) (G b t))->∀{a:α} {b:β},R a b->Alike R (l.foldlM F a) (l.foldlM G b)
 | [],_,a,b,h=>h
 | t::l,hs,a,b,h=>by
  rw[Eo,Eo];have:=hs t Dz a b h;cases e1:F a t with
  | error e=>
   cases e2:G b t with
   | error e'=>rw[e1,e2]at this;exact this
   | ok b'=>rw[e1,e2]at this;exact this.elim
  | ok a'=>
   cases e2:G b t with
   | error e'=>rw[e1,e2]at this;exact this.elim
   | ok b'=>rw[e1,e2]at this;exact lB (fun t ht=>hs t (DB _ ht)) this
theorem xB{f:ae}:aV n f.params 8191=!iN f n:=by rw[DQ];simp[aV,iN]
theorem wS{p:α->Bool}{l:List α}:l.all (fun n=>!p n)=!l.any p:=by
 induction l with
 | nil=>rfl
 | cons a l ih=>simp[ih]
def iK (t:Th) (m:BL) (n:Int):Except Tr BL:=if nth m n.toNat then .error (12,t.blk,t.place) else .ok (m.set n.toNat true)
theorem xU{f:ae}{t:Th}{m:MW}{l:BL}(h:nN m l)(hp:0<=f.params)(hn : ∀n∈t.mks,iN f n=false):Alike nN (t.mks.foldlM (lr t.blk t.place) m) (upE (kV t) t.mks.length l):=by
 have e:upE (kV t) t.mks.length l=t.mks.foldlM (iK t) l:=jM (f:=iK t);rw[e];refine lB (fun n hnm m l h=>?_) h;have hb:=hn n hnm;simp only[iN,En,decide_eq_false_iff_not]at hb;have hs:=h.2 n (by omega) (by omega);unfold lr iK;rw[hs];cases hc:nth l n.toNat with
 | true=>exact rfl
 | false=>
  refine⟨by simpa using h.1,fun k h0 h1=>?_⟩;rw[cg (by rw[h.1];omega)];simp only[putM];by_cases hk:k=n
  ·subst hk;simp
  rw[if_neg hk,if_neg (by omega)];exact h.2 k h0 h1
theorem qb{f:ae}{t:Th}{m:MW}{l:BL}(h:nN m l)(hp:0<=f.params):
  Alike nN (allS f.params t.mks t.blk t.place m) (if t.mks.any (iN f) then .error (11,t.blk,t.place) else upE (kV t) t.mks.length l):=by
 unfold allS;have e:(t.mks.all fun n=>aV n f.params 8191)=!t.mks.any (iN f):=by rw[<-wS];congr 1;funext n;exact xB
 rw[e];cases hb:t.mks.any (iN f)with
 | true=>exact rfl
 | false=>refine xU h hp fun n hn=>?_;rw[EY];intro e2;rw[EY]at hb;exact hb (FD.2 ⟨n,hn,e2⟩)
theorem zQ{x:InsD}:(aV x.op 1 18&&aV x.args.length (ed x.op).1 (ed x.op).2)=!oW x:=by
 rw[DQ];simp only[oW,aV,ed,rq,DC,Fp,En,decide_eq_true_eq,decide_eq_false_iff_not,Bool.not_eq_false'];by_cases h1:x.op=1
 ·simp[h1]
 by_cases h2:x.op=15
 ·simp[h2];omega
 by_cases h3:x.op=17
 ·simp[h3]
 simp only[h1,h2,h3,if_false,decide_eq_true_eq];omega
theorem zY{f:ae}:aV n 1 ((f.blocks.length:Int)-1)=!ou f n:=by rw[DQ];simp[aV,ou];omega
theorem xC{t:cL}:kq t=pD t:=by
 unfold kq pD dV;by_cases h1:t.kind=1
 ·rw[DQ];simp[putM,h1,aV];omega
 by_cases h2:t.kind=2
 ·rw[DQ];simp[putM,h2,aV];omega
 by_cases h3:t.kind=3
 ·rw[DQ];simp[putM,h3,aV];omega
 by_cases h4:t.kind=4
 ·rw[DQ];simp[putM,h4,aV]
 by_cases h5:t.kind=5
 ·rw[DQ];simp[putM,h5,aV]
 simp[putM,h1,h2,h3,h4,h5]
theorem nR{f:ae}{t:Th}{x:Except Tr BL}(h:iO f t=false):jv f t x=x:=by
 unfold jv;cases x with
 | error e=>rfl
 | ok m=>simp only[h,Ge];rfl
theorem xn{f:ae}{t:Th}(ht:t∈aK f)(hp:0<=f.params){m:MW}{l:BL}(h:nN m l):Alike nN (gA f m t) (eX f t l):=by
 obtain⟨b,hb,ht⟩:=fi.1 ht;rcases gq.1 ht with⟨i,hi,rfl⟩ | ⟨i,hi,rfl⟩ | rfl
 ·have e1:lZ f (phiT f b i)=false:=by simp[lZ,phiT];omega
  have e2:iO f (phiT f b i)=false:=by show decide (-1-(i:Int)=((nth f.blocks b).ins.length:Int))=false;rw[decide_eq_false_iff_not];omega
  rw[nm,eX,e1,e2,nR e2];exact qb (t:=phiT f b i) h hp
 ·have e1:lZ f (insT f b i)=true:=by simp[lZ,insT,eL];omega
  have e2:iO f (insT f b i)=false:=by show decide ((i:Int)=((nth f.blocks b).ins.length:Int))=false;rw[decide_eq_false_iff_not];omega
  have e3:tF f (insT f b i)=nth (nth f.blocks b).ins i:=by simp[tF,eL,insT]
  rw[mR hi,eX,e1,e2,nR e2,e3,insS,zQ];cases hb:oW (nth (nth f.blocks b).ins i)with
  | true=>exact rfl
  | false=>exact qb (t:=insT f b i) h hp
 have e1:lZ f (endT f b)=false:=by simp[lZ,endT,eL]
 have e2:iO f (endT f b)=true:=by simp[iO,endT,eL]
 have e3:eL f (endT f b)=nth f.blocks b:=by simp[eL,endT]
 rw[mZ,eX,e1,e2,e3,endS,xC];cases hb:pD (nth f.blocks b).term with
 | false=>exact rfl
 | true=>
  have e4:((nth f.blocks b).term.to.all fun t=>aV t 1 ((f.blocks.length:Int)-1))=!(nth f.blocks b).term.to.any (ou f):=by rw[<-wS];congr 1;funext n;exact zY
  rw[e4];show Alike nN _ (jv f (endT f b) (.ok l));unfold jv;rw[e2,e3];cases (nth f.blocks b).term.to.any (ou f)with
  | true=>exact rfl
  | false=>exact h
theorem uz{f:ae}(hp:0<=f.params):Alike nN (hU f (fun _=>none)) (gk f):=by rw[oQ,lg];refine lB (fun t ht m l h=>xn ht hp h) ⟨D2 ..,fun n h0 h1=>?_⟩;rw[aq (by rw[D2];omega),F7];rfl
def vx (t:Th):Option (Int × Int):=if t.blk<0 then none else some (t.blk,t.place)
structure Site (m:MW) (s:List Th):Prop where
 len:s.length=8192
 inn : ∀n:Int,0<=n->n<8192->m n=vx (nth s n.toNat)
 out : ∀n:Int,¬(0<=n/\n<8192)->m n=none
theorem td {t:Th} (hb:0<=t.blk) : ∀{l:List Int} {m:MW} {s:List Th},Site m s->(∀n∈l,0<=n/\n<8192)->Site (l.foldl (fun m n=>putM m n (t.blk,t.place)) m) (l.foldl (dO t) s)
 | [],m,s,h,_=>h
 | n::l,m,s,h,hl=>by
  rw[DS,DS];have hn:=hl n Dz;refine td hb ⟨jw.trans h.len,fun k h0 h1=>?_,fun k hk=>?_⟩ fun k hk=>hl k (DB _ hk)
  ·unfold dO putM;rw[if_pos hn,cg (by rw[h.len];omega)];by_cases e:k=n
   ·subst e;rw[if_pos rfl,if_pos rfl];unfold vx;rw[if_neg (by omega)]
   rw[if_neg e,if_neg (by omega)];exact h.inn k h0 h1
  unfold putM;rw[if_neg (by rintro rfl;exact hk hn)];exact h.out k hk
theorem sq {b p:Int} : ∀{l:List Int} {m m':MW},l.foldlM (lr b p) m = .ok m'->m'=l.foldl (fun m n=>putM m n (b,p)) m
 | [],m,m',h=>by cases h;rfl
 | n::l,m,m',h=>by
  rw[Eo]at h;cases e:lr b p m n with
  | error t=>rw[e]at h;cases h
  | ok m1=>
   rw[e]at h;unfold lr at e;split at e
   ·cases e
   cases e;exact sq (l:=l) (m:=putM m n (b,p)) h
theorem sC{ps b p:Int}{l:List Int}{m m':MW}(h:allS ps l b p m = .ok m'):m'=l.foldl (fun m n=>putM m n (b,p)) m/\∀n∈l,ps<=n/\n<=8191:=by
 unfold allS at h;split at h
 ·rename_i ha;refine⟨sq h,fun n hn=>?_⟩;have:=D3.1 ha n hn;simpa[aV]using this
 cases h
theorem yT{f:ae}{t:Th}(ht:t∈aK f){m m':MW}(h:gA f m t = .ok m'):(m'=t.mks.foldl (fun m n=>putM m n (t.blk,t.place)) m/\∀n∈t.mks,f.params<=n/\n<=8191)/\0<=t.blk:=by
 obtain⟨b,hb,ht⟩:=fi.1 ht;rcases gq.1 ht with⟨i,hi,rfl⟩ | ⟨i,hi,rfl⟩ | rfl
 ·rw[nm]at h;exact⟨sC h,by show 0<=(b:Int);omega⟩
 ·rw[mR hi]at h;unfold insS at h;split at h
  ·exact⟨sC h,by show 0<=(b:Int);omega⟩
  cases h
 rw[mZ]at h;unfold endS at h;split at h
 ·split at h
  ·cases h;exact⟨⟨rfl,fun n hn=>by cases hn⟩,by show 0<=(b:Int);omega⟩
  cases h
 cases h
theorem pU {f:ae} (hp:0<=f.params) : ∀{l:List Th},(∀t∈l,t∈aK f)->∀{m m':MW} {s:List Th},Site m s->l.foldlM (gA f) m = .ok m'->Site m' (l.foldl lP s)
 | [],_,m,m',s,h,e=>by cases e;exact h
 | t::l,hl,m,m',s,h,e=>by
  rw[Eo]at e;cases e1:gA f m t with
  | error x=>rw[e1]at e;cases e
  | ok m1=>rw[e1]at e;obtain⟨⟨q1,q2⟩,q3⟩:=yT (hl t Dz) e1;rw[DS];refine pU hp (fun t ht=>hl t (DB _ ht)) (m:=m1) ?_ e;rw[q1];exact td q3 h fun n hn=>by have:=q2 n hn;omega
theorem xR{f:ae}(hp:0<=f.params){m:MW}(h:hU f (fun _=>none) = .ok m):Site m (e8 f):=by rw[oQ]at h;refine pU hp (fun t ht=>ht) ⟨D2 ..,fun n h0 h1=>?_,fun n _=>rfl⟩ h;rw[aq (by rw[D2];omega),F7];rfl
theorem pB{f:ae}{m:MW}{made:List Th}{away:List BL}{idom:List Int}{v blk place at_ told:Int}(hp:f.params<=8192)(hs:Site m made)(hd : ∀a:Int,0<=a->a<f.blocks.length->cY idom a blk=!nth (nth away a.toNat) blk.toNat)(hm : ∀i,i<8192->(nth made i).blk<f.blocks.length):useS f.params m idom v blk place at_ told=if(!eY f made away v blk at_) then .error (13,told,place) else .ok ():=by
 unfold useS;by_cases c1:0<=v/\v<f.params
 ·have e:eY f made away v blk at_=true:=by unfold eY;rw[if_pos c1]
  rw[if_pos c1,e];rfl
 rw[if_neg c1];by_cases c2:v<0\/8191<v
 ·have e:eY f made away v blk at_=false:=by unfold eY;rw[if_neg c1,if_pos (.inl c2)]
  rw[hs.out v (by omega),e];rfl
 have e:eY f made away v blk at_=if(nth made v.toNat).blk<0 then false else if(nth made v.toNat).blk=blk then decide ((nth made v.toNat).place<0)||decide ((nth made v.toNat).place<at_) else !nth (nth away (nth made v.toNat).blk.toNat) blk.toNat:=by
  unfold eY;rw[if_neg c1];by_cases c3:(nth made v.toNat).blk<0
  ·rw[if_pos (.inr c3),if_pos c3]
  rw[if_neg (by rintro(q | q)<;>contradiction),if_neg c3]
 rw[hs.inn v (by omega) (by omega),e];have hmb:=hm v.toNat (by omega);generalize nth made v.toNat=t at hmb;unfold vx;by_cases c3:t.blk<0
 ·rw[if_pos c3,if_pos c3];rfl
 rw[if_neg c3,if_neg c3];have e2:gO (t.blk,t.place) idom blk at_=if t.blk=blk then decide (t.place<0)||decide (t.place<at_) else !nth (nth away t.blk.toNat) blk.toNat:=by
  unfold gO;by_cases c4:t.blk=blk
  ·simp only[c4,decide_true,ET,Bool.not_true,Ge,Bool.or_false,if_true];rw[Bool.or_comm]
  simp only[c4,decide_false,Ge,Bool.not_false,ET,Gf,if_false];exact hd t.blk (by omega) hmb
 simp only[e2];generalize (if t.blk=blk then decide (t.place<0)||decide (t.place<at_) else !nth (nth away t.blk.toNat) blk.toNat)=B;cases B<;>rfl
theorem pF[Inhabited α]{l:List α}{p:α->Bool}{e:Tr}{g:Nat->Except Tr Unit}(h : ∀j,j<l.length->g j=if p (nth l j) then .error e else .ok ()):uAll g l.length=if l.any p then .error e else .ok ():=by
 have h1:uAll g l.length=l.foldlM (fun(_:Unit) x=>if p x then Except.error e else .ok ()) ():=by
  unfold uAll;rw[<-jM (f:=fun(_:Unit) x=>if p x then Except.error e else .ok ())];have key : ∀n,n<=l.length->upE (fun i (_:Unit)=>g i) n ()=upE (fun i (_:Unit)=>if p (nth l i) then Except.error e else .ok ()) n ():=by
   intro n;induction n with
   | zero=>exact fun _=>rfl
   | succ n ih=>intro hn;simp only[upE];rw[ih (by omega),h n (by omega)]
  exact key _ (Dy _)
 rw[h1];clear h1 h;induction l with
 | nil=>rfl
 | cons a l ih=>
  rw[Eo,List.any_cons];cases hp:p a with
  | true=>rfl
  | false=>rw[Gf];exact ih
theorem tS{β:Type}{p q:Nat->Bool}{x:Nat->β}{n:Nat}(h : ∀a,a<n->p a=q a):sift p x n=sift q x n:=by rw[kM,kM];congr 1;exact F0 fun a ha=>h a (EC.1 ha)
theorem vN{f:ae}(hb:b<f.blocks.length):nth (cy (ofG f.blocks)) b=eW f b:=by rw[sv,np,jA,eu hb,eW];refine tS fun a ha=>?_;rw[DQ,lY,decide_eq_true_eq,DN];exact⟨fun h=>h.2,fun h=>⟨by omega,h⟩⟩
theorem xM{f:ae}{i:Nat}(hb:b<f.blocks.length):tf (nth (nth f.blocks b).phis i) (nth (cy (ofG f.blocks)) b) b=mM f (phiT f b i):=by
 have e1:ll f (phiT f b i)=nth (nth f.blocks b).phis i:=by unfold ll eL phiT;simp only[DN];rw[show(-1-(-1-(i:Int))).toNat=i by omega]
 have e2:(phiT f b i).blk=(b:Int):=rfl;unfold tf gB mM;rw[e1,e2,vN hb];generalize nth (nth f.blocks b).phis i=x;generalize eW f b=row;rw[DQ];simp only[DC,decide_eq_true_eq,wk,qg];constructor
 ·rintro⟨⟨h1,h2⟩,h3⟩;refine⟨by omega,EA (by simp;omega) fun j hj hj2=>?_⟩;have:=h3 j (by simpa using hj);rw[aq hj2,aq (by simpa using hj)]at this;simpa using this
 rintro⟨h1,h2⟩;have hl:x.ins.length=row.length:=by rw[<-h2,ES]
 refine⟨⟨by omega,by omega⟩,fun j hj=>?_⟩;rw[<-h2,aq (l:=List.map InD.frm x.ins) (by rw[ES];exact hj),aq hj];simp
theorem oX{f:ae}: ∀i,i<8192->(nth (e8 f) i).blk<f.blocks.length:=fun i hi=>wV (by omega) (fun t ht=>by
 obtain⟨b,hb,ht⟩:=fi.1 ht;rcases gq.1 ht with⟨i,hi,rfl⟩ | ⟨i,hi,rfl⟩ | rfl
 ·show(b:Int)<_;omega
 ·show(b:Int)<_;omega
 show(b:Int)<_;omega) hi
section
variable {f:ae} {m:MW} {idom:List Int} (hp0:f.params<=8192) (hs:Site m (e8 f)) (hd : ∀a b:Int,0<=a->a<f.blocks.length->0<=b->b<f.blocks.length->cY idom a b=!nth (nth (eH f) a.toNat) b.toNat)
include hp0 hs hd
theorem Ah{i:Nat}(hb:b<f.blocks.length)(hi:i<(nth f.blocks b).phis.length):phiU f m idom (cy (ofG f.blocks)) b i=eo f (e8 f) (eH f) (phiT f b i):=by
 have hf:=xM (f:=f) (i:=i) hb;have e1:ll f (phiT f b i)=nth (nth f.blocks b).phis i:=by unfold ll eL phiT;simp only[DN];rw[show(-1-(-1-(i:Int))).toNat=i by omega]
 have e3:eo f (e8 f) (eH f) (phiT f b i)=if !mM f (phiT f b i) then .error (16,b,-1-i) else if(nth (nth f.blocks b).phis i).ins.any (stP f (e8 f) (eH f)) then .error (13,b,-1-i) else .ok ():=by unfold eo;rw[if_neg (show ¬0<=(phiT f b i).place by show ¬0<=-1-(i:Int);omega),e1];rfl
 rw[e3];unfold phiU;simp only[hf];cases hss:mM f (phiT f b i)with
 | false=>rfl
 | true=>
  rw[if_pos rfl,if_neg (by simp)];refine pF fun j hj=>?_;have hfr:0<=(nth (nth (nth f.blocks b).phis i).ins j).frm/\(nth (nth (nth f.blocks b).phis i).ins j).frm<f.blocks.length:=by unfold mM at hss;rw[e1]at hss;simp only[DC,decide_eq_true_eq]at hss;have hm:=E7 (f:=InD.frm) (bT hj);rw[hss.2]at hm;obtain⟨a,h1,_,h2⟩:=jR.1 hm;omega
  rw[pB hp0 hs (fun a h0 h1=>hd a _ h0 h1 hfr.1 hfr.2) oX];rfl
theorem z8{i:Nat}(hb:b<f.blocks.length)(hi:i<(nth f.blocks b).ins.length):insU f m idom b i=eo f (e8 f) (eH f) (insT f b i):=by
 have e3:eo f (e8 f) (eH f) (insT f b i)=if(nth (nth f.blocks b).ins i).args.any (stT f (e8 f) (eH f) (insT f b i)) then .error (13,b,i) else .ok ():=by unfold eo;rw[if_pos (show 0<=(insT f b i).place by show 0<=(i:Int);omega)];rfl
 rw[e3];unfold insU;refine pF fun j hj=>?_;rw[pB hp0 hs (fun a h0 h1=>hd a _ h0 h1 (by omega) (by omega)) oX];rfl
theorem zI(hb:b<f.blocks.length):endU f m idom b=eo f (e8 f) (eH f) (endT f b):=by
 have e3:eo f (e8 f) (eH f) (endT f b)=if(nth f.blocks b).term.args.any (stT f (e8 f) (eH f) (endT f b)) then .error (13,b,(nth f.blocks b).ins.length) else .ok ():=by unfold eo;rw[if_pos (show 0<=(endT f b).place by show 0<=((nth f.blocks b).ins.length:Int);omega)];rfl
 rw[e3];unfold endU;refine pF fun j hj=>?_;rw[pB hp0 hs (fun a h0 h1=>hd a _ h0 h1 (by omega) (by omega)) oX];rfl
def stF (f:ae) (_:Unit) (t:Th):Except Tr Unit:=eo f (e8 f) (eH f) t
theorem zU(hb:b<f.blocks.length):blkU f m idom (cy (ofG f.blocks)) b=(thB f b).foldlM (stF f) ():=by
 unfold blkU thB uAll;rw[jd (f:=stF f) (x:=phiT f b) (n:=(nth f.blocks b).phis.length) fun i s hi=>Ah hp0 hs hd hb hi];rw[jd (f:=stF f) (x:=insT f b) (n:=(nth f.blocks b).ins.length) fun i s hi=>z8 hp0 hs hd hb hi];rw[fu,fu,zI hp0 hs hd hb];cases (rows (phiT f b) (nth f.blocks b).phis.length).foldlM (stF f) ()with
 | error e=>rfl
 | ok m1=>
  obtain⟨⟩:=m1;cases hI:(rows (insT f b) (nth f.blocks b).ins.length).foldlM (stF f) ()with
  | error e=>simp only[andE,hI]
  | ok m2=>simp only[andE,hI];rw[lI];rfl
theorem xp:uAll (blkU f m idom (cy (ofG f.blocks))) f.blocks.length=sF f:=by
 have key : ∀n,n<=f.blocks.length->uAll (blkU f m idom (cy (ofG f.blocks))) n=(thTo f n).foldlM (stF f) ():=by
  intro n;induction n with
  | zero=>exact fun _=>rfl
  | succ n ih=>
   intro hn;rw[gi,fu,<-ih (by omega)];have e:uAll (blkU f m idom (cy (ofG f.blocks))) (n+1)=match uAll (blkU f m idom (cy (ofG f.blocks))) n with | .ok _=>blkU f m idom (cy (ofG f.blocks)) n | .error e=>.error e:=by show upE _ (n+1) ()=_;simp only[upE];unfold uAll;cases upE (fun i (_:Unit)=>blkU f m idom (cy (ofG f.blocks)) i) n ()<;>rfl
   rw[e];cases uAll (blkU f m idom (cy (ofG f.blocks))) n with
   | error e=>rfl
   | ok s=>exact zU hp0 hs hd (by omega)
 rw[key _ (Dy _)];exact(jM (f:=stF f)).symm
end
theorem qA {f:ae} : ∀k,manyN f k=(oE f k:Int)
 | 0=>rfl
 | k+1=>by have ih:=qA (f:=f) k;unfold manyN at ih ⊢;rw[up,ih,oE];omega
theorem qG {σ ε:Type} {f g:Nat->σ->Except ε σ} {s:σ} : ∀{n:Nat},(∀i s,i<n->f i s=g i s)->upE f n s=upE g n s
 | 0,_=>rfl
 | n+1,h=>by
  simp only[upE];rw[qG (n:=n) fun i s hi=>h i s (by omega)];cases upE g n s with
  | ok s'=>exact h n s' (by omega)
  | error e=>rfl
theorem oe {f:Nat->Unit->Except Tr Unit} : ∀{n:Nat},upE f n () = .ok ()->∀i,i<n->f i () = .ok ()
 | n+1,h,i,hi=>by
  simp only[upE]at h;cases e:upE f n ()with
  | error t=>rw[e]at h;cases h
  | ok s=>
   rw[e]at h;rcases DA i n with hlt | hge
   ·exact oe e i hlt
   have:i=n:=by omega
   subst this;exact h
theorem zl{f:ae}(hn:0<f.blocks.length):uAll (na f) f.blocks.length=wayE f:=by
 unfold uAll wayE;refine qG fun b s hb=>?_;unfold na;have e:decide ((b:Int)∈aC (ofG f.blocks))=nth (hZ f (-1)) b:=by rw[DQ,decide_eq_true_eq,(fK (by rw[jA];exact hn)).mem,fO hb]
 rw[e]
theorem yF{f:ae}(hn:0<f.blocks.length)(hw:wayE f = .ok ())(a b:Int)(h0:0<=a)(h1:a<f.blocks.length)(h2:0<=b)(h3:b<f.blocks.length):
  cY (lf (ofG f.blocks)) a b=!nth (nth (eH f) a.toNat) b.toNat:=by
 have hR : ∀x:Nat,x<f.blocks.length->Re (ofG f.blocks) (-1) x:=fun x hx=>by
  have:=oe hw x hx;rw[<-fO hx];split at this
  ·assumption
  cases this
 have hg:0<(ofG f.blocks).length:=by rw[jA];exact hn
 obtain⟨fp,C,l,hl,I⟩:=pY hg;have hi:lf (ofG f.blocks)=l:=by unfold lf;rw[hl];rfl
 rw[hi];have e:=mA I C (a:=a.toNat) (b:=b.toNat) (by rw[jA];omega) (hR _ (by omega));rw[DI h0,DI h2]at e;rw[e,DQ,ko];have ha:nth (eH f) a.toNat=hZ f a:=by unfold eH;rw[eu (by omega),DI h0]
 rw[ha];have hr:=fO (f:=f) (wo:=a) (b:=b.toNat) (by omega);have haa:((a.toNat:Nat):Int)=a:=DI h0;rw[haa];cases hc:nth (hZ f a) b.toNat with
 | true=>rw[hc]at hr;simp[hr.1 rfl]
 | false=>
  rw[hc]at hr;have hnr:¬Re (ofG f.blocks) a b.toNat:=fun h=>by have:=hr.2 h;cases this
  simp[hnr,hR _ (show a.toNat<f.blocks.length by omega),hR _ (show b.toNat<f.blocks.length by omega)]
theorem xj(f:ae):gx f=oO f:=by
 unfold gx gZ oO;by_cases c1:f.params<0\/4<f.params
 ·have:aV f.params 0 4=false:=by rw[EY];simp[aV];omega
  rw[if_pos this,if_pos c1]
 have hw4:¬aV f.params 0 4=false:=by simp[aV];omega
 rw[if_neg hw4,if_neg c1];by_cases c2:f.blocks.length=0
 ·rw[if_pos c2,if_pos c2]
 rw[if_neg c2,if_neg c2];have hm:wK f=(oE f f.blocks.length:Int):=qA _;by_cases c3:512<f.blocks.length\/4096<oE f f.blocks.length
 ·rw[if_pos (by rw[hm];omega),if_pos c3]
 rw[if_neg (by rw[hm];omega),if_neg c3];have hp:0<=f.params:=by omega
 have hsh:=uz hp;cases hS:hU f (fun _=>none)with
 | error e=>
  cases hR:gk f with
  | ok l=>rw[hS,hR]at hsh;exact hsh.elim
  | error e'=>rw[hS,hR]at hsh;have hee:e=e':=hsh;subst hee;obtain⟨k,s',h1,_,h3⟩:=kK hR;have:=(nC h3).1;rw[if_pos (by show e.1≠0;omega)];rfl
 | ok m=>
  cases hR:gk f with
  | error e'=>rw[hS,hR]at hsh;exact hsh.elim
  | ok l=>
   rw[if_neg (by simp[qC])];have hs:=xR hp hS;show(match mD f m (lf (ofG f.blocks))with | .ok _=>((0,0,0):Tr) | .error t=>t)=_;unfold mD;rw[zl (by omega)];cases hW:wayE f with
   | error e=>rfl
   | ok s=>obtain⟨⟩:=s;have:=xp (f:=f) (m:=m) (idom:=lf (ofG f.blocks)) (by omega) hs fun a b h0 h1 h2 h3=>yF (by omega) hW a b h0 h1 h2 h3;show(match uAll (blkU f m (lf (ofG f.blocks)) (cy (ofG f.blocks))) f.blocks.length with | .ok _=>((0,0,0):Tr) | .error t=>t)=qC (sF f);rw[this];cases sF f<;>rfl
def Marks (m:BL) (S:Int->Prop):Prop:=m.length=8192/\∀n:Int,0<=n->n<8192->(nth m n.toNat=true↔S n)
theorem tU:Marks (List.replicate 8192 false) (fun _=>False):=⟨D2,fun n h0 h1=>by rw[aB (by omega)];simp⟩
theorem xD{m:BL}{S:Int->Prop}(h:Marks m S)(h0:0<=n)(h1:n<8192):Marks (m.set n.toNat true) (fun k=>S k\/k=n):=by
 refine⟨by simpa using h.1,fun k k0 k1=>?_⟩;rw[cg (by rw[h.1];omega)];split
 ·rename_i e;exact⟨fun _=>.inr (by omega),fun _=>rfl⟩
 rename_i e;rw[h.2 k k0 k1];exact⟨.inl,fun o=>o.resolve_right (by rintro rfl;exact e rfl)⟩
theorem Marks.congr{m:BL}{S T:Int->Prop}(h:Marks m S)(he : ∀n,S n↔T n):Marks m T:=⟨h.1,fun n a b=>(h.2 n a b).trans (he n)⟩
theorem o4 {t:Th} : ∀{l:List Int} {m m':BL} {S:Int->Prop},Marks m S->(∀n∈l,0<=n/\n<8192)->l.foldlM (iK t) m = .ok m'->Marks m' (fun k=>S k\/k∈l)/\l.Nodup/\∀n∈l,¬S n
 | [],m,m',S,h,_,e=>by cases e;exact⟨h.congr fun n=>by simp,F9,fun n hn=>by cases hn⟩
 | a::l,m,m',S,h,hl,e=>by
  rw[Eo]at e;have ha:=hl a Dz;unfold iK at e;by_cases hc:nth m a.toNat=true
  ·rw[if_pos hc]at e;cases e
  rw[if_neg hc]at e;obtain⟨g1,g2,g3⟩:=o4 (xD h ha.1 ha.2) (fun n hn=>hl n (DB _ hn)) e;refine⟨g1.congr fun n=>by rw[DL,or_assoc],FG.2 ⟨fun hm=>g3 a hm (.inr rfl),g2⟩,fun n hn=>?_⟩;rcases DL.1 hn with rfl | hn
  ·exact fun hs=>hc ((h.2 n ha.1 ha.2).2 hs)
  exact fun hs=>g3 n hn (.inl hs)
structure rP (f:ae) (t:Th):Prop where
 op:lZ f t=true->oW (tF f t)=false
 term:iO f t=true->pD (eL f t).term=true
 mks : ∀n∈t.mks,f.params<=n/\n<=8191
 to:iO f t=true->∀n∈(eL f t).term.to,1<=n/\n<f.blocks.length
theorem zu{t:Th}{m:BL}:upE (kV t) t.mks.length m=t.mks.foldlM (iK t) m:=jM (f:=iK t)
theorem any_false{p:α->Bool}{l:List α}:l.any p=false↔∀n∈l,p n=false:=by rw[List.any_eq_false];exact forall_congr' fun n=>forall_congr' fun _=>by simp
theorem ye{f:ae}:iN f n=false↔f.params<=n/\n<=8191:=by simp[iN]
theorem zT{f:ae}:ou f n=false↔1<=n/\n<f.blocks.length:=by simp[ou]
theorem vC{f:ae}{t:Th}{m m':BL}(h:eX f t m = .ok m'):rP f t/\t.mks.foldlM (iK t) m = .ok m':=by
 unfold eX at h;split at h
 ·cases h
 rename_i c1;split at h
 ·cases h
 rename_i c2;split at h
 ·cases h
 rename_i c3;rw[zu]at h;unfold jv at h;split at h
 ·cases h
 rename_i m1 e;split at h
 ·cases h
 rename_i c4;cases h;refine⟨⟨fun g=>?_,fun g=>?_,fun n hn=>?_,fun g n hn=>?_⟩,e⟩
 ·simpa[g]using c1
 ·simpa[g]using c2
 ·exact ye.1 (any_false.1 (by simpa only[Bool.not_eq_true]using c3) n hn)
 refine zT.1 (any_false.1 (by simpa only[g,ET,Bool.not_eq_true]using c4) n hn)
def yn (l:List Th):List Int:=l.flatMap Th.mks
theorem nK {f:ae} (hp:0<=f.params) : ∀{l:List Th} {m m':BL} {S:Int->Prop},Marks m S->l.foldlM (fun m t=>eX f t m) m = .ok m'->(∀t∈l,rP f t)/\(yn l).Nodup/\∀n∈yn l,¬S n
 | [],m,m',S,h,e=>⟨fun t ht=>(by cases ht),F9,fun n hn=>(by cases hn)⟩
 | t::l,m,m',S,h,e=>by
  rw[Eo]at e;cases e1:eX f t m with
  | error x=>rw[e1]at e;cases e
  | ok m1=>
   rw[e1]at e;obtain⟨g,e2⟩:=vC e1;obtain⟨k1,k2,k3⟩:=o4 h (fun n hn=>by have:=g.mks n hn;omega) e2;obtain⟨i1,i2,i3⟩:=nK hp k1 e;refine⟨fun x hx=>?_,?_,fun n hn=>?_⟩
   ·rcases DL.1 hx with rfl | hx
    ·exact g
    exact i1 x hx
   ·refine EH.2 ⟨k2,i2,fun a ha b hb=>?_⟩;rintro rfl;exact i3 a hb (.inr ha)
   rcases DE.1 hn with hn | hn
   ·exact k3 n hn
   exact fun hs=>i3 n hn (.inl hs)
def rK (f:ae) (v b p:Int):Prop:=(0<=v/\v<f.params)\/∃t∈aK f,v∈t.mks/\(t.blk=b/\(t.place<0\/t.place<p)\/t.blk≠b/\¬Re (ofG f.blocks) t.blk b.toNat)
structure zt (ts:List Th) (s:List Th):Prop where
 len:s.length=8192
 is : ∀n:Int,0<=n->n<8192->(nth s n.toNat=noTh/\∀t∈ts,n∉t.mks)\/(nth s n.toNat∈ts/\n∈(nth s n.toNat).mks)
theorem tg {t:Th} {ts:List Th} : ∀{l:List Int} {s:List Th} {d:List Int},(∀n∈l,n∈t.mks)->(s.length=8192/\∀n:Int,0<=n->n<8192->(nth s n.toNat=noTh/\(∀t∈ts,n∉t.mks)/\n∉d)\/(nth s n.toNat∈ts++[t]/\n∈(nth s n.toNat).mks))->
  ((l.foldl (dO t) s).length=8192/\∀n:Int,0<=n->n<8192->(nth (l.foldl (dO t) s) n.toNat=noTh/\(∀t∈ts,n∉t.mks)/\n∉d++l)\/(nth (l.foldl (dO t) s) n.toNat∈ts++[t]/\n∈(nth (l.foldl (dO t) s) n.toNat).mks))
 | [],s,d,_,h=>by simpa using h
 | a::l,s,d,hl,h=>by
  rw[DS];have:=tg (t:=t) (ts:=ts) (l:=l) (s:=dO t s a) (d:=d++[a]) (fun n hn=>hl n (DB _ hn)) ⟨by rw[jw];exact h.1,fun n h0 h1=>?_⟩
  ·simpa using this
  unfold dO;split
  ·rw[cg (by rw[h.1];omega)];split
   ·rename_i hc e;have:n=a:=by omega
    subst this;exact .inr ⟨Eh _ (DF.2 rfl),hl n Dz⟩
   rename_i hc e;rcases h.2 n h0 h1 with⟨a1,a2,a3⟩ | a1
   ·refine .inl ⟨a1,a2,?_⟩;rw[DE,DF];rintro(q | rfl)
    ·exact a3 q
    exact e rfl
   exact .inr a1
  rename_i hc;rcases h.2 n h0 h1 with⟨a1,a2,a3⟩ | a1
  ·refine .inl ⟨a1,a2,?_⟩;rw[DE,DF];rintro(q | rfl)
   ·exact a3 q
   exact hc ⟨h0,h1⟩
  exact .inr a1
theorem sR : ∀{l ts s:List Th},zt ts s->zt (ts++l) (l.foldl lP s)
 | [],ts,s,h=>by simpa using h
 | t::l,ts,s,h=>by
  rw[DS];have:=tg (t:=t) (ts:=ts) (l:=t.mks) (s:=s) (d:=[]) (fun n hn=>hn) ⟨h.len,fun n h0 h1=>(h.is n h0 h1).elim (fun a=>.inl ⟨a.1,a.2,FC⟩) fun a=>.inr ⟨Ei _ a.1,a.2⟩⟩;have:=sR (l:=l) (ts:=ts++[t]) (s:=lP s t) ⟨this.1,fun n h0 h1=>(this.2 n h0 h1).elim (fun a=>.inl ⟨a.1,fun x hx=>?_⟩) .inr⟩
  ·simpa using this
  rcases DE.1 hx with hx | hx
  ·exact a.2.1 x hx
  rw[DF.1 hx];simpa using a.2.2
theorem xJ{f:ae}:zt (aK f) (e8 f):=
 sR (l:=aK f) (ts:=[]) (s:=List.replicate 8192 noTh) ⟨D2,fun n h0 h1=>.inl ⟨aB (by omega),fun t ht=>by cases ht⟩⟩
theorem tw{f:ae}{t:Th}(h:t∈aK f):0<=t.blk/\t.blk<f.blocks.length:=by obtain⟨b,hb,ht⟩:=fi.1 h;rcases gq.1 ht with⟨i,hi,rfl⟩ | ⟨i,hi,rfl⟩ | rfl<;>exact⟨Int.natCast_nonneg _,Int.ofNat_lt.2 hb⟩
theorem zO{f:ae}{a b:Int}(h0:0<=a)(h1:a<f.blocks.length)(h2:0<=b)(h3:b<f.blocks.length):nth (nth (eH f) a.toNat) b.toNat=true↔Re (ofG f.blocks) a b.toNat:=by unfold eH;rw[eu (by omega),DI h0];exact fO (by omega)
theorem qc{f:ae}{v b p:Int}(hb0:0<=b)(hb1:b<f.blocks.length)(h:eY f (e8 f) (eH f) v b p=true):rK f v b p:=by
 unfold eY at h;split at h
 ·rename_i c;exact .inl c
 split at h
 ·cases h
 rename_i c1 c2;rcases xJ.is v (by omega) (by omega)with⟨e,_⟩ | ⟨hm,hv⟩
 ·exact absurd (.inr (by rw[e];decide)) c2
 have hat:=tw hm;refine .inr ⟨_,hm,hv,?_⟩;split at h
 ·rename_i e;exact .inl ⟨e,by simpa using h⟩
 rename_i e;refine .inr ⟨e,fun hr=>?_⟩;rw[(zO hat.1 hat.2 hb0 hb1).2 hr]at h;cases h
structure jC (f:ae):Prop where
 params:0<=f.params/\f.params<=4
 blocks:0<f.blocks.length/\f.blocks.length<=512
 cnt:oE f f.blocks.length<=4096
 good : ∀t∈aK f,rP f t
 nodup:(yn (aK f)).Nodup
 way : ∀b:Nat,b<f.blocks.length->Re (ofG f.blocks) (-1) b
 takes : ∀t∈aK f,0<=t.place->∀v∈t.tks,rK f v t.blk t.place
 phi : ∀b i:Nat,b<f.blocks.length->i<(nth f.blocks b).phis.length->0<b/\(nth (nth f.blocks b).phis i).ins.map InD.frm=eW f b/\∀p∈(nth (nth f.blocks b).phis i).ins,rK f p.val p.frm (ug f p.frm)
theorem yD{f:ae}{b x:Int}:x∈eW f b↔(0<=x/\x<f.blocks.length)/\b∈(nth f.blocks x.toNat).term.to:=by
 unfold eW;rw[jR];constructor
 ·rintro⟨a,ha,hb,rfl⟩;exact⟨⟨by omega,by omega⟩,by simpa using hb⟩
 rintro⟨⟨h0,h1⟩,h⟩;exact⟨x.toNat,by omega,by simpa using h,by omega⟩
theorem tt{f:ae}{t:Th}:eo f (e8 f) (eH f) t = .ok ()↔
  (0<=t.place/\∀v∈t.tks,eY f (e8 f) (eH f) v t.blk t.place=true)\/(t.place<0/\mM f t=true/\∀p∈(ll f t).ins,eY f (e8 f) (eH f) p.val p.frm (ug f p.frm)=true):=by
 unfold eo;by_cases h0:0<=t.place
 ·rw[if_pos h0];have hn:¬t.place<0:=by omega
  simp only[h0,hn,true_and,false_and,or_false];cases e:t.tks.any (stT f (e8 f) (eH f) t)with
  | true=>
   obtain⟨v,hv,hs⟩:=FD.1 e;constructor
   ·intro h;cases h
   intro h;unfold stT at hs;rw[h v hv]at hs;cases hs
  | false=>
   constructor
   ·intro _ v hv;have:=any_false.1 e v hv;simpa[stT]using this
   intro _;rfl
 rw[if_neg h0];have hn:t.place<0:=by omega
 simp only[h0,hn,true_and,false_and,false_or];cases e1:mM f t with
 | false=>simp
 | true=>
  rw[if_neg (by simp)];cases e:(ll f t).ins.any (stP f (e8 f) (eH f))with
  | true=>
   obtain⟨v,hv,hs⟩:=FD.1 e;constructor
   ·intro h;cases h
   rintro⟨_,h⟩;unfold stP at hs;rw[h v hv]at hs;cases hs
  | false=>
   constructor
   ·intro _;refine⟨rfl,fun v hv=>?_⟩;have:=any_false.1 e v hv;simpa[stP]using this
   intro _;rfl
theorem zi{f:ae}{i:Nat}:ll f (phiT f b i)=nth (nth f.blocks b).phis i:=by unfold ll eL phiT;dsimp only;rw[DN];congr 1;omega
theorem Bf{f:ae}(h:(gx f).1=0):jC f:=by
 rw[xj]at h;unfold oO at h;split at h
 ·cases h
 rename_i c1;split at h
 ·cases h
 rename_i c2;split at h
 ·cases h
 rename_i c3;cases hs:gk f with
 | error e=>obtain⟨k,s',_,_,h3⟩:=kK (show upE _ _ _=_ from hs);have:=(nC h3).1;rw[hs]at h;rw[if_pos (by show e.1≠0;omega)]at h;have h:e.1=0:=h;omega
 | ok m=>
  rw[hs,if_neg (by simp[qC])]at h;obtain⟨g1,g2,_⟩:=nK (f:=f) (by omega) tU (by rw[<-lg];exact hs);cases hw:wayE f with
  | error e=>
   rw[hw]at h;obtain⟨k,s',_,_,h3⟩:=kK (show upE _ _ _=_ from hw);split at h3
   ·cases h3
   cases h3;exact absurd (show(15:Int)=0 from h) (by decide)
  | ok u=>
   obtain⟨⟩:=u;rw[hw]at h;cases hu:sF f with
   | error e=>
    rw[hu]at h;obtain⟨k,s',_,_,h3⟩:=kK (show upE _ _ _=_ from hu);have h:e.1=0:=h;unfold eo at h3;repeat' split at h3
    all_goals first | (cases h3;done) | (cases h3;first | exact absurd (show(13:Int)=0 from h) (by decide) | exact absurd (show(16:Int)=0 from h) (by decide))
   | ok u=>
    obtain⟨⟩:=u;have hst : ∀t∈aK f,eo f (e8 f) (eH f) t = .ok ():=fun t ht=>by obtain⟨i,hi,e⟩:=DO ht;have:=oe hu i hi;rw[aq hi,e]at this;exact this
    refine⟨by omega,by omega,by omega,g1,g2,fun b hb=>?_,fun t ht h0 v hv=>?_,fun b i hb hi=>?_⟩
    ·have:=oe hw b hb;rw[<-fO hb];split at this
     ·assumption
     cases this
    ·have hat:=tw ht;rcases tt.1 (hst t ht)with⟨_,k⟩ | ⟨k,_⟩
     ·exact qc hat.1 hat.2 (k v hv)
     omega
    have ht:phiT f b i∈aK f:=fi.2 ⟨b,hb,gq.2 (.inl ⟨i,hi,rfl⟩)⟩;rcases tt.1 (hst _ ht)with⟨k,_⟩ | ⟨_,k1,k2⟩
    ·exact absurd k (by show ¬(0:Int)<=-1-(i:Int);omega)
    unfold mM at k1;rw[zi]at k1 k2;obtain⟨k3,k4⟩:=(DC _ _).mp k1;have k4:(nth (nth f.blocks b).phis i).ins.map InD.frm=eW f b:=of_decide_eq_true k4;have k3:(0:Int)<b:=of_decide_eq_true k3;refine⟨by omega,k4,fun p hp=>?_⟩;have hm:p.frm∈eW f b:=by rw[<-k4];exact E7 hp
    have:=(yD.1 hm).1;exact qc this.1 this.2 (k2 p hp)
end Go.Proofs.YtnfiilgdjpdlkaaGreatDoor
namespace Go.Lft
open Go
variable {po:OP}
end Go.Lft
namespace Go.Proofs.YtnfiilgdjpdlkaaGreatDoor
open Go Go.Lft
structure BlkM where
 phis:Raw
 ins:Raw
 term:cL
instance:Rep BlkM:=Rep.via fun d=>Cat.mk d.phis (Cat.mk d.ins d.term)
instance:Inhabited BlkM:=⟨⟨default,default,default⟩⟩
variable {s:List Int} {M:Nat} {vs:Value} {W:View} {h:Heap} {o:Own}
end Go.Proofs.YtnfiilgdjpdlkaaGreatDoor
namespace Go.Proofs.YtnfiilgdjpdlkaaGreatDoor
open Go Go.Lft
section
variable {f:ae} {b i:Nat}
theorem sB:iO f (endT f b)=true:=by refine decide_eq_true ?_;show(((nth f.blocks b).ins.length:Nat):Int)=((nth f.blocks ((b:Nat):Int).toNat).ins.length:Nat);rw[DN]
theorem wE(hi:i<(nth f.blocks b).ins.length):lZ f (insT f b i)=true/\tF f (insT f b i)=nth (nth f.blocks b).ins i:=by
 refine⟨(DC _ _).mpr ⟨decide_eq_true (Int.natCast_nonneg _),decide_eq_true ?_⟩,?_⟩
 ·show(i:Int)<((nth f.blocks ((b:Nat):Int).toNat).ins.length:Nat);rw[DN];omega
 show nth (nth f.blocks ((b:Nat):Int).toNat).ins ((i:Nat):Int).toNat=_;rw[DN,DN]
theorem Az:eL f (endT f b)=nth f.blocks b:=by show nth f.blocks ((b:Nat):Int).toNat=_;rw[DN]
theorem jC.insG(m:jC f)(hb:b<f.blocks.length)(hi:i<(nth f.blocks b).ins.length):rP f (insT f b i)/\oW (nth (nth f.blocks b).ins i)=false:=by have g:=m.good _ (fi.2 ⟨b,hb,gq.2 (.inr (.inl ⟨i,hi,rfl⟩))⟩);exact⟨g,by have:=g.op (wE hi).1;rwa [(wE hi).2]at this⟩
theorem jC.endG(m:jC f)(hb:b<f.blocks.length):pD (nth f.blocks b).term=true/\∀n∈(nth f.blocks b).term.to,1<=n/\n<f.blocks.length:=by have g:=m.good _ (fi.2 ⟨b,hb,gq.2 (.inr (.inr rfl))⟩);have h1:=g.term sB;have h2:=g.to sB;rw[Az]at h1 h2;exact⟨h1,h2⟩
end
section
variable {f g:ae} {n:Nat}
end
def jz (f:ae):Bool:=decide ((gx f).1=0)
def gD (f:ae) (b p pat temp:Int):Option FitD:=if cC f b p&&jz f then tryS (dw f b p temp) pat else none
def fa (f:ae) (b p pat:Int):Option FitD:=if 1<=pat then gD f b p pat 0 else none
def wu:Option FitD->List Int | some x=>x.takes | none=>[]
def wT:Option FitD->List Int | some x=>x.inner | none=>[]
def y7:Option FitD->List aU | some x=>x.code | none=>[]
def AI:Option FitD->EndD | some x=>x.fin | none=>dJ
theorem jq{f:ae}{i:InsD}:i∈dr f↔∃b k,b<f.blocks.length/\k<(nth f.blocks b).ins.length/\i=nth (nth f.blocks b).ins k:=by
 unfold dr;rw[List.mem_flatMap];constructor
 ·rintro⟨x,hx,hi⟩;obtain⟨b,hb,rfl⟩:=DO hx;obtain⟨k,hk,rfl⟩:=DO hi;exact⟨b,k,hb,by rw[aq hb];exact hk,by rw[aq hb,aq hk]⟩
 rintro⟨b,k,hb,hk,rfl⟩;exact⟨_,bT hb,bT hk⟩
theorem rm{H:View}{v:Value}{f:ae}(h:Rd H v f): ∀i∈dr f,-2147483648<=i.imm.v/\i.imm.v<=2147483647:=by intro i hi;obtain⟨b,k,hb,hk,rfl⟩:=jq.1 hi;obtain⟨c1,c2,c3⟩:=fh h;unfold Rd at h;rw[if_pos (show Rep.agg ae=true from rfl)]at h;obtain⟨cs,rfl,d1,d2,e,h1,h2⟩:=h;obtain⟨vb,rfl⟩:=nB h2;have hs:=jl.1 h2;have h3:=((hs.at hb).part BlkD.oZ).sl;obtain⟨vi,-,h4⟩:=h3;rw[<-aq hb]at h4;have:=((h4.at hk).part InsD.iy).ox;rw[aq hk];exact this
theorem qM{f:ae}(m:jC f)(hsm:SmF f): ∀i∈dr f,oF i:=by
 intro i hi;obtain⟨b,k,hb,hk,rfl⟩:=jq.1 hi;obtain⟨-,h⟩:=m.insG hb hk;have hm:=(hsm.blk b hb).inn k hk;generalize nth (nth f.blocks b).ins k=i at *;unfold oW at h;simp at h;obtain⟨⟨h1,h2⟩,h3⟩:=h;unfold rq at h3;refine⟨fun ho=>?_,fun ho=>?_,hm⟩
 ·rw[if_neg (by omega),if_neg (by omega),if_neg (by omega)]at h3;simp at h3;omega
 rw[if_neg (by omega),if_pos (by omega)]at h3;simp at h3;omega
theorem y3{f:ae}{b:Nat}(m:jC f)(hsm:SmF f)(hb:b<f.blocks.length):pk (nth f.blocks b).term:=by
 have h:=(m.endG hb).1;have s:=hsm.blk b hb;have s1:=s.args;have s2:=s.to;generalize (nth f.blocks b).term=t at *;refine⟨fun ho=>?_,s1,s2⟩;unfold pD at h;rcases ho with ho | ho
 ·rw[if_neg (by omega),if_pos ho]at h;simp at h;omega
 rw[if_neg (by omega),if_neg (by omega),if_pos ho]at h;simp at h;omega
theorem zc:oF ia:=⟨fun h=>by simp[ia]at h,fun h=>by simp[ia]at h,by simp[ia]⟩
variable{temp:Int}
theorem sI{f:ae}{b p:Int}(m:jC f)(hsm:SmF f)(hr : ∀i∈dr f,-2147483648<=i.imm.v/\i.imm.v<=2147483647)(hp:cC f b p=true):jW (dw f b p temp)/\pk (dw f b p temp).t/\((dw f b p temp).i=ia\/(dw f b p temp).i∈dr f)/\(dw f b p temp).f=f:=by
 simp[cC]at hp;obtain⟨⟨⟨g1,g2⟩,g3⟩,g4⟩:=hp;have hb:b.toNat<f.blocks.length:=by omega
 unfold dw;by_cases e:p=(nth f.blocks b.toNat).ins.length
 ·rw[if_pos e];exact⟨⟨hsm,qM m hsm,zc,hr⟩,y3 m hsm hb,.inl rfl,rfl⟩
 rw[if_neg e];have hi:nth (nth f.blocks b.toNat).ins p.toNat∈dr f:=jq.2 ⟨_,_,hb,by omega,rfl⟩;exact⟨⟨hsm,qM m hsm,qM m hsm _ hi,hr⟩,⟨fun h=>by simp[jT]at h,by simp[jT],by simp[jT]⟩,.inr hi,rfl⟩
theorem rj{f:ae}{v:Value}{b p pat:Int}{h:Heap}{W:View}(hW:W.le (vw h))(hv:Rd W v (dw f b p temp))(m:jC f)(hsm:SmF f)(hr : ∀i∈dr f,-2147483648<=i.imm.v/\i.imm.v<=2147483647)(hM : ∀i∈dr f,i.op=15\/i.op=16->jt)(hpl:cC f b p=true)(hp:I64 pat):
  aj Tryz.prog N.cQ #[v,.int .i64 pat] h (fun u h'=>bD W h h' u (tryS (dw f b p temp) pat)):=by
 obtain⟨h1,h2,h3,-⟩:=sI (temp:=temp) m hsm hr hpl;refine BD hW hv (fun _=>h1) (fun _=>⟨h1,h2⟩) (fun ho=>?_) hp;rcases h3 with h3 | h3
 ·rw[h3]at ho;simp[ia]at ho
 exact hM _ h3 ho
theorem kI{f:ae}(h:jz f=true):jC f:=Bf (by simpa[jz]using h)
theorem yo{f:ae}{v:Value}{b p pat:Int}{h:Heap}{W:View}(hW:W.le (vw h))(hv:Rd W v f)(hsm:SmF f)(hM : ∀i∈dr f,i.op=15\/i.op=16->jt)(hp:I64 pat):
  aj Tryz.prog N.dT #[v,.int .i64 b,.int .i64 p,.int .i64 pat] h (fun u h'=>(vw h).le (vw h')/\∃v1 v2,u = .tuple #[v1,v2,.bool (fa f b p pat).isSome]/\SlRd (vw h') v1 (wu (fa f b p pat))/\SlRd (vw h') v2 (wT (fa f b p pat))):=by
 refine ah (args:=[v,.int .i64 b,.int .i64 p,.int .i64 pat]) follows F.dT E.dT (Dv (by kernel_rfl)) fun K hK=>?_;dsimp only[L.dT];have c0:=Cx.start hW;refine aa fun z hz=>?_;simp;refine c0.cS rfl hv fun B h1 W1 hW1 c1 at1 hle1=>?_;subst hz;obtain⟨uf,huf,ruf⟩:=at1.ldN rfl (N:=2) rfl;have hr:=rm hv
 refine aa fun z hz=>?_;simp[huf _ c1.wle];refine af (by kernel_rfl) (zv c1.wle ruf (by constructor<;>decide)) ?_;rintro _ h2 ⟨hle2,vs,rfl,hvs⟩;have c2:=c1.ext hle2;have hW2:=c1.up (h':=h2);simp;refine c2.da (α:=bf) hvs (n:=13) (z:=.agg jF.toArray) (by kernel_rfl) rfl rfl (by kernel_rfl) (fun _=>by simp) (fun _=>by simp) fun B2 h3 W3 hW3 c3 at3 hle3=>?_;subst hz;have huf3:=huf _ (View.le_trans hW2 (View.le_trans hW3 c3.wle))
 have ruf3:=ruf.mono (View.le_trans hW2 (View.le_trans hW3 c3.wle));have none_:fa f b p pat=none->K (.tuple #[.slice none 0 0,.slice none 0 0,.bool false]) h3:=fun e=>hK _ _ ⟨c3.le0,_,_,by rw[e];rfl,by rw[e];exact aF,by rw[e];exact aF⟩;refine aa fun z hz=>?_;cases hpl:cC f b p with
 | false=>
  have e:fa f b p pat=none:=by unfold fa gD;rw[hpl];split<;>rfl
  simp;exact none_ e
 | true=>
  by_cases h1p:pat<1
  ·have e:fa f b p pat=none:=by unfold fa;rw[if_neg (by omega)]
   simp[h1p];exact none_ e
  simp[h1p,huf3];refine af (by kernel_rfl) (oH ruf3 hsm) ?_;rintro _ h4 ⟨rfl,hle4⟩;have c4:=c3.ext hle4;have hW4:=c3.up (h':=h4);cases hrt:jz f with
  | false=>
   have e:fa f b p pat=none:=by unfold fa gD;rw[hpl,hrt];split<;>rfl
   have hrt2:decide ((gx f).1=0)=false:=hrt;simp[hrt2];exact hK _ _ ⟨c4.le0,_,_,by rw[e];rfl,by rw[e];exact aF,by rw[e];exact aF⟩
  | true=>
   have hrt2:decide ((gx f).1=0)=true:=hrt;have m:=kI hrt;have e:fa f b p pat=tryS (dw f b p 0) pat:=by unfold fa gD;rw[if_pos (by omega),hpl,hrt];rfl
   rw[e]at hK none_;have hpS:iS f b p 0=dw f b p 0:=by unfold iS;rw[hpl,if_pos rfl]
   rw[hpS]at at3;obtain⟨us,hus,rus⟩:=at3.ldN rfl (N:=13) rfl;have hus4:=hus _ (View.le_trans hW4 c4.wle);simp[hrt2];subst hz;refine aa fun z hz=>?_;simp[hus4];refine af (by kernel_rfl) (rj c4.wle (rus.mono hW4) m hsm hr hM hpl hp) ?_;rintro _ h5 ⟨hle5,vf,x,rfl,hvf,hx⟩;have c5:=c4.ext hle5
   simp;refine c5.da (α:=FitD) hvf (n:=8) (z:=.agg fitZ.toArray) (by kernel_rfl) rfl rfl (by kernel_rfl) (fun _=>by simp) (fun _=>by simp) fun B3 h6 W6 hW6 c6 at6 hle6=>?_;subst hz;refine aa fun z hz=>?_;cases hq:tryS (dw f b p 0) pat with
   | none=>rw[hq]at hK;simp;exact hK _ _ ⟨c6.le0,_,_,rfl,aF,aF⟩
   | some y=>
    obtain rfl:=hx y hq;rw[hq]at hK;obtain⟨v1,k1,s1⟩:=((at6.mono c6.wle).part FitD.vZ).sl;obtain⟨v2,k2,s2⟩:=((at6.mono c6.wle).part FitD.zX).sl;have k1:ag (vw h6) ⟨B3,0,none⟩=some v1:=by simpa using k1
    have k2:ag (vw h6) ⟨B3,1,none⟩=some v2:=by simpa using k2
    simp;subst hz;simp[k1,k2];exact hK _ _ ⟨c6.le0,_,_,rfl,s1,s2⟩
abbrev endZ:List Value:=[.int .i64 0,.int .i64 0,.int .i64 0,.slice none 0 0,.int .i32 0]
theorem jc{H:View}:Rd H (.agg endZ.toArray) dJ:=by unfold Rd;rw[if_pos (show Rep.agg EndD=true from rfl)];exact⟨_,rfl,iC (by simp) (by decide) aF⟩
theorem Ai{f:ae}{v:Value}{b p pat:Int}{h:Heap}{W:View}(hW:W.le (vw h))(hv:Rd W v f)(hsm:SmF f)(hM : ∀i∈dr f,i.op=15\/i.op=16->jt)(hp:I64 pat)(htm:I64 temp):
  aj Tryz.prog N.ey #[v,.int .i64 b,.int .i64 p,.int .i64 pat,.int .i64 temp] h (fun u h'=>(vw h).le (vw h')/\∃v1 v2,u = .tuple #[v1,v2,.bool (gD f b p pat temp).isSome]/\SlRd (vw h') v1 (y7 (gD f b p pat temp))/\Rd (vw h') v2 (AI (gD f b p pat temp))):=by
 refine ah (args:=[v,.int .i64 b,.int .i64 p,.int .i64 pat,.int .i64 temp]) follows F.ey E.ey (Dv (by kernel_rfl)) fun K hK=>?_;dsimp only[L.ey];have c0:=Cx.start hW;refine aa fun z hz=>?_;simp;refine c0.cS rfl hv fun B h1 W1 hW1 c1 at1 hle1=>?_;refine c1.cU (k:=(0,0)) (n:=4) (z:=.agg endZ.toArray) rfl (by kernel_rfl) rfl (by decide) (by simp[Value.cells,Value.oneCell']) fun R h1' hle1' c1=>?_;subst hz;obtain⟨uf,huf,ruf⟩:=at1.ldN rfl (N:=2) rfl;have hr:=rm hv
 refine aa fun z hz=>?_;simp[huf _ c1.wle];refine af (by kernel_rfl) (zv c1.wle ruf htm) ?_;rintro _ h2 ⟨hle2,vs,rfl,hvs⟩;have c2:=c1.ext hle2;have hW2:=c1.up (h':=h2);simp;refine c2.da (α:=bf) hvs (n:=13) (z:=.agg jF.toArray) (by kernel_rfl) rfl rfl (by kernel_rfl) (fun _=>by simp) (fun _=>by simp) fun B2 h3 W3 hW3 c3 at3 hle3=>?_;subst hz;have huf3:=huf _ (View.le_trans hW2 (View.le_trans hW3 c3.wle))
 have ruf3:=ruf.mono (View.le_trans hW2 (View.le_trans hW3 c3.wle));have none_ : ∀(hx:Heap) (Wx:View) (l9:List Value) (o:Own),gD f b p pat temp=none->Cx W h Wx hx o->Rd Wx (.agg l9.toArray) dJ->K (.tuple #[.slice none 0 0,.agg l9.toArray,.bool false]) hx:=fun hx Wx l9 o e c r=>hK _ _ ⟨c.le0,_,_,by rw[e];rfl,by rw[e];exact aF,by rw[e];exact r.mono c.wle⟩;refine aa fun z hz=>?_;cases hpl:cC f b p with
 | false=>
  have e:gD f b p pat temp=none:=by unfold gD;rw[hpl];rfl
  simp;refine an (t:=T.dW) (z:=.agg endZ.toArray) (places:=[(0,1),(1,1),(2,1),(3,1),(4,1)]) (vs:=[]) (cs:=endZ.toArray) (by kernel_rfl) (by kernel_rfl) (by simp) (by rfl) ?_;refine c3.bC (k:=(0,0)) (n:=4) (l:=endZ) (by rfl) jc rfl rfl (by kernel_rfl) rfl rfl fun h9 l9 hl9 c9=>?_;have hall:=c9.all (k:=(0,0)) (n:=4) (l:=l9) (B:=R) (e:=T.dW) (by rfl);simp at hall;simp[hall];exact none_ _ _ _ _ e c9 (hl9▸jc)
 | true=>
  simp[huf3];refine af (by kernel_rfl) (oH ruf3 hsm) ?_;rintro _ h4 ⟨rfl,hle4⟩;have c4:=c3.ext hle4;have hW4:=c3.up (h':=h4);cases hrt:jz f with
  | false=>
   have e:gD f b p pat temp=none:=by unfold gD;rw[hpl,hrt];rfl
   have hrt2:decide ((gx f).1=0)=false:=hrt;simp[hrt2];refine an (t:=T.dW) (z:=.agg endZ.toArray) (places:=[(0,1),(1,1),(2,1),(3,1),(4,1)]) (vs:=[]) (cs:=endZ.toArray) (by kernel_rfl) (by kernel_rfl) (by simp) (by rfl) ?_;refine c4.bC (k:=(0,0)) (n:=4) (l:=endZ) (by rfl) jc rfl rfl (by kernel_rfl) rfl rfl fun h9 l9 hl9 c9=>?_;have hall:=c9.all (k:=(0,0)) (n:=4) (l:=l9) (B:=R) (e:=T.dW) (by rfl)
   simp at hall;simp[hall];exact none_ _ _ _ _ e c9 (hl9▸jc)
  | true=>
   have hrt2:decide ((gx f).1=0)=true:=hrt;have m:=kI hrt;have e:gD f b p pat temp=tryS (dw f b p temp) pat:=by unfold gD;rw[hpl,hrt];rfl
   rw[e]at hK none_;have hpS:iS f b p temp=dw f b p temp:=by unfold iS;rw[hpl,if_pos rfl]
   rw[hpS]at at3;obtain⟨us,hus,rus⟩:=at3.ldN rfl (N:=13) rfl;have hus4:=hus _ (View.le_trans hW4 c4.wle);simp[hrt2];subst hz;refine aa fun z hz=>?_;simp[hus4];refine af (by kernel_rfl) (rj c4.wle (rus.mono hW4) m hsm hr hM hpl hp) ?_;rintro _ h5 ⟨hle5,vf,x,rfl,hvf,hx⟩;have c5:=c4.ext hle5
   simp;refine c5.da (α:=FitD) hvf (n:=8) (z:=.agg fitZ.toArray) (by kernel_rfl) rfl rfl (by kernel_rfl) (fun _=>by simp) (fun _=>by simp) fun B3 h6 W6 hW6 c6 at6 hle6=>?_;subst hz;refine aa fun z hz=>?_;cases hq:tryS (dw f b p temp) pat with
   | none=>simp;refine an (t:=T.dW) (z:=.agg endZ.toArray) (places:=[(0,1),(1,1),(2,1),(3,1),(4,1)]) (vs:=[]) (cs:=endZ.toArray) (by kernel_rfl) (by kernel_rfl) (by simp) (by rfl) ?_;refine c6.bC (k:=(0,0)) (n:=4) (l:=endZ) (by rfl) jc rfl rfl (by kernel_rfl) rfl rfl fun h9 l9 hl9 c9=>?_;have hall:=c9.all (k:=(0,0)) (n:=4) (l:=l9) (B:=R) (e:=T.dW) (by rfl);simp at hall;simp[hall];exact none_ _ _ _ _ hq c9 (hl9▸jc)
   | some y=>
    obtain rfl:=hx y hq;rw[hq]at hK;obtain⟨v1,k1,s1⟩:=(at6.part FitD.BA).sl;obtain⟨v2,k2,s2⟩:=(at6.part FitD.CD).ldN rfl (N:=5) rfl;have k1:ag W6 ⟨B3,2,none⟩=some v1:=by simpa using k1
    have k2:Un.ev W6 (.ak 5) (.pointer (some ⟨B3,3,none⟩))=some v2:=by simpa using k2 W6 (View.le_refl _)
    simp;subst hz;refine aa fun z hz=>?_;refine bR W6 c6.wle ?_;simp[k1,k2];refine c6.bC (k:=(0,0)) (n:=4) (l:=endZ) (by rfl) s2 rfl rfl (by kernel_rfl) rfl rfl fun h9 l9 hl9 c9=>?_;subst hz;have hall:=c9.all (k:=(0,0)) (n:=4) (l:=l9) (B:=R) (e:=T.dW) (by rfl);simp at hall;simp[hall];exact hK _ _ ⟨c9.le0,_,_,rfl,s1.mono c9.wle,hl9▸s2.mono c9.wle⟩
theorem yN{a b:ByteArray}{n:Bool}:Bn.ev (.eqS n) (.string a) (.string b)=some (.bool ((a.toList == b.toList) != n)):=rfl
end Go.Proofs.YtnfiilgdjpdlkaaGreatDoor
