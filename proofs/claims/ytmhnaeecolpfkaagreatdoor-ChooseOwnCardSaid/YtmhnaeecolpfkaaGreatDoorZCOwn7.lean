/- A part of the proof: LftHd, LftNr, LftTs, Qs, Qt, Qu, Ql, Qm, Ia, Qx, Qy, Qz, Aa, Ab, Ba, Ad, Ae, An, Kb, LftMv, Ai, Ak, Al, Aj, Am, Ao, Gb, Gc, Gd, Ap. -/
import Derived.Test.YtmhnaeecolpfkaaGreatDoorZCOwn6
import Derived.ChangeKeysEq
set_option linter.unusedSimpArgs false
set_option linter.unusedVariables false
open Go.Value renaming int->UH,slice->UM,pointer->UN
open Go.IntKind renaming i64->UI
open Option renaming some->UK,none->UL
open Bool renaming true->UO,false->UP
open Go.Proofs.Tryz renaming prog->UQ
open Go.Proofs
namespace Go.Lft
section
variable{po po2 po3:OP}{pp:PP}
structure Aside(X:View)(h:Heap)(o:Own):Prop where
 le:X.le (vw h)
 av : ∀k i,o k=UK i->Av X i.v
structure Held(n:Nat)(X Y:View)(h:Heap)(o:Own):Prop where
 own:Owns Y h o
 asd:Aside X h o
 nl:n<=h.size
 lo : ∀b,b<n->∀x,Y b=UK x->X b=UK x
 hi : ∀b,n<=b->∀x,Y b=UK x->X b=UL
section
variable{n:Nat}{X X' Y:View}{h h':Heap}{o:Own}{k:Key}
theorem Held.start(w:Owns Y h o):Held h.size Y Y h o:=
 ⟨w,⟨w.wle,w.av⟩,Q4 _,λ_ _ _ h=>h,λb hb x hx=>by have:=View.lt w.wle hx;omega⟩
theorem Held.move(w:Held n X Y h o)(h1 : ∀b,b<n->X' b=X b)(h2:X'.le (vw h'))(h3 : ∀b,X b=UL->b<h.size->h'[b]? = h[b]?/\X' b=UL)(h4:h.size<=h'.size):Held n X' Y h' o:=by
 have own : ∀k i,o k=UK i->∀b,i.v.ownBlock=UK b->h'[b]? = h[b]?/\X' b=none:=λk i hk b hb=>h3 b (w.asd.av k i hk b hb) (w.own.lt hk hb);refine⟨⟨λb x hx=>?_,λk i hk=>?_,w.own.av,w.own.dj⟩,⟨h2,λk i hk b hb=>(own k i hk b hb).2⟩,Rt w.nl h4,λb hb x hx=>?_,λb hb x hx=>(h3 b (w.hi b hb x hx) (View.lt w.own.wle hx)).2⟩
 ·rcases Ri b n with hb | hb
  ·exact h2 b x (by rw[h1 b hb];exact w.lo b hb x hx)
  exact((h3 b (w.hi b hb x hx) (View.lt w.own.wle hx)).1).trans (w.own.wle b x hx)
 ·exact @OwnT.same i.α i.rep _ _ _ _ _ _ (w.own.own k i hk) λb hb=>(own k i hk b hb).1
 rw[h1 b hb];exact w.lo b hb x hx
theorem Held.yf{P:View->Own->Prop}:oJ n (λX h=>∃Y o,Held n X Y h o/\P Y o):=
 ⟨λ⟨Y,o,w,_⟩=>w.asd.le,λ⟨Y,o,w,p⟩ h1 h2 h3 h4=>⟨Y,o,w.move h1 h2 h3 h4,p⟩⟩
theorem Held.ext(w:Held n X Y h o)(hle:(vw h).le (vw h')):Held n X (grow Y h h') h' o:=
 ⟨w.own.ext hle,⟨UF w.asd.le hle,w.asd.av⟩,Rt w.nl (bO hle),λb hb x hx=>by
  unfold grow at hx;rw[if_pos (Sc hb w.nl)]at hx;exact w.lo b hb x hx,λb hb x hx=>by
  unfold grow at hx;split at hx
  ·exact w.hi b hb x hx
  exact View.b8 w.asd.le U1⟩
theorem Held.ext'(w:Held n X Y h o)(hle:(vw h).le (vw h')):Held n X Y h' o:=
 ⟨w.own.ext' hle,⟨UF w.asd.le hle,w.asd.av⟩,Rt w.nl (bO hle),w.lo,w.hi⟩
theorem Held.sub{o':Own}(w:Held n X Y h o)(hs : ∀k i,o' k=UK i->o k=UK i):Held n X Y h o':=
 ⟨w.own.sub hs,⟨w.asd.le,λk i hk=>w.asd.av k i (hs k i hk)⟩,w.nl,w.lo,w.hi⟩
theorem Held.congr{o':Own}(w:Held n X Y h o)(he : ∀k,o' k=o k):Held n X Y h o':=w.sub λk i hk=>by rw[<-he];exact hk
theorem Held.gA{i:Item}{β:Type}[rb:Rep β]{e2:TypeId}{v':Value}{l':List β}(w:Held n X Y h o)(hk:o k=UK i)(o2:OwnT Y h' e2 v' l')(m:lA h h' i.v v'):Held n X Y h' (o.upd k (it e2 v' l')):=by
 obtain⟨m1,m2⟩:=m.view w.asd.le (w.asd.av k i hk);refine⟨w.own.gA hk o2 m,⟨m1,λj x hj=>?_⟩,Rt w.nl m.kept.size,w.lo,w.hi⟩;unfold Own.upd at hj;split at hj
 ·cases hj;exact m2
 exact w.asd.av j x hj
theorem Held.add{β:Type}[rb:Rep β]{e2:TypeId}{v':Value}{l':List β}(w:Held n X Y h o)(hk:o k = .none)(o2:OwnT Y h' e2 v' l')(hle:(vw h).le (vw h'))(hb : ∀b,v'.ownBlock=UK b->h.size<=b):Held n X Y h' (o.upd k (it e2 v' l')):=by
 refine⟨w.own.add hk o2 hle hb,⟨UF w.asd.le hle,λj x hj=>?_⟩,Rt w.nl (bO hle),w.lo,w.hi⟩;unfold Own.upd at hj;split at hj
 ·cases hj;exact λb hb'=>View.b8 w.asd.le (hb b hb')
 exact w.asd.av j x hj
theorem Held.pY{P:Program}{ty:TypeId}{us:List (Nat × Value)}{t ty2:TypeId}{α:Type}[Rep α]{m:Nat}{z u:Value}{d:α}{x y:Operand}{us2:Value->List (Nat × Value)}{K:Value->Heap->Prop}(w:Held n X Y h o)(hk:o k=UL)(hr:Rd Y u d)(hN:Rep.n α=m)(hz:(P.info? t).map (·.zero)=UK (UK z))(hzc:z.cells.size=m)(hsz:cU P t=UK m)(hn:m<=1000)(hx : ∀p,asg (us2 p) x=p)(hy : ∀p,asg (us2 p) y=u)(hK : ∀h':Heap,(vw h).le (vw h')->Held n X Y h' (o.upd k (bx t h.size d))->K (ptz h.size) h'):
  @step po P (.alloc t) ty us h λp h2=>@step po2 P (.store t x y) ty2 (us2 p) h2 λ_ h3=>K p h3:=by subst hN;obtain⟨c1,c2,c3⟩:=fH hr;exact fO (v:=u) hz hzc hsz (by simpa using c2) c3 hx hy λh' hle hs hb=>hK h' hle (w.add hk (iu (d:=d) hb hr hn) hle λb hb=>by simp only[Value.ownBlock,Q2]at hb;omega)
theorem Held.db{P:Program}{ty:TypeId}{us:List (Nat × Value)}{α β:Type}[r:Rep α][Rep β]{e:TypeId}{off:Nat}{g:α->β}{s:α->β->α}(p:Part α β off g s){t:TypeId}{x y:Operand}{B:Nat}{D:α}{u:Value}{d:β}{K:Value->Heap->Prop}(w:Held n X Y h o)(hk:o k=bx e B D)(hsz:cU P t=UK (Rep.n β))(hx:asg us x = UN (UK ⟨B,off,.none⟩))(hy:asg us y=u)(hr:Rd Y u d)(hK : ∀h',Held n X Y h' (o.upd k (bx e B (s D d)))->K undef h'):@step po P (.store t x y) ty us h K:=
 Co (po:=po) p (v:=UM (UK ⟨B,0,.none⟩) 1 1) (l:=[D]) (i:=0) hsz (by rw[hx];simp[slA,Addr.z]) hy (w.own.get (k:=k) (v:=UM (UK ⟨B,0,.none⟩) 1 1) (l:=[D]) hk) U2 hr λh' hs o2 m=>hK h' (w.gA hk o2 m)
theorem Held.bG{P:Program}{ty:TypeId}{us:List (Nat × Value)}{α:Type}[r:Rep α]{e:TypeId}{v:Value}{l:List α}{t:TypeId}{x y:Operand}{i:Nat}{u:Value}{d:α}{K:Value->Heap->Prop}(w:Held n X Y h o)(hk:o k=it e v l)(hsz:cU P t=UK (Rep.n α))(hx:asg us x = UN (UK ((slA v).add (i*Rep.n α))))(hy:asg us y=u)(hi:i<l.length)(hr:Rd Y u d)(hK : ∀h',Held n X Y h' (o.upd k (it e v (l.set i d)))->K undef h'):@step po P (.store t x y) ty us h K:=
 tT (po:=po) hsz hx hy (w.own.get hk) hi hr λh' o2 m=>hK h' (w.gA hk o2 m)
theorem Held.gy{P:Program}{ty:TypeId}{us:List (Nat × Value)}{α:Type}[r:Rep α]{e:TypeId}{v:Value}{l:List α}{t ty2:TypeId}{bytes:Nat}{z:Value}{x y y2:Operand}{us2:Value->List (Nat × Value)}{u:Value}{d:α}{K:Value->Value->Heap->Prop}(w:Held n X Y h o)(hk:o k=it e v l)(hT:eF P t e (Rep.n α) bytes z)(hx:asg us x=u)(hr:Rd Y u d)(hb:(l.length+1)*bytes<=140737488355328)(hb2:l.length+1<=140737488355328)(hy : ∀u,asg (us2 u) y=v)(hy2 : ∀u,asg (us2 u) y2=u)(hK : ∀u v' h',Held n X Y h' (o.upd k (it e v' (l++[d])))->K u v' h'):
  @step po P (.buildSlice t 1 #[(0,x)]) ty us h λu h2=>@step po2 P (.call ⟨.builtin .append,#[y,y2],#[t,t]⟩) ty2 (us2 u) h2 λv' h3=>K u v' h3:=by refine mC (po:=po) hT hx hr λu h2 hs hle hsz=>?_;have w2:=w.ext' hle;exact Lft.dA hT (hy u) (hy2 u) (w2.own.get hk) hs hb hb2 λv' h' o2 m=>hK u v' h' (w2.gA hk o2 m)
end
theorem nC.bT{n:Nat}{h h':Heap}(hs:nC n h h'):(vw h).bT.le (vw h'):=λb o hb=>by
 have h1:=View.mB _ _ hb;have h1:h[b]? = UK o:=h1;show h'[b]? = UK o;rw[hs.same b (.inr λe=>?_)]
 ·exact h1
 rw[h1]at e;cases e;unfold View.bT at hb;have e2:(vw h) b=UK (.deferred (UK [])):=h1;rw[e2]at hb;cases hb
theorem Owns.ldB{W:View}{h:Heap}{o:Own}{k:Key}{α:Type}[r:Rep α]{e:TypeId}{B:Nat}{d:α}(w:Owns W h o)(hk:o k=bx e B d)(ha:Rep.agg α=UO){N:Nat}(hn:Rep.n α=N): ∃u,Un.ev (vw h) (.bM N) (ptz B)=UK u/\Rd W u d:=by
 subst hn;obtain⟨cs,h1,h2⟩:=w.atW hk;have hl:=Rep.len h2;refine⟨.agg cs.toArray,?_,?_⟩
 ·have:=fP h1 (Rep.n α) 0 #[] U1;simp only[Un.ev,vP,RD];rw[this];simp[<-hl]
 unfold Rd;rw[if_pos ha];exact⟨_,rfl,by simpa using h2⟩
end
variable{po po2:OP}{pp:PP}
def Lies(X:View)(e:TypeId)(m:Nat)(H:View)(v:Value)(n:Nat):Prop:=
 n=0\/∃B c cur,v = UM (UK ⟨B,0,UL⟩) n c/\X B=UL/\H B=UK (.cells cur e (0,0))/\n*m<=cur.size
theorem Lies.mono{X:View}{e:TypeId}{m:Nat}{H K:View}{v:Value}{n:Nat}(hk:H.le K)(h:Lies X e m H v n):Lies X e m K v n:=by
 rcases h with h | ⟨B,c,cur,h1,h2,h3,h4⟩
 ·exact .inl h
 exact .inr ⟨B,c,cur,h1,h2,hk _ _ h3,h4⟩
theorem Lies.bT{X:View}{e:TypeId}{m:Nat}{H:View}{v:Value}{n:Nat}(h:Lies X e m H v n):Lies X e m H.bT v n:=by
 rcases h with h | ⟨B,c,cur,h1,h2,h3,h4⟩
 ·exact .inl h
 exact .inr ⟨B,c,cur,h1,h2,View.xS h3,h4⟩
def NRow(X:View)(e:TypeId)(α:Type):=List α
instance nrowRep{X:View}{e:TypeId}{α:Type}[r:Rep α]:Rep (NRow X e α) where
 n:=1
 agg:=false
 rd:=λH cs l=>∃v,cs=[v]/\SlRd (α:=α) H v l/\Lies X e (Rep.n α) H v (List.length (α:=α) l)
 mono:=λhk ⟨v,h1,h2,h3⟩=>⟨v,h1,h2.mono hk,h3.mono hk⟩
 len:=λ⟨v,h,_⟩=>by rw[h];rfl
 one:=λ_=>rfl
 flat:=λ⟨v,h,h2,_⟩ u hu=>by
  obtain⟨a,cap,h2,_⟩:=h2
  rw[h]at hu;simp at hu;subst hu;rw[h2];rfl
 pos:=TG
 bT:=λ⟨v,h1,h2,h3⟩=>⟨v,h1,dD.1 (dD.2 h2).bT,h3.bT⟩
theorem jN{X:View}{e:TypeId}{α:Type}[r:Rep α]{H:View}{v:Value}{l:NRow X e α}:Rd H v l↔SlRd (α:=α) H v l/\Lies X e (Rep.n α) H v (List.length (α:=α) l):=by simp[Rd,Rep.agg,Rep.rd]
theorem sf{X W:View}{e:TypeId}{α:Type}[Rep α]:Rd (α:=NRow X e α) W (UM UL 0 0) ([]):=jN.2 ⟨aS,.inl rfl⟩
structure RLe{α:Type}(r s:Rep α):Prop where
 n:r.n=s.n
 agg:r.agg=s.agg
 rd : ∀{H cs d},r.rd H cs d->s.rd H cs d
theorem RLe.refl{α:Type}{r:Rep α}:RLe r r:=⟨rfl,rfl,λh=>h⟩
theorem RLe.at{α:Type}{r s:Rep α}(q:RLe r s){H:View}{a:Addr}{d:α}(h:@At α r H a d):@At α s H a d:=let ⟨cs,h1,h2⟩:=h;⟨cs,h1,q.rd h2⟩
theorem RLe.sl{α:Type}{r s:Rep α}(q:RLe r s){H:View}{v:Value}{l:List α}(h:@SlRd α r H v l):@SlRd α s H v l:=by
 obtain⟨a,cap,h1,h2,h3,h4⟩:=h;refine⟨a,cap,h1,h2,h3,?_⟩;rcases h4 with h4 | ⟨ad,h5,h6,h7⟩
 ·exact .inl h4
 exact .inr ⟨ad,h5,h6,λi hi=>q.n▸q.at (h7 i hi)⟩
theorem RLe.go{α:Type}{r s:Rep α}(q:RLe r s){H:View}{v:Value}{d:α}(h:@Rd α r H v d):@Rd α s H v d:=by
 unfold Rd at *;have e:=q.agg;by_cases c:s.agg=UO
 ·rw[if_pos (e.trans c)]at h;rw[if_pos c];obtain⟨cs,h1,h2⟩:=h;exact⟨cs,h1,q.rd h2⟩
 rw[if_neg (λk=>c (e.symm.trans k))]at h;rw[if_neg c];exact q.rd h
theorem RLe.row{X:View}{e:TypeId}{α:Type}{r s:Rep α}(q:RLe r s):@RLe (List α) (@nrowRep X e α r) (@instRepList α s):=
 ⟨rfl,rfl,λ⟨v,h1,h2,_⟩=>⟨v,h1,q.sl h2⟩⟩
theorem RLe.cat{α β:Type}{r r':Rep α}{s s':Rep β}(q:RLe r r')(k:RLe s s'):RLe (@instRepCat α β r s) (@instRepCat α β r' s'):=
 ⟨by show r.n+s.n=r'.n+s'.n;rw[q.n,k.n],rfl,λ⟨c1,c2,h1,h2,h3⟩=>⟨c1,c2,h1,q.rd h2,k.rd h3⟩⟩
theorem RLe.via{α γ:Type}{r s:Rep α}(f:γ->α)(q:RLe r s):RLe (@Rep.via α γ r f) (@Rep.via α γ s f):=⟨q.n,q.agg,λh=>q.rd h⟩
theorem OwnT.lies{W:View}{h:Heap}{e:TypeId}{α:Type}[r:Rep α]{v:Value}{l:List α}{X H:View}(w:OwnT W h e v l)(hX : ∀b,v.ownBlock=UK b->X b=UL)(hH : ∀b,v.ownBlock=UK b->H b=h[b]?):Lies X e (Rep.n α) H v l.length:=by
 obtain⟨bd,xs,⟨hx,hown⟩,hel⟩:=w;rcases hown with⟨rfl,hn⟩ | ⟨g,cap,cur,rfl,h1,h2,h3,h4,h5⟩
 ·exact .inl hn
 refine .inr ⟨g,cap,cur,rfl,hX g rfl,(hH g rfl).trans h1,?_⟩;rw[h4];exact RC _ h2
theorem Mine.row{X W:View}{h0 h:Heap}{e:TypeId}{α:Type}[r:Rep α]{v:Value}{l:List α}(m:Mine nothing h0 h W e v l)(hX:X.le (vw h0)):Rd (α:=NRow X e α) (grow nothing h0 h) v l:=by
 have hb : ∀b,v.ownBlock=UK b->h0.size<=b:=λb hb=>by
  have:=m.av0 b hb;rcases Ri b h0.size with c | c
  ·have e:h0[b]? = UK h0[b]:=RA c;rw[show vw h0 b=h0[b]? from rfl,e]at this;cases this
  exact c
 refine jN.2 ⟨m.result,m.own.lies (λb q=>View.b8 hX (hb b q)) λb q=>?_⟩;unfold grow;rw[if_neg (Us.2 (hb b q))]
theorem Owns.Cb{W:View}{h:Heap}{o:Own}{k:Key}{α:Type}[r:Rep α]{e:TypeId}{v:Value}{l:List α}(w:Owns W h o)(hk:o k=it e v l):Owns (W.plus v h) h (o.upd k .none)/\Rd (α:=NRow nothing e α) (W.plus v h) v l:=by obtain⟨w2,s⟩:=w.freeze hk;exact⟨w2,jN.2 ⟨s,(w.get hk).lies (λ_ _=>rfl) λb hb=>by unfold View.plus;rw[if_pos hb]⟩⟩
end Go.Lft
namespace Go.Lft
theorem Jd{po:OP}{P:Program}{t e rt ty:TypeId}{us:List (Nat × Value)}{h:Heap}{K:Value->Heap->Prop}{a b c d:Int}{ki:IntKind}{x y:Operand}(hu:P.underlying t=UK (.struct (P.fieldsOf t)))(hp:P.stoodInHeld t=UP)
  (hfs : (P.fieldsOf t).toList.map (fun f => (decide (f.name = "_"), f.type, f.offset)) = [(UP, e, 0), (UP, e, 1)]) (he : P.underlying e = UK (.int ki)) (ha : nO P e = UK UP) (hgd : P.eqGuardType P.depth t = UP)
  (hx:asg us x = .agg #[.int ki a,.int ki b]) (hy:asg us y = .agg #[.int ki c,.int ki d]) (hk:K (.bool (!(a == c&&b == d))) h):@step po P (.binOp .neq t x y rt) ty us h K:=by
 refine df (cB λw hw=>⟨_,w,?_,Same.refl _,by rw[hw];exact hk⟩);have e1:(Op.equal t (.agg #[.int ki a,.int ki b]) (.agg #[.int ki c,.int ki d])).run P w = .ok (a == c&&b == d) w:=by
  show(Op.equalIn (9999+1) t _ _).run P w=_;rw[run_equalIn_struct w 9999 t _ _ hu hp];generalize (P.fieldsOf t).toList=L at hfs;have p0 : ∀{x y:Int},(Go.part e #[.int ki x,.int ki y] 0).run P w = .ok (.int ki x) w:=sJ ha rfl;have p1 : ∀{x y:Int},(Go.part e #[.int ki x,.int ki y] 1).run P w = .ok (.int ki y) w:=sJ ha rfl;rcases L with _ | ⟨f,_ | ⟨g,_ | ⟨f3,L⟩⟩⟩
  ·cases hfs
  ·simp at hfs
  ·simp only[Sn,List.map_nil,Uv,SF,decide_eq_false_iff_not,and_true]at hfs;obtain⟨⟨n1,t1,o1⟩,n2,t2,o2⟩:=hfs;simp[Op.eqFields,n1,n2,t1,t2,o1,o2,p0,p1,zB he];by_cases h1:a=c<;>by_cases h2:b=d<;>simp[h1,h2]
  simp at hfs
 simp only[bL,execOp,hx,hy];simp[eqGuard,binOp,e1,program,Sem.run,hgd]
variable{pp:PP}{P:Program}{Q:Post}{ρ:Env}{h:Heap}{kl:List Nat}{c:Nat}{e:E}{a b x:LC}
theorem dC{i:Nat}(hx:x.wp P (dT i Q) ρ h):LC.wp P (.block i x) Q ρ h:=hx
theorem I2{v:Value}(hk:ρ.all (λp=>!kl.contains p.1&&!(p.1 == c))=UO):cJ (setE (cJ ρ kl) c v) [c]=ρ:=by have h:=RS.1 hk;simp only[Q9,Sr,beq_eq_false_iff_ne,ne_eq]at h;have h1:cJ ρ kl=ρ:=nE λp hp=>(h p hp).1;rw[h1];exact nu λp hp=>(h p hp).2
theorem De(v:Bool)(hk:ρ.all (λp=>!kl.contains p.1&&!(p.1 == c))=UO)(he:ev (look ρ) (vw h) e=UK (.bool v))(hx:LC.wp P (bif v then a else b) Q ρ h) :
  LC.wp P (.seq (.reg UP (.fin kl [(c,e)] [])) (.cond (.tmp c) [c] a b)) Q ρ h:=by
 rw[uV,mX];refine⟨[(c,.bool v)],?_,trivial,?_⟩
 ·simp only[part];simp[evP,he]
 simp only[dE,fJ];rw[nB];have hl:ev (look (setE (cJ ρ kl) c (.bool v))) (vw h) (.tmp c)=UK (.bool v):=by simp[af]
 rw[hl,I2 hk];cases v
 ·simpa using hx
 simpa using hx
theorem j0(hk:ρ.all (λp=>!kl.contains p.1&&!(p.1 == c))=UO)(he:ev (look ρ) (vw h) e=UK (.bool UO))(hx:LC.wp P a Q ρ h) :
  LC.wp P (.seq (.reg UP (.fin kl [(c,e)] [])) (.cond (.tmp c) [c] a b)) Q ρ h:=De UO hk he hx
theorem jX(hk:ρ.all (λp=>!kl.contains p.1&&!(p.1 == c))=UO)(he:ev (look ρ) (vw h) e=UK (.bool UP))(hx:LC.wp P b Q ρ h) :
  LC.wp P (.seq (.reg UP (.fin kl [(c,e)] [])) (.cond (.tmp c) [c] a b)) Q ρ h:=De UP hk he hx
end Go.Lft
namespace Go.Lft
variable{pp:PP}{P:Program}{Q:Post}{ρ:Env}{h:Heap}{kl:List Nat}{c:Nat}{e:E}{a b x:LC}
def Slk(ρ:Env)(l:List (Nat × Value)):Prop:=∀p∈l,look ρ p.1=UK p.2
theorem ij{p:Nat × Value}{l:List (Nat × Value)}:Slk ρ (p::l)↔look ρ p.1=UK p.2/\Slk ρ l:=by unfold Slk;simp
theorem jR:Slk ρ []↔True:=by unfold Slk;simp
end Go.Lft
namespace Go.Lft
variable{pp:PP}{P:Program}{Q:Post}{ρ:Env}{h:Heap}{kl:List Nat}{c:Nat}{e:E}{a b x:LC}
end Go.Lft
namespace Go.Lft
def oneO{α:Type}[Rep α](k:Key)(e:TypeId)(v:Value)(l:List α):Own:=λq=>if q=k then it e v l else UL
section
variable{po po2:OP}{α:Type}[Rep α]{W:View}{h:Heap}{k:Key}{e:TypeId}{v:Value}{l:List α}{P:Program}{ty:TypeId}{us:List (Nat × Value)}
theorem pJ:oneO k e v l k=it e v l:=by unfold oneO;rw[if_pos rfl]
theorem C1{v':Value}{l':List α}:(oneO k e v l).upd k (it e v' l')=oneO k e v' l':=by
 funext q;show(if q=k then it e v' l' else(if q=k then it e v l else UL))=if q=k then it e v' l' else UL;by_cases c:q=k
 ·rw[if_pos c,if_pos c]
 rw[if_neg c,if_neg c,if_neg c]
theorem OwnT.src(o:OwnT W h e v l):SrcT (vw h) W v l:=by
 obtain⟨hbd,xs,⟨hx,hown⟩,hel⟩:=o;rcases hown with⟨rfl,hn⟩ | ⟨g,cap,cur,rfl,hg,h1,h2,h3,h4⟩
 ·have:l=[]:=Ry hn;subst this;exact⟨UL,0,rfl,λ_=>rfl,[],U2,(λ_ e=>nomatch e),λi hi=>absurd hi (Ux _)⟩
 refine⟨UK ⟨g,0,UL⟩,cap,rfl,λe=>(by cases e),xs,hx,λad ea j x hj=>?_,hel⟩;cases ea;rw[bC rfl];rw[<-h4,St]at hj;split at hj
 ·have:=dg (H:=vw h) (c:=cur) (o:=j) (v:=x) hg (by simpa using hj);simpa using this
 cases hj
theorem Owns.Kv{t ty2:TypeId}{bytes:Nat}{z u:Value}{x y y2:Operand}{d:α}{us2:Value->List (Nat × Value)}{K:Value->Value->Heap->Prop}(w:Owns W h (oneO k e v l))(hT:eF P t e (Rep.n α) bytes z)(hn:Rep.n α<=1000)(hx:asg us x=u)(hr:Rd W u d)(hb:(1+l.length)*bytes<=140737488355328)(hb2:1+l.length<=140737488355328)(hy : ∀u,asg (us2 u) y=u)(hy2 : ∀u,asg (us2 u) y2=v)
  (hK : ∀u v' h' k',Owns W h' (oneO k' e v' (d::l))->(vw h).le (vw h')->K u v' h') :
  @step po P (.buildSlice t 1 #[(0,x)]) ty us h λu h2=>@step po2 P (.call ⟨.builtin .append,#[y,y2],#[t,t]⟩) ty2 (us2 u) h2 λv' h3=>K u v' h3:=by
 obtain⟨k2,hk2⟩ : ∃k2:Key,k2≠k:=⟨(k.1+1,0),by rintro e;have:=congrArg Prod.fst e;simp at this⟩;have hk0:oneO k e v l k2=none:=by unfold oneO;rw[if_neg hk2]
 refine Hf hT hx hr hn λh1 hle1 own1=>?_;have w1:=w.add (k:=k2) hk0 own1 hle1 (λb hb=>by simp only[Value.ownBlock,Q2]at hb;omega);have hkk:((oneO k e v l).upd k2 (it e (UM (UK ⟨h.size,0,UL⟩) 1 1) [d])) k=it e v l:=by rw[Own.aB hk2.symm,pJ]
 refine w1.dA (k:=k2) (v:=UM (UK ⟨h.size,0,UL⟩) 1 1) (l:=[d]) (l2:=l) Own.ao hT (hy _) (hy2 _) (w1.get hkk).src (by simpa using hb) (by simpa using hb2) λv' h2 w2 m2=>?_;refine hK _ v' h2 k2 (w2.sub λj i hj=>?_) λb o hb=>?_
 ·unfold oneO at hj;split at hj
  ·rename_i e;subst e;rw[Own.ao];exact hj
  cases hj
 have hlt:=View.lt (View.le_refl (vw h)) hb;have h1b:=hle1 b o hb;have hlt1:=View.lt (View.le_refl (vw h1)) h1b;have:=m2.kept.block b hlt1 (by simp[Value.ownBlock];omega);show h2[b]? = UK o;rw[this];exact h1b
end
def x16(x:Int):Nat:=(BitVec.ofInt 64 x&&& BitVec.ofInt 64 65535).toNat
theorem Kg{x:Int}:Bn.ev (.bits .and) (UH UI x) (UH UI 65535)=UK (UH UI (x16 x))/\x16 x<65536:=by
 have hlt:x16 x<=65535:=by unfold x16;rw[BitVec.toNat_and];exact Rt Nat.and_le_right U3
 refine⟨?_,by omega⟩;have e:Bn.ev (.bits .and) (UH UI x) (UH UI 65535)=UK (UH UI (IntKind.i64.wrap (x16 x))):=rfl;rw[e,bc U1 U1]
def tX(s:List Int)(i:Nat):Nat:=if i+1<s.length then x16 (nth s (i+1)) else 0
theorem PF{s:List Int}{i:Nat}:tX s i<65536:=by
 unfold tX;split
 ·exact Kg.2
 omega
def ry(s:List Int):Bool:=decide (0<s.length)&&decide ((nth s 0).tmod 4=1)
def tabT(s:List Int)(i:Nat):aO:=⟨(i:Int)+1,if tX s i % 3=1 then((tX s i / 3 % 12:Nat):Int) else nth dX i⟩
def ia(s:List Int)(i:Nat)(l:List aO):List aO:=
 if ry s&&decide (tX s i % 9=3) then l
 else if tX s i % 5=2 then(if tX s i % 2=1 then tabT s i::l else l++[tabT s i])++[⟨(i:Int)+1,((tX s i % 7:Nat):Int)⟩]
 else if tX s i % 2=1 then tabT s i::l else l++[tabT s i]
def tabS(s:List Int):List aO:=Lft.up (ia s) 37 []
theorem Eh{s:List Int}{i:Nat}{l:List aO}:(ia s i l).length<=l.length+2:=by
 unfold ia;split
 ·omega
 split
 ·split<;>simp
 split<;>simp
theorem BO{s:List Int} : ∀{n:Nat},(Lft.up (ia s) n []).length<=2*n
 | 0=>Q4 _
 | n+1=>by have:=BO (s:=s) (n:=n);have:=Eh (s:=s) (i:=n) (l:=Lft.up (ia s) n []);simp only[Lft.up];omega
theorem Kj{H:View}:Rd H (.agg (dX.map λc=>UH UI c).toArray) (RawN.mk (n:=36) (dX.map λc=>UH UI c)):=
 sD (by simp;rfl) (λc hc=>by obtain⟨x,_,rfl⟩:=Sf.1 hc;rfl)
theorem Fq{H:View}{C k:Nat}(a:At H ⟨C,0,UL⟩ (RawN.mk (n:=36) (dX.map λc=>UH UI c)))(hk:k<37):an H ⟨C,k,UL⟩=UK (UH UI (nth dX k)):=by have:=(a.part (RawN.p (o:=k) U1)).raw;have hl:dX.length=37:=rfl;rw[bC rfl]at this;simp[SW,SH,RK (show k<dX.length by omega)]at this;rw[this,aC U1]
set_option maxHeartbeats 2000000 in
theorem Iy{s:List Int}{vs:Value}{h:Heap}(hs:SlRd (vw h) vs s):ay UQ 13 #[vs] h (λu h'=>(vw h).le (vw h')/\SlRd (grow nothing h h') u (tabS s)):=by
 refine aq (args:=[vs]) follows Tryz.func13 E.eD UC λK hK=>?_;dsimp only[L.eD,lkF,lkG];have w0:=Owns.start (h:=h) (View.le_refl (vw h));refine aa λz hz=>?_;simp;subst hz;refine aa λz hz=>?_;simp;refine w0.mg (k:=(0,0)) (α:=aO) rfl El.jY λv1 h1 hle1 hv1 w1 _=>?_;have w1:Owns (vw h) h1 (oneO (0,0) T.fE v1 ([]:List aO)):=w1.sub λq i hq=>by
  unfold oneO at hq;split at hq
  ·rename_i e;subst e;rw[Own.ao];exact hq
  cases hq
 subst hz;refine aa λz hz=>?_;simp;refine ah U0 K0 ?_;rintro _ h2 ⟨hle2,rfl⟩;have w2:=w1.ext' hle2;have o2:oneO (0,0) T.fE v1 ([]:List aO) (1,0)=none:=by unfold oneO;rw[if_neg U3]
 refine w2.pY (k:=(1,0)) o2 Kj (n:=37) rfl (z:=.agg (List.replicate 37 (UH UI 0)).toArray) U0 U0 U0 U3 U5 U5 λh3 hle3 w3=>?_;generalize h2.size=C at w3;obtain⟨W,hW,w4,atC⟩:=w3.jT (k:=(1,0)) Own.ao;have w4:Owns W h3 (oneO (0,0) T.fE v1 ([]:List aO)):=w4.sub λq i hq=>by
  by_cases e:q=(1,0)
  ·subst e;rw[o2]at hq;cases hq
  rw[Own.aB e,Own.aB e];exact hq
 have sW:=hs.mono hW;clear w0 w1 w2 w3 hle1 hle2 hle3;subst hz;refine aa λz hz=>?_;have hd : ∀ρ:Nat->Option Value,ρ 0=UK vs->ev ρ (vw h3) (E.ite (E.bin (Bn.cmp BinOp.gtr) (E.un Un.len (E.tmp 0)) (E.con (UH IntKind.i64 0))) (E.bin (Bn.cmp BinOp.eql) (E.bin (Bn.div BinOp.rem) (E.un Un.load (E.bin (Bn.idx 1) (E.tmp 0) (E.con (UH IntKind.i64 0)))) (E.con (UH IntKind.i64 4))) (E.con (UH IntKind.i64 1))) (E.con (Value.bool UP)))=UK (.bool (ry s)):=by
  intro ρ hρ;have s3:=sW.mono w4.wle;by_cases c:0<s.length
  ·have q:=s3.idxn (k:=.i64) (N:=1) rfl (i:=(0:Int)) U1 U1;have p:=s3.int UE (i:=0) c;simp at p q;simp[hρ,s3.len,q,p,ry,c]
  simp[hρ,s3.len,ry,c]
 simp[hd];subst hz;refine aa λz hz=>?_;simp;refine cL [0,3,4,5,6] (fun(tv:Value) k=>[vs,tv,ptz C,.bool (ry s),UH UI k]) (λtv k h=>∃Wk key,W.le Wk/\Owns Wk h (oneO key T.fE tv (Lft.up (ia s) k []))) 37 v1
  rfl U1 rfl ⟨W,(0,0),View.le_refl _,w4⟩ (λ_ _=>rfl) (λv i h1 hk m=>by simp) ?_ ?_
 ·rintro tv k h4 hk ⟨Wk,key,hWk,wk⟩ K2 hK2;have s4:=(sW.mono hWk).mono wk.wle;have ew:IntKind.i64.wrap ((k:Int)+1)=(k:Int)+1:=bc U1 U1;refine aa λy hy=>?_;simp;subst hy;refine aa λy hy=>?_;refine gC (λρ h'=>h'=h4/\ρ=[(0,vs),(3,tv),(4,ptz C),(5,.bool (ry s)),(6,UH UI k),(7,UH UI (tX s k))]) ?_ ?_
  ·intro K3 hK3;by_cases c:k+1<s.length
   ·have q:=s4.idxn (k:=.i64) (N:=1) rfl (i:=(k:Int)+1) U1 U1;have p:=s4.int UE (i:=k+1) c;have et:((k:Int)+1).toNat=k+1:=by omega
    simp[et]at q;refine j0 U4 (by simp[s4.len,ew];omega) ?_;simp[ew,q,p,Kg.1];exact hK3 _ _ ⟨rfl,by unfold tX;rw[if_pos c]⟩
   refine jX U4 (by simp[s4.len,ew];omega) ?_;simp;exact hK3 _ _ ⟨rfl,by unfold tX;rw[if_neg c];rfl⟩
  rintro _ _ ⟨rfl,rfl⟩;have hx:=PF (s:=s) (i:=k);generalize hX:tX s k=x at hx;subst hy;refine aa λy hy=>?_;have t9:(x:Int).tmod 9=((x % 9:Nat):Int):=rfl;have t7:(x:Int).tmod 7=((x % 7:Nat):Int):=rfl;have t5:(x:Int).tmod 5=((x % 5:Nat):Int):=rfl;have t3:(x:Int).tmod 3=((x % 3:Nat):Int):=rfl;have t2:(x:Int).tmod 2=((x % 2:Nat):Int):=rfl;have d3:((x:Int).tdiv 3).tmod 12=((x / 3 % 12:Nat):Int):=rfl;have d12:(IntKind.i64.wrap ((x:Int) / 3)).tmod 12=(x:Int) / 3 % 12:=by rw[bc U1 U1];exact Int.tmod_eq_emod_of_nonneg U1
  obtain⟨l,hl⟩ : ∃l,l=Lft.up (ia s) k []:=⟨_,rfl⟩;have hup:Lft.up (ia s) (k+1) []=ia s k l:=by rw[hl];rfl
  have hll:l.length<=74:=by rw[hl];have:=BO (s:=s) (n:=k);omega
  rw[<-hl]at wk;by_cases cc:(ry s&&decide (x % 9=3))=UO
  ·have cc':ry s=UO/\x % 9=3:=by simpa using cc
   refine j0 U4 (by simp[t9,cc'.1];omega) ?_;simp;refine hK2 tv _ _ rfl rfl ⟨Wk,key,hWk,?_⟩;rw[hup];have:ia s k l=l:=by unfold ia;rw[hX,if_pos cc]
   rw[this];exact wk
  refine jX U4 (by simp[t9];intro e1 e2;exact cc (by rw[e1,Tl,decide_eq_true_eq];omega)) ?_;simp;subst hy;have hc:=xk _ (bF (l:=dX) (i:=k) (by show k<37;exact hk));have ax:Bn.ev (.aidx 37 1) (ptz C) (UH UI k)=UK (UN (UK ⟨C,k,UL⟩)):=by simp[Bn.ev,vP,vI];omega
  have cell:=Fq ((atC.mono hWk).mono wk.wle) hk;refine aa λy hy=>?_;simp[ew,ax,cell];refine aA (t:=T.fE) (z:=zz1) (places:=zpd) (vs:=[(0,UH UI ((k:Int)+1)),(1,UH UI (nth dX k))]) (cs:=#[UH UI ((k:Int)+1),UH UI (nth dX k)]) U0 U0 U2 U0 ?_;obtain⟨kt,hkt⟩ : ∃kt:Key,kt≠key:=⟨(key.1+1,0),by rintro e;have:=congrArg Prod.fst e;simp at this⟩;have ho:oneO key T.fE tv l kt=none:=by unfold oneO;rw[if_neg hkt]
  refine wk.pY (k:=kt) (α:=aO) (d:=⟨(k:Int)+1,nth dX k⟩) (u:=.agg #[UH UI ((k:Int)+1),UH UI (nth dX k)]) (n:=2) ho (CO (by constructor<;>omega) (by constructor<;>omega)) rfl (z:=zz1) U0 U0 U0 U3 U5 U5 λh5 hle5 w5=>?_;generalize Array.size _=B at w5;subst hy;refine aa λy hy=>?_;refine gC (λρ h'=>Owns Wk h' ((oneO key T.fE tv l).upd kt (bx T.fE B (tabT s k)))/\ρ=[(0,vs),(3,tv),(4,ptz C),(5,.bool (ry s)),(6,UH UI k),(7,UH UI x),(8,ptz B),(47,.agg #[UH UI ((k:Int)+1),UH UI (nth dX k)])]) ?_ ?_
  ·intro K3 hK3;by_cases c:x % 3=1
   ·refine j0 U4 (by simp[t3];omega) ?_;simp[d3];refine w5.db aO.BJ (k:=kt) (d:=((x / 3 % 12:Nat):Int)) Own.ao U0 U2 (by simp[d12]) (bw.2 ⟨rfl,by constructor<;>omega⟩) λh6 w6 _=>?_;rw[Own.fm]at w6;have et:tabT s k=⟨(k:Int)+1,((x / 3 % 12:Nat):Int)⟩:=by unfold tabT;rw[hX,if_pos c]
    exact hK3 _ _ ⟨by rw[et];exact w6,rfl⟩
   refine jX U4 (by simp[t3];omega) ?_;simp;have et:tabT s k=⟨(k:Int)+1,nth dX k⟩:=by unfold tabT;rw[hX,if_neg c]
   exact hK3 _ _ ⟨by rw[et];exact w5,rfl⟩
  rintro _ h6 ⟨w6,rfl⟩;obtain⟨W7,hW7,w7,atB⟩:=w6.jT (k:=kt) Own.ao;have w7:Owns W7 h6 (oneO key T.fE tv l):=w7.sub λq i hq=>by
   by_cases e:q=kt
   ·subst e;rw[ho]at hq;cases hq
   rw[Own.aB e,Own.aB e];exact hq
  subst hy;have rt:=atB;obtain⟨ut,hut,rut⟩:=atB.ldN rfl (N:=2) rfl;generalize htb:tabT s k=tb at rut;refine aa λy hy=>?_;refine gC (λρ h'=>∃(W8:View) (k8:Key) (tv8:Value),W7.le W8/\Owns W8 h' (oneO k8 T.fE tv8 (if x % 2=1 then tb::l else l++[tb]))/\∃a b c:Value,ρ=[(0,vs),(3,tv8),(4,ptz C),(5,.bool (ry s)),(6,UH UI k),(7,UH UI x),(8,ptz B),(47,.agg #[UH UI ((k:Int)+1),UH UI (nth dX k)]),(59,a),(61,b)]\/ρ=[(0,vs),(3,tv8),(4,ptz C),(5,.bool (ry s)),(6,UH UI k),(7,UH UI x),(8,ptz B),(47,.agg #[UH UI ((k:Int)+1),UH UI (nth dX k)]),(62,a),(64,b),(65,c)]) ?_ ?_
  ·intro K3 hK3;by_cases c:x % 2=1
   ·refine j0 U4 (by simp[t2];omega) ?_;simp[hut _ w7.wle];refine w7.Kv El.jY U3 U2 rut U1 U1 U5 U5 λu v' h8 k8 w8 hle8=>?_;exact hK3 _ _ ⟨W7,k8,v',View.le_refl _,by rw[if_pos c];exact w8,u,v',undef,.inl rfl⟩
   refine jX U4 (by simp[t2];omega) ?_;simp[hut _ w7.wle];refine w7.gy (k:=key) pJ El.jY U2 rut U1 U1 U5 U5 λu v' h8 w8 _=>?_;rw[C1]at w8;exact hK3 _ _ ⟨W7,key,v',View.le_refl _,by rw[if_neg c];exact w8,tv,u,v',.inr rfl⟩
  rintro ρ h8 ⟨W8,k8,tv8,hW8,w8,qa,qb,qc,hρ⟩;subst hy;have hl1:(if x % 2=1 then tb::l else l++[tb]).length<=75:=by split<;>simp<;>omega
  have hWend:W.le W8:=UF hWk (UF hW7 hW8);rcases hρ with rfl | rfl;all_goals
   by_cases c:x % 5=2
   ·refine j0 U4 (by simp[t5];omega) ?_
    simp[ew]
    refine aA (t:=T.fE) (z:=zz1) (places:=zpd) (vs:=[(0,UH UI ((k:Int)+1)),(1,UH UI ((x % 7:Nat):Int))]) (cs:=#[UH UI ((k:Int)+1),UH UI ((x % 7:Nat):Int)]) U0 U0 (by simp[t7]) U0 ?_
    refine w8.gy (k:=k8) (d:=(⟨(k:Int)+1,((x % 7:Nat):Int)⟩:aO)) pJ El.jY U2 (CO (by constructor<;>omega) (by constructor<;>omega)) U1 U1 U5 U5 λu v' h9 w9 _=>?_
    rw[C1]at w9
    simp
    have et:ia s k l=(if x % 2=1 then tb::l else l++[tb])++[⟨(k:Int)+1,((x % 7:Nat):Int)⟩]:=by unfold ia;rw[hX,if_neg cc,if_pos c,htb]
    exact hK2 v' _ _ rfl rfl ⟨W8,k8,hWend,by rw[hup,et];exact w9⟩
   ·refine jX U4 (by simp[t5];omega) ?_
    simp
    have et:ia s k l=(if x % 2=1 then tb::l else l++[tb]):=by unfold ia;rw[hX,if_neg cc,if_neg c,htb]
    exact hK2 tv8 _ _ rfl rfl ⟨W8,k8,hWend,by rw[hup,et];exact w8⟩
 rintro tv h4 ⟨Wk,key,hWk,wk⟩;simp;subst hz;simp;have l5:=UF hW hWk;have o5:=wk.get pJ;have o5:OwnT nothing _ T.fE _ _:=o5;refine hK _ _ ⟨UF l5 wk.wle,o5.rd (λb x hb=>by cases hb) λb hb=>?_⟩;have hn:=wk.av _ _ pJ b hb;unfold grow;rw[if_neg];intro hlt;have:=l5 b h[b] (RA hlt);rw[hn]at this;cases this
theorem Ee{s:List Int}{vs:Value}{h:Heap}(hs:SlRd (vw h) vs s):ay UQ 13 #[vs] h (λu h'=>(vw h).le (vw h')/\SlRd (vw h') u (tabS s)):=
 (Iy hs).mono λu h' ⟨h1,h2⟩=>⟨h1,h2.mono (kR (λb x hb=>by cases hb))⟩
section
variable{f:ak}{l l2:List aO}{p q:Int->Bool}
end
theorem Hn{s:List Int}:(tabS s).length<=74:=BO (n:=37)
variable{po po2:OP}
theorem KR{P:Program}{ty:TypeId}{us:List (Nat × Value)}{h:Heap}{t ty2:TypeId}{n:Nat}{z:Value}{x y:Operand}{us2:Value->List (Nat × Value)}{v:Value}{X:View}{K:Value->Heap->Prop}(hX:X.le (vw h))(hz:(P.info? t).map (·.zero)=UK (UK z))(hzc:z.cells.size=n)(hsz:cU P t=UK n)(hv:v.cells.size=n)
  (hone : ∀c∈v.cells.toList,c.oneCell'=UO) (hx : ∀p,asg (us2 p) x=p) (hy : ∀p,asg (us2 p) y=v) (hk : ∀h':Heap,(vw h).le (vw h')->h'.size=h.size+1->h'[h.size]? = UK (.cells v.cells t (0,0))->K (ptz h.size) h') :
  @step po P (.alloc t) ty us h λp h2=>X.le (vw h2)/\@step po2 P (.store t x y) ty2 (us2 p) h2 λ_ h3=>K p h3:=by
 refine dK hz ⟨UF hX (bQ h _),?_⟩;refine eh (g:=h.size) (o:=0) (n:=n) (v:=v) (cur:=z.cells) (e:=t) hsz (hx _) (hy _) hv hone U2 U1 λh' hs ⟨row,hrow,he⟩ hoth=>?_;have hrow2:row=v.cells:=by rw[<-Array.toList_inj,he];simp only[SV,RV,R1];rw[RN (by simp[hzc]),SI]
 rw[hrow2]at hrow;have hle:(vw h).le (vw h'):=λb o hb=>by have hlt:=View.lt (View.le_refl (vw h)) hb;show h'[b]? = _;rw[hoth b U1];exact bQ _ _ b o hb
 exact hk h' hle (by rw[hs];simp) hrow
theorem Cx.Cj{α:Type}[Rep α]{V W X:View}{h0 h:Heap}{o:Own}{P:Program}{ty:TypeId}{us:List (Nat × Value)}{t ty2:TypeId}{n:Nat}{z:Value}{x y:Operand}{us2:Value->List (Nat × Value)}{v:Value}{d:α}{K:Value->Heap->Prop}(c:Cx V h0 W h o)(hX:X.le W)(hv:Rd W v d)(hz:(P.info? t).map (·.zero)=UK (UK z))(hN:Rep.n α=n)(hzc:z.cells.size=n)(hsz:cU P t=UK n)
  (hx : ∀p,asg (us2 p) x=p) (hy : ∀p,asg (us2 p) y=v) (hk : ∀B h' W',W.le W'->Cx V h0 W' h' o->At W' ⟨B,0,UL⟩ d->(vw h).le (vw h')->K (ptz B) h') :
  @step po P (.alloc t) ty us h λp h2=>X.le (vw h2)/\@step po2 P (.store t x y) ty2 (us2 p) h2 λ_ h3=>K p h3:=by subst hN;obtain⟨c1,c2,c3⟩:=fH hv;refine KR (UF hX c.wle) hz hzc hsz c2 c3 hx hy λh1 hle hs hb=>?_;exact hk _ _ _ c.up (c.ext hle) (oR (by rw[bY (Q4 _)];exact hb) (hv.mono c.up)) hle
end Go.Lft
namespace Go.Lft
structure FitR where
 fit:FitD
 ok:Bool
 deriving Inhabited
instance:Rep FitR:=Rep.via λx=>Cat.mk x.fit x.ok
variable{po:OP}
end Go.Lft
namespace Go.Lft
instance:Inhabited I32:=⟨⟨0⟩⟩
section
variable{h:Heap}{A B:Nat}{a b:Int}{n:Nat}
end
section
variable{po:OP}{A B D k r:Nat}{h:Heap}{us:List (Nat × Value)}{ty:TypeId}{K:Value->Heap->Prop}{x y:Operand}
end
theorem Ei{v:Int}{w:Int × Int}{ns:List Int}: ∀{l:WL},(ns.foldl (cy v w) l).length=l.length+ns.count v:=by
 induction ns with
 | nil=>intro l;simp
 | cons n ns ih=>
  intro l;rw[RG,ih,Sw];unfold cy;by_cases c:n=v
  ·rw[if_pos c,if_pos (by simp[c])];simp;omega
  rw[if_neg c,if_neg (by simp[c])];omega
theorem H0{v:Int}{l:List Th}: ∀{y:WL},(l.foldl (tj v) y).length=y.length+(l.map λt=>t.tks.count v).sum:=by
 induction l with
 | nil=>intro y;simp
 | cons t l ih=>intro y;rw[RG,ih];unfold tj;rw[Ei,Sn,List.sum_cons];omega
theorem Eu{f:ak}{v:Int}(h:cI f v=UO):(kq v (aD f)).length=1:=by unfold cI jn at h;simp only[Q9]at h;have hb:=h.1;unfold mW at hb;simp at hb;exact hb.1.1.1.2
theorem O4{l:List Nat}{n:Nat}(h:n∈l):n<=l.sum:=by
 induction l with
 | nil=>cases h
 | cons a l ih=>
  rw[List.sum_cons];rcases Ru.1 h with rfl | h
  ·omega
  have:=ih h;omega
theorem nW{f:ak}{v:Int}(h:cI f v=UO){t:Th}(ht:t∈aD f):t.tks.count v<=1:=by have e:=Eu h;unfold kq at e;rw[H0]at e;have:=O4 (Sf.2 ⟨t,ht,rfl⟩:t.tks.count v∈(aD f).map λt=>t.tks.count v);simp at e;omega
theorem qe{f:ak}{v:Int}(h:cI f v=UO){t t':Th}(ht:t∈aD f)(ht':t'∈aD f)(hk:v∈t.tks)(hk':v∈t'.tks):t.blk=t'.blk/\t.place=t'.place:=by
 have e:=Eu h;have m1:(t.blk,t.place)∈kq v (aD f):=tY.2 (.inr ⟨t,ht,rfl,hk⟩);have m2:(t'.blk,t'.place)∈kq v (aD f):=tY.2 (.inr ⟨t',ht',rfl,hk'⟩);match hl:kq v (aD f),e with
 | [y],_=>rw[hl]at m1 m2;simp at m1 m2;have:=m1.trans m2.symm;exact⟨congrArg Prod.fst this,congrArg Prod.snd this⟩
theorem wL{f:ak}{v op:Int}(hf:(aJ f v op).2=UO){t:Th}(ht:t∈aD f)(hk:v∈t.tks){b:Nat}(hb:t.blk=b):
  ∃m:Nat,b<f.blocks.length/\m<(nth f.blocks b).ins.length/\(m:Int)<t.place/\nth (nth f.blocks b).ins m=(aJ f v op).1/\(aJ f v op).1.op≠16/\(aJ f v op).1.dst=v:=by
 obtain⟨m1,m2,m3,m4,m5⟩:=ff hf;obtain⟨b2,k2,hb2,hk2,e2⟩:=nP.1 m1;have hm:v∈(insT f b2 k2).mks:=by show v∈cO (nth (nth f.blocks b2).ins k2);rw[<-e2];unfold cO;rw[if_neg m5];split<;>simp[m4]
 obtain⟨q1,q2⟩:=lU m3 (dQ hb2 hk2) ht hm hk;have q1:(b2:Int)=t.blk:=q1;have q2:(k2:Int)<t.place:=q2;obtain rfl:b2=b:=by omega
 exact⟨k2,hb2,hk2,q2,e2.symm,m5,m4⟩
def C0(f:ak)(b:Nat)(i:Int)(u:Int)(P:InsD->Prop):Prop:=∃m:Nat,m<(nth f.blocks b).ins.length/\(m:Int)<i/\(nth (nth f.blocks b).ins m).op≠16/\(nth (nth f.blocks b).ins m).dst=u/\P (nth (nth f.blocks b).ins m)
structure lX(f:ak)(b:Nat)(i:Int)(own takes inner:List Int):Prop where
 fold : ∀u∈inner,cI f u=UO
 out : ∀u∈inner,u∉takes
 made : ∀u∈inner,C0 f b i u λ_=>True
 from_ : ∀v∈takes,v∈own\/∃u∈inner,C0 f b i u λx=>v∈x.args
 two:inner.length<=2
 inn : ∀u∈inner,u∈own\/∃w∈inner,C0 f b i w λx=>u∈x.args
 cnt : ∀v,cI f v=UO->takes.count v<=1
 len : ∃m:Nat,takes.length<=own.length+(nth (nth f.blocks b).ins m).args.length
theorem xn : ∀{l r:List Int},(∀v,l.count v<=r.count v)->l.length<=r.length
 | [],r,_=>SD _
 | a::l,r,h=>by
  have h1:=h a;rw[Tu]at h1;have hm:a∈r:=RU.1 U1;have ih:=xn (l:=l) (r:=r.erase a) λv=>by have h2:=h v;rw[List.count_erase];rw[Sw]at h2;split at h2<;>rename_i c<;>simp_all<;>omega
  rw[List.length_erase_of_mem hm]at ih;have:=List.length_pos_of_mem hm;simp only[RZ];omega
section
variable{f:ak}{b:Nat}{t:Th}{takes:List Int}
theorem eK(ht:t∈aD f)(h : ∀v,takes.count v<=t.tks.count v){i:Int}:lX f b i t.tks takes []:=
 ⟨λ_ h=>(nomatch h),λ_ h=>(nomatch h),λ_ h=>(nomatch h),λv hv=>.inl (RU.1 (Sc (RU.2 hv) (h v))),by simp,λ_ h=>(nomatch h),λv hf=>Rt (h v) (nW hf ht),0,Rt (xn h) (Uo _ _)⟩
theorem Dr{l:List Int}{a:Int}(h:a∈l.erase a):2<=l.count a:=by have h1:=RU.2 h;rw[List.count_erase_self]at h1;omega
theorem pg{a op:Int}(ht:t∈aD f)(hb:t.blk=b)(ha:a∈t.tks)(hf:(aJ f a op).2=UO)(hC : ∀v,takes.count v<=(t.tks.erase a).count v+(aJ f a op).1.args.count v):lX f b t.place t.tks takes [a]:=by
 have hT : ∀v∈takes,v∈t.tks.erase a\/v∈(aJ f a op).1.args:=λv hv=>by
  have h1:=RU.2 hv;have h2:=hC v;rcases Su ((t.tks.erase a).count v)with h | h
  ·exact .inr (RU.1 U1)
  exact .inl (RU.1 h)
 obtain⟨m,hb1,hm,hlt,e,h16,hd⟩:=wL hf ht ha hb;obtain⟨-,-,hfo,-,-⟩:=ff hf;refine⟨λu hu=>?_,λu hu hv=>?_,λu hu=>?_,λv hv=>?_,by simp,λu hu=>.inl (by rw[Q8.1 hu];exact ha),λv hv=>?_,m,?_⟩;rotate_left 4
 ·have h1:=hC v;have h2:=nW hv ht;have hx:(insT f b m).tks=(aJ f a op).1.args:=by show(nth (nth f.blocks b).ins m).args=_;rw[e]
  have h3:=nW hv (dQ hb1 hm);rw[hx]at h3;have h4:(t.tks.erase a).count v<=t.tks.count v:=List.erase_sublist.count_le _;rcases Su ((t.tks.erase a).count v)with h | h
  ·omega
  rcases Su ((aJ f a op).1.args.count v)with h5 | h5
  ·omega
  have:=qe hv ht (dQ hb1 hm) (RU.1 U1) (by rw[hx];exact RU.1 h5);have h2:t.place=(m:Int):=this.2;omega
 ·have h1:=xn (l:=takes) (r:=t.tks.erase a++(aJ f a op).1.args) λv=>by rw[List.count_append];exact hC v
  rw[Rl]at h1;have h2:=List.length_erase_le (a:=a) (l:=t.tks);rw[e];omega
 ·rw[Q8.1 hu];exact hfo
 ·rw[Q8.1 hu]at hv;rcases hT a hv with h | h
  ·have:=Dr h;have:=nW hfo ht;omega
  have:=qe hfo ht (dQ hb1 hm) ha (by show a∈(nth (nth f.blocks b).ins m).args;rw[e];exact h);have h2:t.place=(m:Int):=this.2;omega
 ·rw[Q8.1 hu];exact⟨m,hm,hlt,by rw[e];exact h16,by rw[e];exact hd,trivial⟩
 rcases hT v hv with h | h
 ·exact .inl (List.mem_of_mem_erase h)
 exact .inr ⟨a,by simp,m,hm,hlt,by rw[e];exact h16,by rw[e];exact hd,by rw[e];exact h⟩
theorem Ik{a c p op op2:Int}{r:List Int}(ht:t∈aD f)(hb:t.blk=b)(ha:a∈t.tks)(hf:(aJ f a op).2=UO)(hc:(aJ f c op2).2=UO)(hD:(aJ f a op).1.args=p::c::r)(hC : ∀v,takes.count v<=(t.tks.erase a).count v+[p].count v):lX f b t.place t.tks takes [a,c]:=by
 have hT : ∀v∈takes,v∈t.tks.erase a\/v=p:=λv hv=>by
  have h1:=RU.2 hv;have h2:=hC v;rcases Su ((t.tks.erase a).count v)with h | h
  ·exact .inr (Q8.1 (RU.1 U1))
  exact .inl (RU.1 h)
 obtain⟨m,hb1,hm,hlt,e,h16,hd⟩:=wL hf ht ha hb;have hx:(insT f b m).tks=p::c::r:=by show(nth (nth f.blocks b).ins m).args=_;rw[e,hD]
 have hcm:c∈(insT f b m).tks:=by rw[hx];simp
 obtain⟨m2,-,hm2,hlt2,e2,h162,hd2⟩:=wL hc (dQ hb1 hm) hcm (b:=b) rfl;have hlt2:(m2:Int)<m:=hlt2;obtain⟨-,-,hfo,-,-⟩:=ff hf;obtain⟨-,-,hfc,-,-⟩:=ff hc;have one:=pg (takes:=takes) ht hb ha hf (λv=>Rt (hC v) (T4 (by rw[hD,Sw,Sw];simp) _));have a2:C0 f b t.place c λ_=>True:=⟨m2,hm2,by omega,by rw[e2];exact h162,by rw[e2];exact hd2,trivial⟩;refine⟨λu hu=>?_,λu hu hv=>?_,λu hu=>?_,λv hv=>?_,by simp,λu hu=>?_,one.cnt,one.len⟩;rotate_left 4
 ·rcases Ru.1 hu with rfl | hu
  ·exact .inl ha
  rw[Q8.1 hu];exact .inr ⟨a,by simp,m,hm,hlt,by rw[e];exact h16,by rw[e];exact hd,by show c∈(nth (nth f.blocks b).ins m).args;rw[e,hD];simp⟩
 ·rcases Ru.1 hu with rfl | hu
  ·exact hfo
  rw[Q8.1 hu];exact hfc
 ·rcases Ru.1 hu with rfl | hu
  ·exact one.out u U2 hv
  rw[Q8.1 hu]at hv;rcases hT c hv with h | h
  ·have:=qe hfc ht (dQ hb1 hm) (List.mem_of_mem_erase h) hcm;have h2:t.place=(m:Int):=this.2;omega
  have h1:=nW hfc (dQ hb1 hm);rw[hx,<-h,Tu,Tu]at h1;omega
 ·rcases Ru.1 hu with rfl | hu
  ·exact one.made u U2
  rw[Q8.1 hu];exact a2
 rcases one.from_ v hv with h | ⟨u,hu,h⟩
 ·exact .inl h
 exact .inr ⟨u,by rw[Q8.1 hu];simp,h⟩
theorem rG{l:List Int}(h:2<=l.length): ∃r,l=nth l 0::nth l 1::r:=by
 match l,h with
 | a::b::r,_=>exact⟨r,rfl⟩
theorem Je{l:List Int}(h:1<=l.length):l=nth l 0::l.drop 1:=by
 match l,h with
 | a::r,_=>rfl
theorem Ib{a b:Int}{r:List Int}:a∈(a::b::r).erase b:=by
 by_cases c:a=b
 ·subst c;rw[T2];simp
 rw[List.erase_cons_tail (by simpa using c)];simp
theorem sO{i:InsD}{m lo hi sg:Int}{x:FitD}(ht:t∈aD f)(hb:t.blk=b)(hk:t.tks=i.args)(hl:2<=i.args.length)(h:immS f i m lo hi sg=UK x):lX f b t.place t.tks x.takes x.inner:=by
 unfold immS at h;split at h
 ·rename_i hc;cases h;unfold fh at hc;simp only[Q9]at hc;obtain⟨r,e⟩:=rG hl;refine pg ht hb (by rw[hk];exact bF U1) hc.1 λv=>Rt ?_ (Uo _ _);rw[hk];have:=Ib (a:=nth i.args 0) (b:=nth i.args 1) (r:=r);rw[<-e]at this;exact(List.singleton_sublist.2 this).count_le _
 cases h
theorem Bg{i:InsD}{temp op pl su:Int}{k:Nat}{x:FitD}(ht:t∈aD f)(hb:t.blk=b)(hk:t.tks=i.args)(hall : ∀i∈fg f,wE i)(hl:1<=i.args.length)(h:memS f i temp op pl su k=UK x):lX f b t.place t.tks x.takes x.inner:=by
 have e:=Je hl;have ha:nth i.args 0∈t.tks:=by rw[hk];exact bF U1
 have er:t.tks.erase (nth i.args 0)=i.args.drop 1:=by have q:(nth i.args 0::i.args.drop 1).erase (nth i.args 0)=i.args.drop 1:=T2 _ _;rw[<-e]at q;rw[hk];exact q
 have own : ∀v,(nth i.args 0::i.args.drop 1).count v<=t.tks.count v:=λv=>by rw[hk,<-e];exact Q4 _
 match k with
 | 0=>
  simp only[memS]at h;split at h
  ·cases h;exact eK ht own
  cases h
 | 1=>
  simp only[memS]at h;split at h
  ·rename_i hf;split at h
   ·rename_i hc;cases h;unfold fh at hc;simp only[Q9]at hc;obtain⟨m1,m2,-⟩:=ff hf;obtain⟨r,e2⟩:=rG ((hall _ m1).two U1);refine Ik ht hb ha hf hc.1.1 e2 λv=>?_;rw[er,Sw,Sw];simp
   cases h
  cases h
 | 2=>
  simp only[memS]at h;split at h
  ·rename_i hf;simp only[Q9]at hf;cases h;obtain⟨m1,m2,-⟩:=ff hf.1;have h2:=(hall _ m1).two U1;refine pg ht hb ha hf.1 λv=>?_;obtain⟨r,e2⟩:=rG h2;rw[er,e2,Sw,Sw,Sw,Sw];simp[nth];omega
  cases h
 | k+3=>simp only[memS]at h;cases h;exact eK ht own
end
set_option maxHeartbeats 4000000 in
theorem zk{s:cC}{pat:Int}{x:FitD}{b:Nat}{t:Th}(ht:t∈aD s.f)(hb:t.blk=b)(hk:t.tks=ownArgs s)(hok:mJ s)(hte:s.t.kind=2->s.t.args.length=1)(h:tryS s pat=UK x):lX s.f b t.place t.tks x.takes x.inner:=by
 have own : ∀v,(ownArgs s).count v<=t.tks.count v:=λv=>by rw[hk];exact Q4 _
 unfold tryS at h;unfold ownArgs at hk own;cases htm:s.term with
 | true=>
  rw[htm,if_pos rfl]at h;rw[htm,if_pos rfl]at hk own;have non : ∀v,([]:List Int).count v<=t.tks.count v:=λ_=>SD _;unfold iA at h;split at h
  ·cases h;exact eK ht non
  split at h
  ·cases h;exact eK ht own
  split at h
  ·cases h;exact eK ht non
  split at h
  ·cases h;exact eK ht own
  split at h
  ·rename_i c;split at h
   ·rename_i c2;cases h;have e:s.t.args=[nth s.t.args 0]:=by
     match hl:s.t.args,hte c.2 with
     | [a],_=>rfl
    have:=pg (takes:=(aJ s.f (nth s.t.args 0) (pat-23)).1.args) ht hb (by rw[hk];exact bF (by rw[hte c.2];omega)) c2 λv=>Nat.le_add_left _ _;rw[<-e]at this;exact this
   cases h
  split at h
  ·cases h;exact eK ht own
  cases h
 | false=>
  rw[htm,if_neg U2]at h;rw[htm,if_neg U2]at hk own;have non : ∀v,([]:List Int).count v<=t.tks.count v:=λ_=>SD _;unfold patS at h;split at h
  ·rename_i c;obtain⟨c1,c2,c3⟩:=c;have hp1:1<=pat.toNat/\pat.toNat<=32:=by omega
   generalize pat.toNat=p at *;have len2:16<=p->p<=22->2<=s.i.args.length:=by
    intro h2 h30;have hopr:2<=s.i.op/\s.i.op<=14:=by
     rw[c3];unfold opOf;repeat' split
     all_goals omega
    exact hok.one.two (.inl hopr)
   have len:16<=p->p<=30->1<=s.i.args.length:=by
    intro h2 h30;have hopr:(2<=s.i.op/\s.i.op<=14)\/s.i.op=16\/s.i.op=15:=by
     rw[c3];unfold opOf;repeat' split
     all_goals omega
    rcases hopr with q | q | q
    ·have:=hok.one.two (.inl q);omega
    ·have:=hok.one.two (.inr (.inl q));omega
    exact hok.one.one q
   unfold doS at h;by_cases p1:p=1
   ·rw[if_pos p1]at h;by_cases q:inR s.i.imm.v (-32768) 32767=UO
    ·rw[if_pos q]at h;cases h;exact eK ht non
    rw[if_neg q]at h;cases h
   rw[if_neg p1]at h;by_cases p2:p=2
   ·rw[if_pos p2]at h;cases h;exact eK ht non
   rw[if_neg p2]at h;by_cases p15:p<=15
   ·rw[if_pos p15]at h;cases h;exact eK ht own
   rw[if_neg p15]at h;by_cases p16:p=16
   ·rw[if_pos p16]at h;exact sO ht hb hk (len2 U1 U1) h
   rw[if_neg p16]at h;by_cases p17:p=17
   ·rw[if_pos p17]at h;exact sO ht hb hk (len2 U1 U1) h
   rw[if_neg p17]at h;by_cases p18:p=18
   ·rw[if_pos p18]at h;exact sO ht hb hk (len2 U1 U1) h
   rw[if_neg p18]at h;by_cases p21:p<=21
   ·rw[if_pos p21]at h;exact sO ht hb hk (len2 U1 U1) h
   rw[if_neg p21]at h;by_cases p22:p=22
   ·rw[if_pos p22]at h;by_cases q:(aJ s.f (nth s.i.args 0) 4).2=UO
    ·rw[if_pos q]at h;have l2:=len2 U1 U1;obtain⟨m1,m2,-⟩:=ff q;have l3:=(hok.all _ m1).two U1;cases h;refine pg ht hb (by rw[hk];exact bF U1) q λv=>?_;obtain⟨r,e⟩:=rG l2;obtain⟨r2,e2⟩:=rG l3;have w:(nth s.i.args 0::nth s.i.args 1::r).erase (nth s.i.args 0)=nth s.i.args 1::r:=T2 _ _;rw[<-e]at w;rw[hk,w,e2];simp only[Sw,nth];simp;omega
    rw[if_neg q]at h;cases h
   rw[if_neg p22]at h;by_cases p26:p<=26
   ·rw[if_pos p26]at h;exact Bg ht hb hk hok.all (len U1 U1) h
   rw[if_neg p26]at h;by_cases p30:p<=30
   ·rw[if_pos p30]at h;exact Bg ht hb hk hok.all (len U1 U1) h
   rw[if_neg p30]at h;by_cases p31:p=31
   ·rw[if_pos p31]at h;cases h;exact eK ht own
   rw[if_neg p31]at h;cases h;exact eK ht own
  cases h
theorem LI{f:ak}{b:Nat}(m:nQ f)(hb:b<f.blocks.length)(hk:(nth f.blocks b).term.kind=2):(nth f.blocks b).term.args.length=1:=by have h:=(m.endG hb).1;generalize (nth f.blocks b).term=t at *;unfold xy at h;rw[if_neg U1,if_pos hk]at h;simp at h;omega
theorem C7{f:ak}{b i:Nat}{pat temp:Int}{x:FitD}(m:nQ f)(hsm:SmF f)(hr : ∀i∈fg f,-2147483648<=i.imm.v/\i.imm.v<=2147483647)(hb:b<f.blocks.length)(hi:i<=(nth f.blocks b).ins.length)(h:tryS (eJ f b i temp) pat=UK x):
  lX f b i (if i<(nth f.blocks b).ins.length then(nth (nth f.blocks b).ins i).args else(nth f.blocks b).term.args) x.takes x.inner:=by
 have hp:dz f b i=true:=by simp[dz];omega
 obtain⟨h1,h2,h3,h4⟩:=zG (temp:=temp) m hsm hr hp;have eb:((b:Int)).toNat=b:=by omega
 by_cases e:i=(nth f.blocks b).ins.length
 ·have es:eJ f b i temp=⟨f,ix,(nth f.blocks b).term,UO,temp⟩:=by unfold eJ;rw[eb,if_pos U1]
  rw[es]at h h1;rw[if_neg U1];have:=zk (s:=⟨f,ix,(nth f.blocks b).term,UO,temp⟩) (t:=endT f b) (b:=b) (wN hb) rfl rfl h1 (λhk=>LI m hb hk) h;rw[e];exact this
 have es:eJ f b i temp=⟨f,nth (nth f.blocks b).ins i,nJ,UP,temp⟩:=by unfold eJ;rw[eb,if_neg U1];rfl
 rw[es]at h h1;rw[if_pos U1];have hi2:i<(nth f.blocks b).ins.length:=by omega
 exact zk (s:=⟨f,nth (nth f.blocks b).ins i,nJ,UP,temp⟩) (t:=insT f b i) (b:=b) (dQ hb hi2) rfl rfl h1 (λhk=>by simp[nJ]at hk) h
structure dS where
 phis:List PhiD
 ins:List bz
 fin:EndD
instance:Rep dS:=Rep.via λx=>Cat.mk x.phis (Cat.mk x.ins x.fin)
structure MFnD where
 params:Int
 blocks:List dS
instance:Rep MFnD:=Rep.via λx=>Cat.mk x.params x.blocks
abbrev NMap:=Int->Option Int
def kD(f:ak)(b k:Nat):Bool:=(!decide ((nth (nth f.blocks b).ins k).op=16)&&!decide ((nth (nth f.blocks b).ins k).op=18))&&cI f (nth (nth f.blocks b).ins k).dst
def iY(f:ak)(b k:Nat)(m:NMap):NMap:=if kD f b k then putM m (nth (nth f.blocks b).ins k).dst (k:Int) else m
def mkU(f:ak)(b:Nat):NMap:=Lft.up (iY f b) (nth f.blocks b).ins.length λ_=>UL
def sumS(mk cost:NMap):Int->List Int->Option Int
 | c,[]=>UK c
 | c,v::l=>match mk v with
  | none=>sumS mk cost c l
  | some p=>match cost p with
   | none=>UL
   | some n=>sumS mk cost (c+n) l
structure CB where
 cost:NMap
 best:NMap
def wS(f:ak)(b:Nat)(l:List aO)(mk cost:NMap)(i:Nat)(t:Nat):Option Int:=(dL f b i (nth l t).pat).bind λx=>sumS mk cost (nth l t).cost x.takes
def zy(n:Int):Option Int->Bool
 | none=>UO
 | some m=>decide (n<m)
def cD(f:ak)(b:Nat)(l:List aO)(mk:NMap)(i t:Nat)(s:CB):CB:=match wS f b l mk s.cost i t with
 | none=>s
 | some n=>if zy n (s.cost i) then⟨putM s.cost i n,putM s.best i (t:Int)⟩ else s
def G2(t:cS):Bool:=decide (t.kind=1)||decide (t.kind=4)||decide (t.kind=5)
def kh(f:ak)(b i:Nat):Bool:=decide (i=(nth f.blocks b).ins.length)&&G2 (nth f.blocks b).term
def plc8(f:ak)(b:Nat)(l:List aO)(mk:NMap)(i:Nat)(s:CB):CB:=
 if kh f b i then(match sumS mk s.cost 0 (nth f.blocks b).term.args with | none=>s | some n=>⟨putM s.cost i n,s.best⟩)
 else Lft.up (cD f b l mk i) l.length s
def nD(f:ak)(b:Nat)(l:List aO)(mk:NMap)(n:Nat):CB:=Lft.up (plc8 f b l mk) n ⟨λ_=>UL,λ_=>UL⟩
def dx(f:ak)(b:Nat)(l:List aO):CB:=nD f b l (mkU f b) ((nth f.blocks b).ins.length+1)
def kr(f:ak)(b:Nat)(l:List aO)(best:NMap)(i:Nat):List Int:=match best i with
 | some t=>G7 (dL f b i (nth l t.toNat).pat)
 | none=>if i=(nth f.blocks b).ins.length then(nth f.blocks b).term.args else[]
def me(mk:NMap)(m:Int->Bool)(v:Int):Int->Bool:=match mk v with
 | none=>m
 | some p=>λq=>if q=p then UP else m q
def pa(f:ak)(b:Nat)(l:List aO)(best:NMap)(i:Nat)(m:Int->Bool):Int->Bool:=if m i then m else(kr f b l best i).foldl (me (mkU f b)) m
def offs(f:ak)(b:Nat)(l:List aO)(best:NMap)(n:Nat):Nat->(Int->Bool)->Int->Bool
 | 0,m=>m
 | k+1,m=>offs f b l best n k (pa f b l best k m)
def kN(f:ak)(b:Nat):Int->Bool:=λq=>decide (0<=q)&&decide (q<(nth f.blocks b).ins.length)&&kD f b q.toNat
def inn8(f:ak)(b:Nat)(l:List aO):Int->Bool:=offs f b l (dx f b l).best 0 ((nth f.blocks b).ins.length+1) (kN f b)
structure lk where
 temp:Int
 cost:Int
 many:Bool
 blk:dS
def layS(f:ak)(b i:Nat)(pat:Int)(s:lk):lk:=
  ⟨if pat=26\/pat=30 then s.temp+1 else s.temp,s.cost,if pat=26\/pat=30 then s.many||decide (8192<=s.temp) else s.many,
   ⟨s.blk.phis,s.blk.ins++qQ (gu f b i pat s.temp),if i=(nth f.blocks b).ins.length then Au (gu f b i pat s.temp) else s.blk.fin⟩⟩
def yQ(f:ak)(b:Nat)(l:List aO)(best:NMap)(inner:Int->Bool)(i:Nat)(s:lk):lk:=
 if inner i then s else match best i with
  | none=>layS f b i 0 s
  | some t=>layS f b i (nth l t.toNat).pat { s with cost:=s.cost+(nth l t.toNat).cost }
def F6(f:ak)(l:List aO)(b:Nat)(s:lk):lk:=Lft.up (yQ f b l (dx f b l).best (inn8 f b l)) ((nth f.blocks b).ins.length+1) { s with blk:=⟨(nth f.blocks b).phis,[],dc⟩ }
structure FnSt where
 temp:Int
 cost:Int
 many:Bool
 out:List dS
def CA(f:ak)(l:List aO)(b:Nat)(s:FnSt):FnSt:=
 let r:=F6 f l b ⟨s.temp,s.cost,s.many,⟨[],[],dc⟩⟩
 ⟨r.temp,r.cost,r.many,s.out++[r.blk]⟩
def fnS(f:ak)(l:List aO):FnSt:=Lft.up (CA f l) f.blocks.length ⟨topS f,0,UP,[]⟩
structure ChD where
 code:MFnD
 cost:Int
 err:Int
def noCh(e:Int):ChD:=⟨⟨0,[]⟩,0,e⟩
def gW(f:ak)(l:List aO):ChD:=
 if(eZ l f).1≠0 then noCh (eZ l f).1
 else if(fnS f l).many then noCh 2
 else⟨⟨f.params,(fnS f l).out⟩,(fnS f l).cost,0⟩
section
variable{f:ak}{b:Nat}{l:List aO}{mk cost cost':NMap}
theorem up_add{β:Type}{g:Nat->β->β}{n:Nat}{x:β}:Lft.up g (n+1) x=g n (Lft.up g n x):=rfl
theorem qR{k:Nat}(h:kD f b k=UO):cI f (nth (nth f.blocks b).ins k).dst=UO/\(nth (nth f.blocks b).ins k).op≠16/\(nth (nth f.blocks b).ins k).op≠18:=by unfold kD at h;simp only[Q9,Sr,decide_eq_false_iff_not]at h;exact⟨h.2,h.1.1,h.1.2⟩
theorem pE{k:Nat}(h:(nth (nth f.blocks b).ins k).op≠16):(nth (nth f.blocks b).ins k).dst∈(insT f b k).mks:=by show _∈cO _;unfold cO;rw[if_neg h];split<;>simp
theorem A6{v:Int}(h:cI f v=UO):(ll v (aD f)).length=1:=by unfold cI jn at h;simp only[Q9]at h;have hb:=h.1;unfold mW at hb;simp at hb;exact hb.1.1.1.1
theorem Hj{v:Int}(h:cI f v=UO){t t':Th}(ht:t∈aD f)(ht':t'∈aD f)(hk:v∈t.mks)(hk':v∈t'.mks):t.blk=t'.blk/\t.place=t'.place:=by
 have e:=A6 h;have m1:(t.blk,t.place)∈ll v (aD f):=lg.2 (.inr ⟨t,ht,rfl,hk⟩);have m2:(t'.blk,t'.place)∈ll v (aD f):=lg.2 (.inr ⟨t',ht',rfl,hk'⟩);match hl:ll v (aD f),e with
 | [y],_=>rw[hl]at m1 m2;simp at m1 m2;have:=m1.trans m2.symm;exact⟨congrArg Prod.fst this,congrArg Prod.snd this⟩
theorem CR : ∀{n:Nat} {v p:Int},Lft.up (iY f b) n (λ_=>UL) v=UK p->∃k:Nat,k<n/\p=k/\kD f b k=UO/\(nth (nth f.blocks b).ins k).dst=v
 | 0,v,p,h=>by cases h
 | n+1,v,p,h=>by
  rw[up_add]at h;unfold iY at h;split at h
  ·rename_i c;unfold putM at h;split at h
   ·rename_i e;cases h;exact⟨n,by omega,rfl,c,e.symm⟩
   obtain⟨k,h1,h2⟩:=CR h;exact⟨k,by omega,h2⟩
  obtain⟨k,h1,h2⟩:=CR h;exact⟨k,by omega,h2⟩
theorem DO : ∀{n k:Nat},k<n->kD f b k=UO->∃p,Lft.up (iY f b) n (λ_=>UL) (nth (nth f.blocks b).ins k).dst=UK p
 | 0,k,h,_=>by omega
 | n+1,k,h,hf=>by
  rw[up_add];unfold iY;by_cases e:k=n
  ·subst e;rw[if_pos hf];exact⟨k,by unfold putM;rw[if_pos rfl]⟩
  obtain⟨p,hp⟩:=DO (n:=n) (k:=k) U1 hf;split
  ·unfold putM;split
   ·exact⟨_,rfl⟩
   exact⟨p,hp⟩
  exact⟨p,hp⟩
theorem nL(hb:b<f.blocks.length){v p:Int}:mkU f b v=UK p↔∃k:Nat,k<(nth f.blocks b).ins.length/\p=k/\kD f b k=UO/\(nth (nth f.blocks b).ins k).dst=v:=by refine⟨CR,?_⟩;rintro⟨k,hk,rfl,hf,rfl⟩;obtain⟨p,hp⟩:=DO hk hf;obtain⟨j,hj,rfl,hfj,hd⟩:=CR hp;obtain⟨g1,g2,-⟩:=qR hf;obtain⟨-,g3,-⟩:=qR hfj;have:=(Hj g1 (dQ hb hj) (dQ hb hk) (by rw[<-hd];exact pE g3) (pE g2)).2;have e:(j:Int)=(k:Int):=this;show mkU f b _=_;unfold mkU;rw[hp,e]
theorem vY{l:List Int}: ∀{c:Int},(∀v∈l,∀p,mk v=UK p->cost p=cost' p)->sumS mk cost c l=sumS mk cost' c l:=by
 induction l with
 | nil=>intro c _;rfl
 | cons v l ih=>
  intro c h;unfold sumS;cases hm:mk v with
  | none=>exact ih λw hw=>h w (Q7 _ hw)
  | some p=>
   dsimp only;rw[h v U2 p hm];cases cost' p with
   | none=>rfl
   | some n=>exact ih λw hw=>h w (Q7 _ hw)
theorem yv{i t:Nat}(h : ∀x,dL f b i (nth l t).pat=UK x->∀v∈x.takes,∀p,mk v=UK p->cost p=cost' p):wS f b l mk cost i t=wS f b l mk cost' i t:=by
 unfold wS;cases hx:dL f b i (nth l t).pat with
 | none=>rfl
 | some x=>exact vY (h x hx)
def zN(w:Nat->Option Int)(k:Nat)(c t:Option Int):Prop:=
 (c=UL/\t=UL/\∀j<k,w j=UL)\/∃(n:Int) (j:Nat),j<k/\c=UK n/\t=UK (j:Int)/\w j=UK n/\(∀j'<j,∀n',w j'=UK n'->n<n')/\∀j'<k,∀n',w j'=UK n'->n<=n'
theorem vc{β:Type}{m:Int->Option β}{i:Int}{v:β}:putM m i v i=UK v:=by unfold putM;rw[if_pos rfl]
theorem mV{β:Type}{m:Int->Option β}{i j:Int}{v:β}(h:j≠i):putM m i v j=m j:=by unfold putM;rw[if_neg h]
theorem za{i:Nat}(ha : ∀pat x,dL f b i pat=UK x->∀v∈x.takes,∀p,mk v=UK p->p<i){s:CB}(h0:s.cost i=UL)(h1:s.best i=UL) :
  ∀k,(∀j:Int,j≠i->(Lft.up (cD f b l mk i) k s).cost j=s.cost j/\(Lft.up (cD f b l mk i) k s).best j=s.best j)/\zN (wS f b l mk s.cost i) k ((Lft.up (cD f b l mk i) k s).cost i) ((Lft.up (cD f b l mk i) k s).best i)
 | 0=>⟨λ_ _=>⟨rfl,rfl⟩,.inl ⟨h0,h1,λ_ h=>by omega⟩⟩
 | k+1=>by
  obtain⟨ih1,ih2⟩:=za ha h0 h1 k;rw[up_add];generalize Lft.up (cD f b l mk i) k s=q at *;have ew:wS f b l mk q.cost i k=wS f b l mk s.cost i k:=yv λx hx v hv p hp=>(ih1 p (by have:=ha _ x hx v hv p hp;omega)).1;unfold cD;rw[ew];cases hw:wS f b l mk s.cost i k with
  | none=>
   refine⟨ih1,?_⟩;rcases ih2 with⟨a1,a2,a3⟩ | ⟨n,j,a1,a2,a3,a4,a5,a6⟩
   ·refine .inl ⟨a1,a2,λj hj=>?_⟩;by_cases e:j=k
    ·rw[e];exact hw
    exact a3 j U1
   refine .inr ⟨n,j,by omega,a2,a3,a4,a5,λj' hj' n' hn'=>?_⟩;by_cases e:j'=k
   ·rw[e,hw]at hn';cases hn'
   exact a6 j' U1 n' hn'
  | some n=>
   dsimp only;rcases ih2 with⟨a1,a2,a3⟩ | ⟨m,j,a1,a2,a3,a4,a5,a6⟩
   ·rw[a1,if_pos (show zy n UL=UO from rfl)];refine⟨λj hj=>⟨by show putM q.cost i n j=_;rw[mV hj];exact(ih1 j hj).1,by show putM q.best i (k:Int) j=_;rw[mV hj];exact(ih1 j hj).2⟩,.inr ⟨n,k,by omega,vc,vc,hw,λj' hj' n' hn'=>?_,λj' hj' n' hn'=>?_⟩⟩
    ·rw[a3 j' hj']at hn';cases hn'
    by_cases e:j'=k
    ·rw[e,hw]at hn';cases hn';omega
    rw[a3 j' U1]at hn';cases hn'
   rw[a2];by_cases c:n<m
   ·rw[if_pos (by simp[zy,c])];refine⟨λj hj=>⟨by show putM q.cost i n j=_;rw[mV hj];exact(ih1 j hj).1,by show putM q.best i (k:Int) j=_;rw[mV hj];exact(ih1 j hj).2⟩,.inr ⟨n,k,by omega,vc,vc,hw,λj' hj' n' hn'=>?_,λj' hj' n' hn'=>?_⟩⟩
    ·have:=a6 j' hj' n' hn';omega
    by_cases e:j'=k
    ·rw[e,hw]at hn';cases hn';omega
    have:=a6 j' U1 n' hn';omega
   rw[if_neg (by simp[zy,c])];refine⟨ih1,.inr ⟨m,j,by omega,a2,a3,a4,a5,λj' hj' n' hn'=>?_⟩⟩;by_cases e:j'=k
   ·rw[e,hw]at hn';cases hn';omega
   exact a6 j' U1 n' hn'
def sZ(f:ak)(b:Nat)(l:List aO)(mk:NMap)(s:CB)(i:Nat):Prop:=
 if kh f b i then s.cost i=sumS mk s.cost 0 (nth f.blocks b).term.args/\s.best i=UL else zN (wS f b l mk s.cost i) l.length (s.cost i) (s.best i)
theorem zN.congr{w w':Nat->Option Int}{k:Nat}{c t:Option Int}(h:zN w k c t)(e : ∀j<k,w' j=w j):zN w' k c t:=by
 rcases h with⟨a1,a2,a3⟩ | ⟨n,j,a1,a2,a3,a4,a5,a6⟩
 ·exact .inl ⟨a1,a2,λj hj=>by rw[e j hj];exact a3 j hj⟩
 exact .inr ⟨n,j,a1,a2,a3,by rw[e j a1];exact a4,λj' hj' n' hn'=>a5 j' hj' n' (by rw[<-e j' U1];exact hn'),λj' hj' n' hn'=>a6 j' hj' n' (by rw[<-e j' hj'];exact hn')⟩
theorem A7(ha : ∀(i:Nat) (pat:Int) (x:FitD),dL f b i pat=UK x->∀v∈x.takes,∀p,mk v=UK p->p<i)(hb : ∀v∈(nth f.blocks b).term.args,∀p,mk v=UK p->p<(nth f.blocks b).ins.length) :
  ∀n:Nat,(∀j:Int,¬j<n->(nD f b l mk n).cost j=UL/\(nD f b l mk n).best j=UL)/\∀i<n,sZ f b l mk (nD f b l mk n) i
 | 0=>⟨λ_ _=>⟨rfl,rfl⟩,λ_ h=>by omega⟩
 | n+1=>by
  obtain⟨ih1,ih2⟩:=A7 ha hb n;have e:nD f b l mk (n+1)=plc8 f b l mk n (nD f b l mk n):=rfl;rw[e];generalize nD f b l mk n=s at *;have key:(∀j:Int,j≠n->(plc8 f b l mk n s).cost j=s.cost j/\(plc8 f b l mk n s).best j=s.best j)/\sZ f b l mk (plc8 f b l mk n s) n:=by
   obtain⟨z1,z2⟩:=ih1 n U1;unfold plc8 sZ;by_cases c:kh f b n=UO
   ·rw[if_pos c,if_pos c];have en:n=(nth f.blocks b).ins.length:=by unfold kh at c;simp at c;exact c.1
    cases hs:sumS mk s.cost 0 (nth f.blocks b).term.args with
    | none=>exact⟨λ_ _=>⟨rfl,rfl⟩,by dsimp only;rw[hs];exact z1,z2⟩
    | some m=>refine⟨λj hj=>⟨mV hj,rfl⟩,?_,z2⟩;show putM s.cost n m n=sumS mk (putM s.cost n m) 0 _;refine vc.trans (hs.symm.trans ?_);exact vY λv hv p hp=>(mV (j:=p) (i:=(n:Int)) (by have:=hb v hv p hp;omega)).symm
   rw[if_neg c,if_neg c];obtain⟨t1,t2⟩:=za (l:=l) (ha n) z1 z2 l.length;exact⟨t1,t2.congr λj _=>yv λx hx v hv p hp=>(t1 p (by have:=ha n _ x hx v hv p hp;omega)).1⟩
  obtain⟨k1,k2⟩:=key;generalize plc8 f b l mk n s=q at *;refine⟨λj hj=>?_,λi hi=>?_⟩
  ·obtain⟨x1,x2⟩:=k1 j U1;obtain⟨y1,y2⟩:=ih1 j U1;exact⟨x1.trans y1,x2.trans y2⟩
  by_cases e:i=n
  ·subst e;exact k2
  have o:=ih2 i U1;obtain⟨x1,x2⟩:=k1 i U1;unfold sZ at o ⊢;by_cases c:kh f b i=UO
  ·rw[if_pos c]at o ⊢;have en:i=(nth f.blocks b).ins.length:=by unfold kh at c;simp at c;exact c.1
   rw[x1,x2,o.1];exact⟨vY λv hv p hp=>(k1 p (by have:=hb v hv p hp;omega)).1.symm,o.2⟩
  rw[if_neg c]at o ⊢;rw[x1,x2];exact o.congr λj _=>yv λx hx v hv p hp=>(k1 p (by have:=ha i _ x hx v hv p hp;omega)).1
end
section
variable{f:ak}{b:Nat}{u:Int}{l l':List Int}{m:Nat}
theorem zQ{i:Nat}{pat:Int}{x:FitD}(hsm:SmF f)(hr : ∀i∈fg f,-2147483648<=i.imm.v/\i.imm.v<=2147483647)(hb:b<f.blocks.length)(hi:i<=(nth f.blocks b).ins.length)(h:dL f b i pat=UK x):
  lX f b i (if i<(nth f.blocks b).ins.length then(nth (nth f.blocks b).ins i).args else(nth f.blocks b).term.args) x.takes x.inner:=by
 unfold dL gu at h;split at h
 ·split at h
  ·rename_i c;simp only[Q9]at c;exact C7 (kv c.2) hsm hr hb hi h
  cases h
 cases h
end
section
theorem JU{D:Nat->Int}{l l':List Nat}(h:l.Perm l'):(l.map D).sum=(l'.map D).sum:=by
 induction h with
 | nil=>rfl
 | cons a _ ih=>simp[ih]
 | swap a b l=>simp;omega
 | trans _ _ h1 h2=>exact h1.trans h2
theorem ET{D:Nat->Int}{kids:Nat->List Nat} : ∀{l:List Nat},((l.flatMap kids).map D).sum=(l.map λj=>((kids j).map D).sum).sum
 | []=>rfl
 | a::l=>by simp[ET (l:=l)]
theorem Ar{D:Nat->Int}{p:Nat->Bool} : ∀{l:List Nat},(l.map D).sum=((l.filter p).map D).sum+((l.filter λi=>!p i).map D).sum
 | []=>rfl
 | a::l=>by have ih:=Ar (D:=D) (p:=p) (l:=l);cases h:p a<;>simp[h,ih]<;>omega
theorem D1{D E F:Nat->Int} : ∀{l:List Nat},(∀j∈l,D j=E j+F j)->(l.map D).sum=(l.map E).sum+(l.map F).sum
 | [],_=>rfl
 | a::l,h=>by have ih:=D1 (l:=l) λj hj=>h j (Q7 _ hj);have:=h a U2;simp[ih];omega
theorem yF{kids:Nat->List Nat} : ∀{l:List Nat},l.Nodup->(∀j∈l,(kids j).Nodup)->(∀j∈l,∀j'∈l,∀i,i∈kids j->i∈kids j'->j=j')->(l.flatMap kids).Nodup
 | [],_,_,_=>TK
 | a::l,h1,h2,h3=>by rw[S0]at h1;rw[S3,SO];refine⟨h2 a U2,yF h1.2 (λj hj=>h2 j (Q7 _ hj)) (λj hj j' hj'=>h3 j (Q7 _ hj) j' (Q7 _ hj')),λx hx y hy e=>?_⟩;subst e;obtain⟨j,hj,hxj⟩:=T0.1 hy;have:=h3 a U2 j (Q7 _ hj) x hx hxj;exact h1.1 (this▸hj)
variable{kids:Nat->List Nat}
theorem KY{K:Nat}{root fold:Nat->Bool}{tc D:Nat->Int}(hr : ∀i<K,root i=UO↔fold i=UP\/∃j<K,root j=UO/\i∈kids j)(hk : ∀j<K,root j=UO->∀i∈kids j,i<K/\fold i=UO)(hn : ∀j<K,root j=UO->(kids j).Nodup)(hu : ∀j<K,∀j'<K,root j=UO->root j'=UO->∀i,i∈kids j->i∈kids j'->j=j')(hD : ∀j<K,root j=UO->D j=tc j+((kids j).map D).sum):
  (((List.range K).filter root).map tc).sum=(((List.range K).filter λi=>!fold i).map D).sum:=by
 obtain⟨R,hR⟩ : ∃R,R=(List.range K).filter root:=⟨_,rfl⟩;have mR : ∀j,j∈R↔j<K/\root j=true:=λj=>by rw[hR];simp
 have nR:R.Nodup:=by rw[hR];exact List.Pairwise.filter _ List.nodup_range
 rw[<-hR];have e1:(R.map D).sum=(R.map tc).sum+(R.map λj=>((kids j).map D).sum).sum:=D1 λj hj=>hD j ((mR j).1 hj).1 ((mR j).1 hj).2;have e2:(R.flatMap kids).Perm (R.filter fold):=by
  refine(List.perm_ext_iff_of_nodup (yF nR (λj hj=>hn j ((mR j).1 hj).1 ((mR j).1 hj).2) λj hj j' hj'=>hu j ((mR j).1 hj).1 j' ((mR j').1 hj').1 ((mR j).1 hj).2 ((mR j').1 hj').2) (List.Pairwise.filter _ nR)).2 λi=>?_;rw[T0,SP,mR];constructor
  ·rintro⟨j,hj,hi⟩;obtain⟨g1,g2⟩:=(mR j).1 hj;obtain⟨k1,k2⟩:=hk j g1 g2 i hi;exact⟨⟨k1,(hr i k1).2 (.inr ⟨j,g1,g2,hi⟩)⟩,k2⟩
  rintro⟨⟨h1,h2⟩,h3⟩;rcases(hr i h1).1 h2 with h | ⟨j,g1,g2,g3⟩
  ·rw[h3]at h;cases h
  exact⟨j,(mR j).2 ⟨g1,g2⟩,g3⟩
 have e3:=Ar (D:=D) (p:=fold) (l:=R);have e4:(R.filter λi=>!fold i)=(List.range K).filter λi=>!fold i:=by
  rw[hR,List.filter_filter];refine TP λi hi=>?_;have hi:i<K:=by simpa using hi
  cases hf:fold i with
  | true=>simp
  | false=>simp[(hr i hi).2 (.inl hf)]
 rw[<-ET,JU e2]at e1;rw[e4]at e3;omega
end
section
variable{f:ak}{b:Nat}{l:List aO}
def ownP(f:ak)(b i:Nat):List Int:=if i<(nth f.blocks b).ins.length then(nth (nth f.blocks b).ins i).args else(nth f.blocks b).term.args
theorem sS(hb:b<f.blocks.length){i:Nat}(hi:i<=(nth f.blocks b).ins.length): ∃t∈aD f,t.blk=b/\t.place=i/\t.tks=ownP f b i:=by
 unfold ownP;by_cases e:i<(nth f.blocks b).ins.length
 ·rw[if_pos e];exact⟨_,dQ hb e,rfl,rfl,rfl⟩
 rw[if_neg e];exact⟨_,wN hb,rfl,by show((nth f.blocks b).ins.length:Int)=i;omega,rfl⟩
def innP(f:ak)(b:Nat)(l:List aO)(best:NMap)(i:Nat):List Int:=match best i with
 | some t=>G0 (dL f b i (nth l t.toNat).pat)
 | none=>[]
structure Okf(f:ak):Prop where
 may:nQ f
 sm:SmF f
 imm : ∀i∈fg f,-2147483648<=i.imm.v/\i.imm.v<=2147483647
variable{best:NMap}
theorem nU(o:Okf f)(hb:b<f.blocks.length){i:Nat}(hi:i<=(nth f.blocks b).ins.length):lX f b i (ownP f b i) (kr f b l best i) (innP f b l best i):=by
 obtain⟨t,ht,htb,htp,htk⟩:=sS hb hi;have none_ : ∀{r:List Int},(∀v,r.count v<=t.tks.count v)->lX f b i (ownP f b i) r []:=λh=>by have:=eK (f:=f) (b:=b) (i:=(i:Int)) ht h;rw[htk]at this;exact this
 unfold kr innP;cases best i with
 | none=>
  dsimp only;split
  ·rename_i e;refine none_ λv=>?_;rw[htk];unfold ownP;rw[if_neg U1];exact Q4 _
  exact none_ λv=>SD _
 | some u=>
  dsimp only;cases hx:dL f b i (nth l u.toNat).pat with
  | none=>exact none_ λv=>SD _
  | some x=>exact zQ o.sm o.imm hb hi hx
theorem oX(o:Okf f)(hb:b<f.blocks.length){i:Nat}(hi:i<=(nth f.blocks b).ins.length){v:Int}(hv:v∈kr f b l best i\/v∈innP f b l best i):
  ∃c:Nat,c<=i/\v∈ownP f b c/\(c=i\/c<i/\c<(nth f.blocks b).ins.length/\(nth (nth f.blocks b).ins c).op≠16/\(nth (nth f.blocks b).ins c).dst∈innP f b l best i):=by
 have io:=nU (l:=l) (best:=best) o hb hi;have key:v∈ownP f b i\/∃u∈innP f b l best i,C0 f b i u λx=>v∈x.args:=by
  rcases hv with hv | hv
  ·exact io.from_ v hv
  exact io.inn v hv
 rcases key with h | ⟨u,hu,m,h1,h2,h3,h4,h5⟩
 ·exact⟨i,Q4 _,h,.inl rfl⟩
 exact⟨m,by omega,by unfold ownP;rw[if_pos h1];exact h5,.inr ⟨by omega,h1,h3,by rw[h4];exact hu⟩⟩
def mM(f:ak)(b:Nat)(l:List aO)(best:NMap)(i:Nat):List Nat:=(kr f b l best i).filterMap λv=>(mkU f b v).map Int.toNat
theorem vD{i p:Nat}(hb:b<f.blocks.length):p∈mM f b l best i↔∃v∈kr f b l best i,p<(nth f.blocks b).ins.length/\kD f b p=UO/\(nth (nth f.blocks b).ins p).dst=v:=by
 unfold mM;rw[Te];constructor
 ·rintro⟨v,hv,e⟩;obtain⟨q,hq,rfl⟩:=Q6.1 e;obtain⟨k,hk,rfl,hf,hd⟩:=(nL hb).1 hq;exact⟨v,hv,by simpa using hk,by simpa using hf,by simpa using hd⟩
 rintro⟨v,hv,h1,h2,h3⟩;exact⟨v,hv,by rw[(nL hb).2 ⟨p,h1,rfl,h2,h3⟩];rfl⟩
theorem pb(hb:b<f.blocks.length){c p:Nat}(hc:c<=(nth f.blocks b).ins.length)(hp:p<(nth f.blocks b).ins.length)(hf:kD f b p=UO)(hv:(nth (nth f.blocks b).ins p).dst∈ownP f b c):p<c:=by obtain⟨t,ht,htb,htp,htk⟩:=sS hb hc;obtain⟨g1,g2,-⟩:=qR hf;have:=(lU g1 (dQ hb hp) ht (pE g2) (by rw[htk];exact hv)).2;rw[htp]at this;have q:(p:Int)<c:=this;omega
theorem JM(o:Okf f)(hb:b<f.blocks.length){i p:Nat}(hi:i<=(nth f.blocks b).ins.length)(h:p∈mM f b l best i):p<i:=by obtain⟨v,hv,h1,h2,rfl⟩:=(vD hb).1 h;obtain⟨c,hc,h3,-⟩:=oX o hb hi (.inl hv);have:=pb hb U1 h1 h2 h3;omega
theorem MM(hb:b<f.blocks.length){k:Nat}(hk:k<(nth f.blocks b).ins.length)(h16:(nth (nth f.blocks b).ins k).op≠16)(hf:cI f (nth (nth f.blocks b).ins k).dst=UO):(nth (nth f.blocks b).ins k).op≠18:=by
 have e:=A6 hf;have m1:((insT f b k).blk,(insT f b k).place)∈ll (nth (nth f.blocks b).ins k).dst (aD f):=lg.2 (.inr ⟨_,dQ hb hk,rfl,pE h16⟩);have m1:((b:Int),(k:Int))∈ll (nth (nth f.blocks b).ins k).dst (aD f):=m1;unfold cI jn at hf;simp only[Q9]at hf;match hl:ll (nth (nth f.blocks b).ins k).dst (aD f),e with
 | [y],_=>
  rw[hl]at m1 hf;have hy:y=((b:Int),(k:Int)):=(Q8.1 m1).symm;subst hy;have h2:=hf.2.2;have h2:[(1:Int),2,4,11,12,13].contains (nth (nth f.blocks b).ins k).op=true:=by have:nth [((b:Int),(k:Int))] 0=((b:Int),(k:Int)):=rfl;rw[this]at h2;simpa using h2
  intro h18;rw[h18]at h2;simp at h2
theorem MB(hb:b<f.blocks.length){k:Nat}(hk:k<(nth f.blocks b).ins.length)(h16:(nth (nth f.blocks b).ins k).op≠16)(hf:cI f (nth (nth f.blocks b).ins k).dst=UO):kD f b k=true:=by unfold kD;simp[h16,MM hb hk h16 hf,hf]
theorem wv(o:Okf f)(hb:b<f.blocks.length){best:NMap}{R:Nat->Prop}(hR : ∀r,R r->r<=(nth f.blocks b).ins.length)
  (hp : ∀r,R r->(∀s,R s->r<(nth f.blocks b).ins.length->(nth (nth f.blocks b).ins r).op≠16->(nth (nth f.blocks b).ins r).dst∉innP f b l best s)\/∃q,R q/\r∈mM f b l best q) :
  ∀(d:Nat) {v:Int} {i j c:Nat},(nth f.blocks b).ins.length<c+d->cI f v=UO->c<=(nth f.blocks b).ins.length->v∈ownP f b c->R i->R j->(v∈kr f b l best i\/v∈innP f b l best i)->(v∈kr f b l best j\/v∈innP f b l best j)->i=j
 | 0,v,i,j,c,hd,_,hc,_,_,_,_,_=>by omega
 | d+1,v,i,j,c,hd,hf,hc,hcv,ri,rj,vi,vj=>by
  have hi:=hR i ri;have hj:=hR j rj;obtain⟨ci,hci,ki,ai⟩:=oX o hb hi vi;obtain⟨cj,hcj,kj,aj⟩:=oX o hb hj vj;have same : ∀{x:Nat},x<=(nth f.blocks b).ins.length->v∈ownP f b x->x=c:=fun{x} hx hv=>by obtain⟨t,ht,_,htp,htk⟩:=sS hb hx;obtain⟨t',ht',_,htp',htk'⟩:=sS hb hc;have:=(qe hf ht ht' (by rw[htk];exact hv) (by rw[htk'];exact hcv)).2;rw[htp,htp']at this;omega
  have e1:=same U1 ki;have e2:=same U1 kj;subst e1;subst e2;have clash : ∀{r s:Nat},R r->R s->cj=r->cj<(nth f.blocks b).ins.length->(nth (nth f.blocks b).ins cj).op≠16->(nth (nth f.blocks b).ins cj).dst∈innP f b l best s->False:=by
   intro r s rr rs er hlt h16 hin;subst er;have io:=nU (l:=l) (best:=best) o hb (hR s rs);have hfu:=io.fold _ hin;rcases hp _ rr with h0 | ⟨q,rq,hkq⟩
   ·exact h0 s rs hlt h16 hin
   obtain⟨u,hu,g1,g2,g3⟩:=(vD hb).1 hkq;obtain⟨c2,hc2,k2,a2⟩:=oX o hb (hR q rq) (.inl hu);have hlt2:=pb (c:=c2) hb (by have:=hR q rq;omega) g1 g2 (by rw[g3];exact k2);have:=wv o hb hR hp d (v:=u) (i:=q) (j:=s) (c:=c2) U1 (by rw[<-g3];exact hfu) (by have:=hR q rq;omega) k2 rq rs (.inl hu) (.inr (by rw[<-g3];exact hin));subst this;exact io.out _ hin (by rw[g3];exact hu)
  rcases ai with rfl | ⟨a1,a2,a3,a4⟩
  ·rcases aj with rfl | ⟨b1,b2,b3,b4⟩
   ·rfl
   exact(clash ri rj rfl b2 b3 b4).elim
  rcases aj with rfl | ⟨b1,b2,b3,b4⟩
  ·exact(clash rj ri rfl a2 a3 a4).elim
  have io:=nU (l:=l) (best:=best) o hb hi;have hfu:=io.fold _ a4;obtain⟨c2,hc2,k2,-⟩:=oX o hb hi (.inr a4);have hlt2:=pb (c:=c2) hb U1 a2 (MB hb a2 a3 hfu) k2;exact wv o hb hR hp d (c:=c2) U1 hfu U1 k2 ri rj (.inr a4) (.inr b4)
end
section
variable{f:ak}{b:Nat}{l:List aO}
theorem qK{g:Int->Option Nat} : ∀{l:List Int},(∀v,g v≠UL->l.count v<=1)->(∀v v' p,g v=UK p->g v'=UK p->v=v')->(l.filterMap g).Nodup
 | [],_,_=>TK
 | a::l,h,hi=>by
  have ih:=qK (g:=g) (l:=l) (λv hv=>Rt (List.count_le_count_cons) (h v hv)) hi;rw[List.filterMap_cons];cases hg:g a with
  | none=>exact ih
  | some p=>dsimp only;rw[S0];refine⟨λhm=>?_,ih⟩;obtain⟨v,hv,e⟩:=Te.1 hm;have:=hi a v p hg e;subst this;have h1:=h a (by rw[hg];simp);rw[Tu]at h1;have:=RU.2 hv;omega
variable{best:NMap}
theorem E3(o:Okf f)(hb:b<f.blocks.length){i:Nat}(hi:i<=(nth f.blocks b).ins.length):(mM f b l best i).Nodup:=by
 have io:=nU (l:=l) (best:=best) o hb hi;unfold mM;refine qK (λv hv=>?_) λv v' p h1 h2=>?_
 ·cases hm:mkU f b v with
  | none=>rw[hm]at hv;exact absurd rfl hv
  | some p=>obtain⟨k,h1,rfl,h3,rfl⟩:=(nL hb).1 hm;exact io.cnt _ (qR h3).1
 obtain⟨q,hq,rfl⟩:=Q6.1 h1;obtain⟨r,hr,e⟩:=Q6.1 h2;obtain⟨k,a1,rfl,a3,rfl⟩:=(nL hb).1 hq;obtain⟨j,b1,rfl,b3,rfl⟩:=(nL hb).1 hr;simp at e;rw[e]
theorem M0{cost:NMap}(hb:b<f.blocks.length){l:List Int}: ∀{c m:Int},sumS (mkU f b) cost c l=UK m->m=c+((l.filterMap λv=>(mkU f b v).map Int.toNat).map λp:Nat=>(cost p).getD 0).sum/\∀v∈l,∀p,mkU f b v=UK p->∃n,cost p=UK n:=by
 induction l with
 | nil=>intro c m h;cases h;simp
 | cons v l ih=>
  intro c m h;unfold sumS at h;cases hm:mkU f b v with
  | none=>
   rw[hm]at h;obtain⟨h1,h2⟩:=ih h;refine⟨by rw[h1];simp[hm],λw hw p hp=>?_⟩;rcases Ru.1 hw with rfl | hw
   ·rw[hm]at hp;cases hp
   exact h2 w hw p hp
  | some p=>
   rw[hm]at h;dsimp only at h;obtain⟨k,a1,rfl,a3,a4⟩:=(nL hb).1 hm;cases hc:cost (k:Int)with
   | none=>rw[hc]at h;cases h
   | some n=>
    rw[hc]at h;obtain⟨h1,h2⟩:=ih h;refine⟨by rw[h1];simp[hm,hc];omega,λw hw p hp=>?_⟩;rcases Ru.1 hw with rfl | hw
    ·rw[hm]at hp;cases hp;exact⟨n,hc⟩
    exact h2 w hw p hp
theorem xE(o:Okf f)(hb:b<f.blocks.length)(i:Nat)(pat:Int)(x:FitD)(hx:dL f b i pat=UK x)(v:Int)(hv:v∈x.takes)(p:Int)(hp:mkU f b v=UK p):p<i:=by
 have hi:i<=(nth f.blocks b).ins.length:=by
  unfold dL gu at hx;split at hx
  ·split at hx
   ·rename_i c;simp[dz]at c;omega
   cases hx
  cases hx
 have io:=zQ o.sm o.imm hb hi hx;obtain⟨k,a1,rfl,a3,rfl⟩:=(nL hb).1 hp;rcases io.from_ _ hv with h | ⟨u,hu,m,g1,g2,g3,g4,g5⟩
 ·have:=pb hb hi a1 a3 h;omega
 have:=pb (c:=m) hb U1 a1 a3 (by unfold ownP;rw[if_pos g1];exact g5);omega
theorem zA(hb:b<f.blocks.length)(v:Int)(hv:v∈(nth f.blocks b).term.args)(p:Int)(hp:mkU f b v=UK p):p<(nth f.blocks b).ins.length:=by obtain⟨k,a1,rfl,a3,rfl⟩:=(nL hb).1 hp;omega
theorem Ky(o:Okf f)(hb:b<f.blocks.length): ∀i≤(nth f.blocks b).ins.length,sZ f b l (mkU f b) (dx f b l) i:=λi hi=>(A7 (xE o hb) (zA hb) ((nth f.blocks b).ins.length+1)).2 i U1
def xW(f:ak)(b:Nat)(l:List aO)(i:Nat):Int:=((dx f b l).cost i).getD 0
def rh(l:List aO)(best:NMap)(i:Nat):Int:=match best i with | some t=>(nth l t.toNat).cost | none=>0
theorem y5(o:Okf f)(hb:b<f.blocks.length){i:Nat}(hi:i<=(nth f.blocks b).ins.length){c:Int}(hc:(dx f b l).cost i=UK c):
  xW f b l i=rh l (dx f b l).best i+((mM f b l (dx f b l).best i).map (xW f b l)).sum/\∀p∈mM f b l (dx f b l).best i,∃n,(dx f b l).cost (p:Int)=UK n:=by
 have h:=Ky (l:=l) o hb i hi;have key : ∀{cc:Int} {r:List Int},sumS (mkU f b) (dx f b l).cost cc r=UK c->kr f b l (dx f b l).best i=r->cc=rh l (dx f b l).best i->
   xW f b l i=rh l (dx f b l).best i+((mM f b l (dx f b l).best i).map (xW f b l)).sum/\∀p∈mM f b l (dx f b l).best i,∃n,(dx f b l).cost (p:Int)=UK n:=by
  intro cc r hs ht hcc;obtain⟨h1,h2⟩:=M0 hb hs;refine⟨?_,λp hp=>?_⟩
  ·unfold xW;rw[hc];show c=_;rw[h1,hcc];unfold mM;rw[ht];try rfl
  unfold mM at hp;rw[ht]at hp;obtain⟨v,hv,e⟩:=Te.1 hp;obtain⟨q,hq,rfl⟩:=Q6.1 e;obtain⟨k,a1,rfl,-⟩:=(nL hb).1 hq;simpa using h2 v hv _ hq
 unfold sZ at h;by_cases cb:kh f b i=UO
 ·rw[if_pos cb]at h;rw[h.1]at hc;have en:i=(nth f.blocks b).ins.length:=by unfold kh at cb;simp at cb;exact cb.1
  refine key hc ?_ ?_
  ·unfold kr;rw[h.2];dsimp only;rw[if_pos en]
  unfold rh;rw[h.2]
 rw[if_neg cb]at h;rcases h with⟨a1,-,-⟩ | ⟨n,j,a1,a2,a3,a4,-,-⟩
 ·rw[a1]at hc;cases hc
 rw[a2]at hc;cases hc;unfold wS at a4;cases hx:dL f b i (nth l j).pat with
 | none=>rw[hx]at a4;cases a4
 | some x=>
  rw[hx]at a4;refine key a4 ?_ ?_
  ·unfold kr;rw[a3];dsimp only;rw[RB,hx];rfl
  unfold rh;rw[a3];dsimp only;rw[RB]
theorem y8(h:(eZ l f).1=0):(ja l).1=0/\pV f=UO/\∀b i:Nat,b<f.blocks.length->i<=(nth f.blocks b).ins.length->oY f (whS f) b i=UO->canS f (hasS l) (whS f) (i+1) b i=true:=by
 unfold eZ at h;split at h
 ·rename_i c;exact absurd h c
 rename_i c;split at h
 ·cases h
 rename_i c2;refine⟨Classical.byContradiction c,by simpa using c2,λb i hb hi hn=>?_⟩;cases hx:nM f (hasS l)with
 | some w=>rw[hx]at h;cases h
 | none=>unfold nM at hx;rw[List.findSome?_eq_none_iff]at hx;have:=hx b (by simpa using hb);rw[Option.map_eq_none_iff]at this;unfold vU at this;rw[List.find?_eq_none]at this;have:=this i U9;unfold uY at this;simp only[Q9,Sr,not_and,Bool.not_eq_false]at this;exact this hn
end
def fI(f:ak)(b:Nat)(l:List aO):List Nat:=(List.range ((nth f.blocks b).ins.length+1)).filter λi=>!inn8 f b l (i:Int)
def jA(f:ak)(b:Nat)(l:List aO)(s:lk)(i:Nat):lk:=match (dx f b l).best i with
 | none=>layS f b i 0 s
 | some t=>layS f b i (nth l t.toNat).pat { s with cost:=s.cost+(nth l t.toNat).cost }
theorem An{σ:Type}{g:Nat->σ->σ}{p:Nat->Bool}{s:σ} : ∀n,Lft.up (λi s=>if p i then s else g i s) n s=((List.range n).filter λi=>!p i).foldl (λs i=>g i s) s
 | 0=>rfl
 | n+1=>by show(if p n then _ else _)=_;rw[An n,SA,SK,Si];cases h:p n<;>simp[h]
theorem D8{f:ak}{b:Nat}{l:List aO}{s:lk}:F6 f l b s=(fI f b l).foldl (jA f b l) { s with blk:=⟨(nth f.blocks b).phis,[],dc⟩ }:=by
 unfold F6 fI;have e:yQ f b l (dx f b l).best (inn8 f b l)=fun(i:Nat) s=>if inn8 f b l (i:Int) then s else jA f b l s i:=by funext i s;unfold yQ jA;rfl
 rw[e];exact An (g:=λi s=>jA f b l s i) (p:=λi=>inn8 f b l (i:Int)) _
theorem EH{f:ak}{b k i:Nat}{l:List aO}(h:(fI f b l)[k]? = UK i):i<=(nth f.blocks b).ins.length/\inn8 f b l (i:Int)=false:=by have:=RF h;unfold fI at this;rw[SP,SG]at this;exact⟨by omega,by simpa using this.2⟩
theorem tQ{β γ:Type}{f:β->γ->β}{l:List γ}{k:Nat}{x:γ}{b:β}(h:l[k]? = UK x):(l.take (k+1)).foldl f b=f ((l.take k).foldl f b) x:=by rw[To,h,Si];rfl
theorem AO{p:Nat->Bool} : ∀{n i:Nat},i<n->p i=UO->((List.range n).filter p)[((List.range i).filter p).length]? = UK i
 | 0,i,h,_=>absurd h (Ux _)
 | n+1,i,h,hp=>by
  rw[SA,SK];rcases Ri i n with h1 | h1
  ·have:=AO h1 hp;rw[Ty (Sk.1 this).1];exact this
  obtain rfl:i=n:=by omega
  rw[Ud (Q4 _),Tw,List.filter_cons_of_pos hp];rfl
theorem FL{p:Nat->Bool}{i:Nat}:((List.range (i+1)).filter p).length=((List.range i).filter p).length+if p i then 1 else 0:=by rw[SA,SK,Rl];cases h:p i<;>simp[h]
open Go.MapKept
def two(a b:Int):Value:=.agg #[UH UI a,UH UI b]
section
variable{P:Program}{k t:TypeId}{w:World}
end
section
variable{po:OP}{pp:PP}{P:Program}{k t e:TypeId}{ty mt:TypeId}{us:List (Nat × Value)}{h:Heap}{K:Value->Heap->Prop}{r:Nat}{f:Int->Int->Option Value}
end
theorem Owns.turn{W:View}{h h':Heap}{o:Own}{r:Nat}{x x':Obj}(w:Owns W h o)(hr:W r=UK x)(hx : ∀c T fz,x≠.cells c T fz)(hr':h'[r]? = UK x')(hs:h'.size=h.size)(ho : ∀k,k≠r->h'[k]? = h[k]?):Owns (W.set r x') h' o:=by
 have hle:W.bT.le (W.set r x'):=λb y hb=>by
  unfold View.set;split
  ·rename_i e;subst e;unfold View.bT at hb;rw[hr]at hb;cases x<;>first | (exact absurd rfl (hx _ _ _)) | cases hb
  exact View.mB _ _ hb
 have hne : ∀{k i b},o k=UK i->i.v.ownBlock=UK b->b≠r:=λhk hb e=>by have:=w.av _ _ hk _ hb;rw[e,hr]at this;cases this
 refine⟨λb y hb=>?_,λk i hk=>?_,λk i hk b hb=>?_,w.dj⟩
 ·unfold View.set at hb;split at hb
  ·rename_i e;subst e;cases hb;exact hr'
  rename_i e;show h'[b]? = _;rw[ho b e];exact w.wle b y hb
 ·have h1:=w.own k i hk;have h2:@OwnT i.α i.rep (W.set r x') h i.e i.v i.l:=let ⟨b,xs,h1,h2⟩:=h1;⟨b,xs,h1,λj hj=>i.rep.mono hle (i.rep.bT (h2 j hj))⟩;exact @OwnT.same i.α i.rep _ _ _ _ _ _ h2 λb hb=>ho b (hne hk hb)
 unfold View.set;rw[if_neg (hne hk hb)];exact w.av k i hk b hb
section
open Go.MapKept Go.ChangeMaps
variable{po po2:OP}{pp:PP}
structure MV(d:TypeDesc)(W:View)(r:Nat)(f:Value->Option Value):Prop where
 ex : ∃es clock,W r=UK (.map es clock)/\(∀x∈es.toList,IsKey d x.key)/\Stamped es clock/\∀k v,IsKey d k->((∃x∈es.toList,x.key=k/\x.val=v)↔f k=UK v)
def Tn(rs:List Nat)(W W':View):Prop:=∀b,b∉rs->∀x,W b=UK x->W' b=UK x
section
variable{d:TypeDesc}{W W' W2 B:View}{h h':Heap}{r:Nat}{rs rs2:List Nat}{f g:Value->Option Value}{o:Own}
theorem MV.is(m:MV d W r f)(hw:W.le (vw h)):di d h r f:=by obtain⟨es,c,h1,h2⟩:=m.ex;exact⟨es,c,hw _ _ h1,h2⟩
theorem MV.mono(m:MV d W r f)(hw:W.le W'):MV d W' r f:=by obtain⟨es,c,h1,h2⟩:=m.ex;exact⟨es,c,hw _ _ h1,h2⟩
theorem MV.tn(m:MV d W r f)(t:Tn rs W W')(hr:r∉rs):MV d W' r f:=by obtain⟨es,c,h1,h2⟩:=m.ex;exact⟨es,c,t _ hr _ h1,h2⟩
theorem MV.of(m:di d h r f)(hw:W r=h[r]?):MV d W r f:=by obtain⟨es,c,h1,h2⟩:=m.ex;exact⟨es,c,by rw[hw];exact h1,h2⟩
theorem MV.NG(m:MV d W r f): ∃es c,W r=UK (.map es c):=by obtain⟨es,c,h1,_⟩:=m.ex;exact⟨es,c,h1⟩
theorem Tn.refl:Tn rs W W:=λ_ _ _ h=>h
theorem Tn.of_le(h:W.le W'):Tn rs W W':=λb _ x hx=>h b x hx
theorem Tn.trans(a:Tn rs W W')(b:Tn rs W' W2):Tn rs W W2:=λq hq x hx=>b q hq x (a q hq x hx)
theorem Tn.weak(a:Tn rs W W')(h : ∀b∈rs,b∈rs2):Tn rs2 W W':=λq hq x hx=>a q (λe=>hq (h q e)) x hx
theorem Tn.le(a:Tn rs W W')(h:B.le W)(hn : ∀b∈rs,B b=UL):B.le W':=λb x hx=>by
 by_cases e:b∈rs
 ·rw[hn b e]at hx;cases hx
 exact a b e x (h b x hx)
theorem Owns.nA{P:Program}{ty t:TypeId}{us:List (Nat × Value)}{K:Value->Heap->Prop}(w:Owns W h o)(hk : ∀h' W',W.le W'->(vw h).le (vw h')->Owns W' h' o->W h.size=UL->MV d W' h.size (λ_=>UL)->K (.map (UK h.size)) h'):step P (.makeMap t .none) ty us h K:=by refine lE ?_;have q:=bQ h (.map #[] 0);exact hk _ _ (bo w.wle) q (w.ext q) (View.b8 w.wle (Q4 _)) (.of (h:=h.push (.map #[] 0)) (di.none U2) (by rw[bY (Q4 _)]))
theorem Owns.pI{P:Program}{ty t k e:TypeId}{us:List (Nat × Value)}{K:Value->Heap->Prop}{x y q:Operand}{u v:Value}{op:Op}(w:Owns W h o)(m:MV d W r f)(hop:op = .mapUpdate t x y q\/op = .insert t x y q)(ht:P.underlying t=UK (.map k e))(hd:P.underlying k=UK d)(hx:asg us x = .map (UK r))(hy:asg us y=u)(hq:asg us q=v)(hu:IsKey d u)(hg:g u=UK v)(hg2 : ∀j,j≠u->g j=f j)(hK : ∀h' W',Owns W' h' o->MV d W' r g->Tn [r] W W'->h'.size=h.size->(∀b,b≠r->h'[b]? = h[b]?)->K undef h'):step P op ty us h K:=by refine kz hop ht hd hx hy hq hu (m.is w.wle) g hg hg2 λh' hs ho hm=>?_;obtain⟨es,c,h1⟩:=m.NG;obtain⟨es',c',h2,h3⟩:=hm.ex;have w':=w.turn h1 (λ_ _ _=>Obj.noConfusion) h2 hs ho;refine hK h' _ w' ⟨es',c',by unfold View.set;rw[if_pos rfl],h3⟩ (λb hb y hy=>?_) hs ho;unfold View.set;rw[if_neg (by simpa using hb)];exact hy
structure Ent(d:TypeDesc)(h:Heap)(r:Nat)(f:Value->Option Value)(u:Value)(st:Nat):Prop where
 ex : ∃(es:Array MapEntry) (clock j:Nat) (e:MapEntry),h[r]? = UK (.map es clock)/\(∀x∈es.toList,IsKey d x.key)/\Stamped es clock/\es[j]? = UK e/\e.born=st/\e.key=u/\∀k v,IsKey d k->k≠u->((∃x∈es.toList,x.key=k/\x.val=v)↔f k=UK v)
theorem find_born{l:List MapEntry}(hn:(l.map (·.born)).Nodup){j:Nat}{e0:MapEntry}(h:l[j]? = UK e0):l.findIdx? (λe=>((e.born:Nat):Int) == ((e0.born:Nat):Int))=UK j:=by
 induction l generalizing j with
 | nil=>simp at h
 | cons a r ih=>
  simp only[Sn,S0]at hn;cases j with
  | zero=>simp only[List.getElem?_cons_zero,Q2]at h;subst h;simp[List.findIdx?_cons]
  | succ j=>
   simp only[List.getElem?_cons_succ]at h;have hne:a.born≠e0.born:=λe1=>hn.1 (Sf.2 ⟨e0,RF h,e1.symm⟩);have hb:(((a.born:Nat):Int) == ((e0.born:Nat):Int))=false:=by simp only[beq_eq_false_iff_ne,ne_eq,Int.natCast_inj];exact hne
   rw[List.findIdx?_cons,hb];simp[ih hn.2 h]
theorem xX{P:Program}{ty t k e:TypeId}{us:List (Nat × Value)}{K:Value->Heap->Prop}{x y:Operand}{u z:Value}(ht:P.underlying t=UK (.map k e))(hd:P.underlying k=UK d)(hz:(P.info? e).map (·.zero)=UK (UK z))(hx:asg us x = .map (UK r))(hy:asg us y=u)(hu:IsKey d u)(m:di d h r f)(hk : ∀h' v st,h'.size=h.size->(∀b,b≠r->h'[b]? = h[b]?)->Ent d h' r f u st->K (.tuple #[v,UH UI (st:Nat)]) h'):step P (.mapEntry t x y) ty us h K:=by
 obtain⟨es,c,h1,h2,h3,h4⟩:=m.ex;simp only[Q6]at hz;obtain⟨i,hi,hz⟩:=hz;refine df (cB λw hw=>?_);subst hw;have hz':(zeroValue e).run P w = .ok z w:=by simp[zeroValue,typeInfo,hi,hz]
 have set_ : ∀o',(∀b,b≠r->(w.heap.setIfInBounds r o')[b]? = w.heap[b]?)/\(w.heap.setIfInBounds r o')[r]? = UK o':=λo'=>⟨(MapKept.heap_set (o':=o') h1).2,(MapKept.heap_set (o':=o') h1).1⟩;rcases findNow_spec hu es.toList 0 h2 with⟨g1,g2⟩ | ⟨j,q,g1,g2,g3⟩
 ·refine⟨.tuple #[z,goInt c],{ w with heap:=w.heap.setIfInBounds r (.map (es.push { key:=u,val:=z,born:=c }) (c+1)) },?_,Same.oQ rfl rfl rfl U2 h1 U2 (λk _ hne=>(set_ _).1 k hne),?_⟩
  ·simp only[bL,execOp,hx,hy];simp[Instr.mapEntry,run_underlying ht,MapKept.run_getObj_map h1,MapKept.run_checkKey hd hu,MapKept.run_findKey hd g1,hz',MapKept.run_setObj_map _ h1,Result.andThen]
  refine hk _ z c U2 (set_ _).1 ⟨_,_,es.size,{ key:=u,val:=z,born:=c },(set_ _).2,?_,stamped_push h3 g2,by simp,rfl,rfl,λp v hp hne=>?_⟩
  ·intro x hx;simp only[TM,Rj,Q8]at hx;rcases hx with hx | rfl
   ·exact h2 x hx
   exact hu
  rw[<-h4 p v hp];constructor
  ·rintro⟨x,hx,e1,e2⟩;simp only[TM,Rj,Q8]at hx;rcases hx with hx | rfl
   ·exact⟨x,hx,e1,e2⟩
   exact absurd e1.symm hne
  rintro⟨x,hx,e⟩;exact⟨x,by simp[show x∈es from by simpa using hx],e⟩
 have hj:es[j]? = UK q:=by simpa using g2
 have hsame:es.modify j (λe=>{ e with key:=u })=es:=by
  apply Array.ext_getElem?;intro i;rw[SY];by_cases e:j=i
  ·subst e;rw[if_pos rfl,hj];simp[<-g3]
  rw[if_neg e]
 refine⟨.tuple #[q.val,goInt q.born],{ w with heap:=w.heap.setIfInBounds r (.map es c) },?_,Same.oQ rfl rfl rfl U2 h1 U2 (λk _ hne=>(set_ _).1 k hne),?_⟩
 ·simp only[bL,execOp,hx,hy];simp[Instr.mapEntry,run_underlying ht,MapKept.run_getObj_map h1,MapKept.run_checkKey hd hu,MapKept.run_findKey hd g1,hj,g3,MapKept.run_keyThatStays hu,hsame,MapKept.run_setObj_map _ h1,Result.andThen]
 exact hk _ q.val q.born U2 (set_ _).1 ⟨es,c,j,q,(set_ _).2,h2,h3,hj,rfl,g3,λp v hp hne=>h4 p v hp⟩
theorem tF{P:Program}{ty t:TypeId}{us:List (Nat × Value)}{K:Value->Heap->Prop}{x s q:Operand}{u v:Value}{st:Nat}(hx:asg us x = .map (UK r))(hs:asg us s = UH UI (st:Nat))(hq:asg us q=v)(m:Ent d h r f u st)(hg:g u=UK v)(hg2 : ∀j,j≠u->g j=f j)(hk : ∀h',h'.size=h.size->(∀b,b≠r->h'[b]? = h[b]?)->di d h' r g->K undef h'):step P (.entryStore t x s q) ty us h K:=by
 obtain⟨es,c,j,e,h1,h2,h3,h4,h5,h6,h7⟩:=m.ex;refine df (pM λw hw=>?_);subst hw;have hst:Stamped (es.modify j (λe'=>{ e' with val:=v })) c:=stamped_modify h3 _ _ (λ_ _=>rfl) (λe' _ he'=>rfl);have hj:es.toList[j]? = UK e:=by simpa using h4
 have hidx:es.findIdx? (λe=>((e.born:Nat):Int) == (st:Int))=UK j:=by have:=find_born h3.2.1 hj;rw[h5]at this;cases es;simpa using this
 have hget : ∀i y,(es.modify j (λe'=>{ e' with val:=v }))[i]? = UK y↔(i=j/\y={ e with val:=v })\/(i≠j/\es[i]? = UK y):=by
  intro i y;rw[SY];by_cases hij:i=j
  ·subst hij;rw[if_pos rfl,h4];simp[eq_comm]
  rw[if_neg (Ne.symm hij)];simp[hij]
 have huniq : ∀i y,es[i]? = UK y->y.key=u->i=j:=by
  intro i y hy hk;have hnd:=h3.2.2;have e1:(es.toList.map (·.key))[i]? = UK u:=by simp[hy,hk]
  have e2:(es.toList.map (·.key))[j]? = UK u:=by simp[h4,h6]
  obtain⟨l1,q1⟩:=Sk.1 e1;obtain⟨l2,q2⟩:=Sk.1 e2;exact(List.getElem_inj hnd).1 (q1.trans q2.symm)
 refine⟨{ w with heap:=w.heap.setIfInBounds r (.map (es.modify j λe=>{ e with val:=v }) c) },?_,Same.oQ rfl rfl rfl U2 h1 U2 (λk _ hne=>(MapKept.heap_set h1).2 k hne),hk _ U2 (MapKept.heap_set h1).2 ⟨_,_,(MapKept.heap_set h1).1,?_,hst,?_⟩⟩
 ·simp only[bL,execOp,hx,hs,hq];simp[Instr.entryStore,MapKept.run_getObj_map h1,asInt,asIntOf,hidx,MapKept.run_setObj_map _ h1,Result.andThen]
 ·intro y hy;obtain⟨i,hi⟩:=SN hy;have hi:(es.modify j (λe'=>{ e' with val:=v }))[i]? = UK y:=by rw[Se]at hi;exact hi
  rcases(hget i y).1 hi with⟨_,rfl⟩ | ⟨_,g5⟩
  ·exact h2 e (RF hj)
  exact h2 y (RF (by simpa using g5))
 intro p val hp;constructor
 ·rintro⟨y,hy,e1,e2⟩;obtain⟨i,hi⟩:=SN hy;have hi:(es.modify j (λe'=>{ e' with val:=v }))[i]? = UK y:=by rw[Se]at hi;exact hi
  rcases(hget i y).1 hi with⟨_,rfl⟩ | ⟨g6,g5⟩
  ·have e1:e.key=p:=e1;have e2:v=val:=e2;rw[<-e1,h6,<-e2];exact hg
  have hne:p≠u:=λe=>g6 (huniq i y g5 (e1.trans e));rw[hg2 p hne];exact(h7 p val hp hne).1 ⟨y,RF (by simpa using g5),e1,e2⟩
 intro hv;by_cases hpu:p=u
 ·subst hpu;rw[hg]at hv;cases hv;refine⟨{ e with val:=v },RF (i:=j) ?_,h6,rfl⟩;rw[Se];exact(hget j _).2 (.inl ⟨rfl,rfl⟩)
 rw[hg2 p hpu]at hv;obtain⟨y,hy,e1,e2⟩:=(h7 p val hp hpu).2 hv;obtain⟨i,hi⟩:=SN hy;have hi':es[i]? = UK y:=by simpa using hi
 refine⟨y,RF (i:=i) ?_,e1,e2⟩;rw[Se];refine(hget i y).2 (.inr ⟨λe0=>?_,hi'⟩);subst e0;rw[h4]at hi';cases hi';exact hpu (e1.symm.trans h6)
theorem Owns.Jw(w:Owns W h o)(m:MV d W r f)(hs:h'.size=h.size)(ho : ∀b,b≠r->h'[b]? = h[b]?)(m':di d h' r g): ∃W',Owns W' h' o/\MV d W' r g/\Tn [r] W W':=by obtain⟨es,c,e1⟩:=m.NG;obtain⟨es',c',e2,e3⟩:=m'.ex;refine⟨_,w.turn e1 (λ_ _ _=>Obj.noConfusion) e2 hs ho,⟨es',c',by unfold View.set;rw[if_pos rfl],e3⟩,λb hb y hy=>?_⟩;unfold View.set;rw[if_neg (by simpa using hb)];exact hy
end
end
end Go.Lft
namespace Go.Lft
theorem Mn{t:cS}{v:Value}{h:Heap}(hv:Rd (vw h) v t):ay UQ 141 #[v] h (λu h'=>u = .bool (G2 t)/\(vw h).le (vw h')):=by
 refine aq (args:=[v]) follows Tryz.func141 E.om UC λK hK=>?_;dsimp only[L.om,lkF,lkG];refine aa λz hz=>?_;simp;refine fT rfl hv λh1 e1 hle1 hs1 at1=>?_;have k0:=(at1.part cS.yU).int;simp at k0;subst hz;have hb:G2 t=(decide (t.kind=1)||decide (t.kind=4)||decide (t.kind=5)):=rfl;by_cases c1:t.kind=1
 ·simp[k0,c1];exact hK _ _ ⟨by rw[hb];simp[c1],hle1⟩
 by_cases c4:t.kind=4
 ·simp[k0,c4];exact hK _ _ ⟨by rw[hb];simp[c4],hle1⟩
 simp[k0,c1,c4];exact hK _ _ ⟨by rw[hb];simp[c1,c4],hle1⟩
theorem H9{mk cost:NMap}{c v:Int}{l:List Int}:sumS mk cost c (v::l)=match mk v with
  | none=>sumS mk cost c l
  | some p=>match cost p with
   | none=>UL
   | some n=>sumS mk cost (c+n) l:=rfl
def Ov(mk cost:NMap)(takes:List Int):Prop:=∀v∈takes,∀p,mk v=UK p->∀n,cost p=UK n->0<=n/\n<=1000000000
theorem JR{C rm rc:Nat}{mk cost:NMap}{c:Int}{takes:List Int}{v:Value}{h:Heap}(x4:an (vw h) ⟨C,4,UL⟩=UK (.map (UK rm)))(x5:an (vw h) ⟨C,5,UL⟩=UK (.map (UK rc)))(mm:di (.int .i64) h rm (mapI mk))(mc:di (.int .i64) h rc (mapI cost))(hs:SlRd (vw h) v takes)(hc:0<=c/\c<=1000)(hco:Ov mk cost takes)(hl:takes.length<=30000):
  ay UQ 142 #[ptz C,UH UI c,v] h (λu h'=>h'=h/\u = .tuple #[UH UI ((sumS mk cost c takes).getD 0),.bool (sumS mk cost c takes).isSome]):=by
 refine aq (args:=[ptz C,UH UI c,v]) follows Tryz.func142 E.cA UC λK hK=>?_;dsimp only[L.cA,lkF,lkG];refine aa λz hz=>?_;simp;subst hz;refine aa λz hz=>?_;simp[hs.len];refine aG [0,1,14,15,16] (fun(s:Int) k=>[ptz C,UH UI s,v,UH UI takes.length,UH UI k])
  (λs k h2=>h2=h/\sumS mk cost c takes=sumS mk cost s (takes.drop k)/\0<=s/\s<=1000+(k:Int)*1000000000) takes.length c
  rfl U1 rfl ⟨rfl,rfl,hc.1,by omega⟩ (λ_ _=>rfl) (λv i h1 hk m=>by simp) ?_ ?_
 ·rintro s k h2 hk ⟨rfl,hsum,hs0,hs1⟩ K2 hK2;have q:=hs.idx1 (k:=.i64) (i:=(k:Int)) rfl U1 U1;have p:=hs.int UE (i:=k) hk;simp at q p;rw[RJ hk,<-aC hk]at hsum;refine dC ?_;refine aa λy hy=>?_;simp[q,p];subst hy;refine aa λy hy=>?_;simp[x4];refine eM (f:=mapI mk) (z:=UH UI 0) (k:=T.int) (e:=T.int) (d:=.int .i64) (r:=rm) (u:=UH UI (nth takes k)) U0 U0 U0 rfl rfl cV mm ?_;have ew:IntKind.i64.wrap ((k:Int)+1)=((k+1:Nat):Int):=by rw[bc U1 U1];omega
  have ek:((k+1:Nat):Int)=(k:Int)+1:=by omega
  rw[H9]at hsum;cases hm:mk (nth takes k)with
  | none=>rw[hm]at hsum;simp[hm];subst hy;simp;exact hK2 s _ _ rfl rfl ⟨rfl,hsum,hs0,by rw[ek];omega⟩
  | some p=>
   rw[hm]at hsum;dsimp only at hsum;simp[hm];subst hy;refine aa λy hy=>?_;simp;subst hy;refine aa λy hy=>?_;simp[x5];refine eM (f:=mapI cost) (z:=UH UI 0) (k:=T.int) (e:=T.int) (d:=.int .i64) (r:=rc) (u:=UH UI p) U0 U0 U0 rfl rfl cV mc ?_;cases hp:cost p with
   | none=>rw[hp]at hsum;simp[hp];subst hy;simp;exact hK _ _ ⟨rfl,by rw[hsum];rfl⟩
   | some n=>rw[hp]at hsum;obtain⟨n0,n1⟩:=hco _ (bF hk) p hm n hp;have ew2:IntKind.i64.wrap (s+n)=s+n:=bc U1 U1;simp[hp];subst hy;simp[ew2];exact hK2 (s+n) _ _ rfl rfl ⟨rfl,hsum,by omega,by rw[ek];omega⟩
 rintro s h2 ⟨rfl,hsum,hs0,hs1⟩;rw[List.drop_of_length_le (Q4 _)]at hsum;have hsum:sumS mk cost c takes=UK s:=hsum;simp;subst hz;simp;exact hK _ _ ⟨rfl,by rw[hsum];rfl⟩
structure Ch(W:View)(C rm rc rb:Nat)(f:ak)(b:Nat)(l:List aO):Prop where
 at_:At W ⟨C,0,UL⟩ f
 tl : ∃vl,an W ⟨C,2,UL⟩=UK vl/\SlRd W vl l
 bk:an W ⟨C,3,UL⟩=UK (UH UI b)
 x4:an W ⟨C,4,UL⟩=UK (.map (UK rm))
 x5:an W ⟨C,5,UL⟩=UK (.map (UK rc))
 x6:an W ⟨C,6,UL⟩=UK (.map (UK rb))
 sm:SmF f
 hb:b<f.blocks.length
 mem:ib
theorem Ch.mono{W W':View}{C rm rc rb:Nat}{f:ak}{b:Nat}{l:List aO}(c:Ch W C rm rc rb f b l)(hw:W.le W'):Ch W' C rm rc rb f b l:=by obtain⟨vl,t1,t2⟩:=c.tl;exact⟨c.at_.mono hw,⟨vl,ae hw t1,t2.mono hw⟩,ae hw c.bk,ae hw c.x4,ae hw c.x5,ae hw c.x6,c.sm,c.hb,c.mem⟩
set_option maxHeartbeats 1000000 in
theorem KG{C rm rc rb:Nat}{f:ak}{b i:Nat}{l:List aO}{best:NMap}{h:Heap}(c:Ch (vw h) C rm rc rb f b l)(mb:di (.int .i64) h rb (mapI best))(hbest : ∀p t,best p=UK t->0<=t/\t<l.length)(hi:i<=(nth f.blocks b).ins.length)(hpat : ∀t∈l,I64 t.pat):
  ay UQ 98 #[ptz C,UH UI i] h (λu h'=>(vw h).le (vw h')/\SlRd (vw h') u (kr f b l best i)):=by
 refine aq (args:=[ptz C,UH UI i]) follows Tryz.func98 E.fR UC λK hK=>?_;dsimp only[L.fR,lkF,lkG];obtain⟨-,vb,cb,sb⟩:=eU c.at_;have hbl:=c.hb;have hsm:=c.sm;have hlen:=hsm.len;have qb:=sb.idxn (k:=.i64) (N:=6) rfl (i:=(b:Int)) U1 U1;have n6:Rep.n BlkD=6:=rfl;obtain⟨ux,hux,rux⟩:=(sb.at hbl).ldN rfl (N:=6) rfl;have hux:=hux _ UE;simp[n6]at qb hux;have bk:=c.bk;refine aa λz hz=>?_;simp;subst hz;refine aa λz hz=>?_;refine aK (vw h) UE ?_;simp[cb,bk,qb,hux];have c0:=Cx.start (h:=h) (View.le_refl (vw h));refine c0.Cj (α:=BlkD) UE rux (n:=6) (z:=zz3) U0 rfl rfl U0 (λ_=>by rfl) (λ_=>by rfl) λB5 h1 W1 hW1 c1 at5 hle1=>?_;have at5:=at5.mono c1.wle;have c':=c.mono hle1;have mb:=mb.ext hle1;clear cb sb qb hux rux bk c1 hW1;obtain⟨vin,cin,sin⟩:=(at5.part BlkD.gO).list;obtain⟨vta,cta,sta⟩:=((at5.part BlkD.lF).part cS.eX).list;simp at cin cta;obtain⟨uF,huF,rF⟩:=c'.at_.ldN rfl (N:=2) rfl;subst hz;refine aa λz hz=>?_;simp[c'.x6];refine eM (f:=mapI best) (z:=UH UI 0) (k:=T.int) (e:=T.int) (d:=.int .i64) (r:=rb) (u:=UH UI i) U0 U0 U0 rfl rfl cV mb ?_;unfold kr at hK;cases hbi:best i with
 | some t=>
  rw[hbi]at hK;dsimp only at hK;obtain⟨t0,t1⟩:=hbest _ _ hbi;obtain⟨tn,rfl⟩:=Sg t0;rw[RB]at hK;have ht:tn<l.length:=by omega
  obtain⟨vl,cl,sl⟩:=c'.tl;have ql:=sl.idxn (k:=.i64) (N:=2) rfl (i:=(tn:Int)) U1 U1;have n2:Rep.n aO=2:=rfl;have kp:=((sl.at ht).part aO.AK).int;rw[<-aC ht]at kp;simp[n2]at ql kp;simp[hbi];subst hz;refine aa λz hz=>?_;refine dC ?_;refine aa λy hy=>?_;simp;subst hy;refine aQ U4 ?_;refine aa λy hy=>?_;refine aK (vw h1) UE ?_;simp[huF _ UE,c'.bk,cl,ql,kp];refine ah U0 (Eo (b:=(b:Int)) (p:=(i:Int)) (pat:=(nth l tn).pat) (W:=vw h1) UE rF hsm (λ_ _ _=>c.mem) (hpat _ (bF ht))) ?_;rintro _ h2 ⟨hle2,v1,v2,rfl,s1,s2⟩;simp;subst hy;simp;exact hK _ _ ⟨UF hle1 hle2,s1⟩
 | none=>
  rw[hbi]at hK;dsimp only at hK;simp[hbi];subst hz;refine aa λz hz=>?_;refine dC ?_;refine aa λy hy=>?_;simp;subst hy;refine bg U4 ?_;by_cases ci:i=(nth f.blocks b).ins.length
  ·rw[if_pos ci]at hK;refine j0 U4 ?_ ?_
   ·simp[cin,sin.len,ci];rw[aC hbl]
   simp[cta];exact hK _ _ ⟨hle1,by rw[aC hbl];exact sta⟩
  rw[if_neg ci]at hK;have ci2:¬i=f.blocks[b].ins.length:=by rw[<-aC hbl];exact ci
  refine jX U4 ?_ ?_
  ·simp[cin,sin.len];omega
  try simp
  subst hz;simp;exact hK _ _ ⟨hle1,aS⟩
structure Mz(B W:View)(h:Heap)(o:Own)(rs:List Nat):Prop where
 own:Owns W h o
 le:B.le W
 no : ∀r∈rs,B r=UL
 lt : ∀r∈rs,r<h.size
section
variable{B W W':View}{h h':Heap}{o:Own}{rs:List Nat}{po po2:OP}
theorem Mz.wle(m:Mz B W h o rs):B.le (vw h):=UF m.le m.own.wle
theorem Mz.ext(m:Mz B W h o rs)(hle:(vw h).le (vw h')):Mz (grow B h h') (grow W h h') h' o rs:=
 ⟨m.own.ext hle,λb x hb=>by
  unfold grow at hb ⊢;split at hb
  ·rename_i c;rw[if_pos c];exact m.le b x hb
  rename_i c;rw[if_neg c];exact hb,λr hr=>by rw[gP (m.lt r hr)];exact m.no r hr,λr hr=>Sc (m.lt r hr) (bO hle)⟩
theorem Mz.up(m:Mz B W h o rs):B.le (grow B h h'):=bo m.wle
theorem Mz.upW(m:Mz B W h o rs):W.le (grow W h h'):=bo m.own.wle
theorem Mz.turn(m:Mz B W h o rs){r:Nat}(hr:r∈rs)(w:Owns W' h' o)(t:Tn [r] W W')(hs:h'.size=h.size):Mz B W' h' o rs:=
 ⟨w,t.le m.le λb hb=>by rw[Q8.1 hb];exact m.no r hr,m.no,λq hq=>by rw[hs];exact m.lt q hq⟩
theorem Mz.more(m:Mz B W h o rs){r:Nat}(hn:B r=UL)(hl:r<h.size):Mz B W h o (r::rs):=
 ⟨m.own,m.le,λq hq=>by
  rcases Ru.1 hq with rfl | hq
  ·exact hn
  ·exact m.no q hq,λq hq=>by
  rcases Ru.1 hq with rfl | hq
  ·exact hl
  exact m.lt q hq⟩
end
theorem MC{A B:View}{u:Value}{l:List Int}(s:SrcT A B u l):SrcT A nothing u l:=by obtain⟨a,c,h1,h2,news,h3,h4,h5⟩:=s;exact⟨a,c,h1,h2,news,h3,h4,λi hi=>h5 i hi⟩
theorem wu{v:Value}{l:List Int}{h:Heap}(hv:SlRd (vw h) v l)(hb:l.length<=1000000) :
  ay UQ 52 #[v] h (λu h'=>(vw h).le (vw h')/\∀X:View,X.le (vw h)->Rd (α:=NRow X T.int Int) (grow nothing h h') u l):=by
 refine aq (args:=[v]) follows Tryz.func52 E.fA UC λK hK=>?_;dsimp only[L.fA,lkF,lkG];have hv0:=hv;obtain⟨a,cap,rfl,g1,g2,g3⟩:=hv0;refine aa λz hz=>?_;simp;subst hz;refine aa λz hz=>?_;refine aa λy hy=>?_;simp;refine ze U.aY rfl rfl ?_;subst hy;by_cases ha:a=UL
 ·subst ha;have hl:l=[]:=by
   rcases g3 with g3 | ⟨ad,g3,_⟩
   ·first | exact g3 | exact Ry (by simpa using g3)
   cases g3
  subst hl;simp;exact hK _ _ ⟨View.le_refl _,λX _=>sf⟩
 have hi:a.isNone=false:=by cases a<;>simp at ha ⊢
 simp[hi];subst hz;refine aa λz hz=>?_;simp;refine pU (α:=Int) El.aY λh1 hle1 hs1 own1=>?_;have m1:=Mine.empty (V:=nothing) (W:=nothing) UE hle1 (λ_ _ e=>nomatch e) (Old.refl _ _) own1;refine dA (α:=Int) (l:=[]) (l2:=l) El.aY rfl rfl m1.own (MC (hv.src hle1)) U9 U9 λv2 h2 own2 mv=>?_;have m2:=m1.gA own2 mv;subst hz;simp;refine hK _ _ ⟨m2.old,λX hX=>m2.row hX⟩
structure Cw(B W:View)(h:Heap)(o:Own)(C rm rc rb:Nat)(f:ak)(b:Nat)(l:List aO)(mk:NMap)(s:CB)(rs:List Nat):Prop where
 z:Mz B W h o rs
 ch:Ch B C rm rc rb f b l
 mm:MV (.int .i64) W rm (mapI mk)
 mc:MV (.int .i64) W rc (mapI s.cost)
 mb:MV (.int .i64) W rb (mapI s.best)
 ne:rm≠rc/\rm≠rb/\rc≠rb
 cin:rc∈rs
 bin:rb∈rs
section
variable{B W W':View}{h h':Heap}{o:Own}{C rm rc rb:Nat}{f:ak}{b:Nat}{l:List aO}{mk:NMap}{s:CB}{rs:List Nat}
theorem Cw.ext(c:Cw B W h o C rm rc rb f b l mk s rs)(hle:(vw h).le (vw h')):Cw (grow B h h') (grow W h h') h' o C rm rc rb f b l mk s rs:=
 ⟨c.z.ext hle,c.ch.mono c.z.up,c.mm.mono c.z.upW,c.mc.mono c.z.upW,c.mb.mono c.z.upW,c.ne,c.cin,c.bin⟩
theorem Cw.at_(c:Cw B W h o C rm rc rb f b l mk s rs):Ch (vw h) C rm rc rb f b l:=c.ch.mono c.z.wle
theorem Cw.m1(c:Cw B W h o C rm rc rb f b l mk s rs):di (.int .i64) h rm (mapI mk):=c.mm.is c.z.own.wle
theorem Cw.m2(c:Cw B W h o C rm rc rb f b l mk s rs):di (.int .i64) h rc (mapI s.cost):=c.mc.is c.z.own.wle
theorem Cw.m3(c:Cw B W h o C rm rc rb f b l mk s rs):di (.int .i64) h rb (mapI s.best):=c.mb.is c.z.own.wle
end
theorem Cw.less{B W:View}{h:Heap}{o:Own}{C rm rc rb r:Nat}{f:ak}{b:Nat}{l:List aO}{mk:NMap}{s:CB}{rs:List Nat}(c:Cw B W h o C rm rc rb f b l mk s (r::rs))(h1:rc∈rs)(h2:rb∈rs):Cw B W h o C rm rc rb f b l mk s rs:=
 ⟨⟨c.z.own,c.z.le,λq hq=>c.z.no q (Q7 _ hq),λq hq=>c.z.lt q (Q7 _ hq)⟩,c.ch,c.mm,c.mc,c.mb,c.ne,h1,h2⟩
theorem xF{f:ak}{b:Nat}{l:List aO}{mk:NMap}{i:Nat}{s:CB}{j:Int}(h:j≠i) : ∀{k:Nat},(Lft.up (cD f b l mk i) k s).cost j=s.cost j
 | 0=>rfl
 | k+1=>by
  have ih:=xF (f:=f) (b:=b) (l:=l) (mk:=mk) (s:=s) h (k:=k);show(cD f b l mk i k (Lft.up (cD f b l mk i) k s)).cost j=_;generalize Lft.up (cD f b l mk i) k s=q at *;unfold cD;split
  ·exact ih
  split
  ·exact(if_neg h:putM q.cost i _ j=q.cost j).trans ih
  exact ih
theorem Cw.putC{B W W':View}{h h':Heap}{o:Own}{C rm rc rb:Nat}{f:ak}{b:Nat}{l:List aO}{mk:NMap}{s:CB}{rs:List Nat}{cost:NMap}(c:Cw B W h o C rm rc rb f b l mk s rs)(w:Owns W' h' o)(m:MV (.int .i64) W' rc (mapI cost))(t:Tn [rc] W W')(hs:h'.size=h.size):Cw B W' h' o C rm rc rb f b l mk ⟨cost,s.best⟩ rs:=
 ⟨c.z.turn c.cin w t hs,c.ch,c.mm.tn t (by simp[c.ne.1]),m,c.mb.tn t (by simp;exact λe=>c.ne.2.2 e.symm),c.ne,c.cin,c.bin⟩
theorem Cw.putB{B W W':View}{h h':Heap}{o:Own}{C rm rc rb:Nat}{f:ak}{b:Nat}{l:List aO}{mk:NMap}{s:CB}{rs:List Nat}{best:NMap}(c:Cw B W h o C rm rc rb f b l mk s rs)(w:Owns W' h' o)(m:MV (.int .i64) W' rb (mapI best))(t:Tn [rb] W W')(hs:h'.size=h.size):Cw B W' h' o C rm rc rb f b l mk ⟨s.cost,best⟩ rs:=
 ⟨c.z.turn c.bin w t hs,c.ch,c.mm.tn t (by simp[c.ne.2.1]),c.mc.tn t (by simp[c.ne.2.2]),m,c.ne,c.cin,c.bin⟩
def Ly(W:View)(o:Own)(C rm rc rb:Nat)(f:ak)(b:Nat)(l:List aO)(mk:NMap)(s:CB)(B:View)(rs:List Nat)(h':Heap):Prop:=
 ∃B' W',B.le B'/\Tn [rc,rb] W W'/\Cw B' W' h' o C rm rc rb f b l mk s rs
set_option maxHeartbeats 2000000 in
theorem J3{B W:View}{h:Heap}{o:Own}{C rm rc rb:Nat}{f:ak}{b i:Nat}{l:List aO}{mk:NMap}{s:CB}{rs:List Nat}(c:Cw B W h o C rm rc rb f b l mk s rs)(hi:i<=(nth f.blocks b).ins.length)(hco : ∀p:Int,p<i->∀n,s.cost p=UK n->0<=n/\n<=1000000000)(hah : ∀pat x,dL f b i pat=UK x->∀v∈x.takes,∀p,mk v=UK p->p<i)(hta : ∀v∈(nth f.blocks b).term.args,∀p,mk v=UK p->p<(nth f.blocks b).ins.length)(htl : ∀pat x,dL f b i pat=UK x->x.takes.length<=30000)(hcl : ∀t∈l,0<=t.cost/\t.cost<=1000)(hpat : ∀t∈l,I64 t.pat) :
  ay UQ 97 #[ptz C,UH UI i] h (λu h'=>Ly W o C rm rc rb f b l mk (plc8 f b l mk i s) B rs h'):=by
 refine aq (args:=[ptz C,UH UI i]) follows Tryz.func97 E.bV UC λK hK=>?_;dsimp only[L.bV,lkF,lkG];have cv:=c.at_;have hbl:=cv.hb;have hsm:=cv.sm;have hlen:=hsm.len;obtain⟨-,vb,cb,sb⟩:=eU cv.at_;have qb:=sb.idxn (k:=.i64) (N:=6) rfl (i:=(b:Int)) U1 U1;have n6:Rep.n BlkD=6:=rfl;obtain⟨ux,hux,rux⟩:=(sb.at hbl).ldN rfl (N:=6) rfl;have hux:=hux _ UE;simp[n6]at qb hux;have bk:=cv.bk;refine aa λz hz=>?_;refine aK (vw h) UE ?_;simp[cb,bk,qb,hux];have c0:=Cx.start (h:=h) (View.le_refl (vw h));refine c0.Cj (α:=BlkD) UE rux (n:=6) (z:=zz3) U0 rfl rfl U0 (λ_=>by rfl) (λ_=>by rfl) λB5 h1 W1 hW1 c1 at5 hle1=>?_;have at5:=at5.mono c1.wle;have cw1:=c.ext hle1;have hB1:=c.z.up (h':=h1);have hWW1:=c.z.upW (h':=h1);clear cb sb qb hux rux bk c1 hW1 cv;obtain⟨vin,cin,sin⟩:=(at5.part BlkD.gO).list;obtain⟨vta,cta,sta⟩:=((at5.part BlkD.lF).part cS.eX).list;obtain⟨uT,huT,rT⟩:=(at5.part BlkD.lF).ldN rfl (N:=4) rfl;simp at cin cta huT;rw[<-aC hbl]at sin sta rT;subst hz;refine aa λz hz=>?_;refine aa λy hy=>?_;have rest : ∀(h2:Heap) (B2 W2:View),B.le B2->W.le W2->Cw B2 W2 h2 o C rm rc rb f b l mk s rs->(vw h1).le (vw h2)->kh f b i=UP->
   ∀ρ,Slk ρ [(0,ptz C),(1,UH UI i),(4,ptz B5)]->LC.wp UQ z (dY [] K) ρ h2:=by
  intro h2 B2 W2 hB2 hW2 cw2 hle2 hbare ρ hS;rw[hz];have hres:plc8 f b l mk i s=Lft.up (cD f b l mk i) l.length s:=by unfold plc8;rw[if_neg (by rw[hbare];simp)]
  rw[hres]at hK;simp only[ij,jR,and_true]at hS;obtain⟨e0,e1,e4⟩:=hS;have bl:=(let ⟨_,_,s⟩:=cw2.ch.tl;s.bound:l.length<=140737488355328);refine aa λy hy=>?_;simp;refine cw2.z.own.nA (d:=.int .i64) λh3 W3 hW3 hle3 w3 hn3 m3=>?_;obtain⟨rf,hrf⟩ : ∃rf,rf=h2.size:=⟨_,rfl⟩;rw[<-hrf]at hn3 m3 ⊢;have hBn:B2 rf=none:=by
   cases hq:B2 rf with
   | none=>rfl
   | some x=>have:=cw2.z.le rf x hq;rw[hn3]at this;cases this
  have hne : ∀{q:Nat} {g:Value->Option Value},MV (.int .i64) W2 q g->q≠rf:=λm e=>by obtain⟨es,cl,h1⟩:=m.NG;rw[e,hn3]at h1;cases h1
  have n1:=hne cw2.mc;have n2:=hne cw2.mb;have n3:=hne cw2.mm;have cw3:Cw B2 W3 h3 o C rm rc rb f b l mk s (rf::rs):=⟨(⟨w3,UF cw2.z.le hW3,cw2.z.no,λr hr=>Sc (cw2.z.lt r hr) (bO hle3)⟩:Mz B2 W3 h3 o rs).more hBn (m3.is w3.wle).lt,cw2.ch,cw2.mm.mono hW3,cw2.mc.mono hW3,cw2.mb.mono hW3,cw2.ne,Q7 _ cw2.cin,Q7 _ cw2.bin⟩;obtain⟨vl,cl,sl⟩:=cw3.ch.tl;subst hy;simp[af,ag,e0,e1,e4,ae cw3.z.wle cl,sl.len];refine aG [0,1,7,59,60,61] (fun(_:Unit) k=>[ptz C,UH UI i,.map (UK rf),vl,UH UI l.length,UH UI k])
   (λ_ k h=>∃Bk Wk fits,B2.le Bk/\Tn [rc,rb,rf] W3 Wk/\Cw Bk Wk h o C rm rc rb f b l mk (Lft.up (cD f b l mk i) k s) (rf::rs)/\MV (.int .i64) Wk rf (mapE id fits)/\∀p v,fits p=UK v->∃x,dL f b i p=UK x/\SlRd Bk v x.takes) l.length ()
   U0 U1 (by simp[aX,af,ag,e0,e1,e4]) ⟨B2,W3,λ_=>UL,View.le_refl _,Tn.refl,cw3,by rw[nh];exact m3,λ_ _ h=>by cases h⟩ (λ_ _=>rfl) (λv i h1 hk m=>by simp) ?_ ?_
  ·rintro _ k h4 hk ⟨Bk,Wk,fits,lBk,tk,cwk,mf,hf⟩ K2 hK2;have hk:k<l.length:=hk;obtain⟨ut,hut,rut⟩:=sl.wh rfl (N:=2) rfl hk;have lh4:B2.le (vw h4):=UF lBk cwk.z.wle;have qt:=(sl.mono lh4).idxn (k:=.i64) (N:=2) rfl (i:=(k:Int)) U1 U1;simp at qt;refine dC ?_;refine aa λy hy=>?_;simp[qt,hut _ lh4];refine dw (X:=Bk) (z:=zz1) U0 rfl U0 (rut.mono lBk) U5 U5 λh5 hle5 _ at5=>?_;have at5:=at5 (grow Bk h4 h5) cwk.z.up (bY (Q4 _));generalize h4.size=Tb at at5;have kp:an (grow Bk h4 h5) ⟨Tb,0,UL⟩=UK (UH UI (nth l k).pat):=by simpa using(at5.part aO.AK).int
   have kc:an (grow Bk h4 h5) ⟨Tb,1,UL⟩=UK (UH UI (nth l k).cost):=by simpa using(at5.part aO.BJ).int
   have cw5:=cwk.ext hle5;have mf5:=mf.mono (cwk.z.upW (h':=h5));have hf5 : ∀p v,fits p=UK v->∃x,dL f b i p=UK x/\SlRd (grow Bk h4 h5) v x.takes:=λp v hv=>by obtain⟨x,h1,h2⟩:=hf p v hv;exact⟨x,h1,h2.mono cwk.z.up⟩
   have tk5:Tn [rc,rb,rf] W3 (grow Wk h4 h5):=tk.trans (Tn.of_le (cwk.z.upW (h':=h5)));have lB5:B2.le (grow Bk h4 h5):=UF lBk (cwk.z.up (h':=h5));clear at5 hf mf hle5 rut hut qt tk;generalize grow Bk h4 h5=B5' at *;generalize grow Wk h4 h5=W5 at *;subst hy;have ew:IntKind.i64.wrap ((k:Int)+1)=((k+1:Nat):Int):=by rw[bc U1 U1];omega
   have hup:Lft.up (cD f b l mk i) (k+1) s=cD f b l mk i k (Lft.up (cD f b l mk i) k s):=rfl;have hcs : ∀p:Int,p<i->(Lft.up (cD f b l mk i) k s).cost p=s.cost p:=λp hp=>xF U1;generalize hsk:Lft.up (cD f b l mk i) k s=sk at *;refine aa λy hy=>?_;simp[ae cw5.z.wle kp];refine eM (f:=mapE id fits) (z:=UM UL 0 0) (k:=T.int) (e:=T.aY) (d:=.int .i64) (r:=rf) (u:=UH UI (nth l k).pat) U0 U0 U0 rfl rfl cV (mf5.is cw5.z.own.wle) ?_;simp;subst hy;refine aa λy hy=>?_;have cont : ∀(h6:Heap) (B6 W6:View) (fits6:Int->Option Value) (v:Value) (x:FitD) (ρ:Env),dL f b i (nth l k).pat=UK x->SlRd B6 v x.takes->B5'.le B6->Tn [rc,rb,rf] W3 W6->Cw B6 W6 h6 o C rm rc rb f b l mk sk (rf::rs)->MV (.int .i64) W6 rf (mapE id fits6)->
     (∀p v,fits6 p=UK v->∃x,dL f b i p=UK x/\SlRd B6 v x.takes)->Slk ρ [(0,ptz C),(1,UH UI i),(7,.map (UK rf)),(8,UH UI k),(9,ptz Tb),(10,v),(59,vl),(60,UH UI l.length),(61,UH UI k)]->
     LC.wp UQ y (dT 1 (fJ K2 (dT 0 (dY [] K)))) ρ h6:=by
    intro h6 B6 W6 fits6 v x ρ hx hv lB6 t6 cw6 mf6 hf6 hS;simp only[ij,jR,and_true]at hS;obtain⟨r0,r1,r7,r8,r9,r10,r59,r60,r61⟩:=hS;rw[hy];have hw:wS f b l mk sk.cost i k=sumS mk sk.cost (nth l k).cost x.takes:=by unfold wS;rw[hx];rfl
    have kc6:=ae (UF lB6 cw6.z.wle) kc;obtain⟨hc0,hc1⟩:=hcl _ (bF hk);refine aa λw hw'=>?_;simp[r0,r9,r10,kc6];refine ah U0 (JR cw6.at_.x4 cw6.at_.x5 cw6.m1 cw6.m2 (hv.mono cw6.z.wle) ⟨hc0,hc1⟩ (λv hv p hp n hn=>by have hlt:=hah _ x hx v hv p hp;rw[hcs p hlt]at hn;exact hco p hlt n hn) (htl _ x hx)) ?_;rintro _ h6 ⟨rfl,rfl⟩;rw[<-hw];simp[af,ag];rw[hw'];clear hw' w;refine aa λw hw'=>?_;simp[af,ag,r0,r1,cw6.at_.x5];refine eM (f:=mapI sk.cost) (z:=UH UI 0) (k:=T.int) (e:=T.int) (d:=.int .i64) (r:=rc) (u:=UH UI i) U0 U0 U0 rfl rfl cV cw6.m2 ?_;simp[af,ag];rw[hw'];clear hw' w;generalize hρ:setE _ 18 (Value.bool (sk.cost (i:Int)).isSome)=ρ2;have l0:Lft.look ρ2 0=UK (ptz C):=by rw[<-hρ];simp[af,ag,r0]
    have l1:Lft.look ρ2 1=UK (UH UI i):=by rw[<-hρ];simp[af,ag,r1]
    have l7:Lft.look ρ2 7=UK (.map (UK rf)):=by rw[<-hρ];simp[af,ag,r7]
    have l8:Lft.look ρ2 8=UK (UH UI k):=by rw[<-hρ];simp[af,ag,r8]
    have l59:Lft.look ρ2 59=UK vl:=by rw[<-hρ];simp[af,ag,r59]
    have l60:Lft.look ρ2 60=UK (UH UI l.length):=by rw[<-hρ];simp[af,ag,r60]
    have l61:Lft.look ρ2 61=UK (UH UI k):=by rw[<-hρ];simp[af,ag,r61]
    have l15:Lft.look ρ2 15=UK (UH UI ((wS f b l mk sk.cost i k).getD 0)):=by rw[<-hρ];simp[af,ag]
    have l16:Lft.look ρ2 16=UK (.bool (wS f b l mk sk.cost i k).isSome):=by rw[<-hρ];simp[af,ag]
    have l17:Lft.look ρ2 17=UK (UH UI ((sk.cost i).getD 0)):=by rw[<-hρ];simp[af,ag]
    have l18:Lft.look ρ2 18=UK (.bool (sk.cost i).isSome):=by rw[<-hρ];simp[af,ag]
    clear hρ r0 r1 r7 r8 r9 r10 r59 r60 r61 ρ;have skip:Lft.up (cD f b l mk i) (k+1) s=sk->∀ρ3,(∀q,q∈[0,1,7,59,60,61]->Lft.look ρ3 q=Lft.look ρ2 q)->K2 ρ3 h6:=λe ρ3 h3=>by refine hK2 () _ _ (by rw[h3 61 U2,l61]) ?_ ⟨B6,W6,fits6,UF lB5 lB6,t6,by rw[e];exact cw6,mf6,hf6⟩;have:=λq hq=>h3 q hq;simp at this;obtain⟨a0,a1,a7,a59,a60,a61⟩:=this;simp[aX,af,a0,a1,a7,a59,a60,a61,l0,l1,l7,l59,l60,l61]
    cases hws:wS f b l mk sk.cost i k with
    | none=>
     rw[hws]at l15 l16;have e:cD f b l mk i k sk=sk:=by unfold cD;rw[hws]
     simp[l16,af,ag];exact skip (hup.trans e) _ (by simp[af,ag])
    | some n=>
     rw[hws]at l15 l16;simp at l15;refine aa λw hw'=>?_;have upd:zy n (sk.cost i)=UO->∀ρ3,Lft.look ρ3 125=UK (.bool UO)->(∀q,q∈[0,1,7,8,15,59,60,61]->Lft.look ρ3 q=Lft.look ρ2 q)->LC.wp UQ w (dT 1 (fJ K2 (dT 0 (dY [] K)))) ρ3 h6:=by
      intro hless ρ3 h125 h3;simp at h3;obtain⟨a0,a1,a7,a8,a15,a59,a60,a61⟩:=h3;rw[l0]at a0;rw[l1]at a1;rw[l7]at a7;rw[l8]at a8;rw[l15]at a15;rw[l59]at a59;rw[l60]at a60;rw[l61]at a61;rw[hw'];refine aQ (by simp[h125]) ?_;refine aK B6 cw6.z.wle ?_;have hr1:B6 rc=none:=cw6.z.no rc cw6.cin;have hr2:B6 rb=none:=cw6.z.no rb cw6.bin;obtain⟨g1,g2⟩:=vF (f:=sk.cost) (g:=putM sk.cost i n) (j:=(i:Int)) (v:=n) (λ_=>rfl);obtain⟨g3,g4⟩:=vF (f:=sk.best) (g:=putM sk.best i (k:Int)) (j:=(i:Int)) (v:=(k:Int)) (λ_=>rfl);simp[ag,a0,a1,a8,a15,cw6.ch.x5,cw6.ch.x6];refine xX (d:=.int .i64) (r:=rc) (f:=mapI sk.cost) (u:=UH UI i) (z:=UH UI 0) (k:=T.int) (e:=T.int) U0 U0 U0 rfl rfl cV cw6.m2 λh7 v7 st7 hs7 ho7 en7=>?_;simp[af];refine tF (v:=UH UI n) rfl rfl rfl en7 g1 g2 λh8 hs8 ho8 m8=>?_;obtain⟨W8,w8,mv8,t8⟩:=cw6.z.own.Jw cw6.mc (hs8.trans hs7) (λq hq=>(ho8 q hq).trans (ho7 q hq)) m8;have cw8:=cw6.putC w8 mv8 t8 (hs8.trans hs7);refine xX (d:=.int .i64) (r:=rb) (f:=mapI sk.best) (u:=UH UI i) (z:=UH UI 0) (k:=T.int) (e:=T.int) U0 U0 U0 rfl rfl cV cw8.m3 λh9 v9 st9 hs9 ho9 en9=>?_;simp[af,ag,a8,a15,a1];refine tF (v:=UH UI k) rfl rfl rfl en9 g3 g4 λh10 hs10 ho10 m10=>?_;obtain⟨W10,w10,mv10,t10⟩:=cw8.z.own.Jw cw8.mb (hs10.trans hs9) (λq hq=>(ho10 q hq).trans (ho9 q hq)) m10;have cw10:=cw8.putB w10 mv10 t10 (hs10.trans hs9);have e:cD f b l mk i k sk=⟨putM sk.cost i n,putM sk.best i (k:Int)⟩:=by unfold cD;rw[hws];dsimp only;rw[if_pos hless]
      refine hK2 () _ _ (by simp[af,ag,a61]) (by simp[aX,af,ag,a0,a1,a7,a59,a60,a61]) ⟨B6,W10,fits6,UF lB5 lB6,(t6.trans (t8.weak U2)).trans (t10.weak U2),by rw[hup,e];exact cw10,(mf6.tn t8 (by simp;exact λe=>n1 e.symm)).tn t10 (by simp;exact λe=>n2 e.symm),hf6⟩
     cases hc:sk.cost i with
     | none=>rw[hc]at l17 l18;simp[l15,l16,l17,l18,af,ag];exact upd (by rw[hc];rfl) _ (by simp[af,ag]) (by simp[af,ag])
     | some m=>
      rw[hc]at l17 l18;simp at l17;by_cases hlt:n<m
      ·simp[l15,l16,l17,l18,af,ag,hlt];exact upd (by rw[hc];simp[zy,hlt]) _ (by simp[af,ag]) (by simp[af,ag])
      have e:cD f b l mk i k sk=sk:=by unfold cD;rw[hws];dsimp only;rw[hc,if_neg (by simp[zy,hlt])]
      simp[l15,l16,l17,l18,af,ag,hlt];rw[hw'];simp[af,ag];exact skip (hup.trans e) _ (by simp[af,ag])
   cases hfi:fits (nth l k).pat with
   | some v=>obtain⟨x,hx,hv⟩:=hf5 _ _ hfi;simp;exact cont h5 B5' W5 fits v x _ hx hv UE tk5 cw5 mf5 hf5 (by simp[ij,jR])
   | none=>
    simp;obtain⟨uF,huF,rF⟩:=cw5.ch.at_.ldN rfl (N:=2) rfl;refine aK B5' cw5.z.wle ?_;simp[huF _ UE,cw5.ch.bk,kp];refine ah U0 (Eo (b:=(b:Int)) (p:=(i:Int)) (pat:=(nth l k).pat) (W:=B5') cw5.z.wle rF cw5.ch.sm (λ_ _ _=>cw5.ch.mem) (hpat _ (bF hk))) ?_;rintro _ h6 ⟨hle6,v1,v2,rfl,hv1,hv2⟩;have cw6:=cw5.ext hle6;have mf6:=mf5.mono (cw5.z.upW (h':=h6));have hf6 : ∀p v,fits p=UK v->∃x,dL f b i p=UK x/\SlRd (grow B5' h5 h6) v x.takes:=λp v hv=>by obtain⟨x,h1,h2⟩:=hf5 p v hv;exact⟨x,h1,h2.mono cw5.z.up⟩
    have tk6:Tn [rc,rb,rf] W3 (grow W5 h5 h6):=tk5.trans (Tn.of_le (cw5.z.upW (h':=h6)));have lB6:B5'.le (grow B5' h5 h6):=cw5.z.up;generalize grow B5' h5 h6=B6 at *;generalize grow W5 h5 h6=W6 at *;clear hle6 hv2;cases hm:dL f b i (nth l k).pat with
    | none=>
     simp[af,ag];have hw0:wS f b l mk sk.cost i k=none:=by unfold wS;rw[hm];rfl
     have e:cD f b l mk i k sk=sk:=by unfold cD;rw[hw0]
     refine hK2 () _ _ (by simp[af,ag]) (by simp[aX,af,ag]) ⟨B6,W6,fits,UF lB5 lB6,tk6,by rw[hup,e];exact cw6,mf6,hf6⟩
    | some x=>
     rw[hm]at hv1;have hv1:SlRd (vw h6) v1 x.takes:=hv1;simp[af,ag];have hxl:=htl _ x hm;refine ah U0 (wu hv1 U1) ?_;rintro v7 h7 ⟨hle7,hv7⟩;have hv7:=(jN.1 (hv7 nothing λ_ _ e=>nomatch e)).1;have cw7:=cw6.ext hle7;have mf7:=mf6.mono (cw6.z.upW (h':=h7));have hv7:SlRd (grow B6 h6 h7) v7 x.takes:=hv7.mono λb x hb=>by
      unfold grow at hb ⊢;split at hb
      ·cases hb
      rename_i c;rw[if_neg c];exact hb
     simp[ae (UF lB6 (UF cw6.z.up cw7.z.wle)) kp];obtain⟨g1,g2⟩:=iy (enc:=(id:Value->Value)) (f:=fits) (j:=(nth l k).pat) (v:=v7);refine cw7.z.own.pI mf7 (.inl rfl) (t:=T.EF) (k:=T.int) (e:=T.aY) (u:=UH UI (nth l k).pat) (v:=v7) U0 U0 rfl rfl rfl cV g1 g2 λh8 W8 w8 m8 t8 hs8 _=>?_;have cw8:Cw (grow B6 h6 h7) W8 h8 o C rm rc rb f b l mk sk (rf::rs):=⟨cw7.z.turn (Rm ..) w8 t8 hs8,cw7.ch,cw7.mm.tn t8 (by simp;exact n3),cw7.mc.tn t8 (by simp;exact n1),cw7.mb.tn t8 (by simp;exact n2),cw7.ne,cw7.cin,cw7.bin⟩;refine cont h8 _ W8 (putM fits (nth l k).pat v7) v7 x _ hm hv7 (UF lB6 cw6.z.up) ((tk6.trans (Tn.of_le cw6.z.upW)).trans (t8.weak U2)) cw8 m8 (λp v hv=>?_) (by simp[ij,jR]);by_cases hp:p=(nth l k).pat
     ·subst hp;unfold putM at hv;rw[if_pos rfl]at hv;cases hv;exact⟨x,hm,hv7⟩
     unfold putM at hv;rw[if_neg hp]at hv;obtain⟨x2,q1,q2⟩:=hf6 p v hv;exact⟨x2,q1,q2.mono cw6.z.up⟩
  rintro _ h4 ⟨Bk,Wk,fits,lBk,tk,cwk,-,-⟩;simp;refine hK _ _ ⟨Bk,Wk,UF hB2 lBk,λq hq x hx=>?_,cwk.less c.cin c.bin⟩;have hx2:=hW2 q x hx;refine tk q ?_ x (hW3 q x hx2);have:q≠rf:=λe=>by rw[e,hn3]at hx2;cases hx2
  simp at hq ⊢;exact⟨hq.1,hq.2,this⟩
 by_cases ci:i=(nth f.blocks b).ins.length
 ·simp[cin,sin.len,ci,huT _ UE];refine ah U0 (Mn rT) ?_;rintro _ h2 ⟨rfl,hle2⟩;have cw2:=cw1.ext hle2;cases hb:G2 (nth f.blocks b).term with
  | true=>
   have hbare:kh f b i=true:=by unfold kh;simp[ci,hb]
   subst hy;refine aQ U4 ?_;refine aa λy hy=>?_;simp[ae hle2 cta];have hal:=(hsm.blk b hbl).args;have lB:=UF hB1 (cw1.z.up (h':=h2));have lW:=UF hWW1 (cw1.z.upW (h':=h2));refine ah U0 (JR cw2.at_.x4 cw2.at_.x5 cw2.m1 cw2.m2 (sta.mono hle2) U6 (λv hv p hp n hn=>hco p (by rw[ci];exact hta v hv p hp) n hn) U1) ?_;rintro _ h2 ⟨rfl,rfl⟩;cases hsum:sumS mk s.cost 0 (nth f.blocks b).term.args with
   | none=>rw[show plc8 f b l mk i s=s from by unfold plc8;rw[if_pos hbare,hsum]]at hK;simp;subst hy;simp;exact hK _ _ ⟨_,_,lB,Tn.of_le lW,cw2⟩
   | some n=>rw[show plc8 f b l mk i s=⟨putM s.cost i n,s.best⟩ from by unfold plc8;rw[if_pos hbare,hsum]]at hK;simp;subst hy;simp[cw2.at_.x5];obtain⟨g1,g2⟩:=vF (f:=s.cost) (g:=putM s.cost i n) (j:=(i:Int)) (v:=n) (λ_=>rfl);refine cw2.z.own.pI cw2.mc (.inl rfl) (t:=T.AP) (k:=T.int) (e:=T.int) (u:=UH UI i) U0 U0 rfl (by rw[ci];rfl) rfl cV g1 g2 λh3 W3 w3 m3 t3 hs3 _=>?_;refine hK _ _ ⟨_,W3,lB,(Tn.of_le lW).trans (t3.weak U2),cw2.putC w3 m3 t3 hs3⟩
  | false=>
   have hbare:kh f b i=false:=by unfold kh;simp[hb]
   subst hy;simp;refine rest h2 _ _ (UF hB1 cw1.z.up) (UF hWW1 cw1.z.upW) cw2 hle2 hbare _ ?_;simp[ij,jR,ci]
 have hbare:kh f b i=false:=by unfold kh;simp[ci]
 have ci2:¬((i:Int)=((nth f.blocks b).ins.length:Int)):=by omega
 simp[cin,sin.len,ci2];subst hy;simp;refine rest h1 _ _ hB1 hWW1 cw1 UE hbare _ ?_;simp[ij,jR]
section
variable{f:ak}{b:Nat}{l:List aO}
inductive Rch(f:ak)(b:Nat)(l:List aO)(best:NMap)(i:Nat):Nat->Prop
 | top:Rch f b l best i i
 | kid {j p:Nat}:Rch f b l best i j->p∈mM f b l best j->Rch f b l best i p
variable{best:NMap}
theorem Rch.le(o:Okf f)(hb:b<f.blocks.length){i j:Nat}(hi:i<=(nth f.blocks b).ins.length)(h:Rch f b l best i j):j<=i:=by
 induction h with
 | top=>exact Q4 _
 | kid _ hk ih=>have:=JM o hb U1 hk;omega
theorem Rch.one(o:Okf f)(hb:b<f.blocks.length){i:Nat}(hi:i<=(nth f.blocks b).ins.length){r:Nat}(h:Rch f b l best i r):
  (∀s,Rch f b l best i s->r<(nth f.blocks b).ins.length->(nth (nth f.blocks b).ins r).op≠16->(nth (nth f.blocks b).ins r).dst∉innP f b l best s)\/∃q,Rch f b l best i q/\r∈mM f b l best q:=by
 cases h with
 | kid hj hk=>exact .inr ⟨_,hj,hk⟩
 | top=>refine .inl λs hs hlt h16 hin=>?_;have hsi:=hs.le o hb hi;have io:=nU (l:=l) (best:=best) o hb (show s<=_ by omega);obtain⟨m,g1,g2,g3,g4,-⟩:=io.made _ hin;have:=(Hj (io.fold _ hin) (dQ hb g1) (dQ hb hlt) (by rw[<-g4];exact pE g3) (pE h16)).2;have e:(m:Int)=(i:Int):=this;omega
open Classical in
theorem MU(o:Okf f)(hb:b<f.blocks.length){i:Nat}(hi:i<=(nth f.blocks b).ins.length){tc D:Nat->Int}(hD : ∀j,Rch f b l best i j->D j=tc j+((mM f b l best j).map D).sum):
  D i=(((List.range (i+1)).filter λp=>decide (Rch f b l best i p)).map tc).sum:=by
 have key:=KY (K:=i+1) (root:=λp=>decide (Rch f b l best i p)) (fold:=λp=>!decide (p=i)) (kids:=mM f b l best) (tc:=tc) (D:=D) (λp hp=>?_) (λj hj hr p hk=>?_) (λj hj _=>E3 o hb U1) (λj hj j' hj' r r' p h h'=>?_) (λj hj r=>hD j (by simpa using r))
 ·rw[key];have e:((List.range (i+1)).filter λp=>!!decide (p=i))=[i]:=by
   rw[SA,SK];have:(List.range i).filter (λp=>!!decide (p=i))=[]:=by
    rw[List.filter_eq_nil_iff];intro a ha;have:a<i:=by simpa using ha
    simp;omega
   rw[this];simp
  rw[e];simp
 ·simp only[decide_eq_true_eq,Bool.not_eq_false',Sr];constructor
  ·intro h;cases h with
   | top=>exact .inl U2
   | kid hj hk=>exact .inr ⟨_,by have:=hj.le o hb hi;omega,hj,hk⟩
  rintro(h | ⟨j,hj,h1,h2⟩)
  ·have:p=i:=by simpa using h
   subst this;exact .top
  exact .kid h1 h2
 ·have hr:Rch f b l best i j:=by simpa using hr
  have:=JM o hb (show j<=_ by omega) hk;exact⟨by omega,by simp;omega⟩
 have r:Rch f b l best i j:=by simpa using r
 have r':Rch f b l best i j':=by simpa using r'
 obtain⟨v,hv,h1,h2,rfl⟩:=(vD hb).1 h;obtain⟨v',hv',_,_,rfl⟩:=(vD hb).1 h';obtain⟨c,hc,h3,-⟩:=oX o hb (show j<=_ by omega) (.inl hv);exact wv (R:=Rch f b l best i) o hb (λr h=>by have:=h.le o hb hi;omega) (λr h=>h.one o hb hi) ((nth f.blocks b).ins.length+1) (c:=c) U1 (qR h2).1 U1 h3 r r' (.inl hv) (.inl hv')
theorem Gh(o:Okf f)(hb:b<f.blocks.length)(hl : ∀t∈l,0<=t.cost/\t.cost<=1000){i:Nat}(hi:i<=(nth f.blocks b).ins.length){c:Int}(hc:(dx f b l).cost i=UK c):0<=c/\c<=1000*((i:Int)+1):=by
 have some_ : ∀j,Rch f b l (dx f b l).best i j->∃n,(dx f b l).cost (j:Int)=UK n:=λj h=>by
  induction h with
  | top=>exact⟨c,hc⟩
  | kid hj hk ih=>obtain⟨n,hn⟩:=ih;exact(y5 o hb (by have:=hj.le o hb hi;omega) hn).2 _ hk
 have h:=MU (l:=l) (best:=(dx f b l).best) o hb hi (tc:=rh l (dx f b l).best) (D:=xW f b l) λj hj=>by obtain⟨n,hn⟩:=some_ j hj;exact(y5 o hb (by have:=hj.le o hb hi;omega) hn).1
 have e:xW f b l i=c:=by unfold xW;rw[hc];rfl
 rw[e]at h;have ht : ∀j,0<=rh l (dx f b l).best j/\rh l (dx f b l).best j<=1000:=λj=>by
  unfold rh;split
  ·rename_i t _;by_cases q:t.toNat<l.length
   ·exact hl _ (bF q)
   have:nth l t.toNat=⟨0,0⟩:=by unfold nth;simp[List.getD,RP (show l.length<=t.toNat by omega)];rfl
   rw[this];simp
  simp
 have bound : ∀r:List Nat,0<=(r.map (rh l (dx f b l).best)).sum/\(r.map (rh l (dx f b l).best)).sum<=1000*(r.length:Int):=λr=>by
  induction r with
  | nil=>simp
  | cons a r ih=>have:=ht a;simp;omega
 have q:=bound ((List.range (i+1)).filter λp=>@decide (Rch f b l (dx f b l).best i p) (Classical.propDecidable _));have hlen:((List.range (i+1)).filter λp=>@decide (Rch f b l (dx f b l).best i p) (Classical.propDecidable _)).length<=i+1:=by have:=TV (λp=>@decide (Rch f b l (dx f b l).best i p) (Classical.propDecidable _)) (List.range (i+1));simpa using this
 rw[h];exact⟨q.1,by omega⟩
theorem AD{mk:NMap}{i:Nat}{s:CB}{j:Int}(h:j≠i):(plc8 f b l mk i s).cost j=s.cost j/\(plc8 f b l mk i s).best j=s.best j:=by
 unfold plc8;split
 ·split
  ·exact⟨rfl,rfl⟩
  exact⟨mV h,rfl⟩
 have : ∀k,(Lft.up (cD f b l mk i) k s).cost j=s.cost j/\(Lft.up (cD f b l mk i) k s).best j=s.best j:=λk=>by
  induction k with
  | zero=>exact⟨rfl,rfl⟩
  | succ k ih=>
   rw[up_add];generalize Lft.up (cD f b l mk i) k s=q at *;unfold cD;split
   ·exact ih
   split
   ·exact⟨(mV h).trans ih.1,(mV h).trans ih.2⟩
   exact ih
 exact this _
theorem AG{mk:NMap} : ∀{n d:Nat} {j:Int},j<n->(nD f b l mk (n+d)).cost j=(nD f b l mk n).cost j
 | n,0,j,_=>rfl
 | n,d+1,j,h=>by have e:nD f b l mk (n+(d+1))=plc8 f b l mk (n+d) (nD f b l mk (n+d)):=rfl;rw[e,(AD U1).1];exact AG h
end
variable{pat:Int}
theorem Hr{f:ak}{b i:Nat}{x:FitD}(o:Okf f)(hb:b<f.blocks.length)(hx:dL f b i pat=UK x):x.takes.length<=30000:=by
 have hi:i<=(nth f.blocks b).ins.length:=by
  have hx:=hx;unfold dL gu at hx;split at hx
  ·split at hx
   ·rename_i c;simp[dz]at c;omega
   cases hx
  cases hx
 obtain⟨m,hm⟩:=(zQ o.sm o.imm hb hi hx).len;have sb:=o.sm.blk b hb;have arg : ∀k:Nat,(nth (nth f.blocks b).ins k).args.length<=10000:=λk=>by
  rcases Ri k (nth f.blocks b).ins.length with h | h
  ·exact sb.inn k h
  rw[dt h];exact SD _
 have h1:=arg m;have h2:=arg i;have h3:=sb.args;split at hm<;>omega
abbrev ChoD:=Cat ak (Cat (List aO) (Cat Int (Cat Raw (Cat Raw Raw))))
set_option maxHeartbeats 2000000 in
theorem qH{W:View}{h:Heap}{o:Own}{f:ak}{b:Nat}{l:List aO}{v vl:Value}(w:Owns W h o)(hv:Rd W v f)(hvl:SlRd W vl l)(hok:Okf f)(hM:ib)(hb:b<f.blocks.length)(hpat : ∀t∈l,I64 t.pat)(hcl : ∀t∈l,0<=t.cost/\t.cost<=1000):
  ay UQ 49 #[v,vl,UH UI b] h (λu h'=>∃C rm rc rb B' W',u = ptz C/\W.bT.le B'/\W.le W'/\Cw B' W' h' o C rm rc rb f b l (mkU f b) (dx f b l) [rb,rc,rm]):=by
 refine aq (args:=[v,vl,UH UI b]) follows Tryz.func49 E.dm UC λK hK=>?_;dsimp only[L.dm,lkF,lkG];have hsm:=hok.sm;have hlen:=hsm.len;refine aa λz hz=>?_;simp;refine w.uU (α:=ak) rfl hv λFb h1 W1 hW1 w1 atF hle1=>?_;subst hz;obtain⟨uF,huF,rF⟩:=atF.ldN rfl (N:=2) rfl;refine aa λz hz=>?_;simp[huF _ w1.wle];refine w1.nA (d:=.int .i64) λh2 W2 hW2 hle2 w2 hn2 mm2=>?_;generalize h1.size=rm at *;refine w2.nA (d:=.int .i64) λh3 W3 hW3 hle3 w3 hn3 mc3=>?_;generalize h2.size=rc at *;refine w3.nA (d:=.int .i64) λh4 W4 hW4 hle4 w4 hn4 mb4=>?_;generalize h3.size=rb at *;obtain⟨vb,rfl,ip,sb⟩:=KK rF;have hvl0:=hvl;obtain⟨va,vcap,rfl,-,-,-⟩:=hvl0;have hb64:I64 (b:Int):=U6;refine aA (z:=zz13) (places:=[(0,2),(2,1),(3,1),(4,1),(5,1),(6,1)]) (vs:=[(0,.agg #[UH UI f.params,vb]),(1,.slice va l.length vcap),(2,UH UI b),(3,.map (UK rm)),(4,.map (UK rc)),(5,.map (UK rb))]) (cs:=#[UH UI f.params,vb,.slice va l.length vcap,UH UI b,.map (UK rm),.map (UK rc),.map (UK rb)]) U0 U0 U2 U0 ?_;have sb4:=sb.mono (UF hW2 (UF hW3 hW4));have sl4:=hvl.mono (UF hW1 (UF hW2 (UF hW3 hW4)));refine w4.uU (α:=ChoD) (d:=⟨f,l,(b:Int),⟨.map (UK rm)⟩,⟨.map (UK rc)⟩,⟨.map (UK rb)⟩⟩) rfl ⟨_,rfl,[UH UI f.params,vb],[.slice va l.length vcap,UH UI b,.map (UK rm),.map (UK rc),.map (UK rb)],rfl,⟨[_],[_],rfl,⟨rfl,ip⟩,⟨vb,rfl,sb4⟩⟩,[_],[_,_,_,_],rfl,⟨_,rfl,sl4⟩,[_],[_,_,_],rfl,⟨rfl,hb64⟩,[_],[_,_],rfl,⟨rfl,rfl⟩,[_],[_],rfl,⟨rfl,rfl⟩,⟨rfl,rfl⟩⟩ λC h5 W5 hW5 w5 at5 hle5=>?_;obtain⟨t1,at5⟩:=at5.cat;obtain⟨t2,at5⟩:=at5.cat;obtain⟨t3,at5⟩:=at5.cat;obtain⟨t4,at5⟩:=at5.cat;obtain⟨t5,t6⟩:=at5.cat;have t1:=t1.bT;have t2:=t2.bT.list;have t3:=t3.bT.int;have t4:=t4.bT.raw;have t5:=t5.bT.raw;have t6:=t6.bT.raw;have ch:Ch W5.bT C rm rc rb f b l:=⟨t1,t2,t3,t4,t5,t6,hsm,hb,hM⟩;have m1:=mm2.mono (UF hW3 (UF hW4 hW5));have m2:=mc3.mono (UF hW4 hW5);have m3:=mb4.mono hW5;have e0:(mapI λ_=>UL)=λ_=>none:=by funext x;unfold mapI;split<;>rfl
 rw[<-e0]at m1 m2 m3;have lt : ∀{r:Nat} {g:Value->Option Value},MV (.int .i64) W5 r g->r<h5.size/\W5.bT r=none:=λm=>by obtain⟨es,cl,q⟩:=m.NG;exact⟨View.lt w5.wle q,by unfold View.bT;rw[q]⟩
 have ne_ : ∀{r r2:Nat} {X:View} {g:Value->Option Value},MV (.int .i64) X r g->X r2=UL->r≠r2:=λm q e=>by obtain⟨es,cl,q2⟩:=m.NG;rw[e,q]at q2;cases q2
 have cw5:Cw W5.bT W5 h5 o C rm rc rb f b l (λ_=>UL) ⟨λ_=>UL,λ_=>UL⟩ [rb,rc,rm]:=
  ⟨⟨w5,View.mB,by simp[(lt m1).2,(lt m2).2,(lt m3).2],by simp[(lt m1).1,(lt m2).1,(lt m3).1]⟩,ch,m1,m2,m3,⟨ne_ mm2 hn3,ne_ (mm2.mono hW3) hn4,ne_ mc3 hn4⟩,by simp,by simp⟩
 have hWB:W.bT.le W5.bT:=λq x hq=>by
  have hx:=UF hW1 (UF hW2 (UF hW3 (UF hW4 hW5))) q x (View.mB _ _ hq);unfold View.bT at hq ⊢;rw[hx];split at hq
  ·rename_i e;have:=UF hW1 (UF hW2 (UF hW3 (UF hW4 hW5))) q _ e;rw[hx]at this;cases this;exact hq
  cases hq
 have hW15:=UF hW2 (UF hW3 (UF hW4 hW5));have hWW5:=UF hW1 hW15;have atF:=atF.mono hW15;have nw0 : ∀r∈[rb,rc,rm],W r=none:=λr hr=>by
  cases q:W r with
  | none=>rfl
  | some x=>
   simp at hr;have q1:=hW1 r x q;have q2:=hW2 r x q1;have q3:=hW3 r x q2;rcases hr with rfl | rfl | rfl
   ·rw[hn4]at q3;cases q3
   ·rw[hn3]at q2;cases q2
   rw[hn2]at q1;cases q1
 clear mm2 mc3 mb4 hn2 hn3 hn4 t1 t2 t3 t4 t5 t6 ch m1 m2 m3 ne_ lt sb4 sl4 w4 w3 w2 w1 huF rF hle1 hle2 hle3 hle4 hle5 hW1 hW2 hW3 hW4 hW5 hW15 sb;obtain⟨-,vb5,cb,sb⟩:=eU atF;have cb:=ae w5.wle cb;have qb:=(sb.mono w5.wle).idxn (k:=.i64) (N:=6) rfl (i:=(b:Int)) U1 U1;have n6:Rep.n BlkD=6:=rfl;obtain⟨ux,hux,rux⟩:=(sb.at hb).ldN rfl (N:=6) rfl;have hux:=hux _ w5.wle;simp[n6]at qb hux;subst hz;refine aa λz hz=>?_;simp[cb,qb,hux];refine dw (X:=W5.bT) (z:=zz3) U0 rfl U0 rux.bT U5 U5 λh6 hle6 _ at6=>?_;have at6:=at6 (grow W5.bT h5 h6) cw5.z.up (bY (Q4 _));have cw6:=cw5.ext hle6;have hv6:=(hv.bT.mono hWB).mono (cw5.z.up (h':=h6));have hWB6:=UF hWB (cw5.z.up (h':=h6));have hWW6:=UF hWW5 (cw5.z.upW (h':=h6));have atF6:=atF.bT.mono (cw5.z.up (h':=h6));obtain⟨uF,huF,rF⟩:=atF6.ldN rfl (N:=2) rfl;clear cw5 hWB hWW5 hle6 atF qb hux rux cb sb;generalize h5.size=D at at6;generalize grow W5.bT h5 h6=B6 at *;generalize grow W5 h5 h6=W6 at *;obtain⟨vin,cin,sin⟩:=(at6.part BlkD.gO).list;simp at cin;rw[<-aC hb]at sin;subst hz;refine aa λz hz=>?_;have cin6:=ae cw6.z.wle cin;simp[cin6,sin.len];have hil:(nth f.blocks b).ins.length<=140737488355328:=sin.bound;refine aG [3,7,8,26,27,28] (fun(_:Unit) k=>[ptz Fb,ptz C,ptz D,vin,UH UI (nth f.blocks b).ins.length,UH UI k])
  (λ_ k h=>∃Bk Wk,B6.le Bk/\W.le Wk/\Cw Bk Wk h o C rm rc rb f b l (Lft.up (iY f b) k λ_=>UL) ⟨λ_=>UL,λ_=>UL⟩ [rb,rc,rm]) (nth f.blocks b).ins.length ()
  U0 U1 (by simp[aX,af,ag]) ⟨B6,W6,View.le_refl _,hWW6,cw6⟩ (λ_ _=>rfl) (λv i h1 hk m=>by simp) ?_ ?_
 ·rintro _ k h7 hk ⟨Bk,Wk,lBk,lWk,cwk⟩ K2 hK2;have hk:k<(nth f.blocks b).ins.length:=hk;obtain⟨ut,hut,rut⟩:=sin.wh rfl (N:=5) rfl hk;have lh7:B6.le (vw h7):=UF lBk cwk.z.wle;have qt:=(sin.mono lh7).idxn (k:=.i64) (N:=5) rfl (i:=(k:Int)) U1 U1;simp at qt;refine dC ?_;refine aa λy hy=>?_;simp[qt,hut _ lh7];refine dw (X:=Bk) (z:=zz5) U0 rfl U0 (rut.mono lBk) U5 U5 λh8 hle8 _ at8=>?_;have at8:=at8 (grow Bk h7 h8) cwk.z.up (bY (Q4 _));have cw8:=cwk.ext hle8;have lB8:=UF lBk (cwk.z.up (h':=h8));have lW8:=UF lWk (cwk.z.upW (h':=h8));generalize h7.size=Tb at at8;clear qt hut rut cwk lh7 hle8 lBk lWk;generalize grow Bk h7 h8=B8 at *;generalize grow Wk h7 h8=W8 at *;have pop:=ae cw8.z.wle (at8.part InsD.wI).int;have pdst:=ae cw8.z.wle (at8.part InsD.gm).int;have rdst:=(at8.part InsD.gm).rng;simp at pop pdst rdst;subst hy;refine aa λy hy=>?_;have hup:Lft.up (iY f b) (k+1) (λ_=>UL)=iY f b k (Lft.up (iY f b) k λ_=>UL):=rfl;generalize hm:Lft.up (iY f b) k (λ_=>UL)=m at *;have no_:kD f b k=UP->∀ρ,Slk ρ [(3,ptz Fb),(7,ptz C),(8,ptz D),(26,vin),(27,UH UI (nth f.blocks b).ins.length),(28,UH UI k)]->K2 ρ h8:=λhno ρ hS=>by
   simp only[ij,jR,and_true]at hS;obtain⟨r3,r7,r8,r26,r27,r28⟩:=hS;have e:iY f b k m=m:=by unfold iY;rw[if_neg (by rw[hno];simp)]
   refine hK2 () _ _ (by simp[r28]) (by simp[aX,af,ag,r3,r7,r8,r26,r27,r28]) ⟨B8,W8,lB8,lW8,by rw[hup,e];exact cw8⟩
  by_cases c16:(nth (nth f.blocks b).ins k).op=16
  ·have hno:kD f b k=false:=by unfold kD;simp[c16]
   simp[pop,c16];subst hy;simp;exact no_ hno _ (by simp[ij,jR])
  by_cases c18:(nth (nth f.blocks b).ins k).op=18
  ·have hno:kD f b k=false:=by unfold kD;simp[c18]
   simp[pop,c16,c18];subst hy;simp;exact no_ hno _ (by simp[ij,jR])
  simp[pop,c16,c18,pdst,huF _ (UF lB8 cw8.z.wle)];refine ah U0 (q7 (rF.mono (UF lB8 cw8.z.wle)) hsm rdst) ?_;rintro _ h9 ⟨rfl,hle9⟩;have cw9:=cw8.ext hle9;have lB9:=UF lB8 (cw8.z.up (h':=h9));have lW9:=UF lW8 (cw8.z.upW (h':=h9));have pdst9:=ae hle9 pdst;generalize grow B8 h8 h9=B9 at *;generalize grow W8 h8 h9=W9 at *;subst hy;cases hfd:cI f (nth (nth f.blocks b).ins k).dst with
  | false=>
   have hno:kD f b k=false:=by unfold kD;simp[hfd]
   have e:iY f b k m=m:=by unfold iY;rw[if_neg (by rw[hno];simp)]
   simp;refine hK2 () _ _ (by simp[af,ag]) (by simp[aX,af,ag]) ⟨B9,W9,lB9,lW9,by rw[hup,e];exact cw9⟩
  | true=>
   have hyes:kD f b k=true:=by unfold kD;simp[hfd,c16,c18]
   have e:iY f b k m=putM m (nth (nth f.blocks b).ins k).dst (k:Int):=by unfold iY;rw[if_pos hyes]
   obtain⟨g1,g2⟩:=vF (f:=m) (g:=putM m (nth (nth f.blocks b).ins k).dst (k:Int)) (j:=(nth (nth f.blocks b).ins k).dst) (v:=(k:Int)) (λ_=>rfl);refine aQ U2 ?_;refine aK (vw h9) UE ?_;simp[ag,cw9.at_.x4,pdst9];refine cw9.z.own.pI cw9.mm (.inl rfl) (t:=T.AP) (k:=T.int) (e:=T.int) (u:=UH UI (nth (nth f.blocks b).ins k).dst) (v:=UH UI k) U0 U0 rfl rfl rfl cV g1 g2 λh10 W10 w10 m10 t10 hs10 _=>?_;have cw10:Cw B9 W10 h10 o C rm rc rb f b l (putM m (nth (nth f.blocks b).ins k).dst (k:Int)) ⟨λ_=>UL,λ_=>UL⟩ [rb,rc,rm]:=⟨cw9.z.turn U2 w10 t10 hs10,cw9.ch,m10,cw9.mc.tn t10 (by simp;exact λe=>cw9.ne.1 e.symm),cw9.mb.tn t10 (by simp;exact λe=>cw9.ne.2.1 e.symm),cw9.ne,cw9.cin,cw9.bin⟩;refine hK2 () _ _ (by simp[af,ag]) (by simp[aX,af,ag]) ⟨B9,W10,lB9,t10.le lW9 (by simp;exact nw0 rm U2),by rw[hup,e];exact cw10⟩
 rintro _ h7 ⟨B7,W7,lB7,lW7,cw7⟩;have hmk:Lft.up (iY f b) (nth f.blocks b).ins.length (λ_=>UL)=mkU f b:=rfl;rw[hmk]at cw7;simp;subst hz;have cin7:=ae (UF lB7 cw7.z.wle) cin;refine aa λz hz=>?_;have ew:IntKind.i64.wrap (((nth f.blocks b).ins.length:Int)+1)=(((nth f.blocks b).ins.length+1:Nat):Int):=by rw[bc U1 U1];omega
 simp[cin7,sin.len,ew];refine aG [7,58,59] (fun(_:Unit) k=>[ptz C,UH UI ((nth f.blocks b).ins.length+1:Nat),UH UI k])
  (λ_ k h=>∃Bk Wk,B6.le Bk/\W.le Wk/\Cw Bk Wk h o C rm rc rb f b l (mkU f b) (nD f b l (mkU f b) k) [rb,rc,rm]) ((nth f.blocks b).ins.length+1) ()
  U0 U1 (by simp[aX,af,ag]) ⟨B7,W7,lB7,lW7,cw7⟩ (λ_ _=>rfl) (λv i h1 hk m=>by simp) ?_ ?_
 ·rintro _ k h8 hk ⟨Bk,Wk,lBk,lWk,cwk⟩ K2 hK2;have hk:k<(nth f.blocks b).ins.length+1:=hk;refine dC ?_;refine aa λy hy=>?_;simp;subst hy;simp;refine ah U0 (J3 (i:=k) cwk U1 ?_ ?_ ?_ ?_ hcl hpat) ?_
  ·intro p hp n hn;have hbl:=hsm.blk b hb;rcases Int.lt_or_le p 0 with c0 | c0
   ·have : ∀q:Nat,(nD f b l (mkU f b) q).cost p=none:=λq=>by
     induction q with
     | zero=>rfl
     | succ q ih=>exact((AD U1).1).trans ih
    rw[this]at hn;cases hn
   obtain⟨q,rfl⟩:=Sg c0;have hs:=AG (f:=f) (b:=b) (l:=l) (mk:=mkU f b) (n:=k) (d:=(nth f.blocks b).ins.length+1-k) (j:=(q:Int)) hp;rw[show k+((nth f.blocks b).ins.length+1-k)=(nth f.blocks b).ins.length+1 by omega]at hs;have:=Gh hok hb hcl (i:=q) U1 (c:=n) (hs.trans hn);have hl2:(nth f.blocks b).ins.length<=10000:=by have:=hbl.ins;omega
   omega
  ·exact λpat x hx v hv p hp=>xE hok hb k pat x hx v hv p hp
  ·exact λv hv p hp=>zA hb v hv p hp
  ·exact λpat x hx=>Hr hok hb hx
  rintro _ h9 ⟨B9,W9,l9,t9,cw9⟩;have e:nD f b l (mkU f b) (k+1)=plc8 f b l (mkU f b) k (nD f b l (mkU f b) k):=rfl;exact hK2 () _ _ (by simp[af,ag]) (by simp[aX,af,ag]) ⟨B9,W9,UF lBk l9,t9.le lWk (by simp;exact⟨nw0 rc U2,nw0 rb U2⟩),by rw[e];exact cw9⟩
 rintro _ h8 ⟨B8,W8,lB8,lW8,cw8⟩;simp;subst hz;simp;exact hK _ _ ⟨C,rm,rc,rb,B8,W8,rfl,UF hWB6 lB8,lW8,cw8⟩
structure yw(n:Nat)(x:FitD):Prop where
 code:x.code.length<=2
 args : ∀m∈x.code,m.args.length<=n
 tos:(EndD.to x.fin).length<=n
theorem sA{i:InsD}{op plain:Int}{m:bz}:(jI i op plain m).args=m.args:=by
 unfold jI;repeat' split
 all_goals rfl
theorem GZ{f:ak}{i:InsD}{m lo hi sg:Int}{x:FitD}{n:Nat}(h:immS f i m lo hi sg=UK x):yw n x:=by
 unfold immS at h;split at h
 ·cases h;exact⟨by simp,by simp,by simp[dc]⟩
 cases h
variable{temp:Int}
theorem N1{f:ak}{i:InsD}{op plain sum:Int}{k:Nat}{x:FitD}{n:Nat}(h:memS f i temp op plain sum k=UK x):yw n x:=by
 match k with
 | 0=>simp only[memS]at h;split at h<;>cases h;exact⟨by simp,by simp[sA],by simp[dc]⟩
 | 1=>
  simp only[memS]at h;split at h
  ·split at h<;>cases h;exact⟨by simp,by simp[sA],by simp[dc]⟩
  cases h
 | 2=>simp only[memS]at h;split at h<;>cases h;exact⟨by simp,by simp[sA],by simp[dc]⟩
 | k+3=>simp only[memS]at h;cases h;exact⟨by simp,by simp[sA],by simp[dc]⟩
theorem QF{f:ak}{i:InsD}{p:Nat}{x:FitD}{n:Nat}(hi:i.args.length<=n)(h:doS f i temp p=UK x):yw n x:=by
 unfold doS at h;by_cases p1:p=1
 ·rw[if_pos p1]at h;split at h
  ·cases h;exact⟨by simp,by simp,by simp[dc]⟩
  cases h
 rw[if_neg p1]at h;by_cases p2:p=2
 ·rw[if_pos p2]at h;cases h;exact⟨by simp,by simp,by simp[dc]⟩
 rw[if_neg p2]at h;by_cases p15:p<=15
 ·rw[if_pos p15]at h;cases h;exact⟨by simp,by simp,by simp[dc]⟩
 rw[if_neg p15]at h;by_cases p16:p=16
 ·rw[if_pos p16]at h;exact GZ h
 rw[if_neg p16]at h;by_cases p17:p=17
 ·rw[if_pos p17]at h;exact GZ h
 rw[if_neg p17]at h;by_cases p18:p=18
 ·rw[if_pos p18]at h;exact GZ h
 rw[if_neg p18]at h;by_cases p21:p<=21
 ·rw[if_pos p21]at h;exact GZ h
 rw[if_neg p21]at h;by_cases p22:p=22
 ·rw[if_pos p22]at h;split at h
  ·cases h;exact⟨by simp,by simp,by simp[dc]⟩
  cases h
 rw[if_neg p22]at h;by_cases p26:p<=26
 ·rw[if_pos p26]at h;exact N1 h
 rw[if_neg p26]at h;by_cases p30:p<=30
 ·rw[if_pos p30]at h;exact N1 h
 rw[if_neg p30]at h;by_cases p31:p=31
 ·rw[if_pos p31]at h;cases h;exact⟨by simp,by simpa using hi,by simp[dc]⟩
 rw[if_neg p31]at h;cases h;exact⟨by simp,by simp,by simp[dc]⟩
theorem PE{f:ak}{t:cS}{x:FitD}{n:Nat}(hi:t.to.length<=n)(h:iA f t pat=UK x):yw n x:=by
 unfold iA at h;repeat' split at h
 all_goals first | (cases h;exact⟨by simp,by simp,by first | exact hi | (simp;done) | simpa using hi⟩) | cases h
theorem Py{f:ak}{b i:Nat}{x:FitD}(hsm:SmF f)(hb:b<f.blocks.length)(h:gu f b i pat temp=UK x):yw 10000 x:=by
 unfold gu at h;split at h
 ·rename_i c;simp only[Q9]at c;have c:=c.1;simp[dz]at c;have sb:=hsm.blk b hb;unfold tryS eJ at h;by_cases e:(i:Int)=(nth f.blocks (b:Int).toNat).ins.length
  ·rw[if_pos e]at h;exact PE sb.to h
  rw[if_neg e]at h;have h:patS f (nth (nth f.blocks b).ins i) temp pat=UK x:=h;have e:(i:Int)≠(nth f.blocks b).ins.length:=e;unfold patS at h;split at h
  ·exact QF (sb.inn i U1) h
  cases h
 cases h
theorem KP{f:ak}{b i:Nat}(hsm:SmF f)(hb:b<f.blocks.length):(qQ (gu f b i pat temp)).length<=2/\(∀m∈qQ (gu f b i pat temp),m.args.length<=10000)/\(EndD.to (Au (gu f b i pat temp))).length<=10000:=by
 cases h:gu f b i pat temp with
 | none=>exact⟨by simp[qQ],by simp[qQ],by simp[Au,dc]⟩
 | some x=>obtain⟨h1,h2,h3⟩:=Py hsm hb h;exact⟨h1,h2,h3⟩
theorem Oz{A B:View}{u:Value}{l:List InD}(s:SrcT A B u l):SrcT A nothing u l:=by obtain⟨a,c,h1,h2,news,h3,h4,h5⟩:=s;exact⟨a,c,h1,h2,news,h3,h4,λi hi=>h5 i hi⟩
theorem Fz{v:Value}{l:List InD}{h:Heap}(hv:SlRd (vw h) v l)(hb:l.length<=1000000):
  ay UQ 48 #[v] h (λu h'=>(vw h).le (vw h')/\∀X:View,X.le (vw h)->Rd (α:=NRow X T.iZ InD) (grow nothing h h') u l):=by
 refine aq (args:=[v]) follows Tryz.func48 E.jM UC λK hK=>?_;dsimp only[L.jM,lkF,lkG];have hv0:=hv;obtain⟨a,cap,rfl,g1,g2,g3⟩:=hv0;refine aa λz hz=>?_;simp;subst hz;refine aa λz hz=>?_;refine aa λy hy=>?_;simp;refine ze U.lf rfl rfl ?_;subst hy;by_cases ha:a=UL
 ·subst ha;have hl:l=[]:=by
   rcases g3 with g3 | ⟨ad,g3,_⟩
   ·first | exact g3 | exact Ry (by simpa using g3)
   cases g3
  subst hl;simp;exact hK _ _ ⟨View.le_refl _,λX _=>sf⟩
 have hi:a.isNone=false:=by cases a<;>simp at ha ⊢
 simp[hi];subst hz;refine aa λz hz=>?_;simp;refine pU (α:=InD) El.lf λh1 hle1 hs1 own1=>?_;have m1:=Mine.empty (V:=nothing) (W:=nothing) UE hle1 (λ_ _ e=>nomatch e) (Old.refl _ _) own1;refine dA (α:=InD) (l:=[]) (l2:=l) El.lf rfl rfl m1.own (Oz (hv.src hle1)) U9 U9 λv2 h2 own2 mv=>?_;have m2:=m1.gA own2 mv;subst hz;simp;refine hK _ _ ⟨m2.old,λX hX=>m2.row hX⟩
end Go.Lft
namespace Go.Lft
theorem Rd.one1{α:Type}[Rep α]{H:View}{v:Value}{d:α}(ha:Rep.agg α=UP)(h:Rd H v d):Rep.rd H [v] d:=by unfold Rd at h;rwa [if_neg (by simp[ha])]at h
theorem SlRd.flat{α:Type}[Rep α]{H:View}{v:Value}{l:List α}(h:SlRd H v l):v.oneCell'=true:=by obtain⟨a,c,rfl,_⟩:=h;rfl
theorem jU{X W:View}{e:TypeId}{α:Type}[Rep α]{v:Value}{l:List α}(r:Rd (α:=NRow X e α) W v l):SlRd W v l:=(jN.1 r).1
def PhiN(X:View):=PhiD
instance phiN{X:View}:Rep (PhiN X):=Rep.via (α:=Cat Int (NRow X T.iZ InD)) λx=>Cat.mk (PhiD.dst x) (PhiD.ins x)
def jL(X:View):=bz
instance machN{X:View}:Rep (jL X):=Rep.via (α:=Cat Int (Cat Int (Cat Int (Cat Int (Cat Int (Cat Int (Cat I32 (NRow X T.int Int)))))))) λx=>Cat.mk (bz.op x) (Cat.mk (bz.d x) (Cat.mk (bz.e x) (Cat.mk (bz.a x) (Cat.mk (bz.b x) (Cat.mk (bz.c x) (Cat.mk (bz.imm x) (bz.args x)))))))
def EndN(X:View):=EndD
instance endN{X:View}:Rep (EndN X):=Rep.via (α:=Cat Int (Cat Int (Cat Int (Cat (NRow X T.int Int) I32)))) λx=>Cat.mk (EndD.op x) (Cat.mk (EndD.a x) (Cat.mk (EndD.b x) (Cat.mk (EndD.to x) (EndD.imm x))))
def fw(X:View):=dS
instance mblkN{X:View}:Rep (fw X):=Rep.via (α:=Cat (NRow nothing T.fM (PhiN X)) (Cat (NRow nothing T.cT (jL X)) (EndN X))) λx=>Cat.mk (dS.phis x) (Cat.mk (dS.ins x) (dS.fin x))
def MFnN(X:View):=MFnD
instance mfnN{X:View}:Rep (MFnN X):=Rep.via (α:=Cat Int (NRow nothing T.dU (fw X))) λx=>Cat.mk (MFnD.params x) (MFnD.blocks x)
section
variable{X W:View}
theorem Nf:@RLe MFnD (@mfnN X) inferInstance:=
 have p:@RLe PhiD (@phiN X) inferInstance:=RLe.via (α:=Cat Int (List InD)) (λx:PhiD=>Cat.mk x.dst x.ins) (RLe.cat RLe.refl (RLe.row RLe.refl))
 have m:@RLe bz (@machN X) inferInstance:=RLe.via (α:=Cat Int (Cat Int (Cat Int (Cat Int (Cat Int (Cat Int (Cat I32 (List Int)))))))) (λx:bz=>Cat.mk x.op (Cat.mk x.d (Cat.mk x.e (Cat.mk x.a (Cat.mk x.b (Cat.mk x.c (Cat.mk x.imm x.args)))))))
  (RLe.cat RLe.refl (RLe.cat RLe.refl (RLe.cat RLe.refl (RLe.cat RLe.refl (RLe.cat RLe.refl (RLe.cat RLe.refl (RLe.cat RLe.refl (RLe.row RLe.refl))))))))
 have e:@RLe EndD (@endN X) inferInstance:=RLe.via (α:=Cat Int (Cat Int (Cat Int (Cat (List Int) I32)))) (λx:EndD=>Cat.mk x.op (Cat.mk x.a (Cat.mk x.b (Cat.mk x.to x.imm))))
  (RLe.cat RLe.refl (RLe.cat RLe.refl (RLe.cat RLe.refl (RLe.cat (RLe.row RLe.refl) RLe.refl))))
 have b:@RLe dS (@mblkN X) inferInstance:=RLe.via (α:=Cat (List PhiD) (Cat (List bz) EndD)) (λx:dS=>Cat.mk x.phis (Cat.mk x.ins x.fin)) (RLe.cat (RLe.row p) (RLe.cat (RLe.row m) e))
 RLe.via (α:=Cat Int (List dS)) (λx:MFnD=>Cat.mk x.params x.blocks) (RLe.cat RLe.refl (RLe.row b))
theorem Lz{dst:Int}{u:Value}{l:List InD}(hd:I64 dst)(h:Rd (α:=NRow X T.iZ InD) W u l):Rd (α:=PhiN X) W (.agg #[UH UI dst,u]) ⟨dst,l⟩:=by unfold Rd;rw[if_pos (show Rep.agg (PhiN X)=UO from rfl)];exact⟨_,rfl,[_],[_],rfl,⟨rfl,hd⟩,h.one1 rfl⟩
abbrev A4:=Cat Int (Cat Int (Cat Int (Cat Int (Cat Int (Cat Int (Cat I32 Raw))))))
def qO(x:bz)(u:Value):A4:=⟨x.op,⟨x.d,⟨x.e,⟨x.a,⟨x.b,⟨x.c,⟨x.imm,⟨u⟩⟩⟩⟩⟩⟩⟩⟩
theorem GI:Part A4 Raw 7 (λd=>d.b.b.b.b.b.b.b) (λd x=>⟨d.a,⟨d.b.a,⟨d.b.b.a,⟨d.b.b.b.a,⟨d.b.b.b.b.a,⟨d.b.b.b.b.b.a,⟨d.b.b.b.b.b.b.a,x⟩⟩⟩⟩⟩⟩⟩):=
 (Part.snd (Part.snd (Part.snd (Part.snd (Part.snd (Part.snd (Part.snd Part.all))))))).via (λ_=>rfl) λ_ _=>rfl
abbrev EndR:=Cat Int (Cat Int (Cat Int (Cat Raw I32)))
def endR(x:EndD)(u:Value):EndR:=⟨x.op,⟨x.a,⟨x.b,⟨⟨u⟩,x.imm⟩⟩⟩⟩
theorem NK:Part EndR Raw 3 (λd=>d.b.b.b.a) (λd x=>⟨d.a,⟨d.b.a,⟨d.b.b.a,⟨x,d.b.b.b.b⟩⟩⟩⟩):=(Part.snd (Part.snd (Part.snd (Part.fst Part.all)))).via (λ_=>rfl) λ_ _=>rfl
theorem Jg{v:Value}{x:bz}(h:Rd W v x) : ∃va,Rd W v (qO x va)/\SlRd W va x.args:=by unfold Rd at h;rw[if_pos (show Rep.agg bz=UO from rfl)]at h;obtain⟨cs,rfl,c1,d1,e1,h1,c2,d2,e2,h2,c3,d3,e3,h3,c4,d4,e4,h4,c5,d5,e5,h5,c6,d6,e6,h6,c7,d7,e7,h7,va,rfl,s⟩:=h;refine⟨va,?_,s⟩;unfold Rd;rw[if_pos (show Rep.agg A4=UO from rfl)];exact⟨cs,rfl,c1,d1,e1,h1,c2,d2,e2,h2,c3,d3,e3,h3,c4,d4,e4,h4,c5,d5,e5,h5,c6,d6,e6,h6,c7,_,e7,h7,rfl,s.flat⟩
theorem Fg{v u:Value}{x:bz}(h:Rd W v (qO x u))(s:Rd (α:=NRow X T.int Int) W u x.args):Rd (α:=jL X) W v x:=by unfold Rd at h;rw[if_pos (show Rep.agg A4=UO from rfl)]at h;obtain⟨cs,rfl,c1,d1,e1,h1,c2,d2,e2,h2,c3,d3,e3,h3,c4,d4,e4,h4,c5,d5,e5,h5,c6,d6,e6,h6,c7,d7,e7,h7,rfl,-⟩:=h;unfold Rd;rw[if_pos (show Rep.agg (jL X)=UO from rfl)];exact⟨cs,rfl,c1,d1,e1,h1,c2,d2,e2,h2,c3,d3,e3,h3,c4,d4,e4,h4,c5,d5,e5,h5,c6,d6,e6,h6,c7,_,e7,h7,s.one1 rfl⟩
theorem LO{v:Value}{x:EndD}(h:Rd W v x) : ∃va,Rd W v (endR x va)/\SlRd W va x.to:=by unfold Rd at h;rw[if_pos (show Rep.agg EndD=UO from rfl)]at h;obtain⟨cs,rfl,c1,d1,e1,h1,c2,d2,e2,h2,c3,d3,e3,h3,c4,d4,e4,⟨va,rfl,s⟩,h5⟩:=h;refine⟨va,?_,s⟩;unfold Rd;rw[if_pos (show Rep.agg EndR=UO from rfl)];exact⟨cs,rfl,c1,d1,e1,h1,c2,d2,e2,h2,c3,d3,e3,h3,_,d4,e4,⟨rfl,s.flat⟩,h5⟩
theorem H8{v u:Value}{x:EndD}(h:Rd W v (endR x u))(s:Rd (α:=NRow X T.int Int) W u x.to):Rd (α:=EndN X) W v x:=by unfold Rd at h;rw[if_pos (show Rep.agg EndR=UO from rfl)]at h;obtain⟨cs,rfl,c1,d1,e1,h1,c2,d2,e2,h2,c3,d3,e3,h3,c4,d4,e4,⟨rfl,-⟩,h5⟩:=h;unfold Rd;rw[if_pos (show Rep.agg (EndN X)=UO from rfl)];exact⟨cs,rfl,c1,d1,e1,h1,c2,d2,e2,h2,c3,d3,e3,h3,_,d4,e4,s.one1 rfl,h5⟩
end
structure ft(X W:View)(h:Heap):Prop where
 old:X.le (vw h)
 st : ∀b cur t,W b=UK (.cells cur t (0,0))->t≠T.int->t≠T.iZ->vw h b=UK (.cells cur t (0,0))
 rw : ∀b cur t,W b=UK (.cells cur t (0,0))->(t=T.int\/t=T.iZ)->X b=UL->∃cur':Array Value,h[b]? = UK (.cells cur' t (0,0))/\cur'.size=cur.size
section
variable{po:OP}{X W:View}{h h':Heap}
theorem ft.start(hX:X.le (vw h))(hW:W.le (vw h)):ft X W h:=
 ⟨hX,λb cur t hb _ _=>hW b _ hb,λb cur t hb _ _=>⟨cur,hW b _ hb,rfl⟩⟩
theorem pF{α β:Type}[Rep α][Rep β]{o:Nat}{g:α->β}{s:α->β->α}(p:Part α β o g s)(hb:Rep.agg β=UP){Y:View}{e:TypeId}{v:Value}{l:List α}(r:Rd (α:=NRow Y e α) W v l)(h1:e≠T.int)(h2:e≠T.iZ){i:Nat}(hi:i<l.length):
  ∃u,(∀h',ft X W h'->an (vw h') (((slA v).add (i*Rep.n α)).add o)=UK u)/\Rd W u (g l[i]):=by
 obtain⟨s1,ly⟩:=jN.1 r;have a:=(s1.at hi).part p;rcases ly with ly | ⟨B,c,cur,rfl,-,hB,-⟩
 ·have ly:l.length=0:=ly;omega
 obtain⟨cs,⟨c',t',fz,q1,q2,q3⟩,q4⟩:=a;have ea:(((slA (UM (UK ⟨B,0,UL⟩) l.length c)).add (i*Rep.n α)).add o)=⟨B,i*Rep.n α+o,UL⟩:=by show((⟨B,0,UL⟩:Addr).add _).add _=_;rw[Addr.z,Addr.z,R1]
 rw[ea]at q2 q3 ⊢;have q2:W B=UK (.cells c' t' fz):=q2;rw[hB]at q2;cases q2;have hl:=Rep.len q4;rw[Rep.one hb]at hl;match cs,hl with
 | [u],_=>refine⟨u,λh' d=>uN ⟨cur,e,(0,0),rfl,d.st B cur e hB h1 h2,q3⟩,?_⟩;unfold Rd;rw[if_neg (by simp[hb])];exact q4
theorem ft.put{α:Type}[Rep α]{P:Program}{t ty:TypeId}{us:List (Nat × Value)}{x y:Operand}{K:Value->Heap->Prop}{e:TypeId}{v:Value}{l:List α}{i o:Nat}{n:Int}(d:ft X W h)(r:Rd (α:=NRow X e α) W v l)(he:e=T.int\/e=T.iZ)(hi:i<l.length)(ho:o<Rep.n α)(hsz:cU P t=UK 1)(hx:asg us x = UN (UK (((slA v).add (i*Rep.n α)).add o)))(hy:asg us y = UH UI n)(hK : ∀h',ft X W h'->K undef h'):@Lft.step po P (.store t x y) ty us h K:=by
 obtain⟨s1,ly⟩:=jN.1 r;rcases ly with ly | ⟨B,c,cur,rfl,hX,hB,hs⟩
 ·have ly:l.length=0:=ly;omega
 obtain⟨cur',g1,g2⟩:=d.rw B cur e hB he hX;have ea:(((slA (UM (UK ⟨B,0,UL⟩) l.length c)).add (i*Rep.n α)).add o)=⟨B,i*Rep.n α+o,UL⟩:=by show((⟨B,0,UL⟩:Addr).add _).add _=_;rw[Addr.z,Addr.z,R1]
 rw[ea]at hx;have hfit:i*Rep.n α+o+1<=cur'.size:=by have:(i+1)*Rep.n α<=l.length*Rep.n α:=RC _ hi;rw[Sb]at this;have hs:l.length*Rep.n α<=cur.size:=hs;omega
 refine eh hsz hx hy rfl U8 g1 hfit λh' hz ⟨row,r1,r2⟩ hoth=>hK h' ⟨λb z hb=>?_,λb c2 t2 hb n1 n2=>?_,λb c2 t2 hb ht hXb=>?_⟩
 ·have hne:b≠B:=by rintro rfl;rw[hX]at hb;cases hb
  exact(hoth b hne).trans (d.old b z hb)
 ·have hne:b≠B:=by
   rintro rfl;rw[hB]at hb;cases hb;rcases he with he | he
   ·exact n1 he
   exact n2 he
  exact(hoth b hne).trans (d.st b c2 t2 hb n1 n2)
 by_cases hne:b=B
 ·subst hne;rw[hB]at hb;cases hb;refine⟨row,r1,?_⟩;have:row.toList.length=cur'.size:=by rw[r2];simp[Value.cells];omega
  rw[<-g2,<-this];simp
 obtain⟨c3,k1,k2⟩:=d.rw b c2 t2 hb ht hXb;exact⟨c3,(hoth b hne).trans k1,k2⟩
theorem ft.put1{P:Program}{t ty:TypeId}{us:List (Nat × Value)}{x y:Operand}{K:Value->Heap->Prop}{e:TypeId}{v:Value}{l:List Int}{i:Nat}{n:Int}(d:ft X W h)(r:Rd (α:=NRow X e Int) W v l)(he:e=T.int\/e=T.iZ)(hi:i<l.length)(hsz:cU P t=UK 1)(hx:asg us x = UN (UK ((slA v).add i)))(hy:asg us y = UH UI n)(hK : ∀h',ft X W h'->K undef h'):@Lft.step po P (.store t x y) ty us h K:=
 d.put (o:=0) r he hi U3 hsz (by rw[hx,show i*Rep.n Int=i from RY i];simp[Addr.add]) hy hK
end
section
variable{X:View}
theorem fw.qw:Part (fw X) (NRow nothing T.fM (PhiN X)) 0 (λd=>dS.phis d) (λd x=>{ d with phis:=x:dS }):=(Part.fst Part.all).via (λ_=>rfl) λ_ _=>rfl
theorem fw.gO:Part (fw X) (NRow nothing T.cT (jL X)) 1 (λd=>dS.ins d) (λd x=>{ d with ins:=x:dS }):=(Part.snd (Part.fst Part.all)).via (λ_=>rfl) λ_ _=>rfl
theorem EndN.Af:Part (EndN X) (NRow X T.int Int) 3 (λd=>EndD.to d) (λd x=>EndD.mk (EndD.op d) (EndD.a d) (EndD.b d) x (EndD.imm d)):=(Part.snd (Part.snd (Part.snd (Part.fst Part.all)))).via (λ_=>rfl) λ_ _=>rfl
theorem fw.Af:Part (fw X) (NRow X T.int Int) 5 (λd=>EndD.to (dS.fin d)) (λd x=>dS.mk (dS.phis d) (dS.ins d) (EndD.mk (EndD.op (dS.fin d)) (EndD.a (dS.fin d)) (EndD.b (dS.fin d)) x (EndD.imm (dS.fin d)))):=(Part.snd (Part.snd EndN.Af)).via (λ_=>rfl) λ_ _=>rfl
theorem PhiN.gO:Part (PhiN X) (NRow X T.iZ InD) 1 (λd=>PhiD.ins d) (λd x=>{ d with ins:=x:PhiD }):=(Part.snd Part.all).via (λ_=>rfl) λ_ _=>rfl
theorem jL.eX:Part (jL X) (NRow X T.int Int) 7 (λd=>bz.args d) (λd x=>{ d with args:=x:bz }):=(Part.snd (Part.snd (Part.snd (Part.snd (Part.snd (Part.snd (Part.snd Part.all))))))).via (λ_=>rfl) λ_ _=>rfl
end
section
variable{X W:View}{h:Heap}{M b n:Nat}{ub up ui ut v1 v5 v6 v7 v8:Value}{blks:List dS}{x:dS}{Q:Post}{ρ:Env}
def zi(X W:View)(M:Nat)(ub:Value):Prop:=∀h',ft X W h'->an (vw h') ⟨M,1,UL⟩=UK ub
structure BlkW(X W:View)(ub:Value)(n b:Nat)(up ui ut:Value)(x:dS):Prop where
 idx:Bn.ev (.idx 7) ub (UH UI (b:Int))=UK (UN (UK ((slA ub).add (b*7))))
 p : ∀h',ft X W h'->an (vw h') (((slA ub).add (b*7)).add 0)=UK up
 i : ∀h',ft X W h'->an (vw h') (((slA ub).add (b*7)).add 1)=UK ui
 t : ∀h',ft X W h'->an (vw h') ((((slA ub).add (b*7)).add 2).add 3)=UK ut
 rp:Rd (α:=NRow nothing T.fM (PhiN X)) W up x.phis
 ri:Rd (α:=NRow nothing T.cT (jL X)) W ui x.ins
 rt:Rd (α:=NRow X T.int Int) W ut (EndD.to x.fin)
theorem OS(r:Rd (α:=NRow nothing T.dU (fw X)) W ub blks)(hb:b<blks.length): ∃up ui ut,BlkW X W ub blks.length b up ui ut blks[b]:=by
 obtain⟨up,p1,p2⟩:=pF (X:=X) fw.qw rfl r U3 U3 hb;obtain⟨ui,i1,i2⟩:=pF (X:=X) fw.gO rfl r U3 U3 hb;obtain⟨ut,t1,t2⟩:=pF (X:=X) fw.Af rfl r U3 U3 hb;have s:=jU (α:=fw X) r;have bd:blks.length<=140737488355328:=s.bound;have q:=s.idxn (k:=.i64) (N:=7) rfl (i:=(b:Int)) U1 (by show(b:Int)<(blks.length:Int);omega);have e:((((slA ub).add (b*7)).add 2).add 3)=((slA ub).add (b*Rep.n (fw X))).add 5:=by
  rcases((jN (α:=fw X)).1 r).2 with ly | ⟨B,c,cur,rfl,_⟩
  ·have ly:blks.length=0:=ly;omega
  show((((⟨B,0,UL⟩:Addr).add _).add _).add _)=((⟨B,0,UL⟩:Addr).add _).add _;rw[Addr.z,Addr.z,Addr.z,Addr.z];rfl
 exact⟨up,ui,ut,by simpa using q,p1,i1,by rw[e];exact t1,p2,i2,t2⟩
theorem Lr(cM:zi X W M ub)(B:BlkW X W ub n b up ui ut x)(d0:ft X W h)(hρ:aX [1,5,6,7,8,9,12,17] ρ=[1,5,6,7,8,9,12,17].zip [v1,v5,v6,v7,v8,ptz M,UH UI b,UH UI 0])(hQ : ∀h' y,ft X W h'->Q .normal ([1,5,6,7,8,9,12,17].zip [v1,v5,v6,v7,v8,ptz M,UH UI b,y]) h'):
  LC.wp UQ L.az.l6.loop (dT 10 Q) ρ h:=by
 have st:=jU B.rt;have bd:=st.bound;refine cL [1,5,6,7,8,9,12,17] (fun(_:Unit) k=>[v1,v5,v6,v7,v8,ptz M,UH UI b,UH UI k]) (λ_ k h1=>ft X W h1) (EndD.to x.fin).length ()
  rfl U1 hρ d0 (λ_ _=>rfl) (λ_ k h1 hk d=>?_) ?_ ?_
 ·simp[cM _ d,B.idx,B.t _ d,st.len]
 ·rintro _ k h1 hk d K2 hK2;have qk:=st.idx1 (k:=.i64) rfl (i:=(k:Int)) U1 U1;simp at qk;simp[cM _ d,B.idx,B.t _ d,qk];refine d.put1 (i:=k) (n:=99) B.rt (.inl rfl) hk U0 rfl rfl λh2 d2=>?_;exact hK2 () _ _ rfl rfl d2
 rintro _ h1 d;exact hQ _ _ d
theorem Mt{j:Nat}(cM:zi X W M ub)(B:BlkW X W ub n b up ui ut x)(hj:j<x.ins.length)(d0:ft X W h)(hρ:aX [1,5,6,7,8,9,12,15,16] ρ=[1,5,6,7,8,9,12,15,16].zip [v1,v5,v6,v7,v8,ptz M,UH UI b,UH UI j,UH UI 0])(hQ : ∀h' y,ft X W h'->Q .normal ([1,5,6,7,8,9,12,15,16].zip [v1,v5,v6,v7,v8,ptz M,UH UI b,UH UI j,y]) h'):
  LC.wp UQ L.az.l5.loop (dT 8 Q) ρ h:=by
 have si:=jU (α:=jL X) B.ri;have bi:x.ins.length<=140737488355328:=si.bound;have qi:=si.idxn (k:=.i64) (N:=8) rfl (i:=(j:Int)) U1 (by show(j:Int)<(x.ins.length:Int);omega);simp at qi;obtain⟨ua,ka,ra⟩:=pF (X:=X) jL.eX rfl B.ri U3 U3 hj;have n8:Rep.n (jL X)=8:=rfl;rw[n8]at ka;have ra:Rd (α:=NRow X T.int Int) W ua (bz.args x.ins[j]):=ra;have sa:=jU ra;have bd:=sa.bound;refine cL [1,5,6,7,8,9,12,15,16] (fun(_:Unit) k=>[v1,v5,v6,v7,v8,ptz M,UH UI b,UH UI j,UH UI k]) (λ_ k h1=>ft X W h1) (bz.args x.ins[j]).length ()
  rfl U1 hρ d0 (λ_ _=>rfl) (λ_ k h1 hk d=>?_) ?_ ?_
 ·simp[cM _ d,B.idx,B.i _ d,qi,ka _ d,sa.len]
 ·rintro _ k h1 hk d K2 hK2;have qk:=sa.idx1 (k:=.i64) rfl (i:=(k:Int)) U1 U1;simp at qk;simp[cM _ d,B.idx,B.i _ d,qi,ka _ d,qk];refine d.put1 (i:=k) (n:=99) ra (.inl rfl) hk U0 rfl rfl λh2 d2=>?_;exact hK2 () _ _ rfl rfl d2
 rintro _ h1 d;exact hQ _ _ d
theorem MF{j:Nat}(cM:zi X W M ub)(B:BlkW X W ub n b up ui ut x)(hj:j<x.phis.length)(d0:ft X W h)(hρ:aX [1,5,6,7,8,9,12,13,14] ρ=[1,5,6,7,8,9,12,13,14].zip [v1,v5,v6,v7,v8,ptz M,UH UI b,UH UI j,UH UI 0])(hQ : ∀h' y,ft X W h'->Q .normal ([1,5,6,7,8,9,12,13,14].zip [v1,v5,v6,v7,v8,ptz M,UH UI b,UH UI j,y]) h'):
  LC.wp UQ L.az.l3.loop (dT 4 Q) ρ h:=by
 have si:=jU (α:=PhiN X) B.rp;have bi:x.phis.length<=140737488355328:=si.bound;have qi:=si.idxn (k:=.i64) (N:=2) rfl (i:=(j:Int)) U1 (by show(j:Int)<(x.phis.length:Int);omega);simp at qi;obtain⟨ua,ka,ra⟩:=pF (X:=X) PhiN.gO rfl B.rp U3 U3 hj;have n2:Rep.n (PhiN X)=2:=rfl;rw[n2]at ka;have ra:Rd (α:=NRow X T.iZ InD) W ua (PhiD.ins x.phis[j]):=ra;have sa:=jU ra;have bd:=sa.bound;refine cL [1,5,6,7,8,9,12,13,14] (fun(_:Unit) k=>[v1,v5,v6,v7,v8,ptz M,UH UI b,UH UI j,UH UI k]) (λ_ k h1=>ft X W h1) (PhiD.ins x.phis[j]).length ()
  rfl U1 hρ d0 (λ_ _=>rfl) (λ_ k h1 hk d=>?_) ?_ ?_
 ·simp[cM _ d,B.idx,B.p _ d,qi,ka _ d,sa.len]
 ·rintro _ k h1 hk d K2 hK2;have qk:=sa.idxn (k:=.i64) (N:=2) rfl (i:=(k:Int)) U1 U1;simp at qk;simp[cM _ d,B.idx,B.p _ d,qi,ka _ d,qk];refine d.put (i:=k) (o:=1) (n:=99) ra (.inr rfl) hk U3 U0 rfl rfl λh2 d2=>?_;exact hK2 () _ _ rfl rfl d2
 rintro _ h1 d;exact hQ _ _ d
theorem Mp(cM:zi X W M ub)(B:BlkW X W ub n b up ui ut x)(d0:ft X W h)(hρ:aX [1,5,6,7,8,9,12,15] ρ=[1,5,6,7,8,9,12,15].zip [v1,v5,v6,v7,v8,ptz M,UH UI b,UH UI 0])(hQ : ∀h' y,ft X W h'->Q .normal ([1,5,6,7,8,9,12,15].zip [v1,v5,v6,v7,v8,ptz M,UH UI b,y]) h'):
  LC.wp UQ L.az.l4.loop (dT 6 Q) ρ h:=by
 have st : ∀{K:View},Un.ev K .len ui=UK (UH UI x.ins.length):=(jU (α:=jL X) B.ri).len;have bd:x.ins.length<=140737488355328:=(jU (α:=jL X) B.ri).bound;refine cL [1,5,6,7,8,9,12,15] (fun(_:Unit) k=>[v1,v5,v6,v7,v8,ptz M,UH UI b,UH UI k]) (λ_ k h1=>ft X W h1) x.ins.length ()
  rfl U1 hρ d0 (λ_ _=>rfl) (λ_ k h1 hk d=>?_) ?_ ?_
 ·simp[cM _ d,B.idx,B.i _ d,st]
 ·rintro _ k h1 hk d K2 hK2;simp;refine Mt (j:=k) cM B hk d rfl λh3 y d3=>?_;simp;exact hK2 () _ _ rfl rfl d3
 rintro _ h1 d;exact hQ _ _ d
theorem MP(cM:zi X W M ub)(B:BlkW X W ub n b up ui ut x)(d0:ft X W h)(hρ:aX [1,5,6,7,8,9,12,13] ρ=[1,5,6,7,8,9,12,13].zip [v1,v5,v6,v7,v8,ptz M,UH UI b,UH UI 0])(hQ : ∀h' y,ft X W h'->Q .normal ([1,5,6,7,8,9,12,13].zip [v1,v5,v6,v7,v8,ptz M,UH UI b,y]) h'):
  LC.wp UQ L.az.l2.loop (dT 2 Q) ρ h:=by
 have st : ∀{K:View},Un.ev K .len up=UK (UH UI x.phis.length):=(jU (α:=PhiN X) B.rp).len;have bd:x.phis.length<=140737488355328:=(jU (α:=PhiN X) B.rp).bound;refine cL [1,5,6,7,8,9,12,13] (fun(_:Unit) k=>[v1,v5,v6,v7,v8,ptz M,UH UI b,UH UI k]) (λ_ k h1=>ft X W h1) x.phis.length ()
  rfl U1 hρ d0 (λ_ _=>rfl) (λ_ k h1 hk d=>?_) ?_ ?_
 ·simp[cM _ d,B.idx,B.p _ d,st]
 ·rintro _ k h1 hk d K2 hK2;simp;refine MF (j:=k) cM B hk d rfl λh3 y d3=>?_;simp;exact hK2 () _ _ rfl rfl d3
 rintro _ h1 d;exact hQ _ _ d
theorem MY(cM:zi X W M ub)(r:Rd (α:=NRow nothing T.dU (fw X)) W ub blks)(d0:ft X W h)(hρ:aX [1,5,6,7,8,9,12] ρ=[1,5,6,7,8,9,12].zip [v1,v5,v6,v7,v8,ptz M,UH UI 0])(hQ : ∀h' y,ft X W h'->Q .normal ([1,5,6,7,8,9,12].zip [v1,v5,v6,v7,v8,ptz M,y]) h'):
  LC.wp UQ L.az.l1.loop (dT 0 Q) ρ h:=by
 have st : ∀{K:View},Un.ev K .len ub=UK (UH UI blks.length):=(jU (α:=fw X) r).len;have bd:blks.length<=140737488355328:=(jU (α:=fw X) r).bound;refine cL [1,5,6,7,8,9,12] (fun(_:Unit) k=>[v1,v5,v6,v7,v8,ptz M,UH UI k]) (λ_ k h1=>ft X W h1) blks.length ()
  rfl U1 hρ d0 (λ_ _=>rfl) (λ_ k h1 hk d=>?_) ?_ ?_
 ·simp[cM _ d,st]
 ·rintro _ b h1 hb d K2 hK2;obtain⟨up,ui,ut,B⟩:=OS (X:=X) r hb;refine aa λy hy=>?_;simp;refine MP cM B d rfl λh2 y2 d2=>?_;subst hy;refine aa λy hy=>?_;simp;refine Mp cM B d2 rfl λh3 y3 d3=>?_;subst hy;simp;refine Lr cM B d3 rfl λh4 y4 d4=>?_;simp;exact hK2 () _ _ rfl rfl d4
 rintro _ h1 d;exact hQ _ _ d
end
abbrev BMap:=Int->Option Bool
abbrev mapT(g:BMap):Value->Option Value:=mapE Value.bool g
theorem C4{g:BMap}{j:Int}{v:Bool}:mapT (putM g j v) (UH UI j)=UK (.bool v)/\∀u,u≠UH UI j->mapT (putM g j v) u=mapT g u:=iy
theorem DQ{g:BMap}{j:Int}:(mapT g (UH UI j)).getD (.bool UP) = .bool ((g j).getD UP):=by show(((g j).map Value.bool).getD (.bool UP))=_;cases g j<;>rfl
def yO(g:BMap)(m:Int->Bool):Prop:=∀q,(g q).getD UP=m q
theorem yO.off{g:BMap}{m:Int->Bool}(i:yO g m){p:Int}:yO (putM g p UP) λq=>if q=p then UP else m q:=λq=>by
 show((if q=p then UK UP else g q)).getD UP=if q=p then UP else m q;split
 ·rfl
 exact i q
def natV(i:Nat):List Value:=[UH UI i]
def yi(inner:Int->Bool)(n:Nat):List Nat:=(List.range (n+1)).filter λi=>!inner (i:Int)
theorem D3{V:View}{p1 p2:Nat}{ri:Nat}{x:BlkD}{g:BMap}{m:Int->Bool}(hp1:At V ⟨p1,0,UL⟩ x)(hp2:an V ⟨p2,0,UL⟩=UK (.map (UK ri)))(hm:MV (.int .i64) V ri (mapT g))(hi:yO g m)(hl:x.ins.length<=140737488355328):Iter UQ 99 [ptz p1,ptz p2] V ((yi m x.ins.length).map natV):=by
 intro l J W h hM hV hVl h0 hround;have hW:=(hM UO 0).le h0;refine aq (args:=[.func (.yield l) #[] #[],ptz p1,ptz p2]) follows Tryz.func99 E.bE UC λK hK=>?_;dsimp only[L.bE,lkF,lkG];obtain⟨vin,cin,sin⟩:=(hp1.part BlkD.gO).list;simp at cin;have cin1:=ae (UF hV hW) cin;have ew:IntKind.i64.wrap ((x.ins.length:Int)+1)=((x.ins.length+1:Nat):Int):=by rw[bc U1 U1];omega
 simp[cin1,sin.len,ew];have hall : ∀{k:Nat},k<x.ins.length+1->m k=UP->((yi m x.ins.length).map natV)[((List.range k).filter λi:Nat=>!m (i:Int)).length]? = UK [UH UI k]:=fun{k} hk he=>by rw[SH];unfold yi;rw[AO (p:=λi:Nat=>!m (i:Int)) hk (by simp[he])];rfl
 refine aG [0,2,8,9] (fun(_:Unit) k=>[.func (.yield l) #[] #[],ptz p2,UH UI (x.ins.length+1:Nat),UH UI k]) (λ_ k h2=>J UO ((List.range k).filter λi:Nat=>!m (i:Int)).length W h2) (x.ins.length+1) ()
  rfl U1 rfl h0 (λ_ _=>rfl) (λv k h1 hk m=>by simp) ?_ ?_
 ·intro _ k h2 hlt hJ2 K2 hK2;have hW2:=(hM _ _).le hJ2;refine dC ?_;refine aa λy hy=>?_;simp;subst hy;refine aa λy hy=>?_;simp[ae (UF hV hW2) hp2];refine wy (f:=mapT g) (z:=.bool UP) (k:=T.int) (e:=T.bool) (d:=.int .i64) (r:=ri) (u:=UH UI k) U0 U0 U0 rfl rfl cV (hm.is (UF hV hW2)) ?_;rw[DQ,hi k];have hfl:=FL (p:=λi:Nat=>!m (i:Int)) (i:=k);cases hmk:m (k:Int)with
  | true=>simp[hmk]at hfl;simp;subst hy;simp;exact hK2 () _ _ rfl rfl (by rw[hfl];exact hJ2)
  | false=>
   simp[hmk]at hfl;simp;refine Dx (ops:=[.tmp 18]) rfl (by simpa using hround _ _ W h2 (λ_ _=>rfl) (hall hlt hmk) hJ2) ?_;rintro b h4 ⟨W4,e1,e2,hJ4⟩;cases b with
   | true=>obtain rfl:=e2 rfl;simp;subst hy;simp;exact hK2 () _ _ rfl rfl (by rw[hfl];exact hJ4)
   | false=>simp;subst hy;simp;exact hK _ _ ⟨UP,_,W4,λi hi hne=>by rw[e1 i hne],hJ4,λh=>by cases h⟩
 intro _ h2 hJ2;simp;refine hK _ _ ⟨UO,_,W,λi hi _=>rfl,hJ2,λ_=>?_⟩;rw[SJ];rfl
theorem Na{W:View}{h h':Heap}{o:Own}{r:Nat}{x x':Obj}(w:Owns W h o)(hr:W r=UK x)(hx : ∀c T fz,x≠.cells c T fz)(hr':h'[r]? = UK x')(hs:h'.size=h.size)(ho : ∀k,k≠r->h'[k]? = h[k]?): ∃W',Owns W' h' o/\Tn [r] W W'/\W' r=UK x':=by refine⟨_,w.turn hr hx hr' hs ho,λb hb y hy=>?_,by unfold View.set;rw[if_pos rfl]⟩;unfold View.set;rw[if_neg (by simpa using hb)];exact hy
theorem Me{h:Heap}{b r:Nat}{p:Value × Value}{left:List (Value × Value)}(m:ItE h b r p left): ∃a c d e,h[r]? = UK (.mapIter a c d e):=by obtain⟨es,s,q,e,a1,a2,a3,a4⟩:=m.ex;exact⟨_,_,_,_,a3⟩
theorem J9{h:Heap}{b r:Nat}{left:List (Value × Value)}(m:It h b r left): ∃a c d e,h[r]? = UK (.mapIter a c d e):=by obtain⟨es,s,q,e,a1,a2,a3,a4⟩:=m.ex;exact⟨_,_,_,_,a3⟩
structure Rs(B W:View)(h:Heap)(o:Own)(C rm rc rb ri p2:Nat)(f:ak)(b:Nat)(l:List aO)(s:CB)(g:BMap)(rs:List Nat):Prop where
 cw:Cw B W h o C rm rc rb f b l (mkU f b) s rs
 mi:MV (.int .i64) W ri (mapT g)
 c2:an B ⟨p2,0,UL⟩=UK (.map (UK ri))
 nc:ri≠rm/\ri≠rc/\ri≠rb
 iin:ri∈rs
section
variable{B W W':View}{h h':Heap}{o:Own}{C rm rc rb ri p2 r:Nat}{f:ak}{b:Nat}{l:List aO}{s:CB}{g:BMap}{rs:List Nat}
theorem Rs.ext(c:Rs B W h o C rm rc rb ri p2 f b l s g rs)(hle:(vw h).le (vw h')):Rs (grow B h h') (grow W h h') h' o C rm rc rb ri p2 f b l s g rs:=
 ⟨c.cw.ext hle,c.mi.mono c.cw.z.upW,ae c.cw.z.up c.c2,c.nc,c.iin⟩
theorem Rs.put{g':BMap}(c:Rs B W h o C rm rc rb ri p2 f b l s g rs)(w:Owns W' h' o)(m:MV (.int .i64) W' ri (mapT g'))(t:Tn [ri] W W')(hs:h'.size=h.size):Rs B W' h' o C rm rc rb ri p2 f b l s g' rs:=
 ⟨⟨c.cw.z.turn c.iin w t hs,c.cw.ch,c.cw.mm.tn t (by simp;exact λe=>c.nc.1 e.symm),c.cw.mc.tn t (by simp;exact λe=>c.nc.2.1 e.symm),c.cw.mb.tn t (by simp;exact λe=>c.nc.2.2 e.symm),c.cw.ne,c.cw.cin,c.cw.bin⟩,m,c.c2,c.nc,c.iin⟩
theorem Rs.beside(c:Rs B W h o C rm rc rb ri p2 f b l s g rs)(hr:r∈rs)(n:r≠ri/\r≠rm/\r≠rc/\r≠rb)(w:Owns W' h' o)(t:Tn [r] W W')(hs:h'.size=h.size):Rs B W' h' o C rm rc rb ri p2 f b l s g rs:=
 ⟨⟨c.cw.z.turn hr w t hs,c.cw.ch,c.cw.mm.tn t (by simp;exact λe=>n.2.1 e.symm),c.cw.mc.tn t (by simp;exact λe=>n.2.2.1 e.symm),c.cw.mb.tn t (by simp;exact λe=>n.2.2.2 e.symm),c.cw.ne,c.cw.cin,c.cw.bin⟩,c.mi.tn t (by simp;exact λe=>n.1 e.symm),c.c2,c.nc,c.iin⟩
end
set_option maxHeartbeats 2000000 in
theorem DT{B W:View}{h:Heap}{o:Own}{C rm rc rb:Nat}{f:ak}{b:Nat}{l:List aO}{s:CB}{rs:List Nat}(c:Cw B W h o C rm rc rb f b l (mkU f b) s rs)(hbest : ∀p t,s.best p=UK t->0<=t/\t<l.length)(hpat : ∀t∈l,I64 t.pat):
  ay UQ 53 #[ptz C] h (λu h'=>∃p1 p2 B' W',u = .func (.func 99) #[] #[ptz p1,ptz p2]/\B.le B'/\W.le W'/\Cw B' W' h' o C rm rc rb f b l (mkU f b) s rs/\
   Iter UQ 99 [ptz p1,ptz p2] W' ((yi (offs f b l s.best 0 ((nth f.blocks b).ins.length+1) (kN f b)) (nth f.blocks b).ins.length).map natV)):=by
 refine aq (args:=[ptz C]) follows Tryz.func53 E.aH UC λK hK=>?_;dsimp only[L.aH,lkF,lkG];have hbl:=c.ch.hb;have hsm:=c.ch.sm;have hlen:=hsm.len;have hil:(nth f.blocks b).ins.length<=10000:=(hsm.blk b hbl).ins;obtain⟨-,vb,cb,sb⟩:=eU c.ch.at_;have qb:=sb.idxn (k:=.i64) (N:=6) rfl (i:=(b:Int)) U1 U1;have n6:Rep.n BlkD=6:=rfl;obtain⟨ux,hux,rux⟩:=(sb.at hbl).ldN rfl (N:=6) rfl;have hux:=hux _ UE;simp[n6]at qb hux;have bk:=c.ch.bk;refine aa λz hz=>?_;simp;subst hz;refine aa λz hz=>?_;refine aK B c.z.wle ?_;simp[cb,bk,qb,hux];have c0:=Cx.start (h:=h) c.z.wle;refine c0.Cj (α:=BlkD) UE rux (n:=6) (z:=zz3) U0 rfl rfl U0 (λ_=>by rfl) (λ_=>by rfl) λB5 h1 W1 hW1 c1 at5 hle1=>?_;have at5:=at5.mono (c1.old.le c1.wle);have cw1:=c.ext hle1;have lB1:=c.z.up (h':=h1);have lW1:=c.z.upW (h':=h1);clear cb sb qb hux rux bk c1 hW1 c0;generalize grow B h h1=B1 at *;generalize grow W h h1=W1' at *;obtain⟨vin,cin,sin⟩:=(at5.part BlkD.gO).list;simp at cin;rw[<-aC hbl]at sin at5;subst hz;refine aa λz hz=>?_;simp;refine cw1.z.own.nA (d:=.int .i64) λh2 W2 hW2 hle2 w2 hn2 m2=>?_;obtain⟨ri,hri⟩ : ∃ri,ri=h1.size:=⟨_,rfl⟩;rw[<-hri]at hn2 m2 ⊢;have hBn:B1 ri=none:=by
  cases hq:B1 ri with
  | none=>rfl
  | some x=>have:=cw1.z.le ri x hq;rw[hn2]at this;cases this
 have hne : ∀{q:Nat} {g:Value->Option Value},MV (.int .i64) W1' q g->ri≠q:=λm e=>by obtain⟨es,cl,h1⟩:=m.NG;rw[<-e,hn2]at h1;cases h1
 have n1:=hne cw1.mm;have n2:=hne cw1.mc;have n3:=hne cw1.mb;have cw2:Cw B1 W2 h2 o C rm rc rb f b l (mkU f b) s (ri::rs):=⟨(⟨w2,UF cw1.z.le hW2,cw1.z.no,λr hr=>Sc (cw1.z.lt r hr) (bO hle2)⟩:Mz B1 W2 h2 o rs).more hBn (m2.is w2.wle).lt,cw1.ch,cw1.mm.mono hW2,cw1.mc.mono hW2,cw1.mb.mono hW2,cw1.ne,Q7 _ cw1.cin,Q7 _ cw1.bin⟩;have lW2:=UF lW1 hW2;refine dw (α:=Raw) (d:=⟨.map (UK ri)⟩) (X:=B1) (z:=.map UL) U0 rfl U0 (gG.2 ⟨rfl,rfl⟩) U5 U5 λh3 hle3 _ at3=>?_;have at3:=(at3 (grow B1 h2 h3) cw2.z.up (bY (Q4 _))).raw;have cw3:=cw2.ext hle3;have lB3:=UF lB1 (cw2.z.up (h':=h3));have m3:=m2.mono (cw2.z.upW (h':=h3));have at5:=at5.mono (cw2.z.up (h':=h3));have cin:=ae (cw2.z.up (h':=h3)) cin;have sin:=sin.mono (cw2.z.up (h':=h3));have lW3:=UF lW2 (cw2.z.upW (h':=h3));generalize h2.size=p2 at *;have e0:mapT (λ_=>UL)=λ_=>none:=nh;rw[<-e0]at m3;have R3:Rs (grow B1 h2 h3) (grow W2 h2 h3) h3 o C rm rc rb ri p2 f b l s (λ_=>UL) (ri::rs):=⟨cw3,m3,at3,⟨n1,n2,n3⟩,Rm⟩;have nri : ∀x,W ri=UK x->False:=λx hx=>by have:=lW1 ri x hx;rw[hn2]at this;cases this
 clear cw3 m3 at3 cw2 w2 m2 hle3 cw1 lW2 hW2 n1 n2 n3 hne hBn hle2;generalize grow B1 h2 h3=B3 at *;generalize grow W2 h2 h3=W3 at *;subst hz;refine aa λz hz=>?_;refine aa λy hy=>?_;simp[R3.cw.at_.x4];refine xu (f:=mapI (mkU f b)) (d:=.int .i64) (k:=T.int) (e:=T.int) U0 rfl R3.cw.m1 λh4 left hle4 hs4 it4 nd4 key4 mem4=>?_;obtain⟨r,hr0⟩ : ∃r,r=h3.size:=⟨_,rfl⟩;rw[<-hr0]at it4 ⊢;have hr3:W3 r=none:=View.b8 R3.cw.z.own.wle U1;have hr3B:B3 r=none:=View.b8 R3.cw.z.wle U1;have ngr:r≠ri/\r≠rm/\r≠rc/\r≠rb:=by
  have q : ∀{q:Nat} {g:Value->Option Value},MV (.int .i64) W3 q g->r≠q:=λm e=>by obtain⟨es,cl,h1⟩:=m.NG;rw[<-e,hr3]at h1;cases h1
  exact⟨q R3.mi,q R3.cw.mm,q R3.cw.mc,q R3.cw.mb⟩
 have lW34:W3.le (grow W3 h3 h4):=R3.cw.z.upW;have R4:Rs B3 (grow W3 h3 h4) h4 o C rm rc rb ri p2 f b l s (λ_=>UL) (r::ri::rs):=by have cw:=R3.cw;refine⟨⟨Mz.more ⟨cw.z.own.ext hle4,UF cw.z.le lW34,cw.z.no,λq hq=>Sc (cw.z.lt q hq) (bO hle4)⟩ hr3B U1,cw.ch,cw.mm.mono lW34,cw.mc.mono lW34,cw.mb.mono lW34,cw.ne,Q7 _ cw.cin,Q7 _ cw.bin⟩,R3.mi.mono lW34,R3.c2,R3.nc,Q7 _ R3.iin⟩
 have hWr : ∃x,grow W3 h3 h4 r=UK x:=by obtain⟨a1,a2,a3,a4,e⟩:=J9 it4;exact⟨_,by rw[bY U1];exact e⟩
 have lW4:=UF lW3 lW34;have nrr : ∀x,W r=UK x->False:=λx hx=>by have:=lW3 r x hx;rw[hr3]at this;cases this
 have hall : ∀u v,(u,v)∈left->∃q:Int,v = UH UI q/\kN f b q=true:=λu v hu=>by have:=(mem4 u v (key4 u v hu)).1 hu;have hk:=key4 u v hu;cases u<;>simp[MapKept.IsKey]at hk;rename_i kd j;subst hk;rw[Dg,Q6]at this;obtain⟨q,e1,rfl⟩:=this;obtain⟨k,k1,rfl,k3,k4⟩:=(nL hbl).1 e1;exact⟨k,rfl,by unfold kN;simp[k3];omega⟩
 have hrest : ∀q:Int,kN f b q=UO->∃u,(u,UH UI q)∈left:=λq hq=>by unfold kN at hq;simp only[Q9,decide_eq_true_eq]at hq;obtain⟨⟨q1,q2⟩,q3⟩:=hq;obtain⟨k,rfl⟩:=Sg q1;refine⟨UH UI (nth (nth f.blocks b).ins k).dst,(mem4 _ _ cV).2 ?_⟩;rw[Dg,(nL hbl).2 ⟨k,by omega,rfl,by simpa using q3,rfl⟩];rfl
 clear R3 hr3 hr3B nd4 key4 mem4 lW34 hs4;generalize grow W3 h3 h4=W4 at *;subst hy;simp only[aW];refine ik [0,3,4,28] (λmm ρ hx=>∃(left:List (Value × Value)) (Wx:View) (g:BMap),mm=left.length/\ρ=[(0,ptz C),(3,ptz B5),(4,ptz p2),(28,ptz r)]/\W.le Wx/\Rs B3 Wx hx o C rm rc rb ri p2 f b l s g (r::ri::rs)/\(∃x,Wx r=UK x)/\It hx rm r left/\
   (∀u v,(u,v)∈left->∃q:Int,v = UH UI q/\kN f b q=UO)/\(∀q:Int,kN f b q=UO->(∃u,(u,UH UI q)∈left)\/g q=UK UO)/\∀q v,g q=UK v->v=UO/\kN f b q=UO) left.length
   ⟨left,W4,λ_=>UL,rfl,by simp[aX,af,ag],lW4,R4,hWr,it4,hall,λq hq=>.inl (hrest q hq),λ_ _ e=>nomatch e⟩ ?_;clear hall hrest it4 R4 hWr lW4;rintro mm ρ hx ⟨left,Wx,g,rfl,rfl,lx,Rx,⟨ox,hox⟩,itx,hall,hrest,hg⟩ K2 hK2;have hnc : ∀c T fz,ox≠.cells c T fz:=by obtain⟨a1,a2,a3,a4,e⟩:=J9 itx;have:=Rx.cw.z.own.wle r ox hox;have this:hx[r]? = UK ox:=this;rw[e]at this;cases this;intro c T fz e;cases e
 refine aa λy hy=>?_;simp;refine zq rfl itx ?_ ?_
 ·rintro rfl;simp;subst hy;simp;subst hz;have hI:yO g (kN f b):=λq=>by
   cases hq:kN f b q with
   | true=>
    rcases hrest q hq with⟨u,hu⟩ | e
    ·cases hu
    rw[e];rfl
   | false=>
    cases e:g q with
    | none=>rfl
    | some v=>have:=(hg q v e).2;rw[hq]at this;cases this
  clear hrest hall itx hg;refine aa λz hz=>?_;have cin5:=ae Rx.cw.z.wle cin;have sn : ∀{K:View},Un.ev K .len vin=UK (UH UI (nth f.blocks b).ins.length):=sin.len;simp[cin5,sn];refine ik [0,3,4,7] (λmm ρ hx=>∃(Bx Wx:View) (g:BMap) (m:Int->Bool),ρ=[(0,ptz C),(3,ptz B5),(4,ptz p2),(7,UH UI ((mm:Int)-1))]/\mm<=(nth f.blocks b).ins.length+1/\B3.le Bx/\W.le Wx/\Rs Bx Wx hx o C rm rc rb ri p2 f b l s g (r::ri::rs)/\yO g m/\
   offs f b l s.best 0 mm m=offs f b l s.best 0 ((nth f.blocks b).ins.length+1) (kN f b)) ((nth f.blocks b).ins.length+1)
   ⟨B3,Wx,g,kN f b,by simp[aX,af,ag],Q4 _,View.le_refl _,lx,Rx,hI,rfl⟩ ?_;clear Rx hI lx cin5;rintro mm ρ h7 ⟨Bx,Wx,g,m,rfl,hmm,lB,lW,R7,hI,ho⟩ K3 hK3
  obtain rfl | ⟨k,rfl⟩:mm=0\/∃k,mm=k+1:=by
   cases mm with
   | zero=>exact .inl rfl
   | succ k=>exact .inr ⟨k,rfl⟩
  ·refine aa λy hy=>?_;simp;subst hz;simp;have ho:m=offs f b l s.best 0 ((nth f.blocks b).ins.length+1) (kN f b):=ho;refine hK _ _ ⟨B5,p2,Bx,Wx,rfl,UF lB3 lB,lW,(R7.cw.less (Q7 _ c.cin) (Q7 _ c.bin)).less c.cin c.bin,?_⟩;rw[<-ho];exact D3 ((at5.mono lB).mono R7.cw.z.le) (ae R7.cw.z.le R7.c2) R7.mi hI U1
  have e7:(((k+1:Nat):Int)-1)=(k:Int):=by omega
  rw[e7];have hof:offs f b l s.best 0 (k+1) m=offs f b l s.best 0 k (pa f b l s.best k m):=rfl;have ewk:IntKind.i64.wrap ((k:Int)-1)=(k:Int)-1:=bc U1 U1;refine aa λy hy=>?_;simp;subst hy;refine aa λy hy=>?_;refine dC ?_;refine aa λx hx=>?_;simp[ae R7.cw.z.wle R7.c2];refine wy (f:=mapT g) (z:=.bool UP) (k:=T.int) (e:=T.bool) (d:=.int .i64) (r:=ri) (u:=UH UI k) U0 U0 U0 rfl rfl cV (R7.mi.is R7.cw.z.own.wle) ?_;rw[DQ,hI k];cases hmk:m (k:Int)with
  | true=>
   have ep:pa f b l s.best k m=m:=by unfold pa;rw[if_pos hmk]
   simp;subst hy;simp[ewk];exact hK3 k _ _ U1 ⟨Bx,Wx,g,m,by simp[aX,af,ag],by omega,lB,lW,R7,hI,by rw[<-ho,hof,ep]⟩
  | false=>
   have ep:pa f b l s.best k m=(kr f b l s.best k).foldl (me (mkU f b)) m:=by unfold pa;rw[if_neg (by rw[hmk];simp)]
   simp;subst hx;refine aa λx hx=>?_;simp;refine ah U0 (KG (i:=k) R7.cw.at_ R7.cw.m3 hbest U1 hpat) ?_;rintro vt h8 ⟨hle8,st⟩;have R8:=R7.ext hle8;have lB8:=UF lB (R7.cw.z.up (h':=h8));have lW8:=UF lW (R7.cw.z.upW (h':=h8));have hS8:(vw h8).bT.le (vw h8):=View.mB;have st:=dD.1 (dD.2 st).bT;have hSr:(vw h8).bT ri=none:=by obtain⟨es,cl,q⟩:=R8.mi.NG;have:=R8.cw.z.own.wle ri _ q;unfold View.bT;rw[this]
   generalize (vw h8).bT=S at st hS8 hSr;generalize grow Bx h7 h8=B8 at *;generalize grow Wx h7 h8=W8 at *;generalize kr f b l s.best k=tk at *;have btk:=st.bound;have stl : ∀{K:View},Un.ev K .len vt=UK (UH UI tk.length):=st.len;simp[stl];subst hx;refine aG [0,3,4,7,47,48,49] (fun(_:Unit) j=>[ptz C,ptz B5,ptz p2,UH UI k,vt,UH UI tk.length,UH UI j])
    (λ_ j hx=>∃(Wx:View) (g:BMap),W.le Wx/\Rs B8 Wx hx o C rm rc rb ri p2 f b l s g (r::ri::rs)/\yO g ((tk.take j).foldl (me (mkU f b)) m)/\S.le (vw hx)) tk.length ()
    U0 U1 (by simp[aX,af,ag]) ⟨W8,g,lW8,R8,hI,hS8⟩ (λ_ _=>rfl) (λv i h1 hk m=>by simp) ?_ ?_
   ·rintro _ j h9 hj ⟨W9,g9,lW9,R9,hI9,hS9⟩ K4 hK4;have hj:j<tk.length:=hj;have q:=(st.mono hS9).idx1 (k:=.i64) (i:=(j:Int)) rfl U1 U1;have p:=(st.mono hS9).int UE (i:=j) hj;simp at q p;have hft:=tQ (f:=me (mkU f b)) (b:=m) (l:=tk) (k:=j) (x:=tk[j]) (RK hj);rw[<-aC hj]at hft;generalize nth tk j=v at *;refine dC ?_;refine aa λx hx=>?_;simp[q,p];subst hx;refine aa λx hx=>?_;simp[R9.cw.at_.x4];refine eM (f:=mapI (mkU f b)) (z:=UH UI 0) (k:=T.int) (e:=T.int) (d:=.int .i64) (r:=rm) (u:=UH UI v) U0 U0 U0 rfl rfl cV R9.cw.m1 ?_;cases hm:mkU f b v with
    | none=>
     have es:(tk.take (j+1)).foldl (me (mkU f b)) m=(tk.take j).foldl (me (mkU f b)) m:=by rw[hft];unfold me;rw[hm]
     simp[hm];subst hx;simp;exact hK4 () _ _ (by simp[af,ag]) (by simp[aX,af,ag]) ⟨W9,g9,lW9,R9,by rw[es];exact hI9,hS9⟩
    | some pq=>
     have es:(tk.take (j+1)).foldl (me (mkU f b)) m=λq=>if q=pq then UP else(tk.take j).foldl (me (mkU f b)) m q:=by rw[hft];unfold me;rw[hm]
     simp[hm];subst hx;simp[ae R9.cw.z.wle R9.c2];obtain⟨g1,g2⟩:=C4 (g:=g9) (j:=pq) (v:=false);refine R9.cw.z.own.pI R9.mi (.inl rfl) (t:=T.hZ) (k:=T.int) (e:=T.bool) (u:=UH UI pq) (v:=.bool UP) U0 U0 rfl rfl rfl cV g1 g2 λh10 W10 w10 m10 t10 hs10 ho10=>?_;exact hK4 () _ _ (by simp[af,ag]) (by simp[aX,af,ag]) ⟨W10,_,t10.le lW9 (λb hb=>by
      rw[Q8.1 hb];cases e:W ri with
      | none=>rfl
      | some x=>exact(nri x e).elim),R9.put w10 m10 t10 hs10,by rw[es];exact hI9.off,λb x hb=>by
      show h10[b]? = UK x;rw[ho10 b (by rintro rfl;rw[hSr]at hb;cases hb)];exact hS9 b x hb⟩
   rintro _ h9 ⟨W9,g9,lW9,R9,hI9,hS9⟩;rw[RR]at hI9;simp;subst hy;simp[ewk];exact hK3 k _ _ U1 ⟨B8,W9,g9,_,by simp[aX,af,ag],by omega,lB8,lW9,R9,hI9,by rw[<-ho,hof,ep]⟩
 intro a p q h5 el hs5 ho5 it5;obtain⟨qi,e1,e2⟩:=hall p.1 p.2 (by rw[el];simp);have hlen5:(a++q).length<left.length:=by rw[el];simp
 obtain⟨a1,a2,a3,a4,er⟩:=Me it5;obtain⟨W5,w5,t5,hW5⟩:=Na Rx.cw.z.own hox hnc er hs5 ho5;have R5:=Rx.beside Rm ngr w5 t5 hs5;have lW5:W.le W5:=t5.le lx λb hb=>by
  rw[Q8.1 hb];cases e:W r with
  | none=>rfl
  | some x=>exact(nrr x e).elim
 simp;subst hy;refine aa λy hy=>?_;refine aQ U2 ?_;simp;subst hy;refine dC ?_;refine aa λy hy=>?_;simp;refine EY rfl it5 ?_;simp[e1];subst hy;simp[ae R5.cw.z.wle R5.c2];obtain⟨g1,g2⟩:=C4 (g:=g) (j:=qi) (v:=true);refine R5.cw.z.own.pI R5.mi (.inl rfl) (t:=T.hZ) (k:=T.int) (e:=T.bool) (u:=UH UI qi) (v:=.bool UO) U0 U0 rfl rfl rfl cV g1 g2 λh6 W6 w6 m6 t6 hs6 ho6=>?_;have R6:=R5.put w6 m6 t6 hs6;refine hK2 (a++q).length _ _ hlen5 ⟨a++q,W6,putM g qi UO,rfl,by simp[aX,af,ag],t6.le lW5 (λb hb=>?_),R6,⟨_,t6 r (by simp;exact ngr.1) _ hW5⟩,(it5.it).same (ho6 _ ?_) (ho6 _ ngr.1),λu v hu=>hall u v (by rw[el,Rj,Ru];rcases Rj.1 hu with hu | hu<;>simp[hu]),λj hj=>?_,λj v hj=>?_⟩
 ·rw[Q8.1 hb];cases e:W ri with
  | none=>rfl
  | some x=>exact(nri x e).elim
 ·exact λe=>R5.nc.1 e.symm
 ·by_cases hji:j=qi
  ·subst hji;right;simp[putM]
  rcases hrest j hj with⟨u,hu⟩ | hu
  ·rw[el,Rj,Ru]at hu;rcases hu with hu | hu | hu
   ·exact .inl ⟨u,Rj.2 (.inl hu)⟩
   ·have:p.2=UH UI j:=by rw[<-hu]
    rw[e1]at this;simp at this;exact absurd this.symm hji
   exact .inl ⟨u,Rj.2 (.inr hu)⟩
  right;simp[putM,hji,hu]
 unfold putM at hj;split at hj
 ·rename_i e;cases hj;exact⟨rfl,by rw[e];exact e2⟩
 exact hg j v hj
end Go.Lft
