/- A part of the proof: LftO, Hi, Hj, Hk, Oa, LftI, LftL, Ra, Ka, Kd, Ke, Ob, Oc, Od, Oe, Of, Og, Oh, Oi, Oj. -/
import Derived.Test.YtnfiilgdjpdlkaaGreatDoorZTMor2
import Derived.Maps.RangeRun
set_option linter.unusedSimpArgs false
set_option linter.unusedVariables false
open Go.Value renaming int->Pp,slice->Pv,pointer->Pw
open Go.IntKind renaming i64->Pq,i32->Ps
open Option renaming some->Pt,none->Pu
open Bool renaming true->Px,false->Py
open Go.Proofs.Tryz renaming prog->Pz
namespace Go.Lft
open Go
section
variable {po po2 po3:OP} {pp:PP}
structure Raw where
 v:Value
instance:Rep Raw where
 n:=1
 agg:=false
 rd:=λ_ cs d=>cs=[d.v]/\d.v.oneCell'=Px
 mono:=λ_ h=>h
 len:=λh=>by rw[h.1];rfl
 one:=λ_=>rfl
 flat:=λh u hu=>by rw[h.1]at hu;simp at hu;subst hu;exact h.2
 pos:=NV
 eA:=λh=>h
instance:Inhabited Raw:=⟨⟨.bool Py⟩⟩
theorem mw{H:View}{v:Value}{d:Raw}:Rd H v d↔v=d.v/\d.v.oneCell'=true:=by simp[Rd,Rep.agg,Rep.rd]
theorem At.raw{H:View}{a:Addr}{d:Raw}(h:At H a d):ak H a=Pt d.v:=by obtain⟨u,h1,h2⟩:=h.load rfl;rw[(mw.1 h2).1]at h1;exact h1
variable{α β:Type}{off:Nat}{W:View}{y:Operand}{K:Value->Heap->Prop}
theorem Cz[Rep α][Rep β]{g:α->β}{s:α->β->α}(p:Part α β off g s){P:Program}{h:Heap}{e:TypeId}{v:Value}{l:List α}{t ty:TypeId}{x:Operand}{us:List (Nat × Value)}{i:Nat}{u:Value}{d:β}(hsz:cK P t=Pt (Rep.n β))(hx:asg us x = Pw (Pt (((slA v).add (i*Rep.n α)).add off)))(hy:asg us y=u)(ho:OwnT W h e v l)(hi:i<l.length)(hr:Rd W u d)(hk : ∀h',h'.size=h.size->OwnT W h' e v (l.set i (s l[i] d))->kf h h' v v->K undef h'):@step po P (.store t x y) ty us h K:=by
 obtain⟨c1,c2,c3⟩:=fq hr;obtain⟨hbd,xs,⟨hxl,hown⟩,hel⟩:=ho;have hf:=p.fits;refine cJ (po:=po) (oY λw hw=>?_);subst hw;rcases hown with⟨rfl,hn⟩ | ⟨gb,cap,cur,rfl,hg,h1,h2,h3,h4⟩
 ·omega
 have hle:i*Rep.n α+Rep.n α<=l.length*Rep.n α:=by rw[<-Nat.succ_mul];exact LQ _ hi
 have hcap:l.length*Rep.n α<=cap*Rep.n α:=LQ _ h1;have hlen:u.cells.toList.length=Rep.n β:=by simpa using c2
 have hrun:=run_storeCells_at P gb (i*Rep.n α+off) e u.cells.toList 0 cur w hg (by simp only[Nat.add_zero];omega) c3;have hadd:((slA (Pv (Pt ⟨gb,0,Pu⟩) l.length cap)).add (i*Rep.n α)).add off=⟨gb,i*Rep.n α+off,Pu⟩:=by show((⟨gb,0,Pu⟩:Addr).add _).add _=_;simp[Addr.z]
 have hszr:=run_sizeOf (P:=P) (w:=w) hsz;obtain⟨row,hrow⟩ : ∃row:Array Value,row.toList=cur.toList.take (i*Rep.n α+off)++u.cells.toList++cur.toList.drop (i*Rep.n α+off+Rep.n β):=⟨(cur.toList.take (i*Rep.n α+off)++u.cells.toList++cur.toList.drop (i*Rep.n α+off+Rep.n β)).toArray,rfl⟩;have hrun':Sem.run P (storeCells ⟨gb,i*Rep.n α+off,Pu⟩ u.cells.toList) w = .ok () (w.setRow gb row):=by rw[hrun];congr 2;rw[<-Array.toList_inj,hrow,hlen];rfl
 have hrsz:row.size=cap*Rep.n α:=by have:=congrArg List.length hrow;simp only[Nl,LA,L6,LY,c2]at this;omega
 refine⟨w.setRow gb row,?_,Same.qg rfl rfl rfl Sa hg Sa (λk _ hne=>setRow_other w gb k _ (λe=>hne e)),hk (w.setRow gb row).heap Sa ⟨by simpa using hbd,xs.take (i*Rep.n α+off)++u.cells.toList++xs.drop (i*Rep.n α+off+Rep.n β),⟨?_,.inr ⟨gb,cap,row,by simp,setRow_heap w gb cur row e _ hg,by simpa using h1,h2,?_,?_⟩⟩,?_⟩ ⟨⟨by simp,λk hk hne=>setRow_other w gb k _ (λe=>hne (by simp[Value.ownBlock,e]))⟩,.inl rfl⟩⟩
 ·simp only[bG,execOp,hx,hy,hadd];simp[Instr.storeAt,Instr.sureAddr,storeVar,hszr,c2,hrun']
 ·simp only[LA,L6,LY,hlen,LU];omega
 ·exact hrsz
 ·simp only[LU];rw[hrow,<-h4,MU,MM P2,LB,LB];have e1:(cur.toList.take (i*Rep.n α+off)).length=i*Rep.n α+off:=by simp;omega
  rw[M6,e1,Lv P2];congr 1;rw[M6,hlen,Lv P2];congr 1;rw[MT];congr 1;omega
 intro j hj;simp only[LU]at hj;have hjle:j*Rep.n α+Rep.n α<=l.length*Rep.n α:=by rw[<-Nat.succ_mul];exact LQ _ hj
 have e1:(xs.take (i*Rep.n α+off)).length=i*Rep.n α+off:=by simp;omega
 by_cases hij:i=j
 ·subst hij;have hset:(l.set i (s l[i] d))[i]'(by simpa using hj)=s l[i] d:=by simp
  rw[hset];have:=p.set (hel i hj) c1;have hcs:((xs.drop (i*Rep.n α)).take (Rep.n α)).length=Rep.n α:=by simp;omega
  have e3:((xs.take (i*Rep.n α+off)++u.cells.toList++xs.drop (i*Rep.n α+off+Rep.n β)).drop (i*Rep.n α)).take (Rep.n α)=((xs.drop (i*Rep.n α)).take (Rep.n α)).take off++u.cells.toList++((xs.drop (i*Rep.n α)).take (Rep.n α)).drop (off+Rep.n β):=by
   rw[LB,MG P2,MT,OY,MU,MM P2,LB];have e4:((xs.drop (i*Rep.n α)).take off).length=off:=by simp;omega
   rw[M6,e4,Lv P2];congr 1;rw[M6,hlen,Lv P2];congr 1;rw[MT,Nn];rw[show i*Rep.n α+(off+Rep.n β)=i*Rep.n α+off+Rep.n β by omega,show Rep.n α-off-Rep.n β=Rep.n α-(off+Rep.n β) by omega]
  rw[e3];exact this
 have hset:(l.set i (s l[i] d))[j]'(by simpa using hj)=l[j]:=by simp[hij]
 rw[hset];have:((xs.take (i*Rep.n α+off)++u.cells.toList++xs.drop (i*Rep.n α+off+Rep.n β)).drop (j*Rep.n α)).take (Rep.n α)=(xs.drop (j*Rep.n α)).take (Rep.n α):=by
  rcases Lr j i with hlt | hge
  ·have h5:j*Rep.n α+Rep.n α<=i*Rep.n α:=by rw[<-Nat.succ_mul];exact LQ _ hlt
   rw[LB,MG P2,L5 P9,MT,MU,MM P2]
  have h5:i*Rep.n α+Rep.n α<=j*Rep.n α:=by rw[<-Nat.succ_mul];exact LQ _ P2
  have e2:(xs.take (i*Rep.n α+off)++u.cells.toList).length=i*Rep.n α+off+Rep.n β:=by rw[LA,e1,hlen]
  rw[Np,L2 P2,MA,e2,Nn];congr 2;omega
 rw[this];exact hel j hj
abbrev Key:=Nat × Nat
structure Item where
 α:Type
 rep:Rep α
 e:TypeId
 v:Value
 l:List α
abbrev Own:=Key->Option Item
def it {α:Type} [r:Rep α] (e:TypeId) (v:Value) (l:List α):Option Item:=Pt ⟨α,r,e,v,l⟩
def bx {α:Type} [r:Rep α] (e:TypeId) (B:Nat) (d:α):Option Item:=Pt ⟨α,r,e,Pv (Pt ⟨B,0,Pu⟩) 1 1,[d]⟩
def Own.upd (o:Own) (k:Key) (i:Option Item):Own:=λj=>if j=k then i else o j
structure Owns (W:View) (h:Heap) (o:Own):Prop where
 wle:W.le (vw h)
 own : ∀k i,o k=Pt i->@OwnT i.α i.rep W h i.e i.v i.l
 av : ∀k i,o k=Pt i->Av W i.v
 dj : ∀k k' i i' b,o k=Pt i->o k'=Pt i'->i.v.ownBlock=Pt b->i'.v.ownBlock=Pt b->k=k'
section
variable {W:View} {h h':Heap} {o:Own} {k:Key}
theorem Owns.congr{o':Own}(w:Owns W h o)(he : ∀k,o' k=o k):Owns W h o':=by have:o'=o:=funext he;rw[this];exact w
theorem Owns.start(hw:W.le (vw h)):Owns W h (λ_=>.none):=⟨hw,λ_ _ h=>(by cases h),λ_ _ h=>(by cases h),λ_ _ _ _ _ h=>(by cases h)⟩
theorem Owns.get[r:Rep α]{e:TypeId}{v:Value}{l:List α}(w:Owns W h o)(hk:o k=it e v l):OwnT W h e v l:=w.own k _ hk
theorem Owns.now {α:Type} [r:Rep α] {e:TypeId} {v:Value} {l:List α} (w:Owns W h o) (hk:o k=it e v l):SlRd (vw h) v l:=(w.get hk).now w.wle
theorem Owns.at {α:Type} [r:Rep α] {e:TypeId} {B:Nat} {d:α} (w:Owns W h o) (hk:o k=bx e B d):At (vw h) ⟨B,0,.none⟩ d:=by have:SlRd (vw h) (Pv (Pt ⟨B,0,.none⟩) 1 1) [d]:=w.now (k:=k) hk;have:=this.at (i:=0) Sa;simpa[slA]using this
theorem Owns.cells {α:Type} [r:Rep α] {e:TypeId} {v:Value} {l:List α} (w:Owns W h o) (hk:o k=it e v l):v.cells = #[v]/\v.oneCell'=true:=by have:=(w.get hk).len (K:=nothing);cases v<;>first | exact⟨rfl,rfl⟩ | (simp[Un.ev,vL]at this)
theorem Owns.lt {i:Item} (w:Owns W h o) (hk:o k=Pt i) {b:Nat} (hb:i.v.ownBlock=Pt b):b<h.size:=@OwnT.lt i.α i.rep _ _ _ _ _ (w.own k i hk) _ hb
theorem Owns.ext'(w:Owns W h o)(hle:(vw h).le (vw h')):Owns W h' o:=
 ⟨Pn w.wle hle,λk i hk=>@OwnT.ext i.α i.rep _ _ _ _ _ _ (w.own k i hk) hle,w.av,w.dj⟩
theorem Owns.ext (w:Owns W h o) (hle:(vw h).le (vw h')):Owns (grow W h h') h' o:=
 ⟨kz (Pn w.wle hle),λk i hk=>@OwnT.mono i.α i.rep _ _ _ _ _ (@OwnT.ext i.α i.rep _ _ _ _ _ _ (w.own k i hk) hle) _ (bU w.wle),
  λk i hk=>(w.av k i hk).grow λb hb=>w.lt hk hb,w.dj⟩
theorem Owns.Io{W':View}(w:Owns W h o)(h1:W.le W')(h2:W'.le (vw h))(h3 : ∀k i b,o k=Pt i->i.v.ownBlock=Pt b->W' b = .none):Owns W' h o:=
 ⟨h2,λk i hk=>@OwnT.mono i.α i.rep _ _ _ _ _ (w.own k i hk) _ h1,λk i hk b hb=>h3 k i b hk hb,w.dj⟩
theorem Owns.sub{o':Own}(w:Owns W h o)(hs : ∀k i,o' k=Pt i->o k=Pt i):Owns W h o':=
 ⟨w.wle,λk i hk=>w.own k i (hs k i hk),λk i hk=>w.av k i (hs k i hk),λk k' i i' b hk hk'=>w.dj k k' i i' b (hs k i hk) (hs k' i' hk')⟩
theorem Owns.iV{i:Item}[rb:Rep β]{e2:TypeId}{v':Value}{l':List β}(w:Owns W h o)(hk:o k=Pt i)(o2:OwnT W h' e2 v' l')(m:kf h h' i.v v'):Owns W h' (o.upd k (it e2 v' l')):=by
 obtain⟨w1,a1⟩:=m.view w.wle (w.av k i hk);have new : ∀(y:Item) (q:Key) (b:Nat),o q=Pt y->y.v.ownBlock=Pt b->v'.ownBlock=Pt b->q=k:=λy q b hq hb hv=>by
  rcases m.at_ with e | e
  ·exact w.dj q k y i b hq hk hb (e▸hv)
  rw[e]at hv;simp only[Ln]at hv;have:=w.lt hq hb;omega
 refine⟨w1,λj x hj=>?_,λj x hj=>?_,λj j' x x' b hj hj' hb hb'=>?_⟩
 ·unfold Own.upd at hj;split at hj
  ·cases hj;exact o2
  rename_i hjk;refine @OwnT.kept x.α x.rep _ _ _ _ _ _ (w.own j x hj) _ m.kept ?_;cases hx:x.v.ownBlock with
  | none=>exact .inl rfl
  | some b=>exact .inr λe=>hjk (w.dj j k x i b hj hk hx e.symm)
 ·unfold Own.upd at hj;split at hj
  ·cases hj;exact a1
  exact(m.view w.wle (w.av k i hk) |>.1:_) |> λ_=>w.av j x hj
 unfold Own.upd at hj hj';split at hj
 ·rename_i a;cases hj;split at hj'
  ·rename_i c;rw[a,c]
  rw[a];exact(new x' j' b hj' hb' hb).symm
 split at hj'
 ·rename_i c;cases hj';rw[c];exact new x j b hj hb hb'
 exact w.dj j j' x x' b hj hj' hb hb'
theorem Owns.add[rb:Rep β]{e2:TypeId}{v':Value}{l':List β}(w:Owns W h o)(hk:o k = .none)(o2:OwnT W h' e2 v' l')(hle:(vw h).le (vw h'))(hb : ∀b,v'.ownBlock=Pt b->h.size<=b):Owns W h' (o.upd k (it e2 v' l')):=by
 have w1:=w.ext' hle;refine⟨w1.wle,λj x hj=>?_,λj x hj=>?_,λj j' x x' b hj hj' hb1 hb2=>?_⟩
 ·unfold Own.upd at hj;split at hj
  ·cases hj;exact o2
  exact w1.own j x hj
 ·unfold Own.upd at hj;split at hj
  ·cases hj;intro b hb';exact View.cr w.wle (hb b hb')
  exact w.av j x hj
 unfold Own.upd at hj hj';split at hj
 ·rename_i a;cases hj;split at hj'
  ·rename_i c;rw[a,c]
  have:=w.lt hj' hb2;have:=hb b hb1;omega
 split at hj'
 ·cases hj';have:=w.lt hj hb1;have:=hb b hb2;omega
 exact w.dj j j' x x' b hj hj' hb1 hb2
theorem Own.aj{i:Option Item}:o.upd k i k=i:=by simp[Own.upd]
theorem Own.ay{i:Option Item}{j:Key}(hj:j≠k):o.upd k i j=o j:=by simp[Own.upd,hj]
theorem iB[Rep β]{B:Nat}{e:TypeId}{v:Value}{d:β}(hb:h[B]? = Pt (.cells v.cells e (0,0)))(hr:Rd W v d)(hn:Rep.n β<=1000):OwnT W h e (Pv (Pt ⟨B,0,.none⟩) 1 1) [d]:=by
 obtain⟨c1,c2,c3⟩:=fq hr;refine⟨by simp,v.cells.toList,⟨by simp[c2],.inr ⟨B,1,v.cells,rfl,hb,Lp _,by simp[maxLen],by omega,?_⟩⟩,λi hi=>?_⟩
 ·rw[Lv];simp[c2]
 have:i=0:=by simpa using hi
 subst this;simp only[NJ,M7,M3];rw[Lv (by simp[c2])];exact c1
section
variable {P:Program} {ty:TypeId} {us:List (Nat × Value)} {α:Type} [r:Rep α] {e:TypeId} {v:Value} {l:List α}
theorem Owns.dg {t:TypeId} {bytes:Nat} {z:Value} {x y:Operand} {u:Value} {l2:List α} {K:Value->Heap->Prop} (w:Owns W h o) (hk:o k=it e v l) (hT:dR P t e (Rep.n α) bytes z) (hx:asg us x=v) (hy:asg us y=u)
  (hs:SrcT (vw h) W u l2) (hb:(l.length+l2.length)*bytes<=140737488355328) (hb2:l.length+l2.length<=140737488355328)
  (hK : ∀v' h',Owns W h' (o.upd k (it e v' (l++l2)))->kf h h' v v'->K v' h'):@step po P (.call ⟨.builtin .append,#[x,y],#[t,t]⟩) ty us h K:=
 Lft.dg hT hx hy (w.get hk) hs hb hb2 λv' h' o2 m=>hK v' h' (w.iV hk o2 m) m
variable{bytes:Nat}
theorem Owns.fM{t ty2:TypeId}{z:Value}{x y2:Operand}{us2:Value->List (Nat × Value)}{u:Value}{d:α}{K:Value->Value->Heap->Prop}(w:Owns W h o)(hk:o k=it e v l)(hT:dR P t e (Rep.n α) bytes z)(hx:asg us x=u)(hr:Rd W u d)(hb:(l.length+1)*bytes<=140737488355328)(hb2:l.length+1<=140737488355328)(hy : ∀u,asg (us2 u) y=v)(hy2 : ∀u,asg (us2 u) y2=u)(hK : ∀u v' h',Owns W h' (o.upd k (it e v' (l++[d])))->h.size<=h'.size->K u v' h'):
  @step po P (.buildSlice t 1 #[(0,x)]) ty us h λu h2=>@step po2 P (.call ⟨.builtin .append,#[y,y2],#[t,t]⟩) ty2 (us2 u) h2 λv' h3=>K u v' h3:=by refine mg (po:=po) hT hx hr λu h2 hs hle hsz=>?_;exact(w.ext' hle).dg hk hT (hy u) (hy2 u) hs hb hb2 λv' h3 w3 m=>hK u v' h3 w3 (by have:=m.kept.size;omega)
theorem Owns.bo{t:TypeId}{x:Operand}{i:Nat}{u:Value}{d:α}(w:Owns W h o)(hk:o k=it e v l)(hsz:cK P t=Pt (Rep.n α))(hx:asg us x = Pw (Pt ((slA v).add (i*Rep.n α))))(hy:asg us y=u)(hi:i<l.length)(hr:Rd W u d)(hK : ∀h',Owns W h' (o.upd k (it e v (l.set i d)))->h'.size>=h.size->K undef h'):@step po P (.store t x y) ty us h K:=
 sL (po:=po) hsz hx hy (w.get hk) hi hr λh' o2 m=>hK h' (w.iV hk o2 m) m.kept.size
theorem Owns.px[Rep β]{g:α->β}{s:α->β->α}(p:Part α β off g s){t:TypeId}{x:Operand}{i:Nat}{u:Value}{d:β}(w:Owns W h o)(hk:o k=it e v l)(hsz:cK P t=Pt (Rep.n β))(hx:asg us x = Pw (Pt (((slA v).add (i*Rep.n α)).add off)))(hy:asg us y=u)(hi:i<l.length)(hr:Rd W u d)(hK : ∀h',Owns W h' (o.upd k (it e v (l.set i (s l[i] d))))->h'.size=h.size->K undef h'):@step po P (.store t x y) ty us h K:=
 Cz (po:=po) p hsz hx hy (w.get hk) hi hr λh' hs o2 m=>hK h' (w.iV hk o2 m) hs
theorem Owns.fT[Rep β]{g:α->β}{s:α->β->α}(p:Part α β off g s){t:TypeId}{x:Operand}{B:Nat}{D:α}{u:Value}{d:β}(w:Owns W h o)(hk:o k=bx e B D)(hsz:cK P t=Pt (Rep.n β))(hx:asg us x = Pw (Pt ⟨B,off,.none⟩))(hy:asg us y=u)(hr:Rd W u d)(hK : ∀h',Owns W h' (o.upd k (bx e B (s D d)))->h'.size=h.size->K undef h'):@step po P (.store t x y) ty us h K:=
 w.px (po:=po) (v:=Pv (Pt ⟨B,0,.none⟩) 1 1) (l:=[D]) (i:=0) p hk hsz (by rw[hx];simp[slA,Addr.z]) hy Sa hr λh' w' hs=>hK h' w' hs
end
end
theorem uV{h0 h1 h2 h3:Heap}(hs:h0.size<=h1.size)(hle:(vw h2).le (vw h3)):(fresh h1 h2).le (grow W h0 h3):=λb o hb=>by
 unfold fresh at hb;split at hb
 ·cases hb
 unfold grow;rw[if_neg P2];exact hle b o hb
theorem CZ{h0 h1 h2:Heap}(hle:(vw h1).le (vw h2)):(grow W h0 h1).le (grow W h0 h2):=λb o hb=>by
 unfold grow at hb ⊢;split
 ·rename_i hlt;rw[if_pos hlt]at hb;exact hb
 rename_i hlt;rw[if_neg hlt]at hb;exact hle b o hb
theorem cR{h0 h1:Heap}{b:Nat}(hb:h0.size<=b):grow W h0 h1 b=h1[b]?:=by unfold grow;rw[if_neg P2]
def View.plus (W:View) (v:Value) (h:Heap):View:=λb=>if v.ownBlock=Pt b then h[b]? else W b
theorem gq{v:Value}{h:Heap}(ha:Av W v):W.le (W.plus v h):=λb o hb=>by
 unfold View.plus;split
 ·rename_i e;rw[ha b e]at hb;cases hb
 exact hb
theorem Hm{v:Value}{h:Heap}(hw:W.le (vw h)):(W.plus v h).le (vw h):=λb o hb=>by
 unfold View.plus at hb;split at hb
 ·exact hb
 exact hw b o hb
theorem Owns.freeze{h:Heap}{o:Own}{k:Key}[r:Rep α]{e:TypeId}{v:Value}{l:List α}(w:Owns W h o)(hk:o k=it e v l):Owns (W.plus v h) h (o.upd k .none)/\SlRd (W.plus v h) v l:=by
 have ha:Av W v:=w.av k _ hk;constructor
 ·refine(w.sub (o':=o.upd k .none) λj i hj=>?_).Io (gq ha) (Hm w.wle) λj i b hj hb=>?_
  ·unfold Own.upd at hj;split at hj
   ·cases hj
   exact hj
  unfold Own.upd at hj;split at hj
  ·cases hj
  rename_i hjk;unfold View.plus;rw[if_neg]
  ·exact w.av j i hj b hb
  intro e2;exact hjk (w.dj j k i _ b hj hk hb e2)
 refine(w.get hk).rd (gq ha) λb hb=>?_;unfold View.plus;rw[if_pos hb]
variable{bytes:Nat}
theorem qT[Rep α]{P:Program}{t e:TypeId}{z:Value}{ty:TypeId}{us:List (Nat × Value)}{h:Heap}(hT:dR P t e (Rep.n α) bytes z)(hk : ∀h',(vw h).le (vw h')->h'.size=h.size+1->(∀W,OwnT (α:=α) W h' e (Pv (Pt ⟨h.size,0,Pu⟩) 0 0) [])->K (Pv (Pt ⟨h.size,0,Pu⟩) 0 0) h'):@step po P (.buildSlice t 0 #[]) ty us h K:=by refine rz (n:=0) (size:=Rep.n α) (vs:=[]) (cs:=#[]) hT P2 Sa (by simp only[Instr.fill,NJ];rw[show Array.range 0 = #[] by simp[Array.range_zero'],Array.map_empty]) (hk _ (bN _ _) Sa λW=>⟨by simp,[],⟨by simp,.inr ⟨h.size,0,#[],rfl,by simp,Lp _,by simp[maxLen],by simp,by simp⟩⟩,λi hi=>by simp at hi⟩)
theorem Mine.empty[Rep α]{V:View}{h0 h h':Heap}{e:TypeId}(hle:(vw h0).le (vw h))(hle2:(vw h).le (vw h'))(hW:W.le (vw h))(ho:Old V h0 W)(own : ∀W,OwnT (α:=α) W h' e (Pv (Pt ⟨h.size,0,Pu⟩) 0 0) []):Mine (α:=α) V h0 h' W e (Pv (Pt ⟨h.size,0,Pu⟩) 0 0) []:=
 ⟨Pn hle hle2,Pn hW hle2,λb hb=>by cases hb;exact View.cr hW (Lp _),λb hb=>by cases hb;exact View.cr hle (Lp _),ho,own W⟩
theorem Owns.atW{h:Heap}{o:Own}{k:Key}[r:Rep α]{e:TypeId}{B:Nat}{d:α}(w:Owns W h o)(hk:o k=bx e B d): ∃cs,gP (vw h) ⟨B,0,Pu⟩ cs/\Rep.rd W cs d:=by
 obtain⟨hb,xs,⟨hl,hown⟩,hel⟩:=w.get (k:=k) (v:=Pv (Pt ⟨B,0,Pu⟩) 1 1) (l:=[d]) hk;have h0:=hel 0 Sa;simp only[NJ,M7,M3,LP,OT]at h0 hl;rw[Lv P2]at h0;rcases hown with⟨h1,_⟩ | ⟨g,cap,cur,h1,h2,h3,h4,h5,h6⟩
 ·cases h1
 simp only[Value.slice.injEq,Ln,Addr.mk.injEq]at h1;obtain⟨⟨rfl,_⟩,_⟩:=h1;refine⟨xs,⟨cur,e,(0,0),rfl,h2,?_⟩,h0⟩;rw[hl,M7];simpa using h6
theorem Owns.ud{h:Heap}{o:Own}{k:Key}{P:Program}{ty:TypeId}{us:List (Nat × Value)}[r:Rep α]{e:TypeId}{v:Value}{l:List α}{t ty2:TypeId}{z:Value}{x y2:Operand}{us2:Value->List (Nat × Value)}{u:Value}{d:α}{K:Value->Value->Heap->Prop}(w:Owns W h o)(hk:o k=it e v l)(hT:dR P t e (Rep.n α) bytes z)(hx:asg us x=u)(hr:Rd W u d)(hb:(l.length+1)*bytes<=140737488355328)(hb2:l.length+1<=140737488355328)(hy : ∀u,asg (us2 u) y=v)(hy2 : ∀u,asg (us2 u) y2=u)(hK : ∀u v' h',Owns W h' (o.upd k (it e v' (l++[d])))->(∀X:View,X.le (vw h)->Av X v->X.le (vw h')/\Av X v')->K u v' h'):
  @step po P (.buildSlice t 1 #[(0,x)]) ty us h λu h2=>@step po2 P (.call ⟨.builtin .append,#[y,y2],#[t,t]⟩) ty2 (us2 u) h2 λv' h3=>K u v' h3:=by refine mg (po:=po) hT hx hr λu h2 hs hle hsz=>?_;exact(w.ext' hle).dg hk hT (hy u) (hy2 u) hs hb hb2 λv' h3 w3 m=>hK u v' h3 w3 λX hX hA=>m.view (Pn hX hle) hA
theorem Owns.pk{h:Heap}{o:Own}{k:Key}{P:Program}{ty:TypeId}{us:List (Nat × Value)}[r:Rep α][Rep β]{e:TypeId}{g:α->β}{s:α->β->α}(p:Part α β off g s){t:TypeId}{x:Operand}{B:Nat}{D:α}{u:Value}{d:β}(w:Owns W h o)(hk:o k=bx e B D)(hsz:cK P t=Pt (Rep.n β))(hx:asg us x = Pw (Pt ⟨B,off,.none⟩))(hy:asg us y=u)(hr:Rd W u d)(hK : ∀h',Owns W h' (o.upd k (bx e B (s D d)))->(∀X:View,X.le (vw h)->X B = .none->X.le (vw h'))->K undef h'):@step po P (.store t x y) ty us h K:=
 Cz (po:=po) p (v:=Pv (Pt ⟨B,0,.none⟩) 1 1) (l:=[D]) (i:=0) hsz (by rw[hx];simp[slA,Addr.z]) hy (w.get (k:=k) (v:=Pv (Pt ⟨B,0,.none⟩) 1 1) (l:=[D]) hk) Sa hr λh' hs o2 m=>hK h' (w.iV hk o2 m) λX hX hB=>(m.view hX λb hb=>by simp only[Value.ownBlock,Ln]at hb;subst hb;exact hB).1
theorem aT{P:Program}{c:E}{kill:List Nat}{x y:LC}{Q:Post}{ρ:Env}{h:Heap}(hc:ev (look ρ) (vw h) c=Pt (.bool Px))(hx:x.wp P Q (bT ρ kill) h):LC.wp P (.cond c kill x y) Q ρ h:=by rw[kQ,hc,AH];exact hx
theorem aU{P:Program}{c:E}{kill:List Nat}{x y:LC}{Q:Post}{ρ:Env}{h:Heap}(hc:ev (look ρ) (vw h) c=Pt (.bool Py))(hy:y.wp P Q (bT ρ kill) h):LC.wp P (.cond c kill x y) Q ρ h:=by rw[kQ,hc,zp];exact hy
end
end Go.Lft
namespace Go.Proofs.YtnfiilgdjpdlkaaGreatDoor
open Go Go.Lft
structure Th where
 blk:Int
 place:Int
 mks:List Int
 tks:List Int
 deriving Inhabited
def phiT (f:an) (b i:Nat):Th:=⟨b,-1-i,[(nth (nth f.blocks b).phis i).dst],(nth (nth f.blocks b).phis i).ins.map InD.val⟩
def insT (f:an) (b i:Nat):Th:=⟨b,i,cw (nth (nth f.blocks b).ins i),(nth (nth f.blocks b).ins i).args⟩
def endT (f:an) (b:Nat):Th:=⟨b,(nth f.blocks b).ins.length,[],(nth f.blocks b).term.args⟩
def thB (f:an) (b:Nat):List Th:=rows (phiT f b) (nth f.blocks b).phis.length++rows (insT f b) (nth f.blocks b).ins.length++[endT f b]
def thTo (f:an) (n:Nat):List Th:=up (λb l=>l++thB f b) n []
def aG (f:an):List Th:=thTo f f.blocks.length
theorem gg{f:an}{n:Nat}:thTo f (n+1)=thTo f n++thB f n:=rfl
theorem Gf{f:an}{n m:Nat}(h:n<=m):thTo f n <+: thTo f m:=by
 induction m with
 | zero=>rw[show n=0 by omega];exact Nq _
 | succ m ih=>
  rcases Lr n (m+1)with h1 | h1
  ·exact(ih P2).trans ⟨_,gg.symm⟩
  rw[show n=m+1 by omega];exact Nq _
theorem Af{β:Type}{x:Nat->β}{n m:Nat}(h:n<=m):rows x n <+: rows x m:=by
 induction m with
 | zero=>rw[show n=0 by omega];exact Nq _
 | succ m ih=>
  rcases Lr n (m+1)with h1 | h1
  ·exact(ih P2).trans ⟨_,eu.symm⟩
  rw[show n=m+1 by omega];exact Nq _
theorem yA{α:Type}{a b c:List α}(h:b <+: c):a++b <+: a++c:=by obtain⟨t,rfl⟩:=h;exact⟨t,by simp⟩
structure ThJ (J:List Th->View->Heap->Prop):Prop where
 le : ∀{l W h},J l W h->W.le (vw h)
 ext : ∀{l W h h'},J l W h->(vw h).le (vw h')->J l (grow W h h') h'
theorem DN{f:an}{v:Value}{h:Heap}{V:View}{gf:Nat}{caps:List Value}{J:List Th->View->Heap->Prop}(hv:Rd V v f)(hsm:SmF f)(hJ:ThJ J)(hg:isFn Pz gf=Px)(h0:J [] V h)(hstep : ∀(l:List Th) (t:Th) (W:View) (h1:Heap) (vm vt:Value),V.le W->l++[t] <+: aG f->J l W h1->SlRd W vm t.mks->SlRd W vt t.tks->az Pz gf (Pp Pq t.blk::Pp Pq t.place::vm::vt::caps).toArray h1 (λ_ h2=>J (l++[t]) W h2)):
  az Pz 45 #[v,.func (.func gf) #[] caps.toArray] h (λ_ h'=>∃W,V.le W/\J (aG f) W h'):=by
 refine aq (args:=[v,.func (.func gf) #[] caps.toArray]) follows Tryz.func45 E.bf Pj λK hK=>?_;dsimp only[L.bf,lkF,lkG];refine ab λz hz=>?_;simp;refine gT rfl (hv.mono (hJ.le h0)) λh1 e1 hle1 hs1 hat=>?_;have j1:=hJ.ext h0 hle1;obtain⟨cp,vb,cb⟩:=jd hat;have hvb:SlRd V vb f.blocks:=by
  obtain⟨u,hu,hur⟩:=hv.J0 an.uo rfl rfl (K:=vw h);have e:vb=u:=by
   have hv' : ∃cs:Array Value,v = .agg cs/\Rep.rd V cs.toList f:=hv;obtain⟨cs,rfl,hcs⟩:=hv';have hb:h1[h.size]? = Pt (.cells cs T.dN (0,0)):=by rw[e1];simp
   have h3:ak (vw h1) ⟨h.size,1,Pu⟩=cs[1]?:=by simp[ak,vw,hb]
   simp at hu;rw[cb.1]at h3;rw[hu]at h3;exact Option.some.inj h3
  rw[e];exact dJ.1 hur
 have hVW:V.le (grow V h h1):=bU (hJ.le h0);generalize grow V h h1=W1 at j1 hVW;generalize h.size=B at cb;have hbb:=cb.2.bound;subst hz;simp[cb.1,cb.2.len];refine aK [1,14,15,16] (fun(_:Unit) b=>[.func (.func gf) #[] caps.toArray,vb,Pp Pq f.blocks.length,Pp Pq b]) (λ_ b h2=>∃W,V.le W/\J (thTo f b) W h2) f.blocks.length ()
  rfl P2 rfl ⟨W1,hVW,j1⟩ (λ_ _=>rfl) (λv i h1 hk m=>by simp) ?_ ?_
 ·rintro _ b h2 hltb ⟨W2,hW2,j2⟩ K2 hK2;have hvb2:=hvb.mono (Pn hW2 (hJ.le j2));obtain⟨u,hu,hur⟩:=(hvb.mono hW2).wh rfl (N:=6) rfl hltb;refine ab λz hz=>?_;simp(disch:=omega)[hvb2.idxn (N:=6) rfl,hu _ (hJ.le j2)];refine dC (X:=W2) (z:=.agg #[Pv Pu 0 0,Pv Pu 0 0,Pp Pq 0,Pv Pu 0 0,Pv Pu 0 0,Pp Ps 0]) P1 rfl P1 hur P5 P5 λh3 hle3 hsz3 hat3=>?_;have j3:=hJ.ext j2 hle3;have hat3':=hat3 (grow W2 h2 h3) (bU (hJ.le j2)) (by unfold grow;rw[if_neg P2]);obtain⟨vp,vi,va,vt,bp,bi,bk,ba,bt⟩:=jO hat3';have hVW3:=Pn hW2 (bU (h':=h3) (hJ.le j2));generalize grow W2 h2 h3=W3 at j3 hVW3 bp bi bk ba bt;generalize h2.size=D at bp bi bk ba bt;have hpre:thTo f b++thB f b <+: aG f:=by rw[<-gg];exact Gf hltb
  subst hz;have bph:=bp.2.bound;have bih:=bi.2.bound;refine ab λz hz=>?_;simp[ae (hJ.le j3) bp.1,bp.2.len];refine aK [1,4,5,14,15,16,22,23,24] (fun(_:Unit) i=>[.func (.func gf) #[] caps.toArray,Pp Pq b,Pw (Pt ⟨D,0,Pu⟩),vb,Pp Pq f.blocks.length,Pp Pq b,vp,Pp Pq (nth f.blocks b).phis.length,Pp Pq i])
   (λ_ i h4=>∃W,W3.le W/\J (thTo f b++rows (phiT f b) i) W h4) (nth f.blocks b).phis.length ()
   rfl P2 rfl ⟨W3,View.le_refl _,by simpa using j3⟩ (λ_ _=>rfl) (λv i h1 hk m=>by simp) ?_ ?_
  ·rintro _ i h4 hlti ⟨W4,hW4,j4⟩ K3 hK3;have bp4:=bp.2.mono (Pn hW4 (hJ.le j4));obtain⟨u4,hu4,hur4⟩:=bp4.wh rfl (N:=2) rfl hlti;refine ab λy hy=>?_;simp(disch:=omega)[bp4.idxn (N:=2) rfl,hu4 _ Pl];refine dC (z:=.agg #[Pp Pq 0,Pv Pu 0 0]) P1 rfl P1 hur4 P5 P5 λh5 hle5 hsz5 hat5=>?_;obtain⟨c0,vq,cq⟩:=yS (hat5 (vw h5) hle5 rfl);have rd:=((hat5 (vw h5) hle5 rfl).part PhiD.ig).rng;have hpl:=(hsm.blk b hltb).phi i hlti;have hpt:phiT f b i=⟨b,-1-i,[(nth (nth f.blocks b).phis i).dst],(nth (nth f.blocks b).phis i).ins.map InD.val⟩:=rfl;generalize nth (nth f.blocks b).phis i=x at c0 cq rd hpt hpl;generalize h4.size=D4 at c0 cq;have bq:=cq.2.bound;subst hy;refine ab λy hy=>?_;simp;subst hy;refine ab λy hy=>?_;simp[cq.1,cq.2.len];refine aK [1,4,5,6,7,8,14,15,16,22,23,24,30,31,32] (fun(r:Value) j=>[.func (.func gf) #[] caps.toArray,Pp Pq b,Pw (Pt ⟨D,0,Pu⟩),Pp Pq i,Pw (Pt ⟨D4,0,Pu⟩),r,vb,Pp Pq f.blocks.length,Pp Pq b,vp,Pp Pq (nth f.blocks b).phis.length,Pp Pq i,vq,Pp Pq x.ins.length,Pp Pq j])
    (λr j h6=>Mine nothing h5 h6 nothing T.int r ((x.ins.map InD.val).take j)) x.ins.length (Pv Pu 0 0)
    rfl P2 rfl (Mine.start bC) (λ_ _=>rfl) (λv i h1 hk m=>by simp) ?_ ?_
   ·rintro r j h6 hltj m6 K4 hK4;have cq6:=cq.2.mono m6.old;obtain⟨u6,hu6,hur6⟩:=cq6.wh rfl (N:=2) rfl hltj;refine ab λq hq=>?_;simp(disch:=omega)[cq6.idxn (N:=2) rfl,hu6 _ Pl];refine dC (z:=.agg #[Pp Pq 0,Pp Pq 0]) P1 rfl P1 hur6 P5 P5 λh7 hle7 hsz7 hat7=>?_;have e1:=(Bj (hat7 (vw h7) hle7 rfl)).2;have rv:=((hat7 (vw h7) hle7 rfl).part InD.BO).rng;generalize h6.size=D6 at e1;subst hq;simp[e1];have hl8:((x.ins.map InD.val).take j).length=j:=by simp;omega
    refine(m6.ext' hle7).push (d:=(nth x.ins j).val) El.aP (by simp<;>rfl) (om rv.1 rv.2) P2 P2 P5 P5 λu8 v8 h8 m8=>?_;refine hK4 v8 _ _ rfl rfl ?_;rw[OU,MZ,LX hltj];rw[aA hltj]at m8;exact m8
   rintro r h6 m6;rw[Lv Sa]at m6;simp;subst hy;simp(disch:=omega)[ae m6.old c0];refine kC (X:=nothing) (ds:=[x.dst]) (vs:=[Pp Pq x.dst]) rfl El.aP Sa ⟨bD.2 ⟨rfl,rd⟩,trivial⟩ bC rfl P2 λu7 h7 hle7 hsz7 hu7 _=>?_;have hle47:=Pn hle5 (Pn m6.old hle7);have j7:=hJ.ext j4 hle47;have hW7:=Pn hW4 (bU (h':=h7) (hJ.le j4));have pre:(thTo f b++rows (phiT f b) i)++[phiT f b i] <+: aG f:=by rw[LB,<-eu];exact(yA ((Af hlti).trans ⟨_,(LB ..).symm⟩)).trans hpre
   rw[hpt]at pre;refine bH (ops:=[.tmp 43,.tmp 45,.tmp 48,.tmp 49]) rfl hg (hstep _ ⟨b,-1-i,[x.dst],x.ins.map InD.val⟩ _ h7 u7 r (Pn hVW3 hW7) pre j7 (hu7 _ bC (cR (by have:=bY hle5;have:=bY m6.old;omega))) (m6.fresh.mono (uV (bY hle5) hle7))) ?_;rintro _ h8 j8;exact hK3 () _ _ rfl rfl ⟨_,hW7,by rw[eu,<-List.append_assoc,hpt];exact j8⟩
  rintro _ h4 ⟨W4,hW4,j4⟩;simp;subst hz;refine ab λz hz=>?_;have hW4h:=Pn hW4 (hJ.le j4);simp[ae hW4h bi.1,(bi.2.mono hW4h).len];refine aK [1,4,5,14,15,16,53,54,55] (fun(_:Unit) i=>[.func (.func gf) #[] caps.toArray,Pp Pq b,Pw (Pt ⟨D,0,Pu⟩),vb,Pp Pq f.blocks.length,Pp Pq b,vi,Pp Pq (nth f.blocks b).ins.length,Pp Pq i])
   (λ_ i h5=>∃W,W3.le W/\J (thTo f b++rows (phiT f b) (nth f.blocks b).phis.length++rows (insT f b) i) W h5) (nth f.blocks b).ins.length ()
   rfl P2 rfl ⟨W4,hW4,by simpa using j4⟩ (λ_ _=>rfl) (λv i h1 hk m=>by simp) ?_ ?_
  ·rintro _ i h5 hlti ⟨W5,hW5,j5⟩ K3 hK3;have bi5:=bi.2.mono (Pn hW5 (hJ.le j5));obtain⟨u5,hu5,hur5⟩:=(bi.2.mono hW5).wh rfl (N:=5) rfl hlti;refine ab λy hy=>?_;simp(disch:=omega)[bi5.idxn (N:=5) rfl,hu5 _ (hJ.le j5)];refine dC (z:=.agg #[Pp Pq 0,Pp Pq 0,Pp Pq 0,Pv Pu 0 0,Pp Ps 0]) P1 rfl P1 hur5 P5 P5 λh6 hle6 hsz6 hat6=>?_;have hatg:=hat6 (grow W5 h5 h6) (bU (hJ.le j5)) (cR (Lp _));have hat6':=hatg.mono (kz (Pn (hJ.le j5) hle6));obtain⟨_,_,_,vq,cq⟩:=kK hatg;obtain⟨w,w1,w2⟩:=hat6'.bO rfl;have w1:Un.ev (vw h6) (.bO 5) (Pw (Pt ⟨h5.size,0,Pu⟩))=Pt w:=w1;have hpt:insT f b i=⟨b,i,cw (nth (nth f.blocks b).ins i),(nth (nth f.blocks b).ins i).args⟩:=rfl;generalize nth (nth f.blocks b).ins i=x at cq w2 hpt;generalize h5.size=D5 at cq w1;subst hy;have hg6:(grow W5 h5 h6).le (vw h6):=kz (Pn (hJ.le j5) hle6);refine aR (vw h6) Pl ?_;simp[ae hg6 cq.1,w1];refine af P1 (Ag w2) ?_;rintro u7 h7 ⟨hle7,hu7⟩;refine⟨hle7,?_⟩;have hle57:=Pn hle6 hle7;have j7:=hJ.ext j5 hle57;have hW7:=Pn hW5 (bU (h':=h7) (hJ.le j5));have pre:(thTo f b++rows (phiT f b) (nth f.blocks b).phis.length++rows (insT f b) i)++[insT f b i] <+: aG f:=by rw[LB,<-eu,LB];refine(yA ?_).trans hpre;exact(yA (Af hlti)).trans ⟨_,rfl⟩
   rw[hpt]at pre;refine bH (ops:=[.tmp 61,.tmp 62,.tmp 64,.tmp 66]) rfl hg (hstep _ ⟨b,i,cw x,x.args⟩ _ h7 u7 vq (Pn hVW3 hW7) pre j7 (hu7.mono (uV (bY hle6) Pl)) (cq.2.mono (CZ hle7))) ?_;rintro _ h8 j8;exact hK3 () _ _ rfl rfl ⟨_,hW7,by rw[eu,<-List.append_assoc,hpt];exact j8⟩
  rintro _ h5 ⟨W5,hW5,j5⟩;simp;subst hz;have hW5h:=Pn hW5 (hJ.le j5);simp[ae hW5h bi.1,(bi.2.mono hW5h).len,ae hW5h ba.1];have pre:(thTo f b++rows (phiT f b) (nth f.blocks b).phis.length++rows (insT f b) (nth f.blocks b).ins.length)++[endT f b] <+: aG f:=by rw[LB,LB,<-List.append_assoc (rows _ _)];exact hpre
  refine bH (ops:=[.tmp 70,.tmp 73,.const (Pv Pu 0 0),.tmp 76]) rfl hg (hstep _ ⟨b,(nth f.blocks b).ins.length,[],(nth f.blocks b).term.args⟩ _ h5 (Pv Pu 0 0) va (Pn hVW3 hW5) pre j5 aJ (ba.2.mono hW5)) ?_;rintro _ h6 j6;refine hK2 () _ _ rfl rfl ⟨_,Pn hVW3 hW5,?_⟩;have e:thTo f (b+1)=(thTo f b++rows (phiT f b) (nth f.blocks b).phis.length++rows (insT f b) (nth f.blocks b).ins.length)++[endT f b]:=by rw[gg,thB];simp[LB]
  rw[e];exact j6
 rintro _ h2 ⟨W2,hW2,j2⟩;simp;exact hK _ _ ⟨W2,hW2,j2⟩
theorem pj {α β:Type} (I:β->Prop) {f:β->α->β} (hf : ∀x a,I x->I (f x a)) : ∀(l:List α) (x:β),I x->I (l.foldl f x)
 | [],_,h=>h
 | a::l,x,h=>pj I hf l _ (hf x a h)
theorem EM{β:Type}{x:Nat->β}{n:Nat}{y:β}:y∈rows x n↔∃i,i<n/\y=x i:=by simp only[rows,MJ,MY];exact⟨λ⟨i,h,e⟩=>⟨i,h,e.symm⟩,λ⟨i,h,e⟩=>⟨i,h,e.symm⟩⟩
theorem iC{f:an}{n:Nat}{t:Th}:t∈thTo f n↔∃b,b<n/\t∈thB f b:=by
 induction n with
 | zero=>simp[thTo,up]
 | succ n ih=>
  rw[gg,Lt,ih];constructor
  ·rintro(⟨b,h1,h2⟩ | h)
   ·exact⟨b,by omega,h2⟩
   exact⟨n,by omega,h⟩
  rintro⟨b,h1,h2⟩;rcases Lr b n with h | h
  ·exact .inl ⟨b,h,h2⟩
  rw[show b=n by omega]at h2;exact .inr h2
theorem jM{f:an}{b:Nat}{t:Th}:t∈thB f b↔(∃i,i<(nth f.blocks b).phis.length/\t=phiT f b i)\/(∃i,i<(nth f.blocks b).ins.length/\t=insT f b i)\/t=endT f b:=by simp only[thB,Lt,EM,Lw,or_assoc]
theorem AM{i:InsD}:(cw i).length<=2:=by unfold cw;split<;>(try split)<;>simp
structure ThOk (f:an) (t:Th):Prop where
 blk:0<=t.blk/\t.blk<f.blocks.length
 place:-10000<=t.place/\t.place<=10000
 mks:t.mks.length<=10000
 tks:t.tks.length<=10000
 ins:0<=t.place->t.mks≠[]->t.place<(nth f.blocks t.blk.toNat).ins.length
theorem zG{f:an}(hsm:SmF f){t:Th}(h:t∈aG f):ThOk f t:=by
 obtain⟨b,hb,h⟩:=iC.1 h;have s:=hsm.blk b hb;have sp:=s.phis;have si:=s.ins;rcases jM.1 h with⟨i,hi,rfl⟩ | ⟨i,hi,rfl⟩ | rfl
 ·exact⟨⟨by simp[phiT],by simp[phiT];omega⟩,by simp only[phiT];omega,by simp[phiT],by simpa[phiT]using s.phi i hi,λh=>by simp only[phiT]at h;omega⟩
 ·refine⟨⟨by simp[insT],by simp[insT];omega⟩,by simp only[insT];omega,LN AM P4,s.inn i hi,λ_ _=>by simp[insT];omega⟩
 exact⟨⟨by simp[endT],by simp[endT];omega⟩,by simp only[endT];omega,by simp[endT],s.args,λ_ h=>absurd rfl h⟩
theorem uu {f:an} (hsm:SmF f) : ∀{n:Nat},n<=f.blocks.length->(thTo f n).length<=n*20001
 | 0,_=>by simp[thTo,up]
 | n+1,h=>by have ih:=uu hsm (n:=n) P2;have s:=hsm.blk n P2;have sp:=s.phis;have si:=s.ins;rw[gg,LA,thB];simp only[LA,mO,LP];omega
theorem Be{f:an}(hsm:SmF f):(aG f).length<=200010000:=by have:=uu hsm (Lp f.blocks.length);have:=hsm.len;unfold aG;omega
abbrev WL:=List (Int × Int)
def bW (val:Int) (w:Int × Int) (l:WL) (n:Int):WL:=if n=val then l++[w] else l
def yL (val:Int) (l:WL) (t:Th):WL:=t.mks.foldl (bW val (t.blk,t.place)) l
def tC (val:Int) (l:WL) (t:Th):WL:=t.tks.foldl (bW val (t.blk,t.place)) l
variable{val:Int}
theorem jV{w:Int × Int}{ns:List Int}: ∀{l:WL},(ns.foldl (bW val w) l).length<=l.length+ns.length:=by
 induction ns with
 | nil=>simp
 | cons n ns ih=>
  intro l;rw[LV];have:=ih (l:=bW val w l n);have h2:(bW val w l n).length<=l.length+1:=by unfold bW;split<;>simp
  simp only[MF];omega
theorem wz{F:WL->Th->WL}{c:Nat}{l:List Th}(h : ∀t∈l,∀x,(F x t).length<=x.length+c): ∀(x:WL),(l.foldl F x).length<=x.length+l.length*c:=by
 induction l with
 | nil=>simp
 | cons t l ih=>intro x;rw[LV];have h1:=ih (λt ht=>h t (Lz _ ht)) (F x t);have h2:=h t (Ly ..) x;simp only[MF,MD];omega
def qI (B1:Nat) (v1:Value) (l1:WL) (B2:Nat) (v2:Value) (l2:WL):Own:=λk=>if k=(0,0) then bx T.bF B1 (Raw.mk v1) else if k=(0,1) then it T.iY v1 l1 else if k=(1,0) then bx T.bF B2 (Raw.mk v2) else if k=(1,1) then it T.iY v2 l2 else Pu
structure Fo (val:Int) (C B1 B2:Nat) (l1 l2:WL) (W:View) (h:Heap):Prop where
 box:ak W ⟨C,0,Pu⟩=Pt (Pp Pq val)
 ex : ∃v1 v2,Owns W h (qI B1 v1 l1 B2 v2 l2)
theorem Fo.le {val:Int} {C B1 B2:Nat} {l1 l2:WL} {W:View} {h:Heap} (k:Fo val C B1 B2 l1 l2 W h):W.le (vw h):=let ⟨_,_,w⟩:=k.ex;w.wle
theorem Fo.ext {val:Int} {C B1 B2:Nat} {l1 l2:WL} {W:View} {h h':Heap} (k:Fo val C B1 B2 l1 l2 W h) (hle:(vw h).le (vw h')):Fo val C B1 B2 l1 l2 (grow W h h') h':=
 ⟨ae (bU k.le) k.box,let ⟨v1,v2,w⟩:=k.ex;⟨v1,v2,w.ext hle⟩⟩
theorem EL{blk place:Int}{C B1 B2:Nat}{l1 l2:WL}{ms ts:List Int}{vm vt:Value}{W:View}{h:Heap}(k:Fo val C B1 B2 l1 l2 W h)(hm:SlRd W vm ms)(ht:SlRd W vt ts)(r1:-10000<=blk/\blk<=10000)(r2:-10000<=place/\place<=10000)(b1:l1.length+ms.length<=2000100000000)(b2:l2.length+ts.length<=2000100000000):
  az Pz 46 #[Pp Pq blk,Pp Pq place,vm,vt,Pw (Pt ⟨C,0,Pu⟩),Pw (Pt ⟨B1,0,Pu⟩),Pw (Pt ⟨B2,0,Pu⟩)] h
   (λ_ h2=>Fo val C B1 B2 (ms.foldl (bW val (blk,place)) l1) (ts.foldl (bW val (blk,place)) l2) W h2):=by
 refine aq (args:=[Pp Pq blk,Pp Pq place,vm,vt,Pw (Pt ⟨C,0,Pu⟩),Pw (Pt ⟨B1,0,Pu⟩),Pw (Pt ⟨B2,0,Pu⟩)]) follows Tryz.func46 E.bs Pj λK hK=>?_;have bm:=hm.bound;have bt:=ht.bound;dsimp only[L.bs,lkF,lkG];refine ab λz hz=>?_;simp[(hm.mono k.le).len];refine aK [0,1,3,4,5,6,15,16,17] (fun(_:Unit) i=>[Pp Pq blk,Pp Pq place,vt,Pw (Pt ⟨C,0,Pu⟩),Pw (Pt ⟨B1,0,Pu⟩),Pw (Pt ⟨B2,0,Pu⟩),vm,Pp Pq ms.length,Pp Pq i])
  (λ_ i h1=>Fo val C B1 B2 ((ms.take i).foldl (bW val (blk,place)) l1) l2 W h1) ms.length ()
  rfl P2 rfl k (λ_ _=>rfl) (λv i h1 hk m=>by simp) ?_ ?_
 ·rintro _ i h1 hlt k1 K2 hK2;have hm1:=hm.mono k1.le;have hst:(ms.take (i+1)).foldl (bW val (blk,place)) l1=bW val (blk,place) ((ms.take i).foldl (bW val (blk,place)) l1) (nth ms i):=by rw[LD hlt,Nj,aA hlt];rfl
  have hlen:=jV (val:=val) (w:=(blk,place)) (ns:=ms.take i) (l:=l1);rw[L6]at hlen;generalize (ms.take i).foldl (bW val (blk,place)) l1=y at k1 hst hlen;refine ab λz hz=>?_;simp(disch:=omega)[hm1.idx1 rfl,hm1.int Pl];subst hz;refine ab λz hz=>?_;simp[ae k1.le k1.box];subst hz;by_cases he:nth ms i=val
  ·rw[bW,if_pos he]at hst;obtain⟨v1,v2,w⟩:=k1.ex;have hbx:=(w.at (k:=(0,0)) (d:=Raw.mk v1) (B:=B1) (e:=T.bF) rfl).raw;simp[he,hbx];refine aw (z:=.agg #[Pp Pq 0,Pp Pq 0]) (places:=[(0,1),(1,1)]) (vs:=[(0,Pp Pq blk),(1,Pp Pq place)]) (cs:=#[Pp Pq blk,Pp Pq place]) P1 P1 Sa P1 ?_;refine w.fM (k:=(0,1)) (α:=Int × Int) (d:=(blk,place)) rfl El.bF rfl (oM.2 ⟨rfl,P6,by omega,by omega⟩) P2 P2 (λ_=>rfl) (λ_=>rfl) λu v' h2 w2 hs2=>?_;have hc:=w2.cells (k:=(0,1)) (Own.aj);refine w2.fT (k:=(0,0)) (D:=Raw.mk v1) (B:=B1) (e:=T.bF) (Part.all) (d:=Raw.mk v') rfl P1 rfl rfl (mw.2 ⟨rfl,hc.2⟩) λh3 w3 hs3=>?_;refine hK2 () _ _ rfl rfl ⟨k1.box,v',v2,w3.congr λq=>?_⟩;rw[hst];unfold qI Own.upd;repeat' split
   all_goals first | rfl | simp_all
  rw[bW,if_neg he]at hst;simp[he];exact hK2 () _ _ rfl rfl (by rw[hst];exact k1)
 rintro _ h1 k1;rw[MH]at k1;simp;subst hz;simp[(ht.mono k1.le).len];generalize ms.foldl (bW val (blk,place)) l1=m1 at k1 hK;refine aK [0,1,4,5,6,31,32,33] (fun(_:Unit) i=>[Pp Pq blk,Pp Pq place,Pw (Pt ⟨C,0,Pu⟩),Pw (Pt ⟨B1,0,Pu⟩),Pw (Pt ⟨B2,0,Pu⟩),vt,Pp Pq ts.length,Pp Pq i])
  (λ_ i h2=>Fo val C B1 B2 m1 ((ts.take i).foldl (bW val (blk,place)) l2) W h2) ts.length ()
  rfl P2 rfl k1 (λ_ _=>rfl) (λv i h1 hk m=>by simp) ?_ ?_
 ·rintro _ i h2 hlt k2 K2 hK2;have ht2:=ht.mono k2.le;have hst:(ts.take (i+1)).foldl (bW val (blk,place)) l2=bW val (blk,place) ((ts.take i).foldl (bW val (blk,place)) l2) (nth ts i):=by rw[LD hlt,Nj,aA hlt];rfl
  have hlen:=jV (val:=val) (w:=(blk,place)) (ns:=ts.take i) (l:=l2);rw[L6]at hlen;generalize (ts.take i).foldl (bW val (blk,place)) l2=y at k2 hst hlen;refine ab λz hz=>?_;simp(disch:=omega)[ht2.idx1 rfl,ht2.int Pl];subst hz;refine ab λz hz=>?_;simp[ae k2.le k2.box];subst hz;by_cases he:nth ts i=val
  ·rw[bW,if_pos he]at hst;obtain⟨v1,v2,w⟩:=k2.ex;have hbx:=(w.at (k:=(1,0)) (d:=Raw.mk v2) (B:=B2) (e:=T.bF) rfl).raw;simp[he,hbx];refine aw (z:=.agg #[Pp Pq 0,Pp Pq 0]) (places:=[(0,1),(1,1)]) (vs:=[(0,Pp Pq blk),(1,Pp Pq place)]) (cs:=#[Pp Pq blk,Pp Pq place]) P1 P1 Sa P1 ?_;refine w.fM (k:=(1,1)) (α:=Int × Int) (d:=(blk,place)) rfl El.bF rfl (oM.2 ⟨rfl,P6,by omega,by omega⟩) P2 P2 (λ_=>rfl) (λ_=>rfl) λu v' h3 w2 hs2=>?_;have hc:=w2.cells (k:=(1,1)) (Own.aj);refine w2.fT (k:=(1,0)) (D:=Raw.mk v2) (B:=B2) (e:=T.bF) (Part.all) (d:=Raw.mk v') rfl P1 rfl rfl (mw.2 ⟨rfl,hc.2⟩) λh4 w3 hs3=>?_;refine hK2 () _ _ rfl rfl ⟨k2.box,v1,v',w3.congr λq=>?_⟩;rw[hst];unfold qI Own.upd;repeat' split
   all_goals first | rfl | simp_all
  rw[bW,if_neg he]at hst;simp[he];exact hK2 () _ _ rfl rfl (by rw[hst];exact k2)
 rintro _ h2 k2;rw[MH]at k2;simp;exact hK _ _ k2
def nZ (val:Int) (l:List Th):WL:=l.foldl (yL val) []
def mq (val:Int) (l:List Th):WL:=l.foldl (tC val) []
def mV (l1 l2:WL):Bool:=!decide (l1.length=1)||!decide (l2.length=1)||decide ((nth l1 0).2<0)||!decide ((nth l1 0).1=(nth l2 0).1)||decide ((nth l2 0).2<=(nth l1 0).2)
def kL (f:an) (val:Int) (l1 l2:WL):Bool:=!mV l1 l2&&(decide ((nth (nth f.blocks (nth l1 0).1.toNat).ins (nth l1 0).2.toNat).dst=val)&&[1,2,4,11,12,13].contains (nth (nth f.blocks (nth l1 0).1.toNat).ins (nth l1 0).2.toNat).op)
def eF (f:an) (val:Int):Bool:=kL f val (nZ val (aG f)) (mq val (aG f))
theorem pD{w x:Int × Int}{ns:List Int}: ∀{l:WL},x∈ns.foldl (bW val w) l↔x∈l\/(x=w/\val∈ns):=by
 induction ns with
 | nil=>simp
 | cons n ns ih=>intro l;rw[LV,ih,bW];grind
theorem qF{x:Int × Int}{l:List Th}: ∀{y:WL},x∈l.foldl (yL val) y↔x∈y\/∃t∈l,x=(t.blk,t.place)/\val∈t.mks:=by
 induction l with
 | nil=>simp
 | cons t l ih=>
  intro y;rw[LV,ih,yL,pD];simp only[LG,exists_eq_or_imp];constructor
  ·rintro((h | h) | h)
   ·exact .inl h
   ·exact .inr (.inl h)
   exact .inr (.inr h)
  rintro(h | h | h)
  ·exact .inl (.inl h)
  ·exact .inl (.inr h)
  exact .inr h
theorem sS{f:an}{v:Value}{h:Heap}(hv:Rd (vw h) v f)(hsm:SmF f)(hval:I64 val):az Pz 28 #[v,Pp Pq val] h (λu h'=>u = .bool (eF f val)/\(vw h).le (vw h')):=by
 refine aq (args:=[v,Pp Pq val]) follows Tryz.func28 E.jm Pj λK hK=>?_;dsimp only[L.jm,lkF,lkG];refine ab λz hz=>?_;simp;refine gT rfl hv λh1 e1 hle1 hs1 hat=>?_;refine gT (α:=Int) rfl (bD.2 ⟨rfl,hval⟩) λh2 e2 hle2 hs2 hat2=>?_;have hatf:=hat.mono hle2;obtain⟨u,hu,hur⟩:=hatf.bO rfl;have hu:Un.ev (vw h2) (.bO 2) (Pw (Pt ⟨h.size,0,Pu⟩))=Pt u:=hu;obtain⟨cp,vb,cb⟩:=jd hatf;have cval:=hat2.int;generalize hB:h.size=B at hu cp cb;generalize hC:h1.size=C at cval;subst hz;refine ab λz hz=>?_;simp;refine du (z:=Pv Pu 0 0) P1 ?_;refine du (z:=Pv Pu 0 0) P1 ?_;have q1:=bN h2 (.cells (Pv Pu 0 0).cells T.bF);generalize e3:h2.push (.cells (Pv Pu 0 0).cells T.bF)=h3 at q1;have b3:h3[h2.size]? = Pt (.cells (Pv Pu 0 0).cells T.bF (0,0)):=by rw[<-e3];simp
 have s3:h3.size=h2.size+1:=by rw[<-e3];simp
 have q2:=bN h3 (.cells (Pv Pu 0 0).cells T.bF);generalize e4:h3.push (.cells (Pv Pu 0 0).cells T.bF)=h4 at q2;have b4:h4[h3.size]? = Pt (.cells (Pv Pu 0 0).cells T.bF (0,0)):=by rw[<-e4];simp
 have hle24:=Pn q1 q2;have w0:Owns (vw h2) h4 (qI h2.size (Pv Pu 0 0) [] h3.size (Pv Pu 0 0) []):=by
  have w1:=(Owns.start (h:=h2) (View.le_refl (vw h2))).add (k:=(0,0)) rfl (iB (h:=h3) (e:=T.bF) (d:=Raw.mk (Pv Pu 0 0)) b3 (mw.2 ⟨rfl,rfl⟩) P4) q1 (λb hb=>by simp only[Value.ownBlock,Ln]at hb;omega);have w2:=w1.add (k:=(1,0)) rfl (iB (h:=h4) (e:=T.bF) (d:=Raw.mk (Pv Pu 0 0)) b4 (mw.2 ⟨rfl,rfl⟩) P4) q2 (λb hb=>by simp only[Value.ownBlock,Ln]at hb;omega);have w3:=w2.add (k:=(0,1)) rfl (OwnT.nil (α:=Int × Int) (vw h2) h4 T.iY) Pl (λb hb=>by simp[Value.ownBlock]at hb);have w4:=w3.add (k:=(1,1)) rfl (OwnT.nil (α:=Int × Int) (vw h2) h4 T.iY) Pl (λb hb=>by simp[Value.ownBlock]at hb);refine w4.congr λq=>?_;unfold qI Own.upd;repeat' split
  all_goals first | rfl | simp_all
 have k0:Fo val C h2.size h3.size [] [] (vw h2) h4:=⟨cval,_,_,w0⟩;have hu4:Un.ev (vw h4) (.bO 2) (Pw (Pt ⟨B,0,Pu⟩))=Pt u:=by have:=dy (ρ:=λ_=>Pu) (e:=.un (.bO 2) (.con (Pw (Pt ⟨B,0,Pu⟩)))) hle24 (v:=u) (by simpa using hu);simpa using this
 generalize h2.size=B1 at k0;generalize h3.size=B2 at k0;subst hz;refine ab λz hz=>?_;simp[hu4];have hml:=Be hsm;refine af P1 (DN (caps:=[Pw (Pt ⟨C,0,Pu⟩),Pw (Pt ⟨B1,0,Pu⟩),Pw (Pt ⟨B2,0,Pu⟩)]) (J:=λl W h=>Fo val C B1 B2 (nZ val l) (mq val l) W h) hur hsm ⟨λk=>k.le,λk hle=>k.ext hle⟩ P1 k0 λl t W h5 vm vt hVW hpre k hm ht=>?_) ?_
 ·have hmem : ∀x∈l++[t],ThOk f x:=λx hx=>zG hsm (hpre.subset hx);have hll:=hpre.length_le;rw[LA,LP]at hll;have ot:=hmem t Sa;have hl:=hsm.len;have c1:=wz (F:=yL val) (c:=10000) (l:=l) (λt ht x=>LN jV (Nat.add_le_add_left (hmem t (by simp[ht])).mks _)) [];have c2:=wz (F:=tC val) (c:=10000) (l:=l) (λt ht x=>LN jV (Nat.add_le_add_left (hmem t (by simp[ht])).tks _)) [];have c1':(nZ val l).length<=l.length*10000:=by simpa[nZ]using c1
  have c2':(mq val l).length<=l.length*10000:=by simpa[mq]using c2
  have o1:=ot.mks;have o2:=ot.tks;have ob:=ot.blk;refine(EL k hm ht P2 ot.place P2 P2).mono λ_ h6 k6=>?_;have e1:nZ val (l++[t])=t.mks.foldl (bW val (t.blk,t.place)) (nZ val l):=by rw[nZ,Nj];rfl
  have e2:mq val (l++[t])=t.tks.foldl (bW val (t.blk,t.place)) (mq val l):=by rw[mq,Nj];rfl
  simp only[e1,e2];exact k6
 rintro _ h5 ⟨W,hVW,k⟩;have hin : ∀w∈nZ val (aG f),0<=w.1/\w.1<f.blocks.length/\(0<=w.2->w.2<(nth f.blocks w.1.toNat).ins.length):=by
  intro w hw;rcases qF.1 hw with h | ⟨t,ht,rfl,hv⟩
  ·cases h
  have ot:=zG hsm ht;exact⟨ot.blk.1,ot.blk.2,λh=>ot.ins h (λe=>by rw[e]at hv;cases hv)⟩
 have hfs:eF f val=kL f val (nZ val (aG f)) (mq val (aG f)):=rfl;rw[hfs]at hK;generalize nZ val (aG f)=l1 at k hin hK;generalize mq val (aG f)=l2 at k hK;obtain⟨v1,v2,w⟩:=k.ex;have hb1:=(w.at (k:=(0,0)) (d:=Raw.mk v1) (B:=B1) (e:=T.bF) rfl).raw;have hb2:=(w.at (k:=(1,0)) (d:=Raw.mk v2) (B:=B2) (e:=T.bF) rfl).raw;have n1:=w.now (k:=(0,1)) (v:=v1) (l:=l1) rfl;have n2:=w.now (k:=(1,1)) (v:=v2) (l:=l2) rfl;have hle5:=Pn hVW w.wle;have hle:=Pn hle1 (Pn hle2 hle5);have cb5:=cb.2.mono hle5;have cc5:=ae hle5 cb.1;have cv5:=ae hle5 cval;subst hz;refine ab λz hz=>?_;have no:mV l1 l2=Px->K (.bool Py) h5:=λe=>hK _ _ ⟨by rw[kL,e];rfl,hle⟩;by_cases hA:l1.length=1
 ·by_cases hB2:l2.length=1
  ·have i1 : ∀kd,Bn.ev (.idx 2) v1 (.int kd 0)=Pt (Pw (Pt (slA v1))):=λkd=>by have:=n1.idxn (N:=2) rfl (k:=kd) (i:=0) P2 P2;simpa[Addr.add]using this
   have i2 : ∀kd,Bn.ev (.idx 2) v2 (.int kd 0)=Pt (Pw (Pt (slA v2))):=λkd=>by have:=n2.idxn (N:=2) rfl (k:=kd) (i:=0) P2 P2;simpa[Addr.add]using this
   obtain⟨a0,a1⟩:=n1.BM Pl (i:=0) P2;obtain⟨d0,d1⟩:=n2.BM Pl (i:=0) P2;have z1 : ∀a:Addr,a.add (0*2)=a:=λa=>by simp[Addr.add]
   rw[z1]at a0 a1 d0 d1;have hw:=hin (nth l1 0) (bJ P2);have hbad:mV l1 l2=(decide ((nth l1 0).2<0)||!decide ((nth l1 0).1=(nth l2 0).1)||decide ((nth l2 0).2<=(nth l1 0).2)):=by simp[mV,hA,hB2]
   rw[hbad]at no;have hfb:kL f val l1 l2=(!(decide ((nth l1 0).2<0)||!decide ((nth l1 0).1=(nth l2 0).1)||decide ((nth l2 0).2<=(nth l1 0).2))&&(decide ((nth (nth f.blocks (nth l1 0).1.toNat).ins (nth l1 0).2.toNat).dst=val)&&[1,2,4,11,12,13].contains (nth (nth f.blocks (nth l1 0).1.toNat).ins (nth l1 0).2.toNat).op)):=by rw[kL,hbad]
   rw[hfb]at hK;generalize nth l1 0=w1 at a0 a1 hw no hK;generalize nth l2 0=w2 at d0 d1 no hK;by_cases c3:w1.2<0
   ·simp[hb1,hb2,n1.len,n2.len,hA,hB2,i1,i2,a0,a1,d0,d1,c3];exact no (by simp[c3])
   by_cases c4:w1.1=w2.1
   ·by_cases c5:w2.2<=w1.2
    ·simp[hb1,hb2,n1.len,n2.len,hA,hB2,i1,i2,a0,a1,d0,d1,c3,c4,c5];exact no (by simp[c5])
    have hs:(!(decide (w1.2<0)||!decide (w1.1=w2.1)||decide (w2.2<=w1.2)))=true:=by simp[c3,c4,c5]
    rw[hs,Nk]at hK;have hw2:=hw.2.2 P2;obtain⟨ul,hul⟩:=((cb5.at (i:=w1.1.toNat) P2).part BlkD.mN).sl;rw[<-aA P2]at hul;have hul1:ak (vw h5) (((slA vb).add (w1.1.toNat*6)).add 1)=Pt ul:=hul.1;obtain⟨ui,hui,huir⟩:=hul.2.wh rfl (N:=5) rfl (i:=w1.2.toNat) P2;have hli:=hul.2;generalize nth (nth f.blocks w1.1.toNat).ins w1.2.toNat=x at huir hK;simp[hb1,hb2,n1.len,n2.len,hA,hB2,i1,i2,a0,a1,d0,d1,c3,c5,<-c4];subst hz;refine ab λz hz=>?_;have z0 : ∀a:Addr,a.add 0=a:=λa=>by simp[Addr.add]
    refine aR (vw h5) Pl ?_;simp(disch:=omega)[hb1,i1,a0,a1,cc5,cb5.idxn (N:=6) rfl,hul1,hli.idxn (N:=5) rfl,hui _ Pl];refine du (z:=.agg #[Pp Pq 0,Pp Pq 0,Pp Pq 0,Pv Pu 0 0,Pp Ps 0]) P1 ?_;have hle6:=bN h5 (.cells (Value.cells (.agg #[Pp Pq 0,Pp Pq 0,Pp Pq 0,Pv Pu 0 0,Pp Ps 0])) T.dT);have hb6:(h5.push (.cells (Value.cells (.agg #[Pp Pq 0,Pp Pq 0,Pp Pq 0,Pv Pu 0 0,Pp Ps 0])) T.dT))[h5.size]? = Pt (.cells (Value.cells (.agg #[Pp Pq 0,Pp Pq 0,Pp Pq 0,Pv Pu 0 0,Pp Ps 0])) T.dT (0,0)):=by simp
    generalize h5.push (.cells (Value.cells (.agg #[Pp Pq 0,Pp Pq 0,Pp Pq 0,Pv Pu 0 0,Pp Ps 0])) T.dT)=h6 at hle6 hb6;refine⟨hle6,?_⟩;obtain⟨g1,g2,g3⟩:=fq huir;refine dY (g:=h5.size) (o:=0) (n:=5) (v:=ui) P1 rfl rfl g2 g3 hb6 Sa λh7 hs7 ⟨row,hr7,he7⟩ ho7=>?_;have hrow:row=ui.cells:=by have g2':ui.cells.size=5:=g2;rw[<-Array.toList_inj,he7];simp
    rw[hrow]at hr7;have hle7:(vw h5).le (vw h7):=λb o hb=>by have hlt:=View.lt (View.le_refl (vw h5)) hb;show h7[b]? = _;rw[ho7 b P2];exact hle6 b o hb
    have hat7:At (vw h7) ⟨h5.size,0,Pu⟩ x:=qo (show vw h7 h5.size=_ from hr7) (huir.mono hle7);obtain⟨q0,q1,_⟩:=kK hat7;have ro:=(hat7.part InsD.vz).rng;generalize h5.size=D at q0 q1;subst hz;have cv7:=ae hle7 cv5;refine ab λz hz=>?_;by_cases c6:x.dst=val
    ·simp[q0,q1,cv7,c6];refine kC (α:=Int) (X:=nothing) (ds:=[1,2,4,11,12,13]) (vs:=[Pp Pq 1,Pp Pq 2,Pp Pq 4,Pp Pq 11,Pp Pq 12,Pp Pq 13]) rfl El.aP Sa ⟨om P2 P2,om P2 P2,om P2 P2,om P2 P2,om P2 P2,om P2 P2,trivial⟩ bC rfl P2 λu8 h8 hle8 hsz8 hu8 _=>?_;simp[ae hle8 q0];refine af P1 (sP (hu8 (vw h8) bC rfl)) ?_;rintro _ _ ⟨rfl,rfl⟩;simp;subst hz;simp;exact hK _ _ ⟨by simp[c6],Pn hle (Pn hle7 hle8)⟩
    simp[q0,q1,cv7,c6];subst hz;simp;exact hK _ _ ⟨by simp[c6],Pn hle hle7⟩
   simp[hb1,hb2,n1.len,n2.len,hA,hB2,i1,i2,a0,a1,d0,d1,c3,c4];exact no (by simp[c4])
  have hB3:¬(l2.length:Int)=1:=by omega
  simp[hb1,hb2,n1.len,n2.len,hA,hB3];exact no (by simp[mV,hB2])
 have hA3:¬(l1.length:Int)=1:=by omega
 simp[hb1,hb2,n1.len,n2.len,hA3];exact no (by simp[mV,hA])
end Go.Proofs.YtnfiilgdjpdlkaaGreatDoor
namespace Go.Lft
open Go
structure aY where
 op:Int
 d:Int
 e:Int
 a:Int
 b:Int
 c:Int
 imm:I32
 args:List Int
 deriving Inhabited,DecidableEq
instance:Rep aY:=Rep.via λx=>Cat.mk x.op (Cat.mk x.d (Cat.mk x.e (Cat.mk x.a (Cat.mk x.b (Cat.mk x.c (Cat.mk x.imm x.args))))))
structure EndD where
 op:Int
 a:Int
 b:Int
 to:List Int
 imm:I32
 deriving Inhabited,DecidableEq
instance:Rep EndD:=Rep.via λx=>Cat.mk x.op (Cat.mk x.a (Cat.mk x.b (Cat.mk x.to x.imm)))
structure FitD where
 takes:List Int
 inner:List Int
 code:List aY
 fin:EndD
 deriving Inhabited,DecidableEq
instance:Rep FitD:=Rep.via λx=>Cat.mk x.takes (Cat.mk x.inner (Cat.mk x.code x.fin))
structure bS where
 f:an
 i:InsD
 t:cQ
 term:Bool
 temp:Int
instance:Rep bS:=Rep.via λx=>Cat.mk x.f (Cat.mk x.i (Cat.mk x.t (Cat.mk x.term x.temp)))
structure bQ where
 pat:Int
 cost:Int
 deriving Inhabited,DecidableEq
instance:Rep bQ:=Rep.via λx=>Cat.mk x.pat x.cost
end Go.Lft
namespace Go.Proofs.YtnfiilgdjpdlkaaGreatDoor
open Go Go.Lft
def ed (f:an):List InsD:=f.blocks.flatMap BlkD.ins
def ix (v:Int) (i:InsD):Bool:=!decide (i.op=16)&&decide (i.dst=v)
def nH (f:an) (v:Int):Option InsD:=(ed f).find? (ix v)
def gC:InsD:=⟨0,0,0,[],⟨0⟩⟩
def Jo (f:an) (v op:Int):Option InsD->InsD × Bool
 | none=>(gC,Py)
 | some i=>(i,decide (i.op=op)&&eF f v)
def aL (f:an) (v op:Int):InsD × Bool:=Jo f v op (nH f v)
def inR (n lo hi:Int):Bool:=decide (lo<=n)&&decide (n<=hi)
def ez (f:an) (v lo hi:Int):Int × Bool:=((aL f v 1).1.imm.v,(aL f v 1).2&&inR (aL f v 1).1.imm.v lo hi)
def dK:EndD:=⟨0,0,0,[],⟨0⟩⟩
def FK:FitD:=⟨[],[],[],dK⟩
def w32 (n:Int):I32:=⟨IntKind.i32.wrap n⟩
def immS (f:an) (i:InsD) (m lo hi sign:Int):Option FitD:=
 if(ez f (nth i.args 1) lo hi).2 then Pt ⟨[nth i.args 0],[nth i.args 1],[⟨m,i.dst,0,nth i.args 0,0,0,w32 (sign*(ez f (nth i.args 1) lo hi).1),[]⟩],dK⟩ else Pu
def je (i:InsD) (op plain:Int) (m:aY):aY:=if op=15 then{ m with d:=i.dst } else if m.op=plain then{ m with b:=nth i.args 1 } else{ m with c:=nth i.args 1 }
def memS (f:an) (i:InsD) (temp op plain sum:Int):Nat->Option FitD
 | 0=>if inR i.imm.v 0 255 then Pt ⟨nth i.args 0::i.args.drop 1,[],[je i op plain ⟨plain,0,0,nth i.args 0,0,0,i.imm,[]⟩],dK⟩ else Pu
 | 1=>if(aL f (nth i.args 0) 2).2 then
   if(ez f (nth (aL f (nth i.args 0) 2).1.args 1) (-2147483648) 2147483647).2&&inR ((ez f (nth (aL f (nth i.args 0) 2).1.args 1) (-2147483648) 2147483647).1+i.imm.v) 0 255 then
    Pt ⟨nth (aL f (nth i.args 0) 2).1.args 0::i.args.drop 1,[nth i.args 0,nth (aL f (nth i.args 0) 2).1.args 1],
     [je i op plain ⟨plain,0,0,nth (aL f (nth i.args 0) 2).1.args 0,0,0,w32 ((ez f (nth (aL f (nth i.args 0) 2).1.args 1) (-2147483648) 2147483647).1+i.imm.v),[]⟩],dK⟩
   else Pu
  else Pu
 | 2=>if(aL f (nth i.args 0) 2).2&&decide (i.imm.v=0) then
   Pt ⟨nth (aL f (nth i.args 0) 2).1.args 0::nth (aL f (nth i.args 0) 2).1.args 1::i.args.drop 1,[nth i.args 0],
    [je i op plain ⟨sum,0,0,nth (aL f (nth i.args 0) 2).1.args 0,nth (aL f (nth i.args 0) 2).1.args 1,0,⟨0⟩,[]⟩],dK⟩
  else Pu
 | _=>Pt ⟨nth i.args 0::i.args.drop 1,[],[⟨4,temp,0,0,0,0,i.imm,[]⟩,je i op plain ⟨sum,0,0,nth i.args 0,temp,0,⟨0⟩,[]⟩],dK⟩
def opOf (pat:Nat):Int:=
 if pat=1\/pat=2 then 1 else if 3<=pat/\pat<=15 then pat-1 else if pat=16\/pat=22 then 2 else if pat=17 then 3 else if pat=18 then 5 else if 19<=pat/\pat<=21 then pat-11
 else if 23<=pat/\pat<=26 then 15 else if 27<=pat/\pat<=30 then 16 else if pat=31 then 17 else if pat=32 then 18 else 0
def doS (f:an) (i:InsD) (temp:Int) (pat:Nat):Option FitD:=
 if pat=1 then(if inR i.imm.v (-32768) 32767 then Pt ⟨[],[],[⟨3,i.dst,0,0,0,0,i.imm,[]⟩],dK⟩ else Pu)
 else if pat=2 then Pt ⟨[],[],[⟨4,i.dst,0,0,0,0,i.imm,[]⟩],dK⟩
 else if pat<=15 then Pt ⟨i.args,[],[⟨pat+2,i.dst,0,nth i.args 0,nth i.args 1,0,⟨0⟩,[]⟩],dK⟩
 else if pat=16 then immS f i 18 (-128) 127 1
 else if pat=17 then immS f i 18 (-127) 128 (-1)
 else if pat=18 then immS f i 19 (-128) 127 1
 else if pat<=21 then immS f i (pat+1) 0 31 1
 else if pat=22 then(if(aL f (nth i.args 0) 4).2 then
   Pt ⟨[nth (aL f (nth i.args 0) 4).1.args 0,nth (aL f (nth i.args 0) 4).1.args 1,nth i.args 1],[nth i.args 0],[⟨23,i.dst,0,nth (aL f (nth i.args 0) 4).1.args 0,nth (aL f (nth i.args 0) 4).1.args 1,nth i.args 1,⟨0⟩,[]⟩],dK⟩
  else Pu)
 else if pat<=26 then memS f i temp 15 24 25 (pat-23)
 else if pat<=30 then memS f i temp 16 26 27 (pat-27)
 else if pat=31 then Pt ⟨i.args,[],[⟨28,i.dst,0,0,0,0,i.imm,i.args⟩],dK⟩
 else Pt ⟨i.args,[],[⟨29,i.dst,i.two,nth i.args 0,nth i.args 1,0,⟨0⟩,[]⟩],dK⟩
def patS (f:an) (i:InsD) (temp pat:Int):Option FitD:=if 1<=pat/\pat<=32/\i.op=opOf pat.toNat then doS f i temp pat.toNat else Pu
def ij (f:an) (t:cQ) (pat:Int):Option FitD:=
 if pat=0/\t.kind=1 then Pt ⟨[],[],[],⟨1,0,0,t.to,⟨0⟩⟩⟩
 else if pat=0/\t.kind=4 then Pt ⟨t.args,[],[],⟨7,if t.args=[] then -1 else nth t.args 0,0,[],⟨0⟩⟩⟩
 else if pat=0/\t.kind=5 then Pt ⟨[],[],[],⟨8,0,0,[],t.imm⟩⟩
 else if pat=33/\t.kind=2 then Pt ⟨t.args,[],[],⟨2,nth t.args 0,0,t.to,⟨0⟩⟩⟩
 else if(34<=pat/\pat<=36)/\t.kind=2 then
  (if(aL f (nth t.args 0) (pat-23)).2 then Pt ⟨(aL f (nth t.args 0) (pat-23)).1.args,t.args,[],⟨pat-31,nth (aL f (nth t.args 0) (pat-23)).1.args 0,nth (aL f (nth t.args 0) (pat-23)).1.args 1,t.to,⟨0⟩⟩⟩ else Pu)
 else if pat=37/\t.kind=3 then Pt ⟨t.args,[],[],⟨6,nth t.args 0,0,t.to,⟨0⟩⟩⟩
 else Pu
def nX:cQ:=⟨0,[],[],⟨0⟩⟩
def Ba:bS:=⟨⟨0,[]⟩,gC,nX,Py,0⟩
def dm (f:an) (b p:Int):Bool:=decide (0<=b)&&decide (b<f.blocks.length)&&decide (0<=p)&&decide (p<=(nth f.blocks b.toNat).ins.length)
def eo (f:an) (b p temp:Int):bS:=
 if p=(nth f.blocks b.toNat).ins.length then⟨f,gC,(nth f.blocks b.toNat).term,Px,temp⟩ else⟨f,nth (nth f.blocks b.toNat).ins p.toNat,nX,Py,temp⟩
def tryS (s:bS) (pat:Int):Option FitD:=if s.term then ij s.f s.t pat else patS s.f s.i s.temp pat
end Go.Proofs.YtnfiilgdjpdlkaaGreatDoor
namespace Go.Lft
open Go
section
variable {po po2 po3:OP} {pp:PP}
structure RawN (n:Nat) where
 l:List Value
instance {n:Nat}:Rep (RawN n) where
 n:=n+1
 agg:=true
 rd:=λ_ cs d=>cs=d.l/\cs.length=n+1/\∀u∈cs,u.oneCell'=Px
 mono:=λ_ h=>h
 len:=λh=>h.2.1
 one:=λh=>by cases h
 flat:=λh u hu=>h.2.2 u hu
 pos:=Nat.succ_pos _
 eA:=λh=>h
variable{n:Nat}
theorem pg{H:View}{l:List Value}(h1:l.length=n+1)(h2 : ∀u∈l,u.oneCell'=Px):Rd H (.agg l.toArray) (RawN.mk (n:=n) l):=by unfold Rd;rw[if_pos (show Rep.agg (RawN n)=Px from rfl)];exact⟨_,rfl,rfl,h1,h2⟩
theorem RawN.p{o:Nat}(ho:o<=n):Part (RawN n) Raw o (λd=>⟨d.l.getD o undef⟩) (λd x=>⟨d.l.set o x.v⟩) where
 fits:=by show o+1<=n+1;omega
 get:=by
  rintro H cs d ⟨rfl,h1,h2⟩
  have hlt:o<d.l.length:=by omega
  have e:(d.l.drop o).take (Rep.n Raw)=[d.l.getD o undef]:=by
   have:d.l.getD o undef=d.l[o]:=by simp[hlt]
   rw[this]
   show(d.l.drop o).take 1=_
   rw[LR hlt];rfl
  refine⟨e,?_⟩
  have:d.l.getD o undef=d.l[o]:=by simp[hlt]
  show(d.l.getD o undef).oneCell'=Px
  rw[this];exact h2 _ (ME hlt)
 set:=by
  rintro H cs us d x ⟨rfl,h1,h2⟩ ⟨rfl,h3⟩
  have hlt:o<d.l.length:=by omega
  have e:d.l.take o++[x.v]++d.l.drop (o+Rep.n Raw)=d.l.set o x.v:=by
   show d.l.take o++[x.v]++d.l.drop (o+1)=_
   rw[NZ,if_pos hlt];simp
  refine⟨e,by simp[e,h1],λu hu=>?_⟩
  rw[e]at hu
  rcases NM hu with h | rfl
  ·exact h2 _ h
  ·exact h3
section
variable {W:View} {h:Heap} {o:Own} {k:Key}
theorem Owns.raw {n:Nat} {e:TypeId} {B:Nat} {l:List Value} (w:Owns W h o) (hk:o k=bx e B (RawN.mk (n:=n) l)) {i:Nat} (hi:i<=n):ak (vw h) ⟨B,i,Pu⟩=Pt (l.getD i undef):=by have:=((w.at hk).part (RawN.p hi)).raw;simpa using this
theorem Owns.v7{e:TypeId}{B:Nat}{l:List Value}(w:Owns W h o)(hk:o k=bx e B (RawN.mk (n:=n) l)):Un.ev (vw h) (.bO (n+1)) (Pw (Pt ⟨B,0,Pu⟩))=Pt (.agg l.toArray):=by obtain⟨cs,hcs,he,h1,h2⟩:=w.atW hk;have he:cs=l:=he;subst he;have h1:cs.length=n+1:=h1;have:=fO hcs (n+1) 0 #[] P2;simp only[Un.ev,vP,LK];rw[this];simp[h1]
theorem Owns.dD{P:Program}{ty:TypeId}{us:List (Nat × Value)}{t ty2:TypeId}{z:Value}{x y:Operand}{us2:Value->List (Nat × Value)}{l:List Value}{K:Value->Heap->Prop}(w:Owns W h o)(hk:o k=Pu)(hz:(P.info? t).map (·.zero)=Pt (Pt z))(hzc:z.cells.size=n+1)(hsz:cK P t=Pt (n+1))(hl:l.length=n+1)(hn:n+1<=1000)(hone : ∀c∈l,c.oneCell'=Px)(hx : ∀p,asg (us2 p) x=p)(hy : ∀p,asg (us2 p) y = .agg l.toArray)(hK : ∀h':Heap,(vw h).le (vw h')->Owns W h' (o.upd k (bx t h.size (RawN.mk (n:=n) l)))->K (Pw (Pt ⟨h.size,0,Pu⟩)) h'):
  @step po P (.alloc t) ty us h λp h2=>@step po2 P (.store t x y) ty2 (us2 p) h2 λ_ h3=>K p h3:=
 fP (v:=.agg l.toArray) hz hzc hsz (by simpa[Value.cells]using hl) (by simpa[Value.cells]using hone) hx hy λh' hle hs hb=>hK h' hle
  (w.add hk (iB (d:=RawN.mk (n:=n) l) hb (pg hl hone) hn) hle λb hb=>by simp only[Value.ownBlock,Ln]at hb;omega)
theorem Owns.cj{P:Program}{ty:TypeId}{us:List (Nat × Value)}{t:TypeId}{z:Value}{K:Value->Heap->Prop}(w:Owns W h o)(hk:o k=Pu)(hz:(P.info? t).map (·.zero)=Pt (Pt z))(hzc:z.cells.size=n+1)(hn:n+1<=1000)(hone : ∀c∈z.cells.toList,c.oneCell'=Px)(hK : ∀h':Heap,(vw h).le (vw h')->Owns W h' (o.upd k (bx t h.size (RawN.mk (n:=n) z.cells.toList)))->K (Pw (Pt ⟨h.size,0,Pu⟩)) h'):
  @step po P (.alloc t) ty us h K:=by
 refine du hz ?_;have q1:=bN h (.cells z.cells t);have b2:(h.push (.cells z.cells t))[h.size]? = Pt (.cells z.cells t (0,0)):=by simp
 generalize h.push (.cells z.cells t)=h2 at q1 b2;have hz2:(Value.agg z.cells).cells=z.cells:=rfl;refine hK h2 q1 (w.add hk (iB (v:=.agg z.cells) (d:=RawN.mk (n:=n) z.cells.toList) (by rw[hz2];exact b2) ?_ hn) q1 λb hb=>by simp only[Value.ownBlock,Ln]at hb;omega);have:=pg (n:=n) (H:=W) (l:=z.cells.toList) (by simpa using hzc) hone;simpa using this
theorem Owns.de{P:Program}{ty:TypeId}{us:List (Nat × Value)}{i:Nat}{e t:TypeId}{B:Nat}{l:List Value}{x y:Operand}{u:Value}{K:Value->Heap->Prop}(w:Owns W h o)(hk:o k=bx e B (RawN.mk (n:=n) l))(hi:i<=n)(hsz:cK P t=Pt 1)(hx:asg us x = Pw (Pt ⟨B,i,Pu⟩))(hy:asg us y=u)(hu:u.oneCell'=Px)(hK : ∀h',Owns W h' (o.upd k (bx e B (RawN.mk (n:=n) (l.set i u))))->(∀X:View,X.le (vw h)->X B=Pu->X.le (vw h'))->K undef h'):@step po P (.store t x y) ty us h K:=
 w.pk (po:=po) (RawN.p hi) (d:=⟨u⟩) hk hsz hx hy (mw.2 ⟨rfl,hu⟩) hK
theorem Owns.iz{P:Program}{ty:TypeId}{us:List (Nat × Value)}{α:Type}[r:Rep α]{e:TypeId}{t:TypeId}{bytes:Nat}{z:Value}{K:Value->Heap->Prop}(w:Owns W h o)(hk:o k=Pu)(hT:dR P t e (Rep.n α) bytes z)(hK : ∀v h',(vw h).le (vw h')->v.oneCell'=Px->Owns W h' (o.upd k (it e v ([]:List α)))->(∀X:View,X.le (vw h)->Av X v)->K v h'):@step po P (.buildSlice t 0 #[]) ty us h K:=
 qT (α:=α) hT λh' hle hs own=>hK _ h' hle rfl (w.add hk (own W) hle λb hb=>by simp only[Value.ownBlock,Ln]at hb;omega) λX hX b hb=>by simp only[Value.ownBlock,Ln]at hb;subst hb;exact View.cr hX (Lp _)
end
abbrev forC (a i c:Nat) (ks ks2:List Nat) (ce:E) (body:LC):LC:=
 .loop (.seq (.seq (.reg Py (.fin ks [(c,ce)] [])) (.cond (.tmp c) [c] .skip (.exit a)))
  (.seq body (.reg Py (.fin ks2 [(i,.bin (.arith .add) (.tmp i) (.con (Pp Pq 1)))] []))))
theorem E7{P:Program}{Q:Post}{ρ:Env}{h:Heap}{a i c:Nat}{ks ks2:List Nat}{ce:E}{body:LC}{σ:Type}(kp:List Nat)(vals:σ->Nat->List Value)(J:σ->Nat->Heap->Prop)(n:Nat)(s0:σ)(hok:sR kp ks ks2 c i=Px)(hn:n<=9223372036854775806)(h0:bL kp ρ=kp.zip (vals s0 0))(hj:J s0 0 h)(hi : ∀s k,look (kp.zip (vals s k)) i=Pt (Pp Pq k))(hb : ∀s k h,k<=n->J s k h->ev (look (kp.zip (vals s k))) (vw h) ce=Pt (.bool (decide (k<n))))(round : ∀s k h,k<n->J s k h->∀K:Env->Heap->Prop,(∀s' ρ' h',look ρ' i=Pt (Pp Pq k)->bL kp (setE ρ' i (Pp Pq ((k:Int)+1)))=kp.zip (vals s' (k+1))->J s' (k+1) h'->K ρ' h')->body.wp P (fg K (eE a Q)) (kp.zip (vals s k)) h)(done : ∀s h,J s n h->Q .normal (kp.zip (vals s n)) h):LC.wp P (forC a i c ks ks2 ce body) (eE a Q) ρ h:=by
 simp only[sR,LW,Ls,MV,bne_iff_ne,L8,beq_iff_eq,ne_eq]at hok;refine jq kp (λm ρ h=>∃s k,k<=n/\ρ=kp.zip (vals s k)/\m=n-k/\J s k h) n ⟨s0,0,by omega,h0,by omega,hj⟩ ?_;rintro m ρ h ⟨s,k,hk,rfl,rfl,hJ⟩ K hK;have hkill:bT (kp.zip (vals s k)) ks=kp.zip (vals s k):=kU λp hp=>(hok p.1 (zip_fst hp)).1.1;have hne : ∀p∈kp.zip (vals s k),p.1≠c:=λp hp=>(hok p.1 (zip_fst hp)).1.2;have hk2 : ∀v,bT (setE (kp.zip (vals s k)) c v) [c]=kp.zip (vals s k):=λv=>lD hne;have hlk : ∀v,look (setE (kp.zip (vals s k)) c v) c=Pt v:=λv=>by rw[ag,if_pos rfl]
 simp only[rm,kI,iZ,fZ,kg,lO,hb s k h hk hJ,LK,jk,lX,true_and,cV,hkill,eH,kQ,oB,hlk,kE,hk2,qM,qJ,nr,nb,if_true];refine⟨λhlt=>?_,λhge=>?_⟩
 ·have hlt':k<n:=by omega
  rw[ma];refine round s k h hlt' hJ _ λs' ρ' h' hl he hJ'=>?_;simp only[kI,iZ,fZ,kg,lO,kO,oB,hl,lX,true_and,LK,xZ,LK,yT,jk,cV,eH,true_and];rw[bw P2 P2];refine hK (n-(k+1)) _ _ P2 ⟨s',k+1,by omega,?_,rfl,hJ'⟩;rw[<-he];refine mH λt ht=>?_;rw[ag,ag,ah];split
  ·rfl
  rename_i hti;rcases(hok t ht).2 with e | e
  ·exact absurd e.symm hti
  rw[e];rfl
 have:k=n:=by omega
 subst this;exact done s h hJ
end
end Go.Lft
namespace Go.Lft
open Go
variable {po po2 po3:OP} {pp:PP}
section
variable {W:View} {h:Heap} {o:Own} {k:Key}
theorem Owns.Cr {P:Program} {ty:TypeId} {us:List (Nat × Value)} {t ty2:TypeId} {α:Type} [Rep α] {n:Nat} {z u:Value} {d:α} {x y:Operand} {us2:Value->List (Nat × Value)} {K:Value->Heap->Prop} (w:Owns W h o) (hk:o k=Pu) (hr:Rd W u d) (hN:Rep.n α=n) (hz:(P.info? t).map (·.zero)=Pt (Pt z)) (hzc:z.cells.size=n) (hsz:cK P t=Pt n) (hn:n<=1000)
  (hx : ∀p,asg (us2 p) x=p) (hy : ∀p,asg (us2 p) y=u) (hK : ∀h':Heap,(vw h).le (vw h')->Owns W h' (o.upd k (bx t h.size d))->K (Pw (Pt ⟨h.size,0,Pu⟩)) h') :
  @step po P (.alloc t) ty us h λp h2=>@step po2 P (.store t x y) ty2 (us2 p) h2 λ_ h3=>K p h3:=by subst hN;obtain⟨c1,c2,c3⟩:=fq hr;exact fP (v:=u) hz hzc hsz (by simpa using c2) c3 hx hy λh' hle hs hb=>hK h' hle (w.add hk (iB (d:=d) hb hr hn) hle λb hb=>by simp only[Value.ownBlock,Ln]at hb;omega)
end
section
variable {po:OP}
end
end Go.Lft
namespace Go.Lft
open Go
variable {po:OP}
theorem Fh {P:Program} {ty t rt e:TypeId} {us:List (Nat × Value)} {h:Heap} {K:Value->Heap->Prop} {x y:Operand} {a:Option Addr} {n c:Nat} (hu:P.underlying t=Pt (.slice e)) (hx:asg us x = .slice a n c) (hy:asg us y = Pv Pu 0 0) (hk:K (.bool a.isNone) h):step P (.binOp .eql t x y rt) ty us h K:=by
 refine cJ (bX λw hw=>⟨_,w,?_,Same.refl _,by rw[hw];exact hk⟩);simp only[bG,execOp,hx,hy];have e1:(Op.equal t (.slice a n c) (Pv Pu 0 0)).run P w = .ok a.isNone w:=by show(Op.equalIn (9999+1) t _ _).run P w=_;rw[Op.equalIn];cases a<;>simp[run_underlying hu]
 simp[eqGuard,binOp,e1]
end Go.Lft
namespace Go.Proofs.YtnfiilgdjpdlkaaGreatDoor
open Go Go.Lft
theorem n7{d:InsD}{v:Value}{h:Heap}(hd:Rd (vw h) v d):az Pz 54 #[v] h (λu h'=>(vw h).le (vw h')/\SlRd (fresh h h') u (cw d)/\(d.op=16->u = Pv Pu 0 0)):=by
 refine aq (args:=[v]) follows Tryz.func54 E.lI Pj λK hK=>?_;simp[L.lI];refine gT rfl hd λh1 _ hle1 hsz1 hat=>?_;obtain⟨c0,c1,c2,va,ca⟩:=kK hat;have r1:=(hat.part InsD.ig).rng;have r2:=(hat.part InsD.xu).rng;simp[c0];refine⟨λe1=>hK _ _ ⟨hle1,by simpa[cw,e1]using aJ,λ_=>rfl⟩,λe1=>⟨λe2=>?_,λe2=>?_⟩⟩
 ·simp[c1,c2];refine kC (X:=nothing) (ds:=[d.dst,d.two]) (vs:=[Pp Pq d.dst,Pp Pq d.two]) rfl El.aP Sa ⟨bD.2 ⟨rfl,r1⟩,bD.2 ⟨rfl,r2⟩,trivial⟩ bC rfl P2 λu h2 hle2 hsz2 hu _=>?_;exact hK _ _ ⟨Pn hle1 hle2,by simpa[cw,e2]using hu _ bC (by unfold fresh;rw[if_neg P2]),λe=>absurd e e1⟩
 simp[c1];refine kC (X:=nothing) (ds:=[d.dst]) (vs:=[Pp Pq d.dst]) rfl El.aP Sa ⟨bD.2 ⟨rfl,r1⟩,trivial⟩ bC rfl P2 λu h2 hle2 hsz2 hu _=>?_;exact hK _ _ ⟨Pn hle1 hle2,by simpa[cw,e1,e2]using hu _ bC (by unfold fresh;rw[if_neg P2]),λe=>absurd e e1⟩
def yo (op n:Int):Bool:=if op=1 then decide (n=0) else if op=15 then decide (n=1) else if op=17 then decide (n<=4) else decide (n=2)
def uY (t:cQ):Bool:=
 if t.kind=1 then decide ((t.args.length:Int)=0)&&decide ((t.to.length:Int)=1)
 else if t.kind=2 then decide ((t.args.length:Int)=1)&&decide ((t.to.length:Int)=2)
 else if t.kind=3 then decide ((t.args.length:Int)=1)&&decide ((2:Int)<=t.to.length)&&decide ((t.to.length:Int)<=65)
 else if t.kind=4 then decide ((t.args.length:Int)<=1)&&decide ((t.to.length:Int)=0)
 else if t.kind=5 then decide ((t.args.length:Int)=0)&&decide ((t.to.length:Int)=0) else Py
def cC (f:an) (b:Int):List Int:=sift (λa=>decide (b∈(nth f.blocks a).term.to)) (λa=>(a:Int)) f.blocks.length
theorem yH{H:View}{v:Value}{l:List BlkD}(h:SlRd H v l){i:Nat}(hi:i<l.length): ∃u,Sl H ((((slA v).add (i*6)).add 2).add 2) u (nth l i).term.to:=by rw[aA hi];exact((((h.at hi).part BlkD.nA).part cQ.DS)).sl
theorem tu{f:an}{b:Int}{v:Value}{h:Heap}(hv:Rd (vw h) v f)(hn:f.blocks.length<=1000000):
  az Pz 51 #[v,Pp Pq b] h (λu h'=>(vw h).le (vw h')/\SlRd (fresh h h') u (cC f b)):=by
 refine aq (args:=[v,Pp Pq b]) follows Tryz.func51 E.cO Pj λK hK=>?_;dsimp only[L.cO,lkF,lkG];refine ab λz hz=>?_;simp;refine gT rfl hv λh1 _ hle1 hsz1 hat=>?_;obtain⟨_,vb,cb⟩:=jd hat;generalize h.size=B at cb;subst hz;refine ab λz hz=>?_;simp;refine qT (α:=Int) El.aP λh2 hle2 hsz2 own2=>?_;have m0:=Mine.empty (V:=nothing) (W:=nothing) (View.le_refl (vw h1)) hle2 bC (Old.nothing _ _) own2;generalize Pv (Pt ⟨h1.size,0,Pu⟩) 0 0=v0 at m0;have cb2:=cb.2;have cc2:=cb.1;subst hz;refine ab λz hz=>?_;simp;refine cS [1,2,5,6] (fun(r:Value) k=>[Pp Pq b,Pw (Pt ⟨B,0,Pu⟩),r,Pp Pq k]) (λr k h3=>Mine nothing h1 h3 nothing T.int r (sift (λa=>decide (b∈(nth f.blocks a).term.to)) (λa=>(a:Int)) k)) f.blocks.length v0
  rfl P2 rfl m0 (λ_ _=>rfl) (λv k h3 hk m=>by simp[ae m.old cc2,(cb2.mono m.old).len]) ?_ ?_
 ·rintro r k h3 hlt m K2 hK2;have hle3:=m.old;have cb3:=cb2.mono hle3;obtain⟨w,hw⟩:=yH cb3 hlt;have hwb:=hw.2.bound;have hsl:=n8 (p:=λa=>decide (b∈(nth f.blocks a).term.to)) (x:=λa=>(a:Int)) k;refine ab λy hy=>?_;simp(disch:=omega)[ae hle3 cc2,cb3.idxn (N:=6) rfl,hw.1];subst hy;simp;refine cS [1,2,5,6,7,8] (fun(_:Unit) j=>[Pp Pq b,Pw (Pt ⟨B,0,Pu⟩),r,Pp Pq k,w,Pp Pq j]) (λ_ j h4=>h4=h3/\∀i,i<j->nth (nth f.blocks k).term.to i≠b) (nth f.blocks k).term.to.length ()
   rfl P2 rfl ⟨rfl,λi hi=>by omega⟩ (λ_ _=>rfl) (λv j h4 hk m=>by simp[hw.2.len]) ?_ ?_
  ·rintro _ j h3 hltj ⟨rfl,hpre⟩ K3 hK3;simp(disch:=omega)[hw.2.idx1 rfl,hw.2.int Pl];refine⟨λe=>?_,λe=>hK3 () _ _ rfl rfl ⟨rfl,λi hi=>?_⟩⟩
   ·have hmem:b∈(nth f.blocks k).term.to:=e▸bJ hltj;refine m.push (d:=(k:Int)) El.aP (by simp<;>rfl) (om P2 P2) P2 P2 P5 P5 λu v' h5 m'=>?_;exact hK2 v' _ _ rfl rfl (by rw[mP (by simpa using hmem)];exact m')
   rcases Lr i j with h | h
   ·exact hpre i h
   have:i=j:=by omega
   subst this;exact e
  rintro _ h3 ⟨rfl,hpre⟩;have hmem:¬b∈(nth f.blocks k).term.to:=λhm=>by obtain⟨i,hi,e⟩:=LO hm;exact hpre i hi (by rw[aA hi];exact e)
  simp;exact hK2 r _ _ rfl rfl (by rw[lE (by simpa using hmem)];exact m)
 rintro r h3 m;simp;subst hz;simp;exact hK _ _ ⟨Pn hle1 m.old,m.fresh.mono (uU hle1)⟩
theorem GN{H:View}{u:Value}{d:InsD}(h:Rd H u d): ∃va,u = .agg #[Pp Pq d.op,Pp Pq d.dst,Pp Pq d.two,va,Pp Ps d.imm.v]/\(I64 d.op/\I64 d.dst/\I64 d.two/\-2147483648<=d.imm.v/\d.imm.v<=2147483647)/\SlRd H va d.args:=by obtain⟨cs,rfl,c1,r1,e1,⟨rfl,h1⟩,c2,r2,e2,⟨rfl,h2⟩,c3,r3,e3,⟨rfl,h3⟩,c4,r4,e4,⟨va,rfl,h4⟩,h5,h6⟩:=h;subst e4 e3 e2;exact⟨va,by rw[<-Array.toList_inj.1 ((by rw[e1,h5];rfl):cs.toList = #[Pp Pq d.op,Pp Pq d.dst,Pp Pq d.two,va,Pp Ps d.imm.v].toList)],⟨h1,h2,h3,h6⟩,h4⟩
theorem Fk{H:View}{d:Int}{v:Value}{l:List InD}(h1:I64 d)(h2:SlRd H v l):Rd H (.agg #[Pp Pq d,v]) (PhiD.mk d l):=⟨_,rfl,[Pp Pq d],[v],rfl,⟨rfl,h1⟩,v,rfl,h2⟩
theorem y9{H:View}{op d two:Int}{imm:I32}{v:Value}{l:List Int}(h:I64 op/\I64 d/\I64 two/\-2147483648<=imm.v/\imm.v<=2147483647)(h2:SlRd H v l):Rd H (.agg #[Pp Pq op,Pp Pq d,Pp Pq two,v,Pp Ps imm.v]) (InsD.mk op d two l imm):=
 ⟨_,rfl,[Pp Pq op],_,rfl,⟨rfl,h.1⟩,[Pp Pq d],_,rfl,⟨rfl,h.2.1⟩,[Pp Pq two],_,rfl,⟨rfl,h.2.2.1⟩,[v],_,rfl,⟨v,rfl,h2⟩,rfl,h.2.2.2⟩
theorem yf{α β:Type}[Rep α][Rep β]{H:View}{v:Value}{l:List α}{l2:List β}(h:SlRd H v l)(hn:Rep.n α=Rep.n β)(hl:l.length=l2.length)(hc : ∀i (h1:i<l.length) (h2:i<l2.length) cs,Rep.rd H cs l[i]->Rep.rd H cs l2[i]):SlRd H v l2:=by
 obtain⟨a,cap,rfl,h1,h2,h3⟩:=h;refine⟨a,cap,by rw[hl],by omega,by omega,?_⟩;rcases h3 with rfl | ⟨ad,rfl,hs,hat⟩
 ·left;exact LF (by rw[<-hl];rfl)
 refine .inr ⟨ad,rfl,hs,λi hi=>?_⟩;obtain⟨cs,g1,g2⟩:=hat i P2;rw[<-hn];exact⟨cs,g1,hc i P2 hi cs g2⟩
abbrev Q3:=Cat Int (Cat Int Int)
instance:Inhabited Q3:=⟨⟨0,0,0⟩⟩
end Go.Proofs.YtnfiilgdjpdlkaaGreatDoor
namespace Go.Lft
open Go
theorem Au : ∀(l:List Value) (k off:Nat) (A:Array Value),off+k+l.length<=A.size->
  ((l.zipIdx k).foldl (fun(cs:Array Value) (p:Value × Nat)=>cs.setIfInBounds (off+p.2) p.1) A).toList=A.toList.take (off+k)++l++A.toList.drop (off+k+l.length)
 | [],k,off,A,_=>by simp
 | x::l,k,off,A,h=>by
  simp only[MF]at h;rw[N9,LV,Au l (k+1) off _ P9];have hk:off+k<A.toList.length:=by simp;omega
  simp only[OH,MF];rw[show off+(k+1)=off+k+1 by omega,LD (by simpa using hk),OA (Lp _),List.getElem_set_self,List.drop_set_of_lt P2,show off+k+1+l.length=off+k+(l.length+1) by omega];simp
theorem lH {s:Nat} : ∀(vs:List Value) (k:Nat) (A:Array Value),(∀v∈vs,v.cells.size=s)->(k+vs.length)*s=A.size->
  ∃B,Instr.fill (λj=>Pt (j*s,s)) A ((vs.zipIdx k).map λp=>(p.2,p.1))=Pt B/\B.toList=A.toList.take (k*s)++vs.flatMap λv=>v.cells.toList
 | [],k,A,_,hk=>⟨A,rfl,by rw[Lv (by simp at hk;simp[hk])];simp⟩
 | v::vs,k,A,hv,hk=>by
  have hc:=hv v (Ly ..);have e1:(k+(vs.length+1))*s=(k+1+vs.length)*s:=by rw[show k+(vs.length+1)=k+1+vs.length by omega]
  have e2:(k+1+vs.length)*s=k*s+s+vs.length*s:=by rw[NF,NF,OT]
  simp only[MF]at hk;have e3:(k+1)*s=k*s+s:=by rw[NF,OT]
  have hF:(v.cells.zipIdx.foldl (fun(cs:Array Value) (x:Value × Nat)=>cs.setIfInBounds (k*s+x.2) x.1) A).toList=A.toList.take (k*s)++v.cells.toList++A.toList.drop (k*s+s):=by rw[<-Array.foldl_toList,Array.toList_zipIdx];have:=Au v.cells.toList 0 (k*s) A (by simp[hc];omega);simpa[hc]using this
  obtain⟨B,h1,h2⟩:=lH vs (k+1) (v.cells.zipIdx.foldl (fun(cs:Array Value) (x:Value × Nat)=>cs.setIfInBounds (k*s+x.2) x.1) A) (λu hu=>hv u (Lz _ hu)) (by rw[<-Array.length_toList,hF];simp[hc];omega);refine⟨B,?_,?_⟩
  ·simp only[N9,MR,Instr.fill,hc];rw[if_neg P9];exact h1
  rw[h2,hF,e3,ND,L5 (by simp[hc];omega),Lv (by simp[hc];omega),LB]
theorem vx {s:Nat} : ∀(vs:List Value) (i:Nat) (hi:i<vs.length),(∀v∈vs,v.cells.size=s)->((vs.flatMap λv=>v.cells.toList).drop (i*s)).take s=vs[i].cells.toList
 | v::vs,0,_,hv=>by have hc:=hv v (Ly ..);simp only[NJ,M7,ND,M3];rw[L5 (by simp[hc]),Lv (by simp[hc])]
 | v::vs,i+1,hi,hv=>by have hc:=hv v (Ly ..);have:=vx vs i (by simpa using hi) λu hu=>hv u (Lz _ hu);rw[ND,show(i+1)*s=v.cells.toList.length+i*s by rw[NF];simp[hc];omega,<-List.drop_drop,List.drop_left];simpa using this
theorem jT{po:OP}{α:Type}[Rep α]{P:Program}{t e n:Nat}{ty:TypeId}{bytes:Nat}{z:Value}{ps:Array (Nat × Operand)}{us:List (Nat × Value)}{vs:List Value}{ds:List α}{h:Heap}{K:Value->Heap->Prop}(hT:dR P t e (Rep.n α) bytes z)(hp:ps.map (λp=>(p.1,asg us p.2))=((vs.zipIdx 0).map λp=>(p.2,p.1)).toArray){X:View}(hr:oJ X vs ds)(hn:ds.length=n)(hb:n*Rep.n α<=16777216)(hb2:n<=16777216)(hk : ∀u h',(vw h).le (vw h')->h'.size=h.size+1->(∀Y:View,X.le Y->Y h.size=h'[h.size]?->SlRd Y u ds)->u.ownBlock=Pt h.size->K u h'):step P (.buildSlice t n ps) ty us h K:=by
 have hl:=hr.len;have hcs : ∀v∈vs,v.cells.size=Rep.n α:=λv hv=>by obtain⟨i,hi,rfl⟩:=LO hv;exact(fq (hr.get i hi P2)).2.1
 obtain⟨B,h1,h2⟩:=lH (s:=Rep.n α) vs 0 ((Array.range (n*Rep.n α)).map (z.cells[· % z.cells.size]!)) hcs (by simp;rw[hl,hn]);have hB:B=(vs.flatMap λv=>v.cells.toList).toArray:=by rw[<-Array.toList_inj,h2];simp
 refine rz hT hb hp h1 ?_;have hle:=bN h (.cells B e);refine hk _ _ hle Sa (λY hY hYb=>⟨Pt ⟨h.size,0,Pu⟩,n,by rw[hn],by omega,by omega,.inr ⟨_,rfl,rfl,λi hi=>?_⟩⟩) rfl;have hi2:i<vs.length:=by omega
 have hrd:=fq (hr.get i hi2 hi);rw[aZ rfl];refine⟨vs[i].cells.toList,⟨B,e,(0,0),rfl,by rw[hYb];simp,?_⟩,Rep.mono hY hrd.1⟩;rw[hB,MN];have:=vx vs i hi2 hcs;rw[Nl,hrd.2.1];exact this
section
open Go Go.MapKept Go.ChangeMaps
variable {po:OP} {pp:PP}
structure It (h:Heap) (b r:Nat) (left:List (Value × Value)):Prop where
 ex : ∃es since seen c0,h[b]? = Pt (.map es since)/\Stamped es since/\h[r]? = Pt (.mapIter (Pt b) since seen c0)/\since<=c0/\left=(leftOf es seen).toList.map λx=>(x.key,x.val)
structure ItE (h:Heap) (b r:Nat) (p:Value × Value) (left:List (Value × Value)):Prop where
 ex : ∃(es:Array MapEntry) (since:Nat) (seen:Array Nat) (e:MapEntry),h[b]? = Pt (.map es since)/\Stamped es since/\h[r]? = Pt (.mapIter (Pt b) since (seen.push e.born) since)/\e∈es.toList/\p=(e.key,e.val)/\left=(leftOf es (seen.push e.born)).toList.map λx=>(x.key,x.val)
section
variable {P:Program} {ty:TypeId} {us:List (Nat × Value)} {h h':Heap} {K:Value->Heap->Prop} {d:TypeDesc} {b r:Nat} {f:Value->Option Value} {t k e:TypeId} {left:List (Value × Value)} {p:Value × Value}
theorem It.same(m:It h b r left)(e1:h'[b]? = h[b]?)(e2:h'[r]? = h[r]?):It h' b r left:=by obtain⟨es,s,q,c,a1,a2,a3,a4⟩:=m.ex;exact⟨es,s,q,c,by rw[e1];exact a1,a2,by rw[e2];exact a3,a4⟩
theorem ItE.it(m:ItE h b r p left):It h b r left:=by obtain⟨es,s,q,e,a1,a2,a3,a4,a5,a6⟩:=m.ex;exact⟨es,s,_,s,a1,a2,a3,Lp _,a6⟩
theorem It.lt(m:It h b r left):b<h.size/\r<h.size/\b≠r:=by obtain⟨es,s,q,c,a1,a2,a3,a4⟩:=m.ex;refine⟨(Lu.1 a1).1,(Lu.1 a3).1,?_⟩;rintro rfl;rw[a1]at a3;cases a3
theorem zi{x:Operand}(ht:P.underlying t=Pt (.map k e))(hx:asg us x = .map (Pt b))(m:dk d h b f)(hk : ∀h' left,(vw h).le (vw h')->h'.size=h.size+1->It h' b h.size left->(left.map (·.1)).Nodup->(∀u v,(u,v)∈left->IsKey d u)->(∀u v,IsKey d u->((u,v)∈left↔f u=Pt v))->K (Pw (Pt ⟨h.size,0,Pu⟩)) h'):step P (.range t x) ty us h K:=by
 obtain⟨es,c,h1,h2,h3,h4⟩:=m.ex;refine cJ (bX λw hw=>?_);subst hw;refine⟨Pw (Pt ⟨w.heap.size,0,Pu⟩),w.alloc (.mapIter (Pt b) c #[] c),?_,gD _ _,?_⟩
 ·simp only[bG,execOp,hx];simp[Instr.range,run_underlying ht,MapKept.run_getObj_map h1,newObj,Result.andThen];rfl
 have hb:(w.alloc (.mapIter (Pt b) c #[] c)).heap[b]? = Pt (.map es c):=(heap_alloc_old _ _ (Lu.1 h1).1).trans h1;have hl:(leftOf es #[]).toList=es.toList:=by unfold leftOf;simp
 refine hk _ (es.toList.map λx=>(x.key,x.val)) (by show(vw w.heap).le (vw (w.heap.push _));exact bN _ _) Sa ⟨es,c,#[],c,hb,h3,World.alloc_heap_new w _,Lp _,by rw[hl]⟩ ?_ ?_ ?_
 ·rw[List.map_map];exact h3.2.2
 ·intro u v hu;obtain⟨x,hx,e⟩:=MJ.1 hu;cases e;exact h2 x hx
 intro u v hu;rw[<-h4 u v hu,MJ];constructor
 ·rintro⟨x,hx,e⟩;cases e;exact⟨x,hx,rfl,rfl⟩
 rintro⟨x,hx,e1,e2⟩;exact⟨x,hx,by rw[e1,e2]⟩
theorem DE{es:Array MapEntry}{c:Nat}{seen:Array Nat}{e:MapEntry}(hs:Stamped es c)(he:e∈(leftOf es seen).toList): ∃a z,(leftOf es seen).toList=a++e::z/\(leftOf es (seen.push e.born)).toList=a++z:=by
 obtain⟨a,z,q⟩:=List.append_of_mem he;refine⟨a,z,q,?_⟩;have e1:(leftOf es (seen.push e.born)).toList=(leftOf es seen).toList.filter λx=>x.born != e.born:=by unfold leftOf;rw[NN,NN,List.filter_filter];refine OW λx _=>?_;rw[LS];simp;exact⟨λh=>⟨h.2,h.1⟩,λh=>⟨h.2,h.1⟩⟩
 have nd:((leftOf es seen).toList.map (·.born)).Nodup:=by refine hs.2.1.sublist (List.Sublist.map _ ?_);unfold leftOf;rw[NN];exact List.filter_sublist
 rw[q]at nd;rw[Nw,MR]at nd;obtain⟨n1,n2,n3⟩:=Nh.1 nd;obtain⟨n4,n5⟩:=Ow.1 n2;rw[e1,q,OI,List.filter_cons_of_neg Sa];have f1:a.filter (λx=>x.born != e.born)=a:=List.filter_eq_self.2 λx hx=>by simp only[bne_iff_ne,ne_eq];exact λh=>n3 x.born (NO hx) e.born (Ly) h
 have f2:z.filter (λx=>x.born != e.born)=z:=List.filter_eq_self.2 λx hx=>by simp only[bne_iff_ne,ne_eq];exact λh=>n4 (h▸NO (f:=(·.born)) hx)
 rw[f1,f2]
theorem Bx{x:Operand}(hx:asg us x = Pw (Pt ⟨r,0,Pu⟩))(m:It h b r left)(h0:left=[]->K (.tuple #[.bool Py]) h)(h1 : ∀a p z h',left=a++p::z->h'.size=h.size->(∀j,j≠r->h'[j]? = h[j]?)->ItE h' b r p (a++z)->K (.tuple #[.bool Px,p.1,p.2]) h'):step P (.next x Py) ty us h K:=by
 obtain⟨es,s,q,c,a1,a2,a3,a4,rfl⟩:=m.ex;have hne:b≠r:=m.lt.2.2;refine cJ (bX λw hw=>?_);subst hw;rcases run_next_at (P:=P) w ty r b s c q es s a3 a1 a2.1 a4 with⟨hz,hrun⟩ | ⟨e,he,w1,hw1,hrun⟩
 ·refine⟨.tuple #[.bool Py],w,?_,Same.refl _,h0 ?_⟩
  ·simp only[bG,execOp,hx];simp[hrun]
  rw[List.map_eq_nil_iff];exact LF (by simpa using hz)
 obtain⟨a,z,e1,e2⟩:=DE a2 he;have hh:w1.heap=w.heap:=by rcases hw1 with rfl | rfl<;>rfl
 have hset:=MapKept.heap_set (o':=Obj.mapIter (Pt b) s (q.push e.born) s) a3;refine⟨.tuple #[.bool Px,e.key,e.val],setBlock w1 r (.mapIter (Pt b) s (q.push e.born) s),by simp only[bG,execOp,hx];simp[hrun],?_,h1 (a.map λx=>(x.key,x.val)) (e.key,e.val) (z.map λx=>(x.key,x.val)) _ (by rw[e1];simp) (by simp[setBlock,hh]) ?_ ?_⟩
 ·have s1:Same w w1:=by
   rcases hw1 with rfl | rfl
   ·exact Same.refl _
   exact⟨rfl,rfl,rfl,Lp _,λ_ h=>h⟩
  refine s1.trans (Same.qg rfl rfl rfl (by simp[setBlock]) (g:=r) (by rw[hh];exact a3) Sa λk _ hk=>?_);simp only[setBlock,hh];exact hset.2 k hk
 ·intro j hj;simp only[setBlock,hh];exact hset.2 j hj
 refine⟨es,s,q,e,?_,a2,?_,?_,rfl,?_⟩
 ·simp only[setBlock,hh];rw[hset.2 b hne];exact a1
 ·simp only[setBlock,hh];exact hset.1
 ·unfold leftOf at he;rw[NN]at he;exact(Ny.1 he).1
 rw[e2,Nw]
theorem Fl{x:Operand}(hx:asg us x = Pw (Pt ⟨r,0,Pu⟩))(m:ItE h b r p left)(hk:K (.tuple #[p.1,p.2]) h):step P (.entry x) ty us h K:=by obtain⟨es,s,q,e,a1,a2,a3,a4,rfl,_⟩:=m.ex;refine cJ (bX λw hw=>?_);subst hw;refine⟨.tuple #[e.key,e.val],w,?_,Same.refl _,hk⟩;simp only[bG,execOp,hx];simp[run_entry_at (P:=P) w r b s q es s e a3 a1 a4 a2.2.1]
end
def Ie:Value->Bool
 | .nilFunc=>Px
 | .func _ _ _=>Px
 | _=>Py
def xS:Value->Bool
 | .nilFunc=>Px
 | _=>Py
theorem GL{P:Program}{ty t rt:TypeId}{us:List (Nat × Value)}{h:Heap}{K:Value->Heap->Prop}{x y:Operand}{v:Value}{ps rs:Array TypeId}{vr:Bool}(hu:P.underlying t=Pt (.func ps rs vr))(hv:Ie v=Px)(hx:asg us x=v)(hy:asg us y = .nilFunc)(hk:K (.bool (xS v)) h):step P (.binOp .eql t x y rt) ty us h K:=by
 refine cJ (bX λw hw=>⟨_,w,?_,Same.refl _,by rw[hw];exact hk⟩);simp only[bG,execOp,hx,hy];have e1:(Op.equal t v .nilFunc).run P w = .ok (xS v) w:=by show(Op.equalIn (9999+1) t _ _).run P w=_;rw[Op.equalIn];cases v<;>simp[Ie]at hv<;>simp[run_underlying hu,xS]
 simp[eqGuard,binOp,e1]
end
end Go.Lft
namespace Go.Lft
open Go
variable {po po2:OP}
theorem aY.vz:Part aY Int 0 aY.op (λd x=>{ d with op:=x }):=(Part.fst Part.all).via (λ_=>rfl) λ_ _=>rfl
theorem aY.KX:Part aY Int 1 aY.d (λd x=>{ d with d:=x }):=(Part.snd (Part.fst Part.all)).via (λ_=>rfl) λ_ _=>rfl
theorem aY.Lg:Part aY Int 2 aY.e (λd x=>{ d with e:=x }):=(Part.snd (Part.snd (Part.fst Part.all))).via (λ_=>rfl) λ_ _=>rfl
theorem aY.KG:Part aY Int 3 aY.a (λd x=>{ d with a:=x }):=(Part.snd (Part.snd (Part.snd (Part.fst Part.all)))).via (λ_=>rfl) λ_ _=>rfl
theorem aY.KO:Part aY Int 4 aY.b (λd x=>{ d with b:=x }):=(Part.snd (Part.snd (Part.snd (Part.snd (Part.fst Part.all))))).via (λ_=>rfl) λ_ _=>rfl
theorem aY.La:Part aY Int 5 aY.c (λd x=>{ d with c:=x }):=(Part.snd (Part.snd (Part.snd (Part.snd (Part.snd (Part.fst Part.all)))))).via (λ_=>rfl) λ_ _=>rfl
theorem aY.jv:Part aY I32 6 aY.imm (λd x=>{ d with imm:=x }):=(Part.snd (Part.snd (Part.snd (Part.snd (Part.snd (Part.snd (Part.fst Part.all))))))).via (λ_=>rfl) λ_ _=>rfl
theorem aY.ee:Part aY (List Int) 7 aY.args (λd x=>{ d with args:=x }):=(Part.snd (Part.snd (Part.snd (Part.snd (Part.snd (Part.snd (Part.snd Part.all))))))).via (λ_=>rfl) λ_ _=>rfl
theorem EndD.vz:Part EndD Int 0 EndD.op (λd x=>{ d with op:=x }):=(Part.fst Part.all).via (λ_=>rfl) λ_ _=>rfl
theorem EndD.KG:Part EndD Int 1 EndD.a (λd x=>{ d with a:=x }):=(Part.snd (Part.fst Part.all)).via (λ_=>rfl) λ_ _=>rfl
theorem FitD.BP:Part FitD (List Int) 0 FitD.takes (λd x=>{ d with takes:=x }):=(Part.fst Part.all).via (λ_=>rfl) λ_ _=>rfl
theorem FitD.GU:Part FitD (List Int) 1 FitD.inner (λd x=>{ d with inner:=x }):=(Part.snd (Part.fst Part.all)).via (λ_=>rfl) λ_ _=>rfl
theorem FitD.IJ:Part FitD (List aY) 2 FitD.code (λd x=>{ d with code:=x }):=(Part.snd (Part.snd (Part.fst Part.all))).via (λ_=>rfl) λ_ _=>rfl
theorem FitD.Kt:Part FitD EndD 3 FitD.fin (λd x=>{ d with fin:=x }):=(Part.snd (Part.snd (Part.snd Part.all))).via (λ_=>rfl) λ_ _=>rfl
theorem bS.Li:Part bS an 0 bS.f (λd x=>{ d with f:=x }):=(Part.fst Part.all).via (λ_=>rfl) λ_ _=>rfl
theorem bS.KM:Part bS InsD 2 bS.i (λd x=>{ d with i:=x }):=(Part.snd (Part.fst Part.all)).via (λ_=>rfl) λ_ _=>rfl
theorem bS.Lh:Part bS cQ 7 bS.t (λd x=>{ d with t:=x }):=(Part.snd (Part.snd (Part.fst Part.all))).via (λ_=>rfl) λ_ _=>rfl
theorem bS.nA:Part bS Bool 11 bS.term (λd x=>{ d with term:=x }):=(Part.snd (Part.snd (Part.snd (Part.fst Part.all)))).via (λ_=>rfl) λ_ _=>rfl
theorem bS.AF:Part bS Int 12 bS.temp (λd x=>{ d with temp:=x }):=(Part.snd (Part.snd (Part.snd (Part.snd Part.all)))).via (λ_=>rfl) λ_ _=>rfl
theorem bQ.Fy:Part bQ Int 0 bQ.pat (λd x=>{ d with pat:=x }):=(Part.fst Part.all).via (λ_=>rfl) λ_ _=>rfl
theorem bQ.Bg:Part bQ Int 1 bQ.cost (λd x=>{ d with cost:=x }):=(Part.snd Part.all).via (λ_=>rfl) λ_ _=>rfl
theorem gV {H:View} {op d e a b c:Int} {imm:I32} {va:Value} {args:List Int} (h : ∀x∈[op,d,e,a,b,c],-9223372036854775808<=x/\x<=9223372036854775807) (hi:-2147483648<=imm.v/\imm.v<=2147483647) (ha:SlRd H va args) :
  Rd H (.agg #[Pp Pq op,Pp Pq d,Pp Pq e,Pp Pq a,Pp Pq b,Pp Pq c,Pp Ps imm.v,va]) (⟨op,d,e,a,b,c,imm,args⟩:aY):=by
 simp only[LG,NK,or_false,forall_eq_or_imp,forall_eq]at h;obtain⟨h1,h2,h3,h4,h5,h6⟩:=h;have hl:Rep.rd H [va] args:=by have:=dJ.2 ha;unfold Rd at this;simpa[Rep.agg]using this
 unfold Rd;rw[if_pos (show Rep.agg _=Px from rfl)];exact⟨_,rfl,[_],_,rfl,⟨rfl,h1⟩,[_],_,rfl,⟨rfl,h2⟩,[_],_,rfl,⟨rfl,h3⟩,[_],_,rfl,⟨rfl,h4⟩,[_],_,rfl,⟨rfl,h5⟩,[_],_,rfl,⟨rfl,h6⟩,[_],[_],rfl,⟨rfl,hi⟩,hl⟩
theorem kh {H:View} {op a b:Int} {imm:I32} {vt:Value} {l:List Int} (h : ∀x∈[op,a,b],-9223372036854775808<=x/\x<=9223372036854775807) (hi:-2147483648<=imm.v/\imm.v<=2147483647) (ht:SlRd H vt l) :
  Rep.rd H [Pp Pq op,Pp Pq a,Pp Pq b,vt,Pp Ps imm.v] (⟨op,a,b,l,imm⟩:EndD):=by
 simp only[LG,NK,or_false,forall_eq_or_imp,forall_eq]at h;obtain⟨h1,h2,h3⟩:=h;have hl:Rep.rd H [vt] l:=by have:=dJ.2 ht;unfold Rd at this;simpa[Rep.agg]using this
 exact⟨[_],_,rfl,⟨rfl,h1⟩,[_],_,rfl,⟨rfl,h2⟩,[_],_,rfl,⟨rfl,h3⟩,[_],[_],rfl,hl,⟨rfl,hi⟩⟩
theorem ll {H:View} {v1 v2 v3:Value} {takes inner:List Int} {code:List aY} {ce:List Value} {fin:EndD} (h1:SlRd H v1 takes) (h2:SlRd H v2 inner) (h3:SlRd H v3 code) (h4:Rep.rd H ce fin) :
  Rd H (.agg (v1::v2::v3::ce).toArray) (⟨takes,inner,code,fin⟩:FitD):=by
 have q1:Rep.rd H [v1] takes:=by have:=dJ.2 h1;unfold Rd at this;simpa[Rep.agg]using this
 have q2:Rep.rd H [v2] inner:=by have:=dJ.2 h2;unfold Rd at this;simpa[Rep.agg]using this
 have q3:Rep.rd H [v3] code:=by have:=dJ.2 h3;unfold Rd at this;simpa[Rep.agg]using this
 unfold Rd;rw[if_pos (show Rep.agg _=Px from rfl)];exact⟨_,rfl,[_],_,rfl,q1,[_],_,rfl,q2,[_],_,rfl,q3,h4⟩
theorem Owns.od {W:View} {h:Heap} {o:Own} {k:Key} {P:Program} {ty:TypeId} {us:List (Nat × Value)} {n:Nat} {e t:TypeId} {B:Nat} {l l':List Value} {x y:Operand} {K:Value->Heap->Prop} (w:Owns W h o) (hk:o k=bx e B (RawN.mk (n:=n) l)) (hsz:cK P t=Pt (n+1)) (hx:asg us x = Pw (Pt ⟨B,0,Pu⟩)) (hy:asg us y = .agg l'.toArray) (hl:l'.length=n+1) (h1 : ∀c∈l',c.oneCell'=Px)
  (hK : ∀h',Owns W h' (o.upd k (bx e B (RawN.mk (n:=n) l')))->(∀X:View,X.le (vw h)->X B=Pu->X.le (vw h'))->K undef h'):@step po P (.store t x y) ty us h K:=
 w.pk (po:=po) (Part.all) (d:=RawN.mk (n:=n) l') hk hsz hx hy (pg hl h1) hK
theorem gB [pp:PP] {P:Program} {m:Option View} {x y:Reg} {Q:Env->Heap->Prop} {ρ:Env} {h:Heap} (h1:dQ P m x Q ρ h) (h2:dQ P m y Q ρ h):dQ P m (.both x y) Q ρ h:=⟨h1,h2⟩
theorem At.ldN {α:Type} [Rep α] {H:View} {a:Addr} {d:α} (h:At H a d) (ha:Rep.agg α=Px) {N:Nat} (hN:Rep.n α=N) : ∃u,(∀K:View,H.le K->Un.ev K (.bO N) (Pw (Pt a))=Pt u)/\Rd H u d:=by subst hN;obtain⟨u,h1,h2⟩:=h.bO ha;refine⟨u,λK hk=>?_,h2⟩;have:=dy (ρ:=λ_=>Pu) (e:=.un (.bO (Rep.n α)) (.con (Pw (Pt a)))) hk (v:=u) (by simpa using h1);simpa using this
structure Cx (V:View) (h0:Heap) (W:View) (h:Heap) (o:Own):Prop where
 own:Owns W h o
 old:Old V h0 W
 le0:(vw h0).le (vw h)
 new : ∀k i b,o k=Pt i->i.v.ownBlock=Pt b->h0.size<=b
section
variable {V W:View} {h0 h h':Heap} {o:Own} {k:Key} {P:Program} {ty:TypeId} {us:List (Nat × Value)}
theorem Cx.start (hV:V.le (vw h)):Cx V h V h λ_=>none:=⟨Owns.start hV,Old.refl _ _,View.le_refl _,λ_ _ _ e=>by cases e⟩
theorem Cx.wle (c:Cx V h0 W h o):W.le (vw h):=c.own.wle
theorem Cx.ext (c:Cx V h0 W h o) (hle:(vw h).le (vw h')):Cx V h0 (grow W h h') h' o:=⟨c.own.ext hle,c.old.grow (bY c.le0),Pn c.le0 hle,c.new⟩
theorem Cx.fin (c:Cx V h0 W h o):W.le (grow V h0 h):=c.old.le c.wle
theorem Cx.up (c:Cx V h0 W h o):W.le (grow W h h'):=bU c.wle
theorem Cx.dh {α:Type} [Rep α] {t:TypeId} {x:Operand} {v:Value} {d:α} {K:Value->Heap->Prop} (c:Cx V h0 W h o) (hx:asg us x=v) (hv:Rd W v d)
  (hk : ∀B h' W',W.le W'->Cx V h0 W' h' o->At W' ⟨B,0,Pu⟩ d->(vw h).le (vw h')->K (Pw (Pt ⟨B,0,Pu⟩)) h'):@step po P (.box t x) ty us h K:=by refine gT hx (hv.mono c.wle) λh1 hp hle hs _=>?_;exact hk _ _ _ c.up (c.ext hle) (qo (t:=t) (fz:=(0,0)) (by rw[cR (Lp _),hp];simp) (hv.mono c.up)) hle
theorem Cx.dD {α:Type} [Rep α] {t ty2:TypeId} {n:Nat} {z:Value} {x y:Operand} {us2:Value->List (Nat × Value)} {v:Value} {d:α} {K:Value->Heap->Prop} (c:Cx V h0 W h o) (hv:Rd W v d) (hz:(P.info? t).map (·.zero)=Pt (Pt z)) (hN:Rep.n α=n) (hzc:z.cells.size=n) (hsz:cK P t=Pt n)
  (hx : ∀p,asg (us2 p) x=p) (hy : ∀p,asg (us2 p) y=v) (hk : ∀B h' W',W.le W'->Cx V h0 W' h' o->At W' ⟨B,0,Pu⟩ d->(vw h).le (vw h')->K (Pw (Pt ⟨B,0,Pu⟩)) h') :
  @step po P (.alloc t) ty us h λp h2=>@step po2 P (.store t x y) ty2 (us2 p) h2 λ_ h3=>K p h3:=by subst hN;refine dC (X:=W) hz hzc hsz hv hx hy λh1 hle hs hat=>?_;exact hk _ _ _ c.up (c.ext hle) (hat _ c.up (cR (Lp _))) hle
theorem Cx.cj {t:TypeId} {n:Nat} {z:Value} {K:Value->Heap->Prop} (c:Cx V h0 W h o) (hk:o k=Pu) (hz:(P.info? t).map (·.zero)=Pt (Pt z)) (hzc:z.cells.size=n+1) (hn:n+1<=1000)
  (hone : ∀c∈z.cells.toList,c.oneCell'=Px) (hK : ∀B h':_,(vw h).le (vw h')->Cx V h0 W h' (o.upd k (bx t B (RawN.mk (n:=n) z.cells.toList)))->K (Pw (Pt ⟨B,0,Pu⟩)) h') :
  @step po P (.alloc t) ty us h K:=
 c.own.cj hk hz hzc hn hone λh1 hle w=>hK _ _ hle ⟨w,c.old,Pn c.le0 hle,λj i b hj hb=>by
  by_cases e:j=k
  ·subst e;rw[Own.aj]at hj;cases hj;cases hb;exact bY c.le0
  rw[Own.ay e]at hj;exact c.new j i b hj hb⟩
theorem Cx.od {n:Nat} {e t:TypeId} {B:Nat} {l l':List Value} {x y:Operand} {K:Value->Heap->Prop} (c:Cx V h0 W h o) (hk:o k=bx e B (RawN.mk (n:=n) l)) (hsz:cK P t=Pt (n+1)) (hx:asg us x = Pw (Pt ⟨B,0,Pu⟩)) (hy:asg us y = .agg l'.toArray) (hl:l'.length=n+1) (h1 : ∀c∈l',c.oneCell'=Px)
  (hK : ∀h',Cx V h0 W h' (o.upd k (bx e B (RawN.mk (n:=n) l')))->K undef h'):@step po P (.store t x y) ty us h K:=
 c.own.od hk hsz hx hy hl h1 λh2 w hX=>hK _ ⟨w,c.old,hX _ c.le0 (View.cr Pl (c.new k _ B hk rfl)),λj i b hj hb=>by
  by_cases e:j=k
  ·subst e;rw[Own.aj]at hj;cases hj;exact c.new _ _ b hk hb
  rw[Own.ay e]at hj;exact c.new j i b hj hb⟩
theorem Cx.bo {α:Type} [Rep α] {n:Nat} {e t:TypeId} {B:Nat} {l:List Value} {x y:Operand} {v:Value} {d:α} {K:Value->Heap->Prop} (c:Cx V h0 W h o) (hk:o k=bx e B (RawN.mk (n:=n) l)) (hr:Rd W v d) (ha:Rep.agg α=Px) (hN:Rep.n α=n+1) (hsz:cK P t=Pt (n+1)) (hx:asg us x = Pw (Pt ⟨B,0,Pu⟩)) (hy:asg us y=v)
  (hK : ∀h' l',v = .agg l'.toArray->Cx V h0 W h' (o.upd k (bx e B (RawN.mk (n:=n) l')))->K undef h'):@step po P (.store t x y) ty us h K:=by have h2:=fq hr;unfold Rd at hr;rw[if_pos ha]at hr;obtain⟨cs,rfl,h1⟩:=hr;have hl:=Rep.len h1;exact c.od hk hsz hx (l':=cs.toList) (by simpa using hy) (by rw[hl,hN]) (λc hc=>Rep.flat h1 c hc) λh'=>hK h' cs.toList Sa
theorem Cx.all {n:Nat} {e:TypeId} {B:Nat} {l:List Value} (c:Cx V h0 W h o) (hk:o k=bx e B (RawN.mk (n:=n) l)):Un.ev (vw h) (.bO (n+1)) (Pw (Pt ⟨B,0,Pu⟩))=Pt (.agg l.toArray):=c.own.v7 hk
theorem Cx.kq {α:Type} [Rep α] {t e n:Nat} {bytes:Nat} {z:Value} {ps:Array (Nat × Operand)} {vs:List Value} {ds:List α} {K:Value->Heap->Prop} (c:Cx V h0 W h o) (hT:dR P t e (Rep.n α) bytes z)
  (hp:ps.map (λp=>(p.1,asg us p.2))=((vs.zipIdx 0).map λp=>(p.2,p.1)).toArray) (hr:oJ W vs ds) (hn:ds.length=n) (hb:n*Rep.n α<=16777216) (hb2:n<=16777216)
  (hk : ∀u h' W',W.le W'->Cx V h0 W' h' o->SlRd W' u ds->(vw h).le (vw h')->K u h'):@step po P (.buildSlice t n ps) ty us h K:=
 jT hT hp hr hn hb hb2 λu h1 hle hs hu _=>hk _ _ _ c.up (c.ext hle) (hu _ c.up (cR (Lp _))) hle
end
end Go.Lft
namespace Go.Proofs.YtnfiilgdjpdlkaaGreatDoor
open Go Go.Lft
theorem iL {n lo hi:Int} {h:Heap}:az Pz 42 #[Pp Pq n,Pp Pq lo,Pp Pq hi] h (λu h'=>h'=h/\u = .bool (inR n lo hi)):=by
 refine aq (args:=[Pp Pq n,Pp Pq lo,Pp Pq hi]) follows Tryz.func42 E.mb Pj λK hK=>?_;dsimp only[L.mb,lkF,lkG];by_cases c:lo<=n
 ·simp[c];exact hK _ _ ⟨rfl,by simp[inR,c]⟩
 simp[c];exact hK _ _ ⟨rfl,by simp[inR,c]⟩
end Go.Proofs.YtnfiilgdjpdlkaaGreatDoor
namespace Go.Lft
open Go
theorem ET {H:View} {B:Nat} {s:bS} (h:At H ⟨B,0,Pu⟩ s) : ∃vb va wa wt,Sl H ⟨B,1,Pu⟩ vb s.f.blocks/\ak H ⟨B,2,Pu⟩=Pt (Pp Pq s.i.op)/\ak H ⟨B,3,Pu⟩=Pt (Pp Pq s.i.dst)/\Sl H ⟨B,5,Pu⟩ va s.i.args/\
  ak H ⟨B,6,Pu⟩=Pt (Pp Ps s.i.imm.v)/\ak H ⟨B,7,Pu⟩=Pt (Pp Pq s.t.kind)/\Sl H ⟨B,8,Pu⟩ wa s.t.args/\Sl H ⟨B,9,Pu⟩ wt s.t.to/\ak H ⟨B,10,Pu⟩=Pt (Pp Ps s.t.imm.v)/\
  ak H ⟨B,11,Pu⟩=Pt (.bool s.term)/\ak H ⟨B,12,Pu⟩=Pt (Pp Pq s.temp):=by
 have hf:=h.part bS.Li;have hi:=h.part bS.KM;have ht:=h.part bS.Lh;obtain⟨vb,h1⟩:=(hf.part an.uo).sl;obtain⟨va,h5⟩:=(hi.part InsD.ee).sl;obtain⟨wa,h8⟩:=(ht.part cQ.ee).sl;obtain⟨wt,h9⟩:=(ht.part cQ.DS).sl;exact⟨vb,va,wa,wt,by simpa using h1,by simpa using(hi.part InsD.vz).int,by simpa using(hi.part InsD.ig).int,by simpa using h5,by simpa using(hi.part InsD.jv).i32,by simpa using(ht.part cQ.A1).int,
  by simpa using h8,by simpa using h9,by simpa using(ht.part cQ.jv).i32,by simpa using(h.part bS.nA).bool,by simpa using(h.part bS.AF).int⟩
theorem Sl.mono {α:Type} [Rep α] {H K:View} (hk:H.le K) {a:Addr} {v:Value} {l:List α} (s:Sl H a v l):Sl K a v l:=⟨ae hk s.1,s.2.mono hk⟩
end Go.Lft
namespace Go.Proofs.YtnfiilgdjpdlkaaGreatDoor
open Go Go.Lft
theorem dL{v:Value}{l:List Int}{h:Heap}{W:View}(hW:W.le (vw h))(hv:SlRd W v l)(hb:l.length<=1000000):
  az Pz 99 #[v] h (λu h'=>(vw h).le (vw h')/\SlRd (grow W h h') u l):=by
 refine aq (args:=[v]) follows Tryz.func99 E.gY Pj λK hK=>?_;dsimp only[L.gY,lkF,lkG];have hv0:=hv;obtain⟨a,cap,rfl,g1,g2,g3⟩:=hv0;refine ab λz hz=>?_;simp;subst hz;refine ab λz hz=>?_;refine ab λy hy=>?_;simp;refine Fh U.aP rfl rfl ?_;subst hy;by_cases ha:a=Pu
 ·subst ha;have hl:l=[]:=by
   rcases g3 with g3 | ⟨ad,g3,_⟩
   ·first | exact g3 | exact LF (by simpa using g3)
   cases g3
  subst hl;simp;exact hK _ _ ⟨View.le_refl _,aJ⟩
 have hi:a.isNone=false:=by cases a<;>simp at ha ⊢
 simp[hi];subst hz;refine ab λz hz=>?_;simp;refine qT (α:=Int) El.aP λh1 hle1 hs1 own1=>?_;have m1:=Mine.empty (V:=W) (W:=W) Pl hle1 hW (Old.refl _ _) own1;refine dg (α:=Int) (l:=[]) (l2:=l) El.aP rfl rfl m1.own (hv.src (Pn hW hle1)) P9 P9 λv2 h2 own2 mv=>?_;have m2:=m1.iV own2 mv;subst hz;simp;refine hK _ _ ⟨m2.old,?_⟩;have:=m2.result;simpa using this
theorem jH{v0 v1 v2:Value}{m:aY}{takes inner:List Int}{h:Heap}{W:View}(hW:W.le (vw h))(h0:Rd W v0 m)(h1:SlRd W v1 takes)(h2:SlRd W v2 inner):
  az Pz 104 #[v0,v1,v2] h (λu h'=>(vw h).le (vw h')/\∃vf,u = .tuple #[vf,.bool Px]/\Rd (grow W h h') vf (⟨takes,inner,[m],dK⟩:FitD)):=by
 refine aq (args:=[v0,v1,v2]) follows Tryz.func104 E.mI Pj λK hK=>?_;dsimp only[L.mI,lkF,lkG];have c0:=Cx.start hW;refine ab λz hz=>?_;simp;refine c0.dh rfl h0 λB ha Wa hWa ca hat hlea=>?_;obtain⟨um,hum,hmr⟩:=hat.ldN rfl (N:=8) rfl;refine ca.cj (k:=(0,0)) (n:=7) (z:=.agg #[Pv Pu 0 0,Pv Pu 0 0,Pv Pu 0 0,Pp Pq 0,Pp Pq 0,Pp Pq 0,Pv Pu 0 0,Pp Ps 0]) rfl P1 rfl P4 P8 λR hb hleb cb=>?_;subst hz;refine ab λz hz=>?_;simp[hum _ (Pn ca.wle hleb)];refine cb.kq (α:=aY) (n:=1) (vs:=[um]) (ds:=[m]) El.iO Sa ⟨hmr,trivial⟩ rfl P4 P4 λu hc Wc hWc cc hu hlec=>?_;have hr:Rd Wc (.agg (v1::v2::u::[Pp Pq 0,Pp Pq 0,Pp Pq 0,Pv Pu 0 0,Pp Ps 0]).toArray) (⟨takes,inner,[m],dK⟩:FitD):=
  ll (h1.mono (Pn hWa hWc)) (h2.mono (Pn hWa hWc)) hu (kh Sa P4 aJ);have e1:=h1;have e2:=h2;have e3:=hu;obtain⟨a1,k1,rfl,-⟩:=e1;obtain⟨a2,k2,rfl,-⟩:=e2;obtain⟨a3,k3,rfl,-⟩:=e3;refine aw (z:=.agg #[Pv Pu 0 0,Pv Pu 0 0,Pv Pu 0 0,Pp Pq 0,Pp Pq 0,Pp Pq 0,Pv Pu 0 0,Pp Ps 0]) (places:=[(0,1),(1,1),(2,1),(3,5)]) (vs:=[(0,.slice a1 takes.length k1),(1,.slice a2 inner.length k2),(2,.slice a3 [m].length k3)]) (cs:=#[.slice a1 takes.length k1,.slice a2 inner.length k2,.slice a3 [m].length k3,Pp Pq 0,Pp Pq 0,Pp Pq 0,Pv Pu 0 0,Pp Ps 0]) P1 P1 Sa P1 ?_;refine cc.bo (k:=(0,0)) Own.aj hr rfl rfl P1 rfl rfl λhd l' hl' cd=>?_;subst hz;simp[cd.all (k:=(0,0)) Own.aj];refine hK _ _ ⟨cd.le0,_,rfl,?_⟩;rw[<-hl'];exact hr.mono cd.fin
theorem zD{f:an}{v:Int}:nH f v=f.blocks.findSome? λb=>b.ins.find? (ix v):=by unfold nH ed;rw[List.find?_flatMap]
theorem EO{f:an}{v:Int}{b i:Nat}(hb:b<f.blocks.length)(hi:i<(nth f.blocks b).ins.length)(h1:((f.blocks.take b).findSome? λb=>b.ins.find? (ix v))=Pu)(h2:((nth f.blocks b).ins.take i).find? (ix v)=Pu)(h3:ix v (nth (nth f.blocks b).ins i)=Px):nH f v=Pt (nth (nth f.blocks b).ins i):=by
 have e1:f.blocks.take b++nth f.blocks b::f.blocks.drop (b+1)=f.blocks:=by rw[aA hb,<-List.drop_eq_getElem_cons hb,Nc]
 have e2:(nth f.blocks b).ins.take i++nth (nth f.blocks b).ins i::(nth f.blocks b).ins.drop (i+1)=(nth f.blocks b).ins:=by rw[aA hi,<-List.drop_eq_getElem_cons hi,Nc]
 have e3:(nth f.blocks b).ins.find? (ix v)=Pt (nth (nth f.blocks b).ins i):=by
  have:((nth f.blocks b).ins.take i++nth (nth f.blocks b).ins i::(nth f.blocks b).ins.drop (i+1)).find? (ix v)=Pt (nth (nth f.blocks b).ins i):=by rw[N2,h2,Nr,List.find?_cons,h3]
  rwa [e2]at this
 have:((f.blocks.take b++nth f.blocks b::f.blocks.drop (b+1)).findSome? λb=>b.ins.find? (ix v))=Pt (nth (nth f.blocks b).ins i):=by rw[NB,h1,List.findSome?_cons,e3];rfl
 rw[e1]at this;rw[zD];exact this
theorem lq{H:View}:Rd H (.agg #[Pp Pq 0,Pp Pq 0,Pp Pq 0,Pv Pu 0 0,Pp Ps 0]) gC:=by
 have hl:Rep.rd H [Pv Pu 0 0] ([]:List Int):=by have:=dJ.2 (aJ (α:=Int) (H:=H));unfold Rd at this;simpa[Rep.agg]using this
 unfold Rd;rw[if_pos (show Rep.agg InsD=Px from rfl)];exact⟨_,rfl,[_],_,rfl,⟨rfl,by decide,by decide⟩,[_],_,rfl,⟨rfl,by decide,by decide⟩,[_],_,rfl,⟨rfl,by decide,by decide⟩,[_],[_],rfl,hl,rfl,by decide,by decide⟩
theorem zb{s:bS}{v:Value}{x:Int}{h:Heap}{W:View}(hW:W.le (vw h))(hv:Rd W v s)(hsm:SmF s.f):
  az Pz 129 #[v,Pp Pq x] h (λu h'=>(vw h).le (vw h')/\∃vi,u = .tuple #[vi,.bool (nH s.f x).isSome]/\Rd (grow W h h') vi ((nH s.f x).getD gC)):=by
 refine aq (args:=[v,Pp Pq x]) follows Tryz.func129 E.bR Pj λK hK=>?_;dsimp only[L.bR,lkF,lkG];have c0:=Cx.start hW;refine ab λz hz=>?_;simp;refine c0.dh rfl hv λB ha Wa hWa ca hat hlea=>?_;obtain⟨vb,va,wa,wt,sb,-⟩:=ET hat;refine ca.cj (k:=(0,0)) (n:=4) (z:=.agg #[Pp Pq 0,Pp Pq 0,Pp Pq 0,Pv Pu 0 0,Pp Ps 0]) rfl P1 rfl P4 P8 λR hb hleb cb=>?_;subst hz;refine ab λz hz=>?_;have sbb:=sb.mono cb.wle;have hbd:=sb.2.bound;simp[sbb.1,sbb.2.len];refine aK [0,1,2,4,5,12,13,14] (fun(_:Unit) k=>[v,Pp Pq x,Pw (Pt ⟨B,0,Pu⟩),Pw (Pt ⟨R,0,Pu⟩),.bool Py,vb,Pp Pq s.f.blocks.length,Pp Pq k])
  (λ_ k h1=>(s.f.blocks.take k).findSome? (λb=>b.ins.find? (ix x))=Pu/\∃W1,Wa.le W1/\Cx W h W1 h1 (Own.upd (λ_=>Pu) (0,0) (bx T.dT R (RawN.mk (n:=4) [Pp Pq 0,Pp Pq 0,Pp Pq 0,Pv Pu 0 0,Pp Ps 0])))) s.f.blocks.length ()
  rfl P2 rfl ⟨rfl,Wa,View.le_refl _,cb⟩ (λ_ _=>rfl) (λv i h1 hk m=>by simp) ?_ ?_
 ·rintro _ k h1 hk ⟨hn,W1,hW1,c1⟩ K2 hK2;have q1:=(sb.2.mono hW1).wh rfl (N:=6) rfl hk;obtain⟨ub,hub,rub⟩:=q1;have hbs:=hsm.blk k hk;refine ab λz hz=>?_;simp(disch:=omega)[(sb.2.mono (Pn hW1 c1.wle)).idxn (N:=6) rfl,hub _ c1.wle];refine c1.dD (α:=BlkD) rub (n:=6) (z:=.agg #[Pv Pu 0 0,Pv Pu 0 0,Pp Pq 0,Pv Pu 0 0,Pv Pu 0 0,Pp Ps 0]) P1 rfl rfl P1 P5 P5 λB2 h2 W2 hW2 c2 hat2 hle2=>?_;obtain⟨vp,vi,va2,vt2,-,si,-⟩:=jO hat2;subst hz;refine ab λz hz=>?_;have si2:=si.mono c2.wle;have hbd2:=si.2.bound;simp[si2.1,si2.2.len];subst hz;generalize hbk:nth s.f.blocks k=bk at *;refine aK [0,1,2,4,5,7,12,13,14,19,20,21] (fun(_:Unit) i=>[v,Pp Pq x,Pw (Pt ⟨B,0,Pu⟩),Pw (Pt ⟨R,0,Pu⟩),.bool Py,Pw (Pt ⟨B2,0,Pu⟩),vb,Pp Pq s.f.blocks.length,Pp Pq k,vi,Pp Pq bk.ins.length,Pp Pq i])
   (λ_ i h3=>(bk.ins.take i).find? (ix x)=Pu/\∃W3,W2.le W3/\Cx W h W3 h3 (Own.upd (λ_=>Pu) (0,0) (bx T.dT R (RawN.mk (n:=4) [Pp Pq 0,Pp Pq 0,Pp Pq 0,Pv Pu 0 0,Pp Ps 0])))) bk.ins.length ()
   rfl P2 rfl ⟨rfl,W2,View.le_refl _,c2⟩ (λ_ _=>rfl) (λv i h1 hk m=>by simp) ?_ ?_
  ·rintro _ i h3 hi ⟨hn3,W3,hW3,c3⟩ K3 hK3;have si3:=si.2.mono hW3;obtain⟨ui,hui,rui⟩:=si3.wh rfl (N:=5) rfl hi;have hst:(bk.ins.take (i+1)).find? (ix x)=if ix x (nth bk.ins i) then Pt (nth bk.ins i) else none:=by rw[LD hi,N2,hn3,Nr,aA hi,List.find?_singleton]
   refine ab λz hz=>?_;simp(disch:=omega)[(si3.mono c3.wle).idxn (N:=5) rfl,hui _ c3.wle];refine c3.dD (α:=InsD) rui (n:=5) (z:=.agg #[Pp Pq 0,Pp Pq 0,Pp Pq 0,Pv Pu 0 0,Pp Ps 0]) P1 rfl rfl P1 P5 P5 λB4 h4 W4 hW4 c4 hat4 hle4=>?_;obtain⟨q0,q1,-⟩:=kK (hat4.mono c4.wle);obtain⟨ur,hur,rur⟩:=hat4.ldN rfl (N:=5) rfl;have hur:=hur _ c4.wle;generalize hxi:nth bk.ins i=xi at *;subst hz;refine ab λz hz=>?_;by_cases p:ix x xi=Px
   ·have hm:nH s.f x=Pt xi:=by have:=EO (v:=x) hk (i:=i) (by rw[hbk];exact hi) hn (by rw[hbk];exact hn3) (by rw[hbk,hxi];exact p);rw[hbk,hxi]at this;exact this
    have p2:xi.op≠16/\xi.dst=x:=by simpa[ix]using p
    simp[q0,q1,p2.1,p2.2];subst hz;simp[hur];refine c4.bo (k:=(0,0)) Own.aj rur rfl rfl P1 rfl rfl λh5 l5 hl5 c5=>?_;simp[c5.all (k:=(0,0)) Own.aj];refine hK _ _ ⟨c5.le0,_,by rw[hm];rfl,?_⟩;rw[hm,<-hl5];exact rur.mono c5.fin
   have hc:(!decide (xi.op=16)&&decide (xi.dst=x))=false:=by simpa[ix]using p
   rw[if_neg p]at hst;by_cases p3:xi.op=16
   ·simp[q0,q1,p3];subst hz;simp;exact hK3 () _ _ rfl rfl ⟨hst,W4,Pn hW3 hW4,c4⟩
   have p4:¬xi.dst=x:=by simpa[p3]using hc
   simp[q0,q1,p3,p4];subst hz;simp;exact hK3 () _ _ rfl rfl ⟨hst,W4,Pn hW3 hW4,c4⟩
  rintro _ h3 ⟨hn3,W3,hW3,c3⟩;rw[MH]at hn3;simp;refine hK2 () _ _ rfl rfl ⟨?_,W3,Pn hW1 (Pn hW2 hW3),c3⟩;rw[LD hk,NB,hn,Nr,<-aA hk,hbk];simp[hn3]
 rintro _ h1 ⟨hn,W1,hW1,c1⟩;rw[MH]at hn;have hm:nH s.f x=none:=by rw[zD];exact hn
 simp;subst hz;refine ab λz hz=>?_;simp;have hr:Rd W1 (.agg #[Pp Pq 0,Pp Pq 0,Pp Pq 0,Pv Pu 0 0,Pp Ps 0]) gC:=lq;refine aw (z:=.agg #[Pp Pq 0,Pp Pq 0,Pp Pq 0,Pv Pu 0 0,Pp Ps 0]) (places:=[(0,1),(1,1),(2,1),(3,1),(4,1)]) (vs:=[]) (cs:=#[Pp Pq 0,Pp Pq 0,Pp Pq 0,Pv Pu 0 0,Pp Ps 0]) P1 P1 Sa P1 ?_;refine c1.bo (k:=(0,0)) Own.aj hr rfl rfl P1 rfl rfl λh5 l5 hl5 c5=>?_;subst hz;simp[c5.all (k:=(0,0)) Own.aj];refine hK _ _ ⟨c5.le0,_,by rw[hm];rfl,?_⟩;rw[hm,<-hl5];exact hr.mono c5.fin
theorem mT{s:bS}{v:Value}{x op:Int}{h:Heap}{W:View}(hW:W.le (vw h))(hv:Rd W v s)(hsm:SmF s.f)(hx:I64 x):
  az Pz 100 #[v,Pp Pq x,Pp Pq op] h (λu h'=>(vw h).le (vw h')/\∃vi,u = .tuple #[vi,.bool (aL s.f x op).2]/\Rd (grow W h h') vi (aL s.f x op).1):=by
 refine aq (args:=[v,Pp Pq x,Pp Pq op]) follows Tryz.func100 E.iH Pj λK hK=>?_;dsimp only[L.iH,lkF,lkG];have c0:=Cx.start hW;refine ab λz hz=>?_;simp;refine c0.dh rfl hv λB ha Wa hWa ca hat hlea=>?_;refine ca.cj (k:=(0,0)) (n:=4) (z:=.agg #[Pp Pq 0,Pp Pq 0,Pp Pq 0,Pv Pu 0 0,Pp Ps 0]) rfl P1 rfl P4 P8 λR hb hleb cb=>?_;subst hz;refine ab λz hz=>?_;obtain⟨us,hus,rus⟩:=hat.ldN rfl (N:=13) rfl;simp[hus _ cb.wle];refine af P1 (zb cb.wle rus hsm) ?_;rintro _ hc ⟨hle,vi,rfl,hvi⟩;have cc:=cb.ext hle;simp;refine cc.dD (α:=InsD) hvi (n:=5) (z:=.agg #[Pp Pq 0,Pp Pq 0,Pp Pq 0,Pv Pu 0 0,Pp Ps 0]) P1 rfl rfl P1 P5 P5 λB2 hd Wd hWd cd hat2 hle2=>?_;subst hz;refine ab λz hz=>?_;refine aR Wd cd.wle ?_;obtain⟨d0,-⟩:=kK hat2;obtain⟨uf,huf,ruf⟩:=(hat.part bS.Li).ldN rfl (N:=2) rfl;obtain⟨ui,hui,rui⟩:=hat2.ldN rfl (N:=5) rfl;have cbw:Wa.le Wd:=Pn cb.up hWd;have huf:Un.ev Wd (.bO 2) (Pw (Pt ⟨B,0,Pu⟩))=Pt uf:=by simpa using huf Wd cbw
 have ruf:=ruf.mono cbw;have hui:=hui Wd Pl;have fin : ∀(b:Bool) (h2:Heap) (l':List Value),b=(aL s.f x op).2->ui = .agg l'.toArray->(nH s.f x).getD gC=(aL s.f x op).1->Cx W h Wd h2 (Own.upd (Own.upd (λ_=>Pu) (0,0) (bx T.dT R (RawN.mk (n:=4) [Pp Pq 0,Pp Pq 0,Pp Pq 0,Pv Pu 0 0,Pp Ps 0]))) (0,0) (bx T.dT R (RawN.mk (n:=4) l')))->K (.tuple #[.agg l'.toArray,.bool b]) h2:=by rintro _ h2 l' rfl hl' e c2;refine hK _ _ ⟨c2.le0,_,rfl,?_⟩;rw[<-e,<-hl'];exact rui.mono c2.fin
 cases hm:nH s.f x with
 | none=>rw[hm]at fin d0;simp[hui];refine cd.bo (k:=(0,0)) Own.aj rui rfl rfl P1 rfl rfl λh2 l' hl' c2=>?_;subst hz;simp[c2.all (k:=(0,0)) Own.aj];exact fin _ _ _ (by unfold aL;rw[hm];rfl) hl' (by unfold aL;rw[hm];rfl) c2
 | some i=>
  rw[hm]at fin d0;have d0:ak Wd ⟨B2,0,Pu⟩=Pt (Pp Pq i.op):=d0;have e1:aL s.f x op=(i,decide (i.op=op)&&eF s.f x):=by unfold aL;rw[hm];rfl
  by_cases c:i.op=op
  ·simp[hui,d0,c,huf];refine af P1 (sS (ruf.mono cd.wle) hsm hx) ?_;rintro _ h1 ⟨rfl,hle1⟩;have c1:Cx W h Wd h1 _:=⟨cd.own.ext' hle1,cd.old,Pn cd.le0 hle1,cd.new⟩;refine⟨c1.wle,?_⟩;refine c1.bo (k:=(0,0)) Own.aj rui rfl rfl P1 rfl rfl λh2 l' hl' c2=>?_;subst hz;simp[c2.all (k:=(0,0)) Own.aj];exact fin _ _ _ (by rw[e1];simp[c]) hl' (by rw[e1];rfl) c2
  simp[hui,d0,c];refine cd.bo (k:=(0,0)) Own.aj rui rfl rfl P1 rfl rfl λh2 l' hl' c2=>?_;subst hz;simp[c2.all (k:=(0,0)) Own.aj];exact fin _ _ _ (by rw[e1];simp[c]) hl' (by rw[e1];rfl) c2
theorem tc{s:bS}{v:Value}{x lo hi:Int}{h:Heap}{W:View}(hW:W.le (vw h))(hv:Rd W v s)(hsm:SmF s.f)(hx:I64 x):
  az Pz 109 #[v,Pp Pq x,Pp Pq lo,Pp Pq hi] h (λu h'=>(vw h).le (vw h')/\u = .tuple #[Pp Pq (ez s.f x lo hi).1,.bool (ez s.f x lo hi).2]):=by
 refine aq (args:=[v,Pp Pq x,Pp Pq lo,Pp Pq hi]) follows Tryz.func109 E.fL Pj λK hK=>?_;dsimp only[L.fL,lkF,lkG];have c0:=Cx.start hW;refine ab λz hz=>?_;simp;refine c0.dh rfl hv λB ha Wa hWa ca hat hlea=>?_;subst hz;refine ab λz hz=>?_;obtain⟨us,hus,rus⟩:=hat.ldN rfl (N:=13) rfl;simp[hus _ ca.wle];refine af P1 (mT ca.wle rus hsm hx) ?_;rintro _ hc ⟨hle,vi,rfl,hvi⟩;have cc:=ca.ext hle;simp;refine cc.dD (α:=InsD) hvi (n:=5) (z:=.agg #[Pp Pq 0,Pp Pq 0,Pp Pq 0,Pv Pu 0 0,Pp Ps 0]) P1 rfl rfl P1 P5 P5 λB2 hd Wd hWd cd hat2 hle2=>?_;subst hz;refine ab λz hz=>?_;refine aR Wd cd.wle ?_;have hp:=hat2.part InsD.jv;have d4:ak Wd ⟨B2,4,Pu⟩=Pt (Pp Ps (aL s.f x 1).1.imm.v):=by simpa using hp.i32
 obtain⟨_,-,rng⟩:=hp.load rfl;have rng:=(Bt.1 rng).2;have ew:IntKind.i64.wrap (aL s.f x 1).1.imm.v=(aL s.f x 1).1.imm.v:=bw P2 P2;cases hb:(aL s.f x 1).2 with
 | false=>simp[d4,ew];subst hz;simp;exact hK _ _ ⟨cd.le0,by simp[ez,hb]⟩
 | true=>simp[d4,ew];refine af P1 iL ?_;rintro _ hd ⟨rfl,rfl⟩;refine⟨cd.wle,?_⟩;subst hz;simp;exact hK _ _ ⟨cd.le0,by simp[ez,hb]⟩
end Go.Proofs.YtnfiilgdjpdlkaaGreatDoor
namespace Go.Lft
open Go
theorem SlRd.rng {H:View} {v:Value} {l:List Int} (h:SlRd H v l) {i:Nat} (hi:i<l.length):-9223372036854775808<=nth l i/\nth l i<=9223372036854775807:=by have:=(h.at hi).rng;rw[aA hi];exact this
theorem At.ov {H:View} {a:Addr} {d:I32} (h:At H a d):-2147483648<=d.v/\d.v<=2147483647:=by obtain⟨u,h1,h2⟩:=h.load rfl;exact(Bt.1 h2).2
end Go.Lft
namespace Go.Proofs.YtnfiilgdjpdlkaaGreatDoor
open Go Go.Lft
def bI (V:View) (h h':Heap) (u:Value) (r:Option FitD):Prop:=(vw h).le (vw h')/\∃vf x,u = .tuple #[vf,.bool r.isSome]/\Rd (grow V h h') vf x/\∀y,r=Pt y->x=y
structure nI (W:View) (v:Value) (r:Option FitD):Prop where
 ex : ∃fn caps,v = .func (.func fn) #[] caps/\isFn Pz fn=Px/\∀h V,W.le V->V.le (vw h)->az Pz fn caps h (λu h'=>bI V h h' u r)
theorem nI.mono {W W':View} {v:Value} {r:Option FitD} (f:nI W v r) (hW:W.le W'):nI W' v r:=let ⟨fn,caps,e,i,h⟩:=f.ex;⟨fn,caps,e,i,λh' V hV hh=>h h' V (Pn hW hV) hh⟩
theorem bI.of {V W:View} {h h':Heap} {o:Own} {u:Value} {x:FitD} {b:Bool} {r:Option FitD} (c:Cx V h W h' o) (hr:Rd W u x) (hb:b=r.isSome) (hx : ∀y,r=Pt y->x=y):bI V h h' (.tuple #[u,.bool b]) r:=⟨c.le0,u,x,by rw[hb],hr.mono c.fin,hx⟩
structure uv (i:InsD):Prop where
 two:2<=i.op/\i.op<=14\/i.op=16\/i.op=18->2<=i.args.length
 one:i.op=15->1<=i.args.length
 most:i.args.length<=10000
structure ln (s:bS):Prop where
 sm:SmF s.f
 all : ∀i∈ed s.f,uv i
 one:uv s.i
 rng : ∀i∈ed s.f,-2147483648<=i.imm.v/\i.imm.v<=2147483647
structure Ct (W:View) (S I:Nat) (s:bS):Prop where
 site:At W ⟨S,0,Pu⟩ s
 ins:At W ⟨I,0,Pu⟩ s.i
theorem Ct.mono {W W':View} {S I:Nat} {s:bS} (c:Ct W S I s) (h:W.le W'):Ct W' S I s:=⟨c.site.mono h,c.ins.mono h⟩
abbrev fitZ:List Value:=[Pv Pu 0 0,Pv Pu 0 0,Pv Pu 0 0,Pp Pq 0,Pp Pq 0,Pp Pq 0,Pv Pu 0 0,Pp Ps 0]
theorem eJ {H:View}:Rd H (.agg fitZ.toArray) FK:=ll (v1:=Pv Pu 0 0) (v2:=Pv Pu 0 0) (v3:=Pv Pu 0 0) aJ aJ aJ (kh Sa P4 aJ)
section
variable {W V:View} {S I R:Nat} {s:bS} {h:Heap}
theorem Cq (hV:V.le (vw h)):az Pz 101 #[] h (λu h'=>bI V h h' u Pu):=by refine aq (args:=[]) follows Tryz.func101 E.eI Pj λK hK=>?_;dsimp only[L.eI,lkF,lkG];have c0:=Cx.start hV;refine ab λz hz=>?_;simp;refine c0.cj (k:=(0,0)) (n:=7) (z:=.agg fitZ.toArray) rfl P1 rfl P4 P8 λR hb hleb cb=>?_;subst hz;refine ab λz hz=>?_;simp;refine aw (z:=.agg fitZ.toArray) (places:=[(0,1),(1,1),(2,1),(3,5)]) (vs:=[]) (cs:=fitZ.toArray) P1 P1 Sa P1 ?_;refine cb.bo (k:=(0,0)) Own.aj eJ rfl rfl P1 rfl rfl λh9 l9 hl9 c9=>?_;subst hz;simp[c9.all (k:=(0,0)) Own.aj];exact hK _ _ (bI.of c9 (hl9▸eJ) rfl λy e=>by cases e)
theorem G2 (ct:Ct V S I s) (hV:V.le (vw h)):az Pz 105 #[Pw (Pt ⟨I,0,Pu⟩)] h (λu h'=>bI V h h' u (Pt ⟨[],[],[⟨4,s.i.dst,0,0,0,0,s.i.imm,[]⟩],dK⟩)):=by refine aq (args:=[Pw (Pt ⟨I,0,Pu⟩)]) follows Tryz.func105 E.eM Pj λK hK=>?_;dsimp only[L.eM,lkF,lkG];have c0:=Cx.start hV;refine ab λz hz=>?_;simp;refine c0.cj (k:=(0,0)) (n:=7) (z:=.agg fitZ.toArray) rfl P1 rfl P4 P8 λR hb hleb cb=>?_;subst hz;refine ab λz hz=>?_;have i1:=(ct.ins.part InsD.ig);have i4:=(ct.ins.part InsD.jv);have r1:=i1.rng;have r4:=i4.ov;have i1:ak (vw hb) ⟨I,1,Pu⟩=Pt (Pp Pq s.i.dst):=ae cb.wle (by simpa using i1.int);have i4:ak (vw hb) ⟨I,4,Pu⟩=Pt (Pp Ps s.i.imm.v):=ae cb.wle (by simpa using i4.i32);simp[i1,i4];refine aw (z:=.agg #[Pp Pq 0,Pp Pq 0,Pp Pq 0,Pp Pq 0,Pp Pq 0,Pp Pq 0,Pp Ps 0,Pv Pu 0 0]) (places:=[(0,1),(1,1),(2,1),(3,1),(4,1),(5,1),(6,1),(7,1)]) (vs:=[(0,Pp Pq 4),(1,Pp Pq s.i.dst),(6,Pp Ps s.i.imm.v)]) (cs:=#[Pp Pq 4,Pp Pq s.i.dst,Pp Pq 0,Pp Pq 0,Pp Pq 0,Pp Pq 0,Pp Ps s.i.imm.v,Pv Pu 0 0]) P1 P1 Sa P1 ?_;have hm:Rd V (.agg #[Pp Pq 4,Pp Pq s.i.dst,Pp Pq 0,Pp Pq 0,Pp Pq 0,Pp Pq 0,Pp Ps s.i.imm.v,Pv Pu 0 0]) (⟨4,s.i.dst,0,0,0,0,s.i.imm,[]⟩:aY):=gV (by simp[r1]) r4 aJ;refine af P1 (jH cb.wle hm aJ aJ) ?_;rintro _ hE ⟨hle,vf,rfl,hvf⟩;have cE:=cb.ext hle;simp;refine cE.bo (k:=(0,0)) Own.aj hvf rfl rfl P1 rfl rfl λh9 l9 hl9 c9=>?_;subst hz;simp[c9.all (k:=(0,0)) Own.aj];exact hK _ _ (bI.of c9 (hl9▸hvf) rfl λy e=>by cases e;rfl)
theorem Gm (ct:Ct V S I s) (hV:V.le (vw h)):az Pz 103 #[Pw (Pt ⟨I,0,Pu⟩)] h (λu h'=>bI V h h' u (if inR s.i.imm.v (-32768) 32767 then Pt ⟨[],[],[⟨3,s.i.dst,0,0,0,0,s.i.imm,[]⟩],dK⟩ else Pu)):=by
 refine aq (args:=[Pw (Pt ⟨I,0,Pu⟩)]) follows Tryz.func103 E.eR Pj λK hK=>?_;dsimp only[L.eR,lkF,lkG];have c0:=Cx.start hV;refine ab λz hz=>?_;simp;refine c0.cj (k:=(0,0)) (n:=7) (z:=.agg fitZ.toArray) rfl P1 rfl P4 P8 λR hb hleb cb=>?_;subst hz;refine ab λz hz=>?_;have i1:=(ct.ins.part InsD.ig);have i4:=(ct.ins.part InsD.jv);have r1:=i1.rng;have r4:=i4.ov;have i1:ak V ⟨I,1,Pu⟩=Pt (Pp Pq s.i.dst):=by simpa using i1.int
 have i4:ak V ⟨I,4,Pu⟩=Pt (Pp Ps s.i.imm.v):=by simpa using i4.i32
 simp[ae cb.wle i1,ae cb.wle i4];refine aw (z:=.agg #[Pp Pq 0,Pp Pq 0,Pp Pq 0,Pp Pq 0,Pp Pq 0,Pp Pq 0,Pp Ps 0,Pv Pu 0 0]) (places:=[(0,1),(1,1),(2,1),(3,1),(4,1),(5,1),(6,1),(7,1)]) (vs:=[(0,Pp Pq 3),(1,Pp Pq s.i.dst),(6,Pp Ps s.i.imm.v)]) (cs:=#[Pp Pq 3,Pp Pq s.i.dst,Pp Pq 0,Pp Pq 0,Pp Pq 0,Pp Pq 0,Pp Ps s.i.imm.v,Pv Pu 0 0]) P1 P1 Sa P1 ?_;have hm:Rd V (.agg #[Pp Pq 3,Pp Pq s.i.dst,Pp Pq 0,Pp Pq 0,Pp Pq 0,Pp Pq 0,Pp Ps s.i.imm.v,Pv Pu 0 0]) (⟨3,s.i.dst,0,0,0,0,s.i.imm,[]⟩:aY):=gV (by simp[r1]) r4 aJ;refine af P1 (jH cb.wle hm aJ aJ) ?_;rintro _ hE ⟨hle,vf,rfl,hvf⟩;have cE:=cb.ext hle;simp;refine cE.dD (α:=FitD) hvf (n:=8) (z:=.agg fitZ.toArray) P1 rfl rfl P1 P5 P5 λB2 hF WF hWF cF hatF hleF=>?_;obtain⟨ux,hux,rux⟩:=hatF.ldN rfl (N:=8) rfl;have hux:=hux WF Pl;subst hz;refine ab λz hz=>?_;refine aR WF cF.wle ?_;have ew:IntKind.i64.wrap s.i.imm.v=s.i.imm.v:=bw P2 P2;have vw1:V.le WF:=Pn cb.up hWF;simp[hux,ae vw1 i4,ew];refine af P1 iL ?_;rintro _ hF ⟨rfl,rfl⟩;refine⟨cF.wle,?_⟩;refine cF.bo (k:=(0,0)) Own.aj rux rfl rfl P1 rfl rfl λh9 l9 hl9 c9=>?_;subst hz;simp[c9.all (k:=(0,0)) Own.aj];refine hK _ _ (bI.of c9 (hl9▸rux) (by split<;>simp_all) λy e=>?_);split at e<;>cases e;rfl
theorem Gu {O:Nat} {op:Int} (ct:Ct V S I s) (hV:V.le (vw h)) (hO:ak V ⟨O,0,Pu⟩=Pt (Pp Pq op)) (hop:2<=op/\op<=14) (ha:2<=s.i.args.length/\s.i.args.length<=10000) :
  az Pz 106 #[Pw (Pt ⟨O,0,Pu⟩),Pw (Pt ⟨I,0,Pu⟩)] h (λu h'=>bI V h h' u (Pt ⟨s.i.args,[],[⟨op+3,s.i.dst,0,nth s.i.args 0,nth s.i.args 1,0,⟨0⟩,[]⟩],dK⟩)):=by
 refine aq (args:=[Pw (Pt ⟨O,0,Pu⟩),Pw (Pt ⟨I,0,Pu⟩)]) follows Tryz.func106 E.eO Pj λK hK=>?_;dsimp only[L.eO,lkF,lkG];have c0:=Cx.start hV;refine ab λz hz=>?_;simp;refine c0.cj (k:=(0,0)) (n:=7) (z:=.agg fitZ.toArray) rfl P1 rfl P4 P8 λR hb hleb cb=>?_;subst hz;refine ab λz hz=>?_;have i1:=(ct.ins.part InsD.ig);have r1:=i1.rng;have i1:ak V ⟨I,1,Pu⟩=Pt (Pp Pq s.i.dst):=by simpa using i1.int
 have i2:=(ct.ins.part InsD.xu);have r2:=i2.rng;have i2:ak V ⟨I,2,Pu⟩=Pt (Pp Pq s.i.two):=by simpa using i2.int
 have i4:=(ct.ins.part InsD.jv);have r4:=i4.ov;have i4:ak V ⟨I,4,Pu⟩=Pt (Pp Ps s.i.imm.v):=by simpa using i4.i32
 obtain⟨va,i3,hva⟩:=(ct.ins.part InsD.ee).sl;have i3:ak V ⟨I,3,Pu⟩=Pt va:=by simpa using i3
 have e1:5+op-2=op+3:=by omega
 have a0:=hva.rng (i:=0) P2;have a1:=hva.rng (i:=1) P2;have hm : ∀X,Rd X (.agg #[Pp Pq (op+3),Pp Pq s.i.dst,Pp Pq 0,Pp Pq (nth s.i.args 0),Pp Pq (nth s.i.args 1),Pp Pq 0,Pp Ps 0,Pv Pu 0 0]) (⟨op+3,s.i.dst,0,nth s.i.args 0,nth s.i.args 1,0,⟨0⟩,[]⟩:aY):=λX=>gV P9 Sa aJ;refine aR V cb.wle ?_;simp(disch:=omega)[hO,i1,i3,hva.idx1 rfl,hva.int Pl,e1];refine⟨?_,?_⟩
 ·refine aw (z:=.agg #[Pp Pq 0,Pp Pq 0,Pp Pq 0,Pp Pq 0,Pp Pq 0,Pp Pq 0,Pp Ps 0,Pv Pu 0 0]) (places:=[(0,1),(1,1),(2,1),(3,1),(4,1),(5,1),(6,1),(7,1)]) (vs:=[(0,Pp Pq (op+3)),(1,Pp Pq s.i.dst),(3,Pp Pq (nth s.i.args 0)),(4,Pp Pq (nth s.i.args 1))]) (cs:=#[Pp Pq (op+3),Pp Pq s.i.dst,Pp Pq 0,Pp Pq (nth s.i.args 0),Pp Pq (nth s.i.args 1),Pp Pq 0,Pp Ps 0,Pv Pu 0 0]) P1 P1 Sa P1 ?_;refine⟨Pn Pl cb.wle,?_⟩;refine af P1 (dL cb.wle (hva.mono Pl) P2) ?_;rintro u1 h1 ⟨hle1,hcl1⟩;have c1:=cb.ext hle1;refine⟨Pn (Pn Pl (cb.up)) c1.wle,?_⟩;refine af P1 (jH c1.wle (hm _) hcl1 aJ) ?_;rintro _ hE ⟨hleE,vf,rfl,hvf⟩;have cE:=c1.ext hleE;simp;refine cE.bo (k:=(0,0)) Own.aj hvf rfl rfl P1 rfl rfl λh9 l9 hl9 c9=>?_;subst hz;simp[c9.all (k:=(0,0)) Own.aj];exact hK _ _ (bI.of c9 (hl9▸hvf) rfl λy e=>by cases e;rfl)
 refine af P1 (dL cb.wle (hva.mono Pl) P2) ?_;rintro u1 h1 ⟨hle1,hcl1⟩;have c1:=cb.ext hle1;refine⟨Pn (Pn Pl (cb.up)) c1.wle,?_⟩;refine aw (z:=.agg #[Pp Pq 0,Pp Pq 0,Pp Pq 0,Pp Pq 0,Pp Pq 0,Pp Pq 0,Pp Ps 0,Pv Pu 0 0]) (places:=[(0,1),(1,1),(2,1),(3,1),(4,1),(5,1),(6,1),(7,1)]) (vs:=[(0,Pp Pq (op+3)),(1,Pp Pq s.i.dst),(3,Pp Pq (nth s.i.args 0)),(4,Pp Pq (nth s.i.args 1))]) (cs:=#[Pp Pq (op+3),Pp Pq s.i.dst,Pp Pq 0,Pp Pq (nth s.i.args 0),Pp Pq (nth s.i.args 1),Pp Pq 0,Pp Ps 0,Pv Pu 0 0]) P1 P1 Sa P1 ?_;refine⟨Pn (Pn Pl (cb.up)) c1.wle,?_⟩;refine af P1 (jH c1.wle (hm _) hcl1 aJ) ?_;rintro _ hE ⟨hleE,vf,rfl,hvf⟩;have cE:=c1.ext hleE;simp;refine cE.bo (k:=(0,0)) Own.aj hvf rfl rfl P1 rfl rfl λh9 l9 hl9 c9=>?_;subst hz;simp[c9.all (k:=(0,0)) Own.aj];exact hK _ _ (bI.of c9 (hl9▸hvf) rfl λy e=>by cases e;rfl)
theorem Gl (ct:Ct V S I s) (hV:V.le (vw h)) (ha:s.i.args.length<=10000) :
  az Pz 112 #[Pw (Pt ⟨I,0,Pu⟩)] h (λu h'=>bI V h h' u (Pt ⟨s.i.args,[],[⟨28,s.i.dst,0,0,0,0,s.i.imm,s.i.args⟩],dK⟩)):=by
 refine aq (args:=[Pw (Pt ⟨I,0,Pu⟩)]) follows Tryz.func112 E.eW Pj λK hK=>?_;dsimp only[L.eW,lkF,lkG];have c0:=Cx.start hV;refine ab λz hz=>?_;simp;refine c0.cj (k:=(0,0)) (n:=7) (z:=.agg fitZ.toArray) rfl P1 rfl P4 P8 λR hb hleb cb=>?_;subst hz;refine ab λz hz=>?_;have i1:=(ct.ins.part InsD.ig);have r1:=i1.rng;have i1:ak V ⟨I,1,Pu⟩=Pt (Pp Pq s.i.dst):=by simpa using i1.int
 have i2:=(ct.ins.part InsD.xu);have r2:=i2.rng;have i2:ak V ⟨I,2,Pu⟩=Pt (Pp Pq s.i.two):=by simpa using i2.int
 have i4:=(ct.ins.part InsD.jv);have r4:=i4.ov;have i4:ak V ⟨I,4,Pu⟩=Pt (Pp Ps s.i.imm.v):=by simpa using i4.i32
 obtain⟨va,i3,hva⟩:=(ct.ins.part InsD.ee).sl;have i3:ak V ⟨I,3,Pu⟩=Pt va:=by simpa using i3
 have hm : ∀{X w},SlRd X w s.i.args->Rd X (.agg #[Pp Pq 28,Pp Pq s.i.dst,Pp Pq 0,Pp Pq 0,Pp Pq 0,Pp Pq 0,Pp Ps s.i.imm.v,w]) (⟨28,s.i.dst,0,0,0,0,s.i.imm,s.i.args⟩:aY):=λhw=>gV P9 r4 hw;refine aR V cb.wle ?_;simp(disch:=omega)[i1,i3,i4];refine af P1 (dL cb.wle hva P2) ?_;rintro u1 h1 ⟨hle1,hcl1⟩;have c1:=cb.ext hle1;refine⟨Pn cb.up c1.wle,?_⟩;have q1:=hcl1;obtain⟨b1,k1,rfl,-⟩:=q1;refine⟨?_,?_⟩
 ·refine aw (z:=.agg #[Pp Pq 0,Pp Pq 0,Pp Pq 0,Pp Pq 0,Pp Pq 0,Pp Pq 0,Pp Ps 0,Pv Pu 0 0]) (places:=[(0,1),(1,1),(2,1),(3,1),(4,1),(5,1),(6,1),(7,1)]) (vs:=[(0,Pp Pq 28),(1,Pp Pq s.i.dst),(6,Pp Ps s.i.imm.v),(7,.slice b1 s.i.args.length k1)]) (cs:=#[Pp Pq 28,Pp Pq s.i.dst,Pp Pq 0,Pp Pq 0,Pp Pq 0,Pp Pq 0,Pp Ps s.i.imm.v,.slice b1 s.i.args.length k1]) P1 P1 Sa P1 ?_;refine⟨Pn cb.up c1.wle,?_⟩;refine af P1 (dL c1.wle (hva.mono cb.up) P2) ?_;rintro u2 h2 ⟨hle2,hcl2⟩;have c2:=c1.ext hle2;refine⟨Pn (Pn cb.up c1.up) c2.wle,?_⟩;refine af P1 (jH c2.wle (hm (hcl1.mono c1.up)) hcl2 aJ) ?_;rintro _ hE ⟨hleE,vf,rfl,hvf⟩;have cE:=c2.ext hleE;simp;refine cE.bo (k:=(0,0)) Own.aj hvf rfl rfl P1 rfl rfl λh9 l9 hl9 c9=>?_;subst hz;simp[c9.all (k:=(0,0)) Own.aj];exact hK _ _ (bI.of c9 (hl9▸hvf) rfl λy e=>by cases e;rfl)
 refine af P1 (dL c1.wle (hva.mono cb.up) P2) ?_;rintro u2 h2 ⟨hle2,hcl2⟩;have c2:=c1.ext hle2;refine⟨Pn (Pn cb.up c1.up) c2.wle,?_⟩;refine aw (z:=.agg #[Pp Pq 0,Pp Pq 0,Pp Pq 0,Pp Pq 0,Pp Pq 0,Pp Pq 0,Pp Ps 0,Pv Pu 0 0]) (places:=[(0,1),(1,1),(2,1),(3,1),(4,1),(5,1),(6,1),(7,1)]) (vs:=[(0,Pp Pq 28),(1,Pp Pq s.i.dst),(6,Pp Ps s.i.imm.v),(7,.slice b1 s.i.args.length k1)]) (cs:=#[Pp Pq 28,Pp Pq s.i.dst,Pp Pq 0,Pp Pq 0,Pp Pq 0,Pp Pq 0,Pp Ps s.i.imm.v,.slice b1 s.i.args.length k1]) P1 P1 Sa P1 ?_;refine⟨Pn (Pn cb.up c1.up) c2.wle,?_⟩;refine af P1 (jH c2.wle (hm (hcl1.mono c1.up)) hcl2 aJ) ?_;rintro _ hE ⟨hleE,vf,rfl,hvf⟩;have cE:=c2.ext hleE;simp;refine cE.bo (k:=(0,0)) Own.aj hvf rfl rfl P1 rfl rfl λh9 l9 hl9 c9=>?_;subst hz;simp[c9.all (k:=(0,0)) Own.aj];exact hK _ _ (bI.of c9 (hl9▸hvf) rfl λy e=>by cases e;rfl)
theorem GM (ct:Ct V S I s) (hV:V.le (vw h)) (ha:2<=s.i.args.length/\s.i.args.length<=10000) :
  az Pz 113 #[Pw (Pt ⟨I,0,Pu⟩)] h (λu h'=>bI V h h' u (Pt ⟨s.i.args,[],[⟨29,s.i.dst,s.i.two,nth s.i.args 0,nth s.i.args 1,0,⟨0⟩,[]⟩],dK⟩)):=by
 refine aq (args:=[Pw (Pt ⟨I,0,Pu⟩)]) follows Tryz.func113 E.eX Pj λK hK=>?_;dsimp only[L.eX,lkF,lkG];have c0:=Cx.start hV;refine ab λz hz=>?_;simp;refine c0.cj (k:=(0,0)) (n:=7) (z:=.agg fitZ.toArray) rfl P1 rfl P4 P8 λR hb hleb cb=>?_;subst hz;refine ab λz hz=>?_;have i1:=(ct.ins.part InsD.ig);have r1:=i1.rng;have i1:ak V ⟨I,1,Pu⟩=Pt (Pp Pq s.i.dst):=by simpa using i1.int
 have i2:=(ct.ins.part InsD.xu);have r2:=i2.rng;have i2:ak V ⟨I,2,Pu⟩=Pt (Pp Pq s.i.two):=by simpa using i2.int
 have i4:=(ct.ins.part InsD.jv);have r4:=i4.ov;have i4:ak V ⟨I,4,Pu⟩=Pt (Pp Ps s.i.imm.v):=by simpa using i4.i32
 obtain⟨va,i3,hva⟩:=(ct.ins.part InsD.ee).sl;have i3:ak V ⟨I,3,Pu⟩=Pt va:=by simpa using i3
 have a0:=hva.rng (i:=0) P2;have a1:=hva.rng (i:=1) P2;have hm : ∀X,Rd X (.agg #[Pp Pq 29,Pp Pq s.i.dst,Pp Pq s.i.two,Pp Pq (nth s.i.args 0),Pp Pq (nth s.i.args 1),Pp Pq 0,Pp Ps 0,Pv Pu 0 0]) (⟨29,s.i.dst,s.i.two,nth s.i.args 0,nth s.i.args 1,0,⟨0⟩,[]⟩:aY):=λX=>gV P9 Sa aJ;refine aR V cb.wle ?_;simp(disch:=omega)[i1,i2,i3,hva.idx1 rfl,hva.int Pl];refine⟨?_,?_⟩
 ·refine aw (z:=.agg #[Pp Pq 0,Pp Pq 0,Pp Pq 0,Pp Pq 0,Pp Pq 0,Pp Pq 0,Pp Ps 0,Pv Pu 0 0]) (places:=[(0,1),(1,1),(2,1),(3,1),(4,1),(5,1),(6,1),(7,1)]) (vs:=[(0,Pp Pq 29),(1,Pp Pq s.i.dst),(2,Pp Pq s.i.two),(3,Pp Pq (nth s.i.args 0)),(4,Pp Pq (nth s.i.args 1))]) (cs:=#[Pp Pq 29,Pp Pq s.i.dst,Pp Pq s.i.two,Pp Pq (nth s.i.args 0),Pp Pq (nth s.i.args 1),Pp Pq 0,Pp Ps 0,Pv Pu 0 0]) P1 P1 Sa P1 ?_;refine⟨Pn Pl cb.wle,?_⟩;refine af P1 (dL cb.wle (hva.mono Pl) P2) ?_;rintro u1 h1 ⟨hle1,hcl1⟩;have c1:=cb.ext hle1;refine⟨Pn (Pn Pl (cb.up)) c1.wle,?_⟩;refine af P1 (jH c1.wle (hm _) hcl1 aJ) ?_;rintro _ hE ⟨hleE,vf,rfl,hvf⟩;have cE:=c1.ext hleE;simp;refine cE.bo (k:=(0,0)) Own.aj hvf rfl rfl P1 rfl rfl λh9 l9 hl9 c9=>?_;subst hz;simp[c9.all (k:=(0,0)) Own.aj];exact hK _ _ (bI.of c9 (hl9▸hvf) rfl λy e=>by cases e;rfl)
 refine af P1 (dL cb.wle (hva.mono Pl) P2) ?_;rintro u1 h1 ⟨hle1,hcl1⟩;have c1:=cb.ext hle1;refine⟨Pn (Pn Pl (cb.up)) c1.wle,?_⟩;refine aw (z:=.agg #[Pp Pq 0,Pp Pq 0,Pp Pq 0,Pp Pq 0,Pp Pq 0,Pp Pq 0,Pp Ps 0,Pv Pu 0 0]) (places:=[(0,1),(1,1),(2,1),(3,1),(4,1),(5,1),(6,1),(7,1)]) (vs:=[(0,Pp Pq 29),(1,Pp Pq s.i.dst),(2,Pp Pq s.i.two),(3,Pp Pq (nth s.i.args 0)),(4,Pp Pq (nth s.i.args 1))]) (cs:=#[Pp Pq 29,Pp Pq s.i.dst,Pp Pq s.i.two,Pp Pq (nth s.i.args 0),Pp Pq (nth s.i.args 1),Pp Pq 0,Pp Ps 0,Pv Pu 0 0]) P1 P1 Sa P1 ?_;refine⟨Pn (Pn Pl (cb.up)) c1.wle,?_⟩;refine af P1 (jH c1.wle (hm _) hcl1 aJ) ?_;rintro _ hE ⟨hleE,vf,rfl,hvf⟩;have cE:=c1.ext hleE;simp;refine cE.bo (k:=(0,0)) Own.aj hvf rfl rfl P1 rfl rfl λh9 l9 hl9 c9=>?_;subst hz;simp[c9.all (k:=(0,0)) Own.aj];exact hK _ _ (bI.of c9 (hl9▸hvf) rfl λy e=>by cases e;rfl)
end
end Go.Proofs.YtnfiilgdjpdlkaaGreatDoor
namespace Go.Proofs.YtnfiilgdjpdlkaaGreatDoor
open Go Go.Lft
theorem BS(n:Int):-2147483648<=(w32 n).v/\(w32 n).v<=2147483647:=by unfold w32 IntKind.wrap;simp[IntKind.signed,IntKind.bits];omega
section
variable {W V:View} {S I R:Nat} {s:bS} {h:Heap}
theorem uO{f:an}{v lo hi:Int}(hr : ∀i∈ed f,-2147483648<=i.imm.v/\i.imm.v<=2147483647):-2147483648<=(ez f v lo hi).1/\(ez f v lo hi).1<=2147483647:=by
 unfold ez aL;cases hm:nH f v with
 | none=>exact⟨(by decide:(-2147483648:Int)<=0),(by decide:(0:Int)<=2147483647)⟩
 | some i=>exact hr i (Nd hm)
set_option maxHeartbeats 4000000 in
/-- addi to sari. -/
theorem Ej{L1 M1 O1 G1:Nat}{lo hi m sign:Int}(ct:Ct V S I s)(hV:V.le (vw h))(hok:ln s)(ha:2<=s.i.args.length)(hl:ak V ⟨L1,0,Pu⟩=Pt (Pp Pq lo))(hh:ak V ⟨M1,0,Pu⟩=Pt (Pp Pq hi))(hm:ak V ⟨O1,0,Pu⟩=Pt (Pp Pq m))(hg:ak V ⟨G1,0,Pu⟩=Pt (Pp Pq sign))(hs:sign=1\/sign=-1)(hm0:0<=m/\m<=100):
    az Pz 108 #[Pw (Pt ⟨S,0,Pu⟩),Pw (Pt ⟨I,0,Pu⟩),Pw (Pt ⟨L1,0,Pu⟩),Pw (Pt ⟨M1,0,Pu⟩),Pw (Pt ⟨O1,0,Pu⟩),Pw (Pt ⟨G1,0,Pu⟩)] h
      (λu h'=>bI V h h' u (immS s.f s.i m lo hi sign)):=by
  refine aq (args:=[Pw (Pt ⟨S,0,Pu⟩),Pw (Pt ⟨I,0,Pu⟩),Pw (Pt ⟨L1,0,Pu⟩),Pw (Pt ⟨M1,0,Pu⟩),Pw (Pt ⟨O1,0,Pu⟩),Pw (Pt ⟨G1,0,Pu⟩)]) follows Tryz.func108 E.ck Pj λK hK=>?_
  dsimp only[L.ck,lkF,lkG]
  have c0:=Cx.start hV
  refine ab λz hz=>?_
  simp
  refine c0.cj (k:=(0,0)) (n:=7) (z:=.agg fitZ.toArray) rfl P1 rfl P4 P8 λR hb hleb cb=>?_
  subst hz
  have i1:=(ct.ins.part InsD.ig)
  have r1:=i1.rng
  have i1:ak V ⟨I,1,Pu⟩=Pt (Pp Pq s.i.dst):=by simpa using i1.int
  obtain⟨va,i3,hva⟩:=(ct.ins.part InsD.ee).sl
  have i3:ak V ⟨I,3,Pu⟩=Pt va:=by simpa using i3
  have a0:=hva.rng (i:=0) P2
  have a1:=hva.rng (i:=1) P2
  obtain⟨us,hus,rus⟩:=ct.site.ldN rfl (N:=13) rfl
  have hus:=hus V Pl
  have most:=hok.one.most
  refine ab λz hz=>?_
  refine aR V cb.wle ?_
  simp(disch:=omega)[hus,i3,hva.idx1 rfl,hva.int Pl,hl,hh]
  refine af P1 (tc cb.wle rus hok.sm a1) ?_
  rintro _ hc ⟨hle,rfl⟩
  have cc:Cx V h V hc _:=⟨cb.own.ext' hle,cb.old,Pn cb.le0 hle,cb.new⟩
  simp
  have rk:-2147483648<=(ez s.f (nth s.i.args 1) lo hi).1/\(ez s.f (nth s.i.args 1) lo hi).1<=2147483647:=uO hok.rng
  generalize hk:(ez s.f (nth s.i.args 1) lo hi).1=k at *
  generalize hb2:(ez s.f (nth s.i.args 1) lo hi).2=ok at *
  subst hz
  refine ab λz hz=>?_
  refine aR V cc.wle ?_
  have e1:IntKind.i64.wrap (sign*k)=sign*k:=by rcases hs with rfl | rfl<;>exact bw P2 P2
  have hmm : ∀X,Rd X (.agg #[Pp Pq m,Pp Pq s.i.dst,Pp Pq 0,Pp Pq (nth s.i.args 0),Pp Pq 0,Pp Pq 0,Pp Ps (IntKind.i32.wrap (sign*k)),Pv Pu 0 0]) (⟨m,s.i.dst,0,nth s.i.args 0,0,0,w32 (sign*k),[]⟩:aY):=λX=>gV (imm:=w32 (sign*k)) P9 (BS _) aJ
  have fin : ∀(W:View) (hx:Heap) (o:Own) (l9:List Value),Cx V h W hx o->Rd W (.agg l9.toArray) (⟨[nth s.i.args 0],[nth s.i.args 1],[⟨m,s.i.dst,0,nth s.i.args 0,0,0,w32 (sign*k),[]⟩],dK⟩:FitD)->K (.tuple #[.agg l9.toArray,.bool ok]) hx:=λW hx o l9 c hr=>
    hK _ _ (bI.of c hr (by unfold immS;rw[hb2];split<;>simp_all) λy e=>by
      unfold immS at e
      rw[hb2,hk]at e
      split at e<;>cases e
      rfl)
  have c:=cc
  have q0:=hva.idx1 (k:=.i64) (i:=0) rfl P4 P2
  have q1:=hva.idx1 (k:=.i64) (i:=1) rfl P4 P2
  have d0:=hva.int (View.le_refl V) (i:=0) P2
  have d1:=hva.int (View.le_refl V) (i:=1) P2
  repeat' (first
    | refine gB ?_ ?_
    | (refine bj λy hy=>?_
       simp[hm,hg,i1,i3,q0,q1,d0,d1,e1]
       first
       | refine aw (z:=.agg #[Pp Pq 0,Pp Pq 0,Pp Pq 0,Pp Pq 0,Pp Pq 0,Pp Pq 0,Pp Ps 0,Pv Pu 0 0]) (places:=[(0,1),(1,1),(2,1),(3,1),(4,1),(5,1),(6,1),(7,1)]) (vs:=[(0,Pp Pq m),(1,Pp Pq s.i.dst),(3,Pp Pq (nth s.i.args 0)),(6,Pp Ps (IntKind.i32.wrap (sign*k)))]) (cs:=#[Pp Pq m,Pp Pq s.i.dst,Pp Pq 0,Pp Pq (nth s.i.args 0),Pp Pq 0,Pp Pq 0,Pp Ps (IntKind.i32.wrap (sign*k)),Pv Pu 0 0]) P1 P1 Sa P1 ?_
       | (refine c.kq (α:=Int) (n:=1) (vs:=[Pp Pq (nth s.i.args 0)]) (ds:=[nth s.i.args 0]) El.aP ?_ ⟨bD.2 ⟨rfl,a0⟩,trivial⟩ rfl P4 P4 λuA h W hW c huA hle=>?_
          · simp;done)
       | (refine c.kq (α:=Int) (n:=1) (vs:=[Pp Pq (nth s.i.args 1)]) (ds:=[nth s.i.args 1]) El.aP ?_ ⟨bD.2 ⟨rfl,a1⟩,trivial⟩ rfl P4 P4 λuB h W hW c huB hle=>?_
          · simp;done)
       | refine c.cj (k:=(0,1)) (n:=7) (z:=.agg fitZ.toArray) Ri P1 rfl P4 P8 λR2 h hle c=>?_
       | (refine af P1 (jH c.wle (hmm _) (huA.mono Pk) (huB.mono Pk)) ?_
          rintro _ h ⟨hle,vf,rfl,hvf⟩
          have hW:=c.up (h':=h)
          have c:=c.ext hle)
       | refine c.bo (k:=(0,1)) (n:=7) (l:=fitZ) Ri (hvf.mono Pk) rfl rfl P1 rfl rfl λh l9 hl9 c=>?_
       try refine⟨Pn Pk c.wle,?_⟩
       subst hy))
  all_goals
    simp
    rw[hz]
    subst hl9
    have hall:=c.all (k:=(0,1)) (n:=7) (l:=l9) (B:=R2) (e:=T.aQ) Ri
    simp at hall
    simp[hall]
    refine c.bo (k:=(0,0)) (n:=7) (l:=fitZ) Ri (hvf.mono Pk) rfl rfl P1 rfl rfl λh9 l9' hl9' c9=>?_
    have hall:=c9.all (k:=(0,0)) (n:=7) (l:=l9') (B:=R) (e:=T.aQ) Ri
    simp at hall
    simp[hall]
    exact fin _ _ _ _ c9 (hl9'▸hvf.mono Pk)
end
end Go.Proofs.YtnfiilgdjpdlkaaGreatDoor
namespace Go.Lft
open Go
variable {po:OP}
theorem Dg {P:Program} {ty:TypeId} {us:List (Nat × Value)} {h:Heap} {K:Value->Heap->Prop} {f:FuncId} {x:Operand} {v:Value} (hx:asg us x=v) (hk:K (.func (.func f) #[v] #[]) h):step P (.makeFunc (.func f) #[x] #[]) ty us h K:=by refine cJ (bX λw hw=>⟨_,w,?_,Same.refl _,by rw[hw];exact hk⟩);simp only[bG,execOp];simp[Instr.makeFunc,hx]
theorem Ds {P:Program} {ty:TypeId} {us:List (Nat × Value)} {h:Heap} {K:Value->Heap->Prop} {f:FuncId} {t:Nat} {ops:List Operand} {T:Array TypeId} {first caps:Array Value} (hf:asg us (.tmp t) = .func (.func f) first caps) {R:Value->Heap->Prop} (hfn:isFn P f=Px)
  (hc:az P f (first.toList++ops.map (asg us)++caps.toList).toArray h R) (hk : ∀v h',R v h'->K v h'):step P (.call ⟨.value (.tmp t),ops.toArray,T⟩) ty us h K:=by
 refine cJ (pT (R:=R) (f:=f) (args:=(first.toList++ops.map (asg us)++caps.toList).toArray) (λw _=>?_) hc hk);unfold isFn at hfn;cases hfn':P.funcs[f]? with
 | none=>simp[hfn']at hfn
 | some fn=>simp only[hfn',Ls,bne_iff_ne,ne_eq]at hfn;obtain⟨h1,h2⟩:=hfn;simp[bG,execOp,resolve,Deferred.ofValue,hf,invoke,callFunc,program,Sem.run,hfn',h1,Option.isNone];cases hb:fn.body<;>simp[hb]at h2 ⊢
end Go.Lft
namespace Go.Proofs.YtnfiilgdjpdlkaaGreatDoor
open Go Go.Lft
section
variable {W V:View} {S I R:Nat} {s:bS} {h:Heap}
theorem jG {f:an} {v op:Int} (hb:(aL f v op).2=Px):(aL f v op).1∈ed f/\(aL f v op).1.op=op/\eF f v=Px/\(aL f v op).1.dst=v/\(aL f v op).1.op≠16:=by
 unfold aL at *;cases hm:nH f v with
 | none=>rw[hm]at hb;cases hb
 | some i=>rw[hm]at hb;have hb:(decide (i.op=op)&&eF f v)=true:=hb;simp at hb;have hp:=O3 hm;simp[ix]at hp;exact⟨Nd hm,hb.1,hb.2,hp.2,hp.1⟩
set_option maxHeartbeats 4000000 in
/-- madd. -/
theorem Hw {Z:Nat} (ct:Ct V S I s) (hV:V.le (vw h)) (hok:ln s) (ha:2<=s.i.args.length) (hz0:ak V ⟨Z,0,Pu⟩=Pt (.func (.func 101) #[] #[])) :
    az Pz 110 #[Pw (Pt ⟨S,0,Pu⟩),Pw (Pt ⟨I,0,Pu⟩),Pw (Pt ⟨Z,0,Pu⟩)] h
      (λu h'=>bI V h h' u (doS s.f s.i s.temp 22)):=by
  refine aq (args:=[Pw (Pt ⟨S,0,Pu⟩),Pw (Pt ⟨I,0,Pu⟩),Pw (Pt ⟨Z,0,Pu⟩)]) follows Tryz.func110 E.eZ Pj λK hK=>?_
  dsimp only[L.eZ,lkF,lkG]
  have c0:=Cx.start hV
  refine ab λz hz=>?_
  simp
  refine c0.cj (k:=(0,0)) (n:=7) (z:=.agg fitZ.toArray) rfl P1 rfl P4 P8 λR hb hleb cb=>?_
  subst hz
  have i1:=(ct.ins.part InsD.ig)
  have r1:=i1.rng
  have i1:ak V ⟨I,1,Pu⟩=Pt (Pp Pq s.i.dst):=by simpa using i1.int
  obtain⟨va,i3,hva⟩:=(ct.ins.part InsD.ee).sl
  have i3:ak V ⟨I,3,Pu⟩=Pt va:=by simpa using i3
  have a0:=hva.rng (i:=0) P2
  have a1:=hva.rng (i:=1) P2
  obtain⟨us,hus,rus⟩:=ct.site.ldN rfl (N:=13) rfl
  have q0:=hva.idx1 (k:=.i64) (i:=0) rfl P4 P2
  have q1:=hva.idx1 (k:=.i64) (i:=1) rfl P4 P2
  refine ab λz hz=>?_
  simp[hus _ cb.wle]
  refine Dg rfl ?_
  subst hz
  refine ab λz hz=>?_
  simp[ae cb.wle i3,q0,hva.int cb.wle (i:=0) P2]
  refine Ds (ops:=[.tmp 15,.const (Pp Pq 4)]) rfl P1 (mT (x:=nth s.i.args 0) (op:=4) cb.wle rus hok.sm a0) ?_
  rintro _ hc ⟨hle,vm,rfl,hvm⟩
  have cc:=cb.ext hle
  have hWc:=cb.up (h':=hc)
  have hdo:doS s.f s.i s.temp 22=if(aL s.f (nth s.i.args 0) 4).2 then
      Pt ⟨[nth (aL s.f (nth s.i.args 0) 4).1.args 0,nth (aL s.f (nth s.i.args 0) 4).1.args 1,nth s.i.args 1],[nth s.i.args 0],[⟨23,s.i.dst,0,nth (aL s.f (nth s.i.args 0) 4).1.args 0,nth (aL s.f (nth s.i.args 0) 4).1.args 1,nth s.i.args 1,⟨0⟩,[]⟩],dK⟩
    else none:=rfl
  have hfm:=jG (f:=s.f) (v:=nth s.i.args 0) (op:=4)
  generalize (aL s.f (nth s.i.args 0) 4).1=m at *
  generalize (aL s.f (nth s.i.args 0) 4).2=b at *
  simp
  refine cc.dD (α:=InsD) hvm (n:=5) (z:=.agg #[Pp Pq 0,Pp Pq 0,Pp Pq 0,Pv Pu 0 0,Pp Ps 0]) P1 rfl rfl P1 P5 P5 λB2 hd Wd hWd cd hat2 hle2=>?_
  subst hz
  have vw1:V.le Wd:=Pn hWc hWd
  refine ab λz hz=>?_
  cases b with
  | false=>
    simp[ae (Pn vw1 cd.wle) hz0]
    refine bH (ops:=[]) rfl P1 (Cq cd.wle) ?_
    rintro _ he ⟨hle3,vf,x,rfl,hvf,-⟩
    have ce:=cd.ext hle3
    simp
    refine ce.bo (k:=(0,0)) (n:=7) (l:=fitZ) Ri hvf rfl rfl P1 rfl rfl λh9 l9 hl9 c9=>?_
    simp[c9.all (k:=(0,0)) Own.aj]
    exact hK _ _ (bI.of c9 (hl9▸hvf) (by rw[hdo];rfl) λy e=>by rw[hdo]at e;cases e)
  | true=>
    obtain⟨m1,m2,-⟩:=hfm rfl
    have hma:=(hok.all _ m1).two P2
    have r2:=hok.all _ m1
    obtain⟨vb,j3,hvb⟩:=(hat2.part InsD.ee).sl
    have j3:ak Wd ⟨B2,3,Pu⟩=Pt vb:=by simpa using j3
    have b0:=hvb.rng (i:=0) P2
    have b1:=hvb.rng (i:=1) P2
    simp
    subst hz
    refine ab λz hz=>?_
    refine aR Wd cd.wle ?_
    have hmm : ∀X,Rd X (.agg #[Pp Pq 23,Pp Pq s.i.dst,Pp Pq 0,Pp Pq (nth m.args 0),Pp Pq (nth m.args 1),Pp Pq (nth s.i.args 1),Pp Ps 0,Pv Pu 0 0]) (⟨23,s.i.dst,0,nth m.args 0,nth m.args 1,nth s.i.args 1,⟨0⟩,[]⟩:aY):=λX=>gV (imm:=⟨0⟩) P9 Sa aJ
    have fin : ∀(W:View) (hx:Heap) (o:Own) (l9:List Value),Cx V h W hx o->Rd W (.agg l9.toArray) (⟨[nth m.args 0,nth m.args 1,nth s.i.args 1],[nth s.i.args 0],[⟨23,s.i.dst,0,nth m.args 0,nth m.args 1,nth s.i.args 1,⟨0⟩,[]⟩],dK⟩:FitD)->K (.tuple #[.agg l9.toArray,.bool Px]) hx:=λW hx o l9 c hr=>
      hK _ _ (bI.of c hr (by rw[hdo];rfl) λy e=>by rw[hdo]at e;cases e;rfl)
    have c:=cd
    have i1:=ae vw1 i1
    have i3:=ae vw1 i3
    have q2:=hvb.idx1 (k:=.i64) (i:=0) rfl P4 P2
    have q3:=hvb.idx1 (k:=.i64) (i:=1) rfl P4 P2
    have d0:=hva.int vw1 (i:=0) P2
    have d1:=hva.int vw1 (i:=1) P2
    have d2:=hvb.int (View.le_refl Wd) (i:=0) P2
    have d3:=hvb.int (View.le_refl Wd) (i:=1) P2
    repeat' (first
      | refine gB ?_ ?_
      | (refine bj λy hy=>?_
         simp[i1,i3,j3,q0,q1,q2,q3,d0,d1,d2,d3]
         first
         | refine aw (z:=.agg #[Pp Pq 0,Pp Pq 0,Pp Pq 0,Pp Pq 0,Pp Pq 0,Pp Pq 0,Pp Ps 0,Pv Pu 0 0]) (places:=[(0,1),(1,1),(2,1),(3,1),(4,1),(5,1),(6,1),(7,1)]) (vs:=[(0,Pp Pq 23),(1,Pp Pq s.i.dst),(3,Pp Pq (nth m.args 0)),(4,Pp Pq (nth m.args 1)),(5,Pp Pq (nth s.i.args 1))]) (cs:=#[Pp Pq 23,Pp Pq s.i.dst,Pp Pq 0,Pp Pq (nth m.args 0),Pp Pq (nth m.args 1),Pp Pq (nth s.i.args 1),Pp Ps 0,Pv Pu 0 0]) P1 P1 Sa P1 ?_
         | (refine c.kq (α:=Int) (n:=3) (vs:=[Pp Pq (nth m.args 0),Pp Pq (nth m.args 1),Pp Pq (nth s.i.args 1)]) (ds:=[nth m.args 0,nth m.args 1,nth s.i.args 1]) El.aP ?_ ⟨bD.2 ⟨rfl,b0⟩,bD.2 ⟨rfl,b1⟩,bD.2 ⟨rfl,a1⟩,trivial⟩ rfl P4 P4 λuA h W hW c huA hle=>?_
            · simp;done)
         | (refine c.kq (α:=Int) (n:=1) (vs:=[Pp Pq (nth s.i.args 0)]) (ds:=[nth s.i.args 0]) El.aP ?_ ⟨bD.2 ⟨rfl,a0⟩,trivial⟩ rfl P4 P4 λuB h W hW c huB hle=>?_
            · simp;done)
         | (refine af P1 (jH c.wle (hmm _) (huA.mono Pk) (huB.mono Pk)) ?_
            rintro _ h ⟨hle,vf,rfl,hvf⟩
            have hW:=c.up (h':=h)
            have c:=c.ext hle)
         | refine c.bo (k:=(0,0)) (n:=7) (l:=fitZ) Ri (hvf.mono Pk) rfl rfl P1 rfl rfl λh l9 hl9 c=>?_
         try refine⟨Pn Pk c.wle,?_⟩
         subst hy))
    all_goals
      simp
      rw[hz]
      have hall:=c.all (k:=(0,0)) (n:=7) (l:=l9) (B:=R) (e:=T.aQ) Ri
      simp at hall
      simp[hall]
      exact fin _ _ _ _ c (hl9▸hvf.mono Pk)
end
end Go.Proofs.YtnfiilgdjpdlkaaGreatDoor
namespace Go.Proofs.YtnfiilgdjpdlkaaGreatDoor
open Go Go.Lft
structure Pm (f:an) (i:InsD) (temp:Int) (W:View) (h:Heap) (r:Nat) (n:Int->Bool):Prop where
 wle:W.le (vw h)
 av:W r=Pu
 ex : ∃g:Int->Option Value,dk (.int .i64) h r (mapE id g)/\(∀p,(g p).isSome=n p)/\∀p v,g p=Pt v->nI W v (patS f i temp p)
section
variable {f:an} {i:InsD} {temp:Int} {W:View} {h h':Heap} {r S I O Z:Nat} {n:Int->Bool}
theorem Pm.ext (m:Pm f i temp W h r n) (hle:(vw h).le (vw h')):Pm f i temp (grow W h h') h' r n:=by obtain⟨g,h1,h2,h3⟩:=m.ex;exact⟨kz (Pn m.wle hle),by rw[ib h1.lt];exact m.av,g,h1.ext hle,h2,λp v hp=>(h3 p v hp).mono (bU m.wle)⟩
theorem Pm.put (m:Pm f i temp W h r n) {g:Int->Option Value} {p:Int} {v:Value} (hg:dk (.int .i64) h' r (mapE id (putM g p v))) (h2 : ∀q,(g q).isSome=n q) (h3 : ∀q u,g q=Pt u->nI W u (patS f i temp q)) (hv:nI W v (patS f i temp p)) (ho : ∀b,b≠r->h'[b]? = h[b]?) :
  Pm f i temp W h' r λq=>n q||decide (q=p):=by
 refine⟨λb o hb=>?_,m.av,_,hg,λq=>?_,λq u hq=>?_⟩
 ·show h'[b]? = _;rw[ho b (by rintro rfl;rw[m.av]at hb;cases hb)];exact m.wle b o hb
 ·unfold putM;by_cases e:q=p
  ·simp[e]
  simp[e,h2]
 unfold putM at hq;split at hq
 ·rename_i e;cases hq;rw[e];exact hv
 exact h3 q u hq
theorem Bv:nI W (.func (.func 101) #[] #[]) none:=⟨_,_,rfl,by kernel_rfl,λh V _ hV=>Cq hV⟩
structure Wn (W:View) (s:bS) (S I O Z r:Nat):Prop where
 term:ak W ⟨S,11,Pu⟩=Pt (.bool Py)
 op:ak W ⟨I,0,Pu⟩=Pt (Pp Pq s.i.op)
 out:ak W ⟨O,0,Pu⟩=Pt (.map (Pt r))
 zero:ak W ⟨Z,0,Pu⟩=Pt (.func (.func 101) #[] #[])
theorem Wn.mono {W':View} {s:bS} (w:Wn W s S I O Z r) (h:W.le W'):Wn W' s S I O Z r:=⟨ae h w.term,ae h w.op,ae h w.out,ae h w.zero⟩
theorem jg {s:bS} {op pat:Int} {v:Value} (m:Pm s.f s.i s.temp W h r n) (w:Wn W s S I O Z r) (hn:n pat=Py) (hp:1<=pat/\pat<=32) (hop:opOf pat.toNat=op) (hv:s.i.op=op->nI W v (doS s.f s.i s.temp pat.toNat)) :
  az Pz 102 #[Pp Pq op,Pp Pq pat,v,Pw (Pt ⟨S,0,Pu⟩),Pw (Pt ⟨I,0,Pu⟩),Pw (Pt ⟨O,0,Pu⟩),Pw (Pt ⟨Z,0,Pu⟩)] h
   (λ_ h'=>Pm s.f s.i s.temp W h' r (λq=>n q||decide (q=pat))/\Kept h h' (Pt r)):=by
 refine aq (args:=[Pp Pq op,Pp Pq pat,v,Pw (Pt ⟨S,0,Pu⟩),Pw (Pt ⟨I,0,Pu⟩),Pw (Pt ⟨O,0,Pu⟩),Pw (Pt ⟨Z,0,Pu⟩)]) follows Tryz.func102 E.eU Pj λK hK=>?_;dsimp only[L.eU,lkF,lkG];have wh:=w.mono m.wle;obtain⟨g,h1,h2,h3⟩:=m.ex;have hg:g pat=none:=by have:=h2 pat;rw[hn]at this;simpa using this
 by_cases c:s.i.op=op
 ·simp[wh.term,wh.op,wh.out,c];refine jB (.inl rfl) (t:=T.cn) (k:=T.int) (e:=T.ft) (u:=Pp Pq pat) U.cn U.int rfl rfl rfl eC h1 (mapE id (putM g pat v)) iF.1 iF.2 λh2' hs ho hm=>?_;exact hK _ _ ⟨m.put hm h2 h3 (by unfold patS;rw[if_pos ⟨hp.1,hp.2,by rw[hop];exact c⟩];exact hv c) ho,Kept.upd hs ho⟩
 simp[wh.term,wh.op,wh.out,c];refine CO (f:=mapE id g) (z:=.nilFunc) (k:=T.int) (e:=T.ft) (d:=.int .i64) (r:=r) (u:=Pp Pq pat) U.cn U.int P1 rfl rfl eC h1 ?_;simp[hg];refine GL (v:=.nilFunc) (ps:=#[]) (rs:=#[T.aQ,T.bool]) (vr:=false) P1 rfl rfl rfl ?_;simp[xS,wh.out,wh.zero];refine jB (.inl rfl) (t:=T.cn) (k:=T.int) (e:=T.ft) (u:=Pp Pq pat) U.cn U.int rfl rfl rfl eC h1 (mapE id (putM g pat (.func (.func 101) #[] #[]))) iF.1 iF.2 λh2' hs ho hm=>?_;exact hK _ _ ⟨m.put hm h2 h3 (by unfold patS;rw[if_neg (by rintro⟨-,-,e⟩;rw[hop]at e;exact c e)];exact Bv) ho,Kept.upd hs ho⟩
end
end Go.Proofs.YtnfiilgdjpdlkaaGreatDoor
namespace Go.Proofs.YtnfiilgdjpdlkaaGreatDoor
open Go Go.Lft
section
variable {po po2:OP} {W:View} {h h':Heap} {r S I O Z:Nat} {n:Int->Bool} {s:bS}
structure Up (W:View) (h:Heap) (W':View):Prop where
 le:W.le W'
 old:Old W h W'
theorem Up.trans {W' W'':View} (u:Up W h W') (hs:h.size<=h'.size) (u':Up W' h' W''):Up W h W'':=⟨Pn u.le u'.le,λb o hb hx=>u.old b o hb (u'.old b o P2 hx)⟩
theorem tO (hW:W.le (vw h)):Up W h (grow W h h'):=⟨bU hW,(Old.refl _ _).grow (Lp _)⟩
theorem Pm.dh {α:Type} [Rep α] {P:Program} {ty:TypeId} {us:List (Nat × Value)} {t:TypeId} {x:Operand} {v:Value} {d:α} {K:Value->Heap->Prop} (m:Pm s.f s.i s.temp W h r n) (hx:asg us x=v) (hv:Rd W v d)
  (hk : ∀B h' W',Up W h W'->Pm s.f s.i s.temp W' h' r n->At W' ⟨B,0,Pu⟩ d->Kept h h' (Pt r)->K (Pw (Pt ⟨B,0,Pu⟩)) h'):@Lft.step po P (.box t x) ty us h K:=by refine gT hx (hv.mono m.wle) λh1 hp hle hs _=>?_;exact hk _ _ _ (tO m.wle) (m.ext hle) (qo (t:=t) (fz:=(0,0)) (by rw[cR (Lp _),hp];simp) (hv.mono (bU m.wle))) (Kept.of_le hle)
theorem yp {op pat mo lo hi sign:Int} {B:Nat} (m:Pm s.f s.i s.temp W h r n) (w:Wn W s S I O Z r) (ct:Ct W S I s) (hB:ak W ⟨B,0,Pu⟩=Pt (.func (.func 102) #[] #[Pw (Pt ⟨S,0,Pu⟩),Pw (Pt ⟨I,0,Pu⟩),Pw (Pt ⟨O,0,Pu⟩),Pw (Pt ⟨Z,0,Pu⟩)]))
  (hn:n pat=Py) (hp:1<=pat/\pat<=32) (hop:opOf pat.toNat=op) (hok:ln s) (h2:2<=op/\op<=14) (hs:sign=1\/sign=-1) (hm0:0<=mo/\mo<=100) (hlo:I64 lo) (hhi:I64 hi) (hd:doS s.f s.i s.temp pat.toNat=immS s.f s.i mo lo hi sign) :
  az Pz 107 #[Pp Pq op,Pp Pq pat,Pp Pq mo,Pp Pq lo,Pp Pq hi,Pp Pq sign,Pw (Pt ⟨B,0,Pu⟩),Pw (Pt ⟨S,0,Pu⟩),Pw (Pt ⟨I,0,Pu⟩)] h
   (λ_ h'=>∃W',Up W h W'/\Pm s.f s.i s.temp W' h' r (λq=>n q||decide (q=pat))/\Kept h h' (Pt r)):=by
 refine aq (args:=[Pp Pq op,Pp Pq pat,Pp Pq mo,Pp Pq lo,Pp Pq hi,Pp Pq sign,Pw (Pt ⟨B,0,Pu⟩),Pw (Pt ⟨S,0,Pu⟩),Pw (Pt ⟨I,0,Pu⟩)]) follows Tryz.func107 E.fe Pj λK hK=>?_;dsimp only[L.fe,lkF,lkG];refine ab λz hz=>?_;simp;refine m.dh (α:=Int) (d:=mo) rfl (bD.2 ⟨rfl,by omega,by omega⟩) λB1 h1 W1 u1 m1 a1 k1=>?_;have l1:=u1.le;refine m1.dh (α:=Int) (d:=lo) rfl (bD.2 ⟨rfl,hlo⟩) λB2 h2' W2 u2 m2 a2 k2=>?_;have l2:=u2.le;refine m2.dh (α:=Int) (d:=hi) rfl (bD.2 ⟨rfl,hhi⟩) λB3 h3 W3 u3 m3 a3 k3=>?_;have l3:=u3.le;refine m3.dh (α:=Int) (d:=sign) rfl (bD.2 ⟨rfl,by omega,by omega⟩) λB4 h4 W4 u4 m4 a4 k4=>?_;have l4:=u4.le;have l14:=Pn l2 (Pn l3 l4);have l04:=Pn l1 l14;have w4:=w.mono l04;have ct4:=ct.mono l04;subst hz;simp[ae (Pn l04 m4.wle) hB];refine bH (ops:=[.tmp 16,.tmp 17,.tmp 18]) rfl P1 (jg (op:=op) (pat:=pat) (v:=.func (.func 108) #[] #[Pw (Pt ⟨S,0,Pu⟩),Pw (Pt ⟨I,0,Pu⟩),Pw (Pt ⟨B2,0,Pu⟩),Pw (Pt ⟨B3,0,Pu⟩),Pw (Pt ⟨B1,0,Pu⟩),Pw (Pt ⟨B4,0,Pu⟩)]) m4 w4 hn hp hop λho=>?_) ?_
 ·rw[hd];have ha:=hok.one.two P2;exact⟨_,_,rfl,by kernel_rfl,λh V hW hV=>Ej (ct4.mono hW) hV hok ha (ae (Pn (Pn l3 l4) hW) a2.int) (ae (Pn l4 hW) a3.int) (ae (Pn l14 hW) a1.int) (ae hW a4.int) hs hm0⟩
 rintro _ h5 ⟨m5,k5⟩;exact hK _ _ ⟨W4,u1.trans k1.size (u2.trans k2.size (u3.trans k3.size u4)),m5,k1.trans (k2.trans (k3.trans (k4.trans k5)))⟩
theorem Pm.dD {P:Program} {ty:TypeId} {us:List (Nat × Value)} {t ty2:TypeId} {k:Nat} {z:Value} {x y:Operand} {us2:Value->List (Nat × Value)} {v:Value} {K:Value->Heap->Prop} (m:Pm s.f s.i s.temp W h r n) (hz:(P.info? t).map (·.zero)=Pt (Pt z)) (hzc:z.cells.size=k) (hsz:cK P t=Pt k) (hv:v.cells.size=k) (h1 : ∀c∈v.cells.toList,c.oneCell'=Px)
  (hx : ∀p,asg (us2 p) x=p) (hy : ∀p,asg (us2 p) y=v) (hk : ∀B h' W',Up W h W'->Pm s.f s.i s.temp W' h' r n->W' B=Pt (.cells v.cells t (0,0))->Kept h h' (Pt r)->K (Pw (Pt ⟨B,0,Pu⟩)) h') :
  @Lft.step po P (.alloc t) ty us h λp h2=>@Lft.step po2 P (.store t x y) ty2 (us2 p) h2 λ_ h3=>K p h3:=
 fP hz hzc hsz hv h1 hx hy λh' hle hs hb=>hk _ _ _ (tO m.wle) (m.ext hle) (by rw[cR (Lp _)];exact hb) (Kept.of_le hle)
structure Mx (W:View) (S I O P Q L T:Nat) (s:bS) (op plain sum:Int):Prop where
 ct:Ct W S I s
 op:ak W ⟨O,0,Pu⟩=Pt (Pp Pq op)
 plain:ak W ⟨P,0,Pu⟩=Pt (Pp Pq plain)
 sum:ak W ⟨Q,0,Pu⟩=Pt (Pp Pq sum)
 laid:ak W ⟨L,0,Pu⟩=Pt (.func (.func 130) #[] #[Pw (Pt ⟨O,0,Pu⟩),Pw (Pt ⟨I,0,Pu⟩),Pw (Pt ⟨P,0,Pu⟩)])
 with_:ak W ⟨T,0,Pu⟩=Pt (.func (.func 131) #[] #[Pw (Pt ⟨I,0,Pu⟩)])
theorem Mx.mono {W':View} {P Q L T:Nat} {op plain sum:Int} (m:Mx W S I O P Q L T s op plain sum) (h:W.le W'):Mx W' S I O P Q L T s op plain sum:=
 ⟨m.ct.mono h,ae h m.op,ae h m.plain,ae h m.sum,ae h m.laid,ae h m.with_⟩
abbrev ptr (B:Nat):Value:=Pw (Pt ⟨B,0,Pu⟩)
def lA:Prop:=∀(V:View) (h:Heap) (s:bS) (S I O P Q L T:Nat) (op plain sum:Int),Mx V S I O P Q L T s op plain sum->V.le (vw h)->ln s->s.i.op=op->(op=15\/op=16)->plain≠sum->(0<=plain/\plain<=100)->(0<=sum/\sum<=100)->-9223372036854775808<=s.temp/\s.temp<=9223372036854775807->
 az Pz 132 #[ptr L,ptr P,ptr I,ptr T] h (λu h'=>bI V h h' u (memS s.f s.i s.temp op plain sum 0))/\
 az Pz 133 #[ptr S,ptr I,ptr L,ptr P,ptr T] h (λu h'=>bI V h h' u (memS s.f s.i s.temp op plain sum 1))/\
 az Pz 134 #[ptr S,ptr I,ptr L,ptr Q,ptr T] h (λu h'=>bI V h h' u (memS s.f s.i s.temp op plain sum 2))/\
 az Pz 135 #[ptr S,ptr I,ptr T,ptr L,ptr Q] h (λu h'=>bI V h h' u (memS s.f s.i s.temp op plain sum 3))
theorem cell_of {B:Nat} {v:Value} {t:TypeId} (h:W B=Pt (.cells v.cells t (0,0))) (h1:v.cells = #[v]):ak W ⟨B,0,Pu⟩=Pt v:=by simp[ak,h,h1]
theorem xf {op pat plain sum:Int} {vs:Value} (m:Pm s.f s.i s.temp W h r n) (w:Wn W s S I O Z r) (hvs:Rd W vs s)
  (hn : ∀k,0<=k->k<4->n (pat+k)=Py) (hp:1<=pat/\pat<=28) (hop : ∀k:Int,0<=k->k<4->opOf (pat+k).toNat=op) (hok:ln s) (h2:op=15\/op=16) (hne:plain≠sum) (hpl:0<=plain/\plain<=100) (hsu:0<=sum/\sum<=100)
  (hM:s.i.op=op->lA) (hd : ∀k:Nat,k<4->doS s.f s.i s.temp (pat+k).toNat=memS s.f s.i s.temp op plain sum k) :
  az Pz 111 #[vs,.func (.func 102) #[] #[ptr S,ptr I,ptr O,ptr Z],Pp Pq pat,Pp Pq op,Pp Pq plain,Pp Pq sum] h
   (λ_ h'=>∃W',Up W h W'/\Pm s.f s.i s.temp W' h' r (λq=>n q||decide (pat<=q/\q<pat+4))/\Kept h h' (Pt r)):=by
 refine aq (args:=[vs,.func (.func 102) #[] #[ptr S,ptr I,ptr O,ptr Z],Pp Pq pat,Pp Pq op,Pp Pq plain,Pp Pq sum]) follows Tryz.func111 E.gR Pj λK hK=>?_;dsimp only[L.gR,lkF,lkG];refine ab λz hz=>?_;simp;refine m.dh (d:=s) rfl hvs λB1 h1 W1 u1 m1 a1 k1=>?_;have l1:=u1.le;refine m1.dh (α:=Int) (d:=op) rfl (bD.2 ⟨rfl,by omega,by omega⟩) λB2 h2' W2 u2 m2 a2 k2=>?_;have l2:=u2.le;refine m2.dh (α:=Int) (d:=plain) rfl (bD.2 ⟨rfl,by omega,by omega⟩) λB3 h3 W3 u3 m3 a3 k3=>?_;have l3:=u3.le;refine m3.dh (α:=Int) (d:=sum) rfl (bD.2 ⟨rfl,by omega,by omega⟩) λB4 h4 W4 u4 m4 a4 k4=>?_;have l4:=u4.le;subst hz;refine ab λz hz=>?_;have l24:=Pn l3 l4;have l14:=Pn l2 l24;obtain⟨ui,hui,rui⟩:=(a1.part bS.KM).ldN rfl (N:=5) rfl;have hui:=hui _ (Pn l14 m4.wle);have hui:Un.ev (vw h4) (.bO 5) (Pw (Pt ⟨B1,2,Pu⟩))=Pt ui:=by simpa using hui
 obtain⟨c1,c2,c3⟩:=fq rui;simp[hui];refine m4.dD (k:=5) (z:=.agg #[Pp Pq 0,Pp Pq 0,Pp Pq 0,Pv Pu 0 0,Pp Ps 0]) P1 rfl P1 c2 c3 P5 P5 λB5 h5 W5 u5 m5 b5 k5=>?_;have l5:=u5.le;have a5:At W5 ⟨B5,0,Pu⟩ s.i:=qo b5 (rui.mono (Pn l14 l5));subst hz;refine ab λz hz=>?_;simp;refine m5.dD (k:=1) (z:=.nilFunc) (v:=.func (.func 130) #[] #[ptr B2,ptr B5,ptr B3]) P1 rfl P1 rfl P8 P5 P5 λB6 h6 W6 u6 m6 b6 k6=>?_;have l6:=u6.le;subst hz;refine ab λz hz=>?_;simp;refine m6.dD (k:=1) (z:=.nilFunc) (v:=.func (.func 131) #[] #[ptr B5]) P1 rfl P1 rfl P8 P5 P5 λB7 h7 W7 u7 m7 b7 k7=>?_;have l7:=u7.le;have l57:=Pn l6 l7;have l47:=Pn l5 l57;have l17:=Pn l14 l47;have mx:Mx W7 B1 B5 B2 B3 B4 B6 B7 s op plain sum:=⟨⟨a1.mono l17,a5.mono l57⟩,ae (Pn l24 l47) a2.int,ae (Pn l4 l47) a3.int,ae l47 a4.int,ae l7 (cell_of b6 rfl),cell_of b7 rfl⟩;have w7:=w.mono (Pn l1 l17);have tr:-9223372036854775808<=s.temp/\s.temp<=9223372036854775807:=(a1.part bS.AF).rng;have hn0:=hn 0 P2 P2;have fits:s.i.op=op->nI W7 (.func (.func 132) #[] #[ptr B6,ptr B3,ptr B5,ptr B7]) (memS s.f s.i s.temp op plain sum 0)/\nI W7 (.func (.func 133) #[] #[ptr B1,ptr B5,ptr B6,ptr B3,ptr B7]) (memS s.f s.i s.temp op plain sum 1)/\
   nI W7 (.func (.func 134) #[] #[ptr B1,ptr B5,ptr B6,ptr B4,ptr B7]) (memS s.f s.i s.temp op plain sum 2)/\nI W7 (.func (.func 135) #[] #[ptr B1,ptr B5,ptr B7,ptr B6,ptr B4]) (memS s.f s.i s.temp op plain sum 3):=λho=>
  ⟨⟨_,_,rfl,by kernel_rfl,λh V hW hV=>(hM ho V h s _ _ _ _ _ _ _ op plain sum (mx.mono hW) hV hok ho h2 hne hpl hsu tr).1⟩,⟨_,_,rfl,by kernel_rfl,λh V hW hV=>(hM ho V h s _ _ _ _ _ _ _ op plain sum (mx.mono hW) hV hok ho h2 hne hpl hsu tr).2.1⟩,
   ⟨_,_,rfl,by kernel_rfl,λh V hW hV=>(hM ho V h s _ _ _ _ _ _ _ op plain sum (mx.mono hW) hV hok ho h2 hne hpl hsu tr).2.2.1⟩,⟨_,_,rfl,by kernel_rfl,λh V hW hV=>(hM ho V h s _ _ _ _ _ _ _ op plain sum (mx.mono hW) hV hok ho h2 hne hpl hsu tr).2.2.2⟩⟩;subst hz;refine ab λz hz=>?_;simp[ae m7.wle mx.op];refine bH (ops:=[.tmp 20,.tmp 21,.tmp 22]) rfl P1 (jg (op:=op) (pat:=pat) m7 w7 (by simpa using hn0) P2 (by simpa using hop 0 P2 P2) λho=>by have:=hd 0 P2;simp at this;rw[this];exact(fits ho).1) ?_;rintro _ h8 ⟨m8,k8⟩;subst hz;refine ab λz hz=>?_;have e1:IntKind.i64.wrap (pat+1)=pat+1:=bw P2 P2;simp[ae m8.wle mx.op,e1];refine bH (ops:=[.tmp 25,.tmp 27,.tmp 28]) rfl P1 (jg (op:=op) (pat:=pat+1) m8 w7 (by have:=hn 1 P2 P2;simp[this]<;>omega) P2 (hop 1 P2 P2) λho=>by have:=hd 1 P2;simp at this;rw[this];exact(fits ho).2.1) ?_;rintro _ h9 ⟨m9,k9⟩;subst hz;refine ab λz hz=>?_;have e1:IntKind.i64.wrap (pat+2)=pat+2:=bw P2 P2;simp[ae m9.wle mx.op,e1];refine bH (ops:=[.tmp 31,.tmp 33,.tmp 34]) rfl P1 (jg (op:=op) (pat:=pat+2) m9 w7 (by have:=hn 2 P2 P2;simp[this]<;>omega) P2 (hop 2 P2 P2) λho=>by have:=hd 2 P2;simp at this;rw[this];exact(fits ho).2.2.1) ?_;rintro _ h10 ⟨m10,k10⟩;subst hz;have e1:IntKind.i64.wrap (pat+3)=pat+3:=bw P2 P2;simp[ae m10.wle mx.op,e1];refine bH (ops:=[.tmp 37,.tmp 39,.tmp 40]) rfl P1 (jg (op:=op) (pat:=pat+3) m10 w7 (by have:=hn 3 P2 P2;simp[this]<;>omega) P2 (hop 3 P2 P2) λho=>by have:=hd 3 P2;simp at this;rw[this];exact(fits ho).2.2.2) ?_;rintro _ h11 ⟨m11,k11⟩;refine hK _ _ ⟨W7,u1.trans k1.size (u2.trans k2.size (u3.trans k3.size (u4.trans k4.size (u5.trans k5.size (u6.trans k6.size u7))))),?_,k1.trans (k2.trans (k3.trans (k4.trans (k5.trans (k6.trans (k7.trans (k8.trans (k9.trans (k10.trans k11)))))))))⟩
 have e:(λq=>n q||decide (pat<=q/\q<pat+4))=λq=>(((n q||decide (q=pat))||decide (q=pat+1))||decide (q=pat+2))||decide (q=pat+3):=by
  funext q;cases n q with
  | true=>simp
  | false=>rw[LS];simp;omega
 rw[e];exact m11
end
end Go.Proofs.YtnfiilgdjpdlkaaGreatDoor
namespace Go.Proofs.YtnfiilgdjpdlkaaGreatDoor
open Go Go.Lft
section
variable {W V:View} {h h':Heap} {r S I O Z:Nat} {n:Int->Bool} {s:bS}
def nTo (m:Int):Int->Bool:=λq=>decide (1<=q/\q<=m)
theorem Pm.to{a b:Int}(m:Pm s.f s.i s.temp W h r (λq=>nTo a q||decide (q=b)))(hb:b=a+1)(ha:0<=a):Pm s.f s.i s.temp W h r (nTo b):=by
 have e:(λq=>nTo a q||decide (q=b))=nTo b:=by funext q;unfold nTo;rw[LS];simp;omega
 rw[<-e];exact m
theorem Pm.to4{a b:Int}(m:Pm s.f s.i s.temp W h r (λq=>nTo a q||decide (b<=q/\q<b+4)))(hb:b=a+1)(ha:0<=a):Pm s.f s.i s.temp W h r (nTo (a+4)):=by
 have e:(λq=>nTo a q||decide (b<=q/\q<b+4))=nTo (a+4):=by funext q;unfold nTo;rw[LS];simp;omega
 rw[<-e];exact m
theorem Ha{f:an}{i:InsD}{temp:Int}{p:Nat}(h:3<=p/\p<=15):doS f i temp p=Pt ⟨i.args,[],[⟨p+2,i.dst,0,nth i.args 0,nth i.args 1,0,⟨0⟩,[]⟩],dK⟩:=by unfold doS;rw[if_neg P2,if_neg P2,if_pos P2]
theorem z7{vs:Value}{W0:View}(hW:W0.le (vw h))(hvs:Rd W0 vs s)(hok:ln s)(hterm:s.term=Py)(hM:s.i.op=15\/s.i.op=16->lA):
  az Pz 64 #[vs] h (λu h'=>∃r W',u = .map (Pt r)/\Up W0 h W'/\Pm s.f s.i s.temp W' h' r (nTo 32)/\(vw h).le (vw h')):=by
 refine aq (args:=[vs]) follows Tryz.func64 E.aS Pj λK hK=>?_;dsimp only[L.aS,lkF,lkG];have c0:=Cx.start hW;refine ab λz hz=>?_;simp;refine c0.dh rfl hvs λS h1 W1 hW1 c1 at1 hle1=>?_;subst hz;refine ab λz hz=>?_;obtain⟨ui,hui,rui⟩:=(at1.part bS.KM).ldN rfl (N:=5) rfl;have hui:Un.ev (vw h1) (.bO 5) (Pw (Pt ⟨S,2,Pu⟩))=Pt ui:=by simpa using hui _ c1.wle
 simp[hui];refine c1.dD (α:=InsD) rui (n:=5) (z:=.agg #[Pp Pq 0,Pp Pq 0,Pp Pq 0,Pv Pu 0 0,Pp Ps 0]) P1 rfl rfl P1 P5 P5 λI h2 W2 hW2 c2 at2 hle2=>?_;subst hz;refine ab λz hz=>?_;simp;refine fP (n:=1) (z:=.nilFunc) (v:=.func (.func 101) #[] #[]) P1 rfl P1 rfl P8 P5 P5 λh3 hle3 hs3 hb3=>?_;have c3:=c2.ext hle3;have hW3:=c2.up (h':=h3);have z3:ak (grow W2 h2 h3) ⟨h2.size,0,Pu⟩=Pt (.func (.func 101) #[] #[]):=cell_of (by rw[cR (Lp _)];exact hb3) rfl;generalize grow W2 h2 h3=W3 at *;generalize h2.size=Z at z3;subst hz;refine ab λz hz=>?_;simp;refine kP ?_;have m3:dk (.int .i64) (h3.push (.map #[] 0)) h3.size (mapE id λ_=>Pu):=by rw[oU];exact dk.none Sa
 have q3:=bN h3 (.map #[] 0);have av3:W3 h3.size=none:=View.cr c3.wle (Lp _);have k3:Kept h3 (h3.push (.map #[] 0)) none:=Kept.push ..;have hsz:h3.size<(h3.push (.map #[] 0)).size:=by simp
 generalize h3.push (.map #[] 0)=h4 at *;obtain⟨r,hr⟩ : ∃r,r=h3.size:=⟨_,rfl⟩;rw[<-hr]at m3 av3 ⊢;have p4:Pm s.f s.i s.temp W3 h4 r (nTo 0):=⟨Pn c3.wle q3,av3,_,m3,λp=>by unfold nTo;simp;omega,λp v hp=>by cases hp⟩;have u03:Up W0 h W3:=⟨Pn hW1 (Pn hW2 hW3),c3.old⟩;have le04:(vw h).le (vw h4):=Pn c3.le0 q3;have hrs:h.size<=r:=by rw[hr];exact bY c3.le0
 refine p4.dD (k:=1) (z:=.map Pu) (v:=.map (Pt r)) P1 rfl P1 rfl P8 P5 P5 λO h5 W5 u5 p5 b5 k5=>?_;subst hz;refine ab λz hz=>?_;simp;refine p5.dD (k:=1) (z:=.nilFunc) (v:=.func (.func 102) #[] #[ptr S,ptr I,ptr O,ptr Z]) P1 rfl P1 rfl P8 P5 P5 λB h6 W6 u6 p6 b6 k6=>?_;have l16:W1.le W6:=Pn hW2 (Pn hW3 (Pn u5.le u6.le));have l26:W2.le W6:=Pn hW3 (Pn u5.le u6.le);have ct:Ct W6 S I s:=⟨at1.mono l16,at2.mono l26⟩;have w6:Wn W6 s S I O Z r:=⟨by have:=(ct.site.part bS.nA).bool;rw[hterm]at this;simpa using this,by simpa using(ct.ins.part InsD.vz).int,cell_of (u6.le _ _ b5) rfl,ae (Pn u5.le u6.le) z3⟩;have hB:ak W6 ⟨B,0,Pu⟩=Pt (.func (.func 102) #[] #[ptr S,ptr I,ptr O,ptr Z]):=cell_of b6 rfl;have s06:h.size<=h4.size:=bY le04;have u06:Up W0 h W6:=u03.trans s06 (u5.trans k5.size u6);have k46:=k5.trans k6;generalize W6=Wa at *;generalize h6=ha at *;clear b5 b6 k5 k6 u5 u6 p5 l16 l26 z3 hui at1 at2 c1 c2 c3;subst hz;refine ab λz hz=>?_;have hb:=ae p6.wle hB;simp[hb];refine bH (ops:=[.const (Pp Pq 1),.const (Pp Pq 1),.tmp 16]) rfl P1 (jg (op:=1) (pat:=1) p6 w6 Ri P2 Ri λho=>⟨_,_,rfl,by kernel_rfl,λh V hW hV=>Gm (ct.mono hW) hV⟩) ?_;rintro _ hc1 ⟨p7,k7⟩;have p7:=p7.to (a:=0) Ri P2;subst hz;refine ab λz hz=>?_;have hb:=ae p7.wle hB;simp[hb];refine bH (ops:=[.const (Pp Pq 1),.const (Pp Pq 2),.tmp 19]) rfl P1 (jg (op:=1) (pat:=2) p7 w6 Ri P2 Ri λho=>⟨_,_,rfl,by kernel_rfl,λh V hW hV=>G2 (ct.mono hW) hV⟩) ?_;rintro _ hc2 ⟨p8,k8⟩;have p8:=p8.to (a:=1) Ri P2;have k48:=k46.trans (k7.trans k8);subst hz;refine ab λz hz=>?_;refine ab λy hy=>?_;simp;refine p8.dD (k:=1) (z:=Pp Pq 0) (v:=Pp Pq 2) P1 rfl P1 rfl P8 P5 P5 λP0 h9 W9 u9 p9 b9 k9=>?_;have c9:ak W9 ⟨P0,0,Pu⟩=Pt (Pp Pq ((2:Int)+(0:Nat))):=cell_of b9 rfl;have k49:=k48.trans k9;have u09:Up W0 h W9:=u06.trans (LN s06 k48.size) u9;have l9:=u9.le;subst hy;simp only[aI];refine jq [0,1,2,3,4,5,6,7] (λm ρ hx=>∃(k:Nat) (W:View) (P:Nat),k<=13/\m=13-k/\ρ=[(0,vs),(1,ptr S),(2,.map Pu),(3,ptr I),(4,ptr Z),(5,ptr O),(6,ptr B),(7,ptr P)]/\Wa.le W/\Up W0 h W/\Pm s.f s.i s.temp W hx r (nTo (2+k))/\ak W ⟨P,0,Pu⟩=Pt (Pp Pq ((2:Int)+k))/\Kept h4 hx (Pt r)) 13
  ⟨0,W9,P0,by omega,rfl,rfl,l9,u09,by simpa using p9,c9,k49⟩ ?_;clear hb k7 k8 k9 p6 p7 p8 p9 b9 c9 k46 k48 k49 u9 u09 l9;rintro m ρ hx ⟨k,W,P,hk,rfl,rfl,lW,uW,pW,cP,kW⟩ K2 hK2;have cPx:=ae pW.wle cP;have hb:=ae (Pn lW pW.wle) hB;dsimp only[L.aS.l1,lkF,lkG];refine ab λx hx2=>?_;by_cases c:k<13
 ·have e14:(2:Int)+k<=14:=by omega
  simp[cPx,e14];rw[hx2];clear hx2 x;refine ab λx hx2=>?_;have e1:(3:Int)+(2+k)-2=3+k:=by omega
  simp(disch:=omega)[cPx,hb,e1];refine bH (ops:=[.tmp 26,.tmp 29,.tmp 30]) rfl P1 (jg (op:=2+k) (pat:=3+k) pW (w6.mono lW) (by unfold nTo;simp<;>omega) P2 (by unfold opOf;rw[if_neg P2,if_pos P2];try omega) λho=>?_) ?_
  ·rw[Ha P2];have e:((3+(k:Int)).toNat:Int)+2=(2+(k:Int))+3:=by omega
   rw[e];exact⟨_,_,rfl,by kernel_rfl,λh V hW hV=>Gu ((ct.mono lW).mono hW) hV (ae hW cP) P2 ⟨hok.one.two P2,hok.one.most⟩⟩
  rintro _ hy1 ⟨pX,kX⟩;have pX:=pX.to (a:=2+k) P2 P2;rw[hx2];clear hx2 x;simp[ae pX.wle cP];refine fP (n:=1) (z:=Pp Pq 0) (v:=Pp Pq (2+k)) P1 rfl P1 rfl P8 P5 P5 λhy2 hle2 hs2 hb2=>?_;have cN:ak (vw hy2) ⟨hy1.size,0,Pu⟩=Pt (Pp Pq (2+k)):=cell_of hb2 rfl;simp(disch:=omega)[cN];refine dY (g:=hy1.size) (o:=0) (n:=1) (v:=Pp Pq (2+k+1)) (cur:=(Pp Pq (2+k)).cells) (e:=T.int) P1 rfl rfl rfl P8 hb2 (by simp[Value.cells]) λhy3 hs3 ⟨row,hr3,he3⟩ ho3=>?_;have hrow:row = #[Pp Pq (2+k+1)]:=by rw[<-Array.toList_inj,he3];simp[Value.cells]
  rw[hrow]at hr3;have le13:(vw hy1).le (vw hy3):=λb o hb=>by have hlt:=View.lt (View.le_refl (vw hy1)) hb;show hy3[b]? = _;rw[ho3 b P2];exact hle2 b o hb
  have cN3:ak (grow W hy1 hy3) ⟨hy1.size,0,Pu⟩=Pt (Pp Pq ((2:Int)+(k+1:Nat))):=by rw[show((2:Int)+(k+1:Nat))=2+k+1 by omega];simp[ak,cR (Lp _),hr3]
  have uX:=tO (h':=hy3) pX.wle;have eN:(2:Int)+((k+1:Nat):Int)=3+k:=by omega
  refine hK2 (13-(k+1)) _ _ P2 ⟨k+1,_,hy1.size,by omega,rfl,rfl,Pn lW uX.le,uW.trans (LN s06 (kW.trans kX).size) uX,?_,cN3,kW.trans (kX.trans (Kept.of_le le13))⟩;rw[eN];exact pX.ext le13
 have e13:k=13:=by omega
 subst e13;simp[cPx];clear hK2 cPx cP hx2 x;subst hz;refine ab λz hz=>?_;simp;subst hz;refine ab λz hz=>?_;simp;have ctW:=ct.mono lW;have wW:=w6.mono lW;have hBW:=ae lW hB;refine bH (ops:=[.const (Pp Pq 2),.const (Pp Pq 16),.const (Pp Pq 18),.const (Pp Pq (-128)),.const (Pp Pq 127),.const (Pp Pq 1)]) rfl P1 (yp (op:=2) (pat:=16) (mo:=18) (lo:=-128) (hi:=127) (sign:=1) pW wW ctW hBW Ri P2 Ri hok P2 (.inl rfl) P2 (by constructor<;>decide) (by constructor<;>decide) rfl) ?_;rintro _ i1 ⟨V1,v1,p1,k1⟩;have p1:=p1.to (a:=15) Ri P2;subst hz;refine ab λz hz=>?_;simp;refine bH (ops:=[.const (Pp Pq 3),.const (Pp Pq 17),.const (Pp Pq 18),.const (Pp Pq (-127)),.const (Pp Pq 128),.const (Pp Pq (-1))]) rfl P1 (yp (op:=3) (pat:=17) (mo:=18) (lo:=-127) (hi:=128) (sign:=-1) p1 (wW.mono v1.le) (ctW.mono v1.le) (ae v1.le hBW) Ri P2 Ri hok P2 (.inr rfl) P2 (by constructor<;>decide) (by constructor<;>decide) rfl) ?_;rintro _ i2 ⟨V2,v2,p2,k2⟩;have v12:=Pn v1.le v2.le;have p2:=p2.to (a:=16) Ri P2;subst hz;refine ab λz hz=>?_;simp;refine bH (ops:=[.const (Pp Pq 5),.const (Pp Pq 18),.const (Pp Pq 19),.const (Pp Pq (-128)),.const (Pp Pq 127),.const (Pp Pq 1)]) rfl P1 (yp (op:=5) (pat:=18) (mo:=19) (lo:=-128) (hi:=127) (sign:=1) p2 (wW.mono v12) (ctW.mono v12) (ae v12 hBW) Ri P2 Ri hok P2 (.inl rfl) P2 (by constructor<;>decide) (by constructor<;>decide) rfl) ?_;rintro _ i3 ⟨V3,v3,p3,k3⟩;have v13:=Pn v12 v3.le;have p3:=p3.to (a:=17) Ri P2;have uV3:Up W0 h V3:=uW.trans (LN s06 kW.size) (v1.trans k1.size (v2.trans k2.size v3));have kV3:=kW.trans (k1.trans (k2.trans k3));have lV3:=Pn lW v13;clear v1 v2 v3 v12 v13 p1 p2 k1 k2 k3 pW uW kW hBW wW ctW lW;subst hz;refine ab λz hz=>?_;refine ab λy hy=>?_;simp;refine jT (α:=Int) (n:=3) (X:=V3) (vs:=[Pp Pq 8,Pp Pq 9,Pp Pq 10]) (ds:=[8,9,10]) El.aP Sa ⟨bD.2 ⟨rfl,by decide,by decide⟩,bD.2 ⟨rfl,by decide,by decide⟩,bD.2 ⟨rfl,by decide,by decide⟩,trivial⟩ rfl P4 P4 λu40 i4 hle4 hs4 hu4 _=>?_;have hu4:=hu4 (grow V3 i3 i4) (bU p3.wle) (cR (Lp _));have p4:=p3.ext hle4;have u4:=tO (h':=i4) p3.wle;have uV4:=uV3.trans (LN s06 kV3.size) u4;have kV4:=kV3.trans (Kept.of_le hle4);have lV4:=Pn lV3 u4.le;subst hy;simp[hu4.len];refine aK [0,1,2,3,4,5,6,8,40,41,42] (fun(_:Unit) j=>[vs,ptr S,.map Pu,ptr I,ptr Z,ptr O,ptr B,.func (.func 107) #[] #[ptr B,ptr S,ptr I],u40,Pp Pq 3,Pp Pq j])
  (λ_ j hx=>∃W,(grow V3 i3 i4).le W/\Up W0 h W/\Pm s.f s.i s.temp W hx r (nTo (18+j))/\Kept h4 hx (Pt r)) 3 ()
  rfl P2 rfl ⟨_,View.le_refl _,uV4,by simpa using p4,kV4⟩ (λ_ _=>rfl) (λv i h1 hk m=>by simp) ?_ ?_
 ·rintro _ j hx hj ⟨W,lW,uW,pW,kW⟩ K2 hK2;have hux:=hu4.mono (Pn lW pW.wle);refine ab λx hx2=>?_;have hj3:j<[8,9,10].length:=hj;simp(disch:=omega)[hux.idx1 rfl,hux.int Pl];have h012:j=0\/j=1\/j=2:=by omega
  have ej:nth ([8,9,10]:List Int) j=8+(j:Int):=by rcases h012 with rfl | rfl | rfl<;>rfl
  rw[ej,hx2];clear hx2 x;simp(disch:=omega);have lWa:=Pn lV4 lW;refine bH (ops:=[.tmp 48,.tmp 50,.tmp 52,.const (Pp Pq 0),.const (Pp Pq 31),.const (Pp Pq 1)]) rfl P1 (yp (op:=8+j) (pat:=19+j) (mo:=20+j) (lo:=0) (hi:=31) (sign:=1) pW (w6.mono lWa) (ct.mono lWa) (ae lWa hB) (by unfold nTo;simp<;>omega) P2 (by rcases h012 with rfl | rfl | rfl<;>rfl) hok P2 (.inl rfl) P2 (by constructor<;>decide) (by constructor<;>decide) (by rcases h012 with rfl | rfl | rfl<;>rfl)) ?_;rintro _ hx3 ⟨W3,v3,p3,k3⟩;have p3:=p3.to (a:=18+j) P2 P2;refine hK2 () _ _ rfl rfl ⟨W3,Pn lW v3.le,uW.trans (LN s06 kW.size) v3,?_,kW.trans k3⟩;rw[show(18:Int)+((j+1:Nat):Int)=19+j by omega];exact p3
 rintro _ hx ⟨W,lW,uW,pW,kW⟩;have lWa:=Pn lV4 lW;simp;subst hz;refine ab λz hz=>?_;have ctW:=ct.mono lWa;have wW:=w6.mono lWa;have hBW:=ae lWa hB;have hb:=ae pW.wle hBW;simp[hb];refine bH (ops:=[.const (Pp Pq 2),.const (Pp Pq 22),.tmp 56]) rfl P1 (jg (op:=2) (pat:=22) pW wW Ri P2 Ri λho=>⟨_,_,rfl,by kernel_rfl,λh V hW hV=>Hw (ctW.mono hW) hV hok (hok.one.two P2) (ae hW wW.zero)⟩) ?_;rintro _ i1 ⟨p1,k1⟩;have p1:=p1.to (a:=21) Ri P2;subst hz;refine ab λz hz=>?_;obtain⟨us,hus,rus⟩:=ctW.site.ldN rfl (N:=13) rfl;have hb:=ae p1.wle hBW;simp[hb,hus _ p1.wle];refine sE _ P1 Sa (xf (op:=15) (pat:=23) (plain:=24) (sum:=25) p1 wW rus (λk h0 h4=>by unfold nTo;simp<;>omega) P2 (λk h0 h4=>?_) hok (.inl rfl) P4 P2 P2 (λho=>hM (.inl ho)) (λk hk=>?_)) ?_
 ·rcases(by omega:k=0\/k=1\/k=2\/k=3)with rfl | rfl | rfl | rfl<;>rfl
 ·rcases(by omega:k=0\/k=1\/k=2\/k=3)with rfl | rfl | rfl | rfl<;>rfl
 rintro _ i2 ⟨V2,v2,p2,k2⟩;have p2:=p2.to4 (a:=22) Ri P2;subst hz;refine ab λz hz=>?_;have hb:=ae p2.wle (ae v2.le hBW);simp[hb,hus _ (Pn v2.le p2.wle)];refine sE _ P1 Sa (xf (op:=16) (pat:=27) (plain:=26) (sum:=27) p2 (wW.mono v2.le) (rus.mono v2.le) (λk h0 h4=>by unfold nTo;simp<;>omega) P2 (λk h0 h4=>?_) hok (.inr rfl) P4 P2 P2 (λho=>hM (.inr ho)) (λk hk=>?_)) ?_
 ·rcases(by omega:k=0\/k=1\/k=2\/k=3)with rfl | rfl | rfl | rfl<;>rfl
 ·rcases(by omega:k=0\/k=1\/k=2\/k=3)with rfl | rfl | rfl | rfl<;>rfl
 rintro _ i3 ⟨V3',v3,p3,k3⟩;have p3:=p3.to4 (a:=26) Ri P2;have v23:=Pn v2.le v3.le;have ct3:=ctW.mono v23;have w3:=wW.mono v23;have hb:=ae p3.wle (ae v23 hBW);subst hz;refine ab λz hz=>?_;simp[hb];refine bH (ops:=[.const (Pp Pq 17),.const (Pp Pq 31),.tmp 65]) rfl P1 (jg (op:=17) (pat:=31) p3 w3 Ri P2 Ri λho=>⟨_,_,rfl,by kernel_rfl,λh V hW hV=>Gl (ct3.mono hW) hV hok.one.most⟩) ?_;rintro _ i4' ⟨p4',k4⟩;have p4':=p4'.to (a:=30) Ri P2;subst hz;refine ab λz hz=>?_;have hb:=ae p4'.wle (ae v23 hBW);simp[hb];refine bH (ops:=[.const (Pp Pq 18),.const (Pp Pq 32),.tmp 68]) rfl P1 (jg (op:=18) (pat:=32) p4' w3 Ri P2 Ri λho=>⟨_,_,rfl,by kernel_rfl,λh V hW hV=>GM (ct3.mono hW) hV ⟨hok.one.two P2,hok.one.most⟩⟩) ?_;rintro _ i5 ⟨p5,k5⟩;have p5:=p5.to (a:=31) Ri P2;subst hz;simp[ae p5.wle w3.out];have kk:=kW.trans (k1.trans (k2.trans (k3.trans (k4.trans k5))));have sx:h.size<=hx.size:=LN s06 kW.size;refine hK _ _ ⟨r,V3',rfl,uW.trans (LN sx k1.size) (v2.trans k2.size v3),p5,?_⟩;intro b o hb;have hlt:=View.lt (View.le_refl (vw h)) hb;show i5[b]? = _;rw[kk.block b P2 P9];exact le04 b o hb
end
end Go.Proofs.YtnfiilgdjpdlkaaGreatDoor
namespace Go.Lft
open Go Go.MapKept
variable {po:OP} {pp:PP}
theorem lT {P:Program} {ty:TypeId} {us:List (Nat × Value)} {h:Heap} {K:Value->Heap->Prop} {d:TypeDesc} {r:Nat} {f:Value->Option Value} {t k e:TypeId} {x y:Operand} {u z:Value} (ht:P.underlying t=Pt (.map k e)) (hd:P.underlying k=Pt d) (hz:(P.info? e).map (·.zero)=Pt (Pt z)) (hx:asg us x = .map (Pt r)) (hy:asg us y=u) (hu:IsKey d u) (m:dk d h r f)
  (hk:K (.tuple #[(f u).getD z,.bool (f u).isSome]) h):@step po P (.lookup t x y Px) ty us h K:=by
 obtain⟨es,c,h1,h2,h3,h4⟩:=m.ex;simp only[Lq]at hz;obtain⟨i,hi,hz⟩:=hz;refine cJ (bX λw hw=>⟨_,w,?_,Same.refl _,by rw[hw];exact hk⟩);have hz':(zeroValue e).run P w = .ok z w:=by simp[zeroValue,typeInfo,hi,hz]
 rw[<-hw]at h1;simp only[bG,execOp,hx,hy];rcases findNow_spec hu es.toList 0 h2 with⟨g1,g2⟩ | ⟨j,x,g1,g2,g3⟩
 ·have hf:f u = .none:=by
   cases hfu:f u with
   | none=>rfl
   | some v=>obtain⟨x,hx,e1,_⟩:=(h4 u v hu).2 hfu;exact absurd e1 (g2 x hx)
  simp[Instr.lookup,run_underlying ht,MapKept.run_getObj_map h1,MapKept.run_checkKey hd hu,MapKept.run_findKey hd g1,Result.andThen,hf,hz']
 have hf:f u=Pt x.val:=(h4 u x.val hu).1 ⟨x,L4 g2,g3,rfl⟩;simp[Instr.lookup,run_underlying ht,MapKept.run_getObj_map h1,MapKept.run_checkKey hd hu,MapKept.run_findKey hd g1,Result.andThen,hf]
theorem mU {H:View} {α:Type} [Rep α] {v:Value} {l:List α}:Rep.rd H [v] l↔SlRd H v l:=by rw[<-dJ];unfold Rd;simp[Rep.agg]
theorem sK {H:View} {α:Type} [Rep α] {cs:List Value} {l:List α} (h:Rep.rd H cs l) : ∃v,cs=[v]:=by
 have:=Rep.len h;match cs,this with
 | [v],_=>exact⟨v,rfl⟩
theorem tj {H:View} {v:Value} {f:an} (h:Rd H v f) : ∃a m c,v = .agg #[Pp Pq f.params,.slice a m c]:=by unfold Rd at h;rw[if_pos (show Rep.agg an=Px from rfl)]at h;obtain⟨cs,rfl,c1,c2,e,h1,h2⟩:=h;rw[h1.1]at e;obtain⟨v,rfl⟩:=sK h2;obtain⟨a,c,rfl,-⟩:=mU.1 h2;exact⟨a,_,c,by congr 1;rw[<-Array.toList_inj,e];rfl⟩
theorem tU {H:View} {v:Value} {i:InsD} (h:Rd H v i) : ∃a m c,v = .agg #[Pp Pq i.op,Pp Pq i.dst,Pp Pq i.two,.slice a m c,Pp Ps i.imm.v]:=by unfold Rd at h;rw[if_pos (show Rep.agg InsD=Px from rfl)]at h;obtain⟨cs,rfl,c1,_,e,h1,c2,_,rfl,h2,c3,_,rfl,h3,c4,c5,rfl,h4,h5⟩:=h;rw[h1.1,h2.1,h3.1,h5.1]at e;obtain⟨v,rfl⟩:=sK h4;obtain⟨a,c,rfl,-⟩:=mU.1 h4;exact⟨a,_,c,by congr 1;rw[<-Array.toList_inj,e];rfl⟩
theorem zt {H:View} {v:Value} {t:cQ} (h:Rd H v t) : ∃a m c a2 m2 c2,v = .agg #[Pp Pq t.kind,.slice a m c,.slice a2 m2 c2,Pp Ps t.imm.v]:=by unfold Rd at h;rw[if_pos (show Rep.agg cQ=Px from rfl)]at h;obtain⟨cs,rfl,c1,_,e,h1,c2,_,rfl,h2,c3,c4,rfl,h3,h4⟩:=h;rw[h1.1,h4.1]at e;obtain⟨v,rfl⟩:=sK h2;obtain⟨w,rfl⟩:=sK h3;obtain⟨a,c,rfl,-⟩:=mU.1 h2;obtain⟨a2,c2,rfl,-⟩:=mU.1 h3;exact⟨a,_,c,a2,_,c2,by congr 1;rw[<-Array.toList_inj,e];rfl⟩
theorem yu {H:View} {α:Type} [Rep α] {cs:Array Value} {d:α} (ha:Rep.agg α=Px) (h:Rd H (.agg cs) d):Rep.rd H cs.toList d:=by unfold Rd at h;rw[if_pos ha]at h;obtain⟨cs',e,h⟩:=h;cases e;exact h
theorem yk {H:View} {c1 c2 c3:Array Value} {s:bS} (h1:Rd H (.agg c1) s.f) (h2:Rd H (.agg c2) s.i) (h3:Rd H (.agg c3) s.t) (h5:-9223372036854775808<=s.temp/\s.temp<=9223372036854775807) :
  Rd H (.agg (c1.toList++(c2.toList++(c3.toList++([Value.bool s.term]++[Pp Pq s.temp])))).toArray) s:=by unfold Rd;rw[if_pos (show Rep.agg bS=Px from rfl)];exact⟨_,rfl,_,_,rfl,yu rfl h1,_,_,rfl,yu rfl h2,_,_,rfl,yu rfl h3,_,_,rfl,rfl,rfl,h5⟩
end Go.Lft
namespace Go.Proofs.YtnfiilgdjpdlkaaGreatDoor
open Go Go.Lft
abbrev nN:List Value:=[Pp Pq 0,Pv Pu 0 0,Pp Pq 0,Pp Pq 0,Pp Pq 0,Pv Pu 0 0,Pp Ps 0,Pp Pq 0,Pv Pu 0 0,Pv Pu 0 0,Pp Ps 0,.bool Py,Pp Pq 0]
theorem DA {H:View}:Rd H (.agg #[Pp Pq 0,Pv Pu 0 0]) (⟨0,[]⟩:an):=by unfold Rd;rw[if_pos (show Rep.agg an=Px from rfl)];exact⟨_,rfl,[_],[_],rfl,⟨rfl,by decide,by decide⟩,mU.2 aJ⟩
theorem xD {H:View}:Rd H (.agg #[Pp Pq 0,Pv Pu 0 0,Pv Pu 0 0,Pp Ps 0]) nX:=by unfold Rd;rw[if_pos (show Rep.agg cQ=Px from rfl)];exact⟨_,rfl,[_],_,rfl,⟨rfl,by decide,by decide⟩,[_],_,rfl,mU.2 aJ,[_],[_],rfl,mU.2 aJ,rfl,by decide,by decide⟩
theorem wN {H:View}:Rd H (.agg nN.toArray) Ba:=yk (s:=Ba) DA lq xD P4
def ml (f:an) (b p temp:Int):bS:=if dm f b p then eo f b p temp else Ba
set_option maxHeartbeats 400000 in
theorem F2 {f:an} {v:Value} {b p temp:Int} {h:Heap} {W:View} (hW:W.le (vw h)) (hv:Rd W v f) (ht:I64 temp) :
  az Pz 38 #[v,Pp Pq b,Pp Pq p,Pp Pq temp] h (λu h'=>(vw h).le (vw h')/\∃vs,u = .tuple #[vs,.bool (dm f b p)]/\Rd (grow W h h') vs (ml f b p temp)):=by
 refine aq (args:=[v,Pp Pq b,Pp Pq p,Pp Pq temp]) follows Tryz.func38 E.tQ Pj λK hK=>?_;dsimp only[L.tQ,lkF,lkG];have c0:=Cx.start hW;refine ab λz hz=>?_;simp;refine c0.dh rfl hv λB h1 W1 hW1 c1 at1 hle1=>?_;refine c1.cj (k:=(0,0)) (n:=12) (z:=.agg nN.toArray) rfl P1 rfl P4 P8 λR h2 hle2 c2=>?_;subst hz;obtain⟨-,vb,hb1,hb2⟩:=jd at1;have l2:=c2.wle;have hl:=hb2.len (K:=vw h2);have hb1':=ae l2 hb1;have bd:=hb2.bound;refine ab λz hz=>?_;refine ab λy hy=>?_;refine eY (λρ h5=>h5=h2/\ρ=[(0,v),(1,Pp Pq b),(2,Pp Pq p),(3,Pp Pq temp),(4,ptr B),(8,ptr R),(9,.bool Py),(34,.bool (!dm f b p))]) ?_ ?_
 ·intro K2 hK2;by_cases e1:b<0
  ·simp[e1];exact hK2 _ _ ⟨rfl,by simp[dm];omega⟩
  by_cases e2:(f.blocks.length:Int)<=b
  ·simp[e1,e2,hb1',hl];exact hK2 _ _ ⟨rfl,by simp[dm];omega⟩
  by_cases e3:p<0
  ·simp[e1,e2,e3,hb1',hl];exact hK2 _ _ ⟨rfl,by simp[dm];omega⟩
  have hbl:b.toNat<f.blocks.length:=by omega
  have hx:=hb2.idxn (k:=.i64) (N:=6) rfl (i:=b) P2 P2;obtain⟨vi,hv1,hv2⟩:=((hb2.at hbl).part BlkD.mN).sl;have hv1:=ae l2 hv1;have hnb:f.blocks[b.toNat]=nth f.blocks b.toNat:=(aA hbl).symm;rw[hnb]at hv2;have hx:Bn.ev (.idx 6) vb (Pp Pq b)=Pt (Pw (Pt ((slA vb).add (b.toNat*Rep.n BlkD)))):=hx;simp[e1,e2,e3,hb1',hl,hx,hv1,(hv2.mono l2).len];have ei:dm f b p=decide (p<=(nth f.blocks b.toNat).ins.length):=by unfold dm;simp[show 0<=b by omega,show b<f.blocks.length by omega,show 0<=p by omega]
  exact hK2 _ _ ⟨rfl,by rw[ei,show(!decide (p<=((nth f.blocks b.toNat).ins.length:Int)))=decide (((nth f.blocks b.toNat).ins.length:Int)<p) by rw[LS];simp]⟩
 rintro _ _ ⟨rfl,rfl⟩;subst hy;cases hq:dm f b p with
 | false=>simp;refine aw (z:=.agg nN.toArray) (places:=[(0,2),(2,5),(7,4),(11,1),(12,1)]) (vs:=[]) (cs:=nN.toArray) P1 P1 Sa P1 ?_;refine c2.bo (k:=(0,0)) (n:=12) (l:=nN) Own.aj wN rfl rfl P1 rfl rfl λh9 l9 hl9 c9=>?_;have hall:=c9.all (k:=(0,0)) (n:=12) (l:=l9) (B:=R) (e:=T.rE) Own.aj;simp at hall;simp[hall];refine hK _ _ ⟨c9.le0,_,by rw[hq],?_⟩;unfold ml;rw[hq,if_neg Sa,<-hl9];exact wN
 | true=>
  have hq2:=hq;simp[dm]at hq2;obtain⟨⟨⟨g1,g2⟩,g3⟩,g4⟩:=hq2;have hbl:b.toNat<f.blocks.length:=by omega
  simp;subst hz;refine ab λz hz=>?_;obtain⟨ub,hub,rub⟩:=hb2.wh rfl (N:=6) rfl hbl;have hx:=hb2.idxn (k:=.i64) (N:=6) rfl (i:=b) P2 P2;simp[hb1',hx,hub _ l2];refine c2.dD (α:=BlkD) rub (n:=6) (z:=.agg #[Pv Pu 0 0,Pv Pu 0 0,Pp Pq 0,Pv Pu 0 0,Pv Pu 0 0,Pp Ps 0]) P1 rfl rfl P1 P5 P5 λB3 h3 W3 hW3 c3 at3 hle3=>?_;subst hz;refine ab λz hz=>?_;obtain⟨vp,vi,va,vt,-,si,-⟩:=jO at3;have sim:=si.mono c3.wle;obtain⟨uf,huf,ruf⟩:=at1.ldN rfl (N:=2) rfl;have huf3:=huf _ (Pn hW3 c3.wle);have ruf:=ruf.mono hW3;have hsite:ml f b p temp=eo f b p temp:=by unfold ml;rw[hq,if_pos rfl]
  generalize hbk:nth f.blocks b.toNat=bk at *;by_cases e:p=bk.ins.length
  ·obtain⟨ut,hut,rut⟩:=(at3.part BlkD.nA).ldN rfl (N:=4) rfl;have hut:Un.ev (vw h3) (.bO 4) (Pw (Pt ⟨B3,2,Pu⟩))=Pt ut:=by simpa using hut _ c3.wle
   obtain⟨a1,m1,k1,rfl⟩:=tj ruf;obtain⟨a2,m2,k2,a3,m3,k3,rfl⟩:=zt rut;have hs:eo f b p temp=⟨f,gC,bk.term,Px,temp⟩:=by unfold eo;rw[hbk,if_pos e]
   have rs:Rd W3 (.agg #[Pp Pq f.params,.slice a1 m1 k1,Pp Pq 0,Pp Pq 0,Pp Pq 0,Pv Pu 0 0,Pp Ps 0,Pp Pq bk.term.kind,.slice a2 m2 k2,.slice a3 m3 k3,Pp Ps bk.term.imm.v,.bool Px,Pp Pq temp]) (eo f b p temp):=by rw[hs];exact yk (s:=⟨f,gC,bk.term,Px,temp⟩) ruf lq rut ht
   simp[sim.1,sim.2.len,e,huf3,hut];refine aw (z:=.agg nN.toArray) (places:=[(0,2),(2,5),(7,4),(11,1),(12,1)]) (vs:=[(0,.agg #[Pp Pq f.params,.slice a1 m1 k1]),(2,.agg #[Pp Pq bk.term.kind,.slice a2 m2 k2,.slice a3 m3 k3,Pp Ps bk.term.imm.v]),(3,.bool Px),(4,Pp Pq temp)]) (cs:=#[Pp Pq f.params,.slice a1 m1 k1,Pp Pq 0,Pp Pq 0,Pp Pq 0,Pv Pu 0 0,Pp Ps 0,Pp Pq bk.term.kind,.slice a2 m2 k2,.slice a3 m3 k3,Pp Ps bk.term.imm.v,.bool Px,Pp Pq temp]) P1 P1 Sa (by simp[Instr.fill,Value.cells]) ?_;refine c3.bo (k:=(0,0)) (n:=12) (l:=nN) Own.aj rs rfl rfl P1 rfl rfl λh9 l9 hl9 c9=>?_;have hall:=c9.all (k:=(0,0)) (n:=12) (l:=l9) (B:=R) (e:=T.rE) Own.aj;simp at hall;simp[hall];refine hK _ _ ⟨c9.le0,_,by rw[hq],?_⟩;rw[hsite,<-hl9];exact rs.mono c9.fin
  have hlt:p.toNat<bk.ins.length:=by omega
  obtain⟨ui,hui,rui⟩:=si.2.wh rfl (N:=5) rfl hlt;have hxi:=si.2.idxn (k:=.i64) (N:=5) rfl (i:=p) P2 P2;obtain⟨a1,m1,k1,rfl⟩:=tj ruf;obtain⟨a2,m2,k2,rfl⟩:=tU rui;have hs:eo f b p temp=⟨f,nth bk.ins p.toNat,nX,Py,temp⟩:=by unfold eo;rw[hbk,if_neg e]
  generalize nth bk.ins p.toNat=xi at *;have rs:Rd W3 (.agg #[Pp Pq f.params,.slice a1 m1 k1,Pp Pq xi.op,Pp Pq xi.dst,Pp Pq xi.two,.slice a2 m2 k2,Pp Ps xi.imm.v,Pp Pq 0,Pv Pu 0 0,Pv Pu 0 0,Pp Ps 0,.bool Py,Pp Pq temp]) (eo f b p temp):=by rw[hs];exact yk (s:=⟨f,xi,nX,Py,temp⟩) ruf rui xD ht
  simp[sim.1,sim.2.len,e];subst hz;refine ab λz hz=>?_;refine aR W3 c3.wle ?_;simp[huf W3 hW3,si.1,hxi,hui W3 Pl];refine aw (z:=.agg nN.toArray) (places:=[(0,2),(2,5),(7,4),(11,1),(12,1)]) (vs:=[(0,.agg #[Pp Pq f.params,.slice a1 m1 k1]),(1,.agg #[Pp Pq xi.op,Pp Pq xi.dst,Pp Pq xi.two,.slice a2 m2 k2,Pp Ps xi.imm.v]),(4,Pp Pq temp)]) (cs:=#[Pp Pq f.params,.slice a1 m1 k1,Pp Pq xi.op,Pp Pq xi.dst,Pp Pq xi.two,.slice a2 m2 k2,Pp Ps xi.imm.v,Pp Pq 0,Pv Pu 0 0,Pv Pu 0 0,Pp Ps 0,.bool Py,Pp Pq temp]) P1 P1 Sa (by simp[Instr.fill,Value.cells]) ?_;refine c3.bo (k:=(0,0)) (n:=12) (l:=nN) Own.aj rs rfl rfl P1 rfl rfl λh9 l9 hl9 c9=>?_;subst hz;have hall:=c9.all (k:=(0,0)) (n:=12) (l:=l9) (B:=R) (e:=T.rE) Own.aj;simp at hall;simp[hall];refine hK _ _ ⟨c9.le0,_,by rw[hq],?_⟩;rw[hsite,<-hl9];exact rs.mono c9.fin
end Go.Proofs.YtnfiilgdjpdlkaaGreatDoor
