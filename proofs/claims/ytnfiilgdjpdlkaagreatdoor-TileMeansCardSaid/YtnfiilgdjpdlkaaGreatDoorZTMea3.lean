/- A part of the proof: LftO, Hi, Hj, Hk, Oa, LftI, LftL, Ra, Ka, Kd, Ke, Ob, Oc, Od, Oe, Of, Og, Oh, Oi, Oj. -/
import Derived.Test.YtnfiilgdjpdlkaaGreatDoorZTMea2
import Derived.Maps.RangeRun
set_option linter.unusedSimpArgs false
set_option linter.unusedVariables false
open Go.Value renaming int->Sf,slice->Sn,pointer->Sp
open Go.IntKind renaming i64->Sg,i32->Si
open Option renaming some->Sj,none->Sk
open Bool renaming true->Sq,false->Sr
open Go.Proofs.Tryz renaming prog->Ss
namespace Go.Lft
open Go
section
variable {po po2 po3:OP} {pp:PP}
structure Raw where
 v:Value
instance:Rep Raw where
 n:=1
 agg:=false
 rd:=λ_ cs d=>cs=[d.v]/\d.v.oneCell'=Sq
 mono:=λ_ h=>h
 len:=λh=>by rw[h.1];rfl
 one:=λ_=>rfl
 flat:=λh u hu=>by rw[h.1]at hu;simp at hu;subst hu;exact h.2
 pos:=Rt
 fk:=λh=>h
instance:Inhabited Raw:=⟨⟨.bool Sr⟩⟩
theorem nz{H:View}{v:Value}{d:Raw}:Rd H v d↔v=d.v/\d.v.oneCell'=true:=by simp[Rd,Rep.agg,Rep.rd]
theorem At.raw{H:View}{a:Addr}{d:Raw}(h:At H a d):ak H a=Sj d.v:=by obtain⟨u,h1,h2⟩:=h.load rfl;rw[(nz.1 h2).1]at h1;exact h1
variable{α β:Type}{off:Nat}{W:View}{y:Operand}{K:Value->Heap->Prop}
theorem Ek[Rep α][Rep β]{g:α->β}{s:α->β->α}(p:Part α β off g s){P:Program}{h:Heap}{e:TypeId}{v:Value}{l:List α}{t ty:TypeId}{x:Operand}{us:List (Nat × Value)}{i:Nat}{u:Value}{d:β}(hsz:cO P t=Sj (Rep.n β))(hx:asg us x = Sp (Sj (((slA v).add (i*Rep.n α)).add off)))(hy:asg us y=u)(ho:OwnT W h e v l)(hi:i<l.length)(hr:Rd W u d)(hk : ∀h',h'.size=h.size->OwnT W h' e v (l.set i (s l[i] d))->lh h h' v v->K undef h'):@step po P (.store t x y) ty us h K:=by
 obtain⟨c1,c2,c3⟩:=gN hr;obtain⟨hbd,xs,⟨hxl,hown⟩,hel⟩:=ho;have hf:=p.fits;refine cI (po:=po) (qw λw hw=>?_);subst hw;rcases hown with⟨rfl,hn⟩ | ⟨gb,cap,cur,rfl,hg,h1,h2,h3,h4⟩
 ·omega
 have hle:i*Rep.n α+Rep.n α<=l.length*Rep.n α:=by rw[<-Nat.succ_mul];exact O4 _ hi
 have hcap:l.length*Rep.n α<=cap*Rep.n α:=O4 _ h1;have hlen:u.cells.toList.length=Rep.n β:=by simpa using c2
 have hrun:=run_storeCells_at P gb (i*Rep.n α+off) e u.cells.toList 0 cur w hg (by simp only[Nat.add_zero];omega) c3;have hadd:((slA (Sn (Sj ⟨gb,0,Sk⟩) l.length cap)).add (i*Rep.n α)).add off=⟨gb,i*Rep.n α+off,Sk⟩:=by show((⟨gb,0,Sk⟩:Addr).add _).add _=_;simp[Addr.z]
 have hszr:=run_sizeOf (P:=P) (w:=w) hsz;obtain⟨row,hrow⟩ : ∃row:Array Value,row.toList=cur.toList.take (i*Rep.n α+off)++u.cells.toList++cur.toList.drop (i*Rep.n α+off+Rep.n β):=⟨(cur.toList.take (i*Rep.n α+off)++u.cells.toList++cur.toList.drop (i*Rep.n α+off+Rep.n β)).toArray,rfl⟩;have hrun':Sem.run P (storeCells ⟨gb,i*Rep.n α+off,Sk⟩ u.cells.toList) w = .ok () (w.setRow gb row):=by rw[hrun];congr 2;rw[<-Array.toList_inj,hrow,hlen];rfl
 have hrsz:row.size=cap*Rep.n α:=by have:=congrArg List.length hrow;simp only[Qs,OI,Pp,Pl,c2]at this;omega
 refine⟨w.setRow gb row,?_,Same.rM rfl rfl rfl Sa hg Sa (λk _ hne=>setRow_other w gb k _ (λe=>hne e)),hk (w.setRow gb row).heap Sa ⟨by simpa using hbd,xs.take (i*Rep.n α+off)++u.cells.toList++xs.drop (i*Rep.n α+off+Rep.n β),⟨?_,.inr ⟨gb,cap,row,by simp,setRow_heap w gb cur row e _ hg,by simpa using h1,h2,?_,?_⟩⟩,?_⟩ ⟨⟨by simp,λk hk hne=>setRow_other w gb k _ (λe=>hne (by simp[Value.ownBlock,e]))⟩,.inl rfl⟩⟩
 ·simp only[bI,execOp,hx,hy,hadd];simp[Instr.storeAt,Instr.sureAddr,storeVar,hszr,c2,hrun']
 ·simp only[OI,Pp,Pl,hlen,O2];omega
 ·exact hrsz
 ·simp only[O2];rw[hrow,<-h4,PV,PK S0,ON,ON];have e1:(cur.toList.take (i*Rep.n α+off)).length=i*Rep.n α+off:=by simp;omega
  rw[PY,e1,OK S0];congr 1;rw[PY,hlen,OK S0];congr 1;rw[PU];congr 1;omega
 intro j hj;simp only[O2]at hj;have hjle:j*Rep.n α+Rep.n α<=l.length*Rep.n α:=by rw[<-Nat.succ_mul];exact O4 _ hj
 have e1:(xs.take (i*Rep.n α+off)).length=i*Rep.n α+off:=by simp;omega
 by_cases hij:i=j
 ·subst hij;have hset:(l.set i (s l[i] d))[i]'(by simpa using hj)=s l[i] d:=by simp
  rw[hset];have:=p.set (hel i hj) c1;have hcs:((xs.drop (i*Rep.n α)).take (Rep.n α)).length=Rep.n α:=by simp;omega
  have e3:((xs.take (i*Rep.n α+off)++u.cells.toList++xs.drop (i*Rep.n α+off+Rep.n β)).drop (i*Rep.n α)).take (Rep.n α)=((xs.drop (i*Rep.n α)).take (Rep.n α)).take off++u.cells.toList++((xs.drop (i*Rep.n α)).take (Rep.n α)).drop (off+Rep.n β):=by
   rw[ON,PF S0,PU,RW,PV,PK S0,ON];have e4:((xs.drop (i*Rep.n α)).take off).length=off:=by simp;omega
   rw[PY,e4,OK S0];congr 1;rw[PY,hlen,OK S0];congr 1;rw[PU,Qu];rw[show i*Rep.n α+(off+Rep.n β)=i*Rep.n α+off+Rep.n β by omega,show Rep.n α-off-Rep.n β=Rep.n α-(off+Rep.n β) by omega]
  rw[e3];exact this
 have hset:(l.set i (s l[i] d))[j]'(by simpa using hj)=l[j]:=by simp[hij]
 rw[hset];have:((xs.take (i*Rep.n α+off)++u.cells.toList++xs.drop (i*Rep.n α+off+Rep.n β)).drop (j*Rep.n α)).take (Rep.n α)=(xs.drop (j*Rep.n α)).take (Rep.n α):=by
  rcases OD j i with hlt | hge
  ·have h5:j*Rep.n α+Rep.n α<=i*Rep.n α:=by rw[<-Nat.succ_mul];exact O4 _ hlt
   rw[ON,PF S0,Pt S7,PU,PV,PK S0]
  have h5:i*Rep.n α+Rep.n α<=j*Rep.n α:=by rw[<-Nat.succ_mul];exact O4 _ S0
  have e2:(xs.take (i*Rep.n α+off)++u.cells.toList).length=i*Rep.n α+off+Rep.n β:=by rw[OI,e1,hlen]
  rw[Qz,Pq S0,Pz,e2,Qu];congr 2;omega
 rw[this];exact hel j hj
abbrev Key:=Nat × Nat
structure Item where
 α:Type
 rep:Rep α
 e:TypeId
 v:Value
 l:List α
abbrev Own:=Key->Option Item
def it {α:Type} [r:Rep α] (e:TypeId) (v:Value) (l:List α):Option Item:=Sj ⟨α,r,e,v,l⟩
def bx {α:Type} [r:Rep α] (e:TypeId) (B:Nat) (d:α):Option Item:=Sj ⟨α,r,e,Sn (Sj ⟨B,0,Sk⟩) 1 1,[d]⟩
def Own.upd (o:Own) (k:Key) (i:Option Item):Own:=λj=>if j=k then i else o j
structure Owns (W:View) (h:Heap) (o:Own):Prop where
 wle:W.le (vw h)
 own : ∀k i,o k=Sj i->@OwnT i.α i.rep W h i.e i.v i.l
 av : ∀k i,o k=Sj i->Av W i.v
 dj : ∀k k' i i' b,o k=Sj i->o k'=Sj i'->i.v.ownBlock=Sj b->i'.v.ownBlock=Sj b->k=k'
section
variable {W:View} {h h':Heap} {o:Own} {k:Key}
theorem Owns.congr{o':Own}(w:Owns W h o)(he : ∀k,o' k=o k):Owns W h o':=by have:o'=o:=funext he;rw[this];exact w
theorem Owns.start(hw:W.le (vw h)):Owns W h (λ_=>.none):=⟨hw,λ_ _ h=>(by cases h),λ_ _ h=>(by cases h),λ_ _ _ _ _ h=>(by cases h)⟩
theorem Owns.get[r:Rep α]{e:TypeId}{v:Value}{l:List α}(w:Owns W h o)(hk:o k=it e v l):OwnT W h e v l:=w.own k _ hk
theorem Owns.now {α:Type} [r:Rep α] {e:TypeId} {v:Value} {l:List α} (w:Owns W h o) (hk:o k=it e v l):SlRd (vw h) v l:=(w.get hk).now w.wle
theorem Owns.at {α:Type} [r:Rep α] {e:TypeId} {B:Nat} {d:α} (w:Owns W h o) (hk:o k=bx e B d):At (vw h) ⟨B,0,.none⟩ d:=by have:SlRd (vw h) (Sn (Sj ⟨B,0,.none⟩) 1 1) [d]:=w.now (k:=k) hk;have:=this.at (i:=0) Sa;simpa[slA]using this
theorem Owns.cells {α:Type} [r:Rep α] {e:TypeId} {v:Value} {l:List α} (w:Owns W h o) (hk:o k=it e v l):v.cells = #[v]/\v.oneCell'=true:=by have:=(w.get hk).len (K:=nothing);cases v<;>first | exact⟨rfl,rfl⟩ | (simp[Un.ev,vL]at this)
theorem Owns.lt {i:Item} (w:Owns W h o) (hk:o k=Sj i) {b:Nat} (hb:i.v.ownBlock=Sj b):b<h.size:=@OwnT.lt i.α i.rep _ _ _ _ _ (w.own k i hk) _ hb
theorem Owns.ext'(w:Owns W h o)(hle:(vw h).le (vw h')):Owns W h' o:=
 ⟨Sc w.wle hle,λk i hk=>@OwnT.ext i.α i.rep _ _ _ _ _ _ (w.own k i hk) hle,w.av,w.dj⟩
theorem Owns.ext (w:Owns W h o) (hle:(vw h).le (vw h')):Owns (grow W h h') h' o:=
 ⟨jM (Sc w.wle hle),λk i hk=>@OwnT.mono i.α i.rep _ _ _ _ _ (@OwnT.ext i.α i.rep _ _ _ _ _ _ (w.own k i hk) hle) _ (bZ w.wle),
  λk i hk=>(w.av k i hk).grow λb hb=>w.lt hk hb,w.dj⟩
theorem Owns.KH{W':View}(w:Owns W h o)(h1:W.le W')(h2:W'.le (vw h))(h3 : ∀k i b,o k=Sj i->i.v.ownBlock=Sj b->W' b = .none):Owns W' h o:=
 ⟨h2,λk i hk=>@OwnT.mono i.α i.rep _ _ _ _ _ (w.own k i hk) _ h1,λk i hk b hb=>h3 k i b hk hb,w.dj⟩
theorem Owns.sub{o':Own}(w:Owns W h o)(hs : ∀k i,o' k=Sj i->o k=Sj i):Owns W h o':=
 ⟨w.wle,λk i hk=>w.own k i (hs k i hk),λk i hk=>w.av k i (hs k i hk),λk k' i i' b hk hk'=>w.dj k k' i i' b (hs k i hk) (hs k' i' hk')⟩
theorem Owns.jC{i:Item}[rb:Rep β]{e2:TypeId}{v':Value}{l':List β}(w:Owns W h o)(hk:o k=Sj i)(o2:OwnT W h' e2 v' l')(m:lh h h' i.v v'):Owns W h' (o.upd k (it e2 v' l')):=by
 obtain⟨w1,a1⟩:=m.view w.wle (w.av k i hk);have new : ∀(y:Item) (q:Key) (b:Nat),o q=Sj y->y.v.ownBlock=Sj b->v'.ownBlock=Sj b->q=k:=λy q b hq hb hv=>by
  rcases m.at_ with e | e
  ·exact w.dj q k y i b hq hk hb (e▸hv)
  rw[e]at hv;simp only[Ow]at hv;have:=w.lt hq hb;omega
 refine⟨w1,λj x hj=>?_,λj x hj=>?_,λj j' x x' b hj hj' hb hb'=>?_⟩
 ·unfold Own.upd at hj;split at hj
  ·cases hj;exact o2
  rename_i hjk;refine @OwnT.kept x.α x.rep _ _ _ _ _ _ (w.own j x hj) _ m.kept ?_;cases hx:x.v.ownBlock with
  | none=>exact .inl rfl
  | some b=>exact .inr λe=>hjk (w.dj j k x i b hj hk hx e.symm)
 ·unfold Own.upd at hj;split at hj
  ·cases hj;exact a1
  exact(m.view w.wle (w.av k i hk) |>.1:_) |> λ_=>w.av j x hj
 unfold Own.upd at hj hj';split at hj
 ·rename_i a;cases hj;split at hj'
  ·rename_i c;rw[a,c]
  rw[a];exact(new x' j' b hj' hb' hb).symm
 split at hj'
 ·rename_i c;cases hj';rw[c];exact new x j b hj hb hb'
 exact w.dj j j' x x' b hj hj' hb hb'
theorem Owns.add[rb:Rep β]{e2:TypeId}{v':Value}{l':List β}(w:Owns W h o)(hk:o k = .none)(o2:OwnT W h' e2 v' l')(hle:(vw h).le (vw h'))(hb : ∀b,v'.ownBlock=Sj b->h.size<=b):Owns W h' (o.upd k (it e2 v' l')):=by
 have w1:=w.ext' hle;refine⟨w1.wle,λj x hj=>?_,λj x hj=>?_,λj j' x x' b hj hj' hb1 hb2=>?_⟩
 ·unfold Own.upd at hj;split at hj
  ·cases hj;exact o2
  exact w1.own j x hj
 ·unfold Own.upd at hj;split at hj
  ·cases hj;intro b hb';exact View.cA w.wle (hb b hb')
  exact w.av j x hj
 unfold Own.upd at hj hj';split at hj
 ·rename_i a;cases hj;split at hj'
  ·rename_i c;rw[a,c]
  have:=w.lt hj' hb2;have:=hb b hb1;omega
 split at hj'
 ·cases hj';have:=w.lt hj hb1;have:=hb b hb2;omega
 exact w.dj j j' x x' b hj hj' hb1 hb2
theorem Own.ao{i:Option Item}:o.upd k i k=i:=by simp[Own.upd]
theorem Own.aA{i:Option Item}{j:Key}(hj:j≠k):o.upd k i j=o j:=by simp[Own.upd,hj]
theorem jS[Rep β]{B:Nat}{e:TypeId}{v:Value}{d:β}(hb:h[B]? = Sj (.cells v.cells e (0,0)))(hr:Rd W v d)(hn:Rep.n β<=1000):OwnT W h e (Sn (Sj ⟨B,0,.none⟩) 1 1) [d]:=by
 obtain⟨c1,c2,c3⟩:=gN hr;refine⟨by simp,v.cells.toList,⟨by simp[c2],.inr ⟨B,1,v.cells,rfl,hb,OA _,by simp[maxLen],by omega,?_⟩⟩,λi hi=>?_⟩
 ·rw[OK];simp[c2]
 have:i=0:=by simpa using hi
 subst this;simp only[QS,P7,P6];rw[OK (by simp[c2])];exact c1
section
variable {P:Program} {ty:TypeId} {us:List (Nat × Value)} {α:Type} [r:Rep α] {e:TypeId} {v:Value} {l:List α}
theorem Owns.dB {t:TypeId} {bytes:Nat} {z:Value} {x y:Operand} {u:Value} {l2:List α} {K:Value->Heap->Prop} (w:Owns W h o) (hk:o k=it e v l) (hT:ef P t e (Rep.n α) bytes z) (hx:asg us x=v) (hy:asg us y=u)
  (hs:SrcT (vw h) W u l2) (hb:(l.length+l2.length)*bytes<=140737488355328) (hb2:l.length+l2.length<=140737488355328)
  (hK : ∀v' h',Owns W h' (o.upd k (it e v' (l++l2)))->lh h h' v v'->K v' h'):@step po P (.call ⟨.builtin .append,#[x,y],#[t,t]⟩) ty us h K:=
 Lft.dB hT hx hy (w.get hk) hs hb hb2 λv' h' o2 m=>hK v' h' (w.jC hk o2 m) m
variable{bytes:Nat}
theorem Owns.ji{t ty2:TypeId}{z:Value}{x y2:Operand}{us2:Value->List (Nat × Value)}{u:Value}{d:α}{K:Value->Value->Heap->Prop}(w:Owns W h o)(hk:o k=it e v l)(hT:ef P t e (Rep.n α) bytes z)(hx:asg us x=u)(hr:Rd W u d)(hb:(l.length+1)*bytes<=140737488355328)(hb2:l.length+1<=140737488355328)(hy : ∀u,asg (us2 u) y=v)(hy2 : ∀u,asg (us2 u) y2=u)(hK : ∀u v' h',Owns W h' (o.upd k (it e v' (l++[d])))->h.size<=h'.size->K u v' h'):
  @step po P (.buildSlice t 1 #[(0,x)]) ty us h λu h2=>@step po2 P (.call ⟨.builtin .append,#[y,y2],#[t,t]⟩) ty2 (us2 u) h2 λv' h3=>K u v' h3:=by refine nj (po:=po) hT hx hr λu h2 hs hle hsz=>?_;exact(w.ext' hle).dB hk hT (hy u) (hy2 u) hs hb hb2 λv' h3 w3 m=>hK u v' h3 w3 (by have:=m.kept.size;omega)
theorem Owns.bD{t:TypeId}{x:Operand}{i:Nat}{u:Value}{d:α}(w:Owns W h o)(hk:o k=it e v l)(hsz:cO P t=Sj (Rep.n α))(hx:asg us x = Sp (Sj ((slA v).add (i*Rep.n α))))(hy:asg us y=u)(hi:i<l.length)(hr:Rd W u d)(hK : ∀h',Owns W h' (o.upd k (it e v (l.set i d)))->h'.size>=h.size->K undef h'):@step po P (.store t x y) ty us h K:=
 ud (po:=po) hsz hx hy (w.get hk) hi hr λh' o2 m=>hK h' (w.jC hk o2 m) m.kept.size
theorem Owns.qh[Rep β]{g:α->β}{s:α->β->α}(p:Part α β off g s){t:TypeId}{x:Operand}{i:Nat}{u:Value}{d:β}(w:Owns W h o)(hk:o k=it e v l)(hsz:cO P t=Sj (Rep.n β))(hx:asg us x = Sp (Sj (((slA v).add (i*Rep.n α)).add off)))(hy:asg us y=u)(hi:i<l.length)(hr:Rd W u d)(hK : ∀h',Owns W h' (o.upd k (it e v (l.set i (s l[i] d))))->h'.size=h.size->K undef h'):@step po P (.store t x y) ty us h K:=
 Ek (po:=po) p hsz hx hy (w.get hk) hi hr λh' hs o2 m=>hK h' (w.jC hk o2 m) hs
theorem Owns.iE[Rep β]{g:α->β}{s:α->β->α}(p:Part α β off g s){t:TypeId}{x:Operand}{B:Nat}{D:α}{u:Value}{d:β}(w:Owns W h o)(hk:o k=bx e B D)(hsz:cO P t=Sj (Rep.n β))(hx:asg us x = Sp (Sj ⟨B,off,.none⟩))(hy:asg us y=u)(hr:Rd W u d)(hK : ∀h',Owns W h' (o.upd k (bx e B (s D d)))->h'.size=h.size->K undef h'):@step po P (.store t x y) ty us h K:=
 w.qh (po:=po) (v:=Sn (Sj ⟨B,0,.none⟩) 1 1) (l:=[D]) (i:=0) p hk hsz (by rw[hx];simp[slA,Addr.z]) hy Sa hr λh' w' hs=>hK h' w' hs
end
end
theorem xt{h0 h1 h2 h3:Heap}(hs:h0.size<=h1.size)(hle:(vw h2).le (vw h3)):(fresh h1 h2).le (grow W h0 h3):=λb o hb=>by
 unfold fresh at hb;split at hb
 ·cases hb
 unfold grow;rw[if_neg S0];exact hle b o hb
theorem Ga{h0 h1 h2:Heap}(hle:(vw h1).le (vw h2)):(grow W h0 h1).le (grow W h0 h2):=λb o hb=>by
 unfold grow at hb ⊢;split
 ·rename_i hlt;rw[if_pos hlt]at hb;exact hb
 rename_i hlt;rw[if_neg hlt]at hb;exact hle b o hb
theorem cU{h0 h1:Heap}{b:Nat}(hb:h0.size<=b):grow W h0 h1 b=h1[b]?:=by unfold grow;rw[if_neg S0]
def View.plus (W:View) (v:Value) (h:Heap):View:=λb=>if v.ownBlock=Sj b then h[b]? else W b
theorem jk{v:Value}{h:Heap}(ha:Av W v):W.le (W.plus v h):=λb o hb=>by
 unfold View.plus;split
 ·rename_i e;rw[ha b e]at hb;cases hb
 exact hb
theorem Jc{v:Value}{h:Heap}(hw:W.le (vw h)):(W.plus v h).le (vw h):=λb o hb=>by
 unfold View.plus at hb;split at hb
 ·exact hb
 exact hw b o hb
theorem Owns.freeze{h:Heap}{o:Own}{k:Key}[r:Rep α]{e:TypeId}{v:Value}{l:List α}(w:Owns W h o)(hk:o k=it e v l):Owns (W.plus v h) h (o.upd k .none)/\SlRd (W.plus v h) v l:=by
 have ha:Av W v:=w.av k _ hk;constructor
 ·refine(w.sub (o':=o.upd k .none) λj i hj=>?_).KH (jk ha) (Jc w.wle) λj i b hj hb=>?_
  ·unfold Own.upd at hj;split at hj
   ·cases hj
   exact hj
  unfold Own.upd at hj;split at hj
  ·cases hj
  rename_i hjk;unfold View.plus;rw[if_neg]
  ·exact w.av j i hj b hb
  intro e2;exact hjk (w.dj j k i _ b hj hk hb e2)
 refine(w.get hk).rd (jk ha) λb hb=>?_;unfold View.plus;rw[if_pos hb]
variable{bytes:Nat}
theorem tA[Rep α]{P:Program}{t e:TypeId}{z:Value}{ty:TypeId}{us:List (Nat × Value)}{h:Heap}(hT:ef P t e (Rep.n α) bytes z)(hk : ∀h',(vw h).le (vw h')->h'.size=h.size+1->(∀W,OwnT (α:=α) W h' e (Sn (Sj ⟨h.size,0,Sk⟩) 0 0) [])->K (Sn (Sj ⟨h.size,0,Sk⟩) 0 0) h'):@step po P (.buildSlice t 0 #[]) ty us h K:=by refine tx (n:=0) (size:=Rep.n α) (vs:=[]) (cs:=#[]) hT S0 Sa (by simp only[Instr.fill,QS];rw[show Array.range 0 = #[] by simp[Array.range_zero'],Array.map_empty]) (hk _ (bP _ _) Sa λW=>⟨by simp,[],⟨by simp,.inr ⟨h.size,0,#[],rfl,by simp,OA _,by simp[maxLen],by simp,by simp⟩⟩,λi hi=>by simp at hi⟩)
theorem Mine.empty[Rep α]{V:View}{h0 h h':Heap}{e:TypeId}(hle:(vw h0).le (vw h))(hle2:(vw h).le (vw h'))(hW:W.le (vw h))(ho:Old V h0 W)(own : ∀W,OwnT (α:=α) W h' e (Sn (Sj ⟨h.size,0,Sk⟩) 0 0) []):Mine (α:=α) V h0 h' W e (Sn (Sj ⟨h.size,0,Sk⟩) 0 0) []:=
 ⟨Sc hle hle2,Sc hW hle2,λb hb=>by cases hb;exact View.cA hW (OA _),λb hb=>by cases hb;exact View.cA hle (OA _),ho,own W⟩
theorem Owns.atW{h:Heap}{o:Own}{k:Key}[r:Rep α]{e:TypeId}{B:Nat}{d:α}(w:Owns W h o)(hk:o k=bx e B d): ∃cs,iJ (vw h) ⟨B,0,Sk⟩ cs/\Rep.rd W cs d:=by
 obtain⟨hb,xs,⟨hl,hown⟩,hel⟩:=w.get (k:=k) (v:=Sn (Sj ⟨B,0,Sk⟩) 1 1) (l:=[d]) hk;have h0:=hel 0 Sa;simp only[QS,P7,P6,OW,RP]at h0 hl;rw[OK S0]at h0;rcases hown with⟨h1,_⟩ | ⟨g,cap,cur,h1,h2,h3,h4,h5,h6⟩
 ·cases h1
 simp only[Value.slice.injEq,Ow,Addr.mk.injEq]at h1;obtain⟨⟨rfl,_⟩,_⟩:=h1;refine⟨xs,⟨cur,e,(0,0),rfl,h2,?_⟩,h0⟩;rw[hl,P7];simpa using h6
theorem Owns.xo{h:Heap}{o:Own}{k:Key}{P:Program}{ty:TypeId}{us:List (Nat × Value)}[r:Rep α]{e:TypeId}{v:Value}{l:List α}{t ty2:TypeId}{z:Value}{x y2:Operand}{us2:Value->List (Nat × Value)}{u:Value}{d:α}{K:Value->Value->Heap->Prop}(w:Owns W h o)(hk:o k=it e v l)(hT:ef P t e (Rep.n α) bytes z)(hx:asg us x=u)(hr:Rd W u d)(hb:(l.length+1)*bytes<=140737488355328)(hb2:l.length+1<=140737488355328)(hy : ∀u,asg (us2 u) y=v)(hy2 : ∀u,asg (us2 u) y2=u)(hK : ∀u v' h',Owns W h' (o.upd k (it e v' (l++[d])))->(∀X:View,X.le (vw h)->Av X v->X.le (vw h')/\Av X v')->K u v' h'):
  @step po P (.buildSlice t 1 #[(0,x)]) ty us h λu h2=>@step po2 P (.call ⟨.builtin .append,#[y,y2],#[t,t]⟩) ty2 (us2 u) h2 λv' h3=>K u v' h3:=by refine nj (po:=po) hT hx hr λu h2 hs hle hsz=>?_;exact(w.ext' hle).dB hk hT (hy u) (hy2 u) hs hb hb2 λv' h3 w3 m=>hK u v' h3 w3 λX hX hA=>m.view (Sc hX hle) hA
theorem Owns.qA{h:Heap}{o:Own}{k:Key}{P:Program}{ty:TypeId}{us:List (Nat × Value)}[r:Rep α][Rep β]{e:TypeId}{g:α->β}{s:α->β->α}(p:Part α β off g s){t:TypeId}{x:Operand}{B:Nat}{D:α}{u:Value}{d:β}(w:Owns W h o)(hk:o k=bx e B D)(hsz:cO P t=Sj (Rep.n β))(hx:asg us x = Sp (Sj ⟨B,off,.none⟩))(hy:asg us y=u)(hr:Rd W u d)(hK : ∀h',Owns W h' (o.upd k (bx e B (s D d)))->(∀X:View,X.le (vw h)->X B = .none->X.le (vw h'))->K undef h'):@step po P (.store t x y) ty us h K:=
 Ek (po:=po) p (v:=Sn (Sj ⟨B,0,.none⟩) 1 1) (l:=[D]) (i:=0) hsz (by rw[hx];simp[slA,Addr.z]) hy (w.get (k:=k) (v:=Sn (Sj ⟨B,0,.none⟩) 1 1) (l:=[D]) hk) Sa hr λh' hs o2 m=>hK h' (w.jC hk o2 m) λX hX hB=>(m.view hX λb hb=>by simp only[Value.ownBlock,Ow]at hb;subst hb;exact hB).1
theorem aY{P:Program}{c:E}{kill:List Nat}{x y:LC}{Q:Post}{ρ:Env}{h:Heap}(hc:ev (look ρ) (vw h) c=Sj (.bool Sq))(hx:x.wp P Q (bX ρ kill) h):LC.wp P (.cond c kill x y) Q ρ h:=by rw[lY,hc,CT];exact hx
theorem bf{P:Program}{c:E}{kill:List Nat}{x y:LC}{Q:Post}{ρ:Env}{h:Heap}(hc:ev (look ρ) (vw h) c=Sj (.bool Sr))(hy:y.wp P Q (bX ρ kill) h):LC.wp P (.cond c kill x y) Q ρ h:=by rw[lY,hc,AF];exact hy
end
end Go.Lft
namespace Go.Proofs.YtnfiilgdjpdlkaaGreatDoor
open Go Go.Lft
structure Th where
 blk:Int
 place:Int
 mks:List Int
 tks:List Int
 deriving Inhabited
def phiT (f:an) (b i:Nat):Th:=⟨b,-1-i,[(nth (nth f.blocks b).phis i).dst],(nth (nth f.blocks b).phis i).ins.map InD.val⟩
def insT (f:an) (b i:Nat):Th:=⟨b,i,bg (nth (nth f.blocks b).ins i),(nth (nth f.blocks b).ins i).args⟩
def endT (f:an) (b:Nat):Th:=⟨b,(nth f.blocks b).ins.length,[],(nth f.blocks b).term.args⟩
def thB (f:an) (b:Nat):List Th:=rows (phiT f b) (nth f.blocks b).phis.length++rows (insT f b) (nth f.blocks b).ins.length++[endT f b]
def thTo (f:an) (n:Nat):List Th:=up (λb l=>l++thB f b) n []
def aB (f:an):List Th:=thTo f f.blocks.length
theorem fl{f:an}{n:Nat}:thTo f (n+1)=thTo f n++thB f n:=rfl
theorem HZ{f:an}{n m:Nat}(h:n<=m):thTo f n <+: thTo f m:=by
 induction m with
 | zero=>rw[show n=0 by omega];exact QB _
 | succ m ih=>
  rcases OD n (m+1)with h1 | h1
  ·exact(ih S0).trans ⟨_,fl.symm⟩
  rw[show n=m+1 by omega];exact QB _
theorem BY{β:Type}{x:Nat->β}{n m:Nat}(h:n<=m):rows x n <+: rows x m:=by
 induction m with
 | zero=>rw[show n=0 by omega];exact QB _
 | succ m ih=>
  rcases OD n (m+1)with h1 | h1
  ·exact(ih S0).trans ⟨_,eY.symm⟩
  rw[show n=m+1 by omega];exact QB _
theorem Ao{α:Type}{a b c:List α}(h:b <+: c):a++b <+: a++c:=by obtain⟨t,rfl⟩:=h;exact⟨t,by simp⟩
structure ThJ (J:List Th->View->Heap->Prop):Prop where
 le : ∀{l W h},J l W h->W.le (vw h)
 ext : ∀{l W h h'},J l W h->(vw h).le (vw h')->J l (grow W h h') h'
theorem FK{f:an}{v:Value}{h:Heap}{V:View}{gf:Nat}{caps:List Value}{J:List Th->View->Heap->Prop}(hv:Rd V v f)(hsm:SmF f)(hJ:ThJ J)(hg:isFn Ss gf=Sq)(h0:J [] V h)(hstep : ∀(l:List Th) (t:Th) (W:View) (h1:Heap) (vm vt:Value),V.le W->l++[t] <+: aB f->J l W h1->SlRd W vm t.mks->SlRd W vt t.tks->aw Ss gf (Sf Sg t.blk::Sf Sg t.place::vm::vt::caps).toArray h1 (λ_ h2=>J (l++[t]) W h2)):
  aw Ss 45 #[v,.func (.func gf) #[] caps.toArray] h (λ_ h'=>∃W,V.le W/\J (aB f) W h'):=by
 refine aj (args:=[v,.func (.func gf) #[] caps.toArray]) follows Tryz.func45 E.bu S8 λK hK=>?_;dsimp only[L.bu,lkF,lkG];refine ab λz hz=>?_;simp;refine fI rfl (hv.mono (hJ.le h0)) λh1 e1 hle1 hs1 hat=>?_;have j1:=hJ.ext h0 hle1;obtain⟨cp,vb,cb⟩:=iZ hat;have hvb:SlRd V vb f.blocks:=by
  obtain⟨u,hu,hur⟩:=hv.Nh an.sM rfl rfl (K:=vw h);have e:vb=u:=by
   have hv' : ∃cs:Array Value,v = .agg cs/\Rep.rd V cs.toList f:=hv;obtain⟨cs,rfl,hcs⟩:=hv';have hb:h1[h.size]? = Sj (.cells cs T.ee (0,0)):=by rw[e1];simp
   have h3:ak (vw h1) ⟨h.size,1,Sk⟩=cs[1]?:=by simp[ak,vw,hb]
   simp at hu;rw[cb.1]at h3;rw[hu]at h3;exact Option.some.inj h3
  rw[e];exact dR.1 hur
 have hVW:V.le (grow V h h1):=bZ (hJ.le h0);generalize grow V h h1=W1 at j1 hVW;generalize h.size=B at cb;have hbb:=cb.2.bound;subst hz;simp[cb.1,cb.2.len];refine aR [1,14,15,16] (fun(_:Unit) b=>[.func (.func gf) #[] caps.toArray,vb,Sf Sg f.blocks.length,Sf Sg b]) (λ_ b h2=>∃W,V.le W/\J (thTo f b) W h2) f.blocks.length ()
  rfl S0 rfl ⟨W1,hVW,j1⟩ (λ_ _=>rfl) (λv i h1 hk m=>by simp) ?_ ?_
 ·rintro _ b h2 hltb ⟨W2,hW2,j2⟩ K2 hK2;have hvb2:=hvb.mono (Sc hW2 (hJ.le j2));obtain⟨u,hu,hur⟩:=(hvb.mono hW2).wh rfl (N:=6) rfl hltb;refine ab λz hz=>?_;simp(disch:=omega)[hvb2.idxn (N:=6) rfl,hu _ (hJ.le j2)];refine dv (X:=W2) (z:=zz3) R9 rfl R9 hur S3 S3 λh3 hle3 hsz3 hat3=>?_;have j3:=hJ.ext j2 hle3;have hat3':=hat3 (grow W2 h2 h3) (bZ (hJ.le j2)) (by unfold grow;rw[if_neg S0]);obtain⟨vp,vi,va,vt,bp,bi,bk,ba,bt⟩:=kN hat3';have hVW3:=Sc hW2 (bZ (h':=h3) (hJ.le j2));generalize grow W2 h2 h3=W3 at j3 hVW3 bp bi bk ba bt;generalize h2.size=D at bp bi bk ba bt;have hpre:thTo f b++thB f b <+: aB f:=by rw[<-fl];exact HZ hltb
  subst hz;have bph:=bp.2.bound;have bih:=bi.2.bound;refine ab λz hz=>?_;simp[ae (hJ.le j3) bp.1,bp.2.len];refine aR [1,4,5,14,15,16,22,23,24] (fun(_:Unit) i=>[.func (.func gf) #[] caps.toArray,Sf Sg b,ptz D,vb,Sf Sg f.blocks.length,Sf Sg b,vp,Sf Sg (nth f.blocks b).phis.length,Sf Sg i])
   (λ_ i h4=>∃W,W3.le W/\J (thTo f b++rows (phiT f b) i) W h4) (nth f.blocks b).phis.length ()
   rfl S0 rfl ⟨W3,View.le_refl _,by simpa using j3⟩ (λ_ _=>rfl) (λv i h1 hk m=>by simp) ?_ ?_
  ·rintro _ i h4 hlti ⟨W4,hW4,j4⟩ K3 hK3;have bp4:=bp.2.mono (Sc hW4 (hJ.le j4));obtain⟨u4,hu4,hur4⟩:=bp4.wh rfl (N:=2) rfl hlti;refine ab λy hy=>?_;simp(disch:=omega)[bp4.idxn (N:=2) rfl,hu4 _ Sb];refine dv (z:=zz4) R9 rfl R9 hur4 S3 S3 λh5 hle5 hsz5 hat5=>?_;obtain⟨c0,vq,cq⟩:=An (hat5 (vw h5) hle5 rfl);have rd:=((hat5 (vw h5) hle5 rfl).part PhiD.iy).rng;have hpl:=(hsm.blk b hltb).phi i hlti;have hpt:phiT f b i=⟨b,-1-i,[(nth (nth f.blocks b).phis i).dst],(nth (nth f.blocks b).phis i).ins.map InD.val⟩:=rfl;generalize nth (nth f.blocks b).phis i=x at c0 cq rd hpt hpl;generalize h4.size=D4 at c0 cq;have bq:=cq.2.bound;subst hy;refine ab λy hy=>?_;simp;subst hy;refine ab λy hy=>?_;simp[cq.1,cq.2.len];refine aR [1,4,5,6,7,8,14,15,16,22,23,24,30,31,32] (fun(r:Value) j=>[.func (.func gf) #[] caps.toArray,Sf Sg b,ptz D,Sf Sg i,ptz D4,r,vb,Sf Sg f.blocks.length,Sf Sg b,vp,Sf Sg (nth f.blocks b).phis.length,Sf Sg i,vq,Sf Sg x.ins.length,Sf Sg j])
    (λr j h6=>Mine nothing h5 h6 nothing T.int r ((x.ins.map InD.val).take j)) x.ins.length (Sn Sk 0 0)
    rfl S0 rfl (Mine.start bK) (λ_ _=>rfl) (λv i h1 hk m=>by simp) ?_ ?_
   ·rintro r j h6 hltj m6 K4 hK4;have cq6:=cq.2.mono m6.old;obtain⟨u6,hu6,hur6⟩:=cq6.wh rfl (N:=2) rfl hltj;refine ab λq hq=>?_;simp(disch:=omega)[cq6.idxn (N:=2) rfl,hu6 _ Sb];refine dv (z:=zz1) R9 rfl R9 hur6 S3 S3 λh7 hle7 hsz7 hat7=>?_;have e1:=(Dy (hat7 (vw h7) hle7 rfl)).2;have rv:=((hat7 (vw h7) hle7 rfl).part InD.Ev).rng;generalize h6.size=D6 at e1;subst hq;simp[e1];have hl8:((x.ins.map InD.val).take j).length=j:=by simp;omega
    refine(m6.ext' hle7).push (d:=(nth x.ins j).val) El.aV (by simp<;>rfl) (px rv.1 rv.2) S0 S0 S3 S3 λu8 v8 h8 m8=>?_;refine hK4 v8 _ _ rfl rfl ?_;rw[RQ,Qn,Pk hltj];rw[ay hltj]at m8;exact m8
   rintro r h6 m6;rw[OK Sa]at m6;simp;subst hy;simp(disch:=omega)[ae m6.old c0];refine lH (X:=nothing) (ds:=[x.dst]) (vs:=[Sf Sg x.dst]) rfl El.aV Sa ⟨bO.2 ⟨rfl,rd⟩,trivial⟩ bK rfl S0 λu7 h7 hle7 hsz7 hu7 _=>?_;have hle47:=Sc hle5 (Sc m6.old hle7);have j7:=hJ.ext j4 hle47;have hW7:=Sc hW4 (bZ (h':=h7) (hJ.le j4));have pre:(thTo f b++rows (phiT f b) i)++[phiT f b i] <+: aB f:=by rw[ON,<-eY];exact(Ao ((BY hlti).trans ⟨_,(ON ..).symm⟩)).trans hpre
   rw[hpt]at pre;refine aU (ops:=[.tmp 43,.tmp 45,.tmp 48,.tmp 49]) rfl hg (hstep _ ⟨b,-1-i,[x.dst],x.ins.map InD.val⟩ _ h7 u7 r (Sc hVW3 hW7) pre j7 (hu7 _ bK (cU (by have:=cm hle5;have:=cm m6.old;omega))) (m6.fresh.mono (xt (cm hle5) hle7))) ?_;rintro _ h8 j8;exact hK3 () _ _ rfl rfl ⟨_,hW7,by rw[eY,<-List.append_assoc,hpt];exact j8⟩
  rintro _ h4 ⟨W4,hW4,j4⟩;simp;subst hz;refine ab λz hz=>?_;have hW4h:=Sc hW4 (hJ.le j4);simp[ae hW4h bi.1,(bi.2.mono hW4h).len];refine aR [1,4,5,14,15,16,53,54,55] (fun(_:Unit) i=>[.func (.func gf) #[] caps.toArray,Sf Sg b,ptz D,vb,Sf Sg f.blocks.length,Sf Sg b,vi,Sf Sg (nth f.blocks b).ins.length,Sf Sg i])
   (λ_ i h5=>∃W,W3.le W/\J (thTo f b++rows (phiT f b) (nth f.blocks b).phis.length++rows (insT f b) i) W h5) (nth f.blocks b).ins.length ()
   rfl S0 rfl ⟨W4,hW4,by simpa using j4⟩ (λ_ _=>rfl) (λv i h1 hk m=>by simp) ?_ ?_
  ·rintro _ i h5 hlti ⟨W5,hW5,j5⟩ K3 hK3;have bi5:=bi.2.mono (Sc hW5 (hJ.le j5));obtain⟨u5,hu5,hur5⟩:=(bi.2.mono hW5).wh rfl (N:=5) rfl hlti;refine ab λy hy=>?_;simp(disch:=omega)[bi5.idxn (N:=5) rfl,hu5 _ (hJ.le j5)];refine dv (z:=zz5) R9 rfl R9 hur5 S3 S3 λh6 hle6 hsz6 hat6=>?_;have hatg:=hat6 (grow W5 h5 h6) (bZ (hJ.le j5)) (cU (OA _));have hat6':=hatg.mono (jM (Sc (hJ.le j5) hle6));obtain⟨_,_,_,vq,cq⟩:=kJ hatg;obtain⟨w,w1,w2⟩:=hat6'.bV rfl;have w1:Un.ev (vw h6) (.bV 5) (ptz h5.size)=Sj w:=w1;have hpt:insT f b i=⟨b,i,bg (nth (nth f.blocks b).ins i),(nth (nth f.blocks b).ins i).args⟩:=rfl;generalize nth (nth f.blocks b).ins i=x at cq w2 hpt;generalize h5.size=D5 at cq w1;subst hy;have hg6:(grow W5 h5 h6).le (vw h6):=jM (Sc (hJ.le j5) hle6);refine aO (vw h6) Sb ?_;simp[ae hg6 cq.1,w1];refine af R9 (A3 w2) ?_;rintro u7 h7 ⟨hle7,hu7⟩;refine⟨hle7,?_⟩;have hle57:=Sc hle6 hle7;have j7:=hJ.ext j5 hle57;have hW7:=Sc hW5 (bZ (h':=h7) (hJ.le j5));have pre:(thTo f b++rows (phiT f b) (nth f.blocks b).phis.length++rows (insT f b) i)++[insT f b i] <+: aB f:=by rw[ON,<-eY,ON];refine(Ao ?_).trans hpre;exact(Ao (BY hlti)).trans ⟨_,rfl⟩
   rw[hpt]at pre;refine aU (ops:=[.tmp 61,.tmp 62,.tmp 64,.tmp 66]) rfl hg (hstep _ ⟨b,i,bg x,x.args⟩ _ h7 u7 vq (Sc hVW3 hW7) pre j7 (hu7.mono (xt (cm hle6) Sb)) (cq.2.mono (Ga hle7))) ?_;rintro _ h8 j8;exact hK3 () _ _ rfl rfl ⟨_,hW7,by rw[eY,<-List.append_assoc,hpt];exact j8⟩
  rintro _ h5 ⟨W5,hW5,j5⟩;simp;subst hz;have hW5h:=Sc hW5 (hJ.le j5);simp[ae hW5h bi.1,(bi.2.mono hW5h).len,ae hW5h ba.1];have pre:(thTo f b++rows (phiT f b) (nth f.blocks b).phis.length++rows (insT f b) (nth f.blocks b).ins.length)++[endT f b] <+: aB f:=by rw[ON,ON,<-List.append_assoc (rows _ _)];exact hpre
  refine aU (ops:=[.tmp 70,.tmp 73,.const (Sn Sk 0 0),.tmp 76]) rfl hg (hstep _ ⟨b,(nth f.blocks b).ins.length,[],(nth f.blocks b).term.args⟩ _ h5 (Sn Sk 0 0) va (Sc hVW3 hW5) pre j5 aQ (ba.2.mono hW5)) ?_;rintro _ h6 j6;refine hK2 () _ _ rfl rfl ⟨_,Sc hVW3 hW5,?_⟩;have e:thTo f (b+1)=(thTo f b++rows (phiT f b) (nth f.blocks b).phis.length++rows (insT f b) (nth f.blocks b).ins.length)++[endT f b]:=by rw[fl,thB];simp[ON]
  rw[e];exact j6
 rintro _ h2 ⟨W2,hW2,j2⟩;simp;exact hK _ _ ⟨W2,hW2,j2⟩
theorem pZ {α β:Type} (I:β->Prop) {f:β->α->β} (hf : ∀x a,I x->I (f x a)) : ∀(l:List α) (x:β),I x->I (l.foldl f x)
 | [],_,h=>h
 | a::l,x,h=>pZ I hf l _ (hf x a h)
theorem xg{β:Type}{x:Nat->β}{n:Nat}{y:β}:y∈rows x n↔∃i,i<n/\y=x i:=by simp only[rows,PG,PT];exact⟨λ⟨i,h,e⟩=>⟨i,h,e.symm⟩,λ⟨i,h,e⟩=>⟨i,h,e.symm⟩⟩
theorem dS{f:an}{n:Nat}{t:Th}:t∈thTo f n↔∃b,b<n/\t∈thB f b:=by
 induction n with
 | zero=>simp[thTo,up]
 | succ n ih=>
  rw[fl,OE,ih];constructor
  ·rintro(⟨b,h1,h2⟩ | h)
   ·exact⟨b,by omega,h2⟩
   exact⟨n,by omega,h⟩
  rintro⟨b,h1,h2⟩;rcases OD b n with h | h
  ·exact .inl ⟨b,h,h2⟩
  rw[show b=n by omega]at h2;exact .inr h2
theorem fg{f:an}{b:Nat}{t:Th}:t∈thB f b↔(∃i,i<(nth f.blocks b).phis.length/\t=phiT f b i)\/(∃i,i<(nth f.blocks b).ins.length/\t=insT f b i)\/t=endT f b:=by simp only[thB,OE,xg,OC,or_assoc]
theorem Df{i:InsD}:(bg i).length<=2:=by unfold bg;split<;>(try split)<;>simp
structure ThOk (f:an) (t:Th):Prop where
 blk:0<=t.blk/\t.blk<f.blocks.length
 place:-10000<=t.place/\t.place<=10000
 mks:t.mks.length<=10000
 tks:t.tks.length<=10000
 ins:0<=t.place->t.mks≠[]->t.place<(nth f.blocks t.blk.toNat).ins.length
theorem AJ{f:an}(hsm:SmF f){t:Th}(h:t∈aB f):ThOk f t:=by
 obtain⟨b,hb,h⟩:=dS.1 h;have s:=hsm.blk b hb;have sp:=s.phis;have si:=s.ins;rcases fg.1 h with⟨i,hi,rfl⟩ | ⟨i,hi,rfl⟩ | rfl
 ·exact⟨⟨by simp[phiT],by simp[phiT];omega⟩,by simp only[phiT];omega,by simp[phiT],by simpa[phiT]using s.phi i hi,λh=>by simp only[phiT]at h;omega⟩
 ·refine⟨⟨by simp[insT],by simp[insT];omega⟩,by simp only[insT];omega,OY Df S1,s.inn i hi,λ_ _=>by simp[insT];omega⟩
 exact⟨⟨by simp[endT],by simp[endT];omega⟩,by simp only[endT];omega,by simp[endT],s.args,λ_ h=>absurd rfl h⟩
theorem xe {f:an} (hsm:SmF f) : ∀{n:Nat},n<=f.blocks.length->(thTo f n).length<=n*20001
 | 0,_=>by simp[thTo,up]
 | n+1,h=>by have ih:=xe hsm (n:=n) S0;have s:=hsm.blk n S0;have sp:=s.phis;have si:=s.ins;rw[fl,OI,thB];simp only[OI,nK,OW];omega
theorem CL{f:an}(hsm:SmF f):(aB f).length<=200010000:=by have:=xe hsm (OA f.blocks.length);have:=hsm.len;unfold aB;omega
abbrev WL:=List (Int × Int)
def bT (val:Int) (w:Int × Int) (l:WL) (n:Int):WL:=if n=val then l++[w] else l
def Ak (val:Int) (l:WL) (t:Th):WL:=t.mks.foldl (bT val (t.blk,t.place)) l
def qO (val:Int) (l:WL) (t:Th):WL:=t.tks.foldl (bT val (t.blk,t.place)) l
variable{val:Int}
theorem kK{w:Int × Int}{ns:List Int}: ∀{l:WL},(ns.foldl (bT val w) l).length<=l.length+ns.length:=by
 induction ns with
 | nil=>simp
 | cons n ns ih=>
  intro l;rw[O3];have:=ih (l:=bT val w l n);have h2:(bT val w l n).length<=l.length+1:=by unfold bT;split<;>simp
  simp only[Py];omega
theorem ya{F:WL->Th->WL}{c:Nat}{l:List Th}(h : ∀t∈l,∀x,(F x t).length<=x.length+c): ∀(x:WL),(l.foldl F x).length<=x.length+l.length*c:=by
 induction l with
 | nil=>simp
 | cons t l ih=>intro x;rw[O3];have h1:=ih (λt ht=>h t (OL _ ht)) (F x t);have h2:=h t (OM ..) x;simp only[Py,PC];omega
def sF (B1:Nat) (v1:Value) (l1:WL) (B2:Nat) (v2:Value) (l2:WL):Own:=λk=>if k=(0,0) then bx T.bN B1 (Raw.mk v1) else if k=(0,1) then it T.jy v1 l1 else if k=(1,0) then bx T.bN B2 (Raw.mk v2) else if k=(1,1) then it T.jy v2 l2 else Sk
structure Fo (val:Int) (C B1 B2:Nat) (l1 l2:WL) (W:View) (h:Heap):Prop where
 box:ak W ⟨C,0,Sk⟩=Sj (Sf Sg val)
 ex : ∃v1 v2,Owns W h (sF B1 v1 l1 B2 v2 l2)
theorem Fo.le {val:Int} {C B1 B2:Nat} {l1 l2:WL} {W:View} {h:Heap} (k:Fo val C B1 B2 l1 l2 W h):W.le (vw h):=let ⟨_,_,w⟩:=k.ex;w.wle
theorem Fo.ext {val:Int} {C B1 B2:Nat} {l1 l2:WL} {W:View} {h h':Heap} (k:Fo val C B1 B2 l1 l2 W h) (hle:(vw h).le (vw h')):Fo val C B1 B2 l1 l2 (grow W h h') h':=
 ⟨ae (bZ k.le) k.box,let ⟨v1,v2,w⟩:=k.ex;⟨v1,v2,w.ext hle⟩⟩
theorem Hn{blk place:Int}{C B1 B2:Nat}{l1 l2:WL}{ms ts:List Int}{vm vt:Value}{W:View}{h:Heap}(k:Fo val C B1 B2 l1 l2 W h)(hm:SlRd W vm ms)(ht:SlRd W vt ts)(r1:-10000<=blk/\blk<=10000)(r2:-10000<=place/\place<=10000)(b1:l1.length+ms.length<=2000100000000)(b2:l2.length+ts.length<=2000100000000):
  aw Ss 46 #[Sf Sg blk,Sf Sg place,vm,vt,ptz C,ptz B1,ptz B2] h
   (λ_ h2=>Fo val C B1 B2 (ms.foldl (bT val (blk,place)) l1) (ts.foldl (bT val (blk,place)) l2) W h2):=by
 refine aj (args:=[Sf Sg blk,Sf Sg place,vm,vt,ptz C,ptz B1,ptz B2]) follows Tryz.func46 E.bG S8 λK hK=>?_;have bm:=hm.bound;have bt:=ht.bound;dsimp only[L.bG,lkF,lkG];refine ab λz hz=>?_;simp[(hm.mono k.le).len];refine aR [0,1,3,4,5,6,15,16,17] (fun(_:Unit) i=>[Sf Sg blk,Sf Sg place,vt,ptz C,ptz B1,ptz B2,vm,Sf Sg ms.length,Sf Sg i])
  (λ_ i h1=>Fo val C B1 B2 ((ms.take i).foldl (bT val (blk,place)) l1) l2 W h1) ms.length ()
  rfl S0 rfl k (λ_ _=>rfl) (λv i h1 hk m=>by simp) ?_ ?_
 ·rintro _ i h1 hlt k1 K2 hK2;have hm1:=hm.mono k1.le;have hst:(ms.take (i+1)).foldl (bT val (blk,place)) l1=bT val (blk,place) ((ms.take i).foldl (bT val (blk,place)) l1) (nth ms i):=by rw[OS hlt,Qo,ay hlt];rfl
  have hlen:=kK (val:=val) (w:=(blk,place)) (ns:=ms.take i) (l:=l1);rw[Pp]at hlen;generalize (ms.take i).foldl (bT val (blk,place)) l1=y at k1 hst hlen;refine ab λz hz=>?_;simp(disch:=omega)[hm1.idx1 rfl,hm1.int Sb];subst hz;refine ab λz hz=>?_;simp[ae k1.le k1.box];subst hz;by_cases he:nth ms i=val
  ·rw[bT,if_pos he]at hst;obtain⟨v1,v2,w⟩:=k1.ex;have hbx:=(w.at (k:=(0,0)) (d:=Raw.mk v1) (B:=B1) (e:=T.bN) rfl).raw;simp[he,hbx];refine az (z:=zz1) (places:=zpd) (vs:=[(0,Sf Sg blk),(1,Sf Sg place)]) (cs:=#[Sf Sg blk,Sf Sg place]) R9 R9 Sa R9 ?_;refine w.ji (k:=(0,1)) (α:=Int × Int) (d:=(blk,place)) rfl El.bN rfl (qP.2 ⟨rfl,S4,by omega,by omega⟩) S0 S0 (λ_=>rfl) (λ_=>rfl) λu v' h2 w2 hs2=>?_;have hc:=w2.cells (k:=(0,1)) (Own.ao);refine w2.iE (k:=(0,0)) (D:=Raw.mk v1) (B:=B1) (e:=T.bN) (Part.all) (d:=Raw.mk v') rfl R9 rfl rfl (nz.2 ⟨rfl,hc.2⟩) λh3 w3 hs3=>?_;refine hK2 () _ _ rfl rfl ⟨k1.box,v',v2,w3.congr λq=>?_⟩;rw[hst];unfold sF Own.upd;repeat' split
   all_goals first | rfl | simp_all
  rw[bT,if_neg he]at hst;simp[he];exact hK2 () _ _ rfl rfl (by rw[hst];exact k1)
 rintro _ h1 k1;rw[Pu]at k1;simp;subst hz;simp[(ht.mono k1.le).len];generalize ms.foldl (bT val (blk,place)) l1=m1 at k1 hK;refine aR [0,1,4,5,6,31,32,33] (fun(_:Unit) i=>[Sf Sg blk,Sf Sg place,ptz C,ptz B1,ptz B2,vt,Sf Sg ts.length,Sf Sg i])
  (λ_ i h2=>Fo val C B1 B2 m1 ((ts.take i).foldl (bT val (blk,place)) l2) W h2) ts.length ()
  rfl S0 rfl k1 (λ_ _=>rfl) (λv i h1 hk m=>by simp) ?_ ?_
 ·rintro _ i h2 hlt k2 K2 hK2;have ht2:=ht.mono k2.le;have hst:(ts.take (i+1)).foldl (bT val (blk,place)) l2=bT val (blk,place) ((ts.take i).foldl (bT val (blk,place)) l2) (nth ts i):=by rw[OS hlt,Qo,ay hlt];rfl
  have hlen:=kK (val:=val) (w:=(blk,place)) (ns:=ts.take i) (l:=l2);rw[Pp]at hlen;generalize (ts.take i).foldl (bT val (blk,place)) l2=y at k2 hst hlen;refine ab λz hz=>?_;simp(disch:=omega)[ht2.idx1 rfl,ht2.int Sb];subst hz;refine ab λz hz=>?_;simp[ae k2.le k2.box];subst hz;by_cases he:nth ts i=val
  ·rw[bT,if_pos he]at hst;obtain⟨v1,v2,w⟩:=k2.ex;have hbx:=(w.at (k:=(1,0)) (d:=Raw.mk v2) (B:=B2) (e:=T.bN) rfl).raw;simp[he,hbx];refine az (z:=zz1) (places:=zpd) (vs:=[(0,Sf Sg blk),(1,Sf Sg place)]) (cs:=#[Sf Sg blk,Sf Sg place]) R9 R9 Sa R9 ?_;refine w.ji (k:=(1,1)) (α:=Int × Int) (d:=(blk,place)) rfl El.bN rfl (qP.2 ⟨rfl,S4,by omega,by omega⟩) S0 S0 (λ_=>rfl) (λ_=>rfl) λu v' h3 w2 hs2=>?_;have hc:=w2.cells (k:=(1,1)) (Own.ao);refine w2.iE (k:=(1,0)) (D:=Raw.mk v2) (B:=B2) (e:=T.bN) (Part.all) (d:=Raw.mk v') rfl R9 rfl rfl (nz.2 ⟨rfl,hc.2⟩) λh4 w3 hs3=>?_;refine hK2 () _ _ rfl rfl ⟨k2.box,v1,v',w3.congr λq=>?_⟩;rw[hst];unfold sF Own.upd;repeat' split
   all_goals first | rfl | simp_all
  rw[bT,if_neg he]at hst;simp[he];exact hK2 () _ _ rfl rfl (by rw[hst];exact k2)
 rintro _ h2 k2;rw[Pu]at k2;simp;exact hK _ _ k2
def ma (val:Int) (l:List Th):WL:=l.foldl (Ak val) []
def jq (val:Int) (l:List Th):WL:=l.foldl (qO val) []
def lP (l1 l2:WL):Bool:=!decide (l1.length=1)||!decide (l2.length=1)||decide ((nth l1 0).2<0)||!decide ((nth l1 0).1=(nth l2 0).1)||decide ((nth l2 0).2<=(nth l1 0).2)
def jD (f:an) (val:Int) (l1 l2:WL):Bool:=!lP l1 l2&&(decide ((nth (nth f.blocks (nth l1 0).1.toNat).ins (nth l1 0).2.toNat).dst=val)&&[1,2,4,11,12,13].contains (nth (nth f.blocks (nth l1 0).1.toNat).ins (nth l1 0).2.toNat).op)
def cS (f:an) (val:Int):Bool:=jD f val (ma val (aB f)) (jq val (aB f))
theorem q7{w x:Int × Int}{ns:List Int}: ∀{l:WL},x∈ns.foldl (bT val w) l↔x∈l\/(x=w/\val∈ns):=by
 induction ns with
 | nil=>simp
 | cons n ns ih=>intro l;rw[O3,ih,bT];grind
theorem lQ{x:Int × Int}{l:List Th}: ∀{y:WL},x∈l.foldl (Ak val) y↔x∈y\/∃t∈l,x=(t.blk,t.place)/\val∈t.mks:=by
 induction l with
 | nil=>simp
 | cons t l ih=>
  intro y;rw[O3,ih,Ak,q7];simp only[OQ,exists_eq_or_imp];constructor
  ·rintro((h | h) | h)
   ·exact .inl h
   ·exact .inr (.inl h)
   exact .inr (.inr h)
  rintro(h | h | h)
  ·exact .inl (.inl h)
  ·exact .inl (.inr h)
  exact .inr h
theorem uZ{f:an}{v:Value}{h:Heap}(hv:Rd (vw h) v f)(hsm:SmF f)(hval:I64 val):aw Ss 28 #[v,Sf Sg val] h (λu h'=>u = .bool (cS f val)/\(vw h).le (vw h')):=by
 refine aj (args:=[v,Sf Sg val]) follows Tryz.func28 E.jP S8 λK hK=>?_;dsimp only[L.jP,lkF,lkG];refine ab λz hz=>?_;simp;refine fI rfl hv λh1 e1 hle1 hs1 hat=>?_;refine fI (α:=Int) rfl (bO.2 ⟨rfl,hval⟩) λh2 e2 hle2 hs2 hat2=>?_;have hatf:=hat.mono hle2;obtain⟨u,hu,hur⟩:=hatf.bV rfl;have hu:Un.ev (vw h2) (.bV 2) (ptz h.size)=Sj u:=hu;obtain⟨cp,vb,cb⟩:=iZ hatf;have cval:=hat2.int;generalize hB:h.size=B at hu cp cb;generalize hC:h1.size=C at cval;subst hz;refine ab λz hz=>?_;simp;refine dC (z:=Sn Sk 0 0) R9 ?_;refine dC (z:=Sn Sk 0 0) R9 ?_;have q1:=bP h2 (.cells (Sn Sk 0 0).cells T.bN);generalize e3:h2.push (.cells (Sn Sk 0 0).cells T.bN)=h3 at q1;have b3:h3[h2.size]? = Sj (.cells (Sn Sk 0 0).cells T.bN (0,0)):=by rw[<-e3];simp
 have s3:h3.size=h2.size+1:=by rw[<-e3];simp
 have q2:=bP h3 (.cells (Sn Sk 0 0).cells T.bN);generalize e4:h3.push (.cells (Sn Sk 0 0).cells T.bN)=h4 at q2;have b4:h4[h3.size]? = Sj (.cells (Sn Sk 0 0).cells T.bN (0,0)):=by rw[<-e4];simp
 have hle24:=Sc q1 q2;have w0:Owns (vw h2) h4 (sF h2.size (Sn Sk 0 0) [] h3.size (Sn Sk 0 0) []):=by
  have w1:=(Owns.start (h:=h2) (View.le_refl (vw h2))).add (k:=(0,0)) rfl (jS (h:=h3) (e:=T.bN) (d:=Raw.mk (Sn Sk 0 0)) b3 (nz.2 ⟨rfl,rfl⟩) S1) q1 (λb hb=>by simp only[Value.ownBlock,Ow]at hb;omega);have w2:=w1.add (k:=(1,0)) rfl (jS (h:=h4) (e:=T.bN) (d:=Raw.mk (Sn Sk 0 0)) b4 (nz.2 ⟨rfl,rfl⟩) S1) q2 (λb hb=>by simp only[Value.ownBlock,Ow]at hb;omega);have w3:=w2.add (k:=(0,1)) rfl (OwnT.nil (α:=Int × Int) (vw h2) h4 T.jy) Sb (λb hb=>by simp[Value.ownBlock]at hb);have w4:=w3.add (k:=(1,1)) rfl (OwnT.nil (α:=Int × Int) (vw h2) h4 T.jy) Sb (λb hb=>by simp[Value.ownBlock]at hb);refine w4.congr λq=>?_;unfold sF Own.upd;repeat' split
  all_goals first | rfl | simp_all
 have k0:Fo val C h2.size h3.size [] [] (vw h2) h4:=⟨cval,_,_,w0⟩;have hu4:Un.ev (vw h4) (.bV 2) (ptz B)=Sj u:=by have:=dD (ρ:=λ_=>Sk) (e:=.un (.bV 2) (.con (ptz B))) hle24 (v:=u) (by simpa using hu);simpa using this
 generalize h2.size=B1 at k0;generalize h3.size=B2 at k0;subst hz;refine ab λz hz=>?_;simp[hu4];have hml:=CL hsm;refine af R9 (FK (caps:=[ptz C,ptz B1,ptz B2]) (J:=λl W h=>Fo val C B1 B2 (ma val l) (jq val l) W h) hur hsm ⟨λk=>k.le,λk hle=>k.ext hle⟩ R9 k0 λl t W h5 vm vt hVW hpre k hm ht=>?_) ?_
 ·have hmem : ∀x∈l++[t],ThOk f x:=λx hx=>AJ hsm (hpre.subset hx);have hll:=hpre.length_le;rw[OI,OW]at hll;have ot:=hmem t Sa;have hl:=hsm.len;have c1:=ya (F:=Ak val) (c:=10000) (l:=l) (λt ht x=>OY kK (Rz (hmem t (by simp[ht])).mks _)) [];have c2:=ya (F:=qO val) (c:=10000) (l:=l) (λt ht x=>OY kK (Rz (hmem t (by simp[ht])).tks _)) [];have c1':(ma val l).length<=l.length*10000:=by simpa[ma]using c1
  have c2':(jq val l).length<=l.length*10000:=by simpa[jq]using c2
  have o1:=ot.mks;have o2:=ot.tks;have ob:=ot.blk;refine(Hn k hm ht S0 ot.place S0 S0).mono λ_ h6 k6=>?_;have e1:ma val (l++[t])=t.mks.foldl (bT val (t.blk,t.place)) (ma val l):=by rw[ma,Qo];rfl
  have e2:jq val (l++[t])=t.tks.foldl (bT val (t.blk,t.place)) (jq val l):=by rw[jq,Qo];rfl
  simp only[e1,e2];exact k6
 rintro _ h5 ⟨W,hVW,k⟩;have hin : ∀w∈ma val (aB f),0<=w.1/\w.1<f.blocks.length/\(0<=w.2->w.2<(nth f.blocks w.1.toNat).ins.length):=by
  intro w hw;rcases lQ.1 hw with h | ⟨t,ht,rfl,hv⟩
  ·cases h
  have ot:=AJ hsm ht;exact⟨ot.blk.1,ot.blk.2,λh=>ot.ins h (λe=>by rw[e]at hv;cases hv)⟩
 have hfs:cS f val=jD f val (ma val (aB f)) (jq val (aB f)):=rfl;rw[hfs]at hK;generalize ma val (aB f)=l1 at k hin hK;generalize jq val (aB f)=l2 at k hK;obtain⟨v1,v2,w⟩:=k.ex;have hb1:=(w.at (k:=(0,0)) (d:=Raw.mk v1) (B:=B1) (e:=T.bN) rfl).raw;have hb2:=(w.at (k:=(1,0)) (d:=Raw.mk v2) (B:=B2) (e:=T.bN) rfl).raw;have n1:=w.now (k:=(0,1)) (v:=v1) (l:=l1) rfl;have n2:=w.now (k:=(1,1)) (v:=v2) (l:=l2) rfl;have hle5:=Sc hVW w.wle;have hle:=Sc hle1 (Sc hle2 hle5);have cb5:=cb.2.mono hle5;have cc5:=ae hle5 cb.1;have cv5:=ae hle5 cval;subst hz;refine ab λz hz=>?_;have no:lP l1 l2=Sq->K (.bool Sr) h5:=λe=>hK _ _ ⟨by rw[jD,e];rfl,hle⟩;by_cases hA:l1.length=1
 ·by_cases hB2:l2.length=1
  ·have i1 : ∀kd,Bn.ev (.idx 2) v1 (.int kd 0)=Sj (Sp (Sj (slA v1))):=λkd=>by have:=n1.idxn (N:=2) rfl (k:=kd) (i:=0) S0 S0;simpa[Addr.add]using this
   have i2 : ∀kd,Bn.ev (.idx 2) v2 (.int kd 0)=Sj (Sp (Sj (slA v2))):=λkd=>by have:=n2.idxn (N:=2) rfl (k:=kd) (i:=0) S0 S0;simpa[Addr.add]using this
   obtain⟨a0,a1⟩:=n1.Em Sb (i:=0) S0;obtain⟨d0,d1⟩:=n2.Em Sb (i:=0) S0;have z1 : ∀a:Addr,a.add (0*2)=a:=λa=>by simp[Addr.add]
   rw[z1]at a0 a1 d0 d1;have hw:=hin (nth l1 0) (aS S0);have hbad:lP l1 l2=(decide ((nth l1 0).2<0)||!decide ((nth l1 0).1=(nth l2 0).1)||decide ((nth l2 0).2<=(nth l1 0).2)):=by simp[lP,hA,hB2]
   rw[hbad]at no;have hfb:jD f val l1 l2=(!(decide ((nth l1 0).2<0)||!decide ((nth l1 0).1=(nth l2 0).1)||decide ((nth l2 0).2<=(nth l1 0).2))&&(decide ((nth (nth f.blocks (nth l1 0).1.toNat).ins (nth l1 0).2.toNat).dst=val)&&[1,2,4,11,12,13].contains (nth (nth f.blocks (nth l1 0).1.toNat).ins (nth l1 0).2.toNat).op)):=by rw[jD,hbad]
   rw[hfb]at hK;generalize nth l1 0=w1 at a0 a1 hw no hK;generalize nth l2 0=w2 at d0 d1 no hK;by_cases c3:w1.2<0
   ·simp[hb1,hb2,n1.len,n2.len,hA,hB2,i1,i2,a0,a1,d0,d1,c3];exact no (by simp[c3])
   by_cases c4:w1.1=w2.1
   ·by_cases c5:w2.2<=w1.2
    ·simp[hb1,hb2,n1.len,n2.len,hA,hB2,i1,i2,a0,a1,d0,d1,c3,c4,c5];exact no (by simp[c5])
    have hs:(!(decide (w1.2<0)||!decide (w1.1=w2.1)||decide (w2.2<=w1.2)))=true:=by simp[c3,c4,c5]
    rw[hs,QK]at hK;have hw2:=hw.2.2 S0;obtain⟨ul,hul⟩:=((cb5.at (i:=w1.1.toNat) S0).part BlkD.mB).sl;rw[<-ay S0]at hul;have hul1:ak (vw h5) (((slA vb).add (w1.1.toNat*6)).add 1)=Sj ul:=hul.1;obtain⟨ui,hui,huir⟩:=hul.2.wh rfl (N:=5) rfl (i:=w1.2.toNat) S0;have hli:=hul.2;generalize nth (nth f.blocks w1.1.toNat).ins w1.2.toNat=x at huir hK;simp[hb1,hb2,n1.len,n2.len,hA,hB2,i1,i2,a0,a1,d0,d1,c3,c5,<-c4];subst hz;refine ab λz hz=>?_;have z0 : ∀a:Addr,a.add 0=a:=λa=>by simp[Addr.add]
    refine aO (vw h5) Sb ?_;simp(disch:=omega)[hb1,i1,a0,a1,cc5,cb5.idxn (N:=6) rfl,hul1,hli.idxn (N:=5) rfl,hui _ Sb];refine dC (z:=zz5) R9 ?_;have hle6:=bP h5 (.cells (Value.cells (.agg #[Sf Sg 0,Sf Sg 0,Sf Sg 0,Sn Sk 0 0,Sf Si 0])) T.eA);have hb6:(h5.push (.cells (Value.cells (.agg #[Sf Sg 0,Sf Sg 0,Sf Sg 0,Sn Sk 0 0,Sf Si 0])) T.eA))[h5.size]? = Sj (.cells (Value.cells (.agg #[Sf Sg 0,Sf Sg 0,Sf Sg 0,Sn Sk 0 0,Sf Si 0])) T.eA (0,0)):=by simp
    generalize h5.push (.cells (Value.cells (.agg #[Sf Sg 0,Sf Sg 0,Sf Sg 0,Sn Sk 0 0,Sf Si 0])) T.eA)=h6 at hle6 hb6;refine⟨hle6,?_⟩;obtain⟨g1,g2,g3⟩:=gN huir;refine eK (g:=h5.size) (o:=0) (n:=5) (v:=ui) R9 rfl rfl g2 g3 hb6 Sa λh7 hs7 ⟨row,hr7,he7⟩ ho7=>?_;have hrow:row=ui.cells:=by have g2':ui.cells.size=5:=g2;rw[<-Array.toList_inj,he7];simp
    rw[hrow]at hr7;have hle7:(vw h5).le (vw h7):=λb o hb=>by have hlt:=View.lt (View.le_refl (vw h5)) hb;show h7[b]? = _;rw[ho7 b S0];exact hle6 b o hb
    have hat7:At (vw h7) ⟨h5.size,0,Sk⟩ x:=rO (show vw h7 h5.size=_ from hr7) (huir.mono hle7);obtain⟨q0,q1,_⟩:=kJ hat7;have ro:=(hat7.part InsD.tB).rng;generalize h5.size=D at q0 q1;subst hz;have cv7:=ae hle7 cv5;refine ab λz hz=>?_;by_cases c6:x.dst=val
    ·simp[q0,q1,cv7,c6];refine lH (α:=Int) (X:=nothing) (ds:=[1,2,4,11,12,13]) (vs:=[Sf Sg 1,Sf Sg 2,Sf Sg 4,Sf Sg 11,Sf Sg 12,Sf Sg 13]) rfl El.aV Sa ⟨px S0 S0,px S0 S0,px S0 S0,px S0 S0,px S0 S0,px S0 S0,trivial⟩ bK rfl S0 λu8 h8 hle8 hsz8 hu8 _=>?_;simp[ae hle8 q0];refine af R9 (vO (hu8 (vw h8) bK rfl)) ?_;rintro _ _ ⟨rfl,rfl⟩;simp;subst hz;simp;exact hK _ _ ⟨by simp[c6],Sc hle (Sc hle7 hle8)⟩
    simp[q0,q1,cv7,c6];subst hz;simp;exact hK _ _ ⟨by simp[c6],Sc hle hle7⟩
   simp[hb1,hb2,n1.len,n2.len,hA,hB2,i1,i2,a0,a1,d0,d1,c3,c4];exact no (by simp[c4])
  have hB3:¬(l2.length:Int)=1:=by omega
  simp[hb1,hb2,n1.len,n2.len,hA,hB3];exact no (by simp[lP,hB2])
 have hA3:¬(l1.length:Int)=1:=by omega
 simp[hb1,hb2,n1.len,n2.len,hA3];exact no (by simp[lP,hA])
end Go.Proofs.YtnfiilgdjpdlkaaGreatDoor
namespace Go.Lft
open Go
structure aZ where
 op:Int
 d:Int
 e:Int
 a:Int
 b:Int
 c:Int
 imm:I32
 args:List Int
 deriving Inhabited,DecidableEq
instance:Rep aZ:=Rep.via λx=>Cat.mk x.op (Cat.mk x.d (Cat.mk x.e (Cat.mk x.a (Cat.mk x.b (Cat.mk x.c (Cat.mk x.imm x.args))))))
structure EndD where
 op:Int
 a:Int
 b:Int
 to:List Int
 imm:I32
 deriving Inhabited,DecidableEq
instance:Rep EndD:=Rep.via λx=>Cat.mk x.op (Cat.mk x.a (Cat.mk x.b (Cat.mk x.to x.imm)))
structure FitD where
 takes:List Int
 inner:List Int
 code:List aZ
 fin:EndD
 deriving Inhabited,DecidableEq
instance:Rep FitD:=Rep.via λx=>Cat.mk x.takes (Cat.mk x.inner (Cat.mk x.code x.fin))
structure bY where
 f:an
 i:InsD
 t:cM
 term:Bool
 temp:Int
instance:Rep bY:=Rep.via λx=>Cat.mk x.f (Cat.mk x.i (Cat.mk x.t (Cat.mk x.term x.temp)))
structure eB where
 pat:Int
 cost:Int
 deriving Inhabited,DecidableEq
instance:Rep eB:=Rep.via λx=>Cat.mk x.pat x.cost
end Go.Lft
namespace Go.Proofs.YtnfiilgdjpdlkaaGreatDoor
open Go Go.Lft
def du (f:an):List InsD:=f.blocks.flatMap BlkD.ins
def dQ (v:Int) (i:InsD):Bool:=!decide (i.op=16)&&decide (i.dst=v)
def nS (f:an) (v:Int):Option InsD:=(du f).find? (dQ v)
def iA:InsD:=⟨0,0,0,[],⟨0⟩⟩
def Mh (f:an) (v op:Int):Option InsD->InsD × Bool
 | none=>(iA,Sr)
 | some i=>(i,decide (i.op=op)&&cS f v)
def aD (f:an) (v op:Int):InsD × Bool:=Mh f v op (nS f v)
def inR (n lo hi:Int):Bool:=decide (lo<=n)&&decide (n<=hi)
def dW (f:an) (v lo hi:Int):Int × Bool:=((aD f v 1).1.imm.v,(aD f v 1).2&&inR (aD f v 1).1.imm.v lo hi)
def dH:EndD:=⟨0,0,0,[],⟨0⟩⟩
def Ha:FitD:=⟨[],[],[],dH⟩
def w32 (n:Int):I32:=⟨IntKind.i32.wrap n⟩
def immS (f:an) (i:InsD) (m lo hi sign:Int):Option FitD:=
 if(dW f (nth i.args 1) lo hi).2 then Sj ⟨[nth i.args 0],[nth i.args 1],[⟨m,i.dst,0,nth i.args 0,0,0,w32 (sign*(dW f (nth i.args 1) lo hi).1),[]⟩],dH⟩ else Sk
def gk (i:InsD) (op plain:Int) (m:aZ):aZ:=if op=15 then{ m with d:=i.dst } else if m.op=plain then{ m with b:=nth i.args 1 } else{ m with c:=nth i.args 1 }
def memS (f:an) (i:InsD) (temp op plain sum:Int):Nat->Option FitD
 | 0=>if inR i.imm.v 0 255 then Sj ⟨nth i.args 0::i.args.drop 1,[],[gk i op plain ⟨plain,0,0,nth i.args 0,0,0,i.imm,[]⟩],dH⟩ else Sk
 | 1=>if(aD f (nth i.args 0) 2).2 then
   if(dW f (nth (aD f (nth i.args 0) 2).1.args 1) (-2147483648) 2147483647).2&&inR ((dW f (nth (aD f (nth i.args 0) 2).1.args 1) (-2147483648) 2147483647).1+i.imm.v) 0 255 then
    Sj ⟨nth (aD f (nth i.args 0) 2).1.args 0::i.args.drop 1,[nth i.args 0,nth (aD f (nth i.args 0) 2).1.args 1],
     [gk i op plain ⟨plain,0,0,nth (aD f (nth i.args 0) 2).1.args 0,0,0,w32 ((dW f (nth (aD f (nth i.args 0) 2).1.args 1) (-2147483648) 2147483647).1+i.imm.v),[]⟩],dH⟩
   else Sk
  else Sk
 | 2=>if(aD f (nth i.args 0) 2).2&&decide (i.imm.v=0) then
   Sj ⟨nth (aD f (nth i.args 0) 2).1.args 0::nth (aD f (nth i.args 0) 2).1.args 1::i.args.drop 1,[nth i.args 0],
    [gk i op plain ⟨sum,0,0,nth (aD f (nth i.args 0) 2).1.args 0,nth (aD f (nth i.args 0) 2).1.args 1,0,⟨0⟩,[]⟩],dH⟩
  else Sk
 | _=>Sj ⟨nth i.args 0::i.args.drop 1,[],[⟨4,temp,0,0,0,0,i.imm,[]⟩,gk i op plain ⟨sum,0,0,nth i.args 0,temp,0,⟨0⟩,[]⟩],dH⟩
def opOf (pat:Nat):Int:=
 if pat=1\/pat=2 then 1 else if 3<=pat/\pat<=15 then pat-1 else if pat=16\/pat=22 then 2 else if pat=17 then 3 else if pat=18 then 5 else if 19<=pat/\pat<=21 then pat-11
 else if 23<=pat/\pat<=26 then 15 else if 27<=pat/\pat<=30 then 16 else if pat=31 then 17 else if pat=32 then 18 else 0
def doS (f:an) (i:InsD) (temp:Int) (pat:Nat):Option FitD:=
 if pat=1 then(if inR i.imm.v (-32768) 32767 then Sj ⟨[],[],[⟨3,i.dst,0,0,0,0,i.imm,[]⟩],dH⟩ else Sk)
 else if pat=2 then Sj ⟨[],[],[⟨4,i.dst,0,0,0,0,i.imm,[]⟩],dH⟩
 else if pat<=15 then Sj ⟨i.args,[],[⟨pat+2,i.dst,0,nth i.args 0,nth i.args 1,0,⟨0⟩,[]⟩],dH⟩
 else if pat=16 then immS f i 18 (-128) 127 1
 else if pat=17 then immS f i 18 (-127) 128 (-1)
 else if pat=18 then immS f i 19 (-128) 127 1
 else if pat<=21 then immS f i (pat+1) 0 31 1
 else if pat=22 then(if(aD f (nth i.args 0) 4).2 then
   Sj ⟨[nth (aD f (nth i.args 0) 4).1.args 0,nth (aD f (nth i.args 0) 4).1.args 1,nth i.args 1],[nth i.args 0],[⟨23,i.dst,0,nth (aD f (nth i.args 0) 4).1.args 0,nth (aD f (nth i.args 0) 4).1.args 1,nth i.args 1,⟨0⟩,[]⟩],dH⟩
  else Sk)
 else if pat<=26 then memS f i temp 15 24 25 (pat-23)
 else if pat<=30 then memS f i temp 16 26 27 (pat-27)
 else if pat=31 then Sj ⟨i.args,[],[⟨28,i.dst,0,0,0,0,i.imm,i.args⟩],dH⟩
 else Sj ⟨i.args,[],[⟨29,i.dst,i.two,nth i.args 0,nth i.args 1,0,⟨0⟩,[]⟩],dH⟩
def patS (f:an) (i:InsD) (temp pat:Int):Option FitD:=if 1<=pat/\pat<=32/\i.op=opOf pat.toNat then doS f i temp pat.toNat else Sk
def ic (f:an) (t:cM) (pat:Int):Option FitD:=
 if pat=0/\t.kind=1 then Sj ⟨[],[],[],⟨1,0,0,t.to,⟨0⟩⟩⟩
 else if pat=0/\t.kind=4 then Sj ⟨t.args,[],[],⟨7,if t.args=[] then -1 else nth t.args 0,0,[],⟨0⟩⟩⟩
 else if pat=0/\t.kind=5 then Sj ⟨[],[],[],⟨8,0,0,[],t.imm⟩⟩
 else if pat=33/\t.kind=2 then Sj ⟨t.args,[],[],⟨2,nth t.args 0,0,t.to,⟨0⟩⟩⟩
 else if(34<=pat/\pat<=36)/\t.kind=2 then
  (if(aD f (nth t.args 0) (pat-23)).2 then Sj ⟨(aD f (nth t.args 0) (pat-23)).1.args,t.args,[],⟨pat-31,nth (aD f (nth t.args 0) (pat-23)).1.args 0,nth (aD f (nth t.args 0) (pat-23)).1.args 1,t.to,⟨0⟩⟩⟩ else Sk)
 else if pat=37/\t.kind=3 then Sj ⟨t.args,[],[],⟨6,nth t.args 0,0,t.to,⟨0⟩⟩⟩
 else Sk
def mG:cM:=⟨0,[],[],⟨0⟩⟩
def CF:bY:=⟨⟨0,[]⟩,iA,mG,Sr,0⟩
def cR (f:an) (b p:Int):Bool:=decide (0<=b)&&decide (b<f.blocks.length)&&decide (0<=p)&&decide (p<=(nth f.blocks b.toNat).ins.length)
def dI (f:an) (b p temp:Int):bY:=
 if p=(nth f.blocks b.toNat).ins.length then⟨f,iA,(nth f.blocks b.toNat).term,Sq,temp⟩ else⟨f,nth (nth f.blocks b.toNat).ins p.toNat,mG,Sr,temp⟩
def tryS (s:bY) (pat:Int):Option FitD:=if s.term then ic s.f s.t pat else patS s.f s.i s.temp pat
end Go.Proofs.YtnfiilgdjpdlkaaGreatDoor
namespace Go.Lft
open Go
section
variable {po po2 po3:OP} {pp:PP}
structure RawN (n:Nat) where
 l:List Value
instance {n:Nat}:Rep (RawN n) where
 n:=n+1
 agg:=true
 rd:=λ_ cs d=>cs=d.l/\cs.length=n+1/\∀u∈cs,u.oneCell'=Sq
 mono:=λ_ h=>h
 len:=λh=>h.2.1
 one:=λh=>by cases h
 flat:=λh u hu=>h.2.2 u hu
 pos:=Nat.succ_pos _
 fk:=λh=>h
variable{n:Nat}
theorem sG{H:View}{l:List Value}(h1:l.length=n+1)(h2 : ∀u∈l,u.oneCell'=Sq):Rd H (.agg l.toArray) (RawN.mk (n:=n) l):=by unfold Rd;rw[if_pos (show Rep.agg (RawN n)=Sq from rfl)];exact⟨_,rfl,rfl,h1,h2⟩
theorem RawN.p{o:Nat}(ho:o<=n):Part (RawN n) Raw o (λd=>⟨d.l.getD o undef⟩) (λd x=>⟨d.l.set o x.v⟩) where
 fits:=by show o+1<=n+1;omega
 get:=by
  rintro H cs d ⟨rfl,h1,h2⟩
  have hlt:o<d.l.length:=by omega
  have e:(d.l.drop o).take (Rep.n Raw)=[d.l.getD o undef]:=by
   have:d.l.getD o undef=d.l[o]:=by simp[hlt]
   rw[this]
   show(d.l.drop o).take 1=_
   rw[O6 hlt];rfl
  refine⟨e,?_⟩
  have:d.l.getD o undef=d.l[o]:=by simp[hlt]
  show(d.l.getD o undef).oneCell'=Sq
  rw[this];exact h2 _ (PD hlt)
 set:=by
  rintro H cs us d x ⟨rfl,h1,h2⟩ ⟨rfl,h3⟩
  have hlt:o<d.l.length:=by omega
  have e:d.l.take o++[x.v]++d.l.drop (o+Rep.n Raw)=d.l.set o x.v:=by
   show d.l.take o++[x.v]++d.l.drop (o+1)=_
   rw[Q7,if_pos hlt];simp
  refine⟨e,by simp[e,h1],λu hu=>?_⟩
  rw[e]at hu
  rcases QV hu with h | rfl
  ·exact h2 _ h
  ·exact h3
section
variable {W:View} {h:Heap} {o:Own} {k:Key}
theorem Owns.raw {n:Nat} {e:TypeId} {B:Nat} {l:List Value} (w:Owns W h o) (hk:o k=bx e B (RawN.mk (n:=n) l)) {i:Nat} (hi:i<=n):ak (vw h) ⟨B,i,Sk⟩=Sj (l.getD i undef):=by have:=((w.at hk).part (RawN.p hi)).raw;simpa using this
theorem Owns.xc{e:TypeId}{B:Nat}{l:List Value}(w:Owns W h o)(hk:o k=bx e B (RawN.mk (n:=n) l)):Un.ev (vw h) (.bV (n+1)) (ptz B)=Sj (.agg l.toArray):=by obtain⟨cs,hcs,he,h1,h2⟩:=w.atW hk;have he:cs=l:=he;subst he;have h1:cs.length=n+1:=h1;have:=gG hcs (n+1) 0 #[] S0;simp only[Un.ev,vP,OT];rw[this];simp[h1]
theorem Owns.dK{P:Program}{ty:TypeId}{us:List (Nat × Value)}{t ty2:TypeId}{z:Value}{x y:Operand}{us2:Value->List (Nat × Value)}{l:List Value}{K:Value->Heap->Prop}(w:Owns W h o)(hk:o k=Sk)(hz:(P.info? t).map (·.zero)=Sj (Sj z))(hzc:z.cells.size=n+1)(hsz:cO P t=Sj (n+1))(hl:l.length=n+1)(hn:n+1<=1000)(hone : ∀c∈l,c.oneCell'=Sq)(hx : ∀p,asg (us2 p) x=p)(hy : ∀p,asg (us2 p) y = .agg l.toArray)(hK : ∀h':Heap,(vw h).le (vw h')->Owns W h' (o.upd k (bx t h.size (RawN.mk (n:=n) l)))->K (ptz h.size) h'):
  @step po P (.alloc t) ty us h λp h2=>@step po2 P (.store t x y) ty2 (us2 p) h2 λ_ h3=>K p h3:=
 gA (v:=.agg l.toArray) hz hzc hsz (by simpa[Value.cells]using hl) (by simpa[Value.cells]using hone) hx hy λh' hle hs hb=>hK h' hle
  (w.add hk (jS (d:=RawN.mk (n:=n) l) hb (sG hl hone) hn) hle λb hb=>by simp only[Value.ownBlock,Ow]at hb;omega)
theorem Owns.cC{P:Program}{ty:TypeId}{us:List (Nat × Value)}{t:TypeId}{z:Value}{K:Value->Heap->Prop}(w:Owns W h o)(hk:o k=Sk)(hz:(P.info? t).map (·.zero)=Sj (Sj z))(hzc:z.cells.size=n+1)(hn:n+1<=1000)(hone : ∀c∈z.cells.toList,c.oneCell'=Sq)(hK : ∀h':Heap,(vw h).le (vw h')->Owns W h' (o.upd k (bx t h.size (RawN.mk (n:=n) z.cells.toList)))->K (ptz h.size) h'):
  @step po P (.alloc t) ty us h K:=by
 refine dC hz ?_;have q1:=bP h (.cells z.cells t);have b2:(h.push (.cells z.cells t))[h.size]? = Sj (.cells z.cells t (0,0)):=by simp
 generalize h.push (.cells z.cells t)=h2 at q1 b2;have hz2:(Value.agg z.cells).cells=z.cells:=rfl;refine hK h2 q1 (w.add hk (jS (v:=.agg z.cells) (d:=RawN.mk (n:=n) z.cells.toList) (by rw[hz2];exact b2) ?_ hn) q1 λb hb=>by simp only[Value.ownBlock,Ow]at hb;omega);have:=sG (n:=n) (H:=W) (l:=z.cells.toList) (by simpa using hzc) hone;simpa using this
theorem Owns.dp{P:Program}{ty:TypeId}{us:List (Nat × Value)}{i:Nat}{e t:TypeId}{B:Nat}{l:List Value}{x y:Operand}{u:Value}{K:Value->Heap->Prop}(w:Owns W h o)(hk:o k=bx e B (RawN.mk (n:=n) l))(hi:i<=n)(hsz:cO P t=Sj 1)(hx:asg us x = Sp (Sj ⟨B,i,Sk⟩))(hy:asg us y=u)(hu:u.oneCell'=Sq)(hK : ∀h',Owns W h' (o.upd k (bx e B (RawN.mk (n:=n) (l.set i u))))->(∀X:View,X.le (vw h)->X B=Sk->X.le (vw h'))->K undef h'):@step po P (.store t x y) ty us h K:=
 w.qA (po:=po) (RawN.p hi) (d:=⟨u⟩) hk hsz hx hy (nz.2 ⟨rfl,hu⟩) hK
theorem Owns.lV{P:Program}{ty:TypeId}{us:List (Nat × Value)}{α:Type}[r:Rep α]{e:TypeId}{t:TypeId}{bytes:Nat}{z:Value}{K:Value->Heap->Prop}(w:Owns W h o)(hk:o k=Sk)(hT:ef P t e (Rep.n α) bytes z)(hK : ∀v h',(vw h).le (vw h')->v.oneCell'=Sq->Owns W h' (o.upd k (it e v ([]:List α)))->(∀X:View,X.le (vw h)->Av X v)->K v h'):@step po P (.buildSlice t 0 #[]) ty us h K:=
 tA (α:=α) hT λh' hle hs own=>hK _ h' hle rfl (w.add hk (own W) hle λb hb=>by simp only[Value.ownBlock,Ow]at hb;omega) λX hX b hb=>by simp only[Value.ownBlock,Ow]at hb;subst hb;exact View.cA hX (OA _)
end
abbrev forC (a i c:Nat) (ks ks2:List Nat) (ce:E) (body:LC):LC:=
 .loop (.seq (.seq (.reg Sr (.fin ks [(c,ce)] [])) (.cond (.tmp c) [c] .skip (.exit a)))
  (.seq body (.reg Sr (.fin ks2 [(i,.bin (.arith .add) (.tmp i) (.con (Sf Sg 1)))] []))))
theorem Hd{P:Program}{Q:Post}{ρ:Env}{h:Heap}{a i c:Nat}{ks ks2:List Nat}{ce:E}{body:LC}{σ:Type}(kp:List Nat)(vals:σ->Nat->List Value)(J:σ->Nat->Heap->Prop)(n:Nat)(s0:σ)(hok:uP kp ks ks2 c i=Sq)(hn:n<=9223372036854775806)(h0:bQ kp ρ=kp.zip (vals s0 0))(hj:J s0 0 h)(hi : ∀s k,look (kp.zip (vals s k)) i=Sj (Sf Sg k))(hb : ∀s k h,k<=n->J s k h->ev (look (kp.zip (vals s k))) (vw h) ce=Sj (.bool (decide (k<n))))(round : ∀s k h,k<n->J s k h->∀K:Env->Heap->Prop,(∀s' ρ' h',look ρ' i=Sj (Sf Sg k)->bQ kp (setE ρ' i (Sf Sg ((k:Int)+1)))=kp.zip (vals s' (k+1))->J s' (k+1) h'->K ρ' h')->body.wp P (fj K (ff a Q)) (kp.zip (vals s k)) h)(done : ∀s h,J s n h->Q .normal (kp.zip (vals s n)) h):LC.wp P (forC a i c ks ks2 ce body) (ff a Q) ρ h:=by
 simp only[uP,Po,OG,P1,bne_iff_ne,PA,beq_iff_eq,ne_eq]at hok;refine ja kp (λm ρ h=>∃s k,k<=n/\ρ=kp.zip (vals s k)/\m=n-k/\J s k h) n ⟨s0,0,by omega,h0,by omega,hj⟩ ?_;rintro m ρ h ⟨s,k,hk,rfl,rfl,hJ⟩ K hK;have hkill:bX (kp.zip (vals s k)) ks=kp.zip (vals s k):=mg λp hp=>(hok p.1 (zip_fst hp)).1.1;have hne : ∀p∈kp.zip (vals s k),p.1≠c:=λp hp=>(hok p.1 (zip_fst hp)).1.2;have hk2 : ∀v,bX (setE (kp.zip (vals s k)) c v) [c]=kp.zip (vals s k):=λv=>mJ hne;have hlk : ∀v,look (setE (kp.zip (vals s k)) c v) c=Sj v:=λv=>by rw[ag,if_pos rfl]
 simp only[sJ,lN,jz,gP,lf,mM,hb s k h hk hJ,OT,j0,mY,true_and,dd,hkill,fK,lY,pK,hlk,lG,hk2,tp,sO,oD,nY,if_true];refine⟨λhlt=>?_,λhge=>?_⟩
 ·have hlt':k<n:=by omega
  rw[mP];refine round s k h hlt' hJ _ λs' ρ' h' hl he hJ'=>?_;simp only[lN,jz,gP,lf,mM,lU,pK,hl,mY,true_and,OT,zC,OT,zt,j0,dd,fK,true_and];rw[bC S0 S0];refine hK (n-(k+1)) _ _ S0 ⟨s',k+1,by omega,?_,rfl,hJ'⟩;rw[<-he];refine nL λt ht=>?_;rw[ag,ag,ah];split
  ·rfl
  rename_i hti;rcases(hok t ht).2 with e | e
  ·exact absurd e.symm hti
  rw[e];rfl
 have:k=n:=by omega
 subst this;exact done s h hJ
end
variable {po po2 po3:OP} {pp:PP}
section
variable {W:View} {h:Heap} {o:Own} {k:Key}
end
section
variable {po:OP}
end
end Go.Lft
namespace Go.Lft
open Go
variable {po:OP}
theorem GU {P:Program} {ty t rt e:TypeId} {us:List (Nat × Value)} {h:Heap} {K:Value->Heap->Prop} {x y:Operand} {a:Option Addr} {n c:Nat} (hu:P.underlying t=Sj (.slice e)) (hx:asg us x = .slice a n c) (hy:asg us y = Sn Sk 0 0) (hk:K (.bool a.isNone) h):step P (.binOp .eql t x y rt) ty us h K:=by
 refine cI (cf λw hw=>⟨_,w,?_,Same.refl _,by rw[hw];exact hk⟩);simp only[bI,execOp,hx,hy];have e1:(Op.equal t (.slice a n c) (Sn Sk 0 0)).run P w = .ok a.isNone w:=by show(Op.equalIn (9999+1) t _ _).run P w=_;rw[Op.equalIn];cases a<;>simp[run_underlying hu]
 simp[eqGuard,binOp,e1]
end Go.Lft
namespace Go.Proofs.YtnfiilgdjpdlkaaGreatDoor
open Go Go.Lft
theorem pO{d:InsD}{v:Value}{h:Heap}(hd:Rd (vw h) v d):aw Ss 54 #[v] h (λu h'=>(vw h).le (vw h')/\SlRd (fresh h h') u (bg d)/\(d.op=16->u = Sn Sk 0 0)):=by
 refine aj (args:=[v]) follows Tryz.func54 E.mN S8 λK hK=>?_;simp[L.mN];refine fI rfl hd λh1 _ hle1 hsz1 hat=>?_;obtain⟨c0,c1,c2,va,ca⟩:=kJ hat;have r1:=(hat.part InsD.iy).rng;have r2:=(hat.part InsD.y6).rng;simp[c0];refine⟨λe1=>hK _ _ ⟨hle1,by simpa[bg,e1]using aQ,λ_=>rfl⟩,λe1=>⟨λe2=>?_,λe2=>?_⟩⟩
 ·simp[c1,c2];refine lH (X:=nothing) (ds:=[d.dst,d.two]) (vs:=[Sf Sg d.dst,Sf Sg d.two]) rfl El.aV Sa ⟨bO.2 ⟨rfl,r1⟩,bO.2 ⟨rfl,r2⟩,trivial⟩ bK rfl S0 λu h2 hle2 hsz2 hu _=>?_;exact hK _ _ ⟨Sc hle1 hle2,by simpa[bg,e2]using hu _ bK (by unfold fresh;rw[if_neg S0]),λe=>absurd e e1⟩
 simp[c1];refine lH (X:=nothing) (ds:=[d.dst]) (vs:=[Sf Sg d.dst]) rfl El.aV Sa ⟨bO.2 ⟨rfl,r1⟩,trivial⟩ bK rfl S0 λu h2 hle2 hsz2 hu _=>?_;exact hK _ _ ⟨Sc hle1 hle2,by simpa[bg,e1,e2]using hu _ bK (by unfold fresh;rw[if_neg S0]),λe=>absurd e e1⟩
def qN (op n:Int):Bool:=if op=1 then decide (n=0) else if op=15 then decide (n=1) else if op=17 then decide (n<=4) else decide (n=2)
def kV (t:cM):Bool:=
 if t.kind=1 then decide ((t.args.length:Int)=0)&&decide ((t.to.length:Int)=1)
 else if t.kind=2 then decide ((t.args.length:Int)=1)&&decide ((t.to.length:Int)=2)
 else if t.kind=3 then decide ((t.args.length:Int)=1)&&decide ((2:Int)<=t.to.length)&&decide ((t.to.length:Int)<=65)
 else if t.kind=4 then decide ((t.args.length:Int)<=1)&&decide ((t.to.length:Int)=0)
 else if t.kind=5 then decide ((t.args.length:Int)=0)&&decide ((t.to.length:Int)=0) else Sr
def aH (f:an) (b:Int):List Int:=sift (λa=>decide (b∈(nth f.blocks a).term.to)) (λa=>(a:Int)) f.blocks.length
theorem zB{H:View}{v:Value}{l:List BlkD}(h:SlRd H v l){i:Nat}(hi:i<l.length): ∃u,Sl H ((((slA v).add (i*6)).add 2).add 2) u (nth l i).term.to:=by rw[ay hi];exact((((h.at hi).part BlkD.n7).part cM.Fl)).sl
theorem uK{f:an}{b:Int}{v:Value}{h:Heap}(hv:Rd (vw h) v f)(hn:f.blocks.length<=1000000):
  aw Ss 51 #[v,Sf Sg b] h (λu h'=>(vw h).le (vw h')/\SlRd (fresh h h') u (aH f b)):=by
 refine aj (args:=[v,Sf Sg b]) follows Tryz.func51 E.cT S8 λK hK=>?_;dsimp only[L.cT,lkF,lkG];refine ab λz hz=>?_;simp;refine fI rfl hv λh1 _ hle1 hsz1 hat=>?_;obtain⟨_,vb,cb⟩:=iZ hat;generalize h.size=B at cb;subst hz;refine ab λz hz=>?_;simp;refine tA (α:=Int) El.aV λh2 hle2 hsz2 own2=>?_;have m0:=Mine.empty (V:=nothing) (W:=nothing) (View.le_refl (vw h1)) hle2 bK (Old.nothing _ _) own2;generalize Sn (Sj ⟨h1.size,0,Sk⟩) 0 0=v0 at m0;have cb2:=cb.2;have cc2:=cb.1;subst hz;refine ab λz hz=>?_;simp;refine cW [1,2,5,6] (fun(r:Value) k=>[Sf Sg b,ptz B,r,Sf Sg k]) (λr k h3=>Mine nothing h1 h3 nothing T.int r (sift (λa=>decide (b∈(nth f.blocks a).term.to)) (λa=>(a:Int)) k)) f.blocks.length v0
  rfl S0 rfl m0 (λ_ _=>rfl) (λv k h3 hk m=>by simp[ae m.old cc2,(cb2.mono m.old).len]) ?_ ?_
 ·rintro r k h3 hlt m K2 hK2;have hle3:=m.old;have cb3:=cb2.mono hle3;obtain⟨w,hw⟩:=zB cb3 hlt;have hwb:=hw.2.bound;have hsl:=nX (p:=λa=>decide (b∈(nth f.blocks a).term.to)) (x:=λa=>(a:Int)) k;refine ab λy hy=>?_;simp(disch:=omega)[ae hle3 cc2,cb3.idxn (N:=6) rfl,hw.1];subst hy;simp;refine cW [1,2,5,6,7,8] (fun(_:Unit) j=>[Sf Sg b,ptz B,r,Sf Sg k,w,Sf Sg j]) (λ_ j h4=>h4=h3/\∀i,i<j->nth (nth f.blocks k).term.to i≠b) (nth f.blocks k).term.to.length ()
   rfl S0 rfl ⟨rfl,λi hi=>by omega⟩ (λ_ _=>rfl) (λv j h4 hk m=>by simp[hw.2.len]) ?_ ?_
  ·rintro _ j h3 hltj ⟨rfl,hpre⟩ K3 hK3;simp(disch:=omega)[hw.2.idx1 rfl,hw.2.int Sb];refine⟨λe=>?_,λe=>hK3 () _ _ rfl rfl ⟨rfl,λi hi=>?_⟩⟩
   ·have hmem:b∈(nth f.blocks k).term.to:=e▸aS hltj;refine m.push (d:=(k:Int)) El.aV (by simp<;>rfl) (px S0 S0) S0 S0 S3 S3 λu v' h5 m'=>?_;exact hK2 v' _ _ rfl rfl (by rw[nA (by simpa using hmem)];exact m')
   rcases OD i j with h | h
   ·exact hpre i h
   have:i=j:=by omega
   subst this;exact e
  rintro _ h3 ⟨rfl,hpre⟩;have hmem:¬b∈(nth f.blocks k).term.to:=λhm=>by obtain⟨i,hi,e⟩:=OU hm;exact hpre i hi (by rw[ay hi];exact e)
  simp;exact hK2 r _ _ rfl rfl (by rw[mL (by simpa using hmem)];exact m)
 rintro r h3 m;simp;subst hz;simp;exact hK _ _ ⟨Sc hle1 m.old,m.fresh.mono (xk hle1)⟩
theorem JM{H:View}{u:Value}{d:InsD}(h:Rd H u d): ∃va,u = .agg #[Sf Sg d.op,Sf Sg d.dst,Sf Sg d.two,va,Sf Si d.imm.v]/\(I64 d.op/\I64 d.dst/\I64 d.two/\-2147483648<=d.imm.v/\d.imm.v<=2147483647)/\SlRd H va d.args:=by obtain⟨cs,rfl,c1,r1,e1,⟨rfl,h1⟩,c2,r2,e2,⟨rfl,h2⟩,c3,r3,e3,⟨rfl,h3⟩,c4,r4,e4,⟨va,rfl,h4⟩,h5,h6⟩:=h;subst e4 e3 e2;exact⟨va,by rw[<-Array.toList_inj.1 ((by rw[e1,h5];rfl):cs.toList = #[Sf Sg d.op,Sf Sg d.dst,Sf Sg d.two,va,Sf Si d.imm.v].toList)],⟨h1,h2,h3,h6⟩,h4⟩
theorem G5{H:View}{d:Int}{v:Value}{l:List InD}(h1:I64 d)(h2:SlRd H v l):Rd H (.agg #[Sf Sg d,v]) (PhiD.mk d l):=⟨_,rfl,[Sf Sg d],[v],rfl,⟨rfl,h1⟩,v,rfl,h2⟩
theorem AD{H:View}{op d two:Int}{imm:I32}{v:Value}{l:List Int}(h:I64 op/\I64 d/\I64 two/\-2147483648<=imm.v/\imm.v<=2147483647)(h2:SlRd H v l):Rd H (.agg #[Sf Sg op,Sf Sg d,Sf Sg two,v,Sf Si imm.v]) (InsD.mk op d two l imm):=
 ⟨_,rfl,[Sf Sg op],_,rfl,⟨rfl,h.1⟩,[Sf Sg d],_,rfl,⟨rfl,h.2.1⟩,[Sf Sg two],_,rfl,⟨rfl,h.2.2.1⟩,[v],_,rfl,⟨v,rfl,h2⟩,rfl,h.2.2.2⟩
theorem zS{α β:Type}[Rep α][Rep β]{H:View}{v:Value}{l:List α}{l2:List β}(h:SlRd H v l)(hn:Rep.n α=Rep.n β)(hl:l.length=l2.length)(hc : ∀i (h1:i<l.length) (h2:i<l2.length) cs,Rep.rd H cs l[i]->Rep.rd H cs l2[i]):SlRd H v l2:=by
 obtain⟨a,cap,rfl,h1,h2,h3⟩:=h;refine⟨a,cap,by rw[hl],by omega,by omega,?_⟩;rcases h3 with rfl | ⟨ad,rfl,hs,hat⟩
 ·left;exact OV (by rw[<-hl];rfl)
 refine .inr ⟨ad,rfl,hs,λi hi=>?_⟩;obtain⟨cs,g1,g2⟩:=hat i S0;rw[<-hn];exact⟨cs,g1,hc i S0 hi cs g2⟩
theorem KK{x:Int}: ∃r:Nat,Bn.ev (.bits .and) (Sf Sg x) (Sf Sg 65535)=Sj (Sf Sg r)/\r<65536:=by
 refine⟨(BitVec.ofInt 64 x&&& BitVec.ofInt 64 65535).toNat,?_,?_⟩
 ·have hlt:(BitVec.ofInt 64 x&&& BitVec.ofInt 64 65535).toNat<=65535:=by rw[BitVec.toNat_and];exact OY Nat.and_le_right S1
  have e:Bn.ev (.bits .and) (Sf Sg x) (Sf Sg 65535)=Sj (Sf Sg (IntKind.i64.wrap ((BitVec.ofInt 64 x&&& BitVec.ofInt 64 65535).toNat))):=rfl;rw[e,bC S0 S0]
 rw[BitVec.toNat_and];exact RK Nat.and_le_right S1
abbrev Q3:=Cat Int (Cat Int Int)
instance:Inhabited Q3:=⟨⟨0,0,0⟩⟩
end Go.Proofs.YtnfiilgdjpdlkaaGreatDoor
namespace Go.Lft
open Go
theorem Cy : ∀(l:List Value) (k off:Nat) (A:Array Value),off+k+l.length<=A.size->
  ((l.zipIdx k).foldl (fun(cs:Array Value) (p:Value × Nat)=>cs.setIfInBounds (off+p.2) p.1) A).toList=A.toList.take (off+k)++l++A.toList.drop (off+k+l.length)
 | [],k,off,A,_=>by simp
 | x::l,k,off,A,h=>by
  simp only[Py]at h;rw[Rq,O3,Cy l (k+1) off _ S7];have hk:off+k<A.toList.length:=by simp;omega
  simp only[RE,Py];rw[show off+(k+1)=off+k+1 by omega,OS (by simpa using hk),Ry (OA _),List.getElem_set_self,List.drop_set_of_lt S0,show off+k+1+l.length=off+k+(l.length+1) by omega];simp
theorem na {s:Nat} : ∀(vs:List Value) (k:Nat) (A:Array Value),(∀v∈vs,v.cells.size=s)->(k+vs.length)*s=A.size->
  ∃B,Instr.fill (λj=>Sj (j*s,s)) A ((vs.zipIdx k).map λp=>(p.2,p.1))=Sj B/\B.toList=A.toList.take (k*s)++vs.flatMap λv=>v.cells.toList
 | [],k,A,_,hk=>⟨A,rfl,by rw[OK (by simp at hk;simp[hk])];simp⟩
 | v::vs,k,A,hv,hk=>by
  have hc:=hv v (OM ..);have e1:(k+(vs.length+1))*s=(k+1+vs.length)*s:=by rw[show k+(vs.length+1)=k+1+vs.length by omega]
  have e2:(k+1+vs.length)*s=k*s+s+vs.length*s:=by rw[QO,QO,RP]
  simp only[Py]at hk;have e3:(k+1)*s=k*s+s:=by rw[QO,RP]
  have hF:(v.cells.zipIdx.foldl (fun(cs:Array Value) (x:Value × Nat)=>cs.setIfInBounds (k*s+x.2) x.1) A).toList=A.toList.take (k*s)++v.cells.toList++A.toList.drop (k*s+s):=by rw[<-Array.foldl_toList,Array.toList_zipIdx];have:=Cy v.cells.toList 0 (k*s) A (by simp[hc];omega);simpa[hc]using this
  obtain⟨B,h1,h2⟩:=na vs (k+1) (v.cells.zipIdx.foldl (fun(cs:Array Value) (x:Value × Nat)=>cs.setIfInBounds (k*s+x.2) x.1) A) (λu hu=>hv u (OL _ hu)) (by rw[<-Array.length_toList,hF];simp[hc];omega);refine⟨B,?_,?_⟩
  ·simp only[Rq,PJ,Instr.fill,hc];rw[if_neg S7];exact h1
  rw[h2,hF,e3,Qp,Pt (by simp[hc];omega),OK (by simp[hc];omega),ON]
theorem xy {s:Nat} : ∀(vs:List Value) (i:Nat) (hi:i<vs.length),(∀v∈vs,v.cells.size=s)->((vs.flatMap λv=>v.cells.toList).drop (i*s)).take s=vs[i].cells.toList
 | v::vs,0,_,hv=>by have hc:=hv v (OM ..);simp only[QS,P7,Qp,P6];rw[Pt (by simp[hc]),OK (by simp[hc])]
 | v::vs,i+1,hi,hv=>by have hc:=hv v (OM ..);have:=xy vs i (by simpa using hi) λu hu=>hv u (OL _ hu);rw[Qp,show(i+1)*s=v.cells.toList.length+i*s by rw[QO];simp[hc];omega,<-List.drop_drop,List.drop_left];simpa using this
theorem kL{po:OP}{α:Type}[Rep α]{P:Program}{t e n:Nat}{ty:TypeId}{bytes:Nat}{z:Value}{ps:Array (Nat × Operand)}{us:List (Nat × Value)}{vs:List Value}{ds:List α}{h:Heap}{K:Value->Heap->Prop}(hT:ef P t e (Rep.n α) bytes z)(hp:ps.map (λp=>(p.1,asg us p.2))=((vs.zipIdx 0).map λp=>(p.2,p.1)).toArray){X:View}(hr:pG X vs ds)(hn:ds.length=n)(hb:n*Rep.n α<=16777216)(hb2:n<=16777216)(hk : ∀u h',(vw h).le (vw h')->h'.size=h.size+1->(∀Y:View,X.le Y->Y h.size=h'[h.size]?->SlRd Y u ds)->u.ownBlock=Sj h.size->K u h'):step P (.buildSlice t n ps) ty us h K:=by
 have hl:=hr.len;have hcs : ∀v∈vs,v.cells.size=Rep.n α:=λv hv=>by obtain⟨i,hi,rfl⟩:=OU hv;exact(gN (hr.get i hi S0)).2.1
 obtain⟨B,h1,h2⟩:=na (s:=Rep.n α) vs 0 ((Array.range (n*Rep.n α)).map (z.cells[· % z.cells.size]!)) hcs (by simp;rw[hl,hn]);have hB:B=(vs.flatMap λv=>v.cells.toList).toArray:=by rw[<-Array.toList_inj,h2];simp
 refine tx hT hb hp h1 ?_;have hle:=bP h (.cells B e);refine hk _ _ hle Sa (λY hY hYb=>⟨Sj ⟨h.size,0,Sk⟩,n,by rw[hn],by omega,by omega,.inr ⟨_,rfl,rfl,λi hi=>?_⟩⟩) rfl;have hi2:i<vs.length:=by omega
 have hrd:=gN (hr.get i hi2 hi);rw[bM rfl];refine⟨vs[i].cells.toList,⟨B,e,(0,0),rfl,by rw[hYb];simp,?_⟩,Rep.mono hY hrd.1⟩;rw[hB,PN];have:=xy vs i hi2 hcs;rw[Qs,hrd.2.1];exact this
section
open Go Go.MapKept Go.ChangeMaps
variable {po:OP} {pp:PP}
structure It (h:Heap) (b r:Nat) (left:List (Value × Value)):Prop where
 ex : ∃es since seen c0,h[b]? = Sj (.map es since)/\Stamped es since/\h[r]? = Sj (.mapIter (Sj b) since seen c0)/\since<=c0/\left=(leftOf es seen).toList.map λx=>(x.key,x.val)
structure ItE (h:Heap) (b r:Nat) (p:Value × Value) (left:List (Value × Value)):Prop where
 ex : ∃(es:Array MapEntry) (since:Nat) (seen:Array Nat) (e:MapEntry),h[b]? = Sj (.map es since)/\Stamped es since/\h[r]? = Sj (.mapIter (Sj b) since (seen.push e.born) since)/\e∈es.toList/\p=(e.key,e.val)/\left=(leftOf es (seen.push e.born)).toList.map λx=>(x.key,x.val)
section
variable {P:Program} {ty:TypeId} {us:List (Nat × Value)} {h h':Heap} {K:Value->Heap->Prop} {d:TypeDesc} {b r:Nat} {f:Value->Option Value} {t k e:TypeId} {left:List (Value × Value)} {p:Value × Value}
theorem It.same(m:It h b r left)(e1:h'[b]? = h[b]?)(e2:h'[r]? = h[r]?):It h' b r left:=by obtain⟨es,s,q,c,a1,a2,a3,a4⟩:=m.ex;exact⟨es,s,q,c,by rw[e1];exact a1,a2,by rw[e2];exact a3,a4⟩
theorem ItE.it(m:ItE h b r p left):It h b r left:=by obtain⟨es,s,q,e,a1,a2,a3,a4,a5,a6⟩:=m.ex;exact⟨es,s,_,s,a1,a2,a3,OA _,a6⟩
theorem It.lt(m:It h b r left):b<h.size/\r<h.size/\b≠r:=by obtain⟨es,s,q,c,a1,a2,a3,a4⟩:=m.ex;refine⟨(OJ.1 a1).1,(OJ.1 a3).1,?_⟩;rintro rfl;rw[a1]at a3;cases a3
theorem A1{x:Operand}(ht:P.underlying t=Sj (.map k e))(hx:asg us x = .map (Sj b))(m:de d h b f)(hk : ∀h' left,(vw h).le (vw h')->h'.size=h.size+1->It h' b h.size left->(left.map (·.1)).Nodup->(∀u v,(u,v)∈left->IsKey d u)->(∀u v,IsKey d u->((u,v)∈left↔f u=Sj v))->K (ptz h.size) h'):step P (.range t x) ty us h K:=by
 obtain⟨es,c,h1,h2,h3,h4⟩:=m.ex;refine cI (cf λw hw=>?_);subst hw;refine⟨ptz w.heap.size,w.alloc (.mapIter (Sj b) c #[] c),?_,iB _ _,?_⟩
 ·simp only[bI,execOp,hx];simp[Instr.range,run_underlying ht,MapKept.run_getObj_map h1,newObj,Result.andThen];rfl
 have hb:(w.alloc (.mapIter (Sj b) c #[] c)).heap[b]? = Sj (.map es c):=(heap_alloc_old _ _ (OJ.1 h1).1).trans h1;have hl:(leftOf es #[]).toList=es.toList:=by unfold leftOf;simp
 refine hk _ (es.toList.map λx=>(x.key,x.val)) (by show(vw w.heap).le (vw (w.heap.push _));exact bP _ _) Sa ⟨es,c,#[],c,hb,h3,World.alloc_heap_new w _,OA _,by rw[hl]⟩ ?_ ?_ ?_
 ·rw[List.map_map];exact h3.2.2
 ·intro u v hu;obtain⟨x,hx,e⟩:=PG.1 hu;cases e;exact h2 x hx
 intro u v hu;rw[<-h4 u v hu,PG];constructor
 ·rintro⟨x,hx,e⟩;cases e;exact⟨x,hx,rfl,rfl⟩
 rintro⟨x,hx,e1,e2⟩;exact⟨x,hx,by rw[e1,e2]⟩
theorem ES{es:Array MapEntry}{c:Nat}{seen:Array Nat}{e:MapEntry}(hs:Stamped es c)(he:e∈(leftOf es seen).toList): ∃a z,(leftOf es seen).toList=a++e::z/\(leftOf es (seen.push e.born)).toList=a++z:=by
 obtain⟨a,z,q⟩:=List.append_of_mem he;refine⟨a,z,q,?_⟩;have e1:(leftOf es (seen.push e.born)).toList=(leftOf es seen).toList.filter λx=>x.born != e.born:=by unfold leftOf;rw[QW,QW,List.filter_filter];refine RS λx _=>?_;rw[O7];simp;exact⟨λh=>⟨h.2,h.1⟩,λh=>⟨h.2,h.1⟩⟩
 have nd:((leftOf es seen).toList.map (·.born)).Nodup:=by refine hs.2.1.sublist (List.Sublist.map _ ?_);unfold leftOf;rw[QW];exact List.filter_sublist
 rw[q]at nd;rw[P2,PJ]at nd;obtain⟨n1,n2,n3⟩:=PE.1 nd;obtain⟨n4,n5⟩:=QZ.1 n2;rw[e1,q,RF,List.filter_cons_of_neg Sa];have f1:a.filter (λx=>x.born != e.born)=a:=List.filter_eq_self.2 λx hx=>by simp only[bne_iff_ne,ne_eq];exact λh=>n3 x.born (Qt hx) e.born (OM) h
 have f2:z.filter (λx=>x.born != e.born)=z:=List.filter_eq_self.2 λx hx=>by simp only[bne_iff_ne,ne_eq];exact λh=>n4 (h▸Qt (f:=(·.born)) hx)
 rw[f1,f2]
theorem CQ{x:Operand}(hx:asg us x = ptz r)(m:It h b r left)(h0:left=[]->K (.tuple #[.bool Sr]) h)(h1 : ∀a p z h',left=a++p::z->h'.size=h.size->(∀j,j≠r->h'[j]? = h[j]?)->ItE h' b r p (a++z)->K (.tuple #[.bool Sq,p.1,p.2]) h'):step P (.next x Sr) ty us h K:=by
 obtain⟨es,s,q,c,a1,a2,a3,a4,rfl⟩:=m.ex;have hne:b≠r:=m.lt.2.2;refine cI (cf λw hw=>?_);subst hw;rcases run_next_at (P:=P) w ty r b s c q es s a3 a1 a2.1 a4 with⟨hz,hrun⟩ | ⟨e,he,w1,hw1,hrun⟩
 ·refine⟨.tuple #[.bool Sr],w,?_,Same.refl _,h0 ?_⟩
  ·simp only[bI,execOp,hx];simp[hrun]
  rw[List.map_eq_nil_iff];exact OV (by simpa using hz)
 obtain⟨a,z,e1,e2⟩:=ES a2 he;have hh:w1.heap=w.heap:=by rcases hw1 with rfl | rfl<;>rfl
 have hset:=MapKept.heap_set (o':=Obj.mapIter (Sj b) s (q.push e.born) s) a3;refine⟨.tuple #[.bool Sq,e.key,e.val],setBlock w1 r (.mapIter (Sj b) s (q.push e.born) s),by simp only[bI,execOp,hx];simp[hrun],?_,h1 (a.map λx=>(x.key,x.val)) (e.key,e.val) (z.map λx=>(x.key,x.val)) _ (by rw[e1];simp) (by simp[setBlock,hh]) ?_ ?_⟩
 ·have s1:Same w w1:=by
   rcases hw1 with rfl | rfl
   ·exact Same.refl _
   exact⟨rfl,rfl,rfl,OA _,λ_ h=>h⟩
  refine s1.trans (Same.rM rfl rfl rfl (by simp[setBlock]) (g:=r) (by rw[hh];exact a3) Sa λk _ hk=>?_);simp only[setBlock,hh];exact hset.2 k hk
 ·intro j hj;simp only[setBlock,hh];exact hset.2 j hj
 refine⟨es,s,q,e,?_,a2,?_,?_,rfl,?_⟩
 ·simp only[setBlock,hh];rw[hset.2 b hne];exact a1
 ·simp only[setBlock,hh];exact hset.1
 ·unfold leftOf at he;rw[QW]at he;exact(QI.1 he).1
 rw[e2,P2]
theorem GG{x:Operand}(hx:asg us x = ptz r)(m:ItE h b r p left)(hk:K (.tuple #[p.1,p.2]) h):step P (.entry x) ty us h K:=by obtain⟨es,s,q,e,a1,a2,a3,a4,rfl,_⟩:=m.ex;refine cI (cf λw hw=>?_);subst hw;refine⟨.tuple #[e.key,e.val],w,?_,Same.refl _,hk⟩;simp only[bI,execOp,hx];simp[run_entry_at (P:=P) w r b s q es s e a3 a1 a4 a2.2.1]
end
def Kf:Value->Bool
 | .nilFunc=>Sq
 | .func _ _ _=>Sq
 | _=>Sr
def uI:Value->Bool
 | .nilFunc=>Sq
 | _=>Sr
theorem Ad{P:Program}{ty t rt:TypeId}{us:List (Nat × Value)}{h:Heap}{K:Value->Heap->Prop}{x y:Operand}{v:Value}{ps rs:Array TypeId}{vr:Bool}(hu:P.underlying t=Sj (.func ps rs vr))(hv:Kf v=Sq)(hx:asg us x=v)(hy:asg us y = .nilFunc)(hk:K (.bool (uI v)) h):step P (.binOp .eql t x y rt) ty us h K:=by
 refine cI (cf λw hw=>⟨_,w,?_,Same.refl _,by rw[hw];exact hk⟩);simp only[bI,execOp,hx,hy];have e1:(Op.equal t v .nilFunc).run P w = .ok (uI v) w:=by show(Op.equalIn (9999+1) t _ _).run P w=_;rw[Op.equalIn];cases v<;>simp[Kf]at hv<;>simp[run_underlying hu,uI]
 simp[eqGuard,binOp,e1]
end
variable {po po2:OP}
theorem aZ.tB:Part aZ Int 0 aZ.op (λd x=>{ d with op:=x }):=(Part.fst Part.all).via (λ_=>rfl) λ_ _=>rfl
theorem aZ.NQ:Part aZ Int 1 aZ.d (λd x=>{ d with d:=x }):=(Part.snd (Part.fst Part.all)).via (λ_=>rfl) λ_ _=>rfl
theorem aZ.Ob:Part aZ Int 2 aZ.e (λd x=>{ d with e:=x }):=(Part.snd (Part.snd (Part.fst Part.all))).via (λ_=>rfl) λ_ _=>rfl
theorem aZ.MQ:Part aZ Int 3 aZ.a (λd x=>{ d with a:=x }):=(Part.snd (Part.snd (Part.snd (Part.fst Part.all)))).via (λ_=>rfl) λ_ _=>rfl
theorem aZ.Nu:Part aZ Int 4 aZ.b (λd x=>{ d with b:=x }):=(Part.snd (Part.snd (Part.snd (Part.snd (Part.fst Part.all))))).via (λ_=>rfl) λ_ _=>rfl
theorem aZ.Nv:Part aZ Int 5 aZ.c (λd x=>{ d with c:=x }):=(Part.snd (Part.snd (Part.snd (Part.snd (Part.snd (Part.fst Part.all)))))).via (λ_=>rfl) λ_ _=>rfl
theorem aZ.je:Part aZ I32 6 aZ.imm (λd x=>{ d with imm:=x }):=(Part.snd (Part.snd (Part.snd (Part.snd (Part.snd (Part.snd (Part.fst Part.all))))))).via (λ_=>rfl) λ_ _=>rfl
theorem aZ.eS:Part aZ (List Int) 7 aZ.args (λd x=>{ d with args:=x }):=(Part.snd (Part.snd (Part.snd (Part.snd (Part.snd (Part.snd (Part.snd Part.all))))))).via (λ_=>rfl) λ_ _=>rfl
theorem EndD.tB:Part EndD Int 0 EndD.op (λd x=>{ d with op:=x }):=(Part.fst Part.all).via (λ_=>rfl) λ_ _=>rfl
theorem EndD.MQ:Part EndD Int 1 EndD.a (λd x=>{ d with a:=x }):=(Part.snd (Part.fst Part.all)).via (λ_=>rfl) λ_ _=>rfl
theorem FitD.Eo:Part FitD (List Int) 0 FitD.takes (λd x=>{ d with takes:=x }):=(Part.fst Part.all).via (λ_=>rfl) λ_ _=>rfl
theorem FitD.IS:Part FitD (List Int) 1 FitD.inner (λd x=>{ d with inner:=x }):=(Part.snd (Part.fst Part.all)).via (λ_=>rfl) λ_ _=>rfl
theorem FitD.LU:Part FitD (List aZ) 2 FitD.code (λd x=>{ d with code:=x }):=(Part.snd (Part.snd (Part.fst Part.all))).via (λ_=>rfl) λ_ _=>rfl
theorem FitD.Nn:Part FitD EndD 3 FitD.fin (λd x=>{ d with fin:=x }):=(Part.snd (Part.snd (Part.snd Part.all))).via (λ_=>rfl) λ_ _=>rfl
theorem bY.Oa:Part bY an 0 bY.f (λd x=>{ d with f:=x }):=(Part.fst Part.all).via (λ_=>rfl) λ_ _=>rfl
theorem bY.NP:Part bY InsD 2 bY.i (λd x=>{ d with i:=x }):=(Part.snd (Part.fst Part.all)).via (λ_=>rfl) λ_ _=>rfl
theorem bY.Oc:Part bY cM 7 bY.t (λd x=>{ d with t:=x }):=(Part.snd (Part.snd (Part.fst Part.all))).via (λ_=>rfl) λ_ _=>rfl
theorem bY.n7:Part bY Bool 11 bY.term (λd x=>{ d with term:=x }):=(Part.snd (Part.snd (Part.snd (Part.fst Part.all)))).via (λ_=>rfl) λ_ _=>rfl
theorem bY.DC:Part bY Int 12 bY.temp (λd x=>{ d with temp:=x }):=(Part.snd (Part.snd (Part.snd (Part.snd Part.all)))).via (λ_=>rfl) λ_ _=>rfl
theorem eB.KB:Part eB Int 0 eB.pat (λd x=>{ d with pat:=x }):=(Part.fst Part.all).via (λ_=>rfl) λ_ _=>rfl
theorem eB.LJ:Part eB Int 1 eB.cost (λd x=>{ d with cost:=x }):=(Part.snd Part.all).via (λ_=>rfl) λ_ _=>rfl
theorem iH {H:View} {op d e a b c:Int} {imm:I32} {va:Value} {args:List Int} (h : ∀x∈[op,d,e,a,b,c],-9223372036854775808<=x/\x<=9223372036854775807) (hi:-2147483648<=imm.v/\imm.v<=2147483647) (ha:SlRd H va args) :
  Rd H (.agg #[Sf Sg op,Sf Sg d,Sf Sg e,Sf Sg a,Sf Sg b,Sf Sg c,Sf Si imm.v,va]) (⟨op,d,e,a,b,c,imm,args⟩:aZ):=by
 simp only[OQ,QT,or_false,forall_eq_or_imp,forall_eq]at h;obtain⟨h1,h2,h3,h4,h5,h6⟩:=h;have hl:Rep.rd H [va] args:=by have:=dR.2 ha;unfold Rd at this;simpa[Rep.agg]using this
 unfold Rd;rw[if_pos (show Rep.agg _=Sq from rfl)];exact⟨_,rfl,[_],_,rfl,⟨rfl,h1⟩,[_],_,rfl,⟨rfl,h2⟩,[_],_,rfl,⟨rfl,h3⟩,[_],_,rfl,⟨rfl,h4⟩,[_],_,rfl,⟨rfl,h5⟩,[_],_,rfl,⟨rfl,h6⟩,[_],[_],rfl,⟨rfl,hi⟩,hl⟩
theorem lq {H:View} {op a b:Int} {imm:I32} {vt:Value} {l:List Int} (h : ∀x∈[op,a,b],-9223372036854775808<=x/\x<=9223372036854775807) (hi:-2147483648<=imm.v/\imm.v<=2147483647) (ht:SlRd H vt l) :
  Rep.rd H [Sf Sg op,Sf Sg a,Sf Sg b,vt,Sf Si imm.v] (⟨op,a,b,l,imm⟩:EndD):=by
 simp only[OQ,QT,or_false,forall_eq_or_imp,forall_eq]at h;obtain⟨h1,h2,h3⟩:=h;have hl:Rep.rd H [vt] l:=by have:=dR.2 ht;unfold Rd at this;simpa[Rep.agg]using this
 exact⟨[_],_,rfl,⟨rfl,h1⟩,[_],_,rfl,⟨rfl,h2⟩,[_],_,rfl,⟨rfl,h3⟩,[_],[_],rfl,hl,⟨rfl,hi⟩⟩
theorem mK {H:View} {v1 v2 v3:Value} {takes inner:List Int} {code:List aZ} {ce:List Value} {fin:EndD} (h1:SlRd H v1 takes) (h2:SlRd H v2 inner) (h3:SlRd H v3 code) (h4:Rep.rd H ce fin) :
  Rd H (.agg (v1::v2::v3::ce).toArray) (⟨takes,inner,code,fin⟩:FitD):=by
 have q1:Rep.rd H [v1] takes:=by have:=dR.2 h1;unfold Rd at this;simpa[Rep.agg]using this
 have q2:Rep.rd H [v2] inner:=by have:=dR.2 h2;unfold Rd at this;simpa[Rep.agg]using this
 have q3:Rep.rd H [v3] code:=by have:=dR.2 h3;unfold Rd at this;simpa[Rep.agg]using this
 unfold Rd;rw[if_pos (show Rep.agg _=Sq from rfl)];exact⟨_,rfl,[_],_,rfl,q1,[_],_,rfl,q2,[_],_,rfl,q3,h4⟩
theorem Owns.rU {W:View} {h:Heap} {o:Own} {k:Key} {P:Program} {ty:TypeId} {us:List (Nat × Value)} {n:Nat} {e t:TypeId} {B:Nat} {l l':List Value} {x y:Operand} {K:Value->Heap->Prop} (w:Owns W h o) (hk:o k=bx e B (RawN.mk (n:=n) l)) (hsz:cO P t=Sj (n+1)) (hx:asg us x = ptz B) (hy:asg us y = .agg l'.toArray) (hl:l'.length=n+1) (h1 : ∀c∈l',c.oneCell'=Sq)
  (hK : ∀h',Owns W h' (o.upd k (bx e B (RawN.mk (n:=n) l')))->(∀X:View,X.le (vw h)->X B=Sk->X.le (vw h'))->K undef h'):@step po P (.store t x y) ty us h K:=
 w.qA (po:=po) (Part.all) (d:=RawN.mk (n:=n) l') hk hsz hx hy (sG hl h1) hK
theorem iD [pp:PP] {P:Program} {m:Option View} {x y:Reg} {Q:Env->Heap->Prop} {ρ:Env} {h:Heap} (h1:eh P m x Q ρ h) (h2:eh P m y Q ρ h):eh P m (.both x y) Q ρ h:=⟨h1,h2⟩
theorem At.ldN {α:Type} [Rep α] {H:View} {a:Addr} {d:α} (h:At H a d) (ha:Rep.agg α=Sq) {N:Nat} (hN:Rep.n α=N) : ∃u,(∀K:View,H.le K->Un.ev K (.bV N) (Sp (Sj a))=Sj u)/\Rd H u d:=by subst hN;obtain⟨u,h1,h2⟩:=h.bV ha;refine⟨u,λK hk=>?_,h2⟩;have:=dD (ρ:=λ_=>Sk) (e:=.un (.bV (Rep.n α)) (.con (Sp (Sj a)))) hk (v:=u) (by simpa using h1);simpa using this
structure Cx (V:View) (h0:Heap) (W:View) (h:Heap) (o:Own):Prop where
 own:Owns W h o
 old:Old V h0 W
 le0:(vw h0).le (vw h)
 new : ∀k i b,o k=Sj i->i.v.ownBlock=Sj b->h0.size<=b
section
variable {V W:View} {h0 h h':Heap} {o:Own} {k:Key} {P:Program} {ty:TypeId} {us:List (Nat × Value)}
theorem Cx.start (hV:V.le (vw h)):Cx V h V h λ_=>none:=⟨Owns.start hV,Old.refl _ _,View.le_refl _,λ_ _ _ e=>by cases e⟩
theorem Cx.wle (c:Cx V h0 W h o):W.le (vw h):=c.own.wle
theorem Cx.ext (c:Cx V h0 W h o) (hle:(vw h).le (vw h')):Cx V h0 (grow W h h') h' o:=⟨c.own.ext hle,c.old.grow (cm c.le0),Sc c.le0 hle,c.new⟩
theorem Cx.fin (c:Cx V h0 W h o):W.le (grow V h0 h):=c.old.le c.wle
theorem Cx.up (c:Cx V h0 W h o):W.le (grow W h h'):=bZ c.wle
theorem Cx.dc {α:Type} [Rep α] {t:TypeId} {x:Operand} {v:Value} {d:α} {K:Value->Heap->Prop} (c:Cx V h0 W h o) (hx:asg us x=v) (hv:Rd W v d)
  (hk : ∀B h' W',W.le W'->Cx V h0 W' h' o->At W' ⟨B,0,Sk⟩ d->(vw h).le (vw h')->K (ptz B) h'):@step po P (.box t x) ty us h K:=by refine fI hx (hv.mono c.wle) λh1 hp hle hs _=>?_;exact hk _ _ _ c.up (c.ext hle) (rO (t:=t) (fz:=(0,0)) (by rw[cU (OA _),hp];simp) (hv.mono c.up)) hle
theorem Cx.dK {α:Type} [Rep α] {t ty2:TypeId} {n:Nat} {z:Value} {x y:Operand} {us2:Value->List (Nat × Value)} {v:Value} {d:α} {K:Value->Heap->Prop} (c:Cx V h0 W h o) (hv:Rd W v d) (hz:(P.info? t).map (·.zero)=Sj (Sj z)) (hN:Rep.n α=n) (hzc:z.cells.size=n) (hsz:cO P t=Sj n)
  (hx : ∀p,asg (us2 p) x=p) (hy : ∀p,asg (us2 p) y=v) (hk : ∀B h' W',W.le W'->Cx V h0 W' h' o->At W' ⟨B,0,Sk⟩ d->(vw h).le (vw h')->K (ptz B) h') :
  @step po P (.alloc t) ty us h λp h2=>@step po2 P (.store t x y) ty2 (us2 p) h2 λ_ h3=>K p h3:=by subst hN;refine dv (X:=W) hz hzc hsz hv hx hy λh1 hle hs hat=>?_;exact hk _ _ _ c.up (c.ext hle) (hat _ c.up (cU (OA _))) hle
theorem Cx.cC {t:TypeId} {n:Nat} {z:Value} {K:Value->Heap->Prop} (c:Cx V h0 W h o) (hk:o k=Sk) (hz:(P.info? t).map (·.zero)=Sj (Sj z)) (hzc:z.cells.size=n+1) (hn:n+1<=1000)
  (hone : ∀c∈z.cells.toList,c.oneCell'=Sq) (hK : ∀B h':_,(vw h).le (vw h')->Cx V h0 W h' (o.upd k (bx t B (RawN.mk (n:=n) z.cells.toList)))->K (ptz B) h') :
  @step po P (.alloc t) ty us h K:=
 c.own.cC hk hz hzc hn hone λh1 hle w=>hK _ _ hle ⟨w,c.old,Sc c.le0 hle,λj i b hj hb=>by
  by_cases e:j=k
  ·subst e;rw[Own.ao]at hj;cases hj;cases hb;exact cm c.le0
  rw[Own.aA e]at hj;exact c.new j i b hj hb⟩
theorem Cx.rU {n:Nat} {e t:TypeId} {B:Nat} {l l':List Value} {x y:Operand} {K:Value->Heap->Prop} (c:Cx V h0 W h o) (hk:o k=bx e B (RawN.mk (n:=n) l)) (hsz:cO P t=Sj (n+1)) (hx:asg us x = ptz B) (hy:asg us y = .agg l'.toArray) (hl:l'.length=n+1) (h1 : ∀c∈l',c.oneCell'=Sq)
  (hK : ∀h',Cx V h0 W h' (o.upd k (bx e B (RawN.mk (n:=n) l')))->K undef h'):@step po P (.store t x y) ty us h K:=
 c.own.rU hk hsz hx hy hl h1 λh2 w hX=>hK _ ⟨w,c.old,hX _ c.le0 (View.cA Sb (c.new k _ B hk rfl)),λj i b hj hb=>by
  by_cases e:j=k
  ·subst e;rw[Own.ao]at hj;cases hj;exact c.new _ _ b hk hb
  rw[Own.aA e]at hj;exact c.new j i b hj hb⟩
theorem Cx.bD {α:Type} [Rep α] {n:Nat} {e t:TypeId} {B:Nat} {l:List Value} {x y:Operand} {v:Value} {d:α} {K:Value->Heap->Prop} (c:Cx V h0 W h o) (hk:o k=bx e B (RawN.mk (n:=n) l)) (hr:Rd W v d) (ha:Rep.agg α=Sq) (hN:Rep.n α=n+1) (hsz:cO P t=Sj (n+1)) (hx:asg us x = ptz B) (hy:asg us y=v)
  (hK : ∀h' l',v = .agg l'.toArray->Cx V h0 W h' (o.upd k (bx e B (RawN.mk (n:=n) l')))->K undef h'):@step po P (.store t x y) ty us h K:=by have h2:=gN hr;unfold Rd at hr;rw[if_pos ha]at hr;obtain⟨cs,rfl,h1⟩:=hr;have hl:=Rep.len h1;exact c.rU hk hsz hx (l':=cs.toList) (by simpa using hy) (by rw[hl,hN]) (λc hc=>Rep.flat h1 c hc) λh'=>hK h' cs.toList Sa
theorem Cx.all {n:Nat} {e:TypeId} {B:Nat} {l:List Value} (c:Cx V h0 W h o) (hk:o k=bx e B (RawN.mk (n:=n) l)):Un.ev (vw h) (.bV (n+1)) (ptz B)=Sj (.agg l.toArray):=c.own.xc hk
theorem Cx.ln {α:Type} [Rep α] {t e n:Nat} {bytes:Nat} {z:Value} {ps:Array (Nat × Operand)} {vs:List Value} {ds:List α} {K:Value->Heap->Prop} (c:Cx V h0 W h o) (hT:ef P t e (Rep.n α) bytes z)
  (hp:ps.map (λp=>(p.1,asg us p.2))=((vs.zipIdx 0).map λp=>(p.2,p.1)).toArray) (hr:pG W vs ds) (hn:ds.length=n) (hb:n*Rep.n α<=16777216) (hb2:n<=16777216)
  (hk : ∀u h' W',W.le W'->Cx V h0 W' h' o->SlRd W' u ds->(vw h).le (vw h')->K u h'):@step po P (.buildSlice t n ps) ty us h K:=
 kL hT hp hr hn hb hb2 λu h1 hle hs hu _=>hk _ _ _ c.up (c.ext hle) (hu _ c.up (cU (OA _))) hle
end
end Go.Lft
namespace Go.Proofs.YtnfiilgdjpdlkaaGreatDoor
open Go Go.Lft
theorem jo {n lo hi:Int} {h:Heap}:aw Ss 42 #[Sf Sg n,Sf Sg lo,Sf Sg hi] h (λu h'=>h'=h/\u = .bool (inR n lo hi)):=by
 refine aj (args:=[Sf Sg n,Sf Sg lo,Sf Sg hi]) follows Tryz.func42 E.mQ S8 λK hK=>?_;dsimp only[L.mQ,lkF,lkG];by_cases c:lo<=n
 ·simp[c];exact hK _ _ ⟨rfl,by simp[inR,c]⟩
 simp[c];exact hK _ _ ⟨rfl,by simp[inR,c]⟩
end Go.Proofs.YtnfiilgdjpdlkaaGreatDoor
namespace Go.Lft
open Go
theorem GS {H:View} {B:Nat} {s:bY} (h:At H ⟨B,0,Sk⟩ s) : ∃vb va wa wt,Sl H ⟨B,1,Sk⟩ vb s.f.blocks/\ak H ⟨B,2,Sk⟩=Sj (Sf Sg s.i.op)/\ak H ⟨B,3,Sk⟩=Sj (Sf Sg s.i.dst)/\Sl H ⟨B,5,Sk⟩ va s.i.args/\
  ak H ⟨B,6,Sk⟩=Sj (Sf Si s.i.imm.v)/\ak H ⟨B,7,Sk⟩=Sj (Sf Sg s.t.kind)/\Sl H ⟨B,8,Sk⟩ wa s.t.args/\Sl H ⟨B,9,Sk⟩ wt s.t.to/\ak H ⟨B,10,Sk⟩=Sj (Sf Si s.t.imm.v)/\
  ak H ⟨B,11,Sk⟩=Sj (.bool s.term)/\ak H ⟨B,12,Sk⟩=Sj (Sf Sg s.temp):=by
 have hf:=h.part bY.Oa;have hi:=h.part bY.NP;have ht:=h.part bY.Oc;obtain⟨vb,h1⟩:=(hf.part an.sM).sl;obtain⟨va,h5⟩:=(hi.part InsD.eS).sl;obtain⟨wa,h8⟩:=(ht.part cM.eS).sl;obtain⟨wt,h9⟩:=(ht.part cM.Fl).sl;exact⟨vb,va,wa,wt,by simpa using h1,by simpa using(hi.part InsD.tB).int,by simpa using(hi.part InsD.iy).int,by simpa using h5,by simpa using(hi.part InsD.je).i32,by simpa using(ht.part cM.Dn).int,
  by simpa using h8,by simpa using h9,by simpa using(ht.part cM.je).i32,by simpa using(h.part bY.n7).bool,by simpa using(h.part bY.DC).int⟩
theorem Sl.mono {α:Type} [Rep α] {H K:View} (hk:H.le K) {a:Addr} {v:Value} {l:List α} (s:Sl H a v l):Sl K a v l:=⟨ae hk s.1,s.2.mono hk⟩
end Go.Lft
namespace Go.Proofs.YtnfiilgdjpdlkaaGreatDoor
open Go Go.Lft
theorem dT{v:Value}{l:List Int}{h:Heap}{W:View}(hW:W.le (vw h))(hv:SlRd W v l)(hb:l.length<=1000000):
  aw Ss 99 #[v] h (λu h'=>(vw h).le (vw h')/\SlRd (grow W h h') u l):=by
 refine aj (args:=[v]) follows Tryz.func99 E.iM S8 λK hK=>?_;dsimp only[L.iM,lkF,lkG];have hv0:=hv;obtain⟨a,cap,rfl,g1,g2,g3⟩:=hv0;refine ab λz hz=>?_;simp;subst hz;refine ab λz hz=>?_;refine ab λy hy=>?_;simp;refine GU U.aV rfl rfl ?_;subst hy;by_cases ha:a=Sk
 ·subst ha;have hl:l=[]:=by
   rcases g3 with g3 | ⟨ad,g3,_⟩
   ·first | exact g3 | exact OV (by simpa using g3)
   cases g3
  subst hl;simp;exact hK _ _ ⟨View.le_refl _,aQ⟩
 have hi:a.isNone=false:=by cases a<;>simp at ha ⊢
 simp[hi];subst hz;refine ab λz hz=>?_;simp;refine tA (α:=Int) El.aV λh1 hle1 hs1 own1=>?_;have m1:=Mine.empty (V:=W) (W:=W) Sb hle1 hW (Old.refl _ _) own1;refine dB (α:=Int) (l:=[]) (l2:=l) El.aV rfl rfl m1.own (hv.src (Sc hW hle1)) S7 S7 λv2 h2 own2 mv=>?_;have m2:=m1.jC own2 mv;subst hz;simp;refine hK _ _ ⟨m2.old,?_⟩;have:=m2.result;simpa using this
theorem kI{v0 v1 v2:Value}{m:aZ}{takes inner:List Int}{h:Heap}{W:View}(hW:W.le (vw h))(h0:Rd W v0 m)(h1:SlRd W v1 takes)(h2:SlRd W v2 inner):
  aw Ss 104 #[v0,v1,v2] h (λu h'=>(vw h).le (vw h')/\∃vf,u = .tuple #[vf,.bool Sq]/\Rd (grow W h h') vf (⟨takes,inner,[m],dH⟩:FitD)):=by
 refine aj (args:=[v0,v1,v2]) follows Tryz.func104 E.nJ S8 λK hK=>?_;dsimp only[L.nJ,lkF,lkG];have c0:=Cx.start hW;refine ab λz hz=>?_;simp;refine c0.dc rfl h0 λB ha Wa hWa ca hat hlea=>?_;obtain⟨um,hum,hmr⟩:=hat.ldN rfl (N:=8) rfl;refine ca.cC (k:=(0,0)) (n:=7) (z:=.agg #[Sn Sk 0 0,Sn Sk 0 0,Sn Sk 0 0,Sf Sg 0,Sf Sg 0,Sf Sg 0,Sn Sk 0 0,Sf Si 0]) rfl R9 rfl S1 S6 λR hb hleb cb=>?_;subst hz;refine ab λz hz=>?_;simp[hum _ (Sc ca.wle hleb)];refine cb.ln (α:=aZ) (n:=1) (vs:=[um]) (ds:=[m]) El.jr Sa ⟨hmr,trivial⟩ rfl S1 S1 λu hc Wc hWc cc hu hlec=>?_;have hr:Rd Wc (.agg (v1::v2::u::[Sf Sg 0,Sf Sg 0,Sf Sg 0,Sn Sk 0 0,Sf Si 0]).toArray) (⟨takes,inner,[m],dH⟩:FitD):=
  mK (h1.mono (Sc hWa hWc)) (h2.mono (Sc hWa hWc)) hu (lq Sa S1 aQ);have e1:=h1;have e2:=h2;have e3:=hu;obtain⟨a1,k1,rfl,-⟩:=e1;obtain⟨a2,k2,rfl,-⟩:=e2;obtain⟨a3,k3,rfl,-⟩:=e3;refine az (z:=zz7) (places:=zpc) (vs:=[(0,.slice a1 takes.length k1),(1,.slice a2 inner.length k2),(2,.slice a3 [m].length k3)]) (cs:=#[.slice a1 takes.length k1,.slice a2 inner.length k2,.slice a3 [m].length k3,Sf Sg 0,Sf Sg 0,Sf Sg 0,Sn Sk 0 0,Sf Si 0]) R9 R9 Sa R9 ?_;refine cc.bD (k:=(0,0)) Own.ao hr rfl rfl R9 rfl rfl λhd l' hl' cd=>?_;subst hz;simp[cd.all (k:=(0,0)) Own.ao];refine hK _ _ ⟨cd.le0,_,rfl,?_⟩;rw[<-hl'];exact hr.mono cd.fin
theorem Bo{f:an}{v:Int}:nS f v=f.blocks.findSome? λb=>b.ins.find? (dQ v):=by unfold nS du;rw[List.find?_flatMap]
theorem Ig{f:an}{v:Int}{b i:Nat}(hb:b<f.blocks.length)(hi:i<(nth f.blocks b).ins.length)(h1:((f.blocks.take b).findSome? λb=>b.ins.find? (dQ v))=Sk)(h2:((nth f.blocks b).ins.take i).find? (dQ v)=Sk)(h3:dQ v (nth (nth f.blocks b).ins i)=Sq):nS f v=Sj (nth (nth f.blocks b).ins i):=by
 have e1:f.blocks.take b++nth f.blocks b::f.blocks.drop (b+1)=f.blocks:=by rw[ay hb,<-List.drop_eq_getElem_cons hb,P9]
 have e2:(nth f.blocks b).ins.take i++nth (nth f.blocks b).ins i::(nth f.blocks b).ins.drop (i+1)=(nth f.blocks b).ins:=by rw[ay hi,<-List.drop_eq_getElem_cons hi,P9]
 have e3:(nth f.blocks b).ins.find? (dQ v)=Sj (nth (nth f.blocks b).ins i):=by
  have:((nth f.blocks b).ins.take i++nth (nth f.blocks b).ins i::(nth f.blocks b).ins.drop (i+1)).find? (dQ v)=Sj (nth (nth f.blocks b).ins i):=by rw[Ri,h2,QC,List.find?_cons,h3]
  rwa [e2]at this
 have:((f.blocks.take b++nth f.blocks b::f.blocks.drop (b+1)).findSome? λb=>b.ins.find? (dQ v))=Sj (nth (nth f.blocks b).ins i):=by rw[QL,h1,List.findSome?_cons,e3];rfl
 rw[e1]at this;rw[Bo];exact this
theorem mA{H:View}:Rd H (.agg #[Sf Sg 0,Sf Sg 0,Sf Sg 0,Sn Sk 0 0,Sf Si 0]) iA:=by
 have hl:Rep.rd H [Sn Sk 0 0] ([]:List Int):=by have:=dR.2 (aQ (α:=Int) (H:=H));unfold Rd at this;simpa[Rep.agg]using this
 unfold Rd;rw[if_pos (show Rep.agg InsD=Sq from rfl)];exact⟨_,rfl,[_],_,rfl,⟨rfl,by decide,by decide⟩,[_],_,rfl,⟨rfl,by decide,by decide⟩,[_],_,rfl,⟨rfl,by decide,by decide⟩,[_],[_],rfl,hl,rfl,by decide,by decide⟩
theorem Bd{s:bY}{v:Value}{x:Int}{h:Heap}{W:View}(hW:W.le (vw h))(hv:Rd W v s)(hsm:SmF s.f):
  aw Ss 129 #[v,Sf Sg x] h (λu h'=>(vw h).le (vw h')/\∃vi,u = .tuple #[vi,.bool (nS s.f x).isSome]/\Rd (grow W h h') vi ((nS s.f x).getD iA)):=by
 refine aj (args:=[v,Sf Sg x]) follows Tryz.func129 E.bU S8 λK hK=>?_;dsimp only[L.bU,lkF,lkG];have c0:=Cx.start hW;refine ab λz hz=>?_;simp;refine c0.dc rfl hv λB ha Wa hWa ca hat hlea=>?_;obtain⟨vb,va,wa,wt,sb,-⟩:=GS hat;refine ca.cC (k:=(0,0)) (n:=4) (z:=.agg #[Sf Sg 0,Sf Sg 0,Sf Sg 0,Sn Sk 0 0,Sf Si 0]) rfl R9 rfl S1 S6 λR hb hleb cb=>?_;subst hz;refine ab λz hz=>?_;have sbb:=sb.mono cb.wle;have hbd:=sb.2.bound;simp[sbb.1,sbb.2.len];refine aR [0,1,2,4,5,12,13,14] (fun(_:Unit) k=>[v,Sf Sg x,ptz B,ptz R,.bool Sr,vb,Sf Sg s.f.blocks.length,Sf Sg k])
  (λ_ k h1=>(s.f.blocks.take k).findSome? (λb=>b.ins.find? (dQ x))=Sk/\∃W1,Wa.le W1/\Cx W h W1 h1 (Own.upd (λ_=>Sk) (0,0) (bx T.eA R (RawN.mk (n:=4) [Sf Sg 0,Sf Sg 0,Sf Sg 0,Sn Sk 0 0,Sf Si 0])))) s.f.blocks.length ()
  rfl S0 rfl ⟨rfl,Wa,View.le_refl _,cb⟩ (λ_ _=>rfl) (λv i h1 hk m=>by simp) ?_ ?_
 ·rintro _ k h1 hk ⟨hn,W1,hW1,c1⟩ K2 hK2;have q1:=(sb.2.mono hW1).wh rfl (N:=6) rfl hk;obtain⟨ub,hub,rub⟩:=q1;have hbs:=hsm.blk k hk;refine ab λz hz=>?_;simp(disch:=omega)[(sb.2.mono (Sc hW1 c1.wle)).idxn (N:=6) rfl,hub _ c1.wle];refine c1.dK (α:=BlkD) rub (n:=6) (z:=zz3) R9 rfl rfl R9 S3 S3 λB2 h2 W2 hW2 c2 hat2 hle2=>?_;obtain⟨vp,vi,va2,vt2,-,si,-⟩:=kN hat2;subst hz;refine ab λz hz=>?_;have si2:=si.mono c2.wle;have hbd2:=si.2.bound;simp[si2.1,si2.2.len];subst hz;generalize hbk:nth s.f.blocks k=bk at *;refine aR [0,1,2,4,5,7,12,13,14,19,20,21] (fun(_:Unit) i=>[v,Sf Sg x,ptz B,ptz R,.bool Sr,ptz B2,vb,Sf Sg s.f.blocks.length,Sf Sg k,vi,Sf Sg bk.ins.length,Sf Sg i])
   (λ_ i h3=>(bk.ins.take i).find? (dQ x)=Sk/\∃W3,W2.le W3/\Cx W h W3 h3 (Own.upd (λ_=>Sk) (0,0) (bx T.eA R (RawN.mk (n:=4) [Sf Sg 0,Sf Sg 0,Sf Sg 0,Sn Sk 0 0,Sf Si 0])))) bk.ins.length ()
   rfl S0 rfl ⟨rfl,W2,View.le_refl _,c2⟩ (λ_ _=>rfl) (λv i h1 hk m=>by simp) ?_ ?_
  ·rintro _ i h3 hi ⟨hn3,W3,hW3,c3⟩ K3 hK3;have si3:=si.2.mono hW3;obtain⟨ui,hui,rui⟩:=si3.wh rfl (N:=5) rfl hi;have hst:(bk.ins.take (i+1)).find? (dQ x)=if dQ x (nth bk.ins i) then Sj (nth bk.ins i) else none:=by rw[OS hi,Ri,hn3,QC,ay hi,List.find?_singleton]
   refine ab λz hz=>?_;simp(disch:=omega)[(si3.mono c3.wle).idxn (N:=5) rfl,hui _ c3.wle];refine c3.dK (α:=InsD) rui (n:=5) (z:=zz5) R9 rfl rfl R9 S3 S3 λB4 h4 W4 hW4 c4 hat4 hle4=>?_;obtain⟨q0,q1,-⟩:=kJ (hat4.mono c4.wle);obtain⟨ur,hur,rur⟩:=hat4.ldN rfl (N:=5) rfl;have hur:=hur _ c4.wle;generalize hxi:nth bk.ins i=xi at *;subst hz;refine ab λz hz=>?_;by_cases p:dQ x xi=Sq
   ·have hm:nS s.f x=Sj xi:=by have:=Ig (v:=x) hk (i:=i) (by rw[hbk];exact hi) hn (by rw[hbk];exact hn3) (by rw[hbk,hxi];exact p);rw[hbk,hxi]at this;exact this
    have p2:xi.op≠16/\xi.dst=x:=by simpa[dQ]using p
    simp[q0,q1,p2.1,p2.2];subst hz;simp[hur];refine c4.bD (k:=(0,0)) Own.ao rur rfl rfl R9 rfl rfl λh5 l5 hl5 c5=>?_;simp[c5.all (k:=(0,0)) Own.ao];refine hK _ _ ⟨c5.le0,_,by rw[hm];rfl,?_⟩;rw[hm,<-hl5];exact rur.mono c5.fin
   have hc:(!decide (xi.op=16)&&decide (xi.dst=x))=false:=by simpa[dQ]using p
   rw[if_neg p]at hst;by_cases p3:xi.op=16
   ·simp[q0,q1,p3];subst hz;simp;exact hK3 () _ _ rfl rfl ⟨hst,W4,Sc hW3 hW4,c4⟩
   have p4:¬xi.dst=x:=by simpa[p3]using hc
   simp[q0,q1,p3,p4];subst hz;simp;exact hK3 () _ _ rfl rfl ⟨hst,W4,Sc hW3 hW4,c4⟩
  rintro _ h3 ⟨hn3,W3,hW3,c3⟩;rw[Pu]at hn3;simp;refine hK2 () _ _ rfl rfl ⟨?_,W3,Sc hW1 (Sc hW2 hW3),c3⟩;rw[OS hk,QL,hn,QC,<-ay hk,hbk];simp[hn3]
 rintro _ h1 ⟨hn,W1,hW1,c1⟩;rw[Pu]at hn;have hm:nS s.f x=none:=by rw[Bo];exact hn
 simp;subst hz;refine ab λz hz=>?_;simp;have hr:Rd W1 (.agg #[Sf Sg 0,Sf Sg 0,Sf Sg 0,Sn Sk 0 0,Sf Si 0]) iA:=mA;refine az (z:=zz5) (places:=zpa) (vs:=[]) (cs:=#[Sf Sg 0,Sf Sg 0,Sf Sg 0,Sn Sk 0 0,Sf Si 0]) R9 R9 Sa R9 ?_;refine c1.bD (k:=(0,0)) Own.ao hr rfl rfl R9 rfl rfl λh5 l5 hl5 c5=>?_;subst hz;simp[c5.all (k:=(0,0)) Own.ao];refine hK _ _ ⟨c5.le0,_,by rw[hm];rfl,?_⟩;rw[hm,<-hl5];exact hr.mono c5.fin
theorem nM{s:bY}{v:Value}{x op:Int}{h:Heap}{W:View}(hW:W.le (vw h))(hv:Rd W v s)(hsm:SmF s.f)(hx:I64 x):
  aw Ss 100 #[v,Sf Sg x,Sf Sg op] h (λu h'=>(vw h).le (vw h')/\∃vi,u = .tuple #[vi,.bool (aD s.f x op).2]/\Rd (grow W h h') vi (aD s.f x op).1):=by
 refine aj (args:=[v,Sf Sg x,Sf Sg op]) follows Tryz.func100 E.jh S8 λK hK=>?_;dsimp only[L.jh,lkF,lkG];have c0:=Cx.start hW;refine ab λz hz=>?_;simp;refine c0.dc rfl hv λB ha Wa hWa ca hat hlea=>?_;refine ca.cC (k:=(0,0)) (n:=4) (z:=.agg #[Sf Sg 0,Sf Sg 0,Sf Sg 0,Sn Sk 0 0,Sf Si 0]) rfl R9 rfl S1 S6 λR hb hleb cb=>?_;subst hz;refine ab λz hz=>?_;obtain⟨us,hus,rus⟩:=hat.ldN rfl (N:=13) rfl;simp[hus _ cb.wle];refine af R9 (Bd cb.wle rus hsm) ?_;rintro _ hc ⟨hle,vi,rfl,hvi⟩;have cc:=cb.ext hle;simp;refine cc.dK (α:=InsD) hvi (n:=5) (z:=zz5) R9 rfl rfl R9 S3 S3 λB2 hd Wd hWd cd hat2 hle2=>?_;subst hz;refine ab λz hz=>?_;refine aO Wd cd.wle ?_;obtain⟨d0,-⟩:=kJ hat2;obtain⟨uf,huf,ruf⟩:=(hat.part bY.Oa).ldN rfl (N:=2) rfl;obtain⟨ui,hui,rui⟩:=hat2.ldN rfl (N:=5) rfl;have cbw:Wa.le Wd:=Sc cb.up hWd;have huf:Un.ev Wd (.bV 2) (ptz B)=Sj uf:=by simpa using huf Wd cbw
 have ruf:=ruf.mono cbw;have hui:=hui Wd Sb;have fin : ∀(b:Bool) (h2:Heap) (l':List Value),b=(aD s.f x op).2->ui = .agg l'.toArray->(nS s.f x).getD iA=(aD s.f x op).1->Cx W h Wd h2 (Own.upd (Own.upd (λ_=>Sk) (0,0) (bx T.eA R (RawN.mk (n:=4) [Sf Sg 0,Sf Sg 0,Sf Sg 0,Sn Sk 0 0,Sf Si 0]))) (0,0) (bx T.eA R (RawN.mk (n:=4) l')))->K (.tuple #[.agg l'.toArray,.bool b]) h2:=by rintro _ h2 l' rfl hl' e c2;refine hK _ _ ⟨c2.le0,_,rfl,?_⟩;rw[<-e,<-hl'];exact rui.mono c2.fin
 cases hm:nS s.f x with
 | none=>rw[hm]at fin d0;simp[hui];refine cd.bD (k:=(0,0)) Own.ao rui rfl rfl R9 rfl rfl λh2 l' hl' c2=>?_;subst hz;simp[c2.all (k:=(0,0)) Own.ao];exact fin _ _ _ (by unfold aD;rw[hm];rfl) hl' (by unfold aD;rw[hm];rfl) c2
 | some i=>
  rw[hm]at fin d0;have d0:ak Wd ⟨B2,0,Sk⟩=Sj (Sf Sg i.op):=d0;have e1:aD s.f x op=(i,decide (i.op=op)&&cS s.f x):=by unfold aD;rw[hm];rfl
  by_cases c:i.op=op
  ·simp[hui,d0,c,huf];refine af R9 (uZ (ruf.mono cd.wle) hsm hx) ?_;rintro _ h1 ⟨rfl,hle1⟩;have c1:Cx W h Wd h1 _:=⟨cd.own.ext' hle1,cd.old,Sc cd.le0 hle1,cd.new⟩;refine⟨c1.wle,?_⟩;refine c1.bD (k:=(0,0)) Own.ao rui rfl rfl R9 rfl rfl λh2 l' hl' c2=>?_;subst hz;simp[c2.all (k:=(0,0)) Own.ao];exact fin _ _ _ (by rw[e1];simp[c]) hl' (by rw[e1];rfl) c2
  simp[hui,d0,c];refine cd.bD (k:=(0,0)) Own.ao rui rfl rfl R9 rfl rfl λh2 l' hl' c2=>?_;subst hz;simp[c2.all (k:=(0,0)) Own.ao];exact fin _ _ _ (by rw[e1];simp[c]) hl' (by rw[e1];rfl) c2
theorem vz{s:bY}{v:Value}{x lo hi:Int}{h:Heap}{W:View}(hW:W.le (vw h))(hv:Rd W v s)(hsm:SmF s.f)(hx:I64 x):
  aw Ss 109 #[v,Sf Sg x,Sf Sg lo,Sf Sg hi] h (λu h'=>(vw h).le (vw h')/\u = .tuple #[Sf Sg (dW s.f x lo hi).1,.bool (dW s.f x lo hi).2]):=by
 refine aj (args:=[v,Sf Sg x,Sf Sg lo,Sf Sg hi]) follows Tryz.func109 E.gI S8 λK hK=>?_;dsimp only[L.gI,lkF,lkG];have c0:=Cx.start hW;refine ab λz hz=>?_;simp;refine c0.dc rfl hv λB ha Wa hWa ca hat hlea=>?_;subst hz;refine ab λz hz=>?_;obtain⟨us,hus,rus⟩:=hat.ldN rfl (N:=13) rfl;simp[hus _ ca.wle];refine af R9 (nM ca.wle rus hsm hx) ?_;rintro _ hc ⟨hle,vi,rfl,hvi⟩;have cc:=ca.ext hle;simp;refine cc.dK (α:=InsD) hvi (n:=5) (z:=zz5) R9 rfl rfl R9 S3 S3 λB2 hd Wd hWd cd hat2 hle2=>?_;subst hz;refine ab λz hz=>?_;refine aO Wd cd.wle ?_;have hp:=hat2.part InsD.je;have d4:ak Wd ⟨B2,4,Sk⟩=Sj (Sf Si (aD s.f x 1).1.imm.v):=by simpa using hp.i32
 obtain⟨_,-,rng⟩:=hp.load rfl;have rng:=(zV.1 rng).2;have ew:IntKind.i64.wrap (aD s.f x 1).1.imm.v=(aD s.f x 1).1.imm.v:=bC S0 S0;cases hb:(aD s.f x 1).2 with
 | false=>simp[d4,ew];subst hz;simp;exact hK _ _ ⟨cd.le0,by simp[dW,hb]⟩
 | true=>simp[d4,ew];refine af R9 jo ?_;rintro _ hd ⟨rfl,rfl⟩;refine⟨cd.wle,?_⟩;subst hz;simp;exact hK _ _ ⟨cd.le0,by simp[dW,hb]⟩
end Go.Proofs.YtnfiilgdjpdlkaaGreatDoor
namespace Go.Lft
open Go
theorem SlRd.rng {H:View} {v:Value} {l:List Int} (h:SlRd H v l) {i:Nat} (hi:i<l.length):-9223372036854775808<=nth l i/\nth l i<=9223372036854775807:=by have:=(h.at hi).rng;rw[ay hi];exact this
theorem At.pb {H:View} {a:Addr} {d:I32} (h:At H a d):-2147483648<=d.v/\d.v<=2147483647:=by obtain⟨u,h1,h2⟩:=h.load rfl;exact(zV.1 h2).2
end Go.Lft
namespace Go.Proofs.YtnfiilgdjpdlkaaGreatDoor
open Go Go.Lft
def bR (V:View) (h h':Heap) (u:Value) (r:Option FitD):Prop:=(vw h).le (vw h')/\∃vf x,u = .tuple #[vf,.bool r.isSome]/\Rd (grow V h h') vf x/\∀y,r=Sj y->x=y
structure oQ (W:View) (v:Value) (r:Option FitD):Prop where
 ex : ∃fn caps,v = .func (.func fn) #[] caps/\isFn Ss fn=Sq/\∀h V,W.le V->V.le (vw h)->aw Ss fn caps h (λu h'=>bR V h h' u r)
theorem oQ.mono {W W':View} {v:Value} {r:Option FitD} (f:oQ W v r) (hW:W.le W'):oQ W' v r:=let ⟨fn,caps,e,i,h⟩:=f.ex;⟨fn,caps,e,i,λh' V hV hh=>h h' V (Sc hW hV) hh⟩
theorem bR.of {V W:View} {h h':Heap} {o:Own} {u:Value} {x:FitD} {b:Bool} {r:Option FitD} (c:Cx V h W h' o) (hr:Rd W u x) (hb:b=r.isSome) (hx : ∀y,r=Sj y->x=y):bR V h h' (.tuple #[u,.bool b]) r:=⟨c.le0,u,x,by rw[hb],hr.mono c.fin,hx⟩
structure rT (i:InsD):Prop where
 two:2<=i.op/\i.op<=14\/i.op=16\/i.op=18->2<=i.args.length
 one:i.op=15->1<=i.args.length
 most:i.args.length<=10000
structure mC (s:bY):Prop where
 sm:SmF s.f
 all : ∀i∈du s.f,rT i
 one:rT s.i
 rng : ∀i∈du s.f,-2147483648<=i.imm.v/\i.imm.v<=2147483647
structure Ct (W:View) (S I:Nat) (s:bY):Prop where
 site:At W ⟨S,0,Sk⟩ s
 ins:At W ⟨I,0,Sk⟩ s.i
theorem Ct.mono {W W':View} {S I:Nat} {s:bY} (c:Ct W S I s) (h:W.le W'):Ct W' S I s:=⟨c.site.mono h,c.ins.mono h⟩
abbrev fitZ:List Value:=[Sn Sk 0 0,Sn Sk 0 0,Sn Sk 0 0,Sf Sg 0,Sf Sg 0,Sf Sg 0,Sn Sk 0 0,Sf Si 0]
theorem fy {H:View}:Rd H (.agg fitZ.toArray) Ha:=mK (v1:=Sn Sk 0 0) (v2:=Sn Sk 0 0) (v3:=Sn Sk 0 0) aQ aQ aQ (lq Sa S1 aQ)
section
variable {W V:View} {S I R:Nat} {s:bY} {h:Heap}
theorem EF (hV:V.le (vw h)):aw Ss 101 #[] h (λu h'=>bR V h h' u Sk):=by refine aj (args:=[]) follows Tryz.func101 E.fw S8 λK hK=>?_;dsimp only[L.fw,lkF,lkG];have c0:=Cx.start hV;refine ab λz hz=>?_;simp;refine c0.cC (k:=(0,0)) (n:=7) (z:=.agg fitZ.toArray) rfl R9 rfl S1 S6 λR hb hleb cb=>?_;subst hz;refine ab λz hz=>?_;simp;refine az (z:=.agg fitZ.toArray) (places:=zpc) (vs:=[]) (cs:=fitZ.toArray) R9 R9 Sa R9 ?_;refine cb.bD (k:=(0,0)) Own.ao fy rfl rfl R9 rfl rfl λh9 l9 hl9 c9=>?_;subst hz;simp[c9.all (k:=(0,0)) Own.ao];exact hK _ _ (bR.of c9 (hl9▸fy) rfl λy e=>by cases e)
theorem Jo (ct:Ct V S I s) (hV:V.le (vw h)):aw Ss 105 #[ptz I] h (λu h'=>bR V h h' u (Sj ⟨[],[],[⟨4,s.i.dst,0,0,0,0,s.i.imm,[]⟩],dH⟩)):=by refine aj (args:=[ptz I]) follows Tryz.func105 E.fM S8 λK hK=>?_;dsimp only[L.fM,lkF,lkG];have c0:=Cx.start hV;refine ab λz hz=>?_;simp;refine c0.cC (k:=(0,0)) (n:=7) (z:=.agg fitZ.toArray) rfl R9 rfl S1 S6 λR hb hleb cb=>?_;subst hz;refine ab λz hz=>?_;have i1:=(ct.ins.part InsD.iy);have i4:=(ct.ins.part InsD.je);have r1:=i1.rng;have r4:=i4.pb;have i1:ak (vw hb) ⟨I,1,Sk⟩=Sj (Sf Sg s.i.dst):=ae cb.wle (by simpa using i1.int);have i4:ak (vw hb) ⟨I,4,Sk⟩=Sj (Sf Si s.i.imm.v):=ae cb.wle (by simpa using i4.i32);simp[i1,i4];refine az (z:=zz8) (places:=zpb) (vs:=[(0,Sf Sg 4),(1,Sf Sg s.i.dst),(6,Sf Si s.i.imm.v)]) (cs:=#[Sf Sg 4,Sf Sg s.i.dst,Sf Sg 0,Sf Sg 0,Sf Sg 0,Sf Sg 0,Sf Si s.i.imm.v,Sn Sk 0 0]) R9 R9 Sa R9 ?_;have hm:Rd V (.agg #[Sf Sg 4,Sf Sg s.i.dst,Sf Sg 0,Sf Sg 0,Sf Sg 0,Sf Sg 0,Sf Si s.i.imm.v,Sn Sk 0 0]) (⟨4,s.i.dst,0,0,0,0,s.i.imm,[]⟩:aZ):=iH (by simp[r1]) r4 aQ;refine af R9 (kI cb.wle hm aQ aQ) ?_;rintro _ hE ⟨hle,vf,rfl,hvf⟩;have cE:=cb.ext hle;simp;refine cE.bD (k:=(0,0)) Own.ao hvf rfl rfl R9 rfl rfl λh9 l9 hl9 c9=>?_;subst hz;simp[c9.all (k:=(0,0)) Own.ao];exact hK _ _ (bR.of c9 (hl9▸hvf) rfl λy e=>by cases e;rfl)
theorem Jm (ct:Ct V S I s) (hV:V.le (vw h)):aw Ss 103 #[ptz I] h (λu h'=>bR V h h' u (if inR s.i.imm.v (-32768) 32767 then Sj ⟨[],[],[⟨3,s.i.dst,0,0,0,0,s.i.imm,[]⟩],dH⟩ else Sk)):=by
 refine aj (args:=[ptz I]) follows Tryz.func103 E.fG S8 λK hK=>?_;dsimp only[L.fG,lkF,lkG];have c0:=Cx.start hV;refine ab λz hz=>?_;simp;refine c0.cC (k:=(0,0)) (n:=7) (z:=.agg fitZ.toArray) rfl R9 rfl S1 S6 λR hb hleb cb=>?_;subst hz;refine ab λz hz=>?_;have i1:=(ct.ins.part InsD.iy);have i4:=(ct.ins.part InsD.je);have r1:=i1.rng;have r4:=i4.pb;have i1:ak V ⟨I,1,Sk⟩=Sj (Sf Sg s.i.dst):=by simpa using i1.int
 have i4:ak V ⟨I,4,Sk⟩=Sj (Sf Si s.i.imm.v):=by simpa using i4.i32
 simp[ae cb.wle i1,ae cb.wle i4];refine az (z:=zz8) (places:=zpb) (vs:=[(0,Sf Sg 3),(1,Sf Sg s.i.dst),(6,Sf Si s.i.imm.v)]) (cs:=#[Sf Sg 3,Sf Sg s.i.dst,Sf Sg 0,Sf Sg 0,Sf Sg 0,Sf Sg 0,Sf Si s.i.imm.v,Sn Sk 0 0]) R9 R9 Sa R9 ?_;have hm:Rd V (.agg #[Sf Sg 3,Sf Sg s.i.dst,Sf Sg 0,Sf Sg 0,Sf Sg 0,Sf Sg 0,Sf Si s.i.imm.v,Sn Sk 0 0]) (⟨3,s.i.dst,0,0,0,0,s.i.imm,[]⟩:aZ):=iH (by simp[r1]) r4 aQ;refine af R9 (kI cb.wle hm aQ aQ) ?_;rintro _ hE ⟨hle,vf,rfl,hvf⟩;have cE:=cb.ext hle;simp;refine cE.dK (α:=FitD) hvf (n:=8) (z:=.agg fitZ.toArray) R9 rfl rfl R9 S3 S3 λB2 hF WF hWF cF hatF hleF=>?_;obtain⟨ux,hux,rux⟩:=hatF.ldN rfl (N:=8) rfl;have hux:=hux WF Sb;subst hz;refine ab λz hz=>?_;refine aO WF cF.wle ?_;have ew:IntKind.i64.wrap s.i.imm.v=s.i.imm.v:=bC S0 S0;have vw1:V.le WF:=Sc cb.up hWF;simp[hux,ae vw1 i4,ew];refine af R9 jo ?_;rintro _ hF ⟨rfl,rfl⟩;refine⟨cF.wle,?_⟩;refine cF.bD (k:=(0,0)) Own.ao rux rfl rfl R9 rfl rfl λh9 l9 hl9 c9=>?_;subst hz;simp[c9.all (k:=(0,0)) Own.ao];refine hK _ _ (bR.of c9 (hl9▸rux) (by split<;>simp_all) λy e=>?_);split at e<;>cases e;rfl
theorem IY {O:Nat} {op:Int} (ct:Ct V S I s) (hV:V.le (vw h)) (hO:ak V ⟨O,0,Sk⟩=Sj (Sf Sg op)) (hop:2<=op/\op<=14) (ha:2<=s.i.args.length/\s.i.args.length<=10000) :
  aw Ss 106 #[ptz O,ptz I] h (λu h'=>bR V h h' u (Sj ⟨s.i.args,[],[⟨op+3,s.i.dst,0,nth s.i.args 0,nth s.i.args 1,0,⟨0⟩,[]⟩],dH⟩)):=by
 refine aj (args:=[ptz O,ptz I]) follows Tryz.func106 E.fJ S8 λK hK=>?_;dsimp only[L.fJ,lkF,lkG];have c0:=Cx.start hV;refine ab λz hz=>?_;simp;refine c0.cC (k:=(0,0)) (n:=7) (z:=.agg fitZ.toArray) rfl R9 rfl S1 S6 λR hb hleb cb=>?_;subst hz;refine ab λz hz=>?_;have i1:=(ct.ins.part InsD.iy);have r1:=i1.rng;have i1:ak V ⟨I,1,Sk⟩=Sj (Sf Sg s.i.dst):=by simpa using i1.int
 have i2:=(ct.ins.part InsD.y6);have r2:=i2.rng;have i2:ak V ⟨I,2,Sk⟩=Sj (Sf Sg s.i.two):=by simpa using i2.int
 have i4:=(ct.ins.part InsD.je);have r4:=i4.pb;have i4:ak V ⟨I,4,Sk⟩=Sj (Sf Si s.i.imm.v):=by simpa using i4.i32
 obtain⟨va,i3,hva⟩:=(ct.ins.part InsD.eS).sl;have i3:ak V ⟨I,3,Sk⟩=Sj va:=by simpa using i3
 have e1:5+op-2=op+3:=by omega
 have a0:=hva.rng (i:=0) S0;have a1:=hva.rng (i:=1) S0;have hm : ∀X,Rd X (.agg #[Sf Sg (op+3),Sf Sg s.i.dst,Sf Sg 0,Sf Sg (nth s.i.args 0),Sf Sg (nth s.i.args 1),Sf Sg 0,Sf Si 0,Sn Sk 0 0]) (⟨op+3,s.i.dst,0,nth s.i.args 0,nth s.i.args 1,0,⟨0⟩,[]⟩:aZ):=λX=>iH S7 Sa aQ;refine aO V cb.wle ?_;simp(disch:=omega)[hO,i1,i3,hva.idx1 rfl,hva.int Sb,e1];refine⟨?_,?_⟩
 ·refine az (z:=zz8) (places:=zpb) (vs:=[(0,Sf Sg (op+3)),(1,Sf Sg s.i.dst),(3,Sf Sg (nth s.i.args 0)),(4,Sf Sg (nth s.i.args 1))]) (cs:=#[Sf Sg (op+3),Sf Sg s.i.dst,Sf Sg 0,Sf Sg (nth s.i.args 0),Sf Sg (nth s.i.args 1),Sf Sg 0,Sf Si 0,Sn Sk 0 0]) R9 R9 Sa R9 ?_;refine⟨Sc Sb cb.wle,?_⟩;refine af R9 (dT cb.wle (hva.mono Sb) S0) ?_;rintro u1 h1 ⟨hle1,hcl1⟩;have c1:=cb.ext hle1;refine⟨Sc (Sc Sb (cb.up)) c1.wle,?_⟩;refine af R9 (kI c1.wle (hm _) hcl1 aQ) ?_;rintro _ hE ⟨hleE,vf,rfl,hvf⟩;have cE:=c1.ext hleE;simp;refine cE.bD (k:=(0,0)) Own.ao hvf rfl rfl R9 rfl rfl λh9 l9 hl9 c9=>?_;subst hz;simp[c9.all (k:=(0,0)) Own.ao];exact hK _ _ (bR.of c9 (hl9▸hvf) rfl λy e=>by cases e;rfl)
 refine af R9 (dT cb.wle (hva.mono Sb) S0) ?_;rintro u1 h1 ⟨hle1,hcl1⟩;have c1:=cb.ext hle1;refine⟨Sc (Sc Sb (cb.up)) c1.wle,?_⟩;refine az (z:=zz8) (places:=zpb) (vs:=[(0,Sf Sg (op+3)),(1,Sf Sg s.i.dst),(3,Sf Sg (nth s.i.args 0)),(4,Sf Sg (nth s.i.args 1))]) (cs:=#[Sf Sg (op+3),Sf Sg s.i.dst,Sf Sg 0,Sf Sg (nth s.i.args 0),Sf Sg (nth s.i.args 1),Sf Sg 0,Sf Si 0,Sn Sk 0 0]) R9 R9 Sa R9 ?_;refine⟨Sc (Sc Sb (cb.up)) c1.wle,?_⟩;refine af R9 (kI c1.wle (hm _) hcl1 aQ) ?_;rintro _ hE ⟨hleE,vf,rfl,hvf⟩;have cE:=c1.ext hleE;simp;refine cE.bD (k:=(0,0)) Own.ao hvf rfl rfl R9 rfl rfl λh9 l9 hl9 c9=>?_;subst hz;simp[c9.all (k:=(0,0)) Own.ao];exact hK _ _ (bR.of c9 (hl9▸hvf) rfl λy e=>by cases e;rfl)
theorem JT (ct:Ct V S I s) (hV:V.le (vw h)) (ha:s.i.args.length<=10000) :
  aw Ss 112 #[ptz I] h (λu h'=>bR V h h' u (Sj ⟨s.i.args,[],[⟨28,s.i.dst,0,0,0,0,s.i.imm,s.i.args⟩],dH⟩)):=by
 refine aj (args:=[ptz I]) follows Tryz.func112 E.ft S8 λK hK=>?_;dsimp only[L.ft,lkF,lkG];have c0:=Cx.start hV;refine ab λz hz=>?_;simp;refine c0.cC (k:=(0,0)) (n:=7) (z:=.agg fitZ.toArray) rfl R9 rfl S1 S6 λR hb hleb cb=>?_;subst hz;refine ab λz hz=>?_;have i1:=(ct.ins.part InsD.iy);have r1:=i1.rng;have i1:ak V ⟨I,1,Sk⟩=Sj (Sf Sg s.i.dst):=by simpa using i1.int
 have i2:=(ct.ins.part InsD.y6);have r2:=i2.rng;have i2:ak V ⟨I,2,Sk⟩=Sj (Sf Sg s.i.two):=by simpa using i2.int
 have i4:=(ct.ins.part InsD.je);have r4:=i4.pb;have i4:ak V ⟨I,4,Sk⟩=Sj (Sf Si s.i.imm.v):=by simpa using i4.i32
 obtain⟨va,i3,hva⟩:=(ct.ins.part InsD.eS).sl;have i3:ak V ⟨I,3,Sk⟩=Sj va:=by simpa using i3
 have hm : ∀{X w},SlRd X w s.i.args->Rd X (.agg #[Sf Sg 28,Sf Sg s.i.dst,Sf Sg 0,Sf Sg 0,Sf Sg 0,Sf Sg 0,Sf Si s.i.imm.v,w]) (⟨28,s.i.dst,0,0,0,0,s.i.imm,s.i.args⟩:aZ):=λhw=>iH S7 r4 hw;refine aO V cb.wle ?_;simp(disch:=omega)[i1,i3,i4];refine af R9 (dT cb.wle hva S0) ?_;rintro u1 h1 ⟨hle1,hcl1⟩;have c1:=cb.ext hle1;refine⟨Sc cb.up c1.wle,?_⟩;have q1:=hcl1;obtain⟨b1,k1,rfl,-⟩:=q1;refine⟨?_,?_⟩
 ·refine az (z:=zz8) (places:=zpb) (vs:=[(0,Sf Sg 28),(1,Sf Sg s.i.dst),(6,Sf Si s.i.imm.v),(7,.slice b1 s.i.args.length k1)]) (cs:=#[Sf Sg 28,Sf Sg s.i.dst,Sf Sg 0,Sf Sg 0,Sf Sg 0,Sf Sg 0,Sf Si s.i.imm.v,.slice b1 s.i.args.length k1]) R9 R9 Sa R9 ?_;refine⟨Sc cb.up c1.wle,?_⟩;refine af R9 (dT c1.wle (hva.mono cb.up) S0) ?_;rintro u2 h2 ⟨hle2,hcl2⟩;have c2:=c1.ext hle2;refine⟨Sc (Sc cb.up c1.up) c2.wle,?_⟩;refine af R9 (kI c2.wle (hm (hcl1.mono c1.up)) hcl2 aQ) ?_;rintro _ hE ⟨hleE,vf,rfl,hvf⟩;have cE:=c2.ext hleE;simp;refine cE.bD (k:=(0,0)) Own.ao hvf rfl rfl R9 rfl rfl λh9 l9 hl9 c9=>?_;subst hz;simp[c9.all (k:=(0,0)) Own.ao];exact hK _ _ (bR.of c9 (hl9▸hvf) rfl λy e=>by cases e;rfl)
 refine af R9 (dT c1.wle (hva.mono cb.up) S0) ?_;rintro u2 h2 ⟨hle2,hcl2⟩;have c2:=c1.ext hle2;refine⟨Sc (Sc cb.up c1.up) c2.wle,?_⟩;refine az (z:=zz8) (places:=zpb) (vs:=[(0,Sf Sg 28),(1,Sf Sg s.i.dst),(6,Sf Si s.i.imm.v),(7,.slice b1 s.i.args.length k1)]) (cs:=#[Sf Sg 28,Sf Sg s.i.dst,Sf Sg 0,Sf Sg 0,Sf Sg 0,Sf Sg 0,Sf Si s.i.imm.v,.slice b1 s.i.args.length k1]) R9 R9 Sa R9 ?_;refine⟨Sc (Sc cb.up c1.up) c2.wle,?_⟩;refine af R9 (kI c2.wle (hm (hcl1.mono c1.up)) hcl2 aQ) ?_;rintro _ hE ⟨hleE,vf,rfl,hvf⟩;have cE:=c2.ext hleE;simp;refine cE.bD (k:=(0,0)) Own.ao hvf rfl rfl R9 rfl rfl λh9 l9 hl9 c9=>?_;subst hz;simp[c9.all (k:=(0,0)) Own.ao];exact hK _ _ (bR.of c9 (hl9▸hvf) rfl λy e=>by cases e;rfl)
theorem JG (ct:Ct V S I s) (hV:V.le (vw h)) (ha:2<=s.i.args.length/\s.i.args.length<=10000) :
  aw Ss 113 #[ptz I] h (λu h'=>bR V h h' u (Sj ⟨s.i.args,[],[⟨29,s.i.dst,s.i.two,nth s.i.args 0,nth s.i.args 1,0,⟨0⟩,[]⟩],dH⟩)):=by
 refine aj (args:=[ptz I]) follows Tryz.func113 E.fu S8 λK hK=>?_;dsimp only[L.fu,lkF,lkG];have c0:=Cx.start hV;refine ab λz hz=>?_;simp;refine c0.cC (k:=(0,0)) (n:=7) (z:=.agg fitZ.toArray) rfl R9 rfl S1 S6 λR hb hleb cb=>?_;subst hz;refine ab λz hz=>?_;have i1:=(ct.ins.part InsD.iy);have r1:=i1.rng;have i1:ak V ⟨I,1,Sk⟩=Sj (Sf Sg s.i.dst):=by simpa using i1.int
 have i2:=(ct.ins.part InsD.y6);have r2:=i2.rng;have i2:ak V ⟨I,2,Sk⟩=Sj (Sf Sg s.i.two):=by simpa using i2.int
 have i4:=(ct.ins.part InsD.je);have r4:=i4.pb;have i4:ak V ⟨I,4,Sk⟩=Sj (Sf Si s.i.imm.v):=by simpa using i4.i32
 obtain⟨va,i3,hva⟩:=(ct.ins.part InsD.eS).sl;have i3:ak V ⟨I,3,Sk⟩=Sj va:=by simpa using i3
 have a0:=hva.rng (i:=0) S0;have a1:=hva.rng (i:=1) S0;have hm : ∀X,Rd X (.agg #[Sf Sg 29,Sf Sg s.i.dst,Sf Sg s.i.two,Sf Sg (nth s.i.args 0),Sf Sg (nth s.i.args 1),Sf Sg 0,Sf Si 0,Sn Sk 0 0]) (⟨29,s.i.dst,s.i.two,nth s.i.args 0,nth s.i.args 1,0,⟨0⟩,[]⟩:aZ):=λX=>iH S7 Sa aQ;refine aO V cb.wle ?_;simp(disch:=omega)[i1,i2,i3,hva.idx1 rfl,hva.int Sb];refine⟨?_,?_⟩
 ·refine az (z:=zz8) (places:=zpb) (vs:=[(0,Sf Sg 29),(1,Sf Sg s.i.dst),(2,Sf Sg s.i.two),(3,Sf Sg (nth s.i.args 0)),(4,Sf Sg (nth s.i.args 1))]) (cs:=#[Sf Sg 29,Sf Sg s.i.dst,Sf Sg s.i.two,Sf Sg (nth s.i.args 0),Sf Sg (nth s.i.args 1),Sf Sg 0,Sf Si 0,Sn Sk 0 0]) R9 R9 Sa R9 ?_;refine⟨Sc Sb cb.wle,?_⟩;refine af R9 (dT cb.wle (hva.mono Sb) S0) ?_;rintro u1 h1 ⟨hle1,hcl1⟩;have c1:=cb.ext hle1;refine⟨Sc (Sc Sb (cb.up)) c1.wle,?_⟩;refine af R9 (kI c1.wle (hm _) hcl1 aQ) ?_;rintro _ hE ⟨hleE,vf,rfl,hvf⟩;have cE:=c1.ext hleE;simp;refine cE.bD (k:=(0,0)) Own.ao hvf rfl rfl R9 rfl rfl λh9 l9 hl9 c9=>?_;subst hz;simp[c9.all (k:=(0,0)) Own.ao];exact hK _ _ (bR.of c9 (hl9▸hvf) rfl λy e=>by cases e;rfl)
 refine af R9 (dT cb.wle (hva.mono Sb) S0) ?_;rintro u1 h1 ⟨hle1,hcl1⟩;have c1:=cb.ext hle1;refine⟨Sc (Sc Sb (cb.up)) c1.wle,?_⟩;refine az (z:=zz8) (places:=zpb) (vs:=[(0,Sf Sg 29),(1,Sf Sg s.i.dst),(2,Sf Sg s.i.two),(3,Sf Sg (nth s.i.args 0)),(4,Sf Sg (nth s.i.args 1))]) (cs:=#[Sf Sg 29,Sf Sg s.i.dst,Sf Sg s.i.two,Sf Sg (nth s.i.args 0),Sf Sg (nth s.i.args 1),Sf Sg 0,Sf Si 0,Sn Sk 0 0]) R9 R9 Sa R9 ?_;refine⟨Sc (Sc Sb (cb.up)) c1.wle,?_⟩;refine af R9 (kI c1.wle (hm _) hcl1 aQ) ?_;rintro _ hE ⟨hleE,vf,rfl,hvf⟩;have cE:=c1.ext hleE;simp;refine cE.bD (k:=(0,0)) Own.ao hvf rfl rfl R9 rfl rfl λh9 l9 hl9 c9=>?_;subst hz;simp[c9.all (k:=(0,0)) Own.ao];exact hK _ _ (bR.of c9 (hl9▸hvf) rfl λy e=>by cases e;rfl)
end
theorem Ef(n:Int):-2147483648<=(w32 n).v/\(w32 n).v<=2147483647:=by unfold w32 IntKind.wrap;simp[IntKind.signed,IntKind.bits];omega
section
variable {W V:View} {S I R:Nat} {s:bY} {h:Heap}
theorem wG{f:an}{v lo hi:Int}(hr : ∀i∈du f,-2147483648<=i.imm.v/\i.imm.v<=2147483647):-2147483648<=(dW f v lo hi).1/\(dW f v lo hi).1<=2147483647:=by
 unfold dW aD;cases hm:nS f v with
 | none=>exact⟨(by decide:(-2147483648:Int)<=0),(by decide:(0:Int)<=2147483647)⟩
 | some i=>exact hr i (PW hm)
set_option maxHeartbeats 4000000 in
/-- addi to sari. -/
theorem G9{L1 M1 O1 G1:Nat}{lo hi m sign:Int}(ct:Ct V S I s)(hV:V.le (vw h))(hok:mC s)(ha:2<=s.i.args.length)(hl:ak V ⟨L1,0,Sk⟩=Sj (Sf Sg lo))(hh:ak V ⟨M1,0,Sk⟩=Sj (Sf Sg hi))(hm:ak V ⟨O1,0,Sk⟩=Sj (Sf Sg m))(hg:ak V ⟨G1,0,Sk⟩=Sj (Sf Sg sign))(hs:sign=1\/sign=-1)(hm0:0<=m/\m<=100):
    aw Ss 108 #[ptz S,ptz I,ptz L1,ptz M1,ptz O1,ptz G1] h
      (λu h'=>bR V h h' u (immS s.f s.i m lo hi sign)):=by
  refine aj (args:=[ptz S,ptz I,ptz L1,ptz M1,ptz O1,ptz G1]) follows Tryz.func108 E.cz S8 λK hK=>?_
  dsimp only[L.cz,lkF,lkG]
  have c0:=Cx.start hV
  refine ab λz hz=>?_
  simp
  refine c0.cC (k:=(0,0)) (n:=7) (z:=.agg fitZ.toArray) rfl R9 rfl S1 S6 λR hb hleb cb=>?_
  subst hz
  have i1:=(ct.ins.part InsD.iy)
  have r1:=i1.rng
  have i1:ak V ⟨I,1,Sk⟩=Sj (Sf Sg s.i.dst):=by simpa using i1.int
  obtain⟨va,i3,hva⟩:=(ct.ins.part InsD.eS).sl
  have i3:ak V ⟨I,3,Sk⟩=Sj va:=by simpa using i3
  have a0:=hva.rng (i:=0) S0
  have a1:=hva.rng (i:=1) S0
  obtain⟨us,hus,rus⟩:=ct.site.ldN rfl (N:=13) rfl
  have hus:=hus V Sb
  have most:=hok.one.most
  refine ab λz hz=>?_
  refine aO V cb.wle ?_
  simp(disch:=omega)[hus,i3,hva.idx1 rfl,hva.int Sb,hl,hh]
  refine af R9 (vz cb.wle rus hok.sm a1) ?_
  rintro _ hc ⟨hle,rfl⟩
  have cc:Cx V h V hc _:=⟨cb.own.ext' hle,cb.old,Sc cb.le0 hle,cb.new⟩
  simp
  have rk:-2147483648<=(dW s.f (nth s.i.args 1) lo hi).1/\(dW s.f (nth s.i.args 1) lo hi).1<=2147483647:=wG hok.rng
  generalize hk:(dW s.f (nth s.i.args 1) lo hi).1=k at *
  generalize hb2:(dW s.f (nth s.i.args 1) lo hi).2=ok at *
  subst hz
  refine ab λz hz=>?_
  refine aO V cc.wle ?_
  have e1:IntKind.i64.wrap (sign*k)=sign*k:=by rcases hs with rfl | rfl<;>exact bC S0 S0
  have hmm : ∀X,Rd X (.agg #[Sf Sg m,Sf Sg s.i.dst,Sf Sg 0,Sf Sg (nth s.i.args 0),Sf Sg 0,Sf Sg 0,Sf Si (IntKind.i32.wrap (sign*k)),Sn Sk 0 0]) (⟨m,s.i.dst,0,nth s.i.args 0,0,0,w32 (sign*k),[]⟩:aZ):=λX=>iH (imm:=w32 (sign*k)) S7 (Ef _) aQ
  have fin : ∀(W:View) (hx:Heap) (o:Own) (l9:List Value),Cx V h W hx o->Rd W (.agg l9.toArray) (⟨[nth s.i.args 0],[nth s.i.args 1],[⟨m,s.i.dst,0,nth s.i.args 0,0,0,w32 (sign*k),[]⟩],dH⟩:FitD)->K (.tuple #[.agg l9.toArray,.bool ok]) hx:=λW hx o l9 c hr=>
    hK _ _ (bR.of c hr (by unfold immS;rw[hb2];split<;>simp_all) λy e=>by
      unfold immS at e
      rw[hb2,hk]at e
      split at e<;>cases e
      rfl)
  have c:=cc
  have q0:=hva.idx1 (k:=.i64) (i:=0) rfl S1 S0
  have q1:=hva.idx1 (k:=.i64) (i:=1) rfl S1 S0
  have d0:=hva.int (View.le_refl V) (i:=0) S0
  have d1:=hva.int (View.le_refl V) (i:=1) S0
  repeat' (first
    | refine iD ?_ ?_
    | (refine bJ λy hy=>?_
       simp[hm,hg,i1,i3,q0,q1,d0,d1,e1]
       first
       | refine az (z:=.agg #[Sf Sg 0,Sf Sg 0,Sf Sg 0,Sf Sg 0,Sf Sg 0,Sf Sg 0,Sf Si 0,Sn Sk 0 0]) (places:=zpb) (vs:=[(0,Sf Sg m),(1,Sf Sg s.i.dst),(3,Sf Sg (nth s.i.args 0)),(6,Sf Si (IntKind.i32.wrap (sign*k)))]) (cs:=#[Sf Sg m,Sf Sg s.i.dst,Sf Sg 0,Sf Sg (nth s.i.args 0),Sf Sg 0,Sf Sg 0,Sf Si (IntKind.i32.wrap (sign*k)),Sn Sk 0 0]) R9 R9 Sa R9 ?_
       | (refine c.ln (α:=Int) (n:=1) (vs:=[Sf Sg (nth s.i.args 0)]) (ds:=[nth s.i.args 0]) El.aV ?_ ⟨bO.2 ⟨rfl,a0⟩,trivial⟩ rfl S1 S1 λuA h W hW c huA hle=>?_
          · simp;done)
       | (refine c.ln (α:=Int) (n:=1) (vs:=[Sf Sg (nth s.i.args 1)]) (ds:=[nth s.i.args 1]) El.aV ?_ ⟨bO.2 ⟨rfl,a1⟩,trivial⟩ rfl S1 S1 λuB h W hW c huB hle=>?_
          · simp;done)
       | refine c.cC (k:=(0,1)) (n:=7) (z:=.agg fitZ.toArray) S2 R9 rfl S1 S6 λR2 h hle c=>?_
       | (refine af R9 (kI c.wle (hmm _) (huA.mono S9) (huB.mono S9)) ?_
          rintro _ h ⟨hle,vf,rfl,hvf⟩
          have hW:=c.up (h':=h)
          have c:=c.ext hle)
       | refine c.bD (k:=(0,1)) (n:=7) (l:=fitZ) S2 (hvf.mono S9) rfl rfl R9 rfl rfl λh l9 hl9 c=>?_
       try refine⟨Sc S9 c.wle,?_⟩
       subst hy))
  all_goals
    simp
    rw[hz]
    subst hl9
    have hall:=c.all (k:=(0,1)) (n:=7) (l:=l9) (B:=R2) (e:=T.aT) S2
    simp at hall
    simp[hall]
    refine c.bD (k:=(0,0)) (n:=7) (l:=fitZ) S2 (hvf.mono S9) rfl rfl R9 rfl rfl λh9 l9' hl9' c9=>?_
    have hall:=c9.all (k:=(0,0)) (n:=7) (l:=l9') (B:=R) (e:=T.aT) S2
    simp at hall
    simp[hall]
    exact fin _ _ _ _ c9 (hl9'▸hvf.mono S9)
end
end Go.Proofs.YtnfiilgdjpdlkaaGreatDoor
namespace Go.Lft
open Go
variable {po:OP}
theorem F0 {P:Program} {ty:TypeId} {us:List (Nat × Value)} {h:Heap} {K:Value->Heap->Prop} {f:FuncId} {x:Operand} {v:Value} (hx:asg us x=v) (hk:K (.func (.func f) #[v] #[]) h):step P (.makeFunc (.func f) #[x] #[]) ty us h K:=by refine cI (cf λw hw=>⟨_,w,?_,Same.refl _,by rw[hw];exact hk⟩);simp only[bI,execOp];simp[Instr.makeFunc,hx]
theorem Gg {P:Program} {ty:TypeId} {us:List (Nat × Value)} {h:Heap} {K:Value->Heap->Prop} {f:FuncId} {t:Nat} {ops:List Operand} {T:Array TypeId} {first caps:Array Value} (hf:asg us (.tmp t) = .func (.func f) first caps) {R:Value->Heap->Prop} (hfn:isFn P f=Sq)
  (hc:aw P f (first.toList++ops.map (asg us)++caps.toList).toArray h R) (hk : ∀v h',R v h'->K v h'):step P (.call ⟨.value (.tmp t),ops.toArray,T⟩) ty us h K:=by
 refine cI (rS (R:=R) (f:=f) (args:=(first.toList++ops.map (asg us)++caps.toList).toArray) (λw _=>?_) hc hk);unfold isFn at hfn;cases hfn':P.funcs[f]? with
 | none=>simp[hfn']at hfn
 | some fn=>simp only[hfn',OG,bne_iff_ne,ne_eq]at hfn;obtain⟨h1,h2⟩:=hfn;simp[bI,execOp,resolve,Deferred.ofValue,hf,invoke,callFunc,program,Sem.run,hfn',h1,Option.isNone];cases hb:fn.body<;>simp[hb]at h2 ⊢
end Go.Lft
namespace Go.Proofs.YtnfiilgdjpdlkaaGreatDoor
open Go Go.Lft
section
variable {W V:View} {S I R:Nat} {s:bY} {h:Heap}
theorem dm {f:an} {v op:Int} (hb:(aD f v op).2=Sq):(aD f v op).1∈du f/\(aD f v op).1.op=op/\cS f v=Sq/\(aD f v op).1.dst=v/\(aD f v op).1.op≠16:=by
 unfold aD at *;cases hm:nS f v with
 | none=>rw[hm]at hb;cases hb
 | some i=>rw[hm]at hb;have hb:(decide (i.op=op)&&cS f v)=true:=hb;simp at hb;have hp:=R1 hm;simp[dQ]at hp;exact⟨PW hm,hb.1,hb.2,hp.2,hp.1⟩
set_option maxHeartbeats 4000000 in
/-- madd. -/
theorem IH {Z:Nat} (ct:Ct V S I s) (hV:V.le (vw h)) (hok:mC s) (ha:2<=s.i.args.length) (hz0:ak V ⟨Z,0,Sk⟩=Sj (.func (.func 101) #[] #[])) :
    aw Ss 110 #[ptz S,ptz I,ptz Z] h
      (λu h'=>bR V h h' u (doS s.f s.i s.temp 22)):=by
  refine aj (args:=[ptz S,ptz I,ptz Z]) follows Tryz.func110 E.fm S8 λK hK=>?_
  dsimp only[L.fm,lkF,lkG]
  have c0:=Cx.start hV
  refine ab λz hz=>?_
  simp
  refine c0.cC (k:=(0,0)) (n:=7) (z:=.agg fitZ.toArray) rfl R9 rfl S1 S6 λR hb hleb cb=>?_
  subst hz
  have i1:=(ct.ins.part InsD.iy)
  have r1:=i1.rng
  have i1:ak V ⟨I,1,Sk⟩=Sj (Sf Sg s.i.dst):=by simpa using i1.int
  obtain⟨va,i3,hva⟩:=(ct.ins.part InsD.eS).sl
  have i3:ak V ⟨I,3,Sk⟩=Sj va:=by simpa using i3
  have a0:=hva.rng (i:=0) S0
  have a1:=hva.rng (i:=1) S0
  obtain⟨us,hus,rus⟩:=ct.site.ldN rfl (N:=13) rfl
  have q0:=hva.idx1 (k:=.i64) (i:=0) rfl S1 S0
  have q1:=hva.idx1 (k:=.i64) (i:=1) rfl S1 S0
  refine ab λz hz=>?_
  simp[hus _ cb.wle]
  refine F0 rfl ?_
  subst hz
  refine ab λz hz=>?_
  simp[ae cb.wle i3,q0,hva.int cb.wle (i:=0) S0]
  refine Gg (ops:=[.tmp 15,.const (Sf Sg 4)]) rfl R9 (nM (x:=nth s.i.args 0) (op:=4) cb.wle rus hok.sm a0) ?_
  rintro _ hc ⟨hle,vm,rfl,hvm⟩
  have cc:=cb.ext hle
  have hWc:=cb.up (h':=hc)
  have hdo:doS s.f s.i s.temp 22=if(aD s.f (nth s.i.args 0) 4).2 then
      Sj ⟨[nth (aD s.f (nth s.i.args 0) 4).1.args 0,nth (aD s.f (nth s.i.args 0) 4).1.args 1,nth s.i.args 1],[nth s.i.args 0],[⟨23,s.i.dst,0,nth (aD s.f (nth s.i.args 0) 4).1.args 0,nth (aD s.f (nth s.i.args 0) 4).1.args 1,nth s.i.args 1,⟨0⟩,[]⟩],dH⟩
    else none:=rfl
  have hfm:=dm (f:=s.f) (v:=nth s.i.args 0) (op:=4)
  generalize (aD s.f (nth s.i.args 0) 4).1=m at *
  generalize (aD s.f (nth s.i.args 0) 4).2=b at *
  simp
  refine cc.dK (α:=InsD) hvm (n:=5) (z:=zz5) R9 rfl rfl R9 S3 S3 λB2 hd Wd hWd cd hat2 hle2=>?_
  subst hz
  have vw1:V.le Wd:=Sc hWc hWd
  refine ab λz hz=>?_
  cases b with
  | false=>
    simp[ae (Sc vw1 cd.wle) hz0]
    refine aU (ops:=[]) rfl R9 (EF cd.wle) ?_
    rintro _ he ⟨hle3,vf,x,rfl,hvf,-⟩
    have ce:=cd.ext hle3
    simp
    refine ce.bD (k:=(0,0)) (n:=7) (l:=fitZ) S2 hvf rfl rfl R9 rfl rfl λh9 l9 hl9 c9=>?_
    simp[c9.all (k:=(0,0)) Own.ao]
    exact hK _ _ (bR.of c9 (hl9▸hvf) (by rw[hdo];rfl) λy e=>by rw[hdo]at e;cases e)
  | true=>
    obtain⟨m1,m2,-⟩:=hfm rfl
    have hma:=(hok.all _ m1).two S0
    have r2:=hok.all _ m1
    obtain⟨vb,j3,hvb⟩:=(hat2.part InsD.eS).sl
    have j3:ak Wd ⟨B2,3,Sk⟩=Sj vb:=by simpa using j3
    have b0:=hvb.rng (i:=0) S0
    have b1:=hvb.rng (i:=1) S0
    simp
    subst hz
    refine ab λz hz=>?_
    refine aO Wd cd.wle ?_
    have hmm : ∀X,Rd X (.agg #[Sf Sg 23,Sf Sg s.i.dst,Sf Sg 0,Sf Sg (nth m.args 0),Sf Sg (nth m.args 1),Sf Sg (nth s.i.args 1),Sf Si 0,Sn Sk 0 0]) (⟨23,s.i.dst,0,nth m.args 0,nth m.args 1,nth s.i.args 1,⟨0⟩,[]⟩:aZ):=λX=>iH (imm:=⟨0⟩) S7 Sa aQ
    have fin : ∀(W:View) (hx:Heap) (o:Own) (l9:List Value),Cx V h W hx o->Rd W (.agg l9.toArray) (⟨[nth m.args 0,nth m.args 1,nth s.i.args 1],[nth s.i.args 0],[⟨23,s.i.dst,0,nth m.args 0,nth m.args 1,nth s.i.args 1,⟨0⟩,[]⟩],dH⟩:FitD)->K (.tuple #[.agg l9.toArray,.bool Sq]) hx:=λW hx o l9 c hr=>
      hK _ _ (bR.of c hr (by rw[hdo];rfl) λy e=>by rw[hdo]at e;cases e;rfl)
    have c:=cd
    have i1:=ae vw1 i1
    have i3:=ae vw1 i3
    have q2:=hvb.idx1 (k:=.i64) (i:=0) rfl S1 S0
    have q3:=hvb.idx1 (k:=.i64) (i:=1) rfl S1 S0
    have d0:=hva.int vw1 (i:=0) S0
    have d1:=hva.int vw1 (i:=1) S0
    have d2:=hvb.int (View.le_refl Wd) (i:=0) S0
    have d3:=hvb.int (View.le_refl Wd) (i:=1) S0
    repeat' (first
      | refine iD ?_ ?_
      | (refine bJ λy hy=>?_
         simp[i1,i3,j3,q0,q1,q2,q3,d0,d1,d2,d3]
         first
         | refine az (z:=.agg #[Sf Sg 0,Sf Sg 0,Sf Sg 0,Sf Sg 0,Sf Sg 0,Sf Sg 0,Sf Si 0,Sn Sk 0 0]) (places:=zpb) (vs:=[(0,Sf Sg 23),(1,Sf Sg s.i.dst),(3,Sf Sg (nth m.args 0)),(4,Sf Sg (nth m.args 1)),(5,Sf Sg (nth s.i.args 1))]) (cs:=#[Sf Sg 23,Sf Sg s.i.dst,Sf Sg 0,Sf Sg (nth m.args 0),Sf Sg (nth m.args 1),Sf Sg (nth s.i.args 1),Sf Si 0,Sn Sk 0 0]) R9 R9 Sa R9 ?_
         | (refine c.ln (α:=Int) (n:=3) (vs:=[Sf Sg (nth m.args 0),Sf Sg (nth m.args 1),Sf Sg (nth s.i.args 1)]) (ds:=[nth m.args 0,nth m.args 1,nth s.i.args 1]) El.aV ?_ ⟨bO.2 ⟨rfl,b0⟩,bO.2 ⟨rfl,b1⟩,bO.2 ⟨rfl,a1⟩,trivial⟩ rfl S1 S1 λuA h W hW c huA hle=>?_
            · simp;done)
         | (refine c.ln (α:=Int) (n:=1) (vs:=[Sf Sg (nth s.i.args 0)]) (ds:=[nth s.i.args 0]) El.aV ?_ ⟨bO.2 ⟨rfl,a0⟩,trivial⟩ rfl S1 S1 λuB h W hW c huB hle=>?_
            · simp;done)
         | (refine af R9 (kI c.wle (hmm _) (huA.mono S9) (huB.mono S9)) ?_
            rintro _ h ⟨hle,vf,rfl,hvf⟩
            have hW:=c.up (h':=h)
            have c:=c.ext hle)
         | refine c.bD (k:=(0,0)) (n:=7) (l:=fitZ) S2 (hvf.mono S9) rfl rfl R9 rfl rfl λh l9 hl9 c=>?_
         try refine⟨Sc S9 c.wle,?_⟩
         subst hy))
    all_goals
      simp
      rw[hz]
      have hall:=c.all (k:=(0,0)) (n:=7) (l:=l9) (B:=R) (e:=T.aT) S2
      simp at hall
      simp[hall]
      exact fin _ _ _ _ c (hl9▸hvf.mono S9)
end
structure Pm (f:an) (i:InsD) (temp:Int) (W:View) (h:Heap) (r:Nat) (n:Int->Bool):Prop where
 wle:W.le (vw h)
 av:W r=Sk
 ex : ∃g:Int->Option Value,de (.int .i64) h r (mapE id g)/\(∀p,(g p).isSome=n p)/\∀p v,g p=Sj v->oQ W v (patS f i temp p)
section
variable {f:an} {i:InsD} {temp:Int} {W:View} {h h':Heap} {r S I O Z:Nat} {n:Int->Bool}
theorem Pm.ext (m:Pm f i temp W h r n) (hle:(vw h).le (vw h')):Pm f i temp (grow W h h') h' r n:=by obtain⟨g,h1,h2,h3⟩:=m.ex;exact⟨jM (Sc m.wle hle),by rw[iO h1.lt];exact m.av,g,h1.ext hle,h2,λp v hp=>(h3 p v hp).mono (bZ m.wle)⟩
theorem Pm.put (m:Pm f i temp W h r n) {g:Int->Option Value} {p:Int} {v:Value} (hg:de (.int .i64) h' r (mapE id (putM g p v))) (h2 : ∀q,(g q).isSome=n q) (h3 : ∀q u,g q=Sj u->oQ W u (patS f i temp q)) (hv:oQ W v (patS f i temp p)) (ho : ∀b,b≠r->h'[b]? = h[b]?) :
  Pm f i temp W h' r λq=>n q||decide (q=p):=by
 refine⟨λb o hb=>?_,m.av,_,hg,λq=>?_,λq u hq=>?_⟩
 ·show h'[b]? = _;rw[ho b (by rintro rfl;rw[m.av]at hb;cases hb)];exact m.wle b o hb
 ·unfold putM;by_cases e:q=p
  ·simp[e]
  simp[e,h2]
 unfold putM at hq;split at hq
 ·rename_i e;cases hq;rw[e];exact hv
 exact h3 q u hq
theorem Da:oQ W (.func (.func 101) #[] #[]) none:=⟨_,_,rfl,by kernel_rfl,λh V _ hV=>EF hV⟩
structure Wn (W:View) (s:bY) (S I O Z r:Nat):Prop where
 term:ak W ⟨S,11,Sk⟩=Sj (.bool Sr)
 op:ak W ⟨I,0,Sk⟩=Sj (Sf Sg s.i.op)
 out:ak W ⟨O,0,Sk⟩=Sj (.map (Sj r))
 zero:ak W ⟨Z,0,Sk⟩=Sj (.func (.func 101) #[] #[])
theorem Wn.mono {W':View} {s:bY} (w:Wn W s S I O Z r) (h:W.le W'):Wn W' s S I O Z r:=⟨ae h w.term,ae h w.op,ae h w.out,ae h w.zero⟩
theorem jO {s:bY} {op pat:Int} {v:Value} (m:Pm s.f s.i s.temp W h r n) (w:Wn W s S I O Z r) (hn:n pat=Sr) (hp:1<=pat/\pat<=32) (hop:opOf pat.toNat=op) (hv:s.i.op=op->oQ W v (doS s.f s.i s.temp pat.toNat)) :
  aw Ss 102 #[Sf Sg op,Sf Sg pat,v,ptz S,ptz I,ptz O,ptz Z] h
   (λ_ h'=>Pm s.f s.i s.temp W h' r (λq=>n q||decide (q=pat))/\Kept h h' (Sj r)):=by
 refine aj (args:=[Sf Sg op,Sf Sg pat,v,ptz S,ptz I,ptz O,ptz Z]) follows Tryz.func102 E.fo S8 λK hK=>?_;dsimp only[L.fo,lkF,lkG];have wh:=w.mono m.wle;obtain⟨g,h1,h2,h3⟩:=m.ex;have hg:g pat=none:=by have:=h2 pat;rw[hn]at this;simpa using this
 by_cases c:s.i.op=op
 ·simp[wh.term,wh.op,wh.out,c];refine jE (.inl rfl) (t:=T.cy) (k:=T.int) (e:=T.gl) (u:=Sf Sg pat) U.cy U.int rfl rfl rfl ez h1 (mapE id (putM g pat v)) jg.1 jg.2 λh2' hs ho hm=>?_;exact hK _ _ ⟨m.put hm h2 h3 (by unfold patS;rw[if_pos ⟨hp.1,hp.2,by rw[hop];exact c⟩];exact hv c) ho,Kept.upd hs ho⟩
 simp[wh.term,wh.op,wh.out,c];refine yP (f:=mapE id g) (z:=.nilFunc) (k:=T.int) (e:=T.gl) (d:=.int .i64) (r:=r) (u:=Sf Sg pat) U.cy U.int R9 rfl rfl ez h1 ?_;simp[hg];refine Ad (v:=.nilFunc) (ps:=#[]) (rs:=#[T.aT,T.bool]) (vr:=false) R9 rfl rfl rfl ?_;simp[uI,wh.out,wh.zero];refine jE (.inl rfl) (t:=T.cy) (k:=T.int) (e:=T.gl) (u:=Sf Sg pat) U.cy U.int rfl rfl rfl ez h1 (mapE id (putM g pat (.func (.func 101) #[] #[]))) jg.1 jg.2 λh2' hs ho hm=>?_;exact hK _ _ ⟨m.put hm h2 h3 (by unfold patS;rw[if_neg (by rintro⟨-,-,e⟩;rw[hop]at e;exact c e)];exact Da) ho,Kept.upd hs ho⟩
end
section
variable {po po2:OP} {W:View} {h h':Heap} {r S I O Z:Nat} {n:Int->Bool} {s:bY}
structure Up (W:View) (h:Heap) (W':View):Prop where
 le:W.le W'
 old:Old W h W'
theorem Up.trans {W' W'':View} (u:Up W h W') (hs:h.size<=h'.size) (u':Up W' h' W''):Up W h W'':=⟨Sc u.le u'.le,λb o hb hx=>u.old b o hb (u'.old b o S0 hx)⟩
theorem wu (hW:W.le (vw h)):Up W h (grow W h h'):=⟨bZ hW,(Old.refl _ _).grow (OA _)⟩
theorem Pm.dc {α:Type} [Rep α] {P:Program} {ty:TypeId} {us:List (Nat × Value)} {t:TypeId} {x:Operand} {v:Value} {d:α} {K:Value->Heap->Prop} (m:Pm s.f s.i s.temp W h r n) (hx:asg us x=v) (hv:Rd W v d)
  (hk : ∀B h' W',Up W h W'->Pm s.f s.i s.temp W' h' r n->At W' ⟨B,0,Sk⟩ d->Kept h h' (Sj r)->K (ptz B) h'):@Lft.step po P (.box t x) ty us h K:=by refine fI hx (hv.mono m.wle) λh1 hp hle hs _=>?_;exact hk _ _ _ (wu m.wle) (m.ext hle) (rO (t:=t) (fz:=(0,0)) (by rw[cU (OA _),hp];simp) (hv.mono (bZ m.wle))) (Kept.of_le hle)
theorem zW {op pat mo lo hi sign:Int} {B:Nat} (m:Pm s.f s.i s.temp W h r n) (w:Wn W s S I O Z r) (ct:Ct W S I s) (hB:ak W ⟨B,0,Sk⟩=Sj (.func (.func 102) #[] #[ptz S,ptz I,ptz O,ptz Z]))
  (hn:n pat=Sr) (hp:1<=pat/\pat<=32) (hop:opOf pat.toNat=op) (hok:mC s) (h2:2<=op/\op<=14) (hs:sign=1\/sign=-1) (hm0:0<=mo/\mo<=100) (hlo:I64 lo) (hhi:I64 hi) (hd:doS s.f s.i s.temp pat.toNat=immS s.f s.i mo lo hi sign) :
  aw Ss 107 #[Sf Sg op,Sf Sg pat,Sf Sg mo,Sf Sg lo,Sf Sg hi,Sf Sg sign,ptz B,ptz S,ptz I] h
   (λ_ h'=>∃W',Up W h W'/\Pm s.f s.i s.temp W' h' r (λq=>n q||decide (q=pat))/\Kept h h' (Sj r)):=by
 refine aj (args:=[Sf Sg op,Sf Sg pat,Sf Sg mo,Sf Sg lo,Sf Sg hi,Sf Sg sign,ptz B,ptz S,ptz I]) follows Tryz.func107 E.fN S8 λK hK=>?_;dsimp only[L.fN,lkF,lkG];refine ab λz hz=>?_;simp;refine m.dc (α:=Int) (d:=mo) rfl (bO.2 ⟨rfl,by omega,by omega⟩) λB1 h1 W1 u1 m1 a1 k1=>?_;have l1:=u1.le;refine m1.dc (α:=Int) (d:=lo) rfl (bO.2 ⟨rfl,hlo⟩) λB2 h2' W2 u2 m2 a2 k2=>?_;have l2:=u2.le;refine m2.dc (α:=Int) (d:=hi) rfl (bO.2 ⟨rfl,hhi⟩) λB3 h3 W3 u3 m3 a3 k3=>?_;have l3:=u3.le;refine m3.dc (α:=Int) (d:=sign) rfl (bO.2 ⟨rfl,by omega,by omega⟩) λB4 h4 W4 u4 m4 a4 k4=>?_;have l4:=u4.le;have l14:=Sc l2 (Sc l3 l4);have l04:=Sc l1 l14;have w4:=w.mono l04;have ct4:=ct.mono l04;subst hz;simp[ae (Sc l04 m4.wle) hB];refine aU (ops:=[.tmp 16,.tmp 17,.tmp 18]) rfl R9 (jO (op:=op) (pat:=pat) (v:=.func (.func 108) #[] #[ptz S,ptz I,ptz B2,ptz B3,ptz B1,ptz B4]) m4 w4 hn hp hop λho=>?_) ?_
 ·rw[hd];have ha:=hok.one.two S0;exact⟨_,_,rfl,by kernel_rfl,λh V hW hV=>G9 (ct4.mono hW) hV hok ha (ae (Sc (Sc l3 l4) hW) a2.int) (ae (Sc l4 hW) a3.int) (ae (Sc l14 hW) a1.int) (ae hW a4.int) hs hm0⟩
 rintro _ h5 ⟨m5,k5⟩;exact hK _ _ ⟨W4,u1.trans k1.size (u2.trans k2.size (u3.trans k3.size u4)),m5,k1.trans (k2.trans (k3.trans (k4.trans k5)))⟩
theorem Pm.dK {P:Program} {ty:TypeId} {us:List (Nat × Value)} {t ty2:TypeId} {k:Nat} {z:Value} {x y:Operand} {us2:Value->List (Nat × Value)} {v:Value} {K:Value->Heap->Prop} (m:Pm s.f s.i s.temp W h r n) (hz:(P.info? t).map (·.zero)=Sj (Sj z)) (hzc:z.cells.size=k) (hsz:cO P t=Sj k) (hv:v.cells.size=k) (h1 : ∀c∈v.cells.toList,c.oneCell'=Sq)
  (hx : ∀p,asg (us2 p) x=p) (hy : ∀p,asg (us2 p) y=v) (hk : ∀B h' W',Up W h W'->Pm s.f s.i s.temp W' h' r n->W' B=Sj (.cells v.cells t (0,0))->Kept h h' (Sj r)->K (ptz B) h') :
  @Lft.step po P (.alloc t) ty us h λp h2=>@Lft.step po2 P (.store t x y) ty2 (us2 p) h2 λ_ h3=>K p h3:=
 gA hz hzc hsz hv h1 hx hy λh' hle hs hb=>hk _ _ _ (wu m.wle) (m.ext hle) (by rw[cU (OA _)];exact hb) (Kept.of_le hle)
structure Mx (W:View) (S I O P Q L T:Nat) (s:bY) (op plain sum:Int):Prop where
 ct:Ct W S I s
 op:ak W ⟨O,0,Sk⟩=Sj (Sf Sg op)
 plain:ak W ⟨P,0,Sk⟩=Sj (Sf Sg plain)
 sum:ak W ⟨Q,0,Sk⟩=Sj (Sf Sg sum)
 laid:ak W ⟨L,0,Sk⟩=Sj (.func (.func 130) #[] #[ptz O,ptz I,ptz P])
 with_:ak W ⟨T,0,Sk⟩=Sj (.func (.func 131) #[] #[ptz I])
theorem Mx.mono {W':View} {P Q L T:Nat} {op plain sum:Int} (m:Mx W S I O P Q L T s op plain sum) (h:W.le W'):Mx W' S I O P Q L T s op plain sum:=
 ⟨m.ct.mono h,ae h m.op,ae h m.plain,ae h m.sum,ae h m.laid,ae h m.with_⟩
abbrev ptr (B:Nat):Value:=ptz B
def ll:Prop:=∀(V:View) (h:Heap) (s:bY) (S I O P Q L T:Nat) (op plain sum:Int),Mx V S I O P Q L T s op plain sum->V.le (vw h)->mC s->s.i.op=op->(op=15\/op=16)->plain≠sum->(0<=plain/\plain<=100)->(0<=sum/\sum<=100)->-9223372036854775808<=s.temp/\s.temp<=9223372036854775807->
 aw Ss 132 #[ptr L,ptr P,ptr I,ptr T] h (λu h'=>bR V h h' u (memS s.f s.i s.temp op plain sum 0))/\
 aw Ss 133 #[ptr S,ptr I,ptr L,ptr P,ptr T] h (λu h'=>bR V h h' u (memS s.f s.i s.temp op plain sum 1))/\
 aw Ss 134 #[ptr S,ptr I,ptr L,ptr Q,ptr T] h (λu h'=>bR V h h' u (memS s.f s.i s.temp op plain sum 2))/\
 aw Ss 135 #[ptr S,ptr I,ptr T,ptr L,ptr Q] h (λu h'=>bR V h h' u (memS s.f s.i s.temp op plain sum 3))
theorem cell_of {B:Nat} {v:Value} {t:TypeId} (h:W B=Sj (.cells v.cells t (0,0))) (h1:v.cells = #[v]):ak W ⟨B,0,Sk⟩=Sj v:=by simp[ak,h,h1]
theorem zi {op pat plain sum:Int} {vs:Value} (m:Pm s.f s.i s.temp W h r n) (w:Wn W s S I O Z r) (hvs:Rd W vs s)
  (hn : ∀k,0<=k->k<4->n (pat+k)=Sr) (hp:1<=pat/\pat<=28) (hop : ∀k:Int,0<=k->k<4->opOf (pat+k).toNat=op) (hok:mC s) (h2:op=15\/op=16) (hne:plain≠sum) (hpl:0<=plain/\plain<=100) (hsu:0<=sum/\sum<=100)
  (hM:s.i.op=op->ll) (hd : ∀k:Nat,k<4->doS s.f s.i s.temp (pat+k).toNat=memS s.f s.i s.temp op plain sum k) :
  aw Ss 111 #[vs,.func (.func 102) #[] #[ptr S,ptr I,ptr O,ptr Z],Sf Sg pat,Sf Sg op,Sf Sg plain,Sf Sg sum] h
   (λ_ h'=>∃W',Up W h W'/\Pm s.f s.i s.temp W' h' r (λq=>n q||decide (pat<=q/\q<pat+4))/\Kept h h' (Sj r)):=by
 refine aj (args:=[vs,.func (.func 102) #[] #[ptr S,ptr I,ptr O,ptr Z],Sf Sg pat,Sf Sg op,Sf Sg plain,Sf Sg sum]) follows Tryz.func111 E.iF S8 λK hK=>?_;dsimp only[L.iF,lkF,lkG];refine ab λz hz=>?_;simp;refine m.dc (d:=s) rfl hvs λB1 h1 W1 u1 m1 a1 k1=>?_;have l1:=u1.le;refine m1.dc (α:=Int) (d:=op) rfl (bO.2 ⟨rfl,by omega,by omega⟩) λB2 h2' W2 u2 m2 a2 k2=>?_;have l2:=u2.le;refine m2.dc (α:=Int) (d:=plain) rfl (bO.2 ⟨rfl,by omega,by omega⟩) λB3 h3 W3 u3 m3 a3 k3=>?_;have l3:=u3.le;refine m3.dc (α:=Int) (d:=sum) rfl (bO.2 ⟨rfl,by omega,by omega⟩) λB4 h4 W4 u4 m4 a4 k4=>?_;have l4:=u4.le;subst hz;refine ab λz hz=>?_;have l24:=Sc l3 l4;have l14:=Sc l2 l24;obtain⟨ui,hui,rui⟩:=(a1.part bY.NP).ldN rfl (N:=5) rfl;have hui:=hui _ (Sc l14 m4.wle);have hui:Un.ev (vw h4) (.bV 5) (Sp (Sj ⟨B1,2,Sk⟩))=Sj ui:=by simpa using hui
 obtain⟨c1,c2,c3⟩:=gN rui;simp[hui];refine m4.dK (k:=5) (z:=zz5) R9 rfl R9 c2 c3 S3 S3 λB5 h5 W5 u5 m5 b5 k5=>?_;have l5:=u5.le;have a5:At W5 ⟨B5,0,Sk⟩ s.i:=rO b5 (rui.mono (Sc l14 l5));subst hz;refine ab λz hz=>?_;simp;refine m5.dK (k:=1) (z:=.nilFunc) (v:=.func (.func 130) #[] #[ptr B2,ptr B5,ptr B3]) R9 rfl R9 rfl S6 S3 S3 λB6 h6 W6 u6 m6 b6 k6=>?_;have l6:=u6.le;subst hz;refine ab λz hz=>?_;simp;refine m6.dK (k:=1) (z:=.nilFunc) (v:=.func (.func 131) #[] #[ptr B5]) R9 rfl R9 rfl S6 S3 S3 λB7 h7 W7 u7 m7 b7 k7=>?_;have l7:=u7.le;have l57:=Sc l6 l7;have l47:=Sc l5 l57;have l17:=Sc l14 l47;have mx:Mx W7 B1 B5 B2 B3 B4 B6 B7 s op plain sum:=⟨⟨a1.mono l17,a5.mono l57⟩,ae (Sc l24 l47) a2.int,ae (Sc l4 l47) a3.int,ae l47 a4.int,ae l7 (cell_of b6 rfl),cell_of b7 rfl⟩;have w7:=w.mono (Sc l1 l17);have tr:-9223372036854775808<=s.temp/\s.temp<=9223372036854775807:=(a1.part bY.DC).rng;have hn0:=hn 0 S0 S0;have fits:s.i.op=op->oQ W7 (.func (.func 132) #[] #[ptr B6,ptr B3,ptr B5,ptr B7]) (memS s.f s.i s.temp op plain sum 0)/\oQ W7 (.func (.func 133) #[] #[ptr B1,ptr B5,ptr B6,ptr B3,ptr B7]) (memS s.f s.i s.temp op plain sum 1)/\
   oQ W7 (.func (.func 134) #[] #[ptr B1,ptr B5,ptr B6,ptr B4,ptr B7]) (memS s.f s.i s.temp op plain sum 2)/\oQ W7 (.func (.func 135) #[] #[ptr B1,ptr B5,ptr B7,ptr B6,ptr B4]) (memS s.f s.i s.temp op plain sum 3):=λho=>
  ⟨⟨_,_,rfl,by kernel_rfl,λh V hW hV=>(hM ho V h s _ _ _ _ _ _ _ op plain sum (mx.mono hW) hV hok ho h2 hne hpl hsu tr).1⟩,⟨_,_,rfl,by kernel_rfl,λh V hW hV=>(hM ho V h s _ _ _ _ _ _ _ op plain sum (mx.mono hW) hV hok ho h2 hne hpl hsu tr).2.1⟩,
   ⟨_,_,rfl,by kernel_rfl,λh V hW hV=>(hM ho V h s _ _ _ _ _ _ _ op plain sum (mx.mono hW) hV hok ho h2 hne hpl hsu tr).2.2.1⟩,⟨_,_,rfl,by kernel_rfl,λh V hW hV=>(hM ho V h s _ _ _ _ _ _ _ op plain sum (mx.mono hW) hV hok ho h2 hne hpl hsu tr).2.2.2⟩⟩;subst hz;refine ab λz hz=>?_;simp[ae m7.wle mx.op];refine aU (ops:=[.tmp 20,.tmp 21,.tmp 22]) rfl R9 (jO (op:=op) (pat:=pat) m7 w7 (by simpa using hn0) S0 (by simpa using hop 0 S0 S0) λho=>by have:=hd 0 S0;simp at this;rw[this];exact(fits ho).1) ?_;rintro _ h8 ⟨m8,k8⟩;subst hz;refine ab λz hz=>?_;have e1:IntKind.i64.wrap (pat+1)=pat+1:=bC S0 S0;simp[ae m8.wle mx.op,e1];refine aU (ops:=[.tmp 25,.tmp 27,.tmp 28]) rfl R9 (jO (op:=op) (pat:=pat+1) m8 w7 (by have:=hn 1 S0 S0;simp[this]<;>omega) S0 (hop 1 S0 S0) λho=>by have:=hd 1 S0;simp at this;rw[this];exact(fits ho).2.1) ?_;rintro _ h9 ⟨m9,k9⟩;subst hz;refine ab λz hz=>?_;have e1:IntKind.i64.wrap (pat+2)=pat+2:=bC S0 S0;simp[ae m9.wle mx.op,e1];refine aU (ops:=[.tmp 31,.tmp 33,.tmp 34]) rfl R9 (jO (op:=op) (pat:=pat+2) m9 w7 (by have:=hn 2 S0 S0;simp[this]<;>omega) S0 (hop 2 S0 S0) λho=>by have:=hd 2 S0;simp at this;rw[this];exact(fits ho).2.2.1) ?_;rintro _ h10 ⟨m10,k10⟩;subst hz;have e1:IntKind.i64.wrap (pat+3)=pat+3:=bC S0 S0;simp[ae m10.wle mx.op,e1];refine aU (ops:=[.tmp 37,.tmp 39,.tmp 40]) rfl R9 (jO (op:=op) (pat:=pat+3) m10 w7 (by have:=hn 3 S0 S0;simp[this]<;>omega) S0 (hop 3 S0 S0) λho=>by have:=hd 3 S0;simp at this;rw[this];exact(fits ho).2.2.2) ?_;rintro _ h11 ⟨m11,k11⟩;refine hK _ _ ⟨W7,u1.trans k1.size (u2.trans k2.size (u3.trans k3.size (u4.trans k4.size (u5.trans k5.size (u6.trans k6.size u7))))),?_,k1.trans (k2.trans (k3.trans (k4.trans (k5.trans (k6.trans (k7.trans (k8.trans (k9.trans (k10.trans k11)))))))))⟩
 have e:(λq=>n q||decide (pat<=q/\q<pat+4))=λq=>(((n q||decide (q=pat))||decide (q=pat+1))||decide (q=pat+2))||decide (q=pat+3):=by
  funext q;cases n q with
  | true=>simp
  | false=>rw[O7];simp;omega
 rw[e];exact m11
end
section
variable {W V:View} {h h':Heap} {r S I O Z:Nat} {n:Int->Bool} {s:bY}
def nTo (m:Int):Int->Bool:=λq=>decide (1<=q/\q<=m)
theorem Pm.to{a b:Int}(m:Pm s.f s.i s.temp W h r (λq=>nTo a q||decide (q=b)))(hb:b=a+1)(ha:0<=a):Pm s.f s.i s.temp W h r (nTo b):=by
 have e:(λq=>nTo a q||decide (q=b))=nTo b:=by funext q;unfold nTo;rw[O7];simp;omega
 rw[<-e];exact m
theorem Pm.to4{a b:Int}(m:Pm s.f s.i s.temp W h r (λq=>nTo a q||decide (b<=q/\q<b+4)))(hb:b=a+1)(ha:0<=a):Pm s.f s.i s.temp W h r (nTo (a+4)):=by
 have e:(λq=>nTo a q||decide (b<=q/\q<b+4))=nTo (a+4):=by funext q;unfold nTo;rw[O7];simp;omega
 rw[<-e];exact m
theorem Jt{f:an}{i:InsD}{temp:Int}{p:Nat}(h:3<=p/\p<=15):doS f i temp p=Sj ⟨i.args,[],[⟨p+2,i.dst,0,nth i.args 0,nth i.args 1,0,⟨0⟩,[]⟩],dH⟩:=by unfold doS;rw[if_neg S0,if_neg S0,if_pos S0]
theorem AI{vs:Value}{W0:View}(hW:W0.le (vw h))(hvs:Rd W0 vs s)(hok:mC s)(hterm:s.term=Sr)(hM:s.i.op=15\/s.i.op=16->ll):
  aw Ss 64 #[vs] h (λu h'=>∃r W',u = .map (Sj r)/\Up W0 h W'/\Pm s.f s.i s.temp W' h' r (nTo 32)/\(vw h).le (vw h')):=by
 refine aj (args:=[vs]) follows Tryz.func64 E.bc S8 λK hK=>?_;dsimp only[L.bc,lkF,lkG];have c0:=Cx.start hW;refine ab λz hz=>?_;simp;refine c0.dc rfl hvs λS h1 W1 hW1 c1 at1 hle1=>?_;subst hz;refine ab λz hz=>?_;obtain⟨ui,hui,rui⟩:=(at1.part bY.NP).ldN rfl (N:=5) rfl;have hui:Un.ev (vw h1) (.bV 5) (Sp (Sj ⟨S,2,Sk⟩))=Sj ui:=by simpa using hui _ c1.wle
 simp[hui];refine c1.dK (α:=InsD) rui (n:=5) (z:=zz5) R9 rfl rfl R9 S3 S3 λI h2 W2 hW2 c2 at2 hle2=>?_;subst hz;refine ab λz hz=>?_;simp;refine gA (n:=1) (z:=.nilFunc) (v:=.func (.func 101) #[] #[]) R9 rfl R9 rfl S6 S3 S3 λh3 hle3 hs3 hb3=>?_;have c3:=c2.ext hle3;have hW3:=c2.up (h':=h3);have z3:ak (grow W2 h2 h3) ⟨h2.size,0,Sk⟩=Sj (.func (.func 101) #[] #[]):=cell_of (by rw[cU (OA _)];exact hb3) rfl;generalize grow W2 h2 h3=W3 at *;generalize h2.size=Z at z3;subst hz;refine ab λz hz=>?_;simp;refine kG ?_;have m3:de (.int .i64) (h3.push (.map #[] 0)) h3.size (mapE id λ_=>Sk):=by rw[qv];exact de.none Sa
 have q3:=bP h3 (.map #[] 0);have av3:W3 h3.size=none:=View.cA c3.wle (OA _);have k3:Kept h3 (h3.push (.map #[] 0)) none:=Kept.push ..;have hsz:h3.size<(h3.push (.map #[] 0)).size:=by simp
 generalize h3.push (.map #[] 0)=h4 at *;obtain⟨r,hr⟩ : ∃r,r=h3.size:=⟨_,rfl⟩;rw[<-hr]at m3 av3 ⊢;have p4:Pm s.f s.i s.temp W3 h4 r (nTo 0):=⟨Sc c3.wle q3,av3,_,m3,λp=>by unfold nTo;simp;omega,λp v hp=>by cases hp⟩;have u03:Up W0 h W3:=⟨Sc hW1 (Sc hW2 hW3),c3.old⟩;have le04:(vw h).le (vw h4):=Sc c3.le0 q3;have hrs:h.size<=r:=by rw[hr];exact cm c3.le0
 refine p4.dK (k:=1) (z:=.map Sk) (v:=.map (Sj r)) R9 rfl R9 rfl S6 S3 S3 λO h5 W5 u5 p5 b5 k5=>?_;subst hz;refine ab λz hz=>?_;simp;refine p5.dK (k:=1) (z:=.nilFunc) (v:=.func (.func 102) #[] #[ptr S,ptr I,ptr O,ptr Z]) R9 rfl R9 rfl S6 S3 S3 λB h6 W6 u6 p6 b6 k6=>?_;have l16:W1.le W6:=Sc hW2 (Sc hW3 (Sc u5.le u6.le));have l26:W2.le W6:=Sc hW3 (Sc u5.le u6.le);have ct:Ct W6 S I s:=⟨at1.mono l16,at2.mono l26⟩;have w6:Wn W6 s S I O Z r:=⟨by have:=(ct.site.part bY.n7).bool;rw[hterm]at this;simpa using this,by simpa using(ct.ins.part InsD.tB).int,cell_of (u6.le _ _ b5) rfl,ae (Sc u5.le u6.le) z3⟩;have hB:ak W6 ⟨B,0,Sk⟩=Sj (.func (.func 102) #[] #[ptr S,ptr I,ptr O,ptr Z]):=cell_of b6 rfl;have s06:h.size<=h4.size:=cm le04;have u06:Up W0 h W6:=u03.trans s06 (u5.trans k5.size u6);have k46:=k5.trans k6;generalize W6=Wa at *;generalize h6=ha at *;clear b5 b6 k5 k6 u5 u6 p5 l16 l26 z3 hui at1 at2 c1 c2 c3;subst hz;refine ab λz hz=>?_;have hb:=ae p6.wle hB;simp[hb];refine aU (ops:=[.const (Sf Sg 1),.const (Sf Sg 1),.tmp 16]) rfl R9 (jO (op:=1) (pat:=1) p6 w6 S2 S0 S2 λho=>⟨_,_,rfl,by kernel_rfl,λh V hW hV=>Jm (ct.mono hW) hV⟩) ?_;rintro _ hc1 ⟨p7,k7⟩;have p7:=p7.to (a:=0) S2 S0;subst hz;refine ab λz hz=>?_;have hb:=ae p7.wle hB;simp[hb];refine aU (ops:=[.const (Sf Sg 1),.const (Sf Sg 2),.tmp 19]) rfl R9 (jO (op:=1) (pat:=2) p7 w6 S2 S0 S2 λho=>⟨_,_,rfl,by kernel_rfl,λh V hW hV=>Jo (ct.mono hW) hV⟩) ?_;rintro _ hc2 ⟨p8,k8⟩;have p8:=p8.to (a:=1) S2 S0;have k48:=k46.trans (k7.trans k8);subst hz;refine ab λz hz=>?_;refine ab λy hy=>?_;simp;refine p8.dK (k:=1) (z:=Sf Sg 0) (v:=Sf Sg 2) R9 rfl R9 rfl S6 S3 S3 λP0 h9 W9 u9 p9 b9 k9=>?_;have c9:ak W9 ⟨P0,0,Sk⟩=Sj (Sf Sg ((2:Int)+(0:Nat))):=cell_of b9 rfl;have k49:=k48.trans k9;have u09:Up W0 h W9:=u06.trans (OY s06 k48.size) u9;have l9:=u9.le;subst hy;simp only[aP];refine ja [0,1,2,3,4,5,6,7] (λm ρ hx=>∃(k:Nat) (W:View) (P:Nat),k<=13/\m=13-k/\ρ=[(0,vs),(1,ptr S),(2,.map Sk),(3,ptr I),(4,ptr Z),(5,ptr O),(6,ptr B),(7,ptr P)]/\Wa.le W/\Up W0 h W/\Pm s.f s.i s.temp W hx r (nTo (2+k))/\ak W ⟨P,0,Sk⟩=Sj (Sf Sg ((2:Int)+k))/\Kept h4 hx (Sj r)) 13
  ⟨0,W9,P0,by omega,rfl,rfl,l9,u09,by simpa using p9,c9,k49⟩ ?_;clear hb k7 k8 k9 p6 p7 p8 p9 b9 c9 k46 k48 k49 u9 u09 l9;rintro m ρ hx ⟨k,W,P,hk,rfl,rfl,lW,uW,pW,cP,kW⟩ K2 hK2;have cPx:=ae pW.wle cP;have hb:=ae (Sc lW pW.wle) hB;dsimp only[L.bc.l1,lkF,lkG];refine ab λx hx2=>?_;by_cases c:k<13
 ·have e14:(2:Int)+k<=14:=by omega
  simp[cPx,e14];rw[hx2];clear hx2 x;refine ab λx hx2=>?_;have e1:(3:Int)+(2+k)-2=3+k:=by omega
  simp(disch:=omega)[cPx,hb,e1];refine aU (ops:=[.tmp 26,.tmp 29,.tmp 30]) rfl R9 (jO (op:=2+k) (pat:=3+k) pW (w6.mono lW) (by unfold nTo;simp<;>omega) S0 (by unfold opOf;rw[if_neg S0,if_pos S0];try omega) λho=>?_) ?_
  ·rw[Jt S0];have e:((3+(k:Int)).toNat:Int)+2=(2+(k:Int))+3:=by omega
   rw[e];exact⟨_,_,rfl,by kernel_rfl,λh V hW hV=>IY ((ct.mono lW).mono hW) hV (ae hW cP) S0 ⟨hok.one.two S0,hok.one.most⟩⟩
  rintro _ hy1 ⟨pX,kX⟩;have pX:=pX.to (a:=2+k) S0 S0;rw[hx2];clear hx2 x;simp[ae pX.wle cP];refine gA (n:=1) (z:=Sf Sg 0) (v:=Sf Sg (2+k)) R9 rfl R9 rfl S6 S3 S3 λhy2 hle2 hs2 hb2=>?_;have cN:ak (vw hy2) ⟨hy1.size,0,Sk⟩=Sj (Sf Sg (2+k)):=cell_of hb2 rfl;simp(disch:=omega)[cN];refine eK (g:=hy1.size) (o:=0) (n:=1) (v:=Sf Sg (2+k+1)) (cur:=(Sf Sg (2+k)).cells) (e:=T.int) R9 rfl rfl rfl S6 hb2 (by simp[Value.cells]) λhy3 hs3 ⟨row,hr3,he3⟩ ho3=>?_;have hrow:row = #[Sf Sg (2+k+1)]:=by rw[<-Array.toList_inj,he3];simp[Value.cells]
  rw[hrow]at hr3;have le13:(vw hy1).le (vw hy3):=λb o hb=>by have hlt:=View.lt (View.le_refl (vw hy1)) hb;show hy3[b]? = _;rw[ho3 b S0];exact hle2 b o hb
  have cN3:ak (grow W hy1 hy3) ⟨hy1.size,0,Sk⟩=Sj (Sf Sg ((2:Int)+(k+1:Nat))):=by rw[show((2:Int)+(k+1:Nat))=2+k+1 by omega];simp[ak,cU (OA _),hr3]
  have uX:=wu (h':=hy3) pX.wle;have eN:(2:Int)+((k+1:Nat):Int)=3+k:=by omega
  refine hK2 (13-(k+1)) _ _ S0 ⟨k+1,_,hy1.size,by omega,rfl,rfl,Sc lW uX.le,uW.trans (OY s06 (kW.trans kX).size) uX,?_,cN3,kW.trans (kX.trans (Kept.of_le le13))⟩;rw[eN];exact pX.ext le13
 have e13:k=13:=by omega
 subst e13;simp[cPx];clear hK2 cPx cP hx2 x;subst hz;refine ab λz hz=>?_;simp;subst hz;refine ab λz hz=>?_;simp;have ctW:=ct.mono lW;have wW:=w6.mono lW;have hBW:=ae lW hB;refine aU (ops:=[.const (Sf Sg 2),.const (Sf Sg 16),.const (Sf Sg 18),.const (Sf Sg (-128)),.const (Sf Sg 127),.const (Sf Sg 1)]) rfl R9 (zW (op:=2) (pat:=16) (mo:=18) (lo:=-128) (hi:=127) (sign:=1) pW wW ctW hBW S2 S0 S2 hok S0 (.inl rfl) S0 (by constructor<;>decide) (by constructor<;>decide) rfl) ?_;rintro _ i1 ⟨V1,v1,p1,k1⟩;have p1:=p1.to (a:=15) S2 S0;subst hz;refine ab λz hz=>?_;simp;refine aU (ops:=[.const (Sf Sg 3),.const (Sf Sg 17),.const (Sf Sg 18),.const (Sf Sg (-127)),.const (Sf Sg 128),.const (Sf Sg (-1))]) rfl R9 (zW (op:=3) (pat:=17) (mo:=18) (lo:=-127) (hi:=128) (sign:=-1) p1 (wW.mono v1.le) (ctW.mono v1.le) (ae v1.le hBW) S2 S0 S2 hok S0 (.inr rfl) S0 (by constructor<;>decide) (by constructor<;>decide) rfl) ?_;rintro _ i2 ⟨V2,v2,p2,k2⟩;have v12:=Sc v1.le v2.le;have p2:=p2.to (a:=16) S2 S0;subst hz;refine ab λz hz=>?_;simp;refine aU (ops:=[.const (Sf Sg 5),.const (Sf Sg 18),.const (Sf Sg 19),.const (Sf Sg (-128)),.const (Sf Sg 127),.const (Sf Sg 1)]) rfl R9 (zW (op:=5) (pat:=18) (mo:=19) (lo:=-128) (hi:=127) (sign:=1) p2 (wW.mono v12) (ctW.mono v12) (ae v12 hBW) S2 S0 S2 hok S0 (.inl rfl) S0 (by constructor<;>decide) (by constructor<;>decide) rfl) ?_;rintro _ i3 ⟨V3,v3,p3,k3⟩;have v13:=Sc v12 v3.le;have p3:=p3.to (a:=17) S2 S0;have uV3:Up W0 h V3:=uW.trans (OY s06 kW.size) (v1.trans k1.size (v2.trans k2.size v3));have kV3:=kW.trans (k1.trans (k2.trans k3));have lV3:=Sc lW v13;clear v1 v2 v3 v12 v13 p1 p2 k1 k2 k3 pW uW kW hBW wW ctW lW;subst hz;refine ab λz hz=>?_;refine ab λy hy=>?_;simp;refine kL (α:=Int) (n:=3) (X:=V3) (vs:=[Sf Sg 8,Sf Sg 9,Sf Sg 10]) (ds:=[8,9,10]) El.aV Sa ⟨bO.2 ⟨rfl,by decide,by decide⟩,bO.2 ⟨rfl,by decide,by decide⟩,bO.2 ⟨rfl,by decide,by decide⟩,trivial⟩ rfl S1 S1 λu40 i4 hle4 hs4 hu4 _=>?_;have hu4:=hu4 (grow V3 i3 i4) (bZ p3.wle) (cU (OA _));have p4:=p3.ext hle4;have u4:=wu (h':=i4) p3.wle;have uV4:=uV3.trans (OY s06 kV3.size) u4;have kV4:=kV3.trans (Kept.of_le hle4);have lV4:=Sc lV3 u4.le;subst hy;simp[hu4.len];refine aR [0,1,2,3,4,5,6,8,40,41,42] (fun(_:Unit) j=>[vs,ptr S,.map Sk,ptr I,ptr Z,ptr O,ptr B,.func (.func 107) #[] #[ptr B,ptr S,ptr I],u40,Sf Sg 3,Sf Sg j])
  (λ_ j hx=>∃W,(grow V3 i3 i4).le W/\Up W0 h W/\Pm s.f s.i s.temp W hx r (nTo (18+j))/\Kept h4 hx (Sj r)) 3 ()
  rfl S0 rfl ⟨_,View.le_refl _,uV4,by simpa using p4,kV4⟩ (λ_ _=>rfl) (λv i h1 hk m=>by simp) ?_ ?_
 ·rintro _ j hx hj ⟨W,lW,uW,pW,kW⟩ K2 hK2;have hux:=hu4.mono (Sc lW pW.wle);refine ab λx hx2=>?_;have hj3:j<[8,9,10].length:=hj;simp(disch:=omega)[hux.idx1 rfl,hux.int Sb];have h012:j=0\/j=1\/j=2:=by omega
  have ej:nth ([8,9,10]:List Int) j=8+(j:Int):=by rcases h012 with rfl | rfl | rfl<;>rfl
  rw[ej,hx2];clear hx2 x;simp(disch:=omega);have lWa:=Sc lV4 lW;refine aU (ops:=[.tmp 48,.tmp 50,.tmp 52,.const (Sf Sg 0),.const (Sf Sg 31),.const (Sf Sg 1)]) rfl R9 (zW (op:=8+j) (pat:=19+j) (mo:=20+j) (lo:=0) (hi:=31) (sign:=1) pW (w6.mono lWa) (ct.mono lWa) (ae lWa hB) (by unfold nTo;simp<;>omega) S0 (by rcases h012 with rfl | rfl | rfl<;>rfl) hok S0 (.inl rfl) S0 (by constructor<;>decide) (by constructor<;>decide) (by rcases h012 with rfl | rfl | rfl<;>rfl)) ?_;rintro _ hx3 ⟨W3,v3,p3,k3⟩;have p3:=p3.to (a:=18+j) S0 S0;refine hK2 () _ _ rfl rfl ⟨W3,Sc lW v3.le,uW.trans (OY s06 kW.size) v3,?_,kW.trans k3⟩;rw[show(18:Int)+((j+1:Nat):Int)=19+j by omega];exact p3
 rintro _ hx ⟨W,lW,uW,pW,kW⟩;have lWa:=Sc lV4 lW;simp;subst hz;refine ab λz hz=>?_;have ctW:=ct.mono lWa;have wW:=w6.mono lWa;have hBW:=ae lWa hB;have hb:=ae pW.wle hBW;simp[hb];refine aU (ops:=[.const (Sf Sg 2),.const (Sf Sg 22),.tmp 56]) rfl R9 (jO (op:=2) (pat:=22) pW wW S2 S0 S2 λho=>⟨_,_,rfl,by kernel_rfl,λh V hW hV=>IH (ctW.mono hW) hV hok (hok.one.two S0) (ae hW wW.zero)⟩) ?_;rintro _ i1 ⟨p1,k1⟩;have p1:=p1.to (a:=21) S2 S0;subst hz;refine ab λz hz=>?_;obtain⟨us,hus,rus⟩:=ctW.site.ldN rfl (N:=13) rfl;have hb:=ae p1.wle hBW;simp[hb,hus _ p1.wle];refine tE _ R9 Sa (zi (op:=15) (pat:=23) (plain:=24) (sum:=25) p1 wW rus (λk h0 h4=>by unfold nTo;simp<;>omega) S0 (λk h0 h4=>?_) hok (.inl rfl) S1 S0 S0 (λho=>hM (.inl ho)) (λk hk=>?_)) ?_
 ·rcases(by omega:k=0\/k=1\/k=2\/k=3)with rfl | rfl | rfl | rfl<;>rfl
 ·rcases(by omega:k=0\/k=1\/k=2\/k=3)with rfl | rfl | rfl | rfl<;>rfl
 rintro _ i2 ⟨V2,v2,p2,k2⟩;have p2:=p2.to4 (a:=22) S2 S0;subst hz;refine ab λz hz=>?_;have hb:=ae p2.wle (ae v2.le hBW);simp[hb,hus _ (Sc v2.le p2.wle)];refine tE _ R9 Sa (zi (op:=16) (pat:=27) (plain:=26) (sum:=27) p2 (wW.mono v2.le) (rus.mono v2.le) (λk h0 h4=>by unfold nTo;simp<;>omega) S0 (λk h0 h4=>?_) hok (.inr rfl) S1 S0 S0 (λho=>hM (.inr ho)) (λk hk=>?_)) ?_
 ·rcases(by omega:k=0\/k=1\/k=2\/k=3)with rfl | rfl | rfl | rfl<;>rfl
 ·rcases(by omega:k=0\/k=1\/k=2\/k=3)with rfl | rfl | rfl | rfl<;>rfl
 rintro _ i3 ⟨V3',v3,p3,k3⟩;have p3:=p3.to4 (a:=26) S2 S0;have v23:=Sc v2.le v3.le;have ct3:=ctW.mono v23;have w3:=wW.mono v23;have hb:=ae p3.wle (ae v23 hBW);subst hz;refine ab λz hz=>?_;simp[hb];refine aU (ops:=[.const (Sf Sg 17),.const (Sf Sg 31),.tmp 65]) rfl R9 (jO (op:=17) (pat:=31) p3 w3 S2 S0 S2 λho=>⟨_,_,rfl,by kernel_rfl,λh V hW hV=>JT (ct3.mono hW) hV hok.one.most⟩) ?_;rintro _ i4' ⟨p4',k4⟩;have p4':=p4'.to (a:=30) S2 S0;subst hz;refine ab λz hz=>?_;have hb:=ae p4'.wle (ae v23 hBW);simp[hb];refine aU (ops:=[.const (Sf Sg 18),.const (Sf Sg 32),.tmp 68]) rfl R9 (jO (op:=18) (pat:=32) p4' w3 S2 S0 S2 λho=>⟨_,_,rfl,by kernel_rfl,λh V hW hV=>JG (ct3.mono hW) hV ⟨hok.one.two S0,hok.one.most⟩⟩) ?_;rintro _ i5 ⟨p5,k5⟩;have p5:=p5.to (a:=31) S2 S0;subst hz;simp[ae p5.wle w3.out];have kk:=kW.trans (k1.trans (k2.trans (k3.trans (k4.trans k5))));have sx:h.size<=hx.size:=OY s06 kW.size;refine hK _ _ ⟨r,V3',rfl,uW.trans (OY sx k1.size) (v2.trans k2.size v3),p5,?_⟩;intro b o hb;have hlt:=View.lt (View.le_refl (vw h)) hb;show i5[b]? = _;rw[kk.block b S0 S7];exact le04 b o hb
end
end Go.Proofs.YtnfiilgdjpdlkaaGreatDoor
namespace Go.Lft
open Go Go.MapKept
variable {po:OP} {pp:PP}
theorem mZ {P:Program} {ty:TypeId} {us:List (Nat × Value)} {h:Heap} {K:Value->Heap->Prop} {d:TypeDesc} {r:Nat} {f:Value->Option Value} {t k e:TypeId} {x y:Operand} {u z:Value} (ht:P.underlying t=Sj (.map k e)) (hd:P.underlying k=Sj d) (hz:(P.info? e).map (·.zero)=Sj (Sj z)) (hx:asg us x = .map (Sj r)) (hy:asg us y=u) (hu:IsKey d u) (m:de d h r f)
  (hk:K (.tuple #[(f u).getD z,.bool (f u).isSome]) h):@step po P (.lookup t x y Sq) ty us h K:=by
 obtain⟨es,c,h1,h2,h3,h4⟩:=m.ex;simp only[OH]at hz;obtain⟨i,hi,hz⟩:=hz;refine cI (cf λw hw=>⟨_,w,?_,Same.refl _,by rw[hw];exact hk⟩);have hz':(zeroValue e).run P w = .ok z w:=by simp[zeroValue,typeInfo,hi,hz]
 rw[<-hw]at h1;simp only[bI,execOp,hx,hy];rcases findNow_spec hu es.toList 0 h2 with⟨g1,g2⟩ | ⟨j,x,g1,g2,g3⟩
 ·have hf:f u = .none:=by
   cases hfu:f u with
   | none=>rfl
   | some v=>obtain⟨x,hx,e1,_⟩:=(h4 u v hu).2 hfu;exact absurd e1 (g2 x hx)
  simp[Instr.lookup,run_underlying ht,MapKept.run_getObj_map h1,MapKept.run_checkKey hd hu,MapKept.run_findKey hd g1,Result.andThen,hf,hz']
 have hf:f u=Sj x.val:=(h4 u x.val hu).1 ⟨x,Ps g2,g3,rfl⟩;simp[Instr.lookup,run_underlying ht,MapKept.run_getObj_map h1,MapKept.run_checkKey hd hu,MapKept.run_findKey hd g1,Result.andThen,hf]
theorem od {H:View} {α:Type} [Rep α] {v:Value} {l:List α}:Rep.rd H [v] l↔SlRd H v l:=by rw[<-dR];unfold Rd;simp[Rep.agg]
theorem uk {H:View} {α:Type} [Rep α] {cs:List Value} {l:List α} (h:Rep.rd H cs l) : ∃v,cs=[v]:=by
 have:=Rep.len h;match cs,this with
 | [v],_=>exact⟨v,rfl⟩
theorem vJ {H:View} {v:Value} {f:an} (h:Rd H v f) : ∃a m c,v = .agg #[Sf Sg f.params,.slice a m c]:=by unfold Rd at h;rw[if_pos (show Rep.agg an=Sq from rfl)]at h;obtain⟨cs,rfl,c1,c2,e,h1,h2⟩:=h;rw[h1.1]at e;obtain⟨v,rfl⟩:=uk h2;obtain⟨a,c,rfl,-⟩:=od.1 h2;exact⟨a,_,c,by congr 1;rw[<-Array.toList_inj,e];rfl⟩
theorem xA {H:View} {v:Value} {i:InsD} (h:Rd H v i) : ∃a m c,v = .agg #[Sf Sg i.op,Sf Sg i.dst,Sf Sg i.two,.slice a m c,Sf Si i.imm.v]:=by unfold Rd at h;rw[if_pos (show Rep.agg InsD=Sq from rfl)]at h;obtain⟨cs,rfl,c1,_,e,h1,c2,_,rfl,h2,c3,_,rfl,h3,c4,c5,rfl,h4,h5⟩:=h;rw[h1.1,h2.1,h3.1,h5.1]at e;obtain⟨v,rfl⟩:=uk h4;obtain⟨a,c,rfl,-⟩:=od.1 h4;exact⟨a,_,c,by congr 1;rw[<-Array.toList_inj,e];rfl⟩
theorem BO {H:View} {v:Value} {t:cM} (h:Rd H v t) : ∃a m c a2 m2 c2,v = .agg #[Sf Sg t.kind,.slice a m c,.slice a2 m2 c2,Sf Si t.imm.v]:=by unfold Rd at h;rw[if_pos (show Rep.agg cM=Sq from rfl)]at h;obtain⟨cs,rfl,c1,_,e,h1,c2,_,rfl,h2,c3,c4,rfl,h3,h4⟩:=h;rw[h1.1,h4.1]at e;obtain⟨v,rfl⟩:=uk h2;obtain⟨w,rfl⟩:=uk h3;obtain⟨a,c,rfl,-⟩:=od.1 h2;obtain⟨a2,c2,rfl,-⟩:=od.1 h3;exact⟨a,_,c,a2,_,c2,by congr 1;rw[<-Array.toList_inj,e];rfl⟩
theorem zz {H:View} {α:Type} [Rep α] {cs:Array Value} {d:α} (ha:Rep.agg α=Sq) (h:Rd H (.agg cs) d):Rep.rd H cs.toList d:=by unfold Rd at h;rw[if_pos ha]at h;obtain⟨cs',e,h⟩:=h;cases e;exact h
theorem zM {H:View} {c1 c2 c3:Array Value} {s:bY} (h1:Rd H (.agg c1) s.f) (h2:Rd H (.agg c2) s.i) (h3:Rd H (.agg c3) s.t) (h5:-9223372036854775808<=s.temp/\s.temp<=9223372036854775807) :
  Rd H (.agg (c1.toList++(c2.toList++(c3.toList++([Value.bool s.term]++[Sf Sg s.temp])))).toArray) s:=by unfold Rd;rw[if_pos (show Rep.agg bY=Sq from rfl)];exact⟨_,rfl,_,_,rfl,zz rfl h1,_,_,rfl,zz rfl h2,_,_,rfl,zz rfl h3,_,_,rfl,rfl,rfl,h5⟩
end Go.Lft
namespace Go.Proofs.YtnfiilgdjpdlkaaGreatDoor
open Go Go.Lft
abbrev oR:List Value:=[Sf Sg 0,Sn Sk 0 0,Sf Sg 0,Sf Sg 0,Sf Sg 0,Sn Sk 0 0,Sf Si 0,Sf Sg 0,Sn Sk 0 0,Sn Sk 0 0,Sf Si 0,.bool Sr,Sf Sg 0]
theorem EU {H:View}:Rd H (.agg #[Sf Sg 0,Sn Sk 0 0]) (⟨0,[]⟩:an):=by unfold Rd;rw[if_pos (show Rep.agg an=Sq from rfl)];exact⟨_,rfl,[_],[_],rfl,⟨rfl,by decide,by decide⟩,od.2 aQ⟩
theorem yW {H:View}:Rd H (.agg #[Sf Sg 0,Sn Sk 0 0,Sn Sk 0 0,Sf Si 0]) mG:=by unfold Rd;rw[if_pos (show Rep.agg cM=Sq from rfl)];exact⟨_,rfl,[_],_,rfl,⟨rfl,by decide,by decide⟩,[_],_,rfl,od.2 aQ,[_],[_],rfl,od.2 aQ,rfl,by decide,by decide⟩
theorem yK {H:View}:Rd H (.agg oR.toArray) CF:=zM (s:=CF) EU mA yW S1
def nu (f:an) (b p temp:Int):bY:=if cR f b p then dI f b p temp else CF
set_option maxHeartbeats 400000 in
theorem HJ {f:an} {v:Value} {b p temp:Int} {h:Heap} {W:View} (hW:W.le (vw h)) (hv:Rd W v f) (ht:I64 temp) :
  aw Ss 38 #[v,Sf Sg b,Sf Sg p,Sf Sg temp] h (λu h'=>(vw h).le (vw h')/\∃vs,u = .tuple #[vs,.bool (cR f b p)]/\Rd (grow W h h') vs (nu f b p temp)):=by
 refine aj (args:=[v,Sf Sg b,Sf Sg p,Sf Sg temp]) follows Tryz.func38 E.wA S8 λK hK=>?_;dsimp only[L.wA,lkF,lkG];have c0:=Cx.start hW;refine ab λz hz=>?_;simp;refine c0.dc rfl hv λB h1 W1 hW1 c1 at1 hle1=>?_;refine c1.cC (k:=(0,0)) (n:=12) (z:=.agg oR.toArray) rfl R9 rfl S1 S6 λR h2 hle2 c2=>?_;subst hz;obtain⟨-,vb,hb1,hb2⟩:=iZ at1;have l2:=c2.wle;have hl:=hb2.len (K:=vw h2);have hb1':=ae l2 hb1;have bd:=hb2.bound;refine ab λz hz=>?_;refine ab λy hy=>?_;refine iP (λρ h5=>h5=h2/\ρ=[(0,v),(1,Sf Sg b),(2,Sf Sg p),(3,Sf Sg temp),(4,ptr B),(8,ptr R),(9,.bool Sr),(34,.bool (!cR f b p))]) ?_ ?_
 ·intro K2 hK2;by_cases e1:b<0
  ·simp[e1];exact hK2 _ _ ⟨rfl,by simp[cR];omega⟩
  by_cases e2:(f.blocks.length:Int)<=b
  ·simp[e1,e2,hb1',hl];exact hK2 _ _ ⟨rfl,by simp[cR];omega⟩
  by_cases e3:p<0
  ·simp[e1,e2,e3,hb1',hl];exact hK2 _ _ ⟨rfl,by simp[cR];omega⟩
  have hbl:b.toNat<f.blocks.length:=by omega
  have hx:=hb2.idxn (k:=.i64) (N:=6) rfl (i:=b) S0 S0;obtain⟨vi,hv1,hv2⟩:=((hb2.at hbl).part BlkD.mB).sl;have hv1:=ae l2 hv1;have hnb:f.blocks[b.toNat]=nth f.blocks b.toNat:=(ay hbl).symm;rw[hnb]at hv2;have hx:Bn.ev (.idx 6) vb (Sf Sg b)=Sj (Sp (Sj ((slA vb).add (b.toNat*Rep.n BlkD)))):=hx;simp[e1,e2,e3,hb1',hl,hx,hv1,(hv2.mono l2).len];have ei:cR f b p=decide (p<=(nth f.blocks b.toNat).ins.length):=by unfold cR;simp[show 0<=b by omega,show b<f.blocks.length by omega,show 0<=p by omega]
  exact hK2 _ _ ⟨rfl,by rw[ei,show(!decide (p<=((nth f.blocks b.toNat).ins.length:Int)))=decide (((nth f.blocks b.toNat).ins.length:Int)<p) by rw[O7];simp]⟩
 rintro _ _ ⟨rfl,rfl⟩;subst hy;cases hq:cR f b p with
 | false=>simp;refine az (z:=.agg oR.toArray) (places:=zpf) (vs:=[]) (cs:=oR.toArray) R9 R9 Sa R9 ?_;refine c2.bD (k:=(0,0)) (n:=12) (l:=oR) Own.ao yK rfl rfl R9 rfl rfl λh9 l9 hl9 c9=>?_;have hall:=c9.all (k:=(0,0)) (n:=12) (l:=l9) (B:=R) (e:=T.tZ) Own.ao;simp at hall;simp[hall];refine hK _ _ ⟨c9.le0,_,by rw[hq],?_⟩;unfold nu;rw[hq,if_neg Sa,<-hl9];exact yK
 | true=>
  have hq2:=hq;simp[cR]at hq2;obtain⟨⟨⟨g1,g2⟩,g3⟩,g4⟩:=hq2;have hbl:b.toNat<f.blocks.length:=by omega
  simp;subst hz;refine ab λz hz=>?_;obtain⟨ub,hub,rub⟩:=hb2.wh rfl (N:=6) rfl hbl;have hx:=hb2.idxn (k:=.i64) (N:=6) rfl (i:=b) S0 S0;simp[hb1',hx,hub _ l2];refine c2.dK (α:=BlkD) rub (n:=6) (z:=zz3) R9 rfl rfl R9 S3 S3 λB3 h3 W3 hW3 c3 at3 hle3=>?_;subst hz;refine ab λz hz=>?_;obtain⟨vp,vi,va,vt,-,si,-⟩:=kN at3;have sim:=si.mono c3.wle;obtain⟨uf,huf,ruf⟩:=at1.ldN rfl (N:=2) rfl;have huf3:=huf _ (Sc hW3 c3.wle);have ruf:=ruf.mono hW3;have hsite:nu f b p temp=dI f b p temp:=by unfold nu;rw[hq,if_pos rfl]
  generalize hbk:nth f.blocks b.toNat=bk at *;by_cases e:p=bk.ins.length
  ·obtain⟨ut,hut,rut⟩:=(at3.part BlkD.n7).ldN rfl (N:=4) rfl;have hut:Un.ev (vw h3) (.bV 4) (Sp (Sj ⟨B3,2,Sk⟩))=Sj ut:=by simpa using hut _ c3.wle
   obtain⟨a1,m1,k1,rfl⟩:=vJ ruf;obtain⟨a2,m2,k2,a3,m3,k3,rfl⟩:=BO rut;have hs:dI f b p temp=⟨f,iA,bk.term,Sq,temp⟩:=by unfold dI;rw[hbk,if_pos e]
   have rs:Rd W3 (.agg #[Sf Sg f.params,.slice a1 m1 k1,Sf Sg 0,Sf Sg 0,Sf Sg 0,Sn Sk 0 0,Sf Si 0,Sf Sg bk.term.kind,.slice a2 m2 k2,.slice a3 m3 k3,Sf Si bk.term.imm.v,.bool Sq,Sf Sg temp]) (dI f b p temp):=by rw[hs];exact zM (s:=⟨f,iA,bk.term,Sq,temp⟩) ruf mA rut ht
   simp[sim.1,sim.2.len,e,huf3,hut];refine az (z:=.agg oR.toArray) (places:=zpf) (vs:=[(0,.agg #[Sf Sg f.params,.slice a1 m1 k1]),(2,.agg #[Sf Sg bk.term.kind,.slice a2 m2 k2,.slice a3 m3 k3,Sf Si bk.term.imm.v]),(3,.bool Sq),(4,Sf Sg temp)]) (cs:=#[Sf Sg f.params,.slice a1 m1 k1,Sf Sg 0,Sf Sg 0,Sf Sg 0,Sn Sk 0 0,Sf Si 0,Sf Sg bk.term.kind,.slice a2 m2 k2,.slice a3 m3 k3,Sf Si bk.term.imm.v,.bool Sq,Sf Sg temp]) R9 R9 Sa (by simp[Instr.fill,Value.cells]) ?_;refine c3.bD (k:=(0,0)) (n:=12) (l:=oR) Own.ao rs rfl rfl R9 rfl rfl λh9 l9 hl9 c9=>?_;have hall:=c9.all (k:=(0,0)) (n:=12) (l:=l9) (B:=R) (e:=T.tZ) Own.ao;simp at hall;simp[hall];refine hK _ _ ⟨c9.le0,_,by rw[hq],?_⟩;rw[hsite,<-hl9];exact rs.mono c9.fin
  have hlt:p.toNat<bk.ins.length:=by omega
  obtain⟨ui,hui,rui⟩:=si.2.wh rfl (N:=5) rfl hlt;have hxi:=si.2.idxn (k:=.i64) (N:=5) rfl (i:=p) S0 S0;obtain⟨a1,m1,k1,rfl⟩:=vJ ruf;obtain⟨a2,m2,k2,rfl⟩:=xA rui;have hs:dI f b p temp=⟨f,nth bk.ins p.toNat,mG,Sr,temp⟩:=by unfold dI;rw[hbk,if_neg e]
  generalize nth bk.ins p.toNat=xi at *;have rs:Rd W3 (.agg #[Sf Sg f.params,.slice a1 m1 k1,Sf Sg xi.op,Sf Sg xi.dst,Sf Sg xi.two,.slice a2 m2 k2,Sf Si xi.imm.v,Sf Sg 0,Sn Sk 0 0,Sn Sk 0 0,Sf Si 0,.bool Sr,Sf Sg temp]) (dI f b p temp):=by rw[hs];exact zM (s:=⟨f,xi,mG,Sr,temp⟩) ruf rui yW ht
  simp[sim.1,sim.2.len,e];subst hz;refine ab λz hz=>?_;refine aO W3 c3.wle ?_;simp[huf W3 hW3,si.1,hxi,hui W3 Sb];refine az (z:=.agg oR.toArray) (places:=zpf) (vs:=[(0,.agg #[Sf Sg f.params,.slice a1 m1 k1]),(1,.agg #[Sf Sg xi.op,Sf Sg xi.dst,Sf Sg xi.two,.slice a2 m2 k2,Sf Si xi.imm.v]),(4,Sf Sg temp)]) (cs:=#[Sf Sg f.params,.slice a1 m1 k1,Sf Sg xi.op,Sf Sg xi.dst,Sf Sg xi.two,.slice a2 m2 k2,Sf Si xi.imm.v,Sf Sg 0,Sn Sk 0 0,Sn Sk 0 0,Sf Si 0,.bool Sr,Sf Sg temp]) R9 R9 Sa (by simp[Instr.fill,Value.cells]) ?_;refine c3.bD (k:=(0,0)) (n:=12) (l:=oR) Own.ao rs rfl rfl R9 rfl rfl λh9 l9 hl9 c9=>?_;subst hz;have hall:=c9.all (k:=(0,0)) (n:=12) (l:=l9) (B:=R) (e:=T.tZ) Own.ao;simp at hall;simp[hall];refine hK _ _ ⟨c9.le0,_,by rw[hq],?_⟩;rw[hsite,<-hl9];exact rs.mono c9.fin
end Go.Proofs.YtnfiilgdjpdlkaaGreatDoor
