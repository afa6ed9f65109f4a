/- A part of the proof: LftO, Hi, Hj, Hk, Oa, LftI, LftL, Ra, Ka, Kd, Ke, Ob, Oc, Od, Oe, Of, Og, Oh, Oi, Oj. -/
import Derived.Test.YtmhnaeecolpfkaaGreatDoorZCTmp2
import Derived.Maps.RangeRun
set_option linter.unusedSimpArgs false
set_option linter.unusedVariables false
open Go.Value renaming int->Vz,slice->VE,pointer->VF
open Go.IntKind renaming i64->VA,i32->VB
open Option renaming some->VC,none->VD
open Bool renaming true->VG,false->VH
open Go.Proofs.Tryz renaming prog->VI
open Go.Proofs
namespace Go.Lft
section
variable{po po2 po3:OP}{pp:PP}
structure Raw where
 v:Value
instance:Rep Raw where
 n:=1
 agg:=false
 rd:=λ_ cs d=>cs=[d.v]/\d.v.oneCell'=VG
 mono:=λ_ h=>h
 len:=λh=>by rw[h.1];rfl
 one:=λ_=>rfl
 flat:=λh u hu=>by rw[h.1]at hu;simp at hu;subst hu;exact h.2
 pos:=US
 cf:=λh=>h
instance:Inhabited Raw:=⟨⟨.bool VH⟩⟩
theorem iT{H:View}{v:Value}{d:Raw}:Rd H v d↔v=d.v/\d.v.oneCell'=true:=by simp[Rd,Rep.agg,Rep.rd]
theorem At.raw{H:View}{a:Addr}{d:Raw}(h:At H a d):aq H a=VC d.v:=by obtain⟨u,h1,h2⟩:=h.load rfl;rw[(iT.1 h2).1]at h1;exact h1
variable{α β:Type}{off:Nat}{W:View}{y:Operand}{K:Value->Heap->Prop}
theorem CQ[Rep α][Rep β]{g:α->β}{s:α->β->α}(p:Part α β off g s){P:Program}{h:Heap}{e:TypeId}{v:Value}{l:List α}{t ty:TypeId}{x:Operand}{us:List (Nat × Value)}{i:Nat}{u:Value}{d:β}(hsz:da P t=VC (Rep.n β))(hx:asg us x = VF (VC (((slA v).add (i*Rep.n α)).add off)))(hy:asg us y=u)(ho:OwnT W h e v l)(hi:i<l.length)(hr:Rd W u d)(hk : ∀h',h'.size=h.size->OwnT W h' e v (l.set i (s l[i] d))->lO h h' v v->K undef h'):@step po P (.store t x y) ty us h K:=by
 obtain⟨c1,c2,c3⟩:=gn hr;obtain⟨hbd,xs,⟨hxl,hown⟩,hel⟩:=ho;have hf:=p.fits;refine dr (po:=po) (pO λw hw=>?_);subst hw;rcases hown with⟨rfl,hn⟩ | ⟨gb,cap,cur,rfl,hg,h1,h2,h3,h4⟩
 ·omega
 have hle:i*Rep.n α+Rep.n α<=l.length*Rep.n α:=by rw[<-Nat.succ_mul];exact SG _ hi
 have hcap:l.length*Rep.n α<=cap*Rep.n α:=SG _ h1;have hlen:u.cells.toList.length=Rep.n β:=by simpa using c2
 have hrun:=run_storeCells_at P gb (i*Rep.n α+off) e u.cells.toList 0 cur w hg (by simp only[Nat.add_zero];omega) c3;have hadd:((slA (VE (VC ⟨gb,0,VD⟩) l.length cap)).add (i*Rep.n α)).add off=⟨gb,i*Rep.n α+off,VD⟩:=by show((⟨gb,0,VD⟩:Addr).add _).add _=_;simp[Addr.z]
 have hszr:=run_sizeOf (P:=P) (w:=w) hsz;obtain⟨row,hrow⟩ : ∃row:Array Value,row.toList=cur.toList.take (i*Rep.n α+off)++u.cells.toList++cur.toList.drop (i*Rep.n α+off+Rep.n β):=⟨(cur.toList.take (i*Rep.n α+off)++u.cells.toList++cur.toList.drop (i*Rep.n α+off+Rep.n β)).toArray,rfl⟩;have hrun':Sem.run P (storeCells ⟨gb,i*Rep.n α+off,VD⟩ u.cells.toList) w = .ok () (w.setRow gb row):=by rw[hrun];congr 2;rw[<-Array.toList_inj,hrow,hlen];rfl
 have hrsz:row.size=cap*Rep.n α:=by have:=congrArg List.length hrow;simp only[T6,Sf,SH,SP,c2]at this;omega
 refine⟨w.setRow gb row,?_,Same.pC rfl rfl rfl V5 hg V5 (λk _ hne=>setRow_other w gb k _ (λe=>hne e)),hk (w.setRow gb row).heap V5 ⟨by simpa using hbd,xs.take (i*Rep.n α+off)++u.cells.toList++xs.drop (i*Rep.n α+off+Rep.n β),⟨?_,.inr ⟨gb,cap,row,by simp,setRow_heap w gb cur row e _ hg,by simpa using h1,h2,?_,?_⟩⟩,?_⟩ ⟨⟨by simp,λk hk hne=>setRow_other w gb k _ (λe=>hne (by simp[Value.ownBlock,e]))⟩,.inl rfl⟩⟩
 ·simp only[bQ,execOp,hx,hy,hadd];simp[Instr.storeAt,Instr.sureAddr,storeVar,hszr,c2,hrun']
 ·simp only[Sf,SH,SP,hlen,SC];omega
 ·exact hrsz
 ·simp only[SC];rw[hrow,<-h4,TC,Tw V4,Sk,Sk];have e1:(cur.toList.take (i*Rep.n α+off)).length=i*Rep.n α+off:=by simp;omega
  rw[TK,e1,Sr V4];congr 1;rw[TK,hlen,Sr V4];congr 1;rw[TB];congr 1;omega
 intro j hj;simp only[SC]at hj;have hjle:j*Rep.n α+Rep.n α<=l.length*Rep.n α:=by rw[<-Nat.succ_mul];exact SG _ hj
 have e1:(xs.take (i*Rep.n α+off)).length=i*Rep.n α+off:=by simp;omega
 by_cases hij:i=j
 ·subst hij;have hset:(l.set i (s l[i] d))[i]'(by simpa using hj)=s l[i] d:=by simp
  rw[hset];have:=p.set (hel i hj) c1;have hcs:((xs.drop (i*Rep.n α)).take (Rep.n α)).length=Rep.n α:=by simp;omega
  have e3:((xs.take (i*Rep.n α+off)++u.cells.toList++xs.drop (i*Rep.n α+off+Rep.n β)).drop (i*Rep.n α)).take (Rep.n α)=((xs.drop (i*Rep.n α)).take (Rep.n α)).take off++u.cells.toList++((xs.drop (i*Rep.n α)).take (Rep.n α)).drop (off+Rep.n β):=by
   rw[Sk,S6 V4,TB,Vg,TC,Tw V4,Sk];have e4:((xs.drop (i*Rep.n α)).take off).length=off:=by simp;omega
   rw[TK,e4,Sr V4];congr 1;rw[TK,hlen,Sr V4];congr 1;rw[TB,TU];rw[show i*Rep.n α+(off+Rep.n β)=i*Rep.n α+off+Rep.n β by omega,show Rep.n α-off-Rep.n β=Rep.n α-(off+Rep.n β) by omega]
  rw[e3];exact this
 have hset:(l.set i (s l[i] d))[j]'(by simpa using hj)=l[j]:=by simp[hij]
 rw[hset];have:((xs.take (i*Rep.n α+off)++u.cells.toList++xs.drop (i*Rep.n α+off+Rep.n β)).drop (j*Rep.n α)).take (Rep.n α)=(xs.drop (j*Rep.n α)).take (Rep.n α):=by
  rcases Sb j i with hlt | hge
  ·have h5:j*Rep.n α+Rep.n α<=i*Rep.n α:=by rw[<-Nat.succ_mul];exact SG _ hlt
   rw[Sk,S6 V4,SU Vt,TB,TC,Tw V4]
  have h5:i*Rep.n α+Rep.n α<=j*Rep.n α:=by rw[<-Nat.succ_mul];exact SG _ V4
  have e2:(xs.take (i*Rep.n α+off)++u.cells.toList).length=i*Rep.n α+off+Rep.n β:=by rw[Sf,e1,hlen]
  rw[T7,SO V4,SV,e2,TU];congr 2;omega
 rw[this];exact hel j hj
abbrev Key:=Nat × Nat
structure Item where
 α:Type
 rep:Rep α
 e:TypeId
 v:Value
 l:List α
abbrev Own:=Key->Option Item
def it{α:Type}[r:Rep α](e:TypeId)(v:Value)(l:List α):Option Item:=VC ⟨α,r,e,v,l⟩
def bx{α:Type}[r:Rep α](e:TypeId)(B:Nat)(d:α):Option Item:=VC ⟨α,r,e,VE (VC ⟨B,0,VD⟩) 1 1,[d]⟩
def Own.upd(o:Own)(k:Key)(i:Option Item):Own:=λj=>if j=k then i else o j
structure Owns(W:View)(h:Heap)(o:Own):Prop where
 wle:W.le (vw h)
 own : ∀k i,o k=VC i->@OwnT i.α i.rep W h i.e i.v i.l
 av : ∀k i,o k=VC i->Av W i.v
 dj : ∀k k' i i' b,o k=VC i->o k'=VC i'->i.v.ownBlock=VC b->i'.v.ownBlock=VC b->k=k'
section
variable{W:View}{h h':Heap}{o:Own}{k:Key}
theorem Owns.congr{o':Own}(w:Owns W h o)(he : ∀k,o' k=o k):Owns W h o':=by have:o'=o:=funext he;rw[this];exact w
theorem Owns.start(hw:W.le (vw h)):Owns W h (λ_=>.none):=⟨hw,λ_ _ h=>(by cases h),λ_ _ h=>(by cases h),λ_ _ _ _ _ h=>(by cases h)⟩
theorem Owns.get[r:Rep α]{e:TypeId}{v:Value}{l:List α}(w:Owns W h o)(hk:o k=it e v l):OwnT W h e v l:=w.own k _ hk
theorem Owns.now{α:Type}[r:Rep α]{e:TypeId}{v:Value}{l:List α}(w:Owns W h o)(hk:o k=it e v l):SlRd (vw h) v l:=(w.get hk).now w.wle
theorem Owns.at{α:Type}[r:Rep α]{e:TypeId}{B:Nat}{d:α}(w:Owns W h o)(hk:o k=bx e B d):At (vw h) ⟨B,0,.none⟩ d:=by have:SlRd (vw h) (VE (VC ⟨B,0,.none⟩) 1 1) [d]:=w.now (k:=k) hk;have:=this.at (i:=0) V5;simpa[slA]using this
theorem Owns.cells{α:Type}[r:Rep α]{e:TypeId}{v:Value}{l:List α}(w:Owns W h o)(hk:o k=it e v l):v.cells = #[v]/\v.oneCell'=true:=by have:=(w.get hk).len (K:=nothing);cases v<;>first | exact⟨rfl,rfl⟩ | (simp[Un.ev,vL]at this)
theorem Owns.lt{i:Item}(w:Owns W h o)(hk:o k=VC i){b:Nat}(hb:i.v.ownBlock=VC b):b<h.size:=@OwnT.lt i.α i.rep _ _ _ _ _ (w.own k i hk) _ hb
theorem Owns.ext'(w:Owns W h o)(hle:(vw h).le (vw h')):Owns W h' o:=
 ⟨Vx w.wle hle,λk i hk=>@OwnT.ext i.α i.rep _ _ _ _ _ _ (w.own k i hk) hle,w.av,w.dj⟩
theorem Owns.ext(w:Owns W h o)(hle:(vw h).le (vw h')):Owns (grow W h h') h' o:=
 ⟨km (Vx w.wle hle),λk i hk=>@OwnT.mono i.α i.rep _ _ _ _ _ (@OwnT.ext i.α i.rep _ _ _ _ _ _ (w.own k i hk) hle) _ (bC w.wle),
  λk i hk=>(w.av k i hk).grow λb hb=>w.lt hk hb,w.dj⟩
theorem Owns.Ou{W':View}(w:Owns W h o)(h1:W.le W')(h2:W'.le (vw h))(h3 : ∀k i b,o k=VC i->i.v.ownBlock=VC b->W' b = .none):Owns W' h o:=
 ⟨h2,λk i hk=>@OwnT.mono i.α i.rep _ _ _ _ _ (w.own k i hk) _ h1,λk i hk b hb=>h3 k i b hk hb,w.dj⟩
theorem Owns.sub{o':Own}(w:Owns W h o)(hs : ∀k i,o' k=VC i->o k=VC i):Owns W h o':=
 ⟨w.wle,λk i hk=>w.own k i (hs k i hk),λk i hk=>w.av k i (hs k i hk),λk k' i i' b hk hk'=>w.dj k k' i i' b (hs k i hk) (hs k' i' hk')⟩
theorem Owns.gK{i:Item}[rb:Rep β]{e2:TypeId}{v':Value}{l':List β}(w:Owns W h o)(hk:o k=VC i)(o2:OwnT W h' e2 v' l')(m:lO h h' i.v v'):Owns W h' (o.upd k (it e2 v' l')):=by
 obtain⟨w1,a1⟩:=m.view w.wle (w.av k i hk);have new : ∀(y:Item) (q:Key) (b:Nat),o q=VC y->y.v.ownBlock=VC b->v'.ownBlock=VC b->q=k:=λy q b hq hb hv=>by
  rcases m.at_ with e | e
  ·exact w.dj q k y i b hq hk hb (e▸hv)
  rw[e]at hv;simp only[RW]at hv;have:=w.lt hq hb;omega
 refine⟨w1,λj x hj=>?_,λj x hj=>?_,λj j' x x' b hj hj' hb hb'=>?_⟩
 ·unfold Own.upd at hj;split at hj
  ·cases hj;exact o2
  rename_i hjk;refine @OwnT.kept x.α x.rep _ _ _ _ _ _ (w.own j x hj) _ m.kept ?_;cases hx:x.v.ownBlock with
  | none=>exact .inl rfl
  | some b=>exact .inr λe=>hjk (w.dj j k x i b hj hk hx e.symm)
 ·unfold Own.upd at hj;split at hj
  ·cases hj;exact a1
  exact(m.view w.wle (w.av k i hk) |>.1:_) |> λ_=>w.av j x hj
 unfold Own.upd at hj hj';split at hj
 ·rename_i a;cases hj;split at hj'
  ·rename_i c;rw[a,c]
  rw[a];exact(new x' j' b hj' hb' hb).symm
 split at hj'
 ·rename_i c;cases hj';rw[c];exact new x j b hj hb hb'
 exact w.dj j j' x x' b hj hj' hb hb'
theorem Owns.add[rb:Rep β]{e2:TypeId}{v':Value}{l':List β}(w:Owns W h o)(hk:o k = .none)(o2:OwnT W h' e2 v' l')(hle:(vw h).le (vw h'))(hb : ∀b,v'.ownBlock=VC b->h.size<=b):Owns W h' (o.upd k (it e2 v' l')):=by
 have w1:=w.ext' hle;refine⟨w1.wle,λj x hj=>?_,λj x hj=>?_,λj j' x x' b hj hj' hb1 hb2=>?_⟩
 ·unfold Own.upd at hj;split at hj
  ·cases hj;exact o2
  exact w1.own j x hj
 ·unfold Own.upd at hj;split at hj
  ·cases hj;intro b hb';exact View.bS w.wle (hb b hb')
  exact w.av j x hj
 unfold Own.upd at hj hj';split at hj
 ·rename_i a;cases hj;split at hj'
  ·rename_i c;rw[a,c]
  have:=w.lt hj' hb2;have:=hb b hb1;omega
 split at hj'
 ·cases hj';have:=w.lt hj hb1;have:=hb b hb2;omega
 exact w.dj j j' x x' b hj hj' hb1 hb2
theorem Own.an{i:Option Item}:o.upd k i k=i:=by simp[Own.upd]
theorem Own.aB{i:Option Item}{j:Key}(hj:j≠k):o.upd k i j=o j:=by simp[Own.upd,hj]
theorem iL[Rep β]{B:Nat}{e:TypeId}{v:Value}{d:β}(hb:h[B]? = VC (.cells v.cells e (0,0)))(hr:Rd W v d)(hn:Rep.n β<=1000):OwnT W h e (VE (VC ⟨B,0,.none⟩) 1 1) [d]:=by
 obtain⟨c1,c2,c3⟩:=gn hr;refine⟨by simp,v.cells.toList,⟨by simp[c2],.inr ⟨B,1,v.cells,rfl,hb,RX _,by simp[maxLen],by omega,?_⟩⟩,λi hi=>?_⟩
 ·rw[Sr];simp[c2]
 have:i=0:=by simpa using hi
 subst this;simp only[Um,TW,TS];rw[Sr (by simp[c2])];exact c1
section
variable{P:Program}{ty:TypeId}{us:List (Nat × Value)}{α:Type}[r:Rep α]{e:TypeId}{v:Value}{l:List α}
theorem Owns.dA{t:TypeId}{bytes:Nat}{z:Value}{x y:Operand}{u:Value}{l2:List α}{K:Value->Heap->Prop}(w:Owns W h o)(hk:o k=it e v l)(hT:eU P t e (Rep.n α) bytes z)(hx:asg us x=v)(hy:asg us y=u)
  (hs:SrcT (vw h) W u l2) (hb:(l.length+l2.length)*bytes<=140737488355328) (hb2:l.length+l2.length<=140737488355328)
  (hK : ∀v' h',Owns W h' (o.upd k (it e v' (l++l2)))->lO h h' v v'->K v' h'):@step po P (.call ⟨.builtin .append,#[x,y],#[t,t]⟩) ty us h K:=
 Lft.dA hT hx hy (w.get hk) hs hb hb2 λv' h' o2 m=>hK v' h' (w.gK hk o2 m) m
variable{bytes:Nat}
theorem Owns.fW{t ty2:TypeId}{z:Value}{x y2:Operand}{us2:Value->List (Nat × Value)}{u:Value}{d:α}{K:Value->Value->Heap->Prop}(w:Owns W h o)(hk:o k=it e v l)(hT:eU P t e (Rep.n α) bytes z)(hx:asg us x=u)(hr:Rd W u d)(hb:(l.length+1)*bytes<=140737488355328)(hb2:l.length+1<=140737488355328)(hy : ∀u,asg (us2 u) y=v)(hy2 : ∀u,asg (us2 u) y2=u)(hK : ∀u v' h',Owns W h' (o.upd k (it e v' (l++[d])))->h.size<=h'.size->K u v' h'):
  @step po P (.buildSlice t 1 #[(0,x)]) ty us h λu h2=>@step po2 P (.call ⟨.builtin .append,#[y,y2],#[t,t]⟩) ty2 (us2 u) h2 λv' h3=>K u v' h3:=by refine ni (po:=po) hT hx hr λu h2 hs hle hsz=>?_;exact(w.ext' hle).dA hk hT (hy u) (hy2 u) hs hb hb2 λv' h3 w3 m=>hK u v' h3 w3 (by have:=m.kept.size;omega)
theorem Owns.bJ{t:TypeId}{x:Operand}{i:Nat}{u:Value}{d:α}(w:Owns W h o)(hk:o k=it e v l)(hsz:da P t=VC (Rep.n α))(hx:asg us x = VF (VC ((slA v).add (i*Rep.n α))))(hy:asg us y=u)(hi:i<l.length)(hr:Rd W u d)(hK : ∀h',Owns W h' (o.upd k (it e v (l.set i d)))->h'.size>=h.size->K undef h'):@step po P (.store t x y) ty us h K:=
 uR (po:=po) hsz hx hy (w.get hk) hi hr λh' o2 m=>hK h' (w.gK hk o2 m) m.kept.size
theorem Owns.tA[Rep β]{g:α->β}{s:α->β->α}(p:Part α β off g s){t:TypeId}{x:Operand}{i:Nat}{u:Value}{d:β}(w:Owns W h o)(hk:o k=it e v l)(hsz:da P t=VC (Rep.n β))(hx:asg us x = VF (VC (((slA v).add (i*Rep.n α)).add off)))(hy:asg us y=u)(hi:i<l.length)(hr:Rd W u d)(hK : ∀h',Owns W h' (o.upd k (it e v (l.set i (s l[i] d))))->h'.size=h.size->K undef h'):@step po P (.store t x y) ty us h K:=
 CQ (po:=po) p hsz hx hy (w.get hk) hi hr λh' hs o2 m=>hK h' (w.gK hk o2 m) hs
theorem Owns.cz[Rep β]{g:α->β}{s:α->β->α}(p:Part α β off g s){t:TypeId}{x:Operand}{B:Nat}{D:α}{u:Value}{d:β}(w:Owns W h o)(hk:o k=bx e B D)(hsz:da P t=VC (Rep.n β))(hx:asg us x = VF (VC ⟨B,off,.none⟩))(hy:asg us y=u)(hr:Rd W u d)(hK : ∀h',Owns W h' (o.upd k (bx e B (s D d)))->h'.size=h.size->K undef h'):@step po P (.store t x y) ty us h K:=
 w.tA (po:=po) (v:=VE (VC ⟨B,0,.none⟩) 1 1) (l:=[D]) (i:=0) p hk hsz (by rw[hx];simp[slA,Addr.z]) hy V5 hr λh' w' hs=>hK h' w' hs
end
end
theorem zK{h0 h1 h2 h3:Heap}(hs:h0.size<=h1.size)(hle:(vw h2).le (vw h3)):(fresh h1 h2).le (grow W h0 h3):=λb o hb=>by
 unfold fresh at hb;split at hb
 ·cases hb
 unfold grow;rw[if_neg V4];exact hle b o hb
theorem H4{h0 h1 h2:Heap}(hle:(vw h1).le (vw h2)):(grow W h0 h1).le (grow W h0 h2):=λb o hb=>by
 unfold grow at hb ⊢;split
 ·rename_i hlt;rw[if_pos hlt]at hb;exact hb
 rename_i hlt;rw[if_neg hlt]at hb;exact hle b o hb
theorem cg{h0 h1:Heap}{b:Nat}(hb:h0.size<=b):grow W h0 h1 b=h1[b]?:=by unfold grow;rw[if_neg V4]
def View.plus(W:View)(v:Value)(h:Heap):View:=λb=>if v.ownBlock=VC b then h[b]? else W b
theorem ij{v:Value}{h:Heap}(ha:Av W v):W.le (W.plus v h):=λb o hb=>by
 unfold View.plus;split
 ·rename_i e;rw[ha b e]at hb;cases hb
 exact hb
theorem MA{v:Value}{h:Heap}(hw:W.le (vw h)):(W.plus v h).le (vw h):=λb o hb=>by
 unfold View.plus at hb;split at hb
 ·exact hb
 exact hw b o hb
theorem Owns.freeze{h:Heap}{o:Own}{k:Key}[r:Rep α]{e:TypeId}{v:Value}{l:List α}(w:Owns W h o)(hk:o k=it e v l):Owns (W.plus v h) h (o.upd k .none)/\SlRd (W.plus v h) v l:=by
 have ha:Av W v:=w.av k _ hk;constructor
 ·refine(w.sub (o':=o.upd k .none) λj i hj=>?_).Ou (ij ha) (MA w.wle) λj i b hj hb=>?_
  ·unfold Own.upd at hj;split at hj
   ·cases hj
   exact hj
  unfold Own.upd at hj;split at hj
  ·cases hj
  rename_i hjk;unfold View.plus;rw[if_neg]
  ·exact w.av j i hj b hb
  intro e2;exact hjk (w.dj j k i _ b hj hk hb e2)
 refine(w.get hk).rd (ij ha) λb hb=>?_;unfold View.plus;rw[if_pos hb]
variable{bytes:Nat}
theorem qQ[Rep α]{P:Program}{t e:TypeId}{z:Value}{ty:TypeId}{us:List (Nat × Value)}{h:Heap}(hT:eU P t e (Rep.n α) bytes z)(hk : ∀h',(vw h).le (vw h')->h'.size=h.size+1->(∀W,OwnT (α:=α) W h' e (VE (VC ⟨h.size,0,VD⟩) 0 0) [])->K (VE (VC ⟨h.size,0,VD⟩) 0 0) h'):@step po P (.buildSlice t 0 #[]) ty us h K:=by refine vU (n:=0) (size:=Rep.n α) (vs:=[]) (cs:=#[]) hT V4 V5 (by simp only[Instr.fill,Um];rw[show Array.range 0 = #[] by simp[Array.range_zero'],Array.map_empty]) (hk _ (b8 _ _) V5 λW=>⟨by simp,[],⟨by simp,.inr ⟨h.size,0,#[],rfl,by simp,RX _,by simp[maxLen],by simp,by simp⟩⟩,λi hi=>by simp at hi⟩)
theorem Mine.empty[Rep α]{V:View}{h0 h h':Heap}{e:TypeId}(hle:(vw h0).le (vw h))(hle2:(vw h).le (vw h'))(hW:W.le (vw h))(ho:Old V h0 W)(own : ∀W,OwnT (α:=α) W h' e (VE (VC ⟨h.size,0,VD⟩) 0 0) []):Mine (α:=α) V h0 h' W e (VE (VC ⟨h.size,0,VD⟩) 0 0) []:=
 ⟨Vx hle hle2,Vx hW hle2,λb hb=>by cases hb;exact View.bS hW (RX _),λb hb=>by cases hb;exact View.bS hle (RX _),ho,own W⟩
theorem Owns.atW{h:Heap}{o:Own}{k:Key}[r:Rep α]{e:TypeId}{B:Nat}{d:α}(w:Owns W h o)(hk:o k=bx e B d): ∃cs,gN (vw h) ⟨B,0,VD⟩ cs/\Rep.rd W cs d:=by
 obtain⟨hb,xs,⟨hl,hown⟩,hel⟩:=w.get (k:=k) (v:=VE (VC ⟨B,0,VD⟩) 1 1) (l:=[d]) hk;have h0:=hel 0 V5;simp only[Um,TW,TS,Su,U8]at h0 hl;rw[Sr V4]at h0;rcases hown with⟨h1,_⟩ | ⟨g,cap,cur,h1,h2,h3,h4,h5,h6⟩
 ·cases h1
 simp only[Value.slice.injEq,RW,Addr.mk.injEq]at h1;obtain⟨⟨rfl,_⟩,_⟩:=h1;refine⟨xs,⟨cur,e,(0,0),rfl,h2,?_⟩,h0⟩;rw[hl,TW];simpa using h6
theorem Owns.zo{h:Heap}{o:Own}{k:Key}{P:Program}{ty:TypeId}{us:List (Nat × Value)}[r:Rep α]{e:TypeId}{v:Value}{l:List α}{t ty2:TypeId}{z:Value}{x y2:Operand}{us2:Value->List (Nat × Value)}{u:Value}{d:α}{K:Value->Value->Heap->Prop}(w:Owns W h o)(hk:o k=it e v l)(hT:eU P t e (Rep.n α) bytes z)(hx:asg us x=u)(hr:Rd W u d)(hb:(l.length+1)*bytes<=140737488355328)(hb2:l.length+1<=140737488355328)(hy : ∀u,asg (us2 u) y=v)(hy2 : ∀u,asg (us2 u) y2=u)(hK : ∀u v' h',Owns W h' (o.upd k (it e v' (l++[d])))->(∀X:View,X.le (vw h)->Av X v->X.le (vw h')/\Av X v')->K u v' h'):
  @step po P (.buildSlice t 1 #[(0,x)]) ty us h λu h2=>@step po2 P (.call ⟨.builtin .append,#[y,y2],#[t,t]⟩) ty2 (us2 u) h2 λv' h3=>K u v' h3:=by refine ni (po:=po) hT hx hr λu h2 hs hle hsz=>?_;exact(w.ext' hle).dA hk hT (hy u) (hy2 u) hs hb hb2 λv' h3 w3 m=>hK u v' h3 w3 λX hX hA=>m.view (Vx hX hle) hA
theorem Owns.kP{h:Heap}{o:Own}{k:Key}{P:Program}{ty:TypeId}{us:List (Nat × Value)}[r:Rep α][Rep β]{e:TypeId}{g:α->β}{s:α->β->α}(p:Part α β off g s){t:TypeId}{x:Operand}{B:Nat}{D:α}{u:Value}{d:β}(w:Owns W h o)(hk:o k=bx e B D)(hsz:da P t=VC (Rep.n β))(hx:asg us x = VF (VC ⟨B,off,.none⟩))(hy:asg us y=u)(hr:Rd W u d)(hK : ∀h',Owns W h' (o.upd k (bx e B (s D d)))->(∀X:View,X.le (vw h)->X B = .none->X.le (vw h'))->K undef h'):@step po P (.store t x y) ty us h K:=
 CQ (po:=po) p (v:=VE (VC ⟨B,0,.none⟩) 1 1) (l:=[D]) (i:=0) hsz (by rw[hx];simp[slA,Addr.z]) hy (w.get (k:=k) (v:=VE (VC ⟨B,0,.none⟩) 1 1) (l:=[D]) hk) V5 hr λh' hs o2 m=>hK h' (w.gK hk o2 m) λX hX hB=>(m.view hX λb hb=>by simp only[Value.ownBlock,RW]at hb;subst hb;exact hB).1
theorem aV{P:Program}{c:E}{kill:List Nat}{x y:LC}{Q:Post}{ρ:Env}{h:Heap}(hc:ev (look ρ) (vw h) c=VC (.bool VG))(hx:x.wp P Q (cK ρ kill) h):LC.wp P (.cond c kill x y) Q ρ h:=by rw[oE,hc,Gl];exact hx
theorem bg{P:Program}{c:E}{kill:List Nat}{x y:LC}{Q:Post}{ρ:Env}{h:Heap}(hc:ev (look ρ) (vw h) c=VC (.bool VH))(hy:y.wp P Q (cK ρ kill) h):LC.wp P (.cond c kill x y) Q ρ h:=by rw[oE,hc,Dn];exact hy
end
structure Th where
 blk:Int
 place:Int
 mks:List Int
 tks:List Int
 deriving Inhabited
def phiT(f:ak)(b i:Nat):Th:=⟨b,-1-i,[(nth (nth f.blocks b).phis i).dst],(nth (nth f.blocks b).phis i).ins.map InD.val⟩
def insT(f:ak)(b i:Nat):Th:=⟨b,i,bz (nth (nth f.blocks b).ins i),(nth (nth f.blocks b).ins i).args⟩
def endT(f:ak)(b:Nat):Th:=⟨b,(nth f.blocks b).ins.length,[],(nth f.blocks b).term.args⟩
def thB(f:ak)(b:Nat):List Th:=rows (phiT f b) (nth f.blocks b).phis.length++rows (insT f b) (nth f.blocks b).ins.length++[endT f b]
def thTo(f:ak)(n:Nat):List Th:=up (λb l=>l++thB f b) n []
def aC(f:ak):List Th:=thTo f f.blocks.length
theorem fS{f:ak}{n:Nat}:thTo f (n+1)=thTo f n++thB f n:=rfl
theorem KH{f:ak}{n m:Nat}(h:n<=m):thTo f n <+: thTo f m:=by
 induction m with
 | zero=>rw[show n=0 by omega];exact Uc _
 | succ m ih=>
  rcases Sb n (m+1)with h1 | h1
  ·exact(ih V4).trans ⟨_,fS.symm⟩
  rw[show n=m+1 by omega];exact Uc _
theorem D3{β:Type}{x:Nat->β}{n m:Nat}(h:n<=m):rows x n <+: rows x m:=by
 induction m with
 | zero=>rw[show n=0 by omega];exact Uc _
 | succ m ih=>
  rcases Sb n (m+1)with h1 | h1
  ·exact(ih V4).trans ⟨_,fJ.symm⟩
  rw[show n=m+1 by omega];exact Uc _
theorem Db{α:Type}{a b c:List α}(h:b <+: c):a++b <+: a++c:=by obtain⟨t,rfl⟩:=h;exact⟨t,by simp⟩
structure ThJ(J:List Th->View->Heap->Prop):Prop where
 le : ∀{l W h},J l W h->W.le (vw h)
 ext : ∀{l W h h'},J l W h->(vw h).le (vw h')->J l (grow W h h') h'
theorem BM{f:ak}{v:Value}{h:Heap}{V:View}{gf:Nat}{caps:List Value}{J:List Th->View->Heap->Prop}(hv:Rd V v f)(hsm:SmF f)(hJ:ThJ J)(hg:isFn VI gf=VG)(h0:J [] V h)(hstep : ∀(l:List Th) (t:Th) (W:View) (h1:Heap) (vm vt:Value),V.le W->l++[t] <+: aC f->J l W h1->SlRd W vm t.mks->SlRd W vt t.tks->ay VI gf (Vz VA t.blk::Vz VA t.place::vm::vt::caps).toArray h1 (λ_ h2=>J (l++[t]) W h2)):
  ay VI 94 #[v,.func (.func gf) #[] caps.toArray] h (λ_ h'=>∃W,V.le W/\J (aC f) W h'):=by
 refine ao (args:=[v,.func (.func gf) #[] caps.toArray]) follows Tryz.func94 E.bO Vu λK hK=>?_;dsimp only[L.bO,lkF,lkG];refine aa λz hz=>?_;simp;refine eI rfl (hv.mono (hJ.le h0)) λh1 e1 hle1 hs1 hat=>?_;have j1:=hJ.ext h0 hle1;obtain⟨cp,vb,cb⟩:=fh hat;have hvb:SlRd V vb f.blocks:=by
  obtain⟨u,hu,hur⟩:=hv.Qu ak.qg rfl rfl (K:=vw h);have e:vb=u:=by
   have hv' : ∃cs:Array Value,v = .agg cs/\Rep.rd V cs.toList f:=hv;obtain⟨cs,rfl,hcs⟩:=hv';have hb:h1[h.size]? = VC (.cells cs T.gB (0,0)):=by rw[e1];simp
   have h3:aq (vw h1) ⟨h.size,1,VD⟩=cs[1]?:=by simp[aq,vw,hb]
   simp at hu;rw[cb.1]at h3;rw[hu]at h3;exact Option.some.inj h3
  rw[e];exact dw.1 hur
 have hVW:V.le (grow V h h1):=bC (hJ.le h0);generalize grow V h h1=W1 at j1 hVW;generalize h.size=B at cb;have hbb:=cb.2.bound;subst hz;simp[cb.1,cb.2.len];refine aF [1,14,15,16] (fun(_:Unit) b=>[.func (.func gf) #[] caps.toArray,vb,Vz VA f.blocks.length,Vz VA b]) (λ_ b h2=>∃W,V.le W/\J (thTo f b) W h2) f.blocks.length ()
  rfl V4 rfl ⟨W1,hVW,j1⟩ (λ_ _=>rfl) (λv i h1 hk m=>by simp) ?_ ?_
 ·rintro _ b h2 hltb ⟨W2,hW2,j2⟩ K2 hK2;have hvb2:=hvb.mono (Vx hW2 (hJ.le j2));obtain⟨u,hu,hur⟩:=(hvb.mono hW2).wh rfl (N:=6) rfl hltb;refine aa λz hz=>?_;simp(disch:=omega)[hvb2.idxn (N:=6) rfl,hu _ (hJ.le j2)];refine cW (X:=W2) (z:=zz3) V0 rfl V0 hur V8 V8 λh3 hle3 hsz3 hat3=>?_;have j3:=hJ.ext j2 hle3;have hat3':=hat3 (grow W2 h2 h3) (bC (hJ.le j2)) (by unfold grow;rw[if_neg V4]);obtain⟨vp,vi,va,vt,bp,bi,bk,ba,bt⟩:=mD hat3';have hVW3:=Vx hW2 (bC (h':=h3) (hJ.le j2));generalize grow W2 h2 h3=W3 at j3 hVW3 bp bi bk ba bt;generalize h2.size=D at bp bi bk ba bt;have hpre:thTo f b++thB f b <+: aC f:=by rw[<-fS];exact KH hltb
  subst hz;have bph:=bp.2.bound;have bih:=bi.2.bound;refine aa λz hz=>?_;simp[ae (hJ.le j3) bp.1,bp.2.len];refine aF [1,4,5,14,15,16,22,23,24] (fun(_:Unit) i=>[.func (.func gf) #[] caps.toArray,Vz VA b,ptz D,vb,Vz VA f.blocks.length,Vz VA b,vp,Vz VA (nth f.blocks b).phis.length,Vz VA i])
   (λ_ i h4=>∃W,W3.le W/\J (thTo f b++rows (phiT f b) i) W h4) (nth f.blocks b).phis.length ()
   rfl V4 rfl ⟨W3,View.le_refl _,by simpa using j3⟩ (λ_ _=>rfl) (λv i h1 hk m=>by simp) ?_ ?_
  ·rintro _ i h4 hlti ⟨W4,hW4,j4⟩ K3 hK3;have bp4:=bp.2.mono (Vx hW4 (hJ.le j4));obtain⟨u4,hu4,hur4⟩:=bp4.wh rfl (N:=2) rfl hlti;refine aa λy hy=>?_;simp(disch:=omega)[bp4.idxn (N:=2) rfl,hu4 _ Vw];refine cW (z:=zz4) V0 rfl V0 hur4 V8 V8 λh5 hle5 hsz5 hat5=>?_;obtain⟨c0,vq,cq⟩:=yP (hat5 (vw h5) hle5 rfl);have rd:=((hat5 (vw h5) hle5 rfl).part PhiD.iG).rng;have hpl:=(hsm.blk b hltb).phi i hlti;have hpt:phiT f b i=⟨b,-1-i,[(nth (nth f.blocks b).phis i).dst],(nth (nth f.blocks b).phis i).ins.map InD.val⟩:=rfl;generalize nth (nth f.blocks b).phis i=x at c0 cq rd hpt hpl;generalize h4.size=D4 at c0 cq;have bq:=cq.2.bound;subst hy;refine aa λy hy=>?_;simp;subst hy;refine aa λy hy=>?_;simp[cq.1,cq.2.len];refine aF [1,4,5,6,7,8,14,15,16,22,23,24,30,31,32] (fun(r:Value) j=>[.func (.func gf) #[] caps.toArray,Vz VA b,ptz D,Vz VA i,ptz D4,r,vb,Vz VA f.blocks.length,Vz VA b,vp,Vz VA (nth f.blocks b).phis.length,Vz VA i,vq,Vz VA x.ins.length,Vz VA j])
    (λr j h6=>Mine nothing h5 h6 nothing T.int r ((x.ins.map InD.val).take j)) x.ins.length (VE VD 0 0)
    rfl V4 rfl (Mine.start cB) (λ_ _=>rfl) (λv i h1 hk m=>by simp) ?_ ?_
   ·rintro r j h6 hltj m6 K4 hK4;have cq6:=cq.2.mono m6.old;obtain⟨u6,hu6,hur6⟩:=cq6.wh rfl (N:=2) rfl hltj;refine aa λq hq=>?_;simp(disch:=omega)[cq6.idxn (N:=2) rfl,hu6 _ Vw];refine cW (z:=zz1) V0 rfl V0 hur6 V8 V8 λh7 hle7 hsz7 hat7=>?_;have e1:=(Gf (hat7 (vw h7) hle7 rfl)).2;have rv:=((hat7 (vw h7) hle7 rfl).part InD.G4).rng;generalize h6.size=D6 at e1;subst hq;simp[e1];have hl8:((x.ins.map InD.val).take j).length=j:=by simp;omega
    refine(m6.ext' hle7).push (d:=(nth x.ins j).val) El.aZ (by simp<;>rfl) (sB rv.1 rv.2) V4 V4 V8 V8 λu8 v8 h8 m8=>?_;refine hK4 v8 _ _ rfl rfl ?_;rw[UG,TG,SJ hltj];rw[az hltj]at m8;exact m8
   rintro r h6 m6;rw[Sr V5]at m6;simp;subst hy;simp(disch:=omega)[ae m6.old c0];refine nJ (X:=nothing) (ds:=[x.dst]) (vs:=[Vz VA x.dst]) rfl El.aZ V5 ⟨bu.2 ⟨rfl,rd⟩,trivial⟩ cB rfl V4 λu7 h7 hle7 hsz7 hu7 _=>?_;have hle47:=Vx hle5 (Vx m6.old hle7);have j7:=hJ.ext j4 hle47;have hW7:=Vx hW4 (bC (h':=h7) (hJ.le j4));have pre:(thTo f b++rows (phiT f b) i)++[phiT f b i] <+: aC f:=by rw[Sk,<-fJ];exact(Db ((D3 hlti).trans ⟨_,(Sk ..).symm⟩)).trans hpre
   rw[hpt]at pre;refine bW (ops:=[.tmp 43,.tmp 45,.tmp 48,.tmp 49]) rfl hg (hstep _ ⟨b,-1-i,[x.dst],x.ins.map InD.val⟩ _ h7 u7 r (Vx hVW3 hW7) pre j7 (hu7 _ cB (cg (by have:=bL hle5;have:=bL m6.old;omega))) (m6.fresh.mono (zK (bL hle5) hle7))) ?_;rintro _ h8 j8;exact hK3 () _ _ rfl rfl ⟨_,hW7,by rw[fJ,<-List.append_assoc,hpt];exact j8⟩
  rintro _ h4 ⟨W4,hW4,j4⟩;simp;subst hz;refine aa λz hz=>?_;have hW4h:=Vx hW4 (hJ.le j4);simp[ae hW4h bi.1,(bi.2.mono hW4h).len];refine aF [1,4,5,14,15,16,53,54,55] (fun(_:Unit) i=>[.func (.func gf) #[] caps.toArray,Vz VA b,ptz D,vb,Vz VA f.blocks.length,Vz VA b,vi,Vz VA (nth f.blocks b).ins.length,Vz VA i])
   (λ_ i h5=>∃W,W3.le W/\J (thTo f b++rows (phiT f b) (nth f.blocks b).phis.length++rows (insT f b) i) W h5) (nth f.blocks b).ins.length ()
   rfl V4 rfl ⟨W4,hW4,by simpa using j4⟩ (λ_ _=>rfl) (λv i h1 hk m=>by simp) ?_ ?_
  ·rintro _ i h5 hlti ⟨W5,hW5,j5⟩ K3 hK3;have bi5:=bi.2.mono (Vx hW5 (hJ.le j5));obtain⟨u5,hu5,hur5⟩:=(bi.2.mono hW5).wh rfl (N:=5) rfl hlti;refine aa λy hy=>?_;simp(disch:=omega)[bi5.idxn (N:=5) rfl,hu5 _ (hJ.le j5)];refine cW (z:=zz5) V0 rfl V0 hur5 V8 V8 λh6 hle6 hsz6 hat6=>?_;have hatg:=hat6 (grow W5 h5 h6) (bC (hJ.le j5)) (cg (RX _));have hat6':=hatg.mono (km (Vx (hJ.le j5) hle6));obtain⟨_,_,_,vq,cq⟩:=nC hatg;obtain⟨w,w1,w2⟩:=hat6'.bI rfl;have w1:Un.ev (vw h6) (.bI 5) (ptz h5.size)=VC w:=w1;have hpt:insT f b i=⟨b,i,bz (nth (nth f.blocks b).ins i),(nth (nth f.blocks b).ins i).args⟩:=rfl;generalize nth (nth f.blocks b).ins i=x at cq w2 hpt;generalize h5.size=D5 at cq w1;subst hy;have hg6:(grow W5 h5 h6).le (vw h6):=km (Vx (hJ.le j5) hle6);refine aN (vw h6) Vw ?_;simp[ae hg6 cq.1,w1];refine ah V0 (EM w2) ?_;rintro u7 h7 ⟨hle7,hu7⟩;refine⟨hle7,?_⟩;have hle57:=Vx hle6 hle7;have j7:=hJ.ext j5 hle57;have hW7:=Vx hW5 (bC (h':=h7) (hJ.le j5));have pre:(thTo f b++rows (phiT f b) (nth f.blocks b).phis.length++rows (insT f b) i)++[insT f b i] <+: aC f:=by rw[Sk,<-fJ,Sk];refine(Db ?_).trans hpre;exact(Db (D3 hlti)).trans ⟨_,rfl⟩
   rw[hpt]at pre;refine bW (ops:=[.tmp 61,.tmp 62,.tmp 64,.tmp 66]) rfl hg (hstep _ ⟨b,i,bz x,x.args⟩ _ h7 u7 vq (Vx hVW3 hW7) pre j7 (hu7.mono (zK (bL hle6) Vw)) (cq.2.mono (H4 hle7))) ?_;rintro _ h8 j8;exact hK3 () _ _ rfl rfl ⟨_,hW7,by rw[fJ,<-List.append_assoc,hpt];exact j8⟩
  rintro _ h5 ⟨W5,hW5,j5⟩;simp;subst hz;have hW5h:=Vx hW5 (hJ.le j5);simp[ae hW5h bi.1,(bi.2.mono hW5h).len,ae hW5h ba.1];have pre:(thTo f b++rows (phiT f b) (nth f.blocks b).phis.length++rows (insT f b) (nth f.blocks b).ins.length)++[endT f b] <+: aC f:=by rw[Sk,Sk,<-List.append_assoc (rows _ _)];exact hpre
  refine bW (ops:=[.tmp 70,.tmp 73,.const (VE VD 0 0),.tmp 76]) rfl hg (hstep _ ⟨b,(nth f.blocks b).ins.length,[],(nth f.blocks b).term.args⟩ _ h5 (VE VD 0 0) va (Vx hVW3 hW5) pre j5 aL (ba.2.mono hW5)) ?_;rintro _ h6 j6;refine hK2 () _ _ rfl rfl ⟨_,Vx hVW3 hW5,?_⟩;have e:thTo f (b+1)=(thTo f b++rows (phiT f b) (nth f.blocks b).phis.length++rows (insT f b) (nth f.blocks b).ins.length)++[endT f b]:=by rw[fS,thB];simp[Sk]
  rw[e];exact j6
 rintro _ h2 ⟨W2,hW2,j2⟩;simp;exact hK _ _ ⟨W2,hW2,j2⟩
def dk(top n:Int):Int:=if cr n 0 8191 then(if top<n+1 then n+1 else top) else top
def oP(top:Int)(t:Th):Int:=t.mks.foldl dk top
def fZ(ps:Int):Int:=if 8192<(if ps<0 then 0 else ps) then 8192 else(if ps<0 then 0 else ps)
def topS(f:ak):Int:=(aC f).foldl oP (fZ f.params)
theorem uU{top n:Int}(h:0<=top/\top<=8192):0<=dk top n/\dk top n<=8192:=by
 unfold dk;split
 ·rename_i hw;simp only[cr,Se,decide_eq_true_eq]at hw;split<;>omega
 exact h
theorem iN{α β:Type}(I:β->Prop){f:β->α->β}(hf : ∀x a,I x->I (f x a)) : ∀(l:List α) (x:β),I x->I (l.foldl f x)
 | [],_,h=>h
 | a::l,x,h=>iN I hf l _ (hf x a h)
theorem za{top:Int}{t:Th}(h:0<=top/\top<=8192):0<=oP top t/\oP top t<=8192:=iN (λx=>0<=x/\x<=8192) (λ_ _ h=>uU h) _ _ h
theorem uS{ps:Int}:0<=fZ ps/\fZ ps<=8192:=by unfold fZ;split<;>split<;>omega
theorem Cq{f:ak}:0<=topS f/\topS f<=8192:=iN (λx=>0<=x/\x<=8192) (λ_ _ h=>za h) _ _ uS
structure Nv(D:Nat)(T:TypeId)(x:Int)(W:View)(h:Heap):Prop where
 le:W.le (vw h)
 av:W D=VD
 cell:h[D]? = VC (.cells #[Vz VA x] T (0,0))
theorem Nv.lt{D:Nat}{T:TypeId}{x:Int}{W:View}{h:Heap}(k:Nv D T x W h):D<h.size:=(Sj.1 k.cell).1
theorem Nv.ext{D:Nat}{T:TypeId}{x:Int}{W:View}{h h':Heap}(k:Nv D T x W h)(hle:(vw h).le (vw h')):Nv D T x (grow W h h') h':=
 ⟨km (Vx k.le hle),by rw[hZ k.lt];exact k.av,hle _ _ k.cell⟩
variable{W:View}
theorem Nv.read{D:Nat}{T:TypeId}{x:Int}{h:Heap}(k:Nv D T x W h):aq (vw h) ⟨D,0,VD⟩=VC (Vz VA x):=df (show vw h D=_ from k.cell) rfl
theorem Nv.put{po:OP}{P:Program}{t ty:TypeId}{x y:Operand}{us:List (Nat × Value)}{D:Nat}{T:TypeId}{a b:Int}{h:Heap}{K:Value->Heap->Prop}(k:Nv D T a W h)(hsz:da P t=VC 1)(hx:asg us x = ptz D)(hy:asg us y = Vz VA b)(hK : ∀h',Nv D T b W h'->K undef h'):Lft.step P (.store t x y) ty us h K:=by
 refine eJ (g:=D) (o:=0) (n:=1) (v:=Vz VA b) hsz hx hy rfl Vr k.cell V5 λh' hs ⟨row,hr,he⟩ ho=>hK h' ⟨λc o hc=>?_,k.av,?_⟩
 ·have hne:c≠D:=λe=>by rw[e,k.av]at hc;cases hc
  show h'[c]? = _;rw[ho c hne];exact k.le c o hc
 rw[one_cell rfl rfl he]at hr;exact hr
theorem MG{D:Nat}{x blk place:Int}{ms:List Int}{vm vt:Value}{h:Heap}(k:Nv D T.int x W h)(hx:0<=x/\x<=8192)(hm:SlRd W vm ms):
  ay VI 95 #[Vz VA blk,Vz VA place,vm,vt,ptz D] h (λ_ h2=>Nv D T.int (ms.foldl dk x) W h2):=by
 refine ao (args:=[Vz VA blk,Vz VA place,vm,vt,ptz D]) follows Tryz.func95 E.eF Vu λK hK=>?_;have bm:=hm.bound;simp[L.eF,(hm.mono k.le).len];refine aF [4,11,12,13] (fun(_:Unit) i=>[ptz D,vm,Vz VA ms.length,Vz VA i]) (λ_ i h1=>Nv D T.int ((ms.take i).foldl dk x) W h1) ms.length ()
  rfl V4 rfl k (λ_ _=>rfl) (λv i h1 hk m=>by simp) ?_ ?_
 ·rintro _ i h1 hlt k1 K2 hK2;have hm1:=hm.mono k1.le;have hst:(ms.take (i+1)).foldl dk x=dk ((ms.take i).foldl dk x) (nth ms i):=by rw[Si hlt,SY,az hlt];rfl
  have hb:=iN (f:=dk) (λx=>0<=x/\x<=8192) (λ_ _ h=>uU h) (ms.take i) x hx;generalize (ms.take i).foldl dk x=y at k1 hst hb;refine aa λz hz=>?_;simp(disch:=omega)[hm1.idx1 rfl,hm1.int Vw];subst hz;refine aa λz hz=>?_;simp;refine ah V0 kL ?_;rintro _ _ ⟨rfl,rfl⟩;subst hz;cases hw:cr (nth ms i) 0 8191 with
  | false=>simp;exact hK2 () _ _ rfl rfl (by rw[hst,dk,hw];exact k1)
  | true=>have hw':=hw;simp only[cr,Se,decide_eq_true_eq]at hw';simp(disch:=omega)[k1.read];refine k1.put V0 rfl rfl λh2 k2=>?_;exact hK2 () _ _ rfl rfl (by rw[hst,dk,hw];exact k2)
 rintro _ h1 k1;rw[SF]at k1;simp;exact hK _ _ k1
theorem PW{f:ak}{v:Value}{h:Heap}(hv:Rd (vw h) v f)(hsm:SmF f):ay VI 47 #[v] h (λu h'=>u = Vz VA (topS f)/\(vw h).le (vw h')):=by
 refine ao (args:=[v]) follows Tryz.func47 E.ti Vu λK hK=>?_;dsimp only[L.ti,lkF,lkG];refine aa λz hz=>?_;simp;refine eI rfl hv λh1 e1 hle1 hs1 hat=>?_;obtain⟨cp,vb,cb⟩:=fh hat;obtain⟨u,hu,hur⟩:=hat.bI rfl;have hu:Un.ev (vw h1) (.bI 2) (ptz h.size)=VC u:=hu;generalize h.size=B at cp cb hu;subst hz;refine aa λz hz=>?_;simp[cp];refine gA (n:=1) (z:=Vz VA 0) (v:=Vz VA (fZ f.params)) V0 rfl V0 rfl Vr V8 (λ_=>by simp[fZ]) λh2 hle2 hs2 hb2=>?_;have hu2:Un.ev (vw h2) (.bI 2) (ptz B)=VC u:=by have:=dW (ρ:=λ_=>VD) (e:=.un (.bI 2) (.con (ptz B))) hle2 (v:=u) (by simpa using hu);simpa using this
 subst hz;refine aa λz hz=>?_;simp[hu2];have hN:Nv h1.size T.int (fZ f.params) (vw h1) h2:=⟨hle2,by simp[vw],hb2⟩;refine ah V0 (BM (caps:=[ptz h1.size]) (J:=λl W h=>Nv h1.size T.int (l.foldl oP (fZ f.params)) W h) hur hsm ⟨λk=>k.le,λk hle=>k.ext hle⟩ V0 hN λl t W h3 vm vt hVW _ k hm ht=>?_) ?_
 ·have:=iN (f:=oP) (λx=>0<=x/\x<=8192) (λ_ _ h=>za h) l _ (uS (ps:=f.params));refine(MG k this hm).mono λ_ h4 k4=>?_;rw[SY];exact k4
 rintro _ h3 ⟨W,hVW,k⟩;subst hz;simp[k.read];exact hK _ _ ⟨rfl,Vx hle1 (Vx hVW k.le)⟩
theorem Ao{β:Type}{x:Nat->β}{n:Nat}{y:β}:y∈rows x n↔∃i,i<n/\y=x i:=by simp only[rows,SZ,TA];exact⟨λ⟨i,h,e⟩=>⟨i,h,e.symm⟩,λ⟨i,h,e⟩=>⟨i,h,e.symm⟩⟩
theorem fe{f:ak}{n:Nat}{t:Th}:t∈thTo f n↔∃b,b<n/\t∈thB f b:=by
 induction n with
 | zero=>simp[thTo,up]
 | succ n ih=>
  rw[fS,R1,ih];constructor
  ·rintro(⟨b,h1,h2⟩ | h)
   ·exact⟨b,by omega,h2⟩
   exact⟨n,by omega,h⟩
  rintro⟨b,h1,h2⟩;rcases Sb b n with h | h
  ·exact .inl ⟨b,h,h2⟩
  rw[show b=n by omega]at h2;exact .inr h2
theorem gC{f:ak}{b:Nat}{t:Th}:t∈thB f b↔(∃i,i<(nth f.blocks b).phis.length/\t=phiT f b i)\/(∃i,i<(nth f.blocks b).ins.length/\t=insT f b i)\/t=endT f b:=by simp only[thB,R1,Ao,RY,or_assoc]
theorem Gh{i:InsD}:(bz i).length<=2:=by unfold bz;split<;>(try split)<;>simp
structure ThOk(f:ak)(t:Th):Prop where
 blk:0<=t.blk/\t.blk<f.blocks.length
 place:-10000<=t.place/\t.place<=10000
 mks:t.mks.length<=10000
 tks:t.tks.length<=10000
 ins:0<=t.place->t.mks≠[]->t.place<(nth f.blocks t.blk.toNat).ins.length
theorem Ef{f:ak}(hsm:SmF f){t:Th}(h:t∈aC f):ThOk f t:=by
 obtain⟨b,hb,h⟩:=fe.1 h;have s:=hsm.blk b hb;have sp:=s.phis;have si:=s.ins;rcases gC.1 h with⟨i,hi,rfl⟩ | ⟨i,hi,rfl⟩ | rfl
 ·exact⟨⟨by simp[phiT],by simp[phiT];omega⟩,by simp only[phiT];omega,by simp[phiT],by simpa[phiT]using s.phi i hi,λh=>by simp only[phiT]at h;omega⟩
 ·refine⟨⟨by simp[insT],by simp[insT];omega⟩,by simp only[insT];omega,St Gh V6,s.inn i hi,λ_ _=>by simp[insT];omega⟩
 exact⟨⟨by simp[endT],by simp[endT];omega⟩,by simp only[endT];omega,by simp[endT],s.args,λ_ h=>absurd rfl h⟩
theorem Ad{f:ak}(hsm:SmF f) : ∀{n:Nat},n<=f.blocks.length->(thTo f n).length<=n*20001
 | 0,_=>by simp[thTo,up]
 | n+1,h=>by have ih:=Ad hsm (n:=n) V4;have s:=hsm.blk n V4;have sp:=s.phis;have si:=s.ins;rw[fS,Sf,thB];simp only[Sf,qd,Su];omega
theorem F2{f:ak}(hsm:SmF f):(aC f).length<=200010000:=by have:=Ad hsm (RX f.blocks.length);have:=hsm.len;unfold aC;omega
abbrev WL:=List (Int × Int)
def cy(val:Int)(w:Int × Int)(l:WL)(n:Int):WL:=if n=val then l++[w] else l
def CW(val:Int)(l:WL)(t:Th):WL:=t.mks.foldl (cy val (t.blk,t.place)) l
def tg(val:Int)(l:WL)(t:Th):WL:=t.tks.foldl (cy val (t.blk,t.place)) l
variable{val:Int}
theorem mM{w:Int × Int}{ns:List Int}: ∀{l:WL},(ns.foldl (cy val w) l).length<=l.length+ns.length:=by
 induction ns with
 | nil=>simp
 | cons n ns ih=>
  intro l;rw[Sx];have:=ih (l:=cy val w l n);have h2:(cy val w l n).length<=l.length+1:=by unfold cy;split<;>simp
  simp only[SL];omega
theorem zY{F:WL->Th->WL}{c:Nat}{l:List Th}(h : ∀t∈l,∀x,(F x t).length<=x.length+c): ∀(x:WL),(l.foldl F x).length<=x.length+l.length*c:=by
 induction l with
 | nil=>simp
 | cons t l ih=>intro x;rw[Sx];have h1:=ih (λt ht=>h t (Sa _ ht)) (F x t);have h2:=h t (Sg ..) x;simp only[SL,S5];omega
def vY(B1:Nat)(v1:Value)(l1:WL)(B2:Nat)(v2:Value)(l2:WL):Own:=λk=>if k=(0,0) then bx T.bZ B1 (Raw.mk v1) else if k=(0,1) then it T.kK v1 l1 else if k=(1,0) then bx T.bZ B2 (Raw.mk v2) else if k=(1,1) then it T.kK v2 l2 else VD
structure Fo(val:Int)(C B1 B2:Nat)(l1 l2:WL)(W:View)(h:Heap):Prop where
 box:aq W ⟨C,0,VD⟩=VC (Vz VA val)
 ex : ∃v1 v2,Owns W h (vY B1 v1 l1 B2 v2 l2)
theorem Fo.le{val:Int}{C B1 B2:Nat}{l1 l2:WL}{W:View}{h:Heap}(k:Fo val C B1 B2 l1 l2 W h):W.le (vw h):=let ⟨_,_,w⟩:=k.ex;w.wle
theorem Fo.ext{val:Int}{C B1 B2:Nat}{l1 l2:WL}{W:View}{h h':Heap}(k:Fo val C B1 B2 l1 l2 W h)(hle:(vw h).le (vw h')):Fo val C B1 B2 l1 l2 (grow W h h') h':=
 ⟨ae (bC k.le) k.box,let ⟨v1,v2,w⟩:=k.ex;⟨v1,v2,w.ext hle⟩⟩
theorem KW{blk place:Int}{C B1 B2:Nat}{l1 l2:WL}{ms ts:List Int}{vm vt:Value}{h:Heap}(k:Fo val C B1 B2 l1 l2 W h)(hm:SlRd W vm ms)(ht:SlRd W vt ts)(r1:-10000<=blk/\blk<=10000)(r2:-10000<=place/\place<=10000)(b1:l1.length+ms.length<=2000100000000)(b2:l2.length+ts.length<=2000100000000):
  ay VI 136 #[Vz VA blk,Vz VA place,vm,vt,ptz C,ptz B1,ptz B2] h
   (λ_ h2=>Fo val C B1 B2 (ms.foldl (cy val (blk,place)) l1) (ts.foldl (cy val (blk,place)) l2) W h2):=by
 refine ao (args:=[Vz VA blk,Vz VA place,vm,vt,ptz C,ptz B1,ptz B2]) follows Tryz.func136 E.bV Vu λK hK=>?_;have bm:=hm.bound;have bt:=ht.bound;dsimp only[L.bV,lkF,lkG];refine aa λz hz=>?_;simp[(hm.mono k.le).len];refine aF [0,1,3,4,5,6,15,16,17] (fun(_:Unit) i=>[Vz VA blk,Vz VA place,vt,ptz C,ptz B1,ptz B2,vm,Vz VA ms.length,Vz VA i])
  (λ_ i h1=>Fo val C B1 B2 ((ms.take i).foldl (cy val (blk,place)) l1) l2 W h1) ms.length ()
  rfl V4 rfl k (λ_ _=>rfl) (λv i h1 hk m=>by simp) ?_ ?_
 ·rintro _ i h1 hlt k1 K2 hK2;have hm1:=hm.mono k1.le;have hst:(ms.take (i+1)).foldl (cy val (blk,place)) l1=cy val (blk,place) ((ms.take i).foldl (cy val (blk,place)) l1) (nth ms i):=by rw[Si hlt,SY,az hlt];rfl
  have hlen:=mM (val:=val) (w:=(blk,place)) (ns:=ms.take i) (l:=l1);rw[SH]at hlen;generalize (ms.take i).foldl (cy val (blk,place)) l1=y at k1 hst hlen;refine aa λz hz=>?_;simp(disch:=omega)[hm1.idx1 rfl,hm1.int Vw];subst hz;refine aa λz hz=>?_;simp[ae k1.le k1.box];subst hz;by_cases he:nth ms i=val
  ·rw[cy,if_pos he]at hst;obtain⟨v1,v2,w⟩:=k1.ex;have hbx:=(w.at (k:=(0,0)) (d:=Raw.mk v1) (B:=B1) (e:=T.bZ) rfl).raw;simp[he,hbx];refine aA (z:=zz1) (places:=zpd) (vs:=[(0,Vz VA blk),(1,Vz VA place)]) (cs:=#[Vz VA blk,Vz VA place]) V0 V0 V5 V0 ?_;refine w.fW (k:=(0,1)) (α:=Int × Int) (d:=(blk,place)) rfl El.bZ rfl (tq.2 ⟨rfl,V9,by omega,by omega⟩) V4 V4 (λ_=>rfl) (λ_=>rfl) λu v' h2 w2 hs2=>?_;have hc:=w2.cells (k:=(0,1)) (Own.an);refine w2.cz (k:=(0,0)) (D:=Raw.mk v1) (B:=B1) (e:=T.bZ) (Part.all) (d:=Raw.mk v') rfl V0 rfl rfl (iT.2 ⟨rfl,hc.2⟩) λh3 w3 hs3=>?_;refine hK2 () _ _ rfl rfl ⟨k1.box,v',v2,w3.congr λq=>?_⟩;rw[hst];unfold vY Own.upd;repeat' split
   all_goals first | rfl | simp_all
  rw[cy,if_neg he]at hst;simp[he];exact hK2 () _ _ rfl rfl (by rw[hst];exact k1)
 rintro _ h1 k1;rw[SF]at k1;simp;subst hz;simp[(ht.mono k1.le).len];generalize ms.foldl (cy val (blk,place)) l1=m1 at k1 hK;refine aF [0,1,4,5,6,31,32,33] (fun(_:Unit) i=>[Vz VA blk,Vz VA place,ptz C,ptz B1,ptz B2,vt,Vz VA ts.length,Vz VA i])
  (λ_ i h2=>Fo val C B1 B2 m1 ((ts.take i).foldl (cy val (blk,place)) l2) W h2) ts.length ()
  rfl V4 rfl k1 (λ_ _=>rfl) (λv i h1 hk m=>by simp) ?_ ?_
 ·rintro _ i h2 hlt k2 K2 hK2;have ht2:=ht.mono k2.le;have hst:(ts.take (i+1)).foldl (cy val (blk,place)) l2=cy val (blk,place) ((ts.take i).foldl (cy val (blk,place)) l2) (nth ts i):=by rw[Si hlt,SY,az hlt];rfl
  have hlen:=mM (val:=val) (w:=(blk,place)) (ns:=ts.take i) (l:=l2);rw[SH]at hlen;generalize (ts.take i).foldl (cy val (blk,place)) l2=y at k2 hst hlen;refine aa λz hz=>?_;simp(disch:=omega)[ht2.idx1 rfl,ht2.int Vw];subst hz;refine aa λz hz=>?_;simp[ae k2.le k2.box];subst hz;by_cases he:nth ts i=val
  ·rw[cy,if_pos he]at hst;obtain⟨v1,v2,w⟩:=k2.ex;have hbx:=(w.at (k:=(1,0)) (d:=Raw.mk v2) (B:=B2) (e:=T.bZ) rfl).raw;simp[he,hbx];refine aA (z:=zz1) (places:=zpd) (vs:=[(0,Vz VA blk),(1,Vz VA place)]) (cs:=#[Vz VA blk,Vz VA place]) V0 V0 V5 V0 ?_;refine w.fW (k:=(1,1)) (α:=Int × Int) (d:=(blk,place)) rfl El.bZ rfl (tq.2 ⟨rfl,V9,by omega,by omega⟩) V4 V4 (λ_=>rfl) (λ_=>rfl) λu v' h3 w2 hs2=>?_;have hc:=w2.cells (k:=(1,1)) (Own.an);refine w2.cz (k:=(1,0)) (D:=Raw.mk v2) (B:=B2) (e:=T.bZ) (Part.all) (d:=Raw.mk v') rfl V0 rfl rfl (iT.2 ⟨rfl,hc.2⟩) λh4 w3 hs3=>?_;refine hK2 () _ _ rfl rfl ⟨k2.box,v1,v',w3.congr λq=>?_⟩;rw[hst];unfold vY Own.upd;repeat' split
   all_goals first | rfl | simp_all
  rw[cy,if_neg he]at hst;simp[he];exact hK2 () _ _ rfl rfl (by rw[hst];exact k2)
 rintro _ h2 k2;rw[SF]at k2;simp;exact hK _ _ k2
def lJ(val:Int)(l:List Th):WL:=l.foldl (CW val) []
def kD(val:Int)(l:List Th):WL:=l.foldl (tg val) []
def nB(l1 l2:WL):Bool:=!decide (l1.length=1)||!decide (l2.length=1)||decide ((nth l1 0).2<0)||!decide ((nth l1 0).1=(nth l2 0).1)||decide ((nth l2 0).2<=(nth l1 0).2)
def jw(f:ak)(val:Int)(l1 l2:WL):Bool:=!nB l1 l2&&(decide ((nth (nth f.blocks (nth l1 0).1.toNat).ins (nth l1 0).2.toNat).dst=val)&&[1,2,4,11,12,13].contains (nth (nth f.blocks (nth l1 0).1.toNat).ins (nth l1 0).2.toNat).op)
def cJ(f:ak)(val:Int):Bool:=jw f val (lJ val (aC f)) (kD val (aC f))
theorem tU{w x:Int × Int}{ns:List Int}: ∀{l:WL},x∈ns.foldl (cy val w) l↔x∈l\/(x=w/\val∈ns):=by
 induction ns with
 | nil=>simp
 | cons n ns ih=>intro l;rw[Sx,ih,cy];grind
theorem lE{x:Int × Int}{l:List Th}: ∀{y:WL},x∈l.foldl (CW val) y↔x∈y\/∃t∈l,x=(t.blk,t.place)/\val∈t.mks:=by
 induction l with
 | nil=>simp
 | cons t l ih=>
  intro y;rw[Sx,ih,CW,tU];simp only[Sp,exists_eq_or_imp];constructor
  ·rintro((h | h) | h)
   ·exact .inl h
   ·exact .inr (.inl h)
   exact .inr (.inr h)
  rintro(h | h | h)
  ·exact .inl (.inl h)
  ·exact .inl (.inr h)
  exact .inr h
theorem ta{f:ak}{v:Value}{h:Heap}(hv:Rd (vw h) v f)(hsm:SmF f)(hval:I64 val):ay VI 90 #[v,Vz VA val] h (λu h'=>u = .bool (cJ f val)/\(vw h).le (vw h')):=by
 refine ao (args:=[v,Vz VA val]) follows Tryz.func90 E.ll Vu λK hK=>?_;dsimp only[L.ll,lkF,lkG];refine aa λz hz=>?_;simp;refine eI rfl hv λh1 e1 hle1 hs1 hat=>?_;refine eI (α:=Int) rfl (bu.2 ⟨rfl,hval⟩) λh2 e2 hle2 hs2 hat2=>?_;have hatf:=hat.mono hle2;obtain⟨u,hu,hur⟩:=hatf.bI rfl;have hu:Un.ev (vw h2) (.bI 2) (ptz h.size)=VC u:=hu;obtain⟨cp,vb,cb⟩:=fh hatf;have cval:=hat2.int;generalize hB:h.size=B at hu cp cb;generalize hC:h1.size=C at cval;subst hz;refine aa λz hz=>?_;simp;refine dQ (z:=VE VD 0 0) V0 ?_;refine dQ (z:=VE VD 0 0) V0 ?_;have q1:=b8 h2 (.cells (VE VD 0 0).cells T.bZ);generalize e3:h2.push (.cells (VE VD 0 0).cells T.bZ)=h3 at q1;have b3:h3[h2.size]? = VC (.cells (VE VD 0 0).cells T.bZ (0,0)):=by rw[<-e3];simp
 have s3:h3.size=h2.size+1:=by rw[<-e3];simp
 have q2:=b8 h3 (.cells (VE VD 0 0).cells T.bZ);generalize e4:h3.push (.cells (VE VD 0 0).cells T.bZ)=h4 at q2;have b4:h4[h3.size]? = VC (.cells (VE VD 0 0).cells T.bZ (0,0)):=by rw[<-e4];simp
 have hle24:=Vx q1 q2;have w0:Owns (vw h2) h4 (vY h2.size (VE VD 0 0) [] h3.size (VE VD 0 0) []):=by
  have w1:=(Owns.start (h:=h2) (View.le_refl (vw h2))).add (k:=(0,0)) rfl (iL (h:=h3) (e:=T.bZ) (d:=Raw.mk (VE VD 0 0)) b3 (iT.2 ⟨rfl,rfl⟩) V6) q1 (λb hb=>by simp only[Value.ownBlock,RW]at hb;omega);have w2:=w1.add (k:=(1,0)) rfl (iL (h:=h4) (e:=T.bZ) (d:=Raw.mk (VE VD 0 0)) b4 (iT.2 ⟨rfl,rfl⟩) V6) q2 (λb hb=>by simp only[Value.ownBlock,RW]at hb;omega);have w3:=w2.add (k:=(0,1)) rfl (OwnT.nil (α:=Int × Int) (vw h2) h4 T.kK) Vw (λb hb=>by simp[Value.ownBlock]at hb);have w4:=w3.add (k:=(1,1)) rfl (OwnT.nil (α:=Int × Int) (vw h2) h4 T.kK) Vw (λb hb=>by simp[Value.ownBlock]at hb);refine w4.congr λq=>?_;unfold vY Own.upd;repeat' split
  all_goals first | rfl | simp_all
 have k0:Fo val C h2.size h3.size [] [] (vw h2) h4:=⟨cval,_,_,w0⟩;have hu4:Un.ev (vw h4) (.bI 2) (ptz B)=VC u:=by have:=dW (ρ:=λ_=>VD) (e:=.un (.bI 2) (.con (ptz B))) hle24 (v:=u) (by simpa using hu);simpa using this
 generalize h2.size=B1 at k0;generalize h3.size=B2 at k0;subst hz;refine aa λz hz=>?_;simp[hu4];have hml:=F2 hsm;refine ah V0 (BM (caps:=[ptz C,ptz B1,ptz B2]) (J:=λl W h=>Fo val C B1 B2 (lJ val l) (kD val l) W h) hur hsm ⟨λk=>k.le,λk hle=>k.ext hle⟩ V0 k0 λl t W h5 vm vt hVW hpre k hm ht=>?_) ?_
 ·have hmem : ∀x∈l++[t],ThOk f x:=λx hx=>Ef hsm (hpre.subset hx);have hll:=hpre.length_le;rw[Sf,Su]at hll;have ot:=hmem t V5;have hl:=hsm.len;have c1:=zY (F:=CW val) (c:=10000) (l:=l) (λt ht x=>St mM (UW (hmem t (by simp[ht])).mks _)) [];have c2:=zY (F:=tg val) (c:=10000) (l:=l) (λt ht x=>St mM (UW (hmem t (by simp[ht])).tks _)) [];have c1':(lJ val l).length<=l.length*10000:=by simpa[lJ]using c1
  have c2':(kD val l).length<=l.length*10000:=by simpa[kD]using c2
  have o1:=ot.mks;have o2:=ot.tks;have ob:=ot.blk;refine(KW k hm ht V4 ot.place V4 V4).mono λ_ h6 k6=>?_;have e1:lJ val (l++[t])=t.mks.foldl (cy val (t.blk,t.place)) (lJ val l):=by rw[lJ,SY];rfl
  have e2:kD val (l++[t])=t.tks.foldl (cy val (t.blk,t.place)) (kD val l):=by rw[kD,SY];rfl
  simp only[e1,e2];exact k6
 rintro _ h5 ⟨W,hVW,k⟩;have hin : ∀w∈lJ val (aC f),0<=w.1/\w.1<f.blocks.length/\(0<=w.2->w.2<(nth f.blocks w.1.toNat).ins.length):=by
  intro w hw;rcases lE.1 hw with h | ⟨t,ht,rfl,hv⟩
  ·cases h
  have ot:=Ef hsm ht;exact⟨ot.blk.1,ot.blk.2,λh=>ot.ins h (λe=>by rw[e]at hv;cases hv)⟩
 have hfs:cJ f val=jw f val (lJ val (aC f)) (kD val (aC f)):=rfl;rw[hfs]at hK;generalize lJ val (aC f)=l1 at k hin hK;generalize kD val (aC f)=l2 at k hK;obtain⟨v1,v2,w⟩:=k.ex;have hb1:=(w.at (k:=(0,0)) (d:=Raw.mk v1) (B:=B1) (e:=T.bZ) rfl).raw;have hb2:=(w.at (k:=(1,0)) (d:=Raw.mk v2) (B:=B2) (e:=T.bZ) rfl).raw;have n1:=w.now (k:=(0,1)) (v:=v1) (l:=l1) rfl;have n2:=w.now (k:=(1,1)) (v:=v2) (l:=l2) rfl;have hle5:=Vx hVW w.wle;have hle:=Vx hle1 (Vx hle2 hle5);have cb5:=cb.2.mono hle5;have cc5:=ae hle5 cb.1;have cv5:=ae hle5 cval;subst hz;refine aa λz hz=>?_;have no:nB l1 l2=VG->K (.bool VH) h5:=λe=>hK _ _ ⟨by rw[jw,e];rfl,hle⟩;by_cases hA:l1.length=1
 ·by_cases hB2:l2.length=1
  ·have i1 : ∀kd,Bn.ev (.idx 2) v1 (.int kd 0)=VC (VF (VC (slA v1))):=λkd=>by have:=n1.idxn (N:=2) rfl (k:=kd) (i:=0) V4 V4;simpa[Addr.add]using this
   have i2 : ∀kd,Bn.ev (.idx 2) v2 (.int kd 0)=VC (VF (VC (slA v2))):=λkd=>by have:=n2.idxn (N:=2) rfl (k:=kd) (i:=0) V4 V4;simpa[Addr.add]using this
   obtain⟨a0,a1⟩:=n1.He Vw (i:=0) V4;obtain⟨d0,d1⟩:=n2.He Vw (i:=0) V4;have z1 : ∀a:Addr,a.add (0*2)=a:=λa=>by simp[Addr.add]
   rw[z1]at a0 a1 d0 d1;have hw:=hin (nth l1 0) (bh V4);have hbad:nB l1 l2=(decide ((nth l1 0).2<0)||!decide ((nth l1 0).1=(nth l2 0).1)||decide ((nth l2 0).2<=(nth l1 0).2)):=by simp[nB,hA,hB2]
   rw[hbad]at no;have hfb:jw f val l1 l2=(!(decide ((nth l1 0).2<0)||!decide ((nth l1 0).1=(nth l2 0).1)||decide ((nth l2 0).2<=(nth l1 0).2))&&(decide ((nth (nth f.blocks (nth l1 0).1.toNat).ins (nth l1 0).2.toNat).dst=val)&&[1,2,4,11,12,13].contains (nth (nth f.blocks (nth l1 0).1.toNat).ins (nth l1 0).2.toNat).op)):=by rw[jw,hbad]
   rw[hfb]at hK;generalize nth l1 0=w1 at a0 a1 hw no hK;generalize nth l2 0=w2 at d0 d1 no hK;by_cases c3:w1.2<0
   ·simp[hb1,hb2,n1.len,n2.len,hA,hB2,i1,i2,a0,a1,d0,d1,c3];exact no (by simp[c3])
   by_cases c4:w1.1=w2.1
   ·by_cases c5:w2.2<=w1.2
    ·simp[hb1,hb2,n1.len,n2.len,hA,hB2,i1,i2,a0,a1,d0,d1,c3,c4,c5];exact no (by simp[c5])
    have hs:(!(decide (w1.2<0)||!decide (w1.1=w2.1)||decide (w2.2<=w1.2)))=true:=by simp[c3,c4,c5]
    rw[hs,Ui]at hK;have hw2:=hw.2.2 V4;obtain⟨ul,hul⟩:=((cb5.at (i:=w1.1.toNat) V4).part BlkD.jm).sl;rw[<-az V4]at hul;have hul1:aq (vw h5) (((slA vb).add (w1.1.toNat*6)).add 1)=VC ul:=hul.1;obtain⟨ui,hui,huir⟩:=hul.2.wh rfl (N:=5) rfl (i:=w1.2.toNat) V4;have hli:=hul.2;generalize nth (nth f.blocks w1.1.toNat).ins w1.2.toNat=x at huir hK;simp[hb1,hb2,n1.len,n2.len,hA,hB2,i1,i2,a0,a1,d0,d1,c3,c5,<-c4];subst hz;refine aa λz hz=>?_;have z0 : ∀a:Addr,a.add 0=a:=λa=>by simp[Addr.add]
    refine aN (vw h5) Vw ?_;simp(disch:=omega)[hb1,i1,a0,a1,cc5,cb5.idxn (N:=6) rfl,hul1,hli.idxn (N:=5) rfl,hui _ Vw];refine dQ (z:=zz5) V0 ?_;have hle6:=b8 h5 (.cells (Value.cells (.agg #[Vz VA 0,Vz VA 0,Vz VA 0,VE VD 0 0,Vz VB 0])) T.fj);have hb6:(h5.push (.cells (Value.cells (.agg #[Vz VA 0,Vz VA 0,Vz VA 0,VE VD 0 0,Vz VB 0])) T.fj))[h5.size]? = VC (.cells (Value.cells (.agg #[Vz VA 0,Vz VA 0,Vz VA 0,VE VD 0 0,Vz VB 0])) T.fj (0,0)):=by simp
    generalize h5.push (.cells (Value.cells (.agg #[Vz VA 0,Vz VA 0,Vz VA 0,VE VD 0 0,Vz VB 0])) T.fj)=h6 at hle6 hb6;refine⟨hle6,?_⟩;obtain⟨g1,g2,g3⟩:=gn huir;refine eJ (g:=h5.size) (o:=0) (n:=5) (v:=ui) V0 rfl rfl g2 g3 hb6 V5 λh7 hs7 ⟨row,hr7,he7⟩ ho7=>?_;have hrow:row=ui.cells:=by have g2':ui.cells.size=5:=g2;rw[<-Array.toList_inj,he7];simp
    rw[hrow]at hr7;have hle7:(vw h5).le (vw h7):=λb o hb=>by have hlt:=View.lt (View.le_refl (vw h5)) hb;show h7[b]? = _;rw[ho7 b V4];exact hle6 b o hb
    have hat7:At (vw h7) ⟨h5.size,0,VD⟩ x:=rh (show vw h7 h5.size=_ from hr7) (huir.mono hle7);obtain⟨q0,q1,_⟩:=nC hat7;have ro:=(hat7.part InsD.xG).rng;generalize h5.size=D at q0 q1;subst hz;have cv7:=ae hle7 cv5;refine aa λz hz=>?_;by_cases c6:x.dst=val
    ·simp[q0,q1,cv7,c6];refine nJ (α:=Int) (X:=nothing) (ds:=[1,2,4,11,12,13]) (vs:=[Vz VA 1,Vz VA 2,Vz VA 4,Vz VA 11,Vz VA 12,Vz VA 13]) rfl El.aZ V5 ⟨sB V4 V4,sB V4 V4,sB V4 V4,sB V4 V4,sB V4 V4,sB V4 V4,trivial⟩ cB rfl V4 λu8 h8 hle8 hsz8 hu8 _=>?_;simp[ae hle8 q0];refine ah V0 (yx (hu8 (vw h8) cB rfl)) ?_;rintro _ _ ⟨rfl,rfl⟩;simp;subst hz;simp;exact hK _ _ ⟨by simp[c6],Vx hle (Vx hle7 hle8)⟩
    simp[q0,q1,cv7,c6];subst hz;simp;exact hK _ _ ⟨by simp[c6],Vx hle hle7⟩
   simp[hb1,hb2,n1.len,n2.len,hA,hB2,i1,i2,a0,a1,d0,d1,c3,c4];exact no (by simp[c4])
  have hB3:¬(l2.length:Int)=1:=by omega
  simp[hb1,hb2,n1.len,n2.len,hA,hB3];exact no (by simp[nB,hB2])
 have hA3:¬(l1.length:Int)=1:=by omega
 simp[hb1,hb2,n1.len,n2.len,hA3];exact no (by simp[nB,hA])
end Go.Lft
namespace Go.Lft
structure aU where
 op:Int
 d:Int
 e:Int
 a:Int
 b:Int
 c:Int
 imm:I32
 args:List Int
 deriving Inhabited,DecidableEq
instance:Rep aU:=Rep.via λx=>Cat.mk x.op (Cat.mk x.d (Cat.mk x.e (Cat.mk x.a (Cat.mk x.b (Cat.mk x.c (Cat.mk x.imm x.args))))))
structure EndD where
 op:Int
 a:Int
 b:Int
 to:List Int
 imm:I32
 deriving Inhabited,DecidableEq
instance:Rep EndD:=Rep.via λx=>Cat.mk x.op (Cat.mk x.a (Cat.mk x.b (Cat.mk x.to x.imm)))
structure FitD where
 takes:List Int
 inner:List Int
 code:List aU
 fin:EndD
 deriving Inhabited,DecidableEq
instance:Rep FitD:=Rep.via λx=>Cat.mk x.takes (Cat.mk x.inner (Cat.mk x.code x.fin))
structure cG where
 f:ak
 i:InsD
 t:db
 term:Bool
 temp:Int
instance:Rep cG:=Rep.via λx=>Cat.mk x.f (Cat.mk x.i (Cat.mk x.t (Cat.mk x.term x.temp)))
structure aS where
 pat:Int
 cost:Int
 deriving Inhabited,DecidableEq
instance:Rep aS:=Rep.via λx=>Cat.mk x.pat x.cost
def ft(f:ak):List InsD:=f.blocks.flatMap BlkD.ins
def jQ(v:Int)(i:InsD):Bool:=!decide (i.op=16)&&decide (i.dst=v)
def rC(f:ak)(v:Int):Option InsD:=(ft f).find? (jQ v)
def iH:InsD:=⟨0,0,0,[],⟨0⟩⟩
def PF(f:ak)(v op:Int):Option InsD->InsD × Bool
 | none=>(iH,VH)
 | some i=>(i,decide (i.op=op)&&cJ f v)
def aK(f:ak)(v op:Int):InsD × Bool:=PF f v op (rC f v)
def inR(n lo hi:Int):Bool:=decide (lo<=n)&&decide (n<=hi)
def fu(f:ak)(v lo hi:Int):Int × Bool:=((aK f v 1).1.imm.v,(aK f v 1).2&&inR (aK f v 1).1.imm.v lo hi)
def cT:EndD:=⟨0,0,0,[],⟨0⟩⟩
def LS:FitD:=⟨[],[],[],cT⟩
def w32(n:Int):I32:=⟨IntKind.i32.wrap n⟩
def immS(f:ak)(i:InsD)(m lo hi sign:Int):Option FitD:=
 if(fu f (nth i.args 1) lo hi).2 then VC ⟨[nth i.args 0],[nth i.args 1],[⟨m,i.dst,0,nth i.args 0,0,0,w32 (sign*(fu f (nth i.args 1) lo hi).1),[]⟩],cT⟩ else VD
def gM(i:InsD)(op plain:Int)(m:aU):aU:=if op=15 then{ m with d:=i.dst } else if m.op=plain then{ m with b:=nth i.args 1 } else{ m with c:=nth i.args 1 }
def memS(f:ak)(i:InsD)(temp op plain sum:Int):Nat->Option FitD
 | 0=>if inR i.imm.v 0 255 then VC ⟨nth i.args 0::i.args.drop 1,[],[gM i op plain ⟨plain,0,0,nth i.args 0,0,0,i.imm,[]⟩],cT⟩ else VD
 | 1=>if(aK f (nth i.args 0) 2).2 then
   if(fu f (nth (aK f (nth i.args 0) 2).1.args 1) (-2147483648) 2147483647).2&&inR ((fu f (nth (aK f (nth i.args 0) 2).1.args 1) (-2147483648) 2147483647).1+i.imm.v) 0 255 then
    VC ⟨nth (aK f (nth i.args 0) 2).1.args 0::i.args.drop 1,[nth i.args 0,nth (aK f (nth i.args 0) 2).1.args 1],
     [gM i op plain ⟨plain,0,0,nth (aK f (nth i.args 0) 2).1.args 0,0,0,w32 ((fu f (nth (aK f (nth i.args 0) 2).1.args 1) (-2147483648) 2147483647).1+i.imm.v),[]⟩],cT⟩
   else VD
  else VD
 | 2=>if(aK f (nth i.args 0) 2).2&&decide (i.imm.v=0) then
   VC ⟨nth (aK f (nth i.args 0) 2).1.args 0::nth (aK f (nth i.args 0) 2).1.args 1::i.args.drop 1,[nth i.args 0],
    [gM i op plain ⟨sum,0,0,nth (aK f (nth i.args 0) 2).1.args 0,nth (aK f (nth i.args 0) 2).1.args 1,0,⟨0⟩,[]⟩],cT⟩
  else VD
 | _=>VC ⟨nth i.args 0::i.args.drop 1,[],[⟨4,temp,0,0,0,0,i.imm,[]⟩,gM i op plain ⟨sum,0,0,nth i.args 0,temp,0,⟨0⟩,[]⟩],cT⟩
def opOf(pat:Nat):Int:=
 if pat=1\/pat=2 then 1 else if 3<=pat/\pat<=15 then pat-1 else if pat=16\/pat=22 then 2 else if pat=17 then 3 else if pat=18 then 5 else if 19<=pat/\pat<=21 then pat-11
 else if 23<=pat/\pat<=26 then 15 else if 27<=pat/\pat<=30 then 16 else if pat=31 then 17 else if pat=32 then 18 else 0
def doS(f:ak)(i:InsD)(temp:Int)(pat:Nat):Option FitD:=
 if pat=1 then(if inR i.imm.v (-32768) 32767 then VC ⟨[],[],[⟨3,i.dst,0,0,0,0,i.imm,[]⟩],cT⟩ else VD)
 else if pat=2 then VC ⟨[],[],[⟨4,i.dst,0,0,0,0,i.imm,[]⟩],cT⟩
 else if pat<=15 then VC ⟨i.args,[],[⟨pat+2,i.dst,0,nth i.args 0,nth i.args 1,0,⟨0⟩,[]⟩],cT⟩
 else if pat=16 then immS f i 18 (-128) 127 1
 else if pat=17 then immS f i 18 (-127) 128 (-1)
 else if pat=18 then immS f i 19 (-128) 127 1
 else if pat<=21 then immS f i (pat+1) 0 31 1
 else if pat=22 then(if(aK f (nth i.args 0) 4).2 then
   VC ⟨[nth (aK f (nth i.args 0) 4).1.args 0,nth (aK f (nth i.args 0) 4).1.args 1,nth i.args 1],[nth i.args 0],[⟨23,i.dst,0,nth (aK f (nth i.args 0) 4).1.args 0,nth (aK f (nth i.args 0) 4).1.args 1,nth i.args 1,⟨0⟩,[]⟩],cT⟩
  else VD)
 else if pat<=26 then memS f i temp 15 24 25 (pat-23)
 else if pat<=30 then memS f i temp 16 26 27 (pat-27)
 else if pat=31 then VC ⟨i.args,[],[⟨28,i.dst,0,0,0,0,i.imm,i.args⟩],cT⟩
 else VC ⟨i.args,[],[⟨29,i.dst,i.two,nth i.args 0,nth i.args 1,0,⟨0⟩,[]⟩],cT⟩
def patS(f:ak)(i:InsD)(temp pat:Int):Option FitD:=if 1<=pat/\pat<=32/\i.op=opOf pat.toNat then doS f i temp pat.toNat else VD
def gz(f:ak)(t:db)(pat:Int):Option FitD:=
 if pat=0/\t.kind=1 then VC ⟨[],[],[],⟨1,0,0,t.to,⟨0⟩⟩⟩
 else if pat=0/\t.kind=4 then VC ⟨t.args,[],[],⟨7,if t.args=[] then -1 else nth t.args 0,0,[],⟨0⟩⟩⟩
 else if pat=0/\t.kind=5 then VC ⟨[],[],[],⟨8,0,0,[],t.imm⟩⟩
 else if pat=33/\t.kind=2 then VC ⟨t.args,[],[],⟨2,nth t.args 0,0,t.to,⟨0⟩⟩⟩
 else if(34<=pat/\pat<=36)/\t.kind=2 then
  (if(aK f (nth t.args 0) (pat-23)).2 then VC ⟨(aK f (nth t.args 0) (pat-23)).1.args,t.args,[],⟨pat-31,nth (aK f (nth t.args 0) (pat-23)).1.args 0,nth (aK f (nth t.args 0) (pat-23)).1.args 1,t.to,⟨0⟩⟩⟩ else VD)
 else if pat=37/\t.kind=3 then VC ⟨t.args,[],[],⟨6,nth t.args 0,0,t.to,⟨0⟩⟩⟩
 else VD
def oq:db:=⟨0,[],[],⟨0⟩⟩
def FT:cG:=⟨⟨0,[]⟩,iH,oq,VH,0⟩
def de(f:ak)(b p:Int):Bool:=decide (0<=b)&&decide (b<f.blocks.length)&&decide (0<=p)&&decide (p<=(nth f.blocks b.toNat).ins.length)
def eh(f:ak)(b p temp:Int):cG:=
 if p=(nth f.blocks b.toNat).ins.length then⟨f,iH,(nth f.blocks b.toNat).term,VG,temp⟩ else⟨f,nth (nth f.blocks b.toNat).ins p.toNat,oq,VH,temp⟩
def tryS(s:cG)(pat:Int):Option FitD:=if s.term then gz s.f s.t pat else patS s.f s.i s.temp pat
section
variable{po po2 po3:OP}{pp:PP}
structure RawN(n:Nat) where
 l:List Value
instance {n:Nat}:Rep (RawN n) where
 n:=n+1
 agg:=true
 rd:=λ_ cs d=>cs=d.l/\cs.length=n+1/\∀u∈cs,u.oneCell'=VG
 mono:=λ_ h=>h
 len:=λh=>h.2.1
 one:=λh=>by cases h
 flat:=λh u hu=>h.2.2 u hu
 pos:=Nat.succ_pos _
 cf:=λh=>h
variable{n:Nat}
theorem j9{H:View}{l:List Value}(h1:l.length=n+1)(h2 : ∀u∈l,u.oneCell'=VG):Rd H (.agg l.toArray) (RawN.mk (n:=n) l):=by unfold Rd;rw[if_pos (show Rep.agg (RawN n)=VG from rfl)];exact⟨_,rfl,rfl,h1,h2⟩
theorem RawN.p{o:Nat}(ho:o<=n):Part (RawN n) Raw o (λd=>⟨d.l.getD o undef⟩) (λd x=>⟨d.l.set o x.v⟩) where
 fits:=by show o+1<=n+1;omega
 get:=by
  rintro H cs d ⟨rfl,h1,h2⟩
  have hlt:o<d.l.length:=by omega
  have e:(d.l.drop o).take (Rep.n Raw)=[d.l.getD o undef]:=by
   have:d.l.getD o undef=d.l[o]:=by simp[hlt]
   rw[this]
   show(d.l.drop o).take 1=_
   rw[SD hlt];rfl
  refine⟨e,?_⟩
  have:d.l.getD o undef=d.l[o]:=by simp[hlt]
  show(d.l.getD o undef).oneCell'=VG
  rw[this];exact h2 _ (S9 hlt)
 set:=by
  rintro H cs us d x ⟨rfl,h1,h2⟩ ⟨rfl,h3⟩
  have hlt:o<d.l.length:=by omega
  have e:d.l.take o++[x.v]++d.l.drop (o+Rep.n Raw)=d.l.set o x.v:=by
   show d.l.take o++[x.v]++d.l.drop (o+1)=_
   rw[UB,if_pos hlt];simp
  refine⟨e,by simp[e,h1],λu hu=>?_⟩
  rw[e]at hu
  rcases Ut hu with h | rfl
  ·exact h2 _ h
  ·exact h3
section
variable{W:View}{h:Heap}{o:Own}{k:Key}
theorem Owns.raw{n:Nat}{e:TypeId}{B:Nat}{l:List Value}(w:Owns W h o)(hk:o k=bx e B (RawN.mk (n:=n) l)){i:Nat}(hi:i<=n):aq (vw h) ⟨B,i,VD⟩=VC (l.getD i undef):=by have:=((w.at hk).part (RawN.p hi)).raw;simpa using this
theorem Owns.zF{e:TypeId}{B:Nat}{l:List Value}(w:Owns W h o)(hk:o k=bx e B (RawN.mk (n:=n) l)):Un.ev (vw h) (.bI (n+1)) (ptz B)=VC (.agg l.toArray):=by obtain⟨cs,hcs,he,h1,h2⟩:=w.atW hk;have he:cs=l:=he;subst he;have h1:cs.length=n+1:=h1;have:=gm hcs (n+1) 0 #[] V4;simp only[Un.ev,vP,SA];rw[this];simp[h1]
theorem Owns.eu{P:Program}{ty:TypeId}{us:List (Nat × Value)}{t ty2:TypeId}{z:Value}{x y:Operand}{us2:Value->List (Nat × Value)}{l:List Value}{K:Value->Heap->Prop}(w:Owns W h o)(hk:o k=VD)(hz:(P.info? t).map (·.zero)=VC (VC z))(hzc:z.cells.size=n+1)(hsz:da P t=VC (n+1))(hl:l.length=n+1)(hn:n+1<=1000)(hone : ∀c∈l,c.oneCell'=VG)(hx : ∀p,asg (us2 p) x=p)(hy : ∀p,asg (us2 p) y = .agg l.toArray)(hK : ∀h':Heap,(vw h).le (vw h')->Owns W h' (o.upd k (bx t h.size (RawN.mk (n:=n) l)))->K (ptz h.size) h'):
  @step po P (.alloc t) ty us h λp h2=>@step po2 P (.store t x y) ty2 (us2 p) h2 λ_ h3=>K p h3:=
 gA (v:=.agg l.toArray) hz hzc hsz (by simpa[Value.cells]using hl) (by simpa[Value.cells]using hone) hx hy λh' hle hs hb=>hK h' hle
  (w.add hk (iL (d:=RawN.mk (n:=n) l) hb (j9 hl hone) hn) hle λb hb=>by simp only[Value.ownBlock,RW]at hb;omega)
theorem Owns.cV{P:Program}{ty:TypeId}{us:List (Nat × Value)}{t:TypeId}{z:Value}{K:Value->Heap->Prop}(w:Owns W h o)(hk:o k=VD)(hz:(P.info? t).map (·.zero)=VC (VC z))(hzc:z.cells.size=n+1)(hn:n+1<=1000)(hone : ∀c∈z.cells.toList,c.oneCell'=VG)(hK : ∀h':Heap,(vw h).le (vw h')->Owns W h' (o.upd k (bx t h.size (RawN.mk (n:=n) z.cells.toList)))->K (ptz h.size) h'):
  @step po P (.alloc t) ty us h K:=by
 refine dQ hz ?_;have q1:=b8 h (.cells z.cells t);have b2:(h.push (.cells z.cells t))[h.size]? = VC (.cells z.cells t (0,0)):=by simp
 generalize h.push (.cells z.cells t)=h2 at q1 b2;have hz2:(Value.agg z.cells).cells=z.cells:=rfl;refine hK h2 q1 (w.add hk (iL (v:=.agg z.cells) (d:=RawN.mk (n:=n) z.cells.toList) (by rw[hz2];exact b2) ?_ hn) q1 λb hb=>by simp only[Value.ownBlock,RW]at hb;omega);have:=j9 (n:=n) (H:=W) (l:=z.cells.toList) (by simpa using hzc) hone;simpa using this
theorem Owns.dT{P:Program}{ty:TypeId}{us:List (Nat × Value)}{i:Nat}{e t:TypeId}{B:Nat}{l:List Value}{x y:Operand}{u:Value}{K:Value->Heap->Prop}(w:Owns W h o)(hk:o k=bx e B (RawN.mk (n:=n) l))(hi:i<=n)(hsz:da P t=VC 1)(hx:asg us x = VF (VC ⟨B,i,VD⟩))(hy:asg us y=u)(hu:u.oneCell'=VG)(hK : ∀h',Owns W h' (o.upd k (bx e B (RawN.mk (n:=n) (l.set i u))))->(∀X:View,X.le (vw h)->X B=VD->X.le (vw h'))->K undef h'):@step po P (.store t x y) ty us h K:=
 w.kP (po:=po) (RawN.p hi) (d:=⟨u⟩) hk hsz hx hy (iT.2 ⟨rfl,hu⟩) hK
theorem Owns.mQ{P:Program}{ty:TypeId}{us:List (Nat × Value)}{α:Type}[r:Rep α]{e:TypeId}{t:TypeId}{bytes:Nat}{z:Value}{K:Value->Heap->Prop}(w:Owns W h o)(hk:o k=VD)(hT:eU P t e (Rep.n α) bytes z)(hK : ∀v h',(vw h).le (vw h')->v.oneCell'=VG->Owns W h' (o.upd k (it e v ([]:List α)))->(∀X:View,X.le (vw h)->Av X v)->K v h'):@step po P (.buildSlice t 0 #[]) ty us h K:=
 qQ (α:=α) hT λh' hle hs own=>hK _ h' hle rfl (w.add hk (own W) hle λb hb=>by simp only[Value.ownBlock,RW]at hb;omega) λX hX b hb=>by simp only[Value.ownBlock,RW]at hb;subst hb;exact View.bS hX (RX _)
end
abbrev forC(a i c:Nat)(ks ks2:List Nat)(ce:E)(body:LC):LC:=
 .loop (.seq (.seq (.reg VH (.fin ks [(c,ce)] [])) (.cond (.tmp c) [c] .skip (.exit a)))
  (.seq body (.reg VH (.fin ks2 [(i,.bin (.arith .add) (.tmp i) (.con (Vz VA 1)))] []))))
theorem K0{P:Program}{Q:Post}{ρ:Env}{h:Heap}{a i c:Nat}{ks ks2:List Nat}{ce:E}{body:LC}{σ:Type}(kp:List Nat)(vals:σ->Nat->List Value)(J:σ->Nat->Heap->Prop)(n:Nat)(s0:σ)(hok:xR kp ks ks2 c i=VG)(hn:n<=9223372036854775806)(h0:aY kp ρ=kp.zip (vals s0 0))(hj:J s0 0 h)(hi : ∀s k,look (kp.zip (vals s k)) i=VC (Vz VA k))(hb : ∀s k h,k<=n->J s k h->ev (look (kp.zip (vals s k))) (vw h) ce=VC (.bool (decide (k<n))))(round : ∀s k h,k<n->J s k h->∀K:Env->Heap->Prop,(∀s' ρ' h',look ρ' i=VC (Vz VA k)->aY kp (setE ρ' i (Vz VA ((k:Int)+1)))=kp.zip (vals s' (k+1))->J s' (k+1) h'->K ρ' h')->body.wp P (fL K (eY a Q)) (kp.zip (vals s k)) h)(done : ∀s h,J s n h->Q .normal (kp.zip (vals s n)) h):LC.wp P (forC a i c ks ks2 ce body) (eY a Q) ρ h:=by
 simp only[xR,SR,Se,Tm,bne_iff_ne,S1,beq_iff_eq,ne_eq]at hok;refine js kp (λm ρ h=>∃s k,k<=n/\ρ=kp.zip (vals s k)/\m=n-k/\J s k h) n ⟨s0,0,by omega,h0,by omega,hj⟩ ?_;rintro m ρ h ⟨s,k,hk,rfl,rfl,hJ⟩ K hK;have hkill:cK (kp.zip (vals s k)) ks=kp.zip (vals s k):=nU λp hp=>(hok p.1 (zip_fst hp)).1.1;have hne : ∀p∈kp.zip (vals s k),p.1≠c:=λp hp=>(hok p.1 (zip_fst hp)).1.2;have hk2 : ∀v,cK (setE (kp.zip (vals s k)) c v) [c]=kp.zip (vals s k):=λv=>nZ hne;have hlk : ∀v,look (setE (kp.zip (vals s k)) c v) c=VC v:=λv=>by rw[af,if_pos rfl]
 simp only[wI,nK,kN,iQ,mS,pA,hb s k h hk hJ,SA,lA,oV,true_and,dC,hkill,gp,oE,rY,hlk,nG,hk2,wG,we,ry,qA,if_true];refine⟨λhlt=>?_,λhge=>?_⟩
 ·have hlt':k<n:=by omega
  rw[oW];refine round s k h hlt' hJ _ λs' ρ' h' hl he hJ'=>?_;simp only[nK,kN,iQ,mS,pA,nO,rY,hl,oV,true_and,SA,Ce,SA,C3,lA,dC,gp,true_and];rw[bj V4 V4];refine hK (n-(k+1)) _ _ V4 ⟨s',k+1,by omega,?_,rfl,hJ'⟩;rw[<-he];refine pK λt ht=>?_;rw[af,af,ag];split
  ·rfl
  rename_i hti;rcases(hok t ht).2 with e | e
  ·exact absurd e.symm hti
  rw[e];rfl
 have:k=n:=by omega
 subst this;exact done s h hJ
end
variable{po po2 po3:OP}{pp:PP}
section
variable{W:View}{h:Heap}{o:Own}{k:Key}
theorem Owns.qz{P:Program}{ty:TypeId}{us:List (Nat × Value)}{t ty2:TypeId}{α:Type}[Rep α]{n:Nat}{z u:Value}{d:α}{x y:Operand}{us2:Value->List (Nat × Value)}{K:Value->Heap->Prop}(w:Owns W h o)(hk:o k=VD)(hr:Rd W u d)(hN:Rep.n α=n)(hz:(P.info? t).map (·.zero)=VC (VC z))(hzc:z.cells.size=n)(hsz:da P t=VC n)(hn:n<=1000)
  (hx : ∀p,asg (us2 p) x=p) (hy : ∀p,asg (us2 p) y=u) (hK : ∀h':Heap,(vw h).le (vw h')->Owns W h' (o.upd k (bx t h.size d))->K (ptz h.size) h') :
  @step po P (.alloc t) ty us h λp h2=>@step po2 P (.store t x y) ty2 (us2 p) h2 λ_ h3=>K p h3:=by subst hN;obtain⟨c1,c2,c3⟩:=gn hr;exact gA (v:=u) hz hzc hsz (by simpa using c2) c3 hx hy λh' hle hs hb=>hK h' hle (w.add hk (iL (d:=d) hb hr hn) hle λb hb=>by simp only[Value.ownBlock,RW]at hb;omega)
end
section
variable{po:OP}
theorem Owns.vD{P:Program}{W:View}{h:Heap}{o:Own}{ty:TypeId}{us:List (Nat × Value)}{α:Type}[Rep α]{t:TypeId}{x:Operand}{v:Value}{d:α}{K:Value->Heap->Prop}(w:Owns W h o)(hx:asg us x=v)(hv:Rd W v d)
  (hk : ∀B h' W',W.le W'->Owns W' h' o->At W' ⟨B,0,VD⟩ d->(vw h).le (vw h')->K (ptz B) h'):step P (.box t x) ty us h K:=by refine eI hx (hv.mono w.wle) λh1 hp hle hs _=>?_;exact hk _ _ _ (bC w.wle) (w.ext hle) (rh (t:=t) (fz:=(0,0)) (by rw[cg (RX _),hp];simp) (hv.mono (bC w.wle))) hle
end
end Go.Lft
namespace Go.Lft
variable{po:OP}
theorem zM{P:Program}{ty t rt e:TypeId}{us:List (Nat × Value)}{h:Heap}{K:Value->Heap->Prop}{x y:Operand}{a:Option Addr}{n c:Nat}(hu:P.underlying t=VC (.slice e))(hx:asg us x = .slice a n c)(hy:asg us y = VE VD 0 0)(hk:K (.bool a.isNone) h):step P (.binOp .eql t x y rt) ty us h K:=by
 refine dr (cO λw hw=>⟨_,w,?_,Same.refl _,by rw[hw];exact hk⟩);simp only[bQ,execOp,hx,hy];have e1:(Op.equal t (.slice a n c) (VE VD 0 0)).run P w = .ok a.isNone w:=by show(Op.equalIn (9999+1) t _ _).run P w=_;rw[Op.equalIn];cases a<;>simp[run_underlying hu]
 simp[eqGuard,binOp,e1]
end Go.Lft
namespace Go.Lft
theorem sK{d:InsD}{v:Value}{h:Heap}(hd:Rd (vw h) v d):ay VI 39 #[v] h (λu h'=>(vw h).le (vw h')/\SlRd (fresh h h') u (bz d)/\(d.op=16->u = VE VD 0 0)):=by
 refine ao (args:=[v]) follows Tryz.func39 E.oS Vu λK hK=>?_;simp[L.oS];refine eI rfl hd λh1 _ hle1 hsz1 hat=>?_;obtain⟨c0,c1,c2,va,ca⟩:=nC hat;have r1:=(hat.part InsD.iG).rng;have r2:=(hat.part InsD.BT).rng;simp[c0];refine⟨λe1=>hK _ _ ⟨hle1,by simpa[bz,e1]using aL,λ_=>rfl⟩,λe1=>⟨λe2=>?_,λe2=>?_⟩⟩
 ·simp[c1,c2];refine nJ (X:=nothing) (ds:=[d.dst,d.two]) (vs:=[Vz VA d.dst,Vz VA d.two]) rfl El.aZ V5 ⟨bu.2 ⟨rfl,r1⟩,bu.2 ⟨rfl,r2⟩,trivial⟩ cB rfl V4 λu h2 hle2 hsz2 hu _=>?_;exact hK _ _ ⟨Vx hle1 hle2,by simpa[bz,e2]using hu _ cB (by unfold fresh;rw[if_neg V4]),λe=>absurd e e1⟩
 simp[c1];refine nJ (X:=nothing) (ds:=[d.dst]) (vs:=[Vz VA d.dst]) rfl El.aZ V5 ⟨bu.2 ⟨rfl,r1⟩,trivial⟩ cB rfl V4 λu h2 hle2 hsz2 hu _=>?_;exact hK _ _ ⟨Vx hle1 hle2,by simpa[bz,e1,e2]using hu _ cB (by unfold fresh;rw[if_neg V4]),λe=>absurd e e1⟩
def tj(op n:Int):Bool:=if op=1 then decide (n=0) else if op=15 then decide (n=1) else if op=17 then decide (n<=4) else decide (n=2)
def lI(t:db):Bool:=
 if t.kind=1 then decide ((t.args.length:Int)=0)&&decide ((t.to.length:Int)=1)
 else if t.kind=2 then decide ((t.args.length:Int)=1)&&decide ((t.to.length:Int)=2)
 else if t.kind=3 then decide ((t.args.length:Int)=1)&&decide ((2:Int)<=t.to.length)&&decide ((t.to.length:Int)<=65)
 else if t.kind=4 then decide ((t.args.length:Int)<=1)&&decide ((t.to.length:Int)=0)
 else if t.kind=5 then decide ((t.args.length:Int)=0)&&decide ((t.to.length:Int)=0) else VH
def aJ(f:ak)(b:Int):List Int:=sift (λa=>decide (b∈(nth f.blocks a).term.to)) (λa=>(a:Int)) f.blocks.length
theorem Ci{H:View}{v:Value}{l:List BlkD}(h:SlRd H v l){i:Nat}(hi:i<l.length): ∃u,Sl H ((((slA v).add (i*6)).add 2).add 2) u (nth l i).term.to:=by rw[az hi];exact((((h.at hi).part BlkD.nh).part db.Cl)).sl
theorem yn{f:ak}{b:Int}{v:Value}{h:Heap}(hv:Rd (vw h) v f)(hn:f.blocks.length<=1000000):
  ay VI 36 #[v,Vz VA b] h (λu h'=>(vw h).le (vw h')/\SlRd (fresh h h') u (aJ f b)):=by
 refine ao (args:=[v,Vz VA b]) follows Tryz.func36 E.dB Vu λK hK=>?_;dsimp only[L.dB,lkF,lkG];refine aa λz hz=>?_;simp;refine eI rfl hv λh1 _ hle1 hsz1 hat=>?_;obtain⟨_,vb,cb⟩:=fh hat;generalize h.size=B at cb;subst hz;refine aa λz hz=>?_;simp;refine qQ (α:=Int) El.aZ λh2 hle2 hsz2 own2=>?_;have m0:=Mine.empty (V:=nothing) (W:=nothing) (View.le_refl (vw h1)) hle2 cB (Old.nothing _ _) own2;generalize VE (VC ⟨h1.size,0,VD⟩) 0 0=v0 at m0;have cb2:=cb.2;have cc2:=cb.1;subst hz;refine aa λz hz=>?_;simp;refine dy [1,2,5,6] (fun(r:Value) k=>[Vz VA b,ptz B,r,Vz VA k]) (λr k h3=>Mine nothing h1 h3 nothing T.int r (sift (λa=>decide (b∈(nth f.blocks a).term.to)) (λa=>(a:Int)) k)) f.blocks.length v0
  rfl V4 rfl m0 (λ_ _=>rfl) (λv k h3 hk m=>by simp[ae m.old cc2,(cb2.mono m.old).len]) ?_ ?_
 ·rintro r k h3 hlt m K2 hK2;have hle3:=m.old;have cb3:=cb2.mono hle3;obtain⟨w,hw⟩:=Ci cb3 hlt;have hwb:=hw.2.bound;have hsl:=qv (p:=λa=>decide (b∈(nth f.blocks a).term.to)) (x:=λa=>(a:Int)) k;refine aa λy hy=>?_;simp(disch:=omega)[ae hle3 cc2,cb3.idxn (N:=6) rfl,hw.1];subst hy;simp;refine dy [1,2,5,6,7,8] (fun(_:Unit) j=>[Vz VA b,ptz B,r,Vz VA k,w,Vz VA j]) (λ_ j h4=>h4=h3/\∀i,i<j->nth (nth f.blocks k).term.to i≠b) (nth f.blocks k).term.to.length ()
   rfl V4 rfl ⟨rfl,λi hi=>by omega⟩ (λ_ _=>rfl) (λv j h4 hk m=>by simp[hw.2.len]) ?_ ?_
  ·rintro _ j h3 hltj ⟨rfl,hpre⟩ K3 hK3;simp(disch:=omega)[hw.2.idx1 rfl,hw.2.int Vw];refine⟨λe=>?_,λe=>hK3 () _ _ rfl rfl ⟨rfl,λi hi=>?_⟩⟩
   ·have hmem:b∈(nth f.blocks k).term.to:=e▸bh hltj;refine m.push (d:=(k:Int)) El.aZ (by simp<;>rfl) (sB V4 V4) V4 V4 V8 V8 λu v' h5 m'=>?_;exact hK2 v' _ _ rfl rfl (by rw[pJ (by simpa using hmem)];exact m')
   rcases Sb i j with h | h
   ·exact hpre i h
   have:i=j:=by omega
   subst this;exact e
  rintro _ h3 ⟨rfl,hpre⟩;have hmem:¬b∈(nth f.blocks k).term.to:=λhm=>by obtain⟨i,hi,e⟩:=Sy hm;exact hpre i hi (by rw[az hi];exact e)
  simp;exact hK2 r _ _ rfl rfl (by rw[nX (by simpa using hmem)];exact m)
 rintro r h3 m;simp;subst hz;simp;exact hK _ _ ⟨Vx hle1 m.old,m.fresh.mono (Aa hle1)⟩
theorem Np{H:View}{u:Value}{d:InsD}(h:Rd H u d): ∃va,u = .agg #[Vz VA d.op,Vz VA d.dst,Vz VA d.two,va,Vz VB d.imm.v]/\(I64 d.op/\I64 d.dst/\I64 d.two/\-2147483648<=d.imm.v/\d.imm.v<=2147483647)/\SlRd H va d.args:=by obtain⟨cs,rfl,c1,r1,e1,⟨rfl,h1⟩,c2,r2,e2,⟨rfl,h2⟩,c3,r3,e3,⟨rfl,h3⟩,c4,r4,e4,⟨va,rfl,h4⟩,h5,h6⟩:=h;subst e4 e3 e2;exact⟨va,by rw[<-Array.toList_inj.1 ((by rw[e1,h5];rfl):cs.toList = #[Vz VA d.op,Vz VA d.dst,Vz VA d.two,va,Vz VB d.imm.v].toList)],⟨h1,h2,h3,h6⟩,h4⟩
theorem J7{H:View}{d:Int}{v:Value}{l:List InD}(h1:I64 d)(h2:SlRd H v l):Rd H (.agg #[Vz VA d,v]) (PhiD.mk d l):=⟨_,rfl,[Vz VA d],[v],rfl,⟨rfl,h1⟩,v,rfl,h2⟩
theorem Ds{H:View}{op d two:Int}{imm:I32}{v:Value}{l:List Int}(h:I64 op/\I64 d/\I64 two/\-2147483648<=imm.v/\imm.v<=2147483647)(h2:SlRd H v l):Rd H (.agg #[Vz VA op,Vz VA d,Vz VA two,v,Vz VB imm.v]) (InsD.mk op d two l imm):=
 ⟨_,rfl,[Vz VA op],_,rfl,⟨rfl,h.1⟩,[Vz VA d],_,rfl,⟨rfl,h.2.1⟩,[Vz VA two],_,rfl,⟨rfl,h.2.2.1⟩,[v],_,rfl,⟨v,rfl,h2⟩,rfl,h.2.2.2⟩
theorem CG{α β:Type}[Rep α][Rep β]{H:View}{v:Value}{l:List α}{l2:List β}(h:SlRd H v l)(hn:Rep.n α=Rep.n β)(hl:l.length=l2.length)(hc : ∀i (h1:i<l.length) (h2:i<l2.length) cs,Rep.rd H cs l[i]->Rep.rd H cs l2[i]):SlRd H v l2:=by
 obtain⟨a,cap,rfl,h1,h2,h3⟩:=h;refine⟨a,cap,by rw[hl],by omega,by omega,?_⟩;rcases h3 with rfl | ⟨ad,rfl,hs,hat⟩
 ·left;exact Ss (by rw[<-hl];rfl)
 refine .inr ⟨ad,rfl,hs,λi hi=>?_⟩;obtain⟨cs,g1,g2⟩:=hat i V4;rw[<-hn];exact⟨cs,g1,hc i V4 hi cs g2⟩
theorem JG{H:View}{u:Value}{f:ak}(h:Rd H u f): ∃vb,u = .agg #[Vz VA f.params,vb]/\I64 f.params/\SlRd H vb f.blocks:=by obtain⟨cs,rfl,c1,r1,e1,⟨rfl,h1⟩,vb,h2,h3⟩:=h;exact⟨vb,by rw[<-Array.toList_inj.1 ((by rw[e1,h2];rfl):cs.toList = #[Vz VA f.params,vb].toList)],h1,h3⟩
abbrev Q3:=Cat Int (Cat Int Int)
instance:Inhabited Q3:=⟨⟨0,0,0⟩⟩
theorem DX : ∀(l:List Value) (k off:Nat) (A:Array Value),off+k+l.length<=A.size->
  ((l.zipIdx k).foldl (fun(cs:Array Value) (p:Value × Nat)=>cs.setIfInBounds (off+p.2) p.1) A).toList=A.toList.take (off+k)++l++A.toList.drop (off+k+l.length)
 | [],k,off,A,_=>by simp
 | x::l,k,off,A,h=>by
  simp only[SL]at h;rw[UQ,Sx,DX l (k+1) off _ Vt];have hk:off+k<A.toList.length:=by simp;omega
  simp only[UZ,SL];rw[show off+(k+1)=off+k+1 by omega,Si (by simpa using hk),UU (RX _),List.getElem_set_self,List.drop_set_of_lt V4,show off+k+1+l.length=off+k+(l.length+1) by omega];simp
theorem pz{s:Nat} : ∀(vs:List Value) (k:Nat) (A:Array Value),(∀v∈vs,v.cells.size=s)->(k+vs.length)*s=A.size->
  ∃B,Instr.fill (λj=>VC (j*s,s)) A ((vs.zipIdx k).map λp=>(p.2,p.1))=VC B/\B.toList=A.toList.take (k*s)++vs.flatMap λv=>v.cells.toList
 | [],k,A,_,hk=>⟨A,rfl,by rw[Sr (by simp at hk;simp[hk])];simp⟩
 | v::vs,k,A,hv,hk=>by
  have hc:=hv v (Sg ..);have e1:(k+(vs.length+1))*s=(k+1+vs.length)*s:=by rw[show k+(vs.length+1)=k+1+vs.length by omega]
  have e2:(k+1+vs.length)*s=k*s+s+vs.length*s:=by rw[Uk,Uk,U8]
  simp only[SL]at hk;have e3:(k+1)*s=k*s+s:=by rw[Uk,U8]
  have hF:(v.cells.zipIdx.foldl (fun(cs:Array Value) (x:Value × Nat)=>cs.setIfInBounds (k*s+x.2) x.1) A).toList=A.toList.take (k*s)++v.cells.toList++A.toList.drop (k*s+s):=by rw[<-Array.foldl_toList,Array.toList_zipIdx];have:=DX v.cells.toList 0 (k*s) A (by simp[hc];omega);simpa[hc]using this
  obtain⟨B,h1,h2⟩:=pz vs (k+1) (v.cells.zipIdx.foldl (fun(cs:Array Value) (x:Value × Nat)=>cs.setIfInBounds (k*s+x.2) x.1) A) (λu hu=>hv u (Sa _ hu)) (by rw[<-Array.length_toList,hF];simp[hc];omega);refine⟨B,?_,?_⟩
  ·simp only[UQ,S8,Instr.fill,hc];rw[if_neg Vt];exact h1
  rw[h2,hF,e3,TH,SU (by simp[hc];omega),Sr (by simp[hc];omega),Sk]
theorem y6{s:Nat} : ∀(vs:List Value) (i:Nat) (hi:i<vs.length),(∀v∈vs,v.cells.size=s)->((vs.flatMap λv=>v.cells.toList).drop (i*s)).take s=vs[i].cells.toList
 | v::vs,0,_,hv=>by have hc:=hv v (Sg ..);simp only[Um,TW,TH,TS];rw[SU (by simp[hc]),Sr (by simp[hc])]
 | v::vs,i+1,hi,hv=>by have hc:=hv v (Sg ..);have:=y6 vs i (by simpa using hi) λu hu=>hv u (Sa _ hu);rw[TH,show(i+1)*s=v.cells.toList.length+i*s by rw[Uk];simp[hc];omega,<-List.drop_drop,List.drop_left];simpa using this
theorem qM{po:OP}{α:Type}[Rep α]{P:Program}{t e n:Nat}{ty:TypeId}{bytes:Nat}{z:Value}{ps:Array (Nat × Operand)}{us:List (Nat × Value)}{vs:List Value}{ds:List α}{h:Heap}{K:Value->Heap->Prop}(hT:eU P t e (Rep.n α) bytes z)(hp:ps.map (λp=>(p.1,asg us p.2))=((vs.zipIdx 0).map λp=>(p.2,p.1)).toArray){X:View}(hr:sw X vs ds)(hn:ds.length=n)(hb:n*Rep.n α<=16777216)(hb2:n<=16777216)(hk : ∀u h',(vw h).le (vw h')->h'.size=h.size+1->(∀Y:View,X.le Y->Y h.size=h'[h.size]?->SlRd Y u ds)->u.ownBlock=VC h.size->K u h'):step P (.buildSlice t n ps) ty us h K:=by
 have hl:=hr.len;have hcs : ∀v∈vs,v.cells.size=Rep.n α:=λv hv=>by obtain⟨i,hi,rfl⟩:=Sy hv;exact(gn (hr.get i hi V4)).2.1
 obtain⟨B,h1,h2⟩:=pz (s:=Rep.n α) vs 0 ((Array.range (n*Rep.n α)).map (z.cells[· % z.cells.size]!)) hcs (by simp;rw[hl,hn]);have hB:B=(vs.flatMap λv=>v.cells.toList).toArray:=by rw[<-Array.toList_inj,h2];simp
 refine vU hT hb hp h1 ?_;have hle:=b8 h (.cells B e);refine hk _ _ hle V5 (λY hY hYb=>⟨VC ⟨h.size,0,VD⟩,n,by rw[hn],by omega,by omega,.inr ⟨_,rfl,rfl,λi hi=>?_⟩⟩) rfl;have hi2:i<vs.length:=by omega
 have hrd:=gn (hr.get i hi2 hi);rw[bF rfl];refine⟨vs[i].cells.toList,⟨B,e,(0,0),rfl,by rw[hYb];simp,?_⟩,Rep.mono hY hrd.1⟩;rw[hB,Tj];have:=y6 vs i hi2 hcs;rw[T6,hrd.2.1];exact this
section
open Go.MapKept Go.ChangeMaps
variable{po:OP}{pp:PP}
structure It(h:Heap)(b r:Nat)(left:List (Value × Value)):Prop where
 ex : ∃es since seen c0,h[b]? = VC (.map es since)/\Stamped es since/\h[r]? = VC (.mapIter (VC b) since seen c0)/\since<=c0/\left=(leftOf es seen).toList.map λx=>(x.key,x.val)
structure ItE(h:Heap)(b r:Nat)(p:Value × Value)(left:List (Value × Value)):Prop where
 ex : ∃(es:Array MapEntry) (since:Nat) (seen:Array Nat) (e:MapEntry),h[b]? = VC (.map es since)/\Stamped es since/\h[r]? = VC (.mapIter (VC b) since (seen.push e.born) since)/\e∈es.toList/\p=(e.key,e.val)/\left=(leftOf es (seen.push e.born)).toList.map λx=>(x.key,x.val)
section
variable{P:Program}{ty:TypeId}{us:List (Nat × Value)}{h h':Heap}{K:Value->Heap->Prop}{d:TypeDesc}{b r:Nat}{f:Value->Option Value}{t k e:TypeId}{left:List (Value × Value)}{p:Value × Value}
theorem It.same(m:It h b r left)(e1:h'[b]? = h[b]?)(e2:h'[r]? = h[r]?):It h' b r left:=by obtain⟨es,s,q,c,a1,a2,a3,a4⟩:=m.ex;exact⟨es,s,q,c,by rw[e1];exact a1,a2,by rw[e2];exact a3,a4⟩
theorem ItE.it(m:ItE h b r p left):It h b r left:=by obtain⟨es,s,q,e,a1,a2,a3,a4,a5,a6⟩:=m.ex;exact⟨es,s,_,s,a1,a2,a3,RX _,a6⟩
theorem It.lt(m:It h b r left):b<h.size/\r<h.size/\b≠r:=by obtain⟨es,s,q,c,a1,a2,a3,a4⟩:=m.ex;refine⟨(Sj.1 a1).1,(Sj.1 a3).1,?_⟩;rintro rfl;rw[a1]at a3;cases a3
theorem yd{x:Operand}(ht:P.underlying t=VC (.map k e))(hx:asg us x = .map (VC b))(m:dh d h b f)(hk : ∀h' left,(vw h).le (vw h')->h'.size=h.size+1->It h' b h.size left->(left.map (·.1)).Nodup->(∀u v,(u,v)∈left->IsKey d u)->(∀u v,IsKey d u->((u,v)∈left↔f u=VC v))->K (ptz h.size) h'):step P (.range t x) ty us h K:=by
 obtain⟨es,c,h1,h2,h3,h4⟩:=m.ex;refine dr (cO λw hw=>?_);subst hw;refine⟨ptz w.heap.size,w.alloc (.mapIter (VC b) c #[] c),?_,jl _ _,?_⟩
 ·simp only[bQ,execOp,hx];simp[Instr.range,run_underlying ht,MapKept.run_getObj_map h1,newObj,Result.andThen];rfl
 have hb:(w.alloc (.mapIter (VC b) c #[] c)).heap[b]? = VC (.map es c):=(heap_alloc_old _ _ (Sj.1 h1).1).trans h1;have hl:(leftOf es #[]).toList=es.toList:=by unfold leftOf;simp
 refine hk _ (es.toList.map λx=>(x.key,x.val)) (by show(vw w.heap).le (vw (w.heap.push _));exact b8 _ _) V5 ⟨es,c,#[],c,hb,h3,World.alloc_heap_new w _,RX _,by rw[hl]⟩ ?_ ?_ ?_
 ·rw[List.map_map];exact h3.2.2
 ·intro u v hu;obtain⟨x,hx,e⟩:=SZ.1 hu;cases e;exact h2 x hx
 intro u v hu;rw[<-h4 u v hu,SZ];constructor
 ·rintro⟨x,hx,e⟩;cases e;exact⟨x,hx,rfl,rfl⟩
 rintro⟨x,hx,e1,e2⟩;exact⟨x,hx,by rw[e1,e2]⟩
theorem Ix{es:Array MapEntry}{c:Nat}{seen:Array Nat}{e:MapEntry}(hs:Stamped es c)(he:e∈(leftOf es seen).toList): ∃a z,(leftOf es seen).toList=a++e::z/\(leftOf es (seen.push e.born)).toList=a++z:=by
 obtain⟨a,z,q⟩:=List.append_of_mem he;refine⟨a,z,q,?_⟩;have e1:(leftOf es (seen.push e.born)).toList=(leftOf es seen).toList.filter λx=>x.born != e.born:=by unfold leftOf;rw[Uu,Uu,List.filter_filter];refine UH λx _=>?_;rw[SI];simp;exact⟨λh=>⟨h.2,h.1⟩,λh=>⟨h.2,h.1⟩⟩
 have nd:((leftOf es seen).toList.map (·.born)).Nodup:=by refine hs.2.1.sublist (List.Sublist.map _ ?_);unfold leftOf;rw[Uu];exact List.filter_sublist
 rw[q]at nd;rw[TP,S8]at nd;obtain⟨n1,n2,n3⟩:=Ti.1 nd;obtain⟨n4,n5⟩:=T1.1 n2;rw[e1,q,TL,List.filter_cons_of_neg V5];have f1:a.filter (λx=>x.born != e.born)=a:=List.filter_eq_self.2 λx hx=>by simp only[bne_iff_ne,ne_eq];exact λh=>n3 x.born (Uv hx) e.born (Sg) h
 have f2:z.filter (λx=>x.born != e.born)=z:=List.filter_eq_self.2 λx hx=>by simp only[bne_iff_ne,ne_eq];exact λh=>n4 (h▸Uv (f:=(·.born)) hx)
 rw[f1,f2]
theorem zj{x:Operand}(hx:asg us x = ptz r)(m:It h b r left)(h0:left=[]->K (.tuple #[.bool VH]) h)(h1 : ∀a p z h',left=a++p::z->h'.size=h.size->(∀j,j≠r->h'[j]? = h[j]?)->ItE h' b r p (a++z)->K (.tuple #[.bool VG,p.1,p.2]) h'):step P (.next x VH) ty us h K:=by
 obtain⟨es,s,q,c,a1,a2,a3,a4,rfl⟩:=m.ex;have hne:b≠r:=m.lt.2.2;refine dr (cO λw hw=>?_);subst hw;rcases run_next_at (P:=P) w ty r b s c q es s a3 a1 a2.1 a4 with⟨hz,hrun⟩ | ⟨e,he,w1,hw1,hrun⟩
 ·refine⟨.tuple #[.bool VH],w,?_,Same.refl _,h0 ?_⟩
  ·simp only[bQ,execOp,hx];simp[hrun]
  rw[List.map_eq_nil_iff];exact Ss (by simpa using hz)
 obtain⟨a,z,e1,e2⟩:=Ix a2 he;have hh:w1.heap=w.heap:=by rcases hw1 with rfl | rfl<;>rfl
 have hset:=MapKept.heap_set (o':=Obj.mapIter (VC b) s (q.push e.born) s) a3;refine⟨.tuple #[.bool VG,e.key,e.val],setBlock w1 r (.mapIter (VC b) s (q.push e.born) s),by simp only[bQ,execOp,hx];simp[hrun],?_,h1 (a.map λx=>(x.key,x.val)) (e.key,e.val) (z.map λx=>(x.key,x.val)) _ (by rw[e1];simp) (by simp[setBlock,hh]) ?_ ?_⟩
 ·have s1:Same w w1:=by
   rcases hw1 with rfl | rfl
   ·exact Same.refl _
   exact⟨rfl,rfl,rfl,RX _,λ_ h=>h⟩
  refine s1.trans (Same.pC rfl rfl rfl (by simp[setBlock]) (g:=r) (by rw[hh];exact a3) V5 λk _ hk=>?_);simp only[setBlock,hh];exact hset.2 k hk
 ·intro j hj;simp only[setBlock,hh];exact hset.2 j hj
 refine⟨es,s,q,e,?_,a2,?_,?_,rfl,?_⟩
 ·simp only[setBlock,hh];rw[hset.2 b hne];exact a1
 ·simp only[setBlock,hh];exact hset.1
 ·unfold leftOf at he;rw[Uu]at he;exact(TQ.1 he).1
 rw[e2,TP]
theorem Ft{x:Operand}(hx:asg us x = ptz r)(m:ItE h b r p left)(hk:K (.tuple #[p.1,p.2]) h):step P (.entry x) ty us h K:=by obtain⟨es,s,q,e,a1,a2,a3,a4,rfl,_⟩:=m.ex;refine dr (cO λw hw=>?_);subst hw;refine⟨.tuple #[e.key,e.val],w,?_,Same.refl _,hk⟩;simp only[bQ,execOp,hx];simp[run_entry_at (P:=P) w r b s q es s e a3 a1 a4 a2.2.1]
end
def OC:Value->Bool
 | .nilFunc=>VG
 | .func _ _ _=>VG
 | _=>VH
def Cs:Value->Bool
 | .nilFunc=>VG
 | _=>VH
theorem NS{P:Program}{ty t rt:TypeId}{us:List (Nat × Value)}{h:Heap}{K:Value->Heap->Prop}{x y:Operand}{v:Value}{ps rs:Array TypeId}{vr:Bool}(hu:P.underlying t=VC (.func ps rs vr))(hv:OC v=VG)(hx:asg us x=v)(hy:asg us y = .nilFunc)(hk:K (.bool (Cs v)) h):step P (.binOp .eql t x y rt) ty us h K:=by
 refine dr (cO λw hw=>⟨_,w,?_,Same.refl _,by rw[hw];exact hk⟩);simp only[bQ,execOp,hx,hy];have e1:(Op.equal t v .nilFunc).run P w = .ok (Cs v) w:=by show(Op.equalIn (9999+1) t _ _).run P w=_;rw[Op.equalIn];cases v<;>simp[OC]at hv<;>simp[run_underlying hu,Cs]
 simp[eqGuard,binOp,e1]
end
variable{po po2:OP}
theorem aU.xG:Part aU Int 0 aU.op (λd x=>{ d with op:=x }):=(Part.fst Part.all).via (λ_=>rfl) λ_ _=>rfl
theorem aU.Qf:Part aU Int 1 aU.d (λd x=>{ d with d:=x }):=(Part.snd (Part.fst Part.all)).via (λ_=>rfl) λ_ _=>rfl
theorem aU.RS:Part aU Int 2 aU.e (λd x=>{ d with e:=x }):=(Part.snd (Part.snd (Part.fst Part.all))).via (λ_=>rfl) λ_ _=>rfl
theorem aU.Q5:Part aU Int 3 aU.a (λd x=>{ d with a:=x }):=(Part.snd (Part.snd (Part.snd (Part.fst Part.all)))).via (λ_=>rfl) λ_ _=>rfl
theorem aU.Ry:Part aU Int 4 aU.b (λd x=>{ d with b:=x }):=(Part.snd (Part.snd (Part.snd (Part.snd (Part.fst Part.all))))).via (λ_=>rfl) λ_ _=>rfl
theorem aU.RV:Part aU Int 5 aU.c (λd x=>{ d with c:=x }):=(Part.snd (Part.snd (Part.snd (Part.snd (Part.snd (Part.fst Part.all)))))).via (λ_=>rfl) λ_ _=>rfl
theorem aU.lL:Part aU I32 6 aU.imm (λd x=>{ d with imm:=x }):=(Part.snd (Part.snd (Part.snd (Part.snd (Part.snd (Part.snd (Part.fst Part.all))))))).via (λ_=>rfl) λ_ _=>rfl
theorem aU.e9:Part aU (List Int) 7 aU.args (λd x=>{ d with args:=x }):=(Part.snd (Part.snd (Part.snd (Part.snd (Part.snd (Part.snd (Part.snd Part.all))))))).via (λ_=>rfl) λ_ _=>rfl
theorem EndD.xG:Part EndD Int 0 EndD.op (λd x=>{ d with op:=x }):=(Part.fst Part.all).via (λ_=>rfl) λ_ _=>rfl
theorem EndD.Q5:Part EndD Int 1 EndD.a (λd x=>{ d with a:=x }):=(Part.snd (Part.fst Part.all)).via (λ_=>rfl) λ_ _=>rfl
theorem EndD.Cl:Part EndD (List Int) 3 EndD.to (λd x=>{ d with to:=x }):=(Part.snd (Part.snd (Part.snd (Part.fst Part.all)))).via (λ_=>rfl) λ_ _=>rfl
theorem FitD.Hl:Part FitD (List Int) 0 FitD.takes (λd x=>{ d with takes:=x }):=(Part.fst Part.all).via (λ_=>rfl) λ_ _=>rfl
theorem FitD.MY:Part FitD (List Int) 1 FitD.inner (λd x=>{ d with inner:=x }):=(Part.snd (Part.fst Part.all)).via (λ_=>rfl) λ_ _=>rfl
theorem FitD.PM:Part FitD (List aU) 2 FitD.code (λd x=>{ d with code:=x }):=(Part.snd (Part.snd (Part.fst Part.all))).via (λ_=>rfl) λ_ _=>rfl
theorem FitD.HA:Part FitD EndD 3 FitD.fin (λd x=>{ d with fin:=x }):=(Part.snd (Part.snd (Part.snd Part.all))).via (λ_=>rfl) λ_ _=>rfl
theorem cG.RR:Part cG ak 0 cG.f (λd x=>{ d with f:=x }):=(Part.fst Part.all).via (λ_=>rfl) λ_ _=>rfl
theorem cG.RA:Part cG InsD 2 cG.i (λd x=>{ d with i:=x }):=(Part.snd (Part.fst Part.all)).via (λ_=>rfl) λ_ _=>rfl
theorem cG.RQ:Part cG db 7 cG.t (λd x=>{ d with t:=x }):=(Part.snd (Part.snd (Part.fst Part.all))).via (λ_=>rfl) λ_ _=>rfl
theorem cG.nh:Part cG Bool 11 cG.term (λd x=>{ d with term:=x }):=(Part.snd (Part.snd (Part.snd (Part.fst Part.all)))).via (λ_=>rfl) λ_ _=>rfl
theorem cG.Gm:Part cG Int 12 cG.temp (λd x=>{ d with temp:=x }):=(Part.snd (Part.snd (Part.snd (Part.snd Part.all)))).via (λ_=>rfl) λ_ _=>rfl
theorem aS.BI:Part aS Int 0 aS.pat (λd x=>{ d with pat:=x }):=(Part.fst Part.all).via (λ_=>rfl) λ_ _=>rfl
theorem aS.C5:Part aS Int 1 aS.cost (λd x=>{ d with cost:=x }):=(Part.snd Part.all).via (λ_=>rfl) λ_ _=>rfl
theorem jZ{H:View}{op d e a b c:Int}{imm:I32}{va:Value}{args:List Int}(h : ∀x∈[op,d,e,a,b,c],-9223372036854775808<=x/\x<=9223372036854775807)(hi:-2147483648<=imm.v/\imm.v<=2147483647)(ha:SlRd H va args) :
  Rd H (.agg #[Vz VA op,Vz VA d,Vz VA e,Vz VA a,Vz VA b,Vz VA c,Vz VB imm.v,va]) (⟨op,d,e,a,b,c,imm,args⟩:aU):=by
 simp only[Sp,Uq,or_false,forall_eq_or_imp,forall_eq]at h;obtain⟨h1,h2,h3,h4,h5,h6⟩:=h;have hl:Rep.rd H [va] args:=by have:=dw.2 ha;unfold Rd at this;simpa[Rep.agg]using this
 unfold Rd;rw[if_pos (show Rep.agg _=VG from rfl)];exact⟨_,rfl,[_],_,rfl,⟨rfl,h1⟩,[_],_,rfl,⟨rfl,h2⟩,[_],_,rfl,⟨rfl,h3⟩,[_],_,rfl,⟨rfl,h4⟩,[_],_,rfl,⟨rfl,h5⟩,[_],_,rfl,⟨rfl,h6⟩,[_],[_],rfl,⟨rfl,hi⟩,hl⟩
theorem ml{H:View}{op a b:Int}{imm:I32}{vt:Value}{l:List Int}(h : ∀x∈[op,a,b],-9223372036854775808<=x/\x<=9223372036854775807)(hi:-2147483648<=imm.v/\imm.v<=2147483647)(ht:SlRd H vt l) :
  Rep.rd H [Vz VA op,Vz VA a,Vz VA b,vt,Vz VB imm.v] (⟨op,a,b,l,imm⟩:EndD):=by
 simp only[Sp,Uq,or_false,forall_eq_or_imp,forall_eq]at h;obtain⟨h1,h2,h3⟩:=h;have hl:Rep.rd H [vt] l:=by have:=dw.2 ht;unfold Rd at this;simpa[Rep.agg]using this
 exact⟨[_],_,rfl,⟨rfl,h1⟩,[_],_,rfl,⟨rfl,h2⟩,[_],_,rfl,⟨rfl,h3⟩,[_],[_],rfl,hl,⟨rfl,hi⟩⟩
theorem nY{H:View}{v1 v2 v3:Value}{takes inner:List Int}{code:List aU}{ce:List Value}{fin:EndD}(h1:SlRd H v1 takes)(h2:SlRd H v2 inner)(h3:SlRd H v3 code)(h4:Rep.rd H ce fin) :
  Rd H (.agg (v1::v2::v3::ce).toArray) (⟨takes,inner,code,fin⟩:FitD):=by
 have q1:Rep.rd H [v1] takes:=by have:=dw.2 h1;unfold Rd at this;simpa[Rep.agg]using this
 have q2:Rep.rd H [v2] inner:=by have:=dw.2 h2;unfold Rd at this;simpa[Rep.agg]using this
 have q3:Rep.rd H [v3] code:=by have:=dw.2 h3;unfold Rd at this;simpa[Rep.agg]using this
 unfold Rd;rw[if_pos (show Rep.agg _=VG from rfl)];exact⟨_,rfl,[_],_,rfl,q1,[_],_,rfl,q2,[_],_,rfl,q3,h4⟩
theorem Owns.uq{W:View}{h:Heap}{o:Own}{k:Key}{P:Program}{ty:TypeId}{us:List (Nat × Value)}{n:Nat}{e t:TypeId}{B:Nat}{l l':List Value}{x y:Operand}{K:Value->Heap->Prop}(w:Owns W h o)(hk:o k=bx e B (RawN.mk (n:=n) l))(hsz:da P t=VC (n+1))(hx:asg us x = ptz B)(hy:asg us y = .agg l'.toArray)(hl:l'.length=n+1)(h1 : ∀c∈l',c.oneCell'=VG)
  (hK : ∀h',Owns W h' (o.upd k (bx e B (RawN.mk (n:=n) l')))->(∀X:View,X.le (vw h)->X B=VD->X.le (vw h'))->K undef h'):@step po P (.store t x y) ty us h K:=
 w.kP (po:=po) (Part.all) (d:=RawN.mk (n:=n) l') hk hsz hx hy (j9 hl h1) hK
theorem ju[pp:PP]{P:Program}{m:Option View}{x y:Reg}{Q:Env->Heap->Prop}{ρ:Env}{h:Heap}(h1:eZ P m x Q ρ h)(h2:eZ P m y Q ρ h):eZ P m (.both x y) Q ρ h:=⟨h1,h2⟩
theorem At.ldN{α:Type}[Rep α]{H:View}{a:Addr}{d:α}(h:At H a d)(ha:Rep.agg α=VG){N:Nat}(hN:Rep.n α=N) : ∃u,(∀K:View,H.le K->Un.ev K (.bI N) (VF (VC a))=VC u)/\Rd H u d:=by subst hN;obtain⟨u,h1,h2⟩:=h.bI ha;refine⟨u,λK hk=>?_,h2⟩;have:=dW (ρ:=λ_=>VD) (e:=.un (.bI (Rep.n α)) (.con (VF (VC a)))) hk (v:=u) (by simpa using h1);simpa using this
structure Cx(V:View)(h0:Heap)(W:View)(h:Heap)(o:Own):Prop where
 own:Owns W h o
 old:Old V h0 W
 le0:(vw h0).le (vw h)
 new : ∀k i b,o k=VC i->i.v.ownBlock=VC b->h0.size<=b
section
variable{V W:View}{h0 h h':Heap}{o:Own}{k:Key}{P:Program}{ty:TypeId}{us:List (Nat × Value)}
theorem Cx.start(hV:V.le (vw h)):Cx V h V h λ_=>none:=⟨Owns.start hV,Old.refl _ _,View.le_refl _,λ_ _ _ e=>by cases e⟩
theorem Cx.wle(c:Cx V h0 W h o):W.le (vw h):=c.own.wle
theorem Cx.ext(c:Cx V h0 W h o)(hle:(vw h).le (vw h')):Cx V h0 (grow W h h') h' o:=⟨c.own.ext hle,c.old.grow (bL c.le0),Vx c.le0 hle,c.new⟩
theorem Cx.fin(c:Cx V h0 W h o):W.le (grow V h0 h):=c.old.le c.wle
theorem Cx.up(c:Cx V h0 W h o):W.le (grow W h h'):=bC c.wle
theorem Cx.ef{α:Type}[Rep α]{t:TypeId}{x:Operand}{v:Value}{d:α}{K:Value->Heap->Prop}(c:Cx V h0 W h o)(hx:asg us x=v)(hv:Rd W v d)
  (hk : ∀B h' W',W.le W'->Cx V h0 W' h' o->At W' ⟨B,0,VD⟩ d->(vw h).le (vw h')->K (ptz B) h'):@step po P (.box t x) ty us h K:=by refine eI hx (hv.mono c.wle) λh1 hp hle hs _=>?_;exact hk _ _ _ c.up (c.ext hle) (rh (t:=t) (fz:=(0,0)) (by rw[cg (RX _),hp];simp) (hv.mono c.up)) hle
theorem Cx.eu{α:Type}[Rep α]{t ty2:TypeId}{n:Nat}{z:Value}{x y:Operand}{us2:Value->List (Nat × Value)}{v:Value}{d:α}{K:Value->Heap->Prop}(c:Cx V h0 W h o)(hv:Rd W v d)(hz:(P.info? t).map (·.zero)=VC (VC z))(hN:Rep.n α=n)(hzc:z.cells.size=n)(hsz:da P t=VC n)
  (hx : ∀p,asg (us2 p) x=p) (hy : ∀p,asg (us2 p) y=v) (hk : ∀B h' W',W.le W'->Cx V h0 W' h' o->At W' ⟨B,0,VD⟩ d->(vw h).le (vw h')->K (ptz B) h') :
  @step po P (.alloc t) ty us h λp h2=>@step po2 P (.store t x y) ty2 (us2 p) h2 λ_ h3=>K p h3:=by subst hN;refine cW (X:=W) hz hzc hsz hv hx hy λh1 hle hs hat=>?_;exact hk _ _ _ c.up (c.ext hle) (hat _ c.up (cg (RX _))) hle
theorem Cx.cV{t:TypeId}{n:Nat}{z:Value}{K:Value->Heap->Prop}(c:Cx V h0 W h o)(hk:o k=VD)(hz:(P.info? t).map (·.zero)=VC (VC z))(hzc:z.cells.size=n+1)(hn:n+1<=1000)
  (hone : ∀c∈z.cells.toList,c.oneCell'=VG) (hK : ∀B h':_,(vw h).le (vw h')->Cx V h0 W h' (o.upd k (bx t B (RawN.mk (n:=n) z.cells.toList)))->K (ptz B) h') :
  @step po P (.alloc t) ty us h K:=
 c.own.cV hk hz hzc hn hone λh1 hle w=>hK _ _ hle ⟨w,c.old,Vx c.le0 hle,λj i b hj hb=>by
  by_cases e:j=k
  ·subst e;rw[Own.an]at hj;cases hj;cases hb;exact bL c.le0
  rw[Own.aB e]at hj;exact c.new j i b hj hb⟩
theorem Cx.uq{n:Nat}{e t:TypeId}{B:Nat}{l l':List Value}{x y:Operand}{K:Value->Heap->Prop}(c:Cx V h0 W h o)(hk:o k=bx e B (RawN.mk (n:=n) l))(hsz:da P t=VC (n+1))(hx:asg us x = ptz B)(hy:asg us y = .agg l'.toArray)(hl:l'.length=n+1)(h1 : ∀c∈l',c.oneCell'=VG)
  (hK : ∀h',Cx V h0 W h' (o.upd k (bx e B (RawN.mk (n:=n) l')))->K undef h'):@step po P (.store t x y) ty us h K:=
 c.own.uq hk hsz hx hy hl h1 λh2 w hX=>hK _ ⟨w,c.old,hX _ c.le0 (View.bS Vw (c.new k _ B hk rfl)),λj i b hj hb=>by
  by_cases e:j=k
  ·subst e;rw[Own.an]at hj;cases hj;exact c.new _ _ b hk hb
  rw[Own.aB e]at hj;exact c.new j i b hj hb⟩
theorem Cx.bJ{α:Type}[Rep α]{n:Nat}{e t:TypeId}{B:Nat}{l:List Value}{x y:Operand}{v:Value}{d:α}{K:Value->Heap->Prop}(c:Cx V h0 W h o)(hk:o k=bx e B (RawN.mk (n:=n) l))(hr:Rd W v d)(ha:Rep.agg α=VG)(hN:Rep.n α=n+1)(hsz:da P t=VC (n+1))(hx:asg us x = ptz B)(hy:asg us y=v)
  (hK : ∀h' l',v = .agg l'.toArray->Cx V h0 W h' (o.upd k (bx e B (RawN.mk (n:=n) l')))->K undef h'):@step po P (.store t x y) ty us h K:=by have h2:=gn hr;unfold Rd at hr;rw[if_pos ha]at hr;obtain⟨cs,rfl,h1⟩:=hr;have hl:=Rep.len h1;exact c.uq hk hsz hx (l':=cs.toList) (by simpa using hy) (by rw[hl,hN]) (λc hc=>Rep.flat h1 c hc) λh'=>hK h' cs.toList V5
theorem Cx.all{n:Nat}{e:TypeId}{B:Nat}{l:List Value}(c:Cx V h0 W h o)(hk:o k=bx e B (RawN.mk (n:=n) l)):Un.ev (vw h) (.bI (n+1)) (ptz B)=VC (.agg l.toArray):=c.own.zF hk
theorem Cx.nf{α:Type}[Rep α]{t e n:Nat}{bytes:Nat}{z:Value}{ps:Array (Nat × Operand)}{vs:List Value}{ds:List α}{K:Value->Heap->Prop}(c:Cx V h0 W h o)(hT:eU P t e (Rep.n α) bytes z)
  (hp:ps.map (λp=>(p.1,asg us p.2))=((vs.zipIdx 0).map λp=>(p.2,p.1)).toArray) (hr:sw W vs ds) (hn:ds.length=n) (hb:n*Rep.n α<=16777216) (hb2:n<=16777216)
  (hk : ∀u h' W',W.le W'->Cx V h0 W' h' o->SlRd W' u ds->(vw h).le (vw h')->K u h'):@step po P (.buildSlice t n ps) ty us h K:=
 qM hT hp hr hn hb hb2 λu h1 hle hs hu _=>hk _ _ _ c.up (c.ext hle) (hu _ c.up (cg (RX _))) hle
end
end Go.Lft
namespace Go.Lft
theorem kE{n lo hi:Int}{h:Heap}:ay VI 135 #[Vz VA n,Vz VA lo,Vz VA hi] h (λu h'=>h'=h/\u = .bool (inR n lo hi)):=by
 refine ao (args:=[Vz VA n,Vz VA lo,Vz VA hi]) follows Tryz.func135 E.oX Vu λK hK=>?_;dsimp only[L.oX,lkF,lkG];by_cases c:lo<=n
 ·simp[c];exact hK _ _ ⟨rfl,by simp[inR,c]⟩
 simp[c];exact hK _ _ ⟨rfl,by simp[inR,c]⟩
theorem Lh{H:View}{B:Nat}{s:cG}(h:At H ⟨B,0,VD⟩ s) : ∃vb va wa wt,Sl H ⟨B,1,VD⟩ vb s.f.blocks/\aq H ⟨B,2,VD⟩=VC (Vz VA s.i.op)/\aq H ⟨B,3,VD⟩=VC (Vz VA s.i.dst)/\Sl H ⟨B,5,VD⟩ va s.i.args/\
  aq H ⟨B,6,VD⟩=VC (Vz VB s.i.imm.v)/\aq H ⟨B,7,VD⟩=VC (Vz VA s.t.kind)/\Sl H ⟨B,8,VD⟩ wa s.t.args/\Sl H ⟨B,9,VD⟩ wt s.t.to/\aq H ⟨B,10,VD⟩=VC (Vz VB s.t.imm.v)/\
  aq H ⟨B,11,VD⟩=VC (.bool s.term)/\aq H ⟨B,12,VD⟩=VC (Vz VA s.temp):=by
 have hf:=h.part cG.RR;have hi:=h.part cG.RA;have ht:=h.part cG.RQ;obtain⟨vb,h1⟩:=(hf.part ak.qg).sl;obtain⟨va,h5⟩:=(hi.part InsD.e9).sl;obtain⟨wa,h8⟩:=(ht.part db.e9).sl;obtain⟨wt,h9⟩:=(ht.part db.Cl).sl;exact⟨vb,va,wa,wt,by simpa using h1,by simpa using(hi.part InsD.xG).int,by simpa using(hi.part InsD.iG).int,by simpa using h5,by simpa using(hi.part InsD.lL).i32,by simpa using(ht.part db.Cg).int,
  by simpa using h8,by simpa using h9,by simpa using(ht.part db.lL).i32,by simpa using(h.part cG.nh).bool,by simpa using(h.part cG.Gm).int⟩
theorem Sl.mono{α:Type}[Rep α]{H K:View}(hk:H.le K){a:Addr}{v:Value}{l:List α}(s:Sl H a v l):Sl K a v l:=⟨ae hk s.1,s.2.mono hk⟩
theorem eS{v:Value}{l:List Int}{h:Heap}{W:View}(hW:W.le (vw h))(hv:SlRd W v l)(hb:l.length<=1000000):
  ay VI 52 #[v] h (λu h'=>(vw h).le (vw h')/\SlRd (grow W h h') u l):=by
 refine ao (args:=[v]) follows Tryz.func52 E.fK Vu λK hK=>?_;dsimp only[L.fK,lkF,lkG];have hv0:=hv;obtain⟨a,cap,rfl,g1,g2,g3⟩:=hv0;refine aa λz hz=>?_;simp;subst hz;refine aa λz hz=>?_;refine aa λy hy=>?_;simp;refine zM U.aZ rfl rfl ?_;subst hy;by_cases ha:a=VD
 ·subst ha;have hl:l=[]:=by
   rcases g3 with g3 | ⟨ad,g3,_⟩
   ·first | exact g3 | exact Ss (by simpa using g3)
   cases g3
  subst hl;simp;exact hK _ _ ⟨View.le_refl _,aL⟩
 have hi:a.isNone=false:=by cases a<;>simp at ha ⊢
 simp[hi];subst hz;refine aa λz hz=>?_;simp;refine qQ (α:=Int) El.aZ λh1 hle1 hs1 own1=>?_;have m1:=Mine.empty (V:=W) (W:=W) Vw hle1 hW (Old.refl _ _) own1;refine dA (α:=Int) (l:=[]) (l2:=l) El.aZ rfl rfl m1.own (hv.src (Vx hW hle1)) Vt Vt λv2 h2 own2 mv=>?_;have m2:=m1.gK own2 mv;subst hz;simp;refine hK _ _ ⟨m2.old,?_⟩;have:=m2.result;simpa using this
theorem mh{v0 v1 v2:Value}{m:aU}{takes inner:List Int}{h:Heap}{W:View}(hW:W.le (vw h))(h0:Rd W v0 m)(h1:SlRd W v1 takes)(h2:SlRd W v2 inner):
  ay VI 190 #[v0,v1,v2] h (λu h'=>(vw h).le (vw h')/\∃vf,u = .tuple #[vf,.bool VG]/\Rd (grow W h h') vf (⟨takes,inner,[m],cT⟩:FitD)):=by
 refine ao (args:=[v0,v1,v2]) follows Tryz.func190 E.pY Vu λK hK=>?_;dsimp only[L.pY,lkF,lkG];have c0:=Cx.start hW;refine aa λz hz=>?_;simp;refine c0.ef rfl h0 λB ha Wa hWa ca hat hlea=>?_;obtain⟨um,hum,hmr⟩:=hat.ldN rfl (N:=8) rfl;refine ca.cV (k:=(0,0)) (n:=7) (z:=.agg #[VE VD 0 0,VE VD 0 0,VE VD 0 0,Vz VA 0,Vz VA 0,Vz VA 0,VE VD 0 0,Vz VB 0]) rfl V0 rfl V6 Vs λR hb hleb cb=>?_;subst hz;refine aa λz hz=>?_;simp[hum _ (Vx ca.wle hleb)];refine cb.nf (α:=aU) (n:=1) (vs:=[um]) (ds:=[m]) El.kI V5 ⟨hmr,trivial⟩ rfl V6 V6 λu hc Wc hWc cc hu hlec=>?_;have hr:Rd Wc (.agg (v1::v2::u::[Vz VA 0,Vz VA 0,Vz VA 0,VE VD 0 0,Vz VB 0]).toArray) (⟨takes,inner,[m],cT⟩:FitD):=
  nY (h1.mono (Vx hWa hWc)) (h2.mono (Vx hWa hWc)) hu (ml V5 V6 aL);have e1:=h1;have e2:=h2;have e3:=hu;obtain⟨a1,k1,rfl,-⟩:=e1;obtain⟨a2,k2,rfl,-⟩:=e2;obtain⟨a3,k3,rfl,-⟩:=e3;refine aA (z:=zz7) (places:=zpc) (vs:=[(0,.slice a1 takes.length k1),(1,.slice a2 inner.length k2),(2,.slice a3 [m].length k3)]) (cs:=#[.slice a1 takes.length k1,.slice a2 inner.length k2,.slice a3 [m].length k3,Vz VA 0,Vz VA 0,Vz VA 0,VE VD 0 0,Vz VB 0]) V0 V0 V5 V0 ?_;refine cc.bJ (k:=(0,0)) Own.an hr rfl rfl V0 rfl rfl λhd l' hl' cd=>?_;subst hz;simp[cd.all (k:=(0,0)) Own.an];refine hK _ _ ⟨cd.le0,_,rfl,?_⟩;rw[<-hl'];exact hr.mono cd.fin
theorem DG{f:ak}{v:Int}:rC f v=f.blocks.findSome? λb=>b.ins.find? (jQ v):=by unfold rC ft;rw[List.find?_flatMap]
theorem Kz{f:ak}{v:Int}{b i:Nat}(hb:b<f.blocks.length)(hi:i<(nth f.blocks b).ins.length)(h1:((f.blocks.take b).findSome? λb=>b.ins.find? (jQ v))=VD)(h2:((nth f.blocks b).ins.take i).find? (jQ v)=VD)(h3:jQ v (nth (nth f.blocks b).ins i)=VG):rC f v=VC (nth (nth f.blocks b).ins i):=by
 have e1:f.blocks.take b++nth f.blocks b::f.blocks.drop (b+1)=f.blocks:=by rw[az hb,<-List.drop_eq_getElem_cons hb,TY]
 have e2:(nth f.blocks b).ins.take i++nth (nth f.blocks b).ins i::(nth f.blocks b).ins.drop (i+1)=(nth f.blocks b).ins:=by rw[az hi,<-List.drop_eq_getElem_cons hi,TY]
 have e3:(nth f.blocks b).ins.find? (jQ v)=VC (nth (nth f.blocks b).ins i):=by
  have:((nth f.blocks b).ins.take i++nth (nth f.blocks b).ins i::(nth f.blocks b).ins.drop (i+1)).find? (jQ v)=VC (nth (nth f.blocks b).ins i):=by rw[UI,h2,Ud,List.find?_cons,h3]
  rwa [e2]at this
 have:((f.blocks.take b++nth f.blocks b::f.blocks.drop (b+1)).findSome? λb=>b.ins.find? (jQ v))=VC (nth (nth f.blocks b).ins i):=by rw[Uj,h1,List.findSome?_cons,e3];rfl
 rw[e1]at this;rw[DG];exact this
theorem oe{H:View}:Rd H (.agg #[Vz VA 0,Vz VA 0,Vz VA 0,VE VD 0 0,Vz VB 0]) iH:=by
 have hl:Rep.rd H [VE VD 0 0] ([]:List Int):=by have:=dw.2 (aL (α:=Int) (H:=H));unfold Rd at this;simpa[Rep.agg]using this
 unfold Rd;rw[if_pos (show Rep.agg InsD=VG from rfl)];exact⟨_,rfl,[_],_,rfl,⟨rfl,by decide,by decide⟩,[_],_,rfl,⟨rfl,by decide,by decide⟩,[_],_,rfl,⟨rfl,by decide,by decide⟩,[_],[_],rfl,hl,rfl,by decide,by decide⟩
theorem E1{s:cG}{v:Value}{x:Int}{h:Heap}{W:View}(hW:W.le (vw h))(hv:Rd W v s)(hsm:SmF s.f):
  ay VI 224 #[v,Vz VA x] h (λu h'=>(vw h).le (vw h')/\∃vi,u = .tuple #[vi,.bool (rC s.f x).isSome]/\Rd (grow W h h') vi ((rC s.f x).getD iH)):=by
 refine ao (args:=[v,Vz VA x]) follows Tryz.func224 E.cH Vu λK hK=>?_;dsimp only[L.cH,lkF,lkG];have c0:=Cx.start hW;refine aa λz hz=>?_;simp;refine c0.ef rfl hv λB ha Wa hWa ca hat hlea=>?_;obtain⟨vb,va,wa,wt,sb,-⟩:=Lh hat;refine ca.cV (k:=(0,0)) (n:=4) (z:=.agg #[Vz VA 0,Vz VA 0,Vz VA 0,VE VD 0 0,Vz VB 0]) rfl V0 rfl V6 Vs λR hb hleb cb=>?_;subst hz;refine aa λz hz=>?_;have sbb:=sb.mono cb.wle;have hbd:=sb.2.bound;simp[sbb.1,sbb.2.len];refine aF [0,1,2,4,5,12,13,14] (fun(_:Unit) k=>[v,Vz VA x,ptz B,ptz R,.bool VH,vb,Vz VA s.f.blocks.length,Vz VA k])
  (λ_ k h1=>(s.f.blocks.take k).findSome? (λb=>b.ins.find? (jQ x))=VD/\∃W1,Wa.le W1/\Cx W h W1 h1 (Own.upd (λ_=>VD) (0,0) (bx T.fj R (RawN.mk (n:=4) [Vz VA 0,Vz VA 0,Vz VA 0,VE VD 0 0,Vz VB 0])))) s.f.blocks.length ()
  rfl V4 rfl ⟨rfl,Wa,View.le_refl _,cb⟩ (λ_ _=>rfl) (λv i h1 hk m=>by simp) ?_ ?_
 ·rintro _ k h1 hk ⟨hn,W1,hW1,c1⟩ K2 hK2;have q1:=(sb.2.mono hW1).wh rfl (N:=6) rfl hk;obtain⟨ub,hub,rub⟩:=q1;have hbs:=hsm.blk k hk;refine aa λz hz=>?_;simp(disch:=omega)[(sb.2.mono (Vx hW1 c1.wle)).idxn (N:=6) rfl,hub _ c1.wle];refine c1.eu (α:=BlkD) rub (n:=6) (z:=zz3) V0 rfl rfl V0 V8 V8 λB2 h2 W2 hW2 c2 hat2 hle2=>?_;obtain⟨vp,vi,va2,vt2,-,si,-⟩:=mD hat2;subst hz;refine aa λz hz=>?_;have si2:=si.mono c2.wle;have hbd2:=si.2.bound;simp[si2.1,si2.2.len];subst hz;generalize hbk:nth s.f.blocks k=bk at *;refine aF [0,1,2,4,5,7,12,13,14,19,20,21] (fun(_:Unit) i=>[v,Vz VA x,ptz B,ptz R,.bool VH,ptz B2,vb,Vz VA s.f.blocks.length,Vz VA k,vi,Vz VA bk.ins.length,Vz VA i])
   (λ_ i h3=>(bk.ins.take i).find? (jQ x)=VD/\∃W3,W2.le W3/\Cx W h W3 h3 (Own.upd (λ_=>VD) (0,0) (bx T.fj R (RawN.mk (n:=4) [Vz VA 0,Vz VA 0,Vz VA 0,VE VD 0 0,Vz VB 0])))) bk.ins.length ()
   rfl V4 rfl ⟨rfl,W2,View.le_refl _,c2⟩ (λ_ _=>rfl) (λv i h1 hk m=>by simp) ?_ ?_
  ·rintro _ i h3 hi ⟨hn3,W3,hW3,c3⟩ K3 hK3;have si3:=si.2.mono hW3;obtain⟨ui,hui,rui⟩:=si3.wh rfl (N:=5) rfl hi;have hst:(bk.ins.take (i+1)).find? (jQ x)=if jQ x (nth bk.ins i) then VC (nth bk.ins i) else none:=by rw[Si hi,UI,hn3,Ud,az hi,List.find?_singleton]
   refine aa λz hz=>?_;simp(disch:=omega)[(si3.mono c3.wle).idxn (N:=5) rfl,hui _ c3.wle];refine c3.eu (α:=InsD) rui (n:=5) (z:=zz5) V0 rfl rfl V0 V8 V8 λB4 h4 W4 hW4 c4 hat4 hle4=>?_;obtain⟨q0,q1,-⟩:=nC (hat4.mono c4.wle);obtain⟨ur,hur,rur⟩:=hat4.ldN rfl (N:=5) rfl;have hur:=hur _ c4.wle;generalize hxi:nth bk.ins i=xi at *;subst hz;refine aa λz hz=>?_;by_cases p:jQ x xi=VG
   ·have hm:rC s.f x=VC xi:=by have:=Kz (v:=x) hk (i:=i) (by rw[hbk];exact hi) hn (by rw[hbk];exact hn3) (by rw[hbk,hxi];exact p);rw[hbk,hxi]at this;exact this
    have p2:xi.op≠16/\xi.dst=x:=by simpa[jQ]using p
    simp[q0,q1,p2.1,p2.2];subst hz;simp[hur];refine c4.bJ (k:=(0,0)) Own.an rur rfl rfl V0 rfl rfl λh5 l5 hl5 c5=>?_;simp[c5.all (k:=(0,0)) Own.an];refine hK _ _ ⟨c5.le0,_,by rw[hm];rfl,?_⟩;rw[hm,<-hl5];exact rur.mono c5.fin
   have hc:(!decide (xi.op=16)&&decide (xi.dst=x))=false:=by simpa[jQ]using p
   rw[if_neg p]at hst;by_cases p3:xi.op=16
   ·simp[q0,q1,p3];subst hz;simp;exact hK3 () _ _ rfl rfl ⟨hst,W4,Vx hW3 hW4,c4⟩
   have p4:¬xi.dst=x:=by simpa[p3]using hc
   simp[q0,q1,p3,p4];subst hz;simp;exact hK3 () _ _ rfl rfl ⟨hst,W4,Vx hW3 hW4,c4⟩
  rintro _ h3 ⟨hn3,W3,hW3,c3⟩;rw[SF]at hn3;simp;refine hK2 () _ _ rfl rfl ⟨?_,W3,Vx hW1 (Vx hW2 hW3),c3⟩;rw[Si hk,Uj,hn,Ud,<-az hk,hbk];simp[hn3]
 rintro _ h1 ⟨hn,W1,hW1,c1⟩;rw[SF]at hn;have hm:rC s.f x=none:=by rw[DG];exact hn
 simp;subst hz;refine aa λz hz=>?_;simp;have hr:Rd W1 (.agg #[Vz VA 0,Vz VA 0,Vz VA 0,VE VD 0 0,Vz VB 0]) iH:=oe;refine aA (z:=zz5) (places:=zpa) (vs:=[]) (cs:=#[Vz VA 0,Vz VA 0,Vz VA 0,VE VD 0 0,Vz VB 0]) V0 V0 V5 V0 ?_;refine c1.bJ (k:=(0,0)) Own.an hr rfl rfl V0 rfl rfl λh5 l5 hl5 c5=>?_;subst hz;simp[c5.all (k:=(0,0)) Own.an];refine hK _ _ ⟨c5.le0,_,by rw[hm];rfl,?_⟩;rw[hm,<-hl5];exact hr.mono c5.fin
theorem pI{s:cG}{v:Value}{x op:Int}{h:Heap}{W:View}(hW:W.le (vw h))(hv:Rd W v s)(hsm:SmF s.f)(hx:I64 x):
  ay VI 186 #[v,Vz VA x,Vz VA op] h (λu h'=>(vw h).le (vw h')/\∃vi,u = .tuple #[vi,.bool (aK s.f x op).2]/\Rd (grow W h h') vi (aK s.f x op).1):=by
 refine ao (args:=[v,Vz VA x,Vz VA op]) follows Tryz.func186 E.j0 Vu λK hK=>?_;dsimp only[L.j0,lkF,lkG];have c0:=Cx.start hW;refine aa λz hz=>?_;simp;refine c0.ef rfl hv λB ha Wa hWa ca hat hlea=>?_;refine ca.cV (k:=(0,0)) (n:=4) (z:=.agg #[Vz VA 0,Vz VA 0,Vz VA 0,VE VD 0 0,Vz VB 0]) rfl V0 rfl V6 Vs λR hb hleb cb=>?_;subst hz;refine aa λz hz=>?_;obtain⟨us,hus,rus⟩:=hat.ldN rfl (N:=13) rfl;simp[hus _ cb.wle];refine ah V0 (E1 cb.wle rus hsm) ?_;rintro _ hc ⟨hle,vi,rfl,hvi⟩;have cc:=cb.ext hle;simp;refine cc.eu (α:=InsD) hvi (n:=5) (z:=zz5) V0 rfl rfl V0 V8 V8 λB2 hd Wd hWd cd hat2 hle2=>?_;subst hz;refine aa λz hz=>?_;refine aN Wd cd.wle ?_;obtain⟨d0,-⟩:=nC hat2;obtain⟨uf,huf,ruf⟩:=(hat.part cG.RR).ldN rfl (N:=2) rfl;obtain⟨ui,hui,rui⟩:=hat2.ldN rfl (N:=5) rfl;have cbw:Wa.le Wd:=Vx cb.up hWd;have huf:Un.ev Wd (.bI 2) (ptz B)=VC uf:=by simpa using huf Wd cbw
 have ruf:=ruf.mono cbw;have hui:=hui Wd Vw;have fin : ∀(b:Bool) (h2:Heap) (l':List Value),b=(aK s.f x op).2->ui = .agg l'.toArray->(rC s.f x).getD iH=(aK s.f x op).1->Cx W h Wd h2 (Own.upd (Own.upd (λ_=>VD) (0,0) (bx T.fj R (RawN.mk (n:=4) [Vz VA 0,Vz VA 0,Vz VA 0,VE VD 0 0,Vz VB 0]))) (0,0) (bx T.fj R (RawN.mk (n:=4) l')))->K (.tuple #[.agg l'.toArray,.bool b]) h2:=by rintro _ h2 l' rfl hl' e c2;refine hK _ _ ⟨c2.le0,_,rfl,?_⟩;rw[<-e,<-hl'];exact rui.mono c2.fin
 cases hm:rC s.f x with
 | none=>rw[hm]at fin d0;simp[hui];refine cd.bJ (k:=(0,0)) Own.an rui rfl rfl V0 rfl rfl λh2 l' hl' c2=>?_;subst hz;simp[c2.all (k:=(0,0)) Own.an];exact fin _ _ _ (by unfold aK;rw[hm];rfl) hl' (by unfold aK;rw[hm];rfl) c2
 | some i=>
  rw[hm]at fin d0;have d0:aq Wd ⟨B2,0,VD⟩=VC (Vz VA i.op):=d0;have e1:aK s.f x op=(i,decide (i.op=op)&&cJ s.f x):=by unfold aK;rw[hm];rfl
  by_cases c:i.op=op
  ·simp[hui,d0,c,huf];refine ah V0 (ta (ruf.mono cd.wle) hsm hx) ?_;rintro _ h1 ⟨rfl,hle1⟩;have c1:Cx W h Wd h1 _:=⟨cd.own.ext' hle1,cd.old,Vx cd.le0 hle1,cd.new⟩;refine⟨c1.wle,?_⟩;refine c1.bJ (k:=(0,0)) Own.an rui rfl rfl V0 rfl rfl λh2 l' hl' c2=>?_;subst hz;simp[c2.all (k:=(0,0)) Own.an];exact fin _ _ _ (by rw[e1];simp[c]) hl' (by rw[e1];rfl) c2
  simp[hui,d0,c];refine cd.bJ (k:=(0,0)) Own.an rui rfl rfl V0 rfl rfl λh2 l' hl' c2=>?_;subst hz;simp[c2.all (k:=(0,0)) Own.an];exact fin _ _ _ (by rw[e1];simp[c]) hl' (by rw[e1];rfl) c2
theorem yo{s:cG}{v:Value}{x lo hi:Int}{h:Heap}{W:View}(hW:W.le (vw h))(hv:Rd W v s)(hsm:SmF s.f)(hx:I64 x):
  ay VI 195 #[v,Vz VA x,Vz VA lo,Vz VA hi] h (λu h'=>(vw h).le (vw h')/\u = .tuple #[Vz VA (fu s.f x lo hi).1,.bool (fu s.f x lo hi).2]):=by
 refine ao (args:=[v,Vz VA x,Vz VA lo,Vz VA hi]) follows Tryz.func195 E.ix Vu λK hK=>?_;dsimp only[L.ix,lkF,lkG];have c0:=Cx.start hW;refine aa λz hz=>?_;simp;refine c0.ef rfl hv λB ha Wa hWa ca hat hlea=>?_;subst hz;refine aa λz hz=>?_;obtain⟨us,hus,rus⟩:=hat.ldN rfl (N:=13) rfl;simp[hus _ ca.wle];refine ah V0 (pI ca.wle rus hsm hx) ?_;rintro _ hc ⟨hle,vi,rfl,hvi⟩;have cc:=ca.ext hle;simp;refine cc.eu (α:=InsD) hvi (n:=5) (z:=zz5) V0 rfl rfl V0 V8 V8 λB2 hd Wd hWd cd hat2 hle2=>?_;subst hz;refine aa λz hz=>?_;refine aN Wd cd.wle ?_;have hp:=hat2.part InsD.lL;have d4:aq Wd ⟨B2,4,VD⟩=VC (Vz VB (aK s.f x 1).1.imm.v):=by simpa using hp.i32
 obtain⟨_,-,rng⟩:=hp.load rfl;have rng:=(F9.1 rng).2;have ew:IntKind.i64.wrap (aK s.f x 1).1.imm.v=(aK s.f x 1).1.imm.v:=bj V4 V4;cases hb:(aK s.f x 1).2 with
 | false=>simp[d4,ew];subst hz;simp;exact hK _ _ ⟨cd.le0,by simp[fu,hb]⟩
 | true=>simp[d4,ew];refine ah V0 kE ?_;rintro _ hd ⟨rfl,rfl⟩;refine⟨cd.wle,?_⟩;subst hz;simp;exact hK _ _ ⟨cd.le0,by simp[fu,hb]⟩
theorem SlRd.rng{H:View}{v:Value}{l:List Int}(h:SlRd H v l){i:Nat}(hi:i<l.length):-9223372036854775808<=nth l i/\nth l i<=9223372036854775807:=by have:=(h.at hi).rng;rw[az hi];exact this
theorem At.sP{H:View}{a:Addr}{d:I32}(h:At H a d):-2147483648<=d.v/\d.v<=2147483647:=by obtain⟨u,h1,h2⟩:=h.load rfl;exact(F9.1 h2).2
def cu(V:View)(h h':Heap)(u:Value)(r:Option FitD):Prop:=(vw h).le (vw h')/\∃vf x,u = .tuple #[vf,.bool r.isSome]/\Rd (grow V h h') vf x/\∀y,r=VC y->x=y
structure rE(W:View)(v:Value)(r:Option FitD):Prop where
 ex : ∃fn caps,v = .func (.func fn) #[] caps/\isFn VI fn=VG/\∀h V,W.le V->V.le (vw h)->ay VI fn caps h (λu h'=>cu V h h' u r)
theorem rE.mono{W W':View}{v:Value}{r:Option FitD}(f:rE W v r)(hW:W.le W'):rE W' v r:=let ⟨fn,caps,e,i,h⟩:=f.ex;⟨fn,caps,e,i,λh' V hV hh=>h h' V (Vx hW hV) hh⟩
theorem cu.of{V W:View}{h h':Heap}{o:Own}{u:Value}{x:FitD}{b:Bool}{r:Option FitD}(c:Cx V h W h' o)(hr:Rd W u x)(hb:b=r.isSome)(hx : ∀y,r=VC y->x=y):cu V h h' (.tuple #[u,.bool b]) r:=⟨c.le0,u,x,by rw[hb],hr.mono c.fin,hx⟩
structure xd(i:InsD):Prop where
 two:2<=i.op/\i.op<=14\/i.op=16\/i.op=18->2<=i.args.length
 one:i.op=15->1<=i.args.length
 most:i.args.length<=10000
structure np(s:cG):Prop where
 sm:SmF s.f
 all : ∀i∈ft s.f,xd i
 one:xd s.i
 rng : ∀i∈ft s.f,-2147483648<=i.imm.v/\i.imm.v<=2147483647
structure Ct(W:View)(S I:Nat)(s:cG):Prop where
 site:At W ⟨S,0,VD⟩ s
 ins:At W ⟨I,0,VD⟩ s.i
theorem Ct.mono{W W':View}{S I:Nat}{s:cG}(c:Ct W S I s)(h:W.le W'):Ct W' S I s:=⟨c.site.mono h,c.ins.mono h⟩
abbrev fitZ:List Value:=[VE VD 0 0,VE VD 0 0,VE VD 0 0,Vz VA 0,Vz VA 0,Vz VA 0,VE VD 0 0,Vz VB 0]
theorem gD{H:View}:Rd H (.agg fitZ.toArray) LS:=nY (v1:=VE VD 0 0) (v2:=VE VD 0 0) (v3:=VE VD 0 0) aL aL aL (ml V5 V6 aL)
section
variable{W V:View}{S I R:Nat}{s:cG}{h:Heap}
theorem Hz(hV:V.le (vw h)):ay VI 187 #[] h (λu h'=>cu V h h' u VD):=by refine ao (args:=[]) follows Tryz.func187 E.gu Vu λK hK=>?_;dsimp only[L.gu,lkF,lkG];have c0:=Cx.start hV;refine aa λz hz=>?_;simp;refine c0.cV (k:=(0,0)) (n:=7) (z:=.agg fitZ.toArray) rfl V0 rfl V6 Vs λR hb hleb cb=>?_;subst hz;refine aa λz hz=>?_;simp;refine aA (z:=.agg fitZ.toArray) (places:=zpc) (vs:=[]) (cs:=fitZ.toArray) V0 V0 V5 V0 ?_;refine cb.bJ (k:=(0,0)) Own.an gD rfl rfl V0 rfl rfl λh9 l9 hl9 c9=>?_;subst hz;simp[c9.all (k:=(0,0)) Own.an];exact hK _ _ (cu.of c9 (hl9▸gD) rfl λy e=>by cases e)
theorem Nq(ct:Ct V S I s)(hV:V.le (vw h)):ay VI 191 #[ptz I] h (λu h'=>cu V h h' u (VC ⟨[],[],[⟨4,s.i.dst,0,0,0,0,s.i.imm,[]⟩],cT⟩)):=by refine ao (args:=[ptz I]) follows Tryz.func191 E.gi Vu λK hK=>?_;dsimp only[L.gi,lkF,lkG];have c0:=Cx.start hV;refine aa λz hz=>?_;simp;refine c0.cV (k:=(0,0)) (n:=7) (z:=.agg fitZ.toArray) rfl V0 rfl V6 Vs λR hb hleb cb=>?_;subst hz;refine aa λz hz=>?_;have i1:=(ct.ins.part InsD.iG);have i4:=(ct.ins.part InsD.lL);have r1:=i1.rng;have r4:=i4.sP;have i1:aq (vw hb) ⟨I,1,VD⟩=VC (Vz VA s.i.dst):=ae cb.wle (by simpa using i1.int);have i4:aq (vw hb) ⟨I,4,VD⟩=VC (Vz VB s.i.imm.v):=ae cb.wle (by simpa using i4.i32);simp[i1,i4];refine aA (z:=zz8) (places:=zpb) (vs:=[(0,Vz VA 4),(1,Vz VA s.i.dst),(6,Vz VB s.i.imm.v)]) (cs:=#[Vz VA 4,Vz VA s.i.dst,Vz VA 0,Vz VA 0,Vz VA 0,Vz VA 0,Vz VB s.i.imm.v,VE VD 0 0]) V0 V0 V5 V0 ?_;have hm:Rd V (.agg #[Vz VA 4,Vz VA s.i.dst,Vz VA 0,Vz VA 0,Vz VA 0,Vz VA 0,Vz VB s.i.imm.v,VE VD 0 0]) (⟨4,s.i.dst,0,0,0,0,s.i.imm,[]⟩:aU):=jZ (by simp[r1]) r4 aL;refine ah V0 (mh cb.wle hm aL aL) ?_;rintro _ hE ⟨hle,vf,rfl,hvf⟩;have cE:=cb.ext hle;simp;refine cE.bJ (k:=(0,0)) Own.an hvf rfl rfl V0 rfl rfl λh9 l9 hl9 c9=>?_;subst hz;simp[c9.all (k:=(0,0)) Own.an];exact hK _ _ (cu.of c9 (hl9▸hvf) rfl λy e=>by cases e;rfl)
theorem M5(ct:Ct V S I s)(hV:V.le (vw h)):ay VI 189 #[ptz I] h (λu h'=>cu V h h' u (if inR s.i.imm.v (-32768) 32767 then VC ⟨[],[],[⟨3,s.i.dst,0,0,0,0,s.i.imm,[]⟩],cT⟩ else VD)):=by
 refine ao (args:=[ptz I]) follows Tryz.func189 E.gk Vu λK hK=>?_;dsimp only[L.gk,lkF,lkG];have c0:=Cx.start hV;refine aa λz hz=>?_;simp;refine c0.cV (k:=(0,0)) (n:=7) (z:=.agg fitZ.toArray) rfl V0 rfl V6 Vs λR hb hleb cb=>?_;subst hz;refine aa λz hz=>?_;have i1:=(ct.ins.part InsD.iG);have i4:=(ct.ins.part InsD.lL);have r1:=i1.rng;have r4:=i4.sP;have i1:aq V ⟨I,1,VD⟩=VC (Vz VA s.i.dst):=by simpa using i1.int
 have i4:aq V ⟨I,4,VD⟩=VC (Vz VB s.i.imm.v):=by simpa using i4.i32
 simp[ae cb.wle i1,ae cb.wle i4];refine aA (z:=zz8) (places:=zpb) (vs:=[(0,Vz VA 3),(1,Vz VA s.i.dst),(6,Vz VB s.i.imm.v)]) (cs:=#[Vz VA 3,Vz VA s.i.dst,Vz VA 0,Vz VA 0,Vz VA 0,Vz VA 0,Vz VB s.i.imm.v,VE VD 0 0]) V0 V0 V5 V0 ?_;have hm:Rd V (.agg #[Vz VA 3,Vz VA s.i.dst,Vz VA 0,Vz VA 0,Vz VA 0,Vz VA 0,Vz VB s.i.imm.v,VE VD 0 0]) (⟨3,s.i.dst,0,0,0,0,s.i.imm,[]⟩:aU):=jZ (by simp[r1]) r4 aL;refine ah V0 (mh cb.wle hm aL aL) ?_;rintro _ hE ⟨hle,vf,rfl,hvf⟩;have cE:=cb.ext hle;simp;refine cE.eu (α:=FitD) hvf (n:=8) (z:=.agg fitZ.toArray) V0 rfl rfl V0 V8 V8 λB2 hF WF hWF cF hatF hleF=>?_;obtain⟨ux,hux,rux⟩:=hatF.ldN rfl (N:=8) rfl;have hux:=hux WF Vw;subst hz;refine aa λz hz=>?_;refine aN WF cF.wle ?_;have ew:IntKind.i64.wrap s.i.imm.v=s.i.imm.v:=bj V4 V4;have vw1:V.le WF:=Vx cb.up hWF;simp[hux,ae vw1 i4,ew];refine ah V0 kE ?_;rintro _ hF ⟨rfl,rfl⟩;refine⟨cF.wle,?_⟩;refine cF.bJ (k:=(0,0)) Own.an rux rfl rfl V0 rfl rfl λh9 l9 hl9 c9=>?_;subst hz;simp[c9.all (k:=(0,0)) Own.an];refine hK _ _ (cu.of c9 (hl9▸rux) (by split<;>simp_all) λy e=>?_);split at e<;>cases e;rfl
theorem Nc{O:Nat}{op:Int}(ct:Ct V S I s)(hV:V.le (vw h))(hO:aq V ⟨O,0,VD⟩=VC (Vz VA op))(hop:2<=op/\op<=14)(ha:2<=s.i.args.length/\s.i.args.length<=10000) :
  ay VI 192 #[ptz O,ptz I] h (λu h'=>cu V h h' u (VC ⟨s.i.args,[],[⟨op+3,s.i.dst,0,nth s.i.args 0,nth s.i.args 1,0,⟨0⟩,[]⟩],cT⟩)):=by
 refine ao (args:=[ptz O,ptz I]) follows Tryz.func192 E.gH Vu λK hK=>?_;dsimp only[L.gH,lkF,lkG];have c0:=Cx.start hV;refine aa λz hz=>?_;simp;refine c0.cV (k:=(0,0)) (n:=7) (z:=.agg fitZ.toArray) rfl V0 rfl V6 Vs λR hb hleb cb=>?_;subst hz;refine aa λz hz=>?_;have i1:=(ct.ins.part InsD.iG);have r1:=i1.rng;have i1:aq V ⟨I,1,VD⟩=VC (Vz VA s.i.dst):=by simpa using i1.int
 have i2:=(ct.ins.part InsD.BT);have r2:=i2.rng;have i2:aq V ⟨I,2,VD⟩=VC (Vz VA s.i.two):=by simpa using i2.int
 have i4:=(ct.ins.part InsD.lL);have r4:=i4.sP;have i4:aq V ⟨I,4,VD⟩=VC (Vz VB s.i.imm.v):=by simpa using i4.i32
 obtain⟨va,i3,hva⟩:=(ct.ins.part InsD.e9).sl;have i3:aq V ⟨I,3,VD⟩=VC va:=by simpa using i3
 have e1:5+op-2=op+3:=by omega
 have a0:=hva.rng (i:=0) V4;have a1:=hva.rng (i:=1) V4;have hm : ∀X,Rd X (.agg #[Vz VA (op+3),Vz VA s.i.dst,Vz VA 0,Vz VA (nth s.i.args 0),Vz VA (nth s.i.args 1),Vz VA 0,Vz VB 0,VE VD 0 0]) (⟨op+3,s.i.dst,0,nth s.i.args 0,nth s.i.args 1,0,⟨0⟩,[]⟩:aU):=λX=>jZ Vt V5 aL;refine aN V cb.wle ?_;simp(disch:=omega)[hO,i1,i3,hva.idx1 rfl,hva.int Vw,e1];refine⟨?_,?_⟩
 ·refine aA (z:=zz8) (places:=zpb) (vs:=[(0,Vz VA (op+3)),(1,Vz VA s.i.dst),(3,Vz VA (nth s.i.args 0)),(4,Vz VA (nth s.i.args 1))]) (cs:=#[Vz VA (op+3),Vz VA s.i.dst,Vz VA 0,Vz VA (nth s.i.args 0),Vz VA (nth s.i.args 1),Vz VA 0,Vz VB 0,VE VD 0 0]) V0 V0 V5 V0 ?_;refine⟨Vx Vw cb.wle,?_⟩;refine ah V0 (eS cb.wle (hva.mono Vw) V4) ?_;rintro u1 h1 ⟨hle1,hcl1⟩;have c1:=cb.ext hle1;refine⟨Vx (Vx Vw (cb.up)) c1.wle,?_⟩;refine ah V0 (mh c1.wle (hm _) hcl1 aL) ?_;rintro _ hE ⟨hleE,vf,rfl,hvf⟩;have cE:=c1.ext hleE;simp;refine cE.bJ (k:=(0,0)) Own.an hvf rfl rfl V0 rfl rfl λh9 l9 hl9 c9=>?_;subst hz;simp[c9.all (k:=(0,0)) Own.an];exact hK _ _ (cu.of c9 (hl9▸hvf) rfl λy e=>by cases e;rfl)
 refine ah V0 (eS cb.wle (hva.mono Vw) V4) ?_;rintro u1 h1 ⟨hle1,hcl1⟩;have c1:=cb.ext hle1;refine⟨Vx (Vx Vw (cb.up)) c1.wle,?_⟩;refine aA (z:=zz8) (places:=zpb) (vs:=[(0,Vz VA (op+3)),(1,Vz VA s.i.dst),(3,Vz VA (nth s.i.args 0)),(4,Vz VA (nth s.i.args 1))]) (cs:=#[Vz VA (op+3),Vz VA s.i.dst,Vz VA 0,Vz VA (nth s.i.args 0),Vz VA (nth s.i.args 1),Vz VA 0,Vz VB 0,VE VD 0 0]) V0 V0 V5 V0 ?_;refine⟨Vx (Vx Vw (cb.up)) c1.wle,?_⟩;refine ah V0 (mh c1.wle (hm _) hcl1 aL) ?_;rintro _ hE ⟨hleE,vf,rfl,hvf⟩;have cE:=c1.ext hleE;simp;refine cE.bJ (k:=(0,0)) Own.an hvf rfl rfl V0 rfl rfl λh9 l9 hl9 c9=>?_;subst hz;simp[c9.all (k:=(0,0)) Own.an];exact hK _ _ (cu.of c9 (hl9▸hvf) rfl λy e=>by cases e;rfl)
theorem NO(ct:Ct V S I s)(hV:V.le (vw h))(ha:s.i.args.length<=10000) :
  ay VI 198 #[ptz I] h (λu h'=>cu V h h' u (VC ⟨s.i.args,[],[⟨28,s.i.dst,0,0,0,0,s.i.imm,s.i.args⟩],cT⟩)):=by
 refine ao (args:=[ptz I]) follows Tryz.func198 E.fX Vu λK hK=>?_;dsimp only[L.fX,lkF,lkG];have c0:=Cx.start hV;refine aa λz hz=>?_;simp;refine c0.cV (k:=(0,0)) (n:=7) (z:=.agg fitZ.toArray) rfl V0 rfl V6 Vs λR hb hleb cb=>?_;subst hz;refine aa λz hz=>?_;have i1:=(ct.ins.part InsD.iG);have r1:=i1.rng;have i1:aq V ⟨I,1,VD⟩=VC (Vz VA s.i.dst):=by simpa using i1.int
 have i2:=(ct.ins.part InsD.BT);have r2:=i2.rng;have i2:aq V ⟨I,2,VD⟩=VC (Vz VA s.i.two):=by simpa using i2.int
 have i4:=(ct.ins.part InsD.lL);have r4:=i4.sP;have i4:aq V ⟨I,4,VD⟩=VC (Vz VB s.i.imm.v):=by simpa using i4.i32
 obtain⟨va,i3,hva⟩:=(ct.ins.part InsD.e9).sl;have i3:aq V ⟨I,3,VD⟩=VC va:=by simpa using i3
 have hm : ∀{X w},SlRd X w s.i.args->Rd X (.agg #[Vz VA 28,Vz VA s.i.dst,Vz VA 0,Vz VA 0,Vz VA 0,Vz VA 0,Vz VB s.i.imm.v,w]) (⟨28,s.i.dst,0,0,0,0,s.i.imm,s.i.args⟩:aU):=λhw=>jZ Vt r4 hw;refine aN V cb.wle ?_;simp(disch:=omega)[i1,i3,i4];refine ah V0 (eS cb.wle hva V4) ?_;rintro u1 h1 ⟨hle1,hcl1⟩;have c1:=cb.ext hle1;refine⟨Vx cb.up c1.wle,?_⟩;have q1:=hcl1;obtain⟨b1,k1,rfl,-⟩:=q1;refine⟨?_,?_⟩
 ·refine aA (z:=zz8) (places:=zpb) (vs:=[(0,Vz VA 28),(1,Vz VA s.i.dst),(6,Vz VB s.i.imm.v),(7,.slice b1 s.i.args.length k1)]) (cs:=#[Vz VA 28,Vz VA s.i.dst,Vz VA 0,Vz VA 0,Vz VA 0,Vz VA 0,Vz VB s.i.imm.v,.slice b1 s.i.args.length k1]) V0 V0 V5 V0 ?_;refine⟨Vx cb.up c1.wle,?_⟩;refine ah V0 (eS c1.wle (hva.mono cb.up) V4) ?_;rintro u2 h2 ⟨hle2,hcl2⟩;have c2:=c1.ext hle2;refine⟨Vx (Vx cb.up c1.up) c2.wle,?_⟩;refine ah V0 (mh c2.wle (hm (hcl1.mono c1.up)) hcl2 aL) ?_;rintro _ hE ⟨hleE,vf,rfl,hvf⟩;have cE:=c2.ext hleE;simp;refine cE.bJ (k:=(0,0)) Own.an hvf rfl rfl V0 rfl rfl λh9 l9 hl9 c9=>?_;subst hz;simp[c9.all (k:=(0,0)) Own.an];exact hK _ _ (cu.of c9 (hl9▸hvf) rfl λy e=>by cases e;rfl)
 refine ah V0 (eS c1.wle (hva.mono cb.up) V4) ?_;rintro u2 h2 ⟨hle2,hcl2⟩;have c2:=c1.ext hle2;refine⟨Vx (Vx cb.up c1.up) c2.wle,?_⟩;refine aA (z:=zz8) (places:=zpb) (vs:=[(0,Vz VA 28),(1,Vz VA s.i.dst),(6,Vz VB s.i.imm.v),(7,.slice b1 s.i.args.length k1)]) (cs:=#[Vz VA 28,Vz VA s.i.dst,Vz VA 0,Vz VA 0,Vz VA 0,Vz VA 0,Vz VB s.i.imm.v,.slice b1 s.i.args.length k1]) V0 V0 V5 V0 ?_;refine⟨Vx (Vx cb.up c1.up) c2.wle,?_⟩;refine ah V0 (mh c2.wle (hm (hcl1.mono c1.up)) hcl2 aL) ?_;rintro _ hE ⟨hleE,vf,rfl,hvf⟩;have cE:=c2.ext hleE;simp;refine cE.bJ (k:=(0,0)) Own.an hvf rfl rfl V0 rfl rfl λh9 l9 hl9 c9=>?_;subst hz;simp[c9.all (k:=(0,0)) Own.an];exact hK _ _ (cu.of c9 (hl9▸hvf) rfl λy e=>by cases e;rfl)
theorem Nd(ct:Ct V S I s)(hV:V.le (vw h))(ha:2<=s.i.args.length/\s.i.args.length<=10000) :
  ay VI 199 #[ptz I] h (λu h'=>cu V h h' u (VC ⟨s.i.args,[],[⟨29,s.i.dst,s.i.two,nth s.i.args 0,nth s.i.args 1,0,⟨0⟩,[]⟩],cT⟩)):=by
 refine ao (args:=[ptz I]) follows Tryz.func199 E.gl Vu λK hK=>?_;dsimp only[L.gl,lkF,lkG];have c0:=Cx.start hV;refine aa λz hz=>?_;simp;refine c0.cV (k:=(0,0)) (n:=7) (z:=.agg fitZ.toArray) rfl V0 rfl V6 Vs λR hb hleb cb=>?_;subst hz;refine aa λz hz=>?_;have i1:=(ct.ins.part InsD.iG);have r1:=i1.rng;have i1:aq V ⟨I,1,VD⟩=VC (Vz VA s.i.dst):=by simpa using i1.int
 have i2:=(ct.ins.part InsD.BT);have r2:=i2.rng;have i2:aq V ⟨I,2,VD⟩=VC (Vz VA s.i.two):=by simpa using i2.int
 have i4:=(ct.ins.part InsD.lL);have r4:=i4.sP;have i4:aq V ⟨I,4,VD⟩=VC (Vz VB s.i.imm.v):=by simpa using i4.i32
 obtain⟨va,i3,hva⟩:=(ct.ins.part InsD.e9).sl;have i3:aq V ⟨I,3,VD⟩=VC va:=by simpa using i3
 have a0:=hva.rng (i:=0) V4;have a1:=hva.rng (i:=1) V4;have hm : ∀X,Rd X (.agg #[Vz VA 29,Vz VA s.i.dst,Vz VA s.i.two,Vz VA (nth s.i.args 0),Vz VA (nth s.i.args 1),Vz VA 0,Vz VB 0,VE VD 0 0]) (⟨29,s.i.dst,s.i.two,nth s.i.args 0,nth s.i.args 1,0,⟨0⟩,[]⟩:aU):=λX=>jZ Vt V5 aL;refine aN V cb.wle ?_;simp(disch:=omega)[i1,i2,i3,hva.idx1 rfl,hva.int Vw];refine⟨?_,?_⟩
 ·refine aA (z:=zz8) (places:=zpb) (vs:=[(0,Vz VA 29),(1,Vz VA s.i.dst),(2,Vz VA s.i.two),(3,Vz VA (nth s.i.args 0)),(4,Vz VA (nth s.i.args 1))]) (cs:=#[Vz VA 29,Vz VA s.i.dst,Vz VA s.i.two,Vz VA (nth s.i.args 0),Vz VA (nth s.i.args 1),Vz VA 0,Vz VB 0,VE VD 0 0]) V0 V0 V5 V0 ?_;refine⟨Vx Vw cb.wle,?_⟩;refine ah V0 (eS cb.wle (hva.mono Vw) V4) ?_;rintro u1 h1 ⟨hle1,hcl1⟩;have c1:=cb.ext hle1;refine⟨Vx (Vx Vw (cb.up)) c1.wle,?_⟩;refine ah V0 (mh c1.wle (hm _) hcl1 aL) ?_;rintro _ hE ⟨hleE,vf,rfl,hvf⟩;have cE:=c1.ext hleE;simp;refine cE.bJ (k:=(0,0)) Own.an hvf rfl rfl V0 rfl rfl λh9 l9 hl9 c9=>?_;subst hz;simp[c9.all (k:=(0,0)) Own.an];exact hK _ _ (cu.of c9 (hl9▸hvf) rfl λy e=>by cases e;rfl)
 refine ah V0 (eS cb.wle (hva.mono Vw) V4) ?_;rintro u1 h1 ⟨hle1,hcl1⟩;have c1:=cb.ext hle1;refine⟨Vx (Vx Vw (cb.up)) c1.wle,?_⟩;refine aA (z:=zz8) (places:=zpb) (vs:=[(0,Vz VA 29),(1,Vz VA s.i.dst),(2,Vz VA s.i.two),(3,Vz VA (nth s.i.args 0)),(4,Vz VA (nth s.i.args 1))]) (cs:=#[Vz VA 29,Vz VA s.i.dst,Vz VA s.i.two,Vz VA (nth s.i.args 0),Vz VA (nth s.i.args 1),Vz VA 0,Vz VB 0,VE VD 0 0]) V0 V0 V5 V0 ?_;refine⟨Vx (Vx Vw (cb.up)) c1.wle,?_⟩;refine ah V0 (mh c1.wle (hm _) hcl1 aL) ?_;rintro _ hE ⟨hleE,vf,rfl,hvf⟩;have cE:=c1.ext hleE;simp;refine cE.bJ (k:=(0,0)) Own.an hvf rfl rfl V0 rfl rfl λh9 l9 hl9 c9=>?_;subst hz;simp[c9.all (k:=(0,0)) Own.an];exact hK _ _ (cu.of c9 (hl9▸hvf) rfl λy e=>by cases e;rfl)
end
theorem HB(n:Int):-2147483648<=(w32 n).v/\(w32 n).v<=2147483647:=by unfold w32 IntKind.wrap;simp[IntKind.signed,IntKind.bits];omega
section
variable{W V:View}{S I R:Nat}{s:cG}{h:Heap}
theorem Ag{f:ak}{v lo hi:Int}(hr : ∀i∈ft f,-2147483648<=i.imm.v/\i.imm.v<=2147483647):-2147483648<=(fu f v lo hi).1/\(fu f v lo hi).1<=2147483647:=by
 unfold fu aK;cases hm:rC f v with
 | none=>exact⟨(by decide:(-2147483648:Int)<=0),(by decide:(0:Int)<=2147483647)⟩
 | some i=>exact hr i (T0 hm)
set_option maxHeartbeats 4000000 in
/-- addi to sari. -/
theorem Ke{L1 M1 O1 G1:Nat}{lo hi m sign:Int}(ct:Ct V S I s)(hV:V.le (vw h))(hok:np s)(ha:2<=s.i.args.length)(hl:aq V ⟨L1,0,VD⟩=VC (Vz VA lo))(hh:aq V ⟨M1,0,VD⟩=VC (Vz VA hi))(hm:aq V ⟨O1,0,VD⟩=VC (Vz VA m))(hg:aq V ⟨G1,0,VD⟩=VC (Vz VA sign))(hs:sign=1\/sign=-1)(hm0:0<=m/\m<=100):
    ay VI 194 #[ptz S,ptz I,ptz L1,ptz M1,ptz O1,ptz G1] h
      (λu h'=>cu V h h' u (immS s.f s.i m lo hi sign)):=by
  refine ao (args:=[ptz S,ptz I,ptz L1,ptz M1,ptz O1,ptz G1]) follows Tryz.func194 E.cZ Vu λK hK=>?_
  dsimp only[L.cZ,lkF,lkG]
  have c0:=Cx.start hV
  refine aa λz hz=>?_
  simp
  refine c0.cV (k:=(0,0)) (n:=7) (z:=.agg fitZ.toArray) rfl V0 rfl V6 Vs λR hb hleb cb=>?_
  subst hz
  have i1:=(ct.ins.part InsD.iG)
  have r1:=i1.rng
  have i1:aq V ⟨I,1,VD⟩=VC (Vz VA s.i.dst):=by simpa using i1.int
  obtain⟨va,i3,hva⟩:=(ct.ins.part InsD.e9).sl
  have i3:aq V ⟨I,3,VD⟩=VC va:=by simpa using i3
  have a0:=hva.rng (i:=0) V4
  have a1:=hva.rng (i:=1) V4
  obtain⟨us,hus,rus⟩:=ct.site.ldN rfl (N:=13) rfl
  have hus:=hus V Vw
  have most:=hok.one.most
  refine aa λz hz=>?_
  refine aN V cb.wle ?_
  simp(disch:=omega)[hus,i3,hva.idx1 rfl,hva.int Vw,hl,hh]
  refine ah V0 (yo cb.wle rus hok.sm a1) ?_
  rintro _ hc ⟨hle,rfl⟩
  have cc:Cx V h V hc _:=⟨cb.own.ext' hle,cb.old,Vx cb.le0 hle,cb.new⟩
  simp
  have rk:-2147483648<=(fu s.f (nth s.i.args 1) lo hi).1/\(fu s.f (nth s.i.args 1) lo hi).1<=2147483647:=Ag hok.rng
  generalize hk:(fu s.f (nth s.i.args 1) lo hi).1=k at *
  generalize hb2:(fu s.f (nth s.i.args 1) lo hi).2=ok at *
  subst hz
  refine aa λz hz=>?_
  refine aN V cc.wle ?_
  have e1:IntKind.i64.wrap (sign*k)=sign*k:=by rcases hs with rfl | rfl<;>exact bj V4 V4
  have hmm : ∀X,Rd X (.agg #[Vz VA m,Vz VA s.i.dst,Vz VA 0,Vz VA (nth s.i.args 0),Vz VA 0,Vz VA 0,Vz VB (IntKind.i32.wrap (sign*k)),VE VD 0 0]) (⟨m,s.i.dst,0,nth s.i.args 0,0,0,w32 (sign*k),[]⟩:aU):=λX=>jZ (imm:=w32 (sign*k)) Vt (HB _) aL
  have fin : ∀(W:View) (hx:Heap) (o:Own) (l9:List Value),Cx V h W hx o->Rd W (.agg l9.toArray) (⟨[nth s.i.args 0],[nth s.i.args 1],[⟨m,s.i.dst,0,nth s.i.args 0,0,0,w32 (sign*k),[]⟩],cT⟩:FitD)->K (.tuple #[.agg l9.toArray,.bool ok]) hx:=λW hx o l9 c hr=>
    hK _ _ (cu.of c hr (by unfold immS;rw[hb2];split<;>simp_all) λy e=>by
      unfold immS at e
      rw[hb2,hk]at e
      split at e<;>cases e
      rfl)
  have c:=cc
  have q0:=hva.idx1 (k:=.i64) (i:=0) rfl V6 V4
  have q1:=hva.idx1 (k:=.i64) (i:=1) rfl V6 V4
  have d0:=hva.int (View.le_refl V) (i:=0) V4
  have d1:=hva.int (View.le_refl V) (i:=1) V4
  repeat' (first
    | refine ju ?_ ?_
    | (refine dg λy hy=>?_
       simp[hm,hg,i1,i3,q0,q1,d0,d1,e1]
       first
       | refine aA (z:=.agg #[Vz VA 0,Vz VA 0,Vz VA 0,Vz VA 0,Vz VA 0,Vz VA 0,Vz VB 0,VE VD 0 0]) (places:=zpb) (vs:=[(0,Vz VA m),(1,Vz VA s.i.dst),(3,Vz VA (nth s.i.args 0)),(6,Vz VB (IntKind.i32.wrap (sign*k)))]) (cs:=#[Vz VA m,Vz VA s.i.dst,Vz VA 0,Vz VA (nth s.i.args 0),Vz VA 0,Vz VA 0,Vz VB (IntKind.i32.wrap (sign*k)),VE VD 0 0]) V0 V0 V5 V0 ?_
       | (refine c.nf (α:=Int) (n:=1) (vs:=[Vz VA (nth s.i.args 0)]) (ds:=[nth s.i.args 0]) El.aZ ?_ ⟨bu.2 ⟨rfl,a0⟩,trivial⟩ rfl V6 V6 λuA h W hW c huA hle=>?_
          · simp;done)
       | (refine c.nf (α:=Int) (n:=1) (vs:=[Vz VA (nth s.i.args 1)]) (ds:=[nth s.i.args 1]) El.aZ ?_ ⟨bu.2 ⟨rfl,a1⟩,trivial⟩ rfl V6 V6 λuB h W hW c huB hle=>?_
          · simp;done)
       | refine c.cV (k:=(0,1)) (n:=7) (z:=.agg fitZ.toArray) V7 V0 rfl V6 Vs λR2 h hle c=>?_
       | (refine ah V0 (mh c.wle (hmm _) (huA.mono Vv) (huB.mono Vv)) ?_
          rintro _ h ⟨hle,vf,rfl,hvf⟩
          have hW:=c.up (h':=h)
          have c:=c.ext hle)
       | refine c.bJ (k:=(0,1)) (n:=7) (l:=fitZ) V7 (hvf.mono Vv) rfl rfl V0 rfl rfl λh l9 hl9 c=>?_
       try refine⟨Vx Vv c.wle,?_⟩
       subst hy))
  all_goals
    simp
    rw[hz]
    subst hl9
    have hall:=c.all (k:=(0,1)) (n:=7) (l:=l9) (B:=R2) (e:=T.bf) V7
    simp at hall
    simp[hall]
    refine c.bJ (k:=(0,0)) (n:=7) (l:=fitZ) V7 (hvf.mono Vv) rfl rfl V0 rfl rfl λh9 l9' hl9' c9=>?_
    have hall:=c9.all (k:=(0,0)) (n:=7) (l:=l9') (B:=R) (e:=T.bf) V7
    simp at hall
    simp[hall]
    exact fin _ _ _ _ c9 (hl9'▸hvf.mono Vv)
end
variable{po:OP}
theorem HR{P:Program}{ty:TypeId}{us:List (Nat × Value)}{h:Heap}{K:Value->Heap->Prop}{f:FuncId}{x:Operand}{v:Value}(hx:asg us x=v)(hk:K (.func (.func f) #[v] #[]) h):step P (.makeFunc (.func f) #[x] #[]) ty us h K:=by refine dr (cO λw hw=>⟨_,w,?_,Same.refl _,by rw[hw];exact hk⟩);simp only[bQ,execOp];simp[Instr.makeFunc,hx]
theorem Ji{P:Program}{ty:TypeId}{us:List (Nat × Value)}{h:Heap}{K:Value->Heap->Prop}{f:FuncId}{t:Nat}{ops:List Operand}{T:Array TypeId}{first caps:Array Value}(hf:asg us (.tmp t) = .func (.func f) first caps){R:Value->Heap->Prop}(hfn:isFn P f=VG)
  (hc:ay P f (first.toList++ops.map (asg us)++caps.toList).toArray h R) (hk : ∀v h',R v h'->K v h'):step P (.call ⟨.value (.tmp t),ops.toArray,T⟩) ty us h K:=by
 refine dr (uN (R:=R) (f:=f) (args:=(first.toList++ops.map (asg us)++caps.toList).toArray) (λw _=>?_) hc hk);unfold isFn at hfn;cases hfn':P.funcs[f]? with
 | none=>simp[hfn']at hfn
 | some fn=>simp only[hfn',Se,bne_iff_ne,ne_eq]at hfn;obtain⟨h1,h2⟩:=hfn;simp[bQ,execOp,resolve,Deferred.ofValue,hf,invoke,callFunc,program,Sem.run,hfn',h1,Option.isNone];cases hb:fn.body<;>simp[hb]at h2 ⊢
end Go.Lft
namespace Go.Lft
section
variable{W V:View}{S I R:Nat}{s:cG}{h:Heap}
theorem fk{f:ak}{v op:Int}(hb:(aK f v op).2=VG):(aK f v op).1∈ft f/\(aK f v op).1.op=op/\cJ f v=VG/\(aK f v op).1.dst=v/\(aK f v op).1.op≠16:=by
 unfold aK at *;cases hm:rC f v with
 | none=>rw[hm]at hb;cases hb
 | some i=>rw[hm]at hb;have hb:(decide (i.op=op)&&cJ f v)=true:=hb;simp at hb;have hp:=Vk hm;simp[jQ]at hp;exact⟨T0 hm,hb.1,hb.2,hp.2,hp.1⟩
set_option maxHeartbeats 4000000 in
/-- madd. -/
theorem NC{Z:Nat}(ct:Ct V S I s)(hV:V.le (vw h))(hok:np s)(ha:2<=s.i.args.length)(hz0:aq V ⟨Z,0,VD⟩=VC (.func (.func 187) #[] #[])) :
    ay VI 196 #[ptz S,ptz I,ptz Z] h
      (λu h'=>cu V h h' u (doS s.f s.i s.temp 22)):=by
  refine ao (args:=[ptz S,ptz I,ptz Z]) follows Tryz.func196 E.gG Vu λK hK=>?_
  dsimp only[L.gG,lkF,lkG]
  have c0:=Cx.start hV
  refine aa λz hz=>?_
  simp
  refine c0.cV (k:=(0,0)) (n:=7) (z:=.agg fitZ.toArray) rfl V0 rfl V6 Vs λR hb hleb cb=>?_
  subst hz
  have i1:=(ct.ins.part InsD.iG)
  have r1:=i1.rng
  have i1:aq V ⟨I,1,VD⟩=VC (Vz VA s.i.dst):=by simpa using i1.int
  obtain⟨va,i3,hva⟩:=(ct.ins.part InsD.e9).sl
  have i3:aq V ⟨I,3,VD⟩=VC va:=by simpa using i3
  have a0:=hva.rng (i:=0) V4
  have a1:=hva.rng (i:=1) V4
  obtain⟨us,hus,rus⟩:=ct.site.ldN rfl (N:=13) rfl
  have q0:=hva.idx1 (k:=.i64) (i:=0) rfl V6 V4
  have q1:=hva.idx1 (k:=.i64) (i:=1) rfl V6 V4
  refine aa λz hz=>?_
  simp[hus _ cb.wle]
  refine HR rfl ?_
  subst hz
  refine aa λz hz=>?_
  simp[ae cb.wle i3,q0,hva.int cb.wle (i:=0) V4]
  refine Ji (ops:=[.tmp 15,.const (Vz VA 4)]) rfl V0 (pI (x:=nth s.i.args 0) (op:=4) cb.wle rus hok.sm a0) ?_
  rintro _ hc ⟨hle,vm,rfl,hvm⟩
  have cc:=cb.ext hle
  have hWc:=cb.up (h':=hc)
  have hdo:doS s.f s.i s.temp 22=if(aK s.f (nth s.i.args 0) 4).2 then
      VC ⟨[nth (aK s.f (nth s.i.args 0) 4).1.args 0,nth (aK s.f (nth s.i.args 0) 4).1.args 1,nth s.i.args 1],[nth s.i.args 0],[⟨23,s.i.dst,0,nth (aK s.f (nth s.i.args 0) 4).1.args 0,nth (aK s.f (nth s.i.args 0) 4).1.args 1,nth s.i.args 1,⟨0⟩,[]⟩],cT⟩
    else none:=rfl
  have hfm:=fk (f:=s.f) (v:=nth s.i.args 0) (op:=4)
  generalize (aK s.f (nth s.i.args 0) 4).1=m at *
  generalize (aK s.f (nth s.i.args 0) 4).2=b at *
  simp
  refine cc.eu (α:=InsD) hvm (n:=5) (z:=zz5) V0 rfl rfl V0 V8 V8 λB2 hd Wd hWd cd hat2 hle2=>?_
  subst hz
  have vw1:V.le Wd:=Vx hWc hWd
  refine aa λz hz=>?_
  cases b with
  | false=>
    simp[ae (Vx vw1 cd.wle) hz0]
    refine bW (ops:=[]) rfl V0 (Hz cd.wle) ?_
    rintro _ he ⟨hle3,vf,x,rfl,hvf,-⟩
    have ce:=cd.ext hle3
    simp
    refine ce.bJ (k:=(0,0)) (n:=7) (l:=fitZ) V7 hvf rfl rfl V0 rfl rfl λh9 l9 hl9 c9=>?_
    simp[c9.all (k:=(0,0)) Own.an]
    exact hK _ _ (cu.of c9 (hl9▸hvf) (by rw[hdo];rfl) λy e=>by rw[hdo]at e;cases e)
  | true=>
    obtain⟨m1,m2,-⟩:=hfm rfl
    have hma:=(hok.all _ m1).two V4
    have r2:=hok.all _ m1
    obtain⟨vb,j3,hvb⟩:=(hat2.part InsD.e9).sl
    have j3:aq Wd ⟨B2,3,VD⟩=VC vb:=by simpa using j3
    have b0:=hvb.rng (i:=0) V4
    have b1:=hvb.rng (i:=1) V4
    simp
    subst hz
    refine aa λz hz=>?_
    refine aN Wd cd.wle ?_
    have hmm : ∀X,Rd X (.agg #[Vz VA 23,Vz VA s.i.dst,Vz VA 0,Vz VA (nth m.args 0),Vz VA (nth m.args 1),Vz VA (nth s.i.args 1),Vz VB 0,VE VD 0 0]) (⟨23,s.i.dst,0,nth m.args 0,nth m.args 1,nth s.i.args 1,⟨0⟩,[]⟩:aU):=λX=>jZ (imm:=⟨0⟩) Vt V5 aL
    have fin : ∀(W:View) (hx:Heap) (o:Own) (l9:List Value),Cx V h W hx o->Rd W (.agg l9.toArray) (⟨[nth m.args 0,nth m.args 1,nth s.i.args 1],[nth s.i.args 0],[⟨23,s.i.dst,0,nth m.args 0,nth m.args 1,nth s.i.args 1,⟨0⟩,[]⟩],cT⟩:FitD)->K (.tuple #[.agg l9.toArray,.bool VG]) hx:=λW hx o l9 c hr=>
      hK _ _ (cu.of c hr (by rw[hdo];rfl) λy e=>by rw[hdo]at e;cases e;rfl)
    have c:=cd
    have i1:=ae vw1 i1
    have i3:=ae vw1 i3
    have q2:=hvb.idx1 (k:=.i64) (i:=0) rfl V6 V4
    have q3:=hvb.idx1 (k:=.i64) (i:=1) rfl V6 V4
    have d0:=hva.int vw1 (i:=0) V4
    have d1:=hva.int vw1 (i:=1) V4
    have d2:=hvb.int (View.le_refl Wd) (i:=0) V4
    have d3:=hvb.int (View.le_refl Wd) (i:=1) V4
    repeat' (first
      | refine ju ?_ ?_
      | (refine dg λy hy=>?_
         simp[i1,i3,j3,q0,q1,q2,q3,d0,d1,d2,d3]
         first
         | refine aA (z:=.agg #[Vz VA 0,Vz VA 0,Vz VA 0,Vz VA 0,Vz VA 0,Vz VA 0,Vz VB 0,VE VD 0 0]) (places:=zpb) (vs:=[(0,Vz VA 23),(1,Vz VA s.i.dst),(3,Vz VA (nth m.args 0)),(4,Vz VA (nth m.args 1)),(5,Vz VA (nth s.i.args 1))]) (cs:=#[Vz VA 23,Vz VA s.i.dst,Vz VA 0,Vz VA (nth m.args 0),Vz VA (nth m.args 1),Vz VA (nth s.i.args 1),Vz VB 0,VE VD 0 0]) V0 V0 V5 V0 ?_
         | (refine c.nf (α:=Int) (n:=3) (vs:=[Vz VA (nth m.args 0),Vz VA (nth m.args 1),Vz VA (nth s.i.args 1)]) (ds:=[nth m.args 0,nth m.args 1,nth s.i.args 1]) El.aZ ?_ ⟨bu.2 ⟨rfl,b0⟩,bu.2 ⟨rfl,b1⟩,bu.2 ⟨rfl,a1⟩,trivial⟩ rfl V6 V6 λuA h W hW c huA hle=>?_
            · simp;done)
         | (refine c.nf (α:=Int) (n:=1) (vs:=[Vz VA (nth s.i.args 0)]) (ds:=[nth s.i.args 0]) El.aZ ?_ ⟨bu.2 ⟨rfl,a0⟩,trivial⟩ rfl V6 V6 λuB h W hW c huB hle=>?_
            · simp;done)
         | (refine ah V0 (mh c.wle (hmm _) (huA.mono Vv) (huB.mono Vv)) ?_
            rintro _ h ⟨hle,vf,rfl,hvf⟩
            have hW:=c.up (h':=h)
            have c:=c.ext hle)
         | refine c.bJ (k:=(0,0)) (n:=7) (l:=fitZ) V7 (hvf.mono Vv) rfl rfl V0 rfl rfl λh l9 hl9 c=>?_
         try refine⟨Vx Vv c.wle,?_⟩
         subst hy))
    all_goals
      simp
      rw[hz]
      have hall:=c.all (k:=(0,0)) (n:=7) (l:=l9) (B:=R) (e:=T.bf) V7
      simp at hall
      simp[hall]
      exact fin _ _ _ _ c (hl9▸hvf.mono Vv)
end
structure Pm(f:ak)(i:InsD)(temp:Int)(W:View)(h:Heap)(r:Nat)(n:Int->Bool):Prop where
 wle:W.le (vw h)
 av:W r=VD
 ex : ∃g:Int->Option Value,dh (.int .i64) h r (mapE id g)/\(∀p,(g p).isSome=n p)/\∀p v,g p=VC v->rE W v (patS f i temp p)
section
variable{f:ak}{i:InsD}{temp:Int}{W:View}{h h':Heap}{r S I O Z:Nat}{n:Int->Bool}
theorem Pm.ext(m:Pm f i temp W h r n)(hle:(vw h).le (vw h')):Pm f i temp (grow W h h') h' r n:=by obtain⟨g,h1,h2,h3⟩:=m.ex;exact⟨km (Vx m.wle hle),by rw[hZ h1.lt];exact m.av,g,h1.ext hle,h2,λp v hp=>(h3 p v hp).mono (bC m.wle)⟩
theorem Pm.put(m:Pm f i temp W h r n){g:Int->Option Value}{p:Int}{v:Value}(hg:dh (.int .i64) h' r (mapE id (putM g p v)))(h2 : ∀q,(g q).isSome=n q)(h3 : ∀q u,g q=VC u->rE W u (patS f i temp q))(hv:rE W v (patS f i temp p))(ho : ∀b,b≠r->h'[b]? = h[b]?) :
  Pm f i temp W h' r λq=>n q||decide (q=p):=by
 refine⟨λb o hb=>?_,m.av,_,hg,λq=>?_,λq u hq=>?_⟩
 ·show h'[b]? = _;rw[ho b (by rintro rfl;rw[m.av]at hb;cases hb)];exact m.wle b o hb
 ·unfold putM;by_cases e:q=p
  ·simp[e]
  simp[e,h2]
 unfold putM at hq;split at hq
 ·rename_i e;cases hq;rw[e];exact hv
 exact h3 q u hq
theorem Gi:rE W (.func (.func 187) #[] #[]) none:=⟨_,_,rfl,by kernel_rfl,λh V _ hV=>Hz hV⟩
structure Wn(W:View)(s:cG)(S I O Z r:Nat):Prop where
 term:aq W ⟨S,11,VD⟩=VC (.bool VH)
 op:aq W ⟨I,0,VD⟩=VC (Vz VA s.i.op)
 out:aq W ⟨O,0,VD⟩=VC (.map (VC r))
 zero:aq W ⟨Z,0,VD⟩=VC (.func (.func 187) #[] #[])
theorem Wn.mono{W':View}{s:cG}(w:Wn W s S I O Z r)(h:W.le W'):Wn W' s S I O Z r:=⟨ae h w.term,ae h w.op,ae h w.out,ae h w.zero⟩
theorem kY{s:cG}{op pat:Int}{v:Value}(m:Pm s.f s.i s.temp W h r n)(w:Wn W s S I O Z r)(hn:n pat=VH)(hp:1<=pat/\pat<=32)(hop:opOf pat.toNat=op)(hv:s.i.op=op->rE W v (doS s.f s.i s.temp pat.toNat)) :
  ay VI 188 #[Vz VA op,Vz VA pat,v,ptz S,ptz I,ptz O,ptz Z] h
   (λ_ h'=>Pm s.f s.i s.temp W h' r (λq=>n q||decide (q=pat))/\Kept h h' (VC r)):=by
 refine ao (args:=[Vz VA op,Vz VA pat,v,ptz S,ptz I,ptz O,ptz Z]) follows Tryz.func188 E.gy Vu λK hK=>?_;dsimp only[L.gy,lkF,lkG];have wh:=w.mono m.wle;obtain⟨g,h1,h2,h3⟩:=m.ex;have hg:g pat=none:=by have:=h2 pat;rw[hn]at this;simpa using this
 by_cases c:s.i.op=op
 ·simp[wh.term,wh.op,wh.out,c];refine kS (.inl rfl) (t:=T.cY) (k:=T.int) (e:=T.gR) (u:=Vz VA pat) U.cY U.int rfl rfl rfl cM h1 (mapE id (putM g pat v)) gX.1 gX.2 λh2' hs ho hm=>?_;exact hK _ _ ⟨m.put hm h2 h3 (by unfold patS;rw[if_pos ⟨hp.1,hp.2,by rw[hop];exact c⟩];exact hv c) ho,Kept.upd hs ho⟩
 simp[wh.term,wh.op,wh.out,c];refine xO (f:=mapE id g) (z:=.nilFunc) (k:=T.int) (e:=T.gR) (d:=.int .i64) (r:=r) (u:=Vz VA pat) U.cY U.int V0 rfl rfl cM h1 ?_;simp[hg];refine NS (v:=.nilFunc) (ps:=#[]) (rs:=#[T.bf,T.bool]) (vr:=false) V0 rfl rfl rfl ?_;simp[Cs,wh.out,wh.zero];refine kS (.inl rfl) (t:=T.cY) (k:=T.int) (e:=T.gR) (u:=Vz VA pat) U.cY U.int rfl rfl rfl cM h1 (mapE id (putM g pat (.func (.func 187) #[] #[]))) gX.1 gX.2 λh2' hs ho hm=>?_;exact hK _ _ ⟨m.put hm h2 h3 (by unfold patS;rw[if_neg (by rintro⟨-,-,e⟩;rw[hop]at e;exact c e)];exact Gi) ho,Kept.upd hs ho⟩
end
section
variable{po po2:OP}{W:View}{h h':Heap}{r S I O Z:Nat}{n:Int->Bool}{s:cG}
structure Up(W:View)(h:Heap)(W':View):Prop where
 le:W.le W'
 old:Old W h W'
theorem Up.trans{W' W'':View}(u:Up W h W')(hs:h.size<=h'.size)(u':Up W' h' W''):Up W h W'':=⟨Vx u.le u'.le,λb o hb hx=>u.old b o hb (u'.old b o V4 hx)⟩
theorem yM(hW:W.le (vw h)):Up W h (grow W h h'):=⟨bC hW,(Old.refl _ _).grow (RX _)⟩
theorem Pm.ef{α:Type}[Rep α]{P:Program}{ty:TypeId}{us:List (Nat × Value)}{t:TypeId}{x:Operand}{v:Value}{d:α}{K:Value->Heap->Prop}(m:Pm s.f s.i s.temp W h r n)(hx:asg us x=v)(hv:Rd W v d)
  (hk : ∀B h' W',Up W h W'->Pm s.f s.i s.temp W' h' r n->At W' ⟨B,0,VD⟩ d->Kept h h' (VC r)->K (ptz B) h'):@Lft.step po P (.box t x) ty us h K:=by refine eI hx (hv.mono m.wle) λh1 hp hle hs _=>?_;exact hk _ _ _ (yM m.wle) (m.ext hle) (rh (t:=t) (fz:=(0,0)) (by rw[cg (RX _),hp];simp) (hv.mono (bC m.wle))) (Kept.of_le hle)
theorem Cn{op pat mo lo hi sign:Int}{B:Nat}(m:Pm s.f s.i s.temp W h r n)(w:Wn W s S I O Z r)(ct:Ct W S I s)(hB:aq W ⟨B,0,VD⟩=VC (.func (.func 188) #[] #[ptz S,ptz I,ptz O,ptz Z]))
  (hn:n pat=VH) (hp:1<=pat/\pat<=32) (hop:opOf pat.toNat=op) (hok:np s) (h2:2<=op/\op<=14) (hs:sign=1\/sign=-1) (hm0:0<=mo/\mo<=100) (hlo:I64 lo) (hhi:I64 hi) (hd:doS s.f s.i s.temp pat.toNat=immS s.f s.i mo lo hi sign) :
  ay VI 193 #[Vz VA op,Vz VA pat,Vz VA mo,Vz VA lo,Vz VA hi,Vz VA sign,ptz B,ptz S,ptz I] h
   (λ_ h'=>∃W',Up W h W'/\Pm s.f s.i s.temp W' h' r (λq=>n q||decide (q=pat))/\Kept h h' (VC r)):=by
 refine ao (args:=[Vz VA op,Vz VA pat,Vz VA mo,Vz VA lo,Vz VA hi,Vz VA sign,ptz B,ptz S,ptz I]) follows Tryz.func193 E.gq Vu λK hK=>?_;dsimp only[L.gq,lkF,lkG];refine aa λz hz=>?_;simp;refine m.ef (α:=Int) (d:=mo) rfl (bu.2 ⟨rfl,by omega,by omega⟩) λB1 h1 W1 u1 m1 a1 k1=>?_;have l1:=u1.le;refine m1.ef (α:=Int) (d:=lo) rfl (bu.2 ⟨rfl,hlo⟩) λB2 h2' W2 u2 m2 a2 k2=>?_;have l2:=u2.le;refine m2.ef (α:=Int) (d:=hi) rfl (bu.2 ⟨rfl,hhi⟩) λB3 h3 W3 u3 m3 a3 k3=>?_;have l3:=u3.le;refine m3.ef (α:=Int) (d:=sign) rfl (bu.2 ⟨rfl,by omega,by omega⟩) λB4 h4 W4 u4 m4 a4 k4=>?_;have l4:=u4.le;have l14:=Vx l2 (Vx l3 l4);have l04:=Vx l1 l14;have w4:=w.mono l04;have ct4:=ct.mono l04;subst hz;simp[ae (Vx l04 m4.wle) hB];refine bW (ops:=[.tmp 16,.tmp 17,.tmp 18]) rfl V0 (kY (op:=op) (pat:=pat) (v:=.func (.func 194) #[] #[ptz S,ptz I,ptz B2,ptz B3,ptz B1,ptz B4]) m4 w4 hn hp hop λho=>?_) ?_
 ·rw[hd];have ha:=hok.one.two V4;exact⟨_,_,rfl,by kernel_rfl,λh V hW hV=>Ke (ct4.mono hW) hV hok ha (ae (Vx (Vx l3 l4) hW) a2.int) (ae (Vx l4 hW) a3.int) (ae (Vx l14 hW) a1.int) (ae hW a4.int) hs hm0⟩
 rintro _ h5 ⟨m5,k5⟩;exact hK _ _ ⟨W4,u1.trans k1.size (u2.trans k2.size (u3.trans k3.size u4)),m5,k1.trans (k2.trans (k3.trans (k4.trans k5)))⟩
theorem Pm.eu{P:Program}{ty:TypeId}{us:List (Nat × Value)}{t ty2:TypeId}{k:Nat}{z:Value}{x y:Operand}{us2:Value->List (Nat × Value)}{v:Value}{K:Value->Heap->Prop}(m:Pm s.f s.i s.temp W h r n)(hz:(P.info? t).map (·.zero)=VC (VC z))(hzc:z.cells.size=k)(hsz:da P t=VC k)(hv:v.cells.size=k)(h1 : ∀c∈v.cells.toList,c.oneCell'=VG)
  (hx : ∀p,asg (us2 p) x=p) (hy : ∀p,asg (us2 p) y=v) (hk : ∀B h' W',Up W h W'->Pm s.f s.i s.temp W' h' r n->W' B=VC (.cells v.cells t (0,0))->Kept h h' (VC r)->K (ptz B) h') :
  @Lft.step po P (.alloc t) ty us h λp h2=>@Lft.step po2 P (.store t x y) ty2 (us2 p) h2 λ_ h3=>K p h3:=
 gA hz hzc hsz hv h1 hx hy λh' hle hs hb=>hk _ _ _ (yM m.wle) (m.ext hle) (by rw[cg (RX _)];exact hb) (Kept.of_le hle)
structure Mx(W:View)(S I O P Q L T:Nat)(s:cG)(op plain sum:Int):Prop where
 ct:Ct W S I s
 op:aq W ⟨O,0,VD⟩=VC (Vz VA op)
 plain:aq W ⟨P,0,VD⟩=VC (Vz VA plain)
 sum:aq W ⟨Q,0,VD⟩=VC (Vz VA sum)
 laid:aq W ⟨L,0,VD⟩=VC (.func (.func 225) #[] #[ptz O,ptz I,ptz P])
 with_:aq W ⟨T,0,VD⟩=VC (.func (.func 226) #[] #[ptz I])
theorem Mx.mono{W':View}{P Q L T:Nat}{op plain sum:Int}(m:Mx W S I O P Q L T s op plain sum)(h:W.le W'):Mx W' S I O P Q L T s op plain sum:=
 ⟨m.ct.mono h,ae h m.op,ae h m.plain,ae h m.sum,ae h m.laid,ae h m.with_⟩
abbrev ptr(B:Nat):Value:=ptz B
def iu:Prop:=∀(V:View) (h:Heap) (s:cG) (S I O P Q L T:Nat) (op plain sum:Int),Mx V S I O P Q L T s op plain sum->V.le (vw h)->np s->s.i.op=op->(op=15\/op=16)->plain≠sum->(0<=plain/\plain<=100)->(0<=sum/\sum<=100)->-9223372036854775808<=s.temp/\s.temp<=9223372036854775807->
 ay VI 227 #[ptr L,ptr P,ptr I,ptr T] h (λu h'=>cu V h h' u (memS s.f s.i s.temp op plain sum 0))/\
 ay VI 228 #[ptr S,ptr I,ptr L,ptr P,ptr T] h (λu h'=>cu V h h' u (memS s.f s.i s.temp op plain sum 1))/\
 ay VI 229 #[ptr S,ptr I,ptr L,ptr Q,ptr T] h (λu h'=>cu V h h' u (memS s.f s.i s.temp op plain sum 2))/\
 ay VI 230 #[ptr S,ptr I,ptr T,ptr L,ptr Q] h (λu h'=>cu V h h' u (memS s.f s.i s.temp op plain sum 3))
theorem cell_of{B:Nat}{v:Value}{t:TypeId}(h:W B=VC (.cells v.cells t (0,0)))(h1:v.cells = #[v]):aq W ⟨B,0,VD⟩=VC v:=by simp[aq,h,h1]
theorem BH{op pat plain sum:Int}{vs:Value}(m:Pm s.f s.i s.temp W h r n)(w:Wn W s S I O Z r)(hvs:Rd W vs s)
  (hn : ∀k,0<=k->k<4->n (pat+k)=VH) (hp:1<=pat/\pat<=28) (hop : ∀k:Int,0<=k->k<4->opOf (pat+k).toNat=op) (hok:np s) (h2:op=15\/op=16) (hne:plain≠sum) (hpl:0<=plain/\plain<=100) (hsu:0<=sum/\sum<=100)
  (hM:s.i.op=op->iu) (hd : ∀k:Nat,k<4->doS s.f s.i s.temp (pat+k).toNat=memS s.f s.i s.temp op plain sum k) :
  ay VI 197 #[vs,.func (.func 188) #[] #[ptr S,ptr I,ptr O,ptr Z],Vz VA pat,Vz VA op,Vz VA plain,Vz VA sum] h
   (λ_ h'=>∃W',Up W h W'/\Pm s.f s.i s.temp W' h' r (λq=>n q||decide (pat<=q/\q<pat+4))/\Kept h h' (VC r)):=by
 refine ao (args:=[vs,.func (.func 188) #[] #[ptr S,ptr I,ptr O,ptr Z],Vz VA pat,Vz VA op,Vz VA plain,Vz VA sum]) follows Tryz.func197 E.jK Vu λK hK=>?_;dsimp only[L.jK,lkF,lkG];refine aa λz hz=>?_;simp;refine m.ef (d:=s) rfl hvs λB1 h1 W1 u1 m1 a1 k1=>?_;have l1:=u1.le;refine m1.ef (α:=Int) (d:=op) rfl (bu.2 ⟨rfl,by omega,by omega⟩) λB2 h2' W2 u2 m2 a2 k2=>?_;have l2:=u2.le;refine m2.ef (α:=Int) (d:=plain) rfl (bu.2 ⟨rfl,by omega,by omega⟩) λB3 h3 W3 u3 m3 a3 k3=>?_;have l3:=u3.le;refine m3.ef (α:=Int) (d:=sum) rfl (bu.2 ⟨rfl,by omega,by omega⟩) λB4 h4 W4 u4 m4 a4 k4=>?_;have l4:=u4.le;subst hz;refine aa λz hz=>?_;have l24:=Vx l3 l4;have l14:=Vx l2 l24;obtain⟨ui,hui,rui⟩:=(a1.part cG.RA).ldN rfl (N:=5) rfl;have hui:=hui _ (Vx l14 m4.wle);have hui:Un.ev (vw h4) (.bI 5) (VF (VC ⟨B1,2,VD⟩))=VC ui:=by simpa using hui
 obtain⟨c1,c2,c3⟩:=gn rui;simp[hui];refine m4.eu (k:=5) (z:=zz5) V0 rfl V0 c2 c3 V8 V8 λB5 h5 W5 u5 m5 b5 k5=>?_;have l5:=u5.le;have a5:At W5 ⟨B5,0,VD⟩ s.i:=rh b5 (rui.mono (Vx l14 l5));subst hz;refine aa λz hz=>?_;simp;refine m5.eu (k:=1) (z:=.nilFunc) (v:=.func (.func 225) #[] #[ptr B2,ptr B5,ptr B3]) V0 rfl V0 rfl Vs V8 V8 λB6 h6 W6 u6 m6 b6 k6=>?_;have l6:=u6.le;subst hz;refine aa λz hz=>?_;simp;refine m6.eu (k:=1) (z:=.nilFunc) (v:=.func (.func 226) #[] #[ptr B5]) V0 rfl V0 rfl Vs V8 V8 λB7 h7 W7 u7 m7 b7 k7=>?_;have l7:=u7.le;have l57:=Vx l6 l7;have l47:=Vx l5 l57;have l17:=Vx l14 l47;have mx:Mx W7 B1 B5 B2 B3 B4 B6 B7 s op plain sum:=⟨⟨a1.mono l17,a5.mono l57⟩,ae (Vx l24 l47) a2.int,ae (Vx l4 l47) a3.int,ae l47 a4.int,ae l7 (cell_of b6 rfl),cell_of b7 rfl⟩;have w7:=w.mono (Vx l1 l17);have tr:-9223372036854775808<=s.temp/\s.temp<=9223372036854775807:=(a1.part cG.Gm).rng;have hn0:=hn 0 V4 V4;have fits:s.i.op=op->rE W7 (.func (.func 227) #[] #[ptr B6,ptr B3,ptr B5,ptr B7]) (memS s.f s.i s.temp op plain sum 0)/\rE W7 (.func (.func 228) #[] #[ptr B1,ptr B5,ptr B6,ptr B3,ptr B7]) (memS s.f s.i s.temp op plain sum 1)/\
   rE W7 (.func (.func 229) #[] #[ptr B1,ptr B5,ptr B6,ptr B4,ptr B7]) (memS s.f s.i s.temp op plain sum 2)/\rE W7 (.func (.func 230) #[] #[ptr B1,ptr B5,ptr B7,ptr B6,ptr B4]) (memS s.f s.i s.temp op plain sum 3):=λho=>
  ⟨⟨_,_,rfl,by kernel_rfl,λh V hW hV=>(hM ho V h s _ _ _ _ _ _ _ op plain sum (mx.mono hW) hV hok ho h2 hne hpl hsu tr).1⟩,⟨_,_,rfl,by kernel_rfl,λh V hW hV=>(hM ho V h s _ _ _ _ _ _ _ op plain sum (mx.mono hW) hV hok ho h2 hne hpl hsu tr).2.1⟩,
   ⟨_,_,rfl,by kernel_rfl,λh V hW hV=>(hM ho V h s _ _ _ _ _ _ _ op plain sum (mx.mono hW) hV hok ho h2 hne hpl hsu tr).2.2.1⟩,⟨_,_,rfl,by kernel_rfl,λh V hW hV=>(hM ho V h s _ _ _ _ _ _ _ op plain sum (mx.mono hW) hV hok ho h2 hne hpl hsu tr).2.2.2⟩⟩;subst hz;refine aa λz hz=>?_;simp[ae m7.wle mx.op];refine bW (ops:=[.tmp 20,.tmp 21,.tmp 22]) rfl V0 (kY (op:=op) (pat:=pat) m7 w7 (by simpa using hn0) V4 (by simpa using hop 0 V4 V4) λho=>by have:=hd 0 V4;simp at this;rw[this];exact(fits ho).1) ?_;rintro _ h8 ⟨m8,k8⟩;subst hz;refine aa λz hz=>?_;have e1:IntKind.i64.wrap (pat+1)=pat+1:=bj V4 V4;simp[ae m8.wle mx.op,e1];refine bW (ops:=[.tmp 25,.tmp 27,.tmp 28]) rfl V0 (kY (op:=op) (pat:=pat+1) m8 w7 (by have:=hn 1 V4 V4;simp[this]<;>omega) V4 (hop 1 V4 V4) λho=>by have:=hd 1 V4;simp at this;rw[this];exact(fits ho).2.1) ?_;rintro _ h9 ⟨m9,k9⟩;subst hz;refine aa λz hz=>?_;have e1:IntKind.i64.wrap (pat+2)=pat+2:=bj V4 V4;simp[ae m9.wle mx.op,e1];refine bW (ops:=[.tmp 31,.tmp 33,.tmp 34]) rfl V0 (kY (op:=op) (pat:=pat+2) m9 w7 (by have:=hn 2 V4 V4;simp[this]<;>omega) V4 (hop 2 V4 V4) λho=>by have:=hd 2 V4;simp at this;rw[this];exact(fits ho).2.2.1) ?_;rintro _ h10 ⟨m10,k10⟩;subst hz;have e1:IntKind.i64.wrap (pat+3)=pat+3:=bj V4 V4;simp[ae m10.wle mx.op,e1];refine bW (ops:=[.tmp 37,.tmp 39,.tmp 40]) rfl V0 (kY (op:=op) (pat:=pat+3) m10 w7 (by have:=hn 3 V4 V4;simp[this]<;>omega) V4 (hop 3 V4 V4) λho=>by have:=hd 3 V4;simp at this;rw[this];exact(fits ho).2.2.2) ?_;rintro _ h11 ⟨m11,k11⟩;refine hK _ _ ⟨W7,u1.trans k1.size (u2.trans k2.size (u3.trans k3.size (u4.trans k4.size (u5.trans k5.size (u6.trans k6.size u7))))),?_,k1.trans (k2.trans (k3.trans (k4.trans (k5.trans (k6.trans (k7.trans (k8.trans (k9.trans (k10.trans k11)))))))))⟩
 have e:(λq=>n q||decide (pat<=q/\q<pat+4))=λq=>(((n q||decide (q=pat))||decide (q=pat+1))||decide (q=pat+2))||decide (q=pat+3):=by
  funext q;cases n q with
  | true=>simp
  | false=>rw[SI];simp;omega
 rw[e];exact m11
end
section
variable{W V:View}{h h':Heap}{r S I O Z:Nat}{n:Int->Bool}{s:cG}
def nTo(m:Int):Int->Bool:=λq=>decide (1<=q/\q<=m)
theorem Pm.to{a b:Int}(m:Pm s.f s.i s.temp W h r (λq=>nTo a q||decide (q=b)))(hb:b=a+1)(ha:0<=a):Pm s.f s.i s.temp W h r (nTo b):=by
 have e:(λq=>nTo a q||decide (q=b))=nTo b:=by funext q;unfold nTo;rw[SI];simp;omega
 rw[<-e];exact m
theorem Pm.to4{a b:Int}(m:Pm s.f s.i s.temp W h r (λq=>nTo a q||decide (b<=q/\q<b+4)))(hb:b=a+1)(ha:0<=a):Pm s.f s.i s.temp W h r (nTo (a+4)):=by
 have e:(λq=>nTo a q||decide (b<=q/\q<b+4))=nTo (a+4):=by funext q;unfold nTo;rw[SI];simp;omega
 rw[<-e];exact m
theorem Na{f:ak}{i:InsD}{temp:Int}{p:Nat}(h:3<=p/\p<=15):doS f i temp p=VC ⟨i.args,[],[⟨p+2,i.dst,0,nth i.args 0,nth i.args 1,0,⟨0⟩,[]⟩],cT⟩:=by unfold doS;rw[if_neg V4,if_neg V4,if_pos V4]
theorem EV{vs:Value}{W0:View}(hW:W0.le (vw h))(hvs:Rd W0 vs s)(hok:np s)(hterm:s.term=VH)(hM:s.i.op=15\/s.i.op=16->iu):
  ay VI 139 #[vs] h (λu h'=>∃r W',u = .map (VC r)/\Up W0 h W'/\Pm s.f s.i s.temp W' h' r (nTo 32)/\(vw h).le (vw h')):=by
 refine ao (args:=[vs]) follows Tryz.func139 E.bw Vu λK hK=>?_;dsimp only[L.bw,lkF,lkG];have c0:=Cx.start hW;refine aa λz hz=>?_;simp;refine c0.ef rfl hvs λS h1 W1 hW1 c1 at1 hle1=>?_;subst hz;refine aa λz hz=>?_;obtain⟨ui,hui,rui⟩:=(at1.part cG.RA).ldN rfl (N:=5) rfl;have hui:Un.ev (vw h1) (.bI 5) (VF (VC ⟨S,2,VD⟩))=VC ui:=by simpa using hui _ c1.wle
 simp[hui];refine c1.eu (α:=InsD) rui (n:=5) (z:=zz5) V0 rfl rfl V0 V8 V8 λI h2 W2 hW2 c2 at2 hle2=>?_;subst hz;refine aa λz hz=>?_;simp;refine gA (n:=1) (z:=.nilFunc) (v:=.func (.func 187) #[] #[]) V0 rfl V0 rfl Vs V8 V8 λh3 hle3 hs3 hb3=>?_;have c3:=c2.ext hle3;have hW3:=c2.up (h':=h3);have z3:aq (grow W2 h2 h3) ⟨h2.size,0,VD⟩=VC (.func (.func 187) #[] #[]):=cell_of (by rw[cg (RX _)];exact hb3) rfl;generalize grow W2 h2 h3=W3 at *;generalize h2.size=Z at z3;subst hz;refine aa λz hz=>?_;simp;refine lU ?_;have m3:dh (.int .i64) (h3.push (.map #[] 0)) h3.size (mapE id λ_=>VD):=by rw[mj];exact dh.none V5
 have q3:=b8 h3 (.map #[] 0);have av3:W3 h3.size=none:=View.bS c3.wle (RX _);have k3:Kept h3 (h3.push (.map #[] 0)) none:=Kept.push ..;have hsz:h3.size<(h3.push (.map #[] 0)).size:=by simp
 generalize h3.push (.map #[] 0)=h4 at *;obtain⟨r,hr⟩ : ∃r,r=h3.size:=⟨_,rfl⟩;rw[<-hr]at m3 av3 ⊢;have p4:Pm s.f s.i s.temp W3 h4 r (nTo 0):=⟨Vx c3.wle q3,av3,_,m3,λp=>by unfold nTo;simp;omega,λp v hp=>by cases hp⟩;have u03:Up W0 h W3:=⟨Vx hW1 (Vx hW2 hW3),c3.old⟩;have le04:(vw h).le (vw h4):=Vx c3.le0 q3;have hrs:h.size<=r:=by rw[hr];exact bL c3.le0
 refine p4.eu (k:=1) (z:=.map VD) (v:=.map (VC r)) V0 rfl V0 rfl Vs V8 V8 λO h5 W5 u5 p5 b5 k5=>?_;subst hz;refine aa λz hz=>?_;simp;refine p5.eu (k:=1) (z:=.nilFunc) (v:=.func (.func 188) #[] #[ptr S,ptr I,ptr O,ptr Z]) V0 rfl V0 rfl Vs V8 V8 λB h6 W6 u6 p6 b6 k6=>?_;have l16:W1.le W6:=Vx hW2 (Vx hW3 (Vx u5.le u6.le));have l26:W2.le W6:=Vx hW3 (Vx u5.le u6.le);have ct:Ct W6 S I s:=⟨at1.mono l16,at2.mono l26⟩;have w6:Wn W6 s S I O Z r:=⟨by have:=(ct.site.part cG.nh).bool;rw[hterm]at this;simpa using this,by simpa using(ct.ins.part InsD.xG).int,cell_of (u6.le _ _ b5) rfl,ae (Vx u5.le u6.le) z3⟩;have hB:aq W6 ⟨B,0,VD⟩=VC (.func (.func 188) #[] #[ptr S,ptr I,ptr O,ptr Z]):=cell_of b6 rfl;have s06:h.size<=h4.size:=bL le04;have u06:Up W0 h W6:=u03.trans s06 (u5.trans k5.size u6);have k46:=k5.trans k6;generalize W6=Wa at *;generalize h6=ha at *;clear b5 b6 k5 k6 u5 u6 p5 l16 l26 z3 hui at1 at2 c1 c2 c3;subst hz;refine aa λz hz=>?_;have hb:=ae p6.wle hB;simp[hb];refine bW (ops:=[.const (Vz VA 1),.const (Vz VA 1),.tmp 16]) rfl V0 (kY (op:=1) (pat:=1) p6 w6 V7 V4 V7 λho=>⟨_,_,rfl,by kernel_rfl,λh V hW hV=>M5 (ct.mono hW) hV⟩) ?_;rintro _ hc1 ⟨p7,k7⟩;have p7:=p7.to (a:=0) V7 V4;subst hz;refine aa λz hz=>?_;have hb:=ae p7.wle hB;simp[hb];refine bW (ops:=[.const (Vz VA 1),.const (Vz VA 2),.tmp 19]) rfl V0 (kY (op:=1) (pat:=2) p7 w6 V7 V4 V7 λho=>⟨_,_,rfl,by kernel_rfl,λh V hW hV=>Nq (ct.mono hW) hV⟩) ?_;rintro _ hc2 ⟨p8,k8⟩;have p8:=p8.to (a:=1) V7 V4;have k48:=k46.trans (k7.trans k8);subst hz;refine aa λz hz=>?_;refine aa λy hy=>?_;simp;refine p8.eu (k:=1) (z:=Vz VA 0) (v:=Vz VA 2) V0 rfl V0 rfl Vs V8 V8 λP0 h9 W9 u9 p9 b9 k9=>?_;have c9:aq W9 ⟨P0,0,VD⟩=VC (Vz VA ((2:Int)+(0:Nat))):=cell_of b9 rfl;have k49:=k48.trans k9;have u09:Up W0 h W9:=u06.trans (St s06 k48.size) u9;have l9:=u9.le;subst hy;simp only[aX];refine js [0,1,2,3,4,5,6,7] (λm ρ hx=>∃(k:Nat) (W:View) (P:Nat),k<=13/\m=13-k/\ρ=[(0,vs),(1,ptr S),(2,.map VD),(3,ptr I),(4,ptr Z),(5,ptr O),(6,ptr B),(7,ptr P)]/\Wa.le W/\Up W0 h W/\Pm s.f s.i s.temp W hx r (nTo (2+k))/\aq W ⟨P,0,VD⟩=VC (Vz VA ((2:Int)+k))/\Kept h4 hx (VC r)) 13
  ⟨0,W9,P0,by omega,rfl,rfl,l9,u09,by simpa using p9,c9,k49⟩ ?_;clear hb k7 k8 k9 p6 p7 p8 p9 b9 c9 k46 k48 k49 u9 u09 l9;rintro m ρ hx ⟨k,W,P,hk,rfl,rfl,lW,uW,pW,cP,kW⟩ K2 hK2;have cPx:=ae pW.wle cP;have hb:=ae (Vx lW pW.wle) hB;dsimp only[L.bw.l1,lkF,lkG];refine aa λx hx2=>?_;by_cases c:k<13
 ·have e14:(2:Int)+k<=14:=by omega
  simp[cPx,e14];rw[hx2];clear hx2 x;refine aa λx hx2=>?_;have e1:(3:Int)+(2+k)-2=3+k:=by omega
  simp(disch:=omega)[cPx,hb,e1];refine bW (ops:=[.tmp 26,.tmp 29,.tmp 30]) rfl V0 (kY (op:=2+k) (pat:=3+k) pW (w6.mono lW) (by unfold nTo;simp<;>omega) V4 (by unfold opOf;rw[if_neg V4,if_pos V4];try omega) λho=>?_) ?_
  ·rw[Na V4];have e:((3+(k:Int)).toNat:Int)+2=(2+(k:Int))+3:=by omega
   rw[e];exact⟨_,_,rfl,by kernel_rfl,λh V hW hV=>Nc ((ct.mono lW).mono hW) hV (ae hW cP) V4 ⟨hok.one.two V4,hok.one.most⟩⟩
  rintro _ hy1 ⟨pX,kX⟩;have pX:=pX.to (a:=2+k) V4 V4;rw[hx2];clear hx2 x;simp[ae pX.wle cP];refine gA (n:=1) (z:=Vz VA 0) (v:=Vz VA (2+k)) V0 rfl V0 rfl Vs V8 V8 λhy2 hle2 hs2 hb2=>?_;have cN:aq (vw hy2) ⟨hy1.size,0,VD⟩=VC (Vz VA (2+k)):=cell_of hb2 rfl;simp(disch:=omega)[cN];refine eJ (g:=hy1.size) (o:=0) (n:=1) (v:=Vz VA (2+k+1)) (cur:=(Vz VA (2+k)).cells) (e:=T.int) V0 rfl rfl rfl Vs hb2 (by simp[Value.cells]) λhy3 hs3 ⟨row,hr3,he3⟩ ho3=>?_;have hrow:row = #[Vz VA (2+k+1)]:=by rw[<-Array.toList_inj,he3];simp[Value.cells]
  rw[hrow]at hr3;have le13:(vw hy1).le (vw hy3):=λb o hb=>by have hlt:=View.lt (View.le_refl (vw hy1)) hb;show hy3[b]? = _;rw[ho3 b V4];exact hle2 b o hb
  have cN3:aq (grow W hy1 hy3) ⟨hy1.size,0,VD⟩=VC (Vz VA ((2:Int)+(k+1:Nat))):=by rw[show((2:Int)+(k+1:Nat))=2+k+1 by omega];simp[aq,cg (RX _),hr3]
  have uX:=yM (h':=hy3) pX.wle;have eN:(2:Int)+((k+1:Nat):Int)=3+k:=by omega
  refine hK2 (13-(k+1)) _ _ V4 ⟨k+1,_,hy1.size,by omega,rfl,rfl,Vx lW uX.le,uW.trans (St s06 (kW.trans kX).size) uX,?_,cN3,kW.trans (kX.trans (Kept.of_le le13))⟩;rw[eN];exact pX.ext le13
 have e13:k=13:=by omega
 subst e13;simp[cPx];clear hK2 cPx cP hx2 x;subst hz;refine aa λz hz=>?_;simp;subst hz;refine aa λz hz=>?_;simp;have ctW:=ct.mono lW;have wW:=w6.mono lW;have hBW:=ae lW hB;refine bW (ops:=[.const (Vz VA 2),.const (Vz VA 16),.const (Vz VA 18),.const (Vz VA (-128)),.const (Vz VA 127),.const (Vz VA 1)]) rfl V0 (Cn (op:=2) (pat:=16) (mo:=18) (lo:=-128) (hi:=127) (sign:=1) pW wW ctW hBW V7 V4 V7 hok V4 (.inl rfl) V4 (by constructor<;>decide) (by constructor<;>decide) rfl) ?_;rintro _ i1 ⟨V1,v1,p1,k1⟩;have p1:=p1.to (a:=15) V7 V4;subst hz;refine aa λz hz=>?_;simp;refine bW (ops:=[.const (Vz VA 3),.const (Vz VA 17),.const (Vz VA 18),.const (Vz VA (-127)),.const (Vz VA 128),.const (Vz VA (-1))]) rfl V0 (Cn (op:=3) (pat:=17) (mo:=18) (lo:=-127) (hi:=128) (sign:=-1) p1 (wW.mono v1.le) (ctW.mono v1.le) (ae v1.le hBW) V7 V4 V7 hok V4 (.inr rfl) V4 (by constructor<;>decide) (by constructor<;>decide) rfl) ?_;rintro _ i2 ⟨V2,v2,p2,k2⟩;have v12:=Vx v1.le v2.le;have p2:=p2.to (a:=16) V7 V4;subst hz;refine aa λz hz=>?_;simp;refine bW (ops:=[.const (Vz VA 5),.const (Vz VA 18),.const (Vz VA 19),.const (Vz VA (-128)),.const (Vz VA 127),.const (Vz VA 1)]) rfl V0 (Cn (op:=5) (pat:=18) (mo:=19) (lo:=-128) (hi:=127) (sign:=1) p2 (wW.mono v12) (ctW.mono v12) (ae v12 hBW) V7 V4 V7 hok V4 (.inl rfl) V4 (by constructor<;>decide) (by constructor<;>decide) rfl) ?_;rintro _ i3 ⟨V3,v3,p3,k3⟩;have v13:=Vx v12 v3.le;have p3:=p3.to (a:=17) V7 V4;have uV3:Up W0 h V3:=uW.trans (St s06 kW.size) (v1.trans k1.size (v2.trans k2.size v3));have kV3:=kW.trans (k1.trans (k2.trans k3));have lV3:=Vx lW v13;clear v1 v2 v3 v12 v13 p1 p2 k1 k2 k3 pW uW kW hBW wW ctW lW;subst hz;refine aa λz hz=>?_;refine aa λy hy=>?_;simp;refine qM (α:=Int) (n:=3) (X:=V3) (vs:=[Vz VA 8,Vz VA 9,Vz VA 10]) (ds:=[8,9,10]) El.aZ V5 ⟨bu.2 ⟨rfl,by decide,by decide⟩,bu.2 ⟨rfl,by decide,by decide⟩,bu.2 ⟨rfl,by decide,by decide⟩,trivial⟩ rfl V6 V6 λu40 i4 hle4 hs4 hu4 _=>?_;have hu4:=hu4 (grow V3 i3 i4) (bC p3.wle) (cg (RX _));have p4:=p3.ext hle4;have u4:=yM (h':=i4) p3.wle;have uV4:=uV3.trans (St s06 kV3.size) u4;have kV4:=kV3.trans (Kept.of_le hle4);have lV4:=Vx lV3 u4.le;subst hy;simp[hu4.len];refine aF [0,1,2,3,4,5,6,8,40,41,42] (fun(_:Unit) j=>[vs,ptr S,.map VD,ptr I,ptr Z,ptr O,ptr B,.func (.func 193) #[] #[ptr B,ptr S,ptr I],u40,Vz VA 3,Vz VA j])
  (λ_ j hx=>∃W,(grow V3 i3 i4).le W/\Up W0 h W/\Pm s.f s.i s.temp W hx r (nTo (18+j))/\Kept h4 hx (VC r)) 3 ()
  rfl V4 rfl ⟨_,View.le_refl _,uV4,by simpa using p4,kV4⟩ (λ_ _=>rfl) (λv i h1 hk m=>by simp) ?_ ?_
 ·rintro _ j hx hj ⟨W,lW,uW,pW,kW⟩ K2 hK2;have hux:=hu4.mono (Vx lW pW.wle);refine aa λx hx2=>?_;have hj3:j<[8,9,10].length:=hj;simp(disch:=omega)[hux.idx1 rfl,hux.int Vw];have h012:j=0\/j=1\/j=2:=by omega
  have ej:nth ([8,9,10]:List Int) j=8+(j:Int):=by rcases h012 with rfl | rfl | rfl<;>rfl
  rw[ej,hx2];clear hx2 x;simp(disch:=omega);have lWa:=Vx lV4 lW;refine bW (ops:=[.tmp 48,.tmp 50,.tmp 52,.const (Vz VA 0),.const (Vz VA 31),.const (Vz VA 1)]) rfl V0 (Cn (op:=8+j) (pat:=19+j) (mo:=20+j) (lo:=0) (hi:=31) (sign:=1) pW (w6.mono lWa) (ct.mono lWa) (ae lWa hB) (by unfold nTo;simp<;>omega) V4 (by rcases h012 with rfl | rfl | rfl<;>rfl) hok V4 (.inl rfl) V4 (by constructor<;>decide) (by constructor<;>decide) (by rcases h012 with rfl | rfl | rfl<;>rfl)) ?_;rintro _ hx3 ⟨W3,v3,p3,k3⟩;have p3:=p3.to (a:=18+j) V4 V4;refine hK2 () _ _ rfl rfl ⟨W3,Vx lW v3.le,uW.trans (St s06 kW.size) v3,?_,kW.trans k3⟩;rw[show(18:Int)+((j+1:Nat):Int)=19+j by omega];exact p3
 rintro _ hx ⟨W,lW,uW,pW,kW⟩;have lWa:=Vx lV4 lW;simp;subst hz;refine aa λz hz=>?_;have ctW:=ct.mono lWa;have wW:=w6.mono lWa;have hBW:=ae lWa hB;have hb:=ae pW.wle hBW;simp[hb];refine bW (ops:=[.const (Vz VA 2),.const (Vz VA 22),.tmp 56]) rfl V0 (kY (op:=2) (pat:=22) pW wW V7 V4 V7 λho=>⟨_,_,rfl,by kernel_rfl,λh V hW hV=>NC (ctW.mono hW) hV hok (hok.one.two V4) (ae hW wW.zero)⟩) ?_;rintro _ i1 ⟨p1,k1⟩;have p1:=p1.to (a:=21) V7 V4;subst hz;refine aa λz hz=>?_;obtain⟨us,hus,rus⟩:=ctW.site.ldN rfl (N:=13) rfl;have hb:=ae p1.wle hBW;simp[hb,hus _ p1.wle];refine xw _ V0 V5 (BH (op:=15) (pat:=23) (plain:=24) (sum:=25) p1 wW rus (λk h0 h4=>by unfold nTo;simp<;>omega) V4 (λk h0 h4=>?_) hok (.inl rfl) V6 V4 V4 (λho=>hM (.inl ho)) (λk hk=>?_)) ?_
 ·rcases(by omega:k=0\/k=1\/k=2\/k=3)with rfl | rfl | rfl | rfl<;>rfl
 ·rcases(by omega:k=0\/k=1\/k=2\/k=3)with rfl | rfl | rfl | rfl<;>rfl
 rintro _ i2 ⟨V2,v2,p2,k2⟩;have p2:=p2.to4 (a:=22) V7 V4;subst hz;refine aa λz hz=>?_;have hb:=ae p2.wle (ae v2.le hBW);simp[hb,hus _ (Vx v2.le p2.wle)];refine xw _ V0 V5 (BH (op:=16) (pat:=27) (plain:=26) (sum:=27) p2 (wW.mono v2.le) (rus.mono v2.le) (λk h0 h4=>by unfold nTo;simp<;>omega) V4 (λk h0 h4=>?_) hok (.inr rfl) V6 V4 V4 (λho=>hM (.inr ho)) (λk hk=>?_)) ?_
 ·rcases(by omega:k=0\/k=1\/k=2\/k=3)with rfl | rfl | rfl | rfl<;>rfl
 ·rcases(by omega:k=0\/k=1\/k=2\/k=3)with rfl | rfl | rfl | rfl<;>rfl
 rintro _ i3 ⟨V3',v3,p3,k3⟩;have p3:=p3.to4 (a:=26) V7 V4;have v23:=Vx v2.le v3.le;have ct3:=ctW.mono v23;have w3:=wW.mono v23;have hb:=ae p3.wle (ae v23 hBW);subst hz;refine aa λz hz=>?_;simp[hb];refine bW (ops:=[.const (Vz VA 17),.const (Vz VA 31),.tmp 65]) rfl V0 (kY (op:=17) (pat:=31) p3 w3 V7 V4 V7 λho=>⟨_,_,rfl,by kernel_rfl,λh V hW hV=>NO (ct3.mono hW) hV hok.one.most⟩) ?_;rintro _ i4' ⟨p4',k4⟩;have p4':=p4'.to (a:=30) V7 V4;subst hz;refine aa λz hz=>?_;have hb:=ae p4'.wle (ae v23 hBW);simp[hb];refine bW (ops:=[.const (Vz VA 18),.const (Vz VA 32),.tmp 68]) rfl V0 (kY (op:=18) (pat:=32) p4' w3 V7 V4 V7 λho=>⟨_,_,rfl,by kernel_rfl,λh V hW hV=>Nd (ct3.mono hW) hV ⟨hok.one.two V4,hok.one.most⟩⟩) ?_;rintro _ i5 ⟨p5,k5⟩;have p5:=p5.to (a:=31) V7 V4;subst hz;simp[ae p5.wle w3.out];have kk:=kW.trans (k1.trans (k2.trans (k3.trans (k4.trans k5))));have sx:h.size<=hx.size:=St s06 kW.size;refine hK _ _ ⟨r,V3',rfl,uW.trans (St sx k1.size) (v2.trans k2.size v3),p5,?_⟩;intro b o hb;have hlt:=View.lt (View.le_refl (vw h)) hb;show i5[b]? = _;rw[kk.block b V4 Vt];exact le04 b o hb
end
open Go.MapKept
variable{po:OP}{pp:PP}
theorem oM{P:Program}{ty:TypeId}{us:List (Nat × Value)}{h:Heap}{K:Value->Heap->Prop}{d:TypeDesc}{r:Nat}{f:Value->Option Value}{t k e:TypeId}{x y:Operand}{u z:Value}(ht:P.underlying t=VC (.map k e))(hd:P.underlying k=VC d)(hz:(P.info? e).map (·.zero)=VC (VC z))(hx:asg us x = .map (VC r))(hy:asg us y=u)(hu:IsKey d u)(m:dh d h r f)
  (hk:K (.tuple #[(f u).getD z,.bool (f u).isSome]) h):@step po P (.lookup t x y VG) ty us h K:=by
 obtain⟨es,c,h1,h2,h3,h4⟩:=m.ex;simp only[Sc]at hz;obtain⟨i,hi,hz⟩:=hz;refine dr (cO λw hw=>⟨_,w,?_,Same.refl _,by rw[hw];exact hk⟩);have hz':(zeroValue e).run P w = .ok z w:=by simp[zeroValue,typeInfo,hi,hz]
 rw[<-hw]at h1;simp only[bQ,execOp,hx,hy];rcases findNow_spec hu es.toList 0 h2 with⟨g1,g2⟩ | ⟨j,x,g1,g2,g3⟩
 ·have hf:f u = .none:=by
   cases hfu:f u with
   | none=>rfl
   | some v=>obtain⟨x,hx,e1,_⟩:=(h4 u v hu).2 hfu;exact absurd e1 (g2 x hx)
  simp[Instr.lookup,run_underlying ht,MapKept.run_getObj_map h1,MapKept.run_checkKey hd hu,MapKept.run_findKey hd g1,Result.andThen,hf,hz']
 have hf:f u=VC x.val:=(h4 u x.val hu).1 ⟨x,SE g2,g3,rfl⟩;simp[Instr.lookup,run_underlying ht,MapKept.run_getObj_map h1,MapKept.run_checkKey hd hu,MapKept.run_findKey hd g1,Result.andThen,hf]
theorem qZ{H:View}{α:Type}[Rep α]{v:Value}{l:List α}:Rep.rd H [v] l↔SlRd H v l:=by rw[<-dw];unfold Rd;simp[Rep.agg]
theorem wX{H:View}{α:Type}[Rep α]{cs:List Value}{l:List α}(h:Rep.rd H cs l) : ∃v,cs=[v]:=by
 have:=Rep.len h;match cs,this with
 | [v],_=>exact⟨v,rfl⟩
theorem yt{H:View}{v:Value}{f:ak}(h:Rd H v f) : ∃a m c,v = .agg #[Vz VA f.params,.slice a m c]:=by unfold Rd at h;rw[if_pos (show Rep.agg ak=VG from rfl)]at h;obtain⟨cs,rfl,c1,c2,e,h1,h2⟩:=h;rw[h1.1]at e;obtain⟨v,rfl⟩:=wX h2;obtain⟨a,c,rfl,-⟩:=qZ.1 h2;exact⟨a,_,c,by congr 1;rw[<-Array.toList_inj,e];rfl⟩
theorem Ac{H:View}{v:Value}{i:InsD}(h:Rd H v i) : ∃a m c,v = .agg #[Vz VA i.op,Vz VA i.dst,Vz VA i.two,.slice a m c,Vz VB i.imm.v]:=by unfold Rd at h;rw[if_pos (show Rep.agg InsD=VG from rfl)]at h;obtain⟨cs,rfl,c1,_,e,h1,c2,_,rfl,h2,c3,_,rfl,h3,c4,c5,rfl,h4,h5⟩:=h;rw[h1.1,h2.1,h3.1,h5.1]at e;obtain⟨v,rfl⟩:=wX h4;obtain⟨a,c,rfl,-⟩:=qZ.1 h4;exact⟨a,_,c,by congr 1;rw[<-Array.toList_inj,e];rfl⟩
theorem E6{H:View}{v:Value}{t:db}(h:Rd H v t) : ∃a m c a2 m2 c2,v = .agg #[Vz VA t.kind,.slice a m c,.slice a2 m2 c2,Vz VB t.imm.v]:=by unfold Rd at h;rw[if_pos (show Rep.agg db=VG from rfl)]at h;obtain⟨cs,rfl,c1,_,e,h1,c2,_,rfl,h2,c3,c4,rfl,h3,h4⟩:=h;rw[h1.1,h4.1]at e;obtain⟨v,rfl⟩:=wX h2;obtain⟨w,rfl⟩:=wX h3;obtain⟨a,c,rfl,-⟩:=qZ.1 h2;obtain⟨a2,c2,rfl,-⟩:=qZ.1 h3;exact⟨a,_,c,a2,_,c2,by congr 1;rw[<-Array.toList_inj,e];rfl⟩
theorem Co{H:View}{α:Type}[Rep α]{cs:Array Value}{d:α}(ha:Rep.agg α=VG)(h:Rd H (.agg cs) d):Rep.rd H cs.toList d:=by unfold Rd at h;rw[if_pos ha]at h;obtain⟨cs',e,h⟩:=h;cases e;exact h
theorem CH{H:View}{c1 c2 c3:Array Value}{s:cG}(h1:Rd H (.agg c1) s.f)(h2:Rd H (.agg c2) s.i)(h3:Rd H (.agg c3) s.t)(h5:-9223372036854775808<=s.temp/\s.temp<=9223372036854775807) :
  Rd H (.agg (c1.toList++(c2.toList++(c3.toList++([Value.bool s.term]++[Vz VA s.temp])))).toArray) s:=by unfold Rd;rw[if_pos (show Rep.agg cG=VG from rfl)];exact⟨_,rfl,_,_,rfl,Co rfl h1,_,_,rfl,Co rfl h2,_,_,rfl,Co rfl h3,_,_,rfl,rfl,rfl,h5⟩
end Go.Lft
namespace Go.Lft
abbrev rI:List Value:=[Vz VA 0,VE VD 0 0,Vz VA 0,Vz VA 0,Vz VA 0,VE VD 0 0,Vz VB 0,Vz VA 0,VE VD 0 0,VE VD 0 0,Vz VB 0,.bool VH,Vz VA 0]
theorem IE{H:View}:Rd H (.agg #[Vz VA 0,VE VD 0 0]) (⟨0,[]⟩:ak):=by unfold Rd;rw[if_pos (show Rep.agg ak=VG from rfl)];exact⟨_,rfl,[_],[_],rfl,⟨rfl,by decide,by decide⟩,qZ.2 aL⟩
theorem BR{H:View}:Rd H (.agg #[Vz VA 0,VE VD 0 0,VE VD 0 0,Vz VB 0]) oq:=by unfold Rd;rw[if_pos (show Rep.agg db=VG from rfl)];exact⟨_,rfl,[_],_,rfl,⟨rfl,by decide,by decide⟩,[_],_,rfl,qZ.2 aL,[_],[_],rfl,qZ.2 aL,rfl,by decide,by decide⟩
theorem Bd{H:View}:Rd H (.agg rI.toArray) FT:=CH (s:=FT) IE oe BR V6
def pE(f:ak)(b p temp:Int):cG:=if de f b p then eh f b p temp else FT
set_option maxHeartbeats 400000 in
theorem Kw{f:ak}{v:Value}{b p temp:Int}{h:Heap}{W:View}(hW:W.le (vw h))(hv:Rd W v f)(ht:I64 temp) :
  ay VI 92 #[v,Vz VA b,Vz VA p,Vz VA temp] h (λu h'=>(vw h).le (vw h')/\∃vs,u = .tuple #[vs,.bool (de f b p)]/\Rd (grow W h h') vs (pE f b p temp)):=by
 refine ao (args:=[v,Vz VA b,Vz VA p,Vz VA temp]) follows Tryz.func92 E.yN Vu λK hK=>?_;dsimp only[L.yN,lkF,lkG];have c0:=Cx.start hW;refine aa λz hz=>?_;simp;refine c0.ef rfl hv λB h1 W1 hW1 c1 at1 hle1=>?_;refine c1.cV (k:=(0,0)) (n:=12) (z:=.agg rI.toArray) rfl V0 rfl V6 Vs λR h2 hle2 c2=>?_;subst hz;obtain⟨-,vb,hb1,hb2⟩:=fh at1;have l2:=c2.wle;have hl:=hb2.len (K:=vw h2);have hb1':=ae l2 hb1;have bd:=hb2.bound;refine aa λz hz=>?_;refine aa λy hy=>?_;refine gP (λρ h5=>h5=h2/\ρ=[(0,v),(1,Vz VA b),(2,Vz VA p),(3,Vz VA temp),(4,ptr B),(8,ptr R),(9,.bool VH),(34,.bool (!de f b p))]) ?_ ?_
 ·intro K2 hK2;by_cases e1:b<0
  ·simp[e1];exact hK2 _ _ ⟨rfl,by simp[de];omega⟩
  by_cases e2:(f.blocks.length:Int)<=b
  ·simp[e1,e2,hb1',hl];exact hK2 _ _ ⟨rfl,by simp[de];omega⟩
  by_cases e3:p<0
  ·simp[e1,e2,e3,hb1',hl];exact hK2 _ _ ⟨rfl,by simp[de];omega⟩
  have hbl:b.toNat<f.blocks.length:=by omega
  have hx:=hb2.idxn (k:=.i64) (N:=6) rfl (i:=b) V4 V4;obtain⟨vi,hv1,hv2⟩:=((hb2.at hbl).part BlkD.jm).sl;have hv1:=ae l2 hv1;have hnb:f.blocks[b.toNat]=nth f.blocks b.toNat:=(az hbl).symm;rw[hnb]at hv2;have hx:Bn.ev (.idx 6) vb (Vz VA b)=VC (VF (VC ((slA vb).add (b.toNat*Rep.n BlkD)))):=hx;simp[e1,e2,e3,hb1',hl,hx,hv1,(hv2.mono l2).len];have ei:de f b p=decide (p<=(nth f.blocks b.toNat).ins.length):=by unfold de;simp[show 0<=b by omega,show b<f.blocks.length by omega,show 0<=p by omega]
  exact hK2 _ _ ⟨rfl,by rw[ei,show(!decide (p<=((nth f.blocks b.toNat).ins.length:Int)))=decide (((nth f.blocks b.toNat).ins.length:Int)<p) by rw[SI];simp]⟩
 rintro _ _ ⟨rfl,rfl⟩;subst hy;cases hq:de f b p with
 | false=>simp;refine aA (z:=.agg rI.toArray) (places:=zpf) (vs:=[]) (cs:=rI.toArray) V0 V0 V5 V0 ?_;refine c2.bJ (k:=(0,0)) (n:=12) (l:=rI) Own.an Bd rfl rfl V0 rfl rfl λh9 l9 hl9 c9=>?_;have hall:=c9.all (k:=(0,0)) (n:=12) (l:=l9) (B:=R) (e:=T.xp) Own.an;simp at hall;simp[hall];refine hK _ _ ⟨c9.le0,_,by rw[hq],?_⟩;unfold pE;rw[hq,if_neg V5,<-hl9];exact Bd
 | true=>
  have hq2:=hq;simp[de]at hq2;obtain⟨⟨⟨g1,g2⟩,g3⟩,g4⟩:=hq2;have hbl:b.toNat<f.blocks.length:=by omega
  simp;subst hz;refine aa λz hz=>?_;obtain⟨ub,hub,rub⟩:=hb2.wh rfl (N:=6) rfl hbl;have hx:=hb2.idxn (k:=.i64) (N:=6) rfl (i:=b) V4 V4;simp[hb1',hx,hub _ l2];refine c2.eu (α:=BlkD) rub (n:=6) (z:=zz3) V0 rfl rfl V0 V8 V8 λB3 h3 W3 hW3 c3 at3 hle3=>?_;subst hz;refine aa λz hz=>?_;obtain⟨vp,vi,va,vt,-,si,-⟩:=mD at3;have sim:=si.mono c3.wle;obtain⟨uf,huf,ruf⟩:=at1.ldN rfl (N:=2) rfl;have huf3:=huf _ (Vx hW3 c3.wle);have ruf:=ruf.mono hW3;have hsite:pE f b p temp=eh f b p temp:=by unfold pE;rw[hq,if_pos rfl]
  generalize hbk:nth f.blocks b.toNat=bk at *;by_cases e:p=bk.ins.length
  ·obtain⟨ut,hut,rut⟩:=(at3.part BlkD.nh).ldN rfl (N:=4) rfl;have hut:Un.ev (vw h3) (.bI 4) (VF (VC ⟨B3,2,VD⟩))=VC ut:=by simpa using hut _ c3.wle
   obtain⟨a1,m1,k1,rfl⟩:=yt ruf;obtain⟨a2,m2,k2,a3,m3,k3,rfl⟩:=E6 rut;have hs:eh f b p temp=⟨f,iH,bk.term,VG,temp⟩:=by unfold eh;rw[hbk,if_pos e]
   have rs:Rd W3 (.agg #[Vz VA f.params,.slice a1 m1 k1,Vz VA 0,Vz VA 0,Vz VA 0,VE VD 0 0,Vz VB 0,Vz VA bk.term.kind,.slice a2 m2 k2,.slice a3 m3 k3,Vz VB bk.term.imm.v,.bool VG,Vz VA temp]) (eh f b p temp):=by rw[hs];exact CH (s:=⟨f,iH,bk.term,VG,temp⟩) ruf oe rut ht
   simp[sim.1,sim.2.len,e,huf3,hut];refine aA (z:=.agg rI.toArray) (places:=zpf) (vs:=[(0,.agg #[Vz VA f.params,.slice a1 m1 k1]),(2,.agg #[Vz VA bk.term.kind,.slice a2 m2 k2,.slice a3 m3 k3,Vz VB bk.term.imm.v]),(3,.bool VG),(4,Vz VA temp)]) (cs:=#[Vz VA f.params,.slice a1 m1 k1,Vz VA 0,Vz VA 0,Vz VA 0,VE VD 0 0,Vz VB 0,Vz VA bk.term.kind,.slice a2 m2 k2,.slice a3 m3 k3,Vz VB bk.term.imm.v,.bool VG,Vz VA temp]) V0 V0 V5 (by simp[Instr.fill,Value.cells]) ?_;refine c3.bJ (k:=(0,0)) (n:=12) (l:=rI) Own.an rs rfl rfl V0 rfl rfl λh9 l9 hl9 c9=>?_;have hall:=c9.all (k:=(0,0)) (n:=12) (l:=l9) (B:=R) (e:=T.xp) Own.an;simp at hall;simp[hall];refine hK _ _ ⟨c9.le0,_,by rw[hq],?_⟩;rw[hsite,<-hl9];exact rs.mono c9.fin
  have hlt:p.toNat<bk.ins.length:=by omega
  obtain⟨ui,hui,rui⟩:=si.2.wh rfl (N:=5) rfl hlt;have hxi:=si.2.idxn (k:=.i64) (N:=5) rfl (i:=p) V4 V4;obtain⟨a1,m1,k1,rfl⟩:=yt ruf;obtain⟨a2,m2,k2,rfl⟩:=Ac rui;have hs:eh f b p temp=⟨f,nth bk.ins p.toNat,oq,VH,temp⟩:=by unfold eh;rw[hbk,if_neg e]
  generalize nth bk.ins p.toNat=xi at *;have rs:Rd W3 (.agg #[Vz VA f.params,.slice a1 m1 k1,Vz VA xi.op,Vz VA xi.dst,Vz VA xi.two,.slice a2 m2 k2,Vz VB xi.imm.v,Vz VA 0,VE VD 0 0,VE VD 0 0,Vz VB 0,.bool VH,Vz VA temp]) (eh f b p temp):=by rw[hs];exact CH (s:=⟨f,xi,oq,VH,temp⟩) ruf rui BR ht
  simp[sim.1,sim.2.len,e];subst hz;refine aa λz hz=>?_;refine aN W3 c3.wle ?_;simp[huf W3 hW3,si.1,hxi,hui W3 Vw];refine aA (z:=.agg rI.toArray) (places:=zpf) (vs:=[(0,.agg #[Vz VA f.params,.slice a1 m1 k1]),(1,.agg #[Vz VA xi.op,Vz VA xi.dst,Vz VA xi.two,.slice a2 m2 k2,Vz VB xi.imm.v]),(4,Vz VA temp)]) (cs:=#[Vz VA f.params,.slice a1 m1 k1,Vz VA xi.op,Vz VA xi.dst,Vz VA xi.two,.slice a2 m2 k2,Vz VB xi.imm.v,Vz VA 0,VE VD 0 0,VE VD 0 0,Vz VB 0,.bool VH,Vz VA temp]) V0 V0 V5 (by simp[Instr.fill,Value.cells]) ?_;refine c3.bJ (k:=(0,0)) (n:=12) (l:=rI) Own.an rs rfl rfl V0 rfl rfl λh9 l9 hl9 c9=>?_;subst hz;have hall:=c9.all (k:=(0,0)) (n:=12) (l:=l9) (B:=R) (e:=T.xp) Own.an;simp at hall;simp[hall];refine hK _ _ ⟨c9.le0,_,by rw[hq],?_⟩;rw[hsite,<-hl9];exact rs.mono c9.fin
end Go.Lft
