/- A part of the proof: Mj, Mk, Ml, Mm, Mn, Mo, Mp, Mq, Mr, Ms, Mt, Mu, Mv, Mw, Mx, My, Mz, Na, Tk, Om, On, Ja. -/
import Derived.Test.YtnfiilgdjpdlkaaGreatDoorZTMor4
import Derived.Laws.BytesArg
set_option linter.unusedSimpArgs false
set_option linter.unusedVariables false
open Go.Value renaming int->Pp,slice->Pv,pointer->Pw
open Go.IntKind renaming i64->Pq,i32->Ps
open Option renaming some->Pt,none->Pu
open Bool renaming true->Px,false->Py
open Go.Proofs.Tryz renaming prog->Pz
namespace Go.Proofs.YtnfiilgdjpdlkaaGreatDoor
open Go Go.Lft
def sy (f:an) (b:Nat) (t:Th):Bool:=decide (t.blk=b)||!nth (dP f t.blk) b
def dS (f:an) (b:Nat) (out:List Int) (t:Th):List Int:=if sy f b t then out++t.mks else out
def gQ (f:an) (b:Nat):List Int:=(aG f).foldl (dS f b) (rows (λi=>(i:Int)) f.params.toNat)
def tq (v:Value) (l:List Int):Own:=λk=>if k=(0,0) then it T.int v l else Pu
theorem xv{v v':Value}{l l':List Int}(q:Key):tq v' l' q=(tq v l).upd (0,0) (it T.int v' l') q:=by
 unfold tq Own.upd;repeat' split
 all_goals first | rfl | simp_all
theorem xe{l:List Th}{f:an}{b c:Nat}(hl : ∀t∈l,t.mks.length<=c): ∀{out:List Int},(l.foldl (dS f b) out).length<=out.length+c*l.length:=by
 induction l with
 | nil=>intro out;simp
 | cons t l ih=>
  intro out;have h1:=ih (λt ht=>hl t (by simp[ht])) (out:=dS f b out t);have h2:(dS f b out t).length<=out.length+c:=by
   unfold dS;have:=hl t Sa;split
   ·rw[LA];omega
   omega
  rw[LV,MF,OD];omega
theorem Av.J6{V W:View}{v:Value}(hw:Av W v)(h:V.le W):Av V v:=λb hb=>by
 cases hv:V b with
 | none=>rfl
 | some x=>have:=h b x hv;rw[hw b hb]at this;cases this
theorem zL{W W':View}{h:Heap}{e:TypeId}{v:Value}{l:List Int}(o:OwnT W h e v l):OwnT W' h e v l:=by obtain⟨b,xs,h1,h2⟩:=o;exact⟨b,xs,h1,λi hi=>h2 i hi⟩
theorem Ko{h:Heap}{v:Value}(ha:Av (vw h) v): ∀b,v.ownBlock=Pt b->h.size<=b:=λb hb=>by have:h[b]? = none:=ha b hb;rwa [Array.getElem?_eq_none_iff]at this
theorem AA{f:an}{b:Nat}{v:Value}{h:Heap}(hv:Rd (vw h) v f)(hsm:SmF f)(hp:0<=f.params/\f.params<=1000)(hb:b<f.blocks.length)(hmk : ∀t∈aG f,t.mks.length<=1000)(hth:(aG f).length<=1000000):
  az Pz 57 #[v,Pp Pq b] h (λu h'=>(vw h).le (vw h')/\(∀b,u.ownBlock=Pt b->h.size<=b)/\OwnT nothing h' T.int u (gQ f b)):=by
 refine aq (args:=[v,Pp Pq b]) follows Tryz.func57 E.bP Pj λK hK=>?_;dsimp only[L.bP,lkF,lkG];refine ab λz hz=>?_;simp;refine gT rfl hv λh1 _ hle1 hs1 hat=>?_;obtain⟨cp,vb,cb⟩:=jd hat;obtain⟨uf,huf,hufr⟩:=hat.bO rfl;have huf:Un.ev (vw h1) (.bO 2) (Pw (Pt ⟨h.size,0,Pu⟩))=Pt uf:=huf;generalize h.size=B at cp cb huf;subst hz;refine ab λz hz=>?_;simp;refine(Owns.start (h:=h1) (View.le_refl (vw h1))).iz (k:=(0,0)) (α:=Int) rfl El.aP λvo h2 hle2 hvo w2 _=>?_;have w2:Owns (vw h1) h2 (tq vo []):=w2.congr λq=>by unfold tq Own.upd;split<;>rfl
 subst hz;refine ab λz hz=>?_;simp;obtain⟨n,hn⟩ : ∃n:Nat,n=f.params.toNat:=⟨_,rfl⟩;have hpn:f.params=n:=by omega
 rw[hpn]at cp;refine cS [0,1,2,5,6] (fun(vo:Value) i=>[v,Pp Pq b,Pw (Pt ⟨B,0,Pu⟩),vo,Pp Pq i]) (λvo i h3=>Owns (vw h1) h3 (tq vo (rows (λi=>(i:Int)) i))) n vo
  rfl P2 rfl w2 (λ_ _=>rfl) (λv k h3 hk m=>by simp[ae m.wle cp]) ?_ ?_
 ·rintro vo i h3 hlt w3 K2 hK2;simp;refine w3.fM (k:=(0,0)) (α:=Int) (v:=vo) (l:=rows (λi=>(i:Int)) i) (d:=(i:Int)) rfl El.aP rfl (bD.2 ⟨rfl,by constructor<;>omega⟩) P9 P9 (λ_=>rfl) (λ_=>rfl) λu v' h4 w4 _=>?_;refine hK2 v' _ _ rfl rfl (w4.congr λq=>?_);rw[eu];exact xv q
 rintro vo h3 w3;simp;subst hz;refine ab λz hz=>?_;have huf3:Un.ev (vw h3) (.bO 2) (Pw (Pt ⟨B,0,Pu⟩))=Pt uf:=by have:=dy (ρ:=λ_=>Pu) (e:=.un (.bO 2) (.con (Pw (Pt ⟨B,0,Pu⟩)))) w3.wle (by simpa using huf);simpa using this
 simp[huf3];refine af P1 (yh hufr w3.wle hsm) ?_;rintro vt h4 ⟨hle4,hst⟩;have w4:=w3.ext hle4;have hW4:=bU (h':=h4) w3.wle;generalize grow (vw h1) h3 h4=W4 at hst w4 hW4;subst hz;refine ab λz hz=>?_;simp;have hsd:gQ f b=(aG f).foldl (dS f b) (rows (λi=>(i:Int)) n):=by rw[hn];rfl
 have hlen : ∀i,((List.take i (aG f)).foldl (dS f b) (rows (λi=>(i:Int)) n)).length<=1001001000:=λi=>by
  have h1:=xe (l:=List.take i (aG f)) (f:=f) (b:=b) (c:=1000) (λt ht=>hmk t (List.mem_of_mem_take ht)) (out:=rows (λi=>(i:Int)) n);have h2:(List.take i (aG f)).length<=(aG f).length:=by simp;omega
  rw[mO]at h1;omega
 generalize rows (λi=>(i:Int)) n=base at w4 hsd hlen;have tb:=hst.bound;refine cS [0,1,2,5,7,8] (fun(vo:Value) i=>[v,Pp Pq b,Pw (Pt ⟨B,0,Pu⟩),vo,vt,Pp Pq i]) (λvo i h5=>∃W,W4.le W/\Owns W h5 (tq vo ((List.take i (aG f)).foldl (dS f b) base))) (aG f).length vo
  rfl P2 rfl ⟨W4,View.le_refl _,w4⟩ (λ_ _=>rfl) (λv k h5 hk ⟨W,q1,q2⟩=>by simp[hst.len]) ?_ ?_
 ·rintro vo i h5 hlt ⟨W5,hW5,w5⟩ K2 hK2;have hst5:=hst.mono hW5;have hl5:=hlen i;have hsucc:(List.take (i+1) (aG f)).foldl (dS f b) base=dS f b ((List.take i (aG f)).foldl (dS f b) base) (nth (aG f) i):=by rw[LD hlt,Nj,aA hlt];rfl
  generalize (List.take i (aG f)).foldl (dS f b) base=out at w5 hsucc hl5;have hat5:=hst5.at hlt;rw[<-aA hlt]at hat5;have hmt:=hmk _ (bJ hlt);generalize nth (aG f) i=t at hat5 hsucc hmt;have hblk:ak W5 (((slA vt).add (i*4)).add 0)=Pt (Pp Pq t.blk):=(hat5.part Th.Ij).int;obtain⟨vm,hvm⟩:=(hat5.part Th.JS).sl;have hvm1:ak W5 (((slA vt).add (i*4)).add 2)=Pt vm:=hvm.1;have hvm2:=hvm.2;have h64:=(hat5.part Th.Ij).rng;simp only[aI];refine ab λy hy=>?_;simp;subst hy;refine ab λy hy=>?_;have fin : ∀(h6:Heap) (ρ:Env) (W6:View),W5.le W6->Owns W6 h6 (tq vo out)->Lft.look ρ 0=Pt v->Lft.look ρ 1=Pt (Pp Pq b)->Lft.look ρ 2=Pt (Pw (Pt ⟨B,0,Pu⟩))->Lft.look ρ 5=Pt vo->Lft.look ρ 7=Pt vt->Lft.look ρ 8=Pt (Pp Pq i)->Lft.look ρ 9=Pt (.bool (sy f b t))->
    LC.wp Pz y (eE 3 (fg K2 (eE 2 (fg (LC.wp Pz z (dF [.tmp 4] K)) (dF [.tmp 4] K))))) ρ h6:=by
   intro h6 ρ W6 hW6 w6 r0 r1 r2 r5 r7 r8 r9;subst hy;refine ab λy hy=>?_;simp[ag,ah,r9];subst hy;have hsp:dS f b out t=if sy f b t then out++t.mks else out:=rfl;rw[hsp]at hsucc;by_cases ca:sy f b t=Px
   ·rw[if_pos ca]at hsucc;refine aT (by simp[ag,ah,ca]) ?_;have hst6:=hst5.mono (Pn hW6 w6.wle);simp(disch:=omega)[ag,ah,r0,r1,r2,r5,r7,r8,hst6.idxn (N:=4) rfl,ae (Pn hW6 w6.wle) hvm1];refine w6.dg (k:=(0,0)) (α:=Int) (v:=vo) (l:=out) (l2:=t.mks) rfl El.aP rfl rfl ((hvm2.mono hW6).src w6.wle) P2 P2 λv' h7 w7 _=>?_;refine hK2 v' _ _ ?_ ?_ ⟨W6,Pn hW5 hW6,w7.congr λq=>?_⟩
    ·simp[ag,ah,r8]
    ·simp[bL,ag,ah,r0,r1,r2,r5,r7,r8]
    rw[hsucc];exact xv q
   rw[if_neg ca]at hsucc;refine aU (by simp[ag,ah,ca]) ?_;simp;refine hK2 vo _ _ ?_ ?_ ⟨W6,Pn hW5 hW6,by rw[hsucc];exact w6⟩
   ·simp[ag,ah,r8]
   simp[bL,ag,ah,r0,r1,r2,r5,r7,r8]
  refine ab λx hx=>?_;simp(disch:=omega)[(hst5.mono w5.wle).idxn (N:=4) rfl,ae w5.wle hblk];subst hx;by_cases cb:t.blk=b
  ·refine aU (by simp[cb]) ?_;simp;refine fin h5 _ W5 Pl w5 ?_ ?_ ?_ ?_ ?_ ?_ ?_;all_goals simp[sy,cb]
  refine aT (by simp[cb]) ?_;refine ab λx hx=>?_;have hf5:Rd (vw h5) uf f:=hufr.mono (Pn hW4 (Pn hW5 w5.wle));have huf5:Un.ev (vw h5) (.bO 2) (Pw (Pt ⟨B,0,Pu⟩))=Pt uf:=by have:=dy (ρ:=λ_=>Pu) (e:=.un (.bO 2) (.con (Pw (Pt ⟨B,0,Pu⟩)))) (Pn hW4 (Pn hW5 w5.wle)) (by simpa using huf);simpa using this
  refine aR (vw h5) Pl ?_;simp(disch:=omega)[(hst5.mono w5.wle).idxn (N:=4) rfl,ae w5.wle hblk,huf5];refine af P1 (uH hf5 (by have:=hsm.len;omega)) ?_;rintro ur h6 ⟨hle6,hur⟩;have w6:=w5.ext hle6;have hW6:=bU (h':=h6) w5.wle;have hur6:SlRd (vw h6) ur (dP f t.blk):=hur.mono (jZ h5 h6);have hrl:(dP f t.blk).length=f.blocks.length:=qR;subst hx;simp(disch:=omega)[hur6.idx1 rfl,hur6.bool Pl];refine fin h6 _ _ hW6 w6 ?_ ?_ ?_ ?_ ?_ ?_ ?_;all_goals simp[sy,cb]
 rintro vo h5 ⟨W5,hW5,w5⟩;rw[MH,<-hsd]at w5;simp;subst hz;simp;have hX:(vw h).le W5:=Pn hle1 (Pn hW4 hW5);exact hK _ _ ⟨Pn hX w5.wle,Ko (Av.J6 (w5.av (0,0) _ rfl) hX),zL (w5.get (k:=(0,0)) (v:=vo) rfl)⟩
end Go.Proofs.YtnfiilgdjpdlkaaGreatDoor
namespace Go.Lft
open Go
theorem wj {P:Program} {Q:Post} {ρ:Env} {h:Heap} {a i c:Nat} {ks ks2:List Nat} {ce:E} {body:LC} {σ:Type} (kp:List Nat) (vals:σ->Nat->List Value) (J:σ->Nat->Heap->Prop) (n:Nat) (d:Nat) (s0:σ)
  (hok:sR kp ks ks2 c i=Px) (hn:n+d<=9223372036854775806) (h0:bL kp ρ=kp.zip (vals s0 0)) (hj:J s0 0 h)
  (hi : ∀s k,look (kp.zip (vals s k)) i=Pt (Pp Pq ((k+d:Nat):Int)))
  (hb : ∀s k h,k<=n->J s k h->ev (look (kp.zip (vals s k))) (vw h) ce=Pt (.bool (decide (k<n))))
  (round : ∀s k h,k<n->J s k h->∀K:Env->Heap->Prop,(∀s' ρ' h',look ρ' i=Pt (Pp Pq ((k+d:Nat):Int))->bL kp (setE ρ' i (Pp Pq (((k+d:Nat):Int)+1)))=kp.zip (vals s' (k+1))->J s' (k+1) h'->K ρ' h')->body.wp P (fg K (eE a Q)) (kp.zip (vals s k)) h)
  (done : ∀s h,J s n h->Q .normal (kp.zip (vals s n)) h):LC.wp P (forC a i c ks ks2 ce body) (eE a Q) ρ h:=by
 simp only[sR,LW,Ls,MV,bne_iff_ne,L8,beq_iff_eq,ne_eq]at hok;refine jq kp (λm ρ h=>∃s k,k<=n/\ρ=kp.zip (vals s k)/\m=n-k/\J s k h) n ⟨s0,0,by omega,h0,by omega,hj⟩ ?_;rintro m ρ h ⟨s,k,hk,rfl,rfl,hJ⟩ K hK;have hkill:bT (kp.zip (vals s k)) ks=kp.zip (vals s k):=kU λp hp=>(hok p.1 (zip_fst hp)).1.1;have hne : ∀p∈kp.zip (vals s k),p.1≠c:=λp hp=>(hok p.1 (zip_fst hp)).1.2;have hk2 : ∀v,bT (setE (kp.zip (vals s k)) c v) [c]=kp.zip (vals s k):=λv=>lD hne;have hlk : ∀v,look (setE (kp.zip (vals s k)) c v) c=Pt v:=λv=>by rw[ag,if_pos rfl]
 simp only[rm,kI,iZ,fZ,kg,lO,hb s k h hk hJ,LK,jk,lX,true_and,cV,hkill,eH,kQ,oB,hlk,kE,hk2,qM,qJ,nr,nb,if_true];refine⟨λhlt=>?_,λhge=>?_⟩
 ·have hlt':k<n:=by omega
  rw[ma];refine round s k h hlt' hJ _ λs' ρ' h' hl he hJ'=>?_;simp only[kI,iZ,fZ,kg,lO,kO,oB,hl,lX,true_and,LK,xZ,LK,yT,jk,cV,eH,true_and];rw[bw P2 P2];refine hK (n-(k+1)) _ _ P2 ⟨s',k+1,by omega,?_,rfl,hJ'⟩;rw[<-he];refine mH λt ht=>?_;rw[ag,ag,ah];split
  ·rfl
  rename_i hti;rcases(hok t ht).2 with e | e
  ·exact absurd e.symm hti
  rw[e];rfl
 have:k=n:=by omega
 subst this;exact done s h hJ
open Classical in
/-- Several of one's own, written no more. -/
theorem Owns.wT {W:View} {h:Heap} {o:Own} (w:Owns W h o) (S:Key->Bool) :
  ∃W':View,W.le W'/\Owns W' h (λk=>if S k then Pu else o k)/\∀{k:Key} {α:Type} [r:Rep α] {e:TypeId} {v:Value} {l:List α},S k=Px->o k=it e v l->SlRd W' v l:=by
 have hle:W.le (λb=>if ∃k i,S k=Px/\o k=Pt i/\i.v.ownBlock=Pt b then h[b]? else W b):=λb x hb=>by
  show(if _ then _ else _)=_;rw[if_neg]
  ·exact hb
  rintro⟨k,i,_,h2,h3⟩;rw[w.av k i h2 b h3]at hb;cases hb
 refine⟨λb=>if ∃k i,S k=Px/\o k=Pt i/\i.v.ownBlock=Pt b then h[b]? else W b,hle,?_,?_⟩
 ·refine⟨λb x hb=>?_,λk i hk=>?_,λk i hk b hb=>?_,λk k' i i' b hk hk'=>?_⟩
  ·split at hb
   ·exact hb
   exact w.wle b x hb
  ·split at hk
   ·cases hk
   exact @OwnT.mono i.α i.rep _ _ _ _ _ (w.own k i hk) _ hle
  ·split at hk
   ·cases hk
   rename_i hs;show(if _ then _ else _)=_;rw[if_neg]
   ·exact w.av k i hk b hb
   rintro⟨k',i',h1,h2,h3⟩;exact hs (w.dj k k' i i' b hk h2 hb h3▸h1)
  split at hk
  ·cases hk
  split at hk'
  ·cases hk'
  exact w.dj k k' i i' b hk hk'
 intro k α r e v l hs hk;refine(w.get hk).rd hle λb hb=>?_;rw[if_pos ⟨k,_,hs,hk,hb⟩]
theorem Owns.nils {W:View} {h:Heap} {o o':Own} (w:Owns W h o) (ho : ∀k i,o' k=Pt i->o k=Pt i\/(i.v = Pv Pu 0 0/\@OwnT i.α i.rep W h i.e i.v i.l)):Owns W h o':=by
 have hnb : ∀{i:Item} {b:Nat},i.v = Pv Pu 0 0->i.v.ownBlock=Pt b->False:=λe hb=>by rw[e]at hb;simp[Value.ownBlock]at hb
 refine⟨w.wle,λk i hk=>?_,λk i hk b hb=>?_,λk k' i i' b hk hk' hb hb'=>?_⟩
 ·rcases ho k i hk with h1 | ⟨_,h1⟩
  ·exact w.own k i h1
  exact h1
 ·rcases ho k i hk with h1 | ⟨e,_⟩
  ·exact w.av k i h1 b hb
  exact(hnb e hb).elim
 rcases ho k i hk with h1 | ⟨e,_⟩
 ·rcases ho k' i' hk' with h2 | ⟨e,_⟩
  ·exact w.dj k k' i i' b h1 h2 hb hb'
  exact(hnb e hb').elim
 exact(hnb e hb).elim
end Go.Lft
namespace Go.Proofs.YtnfiilgdjpdlkaaGreatDoor
open Go Go.Lft
abbrev TgS:=List (List Int) × MS
def nG (x:TgS) (p b:Nat) (m:MS):TgS:=(x.1.set p (nth x.1 p++[(b:Int)]),m)
def tgA (s:List Int) (k:Nat) (x:TgS):TgS:=
 if aE s x.2.at_ 3=0 then nG x (aE s (x.2.at_+1) ((k+1:Nat):Int)).toNat (k+1) x.2.took.took
 else nG x k (k+1) x.2.took
def tgI (s:List Int) (n b:Nat) (x:TgS):TgS:=
 let t:=1+aE s x.2.at_ ((n:Int)-1)
 if t<=b then
  if aE s (x.2.at_+1) 2=0 then nG x b (min (b+1) (n-1)) x.2.took.took else nG x b t.toNat x.2.took.took
 else nG x b t.toNat x.2.took
def tgB (s:List Int) (n b:Nat) (x:TgS):TgS:=up (λ_=>tgI s n b) (if 1<n then(aE s x.2.at_ 6-3).toNat else 0) (x.1,x.2.took)
def oE (s:List Int) (n:Nat) (m:MS):TgS:=up (tgB s n) n (up (tgA s) (n-1) (List.replicate n [],m))
structure TgO (ri:Own) (o:Own) (vo:Value) (l:List (List Int)) (rv:List Raw):Prop where
 res : ∀k:Key,8<=k.1->o k=ri k
 top:o (3,0)=it T.aP vo rv
 len:rv.length=l.length
 row : ∀i,i<l.length->o (4,i)=it T.int (nth rv i).v (nth l i)
 els : ∀k:Key,3<=k.1->k.1<8->k≠(3,0)->(∀i,i<l.length->k≠(4,i))->o k=Pu
theorem TgO.put {ri:Own} {o:Own} {vo:Value} {l:List (List Int)} {rv:List Raw} (q:TgO ri o vo l rv) {p:Nat} (hp:p<l.length) {v':Value} {r:List Int}:TgO ri ((o.upd (4,p) (it T.int v' r)).upd (3,0) (it T.aP vo (rv.set p ⟨v'⟩))) vo (l.set p r) (rv.set p ⟨v'⟩):=by
 have hpr:p<rv.length:=by rw[q.len];exact hp
 refine⟨λk hk=>(Own.ay (by rintro rfl;simp at hk)).trans ((Own.ay (by rintro rfl;simp at hk)).trans (q.res k hk)),Own.aj,by simp[q.len],λi hi=>?_,λk h1 h8 h2 h3=>?_⟩
 ·have hi:i<l.length:=by simpa using hi
  have hir:i<rv.length:=by rw[q.len];exact hi
  rw[Own.ay Sa,bz hir,bz hi];by_cases e:p=i
  ·subst e;rw[Own.aj,if_pos rfl,if_pos rfl]
  rw[Own.ay (λe2=>e (by injection e2 with _ e2;exact e2.symm)),if_neg e,if_neg e];exact q.row i hi
 have h3 : ∀i,i<l.length->k≠(4,i):=λi hi=>h3 i (by simpa using hi);rw[Own.ay h2,Own.ay (h3 p hp)];exact q.els k h1 h8 h2 h3
def Tg (ri:Own) (s:List Int) (M:Nat) (vs:Value) (W:View) (vo:Value) (h:Heap) (x:TgS):Prop:=∃W' o rv,W.le W'/\Mk s M vs W' h o x.2/\TgO ri o vo x.1 rv
section
variable {s:List Int} {M:Nat} {vs:Value} {W:View} {vo:Value} {h:Heap} {x:TgS} {ri:Own}
theorem Tg.take (t:Tg ri s M vs W vo h x) {c:Nat} (hm:x.2.ok c) (hc:c<=1000000) {k:Int} (hk:0<k) (hk2:k<=1000000000) :
  az Pz 34 #[Pw (Pt ⟨M,0,Pu⟩),Pp Pq k] h (λv h'=>v = Pp Pq (aE s x.2.at_ k)/\Tg ri s M vs W vo h' (x.1,x.2.took)):=by obtain⟨W',o,rv,g,w,q⟩:=t;refine(w.take (by have:=hm.at_;omega) hk hk2).mono ?_;rintro v h' ⟨e,o',w',f⟩;exact⟨e,W',o',rv,g,w',λk hk=>(f k P2).trans (q.res k hk),(f _ P4).trans q.top,q.len,λi hi=>(f _ (by show 3<=4;decide)).trans (q.row i hi),λk h1 h8 h2 h3=>(f _ h1).trans (q.els k h1 h8 h2 h3)⟩
theorem Tg.idx (t:Tg ri s M vs W vo h x) {k:IntKind} {i:Int} (h0:0<=i) (h1:i<x.1.length):Bn.ev (.idx 1) vo (.int k i)=Pt (Pw (Pt ((slA vo).add i.toNat))):=by obtain⟨W',o,rv,g,w,q⟩:=t;exact(w.own.now q.top).idx1 rfl h0 (by rw[q.len];exact h1)
theorem Tg.put {po po2 po3:OP} (t:Tg ri s M vs W vo h x) {p:Nat} (hp:p<x.1.length) (hl:(nth x.1 p).length<=1000000) {b:Nat} (hb:b<=1000000) :
  ∃v:Value,ak (vw h) ((slA vo).add p)=Pt v/\∀{ty ty2 ty3:TypeId} {a a1 a2:Operand} {c1 c2:Operand} {us:List (Nat × Value)} {us2:Value->List (Nat × Value)} {us3:Value->Value->List (Nat × Value)} {K:Value->Value->Value->Heap->Prop},
   asg us a = Pp Pq b->(∀u,asg (us2 u) a1=v)->(∀u,asg (us2 u) a2=u)->(∀u v',asg (us3 u v') c1 = Pw (Pt ((slA vo).add p)))->(∀u v',asg (us3 u v') c2=v')->(∀u v' h',Tg ri s M vs W vo h' (nG x p b x.2)->K u v' undef h')->
   @Lft.step po Pz (.buildSlice T.aP 1 #[(0,a)]) ty us h λu h2=>@Lft.step po2 Pz (.call ⟨.builtin .append,#[a1,a2],#[T.aP,T.aP]⟩) ty2 (us2 u) h2 λv' h3=>@Lft.step po3 Pz (.store T.aP c1 c2) ty3 (us3 u v') h3 λw h4=>K u v' w h4:=by
 obtain⟨W',o,rv,g,w,q⟩:=t;have hpr:p<rv.length:=by rw[q.len];exact hp
 have hcell:=((w.own.now q.top).at hpr).raw;have hn:Rep.n Raw=1:=rfl;rw[hn,L7,<-aA hpr]at hcell;refine⟨_,hcell,fun{ty ty2 ty3 a a1 a2 c1 c2 us us2 us3 K} ha ha1 ha2 hc1 hc2 hK=>?_⟩;refine w.own.fM (k:=(4,p)) (α:=Int) (d:=(b:Int)) (q.row p hp) El.aP ha (bD.2 ⟨rfl,by constructor<;>omega⟩) P2 P2 ha1 ha2 λu v' h3 w3 _=>?_;have hv:=(w3.cells (k:=(4,p)) Own.aj).2;refine w3.bo (k:=(3,0)) (α:=Raw) (v:=vo) (l:=rv) (i:=p) (d:=⟨v'⟩) ((Own.ay Sa).trans q.top) P1 (by rw[hc1,hn,L7]) (hc2 u v') hpr (mw.2 ⟨rfl,hv⟩) λh4 w4 _=>hK u v' h4 ?_;obtain⟨vb,vl,lb,bb⟩:=w.box;exact⟨W',_,_,g,⟨w4,w.src,vb,vl,lb,bb.frame λk hk=>by rw[Own.ay (by rintro rfl;simp at hk),Own.ay (by rintro rfl;simp at hk)]⟩,q.put hp⟩
end
theorem xM {x:TgS} {p b:Nat} {m:MS}:(nG x p b m).1.length=x.1.length:=by simp[nG]
theorem Dv {x:TgS} {p b c:Nat} {m:MS} (h : ∀i,(nth x.1 i).length<=c) : ∀i,(nth (nG x p b m).1 i).length<=c+1:=by
 intro i;have hi:=h i;rcases Lr i x.1.length with hl | hl
 ·show(nth (x.1.set p _) i).length<=_;rw[bz hl];split
  ·rename_i e;subst e;rw[LA,LP];omega
  omega
 rw[cI (by rw[xM];exact hl)];show 0<=_;omega
structure TgK (n c:Nat) (x:TgS):Prop where
 len:x.1.length=n
 row : ∀i,(nth x.1 i).length<=c
 ok:x.2.ok c
theorem TgK.mono {n c d:Nat} {x:TgS} (h:TgK n c x) (hd:c<=d):TgK n d x:=⟨h.len,λi=>LN (h.row i) hd,h.ok.mono hd⟩
theorem TgK.put {n c p b:Nat} {x:TgS} {m:MS} (h:TgK n c x) (hm:m.ok (c+2)):TgK n (c+2) (nG x p b m):=⟨xM.trans h.len,λi=>by have:=Dv (p:=p) (b:=b) (m:=m) h.row i;omega,hm⟩
theorem IX {s:List Int} {n c k:Nat} {x:TgS} (h:TgK n c x):TgK n (c+2) (tgA s k x):=by
 unfold tgA;split
 ·exact h.put h.ok.took.took
 exact h.put (h.ok.took.mono P2)
theorem Is {s:List Int} {n c b:Nat} {x:TgS} (h:TgK n c x):TgK n (c+2) (tgI s n b x):=by
 unfold tgI;simp only;repeat' split
 ·exact h.put h.ok.took.took
 ·exact h.put h.ok.took.took
 exact h.put (h.ok.took.mono P2)
theorem ym {s:List Int} {n c:Nat} {x:TgS} (h:TgK n c x) : ∀k,TgK n (c+2*k) (up (tgA s) k x)
 | 0=>h
 | k+1=>(IX (ym h k)).mono P2
theorem A8 {s:List Int} {n c b:Nat} {x:TgS} (h:TgK n c x) : ∀k,TgK n (c+2*k) (up (λ_=>tgI s n b) k x)
 | 0=>h
 | k+1=>(Is (A8 h k)).mono P2
theorem I0 {s:List Int} {n c b:Nat} {x:TgS} (h:TgK n c x):TgK n (c+10) (tgB s n b x):=by unfold tgB;have ht:=cG (s:=s) (at_:=x.2.at_) (n:=6) P4;have h1:TgK n (c+1) (x.1,x.2.took):=⟨h.len,λi=>by have:=h.row i;show(nth x.1 i).length<=_;omega,h.ok.took⟩;refine(A8 h1 _).mono ?_;split<;>omega
theorem AG {s:List Int} {n c:Nat} {x:TgS} (h:TgK n c x) : ∀k,TgK n (c+10*k) (up (tgB s n) k x)
 | 0=>h
 | k+1=>(I0 (AG h k)).mono P2
theorem Bo {s:List Int} {M:Nat} {vs:Value} {W:View} {h:Heap} {o:Own} {m:MS} {ri:Own} (w:Mk s M vs W h o m) (hres : ∀k:Key,8<=k.1->o k=ri k) (ho : ∀k:Key,3<=k.1->k.1<8->o k=Pu) {n c:Nat} (hm:m.ok c) (hc:c<=1000) (hn1:1<=n) (hn2:n<=100) :
  az Pz 50 #[Pw (Pt ⟨M,0,Pu⟩),Pp Pq n] h (λu h'=>∃W' o',W.le W'/\Mk s M vs W' h' o' (oE s n m).2/\(∀k:Key,8<=k.1->o' k=ri k)/\(∀k:Key,3<=k.1->k.1<8->o' k=Pu)/\SlRd W' u (oE s n m).1):=by
 refine aq (args:=[Pw (Pt ⟨M,0,Pu⟩),Pp Pq n]) follows Tryz.func50 E.aD Pj λK hK=>?_;have htd:oE s n m=_:=rfl;dsimp only[L.aD,lkF,lkG];refine ab λz hz=>?_;simp;subst hz;refine ab λz hz=>?_;simp;refine mZ (α:=Raw) (W:=W) (k:=.i64) (n:=n) (d:=⟨Pv Pu 0 0⟩) El.jf Ri Ri ⟨rfl,rfl⟩ P2 P2 λvo h1 o1 m1 hle1 hb1=>?_;have t1:Tg ri s M vs W vo h1 (List.replicate n [],m):=by
  have w1:=w.own.add (k:=(3,0)) (ho _ P4 P4) o1 hle1 (λb hb=>by rw[hb1]at hb;cases hb;exact Lp _);have w2:=w1.nils (o':=λk=>if k.1=4/\k.2<n then it T.int (Pv Pu 0 0) ([]:List Int) else o.upd (3,0) (it T.aP vo (List.replicate n (Raw.mk (Pv Pu 0 0)))) k) λk i hk=>by
   split at hk
   ·cases hk;exact .inr ⟨rfl,OwnT.nil (α:=Int) W h1 T.int⟩
   exact .inl hk
  obtain⟨vb,vl,lb,bb⟩:=w.box;refine⟨W,_,List.replicate n ⟨Pv Pu 0 0⟩,View.le_refl _,⟨w2,w.src,vb,vl,lb,bb.frame λk hk=>?_⟩,?_,rfl,by simp,λi hi=>?_,λk h1 h8 h2 h3=>?_⟩
  ·have h4:¬(k.1=4/\k.2<n):=by omega
   show(if _ then _ else _)=_;rw[if_neg h4,Own.ay (by rintro rfl;simp at hk)]
  ·intro k hk;show(if _ then _ else _)=_;rw[if_neg P2,Own.ay (by rintro rfl;simp at hk),hres k hk]
  ·have hi:i<n:=by simpa using hi
   show(if _ then _ else _)=_;rw[if_pos ⟨rfl,hi⟩,aB hi,aB hi]
  show(if _ then _ else _)=_;rw[if_neg,Own.ay h2,ho k h1 h8];rintro⟨e1,e2⟩;refine h3 k.2 (by simpa using e2) ?_;rw[<-e1]
 have k1:TgK n c (List.replicate n [],m):=⟨by simp,λi=>by
  rcases Lr i n with hi | hi
  ·rw[aB hi];show 0<=_;omega
  rw[cI (by simpa using hi)];show 0<=_;omega,hm⟩;clear m1 o1 w ho;obtain⟨x0,hx0⟩ : ∃x0:TgS,x0=(List.replicate n [],m):=⟨_,rfl⟩;rw[<-hx0]at t1 k1;have htd:oE s n m=up (tgB s n) n (up (tgA s) (n-1) x0):=by rw[hx0];rfl
 clear hx0;subst hz;refine ab λz hz=>?_;simp;refine wj [0,1,5,6] (fun(_:Unit) k=>[Pw (Pt ⟨M,0,Pu⟩),Pp Pq n,vo,Pp Pq ((k+1:Nat):Int)]) (λ_ k h2=>Tg ri s M vs W vo h2 (up (tgA s) k x0)) (n-1) 1 ()
  rfl P2 rfl t1 (λ_ _=>rfl) (λv k h2 hk m=>by simp;omega) ?_ ?_
 ·rintro _ k h2 hlt t2 K2 hK2;have kx:=ym (s:=s) k1 k;have e2:up (tgA s) (k+1) x0=tgA s k (up (tgA s) k x0):=rfl;rw[e2]at hK2;generalize up (tgA s) k x0=x at t2 kx hK2;have hxl:=kx.len;simp only[aI];refine ab λy hy=>?_;simp;rw[show IntKind.i64.wrap (k:Int)=k from bw P2 P2];subst hy;refine ab λy hy=>?_;have fin : ∀(p:Nat) (m':MS) (h':Heap) (ρ:Env),tgA s k x=nG x p (k+1) m'->p<n->Tg ri s M vs W vo h' (x.1,m')->Lft.look ρ 0=Pt (Pw (Pt ⟨M,0,Pu⟩))->Lft.look ρ 1=Pt (Pp Pq n)->Lft.look ρ 5=Pt vo->Lft.look ρ 6=Pt (Pp Pq ((k+1:Nat):Int))->Lft.look ρ 7=Pt (Pp Pq p)->
    LC.wp Pz y (eE 1 (fg K2 (eE 0 (fg (LC.wp Pz z (dF [.tmp 4] K)) (dF [.tmp 4] K))))) ρ h':=by
   intro p m' h' ρ e hp t r0 r1 r5 r6 r7;subst hy;obtain⟨vr,hvr,put⟩:=t.put (p:=p) (b:=k+1) (by show p<x.1.length;omega) (by have:=kx.row p;show(nth x.1 p).length<=_;omega) P2;have hix:=t.idx (k:=.i64) (i:=p) P2 (by show(p:Int)<x.1.length;omega);simp only[LM]at hix;simp[ag,ah,r0,r1,r5,r6,r7,hix,hvr];refine put Sa P5 P5 (λ_ _=>by simp) (λ_ _=>by simp) λu v' h3 t3=>?_;refine hK2 () _ _ ?_ ?_ (by rw[e];exact t3)
   ·simp[ag,ah,r6]
   simp[bL,ag,ah,r0,r1,r5]
  have had:tgA s k x=_:=tgA.eq_1 s k x;refine ab λw hw=>?_;simp;refine af P1 (t2.take kx.ok P2 (k:=3) P4 P4) ?_;rintro _ h3 ⟨rfl,t3⟩;simp;subst hw;by_cases c3:aE s x.2.at_ 3=0
  ·rw[if_pos c3]at had;refine aT (by simp[c3]) ?_;simp;refine af P1 (t3.take kx.ok.took P2 (k:=((k+1:Nat):Int)) P2 P2) ?_;rintro _ h4 ⟨rfl,t4⟩;have hx:(x.1,x.2.took).2.at_=x.2.at_+1:=rfl;rw[hx];obtain⟨u0,u1⟩:=cG (s:=s) (at_:=x.2.at_+1) (n:=((k+1:Nat):Int)) P2;generalize aE s (x.2.at_+1) ((k+1:Nat):Int)=q at had u0 u1;refine fin q.toNat _ h4 _ had P2 t4 ?_ ?_ ?_ ?_ ?_;all_goals simp
   omega
  rw[if_neg c3]at had;refine aU (by simp[c3]) ?_;simp;refine fin k _ h3 _ had P2 t3 ?_ ?_ ?_ ?_ ?_;all_goals simp
 rintro _ h2 t2;have k2:=ym (s:=s) k1 (n-1);generalize up (tgA s) (n-1) x0=x1 at t2 k2 htd;simp;subst hz;refine ab λz hz=>?_;simp;refine cS [0,1,5,8] (fun(_:Unit) k=>[Pw (Pt ⟨M,0,Pu⟩),Pp Pq n,vo,Pp Pq k]) (λ_ k h3=>Tg ri s M vs W vo h3 (up (tgB s n) k x1)) n ()
  rfl P2 rfl t2 (λ_ _=>rfl) (λv k h3 hk m=>by simp) ?_ ?_
 ·rintro _ b h3 hlt t3 K2 hK2;have kx:=(AG (s:=s) k2 b).mono (d:=3000) P2;have e3:up (tgB s n) (b+1) x1=tgB s n b (up (tgB s n) b x1):=rfl;rw[e3]at hK2;generalize up (tgB s n) b x1=x at t3 kx hK2;simp only[aI];refine ab λy hy=>?_;simp;refine af P1 (t3.take kx.ok P2 (k:=6) P4 P4) ?_;rintro _ h4 ⟨rfl,t4⟩;have hbd:tgB s n b x=_:=tgB.eq_1 s n b x;obtain⟨r0,r1⟩:=cG (s:=s) (at_:=x.2.at_) (n:=6) P4;generalize aE s x.2.at_ 6=r at hbd r0 r1;have kx1:TgK n 3001 (x.1,x.2.took):=⟨kx.len,λi=>by have:=kx.row i;show(nth x.1 i).length<=_;omega,kx.ok.took⟩;obtain⟨cnt,hcnt⟩ : ∃cnt:Nat,cnt=if 1<n then(r-3).toNat else 0:=⟨_,rfl⟩;have hc3:cnt<=3:=by rw[hcnt];split<;>omega
  rw[<-hcnt]at hbd;generalize (x.1,x.2.took)=x2 at t4 kx1 hbd;subst hy;refine ab λy hy=>?_;simp;subst hy;simp only[aI];have hw3:IntKind.i64.wrap (r-3)=r-3:=bw P2 P2;refine E7 [0,1,5,8,9,10] (fun(_:Unit) k=>[Pw (Pt ⟨M,0,Pu⟩),Pp Pq n,vo,Pp Pq b,Pp Pq r,Pp Pq k]) (λ_ k h5=>Tg ri s M vs W vo h5 (up (λ_=>tgI s n b) k x2)) cnt ()
   rfl P2 rfl t4 (λ_ _=>rfl) (λv k h5 hk m=>by
    by_cases hn:1<n
    ·rw[if_pos hn]at hcnt;by_cases hk2:k<cnt
     ·have e1:(k:Int)<r-3:=by omega
      simp[hw3,e1,hk2];omega
     have e1:¬(k:Int)<r-3:=by omega
     simp[hw3,e1,hk2]
    rw[if_neg hn]at hcnt;have e2:¬k<cnt:=by omega
    by_cases e1:(k:Int)<r-3
    ·simp[hw3,e1,e2];omega
    simp[hw3,e1,e2]) ?_ ?_
  ·rintro _ k h5 hltk t5 K3 hK3;have hn2:1<n:=by
    rw[hcnt]at hltk;split at hltk
    ·assumption
    omega
   have kx3:=(A8 (s:=s) (b:=b) kx1 k).mono (d:=4000) P2;have e5:up (λ_=>tgI s n b) (k+1) x2=tgI s n b (up (λ_=>tgI s n b) k x2):=rfl;rw[e5]at hK3;generalize up (λ_=>tgI s n b) k x2=x at t5 kx3 hK3;have hxl:=kx3.len;have hid:tgI s n b x=_:=tgI.eq_1 s n b x;have hwn:IntKind.i64.wrap ((n:Int)-1)=(n:Int)-1:=bw P2 P2;simp only[aI];refine ab λy hy=>?_;simp[hwn];refine af P1 (t5.take kx3.ok P2 (k:=(n:Int)-1) P2 P2) ?_;rintro _ h6 ⟨rfl,t6⟩;obtain⟨q0,q1⟩:=cG (s:=s) (at_:=x.2.at_) (n:=(n:Int)-1) P2;generalize aE s x.2.at_ ((n:Int)-1)=q at hid q0 q1;have hwq:IntKind.i64.wrap (1+q)=1+q:=bw P2 P2;simp[hwq];subst hy;refine ab λy hy=>?_;refine eY (λρ h'=>∃(t:Nat) (m':MS) (v0 v:Value),tgI s n b x=nG x b t m'/\t<=1000/\Tg ri s M vs W vo h' (x.1,m')/\ρ=[(0,Pw (Pt ⟨M,0,Pu⟩)),(1,Pp Pq n),(5,vo),(8,Pp Pq b),(9,Pp Pq r),(10,Pp Pq k),(11,Pp Pq t),(57,Pp Pq q),(62,v0),(64,v)]) ?_ ?_
   ·intro K4 hK4;refine ab λw hw=>?_;by_cases c1:1+q<=b
    ·rw[if_pos c1]at hid;simp[c1];refine af P1 (t6.take kx3.ok.took P2 (k:=2) P4 P4) ?_;rintro _ h7 ⟨rfl,t7⟩;have hx:(x.1,x.2.took).2.at_=x.2.at_+1:=rfl;rw[hx];simp;subst hw;by_cases c2:aE s (x.2.at_+1) 2=0
     ·rw[if_pos c2]at hid;refine aT (by simp[c2]) ?_;simp;refine hK4 _ _ ⟨min (b+1) (n-1),_,.bool Px,Pp Pq (aE s (x.2.at_+1) 2),hid,by omega,t7,?_⟩;rw[hwn,show IntKind.i64.wrap ((b:Int)+1)=(b:Int)+1 from bw P2 P2];rw[show(if(n:Int)-1<(b:Int)+1 then(n:Int)-1 else(b:Int)+1)=((min (b+1) (n-1):Nat):Int) by split<;>omega]
     rw[if_neg c2]at hid;refine aU (by simp[c2]) ?_;simp;refine hK4 _ _ ⟨(1+q).toNat,_,.bool Px,Pp Pq (aE s (x.2.at_+1) 2),hid,by omega,t7,?_⟩;rw[show(((1+q).toNat:Nat):Int)=1+q by omega]
    rw[if_neg c1]at hid;simp[c1];subst hw;refine aU Sa ?_;simp;refine hK4 _ _ ⟨(1+q).toNat,_,.bool Py,undef,hid,by omega,t6,?_⟩;rw[show(((1+q).toNat:Nat):Int)=1+q by omega]
   rintro _ h7 ⟨t,m',v0,v,e,ht,t7,rfl⟩;subst hy;obtain⟨vr,hvr,put⟩:=t7.put (p:=b) (b:=t) (by show b<x.1.length;omega) (by have:=kx3.row b;show(nth x.1 b).length<=_;omega) P2;have hix:=t7.idx (k:=.i64) (i:=b) P2 (by show(b:Int)<x.1.length;omega);simp only[LM]at hix;simp[hix,hvr];refine put rfl (λ_=>rfl) (λ_=>rfl) (λ_ _=>rfl) (λ_ _=>rfl) λu v' h8 t8=>?_;exact hK3 () _ _ rfl rfl (by rw[e];exact t8)
  rintro _ h5 t5;simp;refine hK2 () _ _ rfl rfl (by rw[hbd];exact t5)
 rintro _ h3 t3;rw[<-htd]at t3;simp;subst hz;simp;refine hK _ _ ?_;obtain⟨W',o,rv,g,w,q⟩:=t3;obtain⟨W2,g2,w2,fr⟩:=w.own.wT (λk=>decide (3<=k.1)&&decide (k.1<8));obtain⟨vb,vl,lb,bb⟩:=w.box;refine⟨W2,_,Pn g g2,⟨w2,w.src.mono g2,vb,vl,lb,bb.frame λk hk=>?_⟩,?_,λk hk h8=>by simp[hk,h8],?_⟩
 ·have:¬3<=k.1:=by omega
  simp[this]
 ·intro k hk;have h1:3<=k.1:=by omega
  have h2:¬k.1<8:=by omega
  simp[h2];exact q.res k hk
 refine yf (fr (k:=(3,0)) P4 q.top) rfl q.len λi h1 h2 cs hr=>?_;obtain⟨e,_⟩:cs=[(rv[i]).v]/\_:=hr;refine⟨_,e,?_⟩;have:=fr (k:=(4,i)) Sa (q.row i h2);rwa [aA h1,aA h2]at this
end Go.Proofs.YtnfiilgdjpdlkaaGreatDoor
namespace Go.Proofs.YtnfiilgdjpdlkaaGreatDoor
open Go Go.Lft
section
structure Grw (b k:Nat) (m m':MS):Prop where
 at0:m.at_<=m'.at_
 at1:m'.at_<=m.at_+k
 n0:m.next<=m'.next
 n1:m'.next<=m.next+k
 ps:m'.ps=m.ps
 live:m'.live.length<=m.live.length+k
 len:m'.blocks.length=m.blocks.length
 els : ∀i,i≠b->nth m'.blocks i=nth m.blocks i
 ins:(nth m'.blocks b).ins.length<=(nth m.blocks b).ins.length+k
 phis:(nth m'.blocks b).phis=(nth m.blocks b).phis
 term:(nth m'.blocks b).term=(nth m.blocks b).term
variable {s:List Int} {m m' m2:MS} {b c k l:Nat}
theorem Grw.refl:Grw b 0 m m:=⟨Lp _,Lp _,NW _,by omega,rfl,Lp _,rfl,λ_ _=>rfl,Lp _,rfl,rfl⟩
theorem Grw.trans (g:Grw b k m m') (h:Grw b l m' m2):Grw b (k+l) m m2:=
 ⟨LN g.at0 h.at0,by have:=g.at1;have:=h.at1;omega,Int.le_trans g.n0 h.n0,by have:=g.n1;have:=h.n1;omega,h.ps.trans g.ps,by have:=g.live;have:=h.live;omega,h.len.trans g.len,λi hi=>(h.els i hi).trans (g.els i hi),by have:=g.ins;have:=h.ins;omega,h.phis.trans g.phis,h.term.trans g.term⟩
theorem Grw.mono(g:Grw b k m m')(h:k<=l):Grw b l m m':=
 ⟨g.at0,by have:=g.at1;omega,g.n0,by have:=g.n1;omega,g.ps,by have:=g.live;omega,g.len,g.els,by have:=g.ins;omega,g.phis,g.term⟩
theorem Grw.took (g:Grw b k m m'):Grw b (k+1) m m'.took:=g.trans ⟨by show _<=m'.at_+1;omega,Lp _,NW _,by show m'.next<=_;omega,rfl,by show m'.live.length<=_;omega,rfl,λ_ _=>rfl,by show(nth m'.blocks b).ins.length<=_;omega,rfl,rfl⟩
theorem Grw.aH (g:Grw b k m m'):Grw b (k+1) m m'.aH:=g.trans ⟨Lp _,by show m'.at_<=_;omega,by show _<=m'.next+1;omega,NW _,rfl,by show m'.live.length<=_;omega,rfl,λ_ _=>rfl,by show(nth m'.blocks b).ins.length<=_;omega,rfl,rfl⟩
theorem Grw.add {i:InsD} (hb:b<m.blocks.length) (g:Grw b k m m'):Grw b (k+2) m (m'.add b i):=by
 have hb':b<m'.blocks.length:=by rw[g.len];exact hb
 have e:nth (m'.add b i).blocks b={ nth m'.blocks b with ins:=(nth m'.blocks b).ins++[i] }:=by show nth (m'.blocks.set b _) b=_;rw[bz hb',if_pos rfl]
 refine g.trans ⟨Lp _,by show m'.at_<=_;omega,NW _,by show m'.next<=_;omega,rfl,?_,lY,λj hj=>?_,?_,by rw[e],by rw[e]⟩
 ·show(m'.live++cw i).length<=_;have h2:(cw i).length<=2:=by
   unfold cw;repeat' split
   all_goals simp
  rw[LA];omega
 ·show nth (m'.blocks.set b _) j=_;rcases Lr j m'.blocks.length with hl | hl
  ·rw[bz hl,if_neg (λe=>hj e.symm)]
  rw[cI (by simpa using hl),cI hl]
 rw[e];show((nth m'.blocks b).ins++[i]).length<=_;rw[LA,LP];omega
theorem Grw.constant {n:Int} (hb:b<m.blocks.length) (g:Grw b k m m'):Grw b (k+3) m (m'.constant b n):=g.aH.add hb
theorem Grw.two {op x y:Int} (hb:b<m.blocks.length) (g:Grw b k m m'):Grw b (k+3) m (m'.two b op x y):=g.aH.add hb
theorem Grw.jw(hb:b<m.blocks.length)(g:Grw b k m m'):Grw b (k+10) m (aF s m' b).2:=by
 unfold aF;repeat' split
 ·exact(g.took.took.constant hb).mono P2
 ·exact(g.took.took.took.took.took.constant hb).mono P2
 exact(g.took.took.took).mono P2
theorem Grw.addr(hb:b<m.blocks.length)(g:Grw b k m m'):Grw b (k+30) m (nF s m' b).2:=by
 unfold nF;simp only;split
 ·exact(((((g.took.constant hb).took.jw hb).constant hb).two hb).two hb).mono P2
 exact((g.took.constant hb).took).mono P2
theorem Grw.off(g:Grw b k m m'):Grw b (k+4) m (offS s m').2:=by
 unfold offS;split
 ·exact g.took.took.took.took
 exact g.took.took.mono P2
theorem Grw.memory{st:Bool}(hb:b<m.blocks.length)(g:Grw b k m m'):Grw b (k+60) m (iJ s m' b st):=by
 unfold iJ;simp only;split
 ·exact((((g.addr hb).off.jw hb)).add hb).mono P2
 exact(((g.addr hb).off.aH).add hb).mono P2
theorem Grw.bin{op:Int}(hb:b<m.blocks.length)(g:Grw b k m m'):Grw b (k+60) m (binS s m' b op):=by
 unfold binS;simp only;split
 ·exact((((g.jw hb).jw hb).took.took.constant hb).two hb).mono P2
 exact(((g.jw hb).jw hb).took.two hb).mono P2
theorem Grw.div(hb:b<m.blocks.length)(g:Grw b k m m'):Grw b (k+60) m (divS s m' b):=by
 unfold divS;simp only;split
 ·exact((((g.jw hb).took.constant hb).took.took.constant hb).two hb).mono P2
 exact(((g.jw hb).took.constant hb).took.two hb).mono P2
theorem Grw.args (hb:b<m.blocks.length) {x:List Int × MS} (g:Grw b k m x.2) : ∀n,Grw b (k+10*n) m (up (gz s b) n x).2
 | 0=>g
 | n+1=>((Grw.args hb g n).jw hb).mono P2
theorem Grw.call(hb:b<m.blocks.length)(g:Grw b k m m'):Grw b (k+70) m (nL s m' b):=by unfold nL;simp only;have ht:=cG (s:=s) (at_:=m'.at_) (n:=5) P4;have g2:=Grw.args (s:=s) hb (x:=([],m'.took)) g.took (aE s m'.at_ 5).toNat;exact(g2.aH.took.add hb).mono P2
theorem Grw.iX(hb:b<m.blocks.length)(g:Grw b k m m'):Grw b (k+80) m (aN s b m'):=by
 unfold aN;simp only;repeat' split
 ·exact(g.took.bin hb).mono P2
 ·unfold ltuS;exact(((g.took.jw hb).jw hb).two hb).mono P2
 ·exact(g.took.div hb).mono P2
 ·exact(g.took.memory hb).mono P2
 ·exact(g.took.call hb).mono P2
 ·unfold wL;exact(((g.took.jw hb).jw hb).aH.aH.add hb).mono P2
 exact(g.took.took.took.constant hb).mono P2
theorem Grw.gZ (hb:b<m.blocks.length) (g:Grw b k m m') : ∀n,Grw b (k+80*n) m (up (λ_=>aN s b) n m')
 | 0=>g
 | n+1=>((Grw.gZ hb g n).iX hb).mono P2
theorem Grw.HM{to:List Int}(hb:b<m.blocks.length)(g:Grw b k m m'):Grw b (k+40) m (gM s to b m').2:=by
 unfold gM;simp only;repeat' split
 ·exact g.took.took.mono P2
 ·exact(g.took.jw hb).mono P2
 ·exact g.took.mono P2
 ·exact g.mono P2
 ·exact((((g.jw hb).took.jw hb)).aH.took.add hb).mono P2
 ·exact(g.jw hb).took.mono P2
 exact(((g.jw hb).constant hb).two hb).mono P2
def MS.f (m:MS):an:=⟨m.ps,m.blocks⟩
def MS.ld (m:MS) (b:Nat) (l:List Int):MS:={ m with blocks:=m.blocks.set b { nth m.blocks b with term:={ (nth m.blocks b).term with to:=l } } }
def gF (s:List Int) (m:MS) (b:Nat):Int:=
 if 1<(cC m.f b).length then aE s m.at_ 4 else if aE s m.at_ 6=0 then 1 else 0
def ey (b:Nat) (m:MS):MS:={ m.aH with blocks:=m.blocks.set b { nth m.blocks b with phis:=(nth m.blocks b).phis++[⟨m.next,[]⟩] } }
def eD (s:List Int) (k:Nat) (x:List Int × MS):List Int × MS:=
 (x.1.set (k+1) (gF s x.2 (k+1)),up (λ_=>ey (k+1)) (gF s x.2 (k+1)).toNat x.2.took)
def pM (f:an) (n:Nat):List BL:=rows (λa=>dP f (a:Int)) n
def sJ (dn:BL) (away:List BL) (b n:Nat):Bool:=up (λa r=>r&&(decide (a=b)||nth dn a||nth (nth away a) b)) n (!nth dn b)
def gI (m:MS) (dn:BL) (away:List BL) (b:Nat) (a:Nat) (l:List Int):List Int:=
 if decide (a≠b)&&(!nth dn a||nth (nth away a) b) then l
 else l++(nth m.blocks a).phis.map PhiD.dst++(nth m.blocks a).ins.flatMap cw
def me (m:MS) (dn:BL) (away:List BL) (b n:Nat):List Int:=up (gI m dn away b) n (rows (λi=>(i:Int)) m.ps.toNat)
def iI (s:List Int) (to:List (List Int)) (n:Nat) (dn:BL) (away:List BL) (b:Nat) (m:MS):MS:=
 let m1:MS:={ m with live:=me m dn away b n }
 oK s (nth to b) b (up (λ_=>aN s b) (aE s m1.at_ 7).toNat m1.took)
def cm (s:List Int) (to:List (List Int)) (n:Nat) (b:Nat) (x:BL × MS):BL × MS:=
 if sJ x.1 (pM x.2.f n) b n then(x.1.set b Px,iI s to n (x.1.set b Px) (pM x.2.f n) b x.2) else x
def dr (s:List Int) (p:List Int) (k:Nat) (x:List InD × MS):List InD × MS:=
 let b:=(nth p k).toNat
 let l:=gQ x.2.f b
 let r:List Int × MS:=if l.length=0 then([x.2.next],x.2.took.took.constant b (jY s x.2)) else(l,x.2)
 (x.1++[⟨nth p k,nth r.1 (aE s r.2.at_ r.1.length).toNat⟩],r.2.took)
def MS.qS (m:MS) (b i:Nat) (l:List InD):MS:={ m with blocks:=m.blocks.set b { nth m.blocks b with phis:=(nth m.blocks b).phis.set i { nth (nth m.blocks b).phis i with ins:=l } } }
def phi3 (s:List Int) (b:Nat) (p:List Int) (i:Nat) (m:MS):MS:=(up (dr s p) p.length ([],m)).2.qS b i (up (dr s p) p.length ([],m)).1
def blk3 (s:List Int) (phis:List Int) (k:Nat) (m:MS):MS:=up (phi3 s (k+1) (cC m.f ((k+1:Nat):Int))) (nth phis (k+1)).toNat m
def wu (s:List Int):MS:=⟨2,aE s 0 5,[],aE s 0 5,[]⟩
def bK (s:List Int):Nat:=(1+aE s 1 9).toNat
def ik (s:List Int):TgS:=oE s (bK s) (wu s)
def ry:BlkD:=⟨[],[],⟨0,[],[],⟨0⟩⟩⟩
def rA (s:List Int):MS:=up (λb m=>m.ld b (nth (ik s).1 b)) (bK s) { (ik s).2 with blocks:=List.replicate (bK s) ry }
def jo (s:List Int):List Int × MS:=up (eD s) (bK s-1) (List.replicate (bK s) 0,rA s)
def xz (s:List Int):BL × MS:=up (λ_=>up (cm s (ik s).1 (bK s)) (bK s)) (bK s) (List.replicate (bK s) Py,(jo s).2)
def s9 (s:List Int):MS:=up (blk3 s (jo s).1) (bK s-1) (xz s).2
def lJ (s:List Int):an:=(s9 s).f
end
section
variable {s:List Int} {M:Nat} {vs:Value} {W0:View} {h:Heap} {o0:Own} {m:MS} {u:Value} {ds:List Int}
structure Reads (M:Nat) (m:MS) (h:Heap) (vb vl:Value):Prop where
 ps:ak (vw h) ⟨M,2,Pu⟩=Pt (Pp Pq m.ps)
 nx:ak (vw h) ⟨M,4,Pu⟩=Pt (Pp Pq m.next)
 cb:ak (vw h) ⟨M,3,Pu⟩=Pt vb
 cl:ak (vw h) ⟨M,5,Pu⟩=Pt vl
 f:Un.ev (vw h) (.bO 2) (Pw (Pt ⟨M,2,Pu⟩))=Pt (.agg #[Pp Pq m.ps,vb])
 blk:SlRd (vw h) vb m.blocks
 live:SlRd (vw h) vl m.live
variable{vb vl:Value}
theorem Reads.rd(r:Reads M m h vb vl)(hp:I64 m.ps):Rd (vw h) (.agg #[Pp Pq m.ps,vb]) m.f:=⟨_,rfl,[Pp Pq m.ps],[vb],rfl,⟨rfl,hp⟩,vb,rfl,r.blk⟩
variable{W:View}
theorem Mk.reads{o:Own}(w:Mk s M vs W h o m){lb:List BlkM}(bb:MkB M vs m o vb vl lb):Reads M m h vb vl:=by
 have c2:ak (vw h) ⟨M,2,Pu⟩=Pt (Pp Pq m.ps):=bb.cell w.own (i:=2) P4;have c3:ak (vw h) ⟨M,3,Pu⟩=Pt vb:=bb.cell w.own (i:=3) P4;refine⟨c2,bb.cell w.own (i:=4) P4,c3,bb.cell w.own (i:=5) P4,?_,?_,w.own.now bb.live⟩
 ·have hat:=w.own.v7 bb.box;obtain⟨cs,⟨cur,e,fz,g1,g2,g3⟩,he,_⟩:=w.own.atW bb.box;have:gP (vw h) ⟨M,2,Pu⟩ [Pp Pq m.ps,vb]:=⟨cur,e,fz,rfl,g2,by
   have g3:(cur.toList.drop 0).take cs.length=cs:=g3;have he:cs=mkL vs m.at_ m.ps vb m.next vl:=he;rw[M7]at g3;have hd:cs.drop 2=(cur.toList.drop 2).take (cs.length-2):=by have:=congrArg (List.drop 2) g3;rw[MT]at this;exact this.symm
   have hl:cs.length=6:=by rw[he];rfl
   have h2:(cs.drop 2).take 2=(cur.toList.drop 2).take 2:=by rw[hd,hl,MU];rfl
   show(cur.toList.drop 2).take 2=_;rw[<-h2,he];rfl⟩;have:=fO this 2 0 #[] rfl;simp only[Un.ev,vP,LK];rw[this];simp
 refine yf (w.own.now bb.blk) rfl bb.len λi h1 h2 cs hr=>?_;have:=zF hr (p:=(nth m.blocks i).phis) (i:=(nth m.blocks i).ins) (by have:=w.own.now (bb.phis i h2);rwa [aA h1]at this) (by have:=w.own.now (bb.ins i h2);rwa [aA h1]at this);have ht:=bb.term i h2;rw[aA h1]at ht;rw[ht]at this;rw[<-aA h2];exact this
theorem Nz.reads (n:Nz s M vs W0 h o0 m u ds) : ∃vb vl,Reads M m h vb vl:=by obtain⟨W,o,g,w,f,sl⟩:=n;obtain⟨vb,vl,lb,bb⟩:=w.box;exact⟨vb,vl,w.reads bb⟩
variable{α:Type}
theorem Nz.at[Rep α](n:Nz s M vs W0 h o0 m u ds){k:Key}(h3:3<=k.1){e:TypeId}{v:Value}{l:List α}(hk:o0 k=it e v l):SlRd (vw h) v l:=by obtain⟨W,o,g,w,f,sl⟩:=n;exact w.own.now ((f k h3).trans hk)
end
theorem BlkM.DS:Part BlkM (List Int) 4 (λd=>d.term.to) (λd x=>{ d with term:={ d.term with to:=x } }):=(Part.snd (Part.snd ((Part.snd (Part.snd (Part.fst Part.all))).via (α:=Cat Int (Cat (List Int) (Cat (List Int) I32))) (f:=λd:cQ=>Cat.mk d.kind (Cat.mk d.args (Cat.mk d.to d.imm))) (g':=cQ.to) (s':=λd x=>{ d with to:=x }) (λ_=>rfl) λ_ _=>rfl))).via (λ_=>rfl) λ_ _=>rfl
section
variable {s:List Int} {M:Nat} {vs:Value} {W0:View} {h:Heap} {o0:Own} {m:MS} {u:Value} {ds:List Int}
variable{po:OP}{α:Type}{ty:TypeId}{us:List (Nat × Value)}
theorem Nz.Hg[r:Rep α](n:Nz s M vs W0 h o0 m u ds){k:Key}{e:TypeId}{i:Nat}{v:Value}{l:List α}{t:TypeId}{x y:Operand}{d:α}{w:Value}{K:Value->Heap->Prop}(h3:3<=k.1)(hk:o0 k=it e v l)(hi:i<l.length)(hsz:cK Pz t=Pt (Rep.n α))(hx:asg us x = Pw (Pt ((slA v).add (i*Rep.n α))))(hy:asg us y=w)(hr : ∀W,Rd W w d)(hK : ∀h',Nz s M vs W0 h' (o0.upd k (it e v (l.set i d))) m u ds->K undef h'):@Lft.step po Pz (.store t x y) ty us h K:=by
 obtain⟨W,o,g1,wk,f,sl⟩:=n;refine wk.own.bo (k:=k) (v:=v) (l:=l) (i:=i) (d:=d) ((f k h3).trans hk) hsz hx hy hi (hr W) λh' w' _=>hK h' ?_;obtain⟨vb,vl,lb,bb⟩:=wk.box;refine⟨W,_,g1,⟨w',wk.src,vb,vl,lb,bb.frame λq hq=>Own.ay (by rintro rfl;omega)⟩,λq hq=>?_,sl⟩;unfold Own.upd;split
 ·rfl
 exact f q hq
variable{W:View}{vb vl:Value}{b:Nat}{ty2:TypeId}
theorem Mk.Km{o:Own}(w:Mk s M vs W h o m){lb:List BlkM}(bb:MkB M vs m o vb vl lb){l:List Int}{v:Value}{x y:Operand}{K:Value->Heap->Prop}(hb:b<m.blocks.length)(hsz:cK Pz ty2=Pt 1)(hx:asg us x = Pw (Pt (((slA vb).add (b*6)).add 4)))(hy:asg us y=v)(hr:SlRd W v l)(hK : ∀h' o',Mk s M vs W h' o' (m.ld b l)->(∀k:Key,3<=k.1->o' k=o k)->K undef h'):@Lft.step po Pz (.store ty2 x y) ty us h K:=by
 have hbl:b<lb.length:=by rw[bb.len];exact hb
 refine w.own.px (k:=(0,2)) (α:=BlkM) BlkM.DS (v:=vb) (l:=lb) (i:=b) (d:=l) bb.blk hsz hx hy hbl (dJ.2 hr) λh7 w7 _=>?_;have ht:=bb.term b hb;rw[aA hbl]at ht;refine hK h7 _ ⟨w7,w.src,vb,vl,_,bb.fJ hb (x':={ nth m.blocks b with term:={ (nth m.blocks b).term with to:=l } }) (y':={ lb[b]with term:={ lb[b].term with to:=l } }) (by rw[<-ht]) Own.aj ?_ ?_ λq h1 _ _=>Own.ay h1⟩ (mM P4)
 ·rw[Own.ay Sa,bb.phis b hb,aA hbl]
 rw[Own.ay Sa,bb.ins b hb,aA hbl]
end
theorem qy {to:List (List Int)} {m:MS} : ∀k,(up (λb m=>MS.ld m b (nth to b)) k m).blocks.length=m.blocks.length
 | 0=>rfl
 | k+1=>by show(List.set _ _ _).length=_;rw[LU];exact qy k
variable{M n:Nat}{vs vt vr:Value}{W0:View}{o0:Own}{to:List (List Int)}{Q:Post}{ρ:Env}
theorem HF{s:List Int}{h:Heap}{m:MS}(hto:SlRd W0 vt to)(hn:to.length=n)(x:Nx s M vs W0 h o0 m)(hlen:m.blocks.length=n)(hn2:n<=100)(h0:bL [2,3,4,5,6] ρ=[(2,vr),(3,Pw (Pt ⟨M,0,Pu⟩)),(4,Pp Pq n),(5,vt),(6,Pp Pq 0)])(hQ : ∀h',Nx s M vs W0 h' o0 (up (λb m=>m.ld b (nth to b)) n m)->Q .normal [(2,vr),(3,Pw (Pt ⟨M,0,Pu⟩)),(4,Pp Pq n),(5,vt),(6,Pp Pq n)] h'):
  LC.wp Pz (.block 0 (.loop L.ao.l1)) Q ρ h:=by
 simp only[aI];refine cS [2,3,4,5,6] (fun(_:Unit) k=>[vr,Pw (Pt ⟨M,0,Pu⟩),Pp Pq n,vt,Pp Pq k]) (λ_ k h2=>Nx s M vs W0 h2 o0 (up (λb m=>m.ld b (nth to b)) k m)) n ()
  rfl P2 h0 x (λ_ _=>rfl) (λv k h2 hk m=>by simp) ?_ ?_
 ·rintro _ b h2 hlt x2 K2 hK2;have hlb:(up (λb m=>MS.ld m b (nth to b)) b m).blocks.length=n:=(qy b).trans hlen;have e2:up (λb m=>MS.ld m b (nth to b)) (b+1) m=(up (λb m=>MS.ld m b (nth to b)) b m).ld b (nth to b):=rfl;rw[e2]at hK2;generalize up (λb m=>MS.ld m b (nth to b)) b m=m2 at x2 hK2 hlb;obtain⟨rv,hrv⟩:=hto.rows;obtain⟨hr1,hr2⟩:=hrv b P2;obtain⟨W,o,g,w,f⟩:=x2;obtain⟨vb,vl,lb,bb⟩:=w.box;have rd:=w.reads bb;have ito:=(hto.mono g).mono w.own.wle;simp only[aI];refine aR (vw h2) Pl ?_;simp(disch:=omega)[rd.cb,rd.blk.idxn (N:=6) rfl,ito.idx1 rfl,hr1 _ (Pn g w.own.wle)];refine w.Km bb (b:=b) (l:=nth to b) P2 P1 rfl rfl (hr2.mono g) λh3 o3 w3 f3=>?_;exact hK2 () _ _ rfl rfl ⟨W,o3,g,w3,λk hk=>(f3 k hk).trans (f k hk)⟩
 rintro _ h2 x2;exact hQ h2 x2
theorem sub_le{H K L:View}(h:H.sub K)(k:K.le L):H.sub L:=λb o hb=>by obtain⟨o',h1,h2⟩:=h b o hb;exact⟨o',k _ _ h1,h2⟩
variable{W:View}
theorem Owns.FX{h:Heap}{o:Own}{k:Key}{B:Nat}{e:TypeId}{l:List Value}(w:Owns W h o)(hk:o k=bx e B (RawN.mk (n:=n) l)): ∃cur,h[B]? = Pt (.cells cur e (0,0))/\∃r,cur.toList=l++r:=by
 obtain⟨hb,xs,⟨hl,hown⟩,hel⟩:=w.get (k:=k) (v:=Pv (Pt ⟨B,0,Pu⟩) 1 1) (l:=[RawN.mk (n:=n) l]) hk;have h0:=hel 0 Sa;simp only[NJ,M7,M3,LP,OT]at h0 hl;rw[Lv P2]at h0;obtain⟨h0,_,_⟩:xs=l/\_:=h0;subst h0;rcases hown with⟨h1,_⟩ | ⟨g,cap,cur,h1,h2,h3,h4,h5,h6⟩
 ·cases h1
 simp only[Value.slice.injEq,Ln,Addr.mk.injEq]at h1;obtain⟨⟨rfl,_⟩,_⟩:=h1;refine⟨cur,h2,cur.toList.drop (1*Rep.n (RawN n)),?_⟩;have h6:cur.toList.take (1*Rep.n (RawN n))=xs:=by simpa using h6
 rw[<-h6,Nc]
section
variable {s:List Int} {M:Nat} {vs:Value} {W:View} {h:Heap} {o:Own} {m:MS} {vb vl:Value} {lb:List BlkM}
theorem MkB.E9(w:Owns W h o)(bb:MkB M vs m o vb vl lb): ∃H:View,H.sub (vw h)/\ak H ⟨M,3,Pu⟩=Pt vb/\SlRd H vb lb/\
  ∀h2 o2,Owns W h2 o2->MkB M vs m.aH o2 vb vl lb->(∀X:View,X.le (vw h)->X M=Pu->X.le (vw h2))->∃X:View,H.sub X/\W.le X/\X.le (vw h2)/\SlRd X vb lb/\∀i,i<m.blocks.length->Av X (nth lb i).phis.v:=by
 obtain⟨cur,hM,r,hr⟩:=Owns.FX w bb.box;have aM:=w.av (0,0) _ bb.box;have aM:W M=none:=aM M rfl;have avb:=w.av (0,2) _ bb.blk;have hne : ∀b,vb.ownBlock=Pt b->b≠M:=λb hb e=>by have:=w.dj (0,2) (0,0) _ _ b bb.blk bb.box hb (by rw[e];rfl);simp at this
 obtain⟨w6,s6⟩:=w.freeze bb.blk;have hYM:(W.plus vb h) M=none:=by unfold View.plus;rw[if_neg (λe=>hne M e rfl)];exact aM
 have hYle:(W.plus vb h).le (vw h):=w6.wle;let P:Obj:=.cells #[vs,Pp Pq m.at_,Pp Pq m.ps,vb] T.aW (0,0);have hpre : ∀{c:Array Value} {r:List Value} {nx:Int},c.toList=mkL vs m.at_ m.ps vb nx vl++r->(Obj.cells c T.aW (0,0)=P\/∃c1 c2 t fz,P = .cells c1 t fz/\Obj.cells c T.aW (0,0) = .cells c2 t fz/\∃r:List Value,c2.toList=c1.toList++r):=fun{c r nx} hc=>.inr ⟨_,c,_,_,rfl,rfl,[Pp Pq nx,vl]++r,by rw[hc];rfl⟩;refine⟨λb=>if b=M then Pt P else(W.plus vb h) b,λb x hb=>?_,?_,?_,λh2 o2 w2 b2 keep=>?_⟩
 ·dsimp only at hb;split at hb
  ·rename_i e;cases hb;subst e;exact⟨_,hM,hpre hr⟩
  exact⟨x,hYle b x hb,.inl rfl⟩
 ·simp[ak,P]
 ·refine s6.mono λb x hb=>?_;show(if b=M then Pt P else(W.plus vb h) b)=_;rw[if_neg]
  ·exact hb
  rintro rfl;rw[hYM]at hb;cases hb
 obtain⟨cur2,hM2,r2,hr2⟩:=Owns.FX w2 b2.box;have hY2:=keep _ hYle hYM;refine⟨λb=>if b=M then h2[M]? else(W.plus vb h) b,λb x hb=>?_,λb x hb=>?_,λb x hb=>?_,s6.mono λb x hb=>?_,λi hi b hb=>?_⟩
 ·dsimp only at hb;split at hb
  ·rename_i e;cases hb;subst e;exact⟨_,by simp[hM2],hpre hr2⟩
  rename_i e;exact⟨x,by simpa[e]using hb,.inl rfl⟩
 ·have e:b≠M:=by rintro rfl;rw[aM]at hb;cases hb
  show(if b=M then h2[M]? else(W.plus vb h) b)=_;rw[if_neg e];exact gq avb b x hb
 ·dsimp only at hb;split at hb
  ·rename_i e;subst e;exact hb
  exact hY2 b x hb
 ·have e:b≠M:=by rintro rfl;rw[hYM]at hb;cases hb
  show(if b=M then h2[M]? else(W.plus vb h) b)=_;rw[if_neg e];exact hb
 have e:b≠M:=λe=>by have:=w.dj (1,i) (0,0) _ _ b (bb.phis i hi) bb.box hb (by rw[e];rfl);simp at this
 show(if b=M then h2[M]? else(W.plus vb h) b)=_;rw[if_neg e];exact w6.av (1,i) _ ((Own.ay Sa).trans (bb.phis i hi)) b hb
theorem Mk.Ir(w:Mk s M vs W h o m)(bb:MkB M vs m o vb vl lb)(h0:0<=m.next)(h1:m.next<=1000000000):
  az Pz 52 #[Pw (Pt ⟨M,0,Pu⟩)] h (λu h'=>u = Pp Pq m.next/\∃o',Mk s M vs W h' o' m.aH/\MkB M vs m.aH o' vb vl lb/\(∀k:Key,3<=k.1->o' k=o k)/\∀X:View,X.le (vw h)->X M=Pu->X.le (vw h')):=by refine(y8 w.own bb.box h0 h1).mono ?_;rintro u h' ⟨rfl,w2,keep⟩;exact⟨rfl,_,⟨w2,w.src,vb,vl,lb,bb.at⟩,bb.at,mM P4,keep⟩
end
theorem Nz.ext{s:List Int}{M:Nat}{vs:Value}{W0:View}{h h':Heap}{o0:Own}{m:MS}{u:Value}{ds:List Int}(n:Nz s M vs W0 h o0 m u ds)(hle:(vw h).le (vw h')):Nz s M vs W0 h' o0 m u ds:=by obtain⟨W,o,g,w,f,sl⟩:=n;exact⟨W,o,g,⟨w.own.ext' hle,w.src,w.box⟩,f,sl⟩
structure Sz (n a p i:Nat) (m:MS):Prop where
 at_:m.at_<=a
 n0:0<=m.next
 next:m.next<=a
 live:m.live.length<=a
 ps0:0<=m.ps
 ps1:m.ps<=4
 len:m.blocks.length=n
 phis : ∀j,(nth m.blocks j).phis.length<=p
 ins : ∀j,(nth m.blocks j).ins.length<=i
theorem Sz.mono{n a p i a' p' i':Nat}{m:MS}(z:Sz n a p i m)(h1:a<=a')(h2:p<=p')(h3:i<=i'):Sz n a' p' i' m:=
 ⟨LN z.at_ h1,z.n0,by have:=z.next;omega,LN z.live h1,z.ps0,z.ps1,z.len,λj=>LN (z.phis j) h2,λj=>LN (z.ins j) h3⟩
theorem Sz.ok {n a p i:Nat} {m:MS} (z:Sz n a p i m) (h:i<=a):m.ok a:=⟨z.at_,z.n0,z.next,z.live,λj=>LN (z.ins j) h⟩
theorem Sz.took {n a p i:Nat} {m:MS} (z:Sz n a p i m):Sz n (a+1) p i m.took:=⟨by have:=z.at_;show m.at_+1<=_;omega,z.n0,by have:=z.next;show m.next<=_;omega,by have:=z.live;show m.live.length<=_;omega,z.ps0,z.ps1,z.len,z.phis,z.ins⟩
variable{b:Nat}
theorem Sz.fJ{a p i:Nat}{m:MS}(z:Sz n a p i m){x:BlkD}(h1:x.phis.length<=p)(h2:x.ins.length<=i):Sz n a p i { m with blocks:=m.blocks.set b x }:=by
 refine⟨z.at_,z.n0,z.next,z.live,z.ps0,z.ps1,by show(m.blocks.set b x).length=_;rw[LU];exact z.len,λj=>?_,λj=>?_⟩;all_goals
  show List.length (α:=_) _<=_
  rcases Lr j m.blocks.length with hl | hl
  ·simp only[bz hl]
   split
   ·assumption
   ·first | exact z.phis j | exact z.ins j
  ·first
    | (have:=z.phis j;rw[cI hl]at this;rw[cI (by simpa using hl)];exact this)
    | (have:=z.ins j;rw[cI hl]at this;rw[cI (by simpa using hl)];exact this)
theorem Sz.ey {n a p i b:Nat} {m:MS} (z:Sz n a p i m):Sz n (a+1) (p+1) i (ey b m):=by have h1:Sz n (a+1) (p+1) i m.aH:=⟨by have:=z.at_;show m.at_<=_;omega,by have:=z.n0;show 0<=m.next+1;omega,by have:=z.next;show m.next+1<=_;omega,by have:=z.live;show m.live.length<=_;omega,z.ps0,z.ps1,z.len,λj=>by have:=z.phis j;show(nth m.blocks j).phis.length<=_;omega,z.ins⟩;exact h1.fJ (b:=b) (x:={ nth m.blocks b with phis:=(nth m.blocks b).phis++[⟨m.next,[]⟩] }) (by have:=z.phis b;show((nth m.blocks b).phis++[_]).length<=_;rw[LA,LP];omega) (z.ins b)
theorem Sz.oQ {n a p i b:Nat} {m:MS} (z:Sz n a p i m) : ∀k,Sz n (a+k) (p+k) i (up (λ_=>Go.Proofs.YtnfiilgdjpdlkaaGreatDoor.ey b) k m)
 | 0=>z
 | k+1=>(Sz.oQ z k).ey
section
variable {s:List Int} {M:Nat} {vs:Value} {W0:View} {h:Heap} {o0:Own} {m:MS}
variable{vp:Value}{lp:List Int}
theorem Gp{a p i cnt:Nat}{vq:Value}(x:Nx s M vs W0 h o0 m)(hk:o0 (5,0)=it T.int vp lp)(z:Sz n a p i m)(hb:b<n)(hlp:lp.length=n)(hcnt:nth lp b=cnt)(hc:cnt<=10)(hn:n<=100)(ha:a<=100000)(hp:p<=100000)(h0:bL [2,3,4,5,7,8,9,10] ρ=[(2,vr),(3,Pw (Pt ⟨M,0,Pu⟩)),(4,Pp Pq n),(5,vt),(7,vp),(8,Pp Pq b),(9,vq),(10,Pp Pq 0)])(hQ : ∀h',Nx s M vs W0 h' o0 (up (λ_=>ey b) cnt m)->Q .normal [(2,vr),(3,Pw (Pt ⟨M,0,Pu⟩)),(4,Pp Pq n),(5,vt),(7,vp),(8,Pp Pq b),(9,vq),(10,Pp Pq cnt)] h'):
  LC.wp Pz (.block 4 (.loop L.ao.l3)) Q ρ h:=by
 simp only[aI];refine cS [2,3,4,5,7,8,9,10] (fun(_:Unit) k=>[vr,Pw (Pt ⟨M,0,Pu⟩),Pp Pq n,vt,vp,Pp Pq b,vq,Pp Pq k]) (λ_ k h2=>Nx s M vs W0 h2 o0 (up (λ_=>ey b) k m)) cnt ()
  rfl P2 h0 x (λ_ _=>rfl) (λv k h2 hk2 m=>by have sp:=m.z.at P4 hk;have e:=sp.int Pl (i:=b) P2;rw[hcnt]at e;simp(disch:=omega)[sp.idx1 rfl,e]) ?_ ?_
 ·rintro _ k h2 hlt x2 K2 hK2;have z2:=z.oQ (b:=b) k;have e2:up (λ_=>ey b) (k+1) m=ey b (up (λ_=>ey b) k m):=rfl;rw[e2]at hK2;generalize up (λ_=>ey b) k m=m2 at x2 hK2 z2;have hbl:b<m2.blocks.length:=by rw[z2.len];exact hb
  obtain⟨W,o,g,w,f⟩:=x2;obtain⟨vb,vl,lb,bb⟩:=w.box;have hbb:b<lb.length:=by rw[bb.len];exact hbl
  obtain⟨H,hH,c3,sH,E9⟩:=bb.E9 w.own;have a1:=(sH.at hbb).part BlkM.rF;have a2:ak H (((slA vb).add (b*6)).add 0)=Pt (nth lb b).phis.v:=by rw[aA hbb];exact a1.raw
  have sb:=sH.bound;simp only[aI];refine Dl H hH ?_;simp(disch:=omega)[c3,sH.idxn (N:=6) rfl,a2];refine af P1 (w.Ir bb z2.n0 (by have:=z2.next;omega)) ?_;rintro _ h3 ⟨rfl,o3,w3,b3,f3,keep⟩;obtain⟨X,hHX,hWX,hX,sX,avX⟩:=E9 h3 o3 w3.own b3 keep;refine⟨sub_le hHX hX,?_⟩;refine aw (z:=.agg #[Pp Pq 0,Pv Pu 0 0]) (places:=[(0,1),(1,1)]) (vs:=[(0,Pp Pq m2.next)]) (cs:=#[Pp Pq m2.next,Pv Pu 0 0]) P1 P1 Sa P1 ?_;refine⟨sub_le hHX hX,?_⟩;have i64:I64 m2.next:=by have:=z2.n0;have:=z2.next;constructor<;>omega
  have hph:=z2.phis b;refine mg (α:=PhiD) (W:=W) (d:=⟨m2.next,[]⟩) El.oW rfl (Fk i64 aJ) λu5 h5 src hle5 hs5=>⟨sub_le hHX (Pn hX hle5),?_⟩;refine(w3.own.ext' hle5).dg (k:=(1,b)) (α:=PhiD) (v:=(nth lb b).phis.v) (l:=(nth m2.blocks b).phis) (l2:=[⟨m2.next,[]⟩]) (b3.phis b hbl) El.oW rfl rfl src P9 P9 λv6 h6 w6 m6=>⟨sub_le hHX (m6.view (Pn hX hle5) (avX b hbl)).1,?_⟩;have hv6:=(w6.cells (k:=(1,b)) Own.aj).2;refine w6.px (k:=(0,2)) (α:=BlkM) BlkM.rF (v:=vb) (l:=lb) (i:=b) (d:=⟨v6⟩) b3.blk P1 rfl rfl hbb (mw.2 ⟨rfl,hv6⟩) λh7 w7 _=>?_;have b7:=b3.fJ (b:=b) hbl (x':={ nth m2.blocks b with phis:=(nth m2.blocks b).phis++[⟨m2.next,[]⟩] }) (y':={ lb[b]with phis:=⟨v6⟩ }) (o':=(o3.upd (1,b) (it T.nm v6 ((nth m2.blocks b).phis++[⟨m2.next,[]⟩]))).upd (0,2) (it T.ep vb (lb.set b { lb[b]with phis:=⟨v6⟩ }))) (by rw[<-bb.term b hbl,aA hbb]) Own.aj ((Own.ay Sa).trans Own.aj) (by rw[Own.ay Sa,Own.ay Sa,b3.ins b hbl,aA hbb];rfl) (λq h1 h2 h3=>by rw[Own.ay h1,Own.ay h2]);refine hK2 () _ _ rfl rfl ⟨W,_,g,⟨w7,w.src,vb,vl,_,b7⟩,λk hk=>?_⟩;rw[Own.ay (by rintro rfl;simp at hk),Own.ay (by rintro rfl;simp at hk)];exact(f3 k hk).trans (f k hk)
 rintro _ h2 x2;exact hQ h2 x2
end
variable{po:OP}{α:Type}{ty:TypeId}{us:List (Nat × Value)}
theorem Nz.uD{s:List Int}{h:Heap}{m:MS}{u:Value}{ds:List Int}[r:Rep α](n:Nz s M vs W0 h o0 m u ds){k:Key}{e:TypeId}{i:Nat}{v:Value}{l:List α}{t:TypeId}{x y:Operand}{d:α}{w:Value}{K:Value->Heap->Prop}(h1:Rep.n α=1)(h3:3<=k.1)(hk:o0 k=it e v l)(hi:i<l.length)(hsz:cK Pz t=Pt 1)(hx:asg us x = Pw (Pt ((slA v).add i)))(hy:asg us y=w)(hr : ∀W,Rd W w d)(hK : ∀h',Nz s M vs W0 h' (o0.upd k (it e v (l.set i d))) m u ds->K undef h'):@Lft.step po Pz (.store t x y) ty us h K:=
 n.Hg h3 hk hi (by rw[hsz,h1]) (by rw[hx,h1,L7]) hy hr hK
theorem pZ{s:List Int}{m:MS}:0<=gF s m b/\gF s m b<=3:=by
 unfold gF;have:=cG (s:=s) (at_:=m.at_) (n:=4) P4;repeat' split
 all_goals omega
theorem EN{l:List Int}{i:Nat}{x:Int}(h:nth l i=x)(hi:i<l.length):l.set i x=l:=by rw[<-h,aA hi];exact List.set_getElem_self hi
structure Ph (n a k:Nat) (x:List Int × MS):Prop where
 z:Sz n (a+10*k) (3*k) 0 x.2
 len:x.1.length=n
 zero : ∀j,k<j->nth x.1 j=0
 rng : ∀j,0<=nth x.1 j/\nth x.1 j<=3
theorem wy{s:List Int}{a k:Nat}{x:List Int × MS}(p:Ph n a k x):Ph n a (k+1) (eD s k x):=by
 obtain⟨c0,c1⟩:=pZ (s:=s) (m:=x.2) (b:=k+1);have hset : ∀j,nth (x.1.set (k+1) (gF s x.2 (k+1))) j=if k+1=j/\j<x.1.length then gF s x.2 (k+1) else nth x.1 j:=λj=>by
  rcases Lr j x.1.length with hl | hl
  ·rw[bz hl];by_cases e:k+1=j
   ·rw[if_pos e,if_pos ⟨e,hl⟩]
   rw[if_neg e,if_neg (λq=>e q.1)]
  rw[cI (by simpa using hl),if_neg P2,cI hl]
 refine⟨?_,?_,λj hj=>?_,λj=>?_⟩
 ·have:=(p.z.took).oQ (b:=k+1) (gF s x.2 (k+1)).toNat;exact this.mono P2 P2 (Lp _)
 ·show(x.1.set _ _).length=_;rw[LU];exact p.len
 ·show nth (x.1.set _ _) j=_;rw[hset,if_neg P2];exact p.zero j P2
 show 0<=nth (x.1.set _ _) j/\nth (x.1.set _ _) j<=3;rw[hset];split
 ·exact⟨c0,c1⟩
 exact p.rng j
theorem yt {s:List Int} {n a:Nat} {x:List Int × MS} (p:Ph n a 0 x) : ∀k,Ph n a k (up (eD s) k x)
 | 0=>p
 | k+1=>wy (yt p k)
variable{vp:Value}
theorem Hk{s:List Int}{h:Heap}{a:Nat}{x0:List Int × MS}(x:Nx s M vs W0 h (o0.upd (5,0) (it T.int vp x0.1)) x0.2)(p0:Ph n a 0 x0)(hn1:1<=n)(hn:n<=100)(ha:a<=10000)(h0:bL [2,3,4,5,7,8] ρ=[(2,vr),(3,Pw (Pt ⟨M,0,Pu⟩)),(4,Pp Pq n),(5,vt),(7,vp),(8,Pp Pq 1)])(hQ : ∀h',Nx s M vs W0 h' (o0.upd (5,0) (it T.int vp (up (eD s) (n-1) x0).1)) (up (eD s) (n-1) x0).2->Q .normal [(2,vr),(3,Pw (Pt ⟨M,0,Pu⟩)),(4,Pp Pq n),(5,vt),(7,vp),(8,Pp Pq n)] h'):
  LC.wp Pz (.block 2 (.loop L.ao.l2)) Q ρ h:=by
 simp only[aI];refine wj [2,3,4,5,7,8] (fun(_:Unit) k=>[vr,Pw (Pt ⟨M,0,Pu⟩),Pp Pq n,vt,vp,Pp Pq ((k+1:Nat):Int)]) (λ_ k h2=>Nx s M vs W0 h2 (o0.upd (5,0) (it T.int vp (up (eD s) k x0).1)) (up (eD s) k x0).2) (n-1) 1 ()
  rfl P2 h0 x (λ_ _=>rfl) (λv k h2 hk2 m=>by simp;omega) ?_ ?_
 ·rintro _ k h2 hlt x2 K2 hK2;have p2:=yt (s:=s) p0 k;have e2:up (eD s) (k+1) x0=eD s k (up (eD s) k x0):=rfl;have p3:=wy (s:=s) p2;rw[e2]at hK2;generalize up (eD s) k x0=y at x2 hK2 p2 p3;obtain⟨lp,m⟩:=y;have z:Sz n (a+10*k) (3*k) 0 m:=p2.z;have x2:Nx s M vs W0 h2 (o0.upd (5,0) (it T.int vp lp)) m:=x2;have q:m.ok (a+10*k):=z.ok P2;have hlen:lp.length=n:=p2.len;simp only[aI];refine ab λy hy=>?_;obtain⟨vb,vl,rd⟩:=x2.z.reads;simp[rd.f];refine af P1 (tu (b:=((k+1:Nat):Int)) (rd.rd ⟨by have:=z.ps0;show _<=m.ps;omega,by have:=z.ps1;show m.ps<=_;omega⟩) (by show m.blocks.length<=_;rw[z.len];omega)) ?_;rintro vq h3 ⟨hle3,hq⟩;have n3:=x2.z.ext hle3;have hcd:gF s m (k+1)=_:=gF.eq_1 s m (k+1);obtain⟨pl,hpl⟩ : ∃pl:Nat,pl=(cC m.f ((k+1:Nat):Int)).length:=⟨_,rfl⟩;have hql : ∀{Q:View},Un.ev Q .len vq=Pt (Pp Pq pl):=fun{Q}=>by rw[hpl];exact hq.len
  rw[<-hpl]at hcd;clear hq x2 rd hpl;subst hy;refine ab λy hy=>?_;have fin : ∀(h':Heap) (ρ:Env),Nz s M vs W0 h' (o0.upd (5,0) (it T.int vp (lp.set (k+1) (gF s m (k+1))))) m.took (Pv Pu 0 0) []->Lft.look ρ 2=Pt vr->Lft.look ρ 3=Pt (Pw (Pt ⟨M,0,Pu⟩))->Lft.look ρ 4=Pt (Pp Pq n)->Lft.look ρ 5=Pt vt->Lft.look ρ 7=Pt vp->Lft.look ρ 8=Pt (Pp Pq ((k+1:Nat):Int))->Lft.look ρ 9=Pt vq->
    LC.wp Pz y (eE 3 (fg K2 (eE 2 Q))) ρ h':=by
   intro h' ρ n' r2 r3 r4 r5 r7 r8 r9;subst hy;refine ab λy hy=>?_;simp;subst hy;obtain⟨c0,c1⟩:=pZ (s:=s) (m:=m) (b:=k+1);refine Gp (vr:=vr) (vt:=vt) (b:=k+1) (cnt:=(gF s m (k+1)).toNat) (vq:=vq) n'.x Own.aj z.took P2 (by rw[LU];exact hlen) (by rw[bz P2,if_pos rfl];omega) P2 hn P2 P2 ?_ λh4 x4=>?_
   ·simp[bL,ag,ah,r2,r3,r4,r5,r7,r8,r9]
   simp;exact hK2 () _ _ rfl rfl x4
  refine ab λw hw=>?_;simp[hql];subst hw;by_cases c1:1<pl
  ·rw[if_pos c1]at hcd;refine aT P9 ?_;simp;refine af P1 (ef n3 q P2 (k:=4) P4 P4) ?_;rintro _ h4 ⟨rfl,n4⟩;have sp:=n4.at (k:=(5,0)) P4 Own.aj;simp(disch:=omega)[sp.idx1 rfl];refine n4.uD (k:=(5,0)) (α:=Int) (i:=k+1) (d:=aE s m.at_ 4) rfl P4 Own.aj P2 P1 rfl rfl (λW=>bD.2 ⟨rfl,by have:=cG (s:=s) (at_:=m.at_) (n:=4) P4;constructor<;>omega⟩) λh5 n5=>?_;refine fin h5 _ (n5.re λq=>by rw[eg,hcd]) ?_ ?_ ?_ ?_ ?_ ?_ ?_;all_goals simp
  rw[if_neg c1]at hcd;refine aU P9 ?_;refine ab λw hw=>?_;simp;refine af P1 (ef n3 q P2 (k:=6) P4 P4) ?_;rintro _ h4 ⟨rfl,n4⟩;simp;subst hw;by_cases c2:aE s m.at_ 6=0
  ·rw[if_pos c2]at hcd;refine aT (by simp[c2]) ?_;have sp:=n4.at (k:=(5,0)) P4 Own.aj;simp(disch:=omega)[sp.idx1 rfl];refine n4.uD (k:=(5,0)) (α:=Int) (i:=k+1) (d:=1) rfl P4 Own.aj P2 P1 rfl rfl (λW=>bD.2 ⟨rfl,by decide,by decide⟩) λh5 n5=>?_;refine fin h5 _ (n5.re λq=>by rw[eg,hcd]) ?_ ?_ ?_ ?_ ?_ ?_ ?_;all_goals simp
  rw[if_neg c2]at hcd;refine aU (by simp[c2]) ?_;simp;have e:lp.set (k+1) (gF s m (k+1))=lp:=by rw[hcd];exact EN (p2.zero (k+1) P2) P2
  refine fin h4 _ (n4.re λq=>by rw[e]) ?_ ?_ ?_ ?_ ?_ ?_ ?_;all_goals simp
 rintro _ h2 x2;have e:n-1+1=n:=by omega
 have:=hQ h2 x2;simpa[e]using this
section
variable {s:List Int} {M:Nat} {vs:Value} {W0:View} {h:Heap} {o0:Own} {m:MS}
theorem FJ{a p i:Nat}(z:Sz n a p i m):I64 m.ps:=by have:=z.ps0;have:=z.ps1;constructor<;>omega
variable{vd va:Value}
theorem Gs{a p i:Nat}{r:Bool}{t:Nat}(x:Nx s M vs W0 h (o0.upd (7,0) (it T.ny va ([]:List BL))) m)(hfree:o0 (7,0)=Pu)(z:Sz n a p i m)(hn:n<=100)(h0:bL [2,3,4,5,7,11,12,13,14,15,16] ρ=[(2,vr),(3,Pw (Pt ⟨M,0,Pu⟩)),(4,Pp Pq n),(5,vt),(7,vp),(11,vd),(12,Pp Pq t),(13,Pp Pq b),(14,.bool r),(15,va),(16,Pp Pq 0)])(hQ : ∀h' W' va,W0.le W'->Nx s M vs W' h' o0 m->SlRd W' va (pM m.f n)->Q .normal [(2,vr),(3,Pw (Pt ⟨M,0,Pu⟩)),(4,Pp Pq n),(5,vt),(7,vp),(11,vd),(12,Pp Pq t),(13,Pp Pq b),(14,.bool r),(15,va),(16,Pp Pq n)] h'):
  LC.wp Pz (.block 10 (.loop L.ao.l6)) Q ρ h:=by
 simp only[aI];refine cS [2,3,4,5,7,11,12,13,14,15,16] (fun(va:Value) k=>[vr,Pw (Pt ⟨M,0,Pu⟩),Pp Pq n,vt,vp,vd,Pp Pq t,Pp Pq b,.bool r,va,Pp Pq k]) (λva k h2=>Nx s M vs W0 h2 (o0.upd (7,0) (it T.ny va (rows (λa=>dP m.f (a:Int)) k))) m) n va
  rfl P2 h0 x (λ_ _=>rfl) (λv k h2 hk2 m=>by simp) ?_ ?_
 ·rintro va k h2 hlt x2 K2 hK2;simp only[aI];obtain⟨vb,vl,rd⟩:=x2.z.reads;simp[rd.f];refine af P1 (uH (wo:=(k:Int)) (rd.rd (FJ z)) (by show m.blocks.length<=_;rw[z.len];omega)) ?_;rintro ur h3 ⟨hle3,hur⟩;obtain⟨W,o,g,w,f⟩:=x2;have w3:=w.own.ext hle3;have hW3:=bU (h':=h3) w.own.wle;have hur:=hur.mono (iN W h2 h3);generalize grow W h2 h3=W3 at w3 hW3 hur;refine w3.fM (k:=(7,0)) (α:=BL) (d:=dP m.f (k:Int)) ((f _ P4).trans Own.aj) El.tI rfl (dJ.2 hur) P9 P9 (λ_=>rfl) (λ_=>rfl) λu v' h4 w4 _=>?_;obtain⟨vb,vl,lb,bb⟩:=w.box;refine hK2 v' _ _ rfl rfl ⟨W3,_,Pn g hW3,⟨w4,w.src.mono hW3,vb,vl,lb,bb.frame λq hq=>Own.ay (by rintro rfl;simp at hq)⟩,λq hq=>?_⟩;rw[eu];unfold Own.upd;split
  ·rfl
  rename_i e;rw[f q hq,Own.ay e]
 rintro va h2 ⟨W,o,g,w,f⟩;have hk:=(f (7,0) P4).trans Own.aj;obtain⟨w2,sl⟩:=w.own.freeze hk;have hWp:=gq (h:=h2) (w.own.av _ _ hk);obtain⟨vb,vl,lb,bb⟩:=w.box;refine hQ h2 _ va (Pn g hWp) ⟨_,_,View.le_refl _,⟨w2,w.src.mono hWp,vb,vl,lb,bb.frame λq hq=>Own.ay (by rintro rfl;simp at hq)⟩,λq hq=>?_⟩ sl;by_cases e:q=(7,0)
 ·rw[e,Own.aj,hfree]
 rw[Own.ay e,f q hq,Own.ay e]
variable{dn:BL}{away:List BL}
theorem GD{r:Bool}{t:Nat}(sd:SlRd (vw h) vd dn)(sa:SlRd (vw h) va away)(hb:b<n)(hdn:dn.length=n)(hal:away.length=n)(har : ∀i,i<n->(nth away i).length=n)(hn:n<=100)(h0:bL [2,3,4,5,7,11,12,13,14,15,17] ρ=[(2,vr),(3,Pw (Pt ⟨M,0,Pu⟩)),(4,Pp Pq n),(5,vt),(7,vp),(11,vd),(12,Pp Pq t),(13,Pp Pq b),(14,.bool r),(15,va),(17,Pp Pq 0)])(hQ:Q .normal [(2,vr),(3,Pw (Pt ⟨M,0,Pu⟩)),(4,Pp Pq n),(5,vt),(7,vp),(11,vd),(12,Pp Pq t),(13,Pp Pq b),(14,.bool (up (λa r=>r&&(decide (a=b)||nth dn a||nth (nth away a) b)) n r)),(15,va),(17,Pp Pq n)] h):
  LC.wp Pz (.block 12 (.loop L.ao.l7)) Q ρ h:=by
 simp only[aI];refine cS [2,3,4,5,7,11,12,13,14,15,17] (fun(r:Bool) k=>[vr,Pw (Pt ⟨M,0,Pu⟩),Pp Pq n,vt,vp,vd,Pp Pq t,Pp Pq b,.bool r,va,Pp Pq k]) (λr2 k h2=>h2=h/\r2=up (λa r=>r&&(decide (a=b)||nth dn a||nth (nth away a) b)) k r) n r
  rfl P2 h0 ⟨rfl,rfl⟩ (λ_ _=>rfl) (λv k h2 hk2 m=>by simp) ?_ ?_
 ·rintro r2 k h2 hlt ⟨rfl,hr2⟩ K2 hK2;have e:up (λa r=>r&&(decide (a=b)||nth dn a||nth (nth away a) b)) (k+1) r=(r2&&(decide (k=b)||nth dn k||nth (nth away k) b)):=by rw[hr2];rfl
  rw[e]at hK2;clear e hr2;obtain⟨rv,hrv⟩:=sa.rows;obtain⟨ha1,ha2⟩:=hrv k P2;have hl:=har k hlt;have hkb : ∀{A:Type},True:=trivial;simp only[aI];cases r2 with
  | false=>simp;exact hK2 Py _ _ rfl rfl ⟨rfl,rfl⟩
  | true=>
   by_cases c:k=b
   ·subst c;simp;exact hK2 Px _ _ rfl rfl ⟨rfl,by simp⟩
   have c':¬((k:Int)=(b:Int)):=by omega
   cases hd:nth dn k with
   | true=>simp(disch:=omega)[c,c',sd.idx1 rfl,sd.bool Pl,hd];exact hK2 Px _ _ rfl rfl ⟨rfl,by simp[hd]⟩
   | false=>simp(disch:=omega)[c,c',sd.idx1 rfl,sd.bool Pl,hd,sa.idx1 rfl,ha1 _ Pl,ha2.idx1 rfl,ha2.bool Pl];exact hK2 _ _ _ rfl rfl ⟨rfl,by simp[hd,c]⟩
 rintro r2 h2 ⟨rfl,rfl⟩;exact hQ
end
def MS.cD (m:MS) (l:List Int):MS:={ m with live:=l }
section
variable {s:List Int} {M:Nat} {vs:Value} {W0:View} {h:Heap} {o0:Own} {m:MS}
variable{vb vl:Value}{ty2:TypeId}
theorem Mk.yv{po2:OP}{o:Own}(w:Mk s M vs W h o m){lb:List BlkM}(bb:MkB M vs m o vb vl lb){l2:List Int}{u:Value}{x y c1 c2:Operand}{us2:Value->List (Nat × Value)}{K:Value->Value->Heap->Prop}(src:SrcT (vw h) W u l2)(hl:m.live.length+l2.length<=1000000)(hx:asg us x=vl)(hy:asg us y=u)(hc1 : ∀v,asg (us2 v) c1 = Pw (Pt ⟨M,5,Pu⟩))(hc2 : ∀v,asg (us2 v) c2=v)(hK : ∀v h' o',Mk s M vs W h' o' (m.cD (m.live++l2))->(∀k:Key,3<=k.1->o' k=o k)->K v undef h'):
  @Lft.step po Pz (.call ⟨.builtin .append,#[x,y],#[T.aP,T.aP]⟩) ty us h λv h2=>@Lft.step po2 Pz (.store T.aP c1 c2) ty2 (us2 v) h2 λw h3=>K v w h3:=by
 refine w.own.dg (k:=(0,1)) (α:=Int) (v:=vl) (l:=m.live) (l2:=l2) bb.live El.aP hx hy src P2 P2 λv h2 w2 _=>?_;have hv:=(w2.cells (k:=(0,1)) Own.aj).2;refine w2.de (k:=(0,0)) (n:=5) (i:=5) (e:=T.aW) (B:=M) (l:=mkL vs m.at_ m.ps vb m.next vl) ((Own.ay Sa).trans bb.box) P4 P1 (hc1 v) (hc2 v) hv λh3 w3 _=>?_;refine hK v h3 _ ⟨w3,w.src,vb,v,lb,⟨rfl,rfl,(Own.ay Sa).trans ((Own.ay Sa).trans bb.blk),bb.len,bb.term,λi hi=>?_,λi hi=>?_⟩⟩ λk hk=>?_
 ·exact(Own.ay Sa).trans ((Own.ay Sa).trans (bb.phis i hi))
 ·exact(Own.ay Sa).trans ((Own.ay Sa).trans (bb.ins i hi))
 rw[Own.ay (by rintro rfl;simp at hk),Own.ay (by rintro rfl;simp at hk)]
variable{vd va:Value}
theorem Hl{a p i c:Nat}{r:Bool}{t:Nat}(x:Nx s M vs W0 h o0 (m.cD []))(z:Sz n a p i m)(hc:m.ps=c)(h0:bL [2,3,4,5,7,11,12,13,15,18] ρ=[(2,vr),(3,Pw (Pt ⟨M,0,Pu⟩)),(4,Pp Pq n),(5,vt),(7,vp),(11,vd),(12,Pp Pq t),(13,Pp Pq b),(15,va),(18,Pp Pq 0)])(hQ : ∀h',Nx s M vs W0 h' o0 (m.cD (rows (λi=>(i:Int)) c))->Q .normal [(2,vr),(3,Pw (Pt ⟨M,0,Pu⟩)),(4,Pp Pq n),(5,vt),(7,vp),(11,vd),(12,Pp Pq t),(13,Pp Pq b),(15,va),(18,Pp Pq c)] h'):
  LC.wp Pz (.block 14 (.loop L.ao.l8)) Q ρ h:=by
 have hc4:c<=4:=by have:=z.ps1;omega
 simp only[aI];refine cS [2,3,4,5,7,11,12,13,15,18] (fun(_:Unit) k=>[vr,Pw (Pt ⟨M,0,Pu⟩),Pp Pq n,vt,vp,vd,Pp Pq t,Pp Pq b,va,Pp Pq k]) (λ_ k h2=>Nx s M vs W0 h2 o0 (m.cD (rows (λi=>(i:Int)) k))) c ()
  rfl P2 h0 x (λ_ _=>rfl) (λv k h2 hk2 x2=>by obtain⟨vb,vl,rd⟩:=x2.z.reads;have e:(m.cD (rows (λi=>(i:Int)) k)).ps=c:=hc;simp[rd.ps,e]) ?_ ?_
 ·rintro _ k h2 hlt x2 K2 hK2;obtain⟨W,o,g,w,f⟩:=x2;obtain⟨vb,vl,lb,bb⟩:=w.box;have rd:=w.reads bb;simp only[aI];simp[rd.cl];refine mg (α:=Int) (W:=W) (d:=(k:Int)) El.aP rfl (bD.2 ⟨rfl,by constructor<;>omega⟩) λu5 h5 src hle5 hs5=>?_;have w5:Mk s M vs W h5 o (m.cD (rows (λi=>(i:Int)) k)):=⟨w.own.ext' hle5,w.src,w.box⟩;refine w5.yv bb src (by show(rows _ k).length+1<=_;simp;omega) rfl rfl (λ_=>rfl) (λ_=>rfl) λv h6 o6 w6 f6=>?_;refine hK2 () _ _ rfl rfl ⟨W,o6,g,?_,λk hk=>(f6 k hk).trans (f k hk)⟩;rw[eu];exact w6
 rintro _ h2 x2;exact hQ h2 x2
theorem EB{a p i ai:Nat}{t:Nat}{lv:List Int}(x:Nx s M vs W0 h o0 (m.cD lv))(z:Sz n a p i m)(hai:ai<n)(hn:n<=100)(hl:lv.length<=100000)(hp:p<=100000)(h0:bL [2,3,4,5,7,11,12,13,15,19,20] ρ=[(2,vr),(3,Pw (Pt ⟨M,0,Pu⟩)),(4,Pp Pq n),(5,vt),(7,vp),(11,vd),(12,Pp Pq t),(13,Pp Pq b),(15,va),(19,Pp Pq ai),(20,Pp Pq 0)])(hQ : ∀h':Heap,Nx s M vs W0 h' o0 (m.cD (lv++(nth m.blocks ai).phis.map PhiD.dst))->Q .normal [(2,vr),(3,Pw (Pt ⟨M,0,Pu⟩)),(4,Pp Pq n),(5,vt),(7,vp),(11,vd),(12,Pp Pq t),(13,Pp Pq b),(15,va),(19,Pp Pq ai),(20,Pp Pq (nth m.blocks ai).phis.length)] h'):
  LC.wp Pz (.block 18 (.loop L.ao.l10)) Q ρ h:=by
 have hpl:=z.phis ai;have hlen:ai<m.blocks.length:=by rw[z.len];exact hai
 simp only[aI];have read : ∀{h2:Heap} {lv2:List Int} {vb vl:Value},Reads M (m.cD lv2) h2 vb vl->∃vph,ak (vw h2) (((slA vb).add (ai*6)).add 0)=Pt vph/\SlRd (vw h2) vph (nth m.blocks ai).phis/\Bn.ev (.idx 6) vb (Pp Pq ai)=Pt (Pw (Pt ((slA vb).add (ai*6)))):=by intro h2 lv2 vb vl rd;have hb:=rd.blk;have hl2:ai<(m.cD lv2).blocks.length:=hlen;obtain⟨vph,h1⟩:=((hb.at hl2).part BlkD.rF).sl;have h2:=h1.2;have e:(m.cD lv2).blocks[ai]=nth m.blocks ai:=(aA hl2).symm;rw[e]at h2;exact⟨vph,h1.1,h2,by have:=hb.idxn (N:=6) rfl (k:=.i64) (i:=ai) P2 P2;simpa using this⟩
 refine cS [2,3,4,5,7,11,12,13,15,19,20] (fun(_:Unit) k=>[vr,Pw (Pt ⟨M,0,Pu⟩),Pp Pq n,vt,vp,vd,Pp Pq t,Pp Pq b,va,Pp Pq ai,Pp Pq k]) (λ_ k h2=>Nx s M vs W0 h2 o0 (m.cD (lv++((nth m.blocks ai).phis.take k).map PhiD.dst))) (nth m.blocks ai).phis.length ()
  rfl P2 h0 (by simpa using x) (λ_ _=>rfl) (λv k h2 hk2 x2=>by obtain⟨vb,vl,rd⟩:=x2.z.reads;obtain⟨vph,r1,r2,r3⟩:=read rd;simp[rd.cb,r3,r1,r2.len]) ?_ ?_
 ·rintro _ k h2 hlt x2 K2 hK2;obtain⟨W,o,g,w,f⟩:=x2;obtain⟨vb,vl,lb,bb⟩:=w.box;have rd:=w.reads bb;obtain⟨vph,r1,r2,r3⟩:=read rd;have r4:ak (vw h2) (((slA vph).add (k*2)).add 0)=Pt (Pp Pq (nth m.blocks ai).phis[k].dst):=((r2.at hlt).part PhiD.ig).int;have i64:=((r2.at hlt).part PhiD.ig).rng;have r5:Bn.ev (.idx 2) vph (Pp Pq k)=Pt (Pw (Pt ((slA vph).add (k*2)))):=by have:=r2.idxn (N:=2) rfl (k:=.i64) (i:=k) P2 P2;simpa using this
  simp only[aI];refine aR (vw h2) Pl ?_;simp[rd.cl,rd.cb,r3,r1,r4,r5];refine mg (α:=Int) (W:=W) (d:=(nth m.blocks ai).phis[k].dst) El.aP rfl (bD.2 ⟨rfl,i64⟩) λu5 h5 src hle5 hs5=>⟨hle5,?_⟩;have w5:Mk s M vs W h5 o (m.cD (lv++((nth m.blocks ai).phis.take k).map PhiD.dst)):=⟨w.own.ext' hle5,w.src,w.box⟩;refine w5.yv bb src (by show(lv++_).length+1<=_;simp;omega) rfl rfl (λ_=>rfl) (λ_=>rfl) λv h6 o6 w6 f6=>?_;refine hK2 () _ _ rfl rfl ⟨W,o6,g,?_,λk hk=>(f6 k hk).trans (f k hk)⟩;rw[LD hlt,Nw,<-List.append_assoc];exact w6
 rintro _ h2 x2;rw[MH]at x2;exact hQ h2 x2
end
theorem Ay{l:List InsD}:(l.flatMap cw).length<=2*l.length:=by
 induction l with
 | nil=>simp
 | cons a l ih=>
  have:(cw a).length<=2:=by
   unfold cw;repeat' split
   all_goals simp
  simp only[ND,LA,MF];omega
section
variable {s:List Int} {M:Nat} {vs:Value} {W0:View} {h:Heap} {o0:Own} {m:MS}
variable{vd va:Value}
theorem Fa{a p i ai:Nat}{t:Nat}{lv:List Int}(x:Nx s M vs W0 h o0 (m.cD lv))(z:Sz n a p i m)(hai:ai<n)(hn:n<=100)(hl:lv.length<=100000)(hi:i<=100000)(h0:bL [2,3,4,5,7,11,12,13,15,19,21] ρ=[(2,vr),(3,Pw (Pt ⟨M,0,Pu⟩)),(4,Pp Pq n),(5,vt),(7,vp),(11,vd),(12,Pp Pq t),(13,Pp Pq b),(15,va),(19,Pp Pq ai),(21,Pp Pq 0)])(hQ : ∀h':Heap,Nx s M vs W0 h' o0 (m.cD (lv++(nth m.blocks ai).ins.flatMap cw))->Q .normal [(2,vr),(3,Pw (Pt ⟨M,0,Pu⟩)),(4,Pp Pq n),(5,vt),(7,vp),(11,vd),(12,Pp Pq t),(13,Pp Pq b),(15,va),(19,Pp Pq ai),(21,Pp Pq (nth m.blocks ai).ins.length)] h'):
  LC.wp Pz (.block 20 (.loop L.ao.l11)) Q ρ h:=by
 have hil:=z.ins ai;have hlen:ai<m.blocks.length:=by rw[z.len];exact hai
 simp only[aI];have read : ∀{h2:Heap} {lv2:List Int} {vb vl:Value},Reads M (m.cD lv2) h2 vb vl->∃vi,ak (vw h2) (((slA vb).add (ai*6)).add 1)=Pt vi/\SlRd (vw h2) vi (nth m.blocks ai).ins/\Bn.ev (.idx 6) vb (Pp Pq ai)=Pt (Pw (Pt ((slA vb).add (ai*6)))):=by intro h2 lv2 vb vl rd;have hb:=rd.blk;have hl2:ai<(m.cD lv2).blocks.length:=hlen;obtain⟨vi,h1⟩:=((hb.at hl2).part BlkD.mN).sl;have h2:=h1.2;have e:(m.cD lv2).blocks[ai]=nth m.blocks ai:=(aA hl2).symm;rw[e]at h2;exact⟨vi,h1.1,h2,by have:=hb.idxn (N:=6) rfl (k:=.i64) (i:=ai) P2 P2;simpa using this⟩
 refine cS [2,3,4,5,7,11,12,13,15,19,21] (fun(_:Unit) k=>[vr,Pw (Pt ⟨M,0,Pu⟩),Pp Pq n,vt,vp,vd,Pp Pq t,Pp Pq b,va,Pp Pq ai,Pp Pq k]) (λ_ k h2=>Nx s M vs W0 h2 o0 (m.cD (lv++((nth m.blocks ai).ins.take k).flatMap cw))) (nth m.blocks ai).ins.length ()
  rfl P2 h0 (by simpa using x) (λ_ _=>rfl) (λv k h2 hk2 x2=>by obtain⟨vb,vl,rd⟩:=x2.z.reads;obtain⟨vi,r1,r2,r3⟩:=read rd;simp[rd.cb,r3,r1,r2.len]) ?_ ?_
 ·rintro _ k h2 hlt x2 K2 hK2;obtain⟨vb,vl,rd⟩:=x2.z.reads;obtain⟨vi,r1,r2,r3⟩:=read rd;obtain⟨ux,hux,huxr⟩:=r2.wh rfl (N:=5) rfl hlt;have r5:Bn.ev (.idx 5) vi (Pp Pq k)=Pt (Pw (Pt ((slA vi).add (k*5)))):=by have:=r2.idxn (N:=5) rfl (k:=.i64) (i:=k) P2 P2;simpa using this
  simp only[aI];refine ab λy hy=>?_;simp[rd.cb,r3,r1,r5,hux _ Pl];refine af P1 (n7 huxr) ?_;rintro um h3 ⟨hle3,hum,-⟩;clear rd r1 r2 r3 r5 hux;obtain⟨W,o,g,w,f⟩:=x2;have w3:=w.own.ext hle3;have hW3:=bU (h':=h3) w.own.wle;have hum:=hum.mono (iN W h2 h3);generalize grow W h2 h3=W3 at w3 hW3 hum;have w4:Mk s M vs W3 h3 o (m.cD (lv++((nth m.blocks ai).ins.take k).flatMap cw)):=⟨w3,w.src.mono hW3,w.box⟩;obtain⟨vb,vl,lb,bb⟩:=w4.box;have rd:=w4.reads bb;subst hy;simp[rd.cl];have hfl:=Ay (l:=(nth m.blocks ai).ins.take k);have hml:(cw (nth (nth m.blocks ai).ins k)).length<=2:=by
   unfold cw;repeat' split
   all_goals simp
  refine w4.yv bb (hum.src w3.wle) (by show(lv++_).length+_<=_;simp at hfl ⊢;omega) rfl rfl (λ_=>rfl) (λ_=>rfl) λv h6 o6 w6 f6=>?_;refine hK2 () _ _ rfl rfl ⟨W3,o6,Pn g hW3,?_,λk hk=>(f6 k hk).trans (f k hk)⟩;rw[LD hlt,List.flatMap_append,List.flatMap_singleton,<-List.append_assoc,<-aA hlt];exact w6
 rintro _ h2 x2;rw[MH]at x2;exact hQ h2 x2
variable{dn:BL}{away:List BL}
theorem C9{a p i:Nat}(z:Sz n a p i m){ai:Nat}{l:List Int}:(gI m dn away b ai l).length<=l.length+p+2*i:=by
 unfold gI;split
 ·omega
 have h1:=z.phis ai;have h2:=z.ins ai;have h3:=Ay (l:=(nth m.blocks ai).ins);simp only[LA,M0];omega
theorem nh {n a p i:Nat} (z:Sz n a p i m) {dn:BL} {away:List BL} {b:Nat} {l:List Int} : ∀k,(up (gI m dn away b) k l).length<=l.length+(p+2*i)*k
 | 0=>Lp _
 | k+1=>by have:=nh z (dn:=dn) (away:=away) (b:=b) (l:=l) k;have h2:=C9 z (dn:=dn) (away:=away) (b:=b) (ai:=k) (l:=up (gI m dn away b) k l);show(gI m dn away b k (up (gI m dn away b) k l)).length<=_;rw[OD];omega
theorem Hd{a p i:Nat}{t:Nat}{l0:List Int}(x:Nx s M vs W0 h o0 (m.cD l0))(z:Sz n a p i m)(hd:o0 (6,0)=it T.bool vd dn)(sa:SlRd W0 va away)(hb:b<n)(hdn:dn.length=n)(hal:away.length=n)(har : ∀i,i<n->(nth away i).length=n)(hn:n<=10)(hl:l0.length<=10)(hp:p<=1000)(hi:i<=3000)(h0:bL [2,3,4,5,7,11,12,13,15,19] ρ=[(2,vr),(3,Pw (Pt ⟨M,0,Pu⟩)),(4,Pp Pq n),(5,vt),(7,vp),(11,vd),(12,Pp Pq t),(13,Pp Pq b),(15,va),(19,Pp Pq 0)])(hQ : ∀h':Heap,Nx s M vs W0 h' o0 (m.cD (up (gI m dn away b) n l0))->Q .normal [(2,vr),(3,Pw (Pt ⟨M,0,Pu⟩)),(4,Pp Pq n),(5,vt),(7,vp),(11,vd),(12,Pp Pq t),(13,Pp Pq b),(15,va),(19,Pp Pq n)] h'):
  LC.wp Pz (.block 16 (.loop L.ao.l9)) Q ρ h:=by
 simp only[aI];refine cS [2,3,4,5,7,11,12,13,15,19] (fun(_:Unit) k=>[vr,Pw (Pt ⟨M,0,Pu⟩),Pp Pq n,vt,vp,vd,Pp Pq t,Pp Pq b,va,Pp Pq k]) (λ_ k h2=>Nx s M vs W0 h2 o0 (m.cD (up (gI m dn away b) k l0))) n ()
  rfl P2 h0 x (λ_ _=>rfl) (λv k h2 hk2 x2=>by simp) ?_ ?_
 ·rintro _ k h2 hlt x2 K2 hK2;have e2:up (gI m dn away b) (k+1) l0=gI m dn away b k (up (gI m dn away b) k l0):=rfl;rw[e2]at hK2;have hll:=nh z (dn:=dn) (away:=away) (b:=b) (l:=l0) k;have hll:(up (gI m dn away b) k l0).length<=80000:=by have:(p+2*i)*k<=7000*10:=NI P2 P2;omega
  generalize up (gI m dn away b) k l0=lv at x2 hK2 hll;have hla:gI m dn away b k lv=_:=gI.eq_1 m dn away b k lv;have sd:=x2.z.at P4 hd;have sa2:=sa.mono x2.z.le;obtain⟨rv,hrv⟩:=sa2.rows;obtain⟨ha1,ha2⟩:=hrv k P2;have hal2:=har k hlt;simp only[aI];refine ab λy hy=>?_;have fin : ∀ρ,Lft.look ρ 2=Pt vr->Lft.look ρ 3=Pt (Pw (Pt ⟨M,0,Pu⟩))->Lft.look ρ 4=Pt (Pp Pq n)->Lft.look ρ 5=Pt vt->Lft.look ρ 7=Pt vp->Lft.look ρ 11=Pt vd->Lft.look ρ 12=Pt (Pp Pq t)->Lft.look ρ 13=Pt (Pp Pq b)->Lft.look ρ 15=Pt va->Lft.look ρ 19=Pt (Pp Pq k)->(decide (k≠b)&&(!nth dn k||nth (nth away k) b))=Py->
    LC.wp Pz y (eE 17 (fg K2 (eE 16 Q))) ρ h2:=by
   intro ρ r2 r3 r4 r5 r7 r11 r12 r13 r15 r19 hc;subst hy;rw[if_neg (by rw[hc];simp)]at hla;refine ab λy hy=>?_;refine ab λw hw=>?_;simp;subst hw;refine EB (vr:=vr) (vt:=vt) (vp:=vp) (vd:=vd) (va:=va) (t:=t) (b:=b) (ai:=k) x2 z hlt P2 P2 P2 ?_ λh3 x3=>?_
   ·simp[bL,ag,ah,r2,r3,r4,r5,r7,r11,r12,r13,r15,r19]
   simp;subst hy;refine ab λw hw=>?_;simp;subst hw;have hph:=z.phis k;refine Fa (vr:=vr) (vt:=vt) (vp:=vp) (vd:=vd) (va:=va) (t:=t) (b:=b) (ai:=k) x3 z hlt P2 P9 P2 ?_ λh4 x4=>?_
   ·simp[bL,ag,ah]
   simp;refine hK2 () _ _ rfl rfl (by rw[hla];exact x4)
  refine ab λw hw=>?_;by_cases c:k=b
  ·subst c;simp;subst hw;refine aU Sa ?_;simp;refine fin _ ?_ ?_ ?_ ?_ ?_ ?_ ?_ ?_ ?_ ?_ Sa;all_goals simp
  have c':¬((k:Int)=(b:Int)):=by omega
  cases hd2:nth dn k with
  | false=>simp(disch:=omega)[c,c',sd.idx1 rfl,sd.bool Pl,hd2];subst hw;refine aT Sa ?_;simp;refine hK2 () _ _ rfl rfl ?_;rw[if_pos (by simp[c,hd2])]at hla;rw[hla];exact x2
  | true=>
   simp(disch:=omega)[c,c',sd.idx1 rfl,sd.bool Pl,hd2,sa2.idx1 rfl,ha1 _ Pl,ha2.idx1 rfl,ha2.bool Pl];subst hw;cases hw2:nth (nth away k) b with
   | true=>refine aT (by simp[hw2]) ?_;simp;refine hK2 () _ _ rfl rfl ?_;rw[if_pos (by simp[c,hd2,hw2])]at hla;rw[hla];exact x2
   | false=>refine aU (by simp[hw2]) ?_;simp;refine fin _ ?_ ?_ ?_ ?_ ?_ ?_ ?_ ?_ ?_ ?_ (by simp[c,hd2,hw2]);all_goals simp
 rintro _ h2 x2;exact hQ h2 x2
end
structure B2 (n a p:Nat) (x:BL × MS):Prop where
 z:Sz n a p 700 x.2
 len:x.1.length=n
 none : ∀j,j<n->nth x.1 j=Py->(nth x.2.blocks j).ins.length=0
variable{dn:BL}{away:List BL}
theorem xa{a p:Nat}{m:MS}(z:Sz n a p 700 m)(hn:n<=10)(hp:p<=100):(me m dn away b n).length<=15100:=by have:=nh z (dn:=dn) (away:=away) (b:=b) (l:=rows (λi=>(i:Int)) m.ps.toNat) n;rw[mO]at this;have h2:(p+2*700)*n<=1500*10:=NI P2 hn;have:=z.ps1;unfold me;omega
theorem oc{m:MS}{j:Nat}{t:cQ}(hb:b<m.blocks.length):nth (m.yn b t).blocks j=if b=j then{ nth m.blocks b with term:=t } else nth m.blocks j:=by
 show nth (m.blocks.set b _) j=_;rcases Lr j m.blocks.length with hl | hl
 ·rw[bz hl]
 rw[cI (by simpa using hl),cI hl,if_neg P2]
theorem AN{s:List Int}{a p:Nat}{m:MS}(z:Sz n a p 700 m)(hb:b<n)(h0:(nth m.blocks b).ins.length=0)(hn:n<=10)(hp:p<=100)(ha:16000<=a):
  Sz n (a+600) p 700 (iI s to n dn away b m)/\∀j,j≠b->(nth (iI s to n dn away b m).blocks j).ins=(nth m.blocks j).ins:=by
 have hll:=xa (dn:=dn) (away:=away) (b:=b) z hn hp;have ht:=cG (s:=s) (at_:=m.at_) (n:=7) P4;have hbl:b<m.blocks.length:=by rw[z.len];exact hb
 obtain⟨m1,hm1⟩ : ∃m1:MS,m1=MS.took { m with live:=me m dn away b n }:=⟨_,rfl⟩;have z1:Sz n (a+1) p 700 m1:=by rw[hm1];exact Sz.took ⟨z.at_,z.n0,z.next,by show(me m dn away b n).length<=_;omega,z.ps0,z.ps1,z.len,z.phis,z.ins⟩
 have hl1:m1.live.length<=15100:=by rw[hm1];exact hll
 have e1 : ∀j,nth m1.blocks j=nth m.blocks j:=λj=>by rw[hm1];rfl
 have hb1:b<m1.blocks.length:=by rw[z1.len];exact hb
 have g:=((Grw.refl (b:=b) (m:=m1)).gZ (s:=s) hb1 (aE s m.at_ 7).toNat).HM (s:=s) (to:=nth to b) hb1;have g:=g.mono (l:=520) P2;have e:iI s to n dn away b m=oK s (nth to b) b (up (λ_=>aN s b) (aE s m.at_ 7).toNat m1):=by rw[hm1];rfl
 rw[e];unfold oK;generalize gM s (nth to b) b (up (λ_=>aN s b) (aE s m.at_ 7).toNat m1)=r at g;have hbr:b<r.2.blocks.length:=by rw[g.len];exact hb1
 have hown:=g.ins;rw[e1,h0]at hown;refine⟨⟨?_,?_,?_,?_,?_,?_,?_,λj=>?_,λj=>?_⟩,λj hj=>?_⟩
 ·show r.2.at_<=_;have:=g.at1;have:=z1.at_;omega
 ·show 0<=r.2.next;have:=g.n0;have:=z1.n0;omega
 ·show r.2.next<=_;have:=g.n1;have:=z1.next;omega
 ·show r.2.live.length<=_;have:=g.live;omega
 ·show 0<=r.2.ps;rw[g.ps];exact z1.ps0
 ·show r.2.ps<=4;rw[g.ps];exact z1.ps1
 ·show(r.2.blocks.set b _).length=n;rw[LU,g.len];exact z1.len
 ·rw[oc hbr];split
  ·rename_i e;subst e;show(nth r.2.blocks b).phis.length<=_;rw[g.phis];exact z1.phis b
  rename_i e;rw[g.els j (λq=>e q.symm)];exact z1.phis j
 ·rw[oc hbr];split
  ·rename_i e;subst e;show(nth r.2.blocks b).ins.length<=_;omega
  rename_i e;rw[g.els j (λq=>e q.symm)];exact z1.ins j
 rw[oc hbr,if_neg (λq=>hj q.symm),g.els j hj,e1]
theorem qh{s:List Int}{a p:Nat}{x:BL × MS}(q:B2 n a p x)(hb:b<n)(hn:n<=10)(hp:p<=100)(ha:16000<=a)(h0:sJ x.1 (pM x.2.f n) b n=Px->nth x.1 b=Py):B2 n (a+600) p (cm s to n b x):=by
 unfold cm;split
 ·rename_i hr;obtain⟨z2,e2⟩:=AN (s:=s) (to:=to) (dn:=x.1.set b Px) (away:=pM x.2.f n) q.z hb (q.none b hb (h0 hr)) hn hp ha;refine⟨z2,by show(x.1.set b Px).length=n;rw[LU];exact q.len,λj hj h=>?_⟩;have h:nth (x.1.set b Px) j=false:=h;rw[bz (by rw[q.len];exact hj)]at h;split at h
  ·cases h
  rename_i e;show(nth (iI _ _ _ _ _ _ _).blocks j).ins.length=0;rw[e2 j (λr=>e r.symm)];exact q.none j hj h
 exact⟨q.z.mono P2 (Lp _) (Lp _),q.len,q.none⟩
theorem E6 {f:Nat->Bool} : ∀(n:Nat) (r:Bool),up (λa r=>r&&f a) n r=Px->r=Px
 | 0,r,h=>h
 | n+1,r,h=>by have h:(up (λa r=>r&&f a) n r&&f n)=true:=h;simp only[Ls]at h;exact E6 n r h.1
theorem oL(h:sJ dn away b n=Px):nth dn b=false:=by unfold sJ at h;have:=E6 _ _ h;simpa using this
section
variable {s:List Int} {M:Nat} {vs:Value} {W0:View} {h:Heap} {o0:Own} {m:MS}
variable{vd va:Value}
theorem E0{k c:Nat}{t:Nat}(x:Nx s M vs W0 h o0 m)(hfree:o0 (9,0)=Pu)(hm:m.ok c)(hc:c<=100000)(hk:k<=100)(hb:b<m.blocks.length)(h0:bL [2,3,4,5,7,11,12,13,15,23,24] ρ=[(2,vr),(3,Pw (Pt ⟨M,0,Pu⟩)),(4,Pp Pq n),(5,vt),(7,vp),(11,vd),(12,Pp Pq t),(13,Pp Pq b),(15,va),(23,Pp Pq k),(24,Pp Pq 0)])(hQ : ∀h':Heap,Nx s M vs W0 h' o0 (up (λ_=>aN s b) k m)->Q .normal [(2,vr),(3,Pw (Pt ⟨M,0,Pu⟩)),(4,Pp Pq n),(5,vt),(7,vp),(11,vd),(12,Pp Pq t),(13,Pp Pq b),(15,va),(23,Pp Pq k),(24,Pp Pq k)] h'):
  LC.wp Pz (.block 22 (.loop L.ao.l12)) Q ρ h:=by
 have oks : ∀j,(up (λ_=>aN s b) j m).ok (c+80*j)/\(up (λ_=>aN s b) j m).blocks.length=m.blocks.length:=by
  intro j;induction j with
  | zero=>exact⟨hm,rfl⟩
  | succ j ih=>exact⟨(ih.1.iX (s:=s) (b:=b)).mono P2,(nE (s:=s) (b:=b)).trans ih.2⟩
 simp only[aI];refine cS [2,3,4,5,7,11,12,13,15,23,24] (fun(_:Unit) j=>[vr,Pw (Pt ⟨M,0,Pu⟩),Pp Pq n,vt,vp,vd,Pp Pq t,Pp Pq b,va,Pp Pq k,Pp Pq j]) (λ_ j h2=>Nx s M vs W0 h2 o0 (up (λ_=>aN s b) j m)) k ()
  rfl P2 h0 x (λ_ _=>rfl) (λv k h2 hk2 x2=>by simp) ?_ ?_
 ·rintro _ j h2 hlt x2 K2 hK2;obtain⟨q1,q2⟩:=oks j;have e2:up (λ_=>aN s b) (j+1) m=aN s b (up (λ_=>aN s b) j m):=rfl;rw[e2]at hK2;generalize up (λ_=>aN s b) j m=m2 at x2 hK2 q1 q2;simp only[aI];simp;refine af P1 (tT x2 (b:=b) P2 q1 P2 hfree) ?_;rintro _ h3 x3;exact hK2 () _ _ rfl rfl x3
 rintro _ h2 x2;exact hQ h2 x2
end
theorem Nx.up{s:List Int}{h:Heap}{m:MS}(x:Nx s M vs W h o0 m)(hW:W0.le W):Nx s M vs W0 h o0 m:=by obtain⟨W',o,g,w,f⟩:=x;exact⟨W',o,Pn hW g,w,f⟩
theorem Nx.re{s:List Int}{h:Heap}{o0':Own}{m:MS}(x:Nx s M vs W h o0 m)(he : ∀k,o0' k=o0 k):Nx s M vs W h o0' m:=by obtain⟨W',o,g,w,f⟩:=x;exact⟨W',o,g,w,λk hk=>(f k hk).trans (he k).symm⟩
theorem Nx.iz {po:OP} {s:List Int} {M:Nat} {vs:Value} {W0:View} {h:Heap} {o0:Own} {m:MS} {α:Type} [r:Rep α] {ty e t:TypeId} {us:List (Nat × Value)} {k:Key} {bytes:Nat} {z:Value} {K:Value->Heap->Prop} (x:Nx s M vs W0 h o0 m) (h3:3<=k.1) (hk:o0 k=Pu) (hT:dR Pz t e (Rep.n α) bytes z)
  (hK : ∀v h',v.oneCell'=Px->Nx s M vs W0 h' (o0.upd k (it e v ([]:List α))) m->K v h'):@Lft.step po Pz (.buildSlice t 0 #[]) ty us h K:=by
 obtain⟨W,o,g,w,f⟩:=x;refine w.own.iz (k:=k) (α:=α) ((f k h3).trans hk) hT λv h2 hle2 hv w2 _=>hK v h2 hv ?_;obtain⟨vb,vl,lb,bb⟩:=w.box;refine⟨W,_,g,⟨w2,w.src,vb,vl,lb,bb.frame λq hq=>Own.ay (by rintro rfl;omega)⟩,λq hq=>?_⟩;unfold Own.upd;split
 ·rfl
 exact f q hq
variable{ty2:TypeId}
theorem Nx.D2{po2:OP}{s:List Int}{h:Heap}{m:MS}{us2:Value->List (Nat × Value)}{c1 c2:Operand}{K:Value->Value->Heap->Prop}(x:Nx s M vs W0 h o0 m)(hc1 : ∀v,asg (us2 v) c1 = Pw (Pt ⟨M,5,Pu⟩))(hc2 : ∀v,asg (us2 v) c2=v)(hK : ∀v h',Nx s M vs W0 h' o0 (m.cD [])->K v undef h'):@Lft.step po Pz (.buildSlice T.aP 0 #[]) ty us h λv h2=>@Lft.step po2 Pz (.store T.aP c1 c2) ty2 (us2 v) h2 λw h3=>K v w h3:=by
 obtain⟨W,o,g,w,f⟩:=x;obtain⟨vb,vl,lb,bb⟩:=w.box;have w1:=w.own.sub (o':=o.upd (0,1) Pu) λj i hj=>by
  unfold Own.upd at hj;split at hj
  ·cases hj
  exact hj
 refine w1.iz (k:=(0,1)) (α:=Int) Own.aj El.aP λv h2 hle2 hv w2 _=>?_;have w2:=w2.congr (o':=o.upd (0,1) (it T.int v ([]:List Int))) λq=>by unfold Own.upd;split<;>rfl
 refine w2.de (k:=(0,0)) (n:=5) (i:=5) (e:=T.aW) (B:=M) (l:=mkL vs m.at_ m.ps vb m.next vl) ((Own.ay Sa).trans bb.box) P4 P1 (hc1 v) (hc2 v) hv λh3 w3 _=>?_;refine hK v h3 ⟨W,_,g,⟨w3,w.src,vb,v,lb,⟨rfl,rfl,(Own.ay Sa).trans ((Own.ay Sa).trans bb.blk),bb.len,bb.term,λi hi=>?_,λi hi=>?_⟩⟩,λk hk=>?_⟩
 ·exact(Own.ay Sa).trans ((Own.ay Sa).trans (bb.phis i hi))
 ·exact(Own.ay Sa).trans ((Own.ay Sa).trans (bb.ins i hi))
 rw[Own.ay (by rintro rfl;simp at hk),Own.ay (by rintro rfl;simp at hk)];exact f k hk
section
variable {s:List Int} {M:Nat} {vs:Value} {W0:View} {h:Heap} {o0:Own} {m:MS}
variable{vd:Value}
theorem G9{a p:Nat}{t:Nat}{x0:BL × MS}(x:Nx s M vs W0 h (o0.upd (6,0) (it T.bool vd x0.1)) x0.2)(hto:SlRd W0 vt to)(htl:to.length=n)(f7:o0 (7,0)=Pu)(f90:o0 (9,0)=Pu)(f91:o0 (9,1)=Pu)(q:B2 n a p x0)(hn:n<=10)(hp:p<=100)(ha:16000<=a)(ha2:a<=90000)(h0:bL [2,3,4,5,7,11,12,13] ρ=[(2,vr),(3,Pw (Pt ⟨M,0,Pu⟩)),(4,Pp Pq n),(5,vt),(7,vp),(11,vd),(12,Pp Pq t),(13,Pp Pq 0)])(hQ : ∀h':Heap,Nx s M vs W0 h' (o0.upd (6,0) (it T.bool vd (up (cm s to n) n x0).1)) (up (cm s to n) n x0).2->Q .normal [(2,vr),(3,Pw (Pt ⟨M,0,Pu⟩)),(4,Pp Pq n),(5,vt),(7,vp),(11,vd),(12,Pp Pq t),(13,Pp Pq n)] h'):
  LC.wp Pz (.block 8 (.loop L.ao.l5)) Q ρ h:=by
 have oks : ∀j,j<=n->B2 n (a+600*j) p (up (cm s to n) j x0):=by
  intro j;induction j with
  | zero=>intro _;exact q
  | succ j ih=>intro hj;have:=qh (s:=s) (to:=to) (b:=j) (ih P2) P2 hn hp P2 λh=>oL h;exact⟨this.z.mono P2 (Lp _) (Lp _),this.len,this.none⟩
 simp only[aI];refine cS [2,3,4,5,7,11,12,13] (fun(_:Unit) j=>[vr,Pw (Pt ⟨M,0,Pu⟩),Pp Pq n,vt,vp,vd,Pp Pq t,Pp Pq j]) (λ_ j h2=>Nx s M vs W0 h2 (o0.upd (6,0) (it T.bool vd (up (cm s to n) j x0).1)) (up (cm s to n) j x0).2) n ()
  rfl P2 h0 x (λ_ _=>rfl) (λv k h2 hk2 x2=>by simp) ?_ ?_
 ·rintro _ b h2 hlt x2 K2 hK2;have q2:=oks b P2;have e2:up (cm s to n) (b+1) x0=cm s to n b (up (cm s to n) b x0):=rfl;rw[e2]at hK2;generalize up (cm s to n) b x0=y at x2 hK2 q2;obtain⟨dn,m⟩:=y;have x2:Nx s M vs W0 h2 (o0.upd (6,0) (it T.bool vd dn)) m:=x2;have z:Sz n (a+600*b) p 700 m:=q2.z;have hdn:dn.length=n:=q2.len;have hbs:cm s to n b (dn,m)=_:=cm.eq_1 s to n b (dn,m);simp only at hbs;have sd:=x2.z.at P4 Own.aj;simp only[aI];refine ab λy hy=>?_;simp(disch:=omega)[sd.idx1 rfl,sd.bool Pl];subst hy;refine ab λy hy=>?_;simp;refine x2.iz (k:=(7,0)) (α:=BL) P4 ((Own.ay Sa).trans f7) El.tI λva h3 hva x3=>?_;clear sd;subst hy;refine ab λy hy=>?_;refine ab λw hw=>?_;simp;subst hw;refine Gs (vr:=vr) (vt:=vt) (vp:=vp) (vd:=vd) (t:=t) (b:=b) (r:=!nth dn b) x3 ((Own.ay Sa).trans f7) z P2 (by simp[bL,ag,ah]) λh4 W4 va hW4 x4 sa=>?_;clear x3 hva x2;have hal:(pM m.f n).length=n:=by unfold pM;simp
  have har : ∀i,i<n->(nth (pM m.f n) i).length=n:=λi hi=>by unfold pM;rw[fm hi,qR];exact z.len
  generalize pM m.f n=away at sa hbs hal har;simp;subst hy;refine ab λy hy=>?_;refine ab λw hw=>?_;simp;subst hw;have sd:=x4.z.at P4 Own.aj;refine GD (M:=M) (n:=n) (b:=b) (vr:=vr) (vt:=vt) (vp:=vp) (vd:=vd) (va:=va) (t:=t) (r:=!nth dn b) sd (sa.mono x4.z.le) hlt hdn hal har P2 (by simp[bL,ag,ah]) ?_;have hrd:up (λa r=>r&&(decide (a=b)||nth dn a||nth (nth away a) b)) n (!nth dn b)=sJ dn away b n:=rfl;rw[hrd];simp;subst hy;refine ab λy hy=>?_;refine ab λw hw=>?_;simp;subst hw;cases hr:sJ dn away b n with
  | false=>rw[hr]at hbs;rw[if_neg Sa]at hbs;refine aT Sa ?_;simp;refine hK2 () _ _ rfl rfl ?_;rw[hbs];exact x4.up hW4
  | true=>
   rw[hr]at hbs;rw[if_pos rfl]at hbs;have hnb:=oL hr;have hib:=q2.none b hlt hnb;refine aU Sa ?_;simp;subst hy;refine ab λy hy=>?_;simp(disch:=omega)[sd.idx1 rfl];refine x4.z.uD (k:=(6,0)) (α:=Bool) (i:=b) (d:=true) rfl P4 Own.aj P2 P1 rfl rfl (λW=>tB.2 rfl) λh5 n5=>?_;have x5:Nx s M vs W4 h5 (o0.upd (6,0) (it T.bool vd (dn.set b Px))) m:=n5.x.re λq=>by rw[eg]
   clear n5 x4 sd;subst hy;refine ab λy hy=>?_;simp;refine x5.D2 (λ_=>rfl) (λ_=>rfl) λv6 h6 x6=>?_;subst hy;obtain⟨c,hc⟩ : ∃c:Nat,m.ps=c:=⟨m.ps.toNat,by have:=z.ps0;omega⟩;have hc4:c<=4:=by have:=z.ps1;omega
   refine ab λy hy=>?_;refine ab λw hw=>?_;simp;subst hw;refine Hl (n:=n) (b:=b) (vr:=vr) (vt:=vt) (vp:=vp) (vd:=vd) (va:=va) (t:=t) (r:=true) x6 z hc (by simp[bL,ag,ah]) λh7 x7=>?_;simp;subst hy;refine ab λy hy=>?_;refine ab λw hw=>?_;simp;subst hw;refine Hd (n:=n) (b:=b) (vr:=vr) (vt:=vt) (vp:=vp) (vd:=vd) (va:=va) (t:=t) (dn:=dn.set b Px) (away:=away) x7 z Own.aj sa hlt (by rw[LU];exact hdn) hal har hn P9 P2 P2 (by simp[bL,ag,ah]) λh8 x8=>?_;have hlv:up (gI m (dn.set b Px) away b) n (rows (λi=>(i:Int)) c)=me m (dn.set b Px) away b n:=by unfold me;rw[hc];rfl
   rw[hlv]at x8;have hll:=xa (dn:=dn.set b Px) (away:=away) (b:=b) z hn hp;have hdo:iI s to n (dn.set b Px) away b m=oK s (nth to b) b (up (λ_=>aN s b) (aE s m.at_ 7).toNat (MS.took (m.cD (me m (dn.set b Px) away b n)))):=rfl;rw[hdo]at hbs;obtain⟨m1,hm1⟩ : ∃m1,m1=m.cD (me m (dn.set b Px) away b n):=⟨_,rfl⟩;have z1:Sz n (a+600*b) p 700 m1:=by rw[hm1];exact⟨z.at_,z.n0,z.next,by show(me _ _ _ _ _).length<=_;omega,z.ps0,z.ps1,z.len,z.phis,z.ins⟩
   have ea:m.at_=m1.at_:=by rw[hm1];rfl
   rw[<-hm1]at x8 hbs;rw[ea]at hbs;clear hlv hdo hm1 ea x7 x6 x5;simp;subst hy;refine ab λy hy=>?_;simp;refine af P1 (ef x8.z (z1.ok P2) P2 (k:=7) P4 P4) ?_;rintro _ h9 ⟨rfl,n9⟩;obtain⟨t0,t1⟩:=cG (s:=s) (at_:=m1.at_) (n:=7) P4;generalize aE s m1.at_ 7=kk at hbs t0 t1;obtain⟨k,rfl⟩ : ∃k:Nat,kk=k:=⟨kk.toNat,by omega⟩;rw[show((k:Int)).toNat=k by omega]at hbs;subst hy;refine ab λy hy=>?_;refine ab λw hw=>?_;simp;subst hw;have zok:=(z1.took).ok (show 700<=_ by omega);refine E0 (n:=n) (b:=b) (k:=k) (c:=a+600*b+1) (vr:=vr) (vt:=vt) (vp:=vp) (vd:=vd) (va:=va) (t:=t) n9.x ((Own.ay Sa).trans f90) zok P2 P2 (by show b<m1.blocks.length;rw[z1.len];exact hlt) (by simp[bL,ag,ah]) λh10 x10=>?_;have oks2 : ∀j,(up (λ_=>aN s b) j m1.took).ok (a+600*b+1+80*j)/\(up (λ_=>aN s b) j m1.took).blocks.length=n:=by
    intro j;induction j with
    | zero=>exact⟨zok,z1.len⟩
    | succ j ih=>exact⟨(ih.1.iX (s:=s) (b:=b)).mono P2,(nE (s:=s) (b:=b)).trans ih.2⟩
   obtain⟨k1,k2⟩:=oks2 k;generalize up (λ_=>aN s b) k m1.took=m2 at x10 hbs k1 k2;obtain⟨rv,hrv⟩:=hto.rows;obtain⟨hr1,hr2⟩:=hrv b P2;have ito:=(hto.mono hW4).mono x10.z.le;simp;subst hy;simp(disch:=omega)[ito.idx1 rfl,hr1 _ (Pn hW4 x10.z.le)];refine af P1 (Js x10 (b:=b) P2 k1 P2 ((Own.ay Sa).trans f91) (hr2.mono hW4)) ?_;rintro _ h11 x11;refine hK2 () _ _ rfl rfl ?_;rw[hbs];exact x11.up hW4
 rintro _ h2 x2;exact hQ h2 x2
end
section
structure GdB (x:BlkD):Prop where
 ins : ∀i∈x.ins,i.args.length<=10
 args:x.term.args.length<=10
 to:x.term.to.length<=1000
 phis : ∀p∈x.phis,p.ins.length<=1000
def Gd (m:MS):Prop:=∀j,j<m.blocks.length->GdB (nth m.blocks j)
variable {s:List Int} {m:MS} {b:Nat}
theorem Gd.took (g:Gd m):Gd m.took:=g
theorem Gd.aH (g:Gd m):Gd m.aH:=g
theorem Gd.fJ(g:Gd m){x:BlkD}(hx:b<m.blocks.length->GdB x):Gd { m with blocks:=m.blocks.set b x }:=λj hj=>by
 have hj:j<m.blocks.length:=by simpa using hj
 show GdB (nth (m.blocks.set b x) j);rw[bz hj];split
 ·rename_i e;exact hx P2
 exact g j hj
theorem Gd.add (g:Gd m) {i:InsD} (hi:i.args.length<=10):Gd (m.add b i):=by
 have:=g.fJ (b:=b) (x:={ nth m.blocks b with ins:=(nth m.blocks b).ins++[i] }) λhb=>⟨λj hj=>by
  rcases Lt.1 hj with h | h
  ·exact(g b hb).ins j h
  rw[Lw]at h;rw[h];exact hi,(g b hb).args,(g b hb).to,(g b hb).phis⟩;exact this
theorem Gd.constant (g:Gd m) {n:Int}:Gd (m.constant b n):=g.aH.add (by show 0<=10;omega)
theorem Gd.two (g:Gd m) {op x y:Int}:Gd (m.two b op x y):=g.aH.add (by show 2<=10;omega)
theorem Gd.aF (g:Gd m):Gd (aF s m b).2:=by
 unfold Go.Proofs.YtnfiilgdjpdlkaaGreatDoor.aF;repeat' split
 ·exact g.took.took.constant
 ·exact g.took.took.took.took.took.constant
 exact g.took.took.took
theorem Gd.addr(g:Gd m):Gd (nF s m b).2:=by
 unfold nF;simp only;split
 ·exact g.took.constant.took.aF.constant.two.two
 exact g.took.constant.took
theorem Gd.off(g:Gd m):Gd (offS s m).2:=by
 unfold offS;split
 ·exact g.took.took.took.took
 exact g.took.took
theorem Gd.memory(g:Gd m){st:Bool}:Gd (iJ s m b st):=by
 unfold iJ;simp only;split
 ·exact g.addr.off.aF.add (by show 2<=10;omega)
 exact g.addr.off.aH.add (by show 1<=10;omega)
theorem Gd.bin(g:Gd m){op:Int}:Gd (binS s m b op):=by
 unfold binS;simp only;split
 ·exact g.aF.aF.took.took.constant.two
 exact g.aF.aF.took.two
theorem Gd.div(g:Gd m):Gd (divS s m b):=by
 unfold divS;simp only;split
 ·exact g.aF.took.constant.took.took.constant.two
 exact g.aF.took.constant.took.two
theorem Gd.args {x:List Int × MS} (g:Gd x.2) : ∀n,Gd (up (gz s b) n x).2/\(up (gz s b) n x).1.length=x.1.length+n
 | 0=>⟨g,rfl⟩
 | n+1=>⟨(Gd.args g n).1.aF,by show((up (gz s b) n x).1++[_]).length=_;rw[LA,(Gd.args g n).2,LP];omega⟩
theorem Gd.call(g:Gd m):Gd (nL s m b):=by unfold nL;simp only;have ht:=cG (s:=s) (at_:=m.at_) (n:=5) P4;obtain⟨g2,l2⟩:=Gd.args (s:=s) (b:=b) (x:=([],m.took)) g.took (aE s m.at_ 5).toNat;refine g2.aH.took.add ?_;show(up (gz s b) (aE s m.at_ 5).toNat ([],m.took)).1.length<=10;rw[l2];simp;omega
theorem Gd.iX(g:Gd m):Gd (aN s b m):=by
 unfold aN;simp only;repeat' split
 ·exact g.took.bin
 ·unfold ltuS;exact g.took.aF.aF.two
 ·exact g.took.div
 ·exact g.took.memory
 ·exact g.took.call
 ·unfold wL;exact g.took.aF.aF.aH.aH.add (by show 2<=10;omega)
 exact g.took.took.took.constant
theorem Gd.gZ (g:Gd m) : ∀n,Gd (up (λ_=>aN s b) n m)
 | 0=>g
 | n+1=>(Gd.gZ g n).iX
theorem Gd.JO(g:Gd m){to:List Int}(ht:to.length<=1000):Gd (oK s to b m):=by
 have h:Gd (gM s to b m).2/\(gM s to b m).1.args.length<=10/\(gM s to b m).1.to.length<=1000:=by
  unfold gM;simp only;repeat' split
  ·exact⟨g.took.took,by show 0<=10;omega,by show 0<=1000;omega⟩
  ·exact⟨g.took.aF,by show 1<=10;omega,by show 0<=1000;omega⟩
  ·exact⟨g.took,by show 0<=10;omega,by show 0<=1000;omega⟩
  ·exact⟨g,by show 0<=10;omega,ht⟩
  ·exact⟨g.aF.took.aF.aH.took.add (by show 2<=10;omega),by show 1<=10;omega,ht⟩
  ·exact⟨g.aF.took,by show 1<=10;omega,ht⟩
  exact⟨g.aF.constant.two,by show 1<=10;omega,ht⟩
 obtain⟨h1,h2,h3⟩:=h;exact h1.fJ λhb=>⟨(h1 b hb).ins,h2,h3,(h1 b hb).phis⟩
theorem Gd.ld (g:Gd m) {l:List Int} (hl:l.length<=1000):Gd (m.ld b l):=g.fJ λhb=>⟨(g b hb).ins,(g b hb).args,hl,(g b hb).phis⟩
theorem Gd.ey (g:Gd m):Gd (Go.Proofs.YtnfiilgdjpdlkaaGreatDoor.ey b m):=by
 have:=g.aH.fJ (b:=b) (x:={ nth m.blocks b with phis:=(nth m.blocks b).phis++[⟨m.next,[]⟩] }) λhb=>⟨(g b hb).ins,(g b hb).args,(g b hb).to,λp hp=>by
  rcases Lt.1 hp with h | h
  ·exact(g b hb).phis p h
  rw[Lw]at h;rw[h];show 0<=1000;omega⟩;exact this
theorem Gd.oQ (g:Gd m) : ∀n,Gd (up (λ_=>Go.Proofs.YtnfiilgdjpdlkaaGreatDoor.ey b) n m)
 | 0=>g
 | n+1=>(Gd.oQ g n).ey
theorem Gd.qS (g:Gd m) {i:Nat} {l:List InD} (hl:l.length<=1000):Gd (m.qS b i l):=g.fJ λhb=>⟨(g b hb).ins,(g b hb).args,(g b hb).to,λp hp=>by
 rcases NM hp with h | h
 ·exact(g b hb).phis p h
 rw[h];exact hl⟩
theorem Gd.smF{a p i:Nat}(g:Gd m)(z:Sz n a p i m)(hn:n<=10000)(hp:p<=10000)(hi:i<=10000):SmF m.f:=by refine⟨by show m.blocks.length<=_;rw[z.len];exact hn,λj hj=>?_⟩;have hj:j<m.blocks.length:=hj;have h:=g j hj;have e:nth m.f.blocks j=nth m.blocks j:=rfl;rw[e];exact⟨LN (z.phis j) hp,LN (z.ins j) hi,by have:=h.args;omega,by have:=h.to;omega,λk hk=>by have:=h.phis _ (bJ hk);omega,λk hk=>by have:=h.ins _ (bJ hk);omega⟩
theorem vR {f:an} : ∀n,∀t∈thTo f n,t.mks.length<=1000
 | 0,t,h=>by cases h
 | n+1,t,h=>by
  rw[gg]at h;rcases Lt.1 h with h | h
  ·exact vR n t h
  unfold thB at h;simp only[Lt,Lw,rows,MJ,MY]at h;rcases h with(⟨i,_,rfl⟩ | ⟨i,_,rfl⟩) | rfl
  ·show 1<=1000;omega
  ·show(cw _).length<=1000;unfold cw;repeat' split
   all_goals simp
  show 0<=1000;omega
theorem Ae {n a p i:Nat} (z:Sz n a p i m) : ∀k,(thTo m.f k).length<=(p+i+1)*k
 | 0=>Lp _
 | k+1=>by have h1:=Ae z k;have h2:=z.phis k;have h3:=z.ins k;have e:nth m.f.blocks k=nth m.blocks k:=rfl;rw[gg,LA,OD];unfold thB;simp only[LA,mO,LP,e];omega
theorem qW{a p i:Nat}(z:Sz n a p i m)(hn:n<=10)(hp:p<=1000)(hi:i<=3000):(aG m.f).length<=60000:=by
 have h1:=Ae z n;have h2:(p+i+1)*n<=5000*10:=NI P2 hn;have e:aG m.f=thTo m.f n:=by unfold aG;rw[show m.f.blocks.length=n from z.len]
 rw[e];omega
theorem uI{a p i:Nat}(z:Sz n a p i m)(hn:n<=10)(hp:p<=1000)(hi:i<=3000):(gQ m.f b).length<=70000000:=by
 have h:=xe (l:=aG m.f) (f:=m.f) (b:=b) (c:=1000) (vR _) (out:=rows (λi=>(i:Int)) m.f.params.toNat);have h2:=qW z hn hp hi;have h3:m.f.params.toNat<=4:=by have:=z.ps1;show m.ps.toNat<=4;omega
 rw[mO]at h;have e:gQ m.f b=(aG m.f).foldl (dS m.f b) (rows (λi=>(i:Int)) m.f.params.toNat):=rfl;rw[e];omega
end
structure P3 (n a p i:Nat) (m:MS):Prop where
 z:Sz n a p i m
 g:Gd m
theorem P3.mono {n a p i a' p' i':Nat} {m:MS} (q:P3 n a p i m) (h1:a<=a') (h2:p<=p') (h3:i<=i'):P3 n a' p' i' m:=⟨q.z.mono h1 h2 h3,q.g⟩
theorem Sz.const{a p i:Nat}{m:MS}{k:Int}(z:Sz n a p i m):Sz n (a+3) p (i+1) (m.constant b k):=by have h1:Sz n (a+3) p (i+1) { m.aH with live:=m.live++cw (conD m.next k) }:=⟨by have:=z.at_;show m.at_<=_;omega,by have:=z.n0;show 0<=m.next+1;omega,by have:=z.next;show m.next+1<=_;omega,by have:=z.live;show(m.live++[m.next]).length<=_;rw[LA,LP];omega,z.ps0,z.ps1,z.len,z.phis,λj=>by have:=z.ins j;show(nth m.blocks j).ins.length<=_;omega⟩;exact h1.fJ (b:=b) (x:={ nth m.blocks b with ins:=(nth m.blocks b).ins++[conD m.next k] }) (z.phis b) (by have:=z.ins b;show((nth m.blocks b).ins++[_]).length<=_;rw[LA,LP];omega)
theorem Sz.qS {n a p i b j:Nat} {m:MS} {l:List InD} (z:Sz n a p i m):Sz n a p i (m.qS b j l):=
 z.fJ (by show((nth m.blocks b).phis.set j _).length<=_;rw[LU];exact z.phis b) (z.ins b)
def rowS (s:List Int) (b:Nat) (m:MS):List Int × MS:=if(gQ m.f b).length=0 then([m.next],m.took.took.constant b (jY s m)) else(gQ m.f b,m)
theorem ED{s:List Int}{m:MS}:0<(rowS s b m).1.length:=by
 unfold rowS;split
 ·show 0<1;omega
 show 0<(gQ m.f b).length;omega
theorem FI{s:List Int}{a p i:Nat}{m:MS}(z:Sz n a p i m)(hn:n<=10)(hp:p<=1000)(hi:i<=3000):(rowS s b m).1.length<=70000000:=by
 unfold rowS;split
 ·show 1<=70000000;omega
 exact uI z hn hp hi
theorem BY{s:List Int}{a p i:Nat}{m:MS}(q:P3 n a p i m):P3 n (a+5) p (i+1) (rowS s b m).2:=by
 unfold rowS;split
 ·exact⟨(q.z.took.took.const).mono P2 (Lp _) (Lp _),q.g.took.took.constant⟩
 exact q.mono P2 (Lp _) P2
theorem DI{s:List Int}{p:List Int}{k:Nat}{x:List InD × MS}(h:nth p k=b):dr s p k x=(x.1++[⟨b,nth (rowS s b x.2).1 (aE s (rowS s b x.2).2.at_ (rowS s b x.2).1.length).toNat⟩],(rowS s b x.2).2.took):=by unfold dr;rw[h];rfl
theorem jD {s:List Int} {n a p i:Nat} {pl:List Int} {x:List InD × MS} (q:P3 n a p i x.2) : ∀k,P3 n (a+6*k) p (i+k) (up (dr s pl) k x).2/\(up (dr s pl) k x).1.length=x.1.length+k
 | 0=>⟨q,rfl⟩
 | k+1=>by
  obtain⟨h1,h2⟩:=jD (pl:=pl) q k;have h3:=BY (s:=s) (b:=(nth pl k).toNat) h1;refine⟨?_,?_⟩
  ·have e:(up (dr s pl) (k+1) x).2=(rowS s (nth pl k).toNat (up (dr s pl) k x).2).2.took:=rfl;rw[e];exact⟨(h3.z.took).mono P2 (Lp _) P2,h3.g.took⟩
  have e:(up (dr s pl) (k+1) x).1=(up (dr s pl) k x).1++[⟨nth pl k,nth (rowS s (nth pl k).toNat (up (dr s pl) k x).2).1 (aE s (rowS s (nth pl k).toNat (up (dr s pl) k x).2).2.at_ (rowS s (nth pl k).toNat (up (dr s pl) k x).2).1.length).toNat⟩]:=rfl;rw[e,LA,h2,LP];omega
variable{pl:List Int}
theorem GW{s:List Int}{a p i j:Nat}{m:MS}(q:P3 n a p i m)(hp:pl.length<=9):P3 n (a+54) p (i+9) (phi3 s b pl j m):=by obtain⟨h1,h2⟩:=jD (s:=s) (pl:=pl) (x:=([],m)) q pl.length;exact⟨(h1.z.qS).mono P2 (Lp _) P2,h1.g.qS (by rw[h2];show 0+_<=_;omega)⟩
theorem nu {s:List Int} {n a p i b:Nat} {pl:List Int} {m:MS} (q:P3 n a p i m) (hp:pl.length<=9) : ∀k,P3 n (a+54*k) p (i+9*k) (up (phi3 s b pl) k m)
 | 0=>q
 | k+1=>(GW (nu q hp k) hp).mono P2 (Lp _) P2
theorem Iz{H:View}{a b:Int}(ha:I64 a)(hb:I64 b):Rd H (.agg #[Pp Pq a,Pp Pq b]) (InD.mk a b):=⟨_,rfl,[Pp Pq a],[Pp Pq b],rfl,⟨rfl,ha⟩,rfl,hb⟩
section
variable {s:List Int} {M:Nat} {vs:Value} {W0:View} {h:Heap} {o0:Own} {m:MS}
theorem Nx.Hu(x:Nx s M vs W0 h o0 m){h':Heap}{k:Key}{u:Value}{l:List Int}(h3:3<=k.1)(hk:o0 k=Pu)(hle:(vw h).le (vw h'))(hb : ∀b,u.ownBlock=Pt b->h.size<=b)(ho:OwnT nothing h' T.int u l):Nx s M vs W0 h' (o0.upd k (it T.int u l)) m:=by
 obtain⟨W,o,g,w,f⟩:=x;have w2:=w.own.add (k:=k) ((f k h3).trans hk) (zL (W':=W) ho) hle hb;obtain⟨vb,vl,lb,bb⟩:=w.box;refine⟨W,_,g,⟨w2,w.src,vb,vl,lb,bb.frame λq hq=>Own.ay (by rintro rfl;omega)⟩,λq hq=>?_⟩;unfold Own.upd;split
 ·rfl
 exact f q hq
theorem Nx.freeze {α:Type} [r:Rep α] {k:Key} {e:TypeId} {v:Value} {l:List α} (x:Nx s M vs W0 h (o0.upd k (it e v l)) m) (h3:3<=k.1) (hk:o0 k=Pu) : ∃W',W0.le W'/\Nx s M vs W' h o0 m/\SlRd W' v l:=by
 obtain⟨W,o,g,w,f⟩:=x;have hk2:=(f k h3).trans Own.aj;obtain⟨w2,sl⟩:=w.own.freeze hk2;have hWp:=gq (h:=h) (w.own.av _ _ hk2);obtain⟨vb,vl,lb,bb⟩:=w.box;refine⟨_,Pn g hWp,⟨_,_,View.le_refl _,⟨w2,w.src.mono hWp,vb,vl,lb,bb.frame λq hq=>Own.ay (by rintro rfl;omega)⟩,λq hq=>?_⟩,sl⟩;by_cases e2:q=k
 ·rw[e2,Own.aj,hk]
 rw[Own.ay e2,f q hq,Own.ay e2]
theorem Nx.fM {po po2:OP} {α:Type} [r:Rep α] {k:Key} {e t ty ty2:TypeId} {bytes:Nat} {z:Value} {v:Value} {l:List α} (x:Nx s M vs W0 h o0 m) (h3:3<=k.1) (hk:o0 k=it e v l) {a y y2:Operand} {us:List (Nat × Value)} {us2:Value->List (Nat × Value)} {u:Value} {d:α} {K:Value->Value->Heap->Prop} (hT:dR Pz t e (Rep.n α) bytes z) (hx:asg us a=u) (hr : ∀W,Rd W u d)
  (hb:(l.length+1)*bytes<=140737488355328) (hb2:l.length+1<=140737488355328) (hy : ∀u,asg (us2 u) y=v) (hy2 : ∀u,asg (us2 u) y2=u)
  (hK : ∀u v' h',Nx s M vs W0 h' (o0.upd k (it e v' (l++[d]))) m->K u v' h') :
  @Lft.step po Pz (.buildSlice t 1 #[(0,a)]) ty us h λu h2=>@Lft.step po2 Pz (.call ⟨.builtin .append,#[y,y2],#[t,t]⟩) ty2 (us2 u) h2 λv' h3=>K u v' h3:=by
 obtain⟨W,o,g,w,f⟩:=x;refine w.own.fM (k:=k) (d:=d) ((f k h3).trans hk) hT hx (hr W) hb hb2 hy hy2 λu v' h' w2 _=>hK u v' h' ?_;obtain⟨vb,vl,lb,bb⟩:=w.box;refine⟨W,_,g,⟨w2,w.src,vb,vl,lb,bb.frame λq hq=>Own.ay (by rintro rfl;omega)⟩,λq hq=>?_⟩;unfold Own.upd;split
 ·rfl
 exact f q hq
variable{vd:Value}
theorem Ei{a p i j:Nat}{vq vi:Value}(x:Nx s M vs W0 h (o0.upd (7,2) (it T.sA vi ([]:List InD))) m)(f71:o0 (7,1)=Pu)(q:P3 n a p i m)(hn:n<=10)(ha:a<=500000)(hia:i<=a)(hp:p<=100)(hi:i<=2000)(hq:SlRd W0 vq pl)(hpl:pl.length<=9)(hpr : ∀k,k<pl.length->∃c:Nat,nth pl k=c/\c<n)(h0:bL [2,3,4,5,7,11,25,26,27,28,29] ρ=[(2,vr),(3,Pw (Pt ⟨M,0,Pu⟩)),(4,Pp Pq n),(5,vt),(7,vp),(11,vd),(25,Pp Pq b),(26,vq),(27,Pp Pq j),(28,vi),(29,Pp Pq 0)])(hQ : ∀(h':Heap) vi,Nx s M vs W0 h' (o0.upd (7,2) (it T.sA vi (up (dr s pl) pl.length ([],m)).1)) (up (dr s pl) pl.length ([],m)).2->Q .normal [(2,vr),(3,Pw (Pt ⟨M,0,Pu⟩)),(4,Pp Pq n),(5,vt),(7,vp),(11,vd),(25,Pp Pq b),(26,vq),(27,Pp Pq j),(28,vi),(29,Pp Pq pl.length)] h'):
  LC.wp Pz (.block 28 (.loop L.ao.l15)) Q ρ h:=by
 simp only[aI];refine cS [2,3,4,5,7,11,25,26,27,28,29] (fun(vi:Value) k=>[vr,Pw (Pt ⟨M,0,Pu⟩),Pp Pq n,vt,vp,vd,Pp Pq b,vq,Pp Pq j,vi,Pp Pq k]) (λvi k h2=>Nx s M vs W0 h2 (o0.upd (7,2) (it T.sA vi (up (dr s pl) k ([],m)).1)) (up (dr s pl) k ([],m)).2) pl.length vi
  rfl P2 h0 x (λ_ _=>rfl) (λv k h2 hk2 x2=>by simp[hq.len]) ?_ ?_
 ·rintro vi k h2 hlt x2 K2 hK2;obtain⟨q2,hl2⟩:=jD (s:=s) (pl:=pl) (x:=([],m)) q k;obtain⟨c,hc,hcn⟩:=hpr k hlt;have e2:up (dr s pl) (k+1) ([],m)=dr s pl k (up (dr s pl) k ([],m)):=rfl;rw[e2,DI hc]at hK2;have hl2:(up (dr s pl) k ([],m)).1.length<=9:=by rw[hl2];simp;omega
  generalize up (dr s pl) k ([],m)=y at x2 hK2 q2 hl2;obtain⟨il,m2⟩:=y;have q2:P3 n (a+54) p (i+9) m2:=P3.mono q2 P2 (Lp _) P2;have hl2:il.length<=9:=hl2;have x2:Nx s M vs W0 h2 (o0.upd (7,2) (it T.sA vi il)) m2:=x2;simp only at hK2;have hcell : ∀{h':Heap},W0.le (vw h')->ak (vw h') ((slA vq).add k)=Pt (Pp Pq c):=λg=>by rw[hq.int g hlt,hc]
  have hcell0:ak W0 ((slA vq).add k)=Pt (Pp Pq c):=by rw[hq.int Pl hlt,hc]
  have hrow:rowS s c m2=_:=rowS.eq_1 s c m2;have hq3:=BY (s:=s) (b:=c) q2;have hpos:=ED (s:=s) (b:=c) (m:=m2);have hrl0:=FI (s:=s) (b:=c) q2.z hn P2 P2;simp only[aI];refine ab λy hy=>?_;obtain⟨vb,vl,rd⟩:=x2.z.reads;refine aR (vw h2) Pl ?_;simp(disch:=omega)[rd.f,(hq.mono x2.z.le).idx1 rfl,hcell x2.z.le];have hth:(aG m2.f).length<=60000:=qW q2.z hn P2 P2;refine af P1 (AA (b:=c) (rd.rd (FJ q2.z)) (q2.g.smF q2.z P2 P2 P2) ⟨q2.z.ps0,by have:=q2.z.ps1;show m2.ps<=_;omega⟩ (by show c<m2.blocks.length;rw[q2.z.len];exact hcn) (vR _) P2) ?_;rintro u3 h3 ⟨hle3,hb3,ho3⟩;have x3:=x2.Hu (k:=(7,1)) P4 ((Own.ay Sa).trans f71) hle3 hb3 ho3;clear rd x2 ho3 hb3;generalize gQ m2.f c=sl at x3 hrow;subst hy;refine ab λy hy=>?_;have fin : ∀(v30:Value) (h':Heap) (ρ:Env),Nx s M vs W0 h' ((o0.upd (7,2) (it T.sA vi il)).upd (7,1) (it T.int v30 (rowS s c m2).1)) (rowS s c m2).2->Lft.look ρ 2=Pt vr->Lft.look ρ 3=Pt (Pw (Pt ⟨M,0,Pu⟩))->Lft.look ρ 4=Pt (Pp Pq n)->Lft.look ρ 5=Pt vt->Lft.look ρ 7=Pt vp->Lft.look ρ 11=Pt vd->Lft.look ρ 25=Pt (Pp Pq b)->Lft.look ρ 26=Pt vq->Lft.look ρ 27=Pt (Pp Pq j)->Lft.look ρ 28=Pt vi->Lft.look ρ 29=Pt (Pp Pq k)->Lft.look ρ 30=Pt v30->
    LC.wp Pz y (eE 29 (fg K2 (eE 28 Q))) ρ h':=by
   intro v30 h' ρ x4 r2 r3 r4 r5 r7 r11 r25 r26 r27 r28 r29 r30;subst hy;generalize rowS s c m2=r at x4 hK2 hq3 hpos hrl0;obtain⟨W4,hW4,x4,s4⟩:=x4.freeze P4 ((Own.ay Sa).trans f71);have hrl:=s4.bound;refine aR W4 x4.z.le ?_;simp(disch:=omega)[ag,ah,r2,r3,r4,r5,r7,r11,r25,r26,r27,r28,r29,r30,(hq.mono hW4).idx1 rfl,ae hW4 hcell0,s4.len];refine af P1 (ef x4.z (hq3.z.ok P2) P2 (k:=(r.1.length:Int)) P2 P2) ?_;rintro _ h5 ⟨rfl,n5⟩;refine⟨n5.le,?_⟩;obtain⟨t0,t1⟩:=cG (s:=s) (at_:=r.2.at_) (n:=(r.1.length:Int)) P2;generalize aE s r.2.at_ (r.1.length:Int)=tv at t0 t1 hK2;have hrng:=s4.range (i:=tv.toNat) P2;simp(disch:=omega)[ag,ah,r2,r3,r4,r5,r7,r11,r25,r26,r27,r28,r29,r30,s4.idx1 rfl,s4.int Pl];refine aw (z:=.agg #[Pp Pq 0,Pp Pq 0]) (places:=[(0,1),(1,1)]) (vs:=[(0,Pp Pq c),(1,Pp Pq (nth r.1 tv.toNat))]) (cs:=#[Pp Pq c,Pp Pq (nth r.1 tv.toNat)]) P1 P1 Sa P1 ?_;refine n5.x.fM (k:=(7,2)) (α:=InD) (d:=⟨c,nth r.1 tv.toNat⟩) P4 Own.aj El.qU rfl (λW=>Iz P6 hrng) P2 P2 (λ_=>rfl) (λ_=>rfl) λu v' h6 x6=>?_;refine hK2 v' _ _ ?_ ?_ ((x6.re λq=>by rw[eg]).up hW4)
   ·simp[ag,ah,r29]
   simp[bL,ag,ah,r2,r3,r4,r5,r7,r11,r25,r26,r27,r28,r29]
  have hsl:=(x3.z.at (k:=(7,1)) P4 Own.aj).len (K:=vw h3);have hlen3 : ∀{Q:View},Un.ev Q .len u3=Pt (Pp Pq sl.length):=fun{Q}=>(x3.z.at (k:=(7,1)) P4 Own.aj).len;refine ab λw hw=>?_;simp[hlen3];subst hw;by_cases c0:sl.length=0
  ·have c0':sl=[]:=LF c0;rw[if_pos c0]at hrow;refine aT (by simp[c0,c0']) ?_;refine aR W0 x3.z.le ?_;simp(disch:=omega)[hq.idx1 rfl,hcell0];refine af P1 (yr x3.z (q2.z.ok P2) P2) ?_;rintro _ h4 ⟨rfl,n4⟩;refine⟨n4.le,?_⟩;refine af P1 (fE n4 (b:=c) (by show c<m2.blocks.length;rw[q2.z.len];exact hcn) (q2.z.took.took.ok P2) P2 oX) ?_;rintro _ h5 ⟨rfl,n5⟩;have i64:I64 m2.next:=by have:=q2.z.n0;have:=q2.z.next;constructor<;>omega
   subst c0';refine n5.x.fM (k:=(7,1)) (α:=Int) (d:=m2.next) P4 Own.aj El.aP rfl (λW=>bD.2 ⟨rfl,i64⟩) Sa Sa (λ_=>rfl) (λ_=>rfl) λu v' h6 x6=>?_;refine fin v' h6 _ ?_ ?_ ?_ ?_ ?_ ?_ ?_ ?_ ?_ ?_ ?_ ?_ ?_
   ·rw[hrow];exact x6.re λq=>by rw[eg];rfl
   all_goals simp
  rw[if_neg c0]at hrow;have c0':¬sl=[]:=λe=>c0 (by rw[e];rfl);refine aU (by simp[c0']) ?_;simp;refine fin u3 h3 _ ?_ ?_ ?_ ?_ ?_ ?_ ?_ ?_ ?_ ?_ ?_ ?_ ?_
  ·rw[hrow];exact x3
  all_goals simp
 rintro vi h2 x2;exact hQ h2 vi x2
end
def Pc (lp:List Int) (m:MS):Prop:=∀j,((nth m.blocks j).phis.length:Int)=nth lp j
variable{lp:List Int}
theorem Pc.grw{m m':MS}{k:Nat}(p:Pc lp m)(g:Grw b k m m'):Pc lp m':=λj=>by
 by_cases e:j=b
 ·subst e;rw[g.phis];exact p j
 rw[g.els j e];exact p j
theorem Pc.fJ{m:MS}{x:BlkD}(p:Pc lp m)(hx:x.phis.length=(nth m.blocks b).phis.length):Pc lp { m with blocks:=m.blocks.set b x }:=λj=>by
 show((nth (m.blocks.set b x) j).phis.length:Int)=_;rcases Lr j m.blocks.length with hl | hl
 ·rw[bz hl];split
  ·rename_i e;subst e;rw[hx];exact p b
  exact p j
 rw[cI (by simpa using hl)];have:=p j;rwa [cI hl]at this
theorem Pc.iI {s:List Int} {to:List (List Int)} {n b:Nat} {dn:BL} {away:List BL} {lp:List Int} {m:MS} (p:Pc lp m) (hb:b<m.blocks.length):Pc lp (iI s to n dn away b m):=by have p1:Pc lp (MS.took { m with live:=me m dn away b n }):=p;have hb1:b<(MS.took { m with live:=me m dn away b n }).blocks.length:=hb;have g:=((Grw.refl (b:=b) (m:=MS.took { m with live:=me m dn away b n })).gZ (s:=s) hb1 (aE s m.at_ 7).toNat).HM (s:=s) (to:=nth to b) hb1;exact(p1.grw g).fJ rfl
theorem Pc.cm {s:List Int} {to:List (List Int)} {n b:Nat} {lp:List Int} {x:BL × MS} (p:Pc lp x.2) (hb:b<x.2.blocks.length):Pc lp (cm s to n b x).2:=by
 unfold Go.Proofs.YtnfiilgdjpdlkaaGreatDoor.cm;split
 ·exact p.iI hb
 exact p
theorem Pc.rowS {s:List Int} {b:Nat} {lp:List Int} {m:MS} (p:Pc lp m) (hb:b<m.blocks.length):Pc lp (rowS s b m).2:=by
 unfold Go.Proofs.YtnfiilgdjpdlkaaGreatDoor.rowS;split
 ·have p1:Pc lp m.took.took:=p;exact p1.grw ((Grw.refl (b:=b) (m:=m.took.took)).constant hb)
 exact p
theorem CJ{s:List Int}{m:MS}:(rowS s b m).2.blocks.length=m.blocks.length:=by
 unfold rowS;split
 ·exact dp
 rfl
theorem Pc.jD {s:List Int} {pl:List Int} {lp:List Int} {x:List InD × MS} (p:Pc lp x.2) (hb : ∀k,k<pl.length->(nth pl k).toNat<x.2.blocks.length) : ∀k,k<=pl.length->Pc lp (up (dr s pl) k x).2/\(up (dr s pl) k x).2.blocks.length=x.2.blocks.length
 | 0,_=>⟨p,rfl⟩
 | k+1,h=>by obtain⟨h1,h2⟩:=Pc.jD (s:=s) p hb k P2;have e:(up (dr s pl) (k+1) x).2=(Go.Proofs.YtnfiilgdjpdlkaaGreatDoor.rowS s (nth pl k).toNat (up (dr s pl) k x).2).2.took:=rfl;rw[e];exact⟨h1.rowS (by rw[h2];exact hb k P2),(mA).trans (CJ.trans h2)⟩
theorem Pc.phi3 {s:List Int} {b j:Nat} {pl:List Int} {lp:List Int} {m:MS} (p:Pc lp m) (hb : ∀k,k<pl.length->(nth pl k).toNat<m.blocks.length):Pc lp (phi3 s b pl j m)/\(phi3 s b pl j m).blocks.length=m.blocks.length:=by obtain⟨h1,h2⟩:=Pc.jD (s:=s) (pl:=pl) (x:=([],m)) p hb pl.length (Lp _);exact⟨h1.fJ Sa,by show(List.set _ _ _).length=_;rw[LU];exact h2⟩
theorem Pc.nu {s:List Int} {b:Nat} {pl:List Int} {lp:List Int} {m:MS} (p:Pc lp m) (hb : ∀k,k<pl.length->(nth pl k).toNat<m.blocks.length) : ∀k,Pc lp (up (Go.Proofs.YtnfiilgdjpdlkaaGreatDoor.phi3 s b pl) k m)/\(up (Go.Proofs.YtnfiilgdjpdlkaaGreatDoor.phi3 s b pl) k m).blocks.length=m.blocks.length
 | 0=>⟨p,rfl⟩
 | k+1=>by obtain⟨h1,h2⟩:=Pc.nu (s:=s) (b:=b) p hb k;obtain⟨h3,h4⟩:=Pc.phi3 (s:=s) (b:=b) (j:=k) h1 (λk hk=>by rw[h2];exact hb k hk);exact⟨h3,h4.trans h2⟩
theorem vO {p:Nat->Bool} : ∀(n:Nat) (v:Int),v∈sift p (λa=>(a:Int)) n->∃c:Nat,v=c/\c<n
 | 0,v,h=>by cases h
 | n+1,v,h=>by
  cases hp:p n with
  | true=>
   rw[mP hp]at h;rcases Lt.1 h with h | h
   ·obtain⟨c,h1,h2⟩:=vO n v h;exact⟨c,h1,by omega⟩
   rw[Lw]at h;exact⟨n,h,by omega⟩
  | false=>rw[lE hp]at h;obtain⟨c,h1,h2⟩:=vO n v h;exact⟨c,h1,by omega⟩
theorem Ax{p:Nat->Bool}(n k:Nat)(hk:k<(sift p (λa=>(a:Int)) n).length): ∃c:Nat,nth (sift p (λa=>(a:Int)) n) k=c/\c<n:=vO n _ (bJ hk)
section
variable {s:List Int} {M:Nat} {vs:Value} {W0:View} {h:Heap} {o0:Own} {m:MS}
theorem Nx.Kq[r:Rep α](x:Nx s M vs W0 h o0 m){h':Heap}{u:Value}{l:List α}(hle:(vw h).le (vw h'))(hs:SlRd (fresh h h') u l): ∃W',W0.le W'/\Nx s M vs W' h' o0 m/\SlRd W' u l:=by obtain⟨W,o,g,w,f⟩:=x;have hW:=bU (h':=h') w.own.wle;exact⟨_,Pn g hW,⟨_,o,View.le_refl _,⟨w.own.ext hle,w.src.mono hW,w.box⟩,f⟩,hs.mono (iN W h h')⟩
variable{vb vl:Value}
theorem Mk.J2{o:Own}(w:Mk s M vs W h o m){lb:List BlkM}(bb:MkB M vs m o vb vl lb){i:Nat}{l:List InD}{v:Value}{x y:Operand}{K:Value->Heap->Prop}(hb:b<m.blocks.length)(hi:i<(nth m.blocks b).phis.length)(hsz:cK Pz ty2=Pt 1)(hx:asg us x = Pw (Pt (((slA (nth lb b).phis.v).add (i*2)).add 1)))(hy:asg us y=v)(hr:SlRd W v l)(hK : ∀h' o',Mk s M vs W h' o' (m.qS b i l)->(∀k:Key,3<=k.1->o' k=o k)->K undef h'):@Lft.step po Pz (.store ty2 x y) ty us h K:=by
 have hbl:b<lb.length:=by rw[bb.len];exact hb
 refine w.own.px (k:=(1,b)) (α:=PhiD) PhiD.mN (v:=(nth lb b).phis.v) (l:=(nth m.blocks b).phis) (i:=i) (d:=l) (bb.phis b hb) hsz hx hy hi (dJ.2 hr) λh7 w7 _=>?_;have hs:lb.set b (nth lb b)=lb:=by rw[aA hbl];exact List.set_getElem_self hbl
 have b7:=bb.fJ hb (x':={ nth m.blocks b with phis:=(nth m.blocks b).phis.set i { nth (nth m.blocks b).phis i with ins:=l } }) (y':=nth lb b) (o':=o.upd (1,b) (it T.nm (nth lb b).phis.v ((nth m.blocks b).phis.set i { (nth m.blocks b).phis[i]with ins:=l }))) (bb.term b hb) (by rw[hs,Own.ay Sa];exact bb.blk) (by rw[Own.aj,aA hi]) (by rw[Own.ay Sa];exact bb.ins b hb) (λq h1 h2 h3=>Own.ay h2);rw[hs]at b7;exact hK h7 _ ⟨w7,w.src,vb,vl,lb,b7⟩ λk hk=>Own.ay (by rintro rfl;simp at hk)
end
section
variable {s:List Int} {M:Nat} {vs:Value} {W0:View} {h:Heap} {o0:Own} {m:MS}
variable{vd:Value}
theorem EE{a p i cnt:Nat}{vq:Value}(x:Nx s M vs W0 h o0 m)(h5:o0 (5,0)=it T.int vp lp)(f71:o0 (7,1)=Pu)(f72:o0 (7,2)=Pu)(q:P3 n a p i m)(pc:Pc lp m)(hlp:lp.length=n)(hb:b<n)(hcnt:nth lp b=cnt)(hc3:cnt<=3)(hn:n<=10)(ha:a<=400000)(hia:i<=a)(hp:p<=100)(hi:i<=1900)(hq:SlRd W0 vq pl)(hpl:pl.length<=9)(hpr : ∀k,k<pl.length->∃c:Nat,nth pl k=c/\c<n)(h0:bL [2,3,4,5,7,11,25,26,27] ρ=[(2,vr),(3,Pw (Pt ⟨M,0,Pu⟩)),(4,Pp Pq n),(5,vt),(7,vp),(11,vd),(25,Pp Pq b),(26,vq),(27,Pp Pq 0)])(hQ : ∀h':Heap,Nx s M vs W0 h' o0 (up (phi3 s b pl) cnt m)->Q .normal [(2,vr),(3,Pw (Pt ⟨M,0,Pu⟩)),(4,Pp Pq n),(5,vt),(7,vp),(11,vd),(25,Pp Pq b),(26,vq),(27,Pp Pq cnt)] h'):
  LC.wp Pz (.block 26 (.loop L.ao.l14)) Q ρ h:=by
 simp only[aI];refine cS [2,3,4,5,7,11,25,26,27] (fun(_:Unit) k=>[vr,Pw (Pt ⟨M,0,Pu⟩),Pp Pq n,vt,vp,vd,Pp Pq b,vq,Pp Pq k]) (λ_ k h2=>Nx s M vs W0 h2 o0 (up (phi3 s b pl) k m)) cnt ()
  rfl P2 h0 x (λ_ _=>rfl) (λv k h2 hk2 x2=>by have sp:=x2.z.at P4 h5;have e:=sp.int Pl (i:=b) P2;rw[hcnt]at e;simp(disch:=omega)[sp.idx1 rfl,e]) ?_ ?_
 ·rintro _ k h2 hlt x2 K2 hK2;have hpn : ∀j,j<pl.length->(nth pl j).toNat<m.blocks.length:=λj hj=>by obtain⟨c,h1,h2⟩:=hpr j hj;rw[h1,q.z.len];simpa using h2
  have q2:=(nu (s:=s) (b:=b) q hpl k).mono (a':=a+200) (p':=p) (i':=i+30) P2 (Lp _) P2;obtain⟨pc2,hlen2⟩:=Pc.nu (s:=s) (b:=b) pc hpn k;have e2:up (phi3 s b pl) (k+1) m=phi3 s b pl k (up (phi3 s b pl) k m):=rfl;rw[e2]at hK2;generalize up (phi3 s b pl) k m=m2 at x2 hK2 q2 pc2 hlen2;have hpn2 : ∀j,j<pl.length->(nth pl j).toNat<m2.blocks.length:=λj hj=>by rw[hlen2];exact hpn j hj
  obtain⟨pc3,hlen3⟩:=Pc.jD (s:=s) (pl:=pl) (x:=([],m2)) pc2 hpn2 pl.length (Lp _);simp only[aI];refine ab λy hy=>?_;simp;refine x2.iz (k:=(7,2)) (α:=InD) P4 f72 El.qU λvi h3 hvi x3=>?_;subst hy;refine ab λy hy=>?_;refine ab λw hw=>?_;simp;subst hw;refine Ei (vr:=vr) (vt:=vt) (vp:=vp) (vd:=vd) (vq:=vq) (vi:=vi) (b:=b) (j:=k) x3 f71 q2 hn P2 P2 hp P2 hq hpl hpr (by simp[bL,ag,ah]) λh4 vi x4=>?_;obtain⟨W4,hW4,x4,s4⟩:=x4.freeze P4 f72;have e3:phi3 s b pl k m2=(up (dr s pl) pl.length ([],m2)).2.qS b k (up (dr s pl) pl.length ([],m2)).1:=rfl;rw[e3]at hK2;have hb4:b<(up (dr s pl) pl.length ([],m2)).2.blocks.length:=by rw[hlen3];show b<m2.blocks.length;rw[hlen2,q.z.len];exact hb
  have hph:((nth (up (dr s pl) pl.length ([],m2)).2.blocks b).phis.length:Int)=cnt:=(pc3 b).trans hcnt;generalize up (dr s pl) pl.length ([],m2)=r at x4 hK2 s4 hb4 hph;obtain⟨W,o,g,w,f⟩:=x4;obtain⟨vb,vl,lb,bb⟩:=w.box;have rd:=w.reads bb;have hbb:b<lb.length:=by rw[bb.len];exact hb4
  have sb:=w.own.now bb.blk;have sbb:=sb.bound;have c1:ak (vw h4) (((slA vb).add (b*6)).add 0)=Pt (nth lb b).phis.v:=by have:=((sb.at hbb).part BlkM.rF).raw;rw[aA hbb];exact this
  have sph:=w.own.now (bb.phis b hb4);simp;subst hy;have r5:Bn.ev (.idx 2) (nth lb b).phis.v (Pp Pq k)=Pt (Pw (Pt ((slA (nth lb b).phis.v).add (k*2)))):=by have:=sph.idxn (N:=2) rfl (k:=.i64) (i:=k) P2 P2;simpa using this
  simp(disch:=omega)[rd.cb,sb.idxn (N:=6) rfl,c1,r5];refine w.J2 bb (b:=b) (i:=k) (l:=r.1) hb4 P2 P1 rfl rfl (s4.mono g) λh5 o5 w5 f5=>?_;refine hK2 () _ _ rfl rfl ?_;exact⟨W,o5,Pn hW4 g,w5,λq hq=>(f5 q hq).trans (f q hq)⟩
 rintro _ h2 x2;exact hQ h2 x2
theorem Hc{a p i k:Nat}{m:MS}(q:P3 n a p i m)(pc:Pc lp m)(hr : ∀j,nth lp j<=3)(hn:n<=9):P3 n (a+162) p (i+27) (blk3 s lp k m)/\Pc lp (blk3 s lp k m):=by
 have hpl:(cC m.f ((k+1:Nat):Int)).length<=n:=by have:=n8 (p:=λa=>decide (((k+1:Nat):Int)∈(nth m.f.blocks a).term.to)) (x:=λa=>(a:Int)) m.f.blocks.length;rw[show m.f.blocks.length=n from q.z.len]at this;unfold cC;rw[show m.f.blocks.length=n from q.z.len];exact this
 have hpn : ∀j,j<(cC m.f ((k+1:Nat):Int)).length->(nth (cC m.f ((k+1:Nat):Int)) j).toNat<m.blocks.length:=λj hj=>by obtain⟨c,h1,h2⟩:=Ax _ j hj;have h1:nth (cC m.f ((k+1:Nat):Int)) j=c:=h1;rw[h1];have h2:c<m.blocks.length:=h2;simpa using h2
 have h3:=hr (k+1);unfold blk3;exact⟨(nu q P2 _).mono P2 (Lp _) P2,(Pc.nu pc hpn _).1⟩
theorem yg {n a p i:Nat} {lp:List Int} {m:MS} (q:P3 n a p i m) (pc:Pc lp m) (hr : ∀j,nth lp j<=3) (hn:n<=9) : ∀k,P3 n (a+162*k) p (i+27*k) (up (blk3 s lp) k m)/\Pc lp (up (blk3 s lp) k m)
 | 0=>⟨q,pc⟩
 | k+1=>by obtain⟨h1,h2⟩:=yg q pc hr hn k;obtain⟨h3,h4⟩:=Hc (s:=s) (k:=k) h1 h2 hr hn;exact⟨h3.mono P2 (Lp _) P2,h4⟩
theorem Fc{a p i:Nat}(x:Nx s M vs W0 h o0 m)(h5:o0 (5,0)=it T.int vp lp)(f71:o0 (7,1)=Pu)(f72:o0 (7,2)=Pu)(q:P3 n a p i m)(pc:Pc lp m)(hlp:lp.length=n)(hr : ∀j,0<=nth lp j/\nth lp j<=3)(hn1:1<=n)(hn:n<=9)(ha:a<=300000)(hia:i<=a)(hp:p<=100)(hi:i<=1000)(h0:bL [2,3,4,5,7,11,25] ρ=[(2,vr),(3,Pw (Pt ⟨M,0,Pu⟩)),(4,Pp Pq n),(5,vt),(7,vp),(11,vd),(25,Pp Pq 1)])(hQ : ∀h':Heap,Nx s M vs W0 h' o0 (up (blk3 s lp) (n-1) m)->Q .normal [(2,vr),(3,Pw (Pt ⟨M,0,Pu⟩)),(4,Pp Pq n),(5,vt),(7,vp),(11,vd),(25,Pp Pq n)] h'):
  LC.wp Pz (.block 24 (.loop L.ao.l13)) Q ρ h:=by
 simp only[aI];refine wj [2,3,4,5,7,11,25] (fun(_:Unit) k=>[vr,Pw (Pt ⟨M,0,Pu⟩),Pp Pq n,vt,vp,vd,Pp Pq ((k+1:Nat):Int)]) (λ_ k h2=>Nx s M vs W0 h2 o0 (up (blk3 s lp) k m)) (n-1) 1 ()
  rfl P2 h0 x (λ_ _=>rfl) (λv k h2 hk2 m=>by simp;omega) ?_ ?_
 ·rintro _ k h2 hlt x2 K2 hK2;obtain⟨q2,pc2⟩:=yg (s:=s) q pc (λj=>(hr j).2) hn k;have e2:up (blk3 s lp) (k+1) m=blk3 s lp k (up (blk3 s lp) k m):=rfl;rw[e2]at hK2;generalize up (blk3 s lp) k m=m2 at x2 hK2 q2 pc2;have hb2:blk3 s lp k m2=_:=blk3.eq_1 s lp k m2;rw[hb2]at hK2;simp only[aI];refine ab λy hy=>?_;obtain⟨vb,vl,rd⟩:=x2.z.reads;simp[rd.f];refine af P1 (tu (b:=((k+1:Nat):Int)) (rd.rd (FJ q2.z)) (by show m2.blocks.length<=_;rw[q2.z.len];omega)) ?_;rintro vq h3 ⟨hle3,hq⟩;obtain⟨W3,hW3,x3,sq⟩:=x2.Kq hle3 hq;clear rd hq;have hpl:(cC m2.f ((k+1:Nat):Int)).length<=n:=by have:=n8 (p:=λa=>decide (((k+1:Nat):Int)∈(nth m2.f.blocks a).term.to)) (x:=λa=>(a:Int)) m2.f.blocks.length;unfold cC;rw[show m2.f.blocks.length=n from q2.z.len]at this ⊢;exact this
  have hpr : ∀j,j<(cC m2.f ((k+1:Nat):Int)).length->∃c:Nat,nth (cC m2.f ((k+1:Nat):Int)) j=c/\c<n:=λj hj=>by obtain⟨c,h1,h2⟩:=Ax _ j hj;exact⟨c,h1,by rw[show m2.f.blocks.length=n from q2.z.len]at h2;exact h2⟩
  generalize cC m2.f ((k+1:Nat):Int)=pl at sq hpl hpr hK2;obtain⟨r0,r1⟩:=hr (k+1);subst hy;refine ab λy hy=>?_;simp;subst hy;refine EE (vr:=vr) (vt:=vt) (vp:=vp) (vd:=vd) (vq:=vq) (b:=k+1) (cnt:=(nth lp (k+1)).toNat) x3 h5 f71 f72 q2 pc2 hlp P2 P2 P2 P2 P2 P2 hp P2 sq P2 hpr (by simp[bL,ag,ah]) λh4 x4=>?_;simp;refine hK2 () _ _ rfl rfl (x4.up hW3)
 rintro _ h2 x2;have e:n-1+1=n:=by omega
 have:=hQ h2 x2;simpa[e]using this
theorem AJ{a p:Nat}{x0:BL × MS}(q:B2 n a p x0)(hn:n<=10)(hp:p<=100)(ha:16000<=a): ∀j,j<=n->B2 n (a+600*j) p (up (cm s to n) j x0):=by
 intro j;induction j with
 | zero=>intro _;exact q
 | succ j ih=>intro hj;have:=qh (s:=s) (to:=to) (b:=j) (ih P2) P2 hn hp P2 λh=>oL h;exact⟨this.z.mono P2 (Lp _) (Lp _),this.len,this.none⟩
theorem Hh{a p:Nat}{x0:BL × MS}(q:B2 n a p x0)(hn:n<=10)(hp:p<=100)(ha:16000<=a)(j:Nat):B2 n (a+600*n*j) p (up (λ_=>up (cm s to n) n) j x0):=by
 induction j with
 | zero=>exact q
 | succ j ih=>have:=AJ (s:=s) (to:=to) ih hn hp P2 n (Lp _);exact⟨this.z.mono (by rw[OD];omega) (Lp _) (Lp _),this.len,this.none⟩
theorem G5{a p:Nat}{x0:BL × MS}(x:Nx s M vs W0 h (o0.upd (6,0) (it T.bool vd x0.1)) x0.2)(hto:SlRd W0 vt to)(htl:to.length=n)(f7:o0 (7,0)=Pu)(f90:o0 (9,0)=Pu)(f91:o0 (9,1)=Pu)(q:B2 n a p x0)(hn:n<=9)(hp:p<=100)(ha:16000<=a)(ha2:a<=30000)(h0:bL [2,3,4,5,7,11,12] ρ=[(2,vr),(3,Pw (Pt ⟨M,0,Pu⟩)),(4,Pp Pq n),(5,vt),(7,vp),(11,vd),(12,Pp Pq 0)])(hQ : ∀h':Heap,Nx s M vs W0 h' (o0.upd (6,0) (it T.bool vd (up (λ_=>up (cm s to n) n) n x0).1)) (up (λ_=>up (cm s to n) n) n x0).2->Q .normal [(2,vr),(3,Pw (Pt ⟨M,0,Pu⟩)),(4,Pp Pq n),(5,vt),(7,vp),(11,vd),(12,Pp Pq n)] h'):
  LC.wp Pz (.block 6 (.loop L.ao.l4)) Q ρ h:=by
 simp only[aI];refine cS [2,3,4,5,7,11,12] (fun(_:Unit) j=>[vr,Pw (Pt ⟨M,0,Pu⟩),Pp Pq n,vt,vp,vd,Pp Pq j]) (λ_ j h2=>Nx s M vs W0 h2 (o0.upd (6,0) (it T.bool vd (up (λ_=>up (cm s to n) n) j x0).1)) (up (λ_=>up (cm s to n) n) j x0).2) n ()
  rfl P2 h0 x (λ_ _=>rfl) (λv k h2 hk2 x2=>by simp) ?_ ?_
 ·rintro _ t h2 hlt x2 K2 hK2;have q2:=Hh (s:=s) (to:=to) q P2 hp ha t;have hbd:600*n*t<=5400*9:=NI P2 P2;have e2:up (λ_=>up (cm s to n) n) (t+1) x0=up (cm s to n) n (up (λ_=>up (cm s to n) n) t x0):=rfl;rw[e2]at hK2;generalize up (λ_=>up (cm s to n) n) t x0=y at x2 hK2 q2;simp only[aI];refine ab λy hy=>?_;simp;subst hy;refine G9 (vr:=vr) (vt:=vt) (vp:=vp) (vd:=vd) (t:=t) x2 hto htl f7 f90 f91 q2 P2 hp P2 P2 (by simp[bL,ag,ah]) λh3 x3=>?_;simp;exact hK2 () _ _ rfl rfl x3
 rintro _ h2 x2;exact hQ h2 x2
end
section
variable {s:List Int}
theorem jL:1<=bK s/\bK s<=9:=by have:=cG (s:=s) (at_:=1) (n:=9) P4;unfold bK;omega
theorem C3:((bK s:Nat):Int)=1+aE s 1 9:=by have:=cG (s:=s) (at_:=1) (n:=9) P4;unfold bK;omega
theorem zC:(wu s).ok 4:=by have:=cG (s:=s) (at_:=0) (n:=5) P4;refine⟨by show 2<=4;omega,by show 0<=aE s 0 5;omega,by show aE s 0 5<=_;omega,by show 0<=4;omega,λi=>?_⟩;show(nth ([]:List BlkD) i).ins.length<=4;rw[cI Sa];show 0<=4;omega
theorem yC:TgK (bK s) 112 (ik s):=by
 obtain⟨h1,h2⟩:=jL (s:=s);have k1:TgK (bK s) 4 (List.replicate (bK s) [],wu s):=⟨by simp,λi=>by
  rcases Lr i (bK s)with hi | hi
  ·rw[aB hi];show 0<=4;omega
  rw[cI (by simpa using hi)];show 0<=4;omega,zC⟩;exact(AG (s:=s) (ym (s:=s) k1 (bK s-1)) (bK s)).mono P2
def pO (m m':MS):Prop:=m'.ps=m.ps/\m'.blocks=m.blocks/\m'.next=m.next/\m'.live=m.live
theorem En{m:MS}{k:Nat}{x:TgS}(h:pO m x.2):pO m (tgA s k x).2:=by unfold tgA;split<;>exact h
theorem FB{m:MS}{x:TgS}(h:pO m x.2):pO m (tgI s n b x).2:=by
 unfold tgI;simp only;repeat' split
 all_goals exact h
theorem FR{m:MS}{x:TgS}(h:pO m x.2):pO m (tgB s n b x).2:=
 rM (λx:TgS=>pO m x.2) (λ_ _ h=>FB h) _ _ h
theorem tR:pO (wu s) (ik s).2:=
 rM (λx:TgS=>pO (wu s) x.2) (λ_ _ h=>FR h) _ _ (rM (λx:TgS=>pO (wu s) x.2) (λ_ _ h=>En h) _ _ ⟨rfl,rfl,rfl,rfl⟩)
theorem Ap {m:MS} {a n:Nat} {to:List (List Int)} (z:Sz n a 0 0 m) (g:Gd m) (pc : ∀j,(nth m.blocks j).phis.length=0) (ht : ∀j,(nth to j).length<=1000) : ∀k,Sz n a 0 0 (up (λb m=>MS.ld m b (nth to b)) k m)/\Gd (up (λb m=>MS.ld m b (nth to b)) k m)
 | 0=>⟨z,g⟩
 | k+1=>by obtain⟨h1,h2⟩:=Ap z g pc ht k;exact⟨h1.fJ (h1.phis k) (h1.ins k),h2.ld (ht k)⟩
theorem rV{j:Nat}:(nth (List.replicate n ry) j).phis.length=0/\(nth (List.replicate n ry) j).ins.length=0:=by
 rcases Lr j n with hj | hj
 ·rw[aB hj];exact⟨rfl,rfl⟩
 rw[cI (by simpa using hj)];exact⟨rfl,rfl⟩
theorem zA:Sz (bK s) 200 0 0 (rA s)/\Gd (rA s):=by
 have k:=yC (s:=s);have e:=tR (s:=s);have t:=cG (s:=s) (at_:=0) (n:=5) P4;refine Ap ⟨?_,?_,?_,?_,?_,?_,?_,λj=>?_,λj=>?_⟩ (λj hj=>?_) (λj=>(rV).1) (λj=>by have:=k.row j;omega) _
 ·show(ik s).2.at_<=200;have:=k.ok.at_;omega
 ·exact k.ok.n0
 ·show(ik s).2.next<=_;have:=k.ok.next;omega
 ·show(ik s).2.live.length<=200;have:=k.ok.live;omega
 ·show 0<=(ik s).2.ps;rw[e.1];show 0<=aE s 0 5;omega
 ·show(ik s).2.ps<=4;rw[e.1];show aE s 0 5<=4;omega
 ·show(List.replicate (bK s) ry).length=_;simp
 ·show(nth (List.replicate (bK s) ry) j).phis.length<=0;rw[(rV).1];omega
 ·show(nth (List.replicate (bK s) ry) j).ins.length<=0;rw[(rV).2];omega
 have hj:j<bK s:=by simpa using hj
 show GdB (nth (List.replicate (bK s) ry) j);rw[aB hj];exact⟨λi h=>(by cases h),by show 0<=10;omega,by show 0<=1000;omega,λi h=>(by cases h)⟩
theorem ox {m:MS} {b:Nat} (hb:b<m.blocks.length) : ∀c j,(nth (up (λ_=>ey b) c m).blocks j).phis.length=(nth m.blocks j).phis.length+(if j=b then c else 0)/\(up (λ_=>ey b) c m).blocks.length=m.blocks.length
 | 0,j=>⟨by show(nth m.blocks j).phis.length=_;split<;>omega,rfl⟩
 | c+1,j=>by
  obtain⟨h1,h2⟩:=ox hb c j;obtain⟨h3,_⟩:=ox hb c b;have e:(up (λ_=>ey b) (c+1) m).blocks=(up (λ_=>ey b) c m).blocks.set b { nth (up (λ_=>ey b) c m).blocks b with phis:=(nth (up (λ_=>ey b) c m).blocks b).phis++[⟨(up (λ_=>ey b) c m).next,[]⟩] }:=rfl;rw[e];refine⟨?_,by rw[LU];exact h2⟩;rcases Lr j m.blocks.length with hl | hl
  ·rw[bz (by rw[h2];exact hl)];by_cases ej:b=j
   ·subst ej;rw[if_pos rfl,if_pos rfl];rw[if_pos rfl]at h3;show(_++[_]).length=_;rw[LA,h3,LP];omega
   rw[if_neg ej,if_neg (λq=>ej q.symm)];rw[if_neg (λq=>ej q.symm)]at h1;exact h1
  rw[cI (by rw[LU,h2];exact hl),cI hl,if_neg P2];rfl
theorem wK {n a:Nat} {x:List Int × MS} (p:Ph n a 0 x) (pc:Pc x.1 x.2) (g:Gd x.2) : ∀k,k<n->Pc (up (eD s) k x).1 (up (eD s) k x).2/\Gd (up (eD s) k x).2
 | 0,_=>⟨pc,g⟩
 | k+1,hk=>by
  obtain⟨h1,h2⟩:=wK p pc g k P2;have q:=yt (s:=s) p k;have e:up (eD s) (k+1) x=eD s k (up (eD s) k x):=rfl;rw[e];generalize up (eD s) k x=y at h1 h2 q;obtain⟨c0,c1⟩:=pZ (s:=s) (m:=y.2) (b:=k+1);have hb:k+1<y.2.took.blocks.length:=by show k+1<y.2.blocks.length;rw[q.z.len];exact hk
  refine⟨λj=>?_,h2.took.oQ _⟩;have h3:=(ox hb (gF s y.2 (k+1)).toNat j).1;show((nth (up (λ_=>ey (k+1)) (gF s y.2 (k+1)).toNat y.2.took).blocks j).phis.length:Int)=nth (y.1.set (k+1) (gF s y.2 (k+1))) j;rw[h3];have h4:=h1 j;have h5:nth y.2.took.blocks j=nth y.2.blocks j:=rfl;rw[h5];rcases Lr j y.1.length with hl | hl
  ·rw[bz hl];by_cases ej:k+1=j
   ·subst ej;rw[if_pos rfl,if_pos rfl];rw[q.zero (k+1) P2]at h4;omega
   rw[if_neg ej,if_neg (λr=>ej r.symm)];omega
  have e1:nth (y.1.set (k+1) (gF s y.2 (k+1))) j=default:=cI (by simpa using hl);have e2:nth y.1 j=default:=cI hl;rw[e1];rw[e2]at h4;have:=q.len;rw[if_neg P2];omega
theorem qD:Ph (bK s) 200 (bK s-1) (jo s)/\Pc (jo s).1 (jo s).2/\Gd (jo s).2:=by
 obtain⟨h1,h2⟩:=jL (s:=s);obtain⟨z,g⟩:=zA (s:=s);have hz : ∀j,nth (List.replicate (bK s) (0:Int)) j=0:=λj=>by
  rcases Lr j (bK s)with hj | hj
  ·rw[aB hj]
  rw[cI (by simpa using hj)];rfl
 have p0:Ph (bK s) 200 0 (List.replicate (bK s) (0:Int),rA s):=⟨z,by simp,λj _=>hz j,λj=>by rw[hz];omega⟩;have pc:Pc (List.replicate (bK s) (0:Int)) (rA s):=λj=>by have:=z.phis j;rw[hz];omega
 obtain⟨q1,q2⟩:=wK (s:=s) p0 pc g (bK s-1) P2;exact⟨yt p0 _,q1,q2⟩
theorem Gd.iI {to:List (List Int)} {n b:Nat} {dn:BL} {away:List BL} {m:MS} (g:Gd m) (ht:(nth to b).length<=1000):Gd (iI s to n dn away b m):=by have g1:Gd (MS.took { m with live:=me m dn away b n }):=g;exact(Gd.gZ g1 _).JO ht
theorem Gd.cm {to:List (List Int)} {n b:Nat} {x:BL × MS} (g:Gd x.2) (ht:(nth to b).length<=1000):Gd (cm s to n b x).2:=by
 unfold Go.Proofs.YtnfiilgdjpdlkaaGreatDoor.cm;split
 ·exact g.iI ht
 exact g
structure M4 (n a p:Nat) (lp:List Int) (x:BL × MS):Prop where
 b2:B2 n a p x
 gd:Gd x.2
 pc:Pc lp x.2
theorem M4.step{to:List (List Int)}{n a p b:Nat}{lp:List Int}{x:BL × MS}(q:M4 n a p lp x)(hb:b<n)(hn:n<=10)(hp:p<=100)(ha:16000<=a)(ht : ∀j,(nth to j).length<=1000):M4 n (a+600) p lp (cm s to n b x):=
 ⟨qh q.b2 hb hn hp ha λh=>oL h,q.gd.cm (ht b),q.pc.cm (by rw[q.b2.z.len];exact hb)⟩
theorem M4.blk{a p:Nat}{x:BL × MS}(q:M4 n a p lp x)(hn:n<=10)(hp:p<=100)(ha:16000<=a)(ht : ∀j,(nth to j).length<=1000)(k:Nat)(hk:k<=n):M4 n (a+600*k) p lp (up (Go.Proofs.YtnfiilgdjpdlkaaGreatDoor.cm s to n) k x):=by
 induction k with
 | zero=>exact q
 | succ k ih=>have:=(ih P2).step (s:=s) (to:=to) (b:=k) P2 hn hp P2 ht;exact⟨⟨this.b2.z.mono P2 (Lp _) (Lp _),this.b2.len,this.b2.none⟩,this.gd,this.pc⟩
theorem M4.turn{a p:Nat}{x:BL × MS}(q:M4 n a p lp x)(hn:n<=10)(hp:p<=100)(ha:16000<=a)(ht : ∀j,(nth to j).length<=1000)(k:Nat):M4 n (a+600*n*k) p lp (up (λ_=>up (Go.Proofs.YtnfiilgdjpdlkaaGreatDoor.cm s to n) n) k x):=by
 induction k with
 | zero=>exact q
 | succ k ih=>have:=ih.blk (s:=s) (to:=to) hn hp P2 ht n (Lp _);exact⟨⟨this.b2.z.mono (by rw[OD];omega) (Lp _) (Lp _),this.b2.len,this.b2.none⟩,this.gd,this.pc⟩
theorem y3:B2 (bK s) 16000 27 (List.replicate (bK s) Py,(jo s).2):=by obtain⟨h1,h2⟩:=jL (s:=s);obtain⟨p,_,_⟩:=qD (s:=s);refine⟨p.z.mono P2 P2 P2,by simp,λj hj _=>?_⟩;have:=p.z.ins j;show(nth (jo s).2.blocks j).ins.length=0;omega
theorem zg:P3 (bK s) 70000 27 700 (xz s).2/\Pc (jo s).1 (xz s).2:=by
 obtain⟨h1,h2⟩:=jL (s:=s);obtain⟨p,pc,g⟩:=qD (s:=s);have ht : ∀j,(nth (ik s).1 j).length<=1000:=λj=>by have:=(yC (s:=s)).row j;omega
 have q0:M4 (bK s) 16000 27 (jo s).1 (List.replicate (bK s) Py,(jo s).2):=⟨y3,g,pc⟩;have q:=q0.turn (s:=s) (to:=(ik s).1) P2 P2 P2 ht (bK s);have hbd:600*bK s*bK s<=5400*9:=NI P2 P2;exact⟨⟨q.b2.z.mono P2 (Lp _) (Lp _),q.gd⟩,q.pc⟩
theorem oq:P3 (bK s) 72000 27 1000 (s9 s):=by obtain⟨h1,h2⟩:=jL (s:=s);obtain⟨p,_,_⟩:=qD (s:=s);obtain⟨q,pc⟩:=zg (s:=s);have:=(yg (s:=s) q pc (λj=>(p.rng j).2) h2 (bK s-1)).1;exact this.mono P2 (Lp _) P2
theorem Hx:SmF (lJ s):=(oq (s:=s)).g.smF (oq (s:=s)).z (by have:=jL (s:=s);omega) P2 P2
theorem Al:0<=(lJ s).params/\(lJ s).params<=4:=⟨(oq (s:=s)).z.ps0,(oq (s:=s)).z.ps1⟩
end
section
variable {f:an} {b i:Nat}
theorem zv:mh f (endT f b)=true:=by refine decide_eq_true ?_;show(((nth f.blocks b).ins.length:Nat):Int)=((nth f.blocks ((b:Nat):Int).toNat).ins.length:Nat);rw[LM]
theorem Cp(hi:i<(nth f.blocks b).ins.length):qZ f (insT f b i)=Px/\zT f (insT f b i)=nth (nth f.blocks b).ins i:=by
 refine⟨(Ls _ _).mpr ⟨decide_eq_true (Int.natCast_nonneg _),decide_eq_true ?_⟩,?_⟩
 ·show(i:Int)<((nth f.blocks ((b:Nat):Int).toNat).ins.length:Nat);rw[LM];omega
 show nth (nth f.blocks ((b:Nat):Int).toNat).ins ((i:Nat):Int).toNat=_;rw[LM,LM]
theorem G4:gE f (endT f b)=nth f.blocks b:=by show nth f.blocks ((b:Nat):Int).toNat=_;rw[LM]
theorem nP.insG(m:nP f)(hb:b<f.blocks.length)(hi:i<(nth f.blocks b).ins.length):yP f (insT f b i)/\wx (nth (nth f.blocks b).ins i)=false:=by have g:=m.good _ (iC.2 ⟨b,hb,jM.2 (.inr (.inl ⟨i,hi,rfl⟩))⟩);exact⟨g,by have:=g.op (Cp hi).1;rwa [(Cp hi).2]at this⟩
theorem nP.endG(m:nP f)(hb:b<f.blocks.length):uY (nth f.blocks b).term=Px/\∀n∈(nth f.blocks b).term.to,1<=n/\n<f.blocks.length:=by have g:=m.good _ (iC.2 ⟨b,hb,jM.2 (.inr (.inr rfl))⟩);have h1:=g.term zv;have h2:=g.to zv;rw[G4]at h1 h2;exact⟨h1,h2⟩
end
section
variable {f g:an} {n:Nat}
end
def kV (f:an):Bool:=decide ((ke f).1=0)
def jX (f:an) (b p pat temp:Int):Option FitD:=if dm f b p&&kV f then tryS (eo f b p temp) pat else Pu
def iu (f:an) (b p pat:Int):Option FitD:=if 1<=pat then jX f b p pat 0 else Pu
def CE:Option FitD->List Int | some x=>x.takes | none=>[]
def BN:Option FitD->List Int | some x=>x.inner | none=>[]
def FG:Option FitD->List aY | some x=>x.code | none=>[]
def HX:Option FitD->EndD | some x=>x.fin | none=>dK
theorem nz{f:an}{i:InsD}:i∈ed f↔∃b k,b<f.blocks.length/\k<(nth f.blocks b).ins.length/\i=nth (nth f.blocks b).ins k:=by
 unfold ed;rw[List.mem_flatMap];constructor
 ·rintro⟨x,hx,hi⟩;obtain⟨b,hb,rfl⟩:=LO hx;obtain⟨k,hk,rfl⟩:=LO hi;exact⟨b,k,hb,by rw[aA hb];exact hk,by rw[aA hb,aA hk]⟩
 rintro⟨b,k,hb,hk,rfl⟩;exact⟨_,bJ hb,bJ hk⟩
theorem tN{H:View}{v:Value}{f:an}(h:Rd H v f): ∀i∈ed f,-2147483648<=i.imm.v/\i.imm.v<=2147483647:=by intro i hi;obtain⟨b,k,hb,hk,rfl⟩:=nz.1 hi;obtain⟨c1,c2,c3⟩:=fq h;unfold Rd at h;rw[if_pos (show Rep.agg an=Px from rfl)]at h;obtain⟨cs,rfl,d1,d2,e,h1,h2⟩:=h;obtain⟨vb,rfl⟩:=sK h2;have hs:=mU.1 h2;have h3:=((hs.at hb).part BlkD.mN).sl;obtain⟨vi,-,h4⟩:=h3;rw[<-aA hb]at h4;have:=((h4.at hk).part InsD.jv).ov;rw[aA hk];exact this
theorem yO{f:an}(m:nP f)(hsm:SmF f): ∀i∈ed f,uv i:=by
 intro i hi;obtain⟨b,k,hb,hk,rfl⟩:=nz.1 hi;obtain⟨-,h⟩:=m.insG hb hk;have hm:=(hsm.blk b hb).inn k hk;generalize nth (nth f.blocks b).ins k=i at *;unfold wx at h;simp at h;obtain⟨⟨h1,h2⟩,h3⟩:=h;unfold yo at h3;refine⟨λho=>?_,λho=>?_,hm⟩
 ·rw[if_neg P2,if_neg P2,if_neg P2]at h3;simp at h3;omega
 rw[if_neg P2,if_pos P2]at h3;simp at h3;omega
theorem FV{f:an}(m:nP f)(hsm:SmF f)(hb:b<f.blocks.length):vK (nth f.blocks b).term:=by
 have h:=(m.endG hb).1;have s:=hsm.blk b hb;have s1:=s.args;have s2:=s.to;generalize (nth f.blocks b).term=t at *;refine⟨λho=>?_,s1,s2⟩;unfold uY at h;rcases ho with ho | ho
 ·rw[if_neg P2,if_pos ho]at h;simp at h;omega
 rw[if_neg P2,if_neg P2,if_pos ho]at h;simp at h;omega
theorem FL:uv gC:=⟨λh=>by simp[gC]at h,λh=>by simp[gC]at h,by simp[gC]⟩
variable{temp:Int}
theorem zX{f:an}{b p:Int}(m:nP f)(hsm:SmF f)(hr : ∀i∈ed f,-2147483648<=i.imm.v/\i.imm.v<=2147483647)(hp:dm f b p=Px):ln (eo f b p temp)/\vK (eo f b p temp).t/\((eo f b p temp).i=gC\/(eo f b p temp).i∈ed f)/\(eo f b p temp).f=f:=by
 simp[dm]at hp;obtain⟨⟨⟨g1,g2⟩,g3⟩,g4⟩:=hp;have hb:b.toNat<f.blocks.length:=by omega
 unfold eo;by_cases e:p=(nth f.blocks b.toNat).ins.length
 ·rw[if_pos e];exact⟨⟨hsm,yO m hsm,FL,hr⟩,FV m hsm hb,.inl rfl,rfl⟩
 rw[if_neg e];have hi:nth (nth f.blocks b.toNat).ins p.toNat∈ed f:=nz.2 ⟨_,_,hb,by omega,rfl⟩;exact⟨⟨hsm,yO m hsm,yO m hsm _ hi,hr⟩,⟨λh=>by simp[nX]at h,by simp[nX],by simp[nX]⟩,.inr hi,rfl⟩
theorem yB{f:an}{v:Value}{b p pat:Int}{h:Heap}(hW:W.le (vw h))(hv:Rd W v (eo f b p temp))(m:nP f)(hsm:SmF f)(hr : ∀i∈ed f,-2147483648<=i.imm.v/\i.imm.v<=2147483647)(hM : ∀i∈ed f,i.op=15\/i.op=16->lA)(hpl:dm f b p=Px)(hp:I64 pat):
  az Pz 39 #[v,Pp Pq pat] h (λu h'=>bI W h h' u (tryS (eo f b p temp) pat)):=by
 obtain⟨h1,h2,h3,-⟩:=zX (temp:=temp) m hsm hr hpl;refine Iu hW hv (λ_=>h1) (λ_=>⟨h1,h2⟩) (λho=>?_) hp;rcases h3 with h3 | h3
 ·rw[h3]at ho;simp[gC]at ho
 exact hM _ h3 ho
theorem mR{f:an}(h:kV f=Px):nP f:=IC (by simpa[kV]using h)
theorem FC{f:an}{v:Value}{b p pat:Int}{h:Heap}(hW:W.le (vw h))(hv:Rd W v f)(hsm:SmF f)(hM : ∀i∈ed f,i.op=15\/i.op=16->lA)(hp:I64 pat):
  az Pz 15 #[v,Pp Pq b,Pp Pq p,Pp Pq pat] h (λu h'=>(vw h).le (vw h')/\∃v1 v2,u = .tuple #[v1,v2,.bool (iu f b p pat).isSome]/\SlRd (vw h') v1 (CE (iu f b p pat))/\SlRd (vw h') v2 (BN (iu f b p pat))):=by
 refine aq (args:=[v,Pp Pq b,Pp Pq p,Pp Pq pat]) follows Tryz.func15 E.nc Pj λK hK=>?_;dsimp only[L.nc,lkF,lkG];have c0:=Cx.start hW;refine ab λz hz=>?_;simp;refine c0.dh rfl hv λB h1 W1 hW1 c1 at1 hle1=>?_;subst hz;obtain⟨uf,huf,ruf⟩:=at1.ldN rfl (N:=2) rfl;have hr:=tN hv;refine ab λz hz=>?_;simp[huf _ c1.wle];refine af P1 (F2 c1.wle ruf (by constructor<;>decide)) ?_;rintro _ h2 ⟨hle2,vs,rfl,hvs⟩;have c2:=c1.ext hle2;have hW2:=c1.up (h':=h2);simp;refine c2.dD (α:=bS) hvs (n:=13) (z:=.agg nN.toArray) P1 rfl rfl P1 P5 P5 λB2 h3 W3 hW3 c3 at3 hle3=>?_;subst hz;have huf3:=huf _ (Pn hW2 (Pn hW3 c3.wle));have ruf3:=ruf.mono (Pn hW2 (Pn hW3 c3.wle));have none_:iu f b p pat=Pu->K (.tuple #[Pv Pu 0 0,Pv Pu 0 0,.bool Py]) h3:=λe=>hK _ _ ⟨c3.le0,_,_,by rw[e];rfl,by rw[e];exact aJ,by rw[e];exact aJ⟩;refine ab λz hz=>?_;cases hpl:dm f b p with
 | false=>
  have e:iu f b p pat=none:=by unfold iu jX;rw[hpl];split<;>rfl
  simp;exact none_ e
 | true=>
  by_cases h1p:pat<1
  ·have e:iu f b p pat=none:=by unfold iu;rw[if_neg P2]
   simp[h1p];exact none_ e
  simp[h1p,huf3];refine af P1 (wc ruf3 hsm) ?_;rintro _ h4 ⟨rfl,hle4⟩;have c4:=c3.ext hle4;have hW4:=c3.up (h':=h4);cases hrt:kV f with
  | false=>
   have e:iu f b p pat=none:=by unfold iu jX;rw[hpl,hrt];split<;>rfl
   have hrt2:decide ((ke f).1=0)=false:=hrt;simp[hrt2];exact hK _ _ ⟨c4.le0,_,_,by rw[e];rfl,by rw[e];exact aJ,by rw[e];exact aJ⟩
  | true=>
   have hrt2:decide ((ke f).1=0)=true:=hrt;have m:=mR hrt;have e:iu f b p pat=tryS (eo f b p 0) pat:=by unfold iu jX;rw[if_pos P2,hpl,hrt];rfl
   rw[e]at hK none_;have hpS:ml f b p 0=eo f b p 0:=by unfold ml;rw[hpl,if_pos rfl]
   rw[hpS]at at3;obtain⟨us,hus,rus⟩:=at3.ldN rfl (N:=13) rfl;have hus4:=hus _ (Pn hW4 c4.wle);simp[hrt2];subst hz;refine ab λz hz=>?_;simp[hus4];refine af P1 (yB c4.wle (rus.mono hW4) m hsm hr hM hpl hp) ?_;rintro _ h5 ⟨hle5,vf,x,rfl,hvf,hx⟩;have c5:=c4.ext hle5;simp;refine c5.dD (α:=FitD) hvf (n:=8) (z:=.agg fitZ.toArray) P1 rfl rfl P1 P5 P5 λB3 h6 W6 hW6 c6 at6 hle6=>?_;subst hz;refine ab λz hz=>?_;cases hq:tryS (eo f b p 0) pat with
   | none=>rw[hq]at hK;simp;exact hK _ _ ⟨c6.le0,_,_,rfl,aJ,aJ⟩
   | some y=>
    obtain rfl:=hx y hq;rw[hq]at hK;obtain⟨v1,k1,s1⟩:=((at6.mono c6.wle).part FitD.BP).sl;obtain⟨v2,k2,s2⟩:=((at6.mono c6.wle).part FitD.GU).sl;have k1:ak (vw h6) ⟨B3,0,Pu⟩=Pt v1:=by simpa using k1
    have k2:ak (vw h6) ⟨B3,1,Pu⟩=Pt v2:=by simpa using k2
    simp;subst hz;simp[k1,k2];exact hK _ _ ⟨c6.le0,_,_,rfl,s1,s2⟩
abbrev endZ:List Value:=[Pp Pq 0,Pp Pq 0,Pp Pq 0,Pv Pu 0 0,Pp Ps 0]
theorem mF{H:View}:Rd H (.agg endZ.toArray) dK:=by unfold Rd;rw[if_pos (show Rep.agg EndD=Px from rfl)];exact⟨_,rfl,kh Sa P4 aJ⟩
theorem GI{f:an}{v:Value}{b p pat:Int}{h:Heap}(hW:W.le (vw h))(hv:Rd W v f)(hsm:SmF f)(hM : ∀i∈ed f,i.op=15\/i.op=16->lA)(hp:I64 pat)(htm:I64 temp):
  az Pz 16 #[v,Pp Pq b,Pp Pq p,Pp Pq pat,Pp Pq temp] h (λu h'=>(vw h).le (vw h')/\∃v1 v2,u = .tuple #[v1,v2,.bool (jX f b p pat temp).isSome]/\SlRd (vw h') v1 (FG (jX f b p pat temp))/\Rd (vw h') v2 (HX (jX f b p pat temp))):=by
 refine aq (args:=[v,Pp Pq b,Pp Pq p,Pp Pq pat,Pp Pq temp]) follows Tryz.func16 E.oP Pj λK hK=>?_;dsimp only[L.oP,lkF,lkG];have c0:=Cx.start hW;refine ab λz hz=>?_;simp;refine c0.dh rfl hv λB h1 W1 hW1 c1 at1 hle1=>?_;refine c1.cj (k:=(0,0)) (n:=4) (z:=.agg endZ.toArray) rfl P1 rfl P4 P8 λR h1' hle1' c1=>?_;subst hz;obtain⟨uf,huf,ruf⟩:=at1.ldN rfl (N:=2) rfl;have hr:=tN hv;refine ab λz hz=>?_;simp[huf _ c1.wle];refine af P1 (F2 c1.wle ruf htm) ?_;rintro _ h2 ⟨hle2,vs,rfl,hvs⟩;have c2:=c1.ext hle2;have hW2:=c1.up (h':=h2);simp;refine c2.dD (α:=bS) hvs (n:=13) (z:=.agg nN.toArray) P1 rfl rfl P1 P5 P5 λB2 h3 W3 hW3 c3 at3 hle3=>?_;subst hz;have huf3:=huf _ (Pn hW2 (Pn hW3 c3.wle));have ruf3:=ruf.mono (Pn hW2 (Pn hW3 c3.wle));have none_ : ∀(hx:Heap) (Wx:View) (l9:List Value) (o:Own),jX f b p pat temp=Pu->Cx W h Wx hx o->Rd Wx (.agg l9.toArray) dK->K (.tuple #[Pv Pu 0 0,.agg l9.toArray,.bool Py]) hx:=λhx Wx l9 o e c r=>hK _ _ ⟨c.le0,_,_,by rw[e];rfl,by rw[e];exact aJ,by rw[e];exact r.mono c.wle⟩;refine ab λz hz=>?_;cases hpl:dm f b p with
 | false=>
  have e:jX f b p pat temp=none:=by unfold jX;rw[hpl];rfl
  simp;refine aw (t:=T.fj) (z:=.agg endZ.toArray) (places:=[(0,1),(1,1),(2,1),(3,1),(4,1)]) (vs:=[]) (cs:=endZ.toArray) P1 P1 Sa P1 ?_;refine c3.bo (k:=(0,0)) (n:=4) (l:=endZ) Ri mF rfl rfl P1 rfl rfl λh9 l9 hl9 c9=>?_;have hall:=c9.all (k:=(0,0)) (n:=4) (l:=l9) (B:=R) (e:=T.fj) Ri;simp at hall;simp[hall];exact none_ _ _ _ _ e c9 (hl9▸mF)
 | true=>
  simp[huf3];refine af P1 (wc ruf3 hsm) ?_;rintro _ h4 ⟨rfl,hle4⟩;have c4:=c3.ext hle4;have hW4:=c3.up (h':=h4);cases hrt:kV f with
  | false=>
   have e:jX f b p pat temp=none:=by unfold jX;rw[hpl,hrt];rfl
   have hrt2:decide ((ke f).1=0)=false:=hrt;simp[hrt2];refine aw (t:=T.fj) (z:=.agg endZ.toArray) (places:=[(0,1),(1,1),(2,1),(3,1),(4,1)]) (vs:=[]) (cs:=endZ.toArray) P1 P1 Sa P1 ?_;refine c4.bo (k:=(0,0)) (n:=4) (l:=endZ) Ri mF rfl rfl P1 rfl rfl λh9 l9 hl9 c9=>?_;have hall:=c9.all (k:=(0,0)) (n:=4) (l:=l9) (B:=R) (e:=T.fj) Ri;simp at hall;simp[hall];exact none_ _ _ _ _ e c9 (hl9▸mF)
  | true=>
   have hrt2:decide ((ke f).1=0)=true:=hrt;have m:=mR hrt;have e:jX f b p pat temp=tryS (eo f b p temp) pat:=by unfold jX;rw[hpl,hrt];rfl
   rw[e]at hK none_;have hpS:ml f b p temp=eo f b p temp:=by unfold ml;rw[hpl,if_pos rfl]
   rw[hpS]at at3;obtain⟨us,hus,rus⟩:=at3.ldN rfl (N:=13) rfl;have hus4:=hus _ (Pn hW4 c4.wle);simp[hrt2];subst hz;refine ab λz hz=>?_;simp[hus4];refine af P1 (yB c4.wle (rus.mono hW4) m hsm hr hM hpl hp) ?_;rintro _ h5 ⟨hle5,vf,x,rfl,hvf,hx⟩;have c5:=c4.ext hle5;simp;refine c5.dD (α:=FitD) hvf (n:=8) (z:=.agg fitZ.toArray) P1 rfl rfl P1 P5 P5 λB3 h6 W6 hW6 c6 at6 hle6=>?_;subst hz;refine ab λz hz=>?_;cases hq:tryS (eo f b p temp) pat with
   | none=>simp;refine aw (t:=T.fj) (z:=.agg endZ.toArray) (places:=[(0,1),(1,1),(2,1),(3,1),(4,1)]) (vs:=[]) (cs:=endZ.toArray) P1 P1 Sa P1 ?_;refine c6.bo (k:=(0,0)) (n:=4) (l:=endZ) Ri mF rfl rfl P1 rfl rfl λh9 l9 hl9 c9=>?_;have hall:=c9.all (k:=(0,0)) (n:=4) (l:=l9) (B:=R) (e:=T.fj) Ri;simp at hall;simp[hall];exact none_ _ _ _ _ hq c9 (hl9▸mF)
   | some y=>
    obtain rfl:=hx y hq;rw[hq]at hK;obtain⟨v1,k1,s1⟩:=(at6.part FitD.IJ).sl;obtain⟨v2,k2,s2⟩:=(at6.part FitD.Kt).ldN rfl (N:=5) rfl;have k1:ak W6 ⟨B3,2,Pu⟩=Pt v1:=by simpa using k1
    have k2:Un.ev W6 (.bO 5) (Pw (Pt ⟨B3,3,Pu⟩))=Pt v2:=by simpa using k2 W6 Pl
    simp;subst hz;refine ab λz hz=>?_;refine aR W6 c6.wle ?_;simp[k1,k2];refine c6.bo (k:=(0,0)) (n:=4) (l:=endZ) Ri s2 rfl rfl P1 rfl rfl λh9 l9 hl9 c9=>?_;subst hz;have hall:=c9.all (k:=(0,0)) (n:=4) (l:=l9) (B:=R) (e:=T.fj) Ri;simp at hall;simp[hall];exact hK _ _ ⟨c9.le0,_,_,rfl,s1.mono c9.wle,hl9▸s2.mono c9.wle⟩
theorem EG{a b:ByteArray}{n:Bool}:Bn.ev (.eqS n) (.string a) (.string b)=Pt (.bool ((a.toList == b.toList) != n)):=rfl
end Go.Proofs.YtnfiilgdjpdlkaaGreatDoor
