/- A part of the proof: Mj, Mk, Ml, Mm, Mn, Mo, Mp, Mq, Mr, Ms, Mt, Mu, Mv, Mw, Mx, My, Mz, Na, Tk, Om, On, Ja. -/
import Derived.Test.YtnfiilgdjpdlkaaGreatDoorZTInn4
import Derived.Laws.BytesArg
set_option linter.unusedSimpArgs false
set_option linter.unusedVariables false
open Go.Value renaming int->Pv,slice->PA,pointer->PB
open Go.IntKind renaming i64->Pw,i32->Px
open Option renaming some->Py,none->Pz
open Bool renaming true->PC,false->PD
open Go.Proofs.Tryz renaming prog->PE
namespace Go.Proofs.YtnfiilgdjpdlkaaGreatDoor
open Go Go.Lft
def sk (f:aj) (b:Nat) (t:Th):Bool:=decide (t.blk=b)||!nth (dO f t.blk) b
def dT (f:aj) (b:Nat) (out:List Int) (t:Th):List Int:=if sk f b t then out++t.mks else out
def gR (f:aj) (b:Nat):List Int:=(aD f).foldl (dT f b) (rows (λi=>(i:Int)) f.params.toNat)
def sY (v:Value) (l:List Int):Own:=λk=>if k=(0,0) then it T.int v l else Pz
theorem wM{v v':Value}{l l':List Int}(q:Key):sY v' l' q=(sY v l).upd (0,0) (it T.int v' l') q:=by
 unfold sY Own.upd;repeat' split
 all_goals first | rfl | simp_all
theorem xp{l:List Th}{f:aj}{b c:Nat}(hl : ∀t∈l,t.mks.length<=c): ∀{out:List Int},(l.foldl (dT f b) out).length<=out.length+c*l.length:=by
 induction l with
 | nil=>intro out;simp
 | cons t l ih=>
  intro out;have h1:=ih (λt ht=>hl t (by simp[ht])) (out:=dT f b out t);have h2:(dT f b out t).length<=out.length+c:=by
   unfold dT;have:=hl t Sa;split
   ·rw[Lx];omega
   omega
  rw[LR,ME,OK];omega
theorem Av.JM{V W:View}{v:Value}(hw:Av W v)(h:V.le W):Av V v:=λb hb=>by
 cases hv:V b with
 | none=>rfl
 | some x=>have:=h b x hv;rw[hw b hb]at this;cases this
theorem zE{W W':View}{h:Heap}{e:TypeId}{v:Value}{l:List Int}(o:OwnT W h e v l):OwnT W' h e v l:=by obtain⟨b,xs,h1,h2⟩:=o;exact⟨b,xs,h1,λi hi=>h2 i hi⟩
theorem J4{h:Heap}{v:Value}(ha:Av (vw h) v): ∀b,v.ownBlock=Py b->h.size<=b:=λb hb=>by have:h[b]? = none:=ha b hb;rwa [Array.getElem?_eq_none_iff]at this
theorem zP{f:aj}{b:Nat}{v:Value}{h:Heap}(hv:Rd (vw h) v f)(hsm:SmF f)(hp:0<=f.params/\f.params<=1000)(hb:b<f.blocks.length)(hmk : ∀t∈aD f,t.mks.length<=1000)(hth:(aD f).length<=1000000):
  az PE 57 #[v,Pv Pw b] h (λu h'=>(vw h).le (vw h')/\(∀b,u.ownBlock=Py b->h.size<=b)/\OwnT nothing h' T.int u (gR f b)):=by
 refine au (args:=[v,Pv Pw b]) follows Tryz.func57 E.bS Pp λK hK=>?_;dsimp only[L.bS,lkF,lkG];refine ab λz hz=>?_;simp;refine hZ rfl hv λh1 _ hle1 hs1 hat=>?_;obtain⟨cp,vb,cb⟩:=jx hat;obtain⟨uf,huf,hufr⟩:=hat.bU rfl;have huf:Un.ev (vw h1) (.bU 2) (PB (Py ⟨h.size,0,Pz⟩))=Py uf:=huf;generalize h.size=B at cp cb huf;subst hz;refine ab λz hz=>?_;simp;refine(Owns.start (h:=h1) (View.le_refl (vw h1))).kq (k:=(0,0)) (α:=Int) rfl El.aR λvo h2 hle2 hvo w2 _=>?_;have w2:Owns (vw h1) h2 (sY vo []):=w2.congr λq=>by unfold sY Own.upd;split<;>rfl
 subst hz;refine ab λz hz=>?_;simp;obtain⟨n,hn⟩ : ∃n:Nat,n=f.params.toNat:=⟨_,rfl⟩;have hpn:f.params=n:=by omega
 rw[hpn]at cp;refine cT [0,1,2,5,6] (fun(vo:Value) i=>[v,Pv Pw b,PB (Py ⟨B,0,Pz⟩),vo,Pv Pw i]) (λvo i h3=>Owns (vw h1) h3 (sY vo (rows (λi=>(i:Int)) i))) n vo
  rfl P2 rfl w2 (λ_ _=>rfl) (λv k h3 hk m=>by simp[ae m.wle cp]) ?_ ?_
 ·rintro vo i h3 hlt w3 K2 hK2;simp;refine w3.iN (k:=(0,0)) (α:=Int) (v:=vo) (l:=rows (λi=>(i:Int)) i) (d:=(i:Int)) rfl El.aR rfl (bn.2 ⟨rfl,by constructor<;>omega⟩) P9 P9 (λ_=>rfl) (λ_=>rfl) λu v' h4 w4 _=>?_;refine hK2 v' _ _ rfl rfl (w4.congr λq=>?_);rw[eu];exact wM q
 rintro vo h3 w3;simp;subst hz;refine ab λz hz=>?_;have huf3:Un.ev (vw h3) (.bU 2) (PB (Py ⟨B,0,Pz⟩))=Py uf:=by have:=dy (ρ:=λ_=>Pz) (e:=.un (.bU 2) (.con (PB (Py ⟨B,0,Pz⟩)))) w3.wle (by simpa using huf);simpa using this
 simp[huf3];refine af P1 (yl hufr w3.wle hsm) ?_;rintro vt h4 ⟨hle4,hst⟩;have w4:=w3.ext hle4;have hW4:=bW (h':=h4) w3.wle;generalize grow (vw h1) h3 h4=W4 at hst w4 hW4;subst hz;refine ab λz hz=>?_;simp;have hsd:gR f b=(aD f).foldl (dT f b) (rows (λi=>(i:Int)) n):=by rw[hn];rfl
 have hlen : ∀i,((List.take i (aD f)).foldl (dT f b) (rows (λi=>(i:Int)) n)).length<=1001001000:=λi=>by
  have h1:=xp (l:=List.take i (aD f)) (f:=f) (b:=b) (c:=1000) (λt ht=>hmk t (List.mem_of_mem_take ht)) (out:=rows (λi=>(i:Int)) n);have h2:(List.take i (aD f)).length<=(aD f).length:=by simp;omega
  rw[mN]at h1;omega
 generalize rows (λi=>(i:Int)) n=base at w4 hsd hlen;have tb:=hst.bound;refine cT [0,1,2,5,7,8] (fun(vo:Value) i=>[v,Pv Pw b,PB (Py ⟨B,0,Pz⟩),vo,vt,Pv Pw i]) (λvo i h5=>∃W,W4.le W/\Owns W h5 (sY vo ((List.take i (aD f)).foldl (dT f b) base))) (aD f).length vo
  rfl P2 rfl ⟨W4,View.le_refl _,w4⟩ (λ_ _=>rfl) (λv k h5 hk ⟨W,q1,q2⟩=>by simp[hst.len]) ?_ ?_
 ·rintro vo i h5 hlt ⟨W5,hW5,w5⟩ K2 hK2;have hst5:=hst.mono hW5;have hl5:=hlen i;have hsucc:(List.take (i+1) (aD f)).foldl (dT f b) base=dT f b ((List.take i (aD f)).foldl (dT f b) base) (nth (aD f) i):=by rw[LD hlt,Nn,aA hlt];rfl
  generalize (List.take i (aD f)).foldl (dT f b) base=out at w5 hsucc hl5;have hat5:=hst5.at hlt;rw[<-aA hlt]at hat5;have hmt:=hmk _ (bC hlt);generalize nth (aD f) i=t at hat5 hsucc hmt;have hblk:ak W5 (((slA vt).add (i*4)).add 0)=Py (Pv Pw t.blk):=(hat5.part Th.HS).int;obtain⟨vm,hvm⟩:=(hat5.part Th.Kn).sl;have hvm1:ak W5 (((slA vt).add (i*4)).add 2)=Py vm:=hvm.1;have hvm2:=hvm.2;have h64:=(hat5.part Th.HS).rng;simp only[aL];refine ab λy hy=>?_;simp;subst hy;refine ab λy hy=>?_;have fin : ∀(h6:Heap) (ρ:Env) (W6:View),W5.le W6->Owns W6 h6 (sY vo out)->Lft.look ρ 0=Py v->Lft.look ρ 1=Py (Pv Pw b)->Lft.look ρ 2=Py (PB (Py ⟨B,0,Pz⟩))->Lft.look ρ 5=Py vo->Lft.look ρ 7=Py vt->Lft.look ρ 8=Py (Pv Pw i)->Lft.look ρ 9=Py (.bool (sk f b t))->
    LC.wp PE y (eA 3 (eG K2 (eA 2 (eG (LC.wp PE z (dB [.tmp 4] K)) (dB [.tmp 4] K))))) ρ h6:=by
   intro h6 ρ W6 hW6 w6 r0 r1 r2 r5 r7 r8 r9;subst hy;refine ab λy hy=>?_;simp[ag,ah,r9];subst hy;have hsp:dT f b out t=if sk f b t then out++t.mks else out:=rfl;rw[hsp]at hsucc;by_cases ca:sk f b t=PC
   ·rw[if_pos ca]at hsucc;refine aW (by simp[ag,ah,ca]) ?_;have hst6:=hst5.mono (Pt hW6 w6.wle);simp(disch:=omega)[ag,ah,r0,r1,r2,r5,r7,r8,hst6.idxn (N:=4) rfl,ae (Pt hW6 w6.wle) hvm1];refine w6.df (k:=(0,0)) (α:=Int) (v:=vo) (l:=out) (l2:=t.mks) rfl El.aR rfl rfl ((hvm2.mono hW6).src w6.wle) P2 P2 λv' h7 w7 _=>?_;refine hK2 v' _ _ ?_ ?_ ⟨W6,Pt hW5 hW6,w7.congr λq=>?_⟩
    ·simp[ag,ah,r8]
    ·simp[bK,ag,ah,r0,r1,r2,r5,r7,r8]
    rw[hsucc];exact wM q
   rw[if_neg ca]at hsucc;refine aV (by simp[ag,ah,ca]) ?_;simp;refine hK2 vo _ _ ?_ ?_ ⟨W6,Pt hW5 hW6,by rw[hsucc];exact w6⟩
   ·simp[ag,ah,r8]
   simp[bK,ag,ah,r0,r1,r2,r5,r7,r8]
  refine ab λx hx=>?_;simp(disch:=omega)[(hst5.mono w5.wle).idxn (N:=4) rfl,ae w5.wle hblk];subst hx;by_cases cb:t.blk=b
  ·refine aV (by simp[cb]) ?_;simp;refine fin h5 _ W5 Ps w5 ?_ ?_ ?_ ?_ ?_ ?_ ?_;all_goals simp[sk,cb]
  refine aW (by simp[cb]) ?_;refine ab λx hx=>?_;have hf5:Rd (vw h5) uf f:=hufr.mono (Pt hW4 (Pt hW5 w5.wle));have huf5:Un.ev (vw h5) (.bU 2) (PB (Py ⟨B,0,Pz⟩))=Py uf:=by have:=dy (ρ:=λ_=>Pz) (e:=.un (.bU 2) (.con (PB (Py ⟨B,0,Pz⟩)))) (Pt hW4 (Pt hW5 w5.wle)) (by simpa using huf);simpa using this
  refine aT (vw h5) Ps ?_;simp(disch:=omega)[(hst5.mono w5.wle).idxn (N:=4) rfl,ae w5.wle hblk,huf5];refine af P1 (wA hf5 (by have:=hsm.len;omega)) ?_;rintro ur h6 ⟨hle6,hur⟩;have w6:=w5.ext hle6;have hW6:=bW (h':=h6) w5.wle;have hur6:SlRd (vw h6) ur (dO f t.blk):=hur.mono (kg h5 h6);have hrl:(dO f t.blk).length=f.blocks.length:=rE;subst hx;simp(disch:=omega)[hur6.idx1 rfl,hur6.bool Ps];refine fin h6 _ _ hW6 w6 ?_ ?_ ?_ ?_ ?_ ?_ ?_;all_goals simp[sk,cb]
 rintro vo h5 ⟨W5,hW5,w5⟩;rw[MK,<-hsd]at w5;simp;subst hz;simp;have hX:(vw h).le W5:=Pt hle1 (Pt hW4 hW5);exact hK _ _ ⟨Pt hX w5.wle,J4 (Av.JM (w5.av (0,0) _ rfl) hX),zE (w5.get (k:=(0,0)) (v:=vo) rfl)⟩
end Go.Proofs.YtnfiilgdjpdlkaaGreatDoor
namespace Go.Lft
open Go
theorem vy {P:Program} {Q:Post} {ρ:Env} {h:Heap} {a i c:Nat} {ks ks2:List Nat} {ce:E} {body:LC} {σ:Type} (kp:List Nat) (vals:σ->Nat->List Value) (J:σ->Nat->Heap->Prop) (n:Nat) (d:Nat) (s0:σ)
  (hok:tt kp ks ks2 c i=PC) (hn:n+d<=9223372036854775806) (h0:bK kp ρ=kp.zip (vals s0 0)) (hj:J s0 0 h)
  (hi : ∀s k,look (kp.zip (vals s k)) i=Py (Pv Pw ((k+d:Nat):Int)))
  (hb : ∀s k h,k<=n->J s k h->ev (look (kp.zip (vals s k))) (vw h) ce=Py (.bool (decide (k<n))))
  (round : ∀s k h,k<n->J s k h->∀K:Env->Heap->Prop,(∀s' ρ' h',look ρ' i=Py (Pv Pw ((k+d:Nat):Int))->bK kp (setE ρ' i (Pv Pw (((k+d:Nat):Int)+1)))=kp.zip (vals s' (k+1))->J s' (k+1) h'->K ρ' h')->body.wp P (eG K (eA a Q)) (kp.zip (vals s k)) h)
  (done : ∀s h,J s n h->Q .normal (kp.zip (vals s n)) h):LC.wp P (forC a i c ks ks2 ce body) (eA a Q) ρ h:=by
 simp only[tt,LY,Lt,M3,bne_iff_ne,MD,beq_iff_eq,ne_eq]at hok;refine iD kp (λm ρ h=>∃s k,k<=n/\ρ=kp.zip (vals s k)/\m=n-k/\J s k h) n ⟨s0,0,by omega,h0,by omega,hj⟩ ?_;rintro m ρ h ⟨s,k,hk,rfl,rfl,hJ⟩ K hK;have hkill:bV (kp.zip (vals s k)) ks=kp.zip (vals s k):=lu λp hp=>(hok p.1 (zip_fst hp)).1.1;have hne : ∀p∈kp.zip (vals s k),p.1≠c:=λp hp=>(hok p.1 (zip_fst hp)).1.2;have hk2 : ∀v,bV (setE (kp.zip (vals s k)) c v) [c]=kp.zip (vals s k):=λv=>lg hne;have hlk : ∀v,look (setE (kp.zip (vals s k)) c v) c=Py v:=λv=>by rw[ag,if_pos rfl]
 simp only[rD,kQ,ja,gh,kt,ma,hb s k h hk hJ,LM,jB,lN,true_and,cW,hkill,ff,lB,oc,hlk,kN,hk2,rn,qU,nw,nf,if_true];refine⟨λhlt=>?_,λhge=>?_⟩
 ·have hlt':k<n:=by omega
  rw[lZ];refine round s k h hlt' hJ _ λs' ρ' h' hl he hJ'=>?_;simp only[kQ,ja,gh,kt,ma,kV,oc,hl,lN,true_and,LM,yL,LM,yF,jB,cW,ff,true_and];rw[bH P2 P2];refine hK (n-(k+1)) _ _ P2 ⟨s',k+1,by omega,?_,rfl,hJ'⟩;rw[<-he];refine mZ λt ht=>?_;rw[ag,ag,ah];split
  ·rfl
  rename_i hti;rcases(hok t ht).2 with e | e
  ·exact absurd e.symm hti
  rw[e];rfl
 have:k=n:=by omega
 subst this;exact done s h hJ
open Classical in
/-- Several of one's own, written no more. -/
theorem Owns.wY {W:View} {h:Heap} {o:Own} (w:Owns W h o) (S:Key->Bool) :
  ∃W':View,W.le W'/\Owns W' h (λk=>if S k then Pz else o k)/\∀{k:Key} {α:Type} [r:Rep α] {e:TypeId} {v:Value} {l:List α},S k=PC->o k=it e v l->SlRd W' v l:=by
 have hle:W.le (λb=>if ∃k i,S k=PC/\o k=Py i/\i.v.ownBlock=Py b then h[b]? else W b):=λb x hb=>by
  show(if _ then _ else _)=_;rw[if_neg]
  ·exact hb
  rintro⟨k,i,_,h2,h3⟩;rw[w.av k i h2 b h3]at hb;cases hb
 refine⟨λb=>if ∃k i,S k=PC/\o k=Py i/\i.v.ownBlock=Py b then h[b]? else W b,hle,?_,?_⟩
 ·refine⟨λb x hb=>?_,λk i hk=>?_,λk i hk b hb=>?_,λk k' i i' b hk hk'=>?_⟩
  ·split at hb
   ·exact hb
   exact w.wle b x hb
  ·split at hk
   ·cases hk
   exact @OwnT.mono i.α i.rep _ _ _ _ _ (w.own k i hk) _ hle
  ·split at hk
   ·cases hk
   rename_i hs;show(if _ then _ else _)=_;rw[if_neg]
   ·exact w.av k i hk b hb
   rintro⟨k',i',h1,h2,h3⟩;exact hs (w.dj k k' i i' b hk h2 hb h3▸h1)
  split at hk
  ·cases hk
  split at hk'
  ·cases hk'
  exact w.dj k k' i i' b hk hk'
 intro k α r e v l hs hk;refine(w.get hk).rd hle λb hb=>?_;rw[if_pos ⟨k,_,hs,hk,hb⟩]
theorem Owns.nils {W:View} {h:Heap} {o o':Own} (w:Owns W h o) (ho : ∀k i,o' k=Py i->o k=Py i\/(i.v = PA Pz 0 0/\@OwnT i.α i.rep W h i.e i.v i.l)):Owns W h o':=by
 have hnb : ∀{i:Item} {b:Nat},i.v = PA Pz 0 0->i.v.ownBlock=Py b->False:=λe hb=>by rw[e]at hb;simp[Value.ownBlock]at hb
 refine⟨w.wle,λk i hk=>?_,λk i hk b hb=>?_,λk k' i i' b hk hk' hb hb'=>?_⟩
 ·rcases ho k i hk with h1 | ⟨_,h1⟩
  ·exact w.own k i h1
  exact h1
 ·rcases ho k i hk with h1 | ⟨e,_⟩
  ·exact w.av k i h1 b hb
  exact(hnb e hb).elim
 rcases ho k i hk with h1 | ⟨e,_⟩
 ·rcases ho k' i' hk' with h2 | ⟨e,_⟩
  ·exact w.dj k k' i i' b h1 h2 hb hb'
  exact(hnb e hb').elim
 exact(hnb e hb).elim
end Go.Lft
namespace Go.Proofs.YtnfiilgdjpdlkaaGreatDoor
open Go Go.Lft
abbrev TgS:=List (List Int) × MS
def nK (x:TgS) (p b:Nat) (m:MS):TgS:=(x.1.set p (nth x.1 p++[(b:Int)]),m)
def tgA (s:List Int) (k:Nat) (x:TgS):TgS:=
 if aI s x.2.at_ 3=0 then nK x (aI s (x.2.at_+1) ((k+1:Nat):Int)).toNat (k+1) x.2.took.took
 else nK x k (k+1) x.2.took
def tgI (s:List Int) (n b:Nat) (x:TgS):TgS:=
 let t:=1+aI s x.2.at_ ((n:Int)-1)
 if t<=b then
  if aI s (x.2.at_+1) 2=0 then nK x b (min (b+1) (n-1)) x.2.took.took else nK x b t.toNat x.2.took.took
 else nK x b t.toNat x.2.took
def tgB (s:List Int) (n b:Nat) (x:TgS):TgS:=up (λ_=>tgI s n b) (if 1<n then(aI s x.2.at_ 6-3).toNat else 0) (x.1,x.2.took)
def oy (s:List Int) (n:Nat) (m:MS):TgS:=up (tgB s n) n (up (tgA s) (n-1) (List.replicate n [],m))
structure TgO (ri:Own) (o:Own) (vo:Value) (l:List (List Int)) (rv:List Raw):Prop where
 res : ∀k:Key,8<=k.1->o k=ri k
 top:o (3,0)=it T.aR vo rv
 len:rv.length=l.length
 row : ∀i,i<l.length->o (4,i)=it T.int (nth rv i).v (nth l i)
 els : ∀k:Key,3<=k.1->k.1<8->k≠(3,0)->(∀i,i<l.length->k≠(4,i))->o k=Pz
theorem TgO.put {ri:Own} {o:Own} {vo:Value} {l:List (List Int)} {rv:List Raw} (q:TgO ri o vo l rv) {p:Nat} (hp:p<l.length) {v':Value} {r:List Int}:TgO ri ((o.upd (4,p) (it T.int v' r)).upd (3,0) (it T.aR vo (rv.set p ⟨v'⟩))) vo (l.set p r) (rv.set p ⟨v'⟩):=by
 have hpr:p<rv.length:=by rw[q.len];exact hp
 refine⟨λk hk=>(Own.aB (by rintro rfl;simp at hk)).trans ((Own.aB (by rintro rfl;simp at hk)).trans (q.res k hk)),Own.ao,by simp[q.len],λi hi=>?_,λk h1 h8 h2 h3=>?_⟩
 ·have hi:i<l.length:=by simpa using hi
  have hir:i<rv.length:=by rw[q.len];exact hi
  rw[Own.aB Sa,bz hir,bz hi];by_cases e:p=i
  ·subst e;rw[Own.ao,if_pos rfl,if_pos rfl]
  rw[Own.aB (λe2=>e (by injection e2 with _ e2;exact e2.symm)),if_neg e,if_neg e];exact q.row i hi
 have h3 : ∀i,i<l.length->k≠(4,i):=λi hi=>h3 i (by simpa using hi);rw[Own.aB h2,Own.aB (h3 p hp)];exact q.els k h1 h8 h2 h3
def Tg (ri:Own) (s:List Int) (M:Nat) (vs:Value) (W:View) (vo:Value) (h:Heap) (x:TgS):Prop:=∃W' o rv,W.le W'/\Mk s M vs W' h o x.2/\TgO ri o vo x.1 rv
section
variable {s:List Int} {M:Nat} {vs:Value} {W:View} {vo:Value} {h:Heap} {x:TgS} {ri:Own}
theorem Tg.take (t:Tg ri s M vs W vo h x) {c:Nat} (hm:x.2.ok c) (hc:c<=1000000) {k:Int} (hk:0<k) (hk2:k<=1000000000) :
  az PE 34 #[PB (Py ⟨M,0,Pz⟩),Pv Pw k] h (λv h'=>v = Pv Pw (aI s x.2.at_ k)/\Tg ri s M vs W vo h' (x.1,x.2.took)):=by obtain⟨W',o,rv,g,w,q⟩:=t;refine(w.take (by have:=hm.at_;omega) hk hk2).mono ?_;rintro v h' ⟨e,o',w',f⟩;exact⟨e,W',o',rv,g,w',λk hk=>(f k P2).trans (q.res k hk),(f _ P4).trans q.top,q.len,λi hi=>(f _ (by show 3<=4;decide)).trans (q.row i hi),λk h1 h8 h2 h3=>(f _ h1).trans (q.els k h1 h8 h2 h3)⟩
theorem Tg.idx (t:Tg ri s M vs W vo h x) {k:IntKind} {i:Int} (h0:0<=i) (h1:i<x.1.length):Bn.ev (.idx 1) vo (.int k i)=Py (PB (Py ((slA vo).add i.toNat))):=by obtain⟨W',o,rv,g,w,q⟩:=t;exact(w.own.now q.top).idx1 rfl h0 (by rw[q.len];exact h1)
theorem Tg.put {po po2 po3:OP} (t:Tg ri s M vs W vo h x) {p:Nat} (hp:p<x.1.length) (hl:(nth x.1 p).length<=1000000) {b:Nat} (hb:b<=1000000) :
  ∃v:Value,ak (vw h) ((slA vo).add p)=Py v/\∀{ty ty2 ty3:TypeId} {a a1 a2:Operand} {c1 c2:Operand} {us:List (Nat × Value)} {us2:Value->List (Nat × Value)} {us3:Value->Value->List (Nat × Value)} {K:Value->Value->Value->Heap->Prop},
   asg us a = Pv Pw b->(∀u,asg (us2 u) a1=v)->(∀u,asg (us2 u) a2=u)->(∀u v',asg (us3 u v') c1 = PB (Py ((slA vo).add p)))->(∀u v',asg (us3 u v') c2=v')->(∀u v' h',Tg ri s M vs W vo h' (nK x p b x.2)->K u v' undef h')->
   @Lft.step po PE (.buildSlice T.aR 1 #[(0,a)]) ty us h λu h2=>@Lft.step po2 PE (.call ⟨.builtin .append,#[a1,a2],#[T.aR,T.aR]⟩) ty2 (us2 u) h2 λv' h3=>@Lft.step po3 PE (.store T.aR c1 c2) ty3 (us3 u v') h3 λw h4=>K u v' w h4:=by
 obtain⟨W',o,rv,g,w,q⟩:=t;have hpr:p<rv.length:=by rw[q.len];exact hp
 have hcell:=((w.own.now q.top).at hpr).raw;have hn:Rep.n Raw=1:=rfl;rw[hn,MA,<-aA hpr]at hcell;refine⟨_,hcell,fun{ty ty2 ty3 a a1 a2 c1 c2 us us2 us3 K} ha ha1 ha2 hc1 hc2 hK=>?_⟩;refine w.own.iN (k:=(4,p)) (α:=Int) (d:=(b:Int)) (q.row p hp) El.aR ha (bn.2 ⟨rfl,by constructor<;>omega⟩) P2 P2 ha1 ha2 λu v' h3 w3 _=>?_;have hv:=(w3.cells (k:=(4,p)) Own.ao).2;refine w3.bs (k:=(3,0)) (α:=Raw) (v:=vo) (l:=rv) (i:=p) (d:=⟨v'⟩) ((Own.aB Sa).trans q.top) P1 (by rw[hc1,hn,MA]) (hc2 u v') hpr (mE.2 ⟨rfl,hv⟩) λh4 w4 _=>hK u v' h4 ?_;obtain⟨vb,vl,lb,bb⟩:=w.box;exact⟨W',_,_,g,⟨w4,w.src,vb,vl,lb,bb.frame λk hk=>by rw[Own.aB (by rintro rfl;simp at hk),Own.aB (by rintro rfl;simp at hk)]⟩,q.put hp⟩
end
theorem xL {x:TgS} {p b:Nat} {m:MS}:(nK x p b m).1.length=x.1.length:=by simp[nK]
theorem C8 {x:TgS} {p b c:Nat} {m:MS} (h : ∀i,(nth x.1 i).length<=c) : ∀i,(nth (nK x p b m).1 i).length<=c+1:=by
 intro i;have hi:=h i;rcases Lr i x.1.length with hl | hl
 ·show(nth (x.1.set p _) i).length<=_;rw[bz hl];split
  ·rename_i e;subst e;rw[Lx,LP];omega
  omega
 rw[cL (by rw[xL];exact hl)];show 0<=_;omega
structure TgK (n c:Nat) (x:TgS):Prop where
 len:x.1.length=n
 row : ∀i,(nth x.1 i).length<=c
 ok:x.2.ok c
theorem TgK.mono {n c d:Nat} {x:TgS} (h:TgK n c x) (hd:c<=d):TgK n d x:=⟨h.len,λi=>LG (h.row i) hd,h.ok.mono hd⟩
theorem TgK.put {n c p b:Nat} {x:TgS} {m:MS} (h:TgK n c x) (hm:m.ok (c+2)):TgK n (c+2) (nK x p b m):=⟨xL.trans h.len,λi=>by have:=C8 (p:=p) (b:=b) (m:=m) h.row i;omega,hm⟩
theorem IX {s:List Int} {n c k:Nat} {x:TgS} (h:TgK n c x):TgK n (c+2) (tgA s k x):=by
 unfold tgA;split
 ·exact h.put h.ok.took.took
 exact h.put (h.ok.took.mono P2)
theorem I2 {s:List Int} {n c b:Nat} {x:TgS} (h:TgK n c x):TgK n (c+2) (tgI s n b x):=by
 unfold tgI;simp only;repeat' split
 ·exact h.put h.ok.took.took
 ·exact h.put h.ok.took.took
 exact h.put (h.ok.took.mono P2)
theorem yK {s:List Int} {n c:Nat} {x:TgS} (h:TgK n c x) : ∀k,TgK n (c+2*k) (up (tgA s) k x)
 | 0=>h
 | k+1=>(IX (yK h k)).mono P2
theorem BJ {s:List Int} {n c b:Nat} {x:TgS} (h:TgK n c x) : ∀k,TgK n (c+2*k) (up (λ_=>tgI s n b) k x)
 | 0=>h
 | k+1=>(I2 (BJ h k)).mono P2
theorem I7 {s:List Int} {n c b:Nat} {x:TgS} (h:TgK n c x):TgK n (c+10) (tgB s n b x):=by unfold tgB;have ht:=cI (s:=s) (at_:=x.2.at_) (n:=6) P4;have h1:TgK n (c+1) (x.1,x.2.took):=⟨h.len,λi=>by have:=h.row i;show(nth x.1 i).length<=_;omega,h.ok.took⟩;refine(BJ h1 _).mono ?_;split<;>omega
theorem Bh {s:List Int} {n c:Nat} {x:TgS} (h:TgK n c x) : ∀k,TgK n (c+10*k) (up (tgB s n) k x)
 | 0=>h
 | k+1=>(I7 (Bh h k)).mono P2
theorem AT {s:List Int} {M:Nat} {vs:Value} {W:View} {h:Heap} {o:Own} {m:MS} {ri:Own} (w:Mk s M vs W h o m) (hres : ∀k:Key,8<=k.1->o k=ri k) (ho : ∀k:Key,3<=k.1->k.1<8->o k=Pz) {n c:Nat} (hm:m.ok c) (hc:c<=1000) (hn1:1<=n) (hn2:n<=100) :
  az PE 50 #[PB (Py ⟨M,0,Pz⟩),Pv Pw n] h (λu h'=>∃W' o',W.le W'/\Mk s M vs W' h' o' (oy s n m).2/\(∀k:Key,8<=k.1->o' k=ri k)/\(∀k:Key,3<=k.1->k.1<8->o' k=Pz)/\SlRd W' u (oy s n m).1):=by
 refine au (args:=[PB (Py ⟨M,0,Pz⟩),Pv Pw n]) follows Tryz.func50 E.aG Pp λK hK=>?_;have htd:oy s n m=_:=rfl;dsimp only[L.aG,lkF,lkG];refine ab λz hz=>?_;simp;subst hz;refine ab λz hz=>?_;simp;refine ny (α:=Raw) (W:=W) (k:=.i64) (n:=n) (d:=⟨PA Pz 0 0⟩) El.jw Ri Ri ⟨rfl,rfl⟩ P2 P2 λvo h1 o1 m1 hle1 hb1=>?_;have t1:Tg ri s M vs W vo h1 (List.replicate n [],m):=by
  have w1:=w.own.add (k:=(3,0)) (ho _ P4 P4) o1 hle1 (λb hb=>by rw[hb1]at hb;cases hb;exact Lp _);have w2:=w1.nils (o':=λk=>if k.1=4/\k.2<n then it T.int (PA Pz 0 0) ([]:List Int) else o.upd (3,0) (it T.aR vo (List.replicate n (Raw.mk (PA Pz 0 0)))) k) λk i hk=>by
   split at hk
   ·cases hk;exact .inr ⟨rfl,OwnT.nil (α:=Int) W h1 T.int⟩
   exact .inl hk
  obtain⟨vb,vl,lb,bb⟩:=w.box;refine⟨W,_,List.replicate n ⟨PA Pz 0 0⟩,View.le_refl _,⟨w2,w.src,vb,vl,lb,bb.frame λk hk=>?_⟩,?_,rfl,by simp,λi hi=>?_,λk h1 h8 h2 h3=>?_⟩
  ·have h4:¬(k.1=4/\k.2<n):=by omega
   show(if _ then _ else _)=_;rw[if_neg h4,Own.aB (by rintro rfl;simp at hk)]
  ·intro k hk;show(if _ then _ else _)=_;rw[if_neg P2,Own.aB (by rintro rfl;simp at hk),hres k hk]
  ·have hi:i<n:=by simpa using hi
   show(if _ then _ else _)=_;rw[if_pos ⟨rfl,hi⟩,aC hi,aC hi]
  show(if _ then _ else _)=_;rw[if_neg,Own.aB h2,ho k h1 h8];rintro⟨e1,e2⟩;refine h3 k.2 (by simpa using e2) ?_;rw[<-e1]
 have k1:TgK n c (List.replicate n [],m):=⟨by simp,λi=>by
  rcases Lr i n with hi | hi
  ·rw[aC hi];show 0<=_;omega
  rw[cL (by simpa using hi)];show 0<=_;omega,hm⟩;clear m1 o1 w ho;obtain⟨x0,hx0⟩ : ∃x0:TgS,x0=(List.replicate n [],m):=⟨_,rfl⟩;rw[<-hx0]at t1 k1;have htd:oy s n m=up (tgB s n) n (up (tgA s) (n-1) x0):=by rw[hx0];rfl
 clear hx0;subst hz;refine ab λz hz=>?_;simp;refine vy [0,1,5,6] (fun(_:Unit) k=>[PB (Py ⟨M,0,Pz⟩),Pv Pw n,vo,Pv Pw ((k+1:Nat):Int)]) (λ_ k h2=>Tg ri s M vs W vo h2 (up (tgA s) k x0)) (n-1) 1 ()
  rfl P2 rfl t1 (λ_ _=>rfl) (λv k h2 hk m=>by simp;omega) ?_ ?_
 ·rintro _ k h2 hlt t2 K2 hK2;have kx:=yK (s:=s) k1 k;have e2:up (tgA s) (k+1) x0=tgA s k (up (tgA s) k x0):=rfl;rw[e2]at hK2;generalize up (tgA s) k x0=x at t2 kx hK2;have hxl:=kx.len;simp only[aL];refine ab λy hy=>?_;simp;rw[show IntKind.i64.wrap (k:Int)=k from bH P2 P2];subst hy;refine ab λy hy=>?_;have fin : ∀(p:Nat) (m':MS) (h':Heap) (ρ:Env),tgA s k x=nK x p (k+1) m'->p<n->Tg ri s M vs W vo h' (x.1,m')->Lft.look ρ 0=Py (PB (Py ⟨M,0,Pz⟩))->Lft.look ρ 1=Py (Pv Pw n)->Lft.look ρ 5=Py vo->Lft.look ρ 6=Py (Pv Pw ((k+1:Nat):Int))->Lft.look ρ 7=Py (Pv Pw p)->
    LC.wp PE y (eA 1 (eG K2 (eA 0 (eG (LC.wp PE z (dB [.tmp 4] K)) (dB [.tmp 4] K))))) ρ h':=by
   intro p m' h' ρ e hp t r0 r1 r5 r6 r7;subst hy;obtain⟨vr,hvr,put⟩:=t.put (p:=p) (b:=k+1) (by show p<x.1.length;omega) (by have:=kx.row p;show(nth x.1 p).length<=_;omega) P2;have hix:=t.idx (k:=.i64) (i:=p) P2 (by show(p:Int)<x.1.length;omega);simp only[LN]at hix;simp[ag,ah,r0,r1,r5,r6,r7,hix,hvr];refine put Sa P5 P5 (λ_ _=>by simp) (λ_ _=>by simp) λu v' h3 t3=>?_;refine hK2 () _ _ ?_ ?_ (by rw[e];exact t3)
   ·simp[ag,ah,r6]
   simp[bK,ag,ah,r0,r1,r5]
  have had:tgA s k x=_:=tgA.eq_1 s k x;refine ab λw hw=>?_;simp;refine af P1 (t2.take kx.ok P2 (k:=3) P4 P4) ?_;rintro _ h3 ⟨rfl,t3⟩;simp;subst hw;by_cases c3:aI s x.2.at_ 3=0
  ·rw[if_pos c3]at had;refine aW (by simp[c3]) ?_;simp;refine af P1 (t3.take kx.ok.took P2 (k:=((k+1:Nat):Int)) P2 P2) ?_;rintro _ h4 ⟨rfl,t4⟩;have hx:(x.1,x.2.took).2.at_=x.2.at_+1:=rfl;rw[hx];obtain⟨u0,u1⟩:=cI (s:=s) (at_:=x.2.at_+1) (n:=((k+1:Nat):Int)) P2;generalize aI s (x.2.at_+1) ((k+1:Nat):Int)=q at had u0 u1;refine fin q.toNat _ h4 _ had P2 t4 ?_ ?_ ?_ ?_ ?_;all_goals simp
   omega
  rw[if_neg c3]at had;refine aV (by simp[c3]) ?_;simp;refine fin k _ h3 _ had P2 t3 ?_ ?_ ?_ ?_ ?_;all_goals simp
 rintro _ h2 t2;have k2:=yK (s:=s) k1 (n-1);generalize up (tgA s) (n-1) x0=x1 at t2 k2 htd;simp;subst hz;refine ab λz hz=>?_;simp;refine cT [0,1,5,8] (fun(_:Unit) k=>[PB (Py ⟨M,0,Pz⟩),Pv Pw n,vo,Pv Pw k]) (λ_ k h3=>Tg ri s M vs W vo h3 (up (tgB s n) k x1)) n ()
  rfl P2 rfl t2 (λ_ _=>rfl) (λv k h3 hk m=>by simp) ?_ ?_
 ·rintro _ b h3 hlt t3 K2 hK2;have kx:=(Bh (s:=s) k2 b).mono (d:=3000) P2;have e3:up (tgB s n) (b+1) x1=tgB s n b (up (tgB s n) b x1):=rfl;rw[e3]at hK2;generalize up (tgB s n) b x1=x at t3 kx hK2;simp only[aL];refine ab λy hy=>?_;simp;refine af P1 (t3.take kx.ok P2 (k:=6) P4 P4) ?_;rintro _ h4 ⟨rfl,t4⟩;have hbd:tgB s n b x=_:=tgB.eq_1 s n b x;obtain⟨r0,r1⟩:=cI (s:=s) (at_:=x.2.at_) (n:=6) P4;generalize aI s x.2.at_ 6=r at hbd r0 r1;have kx1:TgK n 3001 (x.1,x.2.took):=⟨kx.len,λi=>by have:=kx.row i;show(nth x.1 i).length<=_;omega,kx.ok.took⟩;obtain⟨cnt,hcnt⟩ : ∃cnt:Nat,cnt=if 1<n then(r-3).toNat else 0:=⟨_,rfl⟩;have hc3:cnt<=3:=by rw[hcnt];split<;>omega
  rw[<-hcnt]at hbd;generalize (x.1,x.2.took)=x2 at t4 kx1 hbd;subst hy;refine ab λy hy=>?_;simp;subst hy;simp only[aL];have hw3:IntKind.i64.wrap (r-3)=r-3:=bH P2 P2;refine zb [0,1,5,8,9,10] (fun(_:Unit) k=>[PB (Py ⟨M,0,Pz⟩),Pv Pw n,vo,Pv Pw b,Pv Pw r,Pv Pw k]) (λ_ k h5=>Tg ri s M vs W vo h5 (up (λ_=>tgI s n b) k x2)) cnt ()
   rfl P2 rfl t4 (λ_ _=>rfl) (λv k h5 hk m=>by
    by_cases hn:1<n
    ·rw[if_pos hn]at hcnt;by_cases hk2:k<cnt
     ·have e1:(k:Int)<r-3:=by omega
      simp[hw3,e1,hk2];omega
     have e1:¬(k:Int)<r-3:=by omega
     simp[hw3,e1,hk2]
    rw[if_neg hn]at hcnt;have e2:¬k<cnt:=by omega
    by_cases e1:(k:Int)<r-3
    ·simp[hw3,e1,e2];omega
    simp[hw3,e1,e2]) ?_ ?_
  ·rintro _ k h5 hltk t5 K3 hK3;have hn2:1<n:=by
    rw[hcnt]at hltk;split at hltk
    ·assumption
    omega
   have kx3:=(BJ (s:=s) (b:=b) kx1 k).mono (d:=4000) P2;have e5:up (λ_=>tgI s n b) (k+1) x2=tgI s n b (up (λ_=>tgI s n b) k x2):=rfl;rw[e5]at hK3;generalize up (λ_=>tgI s n b) k x2=x at t5 kx3 hK3;have hxl:=kx3.len;have hid:tgI s n b x=_:=tgI.eq_1 s n b x;have hwn:IntKind.i64.wrap ((n:Int)-1)=(n:Int)-1:=bH P2 P2;simp only[aL];refine ab λy hy=>?_;simp[hwn];refine af P1 (t5.take kx3.ok P2 (k:=(n:Int)-1) P2 P2) ?_;rintro _ h6 ⟨rfl,t6⟩;obtain⟨q0,q1⟩:=cI (s:=s) (at_:=x.2.at_) (n:=(n:Int)-1) P2;generalize aI s x.2.at_ ((n:Int)-1)=q at hid q0 q1;have hwq:IntKind.i64.wrap (1+q)=1+q:=bH P2 P2;simp[hwq];subst hy;refine ab λy hy=>?_;refine gy (λρ h'=>∃(t:Nat) (m':MS) (v0 v:Value),tgI s n b x=nK x b t m'/\t<=1000/\Tg ri s M vs W vo h' (x.1,m')/\ρ=[(0,PB (Py ⟨M,0,Pz⟩)),(1,Pv Pw n),(5,vo),(8,Pv Pw b),(9,Pv Pw r),(10,Pv Pw k),(11,Pv Pw t),(57,Pv Pw q),(62,v0),(64,v)]) ?_ ?_
   ·intro K4 hK4;refine ab λw hw=>?_;by_cases c1:1+q<=b
    ·rw[if_pos c1]at hid;simp[c1];refine af P1 (t6.take kx3.ok.took P2 (k:=2) P4 P4) ?_;rintro _ h7 ⟨rfl,t7⟩;have hx:(x.1,x.2.took).2.at_=x.2.at_+1:=rfl;rw[hx];simp;subst hw;by_cases c2:aI s (x.2.at_+1) 2=0
     ·rw[if_pos c2]at hid;refine aW (by simp[c2]) ?_;simp;refine hK4 _ _ ⟨min (b+1) (n-1),_,.bool PC,Pv Pw (aI s (x.2.at_+1) 2),hid,by omega,t7,?_⟩;rw[hwn,show IntKind.i64.wrap ((b:Int)+1)=(b:Int)+1 from bH P2 P2];rw[show(if(n:Int)-1<(b:Int)+1 then(n:Int)-1 else(b:Int)+1)=((min (b+1) (n-1):Nat):Int) by split<;>omega]
     rw[if_neg c2]at hid;refine aV (by simp[c2]) ?_;simp;refine hK4 _ _ ⟨(1+q).toNat,_,.bool PC,Pv Pw (aI s (x.2.at_+1) 2),hid,by omega,t7,?_⟩;rw[show(((1+q).toNat:Nat):Int)=1+q by omega]
    rw[if_neg c1]at hid;simp[c1];subst hw;refine aV Sa ?_;simp;refine hK4 _ _ ⟨(1+q).toNat,_,.bool PD,undef,hid,by omega,t6,?_⟩;rw[show(((1+q).toNat:Nat):Int)=1+q by omega]
   rintro _ h7 ⟨t,m',v0,v,e,ht,t7,rfl⟩;subst hy;obtain⟨vr,hvr,put⟩:=t7.put (p:=b) (b:=t) (by show b<x.1.length;omega) (by have:=kx3.row b;show(nth x.1 b).length<=_;omega) P2;have hix:=t7.idx (k:=.i64) (i:=b) P2 (by show(b:Int)<x.1.length;omega);simp only[LN]at hix;simp[hix,hvr];refine put rfl (λ_=>rfl) (λ_=>rfl) (λ_ _=>rfl) (λ_ _=>rfl) λu v' h8 t8=>?_;exact hK3 () _ _ rfl rfl (by rw[e];exact t8)
  rintro _ h5 t5;simp;refine hK2 () _ _ rfl rfl (by rw[hbd];exact t5)
 rintro _ h3 t3;rw[<-htd]at t3;simp;subst hz;simp;refine hK _ _ ?_;obtain⟨W',o,rv,g,w,q⟩:=t3;obtain⟨W2,g2,w2,fr⟩:=w.own.wY (λk=>decide (3<=k.1)&&decide (k.1<8));obtain⟨vb,vl,lb,bb⟩:=w.box;refine⟨W2,_,Pt g g2,⟨w2,w.src.mono g2,vb,vl,lb,bb.frame λk hk=>?_⟩,?_,λk hk h8=>by simp[hk,h8],?_⟩
 ·have:¬3<=k.1:=by omega
  simp[this]
 ·intro k hk;have h1:3<=k.1:=by omega
  have h2:¬k.1<8:=by omega
  simp[h2];exact q.res k hk
 refine yS (fr (k:=(3,0)) P4 q.top) rfl q.len λi h1 h2 cs hr=>?_;obtain⟨e,_⟩:cs=[(rv[i]).v]/\_:=hr;refine⟨_,e,?_⟩;have:=fr (k:=(4,i)) Sa (q.row i h2);rwa [aA h1,aA h2]at this
end Go.Proofs.YtnfiilgdjpdlkaaGreatDoor
namespace Go.Proofs.YtnfiilgdjpdlkaaGreatDoor
open Go Go.Lft
section
structure Grw (b k:Nat) (m m':MS):Prop where
 at0:m.at_<=m'.at_
 at1:m'.at_<=m.at_+k
 n0:m.next<=m'.next
 n1:m'.next<=m.next+k
 ps:m'.ps=m.ps
 live:m'.live.length<=m.live.length+k
 len:m'.blocks.length=m.blocks.length
 els : ∀i,i≠b->nth m'.blocks i=nth m.blocks i
 ins:(nth m'.blocks b).ins.length<=(nth m.blocks b).ins.length+k
 phis:(nth m'.blocks b).phis=(nth m.blocks b).phis
 term:(nth m'.blocks b).term=(nth m.blocks b).term
variable {s:List Int} {m m' m2:MS} {b c k l:Nat}
theorem Grw.refl:Grw b 0 m m:=⟨Lp _,Lp _,NX _,by omega,rfl,Lp _,rfl,λ_ _=>rfl,Lp _,rfl,rfl⟩
theorem Grw.trans (g:Grw b k m m') (h:Grw b l m' m2):Grw b (k+l) m m2:=
 ⟨LG g.at0 h.at0,by have:=g.at1;have:=h.at1;omega,Int.le_trans g.n0 h.n0,by have:=g.n1;have:=h.n1;omega,h.ps.trans g.ps,by have:=g.live;have:=h.live;omega,h.len.trans g.len,λi hi=>(h.els i hi).trans (g.els i hi),by have:=g.ins;have:=h.ins;omega,h.phis.trans g.phis,h.term.trans g.term⟩
theorem Grw.mono(g:Grw b k m m')(h:k<=l):Grw b l m m':=
 ⟨g.at0,by have:=g.at1;omega,g.n0,by have:=g.n1;omega,g.ps,by have:=g.live;omega,g.len,g.els,by have:=g.ins;omega,g.phis,g.term⟩
theorem Grw.took (g:Grw b k m m'):Grw b (k+1) m m'.took:=g.trans ⟨by show _<=m'.at_+1;omega,Lp _,NX _,by show m'.next<=_;omega,rfl,by show m'.live.length<=_;omega,rfl,λ_ _=>rfl,by show(nth m'.blocks b).ins.length<=_;omega,rfl,rfl⟩
theorem Grw.aK (g:Grw b k m m'):Grw b (k+1) m m'.aK:=g.trans ⟨Lp _,by show m'.at_<=_;omega,by show _<=m'.next+1;omega,NX _,rfl,by show m'.live.length<=_;omega,rfl,λ_ _=>rfl,by show(nth m'.blocks b).ins.length<=_;omega,rfl,rfl⟩
theorem Grw.add {i:InsD} (hb:b<m.blocks.length) (g:Grw b k m m'):Grw b (k+2) m (m'.add b i):=by
 have hb':b<m'.blocks.length:=by rw[g.len];exact hb
 have e:nth (m'.add b i).blocks b={ nth m'.blocks b with ins:=(nth m'.blocks b).ins++[i] }:=by show nth (m'.blocks.set b _) b=_;rw[bz hb',if_pos rfl]
 refine g.trans ⟨Lp _,by show m'.at_<=_;omega,NX _,by show m'.next<=_;omega,rfl,?_,lS,λj hj=>?_,?_,by rw[e],by rw[e]⟩
 ·show(m'.live++cr i).length<=_;have h2:(cr i).length<=2:=by
   unfold cr;repeat' split
   all_goals simp
  rw[Lx];omega
 ·show nth (m'.blocks.set b _) j=_;rcases Lr j m'.blocks.length with hl | hl
  ·rw[bz hl,if_neg (λe=>hj e.symm)]
  rw[cL (by simpa using hl),cL hl]
 rw[e];show((nth m'.blocks b).ins++[i]).length<=_;rw[Lx,LP];omega
theorem Grw.constant {n:Int} (hb:b<m.blocks.length) (g:Grw b k m m'):Grw b (k+3) m (m'.constant b n):=g.aK.add hb
theorem Grw.two {op x y:Int} (hb:b<m.blocks.length) (g:Grw b k m m'):Grw b (k+3) m (m'.two b op x y):=g.aK.add hb
theorem Grw.jF(hb:b<m.blocks.length)(g:Grw b k m m'):Grw b (k+10) m (aJ s m' b).2:=by
 unfold aJ;repeat' split
 ·exact(g.took.took.constant hb).mono P2
 ·exact(g.took.took.took.took.took.constant hb).mono P2
 exact(g.took.took.took).mono P2
theorem Grw.addr(hb:b<m.blocks.length)(g:Grw b k m m'):Grw b (k+30) m (nR s m' b).2:=by
 unfold nR;simp only;split
 ·exact(((((g.took.constant hb).took.jF hb).constant hb).two hb).two hb).mono P2
 exact((g.took.constant hb).took).mono P2
theorem Grw.off(g:Grw b k m m'):Grw b (k+4) m (offS s m').2:=by
 unfold offS;split
 ·exact g.took.took.took.took
 exact g.took.took.mono P2
theorem Grw.memory{st:Bool}(hb:b<m.blocks.length)(g:Grw b k m m'):Grw b (k+60) m (iL s m' b st):=by
 unfold iL;simp only;split
 ·exact((((g.addr hb).off.jF hb)).add hb).mono P2
 exact(((g.addr hb).off.aK).add hb).mono P2
theorem Grw.bin{op:Int}(hb:b<m.blocks.length)(g:Grw b k m m'):Grw b (k+60) m (binS s m' b op):=by
 unfold binS;simp only;split
 ·exact((((g.jF hb).jF hb).took.took.constant hb).two hb).mono P2
 exact(((g.jF hb).jF hb).took.two hb).mono P2
theorem Grw.div(hb:b<m.blocks.length)(g:Grw b k m m'):Grw b (k+60) m (divS s m' b):=by
 unfold divS;simp only;split
 ·exact((((g.jF hb).took.constant hb).took.took.constant hb).two hb).mono P2
 exact(((g.jF hb).took.constant hb).took.two hb).mono P2
theorem Grw.args (hb:b<m.blocks.length) {x:List Int × MS} (g:Grw b k m x.2) : ∀n,Grw b (k+10*n) m (up (gK s b) n x).2
 | 0=>g
 | n+1=>((Grw.args hb g n).jF hb).mono P2
theorem Grw.call(hb:b<m.blocks.length)(g:Grw b k m m'):Grw b (k+70) m (nT s m' b):=by unfold nT;simp only;have ht:=cI (s:=s) (at_:=m'.at_) (n:=5) P4;have g2:=Grw.args (s:=s) hb (x:=([],m'.took)) g.took (aI s m'.at_ 5).toNat;exact(g2.aK.took.add hb).mono P2
theorem Grw.gE(hb:b<m.blocks.length)(g:Grw b k m m'):Grw b (k+80) m (aP s b m'):=by
 unfold aP;simp only;repeat' split
 ·exact(g.took.bin hb).mono P2
 ·unfold ltuS;exact(((g.took.jF hb).jF hb).two hb).mono P2
 ·exact(g.took.div hb).mono P2
 ·exact(g.took.memory hb).mono P2
 ·exact(g.took.call hb).mono P2
 ·unfold xG;exact(((g.took.jF hb).jF hb).aK.aK.add hb).mono P2
 exact(g.took.took.took.constant hb).mono P2
theorem Grw.gT (hb:b<m.blocks.length) (g:Grw b k m m') : ∀n,Grw b (k+80*n) m (up (λ_=>aP s b) n m')
 | 0=>g
 | n+1=>((Grw.gT hb g n).gE hb).mono P2
theorem Grw.HY{to:List Int}(hb:b<m.blocks.length)(g:Grw b k m m'):Grw b (k+40) m (ia s to b m').2:=by
 unfold ia;simp only;repeat' split
 ·exact g.took.took.mono P2
 ·exact(g.took.jF hb).mono P2
 ·exact g.took.mono P2
 ·exact g.mono P2
 ·exact((((g.jF hb).took.jF hb)).aK.took.add hb).mono P2
 ·exact(g.jF hb).took.mono P2
 exact(((g.jF hb).constant hb).two hb).mono P2
def MS.f (m:MS):aj:=⟨m.ps,m.blocks⟩
def MS.lC (m:MS) (b:Nat) (l:List Int):MS:={ m with blocks:=m.blocks.set b { nth m.blocks b with term:={ (nth m.blocks b).term with to:=l } } }
def gB (s:List Int) (m:MS) (b:Nat):Int:=
 if 1<(cG m.f b).length then aI s m.at_ 4 else if aI s m.at_ 6=0 then 1 else 0
def eB (b:Nat) (m:MS):MS:={ m.aK with blocks:=m.blocks.set b { nth m.blocks b with phis:=(nth m.blocks b).phis++[⟨m.next,[]⟩] } }
def eE (s:List Int) (k:Nat) (x:List Int × MS):List Int × MS:=
 (x.1.set (k+1) (gB s x.2 (k+1)),up (λ_=>eB (k+1)) (gB s x.2 (k+1)).toNat x.2.took)
def pQ (f:aj) (n:Nat):List BL:=rows (λa=>dO f (a:Int)) n
def rV (dn:BL) (away:List BL) (b n:Nat):Bool:=up (λa r=>r&&(decide (a=b)||nth dn a||nth (nth away a) b)) n (!nth dn b)
def gN (m:MS) (dn:BL) (away:List BL) (b:Nat) (a:Nat) (l:List Int):List Int:=
 if decide (a≠b)&&(!nth dn a||nth (nth away a) b) then l
 else l++(nth m.blocks a).phis.map PhiD.dst++(nth m.blocks a).ins.flatMap cr
def lY (m:MS) (dn:BL) (away:List BL) (b n:Nat):List Int:=up (gN m dn away b) n (rows (λi=>(i:Int)) m.ps.toNat)
def iH (s:List Int) (to:List (List Int)) (n:Nat) (dn:BL) (away:List BL) (b:Nat) (m:MS):MS:=
 let m1:MS:={ m with live:=lY m dn away b n }
 oA s (nth to b) b (up (λ_=>aP s b) (aI s m1.at_ 7).toNat m1.took)
def cu (s:List Int) (to:List (List Int)) (n:Nat) (b:Nat) (x:BL × MS):BL × MS:=
 if rV x.1 (pQ x.2.f n) b n then(x.1.set b PC,iH s to n (x.1.set b PC) (pQ x.2.f n) b x.2) else x
def dt (s:List Int) (p:List Int) (k:Nat) (x:List InD × MS):List InD × MS:=
 let b:=(nth p k).toNat
 let l:=gR x.2.f b
 let r:List Int × MS:=if l.length=0 then([x.2.next],x.2.took.took.constant b (ke s x.2)) else(l,x.2)
 (x.1++[⟨nth p k,nth r.1 (aI s r.2.at_ r.1.length).toNat⟩],r.2.took)
def MS.qT (m:MS) (b i:Nat) (l:List InD):MS:={ m with blocks:=m.blocks.set b { nth m.blocks b with phis:=(nth m.blocks b).phis.set i { nth (nth m.blocks b).phis i with ins:=l } } }
def phi3 (s:List Int) (b:Nat) (p:List Int) (i:Nat) (m:MS):MS:=(up (dt s p) p.length ([],m)).2.qT b i (up (dt s p) p.length ([],m)).1
def blk3 (s:List Int) (phis:List Int) (k:Nat) (m:MS):MS:=up (phi3 s (k+1) (cG m.f ((k+1:Nat):Int))) (nth phis (k+1)).toNat m
def uY (s:List Int):MS:=⟨2,aI s 0 5,[],aI s 0 5,[]⟩
def bL (s:List Int):Nat:=(1+aI s 1 9).toNat
def iu (s:List Int):TgS:=oy s (bL s) (uY s)
def qW:BlkD:=⟨[],[],⟨0,[],[],⟨0⟩⟩⟩
def qR (s:List Int):MS:=up (λb m=>m.lC b (nth (iu s).1 b)) (bL s) { (iu s).2 with blocks:=List.replicate (bL s) qW }
def jg (s:List Int):List Int × MS:=up (eE s) (bL s-1) (List.replicate (bL s) 0,qR s)
def xK (s:List Int):BL × MS:=up (λ_=>up (cu s (iu s).1 (bL s)) (bL s)) (bL s) (List.replicate (bL s) PD,(jg s).2)
def tD (s:List Int):MS:=up (blk3 s (jg s).1) (bL s-1) (xK s).2
def ko (s:List Int):aj:=(tD s).f
end
section
variable {s:List Int} {M:Nat} {vs:Value} {W0:View} {h:Heap} {o0:Own} {m:MS} {u:Value} {ds:List Int}
structure Reads (M:Nat) (m:MS) (h:Heap) (vb vl:Value):Prop where
 ps:ak (vw h) ⟨M,2,Pz⟩=Py (Pv Pw m.ps)
 nx:ak (vw h) ⟨M,4,Pz⟩=Py (Pv Pw m.next)
 cb:ak (vw h) ⟨M,3,Pz⟩=Py vb
 cl:ak (vw h) ⟨M,5,Pz⟩=Py vl
 f:Un.ev (vw h) (.bU 2) (PB (Py ⟨M,2,Pz⟩))=Py (.agg #[Pv Pw m.ps,vb])
 blk:SlRd (vw h) vb m.blocks
 live:SlRd (vw h) vl m.live
variable{vb vl:Value}
theorem Reads.rd(r:Reads M m h vb vl)(hp:I64 m.ps):Rd (vw h) (.agg #[Pv Pw m.ps,vb]) m.f:=⟨_,rfl,[Pv Pw m.ps],[vb],rfl,⟨rfl,hp⟩,vb,rfl,r.blk⟩
variable{W:View}
theorem Mk.reads{o:Own}(w:Mk s M vs W h o m){lb:List BlkM}(bb:MkB M vs m o vb vl lb):Reads M m h vb vl:=by
 have c2:ak (vw h) ⟨M,2,Pz⟩=Py (Pv Pw m.ps):=bb.cell w.own (i:=2) P4;have c3:ak (vw h) ⟨M,3,Pz⟩=Py vb:=bb.cell w.own (i:=3) P4;refine⟨c2,bb.cell w.own (i:=4) P4,c3,bb.cell w.own (i:=5) P4,?_,?_,w.own.now bb.live⟩
 ·have hat:=w.own.uO bb.box;obtain⟨cs,⟨cur,e,fz,g1,g2,g3⟩,he,_⟩:=w.own.atW bb.box;have:gX (vw h) ⟨M,2,Pz⟩ [Pv Pw m.ps,vb]:=⟨cur,e,fz,rfl,g2,by
   have g3:(cur.toList.drop 0).take cs.length=cs:=g3;have he:cs=mkL vs m.at_ m.ps vb m.next vl:=he;rw[M9]at g3;have hd:cs.drop 2=(cur.toList.drop 2).take (cs.length-2):=by have:=congrArg (List.drop 2) g3;rw[MV]at this;exact this.symm
   have hl:cs.length=6:=by rw[he];rfl
   have h2:(cs.drop 2).take 2=(cur.toList.drop 2).take 2:=by rw[hd,hl,MX];rfl
   show(cur.toList.drop 2).take 2=_;rw[<-h2,he];rfl⟩;have:=fK this 2 0 #[] rfl;simp only[Un.ev,vP,LM];rw[this];simp
 refine yS (w.own.now bb.blk) rfl bb.len λi h1 h2 cs hr=>?_;have:=zi hr (p:=(nth m.blocks i).phis) (i:=(nth m.blocks i).ins) (by have:=w.own.now (bb.phis i h2);rwa [aA h1]at this) (by have:=w.own.now (bb.ins i h2);rwa [aA h1]at this);have ht:=bb.term i h2;rw[aA h1]at ht;rw[ht]at this;rw[<-aA h2];exact this
theorem Nz.reads (n:Nz s M vs W0 h o0 m u ds) : ∃vb vl,Reads M m h vb vl:=by obtain⟨W,o,g,w,f,sl⟩:=n;obtain⟨vb,vl,lb,bb⟩:=w.box;exact⟨vb,vl,w.reads bb⟩
variable{α:Type}
theorem Nz.at[Rep α](n:Nz s M vs W0 h o0 m u ds){k:Key}(h3:3<=k.1){e:TypeId}{v:Value}{l:List α}(hk:o0 k=it e v l):SlRd (vw h) v l:=by obtain⟨W,o,g,w,f,sl⟩:=n;exact w.own.now ((f k h3).trans hk)
end
theorem BlkM.DH:Part BlkM (List Int) 4 (λd=>d.term.to) (λd x=>{ d with term:={ d.term with to:=x } }):=(Part.snd (Part.snd ((Part.snd (Part.snd (Part.fst Part.all))).via (α:=Cat Int (Cat (List Int) (Cat (List Int) I32))) (f:=λd:cM=>Cat.mk d.kind (Cat.mk d.args (Cat.mk d.to d.imm))) (g':=cM.to) (s':=λd x=>{ d with to:=x }) (λ_=>rfl) λ_ _=>rfl))).via (λ_=>rfl) λ_ _=>rfl
section
variable {s:List Int} {M:Nat} {vs:Value} {W0:View} {h:Heap} {o0:Own} {m:MS} {u:Value} {ds:List Int}
variable{po:OP}{α:Type}{ty:TypeId}{us:List (Nat × Value)}
theorem Nz.GL[r:Rep α](n:Nz s M vs W0 h o0 m u ds){k:Key}{e:TypeId}{i:Nat}{v:Value}{l:List α}{t:TypeId}{x y:Operand}{d:α}{w:Value}{K:Value->Heap->Prop}(h3:3<=k.1)(hk:o0 k=it e v l)(hi:i<l.length)(hsz:cQ PE t=Py (Rep.n α))(hx:asg us x = PB (Py ((slA v).add (i*Rep.n α))))(hy:asg us y=w)(hr : ∀W,Rd W w d)(hK : ∀h',Nz s M vs W0 h' (o0.upd k (it e v (l.set i d))) m u ds->K undef h'):@Lft.step po PE (.store t x y) ty us h K:=by
 obtain⟨W,o,g1,wk,f,sl⟩:=n;refine wk.own.bs (k:=k) (v:=v) (l:=l) (i:=i) (d:=d) ((f k h3).trans hk) hsz hx hy hi (hr W) λh' w' _=>hK h' ?_;obtain⟨vb,vl,lb,bb⟩:=wk.box;refine⟨W,_,g1,⟨w',wk.src,vb,vl,lb,bb.frame λq hq=>Own.aB (by rintro rfl;omega)⟩,λq hq=>?_,sl⟩;unfold Own.upd;split
 ·rfl
 exact f q hq
variable{W:View}{vb vl:Value}{b:Nat}{ty2:TypeId}
theorem Mk.J9{o:Own}(w:Mk s M vs W h o m){lb:List BlkM}(bb:MkB M vs m o vb vl lb){l:List Int}{v:Value}{x y:Operand}{K:Value->Heap->Prop}(hb:b<m.blocks.length)(hsz:cQ PE ty2=Py 1)(hx:asg us x = PB (Py (((slA vb).add (b*6)).add 4)))(hy:asg us y=v)(hr:SlRd W v l)(hK : ∀h' o',Mk s M vs W h' o' (m.lC b l)->(∀k:Key,3<=k.1->o' k=o k)->K undef h'):@Lft.step po PE (.store ty2 x y) ty us h K:=by
 have hbl:b<lb.length:=by rw[bb.len];exact hb
 refine w.own.pk (k:=(0,2)) (α:=BlkM) BlkM.DH (v:=vb) (l:=lb) (i:=b) (d:=l) bb.blk hsz hx hy hbl (dN.2 hr) λh7 w7 _=>?_;have ht:=bb.term b hb;rw[aA hbl]at ht;refine hK h7 _ ⟨w7,w.src,vb,vl,_,bb.fG hb (x':={ nth m.blocks b with term:={ (nth m.blocks b).term with to:=l } }) (y':={ lb[b]with term:={ lb[b].term with to:=l } }) (by rw[<-ht]) Own.ao ?_ ?_ λq h1 _ _=>Own.aB h1⟩ (mQ P4)
 ·rw[Own.aB Sa,bb.phis b hb,aA hbl]
 rw[Own.aB Sa,bb.ins b hb,aA hbl]
end
theorem rp {to:List (List Int)} {m:MS} : ∀k,(up (λb m=>MS.lC m b (nth to b)) k m).blocks.length=m.blocks.length
 | 0=>rfl
 | k+1=>by show(List.set _ _ _).length=_;rw[LU];exact rp k
variable{M n:Nat}{vs vt vr:Value}{W0:View}{o0:Own}{to:List (List Int)}{Q:Post}{ρ:Env}
theorem HE{s:List Int}{h:Heap}{m:MS}(hto:SlRd W0 vt to)(hn:to.length=n)(x:Nx s M vs W0 h o0 m)(hlen:m.blocks.length=n)(hn2:n<=100)(h0:bK [2,3,4,5,6] ρ=[(2,vr),(3,PB (Py ⟨M,0,Pz⟩)),(4,Pv Pw n),(5,vt),(6,Pv Pw 0)])(hQ : ∀h',Nx s M vs W0 h' o0 (up (λb m=>m.lC b (nth to b)) n m)->Q .normal [(2,vr),(3,PB (Py ⟨M,0,Pz⟩)),(4,Pv Pw n),(5,vt),(6,Pv Pw n)] h'):
  LC.wp PE (.block 0 (.loop L.aq.l1)) Q ρ h:=by
 simp only[aL];refine cT [2,3,4,5,6] (fun(_:Unit) k=>[vr,PB (Py ⟨M,0,Pz⟩),Pv Pw n,vt,Pv Pw k]) (λ_ k h2=>Nx s M vs W0 h2 o0 (up (λb m=>m.lC b (nth to b)) k m)) n ()
  rfl P2 h0 x (λ_ _=>rfl) (λv k h2 hk m=>by simp) ?_ ?_
 ·rintro _ b h2 hlt x2 K2 hK2;have hlb:(up (λb m=>MS.lC m b (nth to b)) b m).blocks.length=n:=(rp b).trans hlen;have e2:up (λb m=>MS.lC m b (nth to b)) (b+1) m=(up (λb m=>MS.lC m b (nth to b)) b m).lC b (nth to b):=rfl;rw[e2]at hK2;generalize up (λb m=>MS.lC m b (nth to b)) b m=m2 at x2 hK2 hlb;obtain⟨rv,hrv⟩:=hto.rows;obtain⟨hr1,hr2⟩:=hrv b P2;obtain⟨W,o,g,w,f⟩:=x2;obtain⟨vb,vl,lb,bb⟩:=w.box;have rd:=w.reads bb;have ito:=(hto.mono g).mono w.own.wle;simp only[aL];refine aT (vw h2) Ps ?_;simp(disch:=omega)[rd.cb,rd.blk.idxn (N:=6) rfl,ito.idx1 rfl,hr1 _ (Pt g w.own.wle)];refine w.J9 bb (b:=b) (l:=nth to b) P2 P1 rfl rfl (hr2.mono g) λh3 o3 w3 f3=>?_;exact hK2 () _ _ rfl rfl ⟨W,o3,g,w3,λk hk=>(f3 k hk).trans (f k hk)⟩
 rintro _ h2 x2;exact hQ h2 x2
theorem sub_le{H K L:View}(h:H.sub K)(k:K.le L):H.sub L:=λb o hb=>by obtain⟨o',h1,h2⟩:=h b o hb;exact⟨o',k _ _ h1,h2⟩
variable{W:View}
theorem Owns.EA{h:Heap}{o:Own}{k:Key}{B:Nat}{e:TypeId}{l:List Value}(w:Owns W h o)(hk:o k=bx e B (RawN.mk (n:=n) l)): ∃cur,h[B]? = Py (.cells cur e (0,0))/\∃r,cur.toList=l++r:=by
 obtain⟨hb,xs,⟨hl,hown⟩,hel⟩:=w.get (k:=k) (v:=PA (Py ⟨B,0,Pz⟩) 1 1) (l:=[RawN.mk (n:=n) l]) hk;have h0:=hel 0 Sa;simp only[NL,M9,M6,LP,OY]at h0 hl;rw[Lw P2]at h0;obtain⟨h0,_,_⟩:xs=l/\_:=h0;subst h0;rcases hown with⟨h1,_⟩ | ⟨g,cap,cur,h1,h2,h3,h4,h5,h6⟩
 ·cases h1
 simp only[Value.slice.injEq,Ln,Addr.mk.injEq]at h1;obtain⟨⟨rfl,_⟩,_⟩:=h1;refine⟨cur,h2,cur.toList.drop (1*Rep.n (RawN n)),?_⟩;have h6:cur.toList.take (1*Rep.n (RawN n))=xs:=by simpa using h6
 rw[<-h6,Nd]
section
variable {s:List Int} {M:Nat} {vs:Value} {W:View} {h:Heap} {o:Own} {m:MS} {vb vl:Value} {lb:List BlkM}
theorem MkB.FQ(w:Owns W h o)(bb:MkB M vs m o vb vl lb): ∃H:View,H.sub (vw h)/\ak H ⟨M,3,Pz⟩=Py vb/\SlRd H vb lb/\
  ∀h2 o2,Owns W h2 o2->MkB M vs m.aK o2 vb vl lb->(∀X:View,X.le (vw h)->X M=Pz->X.le (vw h2))->∃X:View,H.sub X/\W.le X/\X.le (vw h2)/\SlRd X vb lb/\∀i,i<m.blocks.length->Av X (nth lb i).phis.v:=by
 obtain⟨cur,hM,r,hr⟩:=Owns.EA w bb.box;have aM:=w.av (0,0) _ bb.box;have aM:W M=none:=aM M rfl;have avb:=w.av (0,2) _ bb.blk;have hne : ∀b,vb.ownBlock=Py b->b≠M:=λb hb e=>by have:=w.dj (0,2) (0,0) _ _ b bb.blk bb.box hb (by rw[e];rfl);simp at this
 obtain⟨w6,s6⟩:=w.freeze bb.blk;have hYM:(W.plus vb h) M=none:=by unfold View.plus;rw[if_neg (λe=>hne M e rfl)];exact aM
 have hYle:(W.plus vb h).le (vw h):=w6.wle;let P:Obj:=.cells #[vs,Pv Pw m.at_,Pv Pw m.ps,vb] T.aY (0,0);have hpre : ∀{c:Array Value} {r:List Value} {nx:Int},c.toList=mkL vs m.at_ m.ps vb nx vl++r->(Obj.cells c T.aY (0,0)=P\/∃c1 c2 t fz,P = .cells c1 t fz/\Obj.cells c T.aY (0,0) = .cells c2 t fz/\∃r:List Value,c2.toList=c1.toList++r):=fun{c r nx} hc=>.inr ⟨_,c,_,_,rfl,rfl,[Pv Pw nx,vl]++r,by rw[hc];rfl⟩;refine⟨λb=>if b=M then Py P else(W.plus vb h) b,λb x hb=>?_,?_,?_,λh2 o2 w2 b2 keep=>?_⟩
 ·dsimp only at hb;split at hb
  ·rename_i e;cases hb;subst e;exact⟨_,hM,hpre hr⟩
  exact⟨x,hYle b x hb,.inl rfl⟩
 ·simp[ak,P]
 ·refine s6.mono λb x hb=>?_;show(if b=M then Py P else(W.plus vb h) b)=_;rw[if_neg]
  ·exact hb
  rintro rfl;rw[hYM]at hb;cases hb
 obtain⟨cur2,hM2,r2,hr2⟩:=Owns.EA w2 b2.box;have hY2:=keep _ hYle hYM;refine⟨λb=>if b=M then h2[M]? else(W.plus vb h) b,λb x hb=>?_,λb x hb=>?_,λb x hb=>?_,s6.mono λb x hb=>?_,λi hi b hb=>?_⟩
 ·dsimp only at hb;split at hb
  ·rename_i e;cases hb;subst e;exact⟨_,by simp[hM2],hpre hr2⟩
  rename_i e;exact⟨x,by simpa[e]using hb,.inl rfl⟩
 ·have e:b≠M:=by rintro rfl;rw[aM]at hb;cases hb
  show(if b=M then h2[M]? else(W.plus vb h) b)=_;rw[if_neg e];exact jm avb b x hb
 ·dsimp only at hb;split at hb
  ·rename_i e;subst e;exact hb
  exact hY2 b x hb
 ·have e:b≠M:=by rintro rfl;rw[hYM]at hb;cases hb
  show(if b=M then h2[M]? else(W.plus vb h) b)=_;rw[if_neg e];exact hb
 have e:b≠M:=λe=>by have:=w.dj (1,i) (0,0) _ _ b (bb.phis i hi) bb.box hb (by rw[e];rfl);simp at this
 show(if b=M then h2[M]? else(W.plus vb h) b)=_;rw[if_neg e];exact w6.av (1,i) _ ((Own.aB Sa).trans (bb.phis i hi)) b hb
theorem Mk.IB(w:Mk s M vs W h o m)(bb:MkB M vs m o vb vl lb)(h0:0<=m.next)(h1:m.next<=1000000000):
  az PE 52 #[PB (Py ⟨M,0,Pz⟩)] h (λu h'=>u = Pv Pw m.next/\∃o',Mk s M vs W h' o' m.aK/\MkB M vs m.aK o' vb vl lb/\(∀k:Key,3<=k.1->o' k=o k)/\∀X:View,X.le (vw h)->X M=Pz->X.le (vw h')):=by refine(Ak w.own bb.box h0 h1).mono ?_;rintro u h' ⟨rfl,w2,keep⟩;exact⟨rfl,_,⟨w2,w.src,vb,vl,lb,bb.at⟩,bb.at,mQ P4,keep⟩
end
theorem Nz.ext{s:List Int}{M:Nat}{vs:Value}{W0:View}{h h':Heap}{o0:Own}{m:MS}{u:Value}{ds:List Int}(n:Nz s M vs W0 h o0 m u ds)(hle:(vw h).le (vw h')):Nz s M vs W0 h' o0 m u ds:=by obtain⟨W,o,g,w,f,sl⟩:=n;exact⟨W,o,g,⟨w.own.ext' hle,w.src,w.box⟩,f,sl⟩
structure Sz (n a p i:Nat) (m:MS):Prop where
 at_:m.at_<=a
 n0:0<=m.next
 next:m.next<=a
 live:m.live.length<=a
 ps0:0<=m.ps
 ps1:m.ps<=4
 len:m.blocks.length=n
 phis : ∀j,(nth m.blocks j).phis.length<=p
 ins : ∀j,(nth m.blocks j).ins.length<=i
theorem Sz.mono{n a p i a' p' i':Nat}{m:MS}(z:Sz n a p i m)(h1:a<=a')(h2:p<=p')(h3:i<=i'):Sz n a' p' i' m:=
 ⟨LG z.at_ h1,z.n0,by have:=z.next;omega,LG z.live h1,z.ps0,z.ps1,z.len,λj=>LG (z.phis j) h2,λj=>LG (z.ins j) h3⟩
theorem Sz.ok {n a p i:Nat} {m:MS} (z:Sz n a p i m) (h:i<=a):m.ok a:=⟨z.at_,z.n0,z.next,z.live,λj=>LG (z.ins j) h⟩
theorem Sz.took {n a p i:Nat} {m:MS} (z:Sz n a p i m):Sz n (a+1) p i m.took:=⟨by have:=z.at_;show m.at_+1<=_;omega,z.n0,by have:=z.next;show m.next<=_;omega,by have:=z.live;show m.live.length<=_;omega,z.ps0,z.ps1,z.len,z.phis,z.ins⟩
variable{b:Nat}
theorem Sz.fG{a p i:Nat}{m:MS}(z:Sz n a p i m){x:BlkD}(h1:x.phis.length<=p)(h2:x.ins.length<=i):Sz n a p i { m with blocks:=m.blocks.set b x }:=by
 refine⟨z.at_,z.n0,z.next,z.live,z.ps0,z.ps1,by show(m.blocks.set b x).length=_;rw[LU];exact z.len,λj=>?_,λj=>?_⟩;all_goals
  show List.length (α:=_) _<=_
  rcases Lr j m.blocks.length with hl | hl
  ·simp only[bz hl]
   split
   ·assumption
   ·first | exact z.phis j | exact z.ins j
  ·first
    | (have:=z.phis j;rw[cL hl]at this;rw[cL (by simpa using hl)];exact this)
    | (have:=z.ins j;rw[cL hl]at this;rw[cL (by simpa using hl)];exact this)
theorem Sz.eB {n a p i b:Nat} {m:MS} (z:Sz n a p i m):Sz n (a+1) (p+1) i (eB b m):=by have h1:Sz n (a+1) (p+1) i m.aK:=⟨by have:=z.at_;show m.at_<=_;omega,by have:=z.n0;show 0<=m.next+1;omega,by have:=z.next;show m.next+1<=_;omega,by have:=z.live;show m.live.length<=_;omega,z.ps0,z.ps1,z.len,λj=>by have:=z.phis j;show(nth m.blocks j).phis.length<=_;omega,z.ins⟩;exact h1.fG (b:=b) (x:={ nth m.blocks b with phis:=(nth m.blocks b).phis++[⟨m.next,[]⟩] }) (by have:=z.phis b;show((nth m.blocks b).phis++[_]).length<=_;rw[Lx,LP];omega) (z.ins b)
theorem Sz.oZ {n a p i b:Nat} {m:MS} (z:Sz n a p i m) : ∀k,Sz n (a+k) (p+k) i (up (λ_=>Go.Proofs.YtnfiilgdjpdlkaaGreatDoor.eB b) k m)
 | 0=>z
 | k+1=>(Sz.oZ z k).eB
section
variable {s:List Int} {M:Nat} {vs:Value} {W0:View} {h:Heap} {o0:Own} {m:MS}
variable{vp:Value}{lp:List Int}
theorem Hl{a p i cnt:Nat}{vq:Value}(x:Nx s M vs W0 h o0 m)(hk:o0 (5,0)=it T.int vp lp)(z:Sz n a p i m)(hb:b<n)(hlp:lp.length=n)(hcnt:nth lp b=cnt)(hc:cnt<=10)(hn:n<=100)(ha:a<=100000)(hp:p<=100000)(h0:bK [2,3,4,5,7,8,9,10] ρ=[(2,vr),(3,PB (Py ⟨M,0,Pz⟩)),(4,Pv Pw n),(5,vt),(7,vp),(8,Pv Pw b),(9,vq),(10,Pv Pw 0)])(hQ : ∀h',Nx s M vs W0 h' o0 (up (λ_=>eB b) cnt m)->Q .normal [(2,vr),(3,PB (Py ⟨M,0,Pz⟩)),(4,Pv Pw n),(5,vt),(7,vp),(8,Pv Pw b),(9,vq),(10,Pv Pw cnt)] h'):
  LC.wp PE (.block 4 (.loop L.aq.l3)) Q ρ h:=by
 simp only[aL];refine cT [2,3,4,5,7,8,9,10] (fun(_:Unit) k=>[vr,PB (Py ⟨M,0,Pz⟩),Pv Pw n,vt,vp,Pv Pw b,vq,Pv Pw k]) (λ_ k h2=>Nx s M vs W0 h2 o0 (up (λ_=>eB b) k m)) cnt ()
  rfl P2 h0 x (λ_ _=>rfl) (λv k h2 hk2 m=>by have sp:=m.z.at P4 hk;have e:=sp.int Ps (i:=b) P2;rw[hcnt]at e;simp(disch:=omega)[sp.idx1 rfl,e]) ?_ ?_
 ·rintro _ k h2 hlt x2 K2 hK2;have z2:=z.oZ (b:=b) k;have e2:up (λ_=>eB b) (k+1) m=eB b (up (λ_=>eB b) k m):=rfl;rw[e2]at hK2;generalize up (λ_=>eB b) k m=m2 at x2 hK2 z2;have hbl:b<m2.blocks.length:=by rw[z2.len];exact hb
  obtain⟨W,o,g,w,f⟩:=x2;obtain⟨vb,vl,lb,bb⟩:=w.box;have hbb:b<lb.length:=by rw[bb.len];exact hbl
  obtain⟨H,hH,c3,sH,FQ⟩:=bb.FQ w.own;have a1:=(sH.at hbb).part BlkM.rX;have a2:ak H (((slA vb).add (b*6)).add 0)=Py (nth lb b).phis.v:=by rw[aA hbb];exact a1.raw
  have sb:=sH.bound;simp only[aL];refine CT H hH ?_;simp(disch:=omega)[c3,sH.idxn (N:=6) rfl,a2];refine af P1 (w.IB bb z2.n0 (by have:=z2.next;omega)) ?_;rintro _ h3 ⟨rfl,o3,w3,b3,f3,keep⟩;obtain⟨X,hHX,hWX,hX,sX,avX⟩:=FQ h3 o3 w3.own b3 keep;refine⟨sub_le hHX hX,?_⟩;refine ay (z:=.agg #[Pv Pw 0,PA Pz 0 0]) (places:=[(0,1),(1,1)]) (vs:=[(0,Pv Pw m2.next)]) (cs:=#[Pv Pw m2.next,PA Pz 0 0]) P1 P1 Sa P1 ?_;refine⟨sub_le hHX hX,?_⟩;have i64:I64 m2.next:=by have:=z2.n0;have:=z2.next;constructor<;>omega
  have hph:=z2.phis b;refine mC (α:=PhiD) (W:=W) (d:=⟨m2.next,[]⟩) El.py rfl (FI i64 aN) λu5 h5 src hle5 hs5=>⟨sub_le hHX (Pt hX hle5),?_⟩;refine(w3.own.ext' hle5).df (k:=(1,b)) (α:=PhiD) (v:=(nth lb b).phis.v) (l:=(nth m2.blocks b).phis) (l2:=[⟨m2.next,[]⟩]) (b3.phis b hbl) El.py rfl rfl src P9 P9 λv6 h6 w6 m6=>⟨sub_le hHX (m6.view (Pt hX hle5) (avX b hbl)).1,?_⟩;have hv6:=(w6.cells (k:=(1,b)) Own.ao).2;refine w6.pk (k:=(0,2)) (α:=BlkM) BlkM.rX (v:=vb) (l:=lb) (i:=b) (d:=⟨v6⟩) b3.blk P1 rfl rfl hbb (mE.2 ⟨rfl,hv6⟩) λh7 w7 _=>?_;have b7:=b3.fG (b:=b) hbl (x':={ nth m2.blocks b with phis:=(nth m2.blocks b).phis++[⟨m2.next,[]⟩] }) (y':={ lb[b]with phis:=⟨v6⟩ }) (o':=(o3.upd (1,b) (it T.nr v6 ((nth m2.blocks b).phis++[⟨m2.next,[]⟩]))).upd (0,2) (it T.ey vb (lb.set b { lb[b]with phis:=⟨v6⟩ }))) (by rw[<-bb.term b hbl,aA hbb]) Own.ao ((Own.aB Sa).trans Own.ao) (by rw[Own.aB Sa,Own.aB Sa,b3.ins b hbl,aA hbb];rfl) (λq h1 h2 h3=>by rw[Own.aB h1,Own.aB h2]);refine hK2 () _ _ rfl rfl ⟨W,_,g,⟨w7,w.src,vb,vl,_,b7⟩,λk hk=>?_⟩;rw[Own.aB (by rintro rfl;simp at hk),Own.aB (by rintro rfl;simp at hk)];exact(f3 k hk).trans (f k hk)
 rintro _ h2 x2;exact hQ h2 x2
end
variable{po:OP}{α:Type}{ty:TypeId}{us:List (Nat × Value)}
theorem Nz.uy{s:List Int}{h:Heap}{m:MS}{u:Value}{ds:List Int}[r:Rep α](n:Nz s M vs W0 h o0 m u ds){k:Key}{e:TypeId}{i:Nat}{v:Value}{l:List α}{t:TypeId}{x y:Operand}{d:α}{w:Value}{K:Value->Heap->Prop}(h1:Rep.n α=1)(h3:3<=k.1)(hk:o0 k=it e v l)(hi:i<l.length)(hsz:cQ PE t=Py 1)(hx:asg us x = PB (Py ((slA v).add i)))(hy:asg us y=w)(hr : ∀W,Rd W w d)(hK : ∀h',Nz s M vs W0 h' (o0.upd k (it e v (l.set i d))) m u ds->K undef h'):@Lft.step po PE (.store t x y) ty us h K:=
 n.GL h3 hk hi (by rw[hsz,h1]) (by rw[hx,h1,MA]) hy hr hK
theorem qd{s:List Int}{m:MS}:0<=gB s m b/\gB s m b<=3:=by
 unfold gB;have:=cI (s:=s) (at_:=m.at_) (n:=4) P4;repeat' split
 all_goals omega
theorem E4{l:List Int}{i:Nat}{x:Int}(h:nth l i=x)(hi:i<l.length):l.set i x=l:=by rw[<-h,aA hi];exact List.set_getElem_self hi
structure Ph (n a k:Nat) (x:List Int × MS):Prop where
 z:Sz n (a+10*k) (3*k) 0 x.2
 len:x.1.length=n
 zero : ∀j,k<j->nth x.1 j=0
 rng : ∀j,0<=nth x.1 j/\nth x.1 j<=3
theorem uC{s:List Int}{a k:Nat}{x:List Int × MS}(p:Ph n a k x):Ph n a (k+1) (eE s k x):=by
 obtain⟨c0,c1⟩:=qd (s:=s) (m:=x.2) (b:=k+1);have hset : ∀j,nth (x.1.set (k+1) (gB s x.2 (k+1))) j=if k+1=j/\j<x.1.length then gB s x.2 (k+1) else nth x.1 j:=λj=>by
  rcases Lr j x.1.length with hl | hl
  ·rw[bz hl];by_cases e:k+1=j
   ·rw[if_pos e,if_pos ⟨e,hl⟩]
   rw[if_neg e,if_neg (λq=>e q.1)]
  rw[cL (by simpa using hl),if_neg P2,cL hl]
 refine⟨?_,?_,λj hj=>?_,λj=>?_⟩
 ·have:=(p.z.took).oZ (b:=k+1) (gB s x.2 (k+1)).toNat;exact this.mono P2 P2 (Lp _)
 ·show(x.1.set _ _).length=_;rw[LU];exact p.len
 ·show nth (x.1.set _ _) j=_;rw[hset,if_neg P2];exact p.zero j P2
 show 0<=nth (x.1.set _ _) j/\nth (x.1.set _ _) j<=3;rw[hset];split
 ·exact⟨c0,c1⟩
 exact p.rng j
theorem yw {s:List Int} {n a:Nat} {x:List Int × MS} (p:Ph n a 0 x) : ∀k,Ph n a k (up (eE s) k x)
 | 0=>p
 | k+1=>uC (yw p k)
variable{vp:Value}
theorem HB{s:List Int}{h:Heap}{a:Nat}{x0:List Int × MS}(x:Nx s M vs W0 h (o0.upd (5,0) (it T.int vp x0.1)) x0.2)(p0:Ph n a 0 x0)(hn1:1<=n)(hn:n<=100)(ha:a<=10000)(h0:bK [2,3,4,5,7,8] ρ=[(2,vr),(3,PB (Py ⟨M,0,Pz⟩)),(4,Pv Pw n),(5,vt),(7,vp),(8,Pv Pw 1)])(hQ : ∀h',Nx s M vs W0 h' (o0.upd (5,0) (it T.int vp (up (eE s) (n-1) x0).1)) (up (eE s) (n-1) x0).2->Q .normal [(2,vr),(3,PB (Py ⟨M,0,Pz⟩)),(4,Pv Pw n),(5,vt),(7,vp),(8,Pv Pw n)] h'):
  LC.wp PE (.block 2 (.loop L.aq.l2)) Q ρ h:=by
 simp only[aL];refine vy [2,3,4,5,7,8] (fun(_:Unit) k=>[vr,PB (Py ⟨M,0,Pz⟩),Pv Pw n,vt,vp,Pv Pw ((k+1:Nat):Int)]) (λ_ k h2=>Nx s M vs W0 h2 (o0.upd (5,0) (it T.int vp (up (eE s) k x0).1)) (up (eE s) k x0).2) (n-1) 1 ()
  rfl P2 h0 x (λ_ _=>rfl) (λv k h2 hk2 m=>by simp;omega) ?_ ?_
 ·rintro _ k h2 hlt x2 K2 hK2;have p2:=yw (s:=s) p0 k;have e2:up (eE s) (k+1) x0=eE s k (up (eE s) k x0):=rfl;have p3:=uC (s:=s) p2;rw[e2]at hK2;generalize up (eE s) k x0=y at x2 hK2 p2 p3;obtain⟨lp,m⟩:=y;have z:Sz n (a+10*k) (3*k) 0 m:=p2.z;have x2:Nx s M vs W0 h2 (o0.upd (5,0) (it T.int vp lp)) m:=x2;have q:m.ok (a+10*k):=z.ok P2;have hlen:lp.length=n:=p2.len;simp only[aL];refine ab λy hy=>?_;obtain⟨vb,vl,rd⟩:=x2.z.reads;simp[rd.f];refine af P1 (ti (b:=((k+1:Nat):Int)) (rd.rd ⟨by have:=z.ps0;show _<=m.ps;omega,by have:=z.ps1;show m.ps<=_;omega⟩) (by show m.blocks.length<=_;rw[z.len];omega)) ?_;rintro vq h3 ⟨hle3,hq⟩;have n3:=x2.z.ext hle3;have hcd:gB s m (k+1)=_:=gB.eq_1 s m (k+1);obtain⟨pl,hpl⟩ : ∃pl:Nat,pl=(cG m.f ((k+1:Nat):Int)).length:=⟨_,rfl⟩;have hql : ∀{Q:View},Un.ev Q .len vq=Py (Pv Pw pl):=fun{Q}=>by rw[hpl];exact hq.len
  rw[<-hpl]at hcd;clear hq x2 rd hpl;subst hy;refine ab λy hy=>?_;have fin : ∀(h':Heap) (ρ:Env),Nz s M vs W0 h' (o0.upd (5,0) (it T.int vp (lp.set (k+1) (gB s m (k+1))))) m.took (PA Pz 0 0) []->Lft.look ρ 2=Py vr->Lft.look ρ 3=Py (PB (Py ⟨M,0,Pz⟩))->Lft.look ρ 4=Py (Pv Pw n)->Lft.look ρ 5=Py vt->Lft.look ρ 7=Py vp->Lft.look ρ 8=Py (Pv Pw ((k+1:Nat):Int))->Lft.look ρ 9=Py vq->
    LC.wp PE y (eA 3 (eG K2 (eA 2 Q))) ρ h':=by
   intro h' ρ n' r2 r3 r4 r5 r7 r8 r9;subst hy;refine ab λy hy=>?_;simp;subst hy;obtain⟨c0,c1⟩:=qd (s:=s) (m:=m) (b:=k+1);refine Hl (vr:=vr) (vt:=vt) (b:=k+1) (cnt:=(gB s m (k+1)).toNat) (vq:=vq) n'.x Own.ao z.took P2 (by rw[LU];exact hlen) (by rw[bz P2,if_pos rfl];omega) P2 hn P2 P2 ?_ λh4 x4=>?_
   ·simp[bK,ag,ah,r2,r3,r4,r5,r7,r8,r9]
   simp;exact hK2 () _ _ rfl rfl x4
  refine ab λw hw=>?_;simp[hql];subst hw;by_cases c1:1<pl
  ·rw[if_pos c1]at hcd;refine aW P9 ?_;simp;refine af P1 (eh n3 q P2 (k:=4) P4 P4) ?_;rintro _ h4 ⟨rfl,n4⟩;have sp:=n4.at (k:=(5,0)) P4 Own.ao;simp(disch:=omega)[sp.idx1 rfl];refine n4.uy (k:=(5,0)) (α:=Int) (i:=k+1) (d:=aI s m.at_ 4) rfl P4 Own.ao P2 P1 rfl rfl (λW=>bn.2 ⟨rfl,by have:=cI (s:=s) (at_:=m.at_) (n:=4) P4;constructor<;>omega⟩) λh5 n5=>?_;refine fin h5 _ (n5.re λq=>by rw[eD,hcd]) ?_ ?_ ?_ ?_ ?_ ?_ ?_;all_goals simp
  rw[if_neg c1]at hcd;refine aV P9 ?_;refine ab λw hw=>?_;simp;refine af P1 (eh n3 q P2 (k:=6) P4 P4) ?_;rintro _ h4 ⟨rfl,n4⟩;simp;subst hw;by_cases c2:aI s m.at_ 6=0
  ·rw[if_pos c2]at hcd;refine aW (by simp[c2]) ?_;have sp:=n4.at (k:=(5,0)) P4 Own.ao;simp(disch:=omega)[sp.idx1 rfl];refine n4.uy (k:=(5,0)) (α:=Int) (i:=k+1) (d:=1) rfl P4 Own.ao P2 P1 rfl rfl (λW=>bn.2 ⟨rfl,by decide,by decide⟩) λh5 n5=>?_;refine fin h5 _ (n5.re λq=>by rw[eD,hcd]) ?_ ?_ ?_ ?_ ?_ ?_ ?_;all_goals simp
  rw[if_neg c2]at hcd;refine aV (by simp[c2]) ?_;simp;have e:lp.set (k+1) (gB s m (k+1))=lp:=by rw[hcd];exact E4 (p2.zero (k+1) P2) P2
  refine fin h4 _ (n4.re λq=>by rw[e]) ?_ ?_ ?_ ?_ ?_ ?_ ?_;all_goals simp
 rintro _ h2 x2;have e:n-1+1=n:=by omega
 have:=hQ h2 x2;simpa[e]using this
section
variable {s:List Int} {M:Nat} {vs:Value} {W0:View} {h:Heap} {o0:Own} {m:MS}
theorem Em{a p i:Nat}(z:Sz n a p i m):I64 m.ps:=by have:=z.ps0;have:=z.ps1;constructor<;>omega
variable{vd va:Value}
theorem GN{a p i:Nat}{r:Bool}{t:Nat}(x:Nx s M vs W0 h (o0.upd (7,0) (it T.nh va ([]:List BL))) m)(hfree:o0 (7,0)=Pz)(z:Sz n a p i m)(hn:n<=100)(h0:bK [2,3,4,5,7,11,12,13,14,15,16] ρ=[(2,vr),(3,PB (Py ⟨M,0,Pz⟩)),(4,Pv Pw n),(5,vt),(7,vp),(11,vd),(12,Pv Pw t),(13,Pv Pw b),(14,.bool r),(15,va),(16,Pv Pw 0)])(hQ : ∀h' W' va,W0.le W'->Nx s M vs W' h' o0 m->SlRd W' va (pQ m.f n)->Q .normal [(2,vr),(3,PB (Py ⟨M,0,Pz⟩)),(4,Pv Pw n),(5,vt),(7,vp),(11,vd),(12,Pv Pw t),(13,Pv Pw b),(14,.bool r),(15,va),(16,Pv Pw n)] h'):
  LC.wp PE (.block 10 (.loop L.aq.l6)) Q ρ h:=by
 simp only[aL];refine cT [2,3,4,5,7,11,12,13,14,15,16] (fun(va:Value) k=>[vr,PB (Py ⟨M,0,Pz⟩),Pv Pw n,vt,vp,vd,Pv Pw t,Pv Pw b,.bool r,va,Pv Pw k]) (λva k h2=>Nx s M vs W0 h2 (o0.upd (7,0) (it T.nh va (rows (λa=>dO m.f (a:Int)) k))) m) n va
  rfl P2 h0 x (λ_ _=>rfl) (λv k h2 hk2 m=>by simp) ?_ ?_
 ·rintro va k h2 hlt x2 K2 hK2;simp only[aL];obtain⟨vb,vl,rd⟩:=x2.z.reads;simp[rd.f];refine af P1 (wA (wo:=(k:Int)) (rd.rd (Em z)) (by show m.blocks.length<=_;rw[z.len];omega)) ?_;rintro ur h3 ⟨hle3,hur⟩;obtain⟨W,o,g,w,f⟩:=x2;have w3:=w.own.ext hle3;have hW3:=bW (h':=h3) w.own.wle;have hur:=hur.mono (iU W h2 h3);generalize grow W h2 h3=W3 at w3 hW3 hur;refine w3.iN (k:=(7,0)) (α:=BL) (d:=dO m.f (k:Int)) ((f _ P4).trans Own.ao) El.tL rfl (dN.2 hur) P9 P9 (λ_=>rfl) (λ_=>rfl) λu v' h4 w4 _=>?_;obtain⟨vb,vl,lb,bb⟩:=w.box;refine hK2 v' _ _ rfl rfl ⟨W3,_,Pt g hW3,⟨w4,w.src.mono hW3,vb,vl,lb,bb.frame λq hq=>Own.aB (by rintro rfl;simp at hq)⟩,λq hq=>?_⟩;rw[eu];unfold Own.upd;split
  ·rfl
  rename_i e;rw[f q hq,Own.aB e]
 rintro va h2 ⟨W,o,g,w,f⟩;have hk:=(f (7,0) P4).trans Own.ao;obtain⟨w2,sl⟩:=w.own.freeze hk;have hWp:=jm (h:=h2) (w.own.av _ _ hk);obtain⟨vb,vl,lb,bb⟩:=w.box;refine hQ h2 _ va (Pt g hWp) ⟨_,_,View.le_refl _,⟨w2,w.src.mono hWp,vb,vl,lb,bb.frame λq hq=>Own.aB (by rintro rfl;simp at hq)⟩,λq hq=>?_⟩ sl;by_cases e:q=(7,0)
 ·rw[e,Own.ao,hfree]
 rw[Own.aB e,f q hq,Own.aB e]
variable{dn:BL}{away:List BL}
theorem GM{r:Bool}{t:Nat}(sd:SlRd (vw h) vd dn)(sa:SlRd (vw h) va away)(hb:b<n)(hdn:dn.length=n)(hal:away.length=n)(har : ∀i,i<n->(nth away i).length=n)(hn:n<=100)(h0:bK [2,3,4,5,7,11,12,13,14,15,17] ρ=[(2,vr),(3,PB (Py ⟨M,0,Pz⟩)),(4,Pv Pw n),(5,vt),(7,vp),(11,vd),(12,Pv Pw t),(13,Pv Pw b),(14,.bool r),(15,va),(17,Pv Pw 0)])(hQ:Q .normal [(2,vr),(3,PB (Py ⟨M,0,Pz⟩)),(4,Pv Pw n),(5,vt),(7,vp),(11,vd),(12,Pv Pw t),(13,Pv Pw b),(14,.bool (up (λa r=>r&&(decide (a=b)||nth dn a||nth (nth away a) b)) n r)),(15,va),(17,Pv Pw n)] h):
  LC.wp PE (.block 12 (.loop L.aq.l7)) Q ρ h:=by
 simp only[aL];refine cT [2,3,4,5,7,11,12,13,14,15,17] (fun(r:Bool) k=>[vr,PB (Py ⟨M,0,Pz⟩),Pv Pw n,vt,vp,vd,Pv Pw t,Pv Pw b,.bool r,va,Pv Pw k]) (λr2 k h2=>h2=h/\r2=up (λa r=>r&&(decide (a=b)||nth dn a||nth (nth away a) b)) k r) n r
  rfl P2 h0 ⟨rfl,rfl⟩ (λ_ _=>rfl) (λv k h2 hk2 m=>by simp) ?_ ?_
 ·rintro r2 k h2 hlt ⟨rfl,hr2⟩ K2 hK2;have e:up (λa r=>r&&(decide (a=b)||nth dn a||nth (nth away a) b)) (k+1) r=(r2&&(decide (k=b)||nth dn k||nth (nth away k) b)):=by rw[hr2];rfl
  rw[e]at hK2;clear e hr2;obtain⟨rv,hrv⟩:=sa.rows;obtain⟨ha1,ha2⟩:=hrv k P2;have hl:=har k hlt;have hkb : ∀{A:Type},True:=trivial;simp only[aL];cases r2 with
  | false=>simp;exact hK2 PD _ _ rfl rfl ⟨rfl,rfl⟩
  | true=>
   by_cases c:k=b
   ·subst c;simp;exact hK2 PC _ _ rfl rfl ⟨rfl,by simp⟩
   have c':¬((k:Int)=(b:Int)):=by omega
   cases hd:nth dn k with
   | true=>simp(disch:=omega)[c,c',sd.idx1 rfl,sd.bool Ps,hd];exact hK2 PC _ _ rfl rfl ⟨rfl,by simp[hd]⟩
   | false=>simp(disch:=omega)[c,c',sd.idx1 rfl,sd.bool Ps,hd,sa.idx1 rfl,ha1 _ Ps,ha2.idx1 rfl,ha2.bool Ps];exact hK2 _ _ _ rfl rfl ⟨rfl,by simp[hd,c]⟩
 rintro r2 h2 ⟨rfl,rfl⟩;exact hQ
end
def MS.cH (m:MS) (l:List Int):MS:={ m with live:=l }
section
variable {s:List Int} {M:Nat} {vs:Value} {W0:View} {h:Heap} {o0:Own} {m:MS}
variable{vb vl:Value}{ty2:TypeId}
theorem Mk.yz{po2:OP}{o:Own}(w:Mk s M vs W h o m){lb:List BlkM}(bb:MkB M vs m o vb vl lb){l2:List Int}{u:Value}{x y c1 c2:Operand}{us2:Value->List (Nat × Value)}{K:Value->Value->Heap->Prop}(src:SrcT (vw h) W u l2)(hl:m.live.length+l2.length<=1000000)(hx:asg us x=vl)(hy:asg us y=u)(hc1 : ∀v,asg (us2 v) c1 = PB (Py ⟨M,5,Pz⟩))(hc2 : ∀v,asg (us2 v) c2=v)(hK : ∀v h' o',Mk s M vs W h' o' (m.cH (m.live++l2))->(∀k:Key,3<=k.1->o' k=o k)->K v undef h'):
  @Lft.step po PE (.call ⟨.builtin .append,#[x,y],#[T.aR,T.aR]⟩) ty us h λv h2=>@Lft.step po2 PE (.store T.aR c1 c2) ty2 (us2 v) h2 λw h3=>K v w h3:=by
 refine w.own.df (k:=(0,1)) (α:=Int) (v:=vl) (l:=m.live) (l2:=l2) bb.live El.aR hx hy src P2 P2 λv h2 w2 _=>?_;have hv:=(w2.cells (k:=(0,1)) Own.ao).2;refine w2.dh (k:=(0,0)) (n:=5) (i:=5) (e:=T.aY) (B:=M) (l:=mkL vs m.at_ m.ps vb m.next vl) ((Own.aB Sa).trans bb.box) P4 P1 (hc1 v) (hc2 v) hv λh3 w3 _=>?_;refine hK v h3 _ ⟨w3,w.src,vb,v,lb,⟨rfl,rfl,(Own.aB Sa).trans ((Own.aB Sa).trans bb.blk),bb.len,bb.term,λi hi=>?_,λi hi=>?_⟩⟩ λk hk=>?_
 ·exact(Own.aB Sa).trans ((Own.aB Sa).trans (bb.phis i hi))
 ·exact(Own.aB Sa).trans ((Own.aB Sa).trans (bb.ins i hi))
 rw[Own.aB (by rintro rfl;simp at hk),Own.aB (by rintro rfl;simp at hk)]
variable{vd va:Value}
theorem HG{a p i c:Nat}{r:Bool}{t:Nat}(x:Nx s M vs W0 h o0 (m.cH []))(z:Sz n a p i m)(hc:m.ps=c)(h0:bK [2,3,4,5,7,11,12,13,15,18] ρ=[(2,vr),(3,PB (Py ⟨M,0,Pz⟩)),(4,Pv Pw n),(5,vt),(7,vp),(11,vd),(12,Pv Pw t),(13,Pv Pw b),(15,va),(18,Pv Pw 0)])(hQ : ∀h',Nx s M vs W0 h' o0 (m.cH (rows (λi=>(i:Int)) c))->Q .normal [(2,vr),(3,PB (Py ⟨M,0,Pz⟩)),(4,Pv Pw n),(5,vt),(7,vp),(11,vd),(12,Pv Pw t),(13,Pv Pw b),(15,va),(18,Pv Pw c)] h'):
  LC.wp PE (.block 14 (.loop L.aq.l8)) Q ρ h:=by
 have hc4:c<=4:=by have:=z.ps1;omega
 simp only[aL];refine cT [2,3,4,5,7,11,12,13,15,18] (fun(_:Unit) k=>[vr,PB (Py ⟨M,0,Pz⟩),Pv Pw n,vt,vp,vd,Pv Pw t,Pv Pw b,va,Pv Pw k]) (λ_ k h2=>Nx s M vs W0 h2 o0 (m.cH (rows (λi=>(i:Int)) k))) c ()
  rfl P2 h0 x (λ_ _=>rfl) (λv k h2 hk2 x2=>by obtain⟨vb,vl,rd⟩:=x2.z.reads;have e:(m.cH (rows (λi=>(i:Int)) k)).ps=c:=hc;simp[rd.ps,e]) ?_ ?_
 ·rintro _ k h2 hlt x2 K2 hK2;obtain⟨W,o,g,w,f⟩:=x2;obtain⟨vb,vl,lb,bb⟩:=w.box;have rd:=w.reads bb;simp only[aL];simp[rd.cl];refine mC (α:=Int) (W:=W) (d:=(k:Int)) El.aR rfl (bn.2 ⟨rfl,by constructor<;>omega⟩) λu5 h5 src hle5 hs5=>?_;have w5:Mk s M vs W h5 o (m.cH (rows (λi=>(i:Int)) k)):=⟨w.own.ext' hle5,w.src,w.box⟩;refine w5.yz bb src (by show(rows _ k).length+1<=_;simp;omega) rfl rfl (λ_=>rfl) (λ_=>rfl) λv h6 o6 w6 f6=>?_;refine hK2 () _ _ rfl rfl ⟨W,o6,g,?_,λk hk=>(f6 k hk).trans (f k hk)⟩;rw[eu];exact w6
 rintro _ h2 x2;exact hQ h2 x2
theorem Fu{a p i ai:Nat}{t:Nat}{lv:List Int}(x:Nx s M vs W0 h o0 (m.cH lv))(z:Sz n a p i m)(hai:ai<n)(hn:n<=100)(hl:lv.length<=100000)(hp:p<=100000)(h0:bK [2,3,4,5,7,11,12,13,15,19,20] ρ=[(2,vr),(3,PB (Py ⟨M,0,Pz⟩)),(4,Pv Pw n),(5,vt),(7,vp),(11,vd),(12,Pv Pw t),(13,Pv Pw b),(15,va),(19,Pv Pw ai),(20,Pv Pw 0)])(hQ : ∀h':Heap,Nx s M vs W0 h' o0 (m.cH (lv++(nth m.blocks ai).phis.map PhiD.dst))->Q .normal [(2,vr),(3,PB (Py ⟨M,0,Pz⟩)),(4,Pv Pw n),(5,vt),(7,vp),(11,vd),(12,Pv Pw t),(13,Pv Pw b),(15,va),(19,Pv Pw ai),(20,Pv Pw (nth m.blocks ai).phis.length)] h'):
  LC.wp PE (.block 18 (.loop L.aq.l10)) Q ρ h:=by
 have hpl:=z.phis ai;have hlen:ai<m.blocks.length:=by rw[z.len];exact hai
 simp only[aL];have read : ∀{h2:Heap} {lv2:List Int} {vb vl:Value},Reads M (m.cH lv2) h2 vb vl->∃vph,ak (vw h2) (((slA vb).add (ai*6)).add 0)=Py vph/\SlRd (vw h2) vph (nth m.blocks ai).phis/\Bn.ev (.idx 6) vb (Pv Pw ai)=Py (PB (Py ((slA vb).add (ai*6)))):=by intro h2 lv2 vb vl rd;have hb:=rd.blk;have hl2:ai<(m.cH lv2).blocks.length:=hlen;obtain⟨vph,h1⟩:=((hb.at hl2).part BlkD.rX).sl;have h2:=h1.2;have e:(m.cH lv2).blocks[ai]=nth m.blocks ai:=(aA hl2).symm;rw[e]at h2;exact⟨vph,h1.1,h2,by have:=hb.idxn (N:=6) rfl (k:=.i64) (i:=ai) P2 P2;simpa using this⟩
 refine cT [2,3,4,5,7,11,12,13,15,19,20] (fun(_:Unit) k=>[vr,PB (Py ⟨M,0,Pz⟩),Pv Pw n,vt,vp,vd,Pv Pw t,Pv Pw b,va,Pv Pw ai,Pv Pw k]) (λ_ k h2=>Nx s M vs W0 h2 o0 (m.cH (lv++((nth m.blocks ai).phis.take k).map PhiD.dst))) (nth m.blocks ai).phis.length ()
  rfl P2 h0 (by simpa using x) (λ_ _=>rfl) (λv k h2 hk2 x2=>by obtain⟨vb,vl,rd⟩:=x2.z.reads;obtain⟨vph,r1,r2,r3⟩:=read rd;simp[rd.cb,r3,r1,r2.len]) ?_ ?_
 ·rintro _ k h2 hlt x2 K2 hK2;obtain⟨W,o,g,w,f⟩:=x2;obtain⟨vb,vl,lb,bb⟩:=w.box;have rd:=w.reads bb;obtain⟨vph,r1,r2,r3⟩:=read rd;have r4:ak (vw h2) (((slA vph).add (k*2)).add 0)=Py (Pv Pw (nth m.blocks ai).phis[k].dst):=((r2.at hlt).part PhiD.gJ).int;have i64:=((r2.at hlt).part PhiD.gJ).rng;have r5:Bn.ev (.idx 2) vph (Pv Pw k)=Py (PB (Py ((slA vph).add (k*2)))):=by have:=r2.idxn (N:=2) rfl (k:=.i64) (i:=k) P2 P2;simpa using this
  simp only[aL];refine aT (vw h2) Ps ?_;simp[rd.cl,rd.cb,r3,r1,r4,r5];refine mC (α:=Int) (W:=W) (d:=(nth m.blocks ai).phis[k].dst) El.aR rfl (bn.2 ⟨rfl,i64⟩) λu5 h5 src hle5 hs5=>⟨hle5,?_⟩;have w5:Mk s M vs W h5 o (m.cH (lv++((nth m.blocks ai).phis.take k).map PhiD.dst)):=⟨w.own.ext' hle5,w.src,w.box⟩;refine w5.yz bb src (by show(lv++_).length+1<=_;simp;omega) rfl rfl (λ_=>rfl) (λ_=>rfl) λv h6 o6 w6 f6=>?_;refine hK2 () _ _ rfl rfl ⟨W,o6,g,?_,λk hk=>(f6 k hk).trans (f k hk)⟩;rw[LD hlt,Ny,<-List.append_assoc];exact w6
 rintro _ h2 x2;rw[MK]at x2;exact hQ h2 x2
end
theorem y5{l:List InsD}:(l.flatMap cr).length<=2*l.length:=by
 induction l with
 | nil=>simp
 | cons a l ih=>
  have:(cr a).length<=2:=by
   unfold cr;repeat' split
   all_goals simp
  simp only[NG,Lx,ME];omega
section
variable {s:List Int} {M:Nat} {vs:Value} {W0:View} {h:Heap} {o0:Own} {m:MS}
variable{vd va:Value}
theorem Es{a p i ai:Nat}{t:Nat}{lv:List Int}(x:Nx s M vs W0 h o0 (m.cH lv))(z:Sz n a p i m)(hai:ai<n)(hn:n<=100)(hl:lv.length<=100000)(hi:i<=100000)(h0:bK [2,3,4,5,7,11,12,13,15,19,21] ρ=[(2,vr),(3,PB (Py ⟨M,0,Pz⟩)),(4,Pv Pw n),(5,vt),(7,vp),(11,vd),(12,Pv Pw t),(13,Pv Pw b),(15,va),(19,Pv Pw ai),(21,Pv Pw 0)])(hQ : ∀h':Heap,Nx s M vs W0 h' o0 (m.cH (lv++(nth m.blocks ai).ins.flatMap cr))->Q .normal [(2,vr),(3,PB (Py ⟨M,0,Pz⟩)),(4,Pv Pw n),(5,vt),(7,vp),(11,vd),(12,Pv Pw t),(13,Pv Pw b),(15,va),(19,Pv Pw ai),(21,Pv Pw (nth m.blocks ai).ins.length)] h'):
  LC.wp PE (.block 20 (.loop L.aq.l11)) Q ρ h:=by
 have hil:=z.ins ai;have hlen:ai<m.blocks.length:=by rw[z.len];exact hai
 simp only[aL];have read : ∀{h2:Heap} {lv2:List Int} {vb vl:Value},Reads M (m.cH lv2) h2 vb vl->∃vi,ak (vw h2) (((slA vb).add (ai*6)).add 1)=Py vi/\SlRd (vw h2) vi (nth m.blocks ai).ins/\Bn.ev (.idx 6) vb (Pv Pw ai)=Py (PB (Py ((slA vb).add (ai*6)))):=by intro h2 lv2 vb vl rd;have hb:=rd.blk;have hl2:ai<(m.cH lv2).blocks.length:=hlen;obtain⟨vi,h1⟩:=((hb.at hl2).part BlkD.mw).sl;have h2:=h1.2;have e:(m.cH lv2).blocks[ai]=nth m.blocks ai:=(aA hl2).symm;rw[e]at h2;exact⟨vi,h1.1,h2,by have:=hb.idxn (N:=6) rfl (k:=.i64) (i:=ai) P2 P2;simpa using this⟩
 refine cT [2,3,4,5,7,11,12,13,15,19,21] (fun(_:Unit) k=>[vr,PB (Py ⟨M,0,Pz⟩),Pv Pw n,vt,vp,vd,Pv Pw t,Pv Pw b,va,Pv Pw ai,Pv Pw k]) (λ_ k h2=>Nx s M vs W0 h2 o0 (m.cH (lv++((nth m.blocks ai).ins.take k).flatMap cr))) (nth m.blocks ai).ins.length ()
  rfl P2 h0 (by simpa using x) (λ_ _=>rfl) (λv k h2 hk2 x2=>by obtain⟨vb,vl,rd⟩:=x2.z.reads;obtain⟨vi,r1,r2,r3⟩:=read rd;simp[rd.cb,r3,r1,r2.len]) ?_ ?_
 ·rintro _ k h2 hlt x2 K2 hK2;obtain⟨vb,vl,rd⟩:=x2.z.reads;obtain⟨vi,r1,r2,r3⟩:=read rd;obtain⟨ux,hux,huxr⟩:=r2.wh rfl (N:=5) rfl hlt;have r5:Bn.ev (.idx 5) vi (Pv Pw k)=Py (PB (Py ((slA vi).add (k*5)))):=by have:=r2.idxn (N:=5) rfl (k:=.i64) (i:=k) P2 P2;simpa using this
  simp only[aL];refine ab λy hy=>?_;simp[rd.cb,r3,r1,r5,hux _ Ps];refine af P1 (oq huxr) ?_;rintro um h3 ⟨hle3,hum,-⟩;clear rd r1 r2 r3 r5 hux;obtain⟨W,o,g,w,f⟩:=x2;have w3:=w.own.ext hle3;have hW3:=bW (h':=h3) w.own.wle;have hum:=hum.mono (iU W h2 h3);generalize grow W h2 h3=W3 at w3 hW3 hum;have w4:Mk s M vs W3 h3 o (m.cH (lv++((nth m.blocks ai).ins.take k).flatMap cr)):=⟨w3,w.src.mono hW3,w.box⟩;obtain⟨vb,vl,lb,bb⟩:=w4.box;have rd:=w4.reads bb;subst hy;simp[rd.cl];have hfl:=y5 (l:=(nth m.blocks ai).ins.take k);have hml:(cr (nth (nth m.blocks ai).ins k)).length<=2:=by
   unfold cr;repeat' split
   all_goals simp
  refine w4.yz bb (hum.src w3.wle) (by show(lv++_).length+_<=_;simp at hfl ⊢;omega) rfl rfl (λ_=>rfl) (λ_=>rfl) λv h6 o6 w6 f6=>?_;refine hK2 () _ _ rfl rfl ⟨W3,o6,Pt g hW3,?_,λk hk=>(f6 k hk).trans (f k hk)⟩;rw[LD hlt,List.flatMap_append,List.flatMap_singleton,<-List.append_assoc,<-aA hlt];exact w6
 rintro _ h2 x2;rw[MK]at x2;exact hQ h2 x2
variable{dn:BL}{away:List BL}
theorem C7{a p i:Nat}(z:Sz n a p i m){ai:Nat}{l:List Int}:(gN m dn away b ai l).length<=l.length+p+2*i:=by
 unfold gN;split
 ·omega
 have h1:=z.phis ai;have h2:=z.ins ai;have h3:=y5 (l:=(nth m.blocks ai).ins);simp only[Lx,M5];omega
theorem nF {n a p i:Nat} (z:Sz n a p i m) {dn:BL} {away:List BL} {b:Nat} {l:List Int} : ∀k,(up (gN m dn away b) k l).length<=l.length+(p+2*i)*k
 | 0=>Lp _
 | k+1=>by have:=nF z (dn:=dn) (away:=away) (b:=b) (l:=l) k;have h2:=C7 z (dn:=dn) (away:=away) (b:=b) (ai:=k) (l:=up (gN m dn away b) k l);show(gN m dn away b k (up (gN m dn away b) k l)).length<=_;rw[OK];omega
theorem G2{a p i:Nat}{t:Nat}{l0:List Int}(x:Nx s M vs W0 h o0 (m.cH l0))(z:Sz n a p i m)(hd:o0 (6,0)=it T.bool vd dn)(sa:SlRd W0 va away)(hb:b<n)(hdn:dn.length=n)(hal:away.length=n)(har : ∀i,i<n->(nth away i).length=n)(hn:n<=10)(hl:l0.length<=10)(hp:p<=1000)(hi:i<=3000)(h0:bK [2,3,4,5,7,11,12,13,15,19] ρ=[(2,vr),(3,PB (Py ⟨M,0,Pz⟩)),(4,Pv Pw n),(5,vt),(7,vp),(11,vd),(12,Pv Pw t),(13,Pv Pw b),(15,va),(19,Pv Pw 0)])(hQ : ∀h':Heap,Nx s M vs W0 h' o0 (m.cH (up (gN m dn away b) n l0))->Q .normal [(2,vr),(3,PB (Py ⟨M,0,Pz⟩)),(4,Pv Pw n),(5,vt),(7,vp),(11,vd),(12,Pv Pw t),(13,Pv Pw b),(15,va),(19,Pv Pw n)] h'):
  LC.wp PE (.block 16 (.loop L.aq.l9)) Q ρ h:=by
 simp only[aL];refine cT [2,3,4,5,7,11,12,13,15,19] (fun(_:Unit) k=>[vr,PB (Py ⟨M,0,Pz⟩),Pv Pw n,vt,vp,vd,Pv Pw t,Pv Pw b,va,Pv Pw k]) (λ_ k h2=>Nx s M vs W0 h2 o0 (m.cH (up (gN m dn away b) k l0))) n ()
  rfl P2 h0 x (λ_ _=>rfl) (λv k h2 hk2 x2=>by simp) ?_ ?_
 ·rintro _ k h2 hlt x2 K2 hK2;have e2:up (gN m dn away b) (k+1) l0=gN m dn away b k (up (gN m dn away b) k l0):=rfl;rw[e2]at hK2;have hll:=nF z (dn:=dn) (away:=away) (b:=b) (l:=l0) k;have hll:(up (gN m dn away b) k l0).length<=80000:=by have:(p+2*i)*k<=7000*10:=NJ P2 P2;omega
  generalize up (gN m dn away b) k l0=lv at x2 hK2 hll;have hla:gN m dn away b k lv=_:=gN.eq_1 m dn away b k lv;have sd:=x2.z.at P4 hd;have sa2:=sa.mono x2.z.le;obtain⟨rv,hrv⟩:=sa2.rows;obtain⟨ha1,ha2⟩:=hrv k P2;have hal2:=har k hlt;simp only[aL];refine ab λy hy=>?_;have fin : ∀ρ,Lft.look ρ 2=Py vr->Lft.look ρ 3=Py (PB (Py ⟨M,0,Pz⟩))->Lft.look ρ 4=Py (Pv Pw n)->Lft.look ρ 5=Py vt->Lft.look ρ 7=Py vp->Lft.look ρ 11=Py vd->Lft.look ρ 12=Py (Pv Pw t)->Lft.look ρ 13=Py (Pv Pw b)->Lft.look ρ 15=Py va->Lft.look ρ 19=Py (Pv Pw k)->(decide (k≠b)&&(!nth dn k||nth (nth away k) b))=PD->
    LC.wp PE y (eA 17 (eG K2 (eA 16 Q))) ρ h2:=by
   intro ρ r2 r3 r4 r5 r7 r11 r12 r13 r15 r19 hc;subst hy;rw[if_neg (by rw[hc];simp)]at hla;refine ab λy hy=>?_;refine ab λw hw=>?_;simp;subst hw;refine Fu (vr:=vr) (vt:=vt) (vp:=vp) (vd:=vd) (va:=va) (t:=t) (b:=b) (ai:=k) x2 z hlt P2 P2 P2 ?_ λh3 x3=>?_
   ·simp[bK,ag,ah,r2,r3,r4,r5,r7,r11,r12,r13,r15,r19]
   simp;subst hy;refine ab λw hw=>?_;simp;subst hw;have hph:=z.phis k;refine Es (vr:=vr) (vt:=vt) (vp:=vp) (vd:=vd) (va:=va) (t:=t) (b:=b) (ai:=k) x3 z hlt P2 P9 P2 ?_ λh4 x4=>?_
   ·simp[bK,ag,ah]
   simp;refine hK2 () _ _ rfl rfl (by rw[hla];exact x4)
  refine ab λw hw=>?_;by_cases c:k=b
  ·subst c;simp;subst hw;refine aV Sa ?_;simp;refine fin _ ?_ ?_ ?_ ?_ ?_ ?_ ?_ ?_ ?_ ?_ Sa;all_goals simp
  have c':¬((k:Int)=(b:Int)):=by omega
  cases hd2:nth dn k with
  | false=>simp(disch:=omega)[c,c',sd.idx1 rfl,sd.bool Ps,hd2];subst hw;refine aW Sa ?_;simp;refine hK2 () _ _ rfl rfl ?_;rw[if_pos (by simp[c,hd2])]at hla;rw[hla];exact x2
  | true=>
   simp(disch:=omega)[c,c',sd.idx1 rfl,sd.bool Ps,hd2,sa2.idx1 rfl,ha1 _ Ps,ha2.idx1 rfl,ha2.bool Ps];subst hw;cases hw2:nth (nth away k) b with
   | true=>refine aW (by simp[hw2]) ?_;simp;refine hK2 () _ _ rfl rfl ?_;rw[if_pos (by simp[c,hd2,hw2])]at hla;rw[hla];exact x2
   | false=>refine aV (by simp[hw2]) ?_;simp;refine fin _ ?_ ?_ ?_ ?_ ?_ ?_ ?_ ?_ ?_ ?_ (by simp[c,hd2,hw2]);all_goals simp
 rintro _ h2 x2;exact hQ h2 x2
end
structure B2 (n a p:Nat) (x:BL × MS):Prop where
 z:Sz n a p 700 x.2
 len:x.1.length=n
 none : ∀j,j<n->nth x.1 j=PD->(nth x.2.blocks j).ins.length=0
variable{dn:BL}{away:List BL}
theorem xg{a p:Nat}{m:MS}(z:Sz n a p 700 m)(hn:n<=10)(hp:p<=100):(lY m dn away b n).length<=15100:=by have:=nF z (dn:=dn) (away:=away) (b:=b) (l:=rows (λi=>(i:Int)) m.ps.toNat) n;rw[mN]at this;have h2:(p+2*700)*n<=1500*10:=NJ P2 hn;have:=z.ps1;unfold lY;omega
theorem oo{m:MS}{j:Nat}{t:cM}(hb:b<m.blocks.length):nth (m.ye b t).blocks j=if b=j then{ nth m.blocks b with term:=t } else nth m.blocks j:=by
 show nth (m.blocks.set b _) j=_;rcases Lr j m.blocks.length with hl | hl
 ·rw[bz hl]
 rw[cL (by simpa using hl),cL hl,if_neg P2]
theorem Bf{s:List Int}{a p:Nat}{m:MS}(z:Sz n a p 700 m)(hb:b<n)(h0:(nth m.blocks b).ins.length=0)(hn:n<=10)(hp:p<=100)(ha:16000<=a):
  Sz n (a+600) p 700 (iH s to n dn away b m)/\∀j,j≠b->(nth (iH s to n dn away b m).blocks j).ins=(nth m.blocks j).ins:=by
 have hll:=xg (dn:=dn) (away:=away) (b:=b) z hn hp;have ht:=cI (s:=s) (at_:=m.at_) (n:=7) P4;have hbl:b<m.blocks.length:=by rw[z.len];exact hb
 obtain⟨m1,hm1⟩ : ∃m1:MS,m1=MS.took { m with live:=lY m dn away b n }:=⟨_,rfl⟩;have z1:Sz n (a+1) p 700 m1:=by rw[hm1];exact Sz.took ⟨z.at_,z.n0,z.next,by show(lY m dn away b n).length<=_;omega,z.ps0,z.ps1,z.len,z.phis,z.ins⟩
 have hl1:m1.live.length<=15100:=by rw[hm1];exact hll
 have e1 : ∀j,nth m1.blocks j=nth m.blocks j:=λj=>by rw[hm1];rfl
 have hb1:b<m1.blocks.length:=by rw[z1.len];exact hb
 have g:=((Grw.refl (b:=b) (m:=m1)).gT (s:=s) hb1 (aI s m.at_ 7).toNat).HY (s:=s) (to:=nth to b) hb1;have g:=g.mono (l:=520) P2;have e:iH s to n dn away b m=oA s (nth to b) b (up (λ_=>aP s b) (aI s m.at_ 7).toNat m1):=by rw[hm1];rfl
 rw[e];unfold oA;generalize ia s (nth to b) b (up (λ_=>aP s b) (aI s m.at_ 7).toNat m1)=r at g;have hbr:b<r.2.blocks.length:=by rw[g.len];exact hb1
 have hown:=g.ins;rw[e1,h0]at hown;refine⟨⟨?_,?_,?_,?_,?_,?_,?_,λj=>?_,λj=>?_⟩,λj hj=>?_⟩
 ·show r.2.at_<=_;have:=g.at1;have:=z1.at_;omega
 ·show 0<=r.2.next;have:=g.n0;have:=z1.n0;omega
 ·show r.2.next<=_;have:=g.n1;have:=z1.next;omega
 ·show r.2.live.length<=_;have:=g.live;omega
 ·show 0<=r.2.ps;rw[g.ps];exact z1.ps0
 ·show r.2.ps<=4;rw[g.ps];exact z1.ps1
 ·show(r.2.blocks.set b _).length=n;rw[LU,g.len];exact z1.len
 ·rw[oo hbr];split
  ·rename_i e;subst e;show(nth r.2.blocks b).phis.length<=_;rw[g.phis];exact z1.phis b
  rename_i e;rw[g.els j (λq=>e q.symm)];exact z1.phis j
 ·rw[oo hbr];split
  ·rename_i e;subst e;show(nth r.2.blocks b).ins.length<=_;omega
  rename_i e;rw[g.els j (λq=>e q.symm)];exact z1.ins j
 rw[oo hbr,if_neg (λq=>hj q.symm),g.els j hj,e1]
theorem qk{s:List Int}{a p:Nat}{x:BL × MS}(q:B2 n a p x)(hb:b<n)(hn:n<=10)(hp:p<=100)(ha:16000<=a)(h0:rV x.1 (pQ x.2.f n) b n=PC->nth x.1 b=PD):B2 n (a+600) p (cu s to n b x):=by
 unfold cu;split
 ·rename_i hr;obtain⟨z2,e2⟩:=Bf (s:=s) (to:=to) (dn:=x.1.set b PC) (away:=pQ x.2.f n) q.z hb (q.none b hb (h0 hr)) hn hp ha;refine⟨z2,by show(x.1.set b PC).length=n;rw[LU];exact q.len,λj hj h=>?_⟩;have h:nth (x.1.set b PC) j=false:=h;rw[bz (by rw[q.len];exact hj)]at h;split at h
  ·cases h
  rename_i e;show(nth (iH _ _ _ _ _ _ _).blocks j).ins.length=0;rw[e2 j (λr=>e r.symm)];exact q.none j hj h
 exact⟨q.z.mono P2 (Lp _) (Lp _),q.len,q.none⟩
theorem Ei {f:Nat->Bool} : ∀(n:Nat) (r:Bool),up (λa r=>r&&f a) n r=PC->r=PC
 | 0,r,h=>h
 | n+1,r,h=>by have h:(up (λa r=>r&&f a) n r&&f n)=true:=h;simp only[Lt]at h;exact Ei n r h.1
theorem pw(h:rV dn away b n=PC):nth dn b=false:=by unfold rV at h;have:=Ei _ _ h;simpa using this
section
variable {s:List Int} {M:Nat} {vs:Value} {W0:View} {h:Heap} {o0:Own} {m:MS}
variable{vd va:Value}
theorem FM{k c:Nat}{t:Nat}(x:Nx s M vs W0 h o0 m)(hfree:o0 (9,0)=Pz)(hm:m.ok c)(hc:c<=100000)(hk:k<=100)(hb:b<m.blocks.length)(h0:bK [2,3,4,5,7,11,12,13,15,23,24] ρ=[(2,vr),(3,PB (Py ⟨M,0,Pz⟩)),(4,Pv Pw n),(5,vt),(7,vp),(11,vd),(12,Pv Pw t),(13,Pv Pw b),(15,va),(23,Pv Pw k),(24,Pv Pw 0)])(hQ : ∀h':Heap,Nx s M vs W0 h' o0 (up (λ_=>aP s b) k m)->Q .normal [(2,vr),(3,PB (Py ⟨M,0,Pz⟩)),(4,Pv Pw n),(5,vt),(7,vp),(11,vd),(12,Pv Pw t),(13,Pv Pw b),(15,va),(23,Pv Pw k),(24,Pv Pw k)] h'):
  LC.wp PE (.block 22 (.loop L.aq.l12)) Q ρ h:=by
 have oks : ∀j,(up (λ_=>aP s b) j m).ok (c+80*j)/\(up (λ_=>aP s b) j m).blocks.length=m.blocks.length:=by
  intro j;induction j with
  | zero=>exact⟨hm,rfl⟩
  | succ j ih=>exact⟨(ih.1.gE (s:=s) (b:=b)).mono P2,(nQ (s:=s) (b:=b)).trans ih.2⟩
 simp only[aL];refine cT [2,3,4,5,7,11,12,13,15,23,24] (fun(_:Unit) j=>[vr,PB (Py ⟨M,0,Pz⟩),Pv Pw n,vt,vp,vd,Pv Pw t,Pv Pw b,va,Pv Pw k,Pv Pw j]) (λ_ j h2=>Nx s M vs W0 h2 o0 (up (λ_=>aP s b) j m)) k ()
  rfl P2 h0 x (λ_ _=>rfl) (λv k h2 hk2 x2=>by simp) ?_ ?_
 ·rintro _ j h2 hlt x2 K2 hK2;obtain⟨q1,q2⟩:=oks j;have e2:up (λ_=>aP s b) (j+1) m=aP s b (up (λ_=>aP s b) j m):=rfl;rw[e2]at hK2;generalize up (λ_=>aP s b) j m=m2 at x2 hK2 q1 q2;simp only[aL];simp;refine af P1 (wD x2 (b:=b) P2 q1 P2 hfree) ?_;rintro _ h3 x3;exact hK2 () _ _ rfl rfl x3
 rintro _ h2 x2;exact hQ h2 x2
end
theorem Nx.up{s:List Int}{h:Heap}{m:MS}(x:Nx s M vs W h o0 m)(hW:W0.le W):Nx s M vs W0 h o0 m:=by obtain⟨W',o,g,w,f⟩:=x;exact⟨W',o,Pt hW g,w,f⟩
theorem Nx.re{s:List Int}{h:Heap}{o0':Own}{m:MS}(x:Nx s M vs W h o0 m)(he : ∀k,o0' k=o0 k):Nx s M vs W h o0' m:=by obtain⟨W',o,g,w,f⟩:=x;exact⟨W',o,g,w,λk hk=>(f k hk).trans (he k).symm⟩
theorem Nx.kq {po:OP} {s:List Int} {M:Nat} {vs:Value} {W0:View} {h:Heap} {o0:Own} {m:MS} {α:Type} [r:Rep α] {ty e t:TypeId} {us:List (Nat × Value)} {k:Key} {bytes:Nat} {z:Value} {K:Value->Heap->Prop} (x:Nx s M vs W0 h o0 m) (h3:3<=k.1) (hk:o0 k=Pz) (hT:ee PE t e (Rep.n α) bytes z)
  (hK : ∀v h',v.oneCell'=PC->Nx s M vs W0 h' (o0.upd k (it e v ([]:List α))) m->K v h'):@Lft.step po PE (.buildSlice t 0 #[]) ty us h K:=by
 obtain⟨W,o,g,w,f⟩:=x;refine w.own.kq (k:=k) (α:=α) ((f k h3).trans hk) hT λv h2 hle2 hv w2 _=>hK v h2 hv ?_;obtain⟨vb,vl,lb,bb⟩:=w.box;refine⟨W,_,g,⟨w2,w.src,vb,vl,lb,bb.frame λq hq=>Own.aB (by rintro rfl;omega)⟩,λq hq=>?_⟩;unfold Own.upd;split
 ·rfl
 exact f q hq
variable{ty2:TypeId}
theorem Nx.FV{po2:OP}{s:List Int}{h:Heap}{m:MS}{us2:Value->List (Nat × Value)}{c1 c2:Operand}{K:Value->Value->Heap->Prop}(x:Nx s M vs W0 h o0 m)(hc1 : ∀v,asg (us2 v) c1 = PB (Py ⟨M,5,Pz⟩))(hc2 : ∀v,asg (us2 v) c2=v)(hK : ∀v h',Nx s M vs W0 h' o0 (m.cH [])->K v undef h'):@Lft.step po PE (.buildSlice T.aR 0 #[]) ty us h λv h2=>@Lft.step po2 PE (.store T.aR c1 c2) ty2 (us2 v) h2 λw h3=>K v w h3:=by
 obtain⟨W,o,g,w,f⟩:=x;obtain⟨vb,vl,lb,bb⟩:=w.box;have w1:=w.own.sub (o':=o.upd (0,1) Pz) λj i hj=>by
  unfold Own.upd at hj;split at hj
  ·cases hj
  exact hj
 refine w1.kq (k:=(0,1)) (α:=Int) Own.ao El.aR λv h2 hle2 hv w2 _=>?_;have w2:=w2.congr (o':=o.upd (0,1) (it T.int v ([]:List Int))) λq=>by unfold Own.upd;split<;>rfl
 refine w2.dh (k:=(0,0)) (n:=5) (i:=5) (e:=T.aY) (B:=M) (l:=mkL vs m.at_ m.ps vb m.next vl) ((Own.aB Sa).trans bb.box) P4 P1 (hc1 v) (hc2 v) hv λh3 w3 _=>?_;refine hK v h3 ⟨W,_,g,⟨w3,w.src,vb,v,lb,⟨rfl,rfl,(Own.aB Sa).trans ((Own.aB Sa).trans bb.blk),bb.len,bb.term,λi hi=>?_,λi hi=>?_⟩⟩,λk hk=>?_⟩
 ·exact(Own.aB Sa).trans ((Own.aB Sa).trans (bb.phis i hi))
 ·exact(Own.aB Sa).trans ((Own.aB Sa).trans (bb.ins i hi))
 rw[Own.aB (by rintro rfl;simp at hk),Own.aB (by rintro rfl;simp at hk)];exact f k hk
section
variable {s:List Int} {M:Nat} {vs:Value} {W0:View} {h:Heap} {o0:Own} {m:MS}
variable{vd:Value}
theorem Hv{a p:Nat}{t:Nat}{x0:BL × MS}(x:Nx s M vs W0 h (o0.upd (6,0) (it T.bool vd x0.1)) x0.2)(hto:SlRd W0 vt to)(htl:to.length=n)(f7:o0 (7,0)=Pz)(f90:o0 (9,0)=Pz)(f91:o0 (9,1)=Pz)(q:B2 n a p x0)(hn:n<=10)(hp:p<=100)(ha:16000<=a)(ha2:a<=90000)(h0:bK [2,3,4,5,7,11,12,13] ρ=[(2,vr),(3,PB (Py ⟨M,0,Pz⟩)),(4,Pv Pw n),(5,vt),(7,vp),(11,vd),(12,Pv Pw t),(13,Pv Pw 0)])(hQ : ∀h':Heap,Nx s M vs W0 h' (o0.upd (6,0) (it T.bool vd (up (cu s to n) n x0).1)) (up (cu s to n) n x0).2->Q .normal [(2,vr),(3,PB (Py ⟨M,0,Pz⟩)),(4,Pv Pw n),(5,vt),(7,vp),(11,vd),(12,Pv Pw t),(13,Pv Pw n)] h'):
  LC.wp PE (.block 8 (.loop L.aq.l5)) Q ρ h:=by
 have oks : ∀j,j<=n->B2 n (a+600*j) p (up (cu s to n) j x0):=by
  intro j;induction j with
  | zero=>intro _;exact q
  | succ j ih=>intro hj;have:=qk (s:=s) (to:=to) (b:=j) (ih P2) P2 hn hp P2 λh=>pw h;exact⟨this.z.mono P2 (Lp _) (Lp _),this.len,this.none⟩
 simp only[aL];refine cT [2,3,4,5,7,11,12,13] (fun(_:Unit) j=>[vr,PB (Py ⟨M,0,Pz⟩),Pv Pw n,vt,vp,vd,Pv Pw t,Pv Pw j]) (λ_ j h2=>Nx s M vs W0 h2 (o0.upd (6,0) (it T.bool vd (up (cu s to n) j x0).1)) (up (cu s to n) j x0).2) n ()
  rfl P2 h0 x (λ_ _=>rfl) (λv k h2 hk2 x2=>by simp) ?_ ?_
 ·rintro _ b h2 hlt x2 K2 hK2;have q2:=oks b P2;have e2:up (cu s to n) (b+1) x0=cu s to n b (up (cu s to n) b x0):=rfl;rw[e2]at hK2;generalize up (cu s to n) b x0=y at x2 hK2 q2;obtain⟨dn,m⟩:=y;have x2:Nx s M vs W0 h2 (o0.upd (6,0) (it T.bool vd dn)) m:=x2;have z:Sz n (a+600*b) p 700 m:=q2.z;have hdn:dn.length=n:=q2.len;have hbs:cu s to n b (dn,m)=_:=cu.eq_1 s to n b (dn,m);simp only at hbs;have sd:=x2.z.at P4 Own.ao;simp only[aL];refine ab λy hy=>?_;simp(disch:=omega)[sd.idx1 rfl,sd.bool Ps];subst hy;refine ab λy hy=>?_;simp;refine x2.kq (k:=(7,0)) (α:=BL) P4 ((Own.aB Sa).trans f7) El.tL λva h3 hva x3=>?_;clear sd;subst hy;refine ab λy hy=>?_;refine ab λw hw=>?_;simp;subst hw;refine GN (vr:=vr) (vt:=vt) (vp:=vp) (vd:=vd) (t:=t) (b:=b) (r:=!nth dn b) x3 ((Own.aB Sa).trans f7) z P2 (by simp[bK,ag,ah]) λh4 W4 va hW4 x4 sa=>?_;clear x3 hva x2;have hal:(pQ m.f n).length=n:=by unfold pQ;simp
  have har : ∀i,i<n->(nth (pQ m.f n) i).length=n:=λi hi=>by unfold pQ;rw[ft hi,rE];exact z.len
  generalize pQ m.f n=away at sa hbs hal har;simp;subst hy;refine ab λy hy=>?_;refine ab λw hw=>?_;simp;subst hw;have sd:=x4.z.at P4 Own.ao;refine GM (M:=M) (n:=n) (b:=b) (vr:=vr) (vt:=vt) (vp:=vp) (vd:=vd) (va:=va) (t:=t) (r:=!nth dn b) sd (sa.mono x4.z.le) hlt hdn hal har P2 (by simp[bK,ag,ah]) ?_;have hrd:up (λa r=>r&&(decide (a=b)||nth dn a||nth (nth away a) b)) n (!nth dn b)=rV dn away b n:=rfl;rw[hrd];simp;subst hy;refine ab λy hy=>?_;refine ab λw hw=>?_;simp;subst hw;cases hr:rV dn away b n with
  | false=>rw[hr]at hbs;rw[if_neg Sa]at hbs;refine aW Sa ?_;simp;refine hK2 () _ _ rfl rfl ?_;rw[hbs];exact x4.up hW4
  | true=>
   rw[hr]at hbs;rw[if_pos rfl]at hbs;have hnb:=pw hr;have hib:=q2.none b hlt hnb;refine aV Sa ?_;simp;subst hy;refine ab λy hy=>?_;simp(disch:=omega)[sd.idx1 rfl];refine x4.z.uy (k:=(6,0)) (α:=Bool) (i:=b) (d:=true) rfl P4 Own.ao P2 P1 rfl rfl (λW=>tR.2 rfl) λh5 n5=>?_;have x5:Nx s M vs W4 h5 (o0.upd (6,0) (it T.bool vd (dn.set b PC))) m:=n5.x.re λq=>by rw[eD]
   clear n5 x4 sd;subst hy;refine ab λy hy=>?_;simp;refine x5.FV (λ_=>rfl) (λ_=>rfl) λv6 h6 x6=>?_;subst hy;obtain⟨c,hc⟩ : ∃c:Nat,m.ps=c:=⟨m.ps.toNat,by have:=z.ps0;omega⟩;have hc4:c<=4:=by have:=z.ps1;omega
   refine ab λy hy=>?_;refine ab λw hw=>?_;simp;subst hw;refine HG (n:=n) (b:=b) (vr:=vr) (vt:=vt) (vp:=vp) (vd:=vd) (va:=va) (t:=t) (r:=true) x6 z hc (by simp[bK,ag,ah]) λh7 x7=>?_;simp;subst hy;refine ab λy hy=>?_;refine ab λw hw=>?_;simp;subst hw;refine G2 (n:=n) (b:=b) (vr:=vr) (vt:=vt) (vp:=vp) (vd:=vd) (va:=va) (t:=t) (dn:=dn.set b PC) (away:=away) x7 z Own.ao sa hlt (by rw[LU];exact hdn) hal har hn P9 P2 P2 (by simp[bK,ag,ah]) λh8 x8=>?_;have hlv:up (gN m (dn.set b PC) away b) n (rows (λi=>(i:Int)) c)=lY m (dn.set b PC) away b n:=by unfold lY;rw[hc];rfl
   rw[hlv]at x8;have hll:=xg (dn:=dn.set b PC) (away:=away) (b:=b) z hn hp;have hdo:iH s to n (dn.set b PC) away b m=oA s (nth to b) b (up (λ_=>aP s b) (aI s m.at_ 7).toNat (MS.took (m.cH (lY m (dn.set b PC) away b n)))):=rfl;rw[hdo]at hbs;obtain⟨m1,hm1⟩ : ∃m1,m1=m.cH (lY m (dn.set b PC) away b n):=⟨_,rfl⟩;have z1:Sz n (a+600*b) p 700 m1:=by rw[hm1];exact⟨z.at_,z.n0,z.next,by show(lY _ _ _ _ _).length<=_;omega,z.ps0,z.ps1,z.len,z.phis,z.ins⟩
   have ea:m.at_=m1.at_:=by rw[hm1];rfl
   rw[<-hm1]at x8 hbs;rw[ea]at hbs;clear hlv hdo hm1 ea x7 x6 x5;simp;subst hy;refine ab λy hy=>?_;simp;refine af P1 (eh x8.z (z1.ok P2) P2 (k:=7) P4 P4) ?_;rintro _ h9 ⟨rfl,n9⟩;obtain⟨t0,t1⟩:=cI (s:=s) (at_:=m1.at_) (n:=7) P4;generalize aI s m1.at_ 7=kk at hbs t0 t1;obtain⟨k,rfl⟩ : ∃k:Nat,kk=k:=⟨kk.toNat,by omega⟩;rw[show((k:Int)).toNat=k by omega]at hbs;subst hy;refine ab λy hy=>?_;refine ab λw hw=>?_;simp;subst hw;have zok:=(z1.took).ok (show 700<=_ by omega);refine FM (n:=n) (b:=b) (k:=k) (c:=a+600*b+1) (vr:=vr) (vt:=vt) (vp:=vp) (vd:=vd) (va:=va) (t:=t) n9.x ((Own.aB Sa).trans f90) zok P2 P2 (by show b<m1.blocks.length;rw[z1.len];exact hlt) (by simp[bK,ag,ah]) λh10 x10=>?_;have oks2 : ∀j,(up (λ_=>aP s b) j m1.took).ok (a+600*b+1+80*j)/\(up (λ_=>aP s b) j m1.took).blocks.length=n:=by
    intro j;induction j with
    | zero=>exact⟨zok,z1.len⟩
    | succ j ih=>exact⟨(ih.1.gE (s:=s) (b:=b)).mono P2,(nQ (s:=s) (b:=b)).trans ih.2⟩
   obtain⟨k1,k2⟩:=oks2 k;generalize up (λ_=>aP s b) k m1.took=m2 at x10 hbs k1 k2;obtain⟨rv,hrv⟩:=hto.rows;obtain⟨hr1,hr2⟩:=hrv b P2;have ito:=(hto.mono hW4).mono x10.z.le;simp;subst hy;simp(disch:=omega)[ito.idx1 rfl,hr1 _ (Pt hW4 x10.z.le)];refine af P1 (Jm x10 (b:=b) P2 k1 P2 ((Own.aB Sa).trans f91) (hr2.mono hW4)) ?_;rintro _ h11 x11;refine hK2 () _ _ rfl rfl ?_;rw[hbs];exact x11.up hW4
 rintro _ h2 x2;exact hQ h2 x2
end
section
structure GdB (x:BlkD):Prop where
 ins : ∀i∈x.ins,i.args.length<=10
 args:x.term.args.length<=10
 to:x.term.to.length<=1000
 phis : ∀p∈x.phis,p.ins.length<=1000
def Gd (m:MS):Prop:=∀j,j<m.blocks.length->GdB (nth m.blocks j)
variable {s:List Int} {m:MS} {b:Nat}
theorem Gd.took (g:Gd m):Gd m.took:=g
theorem Gd.aK (g:Gd m):Gd m.aK:=g
theorem Gd.fG(g:Gd m){x:BlkD}(hx:b<m.blocks.length->GdB x):Gd { m with blocks:=m.blocks.set b x }:=λj hj=>by
 have hj:j<m.blocks.length:=by simpa using hj
 show GdB (nth (m.blocks.set b x) j);rw[bz hj];split
 ·rename_i e;exact hx P2
 exact g j hj
theorem Gd.add (g:Gd m) {i:InsD} (hi:i.args.length<=10):Gd (m.add b i):=by
 have:=g.fG (b:=b) (x:={ nth m.blocks b with ins:=(nth m.blocks b).ins++[i] }) λhb=>⟨λj hj=>by
  rcases Lv.1 hj with h | h
  ·exact(g b hb).ins j h
  rw[Ls]at h;rw[h];exact hi,(g b hb).args,(g b hb).to,(g b hb).phis⟩;exact this
theorem Gd.constant (g:Gd m) {n:Int}:Gd (m.constant b n):=g.aK.add (by show 0<=10;omega)
theorem Gd.two (g:Gd m) {op x y:Int}:Gd (m.two b op x y):=g.aK.add (by show 2<=10;omega)
theorem Gd.aJ (g:Gd m):Gd (aJ s m b).2:=by
 unfold Go.Proofs.YtnfiilgdjpdlkaaGreatDoor.aJ;repeat' split
 ·exact g.took.took.constant
 ·exact g.took.took.took.took.took.constant
 exact g.took.took.took
theorem Gd.addr(g:Gd m):Gd (nR s m b).2:=by
 unfold nR;simp only;split
 ·exact g.took.constant.took.aJ.constant.two.two
 exact g.took.constant.took
theorem Gd.off(g:Gd m):Gd (offS s m).2:=by
 unfold offS;split
 ·exact g.took.took.took.took
 exact g.took.took
theorem Gd.memory(g:Gd m){st:Bool}:Gd (iL s m b st):=by
 unfold iL;simp only;split
 ·exact g.addr.off.aJ.add (by show 2<=10;omega)
 exact g.addr.off.aK.add (by show 1<=10;omega)
theorem Gd.bin(g:Gd m){op:Int}:Gd (binS s m b op):=by
 unfold binS;simp only;split
 ·exact g.aJ.aJ.took.took.constant.two
 exact g.aJ.aJ.took.two
theorem Gd.div(g:Gd m):Gd (divS s m b):=by
 unfold divS;simp only;split
 ·exact g.aJ.took.constant.took.took.constant.two
 exact g.aJ.took.constant.took.two
theorem Gd.args {x:List Int × MS} (g:Gd x.2) : ∀n,Gd (up (gK s b) n x).2/\(up (gK s b) n x).1.length=x.1.length+n
 | 0=>⟨g,rfl⟩
 | n+1=>⟨(Gd.args g n).1.aJ,by show((up (gK s b) n x).1++[_]).length=_;rw[Lx,(Gd.args g n).2,LP];omega⟩
theorem Gd.call(g:Gd m):Gd (nT s m b):=by unfold nT;simp only;have ht:=cI (s:=s) (at_:=m.at_) (n:=5) P4;obtain⟨g2,l2⟩:=Gd.args (s:=s) (b:=b) (x:=([],m.took)) g.took (aI s m.at_ 5).toNat;refine g2.aK.took.add ?_;show(up (gK s b) (aI s m.at_ 5).toNat ([],m.took)).1.length<=10;rw[l2];simp;omega
theorem Gd.gE(g:Gd m):Gd (aP s b m):=by
 unfold aP;simp only;repeat' split
 ·exact g.took.bin
 ·unfold ltuS;exact g.took.aJ.aJ.two
 ·exact g.took.div
 ·exact g.took.memory
 ·exact g.took.call
 ·unfold xG;exact g.took.aJ.aJ.aK.aK.add (by show 2<=10;omega)
 exact g.took.took.took.constant
theorem Gd.gT (g:Gd m) : ∀n,Gd (up (λ_=>aP s b) n m)
 | 0=>g
 | n+1=>(Gd.gT g n).gE
theorem Gd.JQ(g:Gd m){to:List Int}(ht:to.length<=1000):Gd (oA s to b m):=by
 have h:Gd (ia s to b m).2/\(ia s to b m).1.args.length<=10/\(ia s to b m).1.to.length<=1000:=by
  unfold ia;simp only;repeat' split
  ·exact⟨g.took.took,by show 0<=10;omega,by show 0<=1000;omega⟩
  ·exact⟨g.took.aJ,by show 1<=10;omega,by show 0<=1000;omega⟩
  ·exact⟨g.took,by show 0<=10;omega,by show 0<=1000;omega⟩
  ·exact⟨g,by show 0<=10;omega,ht⟩
  ·exact⟨g.aJ.took.aJ.aK.took.add (by show 2<=10;omega),by show 1<=10;omega,ht⟩
  ·exact⟨g.aJ.took,by show 1<=10;omega,ht⟩
  exact⟨g.aJ.constant.two,by show 1<=10;omega,ht⟩
 obtain⟨h1,h2,h3⟩:=h;exact h1.fG λhb=>⟨(h1 b hb).ins,h2,h3,(h1 b hb).phis⟩
theorem Gd.lC (g:Gd m) {l:List Int} (hl:l.length<=1000):Gd (m.lC b l):=g.fG λhb=>⟨(g b hb).ins,(g b hb).args,hl,(g b hb).phis⟩
theorem Gd.eB (g:Gd m):Gd (Go.Proofs.YtnfiilgdjpdlkaaGreatDoor.eB b m):=by
 have:=g.aK.fG (b:=b) (x:={ nth m.blocks b with phis:=(nth m.blocks b).phis++[⟨m.next,[]⟩] }) λhb=>⟨(g b hb).ins,(g b hb).args,(g b hb).to,λp hp=>by
  rcases Lv.1 hp with h | h
  ·exact(g b hb).phis p h
  rw[Ls]at h;rw[h];show 0<=1000;omega⟩;exact this
theorem Gd.oZ (g:Gd m) : ∀n,Gd (up (λ_=>Go.Proofs.YtnfiilgdjpdlkaaGreatDoor.eB b) n m)
 | 0=>g
 | n+1=>(Gd.oZ g n).eB
theorem Gd.qT (g:Gd m) {i:Nat} {l:List InD} (hl:l.length<=1000):Gd (m.qT b i l):=g.fG λhb=>⟨(g b hb).ins,(g b hb).args,(g b hb).to,λp hp=>by
 rcases NP hp with h | h
 ·exact(g b hb).phis p h
 rw[h];exact hl⟩
theorem Gd.smF{a p i:Nat}(g:Gd m)(z:Sz n a p i m)(hn:n<=10000)(hp:p<=10000)(hi:i<=10000):SmF m.f:=by refine⟨by show m.blocks.length<=_;rw[z.len];exact hn,λj hj=>?_⟩;have hj:j<m.blocks.length:=hj;have h:=g j hj;have e:nth m.f.blocks j=nth m.blocks j:=rfl;rw[e];exact⟨LG (z.phis j) hp,LG (z.ins j) hi,by have:=h.args;omega,by have:=h.to;omega,λk hk=>by have:=h.phis _ (bC hk);omega,λk hk=>by have:=h.ins _ (bC hk);omega⟩
theorem vW {f:aj} : ∀n,∀t∈thTo f n,t.mks.length<=1000
 | 0,t,h=>by cases h
 | n+1,t,h=>by
  rw[fY]at h;rcases Lv.1 h with h | h
  ·exact vW n t h
  unfold thB at h;simp only[Lv,Ls,rows,MN,M0]at h;rcases h with(⟨i,_,rfl⟩ | ⟨i,_,rfl⟩) | rfl
  ·show 1<=1000;omega
  ·show(cr _).length<=1000;unfold cr;repeat' split
   all_goals simp
  show 0<=1000;omega
theorem yY {n a p i:Nat} (z:Sz n a p i m) : ∀k,(thTo m.f k).length<=(p+i+1)*k
 | 0=>Lp _
 | k+1=>by have h1:=yY z k;have h2:=z.phis k;have h3:=z.ins k;have e:nth m.f.blocks k=nth m.blocks k:=rfl;rw[fY,Lx,OK];unfold thB;simp only[Lx,mN,LP,e];omega
theorem qL{a p i:Nat}(z:Sz n a p i m)(hn:n<=10)(hp:p<=1000)(hi:i<=3000):(aD m.f).length<=60000:=by
 have h1:=yY z n;have h2:(p+i+1)*n<=5000*10:=NJ P2 hn;have e:aD m.f=thTo m.f n:=by unfold aD;rw[show m.f.blocks.length=n from z.len]
 rw[e];omega
theorem vR{a p i:Nat}(z:Sz n a p i m)(hn:n<=10)(hp:p<=1000)(hi:i<=3000):(gR m.f b).length<=70000000:=by
 have h:=xp (l:=aD m.f) (f:=m.f) (b:=b) (c:=1000) (vW _) (out:=rows (λi=>(i:Int)) m.f.params.toNat);have h2:=qL z hn hp hi;have h3:m.f.params.toNat<=4:=by have:=z.ps1;show m.ps.toNat<=4;omega
 rw[mN]at h;have e:gR m.f b=(aD m.f).foldl (dT m.f b) (rows (λi=>(i:Int)) m.f.params.toNat):=rfl;rw[e];omega
end
structure P3 (n a p i:Nat) (m:MS):Prop where
 z:Sz n a p i m
 g:Gd m
theorem P3.mono {n a p i a' p' i':Nat} {m:MS} (q:P3 n a p i m) (h1:a<=a') (h2:p<=p') (h3:i<=i'):P3 n a' p' i' m:=⟨q.z.mono h1 h2 h3,q.g⟩
theorem Sz.const{a p i:Nat}{m:MS}{k:Int}(z:Sz n a p i m):Sz n (a+3) p (i+1) (m.constant b k):=by have h1:Sz n (a+3) p (i+1) { m.aK with live:=m.live++cr (conD m.next k) }:=⟨by have:=z.at_;show m.at_<=_;omega,by have:=z.n0;show 0<=m.next+1;omega,by have:=z.next;show m.next+1<=_;omega,by have:=z.live;show(m.live++[m.next]).length<=_;rw[Lx,LP];omega,z.ps0,z.ps1,z.len,z.phis,λj=>by have:=z.ins j;show(nth m.blocks j).ins.length<=_;omega⟩;exact h1.fG (b:=b) (x:={ nth m.blocks b with ins:=(nth m.blocks b).ins++[conD m.next k] }) (z.phis b) (by have:=z.ins b;show((nth m.blocks b).ins++[_]).length<=_;rw[Lx,LP];omega)
theorem Sz.qT {n a p i b j:Nat} {m:MS} {l:List InD} (z:Sz n a p i m):Sz n a p i (m.qT b j l):=
 z.fG (by show((nth m.blocks b).phis.set j _).length<=_;rw[LU];exact z.phis b) (z.ins b)
def rowS (s:List Int) (b:Nat) (m:MS):List Int × MS:=if(gR m.f b).length=0 then([m.next],m.took.took.constant b (ke s m)) else(gR m.f b,m)
theorem EW{s:List Int}{m:MS}:0<(rowS s b m).1.length:=by
 unfold rowS;split
 ·show 0<1;omega
 show 0<(gR m.f b).length;omega
theorem Ex{s:List Int}{a p i:Nat}{m:MS}(z:Sz n a p i m)(hn:n<=10)(hp:p<=1000)(hi:i<=3000):(rowS s b m).1.length<=70000000:=by
 unfold rowS;split
 ·show 1<=70000000;omega
 exact vR z hn hp hi
theorem Cz{s:List Int}{a p i:Nat}{m:MS}(q:P3 n a p i m):P3 n (a+5) p (i+1) (rowS s b m).2:=by
 unfold rowS;split
 ·exact⟨(q.z.took.took.const).mono P2 (Lp _) (Lp _),q.g.took.took.constant⟩
 exact q.mono P2 (Lp _) P2
theorem DB{s:List Int}{p:List Int}{k:Nat}{x:List InD × MS}(h:nth p k=b):dt s p k x=(x.1++[⟨b,nth (rowS s b x.2).1 (aI s (rowS s b x.2).2.at_ (rowS s b x.2).1.length).toNat⟩],(rowS s b x.2).2.took):=by unfold dt;rw[h];rfl
theorem jR {s:List Int} {n a p i:Nat} {pl:List Int} {x:List InD × MS} (q:P3 n a p i x.2) : ∀k,P3 n (a+6*k) p (i+k) (up (dt s pl) k x).2/\(up (dt s pl) k x).1.length=x.1.length+k
 | 0=>⟨q,rfl⟩
 | k+1=>by
  obtain⟨h1,h2⟩:=jR (pl:=pl) q k;have h3:=Cz (s:=s) (b:=(nth pl k).toNat) h1;refine⟨?_,?_⟩
  ·have e:(up (dt s pl) (k+1) x).2=(rowS s (nth pl k).toNat (up (dt s pl) k x).2).2.took:=rfl;rw[e];exact⟨(h3.z.took).mono P2 (Lp _) P2,h3.g.took⟩
  have e:(up (dt s pl) (k+1) x).1=(up (dt s pl) k x).1++[⟨nth pl k,nth (rowS s (nth pl k).toNat (up (dt s pl) k x).2).1 (aI s (rowS s (nth pl k).toNat (up (dt s pl) k x).2).2.at_ (rowS s (nth pl k).toNat (up (dt s pl) k x).2).1.length).toNat⟩]:=rfl;rw[e,Lx,h2,LP];omega
variable{pl:List Int}
theorem Hf{s:List Int}{a p i j:Nat}{m:MS}(q:P3 n a p i m)(hp:pl.length<=9):P3 n (a+54) p (i+9) (phi3 s b pl j m):=by obtain⟨h1,h2⟩:=jR (s:=s) (pl:=pl) (x:=([],m)) q pl.length;exact⟨(h1.z.qT).mono P2 (Lp _) P2,h1.g.qT (by rw[h2];show 0+_<=_;omega)⟩
theorem nc {s:List Int} {n a p i b:Nat} {pl:List Int} {m:MS} (q:P3 n a p i m) (hp:pl.length<=9) : ∀k,P3 n (a+54*k) p (i+9*k) (up (phi3 s b pl) k m)
 | 0=>q
 | k+1=>(Hf (nc q hp k) hp).mono P2 (Lp _) P2
theorem Jq{H:View}{a b:Int}(ha:I64 a)(hb:I64 b):Rd H (.agg #[Pv Pw a,Pv Pw b]) (InD.mk a b):=⟨_,rfl,[Pv Pw a],[Pv Pw b],rfl,⟨rfl,ha⟩,rfl,hb⟩
section
variable {s:List Int} {M:Nat} {vs:Value} {W0:View} {h:Heap} {o0:Own} {m:MS}
theorem Nx.Gv(x:Nx s M vs W0 h o0 m){h':Heap}{k:Key}{u:Value}{l:List Int}(h3:3<=k.1)(hk:o0 k=Pz)(hle:(vw h).le (vw h'))(hb : ∀b,u.ownBlock=Py b->h.size<=b)(ho:OwnT nothing h' T.int u l):Nx s M vs W0 h' (o0.upd k (it T.int u l)) m:=by
 obtain⟨W,o,g,w,f⟩:=x;have w2:=w.own.add (k:=k) ((f k h3).trans hk) (zE (W':=W) ho) hle hb;obtain⟨vb,vl,lb,bb⟩:=w.box;refine⟨W,_,g,⟨w2,w.src,vb,vl,lb,bb.frame λq hq=>Own.aB (by rintro rfl;omega)⟩,λq hq=>?_⟩;unfold Own.upd;split
 ·rfl
 exact f q hq
theorem Nx.freeze {α:Type} [r:Rep α] {k:Key} {e:TypeId} {v:Value} {l:List α} (x:Nx s M vs W0 h (o0.upd k (it e v l)) m) (h3:3<=k.1) (hk:o0 k=Pz) : ∃W',W0.le W'/\Nx s M vs W' h o0 m/\SlRd W' v l:=by
 obtain⟨W,o,g,w,f⟩:=x;have hk2:=(f k h3).trans Own.ao;obtain⟨w2,sl⟩:=w.own.freeze hk2;have hWp:=jm (h:=h) (w.own.av _ _ hk2);obtain⟨vb,vl,lb,bb⟩:=w.box;refine⟨_,Pt g hWp,⟨_,_,View.le_refl _,⟨w2,w.src.mono hWp,vb,vl,lb,bb.frame λq hq=>Own.aB (by rintro rfl;omega)⟩,λq hq=>?_⟩,sl⟩;by_cases e2:q=k
 ·rw[e2,Own.ao,hk]
 rw[Own.aB e2,f q hq,Own.aB e2]
theorem Nx.iN {po po2:OP} {α:Type} [r:Rep α] {k:Key} {e t ty ty2:TypeId} {bytes:Nat} {z:Value} {v:Value} {l:List α} (x:Nx s M vs W0 h o0 m) (h3:3<=k.1) (hk:o0 k=it e v l) {a y y2:Operand} {us:List (Nat × Value)} {us2:Value->List (Nat × Value)} {u:Value} {d:α} {K:Value->Value->Heap->Prop} (hT:ee PE t e (Rep.n α) bytes z) (hx:asg us a=u) (hr : ∀W,Rd W u d)
  (hb:(l.length+1)*bytes<=140737488355328) (hb2:l.length+1<=140737488355328) (hy : ∀u,asg (us2 u) y=v) (hy2 : ∀u,asg (us2 u) y2=u)
  (hK : ∀u v' h',Nx s M vs W0 h' (o0.upd k (it e v' (l++[d]))) m->K u v' h') :
  @Lft.step po PE (.buildSlice t 1 #[(0,a)]) ty us h λu h2=>@Lft.step po2 PE (.call ⟨.builtin .append,#[y,y2],#[t,t]⟩) ty2 (us2 u) h2 λv' h3=>K u v' h3:=by
 obtain⟨W,o,g,w,f⟩:=x;refine w.own.iN (k:=k) (d:=d) ((f k h3).trans hk) hT hx (hr W) hb hb2 hy hy2 λu v' h' w2 _=>hK u v' h' ?_;obtain⟨vb,vl,lb,bb⟩:=w.box;refine⟨W,_,g,⟨w2,w.src,vb,vl,lb,bb.frame λq hq=>Own.aB (by rintro rfl;omega)⟩,λq hq=>?_⟩;unfold Own.upd;split
 ·rfl
 exact f q hq
variable{vd:Value}
theorem FU{a p i j:Nat}{vq vi:Value}(x:Nx s M vs W0 h (o0.upd (7,2) (it T.sy vi ([]:List InD))) m)(f71:o0 (7,1)=Pz)(q:P3 n a p i m)(hn:n<=10)(ha:a<=500000)(hia:i<=a)(hp:p<=100)(hi:i<=2000)(hq:SlRd W0 vq pl)(hpl:pl.length<=9)(hpr : ∀k,k<pl.length->∃c:Nat,nth pl k=c/\c<n)(h0:bK [2,3,4,5,7,11,25,26,27,28,29] ρ=[(2,vr),(3,PB (Py ⟨M,0,Pz⟩)),(4,Pv Pw n),(5,vt),(7,vp),(11,vd),(25,Pv Pw b),(26,vq),(27,Pv Pw j),(28,vi),(29,Pv Pw 0)])(hQ : ∀(h':Heap) vi,Nx s M vs W0 h' (o0.upd (7,2) (it T.sy vi (up (dt s pl) pl.length ([],m)).1)) (up (dt s pl) pl.length ([],m)).2->Q .normal [(2,vr),(3,PB (Py ⟨M,0,Pz⟩)),(4,Pv Pw n),(5,vt),(7,vp),(11,vd),(25,Pv Pw b),(26,vq),(27,Pv Pw j),(28,vi),(29,Pv Pw pl.length)] h'):
  LC.wp PE (.block 28 (.loop L.aq.l15)) Q ρ h:=by
 simp only[aL];refine cT [2,3,4,5,7,11,25,26,27,28,29] (fun(vi:Value) k=>[vr,PB (Py ⟨M,0,Pz⟩),Pv Pw n,vt,vp,vd,Pv Pw b,vq,Pv Pw j,vi,Pv Pw k]) (λvi k h2=>Nx s M vs W0 h2 (o0.upd (7,2) (it T.sy vi (up (dt s pl) k ([],m)).1)) (up (dt s pl) k ([],m)).2) pl.length vi
  rfl P2 h0 x (λ_ _=>rfl) (λv k h2 hk2 x2=>by simp[hq.len]) ?_ ?_
 ·rintro vi k h2 hlt x2 K2 hK2;obtain⟨q2,hl2⟩:=jR (s:=s) (pl:=pl) (x:=([],m)) q k;obtain⟨c,hc,hcn⟩:=hpr k hlt;have e2:up (dt s pl) (k+1) ([],m)=dt s pl k (up (dt s pl) k ([],m)):=rfl;rw[e2,DB hc]at hK2;have hl2:(up (dt s pl) k ([],m)).1.length<=9:=by rw[hl2];simp;omega
  generalize up (dt s pl) k ([],m)=y at x2 hK2 q2 hl2;obtain⟨il,m2⟩:=y;have q2:P3 n (a+54) p (i+9) m2:=P3.mono q2 P2 (Lp _) P2;have hl2:il.length<=9:=hl2;have x2:Nx s M vs W0 h2 (o0.upd (7,2) (it T.sy vi il)) m2:=x2;simp only at hK2;have hcell : ∀{h':Heap},W0.le (vw h')->ak (vw h') ((slA vq).add k)=Py (Pv Pw c):=λg=>by rw[hq.int g hlt,hc]
  have hcell0:ak W0 ((slA vq).add k)=Py (Pv Pw c):=by rw[hq.int Ps hlt,hc]
  have hrow:rowS s c m2=_:=rowS.eq_1 s c m2;have hq3:=Cz (s:=s) (b:=c) q2;have hpos:=EW (s:=s) (b:=c) (m:=m2);have hrl0:=Ex (s:=s) (b:=c) q2.z hn P2 P2;simp only[aL];refine ab λy hy=>?_;obtain⟨vb,vl,rd⟩:=x2.z.reads;refine aT (vw h2) Ps ?_;simp(disch:=omega)[rd.f,(hq.mono x2.z.le).idx1 rfl,hcell x2.z.le];have hth:(aD m2.f).length<=60000:=qL q2.z hn P2 P2;refine af P1 (zP (b:=c) (rd.rd (Em q2.z)) (q2.g.smF q2.z P2 P2 P2) ⟨q2.z.ps0,by have:=q2.z.ps1;show m2.ps<=_;omega⟩ (by show c<m2.blocks.length;rw[q2.z.len];exact hcn) (vW _) P2) ?_;rintro u3 h3 ⟨hle3,hb3,ho3⟩;have x3:=x2.Gv (k:=(7,1)) P4 ((Own.aB Sa).trans f71) hle3 hb3 ho3;clear rd x2 ho3 hb3;generalize gR m2.f c=sl at x3 hrow;subst hy;refine ab λy hy=>?_;have fin : ∀(v30:Value) (h':Heap) (ρ:Env),Nx s M vs W0 h' ((o0.upd (7,2) (it T.sy vi il)).upd (7,1) (it T.int v30 (rowS s c m2).1)) (rowS s c m2).2->Lft.look ρ 2=Py vr->Lft.look ρ 3=Py (PB (Py ⟨M,0,Pz⟩))->Lft.look ρ 4=Py (Pv Pw n)->Lft.look ρ 5=Py vt->Lft.look ρ 7=Py vp->Lft.look ρ 11=Py vd->Lft.look ρ 25=Py (Pv Pw b)->Lft.look ρ 26=Py vq->Lft.look ρ 27=Py (Pv Pw j)->Lft.look ρ 28=Py vi->Lft.look ρ 29=Py (Pv Pw k)->Lft.look ρ 30=Py v30->
    LC.wp PE y (eA 29 (eG K2 (eA 28 Q))) ρ h':=by
   intro v30 h' ρ x4 r2 r3 r4 r5 r7 r11 r25 r26 r27 r28 r29 r30;subst hy;generalize rowS s c m2=r at x4 hK2 hq3 hpos hrl0;obtain⟨W4,hW4,x4,s4⟩:=x4.freeze P4 ((Own.aB Sa).trans f71);have hrl:=s4.bound;refine aT W4 x4.z.le ?_;simp(disch:=omega)[ag,ah,r2,r3,r4,r5,r7,r11,r25,r26,r27,r28,r29,r30,(hq.mono hW4).idx1 rfl,ae hW4 hcell0,s4.len];refine af P1 (eh x4.z (hq3.z.ok P2) P2 (k:=(r.1.length:Int)) P2 P2) ?_;rintro _ h5 ⟨rfl,n5⟩;refine⟨n5.le,?_⟩;obtain⟨t0,t1⟩:=cI (s:=s) (at_:=r.2.at_) (n:=(r.1.length:Int)) P2;generalize aI s r.2.at_ (r.1.length:Int)=tv at t0 t1 hK2;have hrng:=s4.range (i:=tv.toNat) P2;simp(disch:=omega)[ag,ah,r2,r3,r4,r5,r7,r11,r25,r26,r27,r28,r29,r30,s4.idx1 rfl,s4.int Ps];refine ay (z:=.agg #[Pv Pw 0,Pv Pw 0]) (places:=[(0,1),(1,1)]) (vs:=[(0,Pv Pw c),(1,Pv Pw (nth r.1 tv.toNat))]) (cs:=#[Pv Pw c,Pv Pw (nth r.1 tv.toNat)]) P1 P1 Sa P1 ?_;refine n5.x.iN (k:=(7,2)) (α:=InD) (d:=⟨c,nth r.1 tv.toNat⟩) P4 Own.ao El.qF rfl (λW=>Jq P6 hrng) P2 P2 (λ_=>rfl) (λ_=>rfl) λu v' h6 x6=>?_;refine hK2 v' _ _ ?_ ?_ ((x6.re λq=>by rw[eD]).up hW4)
   ·simp[ag,ah,r29]
   simp[bK,ag,ah,r2,r3,r4,r5,r7,r11,r25,r26,r27,r28,r29]
  have hsl:=(x3.z.at (k:=(7,1)) P4 Own.ao).len (K:=vw h3);have hlen3 : ∀{Q:View},Un.ev Q .len u3=Py (Pv Pw sl.length):=fun{Q}=>(x3.z.at (k:=(7,1)) P4 Own.ao).len;refine ab λw hw=>?_;simp[hlen3];subst hw;by_cases c0:sl.length=0
  ·have c0':sl=[]:=LH c0;rw[if_pos c0]at hrow;refine aW (by simp[c0,c0']) ?_;refine aT W0 x3.z.le ?_;simp(disch:=omega)[hq.idx1 rfl,hcell0];refine af P1 (yu x3.z (q2.z.ok P2) P2) ?_;rintro _ h4 ⟨rfl,n4⟩;refine⟨n4.le,?_⟩;refine af P1 (fE n4 (b:=c) (by show c<m2.blocks.length;rw[q2.z.len];exact hcn) (q2.z.took.took.ok P2) P2 oP) ?_;rintro _ h5 ⟨rfl,n5⟩;have i64:I64 m2.next:=by have:=q2.z.n0;have:=q2.z.next;constructor<;>omega
   subst c0';refine n5.x.iN (k:=(7,1)) (α:=Int) (d:=m2.next) P4 Own.ao El.aR rfl (λW=>bn.2 ⟨rfl,i64⟩) Sa Sa (λ_=>rfl) (λ_=>rfl) λu v' h6 x6=>?_;refine fin v' h6 _ ?_ ?_ ?_ ?_ ?_ ?_ ?_ ?_ ?_ ?_ ?_ ?_ ?_
   ·rw[hrow];exact x6.re λq=>by rw[eD];rfl
   all_goals simp
  rw[if_neg c0]at hrow;have c0':¬sl=[]:=λe=>c0 (by rw[e];rfl);refine aV (by simp[c0']) ?_;simp;refine fin u3 h3 _ ?_ ?_ ?_ ?_ ?_ ?_ ?_ ?_ ?_ ?_ ?_ ?_ ?_
  ·rw[hrow];exact x3
  all_goals simp
 rintro vi h2 x2;exact hQ h2 vi x2
end
def Pc (lp:List Int) (m:MS):Prop:=∀j,((nth m.blocks j).phis.length:Int)=nth lp j
variable{lp:List Int}
theorem Pc.grw{m m':MS}{k:Nat}(p:Pc lp m)(g:Grw b k m m'):Pc lp m':=λj=>by
 by_cases e:j=b
 ·subst e;rw[g.phis];exact p j
 rw[g.els j e];exact p j
theorem Pc.fG{m:MS}{x:BlkD}(p:Pc lp m)(hx:x.phis.length=(nth m.blocks b).phis.length):Pc lp { m with blocks:=m.blocks.set b x }:=λj=>by
 show((nth (m.blocks.set b x) j).phis.length:Int)=_;rcases Lr j m.blocks.length with hl | hl
 ·rw[bz hl];split
  ·rename_i e;subst e;rw[hx];exact p b
  exact p j
 rw[cL (by simpa using hl)];have:=p j;rwa [cL hl]at this
theorem Pc.iH {s:List Int} {to:List (List Int)} {n b:Nat} {dn:BL} {away:List BL} {lp:List Int} {m:MS} (p:Pc lp m) (hb:b<m.blocks.length):Pc lp (iH s to n dn away b m):=by have p1:Pc lp (MS.took { m with live:=lY m dn away b n }):=p;have hb1:b<(MS.took { m with live:=lY m dn away b n }).blocks.length:=hb;have g:=((Grw.refl (b:=b) (m:=MS.took { m with live:=lY m dn away b n })).gT (s:=s) hb1 (aI s m.at_ 7).toNat).HY (s:=s) (to:=nth to b) hb1;exact(p1.grw g).fG rfl
theorem Pc.cu {s:List Int} {to:List (List Int)} {n b:Nat} {lp:List Int} {x:BL × MS} (p:Pc lp x.2) (hb:b<x.2.blocks.length):Pc lp (cu s to n b x).2:=by
 unfold Go.Proofs.YtnfiilgdjpdlkaaGreatDoor.cu;split
 ·exact p.iH hb
 exact p
theorem Pc.rowS {s:List Int} {b:Nat} {lp:List Int} {m:MS} (p:Pc lp m) (hb:b<m.blocks.length):Pc lp (rowS s b m).2:=by
 unfold Go.Proofs.YtnfiilgdjpdlkaaGreatDoor.rowS;split
 ·have p1:Pc lp m.took.took:=p;exact p1.grw ((Grw.refl (b:=b) (m:=m.took.took)).constant hb)
 exact p
theorem DV{s:List Int}{m:MS}:(rowS s b m).2.blocks.length=m.blocks.length:=by
 unfold rowS;split
 ·exact dq
 rfl
theorem Pc.jR {s:List Int} {pl:List Int} {lp:List Int} {x:List InD × MS} (p:Pc lp x.2) (hb : ∀k,k<pl.length->(nth pl k).toNat<x.2.blocks.length) : ∀k,k<=pl.length->Pc lp (up (dt s pl) k x).2/\(up (dt s pl) k x).2.blocks.length=x.2.blocks.length
 | 0,_=>⟨p,rfl⟩
 | k+1,h=>by obtain⟨h1,h2⟩:=Pc.jR (s:=s) p hb k P2;have e:(up (dt s pl) (k+1) x).2=(Go.Proofs.YtnfiilgdjpdlkaaGreatDoor.rowS s (nth pl k).toNat (up (dt s pl) k x).2).2.took:=rfl;rw[e];exact⟨h1.rowS (by rw[h2];exact hb k P2),(nb).trans (DV.trans h2)⟩
theorem Pc.phi3 {s:List Int} {b j:Nat} {pl:List Int} {lp:List Int} {m:MS} (p:Pc lp m) (hb : ∀k,k<pl.length->(nth pl k).toNat<m.blocks.length):Pc lp (phi3 s b pl j m)/\(phi3 s b pl j m).blocks.length=m.blocks.length:=by obtain⟨h1,h2⟩:=Pc.jR (s:=s) (pl:=pl) (x:=([],m)) p hb pl.length (Lp _);exact⟨h1.fG Sa,by show(List.set _ _ _).length=_;rw[LU];exact h2⟩
theorem Pc.nc {s:List Int} {b:Nat} {pl:List Int} {lp:List Int} {m:MS} (p:Pc lp m) (hb : ∀k,k<pl.length->(nth pl k).toNat<m.blocks.length) : ∀k,Pc lp (up (Go.Proofs.YtnfiilgdjpdlkaaGreatDoor.phi3 s b pl) k m)/\(up (Go.Proofs.YtnfiilgdjpdlkaaGreatDoor.phi3 s b pl) k m).blocks.length=m.blocks.length
 | 0=>⟨p,rfl⟩
 | k+1=>by obtain⟨h1,h2⟩:=Pc.nc (s:=s) (b:=b) p hb k;obtain⟨h3,h4⟩:=Pc.phi3 (s:=s) (b:=b) (j:=k) h1 (λk hk=>by rw[h2];exact hb k hk);exact⟨h3,h4.trans h2⟩
theorem ue {p:Nat->Bool} : ∀(n:Nat) (v:Int),v∈sift p (λa=>(a:Int)) n->∃c:Nat,v=c/\c<n
 | 0,v,h=>by cases h
 | n+1,v,h=>by
  cases hp:p n with
  | true=>
   rw[mK hp]at h;rcases Lv.1 h with h | h
   ·obtain⟨c,h1,h2⟩:=ue n v h;exact⟨c,h1,by omega⟩
   rw[Ls]at h;exact⟨n,h,by omega⟩
  | false=>rw[ll hp]at h;obtain⟨c,h1,h2⟩:=ue n v h;exact⟨c,h1,by omega⟩
theorem zJ{p:Nat->Bool}(n k:Nat)(hk:k<(sift p (λa=>(a:Int)) n).length): ∃c:Nat,nth (sift p (λa=>(a:Int)) n) k=c/\c<n:=ue n _ (bC hk)
section
variable {s:List Int} {M:Nat} {vs:Value} {W0:View} {h:Heap} {o0:Own} {m:MS}
theorem Nx.Kd[r:Rep α](x:Nx s M vs W0 h o0 m){h':Heap}{u:Value}{l:List α}(hle:(vw h).le (vw h'))(hs:SlRd (fresh h h') u l): ∃W',W0.le W'/\Nx s M vs W' h' o0 m/\SlRd W' u l:=by obtain⟨W,o,g,w,f⟩:=x;have hW:=bW (h':=h') w.own.wle;exact⟨_,Pt g hW,⟨_,o,View.le_refl _,⟨w.own.ext hle,w.src.mono hW,w.box⟩,f⟩,hs.mono (iU W h h')⟩
variable{vb vl:Value}
theorem Mk.J7{o:Own}(w:Mk s M vs W h o m){lb:List BlkM}(bb:MkB M vs m o vb vl lb){i:Nat}{l:List InD}{v:Value}{x y:Operand}{K:Value->Heap->Prop}(hb:b<m.blocks.length)(hi:i<(nth m.blocks b).phis.length)(hsz:cQ PE ty2=Py 1)(hx:asg us x = PB (Py (((slA (nth lb b).phis.v).add (i*2)).add 1)))(hy:asg us y=v)(hr:SlRd W v l)(hK : ∀h' o',Mk s M vs W h' o' (m.qT b i l)->(∀k:Key,3<=k.1->o' k=o k)->K undef h'):@Lft.step po PE (.store ty2 x y) ty us h K:=by
 have hbl:b<lb.length:=by rw[bb.len];exact hb
 refine w.own.pk (k:=(1,b)) (α:=PhiD) PhiD.mw (v:=(nth lb b).phis.v) (l:=(nth m.blocks b).phis) (i:=i) (d:=l) (bb.phis b hb) hsz hx hy hi (dN.2 hr) λh7 w7 _=>?_;have hs:lb.set b (nth lb b)=lb:=by rw[aA hbl];exact List.set_getElem_self hbl
 have b7:=bb.fG hb (x':={ nth m.blocks b with phis:=(nth m.blocks b).phis.set i { nth (nth m.blocks b).phis i with ins:=l } }) (y':=nth lb b) (o':=o.upd (1,b) (it T.nr (nth lb b).phis.v ((nth m.blocks b).phis.set i { (nth m.blocks b).phis[i]with ins:=l }))) (bb.term b hb) (by rw[hs,Own.aB Sa];exact bb.blk) (by rw[Own.ao,aA hi]) (by rw[Own.aB Sa];exact bb.ins b hb) (λq h1 h2 h3=>Own.aB h2);rw[hs]at b7;exact hK h7 _ ⟨w7,w.src,vb,vl,lb,b7⟩ λk hk=>Own.aB (by rintro rfl;simp at hk)
end
section
variable {s:List Int} {M:Nat} {vs:Value} {W0:View} {h:Heap} {o0:Own} {m:MS}
variable{vd:Value}
theorem Gc{a p i cnt:Nat}{vq:Value}(x:Nx s M vs W0 h o0 m)(h5:o0 (5,0)=it T.int vp lp)(f71:o0 (7,1)=Pz)(f72:o0 (7,2)=Pz)(q:P3 n a p i m)(pc:Pc lp m)(hlp:lp.length=n)(hb:b<n)(hcnt:nth lp b=cnt)(hc3:cnt<=3)(hn:n<=10)(ha:a<=400000)(hia:i<=a)(hp:p<=100)(hi:i<=1900)(hq:SlRd W0 vq pl)(hpl:pl.length<=9)(hpr : ∀k,k<pl.length->∃c:Nat,nth pl k=c/\c<n)(h0:bK [2,3,4,5,7,11,25,26,27] ρ=[(2,vr),(3,PB (Py ⟨M,0,Pz⟩)),(4,Pv Pw n),(5,vt),(7,vp),(11,vd),(25,Pv Pw b),(26,vq),(27,Pv Pw 0)])(hQ : ∀h':Heap,Nx s M vs W0 h' o0 (up (phi3 s b pl) cnt m)->Q .normal [(2,vr),(3,PB (Py ⟨M,0,Pz⟩)),(4,Pv Pw n),(5,vt),(7,vp),(11,vd),(25,Pv Pw b),(26,vq),(27,Pv Pw cnt)] h'):
  LC.wp PE (.block 26 (.loop L.aq.l14)) Q ρ h:=by
 simp only[aL];refine cT [2,3,4,5,7,11,25,26,27] (fun(_:Unit) k=>[vr,PB (Py ⟨M,0,Pz⟩),Pv Pw n,vt,vp,vd,Pv Pw b,vq,Pv Pw k]) (λ_ k h2=>Nx s M vs W0 h2 o0 (up (phi3 s b pl) k m)) cnt ()
  rfl P2 h0 x (λ_ _=>rfl) (λv k h2 hk2 x2=>by have sp:=x2.z.at P4 h5;have e:=sp.int Ps (i:=b) P2;rw[hcnt]at e;simp(disch:=omega)[sp.idx1 rfl,e]) ?_ ?_
 ·rintro _ k h2 hlt x2 K2 hK2;have hpn : ∀j,j<pl.length->(nth pl j).toNat<m.blocks.length:=λj hj=>by obtain⟨c,h1,h2⟩:=hpr j hj;rw[h1,q.z.len];simpa using h2
  have q2:=(nc (s:=s) (b:=b) q hpl k).mono (a':=a+200) (p':=p) (i':=i+30) P2 (Lp _) P2;obtain⟨pc2,hlen2⟩:=Pc.nc (s:=s) (b:=b) pc hpn k;have e2:up (phi3 s b pl) (k+1) m=phi3 s b pl k (up (phi3 s b pl) k m):=rfl;rw[e2]at hK2;generalize up (phi3 s b pl) k m=m2 at x2 hK2 q2 pc2 hlen2;have hpn2 : ∀j,j<pl.length->(nth pl j).toNat<m2.blocks.length:=λj hj=>by rw[hlen2];exact hpn j hj
  obtain⟨pc3,hlen3⟩:=Pc.jR (s:=s) (pl:=pl) (x:=([],m2)) pc2 hpn2 pl.length (Lp _);simp only[aL];refine ab λy hy=>?_;simp;refine x2.kq (k:=(7,2)) (α:=InD) P4 f72 El.qF λvi h3 hvi x3=>?_;subst hy;refine ab λy hy=>?_;refine ab λw hw=>?_;simp;subst hw;refine FU (vr:=vr) (vt:=vt) (vp:=vp) (vd:=vd) (vq:=vq) (vi:=vi) (b:=b) (j:=k) x3 f71 q2 hn P2 P2 hp P2 hq hpl hpr (by simp[bK,ag,ah]) λh4 vi x4=>?_;obtain⟨W4,hW4,x4,s4⟩:=x4.freeze P4 f72;have e3:phi3 s b pl k m2=(up (dt s pl) pl.length ([],m2)).2.qT b k (up (dt s pl) pl.length ([],m2)).1:=rfl;rw[e3]at hK2;have hb4:b<(up (dt s pl) pl.length ([],m2)).2.blocks.length:=by rw[hlen3];show b<m2.blocks.length;rw[hlen2,q.z.len];exact hb
  have hph:((nth (up (dt s pl) pl.length ([],m2)).2.blocks b).phis.length:Int)=cnt:=(pc3 b).trans hcnt;generalize up (dt s pl) pl.length ([],m2)=r at x4 hK2 s4 hb4 hph;obtain⟨W,o,g,w,f⟩:=x4;obtain⟨vb,vl,lb,bb⟩:=w.box;have rd:=w.reads bb;have hbb:b<lb.length:=by rw[bb.len];exact hb4
  have sb:=w.own.now bb.blk;have sbb:=sb.bound;have c1:ak (vw h4) (((slA vb).add (b*6)).add 0)=Py (nth lb b).phis.v:=by have:=((sb.at hbb).part BlkM.rX).raw;rw[aA hbb];exact this
  have sph:=w.own.now (bb.phis b hb4);simp;subst hy;have r5:Bn.ev (.idx 2) (nth lb b).phis.v (Pv Pw k)=Py (PB (Py ((slA (nth lb b).phis.v).add (k*2)))):=by have:=sph.idxn (N:=2) rfl (k:=.i64) (i:=k) P2 P2;simpa using this
  simp(disch:=omega)[rd.cb,sb.idxn (N:=6) rfl,c1,r5];refine w.J7 bb (b:=b) (i:=k) (l:=r.1) hb4 P2 P1 rfl rfl (s4.mono g) λh5 o5 w5 f5=>?_;refine hK2 () _ _ rfl rfl ?_;exact⟨W,o5,Pt hW4 g,w5,λq hq=>(f5 q hq).trans (f q hq)⟩
 rintro _ h2 x2;exact hQ h2 x2
theorem Hm{a p i k:Nat}{m:MS}(q:P3 n a p i m)(pc:Pc lp m)(hr : ∀j,nth lp j<=3)(hn:n<=9):P3 n (a+162) p (i+27) (blk3 s lp k m)/\Pc lp (blk3 s lp k m):=by
 have hpl:(cG m.f ((k+1:Nat):Int)).length<=n:=by have:=oz (p:=λa=>decide (((k+1:Nat):Int)∈(nth m.f.blocks a).term.to)) (x:=λa=>(a:Int)) m.f.blocks.length;rw[show m.f.blocks.length=n from q.z.len]at this;unfold cG;rw[show m.f.blocks.length=n from q.z.len];exact this
 have hpn : ∀j,j<(cG m.f ((k+1:Nat):Int)).length->(nth (cG m.f ((k+1:Nat):Int)) j).toNat<m.blocks.length:=λj hj=>by obtain⟨c,h1,h2⟩:=zJ _ j hj;have h1:nth (cG m.f ((k+1:Nat):Int)) j=c:=h1;rw[h1];have h2:c<m.blocks.length:=h2;simpa using h2
 have h3:=hr (k+1);unfold blk3;exact⟨(nc q P2 _).mono P2 (Lp _) P2,(Pc.nc pc hpn _).1⟩
theorem yj {n a p i:Nat} {lp:List Int} {m:MS} (q:P3 n a p i m) (pc:Pc lp m) (hr : ∀j,nth lp j<=3) (hn:n<=9) : ∀k,P3 n (a+162*k) p (i+27*k) (up (blk3 s lp) k m)/\Pc lp (up (blk3 s lp) k m)
 | 0=>⟨q,pc⟩
 | k+1=>by obtain⟨h1,h2⟩:=yj q pc hr hn k;obtain⟨h3,h4⟩:=Hm (s:=s) (k:=k) h1 h2 hr hn;exact⟨h3.mono P2 (Lp _) P2,h4⟩
theorem F0{a p i:Nat}(x:Nx s M vs W0 h o0 m)(h5:o0 (5,0)=it T.int vp lp)(f71:o0 (7,1)=Pz)(f72:o0 (7,2)=Pz)(q:P3 n a p i m)(pc:Pc lp m)(hlp:lp.length=n)(hr : ∀j,0<=nth lp j/\nth lp j<=3)(hn1:1<=n)(hn:n<=9)(ha:a<=300000)(hia:i<=a)(hp:p<=100)(hi:i<=1000)(h0:bK [2,3,4,5,7,11,25] ρ=[(2,vr),(3,PB (Py ⟨M,0,Pz⟩)),(4,Pv Pw n),(5,vt),(7,vp),(11,vd),(25,Pv Pw 1)])(hQ : ∀h':Heap,Nx s M vs W0 h' o0 (up (blk3 s lp) (n-1) m)->Q .normal [(2,vr),(3,PB (Py ⟨M,0,Pz⟩)),(4,Pv Pw n),(5,vt),(7,vp),(11,vd),(25,Pv Pw n)] h'):
  LC.wp PE (.block 24 (.loop L.aq.l13)) Q ρ h:=by
 simp only[aL];refine vy [2,3,4,5,7,11,25] (fun(_:Unit) k=>[vr,PB (Py ⟨M,0,Pz⟩),Pv Pw n,vt,vp,vd,Pv Pw ((k+1:Nat):Int)]) (λ_ k h2=>Nx s M vs W0 h2 o0 (up (blk3 s lp) k m)) (n-1) 1 ()
  rfl P2 h0 x (λ_ _=>rfl) (λv k h2 hk2 m=>by simp;omega) ?_ ?_
 ·rintro _ k h2 hlt x2 K2 hK2;obtain⟨q2,pc2⟩:=yj (s:=s) q pc (λj=>(hr j).2) hn k;have e2:up (blk3 s lp) (k+1) m=blk3 s lp k (up (blk3 s lp) k m):=rfl;rw[e2]at hK2;generalize up (blk3 s lp) k m=m2 at x2 hK2 q2 pc2;have hb2:blk3 s lp k m2=_:=blk3.eq_1 s lp k m2;rw[hb2]at hK2;simp only[aL];refine ab λy hy=>?_;obtain⟨vb,vl,rd⟩:=x2.z.reads;simp[rd.f];refine af P1 (ti (b:=((k+1:Nat):Int)) (rd.rd (Em q2.z)) (by show m2.blocks.length<=_;rw[q2.z.len];omega)) ?_;rintro vq h3 ⟨hle3,hq⟩;obtain⟨W3,hW3,x3,sq⟩:=x2.Kd hle3 hq;clear rd hq;have hpl:(cG m2.f ((k+1:Nat):Int)).length<=n:=by have:=oz (p:=λa=>decide (((k+1:Nat):Int)∈(nth m2.f.blocks a).term.to)) (x:=λa=>(a:Int)) m2.f.blocks.length;unfold cG;rw[show m2.f.blocks.length=n from q2.z.len]at this ⊢;exact this
  have hpr : ∀j,j<(cG m2.f ((k+1:Nat):Int)).length->∃c:Nat,nth (cG m2.f ((k+1:Nat):Int)) j=c/\c<n:=λj hj=>by obtain⟨c,h1,h2⟩:=zJ _ j hj;exact⟨c,h1,by rw[show m2.f.blocks.length=n from q2.z.len]at h2;exact h2⟩
  generalize cG m2.f ((k+1:Nat):Int)=pl at sq hpl hpr hK2;obtain⟨r0,r1⟩:=hr (k+1);subst hy;refine ab λy hy=>?_;simp;subst hy;refine Gc (vr:=vr) (vt:=vt) (vp:=vp) (vd:=vd) (vq:=vq) (b:=k+1) (cnt:=(nth lp (k+1)).toNat) x3 h5 f71 f72 q2 pc2 hlp P2 P2 P2 P2 P2 P2 hp P2 sq P2 hpr (by simp[bK,ag,ah]) λh4 x4=>?_;simp;refine hK2 () _ _ rfl rfl (x4.up hW3)
 rintro _ h2 x2;have e:n-1+1=n:=by omega
 have:=hQ h2 x2;simpa[e]using this
theorem AS{a p:Nat}{x0:BL × MS}(q:B2 n a p x0)(hn:n<=10)(hp:p<=100)(ha:16000<=a): ∀j,j<=n->B2 n (a+600*j) p (up (cu s to n) j x0):=by
 intro j;induction j with
 | zero=>intro _;exact q
 | succ j ih=>intro hj;have:=qk (s:=s) (to:=to) (b:=j) (ih P2) P2 hn hp P2 λh=>pw h;exact⟨this.z.mono P2 (Lp _) (Lp _),this.len,this.none⟩
theorem Hj{a p:Nat}{x0:BL × MS}(q:B2 n a p x0)(hn:n<=10)(hp:p<=100)(ha:16000<=a)(j:Nat):B2 n (a+600*n*j) p (up (λ_=>up (cu s to n) n) j x0):=by
 induction j with
 | zero=>exact q
 | succ j ih=>have:=AS (s:=s) (to:=to) ih hn hp P2 n (Lp _);exact⟨this.z.mono (by rw[OK];omega) (Lp _) (Lp _),this.len,this.none⟩
theorem Hc{a p:Nat}{x0:BL × MS}(x:Nx s M vs W0 h (o0.upd (6,0) (it T.bool vd x0.1)) x0.2)(hto:SlRd W0 vt to)(htl:to.length=n)(f7:o0 (7,0)=Pz)(f90:o0 (9,0)=Pz)(f91:o0 (9,1)=Pz)(q:B2 n a p x0)(hn:n<=9)(hp:p<=100)(ha:16000<=a)(ha2:a<=30000)(h0:bK [2,3,4,5,7,11,12] ρ=[(2,vr),(3,PB (Py ⟨M,0,Pz⟩)),(4,Pv Pw n),(5,vt),(7,vp),(11,vd),(12,Pv Pw 0)])(hQ : ∀h':Heap,Nx s M vs W0 h' (o0.upd (6,0) (it T.bool vd (up (λ_=>up (cu s to n) n) n x0).1)) (up (λ_=>up (cu s to n) n) n x0).2->Q .normal [(2,vr),(3,PB (Py ⟨M,0,Pz⟩)),(4,Pv Pw n),(5,vt),(7,vp),(11,vd),(12,Pv Pw n)] h'):
  LC.wp PE (.block 6 (.loop L.aq.l4)) Q ρ h:=by
 simp only[aL];refine cT [2,3,4,5,7,11,12] (fun(_:Unit) j=>[vr,PB (Py ⟨M,0,Pz⟩),Pv Pw n,vt,vp,vd,Pv Pw j]) (λ_ j h2=>Nx s M vs W0 h2 (o0.upd (6,0) (it T.bool vd (up (λ_=>up (cu s to n) n) j x0).1)) (up (λ_=>up (cu s to n) n) j x0).2) n ()
  rfl P2 h0 x (λ_ _=>rfl) (λv k h2 hk2 x2=>by simp) ?_ ?_
 ·rintro _ t h2 hlt x2 K2 hK2;have q2:=Hj (s:=s) (to:=to) q P2 hp ha t;have hbd:600*n*t<=5400*9:=NJ P2 P2;have e2:up (λ_=>up (cu s to n) n) (t+1) x0=up (cu s to n) n (up (λ_=>up (cu s to n) n) t x0):=rfl;rw[e2]at hK2;generalize up (λ_=>up (cu s to n) n) t x0=y at x2 hK2 q2;simp only[aL];refine ab λy hy=>?_;simp;subst hy;refine Hv (vr:=vr) (vt:=vt) (vp:=vp) (vd:=vd) (t:=t) x2 hto htl f7 f90 f91 q2 P2 hp P2 P2 (by simp[bK,ag,ah]) λh3 x3=>?_;simp;exact hK2 () _ _ rfl rfl x3
 rintro _ h2 x2;exact hQ h2 x2
end
section
variable {s:List Int}
theorem jd:1<=bL s/\bL s<=9:=by have:=cI (s:=s) (at_:=1) (n:=9) P4;unfold bL;omega
theorem Db:((bL s:Nat):Int)=1+aI s 1 9:=by have:=cI (s:=s) (at_:=1) (n:=9) P4;unfold bL;omega
theorem zu:(uY s).ok 4:=by have:=cI (s:=s) (at_:=0) (n:=5) P4;refine⟨by show 2<=4;omega,by show 0<=aI s 0 5;omega,by show aI s 0 5<=_;omega,by show 0<=4;omega,λi=>?_⟩;show(nth ([]:List BlkD) i).ins.length<=4;rw[cL Sa];show 0<=4;omega
theorem yV:TgK (bL s) 112 (iu s):=by
 obtain⟨h1,h2⟩:=jd (s:=s);have k1:TgK (bL s) 4 (List.replicate (bL s) [],uY s):=⟨by simp,λi=>by
  rcases Lr i (bL s)with hi | hi
  ·rw[aC hi];show 0<=4;omega
  rw[cL (by simpa using hi)];show 0<=4;omega,zu⟩;exact(Bh (s:=s) (yK (s:=s) k1 (bL s-1)) (bL s)).mono P2
def pV (m m':MS):Prop:=m'.ps=m.ps/\m'.blocks=m.blocks/\m'.next=m.next/\m'.live=m.live
theorem F8{m:MS}{k:Nat}{x:TgS}(h:pV m x.2):pV m (tgA s k x).2:=by unfold tgA;split<;>exact h
theorem Fh{m:MS}{x:TgS}(h:pV m x.2):pV m (tgI s n b x).2:=by
 unfold tgI;simp only;repeat' split
 all_goals exact h
theorem Eu{m:MS}{x:TgS}(h:pV m x.2):pV m (tgB s n b x).2:=
 sP (λx:TgS=>pV m x.2) (λ_ _ h=>Fh h) _ _ h
theorem vz:pV (uY s) (iu s).2:=
 sP (λx:TgS=>pV (uY s) x.2) (λ_ _ h=>Eu h) _ _ (sP (λx:TgS=>pV (uY s) x.2) (λ_ _ h=>F8 h) _ _ ⟨rfl,rfl,rfl,rfl⟩)
theorem zC {m:MS} {a n:Nat} {to:List (List Int)} (z:Sz n a 0 0 m) (g:Gd m) (pc : ∀j,(nth m.blocks j).phis.length=0) (ht : ∀j,(nth to j).length<=1000) : ∀k,Sz n a 0 0 (up (λb m=>MS.lC m b (nth to b)) k m)/\Gd (up (λb m=>MS.lC m b (nth to b)) k m)
 | 0=>⟨z,g⟩
 | k+1=>by obtain⟨h1,h2⟩:=zC z g pc ht k;exact⟨h1.fG (h1.phis k) (h1.ins k),h2.lC (ht k)⟩
theorem sC{j:Nat}:(nth (List.replicate n qW) j).phis.length=0/\(nth (List.replicate n qW) j).ins.length=0:=by
 rcases Lr j n with hj | hj
 ·rw[aC hj];exact⟨rfl,rfl⟩
 rw[cL (by simpa using hj)];exact⟨rfl,rfl⟩
theorem ze:Sz (bL s) 200 0 0 (qR s)/\Gd (qR s):=by
 have k:=yV (s:=s);have e:=vz (s:=s);have t:=cI (s:=s) (at_:=0) (n:=5) P4;refine zC ⟨?_,?_,?_,?_,?_,?_,?_,λj=>?_,λj=>?_⟩ (λj hj=>?_) (λj=>(sC).1) (λj=>by have:=k.row j;omega) _
 ·show(iu s).2.at_<=200;have:=k.ok.at_;omega
 ·exact k.ok.n0
 ·show(iu s).2.next<=_;have:=k.ok.next;omega
 ·show(iu s).2.live.length<=200;have:=k.ok.live;omega
 ·show 0<=(iu s).2.ps;rw[e.1];show 0<=aI s 0 5;omega
 ·show(iu s).2.ps<=4;rw[e.1];show aI s 0 5<=4;omega
 ·show(List.replicate (bL s) qW).length=_;simp
 ·show(nth (List.replicate (bL s) qW) j).phis.length<=0;rw[(sC).1];omega
 ·show(nth (List.replicate (bL s) qW) j).ins.length<=0;rw[(sC).2];omega
 have hj:j<bL s:=by simpa using hj
 show GdB (nth (List.replicate (bL s) qW) j);rw[aC hj];exact⟨λi h=>(by cases h),by show 0<=10;omega,by show 0<=1000;omega,λi h=>(by cases h)⟩
theorem ov {m:MS} {b:Nat} (hb:b<m.blocks.length) : ∀c j,(nth (up (λ_=>eB b) c m).blocks j).phis.length=(nth m.blocks j).phis.length+(if j=b then c else 0)/\(up (λ_=>eB b) c m).blocks.length=m.blocks.length
 | 0,j=>⟨by show(nth m.blocks j).phis.length=_;split<;>omega,rfl⟩
 | c+1,j=>by
  obtain⟨h1,h2⟩:=ov hb c j;obtain⟨h3,_⟩:=ov hb c b;have e:(up (λ_=>eB b) (c+1) m).blocks=(up (λ_=>eB b) c m).blocks.set b { nth (up (λ_=>eB b) c m).blocks b with phis:=(nth (up (λ_=>eB b) c m).blocks b).phis++[⟨(up (λ_=>eB b) c m).next,[]⟩] }:=rfl;rw[e];refine⟨?_,by rw[LU];exact h2⟩;rcases Lr j m.blocks.length with hl | hl
  ·rw[bz (by rw[h2];exact hl)];by_cases ej:b=j
   ·subst ej;rw[if_pos rfl,if_pos rfl];rw[if_pos rfl]at h3;show(_++[_]).length=_;rw[Lx,h3,LP];omega
   rw[if_neg ej,if_neg (λq=>ej q.symm)];rw[if_neg (λq=>ej q.symm)]at h1;exact h1
  rw[cL (by rw[LU,h2];exact hl),cL hl,if_neg P2];rfl
theorem xv {n a:Nat} {x:List Int × MS} (p:Ph n a 0 x) (pc:Pc x.1 x.2) (g:Gd x.2) : ∀k,k<n->Pc (up (eE s) k x).1 (up (eE s) k x).2/\Gd (up (eE s) k x).2
 | 0,_=>⟨pc,g⟩
 | k+1,hk=>by
  obtain⟨h1,h2⟩:=xv p pc g k P2;have q:=yw (s:=s) p k;have e:up (eE s) (k+1) x=eE s k (up (eE s) k x):=rfl;rw[e];generalize up (eE s) k x=y at h1 h2 q;obtain⟨c0,c1⟩:=qd (s:=s) (m:=y.2) (b:=k+1);have hb:k+1<y.2.took.blocks.length:=by show k+1<y.2.blocks.length;rw[q.z.len];exact hk
  refine⟨λj=>?_,h2.took.oZ _⟩;have h3:=(ov hb (gB s y.2 (k+1)).toNat j).1;show((nth (up (λ_=>eB (k+1)) (gB s y.2 (k+1)).toNat y.2.took).blocks j).phis.length:Int)=nth (y.1.set (k+1) (gB s y.2 (k+1))) j;rw[h3];have h4:=h1 j;have h5:nth y.2.took.blocks j=nth y.2.blocks j:=rfl;rw[h5];rcases Lr j y.1.length with hl | hl
  ·rw[bz hl];by_cases ej:k+1=j
   ·subst ej;rw[if_pos rfl,if_pos rfl];rw[q.zero (k+1) P2]at h4;omega
   rw[if_neg ej,if_neg (λr=>ej r.symm)];omega
  have e1:nth (y.1.set (k+1) (gB s y.2 (k+1))) j=default:=cL (by simpa using hl);have e2:nth y.1 j=default:=cL hl;rw[e1];rw[e2]at h4;have:=q.len;rw[if_neg P2];omega
theorem rj:Ph (bL s) 200 (bL s-1) (jg s)/\Pc (jg s).1 (jg s).2/\Gd (jg s).2:=by
 obtain⟨h1,h2⟩:=jd (s:=s);obtain⟨z,g⟩:=ze (s:=s);have hz : ∀j,nth (List.replicate (bL s) (0:Int)) j=0:=λj=>by
  rcases Lr j (bL s)with hj | hj
  ·rw[aC hj]
  rw[cL (by simpa using hj)];rfl
 have p0:Ph (bL s) 200 0 (List.replicate (bL s) (0:Int),qR s):=⟨z,by simp,λj _=>hz j,λj=>by rw[hz];omega⟩;have pc:Pc (List.replicate (bL s) (0:Int)) (qR s):=λj=>by have:=z.phis j;rw[hz];omega
 obtain⟨q1,q2⟩:=xv (s:=s) p0 pc g (bL s-1) P2;exact⟨yw p0 _,q1,q2⟩
theorem Gd.iH {to:List (List Int)} {n b:Nat} {dn:BL} {away:List BL} {m:MS} (g:Gd m) (ht:(nth to b).length<=1000):Gd (iH s to n dn away b m):=by have g1:Gd (MS.took { m with live:=lY m dn away b n }):=g;exact(Gd.gT g1 _).JQ ht
theorem Gd.cu {to:List (List Int)} {n b:Nat} {x:BL × MS} (g:Gd x.2) (ht:(nth to b).length<=1000):Gd (cu s to n b x).2:=by
 unfold Go.Proofs.YtnfiilgdjpdlkaaGreatDoor.cu;split
 ·exact g.iH ht
 exact g
structure M4 (n a p:Nat) (lp:List Int) (x:BL × MS):Prop where
 b2:B2 n a p x
 gd:Gd x.2
 pc:Pc lp x.2
theorem M4.step{to:List (List Int)}{n a p b:Nat}{lp:List Int}{x:BL × MS}(q:M4 n a p lp x)(hb:b<n)(hn:n<=10)(hp:p<=100)(ha:16000<=a)(ht : ∀j,(nth to j).length<=1000):M4 n (a+600) p lp (cu s to n b x):=
 ⟨qk q.b2 hb hn hp ha λh=>pw h,q.gd.cu (ht b),q.pc.cu (by rw[q.b2.z.len];exact hb)⟩
theorem M4.blk{a p:Nat}{x:BL × MS}(q:M4 n a p lp x)(hn:n<=10)(hp:p<=100)(ha:16000<=a)(ht : ∀j,(nth to j).length<=1000)(k:Nat)(hk:k<=n):M4 n (a+600*k) p lp (up (Go.Proofs.YtnfiilgdjpdlkaaGreatDoor.cu s to n) k x):=by
 induction k with
 | zero=>exact q
 | succ k ih=>have:=(ih P2).step (s:=s) (to:=to) (b:=k) P2 hn hp P2 ht;exact⟨⟨this.b2.z.mono P2 (Lp _) (Lp _),this.b2.len,this.b2.none⟩,this.gd,this.pc⟩
theorem M4.turn{a p:Nat}{x:BL × MS}(q:M4 n a p lp x)(hn:n<=10)(hp:p<=100)(ha:16000<=a)(ht : ∀j,(nth to j).length<=1000)(k:Nat):M4 n (a+600*n*k) p lp (up (λ_=>up (Go.Proofs.YtnfiilgdjpdlkaaGreatDoor.cu s to n) n) k x):=by
 induction k with
 | zero=>exact q
 | succ k ih=>have:=ih.blk (s:=s) (to:=to) hn hp P2 ht n (Lp _);exact⟨⟨this.b2.z.mono (by rw[OK];omega) (Lp _) (Lp _),this.b2.len,this.b2.none⟩,this.gd,this.pc⟩
theorem yX:B2 (bL s) 16000 27 (List.replicate (bL s) PD,(jg s).2):=by obtain⟨h1,h2⟩:=jd (s:=s);obtain⟨p,_,_⟩:=rj (s:=s);refine⟨p.z.mono P2 P2 P2,by simp,λj hj _=>?_⟩;have:=p.z.ins j;show(nth (jg s).2.blocks j).ins.length=0;omega
theorem zp:P3 (bL s) 70000 27 700 (xK s).2/\Pc (jg s).1 (xK s).2:=by
 obtain⟨h1,h2⟩:=jd (s:=s);obtain⟨p,pc,g⟩:=rj (s:=s);have ht : ∀j,(nth (iu s).1 j).length<=1000:=λj=>by have:=(yV (s:=s)).row j;omega
 have q0:M4 (bL s) 16000 27 (jg s).1 (List.replicate (bL s) PD,(jg s).2):=⟨yX,g,pc⟩;have q:=q0.turn (s:=s) (to:=(iu s).1) P2 P2 P2 ht (bL s);have hbd:600*bL s*bL s<=5400*9:=NJ P2 P2;exact⟨⟨q.b2.z.mono P2 (Lp _) (Lp _),q.gd⟩,q.pc⟩
theorem mI:P3 (bL s) 72000 27 1000 (tD s):=by obtain⟨h1,h2⟩:=jd (s:=s);obtain⟨p,_,_⟩:=rj (s:=s);obtain⟨q,pc⟩:=zp (s:=s);have:=(yj (s:=s) q pc (λj=>(p.rng j).2) h2 (bL s-1)).1;exact this.mono P2 (Lp _) P2
theorem GX:SmF (ko s):=(mI (s:=s)).g.smF (mI (s:=s)).z (by have:=jd (s:=s);omega) P2 P2
theorem zR:0<=(ko s).params/\(ko s).params<=4:=⟨(mI (s:=s)).z.ps0,(mI (s:=s)).z.ps1⟩
theorem Eh:1<=(ko s).blocks.length/\(ko s).blocks.length<=9:=by have:=jd (s:=s);rw[show(ko s).blocks.length=bL s from(mI (s:=s)).z.len];exact this
end
section
variable {f:aj} {b i:Nat}
theorem zN:mz f (endT f b)=true:=by refine decide_eq_true ?_;show(((nth f.blocks b).ins.length:Nat):Int)=((nth f.blocks ((b:Nat):Int).toNat).ins.length:Nat);rw[LN]
theorem BZ(hi:i<(nth f.blocks b).ins.length):qK f (insT f b i)=PC/\y9 f (insT f b i)=nth (nth f.blocks b).ins i:=by
 refine⟨(Lt _ _).mpr ⟨decide_eq_true (Int.natCast_nonneg _),decide_eq_true ?_⟩,?_⟩
 ·show(i:Int)<((nth f.blocks ((b:Nat):Int).toNat).ins.length:Nat);rw[LN];omega
 show nth (nth f.blocks ((b:Nat):Int).toNat).ins ((i:Nat):Int).toNat=_;rw[LN,LN]
theorem HC:gC f (endT f b)=nth f.blocks b:=by show nth f.blocks ((b:Nat):Int).toNat=_;rw[LN]
theorem ml.insG(m:ml f)(hb:b<f.blocks.length)(hi:i<(nth f.blocks b).ins.length):ya f (insT f b i)/\uJ (nth (nth f.blocks b).ins i)=false:=by have g:=m.good _ (iA.2 ⟨b,hb,j9.2 (.inr (.inl ⟨i,hi,rfl⟩))⟩);exact⟨g,by have:=g.op (BZ hi).1;rwa [(BZ hi).2]at this⟩
theorem ml.endG(m:ml f)(hb:b<f.blocks.length):s9 (nth f.blocks b).term=PC/\∀n∈(nth f.blocks b).term.to,1<=n/\n<f.blocks.length:=by have g:=m.good _ (iA.2 ⟨b,hb,j9.2 (.inr (.inr rfl))⟩);have h1:=g.term zN;have h2:=g.to zN;rw[HC]at h1 h2;exact⟨h1,h2⟩
end
section
variable {f g:aj} {n:Nat}
end
def nI (f:aj):Bool:=decide ((ku f).1=0)
def iF (f:aj) (b p pat temp:Int):Option FitD:=if de f b p&&nI f then tryS (dL f b p temp) pat else Pz
def fI (f:aj) (b p pat:Int):Option FitD:=if 1<=pat then iF f b p pat 0 else Pz
def Cj:Option FitD->List Int | some x=>x.takes | none=>[]
def B8:Option FitD->List Int | some x=>x.inner | none=>[]
def A4:Option FitD->List bc | some x=>x.code | none=>[]
def EI:Option FitD->EndD | some x=>x.fin | none=>dH
theorem lJ{f:aj}{i:InsD}:i∈dG f↔∃b k,b<f.blocks.length/\k<(nth f.blocks b).ins.length/\i=nth (nth f.blocks b).ins k:=by
 unfold dG;rw[List.mem_flatMap];constructor
 ·rintro⟨x,hx,hi⟩;obtain⟨b,hb,rfl⟩:=LO hx;obtain⟨k,hk,rfl⟩:=LO hi;exact⟨b,k,hb,by rw[aA hb];exact hk,by rw[aA hb,aA hk]⟩
 rintro⟨b,k,hb,hk,rfl⟩;exact⟨_,bC hb,bC hk⟩
theorem tV{H:View}{v:Value}{f:aj}(h:Rd H v f): ∀i∈dG f,-2147483648<=i.imm.v/\i.imm.v<=2147483647:=by intro i hi;obtain⟨b,k,hb,hk,rfl⟩:=lJ.1 hi;obtain⟨c1,c2,c3⟩:=fX h;unfold Rd at h;rw[if_pos (show Rep.agg aj=PC from rfl)]at h;obtain⟨cs,rfl,d1,d2,e,h1,h2⟩:=h;obtain⟨vb,rfl⟩:=rU h2;have hs:=nA.1 h2;have h3:=((hs.at hb).part BlkD.mw).sl;obtain⟨vi,-,h4⟩:=h3;rw[<-aA hb]at h4;have:=((h4.at hk).part InsD.jk).oL;rw[aA hk];exact this
theorem yt{f:aj}(m:ml f)(hsm:SmF f): ∀i∈dG f,rY i:=by
 intro i hi;obtain⟨b,k,hb,hk,rfl⟩:=lJ.1 hi;obtain⟨-,h⟩:=m.insG hb hk;have hm:=(hsm.blk b hb).inn k hk;generalize nth (nth f.blocks b).ins k=i at *;unfold uJ at h;simp at h;obtain⟨⟨h1,h2⟩,h3⟩:=h;unfold yM at h3;refine⟨λho=>?_,λho=>?_,hm⟩
 ·rw[if_neg P2,if_neg P2,if_neg P2]at h3;simp at h3;omega
 rw[if_neg P2,if_pos P2]at h3;simp at h3;omega
theorem F9{f:aj}(m:ml f)(hsm:SmF f)(hb:b<f.blocks.length):ud (nth f.blocks b).term:=by
 have h:=(m.endG hb).1;have s:=hsm.blk b hb;have s1:=s.args;have s2:=s.to;generalize (nth f.blocks b).term=t at *;refine⟨λho=>?_,s1,s2⟩;unfold s9 at h;rcases ho with ho | ho
 ·rw[if_neg P2,if_pos ho]at h;simp at h;omega
 rw[if_neg P2,if_neg P2,if_pos ho]at h;simp at h;omega
theorem Fp:rY fQ:=⟨λh=>by simp[fQ]at h,λh=>by simp[fQ]at h,by simp[fQ]⟩
variable{temp:Int}
theorem uj{f:aj}{b p:Int}(m:ml f)(hsm:SmF f)(hr : ∀i∈dG f,-2147483648<=i.imm.v/\i.imm.v<=2147483647)(hp:de f b p=PC):kI (dL f b p temp)/\ud (dL f b p temp).t/\((dL f b p temp).i=fQ\/(dL f b p temp).i∈dG f)/\(dL f b p temp).f=f:=by
 simp[de]at hp;obtain⟨⟨⟨g1,g2⟩,g3⟩,g4⟩:=hp;have hb:b.toNat<f.blocks.length:=by omega
 unfold dL;by_cases e:p=(nth f.blocks b.toNat).ins.length
 ·rw[if_pos e];exact⟨⟨hsm,yt m hsm,Fp,hr⟩,F9 m hsm hb,.inl rfl,rfl⟩
 rw[if_neg e];have hi:nth (nth f.blocks b.toNat).ins p.toNat∈dG f:=lJ.2 ⟨_,_,hb,by omega,rfl⟩;exact⟨⟨hsm,yt m hsm,yt m hsm _ hi,hr⟩,⟨λh=>by simp[lF]at h,by simp[lF],by simp[lF]⟩,.inr hi,rfl⟩
variable{pat:Int}
theorem yx{f:aj}{v:Value}{b p:Int}{h:Heap}(hW:W.le (vw h))(hv:Rd W v (dL f b p temp))(m:ml f)(hsm:SmF f)(hr : ∀i∈dG f,-2147483648<=i.imm.v/\i.imm.v<=2147483647)(hM : ∀i∈dG f,i.op=15\/i.op=16->kG)(hpl:de f b p=PC)(hp:I64 pat):
  az PE 39 #[v,Pv Pw pat] h (λu h'=>bM W h h' u (tryS (dL f b p temp) pat)):=by
 obtain⟨h1,h2,h3,-⟩:=uj (temp:=temp) m hsm hr hpl;refine Ix hW hv (λ_=>h1) (λ_=>⟨h1,h2⟩) (λho=>?_) hp;rcases h3 with h3 | h3
 ·rw[h3]at ho;simp[fQ]at ho
 exact hM _ h3 ho
theorem mR{f:aj}(h:nI f=PC):ml f:=Jl (by simpa[nI]using h)
theorem AE{f:aj}{v:Value}{b p:Int}{h:Heap}(hW:W.le (vw h))(hv:Rd W v f)(hsm:SmF f)(hM : ∀i∈dG f,i.op=15\/i.op=16->kG)(hp:I64 pat):
  az PE 15 #[v,Pv Pw b,Pv Pw p,Pv Pw pat] h (λu h'=>(vw h).le (vw h')/\∃v1 v2,u = .tuple #[v1,v2,.bool (fI f b p pat).isSome]/\SlRd (vw h') v1 (Cj (fI f b p pat))/\SlRd (vw h') v2 (B8 (fI f b p pat))):=by
 refine au (args:=[v,Pv Pw b,Pv Pw p,Pv Pw pat]) follows Tryz.func15 E.nu Pp λK hK=>?_;dsimp only[L.nu,lkF,lkG];have c0:=Cx.start hW;refine ab λz hz=>?_;simp;refine c0.dm rfl hv λB h1 W1 hW1 c1 at1 hle1=>?_;subst hz;obtain⟨uf,huf,ruf⟩:=at1.ldN rfl (N:=2) rfl;have hr:=tV hv;refine ab λz hz=>?_;simp[huf _ c1.wle];refine af P1 (Fk c1.wle ruf (by constructor<;>decide)) ?_;rintro _ h2 ⟨hle2,vs,rfl,hvs⟩;have c2:=c1.ext hle2;have hW2:=c1.up (h':=h2);simp;refine c2.dA (α:=bR) hvs (n:=13) (z:=.agg nP.toArray) P1 rfl rfl P1 P5 P5 λB2 h3 W3 hW3 c3 at3 hle3=>?_;subst hz;have huf3:=huf _ (Pt hW2 (Pt hW3 c3.wle));have ruf3:=ruf.mono (Pt hW2 (Pt hW3 c3.wle));have none_:fI f b p pat=Pz->K (.tuple #[PA Pz 0 0,PA Pz 0 0,.bool PD]) h3:=λe=>hK _ _ ⟨c3.le0,_,_,by rw[e];rfl,by rw[e];exact aN,by rw[e];exact aN⟩;refine ab λz hz=>?_;cases hpl:de f b p with
 | false=>
  have e:fI f b p pat=none:=by unfold fI iF;rw[hpl];split<;>rfl
  simp;exact none_ e
 | true=>
  by_cases h1p:pat<1
  ·have e:fI f b p pat=none:=by unfold fI;rw[if_neg P2]
   simp[h1p];exact none_ e
  simp[h1p,huf3];refine af P1 (vG ruf3 hsm) ?_;rintro _ h4 ⟨rfl,hle4⟩;have c4:=c3.ext hle4;have hW4:=c3.up (h':=h4);cases hrt:nI f with
  | false=>
   have e:fI f b p pat=none:=by unfold fI iF;rw[hpl,hrt];split<;>rfl
   have hrt2:decide ((ku f).1=0)=false:=hrt;simp[hrt2];exact hK _ _ ⟨c4.le0,_,_,by rw[e];rfl,by rw[e];exact aN,by rw[e];exact aN⟩
  | true=>
   have hrt2:decide ((ku f).1=0)=true:=hrt;have m:=mR hrt;have e:fI f b p pat=tryS (dL f b p 0) pat:=by unfold fI iF;rw[if_pos P2,hpl,hrt];rfl
   rw[e]at hK none_;have hpS:mG f b p 0=dL f b p 0:=by unfold mG;rw[hpl,if_pos rfl]
   rw[hpS]at at3;obtain⟨us,hus,rus⟩:=at3.ldN rfl (N:=13) rfl;have hus4:=hus _ (Pt hW4 c4.wle);simp[hrt2];subst hz;refine ab λz hz=>?_;simp[hus4];refine af P1 (yx c4.wle (rus.mono hW4) m hsm hr hM hpl hp) ?_;rintro _ h5 ⟨hle5,vf,x,rfl,hvf,hx⟩;have c5:=c4.ext hle5;simp;refine c5.dA (α:=FitD) hvf (n:=8) (z:=.agg fitZ.toArray) P1 rfl rfl P1 P5 P5 λB3 h6 W6 hW6 c6 at6 hle6=>?_;subst hz;refine ab λz hz=>?_;cases hq:tryS (dL f b p 0) pat with
   | none=>rw[hq]at hK;simp;exact hK _ _ ⟨c6.le0,_,_,rfl,aN,aN⟩
   | some y=>
    obtain rfl:=hx y hq;rw[hq]at hK;obtain⟨v1,k1,s1⟩:=((at6.mono c6.wle).part FitD.BW).sl;obtain⟨v2,k2,s2⟩:=((at6.mono c6.wle).part FitD.G5).sl;have k1:ak (vw h6) ⟨B3,0,Pz⟩=Py v1:=by simpa using k1
    have k2:ak (vw h6) ⟨B3,1,Pz⟩=Py v2:=by simpa using k2
    simp;subst hz;simp[k1,k2];exact hK _ _ ⟨c6.le0,_,_,rfl,s1,s2⟩
abbrev endZ:List Value:=[Pv Pw 0,Pv Pw 0,Pv Pw 0,PA Pz 0 0,Pv Px 0]
theorem na{H:View}:Rd H (.agg endZ.toArray) dH:=by unfold Rd;rw[if_pos (show Rep.agg EndD=PC from rfl)];exact⟨_,rfl,kC Sa P4 aN⟩
theorem Ga{f:aj}{v:Value}{b p:Int}{h:Heap}(hW:W.le (vw h))(hv:Rd W v f)(hsm:SmF f)(hM : ∀i∈dG f,i.op=15\/i.op=16->kG)(hp:I64 pat)(htm:I64 temp):
  az PE 16 #[v,Pv Pw b,Pv Pw p,Pv Pw pat,Pv Pw temp] h (λu h'=>(vw h).le (vw h')/\∃v1 v2,u = .tuple #[v1,v2,.bool (iF f b p pat temp).isSome]/\SlRd (grow W h h') v1 (A4 (iF f b p pat temp))/\Rd (grow W h h') v2 (EI (iF f b p pat temp))):=by
 refine au (args:=[v,Pv Pw b,Pv Pw p,Pv Pw pat,Pv Pw temp]) follows Tryz.func16 E.oY Pp λK hK=>?_;dsimp only[L.oY,lkF,lkG];have c0:=Cx.start hW;refine ab λz hz=>?_;simp;refine c0.dm rfl hv λB h1 W1 hW1 c1 at1 hle1=>?_;refine c1.cA (k:=(0,0)) (n:=4) (z:=.agg endZ.toArray) rfl P1 rfl P4 P8 λR h1' hle1' c1=>?_;subst hz;obtain⟨uf,huf,ruf⟩:=at1.ldN rfl (N:=2) rfl;have hr:=tV hv;refine ab λz hz=>?_;simp[huf _ c1.wle];refine af P1 (Fk c1.wle ruf htm) ?_;rintro _ h2 ⟨hle2,vs,rfl,hvs⟩;have c2:=c1.ext hle2;have hW2:=c1.up (h':=h2);simp;refine c2.dA (α:=bR) hvs (n:=13) (z:=.agg nP.toArray) P1 rfl rfl P1 P5 P5 λB2 h3 W3 hW3 c3 at3 hle3=>?_;subst hz;have huf3:=huf _ (Pt hW2 (Pt hW3 c3.wle));have ruf3:=ruf.mono (Pt hW2 (Pt hW3 c3.wle));have none_ : ∀(hx:Heap) (Wx:View) (l9:List Value) (o:Own),iF f b p pat temp=Pz->Cx W h Wx hx o->Rd Wx (.agg l9.toArray) dH->K (.tuple #[PA Pz 0 0,.agg l9.toArray,.bool PD]) hx:=λhx Wx l9 o e c r=>hK _ _ ⟨c.le0,_,_,by rw[e];rfl,by rw[e];exact aN,by rw[e];exact r.mono (c.old.le c.wle)⟩;refine ab λz hz=>?_;cases hpl:de f b p with
 | false=>
  have e:iF f b p pat temp=none:=by unfold iF;rw[hpl];rfl
  simp;refine ay (t:=T.fl) (z:=.agg endZ.toArray) (places:=[(0,1),(1,1),(2,1),(3,1),(4,1)]) (vs:=[]) (cs:=endZ.toArray) P1 P1 Sa P1 ?_;refine c3.bs (k:=(0,0)) (n:=4) (l:=endZ) Ri na rfl rfl P1 rfl rfl λh9 l9 hl9 c9=>?_;have hall:=c9.all (k:=(0,0)) (n:=4) (l:=l9) (B:=R) (e:=T.fl) Ri;simp at hall;simp[hall];exact none_ _ _ _ _ e c9 (hl9▸na)
 | true=>
  simp[huf3];refine af P1 (vG ruf3 hsm) ?_;rintro _ h4 ⟨rfl,hle4⟩;have c4:=c3.ext hle4;have hW4:=c3.up (h':=h4);cases hrt:nI f with
  | false=>
   have e:iF f b p pat temp=none:=by unfold iF;rw[hpl,hrt];rfl
   have hrt2:decide ((ku f).1=0)=false:=hrt;simp[hrt2];refine ay (t:=T.fl) (z:=.agg endZ.toArray) (places:=[(0,1),(1,1),(2,1),(3,1),(4,1)]) (vs:=[]) (cs:=endZ.toArray) P1 P1 Sa P1 ?_;refine c4.bs (k:=(0,0)) (n:=4) (l:=endZ) Ri na rfl rfl P1 rfl rfl λh9 l9 hl9 c9=>?_;have hall:=c9.all (k:=(0,0)) (n:=4) (l:=l9) (B:=R) (e:=T.fl) Ri;simp at hall;simp[hall];exact none_ _ _ _ _ e c9 (hl9▸na)
  | true=>
   have hrt2:decide ((ku f).1=0)=true:=hrt;have m:=mR hrt;have e:iF f b p pat temp=tryS (dL f b p temp) pat:=by unfold iF;rw[hpl,hrt];rfl
   rw[e]at hK none_;have hpS:mG f b p temp=dL f b p temp:=by unfold mG;rw[hpl,if_pos rfl]
   rw[hpS]at at3;obtain⟨us,hus,rus⟩:=at3.ldN rfl (N:=13) rfl;have hus4:=hus _ (Pt hW4 c4.wle);simp[hrt2];subst hz;refine ab λz hz=>?_;simp[hus4];refine af P1 (yx c4.wle (rus.mono hW4) m hsm hr hM hpl hp) ?_;rintro _ h5 ⟨hle5,vf,x,rfl,hvf,hx⟩;have c5:=c4.ext hle5;simp;refine c5.dA (α:=FitD) hvf (n:=8) (z:=.agg fitZ.toArray) P1 rfl rfl P1 P5 P5 λB3 h6 W6 hW6 c6 at6 hle6=>?_;subst hz;refine ab λz hz=>?_;cases hq:tryS (dL f b p temp) pat with
   | none=>simp;refine ay (t:=T.fl) (z:=.agg endZ.toArray) (places:=[(0,1),(1,1),(2,1),(3,1),(4,1)]) (vs:=[]) (cs:=endZ.toArray) P1 P1 Sa P1 ?_;refine c6.bs (k:=(0,0)) (n:=4) (l:=endZ) Ri na rfl rfl P1 rfl rfl λh9 l9 hl9 c9=>?_;have hall:=c9.all (k:=(0,0)) (n:=4) (l:=l9) (B:=R) (e:=T.fl) Ri;simp at hall;simp[hall];exact none_ _ _ _ _ hq c9 (hl9▸na)
   | some y=>
    obtain rfl:=hx y hq;rw[hq]at hK;obtain⟨v1,k1,s1⟩:=(at6.part FitD.Jj).sl;obtain⟨v2,k2,s2⟩:=(at6.part FitD.JR).ldN rfl (N:=5) rfl;have k1:ak W6 ⟨B3,2,Pz⟩=Py v1:=by simpa using k1
    have k2:Un.ev W6 (.bU 5) (PB (Py ⟨B3,3,Pz⟩))=Py v2:=by simpa using k2 W6 Ps
    simp;subst hz;refine ab λz hz=>?_;refine aT W6 c6.wle ?_;simp[k1,k2];refine c6.bs (k:=(0,0)) (n:=4) (l:=endZ) Ri s2 rfl rfl P1 rfl rfl λh9 l9 hl9 c9=>?_;subst hz;have hall:=c9.all (k:=(0,0)) (n:=4) (l:=l9) (B:=R) (e:=T.fl) Ri;simp at hall;simp[hall];exact hK _ _ ⟨c9.le0,_,_,rfl,s1.mono (c9.old.le c9.wle),hl9▸s2.mono (c9.old.le c9.wle)⟩
theorem GS{f:aj}{v:Value}{b p:Int}{h:Heap}(hW:W.le (vw h))(hv:Rd W v f)(hsm:SmF f)(hM : ∀i∈dG f,i.op=15\/i.op=16->kG)(hp:I64 pat)(htm:I64 temp):
  az PE 16 #[v,Pv Pw b,Pv Pw p,Pv Pw pat,Pv Pw temp] h (λu h'=>(vw h).le (vw h')/\∃v1 v2,u = .tuple #[v1,v2,.bool (iF f b p pat temp).isSome]/\SlRd (vw h') v1 (A4 (iF f b p pat temp))/\Rd (vw h') v2 (EI (iF f b p pat temp))):=
 (Ga hW hv hsm hM hp htm).mono λ_ _ ⟨hle,v1,v2,e,s1,s2⟩=>⟨hle,v1,v2,e,s1.mono (jt (Pt hW hle)),s2.mono (jt (Pt hW hle))⟩
theorem Ez{a b:ByteArray}{n:Bool}:Bn.ev (.eqS n) (.string a) (.string b)=Py (.bool ((a.toList == b.toList) != n)):=rfl
end Go.Proofs.YtnfiilgdjpdlkaaGreatDoor
