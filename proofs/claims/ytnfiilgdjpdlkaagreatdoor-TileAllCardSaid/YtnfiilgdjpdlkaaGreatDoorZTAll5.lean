/- A part of the proof: Mj, Mk, Ml, Mm, Mn, Mo, Mp, Mq, Mr, Ms, Mt, Mu, Mv, Mw, Mx, My, Mz, Na, Tk, Om, On, Ja. -/
import Derived.Test.YtnfiilgdjpdlkaaGreatDoorZTAll4
import Derived.Laws.BytesArg
set_option linter.unusedSimpArgs false
set_option linter.unusedVariables false
namespace Go.Proofs.YtnfiilgdjpdlkaaGreatDoor
open Go Go.Lft
def sk (f:an) (b:Nat) (t:Th):Bool:=decide (t.blk=b)||!nth (fh f t.blk) b
def fi (f:an) (b:Nat) (out:List Int) (t:Th):List Int:=if sk f b t then out++t.mks else out
def iX (f:an) (b:Nat):List Int:=(aJ f).foldl (fi f b) (rows (λi=>(i:Int)) f.params.toNat)
def sR (v:Value) (l:List Int):Own:=λk=>if k=(0,0) then it T.int v l else none
theorem wQ{v v':Value}{l l':List Int}(q:Key):sR v' l' q=(sR v l).upd (0,0) (it T.int v' l') q:=by
 unfold sR Own.upd;repeat' split
 all_goals first | rfl | simp_all
theorem wT{l:List Th}{f:an}{b c:Nat}(hl : ∀t∈l,t.mks.length<=c): ∀{out:List Int},(l.foldl (fi f b) out).length<=out.length+c*l.length:=by
 induction l with
 | nil=>intro out;simp
 | cons t l ih=>
  intro out;have h1:=ih (λt ht=>hl t (by simp[ht])) (out:=fi f b out t);have h2:(fi f b out t).length<=out.length+c:=by
   unfold fi;have:=hl t Sa;split
   ·rw[Lv];omega
   omega
  rw[LW,MI,OJ];omega
theorem Av.Kc{V W:View}{v:Value}(hw:Av W v)(h:V.le W):Av V v:=λb hb=>by
 cases hv:V b with
 | none=>rfl
 | some x=>have:=h b x hv;rw[hw b hb]at this;cases this
theorem ze{W W':View}{h:Heap}{e:TypeId}{v:Value}{l:List Int}(o:OwnT W h e v l):OwnT W' h e v l:=by obtain⟨b,xs,h1,h2⟩:=o;exact⟨b,xs,h1,λi hi=>h2 i hi⟩
theorem JY{h:Heap}{v:Value}(ha:Av (vw h) v): ∀b,v.ownBlock=some b->h.size<=b:=λb hb=>by have:h[b]? = none:=ha b hb;rwa [Array.getElem?_eq_none_iff]at this
theorem AA{f:an}{b:Nat}{v:Value}{h:Heap}(hv:Rd (vw h) v f)(hsm:SmF f)(hp:0<=f.params/\f.params<=1000)(hb:b<f.blocks.length)(hmk : ∀t∈aJ f,t.mks.length<=1000)(hth:(aJ f).length<=1000000):
  az Tryz.prog N.bC #[v,.int .i64 b] h (λu h'=>(vw h).le (vw h')/\(∀b,u.ownBlock=some b->h.size<=b)/\OwnT nothing h' T.int u (iX f b)):=by
 refine aw (args:=[v,.int .i64 b]) follows F.bC E.bC (Lm Ya) λK hK=>?_;dsimp only[L.bC,lkF,lkG];refine ab λz hz=>?_;simp;refine iY rfl hv λh1 _ hle1 hs1 hat=>?_;obtain⟨cp,vb,cb⟩:=jI hat;obtain⟨uf,huf,hufr⟩:=hat.bM rfl;have huf:Un.ev (vw h1) (.bM 2) (.pointer (some ⟨h.size,0,none⟩))=some uf:=huf;generalize h.size=B at cp cb huf;subst hz;refine ab λz hz=>?_;simp;refine(Owns.start (h:=h1) (View.le_refl (vw h1))).fe (k:=(0,0)) (α:=Int) rfl El.aY λvo h2 hle2 hvo w2 _=>?_;have w2:Owns (vw h1) h2 (sR vo []):=w2.congr λq=>by unfold sR Own.upd;split<;>rfl
 subst hz;refine ab λz hz=>?_;simp;obtain⟨n,hn⟩ : ∃n:Nat,n=f.params.toNat:=⟨_,rfl⟩;have hpn:f.params=n:=by omega
 rw[hpn]at cp;refine dR [0,1,2,5,6] (fun(vo:Value) i=>[v,.int .i64 b,.pointer (some ⟨B,0,none⟩),vo,.int .i64 i]) (λvo i h3=>Owns (vw h1) h3 (sR vo (rows (λi=>(i:Int)) i))) n vo
  rfl Yb rfl w2 (λ_ _=>rfl) (λv k h3 hk m=>by simp[ae m.wle cp]) ?_ ?_
 ·rintro vo i h3 hlt w3 K2 hK2;simp;refine w3.ib (k:=(0,0)) (α:=Int) (v:=vo) (l:=rows (λi=>(i:Int)) i) (d:=(i:Int)) rfl El.aY rfl (bK.2 ⟨rfl,by constructor<;>omega⟩) (by simp;omega) (by simp;omega) (λ_=>rfl) (λ_=>rfl) λu v' h4 w4 _=>?_;refine hK2 v' _ _ rfl rfl (w4.congr λq=>?_);rw[fA];exact wQ q
 rintro vo h3 w3;simp;subst hz;refine ab λz hz=>?_;have huf3:Un.ev (vw h3) (.bM 2) (.pointer (some ⟨B,0,none⟩))=some uf:=by have:=dY (ρ:=λ_=>none) (e:=.un (.bM 2) (.con (.pointer (some ⟨B,0,none⟩)))) w3.wle (by simpa using huf);simpa using this
 simp[huf3];refine ah Ya (ye hufr w3.wle hsm) ?_;rintro vt h4 ⟨hle4,hst⟩;have w4:=w3.ext hle4;have hW4:=bP (h':=h4) w3.wle;generalize grow (vw h1) h3 h4=W4 at hst w4 hW4;subst hz;refine ab λz hz=>?_;simp;have hsd:iX f b=(aJ f).foldl (fi f b) (rows (λi=>(i:Int)) n):=by rw[hn];rfl
 have hlen : ∀i,((List.take i (aJ f)).foldl (fi f b) (rows (λi=>(i:Int)) n)).length<=1001001000:=λi=>by
  have h1:=wT (l:=List.take i (aJ f)) (f:=f) (b:=b) (c:=1000) (λt ht=>hmk t (OD ht)) (out:=rows (λi=>(i:Int)) n);have h2:(List.take i (aJ f)).length<=(aJ f).length:=by simp;omega
  rw[na]at h1;omega
 generalize rows (λi=>(i:Int)) n=base at w4 hsd hlen;have tb:=hst.bound;refine dR [0,1,2,5,7,8] (fun(vo:Value) i=>[v,.int .i64 b,.pointer (some ⟨B,0,none⟩),vo,vt,.int .i64 i]) (λvo i h5=>∃W,W4.le W/\Owns W h5 (sR vo ((List.take i (aJ f)).foldl (fi f b) base))) (aJ f).length vo
  rfl Yb rfl ⟨W4,View.le_refl _,w4⟩ (λ_ _=>rfl) (λv k h5 hk ⟨W,q1,q2⟩=>by simp[hst.len]) ?_ ?_
 ·rintro vo i h5 hlt ⟨W5,hW5,w5⟩ K2 hK2;have hst5:=hst.mono hW5;have hl5:=hlen i;have hsucc:(List.take (i+1) (aJ f)).foldl (fi f b) base=fi f b ((List.take i (aJ f)).foldl (fi f b) base) (nth (aJ f) i):=by rw[LG hlt,Nt,aC hlt];rfl
  generalize (List.take i (aJ f)).foldl (fi f b) base=out at w5 hsucc hl5;have hat5:=hst5.at hlt;rw[<-aC hlt]at hat5;have hmt:=hmk _ (cr hlt);generalize nth (aJ f) i=t at hat5 hsucc hmt;have hblk:ao W5 (((slA vt).add (i*4)).add 0)=some (.int .i64 t.blk):=(hat5.part Th.Ib).int;obtain⟨vm,hvm⟩:=(hat5.part Th.J8).sl;have hvm1:ao W5 (((slA vt).add (i*4)).add 2)=some vm:=hvm.1;have hvm2:=hvm.2;have h64:=(hat5.part Th.Ib).rng;simp only[aN];refine ab λy hy=>?_;simp;subst hy;refine ab λy hy=>?_;have fin : ∀(h6:Heap) (ρ:Env) (W6:View),W5.le W6->Owns W6 h6 (sR vo out)->Lft.look ρ 0=some v->Lft.look ρ 1=some (.int .i64 b)->Lft.look ρ 2=some (.pointer (some ⟨B,0,none⟩))->Lft.look ρ 5=some vo->Lft.look ρ 7=some vt->Lft.look ρ 8=some (.int .i64 i)->Lft.look ρ 9=some (.bool (sk f b t))->
    LC.wp Tryz.prog y (fN 3 (gr K2 (fN 2 (gr (LC.wp Tryz.prog z (dW [.tmp 4] K)) (dW [.tmp 4] K))))) ρ h6:=by
   intro h6 ρ W6 hW6 w6 r0 r1 r2 r5 r7 r8 r9;subst hy;refine ab λy hy=>?_;simp[af,ag,r9];subst hy;have hsp:fi f b out t=if sk f b t then out++t.mks else out:=rfl;rw[hsp]at hsucc;by_cases ca:sk f b t=true
   ·rw[if_pos ca]at hsucc;refine aD (by simp[af,ag,ca]) ?_;have hst6:=hst5.mono (View.le_trans hW6 w6.wle);simp(disch:=omega)[af,ag,r0,r1,r2,r5,r7,r8,hst6.idxn (N:=4) rfl,ae (View.le_trans hW6 w6.wle) hvm1];refine w6.bY (k:=(0,0)) (α:=Int) (v:=vo) (l:=out) (l2:=t.mks) rfl El.aY rfl rfl ((hvm2.mono hW6).src w6.wle) Yb Yb λv' h7 w7 _=>?_;refine hK2 v' _ _ ?_ ?_ ⟨W6,View.le_trans hW5 hW6,w7.congr λq=>?_⟩
    ·simp[af,ag,r8]
    ·simp[ck,af,ag,r0,r1,r2,r5,r7,r8]
    rw[hsucc];exact wQ q
   rw[if_neg ca]at hsucc;refine aB (by simp[af,ag,ca]) ?_;simp;refine hK2 vo _ _ ?_ ?_ ⟨W6,View.le_trans hW5 hW6,by rw[hsucc];exact w6⟩
   ·simp[af,ag,r8]
   simp[ck,af,ag,r0,r1,r2,r5,r7,r8]
  refine ab λx hx=>?_;simp(disch:=omega)[(hst5.mono w5.wle).idxn (N:=4) rfl,ae w5.wle hblk];subst hx;by_cases cb:t.blk=b
  ·refine aB (by simp[cb]) ?_;simp;refine fin h5 _ W5 (View.le_refl _) w5 ?_ ?_ ?_ ?_ ?_ ?_ ?_;all_goals simp[sk,cb]
  refine aD (by simp[cb]) ?_;refine ab λx hx=>?_;have hf5:Rd (vw h5) uf f:=hufr.mono (View.le_trans hW4 (View.le_trans hW5 w5.wle));have huf5:Un.ev (vw h5) (.bM 2) (.pointer (some ⟨B,0,none⟩))=some uf:=by have:=dY (ρ:=λ_=>none) (e:=.un (.bM 2) (.con (.pointer (some ⟨B,0,none⟩)))) (View.le_trans hW4 (View.le_trans hW5 w5.wle)) (by simpa using huf);simpa using this
  refine aP (vw h5) (View.le_refl _) ?_;simp(disch:=omega)[(hst5.mono w5.wle).idxn (N:=4) rfl,ae w5.wle hblk,huf5];refine ah Ya (vy hf5 (by have:=hsm.len;omega)) ?_;rintro ur h6 ⟨hle6,hur⟩;have w6:=w5.ext hle6;have hW6:=bP (h':=h6) w5.wle;have hur6:SlRd (vw h6) ur (fh f t.blk):=hur.mono (kI h5 h6);have hrl:(fh f t.blk).length=f.blocks.length:=qD;subst hx;simp(disch:=omega)[hur6.idx1 rfl,hur6.bool (View.le_refl _)];refine fin h6 _ _ hW6 w6 ?_ ?_ ?_ ?_ ?_ ?_ ?_;all_goals simp[sk,cb]
 rintro vo h5 ⟨W5,hW5,w5⟩;rw[MM,<-hsd]at w5;simp;subst hz;simp;have hX:(vw h).le W5:=View.le_trans hle1 (View.le_trans hW4 hW5);exact hK _ _ ⟨View.le_trans hX w5.wle,JY (Av.Kc (w5.av (0,0) _ rfl) hX),ze (w5.get (k:=(0,0)) (v:=vo) rfl)⟩
end Go.Proofs.YtnfiilgdjpdlkaaGreatDoor
namespace Go.Lft
open Go
theorem vF {P:Program} {Q:Post} {ρ:Env} {h:Heap} {a i c:Nat} {ks ks2:List Nat} {ce:E} {body:LC} {σ:Type} (kp:List Nat) (vals:σ->Nat->List Value) (J:σ->Nat->Heap->Prop) (n:Nat) (d:Nat) (s0:σ)
  (hok:th kp ks ks2 c i=true) (hn:n+d<=9223372036854775806) (h0:ck kp ρ=kp.zip (vals s0 0)) (hj:J s0 0 h)
  (hi : ∀s k,look (kp.zip (vals s k)) i=some (.int .i64 ((k+d:Nat):Int)))
  (hb : ∀s k h,k<=n->J s k h->ev (look (kp.zip (vals s k))) (vw h) ce=some (.bool (decide (k<n))))
  (round : ∀s k h,k<n->J s k h->∀K:Env->Heap->Prop,(∀s' ρ' h',look ρ' i=some (.int .i64 ((k+d:Nat):Int))->ck kp (setE ρ' i (.int .i64 (((k+d:Nat):Int)+1)))=kp.zip (vals s' (k+1))->J s' (k+1) h'->K ρ' h')->body.wp P (gr K (fN a Q)) (kp.zip (vals s k)) h)
  (done : ∀s h,J s n h->Q .normal (kp.zip (vals s n)) h):LC.wp P (forC a i c ks ks2 ce body) (fN a Q) ρ h:=by
 simp only[th,L6,Ly,Ns,bne_iff_ne,MF,beq_iff_eq,ne_eq]at hok;refine jR kp (λm ρ h=>∃s k,k<=n/\ρ=kp.zip (vals s k)/\m=n-k/\J s k h) n ⟨s0,0,by omega,h0,by omega,hj⟩ ?_;rintro m ρ h ⟨s,k,hk,rfl,rfl,hJ⟩ K hK;have hkill:cO (kp.zip (vals s k)) ks=kp.zip (vals s k):=nf λp hp=>(hok p.1 (zip_fst hp)).1.1;have hne : ∀p∈kp.zip (vals s k),p.1≠c:=λp hp=>(hok p.1 (zip_fst hp)).1.2;have hk2 : ∀v,cO (setE (kp.zip (vals s k)) c v) [c]=kp.zip (vals s k):=λv=>nC hne;have hlk : ∀v,look (setE (kp.zip (vals s k)) c v) c=some v:=λv=>by rw[af,if_pos rfl]
 simp only[tL,mz,jz,hZ,kQ,mh,hb s k h hk hJ,LI,jN,ml,true_and,dQ,hkill,fT,nc,n8,hlk,lz,hk2,qC,qL,nD,nH,if_true];refine⟨λhlt=>?_,λhge=>?_⟩
 ·have hlt':k<n:=by omega
  rw[mf];refine round s k h hlt' hJ _ λs' ρ' h' hl he hJ'=>?_;simp only[mz,jz,hZ,kQ,mh,lC,n8,hl,ml,true_and,LI,yd,LI,yf,jN,dQ,fT,true_and];rw[bZ Yb Yb];refine hK (n-(k+1)) _ _ Yb ⟨s',k+1,by omega,?_,rfl,hJ'⟩;rw[<-he];refine mX λt ht=>?_;rw[af,af,ag];split
  ·rfl
  rename_i hti;rcases(hok t ht).2 with e | e
  ·exact absurd e.symm hti
  rw[e];rfl
 have:k=n:=by omega
 subst this;exact done s h hJ
open Classical in
/-- Several of one's own, written no more. -/
theorem Owns.xD {W:View} {h:Heap} {o:Own} (w:Owns W h o) (S:Key->Bool) :
  ∃W':View,W.le W'/\Owns W' h (λk=>if S k then none else o k)/\∀{k:Key} {α:Type} [r:Rep α] {e:TypeId} {v:Value} {l:List α},S k=true->o k=it e v l->SlRd W' v l:=by
 have hle:W.le (λb=>if ∃k i,S k=true/\o k=some i/\i.v.ownBlock=some b then h[b]? else W b):=λb x hb=>by
  show(if _ then _ else _)=_;rw[if_neg]
  ·exact hb
  rintro⟨k,i,_,h2,h3⟩;rw[w.av k i h2 b h3]at hb;cases hb
 refine⟨λb=>if ∃k i,S k=true/\o k=some i/\i.v.ownBlock=some b then h[b]? else W b,hle,?_,?_⟩
 ·refine⟨λb x hb=>?_,λk i hk=>?_,λk i hk b hb=>?_,λk k' i i' b hk hk'=>?_⟩
  ·split at hb
   ·exact hb
   exact w.wle b x hb
  ·split at hk
   ·cases hk
   exact @OwnT.mono i.α i.rep _ _ _ _ _ (w.own k i hk) _ hle
  ·split at hk
   ·cases hk
   rename_i hs;show(if _ then _ else _)=_;rw[if_neg]
   ·exact w.av k i hk b hb
   rintro⟨k',i',h1,h2,h3⟩;exact hs (w.dj k k' i i' b hk h2 hb h3▸h1)
  split at hk
  ·cases hk
  split at hk'
  ·cases hk'
  exact w.dj k k' i i' b hk hk'
 intro k α r e v l hs hk;refine(w.get hk).rd hle λb hb=>?_;rw[if_pos ⟨k,_,hs,hk,hb⟩]
theorem Owns.nils {W:View} {h:Heap} {o o':Own} (w:Owns W h o) (ho : ∀k i,o' k=some i->o k=some i\/(i.v = .slice none 0 0/\@OwnT i.α i.rep W h i.e i.v i.l)):Owns W h o':=by
 have hnb : ∀{i:Item} {b:Nat},i.v = .slice none 0 0->i.v.ownBlock=some b->False:=λe hb=>by rw[e]at hb;simp[Value.ownBlock]at hb
 refine⟨w.wle,λk i hk=>?_,λk i hk b hb=>?_,λk k' i i' b hk hk' hb hb'=>?_⟩
 ·rcases ho k i hk with h1 | ⟨_,h1⟩
  ·exact w.own k i h1
  exact h1
 ·rcases ho k i hk with h1 | ⟨e,_⟩
  ·exact w.av k i h1 b hb
  exact(hnb e hb).elim
 rcases ho k i hk with h1 | ⟨e,_⟩
 ·rcases ho k' i' hk' with h2 | ⟨e,_⟩
  ·exact w.dj k k' i i' b h1 h2 hb hb'
  exact(hnb e hb').elim
 exact(hnb e hb).elim
end Go.Lft
namespace Go.Proofs.YtnfiilgdjpdlkaaGreatDoor
open Go Go.Lft
abbrev TgS:=List (List Int) × MS
def nO (x:TgS) (p b:Nat) (m:MS):TgS:=(x.1.set p (nth x.1 p++[(b:Int)]),m)
def tgA (s:List Int) (k:Nat) (x:TgS):TgS:=
 if aI s x.2.at_ 3=0 then nO x (aI s (x.2.at_+1) ((k+1:Nat):Int)).toNat (k+1) x.2.took.took
 else nO x k (k+1) x.2.took
def tgI (s:List Int) (n b:Nat) (x:TgS):TgS:=
 let t:=1+aI s x.2.at_ ((n:Int)-1)
 if t<=b then
  if aI s (x.2.at_+1) 2=0 then nO x b (min (b+1) (n-1)) x.2.took.took else nO x b t.toNat x.2.took.took
 else nO x b t.toNat x.2.took
def tgB (s:List Int) (n b:Nat) (x:TgS):TgS:=up (λ_=>tgI s n b) (if 1<n then(aI s x.2.at_ 6-3).toNat else 0) (x.1,x.2.took)
def oK (s:List Int) (n:Nat) (m:MS):TgS:=up (tgB s n) n (up (tgA s) (n-1) (List.replicate n [],m))
structure TgO (ri:Own) (o:Own) (vo:Value) (l:List (List Int)) (rv:List Raw):Prop where
 res : ∀k:Key,8<=k.1->o k=ri k
 top:o (3,0)=it T.aY vo rv
 len:rv.length=l.length
 row : ∀i,i<l.length->o (4,i)=it T.int (nth rv i).v (nth l i)
 els : ∀k:Key,3<=k.1->k.1<8->k≠(3,0)->(∀i,i<l.length->k≠(4,i))->o k=none
theorem TgO.put {ri:Own} {o:Own} {vo:Value} {l:List (List Int)} {rv:List Raw} (q:TgO ri o vo l rv) {p:Nat} (hp:p<l.length) {v':Value} {r:List Int}:TgO ri ((o.upd (4,p) (it T.int v' r)).upd (3,0) (it T.aY vo (rv.set p ⟨v'⟩))) vo (l.set p r) (rv.set p ⟨v'⟩):=by
 have hpr:p<rv.length:=by rw[q.len];exact hp
 refine⟨λk hk=>(Own.ak (by rintro rfl;simp at hk)).trans ((Own.ak (by rintro rfl;simp at hk)).trans (q.res k hk)),Own.aj,by simp[q.len],λi hi=>?_,λk h1 h8 h2 h3=>?_⟩
 ·have hi:i<l.length:=by simpa using hi
  have hir:i<rv.length:=by rw[q.len];exact hi
  rw[Own.ak Sa,bQ hir,bQ hi];by_cases e:p=i
  ·subst e;rw[Own.aj,if_pos rfl,if_pos rfl]
  rw[Own.ak (λe2=>e (by injection e2 with _ e2;exact e2.symm)),if_neg e,if_neg e];exact q.row i hi
 have h3 : ∀i,i<l.length->k≠(4,i):=λi hi=>h3 i (by simpa using hi);rw[Own.ak h2,Own.ak (h3 p hp)];exact q.els k h1 h8 h2 h3
def Tg (ri:Own) (s:List Int) (M:Nat) (vs:Value) (W:View) (vo:Value) (h:Heap) (x:TgS):Prop:=∃W' o rv,W.le W'/\Mk s M vs W' h o x.2/\TgO ri o vo x.1 rv
section
variable {s:List Int} {M:Nat} {vs:Value} {W:View} {vo:Value} {h:Heap} {x:TgS} {ri:Own}
theorem Tg.take (t:Tg ri s M vs W vo h x) {c:Nat} (hm:x.2.ok c) (hc:c<=1000000) {k:Int} (hk:0<k) (hk2:k<=1000000000) :
  az Tryz.prog N.cR #[.pointer (some ⟨M,0,none⟩),.int .i64 k] h (λv h'=>v = .int .i64 (aI s x.2.at_ k)/\Tg ri s M vs W vo h' (x.1,x.2.took)):=by obtain⟨W',o,rv,g,w,q⟩:=t;refine(w.take (by have:=hm.at_;omega) hk hk2).mono ?_;rintro v h' ⟨e,o',w',f⟩;exact⟨e,W',o',rv,g,w',λk hk=>(f k Yb).trans (q.res k hk),(f _ Yc).trans q.top,q.len,λi hi=>(f _ (by show 3<=4;decide)).trans (q.row i hi),λk h1 h8 h2 h3=>(f _ h1).trans (q.els k h1 h8 h2 h3)⟩
theorem Tg.idx (t:Tg ri s M vs W vo h x) {k:IntKind} {i:Int} (h0:0<=i) (h1:i<x.1.length):Bn.ev (.idx 1) vo (.int k i)=some (.pointer (some ((slA vo).add i.toNat))):=by obtain⟨W',o,rv,g,w,q⟩:=t;exact(w.own.now q.top).idx1 rfl h0 (by rw[q.len];exact h1)
theorem Tg.put {po po2 po3:OP} (t:Tg ri s M vs W vo h x) {p:Nat} (hp:p<x.1.length) (hl:(nth x.1 p).length<=1000000) {b:Nat} (hb:b<=1000000) :
  ∃v:Value,ao (vw h) ((slA vo).add p)=some v/\∀{ty ty2 ty3:TypeId} {a a1 a2:Operand} {c1 c2:Operand} {us:List (Nat × Value)} {us2:Value->List (Nat × Value)} {us3:Value->Value->List (Nat × Value)} {K:Value->Value->Value->Heap->Prop},
   asg us a = .int .i64 b->(∀u,asg (us2 u) a1=v)->(∀u,asg (us2 u) a2=u)->(∀u v',asg (us3 u v') c1 = .pointer (some ((slA vo).add p)))->(∀u v',asg (us3 u v') c2=v')->(∀u v' h',Tg ri s M vs W vo h' (nO x p b x.2)->K u v' undef h')->
   @Lft.step po Tryz.prog (.buildSlice T.aY 1 #[(0,a)]) ty us h λu h2=>@Lft.step po2 Tryz.prog (.call ⟨.builtin .append,#[a1,a2],#[T.aY,T.aY]⟩) ty2 (us2 u) h2 λv' h3=>@Lft.step po3 Tryz.prog (.store T.aY c1 c2) ty3 (us3 u v') h3 λw h4=>K u v' w h4:=by
 obtain⟨W',o,rv,g,w,q⟩:=t;have hpr:p<rv.length:=by rw[q.len];exact hp
 have hcell:=((w.own.now q.top).at hpr).raw;have hn:Rep.n Raw=1:=rfl;rw[hn,MA,<-aC hpr]at hcell;refine⟨_,hcell,fun{ty ty2 ty3 a a1 a2 c1 c2 us us2 us3 K} ha ha1 ha2 hc1 hc2 hK=>?_⟩;refine w.own.ib (k:=(4,p)) (α:=Int) (d:=(b:Int)) (q.row p hp) El.aY ha (bK.2 ⟨rfl,by constructor<;>omega⟩) Yb Yb ha1 ha2 λu v' h3 w3 _=>?_;have hv:=(w3.cells (k:=(4,p)) Own.aj).2;refine w3.bD (k:=(3,0)) (α:=Raw) (v:=vo) (l:=rv) (i:=p) (d:=⟨v'⟩) ((Own.ak Sa).trans q.top) Ya (by rw[hc1,hn,MA]) (hc2 u v') hpr (mH.2 ⟨rfl,hv⟩) λh4 w4 _=>hK u v' h4 ?_;obtain⟨vb,vl,lb,bb⟩:=w.box;exact⟨W',_,_,g,⟨w4,w.src,vb,vl,lb,bb.frame λk hk=>by rw[Own.ak (by rintro rfl;simp at hk),Own.ak (by rintro rfl;simp at hk)]⟩,q.put hp⟩
end
theorem wX {x:TgS} {p b:Nat} {m:MS}:(nO x p b m).1.length=x.1.length:=by simp[nO]
theorem CT {x:TgS} {p b c:Nat} {m:MS} (h : ∀i,(nth x.1 i).length<=c) : ∀i,(nth (nO x p b m).1 i).length<=c+1:=by
 intro i;have hi:=h i;rcases Lr i x.1.length with hl | hl
 ·show(nth (x.1.set p _) i).length<=_;rw[bQ hl];split
  ·rename_i e;subst e;rw[Lv,LO];omega
  omega
 rw[dB (by rw[wX];exact hl)];show 0<=_;omega
structure TgK (n c:Nat) (x:TgS):Prop where
 len:x.1.length=n
 row : ∀i,(nth x.1 i).length<=c
 ok:x.2.ok c
theorem TgK.mono {n c d:Nat} {x:TgS} (h:TgK n c x) (hd:c<=d):TgK n d x:=⟨h.len,λi=>LM (h.row i) hd,h.ok.mono hd⟩
theorem TgK.put {n c p b:Nat} {x:TgS} {m:MS} (h:TgK n c x) (hm:m.ok (c+2)):TgK n (c+2) (nO x p b m):=⟨wX.trans h.len,λi=>by have:=CT (p:=p) (b:=b) (m:=m) h.row i;omega,hm⟩
theorem Iw {s:List Int} {n c k:Nat} {x:TgS} (h:TgK n c x):TgK n (c+2) (tgA s k x):=by
 unfold tgA;split
 ·exact h.put h.ok.took.took
 exact h.put (h.ok.took.mono Yb)
theorem IY {s:List Int} {n c b:Nat} {x:TgS} (h:TgK n c x):TgK n (c+2) (tgI s n b x):=by
 unfold tgI;simp only;repeat' split
 ·exact h.put h.ok.took.took
 ·exact h.put h.ok.took.took
 exact h.put (h.ok.took.mono Yb)
theorem yn {s:List Int} {n c:Nat} {x:TgS} (h:TgK n c x) : ∀k,TgK n (c+2*k) (up (tgA s) k x)
 | 0=>h
 | k+1=>(Iw (yn h k)).mono Yb
theorem A7 {s:List Int} {n c b:Nat} {x:TgS} (h:TgK n c x) : ∀k,TgK n (c+2*k) (up (λ_=>tgI s n b) k x)
 | 0=>h
 | k+1=>(IY (A7 h k)).mono Yb
theorem I9 {s:List Int} {n c b:Nat} {x:TgS} (h:TgK n c x):TgK n (c+10) (tgB s n b x):=by unfold tgB;have ht:=cS (s:=s) (at_:=x.2.at_) (n:=6) Yc;have h1:TgK n (c+1) (x.1,x.2.took):=⟨h.len,λi=>by have:=h.row i;show(nth x.1 i).length<=_;omega,h.ok.took⟩;refine(A7 h1 _).mono ?_;split<;>omega
theorem AJ {s:List Int} {n c:Nat} {x:TgS} (h:TgK n c x) : ∀k,TgK n (c+10*k) (up (tgB s n) k x)
 | 0=>h
 | k+1=>(I9 (AJ h k)).mono Yb
theorem BK {s:List Int} {M:Nat} {vs:Value} {W:View} {h:Heap} {o:Own} {m:MS} {ri:Own} (w:Mk s M vs W h o m) (hres : ∀k:Key,8<=k.1->o k=ri k) (ho : ∀k:Key,3<=k.1->k.1<8->o k=none) {n c:Nat} (hm:m.ok c) (hc:c<=1000) (hn1:1<=n) (hn2:n<=100) :
  az Tryz.prog N.aE #[.pointer (some ⟨M,0,none⟩),.int .i64 n] h (λu h'=>∃W' o',W.le W'/\Mk s M vs W' h' o' (oK s n m).2/\(∀k:Key,8<=k.1->o' k=ri k)/\(∀k:Key,3<=k.1->k.1<8->o' k=none)/\SlRd W' u (oK s n m).1):=by
 refine aw (args:=[.pointer (some ⟨M,0,none⟩),.int .i64 n]) follows F.aE E.aE (Lm Ya) λK hK=>?_;have htd:oK s n m=_:=rfl;dsimp only[L.aE,lkF,lkG];refine ab λz hz=>?_;simp;subst hz;refine ab λz hz=>?_;simp;refine nv (α:=Raw) (W:=W) (k:=.i64) (n:=n) (d:=⟨.slice none 0 0⟩) El.jJ Ri Ri ⟨rfl,rfl⟩ Yb Yb λvo h1 o1 m1 hle1 hb1=>?_;have t1:Tg ri s M vs W vo h1 (List.replicate n [],m):=by
  have w1:=w.own.add (k:=(3,0)) (ho _ Yc Yc) o1 hle1 (λb hb=>by rw[hb1]at hb;cases hb;exact Lp _);have w2:=w1.nils (o':=λk=>if k.1=4/\k.2<n then it T.int (.slice none 0 0) ([]:List Int) else o.upd (3,0) (it T.aY vo (List.replicate n (Raw.mk (.slice none 0 0)))) k) λk i hk=>by
   split at hk
   ·cases hk;exact .inr ⟨rfl,OwnT.nil (α:=Int) W h1 T.int⟩
   exact .inl hk
  obtain⟨vb,vl,lb,bb⟩:=w.box;refine⟨W,_,List.replicate n ⟨.slice none 0 0⟩,View.le_refl _,⟨w2,w.src,vb,vl,lb,bb.frame λk hk=>?_⟩,?_,rfl,by simp,λi hi=>?_,λk h1 h8 h2 h3=>?_⟩
  ·have h4:¬(k.1=4/\k.2<n):=by omega
   show(if _ then _ else _)=_;rw[if_neg h4,Own.ak (by rintro rfl;simp at hk)]
  ·intro k hk;show(if _ then _ else _)=_;rw[if_neg Yb,Own.ak (by rintro rfl;simp at hk),hres k hk]
  ·have hi:i<n:=by simpa using hi
   show(if _ then _ else _)=_;rw[if_pos ⟨rfl,hi⟩,aF hi,aF hi]
  show(if _ then _ else _)=_;rw[if_neg,Own.ak h2,ho k h1 h8];rintro⟨e1,e2⟩;refine h3 k.2 (by simpa using e2) ?_;rw[<-e1]
 have k1:TgK n c (List.replicate n [],m):=⟨by simp,λi=>by
  rcases Lr i n with hi | hi
  ·rw[aF hi];show 0<=_;omega
  rw[dB (by simpa using hi)];show 0<=_;omega,hm⟩;clear m1 o1 w ho;obtain⟨x0,hx0⟩ : ∃x0:TgS,x0=(List.replicate n [],m):=⟨_,rfl⟩;rw[<-hx0]at t1 k1;have htd:oK s n m=up (tgB s n) n (up (tgA s) (n-1) x0):=by rw[hx0];rfl
 clear hx0;subst hz;refine ab λz hz=>?_;simp;refine vF [0,1,5,6] (fun(_:Unit) k=>[.pointer (some ⟨M,0,none⟩),.int .i64 n,vo,.int .i64 ((k+1:Nat):Int)]) (λ_ k h2=>Tg ri s M vs W vo h2 (up (tgA s) k x0)) (n-1) 1 ()
  rfl Yb rfl t1 (λ_ _=>rfl) (λv k h2 hk m=>by simp;omega) ?_ ?_
 ·rintro _ k h2 hlt t2 K2 hK2;have kx:=yn (s:=s) k1 k;have e2:up (tgA s) (k+1) x0=tgA s k (up (tgA s) k x0):=rfl;rw[e2]at hK2;generalize up (tgA s) k x0=x at t2 kx hK2;have hxl:=kx.len;simp only[aN];refine ab λy hy=>?_;simp;rw[show IntKind.i64.wrap (k:Int)=k from bZ Yb Yb];subst hy;refine ab λy hy=>?_;have fin : ∀(p:Nat) (m':MS) (h':Heap) (ρ:Env),tgA s k x=nO x p (k+1) m'->p<n->Tg ri s M vs W vo h' (x.1,m')->Lft.look ρ 0=some (.pointer (some ⟨M,0,none⟩))->Lft.look ρ 1=some (.int .i64 n)->Lft.look ρ 5=some vo->Lft.look ρ 6=some (.int .i64 ((k+1:Nat):Int))->Lft.look ρ 7=some (.int .i64 p)->
    LC.wp Tryz.prog y (fN 1 (gr K2 (fN 0 (gr (LC.wp Tryz.prog z (dW [.tmp 4] K)) (dW [.tmp 4] K))))) ρ h':=by
   intro p m' h' ρ e hp t r0 r1 r5 r6 r7;subst hy;obtain⟨vr,hvr,put⟩:=t.put (p:=p) (b:=k+1) (by show p<x.1.length;omega) (by have:=kx.row p;show(nth x.1 p).length<=_;omega) Yb;have hix:=t.idx (k:=.i64) (i:=p) Yb (by show(p:Int)<x.1.length;omega);simp only[LN]at hix;simp[af,ag,r0,r1,r5,r6,r7,hix,hvr];refine put Sa (λ_=>by simp) (λ_=>by simp) (λ_ _=>by simp) (λ_ _=>by simp) λu v' h3 t3=>?_;refine hK2 () _ _ ?_ ?_ (by rw[e];exact t3)
   ·simp[af,ag,r6]
   simp[ck,af,ag,r0,r1,r5]
  have had:tgA s k x=_:=tgA.eq_1 s k x;refine ab λw hw=>?_;simp;refine ah Ya (t2.take kx.ok Yb (k:=3) Yc Yc) ?_;rintro _ h3 ⟨rfl,t3⟩;simp;subst hw;by_cases c3:aI s x.2.at_ 3=0
  ·rw[if_pos c3]at had;refine aD (by simp[c3]) ?_;simp;refine ah Ya (t3.take kx.ok.took Yb (k:=((k+1:Nat):Int)) Yb Yb) ?_;rintro _ h4 ⟨rfl,t4⟩;have hx:(x.1,x.2.took).2.at_=x.2.at_+1:=rfl;rw[hx];obtain⟨u0,u1⟩:=cS (s:=s) (at_:=x.2.at_+1) (n:=((k+1:Nat):Int)) Yb;generalize aI s (x.2.at_+1) ((k+1:Nat):Int)=q at had u0 u1;refine fin q.toNat _ h4 _ had Yb t4 ?_ ?_ ?_ ?_ ?_;all_goals simp
   omega
  rw[if_neg c3]at had;refine aB (by simp[c3]) ?_;simp;refine fin k _ h3 _ had Yb t3 ?_ ?_ ?_ ?_ ?_;all_goals simp
 rintro _ h2 t2;have k2:=yn (s:=s) k1 (n-1);generalize up (tgA s) (n-1) x0=x1 at t2 k2 htd;simp;subst hz;refine ab λz hz=>?_;simp;refine dR [0,1,5,8] (fun(_:Unit) k=>[.pointer (some ⟨M,0,none⟩),.int .i64 n,vo,.int .i64 k]) (λ_ k h3=>Tg ri s M vs W vo h3 (up (tgB s n) k x1)) n ()
  rfl Yb rfl t2 (λ_ _=>rfl) (λv k h3 hk m=>by simp) ?_ ?_
 ·rintro _ b h3 hlt t3 K2 hK2;have kx:=(AJ (s:=s) k2 b).mono (d:=3000) Yb;have e3:up (tgB s n) (b+1) x1=tgB s n b (up (tgB s n) b x1):=rfl;rw[e3]at hK2;generalize up (tgB s n) b x1=x at t3 kx hK2;simp only[aN];refine ab λy hy=>?_;simp;refine ah Ya (t3.take kx.ok Yb (k:=6) Yc Yc) ?_;rintro _ h4 ⟨rfl,t4⟩;have hbd:tgB s n b x=_:=tgB.eq_1 s n b x;obtain⟨r0,r1⟩:=cS (s:=s) (at_:=x.2.at_) (n:=6) Yc;generalize aI s x.2.at_ 6=r at hbd r0 r1;have kx1:TgK n 3001 (x.1,x.2.took):=⟨kx.len,λi=>by have:=kx.row i;show(nth x.1 i).length<=_;omega,kx.ok.took⟩;obtain⟨cnt,hcnt⟩ : ∃cnt:Nat,cnt=if 1<n then(r-3).toNat else 0:=⟨_,rfl⟩;have hc3:cnt<=3:=by rw[hcnt];split<;>omega
  rw[<-hcnt]at hbd;generalize (x.1,x.2.took)=x2 at t4 kx1 hbd;subst hy;refine ab λy hy=>?_;simp;subst hy;simp only[aN];have hw3:IntKind.i64.wrap (r-3)=r-3:=bZ Yb Yb;refine Ep [0,1,5,8,9,10] (fun(_:Unit) k=>[.pointer (some ⟨M,0,none⟩),.int .i64 n,vo,.int .i64 b,.int .i64 r,.int .i64 k]) (λ_ k h5=>Tg ri s M vs W vo h5 (up (λ_=>tgI s n b) k x2)) cnt ()
   rfl Yb rfl t4 (λ_ _=>rfl) (λv k h5 hk m=>by
    by_cases hn:1<n
    ·rw[if_pos hn]at hcnt;by_cases hk2:k<cnt
     ·have e1:(k:Int)<r-3:=by omega
      simp[hw3,e1,hk2];omega
     have e1:¬(k:Int)<r-3:=by omega
     simp[hw3,e1,hk2]
    rw[if_neg hn]at hcnt;have e2:¬k<cnt:=by omega
    by_cases e1:(k:Int)<r-3
    ·simp[hw3,e1,e2];omega
    simp[hw3,e1,e2]) ?_ ?_
  ·rintro _ k h5 hltk t5 K3 hK3;have hn2:1<n:=by
    rw[hcnt]at hltk;split at hltk
    ·assumption
    omega
   have kx3:=(A7 (s:=s) (b:=b) kx1 k).mono (d:=4000) Yb;have e5:up (λ_=>tgI s n b) (k+1) x2=tgI s n b (up (λ_=>tgI s n b) k x2):=rfl;rw[e5]at hK3;generalize up (λ_=>tgI s n b) k x2=x at t5 kx3 hK3;have hxl:=kx3.len;have hid:tgI s n b x=_:=tgI.eq_1 s n b x;have hwn:IntKind.i64.wrap ((n:Int)-1)=(n:Int)-1:=bZ Yb Yb;simp only[aN];refine ab λy hy=>?_;simp[hwn];refine ah Ya (t5.take kx3.ok Yb (k:=(n:Int)-1) Yb Yb) ?_;rintro _ h6 ⟨rfl,t6⟩;obtain⟨q0,q1⟩:=cS (s:=s) (at_:=x.2.at_) (n:=(n:Int)-1) Yb;generalize aI s x.2.at_ ((n:Int)-1)=q at hid q0 q1;have hwq:IntKind.i64.wrap (1+q)=1+q:=bZ Yb Yb;simp[hwq];subst hy;refine ab λy hy=>?_;refine iW (λρ h'=>∃(t:Nat) (m':MS) (v0 v:Value),tgI s n b x=nO x b t m'/\t<=1000/\Tg ri s M vs W vo h' (x.1,m')/\ρ=[(0,.pointer (some ⟨M,0,none⟩)),(1,.int .i64 n),(5,vo),(8,.int .i64 b),(9,.int .i64 r),(10,.int .i64 k),(11,.int .i64 t),(57,.int .i64 q),(62,v0),(64,v)]) ?_ ?_
   ·intro K4 hK4;refine ab λw hw=>?_;by_cases c1:1+q<=b
    ·rw[if_pos c1]at hid;simp[c1];refine ah Ya (t6.take kx3.ok.took Yb (k:=2) Yc Yc) ?_;rintro _ h7 ⟨rfl,t7⟩;have hx:(x.1,x.2.took).2.at_=x.2.at_+1:=rfl;rw[hx];simp;subst hw;by_cases c2:aI s (x.2.at_+1) 2=0
     ·rw[if_pos c2]at hid;refine aD (by simp[c2]) ?_;simp;refine hK4 _ _ ⟨min (b+1) (n-1),_,.bool true,.int .i64 (aI s (x.2.at_+1) 2),hid,by omega,t7,?_⟩;rw[hwn,show IntKind.i64.wrap ((b:Int)+1)=(b:Int)+1 from bZ Yb Yb];rw[show(if(n:Int)-1<(b:Int)+1 then(n:Int)-1 else(b:Int)+1)=((min (b+1) (n-1):Nat):Int) by split<;>omega]
     rw[if_neg c2]at hid;refine aB (by simp[c2]) ?_;simp;refine hK4 _ _ ⟨(1+q).toNat,_,.bool true,.int .i64 (aI s (x.2.at_+1) 2),hid,by omega,t7,?_⟩;rw[show(((1+q).toNat:Nat):Int)=1+q by omega]
    rw[if_neg c1]at hid;simp[c1];subst hw;refine aB Sa ?_;simp;refine hK4 _ _ ⟨(1+q).toNat,_,.bool false,undef,hid,by omega,t6,?_⟩;rw[show(((1+q).toNat:Nat):Int)=1+q by omega]
   rintro _ h7 ⟨t,m',v0,v,e,ht,t7,rfl⟩;subst hy;obtain⟨vr,hvr,put⟩:=t7.put (p:=b) (b:=t) (by show b<x.1.length;omega) (by have:=kx3.row b;show(nth x.1 b).length<=_;omega) Yb;have hix:=t7.idx (k:=.i64) (i:=b) Yb (by show(b:Int)<x.1.length;omega);simp only[LN]at hix;simp[hix,hvr];refine put rfl (λ_=>rfl) (λ_=>rfl) (λ_ _=>rfl) (λ_ _=>rfl) λu v' h8 t8=>?_;exact hK3 () _ _ rfl rfl (by rw[e];exact t8)
  rintro _ h5 t5;simp;refine hK2 () _ _ rfl rfl (by rw[hbd];exact t5)
 rintro _ h3 t3;rw[<-htd]at t3;simp;subst hz;simp;refine hK _ _ ?_;obtain⟨W',o,rv,g,w,q⟩:=t3;obtain⟨W2,g2,w2,fr⟩:=w.own.xD (λk=>decide (3<=k.1)&&decide (k.1<8));obtain⟨vb,vl,lb,bb⟩:=w.box;refine⟨W2,_,View.le_trans g g2,⟨w2,w.src.mono g2,vb,vl,lb,bb.frame λk hk=>?_⟩,?_,λk hk h8=>by simp[hk,h8],?_⟩
 ·have:¬3<=k.1:=by omega
  simp[this]
 ·intro k hk;have h1:3<=k.1:=by omega
  have h2:¬k.1<8:=by omega
  simp[h2];exact q.res k hk
 refine yE (fr (k:=(3,0)) Yc q.top) rfl q.len λi h1 h2 cs hr=>?_;obtain⟨e,_⟩:cs=[(rv[i]).v]/\_:=hr;refine⟨_,e,?_⟩;have:=fr (k:=(4,i)) Sa (q.row i h2);rwa [aC h1,aC h2]at this
end Go.Proofs.YtnfiilgdjpdlkaaGreatDoor
namespace Go.Proofs.YtnfiilgdjpdlkaaGreatDoor
open Go Go.Lft
section
structure Grw (b k:Nat) (m m':MS):Prop where
 at0:m.at_<=m'.at_
 at1:m'.at_<=m.at_+k
 n0:m.next<=m'.next
 n1:m'.next<=m.next+k
 ps:m'.ps=m.ps
 live:m'.live.length<=m.live.length+k
 len:m'.blocks.length=m.blocks.length
 els : ∀i,i≠b->nth m'.blocks i=nth m.blocks i
 ins:(nth m'.blocks b).ins.length<=(nth m.blocks b).ins.length+k
 phis:(nth m'.blocks b).phis=(nth m.blocks b).phis
 term:(nth m'.blocks b).term=(nth m.blocks b).term
variable {s:List Int} {m m' m2:MS} {b c k l:Nat}
theorem Grw.refl:Grw b 0 m m:=⟨Lp _,Lp _,N1 _,by omega,rfl,Lp _,rfl,λ_ _=>rfl,Lp _,rfl,rfl⟩
theorem Grw.trans (g:Grw b k m m') (h:Grw b l m' m2):Grw b (k+l) m m2:=
 ⟨LM g.at0 h.at0,by have:=g.at1;have:=h.at1;omega,Int.le_trans g.n0 h.n0,by have:=g.n1;have:=h.n1;omega,h.ps.trans g.ps,by have:=g.live;have:=h.live;omega,h.len.trans g.len,λi hi=>(h.els i hi).trans (g.els i hi),by have:=g.ins;have:=h.ins;omega,h.phis.trans g.phis,h.term.trans g.term⟩
theorem Grw.mono(g:Grw b k m m')(h:k<=l):Grw b l m m':=
 ⟨g.at0,by have:=g.at1;omega,g.n0,by have:=g.n1;omega,g.ps,by have:=g.live;omega,g.len,g.els,by have:=g.ins;omega,g.phis,g.term⟩
theorem Grw.took (g:Grw b k m m'):Grw b (k+1) m m'.took:=g.trans ⟨by show _<=m'.at_+1;omega,Lp _,N1 _,by show m'.next<=_;omega,rfl,by show m'.live.length<=_;omega,rfl,λ_ _=>rfl,by show(nth m'.blocks b).ins.length<=_;omega,rfl,rfl⟩
theorem Grw.aL (g:Grw b k m m'):Grw b (k+1) m m'.aL:=g.trans ⟨Lp _,by show m'.at_<=_;omega,by show _<=m'.next+1;omega,N1 _,rfl,by show m'.live.length<=_;omega,rfl,λ_ _=>rfl,by show(nth m'.blocks b).ins.length<=_;omega,rfl,rfl⟩
theorem Grw.add {i:InsD} (hb:b<m.blocks.length) (g:Grw b k m m'):Grw b (k+2) m (m'.add b i):=by
 have hb':b<m'.blocks.length:=by rw[g.len];exact hb
 have e:nth (m'.add b i).blocks b={ nth m'.blocks b with ins:=(nth m'.blocks b).ins++[i] }:=by show nth (m'.blocks.set b _) b=_;rw[bQ hb',if_pos rfl]
 refine g.trans ⟨Lp _,by show m'.at_<=_;omega,N1 _,by show m'.next<=_;omega,rfl,?_,mj,λj hj=>?_,?_,by rw[e],by rw[e]⟩
 ·show(m'.live++di i).length<=_;have h2:(di i).length<=2:=by
   unfold di;repeat' split
   all_goals simp
  rw[Lv];omega
 ·show nth (m'.blocks.set b _) j=_;rcases Lr j m'.blocks.length with hl | hl
  ·rw[bQ hl,if_neg (λe=>hj e.symm)]
  rw[dB (by simpa using hl),dB hl]
 rw[e];show((nth m'.blocks b).ins++[i]).length<=_;rw[Lv,LO];omega
theorem Grw.constant {n:Int} (hb:b<m.blocks.length) (g:Grw b k m m'):Grw b (k+3) m (m'.constant b n):=g.aL.add hb
theorem Grw.two {op x y:Int} (hb:b<m.blocks.length) (g:Grw b k m m'):Grw b (k+3) m (m'.two b op x y):=g.aL.add hb
theorem Grw.jY(hb:b<m.blocks.length)(g:Grw b k m m'):Grw b (k+10) m (aK s m' b).2:=by
 unfold aK;repeat' split
 ·exact(g.took.took.constant hb).mono Yb
 ·exact(g.took.took.took.took.took.constant hb).mono Yb
 exact(g.took.took.took).mono Yb
theorem Grw.addr(hb:b<m.blocks.length)(g:Grw b k m m'):Grw b (k+30) m (nS s m' b).2:=by
 unfold nS;simp only;split
 ·exact(((((g.took.constant hb).took.jY hb).constant hb).two hb).two hb).mono Yb
 exact((g.took.constant hb).took).mono Yb
theorem Grw.off(g:Grw b k m m'):Grw b (k+4) m (offS s m').2:=by
 unfold offS;split
 ·exact g.took.took.took.took
 exact g.took.took.mono Yb
theorem Grw.memory{st:Bool}(hb:b<m.blocks.length)(g:Grw b k m m'):Grw b (k+60) m (jl s m' b st):=by
 unfold jl;simp only;split
 ·exact((((g.addr hb).off.jY hb)).add hb).mono Yb
 exact(((g.addr hb).off.aL).add hb).mono Yb
theorem Grw.bin{op:Int}(hb:b<m.blocks.length)(g:Grw b k m m'):Grw b (k+60) m (binS s m' b op):=by
 unfold binS;simp only;split
 ·exact((((g.jY hb).jY hb).took.took.constant hb).two hb).mono Yb
 exact(((g.jY hb).jY hb).took.two hb).mono Yb
theorem Grw.div(hb:b<m.blocks.length)(g:Grw b k m m'):Grw b (k+60) m (divS s m' b):=by
 unfold divS;simp only;split
 ·exact((((g.jY hb).took.constant hb).took.took.constant hb).two hb).mono Yb
 exact(((g.jY hb).took.constant hb).took.two hb).mono Yb
theorem Grw.args (hb:b<m.blocks.length) {x:List Int × MS} (g:Grw b k m x.2) : ∀n,Grw b (k+10*n) m (up (iy s b) n x).2
 | 0=>g
 | n+1=>((Grw.args hb g n).jY hb).mono Yb
theorem Grw.call(hb:b<m.blocks.length)(g:Grw b k m m'):Grw b (k+70) m (nN s m' b):=by unfold nN;simp only;have ht:=cS (s:=s) (at_:=m'.at_) (n:=5) Yc;have g2:=Grw.args (s:=s) hb (x:=([],m'.took)) g.took (aI s m'.at_ 5).toNat;exact(g2.aL.took.add hb).mono Yb
theorem Grw.jy(hb:b<m.blocks.length)(g:Grw b k m m'):Grw b (k+80) m (aU s b m'):=by
 unfold aU;simp only;repeat' split
 ·exact(g.took.bin hb).mono Yb
 ·unfold ltuS;exact(((g.took.jY hb).jY hb).two hb).mono Yb
 ·exact(g.took.div hb).mono Yb
 ·exact(g.took.memory hb).mono Yb
 ·exact(g.took.call hb).mono Yb
 ·unfold xu;exact(((g.took.jY hb).jY hb).aL.aL.add hb).mono Yb
 exact(g.took.took.took.constant hb).mono Yb
theorem Grw.iL (hb:b<m.blocks.length) (g:Grw b k m m') : ∀n,Grw b (k+80*n) m (up (λ_=>aU s b) n m')
 | 0=>g
 | n+1=>((Grw.iL hb g n).jy hb).mono Yb
theorem Grw.H7{to:List Int}(hb:b<m.blocks.length)(g:Grw b k m m'):Grw b (k+40) m (iN s to b m').2:=by
 unfold iN;simp only;repeat' split
 ·exact g.took.took.mono Yb
 ·exact(g.took.jY hb).mono Yb
 ·exact g.took.mono Yb
 ·exact g.mono Yb
 ·exact((((g.jY hb).took.jY hb)).aL.took.add hb).mono Yb
 ·exact(g.jY hb).took.mono Yb
 exact(((g.jY hb).constant hb).two hb).mono Yb
def MS.f (m:MS):an:=⟨m.ps,m.blocks⟩
def MS.lM (m:MS) (b:Nat) (l:List Int):MS:={ m with blocks:=m.blocks.set b { nth m.blocks b with term:={ (nth m.blocks b).term with to:=l } } }
def iz (s:List Int) (m:MS) (b:Nat):Int:=
 if 1<(dp m.f b).length then aI s m.at_ 4 else if aI s m.at_ 6=0 then 1 else 0
def fB (b:Nat) (m:MS):MS:={ m.aL with blocks:=m.blocks.set b { nth m.blocks b with phis:=(nth m.blocks b).phis++[⟨m.next,[]⟩] } }
def fJ (s:List Int) (k:Nat) (x:List Int × MS):List Int × MS:=
 (x.1.set (k+1) (iz s x.2 (k+1)),up (λ_=>fB (k+1)) (iz s x.2 (k+1)).toNat x.2.took)
def pT (f:an) (n:Nat):List BL:=rows (λa=>fh f (a:Int)) n
def rG (dn:BL) (away:List BL) (b n:Nat):Bool:=up (λa r=>r&&(decide (a=b)||nth dn a||nth (nth away a) b)) n (!nth dn b)
def iB (m:MS) (dn:BL) (away:List BL) (b:Nat) (a:Nat) (l:List Int):List Int:=
 if decide (a≠b)&&(!nth dn a||nth (nth away a) b) then l
 else l++(nth m.blocks a).phis.map PhiD.dst++(nth m.blocks a).ins.flatMap di
def me (m:MS) (dn:BL) (away:List BL) (b n:Nat):List Int:=up (iB m dn away b) n (rows (λi=>(i:Int)) m.ps.toNat)
def jm (s:List Int) (to:List (List Int)) (n:Nat) (dn:BL) (away:List BL) (b:Nat) (m:MS):MS:=
 let m1:MS:={ m with live:=me m dn away b n }
 oI s (nth to b) b (up (λ_=>aU s b) (aI s m1.at_ 7).toNat m1.took)
def cW (s:List Int) (to:List (List Int)) (n:Nat) (b:Nat) (x:BL × MS):BL × MS:=
 if rG x.1 (pT x.2.f n) b n then(x.1.set b true,jm s to n (x.1.set b true) (pT x.2.f n) b x.2) else x
def eo (s:List Int) (p:List Int) (k:Nat) (x:List InD × MS):List InD × MS:=
 let b:=(nth p k).toNat
 let l:=iX x.2.f b
 let r:List Int × MS:=if l.length=0 then([x.2.next],x.2.took.took.constant b (kJ s x.2)) else(l,x.2)
 (x.1++[⟨nth p k,nth r.1 (aI s r.2.at_ r.1.length).toNat⟩],r.2.took)
def MS.rq (m:MS) (b i:Nat) (l:List InD):MS:={ m with blocks:=m.blocks.set b { nth m.blocks b with phis:=(nth m.blocks b).phis.set i { nth (nth m.blocks b).phis i with ins:=l } } }
def phi3 (s:List Int) (b:Nat) (p:List Int) (i:Nat) (m:MS):MS:=(up (eo s p) p.length ([],m)).2.rq b i (up (eo s p) p.length ([],m)).1
def blk3 (s:List Int) (phis:List Int) (k:Nat) (m:MS):MS:=up (phi3 s (k+1) (dp m.f ((k+1:Nat):Int))) (nth phis (k+1)).toNat m
def uu (s:List Int):MS:=⟨2,aI s 0 5,[],aI s 0 5,[]⟩
def cm (s:List Int):Nat:=(1+aI s 1 9).toNat
def ja (s:List Int):TgS:=oK s (cm s) (uu s)
def qU:BlkD:=⟨[],[],⟨0,[],[],⟨0⟩⟩⟩
def rm (s:List Int):MS:=up (λb m=>m.lM b (nth (ja s).1 b)) (cm s) { (ja s).2 with blocks:=List.replicate (cm s) qU }
def jK (s:List Int):List Int × MS:=up (fJ s) (cm s-1) (List.replicate (cm s) 0,rm s)
def xE (s:List Int):BL × MS:=up (λ_=>up (cW s (ja s).1 (cm s)) (cm s)) (cm s) (List.replicate (cm s) false,(jK s).2)
def og (s:List Int):MS:=up (blk3 s (jK s).1) (cm s-1) (xE s).2
def pR (s:List Int):an:=(og s).f
end
section
variable {s:List Int} {M:Nat} {vs:Value} {W0:View} {h:Heap} {o0:Own} {m:MS} {u:Value} {ds:List Int}
structure Reads (M:Nat) (m:MS) (h:Heap) (vb vl:Value):Prop where
 ps:ao (vw h) ⟨M,2,none⟩=some (.int .i64 m.ps)
 nx:ao (vw h) ⟨M,4,none⟩=some (.int .i64 m.next)
 cb:ao (vw h) ⟨M,3,none⟩=some vb
 cl:ao (vw h) ⟨M,5,none⟩=some vl
 f:Un.ev (vw h) (.bM 2) (.pointer (some ⟨M,2,none⟩))=some (.agg #[.int .i64 m.ps,vb])
 blk:SlRd (vw h) vb m.blocks
 live:SlRd (vw h) vl m.live
variable{vb vl:Value}
theorem Reads.rd(r:Reads M m h vb vl)(hp:I64 m.ps):Rd (vw h) (.agg #[.int .i64 m.ps,vb]) m.f:=⟨_,rfl,[.int .i64 m.ps],[vb],rfl,⟨rfl,hp⟩,vb,rfl,r.blk⟩
variable{W:View}
theorem Mk.reads{o:Own}(w:Mk s M vs W h o m){lb:List BlkM}(bb:MkB M vs m o vb vl lb):Reads M m h vb vl:=by
 have c2:ao (vw h) ⟨M,2,none⟩=some (.int .i64 m.ps):=bb.cell w.own (i:=2) Yc;have c3:ao (vw h) ⟨M,3,none⟩=some vb:=bb.cell w.own (i:=3) Yc;refine⟨c2,bb.cell w.own (i:=4) Yc,c3,bb.cell w.own (i:=5) Yc,?_,?_,w.own.now bb.live⟩
 ·have hat:=w.own.lT bb.box;obtain⟨cs,⟨cur,e,fz,g1,g2,g3⟩,he,_⟩:=w.own.atW bb.box;have:fZ (vw h) ⟨M,2,none⟩ [.int .i64 m.ps,vb]:=⟨cur,e,fz,rfl,g2,by
   have g3:(cur.toList.drop 0).take cs.length=cs:=g3;have he:cs=mkL vs m.at_ m.ps vb m.next vl:=he;rw[Nj]at g3;have hd:cs.drop 2=(cur.toList.drop 2).take (cs.length-2):=by have:=congrArg (List.drop 2) g3;rw[ML]at this;exact this.symm
   have hl:cs.length=6:=by rw[he];rfl
   have h2:(cs.drop 2).take 2=(cur.toList.drop 2).take 2:=by rw[hd,hl,MH];rfl
   show(cur.toList.drop 2).take 2=_;rw[<-h2,he];rfl⟩;have:=fQ this 2 0 #[] rfl;simp only[Un.ev,vP,LI];rw[this];simp
 refine yE (w.own.now bb.blk) rfl bb.len λi h1 h2 cs hr=>?_;have:=Ag hr (p:=(nth m.blocks i).phis) (i:=(nth m.blocks i).ins) (by have:=w.own.now (bb.phis i h2);rwa [aC h1]at this) (by have:=w.own.now (bb.ins i h2);rwa [aC h1]at this);have ht:=bb.term i h2;rw[aC h1]at ht;rw[ht]at this;rw[<-aC h2];exact this
theorem Nz.reads (n:Nz s M vs W0 h o0 m u ds) : ∃vb vl,Reads M m h vb vl:=by obtain⟨W,o,g,w,f,sl⟩:=n;obtain⟨vb,vl,lb,bb⟩:=w.box;exact⟨vb,vl,w.reads bb⟩
variable{α:Type}
theorem Nz.at[Rep α](n:Nz s M vs W0 h o0 m u ds){k:Key}(h3:3<=k.1){e:TypeId}{v:Value}{l:List α}(hk:o0 k=it e v l):SlRd (vw h) v l:=by obtain⟨W,o,g,w,f,sl⟩:=n;exact w.own.now ((f k h3).trans hk)
end
theorem BlkM.C5:Part BlkM (List Int) 4 (λd=>d.term.to) (λd x=>{ d with term:={ d.term with to:=x } }):=(Part.snd (Part.snd ((Part.snd (Part.snd (Part.fst Part.all))).via (α:=Cat Int (Cat (List Int) (Cat (List Int) I32))) (f:=λd:dD=>Cat.mk d.kind (Cat.mk d.args (Cat.mk d.to d.imm))) (g':=dD.to) (s':=λd x=>{ d with to:=x }) (λ_=>rfl) λ_ _=>rfl))).via (λ_=>rfl) λ_ _=>rfl
section
variable {s:List Int} {M:Nat} {vs:Value} {W0:View} {h:Heap} {o0:Own} {m:MS} {u:Value} {ds:List Int}
variable{po:OP}{α:Type}{ty:TypeId}{us:List (Nat × Value)}
theorem Nz.GS[r:Rep α](n:Nz s M vs W0 h o0 m u ds){k:Key}{e:TypeId}{i:Nat}{v:Value}{l:List α}{t:TypeId}{x y:Operand}{d:α}{w:Value}{K:Value->Heap->Prop}(h3:3<=k.1)(hk:o0 k=it e v l)(hi:i<l.length)(hsz:db Tryz.prog t=some (Rep.n α))(hx:asg us x = .pointer (some ((slA v).add (i*Rep.n α))))(hy:asg us y=w)(hr : ∀W,Rd W w d)(hK : ∀h',Nz s M vs W0 h' (o0.upd k (it e v (l.set i d))) m u ds->K undef h'):@Lft.step po Tryz.prog (.store t x y) ty us h K:=by
 obtain⟨W,o,g1,wk,f,sl⟩:=n;refine wk.own.bD (k:=k) (v:=v) (l:=l) (i:=i) (d:=d) ((f k h3).trans hk) hsz hx hy hi (hr W) λh' w' _=>hK h' ?_;obtain⟨vb,vl,lb,bb⟩:=wk.box;refine⟨W,_,g1,⟨w',wk.src,vb,vl,lb,bb.frame λq hq=>Own.ak (by rintro rfl;omega)⟩,λq hq=>?_,sl⟩;unfold Own.upd;split
 ·rfl
 exact f q hq
variable{W:View}{vb vl:Value}{b:Nat}{ty2:TypeId}
theorem Mk.Cf{o:Own}(w:Mk s M vs W h o m){lb:List BlkM}(bb:MkB M vs m o vb vl lb){l:List Int}{v:Value}{x y:Operand}{K:Value->Heap->Prop}(hb:b<m.blocks.length)(hsz:db Tryz.prog ty2=some 1)(hx:asg us x = .pointer (some (((slA vb).add (b*6)).add 4)))(hy:asg us y=v)(hr:SlRd W v l)(hK : ∀h' o',Mk s M vs W h' o' (m.lM b l)->(∀k:Key,3<=k.1->o' k=o k)->K undef h'):@Lft.step po Tryz.prog (.store ty2 x y) ty us h K:=by
 have hbl:b<lb.length:=by rw[bb.len];exact hb
 refine w.own.ln (k:=(0,2)) (α:=BlkM) BlkM.C5 (v:=vb) (l:=lb) (i:=b) (d:=l) bb.blk hsz hx hy hbl (eO.2 hr) λh7 w7 _=>?_;have ht:=bb.term b hb;rw[aC hbl]at ht;refine hK h7 _ ⟨w7,w.src,vb,vl,_,bb.gP hb (x':={ nth m.blocks b with term:={ (nth m.blocks b).term with to:=l } }) (y':={ lb[b]with term:={ lb[b].term with to:=l } }) (by rw[<-ht]) Own.aj ?_ ?_ λq h1 _ _=>Own.ak h1⟩ (mY Yc)
 ·rw[Own.ak Sa,bb.phis b hb,aC hbl]
 rw[Own.ak Sa,bb.ins b hb,aC hbl]
end
theorem qS {to:List (List Int)} {m:MS} : ∀k,(up (λb m=>MS.lM m b (nth to b)) k m).blocks.length=m.blocks.length
 | 0=>rfl
 | k+1=>by show(List.set _ _ _).length=_;rw[LJ];exact qS k
variable{M n:Nat}{vs vt vr:Value}{W0:View}{o0:Own}{to:List (List Int)}{Q:Post}{ρ:Env}
theorem Hv{s:List Int}{h:Heap}{m:MS}(hto:SlRd W0 vt to)(hn:to.length=n)(x:Nx s M vs W0 h o0 m)(hlen:m.blocks.length=n)(hn2:n<=100)(h0:ck [2,3,4,5,6] ρ=[(2,vr),(3,.pointer (some ⟨M,0,none⟩)),(4,.int .i64 n),(5,vt),(6,.int .i64 0)])(hQ : ∀h',Nx s M vs W0 h' o0 (up (λb m=>m.lM b (nth to b)) n m)->Q .normal [(2,vr),(3,.pointer (some ⟨M,0,none⟩)),(4,.int .i64 n),(5,vt),(6,.int .i64 n)] h'):
  LC.wp Tryz.prog (.block 0 (.loop L.aq.l1)) Q ρ h:=by
 simp only[aN];refine dR [2,3,4,5,6] (fun(_:Unit) k=>[vr,.pointer (some ⟨M,0,none⟩),.int .i64 n,vt,.int .i64 k]) (λ_ k h2=>Nx s M vs W0 h2 o0 (up (λb m=>m.lM b (nth to b)) k m)) n ()
  rfl Yb h0 x (λ_ _=>rfl) (λv k h2 hk m=>by simp) ?_ ?_
 ·rintro _ b h2 hlt x2 K2 hK2;have hlb:(up (λb m=>MS.lM m b (nth to b)) b m).blocks.length=n:=(qS b).trans hlen;have e2:up (λb m=>MS.lM m b (nth to b)) (b+1) m=(up (λb m=>MS.lM m b (nth to b)) b m).lM b (nth to b):=rfl;rw[e2]at hK2;generalize up (λb m=>MS.lM m b (nth to b)) b m=m2 at x2 hK2 hlb;obtain⟨rv,hrv⟩:=hto.rows;obtain⟨hr1,hr2⟩:=hrv b Yb;obtain⟨W,o,g,w,f⟩:=x2;obtain⟨vb,vl,lb,bb⟩:=w.box;have rd:=w.reads bb;have ito:=(hto.mono g).mono w.own.wle;simp only[aN];refine aP (vw h2) (View.le_refl _) ?_;simp(disch:=omega)[rd.cb,rd.blk.idxn (N:=6) rfl,ito.idx1 rfl,hr1 _ (View.le_trans g w.own.wle)];refine w.Cf bb (b:=b) (l:=nth to b) Yb Ya rfl rfl (hr2.mono g) λh3 o3 w3 f3=>?_;exact hK2 () _ _ rfl rfl ⟨W,o3,g,w3,λk hk=>(f3 k hk).trans (f k hk)⟩
 rintro _ h2 x2;exact hQ h2 x2
theorem sub_le{H K L:View}(h:H.sub K)(k:K.le L):H.sub L:=λb o hb=>by obtain⟨o',h1,h2⟩:=h b o hb;exact⟨o',k _ _ h1,h2⟩
variable{W:View}
theorem Owns.DY{h:Heap}{o:Own}{k:Key}{B:Nat}{e:TypeId}{l:List Value}(w:Owns W h o)(hk:o k=bx e B (RawN.mk (n:=n) l)): ∃cur,h[B]? = some (.cells cur e (0,0))/\∃r,cur.toList=l++r:=by
 obtain⟨hb,xs,⟨hl,hown⟩,hel⟩:=w.get (k:=k) (v:=.slice (some ⟨B,0,none⟩) 1 1) (l:=[RawN.mk (n:=n) l]) hk;have h0:=hel 0 Sa;simp only[M5,Nj,Nf,LO,OW]at h0 hl;rw[Lw Yb]at h0;obtain⟨h0,_,_⟩:xs=l/\_:=h0;subst h0;rcases hown with⟨h1,_⟩ | ⟨g,cap,cur,h1,h2,h3,h4,h5,h6⟩
 ·cases h1
 simp only[Value.slice.injEq,Ln,Addr.mk.injEq]at h1;obtain⟨⟨rfl,_⟩,_⟩:=h1;refine⟨cur,h2,cur.toList.drop (1*Rep.n (RawN n)),?_⟩;have h6:cur.toList.take (1*Rep.n (RawN n))=xs:=by simpa using h6
 rw[<-h6,M7]
section
variable {s:List Int} {M:Nat} {vs:Value} {W:View} {h:Heap} {o:Own} {m:MS} {vb vl:Value} {lb:List BlkM}
theorem MkB.E0(w:Owns W h o)(bb:MkB M vs m o vb vl lb): ∃H:View,H.sub (vw h)/\ao H ⟨M,3,none⟩=some vb/\SlRd H vb lb/\
  ∀h2 o2,Owns W h2 o2->MkB M vs m.aL o2 vb vl lb->(∀X:View,X.le (vw h)->X M=none->X.le (vw h2))->∃X:View,H.sub X/\W.le X/\X.le (vw h2)/\SlRd X vb lb/\∀i,i<m.blocks.length->Av X (nth lb i).phis.v:=by
 obtain⟨cur,hM,r,hr⟩:=Owns.DY w bb.box;have aM:=w.av (0,0) _ bb.box;have aM:W M=none:=aM M rfl;have avb:=w.av (0,2) _ bb.blk;have hne : ∀b,vb.ownBlock=some b->b≠M:=λb hb e=>by have:=w.dj (0,2) (0,0) _ _ b bb.blk bb.box hb (by rw[e];rfl);simp at this
 obtain⟨w6,s6⟩:=w.freeze bb.blk;have hYM:(W.plus vb h) M=none:=by unfold View.plus;rw[if_neg (λe=>hne M e rfl)];exact aM
 have hYle:(W.plus vb h).le (vw h):=w6.wle;let P:Obj:=.cells #[vs,.int .i64 m.at_,.int .i64 m.ps,vb] T.aR (0,0);have hpre : ∀{c:Array Value} {r:List Value} {nx:Int},c.toList=mkL vs m.at_ m.ps vb nx vl++r->(Obj.cells c T.aR (0,0)=P\/∃c1 c2 t fz,P = .cells c1 t fz/\Obj.cells c T.aR (0,0) = .cells c2 t fz/\∃r:List Value,c2.toList=c1.toList++r):=fun{c r nx} hc=>.inr ⟨_,c,_,_,rfl,rfl,[.int .i64 nx,vl]++r,by rw[hc];rfl⟩;refine⟨λb=>if b=M then some P else(W.plus vb h) b,λb x hb=>?_,?_,?_,λh2 o2 w2 b2 keep=>?_⟩
 ·dsimp only at hb;split at hb
  ·rename_i e;cases hb;subst e;exact⟨_,hM,hpre hr⟩
  exact⟨x,hYle b x hb,.inl rfl⟩
 ·simp[ao,P]
 ·refine s6.mono λb x hb=>?_;show(if b=M then some P else(W.plus vb h) b)=_;rw[if_neg]
  ·exact hb
  rintro rfl;rw[hYM]at hb;cases hb
 obtain⟨cur2,hM2,r2,hr2⟩:=Owns.DY w2 b2.box;have hY2:=keep _ hYle hYM;refine⟨λb=>if b=M then h2[M]? else(W.plus vb h) b,λb x hb=>?_,λb x hb=>?_,λb x hb=>?_,s6.mono λb x hb=>?_,λi hi b hb=>?_⟩
 ·dsimp only at hb;split at hb
  ·rename_i e;cases hb;subst e;exact⟨_,by simp[hM2],hpre hr2⟩
  rename_i e;exact⟨x,by simpa[e]using hb,.inl rfl⟩
 ·have e:b≠M:=by rintro rfl;rw[aM]at hb;cases hb
  show(if b=M then h2[M]? else(W.plus vb h) b)=_;rw[if_neg e];exact eM avb b x hb
 ·dsimp only at hb;split at hb
  ·rename_i e;subst e;exact hb
  exact hY2 b x hb
 ·have e:b≠M:=by rintro rfl;rw[hYM]at hb;cases hb
  show(if b=M then h2[M]? else(W.plus vb h) b)=_;rw[if_neg e];exact hb
 have e:b≠M:=λe=>by have:=w.dj (1,i) (0,0) _ _ b (bb.phis i hi) bb.box hb (by rw[e];rfl);simp at this
 show(if b=M then h2[M]? else(W.plus vb h) b)=_;rw[if_neg e];exact w6.av (1,i) _ ((Own.ak Sa).trans (bb.phis i hi)) b hb
theorem Mk.IP(w:Mk s M vs W h o m)(bb:MkB M vs m o vb vl lb)(h0:0<=m.next)(h1:m.next<=1000000000):
  az Tryz.prog N.cD #[.pointer (some ⟨M,0,none⟩)] h (λu h'=>u = .int .i64 m.next/\∃o',Mk s M vs W h' o' m.aL/\MkB M vs m.aL o' vb vl lb/\(∀k:Key,3<=k.1->o' k=o k)/\∀X:View,X.le (vw h)->X M=none->X.le (vw h')):=by refine(y6 w.own bb.box h0 h1).mono ?_;rintro u h' ⟨rfl,w2,keep⟩;exact⟨rfl,_,⟨w2,w.src,vb,vl,lb,bb.at⟩,bb.at,mY Yc,keep⟩
end
theorem Nz.ext{s:List Int}{M:Nat}{vs:Value}{W0:View}{h h':Heap}{o0:Own}{m:MS}{u:Value}{ds:List Int}(n:Nz s M vs W0 h o0 m u ds)(hle:(vw h).le (vw h')):Nz s M vs W0 h' o0 m u ds:=by obtain⟨W,o,g,w,f,sl⟩:=n;exact⟨W,o,g,⟨w.own.ext' hle,w.src,w.box⟩,f,sl⟩
structure Sz (n a p i:Nat) (m:MS):Prop where
 at_:m.at_<=a
 n0:0<=m.next
 next:m.next<=a
 live:m.live.length<=a
 ps0:0<=m.ps
 ps1:m.ps<=4
 len:m.blocks.length=n
 phis : ∀j,(nth m.blocks j).phis.length<=p
 ins : ∀j,(nth m.blocks j).ins.length<=i
theorem Sz.mono{n a p i a' p' i':Nat}{m:MS}(z:Sz n a p i m)(h1:a<=a')(h2:p<=p')(h3:i<=i'):Sz n a' p' i' m:=
 ⟨LM z.at_ h1,z.n0,by have:=z.next;omega,LM z.live h1,z.ps0,z.ps1,z.len,λj=>LM (z.phis j) h2,λj=>LM (z.ins j) h3⟩
theorem Sz.ok {n a p i:Nat} {m:MS} (z:Sz n a p i m) (h:i<=a):m.ok a:=⟨z.at_,z.n0,z.next,z.live,λj=>LM (z.ins j) h⟩
theorem Sz.took {n a p i:Nat} {m:MS} (z:Sz n a p i m):Sz n (a+1) p i m.took:=⟨by have:=z.at_;show m.at_+1<=_;omega,z.n0,by have:=z.next;show m.next<=_;omega,by have:=z.live;show m.live.length<=_;omega,z.ps0,z.ps1,z.len,z.phis,z.ins⟩
variable{b:Nat}
theorem Sz.gP{a p i:Nat}{m:MS}(z:Sz n a p i m){x:BlkD}(h1:x.phis.length<=p)(h2:x.ins.length<=i):Sz n a p i { m with blocks:=m.blocks.set b x }:=by
 refine⟨z.at_,z.n0,z.next,z.live,z.ps0,z.ps1,by show(m.blocks.set b x).length=_;rw[LJ];exact z.len,λj=>?_,λj=>?_⟩;all_goals
  show List.length (α:=_) _<=_
  rcases Lr j m.blocks.length with hl | hl
  ·simp only[bQ hl]
   split
   ·assumption
   ·first | exact z.phis j | exact z.ins j
  ·first
    | (have:=z.phis j;rw[dB hl]at this;rw[dB (by simpa using hl)];exact this)
    | (have:=z.ins j;rw[dB hl]at this;rw[dB (by simpa using hl)];exact this)
theorem Sz.fB {n a p i b:Nat} {m:MS} (z:Sz n a p i m):Sz n (a+1) (p+1) i (fB b m):=by have h1:Sz n (a+1) (p+1) i m.aL:=⟨by have:=z.at_;show m.at_<=_;omega,by have:=z.n0;show 0<=m.next+1;omega,by have:=z.next;show m.next+1<=_;omega,by have:=z.live;show m.live.length<=_;omega,z.ps0,z.ps1,z.len,λj=>by have:=z.phis j;show(nth m.blocks j).phis.length<=_;omega,z.ins⟩;exact h1.gP (b:=b) (x:={ nth m.blocks b with phis:=(nth m.blocks b).phis++[⟨m.next,[]⟩] }) (by have:=z.phis b;show((nth m.blocks b).phis++[_]).length<=_;rw[Lv,LO];omega) (z.ins b)
theorem Sz.oW {n a p i b:Nat} {m:MS} (z:Sz n a p i m) : ∀k,Sz n (a+k) (p+k) i (up (λ_=>Go.Proofs.YtnfiilgdjpdlkaaGreatDoor.fB b) k m)
 | 0=>z
 | k+1=>(Sz.oW z k).fB
section
variable {s:List Int} {M:Nat} {vs:Value} {W0:View} {h:Heap} {o0:Own} {m:MS}
variable{vp:Value}{lp:List Int}
theorem HC{a p i cnt:Nat}{vq:Value}(x:Nx s M vs W0 h o0 m)(hk:o0 (5,0)=it T.int vp lp)(z:Sz n a p i m)(hb:b<n)(hlp:lp.length=n)(hcnt:nth lp b=cnt)(hc:cnt<=10)(hn:n<=100)(ha:a<=100000)(hp:p<=100000)(h0:ck [2,3,4,5,7,8,9,10] ρ=[(2,vr),(3,.pointer (some ⟨M,0,none⟩)),(4,.int .i64 n),(5,vt),(7,vp),(8,.int .i64 b),(9,vq),(10,.int .i64 0)])(hQ : ∀h',Nx s M vs W0 h' o0 (up (λ_=>fB b) cnt m)->Q .normal [(2,vr),(3,.pointer (some ⟨M,0,none⟩)),(4,.int .i64 n),(5,vt),(7,vp),(8,.int .i64 b),(9,vq),(10,.int .i64 cnt)] h'):
  LC.wp Tryz.prog (.block 4 (.loop L.aq.l3)) Q ρ h:=by
 simp only[aN];refine dR [2,3,4,5,7,8,9,10] (fun(_:Unit) k=>[vr,.pointer (some ⟨M,0,none⟩),.int .i64 n,vt,vp,.int .i64 b,vq,.int .i64 k]) (λ_ k h2=>Nx s M vs W0 h2 o0 (up (λ_=>fB b) k m)) cnt ()
  rfl Yb h0 x (λ_ _=>rfl) (λv k h2 hk2 m=>by have sp:=m.z.at Yc hk;have e:=sp.int (View.le_refl _) (i:=b) Yb;rw[hcnt]at e;simp(disch:=omega)[sp.idx1 rfl,e]) ?_ ?_
 ·rintro _ k h2 hlt x2 K2 hK2;have z2:=z.oW (b:=b) k;have e2:up (λ_=>fB b) (k+1) m=fB b (up (λ_=>fB b) k m):=rfl;rw[e2]at hK2;generalize up (λ_=>fB b) k m=m2 at x2 hK2 z2;have hbl:b<m2.blocks.length:=by rw[z2.len];exact hb
  obtain⟨W,o,g,w,f⟩:=x2;obtain⟨vb,vl,lb,bb⟩:=w.box;have hbb:b<lb.length:=by rw[bb.len];exact hbl
  obtain⟨H,hH,c3,sH,E0⟩:=bb.E0 w.own;have a1:=(sH.at hbb).part BlkM.rW;have a2:ao H (((slA vb).add (b*6)).add 0)=some (nth lb b).phis.v:=by rw[aC hbb];exact a1.raw
  have sb:=sH.bound;simp only[aN];refine CM H hH ?_;simp(disch:=omega)[c3,sH.idxn (N:=6) rfl,a2];refine ah Ya (w.IP bb z2.n0 (by have:=z2.next;omega)) ?_;rintro _ h3 ⟨rfl,o3,w3,b3,f3,keep⟩;obtain⟨X,hHX,hWX,hX,sX,avX⟩:=E0 h3 o3 w3.own b3 keep;refine⟨sub_le hHX hX,?_⟩;refine ay (z:=.agg #[.int .i64 0,.slice none 0 0]) (places:=[(0,1),(1,1)]) (vs:=[(0,.int .i64 m2.next)]) (cs:=#[.int .i64 m2.next,.slice none 0 0]) Ya Ya Sa Ya ?_;refine⟨sub_le hHX hX,?_⟩;have i64:I64 m2.next:=by have:=z2.n0;have:=z2.next;constructor<;>omega
  have hph:=z2.phis b;refine mF (α:=PhiD) (W:=W) (d:=⟨m2.next,[]⟩) El.kq rfl (z6 i64 aO) λu5 h5 src hle5 hs5=>⟨sub_le hHX (View.le_trans hX hle5),?_⟩;refine(w3.own.ext' hle5).bY (k:=(1,b)) (α:=PhiD) (v:=(nth lb b).phis.v) (l:=(nth m2.blocks b).phis) (l2:=[⟨m2.next,[]⟩]) (b3.phis b hbl) El.kq rfl rfl src (by simp;omega) (by simp;omega) λv6 h6 w6 m6=>⟨sub_le hHX (m6.view (View.le_trans hX hle5) (avX b hbl)).1,?_⟩;have hv6:=(w6.cells (k:=(1,b)) Own.aj).2;refine w6.ln (k:=(0,2)) (α:=BlkM) BlkM.rW (v:=vb) (l:=lb) (i:=b) (d:=⟨v6⟩) b3.blk Ya rfl rfl hbb (mH.2 ⟨rfl,hv6⟩) λh7 w7 _=>?_;have b7:=b3.gP (b:=b) hbl (x':={ nth m2.blocks b with phis:=(nth m2.blocks b).phis++[⟨m2.next,[]⟩] }) (y':={ lb[b]with phis:=⟨v6⟩ }) (o':=(o3.upd (1,b) (it T.lg v6 ((nth m2.blocks b).phis++[⟨m2.next,[]⟩]))).upd (0,2) (it T.dh vb (lb.set b { lb[b]with phis:=⟨v6⟩ }))) (by rw[<-bb.term b hbl,aC hbb]) Own.aj ((Own.ak Sa).trans Own.aj) (by rw[Own.ak Sa,Own.ak Sa,b3.ins b hbl,aC hbb];rfl) (λq h1 h2 h3=>by rw[Own.ak h1,Own.ak h2]);refine hK2 () _ _ rfl rfl ⟨W,_,g,⟨w7,w.src,vb,vl,_,b7⟩,λk hk=>?_⟩;rw[Own.ak (by rintro rfl;simp at hk),Own.ak (by rintro rfl;simp at hk)];exact(f3 k hk).trans (f k hk)
 rintro _ h2 x2;exact hQ h2 x2
end
variable{po:OP}{α:Type}{ty:TypeId}{us:List (Nat × Value)}
theorem Nz.vU{s:List Int}{h:Heap}{m:MS}{u:Value}{ds:List Int}[r:Rep α](n:Nz s M vs W0 h o0 m u ds){k:Key}{e:TypeId}{i:Nat}{v:Value}{l:List α}{t:TypeId}{x y:Operand}{d:α}{w:Value}{K:Value->Heap->Prop}(h1:Rep.n α=1)(h3:3<=k.1)(hk:o0 k=it e v l)(hi:i<l.length)(hsz:db Tryz.prog t=some 1)(hx:asg us x = .pointer (some ((slA v).add i)))(hy:asg us y=w)(hr : ∀W,Rd W w d)(hK : ∀h',Nz s M vs W0 h' (o0.upd k (it e v (l.set i d))) m u ds->K undef h'):@Lft.step po Tryz.prog (.store t x y) ty us h K:=
 n.GS h3 hk hi (by rw[hsz,h1]) (by rw[hx,h1,MA]) hy hr hK
theorem qy{s:List Int}{m:MS}:0<=iz s m b/\iz s m b<=3:=by
 unfold iz;have:=cS (s:=s) (at_:=m.at_) (n:=4) Yc;repeat' split
 all_goals omega
theorem EU{l:List Int}{i:Nat}{x:Int}(h:nth l i=x)(hi:i<l.length):l.set i x=l:=by rw[<-h,aC hi];exact List.set_getElem_self hi
structure Ph (n a k:Nat) (x:List Int × MS):Prop where
 z:Sz n (a+10*k) (3*k) 0 x.2
 len:x.1.length=n
 zero : ∀j,k<j->nth x.1 j=0
 rng : ∀j,0<=nth x.1 j/\nth x.1 j<=3
theorem ud{s:List Int}{a k:Nat}{x:List Int × MS}(p:Ph n a k x):Ph n a (k+1) (fJ s k x):=by
 obtain⟨c0,c1⟩:=qy (s:=s) (m:=x.2) (b:=k+1);have hset : ∀j,nth (x.1.set (k+1) (iz s x.2 (k+1))) j=if k+1=j/\j<x.1.length then iz s x.2 (k+1) else nth x.1 j:=λj=>by
  rcases Lr j x.1.length with hl | hl
  ·rw[bQ hl];by_cases e:k+1=j
   ·rw[if_pos e,if_pos ⟨e,hl⟩]
   rw[if_neg e,if_neg (λq=>e q.1)]
  rw[dB (by simpa using hl),if_neg Yb,dB hl]
 refine⟨?_,?_,λj hj=>?_,λj=>?_⟩
 ·have:=(p.z.took).oW (b:=k+1) (iz s x.2 (k+1)).toNat;exact this.mono Yb Yb (Lp _)
 ·show(x.1.set _ _).length=_;rw[LJ];exact p.len
 ·show nth (x.1.set _ _) j=_;rw[hset,if_neg Yb];exact p.zero j Yb
 show 0<=nth (x.1.set _ _) j/\nth (x.1.set _ _) j<=3;rw[hset];split
 ·exact⟨c0,c1⟩
 exact p.rng j
theorem yh {s:List Int} {n a:Nat} {x:List Int × MS} (p:Ph n a 0 x) : ∀k,Ph n a k (up (fJ s) k x)
 | 0=>p
 | k+1=>ud (yh p k)
variable{vp:Value}
theorem Hl{s:List Int}{h:Heap}{a:Nat}{x0:List Int × MS}(x:Nx s M vs W0 h (o0.upd (5,0) (it T.int vp x0.1)) x0.2)(p0:Ph n a 0 x0)(hn1:1<=n)(hn:n<=100)(ha:a<=10000)(h0:ck [2,3,4,5,7,8] ρ=[(2,vr),(3,.pointer (some ⟨M,0,none⟩)),(4,.int .i64 n),(5,vt),(7,vp),(8,.int .i64 1)])(hQ : ∀h',Nx s M vs W0 h' (o0.upd (5,0) (it T.int vp (up (fJ s) (n-1) x0).1)) (up (fJ s) (n-1) x0).2->Q .normal [(2,vr),(3,.pointer (some ⟨M,0,none⟩)),(4,.int .i64 n),(5,vt),(7,vp),(8,.int .i64 n)] h'):
  LC.wp Tryz.prog (.block 2 (.loop L.aq.l2)) Q ρ h:=by
 simp only[aN];refine vF [2,3,4,5,7,8] (fun(_:Unit) k=>[vr,.pointer (some ⟨M,0,none⟩),.int .i64 n,vt,vp,.int .i64 ((k+1:Nat):Int)]) (λ_ k h2=>Nx s M vs W0 h2 (o0.upd (5,0) (it T.int vp (up (fJ s) k x0).1)) (up (fJ s) k x0).2) (n-1) 1 ()
  rfl Yb h0 x (λ_ _=>rfl) (λv k h2 hk2 m=>by simp;omega) ?_ ?_
 ·rintro _ k h2 hlt x2 K2 hK2;have p2:=yh (s:=s) p0 k;have e2:up (fJ s) (k+1) x0=fJ s k (up (fJ s) k x0):=rfl;have p3:=ud (s:=s) p2;rw[e2]at hK2;generalize up (fJ s) k x0=y at x2 hK2 p2 p3;obtain⟨lp,m⟩:=y;have z:Sz n (a+10*k) (3*k) 0 m:=p2.z;have x2:Nx s M vs W0 h2 (o0.upd (5,0) (it T.int vp lp)) m:=x2;have q:m.ok (a+10*k):=z.ok Yb;have hlen:lp.length=n:=p2.len;simp only[aN];refine ab λy hy=>?_;obtain⟨vb,vl,rd⟩:=x2.z.reads;simp[rd.f];refine ah Ya (sL (b:=((k+1:Nat):Int)) (rd.rd ⟨by have:=z.ps0;show _<=m.ps;omega,by have:=z.ps1;show m.ps<=_;omega⟩) (by show m.blocks.length<=_;rw[z.len];omega)) ?_;rintro vq h3 ⟨hle3,hq⟩;have n3:=x2.z.ext hle3;have hcd:iz s m (k+1)=_:=iz.eq_1 s m (k+1);obtain⟨pl,hpl⟩ : ∃pl:Nat,pl=(dp m.f ((k+1:Nat):Int)).length:=⟨_,rfl⟩;have hql : ∀{Q:View},Un.ev Q .len vq=some (.int .i64 pl):=fun{Q}=>by rw[hpl];exact hq.len
  rw[<-hpl]at hcd;clear hq x2 rd hpl;subst hy;refine ab λy hy=>?_;have fin : ∀(h':Heap) (ρ:Env),Nz s M vs W0 h' (o0.upd (5,0) (it T.int vp (lp.set (k+1) (iz s m (k+1))))) m.took (.slice none 0 0) []->Lft.look ρ 2=some vr->Lft.look ρ 3=some (.pointer (some ⟨M,0,none⟩))->Lft.look ρ 4=some (.int .i64 n)->Lft.look ρ 5=some vt->Lft.look ρ 7=some vp->Lft.look ρ 8=some (.int .i64 ((k+1:Nat):Int))->Lft.look ρ 9=some vq->
    LC.wp Tryz.prog y (fN 3 (gr K2 (fN 2 Q))) ρ h':=by
   intro h' ρ n' r2 r3 r4 r5 r7 r8 r9;subst hy;refine ab λy hy=>?_;simp;subst hy;obtain⟨c0,c1⟩:=qy (s:=s) (m:=m) (b:=k+1);refine HC (vr:=vr) (vt:=vt) (b:=k+1) (cnt:=(iz s m (k+1)).toNat) (vq:=vq) n'.x Own.aj z.took Yb (by rw[LJ];exact hlen) (by rw[bQ Yb,if_pos rfl];omega) Yb hn Yb Yb ?_ λh4 x4=>?_
   ·simp[ck,af,ag,r2,r3,r4,r5,r7,r8,r9]
   simp;exact hK2 () _ _ rfl rfl x4
  refine ab λw hw=>?_;simp[hql];subst hw;by_cases c1:1<pl
  ·rw[if_pos c1]at hcd;refine aD (by simp;omega) ?_;simp;refine ah Ya (fu n3 q Yb (k:=4) Yc Yc) ?_;rintro _ h4 ⟨rfl,n4⟩;have sp:=n4.at (k:=(5,0)) Yc Own.aj;simp(disch:=omega)[sp.idx1 rfl];refine n4.vU (k:=(5,0)) (α:=Int) (i:=k+1) (d:=aI s m.at_ 4) rfl Yc Own.aj Yb Ya rfl rfl (λW=>bK.2 ⟨rfl,by have:=cS (s:=s) (at_:=m.at_) (n:=4) Yc;constructor<;>omega⟩) λh5 n5=>?_;refine fin h5 _ (n5.re λq=>by rw[cw,hcd]) ?_ ?_ ?_ ?_ ?_ ?_ ?_;all_goals simp
  rw[if_neg c1]at hcd;refine aB (by simp;omega) ?_;refine ab λw hw=>?_;simp;refine ah Ya (fu n3 q Yb (k:=6) Yc Yc) ?_;rintro _ h4 ⟨rfl,n4⟩;simp;subst hw;by_cases c2:aI s m.at_ 6=0
  ·rw[if_pos c2]at hcd;refine aD (by simp[c2]) ?_;have sp:=n4.at (k:=(5,0)) Yc Own.aj;simp(disch:=omega)[sp.idx1 rfl];refine n4.vU (k:=(5,0)) (α:=Int) (i:=k+1) (d:=1) rfl Yc Own.aj Yb Ya rfl rfl (λW=>bK.2 ⟨rfl,by decide,by decide⟩) λh5 n5=>?_;refine fin h5 _ (n5.re λq=>by rw[cw,hcd]) ?_ ?_ ?_ ?_ ?_ ?_ ?_;all_goals simp
  rw[if_neg c2]at hcd;refine aB (by simp[c2]) ?_;simp;have e:lp.set (k+1) (iz s m (k+1))=lp:=by rw[hcd];exact EU (p2.zero (k+1) Yb) Yb
  refine fin h4 _ (n4.re λq=>by rw[e]) ?_ ?_ ?_ ?_ ?_ ?_ ?_;all_goals simp
 rintro _ h2 x2;have e:n-1+1=n:=by omega
 have:=hQ h2 x2;simpa[e]using this
section
variable {s:List Int} {M:Nat} {vs:Value} {W0:View} {h:Heap} {o0:Own} {m:MS}
theorem Ea{a p i:Nat}(z:Sz n a p i m):I64 m.ps:=by have:=z.ps0;have:=z.ps1;constructor<;>omega
variable{vd va:Value}
theorem Gp{a p i:Nat}{r:Bool}{t:Nat}(x:Nx s M vs W0 h (o0.upd (7,0) (it T.nB va ([]:List BL))) m)(hfree:o0 (7,0)=none)(z:Sz n a p i m)(hn:n<=100)(h0:ck [2,3,4,5,7,11,12,13,14,15,16] ρ=[(2,vr),(3,.pointer (some ⟨M,0,none⟩)),(4,.int .i64 n),(5,vt),(7,vp),(11,vd),(12,.int .i64 t),(13,.int .i64 b),(14,.bool r),(15,va),(16,.int .i64 0)])(hQ : ∀h' W' va,W0.le W'->Nx s M vs W' h' o0 m->SlRd W' va (pT m.f n)->Q .normal [(2,vr),(3,.pointer (some ⟨M,0,none⟩)),(4,.int .i64 n),(5,vt),(7,vp),(11,vd),(12,.int .i64 t),(13,.int .i64 b),(14,.bool r),(15,va),(16,.int .i64 n)] h'):
  LC.wp Tryz.prog (.block 10 (.loop L.aq.l6)) Q ρ h:=by
 simp only[aN];refine dR [2,3,4,5,7,11,12,13,14,15,16] (fun(va:Value) k=>[vr,.pointer (some ⟨M,0,none⟩),.int .i64 n,vt,vp,vd,.int .i64 t,.int .i64 b,.bool r,va,.int .i64 k]) (λva k h2=>Nx s M vs W0 h2 (o0.upd (7,0) (it T.nB va (rows (λa=>fh m.f (a:Int)) k))) m) n va
  rfl Yb h0 x (λ_ _=>rfl) (λv k h2 hk2 m=>by simp) ?_ ?_
 ·rintro va k h2 hlt x2 K2 hK2;simp only[aN];obtain⟨vb,vl,rd⟩:=x2.z.reads;simp[rd.f];refine ah Ya (vy (wo:=(k:Int)) (rd.rd (Ea z)) (by show m.blocks.length<=_;rw[z.len];omega)) ?_;rintro ur h3 ⟨hle3,hur⟩;obtain⟨W,o,g,w,f⟩:=x2;have w3:=w.own.ext hle3;have hW3:=bP (h':=h3) w.own.wle;have hur:=hur.mono (jw W h2 h3);generalize grow W h2 h3=W3 at w3 hW3 hur;refine w3.ib (k:=(7,0)) (α:=BL) (d:=fh m.f (k:Int)) ((f _ Yc).trans Own.aj) El.tP rfl (eO.2 hur) (by simp;omega) (by simp;omega) (λ_=>rfl) (λ_=>rfl) λu v' h4 w4 _=>?_;obtain⟨vb,vl,lb,bb⟩:=w.box;refine hK2 v' _ _ rfl rfl ⟨W3,_,View.le_trans g hW3,⟨w4,w.src.mono hW3,vb,vl,lb,bb.frame λq hq=>Own.ak (by rintro rfl;simp at hq)⟩,λq hq=>?_⟩;rw[fA];unfold Own.upd;split
  ·rfl
  rename_i e;rw[f q hq,Own.ak e]
 rintro va h2 ⟨W,o,g,w,f⟩;have hk:=(f (7,0) Yc).trans Own.aj;obtain⟨w2,sl⟩:=w.own.freeze hk;have hWp:=eM (h:=h2) (w.own.av _ _ hk);obtain⟨vb,vl,lb,bb⟩:=w.box;refine hQ h2 _ va (View.le_trans g hWp) ⟨_,_,View.le_refl _,⟨w2,w.src.mono hWp,vb,vl,lb,bb.frame λq hq=>Own.ak (by rintro rfl;simp at hq)⟩,λq hq=>?_⟩ sl;by_cases e:q=(7,0)
 ·rw[e,Own.aj,hfree]
 rw[Own.ak e,f q hq,Own.ak e]
variable{dn:BL}{away:List BL}
theorem G9{r:Bool}{t:Nat}(sd:SlRd (vw h) vd dn)(sa:SlRd (vw h) va away)(hb:b<n)(hdn:dn.length=n)(hal:away.length=n)(har : ∀i,i<n->(nth away i).length=n)(hn:n<=100)(h0:ck [2,3,4,5,7,11,12,13,14,15,17] ρ=[(2,vr),(3,.pointer (some ⟨M,0,none⟩)),(4,.int .i64 n),(5,vt),(7,vp),(11,vd),(12,.int .i64 t),(13,.int .i64 b),(14,.bool r),(15,va),(17,.int .i64 0)])(hQ:Q .normal [(2,vr),(3,.pointer (some ⟨M,0,none⟩)),(4,.int .i64 n),(5,vt),(7,vp),(11,vd),(12,.int .i64 t),(13,.int .i64 b),(14,.bool (up (λa r=>r&&(decide (a=b)||nth dn a||nth (nth away a) b)) n r)),(15,va),(17,.int .i64 n)] h):
  LC.wp Tryz.prog (.block 12 (.loop L.aq.l7)) Q ρ h:=by
 simp only[aN];refine dR [2,3,4,5,7,11,12,13,14,15,17] (fun(r:Bool) k=>[vr,.pointer (some ⟨M,0,none⟩),.int .i64 n,vt,vp,vd,.int .i64 t,.int .i64 b,.bool r,va,.int .i64 k]) (λr2 k h2=>h2=h/\r2=up (λa r=>r&&(decide (a=b)||nth dn a||nth (nth away a) b)) k r) n r
  rfl Yb h0 ⟨rfl,rfl⟩ (λ_ _=>rfl) (λv k h2 hk2 m=>by simp) ?_ ?_
 ·rintro r2 k h2 hlt ⟨rfl,hr2⟩ K2 hK2;have e:up (λa r=>r&&(decide (a=b)||nth dn a||nth (nth away a) b)) (k+1) r=(r2&&(decide (k=b)||nth dn k||nth (nth away k) b)):=by rw[hr2];rfl
  rw[e]at hK2;clear e hr2;obtain⟨rv,hrv⟩:=sa.rows;obtain⟨ha1,ha2⟩:=hrv k Yb;have hl:=har k hlt;have hkb : ∀{A:Type},True:=trivial;simp only[aN];cases r2 with
  | false=>simp;exact hK2 false _ _ rfl rfl ⟨rfl,rfl⟩
  | true=>
   by_cases c:k=b
   ·subst c;simp;exact hK2 true _ _ rfl rfl ⟨rfl,by simp⟩
   have c':¬((k:Int)=(b:Int)):=by omega
   cases hd:nth dn k with
   | true=>simp(disch:=omega)[c,c',sd.idx1 rfl,sd.bool (View.le_refl _),hd];exact hK2 true _ _ rfl rfl ⟨rfl,by simp[hd]⟩
   | false=>simp(disch:=omega)[c,c',sd.idx1 rfl,sd.bool (View.le_refl _),hd,sa.idx1 rfl,ha1 _ (View.le_refl _),ha2.idx1 rfl,ha2.bool (View.le_refl _)];exact hK2 _ _ _ rfl rfl ⟨rfl,by simp[hd,c]⟩
 rintro r2 h2 ⟨rfl,rfl⟩;exact hQ
end
def MS.dw (m:MS) (l:List Int):MS:={ m with live:=l }
section
variable {s:List Int} {M:Nat} {vs:Value} {W0:View} {h:Heap} {o0:Own} {m:MS}
variable{vb vl:Value}{ty2:TypeId}
theorem Mk.yO{po2:OP}{o:Own}(w:Mk s M vs W h o m){lb:List BlkM}(bb:MkB M vs m o vb vl lb){l2:List Int}{u:Value}{x y c1 c2:Operand}{us2:Value->List (Nat × Value)}{K:Value->Value->Heap->Prop}(src:SrcT (vw h) W u l2)(hl:m.live.length+l2.length<=1000000)(hx:asg us x=vl)(hy:asg us y=u)(hc1 : ∀v,asg (us2 v) c1 = .pointer (some ⟨M,5,none⟩))(hc2 : ∀v,asg (us2 v) c2=v)(hK : ∀v h' o',Mk s M vs W h' o' (m.dw (m.live++l2))->(∀k:Key,3<=k.1->o' k=o k)->K v undef h'):
  @Lft.step po Tryz.prog (.call ⟨.builtin .append,#[x,y],#[T.aY,T.aY]⟩) ty us h λv h2=>@Lft.step po2 Tryz.prog (.store T.aY c1 c2) ty2 (us2 v) h2 λw h3=>K v w h3:=by
 refine w.own.bY (k:=(0,1)) (α:=Int) (v:=vl) (l:=m.live) (l2:=l2) bb.live El.aY hx hy src Yb Yb λv h2 w2 _=>?_;have hv:=(w2.cells (k:=(0,1)) Own.aj).2;refine w2.dg (k:=(0,0)) (n:=5) (i:=5) (e:=T.aR) (B:=M) (l:=mkL vs m.at_ m.ps vb m.next vl) ((Own.ak Sa).trans bb.box) Yc Ya (hc1 v) (hc2 v) hv λh3 w3 _=>?_;refine hK v h3 _ ⟨w3,w.src,vb,v,lb,⟨rfl,rfl,(Own.ak Sa).trans ((Own.ak Sa).trans bb.blk),bb.len,bb.term,λi hi=>?_,λi hi=>?_⟩⟩ λk hk=>?_
 ·exact(Own.ak Sa).trans ((Own.ak Sa).trans (bb.phis i hi))
 ·exact(Own.ak Sa).trans ((Own.ak Sa).trans (bb.ins i hi))
 rw[Own.ak (by rintro rfl;simp at hk),Own.ak (by rintro rfl;simp at hk)]
variable{vd va:Value}
theorem G2{a p i c:Nat}{r:Bool}{t:Nat}(x:Nx s M vs W0 h o0 (m.dw []))(z:Sz n a p i m)(hc:m.ps=c)(h0:ck [2,3,4,5,7,11,12,13,15,18] ρ=[(2,vr),(3,.pointer (some ⟨M,0,none⟩)),(4,.int .i64 n),(5,vt),(7,vp),(11,vd),(12,.int .i64 t),(13,.int .i64 b),(15,va),(18,.int .i64 0)])(hQ : ∀h',Nx s M vs W0 h' o0 (m.dw (rows (λi=>(i:Int)) c))->Q .normal [(2,vr),(3,.pointer (some ⟨M,0,none⟩)),(4,.int .i64 n),(5,vt),(7,vp),(11,vd),(12,.int .i64 t),(13,.int .i64 b),(15,va),(18,.int .i64 c)] h'):
  LC.wp Tryz.prog (.block 14 (.loop L.aq.l8)) Q ρ h:=by
 have hc4:c<=4:=by have:=z.ps1;omega
 simp only[aN];refine dR [2,3,4,5,7,11,12,13,15,18] (fun(_:Unit) k=>[vr,.pointer (some ⟨M,0,none⟩),.int .i64 n,vt,vp,vd,.int .i64 t,.int .i64 b,va,.int .i64 k]) (λ_ k h2=>Nx s M vs W0 h2 o0 (m.dw (rows (λi=>(i:Int)) k))) c ()
  rfl Yb h0 x (λ_ _=>rfl) (λv k h2 hk2 x2=>by obtain⟨vb,vl,rd⟩:=x2.z.reads;have e:(m.dw (rows (λi=>(i:Int)) k)).ps=c:=hc;simp[rd.ps,e]) ?_ ?_
 ·rintro _ k h2 hlt x2 K2 hK2;obtain⟨W,o,g,w,f⟩:=x2;obtain⟨vb,vl,lb,bb⟩:=w.box;have rd:=w.reads bb;simp only[aN];simp[rd.cl];refine mF (α:=Int) (W:=W) (d:=(k:Int)) El.aY rfl (bK.2 ⟨rfl,by constructor<;>omega⟩) λu5 h5 src hle5 hs5=>?_;have w5:Mk s M vs W h5 o (m.dw (rows (λi=>(i:Int)) k)):=⟨w.own.ext' hle5,w.src,w.box⟩;refine w5.yO bb src (by show(rows _ k).length+1<=_;simp;omega) rfl rfl (λ_=>rfl) (λ_=>rfl) λv h6 o6 w6 f6=>?_;refine hK2 () _ _ rfl rfl ⟨W,o6,g,?_,λk hk=>(f6 k hk).trans (f k hk)⟩;rw[fA];exact w6
 rintro _ h2 x2;exact hQ h2 x2
theorem F2{a p i ai:Nat}{t:Nat}{lv:List Int}(x:Nx s M vs W0 h o0 (m.dw lv))(z:Sz n a p i m)(hai:ai<n)(hn:n<=100)(hl:lv.length<=100000)(hp:p<=100000)(h0:ck [2,3,4,5,7,11,12,13,15,19,20] ρ=[(2,vr),(3,.pointer (some ⟨M,0,none⟩)),(4,.int .i64 n),(5,vt),(7,vp),(11,vd),(12,.int .i64 t),(13,.int .i64 b),(15,va),(19,.int .i64 ai),(20,.int .i64 0)])(hQ : ∀h':Heap,Nx s M vs W0 h' o0 (m.dw (lv++(nth m.blocks ai).phis.map PhiD.dst))->Q .normal [(2,vr),(3,.pointer (some ⟨M,0,none⟩)),(4,.int .i64 n),(5,vt),(7,vp),(11,vd),(12,.int .i64 t),(13,.int .i64 b),(15,va),(19,.int .i64 ai),(20,.int .i64 (nth m.blocks ai).phis.length)] h'):
  LC.wp Tryz.prog (.block 18 (.loop L.aq.l10)) Q ρ h:=by
 have hpl:=z.phis ai;have hlen:ai<m.blocks.length:=by rw[z.len];exact hai
 simp only[aN];have read : ∀{h2:Heap} {lv2:List Int} {vb vl:Value},Reads M (m.dw lv2) h2 vb vl->∃vph,ao (vw h2) (((slA vb).add (ai*6)).add 0)=some vph/\SlRd (vw h2) vph (nth m.blocks ai).phis/\Bn.ev (.idx 6) vb (.int .i64 ai)=some (.pointer (some ((slA vb).add (ai*6)))):=by intro h2 lv2 vb vl rd;have hb:=rd.blk;have hl2:ai<(m.dw lv2).blocks.length:=hlen;obtain⟨vph,h1⟩:=((hb.at hl2).part BlkD.rW).sl;have h2:=h1.2;have e:(m.dw lv2).blocks[ai]=nth m.blocks ai:=(aC hl2).symm;rw[e]at h2;exact⟨vph,h1.1,h2,by have:=hb.idxn (N:=6) rfl (k:=.i64) (i:=ai) Yb Yb;simpa using this⟩
 refine dR [2,3,4,5,7,11,12,13,15,19,20] (fun(_:Unit) k=>[vr,.pointer (some ⟨M,0,none⟩),.int .i64 n,vt,vp,vd,.int .i64 t,.int .i64 b,va,.int .i64 ai,.int .i64 k]) (λ_ k h2=>Nx s M vs W0 h2 o0 (m.dw (lv++((nth m.blocks ai).phis.take k).map PhiD.dst))) (nth m.blocks ai).phis.length ()
  rfl Yb h0 (by simpa using x) (λ_ _=>rfl) (λv k h2 hk2 x2=>by obtain⟨vb,vl,rd⟩:=x2.z.reads;obtain⟨vph,r1,r2,r3⟩:=read rd;simp[rd.cb,r3,r1,r2.len]) ?_ ?_
 ·rintro _ k h2 hlt x2 K2 hK2;obtain⟨W,o,g,w,f⟩:=x2;obtain⟨vb,vl,lb,bb⟩:=w.box;have rd:=w.reads bb;obtain⟨vph,r1,r2,r3⟩:=read rd;have r4:ao (vw h2) (((slA vph).add (k*2)).add 0)=some (.int .i64 (nth m.blocks ai).phis[k].dst):=((r2.at hlt).part PhiD.ix).int;have i64:=((r2.at hlt).part PhiD.ix).rng;have r5:Bn.ev (.idx 2) vph (.int .i64 k)=some (.pointer (some ((slA vph).add (k*2)))):=by have:=r2.idxn (N:=2) rfl (k:=.i64) (i:=k) Yb Yb;simpa using this
  simp only[aN];refine aP (vw h2) (View.le_refl _) ?_;simp[rd.cl,rd.cb,r3,r1,r4,r5];refine mF (α:=Int) (W:=W) (d:=(nth m.blocks ai).phis[k].dst) El.aY rfl (bK.2 ⟨rfl,i64⟩) λu5 h5 src hle5 hs5=>⟨hle5,?_⟩;have w5:Mk s M vs W h5 o (m.dw (lv++((nth m.blocks ai).phis.take k).map PhiD.dst)):=⟨w.own.ext' hle5,w.src,w.box⟩;refine w5.yO bb src (by show(lv++_).length+1<=_;simp;omega) rfl rfl (λ_=>rfl) (λ_=>rfl) λv h6 o6 w6 f6=>?_;refine hK2 () _ _ rfl rfl ⟨W,o6,g,?_,λk hk=>(f6 k hk).trans (f k hk)⟩;rw[LG hlt,NG,<-List.append_assoc];exact w6
 rintro _ h2 x2;rw[MM]at x2;exact hQ h2 x2
end
theorem Au{l:List InsD}:(l.flatMap di).length<=2*l.length:=by
 induction l with
 | nil=>simp
 | cons a l ih=>
  have:(di a).length<=2:=by
   unfold di;repeat' split
   all_goals simp
  simp only[NN,Lv,MI];omega
section
variable {s:List Int} {M:Nat} {vs:Value} {W0:View} {h:Heap} {o0:Own} {m:MS}
variable{vd va:Value}
theorem EZ{a p i ai:Nat}{t:Nat}{lv:List Int}(x:Nx s M vs W0 h o0 (m.dw lv))(z:Sz n a p i m)(hai:ai<n)(hn:n<=100)(hl:lv.length<=100000)(hi:i<=100000)(h0:ck [2,3,4,5,7,11,12,13,15,19,21] ρ=[(2,vr),(3,.pointer (some ⟨M,0,none⟩)),(4,.int .i64 n),(5,vt),(7,vp),(11,vd),(12,.int .i64 t),(13,.int .i64 b),(15,va),(19,.int .i64 ai),(21,.int .i64 0)])(hQ : ∀h':Heap,Nx s M vs W0 h' o0 (m.dw (lv++(nth m.blocks ai).ins.flatMap di))->Q .normal [(2,vr),(3,.pointer (some ⟨M,0,none⟩)),(4,.int .i64 n),(5,vt),(7,vp),(11,vd),(12,.int .i64 t),(13,.int .i64 b),(15,va),(19,.int .i64 ai),(21,.int .i64 (nth m.blocks ai).ins.length)] h'):
  LC.wp Tryz.prog (.block 20 (.loop L.aq.l11)) Q ρ h:=by
 have hil:=z.ins ai;have hlen:ai<m.blocks.length:=by rw[z.len];exact hai
 simp only[aN];have read : ∀{h2:Heap} {lv2:List Int} {vb vl:Value},Reads M (m.dw lv2) h2 vb vl->∃vi,ao (vw h2) (((slA vb).add (ai*6)).add 1)=some vi/\SlRd (vw h2) vi (nth m.blocks ai).ins/\Bn.ev (.idx 6) vb (.int .i64 ai)=some (.pointer (some ((slA vb).add (ai*6)))):=by intro h2 lv2 vb vl rd;have hb:=rd.blk;have hl2:ai<(m.dw lv2).blocks.length:=hlen;obtain⟨vi,h1⟩:=((hb.at hl2).part BlkD.mw).sl;have h2:=h1.2;have e:(m.dw lv2).blocks[ai]=nth m.blocks ai:=(aC hl2).symm;rw[e]at h2;exact⟨vi,h1.1,h2,by have:=hb.idxn (N:=6) rfl (k:=.i64) (i:=ai) Yb Yb;simpa using this⟩
 refine dR [2,3,4,5,7,11,12,13,15,19,21] (fun(_:Unit) k=>[vr,.pointer (some ⟨M,0,none⟩),.int .i64 n,vt,vp,vd,.int .i64 t,.int .i64 b,va,.int .i64 ai,.int .i64 k]) (λ_ k h2=>Nx s M vs W0 h2 o0 (m.dw (lv++((nth m.blocks ai).ins.take k).flatMap di))) (nth m.blocks ai).ins.length ()
  rfl Yb h0 (by simpa using x) (λ_ _=>rfl) (λv k h2 hk2 x2=>by obtain⟨vb,vl,rd⟩:=x2.z.reads;obtain⟨vi,r1,r2,r3⟩:=read rd;simp[rd.cb,r3,r1,r2.len]) ?_ ?_
 ·rintro _ k h2 hlt x2 K2 hK2;obtain⟨vb,vl,rd⟩:=x2.z.reads;obtain⟨vi,r1,r2,r3⟩:=read rd;obtain⟨ux,hux,huxr⟩:=r2.wh rfl (N:=5) rfl hlt;have r5:Bn.ev (.idx 5) vi (.int .i64 k)=some (.pointer (some ((slA vi).add (k*5)))):=by have:=r2.idxn (N:=5) rfl (k:=.i64) (i:=k) Yb Yb;simpa using this
  simp only[aN];refine ab λy hy=>?_;simp[rd.cb,r3,r1,r5,hux _ (View.le_refl _)];refine ah Ya (oG huxr) ?_;rintro um h3 ⟨hle3,hum,-⟩;clear rd r1 r2 r3 r5 hux;obtain⟨W,o,g,w,f⟩:=x2;have w3:=w.own.ext hle3;have hW3:=bP (h':=h3) w.own.wle;have hum:=hum.mono (jw W h2 h3);generalize grow W h2 h3=W3 at w3 hW3 hum;have w4:Mk s M vs W3 h3 o (m.dw (lv++((nth m.blocks ai).ins.take k).flatMap di)):=⟨w3,w.src.mono hW3,w.box⟩;obtain⟨vb,vl,lb,bb⟩:=w4.box;have rd:=w4.reads bb;subst hy;simp[rd.cl];have hfl:=Au (l:=(nth m.blocks ai).ins.take k);have hml:(di (nth (nth m.blocks ai).ins k)).length<=2:=by
   unfold di;repeat' split
   all_goals simp
  refine w4.yO bb (hum.src w3.wle) (by show(lv++_).length+_<=_;simp at hfl ⊢;omega) rfl rfl (λ_=>rfl) (λ_=>rfl) λv h6 o6 w6 f6=>?_;refine hK2 () _ _ rfl rfl ⟨W3,o6,View.le_trans g hW3,?_,λk hk=>(f6 k hk).trans (f k hk)⟩;rw[LG hlt,List.flatMap_append,List.flatMap_singleton,<-List.append_assoc,<-aC hlt];exact w6
 rintro _ h2 x2;rw[MM]at x2;exact hQ h2 x2
variable{dn:BL}{away:List BL}
theorem Dv{a p i:Nat}(z:Sz n a p i m){ai:Nat}{l:List Int}:(iB m dn away b ai l).length<=l.length+p+2*i:=by
 unfold iB;split
 ·omega
 have h1:=z.phis ai;have h2:=z.ins ai;have h3:=Au (l:=(nth m.blocks ai).ins);simp only[Lv,M9];omega
theorem ni {n a p i:Nat} (z:Sz n a p i m) {dn:BL} {away:List BL} {b:Nat} {l:List Int} : ∀k,(up (iB m dn away b) k l).length<=l.length+(p+2*i)*k
 | 0=>Lp _
 | k+1=>by have:=ni z (dn:=dn) (away:=away) (b:=b) (l:=l) k;have h2:=Dv z (dn:=dn) (away:=away) (b:=b) (ai:=k) (l:=up (iB m dn away b) k l);show(iB m dn away b k (up (iB m dn away b) k l)).length<=_;rw[OJ];omega
theorem GA{a p i:Nat}{t:Nat}{l0:List Int}(x:Nx s M vs W0 h o0 (m.dw l0))(z:Sz n a p i m)(hd:o0 (6,0)=it T.bool vd dn)(sa:SlRd W0 va away)(hb:b<n)(hdn:dn.length=n)(hal:away.length=n)(har : ∀i,i<n->(nth away i).length=n)(hn:n<=10)(hl:l0.length<=10)(hp:p<=1000)(hi:i<=3000)(h0:ck [2,3,4,5,7,11,12,13,15,19] ρ=[(2,vr),(3,.pointer (some ⟨M,0,none⟩)),(4,.int .i64 n),(5,vt),(7,vp),(11,vd),(12,.int .i64 t),(13,.int .i64 b),(15,va),(19,.int .i64 0)])(hQ : ∀h':Heap,Nx s M vs W0 h' o0 (m.dw (up (iB m dn away b) n l0))->Q .normal [(2,vr),(3,.pointer (some ⟨M,0,none⟩)),(4,.int .i64 n),(5,vt),(7,vp),(11,vd),(12,.int .i64 t),(13,.int .i64 b),(15,va),(19,.int .i64 n)] h'):
  LC.wp Tryz.prog (.block 16 (.loop L.aq.l9)) Q ρ h:=by
 simp only[aN];refine dR [2,3,4,5,7,11,12,13,15,19] (fun(_:Unit) k=>[vr,.pointer (some ⟨M,0,none⟩),.int .i64 n,vt,vp,vd,.int .i64 t,.int .i64 b,va,.int .i64 k]) (λ_ k h2=>Nx s M vs W0 h2 o0 (m.dw (up (iB m dn away b) k l0))) n ()
  rfl Yb h0 x (λ_ _=>rfl) (λv k h2 hk2 x2=>by simp) ?_ ?_
 ·rintro _ k h2 hlt x2 K2 hK2;have e2:up (iB m dn away b) (k+1) l0=iB m dn away b k (up (iB m dn away b) k l0):=rfl;rw[e2]at hK2;have hll:=ni z (dn:=dn) (away:=away) (b:=b) (l:=l0) k;have hll:(up (iB m dn away b) k l0).length<=80000:=by have:(p+2*i)*k<=7000*10:=NQ Yb Yb;omega
  generalize up (iB m dn away b) k l0=lv at x2 hK2 hll;have hla:iB m dn away b k lv=_:=iB.eq_1 m dn away b k lv;have sd:=x2.z.at Yc hd;have sa2:=sa.mono x2.z.le;obtain⟨rv,hrv⟩:=sa2.rows;obtain⟨ha1,ha2⟩:=hrv k Yb;have hal2:=har k hlt;simp only[aN];refine ab λy hy=>?_;have fin : ∀ρ,Lft.look ρ 2=some vr->Lft.look ρ 3=some (.pointer (some ⟨M,0,none⟩))->Lft.look ρ 4=some (.int .i64 n)->Lft.look ρ 5=some vt->Lft.look ρ 7=some vp->Lft.look ρ 11=some vd->Lft.look ρ 12=some (.int .i64 t)->Lft.look ρ 13=some (.int .i64 b)->Lft.look ρ 15=some va->Lft.look ρ 19=some (.int .i64 k)->(decide (k≠b)&&(!nth dn k||nth (nth away k) b))=false->
    LC.wp Tryz.prog y (fN 17 (gr K2 (fN 16 Q))) ρ h2:=by
   intro ρ r2 r3 r4 r5 r7 r11 r12 r13 r15 r19 hc;subst hy;rw[if_neg (by rw[hc];simp)]at hla;refine ab λy hy=>?_;refine ab λw hw=>?_;simp;subst hw;refine F2 (vr:=vr) (vt:=vt) (vp:=vp) (vd:=vd) (va:=va) (t:=t) (b:=b) (ai:=k) x2 z hlt Yb Yb Yb ?_ λh3 x3=>?_
   ·simp[ck,af,ag,r2,r3,r4,r5,r7,r11,r12,r13,r15,r19]
   simp;subst hy;refine ab λw hw=>?_;simp;subst hw;have hph:=z.phis k;refine EZ (vr:=vr) (vt:=vt) (vp:=vp) (vd:=vd) (va:=va) (t:=t) (b:=b) (ai:=k) x3 z hlt Yb (by simp;omega) Yb ?_ λh4 x4=>?_
   ·simp[ck,af,ag]
   simp;refine hK2 () _ _ rfl rfl (by rw[hla];exact x4)
  refine ab λw hw=>?_;by_cases c:k=b
  ·subst c;simp;subst hw;refine aB Sa ?_;simp;refine fin _ ?_ ?_ ?_ ?_ ?_ ?_ ?_ ?_ ?_ ?_ Sa;all_goals simp
  have c':¬((k:Int)=(b:Int)):=by omega
  cases hd2:nth dn k with
  | false=>simp(disch:=omega)[c,c',sd.idx1 rfl,sd.bool (View.le_refl _),hd2];subst hw;refine aD Sa ?_;simp;refine hK2 () _ _ rfl rfl ?_;rw[if_pos (by simp[c,hd2])]at hla;rw[hla];exact x2
  | true=>
   simp(disch:=omega)[c,c',sd.idx1 rfl,sd.bool (View.le_refl _),hd2,sa2.idx1 rfl,ha1 _ (View.le_refl _),ha2.idx1 rfl,ha2.bool (View.le_refl _)];subst hw;cases hw2:nth (nth away k) b with
   | true=>refine aD (by simp[hw2]) ?_;simp;refine hK2 () _ _ rfl rfl ?_;rw[if_pos (by simp[c,hd2,hw2])]at hla;rw[hla];exact x2
   | false=>refine aB (by simp[hw2]) ?_;simp;refine fin _ ?_ ?_ ?_ ?_ ?_ ?_ ?_ ?_ ?_ ?_ (by simp[c,hd2,hw2]);all_goals simp
 rintro _ h2 x2;exact hQ h2 x2
end
structure B2 (n a p:Nat) (x:BL × MS):Prop where
 z:Sz n a p 700 x.2
 len:x.1.length=n
 none : ∀j,j<n->nth x.1 j=false->(nth x.2.blocks j).ins.length=0
variable{dn:BL}{away:List BL}
theorem xJ{a p:Nat}{m:MS}(z:Sz n a p 700 m)(hn:n<=10)(hp:p<=100):(me m dn away b n).length<=15100:=by have:=ni z (dn:=dn) (away:=away) (b:=b) (l:=rows (λi=>(i:Int)) m.ps.toNat) n;rw[na]at this;have h2:(p+2*700)*n<=1500*10:=NQ Yb hn;have:=z.ps1;unfold me;omega
theorem n6{m:MS}{j:Nat}{t:dD}(hb:b<m.blocks.length):nth (m.yy b t).blocks j=if b=j then{ nth m.blocks b with term:=t } else nth m.blocks j:=by
 show nth (m.blocks.set b _) j=_;rcases Lr j m.blocks.length with hl | hl
 ·rw[bQ hl]
 rw[dB (by simpa using hl),dB hl,if_neg Yb]
theorem AG{s:List Int}{a p:Nat}{m:MS}(z:Sz n a p 700 m)(hb:b<n)(h0:(nth m.blocks b).ins.length=0)(hn:n<=10)(hp:p<=100)(ha:16000<=a):
  Sz n (a+600) p 700 (jm s to n dn away b m)/\∀j,j≠b->(nth (jm s to n dn away b m).blocks j).ins=(nth m.blocks j).ins:=by
 have hll:=xJ (dn:=dn) (away:=away) (b:=b) z hn hp;have ht:=cS (s:=s) (at_:=m.at_) (n:=7) Yc;have hbl:b<m.blocks.length:=by rw[z.len];exact hb
 obtain⟨m1,hm1⟩ : ∃m1:MS,m1=MS.took { m with live:=me m dn away b n }:=⟨_,rfl⟩;have z1:Sz n (a+1) p 700 m1:=by rw[hm1];exact Sz.took ⟨z.at_,z.n0,z.next,by show(me m dn away b n).length<=_;omega,z.ps0,z.ps1,z.len,z.phis,z.ins⟩
 have hl1:m1.live.length<=15100:=by rw[hm1];exact hll
 have e1 : ∀j,nth m1.blocks j=nth m.blocks j:=λj=>by rw[hm1];rfl
 have hb1:b<m1.blocks.length:=by rw[z1.len];exact hb
 have g:=((Grw.refl (b:=b) (m:=m1)).iL (s:=s) hb1 (aI s m.at_ 7).toNat).H7 (s:=s) (to:=nth to b) hb1;have g:=g.mono (l:=520) Yb;have e:jm s to n dn away b m=oI s (nth to b) b (up (λ_=>aU s b) (aI s m.at_ 7).toNat m1):=by rw[hm1];rfl
 rw[e];unfold oI;generalize iN s (nth to b) b (up (λ_=>aU s b) (aI s m.at_ 7).toNat m1)=r at g;have hbr:b<r.2.blocks.length:=by rw[g.len];exact hb1
 have hown:=g.ins;rw[e1,h0]at hown;refine⟨⟨?_,?_,?_,?_,?_,?_,?_,λj=>?_,λj=>?_⟩,λj hj=>?_⟩
 ·show r.2.at_<=_;have:=g.at1;have:=z1.at_;omega
 ·show 0<=r.2.next;have:=g.n0;have:=z1.n0;omega
 ·show r.2.next<=_;have:=g.n1;have:=z1.next;omega
 ·show r.2.live.length<=_;have:=g.live;omega
 ·show 0<=r.2.ps;rw[g.ps];exact z1.ps0
 ·show r.2.ps<=4;rw[g.ps];exact z1.ps1
 ·show(r.2.blocks.set b _).length=n;rw[LJ,g.len];exact z1.len
 ·rw[n6 hbr];split
  ·rename_i e;subst e;show(nth r.2.blocks b).phis.length<=_;rw[g.phis];exact z1.phis b
  rename_i e;rw[g.els j (λq=>e q.symm)];exact z1.phis j
 ·rw[n6 hbr];split
  ·rename_i e;subst e;show(nth r.2.blocks b).ins.length<=_;omega
  rename_i e;rw[g.els j (λq=>e q.symm)];exact z1.ins j
 rw[n6 hbr,if_neg (λq=>hj q.symm),g.els j hj,e1]
theorem qc{s:List Int}{a p:Nat}{x:BL × MS}(q:B2 n a p x)(hb:b<n)(hn:n<=10)(hp:p<=100)(ha:16000<=a)(h0:rG x.1 (pT x.2.f n) b n=true->nth x.1 b=false):B2 n (a+600) p (cW s to n b x):=by
 unfold cW;split
 ·rename_i hr;obtain⟨z2,e2⟩:=AG (s:=s) (to:=to) (dn:=x.1.set b true) (away:=pT x.2.f n) q.z hb (q.none b hb (h0 hr)) hn hp ha;refine⟨z2,by show(x.1.set b true).length=n;rw[LJ];exact q.len,λj hj h=>?_⟩;have h:nth (x.1.set b true) j=false:=h;rw[bQ (by rw[q.len];exact hj)]at h;split at h
  ·cases h
  rename_i e;show(nth (jm _ _ _ _ _ _ _).blocks j).ins.length=0;rw[e2 j (λr=>e r.symm)];exact q.none j hj h
 exact⟨q.z.mono Yb (Lp _) (Lp _),q.len,q.none⟩
theorem Em {f:Nat->Bool} : ∀(n:Nat) (r:Bool),up (λa r=>r&&f a) n r=true->r=true
 | 0,r,h=>h
 | n+1,r,h=>by have h:(up (λa r=>r&&f a) n r&&f n)=true:=h;simp only[Ly]at h;exact Em n r h.1
theorem pE(h:rG dn away b n=true):nth dn b=false:=by unfold rG at h;have:=Em _ _ h;simpa using this
section
variable {s:List Int} {M:Nat} {vs:Value} {W0:View} {h:Heap} {o0:Own} {m:MS}
variable{vd va:Value}
theorem Ex{k c:Nat}{t:Nat}(x:Nx s M vs W0 h o0 m)(hfree:o0 (9,0)=none)(hm:m.ok c)(hc:c<=100000)(hk:k<=100)(hb:b<m.blocks.length)(h0:ck [2,3,4,5,7,11,12,13,15,23,24] ρ=[(2,vr),(3,.pointer (some ⟨M,0,none⟩)),(4,.int .i64 n),(5,vt),(7,vp),(11,vd),(12,.int .i64 t),(13,.int .i64 b),(15,va),(23,.int .i64 k),(24,.int .i64 0)])(hQ : ∀h':Heap,Nx s M vs W0 h' o0 (up (λ_=>aU s b) k m)->Q .normal [(2,vr),(3,.pointer (some ⟨M,0,none⟩)),(4,.int .i64 n),(5,vt),(7,vp),(11,vd),(12,.int .i64 t),(13,.int .i64 b),(15,va),(23,.int .i64 k),(24,.int .i64 k)] h'):
  LC.wp Tryz.prog (.block 22 (.loop L.aq.l12)) Q ρ h:=by
 have oks : ∀j,(up (λ_=>aU s b) j m).ok (c+80*j)/\(up (λ_=>aU s b) j m).blocks.length=m.blocks.length:=by
  intro j;induction j with
  | zero=>exact⟨hm,rfl⟩
  | succ j ih=>exact⟨(ih.1.jy (s:=s) (b:=b)).mono Yb,(nP (s:=s) (b:=b)).trans ih.2⟩
 simp only[aN];refine dR [2,3,4,5,7,11,12,13,15,23,24] (fun(_:Unit) j=>[vr,.pointer (some ⟨M,0,none⟩),.int .i64 n,vt,vp,vd,.int .i64 t,.int .i64 b,va,.int .i64 k,.int .i64 j]) (λ_ j h2=>Nx s M vs W0 h2 o0 (up (λ_=>aU s b) j m)) k ()
  rfl Yb h0 x (λ_ _=>rfl) (λv k h2 hk2 x2=>by simp) ?_ ?_
 ·rintro _ j h2 hlt x2 K2 hK2;obtain⟨q1,q2⟩:=oks j;have e2:up (λ_=>aU s b) (j+1) m=aU s b (up (λ_=>aU s b) j m):=rfl;rw[e2]at hK2;generalize up (λ_=>aU s b) j m=m2 at x2 hK2 q1 q2;simp only[aN];simp;refine ah Ya (uI x2 (b:=b) Yb q1 Yb hfree) ?_;rintro _ h3 x3;exact hK2 () _ _ rfl rfl x3
 rintro _ h2 x2;exact hQ h2 x2
end
theorem Nx.up{s:List Int}{h:Heap}{m:MS}(x:Nx s M vs W h o0 m)(hW:W0.le W):Nx s M vs W0 h o0 m:=by obtain⟨W',o,g,w,f⟩:=x;exact⟨W',o,View.le_trans hW g,w,f⟩
theorem Nx.re{s:List Int}{h:Heap}{o0':Own}{m:MS}(x:Nx s M vs W h o0 m)(he : ∀k,o0' k=o0 k):Nx s M vs W h o0' m:=by obtain⟨W',o,g,w,f⟩:=x;exact⟨W',o,g,w,λk hk=>(f k hk).trans (he k).symm⟩
theorem Nx.fe {po:OP} {s:List Int} {M:Nat} {vs:Value} {W0:View} {h:Heap} {o0:Own} {m:MS} {α:Type} [r:Rep α] {ty e t:TypeId} {us:List (Nat × Value)} {k:Key} {bytes:Nat} {z:Value} {K:Value->Heap->Prop} (x:Nx s M vs W0 h o0 m) (h3:3<=k.1) (hk:o0 k=none) (hT:fm Tryz.prog t e (Rep.n α) bytes z)
  (hK : ∀v h',v.oneCell'=true->Nx s M vs W0 h' (o0.upd k (it e v ([]:List α))) m->K v h'):@Lft.step po Tryz.prog (.buildSlice t 0 #[]) ty us h K:=by
 obtain⟨W,o,g,w,f⟩:=x;refine w.own.fe (k:=k) (α:=α) ((f k h3).trans hk) hT λv h2 hle2 hv w2 _=>hK v h2 hv ?_;obtain⟨vb,vl,lb,bb⟩:=w.box;refine⟨W,_,g,⟨w2,w.src,vb,vl,lb,bb.frame λq hq=>Own.ak (by rintro rfl;omega)⟩,λq hq=>?_⟩;unfold Own.upd;split
 ·rfl
 exact f q hq
variable{ty2:TypeId}
theorem Nx.EA{po2:OP}{s:List Int}{h:Heap}{m:MS}{us2:Value->List (Nat × Value)}{c1 c2:Operand}{K:Value->Value->Heap->Prop}(x:Nx s M vs W0 h o0 m)(hc1 : ∀v,asg (us2 v) c1 = .pointer (some ⟨M,5,none⟩))(hc2 : ∀v,asg (us2 v) c2=v)(hK : ∀v h',Nx s M vs W0 h' o0 (m.dw [])->K v undef h'):@Lft.step po Tryz.prog (.buildSlice T.aY 0 #[]) ty us h λv h2=>@Lft.step po2 Tryz.prog (.store T.aY c1 c2) ty2 (us2 v) h2 λw h3=>K v w h3:=by
 obtain⟨W,o,g,w,f⟩:=x;obtain⟨vb,vl,lb,bb⟩:=w.box;have w1:=w.own.sub (o':=o.upd (0,1) none) λj i hj=>by
  unfold Own.upd at hj;split at hj
  ·cases hj
  exact hj
 refine w1.fe (k:=(0,1)) (α:=Int) Own.aj El.aY λv h2 hle2 hv w2 _=>?_;have w2:=w2.congr (o':=o.upd (0,1) (it T.int v ([]:List Int))) λq=>by unfold Own.upd;split<;>rfl
 refine w2.dg (k:=(0,0)) (n:=5) (i:=5) (e:=T.aR) (B:=M) (l:=mkL vs m.at_ m.ps vb m.next vl) ((Own.ak Sa).trans bb.box) Yc Ya (hc1 v) (hc2 v) hv λh3 w3 _=>?_;refine hK v h3 ⟨W,_,g,⟨w3,w.src,vb,v,lb,⟨rfl,rfl,(Own.ak Sa).trans ((Own.ak Sa).trans bb.blk),bb.len,bb.term,λi hi=>?_,λi hi=>?_⟩⟩,λk hk=>?_⟩
 ·exact(Own.ak Sa).trans ((Own.ak Sa).trans (bb.phis i hi))
 ·exact(Own.ak Sa).trans ((Own.ak Sa).trans (bb.ins i hi))
 rw[Own.ak (by rintro rfl;simp at hk),Own.ak (by rintro rfl;simp at hk)];exact f k hk
section
variable {s:List Int} {M:Nat} {vs:Value} {W0:View} {h:Heap} {o0:Own} {m:MS}
variable{vd:Value}
theorem GI{a p:Nat}{t:Nat}{x0:BL × MS}(x:Nx s M vs W0 h (o0.upd (6,0) (it T.bool vd x0.1)) x0.2)(hto:SlRd W0 vt to)(htl:to.length=n)(f7:o0 (7,0)=none)(f90:o0 (9,0)=none)(f91:o0 (9,1)=none)(q:B2 n a p x0)(hn:n<=10)(hp:p<=100)(ha:16000<=a)(ha2:a<=90000)(h0:ck [2,3,4,5,7,11,12,13] ρ=[(2,vr),(3,.pointer (some ⟨M,0,none⟩)),(4,.int .i64 n),(5,vt),(7,vp),(11,vd),(12,.int .i64 t),(13,.int .i64 0)])(hQ : ∀h':Heap,Nx s M vs W0 h' (o0.upd (6,0) (it T.bool vd (up (cW s to n) n x0).1)) (up (cW s to n) n x0).2->Q .normal [(2,vr),(3,.pointer (some ⟨M,0,none⟩)),(4,.int .i64 n),(5,vt),(7,vp),(11,vd),(12,.int .i64 t),(13,.int .i64 n)] h'):
  LC.wp Tryz.prog (.block 8 (.loop L.aq.l5)) Q ρ h:=by
 have oks : ∀j,j<=n->B2 n (a+600*j) p (up (cW s to n) j x0):=by
  intro j;induction j with
  | zero=>intro _;exact q
  | succ j ih=>intro hj;have:=qc (s:=s) (to:=to) (b:=j) (ih Yb) Yb hn hp Yb λh=>pE h;exact⟨this.z.mono Yb (Lp _) (Lp _),this.len,this.none⟩
 simp only[aN];refine dR [2,3,4,5,7,11,12,13] (fun(_:Unit) j=>[vr,.pointer (some ⟨M,0,none⟩),.int .i64 n,vt,vp,vd,.int .i64 t,.int .i64 j]) (λ_ j h2=>Nx s M vs W0 h2 (o0.upd (6,0) (it T.bool vd (up (cW s to n) j x0).1)) (up (cW s to n) j x0).2) n ()
  rfl Yb h0 x (λ_ _=>rfl) (λv k h2 hk2 x2=>by simp) ?_ ?_
 ·rintro _ b h2 hlt x2 K2 hK2;have q2:=oks b Yb;have e2:up (cW s to n) (b+1) x0=cW s to n b (up (cW s to n) b x0):=rfl;rw[e2]at hK2;generalize up (cW s to n) b x0=y at x2 hK2 q2;obtain⟨dn,m⟩:=y;have x2:Nx s M vs W0 h2 (o0.upd (6,0) (it T.bool vd dn)) m:=x2;have z:Sz n (a+600*b) p 700 m:=q2.z;have hdn:dn.length=n:=q2.len;have hbs:cW s to n b (dn,m)=_:=cW.eq_1 s to n b (dn,m);simp only at hbs;have sd:=x2.z.at Yc Own.aj;simp only[aN];refine ab λy hy=>?_;simp(disch:=omega)[sd.idx1 rfl,sd.bool (View.le_refl _)];subst hy;refine ab λy hy=>?_;simp;refine x2.fe (k:=(7,0)) (α:=BL) Yc ((Own.ak Sa).trans f7) El.tP λva h3 hva x3=>?_;clear sd;subst hy;refine ab λy hy=>?_;refine ab λw hw=>?_;simp;subst hw;refine Gp (vr:=vr) (vt:=vt) (vp:=vp) (vd:=vd) (t:=t) (b:=b) (r:=!nth dn b) x3 ((Own.ak Sa).trans f7) z Yb (by simp[ck,af,ag]) λh4 W4 va hW4 x4 sa=>?_;clear x3 hva x2;have hal:(pT m.f n).length=n:=by unfold pT;simp
  have har : ∀i,i<n->(nth (pT m.f n) i).length=n:=λi hi=>by unfold pT;rw[gG hi,qD];exact z.len
  generalize pT m.f n=away at sa hbs hal har;simp;subst hy;refine ab λy hy=>?_;refine ab λw hw=>?_;simp;subst hw;have sd:=x4.z.at Yc Own.aj;refine G9 (M:=M) (n:=n) (b:=b) (vr:=vr) (vt:=vt) (vp:=vp) (vd:=vd) (va:=va) (t:=t) (r:=!nth dn b) sd (sa.mono x4.z.le) hlt hdn hal har Yb (by simp[ck,af,ag]) ?_;have hrd:up (λa r=>r&&(decide (a=b)||nth dn a||nth (nth away a) b)) n (!nth dn b)=rG dn away b n:=rfl;rw[hrd];simp;subst hy;refine ab λy hy=>?_;refine ab λw hw=>?_;simp;subst hw;cases hr:rG dn away b n with
  | false=>rw[hr]at hbs;rw[if_neg Sa]at hbs;refine aD Sa ?_;simp;refine hK2 () _ _ rfl rfl ?_;rw[hbs];exact x4.up hW4
  | true=>
   rw[hr]at hbs;rw[if_pos rfl]at hbs;have hnb:=pE hr;have hib:=q2.none b hlt hnb;refine aB Sa ?_;simp;subst hy;refine ab λy hy=>?_;simp(disch:=omega)[sd.idx1 rfl];refine x4.z.vU (k:=(6,0)) (α:=Bool) (i:=b) (d:=true) rfl Yc Own.aj Yb Ya rfl rfl (λW=>tQ.2 rfl) λh5 n5=>?_;have x5:Nx s M vs W4 h5 (o0.upd (6,0) (it T.bool vd (dn.set b true))) m:=n5.x.re λq=>by rw[cw]
   clear n5 x4 sd;subst hy;refine ab λy hy=>?_;simp;refine x5.EA (λ_=>rfl) (λ_=>rfl) λv6 h6 x6=>?_;subst hy;obtain⟨c,hc⟩ : ∃c:Nat,m.ps=c:=⟨m.ps.toNat,by have:=z.ps0;omega⟩;have hc4:c<=4:=by have:=z.ps1;omega
   refine ab λy hy=>?_;refine ab λw hw=>?_;simp;subst hw;refine G2 (n:=n) (b:=b) (vr:=vr) (vt:=vt) (vp:=vp) (vd:=vd) (va:=va) (t:=t) (r:=true) x6 z hc (by simp[ck,af,ag]) λh7 x7=>?_;simp;subst hy;refine ab λy hy=>?_;refine ab λw hw=>?_;simp;subst hw;refine GA (n:=n) (b:=b) (vr:=vr) (vt:=vt) (vp:=vp) (vd:=vd) (va:=va) (t:=t) (dn:=dn.set b true) (away:=away) x7 z Own.aj sa hlt (by rw[LJ];exact hdn) hal har hn (by simp;omega) Yb Yb (by simp[ck,af,ag]) λh8 x8=>?_;have hlv:up (iB m (dn.set b true) away b) n (rows (λi=>(i:Int)) c)=me m (dn.set b true) away b n:=by unfold me;rw[hc];rfl
   rw[hlv]at x8;have hll:=xJ (dn:=dn.set b true) (away:=away) (b:=b) z hn hp;have hdo:jm s to n (dn.set b true) away b m=oI s (nth to b) b (up (λ_=>aU s b) (aI s m.at_ 7).toNat (MS.took (m.dw (me m (dn.set b true) away b n)))):=rfl;rw[hdo]at hbs;obtain⟨m1,hm1⟩ : ∃m1,m1=m.dw (me m (dn.set b true) away b n):=⟨_,rfl⟩;have z1:Sz n (a+600*b) p 700 m1:=by rw[hm1];exact⟨z.at_,z.n0,z.next,by show(me _ _ _ _ _).length<=_;omega,z.ps0,z.ps1,z.len,z.phis,z.ins⟩
   have ea:m.at_=m1.at_:=by rw[hm1];rfl
   rw[<-hm1]at x8 hbs;rw[ea]at hbs;clear hlv hdo hm1 ea x7 x6 x5;simp;subst hy;refine ab λy hy=>?_;simp;refine ah Ya (fu x8.z (z1.ok Yb) Yb (k:=7) Yc Yc) ?_;rintro _ h9 ⟨rfl,n9⟩;obtain⟨t0,t1⟩:=cS (s:=s) (at_:=m1.at_) (n:=7) Yc;generalize aI s m1.at_ 7=kk at hbs t0 t1;obtain⟨k,rfl⟩ : ∃k:Nat,kk=k:=⟨kk.toNat,by omega⟩;rw[show((k:Int)).toNat=k by omega]at hbs;subst hy;refine ab λy hy=>?_;refine ab λw hw=>?_;simp;subst hw;have zok:=(z1.took).ok (show 700<=_ by omega);refine Ex (n:=n) (b:=b) (k:=k) (c:=a+600*b+1) (vr:=vr) (vt:=vt) (vp:=vp) (vd:=vd) (va:=va) (t:=t) n9.x ((Own.ak Sa).trans f90) zok Yb Yb (by show b<m1.blocks.length;rw[z1.len];exact hlt) (by simp[ck,af,ag]) λh10 x10=>?_;have oks2 : ∀j,(up (λ_=>aU s b) j m1.took).ok (a+600*b+1+80*j)/\(up (λ_=>aU s b) j m1.took).blocks.length=n:=by
    intro j;induction j with
    | zero=>exact⟨zok,z1.len⟩
    | succ j ih=>exact⟨(ih.1.jy (s:=s) (b:=b)).mono Yb,(nP (s:=s) (b:=b)).trans ih.2⟩
   obtain⟨k1,k2⟩:=oks2 k;generalize up (λ_=>aU s b) k m1.took=m2 at x10 hbs k1 k2;obtain⟨rv,hrv⟩:=hto.rows;obtain⟨hr1,hr2⟩:=hrv b Yb;have ito:=(hto.mono hW4).mono x10.z.le;simp;subst hy;simp(disch:=omega)[ito.idx1 rfl,hr1 _ (View.le_trans hW4 x10.z.le)];refine ah Ya (Jo x10 (b:=b) Yb k1 Yb ((Own.ak Sa).trans f91) (hr2.mono hW4)) ?_;rintro _ h11 x11;refine hK2 () _ _ rfl rfl ?_;rw[hbs];exact x11.up hW4
 rintro _ h2 x2;exact hQ h2 x2
end
section
structure GdB (x:BlkD):Prop where
 ins : ∀i∈x.ins,i.args.length<=10
 args:x.term.args.length<=10
 to:x.term.to.length<=1000
 phis : ∀p∈x.phis,p.ins.length<=1000
def Gd (m:MS):Prop:=∀j,j<m.blocks.length->GdB (nth m.blocks j)
variable {s:List Int} {m:MS} {b:Nat}
theorem Gd.took (g:Gd m):Gd m.took:=g
theorem Gd.aL (g:Gd m):Gd m.aL:=g
theorem Gd.gP(g:Gd m){x:BlkD}(hx:b<m.blocks.length->GdB x):Gd { m with blocks:=m.blocks.set b x }:=λj hj=>by
 have hj:j<m.blocks.length:=by simpa using hj
 show GdB (nth (m.blocks.set b x) j);rw[bQ hj];split
 ·rename_i e;exact hx Yb
 exact g j hj
theorem Gd.add (g:Gd m) {i:InsD} (hi:i.args.length<=10):Gd (m.add b i):=by
 have:=g.gP (b:=b) (x:={ nth m.blocks b with ins:=(nth m.blocks b).ins++[i] }) λhb=>⟨λj hj=>by
  rcases Lt.1 hj with h | h
  ·exact(g b hb).ins j h
  rw[Lx]at h;rw[h];exact hi,(g b hb).args,(g b hb).to,(g b hb).phis⟩;exact this
theorem Gd.constant (g:Gd m) {n:Int}:Gd (m.constant b n):=g.aL.add (by show 0<=10;omega)
theorem Gd.two (g:Gd m) {op x y:Int}:Gd (m.two b op x y):=g.aL.add (by show 2<=10;omega)
theorem Gd.aK (g:Gd m):Gd (aK s m b).2:=by
 unfold Go.Proofs.YtnfiilgdjpdlkaaGreatDoor.aK;repeat' split
 ·exact g.took.took.constant
 ·exact g.took.took.took.took.took.constant
 exact g.took.took.took
theorem Gd.addr(g:Gd m):Gd (nS s m b).2:=by
 unfold nS;simp only;split
 ·exact g.took.constant.took.aK.constant.two.two
 exact g.took.constant.took
theorem Gd.off(g:Gd m):Gd (offS s m).2:=by
 unfold offS;split
 ·exact g.took.took.took.took
 exact g.took.took
theorem Gd.memory(g:Gd m){st:Bool}:Gd (jl s m b st):=by
 unfold jl;simp only;split
 ·exact g.addr.off.aK.add (by show 2<=10;omega)
 exact g.addr.off.aL.add (by show 1<=10;omega)
theorem Gd.bin(g:Gd m){op:Int}:Gd (binS s m b op):=by
 unfold binS;simp only;split
 ·exact g.aK.aK.took.took.constant.two
 exact g.aK.aK.took.two
theorem Gd.div(g:Gd m):Gd (divS s m b):=by
 unfold divS;simp only;split
 ·exact g.aK.took.constant.took.took.constant.two
 exact g.aK.took.constant.took.two
theorem Gd.args {x:List Int × MS} (g:Gd x.2) : ∀n,Gd (up (iy s b) n x).2/\(up (iy s b) n x).1.length=x.1.length+n
 | 0=>⟨g,rfl⟩
 | n+1=>⟨(Gd.args g n).1.aK,by show((up (iy s b) n x).1++[_]).length=_;rw[Lv,(Gd.args g n).2,LO];omega⟩
theorem Gd.call(g:Gd m):Gd (nN s m b):=by unfold nN;simp only;have ht:=cS (s:=s) (at_:=m.at_) (n:=5) Yc;obtain⟨g2,l2⟩:=Gd.args (s:=s) (b:=b) (x:=([],m.took)) g.took (aI s m.at_ 5).toNat;refine g2.aL.took.add ?_;show(up (iy s b) (aI s m.at_ 5).toNat ([],m.took)).1.length<=10;rw[l2];simp;omega
theorem Gd.jy(g:Gd m):Gd (aU s b m):=by
 unfold aU;simp only;repeat' split
 ·exact g.took.bin
 ·unfold ltuS;exact g.took.aK.aK.two
 ·exact g.took.div
 ·exact g.took.memory
 ·exact g.took.call
 ·unfold xu;exact g.took.aK.aK.aL.aL.add (by show 2<=10;omega)
 exact g.took.took.took.constant
theorem Gd.iL (g:Gd m) : ∀n,Gd (up (λ_=>aU s b) n m)
 | 0=>g
 | n+1=>(Gd.iL g n).jy
theorem Gd.JU(g:Gd m){to:List Int}(ht:to.length<=1000):Gd (oI s to b m):=by
 have h:Gd (iN s to b m).2/\(iN s to b m).1.args.length<=10/\(iN s to b m).1.to.length<=1000:=by
  unfold iN;simp only;repeat' split
  ·exact⟨g.took.took,by show 0<=10;omega,by show 0<=1000;omega⟩
  ·exact⟨g.took.aK,by show 1<=10;omega,by show 0<=1000;omega⟩
  ·exact⟨g.took,by show 0<=10;omega,by show 0<=1000;omega⟩
  ·exact⟨g,by show 0<=10;omega,ht⟩
  ·exact⟨g.aK.took.aK.aL.took.add (by show 2<=10;omega),by show 1<=10;omega,ht⟩
  ·exact⟨g.aK.took,by show 1<=10;omega,ht⟩
  exact⟨g.aK.constant.two,by show 1<=10;omega,ht⟩
 obtain⟨h1,h2,h3⟩:=h;exact h1.gP λhb=>⟨(h1 b hb).ins,h2,h3,(h1 b hb).phis⟩
theorem Gd.lM (g:Gd m) {l:List Int} (hl:l.length<=1000):Gd (m.lM b l):=g.gP λhb=>⟨(g b hb).ins,(g b hb).args,hl,(g b hb).phis⟩
theorem Gd.fB (g:Gd m):Gd (Go.Proofs.YtnfiilgdjpdlkaaGreatDoor.fB b m):=by
 have:=g.aL.gP (b:=b) (x:={ nth m.blocks b with phis:=(nth m.blocks b).phis++[⟨m.next,[]⟩] }) λhb=>⟨(g b hb).ins,(g b hb).args,(g b hb).to,λp hp=>by
  rcases Lt.1 hp with h | h
  ·exact(g b hb).phis p h
  rw[Lx]at h;rw[h];show 0<=1000;omega⟩;exact this
theorem Gd.oW (g:Gd m) : ∀n,Gd (up (λ_=>Go.Proofs.YtnfiilgdjpdlkaaGreatDoor.fB b) n m)
 | 0=>g
 | n+1=>(Gd.oW g n).fB
theorem Gd.rq (g:Gd m) {i:Nat} {l:List InD} (hl:l.length<=1000):Gd (m.rq b i l):=g.gP λhb=>⟨(g b hb).ins,(g b hb).args,(g b hb).to,λp hp=>by
 rcases ME hp with h | h
 ·exact(g b hb).phis p h
 rw[h];exact hl⟩
theorem Gd.smF{a p i:Nat}(g:Gd m)(z:Sz n a p i m)(hn:n<=10000)(hp:p<=10000)(hi:i<=10000):SmF m.f:=by refine⟨by show m.blocks.length<=_;rw[z.len];exact hn,λj hj=>?_⟩;have hj:j<m.blocks.length:=hj;have h:=g j hj;have e:nth m.f.blocks j=nth m.blocks j:=rfl;rw[e];exact⟨LM (z.phis j) hp,LM (z.ins j) hi,by have:=h.args;omega,by have:=h.to;omega,λk hk=>by have:=h.phis _ (cr hk);omega,λk hk=>by have:=h.ins _ (cr hk);omega⟩
theorem tV {f:an} : ∀n,∀t∈thTo f n,t.mks.length<=1000
 | 0,t,h=>by cases h
 | n+1,t,h=>by
  rw[gZ]at h;rcases Lt.1 h with h | h
  ·exact tV n t h
  unfold thB at h;simp only[Lt,Lx,rows,MP,M8]at h;rcases h with(⟨i,_,rfl⟩ | ⟨i,_,rfl⟩) | rfl
  ·show 1<=1000;omega
  ·show(di _).length<=1000;unfold di;repeat' split
   all_goals simp
  show 0<=1000;omega
theorem Aa {n a p i:Nat} (z:Sz n a p i m) : ∀k,(thTo m.f k).length<=(p+i+1)*k
 | 0=>Lp _
 | k+1=>by have h1:=Aa z k;have h2:=z.phis k;have h3:=z.ins k;have e:nth m.f.blocks k=nth m.blocks k:=rfl;rw[gZ,Lv,OJ];unfold thB;simp only[Lv,na,LO,e];omega
theorem qA{a p i:Nat}(z:Sz n a p i m)(hn:n<=10)(hp:p<=1000)(hi:i<=3000):(aJ m.f).length<=60000:=by
 have h1:=Aa z n;have h2:(p+i+1)*n<=5000*10:=NQ Yb hn;have e:aJ m.f=thTo m.f n:=by unfold aJ;rw[show m.f.blocks.length=n from z.len]
 rw[e];omega
theorem vN{a p i:Nat}(z:Sz n a p i m)(hn:n<=10)(hp:p<=1000)(hi:i<=3000):(iX m.f b).length<=70000000:=by
 have h:=wT (l:=aJ m.f) (f:=m.f) (b:=b) (c:=1000) (tV _) (out:=rows (λi=>(i:Int)) m.f.params.toNat);have h2:=qA z hn hp hi;have h3:m.f.params.toNat<=4:=by have:=z.ps1;show m.ps.toNat<=4;omega
 rw[na]at h;have e:iX m.f b=(aJ m.f).foldl (fi m.f b) (rows (λi=>(i:Int)) m.f.params.toNat):=rfl;rw[e];omega
end
structure P3 (n a p i:Nat) (m:MS):Prop where
 z:Sz n a p i m
 g:Gd m
theorem P3.mono {n a p i a' p' i':Nat} {m:MS} (q:P3 n a p i m) (h1:a<=a') (h2:p<=p') (h3:i<=i'):P3 n a' p' i' m:=⟨q.z.mono h1 h2 h3,q.g⟩
theorem Sz.const{a p i:Nat}{m:MS}{k:Int}(z:Sz n a p i m):Sz n (a+3) p (i+1) (m.constant b k):=by have h1:Sz n (a+3) p (i+1) { m.aL with live:=m.live++di (conD m.next k) }:=⟨by have:=z.at_;show m.at_<=_;omega,by have:=z.n0;show 0<=m.next+1;omega,by have:=z.next;show m.next+1<=_;omega,by have:=z.live;show(m.live++[m.next]).length<=_;rw[Lv,LO];omega,z.ps0,z.ps1,z.len,z.phis,λj=>by have:=z.ins j;show(nth m.blocks j).ins.length<=_;omega⟩;exact h1.gP (b:=b) (x:={ nth m.blocks b with ins:=(nth m.blocks b).ins++[conD m.next k] }) (z.phis b) (by have:=z.ins b;show((nth m.blocks b).ins++[_]).length<=_;rw[Lv,LO];omega)
theorem Sz.rq {n a p i b j:Nat} {m:MS} {l:List InD} (z:Sz n a p i m):Sz n a p i (m.rq b j l):=
 z.gP (by show((nth m.blocks b).phis.set j _).length<=_;rw[LJ];exact z.phis b) (z.ins b)
def rowS (s:List Int) (b:Nat) (m:MS):List Int × MS:=if(iX m.f b).length=0 then([m.next],m.took.took.constant b (kJ s m)) else(iX m.f b,m)
theorem F8{s:List Int}{m:MS}:0<(rowS s b m).1.length:=by
 unfold rowS;split
 ·show 0<1;omega
 show 0<(iX m.f b).length;omega
theorem Fq{s:List Int}{a p i:Nat}{m:MS}(z:Sz n a p i m)(hn:n<=10)(hp:p<=1000)(hi:i<=3000):(rowS s b m).1.length<=70000000:=by
 unfold rowS;split
 ·show 1<=70000000;omega
 exact vN z hn hp hi
theorem Cb{s:List Int}{a p i:Nat}{m:MS}(q:P3 n a p i m):P3 n (a+5) p (i+1) (rowS s b m).2:=by
 unfold rowS;split
 ·exact⟨(q.z.took.took.const).mono Yb (Lp _) (Lp _),q.g.took.took.constant⟩
 exact q.mono Yb (Lp _) Yb
theorem Da{s:List Int}{p:List Int}{k:Nat}{x:List InD × MS}(h:nth p k=b):eo s p k x=(x.1++[⟨b,nth (rowS s b x.2).1 (aI s (rowS s b x.2).2.at_ (rowS s b x.2).1.length).toNat⟩],(rowS s b x.2).2.took):=by unfold eo;rw[h];rfl
theorem kc {s:List Int} {n a p i:Nat} {pl:List Int} {x:List InD × MS} (q:P3 n a p i x.2) : ∀k,P3 n (a+6*k) p (i+k) (up (eo s pl) k x).2/\(up (eo s pl) k x).1.length=x.1.length+k
 | 0=>⟨q,rfl⟩
 | k+1=>by
  obtain⟨h1,h2⟩:=kc (pl:=pl) q k;have h3:=Cb (s:=s) (b:=(nth pl k).toNat) h1;refine⟨?_,?_⟩
  ·have e:(up (eo s pl) (k+1) x).2=(rowS s (nth pl k).toNat (up (eo s pl) k x).2).2.took:=rfl;rw[e];exact⟨(h3.z.took).mono Yb (Lp _) Yb,h3.g.took⟩
  have e:(up (eo s pl) (k+1) x).1=(up (eo s pl) k x).1++[⟨nth pl k,nth (rowS s (nth pl k).toNat (up (eo s pl) k x).2).1 (aI s (rowS s (nth pl k).toNat (up (eo s pl) k x).2).2.at_ (rowS s (nth pl k).toNat (up (eo s pl) k x).2).1.length).toNat⟩]:=rfl;rw[e,Lv,h2,LO];omega
variable{pl:List Int}
theorem Gm{s:List Int}{a p i j:Nat}{m:MS}(q:P3 n a p i m)(hp:pl.length<=9):P3 n (a+54) p (i+9) (phi3 s b pl j m):=by obtain⟨h1,h2⟩:=kc (s:=s) (pl:=pl) (x:=([],m)) q pl.length;exact⟨(h1.z.rq).mono Yb (Lp _) Yb,h1.g.rq (by rw[h2];show 0+_<=_;omega)⟩
theorem nK {s:List Int} {n a p i b:Nat} {pl:List Int} {m:MS} (q:P3 n a p i m) (hp:pl.length<=9) : ∀k,P3 n (a+54*k) p (i+9*k) (up (phi3 s b pl) k m)
 | 0=>q
 | k+1=>(Gm (nK q hp k) hp).mono Yb (Lp _) Yb
theorem EM{H:View}{a b:Int}(ha:I64 a)(hb:I64 b):Rd H (.agg #[.int .i64 a,.int .i64 b]) (InD.mk a b):=⟨_,rfl,[.int .i64 a],[.int .i64 b],rfl,⟨rfl,ha⟩,rfl,hb⟩
section
variable {s:List Int} {M:Nat} {vs:Value} {W0:View} {h:Heap} {o0:Own} {m:MS}
theorem Nx.Gz(x:Nx s M vs W0 h o0 m){h':Heap}{k:Key}{u:Value}{l:List Int}(h3:3<=k.1)(hk:o0 k=none)(hle:(vw h).le (vw h'))(hb : ∀b,u.ownBlock=some b->h.size<=b)(ho:OwnT nothing h' T.int u l):Nx s M vs W0 h' (o0.upd k (it T.int u l)) m:=by
 obtain⟨W,o,g,w,f⟩:=x;have w2:=w.own.add (k:=k) ((f k h3).trans hk) (ze (W':=W) ho) hle hb;obtain⟨vb,vl,lb,bb⟩:=w.box;refine⟨W,_,g,⟨w2,w.src,vb,vl,lb,bb.frame λq hq=>Own.ak (by rintro rfl;omega)⟩,λq hq=>?_⟩;unfold Own.upd;split
 ·rfl
 exact f q hq
theorem Nx.freeze {α:Type} [r:Rep α] {k:Key} {e:TypeId} {v:Value} {l:List α} (x:Nx s M vs W0 h (o0.upd k (it e v l)) m) (h3:3<=k.1) (hk:o0 k=none) : ∃W',W0.le W'/\Nx s M vs W' h o0 m/\SlRd W' v l:=by
 obtain⟨W,o,g,w,f⟩:=x;have hk2:=(f k h3).trans Own.aj;obtain⟨w2,sl⟩:=w.own.freeze hk2;have hWp:=eM (h:=h) (w.own.av _ _ hk2);obtain⟨vb,vl,lb,bb⟩:=w.box;refine⟨_,View.le_trans g hWp,⟨_,_,View.le_refl _,⟨w2,w.src.mono hWp,vb,vl,lb,bb.frame λq hq=>Own.ak (by rintro rfl;omega)⟩,λq hq=>?_⟩,sl⟩;by_cases e2:q=k
 ·rw[e2,Own.aj,hk]
 rw[Own.ak e2,f q hq,Own.ak e2]
theorem Nx.ib {po po2:OP} {α:Type} [r:Rep α] {k:Key} {e t ty ty2:TypeId} {bytes:Nat} {z:Value} {v:Value} {l:List α} (x:Nx s M vs W0 h o0 m) (h3:3<=k.1) (hk:o0 k=it e v l) {a y y2:Operand} {us:List (Nat × Value)} {us2:Value->List (Nat × Value)} {u:Value} {d:α} {K:Value->Value->Heap->Prop} (hT:fm Tryz.prog t e (Rep.n α) bytes z) (hx:asg us a=u) (hr : ∀W,Rd W u d)
  (hb:(l.length+1)*bytes<=140737488355328) (hb2:l.length+1<=140737488355328) (hy : ∀u,asg (us2 u) y=v) (hy2 : ∀u,asg (us2 u) y2=u)
  (hK : ∀u v' h',Nx s M vs W0 h' (o0.upd k (it e v' (l++[d]))) m->K u v' h') :
  @Lft.step po Tryz.prog (.buildSlice t 1 #[(0,a)]) ty us h λu h2=>@Lft.step po2 Tryz.prog (.call ⟨.builtin .append,#[y,y2],#[t,t]⟩) ty2 (us2 u) h2 λv' h3=>K u v' h3:=by
 obtain⟨W,o,g,w,f⟩:=x;refine w.own.ib (k:=k) (d:=d) ((f k h3).trans hk) hT hx (hr W) hb hb2 hy hy2 λu v' h' w2 _=>hK u v' h' ?_;obtain⟨vb,vl,lb,bb⟩:=w.box;refine⟨W,_,g,⟨w2,w.src,vb,vl,lb,bb.frame λq hq=>Own.ak (by rintro rfl;omega)⟩,λq hq=>?_⟩;unfold Own.upd;split
 ·rfl
 exact f q hq
variable{vd:Value}
theorem Ec{a p i j:Nat}{vq vi:Value}(x:Nx s M vs W0 h (o0.upd (7,2) (it T.iF vi ([]:List InD))) m)(f71:o0 (7,1)=none)(q:P3 n a p i m)(hn:n<=10)(ha:a<=500000)(hia:i<=a)(hp:p<=100)(hi:i<=2000)(hq:SlRd W0 vq pl)(hpl:pl.length<=9)(hpr : ∀k,k<pl.length->∃c:Nat,nth pl k=c/\c<n)(h0:ck [2,3,4,5,7,11,25,26,27,28,29] ρ=[(2,vr),(3,.pointer (some ⟨M,0,none⟩)),(4,.int .i64 n),(5,vt),(7,vp),(11,vd),(25,.int .i64 b),(26,vq),(27,.int .i64 j),(28,vi),(29,.int .i64 0)])(hQ : ∀(h':Heap) vi,Nx s M vs W0 h' (o0.upd (7,2) (it T.iF vi (up (eo s pl) pl.length ([],m)).1)) (up (eo s pl) pl.length ([],m)).2->Q .normal [(2,vr),(3,.pointer (some ⟨M,0,none⟩)),(4,.int .i64 n),(5,vt),(7,vp),(11,vd),(25,.int .i64 b),(26,vq),(27,.int .i64 j),(28,vi),(29,.int .i64 pl.length)] h'):
  LC.wp Tryz.prog (.block 28 (.loop L.aq.l15)) Q ρ h:=by
 simp only[aN];refine dR [2,3,4,5,7,11,25,26,27,28,29] (fun(vi:Value) k=>[vr,.pointer (some ⟨M,0,none⟩),.int .i64 n,vt,vp,vd,.int .i64 b,vq,.int .i64 j,vi,.int .i64 k]) (λvi k h2=>Nx s M vs W0 h2 (o0.upd (7,2) (it T.iF vi (up (eo s pl) k ([],m)).1)) (up (eo s pl) k ([],m)).2) pl.length vi
  rfl Yb h0 x (λ_ _=>rfl) (λv k h2 hk2 x2=>by simp[hq.len]) ?_ ?_
 ·rintro vi k h2 hlt x2 K2 hK2;obtain⟨q2,hl2⟩:=kc (s:=s) (pl:=pl) (x:=([],m)) q k;obtain⟨c,hc,hcn⟩:=hpr k hlt;have e2:up (eo s pl) (k+1) ([],m)=eo s pl k (up (eo s pl) k ([],m)):=rfl;rw[e2,Da hc]at hK2;have hl2:(up (eo s pl) k ([],m)).1.length<=9:=by rw[hl2];simp;omega
  generalize up (eo s pl) k ([],m)=y at x2 hK2 q2 hl2;obtain⟨il,m2⟩:=y;have q2:P3 n (a+54) p (i+9) m2:=P3.mono q2 Yb (Lp _) Yb;have hl2:il.length<=9:=hl2;have x2:Nx s M vs W0 h2 (o0.upd (7,2) (it T.iF vi il)) m2:=x2;simp only at hK2;have hcell : ∀{h':Heap},W0.le (vw h')->ao (vw h') ((slA vq).add k)=some (.int .i64 c):=λg=>by rw[hq.int g hlt,hc]
  have hcell0:ao W0 ((slA vq).add k)=some (.int .i64 c):=by rw[hq.int (View.le_refl _) hlt,hc]
  have hrow:rowS s c m2=_:=rowS.eq_1 s c m2;have hq3:=Cb (s:=s) (b:=c) q2;have hpos:=F8 (s:=s) (b:=c) (m:=m2);have hrl0:=Fq (s:=s) (b:=c) q2.z hn Yb Yb;simp only[aN];refine ab λy hy=>?_;obtain⟨vb,vl,rd⟩:=x2.z.reads;refine aP (vw h2) (View.le_refl _) ?_;simp(disch:=omega)[rd.f,(hq.mono x2.z.le).idx1 rfl,hcell x2.z.le];have hth:(aJ m2.f).length<=60000:=qA q2.z hn Yb Yb;refine ah Ya (AA (b:=c) (rd.rd (Ea q2.z)) (q2.g.smF q2.z Yb Yb Yb) ⟨q2.z.ps0,by have:=q2.z.ps1;show m2.ps<=_;omega⟩ (by show c<m2.blocks.length;rw[q2.z.len];exact hcn) (tV _) Yb) ?_;rintro u3 h3 ⟨hle3,hb3,ho3⟩;have x3:=x2.Gz (k:=(7,1)) Yc ((Own.ak Sa).trans f71) hle3 hb3 ho3;clear rd x2 ho3 hb3;generalize iX m2.f c=sl at x3 hrow;subst hy;refine ab λy hy=>?_;have fin : ∀(v30:Value) (h':Heap) (ρ:Env),Nx s M vs W0 h' ((o0.upd (7,2) (it T.iF vi il)).upd (7,1) (it T.int v30 (rowS s c m2).1)) (rowS s c m2).2->Lft.look ρ 2=some vr->Lft.look ρ 3=some (.pointer (some ⟨M,0,none⟩))->Lft.look ρ 4=some (.int .i64 n)->Lft.look ρ 5=some vt->Lft.look ρ 7=some vp->Lft.look ρ 11=some vd->Lft.look ρ 25=some (.int .i64 b)->Lft.look ρ 26=some vq->Lft.look ρ 27=some (.int .i64 j)->Lft.look ρ 28=some vi->Lft.look ρ 29=some (.int .i64 k)->Lft.look ρ 30=some v30->
    LC.wp Tryz.prog y (fN 29 (gr K2 (fN 28 Q))) ρ h':=by
   intro v30 h' ρ x4 r2 r3 r4 r5 r7 r11 r25 r26 r27 r28 r29 r30;subst hy;generalize rowS s c m2=r at x4 hK2 hq3 hpos hrl0;obtain⟨W4,hW4,x4,s4⟩:=x4.freeze Yc ((Own.ak Sa).trans f71);have hrl:=s4.bound;refine aP W4 x4.z.le ?_;simp(disch:=omega)[af,ag,r2,r3,r4,r5,r7,r11,r25,r26,r27,r28,r29,r30,(hq.mono hW4).idx1 rfl,ae hW4 hcell0,s4.len];refine ah Ya (fu x4.z (hq3.z.ok Yb) Yb (k:=(r.1.length:Int)) Yb Yb) ?_;rintro _ h5 ⟨rfl,n5⟩;refine⟨n5.le,?_⟩;obtain⟨t0,t1⟩:=cS (s:=s) (at_:=r.2.at_) (n:=(r.1.length:Int)) Yb;generalize aI s r.2.at_ (r.1.length:Int)=tv at t0 t1 hK2;have hrng:=s4.range (i:=tv.toNat) Yb;simp(disch:=omega)[af,ag,r2,r3,r4,r5,r7,r11,r25,r26,r27,r28,r29,r30,s4.idx1 rfl,s4.int (View.le_refl _)];refine ay (z:=.agg #[.int .i64 0,.int .i64 0]) (places:=[(0,1),(1,1)]) (vs:=[(0,.int .i64 c),(1,.int .i64 (nth r.1 tv.toNat))]) (cs:=#[.int .i64 c,.int .i64 (nth r.1 tv.toNat)]) Ya Ya Sa Ya ?_;refine n5.x.ib (k:=(7,2)) (α:=InD) (d:=⟨c,nth r.1 tv.toNat⟩) Yc Own.aj El.ee rfl (λW=>EM ⟨by omega,by omega⟩ hrng) Yb Yb (λ_=>rfl) (λ_=>rfl) λu v' h6 x6=>?_;refine hK2 v' _ _ ?_ ?_ ((x6.re λq=>by rw[cw]).up hW4)
   ·simp[af,ag,r29]
   simp[ck,af,ag,r2,r3,r4,r5,r7,r11,r25,r26,r27,r28,r29]
  have hsl:=(x3.z.at (k:=(7,1)) Yc Own.aj).len (K:=vw h3);have hlen3 : ∀{Q:View},Un.ev Q .len u3=some (.int .i64 sl.length):=fun{Q}=>(x3.z.at (k:=(7,1)) Yc Own.aj).len;refine ab λw hw=>?_;simp[hlen3];subst hw;by_cases c0:sl.length=0
  ·have c0':sl=[]:=Ls c0;rw[if_pos c0]at hrow;refine aD (by simp[c0,c0']) ?_;refine aP W0 x3.z.le ?_;simp(disch:=omega)[hq.idx1 rfl,hcell0];refine ah Ya (xZ x3.z (q2.z.ok Yb) Yb) ?_;rintro _ h4 ⟨rfl,n4⟩;refine⟨n4.le,?_⟩;refine ah Ya (gI n4 (b:=c) (by show c<m2.blocks.length;rw[q2.z.len];exact hcn) (q2.z.took.took.ok Yb) Yb py) ?_;rintro _ h5 ⟨rfl,n5⟩;have i64:I64 m2.next:=by have:=q2.z.n0;have:=q2.z.next;constructor<;>omega
   subst c0';refine n5.x.ib (k:=(7,1)) (α:=Int) (d:=m2.next) Yc Own.aj El.aY rfl (λW=>bK.2 ⟨rfl,i64⟩) Sa Sa (λ_=>rfl) (λ_=>rfl) λu v' h6 x6=>?_;refine fin v' h6 _ ?_ ?_ ?_ ?_ ?_ ?_ ?_ ?_ ?_ ?_ ?_ ?_ ?_
   ·rw[hrow];exact x6.re λq=>by rw[cw];rfl
   all_goals simp
  rw[if_neg c0]at hrow;have c0':¬sl=[]:=λe=>c0 (by rw[e];rfl);refine aB (by simp[c0']) ?_;simp;refine fin u3 h3 _ ?_ ?_ ?_ ?_ ?_ ?_ ?_ ?_ ?_ ?_ ?_ ?_ ?_
  ·rw[hrow];exact x3
  all_goals simp
 rintro vi h2 x2;exact hQ h2 vi x2
end
def Pc (lp:List Int) (m:MS):Prop:=∀j,((nth m.blocks j).phis.length:Int)=nth lp j
variable{lp:List Int}
theorem Pc.grw{m m':MS}{k:Nat}(p:Pc lp m)(g:Grw b k m m'):Pc lp m':=λj=>by
 by_cases e:j=b
 ·subst e;rw[g.phis];exact p j
 rw[g.els j e];exact p j
theorem Pc.gP{m:MS}{x:BlkD}(p:Pc lp m)(hx:x.phis.length=(nth m.blocks b).phis.length):Pc lp { m with blocks:=m.blocks.set b x }:=λj=>by
 show((nth (m.blocks.set b x) j).phis.length:Int)=_;rcases Lr j m.blocks.length with hl | hl
 ·rw[bQ hl];split
  ·rename_i e;subst e;rw[hx];exact p b
  exact p j
 rw[dB (by simpa using hl)];have:=p j;rwa [dB hl]at this
theorem Pc.jm {s:List Int} {to:List (List Int)} {n b:Nat} {dn:BL} {away:List BL} {lp:List Int} {m:MS} (p:Pc lp m) (hb:b<m.blocks.length):Pc lp (jm s to n dn away b m):=by have p1:Pc lp (MS.took { m with live:=me m dn away b n }):=p;have hb1:b<(MS.took { m with live:=me m dn away b n }).blocks.length:=hb;have g:=((Grw.refl (b:=b) (m:=MS.took { m with live:=me m dn away b n })).iL (s:=s) hb1 (aI s m.at_ 7).toNat).H7 (s:=s) (to:=nth to b) hb1;exact(p1.grw g).gP rfl
theorem Pc.cW {s:List Int} {to:List (List Int)} {n b:Nat} {lp:List Int} {x:BL × MS} (p:Pc lp x.2) (hb:b<x.2.blocks.length):Pc lp (cW s to n b x).2:=by
 unfold Go.Proofs.YtnfiilgdjpdlkaaGreatDoor.cW;split
 ·exact p.jm hb
 exact p
theorem Pc.rowS {s:List Int} {b:Nat} {lp:List Int} {m:MS} (p:Pc lp m) (hb:b<m.blocks.length):Pc lp (rowS s b m).2:=by
 unfold Go.Proofs.YtnfiilgdjpdlkaaGreatDoor.rowS;split
 ·have p1:Pc lp m.took.took:=p;exact p1.grw ((Grw.refl (b:=b) (m:=m.took.took)).constant hb)
 exact p
theorem Dj{s:List Int}{m:MS}:(rowS s b m).2.blocks.length=m.blocks.length:=by
 unfold rowS;split
 ·exact eh
 rfl
theorem Pc.kc {s:List Int} {pl:List Int} {lp:List Int} {x:List InD × MS} (p:Pc lp x.2) (hb : ∀k,k<pl.length->(nth pl k).toNat<x.2.blocks.length) : ∀k,k<=pl.length->Pc lp (up (eo s pl) k x).2/\(up (eo s pl) k x).2.blocks.length=x.2.blocks.length
 | 0,_=>⟨p,rfl⟩
 | k+1,h=>by obtain⟨h1,h2⟩:=Pc.kc (s:=s) p hb k Yb;have e:(up (eo s pl) (k+1) x).2=(Go.Proofs.YtnfiilgdjpdlkaaGreatDoor.rowS s (nth pl k).toNat (up (eo s pl) k x).2).2.took:=rfl;rw[e];exact⟨h1.rowS (by rw[h2];exact hb k Yb),(nh).trans (Dj.trans h2)⟩
theorem Pc.phi3 {s:List Int} {b j:Nat} {pl:List Int} {lp:List Int} {m:MS} (p:Pc lp m) (hb : ∀k,k<pl.length->(nth pl k).toNat<m.blocks.length):Pc lp (phi3 s b pl j m)/\(phi3 s b pl j m).blocks.length=m.blocks.length:=by obtain⟨h1,h2⟩:=Pc.kc (s:=s) (pl:=pl) (x:=([],m)) p hb pl.length (Lp _);exact⟨h1.gP Sa,by show(List.set _ _ _).length=_;rw[LJ];exact h2⟩
theorem Pc.nK {s:List Int} {b:Nat} {pl:List Int} {lp:List Int} {m:MS} (p:Pc lp m) (hb : ∀k,k<pl.length->(nth pl k).toNat<m.blocks.length) : ∀k,Pc lp (up (Go.Proofs.YtnfiilgdjpdlkaaGreatDoor.phi3 s b pl) k m)/\(up (Go.Proofs.YtnfiilgdjpdlkaaGreatDoor.phi3 s b pl) k m).blocks.length=m.blocks.length
 | 0=>⟨p,rfl⟩
 | k+1=>by obtain⟨h1,h2⟩:=Pc.nK (s:=s) (b:=b) p hb k;obtain⟨h3,h4⟩:=Pc.phi3 (s:=s) (b:=b) (j:=k) h1 (λk hk=>by rw[h2];exact hb k hk);exact⟨h3,h4.trans h2⟩
theorem ug {p:Nat->Bool} : ∀(n:Nat) (v:Int),v∈sift p (λa=>(a:Int)) n->∃c:Nat,v=c/\c<n
 | 0,v,h=>by cases h
 | n+1,v,h=>by
  cases hp:p n with
  | true=>
   rw[mU hp]at h;rcases Lt.1 h with h | h
   ·obtain⟨c,h1,h2⟩:=ug n v h;exact⟨c,h1,by omega⟩
   rw[Lx]at h;exact⟨n,h,by omega⟩
  | false=>rw[mb hp]at h;obtain⟨c,h1,h2⟩:=ug n v h;exact⟨c,h1,by omega⟩
theorem zo{p:Nat->Bool}(n k:Nat)(hk:k<(sift p (λa=>(a:Int)) n).length): ∃c:Nat,nth (sift p (λa=>(a:Int)) n) k=c/\c<n:=ug n _ (cr hk)
section
variable {s:List Int} {M:Nat} {vs:Value} {W0:View} {h:Heap} {o0:Own} {m:MS}
theorem Nx.Kk[r:Rep α](x:Nx s M vs W0 h o0 m){h':Heap}{u:Value}{l:List α}(hle:(vw h).le (vw h'))(hs:SlRd (fresh h h') u l): ∃W',W0.le W'/\Nx s M vs W' h' o0 m/\SlRd W' u l:=by obtain⟨W,o,g,w,f⟩:=x;have hW:=bP (h':=h') w.own.wle;exact⟨_,View.le_trans g hW,⟨_,o,View.le_refl _,⟨w.own.ext hle,w.src.mono hW,w.box⟩,f⟩,hs.mono (jw W h h')⟩
variable{vb vl:Value}
theorem Mk.JM{o:Own}(w:Mk s M vs W h o m){lb:List BlkM}(bb:MkB M vs m o vb vl lb){i:Nat}{l:List InD}{v:Value}{x y:Operand}{K:Value->Heap->Prop}(hb:b<m.blocks.length)(hi:i<(nth m.blocks b).phis.length)(hsz:db Tryz.prog ty2=some 1)(hx:asg us x = .pointer (some (((slA (nth lb b).phis.v).add (i*2)).add 1)))(hy:asg us y=v)(hr:SlRd W v l)(hK : ∀h' o',Mk s M vs W h' o' (m.rq b i l)->(∀k:Key,3<=k.1->o' k=o k)->K undef h'):@Lft.step po Tryz.prog (.store ty2 x y) ty us h K:=by
 have hbl:b<lb.length:=by rw[bb.len];exact hb
 refine w.own.ln (k:=(1,b)) (α:=PhiD) PhiD.mw (v:=(nth lb b).phis.v) (l:=(nth m.blocks b).phis) (i:=i) (d:=l) (bb.phis b hb) hsz hx hy hi (eO.2 hr) λh7 w7 _=>?_;have hs:lb.set b (nth lb b)=lb:=by rw[aC hbl];exact List.set_getElem_self hbl
 have b7:=bb.gP hb (x':={ nth m.blocks b with phis:=(nth m.blocks b).phis.set i { nth (nth m.blocks b).phis i with ins:=l } }) (y':=nth lb b) (o':=o.upd (1,b) (it T.lg (nth lb b).phis.v ((nth m.blocks b).phis.set i { (nth m.blocks b).phis[i]with ins:=l }))) (bb.term b hb) (by rw[hs,Own.ak Sa];exact bb.blk) (by rw[Own.aj,aC hi]) (by rw[Own.ak Sa];exact bb.ins b hb) (λq h1 h2 h3=>Own.ak h2);rw[hs]at b7;exact hK h7 _ ⟨w7,w.src,vb,vl,lb,b7⟩ λk hk=>Own.ak (by rintro rfl;simp at hk)
end
section
variable {s:List Int} {M:Nat} {vs:Value} {W0:View} {h:Heap} {o0:Own} {m:MS}
variable{vd:Value}
theorem DZ{a p i cnt:Nat}{vq:Value}(x:Nx s M vs W0 h o0 m)(h5:o0 (5,0)=it T.int vp lp)(f71:o0 (7,1)=none)(f72:o0 (7,2)=none)(q:P3 n a p i m)(pc:Pc lp m)(hlp:lp.length=n)(hb:b<n)(hcnt:nth lp b=cnt)(hc3:cnt<=3)(hn:n<=10)(ha:a<=400000)(hia:i<=a)(hp:p<=100)(hi:i<=1900)(hq:SlRd W0 vq pl)(hpl:pl.length<=9)(hpr : ∀k,k<pl.length->∃c:Nat,nth pl k=c/\c<n)(h0:ck [2,3,4,5,7,11,25,26,27] ρ=[(2,vr),(3,.pointer (some ⟨M,0,none⟩)),(4,.int .i64 n),(5,vt),(7,vp),(11,vd),(25,.int .i64 b),(26,vq),(27,.int .i64 0)])(hQ : ∀h':Heap,Nx s M vs W0 h' o0 (up (phi3 s b pl) cnt m)->Q .normal [(2,vr),(3,.pointer (some ⟨M,0,none⟩)),(4,.int .i64 n),(5,vt),(7,vp),(11,vd),(25,.int .i64 b),(26,vq),(27,.int .i64 cnt)] h'):
  LC.wp Tryz.prog (.block 26 (.loop L.aq.l14)) Q ρ h:=by
 simp only[aN];refine dR [2,3,4,5,7,11,25,26,27] (fun(_:Unit) k=>[vr,.pointer (some ⟨M,0,none⟩),.int .i64 n,vt,vp,vd,.int .i64 b,vq,.int .i64 k]) (λ_ k h2=>Nx s M vs W0 h2 o0 (up (phi3 s b pl) k m)) cnt ()
  rfl Yb h0 x (λ_ _=>rfl) (λv k h2 hk2 x2=>by have sp:=x2.z.at Yc h5;have e:=sp.int (View.le_refl _) (i:=b) Yb;rw[hcnt]at e;simp(disch:=omega)[sp.idx1 rfl,e]) ?_ ?_
 ·rintro _ k h2 hlt x2 K2 hK2;have hpn : ∀j,j<pl.length->(nth pl j).toNat<m.blocks.length:=λj hj=>by obtain⟨c,h1,h2⟩:=hpr j hj;rw[h1,q.z.len];simpa using h2
  have q2:=(nK (s:=s) (b:=b) q hpl k).mono (a':=a+200) (p':=p) (i':=i+30) Yb (Lp _) Yb;obtain⟨pc2,hlen2⟩:=Pc.nK (s:=s) (b:=b) pc hpn k;have e2:up (phi3 s b pl) (k+1) m=phi3 s b pl k (up (phi3 s b pl) k m):=rfl;rw[e2]at hK2;generalize up (phi3 s b pl) k m=m2 at x2 hK2 q2 pc2 hlen2;have hpn2 : ∀j,j<pl.length->(nth pl j).toNat<m2.blocks.length:=λj hj=>by rw[hlen2];exact hpn j hj
  obtain⟨pc3,hlen3⟩:=Pc.kc (s:=s) (pl:=pl) (x:=([],m2)) pc2 hpn2 pl.length (Lp _);simp only[aN];refine ab λy hy=>?_;simp;refine x2.fe (k:=(7,2)) (α:=InD) Yc f72 El.ee λvi h3 hvi x3=>?_;subst hy;refine ab λy hy=>?_;refine ab λw hw=>?_;simp;subst hw;refine Ec (vr:=vr) (vt:=vt) (vp:=vp) (vd:=vd) (vq:=vq) (vi:=vi) (b:=b) (j:=k) x3 f71 q2 hn Yb Yb hp Yb hq hpl hpr (by simp[ck,af,ag]) λh4 vi x4=>?_;obtain⟨W4,hW4,x4,s4⟩:=x4.freeze Yc f72;have e3:phi3 s b pl k m2=(up (eo s pl) pl.length ([],m2)).2.rq b k (up (eo s pl) pl.length ([],m2)).1:=rfl;rw[e3]at hK2;have hb4:b<(up (eo s pl) pl.length ([],m2)).2.blocks.length:=by rw[hlen3];show b<m2.blocks.length;rw[hlen2,q.z.len];exact hb
  have hph:((nth (up (eo s pl) pl.length ([],m2)).2.blocks b).phis.length:Int)=cnt:=(pc3 b).trans hcnt;generalize up (eo s pl) pl.length ([],m2)=r at x4 hK2 s4 hb4 hph;obtain⟨W,o,g,w,f⟩:=x4;obtain⟨vb,vl,lb,bb⟩:=w.box;have rd:=w.reads bb;have hbb:b<lb.length:=by rw[bb.len];exact hb4
  have sb:=w.own.now bb.blk;have sbb:=sb.bound;have c1:ao (vw h4) (((slA vb).add (b*6)).add 0)=some (nth lb b).phis.v:=by have:=((sb.at hbb).part BlkM.rW).raw;rw[aC hbb];exact this
  have sph:=w.own.now (bb.phis b hb4);simp;subst hy;have r5:Bn.ev (.idx 2) (nth lb b).phis.v (.int .i64 k)=some (.pointer (some ((slA (nth lb b).phis.v).add (k*2)))):=by have:=sph.idxn (N:=2) rfl (k:=.i64) (i:=k) Yb Yb;simpa using this
  simp(disch:=omega)[rd.cb,sb.idxn (N:=6) rfl,c1,r5];refine w.JM bb (b:=b) (i:=k) (l:=r.1) hb4 Yb Ya rfl rfl (s4.mono g) λh5 o5 w5 f5=>?_;refine hK2 () _ _ rfl rfl ?_;exact⟨W,o5,View.le_trans hW4 g,w5,λq hq=>(f5 q hq).trans (f q hq)⟩
 rintro _ h2 x2;exact hQ h2 x2
theorem GU{a p i k:Nat}{m:MS}(q:P3 n a p i m)(pc:Pc lp m)(hr : ∀j,nth lp j<=3)(hn:n<=9):P3 n (a+162) p (i+27) (blk3 s lp k m)/\Pc lp (blk3 s lp k m):=by
 have hpl:(dp m.f ((k+1:Nat):Int)).length<=n:=by have:=oD (p:=λa=>decide (((k+1:Nat):Int)∈(nth m.f.blocks a).term.to)) (x:=λa=>(a:Int)) m.f.blocks.length;rw[show m.f.blocks.length=n from q.z.len]at this;unfold dp;rw[show m.f.blocks.length=n from q.z.len];exact this
 have hpn : ∀j,j<(dp m.f ((k+1:Nat):Int)).length->(nth (dp m.f ((k+1:Nat):Int)) j).toNat<m.blocks.length:=λj hj=>by obtain⟨c,h1,h2⟩:=zo _ j hj;have h1:nth (dp m.f ((k+1:Nat):Int)) j=c:=h1;rw[h1];have h2:c<m.blocks.length:=h2;simpa using h2
 have h3:=hr (k+1);unfold blk3;exact⟨(nK q Yb _).mono Yb (Lp _) Yb,(Pc.nK pc hpn _).1⟩
theorem yw {n a p i:Nat} {lp:List Int} {m:MS} (q:P3 n a p i m) (pc:Pc lp m) (hr : ∀j,nth lp j<=3) (hn:n<=9) : ∀k,P3 n (a+162*k) p (i+27*k) (up (blk3 s lp) k m)/\Pc lp (up (blk3 s lp) k m)
 | 0=>⟨q,pc⟩
 | k+1=>by obtain⟨h1,h2⟩:=yw q pc hr hn k;obtain⟨h3,h4⟩:=GU (s:=s) (k:=k) h1 h2 hr hn;exact⟨h3.mono Yb (Lp _) Yb,h4⟩
theorem Ei{a p i:Nat}(x:Nx s M vs W0 h o0 m)(h5:o0 (5,0)=it T.int vp lp)(f71:o0 (7,1)=none)(f72:o0 (7,2)=none)(q:P3 n a p i m)(pc:Pc lp m)(hlp:lp.length=n)(hr : ∀j,0<=nth lp j/\nth lp j<=3)(hn1:1<=n)(hn:n<=9)(ha:a<=300000)(hia:i<=a)(hp:p<=100)(hi:i<=1000)(h0:ck [2,3,4,5,7,11,25] ρ=[(2,vr),(3,.pointer (some ⟨M,0,none⟩)),(4,.int .i64 n),(5,vt),(7,vp),(11,vd),(25,.int .i64 1)])(hQ : ∀h':Heap,Nx s M vs W0 h' o0 (up (blk3 s lp) (n-1) m)->Q .normal [(2,vr),(3,.pointer (some ⟨M,0,none⟩)),(4,.int .i64 n),(5,vt),(7,vp),(11,vd),(25,.int .i64 n)] h'):
  LC.wp Tryz.prog (.block 24 (.loop L.aq.l13)) Q ρ h:=by
 simp only[aN];refine vF [2,3,4,5,7,11,25] (fun(_:Unit) k=>[vr,.pointer (some ⟨M,0,none⟩),.int .i64 n,vt,vp,vd,.int .i64 ((k+1:Nat):Int)]) (λ_ k h2=>Nx s M vs W0 h2 o0 (up (blk3 s lp) k m)) (n-1) 1 ()
  rfl Yb h0 x (λ_ _=>rfl) (λv k h2 hk2 m=>by simp;omega) ?_ ?_
 ·rintro _ k h2 hlt x2 K2 hK2;obtain⟨q2,pc2⟩:=yw (s:=s) q pc (λj=>(hr j).2) hn k;have e2:up (blk3 s lp) (k+1) m=blk3 s lp k (up (blk3 s lp) k m):=rfl;rw[e2]at hK2;generalize up (blk3 s lp) k m=m2 at x2 hK2 q2 pc2;have hb2:blk3 s lp k m2=_:=blk3.eq_1 s lp k m2;rw[hb2]at hK2;simp only[aN];refine ab λy hy=>?_;obtain⟨vb,vl,rd⟩:=x2.z.reads;simp[rd.f];refine ah Ya (sL (b:=((k+1:Nat):Int)) (rd.rd (Ea q2.z)) (by show m2.blocks.length<=_;rw[q2.z.len];omega)) ?_;rintro vq h3 ⟨hle3,hq⟩;obtain⟨W3,hW3,x3,sq⟩:=x2.Kk hle3 hq;clear rd hq;have hpl:(dp m2.f ((k+1:Nat):Int)).length<=n:=by have:=oD (p:=λa=>decide (((k+1:Nat):Int)∈(nth m2.f.blocks a).term.to)) (x:=λa=>(a:Int)) m2.f.blocks.length;unfold dp;rw[show m2.f.blocks.length=n from q2.z.len]at this ⊢;exact this
  have hpr : ∀j,j<(dp m2.f ((k+1:Nat):Int)).length->∃c:Nat,nth (dp m2.f ((k+1:Nat):Int)) j=c/\c<n:=λj hj=>by obtain⟨c,h1,h2⟩:=zo _ j hj;exact⟨c,h1,by rw[show m2.f.blocks.length=n from q2.z.len]at h2;exact h2⟩
  generalize dp m2.f ((k+1:Nat):Int)=pl at sq hpl hpr hK2;obtain⟨r0,r1⟩:=hr (k+1);subst hy;refine ab λy hy=>?_;simp;subst hy;refine DZ (vr:=vr) (vt:=vt) (vp:=vp) (vd:=vd) (vq:=vq) (b:=k+1) (cnt:=(nth lp (k+1)).toNat) x3 h5 f71 f72 q2 pc2 hlp Yb Yb Yb Yb Yb Yb hp Yb sq Yb hpr (by simp[ck,af,ag]) λh4 x4=>?_;simp;refine hK2 () _ _ rfl rfl (x4.up hW3)
 rintro _ h2 x2;have e:n-1+1=n:=by omega
 have:=hQ h2 x2;simpa[e]using this
theorem AB{a p:Nat}{x0:BL × MS}(q:B2 n a p x0)(hn:n<=10)(hp:p<=100)(ha:16000<=a): ∀j,j<=n->B2 n (a+600*j) p (up (cW s to n) j x0):=by
 intro j;induction j with
 | zero=>intro _;exact q
 | succ j ih=>intro hj;have:=qc (s:=s) (to:=to) (b:=j) (ih Yb) Yb hn hp Yb λh=>pE h;exact⟨this.z.mono Yb (Lp _) (Lp _),this.len,this.none⟩
theorem Gs{a p:Nat}{x0:BL × MS}(q:B2 n a p x0)(hn:n<=10)(hp:p<=100)(ha:16000<=a)(j:Nat):B2 n (a+600*n*j) p (up (λ_=>up (cW s to n) n) j x0):=by
 induction j with
 | zero=>exact q
 | succ j ih=>have:=AB (s:=s) (to:=to) ih hn hp Yb n (Lp _);exact⟨this.z.mono (by rw[OJ];omega) (Lp _) (Lp _),this.len,this.none⟩
theorem Gv{a p:Nat}{x0:BL × MS}(x:Nx s M vs W0 h (o0.upd (6,0) (it T.bool vd x0.1)) x0.2)(hto:SlRd W0 vt to)(htl:to.length=n)(f7:o0 (7,0)=none)(f90:o0 (9,0)=none)(f91:o0 (9,1)=none)(q:B2 n a p x0)(hn:n<=9)(hp:p<=100)(ha:16000<=a)(ha2:a<=30000)(h0:ck [2,3,4,5,7,11,12] ρ=[(2,vr),(3,.pointer (some ⟨M,0,none⟩)),(4,.int .i64 n),(5,vt),(7,vp),(11,vd),(12,.int .i64 0)])(hQ : ∀h':Heap,Nx s M vs W0 h' (o0.upd (6,0) (it T.bool vd (up (λ_=>up (cW s to n) n) n x0).1)) (up (λ_=>up (cW s to n) n) n x0).2->Q .normal [(2,vr),(3,.pointer (some ⟨M,0,none⟩)),(4,.int .i64 n),(5,vt),(7,vp),(11,vd),(12,.int .i64 n)] h'):
  LC.wp Tryz.prog (.block 6 (.loop L.aq.l4)) Q ρ h:=by
 simp only[aN];refine dR [2,3,4,5,7,11,12] (fun(_:Unit) j=>[vr,.pointer (some ⟨M,0,none⟩),.int .i64 n,vt,vp,vd,.int .i64 j]) (λ_ j h2=>Nx s M vs W0 h2 (o0.upd (6,0) (it T.bool vd (up (λ_=>up (cW s to n) n) j x0).1)) (up (λ_=>up (cW s to n) n) j x0).2) n ()
  rfl Yb h0 x (λ_ _=>rfl) (λv k h2 hk2 x2=>by simp) ?_ ?_
 ·rintro _ t h2 hlt x2 K2 hK2;have q2:=Gs (s:=s) (to:=to) q Yb hp ha t;have hbd:600*n*t<=5400*9:=NQ Yb Yb;have e2:up (λ_=>up (cW s to n) n) (t+1) x0=up (cW s to n) n (up (λ_=>up (cW s to n) n) t x0):=rfl;rw[e2]at hK2;generalize up (λ_=>up (cW s to n) n) t x0=y at x2 hK2 q2;simp only[aN];refine ab λy hy=>?_;simp;subst hy;refine GI (vr:=vr) (vt:=vt) (vp:=vp) (vd:=vd) (t:=t) x2 hto htl f7 f90 f91 q2 Yb hp Yb Yb (by simp[ck,af,ag]) λh3 x3=>?_;simp;exact hK2 () _ _ rfl rfl x3
 rintro _ h2 x2;exact hQ h2 x2
end
section
variable {s:List Int}
theorem ke:1<=cm s/\cm s<=9:=by have:=cS (s:=s) (at_:=1) (n:=9) Yc;unfold cm;omega
theorem DK:((cm s:Nat):Int)=1+aI s 1 9:=by have:=cS (s:=s) (at_:=1) (n:=9) Yc;unfold cm;omega
theorem Ab:(uu s).ok 4:=by have:=cS (s:=s) (at_:=0) (n:=5) Yc;refine⟨by show 2<=4;omega,by show 0<=aI s 0 5;omega,by show aI s 0 5<=_;omega,by show 0<=4;omega,λi=>?_⟩;show(nth ([]:List BlkD) i).ins.length<=4;rw[dB Sa];show 0<=4;omega
theorem yI:TgK (cm s) 112 (ja s):=by
 obtain⟨h1,h2⟩:=ke (s:=s);have k1:TgK (cm s) 4 (List.replicate (cm s) [],uu s):=⟨by simp,λi=>by
  rcases Lr i (cm s)with hi | hi
  ·rw[aF hi];show 0<=4;omega
  rw[dB (by simpa using hi)];show 0<=4;omega,Ab⟩;exact(AJ (s:=s) (yn (s:=s) k1 (cm s-1)) (cm s)).mono Yb
def pI (m m':MS):Prop:=m'.ps=m.ps/\m'.blocks=m.blocks/\m'.next=m.next/\m'.live=m.live
theorem Ew{m:MS}{k:Nat}{x:TgS}(h:pI m x.2):pI m (tgA s k x).2:=by unfold tgA;split<;>exact h
theorem Fg{m:MS}{x:TgS}(h:pI m x.2):pI m (tgI s n b x).2:=by
 unfold tgI;simp only;repeat' split
 all_goals exact h
theorem E8{m:MS}{x:TgS}(h:pI m x.2):pI m (tgB s n b x).2:=
 rL (λx:TgS=>pI m x.2) (λ_ _ h=>Fg h) _ _ h
theorem ue:pI (uu s) (ja s).2:=
 rL (λx:TgS=>pI (uu s) x.2) (λ_ _ h=>E8 h) _ _ (rL (λx:TgS=>pI (uu s) x.2) (λ_ _ h=>Ew h) _ _ ⟨rfl,rfl,rfl,rfl⟩)
theorem zI {m:MS} {a n:Nat} {to:List (List Int)} (z:Sz n a 0 0 m) (g:Gd m) (pc : ∀j,(nth m.blocks j).phis.length=0) (ht : ∀j,(nth to j).length<=1000) : ∀k,Sz n a 0 0 (up (λb m=>MS.lM m b (nth to b)) k m)/\Gd (up (λb m=>MS.lM m b (nth to b)) k m)
 | 0=>⟨z,g⟩
 | k+1=>by obtain⟨h1,h2⟩:=zI z g pc ht k;exact⟨h1.gP (h1.phis k) (h1.ins k),h2.lM (ht k)⟩
theorem sG{j:Nat}:(nth (List.replicate n qU) j).phis.length=0/\(nth (List.replicate n qU) j).ins.length=0:=by
 rcases Lr j n with hj | hj
 ·rw[aF hj];exact⟨rfl,rfl⟩
 rw[dB (by simpa using hj)];exact⟨rfl,rfl⟩
theorem y9:Sz (cm s) 200 0 0 (rm s)/\Gd (rm s):=by
 have k:=yI (s:=s);have e:=ue (s:=s);have t:=cS (s:=s) (at_:=0) (n:=5) Yc;refine zI ⟨?_,?_,?_,?_,?_,?_,?_,λj=>?_,λj=>?_⟩ (λj hj=>?_) (λj=>(sG).1) (λj=>by have:=k.row j;omega) _
 ·show(ja s).2.at_<=200;have:=k.ok.at_;omega
 ·exact k.ok.n0
 ·show(ja s).2.next<=_;have:=k.ok.next;omega
 ·show(ja s).2.live.length<=200;have:=k.ok.live;omega
 ·show 0<=(ja s).2.ps;rw[e.1];show 0<=aI s 0 5;omega
 ·show(ja s).2.ps<=4;rw[e.1];show aI s 0 5<=4;omega
 ·show(List.replicate (cm s) qU).length=_;simp
 ·show(nth (List.replicate (cm s) qU) j).phis.length<=0;rw[(sG).1];omega
 ·show(nth (List.replicate (cm s) qU) j).ins.length<=0;rw[(sG).2];omega
 have hj:j<cm s:=by simpa using hj
 show GdB (nth (List.replicate (cm s) qU) j);rw[aF hj];exact⟨λi h=>(by cases h),by show 0<=10;omega,by show 0<=1000;omega,λi h=>(by cases h)⟩
theorem oF {m:MS} {b:Nat} (hb:b<m.blocks.length) : ∀c j,(nth (up (λ_=>fB b) c m).blocks j).phis.length=(nth m.blocks j).phis.length+(if j=b then c else 0)/\(up (λ_=>fB b) c m).blocks.length=m.blocks.length
 | 0,j=>⟨by show(nth m.blocks j).phis.length=_;split<;>omega,rfl⟩
 | c+1,j=>by
  obtain⟨h1,h2⟩:=oF hb c j;obtain⟨h3,_⟩:=oF hb c b;have e:(up (λ_=>fB b) (c+1) m).blocks=(up (λ_=>fB b) c m).blocks.set b { nth (up (λ_=>fB b) c m).blocks b with phis:=(nth (up (λ_=>fB b) c m).blocks b).phis++[⟨(up (λ_=>fB b) c m).next,[]⟩] }:=rfl;rw[e];refine⟨?_,by rw[LJ];exact h2⟩;rcases Lr j m.blocks.length with hl | hl
  ·rw[bQ (by rw[h2];exact hl)];by_cases ej:b=j
   ·subst ej;rw[if_pos rfl,if_pos rfl];rw[if_pos rfl]at h3;show(_++[_]).length=_;rw[Lv,h3,LO];omega
   rw[if_neg ej,if_neg (λq=>ej q.symm)];rw[if_neg (λq=>ej q.symm)]at h1;exact h1
  rw[dB (by rw[LJ,h2];exact hl),dB hl,if_neg Yb];rfl
theorem wL {n a:Nat} {x:List Int × MS} (p:Ph n a 0 x) (pc:Pc x.1 x.2) (g:Gd x.2) : ∀k,k<n->Pc (up (fJ s) k x).1 (up (fJ s) k x).2/\Gd (up (fJ s) k x).2
 | 0,_=>⟨pc,g⟩
 | k+1,hk=>by
  obtain⟨h1,h2⟩:=wL p pc g k Yb;have q:=yh (s:=s) p k;have e:up (fJ s) (k+1) x=fJ s k (up (fJ s) k x):=rfl;rw[e];generalize up (fJ s) k x=y at h1 h2 q;obtain⟨c0,c1⟩:=qy (s:=s) (m:=y.2) (b:=k+1);have hb:k+1<y.2.took.blocks.length:=by show k+1<y.2.blocks.length;rw[q.z.len];exact hk
  refine⟨λj=>?_,h2.took.oW _⟩;have h3:=(oF hb (iz s y.2 (k+1)).toNat j).1;show((nth (up (λ_=>fB (k+1)) (iz s y.2 (k+1)).toNat y.2.took).blocks j).phis.length:Int)=nth (y.1.set (k+1) (iz s y.2 (k+1))) j;rw[h3];have h4:=h1 j;have h5:nth y.2.took.blocks j=nth y.2.blocks j:=rfl;rw[h5];rcases Lr j y.1.length with hl | hl
  ·rw[bQ hl];by_cases ej:k+1=j
   ·subst ej;rw[if_pos rfl,if_pos rfl];rw[q.zero (k+1) Yb]at h4;omega
   rw[if_neg ej,if_neg (λr=>ej r.symm)];omega
  have e1:nth (y.1.set (k+1) (iz s y.2 (k+1))) j=default:=dB (by simpa using hl);have e2:nth y.1 j=default:=dB hl;rw[e1];rw[e2]at h4;have:=q.len;rw[if_neg Yb];omega
theorem qF:Ph (cm s) 200 (cm s-1) (jK s)/\Pc (jK s).1 (jK s).2/\Gd (jK s).2:=by
 obtain⟨h1,h2⟩:=ke (s:=s);obtain⟨z,g⟩:=y9 (s:=s);have hz : ∀j,nth (List.replicate (cm s) (0:Int)) j=0:=λj=>by
  rcases Lr j (cm s)with hj | hj
  ·rw[aF hj]
  rw[dB (by simpa using hj)];rfl
 have p0:Ph (cm s) 200 0 (List.replicate (cm s) (0:Int),rm s):=⟨z,by simp,λj _=>hz j,λj=>by rw[hz];omega⟩;have pc:Pc (List.replicate (cm s) (0:Int)) (rm s):=λj=>by have:=z.phis j;rw[hz];omega
 obtain⟨q1,q2⟩:=wL (s:=s) p0 pc g (cm s-1) Yb;exact⟨yh p0 _,q1,q2⟩
theorem Gd.jm {to:List (List Int)} {n b:Nat} {dn:BL} {away:List BL} {m:MS} (g:Gd m) (ht:(nth to b).length<=1000):Gd (jm s to n dn away b m):=by have g1:Gd (MS.took { m with live:=me m dn away b n }):=g;exact(Gd.iL g1 _).JU ht
theorem Gd.cW {to:List (List Int)} {n b:Nat} {x:BL × MS} (g:Gd x.2) (ht:(nth to b).length<=1000):Gd (cW s to n b x).2:=by
 unfold Go.Proofs.YtnfiilgdjpdlkaaGreatDoor.cW;split
 ·exact g.jm ht
 exact g
structure M4 (n a p:Nat) (lp:List Int) (x:BL × MS):Prop where
 b2:B2 n a p x
 gd:Gd x.2
 pc:Pc lp x.2
theorem M4.step{to:List (List Int)}{n a p b:Nat}{lp:List Int}{x:BL × MS}(q:M4 n a p lp x)(hb:b<n)(hn:n<=10)(hp:p<=100)(ha:16000<=a)(ht : ∀j,(nth to j).length<=1000):M4 n (a+600) p lp (cW s to n b x):=
 ⟨qc q.b2 hb hn hp ha λh=>pE h,q.gd.cW (ht b),q.pc.cW (by rw[q.b2.z.len];exact hb)⟩
theorem M4.blk{a p:Nat}{x:BL × MS}(q:M4 n a p lp x)(hn:n<=10)(hp:p<=100)(ha:16000<=a)(ht : ∀j,(nth to j).length<=1000)(k:Nat)(hk:k<=n):M4 n (a+600*k) p lp (up (Go.Proofs.YtnfiilgdjpdlkaaGreatDoor.cW s to n) k x):=by
 induction k with
 | zero=>exact q
 | succ k ih=>have:=(ih Yb).step (s:=s) (to:=to) (b:=k) Yb hn hp Yb ht;exact⟨⟨this.b2.z.mono Yb (Lp _) (Lp _),this.b2.len,this.b2.none⟩,this.gd,this.pc⟩
theorem M4.turn{a p:Nat}{x:BL × MS}(q:M4 n a p lp x)(hn:n<=10)(hp:p<=100)(ha:16000<=a)(ht : ∀j,(nth to j).length<=1000)(k:Nat):M4 n (a+600*n*k) p lp (up (λ_=>up (Go.Proofs.YtnfiilgdjpdlkaaGreatDoor.cW s to n) n) k x):=by
 induction k with
 | zero=>exact q
 | succ k ih=>have:=ih.blk (s:=s) (to:=to) hn hp Yb ht n (Lp _);exact⟨⟨this.b2.z.mono (by rw[OJ];omega) (Lp _) (Lp _),this.b2.len,this.b2.none⟩,this.gd,this.pc⟩
theorem zM:B2 (cm s) 16000 27 (List.replicate (cm s) false,(jK s).2):=by obtain⟨h1,h2⟩:=ke (s:=s);obtain⟨p,_,_⟩:=qF (s:=s);refine⟨p.z.mono Yb Yb Yb,by simp,λj hj _=>?_⟩;have:=p.z.ins j;show(nth (jK s).2.blocks j).ins.length=0;omega
theorem zd:P3 (cm s) 70000 27 700 (xE s).2/\Pc (jK s).1 (xE s).2:=by
 obtain⟨h1,h2⟩:=ke (s:=s);obtain⟨p,pc,g⟩:=qF (s:=s);have ht : ∀j,(nth (ja s).1 j).length<=1000:=λj=>by have:=(yI (s:=s)).row j;omega
 have q0:M4 (cm s) 16000 27 (jK s).1 (List.replicate (cm s) false,(jK s).2):=⟨zM,g,pc⟩;have q:=q0.turn (s:=s) (to:=(ja s).1) Yb Yb Yb ht (cm s);have hbd:600*cm s*cm s<=5400*9:=NQ Yb Yb;exact⟨⟨q.b2.z.mono Yb (Lp _) (Lp _),q.gd⟩,q.pc⟩
theorem qV:P3 (cm s) 72000 27 1000 (og s):=by obtain⟨h1,h2⟩:=ke (s:=s);obtain⟨p,_,_⟩:=qF (s:=s);obtain⟨q,pc⟩:=zd (s:=s);have:=(yw (s:=s) q pc (λj=>(p.rng j).2) h2 (cm s-1)).1;exact this.mono Yb (Lp _) Yb
theorem zP:0<=(pR s).params/\(pR s).params<=4:=⟨(qV (s:=s)).z.ps0,(qV (s:=s)).z.ps1⟩
end
section
variable {f:an} {b i:Nat}
theorem Ao:mG f (endT f b)=true:=by refine decide_eq_true ?_;show(((nth f.blocks b).ins.length:Nat):Int)=((nth f.blocks ((b:Nat):Int).toNat).ins.length:Nat);rw[LN]
theorem BZ(hi:i<(nth f.blocks b).ins.length):qH f (insT f b i)=true/\yZ f (insT f b i)=nth (nth f.blocks b).ins i:=by
 refine⟨(Ly _ _).mpr ⟨decide_eq_true (Int.natCast_nonneg _),decide_eq_true ?_⟩,?_⟩
 ·show(i:Int)<((nth f.blocks ((b:Nat):Int).toNat).ins.length:Nat);rw[LN];omega
 show nth (nth f.blocks ((b:Nat):Int).toNat).ins ((i:Nat):Int).toNat=_;rw[LN,LN]
theorem GD:iH f (endT f b)=nth f.blocks b:=by show nth f.blocks ((b:Nat):Int).toNat=_;rw[LN]
theorem ld.insG(m:ld f)(hb:b<f.blocks.length)(hi:i<(nth f.blocks b).ins.length):yH f (insT f b i)/\sN (nth (nth f.blocks b).ins i)=false:=by have g:=m.good _ (jk.2 ⟨b,hb,kF.2 (.inr (.inl ⟨i,hi,rfl⟩))⟩);exact⟨g,by have:=g.op (BZ hi).1;rwa [(BZ hi).2]at this⟩
theorem ld.endG(m:ld f)(hb:b<f.blocks.length):tw (nth f.blocks b).term=true/\∀n∈(nth f.blocks b).term.to,1<=n/\n<f.blocks.length:=by have g:=m.good _ (jk.2 ⟨b,hb,kF.2 (.inr (.inr rfl))⟩);have h1:=g.term Ao;have h2:=g.to Ao;rw[GD]at h1 h2;exact⟨h1,h2⟩
end
section
variable {f g:an} {n:Nat}
end
def kY (f:an):Bool:=decide ((jO f).1=0)
def kN (f:an) (b p pat temp:Int):Option FitD:=if dA f b p&&kY f then tryS (fl f b p temp) pat else none
def jc (f:an) (b p pat:Int):Option FitD:=if 1<=pat then kN f b p pat 0 else none
def CI:Option FitD->List Int | some x=>x.takes | none=>[]
def B0:Option FitD->List Int | some x=>x.inner | none=>[]
def ES:Option FitD->List bH | some x=>x.code | none=>[]
def Ig:Option FitD->EndD | some x=>x.fin | none=>eR
theorem nL{f:an}{i:InsD}:i∈fk f↔∃b k,b<f.blocks.length/\k<(nth f.blocks b).ins.length/\i=nth (nth f.blocks b).ins k:=by
 unfold fk;rw[List.mem_flatMap];constructor
 ·rintro⟨x,hx,hi⟩;obtain⟨b,hb,rfl⟩:=LS hx;obtain⟨k,hk,rfl⟩:=LS hi;exact⟨b,k,hb,by rw[aC hb];exact hk,by rw[aC hb,aC hk]⟩
 rintro⟨b,k,hb,hk,rfl⟩;exact⟨_,cr hb,cr hk⟩
theorem qE{H:View}{v:Value}{f:an}(h:Rd H v f): ∀i∈fk f,-2147483648<=i.imm.v/\i.imm.v<=2147483647:=by intro i hi;obtain⟨b,k,hb,hk,rfl⟩:=nL.1 hi;obtain⟨c1,c2,c3⟩:=gT h;unfold Rd at h;rw[if_pos (show Rep.agg an=true from rfl)]at h;obtain⟨cs,rfl,d1,d2,e,h1,h2⟩:=h;obtain⟨vb,rfl⟩:=rN h2;have hs:=nF.1 h2;have h3:=((hs.at hb).part BlkD.mw).sl;obtain⟨vi,-,h4⟩:=h3;rw[<-aC hb]at h4;have:=((h4.at hk).part InsD.jQ).nY;rw[aC hk];exact this
theorem yq{f:an}(m:ld f)(hsm:SmF f): ∀i∈fk f,uR i:=by
 intro i hi;obtain⟨b,k,hb,hk,rfl⟩:=nL.1 hi;obtain⟨-,h⟩:=m.insG hb hk;have hm:=(hsm.blk b hb).inn k hk;generalize nth (nth f.blocks b).ins k=i at *;unfold sN at h;simp at h;obtain⟨⟨h1,h2⟩,h3⟩:=h;unfold xO at h3;refine⟨λho=>?_,λho=>?_,hm⟩
 ·rw[if_neg Yb,if_neg Yb,if_neg Yb]at h3;simp at h3;omega
 rw[if_neg Yb,if_pos Yb]at h3;simp at h3;omega
theorem FI{f:an}(m:ld f)(hsm:SmF f)(hb:b<f.blocks.length):uY (nth f.blocks b).term:=by
 have h:=(m.endG hb).1;have s:=hsm.blk b hb;have s1:=s.args;have s2:=s.to;generalize (nth f.blocks b).term=t at *;refine⟨λho=>?_,s1,s2⟩;unfold tw at h;rcases ho with ho | ho
 ·rw[if_neg Yb,if_pos ho]at h;simp at h;omega
 rw[if_neg Yb,if_neg Yb,if_pos ho]at h;simp at h;omega
theorem Fv:uR iA:=⟨λh=>by simp[iA]at h,λh=>by simp[iA]at h,by simp[iA]⟩
variable{temp:Int}
theorem An{f:an}{b p:Int}(m:ld f)(hsm:SmF f)(hr : ∀i∈fk f,-2147483648<=i.imm.v/\i.imm.v<=2147483647)(hp:dA f b p=true):lJ (fl f b p temp)/\uY (fl f b p temp).t/\((fl f b p temp).i=iA\/(fl f b p temp).i∈fk f)/\(fl f b p temp).f=f:=by
 simp[dA]at hp;obtain⟨⟨⟨g1,g2⟩,g3⟩,g4⟩:=hp;have hb:b.toNat<f.blocks.length:=by omega
 unfold fl;by_cases e:p=(nth f.blocks b.toNat).ins.length
 ·rw[if_pos e];exact⟨⟨hsm,yq m hsm,Fv,hr⟩,FI m hsm hb,.inl rfl,rfl⟩
 rw[if_neg e];have hi:nth (nth f.blocks b.toNat).ins p.toNat∈fk f:=nL.2 ⟨_,_,hb,by omega,rfl⟩;exact⟨⟨hsm,yq m hsm,yq m hsm _ hi,hr⟩,⟨λh=>by simp[oS]at h,by simp[oS],by simp[oS]⟩,.inr hi,rfl⟩
theorem xW{f:an}{v:Value}{b p pat:Int}{h:Heap}(hW:W.le (vw h))(hv:Rd W v (fl f b p temp))(m:ld f)(hsm:SmF f)(hr : ∀i∈fk f,-2147483648<=i.imm.v/\i.imm.v<=2147483647)(hM : ∀i∈fk f,i.op=15\/i.op=16->lL)(hpl:dA f b p=true)(hp:I64 pat):
  az Tryz.prog N.eD #[v,.int .i64 pat] h (λu h'=>cg W h h' u (tryS (fl f b p temp) pat)):=by
 obtain⟨h1,h2,h3,-⟩:=An (temp:=temp) m hsm hr hpl;refine IB hW hv (λ_=>h1) (λ_=>⟨h1,h2⟩) (λho=>?_) hp;rcases h3 with h3 | h3
 ·rw[h3]at ho;simp[iA]at ho
 exact hM _ h3 ho
theorem lF{f:an}(h:kY f=true):ld f:=I5 (by simpa[kY]using h)
theorem Eh{f:an}{v:Value}{b p pat:Int}{h:Heap}(hW:W.le (vw h))(hv:Rd W v f)(hsm:SmF f)(hM : ∀i∈fk f,i.op=15\/i.op=16->lL)(hp:I64 pat):
  az Tryz.prog N.gq #[v,.int .i64 b,.int .i64 p,.int .i64 pat] h (λu h'=>(vw h).le (vw h')/\∃v1 v2,u = .tuple #[v1,v2,.bool (jc f b p pat).isSome]/\SlRd (vw h') v1 (CI (jc f b p pat))/\SlRd (vw h') v2 (B0 (jc f b p pat))):=by
 refine aw (args:=[v,.int .i64 b,.int .i64 p,.int .i64 pat]) follows F.gq E.gq (Lm Ya) λK hK=>?_;dsimp only[L.gq,lkF,lkG];have c0:=Cx.start hW;refine ab λz hz=>?_;simp;refine c0.dK rfl hv λB h1 W1 hW1 c1 at1 hle1=>?_;subst hz;obtain⟨uf,huf,ruf⟩:=at1.ldN rfl (N:=2) rfl;have hr:=qE hv;refine ab λz hz=>?_;simp[huf _ c1.wle];refine ah Ya (Ej c1.wle ruf (by constructor<;>decide)) ?_;rintro _ h2 ⟨hle2,vs,rfl,hvs⟩;have c2:=c1.ext hle2;have hW2:=c1.up (h':=h2);simp;refine c2.eu (α:=cu) hvs (n:=13) (z:=.agg nR.toArray) Ya rfl rfl Ya (λ_=>by simp) (λ_=>by simp) λB2 h3 W3 hW3 c3 at3 hle3=>?_;subst hz;have huf3:=huf _ (View.le_trans hW2 (View.le_trans hW3 c3.wle));have ruf3:=ruf.mono (View.le_trans hW2 (View.le_trans hW3 c3.wle));have none_:jc f b p pat=none->K (.tuple #[.slice none 0 0,.slice none 0 0,.bool false]) h3:=λe=>hK _ _ ⟨c3.le0,_,_,by rw[e];rfl,by rw[e];exact aO,by rw[e];exact aO⟩;refine ab λz hz=>?_;cases hpl:dA f b p with
 | false=>
  have e:jc f b p pat=none:=by unfold jc kN;rw[hpl];split<;>rfl
  simp;exact none_ e
 | true=>
  by_cases h1p:pat<1
  ·have e:jc f b p pat=none:=by unfold jc;rw[if_neg Yb]
   simp[h1p];exact none_ e
  simp[h1p,huf3];refine ah Ya (oy ruf3 hsm) ?_;rintro _ h4 ⟨rfl,hle4⟩;have c4:=c3.ext hle4;have hW4:=c3.up (h':=h4);cases hrt:kY f with
  | false=>
   have e:jc f b p pat=none:=by unfold jc kN;rw[hpl,hrt];split<;>rfl
   have hrt2:decide ((jO f).1=0)=false:=hrt;simp[hrt2];exact hK _ _ ⟨c4.le0,_,_,by rw[e];rfl,by rw[e];exact aO,by rw[e];exact aO⟩
  | true=>
   have hrt2:decide ((jO f).1=0)=true:=hrt;have m:=lF hrt;have e:jc f b p pat=tryS (fl f b p 0) pat:=by unfold jc kN;rw[if_pos Yb,hpl,hrt];rfl
   rw[e]at hK none_;have hpS:mJ f b p 0=fl f b p 0:=by unfold mJ;rw[hpl,if_pos rfl]
   rw[hpS]at at3;obtain⟨us,hus,rus⟩:=at3.ldN rfl (N:=13) rfl;have hus4:=hus _ (View.le_trans hW4 c4.wle);simp[hrt2];subst hz;refine ab λz hz=>?_;simp[hus4];refine ah Ya (xW c4.wle (rus.mono hW4) m hsm hr hM hpl hp) ?_;rintro _ h5 ⟨hle5,vf,x,rfl,hvf,hx⟩;have c5:=c4.ext hle5;simp;refine c5.eu (α:=FitD) hvf (n:=8) (z:=.agg fitZ.toArray) Ya rfl rfl Ya (λ_=>by simp) (λ_=>by simp) λB3 h6 W6 hW6 c6 at6 hle6=>?_;subst hz;refine ab λz hz=>?_;cases hq:tryS (fl f b p 0) pat with
   | none=>rw[hq]at hK;simp;exact hK _ _ ⟨c6.le0,_,_,rfl,aO,aO⟩
   | some y=>
    obtain rfl:=hx y hq;rw[hq]at hK;obtain⟨v1,k1,s1⟩:=((at6.mono c6.wle).part FitD.BS).sl;obtain⟨v2,k2,s2⟩:=((at6.mono c6.wle).part FitD.GY).sl;have k1:ao (vw h6) ⟨B3,0,none⟩=some v1:=by simpa using k1
    have k2:ao (vw h6) ⟨B3,1,none⟩=some v2:=by simpa using k2
    simp;subst hz;simp[k1,k2];exact hK _ _ ⟨c6.le0,_,_,rfl,s1,s2⟩
abbrev endZ:List Value:=[.int .i64 0,.int .i64 0,.int .i64 0,.slice none 0 0,.int .i32 0]
theorem mP{H:View}:Rd H (.agg endZ.toArray) eR:=by unfold Rd;rw[if_pos (show Rep.agg EndD=true from rfl)];exact⟨_,rfl,kV Sa Yc aO⟩
theorem He{f:an}{v:Value}{b p pat:Int}{h:Heap}(hW:W.le (vw h))(hv:Rd W v f)(hsm:SmF f)(hM : ∀i∈fk f,i.op=15\/i.op=16->lL)(hp:I64 pat)(htm:I64 temp):
  az Tryz.prog N.gW #[v,.int .i64 b,.int .i64 p,.int .i64 pat,.int .i64 temp] h (λu h'=>(vw h).le (vw h')/\∃v1 v2,u = .tuple #[v1,v2,.bool (kN f b p pat temp).isSome]/\SlRd (vw h') v1 (ES (kN f b p pat temp))/\Rd (vw h') v2 (Ig (kN f b p pat temp))):=by
 refine aw (args:=[v,.int .i64 b,.int .i64 p,.int .i64 pat,.int .i64 temp]) follows F.gW E.gW (Lm Ya) λK hK=>?_;dsimp only[L.gW,lkF,lkG];have c0:=Cx.start hW;refine ab λz hz=>?_;simp;refine c0.dK rfl hv λB h1 W1 hW1 c1 at1 hle1=>?_;refine c1.cQ (k:=(0,0)) (n:=4) (z:=.agg endZ.toArray) rfl Ya rfl Yc (by simp[Value.cells,Value.oneCell']) λR h1' hle1' c1=>?_;subst hz;obtain⟨uf,huf,ruf⟩:=at1.ldN rfl (N:=2) rfl;have hr:=qE hv;refine ab λz hz=>?_;simp[huf _ c1.wle];refine ah Ya (Ej c1.wle ruf htm) ?_;rintro _ h2 ⟨hle2,vs,rfl,hvs⟩;have c2:=c1.ext hle2;have hW2:=c1.up (h':=h2);simp;refine c2.eu (α:=cu) hvs (n:=13) (z:=.agg nR.toArray) Ya rfl rfl Ya (λ_=>by simp) (λ_=>by simp) λB2 h3 W3 hW3 c3 at3 hle3=>?_;subst hz;have huf3:=huf _ (View.le_trans hW2 (View.le_trans hW3 c3.wle));have ruf3:=ruf.mono (View.le_trans hW2 (View.le_trans hW3 c3.wle));have none_ : ∀(hx:Heap) (Wx:View) (l9:List Value) (o:Own),kN f b p pat temp=none->Cx W h Wx hx o->Rd Wx (.agg l9.toArray) eR->K (.tuple #[.slice none 0 0,.agg l9.toArray,.bool false]) hx:=λhx Wx l9 o e c r=>hK _ _ ⟨c.le0,_,_,by rw[e];rfl,by rw[e];exact aO,by rw[e];exact r.mono c.wle⟩;refine ab λz hz=>?_;cases hpl:dA f b p with
 | false=>
  have e:kN f b p pat temp=none:=by unfold kN;rw[hpl];rfl
  simp;refine ay (t:=T.gw) (z:=.agg endZ.toArray) (places:=[(0,1),(1,1),(2,1),(3,1),(4,1)]) (vs:=[]) (cs:=endZ.toArray) Ya Ya Sa Ya ?_;refine c3.bD (k:=(0,0)) (n:=4) (l:=endZ) Ri mP rfl rfl Ya rfl rfl λh9 l9 hl9 c9=>?_;have hall:=c9.all (k:=(0,0)) (n:=4) (l:=l9) (B:=R) (e:=T.gw) Ri;simp at hall;simp[hall];exact none_ _ _ _ _ e c9 (hl9▸mP)
 | true=>
  simp[huf3];refine ah Ya (oy ruf3 hsm) ?_;rintro _ h4 ⟨rfl,hle4⟩;have c4:=c3.ext hle4;have hW4:=c3.up (h':=h4);cases hrt:kY f with
  | false=>
   have e:kN f b p pat temp=none:=by unfold kN;rw[hpl,hrt];rfl
   have hrt2:decide ((jO f).1=0)=false:=hrt;simp[hrt2];refine ay (t:=T.gw) (z:=.agg endZ.toArray) (places:=[(0,1),(1,1),(2,1),(3,1),(4,1)]) (vs:=[]) (cs:=endZ.toArray) Ya Ya Sa Ya ?_;refine c4.bD (k:=(0,0)) (n:=4) (l:=endZ) Ri mP rfl rfl Ya rfl rfl λh9 l9 hl9 c9=>?_;have hall:=c9.all (k:=(0,0)) (n:=4) (l:=l9) (B:=R) (e:=T.gw) Ri;simp at hall;simp[hall];exact none_ _ _ _ _ e c9 (hl9▸mP)
  | true=>
   have hrt2:decide ((jO f).1=0)=true:=hrt;have m:=lF hrt;have e:kN f b p pat temp=tryS (fl f b p temp) pat:=by unfold kN;rw[hpl,hrt];rfl
   rw[e]at hK none_;have hpS:mJ f b p temp=fl f b p temp:=by unfold mJ;rw[hpl,if_pos rfl]
   rw[hpS]at at3;obtain⟨us,hus,rus⟩:=at3.ldN rfl (N:=13) rfl;have hus4:=hus _ (View.le_trans hW4 c4.wle);simp[hrt2];subst hz;refine ab λz hz=>?_;simp[hus4];refine ah Ya (xW c4.wle (rus.mono hW4) m hsm hr hM hpl hp) ?_;rintro _ h5 ⟨hle5,vf,x,rfl,hvf,hx⟩;have c5:=c4.ext hle5;simp;refine c5.eu (α:=FitD) hvf (n:=8) (z:=.agg fitZ.toArray) Ya rfl rfl Ya (λ_=>by simp) (λ_=>by simp) λB3 h6 W6 hW6 c6 at6 hle6=>?_;subst hz;refine ab λz hz=>?_;cases hq:tryS (fl f b p temp) pat with
   | none=>simp;refine ay (t:=T.gw) (z:=.agg endZ.toArray) (places:=[(0,1),(1,1),(2,1),(3,1),(4,1)]) (vs:=[]) (cs:=endZ.toArray) Ya Ya Sa Ya ?_;refine c6.bD (k:=(0,0)) (n:=4) (l:=endZ) Ri mP rfl rfl Ya rfl rfl λh9 l9 hl9 c9=>?_;have hall:=c9.all (k:=(0,0)) (n:=4) (l:=l9) (B:=R) (e:=T.gw) Ri;simp at hall;simp[hall];exact none_ _ _ _ _ hq c9 (hl9▸mP)
   | some y=>
    obtain rfl:=hx y hq;rw[hq]at hK;obtain⟨v1,k1,s1⟩:=(at6.part FitD.Jb).sl;obtain⟨v2,k2,s2⟩:=(at6.part FitD.JX).ldN rfl (N:=5) rfl;have k1:ao W6 ⟨B3,2,none⟩=some v1:=by simpa using k1
    have k2:Un.ev W6 (.bM 5) (.pointer (some ⟨B3,3,none⟩))=some v2:=by simpa using k2 W6 (View.le_refl _)
    simp;subst hz;refine ab λz hz=>?_;refine aP W6 c6.wle ?_;simp[k1,k2];refine c6.bD (k:=(0,0)) (n:=4) (l:=endZ) Ri s2 rfl rfl Ya rfl rfl λh9 l9 hl9 c9=>?_;subst hz;have hall:=c9.all (k:=(0,0)) (n:=4) (l:=l9) (B:=R) (e:=T.gw) Ri;simp at hall;simp[hall];exact hK _ _ ⟨c9.le0,_,_,rfl,s1.mono c9.wle,hl9▸s2.mono c9.wle⟩
theorem Bo{a b:ByteArray}{n:Bool}:Bn.ev (.eqS n) (.string a) (.string b)=some (.bool ((a.toList == b.toList) != n)):=rfl
end Go.Proofs.YtnfiilgdjpdlkaaGreatDoor
