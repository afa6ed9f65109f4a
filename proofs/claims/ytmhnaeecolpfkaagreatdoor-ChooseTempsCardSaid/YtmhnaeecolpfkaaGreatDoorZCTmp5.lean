/- A part of the proof: Mj, Mk, Ml, Mm, Mn, Mo, Mp, Mq, Mr, Ms, Mt, Mu, Mv, Mw, Mx, My, Mz, Na, Va, Vb. -/
import Derived.Test.YtmhnaeecolpfkaaGreatDoorZCTmp4
set_option linter.unusedSimpArgs false
set_option linter.unusedVariables false
open Go.Value renaming int->Vz,slice->VE,pointer->VF
open Go.IntKind renaming i64->VA
open Option renaming some->VC,none->VD
open Bool renaming true->VG,false->VH
open Go.Proofs.Tryz renaming prog->VI
open Go.Proofs
namespace Go.Lft
def uE(f:ak)(b:Nat)(t:Th):Bool:=decide (t.blk=b)||!nth (fg f t.blk) b
def eB(f:ak)(b:Nat)(out:List Int)(t:Th):List Int:=if uE f b t then out++t.mks else out
def gU(f:ak)(b:Nat):List Int:=(aC f).foldl (eB f b) (rows (λi=>(i:Int)) f.params.toNat)
def ym(v:Value)(l:List Int):Own:=λk=>if k=(0,0) then it T.int v l else VD
theorem AP{v v':Value}{l l':List Int}(q:Key):ym v' l' q=(ym v l).upd (0,0) (it T.int v' l') q:=by
 unfold ym Own.upd;repeat' split
 all_goals first | rfl | simp_all
theorem AT{l:List Th}{f:ak}{b c:Nat}(hl : ∀t∈l,t.mks.length<=c): ∀{out:List Int},(l.foldl (eB f b) out).length<=out.length+c*l.length:=by
 induction l with
 | nil=>intro out;simp
 | cons t l ih=>
  intro out;have h1:=ih (λt ht=>hl t (by simp[ht])) (out:=eB f b out t);have h2:(eB f b out t).length<=out.length+c:=by
   unfold eB;have:=hl t V5;split
   ·rw[Sf];omega
   omega
  rw[Sx,SL,Uh];omega
theorem Av.QS{V W:View}{v:Value}(hw:Av W v)(h:V.le W):Av V v:=λb hb=>by
 cases hv:V b with
 | none=>rfl
 | some x=>have:=h b x hv;rw[hw b hb]at this;cases this
theorem Fs{W W':View}{h:Heap}{e:TypeId}{v:Value}{l:List Int}(o:OwnT W h e v l):OwnT W' h e v l:=by obtain⟨b,xs,h1,h2⟩:=o;exact⟨b,xs,h1,λi hi=>h2 i hi⟩
theorem Qw{h:Heap}{v:Value}(ha:Av (vw h) v): ∀b,v.ownBlock=VC b->h.size<=b:=λb hb=>by have:h[b]? = none:=ha b hb;rwa [Array.getElem?_eq_none_iff]at this
theorem E8{f:ak}{b:Nat}{v:Value}{h:Heap}(hv:Rd (vw h) v f)(hsm:SmF f)(hp:0<=f.params/\f.params<=1000)(hb:b<f.blocks.length)(hmk : ∀t∈aC f,t.mks.length<=1000)(hth:(aC f).length<=1000000):
  ay VI 42 #[v,Vz VA b] h (λu h'=>(vw h).le (vw h')/\(∀b,u.ownBlock=VC b->h.size<=b)/\OwnT nothing h' T.int u (gU f b)):=by
 refine ao (args:=[v,Vz VA b]) follows Tryz.func42 E.cD Vu λK hK=>?_;dsimp only[L.cD,lkF,lkG];refine aa λz hz=>?_;simp;refine eI rfl hv λh1 _ hle1 hs1 hat=>?_;obtain⟨cp,vb,cb⟩:=fh hat;obtain⟨uf,huf,hufr⟩:=hat.bI rfl;have huf:Un.ev (vw h1) (.bI 2) (ptz h.size)=VC uf:=huf;generalize h.size=B at cp cb huf;subst hz;refine aa λz hz=>?_;simp;refine(Owns.start (h:=h1) (View.le_refl (vw h1))).mQ (k:=(0,0)) (α:=Int) rfl El.aZ λvo h2 hle2 hvo w2 _=>?_;have w2:Owns (vw h1) h2 (ym vo []):=w2.congr λq=>by unfold ym Own.upd;split<;>rfl
 subst hz;refine aa λz hz=>?_;simp;obtain⟨n,hn⟩ : ∃n:Nat,n=f.params.toNat:=⟨_,rfl⟩;have hpn:f.params=n:=by omega
 rw[hpn]at cp;refine dy [0,1,2,5,6] (fun(vo:Value) i=>[v,Vz VA b,ptz B,vo,Vz VA i]) (λvo i h3=>Owns (vw h1) h3 (ym vo (rows (λi=>(i:Int)) i))) n vo
  rfl V4 rfl w2 (λ_ _=>rfl) (λv k h3 hk m=>by simp[ae m.wle cp]) ?_ ?_
 ·rintro vo i h3 hlt w3 K2 hK2;simp;refine w3.fW (k:=(0,0)) (α:=Int) (v:=vo) (l:=rows (λi=>(i:Int)) i) (d:=(i:Int)) rfl El.aZ rfl (bu.2 ⟨rfl,by constructor<;>omega⟩) Vt Vt (λ_=>rfl) (λ_=>rfl) λu v' h4 w4 _=>?_;refine hK2 v' _ _ rfl rfl (w4.congr λq=>?_);rw[fJ];exact AP q
 rintro vo h3 w3;simp;subst hz;refine aa λz hz=>?_;have huf3:Un.ev (vw h3) (.bI 2) (ptz B)=VC uf:=by have:=dW (ρ:=λ_=>VD) (e:=.un (.bI 2) (.con (ptz B))) w3.wle (by simpa using huf);simpa using this
 simp[huf3];refine ah V0 (vQ hufr w3.wle hsm) ?_;rintro vt h4 ⟨hle4,hst⟩;have w4:=w3.ext hle4;have hW4:=bC (h':=h4) w3.wle;generalize grow (vw h1) h3 h4=W4 at hst w4 hW4;subst hz;refine aa λz hz=>?_;simp;have hsd:gU f b=(aC f).foldl (eB f b) (rows (λi=>(i:Int)) n):=by rw[hn];rfl
 have hlen : ∀i,((List.take i (aC f)).foldl (eB f b) (rows (λi=>(i:Int)) n)).length<=1001001000:=λi=>by
  have h1:=AT (l:=List.take i (aC f)) (f:=f) (b:=b) (c:=1000) (λt ht=>hmk t (List.mem_of_mem_take ht)) (out:=rows (λi=>(i:Int)) n);have h2:(List.take i (aC f)).length<=(aC f).length:=by simp;omega
  rw[qd]at h1;omega
 generalize rows (λi=>(i:Int)) n=base at w4 hsd hlen;have tb:=hst.bound;refine dy [0,1,2,5,7,8] (fun(vo:Value) i=>[v,Vz VA b,ptz B,vo,vt,Vz VA i]) (λvo i h5=>∃W,W4.le W/\Owns W h5 (ym vo ((List.take i (aC f)).foldl (eB f b) base))) (aC f).length vo
  rfl V4 rfl ⟨W4,View.le_refl _,w4⟩ (λ_ _=>rfl) (λv k h5 hk ⟨W,q1,q2⟩=>by simp[hst.len]) ?_ ?_
 ·rintro vo i h5 hlt ⟨W5,hW5,w5⟩ K2 hK2;have hst5:=hst.mono hW5;have hl5:=hlen i;have hsucc:(List.take (i+1) (aC f)).foldl (eB f b) base=eB f b ((List.take i (aC f)).foldl (eB f b) base) (nth (aC f) i):=by rw[Si hlt,SY,az hlt];rfl
  generalize (List.take i (aC f)).foldl (eB f b) base=out at w5 hsucc hl5;have hat5:=hst5.at hlt;rw[<-az hlt]at hat5;have hmt:=hmk _ (bh hlt);generalize nth (aC f) i=t at hat5 hsucc hmt;have hblk:aq W5 (((slA vt).add (i*4)).add 0)=VC (Vz VA t.blk):=(hat5.part Th.OA).int;obtain⟨vm,hvm⟩:=(hat5.part Th.Ox).sl;have hvm1:aq W5 (((slA vt).add (i*4)).add 2)=VC vm:=hvm.1;have hvm2:=hvm.2;have h64:=(hat5.part Th.OA).rng;simp only[aX];refine aa λy hy=>?_;simp;subst hy;refine aa λy hy=>?_;have fin : ∀(h6:Heap) (ρ:Env) (W6:View),W5.le W6->Owns W6 h6 (ym vo out)->Lft.look ρ 0=VC v->Lft.look ρ 1=VC (Vz VA b)->Lft.look ρ 2=VC (ptz B)->Lft.look ρ 5=VC vo->Lft.look ρ 7=VC vt->Lft.look ρ 8=VC (Vz VA i)->Lft.look ρ 9=VC (.bool (uE f b t))->
    LC.wp VI y (eY 3 (fL K2 (eY 2 (fL (LC.wp VI z (dR [.tmp 4] K)) (dR [.tmp 4] K))))) ρ h6:=by
   intro h6 ρ W6 hW6 w6 r0 r1 r2 r5 r7 r8 r9;subst hy;refine aa λy hy=>?_;simp[af,ag,r9];subst hy;have hsp:eB f b out t=if uE f b t then out++t.mks else out:=rfl;rw[hsp]at hsucc;by_cases ca:uE f b t=VG
   ·rw[if_pos ca]at hsucc;refine aV (by simp[af,ag,ca]) ?_;have hst6:=hst5.mono (Vx hW6 w6.wle);simp(disch:=omega)[af,ag,r0,r1,r2,r5,r7,r8,hst6.idxn (N:=4) rfl,ae (Vx hW6 w6.wle) hvm1];refine w6.dA (k:=(0,0)) (α:=Int) (v:=vo) (l:=out) (l2:=t.mks) rfl El.aZ rfl rfl ((hvm2.mono hW6).src w6.wle) V4 V4 λv' h7 w7 _=>?_;refine hK2 v' _ _ ?_ ?_ ⟨W6,Vx hW5 hW6,w7.congr λq=>?_⟩
    ·simp[af,ag,r8]
    ·simp[aY,af,ag,r0,r1,r2,r5,r7,r8]
    rw[hsucc];exact AP q
   rw[if_neg ca]at hsucc;refine bg (by simp[af,ag,ca]) ?_;simp;refine hK2 vo _ _ ?_ ?_ ⟨W6,Vx hW5 hW6,by rw[hsucc];exact w6⟩
   ·simp[af,ag,r8]
   simp[aY,af,ag,r0,r1,r2,r5,r7,r8]
  refine aa λx hx=>?_;simp(disch:=omega)[(hst5.mono w5.wle).idxn (N:=4) rfl,ae w5.wle hblk];subst hx;by_cases cb:t.blk=b
  ·refine bg (by simp[cb]) ?_;simp;refine fin h5 _ W5 Vw w5 ?_ ?_ ?_ ?_ ?_ ?_ ?_;all_goals simp[uE,cb]
  refine aV (by simp[cb]) ?_;refine aa λx hx=>?_;have hf5:Rd (vw h5) uf f:=hufr.mono (Vx hW4 (Vx hW5 w5.wle));have huf5:Un.ev (vw h5) (.bI 2) (ptz B)=VC uf:=by have:=dW (ρ:=λ_=>VD) (e:=.un (.bI 2) (.con (ptz B))) (Vx hW4 (Vx hW5 w5.wle)) (by simpa using huf);simpa using this
  refine aN (vw h5) Vw ?_;simp(disch:=omega)[(hst5.mono w5.wle).idxn (N:=4) rfl,ae w5.wle hblk,huf5];refine ah V0 (zx hf5 (by have:=hsm.len;omega)) ?_;rintro ur h6 ⟨hle6,hur⟩;have w6:=w5.ext hle6;have hW6:=bC (h':=h6) w5.wle;have hur6:SlRd (vw h6) ur (fg f t.blk):=hur.mono (mO h5 h6);have hrl:(fg f t.blk).length=f.blocks.length:=vV;subst hx;simp(disch:=omega)[hur6.idx1 rfl,hur6.bool Vw];refine fin h6 _ _ hW6 w6 ?_ ?_ ?_ ?_ ?_ ?_ ?_;all_goals simp[uE,cb]
 rintro vo h5 ⟨W5,hW5,w5⟩;rw[SF,<-hsd]at w5;simp;subst hz;simp;have hX:(vw h).le W5:=Vx hle1 (Vx hW4 hW5);exact hK _ _ ⟨Vx hX w5.wle,Qw (Av.QS (w5.av (0,0) _ rfl) hX),Fs (w5.get (k:=(0,0)) (v:=vo) rfl)⟩
theorem zt{P:Program}{Q:Post}{ρ:Env}{h:Heap}{a i c:Nat}{ks ks2:List Nat}{ce:E}{body:LC}{σ:Type}(kp:List Nat)(vals:σ->Nat->List Value)(J:σ->Nat->Heap->Prop)(n:Nat)(d:Nat)(s0:σ)
  (hok:xR kp ks ks2 c i=VG) (hn:n+d<=9223372036854775806) (h0:aY kp ρ=kp.zip (vals s0 0)) (hj:J s0 0 h)
  (hi : ∀s k,look (kp.zip (vals s k)) i=VC (Vz VA ((k+d:Nat):Int)))
  (hb : ∀s k h,k<=n->J s k h->ev (look (kp.zip (vals s k))) (vw h) ce=VC (.bool (decide (k<n))))
  (round : ∀s k h,k<n->J s k h->∀K:Env->Heap->Prop,(∀s' ρ' h',look ρ' i=VC (Vz VA ((k+d:Nat):Int))->aY kp (setE ρ' i (Vz VA (((k+d:Nat):Int)+1)))=kp.zip (vals s' (k+1))->J s' (k+1) h'->K ρ' h')->body.wp P (fL K (eY a Q)) (kp.zip (vals s k)) h)
  (done : ∀s h,J s n h->Q .normal (kp.zip (vals s n)) h):LC.wp P (forC a i c ks ks2 ce body) (eY a Q) ρ h:=by
 simp only[xR,SR,Se,Tm,bne_iff_ne,S1,beq_iff_eq,ne_eq]at hok;refine js kp (λm ρ h=>∃s k,k<=n/\ρ=kp.zip (vals s k)/\m=n-k/\J s k h) n ⟨s0,0,by omega,h0,by omega,hj⟩ ?_;rintro m ρ h ⟨s,k,hk,rfl,rfl,hJ⟩ K hK;have hkill:cK (kp.zip (vals s k)) ks=kp.zip (vals s k):=nU λp hp=>(hok p.1 (zip_fst hp)).1.1;have hne : ∀p∈kp.zip (vals s k),p.1≠c:=λp hp=>(hok p.1 (zip_fst hp)).1.2;have hk2 : ∀v,cK (setE (kp.zip (vals s k)) c v) [c]=kp.zip (vals s k):=λv=>nZ hne;have hlk : ∀v,look (setE (kp.zip (vals s k)) c v) c=VC v:=λv=>by rw[af,if_pos rfl]
 simp only[wI,nK,kN,iQ,mS,pA,hb s k h hk hJ,SA,lA,oV,true_and,dC,hkill,gp,oE,rY,hlk,nG,hk2,wG,we,ry,qA,if_true];refine⟨λhlt=>?_,λhge=>?_⟩
 ·have hlt':k<n:=by omega
  rw[oW];refine round s k h hlt' hJ _ λs' ρ' h' hl he hJ'=>?_;simp only[nK,kN,iQ,mS,pA,nO,rY,hl,oV,true_and,SA,Ce,SA,C3,lA,dC,gp,true_and];rw[bj V4 V4];refine hK (n-(k+1)) _ _ V4 ⟨s',k+1,by omega,?_,rfl,hJ'⟩;rw[<-he];refine pK λt ht=>?_;rw[af,af,ag];split
  ·rfl
  rename_i hti;rcases(hok t ht).2 with e | e
  ·exact absurd e.symm hti
  rw[e];rfl
 have:k=n:=by omega
 subst this;exact done s h hJ
open Classical in
/-- Several of one's own, written no more. -/
theorem Owns.AN{W:View}{h:Heap}{o:Own}(w:Owns W h o)(S:Key->Bool) :
  ∃W':View,W.le W'/\Owns W' h (λk=>if S k then VD else o k)/\∀{k:Key} {α:Type} [r:Rep α] {e:TypeId} {v:Value} {l:List α},S k=VG->o k=it e v l->SlRd W' v l:=by
 have hle:W.le (λb=>if ∃k i,S k=VG/\o k=VC i/\i.v.ownBlock=VC b then h[b]? else W b):=λb x hb=>by
  show(if _ then _ else _)=_;rw[if_neg]
  ·exact hb
  rintro⟨k,i,_,h2,h3⟩;rw[w.av k i h2 b h3]at hb;cases hb
 refine⟨λb=>if ∃k i,S k=VG/\o k=VC i/\i.v.ownBlock=VC b then h[b]? else W b,hle,?_,?_⟩
 ·refine⟨λb x hb=>?_,λk i hk=>?_,λk i hk b hb=>?_,λk k' i i' b hk hk'=>?_⟩
  ·split at hb
   ·exact hb
   exact w.wle b x hb
  ·split at hk
   ·cases hk
   exact @OwnT.mono i.α i.rep _ _ _ _ _ (w.own k i hk) _ hle
  ·split at hk
   ·cases hk
   rename_i hs;show(if _ then _ else _)=_;rw[if_neg]
   ·exact w.av k i hk b hb
   rintro⟨k',i',h1,h2,h3⟩;exact hs (w.dj k k' i i' b hk h2 hb h3▸h1)
  split at hk
  ·cases hk
  split at hk'
  ·cases hk'
  exact w.dj k k' i i' b hk hk'
 intro k α r e v l hs hk;refine(w.get hk).rd hle λb hb=>?_;rw[if_pos ⟨k,_,hs,hk,hb⟩]
theorem Owns.nils{W:View}{h:Heap}{o o':Own}(w:Owns W h o)(ho : ∀k i,o' k=VC i->o k=VC i\/(i.v = VE VD 0 0/\@OwnT i.α i.rep W h i.e i.v i.l)):Owns W h o':=by
 have hnb : ∀{i:Item} {b:Nat},i.v = VE VD 0 0->i.v.ownBlock=VC b->False:=λe hb=>by rw[e]at hb;simp[Value.ownBlock]at hb
 refine⟨w.wle,λk i hk=>?_,λk i hk b hb=>?_,λk k' i i' b hk hk' hb hb'=>?_⟩
 ·rcases ho k i hk with h1 | ⟨_,h1⟩
  ·exact w.own k i h1
  exact h1
 ·rcases ho k i hk with h1 | ⟨e,_⟩
  ·exact w.av k i h1 b hb
  exact(hnb e hb).elim
 rcases ho k i hk with h1 | ⟨e,_⟩
 ·rcases ho k' i' hk' with h2 | ⟨e,_⟩
  ·exact w.dj k k' i i' b h1 h2 hb hb'
  exact(hnb e hb').elim
 exact(hnb e hb).elim
abbrev TgS:=List (List Int) × MS
def nv(x:TgS)(p b:Nat)(m:MS):TgS:=(x.1.set p (nth x.1 p++[(b:Int)]),m)
def tgA(s:List Int)(k:Nat)(x:TgS):TgS:=
 if aG s x.2.at_ 3=0 then nv x (aG s (x.2.at_+1) ((k+1:Nat):Int)).toNat (k+1) x.2.took.took
 else nv x k (k+1) x.2.took
def tgI(s:List Int)(n b:Nat)(x:TgS):TgS:=
 let t:=1+aG s x.2.at_ ((n:Int)-1)
 if t<=b then
  if aG s (x.2.at_+1) 2=0 then nv x b (min (b+1) (n-1)) x.2.took.took else nv x b t.toNat x.2.took.took
 else nv x b t.toNat x.2.took
def tgB(s:List Int)(n b:Nat)(x:TgS):TgS:=up (λ_=>tgI s n b) (if 1<n then(aG s x.2.at_ 6-3).toNat else 0) (x.1,x.2.took)
def sC(s:List Int)(n:Nat)(m:MS):TgS:=up (tgB s n) n (up (tgA s) (n-1) (List.replicate n [],m))
structure TgO(ri:Own)(o:Own)(vo:Value)(l:List (List Int))(rv:List Raw):Prop where
 res : ∀k:Key,8<=k.1->o k=ri k
 top:o (3,0)=it T.aZ vo rv
 len:rv.length=l.length
 row : ∀i,i<l.length->o (4,i)=it T.int (nth rv i).v (nth l i)
 els : ∀k:Key,3<=k.1->k.1<8->k≠(3,0)->(∀i,i<l.length->k≠(4,i))->o k=VD
theorem TgO.put{ri:Own}{o:Own}{vo:Value}{l:List (List Int)}{rv:List Raw}(q:TgO ri o vo l rv){p:Nat}(hp:p<l.length){v':Value}{r:List Int}:TgO ri ((o.upd (4,p) (it T.int v' r)).upd (3,0) (it T.aZ vo (rv.set p ⟨v'⟩))) vo (l.set p r) (rv.set p ⟨v'⟩):=by
 have hpr:p<rv.length:=by rw[q.len];exact hp
 refine⟨λk hk=>(Own.aB (by rintro rfl;simp at hk)).trans ((Own.aB (by rintro rfl;simp at hk)).trans (q.res k hk)),Own.an,by simp[q.len],λi hi=>?_,λk h1 h8 h2 h3=>?_⟩
 ·have hi:i<l.length:=by simpa using hi
  have hir:i<rv.length:=by rw[q.len];exact hi
  rw[Own.aB V5,bs hir,bs hi];by_cases e:p=i
  ·subst e;rw[Own.an,if_pos rfl,if_pos rfl]
  rw[Own.aB (λe2=>e (by injection e2 with _ e2;exact e2.symm)),if_neg e,if_neg e];exact q.row i hi
 have h3 : ∀i,i<l.length->k≠(4,i):=λi hi=>h3 i (by simpa using hi);rw[Own.aB h2,Own.aB (h3 p hp)];exact q.els k h1 h8 h2 h3
def Tg(ri:Own)(s:List Int)(M:Nat)(vs:Value)(W:View)(vo:Value)(h:Heap)(x:TgS):Prop:=∃W' o rv,W.le W'/\Mk s M vs W' h o x.2/\TgO ri o vo x.1 rv
section
variable{s:List Int}{M:Nat}{vs:Value}{W:View}{vo:Value}{h:Heap}{x:TgS}{ri:Own}
theorem Tg.take(t:Tg ri s M vs W vo h x){c:Nat}(hm:x.2.ok c)(hc:c<=1000000){k:Int}(hk:0<k)(hk2:k<=1000000000) :
  ay VI 34 #[ptz M,Vz VA k] h (λv h'=>v = Vz VA (aG s x.2.at_ k)/\Tg ri s M vs W vo h' (x.1,x.2.took)):=by obtain⟨W',o,rv,g,w,q⟩:=t;refine(w.take (by have:=hm.at_;omega) hk hk2).mono ?_;rintro v h' ⟨e,o',w',f⟩;exact⟨e,W',o',rv,g,w',λk hk=>(f k V4).trans (q.res k hk),(f _ V6).trans q.top,q.len,λi hi=>(f _ (by show 3<=4;decide)).trans (q.row i hi),λk h1 h8 h2 h3=>(f _ h1).trans (q.els k h1 h8 h2 h3)⟩
theorem Tg.idx(t:Tg ri s M vs W vo h x){k:IntKind}{i:Int}(h0:0<=i)(h1:i<x.1.length):Bn.ev (.idx 1) vo (.int k i)=VC (VF (VC ((slA vo).add i.toNat))):=by obtain⟨W',o,rv,g,w,q⟩:=t;exact(w.own.now q.top).idx1 rfl h0 (by rw[q.len];exact h1)
theorem Tg.put{po po2 po3:OP}(t:Tg ri s M vs W vo h x){p:Nat}(hp:p<x.1.length)(hl:(nth x.1 p).length<=1000000){b:Nat}(hb:b<=1000000) :
  ∃v:Value,aq (vw h) ((slA vo).add p)=VC v/\∀{ty ty2 ty3:TypeId} {a a1 a2:Operand} {c1 c2:Operand} {us:List (Nat × Value)} {us2:Value->List (Nat × Value)} {us3:Value->Value->List (Nat × Value)} {K:Value->Value->Value->Heap->Prop},
   asg us a = Vz VA b->(∀u,asg (us2 u) a1=v)->(∀u,asg (us2 u) a2=u)->(∀u v',asg (us3 u v') c1 = VF (VC ((slA vo).add p)))->(∀u v',asg (us3 u v') c2=v')->(∀u v' h',Tg ri s M vs W vo h' (nv x p b x.2)->K u v' undef h')->
   @Lft.step po VI (.buildSlice T.aZ 1 #[(0,a)]) ty us h λu h2=>@Lft.step po2 VI (.call ⟨.builtin .append,#[a1,a2],#[T.aZ,T.aZ]⟩) ty2 (us2 u) h2 λv' h3=>@Lft.step po3 VI (.store T.aZ c1 c2) ty3 (us3 u v') h3 λw h4=>K u v' w h4:=by
 obtain⟨W',o,rv,g,w,q⟩:=t;have hpr:p<rv.length:=by rw[q.len];exact hp
 have hcell:=((w.own.now q.top).at hpr).raw;have hn:Rep.n Raw=1:=rfl;rw[hn,SX,<-az hpr]at hcell;refine⟨_,hcell,fun{ty ty2 ty3 a a1 a2 c1 c2 us us2 us3 K} ha ha1 ha2 hc1 hc2 hK=>?_⟩;refine w.own.fW (k:=(4,p)) (α:=Int) (d:=(b:Int)) (q.row p hp) El.aZ ha (bu.2 ⟨rfl,by constructor<;>omega⟩) V4 V4 ha1 ha2 λu v' h3 w3 _=>?_;have hv:=(w3.cells (k:=(4,p)) Own.an).2;refine w3.bJ (k:=(3,0)) (α:=Raw) (v:=vo) (l:=rv) (i:=p) (d:=⟨v'⟩) ((Own.aB V5).trans q.top) V0 (by rw[hc1,hn,SX]) (hc2 u v') hpr (iT.2 ⟨rfl,hv⟩) λh4 w4 _=>hK u v' h4 ?_;obtain⟨vb,vl,lb,bb⟩:=w.box;exact⟨W',_,_,g,⟨w4,w.src,vb,vl,lb,bb.frame λk hk=>by rw[Own.aB (by rintro rfl;simp at hk),Own.aB (by rintro rfl;simp at hk)]⟩,q.put hp⟩
end
theorem xl{x:TgS}{p b:Nat}{m:MS}:(nv x p b m).1.length=x.1.length:=by simp[nv]
theorem I7{x:TgS}{p b c:Nat}{m:MS}(h : ∀i,(nth x.1 i).length<=c) : ∀i,(nth (nv x p b m).1 i).length<=c+1:=by
 intro i;have hi:=h i;rcases Sb i x.1.length with hl | hl
 ·show(nth (x.1.set p _) i).length<=_;rw[bs hl];split
  ·rename_i e;subst e;rw[Sf,Su];omega
  omega
 rw[bK (by rw[xl];exact hl)];show 0<=_;omega
structure TgK(n c:Nat)(x:TgS):Prop where
 len:x.1.length=n
 row : ∀i,(nth x.1 i).length<=c
 ok:x.2.ok c
theorem TgK.mono{n c d:Nat}{x:TgS}(h:TgK n c x)(hd:c<=d):TgK n d x:=⟨h.len,λi=>St (h.row i) hd,h.ok.mono hd⟩
theorem TgK.put{n c p b:Nat}{x:TgS}{m:MS}(h:TgK n c x)(hm:m.ok (c+2)):TgK n (c+2) (nv x p b m):=⟨xl.trans h.len,λi=>by have:=I7 (p:=p) (b:=b) (m:=m) h.row i;omega,hm⟩
theorem O9{s:List Int}{n c k:Nat}{x:TgS}(h:TgK n c x):TgK n (c+2) (tgA s k x):=by
 unfold tgA;split
 ·exact h.put h.ok.took.took
 exact h.put (h.ok.took.mono V4)
theorem Pe{s:List Int}{n c b:Nat}{x:TgS}(h:TgK n c x):TgK n (c+2) (tgI s n b x):=by
 unfold tgI;simp only;repeat' split
 ·exact h.put h.ok.took.took
 ·exact h.put h.ok.took.took
 exact h.put (h.ok.took.mono V4)
theorem Cj{s:List Int}{n c:Nat}{x:TgS}(h:TgK n c x) : ∀k,TgK n (c+2*k) (up (tgA s) k x)
 | 0=>h
 | k+1=>(O9 (Cj h k)).mono V4
theorem GJ{s:List Int}{n c b:Nat}{x:TgS}(h:TgK n c x) : ∀k,TgK n (c+2*k) (up (λ_=>tgI s n b) k x)
 | 0=>h
 | k+1=>(Pe (GJ h k)).mono V4
theorem PN{s:List Int}{n c b:Nat}{x:TgS}(h:TgK n c x):TgK n (c+10) (tgB s n b x):=by unfold tgB;have ht:=bU (s:=s) (at_:=x.2.at_) (n:=6) V6;have h1:TgK n (c+1) (x.1,x.2.took):=⟨h.len,λi=>by have:=h.row i;show(nth x.1 i).length<=_;omega,h.ok.took⟩;refine(GJ h1 _).mono ?_;split<;>omega
theorem Gj{s:List Int}{n c:Nat}{x:TgS}(h:TgK n c x) : ∀k,TgK n (c+10*k) (up (tgB s n) k x)
 | 0=>h
 | k+1=>(PN (Gj h k)).mono V4
theorem GI{s:List Int}{M:Nat}{vs:Value}{W:View}{h:Heap}{o:Own}{m:MS}{ri:Own}(w:Mk s M vs W h o m)(hres : ∀k:Key,8<=k.1->o k=ri k)(ho : ∀k:Key,3<=k.1->k.1<8->o k=VD){n c:Nat}(hm:m.ok c)(hc:c<=1000)(hn1:1<=n)(hn2:n<=100) :
  ay VI 35 #[ptz M,Vz VA n] h (λu h'=>∃W' o',W.le W'/\Mk s M vs W' h' o' (sC s n m).2/\(∀k:Key,8<=k.1->o' k=ri k)/\(∀k:Key,3<=k.1->k.1<8->o' k=VD)/\SlRd W' u (sC s n m).1):=by
 refine ao (args:=[ptz M,Vz VA n]) follows Tryz.func35 E.aQ Vu λK hK=>?_;have htd:sC s n m=_:=rfl;dsimp only[L.aQ,lkF,lkG];refine aa λz hz=>?_;simp;subst hz;refine aa λz hz=>?_;simp;refine oZ (α:=Raw) (W:=W) (k:=.i64) (n:=n) (d:=⟨VE VD 0 0⟩) El.lh V7 V7 ⟨rfl,rfl⟩ V4 V4 λvo h1 o1 m1 hle1 hb1=>?_;have t1:Tg ri s M vs W vo h1 (List.replicate n [],m):=by
  have w1:=w.own.add (k:=(3,0)) (ho _ V6 V6) o1 hle1 (λb hb=>by rw[hb1]at hb;cases hb;exact RX _);have w2:=w1.nils (o':=λk=>if k.1=4/\k.2<n then it T.int (VE VD 0 0) ([]:List Int) else o.upd (3,0) (it T.aZ vo (List.replicate n (Raw.mk (VE VD 0 0)))) k) λk i hk=>by
   split at hk
   ·cases hk;exact .inr ⟨rfl,OwnT.nil (α:=Int) W h1 T.int⟩
   exact .inl hk
  obtain⟨vb,vl,lb,bb⟩:=w.box;refine⟨W,_,List.replicate n ⟨VE VD 0 0⟩,View.le_refl _,⟨w2,w.src,vb,vl,lb,bb.frame λk hk=>?_⟩,?_,rfl,by simp,λi hi=>?_,λk h1 h8 h2 h3=>?_⟩
  ·have h4:¬(k.1=4/\k.2<n):=by omega
   show(if _ then _ else _)=_;rw[if_neg h4,Own.aB (by rintro rfl;simp at hk)]
  ·intro k hk;show(if _ then _ else _)=_;rw[if_neg V4,Own.aB (by rintro rfl;simp at hk),hres k hk]
  ·have hi:i<n:=by simpa using hi
   show(if _ then _ else _)=_;rw[if_pos ⟨rfl,hi⟩,aD hi,aD hi]
  show(if _ then _ else _)=_;rw[if_neg,Own.aB h2,ho k h1 h8];rintro⟨e1,e2⟩;refine h3 k.2 (by simpa using e2) ?_;rw[<-e1]
 have k1:TgK n c (List.replicate n [],m):=⟨by simp,λi=>by
  rcases Sb i n with hi | hi
  ·rw[aD hi];show 0<=_;omega
  rw[bK (by simpa using hi)];show 0<=_;omega,hm⟩;clear m1 o1 w ho;obtain⟨x0,hx0⟩ : ∃x0:TgS,x0=(List.replicate n [],m):=⟨_,rfl⟩;rw[<-hx0]at t1 k1;have htd:sC s n m=up (tgB s n) n (up (tgA s) (n-1) x0):=by rw[hx0];rfl
 clear hx0;subst hz;refine aa λz hz=>?_;simp;refine zt [0,1,5,6] (fun(_:Unit) k=>[ptz M,Vz VA n,vo,Vz VA ((k+1:Nat):Int)]) (λ_ k h2=>Tg ri s M vs W vo h2 (up (tgA s) k x0)) (n-1) 1 ()
  rfl V4 rfl t1 (λ_ _=>rfl) (λv k h2 hk m=>by simp;omega) ?_ ?_
 ·rintro _ k h2 hlt t2 K2 hK2;have kx:=Cj (s:=s) k1 k;have e2:up (tgA s) (k+1) x0=tgA s k (up (tgA s) k x0):=rfl;rw[e2]at hK2;generalize up (tgA s) k x0=x at t2 kx hK2;have hxl:=kx.len;simp only[aX];refine aa λy hy=>?_;simp;rw[show IntKind.i64.wrap (k:Int)=k from bj V4 V4];subst hy;refine aa λy hy=>?_;have fin : ∀(p:Nat) (m':MS) (h':Heap) (ρ:Env),tgA s k x=nv x p (k+1) m'->p<n->Tg ri s M vs W vo h' (x.1,m')->Lft.look ρ 0=VC (ptz M)->Lft.look ρ 1=VC (Vz VA n)->Lft.look ρ 5=VC vo->Lft.look ρ 6=VC (Vz VA ((k+1:Nat):Int))->Lft.look ρ 7=VC (Vz VA p)->
    LC.wp VI y (eY 1 (fL K2 (eY 0 (fL (LC.wp VI z (dR [.tmp 4] K)) (dR [.tmp 4] K))))) ρ h':=by
   intro p m' h' ρ e hp t r0 r1 r5 r6 r7;subst hy;obtain⟨vr,hvr,put⟩:=t.put (p:=p) (b:=k+1) (by show p<x.1.length;omega) (by have:=kx.row p;show(nth x.1 p).length<=_;omega) V4;have hix:=t.idx (k:=.i64) (i:=p) V4 (by show(p:Int)<x.1.length;omega);simp only[Sn]at hix;simp[af,ag,r0,r1,r5,r6,r7,hix,hvr];refine put V5 V8 V8 (λ_ _=>by simp) (λ_ _=>by simp) λu v' h3 t3=>?_;refine hK2 () _ _ ?_ ?_ (by rw[e];exact t3)
   ·simp[af,ag,r6]
   simp[aY,af,ag,r0,r1,r5]
  have had:tgA s k x=_:=tgA.eq_1 s k x;refine aa λw hw=>?_;simp;refine ah V0 (t2.take kx.ok V4 (k:=3) V6 V6) ?_;rintro _ h3 ⟨rfl,t3⟩;simp;subst hw;by_cases c3:aG s x.2.at_ 3=0
  ·rw[if_pos c3]at had;refine aV (by simp[c3]) ?_;simp;refine ah V0 (t3.take kx.ok.took V4 (k:=((k+1:Nat):Int)) V4 V4) ?_;rintro _ h4 ⟨rfl,t4⟩;have hx:(x.1,x.2.took).2.at_=x.2.at_+1:=rfl;rw[hx];obtain⟨u0,u1⟩:=bU (s:=s) (at_:=x.2.at_+1) (n:=((k+1:Nat):Int)) V4;generalize aG s (x.2.at_+1) ((k+1:Nat):Int)=q at had u0 u1;refine fin q.toNat _ h4 _ had V4 t4 ?_ ?_ ?_ ?_ ?_;all_goals simp
   omega
  rw[if_neg c3]at had;refine bg (by simp[c3]) ?_;simp;refine fin k _ h3 _ had V4 t3 ?_ ?_ ?_ ?_ ?_;all_goals simp
 rintro _ h2 t2;have k2:=Cj (s:=s) k1 (n-1);generalize up (tgA s) (n-1) x0=x1 at t2 k2 htd;simp;subst hz;refine aa λz hz=>?_;simp;refine dy [0,1,5,8] (fun(_:Unit) k=>[ptz M,Vz VA n,vo,Vz VA k]) (λ_ k h3=>Tg ri s M vs W vo h3 (up (tgB s n) k x1)) n ()
  rfl V4 rfl t2 (λ_ _=>rfl) (λv k h3 hk m=>by simp) ?_ ?_
 ·rintro _ b h3 hlt t3 K2 hK2;have kx:=(Gj (s:=s) k2 b).mono (d:=3000) V4;have e3:up (tgB s n) (b+1) x1=tgB s n b (up (tgB s n) b x1):=rfl;rw[e3]at hK2;generalize up (tgB s n) b x1=x at t3 kx hK2;simp only[aX];refine aa λy hy=>?_;simp;refine ah V0 (t3.take kx.ok V4 (k:=6) V6 V6) ?_;rintro _ h4 ⟨rfl,t4⟩;have hbd:tgB s n b x=_:=tgB.eq_1 s n b x;obtain⟨r0,r1⟩:=bU (s:=s) (at_:=x.2.at_) (n:=6) V6;generalize aG s x.2.at_ 6=r at hbd r0 r1;have kx1:TgK n 3001 (x.1,x.2.took):=⟨kx.len,λi=>by have:=kx.row i;show(nth x.1 i).length<=_;omega,kx.ok.took⟩;obtain⟨cnt,hcnt⟩ : ∃cnt:Nat,cnt=if 1<n then(r-3).toNat else 0:=⟨_,rfl⟩;have hc3:cnt<=3:=by rw[hcnt];split<;>omega
  rw[<-hcnt]at hbd;generalize (x.1,x.2.took)=x2 at t4 kx1 hbd;subst hy;refine aa λy hy=>?_;simp;subst hy;simp only[aX];have hw3:IntKind.i64.wrap (r-3)=r-3:=bj V4 V4;refine K0 [0,1,5,8,9,10] (fun(_:Unit) k=>[ptz M,Vz VA n,vo,Vz VA b,Vz VA r,Vz VA k]) (λ_ k h5=>Tg ri s M vs W vo h5 (up (λ_=>tgI s n b) k x2)) cnt ()
   rfl V4 rfl t4 (λ_ _=>rfl) (λv k h5 hk m=>by
    by_cases hn:1<n
    ·rw[if_pos hn]at hcnt;by_cases hk2:k<cnt
     ·have e1:(k:Int)<r-3:=by omega
      simp[hw3,e1,hk2];omega
     have e1:¬(k:Int)<r-3:=by omega
     simp[hw3,e1,hk2]
    rw[if_neg hn]at hcnt;have e2:¬k<cnt:=by omega
    by_cases e1:(k:Int)<r-3
    ·simp[hw3,e1,e2];omega
    simp[hw3,e1,e2]) ?_ ?_
  ·rintro _ k h5 hltk t5 K3 hK3;have hn2:1<n:=by
    rw[hcnt]at hltk;split at hltk
    ·assumption
    omega
   have kx3:=(GJ (s:=s) (b:=b) kx1 k).mono (d:=4000) V4;have e5:up (λ_=>tgI s n b) (k+1) x2=tgI s n b (up (λ_=>tgI s n b) k x2):=rfl;rw[e5]at hK3;generalize up (λ_=>tgI s n b) k x2=x at t5 kx3 hK3;have hxl:=kx3.len;have hid:tgI s n b x=_:=tgI.eq_1 s n b x;have hwn:IntKind.i64.wrap ((n:Int)-1)=(n:Int)-1:=bj V4 V4;simp only[aX];refine aa λy hy=>?_;simp[hwn];refine ah V0 (t5.take kx3.ok V4 (k:=(n:Int)-1) V4 V4) ?_;rintro _ h6 ⟨rfl,t6⟩;obtain⟨q0,q1⟩:=bU (s:=s) (at_:=x.2.at_) (n:=(n:Int)-1) V4;generalize aG s x.2.at_ ((n:Int)-1)=q at hid q0 q1;have hwq:IntKind.i64.wrap (1+q)=1+q:=bj V4 V4;simp[hwq];subst hy;refine aa λy hy=>?_;refine gP (λρ h'=>∃(t:Nat) (m':MS) (v0 v:Value),tgI s n b x=nv x b t m'/\t<=1000/\Tg ri s M vs W vo h' (x.1,m')/\ρ=[(0,ptz M),(1,Vz VA n),(5,vo),(8,Vz VA b),(9,Vz VA r),(10,Vz VA k),(11,Vz VA t),(57,Vz VA q),(62,v0),(64,v)]) ?_ ?_
   ·intro K4 hK4;refine aa λw hw=>?_;by_cases c1:1+q<=b
    ·rw[if_pos c1]at hid;simp[c1];refine ah V0 (t6.take kx3.ok.took V4 (k:=2) V6 V6) ?_;rintro _ h7 ⟨rfl,t7⟩;have hx:(x.1,x.2.took).2.at_=x.2.at_+1:=rfl;rw[hx];simp;subst hw;by_cases c2:aG s (x.2.at_+1) 2=0
     ·rw[if_pos c2]at hid;refine aV (by simp[c2]) ?_;simp;refine hK4 _ _ ⟨min (b+1) (n-1),_,.bool VG,Vz VA (aG s (x.2.at_+1) 2),hid,by omega,t7,?_⟩;rw[hwn,show IntKind.i64.wrap ((b:Int)+1)=(b:Int)+1 from bj V4 V4];rw[show(if(n:Int)-1<(b:Int)+1 then(n:Int)-1 else(b:Int)+1)=((min (b+1) (n-1):Nat):Int) by split<;>omega]
     rw[if_neg c2]at hid;refine bg (by simp[c2]) ?_;simp;refine hK4 _ _ ⟨(1+q).toNat,_,.bool VG,Vz VA (aG s (x.2.at_+1) 2),hid,by omega,t7,?_⟩;rw[show(((1+q).toNat:Nat):Int)=1+q by omega]
    rw[if_neg c1]at hid;simp[c1];subst hw;refine bg V5 ?_;simp;refine hK4 _ _ ⟨(1+q).toNat,_,.bool VH,undef,hid,by omega,t6,?_⟩;rw[show(((1+q).toNat:Nat):Int)=1+q by omega]
   rintro _ h7 ⟨t,m',v0,v,e,ht,t7,rfl⟩;subst hy;obtain⟨vr,hvr,put⟩:=t7.put (p:=b) (b:=t) (by show b<x.1.length;omega) (by have:=kx3.row b;show(nth x.1 b).length<=_;omega) V4;have hix:=t7.idx (k:=.i64) (i:=b) V4 (by show(b:Int)<x.1.length;omega);simp only[Sn]at hix;simp[hix,hvr];refine put rfl (λ_=>rfl) (λ_=>rfl) (λ_ _=>rfl) (λ_ _=>rfl) λu v' h8 t8=>?_;exact hK3 () _ _ rfl rfl (by rw[e];exact t8)
  rintro _ h5 t5;simp;refine hK2 () _ _ rfl rfl (by rw[hbd];exact t5)
 rintro _ h3 t3;rw[<-htd]at t3;simp;subst hz;simp;refine hK _ _ ?_;obtain⟨W',o,rv,g,w,q⟩:=t3;obtain⟨W2,g2,w2,fr⟩:=w.own.AN (λk=>decide (3<=k.1)&&decide (k.1<8));obtain⟨vb,vl,lb,bb⟩:=w.box;refine⟨W2,_,Vx g g2,⟨w2,w.src.mono g2,vb,vl,lb,bb.frame λk hk=>?_⟩,?_,λk hk h8=>by simp[hk,h8],?_⟩
 ·have:¬3<=k.1:=by omega
  simp[this]
 ·intro k hk;have h1:3<=k.1:=by omega
  have h2:¬k.1<8:=by omega
  simp[h2];exact q.res k hk
 refine CG (fr (k:=(3,0)) V6 q.top) rfl q.len λi h1 h2 cs hr=>?_;obtain⟨e,_⟩:cs=[(rv[i]).v]/\_:=hr;refine⟨_,e,?_⟩;have:=fr (k:=(4,i)) V5 (q.row i h2);rwa [az h1,az h2]at this
section
structure Grw(b k:Nat)(m m':MS):Prop where
 at0:m.at_<=m'.at_
 at1:m'.at_<=m.at_+k
 n0:m.next<=m'.next
 n1:m'.next<=m.next+k
 ps:m'.ps=m.ps
 live:m'.live.length<=m.live.length+k
 len:m'.blocks.length=m.blocks.length
 els : ∀i,i≠b->nth m'.blocks i=nth m.blocks i
 ins:(nth m'.blocks b).ins.length<=(nth m.blocks b).ins.length+k
 phis:(nth m'.blocks b).phis=(nth m.blocks b).phis
 term:(nth m'.blocks b).term=(nth m.blocks b).term
variable{s:List Int}{m m' m2:MS}{b c k l:Nat}
theorem Grw.refl:Grw b 0 m m:=⟨RX _,RX _,Tf _,by omega,rfl,RX _,rfl,λ_ _=>rfl,RX _,rfl,rfl⟩
theorem Grw.trans(g:Grw b k m m')(h:Grw b l m' m2):Grw b (k+l) m m2:=
 ⟨St g.at0 h.at0,by have:=g.at1;have:=h.at1;omega,Int.le_trans g.n0 h.n0,by have:=g.n1;have:=h.n1;omega,h.ps.trans g.ps,by have:=g.live;have:=h.live;omega,h.len.trans g.len,λi hi=>(h.els i hi).trans (g.els i hi),by have:=g.ins;have:=h.ins;omega,h.phis.trans g.phis,h.term.trans g.term⟩
theorem Grw.mono(g:Grw b k m m')(h:k<=l):Grw b l m m':=
 ⟨g.at0,by have:=g.at1;omega,g.n0,by have:=g.n1;omega,g.ps,by have:=g.live;omega,g.len,g.els,by have:=g.ins;omega,g.phis,g.term⟩
theorem Grw.took(g:Grw b k m m'):Grw b (k+1) m m'.took:=g.trans ⟨by show _<=m'.at_+1;omega,RX _,Tf _,by show m'.next<=_;omega,rfl,by show m'.live.length<=_;omega,rfl,λ_ _=>rfl,by show(nth m'.blocks b).ins.length<=_;omega,rfl,rfl⟩
theorem Grw.aW(g:Grw b k m m'):Grw b (k+1) m m'.aW:=g.trans ⟨RX _,by show m'.at_<=_;omega,by show _<=m'.next+1;omega,Tf _,rfl,by show m'.live.length<=_;omega,rfl,λ_ _=>rfl,by show(nth m'.blocks b).ins.length<=_;omega,rfl,rfl⟩
theorem Grw.add{i:InsD}(hb:b<m.blocks.length)(g:Grw b k m m'):Grw b (k+2) m (m'.add b i):=by
 have hb':b<m'.blocks.length:=by rw[g.len];exact hb
 have e:nth (m'.add b i).blocks b={ nth m'.blocks b with ins:=(nth m'.blocks b).ins++[i] }:=by show nth (m'.blocks.set b _) b=_;rw[bs hb',if_pos rfl]
 refine g.trans ⟨RX _,by show m'.at_<=_;omega,Tf _,by show m'.next<=_;omega,rfl,?_,mF,λj hj=>?_,?_,by rw[e],by rw[e]⟩
 ·show(m'.live++bz i).length<=_;have h2:(bz i).length<=2:=by
   unfold bz;repeat' split
   all_goals simp
  rw[Sf];omega
 ·show nth (m'.blocks.set b _) j=_;rcases Sb j m'.blocks.length with hl | hl
  ·rw[bs hl,if_neg (λe=>hj e.symm)]
  rw[bK (by simpa using hl),bK hl]
 rw[e];show((nth m'.blocks b).ins++[i]).length<=_;rw[Sf,Su];omega
theorem Grw.constant{n:Int}(hb:b<m.blocks.length)(g:Grw b k m m'):Grw b (k+3) m (m'.constant b n):=g.aW.add hb
theorem Grw.two{op x y:Int}(hb:b<m.blocks.length)(g:Grw b k m m'):Grw b (k+3) m (m'.two b op x y):=g.aW.add hb
theorem Grw.fw(hb:b<m.blocks.length)(g:Grw b k m m'):Grw b (k+10) m (aH s m' b).2:=by
 unfold aH;repeat' split
 ·exact(g.took.took.constant hb).mono V4
 ·exact(g.took.took.took.took.took.constant hb).mono V4
 exact(g.took.took.took).mono V4
theorem Grw.addr(hb:b<m.blocks.length)(g:Grw b k m m'):Grw b (k+30) m (jO s m' b).2:=by
 unfold jO;simp only;split
 ·exact(((((g.took.constant hb).took.fw hb).constant hb).two hb).two hb).mono V4
 exact((g.took.constant hb).took).mono V4
theorem Grw.off(g:Grw b k m m'):Grw b (k+4) m (offS s m').2:=by
 unfold offS;split
 ·exact g.took.took.took.took
 exact g.took.took.mono V4
theorem Grw.memory{st:Bool}(hb:b<m.blocks.length)(g:Grw b k m m'):Grw b (k+60) m (iW s m' b st):=by
 unfold iW;simp only;split
 ·exact((((g.addr hb).off.fw hb)).add hb).mono V4
 exact(((g.addr hb).off.aW).add hb).mono V4
variable{op:Int}
theorem Grw.bin(hb:b<m.blocks.length)(g:Grw b k m m'):Grw b (k+60) m (binS s m' b op):=by
 unfold binS;simp only;split
 ·exact((((g.fw hb).fw hb).took.took.constant hb).two hb).mono V4
 exact(((g.fw hb).fw hb).took.two hb).mono V4
theorem Grw.div(hb:b<m.blocks.length)(g:Grw b k m m'):Grw b (k+60) m (divS s m' b):=by
 unfold divS;simp only;split
 ·exact((((g.fw hb).took.constant hb).took.took.constant hb).two hb).mono V4
 exact(((g.fw hb).took.constant hb).took.two hb).mono V4
theorem Grw.args(hb:b<m.blocks.length){x:List Int × MS}(g:Grw b k m x.2) : ∀n,Grw b (k+10*n) m (up (fR s b) n x).2
 | 0=>g
 | n+1=>((Grw.args hb g n).fw hb).mono V4
theorem Grw.call(hb:b<m.blocks.length)(g:Grw b k m m'):Grw b (k+70) m (pw s m' b):=by unfold pw;simp only;have ht:=bU (s:=s) (at_:=m'.at_) (n:=5) V6;have g2:=Grw.args (s:=s) hb (x:=([],m'.took)) g.took (aG s m'.at_ 5).toNat;exact(g2.aW.took.add hb).mono V4
theorem Grw.ic(hb:b<m.blocks.length)(g:Grw b k m m'):Grw b (k+80) m (aO s b m'):=by
 unfold aO;simp only;repeat' split
 ·exact(g.took.bin hb).mono V4
 ·unfold ltuS;exact(((g.took.fw hb).fw hb).two hb).mono V4
 ·exact(g.took.div hb).mono V4
 ·exact(g.took.memory hb).mono V4
 ·exact(g.took.call hb).mono V4
 ·unfold wc;exact(((g.took.fw hb).fw hb).aW.aW.add hb).mono V4
 exact(g.took.took.took.constant hb).mono V4
theorem Grw.eV(hb:b<m.blocks.length)(g:Grw b k m m') : ∀n,Grw b (k+80*n) m (up (λ_=>aO s b) n m')
 | 0=>g
 | n+1=>((Grw.eV hb g n).ic hb).mono V4
theorem Grw.JL{to:List Int}(hb:b<m.blocks.length)(g:Grw b k m m'):Grw b (k+40) m (fl s to b m').2:=by
 unfold fl;simp only;repeat' split
 ·exact g.took.took.mono V4
 ·exact(g.took.fw hb).mono V4
 ·exact g.took.mono V4
 ·exact g.mono V4
 ·exact((((g.fw hb).took.fw hb)).aW.took.add hb).mono V4
 ·exact(g.fw hb).took.mono V4
 exact(((g.fw hb).constant hb).two hb).mono V4
def MS.f(m:MS):ak:=⟨m.ps,m.blocks⟩
def MS.jU(m:MS)(b:Nat)(l:List Int):MS:={ m with blocks:=m.blocks.set b { nth m.blocks b with term:={ (nth m.blocks b).term with to:=l } } }
def iD(s:List Int)(m:MS)(b:Nat):Int:=
 if 1<(aJ m.f b).length then aG s m.at_ 4 else if aG s m.at_ 6=0 then 1 else 0
def dE(b:Nat)(m:MS):MS:={ m.aW with blocks:=m.blocks.set b { nth m.blocks b with phis:=(nth m.blocks b).phis++[⟨m.next,[]⟩] } }
def dP(s:List Int)(k:Nat)(x:List Int × MS):List Int × MS:=
 (x.1.set (k+1) (iD s x.2 (k+1)),up (λ_=>dE (k+1)) (iD s x.2 (k+1)).toNat x.2.took)
def kT(f:ak)(n:Nat):List BL:=rows (λa=>fg f (a:Int)) n
def qO(dn:BL)(away:List BL)(b n:Nat):Bool:=up (λa r=>r&&(decide (a=b)||nth dn a||nth (nth away a) b)) n (!nth dn b)
def gWq(m:MS)(dn:BL)(away:List BL)(b:Nat)(a:Nat)(l:List Int):List Int:=
 if decide (a≠b)&&(!nth dn a||nth (nth away a) b) then l
 else l++(nth m.blocks a).phis.map PhiD.dst++(nth m.blocks a).ins.flatMap bz
def nu(m:MS)(dn:BL)(away:List BL)(b n:Nat):List Int:=up (gWq m dn away b) n (rows (λi=>(i:Int)) m.ps.toNat)
def jL(s:List Int)(to:List (List Int))(n:Nat)(dn:BL)(away:List BL)(b:Nat)(m:MS):MS:=
 let m1:MS:={ m with live:=nu m dn away b n }
 pD s (nth to b) b (up (λ_=>aO s b) (aG s m1.at_ 7).toNat m1.took)
def bo(s:List Int)(to:List (List Int))(n:Nat)(b:Nat)(x:BL × MS):BL × MS:=
 if qO x.1 (kT x.2.f n) b n then(x.1.set b VG,jL s to n (x.1.set b VG) (kT x.2.f n) b x.2) else x
def cQ(s:List Int)(p:List Int)(k:Nat)(x:List InD × MS):List InD × MS:=
 let b:=(nth p k).toNat
 let l:=gU x.2.f b
 let r:List Int × MS:=if l.length=0 then([x.2.next],x.2.took.took.constant b (jW s x.2)) else(l,x.2)
 (x.1++[⟨nth p k,nth r.1 (aG s r.2.at_ r.1.length).toNat⟩],r.2.took)
def MS.jM(m:MS)(b i:Nat)(l:List InD):MS:={ m with blocks:=m.blocks.set b { nth m.blocks b with phis:=(nth m.blocks b).phis.set i { nth (nth m.blocks b).phis i with ins:=l } } }
def phi3(s:List Int)(b:Nat)(p:List Int)(i:Nat)(m:MS):MS:=(up (cQ s p) p.length ([],m)).2.jM b i (up (cQ s p) p.length ([],m)).1
def blk3(s:List Int)(phis:List Int)(k:Nat)(m:MS):MS:=up (phi3 s (k+1) (aJ m.f ((k+1:Nat):Int))) (nth phis (k+1)).toNat m
def yu(s:List Int):MS:=⟨2,aG s 0 5,[],aG s 0 5,[]⟩
def aT(s:List Int):Nat:=(1+aG s 1 9).toNat
def fA(s:List Int):TgS:=sC s (aT s) (yu s)
def sL:BlkD:=⟨[],[],⟨0,[],[],⟨0⟩⟩⟩
def ny(s:List Int):MS:=up (λb m=>m.jU b (nth (fA s).1 b)) (aT s) { (fA s).2 with blocks:=List.replicate (aT s) sL }
def gL(s:List Int):List Int × MS:=up (dP s) (aT s-1) (List.replicate (aT s) 0,ny s)
def pM(s:List Int):BL × MS:=up (λ_=>up (bo s (fA s).1 (aT s)) (aT s)) (aT s) (List.replicate (aT s) VH,(gL s).2)
def iK(s:List Int):MS:=up (blk3 s (gL s).1) (aT s-1) (pM s).2
def sZ(s:List Int):ak:=(iK s).f
end
section
variable{s:List Int}{M:Nat}{vs:Value}{W0:View}{h:Heap}{o0:Own}{m:MS}{u:Value}{ds:List Int}
structure Reads(M:Nat)(m:MS)(h:Heap)(vb vl:Value):Prop where
 ps:aq (vw h) ⟨M,2,VD⟩=VC (Vz VA m.ps)
 nx:aq (vw h) ⟨M,4,VD⟩=VC (Vz VA m.next)
 cb:aq (vw h) ⟨M,3,VD⟩=VC vb
 cl:aq (vw h) ⟨M,5,VD⟩=VC vl
 f:Un.ev (vw h) (.bI 2) (VF (VC ⟨M,2,VD⟩))=VC (.agg #[Vz VA m.ps,vb])
 blk:SlRd (vw h) vb m.blocks
 live:SlRd (vw h) vl m.live
variable{vb vl:Value}
theorem Reads.rd(r:Reads M m h vb vl)(hp:I64 m.ps):Rd (vw h) (.agg #[Vz VA m.ps,vb]) m.f:=⟨_,rfl,[Vz VA m.ps],[vb],rfl,⟨rfl,hp⟩,vb,rfl,r.blk⟩
variable{W:View}
theorem Mk.reads{o:Own}(w:Mk s M vs W h o m){lb:List BlkM}(bb:MkB M vs m o vb vl lb):Reads M m h vb vl:=by
 have c2:aq (vw h) ⟨M,2,VD⟩=VC (Vz VA m.ps):=bb.cell w.own (i:=2) V6;have c3:aq (vw h) ⟨M,3,VD⟩=VC vb:=bb.cell w.own (i:=3) V6;refine⟨c2,bb.cell w.own (i:=4) V6,c3,bb.cell w.own (i:=5) V6,?_,?_,w.own.now bb.live⟩
 ·have hat:=w.own.zF bb.box;obtain⟨cs,⟨cur,e,fz,g1,g2,g3⟩,he,_⟩:=w.own.atW bb.box;have:gN (vw h) ⟨M,2,VD⟩ [Vz VA m.ps,vb]:=⟨cur,e,fz,rfl,g2,by
   have g3:(cur.toList.drop 0).take cs.length=cs:=g3;have he:cs=mkL vs m.at_ m.ps vb m.next vl:=he;rw[TW]at g3;have hd:cs.drop 2=(cur.toList.drop 2).take (cs.length-2):=by have:=congrArg (List.drop 2) g3;rw[TB]at this;exact this.symm
   have hl:cs.length=6:=by rw[he];rfl
   have h2:(cs.drop 2).take 2=(cur.toList.drop 2).take 2:=by rw[hd,hl,TC];rfl
   show(cur.toList.drop 2).take 2=_;rw[<-h2,he];rfl⟩;have:=gm this 2 0 #[] rfl;simp only[Un.ev,vP,SA];rw[this];simp
 refine CG (w.own.now bb.blk) rfl bb.len λi h1 h2 cs hr=>?_;have:=DS hr (p:=(nth m.blocks i).phis) (i:=(nth m.blocks i).ins) (by have:=w.own.now (bb.phis i h2);rwa [az h1]at this) (by have:=w.own.now (bb.ins i h2);rwa [az h1]at this);have ht:=bb.term i h2;rw[az h1]at ht;rw[ht]at this;rw[<-az h2];exact this
theorem Nz.reads(n:Nz s M vs W0 h o0 m u ds) : ∃vb vl,Reads M m h vb vl:=by obtain⟨W,o,g,w,f,sl⟩:=n;obtain⟨vb,vl,lb,bb⟩:=w.box;exact⟨vb,vl,w.reads bb⟩
variable{α:Type}
theorem Nz.at[Rep α](n:Nz s M vs W0 h o0 m u ds){k:Key}(h3:3<=k.1){e:TypeId}{v:Value}{l:List α}(hk:o0 k=it e v l):SlRd (vw h) v l:=by obtain⟨W,o,g,w,f,sl⟩:=n;exact w.own.now ((f k h3).trans hk)
end
theorem BlkM.Cl:Part BlkM (List Int) 4 (λd=>d.term.to) (λd x=>{ d with term:={ d.term with to:=x } }):=(Part.snd (Part.snd ((Part.snd (Part.snd (Part.fst Part.all))).via (α:=Cat Int (Cat (List Int) (Cat (List Int) I32))) (f:=λd:db=>Cat.mk d.kind (Cat.mk d.args (Cat.mk d.to d.imm))) (g':=db.to) (s':=λd x=>{ d with to:=x }) (λ_=>rfl) λ_ _=>rfl))).via (λ_=>rfl) λ_ _=>rfl
section
variable{s:List Int}{M:Nat}{vs:Value}{W0:View}{h:Heap}{o0:Own}{m:MS}{u:Value}{ds:List Int}
variable{po:OP}{α:Type}{ty:TypeId}{us:List (Nat × Value)}
theorem Nz.NL[r:Rep α](n:Nz s M vs W0 h o0 m u ds){k:Key}{e:TypeId}{i:Nat}{v:Value}{l:List α}{t:TypeId}{x y:Operand}{d:α}{w:Value}{K:Value->Heap->Prop}(h3:3<=k.1)(hk:o0 k=it e v l)(hi:i<l.length)(hsz:da VI t=VC (Rep.n α))(hx:asg us x = VF (VC ((slA v).add (i*Rep.n α))))(hy:asg us y=w)(hr : ∀W,Rd W w d)(hK : ∀h',Nz s M vs W0 h' (o0.upd k (it e v (l.set i d))) m u ds->K undef h'):@Lft.step po VI (.store t x y) ty us h K:=by
 obtain⟨W,o,g1,wk,f,sl⟩:=n;refine wk.own.bJ (k:=k) (v:=v) (l:=l) (i:=i) (d:=d) ((f k h3).trans hk) hsz hx hy hi (hr W) λh' w' _=>hK h' ?_;obtain⟨vb,vl,lb,bb⟩:=wk.box;refine⟨W,_,g1,⟨w',wk.src,vb,vl,lb,bb.frame λq hq=>Own.aB (by rintro rfl;omega)⟩,λq hq=>?_,sl⟩;unfold Own.upd;split
 ·rfl
 exact f q hq
variable{W:View}{vb vl:Value}{b:Nat}{ty2:TypeId}
theorem Mk.Qv{o:Own}(w:Mk s M vs W h o m){lb:List BlkM}(bb:MkB M vs m o vb vl lb){l:List Int}{v:Value}{x y:Operand}{K:Value->Heap->Prop}(hb:b<m.blocks.length)(hsz:da VI ty2=VC 1)(hx:asg us x = VF (VC (((slA vb).add (b*6)).add 4)))(hy:asg us y=v)(hr:SlRd W v l)(hK : ∀h' o',Mk s M vs W h' o' (m.jU b l)->(∀k:Key,3<=k.1->o' k=o k)->K undef h'):@Lft.step po VI (.store ty2 x y) ty us h K:=by
 have hbl:b<lb.length:=by rw[bb.len];exact hb
 refine w.own.tA (k:=(0,2)) (α:=BlkM) BlkM.Cl (v:=vb) (l:=lb) (i:=b) (d:=l) bb.blk hsz hx hy hbl (dw.2 hr) λh7 w7 _=>?_;have ht:=bb.term b hb;rw[az hbl]at ht;refine hK h7 _ ⟨w7,w.src,vb,vl,_,bb.iq hb (x':={ nth m.blocks b with term:={ (nth m.blocks b).term with to:=l } }) (y':={ lb[b]with term:={ lb[b].term with to:=l } }) (by rw[<-ht]) Own.an ?_ ?_ λq h1 _ _=>Own.aB h1⟩ (pU V6)
 ·rw[Own.aB V5,bb.phis b hb,az hbl]
 rw[Own.aB V5,bb.ins b hb,az hbl]
end
theorem vX{to:List (List Int)}{m:MS} : ∀k,(up (λb m=>MS.jU m b (nth to b)) k m).blocks.length=m.blocks.length
 | 0=>rfl
 | k+1=>by show(List.set _ _ _).length=_;rw[SC];exact vX k
variable{M n:Nat}{vs vt vr:Value}{W0:View}{o0:Own}{to:List (List Int)}{Q:Post}{ρ:Env}
theorem NZ{s:List Int}{h:Heap}{m:MS}(hto:SlRd W0 vt to)(hn:to.length=n)(x:Nx s M vs W0 h o0 m)(hlen:m.blocks.length=n)(hn2:n<=100)(h0:aY [2,3,4,5,6] ρ=[(2,vr),(3,ptz M),(4,Vz VA n),(5,vt),(6,Vz VA 0)])(hQ : ∀h',Nx s M vs W0 h' o0 (up (λb m=>m.jU b (nth to b)) n m)->Q .normal [(2,vr),(3,ptz M),(4,Vz VA n),(5,vt),(6,Vz VA n)] h'):
  LC.wp VI (.block 0 (.loop L.au.l1)) Q ρ h:=by
 simp only[aX];refine dy [2,3,4,5,6] (fun(_:Unit) k=>[vr,ptz M,Vz VA n,vt,Vz VA k]) (λ_ k h2=>Nx s M vs W0 h2 o0 (up (λb m=>m.jU b (nth to b)) k m)) n ()
  rfl V4 h0 x (λ_ _=>rfl) (λv k h2 hk m=>by simp) ?_ ?_
 ·rintro _ b h2 hlt x2 K2 hK2;have hlb:(up (λb m=>MS.jU m b (nth to b)) b m).blocks.length=n:=(vX b).trans hlen;have e2:up (λb m=>MS.jU m b (nth to b)) (b+1) m=(up (λb m=>MS.jU m b (nth to b)) b m).jU b (nth to b):=rfl;rw[e2]at hK2;generalize up (λb m=>MS.jU m b (nth to b)) b m=m2 at x2 hK2 hlb;obtain⟨rv,hrv⟩:=hto.rows;obtain⟨hr1,hr2⟩:=hrv b V4;obtain⟨W,o,g,w,f⟩:=x2;obtain⟨vb,vl,lb,bb⟩:=w.box;have rd:=w.reads bb;have ito:=(hto.mono g).mono w.own.wle;simp only[aX];refine aN (vw h2) Vw ?_;simp(disch:=omega)[rd.cb,rd.blk.idxn (N:=6) rfl,ito.idx1 rfl,hr1 _ (Vx g w.own.wle)];refine w.Qv bb (b:=b) (l:=nth to b) V4 V0 rfl rfl (hr2.mono g) λh3 o3 w3 f3=>?_;exact hK2 () _ _ rfl rfl ⟨W,o3,g,w3,λk hk=>(f3 k hk).trans (f k hk)⟩
 rintro _ h2 x2;exact hQ h2 x2
theorem sub_le{H K L:View}(h:H.sub K)(k:K.le L):H.sub L:=λb o hb=>by obtain⟨o',h1,h2⟩:=h b o hb;exact⟨o',k _ _ h1,h2⟩
variable{W:View}
theorem Owns.LB{h:Heap}{o:Own}{k:Key}{B:Nat}{e:TypeId}{l:List Value}(w:Owns W h o)(hk:o k=bx e B (RawN.mk (n:=n) l)): ∃cur,h[B]? = VC (.cells cur e (0,0))/\∃r,cur.toList=l++r:=by
 obtain⟨hb,xs,⟨hl,hown⟩,hel⟩:=w.get (k:=k) (v:=VE (VC ⟨B,0,VD⟩) 1 1) (l:=[RawN.mk (n:=n) l]) hk;have h0:=hel 0 V5;simp only[Um,TW,TS,Su,U8]at h0 hl;rw[Sr V4]at h0;obtain⟨h0,_,_⟩:xs=l/\_:=h0;subst h0;rcases hown with⟨h1,_⟩ | ⟨g,cap,cur,h1,h2,h3,h4,h5,h6⟩
 ·cases h1
 simp only[Value.slice.injEq,RW,Addr.mk.injEq]at h1;obtain⟨⟨rfl,_⟩,_⟩:=h1;refine⟨cur,h2,cur.toList.drop (1*Rep.n (RawN n)),?_⟩;have h6:cur.toList.take (1*Rep.n (RawN n))=xs:=by simpa using h6
 rw[<-h6,TY]
section
variable{s:List Int}{M:Nat}{vs:Value}{W:View}{h:Heap}{o:Own}{m:MS}{vb vl:Value}{lb:List BlkM}
theorem MkB.JS(w:Owns W h o)(bb:MkB M vs m o vb vl lb): ∃H:View,H.sub (vw h)/\aq H ⟨M,3,VD⟩=VC vb/\SlRd H vb lb/\
  ∀h2 o2,Owns W h2 o2->MkB M vs m.aW o2 vb vl lb->(∀X:View,X.le (vw h)->X M=VD->X.le (vw h2))->∃X:View,H.sub X/\W.le X/\X.le (vw h2)/\SlRd X vb lb/\∀i,i<m.blocks.length->Av X (nth lb i).phis.v:=by
 obtain⟨cur,hM,r,hr⟩:=Owns.LB w bb.box;have aM:=w.av (0,0) _ bb.box;have aM:W M=none:=aM M rfl;have avb:=w.av (0,2) _ bb.blk;have hne : ∀b,vb.ownBlock=VC b->b≠M:=λb hb e=>by have:=w.dj (0,2) (0,0) _ _ b bb.blk bb.box hb (by rw[e];rfl);simp at this
 obtain⟨w6,s6⟩:=w.freeze bb.blk;have hYM:(W.plus vb h) M=none:=by unfold View.plus;rw[if_neg (λe=>hne M e rfl)];exact aM
 have hYle:(W.plus vb h).le (vw h):=w6.wle;let P:Obj:=.cells #[vs,Vz VA m.at_,Vz VA m.ps,vb] T.bE (0,0);have hpre : ∀{c:Array Value} {r:List Value} {nx:Int},c.toList=mkL vs m.at_ m.ps vb nx vl++r->(Obj.cells c T.bE (0,0)=P\/∃c1 c2 t fz,P = .cells c1 t fz/\Obj.cells c T.bE (0,0) = .cells c2 t fz/\∃r:List Value,c2.toList=c1.toList++r):=fun{c r nx} hc=>.inr ⟨_,c,_,_,rfl,rfl,[Vz VA nx,vl]++r,by rw[hc];rfl⟩;refine⟨λb=>if b=M then VC P else(W.plus vb h) b,λb x hb=>?_,?_,?_,λh2 o2 w2 b2 keep=>?_⟩
 ·dsimp only at hb;split at hb
  ·rename_i e;cases hb;subst e;exact⟨_,hM,hpre hr⟩
  exact⟨x,hYle b x hb,.inl rfl⟩
 ·simp[aq,P]
 ·refine s6.mono λb x hb=>?_;show(if b=M then VC P else(W.plus vb h) b)=_;rw[if_neg]
  ·exact hb
  rintro rfl;rw[hYM]at hb;cases hb
 obtain⟨cur2,hM2,r2,hr2⟩:=Owns.LB w2 b2.box;have hY2:=keep _ hYle hYM;refine⟨λb=>if b=M then h2[M]? else(W.plus vb h) b,λb x hb=>?_,λb x hb=>?_,λb x hb=>?_,s6.mono λb x hb=>?_,λi hi b hb=>?_⟩
 ·dsimp only at hb;split at hb
  ·rename_i e;cases hb;subst e;exact⟨_,by simp[hM2],hpre hr2⟩
  rename_i e;exact⟨x,by simpa[e]using hb,.inl rfl⟩
 ·have e:b≠M:=by rintro rfl;rw[aM]at hb;cases hb
  show(if b=M then h2[M]? else(W.plus vb h) b)=_;rw[if_neg e];exact ij avb b x hb
 ·dsimp only at hb;split at hb
  ·rename_i e;subst e;exact hb
  exact hY2 b x hb
 ·have e:b≠M:=by rintro rfl;rw[hYM]at hb;cases hb
  show(if b=M then h2[M]? else(W.plus vb h) b)=_;rw[if_neg e];exact hb
 have e:b≠M:=λe=>by have:=w.dj (1,i) (0,0) _ _ b (bb.phis i hi) bb.box hb (by rw[e];rfl);simp at this
 show(if b=M then h2[M]? else(W.plus vb h) b)=_;rw[if_neg e];exact w6.av (1,i) _ ((Own.aB V5).trans (bb.phis i hi)) b hb
theorem Mk.Px(w:Mk s M vs W h o m)(bb:MkB M vs m o vb vl lb)(h0:0<=m.next)(h1:m.next<=1000000000):
  ay VI 37 #[ptz M] h (λu h'=>u = Vz VA m.next/\∃o',Mk s M vs W h' o' m.aW/\MkB M vs m.aW o' vb vl lb/\(∀k:Key,3<=k.1->o' k=o k)/\∀X:View,X.le (vw h)->X M=VD->X.le (vw h')):=by refine(DI w.own bb.box h0 h1).mono ?_;rintro u h' ⟨rfl,w2,keep⟩;exact⟨rfl,_,⟨w2,w.src,vb,vl,lb,bb.at⟩,bb.at,pU V6,keep⟩
end
theorem Nz.ext{s:List Int}{M:Nat}{vs:Value}{W0:View}{h h':Heap}{o0:Own}{m:MS}{u:Value}{ds:List Int}(n:Nz s M vs W0 h o0 m u ds)(hle:(vw h).le (vw h')):Nz s M vs W0 h' o0 m u ds:=by obtain⟨W,o,g,w,f,sl⟩:=n;exact⟨W,o,g,⟨w.own.ext' hle,w.src,w.box⟩,f,sl⟩
structure Sz(n a p i:Nat)(m:MS):Prop where
 at_:m.at_<=a
 n0:0<=m.next
 next:m.next<=a
 live:m.live.length<=a
 ps0:0<=m.ps
 ps1:m.ps<=4
 len:m.blocks.length=n
 phis : ∀j,(nth m.blocks j).phis.length<=p
 ins : ∀j,(nth m.blocks j).ins.length<=i
theorem Sz.mono{n a p i a' p' i':Nat}{m:MS}(z:Sz n a p i m)(h1:a<=a')(h2:p<=p')(h3:i<=i'):Sz n a' p' i' m:=
 ⟨St z.at_ h1,z.n0,by have:=z.next;omega,St z.live h1,z.ps0,z.ps1,z.len,λj=>St (z.phis j) h2,λj=>St (z.ins j) h3⟩
theorem Sz.ok{n a p i:Nat}{m:MS}(z:Sz n a p i m)(h:i<=a):m.ok a:=⟨z.at_,z.n0,z.next,z.live,λj=>St (z.ins j) h⟩
theorem Sz.took{n a p i:Nat}{m:MS}(z:Sz n a p i m):Sz n (a+1) p i m.took:=⟨by have:=z.at_;show m.at_+1<=_;omega,z.n0,by have:=z.next;show m.next<=_;omega,by have:=z.live;show m.live.length<=_;omega,z.ps0,z.ps1,z.len,z.phis,z.ins⟩
variable{b:Nat}
theorem Sz.iq{a p i:Nat}{m:MS}(z:Sz n a p i m){x:BlkD}(h1:x.phis.length<=p)(h2:x.ins.length<=i):Sz n a p i { m with blocks:=m.blocks.set b x }:=by
 refine⟨z.at_,z.n0,z.next,z.live,z.ps0,z.ps1,by show(m.blocks.set b x).length=_;rw[SC];exact z.len,λj=>?_,λj=>?_⟩;all_goals
  show List.length (α:=_) _<=_
  rcases Sb j m.blocks.length with hl | hl
  ·simp only[bs hl]
   split
   ·assumption
   ·first | exact z.phis j | exact z.ins j
  ·first
    | (have:=z.phis j;rw[bK hl]at this;rw[bK (by simpa using hl)];exact this)
    | (have:=z.ins j;rw[bK hl]at this;rw[bK (by simpa using hl)];exact this)
theorem Sz.dE{n a p i b:Nat}{m:MS}(z:Sz n a p i m):Sz n (a+1) (p+1) i (dE b m):=by have h1:Sz n (a+1) (p+1) i m.aW:=⟨by have:=z.at_;show m.at_<=_;omega,by have:=z.n0;show 0<=m.next+1;omega,by have:=z.next;show m.next+1<=_;omega,by have:=z.live;show m.live.length<=_;omega,z.ps0,z.ps1,z.len,λj=>by have:=z.phis j;show(nth m.blocks j).phis.length<=_;omega,z.ins⟩;exact h1.iq (b:=b) (x:={ nth m.blocks b with phis:=(nth m.blocks b).phis++[⟨m.next,[]⟩] }) (by have:=z.phis b;show((nth m.blocks b).phis++[_]).length<=_;rw[Sf,Su];omega) (z.ins b)
theorem Sz.nF{n a p i b:Nat}{m:MS}(z:Sz n a p i m) : ∀k,Sz n (a+k) (p+k) i (up (λ_=>Go.Lft.dE b) k m)
 | 0=>z
 | k+1=>(Sz.nF z k).dE
section
variable{s:List Int}{M:Nat}{vs:Value}{W0:View}{h:Heap}{o0:Own}{m:MS}
variable{vp:Value}{lp:List Int}
theorem Nk{a p i cnt:Nat}{vq:Value}(x:Nx s M vs W0 h o0 m)(hk:o0 (5,0)=it T.int vp lp)(z:Sz n a p i m)(hb:b<n)(hlp:lp.length=n)(hcnt:nth lp b=cnt)(hc:cnt<=10)(hn:n<=100)(ha:a<=100000)(hp:p<=100000)(h0:aY [2,3,4,5,7,8,9,10] ρ=[(2,vr),(3,ptz M),(4,Vz VA n),(5,vt),(7,vp),(8,Vz VA b),(9,vq),(10,Vz VA 0)])(hQ : ∀h',Nx s M vs W0 h' o0 (up (λ_=>dE b) cnt m)->Q .normal [(2,vr),(3,ptz M),(4,Vz VA n),(5,vt),(7,vp),(8,Vz VA b),(9,vq),(10,Vz VA cnt)] h'):
  LC.wp VI (.block 4 (.loop L.au.l3)) Q ρ h:=by
 simp only[aX];refine dy [2,3,4,5,7,8,9,10] (fun(_:Unit) k=>[vr,ptz M,Vz VA n,vt,vp,Vz VA b,vq,Vz VA k]) (λ_ k h2=>Nx s M vs W0 h2 o0 (up (λ_=>dE b) k m)) cnt ()
  rfl V4 h0 x (λ_ _=>rfl) (λv k h2 hk2 m=>by have sp:=m.z.at V6 hk;have e:=sp.int Vw (i:=b) V4;rw[hcnt]at e;simp(disch:=omega)[sp.idx1 rfl,e]) ?_ ?_
 ·rintro _ k h2 hlt x2 K2 hK2;have z2:=z.nF (b:=b) k;have e2:up (λ_=>dE b) (k+1) m=dE b (up (λ_=>dE b) k m):=rfl;rw[e2]at hK2;generalize up (λ_=>dE b) k m=m2 at x2 hK2 z2;have hbl:b<m2.blocks.length:=by rw[z2.len];exact hb
  obtain⟨W,o,g,w,f⟩:=x2;obtain⟨vb,vl,lb,bb⟩:=w.box;have hbb:b<lb.length:=by rw[bb.len];exact hbl
  obtain⟨H,hH,c3,sH,JS⟩:=bb.JS w.own;have a1:=(sH.at hbb).part BlkM.uC;have a2:aq H (((slA vb).add (b*6)).add 0)=VC (nth lb b).phis.v:=by rw[az hbb];exact a1.raw
  have sb:=sH.bound;simp only[aX];refine IJ H hH ?_;simp(disch:=omega)[c3,sH.idxn (N:=6) rfl,a2];refine ah V0 (w.Px bb z2.n0 (by have:=z2.next;omega)) ?_;rintro _ h3 ⟨rfl,o3,w3,b3,f3,keep⟩;obtain⟨X,hHX,hWX,hX,sX,avX⟩:=JS h3 o3 w3.own b3 keep;refine⟨sub_le hHX hX,?_⟩;refine aA (z:=zz4) (places:=zpd) (vs:=[(0,Vz VA m2.next)]) (cs:=#[Vz VA m2.next,VE VD 0 0]) V0 V0 V5 V0 ?_;refine⟨sub_le hHX hX,?_⟩;have i64:I64 m2.next:=by have:=z2.n0;have:=z2.next;constructor<;>omega
  have hph:=z2.phis b;refine ni (α:=PhiD) (W:=W) (d:=⟨m2.next,[]⟩) El.nS rfl (J7 i64 aL) λu5 h5 src hle5 hs5=>⟨sub_le hHX (Vx hX hle5),?_⟩;refine(w3.own.ext' hle5).dA (k:=(1,b)) (α:=PhiD) (v:=(nth lb b).phis.v) (l:=(nth m2.blocks b).phis) (l2:=[⟨m2.next,[]⟩]) (b3.phis b hbl) El.nS rfl rfl src Vt Vt λv6 h6 w6 m6=>⟨sub_le hHX (m6.view (Vx hX hle5) (avX b hbl)).1,?_⟩;have hv6:=(w6.cells (k:=(1,b)) Own.an).2;refine w6.tA (k:=(0,2)) (α:=BlkM) BlkM.uC (v:=vb) (l:=lb) (i:=b) (d:=⟨v6⟩) b3.blk V0 rfl rfl hbb (iT.2 ⟨rfl,hv6⟩) λh7 w7 _=>?_;have b7:=b3.iq (b:=b) hbl (x':={ nth m2.blocks b with phis:=(nth m2.blocks b).phis++[⟨m2.next,[]⟩] }) (y':={ lb[b]with phis:=⟨v6⟩ }) (o':=(o3.upd (1,b) (it T.iZ v6 ((nth m2.blocks b).phis++[⟨m2.next,[]⟩]))).upd (0,2) (it T.fi vb (lb.set b { lb[b]with phis:=⟨v6⟩ }))) (by rw[<-bb.term b hbl,az hbb]) Own.an ((Own.aB V5).trans Own.an) (by rw[Own.aB V5,Own.aB V5,b3.ins b hbl,az hbb];rfl) (λq h1 h2 h3=>by rw[Own.aB h1,Own.aB h2]);refine hK2 () _ _ rfl rfl ⟨W,_,g,⟨w7,w.src,vb,vl,_,b7⟩,λk hk=>?_⟩;rw[Own.aB (by rintro rfl;simp at hk),Own.aB (by rintro rfl;simp at hk)];exact(f3 k hk).trans (f k hk)
 rintro _ h2 x2;exact hQ h2 x2
end
variable{po:OP}{α:Type}{ty:TypeId}{us:List (Nat × Value)}
theorem Nz.zI{s:List Int}{h:Heap}{m:MS}{u:Value}{ds:List Int}[r:Rep α](n:Nz s M vs W0 h o0 m u ds){k:Key}{e:TypeId}{i:Nat}{v:Value}{l:List α}{t:TypeId}{x y:Operand}{d:α}{w:Value}{K:Value->Heap->Prop}(h1:Rep.n α=1)(h3:3<=k.1)(hk:o0 k=it e v l)(hi:i<l.length)(hsz:da VI t=VC 1)(hx:asg us x = VF (VC ((slA v).add i)))(hy:asg us y=w)(hr : ∀W,Rd W w d)(hK : ∀h',Nz s M vs W0 h' (o0.upd k (it e v (l.set i d))) m u ds->K undef h'):@Lft.step po VI (.store t x y) ty us h K:=
 n.NL h3 hk hi (by rw[hsz,h1]) (by rw[hx,h1,SX]) hy hr hK
theorem qE{s:List Int}{m:MS}:0<=iD s m b/\iD s m b<=3:=by
 unfold iD;have:=bU (s:=s) (at_:=m.at_) (n:=4) V6;repeat' split
 all_goals omega
theorem JT{l:List Int}{i:Nat}{x:Int}(h:nth l i=x)(hi:i<l.length):l.set i x=l:=by rw[<-h,az hi];exact List.set_getElem_self hi
structure Ph(n a k:Nat)(x:List Int × MS):Prop where
 z:Sz n (a+10*k) (3*k) 0 x.2
 len:x.1.length=n
 zero : ∀j,k<j->nth x.1 j=0
 rng : ∀j,0<=nth x.1 j/\nth x.1 j<=3
theorem zg{s:List Int}{a k:Nat}{x:List Int × MS}(p:Ph n a k x):Ph n a (k+1) (dP s k x):=by
 obtain⟨c0,c1⟩:=qE (s:=s) (m:=x.2) (b:=k+1);have hset : ∀j,nth (x.1.set (k+1) (iD s x.2 (k+1))) j=if k+1=j/\j<x.1.length then iD s x.2 (k+1) else nth x.1 j:=λj=>by
  rcases Sb j x.1.length with hl | hl
  ·rw[bs hl];by_cases e:k+1=j
   ·rw[if_pos e,if_pos ⟨e,hl⟩]
   rw[if_neg e,if_neg (λq=>e q.1)]
  rw[bK (by simpa using hl),if_neg V4,bK hl]
 refine⟨?_,?_,λj hj=>?_,λj=>?_⟩
 ·have:=(p.z.took).nF (b:=k+1) (iD s x.2 (k+1)).toNat;exact this.mono V4 V4 (RX _)
 ·show(x.1.set _ _).length=_;rw[SC];exact p.len
 ·show nth (x.1.set _ _) j=_;rw[hset,if_neg V4];exact p.zero j V4
 show 0<=nth (x.1.set _ _) j/\nth (x.1.set _ _) j<=3;rw[hset];split
 ·exact⟨c0,c1⟩
 exact p.rng j
theorem C0{s:List Int}{n a:Nat}{x:List Int × MS}(p:Ph n a 0 x) : ∀k,Ph n a k (up (dP s) k x)
 | 0=>p
 | k+1=>zg (C0 p k)
variable{vp:Value}
theorem NM{s:List Int}{h:Heap}{a:Nat}{x0:List Int × MS}(x:Nx s M vs W0 h (o0.upd (5,0) (it T.int vp x0.1)) x0.2)(p0:Ph n a 0 x0)(hn1:1<=n)(hn:n<=100)(ha:a<=10000)(h0:aY [2,3,4,5,7,8] ρ=[(2,vr),(3,ptz M),(4,Vz VA n),(5,vt),(7,vp),(8,Vz VA 1)])(hQ : ∀h',Nx s M vs W0 h' (o0.upd (5,0) (it T.int vp (up (dP s) (n-1) x0).1)) (up (dP s) (n-1) x0).2->Q .normal [(2,vr),(3,ptz M),(4,Vz VA n),(5,vt),(7,vp),(8,Vz VA n)] h'):
  LC.wp VI (.block 2 (.loop L.au.l2)) Q ρ h:=by
 simp only[aX];refine zt [2,3,4,5,7,8] (fun(_:Unit) k=>[vr,ptz M,Vz VA n,vt,vp,Vz VA ((k+1:Nat):Int)]) (λ_ k h2=>Nx s M vs W0 h2 (o0.upd (5,0) (it T.int vp (up (dP s) k x0).1)) (up (dP s) k x0).2) (n-1) 1 ()
  rfl V4 h0 x (λ_ _=>rfl) (λv k h2 hk2 m=>by simp;omega) ?_ ?_
 ·rintro _ k h2 hlt x2 K2 hK2;have p2:=C0 (s:=s) p0 k;have e2:up (dP s) (k+1) x0=dP s k (up (dP s) k x0):=rfl;have p3:=zg (s:=s) p2;rw[e2]at hK2;generalize up (dP s) k x0=y at x2 hK2 p2 p3;obtain⟨lp,m⟩:=y;have z:Sz n (a+10*k) (3*k) 0 m:=p2.z;have x2:Nx s M vs W0 h2 (o0.upd (5,0) (it T.int vp lp)) m:=x2;have q:m.ok (a+10*k):=z.ok V4;have hlen:lp.length=n:=p2.len;simp only[aX];refine aa λy hy=>?_;obtain⟨vb,vl,rd⟩:=x2.z.reads;simp[rd.f];refine ah V0 (yn (b:=((k+1:Nat):Int)) (rd.rd ⟨by have:=z.ps0;show _<=m.ps;omega,by have:=z.ps1;show m.ps<=_;omega⟩) (by show m.blocks.length<=_;rw[z.len];omega)) ?_;rintro vq h3 ⟨hle3,hq⟩;have n3:=x2.z.ext hle3;have hcd:iD s m (k+1)=_:=iD.eq_1 s m (k+1);obtain⟨pl,hpl⟩ : ∃pl:Nat,pl=(aJ m.f ((k+1:Nat):Int)).length:=⟨_,rfl⟩;have hql : ∀{Q:View},Un.ev Q .len vq=VC (Vz VA pl):=fun{Q}=>by rw[hpl];exact hq.len
  rw[<-hpl]at hcd;clear hq x2 rd hpl;subst hy;refine aa λy hy=>?_;have fin : ∀(h':Heap) (ρ:Env),Nz s M vs W0 h' (o0.upd (5,0) (it T.int vp (lp.set (k+1) (iD s m (k+1))))) m.took (VE VD 0 0) []->Lft.look ρ 2=VC vr->Lft.look ρ 3=VC (ptz M)->Lft.look ρ 4=VC (Vz VA n)->Lft.look ρ 5=VC vt->Lft.look ρ 7=VC vp->Lft.look ρ 8=VC (Vz VA ((k+1:Nat):Int))->Lft.look ρ 9=VC vq->
    LC.wp VI y (eY 3 (fL K2 (eY 2 Q))) ρ h':=by
   intro h' ρ n' r2 r3 r4 r5 r7 r8 r9;subst hy;refine aa λy hy=>?_;simp;subst hy;obtain⟨c0,c1⟩:=qE (s:=s) (m:=m) (b:=k+1);refine Nk (vr:=vr) (vt:=vt) (b:=k+1) (cnt:=(iD s m (k+1)).toNat) (vq:=vq) n'.x Own.an z.took V4 (by rw[SC];exact hlen) (by rw[bs V4,if_pos rfl];omega) V4 hn V4 V4 ?_ λh4 x4=>?_
   ·simp[aY,af,ag,r2,r3,r4,r5,r7,r8,r9]
   simp;exact hK2 () _ _ rfl rfl x4
  refine aa λw hw=>?_;simp[hql];subst hw;by_cases c1:1<pl
  ·rw[if_pos c1]at hcd;refine aV Vt ?_;simp;refine ah V0 (fB n3 q V4 (k:=4) V6 V6) ?_;rintro _ h4 ⟨rfl,n4⟩;have sp:=n4.at (k:=(5,0)) V6 Own.an;simp(disch:=omega)[sp.idx1 rfl];refine n4.zI (k:=(5,0)) (α:=Int) (i:=k+1) (d:=aG s m.at_ 4) rfl V6 Own.an V4 V0 rfl rfl (λW=>bu.2 ⟨rfl,by have:=bU (s:=s) (at_:=m.at_) (n:=4) V6;constructor<;>omega⟩) λh5 n5=>?_;refine fin h5 _ (n5.re λq=>by rw[fE,hcd]) ?_ ?_ ?_ ?_ ?_ ?_ ?_;all_goals simp
  rw[if_neg c1]at hcd;refine bg Vt ?_;refine aa λw hw=>?_;simp;refine ah V0 (fB n3 q V4 (k:=6) V6 V6) ?_;rintro _ h4 ⟨rfl,n4⟩;simp;subst hw;by_cases c2:aG s m.at_ 6=0
  ·rw[if_pos c2]at hcd;refine aV (by simp[c2]) ?_;have sp:=n4.at (k:=(5,0)) V6 Own.an;simp(disch:=omega)[sp.idx1 rfl];refine n4.zI (k:=(5,0)) (α:=Int) (i:=k+1) (d:=1) rfl V6 Own.an V4 V0 rfl rfl (λW=>bu.2 ⟨rfl,by decide,by decide⟩) λh5 n5=>?_;refine fin h5 _ (n5.re λq=>by rw[fE,hcd]) ?_ ?_ ?_ ?_ ?_ ?_ ?_;all_goals simp
  rw[if_neg c2]at hcd;refine bg (by simp[c2]) ?_;simp;have e:lp.set (k+1) (iD s m (k+1))=lp:=by rw[hcd];exact JT (p2.zero (k+1) V4) V4
  refine fin h4 _ (n4.re λq=>by rw[e]) ?_ ?_ ?_ ?_ ?_ ?_ ?_;all_goals simp
 rintro _ h2 x2;have e:n-1+1=n:=by omega
 have:=hQ h2 x2;simpa[e]using this
section
variable{s:List Int}{M:Nat}{vs:Value}{W0:View}{h:Heap}{o0:Own}{m:MS}
theorem LO{a p i:Nat}(z:Sz n a p i m):I64 m.ps:=by have:=z.ps0;have:=z.ps1;constructor<;>omega
variable{vd va:Value}
theorem Mf{a p i:Nat}{r:Bool}{t:Nat}(x:Nx s M vs W0 h (o0.upd (7,0) (it T.qG va ([]:List BL))) m)(hfree:o0 (7,0)=VD)(z:Sz n a p i m)(hn:n<=100)(h0:aY [2,3,4,5,7,11,12,13,14,15,16] ρ=[(2,vr),(3,ptz M),(4,Vz VA n),(5,vt),(7,vp),(11,vd),(12,Vz VA t),(13,Vz VA b),(14,.bool r),(15,va),(16,Vz VA 0)])(hQ : ∀h' W' va,W0.le W'->Nx s M vs W' h' o0 m->SlRd W' va (kT m.f n)->Q .normal [(2,vr),(3,ptz M),(4,Vz VA n),(5,vt),(7,vp),(11,vd),(12,Vz VA t),(13,Vz VA b),(14,.bool r),(15,va),(16,Vz VA n)] h'):
  LC.wp VI (.block 10 (.loop L.au.l6)) Q ρ h:=by
 simp only[aX];refine dy [2,3,4,5,7,11,12,13,14,15,16] (fun(va:Value) k=>[vr,ptz M,Vz VA n,vt,vp,vd,Vz VA t,Vz VA b,.bool r,va,Vz VA k]) (λva k h2=>Nx s M vs W0 h2 (o0.upd (7,0) (it T.qG va (rows (λa=>fg m.f (a:Int)) k))) m) n va
  rfl V4 h0 x (λ_ _=>rfl) (λv k h2 hk2 m=>by simp) ?_ ?_
 ·rintro va k h2 hlt x2 K2 hK2;simp only[aX];obtain⟨vb,vl,rd⟩:=x2.z.reads;simp[rd.f];refine ah V0 (zx (wo:=(k:Int)) (rd.rd (LO z)) (by show m.blocks.length<=_;rw[z.len];omega)) ?_;rintro ur h3 ⟨hle3,hur⟩;obtain⟨W,o,g,w,f⟩:=x2;have w3:=w.own.ext hle3;have hW3:=bC (h':=h3) w.own.wle;have hur:=hur.mono (kr W h2 h3);generalize grow W h2 h3=W3 at w3 hW3 hur;refine w3.fW (k:=(7,0)) (α:=BL) (d:=fg m.f (k:Int)) ((f _ V6).trans Own.an) El.yE rfl (dw.2 hur) Vt Vt (λ_=>rfl) (λ_=>rfl) λu v' h4 w4 _=>?_;obtain⟨vb,vl,lb,bb⟩:=w.box;refine hK2 v' _ _ rfl rfl ⟨W3,_,Vx g hW3,⟨w4,w.src.mono hW3,vb,vl,lb,bb.frame λq hq=>Own.aB (by rintro rfl;simp at hq)⟩,λq hq=>?_⟩;rw[fJ];unfold Own.upd;split
  ·rfl
  rename_i e;rw[f q hq,Own.aB e]
 rintro va h2 ⟨W,o,g,w,f⟩;have hk:=(f (7,0) V6).trans Own.an;obtain⟨w2,sl⟩:=w.own.freeze hk;have hWp:=ij (h:=h2) (w.own.av _ _ hk);obtain⟨vb,vl,lb,bb⟩:=w.box;refine hQ h2 _ va (Vx g hWp) ⟨_,_,View.le_refl _,⟨w2,w.src.mono hWp,vb,vl,lb,bb.frame λq hq=>Own.aB (by rintro rfl;simp at hq)⟩,λq hq=>?_⟩ sl;by_cases e:q=(7,0)
 ·rw[e,Own.an,hfree]
 rw[Own.aB e,f q hq,Own.aB e]
variable{dn:BL}{away:List BL}
theorem Me{r:Bool}{t:Nat}(sd:SlRd (vw h) vd dn)(sa:SlRd (vw h) va away)(hb:b<n)(hdn:dn.length=n)(hal:away.length=n)(har : ∀i,i<n->(nth away i).length=n)(hn:n<=100)(h0:aY [2,3,4,5,7,11,12,13,14,15,17] ρ=[(2,vr),(3,ptz M),(4,Vz VA n),(5,vt),(7,vp),(11,vd),(12,Vz VA t),(13,Vz VA b),(14,.bool r),(15,va),(17,Vz VA 0)])(hQ:Q .normal [(2,vr),(3,ptz M),(4,Vz VA n),(5,vt),(7,vp),(11,vd),(12,Vz VA t),(13,Vz VA b),(14,.bool (up (λa r=>r&&(decide (a=b)||nth dn a||nth (nth away a) b)) n r)),(15,va),(17,Vz VA n)] h):
  LC.wp VI (.block 12 (.loop L.au.l7)) Q ρ h:=by
 simp only[aX];refine dy [2,3,4,5,7,11,12,13,14,15,17] (fun(r:Bool) k=>[vr,ptz M,Vz VA n,vt,vp,vd,Vz VA t,Vz VA b,.bool r,va,Vz VA k]) (λr2 k h2=>h2=h/\r2=up (λa r=>r&&(decide (a=b)||nth dn a||nth (nth away a) b)) k r) n r
  rfl V4 h0 ⟨rfl,rfl⟩ (λ_ _=>rfl) (λv k h2 hk2 m=>by simp) ?_ ?_
 ·rintro r2 k h2 hlt ⟨rfl,hr2⟩ K2 hK2;have e:up (λa r=>r&&(decide (a=b)||nth dn a||nth (nth away a) b)) (k+1) r=(r2&&(decide (k=b)||nth dn k||nth (nth away k) b)):=by rw[hr2];rfl
  rw[e]at hK2;clear e hr2;obtain⟨rv,hrv⟩:=sa.rows;obtain⟨ha1,ha2⟩:=hrv k V4;have hl:=har k hlt;have hkb : ∀{A:Type},True:=trivial;simp only[aX];cases r2 with
  | false=>simp;exact hK2 VH _ _ rfl rfl ⟨rfl,rfl⟩
  | true=>
   by_cases c:k=b
   ·subst c;simp;exact hK2 VG _ _ rfl rfl ⟨rfl,by simp⟩
   have c':¬((k:Int)=(b:Int)):=by omega
   cases hd:nth dn k with
   | true=>simp(disch:=omega)[c,c',sd.idx1 rfl,sd.bool Vw,hd];exact hK2 VG _ _ rfl rfl ⟨rfl,by simp[hd]⟩
   | false=>simp(disch:=omega)[c,c',sd.idx1 rfl,sd.bool Vw,hd,sa.idx1 rfl,ha1 _ Vw,ha2.idx1 rfl,ha2.bool Vw];exact hK2 _ _ _ rfl rfl ⟨rfl,by simp[hd,c]⟩
 rintro r2 h2 ⟨rfl,rfl⟩;exact hQ
end
def MS.dv(m:MS)(l:List Int):MS:={ m with live:=l }
section
variable{s:List Int}{M:Nat}{vs:Value}{W0:View}{h:Heap}{o0:Own}{m:MS}
variable{vb vl:Value}{ty2:TypeId}
theorem Mk.CO{po2:OP}{o:Own}(w:Mk s M vs W h o m){lb:List BlkM}(bb:MkB M vs m o vb vl lb){l2:List Int}{u:Value}{x y c1 c2:Operand}{us2:Value->List (Nat × Value)}{K:Value->Value->Heap->Prop}(src:SrcT (vw h) W u l2)(hl:m.live.length+l2.length<=1000000)(hx:asg us x=vl)(hy:asg us y=u)(hc1 : ∀v,asg (us2 v) c1 = VF (VC ⟨M,5,VD⟩))(hc2 : ∀v,asg (us2 v) c2=v)(hK : ∀v h' o',Mk s M vs W h' o' (m.dv (m.live++l2))->(∀k:Key,3<=k.1->o' k=o k)->K v undef h'):
  @Lft.step po VI (.call ⟨.builtin .append,#[x,y],#[T.aZ,T.aZ]⟩) ty us h λv h2=>@Lft.step po2 VI (.store T.aZ c1 c2) ty2 (us2 v) h2 λw h3=>K v w h3:=by
 refine w.own.dA (k:=(0,1)) (α:=Int) (v:=vl) (l:=m.live) (l2:=l2) bb.live El.aZ hx hy src V4 V4 λv h2 w2 _=>?_;have hv:=(w2.cells (k:=(0,1)) Own.an).2;refine w2.dT (k:=(0,0)) (n:=5) (i:=5) (e:=T.bE) (B:=M) (l:=mkL vs m.at_ m.ps vb m.next vl) ((Own.aB V5).trans bb.box) V6 V0 (hc1 v) (hc2 v) hv λh3 w3 _=>?_;refine hK v h3 _ ⟨w3,w.src,vb,v,lb,⟨rfl,rfl,(Own.aB V5).trans ((Own.aB V5).trans bb.blk),bb.len,bb.term,λi hi=>?_,λi hi=>?_⟩⟩ λk hk=>?_
 ·exact(Own.aB V5).trans ((Own.aB V5).trans (bb.phis i hi))
 ·exact(Own.aB V5).trans ((Own.aB V5).trans (bb.ins i hi))
 rw[Own.aB (by rintro rfl;simp at hk),Own.aB (by rintro rfl;simp at hk)]
variable{vd va:Value}
theorem Nb{a p i c:Nat}{r:Bool}{t:Nat}(x:Nx s M vs W0 h o0 (m.dv []))(z:Sz n a p i m)(hc:m.ps=c)(h0:aY [2,3,4,5,7,11,12,13,15,18] ρ=[(2,vr),(3,ptz M),(4,Vz VA n),(5,vt),(7,vp),(11,vd),(12,Vz VA t),(13,Vz VA b),(15,va),(18,Vz VA 0)])(hQ : ∀h',Nx s M vs W0 h' o0 (m.dv (rows (λi=>(i:Int)) c))->Q .normal [(2,vr),(3,ptz M),(4,Vz VA n),(5,vt),(7,vp),(11,vd),(12,Vz VA t),(13,Vz VA b),(15,va),(18,Vz VA c)] h'):
  LC.wp VI (.block 14 (.loop L.au.l8)) Q ρ h:=by
 have hc4:c<=4:=by have:=z.ps1;omega
 simp only[aX];refine dy [2,3,4,5,7,11,12,13,15,18] (fun(_:Unit) k=>[vr,ptz M,Vz VA n,vt,vp,vd,Vz VA t,Vz VA b,va,Vz VA k]) (λ_ k h2=>Nx s M vs W0 h2 o0 (m.dv (rows (λi=>(i:Int)) k))) c ()
  rfl V4 h0 x (λ_ _=>rfl) (λv k h2 hk2 x2=>by obtain⟨vb,vl,rd⟩:=x2.z.reads;have e:(m.dv (rows (λi=>(i:Int)) k)).ps=c:=hc;simp[rd.ps,e]) ?_ ?_
 ·rintro _ k h2 hlt x2 K2 hK2;obtain⟨W,o,g,w,f⟩:=x2;obtain⟨vb,vl,lb,bb⟩:=w.box;have rd:=w.reads bb;simp only[aX];simp[rd.cl];refine ni (α:=Int) (W:=W) (d:=(k:Int)) El.aZ rfl (bu.2 ⟨rfl,by constructor<;>omega⟩) λu5 h5 src hle5 hs5=>?_;have w5:Mk s M vs W h5 o (m.dv (rows (λi=>(i:Int)) k)):=⟨w.own.ext' hle5,w.src,w.box⟩;refine w5.CO bb src (by show(rows _ k).length+1<=_;simp;omega) rfl rfl (λ_=>rfl) (λ_=>rfl) λv h6 o6 w6 f6=>?_;refine hK2 () _ _ rfl rfl ⟨W,o6,g,?_,λk hk=>(f6 k hk).trans (f k hk)⟩;rw[fJ];exact w6
 rintro _ h2 x2;exact hQ h2 x2
theorem KA{a p i ai:Nat}{t:Nat}{lv:List Int}(x:Nx s M vs W0 h o0 (m.dv lv))(z:Sz n a p i m)(hai:ai<n)(hn:n<=100)(hl:lv.length<=100000)(hp:p<=100000)(h0:aY [2,3,4,5,7,11,12,13,15,19,20] ρ=[(2,vr),(3,ptz M),(4,Vz VA n),(5,vt),(7,vp),(11,vd),(12,Vz VA t),(13,Vz VA b),(15,va),(19,Vz VA ai),(20,Vz VA 0)])(hQ : ∀h':Heap,Nx s M vs W0 h' o0 (m.dv (lv++(nth m.blocks ai).phis.map PhiD.dst))->Q .normal [(2,vr),(3,ptz M),(4,Vz VA n),(5,vt),(7,vp),(11,vd),(12,Vz VA t),(13,Vz VA b),(15,va),(19,Vz VA ai),(20,Vz VA (nth m.blocks ai).phis.length)] h'):
  LC.wp VI (.block 18 (.loop L.au.l10)) Q ρ h:=by
 have hpl:=z.phis ai;have hlen:ai<m.blocks.length:=by rw[z.len];exact hai
 simp only[aX];have read : ∀{h2:Heap} {lv2:List Int} {vb vl:Value},Reads M (m.dv lv2) h2 vb vl->∃vph,aq (vw h2) (((slA vb).add (ai*6)).add 0)=VC vph/\SlRd (vw h2) vph (nth m.blocks ai).phis/\Bn.ev (.idx 6) vb (Vz VA ai)=VC (VF (VC ((slA vb).add (ai*6)))):=by intro h2 lv2 vb vl rd;have hb:=rd.blk;have hl2:ai<(m.dv lv2).blocks.length:=hlen;obtain⟨vph,h1⟩:=((hb.at hl2).part BlkD.uC).sl;have h2:=h1.2;have e:(m.dv lv2).blocks[ai]=nth m.blocks ai:=(az hl2).symm;rw[e]at h2;exact⟨vph,h1.1,h2,by have:=hb.idxn (N:=6) rfl (k:=.i64) (i:=ai) V4 V4;simpa using this⟩
 refine dy [2,3,4,5,7,11,12,13,15,19,20] (fun(_:Unit) k=>[vr,ptz M,Vz VA n,vt,vp,vd,Vz VA t,Vz VA b,va,Vz VA ai,Vz VA k]) (λ_ k h2=>Nx s M vs W0 h2 o0 (m.dv (lv++((nth m.blocks ai).phis.take k).map PhiD.dst))) (nth m.blocks ai).phis.length ()
  rfl V4 h0 (by simpa using x) (λ_ _=>rfl) (λv k h2 hk2 x2=>by obtain⟨vb,vl,rd⟩:=x2.z.reads;obtain⟨vph,r1,r2,r3⟩:=read rd;simp[rd.cb,r3,r1,r2.len]) ?_ ?_
 ·rintro _ k h2 hlt x2 K2 hK2;obtain⟨W,o,g,w,f⟩:=x2;obtain⟨vb,vl,lb,bb⟩:=w.box;have rd:=w.reads bb;obtain⟨vph,r1,r2,r3⟩:=read rd;have r4:aq (vw h2) (((slA vph).add (k*2)).add 0)=VC (Vz VA (nth m.blocks ai).phis[k].dst):=((r2.at hlt).part PhiD.iG).int;have i64:=((r2.at hlt).part PhiD.iG).rng;have r5:Bn.ev (.idx 2) vph (Vz VA k)=VC (VF (VC ((slA vph).add (k*2)))):=by have:=r2.idxn (N:=2) rfl (k:=.i64) (i:=k) V4 V4;simpa using this
  simp only[aX];refine aN (vw h2) Vw ?_;simp[rd.cl,rd.cb,r3,r1,r4,r5];refine ni (α:=Int) (W:=W) (d:=(nth m.blocks ai).phis[k].dst) El.aZ rfl (bu.2 ⟨rfl,i64⟩) λu5 h5 src hle5 hs5=>⟨hle5,?_⟩;have w5:Mk s M vs W h5 o (m.dv (lv++((nth m.blocks ai).phis.take k).map PhiD.dst)):=⟨w.own.ext' hle5,w.src,w.box⟩;refine w5.CO bb src (by show(lv++_).length+1<=_;simp;omega) rfl rfl (λ_=>rfl) (λ_=>rfl) λv h6 o6 w6 f6=>?_;refine hK2 () _ _ rfl rfl ⟨W,o6,g,?_,λk hk=>(f6 k hk).trans (f k hk)⟩;rw[Si hlt,TP,<-List.append_assoc];exact w6
 rintro _ h2 x2;rw[SF]at x2;exact hQ h2 x2
end
theorem DW{l:List InsD}:(l.flatMap bz).length<=2*l.length:=by
 induction l with
 | nil=>simp
 | cons a l ih=>
  have:(bz a).length<=2:=by
   unfold bz;repeat' split
   all_goals simp
  simp only[TH,Sf,SL];omega
section
variable{s:List Int}{M:Nat}{vs:Value}{W0:View}{h:Heap}{o0:Own}{m:MS}
variable{vd va:Value}
theorem J0{a p i ai:Nat}{t:Nat}{lv:List Int}(x:Nx s M vs W0 h o0 (m.dv lv))(z:Sz n a p i m)(hai:ai<n)(hn:n<=100)(hl:lv.length<=100000)(hi:i<=100000)(h0:aY [2,3,4,5,7,11,12,13,15,19,21] ρ=[(2,vr),(3,ptz M),(4,Vz VA n),(5,vt),(7,vp),(11,vd),(12,Vz VA t),(13,Vz VA b),(15,va),(19,Vz VA ai),(21,Vz VA 0)])(hQ : ∀h':Heap,Nx s M vs W0 h' o0 (m.dv (lv++(nth m.blocks ai).ins.flatMap bz))->Q .normal [(2,vr),(3,ptz M),(4,Vz VA n),(5,vt),(7,vp),(11,vd),(12,Vz VA t),(13,Vz VA b),(15,va),(19,Vz VA ai),(21,Vz VA (nth m.blocks ai).ins.length)] h'):
  LC.wp VI (.block 20 (.loop L.au.l11)) Q ρ h:=by
 have hil:=z.ins ai;have hlen:ai<m.blocks.length:=by rw[z.len];exact hai
 simp only[aX];have read : ∀{h2:Heap} {lv2:List Int} {vb vl:Value},Reads M (m.dv lv2) h2 vb vl->∃vi,aq (vw h2) (((slA vb).add (ai*6)).add 1)=VC vi/\SlRd (vw h2) vi (nth m.blocks ai).ins/\Bn.ev (.idx 6) vb (Vz VA ai)=VC (VF (VC ((slA vb).add (ai*6)))):=by intro h2 lv2 vb vl rd;have hb:=rd.blk;have hl2:ai<(m.dv lv2).blocks.length:=hlen;obtain⟨vi,h1⟩:=((hb.at hl2).part BlkD.jm).sl;have h2:=h1.2;have e:(m.dv lv2).blocks[ai]=nth m.blocks ai:=(az hl2).symm;rw[e]at h2;exact⟨vi,h1.1,h2,by have:=hb.idxn (N:=6) rfl (k:=.i64) (i:=ai) V4 V4;simpa using this⟩
 refine dy [2,3,4,5,7,11,12,13,15,19,21] (fun(_:Unit) k=>[vr,ptz M,Vz VA n,vt,vp,vd,Vz VA t,Vz VA b,va,Vz VA ai,Vz VA k]) (λ_ k h2=>Nx s M vs W0 h2 o0 (m.dv (lv++((nth m.blocks ai).ins.take k).flatMap bz))) (nth m.blocks ai).ins.length ()
  rfl V4 h0 (by simpa using x) (λ_ _=>rfl) (λv k h2 hk2 x2=>by obtain⟨vb,vl,rd⟩:=x2.z.reads;obtain⟨vi,r1,r2,r3⟩:=read rd;simp[rd.cb,r3,r1,r2.len]) ?_ ?_
 ·rintro _ k h2 hlt x2 K2 hK2;obtain⟨vb,vl,rd⟩:=x2.z.reads;obtain⟨vi,r1,r2,r3⟩:=read rd;obtain⟨ux,hux,huxr⟩:=r2.wh rfl (N:=5) rfl hlt;have r5:Bn.ev (.idx 5) vi (Vz VA k)=VC (VF (VC ((slA vi).add (k*5)))):=by have:=r2.idxn (N:=5) rfl (k:=.i64) (i:=k) V4 V4;simpa using this
  simp only[aX];refine aa λy hy=>?_;simp[rd.cb,r3,r1,r5,hux _ Vw];refine ah V0 (sK huxr) ?_;rintro um h3 ⟨hle3,hum,-⟩;clear rd r1 r2 r3 r5 hux;obtain⟨W,o,g,w,f⟩:=x2;have w3:=w.own.ext hle3;have hW3:=bC (h':=h3) w.own.wle;have hum:=hum.mono (kr W h2 h3);generalize grow W h2 h3=W3 at w3 hW3 hum;have w4:Mk s M vs W3 h3 o (m.dv (lv++((nth m.blocks ai).ins.take k).flatMap bz)):=⟨w3,w.src.mono hW3,w.box⟩;obtain⟨vb,vl,lb,bb⟩:=w4.box;have rd:=w4.reads bb;subst hy;simp[rd.cl];have hfl:=DW (l:=(nth m.blocks ai).ins.take k);have hml:(bz (nth (nth m.blocks ai).ins k)).length<=2:=by
   unfold bz;repeat' split
   all_goals simp
  refine w4.CO bb (hum.src w3.wle) (by show(lv++_).length+_<=_;simp at hfl ⊢;omega) rfl rfl (λ_=>rfl) (λ_=>rfl) λv h6 o6 w6 f6=>?_;refine hK2 () _ _ rfl rfl ⟨W3,o6,Vx g hW3,?_,λk hk=>(f6 k hk).trans (f k hk)⟩;rw[Si hlt,Tz,List.flatMap_singleton,<-List.append_assoc,<-az hlt];exact w6
 rintro _ h2 x2;rw[SF]at x2;exact hQ h2 x2
variable{dn:BL}{away:List BL}
theorem HP{a p i:Nat}(z:Sz n a p i m){ai:Nat}{l:List Int}:(gWq m dn away b ai l).length<=l.length+p+2*i:=by
 unfold gWq;split
 ·omega
 have h1:=z.phis ai;have h2:=z.ins ai;have h3:=DW (l:=(nth m.blocks ai).ins);simp only[Sf,TI];omega
theorem qF{n a p i:Nat}(z:Sz n a p i m){dn:BL}{away:List BL}{b:Nat}{l:List Int} : ∀k,(up (gWq m dn away b) k l).length<=l.length+(p+2*i)*k
 | 0=>RX _
 | k+1=>by have:=qF z (dn:=dn) (away:=away) (b:=b) (l:=l) k;have h2:=HP z (dn:=dn) (away:=away) (b:=b) (ai:=k) (l:=up (gWq m dn away b) k l);show(gWq m dn away b k (up (gWq m dn away b) k l)).length<=_;rw[Uh];omega
theorem NB{a p i:Nat}{t:Nat}{l0:List Int}(x:Nx s M vs W0 h o0 (m.dv l0))(z:Sz n a p i m)(hd:o0 (6,0)=it T.bool vd dn)(sa:SlRd W0 va away)(hb:b<n)(hdn:dn.length=n)(hal:away.length=n)(har : ∀i,i<n->(nth away i).length=n)(hn:n<=10)(hl:l0.length<=10)(hp:p<=1000)(hi:i<=3000)(h0:aY [2,3,4,5,7,11,12,13,15,19] ρ=[(2,vr),(3,ptz M),(4,Vz VA n),(5,vt),(7,vp),(11,vd),(12,Vz VA t),(13,Vz VA b),(15,va),(19,Vz VA 0)])(hQ : ∀h':Heap,Nx s M vs W0 h' o0 (m.dv (up (gWq m dn away b) n l0))->Q .normal [(2,vr),(3,ptz M),(4,Vz VA n),(5,vt),(7,vp),(11,vd),(12,Vz VA t),(13,Vz VA b),(15,va),(19,Vz VA n)] h'):
  LC.wp VI (.block 16 (.loop L.au.l9)) Q ρ h:=by
 simp only[aX];refine dy [2,3,4,5,7,11,12,13,15,19] (fun(_:Unit) k=>[vr,ptz M,Vz VA n,vt,vp,vd,Vz VA t,Vz VA b,va,Vz VA k]) (λ_ k h2=>Nx s M vs W0 h2 o0 (m.dv (up (gWq m dn away b) k l0))) n ()
  rfl V4 h0 x (λ_ _=>rfl) (λv k h2 hk2 x2=>by simp) ?_ ?_
 ·rintro _ k h2 hlt x2 K2 hK2;have e2:up (gWq m dn away b) (k+1) l0=gWq m dn away b k (up (gWq m dn away b) k l0):=rfl;rw[e2]at hK2;have hll:=qF z (dn:=dn) (away:=away) (b:=b) (l:=l0) k;have hll:(up (gWq m dn away b) k l0).length<=80000:=by have:(p+2*i)*k<=7000*10:=T9 V4 V4;omega
  generalize up (gWq m dn away b) k l0=lv at x2 hK2 hll;have hla:gWq m dn away b k lv=_:=gWq.eq_1 m dn away b k lv;have sd:=x2.z.at V6 hd;have sa2:=sa.mono x2.z.le;obtain⟨rv,hrv⟩:=sa2.rows;obtain⟨ha1,ha2⟩:=hrv k V4;have hal2:=har k hlt;simp only[aX];refine aa λy hy=>?_;have fin : ∀ρ,Lft.look ρ 2=VC vr->Lft.look ρ 3=VC (ptz M)->Lft.look ρ 4=VC (Vz VA n)->Lft.look ρ 5=VC vt->Lft.look ρ 7=VC vp->Lft.look ρ 11=VC vd->Lft.look ρ 12=VC (Vz VA t)->Lft.look ρ 13=VC (Vz VA b)->Lft.look ρ 15=VC va->Lft.look ρ 19=VC (Vz VA k)->(decide (k≠b)&&(!nth dn k||nth (nth away k) b))=VH->
    LC.wp VI y (eY 17 (fL K2 (eY 16 Q))) ρ h2:=by
   intro ρ r2 r3 r4 r5 r7 r11 r12 r13 r15 r19 hc;subst hy;rw[if_neg (by rw[hc];simp)]at hla;refine aa λy hy=>?_;refine aa λw hw=>?_;simp;subst hw;refine KA (vr:=vr) (vt:=vt) (vp:=vp) (vd:=vd) (va:=va) (t:=t) (b:=b) (ai:=k) x2 z hlt V4 V4 V4 ?_ λh3 x3=>?_
   ·simp[aY,af,ag,r2,r3,r4,r5,r7,r11,r12,r13,r15,r19]
   simp;subst hy;refine aa λw hw=>?_;simp;subst hw;have hph:=z.phis k;refine J0 (vr:=vr) (vt:=vt) (vp:=vp) (vd:=vd) (va:=va) (t:=t) (b:=b) (ai:=k) x3 z hlt V4 Vt V4 ?_ λh4 x4=>?_
   ·simp[aY,af,ag]
   simp;refine hK2 () _ _ rfl rfl (by rw[hla];exact x4)
  refine aa λw hw=>?_;by_cases c:k=b
  ·subst c;simp;subst hw;refine bg V5 ?_;simp;refine fin _ ?_ ?_ ?_ ?_ ?_ ?_ ?_ ?_ ?_ ?_ V5;all_goals simp
  have c':¬((k:Int)=(b:Int)):=by omega
  cases hd2:nth dn k with
  | false=>simp(disch:=omega)[c,c',sd.idx1 rfl,sd.bool Vw,hd2];subst hw;refine aV V5 ?_;simp;refine hK2 () _ _ rfl rfl ?_;rw[if_pos (by simp[c,hd2])]at hla;rw[hla];exact x2
  | true=>
   simp(disch:=omega)[c,c',sd.idx1 rfl,sd.bool Vw,hd2,sa2.idx1 rfl,ha1 _ Vw,ha2.idx1 rfl,ha2.bool Vw];subst hw;cases hw2:nth (nth away k) b with
   | true=>refine aV (by simp[hw2]) ?_;simp;refine hK2 () _ _ rfl rfl ?_;rw[if_pos (by simp[c,hd2,hw2])]at hla;rw[hla];exact x2
   | false=>refine bg (by simp[hw2]) ?_;simp;refine fin _ ?_ ?_ ?_ ?_ ?_ ?_ ?_ ?_ ?_ ?_ (by simp[c,hd2,hw2]);all_goals simp
 rintro _ h2 x2;exact hQ h2 x2
end
structure B2(n a p:Nat)(x:BL × MS):Prop where
 z:Sz n a p 700 x.2
 len:x.1.length=n
 none : ∀j,j<n->nth x.1 j=VH->(nth x.2.blocks j).ins.length=0
variable{dn:BL}{away:List BL}
theorem A5{a p:Nat}{m:MS}(z:Sz n a p 700 m)(hn:n<=10)(hp:p<=100):(nu m dn away b n).length<=15100:=by have:=qF z (dn:=dn) (away:=away) (b:=b) (l:=rows (λi=>(i:Int)) m.ps.toNat) n;rw[qd]at this;have h2:(p+2*700)*n<=1500*10:=T9 V4 hn;have:=z.ps1;unfold nu;omega
theorem rS{m:MS}{j:Nat}{t:db}(hb:b<m.blocks.length):nth (m.fG b t).blocks j=if b=j then{ nth m.blocks b with term:=t } else nth m.blocks j:=by
 show nth (m.blocks.set b _) j=_;rcases Sb j m.blocks.length with hl | hl
 ·rw[bs hl]
 rw[bK (by simpa using hl),bK hl,if_neg V4]
theorem F5{s:List Int}{a p:Nat}{m:MS}(z:Sz n a p 700 m)(hb:b<n)(h0:(nth m.blocks b).ins.length=0)(hn:n<=10)(hp:p<=100)(ha:16000<=a):
  Sz n (a+600) p 700 (jL s to n dn away b m)/\∀j,j≠b->(nth (jL s to n dn away b m).blocks j).ins=(nth m.blocks j).ins:=by
 have hll:=A5 (dn:=dn) (away:=away) (b:=b) z hn hp;have ht:=bU (s:=s) (at_:=m.at_) (n:=7) V6;have hbl:b<m.blocks.length:=by rw[z.len];exact hb
 obtain⟨m1,hm1⟩ : ∃m1:MS,m1=MS.took { m with live:=nu m dn away b n }:=⟨_,rfl⟩;have z1:Sz n (a+1) p 700 m1:=by rw[hm1];exact Sz.took ⟨z.at_,z.n0,z.next,by show(nu m dn away b n).length<=_;omega,z.ps0,z.ps1,z.len,z.phis,z.ins⟩
 have hl1:m1.live.length<=15100:=by rw[hm1];exact hll
 have e1 : ∀j,nth m1.blocks j=nth m.blocks j:=λj=>by rw[hm1];rfl
 have hb1:b<m1.blocks.length:=by rw[z1.len];exact hb
 have g:=((Grw.refl (b:=b) (m:=m1)).eV (s:=s) hb1 (aG s m.at_ 7).toNat).JL (s:=s) (to:=nth to b) hb1;have g:=g.mono (l:=520) V4;have e:jL s to n dn away b m=pD s (nth to b) b (up (λ_=>aO s b) (aG s m.at_ 7).toNat m1):=by rw[hm1];rfl
 rw[e];unfold pD;generalize fl s (nth to b) b (up (λ_=>aO s b) (aG s m.at_ 7).toNat m1)=r at g;have hbr:b<r.2.blocks.length:=by rw[g.len];exact hb1
 have hown:=g.ins;rw[e1,h0]at hown;refine⟨⟨?_,?_,?_,?_,?_,?_,?_,λj=>?_,λj=>?_⟩,λj hj=>?_⟩
 ·show r.2.at_<=_;have:=g.at1;have:=z1.at_;omega
 ·show 0<=r.2.next;have:=g.n0;have:=z1.n0;omega
 ·show r.2.next<=_;have:=g.n1;have:=z1.next;omega
 ·show r.2.live.length<=_;have:=g.live;omega
 ·show 0<=r.2.ps;rw[g.ps];exact z1.ps0
 ·show r.2.ps<=4;rw[g.ps];exact z1.ps1
 ·show(r.2.blocks.set b _).length=n;rw[SC,g.len];exact z1.len
 ·rw[rS hbr];split
  ·rename_i e;subst e;show(nth r.2.blocks b).phis.length<=_;rw[g.phis];exact z1.phis b
  rename_i e;rw[g.els j (λq=>e q.symm)];exact z1.phis j
 ·rw[rS hbr];split
  ·rename_i e;subst e;show(nth r.2.blocks b).ins.length<=_;omega
  rename_i e;rw[g.els j (λq=>e q.symm)];exact z1.ins j
 rw[rS hbr,if_neg (λq=>hj q.symm),g.els j hj,e1]
theorem uP{s:List Int}{a p:Nat}{x:BL × MS}(q:B2 n a p x)(hb:b<n)(hn:n<=10)(hp:p<=100)(ha:16000<=a)(h0:qO x.1 (kT x.2.f n) b n=VG->nth x.1 b=VH):B2 n (a+600) p (bo s to n b x):=by
 unfold bo;split
 ·rename_i hr;obtain⟨z2,e2⟩:=F5 (s:=s) (to:=to) (dn:=x.1.set b VG) (away:=kT x.2.f n) q.z hb (q.none b hb (h0 hr)) hn hp ha;refine⟨z2,by show(x.1.set b VG).length=n;rw[SC];exact q.len,λj hj h=>?_⟩;have h:nth (x.1.set b VG) j=false:=h;rw[bs (by rw[q.len];exact hj)]at h;split at h
  ·cases h
  rename_i e;show(nth (jL _ _ _ _ _ _ _).blocks j).ins.length=0;rw[e2 j (λr=>e r.symm)];exact q.none j hj h
 exact⟨q.z.mono V4 (RX _) (RX _),q.len,q.none⟩
theorem L6{f:Nat->Bool} : ∀(n:Nat) (r:Bool),up (λa r=>r&&f a) n r=VG->r=VG
 | 0,r,h=>h
 | n+1,r,h=>by have h:(up (λa r=>r&&f a) n r&&f n)=true:=h;simp only[Se]at h;exact L6 n r h.1
theorem qq(h:qO dn away b n=VG):nth dn b=false:=by unfold qO at h;have:=L6 _ _ h;simpa using this
section
variable{s:List Int}{M:Nat}{vs:Value}{W0:View}{h:Heap}{o0:Own}{m:MS}
variable{vd va:Value}
theorem Lt{k c:Nat}{t:Nat}(x:Nx s M vs W0 h o0 m)(hfree:o0 (9,0)=VD)(hm:m.ok c)(hc:c<=100000)(hk:k<=100)(hb:b<m.blocks.length)(h0:aY [2,3,4,5,7,11,12,13,15,23,24] ρ=[(2,vr),(3,ptz M),(4,Vz VA n),(5,vt),(7,vp),(11,vd),(12,Vz VA t),(13,Vz VA b),(15,va),(23,Vz VA k),(24,Vz VA 0)])(hQ : ∀h':Heap,Nx s M vs W0 h' o0 (up (λ_=>aO s b) k m)->Q .normal [(2,vr),(3,ptz M),(4,Vz VA n),(5,vt),(7,vp),(11,vd),(12,Vz VA t),(13,Vz VA b),(15,va),(23,Vz VA k),(24,Vz VA k)] h'):
  LC.wp VI (.block 22 (.loop L.au.l12)) Q ρ h:=by
 have oks : ∀j,(up (λ_=>aO s b) j m).ok (c+80*j)/\(up (λ_=>aO s b) j m).blocks.length=m.blocks.length:=by
  intro j;induction j with
  | zero=>exact⟨hm,rfl⟩
  | succ j ih=>exact⟨(ih.1.ic (s:=s) (b:=b)).mono V4,(rK (s:=s) (b:=b)).trans ih.2⟩
 simp only[aX];refine dy [2,3,4,5,7,11,12,13,15,23,24] (fun(_:Unit) j=>[vr,ptz M,Vz VA n,vt,vp,vd,Vz VA t,Vz VA b,va,Vz VA k,Vz VA j]) (λ_ j h2=>Nx s M vs W0 h2 o0 (up (λ_=>aO s b) j m)) k ()
  rfl V4 h0 x (λ_ _=>rfl) (λv k h2 hk2 x2=>by simp) ?_ ?_
 ·rintro _ j h2 hlt x2 K2 hK2;obtain⟨q1,q2⟩:=oks j;have e2:up (λ_=>aO s b) (j+1) m=aO s b (up (λ_=>aO s b) j m):=rfl;rw[e2]at hK2;generalize up (λ_=>aO s b) j m=m2 at x2 hK2 q1 q2;simp only[aX];simp;refine ah V0 (Af x2 (b:=b) V4 q1 V4 hfree) ?_;rintro _ h3 x3;exact hK2 () _ _ rfl rfl x3
 rintro _ h2 x2;exact hQ h2 x2
end
theorem Nx.up{s:List Int}{h:Heap}{m:MS}(x:Nx s M vs W h o0 m)(hW:W0.le W):Nx s M vs W0 h o0 m:=by obtain⟨W',o,g,w,f⟩:=x;exact⟨W',o,Vx hW g,w,f⟩
theorem Nx.re{s:List Int}{h:Heap}{o0':Own}{m:MS}(x:Nx s M vs W h o0 m)(he : ∀k,o0' k=o0 k):Nx s M vs W h o0' m:=by obtain⟨W',o,g,w,f⟩:=x;exact⟨W',o,g,w,λk hk=>(f k hk).trans (he k).symm⟩
theorem Nx.mQ{po:OP}{s:List Int}{M:Nat}{vs:Value}{W0:View}{h:Heap}{o0:Own}{m:MS}{α:Type}[r:Rep α]{ty e t:TypeId}{us:List (Nat × Value)}{k:Key}{bytes:Nat}{z:Value}{K:Value->Heap->Prop}(x:Nx s M vs W0 h o0 m)(h3:3<=k.1)(hk:o0 k=VD)(hT:eU VI t e (Rep.n α) bytes z)
  (hK : ∀v h',v.oneCell'=VG->Nx s M vs W0 h' (o0.upd k (it e v ([]:List α))) m->K v h'):@Lft.step po VI (.buildSlice t 0 #[]) ty us h K:=by
 obtain⟨W,o,g,w,f⟩:=x;refine w.own.mQ (k:=k) (α:=α) ((f k h3).trans hk) hT λv h2 hle2 hv w2 _=>hK v h2 hv ?_;obtain⟨vb,vl,lb,bb⟩:=w.box;refine⟨W,_,g,⟨w2,w.src,vb,vl,lb,bb.frame λq hq=>Own.aB (by rintro rfl;omega)⟩,λq hq=>?_⟩;unfold Own.upd;split
 ·rfl
 exact f q hq
variable{ty2:TypeId}
theorem Nx.JA{po2:OP}{s:List Int}{h:Heap}{m:MS}{us2:Value->List (Nat × Value)}{c1 c2:Operand}{K:Value->Value->Heap->Prop}(x:Nx s M vs W0 h o0 m)(hc1 : ∀v,asg (us2 v) c1 = VF (VC ⟨M,5,VD⟩))(hc2 : ∀v,asg (us2 v) c2=v)(hK : ∀v h',Nx s M vs W0 h' o0 (m.dv [])->K v undef h'):@Lft.step po VI (.buildSlice T.aZ 0 #[]) ty us h λv h2=>@Lft.step po2 VI (.store T.aZ c1 c2) ty2 (us2 v) h2 λw h3=>K v w h3:=by
 obtain⟨W,o,g,w,f⟩:=x;obtain⟨vb,vl,lb,bb⟩:=w.box;have w1:=w.own.sub (o':=o.upd (0,1) VD) λj i hj=>by
  unfold Own.upd at hj;split at hj
  ·cases hj
  exact hj
 refine w1.mQ (k:=(0,1)) (α:=Int) Own.an El.aZ λv h2 hle2 hv w2 _=>?_;have w2:=w2.congr (o':=o.upd (0,1) (it T.int v ([]:List Int))) λq=>by unfold Own.upd;split<;>rfl
 refine w2.dT (k:=(0,0)) (n:=5) (i:=5) (e:=T.bE) (B:=M) (l:=mkL vs m.at_ m.ps vb m.next vl) ((Own.aB V5).trans bb.box) V6 V0 (hc1 v) (hc2 v) hv λh3 w3 _=>?_;refine hK v h3 ⟨W,_,g,⟨w3,w.src,vb,v,lb,⟨rfl,rfl,(Own.aB V5).trans ((Own.aB V5).trans bb.blk),bb.len,bb.term,λi hi=>?_,λi hi=>?_⟩⟩,λk hk=>?_⟩
 ·exact(Own.aB V5).trans ((Own.aB V5).trans (bb.phis i hi))
 ·exact(Own.aB V5).trans ((Own.aB V5).trans (bb.ins i hi))
 rw[Own.aB (by rintro rfl;simp at hk),Own.aB (by rintro rfl;simp at hk)];exact f k hk
section
variable{s:List Int}{M:Nat}{vs:Value}{W0:View}{h:Heap}{o0:Own}{m:MS}
variable{vd:Value}
theorem Mi{a p:Nat}{t:Nat}{x0:BL × MS}(x:Nx s M vs W0 h (o0.upd (6,0) (it T.bool vd x0.1)) x0.2)(hto:SlRd W0 vt to)(htl:to.length=n)(f7:o0 (7,0)=VD)(f90:o0 (9,0)=VD)(f91:o0 (9,1)=VD)(q:B2 n a p x0)(hn:n<=10)(hp:p<=100)(ha:16000<=a)(ha2:a<=90000)(h0:aY [2,3,4,5,7,11,12,13] ρ=[(2,vr),(3,ptz M),(4,Vz VA n),(5,vt),(7,vp),(11,vd),(12,Vz VA t),(13,Vz VA 0)])(hQ : ∀h':Heap,Nx s M vs W0 h' (o0.upd (6,0) (it T.bool vd (up (bo s to n) n x0).1)) (up (bo s to n) n x0).2->Q .normal [(2,vr),(3,ptz M),(4,Vz VA n),(5,vt),(7,vp),(11,vd),(12,Vz VA t),(13,Vz VA n)] h'):
  LC.wp VI (.block 8 (.loop L.au.l5)) Q ρ h:=by
 have oks : ∀j,j<=n->B2 n (a+600*j) p (up (bo s to n) j x0):=by
  intro j;induction j with
  | zero=>intro _;exact q
  | succ j ih=>intro hj;have:=uP (s:=s) (to:=to) (b:=j) (ih V4) V4 hn hp V4 λh=>qq h;exact⟨this.z.mono V4 (RX _) (RX _),this.len,this.none⟩
 simp only[aX];refine dy [2,3,4,5,7,11,12,13] (fun(_:Unit) j=>[vr,ptz M,Vz VA n,vt,vp,vd,Vz VA t,Vz VA j]) (λ_ j h2=>Nx s M vs W0 h2 (o0.upd (6,0) (it T.bool vd (up (bo s to n) j x0).1)) (up (bo s to n) j x0).2) n ()
  rfl V4 h0 x (λ_ _=>rfl) (λv k h2 hk2 x2=>by simp) ?_ ?_
 ·rintro _ b h2 hlt x2 K2 hK2;have q2:=oks b V4;have e2:up (bo s to n) (b+1) x0=bo s to n b (up (bo s to n) b x0):=rfl;rw[e2]at hK2;generalize up (bo s to n) b x0=y at x2 hK2 q2;obtain⟨dn,m⟩:=y;have x2:Nx s M vs W0 h2 (o0.upd (6,0) (it T.bool vd dn)) m:=x2;have z:Sz n (a+600*b) p 700 m:=q2.z;have hdn:dn.length=n:=q2.len;have hbs:bo s to n b (dn,m)=_:=bo.eq_1 s to n b (dn,m);simp only at hbs;have sd:=x2.z.at V6 Own.an;simp only[aX];refine aa λy hy=>?_;simp(disch:=omega)[sd.idx1 rfl,sd.bool Vw];subst hy;refine aa λy hy=>?_;simp;refine x2.mQ (k:=(7,0)) (α:=BL) V6 ((Own.aB V5).trans f7) El.yE λva h3 hva x3=>?_;clear sd;subst hy;refine aa λy hy=>?_;refine aa λw hw=>?_;simp;subst hw;refine Mf (vr:=vr) (vt:=vt) (vp:=vp) (vd:=vd) (t:=t) (b:=b) (r:=!nth dn b) x3 ((Own.aB V5).trans f7) z V4 (by simp[aY,af,ag]) λh4 W4 va hW4 x4 sa=>?_;clear x3 hva x2;have hal:(kT m.f n).length=n:=by unfold kT;simp
  have har : ∀i,i<n->(nth (kT m.f n) i).length=n:=λi hi=>by unfold kT;rw[gF hi,vV];exact z.len
  generalize kT m.f n=away at sa hbs hal har;simp;subst hy;refine aa λy hy=>?_;refine aa λw hw=>?_;simp;subst hw;have sd:=x4.z.at V6 Own.an;refine Me (M:=M) (n:=n) (b:=b) (vr:=vr) (vt:=vt) (vp:=vp) (vd:=vd) (va:=va) (t:=t) (r:=!nth dn b) sd (sa.mono x4.z.le) hlt hdn hal har V4 (by simp[aY,af,ag]) ?_;have hrd:up (λa r=>r&&(decide (a=b)||nth dn a||nth (nth away a) b)) n (!nth dn b)=qO dn away b n:=rfl;rw[hrd];simp;subst hy;refine aa λy hy=>?_;refine aa λw hw=>?_;simp;subst hw;cases hr:qO dn away b n with
  | false=>rw[hr]at hbs;rw[if_neg V5]at hbs;refine aV V5 ?_;simp;refine hK2 () _ _ rfl rfl ?_;rw[hbs];exact x4.up hW4
  | true=>
   rw[hr]at hbs;rw[if_pos rfl]at hbs;have hnb:=qq hr;have hib:=q2.none b hlt hnb;refine bg V5 ?_;simp;subst hy;refine aa λy hy=>?_;simp(disch:=omega)[sd.idx1 rfl];refine x4.z.zI (k:=(6,0)) (α:=Bool) (i:=b) (d:=true) rfl V6 Own.an V4 V0 rfl rfl (λW=>qN.2 rfl) λh5 n5=>?_;have x5:Nx s M vs W4 h5 (o0.upd (6,0) (it T.bool vd (dn.set b VG))) m:=n5.x.re λq=>by rw[fE]
   clear n5 x4 sd;subst hy;refine aa λy hy=>?_;simp;refine x5.JA (λ_=>rfl) (λ_=>rfl) λv6 h6 x6=>?_;subst hy;obtain⟨c,hc⟩ : ∃c:Nat,m.ps=c:=⟨m.ps.toNat,by have:=z.ps0;omega⟩;have hc4:c<=4:=by have:=z.ps1;omega
   refine aa λy hy=>?_;refine aa λw hw=>?_;simp;subst hw;refine Nb (n:=n) (b:=b) (vr:=vr) (vt:=vt) (vp:=vp) (vd:=vd) (va:=va) (t:=t) (r:=true) x6 z hc (by simp[aY,af,ag]) λh7 x7=>?_;simp;subst hy;refine aa λy hy=>?_;refine aa λw hw=>?_;simp;subst hw;refine NB (n:=n) (b:=b) (vr:=vr) (vt:=vt) (vp:=vp) (vd:=vd) (va:=va) (t:=t) (dn:=dn.set b VG) (away:=away) x7 z Own.an sa hlt (by rw[SC];exact hdn) hal har hn Vt V4 V4 (by simp[aY,af,ag]) λh8 x8=>?_;have hlv:up (gWq m (dn.set b VG) away b) n (rows (λi=>(i:Int)) c)=nu m (dn.set b VG) away b n:=by unfold nu;rw[hc];rfl
   rw[hlv]at x8;have hll:=A5 (dn:=dn.set b VG) (away:=away) (b:=b) z hn hp;have hdo:jL s to n (dn.set b VG) away b m=pD s (nth to b) b (up (λ_=>aO s b) (aG s m.at_ 7).toNat (MS.took (m.dv (nu m (dn.set b VG) away b n)))):=rfl;rw[hdo]at hbs;obtain⟨m1,hm1⟩ : ∃m1,m1=m.dv (nu m (dn.set b VG) away b n):=⟨_,rfl⟩;have z1:Sz n (a+600*b) p 700 m1:=by rw[hm1];exact⟨z.at_,z.n0,z.next,by show(nu _ _ _ _ _).length<=_;omega,z.ps0,z.ps1,z.len,z.phis,z.ins⟩
   have ea:m.at_=m1.at_:=by rw[hm1];rfl
   rw[<-hm1]at x8 hbs;rw[ea]at hbs;clear hlv hdo hm1 ea x7 x6 x5;simp;subst hy;refine aa λy hy=>?_;simp;refine ah V0 (fB x8.z (z1.ok V4) V4 (k:=7) V6 V6) ?_;rintro _ h9 ⟨rfl,n9⟩;obtain⟨t0,t1⟩:=bU (s:=s) (at_:=m1.at_) (n:=7) V6;generalize aG s m1.at_ 7=kk at hbs t0 t1;obtain⟨k,rfl⟩ : ∃k:Nat,kk=k:=⟨kk.toNat,by omega⟩;rw[show((k:Int)).toNat=k by omega]at hbs;subst hy;refine aa λy hy=>?_;refine aa λw hw=>?_;simp;subst hw;have zok:=(z1.took).ok (show 700<=_ by omega);refine Lt (n:=n) (b:=b) (k:=k) (c:=a+600*b+1) (vr:=vr) (vt:=vt) (vp:=vp) (vd:=vd) (va:=va) (t:=t) n9.x ((Own.aB V5).trans f90) zok V4 V4 (by show b<m1.blocks.length;rw[z1.len];exact hlt) (by simp[aY,af,ag]) λh10 x10=>?_;have oks2 : ∀j,(up (λ_=>aO s b) j m1.took).ok (a+600*b+1+80*j)/\(up (λ_=>aO s b) j m1.took).blocks.length=n:=by
    intro j;induction j with
    | zero=>exact⟨zok,z1.len⟩
    | succ j ih=>exact⟨(ih.1.ic (s:=s) (b:=b)).mono V4,(rK (s:=s) (b:=b)).trans ih.2⟩
   obtain⟨k1,k2⟩:=oks2 k;generalize up (λ_=>aO s b) k m1.took=m2 at x10 hbs k1 k2;obtain⟨rv,hrv⟩:=hto.rows;obtain⟨hr1,hr2⟩:=hrv b V4;have ito:=(hto.mono hW4).mono x10.z.le;simp;subst hy;simp(disch:=omega)[ito.idx1 rfl,hr1 _ (Vx hW4 x10.z.le)];refine ah V0 (Pn x10 (b:=b) V4 k1 V4 ((Own.aB V5).trans f91) (hr2.mono hW4)) ?_;rintro _ h11 x11;refine hK2 () _ _ rfl rfl ?_;rw[hbs];exact x11.up hW4
 rintro _ h2 x2;exact hQ h2 x2
end
section
structure GdB(x:BlkD):Prop where
 ins : ∀i∈x.ins,i.args.length<=10
 args:x.term.args.length<=10
 to:x.term.to.length<=1000
 phis : ∀p∈x.phis,p.ins.length<=1000
def Gd(m:MS):Prop:=∀j,j<m.blocks.length->GdB (nth m.blocks j)
variable{s:List Int}{m:MS}{b:Nat}
theorem Gd.took(g:Gd m):Gd m.took:=g
theorem Gd.aW(g:Gd m):Gd m.aW:=g
theorem Gd.iq(g:Gd m){x:BlkD}(hx:b<m.blocks.length->GdB x):Gd { m with blocks:=m.blocks.set b x }:=λj hj=>by
 have hj:j<m.blocks.length:=by simpa using hj
 show GdB (nth (m.blocks.set b x) j);rw[bs hj];split
 ·rename_i e;exact hx V4
 exact g j hj
theorem Gd.add(g:Gd m){i:InsD}(hi:i.args.length<=10):Gd (m.add b i):=by
 have:=g.iq (b:=b) (x:={ nth m.blocks b with ins:=(nth m.blocks b).ins++[i] }) λhb=>⟨λj hj=>by
  rcases R1.1 hj with h | h
  ·exact(g b hb).ins j h
  rw[RY]at h;rw[h];exact hi,(g b hb).args,(g b hb).to,(g b hb).phis⟩;exact this
theorem Gd.constant(g:Gd m){n:Int}:Gd (m.constant b n):=g.aW.add (by show 0<=10;omega)
theorem Gd.two(g:Gd m){op x y:Int}:Gd (m.two b op x y):=g.aW.add (by show 2<=10;omega)
theorem Gd.aH(g:Gd m):Gd (aH s m b).2:=by
 unfold Go.Lft.aH;repeat' split
 ·exact g.took.took.constant
 ·exact g.took.took.took.took.took.constant
 exact g.took.took.took
theorem Gd.addr(g:Gd m):Gd (jO s m b).2:=by
 unfold jO;simp only;split
 ·exact g.took.constant.took.aH.constant.two.two
 exact g.took.constant.took
theorem Gd.off(g:Gd m):Gd (offS s m).2:=by
 unfold offS;split
 ·exact g.took.took.took.took
 exact g.took.took
theorem Gd.memory(g:Gd m){st:Bool}:Gd (iW s m b st):=by
 unfold iW;simp only;split
 ·exact g.addr.off.aH.add (by show 2<=10;omega)
 exact g.addr.off.aW.add (by show 1<=10;omega)
variable{op:Int}
theorem Gd.bin(g:Gd m):Gd (binS s m b op):=by
 unfold binS;simp only;split
 ·exact g.aH.aH.took.took.constant.two
 exact g.aH.aH.took.two
theorem Gd.div(g:Gd m):Gd (divS s m b):=by
 unfold divS;simp only;split
 ·exact g.aH.took.constant.took.took.constant.two
 exact g.aH.took.constant.took.two
theorem Gd.args{x:List Int × MS}(g:Gd x.2) : ∀n,Gd (up (fR s b) n x).2/\(up (fR s b) n x).1.length=x.1.length+n
 | 0=>⟨g,rfl⟩
 | n+1=>⟨(Gd.args g n).1.aH,by show((up (fR s b) n x).1++[_]).length=_;rw[Sf,(Gd.args g n).2,Su];omega⟩
theorem Gd.call(g:Gd m):Gd (pw s m b):=by unfold pw;simp only;have ht:=bU (s:=s) (at_:=m.at_) (n:=5) V6;obtain⟨g2,l2⟩:=Gd.args (s:=s) (b:=b) (x:=([],m.took)) g.took (aG s m.at_ 5).toNat;refine g2.aW.took.add ?_;show(up (fR s b) (aG s m.at_ 5).toNat ([],m.took)).1.length<=10;rw[l2];simp;omega
theorem Gd.ic(g:Gd m):Gd (aO s b m):=by
 unfold aO;simp only;repeat' split
 ·exact g.took.bin
 ·unfold ltuS;exact g.took.aH.aH.two
 ·exact g.took.div
 ·exact g.took.memory
 ·exact g.took.call
 ·unfold wc;exact g.took.aH.aH.aW.aW.add (by show 2<=10;omega)
 exact g.took.took.took.constant
theorem Gd.eV(g:Gd m) : ∀n,Gd (up (λ_=>aO s b) n m)
 | 0=>g
 | n+1=>(Gd.eV g n).ic
theorem Gd.Qj(g:Gd m){to:List Int}(ht:to.length<=1000):Gd (pD s to b m):=by
 have h:Gd (fl s to b m).2/\(fl s to b m).1.args.length<=10/\(fl s to b m).1.to.length<=1000:=by
  unfold fl;simp only;repeat' split
  ·exact⟨g.took.took,by show 0<=10;omega,by show 0<=1000;omega⟩
  ·exact⟨g.took.aH,by show 1<=10;omega,by show 0<=1000;omega⟩
  ·exact⟨g.took,by show 0<=10;omega,by show 0<=1000;omega⟩
  ·exact⟨g,by show 0<=10;omega,ht⟩
  ·exact⟨g.aH.took.aH.aW.took.add (by show 2<=10;omega),by show 1<=10;omega,ht⟩
  ·exact⟨g.aH.took,by show 1<=10;omega,ht⟩
  exact⟨g.aH.constant.two,by show 1<=10;omega,ht⟩
 obtain⟨h1,h2,h3⟩:=h;exact h1.iq λhb=>⟨(h1 b hb).ins,h2,h3,(h1 b hb).phis⟩
theorem Gd.jU(g:Gd m){l:List Int}(hl:l.length<=1000):Gd (m.jU b l):=g.iq λhb=>⟨(g b hb).ins,(g b hb).args,hl,(g b hb).phis⟩
theorem Gd.dE(g:Gd m):Gd (Go.Lft.dE b m):=by
 have:=g.aW.iq (b:=b) (x:={ nth m.blocks b with phis:=(nth m.blocks b).phis++[⟨m.next,[]⟩] }) λhb=>⟨(g b hb).ins,(g b hb).args,(g b hb).to,λp hp=>by
  rcases R1.1 hp with h | h
  ·exact(g b hb).phis p h
  rw[RY]at h;rw[h];show 0<=1000;omega⟩;exact this
theorem Gd.nF(g:Gd m) : ∀n,Gd (up (λ_=>Go.Lft.dE b) n m)
 | 0=>g
 | n+1=>(Gd.nF g n).dE
theorem Gd.jM(g:Gd m){i:Nat}{l:List InD}(hl:l.length<=1000):Gd (m.jM b i l):=g.iq λhb=>⟨(g b hb).ins,(g b hb).args,(g b hb).to,λp hp=>by
 rcases Ut hp with h | h
 ·exact(g b hb).phis p h
 rw[h];exact hl⟩
theorem Gd.smF{a p i:Nat}(g:Gd m)(z:Sz n a p i m)(hn:n<=10000)(hp:p<=10000)(hi:i<=10000):SmF m.f:=by refine⟨by show m.blocks.length<=_;rw[z.len];exact hn,λj hj=>?_⟩;have hj:j<m.blocks.length:=hj;have h:=g j hj;have e:nth m.f.blocks j=nth m.blocks j:=rfl;rw[e];exact⟨St (z.phis j) hp,St (z.ins j) hi,by have:=h.args;omega,by have:=h.to;omega,λk hk=>by have:=h.phis _ (bh hk);omega,λk hk=>by have:=h.ins _ (bh hk);omega⟩
theorem Aj{f:ak} : ∀n,∀t∈thTo f n,t.mks.length<=1000
 | 0,t,h=>by cases h
 | n+1,t,h=>by
  rw[fS]at h;rcases R1.1 h with h | h
  ·exact Aj n t h
  unfold thB at h;simp only[R1,RY,rows,SZ,TA]at h;rcases h with(⟨i,_,rfl⟩ | ⟨i,_,rfl⟩) | rfl
  ·show 1<=1000;omega
  ·show(bz _).length<=1000;unfold bz;repeat' split
   all_goals simp
  show 0<=1000;omega
theorem DQ{n a p i:Nat}(z:Sz n a p i m) : ∀k,(thTo m.f k).length<=(p+i+1)*k
 | 0=>RX _
 | k+1=>by have h1:=DQ z k;have h2:=z.phis k;have h3:=z.ins k;have e:nth m.f.blocks k=nth m.blocks k:=rfl;rw[fS,Sf,Uh];unfold thB;simp only[Sf,qd,Su,e];omega
theorem wL{a p i:Nat}(z:Sz n a p i m)(hn:n<=10)(hp:p<=1000)(hi:i<=3000):(aC m.f).length<=60000:=by
 have h1:=DQ z n;have h2:(p+i+1)*n<=5000*10:=T9 V4 hn;have e:aC m.f=thTo m.f n:=by unfold aC;rw[show m.f.blocks.length=n from z.len]
 rw[e];omega
theorem ze{a p i:Nat}(z:Sz n a p i m)(hn:n<=10)(hp:p<=1000)(hi:i<=3000):(gU m.f b).length<=70000000:=by
 have h:=AT (l:=aC m.f) (f:=m.f) (b:=b) (c:=1000) (Aj _) (out:=rows (λi=>(i:Int)) m.f.params.toNat);have h2:=wL z hn hp hi;have h3:m.f.params.toNat<=4:=by have:=z.ps1;show m.ps.toNat<=4;omega
 rw[qd]at h;have e:gU m.f b=(aC m.f).foldl (eB m.f b) (rows (λi=>(i:Int)) m.f.params.toNat):=rfl;rw[e];omega
end
structure P3(n a p i:Nat)(m:MS):Prop where
 z:Sz n a p i m
 g:Gd m
theorem P3.mono{n a p i a' p' i':Nat}{m:MS}(q:P3 n a p i m)(h1:a<=a')(h2:p<=p')(h3:i<=i'):P3 n a' p' i' m:=⟨q.z.mono h1 h2 h3,q.g⟩
theorem Sz.const{a p i:Nat}{m:MS}{k:Int}(z:Sz n a p i m):Sz n (a+3) p (i+1) (m.constant b k):=by have h1:Sz n (a+3) p (i+1) { m.aW with live:=m.live++bz (conD m.next k) }:=⟨by have:=z.at_;show m.at_<=_;omega,by have:=z.n0;show 0<=m.next+1;omega,by have:=z.next;show m.next+1<=_;omega,by have:=z.live;show(m.live++[m.next]).length<=_;rw[Sf,Su];omega,z.ps0,z.ps1,z.len,z.phis,λj=>by have:=z.ins j;show(nth m.blocks j).ins.length<=_;omega⟩;exact h1.iq (b:=b) (x:={ nth m.blocks b with ins:=(nth m.blocks b).ins++[conD m.next k] }) (z.phis b) (by have:=z.ins b;show((nth m.blocks b).ins++[_]).length<=_;rw[Sf,Su];omega)
theorem Sz.jM{n a p i b j:Nat}{m:MS}{l:List InD}(z:Sz n a p i m):Sz n a p i (m.jM b j l):=
 z.iq (by show((nth m.blocks b).phis.set j _).length<=_;rw[SC];exact z.phis b) (z.ins b)
def rowS(s:List Int)(b:Nat)(m:MS):List Int × MS:=if(gU m.f b).length=0 then([m.next],m.took.took.constant b (jW s m)) else(gU m.f b,m)
theorem DP{s:List Int}{m:MS}:0<(rowS s b m).1.length:=by
 unfold rowS;split
 ·show 0<1;omega
 show 0<(gU m.f b).length;omega
theorem Ls{s:List Int}{a p i:Nat}{m:MS}(z:Sz n a p i m)(hn:n<=10)(hp:p<=1000)(hi:i<=3000):(rowS s b m).1.length<=70000000:=by
 unfold rowS;split
 ·show 1<=70000000;omega
 exact ze z hn hp hi
theorem HI{s:List Int}{a p i:Nat}{m:MS}(q:P3 n a p i m):P3 n (a+5) p (i+1) (rowS s b m).2:=by
 unfold rowS;split
 ·exact⟨(q.z.took.took.const).mono V4 (RX _) (RX _),q.g.took.took.constant⟩
 exact q.mono V4 (RX _) V4
theorem IM{s:List Int}{p:List Int}{k:Nat}{x:List InD × MS}(h:nth p k=b):cQ s p k x=(x.1++[⟨b,nth (rowS s b x.2).1 (aG s (rowS s b x.2).2.at_ (rowS s b x.2).1.length).toNat⟩],(rowS s b x.2).2.took):=by unfold cQ;rw[h];rfl
theorem lV{s:List Int}{n a p i:Nat}{pl:List Int}{x:List InD × MS}(q:P3 n a p i x.2) : ∀k,P3 n (a+6*k) p (i+k) (up (cQ s pl) k x).2/\(up (cQ s pl) k x).1.length=x.1.length+k
 | 0=>⟨q,rfl⟩
 | k+1=>by
  obtain⟨h1,h2⟩:=lV (pl:=pl) q k;have h3:=HI (s:=s) (b:=(nth pl k).toNat) h1;refine⟨?_,?_⟩
  ·have e:(up (cQ s pl) (k+1) x).2=(rowS s (nth pl k).toNat (up (cQ s pl) k x).2).2.took:=rfl;rw[e];exact⟨(h3.z.took).mono V4 (RX _) V4,h3.g.took⟩
  have e:(up (cQ s pl) (k+1) x).1=(up (cQ s pl) k x).1++[⟨nth pl k,nth (rowS s (nth pl k).toNat (up (cQ s pl) k x).2).1 (aG s (rowS s (nth pl k).toNat (up (cQ s pl) k x).2).2.at_ (rowS s (nth pl k).toNat (up (cQ s pl) k x).2).1.length).toNat⟩]:=rfl;rw[e,Sf,h2,Su];omega
variable{pl:List Int}
theorem NJ{s:List Int}{a p i j:Nat}{m:MS}(q:P3 n a p i m)(hp:pl.length<=9):P3 n (a+54) p (i+9) (phi3 s b pl j m):=by obtain⟨h1,h2⟩:=lV (s:=s) (pl:=pl) (x:=([],m)) q pl.length;exact⟨(h1.z.jM).mono V4 (RX _) V4,h1.g.jM (by rw[h2];show 0+_<=_;omega)⟩
theorem qP{s:List Int}{n a p i b:Nat}{pl:List Int}{m:MS}(q:P3 n a p i m)(hp:pl.length<=9) : ∀k,P3 n (a+54*k) p (i+9*k) (up (phi3 s b pl) k m)
 | 0=>q
 | k+1=>(NJ (qP q hp k) hp).mono V4 (RX _) V4
theorem OV{H:View}{a b:Int}(ha:I64 a)(hb:I64 b):Rd H (.agg #[Vz VA a,Vz VA b]) (InD.mk a b):=⟨_,rfl,[Vz VA a],[Vz VA b],rfl,⟨rfl,ha⟩,rfl,hb⟩
section
variable{s:List Int}{M:Nat}{vs:Value}{W0:View}{h:Heap}{o0:Own}{m:MS}
theorem Nx.N2(x:Nx s M vs W0 h o0 m){h':Heap}{k:Key}{u:Value}{l:List Int}(h3:3<=k.1)(hk:o0 k=VD)(hle:(vw h).le (vw h'))(hb : ∀b,u.ownBlock=VC b->h.size<=b)(ho:OwnT nothing h' T.int u l):Nx s M vs W0 h' (o0.upd k (it T.int u l)) m:=by
 obtain⟨W,o,g,w,f⟩:=x;have w2:=w.own.add (k:=k) ((f k h3).trans hk) (Fs (W':=W) ho) hle hb;obtain⟨vb,vl,lb,bb⟩:=w.box;refine⟨W,_,g,⟨w2,w.src,vb,vl,lb,bb.frame λq hq=>Own.aB (by rintro rfl;omega)⟩,λq hq=>?_⟩;unfold Own.upd;split
 ·rfl
 exact f q hq
theorem Nx.freeze{α:Type}[r:Rep α]{k:Key}{e:TypeId}{v:Value}{l:List α}(x:Nx s M vs W0 h (o0.upd k (it e v l)) m)(h3:3<=k.1)(hk:o0 k=VD) : ∃W',W0.le W'/\Nx s M vs W' h o0 m/\SlRd W' v l:=by
 obtain⟨W,o,g,w,f⟩:=x;have hk2:=(f k h3).trans Own.an;obtain⟨w2,sl⟩:=w.own.freeze hk2;have hWp:=ij (h:=h) (w.own.av _ _ hk2);obtain⟨vb,vl,lb,bb⟩:=w.box;refine⟨_,Vx g hWp,⟨_,_,View.le_refl _,⟨w2,w.src.mono hWp,vb,vl,lb,bb.frame λq hq=>Own.aB (by rintro rfl;omega)⟩,λq hq=>?_⟩,sl⟩;by_cases e2:q=k
 ·rw[e2,Own.an,hk]
 rw[Own.aB e2,f q hq,Own.aB e2]
theorem Nx.fW{po po2:OP}{α:Type}[r:Rep α]{k:Key}{e t ty ty2:TypeId}{bytes:Nat}{z:Value}{v:Value}{l:List α}(x:Nx s M vs W0 h o0 m)(h3:3<=k.1)(hk:o0 k=it e v l){a y y2:Operand}{us:List (Nat × Value)}{us2:Value->List (Nat × Value)}{u:Value}{d:α}{K:Value->Value->Heap->Prop}(hT:eU VI t e (Rep.n α) bytes z)(hx:asg us a=u)(hr : ∀W,Rd W u d)
  (hb:(l.length+1)*bytes<=140737488355328) (hb2:l.length+1<=140737488355328) (hy : ∀u,asg (us2 u) y=v) (hy2 : ∀u,asg (us2 u) y2=u)
  (hK : ∀u v' h',Nx s M vs W0 h' (o0.upd k (it e v' (l++[d]))) m->K u v' h') :
  @Lft.step po VI (.buildSlice t 1 #[(0,a)]) ty us h λu h2=>@Lft.step po2 VI (.call ⟨.builtin .append,#[y,y2],#[t,t]⟩) ty2 (us2 u) h2 λv' h3=>K u v' h3:=by
 obtain⟨W,o,g,w,f⟩:=x;refine w.own.fW (k:=k) (d:=d) ((f k h3).trans hk) hT hx (hr W) hb hb2 hy hy2 λu v' h' w2 _=>hK u v' h' ?_;obtain⟨vb,vl,lb,bb⟩:=w.box;refine⟨W,_,g,⟨w2,w.src,vb,vl,lb,bb.frame λq hq=>Own.aB (by rintro rfl;omega)⟩,λq hq=>?_⟩;unfold Own.upd;split
 ·rfl
 exact f q hq
variable{vd:Value}
theorem Ly{a p i j:Nat}{vq vi:Value}(x:Nx s M vs W0 h (o0.upd (7,2) (it T.uM vi ([]:List InD))) m)(f71:o0 (7,1)=VD)(q:P3 n a p i m)(hn:n<=10)(ha:a<=500000)(hia:i<=a)(hp:p<=100)(hi:i<=2000)(hq:SlRd W0 vq pl)(hpl:pl.length<=9)(hpr : ∀k,k<pl.length->∃c:Nat,nth pl k=c/\c<n)(h0:aY [2,3,4,5,7,11,25,26,27,28,29] ρ=[(2,vr),(3,ptz M),(4,Vz VA n),(5,vt),(7,vp),(11,vd),(25,Vz VA b),(26,vq),(27,Vz VA j),(28,vi),(29,Vz VA 0)])(hQ : ∀(h':Heap) vi,Nx s M vs W0 h' (o0.upd (7,2) (it T.uM vi (up (cQ s pl) pl.length ([],m)).1)) (up (cQ s pl) pl.length ([],m)).2->Q .normal [(2,vr),(3,ptz M),(4,Vz VA n),(5,vt),(7,vp),(11,vd),(25,Vz VA b),(26,vq),(27,Vz VA j),(28,vi),(29,Vz VA pl.length)] h'):
  LC.wp VI (.block 28 (.loop L.au.l15)) Q ρ h:=by
 simp only[aX];refine dy [2,3,4,5,7,11,25,26,27,28,29] (fun(vi:Value) k=>[vr,ptz M,Vz VA n,vt,vp,vd,Vz VA b,vq,Vz VA j,vi,Vz VA k]) (λvi k h2=>Nx s M vs W0 h2 (o0.upd (7,2) (it T.uM vi (up (cQ s pl) k ([],m)).1)) (up (cQ s pl) k ([],m)).2) pl.length vi
  rfl V4 h0 x (λ_ _=>rfl) (λv k h2 hk2 x2=>by simp[hq.len]) ?_ ?_
 ·rintro vi k h2 hlt x2 K2 hK2;obtain⟨q2,hl2⟩:=lV (s:=s) (pl:=pl) (x:=([],m)) q k;obtain⟨c,hc,hcn⟩:=hpr k hlt;have e2:up (cQ s pl) (k+1) ([],m)=cQ s pl k (up (cQ s pl) k ([],m)):=rfl;rw[e2,IM hc]at hK2;have hl2:(up (cQ s pl) k ([],m)).1.length<=9:=by rw[hl2];simp;omega
  generalize up (cQ s pl) k ([],m)=y at x2 hK2 q2 hl2;obtain⟨il,m2⟩:=y;have q2:P3 n (a+54) p (i+9) m2:=P3.mono q2 V4 (RX _) V4;have hl2:il.length<=9:=hl2;have x2:Nx s M vs W0 h2 (o0.upd (7,2) (it T.uM vi il)) m2:=x2;simp only at hK2;have hcell : ∀{h':Heap},W0.le (vw h')->aq (vw h') ((slA vq).add k)=VC (Vz VA c):=λg=>by rw[hq.int g hlt,hc]
  have hcell0:aq W0 ((slA vq).add k)=VC (Vz VA c):=by rw[hq.int Vw hlt,hc]
  have hrow:rowS s c m2=_:=rowS.eq_1 s c m2;have hq3:=HI (s:=s) (b:=c) q2;have hpos:=DP (s:=s) (b:=c) (m:=m2);have hrl0:=Ls (s:=s) (b:=c) q2.z hn V4 V4;simp only[aX];refine aa λy hy=>?_;obtain⟨vb,vl,rd⟩:=x2.z.reads;refine aN (vw h2) Vw ?_;simp(disch:=omega)[rd.f,(hq.mono x2.z.le).idx1 rfl,hcell x2.z.le];have hth:(aC m2.f).length<=60000:=wL q2.z hn V4 V4;refine ah V0 (E8 (b:=c) (rd.rd (LO q2.z)) (q2.g.smF q2.z V4 V4 V4) ⟨q2.z.ps0,by have:=q2.z.ps1;show m2.ps<=_;omega⟩ (by show c<m2.blocks.length;rw[q2.z.len];exact hcn) (Aj _) V4) ?_;rintro u3 h3 ⟨hle3,hb3,ho3⟩;have x3:=x2.N2 (k:=(7,1)) V6 ((Own.aB V5).trans f71) hle3 hb3 ho3;clear rd x2 ho3 hb3;generalize gU m2.f c=sl at x3 hrow;subst hy;refine aa λy hy=>?_;have fin : ∀(v30:Value) (h':Heap) (ρ:Env),Nx s M vs W0 h' ((o0.upd (7,2) (it T.uM vi il)).upd (7,1) (it T.int v30 (rowS s c m2).1)) (rowS s c m2).2->Lft.look ρ 2=VC vr->Lft.look ρ 3=VC (ptz M)->Lft.look ρ 4=VC (Vz VA n)->Lft.look ρ 5=VC vt->Lft.look ρ 7=VC vp->Lft.look ρ 11=VC vd->Lft.look ρ 25=VC (Vz VA b)->Lft.look ρ 26=VC vq->Lft.look ρ 27=VC (Vz VA j)->Lft.look ρ 28=VC vi->Lft.look ρ 29=VC (Vz VA k)->Lft.look ρ 30=VC v30->
    LC.wp VI y (eY 29 (fL K2 (eY 28 Q))) ρ h':=by
   intro v30 h' ρ x4 r2 r3 r4 r5 r7 r11 r25 r26 r27 r28 r29 r30;subst hy;generalize rowS s c m2=r at x4 hK2 hq3 hpos hrl0;obtain⟨W4,hW4,x4,s4⟩:=x4.freeze V6 ((Own.aB V5).trans f71);have hrl:=s4.bound;refine aN W4 x4.z.le ?_;simp(disch:=omega)[af,ag,r2,r3,r4,r5,r7,r11,r25,r26,r27,r28,r29,r30,(hq.mono hW4).idx1 rfl,ae hW4 hcell0,s4.len];refine ah V0 (fB x4.z (hq3.z.ok V4) V4 (k:=(r.1.length:Int)) V4 V4) ?_;rintro _ h5 ⟨rfl,n5⟩;refine⟨n5.le,?_⟩;obtain⟨t0,t1⟩:=bU (s:=s) (at_:=r.2.at_) (n:=(r.1.length:Int)) V4;generalize aG s r.2.at_ (r.1.length:Int)=tv at t0 t1 hK2;have hrng:=s4.range (i:=tv.toNat) V4;simp(disch:=omega)[af,ag,r2,r3,r4,r5,r7,r11,r25,r26,r27,r28,r29,r30,s4.idx1 rfl,s4.int Vw];refine aA (z:=zz1) (places:=zpd) (vs:=[(0,Vz VA c),(1,Vz VA (nth r.1 tv.toNat))]) (cs:=#[Vz VA c,Vz VA (nth r.1 tv.toNat)]) V0 V0 V5 V0 ?_;refine n5.x.fW (k:=(7,2)) (α:=InD) (d:=⟨c,nth r.1 tv.toNat⟩) V6 Own.an El.lF rfl (λW=>OV V9 hrng) V4 V4 (λ_=>rfl) (λ_=>rfl) λu v' h6 x6=>?_;refine hK2 v' _ _ ?_ ?_ ((x6.re λq=>by rw[fE]).up hW4)
   ·simp[af,ag,r29]
   simp[aY,af,ag,r2,r3,r4,r5,r7,r11,r25,r26,r27,r28,r29]
  have hsl:=(x3.z.at (k:=(7,1)) V6 Own.an).len (K:=vw h3);have hlen3 : ∀{Q:View},Un.ev Q .len u3=VC (Vz VA sl.length):=fun{Q}=>(x3.z.at (k:=(7,1)) V6 Own.an).len;refine aa λw hw=>?_;simp[hlen3];subst hw;by_cases c0:sl.length=0
  ·have c0':sl=[]:=Ss c0;rw[if_pos c0]at hrow;refine aV (by simp[c0,c0']) ?_;refine aN W0 x3.z.le ?_;simp(disch:=omega)[hq.idx1 rfl,hcell0];refine ah V0 (Cf x3.z (q2.z.ok V4) V4) ?_;rintro _ h4 ⟨rfl,n4⟩;refine⟨n4.le,?_⟩;refine ah V0 (ig n4 (b:=c) (by show c<m2.blocks.length;rw[q2.z.len];exact hcn) (q2.z.took.took.ok V4) V4 tK) ?_;rintro _ h5 ⟨rfl,n5⟩;have i64:I64 m2.next:=by have:=q2.z.n0;have:=q2.z.next;constructor<;>omega
   subst c0';refine n5.x.fW (k:=(7,1)) (α:=Int) (d:=m2.next) V6 Own.an El.aZ rfl (λW=>bu.2 ⟨rfl,i64⟩) V5 V5 (λ_=>rfl) (λ_=>rfl) λu v' h6 x6=>?_;refine fin v' h6 _ ?_ ?_ ?_ ?_ ?_ ?_ ?_ ?_ ?_ ?_ ?_ ?_ ?_
   ·rw[hrow];exact x6.re λq=>by rw[fE];rfl
   all_goals simp
  rw[if_neg c0]at hrow;have c0':¬sl=[]:=λe=>c0 (by rw[e];rfl);refine bg (by simp[c0']) ?_;simp;refine fin u3 h3 _ ?_ ?_ ?_ ?_ ?_ ?_ ?_ ?_ ?_ ?_ ?_ ?_ ?_
  ·rw[hrow];exact x3
  all_goals simp
 rintro vi h2 x2;exact hQ h2 vi x2
end
def Pc(lp:List Int)(m:MS):Prop:=∀j,((nth m.blocks j).phis.length:Int)=nth lp j
variable{lp:List Int}
theorem Pc.grw{m m':MS}{k:Nat}(p:Pc lp m)(g:Grw b k m m'):Pc lp m':=λj=>by
 by_cases e:j=b
 ·subst e;rw[g.phis];exact p j
 rw[g.els j e];exact p j
theorem Pc.iq{m:MS}{x:BlkD}(p:Pc lp m)(hx:x.phis.length=(nth m.blocks b).phis.length):Pc lp { m with blocks:=m.blocks.set b x }:=λj=>by
 show((nth (m.blocks.set b x) j).phis.length:Int)=_;rcases Sb j m.blocks.length with hl | hl
 ·rw[bs hl];split
  ·rename_i e;subst e;rw[hx];exact p b
  exact p j
 rw[bK (by simpa using hl)];have:=p j;rwa [bK hl]at this
theorem Pc.jL{s:List Int}{to:List (List Int)}{n b:Nat}{dn:BL}{away:List BL}{lp:List Int}{m:MS}(p:Pc lp m)(hb:b<m.blocks.length):Pc lp (jL s to n dn away b m):=by have p1:Pc lp (MS.took { m with live:=nu m dn away b n }):=p;have hb1:b<(MS.took { m with live:=nu m dn away b n }).blocks.length:=hb;have g:=((Grw.refl (b:=b) (m:=MS.took { m with live:=nu m dn away b n })).eV (s:=s) hb1 (aG s m.at_ 7).toNat).JL (s:=s) (to:=nth to b) hb1;exact(p1.grw g).iq rfl
theorem Pc.bo{s:List Int}{to:List (List Int)}{n b:Nat}{lp:List Int}{x:BL × MS}(p:Pc lp x.2)(hb:b<x.2.blocks.length):Pc lp (bo s to n b x).2:=by
 unfold Go.Lft.bo;split
 ·exact p.jL hb
 exact p
theorem Pc.rowS{s:List Int}{b:Nat}{lp:List Int}{m:MS}(p:Pc lp m)(hb:b<m.blocks.length):Pc lp (rowS s b m).2:=by
 unfold Go.Lft.rowS;split
 ·have p1:Pc lp m.took.took:=p;exact p1.grw ((Grw.refl (b:=b) (m:=m.took.took)).constant hb)
 exact p
theorem I0{s:List Int}{m:MS}:(rowS s b m).2.blocks.length=m.blocks.length:=by
 unfold rowS;split
 ·exact dX
 rfl
theorem Pc.lV{s:List Int}{pl:List Int}{lp:List Int}{x:List InD × MS}(p:Pc lp x.2)(hb : ∀k,k<pl.length->(nth pl k).toNat<x.2.blocks.length) : ∀k,k<=pl.length->Pc lp (up (cQ s pl) k x).2/\(up (cQ s pl) k x).2.blocks.length=x.2.blocks.length
 | 0,_=>⟨p,rfl⟩
 | k+1,h=>by obtain⟨h1,h2⟩:=Pc.lV (s:=s) p hb k V4;have e:(up (cQ s pl) (k+1) x).2=(Go.Lft.rowS s (nth pl k).toNat (up (cQ s pl) k x).2).2.took:=rfl;rw[e];exact⟨h1.rowS (by rw[h2];exact hb k V4),(pN).trans (I0.trans h2)⟩
theorem Pc.phi3{s:List Int}{b j:Nat}{pl:List Int}{lp:List Int}{m:MS}(p:Pc lp m)(hb : ∀k,k<pl.length->(nth pl k).toNat<m.blocks.length):Pc lp (phi3 s b pl j m)/\(phi3 s b pl j m).blocks.length=m.blocks.length:=by obtain⟨h1,h2⟩:=Pc.lV (s:=s) (pl:=pl) (x:=([],m)) p hb pl.length (RX _);exact⟨h1.iq V5,by show(List.set _ _ _).length=_;rw[SC];exact h2⟩
theorem Pc.qP{s:List Int}{b:Nat}{pl:List Int}{lp:List Int}{m:MS}(p:Pc lp m)(hb : ∀k,k<pl.length->(nth pl k).toNat<m.blocks.length) : ∀k,Pc lp (up (Go.Lft.phi3 s b pl) k m)/\(up (Go.Lft.phi3 s b pl) k m).blocks.length=m.blocks.length
 | 0=>⟨p,rfl⟩
 | k+1=>by obtain⟨h1,h2⟩:=Pc.qP (s:=s) (b:=b) p hb k;obtain⟨h3,h4⟩:=Pc.phi3 (s:=s) (b:=b) (j:=k) h1 (λk hk=>by rw[h2];exact hb k hk);exact⟨h3,h4.trans h2⟩
theorem y8{p:Nat->Bool} : ∀(n:Nat) (v:Int),v∈sift p (λa=>(a:Int)) n->∃c:Nat,v=c/\c<n
 | 0,v,h=>by cases h
 | n+1,v,h=>by
  cases hp:p n with
  | true=>
   rw[pJ hp]at h;rcases R1.1 h with h | h
   ·obtain⟨c,h1,h2⟩:=y8 n v h;exact⟨c,h1,by omega⟩
   rw[RY]at h;exact⟨n,h,by omega⟩
  | false=>rw[nX hp]at h;obtain⟨c,h1,h2⟩:=y8 n v h;exact⟨c,h1,by omega⟩
theorem z8{p:Nat->Bool}(n k:Nat)(hk:k<(sift p (λa=>(a:Int)) n).length): ∃c:Nat,nth (sift p (λa=>(a:Int)) n) k=c/\c<n:=y8 n _ (bh hk)
section
variable{s:List Int}{M:Nat}{vs:Value}{W0:View}{h:Heap}{o0:Own}{m:MS}
theorem Nx.QC[r:Rep α](x:Nx s M vs W0 h o0 m){h':Heap}{u:Value}{l:List α}(hle:(vw h).le (vw h'))(hs:SlRd (fresh h h') u l): ∃W',W0.le W'/\Nx s M vs W' h' o0 m/\SlRd W' u l:=by obtain⟨W,o,g,w,f⟩:=x;have hW:=bC (h':=h') w.own.wle;exact⟨_,Vx g hW,⟨_,o,View.le_refl _,⟨w.own.ext hle,w.src.mono hW,w.box⟩,f⟩,hs.mono (kr W h h')⟩
variable{vb vl:Value}
theorem Mk.Qo{o:Own}(w:Mk s M vs W h o m){lb:List BlkM}(bb:MkB M vs m o vb vl lb){i:Nat}{l:List InD}{v:Value}{x y:Operand}{K:Value->Heap->Prop}(hb:b<m.blocks.length)(hi:i<(nth m.blocks b).phis.length)(hsz:da VI ty2=VC 1)(hx:asg us x = VF (VC (((slA (nth lb b).phis.v).add (i*2)).add 1)))(hy:asg us y=v)(hr:SlRd W v l)(hK : ∀h' o',Mk s M vs W h' o' (m.jM b i l)->(∀k:Key,3<=k.1->o' k=o k)->K undef h'):@Lft.step po VI (.store ty2 x y) ty us h K:=by
 have hbl:b<lb.length:=by rw[bb.len];exact hb
 refine w.own.tA (k:=(1,b)) (α:=PhiD) PhiD.jm (v:=(nth lb b).phis.v) (l:=(nth m.blocks b).phis) (i:=i) (d:=l) (bb.phis b hb) hsz hx hy hi (dw.2 hr) λh7 w7 _=>?_;have hs:lb.set b (nth lb b)=lb:=by rw[az hbl];exact List.set_getElem_self hbl
 have b7:=bb.iq hb (x':={ nth m.blocks b with phis:=(nth m.blocks b).phis.set i { nth (nth m.blocks b).phis i with ins:=l } }) (y':=nth lb b) (o':=o.upd (1,b) (it T.iZ (nth lb b).phis.v ((nth m.blocks b).phis.set i { (nth m.blocks b).phis[i]with ins:=l }))) (bb.term b hb) (by rw[hs,Own.aB V5];exact bb.blk) (by rw[Own.an,az hi]) (by rw[Own.aB V5];exact bb.ins b hb) (λq h1 h2 h3=>Own.aB h2);rw[hs]at b7;exact hK h7 _ ⟨w7,w.src,vb,vl,lb,b7⟩ λk hk=>Own.aB (by rintro rfl;simp at hk)
end
section
variable{s:List Int}{M:Nat}{vs:Value}{W0:View}{h:Heap}{o0:Own}{m:MS}
variable{vd:Value}
theorem KM{a p i cnt:Nat}{vq:Value}(x:Nx s M vs W0 h o0 m)(h5:o0 (5,0)=it T.int vp lp)(f71:o0 (7,1)=VD)(f72:o0 (7,2)=VD)(q:P3 n a p i m)(pc:Pc lp m)(hlp:lp.length=n)(hb:b<n)(hcnt:nth lp b=cnt)(hc3:cnt<=3)(hn:n<=10)(ha:a<=400000)(hia:i<=a)(hp:p<=100)(hi:i<=1900)(hq:SlRd W0 vq pl)(hpl:pl.length<=9)(hpr : ∀k,k<pl.length->∃c:Nat,nth pl k=c/\c<n)(h0:aY [2,3,4,5,7,11,25,26,27] ρ=[(2,vr),(3,ptz M),(4,Vz VA n),(5,vt),(7,vp),(11,vd),(25,Vz VA b),(26,vq),(27,Vz VA 0)])(hQ : ∀h':Heap,Nx s M vs W0 h' o0 (up (phi3 s b pl) cnt m)->Q .normal [(2,vr),(3,ptz M),(4,Vz VA n),(5,vt),(7,vp),(11,vd),(25,Vz VA b),(26,vq),(27,Vz VA cnt)] h'):
  LC.wp VI (.block 26 (.loop L.au.l14)) Q ρ h:=by
 simp only[aX];refine dy [2,3,4,5,7,11,25,26,27] (fun(_:Unit) k=>[vr,ptz M,Vz VA n,vt,vp,vd,Vz VA b,vq,Vz VA k]) (λ_ k h2=>Nx s M vs W0 h2 o0 (up (phi3 s b pl) k m)) cnt ()
  rfl V4 h0 x (λ_ _=>rfl) (λv k h2 hk2 x2=>by have sp:=x2.z.at V6 h5;have e:=sp.int Vw (i:=b) V4;rw[hcnt]at e;simp(disch:=omega)[sp.idx1 rfl,e]) ?_ ?_
 ·rintro _ k h2 hlt x2 K2 hK2;have hpn : ∀j,j<pl.length->(nth pl j).toNat<m.blocks.length:=λj hj=>by obtain⟨c,h1,h2⟩:=hpr j hj;rw[h1,q.z.len];simpa using h2
  have q2:=(qP (s:=s) (b:=b) q hpl k).mono (a':=a+200) (p':=p) (i':=i+30) V4 (RX _) V4;obtain⟨pc2,hlen2⟩:=Pc.qP (s:=s) (b:=b) pc hpn k;have e2:up (phi3 s b pl) (k+1) m=phi3 s b pl k (up (phi3 s b pl) k m):=rfl;rw[e2]at hK2;generalize up (phi3 s b pl) k m=m2 at x2 hK2 q2 pc2 hlen2;have hpn2 : ∀j,j<pl.length->(nth pl j).toNat<m2.blocks.length:=λj hj=>by rw[hlen2];exact hpn j hj
  obtain⟨pc3,hlen3⟩:=Pc.lV (s:=s) (pl:=pl) (x:=([],m2)) pc2 hpn2 pl.length (RX _);simp only[aX];refine aa λy hy=>?_;simp;refine x2.mQ (k:=(7,2)) (α:=InD) V6 f72 El.lF λvi h3 hvi x3=>?_;subst hy;refine aa λy hy=>?_;refine aa λw hw=>?_;simp;subst hw;refine Ly (vr:=vr) (vt:=vt) (vp:=vp) (vd:=vd) (vq:=vq) (vi:=vi) (b:=b) (j:=k) x3 f71 q2 hn V4 V4 hp V4 hq hpl hpr (by simp[aY,af,ag]) λh4 vi x4=>?_;obtain⟨W4,hW4,x4,s4⟩:=x4.freeze V6 f72;have e3:phi3 s b pl k m2=(up (cQ s pl) pl.length ([],m2)).2.jM b k (up (cQ s pl) pl.length ([],m2)).1:=rfl;rw[e3]at hK2;have hb4:b<(up (cQ s pl) pl.length ([],m2)).2.blocks.length:=by rw[hlen3];show b<m2.blocks.length;rw[hlen2,q.z.len];exact hb
  have hph:((nth (up (cQ s pl) pl.length ([],m2)).2.blocks b).phis.length:Int)=cnt:=(pc3 b).trans hcnt;generalize up (cQ s pl) pl.length ([],m2)=r at x4 hK2 s4 hb4 hph;obtain⟨W,o,g,w,f⟩:=x4;obtain⟨vb,vl,lb,bb⟩:=w.box;have rd:=w.reads bb;have hbb:b<lb.length:=by rw[bb.len];exact hb4
  have sb:=w.own.now bb.blk;have sbb:=sb.bound;have c1:aq (vw h4) (((slA vb).add (b*6)).add 0)=VC (nth lb b).phis.v:=by have:=((sb.at hbb).part BlkM.uC).raw;rw[az hbb];exact this
  have sph:=w.own.now (bb.phis b hb4);simp;subst hy;have r5:Bn.ev (.idx 2) (nth lb b).phis.v (Vz VA k)=VC (VF (VC ((slA (nth lb b).phis.v).add (k*2)))):=by have:=sph.idxn (N:=2) rfl (k:=.i64) (i:=k) V4 V4;simpa using this
  simp(disch:=omega)[rd.cb,sb.idxn (N:=6) rfl,c1,r5];refine w.Qo bb (b:=b) (i:=k) (l:=r.1) hb4 V4 V0 rfl rfl (s4.mono g) λh5 o5 w5 f5=>?_;refine hK2 () _ _ rfl rfl ?_;exact⟨W,o5,Vx hW4 g,w5,λq hq=>(f5 q hq).trans (f q hq)⟩
 rintro _ h2 x2;exact hQ h2 x2
theorem MT{a p i k:Nat}{m:MS}(q:P3 n a p i m)(pc:Pc lp m)(hr : ∀j,nth lp j<=3)(hn:n<=9):P3 n (a+162) p (i+27) (blk3 s lp k m)/\Pc lp (blk3 s lp k m):=by
 have hpl:(aJ m.f ((k+1:Nat):Int)).length<=n:=by have:=qv (p:=λa=>decide (((k+1:Nat):Int)∈(nth m.f.blocks a).term.to)) (x:=λa=>(a:Int)) m.f.blocks.length;rw[show m.f.blocks.length=n from q.z.len]at this;unfold aJ;rw[show m.f.blocks.length=n from q.z.len];exact this
 have hpn : ∀j,j<(aJ m.f ((k+1:Nat):Int)).length->(nth (aJ m.f ((k+1:Nat):Int)) j).toNat<m.blocks.length:=λj hj=>by obtain⟨c,h1,h2⟩:=z8 _ j hj;have h1:nth (aJ m.f ((k+1:Nat):Int)) j=c:=h1;rw[h1];have h2:c<m.blocks.length:=h2;simpa using h2
 have h3:=hr (k+1);unfold blk3;exact⟨(qP q V4 _).mono V4 (RX _) V4,(Pc.qP pc hpn _).1⟩
theorem CZ{n a p i:Nat}{lp:List Int}{m:MS}(q:P3 n a p i m)(pc:Pc lp m)(hr : ∀j,nth lp j<=3)(hn:n<=9) : ∀k,P3 n (a+162*k) p (i+27*k) (up (blk3 s lp) k m)/\Pc lp (up (blk3 s lp) k m)
 | 0=>⟨q,pc⟩
 | k+1=>by obtain⟨h1,h2⟩:=CZ q pc hr hn k;obtain⟨h3,h4⟩:=MT (s:=s) (k:=k) h1 h2 hr hn;exact⟨h3.mono V4 (RX _) V4,h4⟩
theorem JP{a p i:Nat}(x:Nx s M vs W0 h o0 m)(h5:o0 (5,0)=it T.int vp lp)(f71:o0 (7,1)=VD)(f72:o0 (7,2)=VD)(q:P3 n a p i m)(pc:Pc lp m)(hlp:lp.length=n)(hr : ∀j,0<=nth lp j/\nth lp j<=3)(hn1:1<=n)(hn:n<=9)(ha:a<=300000)(hia:i<=a)(hp:p<=100)(hi:i<=1000)(h0:aY [2,3,4,5,7,11,25] ρ=[(2,vr),(3,ptz M),(4,Vz VA n),(5,vt),(7,vp),(11,vd),(25,Vz VA 1)])(hQ : ∀h':Heap,Nx s M vs W0 h' o0 (up (blk3 s lp) (n-1) m)->Q .normal [(2,vr),(3,ptz M),(4,Vz VA n),(5,vt),(7,vp),(11,vd),(25,Vz VA n)] h'):
  LC.wp VI (.block 24 (.loop L.au.l13)) Q ρ h:=by
 simp only[aX];refine zt [2,3,4,5,7,11,25] (fun(_:Unit) k=>[vr,ptz M,Vz VA n,vt,vp,vd,Vz VA ((k+1:Nat):Int)]) (λ_ k h2=>Nx s M vs W0 h2 o0 (up (blk3 s lp) k m)) (n-1) 1 ()
  rfl V4 h0 x (λ_ _=>rfl) (λv k h2 hk2 m=>by simp;omega) ?_ ?_
 ·rintro _ k h2 hlt x2 K2 hK2;obtain⟨q2,pc2⟩:=CZ (s:=s) q pc (λj=>(hr j).2) hn k;have e2:up (blk3 s lp) (k+1) m=blk3 s lp k (up (blk3 s lp) k m):=rfl;rw[e2]at hK2;generalize up (blk3 s lp) k m=m2 at x2 hK2 q2 pc2;have hb2:blk3 s lp k m2=_:=blk3.eq_1 s lp k m2;rw[hb2]at hK2;simp only[aX];refine aa λy hy=>?_;obtain⟨vb,vl,rd⟩:=x2.z.reads;simp[rd.f];refine ah V0 (yn (b:=((k+1:Nat):Int)) (rd.rd (LO q2.z)) (by show m2.blocks.length<=_;rw[q2.z.len];omega)) ?_;rintro vq h3 ⟨hle3,hq⟩;obtain⟨W3,hW3,x3,sq⟩:=x2.QC hle3 hq;clear rd hq;have hpl:(aJ m2.f ((k+1:Nat):Int)).length<=n:=by have:=qv (p:=λa=>decide (((k+1:Nat):Int)∈(nth m2.f.blocks a).term.to)) (x:=λa=>(a:Int)) m2.f.blocks.length;unfold aJ;rw[show m2.f.blocks.length=n from q2.z.len]at this ⊢;exact this
  have hpr : ∀j,j<(aJ m2.f ((k+1:Nat):Int)).length->∃c:Nat,nth (aJ m2.f ((k+1:Nat):Int)) j=c/\c<n:=λj hj=>by obtain⟨c,h1,h2⟩:=z8 _ j hj;exact⟨c,h1,by rw[show m2.f.blocks.length=n from q2.z.len]at h2;exact h2⟩
  generalize aJ m2.f ((k+1:Nat):Int)=pl at sq hpl hpr hK2;obtain⟨r0,r1⟩:=hr (k+1);subst hy;refine aa λy hy=>?_;simp;subst hy;refine KM (vr:=vr) (vt:=vt) (vp:=vp) (vd:=vd) (vq:=vq) (b:=k+1) (cnt:=(nth lp (k+1)).toNat) x3 h5 f71 f72 q2 pc2 hlp V4 V4 V4 V4 V4 V4 hp V4 sq V4 hpr (by simp[aY,af,ag]) λh4 x4=>?_;simp;refine hK2 () _ _ rfl rfl (x4.up hW3)
 rintro _ h2 x2;have e:n-1+1=n:=by omega
 have:=hQ h2 x2;simpa[e]using this
theorem Gx{a p:Nat}{x0:BL × MS}(q:B2 n a p x0)(hn:n<=10)(hp:p<=100)(ha:16000<=a): ∀j,j<=n->B2 n (a+600*j) p (up (bo s to n) j x0):=by
 intro j;induction j with
 | zero=>intro _;exact q
 | succ j ih=>intro hj;have:=uP (s:=s) (to:=to) (b:=j) (ih V4) V4 hn hp V4 λh=>qq h;exact⟨this.z.mono V4 (RX _) (RX _),this.len,this.none⟩
theorem Mr{a p:Nat}{x0:BL × MS}(q:B2 n a p x0)(hn:n<=10)(hp:p<=100)(ha:16000<=a)(j:Nat):B2 n (a+600*n*j) p (up (λ_=>up (bo s to n) n) j x0):=by
 induction j with
 | zero=>exact q
 | succ j ih=>have:=Gx (s:=s) (to:=to) ih hn hp V4 n (RX _);exact⟨this.z.mono (by rw[Uh];omega) (RX _) (RX _),this.len,this.none⟩
theorem Ms{a p:Nat}{x0:BL × MS}(x:Nx s M vs W0 h (o0.upd (6,0) (it T.bool vd x0.1)) x0.2)(hto:SlRd W0 vt to)(htl:to.length=n)(f7:o0 (7,0)=VD)(f90:o0 (9,0)=VD)(f91:o0 (9,1)=VD)(q:B2 n a p x0)(hn:n<=9)(hp:p<=100)(ha:16000<=a)(ha2:a<=30000)(h0:aY [2,3,4,5,7,11,12] ρ=[(2,vr),(3,ptz M),(4,Vz VA n),(5,vt),(7,vp),(11,vd),(12,Vz VA 0)])(hQ : ∀h':Heap,Nx s M vs W0 h' (o0.upd (6,0) (it T.bool vd (up (λ_=>up (bo s to n) n) n x0).1)) (up (λ_=>up (bo s to n) n) n x0).2->Q .normal [(2,vr),(3,ptz M),(4,Vz VA n),(5,vt),(7,vp),(11,vd),(12,Vz VA n)] h'):
  LC.wp VI (.block 6 (.loop L.au.l4)) Q ρ h:=by
 simp only[aX];refine dy [2,3,4,5,7,11,12] (fun(_:Unit) j=>[vr,ptz M,Vz VA n,vt,vp,vd,Vz VA j]) (λ_ j h2=>Nx s M vs W0 h2 (o0.upd (6,0) (it T.bool vd (up (λ_=>up (bo s to n) n) j x0).1)) (up (λ_=>up (bo s to n) n) j x0).2) n ()
  rfl V4 h0 x (λ_ _=>rfl) (λv k h2 hk2 x2=>by simp) ?_ ?_
 ·rintro _ t h2 hlt x2 K2 hK2;have q2:=Mr (s:=s) (to:=to) q V4 hp ha t;have hbd:600*n*t<=5400*9:=T9 V4 V4;have e2:up (λ_=>up (bo s to n) n) (t+1) x0=up (bo s to n) n (up (λ_=>up (bo s to n) n) t x0):=rfl;rw[e2]at hK2;generalize up (λ_=>up (bo s to n) n) t x0=y at x2 hK2 q2;simp only[aX];refine aa λy hy=>?_;simp;subst hy;refine Mi (vr:=vr) (vt:=vt) (vp:=vp) (vd:=vd) (t:=t) x2 hto htl f7 f90 f91 q2 V4 hp V4 V4 (by simp[aY,af,ag]) λh3 x3=>?_;simp;exact hK2 () _ _ rfl rfl x3
 rintro _ h2 x2;exact hQ h2 x2
end
section
variable{s:List Int}
theorem fT:1<=aT s/\aT s<=9:=by have:=bU (s:=s) (at_:=1) (n:=9) V6;unfold aT;omega
theorem I6:((aT s:Nat):Int)=1+aG s 1 9:=by have:=bU (s:=s) (at_:=1) (n:=9) V6;unfold aT;omega
theorem EC:(yu s).ok 4:=by have:=bU (s:=s) (at_:=0) (n:=5) V6;refine⟨by show 2<=4;omega,by show 0<=aG s 0 5;omega,by show aG s 0 5<=_;omega,by show 0<=4;omega,λi=>?_⟩;show(nth ([]:List BlkD) i).ins.length<=4;rw[bK V5];show 0<=4;omega
theorem Cd:TgK (aT s) 112 (fA s):=by
 obtain⟨h1,h2⟩:=fT (s:=s);have k1:TgK (aT s) 4 (List.replicate (aT s) [],yu s):=⟨by simp,λi=>by
  rcases Sb i (aT s)with hi | hi
  ·rw[aD hi];show 0<=4;omega
  rw[bK (by simpa using hi)];show 0<=4;omega,EC⟩;exact(Gj (s:=s) (Cj (s:=s) k1 (aT s-1)) (aT s)).mono V4
def ug(m m':MS):Prop:=m'.ps=m.ps/\m'.blocks=m.blocks/\m'.next=m.next/\m'.live=m.live
theorem KL{m:MS}{k:Nat}{x:TgS}(h:ug m x.2):ug m (tgA s k x).2:=by unfold tgA;split<;>exact h
theorem J4{m:MS}{x:TgS}(h:ug m x.2):ug m (tgI s n b x).2:=by
 unfold tgI;simp only;repeat' split
 all_goals exact h
theorem L4{m:MS}{x:TgS}(h:ug m x.2):ug m (tgB s n b x).2:=
 xq (λx:TgS=>ug m x.2) (λ_ _ h=>J4 h) _ _ h
theorem uL:ug (yu s) (fA s).2:=
 xq (λx:TgS=>ug (yu s) x.2) (λ_ _ h=>L4 h) _ _ (xq (λx:TgS=>ug (yu s) x.2) (λ_ _ h=>KL h) _ _ ⟨rfl,rfl,rfl,rfl⟩)
theorem DU{m:MS}{a n:Nat}{to:List (List Int)}(z:Sz n a 0 0 m)(g:Gd m)(pc : ∀j,(nth m.blocks j).phis.length=0)(ht : ∀j,(nth to j).length<=1000) : ∀k,Sz n a 0 0 (up (λb m=>MS.jU m b (nth to b)) k m)/\Gd (up (λb m=>MS.jU m b (nth to b)) k m)
 | 0=>⟨z,g⟩
 | k+1=>by obtain⟨h1,h2⟩:=DU z g pc ht k;exact⟨h1.iq (h1.phis k) (h1.ins k),h2.jU (ht k)⟩
theorem xP{j:Nat}:(nth (List.replicate n sL) j).phis.length=0/\(nth (List.replicate n sL) j).ins.length=0:=by
 rcases Sb j n with hj | hj
 ·rw[aD hj];exact⟨rfl,rfl⟩
 rw[bK (by simpa using hj)];exact⟨rfl,rfl⟩
theorem D9:Sz (aT s) 200 0 0 (ny s)/\Gd (ny s):=by
 have k:=Cd (s:=s);have e:=uL (s:=s);have t:=bU (s:=s) (at_:=0) (n:=5) V6;refine DU ⟨?_,?_,?_,?_,?_,?_,?_,λj=>?_,λj=>?_⟩ (λj hj=>?_) (λj=>(xP).1) (λj=>by have:=k.row j;omega) _
 ·show(fA s).2.at_<=200;have:=k.ok.at_;omega
 ·exact k.ok.n0
 ·show(fA s).2.next<=_;have:=k.ok.next;omega
 ·show(fA s).2.live.length<=200;have:=k.ok.live;omega
 ·show 0<=(fA s).2.ps;rw[e.1];show 0<=aG s 0 5;omega
 ·show(fA s).2.ps<=4;rw[e.1];show aG s 0 5<=4;omega
 ·show(List.replicate (aT s) sL).length=_;simp
 ·show(nth (List.replicate (aT s) sL) j).phis.length<=0;rw[(xP).1];omega
 ·show(nth (List.replicate (aT s) sL) j).ins.length<=0;rw[(xP).2];omega
 have hj:j<aT s:=by simpa using hj
 show GdB (nth (List.replicate (aT s) sL) j);rw[aD hj];exact⟨λi h=>(by cases h),by show 0<=10;omega,by show 0<=1000;omega,λi h=>(by cases h)⟩
theorem sJ{m:MS}{b:Nat}(hb:b<m.blocks.length) : ∀c j,(nth (up (λ_=>dE b) c m).blocks j).phis.length=(nth m.blocks j).phis.length+(if j=b then c else 0)/\(up (λ_=>dE b) c m).blocks.length=m.blocks.length
 | 0,j=>⟨by show(nth m.blocks j).phis.length=_;split<;>omega,rfl⟩
 | c+1,j=>by
  obtain⟨h1,h2⟩:=sJ hb c j;obtain⟨h3,_⟩:=sJ hb c b;have e:(up (λ_=>dE b) (c+1) m).blocks=(up (λ_=>dE b) c m).blocks.set b { nth (up (λ_=>dE b) c m).blocks b with phis:=(nth (up (λ_=>dE b) c m).blocks b).phis++[⟨(up (λ_=>dE b) c m).next,[]⟩] }:=rfl;rw[e];refine⟨?_,by rw[SC];exact h2⟩;rcases Sb j m.blocks.length with hl | hl
  ·rw[bs (by rw[h2];exact hl)];by_cases ej:b=j
   ·subst ej;rw[if_pos rfl,if_pos rfl];rw[if_pos rfl]at h3;show(_++[_]).length=_;rw[Sf,h3,Su];omega
   rw[if_neg ej,if_neg (λq=>ej q.symm)];rw[if_neg (λq=>ej q.symm)]at h1;exact h1
  rw[bK (by rw[SC,h2];exact hl),bK hl,if_neg V4];rfl
theorem A1{n a:Nat}{x:List Int × MS}(p:Ph n a 0 x)(pc:Pc x.1 x.2)(g:Gd x.2) : ∀k,k<n->Pc (up (dP s) k x).1 (up (dP s) k x).2/\Gd (up (dP s) k x).2
 | 0,_=>⟨pc,g⟩
 | k+1,hk=>by
  obtain⟨h1,h2⟩:=A1 p pc g k V4;have q:=C0 (s:=s) p k;have e:up (dP s) (k+1) x=dP s k (up (dP s) k x):=rfl;rw[e];generalize up (dP s) k x=y at h1 h2 q;obtain⟨c0,c1⟩:=qE (s:=s) (m:=y.2) (b:=k+1);have hb:k+1<y.2.took.blocks.length:=by show k+1<y.2.blocks.length;rw[q.z.len];exact hk
  refine⟨λj=>?_,h2.took.nF _⟩;have h3:=(sJ hb (iD s y.2 (k+1)).toNat j).1;show((nth (up (λ_=>dE (k+1)) (iD s y.2 (k+1)).toNat y.2.took).blocks j).phis.length:Int)=nth (y.1.set (k+1) (iD s y.2 (k+1))) j;rw[h3];have h4:=h1 j;have h5:nth y.2.took.blocks j=nth y.2.blocks j:=rfl;rw[h5];rcases Sb j y.1.length with hl | hl
  ·rw[bs hl];by_cases ej:k+1=j
   ·subst ej;rw[if_pos rfl,if_pos rfl];rw[q.zero (k+1) V4]at h4;omega
   rw[if_neg ej,if_neg (λr=>ej r.symm)];omega
  have e1:nth (y.1.set (k+1) (iD s y.2 (k+1))) j=default:=bK (by simpa using hl);have e2:nth y.1 j=default:=bK hl;rw[e1];rw[e2]at h4;have:=q.len;rw[if_neg V4];omega
theorem sv:Ph (aT s) 200 (aT s-1) (gL s)/\Pc (gL s).1 (gL s).2/\Gd (gL s).2:=by
 obtain⟨h1,h2⟩:=fT (s:=s);obtain⟨z,g⟩:=D9 (s:=s);have hz : ∀j,nth (List.replicate (aT s) (0:Int)) j=0:=λj=>by
  rcases Sb j (aT s)with hj | hj
  ·rw[aD hj]
  rw[bK (by simpa using hj)];rfl
 have p0:Ph (aT s) 200 0 (List.replicate (aT s) (0:Int),ny s):=⟨z,by simp,λj _=>hz j,λj=>by rw[hz];omega⟩;have pc:Pc (List.replicate (aT s) (0:Int)) (ny s):=λj=>by have:=z.phis j;rw[hz];omega
 obtain⟨q1,q2⟩:=A1 (s:=s) p0 pc g (aT s-1) V4;exact⟨C0 p0 _,q1,q2⟩
theorem Gd.jL{to:List (List Int)}{n b:Nat}{dn:BL}{away:List BL}{m:MS}(g:Gd m)(ht:(nth to b).length<=1000):Gd (jL s to n dn away b m):=by have g1:Gd (MS.took { m with live:=nu m dn away b n }):=g;exact(Gd.eV g1 _).Qj ht
theorem Gd.bo{to:List (List Int)}{n b:Nat}{x:BL × MS}(g:Gd x.2)(ht:(nth to b).length<=1000):Gd (bo s to n b x).2:=by
 unfold Go.Lft.bo;split
 ·exact g.jL ht
 exact g
structure M4(n a p:Nat)(lp:List Int)(x:BL × MS):Prop where
 b2:B2 n a p x
 gd:Gd x.2
 pc:Pc lp x.2
theorem M4.step{to:List (List Int)}{n a p b:Nat}{lp:List Int}{x:BL × MS}(q:M4 n a p lp x)(hb:b<n)(hn:n<=10)(hp:p<=100)(ha:16000<=a)(ht : ∀j,(nth to j).length<=1000):M4 n (a+600) p lp (bo s to n b x):=
 ⟨uP q.b2 hb hn hp ha λh=>qq h,q.gd.bo (ht b),q.pc.bo (by rw[q.b2.z.len];exact hb)⟩
theorem M4.blk{a p:Nat}{x:BL × MS}(q:M4 n a p lp x)(hn:n<=10)(hp:p<=100)(ha:16000<=a)(ht : ∀j,(nth to j).length<=1000)(k:Nat)(hk:k<=n):M4 n (a+600*k) p lp (up (Go.Lft.bo s to n) k x):=by
 induction k with
 | zero=>exact q
 | succ k ih=>have:=(ih V4).step (s:=s) (to:=to) (b:=k) V4 hn hp V4 ht;exact⟨⟨this.b2.z.mono V4 (RX _) (RX _),this.b2.len,this.b2.none⟩,this.gd,this.pc⟩
theorem M4.turn{a p:Nat}{x:BL × MS}(q:M4 n a p lp x)(hn:n<=10)(hp:p<=100)(ha:16000<=a)(ht : ∀j,(nth to j).length<=1000)(k:Nat):M4 n (a+600*n*k) p lp (up (λ_=>up (Go.Lft.bo s to n) n) k x):=by
 induction k with
 | zero=>exact q
 | succ k ih=>have:=ih.blk (s:=s) (to:=to) hn hp V4 ht n (RX _);exact⟨⟨this.b2.z.mono (by rw[Uh];omega) (RX _) (RX _),this.b2.len,this.b2.none⟩,this.gd,this.pc⟩
theorem Ed:B2 (aT s) 16000 27 (List.replicate (aT s) VH,(gL s).2):=by obtain⟨h1,h2⟩:=fT (s:=s);obtain⟨p,_,_⟩:=sv (s:=s);refine⟨p.z.mono V4 V4 V4,by simp,λj hj _=>?_⟩;have:=p.z.ins j;show(nth (gL s).2.blocks j).ins.length=0;omega
theorem zz:P3 (aT s) 70000 27 700 (pM s).2/\Pc (gL s).1 (pM s).2:=by
 obtain⟨h1,h2⟩:=fT (s:=s);obtain⟨p,pc,g⟩:=sv (s:=s);have ht : ∀j,(nth (fA s).1 j).length<=1000:=λj=>by have:=(Cd (s:=s)).row j;omega
 have q0:M4 (aT s) 16000 27 (gL s).1 (List.replicate (aT s) VH,(gL s).2):=⟨Ed,g,pc⟩;have q:=q0.turn (s:=s) (to:=(fA s).1) V4 V4 V4 ht (aT s);have hbd:600*aT s*aT s<=5400*9:=T9 V4 V4;exact⟨⟨q.b2.z.mono V4 (RX _) (RX _),q.gd⟩,q.pc⟩
theorem rM:P3 (aT s) 72000 27 1000 (iK s):=by obtain⟨h1,h2⟩:=fT (s:=s);obtain⟨p,_,_⟩:=sv (s:=s);obtain⟨q,pc⟩:=zz (s:=s);have:=(CZ (s:=s) q pc (λj=>(p.rng j).2) h2 (aT s-1)).1;exact this.mono V4 (RX _) V4
theorem N3:SmF (sZ s):=(rM (s:=s)).g.smF (rM (s:=s)).z (by have:=fT (s:=s);omega) V4 V4
theorem xS:0<=(sZ s).params/\(sZ s).params<=4:=⟨(rM (s:=s)).z.ps0,(rM (s:=s)).z.ps1⟩
end
def mkB(x:BlkD):List Int:=x.phis.map PhiD.dst++x.ins.flatMap bz
def Sd(m:MS)(b p:Nat)(v:Int):Prop:=
 (0<=v/\v<m.ps)\/v∈(nth m.blocks b).phis.map PhiD.dst\/v∈((nth m.blocks b).ins.take p).flatMap bz\/∃a,a<m.blocks.length/\a≠b/\v∈mkB (nth m.blocks a)/\¬Re (ofG m.blocks) a b
structure Ext(m m':MS):Prop where
 ps:m'.ps=m.ps
 len:m'.blocks.length=m.blocks.length
 to : ∀j,(nth m'.blocks j).term.to=(nth m.blocks j).term.to
 phis : ∀j,∀v∈(nth m.blocks j).phis.map PhiD.dst,v∈(nth m'.blocks j).phis.map PhiD.dst
 ins : ∀j,∃l,(nth m'.blocks j).ins=(nth m.blocks j).ins++l
theorem ID{a b:List BlkD}(hl:a.length=b.length)(h : ∀j,(nth a j).term.to=(nth b j).term.to):ofG a=ofG b:=by unfold ofG;rw[hl];exact congrFun (congrArg rows (funext λi=>by rw[h i])) _
section
variable{m m' m2:MS}
theorem Ext.gr(e:Ext m m'):ofG m'.blocks=ofG m.blocks:=ID e.len e.to
theorem Ext.refl:Ext m m:=⟨rfl,rfl,λ_=>rfl,λ_ _ h=>h,λ_=>⟨[],by simp⟩⟩
theorem Ext.trans(e:Ext m m')(f:Ext m' m2):Ext m m2:=⟨f.ps.trans e.ps,f.len.trans e.len,λj=>(f.to j).trans (e.to j),λj v h=>f.phis j v (e.phis j v h),λj=>by obtain⟨l,h⟩:=e.ins j;obtain⟨k,g⟩:=f.ins j;exact⟨l++k,by rw[g,h,Sk]⟩⟩
theorem Ext.mkB(e:Ext m m'){j:Nat}{v:Int}(h:v∈mkB (nth m.blocks j)):v∈mkB (nth m'.blocks j):=by
 obtain⟨l,g⟩:=e.ins j;unfold Go.Lft.mkB at *;rw[g,Tz];rcases R1.1 h with h | h
 ·exact SK _ (e.phis _ _ h)
 exact SQ _ (SK _ h)
theorem Ext.le(e:Ext m m')(j:Nat):(nth m.blocks j).ins.length<=(nth m'.blocks j).ins.length:=by obtain⟨l,g⟩:=e.ins j;rw[g,Sf];omega
theorem Sd.ext(e:Ext m m'){b p:Nat}{v:Int}(h:Sd m b p v):Sd m' b p v:=by
 rcases h with h | h | h | ⟨a,h1,h2,h3,h4⟩
 ·exact .inl (by rw[e.ps];exact h)
 ·exact .inr (.inl (e.phis _ _ h))
 ·obtain⟨l,g⟩:=e.ins b;refine .inr (.inr (.inl ?_));rw[g,TK,Tz];exact SK _ h
 exact .inr (.inr (.inr ⟨a,by rw[e.len];exact h1,h2,e.mkB h3,by rw[e.gr];exact h4⟩))
theorem Sd.le{p q:Nat}{v:Int}(h:Sd m b p v)(hpq:p<=q):Sd m b q v:=by
 rcases h with h | h | h | h
 ·exact .inl h
 ·exact .inr (.inl h)
 ·refine .inr (.inr (.inl ?_));obtain⟨i,hi,hv⟩:=Te.1 h;exact Te.2 ⟨i,(List.take_sublist_take_left hpq).subset hi,hv⟩
 exact .inr (.inr (.inr h))
theorem Sd.end(e:Ext m m'){v:Int}(h:Sd m b (nth m.blocks b).ins.length v):Sd m' b (nth m'.blocks b).ins.length v:=(h.ext e).le (e.le b)
def NumI(i:InsD):Prop:=(i.op=16->i.dst=0)/\(i.op≠18->i.two=0)
structure Ok(m:MS):Prop where
 p0:0<=m.ps
 pn:m.ps<=m.next
 op : ∀b,b<m.blocks.length->∀i∈(nth m.blocks b).ins,py i=VH/\NumI i
 nd : ∀b,b<m.blocks.length->(mkB (nth m.blocks b)).Nodup
 dj : ∀a b,a<m.blocks.length->b<m.blocks.length->a≠b->∀v∈mkB (nth m.blocks a),v∉mkB (nth m.blocks b)
 rg : ∀b,b<m.blocks.length->∀v∈mkB (nth m.blocks b),m.ps<=v/\v<m.next
 tk : ∀b,b<m.blocks.length->∀i,i<(nth m.blocks b).ins.length->∀v∈(nth (nth m.blocks b).ins i).args,Sd m b i v
 tm : ∀b,b<m.blocks.length->∀v∈(nth m.blocks b).term.args,Sd m b (nth m.blocks b).ins.length v
theorem Ok.at(q:Ok m){a:Nat}{nx:Int}{l:List Int}(h:m.next<=nx):Ok ⟨a,m.ps,m.blocks,nx,l⟩:=
 ⟨q.p0,Int.le_trans q.pn h,q.op,q.nd,q.dj,λb hb v hv=>⟨(q.rg b hb v hv).1,Int.lt_of_lt_of_le (q.rg b hb v hv).2 h⟩,q.tk,q.tm⟩
theorem tF{j:Nat}{i:InsD}(hb:b<m.blocks.length):nth (m.add b i).blocks j=if b=j then{ nth m.blocks b with ins:=(nth m.blocks b).ins++[i] } else nth m.blocks j:=by
 show nth (m.blocks.set b _) j=_;rcases Sb j m.blocks.length with hl | hl
 ·rw[bs hl]
 rw[bK (by simpa using hl),if_neg V4,bK hl]
theorem Cr{i:InsD}(hb:b<m.blocks.length):Ext m (m.add b i):=by
 refine⟨rfl,mF,λj=>?_,λj=>?_,λj=>?_⟩<;>rw[tF hb]<;>split
 ·rename_i e;rw[e]
 ·rfl
 ·rename_i e;rw[e];exact λ_ h=>h
 ·exact λ_ h=>h
 ·rename_i e;rw[e];exact⟨[i],rfl⟩
 exact⟨[],by simp⟩
theorem yR{x:BlkD}{i:InsD}:mkB { x with ins:=x.ins++[i] }=mkB x++bz i:=by unfold mkB;simp
theorem Ok.add(q:Ok m){b a:Nat}{nx:Int}{i:InsD}{l:List Int}(hb:b<m.blocks.length)(hn:m.next<=nx)(hf : ∀v∈bz i,m.next<=v/\v<nx)(hd:(bz i).Nodup)(ho:py i=VH/\NumI i)(ha : ∀v∈i.args,Sd m b (nth m.blocks b).ins.length v) :
  Ok (MS.add ⟨a,m.ps,m.blocks,nx,l⟩ b i):=by
 have q1:=q.pn;have q:=q.at (a:=a) (l:=l) hn;have ha : ∀v∈i.args,Sd ⟨a,m.ps,m.blocks,nx,l⟩ b (nth m.blocks b).ins.length v:=ha;have q0 : ∀b,b<m.blocks.length->∀v∈mkB (nth m.blocks b),v<m.next:=λb hb v hv=>(‹Ok m›.rg b hb v hv).2;have hl:((⟨a,m.ps,m.blocks,nx,l⟩:MS).add b i).blocks.length=m.blocks.length:=mF;have e:=Cr (m:=⟨a,m.ps,m.blocks,nx,l⟩) (i:=i) hb;have hnth : ∀j,nth ((⟨a,m.ps,m.blocks,nx,l⟩:MS).add b i).blocks j=if b=j then{ nth m.blocks b with ins:=(nth m.blocks b).ins++[i] } else nth m.blocks j:=λj=>tF hb;refine⟨q.p0,q.pn,λc hc=>?_,λc hc=>?_,λc d hc hd' hcd=>?_,λc hc=>?_,λc hc=>?_,λc hc=>?_⟩<;>rw[hl]at hc
 ·rw[hnth];split
  ·intro x hx;rcases R1.1 hx with hx | hx
   ·exact q.op b hb x hx
   rw[RY.1 hx];exact ho
  exact q.op c hc
 ·rw[hnth];split
  ·rw[yR];refine Ti.2 ⟨q.nd b hb,hd,λx hx y hy=>?_⟩;have:=q0 b hb x hx;have:=(hf y hy).1;omega
  exact q.nd c hc
 ·rw[hl]at hd';rw[hnth,hnth];intro v hv hv';split at hv
  ·rename_i e1;subst e1;rw[if_neg hcd]at hv';rw[yR]at hv;rcases R1.1 hv with hv | hv
   ·exact q.dj _ _ hc hd' hcd v hv hv'
   have:=q0 d hd' v hv';have:=(hf v hv).1;omega
  split at hv'
  ·rename_i e1;subst e1;rw[yR]at hv';rcases R1.1 hv' with hv' | hv'
   ·exact q.dj _ _ hc hd' hcd v hv hv'
   have:=q0 c hc v hv;have:=(hf v hv').1;omega
  exact q.dj _ _ hc hd' hcd v hv hv'
 ·rw[hnth];split
  ·intro v hv;rw[yR]at hv;rcases R1.1 hv with hv | hv
   ·exact q.rg b hb v hv
   have h1:=hf v hv;have h2:m.ps<=m.next:=q1;exact⟨by show m.ps<=v;omega,h1.2⟩
  exact q.rg c hc
 ·intro k hk v hv;refine Sd.ext e ?_;rw[hnth]at hk hv;split at hk
  ·rename_i e1;subst e1;rw[if_pos rfl]at hv;rw[show({ nth m.blocks b with ins:=(nth m.blocks b).ins++[i] }:BlkD).ins=(nth m.blocks b).ins++[i] from rfl]at hk hv;rw[Sf,Su]at hk;rcases Sb k (nth m.blocks b).ins.length with h | h
   ·rw[az Vt,T5 h,<-az h]at hv;exact q.tk b hb k h v hv
   have:k=(nth m.blocks b).ins.length:=by omega
   subst this;rw[az V5,Us (RX _)]at hv;simp at hv;exact ha v hv
  rename_i e1;rw[if_neg e1]at hv;exact q.tk c hc k hk v hv
 intro v hv;have ht:(nth ((⟨a,m.ps,m.blocks,nx,l⟩:MS).add b i).blocks c).term=(nth m.blocks c).term:=by
  rw[hnth];split
  ·rename_i e1;rw[e1]
  rfl
 rw[ht]at hv;exact(q.tm c hc v hv).end e
theorem LI{a:Nat}{nx:Int}{i:InsD}{l:List Int}(hb:b<m.blocks.length){v:Int}(hv:v∈bz i):Sd (MS.add ⟨a,m.ps,m.blocks,nx,l⟩ b i) b (nth (MS.add ⟨a,m.ps,m.blocks,nx,l⟩ b i).blocks b).ins.length v:=by rw[tF (m:=⟨a,m.ps,m.blocks,nx,l⟩) hb,if_pos rfl];refine .inr (.inr (.inl ?_));rw[tF (m:=⟨a,m.ps,m.blocks,nx,l⟩) hb,if_pos rfl];show v∈((((nth m.blocks b).ins++[i]).take ((nth m.blocks b).ins++[i]).length).flatMap bz);rw[SF,Tz];exact SQ _ (by simpa using hv)
structure In(b:Nat)(m:MS):Prop where
 ok:Ok m
 lt:b<m.blocks.length
 live : ∀v∈m.live,Sd m b (nth m.blocks b).ins.length v
structure Wk(b k:Nat)(m m':MS):Prop where
 inn:In b m'
 live : ∀v∈m.live,v∈m'.live
 n0:m.next<=m'.next
 nx:m'.next<=m.next+k
 ins:(nth m'.blocks b).ins.length<=(nth m.blocks b).ins.length+k
 ext:Ext m m'
variable{b c k l:Nat}{s:List Int}
theorem Wk.refl(q:In b m):Wk b 0 m m:=⟨q,λ_ h=>h,Tf _,by omega,RX _,.refl⟩
theorem Wk.trans(g:Wk b k m m')(h:Wk b l m' m2):Wk b (k+l) m m2:=
 ⟨h.inn,λv hv=>h.live v (g.live v hv),Int.le_trans g.n0 h.n0,by have:=g.nx;have:=h.nx;omega,by have:=g.ins;have:=h.ins;omega,g.ext.trans h.ext⟩
theorem Wk.mono(g:Wk b k m m')(h:k<=l):Wk b l m m':=⟨g.inn,g.live,g.n0,by have:=g.nx;omega,by have:=g.ins;omega,g.ext⟩
theorem In.took(q:In b m):In b m.took:=⟨q.ok.at (Tf _),q.lt,q.live⟩
theorem Ext.same(e:Ext m m'){m2:MS}(h1:m2.ps=m'.ps)(h2:m2.blocks=m'.blocks):Ext m m2:=by obtain⟨a,b,c,d,f⟩:=e;exact⟨by rw[h1];exact a,by rw[h2];exact b,by rw[h2];exact c,by rw[h2];exact d,by rw[h2];exact f⟩
theorem Ext.frm{m2:MS}(e:Ext m2 m')(h1:m2.ps=m.ps)(h2:m2.blocks=m.blocks):Ext m m':=by obtain⟨a,b,c,d,f⟩:=e;rw[h2]at b c d f;exact⟨by rw[<-h1];exact a,b,c,d,f⟩
theorem Wk.took(g:Wk b k m m'):Wk b k m m'.took:=⟨g.inn.took,g.live,g.n0,g.nx,g.ins,g.ext.same rfl rfl⟩
theorem In.add(q:In b m){a:Nat}{j:Nat}{i:InsD}(hj:j<=2)(hf : ∀v∈bz i,m.next<=v/\v<m.next+j)(hd:(bz i).Nodup)(ho:py i=VH/\NumI i)(ha : ∀v∈i.args,v∈m.live) :
  Wk b (max 1 j) m (MS.add ⟨a,m.ps,m.blocks,m.next+j,m.live⟩ b i)/\∀v∈bz i,v∈(MS.add ⟨a,m.ps,m.blocks,m.next+j,m.live⟩ b i).live:=by
 have e:Ext m (MS.add ⟨a,m.ps,m.blocks,m.next+j,m.live⟩ b i):=(Cr (m:=⟨a,m.ps,m.blocks,m.next+j,m.live⟩) (i:=i) q.lt).frm rfl rfl;refine⟨⟨⟨q.ok.add q.lt V4 hf hd ho λv hv=>q.live v (ha v hv),by rw[e.len];exact q.lt,λv hv=>?_⟩,λv hv=>SK _ hv,by show m.next<=m.next+j;omega,by show m.next+j<=_;omega,?_,e⟩,λv hv=>SQ _ hv⟩
 ·rcases R1.1 (show v∈m.live++bz i from hv)with h | h
  ·exact(q.live v h).end e
  exact LI q.lt h
 rw[tF (m:=⟨a,m.ps,m.blocks,m.next+j,m.live⟩) q.lt,if_pos rfl];show((nth m.blocks b).ins++[i]).length<=_;rw[Sf,Su];omega
variable{op:Int}
theorem In.one(q:In b m){a:Nat}{x:List Int}{im:I32}(h16:op≠16)(h18:op≠18)(ho:py ⟨op,m.next,0,x,im⟩=VH)(ha : ∀v∈x,v∈m.live):
  Wk b 1 m (MS.add ⟨a,m.ps,m.blocks,m.next+1,m.live⟩ b ⟨op,m.next,0,x,im⟩)/\m.next∈(MS.add ⟨a,m.ps,m.blocks,m.next+1,m.live⟩ b ⟨op,m.next,0,x,im⟩).live:=by
 have e:bz ⟨op,m.next,0,x,im⟩=[m.next]:=by unfold bz;rw[if_neg h16,if_neg h18]
 have:=q.add (a:=a) (j:=1) (i:=⟨op,m.next,0,x,im⟩) V4 (by rw[e];intro v hv;rw[RY.1 hv];omega) (by rw[e];simp) ⟨ho,λh=>absurd h h16,λ_=>rfl⟩ ha;exact⟨this.1,this.2 _ (by rw[e];exact RY.2 rfl)⟩
theorem In.constant(q:In b m){n:Int}:Wk b 1 m (m.constant b n)/\m.next∈(m.constant b n).live:=
 q.one (a:=m.at_) (op:=1) V6 V6 rfl λv hv=>by cases hv
theorem In.two(q:In b m){op x y:Int}(h1:2<=op)(h2:op<=14)(hx:x∈m.live)(hy:y∈m.live):Wk b 1 m (m.two b op x y)/\m.next∈(m.two b op x y).live:=by
 refine q.one (a:=m.at_) (op:=op) V4 V4 ?_ λv hv=>?_
 ·have e1:¬op<1:=by omega
  have e2:¬18<op:=by omega
  have e3:op≠1:=by omega
  have e4:op≠15:=by omega
  have e5:op≠17:=by omega
  simp[py,tj,e1,e2,e3,e4,e5]
 rcases Sp.1 hv with rfl | hv
 ·exact hx
 rw[RY.1 hv];exact hy
theorem In.fw(q:In b m):Wk b 1 m (aH s m b).2/\(aH s m b).1∈(aH s m b).2.live:=by
 unfold aH;split
 ·obtain⟨h1,h2⟩:=q.took.took.constant (n:=jW s m);exact⟨(Wk.refl q).took.took.trans h1,h2⟩
 split
 ·obtain⟨h1,h2⟩:=q.took.took.took.took.took.constant (n:=jW s m.took.took.took);exact⟨(Wk.refl q).took.took.took.took.took.trans h1,h2⟩
 rename_i h _;refine⟨(Wk.refl q).took.took.took.mono V4,?_⟩;show xV s m∈m.live;have:=bU (s:=s) (at_:=m.at_) (n:=(m.live.length:Int)) V4;unfold xV;refine bh ?_;split<;>omega
theorem In.bin(q:In b m)(h1:2<=op)(h2:op<=14):Wk b 4 m (binS s m b op):=by
 obtain⟨w1,e1⟩:=q.fw (s:=s);obtain⟨w2,e2⟩:=w1.inn.fw (s:=s);unfold binS;simp only;split
 ·obtain⟨w3,e3⟩:=w2.inn.took.took.constant (n:=IntKind.i32.wrap (IntKind.i64.wrap (aG s ((aH s (aH s m b).2 b).2.at_+1) 40-8)));obtain⟨w4,_⟩:=w3.inn.two h1 h2 (w3.live _ (w2.live _ e1)) e3;exact((w1.trans w2).took.took.trans w3).trans w4
 obtain⟨w4,_⟩:=w2.inn.took.two h1 h2 (w2.live _ e1) e2;exact((w1.trans w2).took.trans w4).mono V4
theorem In.ltu(q:In b m):Wk b 3 m (ltuS s m b):=by obtain⟨w1,e1⟩:=q.fw (s:=s);obtain⟨w2,e2⟩:=w1.inn.fw (s:=s);obtain⟨w3,_⟩:=w2.inn.two (op:=13) V6 V6 (w2.live _ e1) e2;exact(w1.trans w2).trans w3
theorem In.div(q:In b m):Wk b 4 m (divS s m b):=by
 obtain⟨w1,e1⟩:=q.fw (s:=s);obtain⟨w2,e2⟩:=w1.inn.took.constant (n:=IntKind.i32.wrap (aG s (aH s m b).2.at_ 12));unfold divS;simp only;split
 ·obtain⟨w3,e3⟩:=w2.inn.took.took.constant (n:=IntKind.i32.wrap (1+IntKind.i32.wrap (aG s (((aH s m b).2.took.constant b (IntKind.i32.wrap (aG s (aH s m b).2.at_ 12))).at_+1) 12)));obtain⟨w4,_⟩:=w3.inn.two (op:=14) V6 V6 (w3.live _ (w2.live _ e1)) e3;exact(((w1.took.trans w2).took.took.trans w3).trans w4)
 obtain⟨w4,_⟩:=w2.inn.took.two (op:=14) V6 V6 (w2.live _ e1) e2;exact((w1.took.trans w2).took.trans w4).mono V4
theorem In.mulw(q:In b m):Wk b 4 m (wc s m b):=by
 obtain⟨w1,e1⟩:=q.fw (s:=s);obtain⟨w2,e2⟩:=w1.inn.fw (s:=s);generalize hr:aH s (aH s m b).2 b=r at w2 e2;have e:bz ⟨18,r.2.next,r.2.next+1,[(aH s m b).1,r.1],⟨0⟩⟩=[r.2.next,r.2.next+1]:=rfl;have:=w2.inn.add (a:=r.2.at_) (j:=2) (i:=⟨18,r.2.next,r.2.next+1,[(aH s m b).1,r.1],⟨0⟩⟩) V4 (by
  rw[e];intro v hv;rcases Sp.1 hv with rfl | hv
  ·omega
  ·rw[RY.1 hv];omega) (by rw[e];simp;omega) ⟨rfl,λh=>absurd h (show(18:Int)≠16 by decide),λh=>absurd rfl h⟩ (λv hv=>by
  rcases Sp.1 hv with rfl | hv
  ·exact w2.live _ e1
  rw[RY.1 hv];exact e2);have h:=(w1.trans w2).trans this.1;have e3:wc s m b=MS.add ⟨r.2.at_,r.2.ps,r.2.blocks,r.2.next+2,r.2.live⟩ b ⟨18,r.2.next,r.2.next+1,[(aH s m b).1,r.1],⟨0⟩⟩:=by unfold wc;simp only[hr];unfold MS.add MS.aW;simp only[MS.mk.injEq,and_true,true_and];omega
 rw[e3];exact h.mono V4
theorem In.args(q:In b m) : ∀n,Wk b n m (up (fR s b) n ([],m)).2/\(up (fR s b) n ([],m)).1.length=n/\∀v∈(up (fR s b) n ([],m)).1,v∈(up (fR s b) n ([],m)).2.live
 | 0=>⟨.refl q,rfl,λv hv=>by cases hv⟩
 | n+1=>by
  obtain⟨h1,h2,h3⟩:=In.args q n;obtain⟨w,e⟩:=h1.inn.fw (s:=s);refine⟨h1.trans w,?_,λv hv=>?_⟩
  ·show(_++[_]).length=_;rw[Sf,h2];rfl
  rcases R1.1 (show v∈(up (fR s b) n ([],m)).1++[(aH s (up (fR s b) n ([],m)).2 b).1] from hv)with h | h
  ·exact w.live _ (h3 v h)
  rw[RY.1 h];exact e
theorem In.call(q:In b m):Wk b 5 m (pw s m b):=by
 unfold pw;simp only;have ht:=bU (s:=s) (at_:=m.at_) (n:=5) V6;obtain⟨h1,h2,h3⟩:=q.took.args (s:=s) (aG s m.at_ 5).toNat;generalize up (fR s b) (aG s m.at_ 5).toNat ([],m.took)=r at h1 h2 h3;have hl:((r.1.length:Nat):Int)<=4:=by omega
 have w:=h1.inn.one (a:=r.2.at_+1) (op:=17) (x:=r.1) (im:=⟨IntKind.i32.wrap (aG s r.2.at_ 5)⟩) V6 V6 (by simp[py,tj];omega) h3;have h:Wk b 0 m m.took:=(Wk.refl q).took;exact((h.trans h1).trans w.1).mono V4
theorem In.addr(q:In b m):Wk b 5 m (jO s m b).2/\(jO s m b).1∈(jO s m b).2.live:=by
 obtain⟨w1,e1⟩:=q.took.constant (n:=IntKind.i32.wrap (aG s m.at_ 9));have h:Wk b 0 m m.took:=(Wk.refl q).took;have w1:=h.trans w1;have e1:m.next∈_:=e1;unfold jO;simp only;split
 ·obtain⟨w2,e2⟩:=w1.inn.took.fw (s:=s);obtain⟨w3,e3⟩:=w2.inn.constant (n:=7);obtain⟨w4,e4⟩:=w3.inn.two (op:=5) V6 V6 (w3.live _ e2) e3;obtain⟨w5,e5⟩:=w4.inn.two (op:=2) V6 V6 (w4.live _ (w3.live _ (w2.live _ e1))) e4;exact⟨(((w1.took.trans w2).trans w3).trans w4).trans w5,e5⟩
 exact⟨w1.took.mono V4,e1⟩
theorem In.off(q:In b m):Wk b 0 m (offS s m).2/\(offS s m).2.live=m.live:=by
 unfold offS;split
 ·exact⟨(Wk.refl q).took.took.took.took,rfl⟩
 exact⟨(Wk.refl q).took.took,rfl⟩
theorem In.memory(q:In b m){st:Bool}:Wk b 7 m (iW s m b st):=by
 obtain⟨w1,e1⟩:=q.addr (s:=s);obtain⟨w2,_⟩:=w1.inn.off (s:=s);unfold iW;simp only;split
 ·obtain⟨w3,e3⟩:=w2.inn.fw (s:=s);generalize hr:aH s (offS s (jO s m b).2).2 b=r at w3 e3;have:=w3.inn.add (a:=r.2.at_) (j:=0) (i:=⟨16,0,0,[(jO s m b).1,r.1],⟨(offS s (jO s m b).2).1⟩⟩) V4 (λv hv=>by cases hv) TV ⟨rfl,λ_=>rfl,λ_=>rfl⟩ (λv hv=>by
   rcases Sp.1 hv with rfl | hv
   ·exact w3.live _ (w2.live _ e1)
   rw[RY.1 hv];exact e3);have e:(⟨r.2.at_,r.2.ps,r.2.blocks,r.2.next+((0:Nat):Int),r.2.live⟩:MS)=r.2:=by cases r.2;simp
  rw[e]at this;exact((w1.trans w2).trans w3).trans this.1
 have w:=w2.inn.one (a:=(offS s (jO s m b).2).2.at_) (op:=15) (x:=[(jO s m b).1]) (im:=⟨(offS s (jO s m b).2).1⟩) V6 V6 rfl (λv hv=>by rw[RY.1 hv];exact w2.live _ e1);exact((w1.trans w2).trans w.1).mono V4
theorem In.ic(q:In b m):Wk b 7 m (aO s b m):=by
 have h:Wk b 0 m m.took:=(Wk.refl q).took;have ht:=bU (s:=s) (at_:=m.at_) (n:=20) V6;unfold aO;simp only;split
 ·have h2 : ∀x∈opsL,2<=x/\x<=14:=by decide
  have hl:opsL.length=12:=rfl;have:=h2 _ (bh (l:=opsL) (i:=(aG s m.at_ 20).toNat) V4);exact(h.trans (q.took.bin this.1 this.2)).mono V4
 split
 ·exact(h.trans q.took.ltu).mono V4
 split
 ·exact(h.trans q.took.div).mono V4
 split
 ·exact(h.trans q.took.memory).mono V4
 split
 ·exact(h.trans q.took.call).mono V4
 split
 ·exact(h.trans q.took.mulw).mono V4
 exact((Wk.refl q).took.took.took.trans (q.took.took.took.constant (n:=jW s m.took)).1).mono V4
theorem In.eV(q:In b m) : ∀n,Wk b (7*n) m (up (λ_=>aO s b) n m)
 | 0=>.refl q
 | n+1=>by have h:=In.eV q n;exact(h.trans h.inn.ic).mono V4
theorem In.term(q:In b m){to:List Int}(hl:to.length<=65):Wk b 3 m (fl s to b m).2/\lI (fl s to b m).1=VG/\(fl s to b m).1.to=to/\∀v∈(fl s to b m).1.args,v∈(fl s to b m).2.live:=by
 have h:Wk b 0 m m.took:=(Wk.refl q).took;unfold fl;simp only;split
 ·rename_i h0;have hto:to=[]:=List.length_eq_zero_iff.1 h0;split
  ·exact⟨(Wk.refl q).took.took.mono V4,rfl,hto.symm,λv hv=>by cases hv⟩
  split
  ·obtain⟨w,e⟩:=q.took.fw (s:=s);exact⟨(h.trans w).mono V4,rfl,hto.symm,λv hv=>by rw[RY.1 hv];exact e⟩
  exact⟨h.mono V4,rfl,hto.symm,λv hv=>by cases hv⟩
 split
 ·rename_i h1;exact⟨(Wk.refl q).mono V4,by simp[lI,h1],rfl,λv hv=>by cases hv⟩
 split
 ·rename_i h2;obtain⟨w1,e1⟩:=q.fw (s:=s);split
  ·obtain⟨w2,e2⟩:=w1.inn.took.fw (s:=s);generalize aH s (aH s m b).2.took b=r at w2 e2;have hr:=bU (s:=s) (at_:=r.2.at_) (n:=3) V6;have hop : ∀x∈cmpL,11<=x/\x<=13:=by decide
   have hcl:cmpL.length=3:=rfl;have ho:=hop _ (bh (l:=cmpL) (i:=(aG s r.2.at_ 3).toNat) V4);generalize nth cmpL (aG s r.2.at_ 3).toNat=op at ho;have w3:=w2.inn.one (a:=r.2.at_+1) (op:=op) (x:=[(aH s m b).1,r.1]) (im:=⟨0⟩) V4 V4 (by
    have e1:¬op<1:=by omega
    have e2:¬18<op:=by omega
    have e3:op≠1:=by omega
    have e4:op≠15:=by omega
    have e5:op≠17:=by omega
    simp[py,tj,e1,e2,e3,e4,e5]) (λv hv=>by
    rcases Sp.1 hv with rfl | hv
    ·exact w2.live _ e1
    rw[RY.1 hv];exact e2);exact⟨(w1.took.trans w2).trans w3.1,by simp[lI,h2],rfl,λv hv=>by rw[RY.1 hv];exact w3.2⟩
  exact⟨w1.took.mono V4,by simp[lI,h2],rfl,λv hv=>by rw[RY.1 hv];exact e1⟩
 rename_i h0 h1 h2;obtain⟨w1,e1⟩:=q.fw (s:=s);obtain⟨w2,e2⟩:=w1.inn.constant (n:=7);obtain⟨w3,e3⟩:=w2.inn.two (op:=5) V6 V6 (w2.live _ e1) e2;exact⟨(w1.trans w2).trans w3,by simp[lI];omega,rfl,λv hv=>by rw[RY.1 hv];exact e3⟩
end
structure Tt(n k c:Nat)(x:TgS):Prop where
 len:x.1.length=n
 row : ∀i,(nth x.1 i).length<=c
 rng : ∀i,∀v∈nth x.1 i,1<=v/\v<n
 way : ∀b:Nat,1<=b->b<=k->∃a,a<b/\(b:Int)∈nth x.1 a
section
variable{s:List Int}{n k c:Nat}{x:TgS}
theorem tf{p:Nat}{m:MS}(hp:p<x.1.length)(i:Nat):nth (nv x p b m).1 i=if p=i then nth x.1 p++[(b:Int)] else nth x.1 i:=by
 show nth (x.1.set p _) i=_;rcases Sb i x.1.length with hl | hl
 ·rw[bs hl]
 rw[bK (by simpa using hl),if_neg V4,bK hl]
theorem Tt.put(h:Tt n k c x){p:Nat}{m:MS}(hp:p<n)(h1:1<=b)(hb:b<n):Tt n k (c+1) (nv x p b m)/\(b:Int)∈nth (nv x p b m).1 p:=by
 have hp':p<x.1.length:=by rw[h.len];exact hp
 refine⟨⟨xl.trans h.len,λi=>?_,λi v hv=>?_,λd h1 h2=>?_⟩,by rw[tf hp',if_pos rfl];exact SQ _ (RY.2 rfl)⟩
 ·rw[tf hp'];split
  ·rw[Sf,Su];have:=h.row p;omega
  have:=h.row i;omega
 ·rw[tf hp']at hv;split at hv
  ·rcases R1.1 hv with hv | hv
   ·exact h.rng _ v hv
   rw[RY.1 hv];omega
  exact h.rng _ v hv
 obtain⟨a,h3,h4⟩:=h.way d h1 h2;refine⟨a,h3,?_⟩;rw[tf hp'];split
 ·rename_i e;subst e;exact SK _ h4
 exact h4
theorem Tt.tgA(h:Tt n k c x)(hk:k+1<n):Tt n (k+1) (c+1) (tgA s k x):=by
 have key : ∀{p:Nat} {m:MS},p<=k->Tt n (k+1) (c+1) (nv x p (k+1) m):=fun{p m} hp=>by
  obtain⟨h1,h2⟩:=h.put (p:=p) (b:=k+1) (m:=m) V4 V4 hk;refine⟨h1.len,h1.row,h1.rng,λb hb1 hb2=>?_⟩;rcases Sb k b with q | q
  ·have:b=k+1:=by omega
   subst this;exact⟨p,by omega,h2⟩
  exact h1.way b hb1 q
 unfold Go.Lft.tgA;split
 ·have:=bU (s:=s) (at_:=x.2.at_+1) (n:=((k+1:Nat):Int)) V4;exact key V4
 exact key (RX _)
theorem Tt.tgI(h:Tt n k c x){b:Nat}(hb:b<n)(hn:1<n):Tt n k (c+1) (tgI s n b x):=by
 have:=bU (s:=s) (at_:=x.2.at_) (n:=(n:Int)-1) V4;unfold Go.Lft.tgI;simp only;repeat' split
 ·exact(h.put V4 V4 V4).1
 ·exact(h.put V4 V4 V4).1
 exact(h.put V4 V4 V4).1
theorem Tt.upI(h:Tt n k c x){b:Nat}(hb:b<n)(hn:1<n) : ∀j,Tt n k (c+j) (up (λ_=>Go.Lft.tgI s n b) j x)
 | 0=>h
 | j+1=>(Tt.upI h hb hn j).tgI hb hn
theorem Tt.mono{d:Nat}(h:Tt n k c x)(hd:c<=d):Tt n k d x:=⟨h.len,λi=>St (h.row i) hd,h.rng,h.way⟩
theorem Tt.tgB(h:Tt n k c x){b:Nat}(hb:b<n):Tt n k (c+2) (tgB s n b x):=by
 unfold Go.Lft.tgB;have h0:Tt n k c (x.1,x.2.took):=⟨h.len,h.row,h.rng,h.way⟩;by_cases hn:1<n
 ·rw[if_pos hn];have:=bU (s:=s) (at_:=x.2.at_) (n:=6) V6;exact(h0.upI hb hn _).mono V4
 rw[if_neg hn];exact h0.mono V4
theorem Tt.upB(h:Tt n k c x) : ∀j,j<=n->Tt n k (c+2*j) (up (Go.Lft.tgB s n) j x)
 | 0,_=>h
 | j+1,hj=>(Tt.upB h j V4).tgB V4
theorem Tt.upA(h:Tt n 0 c x) : ∀j,j<n->Tt n j (c+j) (up (Go.Lft.tgA s) j x)
 | 0,_=>h
 | j+1,hj=>(Tt.upA h j V4).tgA hj
theorem Da:Tt (aT s) (aT s-1) 26 (fA s):=by
 obtain⟨h1,h2⟩:=fT (s:=s);have e : ∀i,nth (List.replicate (aT s) ([]:List Int)) i=[]:=λi=>by
  rcases Sb i (aT s)with hi | hi
  ·rw[aD hi]
  rw[bK (by simpa using hi)];rfl
 have t0:Tt (aT s) 0 0 (List.replicate (aT s) ([]:List Int),yu s):=⟨by simp,λi=>by rw[e];exact RX _,λi v hv=>by{ rw[e]at hv;cases hv },λb h1 h2=>by omega⟩;exact((t0.upA (s:=s) (aT s-1) V4).upB (s:=s) (aT s) (RX _)).mono V4
end
structure Gt(n:Nat)(to:List (List Int))(m:MS):Prop where
 len:m.blocks.length=n
 to : ∀j,j<n->(nth m.blocks j).term.to=nth to j
section
variable{s:List Int}{n:Nat}{to:List (List Int)}{m m':MS}{b:Nat}
theorem Gt.ext(g:Gt n to m)(e:Ext m m'):Gt n to m':=⟨e.len.trans g.len,λj hj=>(e.to j).trans (g.to j hj)⟩
theorem Jg{l:List Int}{j:Nat}(hb:b<m.blocks.length):nth (m.jU b l).blocks j=if b=j then{ nth m.blocks b with term:={ (nth m.blocks b).term with to:=l } } else nth m.blocks j:=by
 show nth (m.blocks.set b _) j=_;rcases Sb j m.blocks.length with hl | hl
 ·rw[bs hl]
 rw[bK (by simpa using hl),if_neg V4,bK hl]
theorem EB{m0:MS}(hl:m0.blocks=List.replicate n sL) : ∀k,k<=n->(up (λb m=>MS.jU m b (nth to b)) k m0).blocks.length=n/\(∀j,j<n->nth (up (λb m=>MS.jU m b (nth to b)) k m0).blocks j=⟨[],[],⟨0,[],if j<k then nth to j else[],⟨0⟩⟩⟩)/\(up (λb m=>MS.jU m b (nth to b)) k m0).ps=m0.ps/\(up (λb m=>MS.jU m b (nth to b)) k m0).next=m0.next
 | 0,_=>⟨by show m0.blocks.length=n;rw[hl,SN],λj hj=>by show nth m0.blocks j=_;rw[hl,aD hj,if_neg V4];rfl,rfl,rfl⟩
 | k+1,hk=>by
  obtain⟨h1,h2,h3,h4⟩:=EB hl k V4;refine⟨?_,λj hj=>?_,h3,h4⟩
  ·show(List.set _ _ _).length=n;rw[SC];exact h1
  show nth (MS.jU _ k (nth to k)).blocks j=_;rw[Jg (by rw[h1];omega),h2 k V4,h2 j hj];by_cases e:k=j
  ·subst e;rw[if_pos rfl,if_pos (Nat.lt_succ_self _)]
  rw[if_neg e];by_cases h:j<k
  ·rw[if_pos h,if_pos V4]
  rw[if_neg h,if_neg V4]
theorem Dx:(ny s).blocks.length=aT s/\(∀j,j<aT s->nth (ny s).blocks j=⟨[],[],⟨0,[],nth (fA s).1 j,⟨0⟩⟩⟩)/\(ny s).ps=aG s 0 5/\(ny s).next=aG s 0 5:=by have e:=uL (s:=s);obtain⟨h1,h2,h3,h4⟩:=EB (n:=aT s) (to:=(fA s).1) (m0:={ (fA s).2 with blocks:=List.replicate (aT s) sL }) rfl (aT s) (RX _);exact⟨h1,λj hj=>by have:=h2 j hj;rw[if_pos hj]at this;exact this,h3.trans e.1,h4.trans e.2.2.1⟩
theorem Pp{l:List BlkD}(h0:0<l.length)(h : ∀b:Nat,1<=b->b<l.length->∃a,a<b/\(b:Int)∈(nth l a).term.to): ∀b,b<l.length->Re (ofG l) (-1) b:=by
 intro b;induction b using Nat.strongRecOn with
 | ind b ih=>
  intro hb;rcases SW b with rfl | hp
  ·exact .root (by rw[nD];exact hb) V6
  obtain⟨a,ha,hm⟩:=h b hp hb;refine .step (ih a ha V4) ?_ V4;rw[qj];exact⟨⟨by omega,by omega,by omega,by omega⟩,by rw[Sn];exact hm⟩
theorem KJ{l:List BlkD}(hw : ∀b,b<l.length->Re (ofG l) (-1) b){b:Nat}(hb:b<l.length)(hd:nth dn b=VH): ∃x,x<l.length/\nth dn x=VH/\∀a,a<l.length->a=x\/nth dn a=VG\/Re (ofG l) (a:Int) x:=by
  have key : ∀{b:Nat},Re (ofG l) (-1) b->(∃x,x<l.length/\nth dn x=VH/\∀a,a<l.length->a=x\/nth dn a=VG\/Re (ofG l) (a:Int) x)\/(nth dn b=VG/\∀a,a<l.length->nth dn a=VH->Re (ofG l) (a:Int) b):=by
    intro b h
    induction h with
    | root h0 _=>
      cases e:nth dn 0 with
      | true=>exact .inr ⟨rfl,λa _ ha=>.root h0 (by
                                                            rintro h;have:a=0:=by omega
                                                            subst this;rw[e]at ha;cases ha)⟩
      | false=>exact .inl ⟨0,by rw[nD]at h0;exact h0,e,λa _=>by
          rcases SW a with q | q
          · exact .inl q
          · exact .inr (.inr (.root h0 V4))⟩
    | @step a b ha he _ ih=>
      rcases ih with ih | ⟨ih1,ih2⟩
      · exact .inl ih
      have hlb:=(qj.1 he).1
      cases e:nth dn b with
      | true=>exact .inr ⟨rfl,λc hc h=>.step (ih2 c hc h) he (by
                                                                         rintro q;have:b=c:=by omega
                                                                         subst this;rw[e]at h;cases h)⟩
      | false=>
        refine .inl ⟨b,by omega,e,λc hc=>?_⟩
        rcases Nat.decEq c b with q | q
        · cases e2:nth dn c with
          | true=>exact .inr (.inl rfl)
          | false=>exact .inr (.inr (.step (ih2 c hc e2) he V4))
        · exact .inl q
  rcases key (hw b hb)with h | ⟨h,_⟩
  · exact h
  · rw[hd]at h;cases h
theorem qD{j:Nat}(hb:b<m.blocks.length):nth (dE b m).blocks j=if b=j then{ nth m.blocks b with phis:=(nth m.blocks b).phis++[⟨m.next,[]⟩] } else nth m.blocks j:=by
 show nth (m.blocks.set b _) j=_;rcases Sb j m.blocks.length with hl | hl
 ·rw[bs hl]
 rw[bK (by simpa using hl),if_neg V4,bK hl]
structure P0(n:Nat)(to:List (List Int))(m:MS):Prop where
 gt:Gt n to m
 ok:Ok m
 none : ∀j,j<n->(nth m.blocks j).ins=[]
theorem ND{x:BlkD}{v:Int}(h:x.ins=[]):mkB { x with phis:=x.phis++[⟨v,[]⟩] }=mkB x++[v]:=by unfold mkB;simp[h]
theorem P0.dE(q:P0 n to m)(hb:b<n):P0 n to (dE b m):=by
 have hbl:b<m.blocks.length:=by rw[q.gt.len];exact hb
 have hl:(Go.Lft.dE b m).blocks.length=m.blocks.length:=SC;have hlen:=q.gt.len;have e:Ext m (Go.Lft.dE b m):=by
  refine⟨rfl,hl,λj=>?_,λj=>?_,λj=>?_⟩<;>rw[qD hbl]<;>split
  ·rename_i e;rw[e]
  ·rfl
  ·rename_i e;rw[<-e];intro v hv;show v∈(List.map PhiD.dst ((nth m.blocks b).phis++[_]));rw[TP];exact SK _ hv
  ·exact λ_ h=>h
  ·rename_i e;rw[e];exact⟨[],by simp⟩
  exact⟨[],by simp⟩
 have hin : ∀j,(nth (Go.Lft.dE b m).blocks j).ins=(nth m.blocks j).ins:=λj=>by
  rw[qD hbl];split
  ·rename_i e;rw[e]
  rfl
 have htm : ∀j,(nth (Go.Lft.dE b m).blocks j).term=(nth m.blocks j).term:=λj=>by
  rw[qD hbl];split
  ·rename_i e;rw[e]
  rfl
 have hmk : ∀j,j<n->mkB (nth (Go.Lft.dE b m).blocks j)=if b=j then mkB (nth m.blocks j)++[m.next] else mkB (nth m.blocks j):=λj hj=>by
  rw[qD hbl];split
  ·rename_i e;rw[ND (q.none b hb),e]
  rfl
 have k:=q.ok;refine⟨q.gt.ext e,⟨k.p0,by have:=k.pn;show m.ps<=m.next+1;omega,λc hc=>?_,λc hc=>?_,λc d hc hd hcd=>?_,λc hc=>?_,λc hc i hi=>?_,λc hc v hv=>?_⟩,λj hj=>by rw[hin];exact q.none j hj⟩<;>rw[hl]at hc
 ·rw[hin];exact k.op c hc
 ·rw[hmk c V4];split
  ·refine Ti.2 ⟨k.nd c hc,by simp,λx hx y hy=>?_⟩;have:=(k.rg c hc x hx).2;have:=RY.1 hy;omega
  exact k.nd c hc
 ·rw[hl]at hd;rw[hmk c V4,hmk d V4];intro v hv hv';have h1:v∈mkB (nth m.blocks c)\/(b=c/\v=m.next):=by
   split at hv
   ·rcases R1.1 hv with h | h
    ·exact .inl h
    exact .inr ⟨‹_›,RY.1 h⟩
   exact .inl hv
  have h2:v∈mkB (nth m.blocks d)\/(b=d/\v=m.next):=by
   split at hv'
   ·rcases R1.1 hv' with h | h
    ·exact .inl h
    exact .inr ⟨‹_›,RY.1 h⟩
   exact .inl hv'
  rcases h1 with h1 | ⟨h1,h1'⟩
  ·rcases h2 with h2 | ⟨h2,h2'⟩
   ·exact k.dj c d hc hd hcd v h1 h2
   have:=(k.rg c hc v h1).2;omega
  rcases h2 with h2 | ⟨h2,h2'⟩
  ·have:=(k.rg d hd v h2).2;omega
  exact hcd (h1.symm.trans h2)
 ·rw[hmk c V4];intro v hv;have h1:v∈mkB (nth m.blocks c)\/v=m.next:=by
   split at hv
   ·rcases R1.1 hv with h | h
    ·exact .inl h
    exact .inr (RY.1 h)
   exact .inl hv
  show m.ps<=v/\v<m.next+1;rcases h1 with h1 | h1
  ·have:=k.rg c hc v h1;omega
  have:=k.pn;omega
 ·rw[hin,q.none c V4]at hi;exact absurd hi (Tx _)
 rw[htm]at hv;exact(k.tm c hc v hv).end e
theorem P0.took(q:P0 n to m):P0 n to m.took:=⟨⟨q.gt.len,q.gt.to⟩,q.ok.at (Tf _),q.none⟩
theorem P0.nF(q:P0 n to m)(hb:b<n) : ∀k,P0 n to (up (λ_=>Go.Lft.dE b) k m)/\(up (λ_=>Go.Lft.dE b) k m).next=m.next+k
 | 0=>⟨q,by show m.next=m.next+((0:Nat):Int);omega⟩
 | k+1=>by obtain⟨h1,h2⟩:=P0.nF q hb k;refine⟨h1.dE hb,?_⟩;show(up (λ_=>Go.Lft.dE b) k m).next+1=_;rw[h2];omega
theorem P0.phis{lp:List Int}(q:P0 n to m) : ∀k,k<n->P0 n to (up (dP s) k (lp,m)).2/\(up (dP s) k (lp,m)).2.next<=m.next+3*k/\nth (up (dP s) k (lp,m)).1 0=nth lp 0
 | 0,_=>⟨q,by show m.next<=_;omega,rfl⟩
 | k+1,hk=>by
  obtain⟨h1,h2,h3⟩:=P0.phis (lp:=lp) q k V4;have e:up (dP s) (k+1) (lp,m)=dP s k (up (dP s) k (lp,m)):=rfl;rw[e];generalize up (dP s) k (lp,m)=y at h1 h2 h3;obtain⟨c0,c1⟩:=qE (s:=s) (m:=y.2) (b:=k+1);obtain⟨h4,h5⟩:=h1.took.nF (b:=k+1) hk (iD s y.2 (k+1)).toNat;refine⟨h4,?_,?_⟩
  ·show(up (λ_=>Go.Lft.dE (k+1)) (iD s y.2 (k+1)).toNat y.2.took).next<=_;rw[h5];show y.2.next+_<=_;omega
  show nth (y.1.set (k+1) _) 0=_;rcases Sb 0 y.1.length with hl | hl
  ·rw[bs hl,if_neg V4];exact h3
  rw[bK (by simpa using hl),<-h3,bK hl]
theorem LD:P0 (aT s) (fA s).1 (ny s):=by
 obtain⟨h1,h2,h3,h4⟩:=Dx (s:=s);have t:=bU (s:=s) (at_:=0) (n:=5) V6;refine⟨⟨h1,λj hj=>by rw[h2 j hj]⟩,⟨by rw[h3];omega,by rw[h3,h4];omega,λb hb=>?_,λb hb=>?_,λa b ha hb _=>?_,λb hb=>?_,λb hb i hi=>?_,λb hb=>?_⟩,λj hj=>by rw[h2 j hj]⟩<;>rw[h1]at *
 ·rw[h2 b hb];intro i hi;cases hi
 ·rw[h2 b hb];exact TV
 ·rw[h2 a ha];intro v hv;cases hv
 ·rw[h2 b hb];intro v hv;cases hv
 ·rw[h2 b hb]at hi;exact absurd hi (Tx _)
 rw[h2 b hb];intro v hv;cases hv
theorem Ey:P0 (aT s) (fA s).1 (gL s).2/\(gL s).2.next<=28/\nth (gL s).1 0=0:=by
 obtain⟨h1,h2⟩:=fT (s:=s);obtain⟨q1,q2,q3⟩:=(LD (s:=s)).phis (s:=s) (lp:=List.replicate (aT s) 0) (aT s-1) V4;have t:=bU (s:=s) (at_:=0) (n:=5) V6;have e:=(Dx (s:=s)).2.2.2;refine⟨q1,?_,?_⟩
 ·show(up (dP s) (aT s-1) (List.replicate (aT s) 0,ny s)).2.next<=28;omega
 show nth (up (dP s) (aT s-1) (List.replicate (aT s) 0,ny s)).1 0=0;rw[q3,aD V4]
def cnt0:BL->Nat
 | []=>0
 | a::l=>(if a=VG then 0 else 1)+cnt0 l
theorem oA[Inhabited α]{a:α}{l:List α}{j:Nat}:nth (a::l) (j+1)=nth l j:=by simp[nth]
theorem Hh : ∀{l l':BL},l.length=l'.length->(∀j,j<l.length->nth l j=VG->nth l' j=VG)->cnt0 l'<=cnt0 l
 | [],[],_,_=>RX _
 | a::l,a'::l',hl,h=>by
  have h1:=Hh (l:=l) (l':=l') (by simpa using hl) λj hj=>by have:=h (j+1) (by simpa using hj);rwa [oA,oA]at this
  have h2:a=VG->a'=true:=h 0 V5;unfold cnt0;cases a<;>cases a'<;>simp_all<;>omega
theorem CR : ∀{l l':BL},l.length=l'.length->(∀j,j<l.length->nth l j=VG->nth l' j=VG)->∀b,b<l.length->nth l b=VH->nth l' b=VG->cnt0 l'<cnt0 l
 | [],[],_,_,b,hb,_,_=>absurd hb (Tx _)
 | a::l,a'::l',hl,h,b,hb,h0,h1=>by
  have hr : ∀j,j<l.length->nth l j=VG->nth l' j=true:=λj hj=>by have:=h (j+1) (by simpa using hj);rwa [oA,oA]at this
  have hll:l.length=l'.length:=by simpa using hl
  have h2:a=VG->a'=true:=h 0 V5;match b,hb,h0,h1 with
  | 0,_,h0,h1=>have h0:a=false:=h0;have h1:a'=true:=h1;have:=Hh hll hr;unfold cnt0;rw[h0,h1];simp;omega
  | b+1,hb,h0,h1=>rw[oA]at h0 h1;have:=CR hll hr b (by simpa using hb) h0 h1;unfold cnt0;cases a<;>cases a'<;>simp_all<;>omega
theorem AG : ∀{l:BL},cnt0 l=0->∀j,j<l.length->nth l j=VG
 | [],_,j,hj=>absurd hj (Tx _)
 | a::l,h,j,hj=>by
  unfold cnt0 at h;match j,hj with
  | 0,_=>show a=VG;cases a<;>simp_all
  | j+1,hj=>rw[oA];exact AG V4 j (by simpa using hj)
theorem zc : ∀{l:BL},cnt0 l<=l.length
 | []=>RX _
 | a::l=>by have:=zc (l:=l);unfold cnt0;rw[SL];split<;>omega
theorem AL{f:Nat->Bool} : ∀(n:Nat) (r:Bool),r=VG->(∀a,a<n->f a=VG)->up (λa r=>r&&f a) n r=VG
 | 0,r,h,_=>h
 | n+1,r,h,hf=>by show(up (λa r=>r&&f a) n r&&f n)=VG;rw[AL n r h λa ha=>hf a V4,hf n V4];rfl
theorem GX(hl:m.blocks.length=n){a:Nat}(ha:a<n)(hb:b<n):nth (nth (kT m.f n) a) b=VG↔Re (ofG m.blocks) (a:Int) b:=by unfold kT;rw[gF ha];exact ik (by show b<m.blocks.length;omega)
theorem Kk(hl:m.blocks.length=n)(hb:b<n)(hd:nth dn b=VH)(h : ∀a,a<n->a=b\/nth dn a=VG\/Re (ofG m.blocks) (a:Int) b):qO dn (kT m.f n) b n=true:=by
 unfold qO;refine AL n _ (by simp[hd]) λa ha=>?_;rcases h a ha with e | e | e
 ·simp[e]
 ·simp[e]
 simp[(GX hl ha hb).2 e]
theorem MZ(hp:0<=m.ps)(hl:m.blocks.length=n)(hb:b<n): ∀v∈nu m dn (kT m.f n) b n,Sd m b (nth m.blocks b).ins.length v:=by
 have key : ∀k,k<=n->∀v∈up (gWq m dn (kT m.f n) b) k (rows (λi=>(i:Int)) m.ps.toNat),Sd m b (nth m.blocks b).ins.length v:=by
  intro k;induction k with
  | zero=>intro _ v hv;obtain⟨i,hi,rfl⟩:=Ao.1 hv;exact .inl V9
  | succ k ih=>
   intro hk v hv;have hv:v∈gWq m dn (kT m.f n) b k (up (gWq m dn (kT m.f n) b) k (rows (λi=>(i:Int)) m.ps.toNat)):=hv;unfold gWq at hv;split at hv
   ·exact ih V4 v hv
   rename_i hc;rw[Sk]at hv;rcases R1.1 hv with h1 | h1
   ·exact ih V4 v h1
   clear hv;rcases Nat.decEq k b with e | e
   ·refine .inr (.inr (.inr ⟨k,by omega,e,h1,λhr=>hc ?_⟩));rw[(GX hl V4 hb).2 hr];simp[e]
   subst e;rcases R1.1 h1 with h2 | h2
   ·exact .inr (.inl h2)
   refine .inr (.inr (.inl ?_));rw[SF];exact h2
 exact key n (RX _)
theorem Ok.fG(q:In b m){t:db}(ht:t.to=(nth m.blocks b).term.to)(ha : ∀v∈t.args,v∈m.live):Ok (m.fG b t)/\Ext m (m.fG b t):=by
 have hnth : ∀j,nth (m.fG b t).blocks j=if b=j then{ nth m.blocks b with term:=t } else nth m.blocks j:=λj=>by
  show nth (m.blocks.set b _) j=_;rcases Sb j m.blocks.length with hl | hl
  ·rw[bs hl]
  have:=q.lt;rw[bK (by simpa using hl),if_neg V4,bK hl]
 have hl:(m.fG b t).blocks.length=m.blocks.length:=SC;have hin : ∀j,(nth (m.fG b t).blocks j).ins=(nth m.blocks j).ins:=λj=>by
  rw[hnth];split
  ·rename_i e;rw[e]
  rfl
 have hph : ∀j,(nth (m.fG b t).blocks j).phis=(nth m.blocks j).phis:=λj=>by
  rw[hnth];split
  ·rename_i e;rw[e]
  rfl
 have e:Ext m (m.fG b t):=⟨rfl,hl,λj=>by
  rw[hnth];split
  ·rename_i e;rw[<-e];exact ht
  rfl,λj v h=>by rw[hph];exact h,λj=>⟨[],by rw[hin];simp⟩⟩;have hmk : ∀j,mkB (nth (m.fG b t).blocks j)=mkB (nth m.blocks j):=λj=>by unfold mkB;rw[hin,hph]
 have k:=q.ok;refine⟨⟨k.p0,k.pn,λc hc=>?_,λc hc=>?_,λc d hc hd=>?_,λc hc=>?_,λc hc i hi v hv=>?_,λc hc v hv=>?_⟩,e⟩<;>rw[hl]at hc
 ·rw[hin];exact k.op c hc
 ·rw[hmk];exact k.nd c hc
 ·rw[hl]at hd;rw[hmk,hmk];exact k.dj c d hc hd
 ·rw[hmk];exact k.rg c hc
 ·rw[hin]at hi hv;exact(k.tk c hc i hi v hv).ext e
 rw[hnth]at hv;split at hv
 ·rename_i e1;subst e1;exact(q.live v (ha v hv)).end e
 exact(k.tm c hc v hv).end e
structure D4(n:Nat)(to:List (List Int))(x:BL × MS):Prop where
 gt:Gt n to x.2
 ok:Ok x.2
 len:x.1.length=n
 term : ∀j,j<n->nth x.1 j=VG->lI (nth x.2.blocks j).term=VG
 emp : ∀j,j<n->nth x.1 j=VH->(nth x.2.blocks j).ins.length=0
 ins : ∀j,j<n->(nth x.2.blocks j).ins.length<=45
 nx:x.2.next+45*(cnt0 x.1:Nat)<=28+45*n
theorem D4.step{x:BL × MS}(q:D4 n to x)(hb:b<n)(ht:(nth to b).length<=65):D4 n to (bo s to n b x)/\(∀j,nth x.1 j=VG->nth (bo s to n b x).1 j=VG)/\(qO x.1 (kT x.2.f n) b n=VG->nth (bo s to n b x).1 b=VG):=by
 unfold bo;have hlen:=q.gt.len;have hbl:b<x.2.blocks.length:=by rw[hlen];exact hb
 split
 ·rename_i hr;have hd:=qq hr;have hset : ∀j,nth (x.1.set b VG) j=if b=j then VG else nth x.1 j:=λj=>by
   have:=q.len;rcases Sb j x.1.length with hl | hl
   ·rw[bs hl]
   rw[bK (by simpa using hl),if_neg V4,bK hl]
  generalize hdn:x.1.set b VG=dn at hset;have hdl:dn.length=n:=by rw[<-hdn,SC];exact q.len
  have hmono : ∀j,nth x.1 j=VG->nth dn j=true:=λj hj=>by rw[hset];split<;>simp_all
  have hlt:cnt0 dn<cnt0 x.1:=CR (by rw[hdl];exact q.len) (λj _=>hmono j) b (by rw[q.len];exact hb) hd (by rw[hset,if_pos rfl]);refine⟨?_,hmono,λ_=>by rw[hset,if_pos rfl]⟩;generalize hm1:(MS.took { x.2 with live:=nu x.2 dn (kT x.2.f n) b n }:MS)=m1;have hB:m1.blocks=x.2.blocks:=by rw[<-hm1];rfl
  have hN:m1.next=x.2.next:=by rw[<-hm1];rfl
  have i1:In b m1:=by rw[<-hm1];exact⟨q.ok.at (Tf _),hbl,MZ (m:=x.2) (dn:=dn) q.ok.p0 hlen hb⟩
  have tk:=bU (s:=s) (at_:=x.2.at_) (n:=7) V6;have w1:=i1.eV (s:=s) (aG s x.2.at_ 7).toNat;obtain⟨w2,t1,t2,t3⟩:=w1.inn.term (s:=s) ht;have g:=((Grw.refl (b:=b) (m:=m1)).eV (s:=s) i1.lt (aG s x.2.at_ 7).toNat).JL (s:=s) (to:=nth to b) i1.lt;have w:=w1.trans w2;have eD:jL s to n dn (kT x.2.f n) b x.2=pD s (nth to b) b (up (λ_=>aO s b) (aG s x.2.at_ 7).toNat m1):=by rw[<-hm1];rfl
  rw[eD];unfold pD;generalize fl s (nth to b) b (up (λ_=>aO s b) (aG s x.2.at_ 7).toNat m1)=r at w2 t1 t2 t3 g w;have e0:Ext x.2 r.2:=by have e:=w.ext;exact⟨by rw[e.ps,<-hm1];rfl,by rw[e.len,hB],λj=>by rw[e.to,hB],λj v hv=>e.phis j v (by rw[hB];exact hv),λj=>by have:=e.ins j;rw[hB]at this;exact this⟩
  have gt2:=q.gt.ext e0;obtain⟨k1,k2⟩:=Ok.fG w2.inn (t:=r.1) (by rw[t2,gt2.to b hb]) t3;have hnth : ∀j,nth (r.2.fG b r.1).blocks j=if b=j then{ nth r.2.blocks b with term:=r.1 } else nth r.2.blocks j:=λj=>by
   show nth (r.2.blocks.set b _) j=_;have:=gt2.len;rcases Sb j r.2.blocks.length with hl | hl
   ·rw[bs hl]
   rw[bK (by simpa using hl),if_neg V4,bK hl]
  have hels : ∀j,b≠j->nth (r.2.fG b r.1).blocks j=nth x.2.blocks j:=λj hj=>by rw[hnth,if_neg hj,g.els j (λe=>hj e.symm),hB]
  have hlen0:=q.emp b hb hd;refine⟨gt2.ext k2,k1,hdl,λj hj h=>?_,λj hj h=>?_,λj hj=>?_,?_⟩
  ·by_cases e:b=j
   ·show lI (nth (r.2.fG b r.1).blocks j).term=VG;rw[hnth,if_pos e];exact t1
   show lI (nth (r.2.fG b r.1).blocks j).term=VG;rw[hels j e];refine q.term j hj ?_;have h:nth dn j=true:=h;rw[hset,if_neg e]at h;exact h
  ·have h:nth dn j=false:=h;rw[hset]at h;split at h
   ·cases h
   rename_i e;show(nth (r.2.fG b r.1).blocks j).ins.length=0;rw[hels j e];exact q.emp j hj h
  ·show(nth (r.2.fG b r.1).blocks j).ins.length<=45;by_cases e:b=j
   ·rw[hnth,if_pos e];have:=w.ins;rw[hB]at this;show(nth r.2.blocks b).ins.length<=45;omega
   rw[hels j e];exact q.ins j hj
  show r.2.next+45*((cnt0 dn:Nat):Int)<=_;have:=w.nx;have:=q.nx;omega
 rename_i hr;exact⟨q,λj h=>h,λh=>absurd h hr⟩
theorem D4.upto{x:BL × MS}(q:D4 n to x)(ht : ∀j,(nth to j).length<=65) : ∀k,k<=n->D4 n to (up (bo s to n) k x)/\(∀j,nth x.1 j=VG->nth (up (bo s to n) k x).1 j=VG)/\(∀b,b<k->nth x.1 b=VH->(∀a,a<n->a=b\/nth x.1 a=VG\/Re (ofG x.2.blocks) (a:Int) b)->nth (up (bo s to n) k x).1 b=VG)
 | 0,_=>⟨q,λj h=>h,λb hb=>absurd hb (Tx _)⟩
 | k+1,hk=>by
  obtain⟨h1,h2,h3⟩:=D4.upto q ht k V4;have e:up (bo s to n) (k+1) x=bo s to n k (up (bo s to n) k x):=rfl;rw[e];generalize up (bo s to n) k x=y at h1 h2 h3;obtain⟨h4,h5,h6⟩:=h1.step (s:=s) (b:=k) V4 (ht k);refine⟨h4,λj h=>h5 j (h2 j h),λb hb hd hr=>?_⟩;rcases Sb b k with h | h
  ·exact h5 b (h3 b h hd hr)
  have:b=k:=by omega
  subst this;cases hy:nth y.1 b with
  | true=>exact h5 b hy
  | false=>
   refine h6 (Kk h1.gt.len V4 hy λa ha=>?_);rcases hr a ha with r | r | r
   ·exact .inl r
   ·exact .inr (.inl (h2 a r))
   refine .inr (.inr ?_);have eg:ofG y.2.blocks=ofG x.2.blocks:=by unfold ofG;rw[h1.gt.len,q.gt.len];refine List.map_congr_left λi hi=>?_;have hi:i<n:=TA.1 hi;rw[h1.gt.to i hi,q.gt.to i hi]
   rw[eg];exact r
theorem D4.turn{x:BL × MS}(q:D4 n to x)(ht : ∀j,(nth to j).length<=65)(hw : ∀b,b<n->Re (ofG x.2.blocks) (-1) b):D4 n to (up (bo s to n) n x)/\(cnt0 (up (bo s to n) n x).1=0\/cnt0 (up (bo s to n) n x).1<cnt0 x.1):=by
 obtain⟨h1,h2,h3⟩:=q.upto (s:=s) ht n (RX _);refine⟨h1,?_⟩;generalize up (bo s to n) n x=y at h1 h2 h3;by_cases hz : ∃b,b<n/\nth x.1 b=VH
 ·obtain⟨b,hb,hd⟩:=hz;obtain⟨c,k1,k2,k3⟩:=KJ (l:=x.2.blocks) (dn:=x.1) (λb hb=>hw b (by rw[q.gt.len]at hb;exact hb)) (b:=b) (by rw[q.gt.len];exact hb) hd;rw[q.gt.len]at k1 k3;exact .inr (CR (by rw[h1.len,q.len]) (λj _=>h2 j) c (by rw[q.len];exact k1) k2 (h3 c k1 k2 k3))
 refine .inl ?_;have : ∀{l:BL},(∀j,j<l.length->nth l j=VG)->cnt0 l=0:=fun{l}=>by
  induction l with
  | nil=>intro _;rfl
  | cons a l ih=>
   intro h;have h1:a=true:=h 0 V5;have h2:=ih λj hj=>by have:=h (j+1) (by simpa using hj);rwa [oA]at this
   unfold cnt0;rw[h1,h2];rfl
 refine this λj hj=>h2 j ?_;rw[h1.len]at hj;cases e:nth x.1 j with
 | true=>rfl
 | false=>exact absurd ⟨j,hj,e⟩ hz
theorem D4.turns{x:BL × MS}(q:D4 n to x)(ht : ∀j,(nth to j).length<=65)(hw : ∀{m:MS},Gt n to m->∀b,b<n->Re (ofG m.blocks) (-1) b) : ∀k,D4 n to (up (λ_=>up (bo s to n) n) k x)/\(cnt0 (up (λ_=>up (bo s to n) n) k x).1=0\/cnt0 (up (λ_=>up (bo s to n) n) k x).1+k<=n)
 | 0=>⟨q,.inr (by have:=zc (l:=x.1);rw[q.len]at this;exact this)⟩
 | k+1=>by
  obtain⟨h1,h2⟩:=D4.turns q ht hw k;have e:up (λ_=>up (bo s to n) n) (k+1) x=up (bo s to n) n (up (λ_=>up (bo s to n) n) k x):=rfl;rw[e];generalize up (λ_=>up (bo s to n) n) k x=y at h1 h2;obtain⟨h3,h4⟩:=h1.turn (s:=s) ht (hw h1.gt);refine⟨h3,?_⟩;rcases h4 with h4 | h4
  ·exact .inl h4
  rcases h2 with h2 | h2
  ·omega
  exact .inr V4
theorem KF{m:MS}(g:Gt (aT s) (fA s).1 m): ∀b,b<aT s->Re (ofG m.blocks) (-1) b:=by have t:=Da (s:=s);obtain⟨h1,h2⟩:=fT (s:=s);intro b hb;refine Pp (by rw[g.len];omega) (λb h1 hb=>?_) b (by rw[g.len];exact hb);rw[g.len]at hb;obtain⟨a,ha,hm⟩:=t.way b h1 V4;exact⟨a,ha,by rw[g.to a V4];exact hm⟩
theorem Mc:D4 (aT s) (fA s).1 (pM s)/\∀j,j<aT s->nth (pM s).1 j=true:=by
 obtain⟨q,h1,h2⟩:=Ey (s:=s);have t:=Da (s:=s);have hr : ∀j,nth (List.replicate (aT s) VH) j=false:=λj=>by
  rcases Sb j (aT s)with hl | hl
  ·rw[aD hl]
  rw[bK (by simpa using hl)];rfl
 have d0:D4 (aT s) (fA s).1 (List.replicate (aT s) VH,(gL s).2):=
  ⟨q.gt,q.ok,by simp,λj hj h=>by{ rw[hr]at h;cases h },λj hj _=>by{ show(nth (gL s).2.blocks j).ins.length=0;rw[q.none j hj];rfl },λj hj=>by{ show(nth (gL s).2.blocks j).ins.length<=45;rw[q.none j hj];exact Tv _ },by have:=zc (l:=List.replicate (aT s) VH);rw[SN]at this;show(gL s).2.next+45*((cnt0 (List.replicate (aT s) VH):Nat):Int)<=_;omega⟩;obtain⟨h3,h4⟩:=d0.turns (s:=s) (λj=>by have:=t.row j;omega) (λg=>KF g) (aT s);refine⟨h3,λj hj=>?_⟩;have h4:cnt0 (pM s).1=0\/cnt0 (pM s).1+aT s<=aT s:=h4;exact AG V4 j (by rw[show(pM s).1.length=aT s from h3.len];exact hj)
end
end Go.Lft
