/- A part of the proof: Mk, Ml, Mm, Mn, Ig, Ih, Ii, Ij, Ik, Il, Mo, Mp, Mq, Mr, Ms, Mt, Mu, Mv, Mw, Mx, My, Mz, Na. -/
import Derived.Test.YtmhnaeecolpfkaaGreatZSRun4
set_option linter.unusedSimpArgs false
set_option linter.unusedVariables false
open Go.Value renaming int->Qy,slice->QD,pointer->QE
open Go.IntKind renaming i64->Qz,i32->QA
open Option renaming some->QB,none->QC
open Bool renaming true->QF,false->QG
open Go.Proofs.Tryz renaming prog->QH
open Go.Proofs
namespace Go.Lft
theorem xl{P:Program}{Q:Post}{ρ:Env}{h:Heap}{a i c:Nat}{ks ks2:List Nat}{ce:E}{body:LC}{σ:Type}(kp:List Nat)(vals:σ->Nat->List Value)(J:σ->Nat->Heap->Prop)(n:Nat)(d:Nat)(s0:σ)
  (hok:qP kp ks ks2 c i=QF) (hn:n+d<=9223372036854775806) (h0:bh kp ρ=kp.zip (vals s0 0)) (hj:J s0 0 h)
  (hi : ∀s k,look (kp.zip (vals s k)) i=QB (Qy Qz ((k+d:Nat):Int)))
  (hb : ∀s k h,k<=n->J s k h->ev (look (kp.zip (vals s k))) (vw h) ce=QB (.bool (decide (k<n))))
  (round : ∀s k h,k<n->J s k h->∀K:Env->Heap->Prop,(∀s' ρ' h',look ρ' i=QB (Qy Qz ((k+d:Nat):Int))->bh kp (setE ρ' i (Qy Qz (((k+d:Nat):Int)+1)))=kp.zip (vals s' (k+1))->J s' (k+1) h'->K ρ' h')->body.wp P (fN K (dU a Q)) (kp.zip (vals s k)) h)
  (done : ∀s h,J s n h->Q .normal (kp.zip (vals s n)) h):LC.wp P (forC a i c ks ks2 ce body) (dU a Q) ρ h:=by
 simp only[qP,N1,M8,OE,bne_iff_ne,NS,beq_iff_eq,ne_eq]at hok;refine iA kp (λm ρ h=>∃s k,k<=n/\ρ=kp.zip (vals s k)/\m=n-k/\J s k h) n ⟨s0,0,by omega,h0,by omega,hj⟩ ?_;rintro m ρ h ⟨s,k,hk,rfl,rfl,hJ⟩ K hK;have hkill:bJ (kp.zip (vals s k)) ks=kp.zip (vals s k):=mG λp hp=>(hok p.1 (ld hp)).1.1;have hne : ∀p∈kp.zip (vals s k),p.1≠c:=λp hp=>(hok p.1 (ld hp)).1.2;have hk2 : ∀v,bJ (setE (kp.zip (vals s k)) c v) [c]=kp.zip (vals s k):=λv=>mD hne;have hlk : ∀v,look (setE (kp.zip (vals s k)) c v) c=QB v:=λv=>by rw[ar,if_pos rfl]
 simp only[sU,kY,iF,fK,jD,kU,hb s k h hk hJ,Nn,jc,kO,true_and,db,hkill,bS,mf,mZ,hlk,ku,hk2,oR,oY,mC,mj,if_true];refine⟨λhlt=>?_,λhge=>?_⟩
 ·have hlt':k<n:=by omega
  rw[ll];refine round s k h hlt' hJ _ λs' ρ' h' hl he hJ'=>?_;simp only[kY,iF,fK,jD,kU,kJ,mZ,hl,kO,true_and,Nn,wX,Nn,xk,jc,db,bS,true_and];rw[bu Q1 Q1];refine hK (n-(k+1)) _ _ Q1 ⟨s',k+1,by omega,?_,rfl,hJ'⟩;rw[<-he];refine lU λt ht=>?_;rw[ar,ar,au];split
  ·rfl
  rename_i hti;rcases(hok t ht).2 with e | e
  ·exact absurd e.symm hti
  rw[e];rfl
 have:k=n:=by omega
 subst this;exact done s h hJ
open Classical in
/-- Several of one's own, written no more. -/
theorem Owns.tM{W:View}{h:Heap}{o:Own}(w:Owns W h o)(S:Key->Bool) :
  ∃W':View,W.le W'/\Owns W' h (λk=>if S k then QC else o k)/\∀{k:Key} {α:Type} [r:Rep α] {e:TypeId} {v:Value} {l:List α},S k=QF->o k=it e v l->SlRd W' v l:=by
 have hle:W.le (λb=>if ∃k i,S k=QF/\o k=QB i/\i.v.ownBlock=QB b then h[b]? else W b):=λb x hb=>by
  show(if _ then _ else _)=_;rw[if_neg]
  ·exact hb
  rintro⟨k,i,_,h2,h3⟩;rw[w.av k i h2 b h3]at hb;cases hb
 refine⟨λb=>if ∃k i,S k=QF/\o k=QB i/\i.v.ownBlock=QB b then h[b]? else W b,hle,?_,?_⟩
 ·refine⟨λb x hb=>?_,λk i hk=>?_,λk i hk b hb=>?_,λk k' i i' b hk hk'=>?_⟩
  ·split at hb
   ·exact hb
   exact w.wle b x hb
  ·split at hk
   ·cases hk
   exact @OwnT.mono i.α i.rep _ _ _ _ _ (w.own k i hk) _ hle
  ·split at hk
   ·cases hk
   rename_i hs;show(if _ then _ else _)=_;rw[if_neg]
   ·exact w.av k i hk b hb
   rintro⟨k',i',h1,h2,h3⟩;exact hs (w.dj k k' i i' b hk h2 hb h3▸h1)
  split at hk
  ·cases hk
  split at hk'
  ·cases hk'
  exact w.dj k k' i i' b hk hk'
 intro k α r e v l hs hk;refine(w.get hk).rd hle λb hb=>?_;rw[if_pos ⟨k,_,hs,hk,hb⟩]
theorem Owns.nils{W:View}{h:Heap}{o o':Own}(w:Owns W h o)(ho : ∀k i,o' k=QB i->o k=QB i\/(i.v = QD QC 0 0/\@OwnT i.α i.rep W h i.e i.v i.l)):Owns W h o':=by
 have hnb : ∀{i:Item} {b:Nat},i.v = QD QC 0 0->i.v.ownBlock=QB b->False:=λe hb=>by rw[e]at hb;simp[Value.ownBlock]at hb
 refine⟨w.wle,λk i hk=>?_,λk i hk b hb=>?_,λk k' i i' b hk hk' hb hb'=>?_⟩
 ·rcases ho k i hk with h1 | ⟨_,h1⟩
  ·exact w.own k i h1
  exact h1
 ·rcases ho k i hk with h1 | ⟨e,_⟩
  ·exact w.av k i h1 b hb
  exact(hnb e hb).elim
 rcases ho k i hk with h1 | ⟨e,_⟩
 ·rcases ho k' i' hk' with h2 | ⟨e,_⟩
  ·exact w.dj k k' i i' b h1 h2 hb hb'
  exact(hnb e hb').elim
 exact(hnb e hb).elim
abbrev TgS:=List (List Int) × MS
def lG(x:TgS)(p b:Nat)(m:MS):TgS:=(x.1.set p (nth x.1 p++[(b:Int)]),m)
def tgA(s:List Int)(k:Nat)(x:TgS):TgS:=
 if aB s x.2.at_ 3=0 then lG x (aB s (x.2.at_+1) ((k+1:Nat):Int)).toNat (k+1) x.2.took.took
 else lG x k (k+1) x.2.took
def tgI(s:List Int)(n b:Nat)(x:TgS):TgS:=
 let t:=1+aB s x.2.at_ ((n:Int)-1)
 if t<=b then
  if aB s (x.2.at_+1) 2=0 then lG x b (min (b+1) (n-1)) x.2.took.took else lG x b t.toNat x.2.took.took
 else lG x b t.toNat x.2.took
def tgB(s:List Int)(n b:Nat)(x:TgS):TgS:=up (λ_=>tgI s n b) (if 1<n then(aB s x.2.at_ 6-3).toNat else 0) (x.1,x.2.took)
def oM(s:List Int)(n:Nat)(m:MS):TgS:=up (tgB s n) n (up (tgA s) (n-1) (List.replicate n [],m))
structure TgO(ri:Own)(o:Own)(vo:Value)(l:List (List Int))(rv:List Raw):Prop where
 res : ∀k:Key,8<=k.1->o k=ri k
 top:o (3,0)=it T.bn vo rv
 len:rv.length=l.length
 row : ∀i,i<l.length->o (4,i)=it T.int (nth rv i).v (nth l i)
 els : ∀k:Key,3<=k.1->k.1<8->k≠(3,0)->(∀i,i<l.length->k≠(4,i))->o k=QC
theorem TgO.put{ri:Own}{o:Own}{vo:Value}{l:List (List Int)}{rv:List Raw}(q:TgO ri o vo l rv){p:Nat}(hp:p<l.length){v':Value}{r:List Int}:TgO ri ((o.upd (4,p) (it T.int v' r)).upd (3,0) (it T.bn vo (rv.set p ⟨v'⟩))) vo (l.set p r) (rv.set p ⟨v'⟩):=by
 have hpr:p<rv.length:=by rw[q.len];exact hp
 refine⟨λk hk=>(Own.af (by rintro rfl;simp at hk)).trans ((Own.af (by rintro rfl;simp at hk)).trans (q.res k hk)),Own.ah,by simp[q.len],λi hi=>?_,λk h1 h8 h2 h3=>?_⟩
 ·have hi:i<l.length:=by simpa using hi
  have hir:i<rv.length:=by rw[q.len];exact hi
  rw[Own.af Sb,aK hir,aK hi];by_cases e:p=i
  ·subst e;rw[Own.ah,if_pos rfl,if_pos rfl]
  rw[Own.af (λe2=>e (by injection e2 with _ e2;exact e2.symm)),if_neg e,if_neg e];exact q.row i hi
 have h3 : ∀i,i<l.length->k≠(4,i):=λi hi=>h3 i (by simpa using hi);rw[Own.af h2,Own.af (h3 p hp)];exact q.els k h1 h8 h2 h3
def Tg(ri:Own)(s:List Int)(M:Nat)(vs:Value)(W:View)(vo:Value)(h:Heap)(x:TgS):Prop:=∃W' o rv,W.le W'/\Mk s M vs W' h o x.2/\TgO ri o vo x.1 rv
section
variable{s:List Int}{M:Nat}{vs:Value}{W:View}{vo:Value}{h:Heap}{x:TgS}{ri:Own}
theorem Tg.take(t:Tg ri s M vs W vo h x){c:Nat}(hm:x.2.ok c)(hc:c<=1000000){k:Int}(hk:0<k)(hk2:k<=1000000000) :
  aw QH N.bH #[QT M,Qy Qz k] h (λv h'=>v = Qy Qz (aB s x.2.at_ k)/\Tg ri s M vs W vo h' (x.1,x.2.took)):=by obtain⟨W',o,rv,g,w,q⟩:=t;refine(w.take (by have:=hm.at_;omega) hk hk2).mono ?_;rintro v h' ⟨e,o',w',f⟩;exact⟨e,W',o',rv,g,w',λk hk=>(f k Q1).trans (q.res k hk),(f _ Q2).trans q.top,q.len,λi hi=>(f _ (by show 3<=4;decide)).trans (q.row i hi),λk h1 h8 h2 h3=>(f _ h1).trans (q.els k h1 h8 h2 h3)⟩
theorem Tg.idx(t:Tg ri s M vs W vo h x){k:IntKind}{i:Int}(h0:0<=i)(h1:i<x.1.length):Bn.ev (.idx 1) vo (.int k i)=QB (QE (QB ((slA vo).add i.toNat))):=by obtain⟨W',o,rv,g,w,q⟩:=t;exact(w.own.now q.top).idx1 rfl h0 (by rw[q.len];exact h1)
theorem Tg.put{po po2 po3:OP}(t:Tg ri s M vs W vo h x){p:Nat}(hp:p<x.1.length)(hl:(nth x.1 p).length<=1000000){b:Nat}(hb:b<=1000000) :
  ∃v:Value,aj (vw h) ((slA vo).add p)=QB v/\∀{ty ty2 ty3:TypeId} {a a1 a2:Operand} {c1 c2:Operand} {us:List (Nat × Value)} {us2:Value->List (Nat × Value)} {us3:Value->Value->List (Nat × Value)} {K:Value->Value->Value->Heap->Prop},
   asg us a = Qy Qz b->(∀u,asg (us2 u) a1=v)->(∀u,asg (us2 u) a2=u)->(∀u v',asg (us3 u v') c1 = QE (QB ((slA vo).add p)))->(∀u v',asg (us3 u v') c2=v')->(∀u v' h',Tg ri s M vs W vo h' (lG x p b x.2)->K u v' undef h')->
   @Lft.step po QH (.buildSlice T.bn 1 #[(0,a)]) ty us h λu h2=>@Lft.step po2 QH (.call ⟨.builtin .append,#[a1,a2],#[T.bn,T.bn]⟩) ty2 (us2 u) h2 λv' h3=>@Lft.step po3 QH (.store T.bn c1 c2) ty3 (us3 u v') h3 λw h4=>K u v' w h4:=by
 obtain⟨W',o,rv,g,w,q⟩:=t;have hpr:p<rv.length:=by rw[q.len];exact hp
 have hcell:=((w.own.now q.top).at hpr).raw;have hn:Rep.n Raw=1:=rfl;rw[hn,NN,<-ao hpr]at hcell;refine⟨_,hcell,fun{ty ty2 ty3 a a1 a2 c1 c2 us us2 us3 K} ha ha1 ha2 hc1 hc2 hK=>?_⟩;refine w.own.iN (k:=(4,p)) (α:=Int) (d:=(b:Int)) (q.row p hp) El.bn ha (dJ.2 ⟨rfl,by constructor<;>omega⟩) Q1 Q1 ha1 ha2 λu v' h3 w3 _=>?_;have hv:=(w3.cells (k:=(4,p)) Own.ah).2;refine w3.oT (k:=(3,0)) (α:=Raw) (v:=vo) (l:=rv) (i:=p) (d:=⟨v'⟩) ((Own.af Sb).trans q.top) Q0 (by rw[hc1,hn,NN]) (hc2 u v') hpr (rC.2 ⟨rfl,hv⟩) λh4 w4 _=>hK u v' h4 ?_;obtain⟨vb,vl,lb,bb⟩:=w.box;exact⟨W',_,_,g,⟨w4,w.src,vb,vl,lb,bb.frame λk hk=>by rw[Own.af (by rintro rfl;simp at hk),Own.af (by rintro rfl;simp at hk)]⟩,q.put hp⟩
end
theorem tJ{x:TgS}{p b:Nat}{m:MS}:(lG x p b m).1.length=x.1.length:=by simp[lG]
theorem E6{x:TgS}{p b c:Nat}{m:MS}(h : ∀i,(nth x.1 i).length<=c) : ∀i,(nth (lG x p b m).1 i).length<=c+1:=by
 intro i;have hi:=h i;rcases M0 i x.1.length with hl | hl
 ·show(nth (x.1.set p _) i).length<=_;rw[aK hl];split
  ·rename_i e;subst e;rw[M3,M6];omega
  omega
 rw[aW (by rw[tJ];exact hl)];show 0<=_;omega
structure TgK(n c:Nat)(x:TgS):Prop where
 len:x.1.length=n
 row : ∀i,(nth x.1 i).length<=c
 ok:x.2.ok c
theorem TgK.mono{n c d:Nat}{x:TgS}(h:TgK n c x)(hd:c<=d):TgK n d x:=⟨h.len,λi=>NB (h.row i) hd,h.ok.mono hd⟩
theorem TgK.put{n c p b:Nat}{x:TgS}{m:MS}(h:TgK n c x)(hm:m.ok (c+2)):TgK n (c+2) (lG x p b m):=⟨tJ.trans h.len,λi=>by have:=E6 (p:=p) (b:=b) (m:=m) h.row i;omega,hm⟩
theorem J4{s:List Int}{n c k:Nat}{x:TgS}(h:TgK n c x):TgK n (c+2) (tgA s k x):=by
 unfold tgA;split
 ·exact h.put h.ok.took.took
 exact h.put (h.ok.took.mono Q1)
theorem K6{s:List Int}{n c b:Nat}{x:TgS}(h:TgK n c x):TgK n (c+2) (tgI s n b x):=by
 unfold tgI;simp only;repeat' split
 ·exact h.put h.ok.took.took
 ·exact h.put h.ok.took.took
 exact h.put (h.ok.took.mono Q1)
theorem ze{s:List Int}{n c:Nat}{x:TgS}(h:TgK n c x) : ∀k,TgK n (c+2*k) (up (tgA s) k x)
 | 0=>h
 | k+1=>(J4 (ze h k)).mono Q1
theorem CP{s:List Int}{n c b:Nat}{x:TgS}(h:TgK n c x) : ∀k,TgK n (c+2*k) (up (λ_=>tgI s n b) k x)
 | 0=>h
 | k+1=>(K6 (CP h k)).mono Q1
theorem Ku{s:List Int}{n c b:Nat}{x:TgS}(h:TgK n c x):TgK n (c+10) (tgB s n b x):=by unfold tgB;have ht:=bc (s:=s) (at_:=x.2.at_) (n:=6) Q2;have h1:TgK n (c+1) (x.1,x.2.took):=⟨h.len,λi=>by have:=h.row i;show(nth x.1 i).length<=_;omega,h.ok.took⟩;refine(CP h1 _).mono ?_;split<;>omega
theorem B1{s:List Int}{n c:Nat}{x:TgS}(h:TgK n c x) : ∀k,TgK n (c+10*k) (up (tgB s n) k x)
 | 0=>h
 | k+1=>(Ku (B1 h k)).mono Q1
theorem B0{s:List Int}{M:Nat}{vs:Value}{W:View}{h:Heap}{o:Own}{m:MS}{ri:Own}(w:Mk s M vs W h o m)(hres : ∀k:Key,8<=k.1->o k=ri k)(ho : ∀k:Key,3<=k.1->k.1<8->o k=QC){n c:Nat}(hm:m.ok c)(hc:c<=1000)(hn1:1<=n)(hn2:n<=100) :
  aw QH N.aU #[QT M,Qy Qz n] h (λu h'=>∃W' o',W.le W'/\Mk s M vs W' h' o' (oM s n m).2/\(∀k:Key,8<=k.1->o' k=ri k)/\(∀k:Key,3<=k.1->k.1<8->o' k=QC)/\SlRd W' u (oM s n m).1):=by
 refine ak (args:=[QT M,Qy Qz n]) follows F.aU E.aU Q9 λK hK=>?_;have htd:oM s n m=_:=rfl;dsimp only[L.aU];refine ab λz hz=>?_;simp;subst hz;refine ab λz hz=>?_;simp;refine nO (α:=Raw) (W:=W) (k:=.i64) (n:=n) (d:=⟨QD QC 0 0⟩) El.dd Ri Ri ⟨rfl,rfl⟩ Q1 Q1 λvo h1 o1 m1 hle1 hb1=>?_;have t1:Tg ri s M vs W vo h1 (List.replicate n [],m):=by
  have w1:=w.own.add (k:=(3,0)) (ho _ Q2 Q2) o1 hle1 (λb hb=>by rw[hb1]at hb;cases hb;exact MY _);have w2:=w1.nils (o':=λk=>if k.1=4/\k.2<n then it T.int (QD QC 0 0) ([]:List Int) else o.upd (3,0) (it T.bn vo (List.replicate n (Raw.mk (QD QC 0 0)))) k) λk i hk=>by
   split at hk
   ·cases hk;exact .inr ⟨rfl,OwnT.nil (α:=Int) W h1 T.int⟩
   exact .inl hk
  obtain⟨vb,vl,lb,bb⟩:=w.box;refine⟨W,_,List.replicate n ⟨QD QC 0 0⟩,View.le_refl _,⟨w2,w.src,vb,vl,lb,bb.frame λk hk=>?_⟩,?_,rfl,by simp,λi hi=>?_,λk h1 h8 h2 h3=>?_⟩
  ·have h4:¬(k.1=4/\k.2<n):=by omega
   show(if _ then _ else _)=_;rw[if_neg h4,Own.af (by rintro rfl;simp at hk)]
  ·intro k hk;show(if _ then _ else _)=_;rw[if_neg Q1,Own.af (by rintro rfl;simp at hk),hres k hk]
  ·have hi:i<n:=by simpa using hi
   show(if _ then _ else _)=_;rw[if_pos ⟨rfl,hi⟩,ay hi,ay hi]
  show(if _ then _ else _)=_;rw[if_neg,Own.af h2,ho k h1 h8];rintro⟨e1,e2⟩;refine h3 k.2 (by simpa using e2) ?_;rw[<-e1]
 have k1:TgK n c (List.replicate n [],m):=⟨by simp,λi=>by
  rcases M0 i n with hi | hi
  ·rw[ay hi];show 0<=_;omega
  rw[aW (by simpa using hi)];show 0<=_;omega,hm⟩;clear m1 o1 w ho;obtain⟨x0,hx0⟩ : ∃x0:TgS,x0=(List.replicate n [],m):=⟨_,rfl⟩;rw[<-hx0]at t1 k1;have htd:oM s n m=up (tgB s n) n (up (tgA s) (n-1) x0):=by rw[hx0];rfl
 clear hx0;subst hz;refine ab λz hz=>?_;simp;refine xl [0,1,5,6] (fun(_:Unit) k=>[QT M,Qy Qz n,vo,Qy Qz ((k+1:Nat):Int)]) (λ_ k h2=>Tg ri s M vs W vo h2 (up (tgA s) k x0)) (n-1) 1 ()
  rfl Q1 rfl t1 (λ_ _=>rfl) (λv k h2 hk m=>by simp;omega) ?_ ?_
 ·rintro _ k h2 hlt t2 K2 hK2;have kx:=ze (s:=s) k1 k;have e2:up (tgA s) (k+1) x0=tgA s k (up (tgA s) k x0):=rfl;rw[e2]at hK2;generalize up (tgA s) k x0=x at t2 kx hK2;have hxl:=kx.len;simp only[aL];refine ab λy hy=>?_;simp;rw[show IntKind.i64.wrap (k:Int)=k from bu Q1 Q1];subst hy;refine ab λy hy=>?_;have fin : ∀(p:Nat) (m':MS) (h':Heap) (ρ:Env),tgA s k x=lG x p (k+1) m'->p<n->Tg ri s M vs W vo h' (x.1,m')->Lft.look ρ 0=QB (QT M)->Lft.look ρ 1=QB (Qy Qz n)->Lft.look ρ 5=QB vo->Lft.look ρ 6=QB (Qy Qz ((k+1:Nat):Int))->Lft.look ρ 7=QB (Qy Qz p)->
    LC.wp QH y (dU 1 (fN K2 (dU 0 (fN (LC.wp QH z (fu [.tmp 4] K)) (fu [.tmp 4] K))))) ρ h':=by
   intro p m' h' ρ e hp t r0 r1 r5 r6 r7;subst hy;obtain⟨vr,hvr,put⟩:=t.put (p:=p) (b:=k+1) (by show p<x.1.length;omega) (by have:=kx.row p;show(nth x.1 p).length<=_;omega) Q1;have hix:=t.idx (k:=.i64) (i:=p) Q1 (by show(p:Int)<x.1.length;omega);simp only[M9]at hix;simp[ar,au,r0,r1,r5,r6,r7,hix,hvr];refine put Sb Q4 Q4 (λ_ _=>by simp) (λ_ _=>by simp) λu v' h3 t3=>?_;refine hK2 () _ _ ?_ ?_ (by rw[e];exact t3)
   ·simp[ar,au,r6]
   simp[bh,ar,au,r0,r1,r5]
  have had:tgA s k x=_:=tgA.eq_1 s k x;refine ab λw hw=>?_;simp;refine ag Q0 (t2.take kx.ok Q1 (k:=3) Q2 Q2) ?_;rintro _ h3 ⟨rfl,t3⟩;simp;subst hw;by_cases c3:aB s x.2.at_ 3=0
  ·rw[if_pos c3]at had;refine aZ (by simp[c3]) ?_;simp;refine ag Q0 (t3.take kx.ok.took Q1 (k:=((k+1:Nat):Int)) Q1 Q1) ?_;rintro _ h4 ⟨rfl,t4⟩;have hx:(x.1,x.2.took).2.at_=x.2.at_+1:=rfl;rw[hx];obtain⟨u0,u1⟩:=bc (s:=s) (at_:=x.2.at_+1) (n:=((k+1:Nat):Int)) Q1;generalize aB s (x.2.at_+1) ((k+1:Nat):Int)=q at had u0 u1;refine fin q.toNat _ h4 _ had Q1 t4 ?_ ?_ ?_ ?_ ?_;all_goals simp
   omega
  rw[if_neg c3]at had;refine aV (by simp[c3]) ?_;simp;refine fin k _ h3 _ had Q1 t3 ?_ ?_ ?_ ?_ ?_;all_goals simp
 rintro _ h2 t2;have k2:=ze (s:=s) k1 (n-1);generalize up (tgA s) (n-1) x0=x1 at t2 k2 htd;simp;subst hz;refine ab λz hz=>?_;simp;refine dq [0,1,5,8] (fun(_:Unit) k=>[QT M,Qy Qz n,vo,Qy Qz k]) (λ_ k h3=>Tg ri s M vs W vo h3 (up (tgB s n) k x1)) n ()
  rfl Q1 rfl t2 (λ_ _=>rfl) (λv k h3 hk m=>by simp) ?_ ?_
 ·rintro _ b h3 hlt t3 K2 hK2;have kx:=(B1 (s:=s) k2 b).mono (d:=3000) Q1;have e3:up (tgB s n) (b+1) x1=tgB s n b (up (tgB s n) b x1):=rfl;rw[e3]at hK2;generalize up (tgB s n) b x1=x at t3 kx hK2;simp only[aL];refine ab λy hy=>?_;simp;refine ag Q0 (t3.take kx.ok Q1 (k:=6) Q2 Q2) ?_;rintro _ h4 ⟨rfl,t4⟩;have hbd:tgB s n b x=_:=tgB.eq_1 s n b x;obtain⟨r0,r1⟩:=bc (s:=s) (at_:=x.2.at_) (n:=6) Q2;generalize aB s x.2.at_ 6=r at hbd r0 r1;have kx1:TgK n 3001 (x.1,x.2.took):=⟨kx.len,λi=>by have:=kx.row i;show(nth x.1 i).length<=_;omega,kx.ok.took⟩;obtain⟨cnt,hcnt⟩ : ∃cnt:Nat,cnt=if 1<n then(r-3).toNat else 0:=⟨_,rfl⟩;have hc3:cnt<=3:=by rw[hcnt];split<;>omega
  rw[<-hcnt]at hbd;generalize (x.1,x.2.took)=x2 at t4 kx1 hbd;subst hy;refine ab λy hy=>?_;simp;subst hy;simp only[aL];have hw3:IntKind.i64.wrap (r-3)=r-3:=bu Q1 Q1;refine Gp [0,1,5,8,9,10] (fun(_:Unit) k=>[QT M,Qy Qz n,vo,Qy Qz b,Qy Qz r,Qy Qz k]) (λ_ k h5=>Tg ri s M vs W vo h5 (up (λ_=>tgI s n b) k x2)) cnt ()
   rfl Q1 rfl t4 (λ_ _=>rfl) (λv k h5 hk m=>by
    by_cases hn:1<n
    ·rw[if_pos hn]at hcnt;by_cases hk2:k<cnt
     ·have e1:(k:Int)<r-3:=by omega
      simp[hw3,e1,hk2];omega
     have e1:¬(k:Int)<r-3:=by omega
     simp[hw3,e1,hk2]
    rw[if_neg hn]at hcnt;have e2:¬k<cnt:=by omega
    by_cases e1:(k:Int)<r-3
    ·simp[hw3,e1,e2];omega
    simp[hw3,e1,e2]) ?_ ?_
  ·rintro _ k h5 hltk t5 K3 hK3;have hn2:1<n:=by
    rw[hcnt]at hltk;split at hltk
    ·assumption
    omega
   have kx3:=(CP (s:=s) (b:=b) kx1 k).mono (d:=4000) Q1;have e5:up (λ_=>tgI s n b) (k+1) x2=tgI s n b (up (λ_=>tgI s n b) k x2):=rfl;rw[e5]at hK3;generalize up (λ_=>tgI s n b) k x2=x at t5 kx3 hK3;have hxl:=kx3.len;have hid:tgI s n b x=_:=tgI.eq_1 s n b x;have hwn:IntKind.i64.wrap ((n:Int)-1)=(n:Int)-1:=bu Q1 Q1;simp only[aL];refine ab λy hy=>?_;simp[hwn];refine ag Q0 (t5.take kx3.ok Q1 (k:=(n:Int)-1) Q1 Q1) ?_;rintro _ h6 ⟨rfl,t6⟩;obtain⟨q0,q1⟩:=bc (s:=s) (at_:=x.2.at_) (n:=(n:Int)-1) Q1;generalize aB s x.2.at_ ((n:Int)-1)=q at hid q0 q1;have hwq:IntKind.i64.wrap (1+q)=1+q:=bu Q1 Q1;simp[hwq];subst hy;refine ab λy hy=>?_;refine zo (λρ h'=>∃(t:Nat) (m':MS) (v0 v:Value),tgI s n b x=lG x b t m'/\t<=1000/\Tg ri s M vs W vo h' (x.1,m')/\ρ=[(0,QT M),(1,Qy Qz n),(5,vo),(8,Qy Qz b),(9,Qy Qz r),(10,Qy Qz k),(11,Qy Qz t),(57,Qy Qz q),(62,v0),(64,v)]) ?_ ?_
   ·intro K4 hK4;refine ab λw hw=>?_;by_cases c1:1+q<=b
    ·rw[if_pos c1]at hid;simp[c1];refine ag Q0 (t6.take kx3.ok.took Q1 (k:=2) Q2 Q2) ?_;rintro _ h7 ⟨rfl,t7⟩;have hx:(x.1,x.2.took).2.at_=x.2.at_+1:=rfl;rw[hx];simp;subst hw;by_cases c2:aB s (x.2.at_+1) 2=0
     ·rw[if_pos c2]at hid;refine aZ (by simp[c2]) ?_;simp;refine hK4 _ _ ⟨min (b+1) (n-1),_,.bool QF,Qy Qz (aB s (x.2.at_+1) 2),hid,by omega,t7,?_⟩;rw[hwn,show IntKind.i64.wrap ((b:Int)+1)=(b:Int)+1 from bu Q1 Q1];rw[show(if(n:Int)-1<(b:Int)+1 then(n:Int)-1 else(b:Int)+1)=((min (b+1) (n-1):Nat):Int) by split<;>omega]
     rw[if_neg c2]at hid;refine aV (by simp[c2]) ?_;simp;refine hK4 _ _ ⟨(1+q).toNat,_,.bool QF,Qy Qz (aB s (x.2.at_+1) 2),hid,by omega,t7,?_⟩;rw[show(((1+q).toNat:Nat):Int)=1+q by omega]
    rw[if_neg c1]at hid;simp[c1];subst hw;refine aV Sb ?_;simp;refine hK4 _ _ ⟨(1+q).toNat,_,.bool QG,undef,hid,by omega,t6,?_⟩;rw[show(((1+q).toNat:Nat):Int)=1+q by omega]
   rintro _ h7 ⟨t,m',v0,v,e,ht,t7,rfl⟩;subst hy;obtain⟨vr,hvr,put⟩:=t7.put (p:=b) (b:=t) (by show b<x.1.length;omega) (by have:=kx3.row b;show(nth x.1 b).length<=_;omega) Q1;have hix:=t7.idx (k:=.i64) (i:=b) Q1 (by show(b:Int)<x.1.length;omega);simp only[M9]at hix;simp[hix,hvr];refine put rfl (λ_=>rfl) (λ_=>rfl) (λ_ _=>rfl) (λ_ _=>rfl) λu v' h8 t8=>?_;exact hK3 () _ _ rfl rfl (by rw[e];exact t8)
  rintro _ h5 t5;simp;refine hK2 () _ _ rfl rfl (by rw[hbd];exact t5)
 rintro _ h3 t3;rw[<-htd]at t3;simp;subst hz;simp;refine hK _ _ ?_;obtain⟨W',o,rv,g,w,q⟩:=t3;obtain⟨W2,g2,w2,fr⟩:=w.own.tM (λk=>decide (3<=k.1)&&decide (k.1<8));obtain⟨vb,vl,lb,bb⟩:=w.box;refine⟨W2,_,Qx g g2,⟨w2,w.src.mono g2,vb,vl,lb,bb.frame λk hk=>?_⟩,?_,λk hk h8=>by simp[hk,h8],?_⟩
 ·have:¬3<=k.1:=by omega
  simp[this]
 ·intro k hk;have h1:3<=k.1:=by omega
  have h2:¬k.1<8:=by omega
  simp[h2];exact q.res k hk
 refine qh (fr (k:=(3,0)) Q2 q.top) rfl q.len λi h1 h2 cs hr=>?_;obtain⟨e,_⟩:cs=[(rv[i]).v]/\_:=hr;refine⟨_,e,?_⟩;have:=fr (k:=(4,i)) Sb (q.row i h2);rwa [ao h1,ao h2]at this
section
structure Grw(b k:Nat)(m m':MS):Prop where
 at0:m.at_<=m'.at_
 at1:m'.at_<=m.at_+k
 n0:m.next<=m'.next
 n1:m'.next<=m.next+k
 ps:m'.ps=m.ps
 live:m'.live.length<=m.live.length+k
 len:m'.blocks.length=m.blocks.length
 els : ∀i,i≠b->nth m'.blocks i=nth m.blocks i
 ins:(nth m'.blocks b).ins.length<=(nth m.blocks b).ins.length+k
 phis:(nth m'.blocks b).phis=(nth m.blocks b).phis
 term:(nth m'.blocks b).term=(nth m.blocks b).term
variable{s:List Int}{m m' m2:MS}{b c k l:Nat}
theorem Grw.refl:Grw b 0 m m:=⟨MY _,MY _,NP _,by omega,rfl,MY _,rfl,λ_ _=>rfl,MY _,rfl,rfl⟩
theorem Grw.trans(g:Grw b k m m')(h:Grw b l m' m2):Grw b (k+l) m m2:=
 ⟨NB g.at0 h.at0,by have:=g.at1;have:=h.at1;omega,Qm g.n0 h.n0,by have:=g.n1;have:=h.n1;omega,h.ps.trans g.ps,by have:=g.live;have:=h.live;omega,h.len.trans g.len,λi hi=>(h.els i hi).trans (g.els i hi),by have:=g.ins;have:=h.ins;omega,h.phis.trans g.phis,h.term.trans g.term⟩
theorem Grw.mono(g:Grw b k m m')(h:k<=l):Grw b l m m':=
 ⟨g.at0,by have:=g.at1;omega,g.n0,by have:=g.n1;omega,g.ps,by have:=g.live;omega,g.len,g.els,by have:=g.ins;omega,g.phis,g.term⟩
theorem Grw.took(g:Grw b k m m'):Grw b (k+1) m m'.took:=g.trans ⟨by show _<=m'.at_+1;omega,MY _,NP _,by show m'.next<=_;omega,rfl,by show m'.live.length<=_;omega,rfl,λ_ _=>rfl,by show(nth m'.blocks b).ins.length<=_;omega,rfl,rfl⟩
theorem Grw.aH(g:Grw b k m m'):Grw b (k+1) m m'.aH:=g.trans ⟨MY _,by show m'.at_<=_;omega,by show _<=m'.next+1;omega,NP _,rfl,by show m'.live.length<=_;omega,rfl,λ_ _=>rfl,by show(nth m'.blocks b).ins.length<=_;omega,rfl,rfl⟩
theorem Grw.add{i:InsD}(hb:b<m.blocks.length)(g:Grw b k m m'):Grw b (k+2) m (m'.add b i):=by
 have hb':b<m'.blocks.length:=by rw[g.len];exact hb
 have e:nth (m'.add b i).blocks b={ nth m'.blocks b with ins:=(nth m'.blocks b).ins++[i] }:=by show nth (m'.blocks.set b _) b=_;rw[aK hb',if_pos rfl]
 refine g.trans ⟨MY _,by show m'.at_<=_;omega,NP _,by show m'.next<=_;omega,rfl,?_,kP,λj hj=>?_,?_,by rw[e],by rw[e]⟩
 ·show(m'.live++bm i).length<=_;have h2:(bm i).length<=2:=by
   unfold bm;repeat' split
   all_goals simp
  rw[M3];omega
 ·show nth (m'.blocks.set b _) j=_;rcases M0 j m'.blocks.length with hl | hl
  ·rw[aK hl,if_neg (λe=>hj e.symm)]
  rw[aW (by simpa using hl),aW hl]
 rw[e];show((nth m'.blocks b).ins++[i]).length<=_;rw[M3,M6];omega
theorem Grw.constant{n:Int}(hb:b<m.blocks.length)(g:Grw b k m m'):Grw b (k+3) m (m'.constant b n):=g.aH.add hb
theorem Grw.two{op x y:Int}(hb:b<m.blocks.length)(g:Grw b k m m'):Grw b (k+3) m (m'.two b op x y):=g.aH.add hb
theorem Grw.eT(hb:b<m.blocks.length)(g:Grw b k m m'):Grw b (k+10) m (aE s m' b).2:=by
 unfold aE;repeat' split
 ·exact(g.took.took.constant hb).mono Q1
 ·exact(g.took.took.took.took.took.constant hb).mono Q1
 exact(g.took.took.took).mono Q1
theorem Grw.addr(hb:b<m.blocks.length)(g:Grw b k m m'):Grw b (k+30) m (jw s m' b).2:=by
 unfold jw;simp only;split
 ·exact(((((g.took.constant hb).took.eT hb).constant hb).two hb).two hb).mono Q1
 exact((g.took.constant hb).took).mono Q1
theorem Grw.off(g:Grw b k m m'):Grw b (k+4) m (offS s m').2:=by
 unfold offS;split
 ·exact g.took.took.took.took
 exact g.took.took.mono Q1
theorem Grw.memory{st:Bool}(hb:b<m.blocks.length)(g:Grw b k m m'):Grw b (k+60) m (iL s m' b st):=by
 unfold iL;simp only;split
 ·exact((((g.addr hb).off.eT hb)).add hb).mono Q1
 exact(((g.addr hb).off.aH).add hb).mono Q1
theorem Grw.bin{op:Int}(hb:b<m.blocks.length)(g:Grw b k m m'):Grw b (k+60) m (binS s m' b op):=by
 unfold binS;simp only;split
 ·exact((((g.eT hb).eT hb).took.took.constant hb).two hb).mono Q1
 exact(((g.eT hb).eT hb).took.two hb).mono Q1
theorem Grw.div(hb:b<m.blocks.length)(g:Grw b k m m'):Grw b (k+60) m (divS s m' b):=by
 unfold divS;simp only;split
 ·exact((((g.eT hb).took.constant hb).took.took.constant hb).two hb).mono Q1
 exact(((g.eT hb).took.constant hb).took.two hb).mono Q1
theorem Grw.args(hb:b<m.blocks.length){x:List Int × MS}(g:Grw b k m x.2) : ∀n,Grw b (k+10*n) m (up (fI s b) n x).2
 | 0=>g
 | n+1=>((Grw.args hb g n).eT hb).mono Q1
theorem Grw.call(hb:b<m.blocks.length)(g:Grw b k m m'):Grw b (k+70) m (mT s m' b):=by unfold mT;simp only;have ht:=bc (s:=s) (at_:=m'.at_) (n:=5) Q2;have g2:=Grw.args (s:=s) hb (x:=([],m'.took)) g.took (aB s m'.at_ 5).toNat;exact(g2.aH.took.add hb).mono Q1
theorem Grw.gW(hb:b<m.blocks.length)(g:Grw b k m m'):Grw b (k+80) m (aF s b m'):=by
 unfold aF;simp only;repeat' split
 ·exact(g.took.bin hb).mono Q1
 ·unfold ltuS;exact(((g.took.eT hb).eT hb).two hb).mono Q1
 ·exact(g.took.div hb).mono Q1
 ·exact(g.took.memory hb).mono Q1
 ·exact(g.took.call hb).mono Q1
 ·unfold sy;exact(((g.took.eT hb).eT hb).aH.aH.add hb).mono Q1
 exact(g.took.took.took.constant hb).mono Q1
theorem Grw.eA(hb:b<m.blocks.length)(g:Grw b k m m') : ∀n,Grw b (k+80*n) m (up (λ_=>aF s b) n m')
 | 0=>g
 | n+1=>((Grw.eA hb g n).gW hb).mono Q1
theorem Grw.GW{to:List Int}(hb:b<m.blocks.length)(g:Grw b k m m'):Grw b (k+40) m (eN s to b m').2:=by
 unfold eN;simp only;repeat' split
 ·exact g.took.took.mono Q1
 ·exact(g.took.eT hb).mono Q1
 ·exact g.took.mono Q1
 ·exact g.mono Q1
 ·exact((((g.eT hb).took.eT hb)).aH.took.add hb).mono Q1
 ·exact(g.eT hb).took.mono Q1
 exact(((g.eT hb).constant hb).two hb).mono Q1
def MS.f(m:MS):aq:=⟨m.ps,m.blocks⟩
def MS.gV(m:MS)(b:Nat)(l:List Int):MS:={ m with blocks:=m.blocks.set b { nth m.blocks b with term:={ (nth m.blocks b).term with to:=l } } }
def gZ(s:List Int)(m:MS)(b:Nat):Int:=
 if 1<(aA m.f b).length then aB s m.at_ 4 else if aB s m.at_ 6=0 then 1 else 0
def dc(b:Nat)(m:MS):MS:={ m.aH with blocks:=m.blocks.set b { nth m.blocks b with phis:=(nth m.blocks b).phis++[⟨m.next,[]⟩] } }
def du(s:List Int)(k:Nat)(x:List Int × MS):List Int × MS:=
 (x.1.set (k+1) (gZ s x.2 (k+1)),up (λ_=>dc (k+1)) (gZ s x.2 (k+1)).toNat x.2.took)
def jR(f:aq)(n:Nat):List BL:=rows (λa=>eJ f (a:Int)) n
def og(dn:BL)(away:List BL)(b n:Nat):Bool:=up (λa r=>r&&(decide (a=b)||nth dn a||nth (nth away a) b)) n (!nth dn b)
def iuq(m:MS)(dn:BL)(away:List BL)(b:Nat)(a:Nat)(l:List Int):List Int:=
 if decide (a≠b)&&(!nth dn a||nth (nth away a) b) then l
 else l++(nth m.blocks a).phis.map PhiD.dst++(nth m.blocks a).ins.flatMap bm
def lF(m:MS)(dn:BL)(away:List BL)(b n:Nat):List Int:=up (iuq m dn away b) n (rows (λi=>(i:Int)) m.ps.toNat)
def jn(s:List Int)(to:List (List Int))(n:Nat)(dn:BL)(away:List BL)(b:Nat)(m:MS):MS:=
 let m1:MS:={ m with live:=lF m dn away b n }
 mU s (nth to b) b (up (λ_=>aF s b) (aB s m1.at_ 7).toNat m1.took)
def aN(s:List Int)(to:List (List Int))(n:Nat)(b:Nat)(x:BL × MS):BL × MS:=
 if og x.1 (jR x.2.f n) b n then(x.1.set b QF,jn s to n (x.1.set b QF) (jR x.2.f n) b x.2) else x
def bQ(s:List Int)(p:List Int)(k:Nat)(x:List InD × MS):List InD × MS:=
 let b:=(nth p k).toNat
 let l:=gP x.2.f b
 let r:List Int × MS:=if l.length=0 then([x.2.next],x.2.took.took.constant b (fo s x.2)) else(l,x.2)
 (x.1++[⟨nth p k,nth r.1 (aB s r.2.at_ r.1.length).toNat⟩],r.2.took)
def MS.ju(m:MS)(b i:Nat)(l:List InD):MS:={ m with blocks:=m.blocks.set b { nth m.blocks b with phis:=(nth m.blocks b).phis.set i { nth (nth m.blocks b).phis i with ins:=l } } }
def phi3(s:List Int)(b:Nat)(p:List Int)(i:Nat)(m:MS):MS:=(up (bQ s p) p.length ([],m)).2.ju b i (up (bQ s p) p.length ([],m)).1
def blk3(s:List Int)(phis:List Int)(k:Nat)(m:MS):MS:=up (phi3 s (k+1) (aA m.f ((k+1:Nat):Int))) (nth phis (k+1)).toNat m
def uA(s:List Int):MS:=⟨2,aB s 0 5,[],aB s 0 5,[]⟩
def aG(s:List Int):Nat:=(1+aB s 1 9).toNat
def eW(s:List Int):TgS:=oM s (aG s) (uA s)
def pt:BlkD:=⟨[],[],⟨0,[],[],⟨0⟩⟩⟩
def lI(s:List Int):MS:=up (λb m=>m.gV b (nth (eW s).1 b)) (aG s) { (eW s).2 with blocks:=List.replicate (aG s) pt }
def gl(s:List Int):List Int × MS:=up (du s) (aG s-1) (List.replicate (aG s) 0,lI s)
def nz(s:List Int):BL × MS:=up (λ_=>up (aN s (eW s).1 (aG s)) (aG s)) (aG s) (List.replicate (aG s) QG,(gl s).2)
def gS(s:List Int):MS:=up (blk3 s (gl s).1) (aG s-1) (nz s).2
def iV(s:List Int):aq:=(gS s).f
end
section
variable{s:List Int}{M:Nat}{vs:Value}{W0:View}{h:Heap}{o0:Own}{m:MS}{u:Value}{ds:List Int}
structure Reads(M:Nat)(m:MS)(h:Heap)(vb vl:Value):Prop where
 ps:aj (vw h) ⟨M,2,QC⟩=QB (Qy Qz m.ps)
 nx:aj (vw h) ⟨M,4,QC⟩=QB (Qy Qz m.next)
 cb:aj (vw h) ⟨M,3,QC⟩=QB vb
 cl:aj (vw h) ⟨M,5,QC⟩=QB vl
 f:Un.ev (vw h) (.ax 2) (QE (QB ⟨M,2,QC⟩))=QB (.agg #[Qy Qz m.ps,vb])
 blk:SlRd (vw h) vb m.blocks
 live:SlRd (vw h) vl m.live
theorem Reads.rd{vb vl:Value}(r:Reads M m h vb vl)(hp:I64 m.ps):Rd (vw h) (.agg #[Qy Qz m.ps,vb]) m.f:=⟨_,rfl,[Qy Qz m.ps],[vb],rfl,⟨rfl,hp⟩,vb,rfl,r.blk⟩
theorem Mk.reads{W:View}{o:Own}(w:Mk s M vs W h o m){vb vl:Value}{lb:List BlkM}(bb:MkB M vs m o vb vl lb):Reads M m h vb vl:=by
 have c2:aj (vw h) ⟨M,2,QC⟩=QB (Qy Qz m.ps):=bb.cell w.own (i:=2) Q2;have c3:aj (vw h) ⟨M,3,QC⟩=QB vb:=bb.cell w.own (i:=3) Q2;refine⟨c2,bb.cell w.own (i:=4) Q2,c3,bb.cell w.own (i:=5) Q2,?_,?_,w.own.now bb.live⟩
 ·have hat:=w.own.gg bb.box;obtain⟨cs,⟨cur,e,fz,g1,g2,g3⟩,he,_⟩:=w.own.atW bb.box;have:fO (vw h) ⟨M,2,QC⟩ [Qy Qz m.ps,vb]:=⟨cur,e,fz,rfl,g2,by
   have g3:(cur.toList.drop 0).take cs.length=cs:=g3;have he:cs=mkL vs m.at_ m.ps vb m.next vl:=he;rw[Oy]at g3;have hd:cs.drop 2=(cur.toList.drop 2).take (cs.length-2):=by have:=congrArg (List.drop 2) g3;rw[Ot]at this;exact this.symm
   have hl:cs.length=6:=by rw[he];rfl
   have h2:(cs.drop 2).take 2=(cur.toList.drop 2).take 2:=by rw[hd,hl,Od];rfl
   show(cur.toList.drop 2).take 2=_;rw[<-h2,he];rfl⟩;have:=ir this 2 0 #[] rfl;simp only[Un.ev,vP,Nn];rw[this];simp
 refine qh (w.own.now bb.blk) rfl bb.len λi h1 h2 cs hr=>?_;have:=AB hr (p:=(nth m.blocks i).phis) (i:=(nth m.blocks i).ins) (by have:=w.own.now (bb.phis i h2);rwa [ao h1]at this) (by have:=w.own.now (bb.ins i h2);rwa [ao h1]at this);have ht:=bb.term i h2;rw[ao h1]at ht;rw[ht]at this;rw[<-ao h2];exact this
theorem Nz.reads(n:Nz s M vs W0 h o0 m u ds) : ∃vb vl,Reads M m h vb vl:=by obtain⟨W,o,g,w,f,sl⟩:=n;obtain⟨vb,vl,lb,bb⟩:=w.box;exact⟨vb,vl,w.reads bb⟩
theorem Nz.at{α:Type}[Rep α](n:Nz s M vs W0 h o0 m u ds){k:Key}(h3:3<=k.1){e:TypeId}{v:Value}{l:List α}(hk:o0 k=it e v l):SlRd (vw h) v l:=by obtain⟨W,o,g,w,f,sl⟩:=n;exact w.own.now ((f k h3).trans hk)
end
theorem BlkM.AG:Part BlkM (List Int) 4 (λd=>d.term.to) (λd x=>{ d with term:={ d.term with to:=x } }):=(Part.snd (Part.snd ((Part.snd (Part.snd (Part.fst Part.all))).via (α:=Cat Int (Cat (List Int) (Cat (List Int) I32))) (f:=λd:cK=>Cat.mk d.kind (Cat.mk d.args (Cat.mk d.to d.imm))) (g':=cK.to) (s':=λd x=>{ d with to:=x }) (λ_=>rfl) λ_ _=>rfl))).via (λ_=>rfl) λ_ _=>rfl
section
variable{s:List Int}{M:Nat}{vs:Value}{W0:View}{h:Heap}{o0:Own}{m:MS}{u:Value}{ds:List Int}
theorem Nz.H8{po:OP}{α:Type}[r:Rep α](n:Nz s M vs W0 h o0 m u ds){k:Key}{e:TypeId}{i:Nat}{v:Value}{l:List α}{ty t:TypeId}{us:List (Nat × Value)}{x y:Operand}{d:α}{w:Value}{K:Value->Heap->Prop}(h3:3<=k.1)(hk:o0 k=it e v l)(hi:i<l.length)(hsz:dp QH t=QB (Rep.n α))(hx:asg us x = QE (QB ((slA v).add (i*Rep.n α))))(hy:asg us y=w)(hr : ∀W,Rd W w d)(hK : ∀h',Nz s M vs W0 h' (o0.upd k (it e v (l.set i d))) m u ds->K undef h'):@Lft.step po QH (.store t x y) ty us h K:=by
 obtain⟨W,o,g1,wk,f,sl⟩:=n;refine wk.own.oT (k:=k) (v:=v) (l:=l) (i:=i) (d:=d) ((f k h3).trans hk) hsz hx hy hi (hr W) λh' w' _=>hK h' ?_;obtain⟨vb,vl,lb,bb⟩:=wk.box;refine⟨W,_,g1,⟨w',wk.src,vb,vl,lb,bb.frame λq hq=>Own.af (by rintro rfl;omega)⟩,λq hq=>?_,sl⟩;unfold Own.upd;split
 ·rfl
 exact f q hq
theorem Mk.Lu{po:OP}{W:View}{o:Own}(w:Mk s M vs W h o m){vb vl:Value}{lb:List BlkM}(bb:MkB M vs m o vb vl lb){b:Nat}{l:List Int}{v:Value}{ty ty2:TypeId}{us:List (Nat × Value)}{x y:Operand}{K:Value->Heap->Prop}(hb:b<m.blocks.length)(hsz:dp QH ty2=QB 1)(hx:asg us x = QE (QB (((slA vb).add (b*6)).add 4)))(hy:asg us y=v)(hr:SlRd W v l)(hK : ∀h' o',Mk s M vs W h' o' (m.gV b l)->(∀k:Key,3<=k.1->o' k=o k)->K undef h'):@Lft.step po QH (.store ty2 x y) ty us h K:=by
 have hbl:b<lb.length:=by rw[bb.len];exact hb
 refine w.own.n8 (k:=(0,2)) (α:=BlkM) BlkM.AG (v:=vb) (l:=lb) (i:=b) (d:=l) bb.blk hsz hx hy hbl (fG.2 hr) λh7 w7 _=>?_;have ht:=bb.term b hb;rw[ao hbl]at ht;refine hK h7 _ ⟨w7,w.src,vb,vl,_,bb.bj hb (x':={ nth m.blocks b with term:={ (nth m.blocks b).term with to:=l } }) (y':={ lb[b]with term:={ lb[b].term with to:=l } }) (by rw[<-ht]) Own.ah ?_ ?_ λq h1 _ _=>Own.af h1⟩ (nw Q2)
 ·rw[Own.af Sb,bb.phis b hb,ao hbl]
 rw[Own.af Sb,bb.ins b hb,ao hbl]
end
theorem sj{to:List (List Int)}{m:MS} : ∀k,(up (λb m=>MS.gV m b (nth to b)) k m).blocks.length=m.blocks.length
 | 0=>rfl
 | k+1=>by show(List.set _ _ _).length=_;rw[Nq];exact sj k
theorem IA{s:List Int}{M:Nat}{vs:Value}{W0:View}{h:Heap}{o0:Own}{m:MS}{to:List (List Int)}{vt vr:Value}{n:Nat}(hto:SlRd W0 vt to)(hn:to.length=n)(x:Nx s M vs W0 h o0 m)(hlen:m.blocks.length=n)(hn2:n<=100){Q:Post}{ρ:Env}(h0:bh [2,3,4,5,6] ρ=[(2,vr),(3,QT M),(4,Qy Qz n),(5,vt),(6,Qy Qz 0)])(hQ : ∀h',Nx s M vs W0 h' o0 (up (λb m=>m.gV b (nth to b)) n m)->Q .normal [(2,vr),(3,QT M),(4,Qy Qz n),(5,vt),(6,Qy Qz n)] h'):
  LC.wp QH (.block 0 (.loop L.az.l1)) Q ρ h:=by
 simp only[aL];refine dq [2,3,4,5,6] (fun(_:Unit) k=>[vr,QT M,Qy Qz n,vt,Qy Qz k]) (λ_ k h2=>Nx s M vs W0 h2 o0 (up (λb m=>m.gV b (nth to b)) k m)) n ()
  rfl Q1 h0 x (λ_ _=>rfl) (λv k h2 hk m=>by simp) ?_ ?_
 ·rintro _ b h2 hlt x2 K2 hK2;have hlb:(up (λb m=>MS.gV m b (nth to b)) b m).blocks.length=n:=(sj b).trans hlen;have e2:up (λb m=>MS.gV m b (nth to b)) (b+1) m=(up (λb m=>MS.gV m b (nth to b)) b m).gV b (nth to b):=rfl;rw[e2]at hK2;generalize up (λb m=>MS.gV m b (nth to b)) b m=m2 at x2 hK2 hlb;obtain⟨rv,hrv⟩:=hto.rows;obtain⟨hr1,hr2⟩:=hrv b Q1;obtain⟨W,o,g,w,f⟩:=x2;obtain⟨vb,vl,lb,bb⟩:=w.box;have rd:=w.reads bb;have ito:=(hto.mono g).mono w.own.wle;simp only[aL];refine bz (vw h2) Qw ?_;simp(disch:=omega)[rd.cb,rd.blk.idxn (N:=6) rfl,ito.idx1 rfl,hr1 _ (Qx g w.own.wle)];refine w.Lu bb (b:=b) (l:=nth to b) Q1 Q0 rfl rfl (hr2.mono g) λh3 o3 w3 f3=>?_;exact hK2 () _ _ rfl rfl ⟨W,o3,g,w3,λk hk=>(f3 k hk).trans (f k hk)⟩
 rintro _ h2 x2;exact hQ h2 x2
variable{H:View}
theorem sub_le{K L:View}(h:H.sub K)(k:K.le L):H.sub L:=λb o hb=>by obtain⟨o',h1,h2⟩:=h b o hb;exact⟨o',k _ _ h1,h2⟩
theorem Owns.CQ{W:View}{h:Heap}{o:Own}{k:Key}{n B:Nat}{e:TypeId}{l:List Value}(w:Owns W h o)(hk:o k=bx e B (RawN.mk (n:=n) l)): ∃cur,h[B]? = QB (.cells cur e (0,0))/\∃r,cur.toList=l++r:=by
 obtain⟨hb,xs,⟨hl,hown⟩,hel⟩:=w.get (k:=k) (v:=QD (QB ⟨B,0,QC⟩) 1 1) (l:=[RawN.mk (n:=n) l]) hk;have h0:=hel 0 Sb;simp only[OT,Oy,OK,M6,PM]at h0 hl;rw[Nd Q1]at h0;obtain⟨h0,_,_⟩:xs=l/\_:=h0;subst h0;rcases hown with⟨h1,_⟩ | ⟨g,cap,cur,h1,h2,h3,h4,h5,h6⟩
 ·cases h1
 simp only[Value.slice.injEq,MX,Addr.mk.injEq]at h1;obtain⟨⟨rfl,_⟩,_⟩:=h1;refine⟨cur,h2,cur.toList.drop (1*Rep.n (RawN n)),?_⟩;have h6:cur.toList.take (1*Rep.n (RawN n))=xs:=by simpa using h6
 rw[<-h6,Pj]
section
variable{s:List Int}{M:Nat}{vs:Value}{W:View}{h:Heap}{o:Own}{m:MS}{vb vl:Value}{lb:List BlkM}
theorem MkB.G9(w:Owns W h o)(bb:MkB M vs m o vb vl lb): ∃H:View,H.sub (vw h)/\aj H ⟨M,3,QC⟩=QB vb/\SlRd H vb lb/\
  ∀h2 o2,Owns W h2 o2->MkB M vs m.aH o2 vb vl lb->(∀X:View,X.le (vw h)->X M=QC->X.le (vw h2))->∃X:View,H.sub X/\W.le X/\X.le (vw h2)/\SlRd X vb lb/\∀i,i<m.blocks.length->Av X (nth lb i).phis.v:=by
 obtain⟨cur,hM,r,hr⟩:=Owns.CQ w bb.box;have aM:=w.av (0,0) _ bb.box;have aM:W M=none:=aM M rfl;have avb:=w.av (0,2) _ bb.blk;have hne : ∀b,vb.ownBlock=QB b->b≠M:=λb hb e=>by have:=w.dj (0,2) (0,0) _ _ b bb.blk bb.box hb (by rw[e];rfl);simp at this
 obtain⟨w6,s6⟩:=w.freeze bb.blk;have hYM:(W.plus vb h) M=none:=by unfold View.plus;rw[if_neg (λe=>hne M e rfl)];exact aM
 have hYle:(W.plus vb h).le (vw h):=w6.wle;let P:Obj:=.cells #[vs,Qy Qz m.at_,Qy Qz m.ps,vb] T.aT (0,0);have hpre : ∀{c:Array Value} {r:List Value} {nx:Int},c.toList=mkL vs m.at_ m.ps vb nx vl++r->(Obj.cells c T.aT (0,0)=P\/∃c1 c2 t fz,P = .cells c1 t fz/\Obj.cells c T.aT (0,0) = .cells c2 t fz/\∃r:List Value,c2.toList=c1.toList++r):=fun{c r nx} hc=>.inr ⟨_,c,_,_,rfl,rfl,[Qy Qz nx,vl]++r,by rw[hc];rfl⟩;refine⟨λb=>if b=M then QB P else(W.plus vb h) b,λb x hb=>?_,?_,?_,λh2 o2 w2 b2 keep=>?_⟩
 ·dsimp only at hb;split at hb
  ·rename_i e;cases hb;subst e;exact⟨_,hM,hpre hr⟩
  exact⟨x,hYle b x hb,.inl rfl⟩
 ·simp[aj,P]
 ·refine s6.mono λb x hb=>?_;show(if b=M then QB P else(W.plus vb h) b)=_;rw[if_neg]
  ·exact hb
  rintro rfl;rw[hYM]at hb;cases hb
 obtain⟨cur2,hM2,r2,hr2⟩:=Owns.CQ w2 b2.box;have hY2:=keep _ hYle hYM;refine⟨λb=>if b=M then h2[M]? else(W.plus vb h) b,λb x hb=>?_,λb x hb=>?_,λb x hb=>?_,s6.mono λb x hb=>?_,λi hi b hb=>?_⟩
 ·dsimp only at hb;split at hb
  ·rename_i e;cases hb;subst e;exact⟨_,by simp[hM2],hpre hr2⟩
  rename_i e;exact⟨x,by simpa[e]using hb,.inl rfl⟩
 ·have e:b≠M:=by rintro rfl;rw[aM]at hb;cases hb
  show(if b=M then h2[M]? else(W.plus vb h) b)=_;rw[if_neg e];exact kS avb b x hb
 ·dsimp only at hb;split at hb
  ·rename_i e;subst e;exact hb
  exact hY2 b x hb
 ·have e:b≠M:=by rintro rfl;rw[hYM]at hb;cases hb
  show(if b=M then h2[M]? else(W.plus vb h) b)=_;rw[if_neg e];exact hb
 have e:b≠M:=λe=>by have:=w.dj (1,i) (0,0) _ _ b (bb.phis i hi) bb.box hb (by rw[e];rfl);simp at this
 show(if b=M then h2[M]? else(W.plus vb h) b)=_;rw[if_neg e];exact w6.av (1,i) _ ((Own.af Sb).trans (bb.phis i hi)) b hb
theorem Mk.Kk(w:Mk s M vs W h o m)(bb:MkB M vs m o vb vl lb)(h0:0<=m.next)(h1:m.next<=1000000000):
  aw QH N.bL #[QT M] h (λu h'=>u = Qy Qz m.next/\∃o',Mk s M vs W h' o' m.aH/\MkB M vs m.aH o' vb vl lb/\(∀k:Key,3<=k.1->o' k=o k)/\∀X:View,X.le (vw h)->X M=QC->X.le (vw h')):=by refine(Bz w.own bb.box h0 h1).mono ?_;rintro u h' ⟨rfl,w2,keep⟩;exact⟨rfl,_,⟨w2,w.src,vb,vl,lb,bb.at⟩,bb.at,nw Q2,keep⟩
end
def runO(oo:Own)(B:Nat)(vm:Value)(e v:Int)(mv cb:Value)(st:Int)(av:Value)(lim:Int)(mem:List I32)(cv:Value)(calls:List eI):Own:=λk=>if k=(0,0) then bx T.ja B (runL vm e v mv cb st av lim) else if k=(0,1) then it T.int32 mv mem else if k=(0,2) then it T.kK cv calls else oo k
section
variable{oo:Own}{B:Nat}{vm mv cb cv av:Value}{e v st lim:Int}{mem:List I32}{calls:List eI}
theorem eR:runO oo B vm e v mv cb st av lim mem cv calls (0,0)=bx T.ja B (runL vm e v mv cb st av lim):=rfl
theorem Cy:runO oo B vm e v mv cb st av lim mem cv calls (0,1)=it T.int32 mv mem:=rfl
theorem GQ:runO oo B vm e v mv cb st av lim mem cv calls (0,2)=it T.kK cv calls:=rfl
theorem nJ{e2 v2 st2:Int}{cb2 av2:Value}:(runO oo B vm e v mv cb st av lim mem cv calls).upd (0,0) (bx T.ja B (runL vm e2 v2 mv cb2 st2 av2 lim))=runO oo B vm e2 v2 mv cb2 st2 av2 lim mem cv calls:=by funext k;unfold Own.upd runO;split<;>rfl
theorem I1{mem2:List I32}:(runO oo B vm e v mv cb st av lim mem cv calls).upd (0,1) (it T.int32 mv mem2)=runO oo B vm e v mv cb st av lim mem2 cv calls:=by
 funext k;unfold Own.upd runO;by_cases c:k=(0,1)
 ·subst c;rfl
 simp only[if_neg c]
theorem Iw{cv2:Value}{calls2:List eI}:(runO oo B vm e v mv cb st av lim mem cv calls).upd (0,2) (it T.kK cv2 calls2)=runO oo B vm e v mv cb st av lim mem cv2 calls2:=by
 funext k;unfold Own.upd runO;by_cases c:k=(0,2)
 ·subst c;rfl
 simp only[if_neg c]
end
structure Rn(Bv W:View)(h:Heap)(oo:Own)(B r:Nat)(lim:Int)(s:RunS):Prop where
 ex : ∃mv cv av g,Owns W h (runO oo B (.map (QB r)) s.e s.v mv cv s.st av lim s.mem cv s.calls)/\MV (.int .i64) W r (mapE encI g)/\s.vals=de g/\R32 g/\SlRd W av s.ans
 base:Bv.le W
 out:Bv r=QC
def OkI(x:InsD):Prop:=(x.op=15->1<=x.args.length)/\(x.op≠1->x.op≠15->x.op≠17->2<=x.args.length)
theorem iy{g:IMap}{j n:Int}:de (putM g j n)=setV (de g) j n:=by funext q;unfold de putM setV;split<;>rfl
theorem Dz{g:IMap}{j n:Int}(h:R32 g)(hn:-2147483648<=n/\n<=2147483647):R32 (putM g j n):=λq=>by
 rw[iy];unfold setV;split
 ·exact hn
 exact h q
theorem At.rngW{a:Addr}{d:I32}(h:At H a d):-2147483648<=d.v/\d.v<=2147483647:=by obtain⟨u,h1,h2⟩:=h.load rfl;exact(oL.1 h2).2
theorem xB{Y:View}{h h':Heap}:(grow nothing h h').le (grow Y h h'):=λb x hb=>by
 unfold grow at hb ⊢;split at hb
 ·cases hb
 rename_i c;rw[if_neg c];exact hb
theorem xa{d:TypeDesc}{W W':View}{r:Nat}{f:Value->Option Value}(m:MV d W r f)(t:Tn [r] W W'):W.dO.le W':=λb x hb=>by
 have h1:=View.rZ _ _ hb;by_cases c:b=r
 ·subst c;obtain⟨es,k,e⟩:=m.Lb;unfold View.dO at hb;rw[e]at hb;cases hb
 exact t b (by simpa using c) x h1
section
variable{po:OP}{Bv W:View}{h:Heap}{oo:Own}{B r:Nat}{lim e v st:Int}{s:RunS}{g:IMap}{mv cb cv av:Value}{mem ans:List I32}{calls:List eI}
theorem mS{op:Op}{ty:TypeId}{us:List (Nat × Value)}{x y q:Operand}{K:Value->Heap->Prop}{j n:Int}(w:Owns W h (runO oo B (.map (QB r)) e v mv cb st av lim mem cv calls))(m:MV (.int .i64) W r (mapE encI g))(hg:R32 g)(ha:SlRd W av ans)(hb:Bv.le W)(hr:Bv r=QC)(hn:-2147483648<=n/\n<=2147483647)(hop:op = .mapUpdate T.oK x y q\/op = .insert T.oK x y q)(hx:asg us x = .map (QB r))(hy:asg us y = Qy Qz j)(hq:asg us q = Qy QA n)(hK : ∀h' W',Owns W' h' (runO oo B (.map (QB r)) e v mv cb st av lim mem cv calls)->MV (.int .i64) W' r (mapE encI (putM g j n))->R32 (putM g j n)->SlRd W' av ans->Bv.le W'->W.dO.le W'->(∀X:View,X.le (vw h)->X r=QC->X.le (vw h'))->(∀b,b≠r->W' b=W b)->K undef h'):@Lft.step po QH op ty us h K:=by
 obtain⟨g1,g2⟩:=mH (enc:=encI) (f:=g) (j:=j) (v:=n);refine nD hop (k:=T.int) (e:=T.int32) (d:=.int .i64) Q0 Q0 hx hy hq gu (m.is w.wle) _ g1 g2 λh4 hs ho hm=>?_;obtain⟨es,c,e1⟩:=m.Lb;obtain⟨es2,c2,e2,e3⟩:=hm.ex;have w4:=w.turn e1 (λ_ _ _=>Obj.noConfusion) e2 hs ho;have t4:Tn [r] W (View.set W r (.map es2 c2)):=λb hbb y hy=>by unfold View.set;rw[if_neg (by simpa using hbb)];exact hy
 refine hK h4 _ w4 ⟨es2,c2,by unfold View.set;rw[if_pos rfl],e3⟩ (Dz hg hn) (fG.1 ((fG.2 ha).dO.mono (xa m t4))) (t4.le hb λb hbb=>by rw[MZ.1 hbb];exact hr) (xa m t4) (λX hX hn b y hb=>?_) λb hb=>?_
 ·have hne:b≠r:=by rintro rfl;rw[hn]at hb;cases hb
  exact(ho b hne).trans (hX b y hb)
 unfold View.set;rw[if_neg hb]
theorem Ja{v x:Value}{B i:Nat}(hc:aj (vw h) ⟨B,i,QC⟩=QB x)(hn:v.ownBlock≠QB B):aj (but v h) ⟨B,i,QC⟩=QB x:=by
 have e:but v h B=(vw h) B:=by unfold but;rw[if_neg hn];rfl
 unfold aj at *;simp only at *;rw[e];exact hc
def gU(r:Nat)(h:Heap):View:=λb=>if b=r then QC else h[b]?
theorem JC(m:MV (.int .i64) W r (mapE encI g))(w:Owns W h (runO oo B (.map (QB r)) e v mv cb st av lim mem cv calls)):
  (gU r h).le (vw h)/\gU r h r=QC/\W.dO.le (gU r h)/\∀{i:Nat} {u:Value},aj (vw h) ⟨B,i,QC⟩=QB u->aj (gU r h) ⟨B,i,QC⟩=QB u:=by
 obtain⟨es,c,hm⟩:=m.Lb;refine⟨λb x hb=>?_,by unfold gU;rw[if_pos rfl],λb x hb=>?_,fun{i u} hu=>?_⟩
 ·unfold gU at hb;split at hb
  ·cases hb
  exact hb
 ·have h1:=View.rZ _ _ hb;have hne:b≠r:=by rintro rfl;unfold View.dO at hb;rw[hm]at hb;cases hb
  unfold gU;rw[if_neg hne];exact w.wle b x h1
 have hne:B≠r:=by rintro rfl;have:=w.av (0,0) _ rfl B rfl;rw[hm]at this;cases this
 have e:gU r h B=vw h B:=by unfold gU;rw[if_neg hne];rfl
 unfold aj at hu ⊢;simp only at hu ⊢;rw[e];exact hu
def qG(W:View)(B:Nat)(u:Value):View:=λb=>if b=B then QB (.cells #[u] T.ja (0,0)) else W b
theorem xr{u y:Value}{a:Addr}(hn:W B=QC)(hc:aj W a=QB y):aj (qG W B u) a=QB y:=by
 have hne:a.block≠B:=λq=>by unfold aj at hc;rw[q,hn]at hc;cases hc
 unfold aj at hc ⊢;unfold qG;rw[if_neg hne];exact hc
theorem Er(w:Owns W h (runO oo B (.map (QB r)) e v mv cb st av lim mem cv calls)):(qG W B (.map (QB r))).sub (vw h):=λb x hb=>by
 unfold qG at hb;split at hb
 ·rename_i q;cases hb;subst q;obtain⟨cur,hM,rr,hr⟩:=Owns.CQ w eR;exact⟨_,hM,.inr ⟨_,cur,_,_,rfl,rfl,_,by rw[hr];rfl⟩⟩
 exact⟨x,w.wle b x hb,.inl rfl⟩
theorem DI{S:Nat}{n:Int}{ok:Bool}(cS:aj (vw h) ⟨S,0,QC⟩=QB (QT B))(w:Owns W h (runO oo B (.map (QB r)) e v mv cb st av lim mem cv calls)):
  aw QH N.dv #[Qy QA n,.bool ok,QT S] h (λu h'=>u = Qy QA n/\Owns W h' (runO oo B (.map (QB r)) (if ok then e else 2) (if ok then v else -2) mv cb st av lim mem cv calls)):=by
 refine ak (args:=[Qy QA n,.bool ok,QT S]) follows F.dv E.dv Q9 λK hK=>?_;dsimp only[L.dv];refine ab λz hz=>?_;simp;subst hz;refine ab λz hz=>?_;cases ok with
 | true=>simp;subst hz;simp;exact hK _ _ ⟨rfl,w⟩
 | false=>simp[cS];refine ag Q0 (ta w eR) ?_;rintro _ h1 w1;rw[nJ]at w1;subst hz;simp;exact hK _ _ ⟨rfl,w1⟩
theorem zF{α:Type}[Rep α]{v:Value}{l:List α}(h:SlRd H v l):v.oneCell'=true:=by obtain⟨a,c,rfl,_⟩:=h;rfl
theorem sO{α:Type}[Rep α]{v:Value}{l:List α}(h:SlRd H v l):SlRd H.dO v l:=fG.1 (fG.2 h).dO
theorem mq{a:Addr}{v:Value}(h:aj H a=QB v):aj H.dO a=QB v:=by
 unfold aj at h ⊢;cases e:H a.block with
 | none=>rw[e]at h;cases h
 | some o=>rw[e]at h;cases o<;>first | (rw[View.uM e];exact h) | cases h
theorem Io{op a b:Int}(ha:-2147483648<=a/\a<=2147483647)(hb:-2147483648<=b/\b<=2147483647):-2147483648<=wdoS op a b/\wdoS op a b<=2147483647:=by
 unfold wdoS;split
 ·unfold jM;split<;>first | exact js | exact bit_rng | (split<;>decide) | skip
  generalize ((IntKind.u32.wrap b).tmod 32).toNat=n;have hp:(0:Int)<2 ^ n:=Int.pow_pos Q2;rw[Int.fdiv_eq_ediv_of_nonneg _ (Int.le_of_lt hp)];have h1:(1:Int)<=2 ^ n:=hp;constructor
  ·refine Int.le_ediv_of_mul_le hp ?_;have:=Int.mul_le_mul_of_nonneg_left h1 (show(0:Int)<=2147483648 by decide);omega
  by_cases h0:0<=a
  ·exact Qm (Int.ediv_le_self _ h0) ha.2
  have:=Int.ediv_neg_of_neg_of_pos (show a<0 by omega) hp;omega
 decide
theorem ml{l:List Int}{f:Int->Int}{i:Nat}(h:i<l.length):nth (l.map f) i=f (nth l i):=by rw[ao (by simpa using h),ao h,Oc]
theorem E2{v:Value}{l:List I32}{a:Int}(hm:SlRd H v l):-2147483648<=qJ l a/\qJ l a<=2147483647:=by
 unfold qJ;split
 ·rename_i c;unfold jt at c;simp at c;rw[ao Q1];exact At.rngW (hm.at Q1)
 decide
theorem lK{v:Value}{l:List Int}(h:SlRd H v (l.map λa=>(⟨de g a⟩:I32))){i:Nat}(hi:i<l.length):Bn.ev (.idx 1) v (Qy Qz (i:Int))=QB (QE (QB ((slA v).add i)))/\aj H ((slA v).add i)=QB (Qy QA (de g (nth l i))):=by
 have hl:i<(l.map λa=>(⟨de g a⟩:I32)).length:=by simpa using hi
 refine⟨by simpa using h.idx1 (k:=.i64) (i:=(i:Int)) rfl Q1 Q1,?_⟩;have:=(h.at hl).i32;rw[show i*Rep.n I32=i from NN _]at this;rw[this,Oc,ao hi]
set_option maxHeartbeats 4000000 in
theorem Ek{x:InsD}{vx:Value}(R:Rn Bv W h oo B r lim s)(hx:Rd Bv vx x)(hok:OkI x)(hal:x.args.length<=1000000)(hcl:s.calls.length<=1000000):
  aw QH N.dV #[QT B,vx] h (λ_ h'=>∃W',Rn Bv W' h' oo B r lim (insR s x)):=by
 obtain⟨⟨mv,cv,av,g,w,m,hv,hg,ha⟩,hb,hr⟩:=R;refine ak (args:=[QT B,vx]) follows F.dV E.dV Q9 λK hK=>?_;dsimp only[L.dV];refine ab λz hz=>?_;simp;refine w.qu (α:=Raw) (d:=⟨QT B⟩) rfl (rC.2 ⟨rfl,rfl⟩) λS2 h1 W1 hW1 w1 at2 hle1=>?_;refine w1.qu (α:=InsD) rfl (hx.mono (Qx hb hW1)) λS3 h2 W2 hW2 w2 at3 hle2=>?_;have m2:=(m.mono hW1).mono hW2;have ha2:=ha.mono (Qx hW1 hW2);have c2:=(at2.mono hW2).raw;have hb2:=Qx hb (Qx hW1 hW2);obtain⟨k0,k1,k2,va,k3,sa⟩:=rX at3;have k4:=(at3.part InsD.AM).i32;have ri:=At.rngW (at3.part InsD.AM);simp at k4 c2;clear hW1 hW2 w1 w m ha hb at2 at3 hle1 hle2;subst hz;refine ab λz hz=>?_;simp[ae w2.wle c2,ae w2.wle k3];have x0:aj (vw h2) ⟨B,0,QC⟩=QB (.map (QB r)):=w2.raw (n:=7) eR (i:=0) Q2;refine ag Q0 (Au x0 (m2.is w2.wle) (sa.mono w2.wle) hal hg) ?_;rintro wv h3 mw;have hle3:=mw.old;have sw:=mw.result;clear mw;have w3:=w2.ext hle3;have l3:W2.le (grow W2 h2 h3):=bE w2.wle;have sw:=sw.mono (xB (Y:=W2));generalize grow W2 h2 h3=W3 at *;have m3:=m2.mono l3;have ha3:=ha2.mono l3;have hb3:=Qx hb2 l3;have c2:=ae l3 c2;have k0:=ae l3 k0;have k1:=ae l3 k1;have k2:=ae l3 k2;have k4:=ae l3 k4;clear l3 hb2 ha2 m2 w2 hle3 k3 sa x0;have x0:aj (vw h3) ⟨B,0,QC⟩=QB (.map (QB r)):=w3.raw (n:=7) eR (i:=0) Q2;have x3:aj (vw h3) ⟨B,3,QC⟩=QB mv:=w3.raw (n:=7) eR (i:=3) Q2;have c2h:=ae w3.wle c2;have k1h:=ae w3.wle k1;have k4h:=ae w3.wle k4;subst hz;refine ab λz hz=>?_;simp;subst hz;refine ab λz hz=>?_;simp[ae w3.wle k0];subst hz;by_cases c1:x.op=1
 ·have e:insR s x={ s with vals:=setV s.vals x.dst x.imm.v }:=by unfold insR;rw[if_pos c1]
  simp[c1];refine bz (vw h3) Qw ?_;simp[c2h,x0,k1h,k4h];refine mS w3 m3 hg ha3 hb3 hr ri (.inl rfl) rfl rfl rfl λh4 W4 w4 m4 hg4 ha4 hb4 _ _ _=>?_;exact hK _ _ ⟨W4,by rw[e];exact⟨⟨mv,cv,av,_,w4,m4,by rw[iy,hv],hg4,ha4⟩,hb4,hr⟩⟩
 have swh:=sw.mono w3.wle;have hm3:=w3.now (k:=(0,1)) Cy;by_cases c15:x.op=15
 ·have hA:=hok.1 c15;have e:insR s x={ s with vals:=setV s.vals x.dst (qJ s.mem (jy s x)),e:=if jt s.mem (jy s x) then s.e else 2,v:=if jt s.mem (jy s x) then s.v else -2 }:=by unfold insR;rw[if_neg c1,if_pos c15]
  have ea:jy s x=IntKind.i32.wrap (de g (nth x.args 0)+x.imm.v):=by unfold jy;rw[hv,ml Q1]
  have hr3:-2147483648<=jy s x/\jy s x<=2147483647:=by rw[ea];exact js
  obtain⟨q0,p0⟩:=lK swh (i:=0) Q1;simp at q0;obtain⟨sH,hc2,hx0,hk1⟩:(∀{h':Heap} {e v st:Int} {mv cb cv av:Value} {mem:List I32} {calls:List eI},Owns W3 h' (runO oo B (.map (QB r)) e v mv cb st av lim mem cv calls)->(qG W3 B (.map (QB r))).sub (vw h'))/\
    aj (qG W3 B (.map (QB r))) ⟨S2,0,QC⟩=QB (QT B)/\aj (qG W3 B (.map (QB r))) ⟨B,0,QC⟩=QB (.map (QB r))/\aj (qG W3 B (.map (QB r))) ⟨S3,1,QC⟩=QB (Qy Qz x.dst):=by have hn:W3 B=none:=w3.av (0,0) _ rfl B rfl;refine⟨λw=>Er w,xr hn c2,?_,xr hn k1⟩;simp[aj,qG]
  simp[c15,c2h,x3,k4h,q0,p0];refine yF (qG W3 B (.map (QB r))) (sH w3) ?_;simp[hc2,hx0,hk1];rw[<-ea];refine ag Q0 (C7 hm3 hr3) ?_;rintro _ h4 ⟨rfl,rfl⟩;refine⟨sH w3,?_⟩;simp;refine cJ (ops:=[.tmp 69,.tmp 70]) (caps:=#[QT S2]) rfl Q0 (DI (ae w3.wle c2) w3) ?_;rintro _ h5 ⟨rfl,w5⟩;refine⟨sH w5,?_⟩;refine mS w5 m3 hg ha3 hb3 hr (E2 hm3) (.inl rfl) rfl rfl rfl λh6 W6 w6 m6 hg6 ha6 hb6 _ _ _=>?_;exact hK _ _ ⟨W6,by rw[e];exact⟨⟨mv,cv,av,_,w6,m6,by rw[iy,hv],hg6,ha6⟩,hb6,hr⟩⟩
 have hA:=hok.2 c1 c15;have ea:jy s x=IntKind.i32.wrap (de g (nth x.args 0)+x.imm.v)\/x.op=17:=by
  by_cases c17:x.op=17
  ·exact .inr c17
  have:=hA c17;exact .inl (by unfold jy;rw[hv,ml Q1])
 by_cases c16:x.op=16
 ·have hA:=hA (by rw[c16];decide);have ea:=ea.resolve_right (by rw[c16];decide);have e:insR s x={ s with mem:=if jt s.mem (jy s x) then s.mem.set (jy s x).toNat ⟨nth (x.args.map s.vals) 1⟩ else s.mem,e:=if jt s.mem (jy s x) then s.e else 2,v:=if jt s.mem (jy s x) then s.v else -2 }:=by unfold insR;rw[if_neg c1,if_neg c15,if_pos c16]
  have hr3:-2147483648<=jy s x/\jy s x<=2147483647:=by rw[ea];exact js
  obtain⟨q0,p0⟩:=lK swh (i:=0) Q1;obtain⟨q1,p1⟩:=lK swh (i:=1) Q1;have n1:nth (x.args.map s.vals) 1=de g (nth x.args 1):=by rw[hv,ml Q1]
  simp at q0 q1;simp[c16];refine bz (vw h3) Qw ?_;simp[c2h,x0,x3,k1h,k4h,q0,p0,q1,p1];rw[<-ea];refine ag Q0 (Fv (x:=⟨de g (nth x.args 1)⟩) w3 Cy hr3 (hg _)) ?_;rintro _ h4 ⟨rfl,w4⟩;rw[I1]at w4;refine cJ (ops:=[.const (Qy QA 0),.tmp 89]) (caps:=#[QT S2]) rfl Q0 (DI (ae w4.wle c2) w4) ?_;rintro _ h5 ⟨rfl,w5⟩;exact hK _ _ ⟨W3,by rw[e,n1];exact⟨⟨mv,cv,av,_,w5,m3,hv,hg,ha3⟩,hb3,hr⟩⟩
 by_cases c17:x.op=17
 ·have e:insR s x={ s with calls:=s.calls++[⟨x.imm,x.args.map λa=>⟨s.vals a⟩⟩],vals:=setV s.vals x.dst (match s.ans with | []=>0 | a::_=>a.v),ans:=s.ans.drop 1 }:=by unfold insR;rw[if_neg c1,if_neg c15,if_neg c16,if_pos c17];cases s.ans<;>rfl
  have x4:aj (vw h3) ⟨B,4,QC⟩=QB cv:=w3.raw (n:=7) eR (i:=4) Q2;have hne:cv.ownBlock≠QB B:=λq=>by have:=w3.dj (0,2) (0,0) _ _ B rfl rfl q rfl;simp at this
  have hH:=Hd w3.wle (w3.av (0,2) _ rfl);have sw2:=sw;obtain⟨ua,uc,rfl,-,-,-⟩:=sw2;have rev:Rd W3 (.agg #[Qy QA x.imm.v,.slice ua (x.args.map λa=>(⟨de g a⟩:I32)).length uc]) (⟨x.imm,x.args.map λa=>⟨de g a⟩⟩:eI):=by unfold Rd;rw[if_pos (show Rep.agg eI=QF from rfl)];exact⟨_,rfl,[_],[_],rfl,⟨rfl,ri⟩,_,rfl,sw⟩
  simp[c17];refine bz (but cv h3) tI ?_;simp[ae hH c2,Ja x4 hne,ae hH k4];refine aQ (t:=T.kK) (z:=zz10) (places:=zpc) (vs:=[(0,Qy QA x.imm.v),(1,.slice ua x.args.length uc)]) (cs:=#[Qy QA x.imm.v,.slice ua x.args.length uc]) Q0 Q0 Sb Q0 ?_;refine⟨tI,?_⟩;rw[Nr]at rev;refine jz (α:=eI) (W:=W3) El.mP rfl rev λu4 h4 hsrc hle4 _=>⟨Qx tI hle4,?_⟩;have w4:=w3.ext' hle4;refine Lft.cR El.mP rfl rfl (w4.get (k:=(0,2)) (v:=cv) (l:=s.calls) rfl) hsrc (by simp only[M6];omega) (by simp only[M6];omega) λv5 h5 o5 mo5=>?_;have w5:=w4.kz (k:=(0,2)) rfl o5 mo5;rw[Iw]at w5;have mo5:lk h4 h5 cv v5:=mo5;refine⟨(mo5.view (Qx tI hle4) λb hbb=>by unfold but;rw[if_pos hbb]).1,?_⟩;refine w5.bG (k:=(0,0)) (n:=7) (i:=4) eR Q2 Q0 rfl rfl (w5.cells GQ).2 λh6 w6 _=>?_;have w6:Owns W3 h6 (runO oo B (.map (QB r)) s.e s.v mv v5 s.st av lim s.mem v5 (s.calls++[⟨x.imm,x.args.map λa=>⟨de g a⟩⟩])):=w6.congr λq=>(congrFun nJ q).symm;clear w4 w5 hsrc o5 mo5 hH x4 hne;have x06:aj (vw h6) ⟨B,0,QC⟩=QB (.map (QB r)):=w6.raw (n:=7) eR (i:=0) Q2;refine bz (vw h6) Qw ?_;simp[ae w6.wle c2,x06,ae w6.wle k1];refine mS w6 m3 hg ha3 hb3 hr ⟨Q2,Q2⟩ (.inl rfl) rfl rfl rfl λh7 W7 w7 m7 hg7 ha7 hb7 sol7 _ _=>?_;have c7:=ae sol7 (mq c2);have k17:=ae sol7 (mq k1);have x67:aj (vw h7) ⟨B,6,QC⟩=QB av:=w7.raw (n:=7) eR (i:=6) Q2;have x07:aj (vw h7) ⟨B,0,QC⟩=QB (.map (QB r)):=w7.raw (n:=7) eR (i:=0) Q2;simp[ae w7.wle c7,x67,ha7.len];cases hans:s.ans with
  | nil=>rw[hans]at ha7;simp;exact hK _ _ ⟨W7,by rw[e,hans];exact⟨⟨mv,v5,av,_,by simpa[hv]using w7,m7,by rw[iy];dsimp only;rw[hv],hg7,by simpa[hans]using ha7⟩,hb7,hr⟩⟩
  | cons a0 l0=>
   simp;have ha8:SlRd W7 av (a0::l0):=by rw[<-hans];exact ha7
   obtain⟨sS,sr,sW,sB⟩:=JC m7 w7;have kk:=fun{a:Addr} {u:Value} (c:aj W7 a=QB u)=>ae sW (mq c);have ha9:=(sO ha8).mono sW
   have ra:=At.rngW (ha8.at (i:=0) Sb);have q9:=ha9.idx1 (k:=.i64) (i:=0) rfl Q2 Sb;have p9:=(ha9.at (i:=0) Sb).i32;obtain⟨u6,d1,d2⟩:=ha8.drop (n:=1) Sb (kd:=.i64);have d1:Bn.ev (.lo 1) av (Qy Qz 1)=QB u6:=d1;simp at q9 p9 d2;refine bz (gU r h7) sS ?_;simp[kk c7,sB x07,sB x67,kk k17,q9,p9,d1];refine A3 (d:=.int .i64) (r:=r) (f:=mapE encI (putM g x.dst 0)) (u:=Qy Qz x.dst) (z:=Qy QA 0) (k:=T.int) (e:=T.int32) Q0 Q0 Q0 rfl rfl gu (m7.is w7.wle) λh8 v8 st8 hs8 ho8 en8=>?_;have l8:(gU r h7).le (vw h8):=λb y hb=>by
    have hne:b≠r:=by rintro rfl;rw[sr]at hb;cases hb
    exact(ho8 b hne).trans (sS b y hb)
   refine⟨l8,?_⟩;simp;obtain⟨g1,g2⟩:=mH (enc:=encI) (f:=putM g x.dst 0) (j:=x.dst) (v:=a0.v);refine xC (v:=encI a0.v) rfl rfl rfl en8 g1 g2 λh9 hs9 ho9 m9=>?_;refine⟨λb y hb=>by
    have hne:b≠r:=by rintro rfl;rw[sr]at hb;cases hb
    exact(ho9 b hne).trans (l8 b y hb),?_⟩;obtain⟨W9,w9,m9,t9⟩:=w7.Kt m7 (hs9.trans hs8) (λq hq=>(ho9 q hq).trans (ho8 q hq)) m9;have so9:=xa m7 t9;refine w9.bG (k:=(0,0)) (n:=7) (i:=6) eR Q2 Q0 rfl rfl (zF d2) λh10 w10 _=>?_;have w10:Owns W9 h10 (runO oo B (.map (QB r)) s.e s.v mv v5 s.st u6 lim s.mem v5 (s.calls++[⟨x.imm,x.args.map λa=>⟨de g a⟩⟩])):=w10.congr λq=>(congrFun nJ q).symm;have hvv:setV s.vals x.dst a0.v=de (putM (putM g x.dst 0) x.dst a0.v):=by rw[iy,iy,hv];funext q;unfold setV;split<;>rfl
   exact hK _ _ ⟨W9,by rw[e,hans];exact⟨⟨mv,v5,u6,_,by simpa[hv]using w10,m9,hvv,Dz hg7 ra,by simpa using(sO d2).mono so9⟩,t9.le hb7 λb hbb=>by rw[MZ.1 hbb];exact hr,hr⟩⟩
 by_cases c18:x.op=18
 ·have hA:=hA c17;have e:insR s x={ s with vals:=setV (setV s.vals x.dst (IntKind.i32.wrap (wW (nth (x.args.map s.vals) 0) (nth (x.args.map s.vals) 1)))) x.two (IntKind.i32.wrap ((wW (nth (x.args.map s.vals) 0) (nth (x.args.map s.vals) 1)).fdiv (2 ^ 32))) }:=by unfold insR;rw[if_neg c1,if_neg c15,if_neg c16,if_neg c17,if_pos c18]
  obtain⟨q0,p0⟩:=lK swh (i:=0) Q1;obtain⟨q1,p1⟩:=lK swh (i:=1) Q1;have n0:nth (x.args.map s.vals) 0=de g (nth x.args 0):=by rw[hv,ml Q1]
  have n1:nth (x.args.map s.vals) 1=de g (nth x.args 1):=by rw[hv,ml Q1]
  simp at q0 q1;simp[c18];obtain⟨sS,sr,sW,sB⟩:=JC m3 w3;have kk:=fun{a:Addr} {u:Value} (c:aj W3 a=QB u)=>ae sW (mq c);have qq:=lK ((sO sw).mono sW) (i:=0) Q1
  have qq1:=lK ((sO sw).mono sW) (i:=1) Q1;simp at qq qq1;refine bz (gU r h3) sS ?_;simp[kk c2,sB x0,kk k0,kk k1,kk k2,qq,qq1];refine ag Q0 Az ?_;rintro _ h4 ⟨rfl,rfl⟩;refine⟨sS,?_⟩;simp;refine mS w3 m3 hg ha3 hb3 hr js (.inl rfl) rfl rfl rfl λh5 W5 w5 m5 hg5 ha5 hb5 _ keep _=>⟨keep _ sS sr,?_⟩;refine mS w5 m5 hg5 ha5 hb5 hr js (.inl rfl) rfl rfl rfl λh6 W6 w6 m6 hg6 ha6 hb6 _ _ _=>?_;exact hK _ _ ⟨W6,by rw[e,n0,n1];exact⟨⟨mv,cv,av,_,w6,m6,by rw[iy,iy];dsimp only;rw[hv];rfl,hg6,ha6⟩,hb6,hr⟩⟩
 have hA:=hA c17;have e:insR s x={ s with vals:=setV s.vals x.dst (wdoS x.op (nth (x.args.map s.vals) 0) (nth (x.args.map s.vals) 1)),e:=if doOk x.op (nth (x.args.map s.vals) 1) then s.e else 2,v:=if doOk x.op (nth (x.args.map s.vals) 1) then s.v else -1 }:=by unfold insR;rw[if_neg c1,if_neg c15,if_neg c16,if_neg c17,if_neg c18]
 obtain⟨q0,p0⟩:=lK swh (i:=0) Q1;obtain⟨q1,p1⟩:=lK swh (i:=1) Q1;have n0:nth (x.args.map s.vals) 0=de g (nth x.args 0):=by rw[hv,ml Q1]
 have n1:nth (x.args.map s.vals) 1=de g (nth x.args 1):=by rw[hv,ml Q1]
 simp at q0 q1;simp[c1,c15,c16,c17,c18];refine bz (vw h3) Qw ?_;simp[ae w3.wle k0,q0,p0,q1,p1];refine ag Q0 Fk ?_;rintro _ h4 ⟨rfl,hle4⟩;have w4:=w3.ext' hle4;have x0:=ae hle4 x0;simp;refine bz (vw h4) Qw ?_;simp[ae w4.wle c2,x0,ae w4.wle k1];refine mS w4 m3 hg ha3 hb3 hr (Io (hg _) (hg _)) (.inl rfl) rfl rfl rfl λh5 W5 w5 m5 hg5 ha5 hb5 sol _ _=>?_;have c5:=ae (Qx sol w5.wle) (mq c2);cases hd:doOk x.op (de g (nth x.args 1))with
 | true=>simp;exact hK _ _ ⟨W5,by rw[e,n0,n1,hd];exact⟨⟨mv,cv,av,_,w5,m5,by rw[iy,hv],hg5,ha5⟩,hb5,hr⟩⟩
 | false=>simp[c5];refine ag Q0 (ta w5 eR) ?_;rintro _ h6 w6;rw[nJ]at w6;exact hK _ _ ⟨W5,by rw[e,n0,n1,hd];exact⟨⟨mv,cv,av,_,w6,m5,by rw[iy,hv],hg5,ha5⟩,hb5,hr⟩⟩
end
section
variable{Bv W:View}{h:Heap}{oo:Own}{B r:Nat}{lim:Int}{s:RunS}
theorem FW{l:List Int}{g:IMap}:(nth ((l.map λa=>(⟨de g a⟩:I32))++[(⟨0⟩:I32)]) 0).v=nth (l.map (de g)) 0:=by cases l<;>rfl
set_option maxHeartbeats 4000000 in
theorem Cp{t:cK}{vt:Value}(R:Rn Bv W h oo B r lim s)(hx:Rd Bv vt t)(hok:iT t=QF)(hal:t.args.length<=1000000)(htl:t.to.length<=1000000):
  aw QH N.dG #[QT B,vt] h (λu h'=>u = Qy Qz (toR s t)/\∃W',Rn Bv W' h' oo B r lim (eu s t)):=by
 obtain⟨⟨mv,cv,av,g,w,m,hv,hg,ha⟩,hb,hr⟩:=R;refine ak (args:=[QT B,vt]) follows F.dG E.dG Q9 λK hK=>?_;dsimp only[L.dG];refine ab λz hz=>?_;simp;refine w.qu (α:=cK) rfl (hx.mono hb) λS3 h2 W2 hW2 w2 at3 hle2=>?_;have m2:=m.mono hW2;have ha2:=ha.mono hW2;have hb2:=Qx hb hW2;have k0:=(at3.part cK.BX).int;obtain⟨va,ka,sa⟩:=(at3.part cK.mV).sl;obtain⟨vt2,kt,st⟩:=(at3.part cK.AG).sl;have k3:=(at3.part cK.AM).i32;simp at k0 ka kt k3;subst hz;refine ab λz hz=>?_;simp[ae w2.wle ka];have x0:aj (vw h2) ⟨B,0,QC⟩=QB (.map (QB r)):=w2.raw (n:=7) eR (i:=0) Q2;refine ag Q0 (Au x0 (m2.is w2.wle) (sa.mono w2.wle) hal hg) ?_;rintro wv h3 mw;refine jz (α:=I32) (W:=nothing) (d:=⟨0⟩) (u:=Qy QA 0) El.gz rfl (oL.2 ⟨rfl,by decide,by decide⟩) λu4 h4 hsrc hle4 _=>?_;have mw4:=mw.ext' hle4;refine Lft.cR El.gz rfl rfl mw4.own hsrc (by simp only[Nr,M6];omega) (by simp only[Nr,M6];omega) λv5 h5 o5 mo5=>?_;have mw5:=mw4.kz o5 mo5;have w5:=w2.ext' mw5.old;have sw:=mw5.now;have l0:0<((t.args.map λa=>(⟨de g a⟩:I32))++[(⟨0⟩:I32)]).length:=by simp
 have q0:=sw.idx1 (k:=.i64) (i:=0) rfl Q2 Sb;have p0:=(sw.at l0).i32;rw[show 0*Rep.n I32=0 from rfl,<-ao l0,FW]at p0;have hw0:nth (t.args.map (de g)) 0=nth (t.args.map s.vals) 0:=by rw[hv]
 rw[hw0]at p0;simp at q0;generalize hn:nth (t.args.map s.vals) 0=n0 at *;clear mw4 mw5 o5 mo5 hsrc hle4 mw;subst hz;refine ab λz hz=>?_;have l5:=w5.wle;have k0h:=ae l5 k0;have kth:=ae l5 kt;have k3h:=ae l5 k3;have sth:=st.mono l5;have R0:Rn Bv W2 h5 oo B r lim s:=⟨⟨mv,cv,av,g,w5,m2,hv,hg,ha2⟩,hb2,hr⟩;have at_ : ∀i,i<t.to.length->Bn.ev (.idx 1) vt2 (Qy Qz (i:Int))=QB (QE (QB ((slA vt2).add i)))/\aj (vw h5) ((slA vt2).add i)=QB (Qy Qz (nth t.to i)):=λi hi=>⟨by simpa using sth.idx1 (k:=.i64) (i:=(i:Int)) rfl Q1 Q1,by simpa using sth.int Qw hi⟩;unfold iT at hok;by_cases c1:t.kind=1
 ·rw[if_pos c1]at hok;have h1:t.to.length=1:=by simp at hok;omega
  have et:toR s t=nth t.to 0:=by unfold toR;rw[if_pos c1]
  have er:eu s t=s:=by unfold eu;rw[if_neg Q1,if_neg Q1]
  obtain⟨q,p⟩:=at_ 0 Q1;simp at q p;simp[k0h,c1,kth,q,p];exact hK _ _ ⟨by rw[et],W2,by rw[er];exact R0⟩
 rw[if_neg c1]at hok;by_cases c2:t.kind=2
 ·rw[if_pos c2]at hok;have h1:t.to.length=2:=by simp at hok;omega
  have er:eu s t=s:=by unfold eu;rw[if_neg Q1,if_neg Q1]
  obtain⟨q,p⟩:=at_ 0 Q1;obtain⟨q1,p1⟩:=at_ 1 Q1;simp at q p q1 p1;by_cases e0:n0=0
  ·have et:toR s t=nth t.to 1:=by unfold toR;rw[if_neg c1,if_pos c2,hn,if_neg Q1]
   simp[k0h,c2,q0,p0,e0,kth,q1,p1];exact hK _ _ ⟨by rw[et],W2,by rw[er];exact R0⟩
  have et:toR s t=nth t.to 0:=by unfold toR;rw[if_neg c1,if_pos c2,hn,if_pos e0]
  simp[k0h,c2,q0,p0,e0,kth,q,p];exact hK _ _ ⟨by rw[et],W2,by rw[er];exact R0⟩
 rw[if_neg c2]at hok;by_cases c3:t.kind=3
 ·rw[if_pos c3]at hok;have h1:2<=t.to.length:=by simp at hok;omega
  have er:eu s t=s:=by unfold eu;rw[if_neg Q1,if_neg Q1]
  have wl:IntKind.i64.wrap ((t.to.length:Int)-1)=(t.to.length:Int)-1:=bu Q1 Q1;have wu:IntKind.u32.wrap ((t.to.length:Int)-1)=(t.to.length:Int)-1:=by rw[IntKind.wrap_u32];omega
  have w0:0<=IntKind.u32.wrap n0:=by rw[IntKind.wrap_u32];omega
  have et:toR s t=nth t.to (min (IntKind.u32.wrap n0) ((t.to.length:Int)-1)).toNat:=by unfold toR;rw[if_neg c1,if_neg c2,if_pos c3,hn]
  generalize hm:min (IntKind.u32.wrap n0) ((t.to.length:Int)-1)=mi at et;have hmi:0<=mi/\mi<t.to.length:=by omega
  have qi:=sth.idx1 (k:=.u32) (i:=mi) rfl hmi.1 hmi.2;have pi:=sth.int Qw (i:=mi.toNat) Q1;have em:(if(t.to.length:Int)-1<IntKind.u32.wrap n0 then(t.to.length:Int)-1 else IntKind.u32.wrap n0)=mi:=by rw[<-hm];split<;>omega
  simp[k0h,c3,kth,sth.len,wl,q0,p0,wu,em,qi,pi];exact hK _ _ ⟨by rw[et],W2,by rw[er];exact R0⟩
 rw[if_neg c3]at hok;by_cases c4:t.kind=4
 ·have et:toR s t=0:=by unfold toR;rw[if_neg c1,if_neg c2,if_neg c3]
  have er:eu s t={ s with e:=1,v:=n0 }:=by unfold eu;rw[if_pos c4,hn]
  simp[k0h,c4,q0,p0];refine ag Q0 (ta w5 eR) ?_;rintro _ h6 w6;rw[nJ]at w6;subst hz;simp;exact hK _ _ ⟨by rw[et],W2,by rw[er];exact⟨⟨mv,cv,av,g,w6,m2,hv,hg,ha2⟩,hb2,hr⟩⟩
 rw[if_neg c4]at hok;have c5:t.kind=5:=by
  by_cases c5:t.kind=5
  ·exact c5
  rw[if_neg c5]at hok;cases hok
 have et:toR s t=0:=by unfold toR;rw[if_neg c1,if_neg c2,if_neg c3]
 have er:eu s t={ s with e:=2,v:=t.imm.v }:=by unfold eu;rw[if_neg c4,if_pos c5]
 simp[k0h,c5,k3h];refine ag Q0 (ta w5 eR) ?_;rintro _ h6 w6;rw[nJ]at w6;subst hz;simp;exact hK _ _ ⟨by rw[et],W2,by rw[er];exact⟨⟨mv,cv,av,g,w6,m2,hv,hg,ha2⟩,hb2,hr⟩⟩
end
section
variable{h h':Heap}{Fb:Nat}{frm:Int}
theorem HD{x:InD}{v:Value}(hx:Rd (vw h) v x)(cF:aj (vw h) ⟨Fb,0,QC⟩=QB (Qy Qz frm)):
  aw QH N.bK #[v,QT Fb] h (λu h'=>u = .bool (decide (x.frm=frm))/\(vw h).le (vw h')):=by refine ak (args:=[v,QT Fb]) follows F.bK E.bK Q9 λK hK=>?_;dsimp only[L.bK];refine ab λz hz=>?_;simp;refine fH rfl hx λh1 e1 hle1 hs1 at1=>?_;have k0:=(at1.part InD.sn).int;simp at k0;subst hz;simp[k0,ae hle1 cF];exact hK _ _ ⟨rfl,hle1⟩
theorem BY{l:List InD}{v:Value}(hs:SlRd (vw h) v l)(cF:aj (vw h) ⟨Fb,0,QC⟩=QB (Qy Qz frm))(hex : ∃x∈l,x.frm=frm)(hl:l.length<=1000000):
  aw QH N.bF #[v,.func (.func N.bK) #[] #[QT Fb]] h (λu h'=>(vw h).le (vw h')/\∃k:Nat,u = Qy Qz k/\k<l.length/\(l.find? λx=>decide (x.frm=frm))=QB (nth l k)):=by
 refine ak (args:=[v,.func (.func N.bK) #[] #[QT Fb]]) follows F.bF E.bF Q9 λK hK=>?_;dsimp only[L.bF];have sll : ∀{K:View},Un.ev K .len v=QB (Qy Qz l.length):=hs.len;refine ab λz hz=>?_;simp;subst hz;refine ab λz hz=>?_;simp[sll];refine aJ [0,1,7,8] (fun(_:Unit) k=>[v,.func (.func N.bK) #[] #[QT Fb],Qy Qz l.length,Qy Qz k])
  (λ_ k hx=>(vw h).le (vw hx)/\∀j,j<k->(nth l j).frm≠frm) l.length ()
  rfl Q1 rfl ⟨View.le_refl _,λj hj=>by omega⟩ (λ_ _=>rfl) (λv i h1 hk m=>by simp) ?_ ?_
 ·rintro _ k hx hk ⟨lx,hno⟩ K2 hK2;have hk:k<l.length:=hk;have q:=(hs.mono lx).idxn (k:=.i64) (N:=2) rfl (i:=(k:Int)) Q1 Q1;obtain⟨ux,hux,rux⟩:=(hs.mono lx).wh rfl (N:=2) rfl hk;have hux:=hux _ Qw;simp at q;refine fE ?_;refine ab λy hy=>?_;simp;subst hy;refine ab λy hy=>?_;simp[q,hux];refine cJ (ops:=[.tmp 15]) (caps:=#[QT Fb]) rfl Q0 (HD rux (ae lx cF)) ?_;rintro _ h2 ⟨rfl,hle2⟩;have l2:=Qx lx hle2;by_cases c:(nth l k).frm=frm
  ·subst hy;simp[c];refine hK _ _ ⟨l2,k,rfl,hk,?_⟩;rw[List.find?_eq_some_iff_getElem];refine⟨by simpa using c,k,hk,(ao hk).symm,λj hj=>?_⟩;have:=hno j hj;rw[ao Q1]at this;simpa using this
  subst hy;simp[c];refine hK2 () _ _ rfl rfl ⟨l2,λj hj=>?_⟩;rcases Nat.lt_succ_iff_lt_or_eq.1 hj with hj | rfl
  ·exact hno j hj
  exact c
 rintro _ hx ⟨lx,hno⟩;obtain⟨x,hx2,he⟩:=hex;obtain⟨j,hj,rfl⟩:=Ni hx2;exact absurd (by rw[ao hj];exact he) (hno j hj)
theorem rP{W:View}{o:Own}(w:Owns W h o){r:Nat}(hle:(gU r h).le (vw h'))(hW:W r=QC)(hn : ∀k i,o k=QB i->i.v.ownBlock≠QB r):Owns W h' o:=by
 have keep : ∀b,b≠r->b<h.size->h'[b]? = h[b]?:=λb hb hlt=>by have e:h[b]? = QB h[b]:=Nt hlt;rw[e];exact hle b _ (by unfold gU;rw[if_neg hb];exact e)
 refine⟨λb x hb=>?_,λk i hk=>?_,w.av,w.dj⟩
 ·have hne:b≠r:=by rintro rfl;rw[hW]at hb;cases hb
  exact(keep b hne (View.lt w.wle hb)).trans (w.wle b x hb)
 exact @OwnT.same i.α i.rep _ _ _ _ _ _ (w.own k i hk) λb hb=>keep b (λe=>hn k i hk (by rw[<-e];exact hb)) (w.lt hk hb)
end
def oB(g:IMap)(frm:Int)(l:List PhiD):IMap:=l.foldl (λm p=>putM m p.dst (de g (jP p frm))) λ_=>QC
def over(g m:IMap):Int->Int:=λq=>match m q with | some x=>x | none=>de g q
theorem Gi{g m:IMap}{j n:Int}:over g (putM m j n)=setV (over g m) j n:=by
 funext q;unfold over putM setV;by_cases c:q=j
 ·simp[c]
 simp[c]
variable{frm:Int}
theorem DU{g:IMap}{l:List PhiD}:over g (oB g frm l)=phiR (de g) frm l:=by
 have key : ∀(l:List PhiD) (m:IMap) (k:Int->Int),over g m=k->over g (l.foldl (λm p=>putM m p.dst (de g (jP p frm))) m)=l.foldl (λh p=>setV h p.dst (de g (jP p frm))) k:=by
  intro l;induction l with
  | nil=>intro m k h;exact h
  | cons p l ih=>intro m k h;exact ih _ _ (by rw[Gi,h])
 exact key l _ _ rfl
theorem En{g:IMap}{l:List PhiD}{k:Nat}(h:k<l.length):oB g frm (l.take (k+1))=putM (oB g frm (l.take k)) (nth l k).dst (de g (jP (nth l k) frm)):=by unfold oB;rw[Np h,P9,ao h];rfl
theorem Gv{g:IMap}{l:List PhiD}(hg:R32 g){j x:Int}(h:oB g frm l j=QB x):-2147483648<=x/\x<=2147483647:=by
 have key : ∀(l:List PhiD) (m:IMap),(∀j x,m j=QB x->-2147483648<=x/\x<=2147483647)->∀j x,(l.foldl (λm p=>putM m p.dst (de g (jP p frm))) m) j=QB x->-2147483648<=x/\x<=2147483647:=by
  intro l;induction l with
  | nil=>intro m h;exact h
  | cons p l ih=>
   intro m h;refine ih _ λj x e=>?_;have e:putM m p.dst (de g (jP p frm)) j=QB x:=e;unfold putM at e;split at e
   ·cases e;exact hg _
   exact h j x e
 exact key l _ (λ_ _ e=>by cases e) j x h
section
variable{Bv W:View}{h:Heap}{oo:Own}{B r:Nat}{lim:Int}{s:RunS}
set_option maxHeartbeats 4000000 in
theorem Cf{l:List PhiD}{vl:Value}(R:Rn Bv W h oo B r lim s)(hx:SlRd Bv vl l)(hex : ∀p∈l,∃x∈p.ins,x.frm=frm)(hin : ∀p∈l,p.ins.length<=1000000)(hl:l.length<=1000000)(hfr:I64 frm):
  aw QH N.b0 #[QT B,vl,Qy Qz frm] h (λ_ h'=>∃W',Rn Bv W' h' oo B r lim (gT s frm l)):=by
 obtain⟨⟨mv,cv,av,g,w,m,hv,hg,ha⟩,hb,hr⟩:=R;refine ak (args:=[QT B,vl,Qy Qz frm]) follows F.b0 E.b0 Q9 λK hK=>?_;dsimp only[L.b0];refine ab λz hz=>?_;simp;refine fH (α:=Int) rfl (dJ.2 ⟨rfl,hfr⟩) λh1 e1 hle1 hs1 at1=>?_;have w1:=w.ext' hle1;have cF:=at1.int;generalize hFb:h.size=Fb at cF ⊢;subst hz;refine ab λz hz=>?_;simp;refine kE ?_;have w2:=w1.ext' (bA h1 (.map #[] 0));have mN:dI (.int .i64) (h1.push (.map #[] 0)) h1.size (mapE encI λ_=>QC):=by rw[pZ];exact dI.none Sb
 have hWn:W h1.size=none:=View.cT w1.wle (MY _);have hon : ∀k i,runO oo B (.map (QB r)) s.e s.v mv cv s.st av lim s.mem cv s.calls k=QB i->i.v.ownBlock≠QB h1.size:=λk i hk e=>by have:=w1.lt hk e;omega
 have cF2:aj (gU h1.size (h1.push (.map #[] 0))) ⟨Fb,0,QC⟩=QB (Qy Qz frm):=by
  have hne:Fb≠h1.size:=by omega
  have e:gU h1.size (h1.push (.map #[] 0)) Fb=vw h1 Fb:=by unfold gU;rw[if_neg hne];show(h1.push _)[Fb]? = h1[Fb]?;rw[OI,if_neg hne]
  unfold aj at cF ⊢;simp only at cF ⊢;rw[e];exact cF
 generalize h1.push (.map #[] 0)=h2 at w2 mN cF2 ⊢;generalize h1.size=rn at w2 mN hWn hon cF2 ⊢;clear w1 e1 hs1 at1 cF hle1 hFb;have sll : ∀{K:View},Un.ev K .len vl=QB (Qy Qz l.length):=hx.len;subst hz;refine ab λz hz=>?_;simp[sll];refine aJ [0,5,6,13,14,15] (fun(_:Unit) k=>[QT B,QT Fb,.map (QB rn),vl,Qy Qz l.length,Qy Qz k])
  (λ_ k hx=>(gU rn h2).le (vw hx)/\dI (.int .i64) hx rn (mapE encI (oB g frm (l.take k)))) l.length ()
  rfl Q1 rfl ⟨λb x hb=>(by unfold gU at hb;split at hb;cases hb;exact hb),mN⟩ (λ_ _=>rfl) (λv i h1 hk m=>by simp) ?_ ?_
 ·rintro _ k h3 hk ⟨l3,m3⟩ K2 hK2;have hk:k<l.length:=hk;have w3:=rP w2 l3 hWn hon;have sx:=hx.mono (Qx hb w3.wle);obtain⟨up,hup,rup⟩:=sx.wh rfl (N:=2) rfl hk;have hup:=hup _ Qw;have qp:=sx.idxn (k:=.i64) (N:=2) rfl (i:=(k:Int)) Q1 Q1;simp at qp;have hexk:=hex _ (bD hk);have hink:=hin _ (bD hk);refine fE ?_;refine ab λy hy=>?_;simp[qp,hup];refine eP (X:=vw h3) (α:=PhiD) (z:=zz4) Q0 rfl Q0 rup Q4 Q4 λh4 hle4 _ at4=>?_;have at4:=at4 (vw h4) hle4 rfl;generalize h3.size=Pb at at4 ⊢;obtain⟨pd,vpi,pin⟩:=y0 at4;subst hy;refine ab λy hy=>?_;simp[pin.1];refine ag Q0 (BY pin.2 (ae (Qx l3 hle4) cF2) hexk hink) ?_;rintro _ h5 ⟨hle5,j,rfl,hj,hf⟩;have l35:=Qx hle4 hle5;have w5:=w3.ext' l35;have x0:aj (vw h5) ⟨B,0,QC⟩=QB (.map (QB r)):=w5.raw (n:=7) eR (i:=0) Q2;have pin5:=pin.2.mono hle5;have qj:=pin5.idxn (k:=.i64) (N:=2) rfl (i:=(j:Int)) Q1 Q1;have pj:=((pin5.at hj).part InD.xJ).int;have n2:Rep.n InD=2:=rfl;simp[n2]at qj pj;have ev:jP (nth l k) frm=(nth (nth l k).ins j).val:=by unfold jP;rw[hf]
  rw[<-ao hj,<-ev]at pj;subst hy;refine bz (vw h5) Qw ?_;simp[x0,ae hle5 pd,ae hle5 pin.1,qj,pj];refine tK (f:=mapE encI g) (z:=Qy QA 0) (k:=T.int) (e:=T.int32) (d:=.int .i64) (r:=r) (u:=Qy Qz (jP (nth l k) frm)) Q0 Q0 Q0 rfl rfl gu (m.is w5.wle) ?_;rw[BD];refine⟨View.le_refl _,?_⟩;obtain⟨g1,g2⟩:=mH (enc:=encI) (f:=oB g frm (l.take k)) (j:=(nth l k).dst) (v:=de g (jP (nth l k) frm));refine nD (.inl rfl) (t:=T.oK) (k:=T.int) (e:=T.int32) (d:=.int .i64) (r:=rn) (u:=Qy Qz (nth l k).dst) (v:=encI (de g (jP (nth l k) frm))) Q0 Q0 rfl rfl rfl gu (m3.ext l35) _ g1 g2 λh6 hs6 ho6 m6=>?_;refine hK2 () _ _ rfl rfl ⟨λb x hbx=>?_,by rw[En hk];exact m6⟩;have hne:b≠rn:=by rintro rfl;unfold gU at hbx;rw[if_pos rfl]at hbx;cases hbx
  exact(ho6 b hne).trans (l35 b x (l3 b x hbx))
 rintro _ h3 ⟨l3,m3⟩;rw[NQ]at m3;have w3:=rP w2 l3 hWn hon;simp;subst hz;refine ab λz hz=>?_;simp;refine AI (f:=mapE encI (oB g frm l)) (d:=.int .i64) (k:=T.int) (e:=T.int32) Q0 rfl m3 λh4 left hle4 hs4 it4 nd4 key4 mem4=>?_;have w4:=w3.ext' hle4;have hWr:W h3.size=none:=View.cT w3.wle (MY _);have hor : ∀k i,runO oo B (.map (QB r)) s.e s.v mv cv s.st av lim s.mem cv s.calls k=QB i->i.v.ownBlock≠QB h3.size:=λk i hk e=>by have:=w3.lt hk e;omega
 have hrr:r≠h3.size/\r≠rn:=by obtain⟨es,c,e⟩:=m.Lb;exact⟨λq=>(by rw[q,hWr]at e;cases e),λq=>(by rw[q,hWn]at e;cases e)⟩
 have hall : ∀u v,(u,v)∈left->∃j x,u = Qy Qz j/\v=encI x/\oB g frm l j=QB x:=λu v hu=>by have hk:=key4 u v hu;have:=(mem4 u v hk).1 hu;cases u<;>simp[MapKept.IsKey]at hk;rename_i kd j;subst hk;rw[ly,M5]at this;obtain⟨x,e1,rfl⟩:=this;exact⟨j,x,rfl,rfl,e1⟩
 have hrest : ∀j,(∀v,(Qy Qz j,v)∉left)->de g j=over g (oB g frm l) j:=λj hj=>by
  unfold over;cases e:oB g frm l j with
  | none=>rfl
  | some x=>exact absurd ((mem4 _ (encI x) gu).2 (by rw[ly,e];rfl)) (hj _)
 generalize hN:oB g frm l=N at *;have hNr : ∀j x,N j=QB x->-2147483648<=x/\x<=2147483647:=λj x e=>by rw[<-hN]at e;exact Gv hg e
 generalize h3.size=ri at it4 hWr hor hrr ⊢;clear m3 l3 w3 nd4 key4 mem4 hs4 mN cF2;subst hz;simp only[aL];refine iA [0,39] (λmm ρ hx=>∃(left:List (Value × Value)) (Wx:View) (gx:IMap),mm=left.length/\ρ=[(0,QT B),(39,QT ri)]/\
   Owns Wx hx (runO oo B (.map (QB r)) s.e s.v mv cv s.st av lim s.mem cv s.calls)/\MV (.int .i64) Wx r (mapE encI gx)/\R32 gx/\SlRd Wx av s.ans/\Bv.le Wx/\Wx ri=QC/\It hx rn ri left/\
   (∀u v,(u,v)∈left->∃j x,u = Qy Qz j/\v=encI x/\N j=QB x)/\∀j,(∀v,(Qy Qz j,v)∉left)->de gx j=over g N j) left.length
  ⟨left,W,g,rfl,by simp[bh,ar,au],w4,m,hg,ha,hb,hWr,it4,hall,hrest⟩ ?_;clear hall hrest it4 hWr w4 hle4 w2;rintro mm ρ hx ⟨left,Wx,gx,rfl,rfl,wx,mx,hgx,hax,hbx,hWr,itx,hall,hrest⟩ K2 hK2;refine ab λy hy=>?_;simp;refine Cn rfl itx ?_ ?_
 ·rintro rfl;simp;subst hy;simp;refine hK _ _ ⟨Wx,⟨⟨mv,cv,av,gx,wx,mx,?_,hgx,hax⟩,hbx,hr⟩⟩;show phiR s.vals frm l=de gx;rw[hv,<-DU,hN];funext j;exact(hrest j (λv hv=>nomatch hv)).symm
 rintro a p q h5 el hs5 ho5 it5;have w5:=rP wx (r:=ri) (h':=h5) (λb x hb=>by
  have hne:b≠ri:=by rintro rfl;unfold gU at hb;rw[if_pos rfl]at hb;cases hb
  have hb:hx[b]? = QB x:=by unfold gU at hb;rwa [if_neg hne]at hb
  exact(ho5 b hne).trans hb) hWr hor;obtain⟨j,x,e1,e2,e3⟩:=hall p.1 p.2 (by rw[el];simp);have x0:aj (vw h5) ⟨B,0,QC⟩=QB (.map (QB r)):=w5.raw (n:=7) eR (i:=0) Q2;simp;subst hy;simp;refine HN rfl it5 ?_;simp[e1,e2,x0];refine mS w5 mx hgx hax hbx hr (hNr j x e3) (.inl rfl) rfl rfl rfl λh6 W6 w6 m6 hg6 ha6 hb6 sol6 keep eq6=>?_;have keep6 : ∀b,b≠r->b<h5.size->h6[b]? = h5[b]?:=λb hb hlt=>by have e:h5[b]? = QB h5[b]:=Nt hlt;rw[e];exact keep (gU r h5) (λb x hb=>by unfold gU at hb;split at hb;cases hb;exact hb) (by unfold gU;rw[if_pos rfl]) b _ (by unfold gU;rw[if_neg hb];exact e)
 have it6:=it5.it;have lt6:=it6.lt;refine hK2 (a++q).length _ _ (by rw[el];simp) ⟨a++q,W6,putM gx j x,rfl,by simp[bh,ar,au],w6,m6,hg6,ha6,hb6,by rw[eq6 _ hrr.1.symm];exact hWr,it6.same (keep6 _ hrr.2.symm lt6.1) (keep6 _ hrr.1.symm lt6.2.1),λu v hu=>hall u v (by rw[el];simp at hu ⊢;rcases hu with hu | hu;exact .inl hu;exact .inr (.inr hu)),λi hi=>?_⟩;rw[iy];unfold setV;by_cases c:i=j
 ·rw[if_pos c];subst c;unfold over;rw[e3]
 rw[if_neg c];refine hrest i λv hv=>?_;rw[el]at hv;simp only[M1,Nu]at hv;rcases hv with hv | hv | hv
 ·exact hi v (by simp[hv])
 ·have:=congrArg Prod.fst hv;rw[e1]at this;simp at this;exact c this
 exact hi v (by simp[hv])
end
theorem IB{A B:View}{u:Value}{l:List I32}(s:SrcT A B u l):SrcT A nothing u l:=by obtain⟨a,c,h1,h2,news,h3,h4,h5⟩:=s;exact⟨a,c,h1,h2,news,h3,h4,λi hi=>h5 i hi⟩
theorem D2{v:Value}{l:List I32}{h:Heap}(hv:SlRd (vw h) v l)(hb:l.length<=1000000):
  aw QH N.cM #[v] h (λu h'=>Mine nothing h h' nothing T.int32 u l):=by
 refine ak (args:=[v]) follows F.cM E.cM Q9 λK hK=>?_;dsimp only[L.cM];have hv0:=hv;obtain⟨a,cap,rfl,g1,g2,g3⟩:=hv0;refine ab λz hz=>?_;simp;subst hz;refine ab λz hz=>?_;refine ab λy hy=>?_;simp;refine xm U.gz rfl rfl ?_;subst hy;by_cases ha:a=QC
 ·subst ha;have hl:l=[]:=by
   rcases g3 with g3 | ⟨ad,g3,_⟩
   ·first | exact g3 | exact Nl (by simpa using g3)
   cases g3
  subst hl;simp;exact hK _ _ (Mine.start λ_ _ e=>nomatch e)
 have hi:a.isNone=false:=by cases a<;>simp at ha ⊢
 simp[hi];subst hz;refine ab λz hz=>?_;simp;refine sR (α:=I32) El.gz λh1 hle1 hs1 own1=>?_;have m1:=Mine.empty (V:=nothing) (W:=nothing) Qw hle1 (λ_ _ e=>nomatch e) (Old.refl _ _) own1;refine Lft.cR (α:=I32) (l:=[]) (l2:=l) El.gz rfl rfl m1.own (IB (hv.src hle1)) Q8 Q8 λv2 h2 own2 mv=>?_;have m2:=m1.kz own2 mv;subst hz;simp;exact hK _ _ m2
theorem cU.mV:Part cU (List I32) 0 cU.args (λd x=>{ d with args:=x }):=(Part.fst Part.all).via (λ_=>rfl) λ_ _=>rfl
theorem cU.AY:Part cU (List I32) 1 cU.mem (λd x=>{ d with mem:=x }):=(Part.snd (Part.fst Part.all)).via (λ_=>rfl) λ_ _=>rfl
theorem cU.LM:Part cU (List I32) 2 cU.ans (λd x=>{ d with ans:=x }):=(Part.snd (Part.snd (Part.fst Part.all))).via (λ_=>rfl) λ_ _=>rfl
theorem cU.sG:Part cU Int 3 cU.steps (λd x=>{ d with steps:=x }):=(Part.snd (Part.snd (Part.snd Part.all))).via (λ_=>rfl) λ_ _=>rfl
theorem Ep{i:cU}{v:Value}{h:Heap}(hv:Rd (vw h) v i)(hb:i.mem.length<=1000000):
  aw QH N.eB #[v] h (λu h'=>Mine nothing h h' nothing T.int32 u (i.mem.take 4096)):=by
 refine ak (args:=[v]) follows F.eB E.eB Q9 λK hK=>?_;dsimp only[L.eB];refine ab λz hz=>?_;simp;refine fH rfl hv λh1 e1 hle1 hs1 at1=>?_;obtain⟨vm,km,sm⟩:=(at1.part cU.AY).sl;simp at km;obtain⟨u,hu,su⟩:=sm.take (n:=min i.mem.length 4096) Q1 (kd:=.i64);have em:(if(4096:Int)<i.mem.length then(4096:Int) else i.mem.length)=((min i.mem.length 4096:Nat):Int):=by split<;>omega
 subst hz;refine ab λz hz=>?_;simp[km,sm.len,em,hu];have et:i.mem.take (min i.mem.length 4096)=i.mem.take 4096:=by rw[Nat.min_comm,<-List.take_take,NQ]
 rw[et]at su;refine ag Q0 (D2 su (by rw[Ny];omega)) ?_;rintro w h2 m2;subst hz;simp;refine hK _ _ ⟨Qx hle1 m2.old,m2.wle,m2.av,λb hbb=>?_,Old.refl _ _,m2.own⟩;have:=m2.av0 b hbb;cases e:vw h b with
 | none=>rfl
 | some x=>rw[hle1 b x e]at this;cases this
end Go.Lft
namespace Go.Lft
theorem At.ldK{α:Type}[Rep α]{H:View}{a:Addr}{d:α}(h:At H a d)(ha:Rep.agg α=QF){N:Nat}(hN:Rep.n α=N) : ∃u,(∀K:View,H.le K->Un.ev K (.ax N) (QE (QB a))=QB u)/\Rd H u d:=by subst hN;obtain⟨u,h1,h2⟩:=h.ax ha;refine⟨u,λK hk=>?_,h2⟩;have:=dF (ρ:=λ_=>QC) (e:=.un (.ax (Rep.n α)) (.con (QE (QB a)))) hk (v:=u) (by simpa using h1);simpa using this
section
variable{Bv W:View}{h h':Heap}{oo:Own}{B r:Nat}{lim:Int}{s:RunS}
theorem Rn.ext(R:Rn Bv W h oo B r lim s)(hle:(vw h).le (vw h')):Rn Bv (grow W h h') h' oo B r lim s:=by obtain⟨⟨mv,cv,av,g,w,m,hv,hg,ha⟩,hb,hr⟩:=R;have l:=bE (h':=h') w.wle;exact⟨⟨mv,cv,av,g,w.ext hle,m.mono l,hv,hg,ha.mono l⟩,Qx hb l,hr⟩
theorem Rn.wle(R:Rn Bv W h oo B r lim s):W.le (vw h):=by obtain⟨⟨mv,cv,av,g,w,m,hv,hg,ha⟩,hb,hr⟩:=R;exact w.wle
theorem Rn.rlt(R:Rn Bv W h oo B r lim s):r<h.size:=by obtain⟨⟨mv,cv,av,g,w,m,hv,hg,ha⟩,hb,hr⟩:=R;obtain⟨es,k,e⟩:=m.Lb;exact View.lt w.wle e
theorem Rn.on{B2:View}(R:Rn Bv W h oo B r lim s)(hb:B2.le W)(hr:B2 r=QC):Rn B2 W h oo B r lim s:=⟨R.ex,hb,hr⟩
def butV(r:Nat)(W:View):View:=λb=>if b=r then QC else W b
theorem yU{W:View}:(butV r W).le W:=λb x hb=>by
 unfold butV at hb;split at hb
 ·cases hb
 exact hb
theorem zw{W:View}:butV r W r=none:=by unfold butV;rw[if_pos rfl]
theorem zG{V W:View}(hl:V.le W)(hn:V r=QC):V.le (butV r W):=λb x hb=>by unfold butV;rw[if_neg (by rintro rfl;rw[hn]at hb;cases hb)];exact hl b x hb
theorem xo(R:Rn Bv W h oo B r lim s)(hst:0<=s.st/\s.st<=1000000) :
  aw QH N.dk #[QT B] h (λu h'=>u = .bool (decide ((bY lim s).e=0))/\Rn Bv W h' oo B r lim (bY lim s)):=by
 obtain⟨⟨mv,cv,av,g,w,m,hv,hg,ha⟩,hb,hr⟩:=R;refine(Gk w eR hst).mono ?_;rintro u h' ⟨rfl,w'⟩;rw[nJ]at w';have e:bY lim s={ s with e:=qV s.e s.st lim,v:=if s.e=0/\lim<=s.st then 0 else s.v,st:=if qV s.e s.st lim=0 then s.st+1 else s.st }:=by
  unfold bY qV;by_cases c:s.e=0
  ·by_cases d:lim<=s.st
   ·simp[c,d]
   simp[c,d]
  simp[c]
 rw[e];exact⟨rfl,⟨mv,cv,av,g,w',m,hv,hg,ha⟩,hb,hr⟩
theorem KE{x:InsD}(h:lr x=QG):OkI x:=by
 unfold lr at h;simp only[NV,decide_eq_false_iff_not,Bool.not_eq_false']at h;obtain⟨⟨h1,h2⟩,h3⟩:=h;unfold qd at h3;refine⟨λc=>?_,λc1 c15 c17=>?_⟩
 ·rw[if_neg Q1,if_pos c]at h3;simp at h3;omega
 rw[if_neg c1,if_neg c15,if_neg c17]at h3;simp at h3;omega
structure Rlm(lim:Int)(s:RunS):Prop where
 st0:0<=s.st
 st1:s.st<=lim
 cl:(s.calls.length:Int)<=s.st
theorem Rlm.step(q:Rlm lim s)(h:(bY lim s).e=0):0<=(bY lim s).st/\(bY lim s).st<=lim/\((bY lim s).calls.length:Int)+1<=(bY lim s).st:=by
 obtain⟨q1,q2,q3⟩:=q;unfold bY at h ⊢;by_cases c:s.e=0
 ·by_cases d:lim<=s.st
  ·rw[if_pos c,if_pos d]at h;cases h
  rw[if_pos c,if_neg d];exact⟨by show 0<=s.st+1;omega,by show s.st+1<=lim;omega,by show(s.calls.length:Int)+1<=s.st+1;omega⟩
 rw[if_neg c]at h;exact absurd h c
theorem xq{x:InsD}:(insR s x).st=s.st/\(insR s x).calls.length<=s.calls.length+1:=by
 unfold insR;repeat' split
 all_goals exact⟨rfl,by simp⟩
theorem xX{x:InsD}{l:List InsD}:insL lim (x::l) s=if(bY lim s).e=0 then insL lim l (insR (bY lim s) x) else bY lim s:=rfl
theorem HC{ins:List InsD}{vx v2 v4 v8 v9 v10:Value}{Q:Post}{ρ:Env}(hs:SlRd Bv vx ins)(hok : ∀x∈ins,lr x=QG/\x.args.length<=1000000)(R:Rn Bv W h oo B r lim s)(q:Rlm lim s)(hlim:lim<=1000000)(hn:ins.length<=1000000)
  (hρ:bh [2,4,5,8,9,10,63,64,65] ρ=[2,4,5,8,9,10,63,64,65].zip [v2,v4,QT B,v8,v9,v10,vx,Qy Qz ins.length,Qy Qz 0])
  (hE : ∀ρ' h' W' s',Slk ρ' [(4,v4),(5,QT B)]->Rn Bv W' h' oo B r lim s'->insL lim ins s=s'->s'.e≠0->Q (.exit 2) ρ' h')
  (hN : ∀h' W' s' y,Rn Bv W' h' oo B r lim s'->insL lim ins s=s'->Rlm lim s'->Q .normal ([2,4,5,8,9,10,63,64,65].zip [v2,v4,QT B,v8,v9,v10,vx,Qy Qz ins.length,y]) h') :
  LC.wp QH L.cW.l3.loop (dU 4 Q) ρ h:=by
 have sll : ∀{K:View},Un.ev K .len vx=QB (Qy Qz ins.length):=hs.len;refine aJ [2,4,5,8,9,10,63,64,65] (fun(_:Unit) k=>[v2,v4,QT B,v8,v9,v10,vx,Qy Qz ins.length,Qy Qz k])
  (λ_ k hx=>∃W' s',Rn Bv W' hx oo B r lim s'/\Rlm lim s'/\insL lim ins s=insL lim (ins.drop k) s') ins.length ()
  rfl Q1 hρ ⟨W,s,R,q,rfl⟩ (λ_ _=>rfl) (λv i h1 hk m=>by simp) ?_ ?_
 ·rintro _ k hx hk ⟨W1,s1,R1,q1,e1⟩ K2 hK2;have hk:k<ins.length:=hk;have hsx:=hs.mono (Qx R1.base R1.wle);obtain⟨ux,hux,rux⟩:=hs.wh rfl (N:=5) rfl hk;have qx:=hsx.idxn (k:=.i64) (N:=5) rfl (i:=(k:Int)) Q1 Q1;simp at qx;rw[NK hk,<-ao hk,xX]at e1;obtain⟨o1,o2⟩:=hok _ (bD hk);refine fE ?_;refine ab λy hy=>?_;simp[qx,hux _ (Qx R1.base R1.wle)];refine eP (X:=Bv) (z:=zz5) Q0 rfl Q0 rux Q4 Q4 λh2 hle2 hs2 at2=>?_;subst hy;have R2:=R1.ext hle2;have hr1:=R1.rlt;have lB:Bv.le (butV r (grow W1 hx h2)):=zG (Qx R1.base (bE R1.wle)) R1.out;have at2:=at2 (butV r (grow W1 hx h2)) lB (by unfold butV grow;rw[if_neg Q1,if_neg Q1]);have R2:=R2.on (B2:=butV r (grow W1 hx h2)) yU zw;generalize butV r (grow W1 hx h2)=B2 at lB at2 R2;generalize grow W1 hx h2=W2 at R2;refine ab λy hy=>?_;simp;refine ag Q0 (xo R2 ⟨q1.st0,by have:=q1.st1;omega⟩) ?_;rintro _ h3 ⟨rfl,R3⟩;simp;by_cases ce:(bY lim s1).e=0
  ·simp[ce];subst hy;rw[if_pos ce]at e1;have qs:=q1.step ce;have at3:=at2.mono (Qx R3.base R3.wle);obtain⟨u3,lu3,ru3⟩:=at2.ldK rfl (N:=5) rfl;have lu3:=lu3 _ (Qx R3.base R3.wle);simp[lu3];refine ag Q0 (Ek R3 ru3 (KE o1) o2 (by have:=qs.2.2;have:=qs.2.1;omega)) ?_;rintro _ h4 ⟨W4,R4⟩;refine hK2 () _ _ rfl rfl ⟨W4,_,R4.on (Qx lB R4.base) R1.out,?_,e1⟩;obtain⟨i1,i2⟩:=xq (s:=bY lim s1) (x:=nth ins k);exact⟨by rw[i1];exact qs.1,by rw[i1];exact qs.2.1,by rw[i1];have:=qs.2.2;omega⟩
  simp[ce];rw[if_neg ce]at e1;exact hE _ _ _ _ (by rw[j9,j9,zK];exact⟨rfl,rfl,trivial⟩) (R3.on (Qx lB R3.base) R1.out) e1 ce
 rintro _ hx ⟨W1,s1,R1,q1,e1⟩;rw[Qg]at e1;exact hN hx W1 s1 _ R1 e1 q1
end
theorem Nz.ext{s:List Int}{M:Nat}{vs:Value}{W0:View}{h h':Heap}{o0:Own}{m:MS}{u:Value}{ds:List Int}(n:Nz s M vs W0 h o0 m u ds)(hle:(vw h).le (vw h')):Nz s M vs W0 h' o0 m u ds:=by obtain⟨W,o,g,w,f,sl⟩:=n;exact⟨W,o,g,⟨w.own.ext' hle,w.src,w.box⟩,f,sl⟩
structure Sz(n a p i:Nat)(m:MS):Prop where
 at_:m.at_<=a
 n0:0<=m.next
 next:m.next<=a
 live:m.live.length<=a
 ps0:0<=m.ps
 ps1:m.ps<=4
 len:m.blocks.length=n
 phis : ∀j,(nth m.blocks j).phis.length<=p
 ins : ∀j,(nth m.blocks j).ins.length<=i
theorem Sz.mono{n a p i a' p' i':Nat}{m:MS}(z:Sz n a p i m)(h1:a<=a')(h2:p<=p')(h3:i<=i'):Sz n a' p' i' m:=
 ⟨NB z.at_ h1,z.n0,by have:=z.next;omega,NB z.live h1,z.ps0,z.ps1,z.len,λj=>NB (z.phis j) h2,λj=>NB (z.ins j) h3⟩
theorem Sz.ok{n a p i:Nat}{m:MS}(z:Sz n a p i m)(h:i<=a):m.ok a:=⟨z.at_,z.n0,z.next,z.live,λj=>NB (z.ins j) h⟩
theorem Sz.took{n a p i:Nat}{m:MS}(z:Sz n a p i m):Sz n (a+1) p i m.took:=⟨by have:=z.at_;show m.at_+1<=_;omega,z.n0,by have:=z.next;show m.next<=_;omega,by have:=z.live;show m.live.length<=_;omega,z.ps0,z.ps1,z.len,z.phis,z.ins⟩
variable{n b:Nat}
theorem Sz.bj{a p i:Nat}{m:MS}(z:Sz n a p i m){x:BlkD}(h1:x.phis.length<=p)(h2:x.ins.length<=i):Sz n a p i { m with blocks:=m.blocks.set b x }:=by
 refine⟨z.at_,z.n0,z.next,z.live,z.ps0,z.ps1,by show(m.blocks.set b x).length=_;rw[Nq];exact z.len,λj=>?_,λj=>?_⟩;all_goals
  show List.length (α:=_) _<=_
  rcases M0 j m.blocks.length with hl | hl
  ·simp only[aK hl]
   split
   ·assumption
   ·first | exact z.phis j | exact z.ins j
  ·first
    | (have:=z.phis j;rw[aW hl]at this;rw[aW (by simpa using hl)];exact this)
    | (have:=z.ins j;rw[aW hl]at this;rw[aW (by simpa using hl)];exact this)
theorem Sz.dc{n a p i b:Nat}{m:MS}(z:Sz n a p i m):Sz n (a+1) (p+1) i (dc b m):=by have h1:Sz n (a+1) (p+1) i m.aH:=⟨by have:=z.at_;show m.at_<=_;omega,by have:=z.n0;show 0<=m.next+1;omega,by have:=z.next;show m.next+1<=_;omega,by have:=z.live;show m.live.length<=_;omega,z.ps0,z.ps1,z.len,λj=>by have:=z.phis j;show(nth m.blocks j).phis.length<=_;omega,z.ins⟩;exact h1.bj (b:=b) (x:={ nth m.blocks b with phis:=(nth m.blocks b).phis++[⟨m.next,[]⟩] }) (by have:=z.phis b;show((nth m.blocks b).phis++[_]).length<=_;rw[M3,M6];omega) (z.ins b)
theorem Sz.lL{n a p i b:Nat}{m:MS}(z:Sz n a p i m) : ∀k,Sz n (a+k) (p+k) i (up (λ_=>Go.Lft.dc b) k m)
 | 0=>z
 | k+1=>(Sz.lL z k).dc
section
variable{s:List Int}{M:Nat}{vs:Value}{W0:View}{h:Heap}{o0:Own}{m:MS}
variable{vr vt vp:Value}{lp:List Int}{Q:Post}{ρ:Env}
theorem Jh{a p i cnt:Nat}{vq:Value}(x:Nx s M vs W0 h o0 m)(hk:o0 (5,0)=it T.int vp lp)(z:Sz n a p i m)(hb:b<n)(hlp:lp.length=n)(hcnt:nth lp b=cnt)(hc:cnt<=10)(hn:n<=100)(ha:a<=100000)(hp:p<=100000)(h0:bh [2,3,4,5,7,8,9,10] ρ=[(2,vr),(3,QT M),(4,Qy Qz n),(5,vt),(7,vp),(8,Qy Qz b),(9,vq),(10,Qy Qz 0)])(hQ : ∀h',Nx s M vs W0 h' o0 (up (λ_=>dc b) cnt m)->Q .normal [(2,vr),(3,QT M),(4,Qy Qz n),(5,vt),(7,vp),(8,Qy Qz b),(9,vq),(10,Qy Qz cnt)] h'):
  LC.wp QH (.block 4 (.loop L.az.l3)) Q ρ h:=by
 simp only[aL];refine dq [2,3,4,5,7,8,9,10] (fun(_:Unit) k=>[vr,QT M,Qy Qz n,vt,vp,Qy Qz b,vq,Qy Qz k]) (λ_ k h2=>Nx s M vs W0 h2 o0 (up (λ_=>dc b) k m)) cnt ()
  rfl Q1 h0 x (λ_ _=>rfl) (λv k h2 hk2 m=>by have sp:=m.z.at Q2 hk;have e:=sp.int Qw (i:=b) Q1;rw[hcnt]at e;simp(disch:=omega)[sp.idx1 rfl,e]) ?_ ?_
 ·rintro _ k h2 hlt x2 K2 hK2;have z2:=z.lL (b:=b) k;have e2:up (λ_=>dc b) (k+1) m=dc b (up (λ_=>dc b) k m):=rfl;rw[e2]at hK2;generalize up (λ_=>dc b) k m=m2 at x2 hK2 z2;have hbl:b<m2.blocks.length:=by rw[z2.len];exact hb
  obtain⟨W,o,g,w,f⟩:=x2;obtain⟨vb,vl,lb,bb⟩:=w.box;have hbb:b<lb.length:=by rw[bb.len];exact hbl
  obtain⟨H,hH,c3,sH,G9⟩:=bb.G9 w.own;have a1:=(sH.at hbb).part BlkM.oy;have a2:aj H (((slA vb).add (b*6)).add 0)=QB (nth lb b).phis.v:=by rw[ao hbb];exact a1.raw
  have sb:=sH.bound;simp only[aL];refine yF H hH ?_;simp(disch:=omega)[c3,sH.idxn (N:=6) rfl,a2];refine ag Q0 (w.Kk bb z2.n0 (by have:=z2.next;omega)) ?_;rintro _ h3 ⟨rfl,o3,w3,b3,f3,keep⟩;obtain⟨X,hHX,hWX,hX,sX,avX⟩:=G9 h3 o3 w3.own b3 keep;refine⟨sub_le hHX hX,?_⟩;refine aQ (z:=zz4) (places:=zpc) (vs:=[(0,Qy Qz m2.next)]) (cs:=#[Qy Qz m2.next,QD QC 0 0]) Q0 Q0 Sb Q0 ?_;refine⟨sub_le hHX hX,?_⟩;have i64:I64 m2.next:=by have:=z2.n0;have:=z2.next;constructor<;>omega
  have hph:=z2.phis b;refine jz (α:=PhiD) (W:=W) (d:=⟨m2.next,[]⟩) El.lQ rfl (A9 i64 ia) λu5 h5 src hle5 hs5=>⟨sub_le hHX (Qx hX hle5),?_⟩;refine(w3.own.ext' hle5).cR (k:=(1,b)) (α:=PhiD) (v:=(nth lb b).phis.v) (l:=(nth m2.blocks b).phis) (l2:=[⟨m2.next,[]⟩]) (b3.phis b hbl) El.lQ rfl rfl src Q8 Q8 λv6 h6 w6 m6=>⟨sub_le hHX (m6.view (Qx hX hle5) (avX b hbl)).1,?_⟩;have hv6:=(w6.cells (k:=(1,b)) Own.ah).2;refine w6.n8 (k:=(0,2)) (α:=BlkM) BlkM.oy (v:=vb) (l:=lb) (i:=b) (d:=⟨v6⟩) b3.blk Q0 rfl rfl hbb (rC.2 ⟨rfl,hv6⟩) λh7 w7 _=>?_;have b7:=b3.bj (b:=b) hbl (x':={ nth m2.blocks b with phis:=(nth m2.blocks b).phis++[⟨m2.next,[]⟩] }) (y':={ lb[b]with phis:=⟨v6⟩ }) (o':=(o3.upd (1,b) (it T.dY v6 ((nth m2.blocks b).phis++[⟨m2.next,[]⟩]))).upd (0,2) (it T.a8 vb (lb.set b { lb[b]with phis:=⟨v6⟩ }))) (by rw[<-bb.term b hbl,ao hbb]) Own.ah ((Own.af Sb).trans Own.ah) (by rw[Own.af Sb,Own.af Sb,b3.ins b hbl,ao hbb];rfl) (λq h1 h2 h3=>by rw[Own.af h1,Own.af h2]);refine hK2 () _ _ rfl rfl ⟨W,_,g,⟨w7,w.src,vb,vl,_,b7⟩,λk hk=>?_⟩;rw[Own.af (by rintro rfl;simp at hk),Own.af (by rintro rfl;simp at hk)];exact(f3 k hk).trans (f k hk)
 rintro _ h2 x2;exact hQ h2 x2
end
variable{M:Nat}{vs:Value}{W0:View}{o0:Own}{po:OP}{ty:TypeId}{us:List (Nat × Value)}
theorem Nz.xc{s:List Int}{h:Heap}{m:MS}{u:Value}{ds:List Int}{α:Type}[r:Rep α](n:Nz s M vs W0 h o0 m u ds){k:Key}{e:TypeId}{i:Nat}{v:Value}{l:List α}{t:TypeId}{x y:Operand}{d:α}{w:Value}{K:Value->Heap->Prop}(h1:Rep.n α=1)(h3:3<=k.1)(hk:o0 k=it e v l)(hi:i<l.length)(hsz:dp QH t=QB 1)(hx:asg us x = QE (QB ((slA v).add i)))(hy:asg us y=w)(hr : ∀W,Rd W w d)(hK : ∀h',Nz s M vs W0 h' (o0.upd k (it e v (l.set i d))) m u ds->K undef h'):@Lft.step po QH (.store t x y) ty us h K:=
 n.H8 h3 hk hi (by rw[hsz,h1]) (by rw[hx,h1,NN]) hy hr hK
theorem nL{s:List Int}{m:MS}:0<=gZ s m b/\gZ s m b<=3:=by
 unfold gZ;have:=bc (s:=s) (at_:=m.at_) (n:=4) Q2;repeat' split
 all_goals omega
theorem Ga{l:List Int}{i:Nat}{x:Int}(h:nth l i=x)(hi:i<l.length):l.set i x=l:=by rw[<-h,ao hi];exact Oz hi
structure Ph(n a k:Nat)(x:List Int × MS):Prop where
 z:Sz n (a+10*k) (3*k) 0 x.2
 len:x.1.length=n
 zero : ∀j,k<j->nth x.1 j=0
 rng : ∀j,0<=nth x.1 j/\nth x.1 j<=3
theorem wS{s:List Int}{a k:Nat}{x:List Int × MS}(p:Ph n a k x):Ph n a (k+1) (du s k x):=by
 obtain⟨c0,c1⟩:=nL (s:=s) (m:=x.2) (b:=k+1);have hset : ∀j,nth (x.1.set (k+1) (gZ s x.2 (k+1))) j=if k+1=j/\j<x.1.length then gZ s x.2 (k+1) else nth x.1 j:=λj=>by
  rcases M0 j x.1.length with hl | hl
  ·rw[aK hl];by_cases e:k+1=j
   ·rw[if_pos e,if_pos ⟨e,hl⟩]
   rw[if_neg e,if_neg (λq=>e q.1)]
  rw[aW (by simpa using hl),if_neg Q1,aW hl]
 refine⟨?_,?_,λj hj=>?_,λj=>?_⟩
 ·have:=(p.z.took).lL (b:=k+1) (gZ s x.2 (k+1)).toNat;exact this.mono Q1 Q1 (MY _)
 ·show(x.1.set _ _).length=_;rw[Nq];exact p.len
 ·show nth (x.1.set _ _) j=_;rw[hset,if_neg Q1];exact p.zero j Q1
 show 0<=nth (x.1.set _ _) j/\nth (x.1.set _ _) j<=3;rw[hset];split
 ·exact⟨c0,c1⟩
 exact p.rng j
theorem yP{s:List Int}{n a:Nat}{x:List Int × MS}(p:Ph n a 0 x) : ∀k,Ph n a k (up (du s) k x)
 | 0=>p
 | k+1=>wS (yP p k)
variable{vr vt vp:Value}{Q:Post}{ρ:Env}
theorem Il{s:List Int}{h:Heap}{a:Nat}{x0:List Int × MS}(x:Nx s M vs W0 h (o0.upd (5,0) (it T.int vp x0.1)) x0.2)(p0:Ph n a 0 x0)(hn1:1<=n)(hn:n<=100)(ha:a<=10000)(h0:bh [2,3,4,5,7,8] ρ=[(2,vr),(3,QT M),(4,Qy Qz n),(5,vt),(7,vp),(8,Qy Qz 1)])(hQ : ∀h',Nx s M vs W0 h' (o0.upd (5,0) (it T.int vp (up (du s) (n-1) x0).1)) (up (du s) (n-1) x0).2->Q .normal [(2,vr),(3,QT M),(4,Qy Qz n),(5,vt),(7,vp),(8,Qy Qz n)] h'):
  LC.wp QH (.block 2 (.loop L.az.l2)) Q ρ h:=by
 simp only[aL];refine xl [2,3,4,5,7,8] (fun(_:Unit) k=>[vr,QT M,Qy Qz n,vt,vp,Qy Qz ((k+1:Nat):Int)]) (λ_ k h2=>Nx s M vs W0 h2 (o0.upd (5,0) (it T.int vp (up (du s) k x0).1)) (up (du s) k x0).2) (n-1) 1 ()
  rfl Q1 h0 x (λ_ _=>rfl) (λv k h2 hk2 m=>by simp;omega) ?_ ?_
 ·rintro _ k h2 hlt x2 K2 hK2;have p2:=yP (s:=s) p0 k;have e2:up (du s) (k+1) x0=du s k (up (du s) k x0):=rfl;have p3:=wS (s:=s) p2;rw[e2]at hK2;generalize up (du s) k x0=y at x2 hK2 p2 p3;obtain⟨lp,m⟩:=y;have z:Sz n (a+10*k) (3*k) 0 m:=p2.z;have x2:Nx s M vs W0 h2 (o0.upd (5,0) (it T.int vp lp)) m:=x2;have q:m.ok (a+10*k):=z.ok Q1;have hlen:lp.length=n:=p2.len;simp only[aL];refine ab λy hy=>?_;obtain⟨vb,vl,rd⟩:=x2.z.reads;simp[rd.f];refine ag Q0 (ud (b:=((k+1:Nat):Int)) (rd.rd ⟨by have:=z.ps0;show _<=m.ps;omega,by have:=z.ps1;show m.ps<=_;omega⟩) (by show m.blocks.length<=_;rw[z.len];omega)) ?_;rintro vq h3 ⟨hle3,hq⟩;have n3:=x2.z.ext hle3;have hcd:gZ s m (k+1)=_:=gZ.eq_1 s m (k+1);obtain⟨pl,hpl⟩ : ∃pl:Nat,pl=(aA m.f ((k+1:Nat):Int)).length:=⟨_,rfl⟩;have hql : ∀{Q:View},Un.ev Q .len vq=QB (Qy Qz pl):=fun{Q}=>by rw[hpl];exact hq.len
  rw[<-hpl]at hcd;clear hq x2 rd hpl;subst hy;refine ab λy hy=>?_;have fin : ∀(h':Heap) (ρ:Env),Nz s M vs W0 h' (o0.upd (5,0) (it T.int vp (lp.set (k+1) (gZ s m (k+1))))) m.took (QD QC 0 0) []->Lft.look ρ 2=QB vr->Lft.look ρ 3=QB (QT M)->Lft.look ρ 4=QB (Qy Qz n)->Lft.look ρ 5=QB vt->Lft.look ρ 7=QB vp->Lft.look ρ 8=QB (Qy Qz ((k+1:Nat):Int))->Lft.look ρ 9=QB vq->
    LC.wp QH y (dU 3 (fN K2 (dU 2 Q))) ρ h':=by
   intro h' ρ n' r2 r3 r4 r5 r7 r8 r9;subst hy;refine ab λy hy=>?_;simp;subst hy;obtain⟨c0,c1⟩:=nL (s:=s) (m:=m) (b:=k+1);refine Jh (vr:=vr) (vt:=vt) (b:=k+1) (cnt:=(gZ s m (k+1)).toNat) (vq:=vq) n'.x Own.ah z.took Q1 (by rw[Nq];exact hlen) (by rw[aK Q1,if_pos rfl];omega) Q1 hn Q1 Q1 ?_ λh4 x4=>?_
   ·simp[bh,ar,au,r2,r3,r4,r5,r7,r8,r9]
   simp;exact hK2 () _ _ rfl rfl x4
  refine ab λw hw=>?_;simp[hql];subst hw;by_cases c1:1<pl
  ·rw[if_pos c1]at hcd;refine aZ Q8 ?_;simp;refine ag Q0 (eZ n3 q Q1 (k:=4) Q2 Q2) ?_;rintro _ h4 ⟨rfl,n4⟩;have sp:=n4.at (k:=(5,0)) Q2 Own.ah;simp(disch:=omega)[sp.idx1 rfl];refine n4.xc (k:=(5,0)) (α:=Int) (i:=k+1) (d:=aB s m.at_ 4) rfl Q2 Own.ah Q1 Q0 rfl rfl (λW=>dJ.2 ⟨rfl,by have:=bc (s:=s) (at_:=m.at_) (n:=4) Q2;constructor<;>omega⟩) λh5 n5=>?_;refine fin h5 _ (n5.re λq=>by rw[iR,hcd]) ?_ ?_ ?_ ?_ ?_ ?_ ?_;all_goals simp
  rw[if_neg c1]at hcd;refine aV Q8 ?_;refine ab λw hw=>?_;simp;refine ag Q0 (eZ n3 q Q1 (k:=6) Q2 Q2) ?_;rintro _ h4 ⟨rfl,n4⟩;simp;subst hw;by_cases c2:aB s m.at_ 6=0
  ·rw[if_pos c2]at hcd;refine aZ (by simp[c2]) ?_;have sp:=n4.at (k:=(5,0)) Q2 Own.ah;simp(disch:=omega)[sp.idx1 rfl];refine n4.xc (k:=(5,0)) (α:=Int) (i:=k+1) (d:=1) rfl Q2 Own.ah Q1 Q0 rfl rfl (λW=>dJ.2 ⟨rfl,by decide,by decide⟩) λh5 n5=>?_;refine fin h5 _ (n5.re λq=>by rw[iR,hcd]) ?_ ?_ ?_ ?_ ?_ ?_ ?_;all_goals simp
  rw[if_neg c2]at hcd;refine aV (by simp[c2]) ?_;simp;have e:lp.set (k+1) (gZ s m (k+1))=lp:=by rw[hcd];exact Ga (p2.zero (k+1) Q1) Q1
  refine fin h4 _ (n4.re λq=>by rw[e]) ?_ ?_ ?_ ?_ ?_ ?_ ?_;all_goals simp
 rintro _ h2 x2;have e:n-1+1=n:=by omega
 have:=hQ h2 x2;simpa[e]using this
section
variable{s:List Int}{M:Nat}{vs:Value}{W0:View}{h:Heap}{o0:Own}{m:MS}
theorem Hg{a p i:Nat}(z:Sz n a p i m):I64 m.ps:=by have:=z.ps0;have:=z.ps1;constructor<;>omega
variable{vd va:Value}
theorem H6{a p i:Nat}{r:Bool}{t:Nat}(x:Nx s M vs W0 h (o0.upd (7,0) (it T.oe va ([]:List BL))) m)(hfree:o0 (7,0)=QC)(z:Sz n a p i m)(hn:n<=100)(h0:bh [2,3,4,5,7,11,12,13,14,15,16] ρ=[(2,vr),(3,QT M),(4,Qy Qz n),(5,vt),(7,vp),(11,vd),(12,Qy Qz t),(13,Qy Qz b),(14,.bool r),(15,va),(16,Qy Qz 0)])(hQ : ∀h' W' va,W0.le W'->Nx s M vs W' h' o0 m->SlRd W' va (jR m.f n)->Q .normal [(2,vr),(3,QT M),(4,Qy Qz n),(5,vt),(7,vp),(11,vd),(12,Qy Qz t),(13,Qy Qz b),(14,.bool r),(15,va),(16,Qy Qz n)] h'):
  LC.wp QH (.block 10 (.loop L.az.l6)) Q ρ h:=by
 simp only[aL];refine dq [2,3,4,5,7,11,12,13,14,15,16] (fun(va:Value) k=>[vr,QT M,Qy Qz n,vt,vp,vd,Qy Qz t,Qy Qz b,.bool r,va,Qy Qz k]) (λva k h2=>Nx s M vs W0 h2 (o0.upd (7,0) (it T.oe va (rows (λa=>eJ m.f (a:Int)) k))) m) n va
  rfl Q1 h0 x (λ_ _=>rfl) (λv k h2 hk2 m=>by simp) ?_ ?_
 ·rintro va k h2 hlt x2 K2 hK2;simp only[aL];obtain⟨vb,vl,rd⟩:=x2.z.reads;simp[rd.f];refine ag Q0 (xn (wo:=(k:Int)) (rd.rd (Hg z)) (by show m.blocks.length<=_;rw[z.len];omega)) ?_;rintro ur h3 ⟨hle3,hur⟩;obtain⟨W,o,g,w,f⟩:=x2;have w3:=w.own.ext hle3;have hW3:=bE (h':=h3) w.own.wle;have hur:=hur.mono (jd W h2 h3);generalize grow W h2 h3=W3 at w3 hW3 hur;refine w3.iN (k:=(7,0)) (α:=BL) (d:=eJ m.f (k:Int)) ((f _ Q2).trans Own.ah) El.vc rfl (fG.2 hur) Q8 Q8 (λ_=>rfl) (λ_=>rfl) λu v' h4 w4 _=>?_;obtain⟨vb,vl,lb,bb⟩:=w.box;refine hK2 v' _ _ rfl rfl ⟨W3,_,Qx g hW3,⟨w4,w.src.mono hW3,vb,vl,lb,bb.frame λq hq=>Own.af (by rintro rfl;simp at hq)⟩,λq hq=>?_⟩;rw[iG];unfold Own.upd;split
  ·rfl
  rename_i e;rw[f q hq,Own.af e]
 rintro va h2 ⟨W,o,g,w,f⟩;have hk:=(f (7,0) Q2).trans Own.ah;obtain⟨w2,sl⟩:=w.own.freeze hk;have hWp:=kS (h:=h2) (w.own.av _ _ hk);obtain⟨vb,vl,lb,bb⟩:=w.box;refine hQ h2 _ va (Qx g hWp) ⟨_,_,View.le_refl _,⟨w2,w.src.mono hWp,vb,vl,lb,bb.frame λq hq=>Own.af (by rintro rfl;simp at hq)⟩,λq hq=>?_⟩ sl;by_cases e:q=(7,0)
 ·rw[e,Own.ah,hfree]
 rw[Own.af e,f q hq,Own.af e]
variable{dn:BL}{away:List BL}
theorem IJ{r:Bool}{t:Nat}(sd:SlRd (vw h) vd dn)(sa:SlRd (vw h) va away)(hb:b<n)(hdn:dn.length=n)(hal:away.length=n)(har : ∀i,i<n->(nth away i).length=n)(hn:n<=100)(h0:bh [2,3,4,5,7,11,12,13,14,15,17] ρ=[(2,vr),(3,QT M),(4,Qy Qz n),(5,vt),(7,vp),(11,vd),(12,Qy Qz t),(13,Qy Qz b),(14,.bool r),(15,va),(17,Qy Qz 0)])(hQ:Q .normal [(2,vr),(3,QT M),(4,Qy Qz n),(5,vt),(7,vp),(11,vd),(12,Qy Qz t),(13,Qy Qz b),(14,.bool (up (λa r=>r&&(decide (a=b)||nth dn a||nth (nth away a) b)) n r)),(15,va),(17,Qy Qz n)] h):
  LC.wp QH (.block 12 (.loop L.az.l7)) Q ρ h:=by
 simp only[aL];refine dq [2,3,4,5,7,11,12,13,14,15,17] (fun(r:Bool) k=>[vr,QT M,Qy Qz n,vt,vp,vd,Qy Qz t,Qy Qz b,.bool r,va,Qy Qz k]) (λr2 k h2=>h2=h/\r2=up (λa r=>r&&(decide (a=b)||nth dn a||nth (nth away a) b)) k r) n r
  rfl Q1 h0 ⟨rfl,rfl⟩ (λ_ _=>rfl) (λv k h2 hk2 m=>by simp) ?_ ?_
 ·rintro r2 k h2 hlt ⟨rfl,hr2⟩ K2 hK2;have e:up (λa r=>r&&(decide (a=b)||nth dn a||nth (nth away a) b)) (k+1) r=(r2&&(decide (k=b)||nth dn k||nth (nth away k) b)):=by rw[hr2];rfl
  rw[e]at hK2;clear e hr2;obtain⟨rv,hrv⟩:=sa.rows;obtain⟨ha1,ha2⟩:=hrv k Q1;have hl:=har k hlt;have hkb : ∀{A:Type},True:=trivial;simp only[aL];cases r2 with
  | false=>simp;exact hK2 QG _ _ rfl rfl ⟨rfl,rfl⟩
  | true=>
   by_cases c:k=b
   ·subst c;simp;exact hK2 QF _ _ rfl rfl ⟨rfl,by simp⟩
   have c':¬((k:Int)=(b:Int)):=by omega
   cases hd:nth dn k with
   | true=>simp(disch:=omega)[c,c',sd.idx1 rfl,sd.bool Qw,hd];exact hK2 QF _ _ rfl rfl ⟨rfl,by simp[hd]⟩
   | false=>simp(disch:=omega)[c,c',sd.idx1 rfl,sd.bool Qw,hd,sa.idx1 rfl,ha1 _ Qw,ha2.idx1 rfl,ha2.bool Qw];exact hK2 _ _ _ rfl rfl ⟨rfl,by simp[hd,c]⟩
 rintro r2 h2 ⟨rfl,rfl⟩;exact hQ
end
def MS.cI(m:MS)(l:List Int):MS:={ m with live:=l }
section
variable{s:List Int}{M:Nat}{vs:Value}{W0:View}{h:Heap}{o0:Own}{m:MS}
variable{ty2:TypeId}
theorem Mk.zn{po2:OP}{W:View}{o:Own}(w:Mk s M vs W h o m){vb vl:Value}{lb:List BlkM}(bb:MkB M vs m o vb vl lb){l2:List Int}{u:Value}{x y c1 c2:Operand}{us2:Value->List (Nat × Value)}{K:Value->Value->Heap->Prop}(src:SrcT (vw h) W u l2)(hl:m.live.length+l2.length<=1000000)(hx:asg us x=vl)(hy:asg us y=u)(hc1 : ∀v,asg (us2 v) c1 = QE (QB ⟨M,5,QC⟩))(hc2 : ∀v,asg (us2 v) c2=v)(hK : ∀v h' o',Mk s M vs W h' o' (m.cI (m.live++l2))->(∀k:Key,3<=k.1->o' k=o k)->K v undef h'):
  @Lft.step po QH (.call ⟨.builtin .append,#[x,y],#[T.bn,T.bn]⟩) ty us h λv h2=>@Lft.step po2 QH (.store T.bn c1 c2) ty2 (us2 v) h2 λw h3=>K v w h3:=by
 refine w.own.cR (k:=(0,1)) (α:=Int) (v:=vl) (l:=m.live) (l2:=l2) bb.live El.bn hx hy src Q1 Q1 λv h2 w2 _=>?_;have hv:=(w2.cells (k:=(0,1)) Own.ah).2;refine w2.bG (k:=(0,0)) (n:=5) (i:=5) (e:=T.aT) (B:=M) (l:=mkL vs m.at_ m.ps vb m.next vl) ((Own.af Sb).trans bb.box) Q2 Q0 (hc1 v) (hc2 v) hv λh3 w3 _=>?_;refine hK v h3 _ ⟨w3,w.src,vb,v,lb,⟨rfl,rfl,(Own.af Sb).trans ((Own.af Sb).trans bb.blk),bb.len,bb.term,λi hi=>?_,λi hi=>?_⟩⟩ λk hk=>?_
 ·exact(Own.af Sb).trans ((Own.af Sb).trans (bb.phis i hi))
 ·exact(Own.af Sb).trans ((Own.af Sb).trans (bb.ins i hi))
 rw[Own.af (by rintro rfl;simp at hk),Own.af (by rintro rfl;simp at hk)]
variable{vd va:Value}
theorem H5{a p i c:Nat}{r:Bool}{t:Nat}(x:Nx s M vs W0 h o0 (m.cI []))(z:Sz n a p i m)(hc:m.ps=c)(h0:bh [2,3,4,5,7,11,12,13,15,18] ρ=[(2,vr),(3,QT M),(4,Qy Qz n),(5,vt),(7,vp),(11,vd),(12,Qy Qz t),(13,Qy Qz b),(15,va),(18,Qy Qz 0)])(hQ : ∀h',Nx s M vs W0 h' o0 (m.cI (rows (λi=>(i:Int)) c))->Q .normal [(2,vr),(3,QT M),(4,Qy Qz n),(5,vt),(7,vp),(11,vd),(12,Qy Qz t),(13,Qy Qz b),(15,va),(18,Qy Qz c)] h'):
  LC.wp QH (.block 14 (.loop L.az.l8)) Q ρ h:=by
 have hc4:c<=4:=by have:=z.ps1;omega
 simp only[aL];refine dq [2,3,4,5,7,11,12,13,15,18] (fun(_:Unit) k=>[vr,QT M,Qy Qz n,vt,vp,vd,Qy Qz t,Qy Qz b,va,Qy Qz k]) (λ_ k h2=>Nx s M vs W0 h2 o0 (m.cI (rows (λi=>(i:Int)) k))) c ()
  rfl Q1 h0 x (λ_ _=>rfl) (λv k h2 hk2 x2=>by obtain⟨vb,vl,rd⟩:=x2.z.reads;have e:(m.cI (rows (λi=>(i:Int)) k)).ps=c:=hc;simp[rd.ps,e]) ?_ ?_
 ·rintro _ k h2 hlt x2 K2 hK2;obtain⟨W,o,g,w,f⟩:=x2;obtain⟨vb,vl,lb,bb⟩:=w.box;have rd:=w.reads bb;simp only[aL];simp[rd.cl];refine jz (α:=Int) (W:=W) (d:=(k:Int)) El.bn rfl (dJ.2 ⟨rfl,by constructor<;>omega⟩) λu5 h5 src hle5 hs5=>?_;have w5:Mk s M vs W h5 o (m.cI (rows (λi=>(i:Int)) k)):=⟨w.own.ext' hle5,w.src,w.box⟩;refine w5.zn bb src (by show(rows _ k).length+1<=_;simp;omega) rfl rfl (λ_=>rfl) (λ_=>rfl) λv h6 o6 w6 f6=>?_;refine hK2 () _ _ rfl rfl ⟨W,o6,g,?_,λk hk=>(f6 k hk).trans (f k hk)⟩;rw[iG];exact w6
 rintro _ h2 x2;exact hQ h2 x2
theorem Hz{a p i ai:Nat}{t:Nat}{lv:List Int}(x:Nx s M vs W0 h o0 (m.cI lv))(z:Sz n a p i m)(hai:ai<n)(hn:n<=100)(hl:lv.length<=100000)(hp:p<=100000)(h0:bh [2,3,4,5,7,11,12,13,15,19,20] ρ=[(2,vr),(3,QT M),(4,Qy Qz n),(5,vt),(7,vp),(11,vd),(12,Qy Qz t),(13,Qy Qz b),(15,va),(19,Qy Qz ai),(20,Qy Qz 0)])(hQ : ∀h':Heap,Nx s M vs W0 h' o0 (m.cI (lv++(nth m.blocks ai).phis.map PhiD.dst))->Q .normal [(2,vr),(3,QT M),(4,Qy Qz n),(5,vt),(7,vp),(11,vd),(12,Qy Qz t),(13,Qy Qz b),(15,va),(19,Qy Qz ai),(20,Qy Qz (nth m.blocks ai).phis.length)] h'):
  LC.wp QH (.block 18 (.loop L.az.l10)) Q ρ h:=by
 have hpl:=z.phis ai;have hlen:ai<m.blocks.length:=by rw[z.len];exact hai
 simp only[aL];have read : ∀{h2:Heap} {lv2:List Int} {vb vl:Value},Reads M (m.cI lv2) h2 vb vl->∃vph,aj (vw h2) (((slA vb).add (ai*6)).add 0)=QB vph/\SlRd (vw h2) vph (nth m.blocks ai).phis/\Bn.ev (.idx 6) vb (Qy Qz ai)=QB (QE (QB ((slA vb).add (ai*6)))):=by intro h2 lv2 vb vl rd;have hb:=rd.blk;have hl2:ai<(m.cI lv2).blocks.length:=hlen;obtain⟨vph,h1⟩:=((hb.at hl2).part BlkD.oy).sl;have h2:=h1.2;have e:(m.cI lv2).blocks[ai]=nth m.blocks ai:=(ao hl2).symm;rw[e]at h2;exact⟨vph,h1.1,h2,by have:=hb.idxn (N:=6) rfl (k:=.i64) (i:=ai) Q1 Q1;simpa using this⟩
 refine dq [2,3,4,5,7,11,12,13,15,19,20] (fun(_:Unit) k=>[vr,QT M,Qy Qz n,vt,vp,vd,Qy Qz t,Qy Qz b,va,Qy Qz ai,Qy Qz k]) (λ_ k h2=>Nx s M vs W0 h2 o0 (m.cI (lv++((nth m.blocks ai).phis.take k).map PhiD.dst))) (nth m.blocks ai).phis.length ()
  rfl Q1 h0 (by simpa using x) (λ_ _=>rfl) (λv k h2 hk2 x2=>by obtain⟨vb,vl,rd⟩:=x2.z.reads;obtain⟨vph,r1,r2,r3⟩:=read rd;simp[rd.cb,r3,r1,r2.len]) ?_ ?_
 ·rintro _ k h2 hlt x2 K2 hK2;obtain⟨W,o,g,w,f⟩:=x2;obtain⟨vb,vl,lb,bb⟩:=w.box;have rd:=w.reads bb;obtain⟨vph,r1,r2,r3⟩:=read rd;have r4:aj (vw h2) (((slA vph).add (k*2)).add 0)=QB (Qy Qz (nth m.blocks ai).phis[k].dst):=((r2.at hlt).part PhiD.qR).int;have i64:=((r2.at hlt).part PhiD.qR).rng;have r5:Bn.ev (.idx 2) vph (Qy Qz k)=QB (QE (QB ((slA vph).add (k*2)))):=by have:=r2.idxn (N:=2) rfl (k:=.i64) (i:=k) Q1 Q1;simpa using this
  simp only[aL];refine bz (vw h2) Qw ?_;simp[rd.cl,rd.cb,r3,r1,r4,r5];refine jz (α:=Int) (W:=W) (d:=(nth m.blocks ai).phis[k].dst) El.bn rfl (dJ.2 ⟨rfl,i64⟩) λu5 h5 src hle5 hs5=>⟨hle5,?_⟩;have w5:Mk s M vs W h5 o (m.cI (lv++((nth m.blocks ai).phis.take k).map PhiD.dst)):=⟨w.own.ext' hle5,w.src,w.box⟩;refine w5.zn bb src (by show(lv++_).length+1<=_;simp;omega) rfl rfl (λ_=>rfl) (λ_=>rfl) λv h6 o6 w6 f6=>?_;refine hK2 () _ _ rfl rfl ⟨W,o6,g,?_,λk hk=>(f6 k hk).trans (f k hk)⟩;rw[Np hlt,Ov,<-List.append_assoc];exact w6
 rintro _ h2 x2;rw[NQ]at x2;exact hQ h2 x2
end
theorem BA{l:List InsD}:(l.flatMap bm).length<=2*l.length:=by
 induction l with
 | nil=>simp
 | cons a l ih=>
  have:(bm a).length<=2:=by
   unfold bm;repeat' split
   all_goals simp
  simp only[OH,M3,N2];omega
section
variable{s:List Int}{M:Nat}{vs:Value}{W0:View}{h:Heap}{o0:Own}{m:MS}
variable{vd va:Value}
theorem Fp{a p i ai:Nat}{t:Nat}{lv:List Int}(x:Nx s M vs W0 h o0 (m.cI lv))(z:Sz n a p i m)(hai:ai<n)(hn:n<=100)(hl:lv.length<=100000)(hi:i<=100000)(h0:bh [2,3,4,5,7,11,12,13,15,19,21] ρ=[(2,vr),(3,QT M),(4,Qy Qz n),(5,vt),(7,vp),(11,vd),(12,Qy Qz t),(13,Qy Qz b),(15,va),(19,Qy Qz ai),(21,Qy Qz 0)])(hQ : ∀h':Heap,Nx s M vs W0 h' o0 (m.cI (lv++(nth m.blocks ai).ins.flatMap bm))->Q .normal [(2,vr),(3,QT M),(4,Qy Qz n),(5,vt),(7,vp),(11,vd),(12,Qy Qz t),(13,Qy Qz b),(15,va),(19,Qy Qz ai),(21,Qy Qz (nth m.blocks ai).ins.length)] h'):
  LC.wp QH (.block 20 (.loop L.az.l11)) Q ρ h:=by
 have hil:=z.ins ai;have hlen:ai<m.blocks.length:=by rw[z.len];exact hai
 simp only[aL];have read : ∀{h2:Heap} {lv2:List Int} {vb vl:Value},Reads M (m.cI lv2) h2 vb vl->∃vi,aj (vw h2) (((slA vb).add (ai*6)).add 1)=QB vi/\SlRd (vw h2) vi (nth m.blocks ai).ins/\Bn.ev (.idx 6) vb (Qy Qz ai)=QB (QE (QB ((slA vb).add (ai*6)))):=by intro h2 lv2 vb vl rd;have hb:=rd.blk;have hl2:ai<(m.cI lv2).blocks.length:=hlen;obtain⟨vi,h1⟩:=((hb.at hl2).part BlkD.pP).sl;have h2:=h1.2;have e:(m.cI lv2).blocks[ai]=nth m.blocks ai:=(ao hl2).symm;rw[e]at h2;exact⟨vi,h1.1,h2,by have:=hb.idxn (N:=6) rfl (k:=.i64) (i:=ai) Q1 Q1;simpa using this⟩
 refine dq [2,3,4,5,7,11,12,13,15,19,21] (fun(_:Unit) k=>[vr,QT M,Qy Qz n,vt,vp,vd,Qy Qz t,Qy Qz b,va,Qy Qz ai,Qy Qz k]) (λ_ k h2=>Nx s M vs W0 h2 o0 (m.cI (lv++((nth m.blocks ai).ins.take k).flatMap bm))) (nth m.blocks ai).ins.length ()
  rfl Q1 h0 (by simpa using x) (λ_ _=>rfl) (λv k h2 hk2 x2=>by obtain⟨vb,vl,rd⟩:=x2.z.reads;obtain⟨vi,r1,r2,r3⟩:=read rd;simp[rd.cb,r3,r1,r2.len]) ?_ ?_
 ·rintro _ k h2 hlt x2 K2 hK2;obtain⟨vb,vl,rd⟩:=x2.z.reads;obtain⟨vi,r1,r2,r3⟩:=read rd;obtain⟨ux,hux,huxr⟩:=r2.wh rfl (N:=5) rfl hlt;have r5:Bn.ev (.idx 5) vi (Qy Qz k)=QB (QE (QB ((slA vi).add (k*5)))):=by have:=r2.idxn (N:=5) rfl (k:=.i64) (i:=k) Q1 Q1;simpa using this
  simp only[aL];refine ab λy hy=>?_;simp[rd.cb,r3,r1,r5,hux _ Qw];refine ag Q0 (oX huxr) ?_;rintro um h3 ⟨hle3,hum,-⟩;clear rd r1 r2 r3 r5 hux;obtain⟨W,o,g,w,f⟩:=x2;have w3:=w.own.ext hle3;have hW3:=bE (h':=h3) w.own.wle;have hum:=hum.mono (jd W h2 h3);generalize grow W h2 h3=W3 at w3 hW3 hum;have w4:Mk s M vs W3 h3 o (m.cI (lv++((nth m.blocks ai).ins.take k).flatMap bm)):=⟨w3,w.src.mono hW3,w.box⟩;obtain⟨vb,vl,lb,bb⟩:=w4.box;have rd:=w4.reads bb;subst hy;simp[rd.cl];have hfl:=BA (l:=(nth m.blocks ai).ins.take k);have hml:(bm (nth (nth m.blocks ai).ins k)).length<=2:=by
   unfold bm;repeat' split
   all_goals simp
  refine w4.zn bb (hum.src w3.wle) (by show(lv++_).length+_<=_;simp at hfl ⊢;omega) rfl rfl (λ_=>rfl) (λ_=>rfl) λv h6 o6 w6 f6=>?_;refine hK2 () _ _ rfl rfl ⟨W3,o6,Qx g hW3,?_,λk hk=>(f6 k hk).trans (f k hk)⟩;rw[Np hlt,NR,Qn,<-List.append_assoc,<-ao hlt];exact w6
 rintro _ h2 x2;rw[NQ]at x2;exact hQ h2 x2
variable{dn:BL}{away:List BL}
theorem Et{a p i:Nat}(z:Sz n a p i m){ai:Nat}{l:List Int}:(iuq m dn away b ai l).length<=l.length+p+2*i:=by
 unfold iuq;split
 ·omega
 have h1:=z.phis ai;have h2:=z.ins ai;have h3:=BA (l:=(nth m.blocks ai).ins);simp only[M3,Nr];omega
theorem ox{n a p i:Nat}(z:Sz n a p i m){dn:BL}{away:List BL}{b:Nat}{l:List Int} : ∀k,(up (iuq m dn away b) k l).length<=l.length+(p+2*i)*k
 | 0=>MY _
 | k+1=>by have:=ox z (dn:=dn) (away:=away) (b:=b) (l:=l) k;have h2:=Et z (dn:=dn) (away:=away) (b:=b) (ai:=k) (l:=up (iuq m dn away b) k l);show(iuq m dn away b k (up (iuq m dn away b) k l)).length<=_;rw[OW];omega
theorem Ia{a p i:Nat}{t:Nat}{l0:List Int}(x:Nx s M vs W0 h o0 (m.cI l0))(z:Sz n a p i m)(hd:o0 (6,0)=it T.bool vd dn)(sa:SlRd W0 va away)(hb:b<n)(hdn:dn.length=n)(hal:away.length=n)(har : ∀i,i<n->(nth away i).length=n)(hn:n<=10)(hl:l0.length<=10)(hp:p<=1000)(hi:i<=3000)(h0:bh [2,3,4,5,7,11,12,13,15,19] ρ=[(2,vr),(3,QT M),(4,Qy Qz n),(5,vt),(7,vp),(11,vd),(12,Qy Qz t),(13,Qy Qz b),(15,va),(19,Qy Qz 0)])(hQ : ∀h':Heap,Nx s M vs W0 h' o0 (m.cI (up (iuq m dn away b) n l0))->Q .normal [(2,vr),(3,QT M),(4,Qy Qz n),(5,vt),(7,vp),(11,vd),(12,Qy Qz t),(13,Qy Qz b),(15,va),(19,Qy Qz n)] h'):
  LC.wp QH (.block 16 (.loop L.az.l9)) Q ρ h:=by
 simp only[aL];refine dq [2,3,4,5,7,11,12,13,15,19] (fun(_:Unit) k=>[vr,QT M,Qy Qz n,vt,vp,vd,Qy Qz t,Qy Qz b,va,Qy Qz k]) (λ_ k h2=>Nx s M vs W0 h2 o0 (m.cI (up (iuq m dn away b) k l0))) n ()
  rfl Q1 h0 x (λ_ _=>rfl) (λv k h2 hk2 x2=>by simp) ?_ ?_
 ·rintro _ k h2 hlt x2 K2 hK2;have e2:up (iuq m dn away b) (k+1) l0=iuq m dn away b k (up (iuq m dn away b) k l0):=rfl;rw[e2]at hK2;have hll:=ox z (dn:=dn) (away:=away) (b:=b) (l:=l0) k;have hll:(up (iuq m dn away b) k l0).length<=80000:=by have:(p+2*i)*k<=7000*10:=OD Q1 Q1;omega
  generalize up (iuq m dn away b) k l0=lv at x2 hK2 hll;have hla:iuq m dn away b k lv=_:=iuq.eq_1 m dn away b k lv;have sd:=x2.z.at Q2 hd;have sa2:=sa.mono x2.z.le;obtain⟨rv,hrv⟩:=sa2.rows;obtain⟨ha1,ha2⟩:=hrv k Q1;have hal2:=har k hlt;simp only[aL];refine ab λy hy=>?_;have fin : ∀ρ,Lft.look ρ 2=QB vr->Lft.look ρ 3=QB (QT M)->Lft.look ρ 4=QB (Qy Qz n)->Lft.look ρ 5=QB vt->Lft.look ρ 7=QB vp->Lft.look ρ 11=QB vd->Lft.look ρ 12=QB (Qy Qz t)->Lft.look ρ 13=QB (Qy Qz b)->Lft.look ρ 15=QB va->Lft.look ρ 19=QB (Qy Qz k)->(decide (k≠b)&&(!nth dn k||nth (nth away k) b))=QG->
    LC.wp QH y (dU 17 (fN K2 (dU 16 Q))) ρ h2:=by
   intro ρ r2 r3 r4 r5 r7 r11 r12 r13 r15 r19 hc;subst hy;rw[if_neg (by rw[hc];simp)]at hla;refine ab λy hy=>?_;refine ab λw hw=>?_;simp;subst hw;refine Hz (vr:=vr) (vt:=vt) (vp:=vp) (vd:=vd) (va:=va) (t:=t) (b:=b) (ai:=k) x2 z hlt Q1 Q1 Q1 ?_ λh3 x3=>?_
   ·simp[bh,ar,au,r2,r3,r4,r5,r7,r11,r12,r13,r15,r19]
   simp;subst hy;refine ab λw hw=>?_;simp;subst hw;have hph:=z.phis k;refine Fp (vr:=vr) (vt:=vt) (vp:=vp) (vd:=vd) (va:=va) (t:=t) (b:=b) (ai:=k) x3 z hlt Q1 Q8 Q1 ?_ λh4 x4=>?_
   ·simp[bh,ar,au]
   simp;refine hK2 () _ _ rfl rfl (by rw[hla];exact x4)
  refine ab λw hw=>?_;by_cases c:k=b
  ·subst c;simp;subst hw;refine aV Sb ?_;simp;refine fin _ ?_ ?_ ?_ ?_ ?_ ?_ ?_ ?_ ?_ ?_ Sb;all_goals simp
  have c':¬((k:Int)=(b:Int)):=by omega
  cases hd2:nth dn k with
  | false=>simp(disch:=omega)[c,c',sd.idx1 rfl,sd.bool Qw,hd2];subst hw;refine aZ Sb ?_;simp;refine hK2 () _ _ rfl rfl ?_;rw[if_pos (by simp[c,hd2])]at hla;rw[hla];exact x2
  | true=>
   simp(disch:=omega)[c,c',sd.idx1 rfl,sd.bool Qw,hd2,sa2.idx1 rfl,ha1 _ Qw,ha2.idx1 rfl,ha2.bool Qw];subst hw;cases hw2:nth (nth away k) b with
   | true=>refine aZ (by simp[hw2]) ?_;simp;refine hK2 () _ _ rfl rfl ?_;rw[if_pos (by simp[c,hd2,hw2])]at hla;rw[hla];exact x2
   | false=>refine aV (by simp[hw2]) ?_;simp;refine fin _ ?_ ?_ ?_ ?_ ?_ ?_ ?_ ?_ ?_ ?_ (by simp[c,hd2,hw2]);all_goals simp
 rintro _ h2 x2;exact hQ h2 x2
end
structure B2(n a p:Nat)(x:BL × MS):Prop where
 z:Sz n a p 700 x.2
 len:x.1.length=n
 none : ∀j,j<n->nth x.1 j=QG->(nth x.2.blocks j).ins.length=0
variable{dn:BL}{away:List BL}
theorem xQ{a p:Nat}{m:MS}(z:Sz n a p 700 m)(hn:n<=10)(hp:p<=100):(lF m dn away b n).length<=15100:=by have:=ox z (dn:=dn) (away:=away) (b:=b) (l:=rows (λi=>(i:Int)) m.ps.toNat) n;rw[nB]at this;have h2:(p+2*700)*n<=1500*10:=OD Q1 hn;have:=z.ps1;unfold lF;omega
theorem pN{m:MS}{j:Nat}{t:cK}(hb:b<m.blocks.length):nth (m.ff b t).blocks j=if b=j then{ nth m.blocks b with term:=t } else nth m.blocks j:=by
 show nth (m.blocks.set b _) j=_;rcases M0 j m.blocks.length with hl | hl
 ·rw[aK hl]
 rw[aW (by simpa using hl),aW hl,if_neg Q1]
variable{to:List (List Int)}
theorem CC{s:List Int}{a p:Nat}{m:MS}(z:Sz n a p 700 m)(hb:b<n)(h0:(nth m.blocks b).ins.length=0)(hn:n<=10)(hp:p<=100)(ha:16000<=a):
  Sz n (a+600) p 700 (jn s to n dn away b m)/\∀j,j≠b->(nth (jn s to n dn away b m).blocks j).ins=(nth m.blocks j).ins:=by
 have hll:=xQ (dn:=dn) (away:=away) (b:=b) z hn hp;have ht:=bc (s:=s) (at_:=m.at_) (n:=7) Q2;have hbl:b<m.blocks.length:=by rw[z.len];exact hb
 obtain⟨m1,hm1⟩ : ∃m1:MS,m1=MS.took { m with live:=lF m dn away b n }:=⟨_,rfl⟩;have z1:Sz n (a+1) p 700 m1:=by rw[hm1];exact Sz.took ⟨z.at_,z.n0,z.next,by show(lF m dn away b n).length<=_;omega,z.ps0,z.ps1,z.len,z.phis,z.ins⟩
 have hl1:m1.live.length<=15100:=by rw[hm1];exact hll
 have e1 : ∀j,nth m1.blocks j=nth m.blocks j:=λj=>by rw[hm1];rfl
 have hb1:b<m1.blocks.length:=by rw[z1.len];exact hb
 have g:=((Grw.refl (b:=b) (m:=m1)).eA (s:=s) hb1 (aB s m.at_ 7).toNat).GW (s:=s) (to:=nth to b) hb1;have g:=g.mono (l:=520) Q1;have e:jn s to n dn away b m=mU s (nth to b) b (up (λ_=>aF s b) (aB s m.at_ 7).toNat m1):=by rw[hm1];rfl
 rw[e];unfold mU;generalize eN s (nth to b) b (up (λ_=>aF s b) (aB s m.at_ 7).toNat m1)=r at g;have hbr:b<r.2.blocks.length:=by rw[g.len];exact hb1
 have hown:=g.ins;rw[e1,h0]at hown;refine⟨⟨?_,?_,?_,?_,?_,?_,?_,λj=>?_,λj=>?_⟩,λj hj=>?_⟩
 ·show r.2.at_<=_;have:=g.at1;have:=z1.at_;omega
 ·show 0<=r.2.next;have:=g.n0;have:=z1.n0;omega
 ·show r.2.next<=_;have:=g.n1;have:=z1.next;omega
 ·show r.2.live.length<=_;have:=g.live;omega
 ·show 0<=r.2.ps;rw[g.ps];exact z1.ps0
 ·show r.2.ps<=4;rw[g.ps];exact z1.ps1
 ·show(r.2.blocks.set b _).length=n;rw[Nq,g.len];exact z1.len
 ·rw[pN hbr];split
  ·rename_i e;subst e;show(nth r.2.blocks b).phis.length<=_;rw[g.phis];exact z1.phis b
  rename_i e;rw[g.els j (λq=>e q.symm)];exact z1.phis j
 ·rw[pN hbr];split
  ·rename_i e;subst e;show(nth r.2.blocks b).ins.length<=_;omega
  rename_i e;rw[g.els j (λq=>e q.symm)];exact z1.ins j
 rw[pN hbr,if_neg (λq=>hj q.symm),g.els j hj,e1]
theorem rR{s:List Int}{a p:Nat}{x:BL × MS}(q:B2 n a p x)(hb:b<n)(hn:n<=10)(hp:p<=100)(ha:16000<=a)(h0:og x.1 (jR x.2.f n) b n=QF->nth x.1 b=QG):B2 n (a+600) p (aN s to n b x):=by
 unfold aN;split
 ·rename_i hr;obtain⟨z2,e2⟩:=CC (s:=s) (to:=to) (dn:=x.1.set b QF) (away:=jR x.2.f n) q.z hb (q.none b hb (h0 hr)) hn hp ha;refine⟨z2,by show(x.1.set b QF).length=n;rw[Nq];exact q.len,λj hj h=>?_⟩;have h:nth (x.1.set b QF) j=false:=h;rw[aK (by rw[q.len];exact hj)]at h;split at h
  ·cases h
  rename_i e;show(nth (jn _ _ _ _ _ _ _).blocks j).ins.length=0;rw[e2 j (λr=>e r.symm)];exact q.none j hj h
 exact⟨q.z.mono Q1 (MY _) (MY _),q.len,q.none⟩
theorem HJ{f:Nat->Bool} : ∀(n:Nat) (r:Bool),up (λa r=>r&&f a) n r=QF->r=QF
 | 0,r,h=>h
 | n+1,r,h=>by have h:(up (λa r=>r&&f a) n r&&f n)=true:=h;simp only[M8]at h;exact HJ n r h.1
theorem nk(h:og dn away b n=QF):nth dn b=false:=by unfold og at h;have:=HJ _ _ h;simpa using this
section
variable{s:List Int}{M:Nat}{vs:Value}{W0:View}{h:Heap}{o0:Own}{m:MS}
variable{vd va:Value}
theorem Fs{k c:Nat}{t:Nat}(x:Nx s M vs W0 h o0 m)(hfree:o0 (9,0)=QC)(hm:m.ok c)(hc:c<=100000)(hk:k<=100)(hb:b<m.blocks.length)(h0:bh [2,3,4,5,7,11,12,13,15,23,24] ρ=[(2,vr),(3,QT M),(4,Qy Qz n),(5,vt),(7,vp),(11,vd),(12,Qy Qz t),(13,Qy Qz b),(15,va),(23,Qy Qz k),(24,Qy Qz 0)])(hQ : ∀h':Heap,Nx s M vs W0 h' o0 (up (λ_=>aF s b) k m)->Q .normal [(2,vr),(3,QT M),(4,Qy Qz n),(5,vt),(7,vp),(11,vd),(12,Qy Qz t),(13,Qy Qz b),(15,va),(23,Qy Qz k),(24,Qy Qz k)] h'):
  LC.wp QH (.block 22 (.loop L.az.l12)) Q ρ h:=by
 have oks : ∀j,(up (λ_=>aF s b) j m).ok (c+80*j)/\(up (λ_=>aF s b) j m).blocks.length=m.blocks.length:=by
  intro j;induction j with
  | zero=>exact⟨hm,rfl⟩
  | succ j ih=>exact⟨(ih.1.gW (s:=s) (b:=b)).mono Q1,(oz (s:=s) (b:=b)).trans ih.2⟩
 simp only[aL];refine dq [2,3,4,5,7,11,12,13,15,23,24] (fun(_:Unit) j=>[vr,QT M,Qy Qz n,vt,vp,vd,Qy Qz t,Qy Qz b,va,Qy Qz k,Qy Qz j]) (λ_ j h2=>Nx s M vs W0 h2 o0 (up (λ_=>aF s b) j m)) k ()
  rfl Q1 h0 x (λ_ _=>rfl) (λv k h2 hk2 x2=>by simp) ?_ ?_
 ·rintro _ j h2 hlt x2 K2 hK2;obtain⟨q1,q2⟩:=oks j;have e2:up (λ_=>aF s b) (j+1) m=aF s b (up (λ_=>aF s b) j m):=rfl;rw[e2]at hK2;generalize up (λ_=>aF s b) j m=m2 at x2 hK2 q1 q2;simp only[aL];simp;refine ag Q0 (wY x2 (b:=b) Q1 q1 Q1 hfree) ?_;rintro _ h3 x3;exact hK2 () _ _ rfl rfl x3
 rintro _ h2 x2;exact hQ h2 x2
end
theorem Nx.up{s:List Int}{W:View}{h:Heap}{m:MS}(x:Nx s M vs W h o0 m)(hW:W0.le W):Nx s M vs W0 h o0 m:=by obtain⟨W',o,g,w,f⟩:=x;exact⟨W',o,Qx hW g,w,f⟩
theorem Nx.re{s:List Int}{W:View}{h:Heap}{o0':Own}{m:MS}(x:Nx s M vs W h o0 m)(he : ∀k,o0' k=o0 k):Nx s M vs W h o0' m:=by obtain⟨W',o,g,w,f⟩:=x;exact⟨W',o,g,w,λk hk=>(f k hk).trans (he k).symm⟩
theorem Nx.kf{po:OP}{s:List Int}{M:Nat}{vs:Value}{W0:View}{h:Heap}{o0:Own}{m:MS}{α:Type}[r:Rep α]{ty e t:TypeId}{us:List (Nat × Value)}{k:Key}{bytes:Nat}{z:Value}{K:Value->Heap->Prop}(x:Nx s M vs W0 h o0 m)(h3:3<=k.1)(hk:o0 k=QC)(hT:eG QH t e (Rep.n α) bytes z)
  (hK : ∀v h',v.oneCell'=QF->Nx s M vs W0 h' (o0.upd k (it e v ([]:List α))) m->K v h'):@Lft.step po QH (.buildSlice t 0 #[]) ty us h K:=by
 obtain⟨W,o,g,w,f⟩:=x;refine w.own.kf (k:=k) (α:=α) ((f k h3).trans hk) hT λv h2 hle2 hv w2 _=>hK v h2 hv ?_;obtain⟨vb,vl,lb,bb⟩:=w.box;refine⟨W,_,g,⟨w2,w.src,vb,vl,lb,bb.frame λq hq=>Own.af (by rintro rfl;omega)⟩,λq hq=>?_⟩;unfold Own.upd;split
 ·rfl
 exact f q hq
variable{ty2:TypeId}
theorem Nx.HG{po2:OP}{s:List Int}{h:Heap}{m:MS}{us2:Value->List (Nat × Value)}{c1 c2:Operand}{K:Value->Value->Heap->Prop}(x:Nx s M vs W0 h o0 m)(hc1 : ∀v,asg (us2 v) c1 = QE (QB ⟨M,5,QC⟩))(hc2 : ∀v,asg (us2 v) c2=v)(hK : ∀v h',Nx s M vs W0 h' o0 (m.cI [])->K v undef h'):@Lft.step po QH (.buildSlice T.bn 0 #[]) ty us h λv h2=>@Lft.step po2 QH (.store T.bn c1 c2) ty2 (us2 v) h2 λw h3=>K v w h3:=by
 obtain⟨W,o,g,w,f⟩:=x;obtain⟨vb,vl,lb,bb⟩:=w.box;have w1:=w.own.sub (o':=o.upd (0,1) QC) λj i hj=>by
  unfold Own.upd at hj;split at hj
  ·cases hj
  exact hj
 refine w1.kf (k:=(0,1)) (α:=Int) Own.ah El.bn λv h2 hle2 hv w2 _=>?_;have w2:=w2.congr (o':=o.upd (0,1) (it T.int v ([]:List Int))) λq=>by unfold Own.upd;split<;>rfl
 refine w2.bG (k:=(0,0)) (n:=5) (i:=5) (e:=T.aT) (B:=M) (l:=mkL vs m.at_ m.ps vb m.next vl) ((Own.af Sb).trans bb.box) Q2 Q0 (hc1 v) (hc2 v) hv λh3 w3 _=>?_;refine hK v h3 ⟨W,_,g,⟨w3,w.src,vb,v,lb,⟨rfl,rfl,(Own.af Sb).trans ((Own.af Sb).trans bb.blk),bb.len,bb.term,λi hi=>?_,λi hi=>?_⟩⟩,λk hk=>?_⟩
 ·exact(Own.af Sb).trans ((Own.af Sb).trans (bb.phis i hi))
 ·exact(Own.af Sb).trans ((Own.af Sb).trans (bb.ins i hi))
 rw[Own.af (by rintro rfl;simp at hk),Own.af (by rintro rfl;simp at hk)];exact f k hk
section
variable{s:List Int}{M:Nat}{vs:Value}{W0:View}{h:Heap}{o0:Own}{m:MS}
variable{vd:Value}
theorem HU{a p:Nat}{t:Nat}{x0:BL × MS}(x:Nx s M vs W0 h (o0.upd (6,0) (it T.bool vd x0.1)) x0.2)(hto:SlRd W0 vt to)(htl:to.length=n)(f7:o0 (7,0)=QC)(f90:o0 (9,0)=QC)(f91:o0 (9,1)=QC)(q:B2 n a p x0)(hn:n<=10)(hp:p<=100)(ha:16000<=a)(ha2:a<=90000)(h0:bh [2,3,4,5,7,11,12,13] ρ=[(2,vr),(3,QT M),(4,Qy Qz n),(5,vt),(7,vp),(11,vd),(12,Qy Qz t),(13,Qy Qz 0)])(hQ : ∀h':Heap,Nx s M vs W0 h' (o0.upd (6,0) (it T.bool vd (up (aN s to n) n x0).1)) (up (aN s to n) n x0).2->Q .normal [(2,vr),(3,QT M),(4,Qy Qz n),(5,vt),(7,vp),(11,vd),(12,Qy Qz t),(13,Qy Qz n)] h'):
  LC.wp QH (.block 8 (.loop L.az.l5)) Q ρ h:=by
 have oks : ∀j,j<=n->B2 n (a+600*j) p (up (aN s to n) j x0):=by
  intro j;induction j with
  | zero=>intro _;exact q
  | succ j ih=>intro hj;have:=rR (s:=s) (to:=to) (b:=j) (ih Q1) Q1 hn hp Q1 λh=>nk h;exact⟨this.z.mono Q1 (MY _) (MY _),this.len,this.none⟩
 simp only[aL];refine dq [2,3,4,5,7,11,12,13] (fun(_:Unit) j=>[vr,QT M,Qy Qz n,vt,vp,vd,Qy Qz t,Qy Qz j]) (λ_ j h2=>Nx s M vs W0 h2 (o0.upd (6,0) (it T.bool vd (up (aN s to n) j x0).1)) (up (aN s to n) j x0).2) n ()
  rfl Q1 h0 x (λ_ _=>rfl) (λv k h2 hk2 x2=>by simp) ?_ ?_
 ·rintro _ b h2 hlt x2 K2 hK2;have q2:=oks b Q1;have e2:up (aN s to n) (b+1) x0=aN s to n b (up (aN s to n) b x0):=rfl;rw[e2]at hK2;generalize up (aN s to n) b x0=y at x2 hK2 q2;obtain⟨dn,m⟩:=y;have x2:Nx s M vs W0 h2 (o0.upd (6,0) (it T.bool vd dn)) m:=x2;have z:Sz n (a+600*b) p 700 m:=q2.z;have hdn:dn.length=n:=q2.len;have hbs:aN s to n b (dn,m)=_:=aN.eq_1 s to n b (dn,m);simp only at hbs;have sd:=x2.z.at Q2 Own.ah;simp only[aL];refine ab λy hy=>?_;simp(disch:=omega)[sd.idx1 rfl,sd.bool Qw];subst hy;refine ab λy hy=>?_;simp;refine x2.kf (k:=(7,0)) (α:=BL) Q2 ((Own.af Sb).trans f7) El.vc λva h3 hva x3=>?_;clear sd;subst hy;refine ab λy hy=>?_;refine ab λw hw=>?_;simp;subst hw;refine H6 (vr:=vr) (vt:=vt) (vp:=vp) (vd:=vd) (t:=t) (b:=b) (r:=!nth dn b) x3 ((Own.af Sb).trans f7) z Q1 (by simp[bh,ar,au]) λh4 W4 va hW4 x4 sa=>?_;clear x3 hva x2;have hal:(jR m.f n).length=n:=by unfold jR;simp
  have har : ∀i,i<n->(nth (jR m.f n) i).length=n:=λi hi=>by unfold jR;rw[eF hi,sE];exact z.len
  generalize jR m.f n=away at sa hbs hal har;simp;subst hy;refine ab λy hy=>?_;refine ab λw hw=>?_;simp;subst hw;have sd:=x4.z.at Q2 Own.ah;refine IJ (M:=M) (n:=n) (b:=b) (vr:=vr) (vt:=vt) (vp:=vp) (vd:=vd) (va:=va) (t:=t) (r:=!nth dn b) sd (sa.mono x4.z.le) hlt hdn hal har Q1 (by simp[bh,ar,au]) ?_;have hrd:up (λa r=>r&&(decide (a=b)||nth dn a||nth (nth away a) b)) n (!nth dn b)=og dn away b n:=rfl;rw[hrd];simp;subst hy;refine ab λy hy=>?_;refine ab λw hw=>?_;simp;subst hw;cases hr:og dn away b n with
  | false=>rw[hr]at hbs;rw[if_neg Sb]at hbs;refine aZ Sb ?_;simp;refine hK2 () _ _ rfl rfl ?_;rw[hbs];exact x4.up hW4
  | true=>
   rw[hr]at hbs;rw[if_pos rfl]at hbs;have hnb:=nk hr;have hib:=q2.none b hlt hnb;refine aV Sb ?_;simp;subst hy;refine ab λy hy=>?_;simp(disch:=omega)[sd.idx1 rfl];refine x4.z.xc (k:=(6,0)) (α:=Bool) (i:=b) (d:=true) rfl Q2 Own.ah Q1 Q0 rfl rfl (λW=>zr.2 rfl) λh5 n5=>?_;have x5:Nx s M vs W4 h5 (o0.upd (6,0) (it T.bool vd (dn.set b QF))) m:=n5.x.re λq=>by rw[iR]
   clear n5 x4 sd;subst hy;refine ab λy hy=>?_;simp;refine x5.HG (λ_=>rfl) (λ_=>rfl) λv6 h6 x6=>?_;subst hy;obtain⟨c,hc⟩ : ∃c:Nat,m.ps=c:=⟨m.ps.toNat,by have:=z.ps0;omega⟩;have hc4:c<=4:=by have:=z.ps1;omega
   refine ab λy hy=>?_;refine ab λw hw=>?_;simp;subst hw;refine H5 (n:=n) (b:=b) (vr:=vr) (vt:=vt) (vp:=vp) (vd:=vd) (va:=va) (t:=t) (r:=true) x6 z hc (by simp[bh,ar,au]) λh7 x7=>?_;simp;subst hy;refine ab λy hy=>?_;refine ab λw hw=>?_;simp;subst hw;refine Ia (n:=n) (b:=b) (vr:=vr) (vt:=vt) (vp:=vp) (vd:=vd) (va:=va) (t:=t) (dn:=dn.set b QF) (away:=away) x7 z Own.ah sa hlt (by rw[Nq];exact hdn) hal har hn Q8 Q1 Q1 (by simp[bh,ar,au]) λh8 x8=>?_;have hlv:up (iuq m (dn.set b QF) away b) n (rows (λi=>(i:Int)) c)=lF m (dn.set b QF) away b n:=by unfold lF;rw[hc];rfl
   rw[hlv]at x8;have hll:=xQ (dn:=dn.set b QF) (away:=away) (b:=b) z hn hp;have hdo:jn s to n (dn.set b QF) away b m=mU s (nth to b) b (up (λ_=>aF s b) (aB s m.at_ 7).toNat (MS.took (m.cI (lF m (dn.set b QF) away b n)))):=rfl;rw[hdo]at hbs;obtain⟨m1,hm1⟩ : ∃m1,m1=m.cI (lF m (dn.set b QF) away b n):=⟨_,rfl⟩;have z1:Sz n (a+600*b) p 700 m1:=by rw[hm1];exact⟨z.at_,z.n0,z.next,by show(lF _ _ _ _ _).length<=_;omega,z.ps0,z.ps1,z.len,z.phis,z.ins⟩
   have ea:m.at_=m1.at_:=by rw[hm1];rfl
   rw[<-hm1]at x8 hbs;rw[ea]at hbs;clear hlv hdo hm1 ea x7 x6 x5;simp;subst hy;refine ab λy hy=>?_;simp;refine ag Q0 (eZ x8.z (z1.ok Q1) Q1 (k:=7) Q2 Q2) ?_;rintro _ h9 ⟨rfl,n9⟩;obtain⟨t0,t1⟩:=bc (s:=s) (at_:=m1.at_) (n:=7) Q2;generalize aB s m1.at_ 7=kk at hbs t0 t1;obtain⟨k,rfl⟩ : ∃k:Nat,kk=k:=⟨kk.toNat,by omega⟩;rw[show((k:Int)).toNat=k by omega]at hbs;subst hy;refine ab λy hy=>?_;refine ab λw hw=>?_;simp;subst hw;have zok:=(z1.took).ok (show 700<=_ by omega);refine Fs (n:=n) (b:=b) (k:=k) (c:=a+600*b+1) (vr:=vr) (vt:=vt) (vp:=vp) (vd:=vd) (va:=va) (t:=t) n9.x ((Own.af Sb).trans f90) zok Q1 Q1 (by show b<m1.blocks.length;rw[z1.len];exact hlt) (by simp[bh,ar,au]) λh10 x10=>?_;have oks2 : ∀j,(up (λ_=>aF s b) j m1.took).ok (a+600*b+1+80*j)/\(up (λ_=>aF s b) j m1.took).blocks.length=n:=by
    intro j;induction j with
    | zero=>exact⟨zok,z1.len⟩
    | succ j ih=>exact⟨(ih.1.gW (s:=s) (b:=b)).mono Q1,(oz (s:=s) (b:=b)).trans ih.2⟩
   obtain⟨k1,k2⟩:=oks2 k;generalize up (λ_=>aF s b) k m1.took=m2 at x10 hbs k1 k2;obtain⟨rv,hrv⟩:=hto.rows;obtain⟨hr1,hr2⟩:=hrv b Q1;have ito:=(hto.mono hW4).mono x10.z.le;simp;subst hy;simp(disch:=omega)[ito.idx1 rfl,hr1 _ (Qx hW4 x10.z.le)];refine ag Q0 (Ks x10 (b:=b) Q1 k1 Q1 ((Own.af Sb).trans f91) (hr2.mono hW4)) ?_;rintro _ h11 x11;refine hK2 () _ _ rfl rfl ?_;rw[hbs];exact x11.up hW4
 rintro _ h2 x2;exact hQ h2 x2
end
section
structure GdB(x:BlkD):Prop where
 ins : ∀i∈x.ins,i.args.length<=10
 args:x.term.args.length<=10
 to:x.term.to.length<=1000
 phis : ∀p∈x.phis,p.ins.length<=1000
def Gd(m:MS):Prop:=∀j,j<m.blocks.length->GdB (nth m.blocks j)
variable{s:List Int}{m:MS}{b:Nat}
theorem Gd.took(g:Gd m):Gd m.took:=g
theorem Gd.aH(g:Gd m):Gd m.aH:=g
theorem Gd.bj(g:Gd m){x:BlkD}(hx:b<m.blocks.length->GdB x):Gd { m with blocks:=m.blocks.set b x }:=λj hj=>by
 have hj:j<m.blocks.length:=by simpa using hj
 show GdB (nth (m.blocks.set b x) j);rw[aK hj];split
 ·rename_i e;exact hx Q1
 exact g j hj
theorem Gd.add(g:Gd m){i:InsD}(hi:i.args.length<=10):Gd (m.add b i):=by
 have:=g.bj (b:=b) (x:={ nth m.blocks b with ins:=(nth m.blocks b).ins++[i] }) λhb=>⟨λj hj=>by
  rcases M1.1 hj with h | h
  ·exact(g b hb).ins j h
  rw[MZ]at h;rw[h];exact hi,(g b hb).args,(g b hb).to,(g b hb).phis⟩;exact this
theorem Gd.constant(g:Gd m){n:Int}:Gd (m.constant b n):=g.aH.add (by show 0<=10;omega)
theorem Gd.two(g:Gd m){op x y:Int}:Gd (m.two b op x y):=g.aH.add (by show 2<=10;omega)
theorem Gd.aE(g:Gd m):Gd (aE s m b).2:=by
 unfold Go.Lft.aE;repeat' split
 ·exact g.took.took.constant
 ·exact g.took.took.took.took.took.constant
 exact g.took.took.took
theorem Gd.addr(g:Gd m):Gd (jw s m b).2:=by
 unfold jw;simp only;split
 ·exact g.took.constant.took.aE.constant.two.two
 exact g.took.constant.took
theorem Gd.off(g:Gd m):Gd (offS s m).2:=by
 unfold offS;split
 ·exact g.took.took.took.took
 exact g.took.took
theorem Gd.memory(g:Gd m){st:Bool}:Gd (iL s m b st):=by
 unfold iL;simp only;split
 ·exact g.addr.off.aE.add (by show 2<=10;omega)
 exact g.addr.off.aH.add (by show 1<=10;omega)
theorem Gd.bin(g:Gd m){op:Int}:Gd (binS s m b op):=by
 unfold binS;simp only;split
 ·exact g.aE.aE.took.took.constant.two
 exact g.aE.aE.took.two
theorem Gd.div(g:Gd m):Gd (divS s m b):=by
 unfold divS;simp only;split
 ·exact g.aE.took.constant.took.took.constant.two
 exact g.aE.took.constant.took.two
theorem Gd.args{x:List Int × MS}(g:Gd x.2) : ∀n,Gd (up (fI s b) n x).2/\(up (fI s b) n x).1.length=x.1.length+n
 | 0=>⟨g,rfl⟩
 | n+1=>⟨(Gd.args g n).1.aE,by show((up (fI s b) n x).1++[_]).length=_;rw[M3,(Gd.args g n).2,M6];omega⟩
theorem Gd.call(g:Gd m):Gd (mT s m b):=by unfold mT;simp only;have ht:=bc (s:=s) (at_:=m.at_) (n:=5) Q2;obtain⟨g2,l2⟩:=Gd.args (s:=s) (b:=b) (x:=([],m.took)) g.took (aB s m.at_ 5).toNat;refine g2.aH.took.add ?_;show(up (fI s b) (aB s m.at_ 5).toNat ([],m.took)).1.length<=10;rw[l2];simp;omega
theorem Gd.gW(g:Gd m):Gd (aF s b m):=by
 unfold aF;simp only;repeat' split
 ·exact g.took.bin
 ·unfold ltuS;exact g.took.aE.aE.two
 ·exact g.took.div
 ·exact g.took.memory
 ·exact g.took.call
 ·unfold sy;exact g.took.aE.aE.aH.aH.add (by show 2<=10;omega)
 exact g.took.took.took.constant
theorem Gd.eA(g:Gd m) : ∀n,Gd (up (λ_=>aF s b) n m)
 | 0=>g
 | n+1=>(Gd.eA g n).gW
theorem Gd.LX(g:Gd m){to:List Int}(ht:to.length<=1000):Gd (mU s to b m):=by
 have h:Gd (eN s to b m).2/\(eN s to b m).1.args.length<=10/\(eN s to b m).1.to.length<=1000:=by
  unfold eN;simp only;repeat' split
  ·exact⟨g.took.took,by show 0<=10;omega,by show 0<=1000;omega⟩
  ·exact⟨g.took.aE,by show 1<=10;omega,by show 0<=1000;omega⟩
  ·exact⟨g.took,by show 0<=10;omega,by show 0<=1000;omega⟩
  ·exact⟨g,by show 0<=10;omega,ht⟩
  ·exact⟨g.aE.took.aE.aH.took.add (by show 2<=10;omega),by show 1<=10;omega,ht⟩
  ·exact⟨g.aE.took,by show 1<=10;omega,ht⟩
  exact⟨g.aE.constant.two,by show 1<=10;omega,ht⟩
 obtain⟨h1,h2,h3⟩:=h;exact h1.bj λhb=>⟨(h1 b hb).ins,h2,h3,(h1 b hb).phis⟩
theorem Gd.gV(g:Gd m){l:List Int}(hl:l.length<=1000):Gd (m.gV b l):=g.bj λhb=>⟨(g b hb).ins,(g b hb).args,hl,(g b hb).phis⟩
theorem Gd.dc(g:Gd m):Gd (Go.Lft.dc b m):=by
 have:=g.aH.bj (b:=b) (x:={ nth m.blocks b with phis:=(nth m.blocks b).phis++[⟨m.next,[]⟩] }) λhb=>⟨(g b hb).ins,(g b hb).args,(g b hb).to,λp hp=>by
  rcases M1.1 hp with h | h
  ·exact(g b hb).phis p h
  rw[MZ]at h;rw[h];show 0<=1000;omega⟩;exact this
theorem Gd.lL(g:Gd m) : ∀n,Gd (up (λ_=>Go.Lft.dc b) n m)
 | 0=>g
 | n+1=>(Gd.lL g n).dc
theorem Gd.ju(g:Gd m){i:Nat}{l:List InD}(hl:l.length<=1000):Gd (m.ju b i l):=g.bj λhb=>⟨(g b hb).ins,(g b hb).args,(g b hb).to,λp hp=>by
 rcases Ps hp with h | h
 ·exact(g b hb).phis p h
 rw[h];exact hl⟩
theorem Gd.smF{a p i:Nat}(g:Gd m)(z:Sz n a p i m)(hn:n<=10000)(hp:p<=10000)(hi:i<=10000):SmF m.f:=by refine⟨by show m.blocks.length<=_;rw[z.len];exact hn,λj hj=>?_⟩;have hj:j<m.blocks.length:=hj;have h:=g j hj;have e:nth m.f.blocks j=nth m.blocks j:=rfl;rw[e];exact⟨NB (z.phis j) hp,NB (z.ins j) hi,by have:=h.args;omega,by have:=h.to;omega,λk hk=>by have:=h.phis _ (bD hk);omega,λk hk=>by have:=h.ins _ (bD hk);omega⟩
theorem vV{f:aq} : ∀n,∀t∈thTo f n,t.mks.length<=1000
 | 0,t,h=>by cases h
 | n+1,t,h=>by
  rw[fJ]at h;rcases M1.1 h with h | h
  ·exact vV n t h
  unfold thB at h;simp only[M1,MZ,rows,ND,N0]at h;rcases h with(⟨i,_,rfl⟩ | ⟨i,_,rfl⟩) | rfl
  ·show 1<=1000;omega
  ·show(bm _).length<=1000;unfold bm;repeat' split
   all_goals simp
  show 0<=1000;omega
theorem Ak{n a p i:Nat}(z:Sz n a p i m) : ∀k,(thTo m.f k).length<=(p+i+1)*k
 | 0=>MY _
 | k+1=>by have h1:=Ak z k;have h2:=z.phis k;have h3:=z.ins k;have e:nth m.f.blocks k=nth m.blocks k:=rfl;rw[fJ,M3,OW];unfold thB;simp only[M3,nB,M6,e];omega
theorem sN{a p i:Nat}(z:Sz n a p i m)(hn:n<=10)(hp:p<=1000)(hi:i<=3000):(aS m.f).length<=60000:=by
 have h1:=Ak z n;have h2:(p+i+1)*n<=5000*10:=OD Q1 hn;have e:aS m.f=thTo m.f n:=by unfold aS;rw[show m.f.blocks.length=n from z.len]
 rw[e];omega
theorem wz{a p i:Nat}(z:Sz n a p i m)(hn:n<=10)(hp:p<=1000)(hi:i<=3000):(gP m.f b).length<=70000000:=by
 have h:=xM (l:=aS m.f) (f:=m.f) (b:=b) (c:=1000) (vV _) (out:=rows (λi=>(i:Int)) m.f.params.toNat);have h2:=sN z hn hp hi;have h3:m.f.params.toNat<=4:=by have:=z.ps1;show m.ps.toNat<=4;omega
 rw[nB]at h;have e:gP m.f b=(aS m.f).foldl (dZ m.f b) (rows (λi=>(i:Int)) m.f.params.toNat):=rfl;rw[e];omega
end
structure P3(n a p i:Nat)(m:MS):Prop where
 z:Sz n a p i m
 g:Gd m
theorem P3.mono{n a p i a' p' i':Nat}{m:MS}(q:P3 n a p i m)(h1:a<=a')(h2:p<=p')(h3:i<=i'):P3 n a' p' i' m:=⟨q.z.mono h1 h2 h3,q.g⟩
theorem Sz.const{a p i:Nat}{m:MS}{k:Int}(z:Sz n a p i m):Sz n (a+3) p (i+1) (m.constant b k):=by have h1:Sz n (a+3) p (i+1) { m.aH with live:=m.live++bm (conD m.next k) }:=⟨by have:=z.at_;show m.at_<=_;omega,by have:=z.n0;show 0<=m.next+1;omega,by have:=z.next;show m.next+1<=_;omega,by have:=z.live;show(m.live++[m.next]).length<=_;rw[M3,M6];omega,z.ps0,z.ps1,z.len,z.phis,λj=>by have:=z.ins j;show(nth m.blocks j).ins.length<=_;omega⟩;exact h1.bj (b:=b) (x:={ nth m.blocks b with ins:=(nth m.blocks b).ins++[conD m.next k] }) (z.phis b) (by have:=z.ins b;show((nth m.blocks b).ins++[_]).length<=_;rw[M3,M6];omega)
theorem Sz.ju{n a p i b j:Nat}{m:MS}{l:List InD}(z:Sz n a p i m):Sz n a p i (m.ju b j l):=
 z.bj (by show((nth m.blocks b).phis.set j _).length<=_;rw[Nq];exact z.phis b) (z.ins b)
def rowS(s:List Int)(b:Nat)(m:MS):List Int × MS:=if(gP m.f b).length=0 then([m.next],m.took.took.constant b (fo s m)) else(gP m.f b,m)
theorem Bo{s:List Int}{m:MS}:0<(rowS s b m).1.length:=by
 unfold rowS;split
 ·show 0<1;omega
 show 0<(gP m.f b).length;omega
theorem GI{s:List Int}{a p i:Nat}{m:MS}(z:Sz n a p i m)(hn:n<=10)(hp:p<=1000)(hi:i<=3000):(rowS s b m).1.length<=70000000:=by
 unfold rowS;split
 ·show 1<=70000000;omega
 exact wz z hn hp hi
theorem DN{s:List Int}{a p i:Nat}{m:MS}(q:P3 n a p i m):P3 n (a+5) p (i+1) (rowS s b m).2:=by
 unfold rowS;split
 ·exact⟨(q.z.took.took.const).mono Q1 (MY _) (MY _),q.g.took.took.constant⟩
 exact q.mono Q1 (MY _) Q1
theorem EL{s:List Int}{p:List Int}{k:Nat}{x:List InD × MS}(h:nth p k=b):bQ s p k x=(x.1++[⟨b,nth (rowS s b x.2).1 (aB s (rowS s b x.2).2.at_ (rowS s b x.2).1.length).toNat⟩],(rowS s b x.2).2.took):=by unfold bQ;rw[h];rfl
theorem kB{s:List Int}{n a p i:Nat}{pl:List Int}{x:List InD × MS}(q:P3 n a p i x.2) : ∀k,P3 n (a+6*k) p (i+k) (up (bQ s pl) k x).2/\(up (bQ s pl) k x).1.length=x.1.length+k
 | 0=>⟨q,rfl⟩
 | k+1=>by
  obtain⟨h1,h2⟩:=kB (pl:=pl) q k;have h3:=DN (s:=s) (b:=(nth pl k).toNat) h1;refine⟨?_,?_⟩
  ·have e:(up (bQ s pl) (k+1) x).2=(rowS s (nth pl k).toNat (up (bQ s pl) k x).2).2.took:=rfl;rw[e];exact⟨(h3.z.took).mono Q1 (MY _) Q1,h3.g.took⟩
  have e:(up (bQ s pl) (k+1) x).1=(up (bQ s pl) k x).1++[⟨nth pl k,nth (rowS s (nth pl k).toNat (up (bQ s pl) k x).2).1 (aB s (rowS s (nth pl k).toNat (up (bQ s pl) k x).2).2.at_ (rowS s (nth pl k).toNat (up (bQ s pl) k x).2).1.length).toNat⟩]:=rfl;rw[e,M3,h2,M6];omega
variable{pl:List Int}
theorem Is{s:List Int}{a p i j:Nat}{m:MS}(q:P3 n a p i m)(hp:pl.length<=9):P3 n (a+54) p (i+9) (phi3 s b pl j m):=by obtain⟨h1,h2⟩:=kB (s:=s) (pl:=pl) (x:=([],m)) q pl.length;exact⟨(h1.z.ju).mono Q1 (MY _) Q1,h1.g.ju (by rw[h2];show 0+_<=_;omega)⟩
theorem oh{s:List Int}{n a p i b:Nat}{pl:List Int}{m:MS}(q:P3 n a p i m)(hp:pl.length<=9) : ∀k,P3 n (a+54*k) p (i+9*k) (up (phi3 s b pl) k m)
 | 0=>q
 | k+1=>(Is (oh q hp k) hp).mono Q1 (MY _) Q1
theorem Kf{H:View}{a b:Int}(ha:I64 a)(hb:I64 b):Rd H (.agg #[Qy Qz a,Qy Qz b]) (InD.mk a b):=⟨_,rfl,[Qy Qz a],[Qy Qz b],rfl,⟨rfl,ha⟩,rfl,hb⟩
section
variable{s:List Int}{M:Nat}{vs:Value}{W0:View}{h:Heap}{o0:Own}{m:MS}
theorem Nx.Ih(x:Nx s M vs W0 h o0 m){h':Heap}{k:Key}{u:Value}{l:List Int}(h3:3<=k.1)(hk:o0 k=QC)(hle:(vw h).le (vw h'))(hb : ∀b,u.ownBlock=QB b->h.size<=b)(ho:OwnT nothing h' T.int u l):Nx s M vs W0 h' (o0.upd k (it T.int u l)) m:=by
 obtain⟨W,o,g,w,f⟩:=x;have w2:=w.own.add (k:=k) ((f k h3).trans hk) (Ab (W':=W) ho) hle hb;obtain⟨vb,vl,lb,bb⟩:=w.box;refine⟨W,_,g,⟨w2,w.src,vb,vl,lb,bb.frame λq hq=>Own.af (by rintro rfl;omega)⟩,λq hq=>?_⟩;unfold Own.upd;split
 ·rfl
 exact f q hq
theorem Nx.freeze{α:Type}[r:Rep α]{k:Key}{e:TypeId}{v:Value}{l:List α}(x:Nx s M vs W0 h (o0.upd k (it e v l)) m)(h3:3<=k.1)(hk:o0 k=QC) : ∃W',W0.le W'/\Nx s M vs W' h o0 m/\SlRd W' v l:=by
 obtain⟨W,o,g,w,f⟩:=x;have hk2:=(f k h3).trans Own.ah;obtain⟨w2,sl⟩:=w.own.freeze hk2;have hWp:=kS (h:=h) (w.own.av _ _ hk2);obtain⟨vb,vl,lb,bb⟩:=w.box;refine⟨_,Qx g hWp,⟨_,_,View.le_refl _,⟨w2,w.src.mono hWp,vb,vl,lb,bb.frame λq hq=>Own.af (by rintro rfl;omega)⟩,λq hq=>?_⟩,sl⟩;by_cases e2:q=k
 ·rw[e2,Own.ah,hk]
 rw[Own.af e2,f q hq,Own.af e2]
theorem Nx.iN{po po2:OP}{α:Type}[r:Rep α]{k:Key}{e t ty ty2:TypeId}{bytes:Nat}{z:Value}{v:Value}{l:List α}(x:Nx s M vs W0 h o0 m)(h3:3<=k.1)(hk:o0 k=it e v l){a y y2:Operand}{us:List (Nat × Value)}{us2:Value->List (Nat × Value)}{u:Value}{d:α}{K:Value->Value->Heap->Prop}(hT:eG QH t e (Rep.n α) bytes z)(hx:asg us a=u)(hr : ∀W,Rd W u d)
  (hb:(l.length+1)*bytes<=140737488355328) (hb2:l.length+1<=140737488355328) (hy : ∀u,asg (us2 u) y=v) (hy2 : ∀u,asg (us2 u) y2=u)
  (hK : ∀u v' h',Nx s M vs W0 h' (o0.upd k (it e v' (l++[d]))) m->K u v' h') :
  @Lft.step po QH (.buildSlice t 1 #[(0,a)]) ty us h λu h2=>@Lft.step po2 QH (.call ⟨.builtin .append,#[y,y2],#[t,t]⟩) ty2 (us2 u) h2 λv' h3=>K u v' h3:=by
 obtain⟨W,o,g,w,f⟩:=x;refine w.own.iN (k:=k) (d:=d) ((f k h3).trans hk) hT hx (hr W) hb hb2 hy hy2 λu v' h' w2 _=>hK u v' h' ?_;obtain⟨vb,vl,lb,bb⟩:=w.box;refine⟨W,_,g,⟨w2,w.src,vb,vl,lb,bb.frame λq hq=>Own.af (by rintro rfl;omega)⟩,λq hq=>?_⟩;unfold Own.upd;split
 ·rfl
 exact f q hq
variable{vd:Value}
theorem G7{a p i j:Nat}{vq vi:Value}(x:Nx s M vs W0 h (o0.upd (7,2) (it T.dK vi ([]:List InD))) m)(f71:o0 (7,1)=QC)(q:P3 n a p i m)(hn:n<=10)(ha:a<=500000)(hia:i<=a)(hp:p<=100)(hi:i<=2000)(hq:SlRd W0 vq pl)(hpl:pl.length<=9)(hpr : ∀k,k<pl.length->∃c:Nat,nth pl k=c/\c<n)(h0:bh [2,3,4,5,7,11,25,26,27,28,29] ρ=[(2,vr),(3,QT M),(4,Qy Qz n),(5,vt),(7,vp),(11,vd),(25,Qy Qz b),(26,vq),(27,Qy Qz j),(28,vi),(29,Qy Qz 0)])(hQ : ∀(h':Heap) vi,Nx s M vs W0 h' (o0.upd (7,2) (it T.dK vi (up (bQ s pl) pl.length ([],m)).1)) (up (bQ s pl) pl.length ([],m)).2->Q .normal [(2,vr),(3,QT M),(4,Qy Qz n),(5,vt),(7,vp),(11,vd),(25,Qy Qz b),(26,vq),(27,Qy Qz j),(28,vi),(29,Qy Qz pl.length)] h'):
  LC.wp QH (.block 28 (.loop L.az.l15)) Q ρ h:=by
 simp only[aL];refine dq [2,3,4,5,7,11,25,26,27,28,29] (fun(vi:Value) k=>[vr,QT M,Qy Qz n,vt,vp,vd,Qy Qz b,vq,Qy Qz j,vi,Qy Qz k]) (λvi k h2=>Nx s M vs W0 h2 (o0.upd (7,2) (it T.dK vi (up (bQ s pl) k ([],m)).1)) (up (bQ s pl) k ([],m)).2) pl.length vi
  rfl Q1 h0 x (λ_ _=>rfl) (λv k h2 hk2 x2=>by simp[hq.len]) ?_ ?_
 ·rintro vi k h2 hlt x2 K2 hK2;obtain⟨q2,hl2⟩:=kB (s:=s) (pl:=pl) (x:=([],m)) q k;obtain⟨c,hc,hcn⟩:=hpr k hlt;have e2:up (bQ s pl) (k+1) ([],m)=bQ s pl k (up (bQ s pl) k ([],m)):=rfl;rw[e2,EL hc]at hK2;have hl2:(up (bQ s pl) k ([],m)).1.length<=9:=by rw[hl2];simp;omega
  generalize up (bQ s pl) k ([],m)=y at x2 hK2 q2 hl2;obtain⟨il,m2⟩:=y;have q2:P3 n (a+54) p (i+9) m2:=P3.mono q2 Q1 (MY _) Q1;have hl2:il.length<=9:=hl2;have x2:Nx s M vs W0 h2 (o0.upd (7,2) (it T.dK vi il)) m2:=x2;simp only at hK2;have hcell : ∀{h':Heap},W0.le (vw h')->aj (vw h') ((slA vq).add k)=QB (Qy Qz c):=λg=>by rw[hq.int g hlt,hc]
  have hcell0:aj W0 ((slA vq).add k)=QB (Qy Qz c):=by rw[hq.int Qw hlt,hc]
  have hrow:rowS s c m2=_:=rowS.eq_1 s c m2;have hq3:=DN (s:=s) (b:=c) q2;have hpos:=Bo (s:=s) (b:=c) (m:=m2);have hrl0:=GI (s:=s) (b:=c) q2.z hn Q1 Q1;simp only[aL];refine ab λy hy=>?_;obtain⟨vb,vl,rd⟩:=x2.z.reads;refine bz (vw h2) Qw ?_;simp(disch:=omega)[rd.f,(hq.mono x2.z.le).idx1 rfl,hcell x2.z.le];have hth:(aS m2.f).length<=60000:=sN q2.z hn Q1 Q1;refine ag Q0 (AJ (b:=c) (rd.rd (Hg q2.z)) (q2.g.smF q2.z Q1 Q1 Q1) ⟨q2.z.ps0,by have:=q2.z.ps1;show m2.ps<=_;omega⟩ (by show c<m2.blocks.length;rw[q2.z.len];exact hcn) (vV _) Q1) ?_;rintro u3 h3 ⟨hle3,hb3,ho3⟩;have x3:=x2.Ih (k:=(7,1)) Q2 ((Own.af Sb).trans f71) hle3 hb3 ho3;clear rd x2 ho3 hb3;generalize gP m2.f c=sl at x3 hrow;subst hy;refine ab λy hy=>?_;have fin : ∀(v30:Value) (h':Heap) (ρ:Env),Nx s M vs W0 h' ((o0.upd (7,2) (it T.dK vi il)).upd (7,1) (it T.int v30 (rowS s c m2).1)) (rowS s c m2).2->Lft.look ρ 2=QB vr->Lft.look ρ 3=QB (QT M)->Lft.look ρ 4=QB (Qy Qz n)->Lft.look ρ 5=QB vt->Lft.look ρ 7=QB vp->Lft.look ρ 11=QB vd->Lft.look ρ 25=QB (Qy Qz b)->Lft.look ρ 26=QB vq->Lft.look ρ 27=QB (Qy Qz j)->Lft.look ρ 28=QB vi->Lft.look ρ 29=QB (Qy Qz k)->Lft.look ρ 30=QB v30->
    LC.wp QH y (dU 29 (fN K2 (dU 28 Q))) ρ h':=by
   intro v30 h' ρ x4 r2 r3 r4 r5 r7 r11 r25 r26 r27 r28 r29 r30;subst hy;generalize rowS s c m2=r at x4 hK2 hq3 hpos hrl0;obtain⟨W4,hW4,x4,s4⟩:=x4.freeze Q2 ((Own.af Sb).trans f71);have hrl:=s4.bound;refine bz W4 x4.z.le ?_;simp(disch:=omega)[ar,au,r2,r3,r4,r5,r7,r11,r25,r26,r27,r28,r29,r30,(hq.mono hW4).idx1 rfl,ae hW4 hcell0,s4.len];refine ag Q0 (eZ x4.z (hq3.z.ok Q1) Q1 (k:=(r.1.length:Int)) Q1 Q1) ?_;rintro _ h5 ⟨rfl,n5⟩;refine⟨n5.le,?_⟩;obtain⟨t0,t1⟩:=bc (s:=s) (at_:=r.2.at_) (n:=(r.1.length:Int)) Q1;generalize aB s r.2.at_ (r.1.length:Int)=tv at t0 t1 hK2;have hrng:=s4.range (i:=tv.toNat) Q1;simp(disch:=omega)[ar,au,r2,r3,r4,r5,r7,r11,r25,r26,r27,r28,r29,r30,s4.idx1 rfl,s4.int Qw];refine aQ (z:=zz1) (places:=zpc) (vs:=[(0,Qy Qz c),(1,Qy Qz (nth r.1 tv.toNat))]) (cs:=#[Qy Qz c,Qy Qz (nth r.1 tv.toNat)]) Q0 Q0 Sb Q0 ?_;refine n5.x.iN (k:=(7,2)) (α:=InD) (d:=⟨c,nth r.1 tv.toNat⟩) Q2 Own.ah El.jB rfl (λW=>Kf Q5 hrng) Q1 Q1 (λ_=>rfl) (λ_=>rfl) λu v' h6 x6=>?_;refine hK2 v' _ _ ?_ ?_ ((x6.re λq=>by rw[iR]).up hW4)
   ·simp[ar,au,r29]
   simp[bh,ar,au,r2,r3,r4,r5,r7,r11,r25,r26,r27,r28,r29]
  have hsl:=(x3.z.at (k:=(7,1)) Q2 Own.ah).len (K:=vw h3);have hlen3 : ∀{Q:View},Un.ev Q .len u3=QB (Qy Qz sl.length):=fun{Q}=>(x3.z.at (k:=(7,1)) Q2 Own.ah).len;refine ab λw hw=>?_;simp[hlen3];subst hw;by_cases c0:sl.length=0
  ·have c0':sl=[]:=Nl c0;rw[if_pos c0]at hrow;refine aZ (by simp[c0,c0']) ?_;refine bz W0 x3.z.le ?_;simp(disch:=omega)[hq.idx1 rfl,hcell0];refine ag Q0 (zk x3.z (q2.z.ok Q1) Q1) ?_;rintro _ h4 ⟨rfl,n4⟩;refine⟨n4.le,?_⟩;refine ag Q0 (gR n4 (b:=c) (by show c<m2.blocks.length;rw[q2.z.len];exact hcn) (q2.z.took.took.ok Q1) Q1 kN) ?_;rintro _ h5 ⟨rfl,n5⟩;have i64:I64 m2.next:=by have:=q2.z.n0;have:=q2.z.next;constructor<;>omega
   subst c0';refine n5.x.iN (k:=(7,1)) (α:=Int) (d:=m2.next) Q2 Own.ah El.bn rfl (λW=>dJ.2 ⟨rfl,i64⟩) Sb Sb (λ_=>rfl) (λ_=>rfl) λu v' h6 x6=>?_;refine fin v' h6 _ ?_ ?_ ?_ ?_ ?_ ?_ ?_ ?_ ?_ ?_ ?_ ?_ ?_
   ·rw[hrow];exact x6.re λq=>by rw[iR];rfl
   all_goals simp
  rw[if_neg c0]at hrow;have c0':¬sl=[]:=λe=>c0 (by rw[e];rfl);refine aV (by simp[c0']) ?_;simp;refine fin u3 h3 _ ?_ ?_ ?_ ?_ ?_ ?_ ?_ ?_ ?_ ?_ ?_ ?_ ?_
  ·rw[hrow];exact x3
  all_goals simp
 rintro vi h2 x2;exact hQ h2 vi x2
end
def Pc(lp:List Int)(m:MS):Prop:=∀j,((nth m.blocks j).phis.length:Int)=nth lp j
variable{lp:List Int}
theorem Pc.grw{m m':MS}{k:Nat}(p:Pc lp m)(g:Grw b k m m'):Pc lp m':=λj=>by
 by_cases e:j=b
 ·subst e;rw[g.phis];exact p j
 rw[g.els j e];exact p j
theorem Pc.bj{m:MS}{x:BlkD}(p:Pc lp m)(hx:x.phis.length=(nth m.blocks b).phis.length):Pc lp { m with blocks:=m.blocks.set b x }:=λj=>by
 show((nth (m.blocks.set b x) j).phis.length:Int)=_;rcases M0 j m.blocks.length with hl | hl
 ·rw[aK hl];split
  ·rename_i e;subst e;rw[hx];exact p b
  exact p j
 rw[aW (by simpa using hl)];have:=p j;rwa [aW hl]at this
theorem Pc.jn{s:List Int}{to:List (List Int)}{n b:Nat}{dn:BL}{away:List BL}{lp:List Int}{m:MS}(p:Pc lp m)(hb:b<m.blocks.length):Pc lp (jn s to n dn away b m):=by have p1:Pc lp (MS.took { m with live:=lF m dn away b n }):=p;have hb1:b<(MS.took { m with live:=lF m dn away b n }).blocks.length:=hb;have g:=((Grw.refl (b:=b) (m:=MS.took { m with live:=lF m dn away b n })).eA (s:=s) hb1 (aB s m.at_ 7).toNat).GW (s:=s) (to:=nth to b) hb1;exact(p1.grw g).bj rfl
theorem Pc.aN{s:List Int}{to:List (List Int)}{n b:Nat}{lp:List Int}{x:BL × MS}(p:Pc lp x.2)(hb:b<x.2.blocks.length):Pc lp (aN s to n b x).2:=by
 unfold Go.Lft.aN;split
 ·exact p.jn hb
 exact p
theorem Pc.rowS{s:List Int}{b:Nat}{lp:List Int}{m:MS}(p:Pc lp m)(hb:b<m.blocks.length):Pc lp (rowS s b m).2:=by
 unfold Go.Lft.rowS;split
 ·have p1:Pc lp m.took.took:=p;exact p1.grw ((Grw.refl (b:=b) (m:=m.took.took)).constant hb)
 exact p
theorem EU{s:List Int}{m:MS}:(rowS s b m).2.blocks.length=m.blocks.length:=by
 unfold rowS;split
 ·exact dH
 rfl
theorem Pc.kB{s:List Int}{pl:List Int}{lp:List Int}{x:List InD × MS}(p:Pc lp x.2)(hb : ∀k,k<pl.length->(nth pl k).toNat<x.2.blocks.length) : ∀k,k<=pl.length->Pc lp (up (bQ s pl) k x).2/\(up (bQ s pl) k x).2.blocks.length=x.2.blocks.length
 | 0,_=>⟨p,rfl⟩
 | k+1,h=>by obtain⟨h1,h2⟩:=Pc.kB (s:=s) p hb k Q1;have e:(up (bQ s pl) (k+1) x).2=(Go.Lft.rowS s (nth pl k).toNat (up (bQ s pl) k x).2).2.took:=rfl;rw[e];exact⟨h1.rowS (by rw[h2];exact hb k Q1),(nA).trans (EU.trans h2)⟩
theorem Pc.phi3{s:List Int}{b j:Nat}{pl:List Int}{lp:List Int}{m:MS}(p:Pc lp m)(hb : ∀k,k<pl.length->(nth pl k).toNat<m.blocks.length):Pc lp (phi3 s b pl j m)/\(phi3 s b pl j m).blocks.length=m.blocks.length:=by obtain⟨h1,h2⟩:=Pc.kB (s:=s) (pl:=pl) (x:=([],m)) p hb pl.length (MY _);exact⟨h1.bj Sb,by show(List.set _ _ _).length=_;rw[Nq];exact h2⟩
theorem Pc.oh{s:List Int}{b:Nat}{pl:List Int}{lp:List Int}{m:MS}(p:Pc lp m)(hb : ∀k,k<pl.length->(nth pl k).toNat<m.blocks.length) : ∀k,Pc lp (up (Go.Lft.phi3 s b pl) k m)/\(up (Go.Lft.phi3 s b pl) k m).blocks.length=m.blocks.length
 | 0=>⟨p,rfl⟩
 | k+1=>by obtain⟨h1,h2⟩:=Pc.oh (s:=s) (b:=b) p hb k;obtain⟨h3,h4⟩:=Pc.phi3 (s:=s) (b:=b) (j:=k) h1 (λk hk=>by rw[h2];exact hb k hk);exact⟨h3,h4.trans h2⟩
theorem we{p:Nat->Bool} : ∀(n:Nat) (v:Int),v∈sift p (λa=>(a:Int)) n->∃c:Nat,v=c/\c<n
 | 0,v,h=>by cases h
 | n+1,v,h=>by
  cases hp:p n with
  | true=>
   rw[nH hp]at h;rcases M1.1 h with h | h
   ·obtain⟨c,h1,h2⟩:=we n v h;exact⟨c,h1,by omega⟩
   rw[MZ]at h;exact⟨n,h,by omega⟩
  | false=>rw[mB hp]at h;obtain⟨c,h1,h2⟩:=we n v h;exact⟨c,h1,by omega⟩
theorem vX{p:Nat->Bool}(n k:Nat)(hk:k<(sift p (λa=>(a:Int)) n).length): ∃c:Nat,nth (sift p (λa=>(a:Int)) n) k=c/\c<n:=we n _ (bD hk)
section
variable{s:List Int}{M:Nat}{vs:Value}{W0:View}{h:Heap}{o0:Own}{m:MS}
theorem Nx.Lw{α:Type}[r:Rep α](x:Nx s M vs W0 h o0 m){h':Heap}{u:Value}{l:List α}(hle:(vw h).le (vw h'))(hs:SlRd (fresh h h') u l): ∃W',W0.le W'/\Nx s M vs W' h' o0 m/\SlRd W' u l:=by obtain⟨W,o,g,w,f⟩:=x;have hW:=bE (h':=h') w.own.wle;exact⟨_,Qx g hW,⟨_,o,View.le_refl _,⟨w.own.ext hle,w.src.mono hW,w.box⟩,f⟩,hs.mono (jd W h h')⟩
theorem Mk.L2{W:View}{o:Own}(w:Mk s M vs W h o m){vb vl:Value}{lb:List BlkM}(bb:MkB M vs m o vb vl lb){i:Nat}{l:List InD}{v:Value}{x y:Operand}{K:Value->Heap->Prop}(hb:b<m.blocks.length)(hi:i<(nth m.blocks b).phis.length)(hsz:dp QH ty2=QB 1)(hx:asg us x = QE (QB (((slA (nth lb b).phis.v).add (i*2)).add 1)))(hy:asg us y=v)(hr:SlRd W v l)(hK : ∀h' o',Mk s M vs W h' o' (m.ju b i l)->(∀k:Key,3<=k.1->o' k=o k)->K undef h'):@Lft.step po QH (.store ty2 x y) ty us h K:=by
 have hbl:b<lb.length:=by rw[bb.len];exact hb
 refine w.own.n8 (k:=(1,b)) (α:=PhiD) PhiD.pP (v:=(nth lb b).phis.v) (l:=(nth m.blocks b).phis) (i:=i) (d:=l) (bb.phis b hb) hsz hx hy hi (fG.2 hr) λh7 w7 _=>?_;have hs:lb.set b (nth lb b)=lb:=by rw[ao hbl];exact Oz hbl
 have b7:=bb.bj hb (x':={ nth m.blocks b with phis:=(nth m.blocks b).phis.set i { nth (nth m.blocks b).phis i with ins:=l } }) (y':=nth lb b) (o':=o.upd (1,b) (it T.dY (nth lb b).phis.v ((nth m.blocks b).phis.set i { (nth m.blocks b).phis[i]with ins:=l }))) (bb.term b hb) (by rw[hs,Own.af Sb];exact bb.blk) (by rw[Own.ah,ao hi]) (by rw[Own.af Sb];exact bb.ins b hb) (λq h1 h2 h3=>Own.af h2);rw[hs]at b7;exact hK h7 _ ⟨w7,w.src,vb,vl,lb,b7⟩ λk hk=>Own.af (by rintro rfl;simp at hk)
end
section
variable{s:List Int}{M:Nat}{vs:Value}{W0:View}{h:Heap}{o0:Own}{m:MS}
variable{vd:Value}
theorem FB{a p i cnt:Nat}{vq:Value}(x:Nx s M vs W0 h o0 m)(h5:o0 (5,0)=it T.int vp lp)(f71:o0 (7,1)=QC)(f72:o0 (7,2)=QC)(q:P3 n a p i m)(pc:Pc lp m)(hlp:lp.length=n)(hb:b<n)(hcnt:nth lp b=cnt)(hc3:cnt<=3)(hn:n<=10)(ha:a<=400000)(hia:i<=a)(hp:p<=100)(hi:i<=1900)(hq:SlRd W0 vq pl)(hpl:pl.length<=9)(hpr : ∀k,k<pl.length->∃c:Nat,nth pl k=c/\c<n)(h0:bh [2,3,4,5,7,11,25,26,27] ρ=[(2,vr),(3,QT M),(4,Qy Qz n),(5,vt),(7,vp),(11,vd),(25,Qy Qz b),(26,vq),(27,Qy Qz 0)])(hQ : ∀h':Heap,Nx s M vs W0 h' o0 (up (phi3 s b pl) cnt m)->Q .normal [(2,vr),(3,QT M),(4,Qy Qz n),(5,vt),(7,vp),(11,vd),(25,Qy Qz b),(26,vq),(27,Qy Qz cnt)] h'):
  LC.wp QH (.block 26 (.loop L.az.l14)) Q ρ h:=by
 simp only[aL];refine dq [2,3,4,5,7,11,25,26,27] (fun(_:Unit) k=>[vr,QT M,Qy Qz n,vt,vp,vd,Qy Qz b,vq,Qy Qz k]) (λ_ k h2=>Nx s M vs W0 h2 o0 (up (phi3 s b pl) k m)) cnt ()
  rfl Q1 h0 x (λ_ _=>rfl) (λv k h2 hk2 x2=>by have sp:=x2.z.at Q2 h5;have e:=sp.int Qw (i:=b) Q1;rw[hcnt]at e;simp(disch:=omega)[sp.idx1 rfl,e]) ?_ ?_
 ·rintro _ k h2 hlt x2 K2 hK2;have hpn : ∀j,j<pl.length->(nth pl j).toNat<m.blocks.length:=λj hj=>by obtain⟨c,h1,h2⟩:=hpr j hj;rw[h1,q.z.len];simpa using h2
  have q2:=(oh (s:=s) (b:=b) q hpl k).mono (a':=a+200) (p':=p) (i':=i+30) Q1 (MY _) Q1;obtain⟨pc2,hlen2⟩:=Pc.oh (s:=s) (b:=b) pc hpn k;have e2:up (phi3 s b pl) (k+1) m=phi3 s b pl k (up (phi3 s b pl) k m):=rfl;rw[e2]at hK2;generalize up (phi3 s b pl) k m=m2 at x2 hK2 q2 pc2 hlen2;have hpn2 : ∀j,j<pl.length->(nth pl j).toNat<m2.blocks.length:=λj hj=>by rw[hlen2];exact hpn j hj
  obtain⟨pc3,hlen3⟩:=Pc.kB (s:=s) (pl:=pl) (x:=([],m2)) pc2 hpn2 pl.length (MY _);simp only[aL];refine ab λy hy=>?_;simp;refine x2.kf (k:=(7,2)) (α:=InD) Q2 f72 El.jB λvi h3 hvi x3=>?_;subst hy;refine ab λy hy=>?_;refine ab λw hw=>?_;simp;subst hw;refine G7 (vr:=vr) (vt:=vt) (vp:=vp) (vd:=vd) (vq:=vq) (vi:=vi) (b:=b) (j:=k) x3 f71 q2 hn Q1 Q1 hp Q1 hq hpl hpr (by simp[bh,ar,au]) λh4 vi x4=>?_;obtain⟨W4,hW4,x4,s4⟩:=x4.freeze Q2 f72;have e3:phi3 s b pl k m2=(up (bQ s pl) pl.length ([],m2)).2.ju b k (up (bQ s pl) pl.length ([],m2)).1:=rfl;rw[e3]at hK2;have hb4:b<(up (bQ s pl) pl.length ([],m2)).2.blocks.length:=by rw[hlen3];show b<m2.blocks.length;rw[hlen2,q.z.len];exact hb
  have hph:((nth (up (bQ s pl) pl.length ([],m2)).2.blocks b).phis.length:Int)=cnt:=(pc3 b).trans hcnt;generalize up (bQ s pl) pl.length ([],m2)=r at x4 hK2 s4 hb4 hph;obtain⟨W,o,g,w,f⟩:=x4;obtain⟨vb,vl,lb,bb⟩:=w.box;have rd:=w.reads bb;have hbb:b<lb.length:=by rw[bb.len];exact hb4
  have sb:=w.own.now bb.blk;have sbb:=sb.bound;have c1:aj (vw h4) (((slA vb).add (b*6)).add 0)=QB (nth lb b).phis.v:=by have:=((sb.at hbb).part BlkM.oy).raw;rw[ao hbb];exact this
  have sph:=w.own.now (bb.phis b hb4);simp;subst hy;have r5:Bn.ev (.idx 2) (nth lb b).phis.v (Qy Qz k)=QB (QE (QB ((slA (nth lb b).phis.v).add (k*2)))):=by have:=sph.idxn (N:=2) rfl (k:=.i64) (i:=k) Q1 Q1;simpa using this
  simp(disch:=omega)[rd.cb,sb.idxn (N:=6) rfl,c1,r5];refine w.L2 bb (b:=b) (i:=k) (l:=r.1) hb4 Q1 Q0 rfl rfl (s4.mono g) λh5 o5 w5 f5=>?_;refine hK2 () _ _ rfl rfl ?_;exact⟨W,o5,Qx hW4 g,w5,λq hq=>(f5 q hq).trans (f q hq)⟩
 rintro _ h2 x2;exact hQ h2 x2
theorem I9{a p i k:Nat}{m:MS}(q:P3 n a p i m)(pc:Pc lp m)(hr : ∀j,nth lp j<=3)(hn:n<=9):P3 n (a+162) p (i+27) (blk3 s lp k m)/\Pc lp (blk3 s lp k m):=by
 have hpl:(aA m.f ((k+1:Nat):Int)).length<=n:=by have:=lh (p:=λa=>decide (((k+1:Nat):Int)∈(nth m.f.blocks a).term.to)) (x:=λa=>(a:Int)) m.f.blocks.length;rw[show m.f.blocks.length=n from q.z.len]at this;unfold aA;rw[show m.f.blocks.length=n from q.z.len];exact this
 have hpn : ∀j,j<(aA m.f ((k+1:Nat):Int)).length->(nth (aA m.f ((k+1:Nat):Int)) j).toNat<m.blocks.length:=λj hj=>by obtain⟨c,h1,h2⟩:=vX _ j hj;have h1:nth (aA m.f ((k+1:Nat):Int)) j=c:=h1;rw[h1];have h2:c<m.blocks.length:=h2;simpa using h2
 have h3:=hr (k+1);unfold blk3;exact⟨(oh q Q1 _).mono Q1 (MY _) Q1,(Pc.oh pc hpn _).1⟩
theorem zO{n a p i:Nat}{lp:List Int}{m:MS}(q:P3 n a p i m)(pc:Pc lp m)(hr : ∀j,nth lp j<=3)(hn:n<=9) : ∀k,P3 n (a+162*k) p (i+27*k) (up (blk3 s lp) k m)/\Pc lp (up (blk3 s lp) k m)
 | 0=>⟨q,pc⟩
 | k+1=>by obtain⟨h1,h2⟩:=zO q pc hr hn k;obtain⟨h3,h4⟩:=I9 (s:=s) (k:=k) h1 h2 hr hn;exact⟨h3.mono Q1 (MY _) Q1,h4⟩
theorem Hb{a p i:Nat}(x:Nx s M vs W0 h o0 m)(h5:o0 (5,0)=it T.int vp lp)(f71:o0 (7,1)=QC)(f72:o0 (7,2)=QC)(q:P3 n a p i m)(pc:Pc lp m)(hlp:lp.length=n)(hr : ∀j,0<=nth lp j/\nth lp j<=3)(hn1:1<=n)(hn:n<=9)(ha:a<=300000)(hia:i<=a)(hp:p<=100)(hi:i<=1000)(h0:bh [2,3,4,5,7,11,25] ρ=[(2,vr),(3,QT M),(4,Qy Qz n),(5,vt),(7,vp),(11,vd),(25,Qy Qz 1)])(hQ : ∀h':Heap,Nx s M vs W0 h' o0 (up (blk3 s lp) (n-1) m)->Q .normal [(2,vr),(3,QT M),(4,Qy Qz n),(5,vt),(7,vp),(11,vd),(25,Qy Qz n)] h'):
  LC.wp QH (.block 24 (.loop L.az.l13)) Q ρ h:=by
 simp only[aL];refine xl [2,3,4,5,7,11,25] (fun(_:Unit) k=>[vr,QT M,Qy Qz n,vt,vp,vd,Qy Qz ((k+1:Nat):Int)]) (λ_ k h2=>Nx s M vs W0 h2 o0 (up (blk3 s lp) k m)) (n-1) 1 ()
  rfl Q1 h0 x (λ_ _=>rfl) (λv k h2 hk2 m=>by simp;omega) ?_ ?_
 ·rintro _ k h2 hlt x2 K2 hK2;obtain⟨q2,pc2⟩:=zO (s:=s) q pc (λj=>(hr j).2) hn k;have e2:up (blk3 s lp) (k+1) m=blk3 s lp k (up (blk3 s lp) k m):=rfl;rw[e2]at hK2;generalize up (blk3 s lp) k m=m2 at x2 hK2 q2 pc2;have hb2:blk3 s lp k m2=_:=blk3.eq_1 s lp k m2;rw[hb2]at hK2;simp only[aL];refine ab λy hy=>?_;obtain⟨vb,vl,rd⟩:=x2.z.reads;simp[rd.f];refine ag Q0 (ud (b:=((k+1:Nat):Int)) (rd.rd (Hg q2.z)) (by show m2.blocks.length<=_;rw[q2.z.len];omega)) ?_;rintro vq h3 ⟨hle3,hq⟩;obtain⟨W3,hW3,x3,sq⟩:=x2.Lw hle3 hq;clear rd hq;have hpl:(aA m2.f ((k+1:Nat):Int)).length<=n:=by have:=lh (p:=λa=>decide (((k+1:Nat):Int)∈(nth m2.f.blocks a).term.to)) (x:=λa=>(a:Int)) m2.f.blocks.length;unfold aA;rw[show m2.f.blocks.length=n from q2.z.len]at this ⊢;exact this
  have hpr : ∀j,j<(aA m2.f ((k+1:Nat):Int)).length->∃c:Nat,nth (aA m2.f ((k+1:Nat):Int)) j=c/\c<n:=λj hj=>by obtain⟨c,h1,h2⟩:=vX _ j hj;exact⟨c,h1,by rw[show m2.f.blocks.length=n from q2.z.len]at h2;exact h2⟩
  generalize aA m2.f ((k+1:Nat):Int)=pl at sq hpl hpr hK2;obtain⟨r0,r1⟩:=hr (k+1);subst hy;refine ab λy hy=>?_;simp;subst hy;refine FB (vr:=vr) (vt:=vt) (vp:=vp) (vd:=vd) (vq:=vq) (b:=k+1) (cnt:=(nth lp (k+1)).toNat) x3 h5 f71 f72 q2 pc2 hlp Q1 Q1 Q1 Q1 Q1 Q1 hp Q1 sq Q1 hpr (by simp[bh,ar,au]) λh4 x4=>?_;simp;refine hK2 () _ _ rfl rfl (x4.up hW3)
 rintro _ h2 x2;have e:n-1+1=n:=by omega
 have:=hQ h2 x2;simpa[e]using this
theorem Co{a p:Nat}{x0:BL × MS}(q:B2 n a p x0)(hn:n<=10)(hp:p<=100)(ha:16000<=a): ∀j,j<=n->B2 n (a+600*j) p (up (aN s to n) j x0):=by
 intro j;induction j with
 | zero=>intro _;exact q
 | succ j ih=>intro hj;have:=rR (s:=s) (to:=to) (b:=j) (ih Q1) Q1 hn hp Q1 λh=>nk h;exact⟨this.z.mono Q1 (MY _) (MY _),this.len,this.none⟩
theorem HV{a p:Nat}{x0:BL × MS}(q:B2 n a p x0)(hn:n<=10)(hp:p<=100)(ha:16000<=a)(j:Nat):B2 n (a+600*n*j) p (up (λ_=>up (aN s to n) n) j x0):=by
 induction j with
 | zero=>exact q
 | succ j ih=>have:=Co (s:=s) (to:=to) ih hn hp Q1 n (MY _);exact⟨this.z.mono (by rw[OW];omega) (MY _) (MY _),this.len,this.none⟩
theorem Jg{a p:Nat}{x0:BL × MS}(x:Nx s M vs W0 h (o0.upd (6,0) (it T.bool vd x0.1)) x0.2)(hto:SlRd W0 vt to)(htl:to.length=n)(f7:o0 (7,0)=QC)(f90:o0 (9,0)=QC)(f91:o0 (9,1)=QC)(q:B2 n a p x0)(hn:n<=9)(hp:p<=100)(ha:16000<=a)(ha2:a<=30000)(h0:bh [2,3,4,5,7,11,12] ρ=[(2,vr),(3,QT M),(4,Qy Qz n),(5,vt),(7,vp),(11,vd),(12,Qy Qz 0)])(hQ : ∀h':Heap,Nx s M vs W0 h' (o0.upd (6,0) (it T.bool vd (up (λ_=>up (aN s to n) n) n x0).1)) (up (λ_=>up (aN s to n) n) n x0).2->Q .normal [(2,vr),(3,QT M),(4,Qy Qz n),(5,vt),(7,vp),(11,vd),(12,Qy Qz n)] h'):
  LC.wp QH (.block 6 (.loop L.az.l4)) Q ρ h:=by
 simp only[aL];refine dq [2,3,4,5,7,11,12] (fun(_:Unit) j=>[vr,QT M,Qy Qz n,vt,vp,vd,Qy Qz j]) (λ_ j h2=>Nx s M vs W0 h2 (o0.upd (6,0) (it T.bool vd (up (λ_=>up (aN s to n) n) j x0).1)) (up (λ_=>up (aN s to n) n) j x0).2) n ()
  rfl Q1 h0 x (λ_ _=>rfl) (λv k h2 hk2 x2=>by simp) ?_ ?_
 ·rintro _ t h2 hlt x2 K2 hK2;have q2:=HV (s:=s) (to:=to) q Q1 hp ha t;have hbd:600*n*t<=5400*9:=OD Q1 Q1;have e2:up (λ_=>up (aN s to n) n) (t+1) x0=up (aN s to n) n (up (λ_=>up (aN s to n) n) t x0):=rfl;rw[e2]at hK2;generalize up (λ_=>up (aN s to n) n) t x0=y at x2 hK2 q2;simp only[aL];refine ab λy hy=>?_;simp;subst hy;refine HU (vr:=vr) (vt:=vt) (vp:=vp) (vd:=vd) (t:=t) x2 hto htl f7 f90 f91 q2 Q1 hp Q1 Q1 (by simp[bh,ar,au]) λh3 x3=>?_;simp;exact hK2 () _ _ rfl rfl x3
 rintro _ h2 x2;exact hQ h2 x2
end
section
variable{s:List Int}
theorem eK:1<=aG s/\aG s<=9:=by have:=bc (s:=s) (at_:=1) (n:=9) Q2;unfold aG;omega
theorem D0:((aG s:Nat):Int)=1+aB s 1 9:=by have:=bc (s:=s) (at_:=1) (n:=9) Q2;unfold aG;omega
theorem A8:(uA s).ok 4:=by have:=bc (s:=s) (at_:=0) (n:=5) Q2;refine⟨by show 2<=4;omega,by show 0<=aB s 0 5;omega,by show aB s 0 5<=_;omega,by show 0<=4;omega,λi=>?_⟩;show(nth ([]:List BlkD) i).ins.length<=4;rw[aW Sb];show 0<=4;omega
theorem za:TgK (aG s) 112 (eW s):=by
 obtain⟨h1,h2⟩:=eK (s:=s);have k1:TgK (aG s) 4 (List.replicate (aG s) [],uA s):=⟨by simp,λi=>by
  rcases M0 i (aG s)with hi | hi
  ·rw[ay hi];show 0<=4;omega
  rw[aW (by simpa using hi)];show 0<=4;omega,A8⟩;exact(B1 (s:=s) (ze (s:=s) k1 (aG s-1)) (aG s)).mono Q1
def qI(m m':MS):Prop:=m'.ps=m.ps/\m'.blocks=m.blocks/\m'.next=m.next/\m'.live=m.live
theorem FI{m:MS}{k:Nat}{x:TgS}(h:qI m x.2):qI m (tgA s k x).2:=by unfold tgA;split<;>exact h
theorem FY{m:MS}{x:TgS}(h:qI m x.2):qI m (tgI s n b x).2:=by
 unfold tgI;simp only;repeat' split
 all_goals exact h
theorem G6{m:MS}{x:TgS}(h:qI m x.2):qI m (tgB s n b x).2:=
 tP (λx:TgS=>qI m x.2) (λ_ _ h=>FY h) _ _ h
theorem rB:qI (uA s) (eW s).2:=
 tP (λx:TgS=>qI (uA s) x.2) (λ_ _ h=>G6 h) _ _ (tP (λx:TgS=>qI (uA s) x.2) (λ_ _ h=>FI h) _ _ ⟨rfl,rfl,rfl,rfl⟩)
theorem AU{m:MS}{a n:Nat}{to:List (List Int)}(z:Sz n a 0 0 m)(g:Gd m)(pc : ∀j,(nth m.blocks j).phis.length=0)(ht : ∀j,(nth to j).length<=1000) : ∀k,Sz n a 0 0 (up (λb m=>MS.gV m b (nth to b)) k m)/\Gd (up (λb m=>MS.gV m b (nth to b)) k m)
 | 0=>⟨z,g⟩
 | k+1=>by obtain⟨h1,h2⟩:=AU z g pc ht k;exact⟨h1.bj (h1.phis k) (h1.ins k),h2.gV (ht k)⟩
theorem tH{j:Nat}:(nth (List.replicate n pt) j).phis.length=0/\(nth (List.replicate n pt) j).ins.length=0:=by
 rcases M0 j n with hj | hj
 ·rw[ay hj];exact⟨rfl,rfl⟩
 rw[aW (by simpa using hj)];exact⟨rfl,rfl⟩
theorem Bg:Sz (aG s) 200 0 0 (lI s)/\Gd (lI s):=by
 have k:=za (s:=s);have e:=rB (s:=s);have t:=bc (s:=s) (at_:=0) (n:=5) Q2;refine AU ⟨?_,?_,?_,?_,?_,?_,?_,λj=>?_,λj=>?_⟩ (λj hj=>?_) (λj=>(tH).1) (λj=>by have:=k.row j;omega) _
 ·show(eW s).2.at_<=200;have:=k.ok.at_;omega
 ·exact k.ok.n0
 ·show(eW s).2.next<=_;have:=k.ok.next;omega
 ·show(eW s).2.live.length<=200;have:=k.ok.live;omega
 ·show 0<=(eW s).2.ps;rw[e.1];show 0<=aB s 0 5;omega
 ·show(eW s).2.ps<=4;rw[e.1];show aB s 0 5<=4;omega
 ·show(List.replicate (aG s) pt).length=_;simp
 ·show(nth (List.replicate (aG s) pt) j).phis.length<=0;rw[(tH).1];omega
 ·show(nth (List.replicate (aG s) pt) j).ins.length<=0;rw[(tH).2];omega
 have hj:j<aG s:=by simpa using hj
 show GdB (nth (List.replicate (aG s) pt) j);rw[ay hj];exact⟨λi h=>(by cases h),by show 0<=10;omega,by show 0<=1000;omega,λi h=>(by cases h)⟩
theorem pH{m:MS}{b:Nat}(hb:b<m.blocks.length) : ∀c j,(nth (up (λ_=>dc b) c m).blocks j).phis.length=(nth m.blocks j).phis.length+(if j=b then c else 0)/\(up (λ_=>dc b) c m).blocks.length=m.blocks.length
 | 0,j=>⟨by show(nth m.blocks j).phis.length=_;split<;>omega,rfl⟩
 | c+1,j=>by
  obtain⟨h1,h2⟩:=pH hb c j;obtain⟨h3,_⟩:=pH hb c b;have e:(up (λ_=>dc b) (c+1) m).blocks=(up (λ_=>dc b) c m).blocks.set b { nth (up (λ_=>dc b) c m).blocks b with phis:=(nth (up (λ_=>dc b) c m).blocks b).phis++[⟨(up (λ_=>dc b) c m).next,[]⟩] }:=rfl;rw[e];refine⟨?_,by rw[Nq];exact h2⟩;rcases M0 j m.blocks.length with hl | hl
  ·rw[aK (by rw[h2];exact hl)];by_cases ej:b=j
   ·subst ej;rw[if_pos rfl,if_pos rfl];rw[if_pos rfl]at h3;show(_++[_]).length=_;rw[M3,h3,M6];omega
   rw[if_neg ej,if_neg (λq=>ej q.symm)];rw[if_neg (λq=>ej q.symm)]at h1;exact h1
  rw[aW (by rw[Nq,h2];exact hl),aW hl,if_neg Q1];rfl
theorem xS{n a:Nat}{x:List Int × MS}(p:Ph n a 0 x)(pc:Pc x.1 x.2)(g:Gd x.2) : ∀k,k<n->Pc (up (du s) k x).1 (up (du s) k x).2/\Gd (up (du s) k x).2
 | 0,_=>⟨pc,g⟩
 | k+1,hk=>by
  obtain⟨h1,h2⟩:=xS p pc g k Q1;have q:=yP (s:=s) p k;have e:up (du s) (k+1) x=du s k (up (du s) k x):=rfl;rw[e];generalize up (du s) k x=y at h1 h2 q;obtain⟨c0,c1⟩:=nL (s:=s) (m:=y.2) (b:=k+1);have hb:k+1<y.2.took.blocks.length:=by show k+1<y.2.blocks.length;rw[q.z.len];exact hk
  refine⟨λj=>?_,h2.took.lL _⟩;have h3:=(pH hb (gZ s y.2 (k+1)).toNat j).1;show((nth (up (λ_=>dc (k+1)) (gZ s y.2 (k+1)).toNat y.2.took).blocks j).phis.length:Int)=nth (y.1.set (k+1) (gZ s y.2 (k+1))) j;rw[h3];have h4:=h1 j;have h5:nth y.2.took.blocks j=nth y.2.blocks j:=rfl;rw[h5];rcases M0 j y.1.length with hl | hl
  ·rw[aK hl];by_cases ej:k+1=j
   ·subst ej;rw[if_pos rfl,if_pos rfl];rw[q.zero (k+1) Q1]at h4;omega
   rw[if_neg ej,if_neg (λr=>ej r.symm)];omega
  have e1:nth (y.1.set (k+1) (gZ s y.2 (k+1))) j=default:=aW (by simpa using hl);have e2:nth y.1 j=default:=aW hl;rw[e1];rw[e2]at h4;have:=q.len;rw[if_neg Q1];omega
theorem oN:Ph (aG s) 200 (aG s-1) (gl s)/\Pc (gl s).1 (gl s).2/\Gd (gl s).2:=by
 obtain⟨h1,h2⟩:=eK (s:=s);obtain⟨z,g⟩:=Bg (s:=s);have hz : ∀j,nth (List.replicate (aG s) (0:Int)) j=0:=λj=>by
  rcases M0 j (aG s)with hj | hj
  ·rw[ay hj]
  rw[aW (by simpa using hj)];rfl
 have p0:Ph (aG s) 200 0 (List.replicate (aG s) (0:Int),lI s):=⟨z,by simp,λj _=>hz j,λj=>by rw[hz];omega⟩;have pc:Pc (List.replicate (aG s) (0:Int)) (lI s):=λj=>by have:=z.phis j;rw[hz];omega
 obtain⟨q1,q2⟩:=xS (s:=s) p0 pc g (aG s-1) Q1;exact⟨yP p0 _,q1,q2⟩
theorem Gd.jn{to:List (List Int)}{n b:Nat}{dn:BL}{away:List BL}{m:MS}(g:Gd m)(ht:(nth to b).length<=1000):Gd (jn s to n dn away b m):=by have g1:Gd (MS.took { m with live:=lF m dn away b n }):=g;exact(Gd.eA g1 _).LX ht
theorem Gd.aN{to:List (List Int)}{n b:Nat}{x:BL × MS}(g:Gd x.2)(ht:(nth to b).length<=1000):Gd (aN s to n b x).2:=by
 unfold Go.Lft.aN;split
 ·exact g.jn ht
 exact g
structure M4(n a p:Nat)(lp:List Int)(x:BL × MS):Prop where
 b2:B2 n a p x
 gd:Gd x.2
 pc:Pc lp x.2
theorem M4.step{to:List (List Int)}{n a p b:Nat}{lp:List Int}{x:BL × MS}(q:M4 n a p lp x)(hb:b<n)(hn:n<=10)(hp:p<=100)(ha:16000<=a)(ht : ∀j,(nth to j).length<=1000):M4 n (a+600) p lp (aN s to n b x):=
 ⟨rR q.b2 hb hn hp ha λh=>nk h,q.gd.aN (ht b),q.pc.aN (by rw[q.b2.z.len];exact hb)⟩
theorem M4.blk{a p:Nat}{x:BL × MS}(q:M4 n a p lp x)(hn:n<=10)(hp:p<=100)(ha:16000<=a)(ht : ∀j,(nth to j).length<=1000)(k:Nat)(hk:k<=n):M4 n (a+600*k) p lp (up (Go.Lft.aN s to n) k x):=by
 induction k with
 | zero=>exact q
 | succ k ih=>have:=(ih Q1).step (s:=s) (to:=to) (b:=k) Q1 hn hp Q1 ht;exact⟨⟨this.b2.z.mono Q1 (MY _) (MY _),this.b2.len,this.b2.none⟩,this.gd,this.pc⟩
theorem M4.turn{a p:Nat}{x:BL × MS}(q:M4 n a p lp x)(hn:n<=10)(hp:p<=100)(ha:16000<=a)(ht : ∀j,(nth to j).length<=1000)(k:Nat):M4 n (a+600*n*k) p lp (up (λ_=>up (Go.Lft.aN s to n) n) k x):=by
 induction k with
 | zero=>exact q
 | succ k ih=>have:=ih.blk (s:=s) (to:=to) hn hp Q1 ht n (MY _);exact⟨⟨this.b2.z.mono (by rw[OW];omega) (MY _) (MY _),this.b2.len,this.b2.none⟩,this.gd,this.pc⟩
theorem AW:B2 (aG s) 16000 27 (List.replicate (aG s) QG,(gl s).2):=by obtain⟨h1,h2⟩:=eK (s:=s);obtain⟨p,_,_⟩:=oN (s:=s);refine⟨p.z.mono Q1 Q1 Q1,by simp,λj hj _=>?_⟩;have:=p.z.ins j;show(nth (gl s).2.blocks j).ins.length=0;omega
theorem vR:P3 (aG s) 70000 27 700 (nz s).2/\Pc (gl s).1 (nz s).2:=by
 obtain⟨h1,h2⟩:=eK (s:=s);obtain⟨p,pc,g⟩:=oN (s:=s);have ht : ∀j,(nth (eW s).1 j).length<=1000:=λj=>by have:=(za (s:=s)).row j;omega
 have q0:M4 (aG s) 16000 27 (gl s).1 (List.replicate (aG s) QG,(gl s).2):=⟨AW,g,pc⟩;have q:=q0.turn (s:=s) (to:=(eW s).1) Q1 Q1 Q1 ht (aG s);have hbd:600*aG s*aG s<=5400*9:=OD Q1 Q1;exact⟨⟨q.b2.z.mono Q1 (MY _) (MY _),q.gd⟩,q.pc⟩
theorem nh:P3 (aG s) 72000 27 1000 (gS s):=by obtain⟨h1,h2⟩:=eK (s:=s);obtain⟨p,_,_⟩:=oN (s:=s);obtain⟨q,pc⟩:=vR (s:=s);have:=(zO (s:=s) q pc (λj=>(p.rng j).2) h2 (aG s-1)).1;exact this.mono Q1 (MY _) Q1
theorem Js:SmF (iV s):=(nh (s:=s)).g.smF (nh (s:=s)).z (by have:=eK (s:=s);omega) Q1 Q1
theorem uH:0<=(iV s).params/\(iV s).params<=4:=⟨(nh (s:=s)).z.ps0,(nh (s:=s)).z.ps1⟩
theorem By:1<=(iV s).blocks.length/\(iV s).blocks.length<=9:=by have:=eK (s:=s);rw[show(iV s).blocks.length=aG s from(nh (s:=s)).z.len];exact this
end
end Go.Lft
