/- A part of the proof: Qs, Qt, Qu, Ql, Qm, Ia, Qx, Qy, Qz, Tl, Aa, Ab, Ba, Ad, Ae, Af, An, Kb, LftMv, Ai, Ak, Al, Aj, Am, LftHd, Ao, Ap. -/
import Derived.Test.YtmhnaeecolpfkaaGreatDoorZCMor7
import Derived.ChangeKeysEq
set_option linter.unusedSimpArgs false
set_option linter.unusedVariables false
open Go.Value renaming int->VB,slice->VG,pointer->VH
open Go.IntKind renaming i64->VC
open Option renaming some->VE,none->VF
open Bool renaming true->VI,false->VJ
open Go.Proofs.Tryz renaming prog->VK
open Go.Proofs
namespace Go.Lft
def oneO {α:Type} [Rep α] (k:Key) (e:TypeId) (v:Value) (l:List α):Own:=λq=>if q=k then it e v l else VF
section
variable {po po2:OP} {α:Type} [Rep α] {W:View} {h:Heap} {k:Key} {e:TypeId} {v:Value} {l:List α} {P:Program} {ty:TypeId} {us:List (Nat × Value)}
theorem pB:oneO k e v l k=it e v l:=by unfold oneO;rw[if_pos rfl]
theorem FA {v':Value} {l':List α}:(oneO k e v l).upd k (it e v' l')=oneO k e v' l':=by
 funext q;show(if q=k then it e v' l' else(if q=k then it e v l else VF))=if q=k then it e v' l' else VF;by_cases c:q=k
 ·rw[if_pos c,if_pos c]
 rw[if_neg c,if_neg c,if_neg c]
theorem OwnT.src (o:OwnT W h e v l):SrcT (vw h) W v l:=by
 obtain⟨hbd,xs,⟨hx,hown⟩,hel⟩:=o;rcases hown with⟨rfl,hn⟩ | ⟨g,cap,cur,rfl,hg,h1,h2,h3,h4⟩
 ·have:l=[]:=Sj hn;subst this;exact⟨VF,0,rfl,λ_=>rfl,[],V5,(λ_ e=>nomatch e),λi hi=>absurd hi (Tx _)⟩
 refine⟨VE ⟨g,0,VF⟩,cap,rfl,λe=>(by cases e),xs,hx,λad ea j x hj=>?_,hel⟩;cases ea;rw[bE rfl];rw[<-h4,Tf]at hj;split at hj
 ·have:=da (H:=vw h) (c:=cur) (o:=j) (v:=x) hg (by simpa using hj);simpa using this
 cases hj
theorem Owns.LX {t ty2:TypeId} {bytes:Nat} {z u:Value} {x y y2:Operand} {d:α} {us2:Value->List (Nat × Value)} {K:Value->Value->Heap->Prop} (w:Owns W h (oneO k e v l)) (hT:eS P t e (Rep.n α) bytes z) (hn:Rep.n α<=1000) (hx:asg us x=u) (hr:Rd W u d) (hb:(1+l.length)*bytes<=140737488355328) (hb2:1+l.length<=140737488355328) (hy : ∀u,asg (us2 u) y=u) (hy2 : ∀u,asg (us2 u) y2=v)
  (hK : ∀u v' h' k',Owns W h' (oneO k' e v' (d::l))->(vw h).le (vw h')->K u v' h') :
  @step po P (.buildSlice t 1 #[(0,x)]) ty us h λu h2=>@step po2 P (.call ⟨.builtin .append,#[y,y2],#[t,t]⟩) ty2 (us2 u) h2 λv' h3=>K u v' h3:=by
 obtain⟨k2,hk2⟩ : ∃k2:Key,k2≠k:=⟨(k.1+1,0),by rintro e;have:=congrArg Prod.fst e;simp at this⟩;have hk0:oneO k e v l k2=none:=by unfold oneO;rw[if_neg hk2]
 refine HI hT hx hr hn λh1 hle1 own1=>?_;have w1:=w.add (k:=k2) hk0 own1 hle1 (λb hb=>by simp only[Value.ownBlock,RP]at hb;omega);have hkk:((oneO k e v l).upd k2 (it e (VG (VE ⟨h.size,0,VF⟩) 1 1) [d])) k=it e v l:=by rw[Own.aB hk2.symm,pB]
 refine w1.dd (k:=k2) (v:=VG (VE ⟨h.size,0,VF⟩) 1 1) (l:=[d]) (l2:=l) Own.an hT (hy _) (hy2 _) (w1.get hkk).src (by simpa using hb) (by simpa using hb2) λv' h2 w2 m2=>?_;refine hK _ v' h2 k2 (w2.sub λj i hj=>?_) λb o hb=>?_
 ·unfold oneO at hj;split at hj
  ·rename_i e;subst e;rw[Own.an];exact hj
  cases hj
 have hlt:=View.lt (View.le_refl (vw h)) hb;have h1b:=hle1 b o hb;have hlt1:=View.lt (View.le_refl (vw h1)) h1b;have:=m2.kept.block b hlt1 (by simp[Value.ownBlock];omega);show h2[b]? = VE o;rw[this];exact h1b
end
def x16 (x:Int):Nat:=(BitVec.ofInt 64 x&&& BitVec.ofInt 64 65535).toNat
theorem L5 {x:Int}:Bn.ev (.bits .and) (VB VC x) (VB VC 65535)=VE (VB VC (x16 x))/\x16 x<65536:=by
 have hlt:x16 x<=65535:=by unfold x16;rw[BitVec.toNat_and];exact Sk Nat.and_le_right V6
 refine⟨?_,by omega⟩;have e:Bn.ev (.bits .and) (VB VC x) (VB VC 65535)=VE (VB VC (IntKind.i64.wrap (x16 x))):=rfl;rw[e,aZ V4 V4]
def tX (s:List Int) (i:Nat):Nat:=if i+1<s.length then x16 (nth s (i+1)) else 0
theorem Qc {s:List Int} {i:Nat}:tX s i<65536:=by
 unfold tX;split
 ·exact L5.2
 omega
def rJ (s:List Int):Bool:=decide (0<s.length)&&decide ((nth s 0).tmod 4=1)
def tabT (s:List Int) (i:Nat):aF:=⟨(i:Int)+1,if tX s i % 3=1 then((tX s i / 3 % 12:Nat):Int) else nth dM i⟩
def fW (s:List Int) (i:Nat) (l:List aF):List aF:=
 if rJ s&&decide (tX s i % 9=3) then l
 else if tX s i % 5=2 then(if tX s i % 2=1 then tabT s i::l else l++[tabT s i])++[⟨(i:Int)+1,((tX s i % 7:Nat):Int)⟩]
 else if tX s i % 2=1 then tabT s i::l else l++[tabT s i]
def tabS (s:List Int):List aF:=Lft.up (fW s) 37 []
theorem EN {s:List Int} {i:Nat} {l:List aF}:(fW s i l).length<=l.length+2:=by
 unfold fW;split
 ·omega
 split
 ·split<;>simp
 split<;>simp
theorem yw {s:List Int} : ∀{n:Nat},(Lft.up (fW s) n []).length<=2*n
 | 0=>RQ _
 | n+1=>by have:=yw (s:=s) (n:=n);have:=EN (s:=s) (i:=n) (l:=Lft.up (fW s) n []);simp only[Lft.up];omega
def EB (t:aF):Prop:=(1<=t.pat/\t.pat<=37)/\0<=t.cost/\t.cost<=12
theorem IW {s:List Int} {i:Nat} (hi:i<37):EB (tabT s i):=by
 unfold tabT EB;refine⟨by dsimp only;omega,?_⟩;dsimp only;split
 ·omega
 have hm:nth dM i∈dM:=aX (by show i<37;exact hi);have:=th _ hm;omega
theorem y6 {s:List Int} : ∀{n:Nat},n<=37->∀t∈Lft.up (fW s) n [],EB t
 | 0,_,t,ht=>by simp[Lft.up]at ht
 | n+1,hn,t,ht=>by
  have ih:=y6 (s:=s) (n:=n) V4;have h1:=IW (s:=s) (i:=n) V4;have h2:EB ⟨(n:Int)+1,((tX s n % 7:Nat):Int)⟩:=⟨by dsimp only;omega,by dsimp only;omega⟩;simp only[Lft.up,fW]at ht;split at ht
  ·exact ih t ht
  split at ht
  ·split at ht
   ·simp at ht;rcases ht with rfl | ht | rfl
    ·exact h1
    ·exact ih t ht
    exact h2
   simp at ht;rcases ht with ht | rfl | rfl
   ·exact ih t ht
   ·exact h1
   exact h2
  split at ht
  ·rcases Sb.1 ht with rfl | ht
   ·exact h1
   exact ih t ht
  simp at ht;rcases ht with ht | rfl
  ·exact ih t ht
  exact h1
theorem JA {s:List Int}:eA (tabS s)=(0,0):=by unfold eA;have:=yw (s:=s) (n:=37);rw[if_neg (by unfold tabS;omega)];refine oX λt ht=>?_;obtain⟨h1,h2,h3⟩:=y6 (RQ _) t ht;unfold ee inR;simp[h1.1,h1.2,h2];omega
theorem LU{H:View}:Rd H (.agg (dM.map λc=>VB VC c).toArray) (RawN.mk (n:=36) (dM.map λc=>VB VC c)):=
 tI (by simp;rfl) (λc hc=>by obtain⟨x,_,rfl⟩:=SV.1 hc;rfl)
theorem F8{H:View}{C k:Nat}(a:At H ⟨C,0,VF⟩ (RawN.mk (n:=36) (dM.map λc=>VB VC c)))(hk:k<37):ao H ⟨C,k,VF⟩=VE (VB VC (nth dM k)):=by have:=(a.part (RawN.p (o:=k) V4)).raw;have hl:dM.length=37:=rfl;rw[bE rfl]at this;simp[TV,TB,SB (show k<dM.length by omega)]at this;rw[this,ay V4]
set_option maxHeartbeats 2000000 in
theorem IH{s:List Int}{vs:Value}{h:Heap}(hs:SlRd (vw h) vs s):az VK 13 #[vs] h (λu h'=>(vw h).le (vw h')/\SlRd (grow nothing h h') u (tabS s)):=by
 refine aq (args:=[vs]) follows Tryz.func13 E.eE Vw λK hK=>?_;dsimp only[L.eE,lkF,lkG];have w0:=Owns.start (h:=h) (View.le_refl (vw h));refine aa λz hz=>?_;simp;subst hz;refine aa λz hz=>?_;simp;refine w0.kf (k:=(0,0)) (α:=aF) rfl El.eJ λv1 h1 hle1 hv1 w1 _=>?_;have w1:Owns (vw h) h1 (oneO (0,0) T.fu v1 ([]:List aF)):=w1.sub λq i hq=>by
  unfold oneO at hq;split at hq
  ·rename_i e;subst e;rw[Own.an];exact hq
  cases hq
 subst hz;refine aa λz hz=>?_;simp;refine ah V0 LZ ?_;rintro _ h2 ⟨hle2,rfl⟩;have w2:=w1.ext' hle2;have o2:oneO (0,0) T.fu v1 ([]:List aF) (1,0)=none:=by unfold oneO;rw[if_neg V6]
 refine w2.qR (k:=(1,0)) o2 LU (n:=37) rfl (z:=.agg (List.replicate 37 (VB VC 0)).toArray) V0 V0 V0 V6 V8 V8 λh3 hle3 w3=>?_;generalize h2.size=C at w3;obtain⟨W,hW,w4,atC⟩:=w3.kr (k:=(1,0)) Own.an;have w4:Owns W h3 (oneO (0,0) T.fu v1 ([]:List aF)):=w4.sub λq i hq=>by
  by_cases e:q=(1,0)
  ·subst e;rw[o2]at hq;cases hq
  rw[Own.aB e,Own.aB e];exact hq
 have sW:=hs.mono hW;clear w0 w1 w2 w3 hle1 hle2 hle3;subst hz;refine aa λz hz=>?_;have hd : ∀ρ:Nat->Option Value,ρ 0=VE vs->ev ρ (vw h3) (E.ite (E.bin (Bn.cmp BinOp.gtr) (E.un Un.len (E.tmp 0)) (E.con (VB IntKind.i64 0))) (E.bin (Bn.cmp BinOp.eql) (E.bin (Bn.div BinOp.rem) (E.un Un.load (E.bin (Bn.idx 1) (E.tmp 0) (E.con (VB IntKind.i64 0)))) (E.con (VB IntKind.i64 4))) (E.con (VB IntKind.i64 1))) (E.con (Value.bool VJ)))=VE (.bool (rJ s)):=by
  intro ρ hρ;have s3:=sW.mono w4.wle;by_cases c:0<s.length
  ·have q:=s3.idxn (k:=.i64) (N:=1) rfl (i:=(0:Int)) V4 V4;have p:=s3.int Vy (i:=0) c;simp at p q;simp[hρ,s3.len,q,p,rJ,c]
  simp[hρ,s3.len,rJ,c]
 simp[hd];subst hz;refine aa λz hz=>?_;simp;refine dQ [0,3,4,5,6] (fun(tv:Value) k=>[vs,tv,ptz C,.bool (rJ s),VB VC k]) (λtv k h=>∃Wk key,W.le Wk/\Owns Wk h (oneO key T.fu tv (Lft.up (fW s) k []))) 37 v1
  rfl V4 rfl ⟨W,(0,0),View.le_refl _,w4⟩ (λ_ _=>rfl) (λv i h1 hk m=>by simp) ?_ ?_
 ·rintro tv k h4 hk ⟨Wk,key,hWk,wk⟩ K2 hK2;have s4:=(sW.mono hWk).mono wk.wle;have ew:IntKind.i64.wrap ((k:Int)+1)=(k:Int)+1:=aZ V4 V4;refine aa λy hy=>?_;simp;subst hy;refine aa λy hy=>?_;refine gO (λρ h'=>h'=h4/\ρ=[(0,vs),(3,tv),(4,ptz C),(5,.bool (rJ s)),(6,VB VC k),(7,VB VC (tX s k))]) ?_ ?_
  ·intro K3 hK3;by_cases c:k+1<s.length
   ·have q:=s4.idxn (k:=.i64) (N:=1) rfl (i:=(k:Int)+1) V4 V4;have p:=s4.int Vy (i:=k+1) c;have et:((k:Int)+1).toNat=k+1:=by omega
    simp[et]at q;refine kD V7 (by simp[s4.len,ew];omega) ?_;simp[ew,q,p,L5.1];exact hK3 _ _ ⟨rfl,by unfold tX;rw[if_pos c]⟩
   refine kJ V7 (by simp[s4.len,ew];omega) ?_;simp;exact hK3 _ _ ⟨rfl,by unfold tX;rw[if_neg c];rfl⟩
  rintro _ _ ⟨rfl,rfl⟩;have hx:=Qc (s:=s) (i:=k);generalize hX:tX s k=x at hx;subst hy;refine aa λy hy=>?_;have t9:(x:Int).tmod 9=((x % 9:Nat):Int):=rfl;have t7:(x:Int).tmod 7=((x % 7:Nat):Int):=rfl;have t5:(x:Int).tmod 5=((x % 5:Nat):Int):=rfl;have t3:(x:Int).tmod 3=((x % 3:Nat):Int):=rfl;have t2:(x:Int).tmod 2=((x % 2:Nat):Int):=rfl;have d3:((x:Int).tdiv 3).tmod 12=((x / 3 % 12:Nat):Int):=rfl;have d12:(IntKind.i64.wrap ((x:Int) / 3)).tmod 12=(x:Int) / 3 % 12:=by rw[aZ V4 V4];exact Int.tmod_eq_emod_of_nonneg V4
  obtain⟨l,hl⟩ : ∃l,l=Lft.up (fW s) k []:=⟨_,rfl⟩;have hup:Lft.up (fW s) (k+1) []=fW s k l:=by rw[hl];rfl
  have hll:l.length<=74:=by rw[hl];have:=yw (s:=s) (n:=k);omega
  rw[<-hl]at wk;by_cases cc:(rJ s&&decide (x % 9=3))=VI
  ·have cc':rJ s=VI/\x % 9=3:=by simpa using cc
   refine kD V7 (by simp[t9,cc'.1];omega) ?_;simp;refine hK2 tv _ _ rfl rfl ⟨Wk,key,hWk,?_⟩;rw[hup];have:fW s k l=l:=by unfold fW;rw[hX,if_pos cc]
   rw[this];exact wk
  refine kJ V7 (by simp[t9];intro e1 e2;exact cc (by rw[e1,T3,decide_eq_true_eq];omega)) ?_;simp;subst hy;have hc:=th _ (aX (l:=dM) (i:=k) (by show k<37;exact hk));have ax:Bn.ev (.aidx 37 1) (ptz C) (VB VC k)=VE (VH (VE ⟨C,k,VF⟩)):=by simp[Bn.ev,vP,vI];omega
  have cell:=F8 ((atC.mono hWk).mono wk.wle) hk;refine aa λy hy=>?_;simp[ew,ax,cell];refine aA (t:=T.fu) (z:=zz1) (places:=zpd) (vs:=[(0,VB VC ((k:Int)+1)),(1,VB VC (nth dM k))]) (cs:=#[VB VC ((k:Int)+1),VB VC (nth dM k)]) V0 V0 V5 V0 ?_;obtain⟨kt,hkt⟩ : ∃kt:Key,kt≠key:=⟨(key.1+1,0),by rintro e;have:=congrArg Prod.fst e;simp at this⟩;have ho:oneO key T.fu tv l kt=none:=by unfold oneO;rw[if_neg hkt]
  refine wk.qR (k:=kt) (α:=aF) (d:=⟨(k:Int)+1,nth dM k⟩) (u:=.agg #[VB VC ((k:Int)+1),VB VC (nth dM k)]) (n:=2) ho (yv (by constructor<;>omega) (by constructor<;>omega)) rfl (z:=zz1) V0 V0 V0 V6 V8 V8 λh5 hle5 w5=>?_;generalize Array.size _=B at w5;subst hy;refine aa λy hy=>?_;refine gO (λρ h'=>Owns Wk h' ((oneO key T.fu tv l).upd kt (bx T.fu B (tabT s k)))/\ρ=[(0,vs),(3,tv),(4,ptz C),(5,.bool (rJ s)),(6,VB VC k),(7,VB VC x),(8,ptz B),(47,.agg #[VB VC ((k:Int)+1),VB VC (nth dM k)])]) ?_ ?_
  ·intro K3 hK3;by_cases c:x % 3=1
   ·refine kD V7 (by simp[t3];omega) ?_;simp[d3];refine w5.cT aF.wO (k:=kt) (d:=((x / 3 % 12:Nat):Int)) Own.an V0 V5 (by simp[d12]) (bw.2 ⟨rfl,by constructor<;>omega⟩) λh6 w6 _=>?_;rw[Own.fy]at w6;have et:tabT s k=⟨(k:Int)+1,((x / 3 % 12:Nat):Int)⟩:=by unfold tabT;rw[hX,if_pos c]
    exact hK3 _ _ ⟨by rw[et];exact w6,rfl⟩
   refine kJ V7 (by simp[t3];omega) ?_;simp;have et:tabT s k=⟨(k:Int)+1,nth dM k⟩:=by unfold tabT;rw[hX,if_neg c]
   exact hK3 _ _ ⟨by rw[et];exact w5,rfl⟩
  rintro _ h6 ⟨w6,rfl⟩;obtain⟨W7,hW7,w7,atB⟩:=w6.kr (k:=kt) Own.an;have w7:Owns W7 h6 (oneO key T.fu tv l):=w7.sub λq i hq=>by
   by_cases e:q=kt
   ·subst e;rw[ho]at hq;cases hq
   rw[Own.aB e,Own.aB e];exact hq
  subst hy;have rt:=atB;obtain⟨ut,hut,rut⟩:=atB.ldN rfl (N:=2) rfl;generalize htb:tabT s k=tb at rut;refine aa λy hy=>?_;refine gO (λρ h'=>∃(W8:View) (k8:Key) (tv8:Value),W7.le W8/\Owns W8 h' (oneO k8 T.fu tv8 (if x % 2=1 then tb::l else l++[tb]))/\∃a b c:Value,ρ=[(0,vs),(3,tv8),(4,ptz C),(5,.bool (rJ s)),(6,VB VC k),(7,VB VC x),(8,ptz B),(47,.agg #[VB VC ((k:Int)+1),VB VC (nth dM k)]),(59,a),(61,b)]\/ρ=[(0,vs),(3,tv8),(4,ptz C),(5,.bool (rJ s)),(6,VB VC k),(7,VB VC x),(8,ptz B),(47,.agg #[VB VC ((k:Int)+1),VB VC (nth dM k)]),(62,a),(64,b),(65,c)]) ?_ ?_
  ·intro K3 hK3;by_cases c:x % 2=1
   ·refine kD V7 (by simp[t2];omega) ?_;simp[hut _ w7.wle];refine w7.LX El.eJ V6 V5 rut V4 V4 V8 V8 λu v' h8 k8 w8 hle8=>?_;exact hK3 _ _ ⟨W7,k8,v',View.le_refl _,by rw[if_pos c];exact w8,u,v',undef,.inl rfl⟩
   refine kJ V7 (by simp[t2];omega) ?_;simp[hut _ w7.wle];refine w7.gu (k:=key) pB El.eJ V5 rut V4 V4 V8 V8 λu v' h8 w8 _=>?_;rw[FA]at w8;exact hK3 _ _ ⟨W7,key,v',View.le_refl _,by rw[if_neg c];exact w8,tv,u,v',.inr rfl⟩
  rintro ρ h8 ⟨W8,k8,tv8,hW8,w8,qa,qb,qc,hρ⟩;subst hy;have hl1:(if x % 2=1 then tb::l else l++[tb]).length<=75:=by split<;>simp<;>omega
  have hWend:W.le W8:=Vz hWk (Vz hW7 hW8);rcases hρ with rfl | rfl;all_goals
   by_cases c:x % 5=2
   ·refine kD V7 (by simp[t5];omega) ?_
    simp[ew]
    refine aA (t:=T.fu) (z:=zz1) (places:=zpd) (vs:=[(0,VB VC ((k:Int)+1)),(1,VB VC ((x % 7:Nat):Int))]) (cs:=#[VB VC ((k:Int)+1),VB VC ((x % 7:Nat):Int)]) V0 V0 (by simp[t7]) V0 ?_
    refine w8.gu (k:=k8) (d:=(⟨(k:Int)+1,((x % 7:Nat):Int)⟩:aF)) pB El.eJ V5 (yv (by constructor<;>omega) (by constructor<;>omega)) V4 V4 V8 V8 λu v' h9 w9 _=>?_
    rw[FA]at w9
    simp
    have et:fW s k l=(if x % 2=1 then tb::l else l++[tb])++[⟨(k:Int)+1,((x % 7:Nat):Int)⟩]:=by unfold fW;rw[hX,if_neg cc,if_pos c,htb]
    exact hK2 v' _ _ rfl rfl ⟨W8,k8,hWend,by rw[hup,et];exact w9⟩
   ·refine kJ V7 (by simp[t5];omega) ?_
    simp
    have et:fW s k l=(if x % 2=1 then tb::l else l++[tb]):=by unfold fW;rw[hX,if_neg cc,if_neg c,htb]
    exact hK2 tv8 _ _ rfl rfl ⟨W8,k8,hWend,by rw[hup,et];exact w8⟩
 rintro tv h4 ⟨Wk,key,hWk,wk⟩;simp;subst hz;simp;have l5:=Vz hW hWk;have o5:=wk.get pB;have o5:OwnT nothing _ T.fu _ _:=o5;refine hK _ _ ⟨Vz l5 wk.wle,o5.rd (λb x hb=>by cases hb) λb hb=>?_⟩;have hn:=wk.av _ _ pB b hb;unfold grow;rw[if_neg];intro hlt;have:=l5 b h[b] (Sq hlt);rw[hn]at this;cases this
theorem JN{s:List Int}{vs:Value}{h:Heap}(hs:SlRd (vw h) vs s):az VK 13 #[vs] h (λu h'=>(vw h).le (vw h')/\SlRd (vw h') u (tabS s)):=
 (IH hs).mono λu h' ⟨h1,h2⟩=>⟨h1,h2.mono (lj (λb x hb=>by cases hb))⟩
section
variable {f:ak} {l l2:List aF} {p q:Int->Bool}
theorem FU{c d:Int->Int->Bool}(h : ∀b i,c b i=VI->d b i=VI): ∀{o:Option (Int × Int)},AR c o=VI->AR d o=VI
 | none,e=>e
 | some _,e=>h _ _ e
theorem By (h : ∀k,p k=VI->q k=VI) {wh:Wh} : ∀{n:Nat} {b i:Int},canS f p wh n b i=VI->canS f q wh n b i=VI
 | 0,_,_,e=>e
 | n+1,b,i,e=>by
  obtain⟨k,hk⟩:=sL.1 e;refine sL.2 ⟨k,?_⟩;unfold canP at hk ⊢;rw[RV]at hk ⊢;refine⟨h _ hk.1,?_⟩;have h2:=hk.2;cases hx:tryS (eh f b i 0) k with
  | none=>rw[hx]at h2;exact h2
  | some x=>rw[hx]at h2;show x.takes.all _=VI;refine SF.2 λv hv=>?_;exact FU (λb i e=>By h e) (SF.1 h2 v hv)
theorem Gp(h : ∀k,p k=VI->q k=VI)(hb:ib f p=VF):ib f q=none:=by unfold ib at hb ⊢;rw[U3]at hb ⊢;intro b hbm;have:=hb b hbm;rw[Vl]at this ⊢;unfold uD at this ⊢;rw[List.find?_eq_none]at this ⊢;intro i hi;have:=this i hi;unfold tZ at this ⊢;simp only[RV,SK,not_and,Bool.not_eq_false]at this ⊢;intro hn;exact By h (this hn)
end
theorem zY{l:List aF}(hl:l.length<=1024)(hg : ∀t∈l,(1<=t.pat/\t.pat<=37)/\0<=t.cost/\t.cost<=1000):eA l=(0,0):=by unfold eA;rw[if_neg V4];refine oX λt ht=>?_;obtain⟨h1,h2,h3⟩:=hg t ht;unfold ee inR;simp[h1.1,h1.2,h2,h3]
theorem wP{s:List Int}:(tabS s).length<=74:=yw (n:=37)
theorem HG{s:List Int}: ∀t∈tabS s,EB t:=y6 (RQ _)
variable {po po2:OP}
theorem LM {P:Program} {ty:TypeId} {us:List (Nat × Value)} {h:Heap} {t ty2:TypeId} {n:Nat} {z:Value} {x y:Operand} {us2:Value->List (Nat × Value)} {v:Value} {X:View} {K:Value->Heap->Prop} (hX:X.le (vw h)) (hz:(P.info? t).map (·.zero)=VE (VE z)) (hzc:z.cells.size=n) (hsz:cW P t=VE n) (hv:v.cells.size=n)
  (hone : ∀c∈v.cells.toList,c.oneCell'=VI) (hx : ∀p,asg (us2 p) x=p) (hy : ∀p,asg (us2 p) y=v) (hk : ∀h':Heap,(vw h).le (vw h')->h'.size=h.size+1->h'[h.size]? = VE (.cells v.cells t (0,0))->K (ptz h.size) h') :
  @step po P (.alloc t) ty us h λp h2=>X.le (vw h2)/\@step po2 P (.store t x y) ty2 (us2 p) h2 λ_ h3=>K p h3:=by
 refine dP hz ⟨Vz hX (bZ h _),?_⟩;refine eH (g:=h.size) (o:=0) (n:=n) (v:=v) (cur:=z.cells) (e:=t) hsz (hx _) (hy _) hv hone V5 V4 λh' hs ⟨row,hrow,he⟩ hoth=>?_;have hrow2:row=v.cells:=by rw[<-Array.toList_inj,he];simp only[T6,SM,Te];rw[SJ (by simp[hzc]),TL]
 rw[hrow2]at hrow;have hle:(vw h).le (vw h'):=λb o hb=>by have hlt:=View.lt (View.le_refl (vw h)) hb;show h'[b]? = _;rw[hoth b V4];exact bZ _ _ b o hb
 exact hk h' hle (by rw[hs];simp) hrow
theorem Cx.Cs {α:Type} [Rep α] {V W X:View} {h0 h:Heap} {o:Own} {P:Program} {ty:TypeId} {us:List (Nat × Value)} {t ty2:TypeId} {n:Nat} {z:Value} {x y:Operand} {us2:Value->List (Nat × Value)} {v:Value} {d:α} {K:Value->Heap->Prop} (c:Cx V h0 W h o) (hX:X.le W) (hv:Rd W v d) (hz:(P.info? t).map (·.zero)=VE (VE z)) (hN:Rep.n α=n) (hzc:z.cells.size=n) (hsz:cW P t=VE n)
  (hx : ∀p,asg (us2 p) x=p) (hy : ∀p,asg (us2 p) y=v) (hk : ∀B h' W',W.le W'->Cx V h0 W' h' o->At W' ⟨B,0,VF⟩ d->(vw h).le (vw h')->K (ptz B) h') :
  @step po P (.alloc t) ty us h λp h2=>X.le (vw h2)/\@step po2 P (.store t x y) ty2 (us2 p) h2 λ_ h3=>K p h3:=by subst hN;obtain⟨c1,c2,c3⟩:=gh hv;refine LM (Vz hX c.wle) hz hzc hsz c2 c3 hx hy λh1 hle hs hb=>?_;exact hk _ _ _ c.up (c.ext hle) (qQ (by rw[b8 (RQ _)];exact hb) (hv.mono c.up)) hle
end Go.Lft
namespace Go.Lft
structure FitR where
 fit:FitD
 ok:Bool
 deriving Inhabited
instance:Rep FitR:=Rep.via λx=>Cat.mk x.fit x.ok
variable {po:OP}
end Go.Lft
namespace Go.Lft
instance:Inhabited I32:=⟨⟨0⟩⟩
section
variable {h:Heap} {A B:Nat} {a b:Int} {n:Nat}
end
section
variable {po:OP} {A B D k r:Nat} {h:Heap} {us:List (Nat × Value)} {ty:TypeId} {K:Value->Heap->Prop} {x y:Operand}
end
theorem DA{v:Int}{w:Int × Int}{ns:List Int}: ∀{l:WL},(ns.foldl (cz v w) l).length=l.length+ns.count v:=by
 induction ns with
 | nil=>intro l;simp
 | cons n ns ih=>
  intro l;rw[Su,ih,Tj];unfold cz;by_cases c:n=v
  ·rw[if_pos c,if_pos (by simp[c])];simp;omega
  rw[if_neg c,if_neg (by simp[c])];omega
theorem Jg{v:Int}{l:List Th}: ∀{y:WL},(l.foldl (sZ v) y).length=y.length+(l.map λt=>t.tks.count v).sum:=by
 induction l with
 | nil=>intro y;simp
 | cons t l ih=>intro y;rw[Su,ih];unfold sZ;rw[DA,S7,List.sum_cons];omega
theorem FB{f:ak}{v:Int}(h:cy f v=VI):(kE v (aC f)).length=1:=by unfold cy jF at h;simp only[RV]at h;have hb:=h.1;unfold nm at hb;simp at hb;exact hb.1.1.1.2
theorem OM{l:List Nat}{n:Nat}(h:n∈l):n<=l.sum:=by
 induction l with
 | nil=>cases h
 | cons a l ih=>
  rw[List.sum_cons];rcases Sb.1 h with rfl | h
  ·omega
  have:=ih h;omega
theorem nJ{f:ak}{v:Int}(h:cy f v=VI){t:Th}(ht:t∈aC f):t.tks.count v<=1:=by have e:=FB h;unfold kE at e;rw[Jg]at e;have:=OM (SV.2 ⟨t,ht,rfl⟩:t.tks.count v∈(aC f).map λt=>t.tks.count v);simp at e;omega
theorem qx{f:ak}{v:Int}(h:cy f v=VI){t t':Th}(ht:t∈aC f)(ht':t'∈aC f)(hk:v∈t.tks)(hk':v∈t'.tks):t.blk=t'.blk/\t.place=t'.place:=by
 have e:=FB h;have m1:(t.blk,t.place)∈kE v (aC f):=uy.2 (.inr ⟨t,ht,rfl,hk⟩);have m2:(t'.blk,t'.place)∈kE v (aC f):=uy.2 (.inr ⟨t',ht',rfl,hk'⟩);match hl:kE v (aC f),e with
 | [y],_=>rw[hl]at m1 m2;simp at m1 m2;have:=m1.trans m2.symm;exact⟨congrArg Prod.fst this,congrArg Prod.snd this⟩
theorem xl{f:ak}{v op:Int}(hf:(aL f v op).2=VI){t:Th}(ht:t∈aC f)(hk:v∈t.tks){b:Nat}(hb:t.blk=b):
  ∃m:Nat,b<f.blocks.length/\m<(nth f.blocks b).ins.length/\(m:Int)<t.place/\nth (nth f.blocks b).ins m=(aL f v op).1/\(aL f v op).1.op≠16/\(aL f v op).1.dst=v:=by
 obtain⟨m1,m2,m3,m4,m5⟩:=fe hf;obtain⟨b2,k2,hb2,hk2,e2⟩:=nW.1 m1;have hm:v∈(insT f b2 k2).mks:=by show v∈bg (nth (nth f.blocks b2).ins k2);rw[<-e2];unfold bg;rw[if_neg m5];split<;>simp[m4]
 obtain⟨q1,q2⟩:=mE m3 (dz hb2 hk2) ht hm hk;have q1:(b2:Int)=t.blk:=q1;have q2:(k2:Int)<t.place:=q2;obtain rfl:b2=b:=by omega
 exact⟨k2,hb2,hk2,q2,e2.symm,m5,m4⟩
def ES (f:ak) (b:Nat) (i:Int) (u:Int) (P:InsD->Prop):Prop:=∃m:Nat,m<(nth f.blocks b).ins.length/\(m:Int)<i/\(nth (nth f.blocks b).ins m).op≠16/\(nth (nth f.blocks b).ins m).dst=u/\P (nth (nth f.blocks b).ins m)
structure mH (f:ak) (b:Nat) (i:Int) (own takes inner:List Int):Prop where
 fold : ∀u∈inner,cy f u=VI
 out : ∀u∈inner,u∉takes
 made : ∀u∈inner,ES f b i u λ_=>True
 from_ : ∀v∈takes,v∈own\/∃u∈inner,ES f b i u λx=>v∈x.args
 two:inner.length<=2
 inn : ∀u∈inner,u∈own\/∃w∈inner,ES f b i w λx=>u∈x.args
 cnt : ∀v,cy f v=VI->takes.count v<=1
 len : ∃m:Nat,takes.length<=own.length+(nth (nth f.blocks b).ins m).args.length
theorem xb : ∀{l r:List Int},(∀v,l.count v<=r.count v)->l.length<=r.length
 | [],r,_=>To _
 | a::l,r,h=>by
  have h1:=h a;rw[Uk]at h1;have hm:a∈r:=SN.1 V4;have ih:=xb (l:=l) (r:=r.erase a) λv=>by have h2:=h v;rw[List.count_erase];rw[Tj]at h2;split at h2<;>rename_i c<;>simp_all<;>omega
  rw[List.length_erase_of_mem hm]at ih;have:=List.length_pos_of_mem hm;simp only[SP];omega
section
variable {f:ak} {b:Nat} {t:Th} {takes:List Int}
theorem eR(ht:t∈aC f)(h : ∀v,takes.count v<=t.tks.count v){i:Int}:mH f b i t.tks takes []:=
 ⟨λ_ h=>(nomatch h),λ_ h=>(nomatch h),λ_ h=>(nomatch h),λv hv=>.inl (SN.1 (SY (SN.2 hv) (h v))),by simp,λ_ h=>(nomatch h),λv hf=>Sk (h v) (nJ hf ht),0,Sk (xb h) (Vf _ _)⟩
theorem ET{l:List Int}{a:Int}(h:a∈l.erase a):2<=l.count a:=by have h1:=SN.2 h;rw[List.count_erase_self]at h1;omega
theorem pZ{a op:Int}(ht:t∈aC f)(hb:t.blk=b)(ha:a∈t.tks)(hf:(aL f a op).2=VI)(hC : ∀v,takes.count v<=(t.tks.erase a).count v+(aL f a op).1.args.count v):mH f b t.place t.tks takes [a]:=by
 have hT : ∀v∈takes,v∈t.tks.erase a\/v∈(aL f a op).1.args:=λv hv=>by
  have h1:=SN.2 hv;have h2:=hC v;rcases SQ ((t.tks.erase a).count v)with h | h
  ·exact .inr (SN.1 V4)
  exact .inl (SN.1 h)
 obtain⟨m,hb1,hm,hlt,e,h16,hd⟩:=xl hf ht ha hb;obtain⟨-,-,hfo,-,-⟩:=fe hf;refine⟨λu hu=>?_,λu hu hv=>?_,λu hu=>?_,λv hv=>?_,by simp,λu hu=>.inl (by rw[RR.1 hu];exact ha),λv hv=>?_,m,?_⟩;rotate_left 4
 ·have h1:=hC v;have h2:=nJ hv ht;have hx:(insT f b m).tks=(aL f a op).1.args:=by show(nth (nth f.blocks b).ins m).args=_;rw[e]
  have h3:=nJ hv (dz hb1 hm);rw[hx]at h3;have h4:(t.tks.erase a).count v<=t.tks.count v:=List.erase_sublist.count_le _;rcases SQ ((t.tks.erase a).count v)with h | h
  ·omega
  rcases SQ ((aL f a op).1.args.count v)with h5 | h5
  ·omega
  have:=qx hv ht (dz hb1 hm) (SN.1 V4) (by rw[hx];exact SN.1 h5);have h2:t.place=(m:Int):=this.2;omega
 ·have h1:=xb (l:=takes) (r:=t.tks.erase a++(aL f a op).1.args) λv=>by rw[List.count_append];exact hC v
  rw[RZ]at h1;have h2:=List.length_erase_le (a:=a) (l:=t.tks);rw[e];omega
 ·rw[RR.1 hu];exact hfo
 ·rw[RR.1 hu]at hv;rcases hT a hv with h | h
  ·have:=ET h;have:=nJ hfo ht;omega
  have:=qx hfo ht (dz hb1 hm) ha (by show a∈(nth (nth f.blocks b).ins m).args;rw[e];exact h);have h2:t.place=(m:Int):=this.2;omega
 ·rw[RR.1 hu];exact⟨m,hm,hlt,by rw[e];exact h16,by rw[e];exact hd,trivial⟩
 rcases hT v hv with h | h
 ·exact .inl (List.mem_of_mem_erase h)
 exact .inr ⟨a,by simp,m,hm,hlt,by rw[e];exact h16,by rw[e];exact hd,by rw[e];exact h⟩
theorem IV{a c p op op2:Int}{r:List Int}(ht:t∈aC f)(hb:t.blk=b)(ha:a∈t.tks)(hf:(aL f a op).2=VI)(hc:(aL f c op2).2=VI)(hD:(aL f a op).1.args=p::c::r)(hC : ∀v,takes.count v<=(t.tks.erase a).count v+[p].count v):mH f b t.place t.tks takes [a,c]:=by
 have hT : ∀v∈takes,v∈t.tks.erase a\/v=p:=λv hv=>by
  have h1:=SN.2 hv;have h2:=hC v;rcases SQ ((t.tks.erase a).count v)with h | h
  ·exact .inr (RR.1 (SN.1 V4))
  exact .inl (SN.1 h)
 obtain⟨m,hb1,hm,hlt,e,h16,hd⟩:=xl hf ht ha hb;have hx:(insT f b m).tks=p::c::r:=by show(nth (nth f.blocks b).ins m).args=_;rw[e,hD]
 have hcm:c∈(insT f b m).tks:=by rw[hx];simp
 obtain⟨m2,-,hm2,hlt2,e2,h162,hd2⟩:=xl hc (dz hb1 hm) hcm (b:=b) rfl;have hlt2:(m2:Int)<m:=hlt2;obtain⟨-,-,hfo,-,-⟩:=fe hf;obtain⟨-,-,hfc,-,-⟩:=fe hc;have one:=pZ (takes:=takes) ht hb ha hf (λv=>Sk (hC v) (US (by rw[hD,Tj,Tj];simp) _));have a2:ES f b t.place c λ_=>True:=⟨m2,hm2,by omega,by rw[e2];exact h162,by rw[e2];exact hd2,trivial⟩;refine⟨λu hu=>?_,λu hu hv=>?_,λu hu=>?_,λv hv=>?_,by simp,λu hu=>?_,one.cnt,one.len⟩;rotate_left 4
 ·rcases Sb.1 hu with rfl | hu
  ·exact .inl ha
  rw[RR.1 hu];exact .inr ⟨a,by simp,m,hm,hlt,by rw[e];exact h16,by rw[e];exact hd,by show c∈(nth (nth f.blocks b).ins m).args;rw[e,hD];simp⟩
 ·rcases Sb.1 hu with rfl | hu
  ·exact hfo
  rw[RR.1 hu];exact hfc
 ·rcases Sb.1 hu with rfl | hu
  ·exact one.out u V5 hv
  rw[RR.1 hu]at hv;rcases hT c hv with h | h
  ·have:=qx hfc ht (dz hb1 hm) (List.mem_of_mem_erase h) hcm;have h2:t.place=(m:Int):=this.2;omega
  have h1:=nJ hfc (dz hb1 hm);rw[hx,<-h,Uk,Uk]at h1;omega
 ·rcases Sb.1 hu with rfl | hu
  ·exact one.made u V5
  rw[RR.1 hu];exact a2
 rcases one.from_ v hv with h | ⟨u,hu,h⟩
 ·exact .inl h
 exact .inr ⟨u,by rw[RR.1 hu];simp,h⟩
theorem rR{l:List Int}(h:2<=l.length): ∃r,l=nth l 0::nth l 1::r:=by
 match l,h with
 | a::b::r,_=>exact⟨r,rfl⟩
theorem JP{l:List Int}(h:1<=l.length):l=nth l 0::l.drop 1:=by
 match l,h with
 | a::r,_=>rfl
theorem I3{a b:Int}{r:List Int}:a∈(a::b::r).erase b:=by
 by_cases c:a=b
 ·subst c;rw[UQ];simp
 rw[List.erase_cons_tail (by simpa using c)];simp
theorem tu{i:InsD}{m lo hi sg:Int}{x:FitD}(ht:t∈aC f)(hb:t.blk=b)(hk:t.tks=i.args)(hl:2<=i.args.length)(h:immS f i m lo hi sg=VE x):mH f b t.place t.tks x.takes x.inner:=by
 unfold immS at h;split at h
 ·rename_i hc;cases h;unfold fl at hc;simp only[RV]at hc;obtain⟨r,e⟩:=rR hl;refine pZ ht hb (by rw[hk];exact aX V4) hc.1 λv=>Sk ?_ (Vf _ _);rw[hk];have:=I3 (a:=nth i.args 0) (b:=nth i.args 1) (r:=r);rw[<-e]at this;exact(List.singleton_sublist.2 this).count_le _
 cases h
theorem AJ{i:InsD}{temp op pl su:Int}{k:Nat}{x:FitD}(ht:t∈aC f)(hb:t.blk=b)(hk:t.tks=i.args)(hall : ∀i∈fm f,xt i)(hl:1<=i.args.length)(h:memS f i temp op pl su k=VE x):mH f b t.place t.tks x.takes x.inner:=by
 have e:=JP hl;have ha:nth i.args 0∈t.tks:=by rw[hk];exact aX V4
 have er:t.tks.erase (nth i.args 0)=i.args.drop 1:=by have q:(nth i.args 0::i.args.drop 1).erase (nth i.args 0)=i.args.drop 1:=UQ _ _;rw[<-e]at q;rw[hk];exact q
 have own : ∀v,(nth i.args 0::i.args.drop 1).count v<=t.tks.count v:=λv=>by rw[hk,<-e];exact RQ _
 match k with
 | 0=>
  simp only[memS]at h;split at h
  ·cases h;exact eR ht own
  cases h
 | 1=>
  simp only[memS]at h;split at h
  ·rename_i hf;split at h
   ·rename_i hc;cases h;unfold fl at hc;simp only[RV]at hc;obtain⟨m1,m2,-⟩:=fe hf;obtain⟨r,e2⟩:=rR ((hall _ m1).two V4);refine IV ht hb ha hf hc.1.1 e2 λv=>?_;rw[er,Tj,Tj];simp
   cases h
  cases h
 | 2=>
  simp only[memS]at h;split at h
  ·rename_i hf;simp only[RV]at hf;cases h;obtain⟨m1,m2,-⟩:=fe hf.1;have h2:=(hall _ m1).two V4;refine pZ ht hb ha hf.1 λv=>?_;obtain⟨r,e2⟩:=rR h2;rw[er,e2,Tj,Tj,Tj,Tj];simp[nth];omega
  cases h
 | k+3=>simp only[memS]at h;cases h;exact eR ht own
end
set_option maxHeartbeats 4000000 in
theorem zk{s:cD}{pat:Int}{x:FitD}{b:Nat}{t:Th}(ht:t∈aC s.f)(hb:t.blk=b)(hk:t.tks=ownArgs s)(hok:mY s)(hte:s.t.kind=2->s.t.args.length=1)(h:tryS s pat=VE x):mH s.f b t.place t.tks x.takes x.inner:=by
 have own : ∀v,(ownArgs s).count v<=t.tks.count v:=λv=>by rw[hk];exact RQ _
 unfold tryS at h;unfold ownArgs at hk own;cases htm:s.term with
 | true=>
  rw[htm,if_pos rfl]at h;rw[htm,if_pos rfl]at hk own;have non : ∀v,([]:List Int).count v<=t.tks.count v:=λ_=>To _;unfold gI at h;split at h
  ·cases h;exact eR ht non
  split at h
  ·cases h;exact eR ht own
  split at h
  ·cases h;exact eR ht non
  split at h
  ·cases h;exact eR ht own
  split at h
  ·rename_i c;split at h
   ·rename_i c2;cases h;have e:s.t.args=[nth s.t.args 0]:=by
     match hl:s.t.args,hte c.2 with
     | [a],_=>rfl
    have:=pZ (takes:=(aL s.f (nth s.t.args 0) (pat-23)).1.args) ht hb (by rw[hk];exact aX (by rw[hte c.2];omega)) c2 λv=>Nat.le_add_left _ _;rw[<-e]at this;exact this
   cases h
  split at h
  ·cases h;exact eR ht own
  cases h
 | false=>
  rw[htm,if_neg V5]at h;rw[htm,if_neg V5]at hk own;have non : ∀v,([]:List Int).count v<=t.tks.count v:=λ_=>To _;unfold patS at h;split at h
  ·rename_i c;obtain⟨c1,c2,c3⟩:=c;have hp1:1<=pat.toNat/\pat.toNat<=32:=by omega
   generalize pat.toNat=p at *;have len2:16<=p->p<=22->2<=s.i.args.length:=by
    intro h2 h30;have hopr:2<=s.i.op/\s.i.op<=14:=by
     rw[c3];unfold opOf;repeat' split
     all_goals omega
    exact hok.one.two (.inl hopr)
   have len:16<=p->p<=30->1<=s.i.args.length:=by
    intro h2 h30;have hopr:(2<=s.i.op/\s.i.op<=14)\/s.i.op=16\/s.i.op=15:=by
     rw[c3];unfold opOf;repeat' split
     all_goals omega
    rcases hopr with q | q | q
    ·have:=hok.one.two (.inl q);omega
    ·have:=hok.one.two (.inr (.inl q));omega
    exact hok.one.one q
   unfold doS at h;by_cases p1:p=1
   ·rw[if_pos p1]at h;by_cases q:inR s.i.imm.v (-32768) 32767=VI
    ·rw[if_pos q]at h;cases h;exact eR ht non
    rw[if_neg q]at h;cases h
   rw[if_neg p1]at h;by_cases p2:p=2
   ·rw[if_pos p2]at h;cases h;exact eR ht non
   rw[if_neg p2]at h;by_cases p15:p<=15
   ·rw[if_pos p15]at h;cases h;exact eR ht own
   rw[if_neg p15]at h;by_cases p16:p=16
   ·rw[if_pos p16]at h;exact tu ht hb hk (len2 V4 V4) h
   rw[if_neg p16]at h;by_cases p17:p=17
   ·rw[if_pos p17]at h;exact tu ht hb hk (len2 V4 V4) h
   rw[if_neg p17]at h;by_cases p18:p=18
   ·rw[if_pos p18]at h;exact tu ht hb hk (len2 V4 V4) h
   rw[if_neg p18]at h;by_cases p21:p<=21
   ·rw[if_pos p21]at h;exact tu ht hb hk (len2 V4 V4) h
   rw[if_neg p21]at h;by_cases p22:p=22
   ·rw[if_pos p22]at h;by_cases q:(aL s.f (nth s.i.args 0) 4).2=VI
    ·rw[if_pos q]at h;have l2:=len2 V4 V4;obtain⟨m1,m2,-⟩:=fe q;have l3:=(hok.all _ m1).two V4;cases h;refine pZ ht hb (by rw[hk];exact aX V4) q λv=>?_;obtain⟨r,e⟩:=rR l2;obtain⟨r2,e2⟩:=rR l3;have w:(nth s.i.args 0::nth s.i.args 1::r).erase (nth s.i.args 0)=nth s.i.args 1::r:=UQ _ _;rw[<-e]at w;rw[hk,w,e2];simp only[Tj,nth];simp;omega
    rw[if_neg q]at h;cases h
   rw[if_neg p22]at h;by_cases p26:p<=26
   ·rw[if_pos p26]at h;exact AJ ht hb hk hok.all (len V4 V4) h
   rw[if_neg p26]at h;by_cases p30:p<=30
   ·rw[if_pos p30]at h;exact AJ ht hb hk hok.all (len V4 V4) h
   rw[if_neg p30]at h;by_cases p31:p=31
   ·rw[if_pos p31]at h;cases h;exact eR ht own
   rw[if_neg p31]at h;cases h;exact eR ht own
  cases h
theorem NV{f:ak}{b:Nat}(m:kP f)(hb:b<f.blocks.length)(hk:(nth f.blocks b).term.kind=2):(nth f.blocks b).term.args.length=1:=by have h:=(m.endG hb).1;generalize (nth f.blocks b).term=t at *;unfold lh at h;rw[if_neg V4,if_pos hk]at h;simp at h;omega
theorem DX{f:ak}{b i:Nat}{pat temp:Int}{x:FitD}(m:kP f)(hsm:SmF f)(hr : ∀i∈fm f,-2147483648<=i.imm.v/\i.imm.v<=2147483647)(hb:b<f.blocks.length)(hi:i<=(nth f.blocks b).ins.length)(h:tryS (eh f b i temp) pat=VE x):
  mH f b i (if i<(nth f.blocks b).ins.length then(nth (nth f.blocks b).ins i).args else(nth f.blocks b).term.args) x.takes x.inner:=by
 have hp:dq f b i=true:=by simp[dq];omega
 obtain⟨h1,h2,h3,h4⟩:=zS (temp:=temp) m hsm hr hp;have eb:((b:Int)).toNat=b:=by omega
 by_cases e:i=(nth f.blocks b).ins.length
 ·have es:eh f b i temp=⟨f,iR,(nth f.blocks b).term,VI,temp⟩:=by unfold eh;rw[eb,if_pos V4]
  rw[es]at h h1;rw[if_neg V4];have:=zk (s:=⟨f,iR,(nth f.blocks b).term,VI,temp⟩) (t:=endT f b) (b:=b) (wM hb) rfl rfl h1 (λhk=>NV m hb hk) h;rw[e];exact this
 have es:eh f b i temp=⟨f,nth (nth f.blocks b).ins i,oc,VJ,temp⟩:=by unfold eh;rw[eb,if_neg V4];rfl
 rw[es]at h h1;rw[if_pos V4];have hi2:i<(nth f.blocks b).ins.length:=by omega
 exact zk (s:=⟨f,nth (nth f.blocks b).ins i,oc,VJ,temp⟩) (t:=insT f b i) (b:=b) (dz hb hi2) rfl rfl h1 (λhk=>by simp[oc]at hk) h
section
variable {f:ak} {g:Int->Int} {b i:Nat}
end
theorem Ls{l:List Int}: ∀{t:Int},(∀n∈l,0<=n/\n<=8191)->(l.foldl dU t=t\/∃n∈l,l.foldl dU t=n+1)/\t<=l.foldl dU t/\∀n∈l,n+1<=l.foldl dU t:=by
 induction l with
 | nil=>exact λ_=>⟨.inl rfl,SW _,λn hn=>by cases hn⟩
 | cons a l ih=>
  intro t h;rw[Su];have ha:=h a (R1 ..);have e:dU t a=if t<a+1 then a+1 else t:=by unfold dU;rw[if_pos (by simp[cu];omega)]
  obtain⟨h1,h2,h3⟩:=ih (t:=dU t a) λn hn=>h n (RU _ hn);have hst:t<=dU t a/\a+1<=dU t a/\(dU t a=t\/dU t a=a+1):=by rw[e];split<;>omega
  refine⟨?_,by omega,λn hn=>?_⟩
  ·rcases h1 with h1 | ⟨n,hn,h1⟩
   ·rcases hst.2.2 with q | q
    ·exact .inl (h1.trans q)
    exact .inr ⟨a,R1 ..,h1.trans q⟩
   exact .inr ⟨n,RU _ hn,h1⟩
  rcases Sb.1 hn with rfl | hn
  ·omega
  exact h3 n hn
theorem JZ{f:ak}:topS f=(iK (aC f)).foldl dU (kv f.params):=by
 unfold topS iK;generalize kv f.params=t;generalize aC f=l;induction l generalizing t with
 | nil=>rfl
 | cons a l ih=>rw[Su,TC,S3];exact ih _
theorem OU{f:ak}(m:kP f){n:Int}(h:n∈iK (aC f)):f.params<=n/\n<=8191:=by obtain⟨t,ht,hn⟩:=SS.1 h;exact(m.good t ht).mks n hn
theorem J7{f:ak}(m:kP f):kv f.params=f.params:=by have:=m.params;unfold kv;rw[if_neg (show ¬f.params<0 by omega),if_neg V4]
theorem Ms{f:ak}(m:kP f):(topS f=f.params\/∃n∈iK (aC f),topS f=n+1)/\f.params<=topS f/\∀n∈iK (aC f),n+1<=topS f:=by
 have hp:=m.params;have:=Ls (l:=iK (aC f)) (t:=f.params) λn hn=>by have:=OU m hn;omega
 rw[JZ,J7 m];exact this
structure gH where
 phis:List PhiD
 ins:List bU
 fin:EndD
instance:Rep gH:=Rep.via λx=>Cat.mk x.phis (Cat.mk x.ins x.fin)
structure MFnD where
 params:Int
 blocks:List gH
instance:Rep MFnD:=Rep.via λx=>Cat.mk x.params x.blocks
abbrev NMap:=Int->Option Int
def ig (f:ak) (b k:Nat):Bool:=(!decide ((nth (nth f.blocks b).ins k).op=16)&&!decide ((nth (nth f.blocks b).ins k).op=18))&&cy f (nth (nth f.blocks b).ins k).dst
def ju (f:ak) (b k:Nat) (m:NMap):NMap:=if ig f b k then putM m (nth (nth f.blocks b).ins k).dst (k:Int) else m
def mkU (f:ak) (b:Nat):NMap:=Lft.up (ju f b) (nth f.blocks b).ins.length λ_=>VF
def sumS (mk cost:NMap):Int->List Int->Option Int
 | c,[]=>VE c
 | c,v::l=>match mk v with
  | none=>sumS mk cost c l
  | some p=>match cost p with
   | none=>VF
   | some n=>sumS mk cost (c+n) l
structure CB where
 cost:NMap
 best:NMap
def wS (f:ak) (b:Nat) (l:List aF) (mk cost:NMap) (i:Nat) (t:Nat):Option Int:=(dy f b i (nth l t).pat).bind λx=>sumS mk cost (nth l t).cost x.takes
def Ah (n:Int):Option Int->Bool
 | none=>VI
 | some m=>decide (n<m)
def cG (f:ak) (b:Nat) (l:List aF) (mk:NMap) (i t:Nat) (s:CB):CB:=match wS f b l mk s.cost i t with
 | none=>s
 | some n=>if Ah n (s.cost i) then⟨putM s.cost i n,putM s.best i (t:Int)⟩ else s
def yQ (t:de):Bool:=decide (t.kind=1)||decide (t.kind=4)||decide (t.kind=5)
def ia (f:ak) (b i:Nat):Bool:=decide (i=(nth f.blocks b).ins.length)&&yQ (nth f.blocks b).term
def plc8 (f:ak) (b:Nat) (l:List aF) (mk:NMap) (i:Nat) (s:CB):CB:=
 if ia f b i then(match sumS mk s.cost 0 (nth f.blocks b).term.args with | none=>s | some n=>⟨putM s.cost i n,s.best⟩)
 else Lft.up (cG f b l mk i) l.length s
def nO (f:ak) (b:Nat) (l:List aF) (mk:NMap) (n:Nat):CB:=Lft.up (plc8 f b l mk) n ⟨λ_=>VF,λ_=>VF⟩
def bD (f:ak) (b:Nat) (l:List aF):CB:=nO f b l (mkU f b) ((nth f.blocks b).ins.length+1)
def jy (f:ak) (b:Nat) (l:List aF) (best:NMap) (i:Nat):List Int:=match best i with
 | some t=>HK (dy f b i (nth l t.toNat).pat)
 | none=>if i=(nth f.blocks b).ins.length then(nth f.blocks b).term.args else[]
def km (mk:NMap) (m:Int->Bool) (v:Int):Int->Bool:=match mk v with
 | none=>m
 | some p=>λq=>if q=p then VJ else m q
def iM (f:ak) (b:Nat) (l:List aF) (best:NMap) (i:Nat) (m:Int->Bool):Int->Bool:=if m i then m else(jy f b l best i).foldl (km (mkU f b)) m
def offs (f:ak) (b:Nat) (l:List aF) (best:NMap) (n:Nat):Nat->(Int->Bool)->Int->Bool
 | 0,m=>m
 | k+1,m=>offs f b l best n k (iM f b l best k m)
def fh (f:ak) (b:Nat):Int->Bool:=λq=>decide (0<=q)&&decide (q<(nth f.blocks b).ins.length)&&ig f b q.toNat
def inn8 (f:ak) (b:Nat) (l:List aF):Int->Bool:=offs f b l (bD f b l).best 0 ((nth f.blocks b).ins.length+1) (fh f b)
structure jR where
 temp:Int
 cost:Int
 many:Bool
 blk:gH
def layS (f:ak) (b i:Nat) (pat:Int) (s:jR):jR:=
  ⟨if pat=26\/pat=30 then s.temp+1 else s.temp,s.cost,if pat=26\/pat=30 then s.many||decide (8192<=s.temp) else s.many,
   ⟨s.blk.phis,s.blk.ins++sS (fO f b i pat s.temp),if i=(nth f.blocks b).ins.length then AW (fO f b i pat s.temp) else s.blk.fin⟩⟩
def gR (f:ak) (b:Nat) (l:List aF) (best:NMap) (inner:Int->Bool) (i:Nat) (s:jR):jR:=
 if inner i then s else match best i with
  | none=>layS f b i 0 s
  | some t=>layS f b i (nth l t.toNat).pat { s with cost:=s.cost+(nth l t.toNat).cost }
def pj (f:ak) (l:List aF) (b:Nat) (s:jR):jR:=Lft.up (gR f b l (bD f b l).best (inn8 f b l)) ((nth f.blocks b).ins.length+1) { s with blk:=⟨(nth f.blocks b).phis,[],cV⟩ }
structure FnSt where
 temp:Int
 cost:Int
 many:Bool
 out:List gH
def qN (f:ak) (l:List aF) (b:Nat) (s:FnSt):FnSt:=
 let r:=pj f l b ⟨s.temp,s.cost,s.many,⟨[],[],cV⟩⟩
 ⟨r.temp,r.cost,r.many,s.out++[r.blk]⟩
def fnS (f:ak) (l:List aF):FnSt:=Lft.up (qN f l) f.blocks.length ⟨topS f,0,VJ,[]⟩
structure ChD where
 code:MFnD
 cost:Int
 err:Int
def noCh (e:Int):ChD:=⟨⟨0,[]⟩,0,e⟩
def dp (f:ak) (l:List aF):ChD:=
 if(db l f).1≠0 then noCh (db l f).1
 else if(fnS f l).many then noCh 2
 else⟨⟨f.params,(fnS f l).out⟩,(fnS f l).cost,0⟩
section
variable {f:ak} {b:Nat} {l:List aF} {mk cost cost':NMap}
theorem up_add{β:Type}{g:Nat->β->β}{n:Nat}{x:β}:Lft.up g (n+1) x=g n (Lft.up g n x):=rfl
theorem nX{k:Nat}(h:ig f b k=VI):cy f (nth (nth f.blocks b).ins k).dst=VI/\(nth (nth f.blocks b).ins k).op≠16/\(nth (nth f.blocks b).ins k).op≠18:=by unfold ig at h;simp only[RV,SK,decide_eq_false_iff_not]at h;exact⟨h.2,h.1.1,h.1.2⟩
theorem mN{k:Nat}(h:(nth (nth f.blocks b).ins k).op≠16):(nth (nth f.blocks b).ins k).dst∈(insT f b k).mks:=by show _∈bg _;unfold bg;rw[if_neg h];split<;>simp
theorem AQ{v:Int}(h:cy f v=VI):(lO v (aC f)).length=1:=by unfold cy jF at h;simp only[RV]at h;have hb:=h.1;unfold nm at hb;simp at hb;exact hb.1.1.1.1
theorem CD{v:Int}(h:cy f v=VI){t t':Th}(ht:t∈aC f)(ht':t'∈aC f)(hk:v∈t.mks)(hk':v∈t'.mks):t.blk=t'.blk/\t.place=t'.place:=by
 have e:=AQ h;have m1:(t.blk,t.place)∈lO v (aC f):=lM.2 (.inr ⟨t,ht,rfl,hk⟩);have m2:(t'.blk,t'.place)∈lO v (aC f):=lM.2 (.inr ⟨t',ht',rfl,hk'⟩);match hl:lO v (aC f),e with
 | [y],_=>rw[hl]at m1 m2;simp at m1 m2;have:=m1.trans m2.symm;exact⟨congrArg Prod.fst this,congrArg Prod.snd this⟩
theorem Ce : ∀{n:Nat} {v p:Int},Lft.up (ju f b) n (λ_=>VF) v=VE p->∃k:Nat,k<n/\p=k/\ig f b k=VI/\(nth (nth f.blocks b).ins k).dst=v
 | 0,v,p,h=>by cases h
 | n+1,v,p,h=>by
  rw[up_add]at h;unfold ju at h;split at h
  ·rename_i c;unfold putM at h;split at h
   ·rename_i e;cases h;exact⟨n,by omega,rfl,c,e.symm⟩
   obtain⟨k,h1,h2⟩:=Ce h;exact⟨k,by omega,h2⟩
  obtain⟨k,h1,h2⟩:=Ce h;exact⟨k,by omega,h2⟩
theorem FC : ∀{n k:Nat},k<n->ig f b k=VI->∃p,Lft.up (ju f b) n (λ_=>VF) (nth (nth f.blocks b).ins k).dst=VE p
 | 0,k,h,_=>by omega
 | n+1,k,h,hf=>by
  rw[up_add];unfold ju;by_cases e:k=n
  ·subst e;rw[if_pos hf];exact⟨k,by unfold putM;rw[if_pos rfl]⟩
  obtain⟨p,hp⟩:=FC (n:=n) (k:=k) V4 hf;split
  ·unfold putM;split
   ·exact⟨_,rfl⟩
   exact⟨p,hp⟩
  exact⟨p,hp⟩
theorem kH(hb:b<f.blocks.length){v p:Int}:mkU f b v=VE p↔∃k:Nat,k<(nth f.blocks b).ins.length/\p=k/\ig f b k=VI/\(nth (nth f.blocks b).ins k).dst=v:=by refine⟨Ce,?_⟩;rintro⟨k,hk,rfl,hf,rfl⟩;obtain⟨p,hp⟩:=FC hk hf;obtain⟨j,hj,rfl,hfj,hd⟩:=Ce hp;obtain⟨g1,g2,-⟩:=nX hf;obtain⟨-,g3,-⟩:=nX hfj;have:=(CD g1 (dz hb hj) (dz hb hk) (by rw[<-hd];exact mN g3) (mN g2)).2;have e:(j:Int)=(k:Int):=this;show mkU f b _=_;unfold mkU;rw[hp,e]
theorem xg{l:List Int}: ∀{c:Int},(∀v∈l,∀p,mk v=VE p->cost p=cost' p)->sumS mk cost c l=sumS mk cost' c l:=by
 induction l with
 | nil=>intro c _;rfl
 | cons v l ih=>
  intro c h;unfold sumS;cases hm:mk v with
  | none=>exact ih λw hw=>h w (RU _ hw)
  | some p=>
   dsimp only;rw[h v V5 p hm];cases cost' p with
   | none=>rfl
   | some n=>exact ih λw hw=>h w (RU _ hw)
theorem zO{i t:Nat}(h : ∀x,dy f b i (nth l t).pat=VE x->∀v∈x.takes,∀p,mk v=VE p->cost p=cost' p):wS f b l mk cost i t=wS f b l mk cost' i t:=by
 unfold wS;cases hx:dy f b i (nth l t).pat with
 | none=>rfl
 | some x=>exact xg (h x hx)
def zp (w:Nat->Option Int) (k:Nat) (c t:Option Int):Prop:=
 (c=VF/\t=VF/\∀j<k,w j=VF)\/∃(n:Int) (j:Nat),j<k/\c=VE n/\t=VE (j:Int)/\w j=VE n/\(∀j'<j,∀n',w j'=VE n'->n<n')/\∀j'<k,∀n',w j'=VE n'->n<=n'
theorem wD{β:Type}{m:Int->Option β}{i:Int}{v:β}:putM m i v i=VE v:=by unfold putM;rw[if_pos rfl]
theorem nv{β:Type}{m:Int->Option β}{i j:Int}{v:β}(h:j≠i):putM m i v j=m j:=by unfold putM;rw[if_neg h]
theorem Ak {i:Nat} (ha : ∀pat x,dy f b i pat=VE x->∀v∈x.takes,∀p,mk v=VE p->p<i) {s:CB} (h0:s.cost i=VF) (h1:s.best i=VF) :
  ∀k,(∀j:Int,j≠i->(Lft.up (cG f b l mk i) k s).cost j=s.cost j/\(Lft.up (cG f b l mk i) k s).best j=s.best j)/\zp (wS f b l mk s.cost i) k ((Lft.up (cG f b l mk i) k s).cost i) ((Lft.up (cG f b l mk i) k s).best i)
 | 0=>⟨λ_ _=>⟨rfl,rfl⟩,.inl ⟨h0,h1,λ_ h=>by omega⟩⟩
 | k+1=>by
  obtain⟨ih1,ih2⟩:=Ak ha h0 h1 k;rw[up_add];generalize Lft.up (cG f b l mk i) k s=q at *;have ew:wS f b l mk q.cost i k=wS f b l mk s.cost i k:=zO λx hx v hv p hp=>(ih1 p (by have:=ha _ x hx v hv p hp;omega)).1;unfold cG;rw[ew];cases hw:wS f b l mk s.cost i k with
  | none=>
   refine⟨ih1,?_⟩;rcases ih2 with⟨a1,a2,a3⟩ | ⟨n,j,a1,a2,a3,a4,a5,a6⟩
   ·refine .inl ⟨a1,a2,λj hj=>?_⟩;by_cases e:j=k
    ·rw[e];exact hw
    exact a3 j V4
   refine .inr ⟨n,j,by omega,a2,a3,a4,a5,λj' hj' n' hn'=>?_⟩;by_cases e:j'=k
   ·rw[e,hw]at hn';cases hn'
   exact a6 j' V4 n' hn'
  | some n=>
   dsimp only;rcases ih2 with⟨a1,a2,a3⟩ | ⟨m,j,a1,a2,a3,a4,a5,a6⟩
   ·rw[a1,if_pos (show Ah n VF=VI from rfl)];refine⟨λj hj=>⟨by show putM q.cost i n j=_;rw[nv hj];exact(ih1 j hj).1,by show putM q.best i (k:Int) j=_;rw[nv hj];exact(ih1 j hj).2⟩,.inr ⟨n,k,by omega,wD,wD,hw,λj' hj' n' hn'=>?_,λj' hj' n' hn'=>?_⟩⟩
    ·rw[a3 j' hj']at hn';cases hn'
    by_cases e:j'=k
    ·rw[e,hw]at hn';cases hn';omega
    rw[a3 j' V4]at hn';cases hn'
   rw[a2];by_cases c:n<m
   ·rw[if_pos (by simp[Ah,c])];refine⟨λj hj=>⟨by show putM q.cost i n j=_;rw[nv hj];exact(ih1 j hj).1,by show putM q.best i (k:Int) j=_;rw[nv hj];exact(ih1 j hj).2⟩,.inr ⟨n,k,by omega,wD,wD,hw,λj' hj' n' hn'=>?_,λj' hj' n' hn'=>?_⟩⟩
    ·have:=a6 j' hj' n' hn';omega
    by_cases e:j'=k
    ·rw[e,hw]at hn';cases hn';omega
    have:=a6 j' V4 n' hn';omega
   rw[if_neg (by simp[Ah,c])];refine⟨ih1,.inr ⟨m,j,by omega,a2,a3,a4,a5,λj' hj' n' hn'=>?_⟩⟩;by_cases e:j'=k
   ·rw[e,hw]at hn';cases hn';omega
   exact a6 j' V4 n' hn'
def oJ (f:ak) (b:Nat) (l:List aF) (mk:NMap) (s:CB) (i:Nat):Prop:=
 if ia f b i then s.cost i=sumS mk s.cost 0 (nth f.blocks b).term.args/\s.best i=VF else zp (wS f b l mk s.cost i) l.length (s.cost i) (s.best i)
theorem zp.congr{w w':Nat->Option Int}{k:Nat}{c t:Option Int}(h:zp w k c t)(e : ∀j<k,w' j=w j):zp w' k c t:=by
 rcases h with⟨a1,a2,a3⟩ | ⟨n,j,a1,a2,a3,a4,a5,a6⟩
 ·exact .inl ⟨a1,a2,λj hj=>by rw[e j hj];exact a3 j hj⟩
 exact .inr ⟨n,j,a1,a2,a3,by rw[e j a1];exact a4,λj' hj' n' hn'=>a5 j' hj' n' (by rw[<-e j' V4];exact hn'),λj' hj' n' hn'=>a6 j' hj' n' (by rw[<-e j' hj'];exact hn')⟩
theorem BX (ha : ∀(i:Nat) (pat:Int) (x:FitD),dy f b i pat=VE x->∀v∈x.takes,∀p,mk v=VE p->p<i) (hb : ∀v∈(nth f.blocks b).term.args,∀p,mk v=VE p->p<(nth f.blocks b).ins.length) :
  ∀n:Nat,(∀j:Int,¬j<n->(nO f b l mk n).cost j=VF/\(nO f b l mk n).best j=VF)/\∀i<n,oJ f b l mk (nO f b l mk n) i
 | 0=>⟨λ_ _=>⟨rfl,rfl⟩,λ_ h=>by omega⟩
 | n+1=>by
  obtain⟨ih1,ih2⟩:=BX ha hb n;have e:nO f b l mk (n+1)=plc8 f b l mk n (nO f b l mk n):=rfl;rw[e];generalize nO f b l mk n=s at *;have key:(∀j:Int,j≠n->(plc8 f b l mk n s).cost j=s.cost j/\(plc8 f b l mk n s).best j=s.best j)/\oJ f b l mk (plc8 f b l mk n s) n:=by
   obtain⟨z1,z2⟩:=ih1 n V4;unfold plc8 oJ;by_cases c:ia f b n=VI
   ·rw[if_pos c,if_pos c];have en:n=(nth f.blocks b).ins.length:=by unfold ia at c;simp at c;exact c.1
    cases hs:sumS mk s.cost 0 (nth f.blocks b).term.args with
    | none=>exact⟨λ_ _=>⟨rfl,rfl⟩,by dsimp only;rw[hs];exact z1,z2⟩
    | some m=>refine⟨λj hj=>⟨nv hj,rfl⟩,?_,z2⟩;show putM s.cost n m n=sumS mk (putM s.cost n m) 0 _;refine wD.trans (hs.symm.trans ?_);exact xg λv hv p hp=>(nv (j:=p) (i:=(n:Int)) (by have:=hb v hv p hp;omega)).symm
   rw[if_neg c,if_neg c];obtain⟨t1,t2⟩:=Ak (l:=l) (ha n) z1 z2 l.length;exact⟨t1,t2.congr λj _=>zO λx hx v hv p hp=>(t1 p (by have:=ha n _ x hx v hv p hp;omega)).1⟩
  obtain⟨k1,k2⟩:=key;generalize plc8 f b l mk n s=q at *;refine⟨λj hj=>?_,λi hi=>?_⟩
  ·obtain⟨x1,x2⟩:=k1 j V4;obtain⟨y1,y2⟩:=ih1 j V4;exact⟨x1.trans y1,x2.trans y2⟩
  by_cases e:i=n
  ·subst e;exact k2
  have o:=ih2 i V4;obtain⟨x1,x2⟩:=k1 i V4;unfold oJ at o ⊢;by_cases c:ia f b i=VI
  ·rw[if_pos c]at o ⊢;have en:i=(nth f.blocks b).ins.length:=by unfold ia at c;simp at c;exact c.1
   rw[x1,x2,o.1];exact⟨xg λv hv p hp=>(k1 p (by have:=hb v hv p hp;omega)).1.symm,o.2⟩
  rw[if_neg c]at o ⊢;rw[x1,x2];exact o.congr λj _=>zO λx hx v hv p hp=>(k1 p (by have:=ha i _ x hx v hv p hp;omega)).1
end
section
variable {f:ak} {b:Nat} {u:Int} {l l':List Int} {m:Nat}
theorem zi{i:Nat}{pat:Int}{x:FitD}(hsm:SmF f)(hr : ∀i∈fm f,-2147483648<=i.imm.v/\i.imm.v<=2147483647)(hb:b<f.blocks.length)(hi:i<=(nth f.blocks b).ins.length)(h:dy f b i pat=VE x):
  mH f b i (if i<(nth f.blocks b).ins.length then(nth (nth f.blocks b).ins i).args else(nth f.blocks b).term.args) x.takes x.inner:=by
 unfold dy fO at h;split at h
 ·split at h
  ·rename_i c;simp only[RV]at c;exact DX (ld c.2) hsm hr hb hi h
  cases h
 cases h
end
section
variable{D:Nat->Int}
theorem Ke{l l':List Nat}(h:l.Perm l'):(l.map D).sum=(l'.map D).sum:=by
 induction h with
 | nil=>rfl
 | cons a _ ih=>simp[ih]
 | swap a b l=>simp;omega
 | trans _ _ h1 h2=>exact h1.trans h2
theorem D1 {D:Nat->Int} {kids:Nat->List Nat} : ∀{l:List Nat},((l.flatMap kids).map D).sum=(l.map λj=>((kids j).map D).sum).sum
 | []=>rfl
 | a::l=>by simp[D1 (l:=l)]
theorem AM {D:Nat->Int} {p:Nat->Bool} : ∀{l:List Nat},(l.map D).sum=((l.filter p).map D).sum+((l.filter λi=>!p i).map D).sum
 | []=>rfl
 | a::l=>by have ih:=AM (D:=D) (p:=p) (l:=l);cases h:p a<;>simp[h,ih]<;>omega
theorem DI {D E F:Nat->Int} : ∀{l:List Nat},(∀j∈l,D j=E j+F j)->(l.map D).sum=(l.map E).sum+(l.map F).sum
 | [],_=>rfl
 | a::l,h=>by have ih:=DI (l:=l) λj hj=>h j (RU _ hj);have:=h a V5;simp[ih];omega
theorem Ap {kids:Nat->List Nat} : ∀{l:List Nat},l.Nodup->(∀j∈l,(kids j).Nodup)->(∀j∈l,∀j'∈l,∀i,i∈kids j->i∈kids j'->j=j')->(l.flatMap kids).Nodup
 | [],_,_,_=>TS
 | a::l,h1,h2,h3=>by rw[TK]at h1;rw[TC,SX];refine⟨h2 a V5,Ap h1.2 (λj hj=>h2 j (RU _ hj)) (λj hj j' hj'=>h3 j (RU _ hj) j' (RU _ hj')),λx hx y hy e=>?_⟩;subst e;obtain⟨j,hj,hxj⟩:=SS.1 hy;have:=h3 a V5 j (RU _ hj) x hx hxj;exact h1.1 (this▸hj)
variable{kids:Nat->List Nat}
theorem ED{K:Nat}{root fold:Nat->Bool}{tc:Nat->Int}(hr : ∀i<K,root i=VI↔fold i=VJ\/∃j<K,root j=VI/\i∈kids j)(hk : ∀j<K,root j=VI->∀i∈kids j,i<K/\fold i=VI)(hn : ∀j<K,root j=VI->(kids j).Nodup)(hu : ∀j<K,∀j'<K,root j=VI->root j'=VI->∀i,i∈kids j->i∈kids j'->j=j')(hD : ∀j<K,root j=VI->D j=tc j+((kids j).map D).sum):
  (((List.range K).filter root).map tc).sum=(((List.range K).filter λi=>!fold i).map D).sum:=by
 obtain⟨R,hR⟩ : ∃R,R=(List.range K).filter root:=⟨_,rfl⟩;have mR : ∀j,j∈R↔j<K/\root j=true:=λj=>by rw[hR];simp
 have nR:R.Nodup:=by rw[hR];exact List.Pairwise.filter _ List.nodup_range
 rw[<-hR];have e1:(R.map D).sum=(R.map tc).sum+(R.map λj=>((kids j).map D).sum).sum:=DI λj hj=>hD j ((mR j).1 hj).1 ((mR j).1 hj).2;have e2:(R.flatMap kids).Perm (R.filter fold):=by
  refine(List.perm_ext_iff_of_nodup (Ap nR (λj hj=>hn j ((mR j).1 hj).1 ((mR j).1 hj).2) λj hj j' hj'=>hu j ((mR j).1 hj).1 j' ((mR j').1 hj').1 ((mR j).1 hj).2 ((mR j').1 hj').2) (List.Pairwise.filter _ nR)).2 λi=>?_;rw[SS,TE,mR];constructor
  ·rintro⟨j,hj,hi⟩;obtain⟨g1,g2⟩:=(mR j).1 hj;obtain⟨k1,k2⟩:=hk j g1 g2 i hi;exact⟨⟨k1,(hr i k1).2 (.inr ⟨j,g1,g2,hi⟩)⟩,k2⟩
  rintro⟨⟨h1,h2⟩,h3⟩;rcases(hr i h1).1 h2 with h | ⟨j,g1,g2,g3⟩
  ·rw[h3]at h;cases h
  exact⟨j,(mR j).2 ⟨g1,g2⟩,g3⟩
 have e3:=AM (D:=D) (p:=fold) (l:=R);have e4:(R.filter λi=>!fold i)=(List.range K).filter λi=>!fold i:=by
  rw[hR,List.filter_filter];refine UH λi hi=>?_;have hi:i<K:=by simpa using hi
  cases hf:fold i with
  | true=>simp
  | false=>simp[(hr i hi).2 (.inl hf)]
 rw[<-D1,Ke e2]at e1;rw[e4]at e3;omega
end
section
variable {f:ak} {b:Nat} {l:List aF}
def ownP (f:ak) (b i:Nat):List Int:=if i<(nth f.blocks b).ins.length then(nth (nth f.blocks b).ins i).args else(nth f.blocks b).term.args
theorem tg(hb:b<f.blocks.length){i:Nat}(hi:i<=(nth f.blocks b).ins.length): ∃t∈aC f,t.blk=b/\t.place=i/\t.tks=ownP f b i:=by
 unfold ownP;by_cases e:i<(nth f.blocks b).ins.length
 ·rw[if_pos e];exact⟨_,dz hb e,rfl,rfl,rfl⟩
 rw[if_neg e];exact⟨_,wM hb,rfl,by show((nth f.blocks b).ins.length:Int)=i;omega,rfl⟩
def innP (f:ak) (b:Nat) (l:List aF) (best:NMap) (i:Nat):List Int:=match best i with
 | some t=>Hq (dy f b i (nth l t.toNat).pat)
 | none=>[]
structure Okf (f:ak):Prop where
 may:kP f
 sm:SmF f
 imm : ∀i∈fm f,-2147483648<=i.imm.v/\i.imm.v<=2147483647
variable{best:NMap}
theorem mw(o:Okf f)(hb:b<f.blocks.length){i:Nat}(hi:i<=(nth f.blocks b).ins.length):mH f b i (ownP f b i) (jy f b l best i) (innP f b l best i):=by
 obtain⟨t,ht,htb,htp,htk⟩:=tg hb hi;have none_ : ∀{r:List Int},(∀v,r.count v<=t.tks.count v)->mH f b i (ownP f b i) r []:=λh=>by have:=eR (f:=f) (b:=b) (i:=(i:Int)) ht h;rw[htk]at this;exact this
 unfold jy innP;cases best i with
 | none=>
  dsimp only;split
  ·rename_i e;refine none_ λv=>?_;rw[htk];unfold ownP;rw[if_neg V4];exact RQ _
  exact none_ λv=>To _
 | some u=>
  dsimp only;cases hx:dy f b i (nth l u.toNat).pat with
  | none=>exact none_ λv=>To _
  | some x=>exact zi o.sm o.imm hb hi hx
theorem og(o:Okf f)(hb:b<f.blocks.length){i:Nat}(hi:i<=(nth f.blocks b).ins.length){v:Int}(hv:v∈jy f b l best i\/v∈innP f b l best i):
  ∃c:Nat,c<=i/\v∈ownP f b c/\(c=i\/c<i/\c<(nth f.blocks b).ins.length/\(nth (nth f.blocks b).ins c).op≠16/\(nth (nth f.blocks b).ins c).dst∈innP f b l best i):=by
 have io:=mw (l:=l) (best:=best) o hb hi;have key:v∈ownP f b i\/∃u∈innP f b l best i,ES f b i u λx=>v∈x.args:=by
  rcases hv with hv | hv
  ·exact io.from_ v hv
  exact io.inn v hv
 rcases key with h | ⟨u,hu,m,h1,h2,h3,h4,h5⟩
 ·exact⟨i,RQ _,h,.inl rfl⟩
 exact⟨m,by omega,by unfold ownP;rw[if_pos h1];exact h5,.inr ⟨by omega,h1,h3,by rw[h4];exact hu⟩⟩
def iL (f:ak) (b:Nat) (l:List aF) (best:NMap) (i:Nat):List Nat:=(jy f b l best i).filterMap λv=>(mkU f b v).map Int.toNat
theorem nS{i p:Nat}(hb:b<f.blocks.length):p∈iL f b l best i↔∃v∈jy f b l best i,p<(nth f.blocks b).ins.length/\ig f b p=VI/\(nth (nth f.blocks b).ins p).dst=v:=by
 unfold iL;rw[TQ];constructor
 ·rintro⟨v,hv,e⟩;obtain⟨q,hq,rfl⟩:=RY.1 e;obtain⟨k,hk,rfl,hf,hd⟩:=(kH hb).1 hq;exact⟨v,hv,by simpa using hk,by simpa using hf,by simpa using hd⟩
 rintro⟨v,hv,h1,h2,h3⟩;exact⟨v,hv,by rw[(kH hb).2 ⟨p,h1,rfl,h2,h3⟩];rfl⟩
theorem pK(hb:b<f.blocks.length){c p:Nat}(hc:c<=(nth f.blocks b).ins.length)(hp:p<(nth f.blocks b).ins.length)(hf:ig f b p=VI)(hv:(nth (nth f.blocks b).ins p).dst∈ownP f b c):p<c:=by obtain⟨t,ht,htb,htp,htk⟩:=tg hb hc;obtain⟨g1,g2,-⟩:=nX hf;have:=(mE g1 (dz hb hp) ht (mN g2) (by rw[htk];exact hv)).2;rw[htp]at this;have q:(p:Int)<c:=this;omega
theorem Cy(o:Okf f)(hb:b<f.blocks.length){i p:Nat}(hi:i<=(nth f.blocks b).ins.length)(h:p∈iL f b l best i):p<i:=by obtain⟨v,hv,h1,h2,rfl⟩:=(nS hb).1 h;obtain⟨c,hc,h3,-⟩:=og o hb hi (.inl hv);have:=pK hb V4 h1 h2 h3;omega
theorem Jq{mk:NMap}{l:List Int}: ∀{m:Int->Bool} {q:Int},l.foldl (km mk) m q=(m q&&!(l.any λv=>decide (mk v=VE q))):=by
 induction l with
 | nil=>intro m q;simp
 | cons v l ih=>
  intro m q;rw[Su,ih,Vq];unfold km;cases hv:mk v with
  | none=>simp
  | some p=>
   dsimp only;by_cases e:q=p
   ·subst e;simp
   rw[if_neg e];simp[Ne.symm e]
theorem A9(hb:b<f.blocks.length){i q:Nat}{m:Int->Bool}:iM f b l best i m q=(m q&&!(!m i&&decide (q∈iL f b l best i))):=by
 unfold iM;cases hm:m i with
 | true=>simp
 | false=>
  rw[if_neg V5,Jq];congr 2;rw[SC];simp only[TP,decide_eq_true_eq,Bool.not_false,T3];unfold iL;rw[TQ];constructor
  ·rintro⟨v,hv,e⟩;exact⟨v,hv,by rw[e];simp⟩
  rintro⟨v,hv,e⟩;obtain⟨p,hp,e2⟩:=RY.1 e;obtain⟨k,hk,rfl,-⟩:=(kH hb).1 hp;exact⟨v,hv,by rw[hp];simp at e2;rw[e2]⟩
theorem AO (hb:b<f.blocks.length) {best:NMap} {n:Nat} : ∀{K:Nat} {m:Int->Bool},(∀i<K,∀p∈iL f b l best i,p<i)->
  ∀q:Nat,offs f b l best n K m q=VI↔m q=VI/\∀i<K,offs f b l best n K m i=VJ->q∉iL f b l best i
 | 0,m,_,q=>by simp[offs]
 | K+1,m,hk,q=>by
  have ih:=AO hb (n:=n) (K:=K) (m:=iM f b l best K m) (λi hi=>hk i V4);have e:offs f b l best n (K+1) m=offs f b l best n K (iM f b l best K m):=rfl;rw[e];have eK:(offs f b l best n K (iM f b l best K m) K=VI)↔m K=true:=by
   rw[ih K,A9 hb];have n1:K∉iL f b l best K:=λh=>by have:=hk K V4 K h;omega
   have n2 : ∀i<K,K∉iL f b l best i:=λi hi h=>by have:=hk i V4 K h;omega
   simp[n1];exact λ_ i hi _=>n2 i hi
  rw[ih q,A9 hb];have eKf:(offs f b l best n K (iM f b l best K m) K=VJ)↔m K=false:=by rw[<-Bool.not_eq_true,eK,Uc]
  constructor
  ·rintro⟨h1,h2⟩;simp only[RV,SK,TY,Ux,decide_eq_false_iff_not]at h1;refine⟨h1.1,λi hi hf=>?_⟩;by_cases ei:i=K
   ·subst ei;rw[eKf]at hf;rcases h1.2 with h | h
    ·rw[hf]at h;cases h
    exact h
   exact h2 i V4 hf
  rintro⟨h1,h2⟩;refine⟨?_,λi hi hf=>h2 i V4 hf⟩;simp only[RV,SK,TY,Ux,decide_eq_false_iff_not];refine⟨h1,?_⟩;cases hm:m K with
  | true=>exact .inl rfl
  | false=>exact .inr (h2 K V4 (eKf.2 hm))
def nV (f:ak) (b:Nat) (l:List aF) (best:NMap) (i:Nat):Bool:=!offs f b l best 0 ((nth f.blocks b).ins.length+1) (fh f b) i
theorem vC(o:Okf f)(hb:b<f.blocks.length){i:Nat}(hi:i<=(nth f.blocks b).ins.length):
  nV f b l best i=VI↔fh f b i=VJ\/∃j<(nth f.blocks b).ins.length+1,nV f b l best j=VI/\i∈iL f b l best j:=by
 have h:=AO (l:=l) (n:=0) hb (K:=(nth f.blocks b).ins.length+1) (m:=fh f b) (best:=best) (λi hi p hp=>Cy o hb V4 hp) i;unfold nV;rw[SK,<-Bool.not_eq_true,h];constructor
 ·intro hn;cases hm:fh f b i with
  | false=>exact .inl rfl
  | true=>refine .inr (Classical.byContradiction λhx=>hn ⟨hm,λj hj hf hq=>hx ⟨j,hj,?_,hq⟩⟩);rw[hf];rfl
 rintro(h1 | ⟨j,hj,h1,h2⟩) ⟨h3,h4⟩
 ·rw[h1]at h3;cases h3
 exact h4 j hj (by simpa using h1) h2
theorem uq{i:Nat}:fh f b i=VI↔i<(nth f.blocks b).ins.length/\ig f b i=true:=by unfold fh;simp
theorem NL(hb:b<f.blocks.length){k:Nat}(hk:k<(nth f.blocks b).ins.length)(h16:(nth (nth f.blocks b).ins k).op≠16)(hf:cy f (nth (nth f.blocks b).ins k).dst=VI):(nth (nth f.blocks b).ins k).op≠18:=by
 have e:=AQ hf;have m1:((insT f b k).blk,(insT f b k).place)∈lO (nth (nth f.blocks b).ins k).dst (aC f):=lM.2 (.inr ⟨_,dz hb hk,rfl,mN h16⟩);have m1:((b:Int),(k:Int))∈lO (nth (nth f.blocks b).ins k).dst (aC f):=m1;unfold cy jF at hf;simp only[RV]at hf;match hl:lO (nth (nth f.blocks b).ins k).dst (aC f),e with
 | [y],_=>
  rw[hl]at m1 hf;have hy:y=((b:Int),(k:Int)):=(RR.1 m1).symm;subst hy;have h2:=hf.2.2;have h2:[(1:Int),2,4,11,12,13].contains (nth (nth f.blocks b).ins k).op=true:=by have:nth [((b:Int),(k:Int))] 0=((b:Int),(k:Int)):=rfl;rw[this]at h2;simpa using h2
  intro h18;rw[h18]at h2;simp at h2
theorem Ht(hb:b<f.blocks.length){k:Nat}(hk:k<(nth f.blocks b).ins.length)(h16:(nth (nth f.blocks b).ins k).op≠16)(hf:cy f (nth (nth f.blocks b).ins k).dst=VI):ig f b k=true:=by unfold ig;simp[h16,NL hb hk h16 hf,hf]
theorem tx (o:Okf f) (hb:b<f.blocks.length) {best:NMap} {R:Nat->Prop} (hR : ∀r,R r->r<=(nth f.blocks b).ins.length)
  (hp : ∀r,R r->(∀s,R s->r<(nth f.blocks b).ins.length->(nth (nth f.blocks b).ins r).op≠16->(nth (nth f.blocks b).ins r).dst∉innP f b l best s)\/∃q,R q/\r∈iL f b l best q) :
  ∀(d:Nat) {v:Int} {i j c:Nat},(nth f.blocks b).ins.length<c+d->cy f v=VI->c<=(nth f.blocks b).ins.length->v∈ownP f b c->R i->R j->(v∈jy f b l best i\/v∈innP f b l best i)->(v∈jy f b l best j\/v∈innP f b l best j)->i=j
 | 0,v,i,j,c,hd,_,hc,_,_,_,_,_=>by omega
 | d+1,v,i,j,c,hd,hf,hc,hcv,ri,rj,vi,vj=>by
  have hi:=hR i ri;have hj:=hR j rj;obtain⟨ci,hci,ki,ai⟩:=og o hb hi vi;obtain⟨cj,hcj,kj,aj⟩:=og o hb hj vj;have same : ∀{x:Nat},x<=(nth f.blocks b).ins.length->v∈ownP f b x->x=c:=fun{x} hx hv=>by obtain⟨t,ht,_,htp,htk⟩:=tg hb hx;obtain⟨t',ht',_,htp',htk'⟩:=tg hb hc;have:=(qx hf ht ht' (by rw[htk];exact hv) (by rw[htk'];exact hcv)).2;rw[htp,htp']at this;omega
  have e1:=same V4 ki;have e2:=same V4 kj;subst e1;subst e2;have clash : ∀{r s:Nat},R r->R s->cj=r->cj<(nth f.blocks b).ins.length->(nth (nth f.blocks b).ins cj).op≠16->(nth (nth f.blocks b).ins cj).dst∈innP f b l best s->False:=by
   intro r s rr rs er hlt h16 hin;subst er;have io:=mw (l:=l) (best:=best) o hb (hR s rs);have hfu:=io.fold _ hin;rcases hp _ rr with h0 | ⟨q,rq,hkq⟩
   ·exact h0 s rs hlt h16 hin
   obtain⟨u,hu,g1,g2,g3⟩:=(nS hb).1 hkq;obtain⟨c2,hc2,k2,a2⟩:=og o hb (hR q rq) (.inl hu);have hlt2:=pK (c:=c2) hb (by have:=hR q rq;omega) g1 g2 (by rw[g3];exact k2);have:=tx o hb hR hp d (v:=u) (i:=q) (j:=s) (c:=c2) V4 (by rw[<-g3];exact hfu) (by have:=hR q rq;omega) k2 rq rs (.inl hu) (.inr (by rw[<-g3];exact hin));subst this;exact io.out _ hin (by rw[g3];exact hu)
  rcases ai with rfl | ⟨a1,a2,a3,a4⟩
  ·rcases aj with rfl | ⟨b1,b2,b3,b4⟩
   ·rfl
   exact(clash ri rj rfl b2 b3 b4).elim
  rcases aj with rfl | ⟨b1,b2,b3,b4⟩
  ·exact(clash rj ri rfl a2 a3 a4).elim
  have io:=mw (l:=l) (best:=best) o hb hi;have hfu:=io.fold _ a4;obtain⟨c2,hc2,k2,-⟩:=og o hb hi (.inr a4);have hlt2:=pK (c:=c2) hb V4 a2 (Ht hb a2 a3 hfu) k2;exact tx o hb hR hp d (c:=c2) V4 hfu V4 k2 ri rj (.inr a4) (.inr b4)
theorem JC(o:Okf f)(hb:b<f.blocks.length)(d:Nat){v:Int}{i j c:Nat}(hd:(nth f.blocks b).ins.length<c+d)(hf:cy f v=VI)(hc:c<=(nth f.blocks b).ins.length)(hv:v∈ownP f b c)(hi:i<=(nth f.blocks b).ins.length)(hj:j<=(nth f.blocks b).ins.length)(ri:nV f b l best i=VI)(rj:nV f b l best j=VI)(vi:v∈jy f b l best i\/v∈innP f b l best i)(vj:v∈jy f b l best j\/v∈innP f b l best j):i=j:=
 tx (R:=λr=>r<=(nth f.blocks b).ins.length/\nV f b l best r=VI) o hb (λr h=>h.1) (λr h=>by
  rcases(vC o hb h.1).1 h.2 with h0 | ⟨q,hq,rq,hk⟩
  ·refine .inl λs hs hlt h16 hin=>?_;have hfu:=(mw (l:=l) (best:=best) o hb hs.1).fold _ hin;rw[uq.2 ⟨hlt,Ht hb hlt h16 hfu⟩]at h0;cases h0
  exact .inr ⟨q,⟨by omega,rq⟩,hk⟩) d hd hf hc hv ⟨hi,ri⟩ ⟨hj,rj⟩ vi vj
end
section
variable {f:ak} {b:Nat} {l:List aF}
theorem rz {g:Int->Option Nat} : ∀{l:List Int},(∀v,g v≠VF->l.count v<=1)->(∀v v' p,g v=VE p->g v'=VE p->v=v')->(l.filterMap g).Nodup
 | [],_,_=>TS
 | a::l,h,hi=>by
  have ih:=rz (g:=g) (l:=l) (λv hv=>Sk (List.count_le_count_cons) (h v hv)) hi;rw[List.filterMap_cons];cases hg:g a with
  | none=>exact ih
  | some p=>dsimp only;rw[TK];refine⟨λhm=>?_,ih⟩;obtain⟨v,hv,e⟩:=TQ.1 hm;have:=hi a v p hg e;subst this;have h1:=h a (by rw[hg];simp);rw[Uk]at h1;have:=SN.2 hv;omega
variable{best:NMap}
theorem yN(o:Okf f)(hb:b<f.blocks.length){i:Nat}(hi:i<=(nth f.blocks b).ins.length):(iL f b l best i).Nodup:=by
 have io:=mw (l:=l) (best:=best) o hb hi;unfold iL;refine rz (λv hv=>?_) λv v' p h1 h2=>?_
 ·cases hm:mkU f b v with
  | none=>rw[hm]at hv;exact absurd rfl hv
  | some p=>obtain⟨k,h1,rfl,h3,rfl⟩:=(kH hb).1 hm;exact io.cnt _ (nX h3).1
 obtain⟨q,hq,rfl⟩:=RY.1 h1;obtain⟨r,hr,e⟩:=RY.1 h2;obtain⟨k,a1,rfl,a3,rfl⟩:=(kH hb).1 hq;obtain⟨j,b1,rfl,b3,rfl⟩:=(kH hb).1 hr;simp at e;rw[e]
variable{D:Nat->Int}
theorem Je(o:Okf f)(hb:b<f.blocks.length){tc:Nat->Int}(hD : ∀j≤(nth f.blocks b).ins.length,nV f b l best j=VI->D j=tc j+((iL f b l best j).map D).sum):
  (((List.range ((nth f.blocks b).ins.length+1)).filter λi:Nat=>nV f b l best i).map tc).sum=(((List.range ((nth f.blocks b).ins.length+1)).filter λi:Nat=>!fh f b (i:Int)).map D).sum:=by
 refine ED (kids:=iL f b l best) (fold:=λi=>fh f b (i:Int)) (λi hi=>vC o hb V4) (λj hj _ i hi=>?_) (λj hj _=>yN o hb V4) (λj hj j' hj' r r' i hi hi'=>?_) λj hj r=>hD j V4 r
 ·obtain⟨v,_,h1,h2,_⟩:=(nS hb).1 hi;exact⟨by omega,uq.2 ⟨h1,h2⟩⟩
 obtain⟨v,hv,h1,h2,rfl⟩:=(nS hb).1 hi;obtain⟨v',hv',_,_,rfl⟩:=(nS hb).1 hi';obtain⟨c,hc,h3,-⟩:=og o hb (show j<=_ by omega) (.inl hv);exact JC o hb ((nth f.blocks b).ins.length+1) (c:=c) V4 (nX h2).1 V4 h3 V4 V4 r r' (.inl hv) (.inl hv')
theorem Ns{cost:NMap}(hb:b<f.blocks.length){l:List Int}: ∀{c m:Int},sumS (mkU f b) cost c l=VE m->m=c+((l.filterMap λv=>(mkU f b v).map Int.toNat).map λp:Nat=>(cost p).getD 0).sum/\∀v∈l,∀p,mkU f b v=VE p->∃n,cost p=VE n:=by
 induction l with
 | nil=>intro c m h;cases h;simp
 | cons v l ih=>
  intro c m h;unfold sumS at h;cases hm:mkU f b v with
  | none=>
   rw[hm]at h;obtain⟨h1,h2⟩:=ih h;refine⟨by rw[h1];simp[hm],λw hw p hp=>?_⟩;rcases Sb.1 hw with rfl | hw
   ·rw[hm]at hp;cases hp
   exact h2 w hw p hp
  | some p=>
   rw[hm]at h;dsimp only at h;obtain⟨k,a1,rfl,a3,a4⟩:=(kH hb).1 hm;cases hc:cost (k:Int)with
   | none=>rw[hc]at h;cases h
   | some n=>
    rw[hc]at h;obtain⟨h1,h2⟩:=ih h;refine⟨by rw[h1];simp[hm,hc];omega,λw hw p hp=>?_⟩;rcases Sb.1 hw with rfl | hw
    ·rw[hm]at hp;cases hp;exact⟨n,hc⟩
    exact h2 w hw p hp
theorem LO{mk cost:NMap}{l:List Int}: ∀{c:Int},(∀v∈l,∀p,mk v=VE p->∃n,cost p=VE n)->∃m,sumS mk cost c l=VE m:=by
 induction l with
 | nil=>intro c _;exact⟨c,rfl⟩
 | cons v l ih=>
  intro c h;unfold sumS;cases hm:mk v with
  | none=>exact ih λw hw=>h w (RU _ hw)
  | some p=>obtain⟨n,hn⟩:=h v V5 p hm;dsimp only;rw[hn];exact ih λw hw=>h w (RU _ hw)
theorem rU(o:Okf f)(hb:b<f.blocks.length)(i:Nat)(pat:Int)(x:FitD)(hx:dy f b i pat=VE x)(v:Int)(hv:v∈x.takes)(p:Int)(hp:mkU f b v=VE p):p<i:=by
 have hi:i<=(nth f.blocks b).ins.length:=by
  unfold dy fO at hx;split at hx
  ·split at hx
   ·rename_i c;simp[dq]at c;omega
   cases hx
  cases hx
 have io:=zi o.sm o.imm hb hi hx;obtain⟨k,a1,rfl,a3,rfl⟩:=(kH hb).1 hp;rcases io.from_ _ hv with h | ⟨u,hu,m,g1,g2,g3,g4,g5⟩
 ·have:=pK hb hi a1 a3 h;omega
 have:=pK (c:=m) hb V4 a1 a3 (by unfold ownP;rw[if_pos g1];exact g5);omega
theorem zJ(hb:b<f.blocks.length)(v:Int)(hv:v∈(nth f.blocks b).term.args)(p:Int)(hp:mkU f b v=VE p):p<(nth f.blocks b).ins.length:=by obtain⟨k,a1,rfl,a3,rfl⟩:=(kH hb).1 hp;omega
theorem vF(o:Okf f)(hb:b<f.blocks.length): ∀i≤(nth f.blocks b).ins.length,oJ f b l (mkU f b) (bD f b l) i:=λi hi=>(BX (rU o hb) (zJ hb) ((nth f.blocks b).ins.length+1)).2 i V4
def tN (f:ak) (b:Nat) (l:List aF) (i:Nat):Int:=((bD f b l).cost i).getD 0
def oy (l:List aF) (best:NMap) (i:Nat):Int:=match best i with | some t=>(nth l t.toNat).cost | none=>0
theorem qX(o:Okf f)(hb:b<f.blocks.length){i:Nat}(hi:i<=(nth f.blocks b).ins.length){c:Int}(hc:(bD f b l).cost i=VE c):
  tN f b l i=oy l (bD f b l).best i+((iL f b l (bD f b l).best i).map (tN f b l)).sum/\∀p∈iL f b l (bD f b l).best i,∃n,(bD f b l).cost (p:Int)=VE n:=by
 have h:=vF (l:=l) o hb i hi;have key : ∀{cc:Int} {r:List Int},sumS (mkU f b) (bD f b l).cost cc r=VE c->jy f b l (bD f b l).best i=r->cc=oy l (bD f b l).best i->
   tN f b l i=oy l (bD f b l).best i+((iL f b l (bD f b l).best i).map (tN f b l)).sum/\∀p∈iL f b l (bD f b l).best i,∃n,(bD f b l).cost (p:Int)=VE n:=by
  intro cc r hs ht hcc;obtain⟨h1,h2⟩:=Ns hb hs;refine⟨?_,λp hp=>?_⟩
  ·unfold tN;rw[hc];show c=_;rw[h1,hcc];unfold iL;rw[ht];try rfl
  unfold iL at hp;rw[ht]at hp;obtain⟨v,hv,e⟩:=TQ.1 hp;obtain⟨q,hq,rfl⟩:=RY.1 e;obtain⟨k,a1,rfl,-⟩:=(kH hb).1 hq;simpa using h2 v hv _ hq
 unfold oJ at h;by_cases cb:ia f b i=VI
 ·rw[if_pos cb]at h;rw[h.1]at hc;have en:i=(nth f.blocks b).ins.length:=by unfold ia at cb;simp at cb;exact cb.1
  refine key hc ?_ ?_
  ·unfold jy;rw[h.2];dsimp only;rw[if_pos en]
  unfold oy;rw[h.2]
 rw[if_neg cb]at h;rcases h with⟨a1,-,-⟩ | ⟨n,j,a1,a2,a3,a4,-,-⟩
 ·rw[a1]at hc;cases hc
 rw[a2]at hc;cases hc;unfold wS at a4;cases hx:dy f b i (nth l j).pat with
 | none=>rw[hx]at a4;cases a4
 | some x=>
  rw[hx]at a4;refine key a4 ?_ ?_
  ·unfold jy;rw[a3];dsimp only;rw[Si,hx];rfl
  unfold oy;rw[a3];dsimp only;rw[Si]
theorem JH {g:Wh} {v:Int} : ∀{n:Nat},(∃w,g v=VE w)->∃w,Lft.up (jq f b) n g v=VE w
 | 0,h=>h
 | n+1,h=>by
  obtain⟨w,hw⟩:=JH (n:=n) h;rw[up_add];unfold jq;split
  ·unfold putM;split
   ·exact⟨_,rfl⟩
   exact⟨w,hw⟩
  exact⟨w,hw⟩
theorem Jo{k:Nat}{g:Wh}:jq f b k g=if ig f b k then putM g (nth (nth f.blocks b).ins k).dst ((b:Int),(k:Int)) else g:=rfl
theorem KH {g:Wh} : ∀{n k:Nat},k<n->ig f b k=VI->∃w,Lft.up (jq f b) n g (nth (nth f.blocks b).ins k).dst=VE w
 | 0,k,h,_=>by omega
 | n+1,k,h,hf=>by
  rw[up_add];by_cases e:k=n
  ·subst e;rw[Jo,if_pos hf];exact⟨_,by unfold putM;rw[if_pos rfl]⟩
  obtain⟨w,hw⟩:=KH (g:=g) (n:=n) (k:=k) V4 hf;unfold jq;split
  ·unfold putM;split
   ·exact⟨_,rfl⟩
   exact⟨w,hw⟩
  exact⟨w,hw⟩
theorem KV {k:Nat} (hk:k<(nth f.blocks b).ins.length) (hf:ig f b k=VI) : ∀{n:Nat},b<n->∃w,whTo f n (nth (nth f.blocks b).ins k).dst=VE w
 | 0,h=>by omega
 | n+1,h=>by
  rw[xC];by_cases e:b=n
  ·subst e;exact KH hk hf
  exact JH (KV hk hf V4)
theorem Qm(hb:b<f.blocks.length){k:Nat}(hk:k<(nth f.blocks b).ins.length)(hf:ig f b k=VI):whS f (nth (nth f.blocks b).ins k).dst=VE ((b:Int),(k:Int)):=by obtain⟨w,hw⟩:=KV hk hf hb;have hw:whS f (nth (nth f.blocks b).ins k).dst=VE w:=hw;obtain⟨b',k',h1,h2,rfl,h4,h5,h6,h7⟩:=CI hw;obtain⟨g1,g2,-⟩:=nX hf;have:=CD g1 (dz h1 h2) (dz hb hk) (by rw[<-h4];exact mN h5) (mN g2);have e1:(b':Int)=b:=this.1;have e2:(k':Int)=k:=this.2;rw[hw,e1,e2]
theorem Ea (o:Okf f) (hr:ll f=VI) (hb:b<f.blocks.length) (ht:(eA l).1=0) : ∀(m i:Nat),i<=(nth f.blocks b).ins.length->canS f (hasS l) (whS f) m b i=VI->∃c,(bD f b l).cost i=VE c
 | 0,i,_,h=>by cases h
 | m+1,i,hi,h=>by
  obtain⟨pat,hp⟩:=sL.1 h;unfold canP at hp;simp only[RV]at hp;obtain⟨hh,hf⟩:=hp;cases hx:tryS (eh f b i 0) pat with
  | none=>rw[hx]at hf;cases hf
  | some x=>
   rw[hx]at hf;have hall : ∀v∈x.takes,∀p,mkU f b v=VE p->∃n,(bD f b l).cost p=VE n:=by intro v hv p hq;obtain⟨k,a1,rfl,a3,rfl⟩:=(kH hb).1 hq;have:=SF.1 hf _ hv;rw[Qm hb a1 a3]at this;exact Ea o hr hb ht m k V4 this
   have hpl:dq f b i=true:=by simp[dq];omega
   have hk:=vF (l:=l) o hb i hi;unfold oJ at hk;have hts:=(o.may.endG hb).1;have hsite:(i=(nth f.blocks b).ins.length/\gI f (nth f.blocks b).term pat=VE x)\/(i<(nth f.blocks b).ins.length/\1<=pat):=by
    unfold eh at hx;rw[show((b:Int)).toNat=b by omega]at hx;by_cases e:i=(nth f.blocks b).ins.length
    ·rw[if_pos V4]at hx;exact .inl ⟨e,hx⟩
    rw[if_neg V4]at hx;refine .inr ⟨by omega,?_⟩;have hx:patS f _ 0 pat=VE x:=hx;unfold patS at hx;split at hx
    ·rename_i c;exact c.1
    cases hx
   by_cases cb:ia f b i=VI
   ·rw[if_pos cb]at hk;rw[hk.1];refine LO λv hv p hq=>hall v ?_ p hq;unfold ia at cb;simp only[RV,decide_eq_true_eq]at cb;rcases hsite with⟨-,he⟩ | ⟨h1,-⟩
    ·have hkd:(nth f.blocks b).term.kind=1\/(nth f.blocks b).term.kind=4\/(nth f.blocks b).term.kind=5:=by have:=cb.2;unfold yQ at this;simp at this;omega
     generalize (nth f.blocks b).term=t at *;unfold lh at hts;unfold gI at he;rcases hkd with kd | kd | kd
     ·rw[if_pos kd]at hts;simp at hts;rw[hts.1]at hv;cases hv
     ·split at he
      ·omega
      split at he
      ·cases he;exact hv
      split at he
      ·omega
      split at he
      ·omega
      split at he
      ·omega
      split at he
      ·omega
      cases he
     rw[if_neg V4,if_neg V4,if_neg V4,if_neg V4,if_pos kd]at hts;simp at hts;rw[hts.1]at hv;cases hv
    omega
   rw[if_neg cb]at hk;have hpat:1<=pat:=by
    rcases hsite with⟨e1,he⟩ | ⟨-,h1⟩
    ·refine Classical.byContradiction λhn=>?_;have nb:¬yQ (nth f.blocks b).term=true:=λe=>cb (by unfold ia;simp[e1,e]);unfold yQ at nb;simp at nb;unfold gI at he;rw[if_neg V4,if_neg V4,if_neg V4,if_neg V4,if_neg V4,if_neg V4]at he;cases he
    exact h1
   have hm:dy f b i pat=VE x:=by unfold dy fO;rw[if_pos hpat,hpl,hr];exact hx
   unfold hasS at hh;simp at hh;rcases hh with h0 | ⟨t,htm,rfl⟩
   ·omega
   obtain⟨j,hj,rfl⟩:=Sn htm;obtain⟨s,hs⟩:=LO (mk:=mkU f b) (cost:=(bD f b l).cost) (c:=(nth l j).cost) hall;have hw:wS f b l (mkU f b) (bD f b l).cost i j=VE s:=by unfold wS;rw[ay hj]at hs ⊢;rw[hm];exact hs
   rcases hk with⟨-,-,a3⟩ | ⟨n,_,_,a2,_⟩
   ·rw[a3 j hj]at hw;cases hw
   exact⟨n,a2⟩
theorem qV(h:(db l f).1=0):(eA l).1=0/\ll f=VI/\∀b i:Nat,b<f.blocks.length->i<=(nth f.blocks b).ins.length->nI f (whS f) b i=VI->canS f (hasS l) (whS f) (i+1) b i=true:=by
 unfold db at h;split at h
 ·rename_i c;exact absurd h c
 rename_i c;split at h
 ·cases h
 rename_i c2;refine⟨Classical.byContradiction c,by simpa using c2,λb i hb hi hn=>?_⟩;cases hx:ib f (hasS l)with
 | some w=>rw[hx]at h;cases h
 | none=>unfold ib at hx;rw[U3]at hx;have:=hx b (by simpa using hb);rw[Vl]at this;unfold uD at this;rw[List.find?_eq_none]at this;have:=this i Vv;unfold tZ at this;simp only[RV,SK,not_and,Bool.not_eq_false]at this;exact this hn
theorem NS{i:Nat}(h:fh f b i=VJ):nI f (whS f) b i=true:=by
 unfold nI;rw[SK,<-Bool.not_eq_true];intro hn;simp only[RV,decide_eq_true_eq,SK,decide_eq_false_iff_not]at hn;obtain⟨h1,h2,h3⟩:=hn;obtain⟨b',k',g1,g2,g3,g4,g5,g6,g7⟩:=CI h3;have e:(b:Int)=b'/\(i:Int)=k':=⟨congrArg Prod.fst g3,congrArg Prod.snd g3⟩;obtain rfl:b=b':=by omega
 obtain rfl:i=k':=by omega
 rw[uq.2 ⟨h1,by unfold ig;simp[g5,g6,g7]⟩]at h;cases h
theorem xj (o:Okf f) (hc:(db l f).1=0) (hb:b<f.blocks.length) : ∀(d i:Nat),(nth f.blocks b).ins.length<i+d->i<=(nth f.blocks b).ins.length->nV f b l (bD f b l).best i=VI->∃c,(bD f b l).cost i=VE c
 | 0,i,h,hi,_=>by omega
 | d+1,i,h,hi,hr=>by
  obtain⟨c1,c2,c3⟩:=qV hc;rcases(vC o hb hi).1 hr with h0 | ⟨j,hj,rj,hk⟩
  ·exact Ea o c2 hb c1 (i+1) i hi (c3 b i hb hi (NS h0))
  have hlt:=Cy o hb (show j<=_ by omega) hk;obtain⟨c,hcj⟩:=xj o hc hb d j V4 V4 rj;exact(qX o hb V4 hcj).2 i hk
def Dg (f:ak) (b:Nat) (l:List aF):Int:=(((List.range ((nth f.blocks b).ins.length+1)).filter λi:Nat=>!fh f b (i:Int)).map (tN f b l)).sum
theorem GR(o:Okf f)(hc:(db l f).1=0)(hb:b<f.blocks.length):
  (((List.range ((nth f.blocks b).ins.length+1)).filter λi:Nat=>nV f b l (bD f b l).best i).map (oy l (bD f b l).best)).sum=Dg f b l:=
 Je o hb λj hj r=>by obtain⟨c,h⟩:=xj o hc hb ((nth f.blocks b).ins.length+1) j V4 hj r;exact(qX o hb hj h).1
end
section
variable {f:ak} {b:Nat} {l l2:List aF}
theorem K7{i:Nat}:inn8 f b l i=!nV f b l (bD f b l).best i:=by unfold nV inn8;rw[Bool.not_not]
theorem lay_cost{i:Nat}{p:Int}{s:jR}:(layS f b i p s).cost=s.cost:=rfl
theorem Ey : ∀{K:Nat} {s:jR},(Lft.up (gR f b l (bD f b l).best (inn8 f b l)) K s).cost=s.cost+(((List.range K).filter λi:Nat=>nV f b l (bD f b l).best i).map (oy l (bD f b l).best)).sum
 | 0,s=>by simp[Lft.up]
 | K+1,s=>by
  rw[up_add,S6,Tz,Tw,List.sum_append,<-Int.add_assoc,<-Ey (K:=K)];generalize Lft.up (gR f b l (bD f b l).best (inn8 f b l)) K s=q;unfold gR;rw[K7];cases hr:nV f b l (bD f b l).best K with
  | false=>rw[if_pos (show(!VJ)=VI from rfl)];simp[hr]
  | true=>
   rw[if_neg V5];rw[show[K].filter (λi:Nat=>nV f b l (bD f b l).best i)=[K] from by simp[hr]];show _=q.cost+([oy l (bD f b l).best K]).sum;unfold oy;cases (bD f b l).best (K:Int)with
   | none=>simp[lay_cost]
   | some t=>simp[lay_cost]
theorem EV(o:Okf f)(hc:(db l f).1=0)(hb:b<f.blocks.length){s:jR}:(pj f l b s).cost=s.cost+Dg f b l:=by unfold pj;rw[Ey,GR o hc hb]
def zP (f:ak) (l:List aF) (n:Nat):Int:=((List.range n).map λb=>Dg f b l).sum
theorem Dj (o:Okf f) (hc:(db l f).1=0) : ∀{n:Nat},n<=f.blocks.length->(Lft.up (qN f l) n ⟨topS f,0,VJ,[]⟩).cost=zP f l n
 | 0,_=>rfl
 | n+1,h=>by rw[up_add];have ih:=Dj o hc (n:=n) V4;unfold zP at ih ⊢;rw[S6,Tw,List.sum_append,<-ih];generalize Lft.up (qN f l) n ⟨topS f,0,VJ,[]⟩=q;show(pj f l n _).cost=q.cost+_;rw[EV o hc V4];simp
theorem A8 : ∀{K:Nat} {s:jR},s.temp+K<=8192->s.temp<=(Lft.up (gR f b l (bD f b l).best (inn8 f b l)) K s).temp/\(Lft.up (gR f b l (bD f b l).best (inn8 f b l)) K s).temp<=s.temp+K/\(Lft.up (gR f b l (bD f b l).best (inn8 f b l)) K s).many=s.many
 | 0,s,h=>⟨SW _,by show s.temp<=s.temp+0;omega,rfl⟩
 | K+1,s,h=>by
  obtain⟨h1,h2,h3⟩:=A8 (K:=K) (s:=s) V4;rw[up_add];generalize Lft.up (gR f b l (bD f b l).best (inn8 f b l)) K s=q at *;have key : ∀{p:Int} {r:jR},r.temp=q.temp->r.many=q.many->s.temp<=(layS f b K p r).temp/\(layS f b K p r).temp<=s.temp+(K+1:Nat)/\(layS f b K p r).many=s.many:=by
   intro p r e1 e2;unfold layS;dsimp only;by_cases c:p=26\/p=30
   ·rw[if_pos c,if_pos c,e1,e2,h3];refine⟨by omega,by omega,?_⟩;rw[decide_eq_false V4,Bool.or_false]
   rw[if_neg c,if_neg c,e1,e2];exact⟨h1,by omega,h3⟩
  unfold gR;split
  ·exact⟨h1,by omega,h3⟩
  split
  ·exact key rfl rfl
  exact key rfl rfl
theorem Hg (h0:topS f+jt f f.blocks.length<=8192) : ∀{n:Nat},n<=f.blocks.length->(Lft.up (qN f l) n ⟨topS f,0,VJ,[]⟩).temp+f.blocks.length<=topS f+jt f n+n/\(Lft.up (qN f l) n ⟨topS f,0,VJ,[]⟩).many=VJ
 | 0,_=>⟨by show topS f+(f.blocks.length:Int)<=topS f+(f.blocks.length:Nat)+0;omega,rfl⟩
 | n+1,h=>by
  obtain⟨h1,h2⟩:=Hg h0 (n:=n) V4;have hcn : ∀{a c:Nat},a<=c->jt f a<=jt f c:=fun{a c} hac=>by
   induction hac with
   | refl=>exact RQ _
   | step _ ih=>exact Sk ih (by show _<=jt f _+_+_;omega)
  have e:jt f (n+1)=jt f n+(nth f.blocks n).phis.length+(nth f.blocks n).ins.length:=rfl;have hle:=hcn (show n+1<=f.blocks.length by omega);rw[up_add];generalize Lft.up (qN f l) n ⟨topS f,0,VJ,[]⟩=q at *;obtain⟨t1,t2,t3⟩:=A8 (f:=f) (b:=n) (l:=l) (K:=(nth f.blocks n).ins.length+1) (s:=⟨q.temp,q.cost,q.many,⟨(nth f.blocks n).phis,[],cV⟩⟩) (by show q.temp+_<=8192;omega);refine⟨?_,?_⟩
  ·show(pj f l n _).temp+_<=_;unfold pj;have t2:(Lft.up (gR f n l (bD f n l).best (inn8 f n l)) ((nth f.blocks n).ins.length+1) ⟨q.temp,q.cost,q.many,⟨(nth f.blocks n).phis,[],cV⟩⟩).temp<=q.temp+((nth f.blocks n).ins.length+1:Nat):=t2;have t4:(Lft.up (gR f n l (bD f n l).best (inn8 f n l)) ((nth f.blocks n).ins.length+1) ⟨q.temp,q.cost,q.many,⟨(nth f.blocks n).phis,[],cV⟩⟩).temp+(f.blocks.length:Int)<=topS f+jt f (n+1)+(n+1:Nat):=by omega
   exact t4
  show(pj f l n _).many=VJ;unfold pj;rw[t3];exact h2
theorem Ki{s:List Int}:topS (iq s)+jt (iq s) (iq s).blocks.length<=8192:=by
 have h1:=J6 (s:=s);have h2:=(Ms (y4 (s:=s))).1;have hp:=sK (s:=s);obtain⟨g1,g2⟩:=JO (s:=s);have:topS (iq s)<=4001:=by
  rcases h2 with h | ⟨n,hn,h⟩
  ·omega
  rw[h];unfold iK at hn;obtain⟨t,ht,hn⟩:=SS.1 hn;obtain⟨b,hb,hm⟩:=eu.1 ht;have hbm:nth (iq s).blocks b∈(iq s).blocks:=aX hb;rcases fE.1 hm with⟨i,hi,rfl⟩ | ⟨i,hi,rfl⟩ | rfl
  ·rw[RR.1 hn];have:=g1 _ hbm _ (aX hi);omega
  ·have:=g2 _ hbm _ (aX hi);have hn:n∈bg (nth (nth (iq s).blocks b).ins i):=hn;unfold bg at hn;split at hn
   ·cases hn
   split at hn
   ·simp at hn;omega
   simp at hn;omega
  cases hn
 omega
theorem wK(h0:topS f+jt f f.blocks.length<=8192):dp f l=if(db l f).1≠0 then noCh (db l f).1 else⟨⟨f.params,(fnS f l).out⟩,(fnS f l).cost,0⟩:=by unfold dp;rw[show(fnS f l).many=VJ from(Hg h0 (RQ _)).2];simp
theorem Dp{mk c1 c2:NMap}{r:List Int}: ∀{c c' m:Int},(∀v∈r,∀p,mk v=VE p->∀n,c1 p=VE n->∃n',n'<=n/\c2 p=VE n')->c'<=c->sumS mk c1 c r=VE m->∃m',m'<=m/\sumS mk c2 c' r=VE m':=by
 induction r with
 | nil=>intro c c' m _ hc h;cases h;exact⟨c',hc,rfl⟩
 | cons v r ih=>
  intro c c' m hv hc h;unfold sumS at h ⊢;cases hm:mk v with
  | none=>rw[hm]at h;exact ih (λw hw=>hv w (RU _ hw)) hc h
  | some p=>
   rw[hm]at h;dsimp only at h ⊢;cases h1:c1 p with
   | none=>rw[h1]at h;cases h
   | some n=>rw[h1]at h;obtain⟨n',a1,a2⟩:=hv v V5 p hm n h1;rw[a2];exact ih (λw hw=>hv w (RU _ hw)) V4 h
def DD (l l2:List aF):Prop:=∀t<l.length,∃t'<l2.length,(nth l2 t').pat=(nth l t).pat/\(nth l2 t').cost<=(nth l t).cost
theorem xr (o:Okf f) (hb:b<f.blocks.length) (hs:DD l l2) : ∀(d i:Nat),i<d->i<=(nth f.blocks b).ins.length->∀c,(bD f b l).cost i=VE c->∃c',c'<=c/\(bD f b l2).cost i=VE c'
 | 0,i,h,_,_,_=>by omega
 | d+1,i,h,hi,c,hc=>by
  have p1:=vF (l:=l) o hb i hi;have p2:=vF (l:=l2) o hb i hi;unfold oJ at p1 p2;by_cases cb:ia f b i=VI
  ·rw[if_pos cb]at p1 p2;rw[p1.1]at hc;rw[p2.1];have en:i=(nth f.blocks b).ins.length:=by unfold ia at cb;simp at cb;exact cb.1
   refine Dp (λv hv p hp n hn=>?_) (SW _) hc;obtain⟨k,a1,rfl,-⟩:=(kH hb).1 hp;exact xr o hb hs d k V4 V4 n hn
  rw[if_neg cb]at p1 p2;rcases p1 with⟨a1,-,-⟩ | ⟨n,j,a1,a2,a3,a4,-,-⟩
  ·rw[a1]at hc;cases hc
  rw[a2]at hc;cases hc;obtain⟨t',q1,q2,q3⟩:=hs j a1;unfold wS at a4;cases hx:dy f b i (nth l j).pat with
  | none=>rw[hx]at a4;cases a4
  | some x=>
   rw[hx]at a4;obtain⟨m',w1,w2⟩:=Dp (λv hv p hp n hn=>by have hlt:=rU o hb i _ x hx v hv p hp;obtain⟨k,b1,rfl,-⟩:=(kH hb).1 hp;exact xr o hb hs d k V4 V4 n hn) q3 a4;have hw:wS f b l2 (mkU f b) (bD f b l2).cost i t'=VE m':=by unfold wS;rw[q2,hx];exact w2
   rcases p2 with⟨-,-,z⟩ | ⟨n2,j2,z1,z2,z3,z4,z5,z6⟩
   ·rw[z t' q1]at hw;cases hw
   exact⟨n2,Vj (z6 t' q1 m' hw) w1,z2⟩
theorem Di {D E:Nat->Int} : ∀{r:List Nat},(∀i∈r,E i<=D i)->(r.map E).sum<=(r.map D).sum
 | [],_=>SW _
 | a::r,h=>by have:=Di (r:=r) λi hi=>h i (RU _ hi);have:=h a V5;simp;omega
theorem F2(o:Okf f)(hs:DD l l2)(hc:(db l f).1=0):zP f l2 f.blocks.length<=zP f l f.blocks.length:=by
 unfold zP;refine Di λb hb=>?_;have hb:b<f.blocks.length:=by simpa using hb
 refine Di λi hi=>?_;have hi:=TE.1 hi;have hi1:i<=(nth f.blocks b).ins.length:=by have:=hi.1;simp at this;omega
 have h0:fh f b (i:Int)=false:=by simpa using hi.2
 obtain⟨c,hcc⟩:=xj o hc hb ((nth f.blocks b).ins.length+1) i V4 hi1 ((vC o hb hi1).2 (.inl h0));obtain⟨c',h1,h2⟩:=xr o hb hs (i+1) i V4 hi1 c hcc;unfold tN;rw[hcc,h2];exact h1
theorem xQ(o:Okf f)(h0:topS f+jt f f.blocks.length<=8192)(h1:(eA l).1=0)(h2:(eA l2).1=0)(hs:DD l l2)(he:(dp f l).err=0):(dp f l2).err=0/\(dp f l2).cost<=(dp f l).cost:=by
 rw[wK h0]at he ⊢;rw[wK h0];by_cases c:(db l f).1≠0
 ·rw[if_pos c]at he;exact absurd he c
 rw[if_neg c]at he ⊢;have c:(db l f).1=0:=Classical.byContradiction c;have c2:(db l2 f).1=0:=by
  have hp : ∀k:Int,hasS l k=VI->hasS l2 k=true:=λk hk=>by unfold hasS at hk ⊢;rw[SU]at hk ⊢;refine hk.imp id λe=>?_;obtain⟨t,ht,e⟩:=TP.1 e;obtain⟨j,hj,rfl⟩:=Sn ht;obtain⟨t',g1,g2,-⟩:=hs j hj;refine TP.2 ⟨_,aX g1,?_⟩;rw[g2,ay hj];exact e
  obtain⟨k1,k2,-⟩:=qV c;unfold db at c ⊢;rw[if_neg (by rw[h1];simp),if_neg (by rw[k2];simp)]at c;rw[if_neg (by rw[h2];simp),if_neg (by rw[k2];simp)];have hn:ib f (hasS l)=none:=by
   cases hx:ib f (hasS l)with
   | none=>rfl
   | some w=>rw[hx]at c;cases c
  rw[Gp hp hn];rfl
 rw[if_neg (by rw[c2];simp)];refine⟨rfl,?_⟩;show(fnS f l2).cost<=(fnS f l).cost;unfold fnS;rw[Dj o c (RQ _),Dj o c2 (RQ _)];exact F2 o hs c
theorem Gn(h1:(eA l).1=0)(hr:ll f=VI):(db l f).1=0\/(db l f).1=21:=by
 unfold db;rw[if_neg (by rw[h1];simp),if_neg (by rw[hr];simp)];cases ib f (hasS l)with
 | none=>exact .inl rfl
 | some w=>exact .inr rfl
theorem QJ{s:List Int}{t:aF}(o:Okf f)(hr:ll f=VI)(h0:topS f+jt f f.blocks.length<=8192)(hg:(1<=t.pat/\t.pat<=37)/\0<=t.cost/\t.cost<=20):
  ((dp f (tabS s++[t])).err=0\/(dp f (tabS s++[t])).err=21)/\
  ((dp f (tabS s)).err=0->(dp f (tabS s++[t])).err=0/\(dp f (tabS s++[t])).cost<=(dp f (tabS s)).cost):=by
 have hl:=wP (s:=s);have t1:(eA (tabS s)).1=0:=by rw[JA]
 have t2:(eA (tabS s++[t])).1=0:=by
  rw[zY]
  ·simp;omega
  intro u hu;rcases RW.1 hu with hu | hu
  ·obtain⟨g1,g2,g3⟩:=HG u hu;exact⟨g1,g2,by omega⟩
  rw[RR.1 hu];exact⟨hg.1,hg.2.1,by omega⟩
 have s2:DD (tabS s) (tabS s++[t]):=λj hj=>⟨j,by simp;omega,by rw[ay (show j<(tabS s++[t]).length by simp;omega),Tv hj,ay hj],by rw[ay (show j<(tabS s++[t]).length by simp;omega),Tv hj,ay hj];exact SW _⟩;refine⟨?_,λhe=>xQ o h0 t1 t2 s2 he⟩;rw[wK h0];rcases Gn t2 hr with c | c
 ·rw[if_neg (by rw[c];simp)];exact .inl rfl
 rw[if_pos (by rw[c];simp)];exact .inr c
theorem Qz{s:List Int}{k:Nat}(o:Okf f)(h0:topS f+jt f f.blocks.length<=8192)(hk:k<(tabS s).length)(he:(dp f (tabS s)).err=0):
  (dp f ((tabS s).set k ⟨(nth (tabS s) k).pat,(nth (tabS s) k).cost.tdiv 2⟩)).err=0/\(dp f ((tabS s).set k ⟨(nth (tabS s) k).pat,(nth (tabS s) k).cost.tdiv 2⟩)).cost<=(dp f (tabS s)).cost:=by
 have hl:=wP (s:=s);have t1:(eA (tabS s)).1=0:=by rw[JA]
 have hgk:=HG (nth (tabS s) k) (aX hk);obtain⟨gk1,gk2,gk3⟩:=hgk;have hd:0<=(nth (tabS s) k).cost.tdiv 2/\(nth (tabS s) k).cost.tdiv 2<=(nth (tabS s) k).cost:=by rw[TD gk2];omega
 have t3:(eA ((tabS s).set k ⟨(nth (tabS s) k).pat,(nth (tabS s) k).cost.tdiv 2⟩)).1=0:=by
  rw[zY]
  ·rw[Sv];omega
  intro u hu;rcases T0 hu with hu | rfl
  ·obtain⟨g1,g2,g3⟩:=HG u hu;exact⟨g1,g2,by omega⟩
  exact⟨gk1,hd.1,by dsimp only;omega⟩
 have s3:DD (tabS s) ((tabS s).set k ⟨(nth (tabS s) k).pat,(nth (tabS s) k).cost.tdiv 2⟩):=λj hj=>by
  refine⟨j,by simpa using hj,?_⟩;rw[ay (show j<((tabS s).set k _).length by simpa using hj),Ve];by_cases e:k=j
  ·subst e;rw[if_pos rfl];exact⟨rfl,hd.2⟩
  rw[if_neg e,ay hj];exact⟨rfl,SW _⟩
 exact xQ o h0 t1 t3 s3 he
end
def fN (f:ak) (b:Nat) (l:List aF):List Nat:=(List.range ((nth f.blocks b).ins.length+1)).filter λi=>!inn8 f b l (i:Int)
def jM (f:ak) (b:Nat) (l:List aF) (s:jR) (i:Nat):jR:=match (bD f b l).best i with
 | none=>layS f b i 0 s
 | some t=>layS f b i (nth l t.toNat).pat { s with cost:=s.cost+(nth l t.toNat).cost }
theorem AF {σ:Type} {g:Nat->σ->σ} {p:Nat->Bool} {s:σ} : ∀n,Lft.up (λi s=>if p i then s else g i s) n s=((List.range n).filter λi=>!p i).foldl (λs i=>g i s) s
 | 0=>rfl
 | n+1=>by show(if p n then _ else _)=_;rw[AF n,S6,Tz,S3];cases h:p n<;>simp[h]
theorem EG{f:ak}{b:Nat}{l:List aF}{s:jR}:pj f l b s=(fN f b l).foldl (jM f b l) { s with blk:=⟨(nth f.blocks b).phis,[],cV⟩ }:=by
 unfold pj fN;have e:gR f b l (bD f b l).best (inn8 f b l)=fun(i:Nat) s=>if inn8 f b l (i:Int) then s else jM f b l s i:=by funext i s;unfold gR jM;rfl
 rw[e];exact AF (g:=λi s=>jM f b l s i) (p:=λi=>inn8 f b l (i:Int)) _
theorem DS{f:ak}{b k i:Nat}{l:List aF}(h:(fN f b l)[k]? = VE i):i<=(nth f.blocks b).ins.length/\inn8 f b l (i:Int)=false:=by have:=Sw h;unfold fN at this;rw[TE,Tq]at this;exact⟨by omega,by simpa using this.2⟩
theorem uM{β γ:Type}{f:β->γ->β}{l:List γ}{k:Nat}{x:γ}{b:β}(h:l[k]? = VE x):(l.take (k+1)).foldl f b=f ((l.take k).foldl f b) x:=by rw[UG,h,S3];rfl
theorem AB {p:Nat->Bool} : ∀{n i:Nat},i<n->p i=VI->((List.range n).filter p)[((List.range i).filter p).length]? = VE i
 | 0,i,h,_=>absurd h (Tx _)
 | n+1,i,h,hp=>by
  rw[S6,Tz];rcases RX i n with h1 | h1
  ·have:=AB h1 hp;rw[Uq (S5.1 this).1];exact this
  obtain rfl:i=n:=by omega
  rw[U0 (RQ _),Um,List.filter_cons_of_pos hp];rfl
theorem F7{p:Nat->Bool}{i:Nat}:((List.range (i+1)).filter p).length=((List.range i).filter p).length+if p i then 1 else 0:=by rw[S6,Tz,RZ];cases h:p i<;>simp[h]
open Go.MapKept
def two (a b:Int):Value:=.agg #[VB VC a,VB VC b]
section
variable {P:Program} {k t:TypeId} {w:World}
end
section
variable {po:OP} {pp:PP} {P:Program} {k t e:TypeId} {ty mt:TypeId} {us:List (Nat × Value)} {h:Heap} {K:Value->Heap->Prop} {r:Nat} {f:Int->Int->Option Value}
end
theorem Owns.turn{W:View}{h h':Heap}{o:Own}{r:Nat}{x x':Obj}(w:Owns W h o)(hr:W r=VE x)(hx : ∀c T fz,x≠.cells c T fz)(hr':h'[r]? = VE x')(hs:h'.size=h.size)(ho : ∀k,k≠r->h'[k]? = h[k]?):Owns (W.set r x') h' o:=by
 have hle:W.cf.le (W.set r x'):=λb y hb=>by
  unfold View.set;split
  ·rename_i e;subst e;unfold View.cf at hb;rw[hr]at hb;cases x<;>first | (exact absurd rfl (hx _ _ _)) | cases hb
  exact View.mS _ _ hb
 have hne : ∀{k i b},o k=VE i->i.v.ownBlock=VE b->b≠r:=λhk hb e=>by have:=w.av _ _ hk _ hb;rw[e,hr]at this;cases this
 refine⟨λb y hb=>?_,λk i hk=>?_,λk i hk b hb=>?_,w.dj⟩
 ·unfold View.set at hb;split at hb
  ·rename_i e;subst e;cases hb;exact hr'
  rename_i e;show h'[b]? = _;rw[ho b e];exact w.wle b y hb
 ·have h1:=w.own k i hk;have h2:@OwnT i.α i.rep (W.set r x') h i.e i.v i.l:=let ⟨b,xs,h1,h2⟩:=h1;⟨b,xs,h1,λj hj=>i.rep.mono hle (i.rep.cf (h2 j hj))⟩;exact @OwnT.same i.α i.rep _ _ _ _ _ _ h2 λb hb=>ho b (hne hk hb)
 unfold View.set;rw[if_neg (hne hk hb)];exact w.av k i hk b hb
section
open Go.MapKept Go.ChangeMaps
variable {po po2:OP} {pp:PP}
structure MV (d:TypeDesc) (W:View) (r:Nat) (f:Value->Option Value):Prop where
 ex : ∃es clock,W r=VE (.map es clock)/\(∀x∈es.toList,IsKey d x.key)/\Stamped es clock/\∀k v,IsKey d k->((∃x∈es.toList,x.key=k/\x.val=v)↔f k=VE v)
def Tn (rs:List Nat) (W W':View):Prop:=∀b,b∉rs->∀x,W b=VE x->W' b=VE x
section
variable {d:TypeDesc} {W W' W2 B:View} {h h':Heap} {r:Nat} {rs rs2:List Nat} {f g:Value->Option Value} {o:Own}
theorem MV.is(m:MV d W r f)(hw:W.le (vw h)):dg d h r f:=by obtain⟨es,c,h1,h2⟩:=m.ex;exact⟨es,c,hw _ _ h1,h2⟩
theorem MV.mono(m:MV d W r f)(hw:W.le W'):MV d W' r f:=by obtain⟨es,c,h1,h2⟩:=m.ex;exact⟨es,c,hw _ _ h1,h2⟩
theorem MV.tn(m:MV d W r f)(t:Tn rs W W')(hr:r∉rs):MV d W' r f:=by obtain⟨es,c,h1,h2⟩:=m.ex;exact⟨es,c,t _ hr _ h1,h2⟩
theorem MV.of(m:dg d h r f)(hw:W r=h[r]?):MV d W r f:=by obtain⟨es,c,h1,h2⟩:=m.ex;exact⟨es,c,by rw[hw];exact h1,h2⟩
theorem MV.OI(m:MV d W r f): ∃es c,W r=VE (.map es c):=by obtain⟨es,c,h1,_⟩:=m.ex;exact⟨es,c,h1⟩
theorem Tn.refl:Tn rs W W:=λ_ _ _ h=>h
theorem Tn.of_le(h:W.le W'):Tn rs W W':=λb _ x hx=>h b x hx
theorem Tn.trans(a:Tn rs W W')(b:Tn rs W' W2):Tn rs W W2:=λq hq x hx=>b q hq x (a q hq x hx)
theorem Tn.weak(a:Tn rs W W')(h : ∀b∈rs,b∈rs2):Tn rs2 W W':=λq hq x hx=>a q (λe=>hq (h q e)) x hx
theorem Tn.le (a:Tn rs W W') (h:B.le W) (hn : ∀b∈rs,B b=VF):B.le W':=λb x hx=>by
 by_cases e:b∈rs
 ·rw[hn b e]at hx;cases hx
 exact a b e x (h b x hx)
theorem Owns.nL{P:Program}{ty t:TypeId}{us:List (Nat × Value)}{K:Value->Heap->Prop}(w:Owns W h o)(hk : ∀h' W',W.le W'->(vw h).le (vw h')->Owns W' h' o->W h.size=VF->MV d W' h.size (λ_=>VF)->K (.map (VE h.size)) h'):step P (.makeMap t .none) ty us h K:=by refine lX ?_;have q:=bZ h (.map #[] 0);exact hk _ _ (bz w.wle) q (w.ext q) (View.cg w.wle (RQ _)) (.of (h:=h.push (.map #[] 0)) (dg.none V5) (by rw[b8 (RQ _)]))
theorem Owns.pV{P:Program}{ty t k e:TypeId}{us:List (Nat × Value)}{K:Value->Heap->Prop}{x y q:Operand}{u v:Value}{op:Op}(w:Owns W h o)(m:MV d W r f)(hop:op = .mapUpdate t x y q\/op = .insert t x y q)(ht:P.underlying t=VE (.map k e))(hd:P.underlying k=VE d)(hx:asg us x = .map (VE r))(hy:asg us y=u)(hq:asg us q=v)(hu:IsKey d u)(hg:g u=VE v)(hg2 : ∀j,j≠u->g j=f j)(hK : ∀h' W',Owns W' h' o->MV d W' r g->Tn [r] W W'->h'.size=h.size->(∀b,b≠r->h'[b]? = h[b]?)->K undef h'):step P op ty us h K:=by refine kN hop ht hd hx hy hq hu (m.is w.wle) g hg hg2 λh' hs ho hm=>?_;obtain⟨es,c,h1⟩:=m.OI;obtain⟨es',c',h2,h3⟩:=hm.ex;have w':=w.turn h1 (λ_ _ _=>Obj.noConfusion) h2 hs ho;refine hK h' _ w' ⟨es',c',by unfold View.set;rw[if_pos rfl],h3⟩ (λb hb y hy=>?_) hs ho;unfold View.set;rw[if_neg (by simpa using hb)];exact hy
structure Ent (d:TypeDesc) (h:Heap) (r:Nat) (f:Value->Option Value) (u:Value) (st:Nat):Prop where
 ex : ∃(es:Array MapEntry) (clock j:Nat) (e:MapEntry),h[r]? = VE (.map es clock)/\(∀x∈es.toList,IsKey d x.key)/\Stamped es clock/\es[j]? = VE e/\e.born=st/\e.key=u/\∀k v,IsKey d k->k≠u->((∃x∈es.toList,x.key=k/\x.val=v)↔f k=VE v)
theorem find_born{l:List MapEntry}(hn:(l.map (·.born)).Nodup){j:Nat}{e0:MapEntry}(h:l[j]? = VE e0):l.findIdx? (λe=>((e.born:Nat):Int) == ((e0.born:Nat):Int))=VE j:=by
 induction l generalizing j with
 | nil=>simp at h
 | cons a r ih=>
  simp only[S7,TK]at hn;cases j with
  | zero=>simp only[List.getElem?_cons_zero,RP]at h;subst h;simp[List.findIdx?_cons]
  | succ j=>
   simp only[List.getElem?_cons_succ]at h;have hne:a.born≠e0.born:=λe1=>hn.1 (SV.2 ⟨e0,Sw h,e1.symm⟩);have hb:(((a.born:Nat):Int) == ((e0.born:Nat):Int))=false:=by simp only[beq_eq_false_iff_ne,ne_eq,Int.natCast_inj];exact hne
   rw[List.findIdx?_cons,hb];simp[ih hn.2 h]
theorem xX{P:Program}{ty t k e:TypeId}{us:List (Nat × Value)}{K:Value->Heap->Prop}{x y:Operand}{u z:Value}(ht:P.underlying t=VE (.map k e))(hd:P.underlying k=VE d)(hz:(P.info? e).map (·.zero)=VE (VE z))(hx:asg us x = .map (VE r))(hy:asg us y=u)(hu:IsKey d u)(m:dg d h r f)(hk : ∀h' v st,h'.size=h.size->(∀b,b≠r->h'[b]? = h[b]?)->Ent d h' r f u st->K (.tuple #[v,VB VC (st:Nat)]) h'):step P (.mapEntry t x y) ty us h K:=by
 obtain⟨es,c,h1,h2,h3,h4⟩:=m.ex;simp only[RY]at hz;obtain⟨i,hi,hz⟩:=hz;refine dr (cK λw hw=>?_);subst hw;have hz':(zeroValue e).run P w = .ok z w:=by simp[zeroValue,typeInfo,hi,hz]
 have set_ : ∀o',(∀b,b≠r->(w.heap.setIfInBounds r o')[b]? = w.heap[b]?)/\(w.heap.setIfInBounds r o')[r]? = VE o':=λo'=>⟨(MapKept.heap_set (o':=o') h1).2,(MapKept.heap_set (o':=o') h1).1⟩;rcases findNow_spec hu es.toList 0 h2 with⟨g1,g2⟩ | ⟨j,q,g1,g2,g3⟩
 ·refine⟨.tuple #[z,goInt c],{ w with heap:=w.heap.setIfInBounds r (.map (es.push { key:=u,val:=z,born:=c }) (c+1)) },?_,Same.pw rfl rfl rfl V5 h1 V5 (λk _ hne=>(set_ _).1 k hne),?_⟩
  ·simp only[bP,execOp,hx,hy];simp[Instr.mapEntry,run_underlying ht,MapKept.run_getObj_map h1,MapKept.run_checkKey hd hu,MapKept.run_findKey hd g1,hz',MapKept.run_setObj_map _ h1,Result.andThen]
  refine hk _ z c V5 (set_ _).1 ⟨_,_,es.size,{ key:=u,val:=z,born:=c },(set_ _).2,?_,stamped_push h3 g2,by simp,rfl,rfl,λp v hp hne=>?_⟩
  ·intro x hx;simp only[UE,RW,RR]at hx;rcases hx with hx | rfl
   ·exact h2 x hx
   exact hu
  rw[<-h4 p v hp];constructor
  ·rintro⟨x,hx,e1,e2⟩;simp only[UE,RW,RR]at hx;rcases hx with hx | rfl
   ·exact⟨x,hx,e1,e2⟩
   exact absurd e1.symm hne
  rintro⟨x,hx,e⟩;exact⟨x,by simp[show x∈es from by simpa using hx],e⟩
 have hj:es[j]? = VE q:=by simpa using g2
 have hsame:es.modify j (λe=>{ e with key:=u })=es:=by
  apply Array.ext_getElem?;intro i;rw[TX];by_cases e:j=i
  ·subst e;rw[if_pos rfl,hj];simp[<-g3]
  rw[if_neg e]
 refine⟨.tuple #[q.val,goInt q.born],{ w with heap:=w.heap.setIfInBounds r (.map es c) },?_,Same.pw rfl rfl rfl V5 h1 V5 (λk _ hne=>(set_ _).1 k hne),?_⟩
 ·simp only[bP,execOp,hx,hy];simp[Instr.mapEntry,run_underlying ht,MapKept.run_getObj_map h1,MapKept.run_checkKey hd hu,MapKept.run_findKey hd g1,hj,g3,MapKept.run_keyThatStays hu,hsame,MapKept.run_setObj_map _ h1,Result.andThen]
 exact hk _ q.val q.born V5 (set_ _).1 ⟨es,c,j,q,(set_ _).2,h2,h3,hj,rfl,g3,λp v hp hne=>h4 p v hp⟩
theorem tT{P:Program}{ty t:TypeId}{us:List (Nat × Value)}{K:Value->Heap->Prop}{x s q:Operand}{u v:Value}{st:Nat}(hx:asg us x = .map (VE r))(hs:asg us s = VB VC (st:Nat))(hq:asg us q=v)(m:Ent d h r f u st)(hg:g u=VE v)(hg2 : ∀j,j≠u->g j=f j)(hk : ∀h',h'.size=h.size->(∀b,b≠r->h'[b]? = h[b]?)->dg d h' r g->K undef h'):step P (.entryStore t x s q) ty us h K:=by
 obtain⟨es,c,j,e,h1,h2,h3,h4,h5,h6,h7⟩:=m.ex;refine dr (pC λw hw=>?_);subst hw;have hst:Stamped (es.modify j (λe'=>{ e' with val:=v })) c:=stamped_modify h3 _ _ (λ_ _=>rfl) (λe' _ he'=>rfl);have hj:es.toList[j]? = VE e:=by simpa using h4
 have hidx:es.findIdx? (λe=>((e.born:Nat):Int) == (st:Int))=VE j:=by have:=find_born h3.2.1 hj;rw[h5]at this;cases es;simpa using this
 have hget : ∀i y,(es.modify j (λe'=>{ e' with val:=v }))[i]? = VE y↔(i=j/\y={ e with val:=v })\/(i≠j/\es[i]? = VE y):=by
  intro i y;rw[TX];by_cases hij:i=j
  ·subst hij;rw[if_pos rfl,h4];simp[eq_comm]
  rw[if_neg (Ne.symm hij)];simp[hij]
 have huniq : ∀i y,es[i]? = VE y->y.key=u->i=j:=by
  intro i y hy hk;have hnd:=h3.2.2;have e1:(es.toList.map (·.key))[i]? = VE u:=by simp[hy,hk]
  have e2:(es.toList.map (·.key))[j]? = VE u:=by simp[h4,h6]
  obtain⟨l1,q1⟩:=S5.1 e1;obtain⟨l2,q2⟩:=S5.1 e2;exact(List.getElem_inj hnd).1 (q1.trans q2.symm)
 refine⟨{ w with heap:=w.heap.setIfInBounds r (.map (es.modify j λe=>{ e with val:=v }) c) },?_,Same.pw rfl rfl rfl V5 h1 V5 (λk _ hne=>(MapKept.heap_set h1).2 k hne),hk _ V5 (MapKept.heap_set h1).2 ⟨_,_,(MapKept.heap_set h1).1,?_,hst,?_⟩⟩
 ·simp only[bP,execOp,hx,hs,hq];simp[Instr.entryStore,MapKept.run_getObj_map h1,asInt,asIntOf,hidx,MapKept.run_setObj_map _ h1,Result.andThen]
 ·intro y hy;obtain⟨i,hi⟩:=TJ hy;have hi:(es.modify j (λe'=>{ e' with val:=v }))[i]? = VE y:=by rw[S0]at hi;exact hi
  rcases(hget i y).1 hi with⟨_,rfl⟩ | ⟨_,g5⟩
  ·exact h2 e (Sw hj)
  exact h2 y (Sw (by simpa using g5))
 intro p val hp;constructor
 ·rintro⟨y,hy,e1,e2⟩;obtain⟨i,hi⟩:=TJ hy;have hi:(es.modify j (λe'=>{ e' with val:=v }))[i]? = VE y:=by rw[S0]at hi;exact hi
  rcases(hget i y).1 hi with⟨_,rfl⟩ | ⟨g6,g5⟩
  ·have e1:e.key=p:=e1;have e2:v=val:=e2;rw[<-e1,h6,<-e2];exact hg
  have hne:p≠u:=λe=>g6 (huniq i y g5 (e1.trans e));rw[hg2 p hne];exact(h7 p val hp hne).1 ⟨y,Sw (by simpa using g5),e1,e2⟩
 intro hv;by_cases hpu:p=u
 ·subst hpu;rw[hg]at hv;cases hv;refine⟨{ e with val:=v },Sw (i:=j) ?_,h6,rfl⟩;rw[S0];exact(hget j _).2 (.inl ⟨rfl,rfl⟩)
 rw[hg2 p hpu]at hv;obtain⟨y,hy,e1,e2⟩:=(h7 p val hp hpu).2 hv;obtain⟨i,hi⟩:=TJ hy;have hi':es[i]? = VE y:=by simpa using hi
 refine⟨y,Sw (i:=i) ?_,e1,e2⟩;rw[S0];refine(hget i y).2 (.inr ⟨λe0=>?_,hi'⟩);subst e0;rw[h4]at hi';cases hi';exact hpu (e1.symm.trans h6)
theorem Owns.Js(w:Owns W h o)(m:MV d W r f)(hs:h'.size=h.size)(ho : ∀b,b≠r->h'[b]? = h[b]?)(m':dg d h' r g): ∃W',Owns W' h' o/\MV d W' r g/\Tn [r] W W':=by obtain⟨es,c,e1⟩:=m.OI;obtain⟨es',c',e2,e3⟩:=m'.ex;refine⟨_,w.turn e1 (λ_ _ _=>Obj.noConfusion) e2 hs ho,⟨es',c',by unfold View.set;rw[if_pos rfl],e3⟩,λb hb y hy=>?_⟩;unfold View.set;rw[if_neg (by simpa using hb)];exact hy
end
end
end Go.Lft
namespace Go.Lft
theorem Mv{t:de}{v:Value}{h:Heap}(hv:Rd (vw h) v t):az VK 141 #[v] h (λu h'=>u = .bool (yQ t)/\(vw h).le (vw h')):=by
 refine aq (args:=[v]) follows Tryz.func141 E.oF Vw λK hK=>?_;dsimp only[L.oF,lkF,lkG];refine aa λz hz=>?_;simp;refine gP rfl hv λh1 e1 hle1 hs1 at1=>?_;have k0:=(at1.part de.De).int;simp at k0;subst hz;have hb:yQ t=(decide (t.kind=1)||decide (t.kind=4)||decide (t.kind=5)):=rfl;by_cases c1:t.kind=1
 ·simp[k0,c1];exact hK _ _ ⟨by rw[hb];simp[c1],hle1⟩
 by_cases c4:t.kind=4
 ·simp[k0,c4];exact hK _ _ ⟨by rw[hb];simp[c4],hle1⟩
 simp[k0,c1,c4];exact hK _ _ ⟨by rw[hb];simp[c1,c4],hle1⟩
theorem Iw{mk cost:NMap}{c v:Int}{l:List Int}:sumS mk cost c (v::l)=match mk v with
  | none=>sumS mk cost c l
  | some p=>match cost p with
   | none=>VF
   | some n=>sumS mk cost (c+n) l:=rfl
def O5 (mk cost:NMap) (takes:List Int):Prop:=∀v∈takes,∀p,mk v=VE p->∀n,cost p=VE n->0<=n/\n<=1000000000
theorem Kg{C rm rc:Nat}{mk cost:NMap}{c:Int}{takes:List Int}{v:Value}{h:Heap}(x4:ao (vw h) ⟨C,4,VF⟩=VE (.map (VE rm)))(x5:ao (vw h) ⟨C,5,VF⟩=VE (.map (VE rc)))(mm:dg (.int .i64) h rm (mapI mk))(mc:dg (.int .i64) h rc (mapI cost))(hs:SlRd (vw h) v takes)(hc:0<=c/\c<=1000)(hco:O5 mk cost takes)(hl:takes.length<=30000):
  az VK 142 #[ptz C,VB VC c,v] h (λu h'=>h'=h/\u = .tuple #[VB VC ((sumS mk cost c takes).getD 0),.bool (sumS mk cost c takes).isSome]):=by
 refine aq (args:=[ptz C,VB VC c,v]) follows Tryz.func142 E.cB Vw λK hK=>?_;dsimp only[L.cB,lkF,lkG];refine aa λz hz=>?_;simp;subst hz;refine aa λz hz=>?_;simp[hs.len];refine aG [0,1,14,15,16] (fun(s:Int) k=>[ptz C,VB VC s,v,VB VC takes.length,VB VC k])
  (λs k h2=>h2=h/\sumS mk cost c takes=sumS mk cost s (takes.drop k)/\0<=s/\s<=1000+(k:Int)*1000000000) takes.length c
  rfl V4 rfl ⟨rfl,rfl,hc.1,by omega⟩ (λ_ _=>rfl) (λv i h1 hk m=>by simp) ?_ ?_
 ·rintro s k h2 hk ⟨rfl,hsum,hs0,hs1⟩ K2 hK2;have q:=hs.idx1 (k:=.i64) (i:=(k:Int)) rfl V4 V4;have p:=hs.int Vy (i:=k) hk;simp at q p;rw[Sx hk,<-ay hk]at hsum;refine dB ?_;refine aa λy hy=>?_;simp[q,p];subst hy;refine aa λy hy=>?_;simp[x4];refine eO (f:=mapI mk) (z:=VB VC 0) (k:=T.int) (e:=T.int) (d:=.int .i64) (r:=rm) (u:=VB VC (nth takes k)) V0 V0 V0 rfl rfl cQ mm ?_;have ew:IntKind.i64.wrap ((k:Int)+1)=((k+1:Nat):Int):=by rw[aZ V4 V4];omega
  have ek:((k+1:Nat):Int)=(k:Int)+1:=by omega
  rw[Iw]at hsum;cases hm:mk (nth takes k)with
  | none=>rw[hm]at hsum;simp[hm];subst hy;simp;exact hK2 s _ _ rfl rfl ⟨rfl,hsum,hs0,by rw[ek];omega⟩
  | some p=>
   rw[hm]at hsum;dsimp only at hsum;simp[hm];subst hy;refine aa λy hy=>?_;simp;subst hy;refine aa λy hy=>?_;simp[x5];refine eO (f:=mapI cost) (z:=VB VC 0) (k:=T.int) (e:=T.int) (d:=.int .i64) (r:=rc) (u:=VB VC p) V0 V0 V0 rfl rfl cQ mc ?_;cases hp:cost p with
   | none=>rw[hp]at hsum;simp[hp];subst hy;simp;exact hK _ _ ⟨rfl,by rw[hsum];rfl⟩
   | some n=>rw[hp]at hsum;obtain⟨n0,n1⟩:=hco _ (aX hk) p hm n hp;have ew2:IntKind.i64.wrap (s+n)=s+n:=aZ V4 V4;simp[hp];subst hy;simp[ew2];exact hK2 (s+n) _ _ rfl rfl ⟨rfl,hsum,by omega,by rw[ek];omega⟩
 rintro s h2 ⟨rfl,hsum,hs0,hs1⟩;rw[List.drop_of_length_le (RQ _)]at hsum;have hsum:sumS mk cost c takes=VE s:=hsum;simp;subst hz;simp;exact hK _ _ ⟨rfl,by rw[hsum];rfl⟩
structure Ch (W:View) (C rm rc rb:Nat) (f:ak) (b:Nat) (l:List aF):Prop where
 at_:At W ⟨C,0,VF⟩ f
 tl : ∃vl,ao W ⟨C,2,VF⟩=VE vl/\SlRd W vl l
 bk:ao W ⟨C,3,VF⟩=VE (VB VC b)
 x4:ao W ⟨C,4,VF⟩=VE (.map (VE rm))
 x5:ao W ⟨C,5,VF⟩=VE (.map (VE rc))
 x6:ao W ⟨C,6,VF⟩=VE (.map (VE rb))
 sm:SmF f
 hb:b<f.blocks.length
 mem:iG
theorem Ch.mono {W W':View} {C rm rc rb:Nat} {f:ak} {b:Nat} {l:List aF} (c:Ch W C rm rc rb f b l) (hw:W.le W'):Ch W' C rm rc rb f b l:=by obtain⟨vl,t1,t2⟩:=c.tl;exact⟨c.at_.mono hw,⟨vl,ae hw t1,t2.mono hw⟩,ae hw c.bk,ae hw c.x4,ae hw c.x5,ae hw c.x6,c.sm,c.hb,c.mem⟩
set_option maxHeartbeats 1000000 in
theorem Lc{C rm rc rb:Nat}{f:ak}{b i:Nat}{l:List aF}{best:NMap}{h:Heap}(c:Ch (vw h) C rm rc rb f b l)(mb:dg (.int .i64) h rb (mapI best))(hbest : ∀p t,best p=VE t->0<=t/\t<l.length)(hi:i<=(nth f.blocks b).ins.length)(hpat : ∀t∈l,I64 t.pat):
  az VK 98 #[ptz C,VB VC i] h (λu h'=>(vw h).le (vw h')/\SlRd (vw h') u (jy f b l best i)):=by
 refine aq (args:=[ptz C,VB VC i]) follows Tryz.func98 E.gy Vw λK hK=>?_;dsimp only[L.gy,lkF,lkG];obtain⟨-,vb,cb,sb⟩:=fw c.at_;have hbl:=c.hb;have hsm:=c.sm;have hlen:=hsm.len;have qb:=sb.idxn (k:=.i64) (N:=6) rfl (i:=(b:Int)) V4 V4;have n6:Rep.n BlkD=6:=rfl;obtain⟨ux,hux,rux⟩:=(sb.at hbl).ldN rfl (N:=6) rfl;have hux:=hux _ Vy;simp[n6]at qb hux;have bk:=c.bk;refine aa λz hz=>?_;simp;subst hz;refine aa λz hz=>?_;refine aQ (vw h) Vy ?_;simp[cb,bk,qb,hux];have c0:=Cx.start (h:=h) (View.le_refl (vw h));refine c0.Cs (α:=BlkD) Vy rux (n:=6) (z:=zz3) V0 rfl rfl V0 (λ_=>by rfl) (λ_=>by rfl) λB5 h1 W1 hW1 c1 at5 hle1=>?_;have at5:=at5.mono c1.wle;have c':=c.mono hle1;have mb:=mb.ext hle1;clear cb sb qb hux rux bk c1 hW1;obtain⟨vin,cin,sin⟩:=(at5.part BlkD.jS).list;obtain⟨vta,cta,sta⟩:=((at5.part BlkD.mV).part de.eX).list;simp at cin cta;obtain⟨uF,huF,rF⟩:=c'.at_.ldN rfl (N:=2) rfl;subst hz;refine aa λz hz=>?_;simp[c'.x6];refine eO (f:=mapI best) (z:=VB VC 0) (k:=T.int) (e:=T.int) (d:=.int .i64) (r:=rb) (u:=VB VC i) V0 V0 V0 rfl rfl cQ mb ?_;unfold jy at hK;cases hbi:best i with
 | some t=>
  rw[hbi]at hK;dsimp only at hK;obtain⟨t0,t1⟩:=hbest _ _ hbi;obtain⟨tn,rfl⟩:=S2 t0;rw[Si]at hK;have ht:tn<l.length:=by omega
  obtain⟨vl,cl,sl⟩:=c'.tl;have ql:=sl.idxn (k:=.i64) (N:=2) rfl (i:=(tn:Int)) V4 V4;have n2:Rep.n aF=2:=rfl;have kp:=((sl.at ht).part aF.Bs).int;rw[<-ay ht]at kp;simp[n2]at ql kp;simp[hbi];subst hz;refine aa λz hz=>?_;refine dB ?_;refine aa λy hy=>?_;simp;subst hy;refine aT V7 ?_;refine aa λy hy=>?_;refine aQ (vw h1) Vy ?_;simp[huF _ Vy,c'.bk,cl,ql,kp];refine ah V0 (DU (b:=(b:Int)) (p:=(i:Int)) (pat:=(nth l tn).pat) (W:=vw h1) Vy rF hsm (λ_ _ _=>c.mem) (hpat _ (aX ht))) ?_;rintro _ h2 ⟨hle2,v1,v2,rfl,s1,s2⟩;simp;subst hy;simp;exact hK _ _ ⟨Vz hle1 hle2,s1⟩
 | none=>
  rw[hbi]at hK;dsimp only at hK;simp[hbi];subst hz;refine aa λz hz=>?_;refine dB ?_;refine aa λy hy=>?_;simp;subst hy;refine bf V7 ?_;by_cases ci:i=(nth f.blocks b).ins.length
  ·rw[if_pos ci]at hK;refine kD V7 ?_ ?_
   ·simp[cin,sin.len,ci];rw[ay hbl]
   simp[cta];exact hK _ _ ⟨hle1,by rw[ay hbl];exact sta⟩
  rw[if_neg ci]at hK;have ci2:¬i=f.blocks[b].ins.length:=by rw[<-ay hbl];exact ci
  refine kJ V7 ?_ ?_
  ·simp[cin,sin.len];omega
  try simp
  subst hz;simp;exact hK _ _ ⟨hle1,aO⟩
structure Mz (B W:View) (h:Heap) (o:Own) (rs:List Nat):Prop where
 own:Owns W h o
 le:B.le W
 no : ∀r∈rs,B r=VF
 lt : ∀r∈rs,r<h.size
section
variable {B W W':View} {h h':Heap} {o:Own} {rs:List Nat} {po po2:OP}
theorem Mz.wle (m:Mz B W h o rs):B.le (vw h):=Vz m.le m.own.wle
theorem Mz.ext (m:Mz B W h o rs) (hle:(vw h).le (vw h')):Mz (grow B h h') (grow W h h') h' o rs:=
 ⟨m.own.ext hle,λb x hb=>by
  unfold grow at hb ⊢;split at hb
  ·rename_i c;rw[if_pos c];exact m.le b x hb
  rename_i c;rw[if_neg c];exact hb,λr hr=>by rw[gQ (m.lt r hr)];exact m.no r hr,λr hr=>SY (m.lt r hr) (bO hle)⟩
theorem Mz.up (m:Mz B W h o rs):B.le (grow B h h'):=bz m.wle
theorem Mz.upW (m:Mz B W h o rs):W.le (grow W h h'):=bz m.own.wle
theorem Mz.turn (m:Mz B W h o rs) {r:Nat} (hr:r∈rs) (w:Owns W' h' o) (t:Tn [r] W W') (hs:h'.size=h.size):Mz B W' h' o rs:=
 ⟨w,t.le m.le λb hb=>by rw[RR.1 hb];exact m.no r hr,m.no,λq hq=>by rw[hs];exact m.lt q hq⟩
theorem Mz.more (m:Mz B W h o rs) {r:Nat} (hn:B r=VF) (hl:r<h.size):Mz B W h o (r::rs):=
 ⟨m.own,m.le,λq hq=>by
  rcases Sb.1 hq with rfl | hq
  ·exact hn
  ·exact m.no q hq,λq hq=>by
  rcases Sb.1 hq with rfl | hq
  ·exact hl
  exact m.lt q hq⟩
end
theorem M7 {A B:View} {u:Value} {l:List Int} (s:SrcT A B u l):SrcT A nothing u l:=by obtain⟨a,c,h1,h2,news,h3,h4,h5⟩:=s;exact⟨a,c,h1,h2,news,h3,h4,λi hi=>h5 i hi⟩
theorem xv {v:Value} {l:List Int} {h:Heap} (hv:SlRd (vw h) v l) (hb:l.length<=1000000) :
  az VK 52 #[v] h (λu h'=>(vw h).le (vw h')/\SlRd (grow nothing h h') u l):=by
 refine aq (args:=[v]) follows Tryz.func52 E.fI Vw λK hK=>?_;dsimp only[L.fI,lkF,lkG];have hv0:=hv;obtain⟨a,cap,rfl,g1,g2,g3⟩:=hv0;refine aa λz hz=>?_;simp;subst hz;refine aa λz hz=>?_;refine aa λy hy=>?_;simp;refine zL U.aY rfl rfl ?_;subst hy;by_cases ha:a=VF
 ·subst ha;have hl:l=[]:=by
   rcases g3 with g3 | ⟨ad,g3,_⟩
   ·first | exact g3 | exact Sj (by simpa using g3)
   cases g3
  subst hl;simp;exact hK _ _ ⟨View.le_refl _,aO⟩
 have hi:a.isNone=false:=by cases a<;>simp at ha ⊢
 simp[hi];subst hz;refine aa λz hz=>?_;simp;refine qL (α:=Int) El.aY λh1 hle1 hs1 own1=>?_;have m1:=Mine.empty (V:=nothing) (W:=nothing) Vy hle1 (λ_ _ e=>nomatch e) (Old.refl _ _) own1;refine dd (α:=Int) (l:=[]) (l2:=l) El.aY rfl rfl m1.own (M7 (hv.src hle1)) Vv Vv λv2 h2 own2 mv=>?_;have m2:=m1.gG own2 mv;subst hz;simp;refine hK _ _ ⟨m2.old,?_⟩;have:=m2.result;simpa using this
structure Cw (B W:View) (h:Heap) (o:Own) (C rm rc rb:Nat) (f:ak) (b:Nat) (l:List aF) (mk:NMap) (s:CB) (rs:List Nat):Prop where
 z:Mz B W h o rs
 ch:Ch B C rm rc rb f b l
 mm:MV (.int .i64) W rm (mapI mk)
 mc:MV (.int .i64) W rc (mapI s.cost)
 mb:MV (.int .i64) W rb (mapI s.best)
 ne:rm≠rc/\rm≠rb/\rc≠rb
 cin:rc∈rs
 bin:rb∈rs
section
variable {B W W':View} {h h':Heap} {o:Own} {C rm rc rb:Nat} {f:ak} {b:Nat} {l:List aF} {mk:NMap} {s:CB} {rs:List Nat}
theorem Cw.ext (c:Cw B W h o C rm rc rb f b l mk s rs) (hle:(vw h).le (vw h')):Cw (grow B h h') (grow W h h') h' o C rm rc rb f b l mk s rs:=
 ⟨c.z.ext hle,c.ch.mono c.z.up,c.mm.mono c.z.upW,c.mc.mono c.z.upW,c.mb.mono c.z.upW,c.ne,c.cin,c.bin⟩
theorem Cw.at_ (c:Cw B W h o C rm rc rb f b l mk s rs):Ch (vw h) C rm rc rb f b l:=c.ch.mono c.z.wle
theorem Cw.m1 (c:Cw B W h o C rm rc rb f b l mk s rs):dg (.int .i64) h rm (mapI mk):=c.mm.is c.z.own.wle
theorem Cw.m2 (c:Cw B W h o C rm rc rb f b l mk s rs):dg (.int .i64) h rc (mapI s.cost):=c.mc.is c.z.own.wle
theorem Cw.m3 (c:Cw B W h o C rm rc rb f b l mk s rs):dg (.int .i64) h rb (mapI s.best):=c.mb.is c.z.own.wle
end
theorem Cw.less {B W:View} {h:Heap} {o:Own} {C rm rc rb r:Nat} {f:ak} {b:Nat} {l:List aF} {mk:NMap} {s:CB} {rs:List Nat} (c:Cw B W h o C rm rc rb f b l mk s (r::rs)) (h1:rc∈rs) (h2:rb∈rs):Cw B W h o C rm rc rb f b l mk s rs:=
 ⟨⟨c.z.own,c.z.le,λq hq=>c.z.no q (RU _ hq),λq hq=>c.z.lt q (RU _ hq)⟩,c.ch,c.mm,c.mc,c.mb,c.ne,h1,h2⟩
theorem xR {f:ak} {b:Nat} {l:List aF} {mk:NMap} {i:Nat} {s:CB} {j:Int} (h:j≠i) : ∀{k:Nat},(Lft.up (cG f b l mk i) k s).cost j=s.cost j
 | 0=>rfl
 | k+1=>by
  have ih:=xR (f:=f) (b:=b) (l:=l) (mk:=mk) (s:=s) h (k:=k);show(cG f b l mk i k (Lft.up (cG f b l mk i) k s)).cost j=_;generalize Lft.up (cG f b l mk i) k s=q at *;unfold cG;split
  ·exact ih
  split
  ·exact(if_neg h:putM q.cost i _ j=q.cost j).trans ih
  exact ih
theorem Cw.putC {B W W':View} {h h':Heap} {o:Own} {C rm rc rb:Nat} {f:ak} {b:Nat} {l:List aF} {mk:NMap} {s:CB} {rs:List Nat} {cost:NMap} (c:Cw B W h o C rm rc rb f b l mk s rs) (w:Owns W' h' o) (m:MV (.int .i64) W' rc (mapI cost)) (t:Tn [rc] W W') (hs:h'.size=h.size):Cw B W' h' o C rm rc rb f b l mk ⟨cost,s.best⟩ rs:=
 ⟨c.z.turn c.cin w t hs,c.ch,c.mm.tn t (by simp[c.ne.1]),m,c.mb.tn t (by simp;exact λe=>c.ne.2.2 e.symm),c.ne,c.cin,c.bin⟩
theorem Cw.putB {B W W':View} {h h':Heap} {o:Own} {C rm rc rb:Nat} {f:ak} {b:Nat} {l:List aF} {mk:NMap} {s:CB} {rs:List Nat} {best:NMap} (c:Cw B W h o C rm rc rb f b l mk s rs) (w:Owns W' h' o) (m:MV (.int .i64) W' rb (mapI best)) (t:Tn [rb] W W') (hs:h'.size=h.size):Cw B W' h' o C rm rc rb f b l mk ⟨s.cost,best⟩ rs:=
 ⟨c.z.turn c.bin w t hs,c.ch,c.mm.tn t (by simp[c.ne.2.1]),c.mc.tn t (by simp[c.ne.2.2]),m,c.ne,c.cin,c.bin⟩
def Nw (W:View) (o:Own) (C rm rc rb:Nat) (f:ak) (b:Nat) (l:List aF) (mk:NMap) (s:CB) (B:View) (rs:List Nat) (h':Heap):Prop:=
 ∃B' W',B.le B'/\Tn [rc,rb] W W'/\Cw B' W' h' o C rm rc rb f b l mk s rs
set_option maxHeartbeats 2000000 in
theorem Ld {B W:View} {h:Heap} {o:Own} {C rm rc rb:Nat} {f:ak} {b i:Nat} {l:List aF} {mk:NMap} {s:CB} {rs:List Nat} (c:Cw B W h o C rm rc rb f b l mk s rs) (hi:i<=(nth f.blocks b).ins.length) (hco : ∀p:Int,p<i->∀n,s.cost p=VE n->0<=n/\n<=1000000000) (hah : ∀pat x,dy f b i pat=VE x->∀v∈x.takes,∀p,mk v=VE p->p<i) (hta : ∀v∈(nth f.blocks b).term.args,∀p,mk v=VE p->p<(nth f.blocks b).ins.length) (htl : ∀pat x,dy f b i pat=VE x->x.takes.length<=30000) (hcl : ∀t∈l,0<=t.cost/\t.cost<=1000) (hpat : ∀t∈l,I64 t.pat) :
  az VK 97 #[ptz C,VB VC i] h (λu h'=>Nw W o C rm rc rb f b l mk (plc8 f b l mk i s) B rs h'):=by
 refine aq (args:=[ptz C,VB VC i]) follows Tryz.func97 E.bV Vw λK hK=>?_;dsimp only[L.bV,lkF,lkG];have cv:=c.at_;have hbl:=cv.hb;have hsm:=cv.sm;have hlen:=hsm.len;obtain⟨-,vb,cb,sb⟩:=fw cv.at_;have qb:=sb.idxn (k:=.i64) (N:=6) rfl (i:=(b:Int)) V4 V4;have n6:Rep.n BlkD=6:=rfl;obtain⟨ux,hux,rux⟩:=(sb.at hbl).ldN rfl (N:=6) rfl;have hux:=hux _ Vy;simp[n6]at qb hux;have bk:=cv.bk;refine aa λz hz=>?_;refine aQ (vw h) Vy ?_;simp[cb,bk,qb,hux];have c0:=Cx.start (h:=h) (View.le_refl (vw h));refine c0.Cs (α:=BlkD) Vy rux (n:=6) (z:=zz3) V0 rfl rfl V0 (λ_=>by rfl) (λ_=>by rfl) λB5 h1 W1 hW1 c1 at5 hle1=>?_;have at5:=at5.mono c1.wle;have cw1:=c.ext hle1;have hB1:=c.z.up (h':=h1);have hWW1:=c.z.upW (h':=h1);clear cb sb qb hux rux bk c1 hW1 cv;obtain⟨vin,cin,sin⟩:=(at5.part BlkD.jS).list;obtain⟨vta,cta,sta⟩:=((at5.part BlkD.mV).part de.eX).list;obtain⟨uT,huT,rT⟩:=(at5.part BlkD.mV).ldN rfl (N:=4) rfl;simp at cin cta huT;rw[<-ay hbl]at sin sta rT;subst hz;refine aa λz hz=>?_;refine aa λy hy=>?_;have rest : ∀(h2:Heap) (B2 W2:View),B.le B2->W.le W2->Cw B2 W2 h2 o C rm rc rb f b l mk s rs->(vw h1).le (vw h2)->ia f b i=VJ->
   ∀ρ,Slk ρ [(0,ptz C),(1,VB VC i),(4,ptz B5)]->LC.wp VK z (dT [] K) ρ h2:=by
  intro h2 B2 W2 hB2 hW2 cw2 hle2 hbare ρ hS;rw[hz];have hres:plc8 f b l mk i s=Lft.up (cG f b l mk i) l.length s:=by unfold plc8;rw[if_neg (by rw[hbare];simp)]
  rw[hres]at hK;simp only[iN,ko,and_true]at hS;obtain⟨e0,e1,e4⟩:=hS;have bl:=(let ⟨_,_,s⟩:=cw2.ch.tl;s.bound:l.length<=140737488355328);refine aa λy hy=>?_;simp;refine cw2.z.own.nL (d:=.int .i64) λh3 W3 hW3 hle3 w3 hn3 m3=>?_;obtain⟨rf,hrf⟩ : ∃rf,rf=h2.size:=⟨_,rfl⟩;rw[<-hrf]at hn3 m3 ⊢;have hBn:B2 rf=none:=by
   cases hq:B2 rf with
   | none=>rfl
   | some x=>have:=cw2.z.le rf x hq;rw[hn3]at this;cases this
  have hne : ∀{q:Nat} {g:Value->Option Value},MV (.int .i64) W2 q g->q≠rf:=λm e=>by obtain⟨es,cl,h1⟩:=m.OI;rw[e,hn3]at h1;cases h1
  have n1:=hne cw2.mc;have n2:=hne cw2.mb;have n3:=hne cw2.mm;have cw3:Cw B2 W3 h3 o C rm rc rb f b l mk s (rf::rs):=⟨(⟨w3,Vz cw2.z.le hW3,cw2.z.no,λr hr=>SY (cw2.z.lt r hr) (bO hle3)⟩:Mz B2 W3 h3 o rs).more hBn (m3.is w3.wle).lt,cw2.ch,cw2.mm.mono hW3,cw2.mc.mono hW3,cw2.mb.mono hW3,cw2.ne,RU _ cw2.cin,RU _ cw2.bin⟩;obtain⟨vl,cl,sl⟩:=cw3.ch.tl;subst hy;simp[af,ag,e0,e1,e4,ae cw3.z.wle cl,sl.len];refine aG [0,1,7,59,60,61] (fun(_:Unit) k=>[ptz C,VB VC i,.map (VE rf),vl,VB VC l.length,VB VC k])
   (λ_ k h=>∃Bk Wk fits,B2.le Bk/\Tn [rc,rb,rf] W3 Wk/\Cw Bk Wk h o C rm rc rb f b l mk (Lft.up (cG f b l mk i) k s) (rf::rs)/\MV (.int .i64) Wk rf (mapE id fits)/\∀p v,fits p=VE v->∃x,dy f b i p=VE x/\SlRd Bk v x.takes) l.length ()
   V0 V4 (by simp[bh,af,ag,e0,e1,e4]) ⟨B2,W3,λ_=>VF,View.le_refl _,Tn.refl,cw3,by rw[nH];exact m3,λ_ _ h=>by cases h⟩ (λ_ _=>rfl) (λv i h1 hk m=>by simp) ?_ ?_
  ·rintro _ k h4 hk ⟨Bk,Wk,fits,lBk,tk,cwk,mf,hf⟩ K2 hK2;have hk:k<l.length:=hk;obtain⟨ut,hut,rut⟩:=sl.wh rfl (N:=2) rfl hk;have lh4:B2.le (vw h4):=Vz lBk cwk.z.wle;have qt:=(sl.mono lh4).idxn (k:=.i64) (N:=2) rfl (i:=(k:Int)) V4 V4;simp at qt;refine dB ?_;refine aa λy hy=>?_;simp[qt,hut _ lh4];refine cZ (X:=Bk) (z:=zz1) V0 rfl V0 (rut.mono lBk) V8 V8 λh5 hle5 _ at5=>?_;have at5:=at5 (grow Bk h4 h5) cwk.z.up (b8 (RQ _));generalize h4.size=Tb at at5;have kp:ao (grow Bk h4 h5) ⟨Tb,0,VF⟩=VE (VB VC (nth l k).pat):=by simpa using(at5.part aF.Bs).int
   have kc:ao (grow Bk h4 h5) ⟨Tb,1,VF⟩=VE (VB VC (nth l k).cost):=by simpa using(at5.part aF.wO).int
   have cw5:=cwk.ext hle5;have mf5:=mf.mono (cwk.z.upW (h':=h5));have hf5 : ∀p v,fits p=VE v->∃x,dy f b i p=VE x/\SlRd (grow Bk h4 h5) v x.takes:=λp v hv=>by obtain⟨x,h1,h2⟩:=hf p v hv;exact⟨x,h1,h2.mono cwk.z.up⟩
   have tk5:Tn [rc,rb,rf] W3 (grow Wk h4 h5):=tk.trans (Tn.of_le (cwk.z.upW (h':=h5)));have lB5:B2.le (grow Bk h4 h5):=Vz lBk (cwk.z.up (h':=h5));clear at5 hf mf hle5 rut hut qt tk;generalize grow Bk h4 h5=B5' at *;generalize grow Wk h4 h5=W5 at *;subst hy;have ew:IntKind.i64.wrap ((k:Int)+1)=((k+1:Nat):Int):=by rw[aZ V4 V4];omega
   have hup:Lft.up (cG f b l mk i) (k+1) s=cG f b l mk i k (Lft.up (cG f b l mk i) k s):=rfl;have hcs : ∀p:Int,p<i->(Lft.up (cG f b l mk i) k s).cost p=s.cost p:=λp hp=>xR V4;generalize hsk:Lft.up (cG f b l mk i) k s=sk at *;refine aa λy hy=>?_;simp[ae cw5.z.wle kp];refine eO (f:=mapE id fits) (z:=VG VF 0 0) (k:=T.int) (e:=T.aY) (d:=.int .i64) (r:=rf) (u:=VB VC (nth l k).pat) V0 V0 V0 rfl rfl cQ (mf5.is cw5.z.own.wle) ?_;simp;subst hy;refine aa λy hy=>?_;have cont : ∀(h6:Heap) (B6 W6:View) (fits6:Int->Option Value) (v:Value) (x:FitD) (ρ:Env),dy f b i (nth l k).pat=VE x->SlRd B6 v x.takes->B5'.le B6->Tn [rc,rb,rf] W3 W6->Cw B6 W6 h6 o C rm rc rb f b l mk sk (rf::rs)->MV (.int .i64) W6 rf (mapE id fits6)->
     (∀p v,fits6 p=VE v->∃x,dy f b i p=VE x/\SlRd B6 v x.takes)->Slk ρ [(0,ptz C),(1,VB VC i),(7,.map (VE rf)),(8,VB VC k),(9,ptz Tb),(10,v),(59,vl),(60,VB VC l.length),(61,VB VC k)]->
     LC.wp VK y (eZ 1 (fM K2 (eZ 0 (dT [] K)))) ρ h6:=by
    intro h6 B6 W6 fits6 v x ρ hx hv lB6 t6 cw6 mf6 hf6 hS;simp only[iN,ko,and_true]at hS;obtain⟨r0,r1,r7,r8,r9,r10,r59,r60,r61⟩:=hS;rw[hy];have hw:wS f b l mk sk.cost i k=sumS mk sk.cost (nth l k).cost x.takes:=by unfold wS;rw[hx];rfl
    have kc6:=ae (Vz lB6 cw6.z.wle) kc;obtain⟨hc0,hc1⟩:=hcl _ (aX hk);refine aa λw hw'=>?_;simp[r0,r9,r10,kc6];refine ah V0 (Kg cw6.at_.x4 cw6.at_.x5 cw6.m1 cw6.m2 (hv.mono cw6.z.wle) ⟨hc0,hc1⟩ (λv hv p hp n hn=>by have hlt:=hah _ x hx v hv p hp;rw[hcs p hlt]at hn;exact hco p hlt n hn) (htl _ x hx)) ?_;rintro _ h6 ⟨rfl,rfl⟩;rw[<-hw];simp[af,ag];rw[hw'];clear hw' w;refine aa λw hw'=>?_;simp[af,ag,r0,r1,cw6.at_.x5];refine eO (f:=mapI sk.cost) (z:=VB VC 0) (k:=T.int) (e:=T.int) (d:=.int .i64) (r:=rc) (u:=VB VC i) V0 V0 V0 rfl rfl cQ cw6.m2 ?_;simp[af,ag];rw[hw'];clear hw' w;generalize hρ:setE _ 18 (Value.bool (sk.cost (i:Int)).isSome)=ρ2;have l0:Lft.look ρ2 0=VE (ptz C):=by rw[<-hρ];simp[af,ag,r0]
    have l1:Lft.look ρ2 1=VE (VB VC i):=by rw[<-hρ];simp[af,ag,r1]
    have l7:Lft.look ρ2 7=VE (.map (VE rf)):=by rw[<-hρ];simp[af,ag,r7]
    have l8:Lft.look ρ2 8=VE (VB VC k):=by rw[<-hρ];simp[af,ag,r8]
    have l59:Lft.look ρ2 59=VE vl:=by rw[<-hρ];simp[af,ag,r59]
    have l60:Lft.look ρ2 60=VE (VB VC l.length):=by rw[<-hρ];simp[af,ag,r60]
    have l61:Lft.look ρ2 61=VE (VB VC k):=by rw[<-hρ];simp[af,ag,r61]
    have l15:Lft.look ρ2 15=VE (VB VC ((wS f b l mk sk.cost i k).getD 0)):=by rw[<-hρ];simp[af,ag]
    have l16:Lft.look ρ2 16=VE (.bool (wS f b l mk sk.cost i k).isSome):=by rw[<-hρ];simp[af,ag]
    have l17:Lft.look ρ2 17=VE (VB VC ((sk.cost i).getD 0)):=by rw[<-hρ];simp[af,ag]
    have l18:Lft.look ρ2 18=VE (.bool (sk.cost i).isSome):=by rw[<-hρ];simp[af,ag]
    clear hρ r0 r1 r7 r8 r9 r10 r59 r60 r61 ρ;have skip:Lft.up (cG f b l mk i) (k+1) s=sk->∀ρ3,(∀q,q∈[0,1,7,59,60,61]->Lft.look ρ3 q=Lft.look ρ2 q)->K2 ρ3 h6:=λe ρ3 h3=>by refine hK2 () _ _ (by rw[h3 61 V5,l61]) ?_ ⟨B6,W6,fits6,Vz lB5 lB6,t6,by rw[e];exact cw6,mf6,hf6⟩;have:=λq hq=>h3 q hq;simp at this;obtain⟨a0,a1,a7,a59,a60,a61⟩:=this;simp[bh,af,a0,a1,a7,a59,a60,a61,l0,l1,l7,l59,l60,l61]
    cases hws:wS f b l mk sk.cost i k with
    | none=>
     rw[hws]at l15 l16;have e:cG f b l mk i k sk=sk:=by unfold cG;rw[hws]
     simp[l16,af,ag];exact skip (hup.trans e) _ (by simp[af,ag])
    | some n=>
     rw[hws]at l15 l16;simp at l15;refine aa λw hw'=>?_;have upd:Ah n (sk.cost i)=VI->∀ρ3,Lft.look ρ3 125=VE (.bool VI)->(∀q,q∈[0,1,7,8,15,59,60,61]->Lft.look ρ3 q=Lft.look ρ2 q)->LC.wp VK w (eZ 1 (fM K2 (eZ 0 (dT [] K)))) ρ3 h6:=by
      intro hless ρ3 h125 h3;simp at h3;obtain⟨a0,a1,a7,a8,a15,a59,a60,a61⟩:=h3;rw[l0]at a0;rw[l1]at a1;rw[l7]at a7;rw[l8]at a8;rw[l15]at a15;rw[l59]at a59;rw[l60]at a60;rw[l61]at a61;rw[hw'];refine aT (by simp[h125]) ?_;refine aQ B6 cw6.z.wle ?_;have hr1:B6 rc=none:=cw6.z.no rc cw6.cin;have hr2:B6 rb=none:=cw6.z.no rb cw6.bin;obtain⟨g1,g2⟩:=vZ (f:=sk.cost) (g:=putM sk.cost i n) (j:=(i:Int)) (v:=n) (λ_=>rfl);obtain⟨g3,g4⟩:=vZ (f:=sk.best) (g:=putM sk.best i (k:Int)) (j:=(i:Int)) (v:=(k:Int)) (λ_=>rfl);simp[ag,a0,a1,a8,a15,cw6.ch.x5,cw6.ch.x6];refine xX (d:=.int .i64) (r:=rc) (f:=mapI sk.cost) (u:=VB VC i) (z:=VB VC 0) (k:=T.int) (e:=T.int) V0 V0 V0 rfl rfl cQ cw6.m2 λh7 v7 st7 hs7 ho7 en7=>?_;simp[af];refine tT (v:=VB VC n) rfl rfl rfl en7 g1 g2 λh8 hs8 ho8 m8=>?_;obtain⟨W8,w8,mv8,t8⟩:=cw6.z.own.Js cw6.mc (hs8.trans hs7) (λq hq=>(ho8 q hq).trans (ho7 q hq)) m8;have cw8:=cw6.putC w8 mv8 t8 (hs8.trans hs7);refine xX (d:=.int .i64) (r:=rb) (f:=mapI sk.best) (u:=VB VC i) (z:=VB VC 0) (k:=T.int) (e:=T.int) V0 V0 V0 rfl rfl cQ cw8.m3 λh9 v9 st9 hs9 ho9 en9=>?_;simp[af,ag,a8,a15,a1];refine tT (v:=VB VC k) rfl rfl rfl en9 g3 g4 λh10 hs10 ho10 m10=>?_;obtain⟨W10,w10,mv10,t10⟩:=cw8.z.own.Js cw8.mb (hs10.trans hs9) (λq hq=>(ho10 q hq).trans (ho9 q hq)) m10;have cw10:=cw8.putB w10 mv10 t10 (hs10.trans hs9);have e:cG f b l mk i k sk=⟨putM sk.cost i n,putM sk.best i (k:Int)⟩:=by unfold cG;rw[hws];dsimp only;rw[if_pos hless]
      refine hK2 () _ _ (by simp[af,ag,a61]) (by simp[bh,af,ag,a0,a1,a7,a59,a60,a61]) ⟨B6,W10,fits6,Vz lB5 lB6,(t6.trans (t8.weak V5)).trans (t10.weak V5),by rw[hup,e];exact cw10,(mf6.tn t8 (by simp;exact λe=>n1 e.symm)).tn t10 (by simp;exact λe=>n2 e.symm),hf6⟩
     cases hc:sk.cost i with
     | none=>rw[hc]at l17 l18;simp[l15,l16,l17,l18,af,ag];exact upd (by rw[hc];rfl) _ (by simp[af,ag]) (by simp[af,ag])
     | some m=>
      rw[hc]at l17 l18;simp at l17;by_cases hlt:n<m
      ·simp[l15,l16,l17,l18,af,ag,hlt];exact upd (by rw[hc];simp[Ah,hlt]) _ (by simp[af,ag]) (by simp[af,ag])
      have e:cG f b l mk i k sk=sk:=by unfold cG;rw[hws];dsimp only;rw[hc,if_neg (by simp[Ah,hlt])]
      simp[l15,l16,l17,l18,af,ag,hlt];rw[hw'];simp[af,ag];exact skip (hup.trans e) _ (by simp[af,ag])
   cases hfi:fits (nth l k).pat with
   | some v=>obtain⟨x,hx,hv⟩:=hf5 _ _ hfi;simp;exact cont h5 B5' W5 fits v x _ hx hv Vy tk5 cw5 mf5 hf5 (by simp[iN,ko])
   | none=>
    simp;obtain⟨uF,huF,rF⟩:=cw5.ch.at_.ldN rfl (N:=2) rfl;refine aQ B5' cw5.z.wle ?_;simp[huF _ Vy,cw5.ch.bk,kp];refine ah V0 (DU (b:=(b:Int)) (p:=(i:Int)) (pat:=(nth l k).pat) (W:=B5') cw5.z.wle rF cw5.ch.sm (λ_ _ _=>cw5.ch.mem) (hpat _ (aX hk))) ?_;rintro _ h6 ⟨hle6,v1,v2,rfl,hv1,hv2⟩;have cw6:=cw5.ext hle6;have mf6:=mf5.mono (cw5.z.upW (h':=h6));have hf6 : ∀p v,fits p=VE v->∃x,dy f b i p=VE x/\SlRd (grow B5' h5 h6) v x.takes:=λp v hv=>by obtain⟨x,h1,h2⟩:=hf5 p v hv;exact⟨x,h1,h2.mono cw5.z.up⟩
    have tk6:Tn [rc,rb,rf] W3 (grow W5 h5 h6):=tk5.trans (Tn.of_le (cw5.z.upW (h':=h6)));have lB6:B5'.le (grow B5' h5 h6):=cw5.z.up;generalize grow B5' h5 h6=B6 at *;generalize grow W5 h5 h6=W6 at *;clear hle6 hv2;cases hm:dy f b i (nth l k).pat with
    | none=>
     simp[af,ag];have hw0:wS f b l mk sk.cost i k=none:=by unfold wS;rw[hm];rfl
     have e:cG f b l mk i k sk=sk:=by unfold cG;rw[hw0]
     refine hK2 () _ _ (by simp[af,ag]) (by simp[bh,af,ag]) ⟨B6,W6,fits,Vz lB5 lB6,tk6,by rw[hup,e];exact cw6,mf6,hf6⟩
    | some x=>
     rw[hm]at hv1;have hv1:SlRd (vw h6) v1 x.takes:=hv1;simp[af,ag];have hxl:=htl _ x hm;refine ah V0 (xv hv1 V4) ?_;rintro v7 h7 ⟨hle7,hv7⟩;have cw7:=cw6.ext hle7;have mf7:=mf6.mono (cw6.z.upW (h':=h7));have hv7:SlRd (grow B6 h6 h7) v7 x.takes:=hv7.mono λb x hb=>by
      unfold grow at hb ⊢;split at hb
      ·cases hb
      rename_i c;rw[if_neg c];exact hb
     simp[ae (Vz lB6 (Vz cw6.z.up cw7.z.wle)) kp];obtain⟨g1,g2⟩:=iS (enc:=(id:Value->Value)) (f:=fits) (j:=(nth l k).pat) (v:=v7);refine cw7.z.own.pV mf7 (.inl rfl) (t:=T.EI) (k:=T.int) (e:=T.aY) (u:=VB VC (nth l k).pat) (v:=v7) V0 V0 rfl rfl rfl cQ g1 g2 λh8 W8 w8 m8 t8 hs8 _=>?_;have cw8:Cw (grow B6 h6 h7) W8 h8 o C rm rc rb f b l mk sk (rf::rs):=⟨cw7.z.turn (R1 ..) w8 t8 hs8,cw7.ch,cw7.mm.tn t8 (by simp;exact n3),cw7.mc.tn t8 (by simp;exact n1),cw7.mb.tn t8 (by simp;exact n2),cw7.ne,cw7.cin,cw7.bin⟩;refine cont h8 _ W8 (putM fits (nth l k).pat v7) v7 x _ hm hv7 (Vz lB6 cw6.z.up) ((tk6.trans (Tn.of_le cw6.z.upW)).trans (t8.weak V5)) cw8 m8 (λp v hv=>?_) (by simp[iN,ko]);by_cases hp:p=(nth l k).pat
     ·subst hp;unfold putM at hv;rw[if_pos rfl]at hv;cases hv;exact⟨x,hm,hv7⟩
     unfold putM at hv;rw[if_neg hp]at hv;obtain⟨x2,q1,q2⟩:=hf6 p v hv;exact⟨x2,q1,q2.mono cw6.z.up⟩
  rintro _ h4 ⟨Bk,Wk,fits,lBk,tk,cwk,-,-⟩;simp;refine hK _ _ ⟨Bk,Wk,Vz hB2 lBk,λq hq x hx=>?_,cwk.less c.cin c.bin⟩;have hx2:=hW2 q x hx;refine tk q ?_ x (hW3 q x hx2);have:q≠rf:=λe=>by rw[e,hn3]at hx2;cases hx2
  simp at hq ⊢;exact⟨hq.1,hq.2,this⟩
 by_cases ci:i=(nth f.blocks b).ins.length
 ·simp[cin,sin.len,ci,huT _ Vy];refine ah V0 (Mv rT) ?_;rintro _ h2 ⟨rfl,hle2⟩;have cw2:=cw1.ext hle2;cases hb:yQ (nth f.blocks b).term with
  | true=>
   have hbare:ia f b i=true:=by unfold ia;simp[ci,hb]
   subst hy;refine aT V7 ?_;refine aa λy hy=>?_;simp[ae hle2 cta];have hal:=(hsm.blk b hbl).args;have lB:=Vz hB1 (cw1.z.up (h':=h2));have lW:=Vz hWW1 (cw1.z.upW (h':=h2));refine ah V0 (Kg cw2.at_.x4 cw2.at_.x5 cw2.m1 cw2.m2 (sta.mono hle2) V9 (λv hv p hp n hn=>hco p (by rw[ci];exact hta v hv p hp) n hn) V4) ?_;rintro _ h2 ⟨rfl,rfl⟩;cases hsum:sumS mk s.cost 0 (nth f.blocks b).term.args with
   | none=>rw[show plc8 f b l mk i s=s from by unfold plc8;rw[if_pos hbare,hsum]]at hK;simp;subst hy;simp;exact hK _ _ ⟨_,_,lB,Tn.of_le lW,cw2⟩
   | some n=>rw[show plc8 f b l mk i s=⟨putM s.cost i n,s.best⟩ from by unfold plc8;rw[if_pos hbare,hsum]]at hK;simp;subst hy;simp[cw2.at_.x5];obtain⟨g1,g2⟩:=vZ (f:=s.cost) (g:=putM s.cost i n) (j:=(i:Int)) (v:=n) (λ_=>rfl);refine cw2.z.own.pV cw2.mc (.inl rfl) (t:=T.BY) (k:=T.int) (e:=T.int) (u:=VB VC i) V0 V0 rfl (by rw[ci];rfl) rfl cQ g1 g2 λh3 W3 w3 m3 t3 hs3 _=>?_;refine hK _ _ ⟨_,W3,lB,(Tn.of_le lW).trans (t3.weak V5),cw2.putC w3 m3 t3 hs3⟩
  | false=>
   have hbare:ia f b i=false:=by unfold ia;simp[hb]
   subst hy;simp;refine rest h2 _ _ (Vz hB1 cw1.z.up) (Vz hWW1 cw1.z.upW) cw2 hle2 hbare _ ?_;simp[iN,ko,ci]
 have hbare:ia f b i=false:=by unfold ia;simp[ci]
 have ci2:¬((i:Int)=((nth f.blocks b).ins.length:Int)):=by omega
 simp[cin,sin.len,ci2];subst hy;simp;refine rest h1 _ _ hB1 hWW1 cw1 Vy hbare _ ?_;simp[iN,ko]
section
variable {f:ak} {b:Nat} {l:List aF}
inductive Rch (f:ak) (b:Nat) (l:List aF) (best:NMap) (i:Nat):Nat->Prop
 | top:Rch f b l best i i
 | kid {j p:Nat}:Rch f b l best i j->p∈iL f b l best j->Rch f b l best i p
variable{best:NMap}
theorem Rch.le(o:Okf f)(hb:b<f.blocks.length){i j:Nat}(hi:i<=(nth f.blocks b).ins.length)(h:Rch f b l best i j):j<=i:=by
 induction h with
 | top=>exact RQ _
 | kid _ hk ih=>have:=Cy o hb V4 hk;omega
theorem Rch.one(o:Okf f)(hb:b<f.blocks.length){i:Nat}(hi:i<=(nth f.blocks b).ins.length){r:Nat}(h:Rch f b l best i r):
  (∀s,Rch f b l best i s->r<(nth f.blocks b).ins.length->(nth (nth f.blocks b).ins r).op≠16->(nth (nth f.blocks b).ins r).dst∉innP f b l best s)\/∃q,Rch f b l best i q/\r∈iL f b l best q:=by
 cases h with
 | kid hj hk=>exact .inr ⟨_,hj,hk⟩
 | top=>refine .inl λs hs hlt h16 hin=>?_;have hsi:=hs.le o hb hi;have io:=mw (l:=l) (best:=best) o hb (show s<=_ by omega);obtain⟨m,g1,g2,g3,g4,-⟩:=io.made _ hin;have:=(CD (io.fold _ hin) (dz hb g1) (dz hb hlt) (by rw[<-g4];exact mN g3) (mN h16)).2;have e:(m:Int)=(i:Int):=this;omega
open Classical in
theorem Nd(o:Okf f)(hb:b<f.blocks.length){i:Nat}(hi:i<=(nth f.blocks b).ins.length){tc D:Nat->Int}(hD : ∀j,Rch f b l best i j->D j=tc j+((iL f b l best j).map D).sum):
  D i=(((List.range (i+1)).filter λp=>decide (Rch f b l best i p)).map tc).sum:=by
 have key:=ED (K:=i+1) (root:=λp=>decide (Rch f b l best i p)) (fold:=λp=>!decide (p=i)) (kids:=iL f b l best) (tc:=tc) (D:=D) (λp hp=>?_) (λj hj hr p hk=>?_) (λj hj _=>yN o hb V4) (λj hj j' hj' r r' p h h'=>?_) (λj hj r=>hD j (by simpa using r))
 ·rw[key];have e:((List.range (i+1)).filter λp=>!!decide (p=i))=[i]:=by
   rw[S6,Tz];have:(List.range i).filter (λp=>!!decide (p=i))=[]:=by
    rw[List.filter_eq_nil_iff];intro a ha;have:a<i:=by simpa using ha
    simp;omega
   rw[this];simp
  rw[e];simp
 ·simp only[decide_eq_true_eq,Ux,SK];constructor
  ·intro h;cases h with
   | top=>exact .inl V5
   | kid hj hk=>exact .inr ⟨_,by have:=hj.le o hb hi;omega,hj,hk⟩
  rintro(h | ⟨j,hj,h1,h2⟩)
  ·have:p=i:=by simpa using h
   subst this;exact .top
  exact .kid h1 h2
 ·have hr:Rch f b l best i j:=by simpa using hr
  have:=Cy o hb (show j<=_ by omega) hk;exact⟨by omega,by simp;omega⟩
 have r:Rch f b l best i j:=by simpa using r
 have r':Rch f b l best i j':=by simpa using r'
 obtain⟨v,hv,h1,h2,rfl⟩:=(nS hb).1 h;obtain⟨v',hv',_,_,rfl⟩:=(nS hb).1 h';obtain⟨c,hc,h3,-⟩:=og o hb (show j<=_ by omega) (.inl hv);exact tx (R:=Rch f b l best i) o hb (λr h=>by have:=h.le o hb hi;omega) (λr h=>h.one o hb hi) ((nth f.blocks b).ins.length+1) (c:=c) V4 (nX h2).1 V4 h3 r r' (.inl hv) (.inl hv')
theorem F3(o:Okf f)(hb:b<f.blocks.length)(hl : ∀t∈l,0<=t.cost/\t.cost<=1000){i:Nat}(hi:i<=(nth f.blocks b).ins.length){c:Int}(hc:(bD f b l).cost i=VE c):0<=c/\c<=1000*((i:Int)+1):=by
 have some_ : ∀j,Rch f b l (bD f b l).best i j->∃n,(bD f b l).cost (j:Int)=VE n:=λj h=>by
  induction h with
  | top=>exact⟨c,hc⟩
  | kid hj hk ih=>obtain⟨n,hn⟩:=ih;exact(qX o hb (by have:=hj.le o hb hi;omega) hn).2 _ hk
 have h:=Nd (l:=l) (best:=(bD f b l).best) o hb hi (tc:=oy l (bD f b l).best) (D:=tN f b l) λj hj=>by obtain⟨n,hn⟩:=some_ j hj;exact(qX o hb (by have:=hj.le o hb hi;omega) hn).1
 have e:tN f b l i=c:=by unfold tN;rw[hc];rfl
 rw[e]at h;have ht : ∀j,0<=oy l (bD f b l).best j/\oy l (bD f b l).best j<=1000:=λj=>by
  unfold oy;split
  ·rename_i t _;by_cases q:t.toNat<l.length
   ·exact hl _ (aX q)
   have:nth l t.toNat=⟨0,0⟩:=by unfold nth;simp[List.getD,SH (show l.length<=t.toNat by omega)];rfl
   rw[this];simp
  simp
 have bound : ∀r:List Nat,0<=(r.map (oy l (bD f b l).best)).sum/\(r.map (oy l (bD f b l).best)).sum<=1000*(r.length:Int):=λr=>by
  induction r with
  | nil=>simp
  | cons a r ih=>have:=ht a;simp;omega
 have q:=bound ((List.range (i+1)).filter λp=>@decide (Rch f b l (bD f b l).best i p) (Classical.propDecidable _));have hlen:((List.range (i+1)).filter λp=>@decide (Rch f b l (bD f b l).best i p) (Classical.propDecidable _)).length<=i+1:=by have:=UL (λp=>@decide (Rch f b l (bD f b l).best i p) (Classical.propDecidable _)) (List.range (i+1));simpa using this
 rw[h];exact⟨q.1,by omega⟩
theorem BS{mk:NMap}{i:Nat}{s:CB}{j:Int}(h:j≠i):(plc8 f b l mk i s).cost j=s.cost j/\(plc8 f b l mk i s).best j=s.best j:=by
 unfold plc8;split
 ·split
  ·exact⟨rfl,rfl⟩
  exact⟨nv h,rfl⟩
 have : ∀k,(Lft.up (cG f b l mk i) k s).cost j=s.cost j/\(Lft.up (cG f b l mk i) k s).best j=s.best j:=λk=>by
  induction k with
  | zero=>exact⟨rfl,rfl⟩
  | succ k ih=>
   rw[up_add];generalize Lft.up (cG f b l mk i) k s=q at *;unfold cG;split
   ·exact ih
   split
   ·exact⟨(nv h).trans ih.1,(nv h).trans ih.2⟩
   exact ih
 exact this _
theorem Bj {mk:NMap} : ∀{n d:Nat} {j:Int},j<n->(nO f b l mk (n+d)).cost j=(nO f b l mk n).cost j
 | n,0,j,_=>rfl
 | n,d+1,j,h=>by have e:nO f b l mk (n+(d+1))=plc8 f b l mk (n+d) (nO f b l mk (n+d)):=rfl;rw[e,(BS V4).1];exact Bj h
end
theorem Jb{f:ak}{b i:Nat}{pat:Int}{x:FitD}(o:Okf f)(hb:b<f.blocks.length)(hx:dy f b i pat=VE x):x.takes.length<=30000:=by
 have hi:i<=(nth f.blocks b).ins.length:=by
  have hx:=hx;unfold dy fO at hx;split at hx
  ·split at hx
   ·rename_i c;simp[dq]at c;omega
   cases hx
  cases hx
 obtain⟨m,hm⟩:=(zi o.sm o.imm hb hi hx).len;have sb:=o.sm.blk b hb;have arg : ∀k:Nat,(nth (nth f.blocks b).ins k).args.length<=10000:=λk=>by
  rcases RX k (nth f.blocks b).ins.length with h | h
  ·exact sb.inn k h
  rw[bH h];exact To _
 have h1:=arg m;have h2:=arg i;have h3:=sb.args;split at hm<;>omega
abbrev ChoD:=Cat ak (Cat (List aF) (Cat Int (Cat Raw (Cat Raw Raw))))
set_option maxHeartbeats 2000000 in
theorem rA{W:View}{h:Heap}{o:Own}{f:ak}{b:Nat}{l:List aF}{v vl:Value}(w:Owns W h o)(hv:Rd W v f)(hvl:SlRd W vl l)(hok:Okf f)(hM:iG)(hb:b<f.blocks.length)(hpat : ∀t∈l,I64 t.pat)(hcl : ∀t∈l,0<=t.cost/\t.cost<=1000):
  az VK 49 #[v,vl,VB VC b] h (λu h'=>∃C rm rc rb B' W',u = ptz C/\W.cf.le B'/\W.le W'/\Cw B' W' h' o C rm rc rb f b l (mkU f b) (bD f b l) [rb,rc,rm]):=by
 refine aq (args:=[v,vl,VB VC b]) follows Tryz.func49 E.di Vw λK hK=>?_;dsimp only[L.di,lkF,lkG];have hsm:=hok.sm;have hlen:=hsm.len;refine aa λz hz=>?_;simp;refine w.tC (α:=ak) rfl hv λFb h1 W1 hW1 w1 atF hle1=>?_;subst hz;obtain⟨uF,huF,rF⟩:=atF.ldN rfl (N:=2) rfl;refine aa λz hz=>?_;simp[huF _ w1.wle];refine w1.nL (d:=.int .i64) λh2 W2 hW2 hle2 w2 hn2 mm2=>?_;generalize h1.size=rm at *;refine w2.nL (d:=.int .i64) λh3 W3 hW3 hle3 w3 hn3 mc3=>?_;generalize h2.size=rc at *;refine w3.nL (d:=.int .i64) λh4 W4 hW4 hle4 w4 hn4 mb4=>?_;generalize h3.size=rb at *;obtain⟨vb,rfl,ip,sb⟩:=Li rF;have hvl0:=hvl;obtain⟨va,vcap,rfl,-,-,-⟩:=hvl0;have hb64:I64 (b:Int):=V9;refine aA (z:=zz13) (places:=[(0,2),(2,1),(3,1),(4,1),(5,1),(6,1)]) (vs:=[(0,.agg #[VB VC f.params,vb]),(1,.slice va l.length vcap),(2,VB VC b),(3,.map (VE rm)),(4,.map (VE rc)),(5,.map (VE rb))]) (cs:=#[VB VC f.params,vb,.slice va l.length vcap,VB VC b,.map (VE rm),.map (VE rc),.map (VE rb)]) V0 V0 V5 V0 ?_;have sb4:=sb.mono (Vz hW2 (Vz hW3 hW4));have sl4:=hvl.mono (Vz hW1 (Vz hW2 (Vz hW3 hW4)));refine w4.tC (α:=ChoD) (d:=⟨f,l,(b:Int),⟨.map (VE rm)⟩,⟨.map (VE rc)⟩,⟨.map (VE rb)⟩⟩) rfl ⟨_,rfl,[VB VC f.params,vb],[.slice va l.length vcap,VB VC b,.map (VE rm),.map (VE rc),.map (VE rb)],rfl,⟨[_],[_],rfl,⟨rfl,ip⟩,⟨vb,rfl,sb4⟩⟩,[_],[_,_,_,_],rfl,⟨_,rfl,sl4⟩,[_],[_,_,_],rfl,⟨rfl,hb64⟩,[_],[_,_],rfl,⟨rfl,rfl⟩,[_],[_],rfl,⟨rfl,rfl⟩,⟨rfl,rfl⟩⟩ λC h5 W5 hW5 w5 at5 hle5=>?_;obtain⟨t1,at5⟩:=at5.cat;obtain⟨t2,at5⟩:=at5.cat;obtain⟨t3,at5⟩:=at5.cat;obtain⟨t4,at5⟩:=at5.cat;obtain⟨t5,t6⟩:=at5.cat;have t1:=t1.cf;have t2:=t2.cf.list;have t3:=t3.cf.int;have t4:=t4.cf.raw;have t5:=t5.cf.raw;have t6:=t6.cf.raw;have ch:Ch W5.cf C rm rc rb f b l:=⟨t1,t2,t3,t4,t5,t6,hsm,hb,hM⟩;have m1:=mm2.mono (Vz hW3 (Vz hW4 hW5));have m2:=mc3.mono (Vz hW4 hW5);have m3:=mb4.mono hW5;have e0:(mapI λ_=>VF)=λ_=>none:=by funext x;unfold mapI;split<;>rfl
 rw[<-e0]at m1 m2 m3;have lt : ∀{r:Nat} {g:Value->Option Value},MV (.int .i64) W5 r g->r<h5.size/\W5.cf r=none:=λm=>by obtain⟨es,cl,q⟩:=m.OI;exact⟨View.lt w5.wle q,by unfold View.cf;rw[q]⟩
 have ne_ : ∀{r r2:Nat} {X:View} {g:Value->Option Value},MV (.int .i64) X r g->X r2=VF->r≠r2:=λm q e=>by obtain⟨es,cl,q2⟩:=m.OI;rw[e,q]at q2;cases q2
 have cw5:Cw W5.cf W5 h5 o C rm rc rb f b l (λ_=>VF) ⟨λ_=>VF,λ_=>VF⟩ [rb,rc,rm]:=
  ⟨⟨w5,View.mS,by simp[(lt m1).2,(lt m2).2,(lt m3).2],by simp[(lt m1).1,(lt m2).1,(lt m3).1]⟩,ch,m1,m2,m3,⟨ne_ mm2 hn3,ne_ (mm2.mono hW3) hn4,ne_ mc3 hn4⟩,by simp,by simp⟩
 have hWB:W.cf.le W5.cf:=λq x hq=>by
  have hx:=Vz hW1 (Vz hW2 (Vz hW3 (Vz hW4 hW5))) q x (View.mS _ _ hq);unfold View.cf at hq ⊢;rw[hx];split at hq
  ·rename_i e;have:=Vz hW1 (Vz hW2 (Vz hW3 (Vz hW4 hW5))) q _ e;rw[hx]at this;cases this;exact hq
  cases hq
 have hW15:=Vz hW2 (Vz hW3 (Vz hW4 hW5));have hWW5:=Vz hW1 hW15;have atF:=atF.mono hW15;have nw0 : ∀r∈[rb,rc,rm],W r=none:=λr hr=>by
  cases q:W r with
  | none=>rfl
  | some x=>
   simp at hr;have q1:=hW1 r x q;have q2:=hW2 r x q1;have q3:=hW3 r x q2;rcases hr with rfl | rfl | rfl
   ·rw[hn4]at q3;cases q3
   ·rw[hn3]at q2;cases q2
   rw[hn2]at q1;cases q1
 clear mm2 mc3 mb4 hn2 hn3 hn4 t1 t2 t3 t4 t5 t6 ch m1 m2 m3 ne_ lt sb4 sl4 w4 w3 w2 w1 huF rF hle1 hle2 hle3 hle4 hle5 hW1 hW2 hW3 hW4 hW5 hW15 sb;obtain⟨-,vb5,cb,sb⟩:=fw atF;have cb:=ae w5.wle cb;have qb:=(sb.mono w5.wle).idxn (k:=.i64) (N:=6) rfl (i:=(b:Int)) V4 V4;have n6:Rep.n BlkD=6:=rfl;obtain⟨ux,hux,rux⟩:=(sb.at hb).ldN rfl (N:=6) rfl;have hux:=hux _ w5.wle;simp[n6]at qb hux;subst hz;refine aa λz hz=>?_;simp[cb,qb,hux];refine cZ (X:=W5.cf) (z:=zz3) V0 rfl V0 rux.cf V8 V8 λh6 hle6 _ at6=>?_;have at6:=at6 (grow W5.cf h5 h6) cw5.z.up (b8 (RQ _));have cw6:=cw5.ext hle6;have hv6:=(hv.cf.mono hWB).mono (cw5.z.up (h':=h6));have hWB6:=Vz hWB (cw5.z.up (h':=h6));have hWW6:=Vz hWW5 (cw5.z.upW (h':=h6));have atF6:=atF.cf.mono (cw5.z.up (h':=h6));obtain⟨uF,huF,rF⟩:=atF6.ldN rfl (N:=2) rfl;clear cw5 hWB hWW5 hle6 atF qb hux rux cb sb;generalize h5.size=D at at6;generalize grow W5.cf h5 h6=B6 at *;generalize grow W5 h5 h6=W6 at *;obtain⟨vin,cin,sin⟩:=(at6.part BlkD.jS).list;simp at cin;rw[<-ay hb]at sin;subst hz;refine aa λz hz=>?_;have cin6:=ae cw6.z.wle cin;simp[cin6,sin.len];have hil:(nth f.blocks b).ins.length<=140737488355328:=sin.bound;refine aG [3,7,8,26,27,28] (fun(_:Unit) k=>[ptz Fb,ptz C,ptz D,vin,VB VC (nth f.blocks b).ins.length,VB VC k])
  (λ_ k h=>∃Bk Wk,B6.le Bk/\W.le Wk/\Cw Bk Wk h o C rm rc rb f b l (Lft.up (ju f b) k λ_=>VF) ⟨λ_=>VF,λ_=>VF⟩ [rb,rc,rm]) (nth f.blocks b).ins.length ()
  V0 V4 (by simp[bh,af,ag]) ⟨B6,W6,View.le_refl _,hWW6,cw6⟩ (λ_ _=>rfl) (λv i h1 hk m=>by simp) ?_ ?_
 ·rintro _ k h7 hk ⟨Bk,Wk,lBk,lWk,cwk⟩ K2 hK2;have hk:k<(nth f.blocks b).ins.length:=hk;obtain⟨ut,hut,rut⟩:=sin.wh rfl (N:=5) rfl hk;have lh7:B6.le (vw h7):=Vz lBk cwk.z.wle;have qt:=(sin.mono lh7).idxn (k:=.i64) (N:=5) rfl (i:=(k:Int)) V4 V4;simp at qt;refine dB ?_;refine aa λy hy=>?_;simp[qt,hut _ lh7];refine cZ (X:=Bk) (z:=zz5) V0 rfl V0 (rut.mono lBk) V8 V8 λh8 hle8 _ at8=>?_;have at8:=at8 (grow Bk h7 h8) cwk.z.up (b8 (RQ _));have cw8:=cwk.ext hle8;have lB8:=Vz lBk (cwk.z.up (h':=h8));have lW8:=Vz lWk (cwk.z.upW (h':=h8));generalize h7.size=Tb at at8;clear qt hut rut cwk lh7 hle8 lBk lWk;generalize grow Bk h7 h8=B8 at *;generalize grow Wk h7 h8=W8 at *;have pop:=ae cw8.z.wle (at8.part InsD.za).int;have pdst:=ae cw8.z.wle (at8.part InsD.iT).int;have rdst:=(at8.part InsD.iT).rng;simp at pop pdst rdst;subst hy;refine aa λy hy=>?_;have hup:Lft.up (ju f b) (k+1) (λ_=>VF)=ju f b k (Lft.up (ju f b) k λ_=>VF):=rfl;generalize hm:Lft.up (ju f b) k (λ_=>VF)=m at *;have no_:ig f b k=VJ->∀ρ,Slk ρ [(3,ptz Fb),(7,ptz C),(8,ptz D),(26,vin),(27,VB VC (nth f.blocks b).ins.length),(28,VB VC k)]->K2 ρ h8:=λhno ρ hS=>by
   simp only[iN,ko,and_true]at hS;obtain⟨r3,r7,r8,r26,r27,r28⟩:=hS;have e:ju f b k m=m:=by unfold ju;rw[if_neg (by rw[hno];simp)]
   refine hK2 () _ _ (by simp[r28]) (by simp[bh,af,ag,r3,r7,r8,r26,r27,r28]) ⟨B8,W8,lB8,lW8,by rw[hup,e];exact cw8⟩
  by_cases c16:(nth (nth f.blocks b).ins k).op=16
  ·have hno:ig f b k=false:=by unfold ig;simp[c16]
   simp[pop,c16];subst hy;simp;exact no_ hno _ (by simp[iN,ko])
  by_cases c18:(nth (nth f.blocks b).ins k).op=18
  ·have hno:ig f b k=false:=by unfold ig;simp[c18]
   simp[pop,c16,c18];subst hy;simp;exact no_ hno _ (by simp[iN,ko])
  simp[pop,c16,c18,pdst,huF _ (Vz lB8 cw8.z.wle)];refine ah V0 (sE (rF.mono (Vz lB8 cw8.z.wle)) hsm rdst) ?_;rintro _ h9 ⟨rfl,hle9⟩;have cw9:=cw8.ext hle9;have lB9:=Vz lB8 (cw8.z.up (h':=h9));have lW9:=Vz lW8 (cw8.z.upW (h':=h9));have pdst9:=ae hle9 pdst;generalize grow B8 h8 h9=B9 at *;generalize grow W8 h8 h9=W9 at *;subst hy;cases hfd:cy f (nth (nth f.blocks b).ins k).dst with
  | false=>
   have hno:ig f b k=false:=by unfold ig;simp[hfd]
   have e:ju f b k m=m:=by unfold ju;rw[if_neg (by rw[hno];simp)]
   simp;refine hK2 () _ _ (by simp[af,ag]) (by simp[bh,af,ag]) ⟨B9,W9,lB9,lW9,by rw[hup,e];exact cw9⟩
  | true=>
   have hyes:ig f b k=true:=by unfold ig;simp[hfd,c16,c18]
   have e:ju f b k m=putM m (nth (nth f.blocks b).ins k).dst (k:Int):=by unfold ju;rw[if_pos hyes]
   obtain⟨g1,g2⟩:=vZ (f:=m) (g:=putM m (nth (nth f.blocks b).ins k).dst (k:Int)) (j:=(nth (nth f.blocks b).ins k).dst) (v:=(k:Int)) (λ_=>rfl);refine aT V5 ?_;refine aQ (vw h9) Vy ?_;simp[ag,cw9.at_.x4,pdst9];refine cw9.z.own.pV cw9.mm (.inl rfl) (t:=T.BY) (k:=T.int) (e:=T.int) (u:=VB VC (nth (nth f.blocks b).ins k).dst) (v:=VB VC k) V0 V0 rfl rfl rfl cQ g1 g2 λh10 W10 w10 m10 t10 hs10 _=>?_;have cw10:Cw B9 W10 h10 o C rm rc rb f b l (putM m (nth (nth f.blocks b).ins k).dst (k:Int)) ⟨λ_=>VF,λ_=>VF⟩ [rb,rc,rm]:=⟨cw9.z.turn V5 w10 t10 hs10,cw9.ch,m10,cw9.mc.tn t10 (by simp;exact λe=>cw9.ne.1 e.symm),cw9.mb.tn t10 (by simp;exact λe=>cw9.ne.2.1 e.symm),cw9.ne,cw9.cin,cw9.bin⟩;refine hK2 () _ _ (by simp[af,ag]) (by simp[bh,af,ag]) ⟨B9,W10,lB9,t10.le lW9 (by simp;exact nw0 rm V5),by rw[hup,e];exact cw10⟩
 rintro _ h7 ⟨B7,W7,lB7,lW7,cw7⟩;have hmk:Lft.up (ju f b) (nth f.blocks b).ins.length (λ_=>VF)=mkU f b:=rfl;rw[hmk]at cw7;simp;subst hz;have cin7:=ae (Vz lB7 cw7.z.wle) cin;refine aa λz hz=>?_;have ew:IntKind.i64.wrap (((nth f.blocks b).ins.length:Int)+1)=(((nth f.blocks b).ins.length+1:Nat):Int):=by rw[aZ V4 V4];omega
 simp[cin7,sin.len,ew];refine aG [7,58,59] (fun(_:Unit) k=>[ptz C,VB VC ((nth f.blocks b).ins.length+1:Nat),VB VC k])
  (λ_ k h=>∃Bk Wk,B6.le Bk/\W.le Wk/\Cw Bk Wk h o C rm rc rb f b l (mkU f b) (nO f b l (mkU f b) k) [rb,rc,rm]) ((nth f.blocks b).ins.length+1) ()
  V0 V4 (by simp[bh,af,ag]) ⟨B7,W7,lB7,lW7,cw7⟩ (λ_ _=>rfl) (λv i h1 hk m=>by simp) ?_ ?_
 ·rintro _ k h8 hk ⟨Bk,Wk,lBk,lWk,cwk⟩ K2 hK2;have hk:k<(nth f.blocks b).ins.length+1:=hk;refine dB ?_;refine aa λy hy=>?_;simp;subst hy;simp;refine ah V0 (Ld (i:=k) cwk V4 ?_ ?_ ?_ ?_ hcl hpat) ?_
  ·intro p hp n hn;have hbl:=hsm.blk b hb;rcases Int.lt_or_le p 0 with c0 | c0
   ·have : ∀q:Nat,(nO f b l (mkU f b) q).cost p=none:=λq=>by
     induction q with
     | zero=>rfl
     | succ q ih=>exact((BS V4).1).trans ih
    rw[this]at hn;cases hn
   obtain⟨q,rfl⟩:=S2 c0;have hs:=Bj (f:=f) (b:=b) (l:=l) (mk:=mkU f b) (n:=k) (d:=(nth f.blocks b).ins.length+1-k) (j:=(q:Int)) hp;rw[show k+((nth f.blocks b).ins.length+1-k)=(nth f.blocks b).ins.length+1 by omega]at hs;have:=F3 hok hb hcl (i:=q) V4 (c:=n) (hs.trans hn);have hl2:(nth f.blocks b).ins.length<=10000:=by have:=hbl.ins;omega
   omega
  ·exact λpat x hx v hv p hp=>rU hok hb k pat x hx v hv p hp
  ·exact λv hv p hp=>zJ hb v hv p hp
  ·exact λpat x hx=>Jb hok hb hx
  rintro _ h9 ⟨B9,W9,l9,t9,cw9⟩;have e:nO f b l (mkU f b) (k+1)=plc8 f b l (mkU f b) k (nO f b l (mkU f b) k):=rfl;exact hK2 () _ _ (by simp[af,ag]) (by simp[bh,af,ag]) ⟨B9,W9,Vz lBk l9,t9.le lWk (by simp;exact⟨nw0 rc V5,nw0 rb V5⟩),by rw[e];exact cw9⟩
 rintro _ h8 ⟨B8,W8,lB8,lW8,cw8⟩;simp;subst hz;simp;exact hK _ _ ⟨C,rm,rc,rb,B8,W8,rfl,Vz hWB6 lB8,lW8,cw8⟩
section
variable {po po2 po3:OP} {pp:PP}
structure Aside (X:View) (h:Heap) (o:Own):Prop where
 le:X.le (vw h)
 av : ∀k i,o k=VE i->Av X i.v
structure Held (n:Nat) (X Y:View) (h:Heap) (o:Own):Prop where
 own:Owns Y h o
 asd:Aside X h o
 nl:n<=h.size
 lo : ∀b,b<n->∀x,Y b=VE x->X b=VE x
 hi : ∀b,n<=b->∀x,Y b=VE x->X b=VF
section
variable {n:Nat} {X X' Y:View} {h h':Heap} {o:Own} {k:Key}
theorem Held.start(w:Owns Y h o):Held h.size Y Y h o:=
 ⟨w,⟨w.wle,w.av⟩,RQ _,λ_ _ _ h=>h,λb hb x hx=>by have:=View.lt w.wle hx;omega⟩
theorem Held.move(w:Held n X Y h o)(h1 : ∀b,b<n->X' b=X b)(h2:X'.le (vw h'))(h3 : ∀b,X b=VF->b<h.size->h'[b]? = h[b]?/\X' b=VF)(h4:h.size<=h'.size):Held n X' Y h' o:=by
 have own : ∀k i,o k=VE i->∀b,i.v.ownBlock=VE b->h'[b]? = h[b]?/\X' b=none:=λk i hk b hb=>h3 b (w.asd.av k i hk b hb) (w.own.lt hk hb);refine⟨⟨λb x hx=>?_,λk i hk=>?_,w.own.av,w.own.dj⟩,⟨h2,λk i hk b hb=>(own k i hk b hb).2⟩,Sk w.nl h4,λb hb x hx=>?_,λb hb x hx=>(h3 b (w.hi b hb x hx) (View.lt w.own.wle hx)).2⟩
 ·rcases RX b n with hb | hb
  ·exact h2 b x (by rw[h1 b hb];exact w.lo b hb x hx)
  exact((h3 b (w.hi b hb x hx) (View.lt w.own.wle hx)).1).trans (w.own.wle b x hx)
 ·exact @OwnT.same i.α i.rep _ _ _ _ _ _ (w.own.own k i hk) λb hb=>(own k i hk b hb).1
 rw[h1 b hb];exact w.lo b hb x hx
theorem Held.yG{P:View->Own->Prop}:oD n (λX h=>∃Y o,Held n X Y h o/\P Y o):=
 ⟨λ⟨Y,o,w,_⟩=>w.asd.le,λ⟨Y,o,w,p⟩ h1 h2 h3 h4=>⟨Y,o,w.move h1 h2 h3 h4,p⟩⟩
theorem Held.ext (w:Held n X Y h o) (hle:(vw h).le (vw h')):Held n X (grow Y h h') h' o:=
 ⟨w.own.ext hle,⟨Vz w.asd.le hle,w.asd.av⟩,Sk w.nl (bO hle),λb hb x hx=>by
  unfold grow at hx;rw[if_pos (SY hb w.nl)]at hx;exact w.lo b hb x hx,λb hb x hx=>by
  unfold grow at hx;split at hx
  ·exact w.hi b hb x hx
  exact View.cg w.asd.le V4⟩
theorem Held.ext' (w:Held n X Y h o) (hle:(vw h).le (vw h')):Held n X Y h' o:=
 ⟨w.own.ext' hle,⟨Vz w.asd.le hle,w.asd.av⟩,Sk w.nl (bO hle),w.lo,w.hi⟩
theorem Held.sub {o':Own} (w:Held n X Y h o) (hs : ∀k i,o' k=VE i->o k=VE i):Held n X Y h o':=
 ⟨w.own.sub hs,⟨w.asd.le,λk i hk=>w.asd.av k i (hs k i hk)⟩,w.nl,w.lo,w.hi⟩
theorem Held.gG {i:Item} {β:Type} [rb:Rep β] {e2:TypeId} {v':Value} {l':List β} (w:Held n X Y h o) (hk:o k=VE i) (o2:OwnT Y h' e2 v' l') (m:lP h h' i.v v'):Held n X Y h' (o.upd k (it e2 v' l')):=by
 obtain⟨m1,m2⟩:=m.view w.asd.le (w.asd.av k i hk);refine⟨w.own.gG hk o2 m,⟨m1,λj x hj=>?_⟩,Sk w.nl m.kept.size,w.lo,w.hi⟩;unfold Own.upd at hj;split at hj
 ·cases hj;exact m2
 exact w.asd.av j x hj
theorem Held.add {β:Type} [rb:Rep β] {e2:TypeId} {v':Value} {l':List β} (w:Held n X Y h o) (hk:o k = .none) (o2:OwnT Y h' e2 v' l') (hle:(vw h).le (vw h')) (hb : ∀b,v'.ownBlock=VE b->h.size<=b):Held n X Y h' (o.upd k (it e2 v' l')):=by
 refine⟨w.own.add hk o2 hle hb,⟨Vz w.asd.le hle,λj x hj=>?_⟩,Sk w.nl (bO hle),w.lo,w.hi⟩;unfold Own.upd at hj;split at hj
 ·cases hj;exact λb hb'=>View.cg w.asd.le (hb b hb')
 exact w.asd.av j x hj
theorem Held.qR{P:Program}{ty:TypeId}{us:List (Nat × Value)}{t ty2:TypeId}{α:Type}[Rep α]{m:Nat}{z u:Value}{d:α}{x y:Operand}{us2:Value->List (Nat × Value)}{K:Value->Heap->Prop}(w:Held n X Y h o)(hk:o k=VF)(hr:Rd Y u d)(hN:Rep.n α=m)(hz:(P.info? t).map (·.zero)=VE (VE z))(hzc:z.cells.size=m)(hsz:cW P t=VE m)(hn:m<=1000)(hx : ∀p,asg (us2 p) x=p)(hy : ∀p,asg (us2 p) y=u)(hK : ∀h':Heap,(vw h).le (vw h')->Held n X Y h' (o.upd k (bx t h.size d))->K (ptz h.size) h'):
  @step po P (.alloc t) ty us h λp h2=>@step po2 P (.store t x y) ty2 (us2 p) h2 λ_ h3=>K p h3:=by subst hN;obtain⟨c1,c2,c3⟩:=gh hr;exact fZ (v:=u) hz hzc hsz (by simpa using c2) c3 hx hy λh' hle hs hb=>hK h' hle (w.add hk (iO (d:=d) hb hr hn) hle λb hb=>by simp only[Value.ownBlock,RP]at hb;omega)
theorem Held.cT{P:Program}{ty:TypeId}{us:List (Nat × Value)}{α β:Type}[r:Rep α][Rep β]{e:TypeId}{off:Nat}{g:α->β}{s:α->β->α}(p:Part α β off g s){t:TypeId}{x y:Operand}{B:Nat}{D:α}{u:Value}{d:β}{K:Value->Heap->Prop}(w:Held n X Y h o)(hk:o k=bx e B D)(hsz:cW P t=VE (Rep.n β))(hx:asg us x = VH (VE ⟨B,off,.none⟩))(hy:asg us y=u)(hr:Rd Y u d)(hK : ∀h',Held n X Y h' (o.upd k (bx e B (s D d)))->K undef h'):@step po P (.store t x y) ty us h K:=
 Cg (po:=po) p (v:=VG (VE ⟨B,0,.none⟩) 1 1) (l:=[D]) (i:=0) hsz (by rw[hx];simp[slA,Addr.z]) hy (w.own.get (k:=k) (v:=VG (VE ⟨B,0,.none⟩) 1 1) (l:=[D]) hk) V5 hr λh' hs o2 m=>hK h' (w.gG hk o2 m)
theorem Held.bI{P:Program}{ty:TypeId}{us:List (Nat × Value)}{α:Type}[r:Rep α]{e:TypeId}{v:Value}{l:List α}{t:TypeId}{x y:Operand}{i:Nat}{u:Value}{d:α}{K:Value->Heap->Prop}(w:Held n X Y h o)(hk:o k=it e v l)(hsz:cW P t=VE (Rep.n α))(hx:asg us x = VH (VE ((slA v).add (i*Rep.n α))))(hy:asg us y=u)(hi:i<l.length)(hr:Rd Y u d)(hK : ∀h',Held n X Y h' (o.upd k (it e v (l.set i d)))->K undef h'):@step po P (.store t x y) ty us h K:=
 uP (po:=po) hsz hx hy (w.own.get hk) hi hr λh' o2 m=>hK h' (w.gG hk o2 m)
theorem Held.gu{P:Program}{ty:TypeId}{us:List (Nat × Value)}{α:Type}[r:Rep α]{e:TypeId}{v:Value}{l:List α}{t ty2:TypeId}{bytes:Nat}{z:Value}{x y y2:Operand}{us2:Value->List (Nat × Value)}{u:Value}{d:α}{K:Value->Value->Heap->Prop}(w:Held n X Y h o)(hk:o k=it e v l)(hT:eS P t e (Rep.n α) bytes z)(hx:asg us x=u)(hr:Rd Y u d)(hb:(l.length+1)*bytes<=140737488355328)(hb2:l.length+1<=140737488355328)(hy : ∀u,asg (us2 u) y=v)(hy2 : ∀u,asg (us2 u) y2=u)(hK : ∀u v' h',Held n X Y h' (o.upd k (it e v' (l++[d])))->K u v' h'):
  @step po P (.buildSlice t 1 #[(0,x)]) ty us h λu h2=>@step po2 P (.call ⟨.builtin .append,#[y,y2],#[t,t]⟩) ty2 (us2 u) h2 λv' h3=>K u v' h3:=by refine lT (po:=po) hT hx hr λu h2 hs hle hsz=>?_;have w2:=w.ext' hle;exact Lft.dd hT (hy u) (hy2 u) (w2.own.get hk) hs hb hb2 λv' h' o2 m=>hK u v' h' (w2.gG hk o2 m)
end
theorem om.cf {n:Nat} {h h':Heap} (hs:om n h h'):(vw h).cf.le (vw h'):=λb o hb=>by
 have h1:=View.mS _ _ hb;have h1:h[b]? = VE o:=h1;show h'[b]? = VE o;rw[hs.same b (.inr λe=>?_)]
 ·exact h1
 rw[h1]at e;cases e;unfold View.cf at hb;have e2:(vw h) b=VE (.deferred (VE [])):=h1;rw[e2]at hb;cases hb
theorem Owns.ldB{W:View}{h:Heap}{o:Own}{k:Key}{α:Type}[r:Rep α]{e:TypeId}{B:Nat}{d:α}(w:Owns W h o)(hk:o k=bx e B d)(ha:Rep.agg α=VI){N:Nat}(hn:Rep.n α=N): ∃u,Un.ev (vw h) (.bM N) (ptz B)=VE u/\Rd W u d:=by
 subst hn;obtain⟨cs,h1,h2⟩:=w.atW hk;have hl:=Rep.len h2;refine⟨.agg cs.toArray,?_,?_⟩
 ·have:=gj h1 (Rep.n α) 0 #[] V4;simp only[Un.ev,vP,St];rw[this];simp[<-hl]
 unfold Rd;rw[if_pos ha];exact⟨_,rfl,by simpa using h2⟩
end
structure zC (n:Nat) (x:FitD):Prop where
 code:x.code.length<=2
 args : ∀m∈x.code,m.args.length<=n
 tos:(EndD.to x.fin).length<=n
theorem ti{i:InsD}{op plain:Int}{m:bU}:(jW i op plain m).args=m.args:=by
 unfold jW;repeat' split
 all_goals rfl
theorem G3{f:ak}{i:InsD}{m lo hi sg:Int}{x:FitD}{n:Nat}(h:immS f i m lo hi sg=VE x):zC n x:=by
 unfold immS at h;split at h
 ·cases h;exact⟨by simp,by simp,by simp[cV]⟩
 cases h
variable{temp:Int}
theorem OJ{f:ak}{i:InsD}{op plain sum:Int}{k:Nat}{x:FitD}{n:Nat}(h:memS f i temp op plain sum k=VE x):zC n x:=by
 match k with
 | 0=>simp only[memS]at h;split at h<;>cases h;exact⟨by simp,by simp[ti],by simp[cV]⟩
 | 1=>
  simp only[memS]at h;split at h
  ·split at h<;>cases h;exact⟨by simp,by simp[ti],by simp[cV]⟩
  cases h
 | 2=>simp only[memS]at h;split at h<;>cases h;exact⟨by simp,by simp[ti],by simp[cV]⟩
 | k+3=>simp only[memS]at h;cases h;exact⟨by simp,by simp[ti],by simp[cV]⟩
theorem Rk{f:ak}{i:InsD}{p:Nat}{x:FitD}{n:Nat}(hi:i.args.length<=n)(h:doS f i temp p=VE x):zC n x:=by
 unfold doS at h;by_cases p1:p=1
 ·rw[if_pos p1]at h;split at h
  ·cases h;exact⟨by simp,by simp,by simp[cV]⟩
  cases h
 rw[if_neg p1]at h;by_cases p2:p=2
 ·rw[if_pos p2]at h;cases h;exact⟨by simp,by simp,by simp[cV]⟩
 rw[if_neg p2]at h;by_cases p15:p<=15
 ·rw[if_pos p15]at h;cases h;exact⟨by simp,by simp,by simp[cV]⟩
 rw[if_neg p15]at h;by_cases p16:p=16
 ·rw[if_pos p16]at h;exact G3 h
 rw[if_neg p16]at h;by_cases p17:p=17
 ·rw[if_pos p17]at h;exact G3 h
 rw[if_neg p17]at h;by_cases p18:p=18
 ·rw[if_pos p18]at h;exact G3 h
 rw[if_neg p18]at h;by_cases p21:p<=21
 ·rw[if_pos p21]at h;exact G3 h
 rw[if_neg p21]at h;by_cases p22:p=22
 ·rw[if_pos p22]at h;split at h
  ·cases h;exact⟨by simp,by simp,by simp[cV]⟩
  cases h
 rw[if_neg p22]at h;by_cases p26:p<=26
 ·rw[if_pos p26]at h;exact OJ h
 rw[if_neg p26]at h;by_cases p30:p<=30
 ·rw[if_pos p30]at h;exact OJ h
 rw[if_neg p30]at h;by_cases p31:p=31
 ·rw[if_pos p31]at h;cases h;exact⟨by simp,by simpa using hi,by simp[cV]⟩
 rw[if_neg p31]at h;cases h;exact⟨by simp,by simp,by simp[cV]⟩
theorem QN{f:ak}{t:de}{pat:Int}{x:FitD}{n:Nat}(hi:t.to.length<=n)(h:gI f t pat=VE x):zC n x:=by
 unfold gI at h;repeat' split at h
 all_goals first | (cases h;exact⟨by simp,by simp,by first | exact hi | (simp;done) | simpa using hi⟩) | cases h
theorem Qd{f:ak}{b i:Nat}{pat:Int}{x:FitD}(hsm:SmF f)(hb:b<f.blocks.length)(h:fO f b i pat temp=VE x):zC 10000 x:=by
 unfold fO at h;split at h
 ·rename_i c;simp only[RV]at c;have c:=c.1;simp[dq]at c;have sb:=hsm.blk b hb;unfold tryS eh at h;by_cases e:(i:Int)=(nth f.blocks (b:Int).toNat).ins.length
  ·rw[if_pos e]at h;exact QN sb.to h
  rw[if_neg e]at h;have h:patS f (nth (nth f.blocks b).ins i) temp pat=VE x:=h;have e:(i:Int)≠(nth f.blocks b).ins.length:=e;unfold patS at h;split at h
  ·exact Rk (sb.inn i V4) h
  cases h
 cases h
theorem J3{f:ak}{b i:Nat}{pat:Int}(hsm:SmF f)(hb:b<f.blocks.length):(sS (fO f b i pat temp)).length<=2/\(∀m∈sS (fO f b i pat temp),m.args.length<=10000)/\(EndD.to (AW (fO f b i pat temp))).length<=10000:=by
 cases h:fO f b i pat temp with
 | none=>exact⟨by simp[sS],by simp[sS],by simp[AW,cV]⟩
 | some x=>obtain⟨h1,h2,h3⟩:=Qd hsm hb h;exact⟨h1,h2,h3⟩
theorem Po{A B:View}{u:Value}{l:List InD}(s:SrcT A B u l):SrcT A nothing u l:=by obtain⟨a,c,h1,h2,news,h3,h4,h5⟩:=s;exact⟨a,c,h1,h2,news,h3,h4,λi hi=>h5 i hi⟩
theorem Gx{v:Value}{l:List InD}{h:Heap}(hv:SlRd (vw h) v l)(hb:l.length<=1000000):
  az VK 48 #[v] h (λu h'=>(vw h).le (vw h')/\SlRd (grow nothing h h') u l):=by
 refine aq (args:=[v]) follows Tryz.func48 E.kq Vw λK hK=>?_;dsimp only[L.kq,lkF,lkG];have hv0:=hv;obtain⟨a,cap,rfl,g1,g2,g3⟩:=hv0;refine aa λz hz=>?_;simp;subst hz;refine aa λz hz=>?_;refine aa λy hy=>?_;simp;refine zL U.lC rfl rfl ?_;subst hy;by_cases ha:a=VF
 ·subst ha;have hl:l=[]:=by
   rcases g3 with g3 | ⟨ad,g3,_⟩
   ·first | exact g3 | exact Sj (by simpa using g3)
   cases g3
  subst hl;simp;exact hK _ _ ⟨View.le_refl _,aO⟩
 have hi:a.isNone=false:=by cases a<;>simp at ha ⊢
 simp[hi];subst hz;refine aa λz hz=>?_;simp;refine qL (α:=InD) El.lC λh1 hle1 hs1 own1=>?_;have m1:=Mine.empty (V:=nothing) (W:=nothing) Vy hle1 (λ_ _ e=>nomatch e) (Old.refl _ _) own1;refine dd (α:=InD) (l:=[]) (l2:=l) El.lC rfl rfl m1.own (Po (hv.src hle1)) Vv Vv λv2 h2 own2 mv=>?_;have m2:=m1.gG own2 mv;subst hz;simp;refine hK _ _ ⟨m2.old,?_⟩;have:=m2.result;simpa using this
abbrev BMap:=Int->Option Bool
abbrev mapT (g:BMap):Value->Option Value:=mapE Value.bool g
theorem DE{g:BMap}{j:Int}{v:Bool}:mapT (putM g j v) (VB VC j)=VE (.bool v)/\∀u,u≠VB VC j->mapT (putM g j v) u=mapT g u:=iS
theorem Dt{g:BMap}{j:Int}:(mapT g (VB VC j)).getD (.bool VJ) = .bool ((g j).getD VJ):=by show(((g j).map Value.bool).getD (.bool VJ))=_;cases g j<;>rfl
def zb (g:BMap) (m:Int->Bool):Prop:=∀q,(g q).getD VJ=m q
theorem zb.off{g:BMap}{m:Int->Bool}(i:zb g m){p:Int}:zb (putM g p VJ) λq=>if q=p then VJ else m q:=λq=>by
 show((if q=p then VE VJ else g q)).getD VJ=if q=p then VJ else m q;split
 ·rfl
 exact i q
def natV (i:Nat):List Value:=[VB VC i]
def yD (inner:Int->Bool) (n:Nat):List Nat:=(List.range (n+1)).filter λi=>!inner (i:Int)
theorem Ef{V:View}{p1 p2:Nat}{ri:Nat}{x:BlkD}{g:BMap}{m:Int->Bool}(hp1:At V ⟨p1,0,VF⟩ x)(hp2:ao V ⟨p2,0,VF⟩=VE (.map (VE ri)))(hm:MV (.int .i64) V ri (mapT g))(hi:zb g m)(hl:x.ins.length<=140737488355328):Iter VK 99 [ptz p1,ptz p2] V ((yD m x.ins.length).map natV):=by
 intro l J W h hM hV hVl h0 hround;have hW:=(hM VI 0).le h0;refine aq (args:=[.func (.yield l) #[] #[],ptz p1,ptz p2]) follows Tryz.func99 E.bG Vw λK hK=>?_;dsimp only[L.bG,lkF,lkG];obtain⟨vin,cin,sin⟩:=(hp1.part BlkD.jS).list;simp at cin;have cin1:=ae (Vz hV hW) cin;have ew:IntKind.i64.wrap ((x.ins.length:Int)+1)=((x.ins.length+1:Nat):Int):=by rw[aZ V4 V4];omega
 simp[cin1,sin.len,ew];have hall : ∀{k:Nat},k<x.ins.length+1->m k=VJ->((yD m x.ins.length).map natV)[((List.range k).filter λi:Nat=>!m (i:Int)).length]? = VE [VB VC k]:=fun{k} hk he=>by rw[TB];unfold yD;rw[AB (p:=λi:Nat=>!m (i:Int)) hk (by simp[he])];rfl
 refine aG [0,2,8,9] (fun(_:Unit) k=>[.func (.yield l) #[] #[],ptz p2,VB VC (x.ins.length+1:Nat),VB VC k]) (λ_ k h2=>J VI ((List.range k).filter λi:Nat=>!m (i:Int)).length W h2) (x.ins.length+1) ()
  rfl V4 rfl h0 (λ_ _=>rfl) (λv k h1 hk m=>by simp) ?_ ?_
 ·intro _ k h2 hlt hJ2 K2 hK2;have hW2:=(hM _ _).le hJ2;refine dB ?_;refine aa λy hy=>?_;simp;subst hy;refine aa λy hy=>?_;simp[ae (Vz hV hW2) hp2];refine xe (f:=mapT g) (z:=.bool VJ) (k:=T.int) (e:=T.bool) (d:=.int .i64) (r:=ri) (u:=VB VC k) V0 V0 V0 rfl rfl cQ (hm.is (Vz hV hW2)) ?_;rw[Dt,hi k];have hfl:=F7 (p:=λi:Nat=>!m (i:Int)) (i:=k);cases hmk:m (k:Int)with
  | true=>simp[hmk]at hfl;simp;subst hy;simp;exact hK2 () _ _ rfl rfl (by rw[hfl];exact hJ2)
  | false=>
   simp[hmk]at hfl;simp;refine DF (ops:=[.tmp 18]) rfl (by simpa using hround _ _ W h2 (λ_ _=>rfl) (hall hlt hmk) hJ2) ?_;rintro b h4 ⟨W4,e1,e2,hJ4⟩;cases b with
   | true=>obtain rfl:=e2 rfl;simp;subst hy;simp;exact hK2 () _ _ rfl rfl (by rw[hfl];exact hJ4)
   | false=>simp;subst hy;simp;exact hK _ _ ⟨VJ,_,W4,λi hi hne=>by rw[e1 i hne],hJ4,λh=>by cases h⟩
 intro _ h2 hJ2;simp;refine hK _ _ ⟨VI,_,W,λi hi _=>rfl,hJ2,λ_=>?_⟩;rw[TF];rfl
theorem Md{W:View}{h h':Heap}{o:Own}{r:Nat}{x x':Obj}(w:Owns W h o)(hr:W r=VE x)(hx : ∀c T fz,x≠.cells c T fz)(hr':h'[r]? = VE x')(hs:h'.size=h.size)(ho : ∀k,k≠r->h'[k]? = h[k]?): ∃W',Owns W' h' o/\Tn [r] W W'/\W' r=VE x':=by refine⟨_,w.turn hr hx hr' hs ho,λb hb y hy=>?_,by unfold View.set;rw[if_pos rfl]⟩;unfold View.set;rw[if_neg (by simpa using hb)];exact hy
theorem Ny{h:Heap}{b r:Nat}{p:Value × Value}{left:List (Value × Value)}(m:ItE h b r p left): ∃a c d e,h[r]? = VE (.mapIter a c d e):=by obtain⟨es,s,q,e,a1,a2,a3,a4⟩:=m.ex;exact⟨_,_,_,_,a3⟩
theorem Lb{h:Heap}{b r:Nat}{left:List (Value × Value)}(m:It h b r left): ∃a c d e,h[r]? = VE (.mapIter a c d e):=by obtain⟨es,s,q,e,a1,a2,a3,a4⟩:=m.ex;exact⟨_,_,_,_,a3⟩
structure Rs (B W:View) (h:Heap) (o:Own) (C rm rc rb ri p2:Nat) (f:ak) (b:Nat) (l:List aF) (s:CB) (g:BMap) (rs:List Nat):Prop where
 cw:Cw B W h o C rm rc rb f b l (mkU f b) s rs
 mi:MV (.int .i64) W ri (mapT g)
 c2:ao B ⟨p2,0,VF⟩=VE (.map (VE ri))
 nc:ri≠rm/\ri≠rc/\ri≠rb
 iin:ri∈rs
section
variable {B W W':View} {h h':Heap} {o:Own} {C rm rc rb ri p2 r:Nat} {f:ak} {b:Nat} {l:List aF} {s:CB} {g:BMap} {rs:List Nat}
theorem Rs.ext (c:Rs B W h o C rm rc rb ri p2 f b l s g rs) (hle:(vw h).le (vw h')):Rs (grow B h h') (grow W h h') h' o C rm rc rb ri p2 f b l s g rs:=
 ⟨c.cw.ext hle,c.mi.mono c.cw.z.upW,ae c.cw.z.up c.c2,c.nc,c.iin⟩
theorem Rs.put{g':BMap}(c:Rs B W h o C rm rc rb ri p2 f b l s g rs)(w:Owns W' h' o)(m:MV (.int .i64) W' ri (mapT g'))(t:Tn [ri] W W')(hs:h'.size=h.size):Rs B W' h' o C rm rc rb ri p2 f b l s g' rs:=
 ⟨⟨c.cw.z.turn c.iin w t hs,c.cw.ch,c.cw.mm.tn t (by simp;exact λe=>c.nc.1 e.symm),c.cw.mc.tn t (by simp;exact λe=>c.nc.2.1 e.symm),c.cw.mb.tn t (by simp;exact λe=>c.nc.2.2 e.symm),c.cw.ne,c.cw.cin,c.cw.bin⟩,m,c.c2,c.nc,c.iin⟩
theorem Rs.beside(c:Rs B W h o C rm rc rb ri p2 f b l s g rs)(hr:r∈rs)(n:r≠ri/\r≠rm/\r≠rc/\r≠rb)(w:Owns W' h' o)(t:Tn [r] W W')(hs:h'.size=h.size):Rs B W' h' o C rm rc rb ri p2 f b l s g rs:=
 ⟨⟨c.cw.z.turn hr w t hs,c.cw.ch,c.cw.mm.tn t (by simp;exact λe=>n.2.1 e.symm),c.cw.mc.tn t (by simp;exact λe=>n.2.2.1 e.symm),c.cw.mb.tn t (by simp;exact λe=>n.2.2.2 e.symm),c.cw.ne,c.cw.cin,c.cw.bin⟩,c.mi.tn t (by simp;exact λe=>n.1 e.symm),c.c2,c.nc,c.iin⟩
end
set_option maxHeartbeats 2000000 in
theorem EW{B W:View}{h:Heap}{o:Own}{C rm rc rb:Nat}{f:ak}{b:Nat}{l:List aF}{s:CB}{rs:List Nat}(c:Cw B W h o C rm rc rb f b l (mkU f b) s rs)(hbest : ∀p t,s.best p=VE t->0<=t/\t<l.length)(hpat : ∀t∈l,I64 t.pat):
  az VK 53 #[ptz C] h (λu h'=>∃p1 p2 B' W',u = .func (.func 99) #[] #[ptz p1,ptz p2]/\B.le B'/\W.le W'/\Cw B' W' h' o C rm rc rb f b l (mkU f b) s rs/\
   Iter VK 99 [ptz p1,ptz p2] W' ((yD (offs f b l s.best 0 ((nth f.blocks b).ins.length+1) (fh f b)) (nth f.blocks b).ins.length).map natV)):=by
 refine aq (args:=[ptz C]) follows Tryz.func53 E.aK Vw λK hK=>?_;dsimp only[L.aK,lkF,lkG];have hbl:=c.ch.hb;have hsm:=c.ch.sm;have hlen:=hsm.len;have hil:(nth f.blocks b).ins.length<=10000:=(hsm.blk b hbl).ins;obtain⟨-,vb,cb,sb⟩:=fw c.ch.at_;have qb:=sb.idxn (k:=.i64) (N:=6) rfl (i:=(b:Int)) V4 V4;have n6:Rep.n BlkD=6:=rfl;obtain⟨ux,hux,rux⟩:=(sb.at hbl).ldN rfl (N:=6) rfl;have hux:=hux _ Vy;simp[n6]at qb hux;have bk:=c.ch.bk;refine aa λz hz=>?_;simp;subst hz;refine aa λz hz=>?_;refine aQ B c.z.wle ?_;simp[cb,bk,qb,hux];have c0:=Cx.start (h:=h) c.z.wle;refine c0.Cs (α:=BlkD) Vy rux (n:=6) (z:=zz3) V0 rfl rfl V0 (λ_=>by rfl) (λ_=>by rfl) λB5 h1 W1 hW1 c1 at5 hle1=>?_;have at5:=at5.mono (c1.old.le c1.wle);have cw1:=c.ext hle1;have lB1:=c.z.up (h':=h1);have lW1:=c.z.upW (h':=h1);clear cb sb qb hux rux bk c1 hW1 c0;generalize grow B h h1=B1 at *;generalize grow W h h1=W1' at *;obtain⟨vin,cin,sin⟩:=(at5.part BlkD.jS).list;simp at cin;rw[<-ay hbl]at sin at5;subst hz;refine aa λz hz=>?_;simp;refine cw1.z.own.nL (d:=.int .i64) λh2 W2 hW2 hle2 w2 hn2 m2=>?_;obtain⟨ri,hri⟩ : ∃ri,ri=h1.size:=⟨_,rfl⟩;rw[<-hri]at hn2 m2 ⊢;have hBn:B1 ri=none:=by
  cases hq:B1 ri with
  | none=>rfl
  | some x=>have:=cw1.z.le ri x hq;rw[hn2]at this;cases this
 have hne : ∀{q:Nat} {g:Value->Option Value},MV (.int .i64) W1' q g->ri≠q:=λm e=>by obtain⟨es,cl,h1⟩:=m.OI;rw[<-e,hn2]at h1;cases h1
 have n1:=hne cw1.mm;have n2:=hne cw1.mc;have n3:=hne cw1.mb;have cw2:Cw B1 W2 h2 o C rm rc rb f b l (mkU f b) s (ri::rs):=⟨(⟨w2,Vz cw1.z.le hW2,cw1.z.no,λr hr=>SY (cw1.z.lt r hr) (bO hle2)⟩:Mz B1 W2 h2 o rs).more hBn (m2.is w2.wle).lt,cw1.ch,cw1.mm.mono hW2,cw1.mc.mono hW2,cw1.mb.mono hW2,cw1.ne,RU _ cw1.cin,RU _ cw1.bin⟩;have lW2:=Vz lW1 hW2;refine cZ (α:=Raw) (d:=⟨.map (VE ri)⟩) (X:=B1) (z:=.map VF) V0 rfl V0 (iZ.2 ⟨rfl,rfl⟩) V8 V8 λh3 hle3 _ at3=>?_;have at3:=(at3 (grow B1 h2 h3) cw2.z.up (b8 (RQ _))).raw;have cw3:=cw2.ext hle3;have lB3:=Vz lB1 (cw2.z.up (h':=h3));have m3:=m2.mono (cw2.z.upW (h':=h3));have at5:=at5.mono (cw2.z.up (h':=h3));have cin:=ae (cw2.z.up (h':=h3)) cin;have sin:=sin.mono (cw2.z.up (h':=h3));have lW3:=Vz lW2 (cw2.z.upW (h':=h3));generalize h2.size=p2 at *;have e0:mapT (λ_=>VF)=λ_=>none:=nH;rw[<-e0]at m3;have R3:Rs (grow B1 h2 h3) (grow W2 h2 h3) h3 o C rm rc rb ri p2 f b l s (λ_=>VF) (ri::rs):=⟨cw3,m3,at3,⟨n1,n2,n3⟩,R1⟩;have nri : ∀x,W ri=VE x->False:=λx hx=>by have:=lW1 ri x hx;rw[hn2]at this;cases this
 clear cw3 m3 at3 cw2 w2 m2 hle3 cw1 lW2 hW2 n1 n2 n3 hne hBn hle2;generalize grow B1 h2 h3=B3 at *;generalize grow W2 h2 h3=W3 at *;subst hz;refine aa λz hz=>?_;refine aa λy hy=>?_;simp[R3.cw.at_.x4];refine ya (f:=mapI (mkU f b)) (d:=.int .i64) (k:=T.int) (e:=T.int) V0 rfl R3.cw.m1 λh4 left hle4 hs4 it4 nd4 key4 mem4=>?_;obtain⟨r,hr0⟩ : ∃r,r=h3.size:=⟨_,rfl⟩;rw[<-hr0]at it4 ⊢;have hr3:W3 r=none:=View.cg R3.cw.z.own.wle V4;have hr3B:B3 r=none:=View.cg R3.cw.z.wle V4;have ngr:r≠ri/\r≠rm/\r≠rc/\r≠rb:=by
  have q : ∀{q:Nat} {g:Value->Option Value},MV (.int .i64) W3 q g->r≠q:=λm e=>by obtain⟨es,cl,h1⟩:=m.OI;rw[<-e,hr3]at h1;cases h1
  exact⟨q R3.mi,q R3.cw.mm,q R3.cw.mc,q R3.cw.mb⟩
 have lW34:W3.le (grow W3 h3 h4):=R3.cw.z.upW;have R4:Rs B3 (grow W3 h3 h4) h4 o C rm rc rb ri p2 f b l s (λ_=>VF) (r::ri::rs):=by have cw:=R3.cw;refine⟨⟨Mz.more ⟨cw.z.own.ext hle4,Vz cw.z.le lW34,cw.z.no,λq hq=>SY (cw.z.lt q hq) (bO hle4)⟩ hr3B V4,cw.ch,cw.mm.mono lW34,cw.mc.mono lW34,cw.mb.mono lW34,cw.ne,RU _ cw.cin,RU _ cw.bin⟩,R3.mi.mono lW34,R3.c2,R3.nc,RU _ R3.iin⟩
 have hWr : ∃x,grow W3 h3 h4 r=VE x:=by obtain⟨a1,a2,a3,a4,e⟩:=Lb it4;exact⟨_,by rw[b8 V4];exact e⟩
 have lW4:=Vz lW3 lW34;have nrr : ∀x,W r=VE x->False:=λx hx=>by have:=lW3 r x hx;rw[hr3]at this;cases this
 have hall : ∀u v,(u,v)∈left->∃q:Int,v = VB VC q/\fh f b q=true:=λu v hu=>by have:=(mem4 u v (key4 u v hu)).1 hu;have hk:=key4 u v hu;cases u<;>simp[MapKept.IsKey]at hk;rename_i kd j;subst hk;rw[Dy,RY]at this;obtain⟨q,e1,rfl⟩:=this;obtain⟨k,k1,rfl,k3,k4⟩:=(kH hbl).1 e1;exact⟨k,rfl,by unfold fh;simp[k3];omega⟩
 have hrest : ∀q:Int,fh f b q=VI->∃u,(u,VB VC q)∈left:=λq hq=>by unfold fh at hq;simp only[RV,decide_eq_true_eq]at hq;obtain⟨⟨q1,q2⟩,q3⟩:=hq;obtain⟨k,rfl⟩:=S2 q1;refine⟨VB VC (nth (nth f.blocks b).ins k).dst,(mem4 _ _ cQ).2 ?_⟩;rw[Dy,(kH hbl).2 ⟨k,by omega,rfl,by simpa using q3,rfl⟩];rfl
 clear R3 hr3 hr3B nd4 key4 mem4 lW34 hs4;generalize grow W3 h3 h4=W4 at *;subst hy;simp only[aW];refine jv [0,3,4,28] (λmm ρ hx=>∃(left:List (Value × Value)) (Wx:View) (g:BMap),mm=left.length/\ρ=[(0,ptz C),(3,ptz B5),(4,ptz p2),(28,ptz r)]/\W.le Wx/\Rs B3 Wx hx o C rm rc rb ri p2 f b l s g (r::ri::rs)/\(∃x,Wx r=VE x)/\It hx rm r left/\
   (∀u v,(u,v)∈left->∃q:Int,v = VB VC q/\fh f b q=VI)/\(∀q:Int,fh f b q=VI->(∃u,(u,VB VC q)∈left)\/g q=VE VI)/\∀q v,g q=VE v->v=VI/\fh f b q=VI) left.length
   ⟨left,W4,λ_=>VF,rfl,by simp[bh,af,ag],lW4,R4,hWr,it4,hall,λq hq=>.inl (hrest q hq),λ_ _ e=>nomatch e⟩ ?_;clear hall hrest it4 R4 hWr lW4;rintro mm ρ hx ⟨left,Wx,g,rfl,rfl,lx,Rx,⟨ox,hox⟩,itx,hall,hrest,hg⟩ K2 hK2;have hnc : ∀c T fz,ox≠.cells c T fz:=by obtain⟨a1,a2,a3,a4,e⟩:=Lb itx;have:=Rx.cw.z.own.wle r ox hox;have this:hx[r]? = VE ox:=this;rw[e]at this;cases this;intro c T fz e;cases e
 refine aa λy hy=>?_;simp;refine yJ rfl itx ?_ ?_
 ·rintro rfl;simp;subst hy;simp;subst hz;have hI:zb g (fh f b):=λq=>by
   cases hq:fh f b q with
   | true=>
    rcases hrest q hq with⟨u,hu⟩ | e
    ·cases hu
    rw[e];rfl
   | false=>
    cases e:g q with
    | none=>rfl
    | some v=>have:=(hg q v e).2;rw[hq]at this;cases this
  clear hrest hall itx hg;refine aa λz hz=>?_;have cin5:=ae Rx.cw.z.wle cin;have sn : ∀{K:View},Un.ev K .len vin=VE (VB VC (nth f.blocks b).ins.length):=sin.len;simp[cin5,sn];refine jv [0,3,4,7] (λmm ρ hx=>∃(Bx Wx:View) (g:BMap) (m:Int->Bool),ρ=[(0,ptz C),(3,ptz B5),(4,ptz p2),(7,VB VC ((mm:Int)-1))]/\mm<=(nth f.blocks b).ins.length+1/\B3.le Bx/\W.le Wx/\Rs Bx Wx hx o C rm rc rb ri p2 f b l s g (r::ri::rs)/\zb g m/\
   offs f b l s.best 0 mm m=offs f b l s.best 0 ((nth f.blocks b).ins.length+1) (fh f b)) ((nth f.blocks b).ins.length+1)
   ⟨B3,Wx,g,fh f b,by simp[bh,af,ag],RQ _,View.le_refl _,lx,Rx,hI,rfl⟩ ?_;clear Rx hI lx cin5;rintro mm ρ h7 ⟨Bx,Wx,g,m,rfl,hmm,lB,lW,R7,hI,ho⟩ K3 hK3
  obtain rfl | ⟨k,rfl⟩:mm=0\/∃k,mm=k+1:=by
   cases mm with
   | zero=>exact .inl rfl
   | succ k=>exact .inr ⟨k,rfl⟩
  ·refine aa λy hy=>?_;simp;subst hz;simp;have ho:m=offs f b l s.best 0 ((nth f.blocks b).ins.length+1) (fh f b):=ho;refine hK _ _ ⟨B5,p2,Bx,Wx,rfl,Vz lB3 lB,lW,(R7.cw.less (RU _ c.cin) (RU _ c.bin)).less c.cin c.bin,?_⟩;rw[<-ho];exact Ef ((at5.mono lB).mono R7.cw.z.le) (ae R7.cw.z.le R7.c2) R7.mi hI V4
  have e7:(((k+1:Nat):Int)-1)=(k:Int):=by omega
  rw[e7];have hof:offs f b l s.best 0 (k+1) m=offs f b l s.best 0 k (iM f b l s.best k m):=rfl;have ewk:IntKind.i64.wrap ((k:Int)-1)=(k:Int)-1:=aZ V4 V4;refine aa λy hy=>?_;simp;subst hy;refine aa λy hy=>?_;refine dB ?_;refine aa λx hx=>?_;simp[ae R7.cw.z.wle R7.c2];refine xe (f:=mapT g) (z:=.bool VJ) (k:=T.int) (e:=T.bool) (d:=.int .i64) (r:=ri) (u:=VB VC k) V0 V0 V0 rfl rfl cQ (R7.mi.is R7.cw.z.own.wle) ?_;rw[Dt,hI k];cases hmk:m (k:Int)with
  | true=>
   have ep:iM f b l s.best k m=m:=by unfold iM;rw[if_pos hmk]
   simp;subst hy;simp[ewk];exact hK3 k _ _ V4 ⟨Bx,Wx,g,m,by simp[bh,af,ag],by omega,lB,lW,R7,hI,by rw[<-ho,hof,ep]⟩
  | false=>
   have ep:iM f b l s.best k m=(jy f b l s.best k).foldl (km (mkU f b)) m:=by unfold iM;rw[if_neg (by rw[hmk];simp)]
   simp;subst hx;refine aa λx hx=>?_;simp;refine ah V0 (Lc (i:=k) R7.cw.at_ R7.cw.m3 hbest V4 hpat) ?_;rintro vt h8 ⟨hle8,st⟩;have R8:=R7.ext hle8;have lB8:=Vz lB (R7.cw.z.up (h':=h8));have lW8:=Vz lW (R7.cw.z.upW (h':=h8));have hS8:(vw h8).cf.le (vw h8):=View.mS;have st:=dx.1 (dx.2 st).cf;have hSr:(vw h8).cf ri=none:=by obtain⟨es,cl,q⟩:=R8.mi.OI;have:=R8.cw.z.own.wle ri _ q;unfold View.cf;rw[this]
   generalize (vw h8).cf=S at st hS8 hSr;generalize grow Bx h7 h8=B8 at *;generalize grow Wx h7 h8=W8 at *;generalize jy f b l s.best k=tk at *;have btk:=st.bound;have stl : ∀{K:View},Un.ev K .len vt=VE (VB VC tk.length):=st.len;simp[stl];subst hx;refine aG [0,3,4,7,47,48,49] (fun(_:Unit) j=>[ptz C,ptz B5,ptz p2,VB VC k,vt,VB VC tk.length,VB VC j])
    (λ_ j hx=>∃(Wx:View) (g:BMap),W.le Wx/\Rs B8 Wx hx o C rm rc rb ri p2 f b l s g (r::ri::rs)/\zb g ((tk.take j).foldl (km (mkU f b)) m)/\S.le (vw hx)) tk.length ()
    V0 V4 (by simp[bh,af,ag]) ⟨W8,g,lW8,R8,hI,hS8⟩ (λ_ _=>rfl) (λv i h1 hk m=>by simp) ?_ ?_
   ·rintro _ j h9 hj ⟨W9,g9,lW9,R9,hI9,hS9⟩ K4 hK4;have hj:j<tk.length:=hj;have q:=(st.mono hS9).idx1 (k:=.i64) (i:=(j:Int)) rfl V4 V4;have p:=(st.mono hS9).int Vy (i:=j) hj;simp at q p;have hft:=uM (f:=km (mkU f b)) (b:=m) (l:=tk) (k:=j) (x:=tk[j]) (SB hj);rw[<-ay hj]at hft;generalize nth tk j=v at *;refine dB ?_;refine aa λx hx=>?_;simp[q,p];subst hx;refine aa λx hx=>?_;simp[R9.cw.at_.x4];refine eO (f:=mapI (mkU f b)) (z:=VB VC 0) (k:=T.int) (e:=T.int) (d:=.int .i64) (r:=rm) (u:=VB VC v) V0 V0 V0 rfl rfl cQ R9.cw.m1 ?_;cases hm:mkU f b v with
    | none=>
     have es:(tk.take (j+1)).foldl (km (mkU f b)) m=(tk.take j).foldl (km (mkU f b)) m:=by rw[hft];unfold km;rw[hm]
     simp[hm];subst hx;simp;exact hK4 () _ _ (by simp[af,ag]) (by simp[bh,af,ag]) ⟨W9,g9,lW9,R9,by rw[es];exact hI9,hS9⟩
    | some pq=>
     have es:(tk.take (j+1)).foldl (km (mkU f b)) m=λq=>if q=pq then VJ else(tk.take j).foldl (km (mkU f b)) m q:=by rw[hft];unfold km;rw[hm]
     simp[hm];subst hx;simp[ae R9.cw.z.wle R9.c2];obtain⟨g1,g2⟩:=DE (g:=g9) (j:=pq) (v:=false);refine R9.cw.z.own.pV R9.mi (.inl rfl) (t:=T.iD) (k:=T.int) (e:=T.bool) (u:=VB VC pq) (v:=.bool VJ) V0 V0 rfl rfl rfl cQ g1 g2 λh10 W10 w10 m10 t10 hs10 ho10=>?_;exact hK4 () _ _ (by simp[af,ag]) (by simp[bh,af,ag]) ⟨W10,_,t10.le lW9 (λb hb=>by
      rw[RR.1 hb];cases e:W ri with
      | none=>rfl
      | some x=>exact(nri x e).elim),R9.put w10 m10 t10 hs10,by rw[es];exact hI9.off,λb x hb=>by
      show h10[b]? = VE x;rw[ho10 b (by rintro rfl;rw[hSr]at hb;cases hb)];exact hS9 b x hb⟩
   rintro _ h9 ⟨W9,g9,lW9,R9,hI9,hS9⟩;rw[SD]at hI9;simp;subst hy;simp[ewk];exact hK3 k _ _ V4 ⟨B8,W9,g9,_,by simp[bh,af,ag],by omega,lB8,lW9,R9,hI9,by rw[<-ho,hof,ep]⟩
 intro a p q h5 el hs5 ho5 it5;obtain⟨qi,e1,e2⟩:=hall p.1 p.2 (by rw[el];simp);have hlen5:(a++q).length<left.length:=by rw[el];simp
 obtain⟨a1,a2,a3,a4,er⟩:=Ny it5;obtain⟨W5,w5,t5,hW5⟩:=Md Rx.cw.z.own hox hnc er hs5 ho5;have R5:=Rx.beside R1 ngr w5 t5 hs5;have lW5:W.le W5:=t5.le lx λb hb=>by
  rw[RR.1 hb];cases e:W r with
  | none=>rfl
  | some x=>exact(nrr x e).elim
 simp;subst hy;refine aa λy hy=>?_;refine aT V5 ?_;simp;subst hy;refine dB ?_;refine aa λy hy=>?_;simp;refine DW rfl it5 ?_;simp[e1];subst hy;simp[ae R5.cw.z.wle R5.c2];obtain⟨g1,g2⟩:=DE (g:=g) (j:=qi) (v:=true);refine R5.cw.z.own.pV R5.mi (.inl rfl) (t:=T.iD) (k:=T.int) (e:=T.bool) (u:=VB VC qi) (v:=.bool VI) V0 V0 rfl rfl rfl cQ g1 g2 λh6 W6 w6 m6 t6 hs6 ho6=>?_;have R6:=R5.put w6 m6 t6 hs6;refine hK2 (a++q).length _ _ hlen5 ⟨a++q,W6,putM g qi VI,rfl,by simp[bh,af,ag],t6.le lW5 (λb hb=>?_),R6,⟨_,t6 r (by simp;exact ngr.1) _ hW5⟩,(it5.it).same (ho6 _ ?_) (ho6 _ ngr.1),λu v hu=>hall u v (by rw[el,RW,Sb];rcases RW.1 hu with hu | hu<;>simp[hu]),λj hj=>?_,λj v hj=>?_⟩
 ·rw[RR.1 hb];cases e:W ri with
  | none=>rfl
  | some x=>exact(nri x e).elim
 ·exact λe=>R5.nc.1 e.symm
 ·by_cases hji:j=qi
  ·subst hji;right;simp[putM]
  rcases hrest j hj with⟨u,hu⟩ | hu
  ·rw[el,RW,Sb]at hu;rcases hu with hu | hu | hu
   ·exact .inl ⟨u,RW.2 (.inl hu)⟩
   ·have:p.2=VB VC j:=by rw[<-hu]
    rw[e1]at this;simp at this;exact absurd this.symm hji
   exact .inl ⟨u,RW.2 (.inr hu)⟩
  right;simp[putM,hji,hu]
 unfold putM at hj;split at hj
 ·rename_i e;cases hj;exact⟨rfl,by rw[e];exact e2⟩
 exact hg j v hj
end Go.Lft
