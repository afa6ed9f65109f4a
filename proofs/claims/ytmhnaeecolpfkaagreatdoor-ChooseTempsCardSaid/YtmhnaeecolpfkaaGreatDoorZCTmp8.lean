/- A part of the proof: Qs, Qt, Ri, Ql, Qm, Ia, Qx, Qy, Qz, Tl, Aa, Ab, Ba, Ad, Ae, An, Kb, LftMv, Ai, Ak, Al, Aj, Am, LftHd, Ao, Ap, Aq, Ar. -/
import Derived.Test.YtmhnaeecolpfkaaGreatDoorZCTmp7
import Derived.ChangeKeysEq
set_option linter.unusedSimpArgs false
set_option linter.unusedVariables false
open Go.Value renaming int->Vz,slice->VE,pointer->VF
open Go.IntKind renaming i64->VA
open Option renaming some->VC,none->VD
open Bool renaming true->VG,false->VH
open Go.Proofs.Tryz renaming prog->VI
open Go.Proofs
namespace Go.Lft
def oneO{α:Type}[Rep α](k:Key)(e:TypeId)(v:Value)(l:List α):Own:=λq=>if q=k then it e v l else VD
section
variable{po po2:OP}{α:Type}[Rep α]{W:View}{h:Heap}{k:Key}{e:TypeId}{v:Value}{l:List α}{P:Program}{ty:TypeId}{us:List (Nat × Value)}
theorem pV:oneO k e v l k=it e v l:=by unfold oneO;rw[if_pos rfl]
theorem E2{v':Value}{l':List α}:(oneO k e v l).upd k (it e v' l')=oneO k e v' l':=by
 funext q;show(if q=k then it e v' l' else(if q=k then it e v l else VD))=if q=k then it e v' l' else VD;by_cases c:q=k
 ·rw[if_pos c,if_pos c]
 rw[if_neg c,if_neg c,if_neg c]
theorem OwnT.src(o:OwnT W h e v l):SrcT (vw h) W v l:=by
 obtain⟨hbd,xs,⟨hx,hown⟩,hel⟩:=o;rcases hown with⟨rfl,hn⟩ | ⟨g,cap,cur,rfl,hg,h1,h2,h3,h4⟩
 ·have:l=[]:=Ss hn;subst this;exact⟨VD,0,rfl,λ_=>rfl,[],V5,(λ_ e=>nomatch e),λi hi=>absurd hi (Tx _)⟩
 refine⟨VC ⟨g,0,VD⟩,cap,rfl,λe=>(by cases e),xs,hx,λad ea j x hj=>?_,hel⟩;cases ea;rw[bF rfl];rw[<-h4,Tu]at hj;split at hj
 ·have:=df (H:=vw h) (c:=cur) (o:=j) (v:=x) hg (by simpa using hj);simpa using this
 cases hj
theorem Owns.J6{t ty2:TypeId}{bytes:Nat}{z u:Value}{x y y2:Operand}{d:α}{us2:Value->List (Nat × Value)}{K:Value->Value->Heap->Prop}(w:Owns W h (oneO k e v l))(hT:eU P t e (Rep.n α) bytes z)(hn:Rep.n α<=1000)(hx:asg us x=u)(hr:Rd W u d)(hb:(1+l.length)*bytes<=140737488355328)(hb2:1+l.length<=140737488355328)(hy : ∀u,asg (us2 u) y=u)(hy2 : ∀u,asg (us2 u) y2=v)
  (hK : ∀u v' h' k',Owns W h' (oneO k' e v' (d::l))->(vw h).le (vw h')->K u v' h') :
  @step po P (.buildSlice t 1 #[(0,x)]) ty us h λu h2=>@step po2 P (.call ⟨.builtin .append,#[y,y2],#[t,t]⟩) ty2 (us2 u) h2 λv' h3=>K u v' h3:=by
 obtain⟨k2,hk2⟩ : ∃k2:Key,k2≠k:=⟨(k.1+1,0),by rintro e;have:=congrArg Prod.fst e;simp at this⟩;have hk0:oneO k e v l k2=none:=by unfold oneO;rw[if_neg hk2]
 refine Hv hT hx hr hn λh1 hle1 own1=>?_;have w1:=w.add (k:=k2) hk0 own1 hle1 (λb hb=>by simp only[Value.ownBlock,RW]at hb;omega);have hkk:((oneO k e v l).upd k2 (it e (VE (VC ⟨h.size,0,VD⟩) 1 1) [d])) k=it e v l:=by rw[Own.aB hk2.symm,pV]
 refine w1.dA (k:=k2) (v:=VE (VC ⟨h.size,0,VD⟩) 1 1) (l:=[d]) (l2:=l) Own.an hT (hy _) (hy2 _) (w1.get hkk).src (by simpa using hb) (by simpa using hb2) λv' h2 w2 m2=>?_;refine hK _ v' h2 k2 (w2.sub λj i hj=>?_) λb o hb=>?_
 ·unfold oneO at hj;split at hj
  ·rename_i e;subst e;rw[Own.an];exact hj
  cases hj
 have hlt:=View.lt (View.le_refl (vw h)) hb;have h1b:=hle1 b o hb;have hlt1:=View.lt (View.le_refl (vw h1)) h1b;have:=m2.kept.block b hlt1 (by simp[Value.ownBlock];omega);show h2[b]? = VC o;rw[this];exact h1b
end
def x16(x:Int):Nat:=(BitVec.ofInt 64 x&&& BitVec.ofInt 64 65535).toNat
theorem LM{x:Int}:Bn.ev (.bits .and) (Vz VA x) (Vz VA 65535)=VC (Vz VA (x16 x))/\x16 x<65536:=by
 have hlt:x16 x<=65535:=by unfold x16;rw[BitVec.toNat_and];exact St Nat.and_le_right V6
 refine⟨?_,by omega⟩;have e:Bn.ev (.bits .and) (Vz VA x) (Vz VA 65535)=VC (Vz VA (IntKind.i64.wrap (x16 x))):=rfl;rw[e,bj V4 V4]
def tX(s:List Int)(i:Nat):Nat:=if i+1<s.length then x16 (nth s (i+1)) else 0
theorem QI{s:List Int}{i:Nat}:tX s i<65536:=by
 unfold tX;split
 ·exact LM.2
 omega
def sT(s:List Int):Bool:=decide (0<s.length)&&decide ((nth s 0).tmod 4=1)
def tabT(s:List Int)(i:Nat):aS:=⟨(i:Int)+1,if tX s i % 3=1 then((tX s i / 3 % 12:Nat):Int) else nth dU i⟩
def iA(s:List Int)(i:Nat)(l:List aS):List aS:=
 if sT s&&decide (tX s i % 9=3) then l
 else if tX s i % 5=2 then(if tX s i % 2=1 then tabT s i::l else l++[tabT s i])++[⟨(i:Int)+1,((tX s i % 7:Nat):Int)⟩]
 else if tX s i % 2=1 then tabT s i::l else l++[tabT s i]
def tabS(s:List Int):List aS:=Lft.up (iA s) 37 []
theorem Dl{s:List Int}{i:Nat}{l:List aS}:(iA s i l).length<=l.length+2:=by
 unfold iA;split
 ·omega
 split
 ·split<;>simp
 split<;>simp
theorem Hn{s:List Int} : ∀{n:Nat},(Lft.up (iA s) n []).length<=2*n
 | 0=>RX _
 | n+1=>by have:=Hn (s:=s) (n:=n);have:=Dl (s:=s) (i:=n) (l:=Lft.up (iA s) n []);simp only[Lft.up];omega
theorem Jw{H:View}:Rd H (.agg (dU.map λc=>Vz VA c).toArray) (RawN.mk (n:=36) (dU.map λc=>Vz VA c)):=
 j9 (by simp;rfl) (λc hc=>by obtain⟨x,_,rfl⟩:=SZ.1 hc;rfl)
theorem FI{H:View}{C k:Nat}(a:At H ⟨C,0,VD⟩ (RawN.mk (n:=36) (dU.map λc=>Vz VA c)))(hk:k<37):aq H ⟨C,k,VD⟩=VC (Vz VA (nth dU k)):=by have:=(a.part (RawN.p (o:=k) V4)).raw;have hl:dU.length=37:=rfl;rw[bF rfl]at this;simp[TX,TG,SJ (show k<dU.length by omega)]at this;rw[this,az V4]
set_option maxHeartbeats 2000000 in
theorem xh{s:List Int}{vs:Value}{h:Heap}(hs:SlRd (vw h) vs s):ay VI 13 #[vs] h (λu h'=>(vw h).le (vw h')/\SlRd (grow nothing h h') u (tabS s)):=by
 refine ao (args:=[vs]) follows Tryz.func13 E.eC Vu λK hK=>?_;dsimp only[L.eC,lkF,lkG];have w0:=Owns.start (h:=h) (View.le_refl (vw h));refine aa λz hz=>?_;simp;subst hz;refine aa λz hz=>?_;simp;refine w0.mQ (k:=(0,0)) (α:=aS) rfl El.ku λv1 h1 hle1 hv1 w1 _=>?_;have w1:Owns (vw h) h1 (oneO (0,0) T.fM v1 ([]:List aS)):=w1.sub λq i hq=>by
  unfold oneO at hq;split at hq
  ·rename_i e;subst e;rw[Own.an];exact hq
  cases hq
 subst hz;refine aa λz hz=>?_;simp;refine ah V0 LN ?_;rintro _ h2 ⟨hle2,rfl⟩;have w2:=w1.ext' hle2;have o2:oneO (0,0) T.fM v1 ([]:List aS) (1,0)=none:=by unfold oneO;rw[if_neg V6]
 refine w2.qz (k:=(1,0)) o2 Jw (n:=37) rfl (z:=.agg (List.replicate 37 (Vz VA 0)).toArray) V0 V0 V0 V6 V8 V8 λh3 hle3 w3=>?_;generalize h2.size=C at w3;obtain⟨W,hW,w4,atC⟩:=w3.kg (k:=(1,0)) Own.an;have w4:Owns W h3 (oneO (0,0) T.fM v1 ([]:List aS)):=w4.sub λq i hq=>by
  by_cases e:q=(1,0)
  ·subst e;rw[o2]at hq;cases hq
  rw[Own.aB e,Own.aB e];exact hq
 have sW:=hs.mono hW;clear w0 w1 w2 w3 hle1 hle2 hle3;subst hz;refine aa λz hz=>?_;have hd : ∀ρ:Nat->Option Value,ρ 0=VC vs->ev ρ (vw h3) (E.ite (E.bin (Bn.cmp BinOp.gtr) (E.un Un.len (E.tmp 0)) (E.con (Vz IntKind.i64 0))) (E.bin (Bn.cmp BinOp.eql) (E.bin (Bn.div BinOp.rem) (E.un Un.load (E.bin (Bn.idx 1) (E.tmp 0) (E.con (Vz IntKind.i64 0)))) (E.con (Vz IntKind.i64 4))) (E.con (Vz IntKind.i64 1))) (E.con (Value.bool VH)))=VC (.bool (sT s)):=by
  intro ρ hρ;have s3:=sW.mono w4.wle;by_cases c:0<s.length
  ·have q:=s3.idxn (k:=.i64) (N:=1) rfl (i:=(0:Int)) V4 V4;have p:=s3.int Vw (i:=0) c;simp at p q;simp[hρ,s3.len,q,p,sT,c]
  simp[hρ,s3.len,sT,c]
 simp[hd];subst hz;refine aa λz hz=>?_;simp;refine dy [0,3,4,5,6] (fun(tv:Value) k=>[vs,tv,ptz C,.bool (sT s),Vz VA k]) (λtv k h=>∃Wk key,W.le Wk/\Owns Wk h (oneO key T.fM tv (Lft.up (iA s) k []))) 37 v1
  rfl V4 rfl ⟨W,(0,0),View.le_refl _,w4⟩ (λ_ _=>rfl) (λv i h1 hk m=>by simp) ?_ ?_
 ·rintro tv k h4 hk ⟨Wk,key,hWk,wk⟩ K2 hK2;have s4:=(sW.mono hWk).mono wk.wle;have ew:IntKind.i64.wrap ((k:Int)+1)=(k:Int)+1:=bj V4 V4;refine aa λy hy=>?_;simp;subst hy;refine aa λy hy=>?_;refine gP (λρ h'=>h'=h4/\ρ=[(0,vs),(3,tv),(4,ptz C),(5,.bool (sT s)),(6,Vz VA k),(7,Vz VA (tX s k))]) ?_ ?_
  ·intro K3 hK3;by_cases c:k+1<s.length
   ·have q:=s4.idxn (k:=.i64) (N:=1) rfl (i:=(k:Int)+1) V4 V4;have p:=s4.int Vw (i:=k+1) c;have et:((k:Int)+1).toNat=k+1:=by omega
    simp[et]at q;refine kz V7 (by simp[s4.len,ew];omega) ?_;simp[ew,q,p,LM.1];exact hK3 _ _ ⟨rfl,by unfold tX;rw[if_pos c]⟩
   refine kq V7 (by simp[s4.len,ew];omega) ?_;simp;exact hK3 _ _ ⟨rfl,by unfold tX;rw[if_neg c];rfl⟩
  rintro _ _ ⟨rfl,rfl⟩;have hx:=QI (s:=s) (i:=k);generalize hX:tX s k=x at hx;subst hy;refine aa λy hy=>?_;have t9:(x:Int).tmod 9=((x % 9:Nat):Int):=rfl;have t7:(x:Int).tmod 7=((x % 7:Nat):Int):=rfl;have t5:(x:Int).tmod 5=((x % 5:Nat):Int):=rfl;have t3:(x:Int).tmod 3=((x % 3:Nat):Int):=rfl;have t2:(x:Int).tmod 2=((x % 2:Nat):Int):=rfl;have d3:((x:Int).tdiv 3).tmod 12=((x / 3 % 12:Nat):Int):=rfl;have d12:(IntKind.i64.wrap ((x:Int) / 3)).tmod 12=(x:Int) / 3 % 12:=by rw[bj V4 V4];exact Int.tmod_eq_emod_of_nonneg V4
  obtain⟨l,hl⟩ : ∃l,l=Lft.up (iA s) k []:=⟨_,rfl⟩;have hup:Lft.up (iA s) (k+1) []=iA s k l:=by rw[hl];rfl
  have hll:l.length<=74:=by rw[hl];have:=Hn (s:=s) (n:=k);omega
  rw[<-hl]at wk;by_cases cc:(sT s&&decide (x % 9=3))=VG
  ·have cc':sT s=VG/\x % 9=3:=by simpa using cc
   refine kz V7 (by simp[t9,cc'.1];omega) ?_;simp;refine hK2 tv _ _ rfl rfl ⟨Wk,key,hWk,?_⟩;rw[hup];have:iA s k l=l:=by unfold iA;rw[hX,if_pos cc]
   rw[this];exact wk
  refine kq V7 (by simp[t9];intro e1 e2;exact cc (by rw[e1,Ui,decide_eq_true_eq];omega)) ?_;simp;subst hy;have hc:=xv _ (bh (l:=dU) (i:=k) (by show k<37;exact hk));have ax:Bn.ev (.aidx 37 1) (ptz C) (Vz VA k)=VC (VF (VC ⟨C,k,VD⟩)):=by simp[Bn.ev,vP,vI];omega
  have cell:=FI ((atC.mono hWk).mono wk.wle) hk;refine aa λy hy=>?_;simp[ew,ax,cell];refine aA (t:=T.fM) (z:=zz1) (places:=zpd) (vs:=[(0,Vz VA ((k:Int)+1)),(1,Vz VA (nth dU k))]) (cs:=#[Vz VA ((k:Int)+1),Vz VA (nth dU k)]) V0 V0 V5 V0 ?_;obtain⟨kt,hkt⟩ : ∃kt:Key,kt≠key:=⟨(key.1+1,0),by rintro e;have:=congrArg Prod.fst e;simp at this⟩;have ho:oneO key T.fM tv l kt=none:=by unfold oneO;rw[if_neg hkt]
  refine wk.qz (k:=kt) (α:=aS) (d:=⟨(k:Int)+1,nth dU k⟩) (u:=.agg #[Vz VA ((k:Int)+1),Vz VA (nth dU k)]) (n:=2) ho (Df (by constructor<;>omega) (by constructor<;>omega)) rfl (z:=zz1) V0 V0 V0 V6 V8 V8 λh5 hle5 w5=>?_;generalize Array.size _=B at w5;subst hy;refine aa λy hy=>?_;refine gP (λρ h'=>Owns Wk h' ((oneO key T.fM tv l).upd kt (bx T.fM B (tabT s k)))/\ρ=[(0,vs),(3,tv),(4,ptz C),(5,.bool (sT s)),(6,Vz VA k),(7,Vz VA x),(8,ptz B),(47,.agg #[Vz VA ((k:Int)+1),Vz VA (nth dU k)])]) ?_ ?_
  ·intro K3 hK3;by_cases c:x % 3=1
   ·refine kz V7 (by simp[t3];omega) ?_;simp[d3];refine w5.cz aS.C5 (k:=kt) (d:=((x / 3 % 12:Nat):Int)) Own.an V0 V5 (by simp[d12]) (bu.2 ⟨rfl,by constructor<;>omega⟩) λh6 w6 _=>?_;rw[Own.fE]at w6;have et:tabT s k=⟨(k:Int)+1,((x / 3 % 12:Nat):Int)⟩:=by unfold tabT;rw[hX,if_pos c]
    exact hK3 _ _ ⟨by rw[et];exact w6,rfl⟩
   refine kq V7 (by simp[t3];omega) ?_;simp;have et:tabT s k=⟨(k:Int)+1,nth dU k⟩:=by unfold tabT;rw[hX,if_neg c]
   exact hK3 _ _ ⟨by rw[et];exact w5,rfl⟩
  rintro _ h6 ⟨w6,rfl⟩;obtain⟨W7,hW7,w7,atB⟩:=w6.kg (k:=kt) Own.an;have w7:Owns W7 h6 (oneO key T.fM tv l):=w7.sub λq i hq=>by
   by_cases e:q=kt
   ·subst e;rw[ho]at hq;cases hq
   rw[Own.aB e,Own.aB e];exact hq
  subst hy;have rt:=atB;obtain⟨ut,hut,rut⟩:=atB.ldN rfl (N:=2) rfl;generalize htb:tabT s k=tb at rut;refine aa λy hy=>?_;refine gP (λρ h'=>∃(W8:View) (k8:Key) (tv8:Value),W7.le W8/\Owns W8 h' (oneO k8 T.fM tv8 (if x % 2=1 then tb::l else l++[tb]))/\∃a b c:Value,ρ=[(0,vs),(3,tv8),(4,ptz C),(5,.bool (sT s)),(6,Vz VA k),(7,Vz VA x),(8,ptz B),(47,.agg #[Vz VA ((k:Int)+1),Vz VA (nth dU k)]),(59,a),(61,b)]\/ρ=[(0,vs),(3,tv8),(4,ptz C),(5,.bool (sT s)),(6,Vz VA k),(7,Vz VA x),(8,ptz B),(47,.agg #[Vz VA ((k:Int)+1),Vz VA (nth dU k)]),(62,a),(64,b),(65,c)]) ?_ ?_
  ·intro K3 hK3;by_cases c:x % 2=1
   ·refine kz V7 (by simp[t2];omega) ?_;simp[hut _ w7.wle];refine w7.J6 El.ku V6 V5 rut V4 V4 V8 V8 λu v' h8 k8 w8 hle8=>?_;exact hK3 _ _ ⟨W7,k8,v',View.le_refl _,by rw[if_pos c];exact w8,u,v',undef,.inl rfl⟩
   refine kq V7 (by simp[t2];omega) ?_;simp[hut _ w7.wle];refine w7.fW (k:=key) pV El.ku V5 rut V4 V4 V8 V8 λu v' h8 w8 _=>?_;rw[E2]at w8;exact hK3 _ _ ⟨W7,key,v',View.le_refl _,by rw[if_neg c];exact w8,tv,u,v',.inr rfl⟩
  rintro ρ h8 ⟨W8,k8,tv8,hW8,w8,qa,qb,qc,hρ⟩;subst hy;have hl1:(if x % 2=1 then tb::l else l++[tb]).length<=75:=by split<;>simp<;>omega
  have hWend:W.le W8:=Vx hWk (Vx hW7 hW8);rcases hρ with rfl | rfl;all_goals
   by_cases c:x % 5=2
   ·refine kz V7 (by simp[t5];omega) ?_
    simp[ew]
    refine aA (t:=T.fM) (z:=zz1) (places:=zpd) (vs:=[(0,Vz VA ((k:Int)+1)),(1,Vz VA ((x % 7:Nat):Int))]) (cs:=#[Vz VA ((k:Int)+1),Vz VA ((x % 7:Nat):Int)]) V0 V0 (by simp[t7]) V0 ?_
    refine w8.fW (k:=k8) (d:=(⟨(k:Int)+1,((x % 7:Nat):Int)⟩:aS)) pV El.ku V5 (Df (by constructor<;>omega) (by constructor<;>omega)) V4 V4 V8 V8 λu v' h9 w9 _=>?_
    rw[E2]at w9
    simp
    have et:iA s k l=(if x % 2=1 then tb::l else l++[tb])++[⟨(k:Int)+1,((x % 7:Nat):Int)⟩]:=by unfold iA;rw[hX,if_neg cc,if_pos c,htb]
    exact hK2 v' _ _ rfl rfl ⟨W8,k8,hWend,by rw[hup,et];exact w9⟩
   ·refine kq V7 (by simp[t5];omega) ?_
    simp
    have et:iA s k l=(if x % 2=1 then tb::l else l++[tb]):=by unfold iA;rw[hX,if_neg cc,if_neg c,htb]
    exact hK2 tv8 _ _ rfl rfl ⟨W8,k8,hWend,by rw[hup,et];exact w8⟩
 rintro tv h4 ⟨Wk,key,hWk,wk⟩;simp;subst hz;simp;have l5:=Vx hW hWk;have o5:=wk.get pV;have o5:OwnT nothing _ T.fM _ _:=o5;refine hK _ _ ⟨Vx l5 wk.wle,o5.rd (λb x hb=>by cases hb) λb hb=>?_⟩;have hn:=wk.av _ _ pV b hb;unfold grow;rw[if_neg];intro hlt;have:=l5 b h[b] (Sv hlt);rw[hn]at this;cases this
theorem J8{s:List Int}{vs:Value}{h:Heap}(hs:SlRd (vw h) vs s):ay VI 13 #[vs] h (λu h'=>(vw h).le (vw h')/\SlRd (vw h') u (tabS s)):=
 (xh hs).mono λu h' ⟨h1,h2⟩=>⟨h1,h2.mono (km (λb x hb=>by cases hb))⟩
theorem DN{top n:Int}(h:0<=top):dk top n=if top<=n/\n<8192 then n+1 else top:=by
 unfold dk cr;by_cases h1:top<=n/\n<8192
 ·rw[if_pos h1,if_pos Vt,if_pos V4]
 rw[if_neg h1];split
 ·rename_i hw;simp only[Se,decide_eq_true_eq]at hw;rw[if_neg V4]
 rfl
theorem Ip{f:ak}{v:Value}{h:Heap}(hv:Rd (vw h) v f)(hsm:SmF f):
  ay VI 19 #[v] h (λu h'=>u = Vz VA (topS f)/\(vw h).le (vw h')):=by
 refine ao (args:=[v]) follows Tryz.func19 E.eA Vu λK hK=>?_;dsimp only[L.eA,lkF,lkG];refine aa λz hz=>?_;simp;refine eI rfl hv λh1 _ hle1 hs1 hat=>?_;obtain⟨cp,vb,cb⟩:=fh hat;have cpr:=(hat.part ak.Ap).rng;obtain⟨u,hu,hur⟩:=hat.bI rfl;have hu:Un.ev (vw h1) (.bI 2) (ptz h.size)=VC u:=hu;generalize h.size=B at cp cb hu;subst hz;refine aa λz hz=>?_;have hb:(if 8192<(if f.params<0 then 0 else f.params) then 8192 else(if f.params<0 then 0 else f.params))=fZ f.params:=rfl;simp[cp,hb];subst hz;refine aa λz hz=>?_;simp[hu];refine ah V0 (vQ hur Vw hsm) ?_;rintro vt h2 ⟨hle2,ht⟩;have hts:topS f=(aC f).foldl oP (fZ f.params):=rfl;have hbt : ∀l:List Th,0<=l.foldl oP (fZ f.params)/\l.foldl oP (fZ f.params)<=8192:=λl=>iN (f:=oP) (λx=>0<=x/\x<=8192) (λ_ _ h=>za h) l _ (uS (ps:=f.params));have ht:=ht.mono (km hle2);have htb:=ht.bound;generalize aC f=ts at ht hts htb;generalize fZ f.params=base at hts hbt;subst hz;refine aa λz hz=>?_;simp;refine dy [3,4,5] (fun(_:Unit) i=>[Vz VA ((ts.take i).foldl oP base),vt,Vz VA i]) (λ_ i h3=>h3=h2) ts.length ()
  rfl V4 (by simp[aY]) rfl (λ_ _=>rfl) (λv k h3 hk m=>by simp[ht.len]) ?_ ?_
 ·rintro _ i h2 hlti rfl K2 hK2;have hst:(ts.take (i+1)).foldl oP base=oP ((ts.take i).foldl oP base) (nth ts i):=by rw[Si hlti,SY,az hlti];rfl
  have hb:=hbt (ts.take i);generalize (ts.take i).foldl oP base=top at hst hb;have hat:=ht.at hlti;rw[<-az hlti]at hat;obtain⟨vk,hvk⟩:=(hat.part Th.Ox).sl;have hvk1:aq (vw h2) (((slA vt).add (i*4)).add 2)=VC vk:=hvk.1;have hvk2:=hvk.2;generalize nth ts i=t at hst hvk2;have hkb:=hvk2.bound;refine aa λy hy=>?_;simp;subst hy;refine dy [3,4,5,6] (fun(_:Unit) j=>[Vz VA ((t.mks.take j).foldl dk top),vt,Vz VA i,Vz VA j]) (λ_ j h3=>h3=h2) t.mks.length ()
   rfl V4 (by simp[aY]) rfl (λ_ _=>rfl) (λv k h3 hk m=>by subst m;simp(disch:=omega)[ht.idxn (N:=4) rfl,hvk1,hvk2.len]) ?_ ?_
  ·rintro _ j h2 hltj rfl K3 hK3;have hst4:(t.mks.take (j+1)).foldl dk top=dk ((t.mks.take j).foldl dk top) (nth t.mks j):=by rw[Si hltj,SY,az hltj];rfl
   have hb4:=iN (f:=dk) (λx=>0<=x/\x<=8192) (λ_ _ h=>uU h) (t.mks.take j) top hb;generalize (t.mks.take j).foldl dk top=top4 at hst4 hb4;rw[DN hb4.1]at hst4;by_cases hc:top4<=nth t.mks j/\nth t.mks j<8192
   ·rw[if_pos hc]at hst4;simp(disch:=omega)[ht.idxn (N:=4) rfl,hvk1,hvk2.idx1 rfl,hvk2.int Vw,hc];exact hK3 () _ _ rfl (by simp[aY,hst4]) rfl
   rw[if_neg hc]at hst4;have hcb:(decide (top4<=nth t.mks j)&&decide (nth t.mks j<8192))=false:=by rw[T4];intro e;exact hc (by simpa using e)
   simp(disch:=omega)[ht.idxn (N:=4) rfl,hvk1,hvk2.idx1 rfl,hvk2.int Vw,hcb];exact hK3 () _ _ rfl (by simp[aY,hst4]) rfl
  rintro _ h3 rfl;rw[SF];simp;exact hK2 () _ _ rfl (by simp[aY,hst];rfl) rfl
 rintro _ h3 rfl;rw[SF,<-hts];simp;subst hz;simp;exact hK _ _ ⟨rfl,Vx hle1 hle2⟩
variable{po po2:OP}
theorem JO{P:Program}{ty:TypeId}{us:List (Nat × Value)}{h:Heap}{t ty2:TypeId}{n:Nat}{z:Value}{x y:Operand}{us2:Value->List (Nat × Value)}{v:Value}{X:View}{K:Value->Heap->Prop}(hX:X.le (vw h))(hz:(P.info? t).map (·.zero)=VC (VC z))(hzc:z.cells.size=n)(hsz:da P t=VC n)(hv:v.cells.size=n)
  (hone : ∀c∈v.cells.toList,c.oneCell'=VG) (hx : ∀p,asg (us2 p) x=p) (hy : ∀p,asg (us2 p) y=v) (hk : ∀h':Heap,(vw h).le (vw h')->h'.size=h.size+1->h'[h.size]? = VC (.cells v.cells t (0,0))->K (ptz h.size) h') :
  @step po P (.alloc t) ty us h λp h2=>X.le (vw h2)/\@step po2 P (.store t x y) ty2 (us2 p) h2 λ_ h3=>K p h3:=by
 refine dQ hz ⟨Vx hX (b8 h _),?_⟩;refine eJ (g:=h.size) (o:=0) (n:=n) (v:=v) (cur:=z.cells) (e:=t) hsz (hx _) (hy _) hv hone V5 V4 λh' hs ⟨row,hrow,he⟩ hoth=>?_;have hrow2:row=v.cells:=by rw[<-Array.toList_inj,he];simp only[T8,SV,Tj];rw[SO (by simp[hzc]),TR]
 rw[hrow2]at hrow;have hle:(vw h).le (vw h'):=λb o hb=>by have hlt:=View.lt (View.le_refl (vw h)) hb;show h'[b]? = _;rw[hoth b V4];exact b8 _ _ b o hb
 exact hk h' hle (by rw[hs];simp) hrow
theorem Cx.CD{α:Type}[Rep α]{V W X:View}{h0 h:Heap}{o:Own}{P:Program}{ty:TypeId}{us:List (Nat × Value)}{t ty2:TypeId}{n:Nat}{z:Value}{x y:Operand}{us2:Value->List (Nat × Value)}{v:Value}{d:α}{K:Value->Heap->Prop}(c:Cx V h0 W h o)(hX:X.le W)(hv:Rd W v d)(hz:(P.info? t).map (·.zero)=VC (VC z))(hN:Rep.n α=n)(hzc:z.cells.size=n)(hsz:da P t=VC n)
  (hx : ∀p,asg (us2 p) x=p) (hy : ∀p,asg (us2 p) y=v) (hk : ∀B h' W',W.le W'->Cx V h0 W' h' o->At W' ⟨B,0,VD⟩ d->(vw h).le (vw h')->K (ptz B) h') :
  @step po P (.alloc t) ty us h λp h2=>X.le (vw h2)/\@step po2 P (.store t x y) ty2 (us2 p) h2 λ_ h3=>K p h3:=by subst hN;obtain⟨c1,c2,c3⟩:=gn hv;refine JO (Vx hX c.wle) hz hzc hsz c2 c3 hx hy λh1 hle hs hb=>?_;exact hk _ _ _ c.up (c.ext hle) (rh (by rw[cg (RX _)];exact hb) (hv.mono c.up)) hle
end Go.Lft
namespace Go.Lft
structure FitR where
 fit:FitD
 ok:Bool
 deriving Inhabited
instance:Rep FitR:=Rep.via λx=>Cat.mk x.fit x.ok
variable{po:OP}
end Go.Lft
namespace Go.Lft
instance:Inhabited I32:=⟨⟨0⟩⟩
section
variable{h:Heap}{A B:Nat}{a b:Int}{n:Nat}
end
section
variable{po:OP}{A B D k r:Nat}{h:Heap}{us:List (Nat × Value)}{ty:TypeId}{K:Value->Heap->Prop}{x y:Operand}
end
theorem Fi{v:Int}{w:Int × Int}{ns:List Int}: ∀{l:WL},(ns.foldl (cy v w) l).length=l.length+ns.count v:=by
 induction ns with
 | nil=>intro l;simp
 | cons n ns ih=>
  intro l;rw[Sx,ih,Ty];unfold cy;by_cases c:n=v
  ·rw[if_pos c,if_pos (by simp[c])];simp;omega
  rw[if_neg c,if_neg (by simp[c])];omega
theorem Is{v:Int}{l:List Th}: ∀{y:WL},(l.foldl (tg v) y).length=y.length+(l.map λt=>t.tks.count v).sum:=by
 induction l with
 | nil=>intro y;simp
 | cons t l ih=>intro y;rw[Sx,ih];unfold tg;rw[Fi,S8,List.sum_cons];omega
theorem Di{f:ak}{v:Int}(h:cJ f v=VG):(kD v (aC f)).length=1:=by unfold cJ jw at h;simp only[Se]at h;have hb:=h.1;unfold nB at hb;simp at hb;exact hb.1.1.1.2
theorem OU{l:List Nat}{n:Nat}(h:n∈l):n<=l.sum:=by
 induction l with
 | nil=>cases h
 | cons a l ih=>
  rw[List.sum_cons];rcases Sp.1 h with rfl | h
  ·omega
  have:=ih h;omega
theorem oc{f:ak}{v:Int}(h:cJ f v=VG){t:Th}(ht:t∈aC f):t.tks.count v<=1:=by have e:=Di h;unfold kD at e;rw[Is]at e;have:=OU (SZ.2 ⟨t,ht,rfl⟩:t.tks.count v∈(aC f).map λt=>t.tks.count v);simp at e;omega
theorem qX{f:ak}{v:Int}(h:cJ f v=VG){t t':Th}(ht:t∈aC f)(ht':t'∈aC f)(hk:v∈t.tks)(hk':v∈t'.tks):t.blk=t'.blk/\t.place=t'.place:=by
 have e:=Di h;have m1:(t.blk,t.place)∈kD v (aC f):=vu.2 (.inr ⟨t,ht,rfl,hk⟩);have m2:(t'.blk,t'.place)∈kD v (aC f):=vu.2 (.inr ⟨t',ht',rfl,hk'⟩);match hl:kD v (aC f),e with
 | [y],_=>rw[hl]at m1 m2;simp at m1 m2;have:=m1.trans m2.symm;exact⟨congrArg Prod.fst this,congrArg Prod.snd this⟩
theorem xg{f:ak}{v op:Int}(hf:(aK f v op).2=VG){t:Th}(ht:t∈aC f)(hk:v∈t.tks){b:Nat}(hb:t.blk=b):
  ∃m:Nat,b<f.blocks.length/\m<(nth f.blocks b).ins.length/\(m:Int)<t.place/\nth (nth f.blocks b).ins m=(aK f v op).1/\(aK f v op).1.op≠16/\(aK f v op).1.dst=v:=by
 obtain⟨m1,m2,m3,m4,m5⟩:=fk hf;obtain⟨b2,k2,hb2,hk2,e2⟩:=oz.1 m1;have hm:v∈(insT f b2 k2).mks:=by show v∈bz (nth (nth f.blocks b2).ins k2);rw[<-e2];unfold bz;rw[if_neg m5];split<;>simp[m4]
 obtain⟨q1,q2⟩:=mC m3 (dF hb2 hk2) ht hm hk;have q1:(b2:Int)=t.blk:=q1;have q2:(k2:Int)<t.place:=q2;obtain rfl:b2=b:=by omega
 exact⟨k2,hb2,hk2,q2,e2.symm,m5,m4⟩
def Es(f:ak)(b:Nat)(i:Int)(u:Int)(P:InsD->Prop):Prop:=∃m:Nat,m<(nth f.blocks b).ins.length/\(m:Int)<i/\(nth (nth f.blocks b).ins m).op≠16/\(nth (nth f.blocks b).ins m).dst=u/\P (nth (nth f.blocks b).ins m)
structure mG(f:ak)(b:Nat)(i:Int)(own takes inner:List Int):Prop where
 fold : ∀u∈inner,cJ f u=VG
 out : ∀u∈inner,u∉takes
 made : ∀u∈inner,Es f b i u λ_=>True
 from_ : ∀v∈takes,v∈own\/∃u∈inner,Es f b i u λx=>v∈x.args
 two:inner.length<=2
 inn : ∀u∈inner,u∈own\/∃w∈inner,Es f b i w λx=>u∈x.args
 cnt : ∀v,cJ f v=VG->takes.count v<=1
 len : ∃m:Nat,takes.length<=own.length+(nth (nth f.blocks b).ins m).args.length
theorem xt : ∀{l r:List Int},(∀v,l.count v<=r.count v)->l.length<=r.length
 | [],r,_=>Tv _
 | a::l,r,h=>by
  have h1:=h a;rw[Ul]at h1;have hm:a∈r:=SS.1 V4;have ih:=xt (l:=l) (r:=r.erase a) λv=>by have h2:=h v;rw[List.count_erase];rw[Ty]at h2;split at h2<;>rename_i c<;>simp_all<;>omega
  rw[List.length_erase_of_mem hm]at ih;have:=List.length_pos_of_mem hm;simp only[SL];omega
section
variable{f:ak}{b:Nat}{t:Th}{takes:List Int}
theorem eR(ht:t∈aC f)(h : ∀v,takes.count v<=t.tks.count v){i:Int}:mG f b i t.tks takes []:=
 ⟨λ_ h=>(nomatch h),λ_ h=>(nomatch h),λ_ h=>(nomatch h),λv hv=>.inl (SS.1 (S2 (SS.2 hv) (h v))),by simp,λ_ h=>(nomatch h),λv hf=>St (h v) (oc hf ht),0,St (xt h) (Vf _ _)⟩
theorem En{l:List Int}{a:Int}(h:a∈l.erase a):2<=l.count a:=by have h1:=SS.2 h;rw[List.count_erase_self]at h1;omega
theorem qw{a op:Int}(ht:t∈aC f)(hb:t.blk=b)(ha:a∈t.tks)(hf:(aK f a op).2=VG)(hC : ∀v,takes.count v<=(t.tks.erase a).count v+(aK f a op).1.args.count v):mG f b t.place t.tks takes [a]:=by
 have hT : ∀v∈takes,v∈t.tks.erase a\/v∈(aK f a op).1.args:=λv hv=>by
  have h1:=SS.2 hv;have h2:=hC v;rcases SW ((t.tks.erase a).count v)with h | h
  ·exact .inr (SS.1 V4)
  exact .inl (SS.1 h)
 obtain⟨m,hb1,hm,hlt,e,h16,hd⟩:=xg hf ht ha hb;obtain⟨-,-,hfo,-,-⟩:=fk hf;refine⟨λu hu=>?_,λu hu hv=>?_,λu hu=>?_,λv hv=>?_,by simp,λu hu=>.inl (by rw[RY.1 hu];exact ha),λv hv=>?_,m,?_⟩;rotate_left 4
 ·have h1:=hC v;have h2:=oc hv ht;have hx:(insT f b m).tks=(aK f a op).1.args:=by show(nth (nth f.blocks b).ins m).args=_;rw[e]
  have h3:=oc hv (dF hb1 hm);rw[hx]at h3;have h4:(t.tks.erase a).count v<=t.tks.count v:=List.erase_sublist.count_le _;rcases SW ((t.tks.erase a).count v)with h | h
  ·omega
  rcases SW ((aK f a op).1.args.count v)with h5 | h5
  ·omega
  have:=qX hv ht (dF hb1 hm) (SS.1 V4) (by rw[hx];exact SS.1 h5);have h2:t.place=(m:Int):=this.2;omega
 ·have h1:=xt (l:=takes) (r:=t.tks.erase a++(aK f a op).1.args) λv=>by rw[List.count_append];exact hC v
  rw[Sf]at h1;have h2:=List.length_erase_le (a:=a) (l:=t.tks);rw[e];omega
 ·rw[RY.1 hu];exact hfo
 ·rw[RY.1 hu]at hv;rcases hT a hv with h | h
  ·have:=En h;have:=oc hfo ht;omega
  have:=qX hfo ht (dF hb1 hm) ha (by show a∈(nth (nth f.blocks b).ins m).args;rw[e];exact h);have h2:t.place=(m:Int):=this.2;omega
 ·rw[RY.1 hu];exact⟨m,hm,hlt,by rw[e];exact h16,by rw[e];exact hd,trivial⟩
 rcases hT v hv with h | h
 ·exact .inl (List.mem_of_mem_erase h)
 exact .inr ⟨a,by simp,m,hm,hlt,by rw[e];exact h16,by rw[e];exact hd,by rw[e];exact h⟩
theorem IB{a c p op op2:Int}{r:List Int}(ht:t∈aC f)(hb:t.blk=b)(ha:a∈t.tks)(hf:(aK f a op).2=VG)(hc:(aK f c op2).2=VG)(hD:(aK f a op).1.args=p::c::r)(hC : ∀v,takes.count v<=(t.tks.erase a).count v+[p].count v):mG f b t.place t.tks takes [a,c]:=by
 have hT : ∀v∈takes,v∈t.tks.erase a\/v=p:=λv hv=>by
  have h1:=SS.2 hv;have h2:=hC v;rcases SW ((t.tks.erase a).count v)with h | h
  ·exact .inr (RY.1 (SS.1 V4))
  exact .inl (SS.1 h)
 obtain⟨m,hb1,hm,hlt,e,h16,hd⟩:=xg hf ht ha hb;have hx:(insT f b m).tks=p::c::r:=by show(nth (nth f.blocks b).ins m).args=_;rw[e,hD]
 have hcm:c∈(insT f b m).tks:=by rw[hx];simp
 obtain⟨m2,-,hm2,hlt2,e2,h162,hd2⟩:=xg hc (dF hb1 hm) hcm (b:=b) rfl;have hlt2:(m2:Int)<m:=hlt2;obtain⟨-,-,hfo,-,-⟩:=fk hf;obtain⟨-,-,hfc,-,-⟩:=fk hc;have one:=qw (takes:=takes) ht hb ha hf (λv=>St (hC v) (UW (by rw[hD,Ty,Ty];simp) _));have a2:Es f b t.place c λ_=>True:=⟨m2,hm2,by omega,by rw[e2];exact h162,by rw[e2];exact hd2,trivial⟩;refine⟨λu hu=>?_,λu hu hv=>?_,λu hu=>?_,λv hv=>?_,by simp,λu hu=>?_,one.cnt,one.len⟩;rotate_left 4
 ·rcases Sp.1 hu with rfl | hu
  ·exact .inl ha
  rw[RY.1 hu];exact .inr ⟨a,by simp,m,hm,hlt,by rw[e];exact h16,by rw[e];exact hd,by show c∈(nth (nth f.blocks b).ins m).args;rw[e,hD];simp⟩
 ·rcases Sp.1 hu with rfl | hu
  ·exact hfo
  rw[RY.1 hu];exact hfc
 ·rcases Sp.1 hu with rfl | hu
  ·exact one.out u V5 hv
  rw[RY.1 hu]at hv;rcases hT c hv with h | h
  ·have:=qX hfc ht (dF hb1 hm) (List.mem_of_mem_erase h) hcm;have h2:t.place=(m:Int):=this.2;omega
  have h1:=oc hfc (dF hb1 hm);rw[hx,<-h,Ul,Ul]at h1;omega
 ·rcases Sp.1 hu with rfl | hu
  ·exact one.made u V5
  rw[RY.1 hu];exact a2
 rcases one.from_ v hv with h | ⟨u,hu,h⟩
 ·exact .inl h
 exact .inr ⟨u,by rw[RY.1 hu];simp,h⟩
theorem sS{l:List Int}(h:2<=l.length): ∃r,l=nth l 0::nth l 1::r:=by
 match l,h with
 | a::b::r,_=>exact⟨r,rfl⟩
theorem Kx{l:List Int}(h:1<=l.length):l=nth l 0::l.drop 1:=by
 match l,h with
 | a::r,_=>rfl
theorem IG{a b:Int}{r:List Int}:a∈(a::b::r).erase b:=by
 by_cases c:a=b
 ·subst c;rw[UT];simp
 rw[List.erase_cons_tail (by simpa using c)];simp
theorem th{i:InsD}{m lo hi sg:Int}{x:FitD}(ht:t∈aC f)(hb:t.blk=b)(hk:t.tks=i.args)(hl:2<=i.args.length)(h:immS f i m lo hi sg=VC x):mG f b t.place t.tks x.takes x.inner:=by
 unfold immS at h;split at h
 ·rename_i hc;cases h;unfold fu at hc;simp only[Se]at hc;obtain⟨r,e⟩:=sS hl;refine qw ht hb (by rw[hk];exact bh V4) hc.1 λv=>St ?_ (Vf _ _);rw[hk];have:=IG (a:=nth i.args 0) (b:=nth i.args 1) (r:=r);rw[<-e]at this;exact(List.singleton_sublist.2 this).count_le _
 cases h
theorem AQ{i:InsD}{temp op pl su:Int}{k:Nat}{x:FitD}(ht:t∈aC f)(hb:t.blk=b)(hk:t.tks=i.args)(hall : ∀i∈ft f,xd i)(hl:1<=i.args.length)(h:memS f i temp op pl su k=VC x):mG f b t.place t.tks x.takes x.inner:=by
 have e:=Kx hl;have ha:nth i.args 0∈t.tks:=by rw[hk];exact bh V4
 have er:t.tks.erase (nth i.args 0)=i.args.drop 1:=by have q:(nth i.args 0::i.args.drop 1).erase (nth i.args 0)=i.args.drop 1:=UT _ _;rw[<-e]at q;rw[hk];exact q
 have own : ∀v,(nth i.args 0::i.args.drop 1).count v<=t.tks.count v:=λv=>by rw[hk,<-e];exact RX _
 match k with
 | 0=>
  simp only[memS]at h;split at h
  ·cases h;exact eR ht own
  cases h
 | 1=>
  simp only[memS]at h;split at h
  ·rename_i hf;split at h
   ·rename_i hc;cases h;unfold fu at hc;simp only[Se]at hc;obtain⟨m1,m2,-⟩:=fk hf;obtain⟨r,e2⟩:=sS ((hall _ m1).two V4);refine IB ht hb ha hf hc.1.1 e2 λv=>?_;rw[er,Ty,Ty];simp
   cases h
  cases h
 | 2=>
  simp only[memS]at h;split at h
  ·rename_i hf;simp only[Se]at hf;cases h;obtain⟨m1,m2,-⟩:=fk hf.1;have h2:=(hall _ m1).two V4;refine qw ht hb ha hf.1 λv=>?_;obtain⟨r,e2⟩:=sS h2;rw[er,e2,Ty,Ty,Ty,Ty];simp[nth];omega
  cases h
 | k+3=>simp only[memS]at h;cases h;exact eR ht own
end
set_option maxHeartbeats 4000000 in
theorem zf{s:cG}{pat:Int}{x:FitD}{b:Nat}{t:Th}(ht:t∈aC s.f)(hb:t.blk=b)(hk:t.tks=ownArgs s)(hok:np s)(hte:s.t.kind=2->s.t.args.length=1)(h:tryS s pat=VC x):mG s.f b t.place t.tks x.takes x.inner:=by
 have own : ∀v,(ownArgs s).count v<=t.tks.count v:=λv=>by rw[hk];exact RX _
 unfold tryS at h;unfold ownArgs at hk own;cases htm:s.term with
 | true=>
  rw[htm,if_pos rfl]at h;rw[htm,if_pos rfl]at hk own;have non : ∀v,([]:List Int).count v<=t.tks.count v:=λ_=>Tv _;unfold gz at h;split at h
  ·cases h;exact eR ht non
  split at h
  ·cases h;exact eR ht own
  split at h
  ·cases h;exact eR ht non
  split at h
  ·cases h;exact eR ht own
  split at h
  ·rename_i c;split at h
   ·rename_i c2;cases h;have e:s.t.args=[nth s.t.args 0]:=by
     match hl:s.t.args,hte c.2 with
     | [a],_=>rfl
    have:=qw (takes:=(aK s.f (nth s.t.args 0) (pat-23)).1.args) ht hb (by rw[hk];exact bh (by rw[hte c.2];omega)) c2 λv=>Nat.le_add_left _ _;rw[<-e]at this;exact this
   cases h
  split at h
  ·cases h;exact eR ht own
  cases h
 | false=>
  rw[htm,if_neg V5]at h;rw[htm,if_neg V5]at hk own;have non : ∀v,([]:List Int).count v<=t.tks.count v:=λ_=>Tv _;unfold patS at h;split at h
  ·rename_i c;obtain⟨c1,c2,c3⟩:=c;have hp1:1<=pat.toNat/\pat.toNat<=32:=by omega
   generalize pat.toNat=p at *;have len2:16<=p->p<=22->2<=s.i.args.length:=by
    intro h2 h30;have hopr:2<=s.i.op/\s.i.op<=14:=by
     rw[c3];unfold opOf;repeat' split
     all_goals omega
    exact hok.one.two (.inl hopr)
   have len:16<=p->p<=30->1<=s.i.args.length:=by
    intro h2 h30;have hopr:(2<=s.i.op/\s.i.op<=14)\/s.i.op=16\/s.i.op=15:=by
     rw[c3];unfold opOf;repeat' split
     all_goals omega
    rcases hopr with q | q | q
    ·have:=hok.one.two (.inl q);omega
    ·have:=hok.one.two (.inr (.inl q));omega
    exact hok.one.one q
   unfold doS at h;by_cases p1:p=1
   ·rw[if_pos p1]at h;by_cases q:inR s.i.imm.v (-32768) 32767=VG
    ·rw[if_pos q]at h;cases h;exact eR ht non
    rw[if_neg q]at h;cases h
   rw[if_neg p1]at h;by_cases p2:p=2
   ·rw[if_pos p2]at h;cases h;exact eR ht non
   rw[if_neg p2]at h;by_cases p15:p<=15
   ·rw[if_pos p15]at h;cases h;exact eR ht own
   rw[if_neg p15]at h;by_cases p16:p=16
   ·rw[if_pos p16]at h;exact th ht hb hk (len2 V4 V4) h
   rw[if_neg p16]at h;by_cases p17:p=17
   ·rw[if_pos p17]at h;exact th ht hb hk (len2 V4 V4) h
   rw[if_neg p17]at h;by_cases p18:p=18
   ·rw[if_pos p18]at h;exact th ht hb hk (len2 V4 V4) h
   rw[if_neg p18]at h;by_cases p21:p<=21
   ·rw[if_pos p21]at h;exact th ht hb hk (len2 V4 V4) h
   rw[if_neg p21]at h;by_cases p22:p=22
   ·rw[if_pos p22]at h;by_cases q:(aK s.f (nth s.i.args 0) 4).2=VG
    ·rw[if_pos q]at h;have l2:=len2 V4 V4;obtain⟨m1,m2,-⟩:=fk q;have l3:=(hok.all _ m1).two V4;cases h;refine qw ht hb (by rw[hk];exact bh V4) q λv=>?_;obtain⟨r,e⟩:=sS l2;obtain⟨r2,e2⟩:=sS l3;have w:(nth s.i.args 0::nth s.i.args 1::r).erase (nth s.i.args 0)=nth s.i.args 1::r:=UT _ _;rw[<-e]at w;rw[hk,w,e2];simp only[Ty,nth];simp;omega
    rw[if_neg q]at h;cases h
   rw[if_neg p22]at h;by_cases p26:p<=26
   ·rw[if_pos p26]at h;exact AQ ht hb hk hok.all (len V4 V4) h
   rw[if_neg p26]at h;by_cases p30:p<=30
   ·rw[if_pos p30]at h;exact AQ ht hb hk hok.all (len V4 V4) h
   rw[if_neg p30]at h;by_cases p31:p=31
   ·rw[if_pos p31]at h;cases h;exact eR ht own
   rw[if_neg p31]at h;cases h;exact eR ht own
  cases h
theorem M8{f:ak}{b:Nat}(m:jV f)(hb:b<f.blocks.length)(hk:(nth f.blocks b).term.kind=2):(nth f.blocks b).term.args.length=1:=by have h:=(m.endG hb).1;generalize (nth f.blocks b).term=t at *;unfold lI at h;rw[if_neg V4,if_pos hk]at h;simp at h;omega
theorem Fj{f:ak}{b i:Nat}{pat temp:Int}{x:FitD}(m:jV f)(hsm:SmF f)(hr : ∀i∈ft f,-2147483648<=i.imm.v/\i.imm.v<=2147483647)(hb:b<f.blocks.length)(hi:i<=(nth f.blocks b).ins.length)(h:tryS (eh f b i temp) pat=VC x):
  mG f b i (if i<(nth f.blocks b).ins.length then(nth (nth f.blocks b).ins i).args else(nth f.blocks b).term.args) x.takes x.inner:=by
 have hp:de f b i=true:=by simp[de];omega
 obtain⟨h1,h2,h3,h4⟩:=y9 (temp:=temp) m hsm hr hp;have eb:((b:Int)).toNat=b:=by omega
 by_cases e:i=(nth f.blocks b).ins.length
 ·have es:eh f b i temp=⟨f,iH,(nth f.blocks b).term,VG,temp⟩:=by unfold eh;rw[eb,if_pos V4]
  rw[es]at h h1;rw[if_neg V4];have:=zf (s:=⟨f,iH,(nth f.blocks b).term,VG,temp⟩) (t:=endT f b) (b:=b) (wT hb) rfl rfl h1 (λhk=>M8 m hb hk) h;rw[e];exact this
 have es:eh f b i temp=⟨f,nth (nth f.blocks b).ins i,oq,VH,temp⟩:=by unfold eh;rw[eb,if_neg V4];rfl
 rw[es]at h h1;rw[if_pos V4];have hi2:i<(nth f.blocks b).ins.length:=by omega
 exact zf (s:=⟨f,nth (nth f.blocks b).ins i,oq,VH,temp⟩) (t:=insT f b i) (b:=b) (dF hb hi2) rfl rfl h1 (λhk=>by simp[oq]at hk) h
section
variable{f:ak}{g:Int->Int}{b i:Nat}
end
theorem La{l:List Int}: ∀{t:Int},(∀n∈l,0<=n/\n<=8191)->(l.foldl dk t=t\/∃n∈l,l.foldl dk t=n+1)/\t<=l.foldl dk t/\∀n∈l,n+1<=l.foldl dk t:=by
 induction l with
 | nil=>exact λ_=>⟨.inl rfl,Tf _,λn hn=>by cases hn⟩
 | cons a l ih=>
  intro t h;rw[Sx];have ha:=h a (Sg ..);have e:dk t a=if t<a+1 then a+1 else t:=by unfold dk;rw[if_pos (by simp[cr];omega)]
  obtain⟨h1,h2,h3⟩:=ih (t:=dk t a) λn hn=>h n (Sa _ hn);have hst:t<=dk t a/\a+1<=dk t a/\(dk t a=t\/dk t a=a+1):=by rw[e];split<;>omega
  refine⟨?_,by omega,λn hn=>?_⟩
  ·rcases h1 with h1 | ⟨n,hn,h1⟩
   ·rcases hst.2.2 with q | q
    ·exact .inl (h1.trans q)
    exact .inr ⟨a,Sg ..,h1.trans q⟩
   exact .inr ⟨n,Sa _ hn,h1⟩
  rcases Sp.1 hn with rfl | hn
  ·omega
  exact h3 n hn
theorem Jy{f:ak}:topS f=(lQ (aC f)).foldl dk (fZ f.params):=by
 unfold topS lQ;generalize fZ f.params=t;generalize aC f=l;induction l generalizing t with
 | nil=>rfl
 | cons a l ih=>rw[Sx,TH,SY];exact ih _
theorem PA{f:ak}(m:jV f){n:Int}(h:n∈lQ (aC f)):f.params<=n/\n<=8191:=by obtain⟨t,ht,hn⟩:=Te.1 h;exact(m.good t ht).mks n hn
theorem J5{f:ak}(m:jV f):fZ f.params=f.params:=by have:=m.params;unfold fZ;rw[if_neg (show ¬f.params<0 by omega),if_neg V4]
theorem Mn{f:ak}(m:jV f):(topS f=f.params\/∃n∈lQ (aC f),topS f=n+1)/\f.params<=topS f/\∀n∈lQ (aC f),n+1<=topS f:=by
 have hp:=m.params;have:=La (l:=lQ (aC f)) (t:=f.params) λn hn=>by have:=PA m hn;omega
 rw[Jy,J5 m];exact this
structure eK where
 phis:List PhiD
 ins:List aU
 fin:EndD
instance:Rep eK:=Rep.via λx=>Cat.mk x.phis (Cat.mk x.ins x.fin)
structure MFnD where
 params:Int
 blocks:List eK
instance:Rep MFnD:=Rep.via λx=>Cat.mk x.params x.blocks
abbrev NMap:=Int->Option Int
def kM(f:ak)(b k:Nat):Bool:=(!decide ((nth (nth f.blocks b).ins k).op=16)&&!decide ((nth (nth f.blocks b).ins k).op=18))&&cJ f (nth (nth f.blocks b).ins k).dst
def ji(f:ak)(b k:Nat)(m:NMap):NMap:=if kM f b k then putM m (nth (nth f.blocks b).ins k).dst (k:Int) else m
def mkU(f:ak)(b:Nat):NMap:=Lft.up (ji f b) (nth f.blocks b).ins.length λ_=>VD
def sumS(mk cost:NMap):Int->List Int->Option Int
 | c,[]=>VC c
 | c,v::l=>match mk v with
  | none=>sumS mk cost c l
  | some p=>match cost p with
   | none=>VD
   | some n=>sumS mk cost (c+n) l
structure CB where
 cost:NMap
 best:NMap
def wS(f:ak)(b:Nat)(l:List aS)(mk cost:NMap)(i:Nat)(t:Nat):Option Int:=(dx f b i (nth l t).pat).bind λx=>sumS mk cost (nth l t).cost x.takes
def zX(n:Int):Option Int->Bool
 | none=>VG
 | some m=>decide (n<m)
def cI(f:ak)(b:Nat)(l:List aS)(mk:NMap)(i t:Nat)(s:CB):CB:=match wS f b l mk s.cost i t with
 | none=>s
 | some n=>if zX n (s.cost i) then⟨putM s.cost i n,putM s.best i (t:Int)⟩ else s
def GN(t:db):Bool:=decide (t.kind=1)||decide (t.kind=4)||decide (t.kind=5)
def ko(f:ak)(b i:Nat):Bool:=decide (i=(nth f.blocks b).ins.length)&&GN (nth f.blocks b).term
def plc8(f:ak)(b:Nat)(l:List aS)(mk:NMap)(i:Nat)(s:CB):CB:=
 if ko f b i then(match sumS mk s.cost 0 (nth f.blocks b).term.args with | none=>s | some n=>⟨putM s.cost i n,s.best⟩)
 else Lft.up (cI f b l mk i) l.length s
def oB(f:ak)(b:Nat)(l:List aS)(mk:NMap)(n:Nat):CB:=Lft.up (plc8 f b l mk) n ⟨λ_=>VD,λ_=>VD⟩
def cU(f:ak)(b:Nat)(l:List aS):CB:=oB f b l (mkU f b) ((nth f.blocks b).ins.length+1)
def kJ(f:ak)(b:Nat)(l:List aS)(best:NMap)(i:Nat):List Int:=match best i with
 | some t=>Hw (dx f b i (nth l t.toNat).pat)
 | none=>if i=(nth f.blocks b).ins.length then(nth f.blocks b).term.args else[]
def mL(mk:NMap)(m:Int->Bool)(v:Int):Int->Bool:=match mk v with
 | none=>m
 | some p=>λq=>if q=p then VH else m q
def qo(f:ak)(b:Nat)(l:List aS)(best:NMap)(i:Nat)(m:Int->Bool):Int->Bool:=if m i then m else(kJ f b l best i).foldl (mL (mkU f b)) m
def offs(f:ak)(b:Nat)(l:List aS)(best:NMap)(n:Nat):Nat->(Int->Bool)->Int->Bool
 | 0,m=>m
 | k+1,m=>offs f b l best n k (qo f b l best k m)
def lj(f:ak)(b:Nat):Int->Bool:=λq=>decide (0<=q)&&decide (q<(nth f.blocks b).ins.length)&&kM f b q.toNat
def inn8(f:ak)(b:Nat)(l:List aS):Int->Bool:=offs f b l (cU f b l).best 0 ((nth f.blocks b).ins.length+1) (lj f b)
structure jn where
 temp:Int
 cost:Int
 many:Bool
 blk:eK
def layS(f:ak)(b i:Nat)(pat:Int)(s:jn):jn:=
  ⟨if pat=26\/pat=30 then s.temp+1 else s.temp,s.cost,if pat=26\/pat=30 then s.many||decide (8192<=s.temp) else s.many,
   ⟨s.blk.phis,s.blk.ins++pF (dV f b i pat s.temp),if i=(nth f.blocks b).ins.length then Ay (dV f b i pat s.temp) else s.blk.fin⟩⟩
def mV(f:ak)(b:Nat)(l:List aS)(best:NMap)(inner:Int->Bool)(i:Nat)(s:jn):jn:=
 if inner i then s else match best i with
  | none=>layS f b i 0 s
  | some t=>layS f b i (nth l t.toNat).pat { s with cost:=s.cost+(nth l t.toNat).cost }
def uI(f:ak)(l:List aS)(b:Nat)(s:jn):jn:=Lft.up (mV f b l (cU f b l).best (inn8 f b l)) ((nth f.blocks b).ins.length+1) { s with blk:=⟨(nth f.blocks b).phis,[],cT⟩ }
structure FnSt where
 temp:Int
 cost:Int
 many:Bool
 out:List eK
def rZ(f:ak)(l:List aS)(b:Nat)(s:FnSt):FnSt:=
 let r:=uI f l b ⟨s.temp,s.cost,s.many,⟨[],[],cT⟩⟩
 ⟨r.temp,r.cost,r.many,s.out++[r.blk]⟩
def fnS(f:ak)(l:List aS):FnSt:=Lft.up (rZ f l) f.blocks.length ⟨topS f,0,VH,[]⟩
structure ChD where
 code:MFnD
 cost:Int
 err:Int
def noCh(e:Int):ChD:=⟨⟨0,[]⟩,0,e⟩
def dD(f:ak)(l:List aS):ChD:=
 if(eW l f).1≠0 then noCh (eW l f).1
 else if(fnS f l).many then noCh 2
 else⟨⟨f.params,(fnS f l).out⟩,(fnS f l).cost,0⟩
section
variable{f:ak}{b:Nat}{l:List aS}{mk cost cost':NMap}
theorem up_add{β:Type}{g:Nat->β->β}{n:Nat}{x:β}:Lft.up g (n+1) x=g n (Lft.up g n x):=rfl
theorem sG{k:Nat}(h:kM f b k=VG):cJ f (nth (nth f.blocks b).ins k).dst=VG/\(nth (nth f.blocks b).ins k).op≠16/\(nth (nth f.blocks b).ins k).op≠18:=by unfold kM at h;simp only[Se,Tm,decide_eq_false_iff_not]at h;exact⟨h.2,h.1.1,h.1.2⟩
theorem qy{k:Nat}(h:(nth (nth f.blocks b).ins k).op≠16):(nth (nth f.blocks b).ins k).dst∈(insT f b k).mks:=by show _∈bz _;unfold bz;rw[if_neg h];split<;>simp
theorem BB{v:Int}(h:cJ f v=VG):(lJ v (aC f)).length=1:=by unfold cJ jw at h;simp only[Se]at h;have hb:=h.1;unfold nB at hb;simp at hb;exact hb.1.1.1.1
theorem G9{v:Int}(h:cJ f v=VG){t t':Th}(ht:t∈aC f)(ht':t'∈aC f)(hk:v∈t.mks)(hk':v∈t'.mks):t.blk=t'.blk/\t.place=t'.place:=by
 have e:=BB h;have m1:(t.blk,t.place)∈lJ v (aC f):=lE.2 (.inr ⟨t,ht,rfl,hk⟩);have m2:(t'.blk,t'.place)∈lJ v (aC f):=lE.2 (.inr ⟨t',ht',rfl,hk'⟩);match hl:lJ v (aC f),e with
 | [y],_=>rw[hl]at m1 m2;simp at m1 m2;have:=m1.trans m2.symm;exact⟨congrArg Prod.fst this,congrArg Prod.snd this⟩
theorem Dd : ∀{n:Nat} {v p:Int},Lft.up (ji f b) n (λ_=>VD) v=VC p->∃k:Nat,k<n/\p=k/\kM f b k=VG/\(nth (nth f.blocks b).ins k).dst=v
 | 0,v,p,h=>by cases h
 | n+1,v,p,h=>by
  rw[up_add]at h;unfold ji at h;split at h
  ·rename_i c;unfold putM at h;split at h
   ·rename_i e;cases h;exact⟨n,by omega,rfl,c,e.symm⟩
   obtain⟨k,h1,h2⟩:=Dd h;exact⟨k,by omega,h2⟩
  obtain⟨k,h1,h2⟩:=Dd h;exact⟨k,by omega,h2⟩
theorem EK : ∀{n k:Nat},k<n->kM f b k=VG->∃p,Lft.up (ji f b) n (λ_=>VD) (nth (nth f.blocks b).ins k).dst=VC p
 | 0,k,h,_=>by omega
 | n+1,k,h,hf=>by
  rw[up_add];unfold ji;by_cases e:k=n
  ·subst e;rw[if_pos hf];exact⟨k,by unfold putM;rw[if_pos rfl]⟩
  obtain⟨p,hp⟩:=EK (n:=n) (k:=k) V4 hf;split
  ·unfold putM;split
   ·exact⟨_,rfl⟩
   exact⟨p,hp⟩
  exact⟨p,hp⟩
theorem oI(hb:b<f.blocks.length){v p:Int}:mkU f b v=VC p↔∃k:Nat,k<(nth f.blocks b).ins.length/\p=k/\kM f b k=VG/\(nth (nth f.blocks b).ins k).dst=v:=by refine⟨Dd,?_⟩;rintro⟨k,hk,rfl,hf,rfl⟩;obtain⟨p,hp⟩:=EK hk hf;obtain⟨j,hj,rfl,hfj,hd⟩:=Dd hp;obtain⟨g1,g2,-⟩:=sG hf;obtain⟨-,g3,-⟩:=sG hfj;have:=(G9 g1 (dF hb hj) (dF hb hk) (by rw[<-hd];exact qy g3) (qy g2)).2;have e:(j:Int)=(k:Int):=this;show mkU f b _=_;unfold mkU;rw[hp,e]
theorem xI{l:List Int}: ∀{c:Int},(∀v∈l,∀p,mk v=VC p->cost p=cost' p)->sumS mk cost c l=sumS mk cost' c l:=by
 induction l with
 | nil=>intro c _;rfl
 | cons v l ih=>
  intro c h;unfold sumS;cases hm:mk v with
  | none=>exact ih λw hw=>h w (Sa _ hw)
  | some p=>
   dsimp only;rw[h v V5 p hm];cases cost' p with
   | none=>rfl
   | some n=>exact ih λw hw=>h w (Sa _ hw)
theorem z7{i t:Nat}(h : ∀x,dx f b i (nth l t).pat=VC x->∀v∈x.takes,∀p,mk v=VC p->cost p=cost' p):wS f b l mk cost i t=wS f b l mk cost' i t:=by
 unfold wS;cases hx:dx f b i (nth l t).pat with
 | none=>rfl
 | some x=>exact xI (h x hx)
def Ak(w:Nat->Option Int)(k:Nat)(c t:Option Int):Prop:=
 (c=VD/\t=VD/\∀j<k,w j=VD)\/∃(n:Int) (j:Nat),j<k/\c=VC n/\t=VC (j:Int)/\w j=VC n/\(∀j'<j,∀n',w j'=VC n'->n<n')/\∀j'<k,∀n',w j'=VC n'->n<=n'
theorem wH{β:Type}{m:Int->Option β}{i:Int}{v:β}:putM m i v i=VC v:=by unfold putM;rw[if_pos rfl]
theorem nH{β:Type}{m:Int->Option β}{i j:Int}{v:β}(h:j≠i):putM m i v j=m j:=by unfold putM;rw[if_neg h]
theorem zq{i:Nat}(ha : ∀pat x,dx f b i pat=VC x->∀v∈x.takes,∀p,mk v=VC p->p<i){s:CB}(h0:s.cost i=VD)(h1:s.best i=VD) :
  ∀k,(∀j:Int,j≠i->(Lft.up (cI f b l mk i) k s).cost j=s.cost j/\(Lft.up (cI f b l mk i) k s).best j=s.best j)/\Ak (wS f b l mk s.cost i) k ((Lft.up (cI f b l mk i) k s).cost i) ((Lft.up (cI f b l mk i) k s).best i)
 | 0=>⟨λ_ _=>⟨rfl,rfl⟩,.inl ⟨h0,h1,λ_ h=>by omega⟩⟩
 | k+1=>by
  obtain⟨ih1,ih2⟩:=zq ha h0 h1 k;rw[up_add];generalize Lft.up (cI f b l mk i) k s=q at *;have ew:wS f b l mk q.cost i k=wS f b l mk s.cost i k:=z7 λx hx v hv p hp=>(ih1 p (by have:=ha _ x hx v hv p hp;omega)).1;unfold cI;rw[ew];cases hw:wS f b l mk s.cost i k with
  | none=>
   refine⟨ih1,?_⟩;rcases ih2 with⟨a1,a2,a3⟩ | ⟨n,j,a1,a2,a3,a4,a5,a6⟩
   ·refine .inl ⟨a1,a2,λj hj=>?_⟩;by_cases e:j=k
    ·rw[e];exact hw
    exact a3 j V4
   refine .inr ⟨n,j,by omega,a2,a3,a4,a5,λj' hj' n' hn'=>?_⟩;by_cases e:j'=k
   ·rw[e,hw]at hn';cases hn'
   exact a6 j' V4 n' hn'
  | some n=>
   dsimp only;rcases ih2 with⟨a1,a2,a3⟩ | ⟨m,j,a1,a2,a3,a4,a5,a6⟩
   ·rw[a1,if_pos (show zX n VD=VG from rfl)];refine⟨λj hj=>⟨by show putM q.cost i n j=_;rw[nH hj];exact(ih1 j hj).1,by show putM q.best i (k:Int) j=_;rw[nH hj];exact(ih1 j hj).2⟩,.inr ⟨n,k,by omega,wH,wH,hw,λj' hj' n' hn'=>?_,λj' hj' n' hn'=>?_⟩⟩
    ·rw[a3 j' hj']at hn';cases hn'
    by_cases e:j'=k
    ·rw[e,hw]at hn';cases hn';omega
    rw[a3 j' V4]at hn';cases hn'
   rw[a2];by_cases c:n<m
   ·rw[if_pos (by simp[zX,c])];refine⟨λj hj=>⟨by show putM q.cost i n j=_;rw[nH hj];exact(ih1 j hj).1,by show putM q.best i (k:Int) j=_;rw[nH hj];exact(ih1 j hj).2⟩,.inr ⟨n,k,by omega,wH,wH,hw,λj' hj' n' hn'=>?_,λj' hj' n' hn'=>?_⟩⟩
    ·have:=a6 j' hj' n' hn';omega
    by_cases e:j'=k
    ·rw[e,hw]at hn';cases hn';omega
    have:=a6 j' V4 n' hn';omega
   rw[if_neg (by simp[zX,c])];refine⟨ih1,.inr ⟨m,j,by omega,a2,a3,a4,a5,λj' hj' n' hn'=>?_⟩⟩;by_cases e:j'=k
   ·rw[e,hw]at hn';cases hn';omega
   exact a6 j' V4 n' hn'
def qT(f:ak)(b:Nat)(l:List aS)(mk:NMap)(s:CB)(i:Nat):Prop:=
 if ko f b i then s.cost i=sumS mk s.cost 0 (nth f.blocks b).term.args/\s.best i=VD else Ak (wS f b l mk s.cost i) l.length (s.cost i) (s.best i)
theorem Ak.congr{w w':Nat->Option Int}{k:Nat}{c t:Option Int}(h:Ak w k c t)(e : ∀j<k,w' j=w j):Ak w' k c t:=by
 rcases h with⟨a1,a2,a3⟩ | ⟨n,j,a1,a2,a3,a4,a5,a6⟩
 ·exact .inl ⟨a1,a2,λj hj=>by rw[e j hj];exact a3 j hj⟩
 exact .inr ⟨n,j,a1,a2,a3,by rw[e j a1];exact a4,λj' hj' n' hn'=>a5 j' hj' n' (by rw[<-e j' V4];exact hn'),λj' hj' n' hn'=>a6 j' hj' n' (by rw[<-e j' hj'];exact hn')⟩
theorem BV(ha : ∀(i:Nat) (pat:Int) (x:FitD),dx f b i pat=VC x->∀v∈x.takes,∀p,mk v=VC p->p<i)(hb : ∀v∈(nth f.blocks b).term.args,∀p,mk v=VC p->p<(nth f.blocks b).ins.length) :
  ∀n:Nat,(∀j:Int,¬j<n->(oB f b l mk n).cost j=VD/\(oB f b l mk n).best j=VD)/\∀i<n,qT f b l mk (oB f b l mk n) i
 | 0=>⟨λ_ _=>⟨rfl,rfl⟩,λ_ h=>by omega⟩
 | n+1=>by
  obtain⟨ih1,ih2⟩:=BV ha hb n;have e:oB f b l mk (n+1)=plc8 f b l mk n (oB f b l mk n):=rfl;rw[e];generalize oB f b l mk n=s at *;have key:(∀j:Int,j≠n->(plc8 f b l mk n s).cost j=s.cost j/\(plc8 f b l mk n s).best j=s.best j)/\qT f b l mk (plc8 f b l mk n s) n:=by
   obtain⟨z1,z2⟩:=ih1 n V4;unfold plc8 qT;by_cases c:ko f b n=VG
   ·rw[if_pos c,if_pos c];have en:n=(nth f.blocks b).ins.length:=by unfold ko at c;simp at c;exact c.1
    cases hs:sumS mk s.cost 0 (nth f.blocks b).term.args with
    | none=>exact⟨λ_ _=>⟨rfl,rfl⟩,by dsimp only;rw[hs];exact z1,z2⟩
    | some m=>refine⟨λj hj=>⟨nH hj,rfl⟩,?_,z2⟩;show putM s.cost n m n=sumS mk (putM s.cost n m) 0 _;refine wH.trans (hs.symm.trans ?_);exact xI λv hv p hp=>(nH (j:=p) (i:=(n:Int)) (by have:=hb v hv p hp;omega)).symm
   rw[if_neg c,if_neg c];obtain⟨t1,t2⟩:=zq (l:=l) (ha n) z1 z2 l.length;exact⟨t1,t2.congr λj _=>z7 λx hx v hv p hp=>(t1 p (by have:=ha n _ x hx v hv p hp;omega)).1⟩
  obtain⟨k1,k2⟩:=key;generalize plc8 f b l mk n s=q at *;refine⟨λj hj=>?_,λi hi=>?_⟩
  ·obtain⟨x1,x2⟩:=k1 j V4;obtain⟨y1,y2⟩:=ih1 j V4;exact⟨x1.trans y1,x2.trans y2⟩
  by_cases e:i=n
  ·subst e;exact k2
  have o:=ih2 i V4;obtain⟨x1,x2⟩:=k1 i V4;unfold qT at o ⊢;by_cases c:ko f b i=VG
  ·rw[if_pos c]at o ⊢;have en:i=(nth f.blocks b).ins.length:=by unfold ko at c;simp at c;exact c.1
   rw[x1,x2,o.1];exact⟨xI λv hv p hp=>(k1 p (by have:=hb v hv p hp;omega)).1.symm,o.2⟩
  rw[if_neg c]at o ⊢;rw[x1,x2];exact o.congr λj _=>z7 λx hx v hv p hp=>(k1 p (by have:=ha i _ x hx v hv p hp;omega)).1
end
section
variable{f:ak}{b:Nat}{u:Int}{l l':List Int}{m:Nat}
theorem zl{i:Nat}{pat:Int}{x:FitD}(hsm:SmF f)(hr : ∀i∈ft f,-2147483648<=i.imm.v/\i.imm.v<=2147483647)(hb:b<f.blocks.length)(hi:i<=(nth f.blocks b).ins.length)(h:dx f b i pat=VC x):
  mG f b i (if i<(nth f.blocks b).ins.length then(nth (nth f.blocks b).ins i).args else(nth f.blocks b).term.args) x.takes x.inner:=by
 unfold dx dV at h;split at h
 ·split at h
  ·rename_i c;simp only[Se]at c;exact Fj (jH c.2) hsm hr hb hi h
  cases h
 cases h
end
section
theorem LA{D:Nat->Int}{l l':List Nat}(h:l.Perm l'):(l.map D).sum=(l'.map D).sum:=by
 induction h with
 | nil=>rfl
 | cons a _ ih=>simp[ih]
 | swap a b l=>simp;omega
 | trans _ _ h1 h2=>exact h1.trans h2
theorem Ez{D:Nat->Int}{kids:Nat->List Nat} : ∀{l:List Nat},((l.flatMap kids).map D).sum=(l.map λj=>((kids j).map D).sum).sum
 | []=>rfl
 | a::l=>by simp[Ez (l:=l)]
theorem Bw{D:Nat->Int}{p:Nat->Bool} : ∀{l:List Nat},(l.map D).sum=((l.filter p).map D).sum+((l.filter λi=>!p i).map D).sum
 | []=>rfl
 | a::l=>by have ih:=Bw (D:=D) (p:=p) (l:=l);cases h:p a<;>simp[h,ih]<;>omega
theorem Ec{D E F:Nat->Int} : ∀{l:List Nat},(∀j∈l,D j=E j+F j)->(l.map D).sum=(l.map E).sum+(l.map F).sum
 | [],_=>rfl
 | a::l,h=>by have ih:=Ec (l:=l) λj hj=>h j (Sa _ hj);have:=h a V5;simp[ih];omega
theorem zW{kids:Nat->List Nat} : ∀{l:List Nat},l.Nodup->(∀j∈l,(kids j).Nodup)->(∀j∈l,∀j'∈l,∀i,i∈kids j->i∈kids j'->j=j')->(l.flatMap kids).Nodup
 | [],_,_,_=>TV
 | a::l,h1,h2,h3=>by rw[T1]at h1;rw[TH,Ti];refine⟨h2 a V5,zW h1.2 (λj hj=>h2 j (Sa _ hj)) (λj hj j' hj'=>h3 j (Sa _ hj) j' (Sa _ hj')),λx hx y hy e=>?_⟩;subst e;obtain⟨j,hj,hxj⟩:=Te.1 hy;have:=h3 a V5 j (Sa _ hj) x hx hxj;exact h1.1 (this▸hj)
variable{kids:Nat->List Nat}
theorem KE{K:Nat}{root fold:Nat->Bool}{tc D:Nat->Int}(hr : ∀i<K,root i=VG↔fold i=VH\/∃j<K,root j=VG/\i∈kids j)(hk : ∀j<K,root j=VG->∀i∈kids j,i<K/\fold i=VG)(hn : ∀j<K,root j=VG->(kids j).Nodup)(hu : ∀j<K,∀j'<K,root j=VG->root j'=VG->∀i,i∈kids j->i∈kids j'->j=j')(hD : ∀j<K,root j=VG->D j=tc j+((kids j).map D).sum):
  (((List.range K).filter root).map tc).sum=(((List.range K).filter λi=>!fold i).map D).sum:=by
 obtain⟨R,hR⟩ : ∃R,R=(List.range K).filter root:=⟨_,rfl⟩;have mR : ∀j,j∈R↔j<K/\root j=true:=λj=>by rw[hR];simp
 have nR:R.Nodup:=by rw[hR];exact List.Pairwise.filter _ List.nodup_range
 rw[<-hR];have e1:(R.map D).sum=(R.map tc).sum+(R.map λj=>((kids j).map D).sum).sum:=Ec λj hj=>hD j ((mR j).1 hj).1 ((mR j).1 hj).2;have e2:(R.flatMap kids).Perm (R.filter fold):=by
  refine(List.perm_ext_iff_of_nodup (zW nR (λj hj=>hn j ((mR j).1 hj).1 ((mR j).1 hj).2) λj hj j' hj'=>hu j ((mR j).1 hj).1 j' ((mR j').1 hj').1 ((mR j).1 hj).2 ((mR j').1 hj').2) (List.Pairwise.filter _ nR)).2 λi=>?_;rw[Te,TQ,mR];constructor
  ·rintro⟨j,hj,hi⟩;obtain⟨g1,g2⟩:=(mR j).1 hj;obtain⟨k1,k2⟩:=hk j g1 g2 i hi;exact⟨⟨k1,(hr i k1).2 (.inr ⟨j,g1,g2,hi⟩)⟩,k2⟩
  rintro⟨⟨h1,h2⟩,h3⟩;rcases(hr i h1).1 h2 with h | ⟨j,g1,g2,g3⟩
  ·rw[h3]at h;cases h
  exact⟨j,(mR j).2 ⟨g1,g2⟩,g3⟩
 have e3:=Bw (D:=D) (p:=fold) (l:=R);have e4:(R.filter λi=>!fold i)=(List.range K).filter λi=>!fold i:=by
  rw[hR,List.filter_filter];refine UH λi hi=>?_;have hi:i<K:=by simpa using hi
  cases hf:fold i with
  | true=>simp
  | false=>simp[(hr i hi).2 (.inl hf)]
 rw[<-Ez,LA e2]at e1;rw[e4]at e3;omega
end
section
variable{f:ak}{b:Nat}{l:List aS}
def ownP(f:ak)(b i:Nat):List Int:=if i<(nth f.blocks b).ins.length then(nth (nth f.blocks b).ins i).args else(nth f.blocks b).term.args
theorem tt(hb:b<f.blocks.length){i:Nat}(hi:i<=(nth f.blocks b).ins.length): ∃t∈aC f,t.blk=b/\t.place=i/\t.tks=ownP f b i:=by
 unfold ownP;by_cases e:i<(nth f.blocks b).ins.length
 ·rw[if_pos e];exact⟨_,dF hb e,rfl,rfl,rfl⟩
 rw[if_neg e];exact⟨_,wT hb,rfl,by show((nth f.blocks b).ins.length:Int)=i;omega,rfl⟩
def innP(f:ak)(b:Nat)(l:List aS)(best:NMap)(i:Nat):List Int:=match best i with
 | some t=>Hx (dx f b i (nth l t.toNat).pat)
 | none=>[]
structure Okf(f:ak):Prop where
 may:jV f
 sm:SmF f
 imm : ∀i∈ft f,-2147483648<=i.imm.v/\i.imm.v<=2147483647
variable{best:NMap}
theorem oF(o:Okf f)(hb:b<f.blocks.length){i:Nat}(hi:i<=(nth f.blocks b).ins.length):mG f b i (ownP f b i) (kJ f b l best i) (innP f b l best i):=by
 obtain⟨t,ht,htb,htp,htk⟩:=tt hb hi;have none_ : ∀{r:List Int},(∀v,r.count v<=t.tks.count v)->mG f b i (ownP f b i) r []:=λh=>by have:=eR (f:=f) (b:=b) (i:=(i:Int)) ht h;rw[htk]at this;exact this
 unfold kJ innP;cases best i with
 | none=>
  dsimp only;split
  ·rename_i e;refine none_ λv=>?_;rw[htk];unfold ownP;rw[if_neg V4];exact RX _
  exact none_ λv=>Tv _
 | some u=>
  dsimp only;cases hx:dx f b i (nth l u.toNat).pat with
  | none=>exact none_ λv=>Tv _
  | some x=>exact zl o.sm o.imm hb hi hx
theorem qf(o:Okf f)(hb:b<f.blocks.length){i:Nat}(hi:i<=(nth f.blocks b).ins.length){v:Int}(hv:v∈kJ f b l best i\/v∈innP f b l best i):
  ∃c:Nat,c<=i/\v∈ownP f b c/\(c=i\/c<i/\c<(nth f.blocks b).ins.length/\(nth (nth f.blocks b).ins c).op≠16/\(nth (nth f.blocks b).ins c).dst∈innP f b l best i):=by
 have io:=oF (l:=l) (best:=best) o hb hi;have key:v∈ownP f b i\/∃u∈innP f b l best i,Es f b i u λx=>v∈x.args:=by
  rcases hv with hv | hv
  ·exact io.from_ v hv
  exact io.inn v hv
 rcases key with h | ⟨u,hu,m,h1,h2,h3,h4,h5⟩
 ·exact⟨i,RX _,h,.inl rfl⟩
 exact⟨m,by omega,by unfold ownP;rw[if_pos h1];exact h5,.inr ⟨by omega,h1,h3,by rw[h4];exact hu⟩⟩
def nw(f:ak)(b:Nat)(l:List aS)(best:NMap)(i:Nat):List Nat:=(kJ f b l best i).filterMap λv=>(mkU f b v).map Int.toNat
theorem wP{i p:Nat}(hb:b<f.blocks.length):p∈nw f b l best i↔∃v∈kJ f b l best i,p<(nth f.blocks b).ins.length/\kM f b p=VG/\(nth (nth f.blocks b).ins p).dst=v:=by
 unfold nw;rw[Ue];constructor
 ·rintro⟨v,hv,e⟩;obtain⟨q,hq,rfl⟩:=Sc.1 e;obtain⟨k,hk,rfl,hf,hd⟩:=(oI hb).1 hq;exact⟨v,hv,by simpa using hk,by simpa using hf,by simpa using hd⟩
 rintro⟨v,hv,h1,h2,h3⟩;exact⟨v,hv,by rw[(oI hb).2 ⟨p,h1,rfl,h2,h3⟩];rfl⟩
theorem qk(hb:b<f.blocks.length){c p:Nat}(hc:c<=(nth f.blocks b).ins.length)(hp:p<(nth f.blocks b).ins.length)(hf:kM f b p=VG)(hv:(nth (nth f.blocks b).ins p).dst∈ownP f b c):p<c:=by obtain⟨t,ht,htb,htp,htk⟩:=tt hb hc;obtain⟨g1,g2,-⟩:=sG hf;have:=(mC g1 (dF hb hp) ht (qy g2) (by rw[htk];exact hv)).2;rw[htp]at this;have q:(p:Int)<c:=this;omega
theorem Jt(o:Okf f)(hb:b<f.blocks.length){i p:Nat}(hi:i<=(nth f.blocks b).ins.length)(h:p∈nw f b l best i):p<i:=by obtain⟨v,hv,h1,h2,rfl⟩:=(wP hb).1 h;obtain⟨c,hc,h3,-⟩:=qf o hb hi (.inl hv);have:=qk hb V4 h1 h2 h3;omega
theorem M7(hb:b<f.blocks.length){k:Nat}(hk:k<(nth f.blocks b).ins.length)(h16:(nth (nth f.blocks b).ins k).op≠16)(hf:cJ f (nth (nth f.blocks b).ins k).dst=VG):(nth (nth f.blocks b).ins k).op≠18:=by
 have e:=BB hf;have m1:((insT f b k).blk,(insT f b k).place)∈lJ (nth (nth f.blocks b).ins k).dst (aC f):=lE.2 (.inr ⟨_,dF hb hk,rfl,qy h16⟩);have m1:((b:Int),(k:Int))∈lJ (nth (nth f.blocks b).ins k).dst (aC f):=m1;unfold cJ jw at hf;simp only[Se]at hf;match hl:lJ (nth (nth f.blocks b).ins k).dst (aC f),e with
 | [y],_=>
  rw[hl]at m1 hf;have hy:y=((b:Int),(k:Int)):=(RY.1 m1).symm;subst hy;have h2:=hf.2.2;have h2:[(1:Int),2,4,11,12,13].contains (nth (nth f.blocks b).ins k).op=true:=by have:nth [((b:Int),(k:Int))] 0=((b:Int),(k:Int)):=rfl;rw[this]at h2;simpa using h2
  intro h18;rw[h18]at h2;simp at h2
theorem NG(hb:b<f.blocks.length){k:Nat}(hk:k<(nth f.blocks b).ins.length)(h16:(nth (nth f.blocks b).ins k).op≠16)(hf:cJ f (nth (nth f.blocks b).ins k).dst=VG):kM f b k=true:=by unfold kM;simp[h16,M7 hb hk h16 hf,hf]
theorem wU(o:Okf f)(hb:b<f.blocks.length){best:NMap}{R:Nat->Prop}(hR : ∀r,R r->r<=(nth f.blocks b).ins.length)
  (hp : ∀r,R r->(∀s,R s->r<(nth f.blocks b).ins.length->(nth (nth f.blocks b).ins r).op≠16->(nth (nth f.blocks b).ins r).dst∉innP f b l best s)\/∃q,R q/\r∈nw f b l best q) :
  ∀(d:Nat) {v:Int} {i j c:Nat},(nth f.blocks b).ins.length<c+d->cJ f v=VG->c<=(nth f.blocks b).ins.length->v∈ownP f b c->R i->R j->(v∈kJ f b l best i\/v∈innP f b l best i)->(v∈kJ f b l best j\/v∈innP f b l best j)->i=j
 | 0,v,i,j,c,hd,_,hc,_,_,_,_,_=>by omega
 | d+1,v,i,j,c,hd,hf,hc,hcv,ri,rj,vi,vj=>by
  have hi:=hR i ri;have hj:=hR j rj;obtain⟨ci,hci,ki,ai⟩:=qf o hb hi vi;obtain⟨cj,hcj,kj,aj⟩:=qf o hb hj vj;have same : ∀{x:Nat},x<=(nth f.blocks b).ins.length->v∈ownP f b x->x=c:=fun{x} hx hv=>by obtain⟨t,ht,_,htp,htk⟩:=tt hb hx;obtain⟨t',ht',_,htp',htk'⟩:=tt hb hc;have:=(qX hf ht ht' (by rw[htk];exact hv) (by rw[htk'];exact hcv)).2;rw[htp,htp']at this;omega
  have e1:=same V4 ki;have e2:=same V4 kj;subst e1;subst e2;have clash : ∀{r s:Nat},R r->R s->cj=r->cj<(nth f.blocks b).ins.length->(nth (nth f.blocks b).ins cj).op≠16->(nth (nth f.blocks b).ins cj).dst∈innP f b l best s->False:=by
   intro r s rr rs er hlt h16 hin;subst er;have io:=oF (l:=l) (best:=best) o hb (hR s rs);have hfu:=io.fold _ hin;rcases hp _ rr with h0 | ⟨q,rq,hkq⟩
   ·exact h0 s rs hlt h16 hin
   obtain⟨u,hu,g1,g2,g3⟩:=(wP hb).1 hkq;obtain⟨c2,hc2,k2,a2⟩:=qf o hb (hR q rq) (.inl hu);have hlt2:=qk (c:=c2) hb (by have:=hR q rq;omega) g1 g2 (by rw[g3];exact k2);have:=wU o hb hR hp d (v:=u) (i:=q) (j:=s) (c:=c2) V4 (by rw[<-g3];exact hfu) (by have:=hR q rq;omega) k2 rq rs (.inl hu) (.inr (by rw[<-g3];exact hin));subst this;exact io.out _ hin (by rw[g3];exact hu)
  rcases ai with rfl | ⟨a1,a2,a3,a4⟩
  ·rcases aj with rfl | ⟨b1,b2,b3,b4⟩
   ·rfl
   exact(clash ri rj rfl b2 b3 b4).elim
  rcases aj with rfl | ⟨b1,b2,b3,b4⟩
  ·exact(clash rj ri rfl a2 a3 a4).elim
  have io:=oF (l:=l) (best:=best) o hb hi;have hfu:=io.fold _ a4;obtain⟨c2,hc2,k2,-⟩:=qf o hb hi (.inr a4);have hlt2:=qk (c:=c2) hb V4 a2 (NG hb a2 a3 hfu) k2;exact wU o hb hR hp d (c:=c2) V4 hfu V4 k2 ri rj (.inr a4) (.inr b4)
end
section
variable{f:ak}{b:Nat}{l:List aS}
theorem rH{g:Int->Option Nat} : ∀{l:List Int},(∀v,g v≠VD->l.count v<=1)->(∀v v' p,g v=VC p->g v'=VC p->v=v')->(l.filterMap g).Nodup
 | [],_,_=>TV
 | a::l,h,hi=>by
  have ih:=rH (g:=g) (l:=l) (λv hv=>St (List.count_le_count_cons) (h v hv)) hi;rw[List.filterMap_cons];cases hg:g a with
  | none=>exact ih
  | some p=>dsimp only;rw[T1];refine⟨λhm=>?_,ih⟩;obtain⟨v,hv,e⟩:=Ue.1 hm;have:=hi a v p hg e;subst this;have h1:=h a (by rw[hg];simp);rw[Ul]at h1;have:=SS.2 hv;omega
variable{best:NMap}
theorem F4(o:Okf f)(hb:b<f.blocks.length){i:Nat}(hi:i<=(nth f.blocks b).ins.length):(nw f b l best i).Nodup:=by
 have io:=oF (l:=l) (best:=best) o hb hi;unfold nw;refine rH (λv hv=>?_) λv v' p h1 h2=>?_
 ·cases hm:mkU f b v with
  | none=>rw[hm]at hv;exact absurd rfl hv
  | some p=>obtain⟨k,h1,rfl,h3,rfl⟩:=(oI hb).1 hm;exact io.cnt _ (sG h3).1
 obtain⟨q,hq,rfl⟩:=Sc.1 h1;obtain⟨r,hr,e⟩:=Sc.1 h2;obtain⟨k,a1,rfl,a3,rfl⟩:=(oI hb).1 hq;obtain⟨j,b1,rfl,b3,rfl⟩:=(oI hb).1 hr;simp at e;rw[e]
theorem Ng{cost:NMap}(hb:b<f.blocks.length){l:List Int}: ∀{c m:Int},sumS (mkU f b) cost c l=VC m->m=c+((l.filterMap λv=>(mkU f b v).map Int.toNat).map λp:Nat=>(cost p).getD 0).sum/\∀v∈l,∀p,mkU f b v=VC p->∃n,cost p=VC n:=by
 induction l with
 | nil=>intro c m h;cases h;simp
 | cons v l ih=>
  intro c m h;unfold sumS at h;cases hm:mkU f b v with
  | none=>
   rw[hm]at h;obtain⟨h1,h2⟩:=ih h;refine⟨by rw[h1];simp[hm],λw hw p hp=>?_⟩;rcases Sp.1 hw with rfl | hw
   ·rw[hm]at hp;cases hp
   exact h2 w hw p hp
  | some p=>
   rw[hm]at h;dsimp only at h;obtain⟨k,a1,rfl,a3,a4⟩:=(oI hb).1 hm;cases hc:cost (k:Int)with
   | none=>rw[hc]at h;cases h
   | some n=>
    rw[hc]at h;obtain⟨h1,h2⟩:=ih h;refine⟨by rw[h1];simp[hm,hc];omega,λw hw p hp=>?_⟩;rcases Sp.1 hw with rfl | hw
    ·rw[hm]at hp;cases hp;exact⟨n,hc⟩
    exact h2 w hw p hp
theorem yk(o:Okf f)(hb:b<f.blocks.length)(i:Nat)(pat:Int)(x:FitD)(hx:dx f b i pat=VC x)(v:Int)(hv:v∈x.takes)(p:Int)(hp:mkU f b v=VC p):p<i:=by
 have hi:i<=(nth f.blocks b).ins.length:=by
  unfold dx dV at hx;split at hx
  ·split at hx
   ·rename_i c;simp[de]at c;omega
   cases hx
  cases hx
 have io:=zl o.sm o.imm hb hi hx;obtain⟨k,a1,rfl,a3,rfl⟩:=(oI hb).1 hp;rcases io.from_ _ hv with h | ⟨u,hu,m,g1,g2,g3,g4,g5⟩
 ·have:=qk hb hi a1 a3 h;omega
 have:=qk (c:=m) hb V4 a1 a3 (by unfold ownP;rw[if_pos g1];exact g5);omega
theorem zh(hb:b<f.blocks.length)(v:Int)(hv:v∈(nth f.blocks b).term.args)(p:Int)(hp:mkU f b v=VC p):p<(nth f.blocks b).ins.length:=by obtain⟨k,a1,rfl,a3,rfl⟩:=(oI hb).1 hp;omega
theorem Dg(o:Okf f)(hb:b<f.blocks.length): ∀i≤(nth f.blocks b).ins.length,qT f b l (mkU f b) (cU f b l) i:=λi hi=>(BV (yk o hb) (zh hb) ((nth f.blocks b).ins.length+1)).2 i V4
def yj(f:ak)(b:Nat)(l:List aS)(i:Nat):Int:=((cU f b l).cost i).getD 0
def sV(l:List aS)(best:NMap)(i:Nat):Int:=match best i with | some t=>(nth l t.toNat).cost | none=>0
theorem zH(o:Okf f)(hb:b<f.blocks.length){i:Nat}(hi:i<=(nth f.blocks b).ins.length){c:Int}(hc:(cU f b l).cost i=VC c):
  yj f b l i=sV l (cU f b l).best i+((nw f b l (cU f b l).best i).map (yj f b l)).sum/\∀p∈nw f b l (cU f b l).best i,∃n,(cU f b l).cost (p:Int)=VC n:=by
 have h:=Dg (l:=l) o hb i hi;have key : ∀{cc:Int} {r:List Int},sumS (mkU f b) (cU f b l).cost cc r=VC c->kJ f b l (cU f b l).best i=r->cc=sV l (cU f b l).best i->
   yj f b l i=sV l (cU f b l).best i+((nw f b l (cU f b l).best i).map (yj f b l)).sum/\∀p∈nw f b l (cU f b l).best i,∃n,(cU f b l).cost (p:Int)=VC n:=by
  intro cc r hs ht hcc;obtain⟨h1,h2⟩:=Ng hb hs;refine⟨?_,λp hp=>?_⟩
  ·unfold yj;rw[hc];show c=_;rw[h1,hcc];unfold nw;rw[ht];try rfl
  unfold nw at hp;rw[ht]at hp;obtain⟨v,hv,e⟩:=Ue.1 hp;obtain⟨q,hq,rfl⟩:=Sc.1 e;obtain⟨k,a1,rfl,-⟩:=(oI hb).1 hq;simpa using h2 v hv _ hq
 unfold qT at h;by_cases cb:ko f b i=VG
 ·rw[if_pos cb]at h;rw[h.1]at hc;have en:i=(nth f.blocks b).ins.length:=by unfold ko at cb;simp at cb;exact cb.1
  refine key hc ?_ ?_
  ·unfold kJ;rw[h.2];dsimp only;rw[if_pos en]
  unfold sV;rw[h.2]
 rw[if_neg cb]at h;rcases h with⟨a1,-,-⟩ | ⟨n,j,a1,a2,a3,a4,-,-⟩
 ·rw[a1]at hc;cases hc
 rw[a2]at hc;cases hc;unfold wS at a4;cases hx:dx f b i (nth l j).pat with
 | none=>rw[hx]at a4;cases a4
 | some x=>
  rw[hx]at a4;refine key a4 ?_ ?_
  ·unfold kJ;rw[a3];dsimp only;rw[Sn,hx];rfl
  unfold sV;rw[a3];dsimp only;rw[Sn]
theorem zR(h:(eW l f).1=0):(jq l).1=0/\pG f=VG/\∀b i:Nat,b<f.blocks.length->i<=(nth f.blocks b).ins.length->pR f (whS f) b i=VG->canS f (hasS l) (whS f) (i+1) b i=true:=by
 unfold eW at h;split at h
 ·rename_i c;exact absurd h c
 rename_i c;split at h
 ·cases h
 rename_i c2;refine⟨Classical.byContradiction c,by simpa using c2,λb i hb hi hn=>?_⟩;cases hx:ou f (hasS l)with
 | some w=>rw[hx]at h;cases h
 | none=>unfold ou at hx;rw[List.findSome?_eq_none_iff]at hx;have:=hx b (by simpa using hb);rw[Option.map_eq_none_iff]at this;unfold xm at this;rw[List.find?_eq_none]at this;have:=this i Vt;unfold vR at this;simp only[Se,Tm,not_and,Bool.not_eq_false]at this;exact this hn
end
def eO(f:ak)(b:Nat)(l:List aS):List Nat:=(List.range ((nth f.blocks b).ins.length+1)).filter λi=>!inn8 f b l (i:Int)
def fQ(f:ak)(b:Nat)(l:List aS)(s:jn)(i:Nat):jn:=match (cU f b l).best i with
 | none=>layS f b i 0 s
 | some t=>layS f b i (nth l t.toNat).pat { s with cost:=s.cost+(nth l t.toNat).cost }
theorem A8{σ:Type}{g:Nat->σ->σ}{p:Nat->Bool}{s:σ} : ∀n,Lft.up (λi s=>if p i then s else g i s) n s=((List.range n).filter λi=>!p i).foldl (λs i=>g i s) s
 | 0=>rfl
 | n+1=>by show(if p n then _ else _)=_;rw[A8 n,TD,TL,SY];cases h:p n<;>simp[h]
theorem Fh{f:ak}{b:Nat}{l:List aS}{s:jn}:uI f l b s=(eO f b l).foldl (fQ f b l) { s with blk:=⟨(nth f.blocks b).phis,[],cT⟩ }:=by
 unfold uI eO;have e:mV f b l (cU f b l).best (inn8 f b l)=fun(i:Nat) s=>if inn8 f b l (i:Int) then s else fQ f b l s i:=by funext i s;unfold mV fQ;rfl
 rw[e];exact A8 (g:=λi s=>fQ f b l s i) (p:=λi=>inn8 f b l (i:Int)) _
theorem EF{f:ak}{b k i:Nat}{l:List aS}(h:(eO f b l)[k]? = VC i):i<=(nth f.blocks b).ins.length/\inn8 f b l (i:Int)=false:=by have:=SE h;unfold eO at this;rw[TQ,TA]at this;exact⟨by omega,by simpa using this.2⟩
theorem uj{β γ:Type}{f:β->γ->β}{l:List γ}{k:Nat}{x:γ}{b:β}(h:l[k]? = VC x):(l.take (k+1)).foldl f b=f ((l.take k).foldl f b) x:=by rw[UG,h,SY];rfl
theorem Bh{p:Nat->Bool} : ∀{n i:Nat},i<n->p i=VG->((List.range n).filter p)[((List.range i).filter p).length]? = VC i
 | 0,i,h,_=>absurd h (Tx _)
 | n+1,i,h,hp=>by
  rw[TD,TL];rcases Sb i n with h1 | h1
  ·have:=Bh h1 hp;rw[Ur (S7.1 this).1];exact this
  obtain rfl:i=n:=by omega
  rw[U3 (RX _),Uo,List.filter_cons_of_pos hp];rfl
theorem Gu{p:Nat->Bool}{i:Nat}:((List.range (i+1)).filter p).length=((List.range i).filter p).length+if p i then 1 else 0:=by rw[TD,TL,Sf];cases h:p i<;>simp[h]
open Go.MapKept
def two(a b:Int):Value:=.agg #[Vz VA a,Vz VA b]
section
variable{P:Program}{k t:TypeId}{w:World}
end
section
variable{po:OP}{pp:PP}{P:Program}{k t e:TypeId}{ty mt:TypeId}{us:List (Nat × Value)}{h:Heap}{K:Value->Heap->Prop}{r:Nat}{f:Int->Int->Option Value}
end
theorem Owns.turn{W:View}{h h':Heap}{o:Own}{r:Nat}{x x':Obj}(w:Owns W h o)(hr:W r=VC x)(hx : ∀c T fz,x≠.cells c T fz)(hr':h'[r]? = VC x')(hs:h'.size=h.size)(ho : ∀k,k≠r->h'[k]? = h[k]?):Owns (W.set r x') h' o:=by
 have hle:W.cf.le (W.set r x'):=λb y hb=>by
  unfold View.set;split
  ·rename_i e;subst e;unfold View.cf at hb;rw[hr]at hb;cases x<;>first | (exact absurd rfl (hx _ _ _)) | cases hb
  exact View.mX _ _ hb
 have hne : ∀{k i b},o k=VC i->i.v.ownBlock=VC b->b≠r:=λhk hb e=>by have:=w.av _ _ hk _ hb;rw[e,hr]at this;cases this
 refine⟨λb y hb=>?_,λk i hk=>?_,λk i hk b hb=>?_,w.dj⟩
 ·unfold View.set at hb;split at hb
  ·rename_i e;subst e;cases hb;exact hr'
  rename_i e;show h'[b]? = _;rw[ho b e];exact w.wle b y hb
 ·have h1:=w.own k i hk;have h2:@OwnT i.α i.rep (W.set r x') h i.e i.v i.l:=let ⟨b,xs,h1,h2⟩:=h1;⟨b,xs,h1,λj hj=>i.rep.mono hle (i.rep.cf (h2 j hj))⟩;exact @OwnT.same i.α i.rep _ _ _ _ _ _ h2 λb hb=>ho b (hne hk hb)
 unfold View.set;rw[if_neg (hne hk hb)];exact w.av k i hk b hb
section
open Go.MapKept Go.ChangeMaps
variable{po po2:OP}{pp:PP}
structure MV(d:TypeDesc)(W:View)(r:Nat)(f:Value->Option Value):Prop where
 ex : ∃es clock,W r=VC (.map es clock)/\(∀x∈es.toList,IsKey d x.key)/\Stamped es clock/\∀k v,IsKey d k->((∃x∈es.toList,x.key=k/\x.val=v)↔f k=VC v)
def Tn(rs:List Nat)(W W':View):Prop:=∀b,b∉rs->∀x,W b=VC x->W' b=VC x
section
variable{d:TypeDesc}{W W' W2 B:View}{h h':Heap}{r:Nat}{rs rs2:List Nat}{f g:Value->Option Value}{o:Own}
theorem MV.is(m:MV d W r f)(hw:W.le (vw h)):dh d h r f:=by obtain⟨es,c,h1,h2⟩:=m.ex;exact⟨es,c,hw _ _ h1,h2⟩
theorem MV.mono(m:MV d W r f)(hw:W.le W'):MV d W' r f:=by obtain⟨es,c,h1,h2⟩:=m.ex;exact⟨es,c,hw _ _ h1,h2⟩
theorem MV.tn(m:MV d W r f)(t:Tn rs W W')(hr:r∉rs):MV d W' r f:=by obtain⟨es,c,h1,h2⟩:=m.ex;exact⟨es,c,t _ hr _ h1,h2⟩
theorem MV.of(m:dh d h r f)(hw:W r=h[r]?):MV d W r f:=by obtain⟨es,c,h1,h2⟩:=m.ex;exact⟨es,c,by rw[hw];exact h1,h2⟩
theorem MV.N7(m:MV d W r f): ∃es c,W r=VC (.map es c):=by obtain⟨es,c,h1,_⟩:=m.ex;exact⟨es,c,h1⟩
theorem Tn.refl:Tn rs W W:=λ_ _ _ h=>h
theorem Tn.of_le(h:W.le W'):Tn rs W W':=λb _ x hx=>h b x hx
theorem Tn.trans(a:Tn rs W W')(b:Tn rs W' W2):Tn rs W W2:=λq hq x hx=>b q hq x (a q hq x hx)
theorem Tn.weak(a:Tn rs W W')(h : ∀b∈rs,b∈rs2):Tn rs2 W W':=λq hq x hx=>a q (λe=>hq (h q e)) x hx
theorem Tn.le(a:Tn rs W W')(h:B.le W)(hn : ∀b∈rs,B b=VD):B.le W':=λb x hx=>by
 by_cases e:b∈rs
 ·rw[hn b e]at hx;cases hx
 exact a b e x (h b x hx)
theorem Owns.lT{P:Program}{ty t:TypeId}{us:List (Nat × Value)}{K:Value->Heap->Prop}(w:Owns W h o)(hk : ∀h' W',W.le W'->(vw h).le (vw h')->Owns W' h' o->W h.size=VD->MV d W' h.size (λ_=>VD)->K (.map (VC h.size)) h'):step P (.makeMap t .none) ty us h K:=by refine lU ?_;have q:=b8 h (.map #[] 0);exact hk _ _ (bC w.wle) q (w.ext q) (View.bS w.wle (RX _)) (.of (h:=h.push (.map #[] 0)) (dh.none V5) (by rw[cg (RX _)]))
theorem Owns.nN{P:Program}{ty t k e:TypeId}{us:List (Nat × Value)}{K:Value->Heap->Prop}{x y q:Operand}{u v:Value}{op:Op}(w:Owns W h o)(m:MV d W r f)(hop:op = .mapUpdate t x y q\/op = .insert t x y q)(ht:P.underlying t=VC (.map k e))(hd:P.underlying k=VC d)(hx:asg us x = .map (VC r))(hy:asg us y=u)(hq:asg us q=v)(hu:IsKey d u)(hg:g u=VC v)(hg2 : ∀j,j≠u->g j=f j)(hK : ∀h' W',Owns W' h' o->MV d W' r g->Tn [r] W W'->h'.size=h.size->(∀b,b≠r->h'[b]? = h[b]?)->K undef h'):step P op ty us h K:=by refine kS hop ht hd hx hy hq hu (m.is w.wle) g hg hg2 λh' hs ho hm=>?_;obtain⟨es,c,h1⟩:=m.N7;obtain⟨es',c',h2,h3⟩:=hm.ex;have w':=w.turn h1 (λ_ _ _=>Obj.noConfusion) h2 hs ho;refine hK h' _ w' ⟨es',c',by unfold View.set;rw[if_pos rfl],h3⟩ (λb hb y hy=>?_) hs ho;unfold View.set;rw[if_neg (by simpa using hb)];exact hy
structure Ent(d:TypeDesc)(h:Heap)(r:Nat)(f:Value->Option Value)(u:Value)(st:Nat):Prop where
 ex : ∃(es:Array MapEntry) (clock j:Nat) (e:MapEntry),h[r]? = VC (.map es clock)/\(∀x∈es.toList,IsKey d x.key)/\Stamped es clock/\es[j]? = VC e/\e.born=st/\e.key=u/\∀k v,IsKey d k->k≠u->((∃x∈es.toList,x.key=k/\x.val=v)↔f k=VC v)
theorem find_born{l:List MapEntry}(hn:(l.map (·.born)).Nodup){j:Nat}{e0:MapEntry}(h:l[j]? = VC e0):l.findIdx? (λe=>((e.born:Nat):Int) == ((e0.born:Nat):Int))=VC j:=by
 induction l generalizing j with
 | nil=>simp at h
 | cons a r ih=>
  simp only[S8,T1]at hn;cases j with
  | zero=>simp only[List.getElem?_cons_zero,RW]at h;subst h;simp[List.findIdx?_cons]
  | succ j=>
   simp only[List.getElem?_cons_succ]at h;have hne:a.born≠e0.born:=λe1=>hn.1 (SZ.2 ⟨e0,SE h,e1.symm⟩);have hb:(((a.born:Nat):Int) == ((e0.born:Nat):Int))=false:=by simp only[beq_eq_false_iff_ne,ne_eq,Int.natCast_inj];exact hne
   rw[List.findIdx?_cons,hb];simp[ih hn.2 h]
theorem yw{P:Program}{ty t k e:TypeId}{us:List (Nat × Value)}{K:Value->Heap->Prop}{x y:Operand}{u z:Value}(ht:P.underlying t=VC (.map k e))(hd:P.underlying k=VC d)(hz:(P.info? e).map (·.zero)=VC (VC z))(hx:asg us x = .map (VC r))(hy:asg us y=u)(hu:IsKey d u)(m:dh d h r f)(hk : ∀h' v st,h'.size=h.size->(∀b,b≠r->h'[b]? = h[b]?)->Ent d h' r f u st->K (.tuple #[v,Vz VA (st:Nat)]) h'):step P (.mapEntry t x y) ty us h K:=by
 obtain⟨es,c,h1,h2,h3,h4⟩:=m.ex;simp only[Sc]at hz;obtain⟨i,hi,hz⟩:=hz;refine dr (cO λw hw=>?_);subst hw;have hz':(zeroValue e).run P w = .ok z w:=by simp[zeroValue,typeInfo,hi,hz]
 have set_ : ∀o',(∀b,b≠r->(w.heap.setIfInBounds r o')[b]? = w.heap[b]?)/\(w.heap.setIfInBounds r o')[r]? = VC o':=λo'=>⟨(MapKept.heap_set (o':=o') h1).2,(MapKept.heap_set (o':=o') h1).1⟩;rcases findNow_spec hu es.toList 0 h2 with⟨g1,g2⟩ | ⟨j,q,g1,g2,g3⟩
 ·refine⟨.tuple #[z,goInt c],{ w with heap:=w.heap.setIfInBounds r (.map (es.push { key:=u,val:=z,born:=c }) (c+1)) },?_,Same.pC rfl rfl rfl V5 h1 V5 (λk _ hne=>(set_ _).1 k hne),?_⟩
  ·simp only[bQ,execOp,hx,hy];simp[Instr.mapEntry,run_underlying ht,MapKept.run_getObj_map h1,MapKept.run_checkKey hd hu,MapKept.run_findKey hd g1,hz',MapKept.run_setObj_map _ h1,Result.andThen]
  refine hk _ z c V5 (set_ _).1 ⟨_,_,es.size,{ key:=u,val:=z,born:=c },(set_ _).2,?_,stamped_push h3 g2,by simp,rfl,rfl,λp v hp hne=>?_⟩
  ·intro x hx;simp only[UE,R1,RY]at hx;rcases hx with hx | rfl
   ·exact h2 x hx
   exact hu
  rw[<-h4 p v hp];constructor
  ·rintro⟨x,hx,e1,e2⟩;simp only[UE,R1,RY]at hx;rcases hx with hx | rfl
   ·exact⟨x,hx,e1,e2⟩
   exact absurd e1.symm hne
  rintro⟨x,hx,e⟩;exact⟨x,by simp[show x∈es from by simpa using hx],e⟩
 have hj:es[j]? = VC q:=by simpa using g2
 have hsame:es.modify j (λe=>{ e with key:=u })=es:=by
  apply Array.ext_getElem?;intro i;rw[TZ];by_cases e:j=i
  ·subst e;rw[if_pos rfl,hj];simp[<-g3]
  rw[if_neg e]
 refine⟨.tuple #[q.val,goInt q.born],{ w with heap:=w.heap.setIfInBounds r (.map es c) },?_,Same.pC rfl rfl rfl V5 h1 V5 (λk _ hne=>(set_ _).1 k hne),?_⟩
 ·simp only[bQ,execOp,hx,hy];simp[Instr.mapEntry,run_underlying ht,MapKept.run_getObj_map h1,MapKept.run_checkKey hd hu,MapKept.run_findKey hd g1,hj,g3,MapKept.run_keyThatStays hu,hsame,MapKept.run_setObj_map _ h1,Result.andThen]
 exact hk _ q.val q.born V5 (set_ _).1 ⟨es,c,j,q,(set_ _).2,h2,h3,hj,rfl,g3,λp v hp hne=>h4 p v hp⟩
theorem ue{P:Program}{ty t:TypeId}{us:List (Nat × Value)}{K:Value->Heap->Prop}{x s q:Operand}{u v:Value}{st:Nat}(hx:asg us x = .map (VC r))(hs:asg us s = Vz VA (st:Nat))(hq:asg us q=v)(m:Ent d h r f u st)(hg:g u=VC v)(hg2 : ∀j,j≠u->g j=f j)(hk : ∀h',h'.size=h.size->(∀b,b≠r->h'[b]? = h[b]?)->dh d h' r g->K undef h'):step P (.entryStore t x s q) ty us h K:=by
 obtain⟨es,c,j,e,h1,h2,h3,h4,h5,h6,h7⟩:=m.ex;refine dr (pO λw hw=>?_);subst hw;have hst:Stamped (es.modify j (λe'=>{ e' with val:=v })) c:=stamped_modify h3 _ _ (λ_ _=>rfl) (λe' _ he'=>rfl);have hj:es.toList[j]? = VC e:=by simpa using h4
 have hidx:es.findIdx? (λe=>((e.born:Nat):Int) == (st:Int))=VC j:=by have:=find_born h3.2.1 hj;rw[h5]at this;cases es;simpa using this
 have hget : ∀i y,(es.modify j (λe'=>{ e' with val:=v }))[i]? = VC y↔(i=j/\y={ e with val:=v })\/(i≠j/\es[i]? = VC y):=by
  intro i y;rw[TZ];by_cases hij:i=j
  ·subst hij;rw[if_pos rfl,h4];simp[eq_comm]
  rw[if_neg (Ne.symm hij)];simp[hij]
 have huniq : ∀i y,es[i]? = VC y->y.key=u->i=j:=by
  intro i y hy hk;have hnd:=h3.2.2;have e1:(es.toList.map (·.key))[i]? = VC u:=by simp[hy,hk]
  have e2:(es.toList.map (·.key))[j]? = VC u:=by simp[h4,h6]
  obtain⟨l1,q1⟩:=S7.1 e1;obtain⟨l2,q2⟩:=S7.1 e2;exact(List.getElem_inj hnd).1 (q1.trans q2.symm)
 refine⟨{ w with heap:=w.heap.setIfInBounds r (.map (es.modify j λe=>{ e with val:=v }) c) },?_,Same.pC rfl rfl rfl V5 h1 V5 (λk _ hne=>(MapKept.heap_set h1).2 k hne),hk _ V5 (MapKept.heap_set h1).2 ⟨_,_,(MapKept.heap_set h1).1,?_,hst,?_⟩⟩
 ·simp only[bQ,execOp,hx,hs,hq];simp[Instr.entryStore,MapKept.run_getObj_map h1,asInt,asIntOf,hidx,MapKept.run_setObj_map _ h1,Result.andThen]
 ·intro y hy;obtain⟨i,hi⟩:=TN hy;have hi:(es.modify j (λe'=>{ e' with val:=v }))[i]? = VC y:=by rw[S4]at hi;exact hi
  rcases(hget i y).1 hi with⟨_,rfl⟩ | ⟨_,g5⟩
  ·exact h2 e (SE hj)
  exact h2 y (SE (by simpa using g5))
 intro p val hp;constructor
 ·rintro⟨y,hy,e1,e2⟩;obtain⟨i,hi⟩:=TN hy;have hi:(es.modify j (λe'=>{ e' with val:=v }))[i]? = VC y:=by rw[S4]at hi;exact hi
  rcases(hget i y).1 hi with⟨_,rfl⟩ | ⟨g6,g5⟩
  ·have e1:e.key=p:=e1;have e2:v=val:=e2;rw[<-e1,h6,<-e2];exact hg
  have hne:p≠u:=λe=>g6 (huniq i y g5 (e1.trans e));rw[hg2 p hne];exact(h7 p val hp hne).1 ⟨y,SE (by simpa using g5),e1,e2⟩
 intro hv;by_cases hpu:p=u
 ·subst hpu;rw[hg]at hv;cases hv;refine⟨{ e with val:=v },SE (i:=j) ?_,h6,rfl⟩;rw[S4];exact(hget j _).2 (.inl ⟨rfl,rfl⟩)
 rw[hg2 p hpu]at hv;obtain⟨y,hy,e1,e2⟩:=(h7 p val hp hpu).2 hv;obtain⟨i,hi⟩:=TN hy;have hi':es[i]? = VC y:=by simpa using hi
 refine⟨y,SE (i:=i) ?_,e1,e2⟩;rw[S4];refine(hget i y).2 (.inr ⟨λe0=>?_,hi'⟩);subst e0;rw[h4]at hi';cases hi';exact hpu (e1.symm.trans h6)
theorem Owns.Kg(w:Owns W h o)(m:MV d W r f)(hs:h'.size=h.size)(ho : ∀b,b≠r->h'[b]? = h[b]?)(m':dh d h' r g): ∃W',Owns W' h' o/\MV d W' r g/\Tn [r] W W':=by obtain⟨es,c,e1⟩:=m.N7;obtain⟨es',c',e2,e3⟩:=m'.ex;refine⟨_,w.turn e1 (λ_ _ _=>Obj.noConfusion) e2 hs ho,⟨es',c',by unfold View.set;rw[if_pos rfl],e3⟩,λb hb y hy=>?_⟩;unfold View.set;rw[if_neg (by simpa using hb)];exact hy
end
end
end Go.Lft
namespace Go.Lft
theorem NF{t:db}{v:Value}{h:Heap}(hv:Rd (vw h) v t):ay VI 141 #[v] h (λu h'=>u = .bool (GN t)/\(vw h).le (vw h')):=by
 refine ao (args:=[v]) follows Tryz.func141 E.oU Vu λK hK=>?_;dsimp only[L.oU,lkF,lkG];refine aa λz hz=>?_;simp;refine eI rfl hv λh1 e1 hle1 hs1 at1=>?_;have k0:=(at1.part db.Cg).int;simp at k0;subst hz;have hb:GN t=(decide (t.kind=1)||decide (t.kind=4)||decide (t.kind=5)):=rfl;by_cases c1:t.kind=1
 ·simp[k0,c1];exact hK _ _ ⟨by rw[hb];simp[c1],hle1⟩
 by_cases c4:t.kind=4
 ·simp[k0,c4];exact hK _ _ ⟨by rw[hb];simp[c4],hle1⟩
 simp[k0,c1,c4];exact hK _ _ ⟨by rw[hb];simp[c1,c4],hle1⟩
theorem H6{mk cost:NMap}{c v:Int}{l:List Int}:sumS mk cost c (v::l)=match mk v with
  | none=>sumS mk cost c l
  | some p=>match cost p with
   | none=>VD
   | some n=>sumS mk cost (c+n) l:=rfl
def Pw(mk cost:NMap)(takes:List Int):Prop:=∀v∈takes,∀p,mk v=VC p->∀n,cost p=VC n->0<=n/\n<=1000000000
theorem Ki{C rm rc:Nat}{mk cost:NMap}{c:Int}{takes:List Int}{v:Value}{h:Heap}(x4:aq (vw h) ⟨C,4,VD⟩=VC (.map (VC rm)))(x5:aq (vw h) ⟨C,5,VD⟩=VC (.map (VC rc)))(mm:dh (.int .i64) h rm (mapI mk))(mc:dh (.int .i64) h rc (mapI cost))(hs:SlRd (vw h) v takes)(hc:0<=c/\c<=1000)(hco:Pw mk cost takes)(hl:takes.length<=30000):
  ay VI 142 #[ptz C,Vz VA c,v] h (λu h'=>h'=h/\u = .tuple #[Vz VA ((sumS mk cost c takes).getD 0),.bool (sumS mk cost c takes).isSome]):=by
 refine ao (args:=[ptz C,Vz VA c,v]) follows Tryz.func142 E.cC Vu λK hK=>?_;dsimp only[L.cC,lkF,lkG];refine aa λz hz=>?_;simp;subst hz;refine aa λz hz=>?_;simp[hs.len];refine aF [0,1,14,15,16] (fun(s:Int) k=>[ptz C,Vz VA s,v,Vz VA takes.length,Vz VA k])
  (λs k h2=>h2=h/\sumS mk cost c takes=sumS mk cost s (takes.drop k)/\0<=s/\s<=1000+(k:Int)*1000000000) takes.length c
  rfl V4 rfl ⟨rfl,rfl,hc.1,by omega⟩ (λ_ _=>rfl) (λv i h1 hk m=>by simp) ?_ ?_
 ·rintro s k h2 hk ⟨rfl,hsum,hs0,hs1⟩ K2 hK2;have q:=hs.idx1 (k:=.i64) (i:=(k:Int)) rfl V4 V4;have p:=hs.int Vw (i:=k) hk;simp at q p;rw[SD hk,<-az hk]at hsum;refine dc ?_;refine aa λy hy=>?_;simp[q,p];subst hy;refine aa λy hy=>?_;simp[x4];refine eo (f:=mapI mk) (z:=Vz VA 0) (k:=T.int) (e:=T.int) (d:=.int .i64) (r:=rm) (u:=Vz VA (nth takes k)) V0 V0 V0 rfl rfl cM mm ?_;have ew:IntKind.i64.wrap ((k:Int)+1)=((k+1:Nat):Int):=by rw[bj V4 V4];omega
  have ek:((k+1:Nat):Int)=(k:Int)+1:=by omega
  rw[H6]at hsum;cases hm:mk (nth takes k)with
  | none=>rw[hm]at hsum;simp[hm];subst hy;simp;exact hK2 s _ _ rfl rfl ⟨rfl,hsum,hs0,by rw[ek];omega⟩
  | some p=>
   rw[hm]at hsum;dsimp only at hsum;simp[hm];subst hy;refine aa λy hy=>?_;simp;subst hy;refine aa λy hy=>?_;simp[x5];refine eo (f:=mapI cost) (z:=Vz VA 0) (k:=T.int) (e:=T.int) (d:=.int .i64) (r:=rc) (u:=Vz VA p) V0 V0 V0 rfl rfl cM mc ?_;cases hp:cost p with
   | none=>rw[hp]at hsum;simp[hp];subst hy;simp;exact hK _ _ ⟨rfl,by rw[hsum];rfl⟩
   | some n=>rw[hp]at hsum;obtain⟨n0,n1⟩:=hco _ (bh hk) p hm n hp;have ew2:IntKind.i64.wrap (s+n)=s+n:=bj V4 V4;simp[hp];subst hy;simp[ew2];exact hK2 (s+n) _ _ rfl rfl ⟨rfl,hsum,by omega,by rw[ek];omega⟩
 rintro s h2 ⟨rfl,hsum,hs0,hs1⟩;rw[UJ (RX _)]at hsum;have hsum:sumS mk cost c takes=VC s:=hsum;simp;subst hz;simp;exact hK _ _ ⟨rfl,by rw[hsum];rfl⟩
structure Ch(W:View)(C rm rc rb:Nat)(f:ak)(b:Nat)(l:List aS):Prop where
 at_:At W ⟨C,0,VD⟩ f
 tl : ∃vl,aq W ⟨C,2,VD⟩=VC vl/\SlRd W vl l
 bk:aq W ⟨C,3,VD⟩=VC (Vz VA b)
 x4:aq W ⟨C,4,VD⟩=VC (.map (VC rm))
 x5:aq W ⟨C,5,VD⟩=VC (.map (VC rc))
 x6:aq W ⟨C,6,VD⟩=VC (.map (VC rb))
 sm:SmF f
 hb:b<f.blocks.length
 mem:iu
theorem Ch.mono{W W':View}{C rm rc rb:Nat}{f:ak}{b:Nat}{l:List aS}(c:Ch W C rm rc rb f b l)(hw:W.le W'):Ch W' C rm rc rb f b l:=by obtain⟨vl,t1,t2⟩:=c.tl;exact⟨c.at_.mono hw,⟨vl,ae hw t1,t2.mono hw⟩,ae hw c.bk,ae hw c.x4,ae hw c.x5,ae hw c.x6,c.sm,c.hb,c.mem⟩
set_option maxHeartbeats 1000000 in
theorem JM{C rm rc rb:Nat}{f:ak}{b i:Nat}{l:List aS}{best:NMap}{h:Heap}(c:Ch (vw h) C rm rc rb f b l)(mb:dh (.int .i64) h rb (mapI best))(hbest : ∀p t,best p=VC t->0<=t/\t<l.length)(hi:i<=(nth f.blocks b).ins.length)(hpat : ∀t∈l,I64 t.pat):
  ay VI 98 #[ptz C,Vz VA i] h (λu h'=>(vw h).le (vw h')/\SlRd (vw h') u (kJ f b l best i)):=by
 refine ao (args:=[ptz C,Vz VA i]) follows Tryz.func98 E.gx Vu λK hK=>?_;dsimp only[L.gx,lkF,lkG];obtain⟨-,vb,cb,sb⟩:=fh c.at_;have hbl:=c.hb;have hsm:=c.sm;have hlen:=hsm.len;have qb:=sb.idxn (k:=.i64) (N:=6) rfl (i:=(b:Int)) V4 V4;have n6:Rep.n BlkD=6:=rfl;obtain⟨ux,hux,rux⟩:=(sb.at hbl).ldN rfl (N:=6) rfl;have hux:=hux _ Vw;simp[n6]at qb hux;have bk:=c.bk;refine aa λz hz=>?_;simp;subst hz;refine aa λz hz=>?_;refine aN (vw h) Vw ?_;simp[cb,bk,qb,hux];have c0:=Cx.start (h:=h) (View.le_refl (vw h));refine c0.CD (α:=BlkD) Vw rux (n:=6) (z:=zz3) V0 rfl rfl V0 (λ_=>by rfl) (λ_=>by rfl) λB5 h1 W1 hW1 c1 at5 hle1=>?_;have at5:=at5.mono c1.wle;have c':=c.mono hle1;have mb:=mb.ext hle1;clear cb sb qb hux rux bk c1 hW1;obtain⟨vin,cin,sin⟩:=(at5.part BlkD.jm).list;obtain⟨vta,cta,sta⟩:=((at5.part BlkD.nh).part db.e9).list;simp at cin cta;obtain⟨uF,huF,rF⟩:=c'.at_.ldN rfl (N:=2) rfl;subst hz;refine aa λz hz=>?_;simp[c'.x6];refine eo (f:=mapI best) (z:=Vz VA 0) (k:=T.int) (e:=T.int) (d:=.int .i64) (r:=rb) (u:=Vz VA i) V0 V0 V0 rfl rfl cM mb ?_;unfold kJ at hK;cases hbi:best i with
 | some t=>
  rw[hbi]at hK;dsimp only at hK;obtain⟨t0,t1⟩:=hbest _ _ hbi;obtain⟨tn,rfl⟩:=S0 t0;rw[Sn]at hK;have ht:tn<l.length:=by omega
  obtain⟨vl,cl,sl⟩:=c'.tl;have ql:=sl.idxn (k:=.i64) (N:=2) rfl (i:=(tn:Int)) V4 V4;have n2:Rep.n aS=2:=rfl;have kp:=((sl.at ht).part aS.BI).int;rw[<-az ht]at kp;simp[n2]at ql kp;simp[hbi];subst hz;refine aa λz hz=>?_;refine dc ?_;refine aa λy hy=>?_;simp;subst hy;refine aV V7 ?_;refine aa λy hy=>?_;refine aN (vw h1) Vw ?_;simp[huF _ Vw,c'.bk,cl,ql,kp];refine ah V0 (D2 (b:=(b:Int)) (p:=(i:Int)) (pat:=(nth l tn).pat) (W:=vw h1) Vw rF hsm (λ_ _ _=>c.mem) (hpat _ (bh ht))) ?_;rintro _ h2 ⟨hle2,v1,v2,rfl,s1,s2⟩;simp;subst hy;simp;exact hK _ _ ⟨Vx hle1 hle2,s1⟩
 | none=>
  rw[hbi]at hK;dsimp only at hK;simp[hbi];subst hz;refine aa λz hz=>?_;refine dc ?_;refine aa λy hy=>?_;simp;subst hy;refine bg V7 ?_;by_cases ci:i=(nth f.blocks b).ins.length
  ·rw[if_pos ci]at hK;refine kz V7 ?_ ?_
   ·simp[cin,sin.len,ci];rw[az hbl]
   simp[cta];exact hK _ _ ⟨hle1,by rw[az hbl];exact sta⟩
  rw[if_neg ci]at hK;have ci2:¬i=f.blocks[b].ins.length:=by rw[<-az hbl];exact ci
  refine kq V7 ?_ ?_
  ·simp[cin,sin.len];omega
  try simp
  subst hz;simp;exact hK _ _ ⟨hle1,aL⟩
structure Mz(B W:View)(h:Heap)(o:Own)(rs:List Nat):Prop where
 own:Owns W h o
 le:B.le W
 no : ∀r∈rs,B r=VD
 lt : ∀r∈rs,r<h.size
section
variable{B W W':View}{h h':Heap}{o:Own}{rs:List Nat}{po po2:OP}
theorem Mz.wle(m:Mz B W h o rs):B.le (vw h):=Vx m.le m.own.wle
theorem Mz.ext(m:Mz B W h o rs)(hle:(vw h).le (vw h')):Mz (grow B h h') (grow W h h') h' o rs:=
 ⟨m.own.ext hle,λb x hb=>by
  unfold grow at hb ⊢;split at hb
  ·rename_i c;rw[if_pos c];exact m.le b x hb
  rename_i c;rw[if_neg c];exact hb,λr hr=>by rw[hZ (m.lt r hr)];exact m.no r hr,λr hr=>S2 (m.lt r hr) (bL hle)⟩
theorem Mz.up(m:Mz B W h o rs):B.le (grow B h h'):=bC m.wle
theorem Mz.upW(m:Mz B W h o rs):W.le (grow W h h'):=bC m.own.wle
theorem Mz.turn(m:Mz B W h o rs){r:Nat}(hr:r∈rs)(w:Owns W' h' o)(t:Tn [r] W W')(hs:h'.size=h.size):Mz B W' h' o rs:=
 ⟨w,t.le m.le λb hb=>by rw[RY.1 hb];exact m.no r hr,m.no,λq hq=>by rw[hs];exact m.lt q hq⟩
theorem Mz.more(m:Mz B W h o rs){r:Nat}(hn:B r=VD)(hl:r<h.size):Mz B W h o (r::rs):=
 ⟨m.own,m.le,λq hq=>by
  rcases Sp.1 hq with rfl | hq
  ·exact hn
  ·exact m.no q hq,λq hq=>by
  rcases Sp.1 hq with rfl | hq
  ·exact hl
  exact m.lt q hq⟩
end
theorem MJ{A B:View}{u:Value}{l:List Int}(s:SrcT A B u l):SrcT A nothing u l:=by obtain⟨a,c,h1,h2,news,h3,h4,h5⟩:=s;exact⟨a,c,h1,h2,news,h3,h4,λi hi=>h5 i hi⟩
theorem xB{v:Value}{l:List Int}{h:Heap}(hv:SlRd (vw h) v l)(hb:l.length<=1000000) :
  ay VI 52 #[v] h (λu h'=>(vw h).le (vw h')/\SlRd (grow nothing h h') u l):=by
 refine ao (args:=[v]) follows Tryz.func52 E.fK Vu λK hK=>?_;dsimp only[L.fK,lkF,lkG];have hv0:=hv;obtain⟨a,cap,rfl,g1,g2,g3⟩:=hv0;refine aa λz hz=>?_;simp;subst hz;refine aa λz hz=>?_;refine aa λy hy=>?_;simp;refine zM U.aZ rfl rfl ?_;subst hy;by_cases ha:a=VD
 ·subst ha;have hl:l=[]:=by
   rcases g3 with g3 | ⟨ad,g3,_⟩
   ·first | exact g3 | exact Ss (by simpa using g3)
   cases g3
  subst hl;simp;exact hK _ _ ⟨View.le_refl _,aL⟩
 have hi:a.isNone=false:=by cases a<;>simp at ha ⊢
 simp[hi];subst hz;refine aa λz hz=>?_;simp;refine qQ (α:=Int) El.aZ λh1 hle1 hs1 own1=>?_;have m1:=Mine.empty (V:=nothing) (W:=nothing) Vw hle1 (λ_ _ e=>nomatch e) (Old.refl _ _) own1;refine dA (α:=Int) (l:=[]) (l2:=l) El.aZ rfl rfl m1.own (MJ (hv.src hle1)) Vt Vt λv2 h2 own2 mv=>?_;have m2:=m1.gK own2 mv;subst hz;simp;refine hK _ _ ⟨m2.old,?_⟩;have:=m2.result;simpa using this
structure Cw(B W:View)(h:Heap)(o:Own)(C rm rc rb:Nat)(f:ak)(b:Nat)(l:List aS)(mk:NMap)(s:CB)(rs:List Nat):Prop where
 z:Mz B W h o rs
 ch:Ch B C rm rc rb f b l
 mm:MV (.int .i64) W rm (mapI mk)
 mc:MV (.int .i64) W rc (mapI s.cost)
 mb:MV (.int .i64) W rb (mapI s.best)
 ne:rm≠rc/\rm≠rb/\rc≠rb
 cin:rc∈rs
 bin:rb∈rs
section
variable{B W W':View}{h h':Heap}{o:Own}{C rm rc rb:Nat}{f:ak}{b:Nat}{l:List aS}{mk:NMap}{s:CB}{rs:List Nat}
theorem Cw.ext(c:Cw B W h o C rm rc rb f b l mk s rs)(hle:(vw h).le (vw h')):Cw (grow B h h') (grow W h h') h' o C rm rc rb f b l mk s rs:=
 ⟨c.z.ext hle,c.ch.mono c.z.up,c.mm.mono c.z.upW,c.mc.mono c.z.upW,c.mb.mono c.z.upW,c.ne,c.cin,c.bin⟩
theorem Cw.at_(c:Cw B W h o C rm rc rb f b l mk s rs):Ch (vw h) C rm rc rb f b l:=c.ch.mono c.z.wle
theorem Cw.m1(c:Cw B W h o C rm rc rb f b l mk s rs):dh (.int .i64) h rm (mapI mk):=c.mm.is c.z.own.wle
theorem Cw.m2(c:Cw B W h o C rm rc rb f b l mk s rs):dh (.int .i64) h rc (mapI s.cost):=c.mc.is c.z.own.wle
theorem Cw.m3(c:Cw B W h o C rm rc rb f b l mk s rs):dh (.int .i64) h rb (mapI s.best):=c.mb.is c.z.own.wle
end
theorem Cw.less{B W:View}{h:Heap}{o:Own}{C rm rc rb r:Nat}{f:ak}{b:Nat}{l:List aS}{mk:NMap}{s:CB}{rs:List Nat}(c:Cw B W h o C rm rc rb f b l mk s (r::rs))(h1:rc∈rs)(h2:rb∈rs):Cw B W h o C rm rc rb f b l mk s rs:=
 ⟨⟨c.z.own,c.z.le,λq hq=>c.z.no q (Sa _ hq),λq hq=>c.z.lt q (Sa _ hq)⟩,c.ch,c.mm,c.mc,c.mb,c.ne,h1,h2⟩
theorem yl{f:ak}{b:Nat}{l:List aS}{mk:NMap}{i:Nat}{s:CB}{j:Int}(h:j≠i) : ∀{k:Nat},(Lft.up (cI f b l mk i) k s).cost j=s.cost j
 | 0=>rfl
 | k+1=>by
  have ih:=yl (f:=f) (b:=b) (l:=l) (mk:=mk) (s:=s) h (k:=k);show(cI f b l mk i k (Lft.up (cI f b l mk i) k s)).cost j=_;generalize Lft.up (cI f b l mk i) k s=q at *;unfold cI;split
  ·exact ih
  split
  ·exact(if_neg h:putM q.cost i _ j=q.cost j).trans ih
  exact ih
theorem Cw.putC{B W W':View}{h h':Heap}{o:Own}{C rm rc rb:Nat}{f:ak}{b:Nat}{l:List aS}{mk:NMap}{s:CB}{rs:List Nat}{cost:NMap}(c:Cw B W h o C rm rc rb f b l mk s rs)(w:Owns W' h' o)(m:MV (.int .i64) W' rc (mapI cost))(t:Tn [rc] W W')(hs:h'.size=h.size):Cw B W' h' o C rm rc rb f b l mk ⟨cost,s.best⟩ rs:=
 ⟨c.z.turn c.cin w t hs,c.ch,c.mm.tn t (by simp[c.ne.1]),m,c.mb.tn t (by simp;exact λe=>c.ne.2.2 e.symm),c.ne,c.cin,c.bin⟩
theorem Cw.putB{B W W':View}{h h':Heap}{o:Own}{C rm rc rb:Nat}{f:ak}{b:Nat}{l:List aS}{mk:NMap}{s:CB}{rs:List Nat}{best:NMap}(c:Cw B W h o C rm rc rb f b l mk s rs)(w:Owns W' h' o)(m:MV (.int .i64) W' rb (mapI best))(t:Tn [rb] W W')(hs:h'.size=h.size):Cw B W' h' o C rm rc rb f b l mk ⟨s.cost,best⟩ rs:=
 ⟨c.z.turn c.bin w t hs,c.ch,c.mm.tn t (by simp[c.ne.2.1]),c.mc.tn t (by simp[c.ne.2.2]),m,c.ne,c.cin,c.bin⟩
def My(W:View)(o:Own)(C rm rc rb:Nat)(f:ak)(b:Nat)(l:List aS)(mk:NMap)(s:CB)(B:View)(rs:List Nat)(h':Heap):Prop:=
 ∃B' W',B.le B'/\Tn [rc,rb] W W'/\Cw B' W' h' o C rm rc rb f b l mk s rs
set_option maxHeartbeats 2000000 in
theorem KV{B W:View}{h:Heap}{o:Own}{C rm rc rb:Nat}{f:ak}{b i:Nat}{l:List aS}{mk:NMap}{s:CB}{rs:List Nat}(c:Cw B W h o C rm rc rb f b l mk s rs)(hi:i<=(nth f.blocks b).ins.length)(hco : ∀p:Int,p<i->∀n,s.cost p=VC n->0<=n/\n<=1000000000)(hah : ∀pat x,dx f b i pat=VC x->∀v∈x.takes,∀p,mk v=VC p->p<i)(hta : ∀v∈(nth f.blocks b).term.args,∀p,mk v=VC p->p<(nth f.blocks b).ins.length)(htl : ∀pat x,dx f b i pat=VC x->x.takes.length<=30000)(hcl : ∀t∈l,0<=t.cost/\t.cost<=1000)(hpat : ∀t∈l,I64 t.pat) :
  ay VI 97 #[ptz C,Vz VA i] h (λu h'=>My W o C rm rc rb f b l mk (plc8 f b l mk i s) B rs h'):=by
 refine ao (args:=[ptz C,Vz VA i]) follows Tryz.func97 E.bX Vu λK hK=>?_;dsimp only[L.bX,lkF,lkG];have cv:=c.at_;have hbl:=cv.hb;have hsm:=cv.sm;have hlen:=hsm.len;obtain⟨-,vb,cb,sb⟩:=fh cv.at_;have qb:=sb.idxn (k:=.i64) (N:=6) rfl (i:=(b:Int)) V4 V4;have n6:Rep.n BlkD=6:=rfl;obtain⟨ux,hux,rux⟩:=(sb.at hbl).ldN rfl (N:=6) rfl;have hux:=hux _ Vw;simp[n6]at qb hux;have bk:=cv.bk;refine aa λz hz=>?_;refine aN (vw h) Vw ?_;simp[cb,bk,qb,hux];have c0:=Cx.start (h:=h) (View.le_refl (vw h));refine c0.CD (α:=BlkD) Vw rux (n:=6) (z:=zz3) V0 rfl rfl V0 (λ_=>by rfl) (λ_=>by rfl) λB5 h1 W1 hW1 c1 at5 hle1=>?_;have at5:=at5.mono c1.wle;have cw1:=c.ext hle1;have hB1:=c.z.up (h':=h1);have hWW1:=c.z.upW (h':=h1);clear cb sb qb hux rux bk c1 hW1 cv;obtain⟨vin,cin,sin⟩:=(at5.part BlkD.jm).list;obtain⟨vta,cta,sta⟩:=((at5.part BlkD.nh).part db.e9).list;obtain⟨uT,huT,rT⟩:=(at5.part BlkD.nh).ldN rfl (N:=4) rfl;simp at cin cta huT;rw[<-az hbl]at sin sta rT;subst hz;refine aa λz hz=>?_;refine aa λy hy=>?_;have rest : ∀(h2:Heap) (B2 W2:View),B.le B2->W.le W2->Cw B2 W2 h2 o C rm rc rb f b l mk s rs->(vw h1).le (vw h2)->ko f b i=VH->
   ∀ρ,Slk ρ [(0,ptz C),(1,Vz VA i),(4,ptz B5)]->LC.wp VI z (dR [] K) ρ h2:=by
  intro h2 B2 W2 hB2 hW2 cw2 hle2 hbare ρ hS;rw[hz];have hres:plc8 f b l mk i s=Lft.up (cI f b l mk i) l.length s:=by unfold plc8;rw[if_neg (by rw[hbare];simp)]
  rw[hres]at hK;simp only[ff,gw,and_true]at hS;obtain⟨e0,e1,e4⟩:=hS;have bl:=(let ⟨_,_,s⟩:=cw2.ch.tl;s.bound:l.length<=140737488355328);refine aa λy hy=>?_;simp;refine cw2.z.own.lT (d:=.int .i64) λh3 W3 hW3 hle3 w3 hn3 m3=>?_;obtain⟨rf,hrf⟩ : ∃rf,rf=h2.size:=⟨_,rfl⟩;rw[<-hrf]at hn3 m3 ⊢;have hBn:B2 rf=none:=by
   cases hq:B2 rf with
   | none=>rfl
   | some x=>have:=cw2.z.le rf x hq;rw[hn3]at this;cases this
  have hne : ∀{q:Nat} {g:Value->Option Value},MV (.int .i64) W2 q g->q≠rf:=λm e=>by obtain⟨es,cl,h1⟩:=m.N7;rw[e,hn3]at h1;cases h1
  have n1:=hne cw2.mc;have n2:=hne cw2.mb;have n3:=hne cw2.mm;have cw3:Cw B2 W3 h3 o C rm rc rb f b l mk s (rf::rs):=⟨(⟨w3,Vx cw2.z.le hW3,cw2.z.no,λr hr=>S2 (cw2.z.lt r hr) (bL hle3)⟩:Mz B2 W3 h3 o rs).more hBn (m3.is w3.wle).lt,cw2.ch,cw2.mm.mono hW3,cw2.mc.mono hW3,cw2.mb.mono hW3,cw2.ne,Sa _ cw2.cin,Sa _ cw2.bin⟩;obtain⟨vl,cl,sl⟩:=cw3.ch.tl;subst hy;simp[af,ag,e0,e1,e4,ae cw3.z.wle cl,sl.len];refine aF [0,1,7,59,60,61] (fun(_:Unit) k=>[ptz C,Vz VA i,.map (VC rf),vl,Vz VA l.length,Vz VA k])
   (λ_ k h=>∃Bk Wk fits,B2.le Bk/\Tn [rc,rb,rf] W3 Wk/\Cw Bk Wk h o C rm rc rb f b l mk (Lft.up (cI f b l mk i) k s) (rf::rs)/\MV (.int .i64) Wk rf (mapE id fits)/\∀p v,fits p=VC v->∃x,dx f b i p=VC x/\SlRd Bk v x.takes) l.length ()
   V0 V4 (by simp[aY,af,ag,e0,e1,e4]) ⟨B2,W3,λ_=>VD,View.le_refl _,Tn.refl,cw3,by rw[mj];exact m3,λ_ _ h=>by cases h⟩ (λ_ _=>rfl) (λv i h1 hk m=>by simp) ?_ ?_
  ·rintro _ k h4 hk ⟨Bk,Wk,fits,lBk,tk,cwk,mf,hf⟩ K2 hK2;have hk:k<l.length:=hk;obtain⟨ut,hut,rut⟩:=sl.wh rfl (N:=2) rfl hk;have lh4:B2.le (vw h4):=Vx lBk cwk.z.wle;have qt:=(sl.mono lh4).idxn (k:=.i64) (N:=2) rfl (i:=(k:Int)) V4 V4;simp at qt;refine dc ?_;refine aa λy hy=>?_;simp[qt,hut _ lh4];refine cW (X:=Bk) (z:=zz1) V0 rfl V0 (rut.mono lBk) V8 V8 λh5 hle5 _ at5=>?_;have at5:=at5 (grow Bk h4 h5) cwk.z.up (cg (RX _));generalize h4.size=Tb at at5;have kp:aq (grow Bk h4 h5) ⟨Tb,0,VD⟩=VC (Vz VA (nth l k).pat):=by simpa using(at5.part aS.BI).int
   have kc:aq (grow Bk h4 h5) ⟨Tb,1,VD⟩=VC (Vz VA (nth l k).cost):=by simpa using(at5.part aS.C5).int
   have cw5:=cwk.ext hle5;have mf5:=mf.mono (cwk.z.upW (h':=h5));have hf5 : ∀p v,fits p=VC v->∃x,dx f b i p=VC x/\SlRd (grow Bk h4 h5) v x.takes:=λp v hv=>by obtain⟨x,h1,h2⟩:=hf p v hv;exact⟨x,h1,h2.mono cwk.z.up⟩
   have tk5:Tn [rc,rb,rf] W3 (grow Wk h4 h5):=tk.trans (Tn.of_le (cwk.z.upW (h':=h5)));have lB5:B2.le (grow Bk h4 h5):=Vx lBk (cwk.z.up (h':=h5));clear at5 hf mf hle5 rut hut qt tk;generalize grow Bk h4 h5=B5' at *;generalize grow Wk h4 h5=W5 at *;subst hy;have ew:IntKind.i64.wrap ((k:Int)+1)=((k+1:Nat):Int):=by rw[bj V4 V4];omega
   have hup:Lft.up (cI f b l mk i) (k+1) s=cI f b l mk i k (Lft.up (cI f b l mk i) k s):=rfl;have hcs : ∀p:Int,p<i->(Lft.up (cI f b l mk i) k s).cost p=s.cost p:=λp hp=>yl V4;generalize hsk:Lft.up (cI f b l mk i) k s=sk at *;refine aa λy hy=>?_;simp[ae cw5.z.wle kp];refine eo (f:=mapE id fits) (z:=VE VD 0 0) (k:=T.int) (e:=T.aZ) (d:=.int .i64) (r:=rf) (u:=Vz VA (nth l k).pat) V0 V0 V0 rfl rfl cM (mf5.is cw5.z.own.wle) ?_;simp;subst hy;refine aa λy hy=>?_;have cont : ∀(h6:Heap) (B6 W6:View) (fits6:Int->Option Value) (v:Value) (x:FitD) (ρ:Env),dx f b i (nth l k).pat=VC x->SlRd B6 v x.takes->B5'.le B6->Tn [rc,rb,rf] W3 W6->Cw B6 W6 h6 o C rm rc rb f b l mk sk (rf::rs)->MV (.int .i64) W6 rf (mapE id fits6)->
     (∀p v,fits6 p=VC v->∃x,dx f b i p=VC x/\SlRd B6 v x.takes)->Slk ρ [(0,ptz C),(1,Vz VA i),(7,.map (VC rf)),(8,Vz VA k),(9,ptz Tb),(10,v),(59,vl),(60,Vz VA l.length),(61,Vz VA k)]->
     LC.wp VI y (eY 1 (fL K2 (eY 0 (dR [] K)))) ρ h6:=by
    intro h6 B6 W6 fits6 v x ρ hx hv lB6 t6 cw6 mf6 hf6 hS;simp only[ff,gw,and_true]at hS;obtain⟨r0,r1,r7,r8,r9,r10,r59,r60,r61⟩:=hS;rw[hy];have hw:wS f b l mk sk.cost i k=sumS mk sk.cost (nth l k).cost x.takes:=by unfold wS;rw[hx];rfl
    have kc6:=ae (Vx lB6 cw6.z.wle) kc;obtain⟨hc0,hc1⟩:=hcl _ (bh hk);refine aa λw hw'=>?_;simp[r0,r9,r10,kc6];refine ah V0 (Ki cw6.at_.x4 cw6.at_.x5 cw6.m1 cw6.m2 (hv.mono cw6.z.wle) ⟨hc0,hc1⟩ (λv hv p hp n hn=>by have hlt:=hah _ x hx v hv p hp;rw[hcs p hlt]at hn;exact hco p hlt n hn) (htl _ x hx)) ?_;rintro _ h6 ⟨rfl,rfl⟩;rw[<-hw];simp[af,ag];rw[hw'];clear hw' w;refine aa λw hw'=>?_;simp[af,ag,r0,r1,cw6.at_.x5];refine eo (f:=mapI sk.cost) (z:=Vz VA 0) (k:=T.int) (e:=T.int) (d:=.int .i64) (r:=rc) (u:=Vz VA i) V0 V0 V0 rfl rfl cM cw6.m2 ?_;simp[af,ag];rw[hw'];clear hw' w;generalize hρ:setE _ 18 (Value.bool (sk.cost (i:Int)).isSome)=ρ2;have l0:Lft.look ρ2 0=VC (ptz C):=by rw[<-hρ];simp[af,ag,r0]
    have l1:Lft.look ρ2 1=VC (Vz VA i):=by rw[<-hρ];simp[af,ag,r1]
    have l7:Lft.look ρ2 7=VC (.map (VC rf)):=by rw[<-hρ];simp[af,ag,r7]
    have l8:Lft.look ρ2 8=VC (Vz VA k):=by rw[<-hρ];simp[af,ag,r8]
    have l59:Lft.look ρ2 59=VC vl:=by rw[<-hρ];simp[af,ag,r59]
    have l60:Lft.look ρ2 60=VC (Vz VA l.length):=by rw[<-hρ];simp[af,ag,r60]
    have l61:Lft.look ρ2 61=VC (Vz VA k):=by rw[<-hρ];simp[af,ag,r61]
    have l15:Lft.look ρ2 15=VC (Vz VA ((wS f b l mk sk.cost i k).getD 0)):=by rw[<-hρ];simp[af,ag]
    have l16:Lft.look ρ2 16=VC (.bool (wS f b l mk sk.cost i k).isSome):=by rw[<-hρ];simp[af,ag]
    have l17:Lft.look ρ2 17=VC (Vz VA ((sk.cost i).getD 0)):=by rw[<-hρ];simp[af,ag]
    have l18:Lft.look ρ2 18=VC (.bool (sk.cost i).isSome):=by rw[<-hρ];simp[af,ag]
    clear hρ r0 r1 r7 r8 r9 r10 r59 r60 r61 ρ;have skip:Lft.up (cI f b l mk i) (k+1) s=sk->∀ρ3,(∀q,q∈[0,1,7,59,60,61]->Lft.look ρ3 q=Lft.look ρ2 q)->K2 ρ3 h6:=λe ρ3 h3=>by refine hK2 () _ _ (by rw[h3 61 V5,l61]) ?_ ⟨B6,W6,fits6,Vx lB5 lB6,t6,by rw[e];exact cw6,mf6,hf6⟩;have:=λq hq=>h3 q hq;simp at this;obtain⟨a0,a1,a7,a59,a60,a61⟩:=this;simp[aY,af,a0,a1,a7,a59,a60,a61,l0,l1,l7,l59,l60,l61]
    cases hws:wS f b l mk sk.cost i k with
    | none=>
     rw[hws]at l15 l16;have e:cI f b l mk i k sk=sk:=by unfold cI;rw[hws]
     simp[l16,af,ag];exact skip (hup.trans e) _ (by simp[af,ag])
    | some n=>
     rw[hws]at l15 l16;simp at l15;refine aa λw hw'=>?_;have upd:zX n (sk.cost i)=VG->∀ρ3,Lft.look ρ3 125=VC (.bool VG)->(∀q,q∈[0,1,7,8,15,59,60,61]->Lft.look ρ3 q=Lft.look ρ2 q)->LC.wp VI w (eY 1 (fL K2 (eY 0 (dR [] K)))) ρ3 h6:=by
      intro hless ρ3 h125 h3;simp at h3;obtain⟨a0,a1,a7,a8,a15,a59,a60,a61⟩:=h3;rw[l0]at a0;rw[l1]at a1;rw[l7]at a7;rw[l8]at a8;rw[l15]at a15;rw[l59]at a59;rw[l60]at a60;rw[l61]at a61;rw[hw'];refine aV (by simp[h125]) ?_;refine aN B6 cw6.z.wle ?_;have hr1:B6 rc=none:=cw6.z.no rc cw6.cin;have hr2:B6 rb=none:=cw6.z.no rb cw6.bin;obtain⟨g1,g2⟩:=wm (f:=sk.cost) (g:=putM sk.cost i n) (j:=(i:Int)) (v:=n) (λ_=>rfl);obtain⟨g3,g4⟩:=wm (f:=sk.best) (g:=putM sk.best i (k:Int)) (j:=(i:Int)) (v:=(k:Int)) (λ_=>rfl);simp[ag,a0,a1,a8,a15,cw6.ch.x5,cw6.ch.x6];refine yw (d:=.int .i64) (r:=rc) (f:=mapI sk.cost) (u:=Vz VA i) (z:=Vz VA 0) (k:=T.int) (e:=T.int) V0 V0 V0 rfl rfl cM cw6.m2 λh7 v7 st7 hs7 ho7 en7=>?_;simp[af];refine ue (v:=Vz VA n) rfl rfl rfl en7 g1 g2 λh8 hs8 ho8 m8=>?_;obtain⟨W8,w8,mv8,t8⟩:=cw6.z.own.Kg cw6.mc (hs8.trans hs7) (λq hq=>(ho8 q hq).trans (ho7 q hq)) m8;have cw8:=cw6.putC w8 mv8 t8 (hs8.trans hs7);refine yw (d:=.int .i64) (r:=rb) (f:=mapI sk.best) (u:=Vz VA i) (z:=Vz VA 0) (k:=T.int) (e:=T.int) V0 V0 V0 rfl rfl cM cw8.m3 λh9 v9 st9 hs9 ho9 en9=>?_;simp[af,ag,a8,a15,a1];refine ue (v:=Vz VA k) rfl rfl rfl en9 g3 g4 λh10 hs10 ho10 m10=>?_;obtain⟨W10,w10,mv10,t10⟩:=cw8.z.own.Kg cw8.mb (hs10.trans hs9) (λq hq=>(ho10 q hq).trans (ho9 q hq)) m10;have cw10:=cw8.putB w10 mv10 t10 (hs10.trans hs9);have e:cI f b l mk i k sk=⟨putM sk.cost i n,putM sk.best i (k:Int)⟩:=by unfold cI;rw[hws];dsimp only;rw[if_pos hless]
      refine hK2 () _ _ (by simp[af,ag,a61]) (by simp[aY,af,ag,a0,a1,a7,a59,a60,a61]) ⟨B6,W10,fits6,Vx lB5 lB6,(t6.trans (t8.weak V5)).trans (t10.weak V5),by rw[hup,e];exact cw10,(mf6.tn t8 (by simp;exact λe=>n1 e.symm)).tn t10 (by simp;exact λe=>n2 e.symm),hf6⟩
     cases hc:sk.cost i with
     | none=>rw[hc]at l17 l18;simp[l15,l16,l17,l18,af,ag];exact upd (by rw[hc];rfl) _ (by simp[af,ag]) (by simp[af,ag])
     | some m=>
      rw[hc]at l17 l18;simp at l17;by_cases hlt:n<m
      ·simp[l15,l16,l17,l18,af,ag,hlt];exact upd (by rw[hc];simp[zX,hlt]) _ (by simp[af,ag]) (by simp[af,ag])
      have e:cI f b l mk i k sk=sk:=by unfold cI;rw[hws];dsimp only;rw[hc,if_neg (by simp[zX,hlt])]
      simp[l15,l16,l17,l18,af,ag,hlt];rw[hw'];simp[af,ag];exact skip (hup.trans e) _ (by simp[af,ag])
   cases hfi:fits (nth l k).pat with
   | some v=>obtain⟨x,hx,hv⟩:=hf5 _ _ hfi;simp;exact cont h5 B5' W5 fits v x _ hx hv Vw tk5 cw5 mf5 hf5 (by simp[ff,gw])
   | none=>
    simp;obtain⟨uF,huF,rF⟩:=cw5.ch.at_.ldN rfl (N:=2) rfl;refine aN B5' cw5.z.wle ?_;simp[huF _ Vw,cw5.ch.bk,kp];refine ah V0 (D2 (b:=(b:Int)) (p:=(i:Int)) (pat:=(nth l k).pat) (W:=B5') cw5.z.wle rF cw5.ch.sm (λ_ _ _=>cw5.ch.mem) (hpat _ (bh hk))) ?_;rintro _ h6 ⟨hle6,v1,v2,rfl,hv1,hv2⟩;have cw6:=cw5.ext hle6;have mf6:=mf5.mono (cw5.z.upW (h':=h6));have hf6 : ∀p v,fits p=VC v->∃x,dx f b i p=VC x/\SlRd (grow B5' h5 h6) v x.takes:=λp v hv=>by obtain⟨x,h1,h2⟩:=hf5 p v hv;exact⟨x,h1,h2.mono cw5.z.up⟩
    have tk6:Tn [rc,rb,rf] W3 (grow W5 h5 h6):=tk5.trans (Tn.of_le (cw5.z.upW (h':=h6)));have lB6:B5'.le (grow B5' h5 h6):=cw5.z.up;generalize grow B5' h5 h6=B6 at *;generalize grow W5 h5 h6=W6 at *;clear hle6 hv2;cases hm:dx f b i (nth l k).pat with
    | none=>
     simp[af,ag];have hw0:wS f b l mk sk.cost i k=none:=by unfold wS;rw[hm];rfl
     have e:cI f b l mk i k sk=sk:=by unfold cI;rw[hw0]
     refine hK2 () _ _ (by simp[af,ag]) (by simp[aY,af,ag]) ⟨B6,W6,fits,Vx lB5 lB6,tk6,by rw[hup,e];exact cw6,mf6,hf6⟩
    | some x=>
     rw[hm]at hv1;have hv1:SlRd (vw h6) v1 x.takes:=hv1;simp[af,ag];have hxl:=htl _ x hm;refine ah V0 (xB hv1 V4) ?_;rintro v7 h7 ⟨hle7,hv7⟩;have cw7:=cw6.ext hle7;have mf7:=mf6.mono (cw6.z.upW (h':=h7));have hv7:SlRd (grow B6 h6 h7) v7 x.takes:=hv7.mono λb x hb=>by
      unfold grow at hb ⊢;split at hb
      ·cases hb
      rename_i c;rw[if_neg c];exact hb
     simp[ae (Vx lB6 (Vx cw6.z.up cw7.z.wle)) kp];obtain⟨g1,g2⟩:=gX (enc:=(id:Value->Value)) (f:=fits) (j:=(nth l k).pat) (v:=v7);refine cw7.z.own.nN mf7 (.inl rfl) (t:=T.Dj) (k:=T.int) (e:=T.aZ) (u:=Vz VA (nth l k).pat) (v:=v7) V0 V0 rfl rfl rfl cM g1 g2 λh8 W8 w8 m8 t8 hs8 _=>?_;have cw8:Cw (grow B6 h6 h7) W8 h8 o C rm rc rb f b l mk sk (rf::rs):=⟨cw7.z.turn (Sg ..) w8 t8 hs8,cw7.ch,cw7.mm.tn t8 (by simp;exact n3),cw7.mc.tn t8 (by simp;exact n1),cw7.mb.tn t8 (by simp;exact n2),cw7.ne,cw7.cin,cw7.bin⟩;refine cont h8 _ W8 (putM fits (nth l k).pat v7) v7 x _ hm hv7 (Vx lB6 cw6.z.up) ((tk6.trans (Tn.of_le cw6.z.upW)).trans (t8.weak V5)) cw8 m8 (λp v hv=>?_) (by simp[ff,gw]);by_cases hp:p=(nth l k).pat
     ·subst hp;unfold putM at hv;rw[if_pos rfl]at hv;cases hv;exact⟨x,hm,hv7⟩
     unfold putM at hv;rw[if_neg hp]at hv;obtain⟨x2,q1,q2⟩:=hf6 p v hv;exact⟨x2,q1,q2.mono cw6.z.up⟩
  rintro _ h4 ⟨Bk,Wk,fits,lBk,tk,cwk,-,-⟩;simp;refine hK _ _ ⟨Bk,Wk,Vx hB2 lBk,λq hq x hx=>?_,cwk.less c.cin c.bin⟩;have hx2:=hW2 q x hx;refine tk q ?_ x (hW3 q x hx2);have:q≠rf:=λe=>by rw[e,hn3]at hx2;cases hx2
  simp at hq ⊢;exact⟨hq.1,hq.2,this⟩
 by_cases ci:i=(nth f.blocks b).ins.length
 ·simp[cin,sin.len,ci,huT _ Vw];refine ah V0 (NF rT) ?_;rintro _ h2 ⟨rfl,hle2⟩;have cw2:=cw1.ext hle2;cases hb:GN (nth f.blocks b).term with
  | true=>
   have hbare:ko f b i=true:=by unfold ko;simp[ci,hb]
   subst hy;refine aV V7 ?_;refine aa λy hy=>?_;simp[ae hle2 cta];have hal:=(hsm.blk b hbl).args;have lB:=Vx hB1 (cw1.z.up (h':=h2));have lW:=Vx hWW1 (cw1.z.upW (h':=h2));refine ah V0 (Ki cw2.at_.x4 cw2.at_.x5 cw2.m1 cw2.m2 (sta.mono hle2) V9 (λv hv p hp n hn=>hco p (by rw[ci];exact hta v hv p hp) n hn) V4) ?_;rintro _ h2 ⟨rfl,rfl⟩;cases hsum:sumS mk s.cost 0 (nth f.blocks b).term.args with
   | none=>rw[show plc8 f b l mk i s=s from by unfold plc8;rw[if_pos hbare,hsum]]at hK;simp;subst hy;simp;exact hK _ _ ⟨_,_,lB,Tn.of_le lW,cw2⟩
   | some n=>rw[show plc8 f b l mk i s=⟨putM s.cost i n,s.best⟩ from by unfold plc8;rw[if_pos hbare,hsum]]at hK;simp;subst hy;simp[cw2.at_.x5];obtain⟨g1,g2⟩:=wm (f:=s.cost) (g:=putM s.cost i n) (j:=(i:Int)) (v:=n) (λ_=>rfl);refine cw2.z.own.nN cw2.mc (.inl rfl) (t:=T.A7) (k:=T.int) (e:=T.int) (u:=Vz VA i) V0 V0 rfl (by rw[ci];rfl) rfl cM g1 g2 λh3 W3 w3 m3 t3 hs3 _=>?_;refine hK _ _ ⟨_,W3,lB,(Tn.of_le lW).trans (t3.weak V5),cw2.putC w3 m3 t3 hs3⟩
  | false=>
   have hbare:ko f b i=false:=by unfold ko;simp[hb]
   subst hy;simp;refine rest h2 _ _ (Vx hB1 cw1.z.up) (Vx hWW1 cw1.z.upW) cw2 hle2 hbare _ ?_;simp[ff,gw,ci]
 have hbare:ko f b i=false:=by unfold ko;simp[ci]
 have ci2:¬((i:Int)=((nth f.blocks b).ins.length:Int)):=by omega
 simp[cin,sin.len,ci2];subst hy;simp;refine rest h1 _ _ hB1 hWW1 cw1 Vw hbare _ ?_;simp[ff,gw]
section
variable{f:ak}{b:Nat}{l:List aS}
inductive Rch(f:ak)(b:Nat)(l:List aS)(best:NMap)(i:Nat):Nat->Prop
 | top:Rch f b l best i i
 | kid {j p:Nat}:Rch f b l best i j->p∈nw f b l best j->Rch f b l best i p
variable{best:NMap}
theorem Rch.le(o:Okf f)(hb:b<f.blocks.length){i j:Nat}(hi:i<=(nth f.blocks b).ins.length)(h:Rch f b l best i j):j<=i:=by
 induction h with
 | top=>exact RX _
 | kid _ hk ih=>have:=Jt o hb V4 hk;omega
theorem Rch.one(o:Okf f)(hb:b<f.blocks.length){i:Nat}(hi:i<=(nth f.blocks b).ins.length){r:Nat}(h:Rch f b l best i r):
  (∀s,Rch f b l best i s->r<(nth f.blocks b).ins.length->(nth (nth f.blocks b).ins r).op≠16->(nth (nth f.blocks b).ins r).dst∉innP f b l best s)\/∃q,Rch f b l best i q/\r∈nw f b l best q:=by
 cases h with
 | kid hj hk=>exact .inr ⟨_,hj,hk⟩
 | top=>refine .inl λs hs hlt h16 hin=>?_;have hsi:=hs.le o hb hi;have io:=oF (l:=l) (best:=best) o hb (show s<=_ by omega);obtain⟨m,g1,g2,g3,g4,-⟩:=io.made _ hin;have:=(G9 (io.fold _ hin) (dF hb g1) (dF hb hlt) (by rw[<-g4];exact qy g3) (qy h16)).2;have e:(m:Int)=(i:Int):=this;omega
open Classical in
theorem MP(o:Okf f)(hb:b<f.blocks.length){i:Nat}(hi:i<=(nth f.blocks b).ins.length){tc D:Nat->Int}(hD : ∀j,Rch f b l best i j->D j=tc j+((nw f b l best j).map D).sum):
  D i=(((List.range (i+1)).filter λp=>decide (Rch f b l best i p)).map tc).sum:=by
 have key:=KE (K:=i+1) (root:=λp=>decide (Rch f b l best i p)) (fold:=λp=>!decide (p=i)) (kids:=nw f b l best) (tc:=tc) (D:=D) (λp hp=>?_) (λj hj hr p hk=>?_) (λj hj _=>F4 o hb V4) (λj hj j' hj' r r' p h h'=>?_) (λj hj r=>hD j (by simpa using r))
 ·rw[key];have e:((List.range (i+1)).filter λp=>!!decide (p=i))=[i]:=by
   rw[TD,TL];have:(List.range i).filter (λp=>!!decide (p=i))=[]:=by
    rw[List.filter_eq_nil_iff];intro a ha;have:a<i:=by simpa using ha
    simp;omega
   rw[this];simp
  rw[e];simp
 ·simp only[decide_eq_true_eq,Bool.not_eq_false',Tm];constructor
  ·intro h;cases h with
   | top=>exact .inl V5
   | kid hj hk=>exact .inr ⟨_,by have:=hj.le o hb hi;omega,hj,hk⟩
  rintro(h | ⟨j,hj,h1,h2⟩)
  ·have:p=i:=by simpa using h
   subst this;exact .top
  exact .kid h1 h2
 ·have hr:Rch f b l best i j:=by simpa using hr
  have:=Jt o hb (show j<=_ by omega) hk;exact⟨by omega,by simp;omega⟩
 have r:Rch f b l best i j:=by simpa using r
 have r':Rch f b l best i j':=by simpa using r'
 obtain⟨v,hv,h1,h2,rfl⟩:=(wP hb).1 h;obtain⟨v',hv',_,_,rfl⟩:=(wP hb).1 h';obtain⟨c,hc,h3,-⟩:=qf o hb (show j<=_ by omega) (.inl hv);exact wU (R:=Rch f b l best i) o hb (λr h=>by have:=h.le o hb hi;omega) (λr h=>h.one o hb hi) ((nth f.blocks b).ins.length+1) (c:=c) V4 (sG h2).1 V4 h3 r r' (.inl hv) (.inl hv')
theorem FU(o:Okf f)(hb:b<f.blocks.length)(hl : ∀t∈l,0<=t.cost/\t.cost<=1000){i:Nat}(hi:i<=(nth f.blocks b).ins.length){c:Int}(hc:(cU f b l).cost i=VC c):0<=c/\c<=1000*((i:Int)+1):=by
 have some_ : ∀j,Rch f b l (cU f b l).best i j->∃n,(cU f b l).cost (j:Int)=VC n:=λj h=>by
  induction h with
  | top=>exact⟨c,hc⟩
  | kid hj hk ih=>obtain⟨n,hn⟩:=ih;exact(zH o hb (by have:=hj.le o hb hi;omega) hn).2 _ hk
 have h:=MP (l:=l) (best:=(cU f b l).best) o hb hi (tc:=sV l (cU f b l).best) (D:=yj f b l) λj hj=>by obtain⟨n,hn⟩:=some_ j hj;exact(zH o hb (by have:=hj.le o hb hi;omega) hn).1
 have e:yj f b l i=c:=by unfold yj;rw[hc];rfl
 rw[e]at h;have ht : ∀j,0<=sV l (cU f b l).best j/\sV l (cU f b l).best j<=1000:=λj=>by
  unfold sV;split
  ·rename_i t _;by_cases q:t.toNat<l.length
   ·exact hl _ (bh q)
   have:nth l t.toNat=⟨0,0⟩:=by unfold nth;simp[List.getD,SM (show l.length<=t.toNat by omega)];rfl
   rw[this];simp
  simp
 have bound : ∀r:List Nat,0<=(r.map (sV l (cU f b l).best)).sum/\(r.map (sV l (cU f b l).best)).sum<=1000*(r.length:Int):=λr=>by
  induction r with
  | nil=>simp
  | cons a r ih=>have:=ht a;simp;omega
 have q:=bound ((List.range (i+1)).filter λp=>@decide (Rch f b l (cU f b l).best i p) (Classical.propDecidable _));have hlen:((List.range (i+1)).filter λp=>@decide (Rch f b l (cU f b l).best i p) (Classical.propDecidable _)).length<=i+1:=by have:=UM (λp=>@decide (Rch f b l (cU f b l).best i p) (Classical.propDecidable _)) (List.range (i+1));simpa using this
 rw[h];exact⟨q.1,by omega⟩
theorem BJ{mk:NMap}{i:Nat}{s:CB}{j:Int}(h:j≠i):(plc8 f b l mk i s).cost j=s.cost j/\(plc8 f b l mk i s).best j=s.best j:=by
 unfold plc8;split
 ·split
  ·exact⟨rfl,rfl⟩
  exact⟨nH h,rfl⟩
 have : ∀k,(Lft.up (cI f b l mk i) k s).cost j=s.cost j/\(Lft.up (cI f b l mk i) k s).best j=s.best j:=λk=>by
  induction k with
  | zero=>exact⟨rfl,rfl⟩
  | succ k ih=>
   rw[up_add];generalize Lft.up (cI f b l mk i) k s=q at *;unfold cI;split
   ·exact ih
   split
   ·exact⟨(nH h).trans ih.1,(nH h).trans ih.2⟩
   exact ih
 exact this _
theorem AR{mk:NMap} : ∀{n d:Nat} {j:Int},j<n->(oB f b l mk (n+d)).cost j=(oB f b l mk n).cost j
 | n,0,j,_=>rfl
 | n,d+1,j,h=>by have e:oB f b l mk (n+(d+1))=plc8 f b l mk (n+d) (oB f b l mk (n+d)):=rfl;rw[e,(BJ V4).1];exact AR h
end
theorem HY{f:ak}{b i:Nat}{pat:Int}{x:FitD}(o:Okf f)(hb:b<f.blocks.length)(hx:dx f b i pat=VC x):x.takes.length<=30000:=by
 have hi:i<=(nth f.blocks b).ins.length:=by
  have hx:=hx;unfold dx dV at hx;split at hx
  ·split at hx
   ·rename_i c;simp[de]at c;omega
   cases hx
  cases hx
 obtain⟨m,hm⟩:=(zl o.sm o.imm hb hi hx).len;have sb:=o.sm.blk b hb;have arg : ∀k:Nat,(nth (nth f.blocks b).ins k).args.length<=10000:=λk=>by
  rcases Sb k (nth f.blocks b).ins.length with h | h
  ·exact sb.inn k h
  rw[bK h];exact Tv _
 have h1:=arg m;have h2:=arg i;have h3:=sb.args;split at hm<;>omega
abbrev ChoD:=Cat ak (Cat (List aS) (Cat Int (Cat Raw (Cat Raw Raw))))
set_option maxHeartbeats 2000000 in
theorem rJ{W:View}{h:Heap}{o:Own}{f:ak}{b:Nat}{l:List aS}{v vl:Value}(w:Owns W h o)(hv:Rd W v f)(hvl:SlRd W vl l)(hok:Okf f)(hM:iu)(hb:b<f.blocks.length)(hpat : ∀t∈l,I64 t.pat)(hcl : ∀t∈l,0<=t.cost/\t.cost<=1000):
  ay VI 49 #[v,vl,Vz VA b] h (λu h'=>∃C rm rc rb B' W',u = ptz C/\W.cf.le B'/\W.le W'/\Cw B' W' h' o C rm rc rb f b l (mkU f b) (cU f b l) [rb,rc,rm]):=by
 refine ao (args:=[v,vl,Vz VA b]) follows Tryz.func49 E.di Vu λK hK=>?_;dsimp only[L.di,lkF,lkG];have hsm:=hok.sm;have hlen:=hsm.len;refine aa λz hz=>?_;simp;refine w.vD (α:=ak) rfl hv λFb h1 W1 hW1 w1 atF hle1=>?_;subst hz;obtain⟨uF,huF,rF⟩:=atF.ldN rfl (N:=2) rfl;refine aa λz hz=>?_;simp[huF _ w1.wle];refine w1.lT (d:=.int .i64) λh2 W2 hW2 hle2 w2 hn2 mm2=>?_;generalize h1.size=rm at *;refine w2.lT (d:=.int .i64) λh3 W3 hW3 hle3 w3 hn3 mc3=>?_;generalize h2.size=rc at *;refine w3.lT (d:=.int .i64) λh4 W4 hW4 hle4 w4 hn4 mb4=>?_;generalize h3.size=rb at *;obtain⟨vb,rfl,ip,sb⟩:=JG rF;have hvl0:=hvl;obtain⟨va,vcap,rfl,-,-,-⟩:=hvl0;have hb64:I64 (b:Int):=V9;refine aA (z:=zz13) (places:=[(0,2),(2,1),(3,1),(4,1),(5,1),(6,1)]) (vs:=[(0,.agg #[Vz VA f.params,vb]),(1,.slice va l.length vcap),(2,Vz VA b),(3,.map (VC rm)),(4,.map (VC rc)),(5,.map (VC rb))]) (cs:=#[Vz VA f.params,vb,.slice va l.length vcap,Vz VA b,.map (VC rm),.map (VC rc),.map (VC rb)]) V0 V0 V5 V0 ?_;have sb4:=sb.mono (Vx hW2 (Vx hW3 hW4));have sl4:=hvl.mono (Vx hW1 (Vx hW2 (Vx hW3 hW4)));refine w4.vD (α:=ChoD) (d:=⟨f,l,(b:Int),⟨.map (VC rm)⟩,⟨.map (VC rc)⟩,⟨.map (VC rb)⟩⟩) rfl ⟨_,rfl,[Vz VA f.params,vb],[.slice va l.length vcap,Vz VA b,.map (VC rm),.map (VC rc),.map (VC rb)],rfl,⟨[_],[_],rfl,⟨rfl,ip⟩,⟨vb,rfl,sb4⟩⟩,[_],[_,_,_,_],rfl,⟨_,rfl,sl4⟩,[_],[_,_,_],rfl,⟨rfl,hb64⟩,[_],[_,_],rfl,⟨rfl,rfl⟩,[_],[_],rfl,⟨rfl,rfl⟩,⟨rfl,rfl⟩⟩ λC h5 W5 hW5 w5 at5 hle5=>?_;obtain⟨t1,at5⟩:=at5.cat;obtain⟨t2,at5⟩:=at5.cat;obtain⟨t3,at5⟩:=at5.cat;obtain⟨t4,at5⟩:=at5.cat;obtain⟨t5,t6⟩:=at5.cat;have t1:=t1.cf;have t2:=t2.cf.list;have t3:=t3.cf.int;have t4:=t4.cf.raw;have t5:=t5.cf.raw;have t6:=t6.cf.raw;have ch:Ch W5.cf C rm rc rb f b l:=⟨t1,t2,t3,t4,t5,t6,hsm,hb,hM⟩;have m1:=mm2.mono (Vx hW3 (Vx hW4 hW5));have m2:=mc3.mono (Vx hW4 hW5);have m3:=mb4.mono hW5;have e0:(mapI λ_=>VD)=λ_=>none:=by funext x;unfold mapI;split<;>rfl
 rw[<-e0]at m1 m2 m3;have lt : ∀{r:Nat} {g:Value->Option Value},MV (.int .i64) W5 r g->r<h5.size/\W5.cf r=none:=λm=>by obtain⟨es,cl,q⟩:=m.N7;exact⟨View.lt w5.wle q,by unfold View.cf;rw[q]⟩
 have ne_ : ∀{r r2:Nat} {X:View} {g:Value->Option Value},MV (.int .i64) X r g->X r2=VD->r≠r2:=λm q e=>by obtain⟨es,cl,q2⟩:=m.N7;rw[e,q]at q2;cases q2
 have cw5:Cw W5.cf W5 h5 o C rm rc rb f b l (λ_=>VD) ⟨λ_=>VD,λ_=>VD⟩ [rb,rc,rm]:=
  ⟨⟨w5,View.mX,by simp[(lt m1).2,(lt m2).2,(lt m3).2],by simp[(lt m1).1,(lt m2).1,(lt m3).1]⟩,ch,m1,m2,m3,⟨ne_ mm2 hn3,ne_ (mm2.mono hW3) hn4,ne_ mc3 hn4⟩,by simp,by simp⟩
 have hWB:W.cf.le W5.cf:=λq x hq=>by
  have hx:=Vx hW1 (Vx hW2 (Vx hW3 (Vx hW4 hW5))) q x (View.mX _ _ hq);unfold View.cf at hq ⊢;rw[hx];split at hq
  ·rename_i e;have:=Vx hW1 (Vx hW2 (Vx hW3 (Vx hW4 hW5))) q _ e;rw[hx]at this;cases this;exact hq
  cases hq
 have hW15:=Vx hW2 (Vx hW3 (Vx hW4 hW5));have hWW5:=Vx hW1 hW15;have atF:=atF.mono hW15;have nw0 : ∀r∈[rb,rc,rm],W r=none:=λr hr=>by
  cases q:W r with
  | none=>rfl
  | some x=>
   simp at hr;have q1:=hW1 r x q;have q2:=hW2 r x q1;have q3:=hW3 r x q2;rcases hr with rfl | rfl | rfl
   ·rw[hn4]at q3;cases q3
   ·rw[hn3]at q2;cases q2
   rw[hn2]at q1;cases q1
 clear mm2 mc3 mb4 hn2 hn3 hn4 t1 t2 t3 t4 t5 t6 ch m1 m2 m3 ne_ lt sb4 sl4 w4 w3 w2 w1 huF rF hle1 hle2 hle3 hle4 hle5 hW1 hW2 hW3 hW4 hW5 hW15 sb;obtain⟨-,vb5,cb,sb⟩:=fh atF;have cb:=ae w5.wle cb;have qb:=(sb.mono w5.wle).idxn (k:=.i64) (N:=6) rfl (i:=(b:Int)) V4 V4;have n6:Rep.n BlkD=6:=rfl;obtain⟨ux,hux,rux⟩:=(sb.at hb).ldN rfl (N:=6) rfl;have hux:=hux _ w5.wle;simp[n6]at qb hux;subst hz;refine aa λz hz=>?_;simp[cb,qb,hux];refine cW (X:=W5.cf) (z:=zz3) V0 rfl V0 rux.cf V8 V8 λh6 hle6 _ at6=>?_;have at6:=at6 (grow W5.cf h5 h6) cw5.z.up (cg (RX _));have cw6:=cw5.ext hle6;have hv6:=(hv.cf.mono hWB).mono (cw5.z.up (h':=h6));have hWB6:=Vx hWB (cw5.z.up (h':=h6));have hWW6:=Vx hWW5 (cw5.z.upW (h':=h6));have atF6:=atF.cf.mono (cw5.z.up (h':=h6));obtain⟨uF,huF,rF⟩:=atF6.ldN rfl (N:=2) rfl;clear cw5 hWB hWW5 hle6 atF qb hux rux cb sb;generalize h5.size=D at at6;generalize grow W5.cf h5 h6=B6 at *;generalize grow W5 h5 h6=W6 at *;obtain⟨vin,cin,sin⟩:=(at6.part BlkD.jm).list;simp at cin;rw[<-az hb]at sin;subst hz;refine aa λz hz=>?_;have cin6:=ae cw6.z.wle cin;simp[cin6,sin.len];have hil:(nth f.blocks b).ins.length<=140737488355328:=sin.bound;refine aF [3,7,8,26,27,28] (fun(_:Unit) k=>[ptz Fb,ptz C,ptz D,vin,Vz VA (nth f.blocks b).ins.length,Vz VA k])
  (λ_ k h=>∃Bk Wk,B6.le Bk/\W.le Wk/\Cw Bk Wk h o C rm rc rb f b l (Lft.up (ji f b) k λ_=>VD) ⟨λ_=>VD,λ_=>VD⟩ [rb,rc,rm]) (nth f.blocks b).ins.length ()
  V0 V4 (by simp[aY,af,ag]) ⟨B6,W6,View.le_refl _,hWW6,cw6⟩ (λ_ _=>rfl) (λv i h1 hk m=>by simp) ?_ ?_
 ·rintro _ k h7 hk ⟨Bk,Wk,lBk,lWk,cwk⟩ K2 hK2;have hk:k<(nth f.blocks b).ins.length:=hk;obtain⟨ut,hut,rut⟩:=sin.wh rfl (N:=5) rfl hk;have lh7:B6.le (vw h7):=Vx lBk cwk.z.wle;have qt:=(sin.mono lh7).idxn (k:=.i64) (N:=5) rfl (i:=(k:Int)) V4 V4;simp at qt;refine dc ?_;refine aa λy hy=>?_;simp[qt,hut _ lh7];refine cW (X:=Bk) (z:=zz5) V0 rfl V0 (rut.mono lBk) V8 V8 λh8 hle8 _ at8=>?_;have at8:=at8 (grow Bk h7 h8) cwk.z.up (cg (RX _));have cw8:=cwk.ext hle8;have lB8:=Vx lBk (cwk.z.up (h':=h8));have lW8:=Vx lWk (cwk.z.upW (h':=h8));generalize h7.size=Tb at at8;clear qt hut rut cwk lh7 hle8 lBk lWk;generalize grow Bk h7 h8=B8 at *;generalize grow Wk h7 h8=W8 at *;have pop:=ae cw8.z.wle (at8.part InsD.xG).int;have pdst:=ae cw8.z.wle (at8.part InsD.iG).int;have rdst:=(at8.part InsD.iG).rng;simp at pop pdst rdst;subst hy;refine aa λy hy=>?_;have hup:Lft.up (ji f b) (k+1) (λ_=>VD)=ji f b k (Lft.up (ji f b) k λ_=>VD):=rfl;generalize hm:Lft.up (ji f b) k (λ_=>VD)=m at *;have no_:kM f b k=VH->∀ρ,Slk ρ [(3,ptz Fb),(7,ptz C),(8,ptz D),(26,vin),(27,Vz VA (nth f.blocks b).ins.length),(28,Vz VA k)]->K2 ρ h8:=λhno ρ hS=>by
   simp only[ff,gw,and_true]at hS;obtain⟨r3,r7,r8,r26,r27,r28⟩:=hS;have e:ji f b k m=m:=by unfold ji;rw[if_neg (by rw[hno];simp)]
   refine hK2 () _ _ (by simp[r28]) (by simp[aY,af,ag,r3,r7,r8,r26,r27,r28]) ⟨B8,W8,lB8,lW8,by rw[hup,e];exact cw8⟩
  by_cases c16:(nth (nth f.blocks b).ins k).op=16
  ·have hno:kM f b k=false:=by unfold kM;simp[c16]
   simp[pop,c16];subst hy;simp;exact no_ hno _ (by simp[ff,gw])
  by_cases c18:(nth (nth f.blocks b).ins k).op=18
  ·have hno:kM f b k=false:=by unfold kM;simp[c18]
   simp[pop,c16,c18];subst hy;simp;exact no_ hno _ (by simp[ff,gw])
  simp[pop,c16,c18,pdst,huF _ (Vx lB8 cw8.z.wle)];refine ah V0 (ta (rF.mono (Vx lB8 cw8.z.wle)) hsm rdst) ?_;rintro _ h9 ⟨rfl,hle9⟩;have cw9:=cw8.ext hle9;have lB9:=Vx lB8 (cw8.z.up (h':=h9));have lW9:=Vx lW8 (cw8.z.upW (h':=h9));have pdst9:=ae hle9 pdst;generalize grow B8 h8 h9=B9 at *;generalize grow W8 h8 h9=W9 at *;subst hy;cases hfd:cJ f (nth (nth f.blocks b).ins k).dst with
  | false=>
   have hno:kM f b k=false:=by unfold kM;simp[hfd]
   have e:ji f b k m=m:=by unfold ji;rw[if_neg (by rw[hno];simp)]
   simp;refine hK2 () _ _ (by simp[af,ag]) (by simp[aY,af,ag]) ⟨B9,W9,lB9,lW9,by rw[hup,e];exact cw9⟩
  | true=>
   have hyes:kM f b k=true:=by unfold kM;simp[hfd,c16,c18]
   have e:ji f b k m=putM m (nth (nth f.blocks b).ins k).dst (k:Int):=by unfold ji;rw[if_pos hyes]
   obtain⟨g1,g2⟩:=wm (f:=m) (g:=putM m (nth (nth f.blocks b).ins k).dst (k:Int)) (j:=(nth (nth f.blocks b).ins k).dst) (v:=(k:Int)) (λ_=>rfl);refine aV V5 ?_;refine aN (vw h9) Vw ?_;simp[ag,cw9.at_.x4,pdst9];refine cw9.z.own.nN cw9.mm (.inl rfl) (t:=T.A7) (k:=T.int) (e:=T.int) (u:=Vz VA (nth (nth f.blocks b).ins k).dst) (v:=Vz VA k) V0 V0 rfl rfl rfl cM g1 g2 λh10 W10 w10 m10 t10 hs10 _=>?_;have cw10:Cw B9 W10 h10 o C rm rc rb f b l (putM m (nth (nth f.blocks b).ins k).dst (k:Int)) ⟨λ_=>VD,λ_=>VD⟩ [rb,rc,rm]:=⟨cw9.z.turn V5 w10 t10 hs10,cw9.ch,m10,cw9.mc.tn t10 (by simp;exact λe=>cw9.ne.1 e.symm),cw9.mb.tn t10 (by simp;exact λe=>cw9.ne.2.1 e.symm),cw9.ne,cw9.cin,cw9.bin⟩;refine hK2 () _ _ (by simp[af,ag]) (by simp[aY,af,ag]) ⟨B9,W10,lB9,t10.le lW9 (by simp;exact nw0 rm V5),by rw[hup,e];exact cw10⟩
 rintro _ h7 ⟨B7,W7,lB7,lW7,cw7⟩;have hmk:Lft.up (ji f b) (nth f.blocks b).ins.length (λ_=>VD)=mkU f b:=rfl;rw[hmk]at cw7;simp;subst hz;have cin7:=ae (Vx lB7 cw7.z.wle) cin;refine aa λz hz=>?_;have ew:IntKind.i64.wrap (((nth f.blocks b).ins.length:Int)+1)=(((nth f.blocks b).ins.length+1:Nat):Int):=by rw[bj V4 V4];omega
 simp[cin7,sin.len,ew];refine aF [7,58,59] (fun(_:Unit) k=>[ptz C,Vz VA ((nth f.blocks b).ins.length+1:Nat),Vz VA k])
  (λ_ k h=>∃Bk Wk,B6.le Bk/\W.le Wk/\Cw Bk Wk h o C rm rc rb f b l (mkU f b) (oB f b l (mkU f b) k) [rb,rc,rm]) ((nth f.blocks b).ins.length+1) ()
  V0 V4 (by simp[aY,af,ag]) ⟨B7,W7,lB7,lW7,cw7⟩ (λ_ _=>rfl) (λv i h1 hk m=>by simp) ?_ ?_
 ·rintro _ k h8 hk ⟨Bk,Wk,lBk,lWk,cwk⟩ K2 hK2;have hk:k<(nth f.blocks b).ins.length+1:=hk;refine dc ?_;refine aa λy hy=>?_;simp;subst hy;simp;refine ah V0 (KV (i:=k) cwk V4 ?_ ?_ ?_ ?_ hcl hpat) ?_
  ·intro p hp n hn;have hbl:=hsm.blk b hb;rcases Int.lt_or_le p 0 with c0 | c0
   ·have : ∀q:Nat,(oB f b l (mkU f b) q).cost p=none:=λq=>by
     induction q with
     | zero=>rfl
     | succ q ih=>exact((BJ V4).1).trans ih
    rw[this]at hn;cases hn
   obtain⟨q,rfl⟩:=S0 c0;have hs:=AR (f:=f) (b:=b) (l:=l) (mk:=mkU f b) (n:=k) (d:=(nth f.blocks b).ins.length+1-k) (j:=(q:Int)) hp;rw[show k+((nth f.blocks b).ins.length+1-k)=(nth f.blocks b).ins.length+1 by omega]at hs;have:=FU hok hb hcl (i:=q) V4 (c:=n) (hs.trans hn);have hl2:(nth f.blocks b).ins.length<=10000:=by have:=hbl.ins;omega
   omega
  ·exact λpat x hx v hv p hp=>yk hok hb k pat x hx v hv p hp
  ·exact λv hv p hp=>zh hb v hv p hp
  ·exact λpat x hx=>HY hok hb hx
  rintro _ h9 ⟨B9,W9,l9,t9,cw9⟩;have e:oB f b l (mkU f b) (k+1)=plc8 f b l (mkU f b) k (oB f b l (mkU f b) k):=rfl;exact hK2 () _ _ (by simp[af,ag]) (by simp[aY,af,ag]) ⟨B9,W9,Vx lBk l9,t9.le lWk (by simp;exact⟨nw0 rc V5,nw0 rb V5⟩),by rw[e];exact cw9⟩
 rintro _ h8 ⟨B8,W8,lB8,lW8,cw8⟩;simp;subst hz;simp;exact hK _ _ ⟨C,rm,rc,rb,B8,W8,rfl,Vx hWB6 lB8,lW8,cw8⟩
section
variable{po po2 po3:OP}{pp:PP}
structure Aside(X:View)(h:Heap)(o:Own):Prop where
 le:X.le (vw h)
 av : ∀k i,o k=VC i->Av X i.v
structure Held(n:Nat)(X Y:View)(h:Heap)(o:Own):Prop where
 own:Owns Y h o
 asd:Aside X h o
 nl:n<=h.size
 lo : ∀b,b<n->∀x,Y b=VC x->X b=VC x
 hi : ∀b,n<=b->∀x,Y b=VC x->X b=VD
section
variable{n:Nat}{X X' Y:View}{h h':Heap}{o:Own}{k:Key}
theorem Held.start(w:Owns Y h o):Held h.size Y Y h o:=
 ⟨w,⟨w.wle,w.av⟩,RX _,λ_ _ _ h=>h,λb hb x hx=>by have:=View.lt w.wle hx;omega⟩
theorem Held.move(w:Held n X Y h o)(h1 : ∀b,b<n->X' b=X b)(h2:X'.le (vw h'))(h3 : ∀b,X b=VD->b<h.size->h'[b]? = h[b]?/\X' b=VD)(h4:h.size<=h'.size):Held n X' Y h' o:=by
 have own : ∀k i,o k=VC i->∀b,i.v.ownBlock=VC b->h'[b]? = h[b]?/\X' b=none:=λk i hk b hb=>h3 b (w.asd.av k i hk b hb) (w.own.lt hk hb);refine⟨⟨λb x hx=>?_,λk i hk=>?_,w.own.av,w.own.dj⟩,⟨h2,λk i hk b hb=>(own k i hk b hb).2⟩,St w.nl h4,λb hb x hx=>?_,λb hb x hx=>(h3 b (w.hi b hb x hx) (View.lt w.own.wle hx)).2⟩
 ·rcases Sb b n with hb | hb
  ·exact h2 b x (by rw[h1 b hb];exact w.lo b hb x hx)
  exact((h3 b (w.hi b hb x hx) (View.lt w.own.wle hx)).1).trans (w.own.wle b x hx)
 ·exact @OwnT.same i.α i.rep _ _ _ _ _ _ (w.own.own k i hk) λb hb=>(own k i hk b hb).1
 rw[h1 b hb];exact w.lo b hb x hx
theorem Held.yD{P:View->Own->Prop}:oN n (λX h=>∃Y o,Held n X Y h o/\P Y o):=
 ⟨λ⟨Y,o,w,_⟩=>w.asd.le,λ⟨Y,o,w,p⟩ h1 h2 h3 h4=>⟨Y,o,w.move h1 h2 h3 h4,p⟩⟩
theorem Held.ext(w:Held n X Y h o)(hle:(vw h).le (vw h')):Held n X (grow Y h h') h' o:=
 ⟨w.own.ext hle,⟨Vx w.asd.le hle,w.asd.av⟩,St w.nl (bL hle),λb hb x hx=>by
  unfold grow at hx;rw[if_pos (S2 hb w.nl)]at hx;exact w.lo b hb x hx,λb hb x hx=>by
  unfold grow at hx;split at hx
  ·exact w.hi b hb x hx
  exact View.bS w.asd.le V4⟩
theorem Held.ext'(w:Held n X Y h o)(hle:(vw h).le (vw h')):Held n X Y h' o:=
 ⟨w.own.ext' hle,⟨Vx w.asd.le hle,w.asd.av⟩,St w.nl (bL hle),w.lo,w.hi⟩
theorem Held.sub{o':Own}(w:Held n X Y h o)(hs : ∀k i,o' k=VC i->o k=VC i):Held n X Y h o':=
 ⟨w.own.sub hs,⟨w.asd.le,λk i hk=>w.asd.av k i (hs k i hk)⟩,w.nl,w.lo,w.hi⟩
theorem Held.gK{i:Item}{β:Type}[rb:Rep β]{e2:TypeId}{v':Value}{l':List β}(w:Held n X Y h o)(hk:o k=VC i)(o2:OwnT Y h' e2 v' l')(m:lO h h' i.v v'):Held n X Y h' (o.upd k (it e2 v' l')):=by
 obtain⟨m1,m2⟩:=m.view w.asd.le (w.asd.av k i hk);refine⟨w.own.gK hk o2 m,⟨m1,λj x hj=>?_⟩,St w.nl m.kept.size,w.lo,w.hi⟩;unfold Own.upd at hj;split at hj
 ·cases hj;exact m2
 exact w.asd.av j x hj
theorem Held.add{β:Type}[rb:Rep β]{e2:TypeId}{v':Value}{l':List β}(w:Held n X Y h o)(hk:o k = .none)(o2:OwnT Y h' e2 v' l')(hle:(vw h).le (vw h'))(hb : ∀b,v'.ownBlock=VC b->h.size<=b):Held n X Y h' (o.upd k (it e2 v' l')):=by
 refine⟨w.own.add hk o2 hle hb,⟨Vx w.asd.le hle,λj x hj=>?_⟩,St w.nl (bL hle),w.lo,w.hi⟩;unfold Own.upd at hj;split at hj
 ·cases hj;exact λb hb'=>View.bS w.asd.le (hb b hb')
 exact w.asd.av j x hj
theorem Held.qz{P:Program}{ty:TypeId}{us:List (Nat × Value)}{t ty2:TypeId}{α:Type}[Rep α]{m:Nat}{z u:Value}{d:α}{x y:Operand}{us2:Value->List (Nat × Value)}{K:Value->Heap->Prop}(w:Held n X Y h o)(hk:o k=VD)(hr:Rd Y u d)(hN:Rep.n α=m)(hz:(P.info? t).map (·.zero)=VC (VC z))(hzc:z.cells.size=m)(hsz:da P t=VC m)(hn:m<=1000)(hx : ∀p,asg (us2 p) x=p)(hy : ∀p,asg (us2 p) y=u)(hK : ∀h':Heap,(vw h).le (vw h')->Held n X Y h' (o.upd k (bx t h.size d))->K (ptz h.size) h'):
  @step po P (.alloc t) ty us h λp h2=>@step po2 P (.store t x y) ty2 (us2 p) h2 λ_ h3=>K p h3:=by subst hN;obtain⟨c1,c2,c3⟩:=gn hr;exact gA (v:=u) hz hzc hsz (by simpa using c2) c3 hx hy λh' hle hs hb=>hK h' hle (w.add hk (iL (d:=d) hb hr hn) hle λb hb=>by simp only[Value.ownBlock,RW]at hb;omega)
theorem Held.cz{P:Program}{ty:TypeId}{us:List (Nat × Value)}{α β:Type}[r:Rep α][Rep β]{e:TypeId}{off:Nat}{g:α->β}{s:α->β->α}(p:Part α β off g s){t:TypeId}{x y:Operand}{B:Nat}{D:α}{u:Value}{d:β}{K:Value->Heap->Prop}(w:Held n X Y h o)(hk:o k=bx e B D)(hsz:da P t=VC (Rep.n β))(hx:asg us x = VF (VC ⟨B,off,.none⟩))(hy:asg us y=u)(hr:Rd Y u d)(hK : ∀h',Held n X Y h' (o.upd k (bx e B (s D d)))->K undef h'):@step po P (.store t x y) ty us h K:=
 CQ (po:=po) p (v:=VE (VC ⟨B,0,.none⟩) 1 1) (l:=[D]) (i:=0) hsz (by rw[hx];simp[slA,Addr.z]) hy (w.own.get (k:=k) (v:=VE (VC ⟨B,0,.none⟩) 1 1) (l:=[D]) hk) V5 hr λh' hs o2 m=>hK h' (w.gK hk o2 m)
theorem Held.bJ{P:Program}{ty:TypeId}{us:List (Nat × Value)}{α:Type}[r:Rep α]{e:TypeId}{v:Value}{l:List α}{t:TypeId}{x y:Operand}{i:Nat}{u:Value}{d:α}{K:Value->Heap->Prop}(w:Held n X Y h o)(hk:o k=it e v l)(hsz:da P t=VC (Rep.n α))(hx:asg us x = VF (VC ((slA v).add (i*Rep.n α))))(hy:asg us y=u)(hi:i<l.length)(hr:Rd Y u d)(hK : ∀h',Held n X Y h' (o.upd k (it e v (l.set i d)))->K undef h'):@step po P (.store t x y) ty us h K:=
 uR (po:=po) hsz hx hy (w.own.get hk) hi hr λh' o2 m=>hK h' (w.gK hk o2 m)
theorem Held.fW{P:Program}{ty:TypeId}{us:List (Nat × Value)}{α:Type}[r:Rep α]{e:TypeId}{v:Value}{l:List α}{t ty2:TypeId}{bytes:Nat}{z:Value}{x y y2:Operand}{us2:Value->List (Nat × Value)}{u:Value}{d:α}{K:Value->Value->Heap->Prop}(w:Held n X Y h o)(hk:o k=it e v l)(hT:eU P t e (Rep.n α) bytes z)(hx:asg us x=u)(hr:Rd Y u d)(hb:(l.length+1)*bytes<=140737488355328)(hb2:l.length+1<=140737488355328)(hy : ∀u,asg (us2 u) y=v)(hy2 : ∀u,asg (us2 u) y2=u)(hK : ∀u v' h',Held n X Y h' (o.upd k (it e v' (l++[d])))->K u v' h'):
  @step po P (.buildSlice t 1 #[(0,x)]) ty us h λu h2=>@step po2 P (.call ⟨.builtin .append,#[y,y2],#[t,t]⟩) ty2 (us2 u) h2 λv' h3=>K u v' h3:=by refine ni (po:=po) hT hx hr λu h2 hs hle hsz=>?_;have w2:=w.ext' hle;exact Lft.dA hT (hy u) (hy2 u) (w2.own.get hk) hs hb hb2 λv' h' o2 m=>hK u v' h' (w2.gK hk o2 m)
end
theorem oh.cf{n:Nat}{h h':Heap}(hs:oh n h h'):(vw h).cf.le (vw h'):=λb o hb=>by
 have h1:=View.mX _ _ hb;have h1:h[b]? = VC o:=h1;show h'[b]? = VC o;rw[hs.same b (.inr λe=>?_)]
 ·exact h1
 rw[h1]at e;cases e;unfold View.cf at hb;have e2:(vw h) b=VC (.deferred (VC [])):=h1;rw[e2]at hb;cases hb
theorem Owns.ldB{W:View}{h:Heap}{o:Own}{k:Key}{α:Type}[r:Rep α]{e:TypeId}{B:Nat}{d:α}(w:Owns W h o)(hk:o k=bx e B d)(ha:Rep.agg α=VG){N:Nat}(hn:Rep.n α=N): ∃u,Un.ev (vw h) (.bI N) (ptz B)=VC u/\Rd W u d:=by
 subst hn;obtain⟨cs,h1,h2⟩:=w.atW hk;have hl:=Rep.len h2;refine⟨.agg cs.toArray,?_,?_⟩
 ·have:=gm h1 (Rep.n α) 0 #[] V4;simp only[Un.ev,vP,SA];rw[this];simp[<-hl]
 unfold Rd;rw[if_pos ha];exact⟨_,rfl,by simpa using h2⟩
end
structure zm(n:Nat)(x:FitD):Prop where
 code:x.code.length<=2
 args : ∀m∈x.code,m.args.length<=n
 tos:(EndD.to x.fin).length<=n
theorem td{i:InsD}{op plain:Int}{m:aU}:(gM i op plain m).args=m.args:=by
 unfold gM;repeat' split
 all_goals rfl
theorem HC{f:ak}{i:InsD}{m lo hi sg:Int}{x:FitD}{n:Nat}(h:immS f i m lo hi sg=VC x):zm n x:=by
 unfold immS at h;split at h
 ·cases h;exact⟨by simp,by simp,by simp[cT]⟩
 cases h
variable{temp:Int}
theorem OS{f:ak}{i:InsD}{op plain sum:Int}{k:Nat}{x:FitD}{n:Nat}(h:memS f i temp op plain sum k=VC x):zm n x:=by
 match k with
 | 0=>simp only[memS]at h;split at h<;>cases h;exact⟨by simp,by simp[td],by simp[cT]⟩
 | 1=>
  simp only[memS]at h;split at h
  ·split at h<;>cases h;exact⟨by simp,by simp[td],by simp[cT]⟩
  cases h
 | 2=>simp only[memS]at h;split at h<;>cases h;exact⟨by simp,by simp[td],by simp[cT]⟩
 | k+3=>simp only[memS]at h;cases h;exact⟨by simp,by simp[td],by simp[cT]⟩
theorem RC{f:ak}{i:InsD}{p:Nat}{x:FitD}{n:Nat}(hi:i.args.length<=n)(h:doS f i temp p=VC x):zm n x:=by
 unfold doS at h;by_cases p1:p=1
 ·rw[if_pos p1]at h;split at h
  ·cases h;exact⟨by simp,by simp,by simp[cT]⟩
  cases h
 rw[if_neg p1]at h;by_cases p2:p=2
 ·rw[if_pos p2]at h;cases h;exact⟨by simp,by simp,by simp[cT]⟩
 rw[if_neg p2]at h;by_cases p15:p<=15
 ·rw[if_pos p15]at h;cases h;exact⟨by simp,by simp,by simp[cT]⟩
 rw[if_neg p15]at h;by_cases p16:p=16
 ·rw[if_pos p16]at h;exact HC h
 rw[if_neg p16]at h;by_cases p17:p=17
 ·rw[if_pos p17]at h;exact HC h
 rw[if_neg p17]at h;by_cases p18:p=18
 ·rw[if_pos p18]at h;exact HC h
 rw[if_neg p18]at h;by_cases p21:p<=21
 ·rw[if_pos p21]at h;exact HC h
 rw[if_neg p21]at h;by_cases p22:p=22
 ·rw[if_pos p22]at h;split at h
  ·cases h;exact⟨by simp,by simp,by simp[cT]⟩
  cases h
 rw[if_neg p22]at h;by_cases p26:p<=26
 ·rw[if_pos p26]at h;exact OS h
 rw[if_neg p26]at h;by_cases p30:p<=30
 ·rw[if_pos p30]at h;exact OS h
 rw[if_neg p30]at h;by_cases p31:p=31
 ·rw[if_pos p31]at h;cases h;exact⟨by simp,by simpa using hi,by simp[cT]⟩
 rw[if_neg p31]at h;cases h;exact⟨by simp,by simp,by simp[cT]⟩
variable{pat:Int}
theorem QG{f:ak}{t:db}{x:FitD}{n:Nat}(hi:t.to.length<=n)(h:gz f t pat=VC x):zm n x:=by
 unfold gz at h;repeat' split at h
 all_goals first | (cases h;exact⟨by simp,by simp,by first | exact hi | (simp;done) | simpa using hi⟩) | cases h
theorem Q0{f:ak}{b i:Nat}{x:FitD}(hsm:SmF f)(hb:b<f.blocks.length)(h:dV f b i pat temp=VC x):zm 10000 x:=by
 unfold dV at h;split at h
 ·rename_i c;simp only[Se]at c;have c:=c.1;simp[de]at c;have sb:=hsm.blk b hb;unfold tryS eh at h;by_cases e:(i:Int)=(nth f.blocks (b:Int).toNat).ins.length
  ·rw[if_pos e]at h;exact QG sb.to h
  rw[if_neg e]at h;have h:patS f (nth (nth f.blocks b).ins i) temp pat=VC x:=h;have e:(i:Int)≠(nth f.blocks b).ins.length:=e;unfold patS at h;split at h
  ·exact RC (sb.inn i V4) h
  cases h
 cases h
theorem FY{f:ak}{b i:Nat}(hsm:SmF f)(hb:b<f.blocks.length):(pF (dV f b i pat temp)).length<=2/\(∀m∈pF (dV f b i pat temp),m.args.length<=10000)/\(EndD.to (Ay (dV f b i pat temp))).length<=10000:=by
 cases h:dV f b i pat temp with
 | none=>exact⟨by simp[pF],by simp[pF],by simp[Ay,cT]⟩
 | some x=>obtain⟨h1,h2,h3⟩:=Q0 hsm hb h;exact⟨h1,h2,h3⟩
theorem Pj{A B:View}{u:Value}{l:List InD}(s:SrcT A B u l):SrcT A nothing u l:=by obtain⟨a,c,h1,h2,news,h3,h4,h5⟩:=s;exact⟨a,c,h1,h2,news,h3,h4,λi hi=>h5 i hi⟩
theorem Gq{v:Value}{l:List InD}{h:Heap}(hv:SlRd (vw h) v l)(hb:l.length<=1000000):
  ay VI 48 #[v] h (λu h'=>(vw h).le (vw h')/\SlRd (grow nothing h h') u l):=by
 refine ao (args:=[v]) follows Tryz.func48 E.jY Vu λK hK=>?_;dsimp only[L.jY,lkF,lkG];have hv0:=hv;obtain⟨a,cap,rfl,g1,g2,g3⟩:=hv0;refine aa λz hz=>?_;simp;subst hz;refine aa λz hz=>?_;refine aa λy hy=>?_;simp;refine zM U.lF rfl rfl ?_;subst hy;by_cases ha:a=VD
 ·subst ha;have hl:l=[]:=by
   rcases g3 with g3 | ⟨ad,g3,_⟩
   ·first | exact g3 | exact Ss (by simpa using g3)
   cases g3
  subst hl;simp;exact hK _ _ ⟨View.le_refl _,aL⟩
 have hi:a.isNone=false:=by cases a<;>simp at ha ⊢
 simp[hi];subst hz;refine aa λz hz=>?_;simp;refine qQ (α:=InD) El.lF λh1 hle1 hs1 own1=>?_;have m1:=Mine.empty (V:=nothing) (W:=nothing) Vw hle1 (λ_ _ e=>nomatch e) (Old.refl _ _) own1;refine dA (α:=InD) (l:=[]) (l2:=l) El.lF rfl rfl m1.own (Pj (hv.src hle1)) Vt Vt λv2 h2 own2 mv=>?_;have m2:=m1.gK own2 mv;subst hz;simp;refine hK _ _ ⟨m2.old,?_⟩;have:=m2.result;simpa using this
abbrev BMap:=Int->Option Bool
abbrev mapT(g:BMap):Value->Option Value:=mapE Value.bool g
theorem DJ{g:BMap}{j:Int}{v:Bool}:mapT (putM g j v) (Vz VA j)=VC (.bool v)/\∀u,u≠Vz VA j->mapT (putM g j v) u=mapT g u:=gX
theorem DL{g:BMap}{j:Int}:(mapT g (Vz VA j)).getD (.bool VH) = .bool ((g j).getD VH):=by show(((g j).map Value.bool).getD (.bool VH))=_;cases g j<;>rfl
def zy(g:BMap)(m:Int->Bool):Prop:=∀q,(g q).getD VH=m q
theorem zy.off{g:BMap}{m:Int->Bool}(i:zy g m){p:Int}:zy (putM g p VH) λq=>if q=p then VH else m q:=λq=>by
 show((if q=p then VC VH else g q)).getD VH=if q=p then VH else m q;split
 ·rfl
 exact i q
def natV(i:Nat):List Value:=[Vz VA i]
def yL(inner:Int->Bool)(n:Nat):List Nat:=(List.range (n+1)).filter λi=>!inner (i:Int)
theorem Ek{V:View}{p1 p2:Nat}{ri:Nat}{x:BlkD}{g:BMap}{m:Int->Bool}(hp1:At V ⟨p1,0,VD⟩ x)(hp2:aq V ⟨p2,0,VD⟩=VC (.map (VC ri)))(hm:MV (.int .i64) V ri (mapT g))(hi:zy g m)(hl:x.ins.length<=140737488355328):Iter VI 99 [ptz p1,ptz p2] V ((yL m x.ins.length).map natV):=by
 intro l J W h hM hV hVl h0 hround;have hW:=(hM VG 0).le h0;refine ao (args:=[.func (.yield l) #[] #[],ptz p1,ptz p2]) follows Tryz.func99 E.bH Vu λK hK=>?_;dsimp only[L.bH,lkF,lkG];obtain⟨vin,cin,sin⟩:=(hp1.part BlkD.jm).list;simp at cin;have cin1:=ae (Vx hV hW) cin;have ew:IntKind.i64.wrap ((x.ins.length:Int)+1)=((x.ins.length+1:Nat):Int):=by rw[bj V4 V4];omega
 simp[cin1,sin.len,ew];have hall : ∀{k:Nat},k<x.ins.length+1->m k=VH->((yL m x.ins.length).map natV)[((List.range k).filter λi:Nat=>!m (i:Int)).length]? = VC [Vz VA k]:=fun{k} hk he=>by rw[TG];unfold yL;rw[Bh (p:=λi:Nat=>!m (i:Int)) hk (by simp[he])];rfl
 refine aF [0,2,8,9] (fun(_:Unit) k=>[.func (.yield l) #[] #[],ptz p2,Vz VA (x.ins.length+1:Nat),Vz VA k]) (λ_ k h2=>J VG ((List.range k).filter λi:Nat=>!m (i:Int)).length W h2) (x.ins.length+1) ()
  rfl V4 rfl h0 (λ_ _=>rfl) (λv k h1 hk m=>by simp) ?_ ?_
 ·intro _ k h2 hlt hJ2 K2 hK2;have hW2:=(hM _ _).le hJ2;refine dc ?_;refine aa λy hy=>?_;simp;subst hy;refine aa λy hy=>?_;simp[ae (Vx hV hW2) hp2];refine xO (f:=mapT g) (z:=.bool VH) (k:=T.int) (e:=T.bool) (d:=.int .i64) (r:=ri) (u:=Vz VA k) V0 V0 V0 rfl rfl cM (hm.is (Vx hV hW2)) ?_;rw[DL,hi k];have hfl:=Gu (p:=λi:Nat=>!m (i:Int)) (i:=k);cases hmk:m (k:Int)with
  | true=>simp[hmk]at hfl;simp;subst hy;simp;exact hK2 () _ _ rfl rfl (by rw[hfl];exact hJ2)
  | false=>
   simp[hmk]at hfl;simp;refine EP (ops:=[.tmp 18]) rfl (by simpa using hround _ _ W h2 (λ_ _=>rfl) (hall hlt hmk) hJ2) ?_;rintro b h4 ⟨W4,e1,e2,hJ4⟩;cases b with
   | true=>obtain rfl:=e2 rfl;simp;subst hy;simp;exact hK2 () _ _ rfl rfl (by rw[hfl];exact hJ4)
   | false=>simp;subst hy;simp;exact hK _ _ ⟨VH,_,W4,λi hi hne=>by rw[e1 i hne],hJ4,λh=>by cases h⟩
 intro _ h2 hJ2;simp;refine hK _ _ ⟨VG,_,W,λi hi _=>rfl,hJ2,λ_=>?_⟩;rw[TI];rfl
theorem MF{W:View}{h h':Heap}{o:Own}{r:Nat}{x x':Obj}(w:Owns W h o)(hr:W r=VC x)(hx : ∀c T fz,x≠.cells c T fz)(hr':h'[r]? = VC x')(hs:h'.size=h.size)(ho : ∀k,k≠r->h'[k]? = h[k]?): ∃W',Owns W' h' o/\Tn [r] W W'/\W' r=VC x':=by refine⟨_,w.turn hr hx hr' hs ho,λb hb y hy=>?_,by unfold View.set;rw[if_pos rfl]⟩;unfold View.set;rw[if_neg (by simpa using hb)];exact hy
theorem N1{h:Heap}{b r:Nat}{p:Value × Value}{left:List (Value × Value)}(m:ItE h b r p left): ∃a c d e,h[r]? = VC (.mapIter a c d e):=by obtain⟨es,s,q,e,a1,a2,a3,a4⟩:=m.ex;exact⟨_,_,_,_,a3⟩
theorem LV{h:Heap}{b r:Nat}{left:List (Value × Value)}(m:It h b r left): ∃a c d e,h[r]? = VC (.mapIter a c d e):=by obtain⟨es,s,q,e,a1,a2,a3,a4⟩:=m.ex;exact⟨_,_,_,_,a3⟩
structure Rs(B W:View)(h:Heap)(o:Own)(C rm rc rb ri p2:Nat)(f:ak)(b:Nat)(l:List aS)(s:CB)(g:BMap)(rs:List Nat):Prop where
 cw:Cw B W h o C rm rc rb f b l (mkU f b) s rs
 mi:MV (.int .i64) W ri (mapT g)
 c2:aq B ⟨p2,0,VD⟩=VC (.map (VC ri))
 nc:ri≠rm/\ri≠rc/\ri≠rb
 iin:ri∈rs
section
variable{B W W':View}{h h':Heap}{o:Own}{C rm rc rb ri p2 r:Nat}{f:ak}{b:Nat}{l:List aS}{s:CB}{g:BMap}{rs:List Nat}
theorem Rs.ext(c:Rs B W h o C rm rc rb ri p2 f b l s g rs)(hle:(vw h).le (vw h')):Rs (grow B h h') (grow W h h') h' o C rm rc rb ri p2 f b l s g rs:=
 ⟨c.cw.ext hle,c.mi.mono c.cw.z.upW,ae c.cw.z.up c.c2,c.nc,c.iin⟩
theorem Rs.put{g':BMap}(c:Rs B W h o C rm rc rb ri p2 f b l s g rs)(w:Owns W' h' o)(m:MV (.int .i64) W' ri (mapT g'))(t:Tn [ri] W W')(hs:h'.size=h.size):Rs B W' h' o C rm rc rb ri p2 f b l s g' rs:=
 ⟨⟨c.cw.z.turn c.iin w t hs,c.cw.ch,c.cw.mm.tn t (by simp;exact λe=>c.nc.1 e.symm),c.cw.mc.tn t (by simp;exact λe=>c.nc.2.1 e.symm),c.cw.mb.tn t (by simp;exact λe=>c.nc.2.2 e.symm),c.cw.ne,c.cw.cin,c.cw.bin⟩,m,c.c2,c.nc,c.iin⟩
theorem Rs.beside(c:Rs B W h o C rm rc rb ri p2 f b l s g rs)(hr:r∈rs)(n:r≠ri/\r≠rm/\r≠rc/\r≠rb)(w:Owns W' h' o)(t:Tn [r] W W')(hs:h'.size=h.size):Rs B W' h' o C rm rc rb ri p2 f b l s g rs:=
 ⟨⟨c.cw.z.turn hr w t hs,c.cw.ch,c.cw.mm.tn t (by simp;exact λe=>n.2.1 e.symm),c.cw.mc.tn t (by simp;exact λe=>n.2.2.1 e.symm),c.cw.mb.tn t (by simp;exact λe=>n.2.2.2 e.symm),c.cw.ne,c.cw.cin,c.cw.bin⟩,c.mi.tn t (by simp;exact λe=>n.1 e.symm),c.c2,c.nc,c.iin⟩
end
set_option maxHeartbeats 2000000 in
theorem DR{B W:View}{h:Heap}{o:Own}{C rm rc rb:Nat}{f:ak}{b:Nat}{l:List aS}{s:CB}{rs:List Nat}(c:Cw B W h o C rm rc rb f b l (mkU f b) s rs)(hbest : ∀p t,s.best p=VC t->0<=t/\t<l.length)(hpat : ∀t∈l,I64 t.pat):
  ay VI 53 #[ptz C] h (λu h'=>∃p1 p2 B' W',u = .func (.func 99) #[] #[ptz p1,ptz p2]/\B.le B'/\W.le W'/\Cw B' W' h' o C rm rc rb f b l (mkU f b) s rs/\
   Iter VI 99 [ptz p1,ptz p2] W' ((yL (offs f b l s.best 0 ((nth f.blocks b).ins.length+1) (lj f b)) (nth f.blocks b).ins.length).map natV)):=by
 refine ao (args:=[ptz C]) follows Tryz.func53 E.aI Vu λK hK=>?_;dsimp only[L.aI,lkF,lkG];have hbl:=c.ch.hb;have hsm:=c.ch.sm;have hlen:=hsm.len;have hil:(nth f.blocks b).ins.length<=10000:=(hsm.blk b hbl).ins;obtain⟨-,vb,cb,sb⟩:=fh c.ch.at_;have qb:=sb.idxn (k:=.i64) (N:=6) rfl (i:=(b:Int)) V4 V4;have n6:Rep.n BlkD=6:=rfl;obtain⟨ux,hux,rux⟩:=(sb.at hbl).ldN rfl (N:=6) rfl;have hux:=hux _ Vw;simp[n6]at qb hux;have bk:=c.ch.bk;refine aa λz hz=>?_;simp;subst hz;refine aa λz hz=>?_;refine aN B c.z.wle ?_;simp[cb,bk,qb,hux];have c0:=Cx.start (h:=h) c.z.wle;refine c0.CD (α:=BlkD) Vw rux (n:=6) (z:=zz3) V0 rfl rfl V0 (λ_=>by rfl) (λ_=>by rfl) λB5 h1 W1 hW1 c1 at5 hle1=>?_;have at5:=at5.mono (c1.old.le c1.wle);have cw1:=c.ext hle1;have lB1:=c.z.up (h':=h1);have lW1:=c.z.upW (h':=h1);clear cb sb qb hux rux bk c1 hW1 c0;generalize grow B h h1=B1 at *;generalize grow W h h1=W1' at *;obtain⟨vin,cin,sin⟩:=(at5.part BlkD.jm).list;simp at cin;rw[<-az hbl]at sin at5;subst hz;refine aa λz hz=>?_;simp;refine cw1.z.own.lT (d:=.int .i64) λh2 W2 hW2 hle2 w2 hn2 m2=>?_;obtain⟨ri,hri⟩ : ∃ri,ri=h1.size:=⟨_,rfl⟩;rw[<-hri]at hn2 m2 ⊢;have hBn:B1 ri=none:=by
  cases hq:B1 ri with
  | none=>rfl
  | some x=>have:=cw1.z.le ri x hq;rw[hn2]at this;cases this
 have hne : ∀{q:Nat} {g:Value->Option Value},MV (.int .i64) W1' q g->ri≠q:=λm e=>by obtain⟨es,cl,h1⟩:=m.N7;rw[<-e,hn2]at h1;cases h1
 have n1:=hne cw1.mm;have n2:=hne cw1.mc;have n3:=hne cw1.mb;have cw2:Cw B1 W2 h2 o C rm rc rb f b l (mkU f b) s (ri::rs):=⟨(⟨w2,Vx cw1.z.le hW2,cw1.z.no,λr hr=>S2 (cw1.z.lt r hr) (bL hle2)⟩:Mz B1 W2 h2 o rs).more hBn (m2.is w2.wle).lt,cw1.ch,cw1.mm.mono hW2,cw1.mc.mono hW2,cw1.mb.mono hW2,cw1.ne,Sa _ cw1.cin,Sa _ cw1.bin⟩;have lW2:=Vx lW1 hW2;refine cW (α:=Raw) (d:=⟨.map (VC ri)⟩) (X:=B1) (z:=.map VD) V0 rfl V0 (iT.2 ⟨rfl,rfl⟩) V8 V8 λh3 hle3 _ at3=>?_;have at3:=(at3 (grow B1 h2 h3) cw2.z.up (cg (RX _))).raw;have cw3:=cw2.ext hle3;have lB3:=Vx lB1 (cw2.z.up (h':=h3));have m3:=m2.mono (cw2.z.upW (h':=h3));have at5:=at5.mono (cw2.z.up (h':=h3));have cin:=ae (cw2.z.up (h':=h3)) cin;have sin:=sin.mono (cw2.z.up (h':=h3));have lW3:=Vx lW2 (cw2.z.upW (h':=h3));generalize h2.size=p2 at *;have e0:mapT (λ_=>VD)=λ_=>none:=mj;rw[<-e0]at m3;have R3:Rs (grow B1 h2 h3) (grow W2 h2 h3) h3 o C rm rc rb ri p2 f b l s (λ_=>VD) (ri::rs):=⟨cw3,m3,at3,⟨n1,n2,n3⟩,Sg⟩;have nri : ∀x,W ri=VC x->False:=λx hx=>by have:=lW1 ri x hx;rw[hn2]at this;cases this
 clear cw3 m3 at3 cw2 w2 m2 hle3 cw1 lW2 hW2 n1 n2 n3 hne hBn hle2;generalize grow B1 h2 h3=B3 at *;generalize grow W2 h2 h3=W3 at *;subst hz;refine aa λz hz=>?_;refine aa λy hy=>?_;simp[R3.cw.at_.x4];refine yd (f:=mapI (mkU f b)) (d:=.int .i64) (k:=T.int) (e:=T.int) V0 rfl R3.cw.m1 λh4 left hle4 hs4 it4 nd4 key4 mem4=>?_;obtain⟨r,hr0⟩ : ∃r,r=h3.size:=⟨_,rfl⟩;rw[<-hr0]at it4 ⊢;have hr3:W3 r=none:=View.bS R3.cw.z.own.wle V4;have hr3B:B3 r=none:=View.bS R3.cw.z.wle V4;have ngr:r≠ri/\r≠rm/\r≠rc/\r≠rb:=by
  have q : ∀{q:Nat} {g:Value->Option Value},MV (.int .i64) W3 q g->r≠q:=λm e=>by obtain⟨es,cl,h1⟩:=m.N7;rw[<-e,hr3]at h1;cases h1
  exact⟨q R3.mi,q R3.cw.mm,q R3.cw.mc,q R3.cw.mb⟩
 have lW34:W3.le (grow W3 h3 h4):=R3.cw.z.upW;have R4:Rs B3 (grow W3 h3 h4) h4 o C rm rc rb ri p2 f b l s (λ_=>VD) (r::ri::rs):=by have cw:=R3.cw;refine⟨⟨Mz.more ⟨cw.z.own.ext hle4,Vx cw.z.le lW34,cw.z.no,λq hq=>S2 (cw.z.lt q hq) (bL hle4)⟩ hr3B V4,cw.ch,cw.mm.mono lW34,cw.mc.mono lW34,cw.mb.mono lW34,cw.ne,Sa _ cw.cin,Sa _ cw.bin⟩,R3.mi.mono lW34,R3.c2,R3.nc,Sa _ R3.iin⟩
 have hWr : ∃x,grow W3 h3 h4 r=VC x:=by obtain⟨a1,a2,a3,a4,e⟩:=LV it4;exact⟨_,by rw[cg V4];exact e⟩
 have lW4:=Vx lW3 lW34;have nrr : ∀x,W r=VC x->False:=λx hx=>by have:=lW3 r x hx;rw[hr3]at this;cases this
 have hall : ∀u v,(u,v)∈left->∃q:Int,v = Vz VA q/\lj f b q=true:=λu v hu=>by have:=(mem4 u v (key4 u v hu)).1 hu;have hk:=key4 u v hu;cases u<;>simp[MapKept.IsKey]at hk;rename_i kd j;subst hk;rw[DO,Sc]at this;obtain⟨q,e1,rfl⟩:=this;obtain⟨k,k1,rfl,k3,k4⟩:=(oI hbl).1 e1;exact⟨k,rfl,by unfold lj;simp[k3];omega⟩
 have hrest : ∀q:Int,lj f b q=VG->∃u,(u,Vz VA q)∈left:=λq hq=>by unfold lj at hq;simp only[Se,decide_eq_true_eq]at hq;obtain⟨⟨q1,q2⟩,q3⟩:=hq;obtain⟨k,rfl⟩:=S0 q1;refine⟨Vz VA (nth (nth f.blocks b).ins k).dst,(mem4 _ _ cM).2 ?_⟩;rw[DO,(oI hbl).2 ⟨k,by omega,rfl,by simpa using q3,rfl⟩];rfl
 clear R3 hr3 hr3B nd4 key4 mem4 lW34 hs4;generalize grow W3 h3 h4=W4 at *;subst hy;simp only[aX];refine js [0,3,4,28] (λmm ρ hx=>∃(left:List (Value × Value)) (Wx:View) (g:BMap),mm=left.length/\ρ=[(0,ptz C),(3,ptz B5),(4,ptz p2),(28,ptz r)]/\W.le Wx/\Rs B3 Wx hx o C rm rc rb ri p2 f b l s g (r::ri::rs)/\(∃x,Wx r=VC x)/\It hx rm r left/\
   (∀u v,(u,v)∈left->∃q:Int,v = Vz VA q/\lj f b q=VG)/\(∀q:Int,lj f b q=VG->(∃u,(u,Vz VA q)∈left)\/g q=VC VG)/\∀q v,g q=VC v->v=VG/\lj f b q=VG) left.length
   ⟨left,W4,λ_=>VD,rfl,by simp[aY,af,ag],lW4,R4,hWr,it4,hall,λq hq=>.inl (hrest q hq),λ_ _ e=>nomatch e⟩ ?_;clear hall hrest it4 R4 hWr lW4;rintro mm ρ hx ⟨left,Wx,g,rfl,rfl,lx,Rx,⟨ox,hox⟩,itx,hall,hrest,hg⟩ K2 hK2;have hnc : ∀c T fz,ox≠.cells c T fz:=by obtain⟨a1,a2,a3,a4,e⟩:=LV itx;have:=Rx.cw.z.own.wle r ox hox;have this:hx[r]? = VC ox:=this;rw[e]at this;cases this;intro c T fz e;cases e
 refine aa λy hy=>?_;simp;refine zj rfl itx ?_ ?_
 ·rintro rfl;simp;subst hy;simp;subst hz;have hI:zy g (lj f b):=λq=>by
   cases hq:lj f b q with
   | true=>
    rcases hrest q hq with⟨u,hu⟩ | e
    ·cases hu
    rw[e];rfl
   | false=>
    cases e:g q with
    | none=>rfl
    | some v=>have:=(hg q v e).2;rw[hq]at this;cases this
  clear hrest hall itx hg;refine aa λz hz=>?_;have cin5:=ae Rx.cw.z.wle cin;have sn : ∀{K:View},Un.ev K .len vin=VC (Vz VA (nth f.blocks b).ins.length):=sin.len;simp[cin5,sn];refine js [0,3,4,7] (λmm ρ hx=>∃(Bx Wx:View) (g:BMap) (m:Int->Bool),ρ=[(0,ptz C),(3,ptz B5),(4,ptz p2),(7,Vz VA ((mm:Int)-1))]/\mm<=(nth f.blocks b).ins.length+1/\B3.le Bx/\W.le Wx/\Rs Bx Wx hx o C rm rc rb ri p2 f b l s g (r::ri::rs)/\zy g m/\
   offs f b l s.best 0 mm m=offs f b l s.best 0 ((nth f.blocks b).ins.length+1) (lj f b)) ((nth f.blocks b).ins.length+1)
   ⟨B3,Wx,g,lj f b,by simp[aY,af,ag],RX _,View.le_refl _,lx,Rx,hI,rfl⟩ ?_;clear Rx hI lx cin5;rintro mm ρ h7 ⟨Bx,Wx,g,m,rfl,hmm,lB,lW,R7,hI,ho⟩ K3 hK3
  obtain rfl | ⟨k,rfl⟩:mm=0\/∃k,mm=k+1:=by
   cases mm with
   | zero=>exact .inl rfl
   | succ k=>exact .inr ⟨k,rfl⟩
  ·refine aa λy hy=>?_;simp;subst hz;simp;have ho:m=offs f b l s.best 0 ((nth f.blocks b).ins.length+1) (lj f b):=ho;refine hK _ _ ⟨B5,p2,Bx,Wx,rfl,Vx lB3 lB,lW,(R7.cw.less (Sa _ c.cin) (Sa _ c.bin)).less c.cin c.bin,?_⟩;rw[<-ho];exact Ek ((at5.mono lB).mono R7.cw.z.le) (ae R7.cw.z.le R7.c2) R7.mi hI V4
  have e7:(((k+1:Nat):Int)-1)=(k:Int):=by omega
  rw[e7];have hof:offs f b l s.best 0 (k+1) m=offs f b l s.best 0 k (qo f b l s.best k m):=rfl;have ewk:IntKind.i64.wrap ((k:Int)-1)=(k:Int)-1:=bj V4 V4;refine aa λy hy=>?_;simp;subst hy;refine aa λy hy=>?_;refine dc ?_;refine aa λx hx=>?_;simp[ae R7.cw.z.wle R7.c2];refine xO (f:=mapT g) (z:=.bool VH) (k:=T.int) (e:=T.bool) (d:=.int .i64) (r:=ri) (u:=Vz VA k) V0 V0 V0 rfl rfl cM (R7.mi.is R7.cw.z.own.wle) ?_;rw[DL,hI k];cases hmk:m (k:Int)with
  | true=>
   have ep:qo f b l s.best k m=m:=by unfold qo;rw[if_pos hmk]
   simp;subst hy;simp[ewk];exact hK3 k _ _ V4 ⟨Bx,Wx,g,m,by simp[aY,af,ag],by omega,lB,lW,R7,hI,by rw[<-ho,hof,ep]⟩
  | false=>
   have ep:qo f b l s.best k m=(kJ f b l s.best k).foldl (mL (mkU f b)) m:=by unfold qo;rw[if_neg (by rw[hmk];simp)]
   simp;subst hx;refine aa λx hx=>?_;simp;refine ah V0 (JM (i:=k) R7.cw.at_ R7.cw.m3 hbest V4 hpat) ?_;rintro vt h8 ⟨hle8,st⟩;have R8:=R7.ext hle8;have lB8:=Vx lB (R7.cw.z.up (h':=h8));have lW8:=Vx lW (R7.cw.z.upW (h':=h8));have hS8:(vw h8).cf.le (vw h8):=View.mX;have st:=dw.1 (dw.2 st).cf;have hSr:(vw h8).cf ri=none:=by obtain⟨es,cl,q⟩:=R8.mi.N7;have:=R8.cw.z.own.wle ri _ q;unfold View.cf;rw[this]
   generalize (vw h8).cf=S at st hS8 hSr;generalize grow Bx h7 h8=B8 at *;generalize grow Wx h7 h8=W8 at *;generalize kJ f b l s.best k=tk at *;have btk:=st.bound;have stl : ∀{K:View},Un.ev K .len vt=VC (Vz VA tk.length):=st.len;simp[stl];subst hx;refine aF [0,3,4,7,47,48,49] (fun(_:Unit) j=>[ptz C,ptz B5,ptz p2,Vz VA k,vt,Vz VA tk.length,Vz VA j])
    (λ_ j hx=>∃(Wx:View) (g:BMap),W.le Wx/\Rs B8 Wx hx o C rm rc rb ri p2 f b l s g (r::ri::rs)/\zy g ((tk.take j).foldl (mL (mkU f b)) m)/\S.le (vw hx)) tk.length ()
    V0 V4 (by simp[aY,af,ag]) ⟨W8,g,lW8,R8,hI,hS8⟩ (λ_ _=>rfl) (λv i h1 hk m=>by simp) ?_ ?_
   ·rintro _ j h9 hj ⟨W9,g9,lW9,R9,hI9,hS9⟩ K4 hK4;have hj:j<tk.length:=hj;have q:=(st.mono hS9).idx1 (k:=.i64) (i:=(j:Int)) rfl V4 V4;have p:=(st.mono hS9).int Vw (i:=j) hj;simp at q p;have hft:=uj (f:=mL (mkU f b)) (b:=m) (l:=tk) (k:=j) (x:=tk[j]) (SJ hj);rw[<-az hj]at hft;generalize nth tk j=v at *;refine dc ?_;refine aa λx hx=>?_;simp[q,p];subst hx;refine aa λx hx=>?_;simp[R9.cw.at_.x4];refine eo (f:=mapI (mkU f b)) (z:=Vz VA 0) (k:=T.int) (e:=T.int) (d:=.int .i64) (r:=rm) (u:=Vz VA v) V0 V0 V0 rfl rfl cM R9.cw.m1 ?_;cases hm:mkU f b v with
    | none=>
     have es:(tk.take (j+1)).foldl (mL (mkU f b)) m=(tk.take j).foldl (mL (mkU f b)) m:=by rw[hft];unfold mL;rw[hm]
     simp[hm];subst hx;simp;exact hK4 () _ _ (by simp[af,ag]) (by simp[aY,af,ag]) ⟨W9,g9,lW9,R9,by rw[es];exact hI9,hS9⟩
    | some pq=>
     have es:(tk.take (j+1)).foldl (mL (mkU f b)) m=λq=>if q=pq then VH else(tk.take j).foldl (mL (mkU f b)) m q:=by rw[hft];unfold mL;rw[hm]
     simp[hm];subst hx;simp[ae R9.cw.z.wle R9.c2];obtain⟨g1,g2⟩:=DJ (g:=g9) (j:=pq) (v:=false);refine R9.cw.z.own.nN R9.mi (.inl rfl) (t:=T.iF) (k:=T.int) (e:=T.bool) (u:=Vz VA pq) (v:=.bool VH) V0 V0 rfl rfl rfl cM g1 g2 λh10 W10 w10 m10 t10 hs10 ho10=>?_;exact hK4 () _ _ (by simp[af,ag]) (by simp[aY,af,ag]) ⟨W10,_,t10.le lW9 (λb hb=>by
      rw[RY.1 hb];cases e:W ri with
      | none=>rfl
      | some x=>exact(nri x e).elim),R9.put w10 m10 t10 hs10,by rw[es];exact hI9.off,λb x hb=>by
      show h10[b]? = VC x;rw[ho10 b (by rintro rfl;rw[hSr]at hb;cases hb)];exact hS9 b x hb⟩
   rintro _ h9 ⟨W9,g9,lW9,R9,hI9,hS9⟩;rw[SF]at hI9;simp;subst hy;simp[ewk];exact hK3 k _ _ V4 ⟨B8,W9,g9,_,by simp[aY,af,ag],by omega,lB8,lW9,R9,hI9,by rw[<-ho,hof,ep]⟩
 intro a p q h5 el hs5 ho5 it5;obtain⟨qi,e1,e2⟩:=hall p.1 p.2 (by rw[el];simp);have hlen5:(a++q).length<left.length:=by rw[el];simp
 obtain⟨a1,a2,a3,a4,er⟩:=N1 it5;obtain⟨W5,w5,t5,hW5⟩:=MF Rx.cw.z.own hox hnc er hs5 ho5;have R5:=Rx.beside Sg ngr w5 t5 hs5;have lW5:W.le W5:=t5.le lx λb hb=>by
  rw[RY.1 hb];cases e:W r with
  | none=>rfl
  | some x=>exact(nrr x e).elim
 simp;subst hy;refine aa λy hy=>?_;refine aV V5 ?_;simp;subst hy;refine dc ?_;refine aa λy hy=>?_;simp;refine Ft rfl it5 ?_;simp[e1];subst hy;simp[ae R5.cw.z.wle R5.c2];obtain⟨g1,g2⟩:=DJ (g:=g) (j:=qi) (v:=true);refine R5.cw.z.own.nN R5.mi (.inl rfl) (t:=T.iF) (k:=T.int) (e:=T.bool) (u:=Vz VA qi) (v:=.bool VG) V0 V0 rfl rfl rfl cM g1 g2 λh6 W6 w6 m6 t6 hs6 ho6=>?_;have R6:=R5.put w6 m6 t6 hs6;refine hK2 (a++q).length _ _ hlen5 ⟨a++q,W6,putM g qi VG,rfl,by simp[aY,af,ag],t6.le lW5 (λb hb=>?_),R6,⟨_,t6 r (by simp;exact ngr.1) _ hW5⟩,(it5.it).same (ho6 _ ?_) (ho6 _ ngr.1),λu v hu=>hall u v (by rw[el,R1,Sp];rcases R1.1 hu with hu | hu<;>simp[hu]),λj hj=>?_,λj v hj=>?_⟩
 ·rw[RY.1 hb];cases e:W ri with
  | none=>rfl
  | some x=>exact(nri x e).elim
 ·exact λe=>R5.nc.1 e.symm
 ·by_cases hji:j=qi
  ·subst hji;right;simp[putM]
  rcases hrest j hj with⟨u,hu⟩ | hu
  ·rw[el,R1,Sp]at hu;rcases hu with hu | hu | hu
   ·exact .inl ⟨u,R1.2 (.inl hu)⟩
   ·have:p.2=Vz VA j:=by rw[<-hu]
    rw[e1]at this;simp at this;exact absurd this.symm hji
   exact .inl ⟨u,R1.2 (.inr hu)⟩
  right;simp[putM,hji,hu]
 unfold putM at hj;split at hj
 ·rename_i e;cases hj;exact⟨rfl,by rw[e];exact e2⟩
 exact hg j v hj
abbrev lM:=Cat Raw (Cat Raw EndD)
theorem GS:Part lM Raw 0 (λd=>d.a) (λd x=>⟨x,d.b⟩):=(Part.fst Part.all).via (λ_=>rfl) λ_ _=>rfl
theorem Lw:Part lM Raw 1 (λd=>d.b.a) (λd x=>⟨d.a,⟨x,d.b.b⟩⟩):=(Part.snd (Part.fst Part.all)).via (λ_=>rfl) λ_ _=>rfl
theorem Pk:Part lM EndD 2 (λd=>d.b.b) (λd x=>⟨d.a,⟨d.b.a,x⟩⟩):=(Part.snd (Part.snd Part.all)).via (λ_=>rfl) λ_ _=>rfl
def layO(o:Own)(Bm:Nat)(pv iv rv:Value)(fin:EndD)(ins:List aU)(Bt:Nat)(temp:Int)(Bn:Nat)(many:Bool):Own:=λk=>if k=(0,0) then bx T.gI Bm (⟨⟨pv⟩,⟨⟨iv⟩,fin⟩⟩:lM) else if k=(0,2) then it T.du rv ins else if k=(0,3) then bx T.int Bt temp else if k=(0,5) then bx T.bool Bn many else o k
section
variable{o:Own}{Bm Bt Bn:Nat}{pv iv rv:Value}{fin:EndD}{ins:List aU}{temp:Int}{many:Bool}
theorem Gc:layO o Bm pv iv rv fin ins Bt temp Bn many (0,0)=bx T.gI Bm (⟨⟨pv⟩,⟨⟨iv⟩,fin⟩⟩:lM):=rfl
theorem Km:layO o Bm pv iv rv fin ins Bt temp Bn many (0,2)=it T.du rv ins:=rfl
theorem Cm:layO o Bm pv iv rv fin ins Bt temp Bn many (0,3)=bx T.int Bt temp:=rfl
theorem JV:layO o Bm pv iv rv fin ins Bt temp Bn many (0,5)=bx T.bool Bn many:=rfl
theorem G5{pv2 iv2:Value}{fin2:EndD}:(layO o Bm pv iv rv fin ins Bt temp Bn many).upd (0,0) (bx T.gI Bm (⟨⟨pv2⟩,⟨⟨iv2⟩,fin2⟩⟩:lM))=layO o Bm pv2 iv2 rv fin2 ins Bt temp Bn many:=by funext k;unfold Own.upd layO;split<;>rfl
theorem ME{rv2:Value}{ins2:List aU}:(layO o Bm pv iv rv fin ins Bt temp Bn many).upd (0,2) (it T.du rv2 ins2)=layO o Bm pv iv rv2 fin ins2 Bt temp Bn many:=by
 funext k;unfold Own.upd layO;by_cases c:k=(0,2)
 ·subst c;rfl
 simp only[if_neg c]
theorem Nf{t2:Int}:(layO o Bm pv iv rv fin ins Bt temp Bn many).upd (0,3) (bx T.int Bt t2)=layO o Bm pv iv rv fin ins Bt t2 Bn many:=by
 funext k;unfold Own.upd layO;by_cases c:k=(0,3)
 ·subst c;rfl
 simp only[if_neg c]
theorem MB{n2:Bool}:(layO o Bm pv iv rv fin ins Bt temp Bn many).upd (0,5) (bx T.bool Bn n2)=layO o Bm pv iv rv fin ins Bt temp Bn n2:=by
 funext k;unfold Own.upd layO;by_cases c:k=(0,5)
 ·subst c;rfl
 simp only[if_neg c]
theorem yG{a:Nat}{x:Option Lft.Item}:(layO o Bm pv iv rv fin ins Bt temp Bn many).upd (1,a) x=layO (o.upd (1,a) x) Bm pv iv rv fin ins Bt temp Bn many:=by
 funext k;unfold Own.upd layO;by_cases c:k=(1,a)
 ·subst c;rfl
 simp only[if_neg c]
theorem nL{a:Nat}:layO o Bm pv iv rv fin ins Bt temp Bn many (1,a)=o (1,a):=rfl
theorem EO{a:Nat}{x:Option Lft.Item}(h:o (1,a)=VD): ∀k i,layO o Bm pv iv rv fin ins Bt temp Bn many k=VC i->layO (o.upd (1,a) x) Bm pv iv rv fin ins Bt temp Bn many k=VC i:=λk i hk=>by
 by_cases c:k=(1,a)
 ·subst c;rw[nL,h]at hk;cases hk
 unfold layO at hk ⊢;rw[Own.aB c];exact hk
end
theorem lk{Y:View}{h h':Heap}:(grow nothing h h').le (grow Y h h'):=λb x hb=>by
 unfold grow at hb ⊢;split at hb
 ·cases hb
 rename_i c;rw[if_neg c];exact hb
set_option maxHeartbeats 2000000 in
theorem Ks{n:Nat}{X Y:View}{h:Heap}{o:Own}{Bm Bt Bn Bf Bk Bb:Nat}{pv iv:Value}{fin:EndD}{ins:List aU}{many:Bool}{f:ak}{b i:Nat}(w:Held n X Y h (layO o Bm pv iv iv fin ins Bt temp Bn many))(h10:o (1,0)=VD)(h11:o (1,1)=VD)(atF:At Y ⟨Bf,0,VD⟩ f)(ck:aq Y ⟨Bk,0,VD⟩=VC (Vz VA b))(atB:At Y ⟨Bb,0,VD⟩ (nth f.blocks b))(hsm:SmF f)(hM:iu)(hb:b<f.blocks.length)(hi:i<=(nth f.blocks b).ins.length)(hp:I64 pat)(ht:0<=temp/\temp<=1000000000000)(hins:ins.length<=1000000000):
  ay VI 50 #[Vz VA i,Vz VA pat,ptz Bf,ptz Bk,ptz Bt,ptz Bm,ptz Bb,ptz Bn] h
   (λu h'=>∃Y' iv',Y.le Y'/\Held n X Y' h' (layO o Bm pv iv' iv' (if i=(nth f.blocks b).ins.length then Ay (dV f b i pat temp) else fin) (ins++pF (dV f b i pat temp)) Bt (if pat=26\/pat=30 then temp+1 else temp) Bn (if pat=26\/pat=30 then many||decide (8192<=temp) else many))):=by
 refine ao (args:=[Vz VA i,Vz VA pat,ptz Bf,ptz Bk,ptz Bt,ptz Bm,ptz Bb,ptz Bn]) follows Tryz.func50 E.dL Vu λK hK=>?_;dsimp only[L.dL,lkF,lkG];obtain⟨c1,c2,c3⟩:=FY (i:=i) (pat:=pat) (temp:=temp) hsm hb;have hil:(nth f.blocks b).ins.length<=10000:=(hsm.blk b hb).ins;obtain⟨uF,huF,rF⟩:=atF.ldN rfl (N:=2) rfl;have tc:aq (vw h) ⟨Bt,0,VD⟩=VC (Vz VA temp):=(w.own.at Cm).int;obtain⟨vin,cin,sin⟩:=(atB.part BlkD.jm).list;simp at cin;refine aa λz hz=>?_;simp[huF _ w.own.wle,ae w.own.wle ck,tc];refine ah V0 (Js (b:=(b:Int)) (p:=(i:Int)) (pat:=pat) (temp:=temp) w.own.wle rF hsm (λ_ _ _=>hM) hp (by constructor<;>omega)) ?_;rintro _ h1 ⟨hle1,v1,v2,rfl,s1,r2⟩;have w1:=w.ext hle1;have lY1:Y.le (grow Y h h1):=bC w.own.wle;generalize grow Y h h1=Y1 at *;generalize hcode:pF (dV f b i pat temp)=code at *;generalize hfin:Ay (dV f b i pat temp)=fn at *;simp;refine w1.qz (k:=(1,0)) (α:=EndD) (m:=5) (by rw[nL];exact h10) r2 rfl (z:=.agg endZ.toArray) V0 rfl V0 V6 V8 V8 λh2 hle2 w2=>?_;rw[yG]at w2;generalize h1.size=Be at w2;have h10':(o.upd (1,0) (bx T.eX Be fn)) (1,0)=bx T.eX Be fn:=Own.an;have h11':(o.upd (1,0) (bx T.eX Be fn)) (1,1)=none:=by rw[Own.aB V5];exact h11
 generalize ho1:o.upd (1,0) (bx T.eX Be fn)=o1 at *;subst hz;refine aa λz hz=>?_;have s1l : ∀{K:View},Un.ev K .len v1=VC (Vz VA code.length):=s1.len;simp[s1l];refine aF [0,1,4,5,6,7,11,25,26,27] (fun(_:Unit) k=>[Vz VA i,Vz VA pat,ptz Bt,ptz Bm,ptz Bb,ptz Bn,ptz Be,v1,Vz VA code.length,Vz VA k])
  (λ_ k hx=>∃Yk iv',Y1.le Yk/\Held n X Yk hx (layO o1 Bm pv iv' iv' fin (ins++code.take k) Bt temp Bn many)) code.length ()
  V0 V4 (by simp[aY,af,ag]) ⟨Y1,iv,View.le_refl _,by simpa using w2⟩ (λ_ _=>rfl) (λv i h1 hk m=>by simp) ?_ ?_
 ·rintro _ k h3 hk ⟨Yk,iv',lYk,wk⟩ K2 hK2;have hk:k<code.length:=hk;have sk:=s1.mono lYk;obtain⟨ut,hut,rut⟩:=sk.wh rfl (N:=8) rfl hk;have qt:=(sk.mono wk.own.wle).idxn (k:=.i64) (N:=8) rfl (i:=(k:Int)) V4 V4;simp at qt;have hml:(nth code k).args.length<=10000:=c2 _ (bh hk);refine dc ?_;refine aa λy hy=>?_;simp[qt,hut _ wk.own.wle];refine wk.qz (k:=(1,1)) (α:=aU) (m:=8) (by rw[nL];exact h11') rut rfl (z:=zz8) V0 rfl V0 V6 V8 V8 λh4 hle4 w4=>?_;rw[yG]at w4;generalize h3.size=Bx at w4;subst hy;refine aa λy hy=>?_;have hx1 : ∀{x:Option Lft.Item},(o1.upd (1,1) x) (1,1)=x:=Own.an;obtain⟨va,ka,sa⟩:=((w4.own.at (k:=(1,1)) (B:=Bx) (d:=nth code k) (by rw[nL];exact hx1)).part aU.e9).sl;have ka:aq (vw h4) ⟨Bx,7,VD⟩=VC va:=by simpa using ka
  simp[ka];refine ah V0 (xB sa V4) ?_;rintro u5 h5 ⟨hle5,s5⟩;have w5:=w4.ext hle5;have s5:=s5.mono (lk (Y:=Yk));have lY5:Yk.le (grow Yk h4 h5):=bC w4.own.wle;generalize grow Yk h4 h5=Y5 at *;refine w5.cz (k:=(1,1)) (α:=aU) aU.e9 (D:=nth code k) (d:=(nth code k).args) (by rw[nL];exact hx1) V0 V5 V5 (dw.2 s5) λh6 w6=>?_;rw[yG]at w6;have eup:(o1.upd (1,1) (bx T.du Bx (nth code k))).upd (1,1) (bx T.du Bx (nth code k))=o1.upd (1,1) (bx T.du Bx (nth code k)):=by funext q;unfold Own.upd;split<;>rfl
  have w6:Held n X Y5 h6 (layO (o1.upd (1,1) (bx T.du Bx (nth code k))) Bm pv iv' iv' fin (ins++code.take k) Bt temp Bn many):=by rw[<-eup];exact w6
  subst hy;have ki:aq (vw h6) ⟨Bm,1,VD⟩=VC iv':=by simpa using((w6.own.at Gc).part Lw).raw
  obtain⟨ux,hux,rux⟩:=w6.own.ldB (k:=(1,1)) (B:=Bx) (d:=nth code k) (by rw[nL];exact hx1) rfl (N:=8) rfl;have htk:(ins++code.take k).length<=2000000000:=by rw[Sf,SH];omega
  simp[ki,hux];refine w6.fW (k:=(0,2)) Km El.kI V5 rux V4 V4 V8 V8 λu7 v7 h7 w7=>?_;rw[ME]at w7;have hv7:=(w7.own.cells Km).2;refine w7.cz (k:=(0,0)) (α:=lM) Lw (D:=⟨⟨pv⟩,⟨⟨iv'⟩,fin⟩⟩) (d:=⟨v7⟩) Gc V0 V5 V5 (iT.2 ⟨rfl,hv7⟩) λh8 w8=>?_;rw[G5]at w8;have w9:=w8.sub (EO h11');refine hK2 () _ _ (by simp[af,ag]) (by simp[aY,af,ag]) ⟨Y5,v7,Vx lYk lY5,?_⟩;rw[Si hk,<-az hk,<-List.append_assoc];exact w9
 rintro _ h3 ⟨Yk,iv',lYk,wk⟩;rw[SF]at wk;have lY:=Vx lY1 lYk;simp;subst hz;refine aa λz hz=>?_;have fin_ : ∀(hx:Heap) (Yx:View) (fin':EndD) (ρ:Env),Yk.le Yx->Held n X Yx hx (layO o1 Bm pv iv' iv' fin' (ins++code) Bt temp Bn many)->(if i=(nth f.blocks b).ins.length then fn else fin)=fin'->Slk ρ [(1,Vz VA pat),(4,ptz Bt),(7,ptz Bn)]->LC.wp VI z (dR [] K) ρ hx:=by
  intro hx Yx fin' ρ lYx wx hf hS;rw[hz];clear hz;subst hf;simp only[ff,gw,and_true]at hS;obtain⟨e1,e4,e7⟩:=hS;have drop_ : ∀{hy:Heap} {t2:Int} {n2:Bool} {fin':EndD},Held n X Yx hy (layO o1 Bm pv iv' iv' fin' (ins++code) Bt t2 Bn n2)->Held n X Yx hy (layO o Bm pv iv' iv' fin' (ins++code) Bt t2 Bn n2):=λq=>by rw[<-ho1]at q;exact q.sub (EO h10)
  have tc:aq (vw hx) ⟨Bt,0,VD⟩=VC (Vz VA temp):=(wx.own.at Cm).int;have nc:aq (vw hx) ⟨Bn,0,VD⟩=VC (.bool many):=(wx.own.at JV).bool;by_cases cp:pat=26\/pat=30
  ·rw[if_pos cp,if_pos cp]at hK;refine aa λy hy=>?_;have ec:(if pat=26 then Value.bool VG else Value.bool (decide (pat=30))) = .bool true:=by rcases cp with rfl | rfl<;>rfl
   have ep : ∀{H:View} {σ:Nat->Option Value},σ 1=VC (Vz VA pat)->ev σ H (.ite (.bin (.cmp .eql) (.tmp 1) (.con (Vz VA 26))) (.con (.bool VG)) (.bin (.cmp .eql) (.tmp 1) (.con (Vz VA 30))))=VC (.bool VG):=fun{H σ} hσ=>by rcases cp with rfl | rfl<;>simp[hσ]
   simp[af,ag,e1,e4,e7,ep];subst hy;refine aV (by simp[af]) ?_;refine aa λy hy=>?_;have em:(if many=VG then Value.bool VG else Value.bool (decide (8192<=temp))) = .bool (many||decide (8192<=temp)):=by cases many<;>rfl
   simp[af,ag,e4,e7,tc,nc];refine wx.cz (k:=(0,5)) (α:=Bool) Part.all (D:=many) (d:=many||decide (8192<=temp)) JV V0 V5 V5 (qN.2 rfl) λh4 w4=>?_;rw[MB]at w4;subst hy;have tc4:aq (vw h4) ⟨Bt,0,VD⟩=VC (Vz VA temp):=(w4.own.at Cm).int;have ew:IntKind.i64.wrap (temp+1)=temp+1:=bj V4 V4;simp[af,ag,e4,e7,tc4,ew];refine w4.cz (k:=(0,3)) (α:=Int) Part.all (D:=temp) (d:=temp+1) Cm V0 V5 V5 (bu.2 ⟨rfl,by omega,by omega⟩) λh5 w5=>?_;rw[Nf]at w5;exact hK _ _ ⟨Yx,iv',Vx lY lYx,drop_ w5⟩
  rw[if_neg cp,if_neg cp]at hK;have p26:pat≠26:=λe=>cp (.inl e);have p30:pat≠30:=λe=>cp (.inr e);simp[af,ag,e1,e4,e7,p26,p30];exact hK _ _ ⟨Yx,iv',Vx lY lYx,drop_ wx⟩
 have cin3:=ae (Vx lY wk.own.wle) cin;have sn : ∀{K:View},Un.ev K .len vin=VC (Vz VA (nth f.blocks b).ins.length):=sin.len;by_cases ci:i=(nth f.blocks b).ins.length
 ·refine aa λy hy=>?_;simp[cin3,sn,ci];subst hy;refine aV V5 ?_;refine aa λy hy=>?_;have ke : ∀{x:Option Lft.Item},(o1.upd (1,0) x) (1,0)=x:=Own.an;obtain⟨va,ka,sa⟩:=((wk.own.at (k:=(1,0)) (B:=Be) (d:=fn) (by rw[nL];exact h10')).part EndD.Cl).sl;have ka:aq (vw h3) ⟨Be,3,VD⟩=VC va:=by simpa using ka
  simp[ka];refine ah V0 (xB sa V4) ?_;rintro u5 h5 ⟨hle5,s5⟩;have w5:=wk.ext hle5;have s5:=s5.mono (lk (Y:=Yk));have lY5:Yk.le (grow Yk h3 h5):=bC wk.own.wle;generalize grow Yk h3 h5=Y5 at *;refine w5.cz (k:=(1,0)) (α:=EndD) EndD.Cl (D:=fn) (d:=fn.to) (by rw[nL];exact h10') V0 V5 V5 (dw.2 s5) λh6 w6=>?_;rw[yG]at w6;have eup:o1.upd (1,0) (bx T.eX Be fn)=o1:=by
   funext q;unfold Own.upd;split
   ·rename_i e;rw[e];exact h10'.symm
   rfl
  have w6:Held n X Y5 h6 (layO o1 Bm pv iv' iv' fin (ins++code) Bt temp Bn many):=by rw[<-eup];exact w6
  subst hy;obtain⟨ux,hux,rux⟩:=w6.own.ldB (k:=(1,0)) (B:=Be) (d:=fn) (by rw[nL];exact h10') rfl (N:=5) rfl;simp[hux];refine w6.cz (k:=(0,0)) (α:=lM) Pk (D:=⟨⟨pv⟩,⟨⟨iv'⟩,fin⟩⟩) (d:=fn) Gc V0 V5 V5 rux λh8 w8=>?_;rw[G5]at w8;refine fin_ h8 Y5 fn _ lY5 w8 (by rw[if_pos ci]) ?_;simp[ff,gw]
 have ci2:¬((i:Int)=((nth f.blocks b).ins.length:Int)):=by omega
 simp[cin3,sn,ci2];refine fin_ h3 Yk fin _ Vw wk (by rw[if_neg ci]) ?_;simp[ff,gw]
end Go.Lft
namespace Go.Lft
variable{po po2:OP}
section
variable{W:View}{h h':Heap}{o:Own}{k:Key}
theorem Owns.jS{P:Program}{ty:TypeId}{us:List (Nat × Value)}{α:Type}[Rep α]{t:TypeId}{z:Value}{d:α}{K:Value->Heap->Prop}(w:Owns W h o)(hk:o k=VD)(hz:(P.info? t).map (·.zero)=VC (VC z))(hr:Rd W z d)(hn:Rep.n α<=1000)
  (hK : ∀h':Heap,(vw h).le (vw h')->Owns W h' (o.upd k (bx t h.size d))->K (ptz h.size) h'):@step po P (.alloc t) ty us h K:=by
 refine dQ hz ?_;have q1:=b8 h (.cells z.cells t);have b2:(h.push (.cells z.cells t))[h.size]? = VC (.cells z.cells t (0,0)):=by simp
 generalize h.push (.cells z.cells t)=h2 at q1 b2;exact hK h2 q1 (w.add hk (iL (v:=z) b2 hr hn) q1 λb hb=>by simp only[Value.ownBlock,RW]at hb;omega)
theorem Owns.GD{α:Type}[Rep α]{e:TypeId}(w:Owns W h o)(hk:o k=VD):Owns W h (o.upd k (it e (VE VD 0 0) ([]:List α))):=
 w.add hk (OwnT.nil (α:=α) W h e) Vw λb hb=>by simp[Value.ownBlock]at hb
theorem Owns.QM{α:Type}[r:Rep α]{e:TypeId}{B:Nat}{d:α}{v:Value}(w:Owns W h o)(hk:o k=bx e B d)(hn:v.ownBlock≠VC B)(ha:Av W v):At (but v h) ⟨B,0,.none⟩ d:=by obtain⟨cs,⟨cur,t,fz,h1,h2,h3⟩,h4⟩:=w.atW hk;refine⟨cs,⟨cur,t,fz,h1,?_,h3⟩,Rep.mono (FZ w.wle ha) h4⟩;show but v h B=_;unfold but;rw[if_neg hn];exact h2
theorem Fg{v x:Value}{B i:Nat}(hc:aq (vw h) ⟨B,i,VD⟩=VC x)(hn:v.ownBlock≠VC B):aq (but v h) ⟨B,i,VD⟩=VC x:=by
 have e:but v h B=(vw h) B:=by unfold but;rw[if_neg hn];rfl
 unfold aq at *;simp only at *;rw[e];exact hc
end
theorem Owns.QY{W:View}{h h':Heap}{o:Own}{n:Nat}(w:Owns W h o)(hs:oh n h h'):Owns W.cf h' o:=by
 have hb : ∀b x,W.cf b=VC x->h'[b]? = VC x:=λb x hx=>by
  have h1:=View.mX _ _ hx;have h2:h[b]? = VC x:=w.wle b x h1;rw[hs.same b (.inr λe=>?_)]
  ·exact h2
  rw[h2]at e;cases e;unfold View.cf at hx;rw[h1]at hx;cases hx
 refine⟨hb,λk i hk=>?_,λk i hk b hbb=>?_,w.dj⟩
 ·obtain⟨bd,xs,h1,h2⟩:=w.own k i hk;refine⟨bd,xs,⟨h1.1,?_⟩,λj hj=>i.rep.cf (h2 j hj)⟩;rcases h1.2 with e | ⟨g,cap,cur,e1,e2,e3⟩
  ·exact .inl e
  exact .inr ⟨g,cap,cur,e1,(hs.same g (.inr (by rw[e2];simp))).trans e2,e3⟩
 have:=w.av k i hk b hbb;unfold View.cf;rw[this]
end Go.Lft
namespace Go.Lft
section
variable{f:ak}{b:Nat}{l:List aS}
theorem rO{p t:Int}(h:(cU f b l).best p=VC t):0<=t/\t<l.length:=by
 have key : ∀p t,(cU f b l).best p=VC t->0<=t/\t<l.length:=by
  refine vN (λs:CB=>∀p t,s.best p=VC t->0<=t/\t<l.length) (λk s hk hs=>?_) (λ_ _ e=>nomatch e);unfold plc8;split
  ·split<;>exact hs
  refine vN (λs:CB=>∀p t,s.best p=VC t->0<=t/\t<l.length) (λj q hj hq=>?_) hs;unfold cI;split
  ·exact hq
  split
  ·intro p t e;simp only[putM]at e;split at e
   ·cases e;omega
   exact hq p t e
  exact hq
 exact key p t h
theorem Ai(h:(jq l).1=0){t:aS}(ht:t∈l):0<=t.cost/\t.cost<=1000:=by
 unfold jq at h;split at h
 ·cases h
 have:=qR h t ht;unfold eH at this;split at this
 ·cases this
 split at this
 ·cases this
 rename_i c;simp[inR]at c;exact c
theorem AY(h:(jq l).1=0){t:aS}(ht:t∈l):I64 t.pat:=by have:=BA h ht;simp[inR]at this;constructor<;>omega
structure LayB(s0 s:jn)(k:Nat):Prop where
 t0:s0.temp<=s.temp
 t1:s.temp<=s0.temp+k
 c0:s0.cost<=s.cost
 c1:s.cost<=s0.cost+1000*k
 n:s.blk.ins.length<=s0.blk.ins.length+2*k
 p:s.blk.phis=s0.blk.phis
theorem LayB.refl{s:jn}:LayB s s 0:=⟨Tf _,by omega,Tf _,by omega,by omega,rfl⟩
theorem QT(hsm:SmF f)(hb:b<f.blocks.length)(hcl : ∀t∈l,0<=t.cost/\t.cost<=1000){s0 s:jn}{k i:Nat}(h:LayB s0 s k):LayB s0 (fQ f b l s i) (k+1):=by
 have step : ∀{pat:Int} {q:jn},q.temp=s.temp->q.blk=s.blk->0<=q.cost-s.cost->q.cost-s.cost<=1000->LayB s0 (layS f b i pat q) (k+1):=fun{pat q} e1 e2 e3 e4=>by
  have hc:=(FY (i:=i) (pat:=pat) (temp:=q.temp) hsm hb).1;obtain⟨h1,h2,h3,h4,h5,h6⟩:=h;refine⟨?_,?_,?_,?_,?_,?_⟩
  ·show s0.temp<=(if pat=26\/pat=30 then q.temp+1 else q.temp);split<;>omega
  ·show(if pat=26\/pat=30 then q.temp+1 else q.temp)<=s0.temp+((k+1:Nat):Int);split<;>omega
  ·show s0.cost<=q.cost;omega
  ·show q.cost<=_;omega
  ·show(q.blk.ins++_).length<=_;rw[Sf,e2];omega
  show q.blk.phis=_;rw[e2];exact h6
 unfold fQ;split
 ·exact step rfl rfl V4 V4
 rename_i t ht;obtain⟨q1,q2⟩:=rO ht;have:=hcl _ (bh (l:=l) (i:=t.toNat) V4);exact step rfl rfl (by show 0<=s.cost+_-s.cost;omega) (by show s.cost+_-s.cost<=1000;omega)
theorem J3(hsm:SmF f)(hb:b<f.blocks.length)(hcl : ∀t∈l,0<=t.cost/\t.cost<=1000){s0:jn} : ∀{r:List Nat} {s:jn} {k:Nat},LayB s0 s k->LayB s0 (r.foldl (fQ f b l) s) (k+r.length)
 | [],s,k,h=>h
 | a::r,s,k,h=>by have:=J3 hsm hb hcl (r:=r) (QT (i:=a) hsm hb hcl h);rw[Sx,SL,show k+(r.length+1)=k+1+r.length by omega];exact this
theorem te:(eO f b l).length<=(nth f.blocks b).ins.length+1:=by unfold eO;have:=UM (λi:Nat=>!inn8 f b l (i:Int)) (List.range ((nth f.blocks b).ins.length+1));rw[List.length_range]at this;exact this
end
def lay0(f:ak)(b:Nat)(s:FnSt):jn:=⟨s.temp,s.cost,s.many,⟨(nth f.blocks b).phis,[],cT⟩⟩
def fnOf(s:FnSt)(r:jn):FnSt:=⟨r.temp,r.cost,r.many,s.out++[r.blk]⟩
def mT(f:ak)(l:List aS)(b:Nat)(s:FnSt)(k:Nat):jn:=((eO f b l).take k).foldl (fQ f b l) (lay0 f b s)
theorem Nw{f:ak}{l:List aS}{b:Nat}{s:FnSt}:rZ f l b s=fnOf s (mT f l b s (eO f b l).length):=by unfold rZ mT fnOf;rw[Fh,SF];rfl
def fnAt(f:ak)(l:List aS)(k:Nat):FnSt:=Lft.up (rZ f l) k ⟨topS f,0,VH,[]⟩
theorem F8{f:ak}{l:List aS}{b k i:Nat}{s:FnSt}(h:(eO f b l)[k]? = VC i):mT f l b s (k+1)=fQ f b l (mT f l b s k) i:=uj h
theorem xH{f:ak}{l:List aS}{k:Nat}:fnAt f l (k+1)=fnOf (fnAt f l k) (mT f l k (fnAt f l k) (eO f k l).length):=Nw
section
variable{f:ak}{l:List aS}
theorem C7{b k:Nat}{s:FnSt}(hsm:SmF f)(hb:b<f.blocks.length)(hcl : ∀t∈l,0<=t.cost/\t.cost<=1000)(hk:k<=(eO f b l).length):LayB (lay0 f b s) (mT f l b s k) k:=by have:=J3 hsm hb hcl (r:=(eO f b l).take k) (LayB.refl (s:=lay0 f b s));rw[SH,Tw hk,Tj]at this;exact this
theorem Jq(hsm:SmF f)(hcl : ∀t∈l,0<=t.cost/\t.cost<=1000) : ∀{k:Nat},k<=f.blocks.length->0<=(fnAt f l k).temp/\(fnAt f l k).temp<=8192+10001*k/\0<=(fnAt f l k).cost/\(fnAt f l k).cost<=10001000*k/\(fnAt f l k).out.length=k
 | 0,_=>by have:=Cq (f:=f);exact⟨this.1,by show topS f<=_;omega,Tf _,by show(0:Int)<=_;omega,rfl⟩
 | k+1,h=>by
  obtain⟨h1,h2,h3,h4,h5⟩:=Jq hsm hcl (k:=k) V4;have q:=C7 (s:=fnAt f l k) hsm (b:=k) V4 hcl (RX _);have hr:=te (f:=f) (b:=k) (l:=l);have hi:=(hsm.blk k V4).ins;rw[xH];generalize mT f l k (fnAt f l k) (eO f k l).length=r at *;obtain⟨q1,q2,q3,q4,q5,q6⟩:=q;have q1:(fnAt f l k).temp<=r.temp:=q1;have q2:r.temp<=(fnAt f l k).temp+((eO f k l).length:Int):=q2;have q3:(fnAt f l k).cost<=r.cost:=q3;have q4:r.cost<=(fnAt f l k).cost+1000*((eO f k l).length:Int):=q4;refine⟨?_,?_,?_,?_,?_⟩
  ·show 0<=r.temp;omega
  ·show r.temp<=_;omega
  ·show 0<=r.cost;omega
  ·show r.cost<=_;omega
  show(_++[_]).length=_;rw[Sf,h5];rfl
end
abbrev OutD:=Cat Int Raw
theorem Hd:Part OutD Raw 1 (λd=>d.b) (λd x=>⟨d.a,x⟩):=(Part.snd Part.all).via (λ_=>rfl) λ_ _=>rfl
def fnO(oo:Own)(R Bo Bc Bt Bn:Nat)(params:Int)(ov rv:Value)(blks:List eK)(cost temp:Int)(many:Bool):Own:=λk=>
 if k=(0,3) then bx T.int Bt temp else if k=(0,4) then bx T.int Bc cost else if k=(0,5) then bx T.bool Bn many else if k=(0,6) then bx T.jF Bo (⟨params,⟨ov⟩⟩:OutD) else if k=(0,7) then it T.gI rv blks
 else if k=(2,0) then bx T.jF R (⟨0,⟨VE VD 0 0⟩⟩:OutD) else oo k
def blkO(oo:Own)(R Bo Bc Bt Bn:Nat)(params:Int)(ov:Value)(blks:List eK)(cost temp:Int)(many:Bool)(Bm:Nat)(pv rp iv rv:Value)(phis:List PhiD)(fin:EndD)(ins:List aU):Own:=
 layO ((fnO oo R Bo Bc Bt Bn params ov ov blks cost temp many).upd (0,1) (it T.iZ rp phis)) Bm pv iv rv fin ins Bt temp Bn many
section
variable{oo:Own}{R Bo Bc Bt Bn Bm:Nat}{params:Int}{ov rv pv rp iv ri:Value}{blks:List eK}{cost temp:Int}{many:Bool}{phis:List PhiD}{fin:EndD}{ins:List aU}
theorem Dw{t2:Int}{n2:Bool}{fin2:EndD}{ins2:List aU}:layO ((fnO oo R Bo Bc Bt Bn params ov ov blks cost temp many).upd (0,1) (it T.iZ rp phis)) Bm pv iv rv fin2 ins2 Bt t2 Bn n2=blkO oo R Bo Bc Bt Bn params ov blks cost t2 n2 Bm pv rp iv rv phis fin2 ins2:=by
 funext k;unfold blkO layO fnO Own.upd;by_cases c3:k=(0,3)
 ·subst c3;rfl
 by_cases c5:k=(0,5)
 ·subst c5;rfl
 simp only[if_neg c3,if_neg c5]
theorem HQ{c2:Int}:(blkO oo R Bo Bc Bt Bn params ov blks cost temp many Bm pv rp iv rv phis fin ins).upd (0,4) (bx T.int Bc c2)=blkO oo R Bo Bc Bt Bn params ov blks c2 temp many Bm pv rp iv rv phis fin ins:=by
 funext k;unfold blkO layO fnO Own.upd;by_cases c4:k=(0,4)
 ·subst c4;rfl
 simp only[if_neg c4]
theorem I5{pv2 rp2:Value}{phis2:List PhiD}:((blkO oo R Bo Bc Bt Bn params ov blks cost temp many Bm pv rp iv rv phis fin ins).upd (0,1) (it T.iZ rp2 phis2)).upd (0,0) (bx T.gI Bm (⟨⟨pv2⟩,⟨⟨iv⟩,fin⟩⟩:lM))=blkO oo R Bo Bc Bt Bn params ov blks cost temp many Bm pv2 rp2 iv rv phis2 fin ins:=by
 funext k;unfold blkO layO fnO Own.upd;by_cases c0:k=(0,0)
 ·subst c0;rfl
 by_cases c1:k=(0,1)
 ·subst c1;rfl
 simp only[if_neg c0,if_neg c1]
theorem Ni:(((fnO oo R Bo Bc Bt Bn params ov ov blks cost temp many).upd (0,0) (bx T.gI Bm (⟨⟨pv⟩,⟨⟨iv⟩,fin⟩⟩:lM))).upd (0,1) (it T.iZ rp phis)).upd (0,2) (it T.du ri ins)=blkO oo R Bo Bc Bt Bn params ov blks cost temp many Bm pv rp iv ri phis fin ins:=by
 funext k;unfold blkO layO fnO Own.upd;by_cases c2:k=(0,2)
 ·subst c2;rfl
 by_cases c1:k=(0,1)
 ·subst c1;rfl
 by_cases c0:k=(0,0)
 ·subst c0;rfl
 by_cases c3:k=(0,3)
 ·subst c3;rfl
 by_cases c5:k=(0,5)
 ·subst c5;rfl
 simp only[if_neg c0,if_neg c1,if_neg c2,if_neg c3,if_neg c5]
theorem IP(ho : ∀q:Key,q.1<10->oo q=VD) : ∀k i,fnO oo R Bo Bc Bt Bn params ov ov blks cost temp many k=VC i->((blkO oo R Bo Bc Bt Bn params ov blks cost temp many Bm pv rp iv rv phis fin ins).upd (0,1) VD).upd (0,2) VD k=VC i:=λk i hk=>by
 unfold fnO at hk;unfold blkO layO fnO Own.upd;by_cases c2:k=(0,2)
 ·subst c2;have:=(ho (0,2) V6).symm.trans hk;cases this
 by_cases c1:k=(0,1)
 ·subst c1;have:=(ho (0,1) V6).symm.trans hk;cases this
 by_cases c0:k=(0,0)
 ·subst c0;have:=(ho (0,0) V6).symm.trans hk;cases this
 by_cases c3:k=(0,3)
 ·subst c3;exact hk
 by_cases c5:k=(0,5)
 ·subst c5;exact hk
 simp only[if_neg c0,if_neg c1,if_neg c2,if_neg c3,if_neg c5]at hk ⊢;exact hk
theorem Jz{ov2 rv2:Value}{blks2:List eK}:((fnO oo R Bo Bc Bt Bn params ov rv blks cost temp many).upd (0,7) (it T.gI rv2 blks2)).upd (0,6) (bx T.jF Bo (⟨params,⟨ov2⟩⟩:OutD))=fnO oo R Bo Bc Bt Bn params ov2 rv2 blks2 cost temp many:=by
 funext k;unfold fnO Own.upd;by_cases c6:k=(0,6)
 ·subst c6;rfl
 by_cases c7:k=(0,7)
 ·subst c7;rfl
 simp only[if_neg c6,if_neg c7]
end
theorem L5{oo:Own}(ho : ∀q:Key,q.1<10->oo q=VD){R Bo Bc Bt Bn:Nat}{params:Int}{ov rv:Value}{blks:List eK}{cost temp:Int}{many:Bool}{x:Option Lft.Item} : ∀k i,oo k=VC i->(((fnO oo R Bo Bc Bt Bn params ov rv blks cost temp many).upd (2,0) x).upd (2,0) VD) k=VC i:=λk i hk=>by
 have hne : ∀q:Key,q.1<10->k≠q:=λq hq e=>by subst e;rw[ho _ hq]at hk;cases hk
 have h1:=hne (2,0) V6;have h2:=hne (0,3) V6;have h3:=hne (0,4) V6;have h4:=hne (0,5) V6;have h5:=hne (0,6) V6;have h6:=hne (0,7) V6;simp only[fnO,Own.upd,if_neg h1,if_neg h2,if_neg h3,if_neg h4,if_neg h5,if_neg h6];exact hk
theorem M9{W:View}{u pv iv:Value}{phis:List PhiD}{ins:List aU}{fin:EndD}(h:Rd W u (⟨⟨pv⟩,⟨⟨iv⟩,fin⟩⟩:lM))(s1:SlRd W pv phis)(s2:SlRd W iv ins):Rd W u (⟨phis,ins,fin⟩:eK):=by unfold Rd at h ⊢;rw[if_pos (show Rep.agg lM=VG from rfl)]at h;rw[if_pos (show Rep.agg eK=VG from rfl)];obtain⟨cs,rfl,c1,c2,e,⟨h1,-⟩,c3,c4,e2,⟨h3,-⟩,h4⟩:=h;subst h1 h3;exact⟨cs,rfl,[pv],c2,e,⟨pv,rfl,s1⟩,[iv],c4,e2,⟨iv,rfl,s2⟩,h4⟩
theorem Ld{W:View}{u ov:Value}{params:Int}{blks:List eK}(h:Rd W u (⟨params,⟨ov⟩⟩:OutD))(s1:SlRd W ov blks):Rd W u (⟨params,blks⟩:MFnD):=by unfold Rd at h ⊢;rw[if_pos (show Rep.agg OutD=VG from rfl)]at h;rw[if_pos (show Rep.agg MFnD=VG from rfl)];obtain⟨cs,rfl,c1,c2,e,h1,h3,-⟩:=h;subst h3;exact⟨cs,rfl,c1,[ov],e,h1,⟨ov,rfl,s1⟩⟩
end Go.Lft
