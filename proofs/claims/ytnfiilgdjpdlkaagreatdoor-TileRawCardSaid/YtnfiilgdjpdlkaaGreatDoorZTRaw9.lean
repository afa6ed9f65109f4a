/- A part of the proof: Qr. -/
import Derived.Test.YtnfiilgdjpdlkaaGreatDoorZTRaw8
set_option linter.unusedSimpArgs false
set_option linter.unusedVariables false
open Go.Value renaming int->RG,slice->RL,pointer->RM
open Go.IntKind renaming i64->RH
open Option renaming some->RJ,none->RK
open Bool renaming true->RN,false->RO
open Go.Proofs.Tryz renaming prog->RP
namespace Go.Proofs.YtnfiilgdjpdlkaaGreatDoor
open Go Go.Lft
def iL:List ByteArray:=[⟨#[]⟩,⟨#[108,105]⟩,⟨#[108,105,119]⟩,⟨#[97,100,100]⟩,⟨#[115,117,98]⟩,⟨#[109,117,108]⟩,⟨#[97,110,100]⟩,⟨#[111,114]⟩,⟨#[120,111,114]⟩,⟨#[115,104,108]⟩,⟨#[115,104,114]⟩,⟨#[115,97,114]⟩,⟨#[101,113]⟩,⟨#[108,116]⟩,⟨#[108,116,117]⟩,⟨#[100,105,118]⟩,⟨#[97,100,100,105]⟩,⟨#[115,117,98,105]⟩,⟨#[97,110,100,105]⟩,⟨#[115,104,108,105]⟩,⟨#[115,104,114,105]⟩,⟨#[115,97,114,105]⟩,⟨#[109,97,100,100]⟩,⟨#[108,100]⟩,⟨#[108,100,97]⟩,⟨#[108,100,120]⟩,⟨#[108,100,108]⟩,⟨#[115,116]⟩,⟨#[115,116,97]⟩,⟨#[115,116,120]⟩,⟨#[115,116,108]⟩,⟨#[99,97,108,108]⟩,⟨#[109,117,108,119]⟩,⟨#[98,110,122]⟩,⟨#[98,101,113]⟩,⟨#[98,108,116]⟩,⟨#[98,108,116,117]⟩,⟨#[106,116]⟩]
theorem yH{k:Nat}(h:k<38):iL.getD k ⟨#[]⟩=mg k:=by
 have h1:(List.range 38).all (λk=>(iL.getD k ⟨#[]⟩).data.toList == (mg (k:Int)).data.toList)=true:=by kernel_rfl
 have h2:=OJ.1 h1 k (by simpa using h);have h3:=eq_of_beq h2;have h4:=N4.1 h3;cases hx:iL.getD k ⟨#[]⟩;cases hy:mg (k:Int);rw[hx,hy]at h4;simp at h4;rw[h4]
theorem xw{pat:Int}{h:Heap}:az RP 21 #[RG RH pat] h (λu h'=>(vw h).le (vw h')/\u = .string (mg pat)):=by
 refine ao (args:=[RG RH pat]) follows Tryz.func21 E.pz RB λK hK=>?_;dsimp only[L.pz,lkF,lkG];refine aa λz hz=>?_;simp;subst hz;refine aa λz hz=>?_;simp;refine ak (t:=T.yd) (z:=.agg (List.replicate 38 (Value.string ⟨#[]⟩)).toArray) (places:=(List.range 38).map λi=>(i,1)) (vs:=(((iL.map λc=>Value.string c).zipIdx 0).map λp=>(p.2,p.1))) (cs:=(iL.map λc=>Value.string c).toArray) R1 R1 R1 R1 ?_;refine fG (v:=.agg (iL.map λc=>Value.string c).toArray) (z:=.agg (List.replicate 38 (Value.string ⟨#[]⟩)).toArray) (n:=38) R1 R1 R1 R1 (λc hc=>by
  have hc:c∈iL.map λc=>Value.string c:=by simpa[Value.cells]using hc
  obtain⟨x,_,rfl⟩:=Pk.1 hc;rfl) R5 R5 λh1 hle1 _ hb1=>?_;generalize h.size=C at hb1;subst hz;by_cases c:1<=pat/\pat<=37
 ·obtain⟨k,hk⟩ : ∃k:Nat,pat=k:=⟨pat.toNat,by omega⟩;subst hk;have cell:an (vw h1) ⟨C,k,RK⟩=RJ (.string (mg k)):=by
   refine de (c:=(Value.agg (iL.map λc=>Value.string c).toArray).cells) (T:=T.yd) (fz:=(0,0)) hb1 ?_;have hl:iL.length=38:=rfl;have hk':k<iL.length:=by omega
   show(iL.map λc=>Value.string c).toArray[k]? = _;rw[P4,PD,OI hk'];have:=yH (k:=k) R3;rw[Py,OI hk']at this;simp at this;simp[this]
  have ax:Bn.ev (.aidx 38 1) (RM (RJ ⟨C,0,RK⟩)) (RG RH k)=RJ (RM (RJ ⟨C,k,RK⟩)):=by simp[Bn.ev,vP,vI];omega
  have n1:¬(k:Int)<1:=by omega
  have n2:¬(37:Int)<k:=by omega
  have n1':¬k=0:=by omega
  refine aa λz hz=>?_;refine cL RA (by simp[n1,n2,n1']) ?_;simp;subst hz;simp[ax,cell];exact hK _ _ ⟨hle1,rfl⟩
 have hn:mg pat=⟨#[]⟩:=by unfold mg;rw[if_neg c]
 have hc:(decide (pat<1)||decide (37<pat))=true:=by simp;omega
 refine aa λz hz=>?_;refine cJ RA (by simpa using hc) ?_;simp;exact hK _ _ ⟨hle1,by rw[hn]⟩
set_option maxHeartbeats 4000000 in
theorem Dn{s:List Int}{a q:Int × Int}{v va vq:Value}{h:Heap}(ht:Tab h)(hM:lY)(hs:SlRd (vw h) v s)(ha:Rd (vw h) va a)(hq:Rd (vw h) vq q):
  az RP 4 #[v,va,vq] h (λu h'=>u = .bool RN/\(vw h).le (vw h')):=by
 refine ao (args:=[v,va,vq]) follows Tryz.func4 E.lB RB λK hK=>?_;dsimp only[L.lB,lkF,lkG];have c0:=Cx.start (h:=h) (View.le_refl (vw h));refine aa λz hz=>?_;simp;refine c0.cu rfl ha λA h1 W1 hW1 c1 at1 hle1=>?_;refine c1.cu rfl (hq.mono hW1) λB h2 W2 hW2 c2 at2 hle2=>?_;have at1:=at1.mono hW2;subst hz;refine aa λz hz=>?_;simp;refine ah R1 (FG (ht.mono c2.le0)) ?_;rintro _ h3 ⟨hle3,rfl⟩;have c3:=c2.ext hle3;have hW3:=c2.up (h':=h3);subst hz;refine aa λz hz=>?_;simp;refine ah R1 (Hh (hs.mono c3.le0)) ?_;rintro uf h4 ⟨hle4,rf⟩;have l04:(vw h).le (vw h4):=RE c3.le0 hle4;have at1:=at1.mono (RE hW3 (RE c3.wle hle4));have at2:=at2.mono (RE hW3 (RE c3.wle hle4));clear c0 c1 c2 c3 hW1 hW2 hW3 hle1 hle2 hle3 hs ha hq;obtain⟨f,hf⟩ : ∃f,f=pM (s.take 200):=⟨_,rfl⟩;rw[<-hf]at rf;have hsm:SmF f:=by rw[hf];exact JP
 clear hf;have c4:=Cx.start (h:=h4) (View.le_refl (vw h4));refine c4.dA (α:=aq) rf (n:=2) (z:=.agg #[RG RH 0,RL RK 0 0]) R1 rfl rfl R1 R5 R5 λF h5 W5 hW5 c5 at5 hle5=>?_;have at1:=(at1.mono hW5).mono c5.wle;have at2:=(at2.mono hW5).mono c5.wle;have at5:=at5.mono c5.wle;have l05:=RE l04 c5.le0;clear c4 c5 hW5 hle5 rf;subst hz;obtain⟨p0,p1,pr0,pr1⟩:=CL at1;obtain⟨t0,t1,tr0,tr1⟩:=CL at2;have x0 : ∀X,Bn.ev (.aidx 2 1) (RM (RJ ⟨X,0,RK⟩)) (RG RH 0)=RJ (RM (RJ ⟨X,0,RK⟩)):=λ_=>rfl;have x1 : ∀X,Bn.ev (.aidx 2 1) (RM (RJ ⟨X,0,RK⟩)) (RG RH 1)=RJ (RM (RJ ⟨X,1,RK⟩)):=λ_=>rfl;obtain⟨uF,huf,ruf⟩:=at5.ldN rfl (N:=2) rfl;refine aa λy hy=>?_;simp[huf _ RD,x0,x1,p0,p1,t0,t1];refine ah R1 (AY (b:=a.1) (p:=a.2) RD ruf hsm tr0 tr1) ?_;rintro u13 h13 ⟨hle13,r13⟩;have r13:=r13.mono (gU hle13);refine dt (X:=vw h13) (z:=.agg bj.toArray) R1 rfl R1 r13 R5 R5 λh14 hle14 _ at14=>?_;have at14:=at14 (vw h14) hle14 rfl;generalize h13.size=X at at14;have le14:=RE hle13 hle14;subst hy;refine aa λy hy=>?_;simp[huf _ le14,x0,x1,ae le14 p0,ae le14 p1,ae le14 t0];refine ah R1 (Ci (b:=a.1) (p:=a.2) (W:=vw h14) RD (ruf.mono le14) hsm (λ_ _ _=>hM) tr0) ?_;rintro _ h15 ⟨hle15,v1,v3,rfl,s1,s3⟩;have le15:=RE le14 hle15;simp;subst hy;refine aa λy hy=>?_;simp[huf _ le15,x0,x1,ae le15 p0,ae le15 p1,ae le15 t0,ae le15 t1];refine ah R1 (D2 (b:=a.1) (p:=a.2) (W:=vw h15) RD (ruf.mono le15) hsm (λ_ _ _=>hM) tr0 tr1) ?_;rintro _ h16 ⟨hle16,v4,v5,rfl,s4,r5⟩;simp;refine dt (X:=vw h16) (z:=.agg endZ.toArray) R1 rfl R1 r5 R5 R5 λh17 hle17 _ at17=>?_;have at17:=at17 (vw h17) hle17 rfl;generalize h16.size=Y at at17;have le17:=RE le15 (RE hle16 hle17);have at14:=at14.mono (RE hle15 (RE hle16 hle17));have s1:=s1.mono (RE hle16 hle17);have s3:=s3.mono (RE hle16 hle17);have s4:=s4.mono hle17;have t0:=ae le17 t0;obtain⟨e1,e2⟩:=EZ (f:=f) (b:=a.1) (p:=a.2) (pat:=q.1) (t:=q.2);obtain⟨e3,e4,e5⟩:=Gx (f:=f) (b:=a.1) (p:=a.2) (pat:=q.1) (t:=q.2);rw[e4]at s4;rw[e5]at at17;rw[e1]at e2;rw[e1,e3];generalize lP (dJ f a.1 a.2 q.1 q.2)=x at *;generalize fK f a.1 a.2 q.1=mt at *;clear e1 e3 e4 e5;obtain⟨w0,w1,w2,⟨k0,g0⟩,⟨k1,g1⟩,⟨k2,g2⟩,k8,ue,hue,rue⟩:=Jj at14;obtain⟨n1,hn1,rn1⟩:=at17.ldN rfl (N:=5) rfl;subst hy;refine aa λy hy=>?_;refine aa λw hw=>?_;obtain⟨okb,hokb⟩ : ∃okb,okb=(x.ok&&decide (0<q.1)):=⟨_,rfl⟩;rw[<-hokb]at e2 ⊢;generalize hc:(E.ite (E.bin (Bn.eqB RN) (E.tmp 12) _) (E.con (Value.bool RN)) (E.bin (Bn.eqB RN) (E.tmp 15) _))=c;have hcv : ∀ρ:Nat->Option Value,ρ 5=RJ (ptr B)->ρ 9=RJ (ptr X)->ρ 12=RJ (.bool okb)->ρ 15=RJ (.bool x.ok)->ev ρ (vw h17) c=RJ (.bool RO):=λρ r1 r2 r3 r4=>by
  rw[<-hc];rw[hokb]at r3;cases hx:x.ok with
  | false=>rw[hx]at r3 r4 k8;simp[r1,r2,r3,r4,k8,x0,t0]
  | true=>rw[hx]at r3 r4 k8;simp[r1,r2,r3,r4,k8,x0,t0]
 simp[hcv,k2];refine ah R1 (wC (W:=vw h17) RD s4 g2) ?_;rintro _ h18 ⟨rfl,hle18⟩;simp[hn1 _ hle18,hue _ hle18];refine ah R1 (CP (W:=vw h17) hle18 rn1 rue) ?_;rintro _ h19 ⟨rfl,hle19⟩;rw[C9];have q19:=RE hle18 hle19;have l19:=RE l05 (RE le17 q19);have ht19:=ht.mono l19;have t0:=ae q19 t0;have bs : ∀s:ByteArray,(s.toList == s.toList)=true:=λs=>by simp
 simp;subst hw;simp;subst hy;refine aa λw hw=>?_;refine aH (vw h19) RD ?_;cases okb with
 | true=>obtain⟨e7,e8⟩:=e2 rfl;refine aw λy hy=>?_;simp[ae q19 k0];refine ah R1 (tw (s1.mono q19) (g0.mono q19)) ?_;rintro _ h20 ⟨rfl,rfl⟩;refine⟨View.le_refl _,?_⟩;subst hy;refine aw λy hy=>?_;simp[e7,ae q19 k1];refine ah R1 (tw (s3.mono q19) (g1.mono q19)) ?_;rintro _ h20 ⟨rfl,rfl⟩;refine⟨View.le_refl _,?_⟩;subst hy;refine aw λy hy=>?_;simp[e8,x0,t0];refine ah R1 (wV ht19 tr0) ?_;rintro _ h21 ⟨hle21,rfl⟩;refine⟨hle21,?_⟩;subst hy;refine aw λy hy=>?_;simp;refine ah R1 xw ?_;rintro _ h22 ⟨hle22,rfl⟩;refine⟨RE hle21 hle22,?_⟩;subst hy;simp[AG,bs];subst hw;simp;exact hK _ _ ⟨rfl,RE l19 (RE hle21 hle22)⟩
 | false=>refine aw λy hy=>?_;simp;subst hy;refine aw λy hy=>?_;simp;subst hy;refine aw λy hy=>?_;simp[x0,t0];refine ah R1 (wV ht19 tr0) ?_;rintro _ h21 ⟨hle21,rfl⟩;refine⟨hle21,?_⟩;subst hy;refine aw λy hy=>?_;simp;refine ah R1 xw ?_;rintro _ h22 ⟨hle22,rfl⟩;refine⟨RE hle21 hle22,?_⟩;subst hy;simp[AG,bs];subst hw;simp;exact hK _ _ ⟨rfl,RE l19 (RE hle21 hle22)⟩
end Go.Proofs.YtnfiilgdjpdlkaaGreatDoor
