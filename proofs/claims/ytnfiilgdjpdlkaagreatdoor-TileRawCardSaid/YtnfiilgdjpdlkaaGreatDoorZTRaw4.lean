/- A part of the proof: Ok, Ol, Rb, Ta, Rc, Rd, Re, Rf, Rg, Rh, Tb, Tc, Td, Th, Ma, Mb, Mc. -/
import Derived.Test.YtnfiilgdjpdlkaaGreatDoorZTRaw3
set_option linter.unusedSimpArgs false
set_option linter.unusedVariables false
open Go.Value renaming int->RG,slice->RL,pointer->RM
open Go.IntKind renaming i64->RH,i32->RI
open Option renaming some->RJ,none->RK
open Bool renaming true->RN,false->RO
open Go.Proofs.Tryz renaming prog->RP
namespace Go.Lft
open Go
variable {po po2:OP}
theorem Cx.dB {V W:View} {h0 h:Heap} {o:Own} {k:Key} {P:Program} {ty:TypeId} {us:List (Nat × Value)} {n i:Nat} {e t:TypeId} {B:Nat} {l:List Value} {x y:Operand} {u:Value} {K:Value->Heap->Prop} (c:Cx V h0 W h o) (hk:o k=bx e B (RawN.mk (n:=n) l)) (hi:i<=n) (hsz:df P t=RJ 1) (hx:asg us x = RM (RJ ⟨B,i,RK⟩)) (hy:asg us y=u) (hu:u.oneCell'=RN)
  (hK : ∀h',Cx V h0 W h' (o.upd k (bx e B (RawN.mk (n:=n) (l.set i u))))->K undef h'):@step po P (.store t x y) ty us h K:=
 c.own.dB hk hi hsz hx hy hu λh2 w hX=>hK _ ⟨w,c.old,hX _ c.le0 (View.cM RD (c.new k _ B hk rfl)),λj i b hj hb=>by
  by_cases e:j=k
  ·subst e;rw[Own.aj]at hj;cases hj;exact c.new _ _ b hk hb
  rw[Own.aB e]at hj;exact c.new j i b hj hb⟩
end Go.Lft
namespace Go.Proofs.YtnfiilgdjpdlkaaGreatDoor
open Go Go.Lft
structure vx (t:cB):Prop where
 one:t.kind=2\/t.kind=3->1<=t.args.length
 most:t.args.length<=10000
 to:t.to.length<=10000
theorem BV {H:View} {x0 x1 x2 va x4:Value} {i:InsD} (h:Rd H (.agg #[x0,x1,x2,va,x4]) i):SlRd H va i.args:=by unfold Rd at h;rw[if_pos (show Rep.agg InsD=RN from rfl)]at h;obtain⟨cs,e0,c1,_,e,h1,c2,_,rfl,h2,c3,_,rfl,h3,c4,c5,rfl,h4,h5⟩:=h;cases e0;rw[h1.1,h2.1,h3.1,h5.1]at e;obtain⟨v,rfl⟩:=uZ h4;simp at e;obtain⟨-,-,-,rfl,-⟩:=e;exact oY.1 h4
set_option maxHeartbeats 4000000 in
theorem Lv {s:cn} {v:Value} {pat:Int} {h:Heap} {W:View} (hW:W.le (vw h)) (hv:Rd W v s) (hok:nz s) (htk:vx s.t) (hp:I64 pat) :
    az RP 63 #[v,RG RH pat] h (λu h'=>bW W h h' u (eh s.f s.t pat)):=by
  refine ao (args:=[v,RG RH pat]) follows Tryz.func63 E.fu RB λK hK=>?_
  dsimp only[L.fu,lkF,lkG]
  have c0:=Cx.start hW
  refine aa λz hz=>?_
  simp
  refine c0.cu rfl hv λS h1 W1 hW1 c1 at1 hle1=>?_
  refine c1.bU (k:=(0,0)) (n:=7) (z:=.agg fitZ.toArray) rfl R1 rfl R4 R8 λR h2 hle2 c2=>?_
  subst hz
  refine aa λz hz=>?_
  obtain⟨ut,hut,rut⟩:=(at1.part cn.NJ).ldN rfl (N:=4) rfl
  have hut:Un.ev (vw h2) (.aZ 4) (RM (RJ ⟨S,7,RK⟩))=RJ ut:=by simpa using hut _ c2.wle
  simp[hut]
  refine c2.dA (α:=cB) rut (n:=4) (z:=.agg #[RG RH 0,RL RK 0 0,RL RK 0 0,RG RI 0]) R1 rfl rfl R1 R5 R5 λTb h3 W3 hW3 c3 at3 hle3=>?_
  have t0:=(at3.part cB.yu).int
  obtain⟨va,t1,hva⟩:=(at3.part cB.eX).sl
  obtain⟨vt,t2,hvt⟩:=(at3.part cB.yb).sl
  have t3:=(at3.part cB.gx).i32
  have ri:=(at3.part cB.gx).mP
  have t0:an W3 ⟨Tb,0,RK⟩=RJ (RG RH s.t.kind):=by simpa using t0
  have t1:an W3 ⟨Tb,1,RK⟩=RJ va:=by simpa using t1
  have t2:an W3 ⟨Tb,2,RK⟩=RJ vt:=by simpa using t2
  have t3:an W3 ⟨Tb,3,RK⟩=RJ (RG RI s.t.imm.v):=by simpa using t3
  have most:=htk.most
  have mosto:=htk.to
  subst hz
  refine aa λz hz=>?_
  simp[ae c3.wle t2]
  refine ah R1 (eM c3.wle hvt R3) ?_
  rintro uto h4 ⟨hle4,hto⟩
  have c4:=c3.ext hle4
  have hW4:=c3.up (h':=h4)
  have hto0:=hto
  obtain⟨b0,k0,rfl,-⟩:=hto0
  generalize grow W3 h3 h4=W4 at *
  have s0:=ae hW4 t0
  have s1:=ae hW4 t1
  have s3:=ae hW4 t3
  have hva4:=hva.mono hW4
  have z0:=ae c4.wle s0
  have z1:=ae c4.wle s1
  have z3:=ae c4.wle s3
  clear t0 t1 t2 t3 hut hle1 hle2 hle3 hle4
  subst hz
  refine aa λz hz=>?_
  simp only[aU]
  refine aa λy hy=>?_
  by_cases p1:pat=0/\s.t.kind=1
  · have he:eh s.f s.t pat=RJ ⟨[],[],[],⟨1,0,0,s.t.to,⟨0⟩⟩⟩:=by unfold eh;rw[if_pos p1]
    simp[p1.1,z0,p1.2]
    subst hy
    simp
    refine ak (t:=T.gA) (z:=.agg #[RG RH 0,RG RH 0,RG RH 0,RL RK 0 0,RG RI 0]) (places:=[(0,1),(1,1),(2,1),(3,1),(4,1)]) (vs:=[(0,RG RH 1),(3,.slice b0 s.t.to.length k0)]) (cs:=#[RG RH 1,RG RH 0,RG RH 0,.slice b0 s.t.to.length k0,RG RI 0]) R1 R1 Sa (by simp[Instr.fill,Value.cells]) ?_
    refine ak (t:=T.bc) (z:=.agg fitZ.toArray) (places:=[(0,1),(1,1),(2,1),(3,5)]) (vs:=[(3,.agg #[RG RH 1,RG RH 0,RG RH 0,.slice b0 s.t.to.length k0,RG RI 0])]) (cs:=#[RL RK 0 0,RL RK 0 0,RL RK 0 0,RG RH 1,RG RH 0,RG RH 0,.slice b0 s.t.to.length k0,RG RI 0]) R1 R1 Sa (by simp[Instr.fill,Value.cells]) ?_
    have hr:Rd W4 (.agg #[RL RK 0 0,RL RK 0 0,RL RK 0 0,RG RH 1,RG RH 0,RG RH 0,.slice b0 s.t.to.length k0,RG RI 0]) (⟨[],[],[],⟨1,0,0,s.t.to,⟨0⟩⟩⟩:FitD):=lR (ce:=[_,_,_,_,_]) aE aE aE (gO (imm:=⟨0⟩) Sa Sa hto)
    refine c4.aK (k:=(0,0)) (n:=7) (l:=fitZ) RA hr rfl rfl R1 rfl rfl λh9 l9 hl9 c9=>?_
    have hall:=c9.all (k:=(0,0)) (n:=7) (l:=l9) (B:=R) (e:=T.bc) RA
    simp at hall
    simp[hall]
    exact hK _ _ (bW.of c9 (hl9▸hr) (by rw[he];rfl) λy e=>by rw[he]at e;cases e;rfl)
  refine ff (λρ h5=>h5=h4/\ρ=[(0,v),(1,RG RH pat),(2,ptr S),(4,ptr R),(5,.bool RO),(6,ptr Tb),(7,.slice b0 s.t.to.length k0),(13,ut),(16,.slice b0 s.t.to.length k0),(17,.bool RO)]) ?_ ?_
  · intro K2 hK2
    by_cases e0:pat=0
    · have e2:¬s.t.kind=1:=λe=>p1 ⟨e0,e⟩
      simp[e0,z0,e2]
      exact hK2 _ _ ⟨rfl,by rw[e0]⟩
    · simp[e0,z0]
      exact hK2 _ _ ⟨rfl,rfl⟩
  rintro _ h4 ⟨rfl,rfl⟩
  subst hy
  refine aP Sa ?_
  refine aa λy hy=>?_
  by_cases p2:pat=0/\s.t.kind=4
  · have he:eh s.f s.t pat=RJ ⟨s.t.args,[],[],⟨7,if s.t.args=[] then -1 else nth s.t.args 0,0,[],⟨0⟩⟩⟩:=by unfold eh;rw[if_neg p1,if_pos p2]
    simp[p2.1,z0,p2.2]
    subst hy
    refine aN Sa ?_
    refine aa λy hy=>?_
    simp
    refine ak (t:=T.gA) (z:=.agg #[RG RH 0,RG RH 0,RG RH 0,RL RK 0 0,RG RI 0]) (places:=[(0,1),(1,1),(2,1),(3,1),(4,1)]) (vs:=[(0,RG RH 7),(1,RG RH (-1))]) (cs:=#[RG RH 7,RG RH (-1),RG RH 0,RL RK 0 0,RG RI 0]) R1 R1 Sa (by simp[Instr.fill,Value.cells]) ?_
    refine c4.bU (k:=(0,1)) (n:=4) (z:=.agg #[RG RH 0,RG RH 0,RG RH 0,RL RK 0 0,RG RI 0]) RA R1 rfl R4 R8 λEb h5 hle5 c5=>?_
    refine c5.iR (k:=(0,1)) (n:=4) (l:=[RG RH 0,RG RH 0,RG RH 0,RL RK 0 0,RG RI 0]) (l':=[RG RH 7,RG RH (-1),RG RH 0,RL RK 0 0,RG RI 0]) RA R1 rfl rfl rfl R7 λh6 c6=>?_
    subst hy
    have y1:=ae c6.wle s1
    have hlen:=hva4.len (K:=vw h6)
    generalize hae:(if s.t.args=[] then(-1:Int) else nth s.t.args 0)=a at *
    refine aa λy hy=>?_
    refine ff (λρ h7=>∃o6,Cx W h W4 h7 o6/\o6 (0,0)=bx T.bc R (RawN.mk (n:=7) fitZ)/\o6 (0,1)=bx T.gA Eb (RawN.mk (n:=4) [RG RH 7,RG RH a,RG RH 0,RL RK 0 0,RG RI 0])/\(-9223372036854775808<=a/\a<=9223372036854775807)/\
      ρ=[(0,v),(1,RG RH 0),(2,ptr S),(4,ptr R),(5,.bool RO),(6,ptr Tb),(7,.slice b0 s.t.to.length k0),(8,ptr Eb),(13,ut),(16,.slice b0 s.t.to.length k0),(36,.agg #[RG RH 7,RG RH (-1),RG RH 0,RL RK 0 0,RG RI 0])]) ?_ ?_
    · intro K2 hK2
      by_cases ea:s.t.args=[]
      · have el:(s.t.args.length:Int)=0:=by rw[ea];rfl
        rw[if_pos ea]at hae
        subst hae
        simp[y1,hlen,ea]
        exact hK2 _ _ ⟨_,c6,by rfl,by rfl,by decide,rfl⟩
      · have el:=List.length_pos_iff.2 ea
        rw[if_neg ea]at hae
        have a0:=hva4.rng (i:=0) el
        have x0:=hva4.idx1 (k:=.i64) (i:=0) rfl R4 R3
        have d0:=hva4.int c6.wle (i:=0) el
        simp[y1,hlen,el,x0,d0]
        refine c6.dB (k:=(0,1)) (n:=4) (i:=1) (l:=[RG RH 7,RG RH (-1),RG RH 0,RL RK 0 0,RG RI 0]) RA R4 R1 rfl rfl rfl λh7 c7=>?_
        exact hK2 _ _ ⟨_,c7,by rfl,by rw[<-hae];rfl,by rw[<-hae];exact a0,rfl⟩
    · rintro _ h7 ⟨o6,c7,k00,k01,ar,rfl⟩
      subst hy
      refine aa λy hy=>?_
      refine aH (vw h7) RD ?_
      have hall7:=c7.all k01
      simp at hall7
      simp[ae c7.wle s1,hall7]
      refine ah R1 (eM c7.wle hva4 R3) ?_
      rintro ucl h8 ⟨hle8,hcl⟩
      refine⟨hle8,?_⟩
      have c8:=c7.ext hle8
      have hW8:=c7.up (h':=h8)
      have hcl0:=hcl
      obtain⟨b1,k1,rfl,-⟩:=hcl0
      refine ak (t:=T.bc) (z:=.agg fitZ.toArray) (places:=[(0,1),(1,1),(2,1),(3,5)]) (vs:=[(0,.slice b1 s.t.args.length k1),(3,.agg #[RG RH 7,RG RH a,RG RH 0,RL RK 0 0,RG RI 0])]) (cs:=#[.slice b1 s.t.args.length k1,RL RK 0 0,RL RK 0 0,RG RH 7,RG RH a,RG RH 0,RL RK 0 0,RG RI 0]) R1 R1 Sa (by simp[Instr.fill,Value.cells]) ?_
      have hr:Rd (grow W4 h7 h8) (.agg #[.slice b1 s.t.args.length k1,RL RK 0 0,RL RK 0 0,RG RH 7,RG RH a,RG RH 0,RL RK 0 0,RG RI 0]) (⟨s.t.args,[],[],⟨7,a,0,[],⟨0⟩⟩⟩:FitD):=lR (ce:=[_,_,_,_,_]) hcl aE aE (gO (imm:=⟨0⟩) R9 Sa aE)
      refine c8.aK (k:=(0,0)) (n:=7) (l:=fitZ) k00 hr rfl rfl R1 rfl rfl λh9 l9 hl9 c9=>?_
      subst hy
      have hall:=c9.all (k:=(0,0)) (n:=7) (l:=l9) (B:=R) (e:=T.bc) Own.aj
      simp at hall
      simp[hall]
      exact hK _ _ (bW.of c9 (hl9▸hr) (by rw[he];rfl) λy e=>by rw[he]at e;cases e;rfl)
  refine ff (λρ h5=>h5=h4/\ρ=[(0,v),(1,RG RH pat),(2,ptr S),(4,ptr R),(5,.bool RO),(6,ptr Tb),(7,.slice b0 s.t.to.length k0),(13,ut),(16,.slice b0 s.t.to.length k0),(28,.bool RO)]) ?_ ?_
  · intro K2 hK2
    by_cases e0:pat=0
    · have e2:¬s.t.kind=4:=λe=>p2 ⟨e0,e⟩
      simp[e0,z0,e2]
      exact hK2 _ _ ⟨rfl,by rw[e0]⟩
    · simp[e0,z0]
      exact hK2 _ _ ⟨rfl,rfl⟩
  rintro _ h4 ⟨rfl,rfl⟩
  subst hy
  refine aP Sa ?_
  refine aa λy hy=>?_
  by_cases p3:pat=0/\s.t.kind=5
  · have he:eh s.f s.t pat=RJ ⟨[],[],[],⟨8,0,0,[],s.t.imm⟩⟩:=by unfold eh;rw[if_neg p1,if_neg p2,if_pos p3]
    simp[p3.1,z0,p3.2]
    subst hy
    simp[z3]
    refine ak (t:=T.gA) (z:=.agg #[RG RH 0,RG RH 0,RG RH 0,RL RK 0 0,RG RI 0]) (places:=[(0,1),(1,1),(2,1),(3,1),(4,1)]) (vs:=[(0,RG RH 8),(4,RG RI s.t.imm.v)]) (cs:=#[RG RH 8,RG RH 0,RG RH 0,RL RK 0 0,RG RI s.t.imm.v]) R1 R1 Sa (by simp[Instr.fill,Value.cells]) ?_
    refine ak (t:=T.bc) (z:=.agg fitZ.toArray) (places:=[(0,1),(1,1),(2,1),(3,5)]) (vs:=[(3,.agg #[RG RH 8,RG RH 0,RG RH 0,RL RK 0 0,RG RI s.t.imm.v])]) (cs:=#[RL RK 0 0,RL RK 0 0,RL RK 0 0,RG RH 8,RG RH 0,RG RH 0,RL RK 0 0,RG RI s.t.imm.v]) R1 R1 Sa (by simp[Instr.fill,Value.cells]) ?_
    have hr:Rd W4 (.agg #[RL RK 0 0,RL RK 0 0,RL RK 0 0,RG RH 8,RG RH 0,RG RH 0,RL RK 0 0,RG RI s.t.imm.v]) (⟨[],[],[],⟨8,0,0,[],s.t.imm⟩⟩:FitD):=lR (ce:=[_,_,_,_,_]) aE aE aE (gO Sa ri aE)
    refine c4.aK (k:=(0,0)) (n:=7) (l:=fitZ) RA hr rfl rfl R1 rfl rfl λh9 l9 hl9 c9=>?_
    have hall:=c9.all (k:=(0,0)) (n:=7) (l:=l9) (B:=R) (e:=T.bc) RA
    simp at hall
    simp[hall]
    exact hK _ _ (bW.of c9 (hl9▸hr) (by rw[he];rfl) λy e=>by rw[he]at e;cases e;rfl)
  refine ff (λρ h5=>h5=h4/\ρ=[(0,v),(1,RG RH pat),(2,ptr S),(4,ptr R),(5,.bool RO),(6,ptr Tb),(7,.slice b0 s.t.to.length k0),(13,ut),(16,.slice b0 s.t.to.length k0),(51,.bool RO)]) ?_ ?_
  · intro K2 hK2
    by_cases e0:pat=0
    · have e2:¬s.t.kind=5:=λe=>p3 ⟨e0,e⟩
      simp[e0,z0,e2]
      exact hK2 _ _ ⟨rfl,by rw[e0]⟩
    · simp[e0,z0]
      exact hK2 _ _ ⟨rfl,rfl⟩
  rintro _ h4 ⟨rfl,rfl⟩
  subst hy
  refine aP Sa ?_
  refine aa λy hy=>?_
  by_cases p4:pat=33/\s.t.kind=2
  · have he:eh s.f s.t pat=RJ ⟨s.t.args,[],[],⟨2,nth s.t.args 0,0,s.t.to,⟨0⟩⟩⟩:=by unfold eh;rw[if_neg p1,if_neg p2,if_neg p3,if_pos p4]
    have al:=htk.one R3
    have a0:=hva4.rng (i:=0) al
    have x0:=hva4.idx1 (k:=.i64) (i:=0) rfl R4 R3
    have d0:=hva4.int (View.le_refl W4) (i:=0) al
    simp[p4.1,z0,p4.2]
    subst hy
    refine aN Sa ?_
    refine aa λy hy=>?_
    refine aH W4 c4.wle ?_
    simp[s1,x0,d0]
    refine⟨?_,?_⟩
    · refine ah R1 (eM c4.wle hva4 R3) ?_
      rintro ucl h5 ⟨hle5,hcl⟩
      have c5:=c4.ext hle5
      have hW5:=c4.up (h':=h5)
      refine⟨RE hW5 c5.wle,?_⟩
      have hcl0:=hcl
      obtain⟨b1,k1,rfl,-⟩:=hcl0
      generalize grow W4 h4 h5=W5 at *
      refine ak (t:=T.gA) (z:=.agg #[RG RH 0,RG RH 0,RG RH 0,RL RK 0 0,RG RI 0]) (places:=[(0,1),(1,1),(2,1),(3,1),(4,1)]) (vs:=[(0,RG RH 2),(1,RG RH (nth s.t.args 0)),(3,.slice b0 s.t.to.length k0)]) (cs:=#[RG RH 2,RG RH (nth s.t.args 0),RG RH 0,.slice b0 s.t.to.length k0,RG RI 0]) R1 R1 Sa (by simp[Instr.fill,Value.cells]) ?_
      refine⟨RE hW5 c5.wle,?_⟩
      refine ak (t:=T.bc) (z:=.agg fitZ.toArray) (places:=[(0,1),(1,1),(2,1),(3,5)]) (vs:=[(0,.slice b1 s.t.args.length k1),(3,.agg #[RG RH 2,RG RH (nth s.t.args 0),RG RH 0,.slice b0 s.t.to.length k0,RG RI 0])]) (cs:=#[.slice b1 s.t.args.length k1,RL RK 0 0,RL RK 0 0,RG RH 2,RG RH (nth s.t.args 0),RG RH 0,.slice b0 s.t.to.length k0,RG RI 0]) R1 R1 Sa (by simp[Instr.fill,Value.cells]) ?_
      have hr:Rd W5 (.agg #[.slice b1 s.t.args.length k1,RL RK 0 0,RL RK 0 0,RG RH 2,RG RH (nth s.t.args 0),RG RH 0,.slice b0 s.t.to.length k0,RG RI 0]) (⟨s.t.args,[],[],⟨2,nth s.t.args 0,0,s.t.to,⟨0⟩⟩⟩:FitD):=lR (ce:=[_,_,_,_,_]) hcl aE aE (gO (imm:=⟨0⟩) R9 Sa (hto.mono hW5))
      refine c5.aK (k:=(0,0)) (n:=7) (l:=fitZ) RA hr rfl rfl R1 rfl rfl λh9 l9 hl9 c9=>?_
      subst hy
      have hall:=c9.all (k:=(0,0)) (n:=7) (l:=l9) (B:=R) (e:=T.bc) RA
      simp at hall
      simp[hall]
      exact hK _ _ (bW.of c9 (hl9▸hr) (by rw[he];rfl) λy e=>by rw[he]at e;cases e;rfl)
    · refine ak (t:=T.gA) (z:=.agg #[RG RH 0,RG RH 0,RG RH 0,RL RK 0 0,RG RI 0]) (places:=[(0,1),(1,1),(2,1),(3,1),(4,1)]) (vs:=[(0,RG RH 2),(1,RG RH (nth s.t.args 0)),(3,.slice b0 s.t.to.length k0)]) (cs:=#[RG RH 2,RG RH (nth s.t.args 0),RG RH 0,.slice b0 s.t.to.length k0,RG RI 0]) R1 R1 Sa (by simp[Instr.fill,Value.cells]) ?_
      refine⟨c4.wle,?_⟩
      refine ah R1 (eM c4.wle hva4 R3) ?_
      rintro ucl h5 ⟨hle5,hcl⟩
      have c5:=c4.ext hle5
      have hW5:=c4.up (h':=h5)
      refine⟨RE hW5 c5.wle,?_⟩
      have hcl0:=hcl
      obtain⟨b1,k1,rfl,-⟩:=hcl0
      generalize grow W4 h4 h5=W5 at *
      refine ak (t:=T.bc) (z:=.agg fitZ.toArray) (places:=[(0,1),(1,1),(2,1),(3,5)]) (vs:=[(0,.slice b1 s.t.args.length k1),(3,.agg #[RG RH 2,RG RH (nth s.t.args 0),RG RH 0,.slice b0 s.t.to.length k0,RG RI 0])]) (cs:=#[.slice b1 s.t.args.length k1,RL RK 0 0,RL RK 0 0,RG RH 2,RG RH (nth s.t.args 0),RG RH 0,.slice b0 s.t.to.length k0,RG RI 0]) R1 R1 Sa (by simp[Instr.fill,Value.cells]) ?_
      have hr:Rd W5 (.agg #[.slice b1 s.t.args.length k1,RL RK 0 0,RL RK 0 0,RG RH 2,RG RH (nth s.t.args 0),RG RH 0,.slice b0 s.t.to.length k0,RG RI 0]) (⟨s.t.args,[],[],⟨2,nth s.t.args 0,0,s.t.to,⟨0⟩⟩⟩:FitD):=lR (ce:=[_,_,_,_,_]) hcl aE aE (gO (imm:=⟨0⟩) R9 Sa (hto.mono hW5))
      refine c5.aK (k:=(0,0)) (n:=7) (l:=fitZ) RA hr rfl rfl R1 rfl rfl λh9 l9 hl9 c9=>?_
      subst hy
      have hall:=c9.all (k:=(0,0)) (n:=7) (l:=l9) (B:=R) (e:=T.bc) RA
      simp at hall
      simp[hall]
      exact hK _ _ (bW.of c9 (hl9▸hr) (by rw[he];rfl) λy e=>by rw[he]at e;cases e;rfl)
  refine ff (λρ h5=>h5=h4/\ρ=[(0,v),(1,RG RH pat),(2,ptr S),(4,ptr R),(5,.bool RO),(6,ptr Tb),(7,.slice b0 s.t.to.length k0),(13,ut),(16,.slice b0 s.t.to.length k0),(63,.bool RO)]) ?_ ?_
  · intro K2 hK2
    by_cases e0:pat=33
    · have e2:¬s.t.kind=2:=λe=>p4 ⟨e0,e⟩
      simp[e0,z0,e2]
      exact hK2 _ _ ⟨rfl,by rw[e0]⟩
    · simp[e0,z0]
      exact hK2 _ _ ⟨rfl,rfl⟩
  rintro _ h4 ⟨rfl,rfl⟩
  subst hy
  refine aP Sa ?_
  refine aa λy hy=>?_
  by_cases p5:(34<=pat/\pat<=36)/\s.t.kind=2
  · have w5:inR pat 34 36=true:=by simp[inR,p5.1.1,p5.1.2]
    have al:=htk.one R3
    have a0:=hva4.rng (i:=0) al
    have x0:=hva4.idx1 (k:=.i64) (i:=0) rfl R4 R3
    simp
    refine ah R1 jQ ?_
    rintro _ h4 ⟨rfl,rfl⟩
    simp[w5,z0,p5.2]
    subst hy
    refine aN Sa ?_
    refine aa λy hy=>?_
    simp
    subst hy
    refine aa λy hy=>?_
    refine aH (vw h4) RD ?_
    obtain⟨us,hus,rus⟩:=at1.ldN rfl (N:=13) rfl
    have hus:=hus _ (RE hW3 (RE hW4 c4.wle))
    have rus:=rus.mono (RE hW3 hW4)
    have d0:=hva4.int c4.wle (i:=0) al
    have ek:(11:Int)+(pat-34)=pat-23:=by omega
    have ew0:IntKind.i64.wrap (pat-34)=pat-34:=bh R3 R3
    have ew:IntKind.i64.wrap (11+(pat-34))=pat-23:=by rw[bh R3 R3];omega
    have ew2:IntKind.i64.wrap (3+(pat-34))=pat-31:=by rw[bh R3 R3];omega
    have hE:eh s.f s.t pat=if(aD s.f (nth s.t.args 0) (pat-23)).2 then RJ ⟨(aD s.f (nth s.t.args 0) (pat-23)).1.args,s.t.args,[],⟨pat-31,nth (aD s.f (nth s.t.args 0) (pat-23)).1.args 0,nth (aD s.f (nth s.t.args 0) (pat-23)).1.args 1,s.t.to,⟨0⟩⟩⟩ else none:=by
      unfold eh;rw[if_neg p1,if_neg p2,if_neg p3,if_neg p4,if_pos p5]
    have hfm:=gL (f:=s.f) (v:=nth s.t.args 0) (op:=pat-23)
    have hfo:=oH (s:=s) (v:=us) (x:=nth s.t.args 0) (op:=pat-23) (W:=W4) (h:=h4)
    have rng : ∀{hx:Heap} {Wx:View},Cx W h Wx hx (Own.upd (λ_=>RK) (0,0) (bx T.bc R (RawN.mk (n:=7) fitZ)))->True:=λ_=>trivial
    generalize hm:(aD s.f (nth s.t.args 0) (pat-23)).1=m at *
    generalize hbb:(aD s.f (nth s.t.args 0) (pat-23)).2=b at *
    have c:=c4
    have hrefl:(vw h4).le (vw h4):=View.le_refl _
    repeat' (first
      | refine eg ?_ ?_
      | (refine aw λx hx=>?_
         simp[s1,z1,x0,d0,hus,ew0,ew]
         first
         | refine c.bU (k:=(0,2)) (n:=4) (z:=.agg #[RG RH 0,RG RH 0,RG RH 0,RL RK 0 0,RG RI 0]) RA R1 rfl R4 R8 λBi h hle c=>?_
         | (refine ah R1 (oH c.wle rus hok.sm a0) ?_
            rw[hm,hbb]
            rintro _ h ⟨hle,vm,rfl,hvm⟩
            have hW:=c.up (h':=h)
            have c:=c.ext hle)
         | refine c.aK (k:=(0,2)) (n:=4) (l:=[RG RH 0,RG RH 0,RG RH 0,RL RK 0 0,RG RI 0]) RA (hvm.mono RC) rfl rfl R1 rfl rfl λh l10 hl10 c=>?_
         try refine⟨RC,?_⟩
         subst hx))
    all_goals
      simp
      subst hy
      have hvm0:=hvm
      obtain⟨a3,m3,k3,rfl⟩:=yr hvm0
      have hl10:=hl10
      have e10:l10=[RG RH m.op,RG RH m.dst,RG RH m.two,.slice a3 m3 k3,RG RI m.imm.v]:=by
        simp only[Value.agg.injEq]at hl10
        have:=congrArg Array.toList hl10
        simpa using this.symm
      subst e10
      have y10:=c.own.raw (k:=(0,2)) (n:=4) (l:=[RG RH m.op,RG RH m.dst,RG RH m.two,.slice a3 m3 k3,RG RI m.imm.v]) (B:=Bi) (e:=T.dR) RA (i:=3) R4
      simp at y10
      have hma:=BV hvm
      cases b with
      | false=>
        have he:eh s.f s.t pat=none:=by rw[hE];rfl
        refine aa λy hy=>?_
        simp
        refine ak (z:=.agg fitZ.toArray) (places:=[(0,1),(1,1),(2,1),(3,5)]) (vs:=[]) (cs:=fitZ.toArray) R1 R1 Sa R1 ?_
        refine c.aK (k:=(0,0)) (n:=7) (l:=fitZ) RA fP rfl rfl R1 rfl rfl λh9 l9 hl9 c9=>?_
        have hall:=c9.all (k:=(0,0)) (n:=7) (l:=l9) (B:=R) (e:=T.bc) RA
        simp at hall
        simp[hall]
        exact hK _ _ (bW.of c9 (hl9▸fP) (by rw[he];rfl) λy e=>by rw[he]at e;cases e)
      | true=>
        have he:eh s.f s.t pat=RJ ⟨m.args,s.t.args,[],⟨pat-31,nth m.args 0,nth m.args 1,s.t.to,⟨0⟩⟩⟩:=by rw[hE];rfl
        obtain⟨mm1,mm2,-⟩:=hfm rfl
        have hal2:=(hok.all _ mm1).two R3
        have hmost:=(hok.all _ mm1).most
        have r0:=hma.rng (i:=0) R3
        have r1:=hma.rng (i:=1) R3
        have x2':=hma.idx1 (k:=.i64) (i:=0) rfl R4 R3
        have x3':=hma.idx1 (k:=.i64) (i:=1) rfl R4 R3
        refine aa λy hy=>?_
        simp
        subst hy
        refine aa λy hy=>?_
        refine aH (vw h) RD ?_
        have d2':=hma.int (RE RC c.wle) (i:=0) R3
        have d3':=hma.int (RE RC c.wle) (i:=1) R3
        have s1h:=ae (RE RC c.wle) s1
        have d0h:=hva4.int (RE RC c.wle) (i:=0) al
        have hva5:=hva4.mono RC
        have hto5:=hto.mono RC
        have hma5:=hma.mono RC
        have hH:(vw h).le (vw h):=View.le_refl _
        have hr : ∀{X:View} {bA bB:Option Addr} {kA kB:Nat},SlRd X (.slice bA m.args.length kA) m.args->SlRd X (.slice bB s.t.args.length kB) s.t.args->SlRd X (.slice b0 s.t.to.length k0) s.t.to->Rd X (.agg #[.slice bA m.args.length kA,.slice bB s.t.args.length kB,RL RK 0 0,RG RH (pat-31),RG RH (nth m.args 0),RG RH (nth m.args 1),.slice b0 s.t.to.length k0,RG RI 0]) (⟨m.args,s.t.args,[],⟨pat-31,nth m.args 0,nth m.args 1,s.t.to,⟨0⟩⟩⟩:FitD):=λq1 q2 q3=>lR (ce:=[_,_,_,_,_]) q1 q2 aE (gO (imm:=⟨0⟩) R9 Sa q3)
        repeat' (first
          | refine eg ?_ ?_
          | (refine aw λx hx=>?_
             simp[y10,s1h,x2',x3',d2',d3',ew2]
             first
             | refine ak (t:=T.gA) (z:=.agg #[RG RH 0,RG RH 0,RG RH 0,RL RK 0 0,RG RI 0]) (places:=[(0,1),(1,1),(2,1),(3,1),(4,1)]) (vs:=[(0,RG RH (pat-31)),(1,RG RH (nth m.args 0)),(2,RG RH (nth m.args 1)),(3,.slice b0 s.t.to.length k0)]) (cs:=#[RG RH (pat-31),RG RH (nth m.args 0),RG RH (nth m.args 1),.slice b0 s.t.to.length k0,RG RI 0]) R1 R1 Sa (by simp[Instr.fill,Value.cells]) ?_
             | (refine ah R1 (eM c.wle (hma5.mono RC) R3) ?_
                rintro uA h ⟨hle,hcA⟩
                have hW:=c.up (h':=h)
                have c:=c.ext hle
                have hcA0:=hcA
                obtain⟨bA,kA,rfl,-⟩:=hcA0)
             | (refine ah R1 (eM c.wle (hva5.mono RC) R3) ?_
                rintro uB h ⟨hle,hcB⟩
                have hW:=c.up (h':=h)
                have c:=c.ext hle
                have hcB0:=hcB
                obtain⟨bB,kB,rfl,-⟩:=hcB0)
             | refine ak (t:=T.bc) (z:=.agg fitZ.toArray) (places:=[(0,1),(1,1),(2,1),(3,5)]) (vs:=[(0,.slice bA m.args.length kA),(1,.slice bB s.t.args.length kB),(3,.agg #[RG RH (pat-31),RG RH (nth m.args 0),RG RH (nth m.args 1),.slice b0 s.t.to.length k0,RG RI 0])]) (cs:=#[.slice bA m.args.length kA,.slice bB s.t.args.length kB,RL RK 0 0,RG RH (pat-31),RG RH (nth m.args 0),RG RH (nth m.args 1),.slice b0 s.t.to.length k0,RG RI 0]) R1 R1 Sa (by simp[Instr.fill,Value.cells]) ?_
             | refine c.aK (k:=(0,0)) (n:=7) (l:=fitZ) RA (hr (hcA.mono RC) (hcB.mono RC) (hto5.mono RC)) rfl rfl R1 rfl rfl λh l9 hl9 c=>?_
             try refine⟨RC,?_⟩
             subst hx))
        all_goals
          simp
          rw[hy]
          have hall:=c.all (k:=(0,0)) (n:=7) (l:=l9) (B:=R) (e:=T.bc) RA
          simp at hall
          simp[hall]
          exact hK _ _ (bW.of c (hl9▸hr (hcA.mono RC) (hcB.mono RC) (hto5.mono RC)) (by rw[he];rfl) λy e=>by rw[he]at e;cases e;rfl)
  refine ff (λρ h5=>h5=h4/\ρ=[(0,v),(1,RG RH pat),(2,ptr S),(4,ptr R),(5,.bool RO),(6,ptr Tb),(7,.slice b0 s.t.to.length k0),(13,ut),(16,.slice b0 s.t.to.length k0),(81,.bool RO),(83,.bool (inR pat 34 36))]) ?_ ?_
  · intro K2 hK2
    simp
    refine ah R1 jQ ?_
    rintro _ h4 ⟨rfl,rfl⟩
    by_cases e0:inR pat 34 36=RN
    · have e2:¬s.t.kind=2:=λe=>p5 ⟨by simpa[inR]using e0,e⟩
      simp[e0,z0,e2]
      exact hK2 _ _ ⟨rfl,by rw[e0]⟩
    · have e0:inR pat 34 36=false:=by simpa using e0
      simp[e0]
      exact hK2 _ _ ⟨rfl,by rw[e0]⟩
  rintro _ h4 ⟨rfl,rfl⟩
  subst hy
  refine aP Sa ?_
  refine aa λy hy=>?_
  by_cases p6:pat=37/\s.t.kind=3
  · have he:eh s.f s.t pat=RJ ⟨s.t.args,[],[],⟨6,nth s.t.args 0,0,s.t.to,⟨0⟩⟩⟩:=by unfold eh;rw[if_neg p1,if_neg p2,if_neg p3,if_neg p4,if_neg p5,if_pos p6]
    have al:=htk.one R3
    have a0:=hva4.rng (i:=0) al
    have x0:=hva4.idx1 (k:=.i64) (i:=0) rfl R4 R3
    have d0:=hva4.int (View.le_refl W4) (i:=0) al
    simp[p6.1,z0,p6.2]
    subst hy
    refine aN Sa ?_
    refine aa λy hy=>?_
    refine aH W4 c4.wle ?_
    simp[s1,x0,d0]
    refine⟨?_,?_⟩
    · refine ah R1 (eM c4.wle hva4 R3) ?_
      rintro ucl h5 ⟨hle5,hcl⟩
      have c5:=c4.ext hle5
      have hW5:=c4.up (h':=h5)
      refine⟨RE hW5 c5.wle,?_⟩
      have hcl0:=hcl
      obtain⟨b1,k1,rfl,-⟩:=hcl0
      generalize grow W4 h4 h5=W5 at *
      refine ak (t:=T.gA) (z:=.agg #[RG RH 0,RG RH 0,RG RH 0,RL RK 0 0,RG RI 0]) (places:=[(0,1),(1,1),(2,1),(3,1),(4,1)]) (vs:=[(0,RG RH 6),(1,RG RH (nth s.t.args 0)),(3,.slice b0 s.t.to.length k0)]) (cs:=#[RG RH 6,RG RH (nth s.t.args 0),RG RH 0,.slice b0 s.t.to.length k0,RG RI 0]) R1 R1 Sa (by simp[Instr.fill,Value.cells]) ?_
      refine⟨RE hW5 c5.wle,?_⟩
      refine ak (t:=T.bc) (z:=.agg fitZ.toArray) (places:=[(0,1),(1,1),(2,1),(3,5)]) (vs:=[(0,.slice b1 s.t.args.length k1),(3,.agg #[RG RH 6,RG RH (nth s.t.args 0),RG RH 0,.slice b0 s.t.to.length k0,RG RI 0])]) (cs:=#[.slice b1 s.t.args.length k1,RL RK 0 0,RL RK 0 0,RG RH 6,RG RH (nth s.t.args 0),RG RH 0,.slice b0 s.t.to.length k0,RG RI 0]) R1 R1 Sa (by simp[Instr.fill,Value.cells]) ?_
      have hr:Rd W5 (.agg #[.slice b1 s.t.args.length k1,RL RK 0 0,RL RK 0 0,RG RH 6,RG RH (nth s.t.args 0),RG RH 0,.slice b0 s.t.to.length k0,RG RI 0]) (⟨s.t.args,[],[],⟨6,nth s.t.args 0,0,s.t.to,⟨0⟩⟩⟩:FitD):=lR (ce:=[_,_,_,_,_]) hcl aE aE (gO (imm:=⟨0⟩) R9 Sa (hto.mono hW5))
      refine c5.aK (k:=(0,0)) (n:=7) (l:=fitZ) RA hr rfl rfl R1 rfl rfl λh9 l9 hl9 c9=>?_
      subst hy
      have hall:=c9.all (k:=(0,0)) (n:=7) (l:=l9) (B:=R) (e:=T.bc) RA
      simp at hall
      simp[hall]
      exact hK _ _ (bW.of c9 (hl9▸hr) (by rw[he];rfl) λy e=>by rw[he]at e;cases e;rfl)
    · refine ak (t:=T.gA) (z:=.agg #[RG RH 0,RG RH 0,RG RH 0,RL RK 0 0,RG RI 0]) (places:=[(0,1),(1,1),(2,1),(3,1),(4,1)]) (vs:=[(0,RG RH 6),(1,RG RH (nth s.t.args 0)),(3,.slice b0 s.t.to.length k0)]) (cs:=#[RG RH 6,RG RH (nth s.t.args 0),RG RH 0,.slice b0 s.t.to.length k0,RG RI 0]) R1 R1 Sa (by simp[Instr.fill,Value.cells]) ?_
      refine⟨c4.wle,?_⟩
      refine ah R1 (eM c4.wle hva4 R3) ?_
      rintro ucl h5 ⟨hle5,hcl⟩
      have c5:=c4.ext hle5
      have hW5:=c4.up (h':=h5)
      refine⟨RE hW5 c5.wle,?_⟩
      have hcl0:=hcl
      obtain⟨b1,k1,rfl,-⟩:=hcl0
      generalize grow W4 h4 h5=W5 at *
      refine ak (t:=T.bc) (z:=.agg fitZ.toArray) (places:=[(0,1),(1,1),(2,1),(3,5)]) (vs:=[(0,.slice b1 s.t.args.length k1),(3,.agg #[RG RH 6,RG RH (nth s.t.args 0),RG RH 0,.slice b0 s.t.to.length k0,RG RI 0])]) (cs:=#[.slice b1 s.t.args.length k1,RL RK 0 0,RL RK 0 0,RG RH 6,RG RH (nth s.t.args 0),RG RH 0,.slice b0 s.t.to.length k0,RG RI 0]) R1 R1 Sa (by simp[Instr.fill,Value.cells]) ?_
      have hr:Rd W5 (.agg #[.slice b1 s.t.args.length k1,RL RK 0 0,RL RK 0 0,RG RH 6,RG RH (nth s.t.args 0),RG RH 0,.slice b0 s.t.to.length k0,RG RI 0]) (⟨s.t.args,[],[],⟨6,nth s.t.args 0,0,s.t.to,⟨0⟩⟩⟩:FitD):=lR (ce:=[_,_,_,_,_]) hcl aE aE (gO (imm:=⟨0⟩) R9 Sa (hto.mono hW5))
      refine c5.aK (k:=(0,0)) (n:=7) (l:=fitZ) RA hr rfl rfl R1 rfl rfl λh9 l9 hl9 c9=>?_
      subst hy
      have hall:=c9.all (k:=(0,0)) (n:=7) (l:=l9) (B:=R) (e:=T.bc) RA
      simp at hall
      simp[hall]
      exact hK _ _ (bW.of c9 (hl9▸hr) (by rw[he];rfl) λy e=>by rw[he]at e;cases e;rfl)
  refine ff (λρ h5=>h5=h4/\ρ=[(0,v),(1,RG RH pat),(2,ptr S),(4,ptr R),(5,.bool RO),(6,ptr Tb),(7,.slice b0 s.t.to.length k0),(13,ut),(16,.slice b0 s.t.to.length k0),(83,.bool (inR pat 34 36)),(124,.bool RO)]) ?_ ?_
  · intro K2 hK2
    by_cases e0:pat=37
    · have e2:¬s.t.kind=3:=λe=>p6 ⟨e0,e⟩
      simp[e0,z0,e2]
      exact hK2 _ _ ⟨rfl,by rw[e0]⟩
    · simp[e0,z0]
      exact hK2 _ _ ⟨rfl,rfl⟩
  rintro _ h4 ⟨rfl,rfl⟩
  subst hy
  refine aP Sa ?_
  have he:eh s.f s.t pat=none:=by unfold eh;rw[if_neg p1,if_neg p2,if_neg p3,if_neg p4,if_neg p5,if_neg p6]
  simp
  subst hz
  refine aa λz hz=>?_
  simp
  refine ak (z:=.agg fitZ.toArray) (places:=[(0,1),(1,1),(2,1),(3,5)]) (vs:=[]) (cs:=fitZ.toArray) R1 R1 Sa R1 ?_
  refine c4.aK (k:=(0,0)) (n:=7) (l:=fitZ) RA fP rfl rfl R1 rfl rfl λh9 l9 hl9 c9=>?_
  subst hz
  have hall:=c9.all (k:=(0,0)) (n:=7) (l:=l9) (B:=R) (e:=T.bc) RA
  simp at hall
  simp[hall]
  exact hK _ _ (bW.of c9 (hl9▸fP) (by rw[he];rfl) λy e=>by rw[he]at e;cases e)
end Go.Proofs.YtnfiilgdjpdlkaaGreatDoor
namespace Go.Proofs.YtnfiilgdjpdlkaaGreatDoor
open Go Go.Lft
variable{W:View}
theorem Cx.upW{V W':View}{h0 h h':Heap}{o:Own}(c:Cx V h0 W h o)(hle:(vw h).le (vw h'))(u:Up W h W')(hW:W'.le (vw h')):Cx V h0 W' h' o:=by
 have A : ∀k i b,o k=RJ i->i.v.ownBlock=RJ b->W' b=none:=λk i b hk hb=>by
  have hlt:=c.own.lt hk hb;have hav:=c.own.av k i hk b hb;cases hx:W' b with
  | none=>rfl
  | some x=>rw[u.old b x hlt hx]at hav;cases hav
 exact⟨(c.own.ext' hle).Kf u.le hW A,λb x hb hx=>c.old b x hb (u.old b x (QA hb (cw c.le0)) hx),RE c.le0 hle,c.new⟩
theorem KR{s:cn}{v:Value}{pat:Int}{h:Heap}(hW:W.le (vw h))(hv:Rd W v s)(hok:s.term=RO->nz s)(htk:s.term=RN->nz s/\vx s.t)(hM:s.i.op=15\/s.i.op=16->lY)(hp:I64 pat):
  az RP 39 #[v,RG RH pat] h (λu h'=>bW W h h' u (tryS s pat)):=by
 refine ao (args:=[v,RG RH pat]) follows Tryz.func39 E.lj RB λK hK=>?_;dsimp only[L.lj,lkF,lkG];have c0:=Cx.start hW;refine aa λz hz=>?_;simp;refine c0.cu rfl hv λS h1 W1 hW1 c1 at1 hle1=>?_;refine c1.bU (k:=(0,0)) (n:=7) (z:=.agg fitZ.toArray) rfl R1 rfl R4 R8 λR h2 hle2 c2=>?_;subst hz;have tm:=(at1.part cn.mY).bool;have tm:an W1 ⟨S,11,RK⟩=RJ (.bool s.term):=by simpa using tm
 have tm:=ae c2.wle tm;obtain⟨us,hus,rus⟩:=at1.ldN rfl (N:=13) rfl;have hus:=hus _ c2.wle;refine aa λz hz=>?_;cases ht:s.term with
 | true=>
  rw[ht]at tm;obtain⟨hk1,hk2⟩:=htk ht;have e:tryS s pat=eh s.f s.t pat:=by unfold tryS;rw[if_pos ht]
  rw[e]at hK;simp[tm,hus];refine ah R1 (Lv c2.wle rus hk1 hk2 hp) ?_;rintro _ h3 ⟨hle3,vf,x,rfl,hvf,hx⟩;have c3:=c2.ext hle3;simp;refine c3.aK (k:=(0,0)) (n:=7) (l:=fitZ) RA hvf rfl rfl R1 rfl rfl λh9 l9 hl9 c9=>?_;have hall:=c9.all (k:=(0,0)) (n:=7) (l:=l9) (B:=R) (e:=T.bc) RA;simp at hall;simp[hall];exact hK _ _ (bW.of c9 (hl9▸hvf) rfl hx)
 | false=>
  rw[ht]at tm;have e:tryS s pat=patS s.f s.i s.temp pat:=by unfold tryS;rw[ht];rfl
  rw[e]at hK;simp[tm];subst hz;refine aa λz hz=>?_;simp[hus];refine ah R1 (Bw c2.wle rus (hok ht) ht hM) ?_;rintro _ h3 ⟨r,W3,rfl,u3,p3,hle3⟩;have c3:=Cx.upW c2 hle3 u3 p3.wle;obtain⟨g,g1,g2,g3⟩:=p3.ex;refine nJ (f:=mapE id g) (z:=.nilFunc) (k:=T.int) (e:=T.gE) (d:=.int .i64) (r:=r) (u:=RG RH pat) U.cQ U.int R1 rfl rfl fH g1 ?_;simp;subst hz;refine aa λz hz=>?_;have g2p:=g2 pat;have g3p:=g3 pat;cases hg:g pat with
  | none=>
   rw[hg]at g2p;have e0:patS s.f s.i s.temp pat=none:=by unfold patS;rw[if_neg];rintro⟨a1,a2,-⟩;simp[nTo]at g2p;omega
   rw[e0]at hK;simp;refine ak (t:=T.bc) (z:=.agg fitZ.toArray) (places:=[(0,1),(1,1),(2,1),(3,5)]) (vs:=[]) (cs:=fitZ.toArray) R1 R1 Sa R1 ?_;refine c3.aK (k:=(0,0)) (n:=7) (l:=fitZ) RA fP rfl rfl R1 rfl rfl λh9 l9 hl9 c9=>?_;have hall:=c9.all (k:=(0,0)) (n:=7) (l:=l9) (B:=R) (e:=T.bc) RA;simp at hall;simp[hall];exact hK _ _ (bW.of c9 (hl9▸fP) rfl λy e=>by cases e)
  | some fv=>obtain⟨fn,caps,rfl,hfn,hcall⟩:=(g3p fv hg).ex;simp;subst hz;refine aa λz hz=>?_;simp;refine bV (ops:=[]) rfl hfn (by simpa using hcall h3 W3 RD p3.wle) ?_;rintro _ h4 ⟨hle4,vf,x,rfl,hvf,hx⟩;have c4:=c3.ext hle4;simp;refine c4.aK (k:=(0,0)) (n:=7) (l:=fitZ) RA hvf rfl rfl R1 rfl rfl λh9 l9 hl9 c9=>?_;subst hz;have hall:=c9.all (k:=(0,0)) (n:=7) (l:=l9) (B:=R) (e:=T.bc) RA;simp at hall;simp[hall];exact hK _ _ (bW.of c9 (hl9▸hvf) rfl hx)
abbrev RSt:=List Bool × List Int
def kE (wo:Int) (to:List Int) (k:Nat) (s:RSt):RSt:=
 if(0<=nth to k/\nth to k<s.1.length)/\nth s.1 (nth to k).toNat=RO/\nth to k≠wo then(s.1.set (nth to k).toNat RN,s.2++[nth to k]) else s
def yh (f:aq) (wo:Int) (i:Nat) (s:RSt):RSt:=up (kE wo (nth f.blocks (nth s.2 i).toNat).term.to) (nth f.blocks (nth s.2 i).toNat).term.to.length s
def rchS (f:aq) (wo:Int):Nat->Nat->RSt->RSt
 | 0,_,s=>s
 | n+1,i,s=>if i<s.2.length then rchS f wo n (i+1) (yh f wo i s) else s
def rch0 (f:aq) (wo:Int):RSt:=if wo≠0/\0<f.blocks.length then((List.replicate f.blocks.length RO).set 0 RN,[0]) else(List.replicate f.blocks.length RO,[])
def dF (f:aq) (wo:Int):List Bool:=(rchS f wo (f.blocks.length+1) 0 (rch0 f wo)).1
structure ROk (n:Nat) (s:RSt):Prop where
 len:s.1.length=n
 cnt:s.2.length+dH s.1<=n
 rng : ∀x∈s.2,0<=x/\x<n
variable{wo:Int}
theorem CH{n:Nat}{to:List Int}{k:Nat}{s:RSt}(h:ROk n s):ROk n (kE wo to k s):=by
 unfold kE;split
 ·rename_i hc;have hf:=jR (t:=s.1) (i:=(nth to k).toNat) R3 hc.2.1;refine⟨by simpa using h.len,?_,λx hx=>?_⟩
  ·have:=h.cnt;simp only[N1,OC];omega
  rcases NU.1 hx with hx | hx
  ·exact h.rng x hx
  rw[NW.1 hx,<-h.len];exact hc.1
 exact h
theorem xx{n:Nat}{to:List Int}{s:RSt}(h:ROk n s)(m:Nat):ROk n (up (kE wo to) m s):=ug (ROk n) (λk x hx=>CH hx) m s h
theorem zW{f:aq}:ROk f.blocks.length (rch0 f wo):=by
 unfold rch0;have hfa:dH (List.replicate f.blocks.length RO)=f.blocks.length:=by simp[dH]
 split
 ·rename_i hc;have hf:=jR (t:=List.replicate f.blocks.length RO) (i:=0) (by simpa using hc.2) (by rw[aA (by simpa using hc.2)];simp);exact⟨by simp,by simp only[OC];omega,λx hx=>by rw[NW.1 hx];omega⟩
 exact⟨by simp,by simp only[Qy];omega,λx hx=>by cases hx⟩
theorem Ev {f:aq} {wo:Int} : ∀{m i:Nat} {s:RSt},ROk f.blocks.length s->ROk f.blocks.length (rchS f wo m i s)
 | 0,_,_,h=>h
 | m+1,i,s,h=>by
  rw[rchS];split
  ·exact Ev (xx h _)
  exact h
theorem my{f:aq}:(dF f wo).length=f.blocks.length:=(Ev zW).len
def sO (vo vq:Value) (s:RSt):Own:=λk=>if k=(0,0) then it T.bool vo s.1 else if k=(0,1) then it T.int vq s.2 else RK
theorem oW{f:aq}{v:Value}{h:Heap}(hv:Rd (vw h) v f)(hn:f.blocks.length<=1000000):
  az RP 53 #[v,RG RH wo] h (λu h'=>(vw h).le (vw h')/\SlRd (fresh h h') u (dF f wo)):=by
 refine ao (args:=[v,RG RH wo]) follows Tryz.func53 E.cr RB λK hK=>?_;dsimp only[L.cr,lkF,lkG];refine aa λz hz=>?_;simp;refine fW rfl hv λh1 _ hle1 hsz1 hat=>?_;obtain⟨_,vb,cb⟩:=gH hat;generalize h.size=B at cb;subst hz;refine aa λz hz=>?_;simp[cb.1,cb.2.len];refine mH (α:=Bool) (W:=vw h1) (k:=.i64) (n:=f.blocks.length) (d:=false) El.lQ Sa Sa rfl R3 R3 λvo h2 o2 m2 hle2 hb2=>?_;have w2:=(Owns.start (h:=h1) (View.le_refl (vw h1))).add (k:=(0,0)) rfl o2 hle2 (λb hb=>by rw[hb2]at hb;cases hb;exact NO _);subst hz;refine aa λz hz=>?_;simp;refine rM (α:=Int) El.aQ λh3 hle3 hsz3 own3=>?_;have w3:=w2.add (k:=(0,1)) rfl (own3 _) hle3 (λb hb=>by simp only[Value.ownBlock,NN]at hb;omega);have w3:Owns (vw h1) h3 (sO vo (RL (RJ ⟨h2.size,0,RK⟩) 0 0) (List.replicate f.blocks.length RO,[])):=w3.congr λq=>by
  unfold sO Own.upd;repeat' split
  all_goals first | rfl | simp_all
 generalize RL (RJ ⟨h2.size,0,RK⟩) 0 0=vq at w3;subst hz;refine aa λz hz=>?_;have cc3:=ae w3.wle cb.1;have cb3:=cb.2.mono w3.wle;have fin : ∀(h4:Heap) (vq:Value) (tl:Env),Owns (vw h1) h4 (sO vo vq (rch0 f wo))->@LC.wp noPP RP z (@cO [.tmp 4] K) ([(0,v),(1,RG RH wo),(2,RM (RJ ⟨B,0,RK⟩)),(4,RL RK 0 0),(5,vo),(6,vq)]++tl) h4:=by
  intro h4 vq tl w4;subst hz;refine aa λz hz=>?_;simp;refine gY [1,2,5,6,7] (λm ρ h5=>∃(i:Nat) (s:RSt) (vq:Value),i<=f.blocks.length/\m=f.blocks.length+1-i/\ρ=[(1,RG RH wo),(2,RM (RJ ⟨B,0,RK⟩)),(5,vo),(6,vq),(7,RG RH i)]/\Owns (vw h1) h5 (sO vo vq s)/\ROk f.blocks.length s/\
   (rchS f wo m i s).1=dF f wo) (f.blocks.length+1) ⟨0,_,vq,by omega,rfl,by simp[bF,af],w4,zW,rfl⟩ ?_;rintro m ρ h5 ⟨i,s,vq5,hi,rfl,rfl,w5,hok,hfin⟩ K2 hK2;have no:=w5.now (k:=(0,0)) (v:=vo) (l:=s.1) rfl;have nq:=w5.now (k:=(0,1)) (v:=vq5) (l:=s.2) rfl;have hcnt:=hok.cnt;by_cases hlt:i<s.2.length
  ·have hm:f.blocks.length+1-i=(f.blocks.length-i)+1:=by omega
   rw[hm,rchS,if_pos hlt]at hfin;obtain⟨r0,r1⟩:=hok.rng _ (bz hlt);have cb5:=cb.2.mono w5.wle;obtain⟨w,hw⟩:=Ai cb5 (i:=(nth s.2 i).toNat) R3;obtain⟨w',hw'⟩:=Ai cb.2 (i:=(nth s.2 i).toNat) R3;have eww:w'=w:=Option.some.inj ((ae w5.wle hw'.1).symm.trans hw.1);rw[eww]at hw';have hwb:=hw.2.bound;have hrow:yh f wo i s=up (kE wo (nth f.blocks (nth s.2 i).toNat).term.to) (nth f.blocks (nth s.2 i).toNat).term.to.length s:=rfl;rw[hrow]at hfin;generalize hto:(nth f.blocks (nth s.2 i).toNat).term.to=to at hw hw' hwb hfin;refine aa λy hy=>?_;simp(disch:=omega)[nq.len,hlt];subst hy;refine aa λy hy=>?_;refine aa λx hx=>?_;simp(disch:=omega)[ae w5.wle cb.1,cb5.idxn (N:=6) rfl,nq.idx1 rfl,nq.int RD,hw.1];subst hx;simp;refine bX [1,2,5,6,7,8,9] (fun(q:Value) j=>[RG RH wo,RM (RJ ⟨B,0,RK⟩),vo,q,RG RH i,w,RG RH j]) (λq j h6=>Owns (vw h1) h6 (sO vo q (up (kE wo to) j s))) to.length vq5
    rfl R3 rfl w5 (λ_ _=>rfl) (λv j h4 hk m=>by simp[hw.2.len]) ?_ ?_
   ·rintro q j h6 hltj w6 K3 hK3;have hst:up (kE wo to) (j+1) s=kE wo to j (up (kE wo to) j s):=rfl;have hok6:=xx (wo:=wo) (to:=to) hok j;generalize up (kE wo to) j s=s6 at w6 hst hok6;have no6:=w6.now (k:=(0,0)) (v:=vo) (l:=s6.1) rfl;have nq6:=w6.now (k:=(0,1)) (v:=q) (l:=s6.2) rfl;have hcnt6:=hok6.cnt;have hlen6:=hok6.len;have hr6:=hw'.2.mono w6.wle;have hrng:=hw'.2.range hltj;rw[kE]at hst;by_cases c1:0<=nth to j/\nth to j<s6.1.length
    ·have c1a:=c1.1;have c1b:=c1.2;cases c2:nth s6.1 (nth to j).toNat with
     | true=>rw[if_neg (by rw[c2];simp)]at hst;simp(disch:=omega)[hr6.idx1 rfl,hr6.int RD,no6.len,no6.idx1 rfl,no6.bool RD,c1a,c1b,c2];exact hK3 q _ _ rfl rfl (by rw[hst];exact w6)
     | false=>
      by_cases c3:nth to j=wo
      ·rw[if_neg (by simp[c3])]at hst;rw[c3]at c1a c1b c2;simp(disch:=omega)[hr6.idx1 rfl,hr6.int RD,no6.len,no6.idx1 rfl,no6.bool RD,c1a,c1b,c2,c3];exact hK3 q _ _ rfl rfl (by rw[hst];exact w6)
      rw[if_pos ⟨c1,c2,c3⟩]at hst;refine aa λx hx=>?_;simp(disch:=omega)[hr6.idx1 rfl,hr6.int RD,no6.len,no6.idx1 rfl,no6.bool RD,c1a,c1b,c2,c3];subst hx;simp(disch:=omega)[hr6.idx1 rfl,hr6.int RD,no6.idx1 rfl];refine w6.aK (k:=(0,0)) (α:=Bool) (l:=s6.1) (v:=vo) (i:=(nth to j).toNat) (d:=true) rfl R1 (by simp[show Rep.n Bool=1 from rfl]) (by simp<;>rfl) R3 JB λh7 w7 hs7=>?_;have hr7:=hw'.2.mono w7.wle;simp(disch:=omega)[hr7.idx1 rfl,hr7.int RD];refine w7.jl (k:=(0,1)) (α:=Int) (v:=q) (l:=s6.2) (d:=nth to j) rfl El.aQ (by simp<;>rfl) (pZ hrng.1 hrng.2) R3 R3 R5 R5 λu q8 h8 w8 hs8=>?_;refine hK3 q8 _ _ rfl rfl ?_;rw[hst];refine w8.congr λq=>?_;unfold sO Own.upd;repeat' split
      all_goals first | rfl | simp_all
    rw[if_neg (λe=>c1 e.1)]at hst;by_cases c1a:0<=nth to j
    ·have c1b:¬nth to j<s6.1.length:=λe=>c1 ⟨c1a,e⟩;simp(disch:=omega)[hr6.idx1 rfl,hr6.int RD,no6.len,c1a,c1b];exact hK3 q _ _ rfl rfl (by rw[hst];exact w6)
    simp(disch:=omega)[hr6.idx1 rfl,hr6.int RD,no6.len,c1a];exact hK3 q _ _ rfl rfl (by rw[hst];exact w6)
   rintro q h6 w6;simp;subst hy;simp(disch:=omega);exact hK2 (f.blocks.length+1-(i+1)) _ _ R3 ⟨i+1,_,q,by omega,rfl,by simp[bF],w6,xx hok _,by rw[show f.blocks.length+1-(i+1)=f.blocks.length-i by omega];exact hfin⟩
  have hlt':¬(i:Int)<s.2.length:=by omega
  simp(disch:=omega)[L.cr.l1,nq.len,hlt];subst hz;simp;have hs1:s.1=dF f wo:=by
   rw[<-hfin];cases f.blocks.length+1-i with
   | zero=>rfl
   | succ m=>rw[rchS,if_neg hlt]
  have ow:=w5.get (k:=(0,0)) (v:=vo) (l:=s.1) rfl;refine hK _ _ ⟨RE hle1 w5.wle,?_⟩;rw[<-hs1];have ow':OwnT nothing h5 T.bool vo s.1:=ow;refine ow'.fresh (λ_ _ h=>by cases h) λb hb=>?_;rw[hb2]at hb;cases hb;exact View.cM RD R3
 by_cases c1:wo=0
 ·have hr0:rch0 f wo=(List.replicate f.blocks.length RO,[]):=by rw[rch0,if_neg (λe=>e.1 c1)]
  rw[hr0]at fin;simp[cc3,cb3.len,c1];rw[c1]at fin;exact fin _ _ _ w3
 by_cases c2:0<f.blocks.length
 ·have hr0:rch0 f wo=((List.replicate f.blocks.length RO).set 0 RN,[0]):=by rw[rch0,if_pos ⟨c1,c2⟩]
  rw[hr0]at fin;have no:=w3.now (k:=(0,0)) (v:=vo) (l:=List.replicate f.blocks.length RO) rfl;refine aa λy hy=>?_;simp(disch:=omega)[cc3,cb3.len,c1,c2];subst hy;have i0:Bn.ev (.idx 1) vo (RG RH 0)=RJ (RM (RJ ((slA vo).add 0))):=no.idx1 rfl R3 (by simpa using c2);simp(disch:=omega)[i0];refine w3.aK (k:=(0,0)) (α:=Bool) (l:=List.replicate f.blocks.length RO) (v:=vo) (i:=0) (d:=true) rfl R1 (by simp[show Rep.n Bool=1 from rfl]) (by simp<;>rfl) (by simpa using c2) JB λh4 w4 hs4=>?_;refine w4.jl (k:=(0,1)) (α:=Int) (v:=vq) (l:=[]) (d:=0) rfl El.aQ (by simp<;>rfl) (pZ R3 R3) Sa Sa R5 R5 λu q5 h5 w5 hs5=>?_;refine fin _ _ _ (w5.congr λq=>?_);unfold sO Own.upd;repeat' split
  all_goals first | rfl | simp_all
 have hr0:rch0 f wo=(List.replicate f.blocks.length RO,[]):=by rw[rch0,if_neg (λe=>c2 e.2)]
 rw[hr0]at fin;simp[cc3,cb3.len,c1,c2];exact fin _ _ _ w3
theorem oR{l:List BlkD}:(ofG l).length=l.length:=by simp[ofG]
variable{b:Int}
theorem te{l:List BlkD}{a:Int}:oE (ofG l) a b=RN↔(0<=a/\a<l.length/\0<=b/\b<l.length)/\b∈(nth l a.toNat).term.to:=by
 rw[iY,oR];constructor
 ·rintro⟨h,hm⟩;rw[ofG,gG R3,uN]at hm;exact⟨h,hm.1⟩
 rintro⟨h,hm⟩;refine⟨h,?_⟩;rw[ofG,gG R3,uN];exact⟨hm,h.2.2.1,h.2.2.2⟩
structure Rb (f:aq) (wo:Int) (s:RSt):Prop where
 ok:ROk f.blocks.length s
 seen : ∀b:Nat,b<f.blocks.length->(nth s.1 b=RN↔(b:Int)∈s.2)
 sound : ∀x∈s.2,Re (ofG f.blocks) wo x.toNat
theorem Ms{f:aq}{a:Int}{k:Nat}{s:RSt}(h:Rb f wo s)(h0:0<=a)(h1:a<f.blocks.length)(ha:Re (ofG f.blocks) wo a.toNat)(hk:k<(nth f.blocks a.toNat).term.to.length):
  Rb f wo (kE wo (nth f.blocks a.toNat).term.to k s)/\s.2 <+: (kE wo (nth f.blocks a.toNat).term.to k s).2/\
   (0<=nth (nth f.blocks a.toNat).term.to k->nth (nth f.blocks a.toNat).term.to k<f.blocks.length->nth (nth f.blocks a.toNat).term.to k≠wo->nth (nth f.blocks a.toNat).term.to k∈(kE wo (nth f.blocks a.toNat).term.to k s).2):=by
 have hok:=CH (wo:=wo) (to:=(nth f.blocks a.toNat).term.to) (k:=k) h.ok;have hm:=bz hk;unfold kE at hok ⊢;generalize hto:(nth f.blocks a.toNat).term.to=to at hm hok ⊢;split
 ·rename_i hc;rw[if_pos hc]at hok;obtain⟨⟨c1,c2⟩,c3,c4⟩:=hc;rw[h.ok.len]at c2;have hb:((nth to k).toNat:Int)=nth to k:=N9 c1;refine⟨⟨hok,λb hb=>?_,λx hx=>?_⟩,List.prefix_append _ _,λ_ _ _=>O6 _ (NW.2 rfl)⟩
  ·rw[NU,NW];by_cases he:b=(nth to k).toNat
   ·subst he;rw[bN (by rw[h.ok.len];omega),if_pos rfl];exact⟨λ_=>.inr (N9 c1),λ_=>rfl⟩
   rw[bN (by rw[h.ok.len];exact hb),if_neg (λe=>he e.symm),h.seen b hb];exact⟨.inl,λe=>e.resolve_right R3⟩
  rcases NU.1 hx with hx | hx
  ·exact h.sound x hx
  rw[NW.1 hx];refine .step ha ?_ (by rw[hb];exact c4);rw[te,hb];exact⟨⟨by omega,by omega,c1,c2⟩,by rw[Ow,hto];exact hm⟩
 rename_i hc;rw[if_neg hc]at hok;refine⟨h,PU _,λc1 c2 c4=>?_⟩;have hb:((nth to k).toNat:Int)=nth to k:=N9 c1;rw[<-hb,<-h.seen _ R3];cases e:nth s.1 (nth to k).toNat with
 | true=>rfl
 | false=>exact absurd ⟨⟨c1,by rw[h.ok.len];exact c2⟩,e,c4⟩ hc
theorem Hl {f:aq} {wo a:Int} {s:RSt} (h:Rb f wo s) (h0:0<=a) (h1:a<f.blocks.length) (ha:Re (ofG f.blocks) wo a.toNat) : ∀m,m<=(nth f.blocks a.toNat).term.to.length->
  Rb f wo (up (kE wo (nth f.blocks a.toNat).term.to) m s)/\s.2 <+: (up (kE wo (nth f.blocks a.toNat).term.to) m s).2/\
   ∀k,k<m->0<=nth (nth f.blocks a.toNat).term.to k->nth (nth f.blocks a.toNat).term.to k<f.blocks.length->nth (nth f.blocks a.toNat).term.to k≠wo->nth (nth f.blocks a.toNat).term.to k∈(up (kE wo (nth f.blocks a.toNat).term.to) m s).2
 | 0,_=>⟨h,PU _,λk hk=>by omega⟩
 | m+1,hm=>by
  obtain⟨i1,i2,i3⟩:=Hl h h0 h1 ha m R3;obtain⟨j1,j2,j3⟩:=Ms (k:=m) i1 h0 h1 ha R3;rw[up];refine⟨j1,i2.trans j2,λk hk c1 c2 c3=>?_⟩;rcases NQ k m with hlt | hge
  ·exact j2.subset (i3 k hlt c1 c2 c3)
  have:k=m:=by omega
  subst this;exact j3 c1 c2 c3
structure Rc (f:aq) (wo:Int) (i:Nat) (s:RSt):Prop where
 b:Rb f wo s
 root:wo≠0->0<f.blocks.length->(0:Int)∈s.2
 done : ∀j,j<i->j<s.2.length->∀b:Nat,oE (ofG f.blocks) (nth s.2 j) b=RN->(b:Int)≠wo->(b:Int)∈s.2
variable{α:Type}
theorem EL[Inhabited α]{a b:List α}(h:a <+: b){i:Nat}(hi:i<a.length):nth b i=nth a i:=by obtain⟨t,rfl⟩:=h;rw[aA R9,aA hi,Qv hi]
theorem JN{f:aq}{i:Nat}{s:RSt}(h:Rc f wo i s)(hi:i<s.2.length):Rc f wo (i+1) (yh f wo i s)/\s.2 <+: (yh f wo i s).2:=by
 have hm:=bz hi;obtain⟨h0,h1⟩:=h.b.ok.rng _ hm;have hre:=h.b.sound _ hm;obtain⟨i1,i2,i3⟩:=Hl h.b h0 h1 hre _ (NO _);have he:yh f wo i s=up (kE wo (nth f.blocks (nth s.2 i).toNat).term.to) (nth f.blocks (nth s.2 i).toNat).term.to.length s:=rfl;rw[<-he]at i1 i2 i3;refine⟨⟨i1,λa b=>i2.subset (h.root a b),λj hj hjl b hb hne=>?_⟩,i2⟩;rcases NQ j i with hlt | hge
 ·rw[EL i2 R3]at hb;exact i2.subset (h.done j hlt R3 b hb hne)
 have:j=i:=by omega
 subst this;rw[EL i2 hi,te]at hb;obtain⟨⟨_,_,q1,q2⟩,hmem⟩:=hb;obtain⟨k,hk,e⟩:=N7 hmem;rw[<-aA hk]at e;rw[<-e];exact i3 k hk R3 R3 (by rw[e];exact hne)
theorem Hd {f:aq} {wo:Int} : ∀{m i:Nat} {s:RSt},Rc f wo i s->f.blocks.length<i+m->∃k,Rc f wo k (rchS f wo m i s)/\(rchS f wo m i s).2.length<=k
 | 0,i,s,h,hm=>⟨i,h,by have:=h.b.ok.cnt;rw[rchS];omega⟩
 | m+1,i,s,h,hm=>by
  rw[rchS];split
  ·rename_i hi;exact Hd (JN h hi).1 R3
  rename_i hi;exact⟨i,h,by omega⟩
theorem Jl{f:aq}:Rc f wo 0 (rch0 f wo):=by
 have hok:=zW (f:=f) (wo:=wo);unfold rch0 at hok ⊢;split
 ·rename_i hc;rw[if_pos hc]at hok;refine⟨⟨hok,λb hb=>?_,λx hx=>?_⟩,λ_ _=>NW.2 rfl,λj hj=>by omega⟩
  ·rw[bN (by simpa using hb),NW];split
   ·rename_i e;subst e;simp
   rename_i e;rw[aA (by simpa using hb)];simp;omega
  rw[NW.1 hx];exact .root (by rw[oR];exact hc.2) hc.1
 rename_i hc;rw[if_neg hc]at hok;refine⟨⟨hok,λb hb=>?_,λx hx=>by cases hx⟩,λa b=>absurd ⟨a,b⟩ hc,λj hj=>by omega⟩;rw[aA (by simpa using hb)];simp
theorem j0{f:aq}{b:Nat}(hb:b<f.blocks.length):nth (dF f wo) b=RN↔Re (ofG f.blocks) wo b:=by
 obtain⟨k,h,hk⟩:=Hd (Jl (f:=f) (wo:=wo)) (m:=f.blocks.length+1) R3;unfold dF;generalize rchS f wo (f.blocks.length+1) 0 (rch0 f wo)=s at h hk;rw[h.b.seen b hb];constructor
 ·exact λhm=>by simpa using h.b.sound _ hm
 intro hr;induction hr with
 | root h1 h2=>exact h.root h2 (by rw[<-oR];exact h1)
 | @step a b ha he hne ih=>have hm:=ih (by have:=(te.1 he).1;omega);obtain⟨j,hj,e⟩:=N7 hm;rw[<-aA hj]at e;exact h.done j R3 hj b (by rw[e];exact he) hne
instance:Rep Th:=Rep.via λd=>Cat.mk d.blk (Cat.mk d.place (Cat.mk d.mks d.tks))
theorem Th.zi:Part Th Int 0 Th.blk (λd x=>{ d with blk:=x }):=(Part.fst Part.all).via (λ_=>rfl) λ_ _=>rfl
theorem Th.Et:Part Th Int 1 Th.place (λd x=>{ d with place:=x }):=(Part.snd (Part.fst Part.all)).via (λ_=>rfl) λ_ _=>rfl
theorem Th.BI:Part Th (List Int) 2 Th.mks (λd x=>{ d with mks:=x }):=(Part.snd (Part.snd (Part.fst Part.all))).via (λ_=>rfl) λ_ _=>rfl
theorem Th.Bq:Part Th (List Int) 3 Th.tks (λd x=>{ d with tks:=x }):=(Part.snd (Part.snd (Part.snd Part.all))).via (λ_=>rfl) λ_ _=>rfl
structure ThR where
 blk:Int
 place:Int
 mks:List Int
 tks:Raw
instance:Rep ThR:=Rep.via λd=>Cat.mk d.blk (Cat.mk d.place (Cat.mk d.mks d.tks))
theorem ThR.Bq:Part ThR Raw 3 ThR.tks (λd x=>{ d with tks:=x }):=(Part.snd (Part.snd (Part.snd Part.all))).via (λ_=>rfl) λ_ _=>rfl
theorem Bl{H:View}{a:Int}{u q:Value}{m t:List Int}(ha:I64 a)(hb:I64 b)(hm:SlRd H u m)(ht:SlRd H q t):Rd H (.agg #[RG RH a,RG RH b,u,q]) (Th.mk a b m t):=
 ⟨_,rfl,[RG RH a],[RG RH b,u,q],rfl,⟨rfl,ha⟩,[RG RH b],[u,q],rfl,⟨rfl,hb⟩,[u],[q],rfl,⟨u,rfl,hm⟩,⟨q,rfl,ht⟩⟩
theorem Ls{H:View}{a:Int}{u q:Value}{m:List Int}(ha:I64 a)(hb:I64 b)(hm:SlRd H u m)(hq:q.oneCell'=RN):Rd H (.agg #[RG RH a,RG RH b,u,q]) (ThR.mk a b m ⟨q⟩):=
 ⟨_,rfl,[RG RH a],[RG RH b,u,q],rfl,⟨rfl,ha⟩,[RG RH b],[u,q],rfl,⟨rfl,hb⟩,[u],[q],rfl,⟨u,rfl,hm⟩,⟨rfl,hq⟩⟩
theorem Fh{H:View}{cs:List Value}{d:ThR}(h:Rep.rd H cs d): ∃u,cs=[RG RH d.blk,RG RH d.place,u,d.tks.v]/\I64 d.blk/\I64 d.place/\SlRd H u d.mks:=by obtain⟨c1,r1,rfl,⟨rfl,h1⟩,c2,r2,rfl,⟨rfl,h2⟩,c3,r3,rfl,⟨u,rfl,h3⟩,rfl,_⟩:=h;exact⟨u,rfl,h1,h2,h3⟩
def qc (vo:Value) (l:List Th):Own:=λk=>if k=(0,0) then it T.cC vo l else RK
def wK (vo:Value) (l:List Th) (D:Nat) (d:ThR) (q:Value) (t:List Int):Own:=λk=>if k=(0,0) then it T.cC vo l else if k=(1,0) then bx T.cC D d else if k=(1,1) then it T.int q t else RK
structure ThS (V:View) (h0:Heap) (vo:Value) (l:List Th) (W:View) (h:Heap):Prop where
 own:Owns W h (qc vo l)
 old:Old V h0 W
 le:(vw h0).le (vw h)
 av:Av (vw h0) vo
theorem ThS.ext {V:View} {h0:Heap} {vo:Value} {l:List Th} {W:View} {h h':Heap} (k:ThS V h0 vo l W h) (hle:(vw h).le (vw h')):ThS V h0 vo l (grow W h h') h':=
 ⟨k.own.ext hle,k.old.grow (cw k.le),RE k.le hle,k.av⟩
variable{ty:TypeId}{us:List (Nat × Value)}{K:Value->Heap->Prop}
theorem HK{po:OP}{h:Heap}{x y z w:Operand}{a:Int}{u q:Value}(hx:asg us x = RG RH a)(hy:asg us y = RG RH b)(hz:asg us z=u)(hw:asg us w=q)(hu:u.cells = #[u])(hq:q.cells = #[q])(hk:K (.agg #[RG RH a,RG RH b,u,q]) h):
  Lft.step RP (.build T.cC #[(0,x),(1,y),(2,z),(3,w)]) ty us h K:=
 ak (z:=.agg #[RG RH 0,RG RH 0,RL RK 0 0,RL RK 0 0]) (places:=[(0,1),(1,1),(2,1),(3,1)]) (vs:=[(0,RG RH a),(1,RG RH b),(2,u),(3,q)]) (cs:=#[RG RH a,RG RH b,u,q]) R1 R1 (by simp[hx,hy,hz,hw])
  (by simp[Instr.fill,hu,hq]) hk
theorem Fk{po:OP}{h:Heap}{x y z:Operand}{a:Int}{u:Value}(hx:asg us x = RG RH a)(hy:asg us y = RG RH b)(hz:asg us z=u)(hu:u.cells = #[u])(hk:K (.agg #[RG RH a,RG RH b,u,RL RK 0 0]) h):
  Lft.step RP (.build T.cC #[(0,x),(1,y),(2,z)]) ty us h K:=
 ak (z:=.agg #[RG RH 0,RG RH 0,RL RK 0 0,RL RK 0 0]) (places:=[(0,1),(1,1),(2,1),(3,1)]) (vs:=[(0,RG RH a),(1,RG RH b),(2,u)]) (cs:=#[RG RH a,RG RH b,u,RL RK 0 0]) R1 R1 (by simp[hx,hy,hz])
  (by simp[Instr.fill,hu]) hk
theorem F5{po:OP}{h:Heap}{x y w:Operand}{a:Int}{q:Value}(hx:asg us x = RG RH a)(hy:asg us y = RG RH b)(hw:asg us w=q)(hq:q.cells = #[q])(hk:K (.agg #[RG RH a,RG RH b,RL RK 0 0,q]) h):
  Lft.step RP (.build T.cC #[(0,x),(1,y),(3,w)]) ty us h K:=
 ak (z:=.agg #[RG RH 0,RG RH 0,RL RK 0 0,RL RK 0 0]) (places:=[(0,1),(1,1),(2,1),(3,1)]) (vs:=[(0,RG RH a),(1,RG RH b),(3,q)]) (cs:=#[RG RH a,RG RH b,RL RK 0 0,q]) R1 R1 (by simp[hx,hy,hw])
  (by simp[Instr.fill,hq]) hk
theorem kD{f:aq}{v:Value}{V:View}{h:Heap}(hv:Rd V v f)(hV:V.le (vw h))(hsm:SmF f):
  az RP 91 #[v] h (λu h'=>(vw h).le (vw h')/\SlRd (grow V h h') u (aC f)):=by
 refine ao (args:=[v]) follows Tryz.func91 E.bC RB λK hK=>?_;have hn:=hsm.len;dsimp only[L.bC,lkF,lkG];refine aa λz hz=>?_;simp;refine cu (v:=v) rfl ?_;have hle1:=bM h (.cells v.cells T.dX);have hat1:At (grow V h (h.push (.cells v.cells T.dX))) ⟨h.size,0,RK⟩ f:=og (t:=T.dX) (fz:=(0,0)) (by rw[ck (NO _)];simp) (hv.mono (aW hV));have hs1:(h.push (.cells v.cells T.dX)).size=h.size+1:=by simp
 generalize h.push (.cells v.cells T.dX)=h1 at hle1 hat1 hs1;have hW1:(grow V h h1).le (vw h1):=gU (RE hV hle1);have old1:Old V h (grow V h h1):=(Old.refl V h).grow (NO _);obtain⟨_,vb,cb⟩:=gH hat1;generalize grow V h h1=W1 at cb hW1 old1;generalize h.size=B at cb;subst hz;refine aa λz hz=>?_;simp;refine rM (α:=Th) El.gw λh2 hle2 hsz2 own2=>?_;have t2:ThS V h (RL (RJ ⟨h1.size,0,RK⟩) 0 0) [] W1 h2:=⟨((Owns.start hW1).add (k:=(0,0)) rfl (own2 _) hle2 (λb hb=>by simp only[Value.ownBlock,NN]at hb;omega)).congr λq=>by
   unfold qc Own.upd;repeat' split
   all_goals first | rfl | simp_all,old1,RE hle1 hle2,λb hb=>by cases hb;exact View.cM RD (by show h.size<=h1.size;omega)⟩;generalize RL (RJ ⟨h1.size,0,RK⟩) 0 0=v0 at t2;subst hz;refine aa λz hz=>?_;simp
 refine bX [1,3,4] (fun(r:Value) b=>[RM (RJ ⟨B,0,RK⟩),r,RG RH b]) (λr b h3=>∃W,W1.le W/\ThS V h r (thTo f b) W h3) f.blocks.length v0
  rfl R3 rfl ⟨W1,View.le_refl _,t2⟩ (λ_ _=>rfl) (λv k h3 hk ⟨W,q1,q2⟩=>by simp[ae (RE q1 q2.own.wle) cb.1,(cb.2.mono (RE q1 q2.own.wle)).len]) ?_ ?_
 ·rintro r b h3 hltb ⟨W3,hW3,t3⟩ K2 hK2;have hl3:=xD hsm (n:=b) R3;have cb3:=cb.2.mono (RE hW3 t3.own.wle);have cc3:=ae (RE hW3 t3.own.wle) cb.1;obtain⟨u,hu,hur⟩:=(cb.2.mono hW3).wh rfl (N:=6) rfl hltb;have sb:=hsm.blk b hltb;refine aa λy hy=>?_;simp(disch:=omega)[cc3,cb3.idxn (N:=6) rfl,hu _ t3.own.wle];refine dt (X:=W3) (z:=.agg #[RL RK 0 0,RL RK 0 0,RG RH 0,RL RK 0 0,RL RK 0 0,RG RI 0]) R1 rfl R1 hur R5 R5 λh4 hle4 hsz4 hat4=>?_;have t4:=t3.ext hle4;have hat4':=hat4 (grow W3 h3 h4) (aW t3.own.wle) (ck (NO _));obtain⟨vp,vi,va,vt,bp,bi,bk,ba,bt⟩:=jm hat4';have hW4:=RE hW3 (aW (h':=h4) t3.own.wle);generalize grow W3 h3 h4=W4 at t4 bp bi bk ba bt hW4;generalize h3.size=D at bp bi bk ba bt;subst hy;refine aa λy hy=>?_;simp;have sp:=sb.phis;refine bX [1,3,4,5,6] (fun(r:Value) i=>[RM (RJ ⟨B,0,RK⟩),r,RG RH b,RM (RJ ⟨D,0,RK⟩),RG RH i]) (λr i h5=>∃W,W4.le W/\ThS V h r (thTo f b++rows (phiT f b) i) W h5) (nth f.blocks b).phis.length r
   rfl R3 rfl ⟨W4,View.le_refl _,by simpa using t4⟩ (λ_ _=>rfl) (λv k h3 hk ⟨W,q1,q2⟩=>by simp[ae (RE q1 q2.own.wle) bp.1,(bp.2.mono (RE q1 q2.own.wle)).len]) ?_ ?_
  ·rintro r i h5 hlti ⟨W5,hW5,t5⟩ K3 hK3;have bp5:=bp.2.mono hW5;have bph:=bp5.mono t5.own.wle;have cph:=ae (RE hW5 t5.own.wle) bp.1;have hap:=(bp5.at hlti);rw[<-aA hlti]at hap;have hdst:an W5 (((slA vp).add (i*2)).add 0)=RJ (RG RH (nth (nth f.blocks b).phis i).dst):=(hap.part PhiD.iB).int;have hdr:=(hap.part PhiD.iB).rng;obtain⟨vq,hvq⟩:=(hap.part PhiD.jY).sl;have hvq1:an W5 (((slA vp).add (i*2)).add 1)=RJ vq:=hvq.1;have hvq2:=hvq.2;have hpl:=sb.phi i hlti;have hpt:phiT f b i=⟨b,-1-i,[(nth (nth f.blocks b).phis i).dst],(nth (nth f.blocks b).phis i).ins.map InD.val⟩:=rfl;generalize nth (nth f.blocks b).phis i=x at hdst hdr hvq2 hpl hpt;refine aa λq hq=>?_;simp(disch:=omega)[cph,bph.idxn (N:=2) rfl,ae t5.own.wle hdst];refine mq (X:=nothing) (ds:=[x.dst]) (vs:=[RG RH x.dst]) rfl El.aQ Sa ⟨bg.2 ⟨rfl,hdr⟩,trivial⟩ bO rfl R3 λu6 h6 hle6 hsz6 hu6 hub6=>?_;have hu6n:=hu6 (vw h6) bO rfl;refine Fk rfl rfl rfl hu6n.cells.1 ?_;simp;refine fG (n:=4) (v:=.agg #[RG RH b,RG RH (-1-i),u6,RL RK 0 0]) (z:=.agg #[RG RH 0,RG RH 0,RL RK 0 0,RL RK 0 0]) R1 rfl R1 rfl (by intro c hc;simp at hc;rcases hc with rfl | rfl | rfl | rfl<;>first | rfl | exact hu6n.cells.2) R5 R5 λh7 hle7 hsz7 hb7=>?_;have w6:=t5.own.ext hle6;have w7:=(w6.add (k:=(1,0)) rfl (fX (h:=h7) (d:=ThR.mk b (-1-i) [x.dst] ⟨RL RK 0 0⟩) hb7 (Ls R6 R6 (hu6 _ bO (ck (NO _))) rfl) R4) hle7 (λb hb=>by simp only[Value.ownBlock,NN]at hb;omega)).add (k:=(1,1)) rfl (OwnT.nil (α:=Int) _ h7 T.int) RD (λb hb=>by simp[Value.ownBlock]at hb);have w7:Owns (grow W5 h5 h6) h7 (wK r (thTo f b++rows (phiT f b) i) h6.size (ThR.mk b (-1-i) [x.dst] ⟨RL RK 0 0⟩) (RL RK 0 0) []):=w7.congr λq=>by
    unfold wK qc Own.upd;repeat' split
    all_goals first | rfl | simp_all
   have hW7:=RE hW5 (aW (h':=h6) t5.own.wle);have old7:=t5.old.grow (h1:=h5) (h2:=h6) (cw t5.le);have hle07:=RE t5.le (RE hle6 hle7);have hvq7:=hvq2.mono (aW (h':=h6) t5.own.wle);have cvq7:=ae (aW (h':=h6) t5.own.wle) hvq1;generalize grow W5 h5 h6=W7 at w7 hW7 old7 hvq7 cvq7;have hD7:h.size<=h6.size:=OD (cw t5.le) (cw hle6);generalize h6.size=D7 at w7 hD7;subst hq;refine aa λq hq=>?_;simp;refine bX [1,3,4,5,6,7,8] (fun(q:Value) j=>[RM (RJ ⟨B,0,RK⟩),r,RG RH b,RM (RJ ⟨D,0,RK⟩),RG RH i,RM (RJ ⟨D7,0,RK⟩),RG RH j])
    (λq j h8=>Owns W7 h8 (wK r (thTo f b++rows (phiT f b) i) D7 (ThR.mk b (-1-i) [x.dst] ⟨q⟩) q ((x.ins.map InD.val).take j))/\(vw h).le (vw h8)/\Av (vw h) q) x.ins.length (RL RK 0 0)
    rfl R3 rfl ⟨w7,hle07,Av.nil _ _ _⟩ (λ_ _=>rfl) (λv k h8 hk ⟨w8,q2⟩=>by have bp8:=(bp.2.mono hW7).mono w8.wle;simp(disch:=omega)[ae (RE hW7 w8.wle) bp.1,bp8.idxn (N:=2) rfl,ae w8.wle cvq7,(hvq7.mono w8.wle).len]) ?_ ?_
   ·rintro q8 j h8 hltj ⟨w8,hle08,av8⟩ K4 hK4;have bp8:=(bp.2.mono hW7).mono w8.wle;have hv8:=hvq7.mono w8.wle;have hai:=(hvq7.at hltj);rw[<-aA hltj]at hai;have hval:an W7 (((slA vq).add (j*2)).add 1)=RJ (RG RH (nth x.ins j).val):=(hai.part InD.A9).int;have hvr:=(hai.part InD.A9).rng;have hl8:((x.ins.map InD.val).take j).length=j:=by simp;omega
    have htk:(x.ins.map InD.val).take (j+1)=(x.ins.map InD.val).take j++[(nth x.ins j).val]:=by rw[Rn,PD,OI hltj,aA hltj];rfl
    have hq8:an (vw h8) ⟨D7,3,RK⟩=RJ q8:=by have:=((w8.at (k:=(1,0)) (e:=T.cC) (B:=D7) (d:=ThR.mk b (-1-i) [x.dst] ⟨q8⟩) rfl).part ThR.Bq).raw;simpa using this
    refine aH (vw h8) RD ?_;simp(disch:=omega)[hq8,ae (RE hW7 w8.wle) bp.1,bp8.idxn (N:=2) rfl,ae w8.wle cvq7,hv8.idxn (N:=2) rfl,ae w8.wle hval];refine oh (α:=Int) (W:=W7) El.aQ rfl (bg.2 ⟨rfl,hvr⟩) λu9 h9 hs9 hle9 hsz9=>⟨hle9,?_⟩;refine(w8.ext' hle9).dU (k:=(1,1)) (α:=Int) (v:=q8) (l:=(x.ins.map InD.val).take j) rfl El.aQ rfl rfl hs9 R9 R9 λq10 h10 w10 m10=>?_;have hc10:=w10.cells (k:=(1,1)) (Own.aj);obtain⟨hX10,av10⟩:=m10.view (RE hle08 hle9) av8;refine w10.rA (k:=(1,0)) (e:=T.cC) (B:=D7) (D:=ThR.mk b (-1-i) [x.dst] ⟨q8⟩) ThR.Bq (d:=⟨q10⟩) rfl R1 rfl rfl (om.2 ⟨rfl,hc10.2⟩) λh11 w11 hX11=>?_;refine hK4 q10 _ _ rfl rfl ⟨w11.congr λp=>?_,hX11 _ hX10 (View.cM RD hD7),av10⟩;rw[htk];unfold wK Own.upd;repeat' split
    all_goals first | rfl | simp_all
   rintro q8 h8 ⟨w8,hle08,av8⟩;rw[NY Sa]at w8;simp;subst hq;obtain⟨cs,hcs,hrd⟩:=w8.atW (k:=(1,0)) (e:=T.cC) (B:=D7) (d:=ThR.mk b (-1-i) [x.dst] ⟨q8⟩) rfl;obtain⟨u9,rfl,i1,i2,hu9⟩:=Fh hrd;obtain⟨w9,hq9⟩:=w8.freeze (k:=(1,1)) (v:=q8) (l:=x.ins.map InD.val) rfl;have hpl9:W7.le (W7.plus q8 h8):=jJ (w8.av (1,1) _ rfl);have hload:Un.ev (vw h8) (.aZ 4) (RM (RJ ⟨D7,0,RK⟩))=RJ (.agg #[RG RH b,RG RH (-1-i),u9,q8]):=by have:=gj hcs 4 0 #[] RA;simp[Un.ev,vP,this]
   have hold9:Old V h (W7.plus q8 h8):=λc o hc hco=>by
    unfold View.plus at hco;split at hco
    ·rename_i e;have:=av8 c e;simp only[vw]at this;rw[N6 hc]at this;cases this
    exact old7 c o hc hco
   have w9:Owns (W7.plus q8 h8) h8 (qc r (thTo f b++rows (phiT f b) i)):=w9.sub λp x hp=>by
    unfold qc at hp;split at hp
    ·rename_i e;subst e;exact hp
    cases hp
   have hlr:(thTo f b++rows (phiT f b) i).length=(thTo f b).length+i:=by simp
   simp[hload];refine w9.yk (k:=(0,0)) (α:=Th) (v:=r) (l:=thTo f b++rows (phiT f b) i) (d:=phiT f b i) rfl El.gw rfl (by rw[hpt];exact Bl i1 i2 (hu9.mono hpl9) hq9) R3 R3 (λ_=>rfl) (λ_=>rfl) λu10 r10 h10 w10 hX10=>?_;obtain⟨g1,g2⟩:=hX10 _ hle08 t5.av;refine hK3 r10 _ _ rfl rfl ⟨W7.plus q8 h8,RE hW7 hpl9,⟨w10.congr λp=>?_,hold9,g1,g2⟩⟩;rw[e9,<-List.append_assoc];unfold qc Own.upd;repeat' split
   all_goals first | rfl | simp_all
  rintro r h5 ⟨W5,hW5,t5⟩;simp;subst hy;refine aa λy hy=>?_;simp;have si:=sb.ins;refine bX [1,3,4,5,9] (fun(r:Value) i=>[RM (RJ ⟨B,0,RK⟩),r,RG RH b,RM (RJ ⟨D,0,RK⟩),RG RH i]) (λr i h6=>∃W,W4.le W/\ThS V h r (thTo f b++rows (phiT f b) (nth f.blocks b).phis.length++rows (insT f b) i) W h6) (nth f.blocks b).ins.length r
   rfl R3 rfl ⟨W5,hW5,by simpa using t5⟩ (λ_ _=>rfl) (λv k h3 hk ⟨W,q1,q2⟩=>by simp[ae (RE q1 q2.own.wle) bi.1,(bi.2.mono (RE q1 q2.own.wle)).len]) ?_ ?_
  ·rintro r i h6 hlti ⟨W6,hW6,t6⟩ K3 hK3;have bi6:=bi.2.mono hW6;have bih:=bi6.mono t6.own.wle;have cih:=ae (RE hW6 t6.own.wle) bi.1;obtain⟨ux,hux,huxr⟩:=bi6.wh rfl (N:=5) rfl hlti;have hap:=(bi6.at hlti);rw[<-aA hlti]at hap;obtain⟨vq,hvq⟩:=(hap.part InsD.eX).sl;have hvq1:an W6 (((slA vi).add (i*5)).add 3)=RJ vq:=hvq.1;have hvq2:=hvq.2;have hpt:insT f b i=⟨b,i,cT (nth (nth f.blocks b).ins i),(nth (nth f.blocks b).ins i).args⟩:=rfl;generalize nth (nth f.blocks b).ins i=x at hvq2 huxr hpt;have hlr:(thTo f b++rows (phiT f b) (nth f.blocks b).phis.length++rows (insT f b) i).length=(thTo f b).length+(nth f.blocks b).phis.length+i:=by simp;omega
   refine aH (vw h6) RD ?_;simp(disch:=omega)[cih,bih.idxn (N:=5) rfl,hux _ t6.own.wle,ae t6.own.wle hvq1];refine ah R1 (qR (huxr.mono t6.own.wle)) ?_;rintro u7 h7 ⟨hle7,hu7,_⟩;refine⟨hle7,?_⟩;have t7:=t6.ext hle7;have hu7':=hu7.mono (gu W6 h6 h7);have hvq7:=hvq2.mono (aW (h':=h7) t6.own.wle);refine HK rfl rfl rfl rfl hu7.cells.1 hvq2.cells.1 ?_;simp;refine t7.own.yk (k:=(0,0)) (α:=Th) (v:=r) (l:=thTo f b++rows (phiT f b) (nth f.blocks b).phis.length++rows (insT f b) i) (d:=insT f b i) rfl El.gw rfl (by rw[hpt];exact Bl R6 R6 hu7' hvq7) R3 R3 (λ_=>rfl) (λ_=>rfl) λu10 r10 h10 w10 hX10=>?_;obtain⟨g1,g2⟩:=hX10 _ t7.le t7.av;refine hK3 r10 _ _ rfl rfl ⟨_,RE hW6 (aW (h':=h7) t6.own.wle),⟨w10.congr λp=>?_,t7.old,g1,g2⟩⟩;rw[e9,<-List.append_assoc];unfold qc Own.upd;repeat' split
   all_goals first | rfl | simp_all
  rintro r h6 ⟨W6,hW6,t6⟩;simp;subst hy;have hW6h:=RE hW6 t6.own.wle;have bih:=bi.2.mono hW6h;have cih:=ae hW6h bi.1;have hlr:(thTo f b++rows (phiT f b) (nth f.blocks b).phis.length++rows (insT f b) (nth f.blocks b).ins.length).length=(thTo f b).length+(nth f.blocks b).phis.length+(nth f.blocks b).ins.length:=by simp;omega
  simp[cih,bih.len,ae hW6h ba.1];refine F5 rfl rfl rfl (ba.2.cells.1) ?_;simp;refine t6.own.yk (k:=(0,0)) (α:=Th) (v:=r) (l:=thTo f b++rows (phiT f b) (nth f.blocks b).phis.length++rows (insT f b) (nth f.blocks b).ins.length) (d:=endT f b) rfl El.gw rfl (Bl R6 R6 aE (ba.2.mono hW6)) R3 R3 (λ_=>rfl) (λ_=>rfl) λu10 r10 h10 w10 hX10=>?_;obtain⟨g1,g2⟩:=hX10 _ t6.le t6.av;refine hK2 r10 _ _ rfl rfl ⟨_,RE hW4 hW6,⟨w10.congr λp=>?_,t6.old,g1,g2⟩⟩;have e:thTo f (b+1)=thTo f b++rows (phiT f b) (nth f.blocks b).phis.length++rows (insT f b) (nth f.blocks b).ins.length++[endT f b]:=by rw[ij,thB];simp[N2]
  rw[e];unfold qc Own.upd;repeat' split
  all_goals first | rfl | simp_all
 rintro r h3 ⟨W3,hW3,t3⟩;simp;subst hz;simp;exact hK _ _ ⟨t3.le,(t3.own.get (k:=(0,0)) (v:=r) (l:=thTo f f.blocks.length) rfl).rd (t3.old.le t3.own.wle) λb hb=>by
  have:=t3.av b hb;rw[ck];rcases NQ b h.size with hlt | hge
  ·simp[vw,hlt]at this
  exact hge⟩
structure GotD where
 e:Int
 b:Int
 p:Int
instance:Rep GotD:=Rep.via λd=>Cat.mk d.e (Cat.mk d.b d.p)
def gotV (t:Tr):Value:=.agg #[RG RH t.1,RG RH t.2.1,RG RH t.2.2]
def gotD (t:Tr):GotD:=⟨t.1,t.2.1,t.2.2⟩
theorem vz{H:View}{t:Tr}(h1:I64 t.1)(h2:I64 t.2.1)(h3:I64 t.2.2):Rd H (gotV t) (gotD t):=
 ⟨_,rfl,[RG RH t.1],[RG RH t.2.1,RG RH t.2.2],rfl,⟨rfl,h1⟩,[RG RH t.2.1],[RG RH t.2.2],rfl,⟨rfl,h2⟩,rfl,h3⟩
theorem FR{H:View}{cs:List Value}{d:GotD}(h:Rep.rd H cs d):cs=[RG RH d.e,RG RH d.b,RG RH d.p]:=by obtain⟨c1,r1,rfl,⟨rfl,_⟩,c2,r2,rfl,⟨rfl,_⟩,rfl,_⟩:=h;rfl
theorem tP{h:Heap}{o:Own}{k:Key}{e:TypeId}{B:Nat}{t:Tr}(w:Owns W h o)(hk:o k=bx e B (gotD t)):Un.ev (vw h) (.aZ 3) (RM (RJ ⟨B,0,RK⟩))=RJ (gotV t):=by obtain⟨cs,hcs,hrd⟩:=w.atW hk;have:=FR hrd;subst this;have:=gj hcs 3 0 #[] RA;simp[Un.ev,vP,this,gotV,gotD]
theorem qK{po:OP}{h:Heap}{x y z:Operand}{t:Tr}(hx:asg us x = RG RH t.1)(hy:asg us y = RG RH t.2.1)(hz:asg us z = RG RH t.2.2)(hk:K (gotV t) h):
  Lft.step RP (.build T.dv #[(0,x),(1,y),(2,z)]) ty us h K:=
 ak (z:=.agg #[RG RH 0,RG RH 0,RG RH 0]) (places:=[(0,1),(1,1),(2,1)]) (vs:=[(0,RG RH t.1),(1,RG RH t.2.1),(2,RG RH t.2.2)]) (cs:=#[RG RH t.1,RG RH t.2.1,RG RH t.2.2]) R1 R1 (by simp[hx,hy,hz]) RA hk
theorem EF{po:OP}{h:Heap}(hk:K (gotV (0,0,0)) h):Lft.step RP (.build T.dv #[]) ty us h K:=
 ak (z:=.agg #[RG RH 0,RG RH 0,RG RH 0]) (places:=[(0,1),(1,1),(2,1)]) (vs:=[]) (cs:=#[RG RH 0,RG RH 0,RG RH 0]) R1 R1 Sa RA hk
theorem Aq{po:OP}{h:Heap}{e:Int}(hk:K (gotV (e,0,0)) h):Lft.step RP (.build T.dv #[(0,.const (RG RH e))]) ty us h K:=
 ak (z:=.agg #[RG RH 0,RG RH 0,RG RH 0]) (places:=[(0,1),(1,1),(2,1)]) (vs:=[(0,RG RH e)]) (cs:=#[RG RH e,RG RH 0,RG RH 0]) R1 R1 Sa RA hk
theorem Jn{po:OP}{h:Heap}{x:Operand}{e:Int}(hx:asg us x = RG RH b)(hk:K (gotV (e,b,0)) h):Lft.step RP (.build T.dv #[(0,.const (RG RH e)),(1,x)]) ty us h K:=
 ak (z:=.agg #[RG RH 0,RG RH 0,RG RH 0]) (places:=[(0,1),(1,1),(2,1)]) (vs:=[(0,RG RH e),(1,RG RH b)]) (cs:=#[RG RH e,RG RH b,RG RH 0]) R1 R1 (by simp[hx]) RA hk
theorem yl{H:View}{B:Nat}{d:Th}(h:At H ⟨B,0,RK⟩ d):an H ⟨B,0,RK⟩=RJ (RG RH d.blk)/\an H ⟨B,1,RK⟩=RJ (RG RH d.place)/\(∃v,Sl H ⟨B,2,RK⟩ v d.mks)/\∃v,Sl H ⟨B,3,RK⟩ v d.tks:=by obtain⟨v,hv⟩:=(h.part Th.BI).sl;obtain⟨u,hu⟩:=(h.part Th.Bq).sl;exact⟨by simpa using(h.part Th.zi).int,by simpa using(h.part Th.Et).int,⟨v,by simpa using hv⟩,u,by simpa using hu⟩
abbrev BL:=List Bool
def jH (t:Th) (j:Nat) (m:BL):Except Tr BL:=if nth m (nth t.mks j).toNat then .error (12,t.blk,t.place) else .ok (m.set (nth t.mks j).toNat RN)
def eY (f:aq) (t:Th):BlkD:=nth f.blocks t.blk.toNat
def fw (f:aq) (t:Th):InsD:=nth (eY f t).ins t.place.toNat
def oG (f:aq) (t:Th):Bool:=decide (0<=t.place)&&decide (t.place<(eY f t).ins.length)
def fh (f:aq) (t:Th):Bool:=decide (t.place=(eY f t).ins.length)
def mc (s:InsD):Bool:=decide (s.op<1)||decide (18<s.op)||!lC s.op s.args.length
def jx (f:aq) (n:Int):Bool:=decide (n<f.params)||decide (8191<n)
def pP (f:aq) (n:Int):Bool:=decide (n<1)||decide ((f.blocks.length:Int)<=n)
def mz (f:aq) (t:Th):Except Tr BL->Except Tr BL
 | .error e=>.error e
 | .ok m'=>if fh f t&&(eY f t).term.to.any (pP f) then .error (14,t.blk,t.place) else .ok m'
def da (f:aq) (t:Th) (m:BL):Except Tr BL:=
 if oG f t&&mc (fw f t) then .error (10,t.blk,t.place)
 else if fh f t&&!kv (eY f t).term then .error (10,t.blk,t.place)
 else if t.mks.any (jx f) then .error (11,t.blk,t.place)
 else mz f t (upE (jH t) t.mks.length m)
def dV (f:aq):Except Tr BL:=upE (λi m=>da f (nth (aC f) i) m) (aC f).length (List.replicate 8192 RO)
def jt {α:Type}:Except Tr α->Tr | .ok _=>(0,0,0) | .error t=>t
variable{m:BL}
theorem BS{f:aq}{t:Th}{m':BL}(h:da f t m = .ok m'):m'.length=m.length:=by
 unfold da at h;split at h
 ·cases h
 split at h
 ·cases h
 split at h
 ·cases h
 unfold mz at h;split at h
 ·cases h
 rename_i m1 hm1;have key : ∀n s,upE (jH t) n m = .ok s->s.length=m.length:=by
  intro n;induction n with
  | zero=>intro s hs;cases hs;rfl
  | succ n ih=>
   intro s hs;simp only[upE]at hs;split at hs
   ·rename_i s1 hs1;have:=ih s1 hs1;unfold jH at hs;split at hs
    ·cases hs
    cases hs;simpa using this
   cases hs
 split at h
 ·cases h
 cases h;exact key _ _ hm1
def qP (vm:Value) (m:BL) (R:Nat) (g:GotD):Own:=λk=>if k=(0,0) then it T.bool vm m else if k=(1,0) then bx T.dv R g else RK
theorem F0{vm:Value}{m':BL}{R:Nat}{g:GotD}(q:Key):qP vm m' R g q=(qP vm m R g).upd (0,0) (it T.bool vm m') q:=by
 unfold qP Own.upd;repeat' split
 all_goals first | rfl | simp_all
theorem Bb{f:aq}{v:Value}{h:Heap}(hv:Rd (vw h) v f)(hsm:SmF f)(hp0:0<=f.params):
  az RP 92 #[v] h (λu h'=>u=gotV (jt (dV f))/\(vw h).le (vw h')):=by
 refine ao (args:=[v]) follows Tryz.func92 E.bH RB λK hK=>?_;have hn:=hsm.len;dsimp only[L.bH,lkF,lkG];refine aa λz hz=>?_;simp;refine fW rfl hv λh1 _ hle1 hs1 hat=>?_;obtain⟨cp,vb,cb⟩:=gH hat;obtain⟨u,hu,hur⟩:=hat.aZ rfl;have hu:Un.ev (vw h1) (.aZ 2) (RM (RJ ⟨h.size,0,RK⟩))=RJ u:=hu;generalize h.size=B at cp cb hu;refine cZ (z:=.agg #[RG RH 0,RG RH 0,RG RH 0]) R1 ?_;have q1:=bM h1 (.cells (Value.cells (.agg #[RG RH 0,RG RH 0,RG RH 0])) T.dv);generalize e2:h1.push (.cells (Value.cells (.agg #[RG RH 0,RG RH 0,RG RH 0])) T.dv)=h2 at q1;have b2:h2[h1.size]? = RJ (.cells (gotV (0,0,0)).cells T.dv (0,0)):=by rw[<-e2];simp;rfl
 have w2:=(Owns.start (h:=h1) (View.le_refl (vw h1))).add (k:=(1,0)) rfl (fX (h:=h2) (d:=gotD (0,0,0)) b2 (vz (by constructor<;>decide) (by constructor<;>decide) (by constructor<;>decide)) R4) q1 (λb hb=>by simp only[Value.ownBlock,NN]at hb;omega);generalize h1.size=R at w2;subst hz;refine aa λz hz=>?_;simp;refine mH (α:=Bool) (W:=vw h1) (k:=.i64) (n:=8192) (d:=false) El.lQ rfl rfl rfl R3 R3 λvm h3 o3 m3 hle3 hb3=>?_;have w3:=w2.add (k:=(0,0)) rfl o3 hle3 (λb hb=>by rw[hb3]at hb;cases hb;exact NO _);have w3:Owns (vw h1) h3 (qP vm (List.replicate 8192 RO) R (gotD (0,0,0))):=w3.congr λq=>by
  unfold qP Own.upd;repeat' split
  all_goals first | rfl | simp_all
 subst hz;refine aa λz hz=>?_;have hu3:Un.ev (vw h3) (.aZ 2) (RM (RJ ⟨B,0,RK⟩))=RJ u:=by have:=dk (ρ:=λ_=>RK) (e:=.un (.aZ 2) (.con (RM (RJ ⟨B,0,RK⟩)))) w3.wle (v:=u) (by simpa using hu);simpa using this
 simp[hu3];refine ah R1 (kD hur w3.wle hsm) ?_;rintro vt h4 ⟨hle4,ht⟩;have w4:=w3.ext hle4;have hW1:(vw h1).le (grow (vw h1) h3 h4):=aW w3.wle;have hth : ∀t∈aC f,ThOk f t:=λt ht=>lM hsm ht;have hrs:dV f=upE (λi m=>da f (nth (aC f) i) m) (aC f).length (List.replicate 8192 RO):=rfl;have htl:=ht.bound;generalize aC f=ts at ht hth hrs htl;generalize grow (vw h1) h3 h4=W1 at w4 hW1 ht;subst hz;refine aa λz hz=>?_;simp;refine bX [1,2,3,4,5] (fun(_:Unit) i=>[RM (RJ ⟨B,0,RK⟩),RM (RJ ⟨R,0,RK⟩),vm,vt,RG RH i])
  (λ_ i h5=>∃W m,W1.le W/\Owns W h5 (qP vm m R (gotD (0,0,0)))/\upE (λi m=>da f (nth ts i) m) i (List.replicate 8192 RO) = .ok m/\m.length=8192) ts.length ()
  rfl R3 rfl ⟨W1,_,View.le_refl _,w4,rfl,OO ..⟩ (λ_ _=>rfl) (λv k h5 hk ⟨W,m,q1,q2,_⟩=>by simp[(ht.mono (RE q1 q2.wle)).len]) ?_ ?_
 ·rintro _ i h5 hlti ⟨W5,m,hW5,w5,hm,hml⟩ K2 hK2;have hst:upE (λi m=>da f (nth ts i) m) (i+1) (List.replicate 8192 RO)=da f (nth ts i) m:=jz hm;have her : ∀{t},da f (nth ts i) m = .error t->dV f = .error t:=λe=>by rw[hrs];exact qI hm hlti e
  have ht5:=ht.mono hW5;obtain⟨ut,hut,hutr⟩:=ht5.wh rfl (N:=4) rfl hlti;have ok:=hth _ (bz hlti);have hml2 : ∀{m'},da f (nth ts i) m = .ok m'->m'.length=8192:=λe=>(BS e).trans hml;generalize nth ts i=t at hst her hutr ok hml2;refine aa λy hy=>?_;simp(disch:=omega)[(ht5.mono w5.wle).idxn (N:=4) rfl,hut _ w5.wle];refine dt (X:=W5) (z:=.agg #[RG RH 0,RG RH 0,RL RK 0 0,RL RK 0 0]) R1 rfl R1 hutr R5 R5 λh6 hle6 hs6 hat6=>?_;have w6:=w5.ext hle6;obtain⟨tb,tp,⟨vk,tk⟩,_⟩:=yl (hat6 (grow W5 h5 h6) (aW w5.wle) (ck (NO _)));have hW6:=RE hW5 (aW (h':=h6) w5.wle);generalize grow W5 h5 h6=W6 at w6 tb tp tk hW6;generalize h5.size=D at tb tp tk;subst hy;refine aa λy hy=>?_;have hb:=ok.blk;have cb6:=cb.2.mono (RE hW1 hW6);have cc6:=ae (RE hW1 hW6) cb.1;obtain⟨ux,hux,huxr⟩:=cb6.wh rfl (N:=6) rfl (i:=t.blk.toNat) R3;simp(disch:=omega)[ae w6.wle cc6,(cb6.mono w6.wle).idxn (N:=6) rfl,ae w6.wle tb,hux _ w6.wle];refine dt (X:=W6) (z:=.agg #[RL RK 0 0,RL RK 0 0,RG RH 0,RL RK 0 0,RL RK 0 0,RG RI 0]) R1 rfl R1 huxr R5 R5 λh7 hle7 hs7 hat7=>?_;have w7:=w6.ext hle7;have hat7':=hat7 (grow W6 h6 h7) (aW w6.wle) (ck (NO _));obtain⟨vp,vi,va,vto,bp,bi,bk,ba,bt⟩:=jm hat7';have hterm:=hat7'.part BlkD.mY;have hW67:=aW (h':=h7) w6.wle;have hW7:=RE hW6 hW67;have tb7:=ae hW67 tb;have tp7:=ae hW67 tp;have tk7:=ae hW67 tk.1;have tkr:=tk.2.mono hW67;have sb:=hsm.blk t.blk.toNat R3;have hxeq:eY f t=nth f.blocks t.blk.toNat:=rfl;generalize hx:nth f.blocks t.blk.toNat=x at bp bi bk ba bt hterm sb hxeq;generalize grow W6 h6 h7=W7 at w7 bp bi bk ba bt hterm hW7 tb7 tp7 tk7 tkr;generalize h6.size=D7 at bp bi bk ba bt hterm;clear hat7' hat7 hat6;subst hy;have si:=sb.ins;have bti:=tkr.bound;have hpl:=ok.place;have ret : ∀{e:Int} {h8:Heap} {W8:View} {m8:BL} {x y:Operand} {us:List (Nat × Value)} {ty:TypeId} {K9:Value->Heap->Prop},0<=e->e<=100->Owns W8 h8 (qP vm m8 R (gotD (0,0,0)))->W7.le W8->da f t m = .error (e,t.blk,t.place)->
    asg us x = RM (RJ ⟨R,0,RK⟩)->asg us y=gotV (e,t.blk,t.place)->(∀v h9,Un.ev (vw h9) (.aZ 3) (RM (RJ ⟨R,0,RK⟩))=RJ (gotV (jt (dV f)))->K (gotV (jt (dV f))) h9->K9 v h9)->@Lft.step (@opAt noPP RK) RP (.store T.dv x y) ty us h8 K9:=by
   intro e h8 W8 m8 x y us ty K9 he0 he1 w8 hW8 hbad hx hy hK9;refine w8.cI (k:=(1,0)) (e:=T.dv) (D:=gotD (0,0,0)) (Part.all) (d:=gotD (e,t.blk,t.place)) rfl R1 hx hy (vz ⟨by show _<=e;omega,by show e<=_;omega⟩ ⟨by show _<=t.blk;omega,by show t.blk<=_;omega⟩ ⟨by show _<=t.place;omega,by show t.place<=_;omega⟩) λh9 w9 hs9=>?_;have hb:=her hbad;refine hK9 _ _ ?_ ?_
   ·rw[hb];exact tP w9 (Own.aj)
   exact hK _ _ ⟨rfl,RE hle1 (RE hW1 (RE hW7 (RE hW8 w9.wle)))⟩
  refine aa λy hy=>?_;refine ff (λρ h8=>∃W8 tl,(oG f t&&mc (fw f t))=RO/\Owns W8 h8 (qP vm m R (gotD (0,0,0)))/\W7.le W8/\ρ=[(1,RM (RJ ⟨B,0,RK⟩)),(2,RM (RJ ⟨R,0,RK⟩)),(3,vm),(4,vt),(5,RG RH i),(6,RM (RJ ⟨D,0,RK⟩)),(7,RM (RJ ⟨D7,0,RK⟩))]++tl) ?_ ?_
  ·intro K3 hK3;cases hii:oG f t with
   | false=>
    have hcc:(decide (0<=t.place)&&decide (t.place<(x.ins.length:Int)))=false:=by rw[<-hxeq];exact hii
    simp[ae w7.wle tp7,ae w7.wle bi.1,(bi.2.mono w7.wle).len,hcc];exact hK3 _ _ ⟨W7,_,by rw[hii];rfl,w7,View.le_refl _,rfl⟩
   | true=>
    have hcc:(decide (0<=t.place)&&decide (t.place<(x.ins.length:Int)))=true:=by rw[<-hxeq];exact hii
    have hcc':=hcc;simp only[NS,decide_eq_true_eq]at hcc';obtain⟨us,hus,husr⟩:=bi.2.wh rfl (N:=5) rfl (i:=t.place.toNat) R3;have hins:fw f t=nth x.ins t.place.toNat:=by rw[fw,hxeq]
    refine aa λq hq=>?_;simp[ae w7.wle tp7,ae w7.wle bi.1,(bi.2.mono w7.wle).len,hcc];subst hq;refine aN Sa ?_;refine aa λq hq=>?_;simp(disch:=omega)[ae w7.wle tp7,ae w7.wle bi.1,(bi.2.mono w7.wle).idxn (N:=5) rfl,hus _ w7.wle];refine dt (X:=W7) (z:=.agg #[RG RH 0,RG RH 0,RG RH 0,RL RK 0 0,RG RI 0]) R1 rfl R1 husr R5 R5 λh8 hle8 hs8 hat8=>?_;have w8:=w7.ext hle8;obtain⟨c0,_,_,vs,cs⟩:=fI (hat8 (grow W7 h7 h8) (aW w7.wle) (ck (NO _)));have hW8:=aW (h':=h8) w7.wle;have tb8:=ae hW8 tb7;have tp8:=ae hW8 tp7;rw[<-hins]at c0 cs;have hop:mc (fw f t)=(decide ((fw f t).op<1)||decide (18<(fw f t).op)||!lC (fw f t).op (fw f t).args.length):=rfl;have hbd:(oG f t&&mc (fw f t))=mc (fw f t):=by rw[hii];rfl
    have hbad:mc (fw f t)=RN->da f t m = .error (10,t.blk,t.place):=λe=>by rw[da,hbd,if_pos e]
    rw[hbd]at hK3;generalize fw f t=s at c0 cs hK3 hop hbad;generalize h7.size=D8 at c0 cs;subst hq;refine aa λq hq=>?_;refine ff (λρ h9=>h9=h8/\(∃tl,ρ=[(1,RM (RJ ⟨B,0,RK⟩)),(2,RM (RJ ⟨R,0,RK⟩)),(3,vm),(4,vt),(5,RG RH i),(6,RM (RJ ⟨D,0,RK⟩)),(7,RM (RJ ⟨D7,0,RK⟩)),(8,RM (RJ ⟨D8,0,RK⟩))]++tl)/\Lft.look ρ 65=RJ (.bool (mc s))) ?_ ?_
    ·intro K4 hK4;rw[hop]at hK4;by_cases d1:s.op<1
     ·simp[ae w8.wle c0,ae w8.wle cs.1,cs.2.len,d1];exact hK4 _ _ ⟨rfl,⟨_,rfl⟩,by simp[d1]⟩
     by_cases d2:18<s.op
     ·simp[ae w8.wle c0,ae w8.wle cs.1,cs.2.len,d1,d2];exact hK4 _ _ ⟨rfl,⟨_,rfl⟩,by simp[d2]⟩
     simp[ae w8.wle c0,ae w8.wle cs.1,cs.2.len,d1,d2];refine ah R1 ER ?_;rintro _ _ ⟨rfl,rfl⟩;simp;exact hK4 _ _ ⟨rfl,⟨_,rfl⟩,by simp[d1,d2]⟩
    rintro ρ _ ⟨rfl,⟨tl,rfl⟩,hl⟩;subst hq;cases hob:mc s with
    | true=>rw[hob]at hl;refine aN (by rw[lT];exact hl) ?_;simp[ae w8.wle tb8,ae w8.wle tp8];refine qK (t:=(10,t.blk,t.place)) rfl rfl rfl ?_;simp[af,ag];refine ret R3 R3 w8 hW8 (hbad hob) rfl rfl λ_ h9 hl9 hK9=>?_;simp[hl9];exact hK9
    | false=>rw[hob]at hl;refine aP (by rw[lT];exact hl) ?_;simp;exact hK3 _ _ ⟨_,_,hob,w8,hW8,rfl⟩
  rintro ρ h8 ⟨W8,tl,hni,w8,hW8,rfl⟩;subst hy;have e1 : ∀{α:Type} (a b:α),(if(oG f t&&mc (fw f t))=RN then a else b)=b:=λa b=>by rw[if_neg (by rw[hni];simp)]
  have tb8:=ae (RE hW8 w8.wle) tb7;have tp8:=ae (RE hW8 w8.wle) tp7;have ci8:=ae (RE hW8 w8.wle) bi.1;have bi8:=bi.2.mono (RE hW8 w8.wle);have hlast:fh f t=decide (t.place=(x.ins.length:Int)):=by rw[fh,hxeq]
  refine aa λy hy=>?_;simp[tp8,ci8,bi8.len,<-hlast];subst hy;refine aa λy hy=>?_;have htx:(eY f t).term=x.term:=by rw[hxeq]
  have hterm8:=hterm.mono (RE hW8 w8.wle);obtain⟨uT,huT,huTr⟩:=hterm8.aZ rfl;have huT:Un.ev (vw h8) (.aZ 4) (RM (RJ ⟨D7,2,RK⟩))=RJ uT:=by have h2:Un.ev (vw h8) (.aZ 4) (RM (RJ ((⟨D7,0,RK⟩:Addr).add 2)))=RJ uT:=huT;rwa [HJ]at h2
  refine ff (λρ h9=>(∃W9,Owns W9 h9 (qP vm m R (gotD (0,0,0)))/\W7.le W9)/\(fh f t&&!kv x.term)=RO/\∃tl,ρ=[(1,RM (RJ ⟨B,0,RK⟩)),(2,RM (RJ ⟨R,0,RK⟩)),(3,vm),(4,vt),(5,RG RH i),(6,RM (RJ ⟨D,0,RK⟩)),(7,RM (RJ ⟨D7,0,RK⟩))]++tl/\Lft.look ρ 9=RJ (.bool (fh f t))) ?_ ?_
  ·intro K3 hK3;refine aa λq hq=>?_;have htb:(fh f t&&!kv x.term)=RN->da f t m = .error (10,t.blk,t.place):=λe=>by rw[da,e1,htx,if_pos e]
   refine ff (λρ h9=>(∃W9,Owns W9 h9 (qP vm m R (gotD (0,0,0)))/\W7.le W9)/\(∃tl,ρ=[(1,RM (RJ ⟨B,0,RK⟩)),(2,RM (RJ ⟨R,0,RK⟩)),(3,vm),(4,vt),(5,RG RH i),(6,RM (RJ ⟨D,0,RK⟩)),(7,RM (RJ ⟨D7,0,RK⟩))]++tl)/\Lft.look ρ 9=RJ (.bool (fh f t))/\Lft.look ρ 83=RJ (.bool (fh f t&&!kv x.term))) ?_ ?_
   ·intro K4 hK4;cases hl:fh f t with
    | false=>rw[hl]at hK4;simp[af,ag];exact hK4 _ _ ⟨⟨W8,w8,hW8⟩,⟨_,rfl⟩,by simp[af,ag],by simp[af,ag]⟩
    | true=>rw[hl]at hK4;simp[af,ag,huT];refine ah R1 (JH huTr) ?_;rintro _ h9 ⟨rfl,hle9⟩;simp[af,ag];exact hK4 _ _ ⟨⟨_,w8.ext hle9,RE hW8 (aW w8.wle)⟩,⟨_,rfl⟩,by simp[af,ag],by simp[af,ag]⟩
   rintro ρ h9 ⟨⟨W9,w9,hW9⟩,⟨tl,rfl⟩,hl9,hl83⟩;subst hq;have tb9:=ae (RE hW9 w9.wle) tb7;have tp9:=ae (RE hW9 w9.wle) tp7;cases hob:(fh f t&&!kv x.term)with
   | true=>rw[hob]at hl83;refine aN (by rw[lT];exact hl83) ?_;simp[tb9,tp9];refine qK (t:=(10,t.blk,t.place)) rfl rfl rfl ?_;simp[af,ag];refine ret R3 R3 w9 hW9 (htb hob) rfl rfl λ_ h9 hl9 hK9=>?_;simp[hl9];exact hK9
   | false=>rw[hob]at hl83;refine aP (by rw[lT];exact hl83) ?_;simp at hl9;simp;exact hK3 _ _ ⟨⟨W9,w9,hW9⟩,hob,_,rfl,by simpa[ag]using hl9⟩
  rintro ρ h9 ⟨⟨W9,w9,hW9⟩,hnt,tl,rfl,hl9⟩;subst hy;have e2 : ∀{α:Type} (a b:α),(if(fh f t&&!kv (eY f t).term)=RN then a else b)=b:=λa b=>by rw[htx,if_neg (by rw[hnt];simp)]
  have tb9:=ae (RE hW9 w9.wle) tb7;have tp9:=ae (RE hW9 w9.wle) tp7;have ck9:=ae (RE hW9 w9.wle) tk7;have kr9:=tkr.mono (RE hW9 w9.wle);have cp9:an (vw h9) ⟨B,0,RK⟩=RJ (RG RH f.params):=ae (RE hW1 (RE hW7 (RE hW9 w9.wle))) cp;refine aa λy hy=>?_;simp;refine bX [1,2,3,4,5,6,7,9,10] (fun(_:Unit) k=>[RM (RJ ⟨B,0,RK⟩),RM (RJ ⟨R,0,RK⟩),vm,vt,RG RH i,RM (RJ ⟨D,0,RK⟩),RM (RJ ⟨D7,0,RK⟩),.bool (fh f t),RG RH k])
   (λ_ k h10=>h10=h9/\∀j,j<k->jx f (nth t.mks j)=RO) t.mks.length ()
   rfl R3 (by simp at hl9;simp[bF,af,ag,hl9]) ⟨rfl,λj hj=>by omega⟩ (λ_ _=>rfl) (λv k h10 hk ⟨q1,_⟩=>by subst q1;simp[ck9,kr9.len]) ?_ ?_
  ·rintro _ k h9 hltk ⟨rfl,hpre⟩ K3 hK3;have hnb:jx f (nth t.mks k)=(decide (nth t.mks k<f.params)||decide (8191<nth t.mks k)):=rfl;have hbad:jx f (nth t.mks k)=RN->da f t m = .error (11,t.blk,t.place):=λe=>by rw[da,e1,e2,if_pos];rw[O0];exact⟨_,bz hltk,e⟩
   refine aa λq hq=>?_;simp(disch:=omega)[ck9,kr9.idx1 rfl,kr9.int RD,cp9,<-hnb];subst hq;cases hob:jx f (nth t.mks k)with
   | true=>refine aN Sa ?_;simp[tb9,tp9];refine qK (t:=(11,t.blk,t.place)) rfl rfl rfl ?_;refine ret R3 R3 w9 hW9 (hbad hob) rfl rfl λ_ h9 hl9 hK9=>?_;simp[hl9];exact hK9
   | false=>
    refine aP Sa ?_;simp;refine hK3 () _ _ rfl rfl ⟨rfl,λj hj=>?_⟩;rcases NQ j k with h | h
    ·exact hpre j h
    have:j=k:=by omega
    subst this;exact hob
  rintro _ h9 ⟨rfl,hpre⟩;have e3 : ∀{α:Type} (a b:α),(if t.mks.any (jx f)=RN then a else b)=b:=λa b=>by rw[if_neg];intro e;obtain⟨n,hn,hb⟩:=O0.1 e;obtain⟨j,hj,rfl⟩:=N7 hn;rw[<-aA hj,hpre j hj]at hb;cases hb
  simp;subst hy;refine aa λy hy=>?_;simp;have hshape:da f t m=mz f t (upE (jH t) t.mks.length m):=by rw[da,e1,e2,e3]
  have hnr : ∀j,j<t.mks.length->0<=nth t.mks j/\nth t.mks j<8192:=λj hj=>by have:=hpre j hj;simp only[jx,O2,decide_eq_false_iff_not]at this;omega
  refine bX [1,2,3,4,5,6,7,9,11] (fun(_:Unit) k=>[RM (RJ ⟨B,0,RK⟩),RM (RJ ⟨R,0,RK⟩),vm,vt,RG RH i,RM (RJ ⟨D,0,RK⟩),RM (RJ ⟨D7,0,RK⟩),.bool (fh f t),RG RH k])
   (λ_ k h10=>∃m',Owns W9 h10 (qP vm m' R (gotD (0,0,0)))/\upE (jH t) k m = .ok m'/\m'.length=8192) t.mks.length ()
   rfl R3 rfl ⟨m,w9,rfl,hml⟩ (λ_ _=>rfl) (λv k h10 hk ⟨m',q1,_⟩=>by simp[ae (RE hW9 q1.wle) tk7,(tkr.mono (RE hW9 q1.wle)).len]) ?_ ?_
  ·rintro _ k h10 hltk ⟨m',w10,hm',hml'⟩ K3 hK3;have hs10:=jz hm';have her10 : ∀{e},jH t k m' = .error e->da f t m = .error e:=λe=>by rw[hshape,qI hm' hltk e];rfl
   rw[jH]at hs10 her10;have hr:=hnr k hltk;have tb10:=ae (RE hW9 w10.wle) tb7;have tp10:=ae (RE hW9 w10.wle) tp7;have ck10:=ae (RE hW9 w10.wle) tk7;have kr10:=tkr.mono (RE hW9 w10.wle);have nm:=w10.now (k:=(0,0)) (v:=vm) (l:=m') rfl;refine aa λq hq=>?_;refine aa λp hp=>?_;simp(disch:=omega)[ck10,kr10.idx1 rfl,kr10.int RD,nm.idx1 rfl,nm.bool RD];subst hp;cases hob:nth m' (nth t.mks k).toNat with
   | true=>refine aN Sa ?_;simp[tb10,tp10];refine qK (t:=(12,t.blk,t.place)) rfl rfl rfl ?_;refine ret R3 R3 w10 hW9 (her10 (by rw[if_pos hob])) rfl rfl λ_ h9 hl9 hK9=>?_;simp[hl9];exact hK9
   | false=>refine aP Sa ?_;simp;subst hq;simp(disch:=omega)[ck10,kr10.idx1 rfl,kr10.int RD,nm.idx1 rfl];refine w10.aK (k:=(0,0)) (α:=Bool) (l:=m') (v:=vm) (i:=(nth t.mks k).toNat) (d:=true) rfl R1 (by simp[show Rep.n Bool=1 from rfl]) rfl R3 JB λh11 w11 hs11=>?_;refine hK3 () _ _ rfl rfl ⟨_,w11.congr F0,by rw[hs10,if_neg (by rw[hob];simp)],by rw[OH];exact hml'⟩
  rintro _ h10 ⟨m',w10,hm',hml'⟩;rw[hm']at hshape;have hshape:da f t m=if fh f t&&(eY f t).term.to.any (pP f) then .error (14,t.blk,t.place) else .ok m':=hshape;simp;subst hy;have tb10:=ae (RE hW9 w10.wle) tb7;have tp10:=ae (RE hW9 w10.wle) tp7;have ct10:=ae (RE hW9 w10.wle) bt.1;have tr10:=bt.2.mono (RE hW9 w10.wle);have hW110:=RE hW1 (RE hW7 hW9);have bto:=sb.to;have done:(fh f t&&(eY f t).term.to.any (pP f))=RO->∀ρ:Env,Lft.look ρ 5=RJ (RG RH i)->bF [1,2,3,4,5] (setE ρ 5 (RG RH ((i:Int)+1)))=[1,2,3,4,5].zip [RM (RJ ⟨B,0,RK⟩),RM (RJ ⟨R,0,RK⟩),vm,vt,RG RH ((i+1:Nat):Int)]->K2 ρ h10:=λe ρ l5 lk=>by rw[e]at hshape;have hshape:da f t m = .ok m':=hshape;exact hK2 () _ _ l5 lk ⟨W9,m',RE hW7 hW9,w10,by rw[hst,hshape],hml'⟩
  refine aa λy hy=>?_;simp;subst hy;cases hl:fh f t with
  | false=>refine gY [1,2,3,4,5,9] (λn ρ h11=>n=0/\h11=h10/\ρ=[(1,RM (RJ ⟨B,0,RK⟩)),(2,RM (RJ ⟨R,0,RK⟩)),(3,vm),(4,vt),(5,RG RH i),(9,.bool RO)]) 0 ⟨rfl,rfl,by simp[bF,hl]⟩ ?_;rintro n ρ h11 ⟨rfl,rfl,rfl⟩ K3 hK3;simp[L.bH.l4];exact done (by rw[hl];rfl) _ rfl rfl
  | true=>
   have hbq:eY f t=x:=hxeq;rw[hbq,hl]at hshape done;refine gY [1,2,3,4,5,6,7,9,12] (λn ρ h11=>∃k:Nat,k<=x.term.to.length/\n=x.term.to.length-k/\h11=h10/\ρ=[(1,RM (RJ ⟨B,0,RK⟩)),(2,RM (RJ ⟨R,0,RK⟩)),(3,vm),(4,vt),(5,RG RH i),(6,RM (RJ ⟨D,0,RK⟩)),(7,RM (RJ ⟨D7,0,RK⟩)),(9,.bool RN),(12,RG RH k)]/\∀j,j<k->pP f (nth x.term.to j)=RO)
    x.term.to.length ⟨0,by omega,by omega,rfl,by simp[bF,hl],λj hj=>by omega⟩ ?_;rintro n ρ _ ⟨k,hk,rfl,rfl,rfl,hpre⟩ K3 hK3;have cc10:=ae (RE hW110 w10.wle) cb.1;have cb10:=cb.2.mono (RE hW110 w10.wle);by_cases hlt:k<x.term.to.length
   ·refine aa λy hy=>?_;simp[ct10,tr10.len,hlt];subst hy;refine aa λy hy=>?_;have htb:pP f (nth x.term.to k)=(decide (nth x.term.to k<1)||decide ((f.blocks.length:Int)<=nth x.term.to k)):=rfl;refine aa λq hq=>?_;simp(disch:=omega)[ct10,tr10.idx1 rfl,tr10.int RD,cc10,cb10.len,<-htb];subst hq;cases hob:pP f (nth x.term.to k)with
    | true=>refine aN Sa ?_;simp[tb10,tp10];refine qK (t:=(14,t.blk,t.place)) rfl rfl rfl ?_;refine ret R3 R3 w10 hW9 (by rw[hshape,if_pos];simp only[Pj];rw[O0];exact⟨_,bz hlt,hob⟩) rfl rfl λ_ h9 hl9 hK9=>?_;simp[hl9];exact hK9
    | false=>
     refine aP Sa ?_;simp;subst hy;simp(disch:=omega);refine hK3 (x.term.to.length-(k+1)) _ _ R3 ⟨k+1,by omega,rfl,rfl,by simp[bF],λj hj=>?_⟩;rcases NQ j k with h | h
     ·exact hpre j h
     have:j=k:=by omega
     subst this;exact hob
   have hlt':¬(k:Int)<x.term.to.length:=by omega
   simp[L.bH.l4,ct10,tr10.len,hlt];refine done (by simp only[Pj];rw[OU];intro e;obtain⟨n,hn,hb⟩:=O0.1 e;obtain⟨j,hj,rfl⟩:=N7 hn;rw[<-aA hj,hpre j R3]at hb;cases hb) _ rfl rfl
 rintro _ h5 ⟨W5,m,hW5,w5,hm,hml⟩;simp;subst hz;simp;refine EF ?_;refine w5.cI (k:=(1,0)) (e:=T.dv) (D:=gotD (0,0,0)) (Part.all) (d:=gotD (0,0,0)) rfl R1 rfl rfl (vz (by constructor<;>decide) (by constructor<;>decide) (by constructor<;>decide)) λh6 w6 hs6=>?_;simp[tP w6 (Own.aj)];exact hK _ _ ⟨by rw[hrs,hm];rfl,RE hle1 (RE hW1 (RE hW5 w6.wle))⟩
def noTh:Th:=⟨-1,0,[],[]⟩
def kG:Th:=⟨0,0,[],[]⟩
def dO (t:Th) (l:List Th) (n:Int):List Th:=if 0<=n/\n<8192 then l.set n.toNat t else l
def jw (l:List Th) (t:Th):List Th:=t.mks.foldl (dO t) l
def uG (ts:List Th):List Th:=ts.foldl jw (List.replicate 8192 noTh)
variable{n:Int}
theorem ml{t:Th}{l:List Th}:(dO t l n).length=l.length:=by unfold dO;split<;>simp
theorem xb{t:Th}{l:List Th}:(jw l t).length=l.length:=mK (f:=dO t) (λx:List Th=>x.length=l.length) (λ_ _ h=>ml.trans h) _ _ rfl
theorem yw{ts:List Th}:(uG ts).length=8192:=mK (f:=jw) (λx:List Th=>x.length=8192) (λ_ _ h=>xb.trans h) _ _ (OO ..)
def wm (vo:Value) (l:List Th):Own:=λk=>if k=(0,0) then it T.cC vo l else RK
theorem yX{vo:Value}{l l':List Th}(q:Key):wm vo l' q=(wm vo l).upd (0,0) (it T.cC vo l') q:=by
 unfold wm Own.upd;repeat' split
 all_goals first | rfl | simp_all
theorem Owns.IU{po:OP}{P:Program}{h:Heap}{o:Own}{k:Key}[r:Rep α]{e:TypeId}{v:Value}{l:List α}{t:TypeId}{x y:Operand}{i:Nat}{u:Value}{d:α}(w:Owns W h o)(hk:o k=it e v l)(hsz:df P t=RJ (Rep.n α))(hx:asg us x = RM (RJ ((slA v).add (i*Rep.n α))))(hy:asg us y=u)(hi:i<l.length)(hr:Rd W u d)(hK : ∀h',Owns W h' (o.upd k (it e v (l.set i d)))->(∀X:View,X.le (vw h)->Av X v->X.le (vw h'))->K undef h'):Lft.step P (.store t x y) ty us h K:=
 sF (po:=po) hsz hx hy (w.get hk) hi hr λh' o2 m=>hK h' (w.iH hk o2 m) λX hX hA=>(m.view hX hA).1
theorem Owns.H9{po:OP}{P:Program}{h:Heap}{o:Own}{k:Key}{β:Type}[r:Rep α][Rep β]{e:TypeId}{v:Value}{l:List α}{off:Nat}{g:α->β}{s:α->β->α}(p:Part α β off g s){t:TypeId}{x y:Operand}{i:Nat}{u:Value}{d:β}(w:Owns W h o)(hk:o k=it e v l)(hsz:df P t=RJ (Rep.n β))(hx:asg us x = RM (RJ (((slA v).add (i*Rep.n α)).add off)))(hy:asg us y=u)(hi:i<l.length)(hr:Rd W u d)(hK : ∀h',Owns W h' (o.upd k (it e v (l.set i (s l[i] d))))->(∀X:View,X.le (vw h)->Av X v->X.le (vw h'))->K undef h'):Lft.step P (.store t x y) ty us h K:=
 AE (po:=po) p hsz hx hy (w.get hk) hi hr λh' hs o2 m=>hK h' (w.iH hk o2 m) λX hX hA=>(m.view hX hA).1
structure SiS (V:View) (h0:Heap) (vo:Value) (l:List Th) (h:Heap):Prop where
 own:Owns V h (wm vo l)
 le:(vw h0).le (vw h)
theorem Cu{ts:List Th}{vt:Value}{V:View}{h:Heap}(ht:SlRd V vt ts)(hV:V.le (vw h)):
  az RP 93 #[vt] h (λu h'=>(vw h).le (vw h')/\SlRd (grow V h h') u (uG ts)):=by
 refine ao (args:=[vt]) follows Tryz.func93 E.cA RB λK hK=>?_;have htb:=ht.bound;dsimp only[L.cA,lkF,lkG];refine aa λz hz=>?_;simp;subst hz;refine aa λz hz=>?_;have hsi:uG ts=ts.foldl jw (List.replicate 8192 noTh):=rfl;obtain⟨N,hN⟩ : ∃N:Nat,N=8192:=⟨_,rfl⟩;rw[<-hN]at hsi;have hNi:(8192:Int)=N:=by rw[hN];rfl
 simp;refine mH (α:=Th) (W:=V) (k:=.i64) (n:=N) (d:=kG) El.gw (by rw[hN];rfl) (by rw[hN];rfl) ⟨[RG RH 0],[RG RH 0,RL RK 0 0,RL RK 0 0],rfl,⟨rfl,by decide,by decide⟩,[RG RH 0],[RL RK 0 0,RL RK 0 0],rfl,⟨rfl,by decide,by decide⟩,[RL RK 0 0],[RL RK 0 0],rfl,⟨_,rfl,aE⟩,⟨_,rfl,aE⟩⟩ R3 R3 λvo h1 o1 m1 hle1 hb1=>?_;have av:Av (vw h) vo:=λb hb=>by rw[hb1]at hb;cases hb;exact View.cM RD (NO _)
 have w1:Owns V h1 (wm vo (List.replicate N kG)):=((Owns.start hV).add (k:=(0,0)) rfl o1 hle1 (λb hb=>by rw[hb1]at hb;cases hb;exact NO _)).congr λq=>by
  unfold wm Own.upd;repeat' split
  all_goals first | rfl | simp_all
 subst hz;refine aa λz hz=>?_;simp;refine bX [0,3,4] (fun(_:Unit) k=>[vt,vo,RG RH k]) (λ_ k h2=>SiS V h vo (rows (λ_=>noTh) k++List.replicate (N-k) kG) h2) N ()
  rfl R3 rfl (by simpa using⟨w1,hle1⟩) (λ_ _=>rfl) (λv k h2 hk m=>by simp[hNi]) ?_ ?_
 ·rintro _ k h2 hlt ⟨w2,le2⟩ K2 hK2;have hlen:(rows (λ_=>noTh) k++List.replicate (N-k) kG).length=N:=by simp;omega
  have n2:=w2.now (k:=(0,0)) (v:=vo) (l:=rows (λ_=>noTh) k++List.replicate (N-k) kG) rfl;have ik:=n2.idxn (N:=4) rfl (k:=.i64) (i:=k) R3 R3;simp[ik];refine Owns.H9 (o:=wm vo (rows (λ_=>noTh) k++List.replicate (N-k) kG)) (W:=V) (k:=(0,0)) (α:=Th) (v:=vo) (l:=rows (λ_=>noTh) k++List.replicate (N-k) kG) (i:=k) Th.zi (d:=(-1:Int)) w2 rfl R1 rfl rfl R3 (pZ R3 R3) λh3 w3 hs3=>?_;refine hK2 () _ _ rfl rfl ⟨w3.congr λq=>?_,hs3 _ le2 av⟩;have e:(rows (λ_=>noTh) k++List.replicate (N-k) kG)[k]' R3=kG:=by rw[Qj Sa];simp
  rw[<-tx hlt,e];exact yX q
 rintro _ h2 ⟨w2,le2⟩;rw[QG,List.replicate_zero,Pn]at w2;have hrow:rows (λ_=>noTh) N=List.replicate N noTh:=by refine Ps Sa λi h1 h2=>?_;simp[rows]
 rw[hrow]at w2;simp;subst hz;refine aa λz hz=>?_;simp;refine bX [0,3,5] (fun(_:Unit) i=>[vt,vo,RG RH i]) (λ_ i h3=>SiS V h vo ((ts.take i).foldl jw (List.replicate N noTh)) h3) ts.length ()
  rfl R3 rfl (by simpa using⟨w2,le2⟩) (λ_ _=>rfl) (λv k h3 hk m=>by simp[(ht.mono m.own.wle).len]) ?_ ?_
 ·rintro _ i h3 hlti ⟨w3,le3⟩ K2 hK2;have hst:(ts.take (i+1)).foldl jw (List.replicate N noTh)=jw ((ts.take i).foldl jw (List.replicate N noTh)) (nth ts i):=by rw[NT hlti,O8,aA hlti];rfl
  have hlen:((ts.take i).foldl jw (List.replicate N noTh)).length=N:=mK (f:=jw) (λx:List Th=>x.length=N) (λ_ _ h=>xb.trans h) _ _ (OO ..);generalize (ts.take i).foldl jw (List.replicate N noTh)=l at w3 hst hlen;have ht0:=ht;obtain⟨ut,hut,hutr⟩:=ht0.wh rfl (N:=4) rfl hlti;have hat:=ht0.at hlti;rw[<-aA hlti]at hat;obtain⟨vk,hvk⟩:=(hat.part Th.BI).sl;have hvk1:an V (((slA vt).add (i*4)).add 2)=RJ vk:=hvk.1;have hvk2:=hvk.2;generalize nth ts i=t at hst hutr hvk2;have hkb:=hvk2.bound;refine aa λy hy=>?_;simp;subst hy;refine bX [0,3,5,6] (fun(_:Unit) j=>[vt,vo,RG RH i,RG RH j]) (λ_ j h4=>SiS V h vo ((t.mks.take j).foldl (dO t) l) h4) t.mks.length ()
   rfl R3 rfl (by simpa using⟨w3,le3⟩) (λ_ _=>rfl) (λv k h4 hk m=>by have ht4:=ht0.mono m.own.wle;simp(disch:=omega)[ht4.idxn (N:=4) rfl,ae m.own.wle hvk1,(hvk2.mono m.own.wle).len]) ?_ ?_
  ·rintro _ j h4 hltj ⟨w4,le4⟩ K3 hK3;have hst4:(t.mks.take (j+1)).foldl (dO t) l=dO t ((t.mks.take j).foldl (dO t) l) (nth t.mks j):=by rw[NT hltj,O8,aA hltj];rfl
   have hlen4:((t.mks.take j).foldl (dO t) l).length=N:=mK (f:=dO t) (λx:List Th=>x.length=N) (λ_ _ h=>ml.trans h) _ _ hlen;generalize (t.mks.take j).foldl (dO t) l=l4 at w4 hst4 hlen4;have ht4:=ht0.mono w4.wle;have hk4:=hvk2.mono w4.wle;refine aa λy hy=>?_;simp(disch:=omega)[ht4.idxn (N:=4) rfl,ae w4.wle hvk1,hk4.idx1 rfl,hk4.int RD];subst hy;refine aa λy hy=>?_;rw[dO]at hst4;by_cases hc:0<=nth t.mks j/\nth t.mks j<8192
   ·rw[if_pos hc]at hst4;simp[hc];subst hy;refine aN Sa ?_;have n4:=w4.now (k:=(0,0)) (v:=vo) (l:=l4) rfl;simp(disch:=omega)[ht4.idxn (N:=4) rfl,n4.idxn (N:=4) rfl,hut _ w4.wle];refine Owns.IU (W:=V) (o:=wm vo l4) (k:=(0,0)) (α:=Th) (l:=l4) (v:=vo) (i:=(nth t.mks j).toNat) (d:=t) w4 rfl R1 rfl rfl R3 hutr λh5 w5 hs5=>?_;exact hK3 () _ _ rfl rfl (by rw[hst4];exact⟨w5.congr yX,hs5 _ le4 av⟩)
   rw[if_neg hc]at hst4;have hcb:(decide (0<=nth t.mks j)&&decide (nth t.mks j<8192))=false:=by rw[OU];intro e;exact hc (by simpa using e)
   simp[hcb];subst hy;refine aP Sa ?_;simp;exact hK3 () _ _ rfl rfl (by rw[hst4];exact⟨w4,le4⟩)
  rintro _ h4 ⟨w4,le4⟩;rw[OK]at w4;simp;exact hK2 () _ _ rfl rfl (by rw[hst];exact⟨w4,le4⟩)
 rintro _ h3 ⟨w3,le3⟩;rw[OK]at w3;simp;subst hz;simp;refine hK _ _ ⟨le3,?_⟩;rw[hsi];exact(w3.get (k:=(0,0)) (v:=vo) (l:=ts.foldl jw (List.replicate N noTh)) rfl).rd (aW hV) λb hb=>by rw[hb1]at hb;cases hb;exact ck (NO _)
def fo (f:aq) (made:List Th) (away:List BL) (v blk place:Int):Bool:=
 if 0<=v/\v<f.params then RN
 else if(v<0\/8191<v)\/(nth made v.toNat).blk<0 then RO
 else if(nth made v.toNat).blk=blk then decide ((nth made v.toNat).place<0)||decide ((nth made v.toNat).place<place)
 else !nth (nth away (nth made v.toNat).blk.toNat) blk.toNat
theorem ti{f:aq}{made:List Th}{away:List BL}{x blk place:Int}{v vm va:Value}{V:View}{h:Heap}(hv:Rd V v f)(hm:SlRd V vm made)(ha:SlRd V va away)(hV:V.le (vw h))(hml:made.length=8192)(hq1 : ∀i,i<8192->(nth made i).blk<away.length)(hq2 : ∀i,i<away.length->blk<(nth away i).length)(hq3:0<=blk):
  az RP 94 #[v,vm,va,RG RH x,RG RH blk,RG RH place] h (λu h'=>u = .bool (fo f made away x blk place)/\(vw h).le (vw h')):=by
 refine ao (args:=[v,vm,va,RG RH x,RG RH blk,RG RH place]) follows Tryz.func94 E.mI RB λK hK=>?_;dsimp only[L.mI,lkF,lkG];refine aa λz hz=>?_;simp;refine cu (v:=v) rfl ?_;have hle1:=bM h (.cells v.cells T.dX);have hat1:At (grow V h (h.push (.cells v.cells T.dX))) ⟨h.size,0,RK⟩ f:=og (t:=T.dX) (fz:=(0,0)) (by rw[ck (NO _)];simp) (hv.mono (aW hV));generalize h.push (.cells v.cells T.dX)=h1 at hle1 hat1;have hW1:(grow V h h1).le (vw h1):=gU (RE hV hle1);have hVW:V.le (grow V h h1):=aW hV;obtain⟨cp,vb,cb⟩:=gH hat1;generalize grow V h h1=W1 at cp cb hW1 hVW;have hm:=hm.mono hVW;have ha:=ha.mono hVW;generalize h.size=B at cp cb;subst hz;refine aa λz hz=>?_;have hst:fo f made away x blk place=fo f made away x blk place:=rfl;conv at hst=>lhs;unfold fo
 by_cases c1:0<=x/\x<f.params
 ·rw[if_pos c1]at hst;simp[ae hW1 cp,c1];exact hK _ _ ⟨by rw[<-hst],hle1⟩
 rw[if_neg c1]at hst;have hc1:(decide (0<=x)&&decide (x<f.params))=false:=by rw[OU];intro e;exact c1 (by simpa using e)
 simp[ae hW1 cp,hc1];subst hz;refine aa λz hz=>?_;by_cases c2:x<0\/8191<x
 ·rw[if_pos (.inl c2)]at hst;have hc2:(decide (x<0)||decide (8191<x))=true:=by simpa using c2
  simp[hc2];exact hK _ _ ⟨by rw[<-hst],hle1⟩
 have hc2:(decide (x<0)||decide (8191<x))=false:=by rw[OU];intro e;exact c2 (by simpa using e)
 have hx:x.toNat<made.length:=by omega
 have hat:=hm.at hx;rw[<-aA hx]at hat;obtain⟨ut,hut,hutr⟩:=hm.wh rfl (N:=4) rfl hx;have hb1:=hq1 x.toNat R3;have hblk:an W1 (((slA vm).add (x.toNat*4)).add 0)=RJ (RG RH (nth made x.toNat).blk):=(hat.part Th.zi).int;simp(disch:=omega)[hc2,(hm.mono hW1).idxn (N:=4) rfl,ae hW1 hblk];generalize nth made x.toNat=t at hst hblk hutr hb1 hat;refine⟨λc3=>?_,λc3'=>?_⟩
 ·rw[if_pos (.inr c3)]at hst;exact hK _ _ ⟨by rw[<-hst],hle1⟩
 have c3:¬t.blk<0:=by omega
 rw[if_neg (by rintro(q | q)<;>contradiction)]at hst;subst hz;refine aa λz hz=>?_;simp(disch:=omega)[(hm.mono hW1).idxn (N:=4) rfl,hut _ hW1];refine dt (X:=W1) (z:=.agg #[RG RH 0,RG RH 0,RL RK 0 0,RL RK 0 0]) R1 rfl R1 hutr R5 R5 λh2 hle2 hs2 hat2=>?_;obtain⟨tb,tp,_,_⟩:=yl (hat2 (grow W1 h1 h2) (aW hW1) (ck (NO _)));have hW2:(grow W1 h1 h2).le (vw h2):=gU (RE hW1 hle2);have hW12:W1.le (grow W1 h1 h2):=aW hW1;generalize grow W1 h1 h2=W2 at tb tp hW2 hW12;generalize h1.size=D at tb tp;have hle12:=RE hle1 hle2;subst hz;refine aa λz hz=>?_;by_cases c4:t.blk=blk
 ·rw[if_pos c4]at hst;simp[ae hW2 tb,ae hW2 tp,c4];exact hK _ _ ⟨by rw[<-hst],hle12⟩
 rw[if_neg c4]at hst;simp[ae hW2 tb,c4];subst hz;refine aa λz hz=>?_;have ha2:=(ha.mono hW12).mono hW2;obtain⟨rv,hrv⟩:=ha2.rows;obtain⟨e1,e2⟩:=hrv t.blk.toNat R3;have hb2:=hq2 t.blk.toNat R3;have e3:=(e2.at (i:=blk.toNat) R3).bool;rw[<-aA,show blk.toNat*Rep.n Bool=blk.toNat from OR _]at e3;simp(disch:=omega)[ae hW2 tb,ha2.idxn (N:=1) rfl,e1 _ RD,e2.idxn (N:=1) rfl,e3];subst hz;simp;exact hK _ _ ⟨by rw[<-hst],hle12⟩
def mh (f:aq) (t:Th):PhiD:=nth (eY f t).phis (-1-t.place).toNat
def uy (f:aq) (b:Int):Int:=((nth f.blocks b.toNat).ins.length:Nat)
def kM (f:aq) (t:Th):Bool:=decide (0<t.blk)&&decide ((mh f t).ins.map InD.frm=cD f t.blk)
def stT (f:aq) (made:List Th) (away:List BL) (t:Th) (x:Int):Bool:=!fo f made away x t.blk t.place
def stP (f:aq) (made:List Th) (away:List BL) (p:InD):Bool:=!fo f made away p.val p.frm (uy f p.frm)
def eu (f:aq) (made:List Th) (away:List BL) (t:Th):Except Tr Unit:=
 if 0<=t.place then(if t.tks.any (stT f made away t) then .error (13,t.blk,t.place) else .ok ())
 else if !kM f t then .error (16,t.blk,t.place)
 else if(mh f t).ins.any (stP f made away) then .error (13,t.blk,t.place)
 else .ok ()
def gK (f:aq):List Th:=uG (aC f)
def ft (f:aq):List BL:=rows (λb=>dF f b) f.blocks.length
def mU (f:aq):Nat->Nat
 | 0=>f.blocks.length
 | n+1=>mU f n+(nth f.blocks n).phis.length+(nth f.blocks n).ins.length
def wayE (f:aq):Except Tr Unit:=upE (λb _=>if nth (dF f (-1)) b=RN then .ok () else .error (15,b,0)) f.blocks.length ()
def xc (f:aq):Except Tr Unit:=upE (λi _=>eu f (gK f) (ft f) (nth (aC f) i)) (aC f).length ()
def Ig:Except Tr Unit->Except Tr Unit->Except Tr Unit
 | .ok _,y=>y
 | .error e,_=>.error e
def ib (f:aq):Tr:=
 if f.params<0\/4<f.params then(1,0,0)
 else if f.blocks.length=0 then(14,0,0)
 else if 512<f.blocks.length\/4096<mU f f.blocks.length then(2,0,0)
 else if(jt (dV f)).1≠0 then jt (dV f)
 else jt (Ig (wayE f) (xc f))
theorem Ck{f:aq}(hsm:SmF f){n:Nat}(hn:n<=f.blocks.length):mU f n<=10000+n*20000:=by
 induction n with
 | zero=>simpa[mU]using hsm.len
 | succ n ih=>have:=ih R3;have b:=hsm.blk n R3;have:=b.phis;have:=b.ins;simp only[mU];omega
theorem pw {σ ε:Type} {f:Nat->σ->Except ε σ} {s:σ} {t:ε} : ∀{n:Nat},upE f n s = .error t->∃k s',k<n/\upE f k s = .ok s'/\f k s' = .error t
 | n+1,h=>by
  simp only[upE]at h;split at h
  ·rename_i s' hs;exact⟨n,s',Nat.lt_succ_self n,hs,h⟩
  rename_i t' ht;cases h;obtain⟨k,s',h1,h2⟩:=pw ht;exact⟨k,s',Nat.lt_succ_of_lt h1,h2⟩
theorem qL{f:aq}{t:Th}{e:Tr}(h:da f t m = .error e):(10<=e.1/\e.1<=14)/\e.2.1=t.blk/\e.2.2=t.place:=by
 unfold da at h;split at h
 ·cases h;simp
 split at h
 ·cases h;simp
 split at h
 ·cases h;simp
 unfold mz at h;split at h
 ·rename_i e' he;cases h;obtain⟨k,s',_,_,h3⟩:=pw he;unfold jH at h3;split at h3
  ·cases h3;simp
  cases h3
 split at h
 ·cases h;simp
 cases h
theorem Ay{f:aq}(hsm:SmF f):0<=(jt (dV f)).1/\(jt (dV f)).1<=100/\I64 (jt (dV f)).2.1/\I64 (jt (dV f)).2.2:=by
 cases h:dV f with
 | ok m=>exact⟨by simp[jt],by simp[jt],by constructor<;>simp[jt],by constructor<;>simp[jt]⟩
 | error e=>obtain⟨k,s',h1,_,h3⟩:=pw h;obtain⟨h4,h5,h6⟩:=qL h3;have ok:=lM hsm (bz h1);have:=ok.blk;have:=ok.place;have:=hsm.len;refine⟨by simp only[jt];omega,by simp only[jt];omega,⟨?_,?_⟩,⟨?_,?_⟩⟩<;>simp only[jt,h5,h6]<;>omega
theorem yQ(hn:0<=n){ts:List Th}(h : ∀t∈ts,t.blk<n){i:Nat}(hi:i<8192):(nth (uG ts) i).blk<n:=by
 have key : ∀(ts:List Th),(∀t∈ts,t.blk<n)->∀l:List Th,(∀x∈l,x.blk<n)->∀x∈ts.foldl jw l,x.blk<n:=by
  intro ts;induction ts with
  | nil=>exact λ_ l hl=>hl
  | cons t ts ih=>
   intro ht l hl;refine ih (λx hx=>ht x (NZ _ hx)) _ ?_;refine mK (f:=dO t) (λl:List Th=>∀x∈l,x.blk<n) (λl a hl x hx=>?_) _ _ hl;unfold dO at hx;split at hx
   ·rcases Qt hx with h | rfl
    ·exact hl x h
    exact ht _ NX
   exact hl x hx
 refine key ts h _ (λx hx=>?_) _ (bz (by show i<(uG ts).length;rw[yw];exact hi));rw[(List.mem_replicate.1 hx).2];show(-1:Int)<n;omega
theorem zh{f:aq}{t:Th}(h:t∈aC f)(hp:t.place<0):(-1-t.place).toNat<(eY f t).phis.length:=by
 obtain⟨b,hb,h⟩:=gC.1 h;rcases iZ.1 h with⟨i,hi,rfl⟩ | ⟨i,hi,rfl⟩ | rfl
 ·simp only[phiT,eY]at *;rw[show(-1-(-1-(i:Int))).toNat=i by omega];simpa using hi
 ·simp only[insT]at hp;omega
 simp only[endT]at hp;omega
theorem KN{f:aq}(hsm:SmF f){t:Th}(h:t∈aC f)(hp:t.place<0):(mh f t).ins.length<=10000:=
 (hsm.blk t.blk.toNat (by have:=(lM hsm h).blk;omega)).phi _ (zh h hp)
theorem GotD.M9:Part GotD Int 0 GotD.e (λd x=>{ d with e:=x }):=(Part.fst Part.all).via (λ_=>rfl) λ_ _=>rfl
theorem Di{f:aq}{v:Value}{h:Heap}(hv:Rd (vw h) v f)(hsm:SmF f):
  az RP 60 #[v] h (λu h'=>u=gotV (ib f)/\(vw h).le (vw h')):=by
 refine ao (args:=[v]) follows Tryz.func60 E.aX RB λK hK=>?_;have hn:=hsm.len;dsimp only[L.aX,lkF,lkG];refine aa λz hz=>?_;simp;refine fW rfl hv λh1 _ hle1 hs1 hat=>?_;obtain⟨cp,vb,cb⟩:=gH hat;obtain⟨u,hu,hur⟩:=hat.aZ rfl;have hu:Un.ev (vw h1) (.aZ 2) (RM (RJ ⟨h.size,0,RK⟩))=RJ u:=hu;generalize h.size=B at cp cb hu;refine cZ (z:=.agg #[RG RH 0,RG RH 0,RG RH 0]) R1 ?_;have q1:=bM h1 (.cells (Value.cells (.agg #[RG RH 0,RG RH 0,RG RH 0])) T.dv);generalize e2:h1.push (.cells (Value.cells (.agg #[RG RH 0,RG RH 0,RG RH 0])) T.dv)=h2 at q1;have b2:h2[h1.size]? = RJ (.cells (gotV (0,0,0)).cells T.dv (0,0)):=by rw[<-e2];simp;rfl
 have w2:=(Owns.start (h:=h1) (View.le_refl (vw h1))).add (k:=(1,0)) rfl (fX (h:=h2) (d:=gotD (0,0,0)) b2 (vz (by constructor<;>decide) (by constructor<;>decide) (by constructor<;>decide)) R4) q1 (λb hb=>by simp only[Value.ownBlock,NN]at hb;omega);generalize h1.size=R at w2;generalize hV1:vw h1=V1 at cp cb hu hur w2;generalize ho2:Own.upd (λx=>RK) (1,0) (it T.dv (RL (RJ ⟨R,0,RK⟩) 1 1) [gotD (0,0,0)])=o2 at w2;have hR2:o2 (1,0)=bx T.dv R (gotD (0,0,0)):=by rw[<-ho2];rfl
 have hO2 : ∀k,k≠(1,0)->o2 k=none:=λk hk=>by rw[<-ho2];exact Own.aB hk
 clear ho2 b2 e2;rw[hV1]at hle1;have cpv : ∀{h':Heap},V1.le (vw h')->an (vw h') ⟨B,0,RK⟩=RJ (RG RH f.params):=λq=>ae q cp;have cbv : ∀{h':Heap},V1.le (vw h')->an (vw h') ⟨B,1,RK⟩=RJ vb:=λq=>ae q cb.1;have cbl : ∀{h':Heap},V1.le (vw h')->Un.ev (vw h') .len vb=RJ (RG RH f.blocks.length):=λq=>(cb.2.mono q).len;have huv : ∀{h':Heap},V1.le (vw h')->Un.ev (vw h') (.aZ 2) (RM (RJ ⟨B,0,RK⟩))=RJ u:=λq=>by have:=dk (ρ:=λ_=>RK) (e:=.un (.aZ 2) (.con (RM (RJ ⟨B,0,RK⟩)))) q (v:=u) (by simpa using hu);simpa using this
 have ret : ∀{t:Tr} {h8:Heap} {W8:View} {o:Own} {x y:Operand} {us:List (Nat × Value)} {ty:TypeId} {K9:Value->Heap->Prop},I64 t.1->I64 t.2.1->I64 t.2.2->Owns W8 h8 o->o (1,0)=bx T.dv R (gotD (0,0,0))->V1.le W8->ib f=t->
   asg us x = RM (RJ ⟨R,0,RK⟩)->asg us y=gotV t->(∀v h9,Un.ev (vw h9) (.aZ 3) (RM (RJ ⟨R,0,RK⟩))=RJ (gotV (ib f))->K (gotV (ib f)) h9->K9 v h9)->@Lft.step (@opAt noPP RK) RP (.store T.dv x y) ty us h8 K9:=by
  intro t h8 W8 o x y us ty K9 t1 t2 t3 w8 ho hW8 hbad hx hy hK9;refine w8.cI (k:=(1,0)) (e:=T.dv) (D:=gotD (0,0,0)) (Part.all) (d:=gotD t) ho R1 hx hy (vz t1 t2 t3) λh9 w9 hs9=>?_;refine hK9 _ _ ?_ ?_
  ·rw[hbad];exact tP w9 (Own.aj)
  exact hK _ _ ⟨rfl,RE hle1 (RE hW8 w9.wle)⟩
 have i0:I64 0:=by constructor<;>decide
 subst hz;refine aa λz hz=>?_;have hst:ib f=ib f:=rfl;conv at hst=>rhs;unfold ib
 by_cases c1:f.params<0\/4<f.params
 ·rw[if_pos c1]at hst;have hc:(decide (f.params<0)||decide (4<f.params))=true:=by simpa using c1
  simp[cpv w2.wle,hc];refine Aq ?_;refine ret (by constructor<;>decide) i0 i0 w2 hR2 RD hst rfl rfl λ_ h9 hl9 hK9=>?_;simp[hl9];exact hK9
 rw[if_neg c1]at hst;have hc:(decide (f.params<0)||decide (4<f.params))=false:=by rw[OU];intro e;exact c1 (by simpa using e)
 simp[cpv w2.wle,hc];subst hz;refine aa λz hz=>?_;simp[cbv w2.wle,cbl w2.wle];refine⟨λc2=>?_,λc2=>?_⟩
 ·rw[if_pos (by simp[c2])]at hst;refine Aq ?_;refine ret (by constructor<;>decide) i0 i0 w2 hR2 RD hst rfl rfl λ_ h9 hl9 hK9=>?_;simp[hl9];exact hK9
 rw[if_neg (by simp[c2])]at hst;subst hz;refine aa λz hz=>?_;simp[cbv w2.wle,cbl w2.wle];subst hz;refine aa λz hz=>?_;simp;refine bX [1,2,3,4] (fun(_:Unit) k=>[RM (RJ ⟨B,0,RK⟩),RM (RJ ⟨R,0,RK⟩),RG RH (mU f k:Nat),RG RH k]) (λ_ k h3=>h3=h2) f.blocks.length ()
  rfl R3 rfl rfl (λ_ _=>rfl) (λv k h3 hk q=>by subst q;simp[cbv w2.wle,cbl w2.wle]) ?_ ?_
 ·rintro _ k h3 hltk rfl K2 hK2;have hle:=Ck hsm (Nat.le_of_lt hltk);have cb3:=cb.2.mono w2.wle;have hatk:=cb3.at hltk;rw[<-aA hltk]at hatk;obtain⟨vp,hvp⟩:=(hatk.part BlkD.sQ).sl;obtain⟨vi,hvi⟩:=(hatk.part BlkD.jY).sl;have hvp1:an (vw h3) (((slA vb).add (k*6)).add 0)=RJ vp:=hvp.1;have hvi1:an (vw h3) (((slA vb).add (k*6)).add 1)=RJ vi:=hvi.1;have b1:=(hsm.blk k hltk).phis;have b2:=(hsm.blk k hltk).ins;simp(disch:=omega)[cbv w2.wle,cb3.idxn (N:=6) rfl,hvp1,hvi1,hvp.2.len,hvi.2.len];refine hK2 () _ _ rfl ?_ rfl;simp(disch:=omega)[bF,setE,mU,Lft.look];done
 rintro _ h3 rfl;have hcb:=Ck hsm (NO f.blocks.length);simp;subst hz;refine aa λz hz=>?_;by_cases c3:512<f.blocks.length\/4096<mU f f.blocks.length
 ·rw[if_pos c3]at hst;have hc3:(decide ((512:Int)<f.blocks.length)||decide ((4096:Int)<(mU f f.blocks.length:Nat)))=true:=by simp only[OV,decide_eq_true_eq];omega
  simp[cbv w2.wle,cbl w2.wle,hc3];refine Aq ?_;refine ret (by constructor<;>decide) i0 i0 w2 hR2 RD hst rfl rfl λ_ h9 hl9 hK9=>?_;simp[hl9];exact hK9
 rw[if_neg c3]at hst;have hc3:(decide ((512:Int)<f.blocks.length)||decide ((4096:Int)<(mU f f.blocks.length:Nat)))=false:=by rw[OU];simp only[ne_eq,OV,decide_eq_true_eq];omega
 simp[cbv w2.wle,cbl w2.wle,hc3];subst hz;refine aa λz hz=>?_;simp[huv w2.wle];refine ah R1 (Bb (hur.mono w2.wle) hsm R3) ?_;rintro _ h4 ⟨rfl,hle4⟩;have w4:=w2.ext' hle4;obtain⟨e1,e2,e3,e4⟩:=Ay hsm;generalize hT:jt (dV f)=tr at hst e1 e2 e3 e4;have eI:I64 tr.1:=⟨by show _<=tr.1;omega,by show tr.1<=_;omega⟩;refine fG (n:=3) (v:=gotV tr) (z:=.agg #[RG RH 0,RG RH 0,RG RH 0]) R1 rfl R1 rfl (by simp[gotV,Value.cells,Value.oneCell']) R5 R5 λh5 hle5 hs5 hb5=>?_;have w5:=w4.add (k:=(2,0)) (hO2 _ R4) (fX (h:=h5) (d:=gotD tr) hb5 (vz eI e3 e4) R4) hle5 (λb hb=>by simp only[Value.ownBlock,NN]at hb;omega);have hR5:(o2.upd (2,0) (it T.dv (RL (RJ ⟨h4.size,0,RK⟩) 1 1) [gotD tr])) (1,0)=bx T.dv R (gotD (0,0,0)):=by rw[Own.aB R4];exact hR2
 have l5:=tP w5 (k:=(2,0)) (t:=tr) (B:=h4.size) Own.aj;have f5:an (vw h5) ⟨h4.size,0,RK⟩=RJ (RG RH tr.1):=by simpa[gotD]using((w5.at (k:=(2,0)) (d:=gotD tr) (B:=h4.size) Own.aj).part GotD.M9).int
 generalize h4.size=D at w5 hR5 l5 f5;have w6:Owns V1 h5 o2:=w5.sub λk i hk=>by
  by_cases he:k=(2,0)
  ·subst he;rw[hO2 _ R4]at hk;cases hk
  rw[Own.aB he];exact hk
 subst hz;refine aa λz hz=>?_;simp[f5];refine And.symm ⟨λc4=>?_,λc4=>?_⟩
 ·rw[if_pos c4]at hst;simp[l5];refine ret eI e3 e4 w6 hR2 RD hst rfl rfl λ_ h9 hl9 hK9=>?_;simp[hl9];exact hK9
 rw[if_neg (by simpa using c4)]at hst;subst hz;refine aa λz hz=>?_;simp[huv w6.wle];refine ah R1 (oW (hur.mono w6.wle) R3) ?_;rintro vr h7 ⟨hle7,hr7⟩;have w7:=w6.ext hle7;have hr:=hr7.mono (gu V1 h5 h7);have hX7:V1.le (grow V1 h5 h7):=aW w6.wle;generalize grow V1 h5 h7=X7 at w7 hr hX7;clear hr7 hle7 l5 f5 w5 w6 hR5;subst hz;refine aa λz hz=>?_;simp;refine rM (α:=List Bool) El.rm λh8 hle8 hsz8 own8=>?_;have w8:=w7.add (k:=(0,0)) (hO2 _ R4) (own8 X7) hle8 (λb hb=>by simp only[Value.ownBlock,NN]at hb;omega);generalize RL (RJ ⟨h7.size,0,RK⟩) 0 0=va0 at w8;subst hz;refine aa λz hz=>?_;simp;have wle8:=RE hX7 w8.wle;have hrl:=my (f:=f) (wo:=-1);refine bX [1,2,6,7,8] (fun(_:Unit) k=>[RM (RJ ⟨B,0,RK⟩),RM (RJ ⟨R,0,RK⟩),vr,va0,RG RH k]) (λ_ k h3=>h3=h8/\upE (λb _=>if nth (dF f (-1)) b=RN then .ok () else .error ((15,b,0):Tr)) k () = .ok ()) f.blocks.length ()
  rfl R3 rfl ⟨rfl,rfl⟩ (λ_ _=>rfl) (λv k h3 hk ⟨q,_⟩=>by subst q;simp[cbv wle8,cbl wle8]) ?_ ?_
 ·rintro _ k h3 hltk ⟨rfl,hup⟩ K2 hK2;have hr3:=hr.mono w8.wle;have e3:=(hr3.at (i:=k) R3).bool;rw[<-aA,show k*Rep.n Bool=k from OR _]at e3;simp(disch:=omega)[hr3.idxn (N:=1) rfl,e3];cases hb:nth (dF f (-1)) k with
  | true=>rw[sP];exact hK2 () _ _ rfl rfl ⟨rfl,by rw[jz hup,if_pos hb]⟩
  | false=>rw[qF];have hway:wayE f = .error (15,k,0):=qI hup hltk (by rw[if_neg (by simp[hb])]);rw[hway,Ig]at hst;refine Jn rfl ?_;refine ret (t:=(15,k,0)) ⟨by show _<=(15:Int);omega,by show(15:Int)<=_;omega⟩ ⟨by show _<=(k:Int);omega,by show(k:Int)<=_;omega⟩ i0 w8 (by rw[Own.aB R4];exact hR2) hX7 hst rfl rfl λ_ h9 hl9 hK9=>?_;simp[hl9];exact hK9
 rintro _ h3 ⟨rfl,hup⟩;have hway:wayE f = .ok ():=hup;rw[hway,Ig]at hst;simp;subst hz;refine aa λz hz=>?_;simp;have w8:Owns X7 h3 (o2.upd (0,0) (it T.lQ va0 (rows (λb:Nat=>dF f b) 0))):=w8;refine bX [1,2,7,9] (fun(va:Value) k=>[RM (RJ ⟨B,0,RK⟩),RM (RJ ⟨R,0,RK⟩),va,RG RH k]) (λva k h4=>∃W,X7.le W/\Owns W h4 (o2.upd (0,0) (it T.lQ va (rows (λb:Nat=>dF f b) k)))) f.blocks.length va0
  rfl R3 rfl ⟨X7,View.le_refl _,w8⟩ (λ_ _=>rfl) (λv k h4 hk ⟨W,q1,q2⟩=>by simp[cbv (RE hX7 (RE q1 q2.wle)),cbl (RE hX7 (RE q1 q2.wle))]) ?_ ?_
 ·rintro va k h4 hltk ⟨W4,hW4,w4⟩ K2 hK2;have q4:=RE hX7 (RE hW4 w4.wle);simp[huv q4];refine ah R1 (oW (hur.mono q4) R3) ?_;rintro u5 h5 ⟨hle5,hr5⟩;have w5:=w4.ext hle5;have hr5:=hr5.mono (gu W4 h4 h5);have hW5:=RE hW4 (aW (h':=h5) w4.wle);generalize grow W4 h4 h5=W5 at w5 hr5 hW5;refine w5.jl (k:=(0,0)) (α:=List Bool) (d:=dF f k) rfl El.rm rfl (eG.2 hr5) R9 R9 R5 R5 λu6 va6 h6 w6 _=>?_;exact hK2 va6 _ _ rfl rfl ⟨W5,hW5,w6.congr λq=>by rw[e9];unfold Own.upd;split<;>rfl⟩
 rintro va h4 ⟨W4,hW4,w4⟩;simp;subst hz;refine aa λz hz=>?_;simp;have q4:=RE hX7 (RE hW4 w4.wle);simp[huv q4];have hav:Av W4 va:=w4.av (0,0) _ rfl;obtain⟨w5,ha⟩:=w4.freeze (k:=(0,0)) (v:=va) (l:=rows (λb:Nat=>dF f b) f.blocks.length) rfl;have hW5:V1.le (W4.plus va h4):=RE hX7 (RE hW4 (jJ hav));have w5:Owns (W4.plus va h4) h4 o2:=w5.sub λk i hk=>by
  by_cases he:k=(0,0)
  ·subst he;rw[hO2 _ R4]at hk;cases hk
  rw[Own.aB he,Own.aB he];exact hk
 generalize W4.plus va h4=W5 at w5 ha hW5;clear w4 hW4 hav;refine ah R1 (kD (hur.mono hW5) w5.wle hsm) ?_;rintro vt h6 ⟨hle6,ht⟩;have w6:=w5.ext hle6;have hW56:W5.le (grow W5 h4 h6):=aW w5.wle;have hW6:=RE hW5 hW56;have ha:=ha.mono hW56;generalize grow W5 h4 h6=W6 at w6 ht hW6 ha;subst hz;refine aa λz hz=>?_;simp;refine ah R1 (Cu ht w6.wle) ?_;rintro vm h7 ⟨hle7,hm⟩;have w7:=w6.ext hle7;have hW67:W6.le (grow W6 h6 h7):=aW w6.wle;have hW7:=RE hW6 hW67;have ha:=ha.mono hW67;have ht:=ht.mono hW67;generalize grow W6 h6 h7=W7 at w7 ht hW7 ha hm;clear hW56 hW67;subst hz;refine aa λz hz=>?_;simp;have hst:ib f=jt (xc f):=hst;have hus:xc f=upE (λi _=>eu f (gK f) (ft f) (nth (aC f) i)) (aC f).length ():=rfl;have hml:(gK f).length=8192:=yw;have hal:(ft f).length=f.blocks.length:=nv;have hq1 : ∀i,i<8192->(nth (gK f) i).blk<(ft f).length:=λi hi=>by rw[hal];exact yQ R3 (λt ht=>(lM hsm ht).blk.2) hi
 have hq2 : ∀i,i<(ft f).length->(nth (ft f) i).length=f.blocks.length:=λi hi=>by rw[aA hi];simp[ft,rows,my]
 have hth : ∀t∈aC f,ThOk f t:=λt ht=>lM hsm ht;have hph : ∀t∈aC f,t.place<0->(-1-t.place).toNat<(eY f t).phis.length:=λt=>zh;have hpn : ∀t∈aC f,t.place<0->(mh f t).ins.length<=10000:=λt=>KN hsm;have ha:SlRd W7 va (ft f):=ha;have hm:SlRd W7 vm (gK f):=hm;have htl:=ht.bound;clear hway;generalize gK f=made at hus hml hq1 hm;generalize ft f=away at hus hal hq1 hq2 ha;generalize aC f=ts at hus hth hph hpn ht htl;refine bX [1,2,7,10,11,12] (fun(_:Unit) i=>[RM (RJ ⟨B,0,RK⟩),RM (RJ ⟨R,0,RK⟩),va,vt,vm,RG RH i])
  (λ_ i h8=>∃W,W7.le W/\Owns W h8 o2/\upE (λi _=>eu f made away (nth ts i)) i () = .ok ()) ts.length ()
  rfl R3 rfl ⟨W7,View.le_refl _,w7,rfl⟩ (λ_ _=>rfl) (λv k h8 hk ⟨W,q1,q2,_⟩=>by simp[(ht.mono (RE q1 q2.wle)).len]) ?_ ?_
 ·rintro _ i h8 hlti ⟨W8,hW8,w8,hup⟩ K2 hK2;have hsx:upE (λi _=>eu f made away (nth ts i)) (i+1) ()=eu f made away (nth ts i):=jz hup;have her : ∀{e},eu f made away (nth ts i) = .error e->ib f=e:=λe=>by rw[hst,hus,qI hup hlti e];rfl
  have ht8:=ht.mono hW8;obtain⟨ut,hut,hutr⟩:=ht8.wh rfl (N:=4) rfl hlti;have ok:=hth _ (bz hlti);have hphi:=hph _ (bz hlti);have hpin:=hpn _ (bz hlti);generalize nth ts i=t at hsx her hutr ok hphi hpin;refine aa λy hy=>?_;simp(disch:=omega)[(ht8.mono w8.wle).idxn (N:=4) rfl,hut _ w8.wle];refine dt (X:=W8) (z:=.agg #[RG RH 0,RG RH 0,RL RK 0 0,RL RK 0 0]) R1 rfl R1 hutr R5 R5 λh9 hle9 hs9 hat9=>?_;have w9:=w8.ext hle9;obtain⟨tb,tp,_,vk,tk⟩:=yl (hat9 (grow W8 h8 h9) (aW w8.wle) (ck (NO _)));have hW9:=RE hW8 (aW (h':=h9) w8.wle);generalize grow W8 h8 h9=W9 at w9 tb tp tk hW9;generalize h8.size=D at tb tp tk;subst hy;refine aa λy hy=>?_;have hb:=ok.blk;have cb9:=cb.2.mono (RE hW7 hW9);have cc9:=ae (RE hW7 hW9) cb.1;obtain⟨ux,hux,huxr⟩:=cb9.wh rfl (N:=6) rfl (i:=t.blk.toNat) R3;simp(disch:=omega)[ae w9.wle cc9,(cb9.mono w9.wle).idxn (N:=6) rfl,ae w9.wle tb,hux _ w9.wle];refine dt (X:=W9) (z:=.agg #[RL RK 0 0,RL RK 0 0,RG RH 0,RL RK 0 0,RL RK 0 0,RG RI 0]) R1 rfl R1 huxr R5 R5 λh10 hle10 hs10 hat10=>?_;have w10:=w9.ext hle10;obtain⟨vp,vi,va',vto,bp,bi,bk,ba,bt⟩:=jm (hat10 (grow W9 h9 h10) (aW w9.wle) (ck (NO _)));have hW910:=aW (h':=h10) w9.wle;have hW10:=RE hW9 hW910;have tb10:=ae hW910 tb;have tp10:=ae hW910 tp;have tk10:=ae hW910 tk.1;have tkr:=tk.2.mono hW910;have hxeq:eY f t=nth f.blocks t.blk.toNat:=rfl;generalize grow W9 h9 h10=W10 at w10 bp bi bk ba bt hW10 tb10 tp10 tk10 tkr;generalize h9.size=D10 at bp bi bk ba bt;clear hat10 hat9 hW910 tk cb9 cc9 hux huxr hut hutr ht8 bi bk ba bt w8 w9 tb tp hle9 hle10 hs9 hs10;have hV10:=RE hW7 hW10;have hpl:=ok.place;subst hy;refine aa λy hy=>?_;simp[ae w10.wle tp10];refine⟨λc5=>?_,λc5=>?_⟩
  ·have e1:eu f made away t=if t.tks.any (stT f made away t) then .error (13,t.blk,t.place) else .ok ():=by rw[eu,if_pos c5]
   have tkb:=tkr.bound;refine bX [1,2,7,10,11,12,13,15] (fun(_:Unit) j=>[RM (RJ ⟨B,0,RK⟩),RM (RJ ⟨R,0,RK⟩),va,vt,vm,RG RH i,RM (RJ ⟨D,0,RK⟩),RG RH j])
    (λ_ j h11=>∃W,W10.le W/\Owns W h11 o2/\∀q,q<j->stT f made away t (nth t.tks q)=RO) t.tks.length ()
    rfl R3 rfl ⟨W10,View.le_refl _,w10,λq hq=>by omega⟩ (λ_ _=>rfl) (λv k h11 hk ⟨W,q1,q2,_⟩=>by simp[ae (RE q1 q2.wle) tk10,(tkr.mono (RE q1 q2.wle)).len]) ?_ ?_
   ·rintro _ j h11 hltj ⟨W11,hW11,w11,hpre⟩ K3 hK3;have g11:=RE hW11 w11.wle;have tkr11:=tkr.mono g11;have hx1:W7.le (vw h11):=RE hW10 g11;refine aa λq hq=>?_;refine aH (vw h11) RD ?_;simp(disch:=omega)[huv (RE hW7 hx1),ae g11 tb10,ae g11 tp10,ae g11 tk10,tkr11.idx1 rfl,tkr11.int RD];refine oC _ R1 Sa (ti (x:=nth t.tks j) (blk:=t.blk) (place:=t.place) (hur.mono (RE hW7 hx1)) (hm.mono hx1) (ha.mono hx1) RD hml hq1 (λi hi=>by rw[hq2 i hi];omega) R3) ?_;rintro _ h12 ⟨rfl,hle12⟩;have w12:=w11.ext' hle12;simp;subst hq;have hbe:(!fo f made away (nth t.tks j) t.blk t.place)=stT f made away t (nth t.tks j):=rfl;rw[hbe];cases hbad:stT f made away t (nth t.tks j)with
    | true=>refine aN Sa ?_;simp[ae (RE g11 hle12) tb10,ae (RE g11 hle12) tp10];refine qK (t:=(13,t.blk,t.place)) rfl rfl rfl ?_;refine ret (t:=(13,t.blk,t.place)) ⟨by show _<=(13:Int);omega,by show(13:Int)<=_;omega⟩ ⟨by show _<=t.blk;omega,by show t.blk<=_;omega⟩ ⟨by show _<=t.place;omega,by show t.place<=_;omega⟩ w12 hR2 (RE hV10 hW11) (her (by rw[e1,if_pos];rw[O0];exact⟨_,bz hltj,hbad⟩)) rfl rfl λ_ h9 hl9 hK9=>?_;simp[hl9];exact hK9
    | false=>
     refine aP Sa ?_;simp;refine hK3 () _ _ rfl rfl ⟨W11,hW11,w12,λq hq=>?_⟩;rcases NQ q j with h | h
     ·exact hpre q h
     have:q=j:=by omega
     subst this;exact hbad
   rintro _ h11 ⟨W11,hW11,w11,hpre⟩;simp;refine hK2 () _ _ rfl rfl ⟨W11,RE hW10 hW11,w11,?_⟩;rw[hsx,e1,if_neg];intro e;obtain⟨n,hn,hb⟩:=O0.1 e;obtain⟨j,hj,rfl⟩:=N7 hn;rw[<-aA hj,hpre j hj]at hb;cases hb
  have hphi:=hphi R3;have hpin:=hpin R3;have e1:eu f made away t=if !kM f t then .error (16,t.blk,t.place) else if(mh f t).ins.any (stP f made away) then .error (13,t.blk,t.place) else .ok ():=by rw[eu,if_neg R3]
  subst hy;refine aa λy hy=>?_;have hpe:mh f t=nth (nth f.blocks t.blk.toNat).phis (-1-t.place).toNat:=rfl;rw[hxeq]at hphi;obtain⟨vq,hvq⟩:=((bp.2.at hphi).part PhiD.jY).sl;rw[<-aA hphi,<-hpe]at hvq;have hvq1:an W10 (((slA vp).add ((-1-t.place).toNat*2)).add 1)=RJ vq:=hvq.1;have hvq2:=hvq.2;clear hvq;simp(disch:=omega)[ae w10.wle bp.1,(bp.2.mono w10.wle).idxn (N:=2) rfl,ae w10.wle tp10,ae w10.wle hvq1];subst hy;refine aa λy hy=>?_;simp[huv (RE hV10 w10.wle),ae w10.wle tb10];refine ah R1 (qu (hur.mono (RE hV10 w10.wle)) R3) ?_;rintro vs h11 ⟨hle11,hs11⟩;have w11:=w10.ext hle11;have hs11:=hs11.mono (gu W10 h10 h11);have hW101:=aW (h':=h11) w10.wle;have hvq1:=ae hW101 hvq1;have hvq2:=hvq2.mono hW101;have bp1:=ae hW101 bp.1;have bp2:=bp.2.mono hW101;have tb11:=ae hW101 tb10;have tp11:=ae hW101 tp10;have hW11:=RE hW10 hW101;generalize grow W10 h10 h11=W11 at w11 hs11 hvq1 hvq2 bp1 bp2 tb11 tp11 hW11;clear hW101 bp tb10 tp10 tk10 tkr w10;have hV11:=RE hW7 hW11;have hsm1:kM f t=(decide (0<t.blk)&&decide ((mh f t).ins.map InD.frm=cD f t.blk)):=rfl;have hrp : ∀p∈cD f t.blk,0<=p/\p<f.blocks.length:=λp hp=>by obtain⟨b,h1,_,rfl⟩:=oQ.1 hp;omega
  generalize hPS:mh f t=ph at hsm1 hvq2 e1 hpin hpe;generalize hQS:cD f t.blk=qs at hsm1 hs11 hrp;have hqb:=hs11.bound;subst hy;refine aa λy hy=>?_;simp[ae w11.wle tb11,(hvq2.mono w11.wle).len,(hs11.mono w11.wle).len];subst hy;refine aa λy hy=>?_;have hs0:(decide (0<t.blk)&&decide ((ph.ins.length:Int)=(qs.length:Int)))=RO->kM f t=false:=λe=>by rw[hsm1,OU];intro e2;simp only[NS,decide_eq_true_eq]at e2;rw[OU]at e;refine e ?_;simp only[NS,decide_eq_true_eq];refine⟨e2.1,?_⟩;rw[<-e2.2,Po]
  have hs1:(decide (0<t.blk)&&decide ((ph.ins.length:Int)=(qs.length:Int)))=RN->ph.ins.length=qs.length/\((∀j,j<qs.length->(nth ph.ins j).frm=nth qs j)->kM f t=RN)/\∀j,j<qs.length->(nth ph.ins j).frm≠nth qs j->kM f t=false:=λe=>by
   simp only[NS,decide_eq_true_eq]at e;refine⟨by omega,λhj=>?_,λj hj hne=>?_⟩
   ·rw[hsm1];simp only[NS,decide_eq_true_eq];refine⟨e.1,Ps R9 λi h1 h2=>?_⟩;have:=hj i h2;rw[aA h2,aA (by simpa using h1)]at this;simpa using this
   rw[hsm1,OU];intro e2;simp only[NS,decide_eq_true_eq]at e2;apply hne;rw[<-e2.2,aA (l:=List.map InD.frm ph.ins) (by rw[Po];omega),aA (l:=ph.ins) R3];simp
  generalize (decide (0<t.blk)&&decide ((ph.ins.length:Int)=(qs.length:Int)))=s0 at hs0 hs1;have k1:=hvq2.mono w11.wle;have k2:=hs11.mono w11.wle;refine ff (λρ h12=>h12=h11/\∃k:Nat,ρ=[(1,RM (RJ ⟨B,0,RK⟩)),(2,RM (RJ ⟨R,0,RK⟩)),(7,va),(10,vt),(11,vm),(12,RG RH i),(13,RM (RJ ⟨D,0,RK⟩)),(16,vq),(17,vs),(18,.bool (kM f t)),(19,RG RH k)]) ?_ ?_
  ·intro K3 hK3;simp;have fin : ∀(sm:Bool) (k:Nat),sm=kM f t->K3 [(1,RM (RJ ⟨B,0,RK⟩)),(2,RM (RJ ⟨R,0,RK⟩)),(7,va),(10,vt),(11,vm),(12,RG RH i),(13,RM (RJ ⟨D,0,RK⟩)),(16,vq),(17,vs),(18,.bool sm),(19,RG RH k)] h11:=λsm k e=>hK3 _ _ ⟨rfl,k,by rw[e]⟩;refine gY [1,2,7,10,11,12,13,16,17,18,19] (λn ρ h12=>∃(sm:Bool) (k:Nat),k<=qs.length/\n=qs.length-k/\h12=h11/\ρ=[(1,RM (RJ ⟨B,0,RK⟩)),(2,RM (RJ ⟨R,0,RK⟩)),(7,va),(10,vt),(11,vm),(12,RG RH i),(13,RM (RJ ⟨D,0,RK⟩)),(16,vq),(17,vs),(18,.bool sm),(19,RG RH k)]/\
    (sm=RN->s0=RN/\∀j,j<k->(nth ph.ins j).frm=nth qs j)/\(sm=RO->kM f t=RO)) qs.length ⟨s0,0,by omega,by omega,rfl,by simp[bF],λe=>⟨e,λj hj=>by omega⟩,hs0⟩ ?_;rintro n ρ h11 ⟨sm,k,hk,rfl,rfl,rfl,ht1,hf1⟩ K4 hK4;cases hsm2:sm with
   | false=>simp[L.aX.l6];exact fin _ _ (hf1 hsm2).symm
   | true=>
    obtain⟨u1,u2⟩:=ht1 hsm2;obtain⟨u3,u4,u5⟩:=hs1 u1;by_cases hlt:k<qs.length
    ·refine aa λq hq=>?_;simp[k2.len,hlt];subst hq;refine aa λq hq=>?_;have a1:=k1.at (i:=k) R3;rw[<-aA R3]at a1;have a2:an (vw h11) (((slA vq).add (k*2)).add 0)=RJ (RG RH (nth ph.ins k).frm):=(a1.part InD.HL).int;simp(disch:=omega)[k1.idxn (N:=2) rfl,a2,k2.idx1 rfl,k2.int RD];subst hq;simp(disch:=omega);refine hK4 (qs.length-(k+1)) _ _ R3 ⟨decide ((nth ph.ins k).frm=nth qs k),k+1,by omega,rfl,rfl,by simp[bF],λe=>⟨u1,λj hj=>?_⟩,λe=>u5 k hlt (by simpa using e)⟩;rcases NQ j k with h | h
     ·exact u2 j h
     have:j=k:=by omega
     subst this;simpa using e
    have hlt':¬(k:Int)<qs.length:=by omega
    simp[L.aX.l6,k2.len,hlt];exact fin _ _ (u4 λj hj=>u2 j R3).symm
  rintro ρ h11 ⟨rfl,k,rfl⟩;subst hy;refine aa λy hy=>?_;cases hss:kM f t with
  | false=>rw[hss,if_pos Sa]at e1;simp[ae w11.wle tb11,ae w11.wle tp11];refine qK (t:=(16,t.blk,t.place)) rfl rfl rfl ?_;refine ret (t:=(16,t.blk,t.place)) ⟨by show _<=(16:Int);omega,by show(16:Int)<=_;omega⟩ ⟨by show _<=t.blk;omega,by show t.blk<=_;omega⟩ ⟨by show _<=t.place;omega,by show t.place<=_;omega⟩ w11 hR2 hV11 (her e1) rfl rfl λ_ h9 hl9 hK9=>?_;simp[hl9];exact hK9
  | true=>
   rw[hss,if_neg Sa]at e1;simp;subst hy;refine aa λy hy=>?_;simp;have hfr : ∀j,j<ph.ins.length->0<=(nth ph.ins j).frm/\(nth ph.ins j).frm<f.blocks.length:=λj hj=>by rw[hss]at hsm1;have hsm1:=hsm1.symm;simp only[NS,decide_eq_true_eq]at hsm1;refine hrp _ ?_;rw[<-hsm1.2];exact PQ (bz hj)
   have k1:=hvq2;subst hy;simp;refine bX [1,2,7,10,11,12,13,16,20] (fun(_:Unit) j=>[RM (RJ ⟨B,0,RK⟩),RM (RJ ⟨R,0,RK⟩),va,vt,vm,RG RH i,RM (RJ ⟨D,0,RK⟩),vq,RG RH j])
    (λ_ j h12=>∃W,W11.le W/\Owns W h12 o2/\∀q,q<j->stP f made away (nth ph.ins q)=RO) ph.ins.length ()
    rfl R3 rfl ⟨W11,View.le_refl _,w11,λq hq=>by omega⟩ (λ_ _=>rfl) (λv k h11 hk ⟨W,q1,q2,_⟩=>by simp[(hvq2.mono (RE q1 q2.wle)).len]) ?_ ?_
   ·rintro _ j h12 hltj ⟨W12,hW12,w12,hpre⟩ K3 hK3;have g12:=RE hW12 w12.wle;have k1:=hvq2.mono g12;have hx1:W7.le (vw h12):=RE hW11 g12;obtain⟨f1,f2⟩:=hfr j hltj;have a1:=k1.at hltj;rw[<-aA hltj]at a1;have a2:an (vw h12) (((slA vq).add (j*2)).add 0)=RJ (RG RH (nth ph.ins j).frm):=(a1.part InD.HL).int;have a3:an (vw h12) (((slA vq).add (j*2)).add 1)=RJ (RG RH (nth ph.ins j).val):=(a1.part InD.A9).int;have hbe:(!fo f made away (nth ph.ins j).val (nth ph.ins j).frm (uy f (nth ph.ins j).frm))=stP f made away (nth ph.ins j):=rfl;have hmem:=bz hltj;generalize hp:nth ph.ins j=p at a2 a3 f1 f2 hbe hmem;have hcb:=cb.2.mono (RE hW7 hx1);have hat:=hcb.at (i:=p.frm.toNat) R3;rw[<-aA R3]at hat;obtain⟨vi,hvi⟩:=(hat.part BlkD.jY).sl;have hvi1:an (vw h12) (((slA vb).add (p.frm.toNat*6)).add 1)=RJ vi:=hvi.1;have hvi2 : ∀{K:View},Un.ev K .len vi=RJ (RG RH (uy f p.frm)):=fun{K}=>hvi.2.len;refine aa λq hq=>?_;refine aH (vw h12) RD ?_;simp(disch:=omega)[huv (RE hW7 hx1),k1.idxn (N:=2) rfl,a2,a3,cbv (RE hW7 hx1),hcb.idxn (N:=6) rfl,hvi1,hvi2];refine oC _ R1 Sa (ti (x:=p.val) (blk:=p.frm) (place:=uy f p.frm) (hur.mono (RE hW7 hx1)) (hm.mono hx1) (ha.mono hx1) RD hml hq1 (λi hi=>by rw[hq2 i hi];omega) R3) ?_;rintro _ h13 ⟨rfl,hle13⟩;have w13:=w12.ext' hle13
    simp;subst hq;rw[hbe];cases hbad:stP f made away p with
    | true=>refine aN Sa ?_;simp[ae (RE g12 hle13) tb11,ae (RE g12 hle13) tp11];refine qK (t:=(13,t.blk,t.place)) rfl rfl rfl ?_;refine ret (t:=(13,t.blk,t.place)) ⟨by show _<=(13:Int);omega,by show(13:Int)<=_;omega⟩ ⟨by show _<=t.blk;omega,by show t.blk<=_;omega⟩ ⟨by show _<=t.place;omega,by show t.place<=_;omega⟩ w13 hR2 (RE hV11 hW12) (her (by rw[e1,if_pos];rw[O0];exact⟨_,hmem,hbad⟩)) rfl rfl λ_ h9 hl9 hK9=>?_;simp[hl9];exact hK9
    | false=>
     refine aP Sa ?_;simp;refine hK3 () _ _ rfl rfl ⟨W12,hW12,w13,λq hq=>?_⟩;rcases NQ q j with h | h
     ·exact hpre q h
     have:q=j:=by omega
     subst this;rw[hp];exact hbad
   rintro _ h12 ⟨W12,hW12,w12,hpre⟩;simp;refine hK2 () _ _ rfl rfl ⟨W12,RE hW11 hW12,w12,?_⟩;rw[hsx,e1,if_neg];intro e;obtain⟨n,hn,hb⟩:=O0.1 e;obtain⟨j,hj,rfl⟩:=N7 hn;rw[<-aA hj,hpre j hj]at hb;cases hb
 rintro _ h8 ⟨W8,hW8,w8,hup⟩;simp;subst hz;simp;refine EF ?_;refine ret i0 i0 i0 w8 hR2 (RE hW7 hW8) (by rw[hst,hus,hup];rfl) rfl rfl λ_ h9 hl9 hK9=>?_;simp[hl9];exact hK9
theorem jS{σ ε:Type}{f:σ->α->Except ε σ}{a b:List α}{s:σ}:(a++b).foldlM f s=(match a.foldlM f s with | .ok s'=>b.foldlM f s' | .error e=>.error e):=by rw[Q2];cases a.foldlM f s<;>rfl
theorem sJ{σ ε:Type}{f:σ->α->Except ε σ}{a:α}{s:σ}:[a].foldlM f s=f s a:=by rw[Pt];cases f s a<;>rfl
theorem oJ {σ α ε:Type} {g:Nat->σ->Except ε σ} {f:σ->α->Except ε σ} {x:Nat->α} {s:σ} : ∀{n:Nat},(∀i s,i<n->g i s=f s (x i))->upE g n s=(rows x n).foldlM f s
 | 0,_=>rfl
 | n+1,h=>by
  have ih:=oJ (n:=n) (s:=s) λi s hi=>h i s R3;rw[e9,jS,<-ih];simp only[upE];cases upE g n s with
  | ok s'=>show g n s'=[x n].foldlM f s';rw[sJ];exact h n s' R3
  | error e=>rfl
theorem qn{σ ε:Type}[Inhabited α]{f:σ->α->Except ε σ}{l:List α}{s:σ}:upE (λi s=>f s (nth l i)) l.length s=l.foldlM f s:=by rw[oJ (f:=f) (x:=nth l) λ_ _ _=>rfl];congr 1;refine Ps Sa λi h1 h2=>?_;simp[rows,aA h2]
def lN (f:aq) (m:MW) (t:Th):Except Tr MW:=
 if t.place<0 then allS f.params t.mks t.blk t.place m
 else if t.place<(eY f t).ins.length then insS f.params t.blk (eY f t) t.place.toNat m
 else endS f.blocks.length t.blk (eY f t) m
theorem uv{f:aq}{b i:Nat}{m:MW}:lN f m (phiT f b i)=phiS f.params b (nth f.blocks b) i m:=by unfold lN;rw[if_pos (show(phiT f b i).place<0 by show -1-(i:Int)<0;omega)];rfl
theorem uh{f:aq}{b i:Nat}{m:MW}(hi:i<(nth f.blocks b).ins.length):lN f m (insT f b i)=insS f.params b (nth f.blocks b) i m:=by unfold lN;rw[if_neg (show ¬(insT f b i).place<0 by show ¬(i:Int)<0;omega),if_pos (show(insT f b i).place<((eY f (insT f b i)).ins.length:Int) by show(i:Int)<((nth f.blocks b).ins.length:Int);omega)];rfl
theorem uY{f:aq}{b:Nat}{m:MW}:lN f m (endT f b)=endS f.blocks.length b (nth f.blocks b) m:=by unfold lN;rw[if_neg (show ¬(endT f b).place<0 by show ¬((nth f.blocks b).ins.length:Int)<0;omega),if_neg (show ¬(endT f b).place<((eY f (endT f b)).ins.length:Int) by show ¬((nth f.blocks b).ins.length:Int)<((nth f.blocks b).ins.length:Int);omega)];rfl
theorem GU{f:aq}{b:Nat}{m:MW}:blkS f b m=(thB f b).foldlM (lN f) m:=by
 unfold blkS thB;rw[oJ (f:=lN f) (x:=phiT f b) (n:=(nth f.blocks b).phis.length) λi s hi=>uv.symm];rw[jS,jS];cases (rows (phiT f b) (nth f.blocks b).phis.length).foldlM (lN f) m with
 | error e=>rfl
 | ok m1=>
  simp only;rw[oJ (f:=lN f) (x:=insT f b) (n:=(nth f.blocks b).ins.length) λi s hi=>(uh hi).symm];cases (rows (insT f b) (nth f.blocks b).ins.length).foldlM (lN f) m1 with
  | error e=>rfl
  | ok m2=>simp only;rw[sJ];exact uY.symm
theorem xu{f:aq}{m:MW}:mW f m=(aC f).foldlM (lN f) m:=by
 have key : ∀n,upE (blkS f) n m=(thTo f n).foldlM (lN f) m:=by
  intro n;induction n with
  | zero=>rfl
  | succ n ih=>
   rw[ij,jS,<-ih];simp only[upE];cases upE (blkS f) n m with
   | error e=>rfl
   | ok s=>exact GU
 exact key _
theorem rZ{f:aq}:dV f=(aC f).foldlM (λm t=>da f t m) (List.replicate 8192 RO):=qn (f:=fun(m:BL) (t:Th)=>da f t m)
def vK (m:MW) (l:BL):Prop:=l.length=8192/\∀n:Int,0<=n->n<8192->(m n).isSome=nth l n.toNat
def Alike {α β:Type} (R:α->β->Prop):Except Tr α->Except Tr β->Prop
 | .ok a,.ok b=>R a b
 | .error e,.error e'=>e=e'
 | _,_=>False
theorem sD {α β γ:Type} {R:α->β->Prop} {F:α->γ->Except Tr α} {G:β->γ->Except Tr β} : ∀{l:List γ},(∀t∈l,∀a b,R a b->Alike R (F a t) (G b t))->∀{a:α} {b:β},R a b->Alike R (l.foldlM F a) (l.foldlM G b)
 | [],_,a,b,h=>h
 | t::l,hs,a,b,h=>by
  rw[Pt,Pt];have:=hs t NX a b h;cases e1:F a t with
  | error e=>
   cases e2:G b t with
   | error e'=>rw[e1,e2]at this;exact this
   | ok b'=>rw[e1,e2]at this;exact this.elim
  | ok a'=>
   cases e2:G b t with
   | error e'=>rw[e1,e2]at this;exact this.elim
   | ok b'=>rw[e1,e2]at this;exact sD (λt ht=>hs t (NZ _ ht)) this
theorem FN{f:aq}:cz n f.params 8191=!jx f n:=by rw[OA];simp[cz,jx]
theorem D9{p:α->Bool}{l:List α}:l.all (λn=>!p n)=!l.any p:=by
 induction l with
 | nil=>rfl
 | cons a l ih=>simp[ih]
def nA (t:Th) (m:BL) (n:Int):Except Tr BL:=if nth m n.toNat then .error (12,t.blk,t.place) else .ok (m.set n.toNat RN)
theorem FF{f:aq}{t:Th}{m:MW}{l:BL}(h:vK m l)(hp:0<=f.params)(hn : ∀n∈t.mks,jx f n=RO):Alike vK (t.mks.foldlM (rS t.blk t.place) m) (upE (jH t) t.mks.length l):=by
 have e:upE (jH t) t.mks.length l=t.mks.foldlM (nA t) l:=qn (f:=nA t);rw[e];refine sD (λn hnm m l h=>?_) h;have hb:=hn n hnm;simp only[jx,O2,decide_eq_false_iff_not]at hb;have hs:=h.2 n R3 R3;unfold rS nA;rw[hs];cases hc:nth l n.toNat with
 | true=>exact rfl
 | false=>
  refine⟨by simpa using h.1,λk h0 h1=>?_⟩;rw[bN (by rw[h.1];omega)];simp only[putM];by_cases hk:k=n
  ·subst hk;simp
  rw[if_neg hk,if_neg R3];exact h.2 k h0 h1
theorem yU{f:aq}{t:Th}{m:MW}{l:BL}(h:vK m l)(hp:0<=f.params):
  Alike vK (allS f.params t.mks t.blk t.place m) (if t.mks.any (jx f) then .error (11,t.blk,t.place) else upE (jH t) t.mks.length l):=by
 unfold allS;have e:(t.mks.all λn=>cz n f.params 8191)=!t.mks.any (jx f):=by rw[<-D9];congr 1;funext n;exact FN
 rw[e];cases hb:t.mks.any (jx f)with
 | true=>exact rfl
 | false=>refine FF h hp λn hn=>?_;rw[OU];intro e2;rw[OU]at hb;exact hb (O0.2 ⟨n,hn,e2⟩)
theorem JC{x:InsD}:(cz x.op 1 18&&cz x.args.length (gB x.op).1 (gB x.op).2)=!mc x:=by
 rw[OA];simp only[mc,cz,gB,lC,NS,Pl,O2,decide_eq_true_eq,decide_eq_false_iff_not,Bool.not_eq_false'];by_cases h1:x.op=1
 ·simp[h1]
 by_cases h2:x.op=15
 ·simp[h2];omega
 by_cases h3:x.op=17
 ·simp[h3]
 simp only[h1,h2,h3,if_false,decide_eq_true_eq];omega
theorem IQ{f:aq}:cz n 1 ((f.blocks.length:Int)-1)=!pP f n:=by rw[OA];simp[cz,pP];omega
theorem Fp{t:cB}:qf t=kv t:=by
 unfold qf kv gy;by_cases h1:t.kind=1
 ·rw[OA];simp[putM,h1,cz];omega
 by_cases h2:t.kind=2
 ·rw[OA];simp[putM,h2,cz];omega
 by_cases h3:t.kind=3
 ·rw[OA];simp[putM,h3,cz];omega
 by_cases h4:t.kind=4
 ·rw[OA];simp[putM,h4,cz]
 by_cases h5:t.kind=5
 ·rw[OA];simp[putM,h5,cz]
 simp[putM,h1,h2,h3,h4,h5]
theorem wj{f:aq}{t:Th}{x:Except Tr BL}(h:fh f t=RO):mz f t x=x:=by
 unfold mz;cases x with
 | error e=>rfl
 | ok m=>simp only[h,Q8];rfl
theorem EW{f:aq}{t:Th}(ht:t∈aC f)(hp:0<=f.params){m:MW}{l:BL}(h:vK m l):Alike vK (lN f m t) (da f t l):=by
 obtain⟨b,hb,ht⟩:=gC.1 ht;rcases iZ.1 ht with⟨i,hi,rfl⟩ | ⟨i,hi,rfl⟩ | rfl
 ·have e1:oG f (phiT f b i)=false:=by simp[oG,phiT];omega
  have e2:fh f (phiT f b i)=false:=by show decide (-1-(i:Int)=((nth f.blocks b).ins.length:Int))=RO;rw[decide_eq_false_iff_not];omega
  rw[uv,da,e1,e2,wj e2];exact yU (t:=phiT f b i) h hp
 ·have e1:oG f (insT f b i)=true:=by simp[oG,insT,eY];omega
  have e2:fh f (insT f b i)=false:=by show decide ((i:Int)=((nth f.blocks b).ins.length:Int))=RO;rw[decide_eq_false_iff_not];omega
  have e3:fw f (insT f b i)=nth (nth f.blocks b).ins i:=by simp[fw,eY,insT]
  rw[uh hi,da,e1,e2,wj e2,e3,insS,JC];cases hb:mc (nth (nth f.blocks b).ins i)with
  | true=>exact rfl
  | false=>exact yU (t:=insT f b i) h hp
 have e1:oG f (endT f b)=false:=by simp[oG,endT,eY]
 have e2:fh f (endT f b)=true:=by simp[fh,endT,eY]
 have e3:eY f (endT f b)=nth f.blocks b:=by simp[eY,endT]
 rw[uY,da,e1,e2,e3,endS,Fp];cases hb:kv (nth f.blocks b).term with
 | false=>exact rfl
 | true=>
  have e4:((nth f.blocks b).term.to.all λt=>cz t 1 ((f.blocks.length:Int)-1))=!(nth f.blocks b).term.to.any (pP f):=by rw[<-D9];congr 1;funext n;exact IQ
  rw[e4];show Alike vK _ (mz f (endT f b) (.ok l));unfold mz;rw[e2,e3];cases (nth f.blocks b).term.to.any (pP f)with
  | true=>exact rfl
  | false=>exact h
theorem CV{f:aq}(hp:0<=f.params):Alike vK (mW f (λ_=>RK)) (dV f):=by rw[xu,rZ];refine sD (λt ht m l h=>EW ht hp h) ⟨OO ..,λn h0 h1=>?_⟩;rw[aA (by rw[OO];omega),Rs];rfl
def Dg (t:Th):Option (Int × Int):=if t.blk<0 then RK else RJ (t.blk,t.place)
structure Site (m:MW) (s:List Th):Prop where
 len:s.length=8192
 inn : ∀n:Int,0<=n->n<8192->m n=Dg (nth s n.toNat)
 out : ∀n:Int,¬(0<=n/\n<8192)->m n=RK
theorem Cc {t:Th} (hb:0<=t.blk) : ∀{l:List Int} {m:MW} {s:List Th},Site m s->(∀n∈l,0<=n/\n<8192)->Site (l.foldl (λm n=>putM m n (t.blk,t.place)) m) (l.foldl (dO t) s)
 | [],m,s,h,_=>h
 | n::l,m,s,h,hl=>by
  rw[N8,N8];have hn:=hl n NX;refine Cc hb ⟨ml.trans h.len,λk h0 h1=>?_,λk hk=>?_⟩ λk hk=>hl k (NZ _ hk)
  ·unfold dO putM;rw[if_pos hn,bN (by rw[h.len];omega)];by_cases e:k=n
   ·subst e;rw[if_pos rfl,if_pos rfl];unfold Dg;rw[if_neg R3]
   rw[if_neg e,if_neg R3];exact h.inn k h0 h1
  unfold putM;rw[if_neg (by rintro rfl;exact hk hn)];exact h.out k hk
theorem A6 {b p:Int} : ∀{l:List Int} {m m':MW},l.foldlM (rS b p) m = .ok m'->m'=l.foldl (λm n=>putM m n (b,p)) m
 | [],m,m',h=>by cases h;rfl
 | n::l,m,m',h=>by
  rw[Pt]at h;cases e:rS b p m n with
  | error t=>rw[e]at h;cases h
  | ok m1=>
   rw[e]at h;unfold rS at e;split at e
   ·cases e
   cases e;exact A6 (l:=l) (m:=putM m n (b,p)) h
theorem Ba{ps p:Int}{l:List Int}{m m':MW}(h:allS ps l b p m = .ok m'):m'=l.foldl (λm n=>putM m n (b,p)) m/\∀n∈l,ps<=n/\n<=8191:=by
 unfold allS at h;split at h
 ·rename_i ha;refine⟨A6 h,λn hn=>?_⟩;have:=OJ.1 ha n hn;simpa[cz]using this
 cases h
theorem GO{f:aq}{t:Th}(ht:t∈aC f){m m':MW}(h:lN f m t = .ok m'):(m'=t.mks.foldl (λm n=>putM m n (t.blk,t.place)) m/\∀n∈t.mks,f.params<=n/\n<=8191)/\0<=t.blk:=by
 obtain⟨b,hb,ht⟩:=gC.1 ht;rcases iZ.1 ht with⟨i,hi,rfl⟩ | ⟨i,hi,rfl⟩ | rfl
 ·rw[uv]at h;exact⟨Ba h,by show 0<=(b:Int);omega⟩
 ·rw[uh hi]at h;unfold insS at h;split at h
  ·exact⟨Ba h,by show 0<=(b:Int);omega⟩
  cases h
 rw[uY]at h;unfold endS at h;split at h
 ·split at h
  ·cases h;exact⟨⟨rfl,λn hn=>by cases hn⟩,by show 0<=(b:Int);omega⟩
  cases h
 cases h
theorem zN {f:aq} (hp:0<=f.params) : ∀{l:List Th},(∀t∈l,t∈aC f)->∀{m m':MW} {s:List Th},Site m s->l.foldlM (lN f) m = .ok m'->Site m' (l.foldl jw s)
 | [],_,m,m',s,h,e=>by cases e;exact h
 | t::l,hl,m,m',s,h,e=>by
  rw[Pt]at e;cases e1:lN f m t with
  | error x=>rw[e1]at e;cases e
  | ok m1=>rw[e1]at e;obtain⟨⟨q1,q2⟩,q3⟩:=GO (hl t NX) e1;rw[N8];refine zN hp (λt ht=>hl t (NZ _ ht)) (m:=m1) ?_ e;rw[q1];exact Cc q3 h λn hn=>by have:=q2 n hn;omega
theorem E3{f:aq}(hp:0<=f.params){m:MW}(h:mW f (λ_=>RK) = .ok m):Site m (gK f):=by rw[xu]at h;refine zN hp (λt ht=>ht) ⟨OO ..,λn h0 h1=>?_,λn _=>rfl⟩ h;rw[aA (by rw[OO];omega),Rs];rfl
theorem xF{f:aq}{m:MW}{made:List Th}{away:List BL}{idom:List Int}{v blk place at_ told:Int}(hp:f.params<=8192)(hs:Site m made)(hd : ∀a:Int,0<=a->a<f.blocks.length->eO idom a blk=!nth (nth away a.toNat) blk.toNat)(hm : ∀i,i<8192->(nth made i).blk<f.blocks.length):useS f.params m idom v blk place at_ told=if(!fo f made away v blk at_) then .error (13,told,place) else .ok ():=by
 unfold useS;by_cases c1:0<=v/\v<f.params
 ·have e:fo f made away v blk at_=true:=by unfold fo;rw[if_pos c1]
  rw[if_pos c1,e];rfl
 rw[if_neg c1];by_cases c2:v<0\/8191<v
 ·have e:fo f made away v blk at_=false:=by unfold fo;rw[if_neg c1,if_pos (.inl c2)]
  rw[hs.out v R3,e];rfl
 have e:fo f made away v blk at_=if(nth made v.toNat).blk<0 then RO else if(nth made v.toNat).blk=blk then decide ((nth made v.toNat).place<0)||decide ((nth made v.toNat).place<at_) else !nth (nth away (nth made v.toNat).blk.toNat) blk.toNat:=by
  unfold fo;rw[if_neg c1];by_cases c3:(nth made v.toNat).blk<0
  ·rw[if_pos (.inr c3),if_pos c3]
  rw[if_neg (by rintro(q | q)<;>contradiction),if_neg c3]
 rw[hs.inn v R3 R3,e];have hmb:=hm v.toNat R3;generalize nth made v.toNat=t at hmb;unfold Dg;by_cases c3:t.blk<0
 ·rw[if_pos c3,if_pos c3];rfl
 rw[if_neg c3,if_neg c3];have e2:mD (t.blk,t.place) idom blk at_=if t.blk=blk then decide (t.place<0)||decide (t.place<at_) else !nth (nth away t.blk.toNat) blk.toNat:=by
  unfold mD;by_cases c4:t.blk=blk
  ·simp only[c4,decide_true,Pj,Bool.not_true,Q8,Bool.or_false,if_true];rw[Bool.or_comm]
  simp only[c4,decide_false,Q8,Bool.not_false,Pj,Ry,if_false];exact hd t.blk R3 hmb
 simp only[e2];generalize (if t.blk=blk then decide (t.place<0)||decide (t.place<at_) else !nth (nth away t.blk.toNat) blk.toNat)=B;cases B<;>rfl
theorem xj[Inhabited α]{l:List α}{p:α->Bool}{e:Tr}{g:Nat->Except Tr Unit}(h : ∀j,j<l.length->g j=if p (nth l j) then .error e else .ok ()):uAll g l.length=if l.any p then .error e else .ok ():=by
 have h1:uAll g l.length=l.foldlM (fun(_:Unit) x=>if p x then Except.error e else .ok ()) ():=by
  unfold uAll;rw[<-qn (f:=fun(_:Unit) x=>if p x then Except.error e else .ok ())];have key : ∀n,n<=l.length->upE (λi (_:Unit)=>g i) n ()=upE (λi (_:Unit)=>if p (nth l i) then Except.error e else .ok ()) n ():=by
   intro n;induction n with
   | zero=>exact λ_=>rfl
   | succ n ih=>intro hn;simp only[upE];rw[ih R3,h n R3]
  exact key _ (NO _)
 rw[h1];clear h1 h;induction l with
 | nil=>rfl
 | cons a l ih=>
  rw[Pt,List.any_cons];cases hp:p a with
  | true=>rfl
  | false=>rw[Ry];exact ih
theorem DS{β:Type}{p q:Nat->Bool}{x:Nat->β}{n:Nat}(h : ∀a,a<n->p a=q a):sift p x n=sift q x n:=by rw[rj,rj];congr 1;exact Rq λa ha=>h a (PC.1 ha)
theorem CZ{f:aq}{b:Nat}(hb:b<f.blocks.length):nth (dN (ofG f.blocks)) b=cD f b:=by rw[By,uC,oR,gG hb,cD];refine DS λa ha=>?_;rw[OA,te,decide_eq_true_eq,Ow];exact⟨λh=>h.2,λh=>⟨by omega,h⟩⟩
theorem Fc{f:aq}{b i:Nat}(hb:b<f.blocks.length):Bt (nth (nth f.blocks b).phis i) (nth (dN (ofG f.blocks)) b) b=kM f (phiT f b i):=by
 have e1:mh f (phiT f b i)=nth (nth f.blocks b).phis i:=by unfold mh eY phiT;simp only[Ow];rw[show(-1-(-1-(i:Int))).toNat=i by omega]
 have e2:(phiT f b i).blk=(b:Int):=rfl;unfold Bt lO kM;rw[e1,e2,CZ hb];generalize nth (nth f.blocks b).phis i=x;generalize cD f b=row;rw[OA];simp only[NS,decide_eq_true_eq,EB,yY];constructor
 ·rintro⟨⟨h1,h2⟩,h3⟩;refine⟨by omega,Ps R9 λj hj hj2=>?_⟩;have:=h3 j (by simpa using hj);rw[aA hj2,aA (by simpa using hj)]at this;simpa using this
 rintro⟨h1,h2⟩;have hl:x.ins.length=row.length:=by rw[<-h2,Po]
 refine⟨R6,λj hj=>?_⟩;rw[<-h2,aA (l:=List.map InD.frm x.ins) (by rw[Po];exact hj),aA hj];simp
theorem yt{f:aq}: ∀i,i<8192->(nth (gK f) i).blk<f.blocks.length:=λi hi=>yQ R3 (λt ht=>by
 obtain⟨b,hb,ht⟩:=gC.1 ht;rcases iZ.1 ht with⟨i,hi,rfl⟩ | ⟨i,hi,rfl⟩ | rfl
 ·show(b:Int)<_;omega
 ·show(b:Int)<_;omega
 show(b:Int)<_;omega) hi
section
variable {f:aq} {m:MW} {idom:List Int} (hp0:f.params<=8192) (hs:Site m (gK f)) (hd : ∀a b:Int,0<=a->a<f.blocks.length->0<=b->b<f.blocks.length->eO idom a b=!nth (nth (ft f) a.toNat) b.toNat)
include hp0 hs hd
theorem JF{b i:Nat}(hb:b<f.blocks.length)(hi:i<(nth f.blocks b).phis.length):phiU f m idom (dN (ofG f.blocks)) b i=eu f (gK f) (ft f) (phiT f b i):=by
 have hf:=Fc (f:=f) (i:=i) hb;have e1:mh f (phiT f b i)=nth (nth f.blocks b).phis i:=by unfold mh eY phiT;simp only[Ow];rw[show(-1-(-1-(i:Int))).toNat=i by omega]
 have e3:eu f (gK f) (ft f) (phiT f b i)=if !kM f (phiT f b i) then .error (16,b,-1-i) else if(nth (nth f.blocks b).phis i).ins.any (stP f (gK f) (ft f)) then .error (13,b,-1-i) else .ok ():=by unfold eu;rw[if_neg (show ¬0<=(phiT f b i).place by show ¬0<=-1-(i:Int);omega),e1];rfl
 rw[e3];unfold phiU;simp only[hf];cases hss:kM f (phiT f b i)with
 | false=>rfl
 | true=>
  rw[if_pos rfl,if_neg Sa];refine xj λj hj=>?_;have hfr:0<=(nth (nth (nth f.blocks b).phis i).ins j).frm/\(nth (nth (nth f.blocks b).phis i).ins j).frm<f.blocks.length:=by unfold kM at hss;rw[e1]at hss;simp only[NS,decide_eq_true_eq]at hss;have hm:=PQ (f:=InD.frm) (bz hj);rw[hss.2]at hm;obtain⟨a,h1,_,h2⟩:=oQ.1 hm;omega
  rw[xF hp0 hs (λa h0 h1=>hd a _ h0 h1 hfr.1 hfr.2) yt];rfl
theorem JV{b i:Nat}(hb:b<f.blocks.length)(hi:i<(nth f.blocks b).ins.length):insU f m idom b i=eu f (gK f) (ft f) (insT f b i):=by
 have e3:eu f (gK f) (ft f) (insT f b i)=if(nth (nth f.blocks b).ins i).args.any (stT f (gK f) (ft f) (insT f b i)) then .error (13,b,i) else .ok ():=by unfold eu;rw[if_pos (show 0<=(insT f b i).place by show 0<=(i:Int);omega)];rfl
 rw[e3];unfold insU;refine xj λj hj=>?_;rw[xF hp0 hs (λa h0 h1=>hd a _ h0 h1 R3 R3) yt];rfl
theorem IK{b:Nat}(hb:b<f.blocks.length):endU f m idom b=eu f (gK f) (ft f) (endT f b):=by
 have e3:eu f (gK f) (ft f) (endT f b)=if(nth f.blocks b).term.args.any (stT f (gK f) (ft f) (endT f b)) then .error (13,b,(nth f.blocks b).ins.length) else .ok ():=by unfold eu;rw[if_pos (show 0<=(endT f b).place by show 0<=((nth f.blocks b).ins.length:Int);omega)];rfl
 rw[e3];unfold endU;refine xj λj hj=>?_;rw[xF hp0 hs (λa h0 h1=>hd a _ h0 h1 R3 R3) yt];rfl
def stF (f:aq) (_:Unit) (t:Th):Except Tr Unit:=eu f (gK f) (ft f) t
theorem Jd{b:Nat}(hb:b<f.blocks.length):blkU f m idom (dN (ofG f.blocks)) b=(thB f b).foldlM (stF f) ():=by
 unfold blkU thB uAll;rw[oJ (f:=stF f) (x:=phiT f b) (n:=(nth f.blocks b).phis.length) λi s hi=>JF hp0 hs hd hb hi];rw[oJ (f:=stF f) (x:=insT f b) (n:=(nth f.blocks b).ins.length) λi s hi=>JV hp0 hs hd hb hi];rw[jS,jS,IK hp0 hs hd hb];cases (rows (phiT f b) (nth f.blocks b).phis.length).foldlM (stF f) ()with
 | error e=>rfl
 | ok m1=>
  obtain⟨⟩:=m1;cases hI:(rows (insT f b) (nth f.blocks b).ins.length).foldlM (stF f) ()with
  | error e=>simp only[andE,hI]
  | ok m2=>simp only[andE,hI];rw[sJ];rfl
theorem FK:uAll (blkU f m idom (dN (ofG f.blocks))) f.blocks.length=xc f:=by
 have key : ∀n,n<=f.blocks.length->uAll (blkU f m idom (dN (ofG f.blocks))) n=(thTo f n).foldlM (stF f) ():=by
  intro n;induction n with
  | zero=>exact λ_=>rfl
  | succ n ih=>
   intro hn;rw[ij,jS,<-ih R3];have e:uAll (blkU f m idom (dN (ofG f.blocks))) (n+1)=match uAll (blkU f m idom (dN (ofG f.blocks))) n with | .ok _=>blkU f m idom (dN (ofG f.blocks)) n | .error e=>.error e:=by show upE _ (n+1) ()=_;simp only[upE];unfold uAll;cases upE (λi (_:Unit)=>blkU f m idom (dN (ofG f.blocks)) i) n ()<;>rfl
   rw[e];cases uAll (blkU f m idom (dN (ofG f.blocks))) n with
   | error e=>rfl
   | ok s=>exact Jd hp0 hs hd R3
 rw[key _ (NO _)];exact(qn (f:=stF f)).symm
end
theorem zO {f:aq} : ∀k,manyN f k=(mU f k:Int)
 | 0=>rfl
 | k+1=>by have ih:=zO (f:=f) k;unfold manyN at ih ⊢;rw[up,ih,mU];omega
theorem za {σ ε:Type} {f g:Nat->σ->Except ε σ} {s:σ} : ∀{n:Nat},(∀i s,i<n->f i s=g i s)->upE f n s=upE g n s
 | 0,_=>rfl
 | n+1,h=>by
  simp only[upE];rw[za (n:=n) λi s hi=>h i s R3];cases upE g n s with
  | ok s'=>exact h n s' R3
  | error e=>rfl
theorem wT {f:Nat->Unit->Except Tr Unit} : ∀{n:Nat},upE f n () = .ok ()->∀i,i<n->f i () = .ok ()
 | n+1,h,i,hi=>by
  simp only[upE]at h;cases e:upE f n ()with
  | error t=>rw[e]at h;cases h
  | ok s=>
   rw[e]at h;rcases NQ i n with hlt | hge
   ·exact wT e i hlt
   have:i=n:=by omega
   subst this;exact h
theorem Ia{f:aq}(hn:0<f.blocks.length):uAll (uL f) f.blocks.length=wayE f:=by
 unfold uAll wayE;refine za λb s hb=>?_;unfold uL;have e:decide ((b:Int)∈bD (ofG f.blocks))=nth (dF f (-1)) b:=by rw[OA,decide_eq_true_eq,(ko (by rw[oR];exact hn)).mem,j0 hb]
 rw[e]
theorem G4{f:aq}(hn:0<f.blocks.length)(hw:wayE f = .ok ())(a b:Int)(h0:0<=a)(h1:a<f.blocks.length)(h2:0<=b)(h3:b<f.blocks.length):
  eO (rQ (ofG f.blocks)) a b=!nth (nth (ft f) a.toNat) b.toNat:=by
 have hR : ∀x:Nat,x<f.blocks.length->Re (ofG f.blocks) (-1) x:=λx hx=>by
  have:=wT hw x hx;rw[<-j0 hx];split at this
  ·assumption
  cases this
 have hg:0<(ofG f.blocks).length:=by rw[oR];exact hn
 obtain⟨fp,C,l,hl,I⟩:=yW hg;have hi:rQ (ofG f.blocks)=l:=by unfold rQ;rw[hl];rfl
 rw[hi];have e:=tI I C (a:=a.toNat) (b:=b.toNat) (by rw[oR];omega) (hR _ R3);rw[N9 h0,N9 h2]at e;rw[e,OA,qw];have ha:nth (ft f) a.toNat=dF f a:=by unfold ft;rw[gG R3,N9 h0]
 rw[ha];have hr:=j0 (f:=f) (wo:=a) (b:=b.toNat) R3;have haa:((a.toNat:Nat):Int)=a:=N9 h0;rw[haa];cases hc:nth (dF f a) b.toNat with
 | true=>rw[hc]at hr;simp[hr.1 rfl]
 | false=>
  rw[hc]at hr;have hnr:¬Re (ofG f.blocks) a b.toNat:=λh=>by have:=hr.2 h;cases this
  simp[hnr,hR _ (show a.toNat<f.blocks.length by omega),hR _ (show b.toNat<f.blocks.length by omega)]
theorem zK(f:aq):lJ f=ib f:=by
 unfold lJ nc ib;by_cases c1:f.params<0\/4<f.params
 ·have:cz f.params 0 4=false:=by rw[OU];simp[cz];omega
  rw[if_pos this,if_pos c1]
 have hw4:¬cz f.params 0 4=false:=by simp[cz];omega
 rw[if_neg hw4,if_neg c1];by_cases c2:f.blocks.length=0
 ·rw[if_pos c2,if_pos c2]
 rw[if_neg c2,if_neg c2];have hm:ED f=(mU f f.blocks.length:Int):=zO _;by_cases c3:512<f.blocks.length\/4096<mU f f.blocks.length
 ·rw[if_pos (by rw[hm];omega),if_pos c3]
 rw[if_neg (by rw[hm];omega),if_neg c3];have hp:0<=f.params:=by omega
 have hsh:=CV hp;cases hS:mW f (λ_=>RK)with
 | error e=>
  cases hR:dV f with
  | ok l=>rw[hS,hR]at hsh;exact hsh.elim
  | error e'=>rw[hS,hR]at hsh;have hee:e=e':=hsh;subst hee;obtain⟨k,s',h1,_,h3⟩:=pw hR;have:=(qL h3).1;rw[if_pos (by show e.1≠0;omega)];rfl
 | ok m=>
  cases hR:dV f with
  | error e'=>rw[hS,hR]at hsh;exact hsh.elim
  | ok l=>
   rw[if_neg (by simp[jt])];have hs:=E3 hp hS;show(match tz f m (rQ (ofG f.blocks))with | .ok _=>((0,0,0):Tr) | .error t=>t)=_;unfold tz;rw[Ia R3];cases hW:wayE f with
   | error e=>rfl
   | ok s=>obtain⟨⟩:=s;have:=FK (f:=f) (m:=m) (idom:=rQ (ofG f.blocks)) R3 hs λa b h0 h1 h2 h3=>G4 R3 hW a b h0 h1 h2 h3;show(match uAll (blkU f m (rQ (ofG f.blocks)) (dN (ofG f.blocks))) f.blocks.length with | .ok _=>((0,0,0):Tr) | .error t=>t)=jt (xc f);rw[this];cases xc f<;>rfl
def Marks (m:BL) (S:Int->Prop):Prop:=m.length=8192/\∀n:Int,0<=n->n<8192->(nth m n.toNat=RN↔S n)
theorem DI:Marks (List.replicate 8192 RO) (λ_=>False):=⟨OO,λn h0 h1=>by rw[aI R3];simp⟩
theorem Fs{S:Int->Prop}(h:Marks m S)(h0:0<=n)(h1:n<8192):Marks (m.set n.toNat RN) (λk=>S k\/k=n):=by
 refine⟨by simpa using h.1,λk k0 k1=>?_⟩;rw[bN (by rw[h.1];omega)];split
 ·rename_i e;exact⟨λ_=>.inr R3,λ_=>rfl⟩
 rename_i e;rw[h.2 k k0 k1];exact⟨.inl,λo=>o.resolve_right (by rintro rfl;exact e rfl)⟩
theorem Marks.congr{S T:Int->Prop}(h:Marks m S)(he : ∀n,S n↔T n):Marks m T:=⟨h.1,λn a b=>(h.2 n a b).trans (he n)⟩
theorem yc {t:Th} : ∀{l:List Int} {m m':BL} {S:Int->Prop},Marks m S->(∀n∈l,0<=n/\n<8192)->l.foldlM (nA t) m = .ok m'->Marks m' (λk=>S k\/k∈l)/\l.Nodup/\∀n∈l,¬S n
 | [],m,m',S,h,_,e=>by cases e;exact⟨h.congr λn=>by simp,Ru,λn hn=>by cases hn⟩
 | a::l,m,m',S,h,hl,e=>by
  rw[Pt]at e;have ha:=hl a NX;unfold nA at e;by_cases hc:nth m a.toNat=RN
  ·rw[if_pos hc]at e;cases e
  rw[if_neg hc]at e;obtain⟨g1,g2,g3⟩:=yc (Fs h ha.1 ha.2) (λn hn=>hl n (NZ _ hn)) e;refine⟨g1.congr λn=>by rw[N5,or_assoc],QT.2 ⟨λhm=>g3 a hm (.inr rfl),g2⟩,λn hn=>?_⟩;rcases N5.1 hn with rfl | hn
  ·exact λhs=>hc ((h.2 n ha.1 ha.2).2 hs)
  exact λhs=>g3 n hn (.inl hs)
structure zZ (f:aq) (t:Th):Prop where
 op:oG f t=RN->mc (fw f t)=RO
 term:fh f t=RN->kv (eY f t).term=RN
 mks : ∀n∈t.mks,f.params<=n/\n<=8191
 to:fh f t=RN->∀n∈(eY f t).term.to,1<=n/\n<f.blocks.length
theorem Ib{t:Th}:upE (jH t) t.mks.length m=t.mks.foldlM (nA t) m:=qn (f:=nA t)
theorem any_false{p:α->Bool}{l:List α}:l.any p=RO↔∀n∈l,p n=false:=by rw[List.any_eq_false];exact forall_congr' λn=>forall_congr' λ_=>by simp
theorem Hq{f:aq}:jx f n=RO↔f.params<=n/\n<=8191:=by simp[jx]
theorem Jo{f:aq}:pP f n=RO↔1<=n/\n<f.blocks.length:=by simp[pP]
theorem C4{f:aq}{t:Th}{m':BL}(h:da f t m = .ok m'):zZ f t/\t.mks.foldlM (nA t) m = .ok m':=by
 unfold da at h;split at h
 ·cases h
 rename_i c1;split at h
 ·cases h
 rename_i c2;split at h
 ·cases h
 rename_i c3;rw[Ib]at h;unfold mz at h;split at h
 ·cases h
 rename_i m1 e;split at h
 ·cases h
 rename_i c4;cases h;refine⟨⟨λg=>?_,λg=>?_,λn hn=>?_,λg n hn=>?_⟩,e⟩
 ·simpa[g]using c1
 ·simpa[g]using c2
 ·exact Hq.1 (any_false.1 (by simpa only[Bool.not_eq_true]using c3) n hn)
 refine Jo.1 (any_false.1 (by simpa only[g,Pj,Bool.not_eq_true]using c4) n hn)
def Gv (l:List Th):List Int:=l.flatMap Th.mks
theorem wv {f:aq} (hp:0<=f.params) : ∀{l:List Th} {m m':BL} {S:Int->Prop},Marks m S->l.foldlM (λm t=>da f t m) m = .ok m'->(∀t∈l,zZ f t)/\(Gv l).Nodup/\∀n∈Gv l,¬S n
 | [],m,m',S,h,e=>⟨λt ht=>(by cases ht),Ru,λn hn=>(by cases hn)⟩
 | t::l,m,m',S,h,e=>by
  rw[Pt]at e;cases e1:da f t m with
  | error x=>rw[e1]at e;cases e
  | ok m1=>
   rw[e1]at e;obtain⟨g,e2⟩:=C4 e1;obtain⟨k1,k2,k3⟩:=yc h (λn hn=>by have:=g.mks n hn;omega) e2;obtain⟨i1,i2,i3⟩:=wv hp k1 e;refine⟨λx hx=>?_,?_,λn hn=>?_⟩
   ·rcases N5.1 hx with rfl | hx
    ·exact g
    exact i1 x hx
   ·refine PL.2 ⟨k2,i2,λa ha b hb=>?_⟩;rintro rfl;exact i3 a hb (.inr ha)
   rcases NU.1 hn with hn | hn
   ·exact k3 n hn
   exact λhs=>i3 n hn (.inl hs)
def AO (f:aq) (v b p:Int):Prop:=(0<=v/\v<f.params)\/∃t∈aC f,v∈t.mks/\(t.blk=b/\(t.place<0\/t.place<p)\/t.blk≠b/\¬Re (ofG f.blocks) t.blk b.toNat)
structure Hn (ts:List Th) (s:List Th):Prop where
 len:s.length=8192
 is : ∀n:Int,0<=n->n<8192->(nth s n.toNat=noTh/\∀t∈ts,n∉t.mks)\/(nth s n.toNat∈ts/\n∈(nth s n.toNat).mks)
theorem AV {t:Th} {ts:List Th} : ∀{l:List Int} {s:List Th} {d:List Int},(∀n∈l,n∈t.mks)->(s.length=8192/\∀n:Int,0<=n->n<8192->(nth s n.toNat=noTh/\(∀t∈ts,n∉t.mks)/\n∉d)\/(nth s n.toNat∈ts++[t]/\n∈(nth s n.toNat).mks))->
  ((l.foldl (dO t) s).length=8192/\∀n:Int,0<=n->n<8192->(nth (l.foldl (dO t) s) n.toNat=noTh/\(∀t∈ts,n∉t.mks)/\n∉d++l)\/(nth (l.foldl (dO t) s) n.toNat∈ts++[t]/\n∈(nth (l.foldl (dO t) s) n.toNat).mks))
 | [],s,d,_,h=>by simpa using h
 | a::l,s,d,hl,h=>by
  rw[N8];have:=AV (t:=t) (ts:=ts) (l:=l) (s:=dO t s a) (d:=d++[a]) (λn hn=>hl n (NZ _ hn)) ⟨by rw[ml];exact h.1,λn h0 h1=>?_⟩
  ·simpa using this
  unfold dO;split
  ·rw[bN (by rw[h.1];omega)];split
   ·rename_i hc e;have:n=a:=by omega
    subst this;exact .inr ⟨O6 _ (NW.2 rfl),hl n NX⟩
   rename_i hc e;rcases h.2 n h0 h1 with⟨a1,a2,a3⟩ | a1
   ·refine .inl ⟨a1,a2,?_⟩;rw[NU,NW];rintro(q | rfl)
    ·exact a3 q
    exact e rfl
   exact .inr a1
  rename_i hc;rcases h.2 n h0 h1 with⟨a1,a2,a3⟩ | a1
  ·refine .inl ⟨a1,a2,?_⟩;rw[NU,NW];rintro(q | rfl)
   ·exact a3 q
   exact hc ⟨h0,h1⟩
  exact .inr a1
theorem BR : ∀{l ts s:List Th},Hn ts s->Hn (ts++l) (l.foldl jw s)
 | [],ts,s,h=>by simpa using h
 | t::l,ts,s,h=>by
  rw[N8];have:=AV (t:=t) (ts:=ts) (l:=t.mks) (s:=s) (d:=[]) (λn hn=>hn) ⟨h.len,λn h0 h1=>(h.is n h0 h1).elim (λa=>.inl ⟨a.1,a.2,Qi⟩) λa=>.inr ⟨O9 _ a.1,a.2⟩⟩;have:=BR (l:=l) (ts:=ts++[t]) (s:=jw s t) ⟨this.1,λn h0 h1=>(this.2 n h0 h1).elim (λa=>.inl ⟨a.1,λx hx=>?_⟩) .inr⟩
  ·simpa using this
  rcases NU.1 hx with hx | hx
  ·exact a.2.1 x hx
  rw[NW.1 hx];simpa using a.2.2
theorem FM{f:aq}:Hn (aC f) (gK f):=
 BR (l:=aC f) (ts:=[]) (s:=List.replicate 8192 noTh) ⟨OO,λn h0 h1=>.inl ⟨aI R3,λt ht=>by cases ht⟩⟩
theorem Cq{f:aq}{t:Th}(h:t∈aC f):0<=t.blk/\t.blk<f.blocks.length:=by obtain⟨b,hb,ht⟩:=gC.1 h;rcases iZ.1 ht with⟨i,hi,rfl⟩ | ⟨i,hi,rfl⟩ | rfl<;>exact⟨Int.natCast_nonneg _,Int.ofNat_lt.2 hb⟩
theorem I9{f:aq}{a:Int}(h0:0<=a)(h1:a<f.blocks.length)(h2:0<=b)(h3:b<f.blocks.length):nth (nth (ft f) a.toNat) b.toNat=RN↔Re (ofG f.blocks) a b.toNat:=by unfold ft;rw[gG R3,N9 h0];exact j0 R3
theorem zP{f:aq}{v p:Int}(hb0:0<=b)(hb1:b<f.blocks.length)(h:fo f (gK f) (ft f) v b p=RN):AO f v b p:=by
 unfold fo at h;split at h
 ·rename_i c;exact .inl c
 split at h
 ·cases h
 rename_i c1 c2;rcases FM.is v R3 R3 with⟨e,_⟩ | ⟨hm,hv⟩
 ·exact absurd (.inr (by rw[e];decide)) c2
 have hat:=Cq hm;refine .inr ⟨_,hm,hv,?_⟩;split at h
 ·rename_i e;exact .inl ⟨e,by simpa using h⟩
 rename_i e;refine .inr ⟨e,λhr=>?_⟩;rw[(I9 hat.1 hat.2 hb0 hb1).2 hr]at h;cases h
structure nD (f:aq):Prop where
 params:0<=f.params/\f.params<=4
 blocks:0<f.blocks.length/\f.blocks.length<=512
 cnt:mU f f.blocks.length<=4096
 good : ∀t∈aC f,zZ f t
 nodup:(Gv (aC f)).Nodup
 way : ∀b:Nat,b<f.blocks.length->Re (ofG f.blocks) (-1) b
 takes : ∀t∈aC f,0<=t.place->∀v∈t.tks,AO f v t.blk t.place
 phi : ∀b i:Nat,b<f.blocks.length->i<(nth f.blocks b).phis.length->0<b/\(nth (nth f.blocks b).phis i).ins.map InD.frm=cD f b/\∀p∈(nth (nth f.blocks b).phis i).ins,AO f p.val p.frm (uy f p.frm)
theorem G5{f:aq}{x:Int}:x∈cD f b↔(0<=x/\x<f.blocks.length)/\b∈(nth f.blocks x.toNat).term.to:=by
 unfold cD;rw[oQ];constructor
 ·rintro⟨a,ha,hb,rfl⟩;exact⟨R6,by simpa using hb⟩
 rintro⟨⟨h0,h1⟩,h⟩;exact⟨x.toNat,by omega,by simpa using h,by omega⟩
theorem BE{f:aq}{t:Th}:eu f (gK f) (ft f) t = .ok ()↔
  (0<=t.place/\∀v∈t.tks,fo f (gK f) (ft f) v t.blk t.place=RN)\/(t.place<0/\kM f t=RN/\∀p∈(mh f t).ins,fo f (gK f) (ft f) p.val p.frm (uy f p.frm)=RN):=by
 unfold eu;by_cases h0:0<=t.place
 ·rw[if_pos h0];have hn:¬t.place<0:=by omega
  simp only[h0,hn,true_and,false_and,or_false];cases e:t.tks.any (stT f (gK f) (ft f) t)with
  | true=>
   obtain⟨v,hv,hs⟩:=O0.1 e;constructor
   ·intro h;cases h
   intro h;unfold stT at hs;rw[h v hv]at hs;cases hs
  | false=>
   constructor
   ·intro _ v hv;have:=any_false.1 e v hv;simpa[stT]using this
   intro _;rfl
 rw[if_neg h0];have hn:t.place<0:=by omega
 simp only[h0,hn,true_and,false_and,false_or];cases e1:kM f t with
 | false=>simp
 | true=>
  rw[if_neg Sa];cases e:(mh f t).ins.any (stP f (gK f) (ft f))with
  | true=>
   obtain⟨v,hv,hs⟩:=O0.1 e;constructor
   ·intro h;cases h
   rintro⟨_,h⟩;unfold stP at hs;rw[h v hv]at hs;cases hs
  | false=>
   constructor
   ·intro _;refine⟨rfl,λv hv=>?_⟩;have:=any_false.1 e v hv;simpa[stP]using this
   intro _;rfl
theorem H7{f:aq}{b i:Nat}:mh f (phiT f b i)=nth (nth f.blocks b).phis i:=by unfold mh eY phiT;dsimp only;rw[Ow];congr 1;omega
theorem KU{f:aq}(h:(lJ f).1=0):nD f:=by
 rw[zK]at h;unfold ib at h;split at h
 ·cases h
 rename_i c1;split at h
 ·cases h
 rename_i c2;split at h
 ·cases h
 rename_i c3;cases hs:dV f with
 | error e=>obtain⟨k,s',_,_,h3⟩:=pw (show upE _ _ _=_ from hs);have:=(qL h3).1;rw[hs]at h;rw[if_pos (by show e.1≠0;omega)]at h;have h:e.1=0:=h;omega
 | ok m=>
  rw[hs,if_neg (by simp[jt])]at h;obtain⟨g1,g2,_⟩:=wv (f:=f) R3 DI (by rw[<-rZ];exact hs);cases hw:wayE f with
  | error e=>
   rw[hw]at h;obtain⟨k,s',_,_,h3⟩:=pw (show upE _ _ _=_ from hw);split at h3
   ·cases h3
   cases h3;exact absurd (show(15:Int)=0 from h) R4
  | ok u=>
   obtain⟨⟩:=u;rw[hw]at h;cases hu:xc f with
   | error e=>
    rw[hu]at h;obtain⟨k,s',_,_,h3⟩:=pw (show upE _ _ _=_ from hu);have h:e.1=0:=h;unfold eu at h3;repeat' split at h3
    all_goals first | (cases h3;done) | (cases h3;first | exact absurd (show(13:Int)=0 from h) R4 | exact absurd (show(16:Int)=0 from h) R4)
   | ok u=>
    obtain⟨⟩:=u;have hst : ∀t∈aC f,eu f (gK f) (ft f) t = .ok ():=λt ht=>by obtain⟨i,hi,e⟩:=N7 ht;have:=wT hu i hi;rw[aA hi,e]at this;exact this
    refine⟨by omega,by omega,by omega,g1,g2,λb hb=>?_,λt ht h0 v hv=>?_,λb i hb hi=>?_⟩
    ·have:=wT hw b hb;rw[<-j0 hb];split at this
     ·assumption
     cases this
    ·have hat:=Cq ht;rcases BE.1 (hst t ht)with⟨_,k⟩ | ⟨k,_⟩
     ·exact zP hat.1 hat.2 (k v hv)
     omega
    have ht:phiT f b i∈aC f:=gC.2 ⟨b,hb,iZ.2 (.inl ⟨i,hi,rfl⟩)⟩;rcases BE.1 (hst _ ht)with⟨k,_⟩ | ⟨_,k1,k2⟩
    ·exact absurd k (by show ¬(0:Int)<=-1-(i:Int);omega)
    unfold kM at k1;rw[H7]at k1 k2;obtain⟨k3,k4⟩:=(NS _ _).mp k1;have k4:(nth (nth f.blocks b).phis i).ins.map InD.frm=cD f b:=of_decide_eq_true k4;have k3:(0:Int)<b:=of_decide_eq_true k3;refine⟨by omega,k4,λp hp=>?_⟩;have hm:p.frm∈cD f b:=by rw[<-k4];exact PQ hp
    have:=(G5.1 hm).1;exact zP this.1 this.2 (k2 p hp)
def mkL (vs:Value) (at_:Nat) (ps:Int) (vb:Value) (nx:Int) (vl:Value):List Value:=[vs,RG RH at_,RG RH ps,vb,RG RH nx,vl]
def rawV (s:List Int) (at_:Nat):Int:=if at_<s.length then nth s at_ else 0
def aR (s:List Int) (at_:Nat) (n:Int):Int:=((rawV s at_).tmod n+n).tmod n
theorem di{s:List Int}{at_:Nat}(hn:0<n):0<=aR s at_ n/\aR s at_ n<n:=by have b1:=Int.lt_tmod_of_pos (rawV s at_) hn;exact⟨Int.tmod_nonneg _ R3,Int.tmod_lt_of_pos _ hn⟩
theorem JQ{h:Heap}{o:Own}{M at_:Nat}{vs vb vl:Value}{ps nx:Int}{s:List Int}(w:Owns W h o)(hk:o (0,0)=bx T.bu M (RawN.mk (n:=5) (mkL vs at_ ps vb nx vl)))(hs:SlRd W vs s)(h1:at_<=1000000000)(hn:0<n)(hn2:n<=1000000000):
  az RP 34 #[RM (RJ ⟨M,0,RK⟩),RG RH n] h (λu h'=>u = RG RH (aR s at_ n)/\Owns W h' (o.upd (0,0) (bx T.bu M (RawN.mk (n:=5) (mkL vs (at_+1) ps vb nx vl))))):=by
 refine ao (args:=[RM (RJ ⟨M,0,RK⟩),RG RH n]) follows Tryz.func34 E.jh RB λK hK=>?_;have c0:an (vw h) ⟨M,0,RK⟩=RJ vs:=w.raw hk (i:=0) R4;have c1:an (vw h) ⟨M,1,RK⟩=RJ (RG RH at_):=w.raw hk (i:=1) R4;dsimp only[L.jh,lkF,lkG];refine aa λz hz=>?_;simp;subst hz;refine aa λz hz=>?_;simp;subst hz;refine aa λz hz=>?_;have hsl : ∀{Q:View},Un.ev Q .len vs=RJ (RG RH s.length):=fun{Q}=>hs.len;refine ff (λρ h2=>h2=h/\I64 (rawV s at_)/\ρ=[(0,RM (RJ ⟨M,0,RK⟩)),(1,RG RH n),(4,RG RH 0),(5,RG RH (rawV s at_))]) ?_ ?_
 ·intro K2 hK2;by_cases c:at_<s.length
  ·have hs2:=hs.mono w.wle;have hr:=hs.range (i:=at_) c;have e:rawV s at_=nth s at_:=if_pos c;rw[e]at hK2;simp(disch:=omega)[c0,c1,hsl,c,hs2.idx1 rfl,hs2.int RD];exact hK2 _ _ ⟨rfl,hr,rfl⟩
  have e:rawV s at_=0:=if_neg c;rw[e]at hK2;simp[c0,c1,hsl,c];exact hK2 _ _ ⟨rfl,⟨R4,R4⟩,rfl⟩
 rintro _ h2 ⟨rfl,hx,rfl⟩;subst hz;refine aa λz hz=>?_;simp(disch:=omega)[c1];refine w.dB (k:=(0,0)) (n:=5) (i:=1) (e:=T.bu) (B:=M) (l:=mkL vs at_ ps vb nx vl) hk R4 R1 rfl rfl rfl λh3 w3 _=>?_;subst hz;have b1:=Int.lt_tmod_of_pos (rawV s at_) hn;have b2:=Int.tmod_lt_of_pos (rawV s at_) hn;have hw:IntKind.i64.wrap ((rawV s at_).tmod n+n)=(rawV s at_).tmod n+n:=bh R3 R3;have hne:¬n=0:=by omega
 simp[hw,hne];refine hK _ _ ⟨rfl,w3.congr λq=>?_⟩;rfl
theorem Bh{h:Heap}{o:Own}{M at_:Nat}{vs vb vl:Value}{ps nx:Int}(w:Owns W h o)(hk:o (0,0)=bx T.bu M (RawN.mk (n:=5) (mkL vs at_ ps vb nx vl)))(h0:0<=nx)(h1:nx<=1000000000):
  az RP 52 #[RM (RJ ⟨M,0,RK⟩)] h (λu h'=>u = RG RH nx/\Owns W h' (o.upd (0,0) (bx T.bu M (RawN.mk (n:=5) (mkL vs at_ ps vb (nx+1) vl))))/\∀X:View,X.le (vw h)->X M=RK->X.le (vw h')):=by refine ao (args:=[RM (RJ ⟨M,0,RK⟩)]) follows Tryz.func52 E.iD RB λK hK=>?_;have c4:an (vw h) ⟨M,4,RK⟩=RJ (RG RH nx):=w.raw hk (i:=4) R4;dsimp only[L.iD,lkF,lkG];refine aa λz hz=>?_;simp;subst hz;refine aa λz hz=>?_;simp(disch:=omega)[c4];refine w.dB (k:=(0,0)) (n:=5) (i:=4) (e:=T.bu) (B:=M) (l:=mkL vs at_ ps vb nx vl) hk R4 R1 rfl rfl rfl λh3 w3 hx3=>?_;have w3:Owns W h3 (o.upd (0,0) (bx T.bu M (RawN.mk (n:=5) (mkL vs at_ ps vb (nx+1) vl)))):=w3;have c5:an (vw h3) ⟨M,4,RK⟩=RJ (RG RH (nx+1)):=w3.raw Own.aj (i:=4) R4;subst hz;simp(disch:=omega)[c5];exact hK _ _ ⟨by congr 1,w3,hx3⟩
end Go.Proofs.YtnfiilgdjpdlkaaGreatDoor
namespace Go.Lft
open Go
variable {po:OP}
theorem Ll {P:Program} {t ty:TypeId} {us:List (Nat × Value)} {h:Heap} {K:Value->Heap->Prop} {x:Operand} {n:Int} (hx:asg us x = RG RH n) (hk:K (RG RH (IntKind.i64.wrap (-n))) h):step P (.unOp .neg t x) ty us h K:=by refine du (cK λw hw=>⟨RG RH (IntKind.i64.wrap (-n)),w,?_,Same.refl _,by rw[hw];exact hk⟩);simp only[bT,execOp,hx];simp[Op.unary,Op.intArith]
end Go.Lft
namespace Go.Proofs.YtnfiilgdjpdlkaaGreatDoor
open Go Go.Lft
structure MS where
 at_:Nat
 ps:Int
 blocks:List BlkD
 next:Int
 live:List Int
def MS.took (m:MS):MS:={ m with at_:=m.at_+1 }
def MS.aS (m:MS):MS:={ m with next:=m.next+1 }
structure BlkM where
 phis:Raw
 ins:Raw
 term:cB
instance:Rep BlkM:=Rep.via λd=>Cat.mk d.phis (Cat.mk d.ins d.term)
instance:Inhabited BlkM:=⟨⟨default,default,default⟩⟩
theorem BlkM.sQ:Part BlkM Raw 0 BlkM.phis (λd x=>{ d with phis:=x }):=(Part.fst Part.all).via (λ_=>rfl) λ_ _=>rfl
theorem BlkM.jY:Part BlkM Raw 1 BlkM.ins (λd x=>{ d with ins:=x }):=(Part.snd (Part.fst Part.all)).via (λ_=>rfl) λ_ _=>rfl
theorem BlkM.mY:Part BlkM cB 2 BlkM.term (λd x=>{ d with term:=x }):=(Part.snd (Part.snd Part.all)).via (λ_=>rfl) λ_ _=>rfl
theorem CK {H:View} {cs:List Value} {d:BlkM} {p:List PhiD} {i:List InsD} (h:Rep.rd H cs d) (hp:SlRd H d.phis.v p) (hi:SlRd H d.ins.v i):Rep.rd H cs (BlkD.mk p i d.term):=by obtain⟨c1,r1,e1,⟨h1,_⟩,c2,r2,e2,⟨h2,_⟩,h3⟩:=h;have h1:c1=[d.phis.v]:=h1;have h2:c2=[d.ins.v]:=h2;exact⟨c1,r1,e1,⟨d.phis.v,h1,hp⟩,c2,r2,e2,⟨d.ins.v,h2,hi⟩,h3⟩
structure MkB (M:Nat) (vs:Value) (m:MS) (o:Own) (vb vl:Value) (lb:List BlkM):Prop where
 box:o (0,0)=bx T.bu M (RawN.mk (n:=5) (mkL vs m.at_ m.ps vb m.next vl))
 live:o (0,1)=it T.int vl m.live
 blk:o (0,2)=it T.fy vb lb
 len:lb.length=m.blocks.length
 term : ∀i,i<m.blocks.length->(nth lb i).term=(nth m.blocks i).term
 phis : ∀i,i<m.blocks.length->o (1,i)=it T.pC (nth lb i).phis.v (nth m.blocks i).phis
 ins : ∀i,i<m.blocks.length->o (2,i)=it T.dR (nth lb i).ins.v (nth m.blocks i).ins
structure Mk (s:List Int) (M:Nat) (vs:Value) (W:View) (h:Heap) (o:Own) (m:MS):Prop where
 own:Owns W h o
 src:SlRd W vs s
 box : ∃vb vl lb,MkB M vs m o vb vl lb
def Nx (s:List Int) (M:Nat) (vs:Value) (W:View) (h:Heap) (o:Own) (m:MS):Prop:=∃W' o',W.le W'/\Mk s M vs W' h o' m/\∀k:Key,3<=k.1->o' k=o k
variable {s:List Int} {M:Nat} {vs:Value} {W:View} {h:Heap} {o:Own} {m:MS}
theorem Mk.nx (w:Mk s M vs W h o m):Nx s M vs W h o m:=⟨W,o,View.le_refl _,w,λ_ _=>rfl⟩
theorem Nx.trans {W':View} {o':Own} (hW:W.le W') (ho : ∀k:Key,3<=k.1->o' k=o k) (n:Nx s M vs W' h o' m):Nx s M vs W h o m:=by obtain⟨W2,o2,h1,h2,h3⟩:=n;exact⟨W2,o2,RE hW h1,h2,λk hk=>(h3 k hk).trans (ho k hk)⟩
theorem MkB.at {vb vl:Value} {lb:List BlkM} (b:MkB M vs m o vb vl lb) {at_:Nat} {next:Int}:MkB M vs { m with at_:=at_,next:=next } (o.upd (0,0) (bx T.bu M (RawN.mk (n:=5) (mkL vs at_ m.ps vb next vl)))) vb vl lb:=
 ⟨rfl,b.live,b.blk,b.len,b.term,λi hi=>b.phis i hi,λi hi=>b.ins i hi⟩
theorem oF {k:Key} {i:Option Lft.Item} (hk:k.1<3) : ∀q:Key,3<=q.1->o.upd k i q=o q:=λq hq=>Own.aB λe=>by rw[e]at hq;omega
theorem eC {k:Key} {i j:Option Lft.Item} (q:Key):(o.upd k i).upd k j q=o.upd k j q:=by unfold Own.upd;split<;>rfl
theorem Mk.take (w:Mk s M vs W h o m) {n:Int} (h1:m.at_<=1000000000) (hn:0<n) (hn2:n<=1000000000) :
  az RP 34 #[RM (RJ ⟨M,0,RK⟩),RG RH n] h (λu h'=>u = RG RH (aR s m.at_ n)/\∃o',Mk s M vs W h' o' m.took/\∀k:Key,3<=k.1->o' k=o k):=by obtain⟨vb,vl,lb,b⟩:=w.box;refine(JQ w.own b.box w.src h1 hn hn2).mono ?_;rintro u h' ⟨rfl,w2⟩;exact⟨rfl,_,⟨w2,w.src,vb,vl,lb,b.at⟩,oF R4⟩
theorem Mk.fresh (w:Mk s M vs W h o m) (h0:0<=m.next) (h1:m.next<=1000000000) :
  az RP 52 #[RM (RJ ⟨M,0,RK⟩)] h (λu h'=>u = RG RH m.next/\∃o',Mk s M vs W h' o' m.aS/\∀k:Key,3<=k.1->o' k=o k):=by obtain⟨vb,vl,lb,b⟩:=w.box;refine(Bh w.own b.box h0 h1).mono ?_;rintro u h' ⟨rfl,w2,-⟩;exact⟨rfl,_,⟨w2,w.src,vb,vl,lb,b.at⟩,oF R4⟩
theorem nV {x:Int}:-2147483648<=IntKind.i32.wrap x/\IntKind.i32.wrap x<=2147483647:=by rw[IntKind.wrap_i32];omega
def lL (s:List Int) (m:MS):Int:=
 if aR s (m.at_+1) 8=0 then IntKind.i32.wrap (IntKind.i64.wrap (aR s m.at_ 1048576*4099))
 else if aR s (m.at_+1) 8=1 then IntKind.i32.wrap (IntKind.i64.wrap (-aR s m.at_ 1048576))
 else if aR s (m.at_+1) 8=2 then -2147483648
 else if aR s (m.at_+1) 8=3 then IntKind.i32.wrap ((aR s m.at_ 1048576).tmod 70000)
 else IntKind.i32.wrap (IntKind.i64.wrap ((aR s m.at_ 1048576).tmod 20-4))
theorem rC:-2147483648<=lL s m/\lL s m<=2147483647:=by
 unfold lL;repeat' split
 all_goals first | exact nV | decide
theorem Mk.word (w:Mk s M vs W h o m) (h1:m.at_<=999999990) :
  az RP 59 #[RM (RJ ⟨M,0,RK⟩)] h (λu h'=>u = RG RI (lL s m)/\∃o',Mk s M vs W h' o' m.took.took/\∀k:Key,3<=k.1->o' k=o k):=by
 refine ao (args:=[RM (RJ ⟨M,0,RK⟩)]) follows Tryz.func59 E.jn RB λK hK=>?_;dsimp only[L.jn,lkF,lkG];refine aa λz hz=>?_;simp;subst hz;refine aa λz hz=>?_;simp;refine ah R1 (w.take R3 (n:=1048576) R4 R4) ?_;rintro _ h2 ⟨rfl,o2,w2,f2⟩;subst hz;refine aa λz hz=>?_;simp;refine ah R1 (w2.take (show m.at_+1<=_ by omega) (n:=8) R4 R4) ?_;rintro _ h3 ⟨rfl,o3,w3,f3⟩;have hx:m.took.at_=m.at_+1:=rfl;rw[hx];have hf : ∀k:Key,3<=k.1->o3 k=o k:=λk hk=>(f3 k hk).trans (f2 k hk);have hwd:lL s m=_:=lL.eq_1 s m;generalize lL s m=r at hwd hK;generalize aR s (m.at_+1) 8=q at hwd;generalize aR s m.at_ 1048576=x at hwd;by_cases c0:q=0
 ·rw[if_pos c0]at hwd;simp[c0];exact hK _ _ ⟨by rw[hwd],_,w3,hf⟩
 rw[if_neg c0]at hwd;by_cases c1:q=1
 ·rw[if_pos c1]at hwd;simp[c1];refine Ll rfl ?_;simp;exact hK _ _ ⟨by rw[hwd],_,w3,hf⟩
 rw[if_neg c1]at hwd;by_cases c2:q=2
 ·rw[if_pos c2]at hwd;simp[c2];exact hK _ _ ⟨by rw[hwd],_,w3,hf⟩
 rw[if_neg c2]at hwd;by_cases c3:q=3
 ·rw[if_pos c3]at hwd;simp[c3];exact hK _ _ ⟨by rw[hwd],_,w3,hf⟩
 rw[if_neg c3]at hwd;simp[c0,c1,c2,c3];subst hz;simp;exact hK _ _ ⟨by rw[hwd],_,w3,hf⟩
end Go.Proofs.YtnfiilgdjpdlkaaGreatDoor
namespace Go.Proofs.YtnfiilgdjpdlkaaGreatDoor
open Go Go.Lft
def MS.add (m:MS) (b:Nat) (i:InsD):MS:={ m with blocks:=m.blocks.set b { nth m.blocks b with ins:=(nth m.blocks b).ins++[i] },live:=m.live++cT i }
def conD (v:Int) (n:Int):InsD:=⟨1,v,0,[],⟨n⟩⟩
def MS.constant (m:MS) (b:Nat) (n:Int):MS:=m.aS.add b (conD m.next n)
def y8 (s:List Int) (m:MS):Int:=nth m.live (if aR s (m.at_+1) 3=0 then m.live.length-1 else(aR s m.at_ m.live.length).toNat)
def Eu (s:List Int) (m:MS) (b:Nat):MS:=(m.took.took).constant b (lL s m)
def aT (s:List Int) (m:MS) (b:Nat):Int × MS:=
 if m.live.length=0 then(m.next,Eu s m b)
 else if aR s (m.at_+2) 9=0 then(m.next,Eu s m.took.took.took b)
 else(y8 s m,m.took.took.took)
def MS.two (m:MS) (b:Nat) (op x y:Int):MS:=m.aS.add b ⟨op,m.next,0,[x,y],⟨0⟩⟩
def binS (s:List Int) (m:MS) (b:Nat) (op:Int):MS:=
 let r1:=aT s m b
 let r2:=aT s r1.2 b
 if aR s r2.2.at_ 3=0 then
  (r2.2.took.took.constant b (IntKind.i32.wrap (IntKind.i64.wrap (aR s (r2.2.at_+1) 40-8)))).two b op r1.1 r2.2.next
 else r2.2.took.two b op r1.1 r2.1
def ltuS (s:List Int) (m:MS) (b:Nat):MS:=
 let r1:=aT s m b
 let r2:=aT s r1.2 b
 r2.2.two b 13 r1.1 r2.1
def divS (s:List Int) (m:MS) (b:Nat):MS:=
 let r1:=aT s m b
 let m2:=r1.2.took.constant b (IntKind.i32.wrap (aR s r1.2.at_ 12))
 if 0<aR s m2.at_ 3 then
  (m2.took.took.constant b (IntKind.i32.wrap (1+IntKind.i32.wrap (aR s (m2.at_+1) 12)))).two b 14 r1.1 m2.next
 else m2.took.two b 14 r1.1 r1.2.next
def zJ (s:List Int) (m:MS) (b:Nat):MS:=
 let r1:=aT s m b
 let r2:=aT s r1.2 b
 r2.2.aS.aS.add b ⟨18,r2.2.next,r2.2.next+1,[r1.1,r2.1],⟨0⟩⟩
def iU (s:List Int) (b:Nat):Nat->List Int × MS->List Int × MS:=λ_ x=>(x.1++[(aT s x.2 b).1],(aT s x.2 b).2)
def pQ (s:List Int) (m:MS) (b:Nat):MS:=
 let r:=up (iU s b) (aR s m.at_ 5).toNat ([],m.took)
 r.2.aS.took.add b ⟨17,r.2.next,0,r.1,⟨IntKind.i32.wrap (aR s r.2.at_ 5)⟩⟩
def pK (s:List Int) (m:MS) (b:Nat):Int × MS:=
 let m1:=m.took.constant b (IntKind.i32.wrap (aR s m.at_ 9))
 if aR s m1.at_ 3=0 then
  let r:=aT s m1.took b
  let m3:=(r.2.constant b 7).two b 5 r.1 r.2.next
  (m3.next,m3.two b 2 m.next (r.2.next+1))
 else(m.next,m1.took)
def offS (s:List Int) (m:MS):Int × MS:=
 if aR s (m.at_+1) 12=0 then(lL s m.took.took,m.took.took.took.took) else(IntKind.i32.wrap (aR s m.at_ 4),m.took.took)
def jL (s:List Int) (m:MS) (b:Nat) (store:Bool):MS:=
 let a:=pK s m b
 let i:=offS s a.2
 if store then(aT s i.2 b).2.add b ⟨16,0,0,[a.1,(aT s i.2 b).1],⟨i.1⟩⟩
 else i.2.aS.add b ⟨15,i.2.next,0,[a.1],⟨i.1⟩⟩
def opsL:List Int:=[2,2,3,4,5,6,7,8,9,10,12,11]
def aY (s:List Int) (b:Nat) (m:MS):MS:=
 let k:=aR s m.at_ 20
 if k<12 then binS s m.took b (nth opsL k.toNat)
 else if k=12 then ltuS s m.took b
 else if k=13 then divS s m.took b
 else if k<16 then jL s m.took b (decide (k=15))
 else if k=16 then pQ s m.took b
 else if k=17 then zJ s m.took b
 else m.took.took.took.constant b (lL s m.took)
end Go.Proofs.YtnfiilgdjpdlkaaGreatDoor
