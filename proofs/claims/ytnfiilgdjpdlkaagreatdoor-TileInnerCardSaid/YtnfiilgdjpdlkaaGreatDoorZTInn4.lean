/- A part of the proof: Ok, Ol, Rb, Ta, Rc, Rd, Rf, Rg, Rh, Tb, Tc, Td, Th, Ma, Mb, Mc, Md, Me, Mf, Mg, Mh, Mi. -/
import Derived.Test.YtnfiilgdjpdlkaaGreatDoorZTInn3
set_option linter.unusedSimpArgs false
set_option linter.unusedVariables false
open Go.Value renaming int->Pv,slice->PA,pointer->PB
open Go.IntKind renaming i64->Pw,i32->Px
open Option renaming some->Py,none->Pz
open Bool renaming true->PC,false->PD
open Go.Proofs.Tryz renaming prog->PE
namespace Go.Lft
open Go
variable {po po2:OP}
theorem Cx.dh {V W:View} {h0 h:Heap} {o:Own} {k:Key} {P:Program} {ty:TypeId} {us:List (Nat × Value)} {n i:Nat} {e t:TypeId} {B:Nat} {l:List Value} {x y:Operand} {u:Value} {K:Value->Heap->Prop} (c:Cx V h0 W h o) (hk:o k=bx e B (RawN.mk (n:=n) l)) (hi:i<=n) (hsz:cQ P t=Py 1) (hx:asg us x = PB (Py ⟨B,i,Pz⟩)) (hy:asg us y=u) (hu:u.oneCell'=PC)
  (hK : ∀h',Cx V h0 W h' (o.upd k (bx e B (RawN.mk (n:=n) (l.set i u))))->K undef h'):@step po P (.store t x y) ty us h K:=
 c.own.dh hk hi hsz hx hy hu λh2 w hX=>hK _ ⟨w,c.old,hX _ c.le0 (View.cz Ps (c.new k _ B hk rfl)),λj i b hj hb=>by
  by_cases e:j=k
  ·subst e;rw[Own.ao]at hj;cases hj;exact c.new _ _ b hk hb
  rw[Own.aB e]at hj;exact c.new j i b hj hb⟩
end Go.Lft
namespace Go.Proofs.YtnfiilgdjpdlkaaGreatDoor
open Go Go.Lft
structure ud (t:cM):Prop where
 one:t.kind=2\/t.kind=3->1<=t.args.length
 most:t.args.length<=10000
 to:t.to.length<=10000
theorem zd {H:View} {x0 x1 x2 va x4:Value} {i:InsD} (h:Rd H (.agg #[x0,x1,x2,va,x4]) i):SlRd H va i.args:=by unfold Rd at h;rw[if_pos (show Rep.agg InsD=PC from rfl)]at h;obtain⟨cs,e0,c1,_,e,h1,c2,_,rfl,h2,c3,_,rfl,h3,c4,c5,rfl,h4,h5⟩:=h;cases e0;rw[h1.1,h2.1,h3.1,h5.1]at e;obtain⟨v,rfl⟩:=rU h4;simp at e;obtain⟨-,-,-,rfl,-⟩:=e;exact nA.1 h4
set_option maxHeartbeats 4000000 in
theorem Jp {s:bR} {v:Value} {pat:Int} {h:Heap} {W:View} (hW:W.le (vw h)) (hv:Rd W v s) (hok:kI s) (htk:ud s.t) (hp:I64 pat) :
    az PE 63 #[v,Pv Pw pat] h (λu h'=>bM W h h' u (gI s.f s.t pat)):=by
  refine au (args:=[v,Pv Pw pat]) follows Tryz.func63 E.eo Pp λK hK=>?_
  dsimp only[L.eo,lkF,lkG]
  have c0:=Cx.start hW
  refine ab λz hz=>?_
  simp
  refine c0.dm rfl hv λS h1 W1 hW1 c1 at1 hle1=>?_
  refine c1.cA (k:=(0,0)) (n:=7) (z:=.agg fitZ.toArray) rfl P1 rfl P4 P8 λR h2 hle2 c2=>?_
  subst hz
  refine ab λz hz=>?_
  obtain⟨ut,hut,rut⟩:=(at1.part bR.Lc).ldN rfl (N:=4) rfl
  have hut:Un.ev (vw h2) (.bU 4) (PB (Py ⟨S,7,Pz⟩))=Py ut:=by simpa using hut _ c2.wle
  simp[hut]
  refine c2.dA (α:=cM) rut (n:=4) (z:=.agg #[Pv Pw 0,PA Pz 0 0,PA Pz 0 0,Pv Px 0]) P1 rfl rfl P1 P5 P5 λTb h3 W3 hW3 c3 at3 hle3=>?_
  have t0:=(at3.part cM.Be).int
  obtain⟨va,t1,hva⟩:=(at3.part cM.dI).sl
  obtain⟨vt,t2,hvt⟩:=(at3.part cM.DH).sl
  have t3:=(at3.part cM.jk).i32
  have ri:=(at3.part cM.jk).oL
  have t0:ak W3 ⟨Tb,0,Pz⟩=Py (Pv Pw s.t.kind):=by simpa using t0
  have t1:ak W3 ⟨Tb,1,Pz⟩=Py va:=by simpa using t1
  have t2:ak W3 ⟨Tb,2,Pz⟩=Py vt:=by simpa using t2
  have t3:ak W3 ⟨Tb,3,Pz⟩=Py (Pv Px s.t.imm.v):=by simpa using t3
  have most:=htk.most
  have mosto:=htk.to
  subst hz
  refine ab λz hz=>?_
  simp[ae c3.wle t2]
  refine af P1 (dK c3.wle hvt P2) ?_
  rintro uto h4 ⟨hle4,hto⟩
  have c4:=c3.ext hle4
  have hW4:=c3.up (h':=h4)
  have hto0:=hto
  obtain⟨b0,k0,rfl,-⟩:=hto0
  generalize grow W3 h3 h4=W4 at *
  have s0:=ae hW4 t0
  have s1:=ae hW4 t1
  have s3:=ae hW4 t3
  have hva4:=hva.mono hW4
  have z0:=ae c4.wle s0
  have z1:=ae c4.wle s1
  have z3:=ae c4.wle s3
  clear t0 t1 t2 t3 hut hle1 hle2 hle3 hle4
  subst hz
  refine ab λz hz=>?_
  simp only[aL]
  refine ab λy hy=>?_
  by_cases p1:pat=0/\s.t.kind=1
  · have he:gI s.f s.t pat=Py ⟨[],[],[],⟨1,0,0,s.t.to,⟨0⟩⟩⟩:=by unfold gI;rw[if_pos p1]
    simp[p1.1,z0,p1.2]
    subst hy
    simp
    refine ay (t:=T.fl) (z:=.agg #[Pv Pw 0,Pv Pw 0,Pv Pw 0,PA Pz 0 0,Pv Px 0]) (places:=[(0,1),(1,1),(2,1),(3,1),(4,1)]) (vs:=[(0,Pv Pw 1),(3,.slice b0 s.t.to.length k0)]) (cs:=#[Pv Pw 1,Pv Pw 0,Pv Pw 0,.slice b0 s.t.to.length k0,Pv Px 0]) P1 P1 Sa (by simp[Instr.fill,Value.cells]) ?_
    refine ay (t:=T.aS) (z:=.agg fitZ.toArray) (places:=[(0,1),(1,1),(2,1),(3,5)]) (vs:=[(3,.agg #[Pv Pw 1,Pv Pw 0,Pv Pw 0,.slice b0 s.t.to.length k0,Pv Px 0])]) (cs:=#[PA Pz 0 0,PA Pz 0 0,PA Pz 0 0,Pv Pw 1,Pv Pw 0,Pv Pw 0,.slice b0 s.t.to.length k0,Pv Px 0]) P1 P1 Sa (by simp[Instr.fill,Value.cells]) ?_
    have hr:Rd W4 (.agg #[PA Pz 0 0,PA Pz 0 0,PA Pz 0 0,Pv Pw 1,Pv Pw 0,Pv Pw 0,.slice b0 s.t.to.length k0,Pv Px 0]) (⟨[],[],[],⟨1,0,0,s.t.to,⟨0⟩⟩⟩:FitD):=lM (ce:=[_,_,_,_,_]) aN aN aN (kC (imm:=⟨0⟩) Sa Sa hto)
    refine c4.bs (k:=(0,0)) (n:=7) (l:=fitZ) Ri hr rfl rfl P1 rfl rfl λh9 l9 hl9 c9=>?_
    have hall:=c9.all (k:=(0,0)) (n:=7) (l:=l9) (B:=R) (e:=T.aS) Ri
    simp at hall
    simp[hall]
    exact hK _ _ (bM.of c9 (hl9▸hr) (by rw[he];rfl) λy e=>by rw[he]at e;cases e;rfl)
  refine gy (λρ h5=>h5=h4/\ρ=[(0,v),(1,Pv Pw pat),(2,ptr S),(4,ptr R),(5,.bool PD),(6,ptr Tb),(7,.slice b0 s.t.to.length k0),(13,ut),(16,.slice b0 s.t.to.length k0),(17,.bool PD)]) ?_ ?_
  · intro K2 hK2
    by_cases e0:pat=0
    · have e2:¬s.t.kind=1:=λe=>p1 ⟨e0,e⟩
      simp[e0,z0,e2]
      exact hK2 _ _ ⟨rfl,by rw[e0]⟩
    · simp[e0,z0]
      exact hK2 _ _ ⟨rfl,rfl⟩
  rintro _ h4 ⟨rfl,rfl⟩
  subst hy
  refine aV Sa ?_
  refine ab λy hy=>?_
  by_cases p2:pat=0/\s.t.kind=4
  · have he:gI s.f s.t pat=Py ⟨s.t.args,[],[],⟨7,if s.t.args=[] then -1 else nth s.t.args 0,0,[],⟨0⟩⟩⟩:=by unfold gI;rw[if_neg p1,if_pos p2]
    simp[p2.1,z0,p2.2]
    subst hy
    refine aW Sa ?_
    refine ab λy hy=>?_
    simp
    refine ay (t:=T.fl) (z:=.agg #[Pv Pw 0,Pv Pw 0,Pv Pw 0,PA Pz 0 0,Pv Px 0]) (places:=[(0,1),(1,1),(2,1),(3,1),(4,1)]) (vs:=[(0,Pv Pw 7),(1,Pv Pw (-1))]) (cs:=#[Pv Pw 7,Pv Pw (-1),Pv Pw 0,PA Pz 0 0,Pv Px 0]) P1 P1 Sa (by simp[Instr.fill,Value.cells]) ?_
    refine c4.cA (k:=(0,1)) (n:=4) (z:=.agg #[Pv Pw 0,Pv Pw 0,Pv Pw 0,PA Pz 0 0,Pv Px 0]) Ri P1 rfl P4 P8 λEb h5 hle5 c5=>?_
    refine c5.qt (k:=(0,1)) (n:=4) (l:=[Pv Pw 0,Pv Pw 0,Pv Pw 0,PA Pz 0 0,Pv Px 0]) (l':=[Pv Pw 7,Pv Pw (-1),Pv Pw 0,PA Pz 0 0,Pv Px 0]) Ri P1 rfl rfl rfl P7 λh6 c6=>?_
    subst hy
    have y1:=ae c6.wle s1
    have hlen:=hva4.len (K:=vw h6)
    generalize hae:(if s.t.args=[] then(-1:Int) else nth s.t.args 0)=a at *
    refine ab λy hy=>?_
    refine gy (λρ h7=>∃o6,Cx W h W4 h7 o6/\o6 (0,0)=bx T.aS R (RawN.mk (n:=7) fitZ)/\o6 (0,1)=bx T.fl Eb (RawN.mk (n:=4) [Pv Pw 7,Pv Pw a,Pv Pw 0,PA Pz 0 0,Pv Px 0])/\(-9223372036854775808<=a/\a<=9223372036854775807)/\
      ρ=[(0,v),(1,Pv Pw 0),(2,ptr S),(4,ptr R),(5,.bool PD),(6,ptr Tb),(7,.slice b0 s.t.to.length k0),(8,ptr Eb),(13,ut),(16,.slice b0 s.t.to.length k0),(36,.agg #[Pv Pw 7,Pv Pw (-1),Pv Pw 0,PA Pz 0 0,Pv Px 0])]) ?_ ?_
    · intro K2 hK2
      by_cases ea:s.t.args=[]
      · have el:(s.t.args.length:Int)=0:=by rw[ea];rfl
        rw[if_pos ea]at hae
        subst hae
        simp[y1,hlen,ea]
        exact hK2 _ _ ⟨_,c6,by rfl,by rfl,by decide,rfl⟩
      · have el:=List.length_pos_iff.2 ea
        rw[if_neg ea]at hae
        have a0:=hva4.rng (i:=0) el
        have x0:=hva4.idx1 (k:=.i64) (i:=0) rfl P4 P2
        have d0:=hva4.int c6.wle (i:=0) el
        simp[y1,hlen,el,x0,d0]
        refine c6.dh (k:=(0,1)) (n:=4) (i:=1) (l:=[Pv Pw 7,Pv Pw (-1),Pv Pw 0,PA Pz 0 0,Pv Px 0]) Ri P4 P1 rfl rfl rfl λh7 c7=>?_
        exact hK2 _ _ ⟨_,c7,by rfl,by rw[<-hae];rfl,by rw[<-hae];exact a0,rfl⟩
    · rintro _ h7 ⟨o6,c7,k00,k01,ar,rfl⟩
      subst hy
      refine ab λy hy=>?_
      refine aT (vw h7) Ps ?_
      have hall7:=c7.all k01
      simp at hall7
      simp[ae c7.wle s1,hall7]
      refine af P1 (dK c7.wle hva4 P2) ?_
      rintro ucl h8 ⟨hle8,hcl⟩
      refine⟨hle8,?_⟩
      have c8:=c7.ext hle8
      have hW8:=c7.up (h':=h8)
      have hcl0:=hcl
      obtain⟨b1,k1,rfl,-⟩:=hcl0
      refine ay (t:=T.aS) (z:=.agg fitZ.toArray) (places:=[(0,1),(1,1),(2,1),(3,5)]) (vs:=[(0,.slice b1 s.t.args.length k1),(3,.agg #[Pv Pw 7,Pv Pw a,Pv Pw 0,PA Pz 0 0,Pv Px 0])]) (cs:=#[.slice b1 s.t.args.length k1,PA Pz 0 0,PA Pz 0 0,Pv Pw 7,Pv Pw a,Pv Pw 0,PA Pz 0 0,Pv Px 0]) P1 P1 Sa (by simp[Instr.fill,Value.cells]) ?_
      have hr:Rd (grow W4 h7 h8) (.agg #[.slice b1 s.t.args.length k1,PA Pz 0 0,PA Pz 0 0,Pv Pw 7,Pv Pw a,Pv Pw 0,PA Pz 0 0,Pv Px 0]) (⟨s.t.args,[],[],⟨7,a,0,[],⟨0⟩⟩⟩:FitD):=lM (ce:=[_,_,_,_,_]) hcl aN aN (kC (imm:=⟨0⟩) P9 Sa aN)
      refine c8.bs (k:=(0,0)) (n:=7) (l:=fitZ) k00 hr rfl rfl P1 rfl rfl λh9 l9 hl9 c9=>?_
      subst hy
      have hall:=c9.all (k:=(0,0)) (n:=7) (l:=l9) (B:=R) (e:=T.aS) Own.ao
      simp at hall
      simp[hall]
      exact hK _ _ (bM.of c9 (hl9▸hr) (by rw[he];rfl) λy e=>by rw[he]at e;cases e;rfl)
  refine gy (λρ h5=>h5=h4/\ρ=[(0,v),(1,Pv Pw pat),(2,ptr S),(4,ptr R),(5,.bool PD),(6,ptr Tb),(7,.slice b0 s.t.to.length k0),(13,ut),(16,.slice b0 s.t.to.length k0),(28,.bool PD)]) ?_ ?_
  · intro K2 hK2
    by_cases e0:pat=0
    · have e2:¬s.t.kind=4:=λe=>p2 ⟨e0,e⟩
      simp[e0,z0,e2]
      exact hK2 _ _ ⟨rfl,by rw[e0]⟩
    · simp[e0,z0]
      exact hK2 _ _ ⟨rfl,rfl⟩
  rintro _ h4 ⟨rfl,rfl⟩
  subst hy
  refine aV Sa ?_
  refine ab λy hy=>?_
  by_cases p3:pat=0/\s.t.kind=5
  · have he:gI s.f s.t pat=Py ⟨[],[],[],⟨8,0,0,[],s.t.imm⟩⟩:=by unfold gI;rw[if_neg p1,if_neg p2,if_pos p3]
    simp[p3.1,z0,p3.2]
    subst hy
    simp[z3]
    refine ay (t:=T.fl) (z:=.agg #[Pv Pw 0,Pv Pw 0,Pv Pw 0,PA Pz 0 0,Pv Px 0]) (places:=[(0,1),(1,1),(2,1),(3,1),(4,1)]) (vs:=[(0,Pv Pw 8),(4,Pv Px s.t.imm.v)]) (cs:=#[Pv Pw 8,Pv Pw 0,Pv Pw 0,PA Pz 0 0,Pv Px s.t.imm.v]) P1 P1 Sa (by simp[Instr.fill,Value.cells]) ?_
    refine ay (t:=T.aS) (z:=.agg fitZ.toArray) (places:=[(0,1),(1,1),(2,1),(3,5)]) (vs:=[(3,.agg #[Pv Pw 8,Pv Pw 0,Pv Pw 0,PA Pz 0 0,Pv Px s.t.imm.v])]) (cs:=#[PA Pz 0 0,PA Pz 0 0,PA Pz 0 0,Pv Pw 8,Pv Pw 0,Pv Pw 0,PA Pz 0 0,Pv Px s.t.imm.v]) P1 P1 Sa (by simp[Instr.fill,Value.cells]) ?_
    have hr:Rd W4 (.agg #[PA Pz 0 0,PA Pz 0 0,PA Pz 0 0,Pv Pw 8,Pv Pw 0,Pv Pw 0,PA Pz 0 0,Pv Px s.t.imm.v]) (⟨[],[],[],⟨8,0,0,[],s.t.imm⟩⟩:FitD):=lM (ce:=[_,_,_,_,_]) aN aN aN (kC Sa ri aN)
    refine c4.bs (k:=(0,0)) (n:=7) (l:=fitZ) Ri hr rfl rfl P1 rfl rfl λh9 l9 hl9 c9=>?_
    have hall:=c9.all (k:=(0,0)) (n:=7) (l:=l9) (B:=R) (e:=T.aS) Ri
    simp at hall
    simp[hall]
    exact hK _ _ (bM.of c9 (hl9▸hr) (by rw[he];rfl) λy e=>by rw[he]at e;cases e;rfl)
  refine gy (λρ h5=>h5=h4/\ρ=[(0,v),(1,Pv Pw pat),(2,ptr S),(4,ptr R),(5,.bool PD),(6,ptr Tb),(7,.slice b0 s.t.to.length k0),(13,ut),(16,.slice b0 s.t.to.length k0),(51,.bool PD)]) ?_ ?_
  · intro K2 hK2
    by_cases e0:pat=0
    · have e2:¬s.t.kind=5:=λe=>p3 ⟨e0,e⟩
      simp[e0,z0,e2]
      exact hK2 _ _ ⟨rfl,by rw[e0]⟩
    · simp[e0,z0]
      exact hK2 _ _ ⟨rfl,rfl⟩
  rintro _ h4 ⟨rfl,rfl⟩
  subst hy
  refine aV Sa ?_
  refine ab λy hy=>?_
  by_cases p4:pat=33/\s.t.kind=2
  · have he:gI s.f s.t pat=Py ⟨s.t.args,[],[],⟨2,nth s.t.args 0,0,s.t.to,⟨0⟩⟩⟩:=by unfold gI;rw[if_neg p1,if_neg p2,if_neg p3,if_pos p4]
    have al:=htk.one P2
    have a0:=hva4.rng (i:=0) al
    have x0:=hva4.idx1 (k:=.i64) (i:=0) rfl P4 P2
    have d0:=hva4.int (View.le_refl W4) (i:=0) al
    simp[p4.1,z0,p4.2]
    subst hy
    refine aW Sa ?_
    refine ab λy hy=>?_
    refine aT W4 c4.wle ?_
    simp[s1,x0,d0]
    refine⟨?_,?_⟩
    · refine af P1 (dK c4.wle hva4 P2) ?_
      rintro ucl h5 ⟨hle5,hcl⟩
      have c5:=c4.ext hle5
      have hW5:=c4.up (h':=h5)
      refine⟨Pt hW5 c5.wle,?_⟩
      have hcl0:=hcl
      obtain⟨b1,k1,rfl,-⟩:=hcl0
      generalize grow W4 h4 h5=W5 at *
      refine ay (t:=T.fl) (z:=.agg #[Pv Pw 0,Pv Pw 0,Pv Pw 0,PA Pz 0 0,Pv Px 0]) (places:=[(0,1),(1,1),(2,1),(3,1),(4,1)]) (vs:=[(0,Pv Pw 2),(1,Pv Pw (nth s.t.args 0)),(3,.slice b0 s.t.to.length k0)]) (cs:=#[Pv Pw 2,Pv Pw (nth s.t.args 0),Pv Pw 0,.slice b0 s.t.to.length k0,Pv Px 0]) P1 P1 Sa (by simp[Instr.fill,Value.cells]) ?_
      refine⟨Pt hW5 c5.wle,?_⟩
      refine ay (t:=T.aS) (z:=.agg fitZ.toArray) (places:=[(0,1),(1,1),(2,1),(3,5)]) (vs:=[(0,.slice b1 s.t.args.length k1),(3,.agg #[Pv Pw 2,Pv Pw (nth s.t.args 0),Pv Pw 0,.slice b0 s.t.to.length k0,Pv Px 0])]) (cs:=#[.slice b1 s.t.args.length k1,PA Pz 0 0,PA Pz 0 0,Pv Pw 2,Pv Pw (nth s.t.args 0),Pv Pw 0,.slice b0 s.t.to.length k0,Pv Px 0]) P1 P1 Sa (by simp[Instr.fill,Value.cells]) ?_
      have hr:Rd W5 (.agg #[.slice b1 s.t.args.length k1,PA Pz 0 0,PA Pz 0 0,Pv Pw 2,Pv Pw (nth s.t.args 0),Pv Pw 0,.slice b0 s.t.to.length k0,Pv Px 0]) (⟨s.t.args,[],[],⟨2,nth s.t.args 0,0,s.t.to,⟨0⟩⟩⟩:FitD):=lM (ce:=[_,_,_,_,_]) hcl aN aN (kC (imm:=⟨0⟩) P9 Sa (hto.mono hW5))
      refine c5.bs (k:=(0,0)) (n:=7) (l:=fitZ) Ri hr rfl rfl P1 rfl rfl λh9 l9 hl9 c9=>?_
      subst hy
      have hall:=c9.all (k:=(0,0)) (n:=7) (l:=l9) (B:=R) (e:=T.aS) Ri
      simp at hall
      simp[hall]
      exact hK _ _ (bM.of c9 (hl9▸hr) (by rw[he];rfl) λy e=>by rw[he]at e;cases e;rfl)
    · refine ay (t:=T.fl) (z:=.agg #[Pv Pw 0,Pv Pw 0,Pv Pw 0,PA Pz 0 0,Pv Px 0]) (places:=[(0,1),(1,1),(2,1),(3,1),(4,1)]) (vs:=[(0,Pv Pw 2),(1,Pv Pw (nth s.t.args 0)),(3,.slice b0 s.t.to.length k0)]) (cs:=#[Pv Pw 2,Pv Pw (nth s.t.args 0),Pv Pw 0,.slice b0 s.t.to.length k0,Pv Px 0]) P1 P1 Sa (by simp[Instr.fill,Value.cells]) ?_
      refine⟨c4.wle,?_⟩
      refine af P1 (dK c4.wle hva4 P2) ?_
      rintro ucl h5 ⟨hle5,hcl⟩
      have c5:=c4.ext hle5
      have hW5:=c4.up (h':=h5)
      refine⟨Pt hW5 c5.wle,?_⟩
      have hcl0:=hcl
      obtain⟨b1,k1,rfl,-⟩:=hcl0
      generalize grow W4 h4 h5=W5 at *
      refine ay (t:=T.aS) (z:=.agg fitZ.toArray) (places:=[(0,1),(1,1),(2,1),(3,5)]) (vs:=[(0,.slice b1 s.t.args.length k1),(3,.agg #[Pv Pw 2,Pv Pw (nth s.t.args 0),Pv Pw 0,.slice b0 s.t.to.length k0,Pv Px 0])]) (cs:=#[.slice b1 s.t.args.length k1,PA Pz 0 0,PA Pz 0 0,Pv Pw 2,Pv Pw (nth s.t.args 0),Pv Pw 0,.slice b0 s.t.to.length k0,Pv Px 0]) P1 P1 Sa (by simp[Instr.fill,Value.cells]) ?_
      have hr:Rd W5 (.agg #[.slice b1 s.t.args.length k1,PA Pz 0 0,PA Pz 0 0,Pv Pw 2,Pv Pw (nth s.t.args 0),Pv Pw 0,.slice b0 s.t.to.length k0,Pv Px 0]) (⟨s.t.args,[],[],⟨2,nth s.t.args 0,0,s.t.to,⟨0⟩⟩⟩:FitD):=lM (ce:=[_,_,_,_,_]) hcl aN aN (kC (imm:=⟨0⟩) P9 Sa (hto.mono hW5))
      refine c5.bs (k:=(0,0)) (n:=7) (l:=fitZ) Ri hr rfl rfl P1 rfl rfl λh9 l9 hl9 c9=>?_
      subst hy
      have hall:=c9.all (k:=(0,0)) (n:=7) (l:=l9) (B:=R) (e:=T.aS) Ri
      simp at hall
      simp[hall]
      exact hK _ _ (bM.of c9 (hl9▸hr) (by rw[he];rfl) λy e=>by rw[he]at e;cases e;rfl)
  refine gy (λρ h5=>h5=h4/\ρ=[(0,v),(1,Pv Pw pat),(2,ptr S),(4,ptr R),(5,.bool PD),(6,ptr Tb),(7,.slice b0 s.t.to.length k0),(13,ut),(16,.slice b0 s.t.to.length k0),(63,.bool PD)]) ?_ ?_
  · intro K2 hK2
    by_cases e0:pat=33
    · have e2:¬s.t.kind=2:=λe=>p4 ⟨e0,e⟩
      simp[e0,z0,e2]
      exact hK2 _ _ ⟨rfl,by rw[e0]⟩
    · simp[e0,z0]
      exact hK2 _ _ ⟨rfl,rfl⟩
  rintro _ h4 ⟨rfl,rfl⟩
  subst hy
  refine aV Sa ?_
  refine ab λy hy=>?_
  by_cases p5:(34<=pat/\pat<=36)/\s.t.kind=2
  · have w5:inR pat 34 36=true:=by simp[inR,p5.1.1,p5.1.2]
    have al:=htk.one P2
    have a0:=hva4.rng (i:=0) al
    have x0:=hva4.idx1 (k:=.i64) (i:=0) rfl P4 P2
    simp
    refine af P1 iO ?_
    rintro _ h4 ⟨rfl,rfl⟩
    simp[w5,z0,p5.2]
    subst hy
    refine aW Sa ?_
    refine ab λy hy=>?_
    simp
    subst hy
    refine ab λy hy=>?_
    refine aT (vw h4) Ps ?_
    obtain⟨us,hus,rus⟩:=at1.ldN rfl (N:=13) rfl
    have hus:=hus _ (Pt hW3 (Pt hW4 c4.wle))
    have rus:=rus.mono (Pt hW3 hW4)
    have d0:=hva4.int c4.wle (i:=0) al
    have ek:(11:Int)+(pat-34)=pat-23:=by omega
    have ew0:IntKind.i64.wrap (pat-34)=pat-34:=bH P2 P2
    have ew:IntKind.i64.wrap (11+(pat-34))=pat-23:=by rw[bH P2 P2];omega
    have ew2:IntKind.i64.wrap (3+(pat-34))=pat-31:=by rw[bH P2 P2];omega
    have hE:gI s.f s.t pat=if(aF s.f (nth s.t.args 0) (pat-23)).2 then Py ⟨(aF s.f (nth s.t.args 0) (pat-23)).1.args,s.t.args,[],⟨pat-31,nth (aF s.f (nth s.t.args 0) (pat-23)).1.args 0,nth (aF s.f (nth s.t.args 0) (pat-23)).1.args 1,s.t.to,⟨0⟩⟩⟩ else none:=by
      unfold gI;rw[if_neg p1,if_neg p2,if_neg p3,if_neg p4,if_pos p5]
    have hfm:=dV (f:=s.f) (v:=nth s.t.args 0) (op:=pat-23)
    have hfo:=mP (s:=s) (v:=us) (x:=nth s.t.args 0) (op:=pat-23) (W:=W4) (h:=h4)
    have rng : ∀{hx:Heap} {Wx:View},Cx W h Wx hx (Own.upd (λ_=>Pz) (0,0) (bx T.aS R (RawN.mk (n:=7) fitZ)))->True:=λ_=>trivial
    generalize hm:(aF s.f (nth s.t.args 0) (pat-23)).1=m at *
    generalize hbb:(aF s.f (nth s.t.args 0) (pat-23)).2=b at *
    have c:=c4
    have hrefl:(vw h4).le (vw h4):=View.le_refl _
    repeat' (first
      | refine gL ?_ ?_
      | (refine bD λx hx=>?_
         simp[s1,z1,x0,d0,hus,ew0,ew]
         first
         | refine c.cA (k:=(0,2)) (n:=4) (z:=.agg #[Pv Pw 0,Pv Pw 0,Pv Pw 0,PA Pz 0 0,Pv Px 0]) Ri P1 rfl P4 P8 λBi h hle c=>?_
         | (refine af P1 (mP c.wle rus hok.sm a0) ?_
            rw[hm,hbb]
            rintro _ h ⟨hle,vm,rfl,hvm⟩
            have hW:=c.up (h':=h)
            have c:=c.ext hle)
         | refine c.bs (k:=(0,2)) (n:=4) (l:=[Pv Pw 0,Pv Pw 0,Pv Pw 0,PA Pz 0 0,Pv Px 0]) Ri (hvm.mono Pq) rfl rfl P1 rfl rfl λh l10 hl10 c=>?_
         try refine⟨Pq,?_⟩
         subst hx))
    all_goals
      simp
      subst hy
      have hvm0:=hvm
      obtain⟨a3,m3,k3,rfl⟩:=vF hvm0
      have hl10:=hl10
      have e10:l10=[Pv Pw m.op,Pv Pw m.dst,Pv Pw m.two,.slice a3 m3 k3,Pv Px m.imm.v]:=by
        simp only[Value.agg.injEq]at hl10
        have:=congrArg Array.toList hl10
        simpa using this.symm
      subst e10
      have y10:=c.own.raw (k:=(0,2)) (n:=4) (l:=[Pv Pw m.op,Pv Pw m.dst,Pv Pw m.two,.slice a3 m3 k3,Pv Px m.imm.v]) (B:=Bi) (e:=T.dU) Ri (i:=3) P4
      simp at y10
      have hma:=zd hvm
      cases b with
      | false=>
        have he:gI s.f s.t pat=none:=by rw[hE];rfl
        refine ab λy hy=>?_
        simp
        refine ay (z:=.agg fitZ.toArray) (places:=[(0,1),(1,1),(2,1),(3,5)]) (vs:=[]) (cs:=fitZ.toArray) P1 P1 Sa P1 ?_
        refine c.bs (k:=(0,0)) (n:=7) (l:=fitZ) Ri eY rfl rfl P1 rfl rfl λh9 l9 hl9 c9=>?_
        have hall:=c9.all (k:=(0,0)) (n:=7) (l:=l9) (B:=R) (e:=T.aS) Ri
        simp at hall
        simp[hall]
        exact hK _ _ (bM.of c9 (hl9▸eY) (by rw[he];rfl) λy e=>by rw[he]at e;cases e)
      | true=>
        have he:gI s.f s.t pat=Py ⟨m.args,s.t.args,[],⟨pat-31,nth m.args 0,nth m.args 1,s.t.to,⟨0⟩⟩⟩:=by rw[hE];rfl
        obtain⟨mm1,mm2,-⟩:=hfm rfl
        have hal2:=(hok.all _ mm1).two P2
        have hmost:=(hok.all _ mm1).most
        have r0:=hma.rng (i:=0) P2
        have r1:=hma.rng (i:=1) P2
        have x2':=hma.idx1 (k:=.i64) (i:=0) rfl P4 P2
        have x3':=hma.idx1 (k:=.i64) (i:=1) rfl P4 P2
        refine ab λy hy=>?_
        simp
        subst hy
        refine ab λy hy=>?_
        refine aT (vw h) Ps ?_
        have d2':=hma.int (Pt Pq c.wle) (i:=0) P2
        have d3':=hma.int (Pt Pq c.wle) (i:=1) P2
        have s1h:=ae (Pt Pq c.wle) s1
        have d0h:=hva4.int (Pt Pq c.wle) (i:=0) al
        have hva5:=hva4.mono Pq
        have hto5:=hto.mono Pq
        have hma5:=hma.mono Pq
        have hH:(vw h).le (vw h):=View.le_refl _
        have hr : ∀{X:View} {bA bB:Option Addr} {kA kB:Nat},SlRd X (.slice bA m.args.length kA) m.args->SlRd X (.slice bB s.t.args.length kB) s.t.args->SlRd X (.slice b0 s.t.to.length k0) s.t.to->Rd X (.agg #[.slice bA m.args.length kA,.slice bB s.t.args.length kB,PA Pz 0 0,Pv Pw (pat-31),Pv Pw (nth m.args 0),Pv Pw (nth m.args 1),.slice b0 s.t.to.length k0,Pv Px 0]) (⟨m.args,s.t.args,[],⟨pat-31,nth m.args 0,nth m.args 1,s.t.to,⟨0⟩⟩⟩:FitD):=λq1 q2 q3=>lM (ce:=[_,_,_,_,_]) q1 q2 aN (kC (imm:=⟨0⟩) P9 Sa q3)
        repeat' (first
          | refine gL ?_ ?_
          | (refine bD λx hx=>?_
             simp[y10,s1h,x2',x3',d2',d3',ew2]
             first
             | refine ay (t:=T.fl) (z:=.agg #[Pv Pw 0,Pv Pw 0,Pv Pw 0,PA Pz 0 0,Pv Px 0]) (places:=[(0,1),(1,1),(2,1),(3,1),(4,1)]) (vs:=[(0,Pv Pw (pat-31)),(1,Pv Pw (nth m.args 0)),(2,Pv Pw (nth m.args 1)),(3,.slice b0 s.t.to.length k0)]) (cs:=#[Pv Pw (pat-31),Pv Pw (nth m.args 0),Pv Pw (nth m.args 1),.slice b0 s.t.to.length k0,Pv Px 0]) P1 P1 Sa (by simp[Instr.fill,Value.cells]) ?_
             | (refine af P1 (dK c.wle (hma5.mono Pq) P2) ?_
                rintro uA h ⟨hle,hcA⟩
                have hW:=c.up (h':=h)
                have c:=c.ext hle
                have hcA0:=hcA
                obtain⟨bA,kA,rfl,-⟩:=hcA0)
             | (refine af P1 (dK c.wle (hva5.mono Pq) P2) ?_
                rintro uB h ⟨hle,hcB⟩
                have hW:=c.up (h':=h)
                have c:=c.ext hle
                have hcB0:=hcB
                obtain⟨bB,kB,rfl,-⟩:=hcB0)
             | refine ay (t:=T.aS) (z:=.agg fitZ.toArray) (places:=[(0,1),(1,1),(2,1),(3,5)]) (vs:=[(0,.slice bA m.args.length kA),(1,.slice bB s.t.args.length kB),(3,.agg #[Pv Pw (pat-31),Pv Pw (nth m.args 0),Pv Pw (nth m.args 1),.slice b0 s.t.to.length k0,Pv Px 0])]) (cs:=#[.slice bA m.args.length kA,.slice bB s.t.args.length kB,PA Pz 0 0,Pv Pw (pat-31),Pv Pw (nth m.args 0),Pv Pw (nth m.args 1),.slice b0 s.t.to.length k0,Pv Px 0]) P1 P1 Sa (by simp[Instr.fill,Value.cells]) ?_
             | refine c.bs (k:=(0,0)) (n:=7) (l:=fitZ) Ri (hr (hcA.mono Pq) (hcB.mono Pq) (hto5.mono Pq)) rfl rfl P1 rfl rfl λh l9 hl9 c=>?_
             try refine⟨Pq,?_⟩
             subst hx))
        all_goals
          simp
          rw[hy]
          have hall:=c.all (k:=(0,0)) (n:=7) (l:=l9) (B:=R) (e:=T.aS) Ri
          simp at hall
          simp[hall]
          exact hK _ _ (bM.of c (hl9▸hr (hcA.mono Pq) (hcB.mono Pq) (hto5.mono Pq)) (by rw[he];rfl) λy e=>by rw[he]at e;cases e;rfl)
  refine gy (λρ h5=>h5=h4/\ρ=[(0,v),(1,Pv Pw pat),(2,ptr S),(4,ptr R),(5,.bool PD),(6,ptr Tb),(7,.slice b0 s.t.to.length k0),(13,ut),(16,.slice b0 s.t.to.length k0),(81,.bool PD),(83,.bool (inR pat 34 36))]) ?_ ?_
  · intro K2 hK2
    simp
    refine af P1 iO ?_
    rintro _ h4 ⟨rfl,rfl⟩
    by_cases e0:inR pat 34 36=PC
    · have e2:¬s.t.kind=2:=λe=>p5 ⟨by simpa[inR]using e0,e⟩
      simp[e0,z0,e2]
      exact hK2 _ _ ⟨rfl,by rw[e0]⟩
    · have e0:inR pat 34 36=false:=by simpa using e0
      simp[e0]
      exact hK2 _ _ ⟨rfl,by rw[e0]⟩
  rintro _ h4 ⟨rfl,rfl⟩
  subst hy
  refine aV Sa ?_
  refine ab λy hy=>?_
  by_cases p6:pat=37/\s.t.kind=3
  · have he:gI s.f s.t pat=Py ⟨s.t.args,[],[],⟨6,nth s.t.args 0,0,s.t.to,⟨0⟩⟩⟩:=by unfold gI;rw[if_neg p1,if_neg p2,if_neg p3,if_neg p4,if_neg p5,if_pos p6]
    have al:=htk.one P2
    have a0:=hva4.rng (i:=0) al
    have x0:=hva4.idx1 (k:=.i64) (i:=0) rfl P4 P2
    have d0:=hva4.int (View.le_refl W4) (i:=0) al
    simp[p6.1,z0,p6.2]
    subst hy
    refine aW Sa ?_
    refine ab λy hy=>?_
    refine aT W4 c4.wle ?_
    simp[s1,x0,d0]
    refine⟨?_,?_⟩
    · refine af P1 (dK c4.wle hva4 P2) ?_
      rintro ucl h5 ⟨hle5,hcl⟩
      have c5:=c4.ext hle5
      have hW5:=c4.up (h':=h5)
      refine⟨Pt hW5 c5.wle,?_⟩
      have hcl0:=hcl
      obtain⟨b1,k1,rfl,-⟩:=hcl0
      generalize grow W4 h4 h5=W5 at *
      refine ay (t:=T.fl) (z:=.agg #[Pv Pw 0,Pv Pw 0,Pv Pw 0,PA Pz 0 0,Pv Px 0]) (places:=[(0,1),(1,1),(2,1),(3,1),(4,1)]) (vs:=[(0,Pv Pw 6),(1,Pv Pw (nth s.t.args 0)),(3,.slice b0 s.t.to.length k0)]) (cs:=#[Pv Pw 6,Pv Pw (nth s.t.args 0),Pv Pw 0,.slice b0 s.t.to.length k0,Pv Px 0]) P1 P1 Sa (by simp[Instr.fill,Value.cells]) ?_
      refine⟨Pt hW5 c5.wle,?_⟩
      refine ay (t:=T.aS) (z:=.agg fitZ.toArray) (places:=[(0,1),(1,1),(2,1),(3,5)]) (vs:=[(0,.slice b1 s.t.args.length k1),(3,.agg #[Pv Pw 6,Pv Pw (nth s.t.args 0),Pv Pw 0,.slice b0 s.t.to.length k0,Pv Px 0])]) (cs:=#[.slice b1 s.t.args.length k1,PA Pz 0 0,PA Pz 0 0,Pv Pw 6,Pv Pw (nth s.t.args 0),Pv Pw 0,.slice b0 s.t.to.length k0,Pv Px 0]) P1 P1 Sa (by simp[Instr.fill,Value.cells]) ?_
      have hr:Rd W5 (.agg #[.slice b1 s.t.args.length k1,PA Pz 0 0,PA Pz 0 0,Pv Pw 6,Pv Pw (nth s.t.args 0),Pv Pw 0,.slice b0 s.t.to.length k0,Pv Px 0]) (⟨s.t.args,[],[],⟨6,nth s.t.args 0,0,s.t.to,⟨0⟩⟩⟩:FitD):=lM (ce:=[_,_,_,_,_]) hcl aN aN (kC (imm:=⟨0⟩) P9 Sa (hto.mono hW5))
      refine c5.bs (k:=(0,0)) (n:=7) (l:=fitZ) Ri hr rfl rfl P1 rfl rfl λh9 l9 hl9 c9=>?_
      subst hy
      have hall:=c9.all (k:=(0,0)) (n:=7) (l:=l9) (B:=R) (e:=T.aS) Ri
      simp at hall
      simp[hall]
      exact hK _ _ (bM.of c9 (hl9▸hr) (by rw[he];rfl) λy e=>by rw[he]at e;cases e;rfl)
    · refine ay (t:=T.fl) (z:=.agg #[Pv Pw 0,Pv Pw 0,Pv Pw 0,PA Pz 0 0,Pv Px 0]) (places:=[(0,1),(1,1),(2,1),(3,1),(4,1)]) (vs:=[(0,Pv Pw 6),(1,Pv Pw (nth s.t.args 0)),(3,.slice b0 s.t.to.length k0)]) (cs:=#[Pv Pw 6,Pv Pw (nth s.t.args 0),Pv Pw 0,.slice b0 s.t.to.length k0,Pv Px 0]) P1 P1 Sa (by simp[Instr.fill,Value.cells]) ?_
      refine⟨c4.wle,?_⟩
      refine af P1 (dK c4.wle hva4 P2) ?_
      rintro ucl h5 ⟨hle5,hcl⟩
      have c5:=c4.ext hle5
      have hW5:=c4.up (h':=h5)
      refine⟨Pt hW5 c5.wle,?_⟩
      have hcl0:=hcl
      obtain⟨b1,k1,rfl,-⟩:=hcl0
      generalize grow W4 h4 h5=W5 at *
      refine ay (t:=T.aS) (z:=.agg fitZ.toArray) (places:=[(0,1),(1,1),(2,1),(3,5)]) (vs:=[(0,.slice b1 s.t.args.length k1),(3,.agg #[Pv Pw 6,Pv Pw (nth s.t.args 0),Pv Pw 0,.slice b0 s.t.to.length k0,Pv Px 0])]) (cs:=#[.slice b1 s.t.args.length k1,PA Pz 0 0,PA Pz 0 0,Pv Pw 6,Pv Pw (nth s.t.args 0),Pv Pw 0,.slice b0 s.t.to.length k0,Pv Px 0]) P1 P1 Sa (by simp[Instr.fill,Value.cells]) ?_
      have hr:Rd W5 (.agg #[.slice b1 s.t.args.length k1,PA Pz 0 0,PA Pz 0 0,Pv Pw 6,Pv Pw (nth s.t.args 0),Pv Pw 0,.slice b0 s.t.to.length k0,Pv Px 0]) (⟨s.t.args,[],[],⟨6,nth s.t.args 0,0,s.t.to,⟨0⟩⟩⟩:FitD):=lM (ce:=[_,_,_,_,_]) hcl aN aN (kC (imm:=⟨0⟩) P9 Sa (hto.mono hW5))
      refine c5.bs (k:=(0,0)) (n:=7) (l:=fitZ) Ri hr rfl rfl P1 rfl rfl λh9 l9 hl9 c9=>?_
      subst hy
      have hall:=c9.all (k:=(0,0)) (n:=7) (l:=l9) (B:=R) (e:=T.aS) Ri
      simp at hall
      simp[hall]
      exact hK _ _ (bM.of c9 (hl9▸hr) (by rw[he];rfl) λy e=>by rw[he]at e;cases e;rfl)
  refine gy (λρ h5=>h5=h4/\ρ=[(0,v),(1,Pv Pw pat),(2,ptr S),(4,ptr R),(5,.bool PD),(6,ptr Tb),(7,.slice b0 s.t.to.length k0),(13,ut),(16,.slice b0 s.t.to.length k0),(83,.bool (inR pat 34 36)),(124,.bool PD)]) ?_ ?_
  · intro K2 hK2
    by_cases e0:pat=37
    · have e2:¬s.t.kind=3:=λe=>p6 ⟨e0,e⟩
      simp[e0,z0,e2]
      exact hK2 _ _ ⟨rfl,by rw[e0]⟩
    · simp[e0,z0]
      exact hK2 _ _ ⟨rfl,rfl⟩
  rintro _ h4 ⟨rfl,rfl⟩
  subst hy
  refine aV Sa ?_
  have he:gI s.f s.t pat=none:=by unfold gI;rw[if_neg p1,if_neg p2,if_neg p3,if_neg p4,if_neg p5,if_neg p6]
  simp
  subst hz
  refine ab λz hz=>?_
  simp
  refine ay (z:=.agg fitZ.toArray) (places:=[(0,1),(1,1),(2,1),(3,5)]) (vs:=[]) (cs:=fitZ.toArray) P1 P1 Sa P1 ?_
  refine c4.bs (k:=(0,0)) (n:=7) (l:=fitZ) Ri eY rfl rfl P1 rfl rfl λh9 l9 hl9 c9=>?_
  subst hz
  have hall:=c9.all (k:=(0,0)) (n:=7) (l:=l9) (B:=R) (e:=T.aS) Ri
  simp at hall
  simp[hall]
  exact hK _ _ (bM.of c9 (hl9▸eY) (by rw[he];rfl) λy e=>by rw[he]at e;cases e)
end Go.Proofs.YtnfiilgdjpdlkaaGreatDoor
namespace Go.Proofs.YtnfiilgdjpdlkaaGreatDoor
open Go Go.Lft
theorem Cx.upW{V W W':View}{h0 h h':Heap}{o:Own}(c:Cx V h0 W h o)(hle:(vw h).le (vw h'))(u:Up W h W')(hW:W'.le (vw h')):Cx V h0 W' h' o:=by
 have A : ∀k i b,o k=Py i->i.v.ownBlock=Py b->W' b=none:=λk i b hk hb=>by
  have hlt:=c.own.lt hk hb;have hav:=c.own.av k i hk b hb;cases hx:W' b with
  | none=>rfl
  | some x=>rw[u.old b x hlt hx]at hav;cases hav
 exact⟨(c.own.ext' hle).HU u.le hW A,λb x hb hx=>c.old b x hb (u.old b x (Nw hb (bY c.le0)) hx),Pt c.le0 hle,c.new⟩
theorem Ix{s:bR}{v:Value}{pat:Int}{h:Heap}{W:View}(hW:W.le (vw h))(hv:Rd W v s)(hok:s.term=PD->kI s)(htk:s.term=PC->kI s/\ud s.t)(hM:s.i.op=15\/s.i.op=16->kG)(hp:I64 pat):
  az PE 39 #[v,Pv Pw pat] h (λu h'=>bM W h h' u (tryS s pat)):=by
 refine au (args:=[v,Pv Pw pat]) follows Tryz.func39 E.jY Pp λK hK=>?_;dsimp only[L.jY,lkF,lkG];have c0:=Cx.start hW;refine ab λz hz=>?_;simp;refine c0.dm rfl hv λS h1 W1 hW1 c1 at1 hle1=>?_;refine c1.cA (k:=(0,0)) (n:=7) (z:=.agg fitZ.toArray) rfl P1 rfl P4 P8 λR h2 hle2 c2=>?_;subst hz;have tm:=(at1.part bR.mF).bool;have tm:ak W1 ⟨S,11,Pz⟩=Py (.bool s.term):=by simpa using tm
 have tm:=ae c2.wle tm;obtain⟨us,hus,rus⟩:=at1.ldN rfl (N:=13) rfl;have hus:=hus _ c2.wle;refine ab λz hz=>?_;cases ht:s.term with
 | true=>
  rw[ht]at tm;obtain⟨hk1,hk2⟩:=htk ht;have e:tryS s pat=gI s.f s.t pat:=by unfold tryS;rw[if_pos ht]
  rw[e]at hK;simp[tm,hus];refine af P1 (Jp c2.wle rus hk1 hk2 hp) ?_;rintro _ h3 ⟨hle3,vf,x,rfl,hvf,hx⟩;have c3:=c2.ext hle3;simp;refine c3.bs (k:=(0,0)) (n:=7) (l:=fitZ) Ri hvf rfl rfl P1 rfl rfl λh9 l9 hl9 c9=>?_;have hall:=c9.all (k:=(0,0)) (n:=7) (l:=l9) (B:=R) (e:=T.aS) Ri;simp at hall;simp[hall];exact hK _ _ (bM.of c9 (hl9▸hvf) rfl hx)
 | false=>
  rw[ht]at tm;have e:tryS s pat=patS s.f s.i s.temp pat:=by unfold tryS;rw[ht];rfl
  rw[e]at hK;simp[tm];subst hz;refine ab λz hz=>?_;simp[hus];refine af P1 (Aq c2.wle rus (hok ht) ht hM) ?_;rintro _ h3 ⟨r,W3,rfl,u3,p3,hle3⟩;have c3:=Cx.upW c2 hle3 u3 p3.wle;obtain⟨g,g1,g2,g3⟩:=p3.ex;refine lR (f:=mapE id g) (z:=.nilFunc) (k:=T.int) (e:=T.fy) (d:=.int .i64) (r:=r) (u:=Pv Pw pat) U.cn U.int P1 rfl rfl eC g1 ?_;simp;subst hz;refine ab λz hz=>?_;have g2p:=g2 pat;have g3p:=g3 pat;cases hg:g pat with
  | none=>
   rw[hg]at g2p;have e0:patS s.f s.i s.temp pat=none:=by unfold patS;rw[if_neg];rintro⟨a1,a2,-⟩;simp[nTo]at g2p;omega
   rw[e0]at hK;simp;refine ay (t:=T.aS) (z:=.agg fitZ.toArray) (places:=[(0,1),(1,1),(2,1),(3,5)]) (vs:=[]) (cs:=fitZ.toArray) P1 P1 Sa P1 ?_;refine c3.bs (k:=(0,0)) (n:=7) (l:=fitZ) Ri eY rfl rfl P1 rfl rfl λh9 l9 hl9 c9=>?_;have hall:=c9.all (k:=(0,0)) (n:=7) (l:=l9) (B:=R) (e:=T.aS) Ri;simp at hall;simp[hall];exact hK _ _ (bM.of c9 (hl9▸eY) rfl λy e=>by cases e)
  | some fv=>obtain⟨fn,caps,rfl,hfn,hcall⟩:=(g3p fv hg).ex;simp;subst hz;refine ab λz hz=>?_;simp;refine bN (ops:=[]) rfl hfn (by simpa using hcall h3 W3 Ps p3.wle) ?_;rintro _ h4 ⟨hle4,vf,x,rfl,hvf,hx⟩;have c4:=c3.ext hle4;simp;refine c4.bs (k:=(0,0)) (n:=7) (l:=fitZ) Ri hvf rfl rfl P1 rfl rfl λh9 l9 hl9 c9=>?_;subst hz;have hall:=c9.all (k:=(0,0)) (n:=7) (l:=l9) (B:=R) (e:=T.aS) Ri;simp at hall;simp[hall];exact hK _ _ (bM.of c9 (hl9▸hvf) rfl hx)
abbrev RSt:=List Bool × List Int
def jA (wo:Int) (to:List Int) (k:Nat) (s:RSt):RSt:=
 if(0<=nth to k/\nth to k<s.1.length)/\nth s.1 (nth to k).toNat=PD/\nth to k≠wo then(s.1.set (nth to k).toNat PC,s.2++[nth to k]) else s
def uZ (f:aj) (wo:Int) (i:Nat) (s:RSt):RSt:=up (jA wo (nth f.blocks (nth s.2 i).toNat).term.to) (nth f.blocks (nth s.2 i).toNat).term.to.length s
def rchS (f:aj) (wo:Int):Nat->Nat->RSt->RSt
 | 0,_,s=>s
 | n+1,i,s=>if i<s.2.length then rchS f wo n (i+1) (uZ f wo i s) else s
def rch0 (f:aj) (wo:Int):RSt:=if wo≠0/\0<f.blocks.length then((List.replicate f.blocks.length PD).set 0 PC,[0]) else(List.replicate f.blocks.length PD,[])
def dO (f:aj) (wo:Int):List Bool:=(rchS f wo (f.blocks.length+1) 0 (rch0 f wo)).1
structure ROk (n:Nat) (s:RSt):Prop where
 len:s.1.length=n
 cnt:s.2.length+cV s.1<=n
 rng : ∀x∈s.2,0<=x/\x<n
variable{wo:Int}
theorem Az{n:Nat}{to:List Int}{k:Nat}{s:RSt}(h:ROk n s):ROk n (jA wo to k s):=by
 unfold jA;split
 ·rename_i hc;have hf:=iW (t:=s.1) (i:=(nth to k).toNat) P2 hc.2.1;refine⟨by simpa using h.len,?_,λx hx=>?_⟩
  ·have:=h.cnt;simp only[Lx,LP];omega
  rcases Lv.1 hx with hx | hx
  ·exact h.rng x hx
  rw[Ls.1 hx,<-h.len];exact hc.1
 exact h
theorem uG{n:Nat}{to:List Int}{s:RSt}(h:ROk n s)(m:Nat):ROk n (up (jA wo to) m s):=sP (ROk n) (λk x hx=>Az hx) m s h
theorem yO{f:aj}:ROk f.blocks.length (rch0 f wo):=by
 unfold rch0;have hfa:cV (List.replicate f.blocks.length PD)=f.blocks.length:=by simp[cV]
 split
 ·rename_i hc;have hf:=iW (t:=List.replicate f.blocks.length PD) (i:=0) (by simpa using hc.2) (by rw[aA (by simpa using hc.2)];simp);exact⟨by simp,by simp only[LP];omega,λx hx=>by rw[Ls.1 hx];omega⟩
 exact⟨by simp,by simp only[NV];omega,λx hx=>by cases hx⟩
theorem Cs {f:aj} {wo:Int} : ∀{m i:Nat} {s:RSt},ROk f.blocks.length s->ROk f.blocks.length (rchS f wo m i s)
 | 0,_,_,h=>h
 | m+1,i,s,h=>by
  rw[rchS];split
  ·exact Cs (uG h _)
  exact h
theorem rE{f:aj}:(dO f wo).length=f.blocks.length:=(Cs yO).len
def qy (vo vq:Value) (s:RSt):Own:=λk=>if k=(0,0) then it T.bool vo s.1 else if k=(0,1) then it T.int vq s.2 else Pz
theorem wA{f:aj}{v:Value}{h:Heap}(hv:Rd (vw h) v f)(hn:f.blocks.length<=1000000):
  az PE 53 #[v,Pv Pw wo] h (λu h'=>(vw h).le (vw h')/\SlRd (fresh h h') u (dO f wo)):=by
 refine au (args:=[v,Pv Pw wo]) follows Tryz.func53 E.bX Pp λK hK=>?_;dsimp only[L.bX,lkF,lkG];refine ab λz hz=>?_;simp;refine hZ rfl hv λh1 _ hle1 hsz1 hat=>?_;obtain⟨_,vb,cb⟩:=jx hat;generalize h.size=B at cb;subst hz;refine ab λz hz=>?_;simp[cb.1,cb.2.len];refine ny (α:=Bool) (W:=vw h1) (k:=.i64) (n:=f.blocks.length) (d:=false) El.nh Sa Sa rfl P2 P2 λvo h2 o2 m2 hle2 hb2=>?_;have w2:=(Owns.start (h:=h1) (View.le_refl (vw h1))).add (k:=(0,0)) rfl o2 hle2 (λb hb=>by rw[hb2]at hb;cases hb;exact Lp _);subst hz;refine ab λz hz=>?_;simp;refine rB (α:=Int) El.aR λh3 hle3 hsz3 own3=>?_;have w3:=w2.add (k:=(0,1)) rfl (own3 _) hle3 (λb hb=>by simp only[Value.ownBlock,Ln]at hb;omega);have w3:Owns (vw h1) h3 (qy vo (PA (Py ⟨h2.size,0,Pz⟩) 0 0) (List.replicate f.blocks.length PD,[])):=w3.congr λq=>by
  unfold qy Own.upd;repeat' split
  all_goals first | rfl | simp_all
 generalize PA (Py ⟨h2.size,0,Pz⟩) 0 0=vq at w3;subst hz;refine ab λz hz=>?_;have cc3:=ae w3.wle cb.1;have cb3:=cb.2.mono w3.wle;have fin : ∀(h4:Heap) (vq:Value) (tl:Env),Owns (vw h1) h4 (qy vo vq (rch0 f wo))->@LC.wp noPP PE z (@dB [.tmp 4] K) ([(0,v),(1,Pv Pw wo),(2,PB (Py ⟨B,0,Pz⟩)),(4,PA Pz 0 0),(5,vo),(6,vq)]++tl) h4:=by
  intro h4 vq tl w4;subst hz;refine ab λz hz=>?_;simp;refine iD [1,2,5,6,7] (λm ρ h5=>∃(i:Nat) (s:RSt) (vq:Value),i<=f.blocks.length/\m=f.blocks.length+1-i/\ρ=[(1,Pv Pw wo),(2,PB (Py ⟨B,0,Pz⟩)),(5,vo),(6,vq),(7,Pv Pw i)]/\Owns (vw h1) h5 (qy vo vq s)/\ROk f.blocks.length s/\
   (rchS f wo m i s).1=dO f wo) (f.blocks.length+1) ⟨0,_,vq,by omega,rfl,by simp[bK,ag],w4,yO,rfl⟩ ?_;rintro m ρ h5 ⟨i,s,vq5,hi,rfl,rfl,w5,hok,hfin⟩ K2 hK2;have no:=w5.now (k:=(0,0)) (v:=vo) (l:=s.1) rfl;have nq:=w5.now (k:=(0,1)) (v:=vq5) (l:=s.2) rfl;have hcnt:=hok.cnt;by_cases hlt:i<s.2.length
  ·have hm:f.blocks.length+1-i=(f.blocks.length-i)+1:=by omega
   rw[hm,rchS,if_pos hlt]at hfin;obtain⟨r0,r1⟩:=hok.rng _ (bC hlt);have cb5:=cb.2.mono w5.wle;obtain⟨w,hw⟩:=yn cb5 (i:=(nth s.2 i).toNat) P2;obtain⟨w',hw'⟩:=yn cb.2 (i:=(nth s.2 i).toNat) P2;have eww:w'=w:=Option.some.inj ((ae w5.wle hw'.1).symm.trans hw.1);rw[eww]at hw';have hwb:=hw.2.bound;have hrow:uZ f wo i s=up (jA wo (nth f.blocks (nth s.2 i).toNat).term.to) (nth f.blocks (nth s.2 i).toNat).term.to.length s:=rfl;rw[hrow]at hfin;generalize hto:(nth f.blocks (nth s.2 i).toNat).term.to=to at hw hw' hwb hfin;refine ab λy hy=>?_;simp(disch:=omega)[nq.len,hlt];subst hy;refine ab λy hy=>?_;refine ab λx hx=>?_;simp(disch:=omega)[ae w5.wle cb.1,cb5.idxn (N:=6) rfl,nq.idx1 rfl,nq.int Ps,hw.1];subst hx;simp;refine cT [1,2,5,6,7,8,9] (fun(q:Value) j=>[Pv Pw wo,PB (Py ⟨B,0,Pz⟩),vo,q,Pv Pw i,w,Pv Pw j]) (λq j h6=>Owns (vw h1) h6 (qy vo q (up (jA wo to) j s))) to.length vq5
    rfl P2 rfl w5 (λ_ _=>rfl) (λv j h4 hk m=>by simp[hw.2.len]) ?_ ?_
   ·rintro q j h6 hltj w6 K3 hK3;have hst:up (jA wo to) (j+1) s=jA wo to j (up (jA wo to) j s):=rfl;have hok6:=uG (wo:=wo) (to:=to) hok j;generalize up (jA wo to) j s=s6 at w6 hst hok6;have no6:=w6.now (k:=(0,0)) (v:=vo) (l:=s6.1) rfl;have nq6:=w6.now (k:=(0,1)) (v:=q) (l:=s6.2) rfl;have hcnt6:=hok6.cnt;have hlen6:=hok6.len;have hr6:=hw'.2.mono w6.wle;have hrng:=hw'.2.range hltj;rw[jA]at hst;by_cases c1:0<=nth to j/\nth to j<s6.1.length
    ·have c1a:=c1.1;have c1b:=c1.2;cases c2:nth s6.1 (nth to j).toNat with
     | true=>rw[if_neg (by rw[c2];simp)]at hst;simp(disch:=omega)[hr6.idx1 rfl,hr6.int Ps,no6.len,no6.idx1 rfl,no6.bool Ps,c1a,c1b,c2];exact hK3 q _ _ rfl rfl (by rw[hst];exact w6)
     | false=>
      by_cases c3:nth to j=wo
      ·rw[if_neg (by simp[c3])]at hst;rw[c3]at c1a c1b c2;simp(disch:=omega)[hr6.idx1 rfl,hr6.int Ps,no6.len,no6.idx1 rfl,no6.bool Ps,c1a,c1b,c2,c3];exact hK3 q _ _ rfl rfl (by rw[hst];exact w6)
      rw[if_pos ⟨c1,c2,c3⟩]at hst;refine ab λx hx=>?_;simp(disch:=omega)[hr6.idx1 rfl,hr6.int Ps,no6.len,no6.idx1 rfl,no6.bool Ps,c1a,c1b,c2,c3];subst hx;simp(disch:=omega)[hr6.idx1 rfl,hr6.int Ps,no6.idx1 rfl];refine w6.bs (k:=(0,0)) (α:=Bool) (l:=s6.1) (v:=vo) (i:=(nth to j).toNat) (d:=true) rfl P1 (by simp[show Rep.n Bool=1 from rfl]) (by simp<;>rfl) P2 IE λh7 w7 hs7=>?_;have hr7:=hw'.2.mono w7.wle;simp(disch:=omega)[hr7.idx1 rfl,hr7.int Ps];refine w7.iN (k:=(0,1)) (α:=Int) (v:=q) (l:=s6.2) (d:=nth to j) rfl El.aR (by simp<;>rfl) (nY hrng.1 hrng.2) P2 P2 P5 P5 λu q8 h8 w8 hs8=>?_;refine hK3 q8 _ _ rfl rfl ?_;rw[hst];refine w8.congr λq=>?_;unfold qy Own.upd;repeat' split
      all_goals first | rfl | simp_all
    rw[if_neg (λe=>c1 e.1)]at hst;by_cases c1a:0<=nth to j
    ·have c1b:¬nth to j<s6.1.length:=λe=>c1 ⟨c1a,e⟩;simp(disch:=omega)[hr6.idx1 rfl,hr6.int Ps,no6.len,c1a,c1b];exact hK3 q _ _ rfl rfl (by rw[hst];exact w6)
    simp(disch:=omega)[hr6.idx1 rfl,hr6.int Ps,no6.len,c1a];exact hK3 q _ _ rfl rfl (by rw[hst];exact w6)
   rintro q h6 w6;simp;subst hy;simp(disch:=omega);exact hK2 (f.blocks.length+1-(i+1)) _ _ P2 ⟨i+1,_,q,by omega,rfl,by simp[bK],w6,uG hok _,by rw[show f.blocks.length+1-(i+1)=f.blocks.length-i by omega];exact hfin⟩
  have hlt':¬(i:Int)<s.2.length:=by omega
  simp(disch:=omega)[L.bX.l1,nq.len,hlt];subst hz;simp;have hs1:s.1=dO f wo:=by
   rw[<-hfin];cases f.blocks.length+1-i with
   | zero=>rfl
   | succ m=>rw[rchS,if_neg hlt]
  have ow:=w5.get (k:=(0,0)) (v:=vo) (l:=s.1) rfl;refine hK _ _ ⟨Pt hle1 w5.wle,?_⟩;rw[<-hs1];have ow':OwnT nothing h5 T.bool vo s.1:=ow;refine ow'.fresh (λ_ _ h=>by cases h) λb hb=>?_;rw[hb2]at hb;cases hb;exact View.cz Ps P2
 by_cases c1:wo=0
 ·have hr0:rch0 f wo=(List.replicate f.blocks.length PD,[]):=by rw[rch0,if_neg (λe=>e.1 c1)]
  rw[hr0]at fin;simp[cc3,cb3.len,c1];rw[c1]at fin;exact fin _ _ _ w3
 by_cases c2:0<f.blocks.length
 ·have hr0:rch0 f wo=((List.replicate f.blocks.length PD).set 0 PC,[0]):=by rw[rch0,if_pos ⟨c1,c2⟩]
  rw[hr0]at fin;have no:=w3.now (k:=(0,0)) (v:=vo) (l:=List.replicate f.blocks.length PD) rfl;refine ab λy hy=>?_;simp(disch:=omega)[cc3,cb3.len,c1,c2];subst hy;have i0:Bn.ev (.idx 1) vo (Pv Pw 0)=Py (PB (Py ((slA vo).add 0))):=no.idx1 rfl P2 (by simpa using c2);simp(disch:=omega)[i0];refine w3.bs (k:=(0,0)) (α:=Bool) (l:=List.replicate f.blocks.length PD) (v:=vo) (i:=0) (d:=true) rfl P1 (by simp[show Rep.n Bool=1 from rfl]) (by simp<;>rfl) (by simpa using c2) IE λh4 w4 hs4=>?_;refine w4.iN (k:=(0,1)) (α:=Int) (v:=vq) (l:=[]) (d:=0) rfl El.aR (by simp<;>rfl) (nY P2 P2) Sa Sa P5 P5 λu q5 h5 w5 hs5=>?_;refine fin _ _ _ (w5.congr λq=>?_);unfold qy Own.upd;repeat' split
  all_goals first | rfl | simp_all
 have hr0:rch0 f wo=(List.replicate f.blocks.length PD,[]):=by rw[rch0,if_neg (λe=>c2 e.2)]
 rw[hr0]at fin;simp[cc3,cb3.len,c1,c2];exact fin _ _ _ w3
theorem nC{l:List BlkD}:(ofG l).length=l.length:=by simp[ofG]
theorem q7{l:List BlkD}{a b:Int}:mX (ofG l) a b=PC↔(0<=a/\a<l.length/\0<=b/\b<l.length)/\b∈(nth l a.toNat).term.to:=by
 rw[gS,nC];constructor
 ·rintro⟨h,hm⟩;rw[ofG,ft P2,rT]at hm;exact⟨h,hm.1⟩
 rintro⟨h,hm⟩;refine⟨h,?_⟩;rw[ofG,ft P2,rT];exact⟨hm,h.2.2.1,h.2.2.2⟩
structure Rb (f:aj) (wo:Int) (s:RSt):Prop where
 ok:ROk f.blocks.length s
 seen : ∀b:Nat,b<f.blocks.length->(nth s.1 b=PC↔(b:Int)∈s.2)
 sound : ∀x∈s.2,Re (ofG f.blocks) wo x.toNat
theorem Kk{f:aj}{a:Int}{k:Nat}{s:RSt}(h:Rb f wo s)(h0:0<=a)(h1:a<f.blocks.length)(ha:Re (ofG f.blocks) wo a.toNat)(hk:k<(nth f.blocks a.toNat).term.to.length):
  Rb f wo (jA wo (nth f.blocks a.toNat).term.to k s)/\s.2 <+: (jA wo (nth f.blocks a.toNat).term.to k s).2/\
   (0<=nth (nth f.blocks a.toNat).term.to k->nth (nth f.blocks a.toNat).term.to k<f.blocks.length->nth (nth f.blocks a.toNat).term.to k≠wo->nth (nth f.blocks a.toNat).term.to k∈(jA wo (nth f.blocks a.toNat).term.to k s).2):=by
 have hok:=Az (wo:=wo) (to:=(nth f.blocks a.toNat).term.to) (k:=k) h.ok;have hm:=bC hk;unfold jA at hok ⊢;generalize hto:(nth f.blocks a.toNat).term.to=to at hm hok ⊢;split
 ·rename_i hc;rw[if_pos hc]at hok;obtain⟨⟨c1,c2⟩,c3,c4⟩:=hc;rw[h.ok.len]at c2;have hb:((nth to k).toNat:Int)=nth to k:=LK c1;refine⟨⟨hok,λb hb=>?_,λx hx=>?_⟩,List.prefix_append _ _,λ_ _ _=>MG _ (Ls.2 rfl)⟩
  ·rw[Lv,Ls];by_cases he:b=(nth to k).toNat
   ·subst he;rw[bz (by rw[h.ok.len];omega),if_pos rfl];exact⟨λ_=>.inr (LK c1),λ_=>rfl⟩
   rw[bz (by rw[h.ok.len];exact hb),if_neg (λe=>he e.symm),h.seen b hb];exact⟨.inl,λe=>e.resolve_right P2⟩
  rcases Lv.1 hx with hx | hx
  ·exact h.sound x hx
  rw[Ls.1 hx];refine .step ha ?_ (by rw[hb];exact c4);rw[q7,hb];exact⟨⟨by omega,by omega,c1,c2⟩,by rw[LN,hto];exact hm⟩
 rename_i hc;rw[if_neg hc]at hok;refine⟨h,Ns _,λc1 c2 c4=>?_⟩;have hb:((nth to k).toNat:Int)=nth to k:=LK c1;rw[<-hb,<-h.seen _ P2];cases e:nth s.1 (nth to k).toNat with
 | true=>rfl
 | false=>exact absurd ⟨⟨c1,by rw[h.ok.len];exact c2⟩,e,c4⟩ hc
theorem Gb {f:aj} {wo a:Int} {s:RSt} (h:Rb f wo s) (h0:0<=a) (h1:a<f.blocks.length) (ha:Re (ofG f.blocks) wo a.toNat) : ∀m,m<=(nth f.blocks a.toNat).term.to.length->
  Rb f wo (up (jA wo (nth f.blocks a.toNat).term.to) m s)/\s.2 <+: (up (jA wo (nth f.blocks a.toNat).term.to) m s).2/\
   ∀k,k<m->0<=nth (nth f.blocks a.toNat).term.to k->nth (nth f.blocks a.toNat).term.to k<f.blocks.length->nth (nth f.blocks a.toNat).term.to k≠wo->nth (nth f.blocks a.toNat).term.to k∈(up (jA wo (nth f.blocks a.toNat).term.to) m s).2
 | 0,_=>⟨h,Ns _,λk hk=>by omega⟩
 | m+1,hm=>by
  obtain⟨i1,i2,i3⟩:=Gb h h0 h1 ha m P2;obtain⟨j1,j2,j3⟩:=Kk (k:=m) i1 h0 h1 ha P2;rw[up];refine⟨j1,i2.trans j2,λk hk c1 c2 c3=>?_⟩;rcases Lr k m with hlt | hge
  ·exact j2.subset (i3 k hlt c1 c2 c3)
  have:k=m:=by omega
  subst this;exact j3 c1 c2 c3
structure Rc (f:aj) (wo:Int) (i:Nat) (s:RSt):Prop where
 b:Rb f wo s
 root:wo≠0->0<f.blocks.length->(0:Int)∈s.2
 done : ∀j,j<i->j<s.2.length->∀b:Nat,mX (ofG f.blocks) (nth s.2 j) b=PC->(b:Int)≠wo->(b:Int)∈s.2
variable{α:Type}
theorem BY[Inhabited α]{a b:List α}(h:a <+: b){i:Nat}(hi:i<a.length):nth b i=nth a i:=by obtain⟨t,rfl⟩:=h;rw[aA P9,aA hi,NS hi]
theorem Hu{f:aj}{i:Nat}{s:RSt}(h:Rc f wo i s)(hi:i<s.2.length):Rc f wo (i+1) (uZ f wo i s)/\s.2 <+: (uZ f wo i s).2:=by
 have hm:=bC hi;obtain⟨h0,h1⟩:=h.b.ok.rng _ hm;have hre:=h.b.sound _ hm;obtain⟨i1,i2,i3⟩:=Gb h.b h0 h1 hre _ (Lp _);have he:uZ f wo i s=up (jA wo (nth f.blocks (nth s.2 i).toNat).term.to) (nth f.blocks (nth s.2 i).toNat).term.to.length s:=rfl;rw[<-he]at i1 i2 i3;refine⟨⟨i1,λa b=>i2.subset (h.root a b),λj hj hjl b hb hne=>?_⟩,i2⟩;rcases Lr j i with hlt | hge
 ·rw[BY i2 P2]at hb;exact i2.subset (h.done j hlt P2 b hb hne)
 have:j=i:=by omega
 subst this;rw[BY i2 hi,q7]at hb;obtain⟨⟨_,_,q1,q2⟩,hmem⟩:=hb;obtain⟨k,hk,e⟩:=LO hmem;rw[<-aA hk]at e;rw[<-e];exact i3 k hk P2 P2 (by rw[e];exact hne)
theorem Fc {f:aj} {wo:Int} : ∀{m i:Nat} {s:RSt},Rc f wo i s->f.blocks.length<i+m->∃k,Rc f wo k (rchS f wo m i s)/\(rchS f wo m i s).2.length<=k
 | 0,i,s,h,hm=>⟨i,h,by have:=h.b.ok.cnt;rw[rchS];omega⟩
 | m+1,i,s,h,hm=>by
  rw[rchS];split
  ·rename_i hi;exact Fc (Hu h hi).1 P2
  rename_i hi;exact⟨i,h,by omega⟩
theorem Hp{f:aj}:Rc f wo 0 (rch0 f wo):=by
 have hok:=yO (f:=f) (wo:=wo);unfold rch0 at hok ⊢;split
 ·rename_i hc;rw[if_pos hc]at hok;refine⟨⟨hok,λb hb=>?_,λx hx=>?_⟩,λ_ _=>Ls.2 rfl,λj hj=>by omega⟩
  ·rw[bz (by simpa using hb),Ls];split
   ·rename_i e;subst e;simp
   rename_i e;rw[aA (by simpa using hb)];simp;omega
  rw[Ls.1 hx];exact .root (by rw[nC];exact hc.2) hc.1
 rename_i hc;rw[if_neg hc]at hok;refine⟨⟨hok,λb hb=>?_,λx hx=>by cases hx⟩,λa b=>absurd ⟨a,b⟩ hc,λj hj=>by omega⟩;rw[aA (by simpa using hb)];simp
variable{b:Nat}
theorem jh{f:aj}(hb:b<f.blocks.length):nth (dO f wo) b=PC↔Re (ofG f.blocks) wo b:=by
 obtain⟨k,h,hk⟩:=Fc (Hp (f:=f) (wo:=wo)) (m:=f.blocks.length+1) P2;unfold dO;generalize rchS f wo (f.blocks.length+1) 0 (rch0 f wo)=s at h hk;rw[h.b.seen b hb];constructor
 ·exact λhm=>by simpa using h.b.sound _ hm
 intro hr;induction hr with
 | root h1 h2=>exact h.root h2 (by rw[<-nC];exact h1)
 | @step a b ha he hne ih=>have hm:=ih (by have:=(q7.1 he).1;omega);obtain⟨j,hj,e⟩:=LO hm;rw[<-aA hj]at e;exact h.done j P2 hj b (by rw[e];exact he) hne
instance:Rep Th:=Rep.via λd=>Cat.mk d.blk (Cat.mk d.place (Cat.mk d.mks d.tks))
theorem Th.HS:Part Th Int 0 Th.blk (λd x=>{ d with blk:=x }):=(Part.fst Part.all).via (λ_=>rfl) λ_ _=>rfl
theorem Th.Kn:Part Th (List Int) 2 Th.mks (λd x=>{ d with mks:=x }):=(Part.snd (Part.snd (Part.fst Part.all))).via (λ_=>rfl) λ_ _=>rfl
structure ThR where
 blk:Int
 place:Int
 mks:List Int
 tks:Raw
instance:Rep ThR:=Rep.via λd=>Cat.mk d.blk (Cat.mk d.place (Cat.mk d.mks d.tks))
theorem ThR.HJ:Part ThR Raw 3 ThR.tks (λd x=>{ d with tks:=x }):=(Part.snd (Part.snd (Part.snd Part.all))).via (λ_=>rfl) λ_ _=>rfl
theorem Fv{H:View}{a b:Int}{u q:Value}{m t:List Int}(ha:I64 a)(hb:I64 b)(hm:SlRd H u m)(ht:SlRd H q t):Rd H (.agg #[Pv Pw a,Pv Pw b,u,q]) (Th.mk a b m t):=
 ⟨_,rfl,[Pv Pw a],[Pv Pw b,u,q],rfl,⟨rfl,ha⟩,[Pv Pw b],[u,q],rfl,⟨rfl,hb⟩,[u],[q],rfl,⟨u,rfl,hm⟩,⟨q,rfl,ht⟩⟩
theorem Jg{H:View}{a b:Int}{u q:Value}{m:List Int}(ha:I64 a)(hb:I64 b)(hm:SlRd H u m)(hq:q.oneCell'=PC):Rd H (.agg #[Pv Pw a,Pv Pw b,u,q]) (ThR.mk a b m ⟨q⟩):=
 ⟨_,rfl,[Pv Pw a],[Pv Pw b,u,q],rfl,⟨rfl,ha⟩,[Pv Pw b],[u,q],rfl,⟨rfl,hb⟩,[u],[q],rfl,⟨u,rfl,hm⟩,⟨rfl,hq⟩⟩
theorem Du{H:View}{cs:List Value}{d:ThR}(h:Rep.rd H cs d): ∃u,cs=[Pv Pw d.blk,Pv Pw d.place,u,d.tks.v]/\I64 d.blk/\I64 d.place/\SlRd H u d.mks:=by obtain⟨c1,r1,rfl,⟨rfl,h1⟩,c2,r2,rfl,⟨rfl,h2⟩,c3,r3,rfl,⟨u,rfl,h3⟩,rfl,_⟩:=h;exact⟨u,rfl,h1,h2,h3⟩
def oE (vo:Value) (l:List Th):Own:=λk=>if k=(0,0) then it T.ep vo l else Pz
def tN (vo:Value) (l:List Th) (D:Nat) (d:ThR) (q:Value) (t:List Int):Own:=λk=>if k=(0,0) then it T.ep vo l else if k=(1,0) then bx T.ep D d else if k=(1,1) then it T.int q t else Pz
structure ThS (V:View) (h0:Heap) (vo:Value) (l:List Th) (W:View) (h:Heap):Prop where
 own:Owns W h (oE vo l)
 old:Old V h0 W
 le:(vw h0).le (vw h)
 av:Av (vw h0) vo
theorem ThS.ext {V:View} {h0:Heap} {vo:Value} {l:List Th} {W:View} {h h':Heap} (k:ThS V h0 vo l W h) (hle:(vw h).le (vw h')):ThS V h0 vo l (grow W h h') h':=
 ⟨k.own.ext hle,k.old.grow (bY k.le),Pt k.le hle,k.av⟩
theorem ER{po:OP}{ty:TypeId}{us:List (Nat × Value)}{h:Heap}{K:Value->Heap->Prop}{x y z w:Operand}{a b:Int}{u q:Value}(hx:asg us x = Pv Pw a)(hy:asg us y = Pv Pw b)(hz:asg us z=u)(hw:asg us w=q)(hu:u.cells = #[u])(hq:q.cells = #[q])(hk:K (.agg #[Pv Pw a,Pv Pw b,u,q]) h):
  Lft.step PE (.build T.ep #[(0,x),(1,y),(2,z),(3,w)]) ty us h K:=
 ay (z:=.agg #[Pv Pw 0,Pv Pw 0,PA Pz 0 0,PA Pz 0 0]) (places:=[(0,1),(1,1),(2,1),(3,1)]) (vs:=[(0,Pv Pw a),(1,Pv Pw b),(2,u),(3,q)]) (cs:=#[Pv Pw a,Pv Pw b,u,q]) P1 P1 (by simp[hx,hy,hz,hw])
  (by simp[Instr.fill,hu,hq]) hk
theorem Dk{po:OP}{ty:TypeId}{us:List (Nat × Value)}{h:Heap}{K:Value->Heap->Prop}{x y z:Operand}{a b:Int}{u:Value}(hx:asg us x = Pv Pw a)(hy:asg us y = Pv Pw b)(hz:asg us z=u)(hu:u.cells = #[u])(hk:K (.agg #[Pv Pw a,Pv Pw b,u,PA Pz 0 0]) h):
  Lft.step PE (.build T.ep #[(0,x),(1,y),(2,z)]) ty us h K:=
 ay (z:=.agg #[Pv Pw 0,Pv Pw 0,PA Pz 0 0,PA Pz 0 0]) (places:=[(0,1),(1,1),(2,1),(3,1)]) (vs:=[(0,Pv Pw a),(1,Pv Pw b),(2,u)]) (cs:=#[Pv Pw a,Pv Pw b,u,PA Pz 0 0]) P1 P1 (by simp[hx,hy,hz])
  (by simp[Instr.fill,hu]) hk
theorem DR{po:OP}{ty:TypeId}{us:List (Nat × Value)}{h:Heap}{K:Value->Heap->Prop}{x y w:Operand}{a b:Int}{q:Value}(hx:asg us x = Pv Pw a)(hy:asg us y = Pv Pw b)(hw:asg us w=q)(hq:q.cells = #[q])(hk:K (.agg #[Pv Pw a,Pv Pw b,PA Pz 0 0,q]) h):
  Lft.step PE (.build T.ep #[(0,x),(1,y),(3,w)]) ty us h K:=
 ay (z:=.agg #[Pv Pw 0,Pv Pw 0,PA Pz 0 0,PA Pz 0 0]) (places:=[(0,1),(1,1),(2,1),(3,1)]) (vs:=[(0,Pv Pw a),(1,Pv Pw b),(3,q)]) (cs:=#[Pv Pw a,Pv Pw b,PA Pz 0 0,q]) P1 P1 (by simp[hx,hy,hw])
  (by simp[Instr.fill,hq]) hk
theorem yl{f:aj}{v:Value}{V:View}{h:Heap}(hv:Rd V v f)(hV:V.le (vw h))(hsm:SmF f):
  az PE 91 #[v] h (λu h'=>(vw h).le (vw h')/\SlRd (grow V h h') u (aD f)):=by
 refine au (args:=[v]) follows Tryz.func91 E.bg Pp λK hK=>?_;have hn:=hsm.len;dsimp only[L.bg,lkF,lkG];refine ab λz hz=>?_;simp;refine dm (v:=v) rfl ?_;have hle1:=bQ h (.cells v.cells T.dR);have hat1:At (grow V h (h.push (.cells v.cells T.dR))) ⟨h.size,0,Pz⟩ f:=qC (t:=T.dR) (fz:=(0,0)) (by rw[cU (Lp _)];simp) (hv.mono (bW hV));have hs1:(h.push (.cells v.cells T.dR)).size=h.size+1:=by simp
 generalize h.push (.cells v.cells T.dR)=h1 at hle1 hat1 hs1;have hW1:(grow V h h1).le (vw h1):=jt (Pt hV hle1);have old1:Old V h (grow V h h1):=(Old.refl V h).grow (Lp _);obtain⟨_,vb,cb⟩:=jx hat1;generalize grow V h h1=W1 at cb hW1 old1;generalize h.size=B at cb;subst hz;refine ab λz hz=>?_;simp;refine rB (α:=Th) El.gi λh2 hle2 hsz2 own2=>?_;have t2:ThS V h (PA (Py ⟨h1.size,0,Pz⟩) 0 0) [] W1 h2:=⟨((Owns.start hW1).add (k:=(0,0)) rfl (own2 _) hle2 (λb hb=>by simp only[Value.ownBlock,Ln]at hb;omega)).congr λq=>by
   unfold oE Own.upd;repeat' split
   all_goals first | rfl | simp_all,old1,Pt hle1 hle2,λb hb=>by cases hb;exact View.cz Ps (by show h.size<=h1.size;omega)⟩;generalize PA (Py ⟨h1.size,0,Pz⟩) 0 0=v0 at t2;subst hz;refine ab λz hz=>?_;simp
 refine cT [1,3,4] (fun(r:Value) b=>[PB (Py ⟨B,0,Pz⟩),r,Pv Pw b]) (λr b h3=>∃W,W1.le W/\ThS V h r (thTo f b) W h3) f.blocks.length v0
  rfl P2 rfl ⟨W1,View.le_refl _,t2⟩ (λ_ _=>rfl) (λv k h3 hk ⟨W,q1,q2⟩=>by simp[ae (Pt q1 q2.own.wle) cb.1,(cb.2.mono (Pt q1 q2.own.wle)).len]) ?_ ?_
 ·rintro r b h3 hltb ⟨W3,hW3,t3⟩ K2 hK2;have hl3:=vY hsm (n:=b) P2;have cb3:=cb.2.mono (Pt hW3 t3.own.wle);have cc3:=ae (Pt hW3 t3.own.wle) cb.1;obtain⟨u,hu,hur⟩:=(cb.2.mono hW3).wh rfl (N:=6) rfl hltb;have sb:=hsm.blk b hltb;refine ab λy hy=>?_;simp(disch:=omega)[cc3,cb3.idxn (N:=6) rfl,hu _ t3.own.wle];refine dz (X:=W3) (z:=.agg #[PA Pz 0 0,PA Pz 0 0,Pv Pw 0,PA Pz 0 0,PA Pz 0 0,Pv Px 0]) P1 rfl P1 hur P5 P5 λh4 hle4 hsz4 hat4=>?_;have t4:=t3.ext hle4;have hat4':=hat4 (grow W3 h3 h4) (bW t3.own.wle) (cU (Lp _));obtain⟨vp,vi,va,vt,bp,bi,bk,ba,bt⟩:=jW hat4';have hW4:=Pt hW3 (bW (h':=h4) t3.own.wle);generalize grow W3 h3 h4=W4 at t4 bp bi bk ba bt hW4;generalize h3.size=D at bp bi bk ba bt;subst hy;refine ab λy hy=>?_;simp;have sp:=sb.phis;refine cT [1,3,4,5,6] (fun(r:Value) i=>[PB (Py ⟨B,0,Pz⟩),r,Pv Pw b,PB (Py ⟨D,0,Pz⟩),Pv Pw i]) (λr i h5=>∃W,W4.le W/\ThS V h r (thTo f b++rows (phiT f b) i) W h5) (nth f.blocks b).phis.length r
   rfl P2 rfl ⟨W4,View.le_refl _,by simpa using t4⟩ (λ_ _=>rfl) (λv k h3 hk ⟨W,q1,q2⟩=>by simp[ae (Pt q1 q2.own.wle) bp.1,(bp.2.mono (Pt q1 q2.own.wle)).len]) ?_ ?_
  ·rintro r i h5 hlti ⟨W5,hW5,t5⟩ K3 hK3;have bp5:=bp.2.mono hW5;have bph:=bp5.mono t5.own.wle;have cph:=ae (Pt hW5 t5.own.wle) bp.1;have hap:=(bp5.at hlti);rw[<-aA hlti]at hap;have hdst:ak W5 (((slA vp).add (i*2)).add 0)=Py (Pv Pw (nth (nth f.blocks b).phis i).dst):=(hap.part PhiD.gJ).int;have hdr:=(hap.part PhiD.gJ).rng;obtain⟨vq,hvq⟩:=(hap.part PhiD.mw).sl;have hvq1:ak W5 (((slA vp).add (i*2)).add 1)=Py vq:=hvq.1;have hvq2:=hvq.2;have hpl:=sb.phi i hlti;have hpt:phiT f b i=⟨b,-1-i,[(nth (nth f.blocks b).phis i).dst],(nth (nth f.blocks b).phis i).ins.map InD.val⟩:=rfl;generalize nth (nth f.blocks b).phis i=x at hdst hdr hvq2 hpl hpt;refine ab λq hq=>?_;simp(disch:=omega)[cph,bph.idxn (N:=2) rfl,ae t5.own.wle hdst];refine kO (X:=nothing) (ds:=[x.dst]) (vs:=[Pv Pw x.dst]) rfl El.aR Sa ⟨bn.2 ⟨rfl,hdr⟩,trivial⟩ bE rfl P2 λu6 h6 hle6 hsz6 hu6 hub6=>?_;have hu6n:=hu6 (vw h6) bE rfl;refine Dk rfl rfl rfl hu6n.cells.1 ?_;simp;refine gk (n:=4) (v:=.agg #[Pv Pw b,Pv Pw (-1-i),u6,PA Pz 0 0]) (z:=.agg #[Pv Pw 0,Pv Pw 0,PA Pz 0 0,PA Pz 0 0]) P1 rfl P1 rfl (by intro c hc;simp at hc;rcases hc with rfl | rfl | rfl | rfl<;>first | rfl | exact hu6n.cells.2) P5 P5 λh7 hle7 hsz7 hb7=>?_;have w6:=t5.own.ext hle6;have w7:=(w6.add (k:=(1,0)) rfl (jy (h:=h7) (d:=ThR.mk b (-1-i) [x.dst] ⟨PA Pz 0 0⟩) hb7 (Jg P6 P6 (hu6 _ bE (cU (Lp _))) rfl) P4) hle7 (λb hb=>by simp only[Value.ownBlock,Ln]at hb;omega)).add (k:=(1,1)) rfl (OwnT.nil (α:=Int) _ h7 T.int) Ps (λb hb=>by simp[Value.ownBlock]at hb);have w7:Owns (grow W5 h5 h6) h7 (tN r (thTo f b++rows (phiT f b) i) h6.size (ThR.mk b (-1-i) [x.dst] ⟨PA Pz 0 0⟩) (PA Pz 0 0) []):=w7.congr λq=>by
    unfold tN oE Own.upd;repeat' split
    all_goals first | rfl | simp_all
   have hW7:=Pt hW5 (bW (h':=h6) t5.own.wle);have old7:=t5.old.grow (h1:=h5) (h2:=h6) (bY t5.le);have hle07:=Pt t5.le (Pt hle6 hle7);have hvq7:=hvq2.mono (bW (h':=h6) t5.own.wle);have cvq7:=ae (bW (h':=h6) t5.own.wle) hvq1;generalize grow W5 h5 h6=W7 at w7 hW7 old7 hvq7 cvq7;have hD7:h.size<=h6.size:=LG (bY t5.le) (bY hle6);generalize h6.size=D7 at w7 hD7;subst hq;refine ab λq hq=>?_;simp;refine cT [1,3,4,5,6,7,8] (fun(q:Value) j=>[PB (Py ⟨B,0,Pz⟩),r,Pv Pw b,PB (Py ⟨D,0,Pz⟩),Pv Pw i,PB (Py ⟨D7,0,Pz⟩),Pv Pw j])
    (λq j h8=>Owns W7 h8 (tN r (thTo f b++rows (phiT f b) i) D7 (ThR.mk b (-1-i) [x.dst] ⟨q⟩) q ((x.ins.map InD.val).take j))/\(vw h).le (vw h8)/\Av (vw h) q) x.ins.length (PA Pz 0 0)
    rfl P2 rfl ⟨w7,hle07,Av.nil _ _ _⟩ (λ_ _=>rfl) (λv k h8 hk ⟨w8,q2⟩=>by have bp8:=(bp.2.mono hW7).mono w8.wle;simp(disch:=omega)[ae (Pt hW7 w8.wle) bp.1,bp8.idxn (N:=2) rfl,ae w8.wle cvq7,(hvq7.mono w8.wle).len]) ?_ ?_
   ·rintro q8 j h8 hltj ⟨w8,hle08,av8⟩ K4 hK4;have bp8:=(bp.2.mono hW7).mono w8.wle;have hv8:=hvq7.mono w8.wle;have hai:=(hvq7.at hltj);rw[<-aA hltj]at hai;have hval:ak W7 (((slA vq).add (j*2)).add 1)=Py (Pv Pw (nth x.ins j).val):=(hai.part InD.BM).int;have hvr:=(hai.part InD.BM).rng;have hl8:((x.ins.map InD.val).take j).length=j:=by simp;omega
    have htk:(x.ins.map InD.val).take (j+1)=(x.ins.map InD.val).take j++[(nth x.ins j).val]:=by rw[OZ,Nl,LZ hltj,aA hltj];rfl
    have hq8:ak (vw h8) ⟨D7,3,Pz⟩=Py q8:=by have:=((w8.at (k:=(1,0)) (e:=T.ep) (B:=D7) (d:=ThR.mk b (-1-i) [x.dst] ⟨q8⟩) rfl).part ThR.HJ).raw;simpa using this
    refine aT (vw h8) Ps ?_;simp(disch:=omega)[hq8,ae (Pt hW7 w8.wle) bp.1,bp8.idxn (N:=2) rfl,ae w8.wle cvq7,hv8.idxn (N:=2) rfl,ae w8.wle hval];refine mC (α:=Int) (W:=W7) El.aR rfl (bn.2 ⟨rfl,hvr⟩) λu9 h9 hs9 hle9 hsz9=>⟨hle9,?_⟩;refine(w8.ext' hle9).df (k:=(1,1)) (α:=Int) (v:=q8) (l:=(x.ins.map InD.val).take j) rfl El.aR rfl rfl hs9 P9 P9 λq10 h10 w10 m10=>?_;have hc10:=w10.cells (k:=(1,1)) (Own.ao);obtain⟨hX10,av10⟩:=m10.view (Pt hle08 hle9) av8;refine w10.pz (k:=(1,0)) (e:=T.ep) (B:=D7) (D:=ThR.mk b (-1-i) [x.dst] ⟨q8⟩) ThR.HJ (d:=⟨q10⟩) rfl P1 rfl rfl (mE.2 ⟨rfl,hc10.2⟩) λh11 w11 hX11=>?_;refine hK4 q10 _ _ rfl rfl ⟨w11.congr λp=>?_,hX11 _ hX10 (View.cz Ps hD7),av10⟩;rw[htk];unfold tN Own.upd;repeat' split
    all_goals first | rfl | simp_all
   rintro q8 h8 ⟨w8,hle08,av8⟩;rw[Lw Sa]at w8;simp;subst hq;obtain⟨cs,hcs,hrd⟩:=w8.atW (k:=(1,0)) (e:=T.ep) (B:=D7) (d:=ThR.mk b (-1-i) [x.dst] ⟨q8⟩) rfl;obtain⟨u9,rfl,i1,i2,hu9⟩:=Du hrd;obtain⟨w9,hq9⟩:=w8.freeze (k:=(1,1)) (v:=q8) (l:=x.ins.map InD.val) rfl;have hpl9:W7.le (W7.plus q8 h8):=jm (w8.av (1,1) _ rfl);have hload:Un.ev (vw h8) (.bU 4) (PB (Py ⟨D7,0,Pz⟩))=Py (.agg #[Pv Pw b,Pv Pw (-1-i),u9,q8]):=by have:=fK hcs 4 0 #[] Ri;simp[Un.ev,vP,this]
   have hold9:Old V h (W7.plus q8 h8):=λc o hc hco=>by
    unfold View.plus at hco;split at hco
    ·rename_i e;have:=av8 c e;simp only[vw]at this;rw[LI hc]at this;cases this
    exact old7 c o hc hco
   have w9:Owns (W7.plus q8 h8) h8 (oE r (thTo f b++rows (phiT f b) i)):=w9.sub λp x hp=>by
    unfold oE at hp;split at hp
    ·rename_i e;subst e;exact hp
    cases hp
   have hlr:(thTo f b++rows (phiT f b) i).length=(thTo f b).length+i:=by simp
   simp[hload];refine w9.uL (k:=(0,0)) (α:=Th) (v:=r) (l:=thTo f b++rows (phiT f b) i) (d:=phiT f b i) rfl El.gi rfl (by rw[hpt];exact Fv i1 i2 (hu9.mono hpl9) hq9) P2 P2 (λ_=>rfl) (λ_=>rfl) λu10 r10 h10 w10 hX10=>?_;obtain⟨g1,g2⟩:=hX10 _ hle08 t5.av;refine hK3 r10 _ _ rfl rfl ⟨W7.plus q8 h8,Pt hW7 hpl9,⟨w10.congr λp=>?_,hold9,g1,g2⟩⟩;rw[eu,<-List.append_assoc];unfold oE Own.upd;repeat' split
   all_goals first | rfl | simp_all
  rintro r h5 ⟨W5,hW5,t5⟩;simp;subst hy;refine ab λy hy=>?_;simp;have si:=sb.ins;refine cT [1,3,4,5,9] (fun(r:Value) i=>[PB (Py ⟨B,0,Pz⟩),r,Pv Pw b,PB (Py ⟨D,0,Pz⟩),Pv Pw i]) (λr i h6=>∃W,W4.le W/\ThS V h r (thTo f b++rows (phiT f b) (nth f.blocks b).phis.length++rows (insT f b) i) W h6) (nth f.blocks b).ins.length r
   rfl P2 rfl ⟨W5,hW5,by simpa using t5⟩ (λ_ _=>rfl) (λv k h3 hk ⟨W,q1,q2⟩=>by simp[ae (Pt q1 q2.own.wle) bi.1,(bi.2.mono (Pt q1 q2.own.wle)).len]) ?_ ?_
  ·rintro r i h6 hlti ⟨W6,hW6,t6⟩ K3 hK3;have bi6:=bi.2.mono hW6;have bih:=bi6.mono t6.own.wle;have cih:=ae (Pt hW6 t6.own.wle) bi.1;obtain⟨ux,hux,huxr⟩:=bi6.wh rfl (N:=5) rfl hlti;have hap:=(bi6.at hlti);rw[<-aA hlti]at hap;obtain⟨vq,hvq⟩:=(hap.part InsD.dI).sl;have hvq1:ak W6 (((slA vi).add (i*5)).add 3)=Py vq:=hvq.1;have hvq2:=hvq.2;have hpt:insT f b i=⟨b,i,cr (nth (nth f.blocks b).ins i),(nth (nth f.blocks b).ins i).args⟩:=rfl;generalize nth (nth f.blocks b).ins i=x at hvq2 huxr hpt;have hlr:(thTo f b++rows (phiT f b) (nth f.blocks b).phis.length++rows (insT f b) i).length=(thTo f b).length+(nth f.blocks b).phis.length+i:=by simp;omega
   refine aT (vw h6) Ps ?_;simp(disch:=omega)[cih,bih.idxn (N:=5) rfl,hux _ t6.own.wle,ae t6.own.wle hvq1];refine af P1 (oq (huxr.mono t6.own.wle)) ?_;rintro u7 h7 ⟨hle7,hu7,_⟩;refine⟨hle7,?_⟩;have t7:=t6.ext hle7;have hu7':=hu7.mono (iU W6 h6 h7);have hvq7:=hvq2.mono (bW (h':=h7) t6.own.wle);refine ER rfl rfl rfl rfl hu7.cells.1 hvq2.cells.1 ?_;simp;refine t7.own.uL (k:=(0,0)) (α:=Th) (v:=r) (l:=thTo f b++rows (phiT f b) (nth f.blocks b).phis.length++rows (insT f b) i) (d:=insT f b i) rfl El.gi rfl (by rw[hpt];exact Fv P6 P6 hu7' hvq7) P2 P2 (λ_=>rfl) (λ_=>rfl) λu10 r10 h10 w10 hX10=>?_;obtain⟨g1,g2⟩:=hX10 _ t7.le t7.av;refine hK3 r10 _ _ rfl rfl ⟨_,Pt hW6 (bW (h':=h7) t6.own.wle),⟨w10.congr λp=>?_,t7.old,g1,g2⟩⟩;rw[eu,<-List.append_assoc];unfold oE Own.upd;repeat' split
   all_goals first | rfl | simp_all
  rintro r h6 ⟨W6,hW6,t6⟩;simp;subst hy;have hW6h:=Pt hW6 t6.own.wle;have bih:=bi.2.mono hW6h;have cih:=ae hW6h bi.1;have hlr:(thTo f b++rows (phiT f b) (nth f.blocks b).phis.length++rows (insT f b) (nth f.blocks b).ins.length).length=(thTo f b).length+(nth f.blocks b).phis.length+(nth f.blocks b).ins.length:=by simp;omega
  simp[cih,bih.len,ae hW6h ba.1];refine DR rfl rfl rfl (ba.2.cells.1) ?_;simp;refine t6.own.uL (k:=(0,0)) (α:=Th) (v:=r) (l:=thTo f b++rows (phiT f b) (nth f.blocks b).phis.length++rows (insT f b) (nth f.blocks b).ins.length) (d:=endT f b) rfl El.gi rfl (Fv P6 P6 aN (ba.2.mono hW6)) P2 P2 (λ_=>rfl) (λ_=>rfl) λu10 r10 h10 w10 hX10=>?_;obtain⟨g1,g2⟩:=hX10 _ t6.le t6.av;refine hK2 r10 _ _ rfl rfl ⟨_,Pt hW4 hW6,⟨w10.congr λp=>?_,t6.old,g1,g2⟩⟩;have e:thTo f (b+1)=thTo f b++rows (phiT f b) (nth f.blocks b).phis.length++rows (insT f b) (nth f.blocks b).ins.length++[endT f b]:=by rw[fY,thB];simp[LB]
  rw[e];unfold oE Own.upd;repeat' split
  all_goals first | rfl | simp_all
 rintro r h3 ⟨W3,hW3,t3⟩;simp;subst hz;simp;exact hK _ _ ⟨t3.le,(t3.own.get (k:=(0,0)) (v:=r) (l:=thTo f f.blocks.length) rfl).rd (t3.old.le t3.own.wle) λb hb=>by
  have:=t3.av b hb;rw[cU];rcases Lr b h.size with hlt | hge
  ·simp[vw,hlt]at this
  exact hge⟩
structure GotD where
 e:Int
 b:Int
 p:Int
instance:Rep GotD:=Rep.via λd=>Cat.mk d.e (Cat.mk d.b d.p)
abbrev BL:=List Bool
def oW (t:Th) (j:Nat) (m:BL):Except Tr BL:=if nth m (nth t.mks j).toNat then .error (12,t.blk,t.place) else .ok (m.set (nth t.mks j).toNat PC)
def gC (f:aj) (t:Th):BlkD:=nth f.blocks t.blk.toNat
def y9 (f:aj) (t:Th):InsD:=nth (gC f t).ins t.place.toNat
def qK (f:aj) (t:Th):Bool:=decide (0<=t.place)&&decide (t.place<(gC f t).ins.length)
def mz (f:aj) (t:Th):Bool:=decide (t.place=(gC f t).ins.length)
def uJ (s:InsD):Bool:=decide (s.op<1)||decide (18<s.op)||!yM s.op s.args.length
def mB (f:aj) (n:Int):Bool:=decide (n<f.params)||decide (8191<n)
def uP (f:aj) (n:Int):Bool:=decide (n<1)||decide ((f.blocks.length:Int)<=n)
def nk (f:aj) (t:Th):Except Tr BL->Except Tr BL
 | .error e=>.error e
 | .ok m'=>if mz f t&&(gC f t).term.to.any (uP f) then .error (14,t.blk,t.place) else .ok m'
def ir (f:aj) (t:Th) (m:BL):Except Tr BL:=
 if qK f t&&uJ (y9 f t) then .error (10,t.blk,t.place)
 else if mz f t&&!s9 (gC f t).term then .error (10,t.blk,t.place)
 else if t.mks.any (mB f) then .error (11,t.blk,t.place)
 else nk f t (upE (oW t) t.mks.length m)
def jL (f:aj):Except Tr BL:=upE (λi m=>ir f (nth (aD f) i) m) (aD f).length (List.replicate 8192 PD)
def wS {α:Type}:Except Tr α->Tr | .ok _=>(0,0,0) | .error t=>t
def noTh:Th:=⟨-1,0,[],[]⟩
def eS (t:Th) (l:List Th) (n:Int):List Th:=if 0<=n/\n<8192 then l.set n.toNat t else l
def qx (l:List Th) (t:Th):List Th:=t.mks.foldl (eS t) l
def yQ (ts:List Th):List Th:=ts.foldl qx (List.replicate 8192 noTh)
variable{n:Int}
theorem nj{t:Th}{l:List Th}:(eS t l n).length=l.length:=by unfold eS;split<;>simp
theorem BB{t:Th}{l:List Th}:(qx l t).length=l.length:=pA (f:=eS t) (λx:List Th=>x.length=l.length) (λ_ _ h=>nj.trans h) _ _ rfl
theorem AU{ts:List Th}:(yQ ts).length=8192:=pA (f:=qx) (λx:List Th=>x.length=8192) (λ_ _ h=>BB.trans h) _ _ (MC ..)
def gY (f:aj) (made:List Th) (away:List BL) (v blk place:Int):Bool:=
 if 0<=v/\v<f.params then PC
 else if(v<0\/8191<v)\/(nth made v.toNat).blk<0 then PD
 else if(nth made v.toNat).blk=blk then decide ((nth made v.toNat).place<0)||decide ((nth made v.toNat).place<place)
 else !nth (nth away (nth made v.toNat).blk.toNat) blk.toNat
def pS (f:aj) (t:Th):PhiD:=nth (gC f t).phis (-1-t.place).toNat
def Ba (f:aj) (b:Int):Int:=((nth f.blocks b.toNat).ins.length:Nat)
def qP (f:aj) (t:Th):Bool:=decide (0<t.blk)&&decide ((pS f t).ins.map InD.frm=cG f t.blk)
def stT (f:aj) (made:List Th) (away:List BL) (t:Th) (x:Int):Bool:=!gY f made away x t.blk t.place
def stP (f:aj) (made:List Th) (away:List BL) (p:InD):Bool:=!gY f made away p.val p.frm (Ba f p.frm)
def fL (f:aj) (made:List Th) (away:List BL) (t:Th):Except Tr Unit:=
 if 0<=t.place then(if t.tks.any (stT f made away t) then .error (13,t.blk,t.place) else .ok ())
 else if !qP f t then .error (16,t.blk,t.place)
 else if(pS f t).ins.any (stP f made away) then .error (13,t.blk,t.place)
 else .ok ()
def ix (f:aj):List Th:=yQ (aD f)
def gr (f:aj):List BL:=rows (λb=>dO f b) f.blocks.length
def wC (f:aj):Nat->Nat
 | 0=>f.blocks.length
 | n+1=>wC f n+(nth f.blocks n).phis.length+(nth f.blocks n).ins.length
def wayE (f:aj):Except Tr Unit:=upE (λb _=>if nth (dO f (-1)) b=PC then .ok () else .error (15,b,0)) f.blocks.length ()
def Ah (f:aj):Except Tr Unit:=upE (λi _=>fL f (ix f) (gr f) (nth (aD f) i)) (aD f).length ()
def J3:Except Tr Unit->Except Tr Unit->Except Tr Unit
 | .ok _,y=>y
 | .error e,_=>.error e
def uS (f:aj):Tr:=
 if f.params<0\/4<f.params then(1,0,0)
 else if f.blocks.length=0 then(14,0,0)
 else if 512<f.blocks.length\/4096<wC f f.blocks.length then(2,0,0)
 else if(wS (jL f)).1≠0 then wS (jL f)
 else wS (J3 (wayE f) (Ah f))
theorem oT {σ ε:Type} {f:Nat->σ->Except ε σ} {s:σ} {t:ε} : ∀{n:Nat},upE f n s = .error t->∃k s',k<n/\upE f k s = .ok s'/\f k s' = .error t
 | n+1,h=>by
  simp only[upE]at h;split at h
  ·rename_i s' hs;exact⟨n,s',Nat.lt_succ_self n,hs,h⟩
  rename_i t' ht;cases h;obtain⟨k,s',h1,h2⟩:=oT ht;exact⟨k,s',Nat.lt_succ_of_lt h1,h2⟩
theorem tu{f:aj}{t:Th}{m:BL}{e:Tr}(h:ir f t m = .error e):(10<=e.1/\e.1<=14)/\e.2.1=t.blk/\e.2.2=t.place:=by
 unfold ir at h;split at h
 ·cases h;simp
 split at h
 ·cases h;simp
 split at h
 ·cases h;simp
 unfold nk at h;split at h
 ·rename_i e' he;cases h;obtain⟨k,s',_,_,h3⟩:=oT he;unfold oW at h3;split at h3
  ·cases h3;simp
  cases h3
 split at h
 ·cases h;simp
 cases h
theorem Dn(hn:0<=n){ts:List Th}(h : ∀t∈ts,t.blk<n){i:Nat}(hi:i<8192):(nth (yQ ts) i).blk<n:=by
 have key : ∀(ts:List Th),(∀t∈ts,t.blk<n)->∀l:List Th,(∀x∈l,x.blk<n)->∀x∈ts.foldl qx l,x.blk<n:=by
  intro ts;induction ts with
  | nil=>exact λ_ l hl=>hl
  | cons t ts ih=>
   intro ht l hl;refine ih (λx hx=>ht x (LA _ hx)) _ ?_;refine pA (f:=eS t) (λl:List Th=>∀x∈l,x.blk<n) (λl a hl x hx=>?_) _ _ hl;unfold eS at hx;split at hx
   ·rcases NP hx with h | rfl
    ·exact hl x h
    exact ht _ Lz
   exact hl x hx
 refine key ts h _ (λx hx=>?_) _ (bC (by show i<(yQ ts).length;rw[AU];exact hi));rw[(List.mem_replicate.1 hx).2];show(-1:Int)<n;omega
theorem iQ{σ ε:Type}{f:σ->α->Except ε σ}{a b:List α}{s:σ}:(a++b).foldlM f s=(match a.foldlM f s with | .ok s'=>b.foldlM f s' | .error e=>.error e):=by rw[OQ];cases a.foldlM f s<;>rfl
theorem qv{σ ε:Type}{f:σ->α->Except ε σ}{a:α}{s:σ}:[a].foldlM f s=f s a:=by rw[MU];cases f s a<;>rfl
theorem mV {σ α ε:Type} {g:Nat->σ->Except ε σ} {f:σ->α->Except ε σ} {x:Nat->α} {s:σ} : ∀{n:Nat},(∀i s,i<n->g i s=f s (x i))->upE g n s=(rows x n).foldlM f s
 | 0,_=>rfl
 | n+1,h=>by
  have ih:=mV (n:=n) (s:=s) λi s hi=>h i s P2;rw[eu,iQ,<-ih];simp only[upE];cases upE g n s with
  | ok s'=>show g n s'=[x n].foldlM f s';rw[qv];exact h n s' P2
  | error e=>rfl
theorem oI{σ ε:Type}[Inhabited α]{f:σ->α->Except ε σ}{l:List α}{s:σ}:upE (λi s=>f s (nth l i)) l.length s=l.foldlM f s:=by rw[mV (f:=f) (x:=nth l) λ_ _ _=>rfl];congr 1;refine M7 Sa λi h1 h2=>?_;simp[rows,aA h2]
def km (f:aj) (m:MW) (t:Th):Except Tr MW:=
 if t.place<0 then allS f.params t.mks t.blk t.place m
 else if t.place<(gC f t).ins.length then insS f.params t.blk (gC f t) t.place.toNat m
 else endS f.blocks.length t.blk (gC f t) m
theorem sT{f:aj}{i:Nat}{m:MW}:km f m (phiT f b i)=phiS f.params b (nth f.blocks b) i m:=by unfold km;rw[if_pos (show(phiT f b i).place<0 by show -1-(i:Int)<0;omega)];rfl
theorem rP{f:aj}{i:Nat}{m:MW}(hi:i<(nth f.blocks b).ins.length):km f m (insT f b i)=insS f.params b (nth f.blocks b) i m:=by unfold km;rw[if_neg (show ¬(insT f b i).place<0 by show ¬(i:Int)<0;omega),if_pos (show(insT f b i).place<((gC f (insT f b i)).ins.length:Int) by show(i:Int)<((nth f.blocks b).ins.length:Int);omega)];rfl
theorem sO{f:aj}{m:MW}:km f m (endT f b)=endS f.blocks.length b (nth f.blocks b) m:=by unfold km;rw[if_neg (show ¬(endT f b).place<0 by show ¬((nth f.blocks b).ins.length:Int)<0;omega),if_neg (show ¬(endT f b).place<((gC f (endT f b)).ins.length:Int) by show ¬((nth f.blocks b).ins.length:Int)<((nth f.blocks b).ins.length:Int);omega)];rfl
theorem FK{f:aj}{m:MW}:blkS f b m=(thB f b).foldlM (km f) m:=by
 unfold blkS thB;rw[mV (f:=km f) (x:=phiT f b) (n:=(nth f.blocks b).phis.length) λi s hi=>sT.symm];rw[iQ,iQ];cases (rows (phiT f b) (nth f.blocks b).phis.length).foldlM (km f) m with
 | error e=>rfl
 | ok m1=>
  simp only;rw[mV (f:=km f) (x:=insT f b) (n:=(nth f.blocks b).ins.length) λi s hi=>(rP hi).symm];cases (rows (insT f b) (nth f.blocks b).ins.length).foldlM (km f) m1 with
  | error e=>rfl
  | ok m2=>simp only;rw[qv];exact sO.symm
theorem uD{f:aj}{m:MW}:lj f m=(aD f).foldlM (km f) m:=by
 have key : ∀n,upE (blkS f) n m=(thTo f n).foldlM (km f) m:=by
  intro n;induction n with
  | zero=>rfl
  | succ n ih=>
   rw[fY,iQ,<-ih];simp only[upE];cases upE (blkS f) n m with
   | error e=>rfl
   | ok s=>exact FK
 exact key _
theorem pT{f:aj}:jL f=(aD f).foldlM (λm t=>ir f t m) (List.replicate 8192 PD):=oI (f:=fun(m:BL) (t:Th)=>ir f t m)
def tf (m:MW) (l:BL):Prop:=l.length=8192/\∀n:Int,0<=n->n<8192->(m n).isSome=nth l n.toNat
def Alike {α β:Type} (R:α->β->Prop):Except Tr α->Except Tr β->Prop
 | .ok a,.ok b=>R a b
 | .error e,.error e'=>e=e'
 | _,_=>False
theorem qD {α β γ:Type} {R:α->β->Prop} {F:α->γ->Except Tr α} {G:β->γ->Except Tr β} : ∀{l:List γ},(∀t∈l,∀a b,R a b->Alike R (F a t) (G b t))->∀{a:α} {b:β},R a b->Alike R (l.foldlM F a) (l.foldlM G b)
 | [],_,a,b,h=>h
 | t::l,hs,a,b,h=>by
  rw[MU,MU];have:=hs t Lz a b h;cases e1:F a t with
  | error e=>
   cases e2:G b t with
   | error e'=>rw[e1,e2]at this;exact this
   | ok b'=>rw[e1,e2]at this;exact this.elim
  | ok a'=>
   cases e2:G b t with
   | error e'=>rw[e1,e2]at this;exact this.elim
   | ok b'=>rw[e1,e2]at this;exact qD (λt ht=>hs t (LA _ ht)) this
theorem Dh{f:aj}:bZ n f.params 8191=!mB f n:=by rw[LV];simp[bZ,mB]
theorem Cq{p:α->Bool}{l:List α}:l.all (λn=>!p n)=!l.any p:=by
 induction l with
 | nil=>rfl
 | cons a l ih=>simp[ih]
def lQ (t:Th) (m:BL) (n:Int):Except Tr BL:=if nth m n.toNat then .error (12,t.blk,t.place) else .ok (m.set n.toNat PC)
theorem CU{f:aj}{t:Th}{m:MW}{l:BL}(h:tf m l)(hp:0<=f.params)(hn : ∀n∈t.mks,mB f n=PD):Alike tf (t.mks.foldlM (pP t.blk t.place) m) (upE (oW t) t.mks.length l):=by
 have e:upE (oW t) t.mks.length l=t.mks.foldlM (lQ t) l:=oI (f:=lQ t);rw[e];refine qD (λn hnm m l h=>?_) h;have hb:=hn n hnm;simp only[mB,MT,decide_eq_false_iff_not]at hb;have hs:=h.2 n P2 P2;unfold pP lQ;rw[hs];cases hc:nth l n.toNat with
 | true=>exact rfl
 | false=>
  refine⟨by simpa using h.1,λk h0 h1=>?_⟩;rw[bz (by rw[h.1];omega)];simp only[putM];by_cases hk:k=n
  ·subst hk;simp
  rw[if_neg hk,if_neg P2];exact h.2 k h0 h1
theorem xA{f:aj}{t:Th}{m:MW}{l:BL}(h:tf m l)(hp:0<=f.params):
  Alike tf (allS f.params t.mks t.blk t.place m) (if t.mks.any (mB f) then .error (11,t.blk,t.place) else upE (oW t) t.mks.length l):=by
 unfold allS;have e:(t.mks.all λn=>bZ n f.params 8191)=!t.mks.any (mB f):=by rw[<-Cq];congr 1;funext n;exact Dh
 rw[e];cases hb:t.mks.any (mB f)with
 | true=>exact rfl
 | false=>refine CU h hp λn hn=>?_;rw[NF];intro e2;rw[NF]at hb;exact hb (Ow.2 ⟨n,hn,e2⟩)
theorem GV{x:InsD}:(bZ x.op 1 18&&bZ x.args.length (fm x.op).1 (fm x.op).2)=!uJ x:=by
 rw[LV];simp only[uJ,bZ,fm,yM,Lt,M3,MT,decide_eq_true_eq,decide_eq_false_iff_not,Bool.not_eq_false'];by_cases h1:x.op=1
 ·simp[h1]
 by_cases h2:x.op=15
 ·simp[h2];omega
 by_cases h3:x.op=17
 ·simp[h3]
 simp only[h1,h2,h3,if_false,decide_eq_true_eq];omega
theorem GK{f:aj}:bZ n 1 ((f.blocks.length:Int)-1)=!uP f n:=by rw[LV];simp[bZ,uP];omega
theorem Dv{t:cM}:n7 t=s9 t:=by
 unfold n7 s9 fk;by_cases h1:t.kind=1
 ·rw[LV];simp[putM,h1,bZ];omega
 by_cases h2:t.kind=2
 ·rw[LV];simp[putM,h2,bZ];omega
 by_cases h3:t.kind=3
 ·rw[LV];simp[putM,h3,bZ];omega
 by_cases h4:t.kind=4
 ·rw[LV];simp[putM,h4,bZ]
 by_cases h5:t.kind=5
 ·rw[LV];simp[putM,h5,bZ]
 simp[putM,h1,h2,h3,h4,h5]
theorem td{f:aj}{t:Th}{x:Except Tr BL}(h:mz f t=PD):nk f t x=x:=by
 unfold nk;cases x with
 | error e=>rfl
 | ok m=>simp only[h,Pl];rfl
theorem Dd{f:aj}{t:Th}(ht:t∈aD f)(hp:0<=f.params){m:MW}{l:BL}(h:tf m l):Alike tf (km f m t) (ir f t l):=by
 obtain⟨b,hb,ht⟩:=iA.1 ht;rcases j9.1 ht with⟨i,hi,rfl⟩ | ⟨i,hi,rfl⟩ | rfl
 ·have e1:qK f (phiT f b i)=false:=by simp[qK,phiT];omega
  have e2:mz f (phiT f b i)=false:=by show decide (-1-(i:Int)=((nth f.blocks b).ins.length:Int))=PD;rw[decide_eq_false_iff_not];omega
  rw[sT,ir,e1,e2,td e2];exact xA (t:=phiT f b i) h hp
 ·have e1:qK f (insT f b i)=true:=by simp[qK,insT,gC];omega
  have e2:mz f (insT f b i)=false:=by show decide ((i:Int)=((nth f.blocks b).ins.length:Int))=PD;rw[decide_eq_false_iff_not];omega
  have e3:y9 f (insT f b i)=nth (nth f.blocks b).ins i:=by simp[y9,gC,insT]
  rw[rP hi,ir,e1,e2,td e2,e3,insS,GV];cases hb:uJ (nth (nth f.blocks b).ins i)with
  | true=>exact rfl
  | false=>exact xA (t:=insT f b i) h hp
 have e1:qK f (endT f b)=false:=by simp[qK,endT,gC]
 have e2:mz f (endT f b)=true:=by simp[mz,endT,gC]
 have e3:gC f (endT f b)=nth f.blocks b:=by simp[gC,endT]
 rw[sO,ir,e1,e2,e3,endS,Dv];cases hb:s9 (nth f.blocks b).term with
 | false=>exact rfl
 | true=>
  have e4:((nth f.blocks b).term.to.all λt=>bZ t 1 ((f.blocks.length:Int)-1))=!(nth f.blocks b).term.to.any (uP f):=by rw[<-Cq];congr 1;funext n;exact GK
  rw[e4];show Alike tf _ (nk f (endT f b) (.ok l));unfold nk;rw[e2,e3];cases (nth f.blocks b).term.to.any (uP f)with
  | true=>exact rfl
  | false=>exact h
theorem AX{f:aj}(hp:0<=f.params):Alike tf (lj f (λ_=>Pz)) (jL f):=by rw[uD,pT];refine qD (λt ht m l h=>Dd ht hp h) ⟨MC ..,λn h0 h1=>?_⟩;rw[aA (by rw[MC];omega),O6];rfl
def A6 (t:Th):Option (Int × Int):=if t.blk<0 then Pz else Py (t.blk,t.place)
structure Site (m:MW) (s:List Th):Prop where
 len:s.length=8192
 inn : ∀n:Int,0<=n->n<8192->m n=A6 (nth s n.toNat)
 out : ∀n:Int,¬(0<=n/\n<8192)->m n=Pz
theorem zA {t:Th} (hb:0<=t.blk) : ∀{l:List Int} {m:MW} {s:List Th},Site m s->(∀n∈l,0<=n/\n<8192)->Site (l.foldl (λm n=>putM m n (t.blk,t.place)) m) (l.foldl (eS t) s)
 | [],m,s,h,_=>h
 | n::l,m,s,h,hl=>by
  rw[LR,LR];have hn:=hl n Lz;refine zA hb ⟨nj.trans h.len,λk h0 h1=>?_,λk hk=>?_⟩ λk hk=>hl k (LA _ hk)
  ·unfold eS putM;rw[if_pos hn,bz (by rw[h.len];omega)];by_cases e:k=n
   ·subst e;rw[if_pos rfl,if_pos rfl];unfold A6;rw[if_neg P2]
   rw[if_neg e,if_neg P2];exact h.inn k h0 h1
  unfold putM;rw[if_neg (by rintro rfl;exact hk hn)];exact h.out k hk
theorem Aa {b p:Int} : ∀{l:List Int} {m m':MW},l.foldlM (pP b p) m = .ok m'->m'=l.foldl (λm n=>putM m n (b,p)) m
 | [],m,m',h=>by cases h;rfl
 | n::l,m,m',h=>by
  rw[MU]at h;cases e:pP b p m n with
  | error t=>rw[e]at h;cases h
  | ok m1=>
   rw[e]at h;unfold pP at e;split at e
   ·cases e
   cases e;exact Aa (l:=l) (m:=putM m n (b,p)) h
theorem Ap{ps b p:Int}{l:List Int}{m m':MW}(h:allS ps l b p m = .ok m'):m'=l.foldl (λm n=>putM m n (b,p)) m/\∀n∈l,ps<=n/\n<=8191:=by
 unfold allS at h;split at h
 ·rename_i ha;refine⟨Aa h,λn hn=>?_⟩;have:=LY.1 ha n hn;simpa[bZ]using this
 cases h
theorem Ew{f:aj}{t:Th}(ht:t∈aD f){m m':MW}(h:km f m t = .ok m'):(m'=t.mks.foldl (λm n=>putM m n (t.blk,t.place)) m/\∀n∈t.mks,f.params<=n/\n<=8191)/\0<=t.blk:=by
 obtain⟨b,hb,ht⟩:=iA.1 ht;rcases j9.1 ht with⟨i,hi,rfl⟩ | ⟨i,hi,rfl⟩ | rfl
 ·rw[sT]at h;exact⟨Ap h,by show 0<=(b:Int);omega⟩
 ·rw[rP hi]at h;unfold insS at h;split at h
  ·exact⟨Ap h,by show 0<=(b:Int);omega⟩
  cases h
 rw[sO]at h;unfold endS at h;split at h
 ·split at h
  ·cases h;exact⟨⟨rfl,λn hn=>by cases hn⟩,by show 0<=(b:Int);omega⟩
  cases h
 cases h
theorem xz {f:aj} (hp:0<=f.params) : ∀{l:List Th},(∀t∈l,t∈aD f)->∀{m m':MW} {s:List Th},Site m s->l.foldlM (km f) m = .ok m'->Site m' (l.foldl qx s)
 | [],_,m,m',s,h,e=>by cases e;exact h
 | t::l,hl,m,m',s,h,e=>by
  rw[MU]at e;cases e1:km f m t with
  | error x=>rw[e1]at e;cases e
  | ok m1=>rw[e1]at e;obtain⟨⟨q1,q2⟩,q3⟩:=Ew (hl t Lz) e1;rw[LR];refine xz hp (λt ht=>hl t (LA _ ht)) (m:=m1) ?_ e;rw[q1];exact zA q3 h λn hn=>by have:=q2 n hn;omega
theorem DN{f:aj}(hp:0<=f.params){m:MW}(h:lj f (λ_=>Pz) = .ok m):Site m (ix f):=by rw[uD]at h;refine xz hp (λt ht=>ht) ⟨MC ..,λn h0 h1=>?_,λn _=>rfl⟩ h;rw[aA (by rw[MC];omega),O6];rfl
theorem uT{f:aj}{m:MW}{made:List Th}{away:List BL}{idom:List Int}{v blk place at_ told:Int}(hp:f.params<=8192)(hs:Site m made)(hd : ∀a:Int,0<=a->a<f.blocks.length->dJ idom a blk=!nth (nth away a.toNat) blk.toNat)(hm : ∀i,i<8192->(nth made i).blk<f.blocks.length):useS f.params m idom v blk place at_ told=if(!gY f made away v blk at_) then .error (13,told,place) else .ok ():=by
 unfold useS;by_cases c1:0<=v/\v<f.params
 ·have e:gY f made away v blk at_=true:=by unfold gY;rw[if_pos c1]
  rw[if_pos c1,e];rfl
 rw[if_neg c1];by_cases c2:v<0\/8191<v
 ·have e:gY f made away v blk at_=false:=by unfold gY;rw[if_neg c1,if_pos (.inl c2)]
  rw[hs.out v P2,e];rfl
 have e:gY f made away v blk at_=if(nth made v.toNat).blk<0 then PD else if(nth made v.toNat).blk=blk then decide ((nth made v.toNat).place<0)||decide ((nth made v.toNat).place<at_) else !nth (nth away (nth made v.toNat).blk.toNat) blk.toNat:=by
  unfold gY;rw[if_neg c1];by_cases c3:(nth made v.toNat).blk<0
  ·rw[if_pos (.inr c3),if_pos c3]
  rw[if_neg (by rintro(q | q)<;>contradiction),if_neg c3]
 rw[hs.inn v P2 P2,e];have hmb:=hm v.toNat P2;generalize nth made v.toNat=t at hmb;unfold A6;by_cases c3:t.blk<0
 ·rw[if_pos c3,if_pos c3];rfl
 rw[if_neg c3,if_neg c3];have e2:kR (t.blk,t.place) idom blk at_=if t.blk=blk then decide (t.place<0)||decide (t.place<at_) else !nth (nth away t.blk.toNat) blk.toNat:=by
  unfold kR;by_cases c4:t.blk=blk
  ·simp only[c4,decide_true,NC,Bool.not_true,Pl,Bool.or_false,if_true];rw[Bool.or_comm]
  simp only[c4,decide_false,Pl,Bool.not_false,NC,Pn,if_false];exact hd t.blk P2 hmb
 simp only[e2];generalize (if t.blk=blk then decide (t.place<0)||decide (t.place<at_) else !nth (nth away t.blk.toNat) blk.toNat)=B;cases B<;>rfl
theorem uE[Inhabited α]{l:List α}{p:α->Bool}{e:Tr}{g:Nat->Except Tr Unit}(h : ∀j,j<l.length->g j=if p (nth l j) then .error e else .ok ()):uAll g l.length=if l.any p then .error e else .ok ():=by
 have h1:uAll g l.length=l.foldlM (fun(_:Unit) x=>if p x then Except.error e else .ok ()) ():=by
  unfold uAll;rw[<-oI (f:=fun(_:Unit) x=>if p x then Except.error e else .ok ())];have key : ∀n,n<=l.length->upE (λi (_:Unit)=>g i) n ()=upE (λi (_:Unit)=>if p (nth l i) then Except.error e else .ok ()) n ():=by
   intro n;induction n with
   | zero=>exact λ_=>rfl
   | succ n ih=>intro hn;simp only[upE];rw[ih P2,h n P2]
  exact key _ (Lp _)
 rw[h1];clear h1 h;induction l with
 | nil=>rfl
 | cons a l ih=>
  rw[MU,List.any_cons];cases hp:p a with
  | true=>rfl
  | false=>rw[Pn];exact ih
theorem BH{β:Type}{p q:Nat->Bool}{x:Nat->β}{n:Nat}(h : ∀a,a<n->p a=q a):sift p x n=sift q x n:=by rw[pa,pa];congr 1;exact O2 λa ha=>h a (M0.1 ha)
theorem Bs{f:aj}(hb:b<f.blocks.length):nth (dd (ofG f.blocks)) b=cG f b:=by rw[AD,sL,nC,ft hb,cG];refine BH λa ha=>?_;rw[LV,q7,decide_eq_true_eq,LN];exact⟨λh=>h.2,λh=>⟨by omega,h⟩⟩
theorem Df{f:aj}{i:Nat}(hb:b<f.blocks.length):zY (nth (nth f.blocks b).phis i) (nth (dd (ofG f.blocks)) b) b=qP f (phiT f b i):=by
 have e1:pS f (phiT f b i)=nth (nth f.blocks b).phis i:=by unfold pS gC phiT;simp only[LN];rw[show(-1-(-1-(i:Int))).toNat=i by omega]
 have e2:(phiT f b i).blk=(b:Int):=rfl;unfold zY kr qP;rw[e1,e2,Bs hb];generalize nth (nth f.blocks b).phis i=x;generalize cG f b=row;rw[LV];simp only[Lt,decide_eq_true_eq,CE,xo];constructor
 ·rintro⟨⟨h1,h2⟩,h3⟩;refine⟨by omega,M7 P9 λj hj hj2=>?_⟩;have:=h3 j (by simpa using hj);rw[aA hj2,aA (by simpa using hj)]at this;simpa using this
 rintro⟨h1,h2⟩;have hl:x.ins.length=row.length:=by rw[<-h2,M5]
 refine⟨P6,λj hj=>?_⟩;rw[<-h2,aA (l:=List.map InD.frm x.ins) (by rw[M5];exact hj),aA hj];simp
theorem vX{f:aj}: ∀i,i<8192->(nth (ix f) i).blk<f.blocks.length:=λi hi=>Dn P2 (λt ht=>by
 obtain⟨b,hb,ht⟩:=iA.1 ht;rcases j9.1 ht with⟨i,hi,rfl⟩ | ⟨i,hi,rfl⟩ | rfl
 ·show(b:Int)<_;omega
 ·show(b:Int)<_;omega
 show(b:Int)<_;omega) hi
section
variable {f:aj} {m:MW} {idom:List Int} (hp0:f.params<=8192) (hs:Site m (ix f)) (hd : ∀a b:Int,0<=a->a<f.blocks.length->0<=b->b<f.blocks.length->dJ idom a b=!nth (nth (gr f) a.toNat) b.toNat)
include hp0 hs hd
theorem G9{i:Nat}(hb:b<f.blocks.length)(hi:i<(nth f.blocks b).phis.length):phiU f m idom (dd (ofG f.blocks)) b i=fL f (ix f) (gr f) (phiT f b i):=by
 have hf:=Df (f:=f) (i:=i) hb;have e1:pS f (phiT f b i)=nth (nth f.blocks b).phis i:=by unfold pS gC phiT;simp only[LN];rw[show(-1-(-1-(i:Int))).toNat=i by omega]
 have e3:fL f (ix f) (gr f) (phiT f b i)=if !qP f (phiT f b i) then .error (16,b,-1-i) else if(nth (nth f.blocks b).phis i).ins.any (stP f (ix f) (gr f)) then .error (13,b,-1-i) else .ok ():=by unfold fL;rw[if_neg (show ¬0<=(phiT f b i).place by show ¬0<=-1-(i:Int);omega),e1];rfl
 rw[e3];unfold phiU;simp only[hf];cases hss:qP f (phiT f b i)with
 | false=>rfl
 | true=>
  rw[if_pos rfl,if_neg Sa];refine uE λj hj=>?_;have hfr:0<=(nth (nth (nth f.blocks b).phis i).ins j).frm/\(nth (nth (nth f.blocks b).phis i).ins j).frm<f.blocks.length:=by unfold qP at hss;rw[e1]at hss;simp only[Lt,decide_eq_true_eq]at hss;have hm:=NR (f:=InD.frm) (bC hj);rw[hss.2]at hm;obtain⟨a,h1,_,h2⟩:=nW.1 hm;omega
  rw[uT hp0 hs (λa h0 h1=>hd a _ h0 h1 hfr.1 hfr.2) vX];rfl
theorem GO{i:Nat}(hb:b<f.blocks.length)(hi:i<(nth f.blocks b).ins.length):insU f m idom b i=fL f (ix f) (gr f) (insT f b i):=by
 have e3:fL f (ix f) (gr f) (insT f b i)=if(nth (nth f.blocks b).ins i).args.any (stT f (ix f) (gr f) (insT f b i)) then .error (13,b,i) else .ok ():=by unfold fL;rw[if_pos (show 0<=(insT f b i).place by show 0<=(i:Int);omega)];rfl
 rw[e3];unfold insU;refine uE λj hj=>?_;rw[uT hp0 hs (λa h0 h1=>hd a _ h0 h1 P2 P2) vX];rfl
theorem Ht(hb:b<f.blocks.length):endU f m idom b=fL f (ix f) (gr f) (endT f b):=by
 have e3:fL f (ix f) (gr f) (endT f b)=if(nth f.blocks b).term.args.any (stT f (ix f) (gr f) (endT f b)) then .error (13,b,(nth f.blocks b).ins.length) else .ok ():=by unfold fL;rw[if_pos (show 0<=(endT f b).place by show 0<=((nth f.blocks b).ins.length:Int);omega)];rfl
 rw[e3];unfold endU;refine uE λj hj=>?_;rw[uT hp0 hs (λa h0 h1=>hd a _ h0 h1 P2 P2) vX];rfl
def stF (f:aj) (_:Unit) (t:Th):Except Tr Unit:=fL f (ix f) (gr f) t
theorem GW(hb:b<f.blocks.length):blkU f m idom (dd (ofG f.blocks)) b=(thB f b).foldlM (stF f) ():=by
 unfold blkU thB uAll;rw[mV (f:=stF f) (x:=phiT f b) (n:=(nth f.blocks b).phis.length) λi s hi=>G9 hp0 hs hd hb hi];rw[mV (f:=stF f) (x:=insT f b) (n:=(nth f.blocks b).ins.length) λi s hi=>GO hp0 hs hd hb hi];rw[iQ,iQ,Ht hp0 hs hd hb];cases (rows (phiT f b) (nth f.blocks b).phis.length).foldlM (stF f) ()with
 | error e=>rfl
 | ok m1=>
  obtain⟨⟩:=m1;cases hI:(rows (insT f b) (nth f.blocks b).ins.length).foldlM (stF f) ()with
  | error e=>simp only[andE,hI]
  | ok m2=>simp only[andE,hI];rw[qv];rfl
theorem DD:uAll (blkU f m idom (dd (ofG f.blocks))) f.blocks.length=Ah f:=by
 have key : ∀n,n<=f.blocks.length->uAll (blkU f m idom (dd (ofG f.blocks))) n=(thTo f n).foldlM (stF f) ():=by
  intro n;induction n with
  | zero=>exact λ_=>rfl
  | succ n ih=>
   intro hn;rw[fY,iQ,<-ih P2];have e:uAll (blkU f m idom (dd (ofG f.blocks))) (n+1)=match uAll (blkU f m idom (dd (ofG f.blocks))) n with | .ok _=>blkU f m idom (dd (ofG f.blocks)) n | .error e=>.error e:=by show upE _ (n+1) ()=_;simp only[upE];unfold uAll;cases upE (λi (_:Unit)=>blkU f m idom (dd (ofG f.blocks)) i) n ()<;>rfl
   rw[e];cases uAll (blkU f m idom (dd (ofG f.blocks))) n with
   | error e=>rfl
   | ok s=>exact GW hp0 hs hd P2
 rw[key _ (Lp _)];exact(oI (f:=stF f)).symm
end
theorem xH {f:aj} : ∀k,manyN f k=(wC f k:Int)
 | 0=>rfl
 | k+1=>by have ih:=xH (f:=f) k;unfold manyN at ih ⊢;rw[up,ih,wC];omega
theorem xN {σ ε:Type} {f g:Nat->σ->Except ε σ} {s:σ} : ∀{n:Nat},(∀i s,i<n->f i s=g i s)->upE f n s=upE g n s
 | 0,_=>rfl
 | n+1,h=>by
  simp only[upE];rw[xN (n:=n) λi s hi=>h i s P2];cases upE g n s with
  | ok s'=>exact h n s' P2
  | error e=>rfl
theorem tP {f:Nat->Unit->Except Tr Unit} : ∀{n:Nat},upE f n () = .ok ()->∀i,i<n->f i () = .ok ()
 | n+1,h,i,hi=>by
  simp only[upE]at h;cases e:upE f n ()with
  | error t=>rw[e]at h;cases h
  | ok s=>
   rw[e]at h;rcases Lr i n with hlt | hge
   ·exact tP e i hlt
   have:i=n:=by omega
   subst this;exact h
theorem F4{f:aj}(hn:0<f.blocks.length):uAll (sR f) f.blocks.length=wayE f:=by
 unfold uAll wayE;refine xN λb s hb=>?_;unfold sR;have e:decide ((b:Int)∈bf (ofG f.blocks))=nth (dO f (-1)) b:=by rw[LV,decide_eq_true_eq,(jr (by rw[nC];exact hn)).mem,jh hb]
 rw[e]
theorem E7{f:aj}(hn:0<f.blocks.length)(hw:wayE f = .ok ())(a b:Int)(h0:0<=a)(h1:a<f.blocks.length)(h2:0<=b)(h3:b<f.blocks.length):
  dJ (pM (ofG f.blocks)) a b=!nth (nth (gr f) a.toNat) b.toNat:=by
 have hR : ∀x:Nat,x<f.blocks.length->Re (ofG f.blocks) (-1) x:=λx hx=>by
  have:=tP hw x hx;rw[<-jh hx];split at this
  ·assumption
  cases this
 have hg:0<(ofG f.blocks).length:=by rw[nC];exact hn
 obtain⟨fp,C,l,hl,I⟩:=xj hg;have hi:pM (ofG f.blocks)=l:=by unfold pM;rw[hl];rfl
 rw[hi];have e:=qS I C (a:=a.toNat) (b:=b.toNat) (by rw[nC];omega) (hR _ P2);rw[LK h0,LK h2]at e;rw[e,LV,ox];have ha:nth (gr f) a.toNat=dO f a:=by unfold gr;rw[ft P2,LK h0]
 rw[ha];have hr:=jh (f:=f) (wo:=a) (b:=b.toNat) P2;have haa:((a.toNat:Nat):Int)=a:=LK h0;rw[haa];cases hc:nth (dO f a) b.toNat with
 | true=>rw[hc]at hr;simp[hr.1 rfl]
 | false=>
  rw[hc]at hr;have hnr:¬Re (ofG f.blocks) a b.toNat:=λh=>by have:=hr.2 h;cases this
  simp[hnr,hR _ (show a.toNat<f.blocks.length by omega),hR _ (show b.toNat<f.blocks.length by omega)]
theorem CY(f:aj):ku f=uS f:=by
 unfold ku lA uS;by_cases c1:f.params<0\/4<f.params
 ·have:bZ f.params 0 4=false:=by rw[NF];simp[bZ];omega
  rw[if_pos this,if_pos c1]
 have hw4:¬bZ f.params 0 4=false:=by simp[bZ];omega
 rw[if_neg hw4,if_neg c1];by_cases c2:f.blocks.length=0
 ·rw[if_pos c2,if_pos c2]
 rw[if_neg c2,if_neg c2];have hm:BS f=(wC f f.blocks.length:Int):=xH _;by_cases c3:512<f.blocks.length\/4096<wC f f.blocks.length
 ·rw[if_pos (by rw[hm];omega),if_pos c3]
 rw[if_neg (by rw[hm];omega),if_neg c3];have hp:0<=f.params:=by omega
 have hsh:=AX hp;cases hS:lj f (λ_=>Pz)with
 | error e=>
  cases hR:jL f with
  | ok l=>rw[hS,hR]at hsh;exact hsh.elim
  | error e'=>rw[hS,hR]at hsh;have hee:e=e':=hsh;subst hee;obtain⟨k,s',h1,_,h3⟩:=oT hR;have:=(tu h3).1;rw[if_pos (by show e.1≠0;omega)];rfl
 | ok m=>
  cases hR:jL f with
  | error e'=>rw[hS,hR]at hsh;exact hsh.elim
  | ok l=>
   rw[if_neg (by simp[wS])];have hs:=DN hp hS;show(match qJ f m (pM (ofG f.blocks))with | .ok _=>((0,0,0):Tr) | .error t=>t)=_;unfold qJ;rw[F4 P2];cases hW:wayE f with
   | error e=>rfl
   | ok s=>obtain⟨⟩:=s;have:=DD (f:=f) (m:=m) (idom:=pM (ofG f.blocks)) P2 hs λa b h0 h1 h2 h3=>E7 P2 hW a b h0 h1 h2 h3;show(match uAll (blkU f m (pM (ofG f.blocks)) (dd (ofG f.blocks))) f.blocks.length with | .ok _=>((0,0,0):Tr) | .error t=>t)=wS (Ah f);rw[this];cases Ah f<;>rfl
def Marks (m:BL) (S:Int->Prop):Prop:=m.length=8192/\∀n:Int,0<=n->n<8192->(nth m n.toNat=PC↔S n)
theorem AQ:Marks (List.replicate 8192 PD) (λ_=>False):=⟨MC,λn h0 h1=>by rw[aC P2];simp⟩
theorem C6{m:BL}{S:Int->Prop}(h:Marks m S)(h0:0<=n)(h1:n<8192):Marks (m.set n.toNat PC) (λk=>S k\/k=n):=by
 refine⟨by simpa using h.1,λk k0 k1=>?_⟩;rw[bz (by rw[h.1];omega)];split
 ·rename_i e;exact⟨λ_=>.inr P2,λ_=>rfl⟩
 rename_i e;rw[h.2 k k0 k1];exact⟨.inl,λo=>o.resolve_right (by rintro rfl;exact e rfl)⟩
theorem Marks.congr{m:BL}{S T:Int->Prop}(h:Marks m S)(he : ∀n,S n↔T n):Marks m T:=⟨h.1,λn a b=>(h.2 n a b).trans (he n)⟩
theorem uU {t:Th} : ∀{l:List Int} {m m':BL} {S:Int->Prop},Marks m S->(∀n∈l,0<=n/\n<8192)->l.foldlM (lQ t) m = .ok m'->Marks m' (λk=>S k\/k∈l)/\l.Nodup/\∀n∈l,¬S n
 | [],m,m',S,h,_,e=>by cases e;exact⟨h.congr λn=>by simp,O9,λn hn=>by cases hn⟩
 | a::l,m,m',S,h,hl,e=>by
  rw[MU]at e;have ha:=hl a Lz;unfold lQ at e;by_cases hc:nth m a.toNat=PC
  ·rw[if_pos hc]at e;cases e
  rw[if_neg hc]at e;obtain⟨g1,g2,g3⟩:=uU (C6 h ha.1 ha.2) (λn hn=>hl n (LA _ hn)) e;refine⟨g1.congr λn=>by rw[LF,or_assoc],OE.2 ⟨λhm=>g3 a hm (.inr rfl),g2⟩,λn hn=>?_⟩;rcases LF.1 hn with rfl | hn
  ·exact λhs=>hc ((h.2 n ha.1 ha.2).2 hs)
  exact λhs=>g3 n hn (.inl hs)
structure ya (f:aj) (t:Th):Prop where
 op:qK f t=PC->uJ (y9 f t)=PD
 term:mz f t=PC->s9 (gC f t).term=PC
 mks : ∀n∈t.mks,f.params<=n/\n<=8191
 to:mz f t=PC->∀n∈(gC f t).term.to,1<=n/\n<f.blocks.length
theorem F7{t:Th}{m:BL}:upE (oW t) t.mks.length m=t.mks.foldlM (lQ t) m:=oI (f:=lQ t)
theorem any_false{p:α->Bool}{l:List α}:l.any p=PD↔∀n∈l,p n=false:=by rw[List.any_eq_false];exact forall_congr' λn=>forall_congr' λ_=>by simp
theorem Ej{f:aj}:mB f n=PD↔f.params<=n/\n<=8191:=by simp[mB]
theorem Gx{f:aj}:uP f n=PD↔1<=n/\n<f.blocks.length:=by simp[uP]
theorem AP{f:aj}{t:Th}{m m':BL}(h:ir f t m = .ok m'):ya f t/\t.mks.foldlM (lQ t) m = .ok m':=by
 unfold ir at h;split at h
 ·cases h
 rename_i c1;split at h
 ·cases h
 rename_i c2;split at h
 ·cases h
 rename_i c3;rw[F7]at h;unfold nk at h;split at h
 ·cases h
 rename_i m1 e;split at h
 ·cases h
 rename_i c4;cases h;refine⟨⟨λg=>?_,λg=>?_,λn hn=>?_,λg n hn=>?_⟩,e⟩
 ·simpa[g]using c1
 ·simpa[g]using c2
 ·exact Ej.1 (any_false.1 (by simpa only[Bool.not_eq_true]using c3) n hn)
 refine Gx.1 (any_false.1 (by simpa only[g,NC,Bool.not_eq_true]using c4) n hn)
def EB (l:List Th):List Int:=l.flatMap Th.mks
theorem sW {f:aj} (hp:0<=f.params) : ∀{l:List Th} {m m':BL} {S:Int->Prop},Marks m S->l.foldlM (λm t=>ir f t m) m = .ok m'->(∀t∈l,ya f t)/\(EB l).Nodup/\∀n∈EB l,¬S n
 | [],m,m',S,h,e=>⟨λt ht=>(by cases ht),O9,λn hn=>(by cases hn)⟩
 | t::l,m,m',S,h,e=>by
  rw[MU]at e;cases e1:ir f t m with
  | error x=>rw[e1]at e;cases e
  | ok m1=>
   rw[e1]at e;obtain⟨g,e2⟩:=AP e1;obtain⟨k1,k2,k3⟩:=uU h (λn hn=>by have:=g.mks n hn;omega) e2;obtain⟨i1,i2,i3⟩:=sW hp k1 e;refine⟨λx hx=>?_,?_,λn hn=>?_⟩
   ·rcases LF.1 hx with rfl | hx
    ·exact g
    exact i1 x hx
   ·refine Ni.2 ⟨k2,i2,λa ha b hb=>?_⟩;rintro rfl;exact i3 a hb (.inr ha)
   rcases Lv.1 hn with hn | hn
   ·exact k3 n hn
   exact λhs=>i3 n hn (.inl hs)
def yc (f:aj) (v b p:Int):Prop:=(0<=v/\v<f.params)\/∃t∈aD f,v∈t.mks/\(t.blk=b/\(t.place<0\/t.place<p)\/t.blk≠b/\¬Re (ofG f.blocks) t.blk b.toNat)
structure EO (ts:List Th) (s:List Th):Prop where
 len:s.length=8192
 is : ∀n:Int,0<=n->n<8192->(nth s n.toNat=noTh/\∀t∈ts,n∉t.mks)\/(nth s n.toNat∈ts/\n∈(nth s n.toNat).mks)
theorem zG {t:Th} {ts:List Th} : ∀{l:List Int} {s:List Th} {d:List Int},(∀n∈l,n∈t.mks)->(s.length=8192/\∀n:Int,0<=n->n<8192->(nth s n.toNat=noTh/\(∀t∈ts,n∉t.mks)/\n∉d)\/(nth s n.toNat∈ts++[t]/\n∈(nth s n.toNat).mks))->
  ((l.foldl (eS t) s).length=8192/\∀n:Int,0<=n->n<8192->(nth (l.foldl (eS t) s) n.toNat=noTh/\(∀t∈ts,n∉t.mks)/\n∉d++l)\/(nth (l.foldl (eS t) s) n.toNat∈ts++[t]/\n∈(nth (l.foldl (eS t) s) n.toNat).mks))
 | [],s,d,_,h=>by simpa using h
 | a::l,s,d,hl,h=>by
  rw[LR];have:=zG (t:=t) (ts:=ts) (l:=l) (s:=eS t s a) (d:=d++[a]) (λn hn=>hl n (LA _ hn)) ⟨by rw[nj];exact h.1,λn h0 h1=>?_⟩
  ·simpa using this
  unfold eS;split
  ·rw[bz (by rw[h.1];omega)];split
   ·rename_i hc e;have:n=a:=by omega
    subst this;exact .inr ⟨MG _ (Ls.2 rfl),hl n Lz⟩
   rename_i hc e;rcases h.2 n h0 h1 with⟨a1,a2,a3⟩ | a1
   ·refine .inl ⟨a1,a2,?_⟩;rw[Lv,Ls];rintro(q | rfl)
    ·exact a3 q
    exact e rfl
   exact .inr a1
  rename_i hc;rcases h.2 n h0 h1 with⟨a1,a2,a3⟩ | a1
  ·refine .inl ⟨a1,a2,?_⟩;rw[Lv,Ls];rintro(q | rfl)
   ·exact a3 q
   exact hc ⟨h0,h1⟩
  exact .inr a1
theorem zy : ∀{l ts s:List Th},EO ts s->EO (ts++l) (l.foldl qx s)
 | [],ts,s,h=>by simpa using h
 | t::l,ts,s,h=>by
  rw[LR];have:=zG (t:=t) (ts:=ts) (l:=t.mks) (s:=s) (d:=[]) (λn hn=>hn) ⟨h.len,λn h0 h1=>(h.is n h0 h1).elim (λa=>.inl ⟨a.1,a.2,NN⟩) λa=>.inr ⟨L8 _ a.1,a.2⟩⟩;have:=zy (l:=l) (ts:=ts++[t]) (s:=qx s t) ⟨this.1,λn h0 h1=>(this.2 n h0 h1).elim (λa=>.inl ⟨a.1,λx hx=>?_⟩) .inr⟩
  ·simpa using this
  rcases Lv.1 hx with hx | hx
  ·exact a.2.1 x hx
  rw[Ls.1 hx];simpa using a.2.2
theorem CR{f:aj}:EO (aD f) (ix f):=
 zy (l:=aD f) (ts:=[]) (s:=List.replicate 8192 noTh) ⟨MC,λn h0 h1=>.inl ⟨aC P2,λt ht=>by cases ht⟩⟩
theorem zM{f:aj}{t:Th}(h:t∈aD f):0<=t.blk/\t.blk<f.blocks.length:=by obtain⟨b,hb,ht⟩:=iA.1 h;rcases j9.1 ht with⟨i,hi,rfl⟩ | ⟨i,hi,rfl⟩ | rfl<;>exact⟨Int.natCast_nonneg _,Int.ofNat_lt.2 hb⟩
theorem GZ{f:aj}{a b:Int}(h0:0<=a)(h1:a<f.blocks.length)(h2:0<=b)(h3:b<f.blocks.length):nth (nth (gr f) a.toNat) b.toNat=PC↔Re (ofG f.blocks) a b.toNat:=by unfold gr;rw[ft P2,LK h0];exact jh P2
theorem xM{f:aj}{v b p:Int}(hb0:0<=b)(hb1:b<f.blocks.length)(h:gY f (ix f) (gr f) v b p=PC):yc f v b p:=by
 unfold gY at h;split at h
 ·rename_i c;exact .inl c
 split at h
 ·cases h
 rename_i c1 c2;rcases CR.is v P2 P2 with⟨e,_⟩ | ⟨hm,hv⟩
 ·exact absurd (.inr (by rw[e];decide)) c2
 have hat:=zM hm;refine .inr ⟨_,hm,hv,?_⟩;split at h
 ·rename_i e;exact .inl ⟨e,by simpa using h⟩
 rename_i e;refine .inr ⟨e,λhr=>?_⟩;rw[(GZ hat.1 hat.2 hb0 hb1).2 hr]at h;cases h
structure ml (f:aj):Prop where
 params:0<=f.params/\f.params<=4
 blocks:0<f.blocks.length/\f.blocks.length<=512
 cnt:wC f f.blocks.length<=4096
 good : ∀t∈aD f,ya f t
 nodup:(EB (aD f)).Nodup
 way : ∀b:Nat,b<f.blocks.length->Re (ofG f.blocks) (-1) b
 takes : ∀t∈aD f,0<=t.place->∀v∈t.tks,yc f v t.blk t.place
 phi : ∀b i:Nat,b<f.blocks.length->i<(nth f.blocks b).phis.length->0<b/\(nth (nth f.blocks b).phis i).ins.map InD.frm=cG f b/\∀p∈(nth (nth f.blocks b).phis i).ins,yc f p.val p.frm (Ba f p.frm)
theorem Ed{f:aj}{b x:Int}:x∈cG f b↔(0<=x/\x<f.blocks.length)/\b∈(nth f.blocks x.toNat).term.to:=by
 unfold cG;rw[nW];constructor
 ·rintro⟨a,ha,hb,rfl⟩;exact⟨P6,by simpa using hb⟩
 rintro⟨⟨h0,h1⟩,h⟩;exact⟨x.toNat,by omega,by simpa using h,by omega⟩
theorem zt{f:aj}{t:Th}:fL f (ix f) (gr f) t = .ok ()↔
  (0<=t.place/\∀v∈t.tks,gY f (ix f) (gr f) v t.blk t.place=PC)\/(t.place<0/\qP f t=PC/\∀p∈(pS f t).ins,gY f (ix f) (gr f) p.val p.frm (Ba f p.frm)=PC):=by
 unfold fL;by_cases h0:0<=t.place
 ·rw[if_pos h0];have hn:¬t.place<0:=by omega
  simp only[h0,hn,true_and,false_and,or_false];cases e:t.tks.any (stT f (ix f) (gr f) t)with
  | true=>
   obtain⟨v,hv,hs⟩:=Ow.1 e;constructor
   ·intro h;cases h
   intro h;unfold stT at hs;rw[h v hv]at hs;cases hs
  | false=>
   constructor
   ·intro _ v hv;have:=any_false.1 e v hv;simpa[stT]using this
   intro _;rfl
 rw[if_neg h0];have hn:t.place<0:=by omega
 simp only[h0,hn,true_and,false_and,false_or];cases e1:qP f t with
 | false=>simp
 | true=>
  rw[if_neg Sa];cases e:(pS f t).ins.any (stP f (ix f) (gr f))with
  | true=>
   obtain⟨v,hv,hs⟩:=Ow.1 e;constructor
   ·intro h;cases h
   rintro⟨_,h⟩;unfold stP at hs;rw[h v hv]at hs;cases hs
  | false=>
   constructor
   ·intro _;refine⟨rfl,λv hv=>?_⟩;have:=any_false.1 e v hv;simpa[stP]using this
   intro _;rfl
theorem FA{f:aj}{i:Nat}:pS f (phiT f b i)=nth (nth f.blocks b).phis i:=by unfold pS gC phiT;dsimp only;rw[LN];congr 1;omega
theorem Jl{f:aj}(h:(ku f).1=0):ml f:=by
 rw[CY]at h;unfold uS at h;split at h
 ·cases h
 rename_i c1;split at h
 ·cases h
 rename_i c2;split at h
 ·cases h
 rename_i c3;cases hs:jL f with
 | error e=>obtain⟨k,s',_,_,h3⟩:=oT (show upE _ _ _=_ from hs);have:=(tu h3).1;rw[hs]at h;rw[if_pos (by show e.1≠0;omega)]at h;have h:e.1=0:=h;omega
 | ok m=>
  rw[hs,if_neg (by simp[wS])]at h;obtain⟨g1,g2,_⟩:=sW (f:=f) P2 AQ (by rw[<-pT];exact hs);cases hw:wayE f with
  | error e=>
   rw[hw]at h;obtain⟨k,s',_,_,h3⟩:=oT (show upE _ _ _=_ from hw);split at h3
   ·cases h3
   cases h3;exact absurd (show(15:Int)=0 from h) P4
  | ok u=>
   obtain⟨⟩:=u;rw[hw]at h;cases hu:Ah f with
   | error e=>
    rw[hu]at h;obtain⟨k,s',_,_,h3⟩:=oT (show upE _ _ _=_ from hu);have h:e.1=0:=h;unfold fL at h3;repeat' split at h3
    all_goals first | (cases h3;done) | (cases h3;first | exact absurd (show(13:Int)=0 from h) P4 | exact absurd (show(16:Int)=0 from h) P4)
   | ok u=>
    obtain⟨⟩:=u;have hst : ∀t∈aD f,fL f (ix f) (gr f) t = .ok ():=λt ht=>by obtain⟨i,hi,e⟩:=LO ht;have:=tP hu i hi;rw[aA hi,e]at this;exact this
    refine⟨by omega,by omega,by omega,g1,g2,λb hb=>?_,λt ht h0 v hv=>?_,λb i hb hi=>?_⟩
    ·have:=tP hw b hb;rw[<-jh hb];split at this
     ·assumption
     cases this
    ·have hat:=zM ht;rcases zt.1 (hst t ht)with⟨_,k⟩ | ⟨k,_⟩
     ·exact xM hat.1 hat.2 (k v hv)
     omega
    have ht:phiT f b i∈aD f:=iA.2 ⟨b,hb,j9.2 (.inl ⟨i,hi,rfl⟩)⟩;rcases zt.1 (hst _ ht)with⟨k,_⟩ | ⟨_,k1,k2⟩
    ·exact absurd k (by show ¬(0:Int)<=-1-(i:Int);omega)
    unfold qP at k1;rw[FA]at k1 k2;obtain⟨k3,k4⟩:=(Lt _ _).mp k1;have k4:(nth (nth f.blocks b).phis i).ins.map InD.frm=cG f b:=of_decide_eq_true k4;have k3:(0:Int)<b:=of_decide_eq_true k3;refine⟨by omega,k4,λp hp=>?_⟩;have hm:p.frm∈cG f b:=by rw[<-k4];exact NR hp
    have:=(Ed.1 hm).1;exact xM this.1 this.2 (k2 p hp)
def mkL (vs:Value) (at_:Nat) (ps:Int) (vb:Value) (nx:Int) (vl:Value):List Value:=[vs,Pv Pw at_,Pv Pw ps,vb,Pv Pw nx,vl]
def rawV (s:List Int) (at_:Nat):Int:=if at_<s.length then nth s at_ else 0
def aI (s:List Int) (at_:Nat) (n:Int):Int:=((rawV s at_).tmod n+n).tmod n
theorem cI{s:List Int}{at_:Nat}(hn:0<n):0<=aI s at_ n/\aI s at_ n<n:=by have b1:=Int.lt_tmod_of_pos (rawV s at_) hn;exact⟨Int.tmod_nonneg _ P2,Int.tmod_lt_of_pos _ hn⟩
theorem GJ{W:View}{h:Heap}{o:Own}{M at_:Nat}{vs vb vl:Value}{ps nx:Int}{s:List Int}(w:Owns W h o)(hk:o (0,0)=bx T.aY M (RawN.mk (n:=5) (mkL vs at_ ps vb nx vl)))(hs:SlRd W vs s)(h1:at_<=1000000000)(hn:0<n)(hn2:n<=1000000000):
  az PE 34 #[PB (Py ⟨M,0,Pz⟩),Pv Pw n] h (λu h'=>u = Pv Pw (aI s at_ n)/\Owns W h' (o.upd (0,0) (bx T.aY M (RawN.mk (n:=5) (mkL vs (at_+1) ps vb nx vl))))):=by
 refine au (args:=[PB (Py ⟨M,0,Pz⟩),Pv Pw n]) follows Tryz.func34 E.ij Pp λK hK=>?_;have c0:ak (vw h) ⟨M,0,Pz⟩=Py vs:=w.raw hk (i:=0) P4;have c1:ak (vw h) ⟨M,1,Pz⟩=Py (Pv Pw at_):=w.raw hk (i:=1) P4;dsimp only[L.ij,lkF,lkG];refine ab λz hz=>?_;simp;subst hz;refine ab λz hz=>?_;simp;subst hz;refine ab λz hz=>?_;have hsl : ∀{Q:View},Un.ev Q .len vs=Py (Pv Pw s.length):=fun{Q}=>hs.len;refine gy (λρ h2=>h2=h/\I64 (rawV s at_)/\ρ=[(0,PB (Py ⟨M,0,Pz⟩)),(1,Pv Pw n),(4,Pv Pw 0),(5,Pv Pw (rawV s at_))]) ?_ ?_
 ·intro K2 hK2;by_cases c:at_<s.length
  ·have hs2:=hs.mono w.wle;have hr:=hs.range (i:=at_) c;have e:rawV s at_=nth s at_:=if_pos c;rw[e]at hK2;simp(disch:=omega)[c0,c1,hsl,c,hs2.idx1 rfl,hs2.int Ps];exact hK2 _ _ ⟨rfl,hr,rfl⟩
  have e:rawV s at_=0:=if_neg c;rw[e]at hK2;simp[c0,c1,hsl,c];exact hK2 _ _ ⟨rfl,⟨P4,P4⟩,rfl⟩
 rintro _ h2 ⟨rfl,hx,rfl⟩;subst hz;refine ab λz hz=>?_;simp(disch:=omega)[c1];refine w.dh (k:=(0,0)) (n:=5) (i:=1) (e:=T.aY) (B:=M) (l:=mkL vs at_ ps vb nx vl) hk P4 P1 rfl rfl rfl λh3 w3 _=>?_;subst hz;have b1:=Int.lt_tmod_of_pos (rawV s at_) hn;have b2:=Int.tmod_lt_of_pos (rawV s at_) hn;have hw:IntKind.i64.wrap ((rawV s at_).tmod n+n)=(rawV s at_).tmod n+n:=bH P2 P2;have hne:¬n=0:=by omega
 simp[hw,hne];refine hK _ _ ⟨rfl,w3.congr λq=>?_⟩;rfl
theorem Ak{W:View}{h:Heap}{o:Own}{M at_:Nat}{vs vb vl:Value}{ps nx:Int}(w:Owns W h o)(hk:o (0,0)=bx T.aY M (RawN.mk (n:=5) (mkL vs at_ ps vb nx vl)))(h0:0<=nx)(h1:nx<=1000000000):
  az PE 52 #[PB (Py ⟨M,0,Pz⟩)] h (λu h'=>u = Pv Pw nx/\Owns W h' (o.upd (0,0) (bx T.aY M (RawN.mk (n:=5) (mkL vs at_ ps vb (nx+1) vl))))/\∀X:View,X.le (vw h)->X M=Pz->X.le (vw h')):=by refine au (args:=[PB (Py ⟨M,0,Pz⟩)]) follows Tryz.func52 E.gl Pp λK hK=>?_;have c4:ak (vw h) ⟨M,4,Pz⟩=Py (Pv Pw nx):=w.raw hk (i:=4) P4;dsimp only[L.gl,lkF,lkG];refine ab λz hz=>?_;simp;subst hz;refine ab λz hz=>?_;simp(disch:=omega)[c4];refine w.dh (k:=(0,0)) (n:=5) (i:=4) (e:=T.aY) (B:=M) (l:=mkL vs at_ ps vb nx vl) hk P4 P1 rfl rfl rfl λh3 w3 hx3=>?_;have w3:Owns W h3 (o.upd (0,0) (bx T.aY M (RawN.mk (n:=5) (mkL vs at_ ps vb (nx+1) vl)))):=w3;have c5:ak (vw h3) ⟨M,4,Pz⟩=Py (Pv Pw (nx+1)):=w3.raw Own.ao (i:=4) P4;subst hz;simp(disch:=omega)[c5];exact hK _ _ ⟨by congr 1,w3,hx3⟩
end Go.Proofs.YtnfiilgdjpdlkaaGreatDoor
namespace Go.Lft
open Go
variable {po:OP}
theorem IS {P:Program} {t ty:TypeId} {us:List (Nat × Value)} {h:Heap} {K:Value->Heap->Prop} {x:Operand} {n:Int} (hx:asg us x = Pv Pw n) (hk:K (Pv Pw (IntKind.i64.wrap (-n))) h):step P (.unOp .neg t x) ty us h K:=by refine cR (cm λw hw=>⟨Pv Pw (IntKind.i64.wrap (-n)),w,?_,Same.refl _,by rw[hw];exact hk⟩);simp only[bJ,execOp,hx];simp[Op.unary,Op.intArith]
end Go.Lft
namespace Go.Proofs.YtnfiilgdjpdlkaaGreatDoor
open Go Go.Lft
structure MS where
 at_:Nat
 ps:Int
 blocks:List BlkD
 next:Int
 live:List Int
def MS.took (m:MS):MS:={ m with at_:=m.at_+1 }
def MS.aK (m:MS):MS:={ m with next:=m.next+1 }
structure BlkM where
 phis:Raw
 ins:Raw
 term:cM
instance:Rep BlkM:=Rep.via λd=>Cat.mk d.phis (Cat.mk d.ins d.term)
instance:Inhabited BlkM:=⟨⟨default,default,default⟩⟩
theorem BlkM.rX:Part BlkM Raw 0 BlkM.phis (λd x=>{ d with phis:=x }):=(Part.fst Part.all).via (λ_=>rfl) λ_ _=>rfl
theorem BlkM.mw:Part BlkM Raw 1 BlkM.ins (λd x=>{ d with ins:=x }):=(Part.snd (Part.fst Part.all)).via (λ_=>rfl) λ_ _=>rfl
theorem BlkM.mF:Part BlkM cM 2 BlkM.term (λd x=>{ d with term:=x }):=(Part.snd (Part.snd Part.all)).via (λ_=>rfl) λ_ _=>rfl
theorem zi {H:View} {cs:List Value} {d:BlkM} {p:List PhiD} {i:List InsD} (h:Rep.rd H cs d) (hp:SlRd H d.phis.v p) (hi:SlRd H d.ins.v i):Rep.rd H cs (BlkD.mk p i d.term):=by obtain⟨c1,r1,e1,⟨h1,_⟩,c2,r2,e2,⟨h2,_⟩,h3⟩:=h;have h1:c1=[d.phis.v]:=h1;have h2:c2=[d.ins.v]:=h2;exact⟨c1,r1,e1,⟨d.phis.v,h1,hp⟩,c2,r2,e2,⟨d.ins.v,h2,hi⟩,h3⟩
structure MkB (M:Nat) (vs:Value) (m:MS) (o:Own) (vb vl:Value) (lb:List BlkM):Prop where
 box:o (0,0)=bx T.aY M (RawN.mk (n:=5) (mkL vs m.at_ m.ps vb m.next vl))
 live:o (0,1)=it T.int vl m.live
 blk:o (0,2)=it T.ey vb lb
 len:lb.length=m.blocks.length
 term : ∀i,i<m.blocks.length->(nth lb i).term=(nth m.blocks i).term
 phis : ∀i,i<m.blocks.length->o (1,i)=it T.nr (nth lb i).phis.v (nth m.blocks i).phis
 ins : ∀i,i<m.blocks.length->o (2,i)=it T.dU (nth lb i).ins.v (nth m.blocks i).ins
structure Mk (s:List Int) (M:Nat) (vs:Value) (W:View) (h:Heap) (o:Own) (m:MS):Prop where
 own:Owns W h o
 src:SlRd W vs s
 box : ∃vb vl lb,MkB M vs m o vb vl lb
def Nx (s:List Int) (M:Nat) (vs:Value) (W:View) (h:Heap) (o:Own) (m:MS):Prop:=∃W' o',W.le W'/\Mk s M vs W' h o' m/\∀k:Key,3<=k.1->o' k=o k
variable {s:List Int} {M:Nat} {vs:Value} {W:View} {h:Heap} {o:Own} {m:MS}
theorem Mk.nx (w:Mk s M vs W h o m):Nx s M vs W h o m:=⟨W,o,View.le_refl _,w,λ_ _=>rfl⟩
theorem Nx.trans {W':View} {o':Own} (hW:W.le W') (ho : ∀k:Key,3<=k.1->o' k=o k) (n:Nx s M vs W' h o' m):Nx s M vs W h o m:=by obtain⟨W2,o2,h1,h2,h3⟩:=n;exact⟨W2,o2,Pt hW h1,h2,λk hk=>(h3 k hk).trans (ho k hk)⟩
theorem MkB.at {vb vl:Value} {lb:List BlkM} (b:MkB M vs m o vb vl lb) {at_:Nat} {next:Int}:MkB M vs { m with at_:=at_,next:=next } (o.upd (0,0) (bx T.aY M (RawN.mk (n:=5) (mkL vs at_ m.ps vb next vl)))) vb vl lb:=
 ⟨rfl,b.live,b.blk,b.len,b.term,λi hi=>b.phis i hi,λi hi=>b.ins i hi⟩
theorem mQ {k:Key} {i:Option Lft.Item} (hk:k.1<3) : ∀q:Key,3<=q.1->o.upd k i q=o q:=λq hq=>Own.aB λe=>by rw[e]at hq;omega
theorem eD {k:Key} {i j:Option Lft.Item} (q:Key):(o.upd k i).upd k j q=o.upd k j q:=by unfold Own.upd;split<;>rfl
theorem Mk.take (w:Mk s M vs W h o m) {n:Int} (h1:m.at_<=1000000000) (hn:0<n) (hn2:n<=1000000000) :
  az PE 34 #[PB (Py ⟨M,0,Pz⟩),Pv Pw n] h (λu h'=>u = Pv Pw (aI s m.at_ n)/\∃o',Mk s M vs W h' o' m.took/\∀k:Key,3<=k.1->o' k=o k):=by obtain⟨vb,vl,lb,b⟩:=w.box;refine(GJ w.own b.box w.src h1 hn hn2).mono ?_;rintro u h' ⟨rfl,w2⟩;exact⟨rfl,_,⟨w2,w.src,vb,vl,lb,b.at⟩,mQ P4⟩
theorem Mk.fresh (w:Mk s M vs W h o m) (h0:0<=m.next) (h1:m.next<=1000000000) :
  az PE 52 #[PB (Py ⟨M,0,Pz⟩)] h (λu h'=>u = Pv Pw m.next/\∃o',Mk s M vs W h' o' m.aK/\∀k:Key,3<=k.1->o' k=o k):=by obtain⟨vb,vl,lb,b⟩:=w.box;refine(Ak w.own b.box h0 h1).mono ?_;rintro u h' ⟨rfl,w2,-⟩;exact⟨rfl,_,⟨w2,w.src,vb,vl,lb,b.at⟩,mQ P4⟩
theorem lX {x:Int}:-2147483648<=IntKind.i32.wrap x/\IntKind.i32.wrap x<=2147483647:=by rw[IntKind.wrap_i32];omega
def ke (s:List Int) (m:MS):Int:=
 if aI s (m.at_+1) 8=0 then IntKind.i32.wrap (IntKind.i64.wrap (aI s m.at_ 1048576*4099))
 else if aI s (m.at_+1) 8=1 then IntKind.i32.wrap (IntKind.i64.wrap (-aI s m.at_ 1048576))
 else if aI s (m.at_+1) 8=2 then -2147483648
 else if aI s (m.at_+1) 8=3 then IntKind.i32.wrap ((aI s m.at_ 1048576).tmod 70000)
 else IntKind.i32.wrap (IntKind.i64.wrap ((aI s m.at_ 1048576).tmod 20-4))
theorem oP:-2147483648<=ke s m/\ke s m<=2147483647:=by
 unfold ke;repeat' split
 all_goals first | exact lX | decide
theorem Mk.word (w:Mk s M vs W h o m) (h1:m.at_<=999999990) :
  az PE 59 #[PB (Py ⟨M,0,Pz⟩)] h (λu h'=>u = Pv Px (ke s m)/\∃o',Mk s M vs W h' o' m.took.took/\∀k:Key,3<=k.1->o' k=o k):=by
 refine au (args:=[PB (Py ⟨M,0,Pz⟩)]) follows Tryz.func59 E.gW Pp λK hK=>?_;dsimp only[L.gW,lkF,lkG];refine ab λz hz=>?_;simp;subst hz;refine ab λz hz=>?_;simp;refine af P1 (w.take P2 (n:=1048576) P4 P4) ?_;rintro _ h2 ⟨rfl,o2,w2,f2⟩;subst hz;refine ab λz hz=>?_;simp;refine af P1 (w2.take (show m.at_+1<=_ by omega) (n:=8) P4 P4) ?_;rintro _ h3 ⟨rfl,o3,w3,f3⟩;have hx:m.took.at_=m.at_+1:=rfl;rw[hx];have hf : ∀k:Key,3<=k.1->o3 k=o k:=λk hk=>(f3 k hk).trans (f2 k hk);have hwd:ke s m=_:=ke.eq_1 s m;generalize ke s m=r at hwd hK;generalize aI s (m.at_+1) 8=q at hwd;generalize aI s m.at_ 1048576=x at hwd;by_cases c0:q=0
 ·rw[if_pos c0]at hwd;simp[c0];exact hK _ _ ⟨by rw[hwd],_,w3,hf⟩
 rw[if_neg c0]at hwd;by_cases c1:q=1
 ·rw[if_pos c1]at hwd;simp[c1];refine IS rfl ?_;simp;exact hK _ _ ⟨by rw[hwd],_,w3,hf⟩
 rw[if_neg c1]at hwd;by_cases c2:q=2
 ·rw[if_pos c2]at hwd;simp[c2];exact hK _ _ ⟨by rw[hwd],_,w3,hf⟩
 rw[if_neg c2]at hwd;by_cases c3:q=3
 ·rw[if_pos c3]at hwd;simp[c3];exact hK _ _ ⟨by rw[hwd],_,w3,hf⟩
 rw[if_neg c3]at hwd;simp[c0,c1,c2,c3];subst hz;simp;exact hK _ _ ⟨by rw[hwd],_,w3,hf⟩
end Go.Proofs.YtnfiilgdjpdlkaaGreatDoor
namespace Go.Proofs.YtnfiilgdjpdlkaaGreatDoor
open Go Go.Lft
def MS.add (m:MS) (b:Nat) (i:InsD):MS:={ m with blocks:=m.blocks.set b { nth m.blocks b with ins:=(nth m.blocks b).ins++[i] },live:=m.live++cr i }
def conD (v:Int) (n:Int):InsD:=⟨1,v,0,[],⟨n⟩⟩
def MS.constant (m:MS) (b:Nat) (n:Int):MS:=m.aK.add b (conD m.next n)
def xl (s:List Int) (m:MS):Int:=nth m.live (if aI s (m.at_+1) 3=0 then m.live.length-1 else(aI s m.at_ m.live.length).toNat)
def BV (s:List Int) (m:MS) (b:Nat):MS:=(m.took.took).constant b (ke s m)
def aJ (s:List Int) (m:MS) (b:Nat):Int × MS:=
 if m.live.length=0 then(m.next,BV s m b)
 else if aI s (m.at_+2) 9=0 then(m.next,BV s m.took.took.took b)
 else(xl s m,m.took.took.took)
def MS.two (m:MS) (b:Nat) (op x y:Int):MS:=m.aK.add b ⟨op,m.next,0,[x,y],⟨0⟩⟩
def binS (s:List Int) (m:MS) (b:Nat) (op:Int):MS:=
 let r1:=aJ s m b
 let r2:=aJ s r1.2 b
 if aI s r2.2.at_ 3=0 then
  (r2.2.took.took.constant b (IntKind.i32.wrap (IntKind.i64.wrap (aI s (r2.2.at_+1) 40-8)))).two b op r1.1 r2.2.next
 else r2.2.took.two b op r1.1 r2.1
def ltuS (s:List Int) (m:MS) (b:Nat):MS:=
 let r1:=aJ s m b
 let r2:=aJ s r1.2 b
 r2.2.two b 13 r1.1 r2.1
def divS (s:List Int) (m:MS) (b:Nat):MS:=
 let r1:=aJ s m b
 let m2:=r1.2.took.constant b (IntKind.i32.wrap (aI s r1.2.at_ 12))
 if 0<aI s m2.at_ 3 then
  (m2.took.took.constant b (IntKind.i32.wrap (1+IntKind.i32.wrap (aI s (m2.at_+1) 12)))).two b 14 r1.1 m2.next
 else m2.took.two b 14 r1.1 r1.2.next
def xG (s:List Int) (m:MS) (b:Nat):MS:=
 let r1:=aJ s m b
 let r2:=aJ s r1.2 b
 r2.2.aK.aK.add b ⟨18,r2.2.next,r2.2.next+1,[r1.1,r2.1],⟨0⟩⟩
def gK (s:List Int) (b:Nat):Nat->List Int × MS->List Int × MS:=λ_ x=>(x.1++[(aJ s x.2 b).1],(aJ s x.2 b).2)
def nT (s:List Int) (m:MS) (b:Nat):MS:=
 let r:=up (gK s b) (aI s m.at_ 5).toNat ([],m.took)
 r.2.aK.took.add b ⟨17,r.2.next,0,r.1,⟨IntKind.i32.wrap (aI s r.2.at_ 5)⟩⟩
def nR (s:List Int) (m:MS) (b:Nat):Int × MS:=
 let m1:=m.took.constant b (IntKind.i32.wrap (aI s m.at_ 9))
 if aI s m1.at_ 3=0 then
  let r:=aJ s m1.took b
  let m3:=(r.2.constant b 7).two b 5 r.1 r.2.next
  (m3.next,m3.two b 2 m.next (r.2.next+1))
 else(m.next,m1.took)
def offS (s:List Int) (m:MS):Int × MS:=
 if aI s (m.at_+1) 12=0 then(ke s m.took.took,m.took.took.took.took) else(IntKind.i32.wrap (aI s m.at_ 4),m.took.took)
def iL (s:List Int) (m:MS) (b:Nat) (store:Bool):MS:=
 let a:=nR s m b
 let i:=offS s a.2
 if store then(aJ s i.2 b).2.add b ⟨16,0,0,[a.1,(aJ s i.2 b).1],⟨i.1⟩⟩
 else i.2.aK.add b ⟨15,i.2.next,0,[a.1],⟨i.1⟩⟩
def opsL:List Int:=[2,2,3,4,5,6,7,8,9,10,12,11]
def aP (s:List Int) (b:Nat) (m:MS):MS:=
 let k:=aI s m.at_ 20
 if k<12 then binS s m.took b (nth opsL k.toNat)
 else if k=12 then ltuS s m.took b
 else if k=13 then divS s m.took b
 else if k<16 then iL s m.took b (decide (k=15))
 else if k=16 then nT s m.took b
 else if k=17 then xG s m.took b
 else m.took.took.took.constant b (ke s m.took)
section
variable{b:Nat}
theorem za{H:View}{n:Nat}{cs:List Value}(hc:gX H ⟨b,0,Pz⟩ cs)(hl:cs.length=n):Un.ev H (.bU n) (PB (Py ⟨b,0,Pz⟩))=Py (.agg cs.toArray):=by have:=fK hc n 0 #[] P2;simp only[Un.ev,vP,LM];rw[this];simp[<-hl]
theorem CO{H:View}{n:Nat}{cs:Array Value}{t:TypeId}(hb:H b=Py (.cells cs t (0,0)))(hl:cs.size=n):Un.ev H (.bU n) (PB (Py ⟨b,0,Pz⟩))=Py (.agg cs):=by have:gX H ⟨b,0,Pz⟩ cs.toList:=⟨cs,t,(0,0),rfl,hb,by simp[Lw]⟩;simpa using za this (by simpa using hl)
variable{vs vb vl:Value}{lb:List BlkM}
theorem MkB.Jr{s:List Int}{M:Nat}{W:View}{h:Heap}{o:Own}{m:MS}(w:Owns W h o)(b:MkB M vs m o vb vl lb):
  ∃X:View,W.le X/\X.le (vw h)/\(∀i,i<=5->ak X ⟨M,i,Pz⟩=Py ((mkL vs m.at_ m.ps vb m.next vl).getD i undef))/\SlRd X vb lb/\Av X vl/\∀i,i<m.blocks.length->Av X (nth lb i).phis.v/\Av X (nth lb i).ins.v:=by obtain⟨w5,s5⟩:=w.freeze (k:=(0,0)) (v:=PA (Py ⟨M,0,Pz⟩) 1 1) (l:=[RawN.mk (n:=5) (mkL vs m.at_ m.ps vb m.next vl)]) b.box;have hb2:o.upd (0,0) Pz (0,2)=it T.ey vb lb:=b.blk;obtain⟨w6,s6⟩:=w5.freeze (k:=(0,2)) (v:=vb) (l:=lb) hb2;have s5:=s5.mono (jm (h:=h) (w5.av (0,2) _ hb2));refine⟨_,Pt (jm (h:=h) (w.av (0,0) _ b.box)) (jm (h:=h) (w5.av (0,2) _ hb2)),w6.wle,λi hi=>?_,s6,w6.av (0,1) _ b.live,λi hi=>⟨w6.av (1,i) _ (b.phis i hi),w6.av (2,i) _ (b.ins i hi)⟩⟩;have:=((s5.at (i:=0) Sa).part (RawN.p (n:=5) (o:=i) hi)).raw;simpa[slA]using this
variable {s:List Int} {M:Nat} {vs:Value} {W:View} {h:Heap} {o:Own} {m:MS}
theorem MkB.cell(w:Owns W h o)(b:MkB M vs m o vb vl lb){i:Nat}(hi:i<=5):ak (vw h) ⟨M,i,Pz⟩=Py ((mkL vs m.at_ m.ps vb m.next vl).getD i undef):=w.raw b.box hi
theorem MkB.fG(bb:MkB M vs m o vb vl lb)(hb:b<m.blocks.length){x':BlkD}{y':BlkM}{o':Own}(hy:y'.term=x'.term)(h02:o' (0,2)=it T.ey vb (lb.set b y'))(h1:o' (1,b)=it T.nr y'.phis.v x'.phis)(h2:o' (2,b)=it T.dU y'.ins.v x'.ins)(ho : ∀q:Key,q≠(0,2)->q≠(1,b)->q≠(2,b)->o' q=o q):MkB M vs { m with blocks:=m.blocks.set b x' } o' vb vl (lb.set b y'):=by
 have hbl:b<lb.length:=by rw[bb.len];exact hb
 refine⟨(ho _ Sa Sa Sa).trans bb.box,(ho _ Sa Sa Sa).trans bb.live,h02,by simp[bb.len],λj hj=>?_,λj hj=>?_,λj hj=>?_⟩;all_goals
  have hj:j<m.blocks.length:=by simpa using hj
  have hjl:j<lb.length:=by rw[bb.len];exact hj
  show _=_
  simp only[bz hj,bz hjl]
  by_cases e:b=j
  ·subst e
   simp only[if_true]
   assumption
  ·simp only[if_neg e]
   first
    | exact bb.term j hj
    | exact(ho _ Sa (λq=>e (by injection q with _ q;exact q.symm)) Sa).trans (bb.phis j hj)
    | exact(ho _ Sa Sa (λq=>e (by injection q with _ q;exact q.symm))).trans (bb.ins j hj)
theorem Mk.value(w:Mk s M vs W h o m)(h1:m.at_<=999999990)(hl:m.live.length<=1000000000):
  az PE 124 #[PB (Py ⟨M,0,Pz⟩)] h (λu h'=>(m.live.length=0/\u = .tuple #[Pv Pw 0,.bool PD]/\h'=h)\/(m.live.length≠0/\u = .tuple #[Pv Pw (xl s m),.bool PC]/\I64 (xl s m)/\∃o',Mk s M vs W h' o' m.took.took/\∀k:Key,3<=k.1->o' k=o k)):=by
 refine au (args:=[PB (Py ⟨M,0,Pz⟩)]) follows Tryz.func124 E.gn Pp λK hK=>?_;obtain⟨vb,vl,lb,b⟩:=w.box;have c5:ak (vw h) ⟨M,5,Pz⟩=Py vl:=b.cell w.own (i:=5) P4;have hsl:=w.own.now b.live;dsimp only[L.gn,lkF,lkG];refine ab λz hz=>?_;simp;subst hz;refine ab λz hz=>?_;by_cases h0:m.live.length=0
 ·have h0':m.live=[]:=LH h0;simp[c5,hsl.len,h0];exact hK _ _ (.inl ⟨h0,rfl,rfl⟩)
 have h0':¬(m.live=[]):=λe=>h0 (by rw[e];rfl);simp[c5,hsl.len,h0'];subst hz;refine ab λz hz=>?_;simp[c5,hsl.len];refine af P1 (w.take P2 (n:=(m.live.length:Int)) P2 P2) ?_;rintro _ h2 ⟨rfl,o2,w2,f2⟩;subst hz;refine ab λz hz=>?_;simp;refine af P1 (w2.take (show m.at_+1<=_ by omega) (n:=3) P4 P4) ?_;rintro _ h3 ⟨rfl,o3,w3,f3⟩;have hx:m.took.at_=m.at_+1:=rfl;rw[hx];have hf : ∀k:Key,3<=k.1->o3 k=o k:=λk hk=>(f3 k hk).trans (f2 k hk);have hv:xl s m=_:=xl.eq_1 s m;obtain⟨vb3,vl3,lb3,b3⟩:=w3.box;have c53:ak (vw h3) ⟨M,5,Pz⟩=Py vl3:=b3.cell w3.own (i:=5) P4;have hsl3:SlRd (vw h3) vl3 m.live:=w3.own.now b3.live;obtain⟨r0,r1⟩:=cI (s:=s) (at_:=m.at_) (n:=(m.live.length:Int)) P2;generalize aI s m.at_ m.live.length=x at hv r0 r1;generalize aI s (m.at_+1) 3=q at hv;obtain⟨i,hi,hvi,hii⟩ : ∃i:Nat,i<m.live.length/\xl s m=nth m.live i/\(i:Int)=if q=0 then(m.live.length:Int)-1 else x:=by
  by_cases c:q=0
  ·rw[if_pos c]at hv ⊢;exact⟨m.live.length-1,by omega,hv,by omega⟩
  rw[if_neg c]at hv ⊢;exact⟨x.toNat,by omega,hv,by omega⟩
 have h64:IntKind.i64.wrap ((m.live.length:Int)-1)=(m.live.length:Int)-1:=bH P2 P2;have fin : ∀ρ:Env,ρ=[(0,PB (Py ⟨M,0,Pz⟩)),(2,Pv Pw 0),(3,.bool PD),(4,Pv Pw i),(17,Pv Pw x),(19,Pv Pw q)]->LC.wp PE z (dB [.tmp 2,.tmp 3] K) ρ h3:=by rintro _ rfl;subst hz;refine ab λz hz=>?_;simp(disch:=omega)[c53,hsl3.idx1 rfl,hsl3.int Ps];subst hz;simp;exact hK _ _ (.inr ⟨h0,by rw[hvi],by rw[hvi];exact hsl3.range hi,o3,w3,hf⟩)
 by_cases c:q=0
 ·rw[if_pos c]at hii;simp[c,c53,hsl3.len,h64];refine fin _ ?_;rw[hii,c]
 rw[if_neg c]at hii;simp[c];refine fin _ ?_;rw[hii]
theorem Mk.add (w:Mk s M vs W h o m) {b:Nat} {i:InsD} {v:Value} (hb:b<m.blocks.length) (hi:Rd W v i) (hn:(nth m.blocks b).ins.length<=100000000) (hl:m.live.length<=100000000) :
    az PE 89 #[PB (Py ⟨M,0,Pz⟩),Pv Pw b,v] h (λu h'=>Nx s M vs W h' o (m.add b i)):=by
  refine au (args:=[PB (Py ⟨M,0,Pz⟩),Pv Pw b,v]) follows Tryz.func89 E.iJ Pp λK hK=>?_
  obtain⟨vb,vl,lb,bb⟩:=w.box
  obtain⟨va,rfl,hir,hia⟩:=G7 hi
  dsimp only[L.iJ,lkF,lkG]
  refine ab λz hz=>?_
  simp
  refine hZ rfl (hi.mono w.own.wle) λh1 e1 hle1 hs1 hat=>?_
  have w1:=w.own.ext hle1
  have hbx:(grow W h h1) h.size=Py (.cells #[Pv Pw i.op,Pv Pw i.dst,Pv Pw i.two,va,Pv Px i.imm.v] T.dU (0,0)):=by
    rw[cU (Lp _),e1];simp[Value.cells]
  have hi1:=hi.mono (bW (h':=h1) w.own.wle)
  have src1:=w.src.mono (bW (h':=h1) w.own.wle)
  have hW1:=bW (h':=h1) w.own.wle
  clear hat e1
  have hld:=CO hbx (n:=5) rfl
  generalize grow W h h1=W1 at w1 hld hi1 src1 hW1
  generalize h.size=B at hld
  subst hz
  refine ab λz hz=>?_
  obtain⟨X,hWX,hX,cX,sX,avl,avX⟩:=bb.Jr (s:=s) w1
  have c3:ak X ⟨M,3,Pz⟩=Py vb:=cX 3 P4
  have hbl:b<lb.length:=by rw[bb.len];exact hb
  have a1:=(sX.at hbl).part BlkM.mw
  have hsv:=sX.bound
  have a2:ak X (((slA vb).add (b*6)).add 1)=Py (nth lb b).ins.v:=by rw[aA hbl];exact a1.raw
  have hldX:Un.ev X (.bU 5) (PB (Py ⟨B,0,Pz⟩))=Py (.agg #[Pv Pw i.op,Pv Pw i.dst,Pv Pw i.two,va,Pv Px i.imm.v]):=by
    have:=dy (ρ:=λ_=>Pz) (e:=.un (.bU 5) (.con (PB (Py ⟨B,0,Pz⟩)))) hWX (by simpa using hld)
    simpa using this
  refine aT X hX ?_
  simp(disch:=omega)[c3,sX.idxn (N:=6) rfl,a2,hldX]
  refine mC (α:=InsD) (W:=W1) (d:=i) El.mY rfl hi1 λu5 h5 src hle5 hs5=>⟨Pt hX hle5,?_⟩
  refine(w1.ext' hle5).df (k:=(2,b)) (α:=InsD) (v:=(nth lb b).ins.v) (l:=(nth m.blocks b).ins) (l2:=[i]) (bb.ins b hb) El.mY rfl rfl src P9 P9 λv6 h6 w6 m6=>⟨(m6.view (Pt hX hle5) (avX b hb).2).1,?_⟩
  have hv6:=(w6.cells (k:=(2,b)) Own.ao).2
  refine w6.pk (k:=(0,2)) (α:=BlkM) BlkM.mw (v:=vb) (l:=lb) (i:=b) (d:=⟨v6⟩) bb.blk P1 rfl rfl hbl (mE.2 ⟨rfl,hv6⟩) λh7 w7 _=>?_
  have b7:=bb.fG hb (x':={ nth m.blocks b with ins:=(nth m.blocks b).ins++[i] }) (y':={ lb[b]with ins:=⟨v6⟩ }) (o':=(o.upd (2,b) (it T.dU v6 ((nth m.blocks b).ins++[i]))).upd (0,2) (it T.ey vb (lb.set b { lb[b]with ins:=⟨v6⟩ }))) (by rw[<-bb.term b hb,aA hbl]) Own.ao (by rw[<-aA hbl];exact bb.phis b hb) ((Own.aB Sa).trans Own.ao) (λq h1 h2 h3=>by rw[Own.aB h1,Own.aB h3])
  generalize hm7:({ m with blocks:=m.blocks.set b { nth m.blocks b with ins:=(nth m.blocks b).ins++[i] } }:MS)=m7 at b7
  have hadd:m.add b i={ m7 with live:=m.live++cr i }:=by rw[<-hm7];rfl
  have hl7:m7.live=m.live:=by rw[<-hm7]
  have hf7 : ∀k:Key,3<=k.1->((o.upd (2,b) (it T.dU v6 ((nth m.blocks b).ins++[i]))).upd (0,2) (it T.ey vb (lb.set b { lb[b]with ins:=⟨v6⟩ }))) k=o k:=λk hk=>by
    rw[Own.aB (by rintro rfl;simp at hk),Own.aB (by rintro rfl;simp at hk)]
  generalize (o.upd (2,b) (it T.dU v6 ((nth m.blocks b).ins++[i]))).upd (0,2) (it T.ey vb (lb.set b { lb[b]with ins:=⟨v6⟩ }))=o7 at w7 b7 hf7
  generalize lb.set b { lb[b]with ins:=⟨v6⟩ }=lb7 at b7
  clear src avX m6
  subst hz
  refine ab λz hz=>?_
  have hld7:Un.ev (vw h7) (.bU 5) (PB (Py ⟨B,0,Pz⟩))=Py (.agg #[Pv Pw i.op,Pv Pw i.dst,Pv Pw i.two,va,Pv Px i.imm.v]):=by
    have:=dy (ρ:=λ_=>Pz) (e:=.un (.bU 5) (.con (PB (Py ⟨B,0,Pz⟩)))) w7.wle (by simpa using hld)
    simpa using this
  simp[hld7]
  refine af P1 (oq (hi1.mono w7.wle)) ?_
  rintro u8 h8 ⟨hle8,hu8,-⟩
  have w8:=w7.ext hle8
  have hu8:SlRd (grow W1 h7 h8) u8 (cr i):=hu8.mono (wE (Lp _) Ps)
  have hW8:=bW (h':=h8) w7.wle
  generalize grow W1 h7 h8=W8 at w8 hu8 hW8
  subst hz
  have c58:ak (vw h8) ⟨M,5,Pz⟩=Py vl:=b7.cell w8 (i:=5) P4
  have hmk:(cr i).length<=2:=by
                                         unfold cr;repeat' split
                                         all_goals simp
  simp[c58]
  refine w8.df (k:=(0,1)) (α:=Int) (v:=vl) (l:=m.live) (l2:=cr i) (by rw[<-hl7];exact b7.live) El.aR rfl rfl (hu8.src w8.wle) P2 P2 λv9 h9 w9 m9=>?_
  have hv9:=(w9.cells (k:=(0,1)) Own.ao).2
  have hbx9:(o7.upd (0,1) (it T.int v9 (m.live++cr i))) (0,0)=bx T.aY M (RawN.mk (n:=5) (mkL vs m7.at_ m7.ps vb m7.next vl)):=b7.box
  refine w9.dh (k:=(0,0)) (n:=5) (i:=5) (e:=T.aY) (B:=M) (l:=mkL vs m7.at_ m7.ps vb m7.next vl) hbx9 P4 P1 rfl rfl hv9 λh10 w10 _=>?_
  refine hK _ _ ⟨W8,_,Pt hW1 hW8,⟨w10,src1.mono hW8,vb,v9,lb7,?_⟩,λk hk=>?_⟩
  · rw[hadd]
    exact⟨rfl,rfl,b7.blk,b7.len,b7.term,b7.phis,b7.ins⟩
  · rw[Own.aB (by rintro rfl;simp at hk),Own.aB (by rintro rfl;simp at hk)]
    exact hf7 k hk
end
section
structure MS.ok (c:Nat) (m:MS):Prop where
 at_:m.at_<=c
 n0:0<=m.next
 next:m.next<=c
 live:m.live.length<=c
 ins : ∀i,(nth m.blocks i).ins.length<=c
theorem MS.ok.mono{c d:Nat}{m:MS}(h:m.ok c)(hd:c<=d):m.ok d:=
 ⟨by have:=h.at_;omega,h.n0,by have:=h.next;omega,by have:=h.live;omega,λi=>by have:=h.ins i;omega⟩
theorem MS.ok.took {c:Nat} {m:MS} (h:m.ok c):m.took.ok (c+1):=
 ⟨by have:=h.at_;show m.at_+1<=_;omega,h.n0,by have:=h.next;show m.next<=_;omega,by have:=h.live;show m.live.length<=_;omega,λi=>by have:=h.ins i;show(nth m.blocks i).ins.length<=_;omega⟩
theorem MS.ok.aK {c:Nat} {m:MS} (h:m.ok c):m.aK.ok (c+1):=
 ⟨by have:=h.at_;show m.at_<=_;omega,by have:=h.n0;show 0<=m.next+1;omega,by have:=h.next;show m.next+1<=_;omega,by have:=h.live;show m.live.length<=_;omega,λi=>by have:=h.ins i;show(nth m.blocks i).ins.length<=_;omega⟩
theorem Dx{i:InsD}:(cr i).length<=2:=by
 unfold cr;repeat' split
 all_goals simp
theorem MS.ok.add {c b:Nat} {m:MS} {i:InsD} (h:m.ok c):(m.add b i).ok (c+2):=by
 refine⟨by have:=h.at_;show m.at_<=_;omega,h.n0,by have:=h.next;show m.next<=_;omega,?_,λj=>?_⟩
 ·have:=h.live;have:=Dx (i:=i);show(m.live++cr i).length<=_;rw[Lx];omega
 show(nth (m.blocks.set b _) j).ins.length<=_;have hj:=h.ins j;rcases Lr j m.blocks.length with hl | hl
 ·rw[bz hl];split
  ·rename_i e;subst e;rw[Lx,LP];omega
  omega
 rw[cL (by simpa using hl)];rw[cL hl]at hj;omega
theorem MS.ok.constant {c b:Nat} {m:MS} {n:Int} (h:m.ok c):(m.constant b n).ok (c+3):=h.aK.add
theorem MS.ok.two {c b:Nat} {m:MS} {op x y:Int} (h:m.ok c):(m.two b op x y).ok (c+3):=h.aK.add
variable {s:List Int} {M:Nat} {vs:Value} {W:View} {h:Heap} {o:Own} {m:MS}
theorem MS.ok.aJ {c b:Nat} (h:m.ok c):(aJ s m b).2.ok (c+10):=by
 unfold Go.Proofs.YtnfiilgdjpdlkaaGreatDoor.aJ;repeat' split
 ·exact(h.took.took.constant).mono P2
 ·exact(h.took.took.took.took.took.constant).mono P2
 exact(h.took.took.took).mono P2
variable{b:Nat}
theorem lS{i:InsD}:(m.add b i).blocks.length=m.blocks.length:=by simp[MS.add]
theorem dv:(aJ s m b).2.blocks.length=m.blocks.length:=by
 unfold aJ;repeat' split
 all_goals simp[BV,MS.constant,lS,MS.took,MS.aK]
theorem Mk.constant (w:Mk s M vs W h o m) {b c:Nat} {n:Int} (hb:b<m.blocks.length) (hm:m.ok c) (hc:c<=1000000) (hn:-2147483648<=n/\n<=2147483647) :
  az PE 58 #[PB (Py ⟨M,0,Pz⟩),Pv Pw b,Pv Px n] h (λu h'=>u = Pv Pw m.next/\Nx s M vs W h' o (m.constant b n)):=by refine au (args:=[PB (Py ⟨M,0,Pz⟩),Pv Pw b,Pv Px n]) follows Tryz.func58 E.eI Pp λK hK=>?_;have q1:=hm.next;have q0:=hm.n0;dsimp only[L.eI,lkF,lkG];refine ab λz hz=>?_;simp;subst hz;refine ab λz hz=>?_;simp;refine af P1 (w.fresh q0 P2) ?_;rintro _ h2 ⟨rfl,o2,w2,f2⟩;subst hz;refine ab λz hz=>?_;simp;refine ay (z:=.agg #[Pv Pw 0,Pv Pw 0,Pv Pw 0,PA Pz 0 0,Pv Px 0]) (places:=[(0,1),(1,1),(2,1),(3,1),(4,1)]) (vs:=[(0,Pv Pw 1),(1,Pv Pw m.next),(4,Pv Px n)]) (cs:=#[Pv Pw 1,Pv Pw m.next,Pv Pw 0,PA Pz 0 0,Pv Px n]) P1 P1 Sa P1 ?_;have hm2:=hm.aK;refine af P1 (w2.add (i:=conD m.next n) hb (Ad (imm:=⟨n⟩) ⟨⟨P4,P4⟩,P6,⟨P4,P4⟩,hn⟩ aN) (by have:=hm2.ins b;omega) (by have:=hm2.live;omega)) ?_;rintro u3 h3 n3;subst hz;simp;exact hK _ _ ⟨rfl,n3.trans Ps f2⟩
theorem CG(w:Mk s M vs W h o m){c:Nat}(hb:b<m.blocks.length)(hm:m.ok c)(hc:c<=999990):
  az PE 88 #[PB (Py ⟨M,0,Pz⟩),Pv Pw b] h (λu h'=>u = Pv Pw (aJ s m b).1/\I64 (aJ s m b).1/\Nx s M vs W h' o (aJ s m b).2):=by
 refine au (args:=[PB (Py ⟨M,0,Pz⟩),Pv Pw b]) follows Tryz.func88 E.gZ Pp λK hK=>?_;have qa:=hm.at_;have ql:=hm.live;have hsd:aJ s m b=_:=aJ.eq_1 s m b;dsimp only[L.gZ,lkF,lkG];refine ab λz hz=>?_;simp;subst hz;refine ab λz hz=>?_;simp;refine af P1 (w.value P2 P2) ?_;rintro u h2 hu;have con : ∀{m2:MS} {o2:Own} {h2:Heap} {ρ:Env} {z:LC},Mk s M vs W h2 o2 m2->(∀k:Key,3<=k.1->o2 k=o k)->m2.ok (c+3)->b<m2.blocks.length->aJ s m b=(m2.next,BV s m2 b)->Lft.look ρ 0=Py (PB (Py ⟨M,0,Pz⟩))->Lft.look ρ 1=Py (Pv Pw b)->
   LC.wp PE (.seq (.reg PD (.loud [19,20,21] [(19,(.tmp 0)),(20,(.tmp 1))] [(21,(.tmp 0))] Pz [] PD (.call ⟨.value (.func 59),#[(.tmp 21)],#[T.pO]⟩) 21 (Py 22) PC
   (.loud [] [] [(19,(.tmp 19)),(20,(.tmp 20)),(22,(.tmp 22))] Pz [] PD (.call ⟨.value (.func 58),#[(.tmp 19),(.tmp 20),(.tmp 22)],#[T.pO,3,21]⟩) 3 (Py 23) PC
    (.fin [4] [(4,(.tmp 23))] [])))) .ret) (eG (LC.wp PE z (dB [.tmp 4] K)) (dB [.tmp 4] K)) ρ h2:=by intro m2 o2 h2 ρ z w2 f2 k2 b2 e2 r0 r1;refine ab λy hy=>?_;simp[r0,r1];refine af P1 (w2.word (by have:=k2.at_;omega)) ?_;rintro _ h3 ⟨rfl,o3,w3,f3⟩;simp[ag,ah,r0,r1];refine af P1 (w3.constant (n:=ke s m2) b2 k2.took.took P2 oP) ?_;rintro _ h4 ⟨rfl,n4⟩;subst hy;simp[ag,ah];refine hK _ _ ⟨by rw[e2];rfl,by rw[e2];have:=k2.n0;have:=k2.next;exact⟨by show _<=m2.next;omega,by show m2.next<=_;omega⟩,?_⟩;rw[e2];exact n4.trans Ps λk hk=>(f3 k hk).trans (f2 k hk)
 rcases hu with⟨h0,rfl,rfl⟩ | ⟨h0,rfl,hi64,o2,w2,f2⟩
 ·rw[if_pos h0]at hsd;simp;subst hz;refine ab λz hz=>?_;refine ab λy hy=>?_;simp;subst hy;refine aW Sa ?_;exact con w (λ_ _=>rfl) (hm.mono P2) hb hsd (by simp[ag,ah]) (by simp[ag,ah])
 rw[if_neg h0]at hsd;simp;subst hz;refine ab λz hz=>?_;refine ab λy hy=>?_;simp;have k2:=hm.took.took;refine af P1 (w2.take (by have:=k2.at_;omega) (n:=9) P4 P4) ?_;rintro _ h3 ⟨rfl,o3,w3,f3⟩;have hx:m.took.took.at_=m.at_+2:=rfl;rw[hx];simp;subst hy;by_cases c9:aI s (m.at_+2) 9=0
 ·rw[if_pos c9]at hsd;refine aW (by simp[c9]) ?_;exact con w3 (λk hk=>(f3 k hk).trans (f2 k hk)) k2.took hb hsd (by simp[ag,ah]) (by simp[ag,ah])
 rw[if_neg c9]at hsd;refine aV (by simp[c9]) ?_;simp;subst hz;simp;refine hK _ _ ⟨by rw[hsd],by rw[hsd];exact hi64,?_⟩;rw[hsd];exact w3.nx.trans Ps λk hk=>(f3 k hk).trans (f2 k hk)
end
def Nz (s:List Int) (M:Nat) (vs:Value) (W0:View) (h:Heap) (o0:Own) (m:MS) (u:Value) (ds:List Int):Prop:=∃W o,W0.le W/\Mk s M vs W h o m/\(∀k:Key,3<=k.1->o k=o0 k)/\SlRd W u ds
section
variable {s:List Int} {M:Nat} {vs:Value} {W0:View} {h:Heap} {o0:Own} {m:MS} {u:Value} {ds:List Int}
theorem Nx.z(n:Nx s M vs W0 h o0 m):Nz s M vs W0 h o0 m (PA Pz 0 0) []:=by obtain⟨W,o,h1,h2,h3⟩:=n;exact⟨W,o,h1,h2,h3,aN⟩
theorem Nz.x(n:Nz s M vs W0 h o0 m u ds):Nx s M vs W0 h o0 m:=by obtain⟨W,o,h1,h2,h3,_⟩:=n;exact⟨W,o,h1,h2,h3⟩
theorem Nz.call{f:FuncId}{args:Array Value}{m':MS}{U:Value->Prop}(hc : ∀{W o},Mk s M vs W h o m->az PE f args h (λu h'=>U u/\Nx s M vs W h' o m'))(n:Nz s M vs W0 h o0 m u ds):
  az PE f args h (λv h'=>U v/\Nz s M vs W0 h' o0 m' u ds):=by obtain⟨W,o,h1,h2,h3,h4⟩:=n;refine(hc h2).mono ?_;rintro v h' ⟨hU,W',o',g1,g2,g3⟩;exact⟨hU,W',o',Pt h1 g1,g2,λk hk=>(g3 k hk).trans (h3 k hk),h4.mono g1⟩
theorem eh(n:Nz s M vs W0 h o0 m u ds){c:Nat}(hm:m.ok c)(hc:c<=1000000){k:Int}(hk:0<k)(hk2:k<=1000000000):
  az PE 34 #[PB (Py ⟨M,0,Pz⟩),Pv Pw k] h (λv h'=>v = Pv Pw (aI s m.at_ k)/\Nz s M vs W0 h' o0 m.took u ds):=
 n.call (U:=λv=>v=_) λw=>((w.take (by have:=hm.at_;omega) hk hk2).mono λv h' ⟨e,o',w',f'⟩=>⟨e,w'.nx.trans Ps f'⟩)
theorem fW(n:Nz s M vs W0 h o0 m u ds){c:Nat}(hm:m.ok c)(hc:c<=1000000):
  az PE 52 #[PB (Py ⟨M,0,Pz⟩)] h (λv h'=>v = Pv Pw m.next/\Nz s M vs W0 h' o0 m.aK u ds):=
 n.call (U:=λv=>v=_) λw=>((w.fresh hm.n0 (by have:=hm.next;omega)).mono λv h' ⟨e,o',w',f'⟩=>⟨e,w'.nx.trans Ps f'⟩)
theorem yu(n:Nz s M vs W0 h o0 m u ds){c:Nat}(hm:m.ok c)(hc:c<=1000000):
  az PE 59 #[PB (Py ⟨M,0,Pz⟩)] h (λv h'=>v = Pv Px (ke s m)/\Nz s M vs W0 h' o0 m.took.took u ds):=
 n.call (U:=λv=>v=_) λw=>((w.word (by have:=hm.at_;omega)).mono λv h' ⟨e,o',w',f'⟩=>⟨e,w'.nx.trans Ps f'⟩)
variable{b:Nat}
theorem fE(n:Nz s M vs W0 h o0 m u ds){c:Nat}(hb:b<m.blocks.length)(hm:m.ok c)(hc:c<=1000000){k:Int}(hk:-2147483648<=k/\k<=2147483647):
  az PE 58 #[PB (Py ⟨M,0,Pz⟩),Pv Pw b,Pv Px k] h (λv h'=>v = Pv Pw m.next/\Nz s M vs W0 h' o0 (m.constant b k) u ds):=
 n.call (U:=λv=>v=_) λw=>w.constant hb hm hc hk
theorem gU(n:Nz s M vs W0 h o0 m u ds){c:Nat}(hb:b<m.blocks.length)(hm:m.ok c)(hc:c<=999990):
  az PE 88 #[PB (Py ⟨M,0,Pz⟩),Pv Pw b] h (λv h'=>(v = Pv Pw (aJ s m b).1/\I64 (aJ s m b).1)/\Nz s M vs W0 h' o0 (aJ s m b).2 u ds):=
 n.call (U:=λv=>v=_/\_) λw=>(CG w hb hm hc).mono λv h' ⟨e1,e2,e3⟩=>⟨⟨e1,e2⟩,e3⟩
variable{op:Int}
theorem kE(n:Nz s M vs W0 h o0 m u ds){c:Nat}{d two imm:Int}(hb:b<m.blocks.length)(hm:m.ok c)(hc:c<=1000000)(h1:I64 op)(h2:I64 d)(h3:I64 two)(h4:-2147483648<=imm/\imm<=2147483647):
  az PE 89 #[PB (Py ⟨M,0,Pz⟩),Pv Pw b,.agg #[Pv Pw op,Pv Pw d,Pv Pw two,u,Pv Px imm]] h (λv h'=>Nx s M vs W0 h' o0 (m.add b ⟨op,d,two,ds,⟨imm⟩⟩)):=by obtain⟨W,o,g1,g2,g3,g4⟩:=n;refine(g2.add (i:=⟨op,d,two,ds,⟨imm⟩⟩) hb (Ad (imm:=⟨imm⟩) ⟨h1,h2,h3,h4⟩ g4) (by have:=hm.ins b;omega) (by have:=hm.live;omega)).mono ?_;rintro v h' n';exact n'.trans g1 g3
theorem Nz.lit{po:OP}(n:Nz s M vs W0 h o0 m u ds){ty:TypeId}{ps:Array (Nat × Operand)}{us:List (Nat × Value)}{ls:List Int}{k:Nat}{K:Value->Heap->Prop}(hp:ps.map (λp=>(p.1,asg us p.2))=(((ls.map λx=>Pv Pw x).zipIdx 0).map λp=>(p.2,p.1)).toArray)(hr : ∀x∈ls,I64 x)(hn:ls.length=k)(hb:k<=16777216)(hk : ∀a n c h',(vw h).le (vw h')->Nz s M vs W0 h' o0 m (.slice a n c) ls->K (.slice a n c) h'):@Lft.step po PE (.buildSlice T.aR k ps) ty us h K:=by
 obtain⟨W,o,g1,g2,g3,g4⟩:=n;have hra : ∀l:List Int,(∀x∈l,I64 x)->ou W (l.map λx=>Pv Pw x) l:=by
  intro l;induction l with
  | nil=>intro _;trivial
  | cons a l ih=>intro hl;exact⟨bn.2 ⟨rfl,hl a Sa⟩,ih λx hx=>hl x (by simp[hx])⟩
 refine kO (X:=W) (ds:=ls) (vs:=ls.map λx=>Pv Pw x) rfl El.aR hp (hra ls hr) g2.own.wle hn hb λv h' hle hs hv _=>?_;have hs2:=hv _ (bW g2.own.wle) (cU (Lp _));obtain⟨a,cp,rfl,_⟩:=id hs2;refine hk _ _ _ h' hle ?_;exact⟨_,o,Pt g1 (bW g2.own.wle),⟨g2.own.ext hle,g2.src.mono (bW g2.own.wle),g2.box⟩,g3,hs2⟩
end
theorem MS.ok.jn{c:Nat}{m:MS}(h:m.ok c)(hc:c<=1000000):I64 m.next:=by have:=h.n0;have:=h.next;constructor<;>omega
variable{b:Nat}
theorem dq{m:MS}{n:Int}:(m.constant b n).blocks.length=m.blocks.length:=lS
variable{op:Int}
theorem nG{m:MS}{x y:Int}:(m.two b op x y).blocks.length=m.blocks.length:=lS
theorem i64c{x:Int}(h0:-1000<=x:=by decide)(h1:x<=1000:=by decide):I64 x:=P6
variable{vs:Value}
theorem CW{s:List Int}{M:Nat}{W0:View}{h:Heap}{o0:Own}{m:MS}(n:Nx s M vs W0 h o0 m){c:Nat}{store:Bool}(hb:b<m.blocks.length)(hm:m.ok c)(hc:c<=900000):
  az PE 90 #[PB (Py ⟨M,0,Pz⟩),Pv Pw b,.bool store] h (λv h'=>Nx s M vs W0 h' o0 (iL s m b store)):=by
 refine au (args:=[PB (Py ⟨M,0,Pz⟩),Pv Pw b,.bool store]) follows Tryz.func90 E.fH Pp λK hK=>?_;dsimp only[L.fH,lkF,lkG];have n:=n.z;have hmm:iL s m b store=_:=iL.eq_1 s m b store;refine ab λz hz=>?_;simp;refine af P1 (eh n hm P2 (k:=9) P4 P4) ?_;rintro _ h1 ⟨rfl,n⟩;simp;refine af P1 (fE n (b:=b) hb hm.took P2 (k:=IntKind.i32.wrap (aI s m.at_ 9)) lX) ?_;rintro _ h2 ⟨rfl,n⟩;have q:=hm.took.constant (b:=b) (n:=IntKind.i32.wrap (aI s m.at_ 9));have hb1:b<(m.took.constant b (IntKind.i32.wrap (aI s m.at_ 9))).blocks.length:=by rw[dq];exact hb
 obtain⟨m1,hm1⟩ : ∃m1,m1=m.took.constant b (IntKind.i32.wrap (aI s m.at_ 9)):=⟨_,rfl⟩;have had:nR s m b=_:=nR.eq_1 s m b;rw[<-hm1]at n q hb1;simp only[<-hm1]at had;have hnx:I64 m.next:=hm.jn P2;have hnt:m.took.next=m.next:=rfl;rw[hnt];generalize m.next=a0 at had hnx;clear hm1 hm hnt;subst hz;refine ab λz hz=>?_;have fin : ∀(a:Int) (m2:MS) (h':Heap) (ρ:Env),nR s m b=(a,m2)->I64 a->m2.ok (c+30)->b<m2.blocks.length->Nz s M vs W0 h' o0 m2 (PA Pz 0 0) []->Lft.look ρ 0=Py (PB (Py ⟨M,0,Pz⟩))->Lft.look ρ 1=Py (Pv Pw b)->Lft.look ρ 2=Py (.bool store)->Lft.look ρ 6=Py (Pv Pw a)->LC.wp PE z (dB [] K) ρ h':=by
  intro a m2 h' ρ e ha q hb n r0 r1 r2 r6;subst hz;simp only[e]at hmm;refine ab λz hz=>?_;simp[ag,ah,r0,r1,r2,r6];refine af P1 (eh n q P2 (k:=4) P4 P4) ?_;rintro _ h1 ⟨rfl,n⟩;simp[ag,ah,r0,r1,r2,r6];subst hz;refine ab λz hz=>?_;have fin2 : ∀(i:Int) (m3:MS) (h':Heap) (ρ:Env),offS s m2=(i,m3)->(-2147483648<=i/\i<=2147483647)->m3.ok (c+40)->b<m3.blocks.length->Nz s M vs W0 h' o0 m3 (PA Pz 0 0) []->Lft.look ρ 0=Py (PB (Py ⟨M,0,Pz⟩))->Lft.look ρ 1=Py (Pv Pw b)->Lft.look ρ 2=Py (.bool store)->Lft.look ρ 6=Py (Pv Pw a)->Lft.look ρ 11=Py (Pv Px i)->LC.wp PE z (dB [] K) ρ h':=by
   intro i m3 h' ρ e hi q hb n r0 r1 r2 r6 r11;subst hz;simp only[e]at hmm;refine ab λz hz=>?_;simp[ag,ah,r0,r1,r2,r6,r11];subst hz;cases store with
   | true=>rw[if_pos rfl]at hmm;refine aW (by simp[ag,ah,r2]) ?_;simp[ag,ah,r0,r1,r2,r6,r11];refine af P1 (gU n hb q P2) ?_;rintro _ h1 ⟨⟨rfl,hs⟩,n⟩;refine n.lit (ls:=[a,(aJ s m3 b).1]) Sa (by simp[ha,hs]) rfl P4 λua un uc h2 _ n=>?_;refine ay (z:=.agg #[Pv Pw 0,Pv Pw 0,Pv Pw 0,PA Pz 0 0,Pv Px 0]) (places:=[(0,1),(1,1),(2,1),(3,1),(4,1)]) (vs:=[(0,Pv Pw 16),(3,.slice ua un uc),(4,Pv Px i)]) (cs:=#[Pv Pw 16,Pv Pw 0,Pv Pw 0,.slice ua un uc,Pv Px i]) P1 P1 Sa P1 ?_;refine af P1 (kE n (b:=b) (by rw[dv];exact hb) (q.aJ (b:=b)) P2 i64c i64c i64c hi) ?_;rintro _ h3 n;refine hK _ _ ?_;rw[hmm];exact n
   | false=>rw[if_neg Sa]at hmm;refine aV (by simp[ag,ah,r2]) ?_;simp[ag,ah,r0,r1,r2,r6,r11];refine af P1 (fW n q P2) ?_;rintro _ h1 ⟨rfl,n⟩;refine n.lit (ls:=[a]) Sa (by simp[ha]) rfl P4 λua un uc h2 _ n=>?_;refine ay (z:=.agg #[Pv Pw 0,Pv Pw 0,Pv Pw 0,PA Pz 0 0,Pv Px 0]) (places:=[(0,1),(1,1),(2,1),(3,1),(4,1)]) (vs:=[(0,Pv Pw 15),(1,Pv Pw m3.next),(3,.slice ua un uc),(4,Pv Px i)]) (cs:=#[Pv Pw 15,Pv Pw m3.next,Pv Pw 0,.slice ua un uc,Pv Px i]) P1 P1 Sa P1 ?_;refine af P1 (kE n (b:=b) hb q.aK P2 i64c (q.jn P2) i64c hi) ?_;rintro _ h3 n;refine hK _ _ ?_;rw[hmm];exact n
  have hof:offS s m2=_:=offS.eq_1 s m2;refine ab λy hy=>?_;simp[ag,ah,r0,r1,r2,r6];refine af P1 (eh n q.took P2 (k:=12) P4 P4) ?_;rintro _ h2 ⟨rfl,n⟩;have hx:m2.took.at_=m2.at_+1:=rfl;rw[hx];simp[ag,ah,r0,r1,r2,r6];subst hy;by_cases c12:aI s (m2.at_+1) 12=0
  ·rw[if_pos c12]at hof;refine aW (by simp[ag,ah,c12]) ?_;simp[ag,ah,r0,r1,r2,r6];refine af P1 (yu n q.took.took P2) ?_;rintro _ h3 ⟨rfl,n⟩;exact fin2 _ _ h3 _ hof oP (q.took.took.took.took.mono P2) hb n (by simp[ag,ah,r0]) (by simp[ag,ah,r1]) (by simp[ag,ah,r2]) (by simp[ag,ah,r6]) (by simp[ag,ah])
  rw[if_neg c12]at hof;refine aV (by simp[ag,ah,c12]) ?_;simp[ag,ah,r0,r1,r2,r6];exact fin2 _ _ h2 _ hof lX (q.took.took.mono P2) hb n (by simp[ag,ah,r0]) (by simp[ag,ah,r1]) (by simp[ag,ah,r2]) (by simp[ag,ah,r6]) (by simp[ag,ah])
 refine ab λy hy=>?_;simp;refine af P1 (eh n q P2 (k:=3) P4 P4) ?_;rintro _ h3 ⟨rfl,n⟩;simp;subst hy;by_cases c3:aI s m1.at_ 3=0
 ·rw[if_pos c3]at had;refine aW (by simp[c3]) ?_;refine ab λy hy=>?_;simp;refine af P1 (gU n (b:=b) hb1 q.took P2) ?_;rintro _ h4 ⟨⟨rfl,hs⟩,n⟩;have q:=q.took.aJ (s:=s) (b:=b);have hb2:b<(aJ s m1.took b).2.blocks.length:=by rw[dv];exact hb1
  generalize aJ s m1.took b=r at had hs n q hb2;subst hy;refine ab λy hy=>?_;simp;refine af P1 (fE n (b:=b) hb2 q P2 (k:=7) P4) ?_;rintro _ h5 ⟨rfl,n⟩;subst hy;refine ab λy hy=>?_;simp;have q5:=q.constant (b:=b) (n:=7);refine af P1 (fW n q5 P2) ?_;rintro _ h6 ⟨rfl,n⟩;have hn5:(r.2.constant b 7).next=r.2.next+1:=rfl;rw[hn5];subst hy;refine ab λy hy=>?_;simp;have i5:=q5.jn P2;rw[hn5]at i5;refine n.lit (ls:=[r.1,r.2.next]) Sa (by simp[hs,q.jn (by omega:c+1+3+1+10<=1000000)]) rfl P4 λua un uc h7 _ n=>?_;refine ay (z:=.agg #[Pv Pw 0,Pv Pw 0,Pv Pw 0,PA Pz 0 0,Pv Px 0]) (places:=[(0,1),(1,1),(2,1),(3,1),(4,1)]) (vs:=[(0,Pv Pw 5),(1,Pv Pw (r.2.next+1)),(3,.slice ua un uc)]) (cs:=#[Pv Pw 5,Pv Pw (r.2.next+1),Pv Pw 0,.slice ua un uc,Pv Px 0]) P1 P1 Sa P1 ?_;refine af P1 (kE n (b:=b) (imm:=0) (by rw[show(r.2.constant b 7).aK.blocks=(r.2.constant b 7).blocks from rfl,dq];exact hb2) q5.aK P2 i64c i5 i64c P4) ?_;rintro _ h8 n;have n:Nx s M vs W0 h8 o0 ((r.2.constant b 7).two b 5 r.1 r.2.next):=n;have q6:=q5.two (b:=b) (op:=5) (x:=r.1) (y:=r.2.next);have hb3:b<((r.2.constant b 7).two b 5 r.1 r.2.next).blocks.length:=by rw[nG,dq];exact hb2
  generalize (r.2.constant b 7).two b 5 r.1 r.2.next=m3 at had n q6 hb3;have n:=n.z;subst hy;refine ab λy hy=>?_;simp;refine af P1 (fW n q6 P2) ?_;rintro _ h9 ⟨rfl,n⟩;subst hy;refine ab λy hy=>?_;simp;refine n.lit (ls:=[a0,r.2.next+1]) Sa (by simp[hnx,i5]) rfl P4 λua2 un2 uc2 h10 _ n=>?_;refine ay (z:=.agg #[Pv Pw 0,Pv Pw 0,Pv Pw 0,PA Pz 0 0,Pv Px 0]) (places:=[(0,1),(1,1),(2,1),(3,1),(4,1)]) (vs:=[(0,Pv Pw 2),(1,Pv Pw m3.next),(3,.slice ua2 un2 uc2)]) (cs:=#[Pv Pw 2,Pv Pw m3.next,Pv Pw 0,.slice ua2 un2 uc2,Pv Px 0]) P1 P1 Sa P1 ?_;refine af P1 (kE n (b:=b) (imm:=0) hb3 q6.aK P2 i64c (q6.jn P2) i64c P4) ?_;rintro _ h11 n;subst hy;simp;refine fin m3.next (m3.two b 2 a0 (r.2.next+1)) h11 _ had (q6.jn P2) (q6.two.mono P2) (by rw[nG];exact hb3) n.z ?_ ?_ ?_ ?_;all_goals simp
 rw[if_neg c3]at had;refine aV (by simp[c3]) ?_;simp;exact fin a0 m1.took h3 _ had hnx (q.took.mono P2) hb1 n Sa Sa Sa Sa
section
variable {s:List Int} {M:Nat} {vs:Value} {W0:View} {h:Heap} {o0:Own} {m:MS} {u:Value} {ds:List Int}
theorem Nz.le (n:Nz s M vs W0 h o0 m u ds):W0.le (vw h):=by obtain⟨W,o,h1,h2,_⟩:=n;exact Pt h1 h2.own.wle
theorem Nz.base(n:Nz s M vs W0 h o0 m u ds): ∃W o,Nz s M vs W h o m u ds/\SlRd W u ds/\∀{h' m' u' ds'},Nz s M vs W h' o m' u' ds'->Nz s M vs W0 h' o0 m' u' ds':=by obtain⟨W,o,h1,h2,h3,h4⟩:=n;refine⟨W,o,⟨W,o,View.le_refl _,h2,λ_ _=>rfl,h4⟩,h4,?_⟩;rintro h' m' u' ds' ⟨W',o',g1,g2,g3,g4⟩;exact⟨W',o',Pt h1 g1,g2,λk hk=>(g3 k hk).trans (h3 k hk),g4⟩
end
theorem Ev{H:View}{B n:Nat}{l:List Int}{t:TypeId}(hb:H B=Py (.cells (l.map λx=>Pv Pw x).toArray t (0,0)))(hn:l.length=n)(h1:0<n/\n<=1000)(hr : ∀x∈l,I64 x):SlRd H (PA (Py ⟨B,0,Pz⟩) n n) l:=by
 refine⟨Py ⟨B,0,Pz⟩,n,by rw[hn],by omega,by omega,.inr ⟨⟨B,0,Pz⟩,rfl,rfl,λi hi=>?_⟩⟩;have e:(⟨B,0,Pz⟩:Addr).add (i*Rep.n Int)=⟨B,i,Pz⟩:=by show(⟨B,0,Pz⟩:Addr).add (i*1)=_;simp
 rw[e];refine⟨[Pv Pw l[i]],⟨_,t,(0,0),rfl,hb,?_⟩,(bn (v:=Pv Pw l[i]) (H:=H)).2 ⟨rfl,hr _ (MJ hi)⟩ |> λq=>?_⟩
 ·show((l.map λx=>Pv Pw x).toArray.toList.drop i).take 1=_;rw[List.toList_toArray,LS (by simpa using hi)];simp
 exact⟨rfl,hr _ (MJ hi)⟩
theorem D3: ∀x∈opsL,I64 x:=by
 intro x hx;have : ∀x∈opsL,0<=x/\x<=12:=by decide
 have:=this x hx;exact P6
variable{vb vl:Value}{lb:List BlkM}
theorem MkB.frame{M:Nat}{m:MS}{o o':Own}(b:MkB M vs m o vb vl lb)(hf : ∀k:Key,k.1<3->o' k=o k):MkB M vs m o' vb vl lb:=
 ⟨(hf _ P4).trans b.box,(hf _ P4).trans b.live,(hf _ P4).trans b.blk,b.len,b.term,λi hi=>(hf _ (by show 1<3;decide)).trans (b.phis i hi),λi hi=>(hf _ (by show 2<3;decide)).trans (b.ins i hi)⟩
theorem zw{s:List Int}{x:List Int × MS}: ∀k,(up (gK s b) k x).2.blocks.length=x.2.blocks.length:=by
 intro k;induction k with
 | zero=>rfl
 | succ k ih=>show(aJ s (up (gK s b) k x).2 b).2.blocks.length=_;rw[dv,ih]
theorem CA{s:List Int}{c:Nat}{x:List Int × MS}(hx:x.2.ok c): ∀k,(up (gK s b) k x).2.ok (c+10*k)/\(up (gK s b) k x).1.length=x.1.length+k/\(up (gK s b) k x).2.blocks.length=x.2.blocks.length:=by
 intro k;induction k with
 | zero=>exact⟨hx,rfl,rfl⟩
 | succ k ih=>
  obtain⟨h1,h2,h3⟩:=ih;refine⟨(h1.aJ).mono P2,?_,?_⟩
  ·show((up (gK s b) k x).1++[_]).length=_;rw[Lx,h2,LP];omega
  show(aJ s (up (gK s b) k x).2 b).2.blocks.length=_;rw[dv,h3]
theorem wD{s:List Int}{M:Nat}{W0:View}{h:Heap}{o0:Own}{m:MS}(n:Nx s M vs W0 h o0 m){c:Nat}(hb:b<m.blocks.length)(hm:m.ok c)(hc:c<=800000)(hfree:o0 (9,0)=Pz):
  az PE 55 #[PB (Py ⟨M,0,Pz⟩),Pv Pw b] h (λv h'=>Nx s M vs W0 h' o0 (aP s b m)):=by
 refine au (args:=[PB (Py ⟨M,0,Pz⟩),Pv Pw b]) follows Tryz.func55 E.aX Pp λK hK=>?_;dsimp only[L.aX,lkF,lkG];have n:=n.z;have hmm:aP s b m=_:=aP.eq_1 s b m;refine ab λz hz=>?_;simp;refine af P1 (eh n hm P2 (k:=20) P4 P4) ?_;rintro _ h1 ⟨rfl,n⟩;obtain⟨k0,k1⟩:=cI (s:=s) (at_:=m.at_) (n:=20) P4;have q:=hm.took;have hb1:b<m.took.blocks.length:=hb;subst hz;generalize aI s m.at_ 20=k at hmm k0 k1;generalize hm1:m.took=m1 at hmm n q hb1;have hw:ke s m1=ke s m1:=rfl;simp only[aL];refine ab λz hz=>?_;simp;subst hz;by_cases c1:k<12
 ·rw[if_pos c1]at hmm;refine aW (by simp[c1]) ?_;obtain⟨kn,rfl⟩ : ∃kn:Nat,k=kn:=⟨k.toNat,by omega⟩;have hkn:kn<12:=by omega
  refine ab λz hz=>?_;simp;have hcs:(#[Pv Pw 2,Pv Pw 2,Pv Pw 3,Pv Pw 4,Pv Pw 5,Pv Pw 6,Pv Pw 7,Pv Pw 8,Pv Pw 9,Pv Pw 10,Pv Pw 12,Pv Pw 11]:Array Value)=(opsL.map λx=>Pv Pw x).toArray:=rfl;refine ay (z:=.agg #[Pv Pw 0,Pv Pw 0,Pv Pw 0,Pv Pw 0,Pv Pw 0,Pv Pw 0,Pv Pw 0,Pv Pw 0,Pv Pw 0,Pv Pw 0,Pv Pw 0,Pv Pw 0]) (places:=[(0,1),(1,1),(2,1),(3,1),(4,1),(5,1),(6,1),(7,1),(8,1),(9,1),(10,1),(11,1)]) (vs:=[(0,Pv Pw 2),(1,Pv Pw 2),(2,Pv Pw 3),(3,Pv Pw 4),(4,Pv Pw 5),(5,Pv Pw 6),(6,Pv Pw 7),(7,Pv Pw 8),(8,Pv Pw 9),(9,Pv Pw 10),(10,Pv Pw 12),(11,Pv Pw 11)])
   (cs:=#[Pv Pw 2,Pv Pw 2,Pv Pw 3,Pv Pw 4,Pv Pw 5,Pv Pw 6,Pv Pw 7,Pv Pw 8,Pv Pw 9,Pv Pw 10,Pv Pw 12,Pv Pw 11]) P1 P1 Sa P1 ?_;refine gk (v:=.agg #[Pv Pw 2,Pv Pw 2,Pv Pw 3,Pv Pw 4,Pv Pw 5,Pv Pw 6,Pv Pw 7,Pv Pw 8,Pv Pw 9,Pv Pw 10,Pv Pw 12,Pv Pw 11]) (z:=.agg #[Pv Pw 0,Pv Pw 0,Pv Pw 0,Pv Pw 0,Pv Pw 0,Pv Pw 0,Pv Pw 0,Pv Pw 0,Pv Pw 0,Pv Pw 0,Pv Pw 0,Pv Pw 0]) (n:=12) P1 rfl P1 rfl P8 P5 P5 λh2 hle2 hs2 hb2=>?_
  have n:Nz s M vs W0 h2 o0 m1 (PA (Py ⟨h1.size,0,Pz⟩) 12 12) opsL:=by
   obtain⟨W,o,g1,g2,g3,g4⟩:=n;refine⟨_,o,Pt g1 (bW g2.own.wle),⟨g2.own.ext hle2,g2.src.mono (bW g2.own.wle),g2.box⟩,g3,?_⟩;have hg:grow W h1 h2 h1.size=Py (.cells (opsL.map λx=>Pv Pw x).toArray T.Hy (0,0)):=by rw[cU (Lp _),hb2];rfl
   exact Ev hg rfl P4 D3
  generalize h1.size=B at n;subst hz;refine ab λz hz=>?_;simp;refine af P1 (gU n hb1 q P2) ?_;rintro _ h3 ⟨⟨rfl,i2⟩,n⟩;have q:=q.aJ (s:=s) (b:=b);have hb2:b<(aJ s m1 b).2.blocks.length:=by rw[dv];exact hb1
  simp only[binS]at hmm;generalize aJ s m1 b=r1 at hmm n q hb2 i2;subst hz;refine ab λz hz=>?_;simp;refine af P1 (gU n hb2 q P2) ?_;rintro _ h4 ⟨⟨rfl,i3⟩,n⟩;have q:=q.aJ (s:=s) (b:=b);have hb3:b<(aJ s r1.2 b).2.blocks.length:=by rw[dv];exact hb2
  generalize aJ s r1.2 b=r2 at hmm n q hb3 i3;subst hz;refine ab λz hz=>?_;have fin : ∀(e:Int) (m3:MS) (h':Heap) (ρ:Env),aP s b m=m3.two b (nth opsL kn) r1.1 e->I64 e->m3.ok (c+60)->b<m3.blocks.length->Nz s M vs W0 h' o0 m3 (PA (Py ⟨B,0,Pz⟩) 12 12) opsL->Lft.look ρ 0=Py (PB (Py ⟨M,0,Pz⟩))->Lft.look ρ 1=Py (Pv Pw b)->Lft.look ρ 4=Py (Pv Pw kn)->Lft.look ρ 5=Py (PB (Py ⟨B,0,Pz⟩))->Lft.look ρ 6=Py (Pv Pw r1.1)->Lft.look ρ 7=Py (Pv Pw e)->LC.wp PE z (eA 0 (dB [] K)) ρ h':=by
   intro e m3 h' ρ hmm ie q hb n r0 r1' r4 r5 r6 r7;subst hz;obtain⟨W,o,n,sl,back⟩:=n.base;have iop:=sl.range (i:=kn) (by show kn<12;omega);have hop:ak W ⟨B,kn,Pz⟩=Py (Pv Pw (nth opsL kn)):=by have:=sl.int (View.le_refl W) (i:=kn) (by show kn<12;omega);simpa[slA]using this
   have hix:Bn.ev (.aidx 12 1) (PB (Py ⟨B,0,Pz⟩)) (Pv Pw kn)=Py (PB (Py ⟨B,kn,Pz⟩)):=by simp only[Bn.ev,vP,vI,LM];rw[if_pos P6];simp
   generalize nth opsL kn=op at hmm iop hop;refine aT W n.le ?_;simp[ag,ah,r0,r1',r4,r5,r6,r7,hix,hop];constructor
   ·refine af P1 (fW n q P2) ?_;rintro _ h4 ⟨rfl,n⟩;refine⟨n.le,?_⟩;refine n.lit (ls:=[r1.1,e]) Sa (by simp[i2,ie]) rfl P4 λua un uc h5 _ n=>⟨n.le,?_⟩;refine ay (z:=.agg #[Pv Pw 0,Pv Pw 0,Pv Pw 0,PA Pz 0 0,Pv Px 0]) (places:=[(0,1),(1,1),(2,1),(3,1),(4,1)]) (vs:=[(0,Pv Pw op),(1,Pv Pw m3.next),(3,.slice ua un uc)]) (cs:=#[Pv Pw op,Pv Pw m3.next,Pv Pw 0,.slice ua un uc,Pv Px 0]) P1 P1 Sa P1 ?_;refine af P1 (kE n (b:=b) hb q.aK P2 iop (q.jn P2) i64c P4) ?_;rintro _ h6 n;exact hK _ _ (by rw[hmm];exact(back n.z).x)
   refine n.lit (ls:=[r1.1,e]) Sa (by simp[i2,ie]) rfl P4 λua un uc h5 _ n=>⟨n.le,?_⟩;refine af P1 (fW n q P2) ?_;rintro _ h4 ⟨rfl,n⟩;refine⟨n.le,?_⟩;refine ay (z:=.agg #[Pv Pw 0,Pv Pw 0,Pv Pw 0,PA Pz 0 0,Pv Px 0]) (places:=[(0,1),(1,1),(2,1),(3,1),(4,1)]) (vs:=[(0,Pv Pw op),(1,Pv Pw m3.next),(3,.slice ua un uc)]) (cs:=#[Pv Pw op,Pv Pw m3.next,Pv Pw 0,.slice ua un uc,Pv Px 0]) P1 P1 Sa P1 ?_;refine af P1 (kE n (b:=b) hb q.aK P2 iop (q.jn P2) i64c P4) ?_;rintro _ h6 n;exact hK _ _ (by rw[hmm];exact(back n.z).x)
  refine ab λy hy=>?_;simp;refine af P1 (eh n q P2 (k:=3) P4 P4) ?_;rintro _ h5 ⟨rfl,n⟩;simp;subst hy;by_cases c4:aI s r2.2.at_ 3=0
  ·rw[if_pos c4]at hmm;refine aW (by simp[c4]) ?_;simp;refine af P1 (eh n q.took P2 (k:=40) P4 P4) ?_;rintro _ h6 ⟨rfl,n⟩;have hx:r2.2.took.at_=r2.2.at_+1:=rfl;rw[hx];simp;refine af P1 (fE n (b:=b) hb3 q.took.took P2 (k:=IntKind.i32.wrap (IntKind.i64.wrap (aI s (r2.2.at_+1) 40-8))) lX) ?_;rintro _ h7 ⟨rfl,n⟩;refine fin r2.2.next _ h7 _ hmm (q.jn P2) (q.took.took.constant.mono P2) (by rw[dq];exact hb3) n ?_ ?_ ?_ ?_ ?_ ?_;all_goals simp
   rfl
  rw[if_neg c4]at hmm;refine aV (by simp[c4]) ?_;simp;refine fin r2.1 _ h5 _ hmm i3 (q.took.mono P2) hb3 n ?_ ?_ ?_ ?_ ?_ ?_;all_goals simp
 rw[if_neg c1]at hmm;refine aV (by simp[c1]) ?_;refine ab λz hz=>?_;simp;subst hz;by_cases c2:k=12
 ·rw[if_pos c2]at hmm;refine aW (by simp[c2]) ?_;refine ab λz hz=>?_;simp;refine af P1 (gU n hb1 q P2) ?_;rintro _ h2 ⟨⟨rfl,i2⟩,n⟩;have q:=q.aJ (s:=s) (b:=b);have hb2:b<(aJ s m1 b).2.blocks.length:=by rw[dv];exact hb1
  simp only[ltuS]at hmm;generalize aJ s m1 b=r1 at hmm n q hb2 i2;subst hz;refine ab λz hz=>?_;simp;refine af P1 (gU n hb2 q P2) ?_;rintro _ h3 ⟨⟨rfl,i3⟩,n⟩;have q:=q.aJ (s:=s) (b:=b);have hb3:b<(aJ s r1.2 b).2.blocks.length:=by rw[dv];exact hb2
  generalize aJ s r1.2 b=r2 at hmm n q hb3 i3;subst hz;simp;refine af P1 (fW n q P2) ?_;rintro _ h4 ⟨rfl,n⟩;refine n.lit (ls:=[r1.1,r2.1]) Sa (by simp[i2,i3]) rfl P4 λua un uc h5 _ n=>?_;refine ay (z:=.agg #[Pv Pw 0,Pv Pw 0,Pv Pw 0,PA Pz 0 0,Pv Px 0]) (places:=[(0,1),(1,1),(2,1),(3,1),(4,1)]) (vs:=[(0,Pv Pw 13),(1,Pv Pw r2.2.next),(3,.slice ua un uc)]) (cs:=#[Pv Pw 13,Pv Pw r2.2.next,Pv Pw 0,.slice ua un uc,Pv Px 0]) P1 P1 Sa P1 ?_;refine af P1 (kE n (b:=b) hb3 q.aK P2 i64c (q.jn P2) i64c P4) ?_;rintro _ h6 n;exact hK _ _ (by rw[hmm];exact n)
 rw[if_neg c2]at hmm;refine aV (by simp[c2]) ?_;refine ab λz hz=>?_;simp;subst hz;by_cases c3:k=13
 ·rw[if_pos c3]at hmm;refine aW (by simp[c3]) ?_;refine ab λz hz=>?_;simp;refine af P1 (gU n hb1 q P2) ?_;rintro _ h2 ⟨⟨rfl,i2⟩,n⟩;have q:=q.aJ (s:=s) (b:=b);have hb2:b<(aJ s m1 b).2.blocks.length:=by rw[dv];exact hb1
  simp only[divS]at hmm;generalize aJ s m1 b=r1 at hmm n q hb2 i2;subst hz;refine ab λz hz=>?_;simp;refine af P1 (eh n q P2 (k:=12) P4 P4) ?_;rintro _ h3 ⟨rfl,n⟩;simp;refine af P1 (fE n (b:=b) hb2 q.took P2 (k:=IntKind.i32.wrap (aI s r1.2.at_ 12)) lX) ?_;rintro _ h4 ⟨rfl,n⟩;have i4:I64 r1.2.took.next:=q.took.jn P2;have q:=q.took.constant (b:=b) (n:=IntKind.i32.wrap (aI s r1.2.at_ 12));have hb3:b<(r1.2.took.constant b (IntKind.i32.wrap (aI s r1.2.at_ 12))).blocks.length:=by rw[dq];exact hb2
  have ht:r1.2.took.next=r1.2.next:=rfl;rw[ht]at i4 ⊢;generalize r1.2.took.constant b (IntKind.i32.wrap (aI s r1.2.at_ 12))=m2 at hmm n q hb3;generalize r1.2.next=d at hmm i4;subst hz;refine ab λz hz=>?_;have fin : ∀(e:Int) (m3:MS) (h':Heap) (ρ:Env),aP s b m=m3.two b 14 r1.1 e->I64 e->m3.ok (c+60)->b<m3.blocks.length->Nz s M vs W0 h' o0 m3 (PA Pz 0 0) []->Lft.look ρ 0=Py (PB (Py ⟨M,0,Pz⟩))->Lft.look ρ 1=Py (Pv Pw b)->Lft.look ρ 10=Py (Pv Pw r1.1)->Lft.look ρ 11=Py (Pv Pw e)->LC.wp PE z (eA 0 (dB [] K)) ρ h':=by intro e m3 h' ρ hmm ie q hb n r0 r1' r10 r11;subst hz;simp[ag,ah,r0,r1',r10,r11];refine af P1 (fW n q P2) ?_;rintro _ h4 ⟨rfl,n⟩;refine n.lit (ls:=[r1.1,e]) Sa (by simp[i2,ie]) rfl P4 λua un uc h5 _ n=>?_;refine ay (z:=.agg #[Pv Pw 0,Pv Pw 0,Pv Pw 0,PA Pz 0 0,Pv Px 0]) (places:=[(0,1),(1,1),(2,1),(3,1),(4,1)]) (vs:=[(0,Pv Pw 14),(1,Pv Pw m3.next),(3,.slice ua un uc)]) (cs:=#[Pv Pw 14,Pv Pw m3.next,Pv Pw 0,.slice ua un uc,Pv Px 0]) P1 P1 Sa P1 ?_;refine af P1 (kE n (b:=b) hb q.aK P2 i64c (q.jn P2) i64c P4) ?_;rintro _ h6 n;exact hK _ _ (by rw[hmm];exact n)
  refine ab λy hy=>?_;simp;refine af P1 (eh n q P2 (k:=3) P4 P4) ?_;rintro _ h5 ⟨rfl,n⟩;simp;subst hy;by_cases c4:0<aI s m2.at_ 3
  ·rw[if_pos c4]at hmm;refine aW (by simp[c4]) ?_;simp;refine af P1 (eh n q.took P2 (k:=12) P4 P4) ?_;rintro _ h6 ⟨rfl,n⟩;have hx:m2.took.at_=m2.at_+1:=rfl;rw[hx];simp;refine af P1 (fE n (b:=b) hb3 q.took.took P2 (k:=IntKind.i32.wrap (1+IntKind.i32.wrap (aI s (m2.at_+1) 12))) lX) ?_;rintro _ h7 ⟨rfl,n⟩;refine fin m2.next _ h7 _ hmm (q.jn P2) (q.took.took.constant.mono P2) (by rw[dq];exact hb3) n ?_ ?_ ?_ ?_;all_goals simp
   rfl
  rw[if_neg c4]at hmm;refine aV (by simp[c4]) ?_;simp;refine fin d _ h5 _ hmm i4 (q.took.mono P2) hb3 n ?_ ?_ ?_ ?_;all_goals simp
 rw[if_neg c3]at hmm;refine aV (by simp[c3]) ?_;refine ab λz hz=>?_;simp;subst hz;by_cases c4:k<16
 ·rw[if_pos c4]at hmm;refine aW (by simp[c4]) ?_;simp;refine af P1 (CW n.x (store:=decide (k=15)) hb1 q P2) ?_;rintro _ h2 n;exact hK _ _ (by rw[hmm];exact n)
 rw[if_neg c4]at hmm;refine aV (by simp[c4]) ?_;refine ab λz hz=>?_;simp;subst hz;by_cases c5:k=16
 ·rw[if_pos c5]at hmm;refine aW (by simp[c5]) ?_;refine ab λz hz=>?_;simp;obtain⟨W,o,g1,w,f,-⟩:=n;have hk9:o (9,0)=none:=(f _ P4).trans hfree;refine w.own.kq (k:=(9,0)) (α:=Int) hk9 El.aR λv h2 hle2 hv w2 _=>?_;have w2:Mk s M vs W h2 (o.upd (9,0) (it T.int v ([]:List Int))) m1:=by obtain⟨vb,vl,lb,bb⟩:=w.box;exact⟨w2,w.src,vb,vl,lb,bb.frame λk hk=>Own.aB (by rintro rfl;simp at hk)⟩
  subst hz;refine ab λz hz=>?_;simp;refine af P1 (w2.take (by have:=q.at_;omega) (n:=5) P4 P4) ?_;rintro _ h3 ⟨rfl,o3,w3,f3⟩;simp only[nT]at hmm;have q:=q.took;have hb2:b<m1.took.blocks.length:=hb1;obtain⟨t0,t1⟩:=cI (s:=s) (at_:=m1.at_) (n:=5) P4;generalize aI s m1.at_ 5=t at hmm t0 t1;obtain⟨tn,rfl⟩ : ∃tn:Nat,t=tn:=⟨t.toNat,by omega⟩;rw[show((tn:Int)).toNat=tn by omega]at hmm;have hup:=CA (s:=s) (b:=b) (x:=([],m1.took)) q;generalize m1.took=m2 at hmm q hb2 hup w3;subst hz;refine ab λz hz=>?_;simp;refine cT [0,1,4,12,13,14] (fun(v:Value) i=>[PB (Py ⟨M,0,Pz⟩),Pv Pw b,Pv Pw k,v,Pv Pw tn,Pv Pw i]) (λv i h4=>∃W' o',W0.le W'/\Mk s M vs W' h4 o' (up (gK s b) i ([],m2)).2/\o' (9,0)=it T.int v (up (gK s b) i ([],m2)).1/\∀q:Key,3<=q.1->q≠(9,0)->o' q=o0 q) tn v
   rfl P2 rfl ⟨W,o3,g1,w3,(f3 _ P4).trans Own.ao,λq h1 h2=>(f3 q h1).trans ((Own.aB h2).trans (f q h1))⟩ (λ_ _=>rfl) (λv k h hk m=>by simp) ?_ ?_
  ·rintro v i h4 hlt ⟨W4,o4,g4,w4,e4,f4⟩ K2 hK2;obtain⟨qi,li,bi⟩:=hup i;have e5:up (gK s b) (i+1) ([],m2)=((up (gK s b) i ([],m2)).1++[(aJ s (up (gK s b) i ([],m2)).2 b).1],(aJ s (up (gK s b) i ([],m2)).2 b).2):=rfl;have hb4:b<(up (gK s b) i ([],m2)).2.blocks.length:=by rw[bi];exact hb2
   generalize up (gK s b) i ([],m2)=x at w4 e4 e5 qi li bi hb4;have li:x.1.length=i:=by simpa using li
   simp;refine af P1 (CG w4 hb4 qi P2) ?_;rintro _ h5 ⟨rfl,i5,W5,o5,g5,w5,f5⟩;have e6:o5 (9,0)=it T.int v x.1:=(f5 _ P4).trans e4;refine w5.own.iN (k:=(9,0)) (α:=Int) (d:=(aJ s x.2 b).1) e6 El.aR rfl (bn.2 ⟨rfl,i5⟩) P2 P2 (λ_=>rfl) (λ_=>rfl) λu v' h6 w6 _=>?_;refine hK2 v' _ _ rfl rfl ⟨W5,_,Pt g4 g5,⟨w6,w5.src,?_⟩,?_,?_⟩
   ·obtain⟨vb,vl,lb,bb⟩:=w5.box;rw[e5];exact⟨vb,vl,lb,bb.frame λk hk=>Own.aB (by rintro rfl;simp at hk)⟩
   ·rw[e5];exact Own.ao
   intro q h1 h2;exact(Own.aB h2).trans ((f5 q h1).trans (f4 q h1 h2))
  rintro v h4 ⟨W4,o4,g4,w4,e4,f4⟩;obtain⟨qi,li,bi⟩:=hup tn;have hb4:b<(up (gK s b) tn ([],m2)).2.blocks.length:=by rw[bi];exact hb2
  generalize up (gK s b) tn ([],m2)=x at w4 e4 qi li bi hb4 hmm;obtain⟨w5,sl⟩:=w4.own.freeze e4;have sl2:=sl;obtain⟨ua,uc,rfl,_⟩:=sl2;have hWp:=jm (h:=h4) (w4.own.av _ _ e4);have n:Nz s M vs W0 h4 o0 x.2 (.slice ua x.1.length uc) x.1:=by
   obtain⟨vb,vl,lb,bb⟩:=w4.box;refine⟨_,_,Pt g4 hWp,⟨w5,w4.src.mono hWp,vb,vl,lb,bb.frame λk hk=>Own.aB (by rintro rfl;simp at hk)⟩,λq h1=>?_,sl⟩;by_cases e:q=(9,0)
   ·rw[e,Own.ao,hfree]
   exact(Own.aB e).trans (f4 q h1 e)
  generalize x.1.length=un at n;simp;subst hz;simp;refine af P1 (fW n qi P2) ?_;rintro _ h5 ⟨rfl,n⟩;refine af P1 (eh n qi.aK P2 (k:=5) P4 P4) ?_;rintro _ h6 ⟨rfl,n⟩;have hx:x.2.aK.at_=x.2.at_:=rfl;rw[hx];simp;refine ay (z:=.agg #[Pv Pw 0,Pv Pw 0,Pv Pw 0,PA Pz 0 0,Pv Px 0]) (places:=[(0,1),(1,1),(2,1),(3,1),(4,1)]) (vs:=[(0,Pv Pw 17),(1,Pv Pw x.2.next),(3,.slice ua un uc),(4,Pv Px (IntKind.i32.wrap (aI s x.2.at_ 5)))]) (cs:=#[Pv Pw 17,Pv Pw x.2.next,Pv Pw 0,.slice ua un uc,Pv Px (IntKind.i32.wrap (aI s x.2.at_ 5))]) P1 P1 Sa P1 ?_;refine af P1 (kE n (b:=b) hb4 qi.aK.took P2 i64c (qi.jn P2) i64c lX) ?_;rintro _ h7 n;exact hK _ _ (by rw[hmm];exact n)
 rw[if_neg c5]at hmm;refine aV (by simp[c5]) ?_;refine ab λz hz=>?_;simp;subst hz;by_cases c6:k=17
 ·rw[if_pos c6]at hmm;refine aW (by simp[c6]) ?_;refine ab λz hz=>?_;simp;refine af P1 (gU n hb1 q P2) ?_;rintro _ h2 ⟨⟨rfl,i2⟩,n⟩;have q:=q.aJ (s:=s) (b:=b);have hb2:b<(aJ s m1 b).2.blocks.length:=by rw[dv];exact hb1
  simp only[xG]at hmm;generalize aJ s m1 b=r1 at hmm n q hb2 i2;subst hz;refine ab λz hz=>?_;simp;refine af P1 (gU n hb2 q P2) ?_;rintro _ h3 ⟨⟨rfl,i3⟩,n⟩;have q:=q.aJ (s:=s) (b:=b);have hb3:b<(aJ s r1.2 b).2.blocks.length:=by rw[dv];exact hb2
  generalize aJ s r1.2 b=r2 at hmm n q hb3 i3;subst hz;refine ab λz hz=>?_;simp;refine af P1 (fW n q P2) ?_;rintro _ h4 ⟨rfl,n⟩;subst hz;simp;refine af P1 (fW n q.aK P2) ?_;rintro _ h5 ⟨rfl,n⟩;have hx:r2.2.aK.next=r2.2.next+1:=rfl;rw[hx];have j5:=q.aK.jn P2;rw[hx]at j5;refine n.lit (ls:=[r1.1,r2.1]) Sa (by simp[i2,i3]) rfl P4 λua un uc h5 _ n=>?_;refine ay (z:=.agg #[Pv Pw 0,Pv Pw 0,Pv Pw 0,PA Pz 0 0,Pv Px 0]) (places:=[(0,1),(1,1),(2,1),(3,1),(4,1)]) (vs:=[(0,Pv Pw 18),(1,Pv Pw r2.2.next),(2,Pv Pw (r2.2.next+1)),(3,.slice ua un uc)]) (cs:=#[Pv Pw 18,Pv Pw r2.2.next,Pv Pw (r2.2.next+1),.slice ua un uc,Pv Px 0]) P1 P1 Sa P1 ?_;refine af P1 (kE n (b:=b) hb3 q.aK.aK P2 i64c (q.jn P2) j5 P4) ?_;rintro _ h6 n;exact hK _ _ (by rw[hmm];exact n)
 rw[if_neg c6]at hmm;refine aV (by simp[c6]) ?_;simp;refine af P1 (yu n q P2) ?_;rintro _ h2 ⟨rfl,n⟩;refine af P1 (fE n (b:=b) hb1 q.took.took P2 (k:=ke s m1) oP) ?_;rintro _ h3 ⟨rfl,n⟩;exact hK _ _ (by rw[hmm];exact n.x)
section
variable {s:List Int} {m:MS} {b c:Nat}
theorem nb:m.took.blocks.length=m.blocks.length:=rfl
theorem oJ:m.aK.blocks.length=m.blocks.length:=rfl
theorem MS.ok.addr(h:m.ok c):(nR s m b).2.ok (c+30):=by
 unfold nR;simp only;split
 ·exact((((h.took.constant).took.aJ).constant).two.two).mono P2
 exact(h.took.constant.took).mono P2
theorem Ep:(nR s m b).2.blocks.length=m.blocks.length:=by unfold nR;simp only;split<;>simp[nG,dq,dv,nb]
theorem MS.ok.off(h:m.ok c):(offS s m).2.ok (c+4):=by
 unfold offS;split
 ·exact h.took.took.took.took
 exact h.took.took.mono P2
theorem Hn:(offS s m).2.blocks.length=m.blocks.length:=by unfold offS;split<;>rfl
theorem MS.ok.memory{st:Bool}(h:m.ok c):(iL s m b st).ok (c+60):=by
 unfold iL;simp only;split
 ·exact(((h.addr).off.aJ).add).mono P2
 exact(((h.addr).off.aK).add).mono P2
theorem Bg{st:Bool}:(iL s m b st).blocks.length=m.blocks.length:=by unfold iL;simp only;split<;>simp[lS,dv,Hn,Ep,oJ]
theorem MS.ok.bin(h:m.ok c):(binS s m b op).ok (c+60):=by
 unfold binS;simp only;split
 ·exact((h.aJ.aJ).took.took.constant.two).mono P2
 exact((h.aJ.aJ).took.two).mono P2
theorem Hg:(binS s m b op).blocks.length=m.blocks.length:=by unfold binS;simp only;split<;>simp[nG,dq,dv,nb]
theorem MS.ok.div(h:m.ok c):(divS s m b).ok (c+60):=by
 unfold divS;simp only;split
 ·exact((h.aJ).took.constant.took.took.constant.two).mono P2
 exact((h.aJ).took.constant.took.two).mono P2
theorem Gw:(divS s m b).blocks.length=m.blocks.length:=by unfold divS;simp only;split<;>simp[nG,dq,dv,nb]
theorem MS.ok.nT (h:m.ok c):(nT s m b).ok (c+70):=by unfold Go.Proofs.YtnfiilgdjpdlkaaGreatDoor.nT;simp only;have ht:=cI (s:=s) (at_:=m.at_) (n:=5) P4;have:=(CA (s:=s) (b:=b) (x:=([],m.took)) h.took (aI s m.at_ 5).toNat).1;exact(this.aK.took.add).mono P2
theorem FY:(nT s m b).blocks.length=m.blocks.length:=by unfold nT;simp only;rw[lS,nb,oJ];exact zw (s:=s) (b:=b) (x:=([],m.took)) _
theorem MS.ok.gE(h:m.ok c):(aP s b m).ok (c+80):=by
 unfold aP;simp only;repeat' split
 ·exact h.took.bin.mono P2
 ·unfold ltuS;exact(h.took.aJ.aJ.two).mono P2
 ·exact h.took.div.mono P2
 ·exact h.took.memory.mono P2
 ·exact h.took.nT.mono P2
 ·unfold xG;exact(h.took.aJ.aJ.aK.aK.add).mono P2
 exact h.took.took.took.constant.mono P2
theorem nQ:(aP s b m).blocks.length=m.blocks.length:=by
 unfold aP;simp only;repeat' split
 all_goals simp[Hg,ltuS,Gw,Bg,FY,xG,nG,dq,dv,nb,oJ,lS]
end
def MS.ye (m:MS) (b:Nat) (t:cM):MS:={ m with blocks:=m.blocks.set b { nth m.blocks b with term:=t } }
def cmpL:List Int:=[11,12,13]
def ia (s:List Int) (to:List Int) (b:Nat) (m:MS):cM × MS:=
 if to.length=0 then
  if aI s m.at_ 8=0 then(⟨5,[],[],⟨IntKind.i32.wrap (aI s (m.at_+1) 200)⟩⟩,m.took.took)
  else if 1<aI s m.at_ 8 then(⟨4,[(aJ s m.took b).1],[],⟨0⟩⟩,(aJ s m.took b).2)
  else(⟨4,[],[],⟨0⟩⟩,m.took)
 else if to.length=1 then(⟨1,[],to,⟨0⟩⟩,m)
 else if to.length=2 then
  let r:=aJ s m b
  if aI s r.2.at_ 2=0 then
   let w:=aJ s r.2.took b
   (⟨2,[w.2.next],to,⟨0⟩⟩,w.2.aK.took.add b ⟨nth cmpL (aI s w.2.at_ 3).toNat,w.2.next,0,[r.1,w.1],⟨0⟩⟩)
  else(⟨2,[r.1],to,⟨0⟩⟩,r.2.took)
 else
  let r:=aJ s m b
  let m2:=r.2.constant b 7
  (⟨3,[m2.next],to,⟨0⟩⟩,m2.two b 5 r.1 r.2.next)
def oA (s:List Int) (to:List Int) (b:Nat) (m:MS):MS:=(ia s to b m).2.ye b (ia s to b m).1
section
variable {s:List Int} {M:Nat} {vs:Value} {W0:View} {h:Heap} {o0:Own} {m:MS} {u:Value} {ds:List Int}
theorem Nz.dh {po:OP} (n:Nz s M vs W0 h o0 m u ds) {k:Key} {e:TypeId} {B N i:Nat} {l:List Value} {ty t:TypeId} {us:List (Nat × Value)} {x y:Operand} {v:Value} {K:Value->Heap->Prop} (h3:3<=k.1) (hk:o0 k=bx e B (RawN.mk (n:=N) l)) (hi:i<=N) (hsz:cQ PE t=Py 1) (hx:asg us x = PB (Py ⟨B,i,Pz⟩)) (hy:asg us y=v) (hv:v.oneCell'=PC)
  (hK : ∀h',Nz s M vs W0 h' (o0.upd k (bx e B (RawN.mk (n:=N) (l.set i v)))) m u ds->K undef h'):@Lft.step po PE (.store t x y) ty us h K:=by
 obtain⟨W,o,g1,w,f,sl⟩:=n;refine w.own.dh (k:=k) (n:=N) (i:=i) (e:=e) (B:=B) (l:=l) ((f k h3).trans hk) hi hsz hx hy hv λh' w' _=>hK h' ?_;obtain⟨vb,vl,lb,bb⟩:=w.box;refine⟨W,_,g1,⟨w',w.src,vb,vl,lb,bb.frame λq hq=>Own.aB (by rintro rfl;omega)⟩,λq hq=>?_,sl⟩;unfold Own.upd;split
 ·rfl
 exact f q hq
theorem Nz.re(n:Nz s M vs W0 h o0 m u ds){o0':Own}(he : ∀k,o0' k=o0 k):Nz s M vs W0 h o0' m u ds:=by obtain⟨W,o,g1,w,f,sl⟩:=n;exact⟨W,o,g1,w,λk hk=>(f k hk).trans (he k).symm,sl⟩
theorem Mk.GP{po:OP}{W:View}{o:Own}(w:Mk s M vs W h o m)(bb:MkB M vs m o vb vl lb){t:cM}{v:Value}{ty ty2:TypeId}{us:List (Nat × Value)}{x y:Operand}{K:Value->Heap->Prop}(hb:b<m.blocks.length)(hsz:cQ PE ty2=Py 4)(hx:asg us x = PB (Py (((slA vb).add (b*6)).add 2)))(hy:asg us y=v)(hr:Rd W v t)(hK : ∀h' o',Mk s M vs W h' o' (m.ye b t)->(∀k:Key,3<=k.1->o' k=o k)->K undef h'):@Lft.step po PE (.store ty2 x y) ty us h K:=by
 have hbl:b<lb.length:=by rw[bb.len];exact hb
 refine w.own.pk (k:=(0,2)) (α:=BlkM) BlkM.mF (v:=vb) (l:=lb) (i:=b) (d:=t) bb.blk hsz hx hy hbl hr λh7 w7 _=>?_;refine hK h7 _ ⟨w7,w.src,vb,vl,_,bb.fG hb (x':={ nth m.blocks b with term:=t }) (y':={ lb[b]with term:=t }) rfl Own.ao ?_ ?_ λq h1 _ _=>Own.aB h1⟩ (mQ P4)
 ·rw[Own.aB Sa,bb.phis b hb,aA hbl]
 rw[Own.aB Sa,bb.ins b hb,aA hbl]
end
theorem Dw{H:View}{va vt:Value}{a t:List Int}{kd:Int}{imm:I32}(h3:SlRd H va a)(h4:SlRd H vt t)(h5:I64 kd)(h6:-2147483648<=imm.v/\imm.v<=2147483647):Rd H (.agg #[Pv Pw kd,va,vt,Pv Px imm.v]) (cM.mk kd a t imm):=
 ⟨_,rfl,[Pv Pw kd],_,rfl,⟨rfl,h5⟩,[va],_,rfl,⟨va,rfl,h3⟩,[vt],_,rfl,⟨vt,rfl,h4⟩,rfl,h6⟩
theorem FH: ∀x∈cmpL,I64 x:=by
 intro x hx;have : ∀x∈cmpL,0<=x/\x<=13:=by decide
 have:=this x hx;exact P6
theorem Jm{s:List Int}{M:Nat}{W0:View}{h:Heap}{o0:Own}{m:MS}{vt:Value}{to:List Int}(n:Nx s M vs W0 h o0 m){c:Nat}(hb:b<m.blocks.length)(hm:m.ok c)(hc:c<=800000)(hfree:o0 (9,1)=Pz)(ht:SlRd W0 vt to):
  az PE 56 #[PB (Py ⟨M,0,Pz⟩),Pv Pw b,vt] h (λv h'=>Nx s M vs W0 h' o0 (oA s to b m)):=by
 refine au (args:=[PB (Py ⟨M,0,Pz⟩),Pv Pw b,vt]) follows Tryz.func56 E.iM Pp λK hK=>?_;dsimp only[L.iM,lkF,lkG];have hmm:oA s to b m=_:=oA.eq_1 s to b m;have htm:ia s to b m=_:=ia.eq_1 s to b m;obtain⟨Wb,ob,gb,wb,fb⟩:=n;refine ab λz hz=>?_;simp;refine ay (z:=.agg #[Pv Pw 0,PA Pz 0 0,PA Pz 0 0,Pv Px 0]) (places:=[(0,1),(1,1),(2,1),(3,1)]) (vs:=[]) (cs:=#[Pv Pw 0,PA Pz 0 0,PA Pz 0 0,Pv Px 0]) P1 P1 Sa P1 ?_;refine wb.own.dA (k:=(9,1)) (n:=3) (l:=[Pv Pw 0,PA Pz 0 0,PA Pz 0 0,Pv Px 0]) ((fb _ P4).trans hfree) (z:=.agg #[Pv Pw 0,PA Pz 0 0,PA Pz 0 0,Pv Px 0]) P1 rfl P1 rfl P4 P7 P5 P5 λh1 q1 w1=>?_;generalize h.size=B at w1;obtain⟨o1,ho1⟩ : ∃o1,o1=ob.upd (9,1) (bx T.iG B (RawN.mk (n:=3) [Pv Pw 0,PA Pz 0 0,PA Pz 0 0,Pv Px 0])):=⟨_,rfl⟩;have k1:o1 (9,1)=bx T.iG B (RawN.mk (n:=3) [Pv Pw 0,PA Pz 0 0,PA Pz 0 0,Pv Px 0]):=by rw[ho1,Own.ao]
 have ht:=ht.mono gb;have n:Nz s M vs Wb h1 o1 m (PA Pz 0 0) []:=by obtain⟨vb,vl,lb,bb⟩:=wb.box;rw[ho1];exact⟨Wb,_,View.le_refl _,⟨w1,wb.src,vb,vl,lb,bb.frame λq hq=>Own.aB (by rintro rfl;simp at hq)⟩,λ_ _=>rfl,aN⟩
 have back : ∀{h':Heap} {W':View} {o':Own} {m':MS} {i:Option Lft.Item},Wb.le W'->Mk s M vs W' h' o' m'->(∀k:Key,3<=k.1->o' k=o1.upd (9,1) i k)->Nx s M vs W0 h' o0 m':=by
  intro h' W' o' m' i g w f;refine⟨W',o'.upd (9,1) Pz,Pt gb g,⟨w.own.sub λq j hq=>?_,w.src,?_⟩,λk hk=>?_⟩
  ·unfold Own.upd at hq;split at hq
   ·cases hq
   exact hq
  ·obtain⟨vb,vl,lb,bb⟩:=w.box;exact⟨vb,vl,lb,bb.frame λq hq=>Own.aB (by rintro rfl;simp at hq)⟩
  by_cases e:k=(9,1)
  ·rw[e,Own.ao,hfree]
  rw[Own.aB e,f k hk,Own.aB e,ho1,Own.aB e,fb k hk]
 clear wb w1 q1;subst hz;refine ab λz hz=>?_;have fin : ∀(kd:Int) (va vt':Value) (args to':List Int) (im:Int) (m2:MS) (h':Heap) (ρ:Env),ia s to b m=(⟨kd,args,to',⟨im⟩⟩,m2)->I64 kd->(-2147483648<=im/\im<=2147483647)->b<m2.blocks.length->Nz s M vs Wb h' (o1.upd (9,1) (bx T.iG B (RawN.mk (n:=3) [Pv Pw kd,va,vt',Pv Px im]))) m2 va args->SlRd Wb vt' to'->Lft.look ρ 0=Py (PB (Py ⟨M,0,Pz⟩))->Lft.look ρ 1=Py (Pv Pw b)->Lft.look ρ 6=Py (PB (Py ⟨B,0,Pz⟩))->LC.wp PE z (dB [] K) ρ h':=by
  intro kd va vt' args to' im m2 h' ρ e ikd iim hb n ht' r0 r1 r6;subst hz;rw[e]at hmm;obtain⟨W,o,g1,w,f,sl⟩:=n;obtain⟨vb,vl,lb,bb⟩:=w.box;have hk:o (9,1)=bx T.iG B (RawN.mk (n:=3) [Pv Pw kd,va,vt',Pv Px im]):=(f _ P4).trans Own.ao;have c4:=w.own.uO (k:=(9,1)) (n:=3) hk;have c4:Un.ev (vw h') (.bU 4) (PB (Py ⟨B,0,Pz⟩))=Py (.agg #[Pv Pw kd,va,vt',Pv Px im]):=c4;have c3:ak (vw h') ⟨M,3,Pz⟩=Py vb:=bb.cell w.own (i:=3) P4;have hbl:b<lb.length:=by rw[bb.len];exact hb
  have sb:=w.own.now bb.blk;have sbb:=sb.bound;refine aT (vw h') Ps ?_;simp(disch:=omega)[r0,r1,r6,c3,c4,sb.idxn (N:=6) rfl];refine w.GP bb (b:=b) (t:=⟨kd,args,to',⟨im⟩⟩) hb P1 rfl rfl (Dw (imm:=⟨im⟩) sl (ht'.mono g1) ikd iim) λh2 o2 w2 f2=>?_;refine hK _ _ ?_;rw[hmm];exact back g1 w2 λk hk=>(f2 k hk).trans (f k hk)
 have hlen : ∀{Q:View},Un.ev Q .len vt=Py (Pv Pw to.length):=fun{Q}=>ht.len;refine ab λy hy=>?_;simp[hlen];subst hy;simp only[aL];refine ab λy hy=>?_;simp;subst hy;by_cases c0:to.length=0
 ·have c0':to=[]:=LH c0;rw[if_pos c0]at htm;refine aW (by simp[c0,c0']) ?_;refine ab λy hy=>?_;simp;refine n.dh (k:=(9,1)) (i:=0) P4 k1 P4 P1 rfl rfl rfl λh2 n=>?_;subst hy;refine ab λy hy=>?_;simp;refine af P1 (eh n hm P2 (k:=8) P4 P4) ?_;rintro _ h3 ⟨rfl,n⟩;obtain⟨t0,t1⟩:=cI (s:=s) (at_:=m.at_) (n:=8) P4;subst hy;refine ab λy hy=>?_;simp;subst hy;have n:Nz s M vs Wb h3 (o1.upd (9,1) (bx T.iG B (RawN.mk (n:=3) [Pv Pw 4,PA Pz 0 0,PA Pz 0 0,Pv Px 0]))) m.took (PA Pz 0 0) []:=n;by_cases c1:aI s m.at_ 8=0
  ·rw[if_pos c1]at htm;refine aW (by simp[c1]) ?_;refine ab λy hy=>?_;simp;refine n.dh (k:=(9,1)) (i:=0) P4 Own.ao P4 P1 rfl rfl rfl λh4 n=>?_;subst hy;simp;refine af P1 (eh n hm.took P2 (k:=200) P4 P4) ?_;rintro _ h5 ⟨rfl,n⟩;have hx:m.took.at_=m.at_+1:=rfl;rw[hx];simp;refine n.dh (k:=(9,1)) (i:=3) P4 Own.ao P4 P1 rfl rfl rfl λh6 n=>?_;refine fin 5 (PA Pz 0 0) (PA Pz 0 0) [] [] _ _ h6 _ htm i64c lX hb ?_ aN ?_ ?_ ?_
   ·exact n.re λk=>by rw[eD,eD];rfl
   all_goals simp
  rw[if_neg c1]at htm;refine aV (by simp[c1]) ?_;refine ab λy hy=>?_;simp;subst hy;by_cases c2:1<aI s m.at_ 8
  ·rw[if_pos c2]at htm;refine aW (by simp[c2]) ?_;simp;refine af P1 (gU n (b:=b) hb hm.took P2) ?_;rintro _ h4 ⟨⟨rfl,i4⟩,n⟩;have hb2:b<(aJ s m.took b).2.blocks.length:=by rw[dv];exact hb
   generalize aJ s m.took b=r at htm i4 n hb2;refine n.lit (ls:=[r.1]) Sa (by simp[i4]) rfl P4 λua un uc h5 _ n=>?_;refine n.dh (k:=(9,1)) (i:=1) P4 Own.ao P4 P1 rfl rfl rfl λh6 n=>?_;refine fin 4 (.slice ua un uc) (PA Pz 0 0) [r.1] [] 0 _ h6 _ htm i64c P4 hb2 (n.re λk=>by rw[eD];rfl) aN ?_ ?_ ?_;all_goals simp
  rw[if_neg c2]at htm;refine aV (by simp[c2]) ?_;simp;refine fin 4 (PA Pz 0 0) (PA Pz 0 0) [] [] 0 _ h3 _ htm i64c P4 hb n aN ?_ ?_ ?_;all_goals simp
 rw[if_neg c0]at htm;have c0':¬to=[]:=λe=>c0 (by rw[e];rfl);have hvt:vt.oneCell'=true:=ht.cells.2;refine aV (by simp[c0']) ?_;refine ab λy hy=>?_;simp;subst hy;by_cases c1:to.length=1
 ·rw[if_pos c1]at htm;refine aW (by simp[c1]) ?_;refine ab λy hy=>?_;simp;refine n.dh (k:=(9,1)) (i:=0) P4 k1 P4 P1 rfl rfl rfl λh2 n=>?_;subst hy;simp;refine n.dh (k:=(9,1)) (i:=2) P4 Own.ao P4 P1 rfl rfl hvt λh3 n=>?_;refine fin 1 (PA Pz 0 0) vt [] to 0 _ h3 _ htm i64c P4 hb (n.re λk=>by rw[eD];rfl) ht ?_ ?_ ?_;all_goals simp
 rw[if_neg c1]at htm;refine aV P9 ?_;refine ab λy hy=>?_;simp;subst hy;by_cases c2:to.length=2
 ·rw[if_pos c2]at htm;refine aW (by simp[c2]) ?_;refine ab λy hy=>?_;simp;refine n.dh (k:=(9,1)) (i:=0) P4 k1 P4 P1 rfl rfl rfl λh2 n=>?_;subst hy;refine ab λy hy=>?_;simp;refine n.dh (k:=(9,1)) (i:=2) P4 Own.ao P4 P1 rfl rfl hvt λh3 n=>?_;have n:Nz s M vs Wb h3 (o1.upd (9,1) (bx T.iG B (RawN.mk (n:=3) [Pv Pw 2,PA Pz 0 0,vt,Pv Px 0]))) m (PA Pz 0 0) []:=n.re λk=>by rw[eD];rfl
  subst hy;refine ab λy hy=>?_;simp;refine af P1 (gU n (b:=b) hb hm P2) ?_;rintro _ h4 ⟨⟨rfl,i4⟩,n⟩;have q:=hm.aJ (s:=s) (b:=b);have hb2:b<(aJ s m b).2.blocks.length:=by rw[dv];exact hb
  simp only at htm;generalize aJ s m b=r at htm i4 n hb2 q;subst hy;refine ab λy hy=>?_;have fin2 : ∀(v:Int) (m3:MS) (h':Heap) (ρ:Env) (u:Value) (ds:List Int),ia s to b m=(⟨2,[v],to,⟨0⟩⟩,m3)->I64 v->b<m3.blocks.length->Nz s M vs Wb h' (o1.upd (9,1) (bx T.iG B (RawN.mk (n:=3) [Pv Pw 2,PA Pz 0 0,vt,Pv Px 0]))) m3 u ds->Lft.look ρ 0=Py (PB (Py ⟨M,0,Pz⟩))->Lft.look ρ 1=Py (Pv Pw b)->Lft.look ρ 6=Py (PB (Py ⟨B,0,Pz⟩))->Lft.look ρ 8=Py (Pv Pw v)->LC.wp PE y (eA 0 (eG (LC.wp PE z (dB [] K)) (dB [] K))) ρ h':=by intro v m3 h' ρ u ds e iv hb n r0 r1 r6 r8;subst hy;simp[ag,ah,r0,r1,r6,r8];refine n.lit (ls:=[v]) Sa (by simp[iv]) rfl P4 λua un uc h5 _ n=>?_;refine n.dh (k:=(9,1)) (i:=1) P4 Own.ao P4 P1 rfl rfl rfl λh6 n=>?_;refine fin 2 (.slice ua un uc) vt [v] to 0 _ h6 _ e i64c P4 hb (n.re λk=>by rw[eD];rfl) ht ?_ ?_ ?_;all_goals simp[ag,ah,r0,r1,r6,r8]
  refine ab λx hx=>?_;simp;refine af P1 (eh n q P2 (k:=2) P4 P4) ?_;rintro _ h5 ⟨rfl,n⟩;simp;subst hx;by_cases c3:aI s r.2.at_ 2=0
  ·rw[if_pos c3]at htm;refine aW (by simp[c3]) ?_;refine ab λx hx=>?_;simp;refine ay (z:=.agg #[Pv Pw 0,Pv Pw 0,Pv Pw 0]) (places:=[(0,1),(1,1),(2,1)]) (vs:=[(0,Pv Pw 11),(1,Pv Pw 12),(2,Pv Pw 13)]) (cs:=#[Pv Pw 11,Pv Pw 12,Pv Pw 13]) P1 P1 Sa P1 ?_;refine gk (v:=.agg #[Pv Pw 11,Pv Pw 12,Pv Pw 13]) (z:=.agg #[Pv Pw 0,Pv Pw 0,Pv Pw 0]) (n:=3) P1 rfl P1 rfl P8 P5 P5 λh6 hle6 hs6 hb6=>?_;have n:Nz s M vs Wb h6 (o1.upd (9,1) (bx T.iG B (RawN.mk (n:=3) [Pv Pw 2,PA Pz 0 0,vt,Pv Px 0]))) r.2.took (PA (Py ⟨h5.size,0,Pz⟩) 3 3) cmpL:=by
    obtain⟨W,o,g1,g2,g3,g4⟩:=n;refine⟨_,o,Pt g1 (bW g2.own.wle),⟨g2.own.ext hle6,g2.src.mono (bW g2.own.wle),g2.box⟩,g3,?_⟩;have hg:grow W h5 h6 h5.size=Py (.cells (cmpL.map λx=>Pv Pw x).toArray T.I3 (0,0)):=by rw[cU (Lp _),hb6];rfl
    exact Ev hg rfl P4 FH
   generalize h5.size=C at n;subst hx;refine ab λx hx=>?_;simp;refine af P1 (gU n (b:=b) hb2 q.took P2) ?_;rintro _ h7 ⟨⟨rfl,i7⟩,n⟩;have q:=q.took.aJ (s:=s) (b:=b);have hb3:b<(aJ s r.2.took b).2.blocks.length:=by rw[dv];exact hb2
   generalize aJ s r.2.took b=w at htm i7 n hb3 q;subst hx;refine ab λx hx=>?_;simp;refine af P1 (fW n q P2) ?_;rintro _ h8 ⟨rfl,n⟩;have iw:=q.jn P2;subst hx;refine ab λx hx=>?_;simp;refine af P1 (eh n q.aK P2 (k:=3) P4 P4) ?_;rintro _ h9 ⟨rfl,n⟩;have hfx:w.2.aK.at_=w.2.at_:=rfl;rw[hfx];obtain⟨t0,t1⟩:=cI (s:=s) (at_:=w.2.at_) (n:=3) P4;generalize aI s w.2.at_ 3=k at htm t0 t1;obtain⟨kn,rfl⟩ : ∃kn:Nat,k=kn:=⟨k.toNat,by omega⟩;rw[show((kn:Int)).toNat=kn by omega]at htm;obtain⟨iop,hop⟩:I64 (nth cmpL kn)/\ak (vw h9) ⟨C,kn,Pz⟩=Py (Pv Pw (nth cmpL kn)):=by obtain⟨W,o,g1,g2,g3,g4⟩:=n;refine⟨g4.range (i:=kn) (by show kn<3;omega),?_⟩;have:=g4.int g2.own.wle (i:=kn) (by show kn<3;omega);simpa[slA]using this
   have hix:Bn.ev (.aidx 3 1) (PB (Py ⟨C,0,Pz⟩)) (Pv Pw kn)=Py (PB (Py ⟨C,kn,Pz⟩)):=by simp only[Bn.ev,vP,vI,LM];rw[if_pos P6];simp
   generalize nth cmpL kn=op at htm iop hop;simp[hix,hop];refine n.lit (ls:=[r.1,w.1]) Sa (by simp[i4,i7]) rfl P4 λua un uc h10 _ n=>?_;refine ay (z:=.agg #[Pv Pw 0,Pv Pw 0,Pv Pw 0,PA Pz 0 0,Pv Px 0]) (places:=[(0,1),(1,1),(2,1),(3,1),(4,1)]) (vs:=[(0,Pv Pw op),(1,Pv Pw w.2.next),(3,.slice ua un uc)]) (cs:=#[Pv Pw op,Pv Pw w.2.next,Pv Pw 0,.slice ua un uc,Pv Px 0]) P1 P1 Sa P1 ?_;refine af P1 (kE n (b:=b) hb3 q.aK.took P2 iop iw i64c P4) ?_;rintro _ h11 n;subst hx;simp;refine fin2 w.2.next _ h11 _ _ _ htm iw (by rw[lS];exact hb3) n.z ?_ ?_ ?_ ?_;all_goals simp
  rw[if_neg c3]at htm;refine aV (by simp[c3]) ?_;simp;refine fin2 r.1 _ h5 _ _ _ htm i4 hb2 n ?_ ?_ ?_ ?_;all_goals simp
 rw[if_neg c2]at htm;refine aV P9 ?_;refine ab λy hy=>?_;simp;refine n.dh (k:=(9,1)) (i:=0) P4 k1 P4 P1 rfl rfl rfl λh2 n=>?_;subst hy;refine ab λy hy=>?_;simp;refine n.dh (k:=(9,1)) (i:=2) P4 Own.ao P4 P1 rfl rfl hvt λh3 n=>?_;have n:Nz s M vs Wb h3 (o1.upd (9,1) (bx T.iG B (RawN.mk (n:=3) [Pv Pw 3,PA Pz 0 0,vt,Pv Px 0]))) m (PA Pz 0 0) []:=n.re λk=>by rw[eD];rfl
 subst hy;refine ab λy hy=>?_;simp;refine af P1 (gU n (b:=b) hb hm P2) ?_;rintro _ h4 ⟨⟨rfl,i4⟩,n⟩;have q:=hm.aJ (s:=s) (b:=b);have hb2:b<(aJ s m b).2.blocks.length:=by rw[dv];exact hb
 simp only at htm;generalize aJ s m b=r at htm i4 n hb2 q;subst hy;refine ab λy hy=>?_;simp;refine af P1 (fE n (b:=b) hb2 q P2 (k:=7) P4) ?_;rintro _ h5 ⟨rfl,n⟩;have i5:=q.jn P2;have q5:=q.constant (b:=b) (n:=7);have hb3:b<(r.2.constant b 7).blocks.length:=by rw[dq];exact hb2
 generalize r.2.constant b 7=m2 at htm n q5 hb3;generalize r.2.next=d at htm i5;subst hy;refine ab λy hy=>?_;simp;refine af P1 (fW n q5 P2) ?_;rintro _ h6 ⟨rfl,n⟩;have i6:=q5.jn P2;subst hy;refine ab λy hy=>?_;simp;refine n.lit (ls:=[r.1,d]) Sa (by simp[i4,i5]) rfl P4 λua un uc h7 _ n=>?_;refine ay (z:=.agg #[Pv Pw 0,Pv Pw 0,Pv Pw 0,PA Pz 0 0,Pv Px 0]) (places:=[(0,1),(1,1),(2,1),(3,1),(4,1)]) (vs:=[(0,Pv Pw 5),(1,Pv Pw m2.next),(3,.slice ua un uc)]) (cs:=#[Pv Pw 5,Pv Pw m2.next,Pv Pw 0,.slice ua un uc,Pv Px 0]) P1 P1 Sa P1 ?_;refine af P1 (kE n (b:=b) hb3 q5.aK P2 i64c i6 i64c P4) ?_;rintro _ h8 n;have n:=n.z;subst hy;simp;refine n.lit (ls:=[m2.next]) Sa (by simp[i6]) rfl P4 λua un uc h9 _ n=>?_;refine n.dh (k:=(9,1)) (i:=1) P4 Own.ao P4 P1 rfl rfl rfl λh10 n=>?_;refine fin 3 (.slice ua un uc) vt [m2.next] to 0 _ h10 _ htm i64c P4 (show b<(m2.two b 5 r.1 d).blocks.length by rw[nG];exact hb3) (n.re λk=>by rw[eD];rfl) ht ?_ ?_ ?_;all_goals simp
end Go.Proofs.YtnfiilgdjpdlkaaGreatDoor
