/- A part of the proof: Ok, Ol, Rb, Ta, Rc, Rd, Rf, Rg, Rh, Tb, Tc, Td, Th, Ma, Mb, Mc, Md, Me, Mf, Mg, Mh. -/
import Derived.Test.YtnfiilgdjpdlkaaGreatDoorZTMea3
set_option linter.unusedSimpArgs false
set_option linter.unusedVariables false
open Go.Value renaming int->Sf,slice->Sn,pointer->Sp
open Go.IntKind renaming i64->Sg,i32->Si
open Option renaming some->Sj,none->Sk
open Bool renaming true->Sq,false->Sr
open Go.Proofs.Tryz renaming prog->Ss
namespace Go.Lft
open Go
variable {po po2:OP}
theorem Cx.dp {V W:View} {h0 h:Heap} {o:Own} {k:Key} {P:Program} {ty:TypeId} {us:List (Nat × Value)} {n i:Nat} {e t:TypeId} {B:Nat} {l:List Value} {x y:Operand} {u:Value} {K:Value->Heap->Prop} (c:Cx V h0 W h o) (hk:o k=bx e B (RawN.mk (n:=n) l)) (hi:i<=n) (hsz:cO P t=Sj 1) (hx:asg us x = Sp (Sj ⟨B,i,Sk⟩)) (hy:asg us y=u) (hu:u.oneCell'=Sq)
  (hK : ∀h',Cx V h0 W h' (o.upd k (bx e B (RawN.mk (n:=n) (l.set i u))))->K undef h'):@step po P (.store t x y) ty us h K:=
 c.own.dp hk hi hsz hx hy hu λh2 w hX=>hK _ ⟨w,c.old,hX _ c.le0 (View.cA Sb (c.new k _ B hk rfl)),λj i b hj hb=>by
  by_cases e:j=k
  ·subst e;rw[Own.ao]at hj;cases hj;exact c.new _ _ b hk hb
  rw[Own.aA e]at hj;exact c.new j i b hj hb⟩
end Go.Lft
namespace Go.Proofs.YtnfiilgdjpdlkaaGreatDoor
open Go Go.Lft
structure xX (t:cM):Prop where
 one:t.kind=2\/t.kind=3->1<=t.args.length
 most:t.args.length<=10000
 to:t.to.length<=10000
theorem Bl {H:View} {x0 x1 x2 va x4:Value} {i:InsD} (h:Rd H (.agg #[x0,x1,x2,va,x4]) i):SlRd H va i.args:=by unfold Rd at h;rw[if_pos (show Rep.agg InsD=Sq from rfl)]at h;obtain⟨cs,e0,c1,_,e,h1,c2,_,rfl,h2,c3,_,rfl,h3,c4,c5,rfl,h4,h5⟩:=h;cases e0;rw[h1.1,h2.1,h3.1,h5.1]at e;obtain⟨v,rfl⟩:=uk h4;simp at e;obtain⟨-,-,-,rfl,-⟩:=e;exact od.1 h4
set_option maxHeartbeats 4000000 in
theorem LK {s:bY} {v:Value} {pat:Int} {h:Heap} {W:View} (hW:W.le (vw h)) (hv:Rd W v s) (hok:mC s) (htk:xX s.t) (hp:I64 pat) :
    aw Ss 63 #[v,Sf Sg pat] h (λu h'=>bR W h h' u (ic s.f s.t pat)):=by
  refine aj (args:=[v,Sf Sg pat]) follows Tryz.func63 E.eV S8 λK hK=>?_
  dsimp only[L.eV,lkF,lkG]
  have c0:=Cx.start hW
  refine ab λz hz=>?_
  simp
  refine c0.dc rfl hv λS h1 W1 hW1 c1 at1 hle1=>?_
  refine c1.cC (k:=(0,0)) (n:=7) (z:=.agg fitZ.toArray) rfl R9 rfl S1 S6 λR h2 hle2 c2=>?_
  subst hz
  refine ab λz hz=>?_
  obtain⟨ut,hut,rut⟩:=(at1.part bY.Oc).ldN rfl (N:=4) rfl
  have hut:Un.ev (vw h2) (.bV 4) (Sp (Sj ⟨S,7,Sk⟩))=Sj ut:=by simpa using hut _ c2.wle
  simp[hut]
  refine c2.dK (α:=cM) rut (n:=4) (z:=zz9) R9 rfl rfl R9 S3 S3 λTb h3 W3 hW3 c3 at3 hle3=>?_
  have t0:=(at3.part cM.Dn).int
  obtain⟨va,t1,hva⟩:=(at3.part cM.eS).sl
  obtain⟨vt,t2,hvt⟩:=(at3.part cM.Fl).sl
  have t3:=(at3.part cM.je).i32
  have ri:=(at3.part cM.je).pb
  have t0:ak W3 ⟨Tb,0,Sk⟩=Sj (Sf Sg s.t.kind):=by simpa using t0
  have t1:ak W3 ⟨Tb,1,Sk⟩=Sj va:=by simpa using t1
  have t2:ak W3 ⟨Tb,2,Sk⟩=Sj vt:=by simpa using t2
  have t3:ak W3 ⟨Tb,3,Sk⟩=Sj (Sf Si s.t.imm.v):=by simpa using t3
  have most:=htk.most
  have mosto:=htk.to
  subst hz
  refine ab λz hz=>?_
  simp[ae c3.wle t2]
  refine af R9 (dT c3.wle hvt S0) ?_
  rintro uto h4 ⟨hle4,hto⟩
  have c4:=c3.ext hle4
  have hW4:=c3.up (h':=h4)
  have hto0:=hto
  obtain⟨b0,k0,rfl,-⟩:=hto0
  generalize grow W3 h3 h4=W4 at *
  have s0:=ae hW4 t0
  have s1:=ae hW4 t1
  have s3:=ae hW4 t3
  have hva4:=hva.mono hW4
  have z0:=ae c4.wle s0
  have z1:=ae c4.wle s1
  have z3:=ae c4.wle s3
  clear t0 t1 t2 t3 hut hle1 hle2 hle3 hle4
  subst hz
  refine ab λz hz=>?_
  simp only[aP]
  refine ab λy hy=>?_
  by_cases p1:pat=0/\s.t.kind=1
  · have he:ic s.f s.t pat=Sj ⟨[],[],[],⟨1,0,0,s.t.to,⟨0⟩⟩⟩:=by unfold ic;rw[if_pos p1]
    simp[p1.1,z0,p1.2]
    subst hy
    simp
    refine az (t:=T.fT) (z:=.agg #[Sf Sg 0,Sf Sg 0,Sf Sg 0,Sn Sk 0 0,Sf Si 0]) (places:=zpa) (vs:=[(0,Sf Sg 1),(3,.slice b0 s.t.to.length k0)]) (cs:=#[Sf Sg 1,Sf Sg 0,Sf Sg 0,.slice b0 s.t.to.length k0,Sf Si 0]) R9 R9 Sa (by simp[Instr.fill,Value.cells]) ?_
    refine az (t:=T.aT) (z:=.agg fitZ.toArray) (places:=zpc) (vs:=[(3,.agg #[Sf Sg 1,Sf Sg 0,Sf Sg 0,.slice b0 s.t.to.length k0,Sf Si 0])]) (cs:=#[Sn Sk 0 0,Sn Sk 0 0,Sn Sk 0 0,Sf Sg 1,Sf Sg 0,Sf Sg 0,.slice b0 s.t.to.length k0,Sf Si 0]) R9 R9 Sa (by simp[Instr.fill,Value.cells]) ?_
    have hr:Rd W4 (.agg #[Sn Sk 0 0,Sn Sk 0 0,Sn Sk 0 0,Sf Sg 1,Sf Sg 0,Sf Sg 0,.slice b0 s.t.to.length k0,Sf Si 0]) (⟨[],[],[],⟨1,0,0,s.t.to,⟨0⟩⟩⟩:FitD):=mK (ce:=[_,_,_,_,_]) aQ aQ aQ (lq (imm:=⟨0⟩) Sa Sa hto)
    refine c4.bD (k:=(0,0)) (n:=7) (l:=fitZ) S2 hr rfl rfl R9 rfl rfl λh9 l9 hl9 c9=>?_
    have hall:=c9.all (k:=(0,0)) (n:=7) (l:=l9) (B:=R) (e:=T.aT) S2
    simp at hall
    simp[hall]
    exact hK _ _ (bR.of c9 (hl9▸hr) (by rw[he];rfl) λy e=>by rw[he]at e;cases e;rfl)
  refine iP (λρ h5=>h5=h4/\ρ=[(0,v),(1,Sf Sg pat),(2,ptr S),(4,ptr R),(5,.bool Sr),(6,ptr Tb),(7,.slice b0 s.t.to.length k0),(13,ut),(16,.slice b0 s.t.to.length k0),(17,.bool Sr)]) ?_ ?_
  · intro K2 hK2
    by_cases e0:pat=0
    · have e2:¬s.t.kind=1:=λe=>p1 ⟨e0,e⟩
      simp[e0,z0,e2]
      exact hK2 _ _ ⟨rfl,by rw[e0]⟩
    · simp[e0,z0]
      exact hK2 _ _ ⟨rfl,rfl⟩
  rintro _ h4 ⟨rfl,rfl⟩
  subst hy
  refine bf Sa ?_
  refine ab λy hy=>?_
  by_cases p2:pat=0/\s.t.kind=4
  · have he:ic s.f s.t pat=Sj ⟨s.t.args,[],[],⟨7,if s.t.args=[] then -1 else nth s.t.args 0,0,[],⟨0⟩⟩⟩:=by unfold ic;rw[if_neg p1,if_pos p2]
    simp[p2.1,z0,p2.2]
    subst hy
    refine aY Sa ?_
    refine ab λy hy=>?_
    simp
    refine az (t:=T.fT) (z:=.agg #[Sf Sg 0,Sf Sg 0,Sf Sg 0,Sn Sk 0 0,Sf Si 0]) (places:=zpa) (vs:=[(0,Sf Sg 7),(1,Sf Sg (-1))]) (cs:=#[Sf Sg 7,Sf Sg (-1),Sf Sg 0,Sn Sk 0 0,Sf Si 0]) R9 R9 Sa (by simp[Instr.fill,Value.cells]) ?_
    refine c4.cC (k:=(0,1)) (n:=4) (z:=.agg #[Sf Sg 0,Sf Sg 0,Sf Sg 0,Sn Sk 0 0,Sf Si 0]) S2 R9 rfl S1 S6 λEb h5 hle5 c5=>?_
    refine c5.rU (k:=(0,1)) (n:=4) (l:=[Sf Sg 0,Sf Sg 0,Sf Sg 0,Sn Sk 0 0,Sf Si 0]) (l':=[Sf Sg 7,Sf Sg (-1),Sf Sg 0,Sn Sk 0 0,Sf Si 0]) S2 R9 rfl rfl rfl S5 λh6 c6=>?_
    subst hy
    have y1:=ae c6.wle s1
    have hlen:=hva4.len (K:=vw h6)
    generalize hae:(if s.t.args=[] then(-1:Int) else nth s.t.args 0)=a at *
    refine ab λy hy=>?_
    refine iP (λρ h7=>∃o6,Cx W h W4 h7 o6/\o6 (0,0)=bx T.aT R (RawN.mk (n:=7) fitZ)/\o6 (0,1)=bx T.fT Eb (RawN.mk (n:=4) [Sf Sg 7,Sf Sg a,Sf Sg 0,Sn Sk 0 0,Sf Si 0])/\(-9223372036854775808<=a/\a<=9223372036854775807)/\
      ρ=[(0,v),(1,Sf Sg 0),(2,ptr S),(4,ptr R),(5,.bool Sr),(6,ptr Tb),(7,.slice b0 s.t.to.length k0),(8,ptr Eb),(13,ut),(16,.slice b0 s.t.to.length k0),(36,.agg #[Sf Sg 7,Sf Sg (-1),Sf Sg 0,Sn Sk 0 0,Sf Si 0])]) ?_ ?_
    · intro K2 hK2
      by_cases ea:s.t.args=[]
      · have el:(s.t.args.length:Int)=0:=by rw[ea];rfl
        rw[if_pos ea]at hae
        subst hae
        simp[y1,hlen,ea]
        exact hK2 _ _ ⟨_,c6,by rfl,by rfl,by decide,rfl⟩
      · have el:=List.length_pos_iff.2 ea
        rw[if_neg ea]at hae
        have a0:=hva4.rng (i:=0) el
        have x0:=hva4.idx1 (k:=.i64) (i:=0) rfl S1 S0
        have d0:=hva4.int c6.wle (i:=0) el
        simp[y1,hlen,el,x0,d0]
        refine c6.dp (k:=(0,1)) (n:=4) (i:=1) (l:=[Sf Sg 7,Sf Sg (-1),Sf Sg 0,Sn Sk 0 0,Sf Si 0]) S2 S1 R9 rfl rfl rfl λh7 c7=>?_
        exact hK2 _ _ ⟨_,c7,by rfl,by rw[<-hae];rfl,by rw[<-hae];exact a0,rfl⟩
    · rintro _ h7 ⟨o6,c7,k00,k01,ar,rfl⟩
      subst hy
      refine ab λy hy=>?_
      refine aO (vw h7) Sb ?_
      have hall7:=c7.all k01
      simp at hall7
      simp[ae c7.wle s1,hall7]
      refine af R9 (dT c7.wle hva4 S0) ?_
      rintro ucl h8 ⟨hle8,hcl⟩
      refine⟨hle8,?_⟩
      have c8:=c7.ext hle8
      have hW8:=c7.up (h':=h8)
      have hcl0:=hcl
      obtain⟨b1,k1,rfl,-⟩:=hcl0
      refine az (t:=T.aT) (z:=.agg fitZ.toArray) (places:=zpc) (vs:=[(0,.slice b1 s.t.args.length k1),(3,.agg #[Sf Sg 7,Sf Sg a,Sf Sg 0,Sn Sk 0 0,Sf Si 0])]) (cs:=#[.slice b1 s.t.args.length k1,Sn Sk 0 0,Sn Sk 0 0,Sf Sg 7,Sf Sg a,Sf Sg 0,Sn Sk 0 0,Sf Si 0]) R9 R9 Sa (by simp[Instr.fill,Value.cells]) ?_
      have hr:Rd (grow W4 h7 h8) (.agg #[.slice b1 s.t.args.length k1,Sn Sk 0 0,Sn Sk 0 0,Sf Sg 7,Sf Sg a,Sf Sg 0,Sn Sk 0 0,Sf Si 0]) (⟨s.t.args,[],[],⟨7,a,0,[],⟨0⟩⟩⟩:FitD):=mK (ce:=[_,_,_,_,_]) hcl aQ aQ (lq (imm:=⟨0⟩) S7 Sa aQ)
      refine c8.bD (k:=(0,0)) (n:=7) (l:=fitZ) k00 hr rfl rfl R9 rfl rfl λh9 l9 hl9 c9=>?_
      subst hy
      have hall:=c9.all (k:=(0,0)) (n:=7) (l:=l9) (B:=R) (e:=T.aT) Own.ao
      simp at hall
      simp[hall]
      exact hK _ _ (bR.of c9 (hl9▸hr) (by rw[he];rfl) λy e=>by rw[he]at e;cases e;rfl)
  refine iP (λρ h5=>h5=h4/\ρ=[(0,v),(1,Sf Sg pat),(2,ptr S),(4,ptr R),(5,.bool Sr),(6,ptr Tb),(7,.slice b0 s.t.to.length k0),(13,ut),(16,.slice b0 s.t.to.length k0),(28,.bool Sr)]) ?_ ?_
  · intro K2 hK2
    by_cases e0:pat=0
    · have e2:¬s.t.kind=4:=λe=>p2 ⟨e0,e⟩
      simp[e0,z0,e2]
      exact hK2 _ _ ⟨rfl,by rw[e0]⟩
    · simp[e0,z0]
      exact hK2 _ _ ⟨rfl,rfl⟩
  rintro _ h4 ⟨rfl,rfl⟩
  subst hy
  refine bf Sa ?_
  refine ab λy hy=>?_
  by_cases p3:pat=0/\s.t.kind=5
  · have he:ic s.f s.t pat=Sj ⟨[],[],[],⟨8,0,0,[],s.t.imm⟩⟩:=by unfold ic;rw[if_neg p1,if_neg p2,if_pos p3]
    simp[p3.1,z0,p3.2]
    subst hy
    simp[z3]
    refine az (t:=T.fT) (z:=.agg #[Sf Sg 0,Sf Sg 0,Sf Sg 0,Sn Sk 0 0,Sf Si 0]) (places:=zpa) (vs:=[(0,Sf Sg 8),(4,Sf Si s.t.imm.v)]) (cs:=#[Sf Sg 8,Sf Sg 0,Sf Sg 0,Sn Sk 0 0,Sf Si s.t.imm.v]) R9 R9 Sa (by simp[Instr.fill,Value.cells]) ?_
    refine az (t:=T.aT) (z:=.agg fitZ.toArray) (places:=zpc) (vs:=[(3,.agg #[Sf Sg 8,Sf Sg 0,Sf Sg 0,Sn Sk 0 0,Sf Si s.t.imm.v])]) (cs:=#[Sn Sk 0 0,Sn Sk 0 0,Sn Sk 0 0,Sf Sg 8,Sf Sg 0,Sf Sg 0,Sn Sk 0 0,Sf Si s.t.imm.v]) R9 R9 Sa (by simp[Instr.fill,Value.cells]) ?_
    have hr:Rd W4 (.agg #[Sn Sk 0 0,Sn Sk 0 0,Sn Sk 0 0,Sf Sg 8,Sf Sg 0,Sf Sg 0,Sn Sk 0 0,Sf Si s.t.imm.v]) (⟨[],[],[],⟨8,0,0,[],s.t.imm⟩⟩:FitD):=mK (ce:=[_,_,_,_,_]) aQ aQ aQ (lq Sa ri aQ)
    refine c4.bD (k:=(0,0)) (n:=7) (l:=fitZ) S2 hr rfl rfl R9 rfl rfl λh9 l9 hl9 c9=>?_
    have hall:=c9.all (k:=(0,0)) (n:=7) (l:=l9) (B:=R) (e:=T.aT) S2
    simp at hall
    simp[hall]
    exact hK _ _ (bR.of c9 (hl9▸hr) (by rw[he];rfl) λy e=>by rw[he]at e;cases e;rfl)
  refine iP (λρ h5=>h5=h4/\ρ=[(0,v),(1,Sf Sg pat),(2,ptr S),(4,ptr R),(5,.bool Sr),(6,ptr Tb),(7,.slice b0 s.t.to.length k0),(13,ut),(16,.slice b0 s.t.to.length k0),(51,.bool Sr)]) ?_ ?_
  · intro K2 hK2
    by_cases e0:pat=0
    · have e2:¬s.t.kind=5:=λe=>p3 ⟨e0,e⟩
      simp[e0,z0,e2]
      exact hK2 _ _ ⟨rfl,by rw[e0]⟩
    · simp[e0,z0]
      exact hK2 _ _ ⟨rfl,rfl⟩
  rintro _ h4 ⟨rfl,rfl⟩
  subst hy
  refine bf Sa ?_
  refine ab λy hy=>?_
  by_cases p4:pat=33/\s.t.kind=2
  · have he:ic s.f s.t pat=Sj ⟨s.t.args,[],[],⟨2,nth s.t.args 0,0,s.t.to,⟨0⟩⟩⟩:=by unfold ic;rw[if_neg p1,if_neg p2,if_neg p3,if_pos p4]
    have al:=htk.one S0
    have a0:=hva4.rng (i:=0) al
    have x0:=hva4.idx1 (k:=.i64) (i:=0) rfl S1 S0
    have d0:=hva4.int (View.le_refl W4) (i:=0) al
    simp[p4.1,z0,p4.2]
    subst hy
    refine aY Sa ?_
    refine ab λy hy=>?_
    refine aO W4 c4.wle ?_
    simp[s1,x0,d0]
    refine⟨?_,?_⟩
    · refine af R9 (dT c4.wle hva4 S0) ?_
      rintro ucl h5 ⟨hle5,hcl⟩
      have c5:=c4.ext hle5
      have hW5:=c4.up (h':=h5)
      refine⟨Sc hW5 c5.wle,?_⟩
      have hcl0:=hcl
      obtain⟨b1,k1,rfl,-⟩:=hcl0
      generalize grow W4 h4 h5=W5 at *
      refine az (t:=T.fT) (z:=.agg #[Sf Sg 0,Sf Sg 0,Sf Sg 0,Sn Sk 0 0,Sf Si 0]) (places:=zpa) (vs:=[(0,Sf Sg 2),(1,Sf Sg (nth s.t.args 0)),(3,.slice b0 s.t.to.length k0)]) (cs:=#[Sf Sg 2,Sf Sg (nth s.t.args 0),Sf Sg 0,.slice b0 s.t.to.length k0,Sf Si 0]) R9 R9 Sa (by simp[Instr.fill,Value.cells]) ?_
      refine⟨Sc hW5 c5.wle,?_⟩
      refine az (t:=T.aT) (z:=.agg fitZ.toArray) (places:=zpc) (vs:=[(0,.slice b1 s.t.args.length k1),(3,.agg #[Sf Sg 2,Sf Sg (nth s.t.args 0),Sf Sg 0,.slice b0 s.t.to.length k0,Sf Si 0])]) (cs:=#[.slice b1 s.t.args.length k1,Sn Sk 0 0,Sn Sk 0 0,Sf Sg 2,Sf Sg (nth s.t.args 0),Sf Sg 0,.slice b0 s.t.to.length k0,Sf Si 0]) R9 R9 Sa (by simp[Instr.fill,Value.cells]) ?_
      have hr:Rd W5 (.agg #[.slice b1 s.t.args.length k1,Sn Sk 0 0,Sn Sk 0 0,Sf Sg 2,Sf Sg (nth s.t.args 0),Sf Sg 0,.slice b0 s.t.to.length k0,Sf Si 0]) (⟨s.t.args,[],[],⟨2,nth s.t.args 0,0,s.t.to,⟨0⟩⟩⟩:FitD):=mK (ce:=[_,_,_,_,_]) hcl aQ aQ (lq (imm:=⟨0⟩) S7 Sa (hto.mono hW5))
      refine c5.bD (k:=(0,0)) (n:=7) (l:=fitZ) S2 hr rfl rfl R9 rfl rfl λh9 l9 hl9 c9=>?_
      subst hy
      have hall:=c9.all (k:=(0,0)) (n:=7) (l:=l9) (B:=R) (e:=T.aT) S2
      simp at hall
      simp[hall]
      exact hK _ _ (bR.of c9 (hl9▸hr) (by rw[he];rfl) λy e=>by rw[he]at e;cases e;rfl)
    · refine az (t:=T.fT) (z:=.agg #[Sf Sg 0,Sf Sg 0,Sf Sg 0,Sn Sk 0 0,Sf Si 0]) (places:=zpa) (vs:=[(0,Sf Sg 2),(1,Sf Sg (nth s.t.args 0)),(3,.slice b0 s.t.to.length k0)]) (cs:=#[Sf Sg 2,Sf Sg (nth s.t.args 0),Sf Sg 0,.slice b0 s.t.to.length k0,Sf Si 0]) R9 R9 Sa (by simp[Instr.fill,Value.cells]) ?_
      refine⟨c4.wle,?_⟩
      refine af R9 (dT c4.wle hva4 S0) ?_
      rintro ucl h5 ⟨hle5,hcl⟩
      have c5:=c4.ext hle5
      have hW5:=c4.up (h':=h5)
      refine⟨Sc hW5 c5.wle,?_⟩
      have hcl0:=hcl
      obtain⟨b1,k1,rfl,-⟩:=hcl0
      generalize grow W4 h4 h5=W5 at *
      refine az (t:=T.aT) (z:=.agg fitZ.toArray) (places:=zpc) (vs:=[(0,.slice b1 s.t.args.length k1),(3,.agg #[Sf Sg 2,Sf Sg (nth s.t.args 0),Sf Sg 0,.slice b0 s.t.to.length k0,Sf Si 0])]) (cs:=#[.slice b1 s.t.args.length k1,Sn Sk 0 0,Sn Sk 0 0,Sf Sg 2,Sf Sg (nth s.t.args 0),Sf Sg 0,.slice b0 s.t.to.length k0,Sf Si 0]) R9 R9 Sa (by simp[Instr.fill,Value.cells]) ?_
      have hr:Rd W5 (.agg #[.slice b1 s.t.args.length k1,Sn Sk 0 0,Sn Sk 0 0,Sf Sg 2,Sf Sg (nth s.t.args 0),Sf Sg 0,.slice b0 s.t.to.length k0,Sf Si 0]) (⟨s.t.args,[],[],⟨2,nth s.t.args 0,0,s.t.to,⟨0⟩⟩⟩:FitD):=mK (ce:=[_,_,_,_,_]) hcl aQ aQ (lq (imm:=⟨0⟩) S7 Sa (hto.mono hW5))
      refine c5.bD (k:=(0,0)) (n:=7) (l:=fitZ) S2 hr rfl rfl R9 rfl rfl λh9 l9 hl9 c9=>?_
      subst hy
      have hall:=c9.all (k:=(0,0)) (n:=7) (l:=l9) (B:=R) (e:=T.aT) S2
      simp at hall
      simp[hall]
      exact hK _ _ (bR.of c9 (hl9▸hr) (by rw[he];rfl) λy e=>by rw[he]at e;cases e;rfl)
  refine iP (λρ h5=>h5=h4/\ρ=[(0,v),(1,Sf Sg pat),(2,ptr S),(4,ptr R),(5,.bool Sr),(6,ptr Tb),(7,.slice b0 s.t.to.length k0),(13,ut),(16,.slice b0 s.t.to.length k0),(63,.bool Sr)]) ?_ ?_
  · intro K2 hK2
    by_cases e0:pat=33
    · have e2:¬s.t.kind=2:=λe=>p4 ⟨e0,e⟩
      simp[e0,z0,e2]
      exact hK2 _ _ ⟨rfl,by rw[e0]⟩
    · simp[e0,z0]
      exact hK2 _ _ ⟨rfl,rfl⟩
  rintro _ h4 ⟨rfl,rfl⟩
  subst hy
  refine bf Sa ?_
  refine ab λy hy=>?_
  by_cases p5:(34<=pat/\pat<=36)/\s.t.kind=2
  · have w5:inR pat 34 36=true:=by simp[inR,p5.1.1,p5.1.2]
    have al:=htk.one S0
    have a0:=hva4.rng (i:=0) al
    have x0:=hva4.idx1 (k:=.i64) (i:=0) rfl S1 S0
    simp
    refine af R9 jo ?_
    rintro _ h4 ⟨rfl,rfl⟩
    simp[w5,z0,p5.2]
    subst hy
    refine aY Sa ?_
    refine ab λy hy=>?_
    simp
    subst hy
    refine ab λy hy=>?_
    refine aO (vw h4) Sb ?_
    obtain⟨us,hus,rus⟩:=at1.ldN rfl (N:=13) rfl
    have hus:=hus _ (Sc hW3 (Sc hW4 c4.wle))
    have rus:=rus.mono (Sc hW3 hW4)
    have d0:=hva4.int c4.wle (i:=0) al
    have ek:(11:Int)+(pat-34)=pat-23:=by omega
    have ew0:IntKind.i64.wrap (pat-34)=pat-34:=bC S0 S0
    have ew:IntKind.i64.wrap (11+(pat-34))=pat-23:=by rw[bC S0 S0];omega
    have ew2:IntKind.i64.wrap (3+(pat-34))=pat-31:=by rw[bC S0 S0];omega
    have hE:ic s.f s.t pat=if(aD s.f (nth s.t.args 0) (pat-23)).2 then Sj ⟨(aD s.f (nth s.t.args 0) (pat-23)).1.args,s.t.args,[],⟨pat-31,nth (aD s.f (nth s.t.args 0) (pat-23)).1.args 0,nth (aD s.f (nth s.t.args 0) (pat-23)).1.args 1,s.t.to,⟨0⟩⟩⟩ else none:=by
      unfold ic;rw[if_neg p1,if_neg p2,if_neg p3,if_neg p4,if_pos p5]
    have hfm:=dm (f:=s.f) (v:=nth s.t.args 0) (op:=pat-23)
    have hfo:=nM (s:=s) (v:=us) (x:=nth s.t.args 0) (op:=pat-23) (W:=W4) (h:=h4)
    have rng : ∀{hx:Heap} {Wx:View},Cx W h Wx hx (Own.upd (λ_=>Sk) (0,0) (bx T.aT R (RawN.mk (n:=7) fitZ)))->True:=λ_=>trivial
    generalize hm:(aD s.f (nth s.t.args 0) (pat-23)).1=m at *
    generalize hbb:(aD s.f (nth s.t.args 0) (pat-23)).2=b at *
    have c:=c4
    have hrefl:(vw h4).le (vw h4):=View.le_refl _
    repeat' (first
      | refine iD ?_ ?_
      | (refine bJ λx hx=>?_
         simp[s1,z1,x0,d0,hus,ew0,ew]
         first
         | refine c.cC (k:=(0,2)) (n:=4) (z:=.agg #[Sf Sg 0,Sf Sg 0,Sf Sg 0,Sn Sk 0 0,Sf Si 0]) S2 R9 rfl S1 S6 λBi h hle c=>?_
         | (refine af R9 (nM c.wle rus hok.sm a0) ?_
            rw[hm,hbb]
            rintro _ h ⟨hle,vm,rfl,hvm⟩
            have hW:=c.up (h':=h)
            have c:=c.ext hle)
         | refine c.bD (k:=(0,2)) (n:=4) (l:=[Sf Sg 0,Sf Sg 0,Sf Sg 0,Sn Sk 0 0,Sf Si 0]) S2 (hvm.mono S9) rfl rfl R9 rfl rfl λh l10 hl10 c=>?_
         try refine⟨S9,?_⟩
         subst hx))
    all_goals
      simp
      subst hy
      have hvm0:=hvm
      obtain⟨a3,m3,k3,rfl⟩:=xA hvm0
      have hl10:=hl10
      have e10:l10=[Sf Sg m.op,Sf Sg m.dst,Sf Sg m.two,.slice a3 m3 k3,Sf Si m.imm.v]:=by
        simp only[Value.agg.injEq]at hl10
        have:=congrArg Array.toList hl10
        simpa using this.symm
      subst e10
      have y10:=c.own.raw (k:=(0,2)) (n:=4) (l:=[Sf Sg m.op,Sf Sg m.dst,Sf Sg m.two,.slice a3 m3 k3,Sf Si m.imm.v]) (B:=Bi) (e:=T.eA) S2 (i:=3) S1
      simp at y10
      have hma:=Bl hvm
      cases b with
      | false=>
        have he:ic s.f s.t pat=none:=by rw[hE];rfl
        refine ab λy hy=>?_
        simp
        refine az (z:=.agg fitZ.toArray) (places:=zpc) (vs:=[]) (cs:=fitZ.toArray) R9 R9 Sa R9 ?_
        refine c.bD (k:=(0,0)) (n:=7) (l:=fitZ) S2 fy rfl rfl R9 rfl rfl λh9 l9 hl9 c9=>?_
        have hall:=c9.all (k:=(0,0)) (n:=7) (l:=l9) (B:=R) (e:=T.aT) S2
        simp at hall
        simp[hall]
        exact hK _ _ (bR.of c9 (hl9▸fy) (by rw[he];rfl) λy e=>by rw[he]at e;cases e)
      | true=>
        have he:ic s.f s.t pat=Sj ⟨m.args,s.t.args,[],⟨pat-31,nth m.args 0,nth m.args 1,s.t.to,⟨0⟩⟩⟩:=by rw[hE];rfl
        obtain⟨mm1,mm2,-⟩:=hfm rfl
        have hal2:=(hok.all _ mm1).two S0
        have hmost:=(hok.all _ mm1).most
        have r0:=hma.rng (i:=0) S0
        have r1:=hma.rng (i:=1) S0
        have x2':=hma.idx1 (k:=.i64) (i:=0) rfl S1 S0
        have x3':=hma.idx1 (k:=.i64) (i:=1) rfl S1 S0
        refine ab λy hy=>?_
        simp
        subst hy
        refine ab λy hy=>?_
        refine aO (vw h) Sb ?_
        have d2':=hma.int (Sc S9 c.wle) (i:=0) S0
        have d3':=hma.int (Sc S9 c.wle) (i:=1) S0
        have s1h:=ae (Sc S9 c.wle) s1
        have d0h:=hva4.int (Sc S9 c.wle) (i:=0) al
        have hva5:=hva4.mono S9
        have hto5:=hto.mono S9
        have hma5:=hma.mono S9
        have hH:(vw h).le (vw h):=View.le_refl _
        have hr : ∀{X:View} {bA bB:Option Addr} {kA kB:Nat},SlRd X (.slice bA m.args.length kA) m.args->SlRd X (.slice bB s.t.args.length kB) s.t.args->SlRd X (.slice b0 s.t.to.length k0) s.t.to->Rd X (.agg #[.slice bA m.args.length kA,.slice bB s.t.args.length kB,Sn Sk 0 0,Sf Sg (pat-31),Sf Sg (nth m.args 0),Sf Sg (nth m.args 1),.slice b0 s.t.to.length k0,Sf Si 0]) (⟨m.args,s.t.args,[],⟨pat-31,nth m.args 0,nth m.args 1,s.t.to,⟨0⟩⟩⟩:FitD):=λq1 q2 q3=>mK (ce:=[_,_,_,_,_]) q1 q2 aQ (lq (imm:=⟨0⟩) S7 Sa q3)
        repeat' (first
          | refine iD ?_ ?_
          | (refine bJ λx hx=>?_
             simp[y10,s1h,x2',x3',d2',d3',ew2]
             first
             | refine az (t:=T.fT) (z:=.agg #[Sf Sg 0,Sf Sg 0,Sf Sg 0,Sn Sk 0 0,Sf Si 0]) (places:=zpa) (vs:=[(0,Sf Sg (pat-31)),(1,Sf Sg (nth m.args 0)),(2,Sf Sg (nth m.args 1)),(3,.slice b0 s.t.to.length k0)]) (cs:=#[Sf Sg (pat-31),Sf Sg (nth m.args 0),Sf Sg (nth m.args 1),.slice b0 s.t.to.length k0,Sf Si 0]) R9 R9 Sa (by simp[Instr.fill,Value.cells]) ?_
             | (refine af R9 (dT c.wle (hma5.mono S9) S0) ?_
                rintro uA h ⟨hle,hcA⟩
                have hW:=c.up (h':=h)
                have c:=c.ext hle
                have hcA0:=hcA
                obtain⟨bA,kA,rfl,-⟩:=hcA0)
             | (refine af R9 (dT c.wle (hva5.mono S9) S0) ?_
                rintro uB h ⟨hle,hcB⟩
                have hW:=c.up (h':=h)
                have c:=c.ext hle
                have hcB0:=hcB
                obtain⟨bB,kB,rfl,-⟩:=hcB0)
             | refine az (t:=T.aT) (z:=.agg fitZ.toArray) (places:=zpc) (vs:=[(0,.slice bA m.args.length kA),(1,.slice bB s.t.args.length kB),(3,.agg #[Sf Sg (pat-31),Sf Sg (nth m.args 0),Sf Sg (nth m.args 1),.slice b0 s.t.to.length k0,Sf Si 0])]) (cs:=#[.slice bA m.args.length kA,.slice bB s.t.args.length kB,Sn Sk 0 0,Sf Sg (pat-31),Sf Sg (nth m.args 0),Sf Sg (nth m.args 1),.slice b0 s.t.to.length k0,Sf Si 0]) R9 R9 Sa (by simp[Instr.fill,Value.cells]) ?_
             | refine c.bD (k:=(0,0)) (n:=7) (l:=fitZ) S2 (hr (hcA.mono S9) (hcB.mono S9) (hto5.mono S9)) rfl rfl R9 rfl rfl λh l9 hl9 c=>?_
             try refine⟨S9,?_⟩
             subst hx))
        all_goals
          simp
          rw[hy]
          have hall:=c.all (k:=(0,0)) (n:=7) (l:=l9) (B:=R) (e:=T.aT) S2
          simp at hall
          simp[hall]
          exact hK _ _ (bR.of c (hl9▸hr (hcA.mono S9) (hcB.mono S9) (hto5.mono S9)) (by rw[he];rfl) λy e=>by rw[he]at e;cases e;rfl)
  refine iP (λρ h5=>h5=h4/\ρ=[(0,v),(1,Sf Sg pat),(2,ptr S),(4,ptr R),(5,.bool Sr),(6,ptr Tb),(7,.slice b0 s.t.to.length k0),(13,ut),(16,.slice b0 s.t.to.length k0),(81,.bool Sr),(83,.bool (inR pat 34 36))]) ?_ ?_
  · intro K2 hK2
    simp
    refine af R9 jo ?_
    rintro _ h4 ⟨rfl,rfl⟩
    by_cases e0:inR pat 34 36=Sq
    · have e2:¬s.t.kind=2:=λe=>p5 ⟨by simpa[inR]using e0,e⟩
      simp[e0,z0,e2]
      exact hK2 _ _ ⟨rfl,by rw[e0]⟩
    · have e0:inR pat 34 36=false:=by simpa using e0
      simp[e0]
      exact hK2 _ _ ⟨rfl,by rw[e0]⟩
  rintro _ h4 ⟨rfl,rfl⟩
  subst hy
  refine bf Sa ?_
  refine ab λy hy=>?_
  by_cases p6:pat=37/\s.t.kind=3
  · have he:ic s.f s.t pat=Sj ⟨s.t.args,[],[],⟨6,nth s.t.args 0,0,s.t.to,⟨0⟩⟩⟩:=by unfold ic;rw[if_neg p1,if_neg p2,if_neg p3,if_neg p4,if_neg p5,if_pos p6]
    have al:=htk.one S0
    have a0:=hva4.rng (i:=0) al
    have x0:=hva4.idx1 (k:=.i64) (i:=0) rfl S1 S0
    have d0:=hva4.int (View.le_refl W4) (i:=0) al
    simp[p6.1,z0,p6.2]
    subst hy
    refine aY Sa ?_
    refine ab λy hy=>?_
    refine aO W4 c4.wle ?_
    simp[s1,x0,d0]
    refine⟨?_,?_⟩
    · refine af R9 (dT c4.wle hva4 S0) ?_
      rintro ucl h5 ⟨hle5,hcl⟩
      have c5:=c4.ext hle5
      have hW5:=c4.up (h':=h5)
      refine⟨Sc hW5 c5.wle,?_⟩
      have hcl0:=hcl
      obtain⟨b1,k1,rfl,-⟩:=hcl0
      generalize grow W4 h4 h5=W5 at *
      refine az (t:=T.fT) (z:=.agg #[Sf Sg 0,Sf Sg 0,Sf Sg 0,Sn Sk 0 0,Sf Si 0]) (places:=zpa) (vs:=[(0,Sf Sg 6),(1,Sf Sg (nth s.t.args 0)),(3,.slice b0 s.t.to.length k0)]) (cs:=#[Sf Sg 6,Sf Sg (nth s.t.args 0),Sf Sg 0,.slice b0 s.t.to.length k0,Sf Si 0]) R9 R9 Sa (by simp[Instr.fill,Value.cells]) ?_
      refine⟨Sc hW5 c5.wle,?_⟩
      refine az (t:=T.aT) (z:=.agg fitZ.toArray) (places:=zpc) (vs:=[(0,.slice b1 s.t.args.length k1),(3,.agg #[Sf Sg 6,Sf Sg (nth s.t.args 0),Sf Sg 0,.slice b0 s.t.to.length k0,Sf Si 0])]) (cs:=#[.slice b1 s.t.args.length k1,Sn Sk 0 0,Sn Sk 0 0,Sf Sg 6,Sf Sg (nth s.t.args 0),Sf Sg 0,.slice b0 s.t.to.length k0,Sf Si 0]) R9 R9 Sa (by simp[Instr.fill,Value.cells]) ?_
      have hr:Rd W5 (.agg #[.slice b1 s.t.args.length k1,Sn Sk 0 0,Sn Sk 0 0,Sf Sg 6,Sf Sg (nth s.t.args 0),Sf Sg 0,.slice b0 s.t.to.length k0,Sf Si 0]) (⟨s.t.args,[],[],⟨6,nth s.t.args 0,0,s.t.to,⟨0⟩⟩⟩:FitD):=mK (ce:=[_,_,_,_,_]) hcl aQ aQ (lq (imm:=⟨0⟩) S7 Sa (hto.mono hW5))
      refine c5.bD (k:=(0,0)) (n:=7) (l:=fitZ) S2 hr rfl rfl R9 rfl rfl λh9 l9 hl9 c9=>?_
      subst hy
      have hall:=c9.all (k:=(0,0)) (n:=7) (l:=l9) (B:=R) (e:=T.aT) S2
      simp at hall
      simp[hall]
      exact hK _ _ (bR.of c9 (hl9▸hr) (by rw[he];rfl) λy e=>by rw[he]at e;cases e;rfl)
    · refine az (t:=T.fT) (z:=.agg #[Sf Sg 0,Sf Sg 0,Sf Sg 0,Sn Sk 0 0,Sf Si 0]) (places:=zpa) (vs:=[(0,Sf Sg 6),(1,Sf Sg (nth s.t.args 0)),(3,.slice b0 s.t.to.length k0)]) (cs:=#[Sf Sg 6,Sf Sg (nth s.t.args 0),Sf Sg 0,.slice b0 s.t.to.length k0,Sf Si 0]) R9 R9 Sa (by simp[Instr.fill,Value.cells]) ?_
      refine⟨c4.wle,?_⟩
      refine af R9 (dT c4.wle hva4 S0) ?_
      rintro ucl h5 ⟨hle5,hcl⟩
      have c5:=c4.ext hle5
      have hW5:=c4.up (h':=h5)
      refine⟨Sc hW5 c5.wle,?_⟩
      have hcl0:=hcl
      obtain⟨b1,k1,rfl,-⟩:=hcl0
      generalize grow W4 h4 h5=W5 at *
      refine az (t:=T.aT) (z:=.agg fitZ.toArray) (places:=zpc) (vs:=[(0,.slice b1 s.t.args.length k1),(3,.agg #[Sf Sg 6,Sf Sg (nth s.t.args 0),Sf Sg 0,.slice b0 s.t.to.length k0,Sf Si 0])]) (cs:=#[.slice b1 s.t.args.length k1,Sn Sk 0 0,Sn Sk 0 0,Sf Sg 6,Sf Sg (nth s.t.args 0),Sf Sg 0,.slice b0 s.t.to.length k0,Sf Si 0]) R9 R9 Sa (by simp[Instr.fill,Value.cells]) ?_
      have hr:Rd W5 (.agg #[.slice b1 s.t.args.length k1,Sn Sk 0 0,Sn Sk 0 0,Sf Sg 6,Sf Sg (nth s.t.args 0),Sf Sg 0,.slice b0 s.t.to.length k0,Sf Si 0]) (⟨s.t.args,[],[],⟨6,nth s.t.args 0,0,s.t.to,⟨0⟩⟩⟩:FitD):=mK (ce:=[_,_,_,_,_]) hcl aQ aQ (lq (imm:=⟨0⟩) S7 Sa (hto.mono hW5))
      refine c5.bD (k:=(0,0)) (n:=7) (l:=fitZ) S2 hr rfl rfl R9 rfl rfl λh9 l9 hl9 c9=>?_
      subst hy
      have hall:=c9.all (k:=(0,0)) (n:=7) (l:=l9) (B:=R) (e:=T.aT) S2
      simp at hall
      simp[hall]
      exact hK _ _ (bR.of c9 (hl9▸hr) (by rw[he];rfl) λy e=>by rw[he]at e;cases e;rfl)
  refine iP (λρ h5=>h5=h4/\ρ=[(0,v),(1,Sf Sg pat),(2,ptr S),(4,ptr R),(5,.bool Sr),(6,ptr Tb),(7,.slice b0 s.t.to.length k0),(13,ut),(16,.slice b0 s.t.to.length k0),(83,.bool (inR pat 34 36)),(124,.bool Sr)]) ?_ ?_
  · intro K2 hK2
    by_cases e0:pat=37
    · have e2:¬s.t.kind=3:=λe=>p6 ⟨e0,e⟩
      simp[e0,z0,e2]
      exact hK2 _ _ ⟨rfl,by rw[e0]⟩
    · simp[e0,z0]
      exact hK2 _ _ ⟨rfl,rfl⟩
  rintro _ h4 ⟨rfl,rfl⟩
  subst hy
  refine bf Sa ?_
  have he:ic s.f s.t pat=none:=by unfold ic;rw[if_neg p1,if_neg p2,if_neg p3,if_neg p4,if_neg p5,if_neg p6]
  simp
  subst hz
  refine ab λz hz=>?_
  simp
  refine az (z:=.agg fitZ.toArray) (places:=zpc) (vs:=[]) (cs:=fitZ.toArray) R9 R9 Sa R9 ?_
  refine c4.bD (k:=(0,0)) (n:=7) (l:=fitZ) S2 fy rfl rfl R9 rfl rfl λh9 l9 hl9 c9=>?_
  subst hz
  have hall:=c9.all (k:=(0,0)) (n:=7) (l:=l9) (B:=R) (e:=T.aT) S2
  simp at hall
  simp[hall]
  exact hK _ _ (bR.of c9 (hl9▸fy) (by rw[he];rfl) λy e=>by rw[he]at e;cases e)
theorem Cx.upW{V W W':View}{h0 h h':Heap}{o:Own}(c:Cx V h0 W h o)(hle:(vw h).le (vw h'))(u:Up W h W')(hW:W'.le (vw h')):Cx V h0 W' h' o:=by
 have A : ∀k i b,o k=Sj i->i.v.ownBlock=Sj b->W' b=none:=λk i b hk hb=>by
  have hlt:=c.own.lt hk hb;have hav:=c.own.av k i hk b hb;cases hx:W' b with
  | none=>rfl
  | some x=>rw[u.old b x hlt hx]at hav;cases hav
 exact⟨(c.own.ext' hle).KH u.le hW A,λb x hb hx=>c.old b x hb (u.old b x (QG hb (cm c.le0)) hx),Sc c.le0 hle,c.new⟩
theorem LY{s:bY}{v:Value}{pat:Int}{h:Heap}{W:View}(hW:W.le (vw h))(hv:Rd W v s)(hok:s.term=Sr->mC s)(htk:s.term=Sq->mC s/\xX s.t)(hM:s.i.op=15\/s.i.op=16->ll)(hp:I64 pat):
  aw Ss 39 #[v,Sf Sg pat] h (λu h'=>bR W h h' u (tryS s pat)):=by
 refine aj (args:=[v,Sf Sg pat]) follows Tryz.func39 E.kT S8 λK hK=>?_;dsimp only[L.kT,lkF,lkG];have c0:=Cx.start hW;refine ab λz hz=>?_;simp;refine c0.dc rfl hv λS h1 W1 hW1 c1 at1 hle1=>?_;refine c1.cC (k:=(0,0)) (n:=7) (z:=.agg fitZ.toArray) rfl R9 rfl S1 S6 λR h2 hle2 c2=>?_;subst hz;have tm:=(at1.part bY.n7).bool;have tm:ak W1 ⟨S,11,Sk⟩=Sj (.bool s.term):=by simpa using tm
 have tm:=ae c2.wle tm;obtain⟨us,hus,rus⟩:=at1.ldN rfl (N:=13) rfl;have hus:=hus _ c2.wle;refine ab λz hz=>?_;cases ht:s.term with
 | true=>
  rw[ht]at tm;obtain⟨hk1,hk2⟩:=htk ht;have e:tryS s pat=ic s.f s.t pat:=by unfold tryS;rw[if_pos ht]
  rw[e]at hK;simp[tm,hus];refine af R9 (LK c2.wle rus hk1 hk2 hp) ?_;rintro _ h3 ⟨hle3,vf,x,rfl,hvf,hx⟩;have c3:=c2.ext hle3;simp;refine c3.bD (k:=(0,0)) (n:=7) (l:=fitZ) S2 hvf rfl rfl R9 rfl rfl λh9 l9 hl9 c9=>?_;have hall:=c9.all (k:=(0,0)) (n:=7) (l:=l9) (B:=R) (e:=T.aT) S2;simp at hall;simp[hall];exact hK _ _ (bR.of c9 (hl9▸hvf) rfl hx)
 | false=>
  rw[ht]at tm;have e:tryS s pat=patS s.f s.i s.temp pat:=by unfold tryS;rw[ht];rfl
  rw[e]at hK;simp[tm];subst hz;refine ab λz hz=>?_;simp[hus];refine af R9 (AI c2.wle rus (hok ht) ht hM) ?_;rintro _ h3 ⟨r,W3,rfl,u3,p3,hle3⟩;have c3:=Cx.upW c2 hle3 u3 p3.wle;obtain⟨g,g1,g2,g3⟩:=p3.ex;refine mZ (f:=mapE id g) (z:=.nilFunc) (k:=T.int) (e:=T.gl) (d:=.int .i64) (r:=r) (u:=Sf Sg pat) U.cy U.int R9 rfl rfl ez g1 ?_;simp;subst hz;refine ab λz hz=>?_;have g2p:=g2 pat;have g3p:=g3 pat;cases hg:g pat with
  | none=>
   rw[hg]at g2p;have e0:patS s.f s.i s.temp pat=none:=by unfold patS;rw[if_neg];rintro⟨a1,a2,-⟩;simp[nTo]at g2p;omega
   rw[e0]at hK;simp;refine az (t:=T.aT) (z:=.agg fitZ.toArray) (places:=zpc) (vs:=[]) (cs:=fitZ.toArray) R9 R9 Sa R9 ?_;refine c3.bD (k:=(0,0)) (n:=7) (l:=fitZ) S2 fy rfl rfl R9 rfl rfl λh9 l9 hl9 c9=>?_;have hall:=c9.all (k:=(0,0)) (n:=7) (l:=l9) (B:=R) (e:=T.aT) S2;simp at hall;simp[hall];exact hK _ _ (bR.of c9 (hl9▸fy) rfl λy e=>by cases e)
  | some fv=>obtain⟨fn,caps,rfl,hfn,hcall⟩:=(g3p fv hg).ex;simp;subst hz;refine ab λz hz=>?_;simp;refine aU (ops:=[]) rfl hfn (by simpa using hcall h3 W3 Sb p3.wle) ?_;rintro _ h4 ⟨hle4,vf,x,rfl,hvf,hx⟩;have c4:=c3.ext hle4;simp;refine c4.bD (k:=(0,0)) (n:=7) (l:=fitZ) S2 hvf rfl rfl R9 rfl rfl λh9 l9 hl9 c9=>?_;subst hz;have hall:=c9.all (k:=(0,0)) (n:=7) (l:=l9) (B:=R) (e:=T.aT) S2;simp at hall;simp[hall];exact hK _ _ (bR.of c9 (hl9▸hvf) rfl hx)
abbrev RSt:=List Bool × List Int
def jI (wo:Int) (to:List Int) (k:Nat) (s:RSt):RSt:=
 if(0<=nth to k/\nth to k<s.1.length)/\nth s.1 (nth to k).toNat=Sr/\nth to k≠wo then(s.1.set (nth to k).toNat Sq,s.2++[nth to k]) else s
def xq (f:an) (wo:Int) (i:Nat) (s:RSt):RSt:=up (jI wo (nth f.blocks (nth s.2 i).toNat).term.to) (nth f.blocks (nth s.2 i).toNat).term.to.length s
def rchS (f:an) (wo:Int):Nat->Nat->RSt->RSt
 | 0,_,s=>s
 | n+1,i,s=>if i<s.2.length then rchS f wo n (i+1) (xq f wo i s) else s
def rch0 (f:an) (wo:Int):RSt:=if wo≠0/\0<f.blocks.length then((List.replicate f.blocks.length Sr).set 0 Sq,[0]) else(List.replicate f.blocks.length Sr,[])
def dZ (f:an) (wo:Int):List Bool:=(rchS f wo (f.blocks.length+1) 0 (rch0 f wo)).1
structure ROk (n:Nat) (s:RSt):Prop where
 len:s.1.length=n
 cnt:s.2.length+cY s.1<=n
 rng : ∀x∈s.2,0<=x/\x<n
variable{wo:Int}
theorem Cd{n:Nat}{to:List Int}{k:Nat}{s:RSt}(h:ROk n s):ROk n (jI wo to k s):=by
 unfold jI;split
 ·rename_i hc;have hf:=jx (t:=s.1) (i:=(nth to k).toNat) S0 hc.2.1;refine⟨by simpa using h.len,?_,λx hx=>?_⟩
  ·have:=h.cnt;simp only[OI,OW];omega
  rcases OE.1 hx with hx | hx
  ·exact h.rng x hx
  rw[OC.1 hx,<-h.len];exact hc.1
 exact h
theorem wX{n:Nat}{to:List Int}{s:RSt}(h:ROk n s)(m:Nat):ROk n (up (jI wo to) m s):=uD (ROk n) (λk x hx=>Cd hx) m s h
theorem Ar{f:an}:ROk f.blocks.length (rch0 f wo):=by
 unfold rch0;have hfa:cY (List.replicate f.blocks.length Sr)=f.blocks.length:=by simp[cY]
 split
 ·rename_i hc;have hf:=jx (t:=List.replicate f.blocks.length Sr) (i:=0) (by simpa using hc.2) (by rw[ay (by simpa using hc.2)];simp);exact⟨by simp,by simp only[OW];omega,λx hx=>by rw[OC.1 hx];omega⟩
 exact⟨by simp,by simp only[Q0];omega,λx hx=>by cases hx⟩
theorem DT {f:an} {wo:Int} : ∀{m i:Nat} {s:RSt},ROk f.blocks.length s->ROk f.blocks.length (rchS f wo m i s)
 | 0,_,_,h=>h
 | m+1,i,s,h=>by
  rw[rchS];split
  ·exact DT (wX h _)
  exact h
theorem sA{f:an}:(dZ f wo).length=f.blocks.length:=(DT Ar).len
def rH (vo vq:Value) (s:RSt):Own:=λk=>if k=(0,0) then it T.bool vo s.1 else if k=(0,1) then it T.int vq s.2 else Sk
theorem xw{f:an}{v:Value}{h:Heap}(hv:Rd (vw h) v f)(hn:f.blocks.length<=1000000):
  aw Ss 53 #[v,Sf Sg wo] h (λu h'=>(vw h).le (vw h')/\SlRd (fresh h h') u (dZ f wo)):=by
 refine aj (args:=[v,Sf Sg wo]) follows Tryz.func53 E.cg S8 λK hK=>?_;dsimp only[L.cg,lkF,lkG];refine ab λz hz=>?_;simp;refine fI rfl hv λh1 _ hle1 hsz1 hat=>?_;obtain⟨_,vb,cb⟩:=iZ hat;generalize h.size=B at cb;subst hz;refine ab λz hz=>?_;simp[cb.1,cb.2.len];refine og (α:=Bool) (W:=vw h1) (k:=.i64) (n:=f.blocks.length) (d:=false) El.oB Sa Sa rfl S0 S0 λvo h2 o2 m2 hle2 hb2=>?_;have w2:=(Owns.start (h:=h1) (View.le_refl (vw h1))).add (k:=(0,0)) rfl o2 hle2 (λb hb=>by rw[hb2]at hb;cases hb;exact OA _);subst hz;refine ab λz hz=>?_;simp;refine tA (α:=Int) El.aV λh3 hle3 hsz3 own3=>?_;have w3:=w2.add (k:=(0,1)) rfl (own3 _) hle3 (λb hb=>by simp only[Value.ownBlock,Ow]at hb;omega);have w3:Owns (vw h1) h3 (rH vo (Sn (Sj ⟨h2.size,0,Sk⟩) 0 0) (List.replicate f.blocks.length Sr,[])):=w3.congr λq=>by
  unfold rH Own.upd;repeat' split
  all_goals first | rfl | simp_all
 generalize Sn (Sj ⟨h2.size,0,Sk⟩) 0 0=vq at w3;subst hz;refine ab λz hz=>?_;have cc3:=ae w3.wle cb.1;have cb3:=cb.2.mono w3.wle;have fin : ∀(h4:Heap) (vq:Value) (tl:Env),Owns (vw h1) h4 (rH vo vq (rch0 f wo))->@LC.wp noPP Ss z (@dF [.tmp 4] K) ([(0,v),(1,Sf Sg wo),(2,ptz B),(4,Sn Sk 0 0),(5,vo),(6,vq)]++tl) h4:=by
  intro h4 vq tl w4;subst hz;refine ab λz hz=>?_;simp;refine ja [1,2,5,6,7] (λm ρ h5=>∃(i:Nat) (s:RSt) (vq:Value),i<=f.blocks.length/\m=f.blocks.length+1-i/\ρ=[(1,Sf Sg wo),(2,ptz B),(5,vo),(6,vq),(7,Sf Sg i)]/\Owns (vw h1) h5 (rH vo vq s)/\ROk f.blocks.length s/\
   (rchS f wo m i s).1=dZ f wo) (f.blocks.length+1) ⟨0,_,vq,by omega,rfl,by simp[bQ,ag],w4,Ar,rfl⟩ ?_;rintro m ρ h5 ⟨i,s,vq5,hi,rfl,rfl,w5,hok,hfin⟩ K2 hK2;have no:=w5.now (k:=(0,0)) (v:=vo) (l:=s.1) rfl;have nq:=w5.now (k:=(0,1)) (v:=vq5) (l:=s.2) rfl;have hcnt:=hok.cnt;by_cases hlt:i<s.2.length
  ·have hm:f.blocks.length+1-i=(f.blocks.length-i)+1:=by omega
   rw[hm,rchS,if_pos hlt]at hfin;obtain⟨r0,r1⟩:=hok.rng _ (aS hlt);have cb5:=cb.2.mono w5.wle;obtain⟨w,hw⟩:=zB cb5 (i:=(nth s.2 i).toNat) S0;obtain⟨w',hw'⟩:=zB cb.2 (i:=(nth s.2 i).toNat) S0;have eww:w'=w:=Option.some.inj ((ae w5.wle hw'.1).symm.trans hw.1);rw[eww]at hw';have hwb:=hw.2.bound;have hrow:xq f wo i s=up (jI wo (nth f.blocks (nth s.2 i).toNat).term.to) (nth f.blocks (nth s.2 i).toNat).term.to.length s:=rfl;rw[hrow]at hfin;generalize hto:(nth f.blocks (nth s.2 i).toNat).term.to=to at hw hw' hwb hfin;refine ab λy hy=>?_;simp(disch:=omega)[nq.len,hlt];subst hy;refine ab λy hy=>?_;refine ab λx hx=>?_;simp(disch:=omega)[ae w5.wle cb.1,cb5.idxn (N:=6) rfl,nq.idx1 rfl,nq.int Sb,hw.1];subst hx;simp;refine cW [1,2,5,6,7,8,9] (fun(q:Value) j=>[Sf Sg wo,ptz B,vo,q,Sf Sg i,w,Sf Sg j]) (λq j h6=>Owns (vw h1) h6 (rH vo q (up (jI wo to) j s))) to.length vq5
    rfl S0 rfl w5 (λ_ _=>rfl) (λv j h4 hk m=>by simp[hw.2.len]) ?_ ?_
   ·rintro q j h6 hltj w6 K3 hK3;have hst:up (jI wo to) (j+1) s=jI wo to j (up (jI wo to) j s):=rfl;have hok6:=wX (wo:=wo) (to:=to) hok j;generalize up (jI wo to) j s=s6 at w6 hst hok6;have no6:=w6.now (k:=(0,0)) (v:=vo) (l:=s6.1) rfl;have nq6:=w6.now (k:=(0,1)) (v:=q) (l:=s6.2) rfl;have hcnt6:=hok6.cnt;have hlen6:=hok6.len;have hr6:=hw'.2.mono w6.wle;have hrng:=hw'.2.range hltj;rw[jI]at hst;by_cases c1:0<=nth to j/\nth to j<s6.1.length
    ·have c1a:=c1.1;have c1b:=c1.2;cases c2:nth s6.1 (nth to j).toNat with
     | true=>rw[if_neg (by rw[c2];simp)]at hst;simp(disch:=omega)[hr6.idx1 rfl,hr6.int Sb,no6.len,no6.idx1 rfl,no6.bool Sb,c1a,c1b,c2];exact hK3 q _ _ rfl rfl (by rw[hst];exact w6)
     | false=>
      by_cases c3:nth to j=wo
      ·rw[if_neg (by simp[c3])]at hst;rw[c3]at c1a c1b c2;simp(disch:=omega)[hr6.idx1 rfl,hr6.int Sb,no6.len,no6.idx1 rfl,no6.bool Sb,c1a,c1b,c2,c3];exact hK3 q _ _ rfl rfl (by rw[hst];exact w6)
      rw[if_pos ⟨c1,c2,c3⟩]at hst;refine ab λx hx=>?_;simp(disch:=omega)[hr6.idx1 rfl,hr6.int Sb,no6.len,no6.idx1 rfl,no6.bool Sb,c1a,c1b,c2,c3];subst hx;simp(disch:=omega)[hr6.idx1 rfl,hr6.int Sb,no6.idx1 rfl];refine w6.bD (k:=(0,0)) (α:=Bool) (l:=s6.1) (v:=vo) (i:=(nth to j).toNat) (d:=true) rfl R9 (by simp[show Rep.n Bool=1 from rfl]) (by simp<;>rfl) S0 KU λh7 w7 hs7=>?_;have hr7:=hw'.2.mono w7.wle;simp(disch:=omega)[hr7.idx1 rfl,hr7.int Sb];refine w7.ji (k:=(0,1)) (α:=Int) (v:=q) (l:=s6.2) (d:=nth to j) rfl El.aV (by simp<;>rfl) (px hrng.1 hrng.2) S0 S0 S3 S3 λu q8 h8 w8 hs8=>?_;refine hK3 q8 _ _ rfl rfl ?_;rw[hst];refine w8.congr λq=>?_;unfold rH Own.upd;repeat' split
      all_goals first | rfl | simp_all
    rw[if_neg (λe=>c1 e.1)]at hst;by_cases c1a:0<=nth to j
    ·have c1b:¬nth to j<s6.1.length:=λe=>c1 ⟨c1a,e⟩;simp(disch:=omega)[hr6.idx1 rfl,hr6.int Sb,no6.len,c1a,c1b];exact hK3 q _ _ rfl rfl (by rw[hst];exact w6)
    simp(disch:=omega)[hr6.idx1 rfl,hr6.int Sb,no6.len,c1a];exact hK3 q _ _ rfl rfl (by rw[hst];exact w6)
   rintro q h6 w6;simp;subst hy;simp(disch:=omega);exact hK2 (f.blocks.length+1-(i+1)) _ _ S0 ⟨i+1,_,q,by omega,rfl,by simp[bQ],w6,wX hok _,by rw[show f.blocks.length+1-(i+1)=f.blocks.length-i by omega];exact hfin⟩
  have hlt':¬(i:Int)<s.2.length:=by omega
  simp(disch:=omega)[L.cg.l1,nq.len,hlt];subst hz;simp;have hs1:s.1=dZ f wo:=by
   rw[<-hfin];cases f.blocks.length+1-i with
   | zero=>rfl
   | succ m=>rw[rchS,if_neg hlt]
  have ow:=w5.get (k:=(0,0)) (v:=vo) (l:=s.1) rfl;refine hK _ _ ⟨Sc hle1 w5.wle,?_⟩;rw[<-hs1];have ow':OwnT nothing h5 T.bool vo s.1:=ow;refine ow'.fresh (λ_ _ h=>by cases h) λb hb=>?_;rw[hb2]at hb;cases hb;exact View.cA Sb S0
 by_cases c1:wo=0
 ·have hr0:rch0 f wo=(List.replicate f.blocks.length Sr,[]):=by rw[rch0,if_neg (λe=>e.1 c1)]
  rw[hr0]at fin;simp[cc3,cb3.len,c1];rw[c1]at fin;exact fin _ _ _ w3
 by_cases c2:0<f.blocks.length
 ·have hr0:rch0 f wo=((List.replicate f.blocks.length Sr).set 0 Sq,[0]):=by rw[rch0,if_pos ⟨c1,c2⟩]
  rw[hr0]at fin;have no:=w3.now (k:=(0,0)) (v:=vo) (l:=List.replicate f.blocks.length Sr) rfl;refine ab λy hy=>?_;simp(disch:=omega)[cc3,cb3.len,c1,c2];subst hy;have i0:Bn.ev (.idx 1) vo (Sf Sg 0)=Sj (Sp (Sj ((slA vo).add 0))):=no.idx1 rfl S0 (by simpa using c2);simp(disch:=omega)[i0];refine w3.bD (k:=(0,0)) (α:=Bool) (l:=List.replicate f.blocks.length Sr) (v:=vo) (i:=0) (d:=true) rfl R9 (by simp[show Rep.n Bool=1 from rfl]) (by simp<;>rfl) (by simpa using c2) KU λh4 w4 hs4=>?_;refine w4.ji (k:=(0,1)) (α:=Int) (v:=vq) (l:=[]) (d:=0) rfl El.aV (by simp<;>rfl) (px S0 S0) Sa Sa S3 S3 λu q5 h5 w5 hs5=>?_;refine fin _ _ _ (w5.congr λq=>?_);unfold rH Own.upd;repeat' split
  all_goals first | rfl | simp_all
 have hr0:rch0 f wo=(List.replicate f.blocks.length Sr,[]):=by rw[rch0,if_neg (λe=>c2 e.2)]
 rw[hr0]at fin;simp[cc3,cb3.len,c1,c2];exact fin _ _ _ w3
theorem lM{l:List BlkD}:(ofG l).length=l.length:=by simp[ofG]
variable{b:Int}
theorem nO{l:List BlkD}{a:Int}:nC (ofG l) a b=Sq↔(0<=a/\a<l.length/\0<=b/\b<l.length)/\b∈(nth l a.toNat).term.to:=by
 rw[iT,lM];constructor
 ·rintro⟨h,hm⟩;rw[ofG,fE S0,tJ]at hm;exact⟨h,hm.1⟩
 rintro⟨h,hm⟩;refine⟨h,?_⟩;rw[ofG,fE S0,tJ];exact⟨hm,h.2.2.1,h.2.2.2⟩
structure Rb (f:an) (wo:Int) (s:RSt):Prop where
 ok:ROk f.blocks.length s
 seen : ∀b:Nat,b<f.blocks.length->(nth s.1 b=Sq↔(b:Int)∈s.2)
 sound : ∀x∈s.2,Re (ofG f.blocks) wo x.toNat
theorem MO{f:an}{a:Int}{k:Nat}{s:RSt}(h:Rb f wo s)(h0:0<=a)(h1:a<f.blocks.length)(ha:Re (ofG f.blocks) wo a.toNat)(hk:k<(nth f.blocks a.toNat).term.to.length):
  Rb f wo (jI wo (nth f.blocks a.toNat).term.to k s)/\s.2 <+: (jI wo (nth f.blocks a.toNat).term.to k s).2/\
   (0<=nth (nth f.blocks a.toNat).term.to k->nth (nth f.blocks a.toNat).term.to k<f.blocks.length->nth (nth f.blocks a.toNat).term.to k≠wo->nth (nth f.blocks a.toNat).term.to k∈(jI wo (nth f.blocks a.toNat).term.to k s).2):=by
 have hok:=Cd (wo:=wo) (to:=(nth f.blocks a.toNat).term.to) (k:=k) h.ok;have hm:=aS hk;unfold jI at hok ⊢;generalize hto:(nth f.blocks a.toNat).term.to=to at hm hok ⊢;split
 ·rename_i hc;rw[if_pos hc]at hok;obtain⟨⟨c1,c2⟩,c3,c4⟩:=hc;rw[h.ok.len]at c2;have hb:((nth to k).toNat:Int)=nth to k:=O0 c1;refine⟨⟨hok,λb hb=>?_,λx hx=>?_⟩,List.prefix_append _ _,λ_ _ _=>Pj _ (OC.2 rfl)⟩
  ·rw[OE,OC];by_cases he:b=(nth to k).toNat
   ·subst he;rw[aX (by rw[h.ok.len];omega),if_pos rfl];exact⟨λ_=>.inr (O0 c1),λ_=>rfl⟩
   rw[aX (by rw[h.ok.len];exact hb),if_neg (λe=>he e.symm),h.seen b hb];exact⟨.inl,λe=>e.resolve_right S0⟩
  rcases OE.1 hx with hx | hx
  ·exact h.sound x hx
  rw[OC.1 hx];refine .step ha ?_ (by rw[hb];exact c4);rw[nO,hb];exact⟨⟨by omega,by omega,c1,c2⟩,by rw[OR,hto];exact hm⟩
 rename_i hc;rw[if_neg hc]at hok;refine⟨h,QB _,λc1 c2 c4=>?_⟩;have hb:((nth to k).toNat:Int)=nth to k:=O0 c1;rw[<-hb,<-h.seen _ S0];cases e:nth s.1 (nth to k).toNat with
 | true=>rfl
 | false=>exact absurd ⟨⟨c1,by rw[h.ok.len];exact c2⟩,e,c4⟩ hc
theorem H4 {f:an} {wo a:Int} {s:RSt} (h:Rb f wo s) (h0:0<=a) (h1:a<f.blocks.length) (ha:Re (ofG f.blocks) wo a.toNat) : ∀m,m<=(nth f.blocks a.toNat).term.to.length->
  Rb f wo (up (jI wo (nth f.blocks a.toNat).term.to) m s)/\s.2 <+: (up (jI wo (nth f.blocks a.toNat).term.to) m s).2/\
   ∀k,k<m->0<=nth (nth f.blocks a.toNat).term.to k->nth (nth f.blocks a.toNat).term.to k<f.blocks.length->nth (nth f.blocks a.toNat).term.to k≠wo->nth (nth f.blocks a.toNat).term.to k∈(up (jI wo (nth f.blocks a.toNat).term.to) m s).2
 | 0,_=>⟨h,QB _,λk hk=>by omega⟩
 | m+1,hm=>by
  obtain⟨i1,i2,i3⟩:=H4 h h0 h1 ha m S0;obtain⟨j1,j2,j3⟩:=MO (k:=m) i1 h0 h1 ha S0;rw[up];refine⟨j1,i2.trans j2,λk hk c1 c2 c3=>?_⟩;rcases OD k m with hlt | hge
  ·exact j2.subset (i3 k hlt c1 c2 c3)
  have:k=m:=by omega
  subst this;exact j3 c1 c2 c3
structure Rc (f:an) (wo:Int) (i:Nat) (s:RSt):Prop where
 b:Rb f wo s
 root:wo≠0->0<f.blocks.length->(0:Int)∈s.2
 done : ∀j,j<i->j<s.2.length->∀b:Nat,nC (ofG f.blocks) (nth s.2 j) b=Sq->(b:Int)≠wo->(b:Int)∈s.2
variable{α:Type}
theorem Eu[Inhabited α]{a b:List α}(h:a <+: b){i:Nat}(hi:i<a.length):nth b i=nth a i:=by obtain⟨t,rfl⟩:=h;rw[ay S7,ay hi,Qr hi]
theorem Ju{f:an}{i:Nat}{s:RSt}(h:Rc f wo i s)(hi:i<s.2.length):Rc f wo (i+1) (xq f wo i s)/\s.2 <+: (xq f wo i s).2:=by
 have hm:=aS hi;obtain⟨h0,h1⟩:=h.b.ok.rng _ hm;have hre:=h.b.sound _ hm;obtain⟨i1,i2,i3⟩:=H4 h.b h0 h1 hre _ (OA _);have he:xq f wo i s=up (jI wo (nth f.blocks (nth s.2 i).toNat).term.to) (nth f.blocks (nth s.2 i).toNat).term.to.length s:=rfl;rw[<-he]at i1 i2 i3;refine⟨⟨i1,λa b=>i2.subset (h.root a b),λj hj hjl b hb hne=>?_⟩,i2⟩;rcases OD j i with hlt | hge
 ·rw[Eu i2 S0]at hb;exact i2.subset (h.done j hlt S0 b hb hne)
 have:j=i:=by omega
 subst this;rw[Eu i2 hi,nO]at hb;obtain⟨⟨_,_,q1,q2⟩,hmem⟩:=hb;obtain⟨k,hk,e⟩:=OU hmem;rw[<-ay hk]at e;rw[<-e];exact i3 k hk S0 S0 (by rw[e];exact hne)
theorem Ii {f:an} {wo:Int} : ∀{m i:Nat} {s:RSt},Rc f wo i s->f.blocks.length<i+m->∃k,Rc f wo k (rchS f wo m i s)/\(rchS f wo m i s).2.length<=k
 | 0,i,s,h,hm=>⟨i,h,by have:=h.b.ok.cnt;rw[rchS];omega⟩
 | m+1,i,s,h,hm=>by
  rw[rchS];split
  ·rename_i hi;exact Ii (Ju h hi).1 S0
  rename_i hi;exact⟨i,h,by omega⟩
theorem I1{f:an}:Rc f wo 0 (rch0 f wo):=by
 have hok:=Ar (f:=f) (wo:=wo);unfold rch0 at hok ⊢;split
 ·rename_i hc;rw[if_pos hc]at hok;refine⟨⟨hok,λb hb=>?_,λx hx=>?_⟩,λ_ _=>OC.2 rfl,λj hj=>by omega⟩
  ·rw[aX (by simpa using hb),OC];split
   ·rename_i e;subst e;simp
   rename_i e;rw[ay (by simpa using hb)];simp;omega
  rw[OC.1 hx];exact .root (by rw[lM];exact hc.2) hc.1
 rename_i hc;rw[if_neg hc]at hok;refine⟨⟨hok,λb hb=>?_,λx hx=>by cases hx⟩,λa b=>absurd ⟨a,b⟩ hc,λj hj=>by omega⟩;rw[ay (by simpa using hb)];simp
theorem fB{f:an}{b:Nat}(hb:b<f.blocks.length):nth (dZ f wo) b=Sq↔Re (ofG f.blocks) wo b:=by
 obtain⟨k,h,hk⟩:=Ii (I1 (f:=f) (wo:=wo)) (m:=f.blocks.length+1) S0;unfold dZ;generalize rchS f wo (f.blocks.length+1) 0 (rch0 f wo)=s at h hk;rw[h.b.seen b hb];constructor
 ·exact λhm=>by simpa using h.b.sound _ hm
 intro hr;induction hr with
 | root h1 h2=>exact h.root h2 (by rw[<-lM];exact h1)
 | @step a b ha he hne ih=>have hm:=ih (by have:=(nO.1 he).1;omega);obtain⟨j,hj,e⟩:=OU hm;rw[<-ay hj]at e;exact h.done j S0 hj b (by rw[e];exact he) hne
instance:Rep Th:=Rep.via λd=>Cat.mk d.blk (Cat.mk d.place (Cat.mk d.mks d.tks))
theorem Th.KE:Part Th Int 0 Th.blk (λd x=>{ d with blk:=x }):=(Part.fst Part.all).via (λ_=>rfl) λ_ _=>rfl
theorem Th.M3:Part Th (List Int) 2 Th.mks (λd x=>{ d with mks:=x }):=(Part.snd (Part.snd (Part.fst Part.all))).via (λ_=>rfl) λ_ _=>rfl
structure ThR where
 blk:Int
 place:Int
 mks:List Int
 tks:Raw
instance:Rep ThR:=Rep.via λd=>Cat.mk d.blk (Cat.mk d.place (Cat.mk d.mks d.tks))
theorem ThR.Kr:Part ThR Raw 3 ThR.tks (λd x=>{ d with tks:=x }):=(Part.snd (Part.snd (Part.snd Part.all))).via (λ_=>rfl) λ_ _=>rfl
theorem HY{H:View}{a:Int}{u q:Value}{m t:List Int}(ha:I64 a)(hb:I64 b)(hm:SlRd H u m)(ht:SlRd H q t):Rd H (.agg #[Sf Sg a,Sf Sg b,u,q]) (Th.mk a b m t):=
 ⟨_,rfl,[Sf Sg a],[Sf Sg b,u,q],rfl,⟨rfl,ha⟩,[Sf Sg b],[u,q],rfl,⟨rfl,hb⟩,[u],[q],rfl,⟨u,rfl,hm⟩,⟨q,rfl,ht⟩⟩
theorem Md{H:View}{a:Int}{u q:Value}{m:List Int}(ha:I64 a)(hb:I64 b)(hm:SlRd H u m)(hq:q.oneCell'=Sq):Rd H (.agg #[Sf Sg a,Sf Sg b,u,q]) (ThR.mk a b m ⟨q⟩):=
 ⟨_,rfl,[Sf Sg a],[Sf Sg b,u,q],rfl,⟨rfl,ha⟩,[Sf Sg b],[u,q],rfl,⟨rfl,hb⟩,[u],[q],rfl,⟨u,rfl,hm⟩,⟨rfl,hq⟩⟩
theorem FM{H:View}{cs:List Value}{d:ThR}(h:Rep.rd H cs d): ∃u,cs=[Sf Sg d.blk,Sf Sg d.place,u,d.tks.v]/\I64 d.blk/\I64 d.place/\SlRd H u d.mks:=by obtain⟨c1,r1,rfl,⟨rfl,h1⟩,c2,r2,rfl,⟨rfl,h2⟩,c3,r3,rfl,⟨u,rfl,h3⟩,rfl,_⟩:=h;exact⟨u,rfl,h1,h2,h3⟩
def pU (vo:Value) (l:List Th):Own:=λk=>if k=(0,0) then it T.eW vo l else Sk
def vX (vo:Value) (l:List Th) (D:Nat) (d:ThR) (q:Value) (t:List Int):Own:=λk=>if k=(0,0) then it T.eW vo l else if k=(1,0) then bx T.eW D d else if k=(1,1) then it T.int q t else Sk
structure ThS (V:View) (h0:Heap) (vo:Value) (l:List Th) (W:View) (h:Heap):Prop where
 own:Owns W h (pU vo l)
 old:Old V h0 W
 le:(vw h0).le (vw h)
 av:Av (vw h0) vo
theorem ThS.ext {V:View} {h0:Heap} {vo:Value} {l:List Th} {W:View} {h h':Heap} (k:ThS V h0 vo l W h) (hle:(vw h).le (vw h')):ThS V h0 vo l (grow W h h') h':=
 ⟨k.own.ext hle,k.old.grow (cm k.le),Sc k.le hle,k.av⟩
theorem GR{po:OP}{ty:TypeId}{us:List (Nat × Value)}{h:Heap}{K:Value->Heap->Prop}{x y z w:Operand}{a:Int}{u q:Value}(hx:asg us x = Sf Sg a)(hy:asg us y = Sf Sg b)(hz:asg us z=u)(hw:asg us w=q)(hu:u.cells = #[u])(hq:q.cells = #[q])(hk:K (.agg #[Sf Sg a,Sf Sg b,u,q]) h):
  Lft.step Ss (.build T.eW #[(0,x),(1,y),(2,z),(3,w)]) ty us h K:=
 az (z:=zz10) (places:=zpe) (vs:=[(0,Sf Sg a),(1,Sf Sg b),(2,u),(3,q)]) (cs:=#[Sf Sg a,Sf Sg b,u,q]) R9 R9 (by simp[hx,hy,hz,hw])
  (by simp[Instr.fill,hu,hq]) hk
theorem Fg{po:OP}{ty:TypeId}{us:List (Nat × Value)}{h:Heap}{K:Value->Heap->Prop}{x y z:Operand}{a:Int}{u:Value}(hx:asg us x = Sf Sg a)(hy:asg us y = Sf Sg b)(hz:asg us z=u)(hu:u.cells = #[u])(hk:K (.agg #[Sf Sg a,Sf Sg b,u,Sn Sk 0 0]) h):
  Lft.step Ss (.build T.eW #[(0,x),(1,y),(2,z)]) ty us h K:=
 az (z:=zz10) (places:=zpe) (vs:=[(0,Sf Sg a),(1,Sf Sg b),(2,u)]) (cs:=#[Sf Sg a,Sf Sg b,u,Sn Sk 0 0]) R9 R9 (by simp[hx,hy,hz])
  (by simp[Instr.fill,hu]) hk
theorem Fc{po:OP}{ty:TypeId}{us:List (Nat × Value)}{h:Heap}{K:Value->Heap->Prop}{x y w:Operand}{a:Int}{q:Value}(hx:asg us x = Sf Sg a)(hy:asg us y = Sf Sg b)(hw:asg us w=q)(hq:q.cells = #[q])(hk:K (.agg #[Sf Sg a,Sf Sg b,Sn Sk 0 0,q]) h):
  Lft.step Ss (.build T.eW #[(0,x),(1,y),(3,w)]) ty us h K:=
 az (z:=zz10) (places:=zpe) (vs:=[(0,Sf Sg a),(1,Sf Sg b),(3,q)]) (cs:=#[Sf Sg a,Sf Sg b,Sn Sk 0 0,q]) R9 R9 (by simp[hx,hy,hw])
  (by simp[Instr.fill,hq]) hk
theorem zQ{f:an}{v:Value}{V:View}{h:Heap}(hv:Rd V v f)(hV:V.le (vw h))(hsm:SmF f):
  aw Ss 91 #[v] h (λu h'=>(vw h).le (vw h')/\SlRd (grow V h h') u (aB f)):=by
 refine aj (args:=[v]) follows Tryz.func91 E.bs S8 λK hK=>?_;have hn:=hsm.len;dsimp only[L.bs,lkF,lkG];refine ab λz hz=>?_;simp;refine dc (v:=v) rfl ?_;have hle1:=bP h (.cells v.cells T.ee);have hat1:At (grow V h (h.push (.cells v.cells T.ee))) ⟨h.size,0,Sk⟩ f:=rO (t:=T.ee) (fz:=(0,0)) (by rw[cU (OA _)];simp) (hv.mono (bZ hV));have hs1:(h.push (.cells v.cells T.ee)).size=h.size+1:=by simp
 generalize h.push (.cells v.cells T.ee)=h1 at hle1 hat1 hs1;have hW1:(grow V h h1).le (vw h1):=jM (Sc hV hle1);have old1:Old V h (grow V h h1):=(Old.refl V h).grow (OA _);obtain⟨_,vb,cb⟩:=iZ hat1;generalize grow V h h1=W1 at cb hW1 old1;generalize h.size=B at cb;subst hz;refine ab λz hz=>?_;simp;refine tA (α:=Th) El.gR λh2 hle2 hsz2 own2=>?_;have t2:ThS V h (Sn (Sj ⟨h1.size,0,Sk⟩) 0 0) [] W1 h2:=⟨((Owns.start hW1).add (k:=(0,0)) rfl (own2 _) hle2 (λb hb=>by simp only[Value.ownBlock,Ow]at hb;omega)).congr λq=>by
   unfold pU Own.upd;repeat' split
   all_goals first | rfl | simp_all,old1,Sc hle1 hle2,λb hb=>by cases hb;exact View.cA Sb (by show h.size<=h1.size;omega)⟩;generalize Sn (Sj ⟨h1.size,0,Sk⟩) 0 0=v0 at t2;subst hz;refine ab λz hz=>?_;simp
 refine cW [1,3,4] (fun(r:Value) b=>[ptz B,r,Sf Sg b]) (λr b h3=>∃W,W1.le W/\ThS V h r (thTo f b) W h3) f.blocks.length v0
  rfl S0 rfl ⟨W1,View.le_refl _,t2⟩ (λ_ _=>rfl) (λv k h3 hk ⟨W,q1,q2⟩=>by simp[ae (Sc q1 q2.own.wle) cb.1,(cb.2.mono (Sc q1 q2.own.wle)).len]) ?_ ?_
 ·rintro r b h3 hltb ⟨W3,hW3,t3⟩ K2 hK2;have hl3:=xe hsm (n:=b) S0;have cb3:=cb.2.mono (Sc hW3 t3.own.wle);have cc3:=ae (Sc hW3 t3.own.wle) cb.1;obtain⟨u,hu,hur⟩:=(cb.2.mono hW3).wh rfl (N:=6) rfl hltb;have sb:=hsm.blk b hltb;refine ab λy hy=>?_;simp(disch:=omega)[cc3,cb3.idxn (N:=6) rfl,hu _ t3.own.wle];refine dv (X:=W3) (z:=zz3) R9 rfl R9 hur S3 S3 λh4 hle4 hsz4 hat4=>?_;have t4:=t3.ext hle4;have hat4':=hat4 (grow W3 h3 h4) (bZ t3.own.wle) (cU (OA _));obtain⟨vp,vi,va,vt,bp,bi,bk,ba,bt⟩:=kN hat4';have hW4:=Sc hW3 (bZ (h':=h4) t3.own.wle);generalize grow W3 h3 h4=W4 at t4 bp bi bk ba bt hW4;generalize h3.size=D at bp bi bk ba bt;subst hy;refine ab λy hy=>?_;simp;have sp:=sb.phis;refine cW [1,3,4,5,6] (fun(r:Value) i=>[ptz B,r,Sf Sg b,ptz D,Sf Sg i]) (λr i h5=>∃W,W4.le W/\ThS V h r (thTo f b++rows (phiT f b) i) W h5) (nth f.blocks b).phis.length r
   rfl S0 rfl ⟨W4,View.le_refl _,by simpa using t4⟩ (λ_ _=>rfl) (λv k h3 hk ⟨W,q1,q2⟩=>by simp[ae (Sc q1 q2.own.wle) bp.1,(bp.2.mono (Sc q1 q2.own.wle)).len]) ?_ ?_
  ·rintro r i h5 hlti ⟨W5,hW5,t5⟩ K3 hK3;have bp5:=bp.2.mono hW5;have bph:=bp5.mono t5.own.wle;have cph:=ae (Sc hW5 t5.own.wle) bp.1;have hap:=(bp5.at hlti);rw[<-ay hlti]at hap;have hdst:ak W5 (((slA vp).add (i*2)).add 0)=Sj (Sf Sg (nth (nth f.blocks b).phis i).dst):=(hap.part PhiD.iy).int;have hdr:=(hap.part PhiD.iy).rng;obtain⟨vq,hvq⟩:=(hap.part PhiD.mB).sl;have hvq1:ak W5 (((slA vp).add (i*2)).add 1)=Sj vq:=hvq.1;have hvq2:=hvq.2;have hpl:=sb.phi i hlti;have hpt:phiT f b i=⟨b,-1-i,[(nth (nth f.blocks b).phis i).dst],(nth (nth f.blocks b).phis i).ins.map InD.val⟩:=rfl;generalize nth (nth f.blocks b).phis i=x at hdst hdr hvq2 hpl hpt;refine ab λq hq=>?_;simp(disch:=omega)[cph,bph.idxn (N:=2) rfl,ae t5.own.wle hdst];refine lH (X:=nothing) (ds:=[x.dst]) (vs:=[Sf Sg x.dst]) rfl El.aV Sa ⟨bO.2 ⟨rfl,hdr⟩,trivial⟩ bK rfl S0 λu6 h6 hle6 hsz6 hu6 hub6=>?_;have hu6n:=hu6 (vw h6) bK rfl;refine Fg rfl rfl rfl hu6n.cells.1 ?_;simp;refine gA (n:=4) (v:=.agg #[Sf Sg b,Sf Sg (-1-i),u6,Sn Sk 0 0]) (z:=zz10) R9 rfl R9 rfl (by intro c hc;simp at hc;rcases hc with rfl | rfl | rfl | rfl<;>first | rfl | exact hu6n.cells.2) S3 S3 λh7 hle7 hsz7 hb7=>?_;have w6:=t5.own.ext hle6;have w7:=(w6.add (k:=(1,0)) rfl (jS (h:=h7) (d:=ThR.mk b (-1-i) [x.dst] ⟨Sn Sk 0 0⟩) hb7 (Md S4 S4 (hu6 _ bK (cU (OA _))) rfl) S1) hle7 (λb hb=>by simp only[Value.ownBlock,Ow]at hb;omega)).add (k:=(1,1)) rfl (OwnT.nil (α:=Int) _ h7 T.int) Sb (λb hb=>by simp[Value.ownBlock]at hb);have w7:Owns (grow W5 h5 h6) h7 (vX r (thTo f b++rows (phiT f b) i) h6.size (ThR.mk b (-1-i) [x.dst] ⟨Sn Sk 0 0⟩) (Sn Sk 0 0) []):=w7.congr λq=>by
    unfold vX pU Own.upd;repeat' split
    all_goals first | rfl | simp_all
   have hW7:=Sc hW5 (bZ (h':=h6) t5.own.wle);have old7:=t5.old.grow (h1:=h5) (h2:=h6) (cm t5.le);have hle07:=Sc t5.le (Sc hle6 hle7);have hvq7:=hvq2.mono (bZ (h':=h6) t5.own.wle);have cvq7:=ae (bZ (h':=h6) t5.own.wle) hvq1;generalize grow W5 h5 h6=W7 at w7 hW7 old7 hvq7 cvq7;have hD7:h.size<=h6.size:=OY (cm t5.le) (cm hle6);generalize h6.size=D7 at w7 hD7;subst hq;refine ab λq hq=>?_;simp;refine cW [1,3,4,5,6,7,8] (fun(q:Value) j=>[ptz B,r,Sf Sg b,ptz D,Sf Sg i,ptz D7,Sf Sg j])
    (λq j h8=>Owns W7 h8 (vX r (thTo f b++rows (phiT f b) i) D7 (ThR.mk b (-1-i) [x.dst] ⟨q⟩) q ((x.ins.map InD.val).take j))/\(vw h).le (vw h8)/\Av (vw h) q) x.ins.length (Sn Sk 0 0)
    rfl S0 rfl ⟨w7,hle07,Av.nil _ _ _⟩ (λ_ _=>rfl) (λv k h8 hk ⟨w8,q2⟩=>by have bp8:=(bp.2.mono hW7).mono w8.wle;simp(disch:=omega)[ae (Sc hW7 w8.wle) bp.1,bp8.idxn (N:=2) rfl,ae w8.wle cvq7,(hvq7.mono w8.wle).len]) ?_ ?_
   ·rintro q8 j h8 hltj ⟨w8,hle08,av8⟩ K4 hK4;have bp8:=(bp.2.mono hW7).mono w8.wle;have hv8:=hvq7.mono w8.wle;have hai:=(hvq7.at hltj);rw[<-ay hltj]at hai;have hval:ak W7 (((slA vq).add (j*2)).add 1)=Sj (Sf Sg (nth x.ins j).val):=(hai.part InD.Ev).int;have hvr:=(hai.part InD.Ev).rng;have hl8:((x.ins.map InD.val).take j).length=j:=by simp;omega
    have htk:(x.ins.map InD.val).take (j+1)=(x.ins.map InD.val).take j++[(nth x.ins j).val]:=by rw[RQ,Qn,Pk hltj,ay hltj];rfl
    have hq8:ak (vw h8) ⟨D7,3,Sk⟩=Sj q8:=by have:=((w8.at (k:=(1,0)) (e:=T.eW) (B:=D7) (d:=ThR.mk b (-1-i) [x.dst] ⟨q8⟩) rfl).part ThR.Kr).raw;simpa using this
    refine aO (vw h8) Sb ?_;simp(disch:=omega)[hq8,ae (Sc hW7 w8.wle) bp.1,bp8.idxn (N:=2) rfl,ae w8.wle cvq7,hv8.idxn (N:=2) rfl,ae w8.wle hval];refine nj (α:=Int) (W:=W7) El.aV rfl (bO.2 ⟨rfl,hvr⟩) λu9 h9 hs9 hle9 hsz9=>⟨hle9,?_⟩;refine(w8.ext' hle9).dB (k:=(1,1)) (α:=Int) (v:=q8) (l:=(x.ins.map InD.val).take j) rfl El.aV rfl rfl hs9 S7 S7 λq10 h10 w10 m10=>?_;have hc10:=w10.cells (k:=(1,1)) (Own.ao);obtain⟨hX10,av10⟩:=m10.view (Sc hle08 hle9) av8;refine w10.qA (k:=(1,0)) (e:=T.eW) (B:=D7) (D:=ThR.mk b (-1-i) [x.dst] ⟨q8⟩) ThR.Kr (d:=⟨q10⟩) rfl R9 rfl rfl (nz.2 ⟨rfl,hc10.2⟩) λh11 w11 hX11=>?_;refine hK4 q10 _ _ rfl rfl ⟨w11.congr λp=>?_,hX11 _ hX10 (View.cA Sb hD7),av10⟩;rw[htk];unfold vX Own.upd;repeat' split
    all_goals first | rfl | simp_all
   rintro q8 h8 ⟨w8,hle08,av8⟩;rw[OK Sa]at w8;simp;subst hq;obtain⟨cs,hcs,hrd⟩:=w8.atW (k:=(1,0)) (e:=T.eW) (B:=D7) (d:=ThR.mk b (-1-i) [x.dst] ⟨q8⟩) rfl;obtain⟨u9,rfl,i1,i2,hu9⟩:=FM hrd;obtain⟨w9,hq9⟩:=w8.freeze (k:=(1,1)) (v:=q8) (l:=x.ins.map InD.val) rfl;have hpl9:W7.le (W7.plus q8 h8):=jk (w8.av (1,1) _ rfl);have hload:Un.ev (vw h8) (.bV 4) (ptz D7)=Sj (.agg #[Sf Sg b,Sf Sg (-1-i),u9,q8]):=by have:=gG hcs 4 0 #[] S2;simp[Un.ev,vP,this]
   have hold9:Old V h (W7.plus q8 h8):=λc o hc hco=>by
    unfold View.plus at hco;split at hco
    ·rename_i e;have:=av8 c e;simp only[vw]at this;rw[OX hc]at this;cases this
    exact old7 c o hc hco
   have w9:Owns (W7.plus q8 h8) h8 (pU r (thTo f b++rows (phiT f b) i)):=w9.sub λp x hp=>by
    unfold pU at hp;split at hp
    ·rename_i e;subst e;exact hp
    cases hp
   have hlr:(thTo f b++rows (phiT f b) i).length=(thTo f b).length+i:=by simp
   simp[hload];refine w9.xo (k:=(0,0)) (α:=Th) (v:=r) (l:=thTo f b++rows (phiT f b) i) (d:=phiT f b i) rfl El.gR rfl (by rw[hpt];exact HY i1 i2 (hu9.mono hpl9) hq9) S0 S0 (λ_=>rfl) (λ_=>rfl) λu10 r10 h10 w10 hX10=>?_;obtain⟨g1,g2⟩:=hX10 _ hle08 t5.av;refine hK3 r10 _ _ rfl rfl ⟨W7.plus q8 h8,Sc hW7 hpl9,⟨w10.congr λp=>?_,hold9,g1,g2⟩⟩;rw[eY,<-List.append_assoc];unfold pU Own.upd;repeat' split
   all_goals first | rfl | simp_all
  rintro r h5 ⟨W5,hW5,t5⟩;simp;subst hy;refine ab λy hy=>?_;simp;have si:=sb.ins;refine cW [1,3,4,5,9] (fun(r:Value) i=>[ptz B,r,Sf Sg b,ptz D,Sf Sg i]) (λr i h6=>∃W,W4.le W/\ThS V h r (thTo f b++rows (phiT f b) (nth f.blocks b).phis.length++rows (insT f b) i) W h6) (nth f.blocks b).ins.length r
   rfl S0 rfl ⟨W5,hW5,by simpa using t5⟩ (λ_ _=>rfl) (λv k h3 hk ⟨W,q1,q2⟩=>by simp[ae (Sc q1 q2.own.wle) bi.1,(bi.2.mono (Sc q1 q2.own.wle)).len]) ?_ ?_
  ·rintro r i h6 hlti ⟨W6,hW6,t6⟩ K3 hK3;have bi6:=bi.2.mono hW6;have bih:=bi6.mono t6.own.wle;have cih:=ae (Sc hW6 t6.own.wle) bi.1;obtain⟨ux,hux,huxr⟩:=bi6.wh rfl (N:=5) rfl hlti;have hap:=(bi6.at hlti);rw[<-ay hlti]at hap;obtain⟨vq,hvq⟩:=(hap.part InsD.eS).sl;have hvq1:ak W6 (((slA vi).add (i*5)).add 3)=Sj vq:=hvq.1;have hvq2:=hvq.2;have hpt:insT f b i=⟨b,i,bg (nth (nth f.blocks b).ins i),(nth (nth f.blocks b).ins i).args⟩:=rfl;generalize nth (nth f.blocks b).ins i=x at hvq2 huxr hpt;have hlr:(thTo f b++rows (phiT f b) (nth f.blocks b).phis.length++rows (insT f b) i).length=(thTo f b).length+(nth f.blocks b).phis.length+i:=by simp;omega
   refine aO (vw h6) Sb ?_;simp(disch:=omega)[cih,bih.idxn (N:=5) rfl,hux _ t6.own.wle,ae t6.own.wle hvq1];refine af R9 (pO (huxr.mono t6.own.wle)) ?_;rintro u7 h7 ⟨hle7,hu7,_⟩;refine⟨hle7,?_⟩;have t7:=t6.ext hle7;have hu7':=hu7.mono (ju W6 h6 h7);have hvq7:=hvq2.mono (bZ (h':=h7) t6.own.wle);refine GR rfl rfl rfl rfl hu7.cells.1 hvq2.cells.1 ?_;simp;refine t7.own.xo (k:=(0,0)) (α:=Th) (v:=r) (l:=thTo f b++rows (phiT f b) (nth f.blocks b).phis.length++rows (insT f b) i) (d:=insT f b i) rfl El.gR rfl (by rw[hpt];exact HY S4 S4 hu7' hvq7) S0 S0 (λ_=>rfl) (λ_=>rfl) λu10 r10 h10 w10 hX10=>?_;obtain⟨g1,g2⟩:=hX10 _ t7.le t7.av;refine hK3 r10 _ _ rfl rfl ⟨_,Sc hW6 (bZ (h':=h7) t6.own.wle),⟨w10.congr λp=>?_,t7.old,g1,g2⟩⟩;rw[eY,<-List.append_assoc];unfold pU Own.upd;repeat' split
   all_goals first | rfl | simp_all
  rintro r h6 ⟨W6,hW6,t6⟩;simp;subst hy;have hW6h:=Sc hW6 t6.own.wle;have bih:=bi.2.mono hW6h;have cih:=ae hW6h bi.1;have hlr:(thTo f b++rows (phiT f b) (nth f.blocks b).phis.length++rows (insT f b) (nth f.blocks b).ins.length).length=(thTo f b).length+(nth f.blocks b).phis.length+(nth f.blocks b).ins.length:=by simp;omega
  simp[cih,bih.len,ae hW6h ba.1];refine Fc rfl rfl rfl (ba.2.cells.1) ?_;simp;refine t6.own.xo (k:=(0,0)) (α:=Th) (v:=r) (l:=thTo f b++rows (phiT f b) (nth f.blocks b).phis.length++rows (insT f b) (nth f.blocks b).ins.length) (d:=endT f b) rfl El.gR rfl (HY S4 S4 aQ (ba.2.mono hW6)) S0 S0 (λ_=>rfl) (λ_=>rfl) λu10 r10 h10 w10 hX10=>?_;obtain⟨g1,g2⟩:=hX10 _ t6.le t6.av;refine hK2 r10 _ _ rfl rfl ⟨_,Sc hW4 hW6,⟨w10.congr λp=>?_,t6.old,g1,g2⟩⟩;have e:thTo f (b+1)=thTo f b++rows (phiT f b) (nth f.blocks b).phis.length++rows (insT f b) (nth f.blocks b).ins.length++[endT f b]:=by rw[fl,thB];simp[ON]
  rw[e];unfold pU Own.upd;repeat' split
  all_goals first | rfl | simp_all
 rintro r h3 ⟨W3,hW3,t3⟩;simp;subst hz;simp;exact hK _ _ ⟨t3.le,(t3.own.get (k:=(0,0)) (v:=r) (l:=thTo f f.blocks.length) rfl).rd (t3.old.le t3.own.wle) λb hb=>by
  have:=t3.av b hb;rw[cU];rcases OD b h.size with hlt | hge
  ·simp[vw,hlt]at this
  exact hge⟩
structure GotD where
 e:Int
 b:Int
 p:Int
instance:Rep GotD:=Rep.via λd=>Cat.mk d.e (Cat.mk d.b d.p)
abbrev BL:=List Bool
def qB (t:Th) (j:Nat) (m:BL):Except Tr BL:=if nth m (nth t.mks j).toNat then .error (12,t.blk,t.place) else .ok (m.set (nth t.mks j).toNat Sq)
def ig (f:an) (t:Th):BlkD:=nth f.blocks t.blk.toNat
def A4 (f:an) (t:Th):InsD:=nth (ig f t).ins t.place.toNat
def ta (f:an) (t:Th):Bool:=decide (0<=t.place)&&decide (t.place<(ig f t).ins.length)
def lu (f:an) (t:Th):Bool:=decide (t.place=(ig f t).ins.length)
def mI (s:InsD):Bool:=decide (s.op<1)||decide (18<s.op)||!qN s.op s.args.length
def nw (f:an) (n:Int):Bool:=decide (n<f.params)||decide (8191<n)
def xB (f:an) (n:Int):Bool:=decide (n<1)||decide ((f.blocks.length:Int)<=n)
def mV (f:an) (t:Th):Except Tr BL->Except Tr BL
 | .error e=>.error e
 | .ok m'=>if lu f t&&(ig f t).term.to.any (xB f) then .error (14,t.blk,t.place) else .ok m'
def fW (f:an) (t:Th) (m:BL):Except Tr BL:=
 if ta f t&&mI (A4 f t) then .error (10,t.blk,t.place)
 else if lu f t&&!kV (ig f t).term then .error (10,t.blk,t.place)
 else if t.mks.any (nw f) then .error (11,t.blk,t.place)
 else mV f t (upE (qB t) t.mks.length m)
def kv (f:an):Except Tr BL:=upE (λi m=>fW f (nth (aB f) i) m) (aB f).length (List.replicate 8192 Sr)
def wK {α:Type}:Except Tr α->Tr | .ok _=>(0,0,0) | .error t=>t
def noTh:Th:=⟨-1,0,[],[]⟩
def fL (t:Th) (l:List Th) (n:Int):List Th:=if 0<=n/\n<8192 then l.set n.toNat t else l
def sk (l:List Th) (t:Th):List Th:=t.mks.foldl (fL t) l
def zN (ts:List Th):List Th:=ts.foldl sk (List.replicate 8192 noTh)
variable{n:Int}
theorem oL{t:Th}{l:List Th}:(fL t l n).length=l.length:=by unfold fL;split<;>simp
theorem C5{t:Th}{l:List Th}:(sk l t).length=l.length:=pZ (f:=fL t) (λx:List Th=>x.length=l.length) (λ_ _ h=>oL.trans h) _ _ rfl
theorem CZ{ts:List Th}:(zN ts).length=8192:=pZ (f:=sk) (λx:List Th=>x.length=8192) (λ_ _ h=>C5.trans h) _ _ (Pn ..)
def gC (f:an) (made:List Th) (away:List BL) (v blk place:Int):Bool:=
 if 0<=v/\v<f.params then Sq
 else if(v<0\/8191<v)\/(nth made v.toNat).blk<0 then Sr
 else if(nth made v.toNat).blk=blk then decide ((nth made v.toNat).place<0)||decide ((nth made v.toNat).place<place)
 else !nth (nth away (nth made v.toNat).blk.toNat) blk.toNat
def rq (f:an) (t:Th):PhiD:=nth (ig f t).phis (-1-t.place).toNat
def xS (f:an) (b:Int):Int:=((nth f.blocks b.toNat).ins.length:Nat)
def rj (f:an) (t:Th):Bool:=decide (0<t.blk)&&decide ((rq f t).ins.map InD.frm=aH f t.blk)
def stT (f:an) (made:List Th) (away:List BL) (t:Th) (x:Int):Bool:=!gC f made away x t.blk t.place
def stP (f:an) (made:List Th) (away:List BL) (p:InD):Bool:=!gC f made away p.val p.frm (xS f p.frm)
def gH (f:an) (made:List Th) (away:List BL) (t:Th):Except Tr Unit:=
 if 0<=t.place then(if t.tks.any (stT f made away t) then .error (13,t.blk,t.place) else .ok ())
 else if !rj f t then .error (16,t.blk,t.place)
 else if(rq f t).ins.any (stP f made away) then .error (13,t.blk,t.place)
 else .ok ()
def ib (f:an):List Th:=zN (aB f)
def gq (f:an):List BL:=rows (λb=>dZ f b) f.blocks.length
def sw (f:an):Nat->Nat
 | 0=>f.blocks.length
 | n+1=>sw f n+(nth f.blocks n).phis.length+(nth f.blocks n).ins.length
def wayE (f:an):Except Tr Unit:=upE (λb _=>if nth (dZ f (-1)) b=Sq then .ok () else .error (15,b,0)) f.blocks.length ()
def yt (f:an):Except Tr Unit:=upE (λi _=>gH f (ib f) (gq f) (nth (aB f) i)) (aB f).length ()
def MP:Except Tr Unit->Except Tr Unit->Except Tr Unit
 | .ok _,y=>y
 | .error e,_=>.error e
def tt (f:an):Tr:=
 if f.params<0\/4<f.params then(1,0,0)
 else if f.blocks.length=0 then(14,0,0)
 else if 512<f.blocks.length\/4096<sw f f.blocks.length then(2,0,0)
 else if(wK (kv f)).1≠0 then wK (kv f)
 else wK (MP (wayE f) (yt f))
theorem qx {σ ε:Type} {f:Nat->σ->Except ε σ} {s:σ} {t:ε} : ∀{n:Nat},upE f n s = .error t->∃k s',k<n/\upE f k s = .ok s'/\f k s' = .error t
 | n+1,h=>by
  simp only[upE]at h;split at h
  ·rename_i s' hs;exact⟨n,s',Nat.lt_succ_self n,hs,h⟩
  rename_i t' ht;cases h;obtain⟨k,s',h1,h2⟩:=qx ht;exact⟨k,s',Nat.lt_succ_of_lt h1,h2⟩
theorem uT{f:an}{t:Th}{m:BL}{e:Tr}(h:fW f t m = .error e):(10<=e.1/\e.1<=14)/\e.2.1=t.blk/\e.2.2=t.place:=by
 unfold fW at h;split at h
 ·cases h;simp
 split at h
 ·cases h;simp
 split at h
 ·cases h;simp
 unfold mV at h;split at h
 ·rename_i e' he;cases h;obtain⟨k,s',_,_,h3⟩:=qx he;unfold qB at h3;split at h3
  ·cases h3;simp
  cases h3
 split at h
 ·cases h;simp
 cases h
theorem E3(hn:0<=n){ts:List Th}(h : ∀t∈ts,t.blk<n){i:Nat}(hi:i<8192):(nth (zN ts) i).blk<n:=by
 have key : ∀(ts:List Th),(∀t∈ts,t.blk<n)->∀l:List Th,(∀x∈l,x.blk<n)->∀x∈ts.foldl sk l,x.blk<n:=by
  intro ts;induction ts with
  | nil=>exact λ_ l hl=>hl
  | cons t ts ih=>
   intro ht l hl;refine ih (λx hx=>ht x (OL _ hx)) _ ?_;refine pZ (f:=fL t) (λl:List Th=>∀x∈l,x.blk<n) (λl a hl x hx=>?_) _ _ hl;unfold fL at hx;split at hx
   ·rcases QV hx with h | rfl
    ·exact hl x h
    exact ht _ OM
   exact hl x hx
 refine key ts h _ (λx hx=>?_) _ (aS (by show i<(zN ts).length;rw[CZ];exact hi));rw[(List.mem_replicate.1 hx).2];show(-1:Int)<n;omega
theorem jn{σ ε:Type}{f:σ->α->Except ε σ}{a b:List α}{s:σ}:(a++b).foldlM f s=(match a.foldlM f s with | .ok s'=>b.foldlM f s' | .error e=>.error e):=by rw[RG];cases a.foldlM f s<;>rfl
theorem rD{σ ε:Type}{f:σ->α->Except ε σ}{a:α}{s:σ}:[a].foldlM f s=f s a:=by rw[PH];cases f s a<;>rfl
theorem nU {σ α ε:Type} {g:Nat->σ->Except ε σ} {f:σ->α->Except ε σ} {x:Nat->α} {s:σ} : ∀{n:Nat},(∀i s,i<n->g i s=f s (x i))->upE g n s=(rows x n).foldlM f s
 | 0,_=>rfl
 | n+1,h=>by
  have ih:=nU (n:=n) (s:=s) λi s hi=>h i s S0;rw[eY,jn,<-ih];simp only[upE];cases upE g n s with
  | ok s'=>show g n s'=[x n].foldlM f s';rw[rD];exact h n s' S0
  | error e=>rfl
theorem pq{σ ε:Type}[Inhabited α]{f:σ->α->Except ε σ}{l:List α}{s:σ}:upE (λi s=>f s (nth l i)) l.length s=l.foldlM f s:=by rw[nU (f:=f) (x:=nth l) λ_ _ _=>rfl];congr 1;refine PR Sa λi h1 h2=>?_;simp[rows,ay h2]
def kY (f:an) (m:MW) (t:Th):Except Tr MW:=
 if t.place<0 then allS f.params t.mks t.blk t.place m
 else if t.place<(ig f t).ins.length then insS f.params t.blk (ig f t) t.place.toNat m
 else endS f.blocks.length t.blk (ig f t) m
theorem uH{f:an}{b i:Nat}{m:MW}:kY f m (phiT f b i)=phiS f.params b (nth f.blocks b) i m:=by unfold kY;rw[if_pos (show(phiT f b i).place<0 by show -1-(i:Int)<0;omega)];rfl
theorem tW{f:an}{b i:Nat}{m:MW}(hi:i<(nth f.blocks b).ins.length):kY f m (insT f b i)=insS f.params b (nth f.blocks b) i m:=by unfold kY;rw[if_neg (show ¬(insT f b i).place<0 by show ¬(i:Int)<0;omega),if_pos (show(insT f b i).place<((ig f (insT f b i)).ins.length:Int) by show(i:Int)<((nth f.blocks b).ins.length:Int);omega)];rfl
theorem ue{f:an}{b:Nat}{m:MW}:kY f m (endT f b)=endS f.blocks.length b (nth f.blocks b) m:=by unfold kY;rw[if_neg (show ¬(endT f b).place<0 by show ¬((nth f.blocks b).ins.length:Int)<0;omega),if_neg (show ¬(endT f b).place<((ig f (endT f b)).ins.length:Int) by show ¬((nth f.blocks b).ins.length:Int)<((nth f.blocks b).ins.length:Int);omega)];rfl
theorem H0{f:an}{b:Nat}{m:MW}:blkS f b m=(thB f b).foldlM (kY f) m:=by
 unfold blkS thB;rw[nU (f:=kY f) (x:=phiT f b) (n:=(nth f.blocks b).phis.length) λi s hi=>uH.symm];rw[jn,jn];cases (rows (phiT f b) (nth f.blocks b).phis.length).foldlM (kY f) m with
 | error e=>rfl
 | ok m1=>
  simp only;rw[nU (f:=kY f) (x:=insT f b) (n:=(nth f.blocks b).ins.length) λi s hi=>(tW hi).symm];cases (rows (insT f b) (nth f.blocks b).ins.length).foldlM (kY f) m1 with
  | error e=>rfl
  | ok m2=>simp only;rw[rD];exact ue.symm
theorem xp{f:an}{m:MW}:lZ f m=(aB f).foldlM (kY f) m:=by
 have key : ∀n,upE (blkS f) n m=(thTo f n).foldlM (kY f) m:=by
  intro n;induction n with
  | zero=>rfl
  | succ n ih=>
   rw[fl,jn,<-ih];simp only[upE];cases upE (blkS f) n m with
   | error e=>rfl
   | ok s=>exact H0
 exact key _
theorem nk{f:an}:kv f=(aB f).foldlM (λm t=>fW f t m) (List.replicate 8192 Sr):=pq (f:=fun(m:BL) (t:Th)=>fW f t m)
def uO (m:MW) (l:BL):Prop:=l.length=8192/\∀n:Int,0<=n->n<8192->(m n).isSome=nth l n.toNat
def Alike {α β:Type} (R:α->β->Prop):Except Tr α->Except Tr β->Prop
 | .ok a,.ok b=>R a b
 | .error e,.error e'=>e=e'
 | _,_=>False
theorem rK {α β γ:Type} {R:α->β->Prop} {F:α->γ->Except Tr α} {G:β->γ->Except Tr β} : ∀{l:List γ},(∀t∈l,∀a b,R a b->Alike R (F a t) (G b t))->∀{a:α} {b:β},R a b->Alike R (l.foldlM F a) (l.foldlM G b)
 | [],_,a,b,h=>h
 | t::l,hs,a,b,h=>by
  rw[PH,PH];have:=hs t OM a b h;cases e1:F a t with
  | error e=>
   cases e2:G b t with
   | error e'=>rw[e1,e2]at this;exact this
   | ok b'=>rw[e1,e2]at this;exact this.elim
  | ok a'=>
   cases e2:G b t with
   | error e'=>rw[e1,e2]at this;exact this.elim
   | ok b'=>rw[e1,e2]at this;exact rK (λt ht=>hs t (OL _ ht)) this
theorem Fk{f:an}:cn n f.params 8191=!nw f n:=by rw[O7];simp[cn,nw]
theorem EH{p:α->Bool}{l:List α}:l.all (λn=>!p n)=!l.any p:=by
 induction l with
 | nil=>rfl
 | cons a l ih=>simp[ih]
def jX (t:Th) (m:BL) (n:Int):Except Tr BL:=if nth m n.toNat then .error (12,t.blk,t.place) else .ok (m.set n.toNat Sq)
theorem F4{f:an}{t:Th}{m:MW}{l:BL}(h:uO m l)(hp:0<=f.params)(hn : ∀n∈t.mks,nw f n=Sr):Alike uO (t.mks.foldlM (rp t.blk t.place) m) (upE (qB t) t.mks.length l):=by
 have e:upE (qB t) t.mks.length l=t.mks.foldlM (jX t) l:=pq (f:=jX t);rw[e];refine rK (λn hnm m l h=>?_) h;have hb:=hn n hnm;simp only[nw,PQ,decide_eq_false_iff_not]at hb;have hs:=h.2 n S0 S0;unfold rp jX;rw[hs];cases hc:nth l n.toNat with
 | true=>exact rfl
 | false=>
  refine⟨by simpa using h.1,λk h0 h1=>?_⟩;rw[aX (by rw[h.1];omega)];simp only[putM];by_cases hk:k=n
  ·subst hk;simp
  rw[if_neg hk,if_neg S0];exact h.2 k h0 h1
theorem zl{f:an}{t:Th}{m:MW}{l:BL}(h:uO m l)(hp:0<=f.params):
  Alike uO (allS f.params t.mks t.blk t.place m) (if t.mks.any (nw f) then .error (11,t.blk,t.place) else upE (qB t) t.mks.length l):=by
 unfold allS;have e:(t.mks.all λn=>cn n f.params 8191)=!t.mks.any (nw f):=by rw[<-EH];congr 1;funext n;exact Fk
 rw[e];cases hb:t.mks.any (nw f)with
 | true=>exact rfl
 | false=>refine F4 h hp λn hn=>?_;rw[QM];intro e2;rw[QM]at hb;exact hb (Rr.2 ⟨n,hn,e2⟩)
theorem IJ{x:InsD}:(cn x.op 1 18&&cn x.args.length (gj x.op).1 (gj x.op).2)=!mI x:=by
 rw[O7];simp only[mI,cn,gj,qN,OG,P1,PQ,decide_eq_true_eq,decide_eq_false_iff_not,Bool.not_eq_false'];by_cases h1:x.op=1
 ·simp[h1]
 by_cases h2:x.op=15
 ·simp[h2];omega
 by_cases h3:x.op=17
 ·simp[h3]
 simp only[h1,h2,h3,if_false,decide_eq_true_eq];omega
theorem Js{f:an}:cn n 1 ((f.blocks.length:Int)-1)=!xB f n:=by rw[O7];simp[cn,xB];omega
theorem Fq{t:cM}:pJ t=kV t:=by
 unfold pJ kV fV;by_cases h1:t.kind=1
 ·rw[O7];simp[putM,h1,cn];omega
 by_cases h2:t.kind=2
 ·rw[O7];simp[putM,h2,cn];omega
 by_cases h3:t.kind=3
 ·rw[O7];simp[putM,h3,cn];omega
 by_cases h4:t.kind=4
 ·rw[O7];simp[putM,h4,cn]
 by_cases h5:t.kind=5
 ·rw[O7];simp[putM,h5,cn]
 simp[putM,h1,h2,h3,h4,h5]
theorem uV{f:an}{t:Th}{x:Except Tr BL}(h:lu f t=Sr):mV f t x=x:=by
 unfold mV;cases x with
 | error e=>rfl
 | ok m=>simp only[h,R6];rfl
theorem FX{f:an}{t:Th}(ht:t∈aB f)(hp:0<=f.params){m:MW}{l:BL}(h:uO m l):Alike uO (kY f m t) (fW f t l):=by
 obtain⟨b,hb,ht⟩:=dS.1 ht;rcases fg.1 ht with⟨i,hi,rfl⟩ | ⟨i,hi,rfl⟩ | rfl
 ·have e1:ta f (phiT f b i)=false:=by simp[ta,phiT];omega
  have e2:lu f (phiT f b i)=false:=by show decide (-1-(i:Int)=((nth f.blocks b).ins.length:Int))=Sr;rw[decide_eq_false_iff_not];omega
  rw[uH,fW,e1,e2,uV e2];exact zl (t:=phiT f b i) h hp
 ·have e1:ta f (insT f b i)=true:=by simp[ta,insT,ig];omega
  have e2:lu f (insT f b i)=false:=by show decide ((i:Int)=((nth f.blocks b).ins.length:Int))=Sr;rw[decide_eq_false_iff_not];omega
  have e3:A4 f (insT f b i)=nth (nth f.blocks b).ins i:=by simp[A4,ig,insT]
  rw[tW hi,fW,e1,e2,uV e2,e3,insS,IJ];cases hb:mI (nth (nth f.blocks b).ins i)with
  | true=>exact rfl
  | false=>exact zl (t:=insT f b i) h hp
 have e1:ta f (endT f b)=false:=by simp[ta,endT,ig]
 have e2:lu f (endT f b)=true:=by simp[lu,endT,ig]
 have e3:ig f (endT f b)=nth f.blocks b:=by simp[ig,endT]
 rw[ue,fW,e1,e2,e3,endS,Fq];cases hb:kV (nth f.blocks b).term with
 | false=>exact rfl
 | true=>
  have e4:((nth f.blocks b).term.to.all λt=>cn t 1 ((f.blocks.length:Int)-1))=!(nth f.blocks b).term.to.any (xB f):=by rw[<-EH];congr 1;funext n;exact Js
  rw[e4];show Alike uO _ (mV f (endT f b) (.ok l));unfold mV;rw[e2,e3];cases (nth f.blocks b).term.to.any (xB f)with
  | true=>exact rfl
  | false=>exact h
theorem C9{f:an}(hp:0<=f.params):Alike uO (lZ f (λ_=>Sk)) (kv f):=by rw[xp,nk];refine rK (λt ht m l h=>FX ht hp h) ⟨Pn ..,λn h0 h1=>?_⟩;rw[ay (by rw[Pn];omega),RY];rfl
def CV (t:Th):Option (Int × Int):=if t.blk<0 then Sk else Sj (t.blk,t.place)
structure Site (m:MW) (s:List Th):Prop where
 len:s.length=8192
 inn : ∀n:Int,0<=n->n<8192->m n=CV (nth s n.toNat)
 out : ∀n:Int,¬(0<=n/\n<8192)->m n=Sk
theorem BA {t:Th} (hb:0<=t.blk) : ∀{l:List Int} {m:MW} {s:List Th},Site m s->(∀n∈l,0<=n/\n<8192)->Site (l.foldl (λm n=>putM m n (t.blk,t.place)) m) (l.foldl (fL t) s)
 | [],m,s,h,_=>h
 | n::l,m,s,h,hl=>by
  rw[O3,O3];have hn:=hl n OM;refine BA hb ⟨oL.trans h.len,λk h0 h1=>?_,λk hk=>?_⟩ λk hk=>hl k (OL _ hk)
  ·unfold fL putM;rw[if_pos hn,aX (by rw[h.len];omega)];by_cases e:k=n
   ·subst e;rw[if_pos rfl,if_pos rfl];unfold CV;rw[if_neg S0]
   rw[if_neg e,if_neg S0];exact h.inn k h0 h1
  unfold putM;rw[if_neg (by rintro rfl;exact hk hn)];exact h.out k hk
theorem CB {b p:Int} : ∀{l:List Int} {m m':MW},l.foldlM (rp b p) m = .ok m'->m'=l.foldl (λm n=>putM m n (b,p)) m
 | [],m,m',h=>by cases h;rfl
 | n::l,m,m',h=>by
  rw[PH]at h;cases e:rp b p m n with
  | error t=>rw[e]at h;cases h
  | ok m1=>
   rw[e]at h;unfold rp at e;split at e
   ·cases e
   cases e;exact CB (l:=l) (m:=putM m n (b,p)) h
theorem Cu{ps p:Int}{l:List Int}{m m':MW}(h:allS ps l b p m = .ok m'):m'=l.foldl (λm n=>putM m n (b,p)) m/\∀n∈l,ps<=n/\n<=8191:=by
 unfold allS at h;split at h
 ·rename_i ha;refine⟨CB h,λn hn=>?_⟩;have:=Po.1 ha n hn;simpa[cn]using this
 cases h
theorem G4{f:an}{t:Th}(ht:t∈aB f){m m':MW}(h:kY f m t = .ok m'):(m'=t.mks.foldl (λm n=>putM m n (t.blk,t.place)) m/\∀n∈t.mks,f.params<=n/\n<=8191)/\0<=t.blk:=by
 obtain⟨b,hb,ht⟩:=dS.1 ht;rcases fg.1 ht with⟨i,hi,rfl⟩ | ⟨i,hi,rfl⟩ | rfl
 ·rw[uH]at h;exact⟨Cu h,by show 0<=(b:Int);omega⟩
 ·rw[tW hi]at h;unfold insS at h;split at h
  ·exact⟨Cu h,by show 0<=(b:Int);omega⟩
  cases h
 rw[ue]at h;unfold endS at h;split at h
 ·split at h
  ·cases h;exact⟨⟨rfl,λn hn=>by cases hn⟩,by show 0<=(b:Int);omega⟩
  cases h
 cases h
theorem yJ {f:an} (hp:0<=f.params) : ∀{l:List Th},(∀t∈l,t∈aB f)->∀{m m':MW} {s:List Th},Site m s->l.foldlM (kY f) m = .ok m'->Site m' (l.foldl sk s)
 | [],_,m,m',s,h,e=>by cases e;exact h
 | t::l,hl,m,m',s,h,e=>by
  rw[PH]at e;cases e1:kY f m t with
  | error x=>rw[e1]at e;cases e
  | ok m1=>rw[e1]at e;obtain⟨⟨q1,q2⟩,q3⟩:=G4 (hl t OM) e1;rw[O3];refine yJ hp (λt ht=>hl t (OL _ ht)) (m:=m1) ?_ e;rw[q1];exact BA q3 h λn hn=>by have:=q2 n hn;omega
theorem Fp{f:an}(hp:0<=f.params){m:MW}(h:lZ f (λ_=>Sk) = .ok m):Site m (ib f):=by rw[xp]at h;refine yJ hp (λt ht=>ht) ⟨Pn ..,λn h0 h1=>?_,λn _=>rfl⟩ h;rw[ay (by rw[Pn];omega),RY];rfl
theorem xJ{f:an}{m:MW}{made:List Th}{away:List BL}{idom:List Int}{v blk place at_ told:Int}(hp:f.params<=8192)(hs:Site m made)(hd : ∀a:Int,0<=a->a<f.blocks.length->dV idom a blk=!nth (nth away a.toNat) blk.toNat)(hm : ∀i,i<8192->(nth made i).blk<f.blocks.length):useS f.params m idom v blk place at_ told=if(!gC f made away v blk at_) then .error (13,told,place) else .ok ():=by
 unfold useS;by_cases c1:0<=v/\v<f.params
 ·have e:gC f made away v blk at_=true:=by unfold gC;rw[if_pos c1]
  rw[if_pos c1,e];rfl
 rw[if_neg c1];by_cases c2:v<0\/8191<v
 ·have e:gC f made away v blk at_=false:=by unfold gC;rw[if_neg c1,if_pos (.inl c2)]
  rw[hs.out v S0,e];rfl
 have e:gC f made away v blk at_=if(nth made v.toNat).blk<0 then Sr else if(nth made v.toNat).blk=blk then decide ((nth made v.toNat).place<0)||decide ((nth made v.toNat).place<at_) else !nth (nth away (nth made v.toNat).blk.toNat) blk.toNat:=by
  unfold gC;rw[if_neg c1];by_cases c3:(nth made v.toNat).blk<0
  ·rw[if_pos (.inr c3),if_pos c3]
  rw[if_neg (by rintro(q | q)<;>contradiction),if_neg c3]
 rw[hs.inn v S0 S0,e];have hmb:=hm v.toNat S0;generalize nth made v.toNat=t at hmb;unfold CV;by_cases c3:t.blk<0
 ·rw[if_pos c3,if_pos c3];rfl
 rw[if_neg c3,if_neg c3];have e2:lI (t.blk,t.place) idom blk at_=if t.blk=blk then decide (t.place<0)||decide (t.place<at_) else !nth (nth away t.blk.toNat) blk.toNat:=by
  unfold lI;by_cases c4:t.blk=blk
  ·simp only[c4,decide_true,QK,Bool.not_true,R6,Bool.or_false,if_true];rw[Bool.or_comm]
  simp only[c4,decide_false,R6,Bool.not_false,QK,R7,if_false];exact hd t.blk S0 hmb
 simp only[e2];generalize (if t.blk=blk then decide (t.place<0)||decide (t.place<at_) else !nth (nth away t.blk.toNat) blk.toNat)=B;cases B<;>rfl
theorem xP[Inhabited α]{l:List α}{p:α->Bool}{e:Tr}{g:Nat->Except Tr Unit}(h : ∀j,j<l.length->g j=if p (nth l j) then .error e else .ok ()):uAll g l.length=if l.any p then .error e else .ok ():=by
 have h1:uAll g l.length=l.foldlM (fun(_:Unit) x=>if p x then Except.error e else .ok ()) ():=by
  unfold uAll;rw[<-pq (f:=fun(_:Unit) x=>if p x then Except.error e else .ok ())];have key : ∀n,n<=l.length->upE (λi (_:Unit)=>g i) n ()=upE (λi (_:Unit)=>if p (nth l i) then Except.error e else .ok ()) n ():=by
   intro n;induction n with
   | zero=>exact λ_=>rfl
   | succ n ih=>intro hn;simp only[upE];rw[ih S0,h n S0]
  exact key _ (OA _)
 rw[h1];clear h1 h;induction l with
 | nil=>rfl
 | cons a l ih=>
  rw[PH,List.any_cons];cases hp:p a with
  | true=>rfl
  | false=>rw[R7];exact ih
theorem C0{β:Type}{p q:Nat->Bool}{x:Nat->β}{n:Nat}(h : ∀a,a<n->p a=q a):sift p x n=sift q x n:=by rw[qu,qu];congr 1;exact RS λa ha=>h a (PT.1 ha)
theorem CU{f:an}{b:Nat}(hb:b<f.blocks.length):nth (dh (ofG f.blocks)) b=aH f b:=by rw[AM,tD,lM,fE hb,aH];refine C0 λa ha=>?_;rw[O7,nO,decide_eq_true_eq,OR];exact⟨λh=>h.2,λh=>⟨by omega,h⟩⟩
theorem Fe{f:an}{b i:Nat}(hb:b<f.blocks.length):BP (nth (nth f.blocks b).phis i) (nth (dh (ofG f.blocks)) b) b=rj f (phiT f b i):=by
 have e1:rq f (phiT f b i)=nth (nth f.blocks b).phis i:=by unfold rq ig phiT;simp only[OR];rw[show(-1-(-1-(i:Int))).toNat=i by omega]
 have e2:(phiT f b i).blk=(b:Int):=rfl;unfold BP kZ rj;rw[e1,e2,CU hb];generalize nth (nth f.blocks b).phis i=x;generalize aH f b=row;rw[O7];simp only[OG,decide_eq_true_eq,EC,zc];constructor
 ·rintro⟨⟨h1,h2⟩,h3⟩;refine⟨by omega,PR S7 λj hj hj2=>?_⟩;have:=h3 j (by simpa using hj);rw[ay hj2,ay (by simpa using hj)]at this;simpa using this
 rintro⟨h1,h2⟩;have hl:x.ins.length=row.length:=by rw[<-h2,P4]
 refine⟨S4,λj hj=>?_⟩;rw[<-h2,ay (l:=List.map InD.frm x.ins) (by rw[P4];exact hj),ay hj];simp
theorem yd{f:an}: ∀i,i<8192->(nth (ib f) i).blk<f.blocks.length:=λi hi=>E3 S0 (λt ht=>by
 obtain⟨b,hb,ht⟩:=dS.1 ht;rcases fg.1 ht with⟨i,hi,rfl⟩ | ⟨i,hi,rfl⟩ | rfl
 ·show(b:Int)<_;omega
 ·show(b:Int)<_;omega
 show(b:Int)<_;omega) hi
section
variable {f:an} {m:MW} {idom:List Int} (hp0:f.params<=8192) (hs:Site m (ib f)) (hd : ∀a b:Int,0<=a->a<f.blocks.length->0<=b->b<f.blocks.length->dV idom a b=!nth (nth (gq f) a.toNat) b.toNat)
include hp0 hs hd
theorem I5{b i:Nat}(hb:b<f.blocks.length)(hi:i<(nth f.blocks b).phis.length):phiU f m idom (dh (ofG f.blocks)) b i=gH f (ib f) (gq f) (phiT f b i):=by
 have hf:=Fe (f:=f) (i:=i) hb;have e1:rq f (phiT f b i)=nth (nth f.blocks b).phis i:=by unfold rq ig phiT;simp only[OR];rw[show(-1-(-1-(i:Int))).toNat=i by omega]
 have e3:gH f (ib f) (gq f) (phiT f b i)=if !rj f (phiT f b i) then .error (16,b,-1-i) else if(nth (nth f.blocks b).phis i).ins.any (stP f (ib f) (gq f)) then .error (13,b,-1-i) else .ok ():=by unfold gH;rw[if_neg (show ¬0<=(phiT f b i).place by show ¬0<=-1-(i:Int);omega),e1];rfl
 rw[e3];unfold phiU;simp only[hf];cases hss:rj f (phiT f b i)with
 | false=>rfl
 | true=>
  rw[if_pos rfl,if_neg Sa];refine xP λj hj=>?_;have hfr:0<=(nth (nth (nth f.blocks b).phis i).ins j).frm/\(nth (nth (nth f.blocks b).phis i).ins j).frm<f.blocks.length:=by unfold rj at hss;rw[e1]at hss;simp only[OG,decide_eq_true_eq]at hss;have hm:=Qt (f:=InD.frm) (aS hj);rw[hss.2]at hm;obtain⟨a,h1,_,h2⟩:=pk.1 hm;omega
  rw[xJ hp0 hs (λa h0 h1=>hd a _ h0 h1 hfr.1 hfr.2) yd];rfl
theorem JN{b i:Nat}(hb:b<f.blocks.length)(hi:i<(nth f.blocks b).ins.length):insU f m idom b i=gH f (ib f) (gq f) (insT f b i):=by
 have e3:gH f (ib f) (gq f) (insT f b i)=if(nth (nth f.blocks b).ins i).args.any (stT f (ib f) (gq f) (insT f b i)) then .error (13,b,i) else .ok ():=by unfold gH;rw[if_pos (show 0<=(insT f b i).place by show 0<=(i:Int);omega)];rfl
 rw[e3];unfold insU;refine xP λj hj=>?_;rw[xJ hp0 hs (λa h0 h1=>hd a _ h0 h1 S0 S0) yd];rfl
theorem JR{b:Nat}(hb:b<f.blocks.length):endU f m idom b=gH f (ib f) (gq f) (endT f b):=by
 have e3:gH f (ib f) (gq f) (endT f b)=if(nth f.blocks b).term.args.any (stT f (ib f) (gq f) (endT f b)) then .error (13,b,(nth f.blocks b).ins.length) else .ok ():=by unfold gH;rw[if_pos (show 0<=(endT f b).place by show 0<=((nth f.blocks b).ins.length:Int);omega)];rfl
 rw[e3];unfold endU;refine xP λj hj=>?_;rw[xJ hp0 hs (λa h0 h1=>hd a _ h0 h1 S0 S0) yd];rfl
def stF (f:an) (_:Unit) (t:Th):Except Tr Unit:=gH f (ib f) (gq f) t
theorem Ja{b:Nat}(hb:b<f.blocks.length):blkU f m idom (dh (ofG f.blocks)) b=(thB f b).foldlM (stF f) ():=by
 unfold blkU thB uAll;rw[nU (f:=stF f) (x:=phiT f b) (n:=(nth f.blocks b).phis.length) λi s hi=>I5 hp0 hs hd hb hi];rw[nU (f:=stF f) (x:=insT f b) (n:=(nth f.blocks b).ins.length) λi s hi=>JN hp0 hs hd hb hi];rw[jn,jn,JR hp0 hs hd hb];cases (rows (phiT f b) (nth f.blocks b).phis.length).foldlM (stF f) ()with
 | error e=>rfl
 | ok m1=>
  obtain⟨⟩:=m1;cases hI:(rows (insT f b) (nth f.blocks b).ins.length).foldlM (stF f) ()with
  | error e=>simp only[andE,hI]
  | ok m2=>simp only[andE,hI];rw[rD];rfl
theorem Gc:uAll (blkU f m idom (dh (ofG f.blocks))) f.blocks.length=yt f:=by
 have key : ∀n,n<=f.blocks.length->uAll (blkU f m idom (dh (ofG f.blocks))) n=(thTo f n).foldlM (stF f) ():=by
  intro n;induction n with
  | zero=>exact λ_=>rfl
  | succ n ih=>
   intro hn;rw[fl,jn,<-ih S0];have e:uAll (blkU f m idom (dh (ofG f.blocks))) (n+1)=match uAll (blkU f m idom (dh (ofG f.blocks))) n with | .ok _=>blkU f m idom (dh (ofG f.blocks)) n | .error e=>.error e:=by show upE _ (n+1) ()=_;simp only[upE];unfold uAll;cases upE (λi (_:Unit)=>blkU f m idom (dh (ofG f.blocks)) i) n ()<;>rfl
   rw[e];cases uAll (blkU f m idom (dh (ofG f.blocks))) n with
   | error e=>rfl
   | ok s=>exact Ja hp0 hs hd S0
 rw[key _ (OA _)];exact(pq (f:=stF f)).symm
end
theorem yx {f:an} : ∀k,manyN f k=(sw f k:Int)
 | 0=>rfl
 | k+1=>by have ih:=yx (f:=f) k;unfold manyN at ih ⊢;rw[up,ih,sw];omega
theorem yG {σ ε:Type} {f g:Nat->σ->Except ε σ} {s:σ} : ∀{n:Nat},(∀i s,i<n->f i s=g i s)->upE f n s=upE g n s
 | 0,_=>rfl
 | n+1,h=>by
  simp only[upE];rw[yG (n:=n) λi s hi=>h i s S0];cases upE g n s with
  | ok s'=>exact h n s' S0
  | error e=>rfl
theorem wy {f:Nat->Unit->Except Tr Unit} : ∀{n:Nat},upE f n () = .ok ()->∀i,i<n->f i () = .ok ()
 | n+1,h,i,hi=>by
  simp only[upE]at h;cases e:upE f n ()with
  | error t=>rw[e]at h;cases h
  | ok s=>
   rw[e]at h;rcases OD i n with hlt | hge
   ·exact wy e i hlt
   have:i=n:=by omega
   subst this;exact h
theorem GX{f:an}(hn:0<f.blocks.length):uAll (ug f) f.blocks.length=wayE f:=by
 unfold uAll wayE;refine yG λb s hb=>?_;unfold ug;have e:decide ((b:Int)∈bo (ofG f.blocks))=nth (dZ f (-1)) b:=by rw[O7,decide_eq_true_eq,(jZ (by rw[lM];exact hn)).mem,fB hb]
 rw[e]
theorem Ir{f:an}(hn:0<f.blocks.length)(hw:wayE f = .ok ())(a b:Int)(h0:0<=a)(h1:a<f.blocks.length)(h2:0<=b)(h3:b<f.blocks.length):
  dV (qX (ofG f.blocks)) a b=!nth (nth (gq f) a.toNat) b.toNat:=by
 have hR : ∀x:Nat,x<f.blocks.length->Re (ofG f.blocks) (-1) x:=λx hx=>by
  have:=wy hw x hx;rw[<-fB hx];split at this
  ·assumption
  cases this
 have hg:0<(ofG f.blocks).length:=by rw[lM];exact hn
 obtain⟨fp,C,l,hl,I⟩:=yA hg;have hi:qX (ofG f.blocks)=l:=by unfold qX;rw[hl];rfl
 rw[hi];have e:=tf I C (a:=a.toNat) (b:=b.toNat) (by rw[lM];omega) (hR _ S0);rw[O0 h0,O0 h2]at e;rw[e,O7,oZ];have ha:nth (gq f) a.toNat=dZ f a:=by unfold gq;rw[fE S0,O0 h0]
 rw[ha];have hr:=fB (f:=f) (wo:=a) (b:=b.toNat) S0;have haa:((a.toNat:Nat):Int)=a:=O0 h0;rw[haa];cases hc:nth (dZ f a) b.toNat with
 | true=>rw[hc]at hr;simp[hr.1 rfl]
 | false=>
  rw[hc]at hr;have hnr:¬Re (ofG f.blocks) a b.toNat:=λh=>by have:=hr.2 h;cases this
  simp[hnr,hR _ (show a.toNat<f.blocks.length by omega),hR _ (show b.toNat<f.blocks.length by omega)]
theorem yU(f:an):jJ f=tt f:=by
 unfold jJ mE tt;by_cases c1:f.params<0\/4<f.params
 ·have:cn f.params 0 4=false:=by rw[QM];simp[cn];omega
  rw[if_pos this,if_pos c1]
 have hw4:¬cn f.params 0 4=false:=by simp[cn];omega
 rw[if_neg hw4,if_neg c1];by_cases c2:f.blocks.length=0
 ·rw[if_pos c2,if_pos c2]
 rw[if_neg c2,if_neg c2];have hm:EA f=(sw f f.blocks.length:Int):=yx _;by_cases c3:512<f.blocks.length\/4096<sw f f.blocks.length
 ·rw[if_pos (by rw[hm];omega),if_pos c3]
 rw[if_neg (by rw[hm];omega),if_neg c3];have hp:0<=f.params:=by omega
 have hsh:=C9 hp;cases hS:lZ f (λ_=>Sk)with
 | error e=>
  cases hR:kv f with
  | ok l=>rw[hS,hR]at hsh;exact hsh.elim
  | error e'=>rw[hS,hR]at hsh;have hee:e=e':=hsh;subst hee;obtain⟨k,s',h1,_,h3⟩:=qx hR;have:=(uT h3).1;rw[if_pos (by show e.1≠0;omega)];rfl
 | ok m=>
  cases hR:kv f with
  | error e'=>rw[hS,hR]at hsh;exact hsh.elim
  | ok l=>
   rw[if_neg (by simp[wK])];have hs:=Fp hp hS;show(match sW f m (qX (ofG f.blocks))with | .ok _=>((0,0,0):Tr) | .error t=>t)=_;unfold sW;rw[GX S0];cases hW:wayE f with
   | error e=>rfl
   | ok s=>obtain⟨⟩:=s;have:=Gc (f:=f) (m:=m) (idom:=qX (ofG f.blocks)) S0 hs λa b h0 h1 h2 h3=>Ir S0 hW a b h0 h1 h2 h3;show(match uAll (blkU f m (qX (ofG f.blocks)) (dh (ofG f.blocks))) f.blocks.length with | .ok _=>((0,0,0):Tr) | .error t=>t)=wK (yt f);rw[this];cases yt f<;>rfl
def Marks (m:BL) (S:Int->Prop):Prop:=m.length=8192/\∀n:Int,0<=n->n<8192->(nth m n.toNat=Sq↔S n)
theorem xH:Marks (List.replicate 8192 Sr) (λ_=>False):=⟨Pn,λn h0 h1=>by rw[aC S0];simp⟩
theorem yD{m:BL}{S:Int->Prop}(h:Marks m S)(h0:0<=n)(h1:n<8192):Marks (m.set n.toNat Sq) (λk=>S k\/k=n):=by
 refine⟨by simpa using h.1,λk k0 k1=>?_⟩;rw[aX (by rw[h.1];omega)];split
 ·rename_i e;exact⟨λ_=>.inr S0,λ_=>rfl⟩
 rename_i e;rw[h.2 k k0 k1];exact⟨.inl,λo=>o.resolve_right (by rintro rfl;exact e rfl)⟩
theorem Marks.congr{m:BL}{S T:Int->Prop}(h:Marks m S)(he : ∀n,S n↔T n):Marks m T:=⟨h.1,λn a b=>(h.2 n a b).trans (he n)⟩
theorem rC {t:Th} : ∀{l:List Int} {m m':BL} {S:Int->Prop},Marks m S->(∀n∈l,0<=n/\n<8192)->l.foldlM (jX t) m = .ok m'->Marks m' (λk=>S k\/k∈l)/\l.Nodup/\∀n∈l,¬S n
 | [],m,m',S,h,_,e=>by cases e;exact⟨h.congr λn=>by simp,QN,λn hn=>by cases hn⟩
 | a::l,m,m',S,h,hl,e=>by
  rw[PH]at e;have ha:=hl a OM;unfold jX at e;by_cases hc:nth m a.toNat=Sq
  ·rw[if_pos hc]at e;cases e
  rw[if_neg hc]at e;obtain⟨g1,g2,g3⟩:=rC (yD h ha.1 ha.2) (λn hn=>hl n (OL _ hn)) e;refine⟨g1.congr λn=>by rw[OQ,or_assoc],QZ.2 ⟨λhm=>g3 a hm (.inr rfl),g2⟩,λn hn=>?_⟩;rcases OQ.1 hn with rfl | hn
  ·exact λhs=>hc ((h.2 n ha.1 ha.2).2 hs)
  exact λhs=>g3 n hn (.inl hs)
theorem xO {t:Th} : ∀{l:List Int} {m:BL} {S:Int->Prop},Marks m S->(∀n∈l,0<=n/\n<8192)->l.Nodup->(∀n∈l,¬S n)->∃m',l.foldlM (jX t) m = .ok m'
 | [],m,S,h,_,_,_=>⟨m,rfl⟩
 | a::l,m,S,h,hl,hd,hs=>by
  have ha:=hl a OM;rw[PH];unfold jX;rw[if_neg λhc=>hs a OM ((h.2 a ha.1 ha.2).1 hc)];obtain⟨d1,d2⟩:=QZ.1 hd;refine xO (yD h ha.1 ha.2) (λn hn=>hl n (OL _ hn)) d2 λn hn=>?_;rintro(g | rfl)
  ·exact hs n (OL _ hn) g
  exact d1 hn
structure uC (f:an) (t:Th):Prop where
 op:ta f t=Sq->mI (A4 f t)=Sr
 term:lu f t=Sq->kV (ig f t).term=Sq
 mks : ∀n∈t.mks,f.params<=n/\n<=8191
 to:lu f t=Sq->∀n∈(ig f t).term.to,1<=n/\n<f.blocks.length
theorem A8{t:Th}{m:BL}:upE (qB t) t.mks.length m=t.mks.foldlM (jX t) m:=pq (f:=jX t)
theorem any_false{p:α->Bool}{l:List α}:l.any p=Sr↔∀n∈l,p n=false:=by rw[List.any_eq_false];exact forall_congr' λn=>forall_congr' λ_=>by simp
theorem AO{f:an}:nw f n=Sr↔f.params<=n/\n<=8191:=by simp[nw]
theorem DL{f:an}:xB f n=Sr↔1<=n/\n<f.blocks.length:=by simp[xB]
theorem CO{f:an}{t:Th}{m m':BL}(h:fW f t m = .ok m'):uC f t/\t.mks.foldlM (jX t) m = .ok m':=by
 unfold fW at h;split at h
 ·cases h
 rename_i c1;split at h
 ·cases h
 rename_i c2;split at h
 ·cases h
 rename_i c3;rw[A8]at h;unfold mV at h;split at h
 ·cases h
 rename_i m1 e;split at h
 ·cases h
 rename_i c4;cases h;refine⟨⟨λg=>?_,λg=>?_,λn hn=>?_,λg n hn=>?_⟩,e⟩
 ·simpa[g]using c1
 ·simpa[g]using c2
 ·exact AO.1 (any_false.1 (by simpa only[Bool.not_eq_true]using c3) n hn)
 refine DL.1 (any_false.1 (by simpa only[g,QK,Bool.not_eq_true]using c4) n hn)
theorem AL{f:an}{t:Th}{m m':BL}(h:uC f t)(e:t.mks.foldlM (jX t) m = .ok m'):fW f t m = .ok m':=by
 unfold fW;rw[if_neg,if_neg,if_neg]
 ·rw[A8,e];unfold mV;dsimp only;rw[if_neg];intro c;obtain⟨c1,c2⟩:=(OG _ _).mp c;rw[any_false.2 λn hn=>DL.2 (h.to c1 n hn)]at c2;cases c2
 ·rw[any_false.2 λn hn=>AO.2 (h.mks n hn)];exact Bool.false_ne_true
 ·intro c;obtain⟨c1,c2⟩:=(OG _ _).mp c;rw[h.term c1]at c2;cases c2
 intro c;obtain⟨c1,c2⟩:=(OG _ _).mp c;rw[h.op c1]at c2;cases c2
def kg (l:List Th):List Int:=l.flatMap Th.mks
theorem vD {f:an} (hp:0<=f.params) : ∀{l:List Th} {m m':BL} {S:Int->Prop},Marks m S->l.foldlM (λm t=>fW f t m) m = .ok m'->(∀t∈l,uC f t)/\(kg l).Nodup/\∀n∈kg l,¬S n
 | [],m,m',S,h,e=>⟨λt ht=>(by cases ht),QN,λn hn=>(by cases hn)⟩
 | t::l,m,m',S,h,e=>by
  rw[PH]at e;cases e1:fW f t m with
  | error x=>rw[e1]at e;cases e
  | ok m1=>
   rw[e1]at e;obtain⟨g,e2⟩:=CO e1;obtain⟨k1,k2,k3⟩:=rC h (λn hn=>by have:=g.mks n hn;omega) e2;obtain⟨i1,i2,i3⟩:=vD hp k1 e;refine⟨λx hx=>?_,?_,λn hn=>?_⟩
   ·rcases OQ.1 hx with rfl | hx
    ·exact g
    exact i1 x hx
   ·refine PE.2 ⟨k2,i2,λa ha b hb=>?_⟩;rintro rfl;exact i3 a hb (.inr ha)
   rcases OE.1 hn with hn | hn
   ·exact k3 n hn
   exact λhs=>i3 n hn (.inl hs)
theorem xQ {f:an} (hp:0<=f.params) : ∀{l:List Th} {m:BL} {S:Int->Prop},Marks m S->(∀t∈l,uC f t)->(kg l).Nodup->(∀n∈kg l,¬S n)->∃m',l.foldlM (λm t=>fW f t m) m = .ok m'
 | [],m,S,_,_,_,_=>⟨m,rfl⟩
 | t::l,m,S,h,hg,hd,hs=>by
  have g:=hg t OM;obtain⟨d1,d2,d3⟩:=PE.1 (show(t.mks++kg l).Nodup from hd);have hr : ∀n∈t.mks,0<=n/\n<8192:=λn hn=>by have:=g.mks n hn;omega
  obtain⟨m1,e⟩:=xO (t:=t) h hr d1 λn hn=>hs n (O8 _ hn);rw[PH,AL g e];obtain⟨k1,_,_⟩:=rC h hr e;exact xQ hp k1 (λx hx=>hg x (OL _ hx)) d2 λn hn=>by
   rintro(q | q)
   ·exact hs n (Pj _ hn) q
   exact d3 n q n hn rfl
def qS (f:an) (v b p:Int):Prop:=(0<=v/\v<f.params)\/∃t∈aB f,v∈t.mks/\(t.blk=b/\(t.place<0\/t.place<p)\/t.blk≠b/\¬Re (ofG f.blocks) t.blk b.toNat)
structure GP (ts:List Th) (s:List Th):Prop where
 len:s.length=8192
 is : ∀n:Int,0<=n->n<8192->(nth s n.toNat=noTh/\∀t∈ts,n∉t.mks)\/(nth s n.toNat∈ts/\n∈(nth s n.toNat).mks)
theorem BF {t:Th} {ts:List Th} : ∀{l:List Int} {s:List Th} {d:List Int},(∀n∈l,n∈t.mks)->(s.length=8192/\∀n:Int,0<=n->n<8192->(nth s n.toNat=noTh/\(∀t∈ts,n∉t.mks)/\n∉d)\/(nth s n.toNat∈ts++[t]/\n∈(nth s n.toNat).mks))->
  ((l.foldl (fL t) s).length=8192/\∀n:Int,0<=n->n<8192->(nth (l.foldl (fL t) s) n.toNat=noTh/\(∀t∈ts,n∉t.mks)/\n∉d++l)\/(nth (l.foldl (fL t) s) n.toNat∈ts++[t]/\n∈(nth (l.foldl (fL t) s) n.toNat).mks))
 | [],s,d,_,h=>by simpa using h
 | a::l,s,d,hl,h=>by
  rw[O3];have:=BF (t:=t) (ts:=ts) (l:=l) (s:=fL t s a) (d:=d++[a]) (λn hn=>hl n (OL _ hn)) ⟨by rw[oL];exact h.1,λn h0 h1=>?_⟩
  ·simpa using this
  unfold fL;split
  ·rw[aX (by rw[h.1];omega)];split
   ·rename_i hc e;have:n=a:=by omega
    subst this;exact .inr ⟨Pj _ (OC.2 rfl),hl n OM⟩
   rename_i hc e;rcases h.2 n h0 h1 with⟨a1,a2,a3⟩ | a1
   ·refine .inl ⟨a1,a2,?_⟩;rw[OE,OC];rintro(q | rfl)
    ·exact a3 q
    exact e rfl
   exact .inr a1
  rename_i hc;rcases h.2 n h0 h1 with⟨a1,a2,a3⟩ | a1
  ·refine .inl ⟨a1,a2,?_⟩;rw[OE,OC];rintro(q | rfl)
   ·exact a3 q
   exact hc ⟨h0,h1⟩
  exact .inr a1
theorem BW : ∀{l ts s:List Th},GP ts s->GP (ts++l) (l.foldl sk s)
 | [],ts,s,h=>by simpa using h
 | t::l,ts,s,h=>by
  rw[O3];have:=BF (t:=t) (ts:=ts) (l:=t.mks) (s:=s) (d:=[]) (λn hn=>hn) ⟨h.len,λn h0 h1=>(h.is n h0 h1).elim (λa=>.inl ⟨a.1,a.2,QT⟩) λa=>.inr ⟨O8 _ a.1,a.2⟩⟩;have:=BW (l:=l) (ts:=ts++[t]) (s:=sk s t) ⟨this.1,λn h0 h1=>(this.2 n h0 h1).elim (λa=>.inl ⟨a.1,λx hx=>?_⟩) .inr⟩
  ·simpa using this
  rcases OE.1 hx with hx | hx
  ·exact a.2.1 x hx
  rw[OC.1 hx];simpa using a.2.2
theorem yX{f:an}:GP (aB f) (ib f):=
 BW (l:=aB f) (ts:=[]) (s:=List.replicate 8192 noTh) ⟨Pn,λn h0 h1=>.inl ⟨aC S0,λt ht=>by cases ht⟩⟩
theorem sL{f:an}{t:Th}(h:t∈aB f):0<=t.blk/\t.blk<f.blocks.length:=by obtain⟨b,hb,ht⟩:=dS.1 h;rcases fg.1 ht with⟨i,hi,rfl⟩ | ⟨i,hi,rfl⟩ | rfl<;>exact⟨Q2 _,Int.ofNat_lt.2 hb⟩
theorem Et{f:an}{a:Int}(h0:0<=a)(h1:a<f.blocks.length)(h2:0<=b)(h3:b<f.blocks.length):nth (nth (gq f) a.toNat) b.toNat=Sq↔Re (ofG f.blocks) a b.toNat:=by unfold gq;rw[fE S0,O0 h0];exact fB S0
theorem yw{f:an}{v p:Int}(hb0:0<=b)(hb1:b<f.blocks.length)(h:gC f (ib f) (gq f) v b p=Sq):qS f v b p:=by
 unfold gC at h;split at h
 ·rename_i c;exact .inl c
 split at h
 ·cases h
 rename_i c1 c2;rcases yX.is v S0 S0 with⟨e,_⟩ | ⟨hm,hv⟩
 ·exact absurd (.inr (by rw[e];decide)) c2
 have hat:=sL hm;refine .inr ⟨_,hm,hv,?_⟩;split at h
 ·rename_i e;exact .inl ⟨e,by simpa using h⟩
 rename_i e;refine .inr ⟨e,λhr=>?_⟩;rw[(Et hat.1 hat.2 hb0 hb1).2 hr]at h;cases h
theorem Bh : ∀{l:List Th},(kg l).Nodup->∀{t t':Th} {v:Int},t∈l->t'∈l->v∈t.mks->v∈t'.mks->t=t'
 | a::l,hd,t,t',v,h,h',hv,hv'=>by
  obtain⟨d1,d2,d3⟩:=PE.1 (show(a.mks++kg l).Nodup from hd);rcases OQ.1 h with e1 | h1
  ·rcases OQ.1 h' with e2 | h2
   ·rw[e1,e2]
   exact absurd rfl (d3 v (by rw[<-e1];exact hv) v (PS.2 ⟨t',h2,hv'⟩))
  rcases OQ.1 h' with e2 | h2
  ·exact absurd rfl (d3 v (by rw[<-e2];exact hv') v (PS.2 ⟨t,h1,hv⟩))
  exact Bh d2 h1 h2 hv hv'
theorem zh{f:an}{v p:Int}(hd:(kg (aB f)).Nodup)(hr : ∀t∈aB f,∀n∈t.mks,0<=n/\n<=8191)(hb0:0<=b)(hb1:b<f.blocks.length)(h:qS f v b p):gC f (ib f) (gq f) v b p=true:=by
 unfold gC;rcases h with c | ⟨t,ht,hv,h⟩
 ·rw[if_pos c]
 split
 ·rfl
 have hn:=hr t ht v hv;have hat:=sL ht;have e:nth (ib f) v.toNat=t:=by
  rcases yX.is v hn.1 S0 with⟨_,a⟩ | ⟨a,b⟩
  ·exact absurd hv (a t ht)
  exact Bh hd a ht b hv
 rw[e,if_neg S0];rcases h with⟨h1,h2⟩ | ⟨h1,h2⟩
 ·rw[if_pos h1];simpa using h2
 rw[if_neg h1];cases ec:nth (nth (gq f) t.blk.toNat) b.toNat with
 | false=>rfl
 | true=>exact absurd ((Et hat.1 hat.2 hb0 hb1).1 ec) h2
structure gp (f:an):Prop where
 params:0<=f.params/\f.params<=4
 blocks:0<f.blocks.length/\f.blocks.length<=512
 cnt:sw f f.blocks.length<=4096
 good : ∀t∈aB f,uC f t
 nodup:(kg (aB f)).Nodup
 way : ∀b:Nat,b<f.blocks.length->Re (ofG f.blocks) (-1) b
 takes : ∀t∈aB f,0<=t.place->∀v∈t.tks,qS f v t.blk t.place
 phi : ∀b i:Nat,b<f.blocks.length->i<(nth f.blocks b).phis.length->0<b/\(nth (nth f.blocks b).phis i).ins.map InD.frm=aH f b/\∀p∈(nth (nth f.blocks b).phis i).ins,qS f p.val p.frm (xS f p.frm)
theorem B8{f:an}{x:Int}:x∈aH f b↔(0<=x/\x<f.blocks.length)/\b∈(nth f.blocks x.toNat).term.to:=by
 unfold aH;rw[pk];constructor
 ·rintro⟨a,ha,hb,rfl⟩;exact⟨S4,by simpa using hb⟩
 rintro⟨⟨h0,h1⟩,h⟩;exact⟨x.toNat,by omega,by simpa using h,by omega⟩
theorem xz {g:Nat->Unit->Except Tr Unit} : ∀{n:Nat},(∀i,i<n->g i () = .ok ())->upE g n () = .ok ()
 | 0,_=>rfl
 | n+1,h=>by simp only[upE];rw[xz λi hi=>h i S0];exact h n S0
theorem xa{f:an}{t:Th}:gH f (ib f) (gq f) t = .ok ()↔
  (0<=t.place/\∀v∈t.tks,gC f (ib f) (gq f) v t.blk t.place=Sq)\/(t.place<0/\rj f t=Sq/\∀p∈(rq f t).ins,gC f (ib f) (gq f) p.val p.frm (xS f p.frm)=Sq):=by
 unfold gH;by_cases h0:0<=t.place
 ·rw[if_pos h0];have hn:¬t.place<0:=by omega
  simp only[h0,hn,true_and,false_and,or_false];cases e:t.tks.any (stT f (ib f) (gq f) t)with
  | true=>
   obtain⟨v,hv,hs⟩:=Rr.1 e;constructor
   ·intro h;cases h
   intro h;unfold stT at hs;rw[h v hv]at hs;cases hs
  | false=>
   constructor
   ·intro _ v hv;have:=any_false.1 e v hv;simpa[stT]using this
   intro _;rfl
 rw[if_neg h0];have hn:t.place<0:=by omega
 simp only[h0,hn,true_and,false_and,false_or];cases e1:rj f t with
 | false=>simp
 | true=>
  rw[if_neg Sa];cases e:(rq f t).ins.any (stP f (ib f) (gq f))with
  | true=>
   obtain⟨v,hv,hs⟩:=Rr.1 e;constructor
   ·intro h;cases h
   rintro⟨_,h⟩;unfold stP at hs;rw[h v hv]at hs;cases hs
  | false=>
   constructor
   ·intro _;refine⟨rfl,λv hv=>?_⟩;have:=any_false.1 e v hv;simpa[stP]using this
   intro _;rfl
theorem CD{f:an}{b i:Nat}:rq f (phiT f b i)=nth (nth f.blocks b).phis i:=by unfold rq ig phiT;dsimp only;rw[OR];congr 1;omega
theorem KZ{f:an}(h:(jJ f).1=0):gp f:=by
 rw[yU]at h;unfold tt at h;split at h
 ·cases h
 rename_i c1;split at h
 ·cases h
 rename_i c2;split at h
 ·cases h
 rename_i c3;cases hs:kv f with
 | error e=>obtain⟨k,s',_,_,h3⟩:=qx (show upE _ _ _=_ from hs);have:=(uT h3).1;rw[hs]at h;rw[if_pos (by show e.1≠0;omega)]at h;have h:e.1=0:=h;omega
 | ok m=>
  rw[hs,if_neg (by simp[wK])]at h;obtain⟨g1,g2,_⟩:=vD (f:=f) S0 xH (by rw[<-nk];exact hs);cases hw:wayE f with
  | error e=>
   rw[hw]at h;obtain⟨k,s',_,_,h3⟩:=qx (show upE _ _ _=_ from hw);split at h3
   ·cases h3
   cases h3;exact absurd (show(15:Int)=0 from h) S1
  | ok u=>
   obtain⟨⟩:=u;rw[hw]at h;cases hu:yt f with
   | error e=>
    rw[hu]at h;obtain⟨k,s',_,_,h3⟩:=qx (show upE _ _ _=_ from hu);have h:e.1=0:=h;unfold gH at h3;repeat' split at h3
    all_goals first | (cases h3;done) | (cases h3;first | exact absurd (show(13:Int)=0 from h) S1 | exact absurd (show(16:Int)=0 from h) S1)
   | ok u=>
    obtain⟨⟩:=u;have hst : ∀t∈aB f,gH f (ib f) (gq f) t = .ok ():=λt ht=>by obtain⟨i,hi,e⟩:=OU ht;have:=wy hu i hi;rw[ay hi,e]at this;exact this
    refine⟨by omega,by omega,by omega,g1,g2,λb hb=>?_,λt ht h0 v hv=>?_,λb i hb hi=>?_⟩
    ·have:=wy hw b hb;rw[<-fB hb];split at this
     ·assumption
     cases this
    ·have hat:=sL ht;rcases xa.1 (hst t ht)with⟨_,k⟩ | ⟨k,_⟩
     ·exact yw hat.1 hat.2 (k v hv)
     omega
    have ht:phiT f b i∈aB f:=dS.2 ⟨b,hb,fg.2 (.inl ⟨i,hi,rfl⟩)⟩;rcases xa.1 (hst _ ht)with⟨k,_⟩ | ⟨_,k1,k2⟩
    ·exact absurd k (by show ¬(0:Int)<=-1-(i:Int);omega)
    unfold rj at k1;rw[CD]at k1 k2;obtain⟨k3,k4⟩:=(OG _ _).mp k1;have k4:(nth (nth f.blocks b).phis i).ins.map InD.frm=aH f b:=of_decide_eq_true k4;have k3:(0:Int)<b:=of_decide_eq_true k3;refine⟨by omega,k4,λp hp=>?_⟩;have hm:p.frm∈aH f b:=by rw[<-k4];exact Qt hp
    have:=(B8.1 hm).1;exact yw this.1 this.2 (k2 p hp)
theorem K9{f:an}(h:gp f):jJ f=(0,0,0):=by
 rw[yU];have hp:=h.params;have hb:=h.blocks;have hc:=h.cnt;have hr : ∀t∈aB f,∀n∈t.mks,0<=n/\n<=8191:=λt ht n hn=>by have:=(h.good t ht).mks n hn;omega
 unfold tt;rw[if_neg S0,if_neg S0,if_neg S0];obtain⟨m,hm⟩:=xQ (f:=f) S0 xH h.good h.nodup λ_ _=>id;rw[nk,hm,if_neg (by simp[wK])];have hw:wayE f = .ok ():=xz λi hi=>if_pos ((fB hi).2 (h.way i hi));have hu:yt f = .ok ():=xz λi hi=>by
  have ht:=aS hi;generalize nth (aB f) i=t at ht;rw[xa];have hat:=sL ht;by_cases h0:0<=t.place
  ·exact .inl ⟨h0,λv hv=>zh h.nodup hr hat.1 hat.2 (h.takes t ht h0 v hv)⟩
  refine .inr ⟨by omega,?_⟩;obtain⟨b,hb,hm⟩:=dS.1 ht;rcases fg.1 hm with⟨i,hi,rfl⟩ | ⟨i,hi,rfl⟩ | rfl
  ·obtain⟨k1,k2,k3⟩:=h.phi b i hb hi;unfold rj;rw[CD];refine⟨(OG _ _).mpr ⟨decide_eq_true (by show(0:Int)<b;omega),decide_eq_true k2⟩,λp hp=>?_⟩;have hm:p.frm∈aH f b:=by rw[<-k2];exact Qt hp
   have:=(B8.1 hm).1;exact zh h.nodup hr this.1 this.2 (k3 p hp)
  ·exact absurd (Q2 _) h0
  exact absurd (Q2 _) h0
 rw[hw,hu];rfl
def mkL (vs:Value) (at_:Nat) (ps:Int) (vb:Value) (nx:Int) (vl:Value):List Value:=[vs,Sf Sg at_,Sf Sg ps,vb,Sf Sg nx,vl]
def rawV (s:List Int) (at_:Nat):Int:=if at_<s.length then nth s at_ else 0
def aF (s:List Int) (at_:Nat) (n:Int):Int:=((rawV s at_).tmod n+n).tmod n
theorem bF{s:List Int}{at_:Nat}(hn:0<n):0<=aF s at_ n/\aF s at_ n<n:=by have b1:=Int.lt_tmod_of_pos (rawV s at_) hn;exact⟨R3 _ S0,Q4 _ hn⟩
theorem JD{W:View}{h:Heap}{o:Own}{M at_:Nat}{vs vb vl:Value}{ps nx:Int}{s:List Int}(w:Owns W h o)(hk:o (0,0)=bx T.bj M (RawN.mk (n:=5) (mkL vs at_ ps vb nx vl)))(hs:SlRd W vs s)(h1:at_<=1000000000)(hn:0<n)(hn2:n<=1000000000):
  aw Ss 34 #[ptz M,Sf Sg n] h (λu h'=>u = Sf Sg (aF s at_ n)/\Owns W h' (o.upd (0,0) (bx T.bj M (RawN.mk (n:=5) (mkL vs (at_+1) ps vb nx vl))))):=by
 refine aj (args:=[ptz M,Sf Sg n]) follows Tryz.func34 E.iG S8 λK hK=>?_;have c0:ak (vw h) ⟨M,0,Sk⟩=Sj vs:=w.raw hk (i:=0) S1;have c1:ak (vw h) ⟨M,1,Sk⟩=Sj (Sf Sg at_):=w.raw hk (i:=1) S1;dsimp only[L.iG,lkF,lkG];refine ab λz hz=>?_;simp;subst hz;refine ab λz hz=>?_;simp;subst hz;refine ab λz hz=>?_;have hsl : ∀{Q:View},Un.ev Q .len vs=Sj (Sf Sg s.length):=fun{Q}=>hs.len;refine iP (λρ h2=>h2=h/\I64 (rawV s at_)/\ρ=[(0,ptz M),(1,Sf Sg n),(4,Sf Sg 0),(5,Sf Sg (rawV s at_))]) ?_ ?_
 ·intro K2 hK2;by_cases c:at_<s.length
  ·have hs2:=hs.mono w.wle;have hr:=hs.range (i:=at_) c;have e:rawV s at_=nth s at_:=if_pos c;rw[e]at hK2;simp(disch:=omega)[c0,c1,hsl,c,hs2.idx1 rfl,hs2.int Sb];exact hK2 _ _ ⟨rfl,hr,rfl⟩
  have e:rawV s at_=0:=if_neg c;rw[e]at hK2;simp[c0,c1,hsl,c];exact hK2 _ _ ⟨rfl,⟨S1,S1⟩,rfl⟩
 rintro _ h2 ⟨rfl,hx,rfl⟩;subst hz;refine ab λz hz=>?_;simp(disch:=omega)[c1];refine w.dp (k:=(0,0)) (n:=5) (i:=1) (e:=T.bj) (B:=M) (l:=mkL vs at_ ps vb nx vl) hk S1 R9 rfl rfl rfl λh3 w3 _=>?_;subst hz;have b1:=Int.lt_tmod_of_pos (rawV s at_) hn;have b2:=Q4 (rawV s at_) hn;have hw:IntKind.i64.wrap ((rawV s at_).tmod n+n)=(rawV s at_).tmod n+n:=bC S0 S0;have hne:¬n=0:=by omega
 simp[hw,hne];refine hK _ _ ⟨rfl,w3.congr λq=>?_⟩;rfl
theorem Bx{W:View}{h:Heap}{o:Own}{M at_:Nat}{vs vb vl:Value}{ps nx:Int}(w:Owns W h o)(hk:o (0,0)=bx T.bj M (RawN.mk (n:=5) (mkL vs at_ ps vb nx vl)))(h0:0<=nx)(h1:nx<=1000000000):
  aw Ss 52 #[ptz M] h (λu h'=>u = Sf Sg nx/\Owns W h' (o.upd (0,0) (bx T.bj M (RawN.mk (n:=5) (mkL vs at_ ps vb (nx+1) vl))))/\∀X:View,X.le (vw h)->X M=Sk->X.le (vw h')):=by refine aj (args:=[ptz M]) follows Tryz.func52 E.hZ S8 λK hK=>?_;have c4:ak (vw h) ⟨M,4,Sk⟩=Sj (Sf Sg nx):=w.raw hk (i:=4) S1;dsimp only[L.hZ,lkF,lkG];refine ab λz hz=>?_;simp;subst hz;refine ab λz hz=>?_;simp(disch:=omega)[c4];refine w.dp (k:=(0,0)) (n:=5) (i:=4) (e:=T.bj) (B:=M) (l:=mkL vs at_ ps vb nx vl) hk S1 R9 rfl rfl rfl λh3 w3 hx3=>?_;have w3:Owns W h3 (o.upd (0,0) (bx T.bj M (RawN.mk (n:=5) (mkL vs at_ ps vb (nx+1) vl)))):=w3;have c5:ak (vw h3) ⟨M,4,Sk⟩=Sj (Sf Sg (nx+1)):=w3.raw Own.ao (i:=4) S1;subst hz;simp(disch:=omega)[c5];exact hK _ _ ⟨by congr 1,w3,hx3⟩
end Go.Proofs.YtnfiilgdjpdlkaaGreatDoor
namespace Go.Lft
open Go
variable {po:OP}
theorem K1 {P:Program} {t ty:TypeId} {us:List (Nat × Value)} {h:Heap} {K:Value->Heap->Prop} {x:Operand} {n:Int} (hx:asg us x = Sf Sg n) (hk:K (Sf Sg (IntKind.i64.wrap (-n))) h):step P (.unOp .neg t x) ty us h K:=by refine cI (cf λw hw=>⟨Sf Sg (IntKind.i64.wrap (-n)),w,?_,Same.refl _,by rw[hw];exact hk⟩);simp only[bI,execOp,hx];simp[Op.unary,Op.intArith]
end Go.Lft
namespace Go.Proofs.YtnfiilgdjpdlkaaGreatDoor
open Go Go.Lft
structure MS where
 at_:Nat
 ps:Int
 blocks:List BlkD
 next:Int
 live:List Int
def MS.took (m:MS):MS:={ m with at_:=m.at_+1 }
def MS.aN (m:MS):MS:={ m with next:=m.next+1 }
structure BlkM where
 phis:Raw
 ins:Raw
 term:cM
instance:Rep BlkM:=Rep.via λd=>Cat.mk d.phis (Cat.mk d.ins d.term)
instance:Inhabited BlkM:=⟨⟨default,default,default⟩⟩
theorem BlkM.uz:Part BlkM Raw 0 BlkM.phis (λd x=>{ d with phis:=x }):=(Part.fst Part.all).via (λ_=>rfl) λ_ _=>rfl
theorem BlkM.mB:Part BlkM Raw 1 BlkM.ins (λd x=>{ d with ins:=x }):=(Part.snd (Part.fst Part.all)).via (λ_=>rfl) λ_ _=>rfl
theorem BlkM.n7:Part BlkM cM 2 BlkM.term (λd x=>{ d with term:=x }):=(Part.snd (Part.snd Part.all)).via (λ_=>rfl) λ_ _=>rfl
theorem Cj {H:View} {cs:List Value} {d:BlkM} {p:List PhiD} {i:List InsD} (h:Rep.rd H cs d) (hp:SlRd H d.phis.v p) (hi:SlRd H d.ins.v i):Rep.rd H cs (BlkD.mk p i d.term):=by obtain⟨c1,r1,e1,⟨h1,_⟩,c2,r2,e2,⟨h2,_⟩,h3⟩:=h;have h1:c1=[d.phis.v]:=h1;have h2:c2=[d.ins.v]:=h2;exact⟨c1,r1,e1,⟨d.phis.v,h1,hp⟩,c2,r2,e2,⟨d.ins.v,h2,hi⟩,h3⟩
structure MkB (M:Nat) (vs:Value) (m:MS) (o:Own) (vb vl:Value) (lb:List BlkM):Prop where
 box:o (0,0)=bx T.bj M (RawN.mk (n:=5) (mkL vs m.at_ m.ps vb m.next vl))
 live:o (0,1)=it T.int vl m.live
 blk:o (0,2)=it T.eZ vb lb
 len:lb.length=m.blocks.length
 term : ∀i,i<m.blocks.length->(nth lb i).term=(nth m.blocks i).term
 phis : ∀i,i<m.blocks.length->o (1,i)=it T.oG (nth lb i).phis.v (nth m.blocks i).phis
 ins : ∀i,i<m.blocks.length->o (2,i)=it T.eA (nth lb i).ins.v (nth m.blocks i).ins
structure Mk (s:List Int) (M:Nat) (vs:Value) (W:View) (h:Heap) (o:Own) (m:MS):Prop where
 own:Owns W h o
 src:SlRd W vs s
 box : ∃vb vl lb,MkB M vs m o vb vl lb
def Nx (s:List Int) (M:Nat) (vs:Value) (W:View) (h:Heap) (o:Own) (m:MS):Prop:=∃W' o',W.le W'/\Mk s M vs W' h o' m/\∀k:Key,3<=k.1->o' k=o k
variable {s:List Int} {M:Nat} {vs:Value} {W:View} {h:Heap} {o:Own} {m:MS}
theorem Mk.nx (w:Mk s M vs W h o m):Nx s M vs W h o m:=⟨W,o,View.le_refl _,w,λ_ _=>rfl⟩
theorem Nx.trans {W':View} {o':Own} (hW:W.le W') (ho : ∀k:Key,3<=k.1->o' k=o k) (n:Nx s M vs W' h o' m):Nx s M vs W h o m:=by obtain⟨W2,o2,h1,h2,h3⟩:=n;exact⟨W2,o2,Sc hW h1,h2,λk hk=>(h3 k hk).trans (ho k hk)⟩
theorem MkB.at {vb vl:Value} {lb:List BlkM} (b:MkB M vs m o vb vl lb) {at_:Nat} {next:Int}:MkB M vs { m with at_:=at_,next:=next } (o.upd (0,0) (bx T.bj M (RawN.mk (n:=5) (mkL vs at_ m.ps vb next vl)))) vb vl lb:=
 ⟨rfl,b.live,b.blk,b.len,b.term,λi hi=>b.phis i hi,λi hi=>b.ins i hi⟩
theorem nI {k:Key} {i:Option Lft.Item} (hk:k.1<3) : ∀q:Key,3<=q.1->o.upd k i q=o q:=λq hq=>Own.aA λe=>by rw[e]at hq;omega
theorem fh {k:Key} {i j:Option Lft.Item} (q:Key):(o.upd k i).upd k j q=o.upd k j q:=by unfold Own.upd;split<;>rfl
theorem Mk.take (w:Mk s M vs W h o m) {n:Int} (h1:m.at_<=1000000000) (hn:0<n) (hn2:n<=1000000000) :
  aw Ss 34 #[ptz M,Sf Sg n] h (λu h'=>u = Sf Sg (aF s m.at_ n)/\∃o',Mk s M vs W h' o' m.took/\∀k:Key,3<=k.1->o' k=o k):=by obtain⟨vb,vl,lb,b⟩:=w.box;refine(JD w.own b.box w.src h1 hn hn2).mono ?_;rintro u h' ⟨rfl,w2⟩;exact⟨rfl,_,⟨w2,w.src,vb,vl,lb,b.at⟩,nI S1⟩
theorem Mk.fresh (w:Mk s M vs W h o m) (h0:0<=m.next) (h1:m.next<=1000000000) :
  aw Ss 52 #[ptz M] h (λu h'=>u = Sf Sg m.next/\∃o',Mk s M vs W h' o' m.aN/\∀k:Key,3<=k.1->o' k=o k):=by obtain⟨vb,vl,lb,b⟩:=w.box;refine(Bx w.own b.box h0 h1).mono ?_;rintro u h' ⟨rfl,w2,-⟩;exact⟨rfl,_,⟨w2,w.src,vb,vl,lb,b.at⟩,nI S1⟩
theorem mO {x:Int}:-2147483648<=IntKind.i32.wrap x/\IntKind.i32.wrap x<=2147483647:=by rw[IntKind.wrap_i32];omega
def iX (s:List Int) (m:MS):Int:=
 if aF s (m.at_+1) 8=0 then IntKind.i32.wrap (IntKind.i64.wrap (aF s m.at_ 1048576*4099))
 else if aF s (m.at_+1) 8=1 then IntKind.i32.wrap (IntKind.i64.wrap (-aF s m.at_ 1048576))
 else if aF s (m.at_+1) 8=2 then -2147483648
 else if aF s (m.at_+1) 8=3 then IntKind.i32.wrap ((aF s m.at_ 1048576).tmod 70000)
 else IntKind.i32.wrap (IntKind.i64.wrap ((aF s m.at_ 1048576).tmod 20-4))
theorem qD:-2147483648<=iX s m/\iX s m<=2147483647:=by
 unfold iX;repeat' split
 all_goals first | exact mO | decide
theorem Mk.word (w:Mk s M vs W h o m) (h1:m.at_<=999999990) :
  aw Ss 59 #[ptz M] h (λu h'=>u = Sf Si (iX s m)/\∃o',Mk s M vs W h' o' m.took.took/\∀k:Key,3<=k.1->o' k=o k):=by
 refine aj (args:=[ptz M]) follows Tryz.func59 E.iS S8 λK hK=>?_;dsimp only[L.iS,lkF,lkG];refine ab λz hz=>?_;simp;subst hz;refine ab λz hz=>?_;simp;refine af R9 (w.take S0 (n:=1048576) S1 S1) ?_;rintro _ h2 ⟨rfl,o2,w2,f2⟩;subst hz;refine ab λz hz=>?_;simp;refine af R9 (w2.take (show m.at_+1<=_ by omega) (n:=8) S1 S1) ?_;rintro _ h3 ⟨rfl,o3,w3,f3⟩;have hx:m.took.at_=m.at_+1:=rfl;rw[hx];have hf : ∀k:Key,3<=k.1->o3 k=o k:=λk hk=>(f3 k hk).trans (f2 k hk);have hwd:iX s m=_:=iX.eq_1 s m;generalize iX s m=r at hwd hK;generalize aF s (m.at_+1) 8=q at hwd;generalize aF s m.at_ 1048576=x at hwd;by_cases c0:q=0
 ·rw[if_pos c0]at hwd;simp[c0];exact hK _ _ ⟨by rw[hwd],_,w3,hf⟩
 rw[if_neg c0]at hwd;by_cases c1:q=1
 ·rw[if_pos c1]at hwd;simp[c1];refine K1 rfl ?_;simp;exact hK _ _ ⟨by rw[hwd],_,w3,hf⟩
 rw[if_neg c1]at hwd;by_cases c2:q=2
 ·rw[if_pos c2]at hwd;simp[c2];exact hK _ _ ⟨by rw[hwd],_,w3,hf⟩
 rw[if_neg c2]at hwd;by_cases c3:q=3
 ·rw[if_pos c3]at hwd;simp[c3];exact hK _ _ ⟨by rw[hwd],_,w3,hf⟩
 rw[if_neg c3]at hwd;simp[c0,c1,c2,c3];subst hz;simp;exact hK _ _ ⟨by rw[hwd],_,w3,hf⟩
end Go.Proofs.YtnfiilgdjpdlkaaGreatDoor
namespace Go.Proofs.YtnfiilgdjpdlkaaGreatDoor
open Go Go.Lft
def MS.add (m:MS) (b:Nat) (i:InsD):MS:={ m with blocks:=m.blocks.set b { nth m.blocks b with ins:=(nth m.blocks b).ins++[i] },live:=m.live++bg i }
def conD (v:Int) (n:Int):InsD:=⟨1,v,0,[],⟨n⟩⟩
def MS.constant (m:MS) (b:Nat) (n:Int):MS:=m.aN.add b (conD m.next n)
def vy (s:List Int) (m:MS):Int:=nth m.live (if aF s (m.at_+1) 3=0 then m.live.length-1 else(aF s m.at_ m.live.length).toNat)
def D2 (s:List Int) (m:MS) (b:Nat):MS:=(m.took.took).constant b (iX s m)
def aG (s:List Int) (m:MS) (b:Nat):Int × MS:=
 if m.live.length=0 then(m.next,D2 s m b)
 else if aF s (m.at_+2) 9=0 then(m.next,D2 s m.took.took.took b)
 else(vy s m,m.took.took.took)
def MS.two (m:MS) (b:Nat) (op x y:Int):MS:=m.aN.add b ⟨op,m.next,0,[x,y],⟨0⟩⟩
def binS (s:List Int) (m:MS) (b:Nat) (op:Int):MS:=
 let r1:=aG s m b
 let r2:=aG s r1.2 b
 if aF s r2.2.at_ 3=0 then
  (r2.2.took.took.constant b (IntKind.i32.wrap (IntKind.i64.wrap (aF s (r2.2.at_+1) 40-8)))).two b op r1.1 r2.2.next
 else r2.2.took.two b op r1.1 r2.1
def ltuS (s:List Int) (m:MS) (b:Nat):MS:=
 let r1:=aG s m b
 let r2:=aG s r1.2 b
 r2.2.two b 13 r1.1 r2.1
def divS (s:List Int) (m:MS) (b:Nat):MS:=
 let r1:=aG s m b
 let m2:=r1.2.took.constant b (IntKind.i32.wrap (aF s r1.2.at_ 12))
 if 0<aF s m2.at_ 3 then
  (m2.took.took.constant b (IntKind.i32.wrap (1+IntKind.i32.wrap (aF s (m2.at_+1) 12)))).two b 14 r1.1 m2.next
 else m2.took.two b 14 r1.1 r1.2.next
def tg (s:List Int) (m:MS) (b:Nat):MS:=
 let r1:=aG s m b
 let r2:=aG s r1.2 b
 r2.2.aN.aN.add b ⟨18,r2.2.next,r2.2.next+1,[r1.1,r2.1],⟨0⟩⟩
def fi (s:List Int) (b:Nat):Nat->List Int × MS->List Int × MS:=λ_ x=>(x.1++[(aG s x.2 b).1],(aG s x.2 b).2)
def mW (s:List Int) (m:MS) (b:Nat):MS:=
 let r:=up (fi s b) (aF s m.at_ 5).toNat ([],m.took)
 r.2.aN.took.add b ⟨17,r.2.next,0,r.1,⟨IntKind.i32.wrap (aF s r.2.at_ 5)⟩⟩
def iV (s:List Int) (m:MS) (b:Nat):Int × MS:=
 let m1:=m.took.constant b (IntKind.i32.wrap (aF s m.at_ 9))
 if aF s m1.at_ 3=0 then
  let r:=aG s m1.took b
  let m3:=(r.2.constant b 7).two b 5 r.1 r.2.next
  (m3.next,m3.two b 2 m.next (r.2.next+1))
 else(m.next,m1.took)
def offS (s:List Int) (m:MS):Int × MS:=
 if aF s (m.at_+1) 12=0 then(iX s m.took.took,m.took.took.took.took) else(IntKind.i32.wrap (aF s m.at_ 4),m.took.took)
def ik (s:List Int) (m:MS) (b:Nat) (store:Bool):MS:=
 let a:=iV s m b
 let i:=offS s a.2
 if store then(aG s i.2 b).2.add b ⟨16,0,0,[a.1,(aG s i.2 b).1],⟨i.1⟩⟩
 else i.2.aN.add b ⟨15,i.2.next,0,[a.1],⟨i.1⟩⟩
def opsL:List Int:=[2,2,3,4,5,6,7,8,9,10,12,11]
def aJ (s:List Int) (b:Nat) (m:MS):MS:=
 let k:=aF s m.at_ 20
 if k<12 then binS s m.took b (nth opsL k.toNat)
 else if k=12 then ltuS s m.took b
 else if k=13 then divS s m.took b
 else if k<16 then ik s m.took b (decide (k=15))
 else if k=16 then mW s m.took b
 else if k=17 then tg s m.took b
 else m.took.took.took.constant b (iX s m.took)
section
variable{b:Nat}
theorem A5{H:View}{n:Nat}{cs:List Value}(hc:iJ H ⟨b,0,Sk⟩ cs)(hl:cs.length=n):Un.ev H (.bV n) (ptz b)=Sj (.agg cs.toArray):=by have:=gG hc n 0 #[] S0;simp only[Un.ev,vP,OT];rw[this];simp[<-hl]
theorem Fs{H:View}{n:Nat}{cs:Array Value}{t:TypeId}(hb:H b=Sj (.cells cs t (0,0)))(hl:cs.size=n):Un.ev H (.bV n) (ptz b)=Sj (.agg cs):=by have:iJ H ⟨b,0,Sk⟩ cs.toList:=⟨cs,t,(0,0),rfl,hb,by simp[OK]⟩;simpa using A5 this (by simpa using hl)
theorem MkB.Lq{s:List Int}{M:Nat}{vs:Value}{W:View}{h:Heap}{o:Own}{m:MS}{vb vl:Value}{lb:List BlkM}(w:Owns W h o)(b:MkB M vs m o vb vl lb):
  ∃X:View,W.le X/\X.le (vw h)/\(∀i,i<=5->ak X ⟨M,i,Sk⟩=Sj ((mkL vs m.at_ m.ps vb m.next vl).getD i undef))/\SlRd X vb lb/\Av X vl/\∀i,i<m.blocks.length->Av X (nth lb i).phis.v/\Av X (nth lb i).ins.v:=by obtain⟨w5,s5⟩:=w.freeze (k:=(0,0)) (v:=Sn (Sj ⟨M,0,Sk⟩) 1 1) (l:=[RawN.mk (n:=5) (mkL vs m.at_ m.ps vb m.next vl)]) b.box;have hb2:o.upd (0,0) Sk (0,2)=it T.eZ vb lb:=b.blk;obtain⟨w6,s6⟩:=w5.freeze (k:=(0,2)) (v:=vb) (l:=lb) hb2;have s5:=s5.mono (jk (h:=h) (w5.av (0,2) _ hb2));refine⟨_,Sc (jk (h:=h) (w.av (0,0) _ b.box)) (jk (h:=h) (w5.av (0,2) _ hb2)),w6.wle,λi hi=>?_,s6,w6.av (0,1) _ b.live,λi hi=>⟨w6.av (1,i) _ (b.phis i hi),w6.av (2,i) _ (b.ins i hi)⟩⟩;have:=((s5.at (i:=0) Sa).part (RawN.p (n:=5) (o:=i) hi)).raw;simpa[slA]using this
variable {s:List Int} {M:Nat} {vs:Value} {W:View} {h:Heap} {o:Own} {m:MS}
theorem MkB.cell{vb vl:Value}{lb:List BlkM}(w:Owns W h o)(b:MkB M vs m o vb vl lb){i:Nat}(hi:i<=5):ak (vw h) ⟨M,i,Sk⟩=Sj ((mkL vs m.at_ m.ps vb m.next vl).getD i undef):=w.raw b.box hi
theorem MkB.gz{vb vl:Value}{lb:List BlkM}(bb:MkB M vs m o vb vl lb)(hb:b<m.blocks.length){x':BlkD}{y':BlkM}{o':Own}(hy:y'.term=x'.term)(h02:o' (0,2)=it T.eZ vb (lb.set b y'))(h1:o' (1,b)=it T.oG y'.phis.v x'.phis)(h2:o' (2,b)=it T.eA y'.ins.v x'.ins)(ho : ∀q:Key,q≠(0,2)->q≠(1,b)->q≠(2,b)->o' q=o q):MkB M vs { m with blocks:=m.blocks.set b x' } o' vb vl (lb.set b y'):=by
 have hbl:b<lb.length:=by rw[bb.len];exact hb
 refine⟨(ho _ Sa Sa Sa).trans bb.box,(ho _ Sa Sa Sa).trans bb.live,h02,by simp[bb.len],λj hj=>?_,λj hj=>?_,λj hj=>?_⟩;all_goals
  have hj:j<m.blocks.length:=by simpa using hj
  have hjl:j<lb.length:=by rw[bb.len];exact hj
  show _=_
  simp only[aX hj,aX hjl]
  by_cases e:b=j
  ·subst e
   simp only[if_true]
   assumption
  ·simp only[if_neg e]
   first
    | exact bb.term j hj
    | exact(ho _ Sa (λq=>e (by injection q with _ q;exact q.symm)) Sa).trans (bb.phis j hj)
    | exact(ho _ Sa Sa (λq=>e (by injection q with _ q;exact q.symm))).trans (bb.ins j hj)
theorem Mk.value(w:Mk s M vs W h o m)(h1:m.at_<=999999990)(hl:m.live.length<=1000000000):
  aw Ss 124 #[ptz M] h (λu h'=>(m.live.length=0/\u = .tuple #[Sf Sg 0,.bool Sr]/\h'=h)\/(m.live.length≠0/\u = .tuple #[Sf Sg (vy s m),.bool Sq]/\I64 (vy s m)/\∃o',Mk s M vs W h' o' m.took.took/\∀k:Key,3<=k.1->o' k=o k)):=by
 refine aj (args:=[ptz M]) follows Tryz.func124 E.gV S8 λK hK=>?_;obtain⟨vb,vl,lb,b⟩:=w.box;have c5:ak (vw h) ⟨M,5,Sk⟩=Sj vl:=b.cell w.own (i:=5) S1;have hsl:=w.own.now b.live;dsimp only[L.gV,lkF,lkG];refine ab λz hz=>?_;simp;subst hz;refine ab λz hz=>?_;by_cases h0:m.live.length=0
 ·have h0':m.live=[]:=OV h0;simp[c5,hsl.len,h0];exact hK _ _ (.inl ⟨h0,rfl,rfl⟩)
 have h0':¬(m.live=[]):=λe=>h0 (by rw[e];rfl);simp[c5,hsl.len,h0'];subst hz;refine ab λz hz=>?_;simp[c5,hsl.len];refine af R9 (w.take S0 (n:=(m.live.length:Int)) S0 S0) ?_;rintro _ h2 ⟨rfl,o2,w2,f2⟩;subst hz;refine ab λz hz=>?_;simp;refine af R9 (w2.take (show m.at_+1<=_ by omega) (n:=3) S1 S1) ?_;rintro _ h3 ⟨rfl,o3,w3,f3⟩;have hx:m.took.at_=m.at_+1:=rfl;rw[hx];have hf : ∀k:Key,3<=k.1->o3 k=o k:=λk hk=>(f3 k hk).trans (f2 k hk);have hv:vy s m=_:=vy.eq_1 s m;obtain⟨vb3,vl3,lb3,b3⟩:=w3.box;have c53:ak (vw h3) ⟨M,5,Sk⟩=Sj vl3:=b3.cell w3.own (i:=5) S1;have hsl3:SlRd (vw h3) vl3 m.live:=w3.own.now b3.live;obtain⟨r0,r1⟩:=bF (s:=s) (at_:=m.at_) (n:=(m.live.length:Int)) S0;generalize aF s m.at_ m.live.length=x at hv r0 r1;generalize aF s (m.at_+1) 3=q at hv;obtain⟨i,hi,hvi,hii⟩ : ∃i:Nat,i<m.live.length/\vy s m=nth m.live i/\(i:Int)=if q=0 then(m.live.length:Int)-1 else x:=by
  by_cases c:q=0
  ·rw[if_pos c]at hv ⊢;exact⟨m.live.length-1,by omega,hv,by omega⟩
  rw[if_neg c]at hv ⊢;exact⟨x.toNat,by omega,hv,by omega⟩
 have h64:IntKind.i64.wrap ((m.live.length:Int)-1)=(m.live.length:Int)-1:=bC S0 S0;have fin : ∀ρ:Env,ρ=[(0,ptz M),(2,Sf Sg 0),(3,.bool Sr),(4,Sf Sg i),(17,Sf Sg x),(19,Sf Sg q)]->LC.wp Ss z (dF [.tmp 2,.tmp 3] K) ρ h3:=by rintro _ rfl;subst hz;refine ab λz hz=>?_;simp(disch:=omega)[c53,hsl3.idx1 rfl,hsl3.int Sb];subst hz;simp;exact hK _ _ (.inr ⟨h0,by rw[hvi],by rw[hvi];exact hsl3.range hi,o3,w3,hf⟩)
 by_cases c:q=0
 ·rw[if_pos c]at hii;simp[c,c53,hsl3.len,h64];refine fin _ ?_;rw[hii,c]
 rw[if_neg c]at hii;simp[c];refine fin _ ?_;rw[hii]
theorem Mk.add (w:Mk s M vs W h o m) {b:Nat} {i:InsD} {v:Value} (hb:b<m.blocks.length) (hi:Rd W v i) (hn:(nth m.blocks b).ins.length<=100000000) (hl:m.live.length<=100000000) :
    aw Ss 89 #[ptz M,Sf Sg b,v] h (λu h'=>Nx s M vs W h' o (m.add b i)):=by
  refine aj (args:=[ptz M,Sf Sg b,v]) follows Tryz.func89 E.jj S8 λK hK=>?_
  obtain⟨vb,vl,lb,bb⟩:=w.box
  obtain⟨va,rfl,hir,hia⟩:=JM hi
  dsimp only[L.jj,lkF,lkG]
  refine ab λz hz=>?_
  simp
  refine fI rfl (hi.mono w.own.wle) λh1 e1 hle1 hs1 hat=>?_
  have w1:=w.own.ext hle1
  have hbx:(grow W h h1) h.size=Sj (.cells #[Sf Sg i.op,Sf Sg i.dst,Sf Sg i.two,va,Sf Si i.imm.v] T.eA (0,0)):=by
    rw[cU (OA _),e1];simp[Value.cells]
  have hi1:=hi.mono (bZ (h':=h1) w.own.wle)
  have src1:=w.src.mono (bZ (h':=h1) w.own.wle)
  have hW1:=bZ (h':=h1) w.own.wle
  clear hat e1
  have hld:=Fs hbx (n:=5) rfl
  generalize grow W h h1=W1 at w1 hld hi1 src1 hW1
  generalize h.size=B at hld
  subst hz
  refine ab λz hz=>?_
  obtain⟨X,hWX,hX,cX,sX,avl,avX⟩:=bb.Lq (s:=s) w1
  have c3:ak X ⟨M,3,Sk⟩=Sj vb:=cX 3 S1
  have hbl:b<lb.length:=by rw[bb.len];exact hb
  have a1:=(sX.at hbl).part BlkM.mB
  have hsv:=sX.bound
  have a2:ak X (((slA vb).add (b*6)).add 1)=Sj (nth lb b).ins.v:=by rw[ay hbl];exact a1.raw
  have hldX:Un.ev X (.bV 5) (ptz B)=Sj (.agg #[Sf Sg i.op,Sf Sg i.dst,Sf Sg i.two,va,Sf Si i.imm.v]):=by
    have:=dD (ρ:=λ_=>Sk) (e:=.un (.bV 5) (.con (ptz B))) hWX (by simpa using hld)
    simpa using this
  refine aO X hX ?_
  simp(disch:=omega)[c3,sX.idxn (N:=6) rfl,a2,hldX]
  refine nj (α:=InsD) (W:=W1) (d:=i) El.nH rfl hi1 λu5 h5 src hle5 hs5=>⟨Sc hX hle5,?_⟩
  refine(w1.ext' hle5).dB (k:=(2,b)) (α:=InsD) (v:=(nth lb b).ins.v) (l:=(nth m.blocks b).ins) (l2:=[i]) (bb.ins b hb) El.nH rfl rfl src S7 S7 λv6 h6 w6 m6=>⟨(m6.view (Sc hX hle5) (avX b hb).2).1,?_⟩
  have hv6:=(w6.cells (k:=(2,b)) Own.ao).2
  refine w6.qh (k:=(0,2)) (α:=BlkM) BlkM.mB (v:=vb) (l:=lb) (i:=b) (d:=⟨v6⟩) bb.blk R9 rfl rfl hbl (nz.2 ⟨rfl,hv6⟩) λh7 w7 _=>?_
  have b7:=bb.gz hb (x':={ nth m.blocks b with ins:=(nth m.blocks b).ins++[i] }) (y':={ lb[b]with ins:=⟨v6⟩ }) (o':=(o.upd (2,b) (it T.eA v6 ((nth m.blocks b).ins++[i]))).upd (0,2) (it T.eZ vb (lb.set b { lb[b]with ins:=⟨v6⟩ }))) (by rw[<-bb.term b hb,ay hbl]) Own.ao (by rw[<-ay hbl];exact bb.phis b hb) ((Own.aA Sa).trans Own.ao) (λq h1 h2 h3=>by rw[Own.aA h1,Own.aA h3])
  generalize hm7:({ m with blocks:=m.blocks.set b { nth m.blocks b with ins:=(nth m.blocks b).ins++[i] } }:MS)=m7 at b7
  have hadd:m.add b i={ m7 with live:=m.live++bg i }:=by rw[<-hm7];rfl
  have hl7:m7.live=m.live:=by rw[<-hm7]
  have hf7 : ∀k:Key,3<=k.1->((o.upd (2,b) (it T.eA v6 ((nth m.blocks b).ins++[i]))).upd (0,2) (it T.eZ vb (lb.set b { lb[b]with ins:=⟨v6⟩ }))) k=o k:=λk hk=>by
    rw[Own.aA (by rintro rfl;simp at hk),Own.aA (by rintro rfl;simp at hk)]
  generalize (o.upd (2,b) (it T.eA v6 ((nth m.blocks b).ins++[i]))).upd (0,2) (it T.eZ vb (lb.set b { lb[b]with ins:=⟨v6⟩ }))=o7 at w7 b7 hf7
  generalize lb.set b { lb[b]with ins:=⟨v6⟩ }=lb7 at b7
  clear src avX m6
  subst hz
  refine ab λz hz=>?_
  have hld7:Un.ev (vw h7) (.bV 5) (ptz B)=Sj (.agg #[Sf Sg i.op,Sf Sg i.dst,Sf Sg i.two,va,Sf Si i.imm.v]):=by
    have:=dD (ρ:=λ_=>Sk) (e:=.un (.bV 5) (.con (ptz B))) w7.wle (by simpa using hld)
    simpa using this
  simp[hld7]
  refine af R9 (pO (hi1.mono w7.wle)) ?_
  rintro u8 h8 ⟨hle8,hu8,-⟩
  have w8:=w7.ext hle8
  have hu8:SlRd (grow W1 h7 h8) u8 (bg i):=hu8.mono (xt (OA _) Sb)
  have hW8:=bZ (h':=h8) w7.wle
  generalize grow W1 h7 h8=W8 at w8 hu8 hW8
  subst hz
  have c58:ak (vw h8) ⟨M,5,Sk⟩=Sj vl:=b7.cell w8 (i:=5) S1
  have hmk:(bg i).length<=2:=by
                                         unfold bg;repeat' split
                                         all_goals simp
  simp[c58]
  refine w8.dB (k:=(0,1)) (α:=Int) (v:=vl) (l:=m.live) (l2:=bg i) (by rw[<-hl7];exact b7.live) El.aV rfl rfl (hu8.src w8.wle) S0 S0 λv9 h9 w9 m9=>?_
  have hv9:=(w9.cells (k:=(0,1)) Own.ao).2
  have hbx9:(o7.upd (0,1) (it T.int v9 (m.live++bg i))) (0,0)=bx T.bj M (RawN.mk (n:=5) (mkL vs m7.at_ m7.ps vb m7.next vl)):=b7.box
  refine w9.dp (k:=(0,0)) (n:=5) (i:=5) (e:=T.bj) (B:=M) (l:=mkL vs m7.at_ m7.ps vb m7.next vl) hbx9 S1 R9 rfl rfl hv9 λh10 w10 _=>?_
  refine hK _ _ ⟨W8,_,Sc hW1 hW8,⟨w10,src1.mono hW8,vb,v9,lb7,?_⟩,λk hk=>?_⟩
  · rw[hadd]
    exact⟨rfl,rfl,b7.blk,b7.len,b7.term,b7.phis,b7.ins⟩
  · rw[Own.aA (by rintro rfl;simp at hk),Own.aA (by rintro rfl;simp at hk)]
    exact hf7 k hk
end
section
structure MS.ok (c:Nat) (m:MS):Prop where
 at_:m.at_<=c
 n0:0<=m.next
 next:m.next<=c
 live:m.live.length<=c
 ins : ∀i,(nth m.blocks i).ins.length<=c
theorem MS.ok.mono{c d:Nat}{m:MS}(h:m.ok c)(hd:c<=d):m.ok d:=
 ⟨by have:=h.at_;omega,h.n0,by have:=h.next;omega,by have:=h.live;omega,λi=>by have:=h.ins i;omega⟩
theorem MS.ok.took {c:Nat} {m:MS} (h:m.ok c):m.took.ok (c+1):=
 ⟨by have:=h.at_;show m.at_+1<=_;omega,h.n0,by have:=h.next;show m.next<=_;omega,by have:=h.live;show m.live.length<=_;omega,λi=>by have:=h.ins i;show(nth m.blocks i).ins.length<=_;omega⟩
theorem MS.ok.aN {c:Nat} {m:MS} (h:m.ok c):m.aN.ok (c+1):=
 ⟨by have:=h.at_;show m.at_<=_;omega,by have:=h.n0;show 0<=m.next+1;omega,by have:=h.next;show m.next+1<=_;omega,by have:=h.live;show m.live.length<=_;omega,λi=>by have:=h.ins i;show(nth m.blocks i).ins.length<=_;omega⟩
theorem FU{i:InsD}:(bg i).length<=2:=by
 unfold bg;repeat' split
 all_goals simp
theorem MS.ok.add {c b:Nat} {m:MS} {i:InsD} (h:m.ok c):(m.add b i).ok (c+2):=by
 refine⟨by have:=h.at_;show m.at_<=_;omega,h.n0,by have:=h.next;show m.next<=_;omega,?_,λj=>?_⟩
 ·have:=h.live;have:=FU (i:=i);show(m.live++bg i).length<=_;rw[OI];omega
 show(nth (m.blocks.set b _) j).ins.length<=_;have hj:=h.ins j;rcases OD j m.blocks.length with hl | hl
 ·rw[aX hl];split
  ·rename_i e;subst e;rw[OI,OW];omega
  omega
 rw[bz (by simpa using hl)];rw[bz hl]at hj;omega
theorem MS.ok.constant {c b:Nat} {m:MS} {n:Int} (h:m.ok c):(m.constant b n).ok (c+3):=h.aN.add
theorem MS.ok.two {c b:Nat} {m:MS} {op x y:Int} (h:m.ok c):(m.two b op x y).ok (c+3):=h.aN.add
variable {s:List Int} {M:Nat} {vs:Value} {W:View} {h:Heap} {o:Own} {m:MS}
theorem MS.ok.aG {c b:Nat} (h:m.ok c):(aG s m b).2.ok (c+10):=by
 unfold Go.Proofs.YtnfiilgdjpdlkaaGreatDoor.aG;repeat' split
 ·exact(h.took.took.constant).mono S0
 ·exact(h.took.took.took.took.took.constant).mono S0
 exact(h.took.took.took).mono S0
variable{b:Nat}
theorem kP{i:InsD}:(m.add b i).blocks.length=m.blocks.length:=by simp[MS.add]
theorem dy:(aG s m b).2.blocks.length=m.blocks.length:=by
 unfold aG;repeat' split
 all_goals simp[D2,MS.constant,kP,MS.took,MS.aN]
theorem Mk.constant (w:Mk s M vs W h o m) {b c:Nat} {n:Int} (hb:b<m.blocks.length) (hm:m.ok c) (hc:c<=1000000) (hn:-2147483648<=n/\n<=2147483647) :
  aw Ss 58 #[ptz M,Sf Sg b,Sf Si n] h (λu h'=>u = Sf Sg m.next/\Nx s M vs W h' o (m.constant b n)):=by refine aj (args:=[ptz M,Sf Sg b,Sf Si n]) follows Tryz.func58 E.fA S8 λK hK=>?_;have q1:=hm.next;have q0:=hm.n0;dsimp only[L.fA,lkF,lkG];refine ab λz hz=>?_;simp;subst hz;refine ab λz hz=>?_;simp;refine af R9 (w.fresh q0 S0) ?_;rintro _ h2 ⟨rfl,o2,w2,f2⟩;subst hz;refine ab λz hz=>?_;simp;refine az (z:=zz5) (places:=zpa) (vs:=[(0,Sf Sg 1),(1,Sf Sg m.next),(4,Sf Si n)]) (cs:=#[Sf Sg 1,Sf Sg m.next,Sf Sg 0,Sn Sk 0 0,Sf Si n]) R9 R9 Sa R9 ?_;have hm2:=hm.aN;refine af R9 (w2.add (i:=conD m.next n) hb (AD (imm:=⟨n⟩) ⟨⟨S1,S1⟩,S4,⟨S1,S1⟩,hn⟩ aQ) (by have:=hm2.ins b;omega) (by have:=hm2.live;omega)) ?_;rintro u3 h3 n3;subst hz;simp;exact hK _ _ ⟨rfl,n3.trans Sb f2⟩
theorem Ej(w:Mk s M vs W h o m){c:Nat}(hb:b<m.blocks.length)(hm:m.ok c)(hc:c<=999990):
  aw Ss 88 #[ptz M,Sf Sg b] h (λu h'=>u = Sf Sg (aG s m b).1/\I64 (aG s m b).1/\Nx s M vs W h' o (aG s m b).2):=by
 refine aj (args:=[ptz M,Sf Sg b]) follows Tryz.func88 E.iR S8 λK hK=>?_;have qa:=hm.at_;have ql:=hm.live;have hsd:aG s m b=_:=aG.eq_1 s m b;dsimp only[L.iR,lkF,lkG];refine ab λz hz=>?_;simp;subst hz;refine ab λz hz=>?_;simp;refine af R9 (w.value S0 S0) ?_;rintro u h2 hu;have con : ∀{m2:MS} {o2:Own} {h2:Heap} {ρ:Env} {z:LC},Mk s M vs W h2 o2 m2->(∀k:Key,3<=k.1->o2 k=o k)->m2.ok (c+3)->b<m2.blocks.length->aG s m b=(m2.next,D2 s m2 b)->Lft.look ρ 0=Sj (ptz M)->Lft.look ρ 1=Sj (Sf Sg b)->
   LC.wp Ss (.seq (.reg Sr (.loud [19,20,21] [(19,(.tmp 0)),(20,(.tmp 1))] [(21,(.tmp 0))] Sk [] Sr (.call ⟨.value (.func 59),#[(.tmp 21)],#[T.rn]⟩) 21 (Sj 22) Sq
   (.loud [] [] [(19,(.tmp 19)),(20,(.tmp 20)),(22,(.tmp 22))] Sk [] Sr (.call ⟨.value (.func 58),#[(.tmp 19),(.tmp 20),(.tmp 22)],#[T.rn,3,21]⟩) 3 (Sj 23) Sq
    (.fin [4] [(4,(.tmp 23))] [])))) .ret) (fj (LC.wp Ss z (dF [.tmp 4] K)) (dF [.tmp 4] K)) ρ h2:=by intro m2 o2 h2 ρ z w2 f2 k2 b2 e2 r0 r1;refine ab λy hy=>?_;simp[r0,r1];refine af R9 (w2.word (by have:=k2.at_;omega)) ?_;rintro _ h3 ⟨rfl,o3,w3,f3⟩;simp[ag,ah,r0,r1];refine af R9 (w3.constant (n:=iX s m2) b2 k2.took.took S0 qD) ?_;rintro _ h4 ⟨rfl,n4⟩;subst hy;simp[ag,ah];refine hK _ _ ⟨by rw[e2];rfl,by rw[e2];have:=k2.n0;have:=k2.next;exact⟨by show _<=m2.next;omega,by show m2.next<=_;omega⟩,?_⟩;rw[e2];exact n4.trans Sb λk hk=>(f3 k hk).trans (f2 k hk)
 rcases hu with⟨h0,rfl,rfl⟩ | ⟨h0,rfl,hi64,o2,w2,f2⟩
 ·rw[if_pos h0]at hsd;simp;subst hz;refine ab λz hz=>?_;refine ab λy hy=>?_;simp;subst hy;refine aY Sa ?_;exact con w (λ_ _=>rfl) (hm.mono S0) hb hsd (by simp[ag,ah]) (by simp[ag,ah])
 rw[if_neg h0]at hsd;simp;subst hz;refine ab λz hz=>?_;refine ab λy hy=>?_;simp;have k2:=hm.took.took;refine af R9 (w2.take (by have:=k2.at_;omega) (n:=9) S1 S1) ?_;rintro _ h3 ⟨rfl,o3,w3,f3⟩;have hx:m.took.took.at_=m.at_+2:=rfl;rw[hx];simp;subst hy;by_cases c9:aF s (m.at_+2) 9=0
 ·rw[if_pos c9]at hsd;refine aY (by simp[c9]) ?_;exact con w3 (λk hk=>(f3 k hk).trans (f2 k hk)) k2.took hb hsd (by simp[ag,ah]) (by simp[ag,ah])
 rw[if_neg c9]at hsd;refine bf (by simp[c9]) ?_;simp;subst hz;simp;refine hK _ _ ⟨by rw[hsd],by rw[hsd];exact hi64,?_⟩;rw[hsd];exact w3.nx.trans Sb λk hk=>(f3 k hk).trans (f2 k hk)
end
def Nz (s:List Int) (M:Nat) (vs:Value) (W0:View) (h:Heap) (o0:Own) (m:MS) (u:Value) (ds:List Int):Prop:=∃W o,W0.le W/\Mk s M vs W h o m/\(∀k:Key,3<=k.1->o k=o0 k)/\SlRd W u ds
section
variable {s:List Int} {M:Nat} {vs:Value} {W0:View} {h:Heap} {o0:Own} {m:MS} {u:Value} {ds:List Int}
theorem Nx.z(n:Nx s M vs W0 h o0 m):Nz s M vs W0 h o0 m (Sn Sk 0 0) []:=by obtain⟨W,o,h1,h2,h3⟩:=n;exact⟨W,o,h1,h2,h3,aQ⟩
theorem Nz.x(n:Nz s M vs W0 h o0 m u ds):Nx s M vs W0 h o0 m:=by obtain⟨W,o,h1,h2,h3,_⟩:=n;exact⟨W,o,h1,h2,h3⟩
theorem Nz.call{f:FuncId}{args:Array Value}{m':MS}{U:Value->Prop}(hc : ∀{W o},Mk s M vs W h o m->aw Ss f args h (λu h'=>U u/\Nx s M vs W h' o m'))(n:Nz s M vs W0 h o0 m u ds):
  aw Ss f args h (λv h'=>U v/\Nz s M vs W0 h' o0 m' u ds):=by obtain⟨W,o,h1,h2,h3,h4⟩:=n;refine(hc h2).mono ?_;rintro v h' ⟨hU,W',o',g1,g2,g3⟩;exact⟨hU,W',o',Sc h1 g1,g2,λk hk=>(g3 k hk).trans (h3 k hk),h4.mono g1⟩
theorem eU(n:Nz s M vs W0 h o0 m u ds){c:Nat}(hm:m.ok c)(hc:c<=1000000){k:Int}(hk:0<k)(hk2:k<=1000000000):
  aw Ss 34 #[ptz M,Sf Sg k] h (λv h'=>v = Sf Sg (aF s m.at_ k)/\Nz s M vs W0 h' o0 m.took u ds):=
 n.call (U:=λv=>v=_) λw=>((w.take (by have:=hm.at_;omega) hk hk2).mono λv h' ⟨e,o',w',f'⟩=>⟨e,w'.nx.trans Sb f'⟩)
theorem gM(n:Nz s M vs W0 h o0 m u ds){c:Nat}(hm:m.ok c)(hc:c<=1000000):
  aw Ss 52 #[ptz M] h (λv h'=>v = Sf Sg m.next/\Nz s M vs W0 h' o0 m.aN u ds):=
 n.call (U:=λv=>v=_) λw=>((w.fresh hm.n0 (by have:=hm.next;omega)).mono λv h' ⟨e,o',w',f'⟩=>⟨e,w'.nx.trans Sb f'⟩)
theorem Ae(n:Nz s M vs W0 h o0 m u ds){c:Nat}(hm:m.ok c)(hc:c<=1000000):
  aw Ss 59 #[ptz M] h (λv h'=>v = Sf Si (iX s m)/\Nz s M vs W0 h' o0 m.took.took u ds):=
 n.call (U:=λv=>v=_) λw=>((w.word (by have:=hm.at_;omega)).mono λv h' ⟨e,o',w',f'⟩=>⟨e,w'.nx.trans Sb f'⟩)
variable{b:Nat}
theorem gn(n:Nz s M vs W0 h o0 m u ds){c:Nat}(hb:b<m.blocks.length)(hm:m.ok c)(hc:c<=1000000){k:Int}(hk:-2147483648<=k/\k<=2147483647):
  aw Ss 58 #[ptz M,Sf Sg b,Sf Si k] h (λv h'=>v = Sf Sg m.next/\Nz s M vs W0 h' o0 (m.constant b k) u ds):=
 n.call (U:=λv=>v=_) λw=>w.constant hb hm hc hk
theorem iK(n:Nz s M vs W0 h o0 m u ds){c:Nat}(hb:b<m.blocks.length)(hm:m.ok c)(hc:c<=999990):
  aw Ss 88 #[ptz M,Sf Sg b] h (λv h'=>(v = Sf Sg (aG s m b).1/\I64 (aG s m b).1)/\Nz s M vs W0 h' o0 (aG s m b).2 u ds):=
 n.call (U:=λv=>v=_/\_) λw=>(Ej w hb hm hc).mono λv h' ⟨e1,e2,e3⟩=>⟨⟨e1,e2⟩,e3⟩
variable{op:Int}
theorem lk(n:Nz s M vs W0 h o0 m u ds){c:Nat}{d two imm:Int}(hb:b<m.blocks.length)(hm:m.ok c)(hc:c<=1000000)(h1:I64 op)(h2:I64 d)(h3:I64 two)(h4:-2147483648<=imm/\imm<=2147483647):
  aw Ss 89 #[ptz M,Sf Sg b,.agg #[Sf Sg op,Sf Sg d,Sf Sg two,u,Sf Si imm]] h (λv h'=>Nx s M vs W0 h' o0 (m.add b ⟨op,d,two,ds,⟨imm⟩⟩)):=by obtain⟨W,o,g1,g2,g3,g4⟩:=n;refine(g2.add (i:=⟨op,d,two,ds,⟨imm⟩⟩) hb (AD (imm:=⟨imm⟩) ⟨h1,h2,h3,h4⟩ g4) (by have:=hm.ins b;omega) (by have:=hm.live;omega)).mono ?_;rintro v h' n';exact n'.trans g1 g3
theorem Nz.lit{po:OP}(n:Nz s M vs W0 h o0 m u ds){ty:TypeId}{ps:Array (Nat × Operand)}{us:List (Nat × Value)}{ls:List Int}{k:Nat}{K:Value->Heap->Prop}(hp:ps.map (λp=>(p.1,asg us p.2))=(((ls.map λx=>Sf Sg x).zipIdx 0).map λp=>(p.2,p.1)).toArray)(hr : ∀x∈ls,I64 x)(hn:ls.length=k)(hb:k<=16777216)(hk : ∀a n c h',(vw h).le (vw h')->Nz s M vs W0 h' o0 m (.slice a n c) ls->K (.slice a n c) h'):@Lft.step po Ss (.buildSlice T.aV k ps) ty us h K:=by
 obtain⟨W,o,g1,g2,g3,g4⟩:=n;have hra : ∀l:List Int,(∀x∈l,I64 x)->pG W (l.map λx=>Sf Sg x) l:=by
  intro l;induction l with
  | nil=>intro _;trivial
  | cons a l ih=>intro hl;exact⟨bO.2 ⟨rfl,hl a Sa⟩,ih λx hx=>hl x (by simp[hx])⟩
 refine lH (X:=W) (ds:=ls) (vs:=ls.map λx=>Sf Sg x) rfl El.aV hp (hra ls hr) g2.own.wle hn hb λv h' hle hs hv _=>?_;have hs2:=hv _ (bZ g2.own.wle) (cU (OA _));obtain⟨a,cp,rfl,_⟩:=id hs2;refine hk _ _ _ h' hle ?_;exact⟨_,o,Sc g1 (bZ g2.own.wle),⟨g2.own.ext hle,g2.src.mono (bZ g2.own.wle),g2.box⟩,g3,hs2⟩
end
theorem MS.ok.jV{c:Nat}{m:MS}(h:m.ok c)(hc:c<=1000000):I64 m.next:=by have:=h.n0;have:=h.next;constructor<;>omega
variable{b:Nat}
theorem dw{m:MS}{n:Int}:(m.constant b n).blocks.length=m.blocks.length:=kP
variable{op:Int}
theorem oc{m:MS}{x y:Int}:(m.two b op x y).blocks.length=m.blocks.length:=kP
theorem i64c{x:Int}(h0:-1000<=x:=by decide)(h1:x<=1000:=by decide):I64 x:=S4
theorem FJ{s:List Int}{M:Nat}{vs:Value}{W0:View}{h:Heap}{o0:Own}{m:MS}(n:Nx s M vs W0 h o0 m){c:Nat}{store:Bool}(hb:b<m.blocks.length)(hm:m.ok c)(hc:c<=900000):
  aw Ss 90 #[ptz M,Sf Sg b,.bool store] h (λv h'=>Nx s M vs W0 h' o0 (ik s m b store)):=by
 refine aj (args:=[ptz M,Sf Sg b,.bool store]) follows Tryz.func90 E.gx S8 λK hK=>?_;dsimp only[L.gx,lkF,lkG];have n:=n.z;have hmm:ik s m b store=_:=ik.eq_1 s m b store;refine ab λz hz=>?_;simp;refine af R9 (eU n hm S0 (k:=9) S1 S1) ?_;rintro _ h1 ⟨rfl,n⟩;simp;refine af R9 (gn n (b:=b) hb hm.took S0 (k:=IntKind.i32.wrap (aF s m.at_ 9)) mO) ?_;rintro _ h2 ⟨rfl,n⟩;have q:=hm.took.constant (b:=b) (n:=IntKind.i32.wrap (aF s m.at_ 9));have hb1:b<(m.took.constant b (IntKind.i32.wrap (aF s m.at_ 9))).blocks.length:=by rw[dw];exact hb
 obtain⟨m1,hm1⟩ : ∃m1,m1=m.took.constant b (IntKind.i32.wrap (aF s m.at_ 9)):=⟨_,rfl⟩;have had:iV s m b=_:=iV.eq_1 s m b;rw[<-hm1]at n q hb1;simp only[<-hm1]at had;have hnx:I64 m.next:=hm.jV S0;have hnt:m.took.next=m.next:=rfl;rw[hnt];generalize m.next=a0 at had hnx;clear hm1 hm hnt;subst hz;refine ab λz hz=>?_;have fin : ∀(a:Int) (m2:MS) (h':Heap) (ρ:Env),iV s m b=(a,m2)->I64 a->m2.ok (c+30)->b<m2.blocks.length->Nz s M vs W0 h' o0 m2 (Sn Sk 0 0) []->Lft.look ρ 0=Sj (ptz M)->Lft.look ρ 1=Sj (Sf Sg b)->Lft.look ρ 2=Sj (.bool store)->Lft.look ρ 6=Sj (Sf Sg a)->LC.wp Ss z (dF [] K) ρ h':=by
  intro a m2 h' ρ e ha q hb n r0 r1 r2 r6;subst hz;simp only[e]at hmm;refine ab λz hz=>?_;simp[ag,ah,r0,r1,r2,r6];refine af R9 (eU n q S0 (k:=4) S1 S1) ?_;rintro _ h1 ⟨rfl,n⟩;simp[ag,ah,r0,r1,r2,r6];subst hz;refine ab λz hz=>?_;have fin2 : ∀(i:Int) (m3:MS) (h':Heap) (ρ:Env),offS s m2=(i,m3)->(-2147483648<=i/\i<=2147483647)->m3.ok (c+40)->b<m3.blocks.length->Nz s M vs W0 h' o0 m3 (Sn Sk 0 0) []->Lft.look ρ 0=Sj (ptz M)->Lft.look ρ 1=Sj (Sf Sg b)->Lft.look ρ 2=Sj (.bool store)->Lft.look ρ 6=Sj (Sf Sg a)->Lft.look ρ 11=Sj (Sf Si i)->LC.wp Ss z (dF [] K) ρ h':=by
   intro i m3 h' ρ e hi q hb n r0 r1 r2 r6 r11;subst hz;simp only[e]at hmm;refine ab λz hz=>?_;simp[ag,ah,r0,r1,r2,r6,r11];subst hz;cases store with
   | true=>rw[if_pos rfl]at hmm;refine aY (by simp[ag,ah,r2]) ?_;simp[ag,ah,r0,r1,r2,r6,r11];refine af R9 (iK n hb q S0) ?_;rintro _ h1 ⟨⟨rfl,hs⟩,n⟩;refine n.lit (ls:=[a,(aG s m3 b).1]) Sa (by simp[ha,hs]) rfl S1 λua un uc h2 _ n=>?_;refine az (z:=zz5) (places:=zpa) (vs:=[(0,Sf Sg 16),(3,.slice ua un uc),(4,Sf Si i)]) (cs:=#[Sf Sg 16,Sf Sg 0,Sf Sg 0,.slice ua un uc,Sf Si i]) R9 R9 Sa R9 ?_;refine af R9 (lk n (b:=b) (by rw[dy];exact hb) (q.aG (b:=b)) S0 i64c i64c i64c hi) ?_;rintro _ h3 n;refine hK _ _ ?_;rw[hmm];exact n
   | false=>rw[if_neg Sa]at hmm;refine bf (by simp[ag,ah,r2]) ?_;simp[ag,ah,r0,r1,r2,r6,r11];refine af R9 (gM n q S0) ?_;rintro _ h1 ⟨rfl,n⟩;refine n.lit (ls:=[a]) Sa (by simp[ha]) rfl S1 λua un uc h2 _ n=>?_;refine az (z:=zz5) (places:=zpa) (vs:=[(0,Sf Sg 15),(1,Sf Sg m3.next),(3,.slice ua un uc),(4,Sf Si i)]) (cs:=#[Sf Sg 15,Sf Sg m3.next,Sf Sg 0,.slice ua un uc,Sf Si i]) R9 R9 Sa R9 ?_;refine af R9 (lk n (b:=b) hb q.aN S0 i64c (q.jV S0) i64c hi) ?_;rintro _ h3 n;refine hK _ _ ?_;rw[hmm];exact n
  have hof:offS s m2=_:=offS.eq_1 s m2;refine ab λy hy=>?_;simp[ag,ah,r0,r1,r2,r6];refine af R9 (eU n q.took S0 (k:=12) S1 S1) ?_;rintro _ h2 ⟨rfl,n⟩;have hx:m2.took.at_=m2.at_+1:=rfl;rw[hx];simp[ag,ah,r0,r1,r2,r6];subst hy;by_cases c12:aF s (m2.at_+1) 12=0
  ·rw[if_pos c12]at hof;refine aY (by simp[ag,ah,c12]) ?_;simp[ag,ah,r0,r1,r2,r6];refine af R9 (Ae n q.took.took S0) ?_;rintro _ h3 ⟨rfl,n⟩;exact fin2 _ _ h3 _ hof qD (q.took.took.took.took.mono S0) hb n (by simp[ag,ah,r0]) (by simp[ag,ah,r1]) (by simp[ag,ah,r2]) (by simp[ag,ah,r6]) (by simp[ag,ah])
  rw[if_neg c12]at hof;refine bf (by simp[ag,ah,c12]) ?_;simp[ag,ah,r0,r1,r2,r6];exact fin2 _ _ h2 _ hof mO (q.took.took.mono S0) hb n (by simp[ag,ah,r0]) (by simp[ag,ah,r1]) (by simp[ag,ah,r2]) (by simp[ag,ah,r6]) (by simp[ag,ah])
 refine ab λy hy=>?_;simp;refine af R9 (eU n q S0 (k:=3) S1 S1) ?_;rintro _ h3 ⟨rfl,n⟩;simp;subst hy;by_cases c3:aF s m1.at_ 3=0
 ·rw[if_pos c3]at had;refine aY (by simp[c3]) ?_;refine ab λy hy=>?_;simp;refine af R9 (iK n (b:=b) hb1 q.took S0) ?_;rintro _ h4 ⟨⟨rfl,hs⟩,n⟩;have q:=q.took.aG (s:=s) (b:=b);have hb2:b<(aG s m1.took b).2.blocks.length:=by rw[dy];exact hb1
  generalize aG s m1.took b=r at had hs n q hb2;subst hy;refine ab λy hy=>?_;simp;refine af R9 (gn n (b:=b) hb2 q S0 (k:=7) S1) ?_;rintro _ h5 ⟨rfl,n⟩;subst hy;refine ab λy hy=>?_;simp;have q5:=q.constant (b:=b) (n:=7);refine af R9 (gM n q5 S0) ?_;rintro _ h6 ⟨rfl,n⟩;have hn5:(r.2.constant b 7).next=r.2.next+1:=rfl;rw[hn5];subst hy;refine ab λy hy=>?_;simp;have i5:=q5.jV S0;rw[hn5]at i5;refine n.lit (ls:=[r.1,r.2.next]) Sa (by simp[hs,q.jV (by omega:c+1+3+1+10<=1000000)]) rfl S1 λua un uc h7 _ n=>?_;refine az (z:=zz5) (places:=zpa) (vs:=[(0,Sf Sg 5),(1,Sf Sg (r.2.next+1)),(3,.slice ua un uc)]) (cs:=#[Sf Sg 5,Sf Sg (r.2.next+1),Sf Sg 0,.slice ua un uc,Sf Si 0]) R9 R9 Sa R9 ?_;refine af R9 (lk n (b:=b) (imm:=0) (by rw[show(r.2.constant b 7).aN.blocks=(r.2.constant b 7).blocks from rfl,dw];exact hb2) q5.aN S0 i64c i5 i64c S1) ?_;rintro _ h8 n;have n:Nx s M vs W0 h8 o0 ((r.2.constant b 7).two b 5 r.1 r.2.next):=n;have q6:=q5.two (b:=b) (op:=5) (x:=r.1) (y:=r.2.next);have hb3:b<((r.2.constant b 7).two b 5 r.1 r.2.next).blocks.length:=by rw[oc,dw];exact hb2
  generalize (r.2.constant b 7).two b 5 r.1 r.2.next=m3 at had n q6 hb3;have n:=n.z;subst hy;refine ab λy hy=>?_;simp;refine af R9 (gM n q6 S0) ?_;rintro _ h9 ⟨rfl,n⟩;subst hy;refine ab λy hy=>?_;simp;refine n.lit (ls:=[a0,r.2.next+1]) Sa (by simp[hnx,i5]) rfl S1 λua2 un2 uc2 h10 _ n=>?_;refine az (z:=zz5) (places:=zpa) (vs:=[(0,Sf Sg 2),(1,Sf Sg m3.next),(3,.slice ua2 un2 uc2)]) (cs:=#[Sf Sg 2,Sf Sg m3.next,Sf Sg 0,.slice ua2 un2 uc2,Sf Si 0]) R9 R9 Sa R9 ?_;refine af R9 (lk n (b:=b) (imm:=0) hb3 q6.aN S0 i64c (q6.jV S0) i64c S1) ?_;rintro _ h11 n;subst hy;simp;refine fin m3.next (m3.two b 2 a0 (r.2.next+1)) h11 _ had (q6.jV S0) (q6.two.mono S0) (by rw[oc];exact hb3) n.z ?_ ?_ ?_ ?_;all_goals simp
 rw[if_neg c3]at had;refine bf (by simp[c3]) ?_;simp;exact fin a0 m1.took h3 _ had hnx (q.took.mono S0) hb1 n Sa Sa Sa Sa
section
variable {s:List Int} {M:Nat} {vs:Value} {W0:View} {h:Heap} {o0:Own} {m:MS} {u:Value} {ds:List Int}
theorem Nz.le (n:Nz s M vs W0 h o0 m u ds):W0.le (vw h):=by obtain⟨W,o,h1,h2,_⟩:=n;exact Sc h1 h2.own.wle
theorem Nz.base(n:Nz s M vs W0 h o0 m u ds): ∃W o,Nz s M vs W h o m u ds/\SlRd W u ds/\∀{h' m' u' ds'},Nz s M vs W h' o m' u' ds'->Nz s M vs W0 h' o0 m' u' ds':=by obtain⟨W,o,h1,h2,h3,h4⟩:=n;refine⟨W,o,⟨W,o,View.le_refl _,h2,λ_ _=>rfl,h4⟩,h4,?_⟩;rintro h' m' u' ds' ⟨W',o',g1,g2,g3,g4⟩;exact⟨W',o',Sc h1 g1,g2,λk hk=>(g3 k hk).trans (h3 k hk),g4⟩
end
theorem HW{H:View}{B n:Nat}{l:List Int}{t:TypeId}(hb:H B=Sj (.cells (l.map λx=>Sf Sg x).toArray t (0,0)))(hn:l.length=n)(h1:0<n/\n<=1000)(hr : ∀x∈l,I64 x):SlRd H (Sn (Sj ⟨B,0,Sk⟩) n n) l:=by
 refine⟨Sj ⟨B,0,Sk⟩,n,by rw[hn],by omega,by omega,.inr ⟨⟨B,0,Sk⟩,rfl,rfl,λi hi=>?_⟩⟩;have e:(⟨B,0,Sk⟩:Addr).add (i*Rep.n Int)=⟨B,i,Sk⟩:=by show(⟨B,0,Sk⟩:Addr).add (i*1)=_;simp
 rw[e];refine⟨[Sf Sg l[i]],⟨_,t,(0,0),rfl,hb,?_⟩,(bO (v:=Sf Sg l[i]) (H:=H)).2 ⟨rfl,hr _ (PD hi)⟩ |> λq=>?_⟩
 ·show((l.map λx=>Sf Sg x).toArray.toList.drop i).take 1=_;rw[List.toList_toArray,O6 (by simpa using hi)];simp
 exact⟨rfl,hr _ (PD hi)⟩
theorem Gv: ∀x∈opsL,I64 x:=by
 intro x hx;have : ∀x∈opsL,0<=x/\x<=12:=by decide
 have:=this x hx;exact S4
theorem MkB.frame{M:Nat}{vs:Value}{m:MS}{o o':Own}{vb vl:Value}{lb:List BlkM}(b:MkB M vs m o vb vl lb)(hf : ∀k:Key,k.1<3->o' k=o k):MkB M vs m o' vb vl lb:=
 ⟨(hf _ S1).trans b.box,(hf _ S1).trans b.live,(hf _ S1).trans b.blk,b.len,b.term,λi hi=>(hf _ (by show 1<3;decide)).trans (b.phis i hi),λi hi=>(hf _ (by show 2<3;decide)).trans (b.ins i hi)⟩
theorem AU{s:List Int}{x:List Int × MS}: ∀k,(up (fi s b) k x).2.blocks.length=x.2.blocks.length:=by
 intro k;induction k with
 | zero=>rfl
 | succ k ih=>show(aG s (up (fi s b) k x).2 b).2.blocks.length=_;rw[dy,ih]
theorem DU{s:List Int}{c:Nat}{x:List Int × MS}(hx:x.2.ok c): ∀k,(up (fi s b) k x).2.ok (c+10*k)/\(up (fi s b) k x).1.length=x.1.length+k/\(up (fi s b) k x).2.blocks.length=x.2.blocks.length:=by
 intro k;induction k with
 | zero=>exact⟨hx,rfl,rfl⟩
 | succ k ih=>
  obtain⟨h1,h2,h3⟩:=ih;refine⟨(h1.aG).mono S0,?_,?_⟩
  ·show((up (fi s b) k x).1++[_]).length=_;rw[OI,h2,OW];omega
  show(aG s (up (fi s b) k x).2 b).2.blocks.length=_;rw[dy,h3]
theorem xI{s:List Int}{M:Nat}{vs:Value}{W0:View}{h:Heap}{o0:Own}{m:MS}(n:Nx s M vs W0 h o0 m){c:Nat}(hb:b<m.blocks.length)(hm:m.ok c)(hc:c<=800000)(hfree:o0 (9,0)=Sk):
  aw Ss 55 #[ptz M,Sf Sg b] h (λv h'=>Nx s M vs W0 h' o0 (aJ s b m)):=by
 refine aj (args:=[ptz M,Sf Sg b]) follows Tryz.func55 E.bh S8 λK hK=>?_;dsimp only[L.bh,lkF,lkG];have n:=n.z;have hmm:aJ s b m=_:=aJ.eq_1 s b m;refine ab λz hz=>?_;simp;refine af R9 (eU n hm S0 (k:=20) S1 S1) ?_;rintro _ h1 ⟨rfl,n⟩;obtain⟨k0,k1⟩:=bF (s:=s) (at_:=m.at_) (n:=20) S1;have q:=hm.took;have hb1:b<m.took.blocks.length:=hb;subst hz;generalize aF s m.at_ 20=k at hmm k0 k1;generalize hm1:m.took=m1 at hmm n q hb1;have hw:iX s m1=iX s m1:=rfl;simp only[aP];refine ab λz hz=>?_;simp;subst hz;by_cases c1:k<12
 ·rw[if_pos c1]at hmm;refine aY (by simp[c1]) ?_;obtain⟨kn,rfl⟩ : ∃kn:Nat,k=kn:=⟨k.toNat,by omega⟩;have hkn:kn<12:=by omega
  refine ab λz hz=>?_;simp;have hcs:(#[Sf Sg 2,Sf Sg 2,Sf Sg 3,Sf Sg 4,Sf Sg 5,Sf Sg 6,Sf Sg 7,Sf Sg 8,Sf Sg 9,Sf Sg 10,Sf Sg 12,Sf Sg 11]:Array Value)=(opsL.map λx=>Sf Sg x).toArray:=rfl;refine az (z:=zz11) (places:=[(0,1),(1,1),(2,1),(3,1),(4,1),(5,1),(6,1),(7,1),(8,1),(9,1),(10,1),(11,1)]) (vs:=[(0,Sf Sg 2),(1,Sf Sg 2),(2,Sf Sg 3),(3,Sf Sg 4),(4,Sf Sg 5),(5,Sf Sg 6),(6,Sf Sg 7),(7,Sf Sg 8),(8,Sf Sg 9),(9,Sf Sg 10),(10,Sf Sg 12),(11,Sf Sg 11)])
   (cs:=#[Sf Sg 2,Sf Sg 2,Sf Sg 3,Sf Sg 4,Sf Sg 5,Sf Sg 6,Sf Sg 7,Sf Sg 8,Sf Sg 9,Sf Sg 10,Sf Sg 12,Sf Sg 11]) R9 R9 Sa R9 ?_;refine gA (v:=.agg #[Sf Sg 2,Sf Sg 2,Sf Sg 3,Sf Sg 4,Sf Sg 5,Sf Sg 6,Sf Sg 7,Sf Sg 8,Sf Sg 9,Sf Sg 10,Sf Sg 12,Sf Sg 11]) (z:=.agg #[Sf Sg 0,Sf Sg 0,Sf Sg 0,Sf Sg 0,Sf Sg 0,Sf Sg 0,Sf Sg 0,Sf Sg 0,Sf Sg 0,Sf Sg 0,Sf Sg 0,Sf Sg 0]) (n:=12) R9 rfl R9 rfl S6 S3 S3 λh2 hle2 hs2 hb2=>?_
  have n:Nz s M vs W0 h2 o0 m1 (Sn (Sj ⟨h1.size,0,Sk⟩) 12 12) opsL:=by
   obtain⟨W,o,g1,g2,g3,g4⟩:=n;refine⟨_,o,Sc g1 (bZ g2.own.wle),⟨g2.own.ext hle2,g2.src.mono (bZ g2.own.wle),g2.box⟩,g3,?_⟩;have hg:grow W h1 h2 h1.size=Sj (.cells (opsL.map λx=>Sf Sg x).toArray T.IQ (0,0)):=by rw[cU (OA _),hb2];rfl
   exact HW hg rfl S1 Gv
  generalize h1.size=B at n;subst hz;refine ab λz hz=>?_;simp;refine af R9 (iK n hb1 q S0) ?_;rintro _ h3 ⟨⟨rfl,i2⟩,n⟩;have q:=q.aG (s:=s) (b:=b);have hb2:b<(aG s m1 b).2.blocks.length:=by rw[dy];exact hb1
  simp only[binS]at hmm;generalize aG s m1 b=r1 at hmm n q hb2 i2;subst hz;refine ab λz hz=>?_;simp;refine af R9 (iK n hb2 q S0) ?_;rintro _ h4 ⟨⟨rfl,i3⟩,n⟩;have q:=q.aG (s:=s) (b:=b);have hb3:b<(aG s r1.2 b).2.blocks.length:=by rw[dy];exact hb2
  generalize aG s r1.2 b=r2 at hmm n q hb3 i3;subst hz;refine ab λz hz=>?_;have fin : ∀(e:Int) (m3:MS) (h':Heap) (ρ:Env),aJ s b m=m3.two b (nth opsL kn) r1.1 e->I64 e->m3.ok (c+60)->b<m3.blocks.length->Nz s M vs W0 h' o0 m3 (Sn (Sj ⟨B,0,Sk⟩) 12 12) opsL->Lft.look ρ 0=Sj (ptz M)->Lft.look ρ 1=Sj (Sf Sg b)->Lft.look ρ 4=Sj (Sf Sg kn)->Lft.look ρ 5=Sj (ptz B)->Lft.look ρ 6=Sj (Sf Sg r1.1)->Lft.look ρ 7=Sj (Sf Sg e)->LC.wp Ss z (ff 0 (dF [] K)) ρ h':=by
   intro e m3 h' ρ hmm ie q hb n r0 r1' r4 r5 r6 r7;subst hz;obtain⟨W,o,n,sl,back⟩:=n.base;have iop:=sl.range (i:=kn) (by show kn<12;omega);have hop:ak W ⟨B,kn,Sk⟩=Sj (Sf Sg (nth opsL kn)):=by have:=sl.int (View.le_refl W) (i:=kn) (by show kn<12;omega);simpa[slA]using this
   have hix:Bn.ev (.aidx 12 1) (ptz B) (Sf Sg kn)=Sj (Sp (Sj ⟨B,kn,Sk⟩)):=by simp only[Bn.ev,vP,vI,OT];rw[if_pos S4];simp
   generalize nth opsL kn=op at hmm iop hop;refine aO W n.le ?_;simp[ag,ah,r0,r1',r4,r5,r6,r7,hix,hop];constructor
   ·refine af R9 (gM n q S0) ?_;rintro _ h4 ⟨rfl,n⟩;refine⟨n.le,?_⟩;refine n.lit (ls:=[r1.1,e]) Sa (by simp[i2,ie]) rfl S1 λua un uc h5 _ n=>⟨n.le,?_⟩;refine az (z:=zz5) (places:=zpa) (vs:=[(0,Sf Sg op),(1,Sf Sg m3.next),(3,.slice ua un uc)]) (cs:=#[Sf Sg op,Sf Sg m3.next,Sf Sg 0,.slice ua un uc,Sf Si 0]) R9 R9 Sa R9 ?_;refine af R9 (lk n (b:=b) hb q.aN S0 iop (q.jV S0) i64c S1) ?_;rintro _ h6 n;exact hK _ _ (by rw[hmm];exact(back n.z).x)
   refine n.lit (ls:=[r1.1,e]) Sa (by simp[i2,ie]) rfl S1 λua un uc h5 _ n=>⟨n.le,?_⟩;refine af R9 (gM n q S0) ?_;rintro _ h4 ⟨rfl,n⟩;refine⟨n.le,?_⟩;refine az (z:=zz5) (places:=zpa) (vs:=[(0,Sf Sg op),(1,Sf Sg m3.next),(3,.slice ua un uc)]) (cs:=#[Sf Sg op,Sf Sg m3.next,Sf Sg 0,.slice ua un uc,Sf Si 0]) R9 R9 Sa R9 ?_;refine af R9 (lk n (b:=b) hb q.aN S0 iop (q.jV S0) i64c S1) ?_;rintro _ h6 n;exact hK _ _ (by rw[hmm];exact(back n.z).x)
  refine ab λy hy=>?_;simp;refine af R9 (eU n q S0 (k:=3) S1 S1) ?_;rintro _ h5 ⟨rfl,n⟩;simp;subst hy;by_cases c4:aF s r2.2.at_ 3=0
  ·rw[if_pos c4]at hmm;refine aY (by simp[c4]) ?_;simp;refine af R9 (eU n q.took S0 (k:=40) S1 S1) ?_;rintro _ h6 ⟨rfl,n⟩;have hx:r2.2.took.at_=r2.2.at_+1:=rfl;rw[hx];simp;refine af R9 (gn n (b:=b) hb3 q.took.took S0 (k:=IntKind.i32.wrap (IntKind.i64.wrap (aF s (r2.2.at_+1) 40-8))) mO) ?_;rintro _ h7 ⟨rfl,n⟩;refine fin r2.2.next _ h7 _ hmm (q.jV S0) (q.took.took.constant.mono S0) (by rw[dw];exact hb3) n ?_ ?_ ?_ ?_ ?_ ?_;all_goals simp
   rfl
  rw[if_neg c4]at hmm;refine bf (by simp[c4]) ?_;simp;refine fin r2.1 _ h5 _ hmm i3 (q.took.mono S0) hb3 n ?_ ?_ ?_ ?_ ?_ ?_;all_goals simp
 rw[if_neg c1]at hmm;refine bf (by simp[c1]) ?_;refine ab λz hz=>?_;simp;subst hz;by_cases c2:k=12
 ·rw[if_pos c2]at hmm;refine aY (by simp[c2]) ?_;refine ab λz hz=>?_;simp;refine af R9 (iK n hb1 q S0) ?_;rintro _ h2 ⟨⟨rfl,i2⟩,n⟩;have q:=q.aG (s:=s) (b:=b);have hb2:b<(aG s m1 b).2.blocks.length:=by rw[dy];exact hb1
  simp only[ltuS]at hmm;generalize aG s m1 b=r1 at hmm n q hb2 i2;subst hz;refine ab λz hz=>?_;simp;refine af R9 (iK n hb2 q S0) ?_;rintro _ h3 ⟨⟨rfl,i3⟩,n⟩;have q:=q.aG (s:=s) (b:=b);have hb3:b<(aG s r1.2 b).2.blocks.length:=by rw[dy];exact hb2
  generalize aG s r1.2 b=r2 at hmm n q hb3 i3;subst hz;simp;refine af R9 (gM n q S0) ?_;rintro _ h4 ⟨rfl,n⟩;refine n.lit (ls:=[r1.1,r2.1]) Sa (by simp[i2,i3]) rfl S1 λua un uc h5 _ n=>?_;refine az (z:=zz5) (places:=zpa) (vs:=[(0,Sf Sg 13),(1,Sf Sg r2.2.next),(3,.slice ua un uc)]) (cs:=#[Sf Sg 13,Sf Sg r2.2.next,Sf Sg 0,.slice ua un uc,Sf Si 0]) R9 R9 Sa R9 ?_;refine af R9 (lk n (b:=b) hb3 q.aN S0 i64c (q.jV S0) i64c S1) ?_;rintro _ h6 n;exact hK _ _ (by rw[hmm];exact n)
 rw[if_neg c2]at hmm;refine bf (by simp[c2]) ?_;refine ab λz hz=>?_;simp;subst hz;by_cases c3:k=13
 ·rw[if_pos c3]at hmm;refine aY (by simp[c3]) ?_;refine ab λz hz=>?_;simp;refine af R9 (iK n hb1 q S0) ?_;rintro _ h2 ⟨⟨rfl,i2⟩,n⟩;have q:=q.aG (s:=s) (b:=b);have hb2:b<(aG s m1 b).2.blocks.length:=by rw[dy];exact hb1
  simp only[divS]at hmm;generalize aG s m1 b=r1 at hmm n q hb2 i2;subst hz;refine ab λz hz=>?_;simp;refine af R9 (eU n q S0 (k:=12) S1 S1) ?_;rintro _ h3 ⟨rfl,n⟩;simp;refine af R9 (gn n (b:=b) hb2 q.took S0 (k:=IntKind.i32.wrap (aF s r1.2.at_ 12)) mO) ?_;rintro _ h4 ⟨rfl,n⟩;have i4:I64 r1.2.took.next:=q.took.jV S0;have q:=q.took.constant (b:=b) (n:=IntKind.i32.wrap (aF s r1.2.at_ 12));have hb3:b<(r1.2.took.constant b (IntKind.i32.wrap (aF s r1.2.at_ 12))).blocks.length:=by rw[dw];exact hb2
  have ht:r1.2.took.next=r1.2.next:=rfl;rw[ht]at i4 ⊢;generalize r1.2.took.constant b (IntKind.i32.wrap (aF s r1.2.at_ 12))=m2 at hmm n q hb3;generalize r1.2.next=d at hmm i4;subst hz;refine ab λz hz=>?_;have fin : ∀(e:Int) (m3:MS) (h':Heap) (ρ:Env),aJ s b m=m3.two b 14 r1.1 e->I64 e->m3.ok (c+60)->b<m3.blocks.length->Nz s M vs W0 h' o0 m3 (Sn Sk 0 0) []->Lft.look ρ 0=Sj (ptz M)->Lft.look ρ 1=Sj (Sf Sg b)->Lft.look ρ 10=Sj (Sf Sg r1.1)->Lft.look ρ 11=Sj (Sf Sg e)->LC.wp Ss z (ff 0 (dF [] K)) ρ h':=by intro e m3 h' ρ hmm ie q hb n r0 r1' r10 r11;subst hz;simp[ag,ah,r0,r1',r10,r11];refine af R9 (gM n q S0) ?_;rintro _ h4 ⟨rfl,n⟩;refine n.lit (ls:=[r1.1,e]) Sa (by simp[i2,ie]) rfl S1 λua un uc h5 _ n=>?_;refine az (z:=zz5) (places:=zpa) (vs:=[(0,Sf Sg 14),(1,Sf Sg m3.next),(3,.slice ua un uc)]) (cs:=#[Sf Sg 14,Sf Sg m3.next,Sf Sg 0,.slice ua un uc,Sf Si 0]) R9 R9 Sa R9 ?_;refine af R9 (lk n (b:=b) hb q.aN S0 i64c (q.jV S0) i64c S1) ?_;rintro _ h6 n;exact hK _ _ (by rw[hmm];exact n)
  refine ab λy hy=>?_;simp;refine af R9 (eU n q S0 (k:=3) S1 S1) ?_;rintro _ h5 ⟨rfl,n⟩;simp;subst hy;by_cases c4:0<aF s m2.at_ 3
  ·rw[if_pos c4]at hmm;refine aY (by simp[c4]) ?_;simp;refine af R9 (eU n q.took S0 (k:=12) S1 S1) ?_;rintro _ h6 ⟨rfl,n⟩;have hx:m2.took.at_=m2.at_+1:=rfl;rw[hx];simp;refine af R9 (gn n (b:=b) hb3 q.took.took S0 (k:=IntKind.i32.wrap (1+IntKind.i32.wrap (aF s (m2.at_+1) 12))) mO) ?_;rintro _ h7 ⟨rfl,n⟩;refine fin m2.next _ h7 _ hmm (q.jV S0) (q.took.took.constant.mono S0) (by rw[dw];exact hb3) n ?_ ?_ ?_ ?_;all_goals simp
   rfl
  rw[if_neg c4]at hmm;refine bf (by simp[c4]) ?_;simp;refine fin d _ h5 _ hmm i4 (q.took.mono S0) hb3 n ?_ ?_ ?_ ?_;all_goals simp
 rw[if_neg c3]at hmm;refine bf (by simp[c3]) ?_;refine ab λz hz=>?_;simp;subst hz;by_cases c4:k<16
 ·rw[if_pos c4]at hmm;refine aY (by simp[c4]) ?_;simp;refine af R9 (FJ n.x (store:=decide (k=15)) hb1 q S0) ?_;rintro _ h2 n;exact hK _ _ (by rw[hmm];exact n)
 rw[if_neg c4]at hmm;refine bf (by simp[c4]) ?_;refine ab λz hz=>?_;simp;subst hz;by_cases c5:k=16
 ·rw[if_pos c5]at hmm;refine aY (by simp[c5]) ?_;refine ab λz hz=>?_;simp;obtain⟨W,o,g1,w,f,-⟩:=n;have hk9:o (9,0)=none:=(f _ S1).trans hfree;refine w.own.lV (k:=(9,0)) (α:=Int) hk9 El.aV λv h2 hle2 hv w2 _=>?_;have w2:Mk s M vs W h2 (o.upd (9,0) (it T.int v ([]:List Int))) m1:=by obtain⟨vb,vl,lb,bb⟩:=w.box;exact⟨w2,w.src,vb,vl,lb,bb.frame λk hk=>Own.aA (by rintro rfl;simp at hk)⟩
  subst hz;refine ab λz hz=>?_;simp;refine af R9 (w2.take (by have:=q.at_;omega) (n:=5) S1 S1) ?_;rintro _ h3 ⟨rfl,o3,w3,f3⟩;simp only[mW]at hmm;have q:=q.took;have hb2:b<m1.took.blocks.length:=hb1;obtain⟨t0,t1⟩:=bF (s:=s) (at_:=m1.at_) (n:=5) S1;generalize aF s m1.at_ 5=t at hmm t0 t1;obtain⟨tn,rfl⟩ : ∃tn:Nat,t=tn:=⟨t.toNat,by omega⟩;rw[show((tn:Int)).toNat=tn by omega]at hmm;have hup:=DU (s:=s) (b:=b) (x:=([],m1.took)) q;generalize m1.took=m2 at hmm q hb2 hup w3;subst hz;refine ab λz hz=>?_;simp;refine cW [0,1,4,12,13,14] (fun(v:Value) i=>[ptz M,Sf Sg b,Sf Sg k,v,Sf Sg tn,Sf Sg i]) (λv i h4=>∃W' o',W0.le W'/\Mk s M vs W' h4 o' (up (fi s b) i ([],m2)).2/\o' (9,0)=it T.int v (up (fi s b) i ([],m2)).1/\∀q:Key,3<=q.1->q≠(9,0)->o' q=o0 q) tn v
   rfl S0 rfl ⟨W,o3,g1,w3,(f3 _ S1).trans Own.ao,λq h1 h2=>(f3 q h1).trans ((Own.aA h2).trans (f q h1))⟩ (λ_ _=>rfl) (λv k h hk m=>by simp) ?_ ?_
  ·rintro v i h4 hlt ⟨W4,o4,g4,w4,e4,f4⟩ K2 hK2;obtain⟨qi,li,bi⟩:=hup i;have e5:up (fi s b) (i+1) ([],m2)=((up (fi s b) i ([],m2)).1++[(aG s (up (fi s b) i ([],m2)).2 b).1],(aG s (up (fi s b) i ([],m2)).2 b).2):=rfl;have hb4:b<(up (fi s b) i ([],m2)).2.blocks.length:=by rw[bi];exact hb2
   generalize up (fi s b) i ([],m2)=x at w4 e4 e5 qi li bi hb4;have li:x.1.length=i:=by simpa using li
   simp;refine af R9 (Ej w4 hb4 qi S0) ?_;rintro _ h5 ⟨rfl,i5,W5,o5,g5,w5,f5⟩;have e6:o5 (9,0)=it T.int v x.1:=(f5 _ S1).trans e4;refine w5.own.ji (k:=(9,0)) (α:=Int) (d:=(aG s x.2 b).1) e6 El.aV rfl (bO.2 ⟨rfl,i5⟩) S0 S0 (λ_=>rfl) (λ_=>rfl) λu v' h6 w6 _=>?_;refine hK2 v' _ _ rfl rfl ⟨W5,_,Sc g4 g5,⟨w6,w5.src,?_⟩,?_,?_⟩
   ·obtain⟨vb,vl,lb,bb⟩:=w5.box;rw[e5];exact⟨vb,vl,lb,bb.frame λk hk=>Own.aA (by rintro rfl;simp at hk)⟩
   ·rw[e5];exact Own.ao
   intro q h1 h2;exact(Own.aA h2).trans ((f5 q h1).trans (f4 q h1 h2))
  rintro v h4 ⟨W4,o4,g4,w4,e4,f4⟩;obtain⟨qi,li,bi⟩:=hup tn;have hb4:b<(up (fi s b) tn ([],m2)).2.blocks.length:=by rw[bi];exact hb2
  generalize up (fi s b) tn ([],m2)=x at w4 e4 qi li bi hb4 hmm;obtain⟨w5,sl⟩:=w4.own.freeze e4;have sl2:=sl;obtain⟨ua,uc,rfl,_⟩:=sl2;have hWp:=jk (h:=h4) (w4.own.av _ _ e4);have n:Nz s M vs W0 h4 o0 x.2 (.slice ua x.1.length uc) x.1:=by
   obtain⟨vb,vl,lb,bb⟩:=w4.box;refine⟨_,_,Sc g4 hWp,⟨w5,w4.src.mono hWp,vb,vl,lb,bb.frame λk hk=>Own.aA (by rintro rfl;simp at hk)⟩,λq h1=>?_,sl⟩;by_cases e:q=(9,0)
   ·rw[e,Own.ao,hfree]
   exact(Own.aA e).trans (f4 q h1 e)
  generalize x.1.length=un at n;simp;subst hz;simp;refine af R9 (gM n qi S0) ?_;rintro _ h5 ⟨rfl,n⟩;refine af R9 (eU n qi.aN S0 (k:=5) S1 S1) ?_;rintro _ h6 ⟨rfl,n⟩;have hx:x.2.aN.at_=x.2.at_:=rfl;rw[hx];simp;refine az (z:=zz5) (places:=zpa) (vs:=[(0,Sf Sg 17),(1,Sf Sg x.2.next),(3,.slice ua un uc),(4,Sf Si (IntKind.i32.wrap (aF s x.2.at_ 5)))]) (cs:=#[Sf Sg 17,Sf Sg x.2.next,Sf Sg 0,.slice ua un uc,Sf Si (IntKind.i32.wrap (aF s x.2.at_ 5))]) R9 R9 Sa R9 ?_;refine af R9 (lk n (b:=b) hb4 qi.aN.took S0 i64c (qi.jV S0) i64c mO) ?_;rintro _ h7 n;exact hK _ _ (by rw[hmm];exact n)
 rw[if_neg c5]at hmm;refine bf (by simp[c5]) ?_;refine ab λz hz=>?_;simp;subst hz;by_cases c6:k=17
 ·rw[if_pos c6]at hmm;refine aY (by simp[c6]) ?_;refine ab λz hz=>?_;simp;refine af R9 (iK n hb1 q S0) ?_;rintro _ h2 ⟨⟨rfl,i2⟩,n⟩;have q:=q.aG (s:=s) (b:=b);have hb2:b<(aG s m1 b).2.blocks.length:=by rw[dy];exact hb1
  simp only[tg]at hmm;generalize aG s m1 b=r1 at hmm n q hb2 i2;subst hz;refine ab λz hz=>?_;simp;refine af R9 (iK n hb2 q S0) ?_;rintro _ h3 ⟨⟨rfl,i3⟩,n⟩;have q:=q.aG (s:=s) (b:=b);have hb3:b<(aG s r1.2 b).2.blocks.length:=by rw[dy];exact hb2
  generalize aG s r1.2 b=r2 at hmm n q hb3 i3;subst hz;refine ab λz hz=>?_;simp;refine af R9 (gM n q S0) ?_;rintro _ h4 ⟨rfl,n⟩;subst hz;simp;refine af R9 (gM n q.aN S0) ?_;rintro _ h5 ⟨rfl,n⟩;have hx:r2.2.aN.next=r2.2.next+1:=rfl;rw[hx];have j5:=q.aN.jV S0;rw[hx]at j5;refine n.lit (ls:=[r1.1,r2.1]) Sa (by simp[i2,i3]) rfl S1 λua un uc h5 _ n=>?_;refine az (z:=zz5) (places:=zpa) (vs:=[(0,Sf Sg 18),(1,Sf Sg r2.2.next),(2,Sf Sg (r2.2.next+1)),(3,.slice ua un uc)]) (cs:=#[Sf Sg 18,Sf Sg r2.2.next,Sf Sg (r2.2.next+1),.slice ua un uc,Sf Si 0]) R9 R9 Sa R9 ?_;refine af R9 (lk n (b:=b) hb3 q.aN.aN S0 i64c (q.jV S0) j5 S1) ?_;rintro _ h6 n;exact hK _ _ (by rw[hmm];exact n)
 rw[if_neg c6]at hmm;refine bf (by simp[c6]) ?_;simp;refine af R9 (Ae n q S0) ?_;rintro _ h2 ⟨rfl,n⟩;refine af R9 (gn n (b:=b) hb1 q.took.took S0 (k:=iX s m1) qD) ?_;rintro _ h3 ⟨rfl,n⟩;exact hK _ _ (by rw[hmm];exact n.x)
section
variable {s:List Int} {m:MS} {b c:Nat}
theorem nV:m.took.blocks.length=m.blocks.length:=rfl
theorem pS:m.aN.blocks.length=m.blocks.length:=rfl
theorem MS.ok.addr(h:m.ok c):(iV s m b).2.ok (c+30):=by
 unfold iV;simp only;split
 ·exact((((h.took.constant).took.aG).constant).two.two).mono S0
 exact(h.took.constant.took).mono S0
theorem H3:(iV s m b).2.blocks.length=m.blocks.length:=by unfold iV;simp only;split<;>simp[oc,dw,dy,nV]
theorem MS.ok.off(h:m.ok c):(offS s m).2.ok (c+4):=by
 unfold offS;split
 ·exact h.took.took.took.took
 exact h.took.took.mono S0
theorem IU:(offS s m).2.blocks.length=m.blocks.length:=by unfold offS;split<;>rfl
theorem MS.ok.memory{st:Bool}(h:m.ok c):(ik s m b st).ok (c+60):=by
 unfold ik;simp only;split
 ·exact(((h.addr).off.aG).add).mono S0
 exact(((h.addr).off.aN).add).mono S0
theorem CP{st:Bool}:(ik s m b st).blocks.length=m.blocks.length:=by unfold ik;simp only;split<;>simp[kP,dy,IU,H3,pS]
theorem MS.ok.bin(h:m.ok c):(binS s m b op).ok (c+60):=by
 unfold binS;simp only;split
 ·exact((h.aG.aG).took.took.constant.two).mono S0
 exact((h.aG.aG).took.two).mono S0
theorem JE:(binS s m b op).blocks.length=m.blocks.length:=by unfold binS;simp only;split<;>simp[oc,dw,dy,nV]
theorem MS.ok.div(h:m.ok c):(divS s m b).ok (c+60):=by
 unfold divS;simp only;split
 ·exact((h.aG).took.constant.took.took.constant.two).mono S0
 exact((h.aG).took.constant.took.two).mono S0
theorem Jk:(divS s m b).blocks.length=m.blocks.length:=by unfold divS;simp only;split<;>simp[oc,dw,dy,nV]
theorem MS.ok.mW (h:m.ok c):(mW s m b).ok (c+70):=by unfold Go.Proofs.YtnfiilgdjpdlkaaGreatDoor.mW;simp only;have ht:=bF (s:=s) (at_:=m.at_) (n:=5) S1;have:=(DU (s:=s) (b:=b) (x:=([],m.took)) h.took (aF s m.at_ 5).toNat).1;exact(this.aN.took.add).mono S0
theorem HB:(mW s m b).blocks.length=m.blocks.length:=by unfold mW;simp only;rw[kP,nV,pS];exact AU (s:=s) (b:=b) (x:=([],m.took)) _
theorem MS.ok.eX(h:m.ok c):(aJ s b m).ok (c+80):=by
 unfold aJ;simp only;repeat' split
 ·exact h.took.bin.mono S0
 ·unfold ltuS;exact(h.took.aG.aG.two).mono S0
 ·exact h.took.div.mono S0
 ·exact h.took.memory.mono S0
 ·exact h.took.mW.mono S0
 ·unfold tg;exact(h.took.aG.aG.aN.aN.add).mono S0
 exact h.took.took.took.constant.mono S0
theorem oV:(aJ s b m).blocks.length=m.blocks.length:=by
 unfold aJ;simp only;repeat' split
 all_goals simp[JE,ltuS,Jk,CP,HB,tg,oc,dw,dy,nV,pS,kP]
end
end Go.Proofs.YtnfiilgdjpdlkaaGreatDoor
