/- A part of the proof: Ok, Ol, Rb, Ta, Rc, Rd, Rf, Rg, Rh, Tb, Tc, Td, Th, Ma, Mb, Mc, Md, Me, Mf, Mg, Mh. -/
import Derived.Test.YtmhnaeecolpfkaaGreatDoorZCMor3
set_option linter.unusedSimpArgs false
set_option linter.unusedVariables false
open Go.Value renaming int->VB,slice->VG,pointer->VH
open Go.IntKind renaming i64->VC,i32->VD
open Option renaming some->VE,none->VF
open Bool renaming true->VI,false->VJ
open Go.Proofs.Tryz renaming prog->VK
open Go.Proofs
namespace Go.Lft
variable {po po2:OP}
theorem Cx.dS {V W:View} {h0 h:Heap} {o:Own} {k:Key} {P:Program} {ty:TypeId} {us:List (Nat × Value)} {n i:Nat} {e t:TypeId} {B:Nat} {l:List Value} {x y:Operand} {u:Value} {K:Value->Heap->Prop} (c:Cx V h0 W h o) (hk:o k=bx e B (RawN.mk (n:=n) l)) (hi:i<=n) (hsz:cW P t=VE 1) (hx:asg us x = VH (VE ⟨B,i,VF⟩)) (hy:asg us y=u) (hu:u.oneCell'=VI)
  (hK : ∀h',Cx V h0 W h' (o.upd k (bx e B (RawN.mk (n:=n) (l.set i u))))->K undef h'):@step po P (.store t x y) ty us h K:=
 c.own.dS hk hi hsz hx hy hu λh2 w hX=>hK _ ⟨w,c.old,hX _ c.le0 (View.cg Vy (c.new k _ B hk rfl)),λj i b hj hb=>by
  by_cases e:j=k
  ·subst e;rw[Own.an]at hj;cases hj;exact c.new _ _ b hk hb
  rw[Own.aB e]at hj;exact c.new j i b hj hb⟩
end Go.Lft
namespace Go.Lft
structure yV (t:de):Prop where
 one:t.kind=2\/t.kind=3->1<=t.args.length
 most:t.args.length<=10000
 to:t.to.length<=10000
theorem FF {H:View} {x0 x1 x2 va x4:Value} {i:InsD} (h:Rd H (.agg #[x0,x1,x2,va,x4]) i):SlRd H va i.args:=by unfold Rd at h;rw[if_pos (show Rep.agg InsD=VI from rfl)]at h;obtain⟨cs,e0,c1,_,e,h1,c2,_,rfl,h2,c3,_,rfl,h3,c4,c5,rfl,h4,h5⟩:=h;cases e0;rw[h1.1,h2.1,h3.1,h5.1]at e;obtain⟨v,rfl⟩:=xf h4;simp at e;obtain⟨-,-,-,rfl,-⟩:=e;exact qw.1 h4
set_option maxHeartbeats 4000000 in
theorem PK {s:cD} {v:Value} {pat:Int} {h:Heap} {W:View} (hW:W.le (vw h)) (hv:Rd W v s) (hok:mY s) (htk:yV s.t) (hp:I64 pat) :
    az VK 138 #[v,VB VC pat] h (λu h'=>cr W h h' u (gI s.f s.t pat)):=by
  refine aq (args:=[v,VB VC pat]) follows Tryz.func138 E.fG Vw λK hK=>?_
  dsimp only[L.fG,lkF,lkG]
  have c0:=Cx.start hW
  refine aa λz hz=>?_
  simp
  refine c0.ef rfl hv λS h1 W1 hW1 c1 at1 hle1=>?_
  refine c1.dc (k:=(0,0)) (n:=7) (z:=.agg fitZ.toArray) rfl V0 rfl V6 Vu λR h2 hle2 c2=>?_
  subst hz
  refine aa λz hz=>?_
  obtain⟨ut,hut,rut⟩:=(at1.part cD.RJ).ldN rfl (N:=4) rfl
  have hut:Un.ev (vw h2) (.bM 4) (VH (VE ⟨S,7,VF⟩))=VE ut:=by simpa using hut _ c2.wle
  simp[hut]
  refine c2.ey (α:=de) rut (n:=4) (z:=zz9) V0 rfl rfl V0 V8 V8 λTb h3 W3 hW3 c3 at3 hle3=>?_
  have t0:=(at3.part de.De).int
  obtain⟨va,t1,hva⟩:=(at3.part de.eX).sl
  obtain⟨vt,t2,hvt⟩:=(at3.part de.Dd).sl
  have t3:=(at3.part de.lQ).i32
  have ri:=(at3.part de.lQ).sA
  have t0:ao W3 ⟨Tb,0,VF⟩=VE (VB VC s.t.kind):=by simpa using t0
  have t1:ao W3 ⟨Tb,1,VF⟩=VE va:=by simpa using t1
  have t2:ao W3 ⟨Tb,2,VF⟩=VE vt:=by simpa using t2
  have t3:ao W3 ⟨Tb,3,VF⟩=VE (VB VD s.t.imm.v):=by simpa using t3
  have most:=htk.most
  have mosto:=htk.to
  subst hz
  refine aa λz hz=>?_
  simp[ae c3.wle t2]
  refine ah V0 (eM c3.wle hvt V4) ?_
  rintro uto h4 ⟨hle4,hto⟩
  have c4:=c3.ext hle4
  have hW4:=c3.up (h':=h4)
  have hto0:=hto
  obtain⟨b0,k0,rfl,-⟩:=hto0
  generalize grow W3 h3 h4=W4 at *
  have s0:=ae hW4 t0
  have s1:=ae hW4 t1
  have s3:=ae hW4 t3
  have hva4:=hva.mono hW4
  have z0:=ae c4.wle s0
  have z1:=ae c4.wle s1
  have z3:=ae c4.wle s3
  clear t0 t1 t2 t3 hut hle1 hle2 hle3 hle4
  subst hz
  refine aa λz hz=>?_
  simp only[aW]
  refine aa λy hy=>?_
  by_cases p1:pat=0/\s.t.kind=1
  · have he:gI s.f s.t pat=VE ⟨[],[],[],⟨1,0,0,s.t.to,⟨0⟩⟩⟩:=by unfold gI;rw[if_pos p1]
    simp[p1.1,z0,p1.2]
    subst hy
    simp
    refine aA (t:=T.eU) (z:=.agg #[VB VC 0,VB VC 0,VB VC 0,VG VF 0 0,VB VD 0]) (places:=zpa) (vs:=[(0,VB VC 1),(3,.slice b0 s.t.to.length k0)]) (cs:=#[VB VC 1,VB VC 0,VB VC 0,.slice b0 s.t.to.length k0,VB VD 0]) V0 V0 V5 (by simp[Instr.fill,Value.cells]) ?_
    refine aA (t:=T.bc) (z:=.agg fitZ.toArray) (places:=zpc) (vs:=[(3,.agg #[VB VC 1,VB VC 0,VB VC 0,.slice b0 s.t.to.length k0,VB VD 0])]) (cs:=#[VG VF 0 0,VG VF 0 0,VG VF 0 0,VB VC 1,VB VC 0,VB VC 0,.slice b0 s.t.to.length k0,VB VD 0]) V0 V0 V5 (by simp[Instr.fill,Value.cells]) ?_
    have hr:Rd W4 (.agg #[VG VF 0 0,VG VF 0 0,VG VF 0 0,VB VC 1,VB VC 0,VB VC 0,.slice b0 s.t.to.length k0,VB VD 0]) (⟨[],[],[],⟨1,0,0,s.t.to,⟨0⟩⟩⟩:FitD):=nY (ce:=[_,_,_,_,_]) aO aO aO (mg (imm:=⟨0⟩) V5 V5 hto)
    refine c4.bI (k:=(0,0)) (n:=7) (l:=fitZ) V7 hr rfl rfl V0 rfl rfl λh9 l9 hl9 c9=>?_
    have hall:=c9.all (k:=(0,0)) (n:=7) (l:=l9) (B:=R) (e:=T.bc) V7
    simp at hall
    simp[hall]
    exact hK _ _ (cr.of c9 (hl9▸hr) (by rw[he];rfl) λy e=>by rw[he]at e;cases e;rfl)
  refine gO (λρ h5=>h5=h4/\ρ=[(0,v),(1,VB VC pat),(2,ptr S),(4,ptr R),(5,.bool VJ),(6,ptr Tb),(7,.slice b0 s.t.to.length k0),(13,ut),(16,.slice b0 s.t.to.length k0),(17,.bool VJ)]) ?_ ?_
  · intro K2 hK2
    by_cases e0:pat=0
    · have e2:¬s.t.kind=1:=λe=>p1 ⟨e0,e⟩
      simp[e0,z0,e2]
      exact hK2 _ _ ⟨rfl,by rw[e0]⟩
    · simp[e0,z0]
      exact hK2 _ _ ⟨rfl,rfl⟩
  rintro _ h4 ⟨rfl,rfl⟩
  subst hy
  refine bf V5 ?_
  refine aa λy hy=>?_
  by_cases p2:pat=0/\s.t.kind=4
  · have he:gI s.f s.t pat=VE ⟨s.t.args,[],[],⟨7,if s.t.args=[] then -1 else nth s.t.args 0,0,[],⟨0⟩⟩⟩:=by unfold gI;rw[if_neg p1,if_pos p2]
    simp[p2.1,z0,p2.2]
    subst hy
    refine aT V5 ?_
    refine aa λy hy=>?_
    simp
    refine aA (t:=T.eU) (z:=.agg #[VB VC 0,VB VC 0,VB VC 0,VG VF 0 0,VB VD 0]) (places:=zpa) (vs:=[(0,VB VC 7),(1,VB VC (-1))]) (cs:=#[VB VC 7,VB VC (-1),VB VC 0,VG VF 0 0,VB VD 0]) V0 V0 V5 (by simp[Instr.fill,Value.cells]) ?_
    refine c4.dc (k:=(0,1)) (n:=4) (z:=.agg #[VB VC 0,VB VC 0,VB VC 0,VG VF 0 0,VB VD 0]) V7 V0 rfl V6 Vu λEb h5 hle5 c5=>?_
    refine c5.uY (k:=(0,1)) (n:=4) (l:=[VB VC 0,VB VC 0,VB VC 0,VG VF 0 0,VB VD 0]) (l':=[VB VC 7,VB VC (-1),VB VC 0,VG VF 0 0,VB VD 0]) V7 V0 rfl rfl rfl Vt λh6 c6=>?_
    subst hy
    have y1:=ae c6.wle s1
    have hlen:=hva4.len (K:=vw h6)
    generalize hae:(if s.t.args=[] then(-1:Int) else nth s.t.args 0)=a at *
    refine aa λy hy=>?_
    refine gO (λρ h7=>∃o6,Cx W h W4 h7 o6/\o6 (0,0)=bx T.bc R (RawN.mk (n:=7) fitZ)/\o6 (0,1)=bx T.eU Eb (RawN.mk (n:=4) [VB VC 7,VB VC a,VB VC 0,VG VF 0 0,VB VD 0])/\(-9223372036854775808<=a/\a<=9223372036854775807)/\
      ρ=[(0,v),(1,VB VC 0),(2,ptr S),(4,ptr R),(5,.bool VJ),(6,ptr Tb),(7,.slice b0 s.t.to.length k0),(8,ptr Eb),(13,ut),(16,.slice b0 s.t.to.length k0),(36,.agg #[VB VC 7,VB VC (-1),VB VC 0,VG VF 0 0,VB VD 0])]) ?_ ?_
    · intro K2 hK2
      by_cases ea:s.t.args=[]
      · have el:(s.t.args.length:Int)=0:=by rw[ea];rfl
        rw[if_pos ea]at hae
        subst hae
        simp[y1,hlen,ea]
        exact hK2 _ _ ⟨_,c6,by rfl,by rfl,by decide,rfl⟩
      · have el:=List.length_pos_iff.2 ea
        rw[if_neg ea]at hae
        have a0:=hva4.rng (i:=0) el
        have x0:=hva4.idx1 (k:=.i64) (i:=0) rfl V6 V4
        have d0:=hva4.int c6.wle (i:=0) el
        simp[y1,hlen,el,x0,d0]
        refine c6.dS (k:=(0,1)) (n:=4) (i:=1) (l:=[VB VC 7,VB VC (-1),VB VC 0,VG VF 0 0,VB VD 0]) V7 V6 V0 rfl rfl rfl λh7 c7=>?_
        exact hK2 _ _ ⟨_,c7,by rfl,by rw[<-hae];rfl,by rw[<-hae];exact a0,rfl⟩
    · rintro _ h7 ⟨o6,c7,k00,k01,ar,rfl⟩
      subst hy
      refine aa λy hy=>?_
      refine aQ (vw h7) Vy ?_
      have hall7:=c7.all k01
      simp at hall7
      simp[ae c7.wle s1,hall7]
      refine ah V0 (eM c7.wle hva4 V4) ?_
      rintro ucl h8 ⟨hle8,hcl⟩
      refine⟨hle8,?_⟩
      have c8:=c7.ext hle8
      have hW8:=c7.up (h':=h8)
      have hcl0:=hcl
      obtain⟨b1,k1,rfl,-⟩:=hcl0
      refine aA (t:=T.bc) (z:=.agg fitZ.toArray) (places:=zpc) (vs:=[(0,.slice b1 s.t.args.length k1),(3,.agg #[VB VC 7,VB VC a,VB VC 0,VG VF 0 0,VB VD 0])]) (cs:=#[.slice b1 s.t.args.length k1,VG VF 0 0,VG VF 0 0,VB VC 7,VB VC a,VB VC 0,VG VF 0 0,VB VD 0]) V0 V0 V5 (by simp[Instr.fill,Value.cells]) ?_
      have hr:Rd (grow W4 h7 h8) (.agg #[.slice b1 s.t.args.length k1,VG VF 0 0,VG VF 0 0,VB VC 7,VB VC a,VB VC 0,VG VF 0 0,VB VD 0]) (⟨s.t.args,[],[],⟨7,a,0,[],⟨0⟩⟩⟩:FitD):=nY (ce:=[_,_,_,_,_]) hcl aO aO (mg (imm:=⟨0⟩) Vv V5 aO)
      refine c8.bI (k:=(0,0)) (n:=7) (l:=fitZ) k00 hr rfl rfl V0 rfl rfl λh9 l9 hl9 c9=>?_
      subst hy
      have hall:=c9.all (k:=(0,0)) (n:=7) (l:=l9) (B:=R) (e:=T.bc) Own.an
      simp at hall
      simp[hall]
      exact hK _ _ (cr.of c9 (hl9▸hr) (by rw[he];rfl) λy e=>by rw[he]at e;cases e;rfl)
  refine gO (λρ h5=>h5=h4/\ρ=[(0,v),(1,VB VC pat),(2,ptr S),(4,ptr R),(5,.bool VJ),(6,ptr Tb),(7,.slice b0 s.t.to.length k0),(13,ut),(16,.slice b0 s.t.to.length k0),(28,.bool VJ)]) ?_ ?_
  · intro K2 hK2
    by_cases e0:pat=0
    · have e2:¬s.t.kind=4:=λe=>p2 ⟨e0,e⟩
      simp[e0,z0,e2]
      exact hK2 _ _ ⟨rfl,by rw[e0]⟩
    · simp[e0,z0]
      exact hK2 _ _ ⟨rfl,rfl⟩
  rintro _ h4 ⟨rfl,rfl⟩
  subst hy
  refine bf V5 ?_
  refine aa λy hy=>?_
  by_cases p3:pat=0/\s.t.kind=5
  · have he:gI s.f s.t pat=VE ⟨[],[],[],⟨8,0,0,[],s.t.imm⟩⟩:=by unfold gI;rw[if_neg p1,if_neg p2,if_pos p3]
    simp[p3.1,z0,p3.2]
    subst hy
    simp[z3]
    refine aA (t:=T.eU) (z:=.agg #[VB VC 0,VB VC 0,VB VC 0,VG VF 0 0,VB VD 0]) (places:=zpa) (vs:=[(0,VB VC 8),(4,VB VD s.t.imm.v)]) (cs:=#[VB VC 8,VB VC 0,VB VC 0,VG VF 0 0,VB VD s.t.imm.v]) V0 V0 V5 (by simp[Instr.fill,Value.cells]) ?_
    refine aA (t:=T.bc) (z:=.agg fitZ.toArray) (places:=zpc) (vs:=[(3,.agg #[VB VC 8,VB VC 0,VB VC 0,VG VF 0 0,VB VD s.t.imm.v])]) (cs:=#[VG VF 0 0,VG VF 0 0,VG VF 0 0,VB VC 8,VB VC 0,VB VC 0,VG VF 0 0,VB VD s.t.imm.v]) V0 V0 V5 (by simp[Instr.fill,Value.cells]) ?_
    have hr:Rd W4 (.agg #[VG VF 0 0,VG VF 0 0,VG VF 0 0,VB VC 8,VB VC 0,VB VC 0,VG VF 0 0,VB VD s.t.imm.v]) (⟨[],[],[],⟨8,0,0,[],s.t.imm⟩⟩:FitD):=nY (ce:=[_,_,_,_,_]) aO aO aO (mg V5 ri aO)
    refine c4.bI (k:=(0,0)) (n:=7) (l:=fitZ) V7 hr rfl rfl V0 rfl rfl λh9 l9 hl9 c9=>?_
    have hall:=c9.all (k:=(0,0)) (n:=7) (l:=l9) (B:=R) (e:=T.bc) V7
    simp at hall
    simp[hall]
    exact hK _ _ (cr.of c9 (hl9▸hr) (by rw[he];rfl) λy e=>by rw[he]at e;cases e;rfl)
  refine gO (λρ h5=>h5=h4/\ρ=[(0,v),(1,VB VC pat),(2,ptr S),(4,ptr R),(5,.bool VJ),(6,ptr Tb),(7,.slice b0 s.t.to.length k0),(13,ut),(16,.slice b0 s.t.to.length k0),(51,.bool VJ)]) ?_ ?_
  · intro K2 hK2
    by_cases e0:pat=0
    · have e2:¬s.t.kind=5:=λe=>p3 ⟨e0,e⟩
      simp[e0,z0,e2]
      exact hK2 _ _ ⟨rfl,by rw[e0]⟩
    · simp[e0,z0]
      exact hK2 _ _ ⟨rfl,rfl⟩
  rintro _ h4 ⟨rfl,rfl⟩
  subst hy
  refine bf V5 ?_
  refine aa λy hy=>?_
  by_cases p4:pat=33/\s.t.kind=2
  · have he:gI s.f s.t pat=VE ⟨s.t.args,[],[],⟨2,nth s.t.args 0,0,s.t.to,⟨0⟩⟩⟩:=by unfold gI;rw[if_neg p1,if_neg p2,if_neg p3,if_pos p4]
    have al:=htk.one V4
    have a0:=hva4.rng (i:=0) al
    have x0:=hva4.idx1 (k:=.i64) (i:=0) rfl V6 V4
    have d0:=hva4.int (View.le_refl W4) (i:=0) al
    simp[p4.1,z0,p4.2]
    subst hy
    refine aT V5 ?_
    refine aa λy hy=>?_
    refine aQ W4 c4.wle ?_
    simp[s1,x0,d0]
    refine⟨?_,?_⟩
    · refine ah V0 (eM c4.wle hva4 V4) ?_
      rintro ucl h5 ⟨hle5,hcl⟩
      have c5:=c4.ext hle5
      have hW5:=c4.up (h':=h5)
      refine⟨Vz hW5 c5.wle,?_⟩
      have hcl0:=hcl
      obtain⟨b1,k1,rfl,-⟩:=hcl0
      generalize grow W4 h4 h5=W5 at *
      refine aA (t:=T.eU) (z:=.agg #[VB VC 0,VB VC 0,VB VC 0,VG VF 0 0,VB VD 0]) (places:=zpa) (vs:=[(0,VB VC 2),(1,VB VC (nth s.t.args 0)),(3,.slice b0 s.t.to.length k0)]) (cs:=#[VB VC 2,VB VC (nth s.t.args 0),VB VC 0,.slice b0 s.t.to.length k0,VB VD 0]) V0 V0 V5 (by simp[Instr.fill,Value.cells]) ?_
      refine⟨Vz hW5 c5.wle,?_⟩
      refine aA (t:=T.bc) (z:=.agg fitZ.toArray) (places:=zpc) (vs:=[(0,.slice b1 s.t.args.length k1),(3,.agg #[VB VC 2,VB VC (nth s.t.args 0),VB VC 0,.slice b0 s.t.to.length k0,VB VD 0])]) (cs:=#[.slice b1 s.t.args.length k1,VG VF 0 0,VG VF 0 0,VB VC 2,VB VC (nth s.t.args 0),VB VC 0,.slice b0 s.t.to.length k0,VB VD 0]) V0 V0 V5 (by simp[Instr.fill,Value.cells]) ?_
      have hr:Rd W5 (.agg #[.slice b1 s.t.args.length k1,VG VF 0 0,VG VF 0 0,VB VC 2,VB VC (nth s.t.args 0),VB VC 0,.slice b0 s.t.to.length k0,VB VD 0]) (⟨s.t.args,[],[],⟨2,nth s.t.args 0,0,s.t.to,⟨0⟩⟩⟩:FitD):=nY (ce:=[_,_,_,_,_]) hcl aO aO (mg (imm:=⟨0⟩) Vv V5 (hto.mono hW5))
      refine c5.bI (k:=(0,0)) (n:=7) (l:=fitZ) V7 hr rfl rfl V0 rfl rfl λh9 l9 hl9 c9=>?_
      subst hy
      have hall:=c9.all (k:=(0,0)) (n:=7) (l:=l9) (B:=R) (e:=T.bc) V7
      simp at hall
      simp[hall]
      exact hK _ _ (cr.of c9 (hl9▸hr) (by rw[he];rfl) λy e=>by rw[he]at e;cases e;rfl)
    · refine aA (t:=T.eU) (z:=.agg #[VB VC 0,VB VC 0,VB VC 0,VG VF 0 0,VB VD 0]) (places:=zpa) (vs:=[(0,VB VC 2),(1,VB VC (nth s.t.args 0)),(3,.slice b0 s.t.to.length k0)]) (cs:=#[VB VC 2,VB VC (nth s.t.args 0),VB VC 0,.slice b0 s.t.to.length k0,VB VD 0]) V0 V0 V5 (by simp[Instr.fill,Value.cells]) ?_
      refine⟨c4.wle,?_⟩
      refine ah V0 (eM c4.wle hva4 V4) ?_
      rintro ucl h5 ⟨hle5,hcl⟩
      have c5:=c4.ext hle5
      have hW5:=c4.up (h':=h5)
      refine⟨Vz hW5 c5.wle,?_⟩
      have hcl0:=hcl
      obtain⟨b1,k1,rfl,-⟩:=hcl0
      generalize grow W4 h4 h5=W5 at *
      refine aA (t:=T.bc) (z:=.agg fitZ.toArray) (places:=zpc) (vs:=[(0,.slice b1 s.t.args.length k1),(3,.agg #[VB VC 2,VB VC (nth s.t.args 0),VB VC 0,.slice b0 s.t.to.length k0,VB VD 0])]) (cs:=#[.slice b1 s.t.args.length k1,VG VF 0 0,VG VF 0 0,VB VC 2,VB VC (nth s.t.args 0),VB VC 0,.slice b0 s.t.to.length k0,VB VD 0]) V0 V0 V5 (by simp[Instr.fill,Value.cells]) ?_
      have hr:Rd W5 (.agg #[.slice b1 s.t.args.length k1,VG VF 0 0,VG VF 0 0,VB VC 2,VB VC (nth s.t.args 0),VB VC 0,.slice b0 s.t.to.length k0,VB VD 0]) (⟨s.t.args,[],[],⟨2,nth s.t.args 0,0,s.t.to,⟨0⟩⟩⟩:FitD):=nY (ce:=[_,_,_,_,_]) hcl aO aO (mg (imm:=⟨0⟩) Vv V5 (hto.mono hW5))
      refine c5.bI (k:=(0,0)) (n:=7) (l:=fitZ) V7 hr rfl rfl V0 rfl rfl λh9 l9 hl9 c9=>?_
      subst hy
      have hall:=c9.all (k:=(0,0)) (n:=7) (l:=l9) (B:=R) (e:=T.bc) V7
      simp at hall
      simp[hall]
      exact hK _ _ (cr.of c9 (hl9▸hr) (by rw[he];rfl) λy e=>by rw[he]at e;cases e;rfl)
  refine gO (λρ h5=>h5=h4/\ρ=[(0,v),(1,VB VC pat),(2,ptr S),(4,ptr R),(5,.bool VJ),(6,ptr Tb),(7,.slice b0 s.t.to.length k0),(13,ut),(16,.slice b0 s.t.to.length k0),(63,.bool VJ)]) ?_ ?_
  · intro K2 hK2
    by_cases e0:pat=33
    · have e2:¬s.t.kind=2:=λe=>p4 ⟨e0,e⟩
      simp[e0,z0,e2]
      exact hK2 _ _ ⟨rfl,by rw[e0]⟩
    · simp[e0,z0]
      exact hK2 _ _ ⟨rfl,rfl⟩
  rintro _ h4 ⟨rfl,rfl⟩
  subst hy
  refine bf V5 ?_
  refine aa λy hy=>?_
  by_cases p5:(34<=pat/\pat<=36)/\s.t.kind=2
  · have w5:inR pat 34 36=true:=by simp[inR,p5.1.1,p5.1.2]
    have al:=htk.one V4
    have a0:=hva4.rng (i:=0) al
    have x0:=hva4.idx1 (k:=.i64) (i:=0) rfl V6 V4
    simp
    refine ah V0 kL ?_
    rintro _ h4 ⟨rfl,rfl⟩
    simp[w5,z0,p5.2]
    subst hy
    refine aT V5 ?_
    refine aa λy hy=>?_
    simp
    subst hy
    refine aa λy hy=>?_
    refine aQ (vw h4) Vy ?_
    obtain⟨us,hus,rus⟩:=at1.ldN rfl (N:=13) rfl
    have hus:=hus _ (Vz hW3 (Vz hW4 c4.wle))
    have rus:=rus.mono (Vz hW3 hW4)
    have d0:=hva4.int c4.wle (i:=0) al
    have ek:(11:Int)+(pat-34)=pat-23:=by omega
    have ew0:IntKind.i64.wrap (pat-34)=pat-34:=aZ V4 V4
    have ew:IntKind.i64.wrap (11+(pat-34))=pat-23:=by rw[aZ V4 V4];omega
    have ew2:IntKind.i64.wrap (3+(pat-34))=pat-31:=by rw[aZ V4 V4];omega
    have hE:gI s.f s.t pat=if(aL s.f (nth s.t.args 0) (pat-23)).2 then VE ⟨(aL s.f (nth s.t.args 0) (pat-23)).1.args,s.t.args,[],⟨pat-31,nth (aL s.f (nth s.t.args 0) (pat-23)).1.args 0,nth (aL s.f (nth s.t.args 0) (pat-23)).1.args 1,s.t.to,⟨0⟩⟩⟩ else none:=by
      unfold gI;rw[if_neg p1,if_neg p2,if_neg p3,if_neg p4,if_pos p5]
    have hfm:=fe (f:=s.f) (v:=nth s.t.args 0) (op:=pat-23)
    have hfo:=pO (s:=s) (v:=us) (x:=nth s.t.args 0) (op:=pat-23) (W:=W4) (h:=h4)
    have rng : ∀{hx:Heap} {Wx:View},Cx W h Wx hx (Own.upd (λ_=>VF) (0,0) (bx T.bc R (RawN.mk (n:=7) fitZ)))->True:=λ_=>trivial
    generalize hm:(aL s.f (nth s.t.args 0) (pat-23)).1=m at *
    generalize hbb:(aL s.f (nth s.t.args 0) (pat-23)).2=b at *
    have c:=c4
    have hrefl:(vw h4).le (vw h4):=View.le_refl _
    repeat' (first
      | refine jo ?_ ?_
      | (refine df λx hx=>?_
         simp[s1,z1,x0,d0,hus,ew0,ew]
         first
         | refine c.dc (k:=(0,2)) (n:=4) (z:=.agg #[VB VC 0,VB VC 0,VB VC 0,VG VF 0 0,VB VD 0]) V7 V0 rfl V6 Vu λBi h hle c=>?_
         | (refine ah V0 (pO c.wle rus hok.sm a0) ?_
            rw[hm,hbb]
            rintro _ h ⟨hle,vm,rfl,hvm⟩
            have hW:=c.up (h':=h)
            have c:=c.ext hle)
         | refine c.bI (k:=(0,2)) (n:=4) (l:=[VB VC 0,VB VC 0,VB VC 0,VG VF 0 0,VB VD 0]) V7 (hvm.mono Vx) rfl rfl V0 rfl rfl λh l10 hl10 c=>?_
         try refine⟨Vx,?_⟩
         subst hx))
    all_goals
      simp
      subst hy
      have hvm0:=hvm
      obtain⟨a3,m3,k3,rfl⟩:=ze hvm0
      have hl10:=hl10
      have e10:l10=[VB VC m.op,VB VC m.dst,VB VC m.two,.slice a3 m3 k3,VB VD m.imm.v]:=by
        simp only[Value.agg.injEq]at hl10
        have:=congrArg Array.toList hl10
        simpa using this.symm
      subst e10
      have y10:=c.own.raw (k:=(0,2)) (n:=4) (l:=[VB VC m.op,VB VC m.dst,VB VC m.two,.slice a3 m3 k3,VB VD m.imm.v]) (B:=Bi) (e:=T.ff) V7 (i:=3) V6
      simp at y10
      have hma:=FF hvm
      cases b with
      | false=>
        have he:gI s.f s.t pat=none:=by rw[hE];rfl
        refine aa λy hy=>?_
        simp
        refine aA (z:=.agg fitZ.toArray) (places:=zpc) (vs:=[]) (cs:=fitZ.toArray) V0 V0 V5 V0 ?_
        refine c.bI (k:=(0,0)) (n:=7) (l:=fitZ) V7 fT rfl rfl V0 rfl rfl λh9 l9 hl9 c9=>?_
        have hall:=c9.all (k:=(0,0)) (n:=7) (l:=l9) (B:=R) (e:=T.bc) V7
        simp at hall
        simp[hall]
        exact hK _ _ (cr.of c9 (hl9▸fT) (by rw[he];rfl) λy e=>by rw[he]at e;cases e)
      | true=>
        have he:gI s.f s.t pat=VE ⟨m.args,s.t.args,[],⟨pat-31,nth m.args 0,nth m.args 1,s.t.to,⟨0⟩⟩⟩:=by rw[hE];rfl
        obtain⟨mm1,mm2,-⟩:=hfm rfl
        have hal2:=(hok.all _ mm1).two V4
        have hmost:=(hok.all _ mm1).most
        have r0:=hma.rng (i:=0) V4
        have r1:=hma.rng (i:=1) V4
        have x2':=hma.idx1 (k:=.i64) (i:=0) rfl V6 V4
        have x3':=hma.idx1 (k:=.i64) (i:=1) rfl V6 V4
        refine aa λy hy=>?_
        simp
        subst hy
        refine aa λy hy=>?_
        refine aQ (vw h) Vy ?_
        have d2':=hma.int (Vz Vx c.wle) (i:=0) V4
        have d3':=hma.int (Vz Vx c.wle) (i:=1) V4
        have s1h:=ae (Vz Vx c.wle) s1
        have d0h:=hva4.int (Vz Vx c.wle) (i:=0) al
        have hva5:=hva4.mono Vx
        have hto5:=hto.mono Vx
        have hma5:=hma.mono Vx
        have hH:(vw h).le (vw h):=View.le_refl _
        have hr : ∀{X:View} {bA bB:Option Addr} {kA kB:Nat},SlRd X (.slice bA m.args.length kA) m.args->SlRd X (.slice bB s.t.args.length kB) s.t.args->SlRd X (.slice b0 s.t.to.length k0) s.t.to->Rd X (.agg #[.slice bA m.args.length kA,.slice bB s.t.args.length kB,VG VF 0 0,VB VC (pat-31),VB VC (nth m.args 0),VB VC (nth m.args 1),.slice b0 s.t.to.length k0,VB VD 0]) (⟨m.args,s.t.args,[],⟨pat-31,nth m.args 0,nth m.args 1,s.t.to,⟨0⟩⟩⟩:FitD):=λq1 q2 q3=>nY (ce:=[_,_,_,_,_]) q1 q2 aO (mg (imm:=⟨0⟩) Vv V5 q3)
        repeat' (first
          | refine jo ?_ ?_
          | (refine df λx hx=>?_
             simp[y10,s1h,x2',x3',d2',d3',ew2]
             first
             | refine aA (t:=T.eU) (z:=.agg #[VB VC 0,VB VC 0,VB VC 0,VG VF 0 0,VB VD 0]) (places:=zpa) (vs:=[(0,VB VC (pat-31)),(1,VB VC (nth m.args 0)),(2,VB VC (nth m.args 1)),(3,.slice b0 s.t.to.length k0)]) (cs:=#[VB VC (pat-31),VB VC (nth m.args 0),VB VC (nth m.args 1),.slice b0 s.t.to.length k0,VB VD 0]) V0 V0 V5 (by simp[Instr.fill,Value.cells]) ?_
             | (refine ah V0 (eM c.wle (hma5.mono Vx) V4) ?_
                rintro uA h ⟨hle,hcA⟩
                have hW:=c.up (h':=h)
                have c:=c.ext hle
                have hcA0:=hcA
                obtain⟨bA,kA,rfl,-⟩:=hcA0)
             | (refine ah V0 (eM c.wle (hva5.mono Vx) V4) ?_
                rintro uB h ⟨hle,hcB⟩
                have hW:=c.up (h':=h)
                have c:=c.ext hle
                have hcB0:=hcB
                obtain⟨bB,kB,rfl,-⟩:=hcB0)
             | refine aA (t:=T.bc) (z:=.agg fitZ.toArray) (places:=zpc) (vs:=[(0,.slice bA m.args.length kA),(1,.slice bB s.t.args.length kB),(3,.agg #[VB VC (pat-31),VB VC (nth m.args 0),VB VC (nth m.args 1),.slice b0 s.t.to.length k0,VB VD 0])]) (cs:=#[.slice bA m.args.length kA,.slice bB s.t.args.length kB,VG VF 0 0,VB VC (pat-31),VB VC (nth m.args 0),VB VC (nth m.args 1),.slice b0 s.t.to.length k0,VB VD 0]) V0 V0 V5 (by simp[Instr.fill,Value.cells]) ?_
             | refine c.bI (k:=(0,0)) (n:=7) (l:=fitZ) V7 (hr (hcA.mono Vx) (hcB.mono Vx) (hto5.mono Vx)) rfl rfl V0 rfl rfl λh l9 hl9 c=>?_
             try refine⟨Vx,?_⟩
             subst hx))
        all_goals
          simp
          rw[hy]
          have hall:=c.all (k:=(0,0)) (n:=7) (l:=l9) (B:=R) (e:=T.bc) V7
          simp at hall
          simp[hall]
          exact hK _ _ (cr.of c (hl9▸hr (hcA.mono Vx) (hcB.mono Vx) (hto5.mono Vx)) (by rw[he];rfl) λy e=>by rw[he]at e;cases e;rfl)
  refine gO (λρ h5=>h5=h4/\ρ=[(0,v),(1,VB VC pat),(2,ptr S),(4,ptr R),(5,.bool VJ),(6,ptr Tb),(7,.slice b0 s.t.to.length k0),(13,ut),(16,.slice b0 s.t.to.length k0),(81,.bool VJ),(83,.bool (inR pat 34 36))]) ?_ ?_
  · intro K2 hK2
    simp
    refine ah V0 kL ?_
    rintro _ h4 ⟨rfl,rfl⟩
    by_cases e0:inR pat 34 36=VI
    · have e2:¬s.t.kind=2:=λe=>p5 ⟨by simpa[inR]using e0,e⟩
      simp[e0,z0,e2]
      exact hK2 _ _ ⟨rfl,by rw[e0]⟩
    · have e0:inR pat 34 36=false:=by simpa using e0
      simp[e0]
      exact hK2 _ _ ⟨rfl,by rw[e0]⟩
  rintro _ h4 ⟨rfl,rfl⟩
  subst hy
  refine bf V5 ?_
  refine aa λy hy=>?_
  by_cases p6:pat=37/\s.t.kind=3
  · have he:gI s.f s.t pat=VE ⟨s.t.args,[],[],⟨6,nth s.t.args 0,0,s.t.to,⟨0⟩⟩⟩:=by unfold gI;rw[if_neg p1,if_neg p2,if_neg p3,if_neg p4,if_neg p5,if_pos p6]
    have al:=htk.one V4
    have a0:=hva4.rng (i:=0) al
    have x0:=hva4.idx1 (k:=.i64) (i:=0) rfl V6 V4
    have d0:=hva4.int (View.le_refl W4) (i:=0) al
    simp[p6.1,z0,p6.2]
    subst hy
    refine aT V5 ?_
    refine aa λy hy=>?_
    refine aQ W4 c4.wle ?_
    simp[s1,x0,d0]
    refine⟨?_,?_⟩
    · refine ah V0 (eM c4.wle hva4 V4) ?_
      rintro ucl h5 ⟨hle5,hcl⟩
      have c5:=c4.ext hle5
      have hW5:=c4.up (h':=h5)
      refine⟨Vz hW5 c5.wle,?_⟩
      have hcl0:=hcl
      obtain⟨b1,k1,rfl,-⟩:=hcl0
      generalize grow W4 h4 h5=W5 at *
      refine aA (t:=T.eU) (z:=.agg #[VB VC 0,VB VC 0,VB VC 0,VG VF 0 0,VB VD 0]) (places:=zpa) (vs:=[(0,VB VC 6),(1,VB VC (nth s.t.args 0)),(3,.slice b0 s.t.to.length k0)]) (cs:=#[VB VC 6,VB VC (nth s.t.args 0),VB VC 0,.slice b0 s.t.to.length k0,VB VD 0]) V0 V0 V5 (by simp[Instr.fill,Value.cells]) ?_
      refine⟨Vz hW5 c5.wle,?_⟩
      refine aA (t:=T.bc) (z:=.agg fitZ.toArray) (places:=zpc) (vs:=[(0,.slice b1 s.t.args.length k1),(3,.agg #[VB VC 6,VB VC (nth s.t.args 0),VB VC 0,.slice b0 s.t.to.length k0,VB VD 0])]) (cs:=#[.slice b1 s.t.args.length k1,VG VF 0 0,VG VF 0 0,VB VC 6,VB VC (nth s.t.args 0),VB VC 0,.slice b0 s.t.to.length k0,VB VD 0]) V0 V0 V5 (by simp[Instr.fill,Value.cells]) ?_
      have hr:Rd W5 (.agg #[.slice b1 s.t.args.length k1,VG VF 0 0,VG VF 0 0,VB VC 6,VB VC (nth s.t.args 0),VB VC 0,.slice b0 s.t.to.length k0,VB VD 0]) (⟨s.t.args,[],[],⟨6,nth s.t.args 0,0,s.t.to,⟨0⟩⟩⟩:FitD):=nY (ce:=[_,_,_,_,_]) hcl aO aO (mg (imm:=⟨0⟩) Vv V5 (hto.mono hW5))
      refine c5.bI (k:=(0,0)) (n:=7) (l:=fitZ) V7 hr rfl rfl V0 rfl rfl λh9 l9 hl9 c9=>?_
      subst hy
      have hall:=c9.all (k:=(0,0)) (n:=7) (l:=l9) (B:=R) (e:=T.bc) V7
      simp at hall
      simp[hall]
      exact hK _ _ (cr.of c9 (hl9▸hr) (by rw[he];rfl) λy e=>by rw[he]at e;cases e;rfl)
    · refine aA (t:=T.eU) (z:=.agg #[VB VC 0,VB VC 0,VB VC 0,VG VF 0 0,VB VD 0]) (places:=zpa) (vs:=[(0,VB VC 6),(1,VB VC (nth s.t.args 0)),(3,.slice b0 s.t.to.length k0)]) (cs:=#[VB VC 6,VB VC (nth s.t.args 0),VB VC 0,.slice b0 s.t.to.length k0,VB VD 0]) V0 V0 V5 (by simp[Instr.fill,Value.cells]) ?_
      refine⟨c4.wle,?_⟩
      refine ah V0 (eM c4.wle hva4 V4) ?_
      rintro ucl h5 ⟨hle5,hcl⟩
      have c5:=c4.ext hle5
      have hW5:=c4.up (h':=h5)
      refine⟨Vz hW5 c5.wle,?_⟩
      have hcl0:=hcl
      obtain⟨b1,k1,rfl,-⟩:=hcl0
      generalize grow W4 h4 h5=W5 at *
      refine aA (t:=T.bc) (z:=.agg fitZ.toArray) (places:=zpc) (vs:=[(0,.slice b1 s.t.args.length k1),(3,.agg #[VB VC 6,VB VC (nth s.t.args 0),VB VC 0,.slice b0 s.t.to.length k0,VB VD 0])]) (cs:=#[.slice b1 s.t.args.length k1,VG VF 0 0,VG VF 0 0,VB VC 6,VB VC (nth s.t.args 0),VB VC 0,.slice b0 s.t.to.length k0,VB VD 0]) V0 V0 V5 (by simp[Instr.fill,Value.cells]) ?_
      have hr:Rd W5 (.agg #[.slice b1 s.t.args.length k1,VG VF 0 0,VG VF 0 0,VB VC 6,VB VC (nth s.t.args 0),VB VC 0,.slice b0 s.t.to.length k0,VB VD 0]) (⟨s.t.args,[],[],⟨6,nth s.t.args 0,0,s.t.to,⟨0⟩⟩⟩:FitD):=nY (ce:=[_,_,_,_,_]) hcl aO aO (mg (imm:=⟨0⟩) Vv V5 (hto.mono hW5))
      refine c5.bI (k:=(0,0)) (n:=7) (l:=fitZ) V7 hr rfl rfl V0 rfl rfl λh9 l9 hl9 c9=>?_
      subst hy
      have hall:=c9.all (k:=(0,0)) (n:=7) (l:=l9) (B:=R) (e:=T.bc) V7
      simp at hall
      simp[hall]
      exact hK _ _ (cr.of c9 (hl9▸hr) (by rw[he];rfl) λy e=>by rw[he]at e;cases e;rfl)
  refine gO (λρ h5=>h5=h4/\ρ=[(0,v),(1,VB VC pat),(2,ptr S),(4,ptr R),(5,.bool VJ),(6,ptr Tb),(7,.slice b0 s.t.to.length k0),(13,ut),(16,.slice b0 s.t.to.length k0),(83,.bool (inR pat 34 36)),(124,.bool VJ)]) ?_ ?_
  · intro K2 hK2
    by_cases e0:pat=37
    · have e2:¬s.t.kind=3:=λe=>p6 ⟨e0,e⟩
      simp[e0,z0,e2]
      exact hK2 _ _ ⟨rfl,by rw[e0]⟩
    · simp[e0,z0]
      exact hK2 _ _ ⟨rfl,rfl⟩
  rintro _ h4 ⟨rfl,rfl⟩
  subst hy
  refine bf V5 ?_
  have he:gI s.f s.t pat=none:=by unfold gI;rw[if_neg p1,if_neg p2,if_neg p3,if_neg p4,if_neg p5,if_neg p6]
  simp
  subst hz
  refine aa λz hz=>?_
  simp
  refine aA (z:=.agg fitZ.toArray) (places:=zpc) (vs:=[]) (cs:=fitZ.toArray) V0 V0 V5 V0 ?_
  refine c4.bI (k:=(0,0)) (n:=7) (l:=fitZ) V7 fT rfl rfl V0 rfl rfl λh9 l9 hl9 c9=>?_
  subst hz
  have hall:=c9.all (k:=(0,0)) (n:=7) (l:=l9) (B:=R) (e:=T.bc) V7
  simp at hall
  simp[hall]
  exact hK _ _ (cr.of c9 (hl9▸fT) (by rw[he];rfl) λy e=>by rw[he]at e;cases e)
theorem Cx.upW{V W W':View}{h0 h h':Heap}{o:Own}(c:Cx V h0 W h o)(hle:(vw h).le (vw h'))(u:Up W h W')(hW:W'.le (vw h')):Cx V h0 W' h' o:=by
 have A : ∀k i b,o k=VE i->i.v.ownBlock=VE b->W' b=none:=λk i b hk hb=>by
  have hlt:=c.own.lt hk hb;have hav:=c.own.av k i hk b hb;cases hx:W' b with
  | none=>rfl
  | some x=>rw[u.old b x hlt hx]at hav;cases hav
 exact⟨(c.own.ext' hle).N8 u.le hW A,λb x hb hx=>c.old b x hb (u.old b x (SY hb (bO c.le0)) hx),Vz c.le0 hle,c.new⟩
theorem OR{s:cD}{v:Value}{pat:Int}{h:Heap}{W:View}(hW:W.le (vw h))(hv:Rd W v s)(hok:s.term=VJ->mY s)(htk:s.term=VI->mY s/\yV s.t)(hM:s.i.op=15\/s.i.op=16->iG)(hp:I64 pat):
  az VK 93 #[v,VB VC pat] h (λu h'=>cr W h h' u (tryS s pat)):=by
 refine aq (args:=[v,VB VC pat]) follows Tryz.func93 E.mB Vw λK hK=>?_;dsimp only[L.mB,lkF,lkG];have c0:=Cx.start hW;refine aa λz hz=>?_;simp;refine c0.ef rfl hv λS h1 W1 hW1 c1 at1 hle1=>?_;refine c1.dc (k:=(0,0)) (n:=7) (z:=.agg fitZ.toArray) rfl V0 rfl V6 Vu λR h2 hle2 c2=>?_;subst hz;have tm:=(at1.part cD.mV).bool;have tm:ao W1 ⟨S,11,VF⟩=VE (.bool s.term):=by simpa using tm
 have tm:=ae c2.wle tm;obtain⟨us,hus,rus⟩:=at1.ldN rfl (N:=13) rfl;have hus:=hus _ c2.wle;refine aa λz hz=>?_;cases ht:s.term with
 | true=>
  rw[ht]at tm;obtain⟨hk1,hk2⟩:=htk ht;have e:tryS s pat=gI s.f s.t pat:=by unfold tryS;rw[if_pos ht]
  rw[e]at hK;simp[tm,hus];refine ah V0 (PK c2.wle rus hk1 hk2 hp) ?_;rintro _ h3 ⟨hle3,vf,x,rfl,hvf,hx⟩;have c3:=c2.ext hle3;simp;refine c3.bI (k:=(0,0)) (n:=7) (l:=fitZ) V7 hvf rfl rfl V0 rfl rfl λh9 l9 hl9 c9=>?_;have hall:=c9.all (k:=(0,0)) (n:=7) (l:=l9) (B:=R) (e:=T.bc) V7;simp at hall;simp[hall];exact hK _ _ (cr.of c9 (hl9▸hvf) rfl hx)
 | false=>
  rw[ht]at tm;have e:tryS s pat=patS s.f s.i s.temp pat:=by unfold tryS;rw[ht];rfl
  rw[e]at hK;simp[tm];subst hz;refine aa λz hz=>?_;simp[hus];refine ah V0 (D2 c2.wle rus (hok ht) ht hM) ?_;rintro _ h3 ⟨r,W3,rfl,u3,p3,hle3⟩;have c3:=Cx.upW c2 hle3 u3 p3.wle;obtain⟨g,g1,g2,g3⟩:=p3.ex;refine oW (f:=mapE id g) (z:=.nilFunc) (k:=T.int) (e:=T.gV) (d:=.int .i64) (r:=r) (u:=VB VC pat) U.cS U.int V0 rfl rfl cQ g1 ?_;simp;subst hz;refine aa λz hz=>?_;have g2p:=g2 pat;have g3p:=g3 pat;cases hg:g pat with
  | none=>
   rw[hg]at g2p;have e0:patS s.f s.i s.temp pat=none:=by unfold patS;rw[if_neg];rintro⟨a1,a2,-⟩;simp[nTo]at g2p;omega
   rw[e0]at hK;simp;refine aA (t:=T.bc) (z:=.agg fitZ.toArray) (places:=zpc) (vs:=[]) (cs:=fitZ.toArray) V0 V0 V5 V0 ?_;refine c3.bI (k:=(0,0)) (n:=7) (l:=fitZ) V7 fT rfl rfl V0 rfl rfl λh9 l9 hl9 c9=>?_;have hall:=c9.all (k:=(0,0)) (n:=7) (l:=l9) (B:=R) (e:=T.bc) V7;simp at hall;simp[hall];exact hK _ _ (cr.of c9 (hl9▸fT) rfl λy e=>by cases e)
  | some fv=>obtain⟨fn,caps,rfl,hfn,hcall⟩:=(g3p fv hg).ex;simp;subst hz;refine aa λz hz=>?_;simp;refine bY (ops:=[]) rfl hfn (by simpa using hcall h3 W3 Vy p3.wle) ?_;rintro _ h4 ⟨hle4,vf,x,rfl,hvf,hx⟩;have c4:=c3.ext hle4;simp;refine c4.bI (k:=(0,0)) (n:=7) (l:=fitZ) V7 hvf rfl rfl V0 rfl rfl λh9 l9 hl9 c9=>?_;subst hz;have hall:=c9.all (k:=(0,0)) (n:=7) (l:=l9) (B:=R) (e:=T.bc) V7;simp at hall;simp[hall];exact hK _ _ (cr.of c9 (hl9▸hvf) rfl hx)
abbrev RSt:=List Bool × List Int
def lu (wo:Int) (to:List Int) (k:Nat) (s:RSt):RSt:=
 if(0<=nth to k/\nth to k<s.1.length)/\nth s.1 (nth to k).toNat=VJ/\nth to k≠wo then(s.1.set (nth to k).toNat VI,s.2++[nth to k]) else s
def y8 (f:ak) (wo:Int) (i:Nat) (s:RSt):RSt:=up (lu wo (nth f.blocks (nth s.2 i).toNat).term.to) (nth f.blocks (nth s.2 i).toNat).term.to.length s
def rchS (f:ak) (wo:Int):Nat->Nat->RSt->RSt
 | 0,_,s=>s
 | n+1,i,s=>if i<s.2.length then rchS f wo n (i+1) (y8 f wo i s) else s
def rch0 (f:ak) (wo:Int):RSt:=if wo≠0/\0<f.blocks.length then((List.replicate f.blocks.length VJ).set 0 VI,[0]) else(List.replicate f.blocks.length VJ,[])
def eY (f:ak) (wo:Int):List Bool:=(rchS f wo (f.blocks.length+1) 0 (rch0 f wo)).1
structure ROk (n:Nat) (s:RSt):Prop where
 len:s.1.length=n
 cnt:s.2.length+dI s.1<=n
 rng : ∀x∈s.2,0<=x/\x<n
variable{wo:Int}
theorem EK{n:Nat}{to:List Int}{k:Nat}{s:RSt}(h:ROk n s):ROk n (lu wo to k s):=by
 unfold lu;split
 ·rename_i hc;have hf:=kG (t:=s.1) (i:=(nth to k).toNat) V4 hc.2.1;refine⟨by simpa using h.len,?_,λx hx=>?_⟩
  ·have:=h.cnt;simp only[RZ,Sp];omega
  rcases RW.1 hx with hx | hx
  ·exact h.rng x hx
  rw[RR.1 hx,<-h.len];exact hc.1
 exact h
theorem zU{n:Nat}{to:List Int}{s:RSt}(h:ROk n s)(m:Nat):ROk n (up (lu wo to) m s):=xk (ROk n) (λk x hx=>EK hx) m s h
theorem Cd{f:ak}:ROk f.blocks.length (rch0 f wo):=by
 unfold rch0;have hfa:dI (List.replicate f.blocks.length VJ)=f.blocks.length:=by simp[dI]
 split
 ·rename_i hc;have hf:=kG (t:=List.replicate f.blocks.length VJ) (i:=0) (by simpa using hc.2) (by rw[ay (by simpa using hc.2)];simp);exact⟨by simp,by simp only[Sp];omega,λx hx=>by rw[RR.1 hx];omega⟩
 exact⟨by simp,by simp only[Uv];omega,λx hx=>by cases hx⟩
theorem Hl {f:ak} {wo:Int} : ∀{m i:Nat} {s:RSt},ROk f.blocks.length s->ROk f.blocks.length (rchS f wo m i s)
 | 0,_,_,h=>h
 | m+1,i,s,h=>by
  rw[rchS];split
  ·exact Hl (zU h _)
  exact h
theorem wz{f:ak}:(eY f wo).length=f.blocks.length:=(Hl Cd).len
def uK (vo vq:Value) (s:RSt):Own:=λk=>if k=(0,0) then it T.bool vo s.1 else if k=(0,1) then it T.int vq s.2 else VF
theorem zA{f:ak}{v:Value}{h:Heap}(hv:Rd (vw h) v f)(hn:f.blocks.length<=1000000):
  az VK 38 #[v,VB VC wo] h (λu h'=>(vw h).le (vw h')/\SlRd (fresh h h') u (eY f wo)):=by
 refine aq (args:=[v,VB VC wo]) follows Tryz.func38 E.cJ Vw λK hK=>?_;dsimp only[L.cJ,lkF,lkG];refine aa λz hz=>?_;simp;refine gP rfl hv λh1 _ hle1 hsz1 hat=>?_;obtain⟨_,vb,cb⟩:=fw hat;generalize h.size=B at cb;subst hz;refine aa λz hz=>?_;simp[cb.1,cb.2.len];refine pb (α:=Bool) (W:=vw h1) (k:=.i64) (n:=f.blocks.length) (d:=false) El.qS V5 V5 rfl V4 V4 λvo h2 o2 m2 hle2 hb2=>?_;have w2:=(Owns.start (h:=h1) (View.le_refl (vw h1))).add (k:=(0,0)) rfl o2 hle2 (λb hb=>by rw[hb2]at hb;cases hb;exact RQ _);subst hz;refine aa λz hz=>?_;simp;refine qL (α:=Int) El.aY λh3 hle3 hsz3 own3=>?_;have w3:=w2.add (k:=(0,1)) rfl (own3 _) hle3 (λb hb=>by simp only[Value.ownBlock,RP]at hb;omega);have w3:Owns (vw h1) h3 (uK vo (VG (VE ⟨h2.size,0,VF⟩) 0 0) (List.replicate f.blocks.length VJ,[])):=w3.congr λq=>by
  unfold uK Own.upd;repeat' split
  all_goals first | rfl | simp_all
 generalize VG (VE ⟨h2.size,0,VF⟩) 0 0=vq at w3;subst hz;refine aa λz hz=>?_;have cc3:=ae w3.wle cb.1;have cb3:=cb.2.mono w3.wle;have fin : ∀(h4:Heap) (vq:Value) (tl:Env),Owns (vw h1) h4 (uK vo vq (rch0 f wo))->@LC.wp noPP VK z (@dT [.tmp 4] K) ([(0,v),(1,VB VC wo),(2,ptz B),(4,VG VF 0 0),(5,vo),(6,vq)]++tl) h4:=by
  intro h4 vq tl w4;subst hz;refine aa λz hz=>?_;simp;refine jv [1,2,5,6,7] (λm ρ h5=>∃(i:Nat) (s:RSt) (vq:Value),i<=f.blocks.length/\m=f.blocks.length+1-i/\ρ=[(1,VB VC wo),(2,ptz B),(5,vo),(6,vq),(7,VB VC i)]/\Owns (vw h1) h5 (uK vo vq s)/\ROk f.blocks.length s/\
   (rchS f wo m i s).1=eY f wo) (f.blocks.length+1) ⟨0,_,vq,by omega,rfl,by simp[bh,af],w4,Cd,rfl⟩ ?_;rintro m ρ h5 ⟨i,s,vq5,hi,rfl,rfl,w5,hok,hfin⟩ K2 hK2;have no:=w5.now (k:=(0,0)) (v:=vo) (l:=s.1) rfl;have nq:=w5.now (k:=(0,1)) (v:=vq5) (l:=s.2) rfl;have hcnt:=hok.cnt;by_cases hlt:i<s.2.length
  ·have hm:f.blocks.length+1-i=(f.blocks.length-i)+1:=by omega
   rw[hm,rchS,if_pos hlt]at hfin;obtain⟨r0,r1⟩:=hok.rng _ (aX hlt);have cb5:=cb.2.mono w5.wle;obtain⟨w,hw⟩:=C0 cb5 (i:=(nth s.2 i).toNat) V4;obtain⟨w',hw'⟩:=C0 cb.2 (i:=(nth s.2 i).toNat) V4;have eww:w'=w:=Option.some.inj ((ae w5.wle hw'.1).symm.trans hw.1);rw[eww]at hw';have hwb:=hw.2.bound;have hrow:y8 f wo i s=up (lu wo (nth f.blocks (nth s.2 i).toNat).term.to) (nth f.blocks (nth s.2 i).toNat).term.to.length s:=rfl;rw[hrow]at hfin;generalize hto:(nth f.blocks (nth s.2 i).toNat).term.to=to at hw hw' hwb hfin;refine aa λy hy=>?_;simp(disch:=omega)[nq.len,hlt];subst hy;refine aa λy hy=>?_;refine aa λx hx=>?_;simp(disch:=omega)[ae w5.wle cb.1,cb5.idxn (N:=6) rfl,nq.idx1 rfl,nq.int Vy,hw.1];subst hx;simp;refine dQ [1,2,5,6,7,8,9] (fun(q:Value) j=>[VB VC wo,ptz B,vo,q,VB VC i,w,VB VC j]) (λq j h6=>Owns (vw h1) h6 (uK vo q (up (lu wo to) j s))) to.length vq5
    rfl V4 rfl w5 (λ_ _=>rfl) (λv j h4 hk m=>by simp[hw.2.len]) ?_ ?_
   ·rintro q j h6 hltj w6 K3 hK3;have hst:up (lu wo to) (j+1) s=lu wo to j (up (lu wo to) j s):=rfl;have hok6:=zU (wo:=wo) (to:=to) hok j;generalize up (lu wo to) j s=s6 at w6 hst hok6;have no6:=w6.now (k:=(0,0)) (v:=vo) (l:=s6.1) rfl;have nq6:=w6.now (k:=(0,1)) (v:=q) (l:=s6.2) rfl;have hcnt6:=hok6.cnt;have hlen6:=hok6.len;have hr6:=hw'.2.mono w6.wle;have hrng:=hw'.2.range hltj;rw[lu]at hst;by_cases c1:0<=nth to j/\nth to j<s6.1.length
    ·have c1a:=c1.1;have c1b:=c1.2;cases c2:nth s6.1 (nth to j).toNat with
     | true=>rw[if_neg (by rw[c2];simp)]at hst;simp(disch:=omega)[hr6.idx1 rfl,hr6.int Vy,no6.len,no6.idx1 rfl,no6.bool Vy,c1a,c1b,c2];exact hK3 q _ _ rfl rfl (by rw[hst];exact w6)
     | false=>
      by_cases c3:nth to j=wo
      ·rw[if_neg (by simp[c3])]at hst;rw[c3]at c1a c1b c2;simp(disch:=omega)[hr6.idx1 rfl,hr6.int Vy,no6.len,no6.idx1 rfl,no6.bool Vy,c1a,c1b,c2,c3];exact hK3 q _ _ rfl rfl (by rw[hst];exact w6)
      rw[if_pos ⟨c1,c2,c3⟩]at hst;refine aa λx hx=>?_;simp(disch:=omega)[hr6.idx1 rfl,hr6.int Vy,no6.len,no6.idx1 rfl,no6.bool Vy,c1a,c1b,c2,c3];subst hx;simp(disch:=omega)[hr6.idx1 rfl,hr6.int Vy,no6.idx1 rfl];refine w6.bI (k:=(0,0)) (α:=Bool) (l:=s6.1) (v:=vo) (i:=(nth to j).toNat) (d:=true) rfl V0 (by simp[show Rep.n Bool=1 from rfl]) (by simp<;>rfl) V4 OZ λh7 w7 hs7=>?_;have hr7:=hw'.2.mono w7.wle;simp(disch:=omega)[hr7.idx1 rfl,hr7.int Vy];refine w7.gu (k:=(0,1)) (α:=Int) (v:=q) (l:=s6.2) (d:=nth to j) rfl El.aY (by simp<;>rfl) (sG hrng.1 hrng.2) V4 V4 V8 V8 λu q8 h8 w8 hs8=>?_;refine hK3 q8 _ _ rfl rfl ?_;rw[hst];refine w8.congr λq=>?_;unfold uK Own.upd;repeat' split
      all_goals first | rfl | simp_all
    rw[if_neg (λe=>c1 e.1)]at hst;by_cases c1a:0<=nth to j
    ·have c1b:¬nth to j<s6.1.length:=λe=>c1 ⟨c1a,e⟩;simp(disch:=omega)[hr6.idx1 rfl,hr6.int Vy,no6.len,c1a,c1b];exact hK3 q _ _ rfl rfl (by rw[hst];exact w6)
    simp(disch:=omega)[hr6.idx1 rfl,hr6.int Vy,no6.len,c1a];exact hK3 q _ _ rfl rfl (by rw[hst];exact w6)
   rintro q h6 w6;simp;subst hy;simp(disch:=omega);exact hK2 (f.blocks.length+1-(i+1)) _ _ V4 ⟨i+1,_,q,by omega,rfl,by simp[bh],w6,zU hok _,by rw[show f.blocks.length+1-(i+1)=f.blocks.length-i by omega];exact hfin⟩
  have hlt':¬(i:Int)<s.2.length:=by omega
  simp(disch:=omega)[L.cJ.l1,nq.len,hlt];subst hz;simp;have hs1:s.1=eY f wo:=by
   rw[<-hfin];cases f.blocks.length+1-i with
   | zero=>rfl
   | succ m=>rw[rchS,if_neg hlt]
  have ow:=w5.get (k:=(0,0)) (v:=vo) (l:=s.1) rfl;refine hK _ _ ⟨Vz hle1 w5.wle,?_⟩;rw[<-hs1];have ow':OwnT nothing h5 T.bool vo s.1:=ow;refine ow'.fresh (λ_ _ h=>by cases h) λb hb=>?_;rw[hb2]at hb;cases hb;exact View.cg Vy V4
 by_cases c1:wo=0
 ·have hr0:rch0 f wo=(List.replicate f.blocks.length VJ,[]):=by rw[rch0,if_neg (λe=>e.1 c1)]
  rw[hr0]at fin;simp[cc3,cb3.len,c1];rw[c1]at fin;exact fin _ _ _ w3
 by_cases c2:0<f.blocks.length
 ·have hr0:rch0 f wo=((List.replicate f.blocks.length VJ).set 0 VI,[0]):=by rw[rch0,if_pos ⟨c1,c2⟩]
  rw[hr0]at fin;have no:=w3.now (k:=(0,0)) (v:=vo) (l:=List.replicate f.blocks.length VJ) rfl;refine aa λy hy=>?_;simp(disch:=omega)[cc3,cb3.len,c1,c2];subst hy;have i0:Bn.ev (.idx 1) vo (VB VC 0)=VE (VH (VE ((slA vo).add 0))):=no.idx1 rfl V4 (by simpa using c2);simp(disch:=omega)[i0];refine w3.bI (k:=(0,0)) (α:=Bool) (l:=List.replicate f.blocks.length VJ) (v:=vo) (i:=0) (d:=true) rfl V0 (by simp[show Rep.n Bool=1 from rfl]) (by simp<;>rfl) (by simpa using c2) OZ λh4 w4 hs4=>?_;refine w4.gu (k:=(0,1)) (α:=Int) (v:=vq) (l:=[]) (d:=0) rfl El.aY (by simp<;>rfl) (sG V4 V4) V5 V5 V8 V8 λu q5 h5 w5 hs5=>?_;refine fin _ _ _ (w5.congr λq=>?_);unfold uK Own.upd;repeat' split
  all_goals first | rfl | simp_all
 have hr0:rch0 f wo=(List.replicate f.blocks.length VJ,[]):=by rw[rch0,if_neg (λe=>c2 e.2)]
 rw[hr0]at fin;simp[cc3,cb3.len,c1,c2];exact fin _ _ _ w3
theorem nu{l:List BlkD}:(ofG l).length=l.length:=by simp[ofG]
variable{b:Int}
theorem qg{l:List BlkD}{a:Int}:pS (ofG l) a b=VI↔(0<=a/\a<l.length/\0<=b/\b<l.length)/\b∈(nth l a.toNat).term.to:=by
 rw[jE,nu];constructor
 ·rintro⟨h,hm⟩;rw[ofG,gC V4,wF]at hm;exact⟨h,hm.1⟩
 rintro⟨h,hm⟩;refine⟨h,?_⟩;rw[ofG,gC V4,wF];exact⟨hm,h.2.2.1,h.2.2.2⟩
structure Rb (f:ak) (wo:Int) (s:RSt):Prop where
 ok:ROk f.blocks.length s
 seen : ∀b:Nat,b<f.blocks.length->(nth s.1 b=VI↔(b:Int)∈s.2)
 sound : ∀x∈s.2,Re (ofG f.blocks) wo x.toNat
theorem QB{f:ak}{a:Int}{k:Nat}{s:RSt}(h:Rb f wo s)(h0:0<=a)(h1:a<f.blocks.length)(ha:Re (ofG f.blocks) wo a.toNat)(hk:k<(nth f.blocks a.toNat).term.to.length):
  Rb f wo (lu wo (nth f.blocks a.toNat).term.to k s)/\s.2 <+: (lu wo (nth f.blocks a.toNat).term.to k s).2/\
   (0<=nth (nth f.blocks a.toNat).term.to k->nth (nth f.blocks a.toNat).term.to k<f.blocks.length->nth (nth f.blocks a.toNat).term.to k≠wo->nth (nth f.blocks a.toNat).term.to k∈(lu wo (nth f.blocks a.toNat).term.to k s).2):=by
 have hok:=EK (wo:=wo) (to:=(nth f.blocks a.toNat).term.to) (k:=k) h.ok;have hm:=aX hk;unfold lu at hok ⊢;generalize hto:(nth f.blocks a.toNat).term.to=to at hm hok ⊢;split
 ·rename_i hc;rw[if_pos hc]at hok;obtain⟨⟨c1,c2⟩,c3,c4⟩:=hc;rw[h.ok.len]at c2;have hb:((nth to k).toNat:Int)=nth to k:=Sr c1;refine⟨⟨hok,λb hb=>?_,λx hx=>?_⟩,List.prefix_append _ _,λ_ _ _=>SE _ (RR.2 rfl)⟩
  ·rw[RW,RR];by_cases he:b=(nth to k).toNat
   ·subst he;rw[bj (by rw[h.ok.len];omega),if_pos rfl];exact⟨λ_=>.inr (Sr c1),λ_=>rfl⟩
   rw[bj (by rw[h.ok.len];exact hb),if_neg (λe=>he e.symm),h.seen b hb];exact⟨.inl,λe=>e.resolve_right V4⟩
  rcases RW.1 hx with hx | hx
  ·exact h.sound x hx
  rw[RR.1 hx];refine .step ha ?_ (by rw[hb];exact c4);rw[qg,hb];exact⟨⟨by omega,by omega,c1,c2⟩,by rw[Si,hto];exact hm⟩
 rename_i hc;rw[if_neg hc]at hok;refine⟨h,T8 _,λc1 c2 c4=>?_⟩;have hb:((nth to k).toNat:Int)=nth to k:=Sr c1;rw[<-hb,<-h.seen _ V4];cases e:nth s.1 (nth to k).toNat with
 | true=>rfl
 | false=>exact absurd ⟨⟨c1,by rw[h.ok.len];exact c2⟩,e,c4⟩ hc
theorem L4 {f:ak} {wo a:Int} {s:RSt} (h:Rb f wo s) (h0:0<=a) (h1:a<f.blocks.length) (ha:Re (ofG f.blocks) wo a.toNat) : ∀m,m<=(nth f.blocks a.toNat).term.to.length->
  Rb f wo (up (lu wo (nth f.blocks a.toNat).term.to) m s)/\s.2 <+: (up (lu wo (nth f.blocks a.toNat).term.to) m s).2/\
   ∀k,k<m->0<=nth (nth f.blocks a.toNat).term.to k->nth (nth f.blocks a.toNat).term.to k<f.blocks.length->nth (nth f.blocks a.toNat).term.to k≠wo->nth (nth f.blocks a.toNat).term.to k∈(up (lu wo (nth f.blocks a.toNat).term.to) m s).2
 | 0,_=>⟨h,T8 _,λk hk=>by omega⟩
 | m+1,hm=>by
  obtain⟨i1,i2,i3⟩:=L4 h h0 h1 ha m V4;obtain⟨j1,j2,j3⟩:=QB (k:=m) i1 h0 h1 ha V4;rw[up];refine⟨j1,i2.trans j2,λk hk c1 c2 c3=>?_⟩;rcases RX k m with hlt | hge
  ·exact j2.subset (i3 k hlt c1 c2 c3)
  have:k=m:=by omega
  subst this;exact j3 c1 c2 c3
structure Rc (f:ak) (wo:Int) (i:Nat) (s:RSt):Prop where
 b:Rb f wo s
 root:wo≠0->0<f.blocks.length->(0:Int)∈s.2
 done : ∀j,j<i->j<s.2.length->∀b:Nat,pS (ofG f.blocks) (nth s.2 j) b=VI->(b:Int)≠wo->(b:Int)∈s.2
variable{α:Type}
theorem G7[Inhabited α]{a b:List α}(h:a <+: b){i:Nat}(hi:i<a.length):nth b i=nth a i:=by obtain⟨t,rfl⟩:=h;rw[ay Vv,ay hi,Tv hi]
theorem MK{f:ak}{i:Nat}{s:RSt}(h:Rc f wo i s)(hi:i<s.2.length):Rc f wo (i+1) (y8 f wo i s)/\s.2 <+: (y8 f wo i s).2:=by
 have hm:=aX hi;obtain⟨h0,h1⟩:=h.b.ok.rng _ hm;have hre:=h.b.sound _ hm;obtain⟨i1,i2,i3⟩:=L4 h.b h0 h1 hre _ (RQ _);have he:y8 f wo i s=up (lu wo (nth f.blocks (nth s.2 i).toNat).term.to) (nth f.blocks (nth s.2 i).toNat).term.to.length s:=rfl;rw[<-he]at i1 i2 i3;refine⟨⟨i1,λa b=>i2.subset (h.root a b),λj hj hjl b hb hne=>?_⟩,i2⟩;rcases RX j i with hlt | hge
 ·rw[G7 i2 V4]at hb;exact i2.subset (h.done j hlt V4 b hb hne)
 have:j=i:=by omega
 subst this;rw[G7 i2 hi,qg]at hb;obtain⟨⟨_,_,q1,q2⟩,hmem⟩:=hb;obtain⟨k,hk,e⟩:=Sn hmem;rw[<-ay hk]at e;rw[<-e];exact i3 k hk V4 V4 (by rw[e];exact hne)
theorem JT {f:ak} {wo:Int} : ∀{m i:Nat} {s:RSt},Rc f wo i s->f.blocks.length<i+m->∃k,Rc f wo k (rchS f wo m i s)/\(rchS f wo m i s).2.length<=k
 | 0,i,s,h,hm=>⟨i,h,by have:=h.b.ok.cnt;rw[rchS];omega⟩
 | m+1,i,s,h,hm=>by
  rw[rchS];split
  ·rename_i hi;exact JT (MK h hi).1 V4
  rename_i hi;exact⟨i,h,by omega⟩
theorem NP{f:ak}:Rc f wo 0 (rch0 f wo):=by
 have hok:=Cd (f:=f) (wo:=wo);unfold rch0 at hok ⊢;split
 ·rename_i hc;rw[if_pos hc]at hok;refine⟨⟨hok,λb hb=>?_,λx hx=>?_⟩,λ_ _=>RR.2 rfl,λj hj=>by omega⟩
  ·rw[bj (by simpa using hb),RR];split
   ·rename_i e;subst e;simp
   rename_i e;rw[ay (by simpa using hb)];simp;omega
  rw[RR.1 hx];exact .root (by rw[nu];exact hc.2) hc.1
 rename_i hc;rw[if_neg hc]at hok;refine⟨⟨hok,λb hb=>?_,λx hx=>by cases hx⟩,λa b=>absurd ⟨a,b⟩ hc,λj hj=>by omega⟩;rw[ay (by simpa using hb)];simp
theorem gz{f:ak}{b:Nat}(hb:b<f.blocks.length):nth (eY f wo) b=VI↔Re (ofG f.blocks) wo b:=by
 obtain⟨k,h,hk⟩:=JT (NP (f:=f) (wo:=wo)) (m:=f.blocks.length+1) V4;unfold eY;generalize rchS f wo (f.blocks.length+1) 0 (rch0 f wo)=s at h hk;rw[h.b.seen b hb];constructor
 ·exact λhm=>by simpa using h.b.sound _ hm
 intro hr;induction hr with
 | root h1 h2=>exact h.root h2 (by rw[<-nu];exact h1)
 | @step a b ha he hne ih=>have hm:=ih (by have:=(qg.1 he).1;omega);obtain⟨j,hj,e⟩:=Sn hm;rw[<-ay hj]at e;exact h.done j V4 hj b (by rw[e];exact he) hne
instance:Rep Th:=Rep.via λd=>Cat.mk d.blk (Cat.mk d.place (Cat.mk d.mks d.tks))
theorem Th.Oa:Part Th Int 0 Th.blk (λd x=>{ d with blk:=x }):=(Part.fst Part.all).via (λ_=>rfl) λ_ _=>rfl
theorem Th.Qs:Part Th (List Int) 2 Th.mks (λd x=>{ d with mks:=x }):=(Part.snd (Part.snd (Part.fst Part.all))).via (λ_=>rfl) λ_ _=>rfl
structure ThR where
 blk:Int
 place:Int
 mks:List Int
 tks:Raw
instance:Rep ThR:=Rep.via λd=>Cat.mk d.blk (Cat.mk d.place (Cat.mk d.mks d.tks))
theorem ThR.Ov:Part ThR Raw 3 ThR.tks (λd x=>{ d with tks:=x }):=(Part.snd (Part.snd (Part.snd Part.all))).via (λ_=>rfl) λ_ _=>rfl
theorem Kx{H:View}{a:Int}{u q:Value}{m t:List Int}(ha:I64 a)(hb:I64 b)(hm:SlRd H u m)(ht:SlRd H q t):Rd H (.agg #[VB VC a,VB VC b,u,q]) (Th.mk a b m t):=
 ⟨_,rfl,[VB VC a],[VB VC b,u,q],rfl,⟨rfl,ha⟩,[VB VC b],[u,q],rfl,⟨rfl,hb⟩,[u],[q],rfl,⟨u,rfl,hm⟩,⟨q,rfl,ht⟩⟩
theorem PH{H:View}{a:Int}{u q:Value}{m:List Int}(ha:I64 a)(hb:I64 b)(hm:SlRd H u m)(hq:q.oneCell'=VI):Rd H (.agg #[VB VC a,VB VC b,u,q]) (ThR.mk a b m ⟨q⟩):=
 ⟨_,rfl,[VB VC a],[VB VC b,u,q],rfl,⟨rfl,ha⟩,[VB VC b],[u,q],rfl,⟨rfl,hb⟩,[u],[q],rfl,⟨u,rfl,hm⟩,⟨rfl,hq⟩⟩
theorem IQ{H:View}{cs:List Value}{d:ThR}(h:Rep.rd H cs d): ∃u,cs=[VB VC d.blk,VB VC d.place,u,d.tks.v]/\I64 d.blk/\I64 d.place/\SlRd H u d.mks:=by obtain⟨c1,r1,rfl,⟨rfl,h1⟩,c2,r2,rfl,⟨rfl,h2⟩,c3,r3,rfl,⟨u,rfl,h3⟩,rfl,_⟩:=h;exact⟨u,rfl,h1,h2,h3⟩
def rE (vo:Value) (l:List Th):Own:=λk=>if k=(0,0) then it T.fH vo l else VF
def yp (vo:Value) (l:List Th) (D:Nat) (d:ThR) (q:Value) (t:List Int):Own:=λk=>if k=(0,0) then it T.fH vo l else if k=(1,0) then bx T.fH D d else if k=(1,1) then it T.int q t else VF
structure ThS (V:View) (h0:Heap) (vo:Value) (l:List Th) (W:View) (h:Heap):Prop where
 own:Owns W h (rE vo l)
 old:Old V h0 W
 le:(vw h0).le (vw h)
 av:Av (vw h0) vo
theorem ThS.ext {V:View} {h0:Heap} {vo:Value} {l:List Th} {W:View} {h h':Heap} (k:ThS V h0 vo l W h) (hle:(vw h).le (vw h')):ThS V h0 vo l (grow W h h') h':=
 ⟨k.own.ext hle,k.old.grow (bO k.le),Vz k.le hle,k.av⟩
theorem Ju{po:OP}{ty:TypeId}{us:List (Nat × Value)}{h:Heap}{K:Value->Heap->Prop}{x y z w:Operand}{a:Int}{u q:Value}(hx:asg us x = VB VC a)(hy:asg us y = VB VC b)(hz:asg us z=u)(hw:asg us w=q)(hu:u.cells = #[u])(hq:q.cells = #[q])(hk:K (.agg #[VB VC a,VB VC b,u,q]) h):
  Lft.step VK (.build T.fH #[(0,x),(1,y),(2,z),(3,w)]) ty us h K:=
 aA (z:=zz10) (places:=zpe) (vs:=[(0,VB VC a),(1,VB VC b),(2,u),(3,q)]) (cs:=#[VB VC a,VB VC b,u,q]) V0 V0 (by simp[hx,hy,hz,hw])
  (by simp[Instr.fill,hu,hq]) hk
theorem Jd{po:OP}{ty:TypeId}{us:List (Nat × Value)}{h:Heap}{K:Value->Heap->Prop}{x y z:Operand}{a:Int}{u:Value}(hx:asg us x = VB VC a)(hy:asg us y = VB VC b)(hz:asg us z=u)(hu:u.cells = #[u])(hk:K (.agg #[VB VC a,VB VC b,u,VG VF 0 0]) h):
  Lft.step VK (.build T.fH #[(0,x),(1,y),(2,z)]) ty us h K:=
 aA (z:=zz10) (places:=zpe) (vs:=[(0,VB VC a),(1,VB VC b),(2,u)]) (cs:=#[VB VC a,VB VC b,u,VG VF 0 0]) V0 V0 (by simp[hx,hy,hz])
  (by simp[Instr.fill,hu]) hk
theorem IU{po:OP}{ty:TypeId}{us:List (Nat × Value)}{h:Heap}{K:Value->Heap->Prop}{x y w:Operand}{a:Int}{q:Value}(hx:asg us x = VB VC a)(hy:asg us y = VB VC b)(hw:asg us w=q)(hq:q.cells = #[q])(hk:K (.agg #[VB VC a,VB VC b,VG VF 0 0,q]) h):
  Lft.step VK (.build T.fH #[(0,x),(1,y),(3,w)]) ty us h K:=
 aA (z:=zz10) (places:=zpe) (vs:=[(0,VB VC a),(1,VB VC b),(3,q)]) (cs:=#[VB VC a,VB VC b,VG VF 0 0,q]) V0 V0 (by simp[hx,hy,hw])
  (by simp[Instr.fill,hq]) hk
theorem C8{f:ak}{v:Value}{V:View}{h:Heap}(hv:Rd V v f)(hV:V.le (vw h))(hsm:SmF f):
  az VK 63 #[v] h (λu h'=>(vw h).le (vw h')/\SlRd (grow V h h') u (aC f)):=by
 refine aq (args:=[v]) follows Tryz.func63 E.bJ Vw λK hK=>?_;have hn:=hsm.len;dsimp only[L.bJ,lkF,lkG];refine aa λz hz=>?_;simp;refine ef (v:=v) rfl ?_;have hle1:=bZ h (.cells v.cells T.fS);have hat1:At (grow V h (h.push (.cells v.cells T.fS))) ⟨h.size,0,VF⟩ f:=qQ (t:=T.fS) (fz:=(0,0)) (by rw[b8 (RQ _)];simp) (hv.mono (bz hV));have hs1:(h.push (.cells v.cells T.fS)).size=h.size+1:=by simp
 generalize h.push (.cells v.cells T.fS)=h1 at hle1 hat1 hs1;have hW1:(grow V h h1).le (vw h1):=lj (Vz hV hle1);have old1:Old V h (grow V h h1):=(Old.refl V h).grow (RQ _);obtain⟨_,vb,cb⟩:=fw hat1;generalize grow V h h1=W1 at cb hW1 old1;generalize h.size=B at cb;subst hz;refine aa λz hz=>?_;simp;refine qL (α:=Th) El.iV λh2 hle2 hsz2 own2=>?_;have t2:ThS V h (VG (VE ⟨h1.size,0,VF⟩) 0 0) [] W1 h2:=⟨((Owns.start hW1).add (k:=(0,0)) rfl (own2 _) hle2 (λb hb=>by simp only[Value.ownBlock,RP]at hb;omega)).congr λq=>by
   unfold rE Own.upd;repeat' split
   all_goals first | rfl | simp_all,old1,Vz hle1 hle2,λb hb=>by cases hb;exact View.cg Vy (by show h.size<=h1.size;omega)⟩;generalize VG (VE ⟨h1.size,0,VF⟩) 0 0=v0 at t2;subst hz;refine aa λz hz=>?_;simp
 refine dQ [1,3,4] (fun(r:Value) b=>[ptz B,r,VB VC b]) (λr b h3=>∃W,W1.le W/\ThS V h r (thTo f b) W h3) f.blocks.length v0
  rfl V4 rfl ⟨W1,View.le_refl _,t2⟩ (λ_ _=>rfl) (λv k h3 hk ⟨W,q1,q2⟩=>by simp[ae (Vz q1 q2.own.wle) cb.1,(cb.2.mono (Vz q1 q2.own.wle)).len]) ?_ ?_
 ·rintro r b h3 hltb ⟨W3,hW3,t3⟩ K2 hK2;have hl3:=zV hsm (n:=b) V4;have cb3:=cb.2.mono (Vz hW3 t3.own.wle);have cc3:=ae (Vz hW3 t3.own.wle) cb.1;obtain⟨u,hu,hur⟩:=(cb.2.mono hW3).wh rfl (N:=6) rfl hltb;have sb:=hsm.blk b hltb;refine aa λy hy=>?_;simp(disch:=omega)[cc3,cb3.idxn (N:=6) rfl,hu _ t3.own.wle];refine cZ (X:=W3) (z:=zz3) V0 rfl V0 hur V8 V8 λh4 hle4 hsz4 hat4=>?_;have t4:=t3.ext hle4;have hat4':=hat4 (grow W3 h3 h4) (bz t3.own.wle) (b8 (RQ _));obtain⟨vp,vi,va,vt,bp,bi,bk,ba,bt⟩:=mJ hat4';have hW4:=Vz hW3 (bz (h':=h4) t3.own.wle);generalize grow W3 h3 h4=W4 at t4 bp bi bk ba bt hW4;generalize h3.size=D at bp bi bk ba bt;subst hy;refine aa λy hy=>?_;simp;have sp:=sb.phis;refine dQ [1,3,4,5,6] (fun(r:Value) i=>[ptz B,r,VB VC b,ptz D,VB VC i]) (λr i h5=>∃W,W4.le W/\ThS V h r (thTo f b++rows (phiT f b) i) W h5) (nth f.blocks b).phis.length r
   rfl V4 rfl ⟨W4,View.le_refl _,by simpa using t4⟩ (λ_ _=>rfl) (λv k h3 hk ⟨W,q1,q2⟩=>by simp[ae (Vz q1 q2.own.wle) bp.1,(bp.2.mono (Vz q1 q2.own.wle)).len]) ?_ ?_
  ·rintro r i h5 hlti ⟨W5,hW5,t5⟩ K3 hK3;have bp5:=bp.2.mono hW5;have bph:=bp5.mono t5.own.wle;have cph:=ae (Vz hW5 t5.own.wle) bp.1;have hap:=(bp5.at hlti);rw[<-ay hlti]at hap;have hdst:ao W5 (((slA vp).add (i*2)).add 0)=VE (VB VC (nth (nth f.blocks b).phis i).dst):=(hap.part PhiD.iT).int;have hdr:=(hap.part PhiD.iT).rng;obtain⟨vq,hvq⟩:=(hap.part PhiD.jS).sl;have hvq1:ao W5 (((slA vp).add (i*2)).add 1)=VE vq:=hvq.1;have hvq2:=hvq.2;have hpl:=sb.phi i hlti;have hpt:phiT f b i=⟨b,-1-i,[(nth (nth f.blocks b).phis i).dst],(nth (nth f.blocks b).phis i).ins.map InD.val⟩:=rfl;generalize nth (nth f.blocks b).phis i=x at hdst hdr hvq2 hpl hpt;refine aa λq hq=>?_;simp(disch:=omega)[cph,bph.idxn (N:=2) rfl,ae t5.own.wle hdst];refine nB (X:=nothing) (ds:=[x.dst]) (vs:=[VB VC x.dst]) rfl El.aY V5 ⟨bw.2 ⟨rfl,hdr⟩,trivial⟩ cR rfl V4 λu6 h6 hle6 hsz6 hu6 hub6=>?_;have hu6n:=hu6 (vw h6) cR rfl;refine Jd rfl rfl rfl hu6n.cells.1 ?_;simp;refine fZ (n:=4) (v:=.agg #[VB VC b,VB VC (-1-i),u6,VG VF 0 0]) (z:=zz10) V0 rfl V0 rfl (by intro c hc;simp at hc;rcases hc with rfl | rfl | rfl | rfl<;>first | rfl | exact hu6n.cells.2) V8 V8 λh7 hle7 hsz7 hb7=>?_;have w6:=t5.own.ext hle6;have w7:=(w6.add (k:=(1,0)) rfl (iO (h:=h7) (d:=ThR.mk b (-1-i) [x.dst] ⟨VG VF 0 0⟩) hb7 (PH V9 V9 (hu6 _ cR (b8 (RQ _))) rfl) V6) hle7 (λb hb=>by simp only[Value.ownBlock,RP]at hb;omega)).add (k:=(1,1)) rfl (OwnT.nil (α:=Int) _ h7 T.int) Vy (λb hb=>by simp[Value.ownBlock]at hb);have w7:Owns (grow W5 h5 h6) h7 (yp r (thTo f b++rows (phiT f b) i) h6.size (ThR.mk b (-1-i) [x.dst] ⟨VG VF 0 0⟩) (VG VF 0 0) []):=w7.congr λq=>by
    unfold yp rE Own.upd;repeat' split
    all_goals first | rfl | simp_all
   have hW7:=Vz hW5 (bz (h':=h6) t5.own.wle);have old7:=t5.old.grow (h1:=h5) (h2:=h6) (bO t5.le);have hle07:=Vz t5.le (Vz hle6 hle7);have hvq7:=hvq2.mono (bz (h':=h6) t5.own.wle);have cvq7:=ae (bz (h':=h6) t5.own.wle) hvq1;generalize grow W5 h5 h6=W7 at w7 hW7 old7 hvq7 cvq7;have hD7:h.size<=h6.size:=Sk (bO t5.le) (bO hle6);generalize h6.size=D7 at w7 hD7;subst hq;refine aa λq hq=>?_;simp;refine dQ [1,3,4,5,6,7,8] (fun(q:Value) j=>[ptz B,r,VB VC b,ptz D,VB VC i,ptz D7,VB VC j])
    (λq j h8=>Owns W7 h8 (yp r (thTo f b++rows (phiT f b) i) D7 (ThR.mk b (-1-i) [x.dst] ⟨q⟩) q ((x.ins.map InD.val).take j))/\(vw h).le (vw h8)/\Av (vw h) q) x.ins.length (VG VF 0 0)
    rfl V4 rfl ⟨w7,hle07,Av.nil _ _ _⟩ (λ_ _=>rfl) (λv k h8 hk ⟨w8,q2⟩=>by have bp8:=(bp.2.mono hW7).mono w8.wle;simp(disch:=omega)[ae (Vz hW7 w8.wle) bp.1,bp8.idxn (N:=2) rfl,ae w8.wle cvq7,(hvq7.mono w8.wle).len]) ?_ ?_
   ·rintro q8 j h8 hltj ⟨w8,hle08,av8⟩ K4 hK4;have bp8:=(bp.2.mono hW7).mono w8.wle;have hv8:=hvq7.mono w8.wle;have hai:=(hvq7.at hltj);rw[<-ay hltj]at hai;have hval:ao W7 (((slA vq).add (j*2)).add 1)=VE (VB VC (nth x.ins j).val):=(hai.part InD.Hy).int;have hvr:=(hai.part InD.Hy).rng;have hl8:((x.ins.map InD.val).take j).length=j:=by simp;omega
    have htk:(x.ins.map InD.val).take (j+1)=(x.ins.map InD.val).take j++[(nth x.ins j).val]:=by rw[UG,TB,SB hltj,ay hltj];rfl
    have hq8:ao (vw h8) ⟨D7,3,VF⟩=VE q8:=by have:=((w8.at (k:=(1,0)) (e:=T.fH) (B:=D7) (d:=ThR.mk b (-1-i) [x.dst] ⟨q8⟩) rfl).part ThR.Ov).raw;simpa using this
    refine aQ (vw h8) Vy ?_;simp(disch:=omega)[hq8,ae (Vz hW7 w8.wle) bp.1,bp8.idxn (N:=2) rfl,ae w8.wle cvq7,hv8.idxn (N:=2) rfl,ae w8.wle hval];refine lT (α:=Int) (W:=W7) El.aY rfl (bw.2 ⟨rfl,hvr⟩) λu9 h9 hs9 hle9 hsz9=>⟨hle9,?_⟩;refine(w8.ext' hle9).dd (k:=(1,1)) (α:=Int) (v:=q8) (l:=(x.ins.map InD.val).take j) rfl El.aY rfl rfl hs9 Vv Vv λq10 h10 w10 m10=>?_;have hc10:=w10.cells (k:=(1,1)) (Own.an);obtain⟨hX10,av10⟩:=m10.view (Vz hle08 hle9) av8;refine w10.pR (k:=(1,0)) (e:=T.fH) (B:=D7) (D:=ThR.mk b (-1-i) [x.dst] ⟨q8⟩) ThR.Ov (d:=⟨q10⟩) rfl V0 rfl rfl (iZ.2 ⟨rfl,hc10.2⟩) λh11 w11 hX11=>?_;refine hK4 q10 _ _ rfl rfl ⟨w11.congr λp=>?_,hX11 _ hX10 (View.cg Vy hD7),av10⟩;rw[htk];unfold yp Own.upd;repeat' split
    all_goals first | rfl | simp_all
   rintro q8 h8 ⟨w8,hle08,av8⟩;rw[Sg V5]at w8;simp;subst hq;obtain⟨cs,hcs,hrd⟩:=w8.atW (k:=(1,0)) (e:=T.fH) (B:=D7) (d:=ThR.mk b (-1-i) [x.dst] ⟨q8⟩) rfl;obtain⟨u9,rfl,i1,i2,hu9⟩:=IQ hrd;obtain⟨w9,hq9⟩:=w8.freeze (k:=(1,1)) (v:=q8) (l:=x.ins.map InD.val) rfl;have hpl9:W7.le (W7.plus q8 h8):=iI (w8.av (1,1) _ rfl);have hload:Un.ev (vw h8) (.bM 4) (ptz D7)=VE (.agg #[VB VC b,VB VC (-1-i),u9,q8]):=by have:=gj hcs 4 0 #[] V7;simp[Un.ev,vP,this]
   have hold9:Old V h (W7.plus q8 h8):=λc o hc hco=>by
    unfold View.plus at hco;split at hco
    ·rename_i e;have:=av8 c e;simp only[vw]at this;rw[Sq hc]at this;cases this
    exact old7 c o hc hco
   have w9:Owns (W7.plus q8 h8) h8 (rE r (thTo f b++rows (phiT f b) i)):=w9.sub λp x hp=>by
    unfold rE at hp;split at hp
    ·rename_i e;subst e;exact hp
    cases hp
   have hlr:(thTo f b++rows (phiT f b) i).length=(thTo f b).length+i:=by simp
   simp[hload];refine w9.zH (k:=(0,0)) (α:=Th) (v:=r) (l:=thTo f b++rows (phiT f b) i) (d:=phiT f b i) rfl El.iV rfl (by rw[hpt];exact Kx i1 i2 (hu9.mono hpl9) hq9) V4 V4 (λ_=>rfl) (λ_=>rfl) λu10 r10 h10 w10 hX10=>?_;obtain⟨g1,g2⟩:=hX10 _ hle08 t5.av;refine hK3 r10 _ _ rfl rfl ⟨W7.plus q8 h8,Vz hW7 hpl9,⟨w10.congr λp=>?_,hold9,g1,g2⟩⟩;rw[fK,<-List.append_assoc];unfold rE Own.upd;repeat' split
   all_goals first | rfl | simp_all
  rintro r h5 ⟨W5,hW5,t5⟩;simp;subst hy;refine aa λy hy=>?_;simp;have si:=sb.ins;refine dQ [1,3,4,5,9] (fun(r:Value) i=>[ptz B,r,VB VC b,ptz D,VB VC i]) (λr i h6=>∃W,W4.le W/\ThS V h r (thTo f b++rows (phiT f b) (nth f.blocks b).phis.length++rows (insT f b) i) W h6) (nth f.blocks b).ins.length r
   rfl V4 rfl ⟨W5,hW5,by simpa using t5⟩ (λ_ _=>rfl) (λv k h3 hk ⟨W,q1,q2⟩=>by simp[ae (Vz q1 q2.own.wle) bi.1,(bi.2.mono (Vz q1 q2.own.wle)).len]) ?_ ?_
  ·rintro r i h6 hlti ⟨W6,hW6,t6⟩ K3 hK3;have bi6:=bi.2.mono hW6;have bih:=bi6.mono t6.own.wle;have cih:=ae (Vz hW6 t6.own.wle) bi.1;obtain⟨ux,hux,huxr⟩:=bi6.wh rfl (N:=5) rfl hlti;have hap:=(bi6.at hlti);rw[<-ay hlti]at hap;obtain⟨vq,hvq⟩:=(hap.part InsD.eX).sl;have hvq1:ao W6 (((slA vi).add (i*5)).add 3)=VE vq:=hvq.1;have hvq2:=hvq.2;have hpt:insT f b i=⟨b,i,bg (nth (nth f.blocks b).ins i),(nth (nth f.blocks b).ins i).args⟩:=rfl;generalize nth (nth f.blocks b).ins i=x at hvq2 huxr hpt;have hlr:(thTo f b++rows (phiT f b) (nth f.blocks b).phis.length++rows (insT f b) i).length=(thTo f b).length+(nth f.blocks b).phis.length+i:=by simp;omega
   refine aQ (vw h6) Vy ?_;simp(disch:=omega)[cih,bih.idxn (N:=5) rfl,hux _ t6.own.wle,ae t6.own.wle hvq1];refine ah V0 (rS (huxr.mono t6.own.wle)) ?_;rintro u7 h7 ⟨hle7,hu7,_⟩;refine⟨hle7,?_⟩;have t7:=t6.ext hle7;have hu7':=hu7.mono (kI W6 h6 h7);have hvq7:=hvq2.mono (bz (h':=h7) t6.own.wle);refine Ju rfl rfl rfl rfl hu7.cells.1 hvq2.cells.1 ?_;simp;refine t7.own.zH (k:=(0,0)) (α:=Th) (v:=r) (l:=thTo f b++rows (phiT f b) (nth f.blocks b).phis.length++rows (insT f b) i) (d:=insT f b i) rfl El.iV rfl (by rw[hpt];exact Kx V9 V9 hu7' hvq7) V4 V4 (λ_=>rfl) (λ_=>rfl) λu10 r10 h10 w10 hX10=>?_;obtain⟨g1,g2⟩:=hX10 _ t7.le t7.av;refine hK3 r10 _ _ rfl rfl ⟨_,Vz hW6 (bz (h':=h7) t6.own.wle),⟨w10.congr λp=>?_,t7.old,g1,g2⟩⟩;rw[fK,<-List.append_assoc];unfold rE Own.upd;repeat' split
   all_goals first | rfl | simp_all
  rintro r h6 ⟨W6,hW6,t6⟩;simp;subst hy;have hW6h:=Vz hW6 t6.own.wle;have bih:=bi.2.mono hW6h;have cih:=ae hW6h bi.1;have hlr:(thTo f b++rows (phiT f b) (nth f.blocks b).phis.length++rows (insT f b) (nth f.blocks b).ins.length).length=(thTo f b).length+(nth f.blocks b).phis.length+(nth f.blocks b).ins.length:=by simp;omega
  simp[cih,bih.len,ae hW6h ba.1];refine IU rfl rfl rfl (ba.2.cells.1) ?_;simp;refine t6.own.zH (k:=(0,0)) (α:=Th) (v:=r) (l:=thTo f b++rows (phiT f b) (nth f.blocks b).phis.length++rows (insT f b) (nth f.blocks b).ins.length) (d:=endT f b) rfl El.iV rfl (Kx V9 V9 aO (ba.2.mono hW6)) V4 V4 (λ_=>rfl) (λ_=>rfl) λu10 r10 h10 w10 hX10=>?_;obtain⟨g1,g2⟩:=hX10 _ t6.le t6.av;refine hK2 r10 _ _ rfl rfl ⟨_,Vz hW4 hW6,⟨w10.congr λp=>?_,t6.old,g1,g2⟩⟩;have e:thTo f (b+1)=thTo f b++rows (phiT f b) (nth f.blocks b).phis.length++rows (insT f b) (nth f.blocks b).ins.length++[endT f b]:=by rw[fR,thB];simp[Sc]
  rw[e];unfold rE Own.upd;repeat' split
  all_goals first | rfl | simp_all
 rintro r h3 ⟨W3,hW3,t3⟩;simp;subst hz;simp;exact hK _ _ ⟨t3.le,(t3.own.get (k:=(0,0)) (v:=r) (l:=thTo f f.blocks.length) rfl).rd (t3.old.le t3.own.wle) λb hb=>by
  have:=t3.av b hb;rw[b8];rcases RX b h.size with hlt | hge
  ·simp[vw,hlt]at this
  exact hge⟩
structure GotD where
 e:Int
 b:Int
 p:Int
instance:Rep GotD:=Rep.via λd=>Cat.mk d.e (Cat.mk d.b d.p)
abbrev BL:=List Bool
def tj (t:Th) (j:Nat) (m:BL):Except Tr BL:=if nth m (nth t.mks j).toNat then .error (12,t.blk,t.place) else .ok (m.set (nth t.mks j).toNat VI)
def je (f:ak) (t:Th):BlkD:=nth f.blocks t.blk.toNat
def Ei (f:ak) (t:Th):InsD:=nth (je f t).ins t.place.toNat
def vR (f:ak) (t:Th):Bool:=decide (0<=t.place)&&decide (t.place<(je f t).ins.length)
def mU (f:ak) (t:Th):Bool:=decide (t.place=(je f t).ins.length)
def oO (s:InsD):Bool:=decide (s.op<1)||decide (18<s.op)||!td s.op s.args.length
def pz (f:ak) (n:Int):Bool:=decide (n<f.params)||decide (8191<n)
def yZ (f:ak) (n:Int):Bool:=decide (n<1)||decide ((f.blocks.length:Int)<=n)
def oS (f:ak) (t:Th):Except Tr BL->Except Tr BL
 | .error e=>.error e
 | .ok m'=>if mU f t&&(je f t).term.to.any (yZ f) then .error (14,t.blk,t.place) else .ok m'
def gK (f:ak) (t:Th) (m:BL):Except Tr BL:=
 if vR f t&&oO (Ei f t) then .error (10,t.blk,t.place)
 else if mU f t&&!lh (je f t).term then .error (10,t.blk,t.place)
 else if t.mks.any (pz f) then .error (11,t.blk,t.place)
 else oS f t (upE (tj t) t.mks.length m)
def mh (f:ak):Except Tr BL:=upE (λi m=>gK f (nth (aC f) i) m) (aC f).length (List.replicate 8192 VJ)
def zB {α:Type}:Except Tr α->Tr | .ok _=>(0,0,0) | .error t=>t
def noTh:Th:=⟨-1,0,[],[]⟩
def gm (t:Th) (l:List Th) (n:Int):List Th:=if 0<=n/\n<8192 then l.set n.toNat t else l
def uC (l:List Th) (t:Th):List Th:=t.mks.foldl (gm t) l
def CZ (ts:List Th):List Th:=ts.foldl uC (List.replicate 8192 noTh)
variable{n:Int}
theorem qU{t:Th}{l:List Th}:(gm t l n).length=l.length:=by unfold gm;split<;>simp
theorem Gv{t:Th}{l:List Th}:(uC l t).length=l.length:=lf (f:=gm t) (λx:List Th=>x.length=l.length) (λ_ _ h=>qU.trans h) _ _ rfl
theorem GN{ts:List Th}:(CZ ts).length=8192:=lf (f:=uC) (λx:List Th=>x.length=8192) (λ_ _ h=>Gv.trans h) _ _ (SI ..)
def ix (f:ak) (made:List Th) (away:List BL) (v blk place:Int):Bool:=
 if 0<=v/\v<f.params then VI
 else if(v<0\/8191<v)\/(nth made v.toNat).blk<0 then VJ
 else if(nth made v.toNat).blk=blk then decide ((nth made v.toNat).place<0)||decide ((nth made v.toNat).place<place)
 else !nth (nth away (nth made v.toNat).blk.toNat) blk.toNat
def tY (f:ak) (t:Th):PhiD:=nth (je f t).phis (-1-t.place).toNat
def y9 (f:ak) (b:Int):Int:=((nth f.blocks b.toNat).ins.length:Nat)
def tK (f:ak) (t:Th):Bool:=decide (0<t.blk)&&decide ((tY f t).ins.map InD.frm=aJ f t.blk)
def stT (f:ak) (made:List Th) (away:List BL) (t:Th) (x:Int):Bool:=!ix f made away x t.blk t.place
def stP (f:ak) (made:List Th) (away:List BL) (p:InD):Bool:=!ix f made away p.val p.frm (y9 f p.frm)
def iF (f:ak) (made:List Th) (away:List BL) (t:Th):Except Tr Unit:=
 if 0<=t.place then(if t.tks.any (stT f made away t) then .error (13,t.blk,t.place) else .ok ())
 else if !tK f t then .error (16,t.blk,t.place)
 else if(tY f t).ins.any (stP f made away) then .error (13,t.blk,t.place)
 else .ok ()
def jl (f:ak):List Th:=CZ (aC f)
def ir (f:ak):List BL:=rows (λb=>eY f b) f.blocks.length
def jt (f:ak):Nat->Nat
 | 0=>f.blocks.length
 | n+1=>jt f n+(nth f.blocks n).phis.length+(nth f.blocks n).ins.length
def wayE (f:ak):Except Tr Unit:=upE (λb _=>if nth (eY f (-1)) b=VI then .ok () else .error (15,b,0)) f.blocks.length ()
def AG (f:ak):Except Tr Unit:=upE (λi _=>iF f (jl f) (ir f) (nth (aC f) i)) (aC f).length ()
def Qa:Except Tr Unit->Except Tr Unit->Except Tr Unit
 | .ok _,y=>y
 | .error e,_=>.error e
def vk (f:ak):Tr:=
 if f.params<0\/4<f.params then(1,0,0)
 else if f.blocks.length=0 then(14,0,0)
 else if 512<f.blocks.length\/4096<jt f f.blocks.length then(2,0,0)
 else if(zB (mh f)).1≠0 then zB (mh f)
 else zB (Qa (wayE f) (AG f))
theorem tD {σ ε:Type} {f:Nat->σ->Except ε σ} {s:σ} {t:ε} : ∀{n:Nat},upE f n s = .error t->∃k s',k<n/\upE f k s = .ok s'/\f k s' = .error t
 | n+1,h=>by
  simp only[upE]at h;split at h
  ·rename_i s' hs;exact⟨n,s',Nat.lt_succ_self n,hs,h⟩
  rename_i t' ht;cases h;obtain⟨k,s',h1,h2⟩:=tD ht;exact⟨k,s',Nat.lt_succ_of_lt h1,h2⟩
theorem yb{f:ak}{t:Th}{m:BL}{e:Tr}(h:gK f t m = .error e):(10<=e.1/\e.1<=14)/\e.2.1=t.blk/\e.2.2=t.place:=by
 unfold gK at h;split at h
 ·cases h;simp
 split at h
 ·cases h;simp
 split at h
 ·cases h;simp
 unfold oS at h;split at h
 ·rename_i e' he;cases h;obtain⟨k,s',_,_,h3⟩:=tD he;unfold tj at h3;split at h3
  ·cases h3;simp
  cases h3
 split at h
 ·cases h;simp
 cases h
theorem IA(hn:0<=n){ts:List Th}(h : ∀t∈ts,t.blk<n){i:Nat}(hi:i<8192):(nth (CZ ts) i).blk<n:=by
 have key : ∀(ts:List Th),(∀t∈ts,t.blk<n)->∀l:List Th,(∀x∈l,x.blk<n)->∀x∈ts.foldl uC l,x.blk<n:=by
  intro ts;induction ts with
  | nil=>exact λ_ l hl=>hl
  | cons t ts ih=>
   intro ht l hl;refine ih (λx hx=>ht x (RU _ hx)) _ ?_;refine lf (f:=gm t) (λl:List Th=>∀x∈l,x.blk<n) (λl a hl x hx=>?_) _ _ hl;unfold gm at hx;split at hx
   ·rcases T0 hx with h | rfl
    ·exact hl x h
    exact ht _ R1
   exact hl x hx
 refine key ts h _ (λx hx=>?_) _ (aX (by show i<(CZ ts).length;rw[GN];exact hi));rw[(List.mem_replicate.1 hx).2];show(-1:Int)<n;omega
theorem kF{σ ε:Type}{f:σ->α->Except ε σ}{a b:List α}{s:σ}:(a++b).foldlM f s=(match a.foldlM f s with | .ok s'=>b.foldlM f s' | .error e=>.error e):=by rw[UX];cases a.foldlM f s<;>rfl
theorem uJ{σ ε:Type}{f:σ->α->Except ε σ}{a:α}{s:σ}:[a].foldlM f s=f s a:=by rw[S9];cases f s a<;>rfl
theorem qh {σ α ε:Type} {g:Nat->σ->Except ε σ} {f:σ->α->Except ε σ} {x:Nat->α} {s:σ} : ∀{n:Nat},(∀i s,i<n->g i s=f s (x i))->upE g n s=(rows x n).foldlM f s
 | 0,_=>rfl
 | n+1,h=>by
  have ih:=qh (n:=n) (s:=s) λi s hi=>h i s V4;rw[fK,kF,<-ih];simp only[upE];cases upE g n s with
  | ok s'=>show g n s'=[x n].foldlM f s';rw[uJ];exact h n s' V4
  | error e=>rfl
theorem rV{σ ε:Type}[Inhabited α]{f:σ->α->Except ε σ}{l:List α}{s:σ}:upE (λi s=>f s (nth l i)) l.length s=l.foldlM f s:=by rw[qh (f:=f) (x:=nth l) λ_ _ _=>rfl];congr 1;refine TG V5 λi h1 h2=>?_;simp[rows,ay h2]
def mP (f:ak) (m:MW) (t:Th):Except Tr MW:=
 if t.place<0 then allS f.params t.mks t.blk t.place m
 else if t.place<(je f t).ins.length then insS f.params t.blk (je f t) t.place.toNat m
 else endS f.blocks.length t.blk (je f t) m
theorem xz{f:ak}{b i:Nat}{m:MW}:mP f m (phiT f b i)=phiS f.params b (nth f.blocks b) i m:=by unfold mP;rw[if_pos (show(phiT f b i).place<0 by show -1-(i:Int)<0;omega)];rfl
theorem wN{f:ak}{b i:Nat}{m:MW}(hi:i<(nth f.blocks b).ins.length):mP f m (insT f b i)=insS f.params b (nth f.blocks b) i m:=by unfold mP;rw[if_neg (show ¬(insT f b i).place<0 by show ¬(i:Int)<0;omega),if_pos (show(insT f b i).place<((je f (insT f b i)).ins.length:Int) by show(i:Int)<((nth f.blocks b).ins.length:Int);omega)];rfl
theorem wY{f:ak}{b:Nat}{m:MW}:mP f m (endT f b)=endS f.blocks.length b (nth f.blocks b) m:=by unfold mP;rw[if_neg (show ¬(endT f b).place<0 by show ¬((nth f.blocks b).ins.length:Int)<0;omega),if_neg (show ¬(endT f b).place<((je f (endT f b)).ins.length:Int) by show ¬((nth f.blocks b).ins.length:Int)<((nth f.blocks b).ins.length:Int);omega)];rfl
theorem JU{f:ak}{b:Nat}{m:MW}:blkS f b m=(thB f b).foldlM (mP f) m:=by
 unfold blkS thB;rw[qh (f:=mP f) (x:=phiT f b) (n:=(nth f.blocks b).phis.length) λi s hi=>xz.symm];rw[kF,kF];cases (rows (phiT f b) (nth f.blocks b).phis.length).foldlM (mP f) m with
 | error e=>rfl
 | ok m1=>
  simp only;rw[qh (f:=mP f) (x:=insT f b) (n:=(nth f.blocks b).ins.length) λi s hi=>(wN hi).symm];cases (rows (insT f b) (nth f.blocks b).ins.length).foldlM (mP f) m1 with
  | error e=>rfl
  | ok m2=>simp only;rw[uJ];exact wY.symm
theorem zQ{f:ak}{m:MW}:n7 f m=(aC f).foldlM (mP f) m:=by
 have key : ∀n,upE (blkS f) n m=(thTo f n).foldlM (mP f) m:=by
  intro n;induction n with
  | zero=>rfl
  | succ n ih=>
   rw[fR,kF,<-ih];simp only[upE];cases upE (blkS f) n m with
   | error e=>rfl
   | ok s=>exact JU
 exact key _
theorem pA{f:ak}:mh f=(aC f).foldlM (λm t=>gK f t m) (List.replicate 8192 VJ):=rV (f:=fun(m:BL) (t:Th)=>gK f t m)
def xL (m:MW) (l:BL):Prop:=l.length=8192/\∀n:Int,0<=n->n<8192->(m n).isSome=nth l n.toNat
def Alike {α β:Type} (R:α->β->Prop):Except Tr α->Except Tr β->Prop
 | .ok a,.ok b=>R a b
 | .error e,.error e'=>e=e'
 | _,_=>False
theorem uG {α β γ:Type} {R:α->β->Prop} {F:α->γ->Except Tr α} {G:β->γ->Except Tr β} : ∀{l:List γ},(∀t∈l,∀a b,R a b->Alike R (F a t) (G b t))->∀{a:α} {b:β},R a b->Alike R (l.foldlM F a) (l.foldlM G b)
 | [],_,a,b,h=>h
 | t::l,hs,a,b,h=>by
  rw[S9,S9];have:=hs t R1 a b h;cases e1:F a t with
  | error e=>
   cases e2:G b t with
   | error e'=>rw[e1,e2]at this;exact this
   | ok b'=>rw[e1,e2]at this;exact this.elim
  | ok a'=>
   cases e2:G b t with
   | error e'=>rw[e1,e2]at this;exact this.elim
   | ok b'=>rw[e1,e2]at this;exact uG (λt ht=>hs t (RU _ ht)) this
theorem Jm{f:ak}:cu n f.params 8191=!pz f n:=by rw[SC];simp[cu,pz]
theorem Hz{p:α->Bool}{l:List α}:l.all (λn=>!p n)=!l.any p:=by
 induction l with
 | nil=>rfl
 | cons a l ih=>simp[ih]
def lF (t:Th) (m:BL) (n:Int):Except Tr BL:=if nth m n.toNat then .error (12,t.blk,t.place) else .ok (m.set n.toNat VI)
theorem IZ{f:ak}{t:Th}{m:MW}{l:BL}(h:xL m l)(hp:0<=f.params)(hn : ∀n∈t.mks,pz f n=VJ):Alike xL (t.mks.foldlM (tM t.blk t.place) m) (upE (tj t) t.mks.length l):=by
 have e:upE (tj t) t.mks.length l=t.mks.foldlM (lF t) l:=rV (f:=lF t);rw[e];refine uG (λn hnm m l h=>?_) h;have hb:=hn n hnm;simp only[pz,TA,decide_eq_false_iff_not]at hb;have hs:=h.2 n V4 V4;unfold tM lF;rw[hs];cases hc:nth l n.toNat with
 | true=>exact rfl
 | false=>
  refine⟨by simpa using h.1,λk h0 h1=>?_⟩;rw[bj (by rw[h.1];omega)];simp only[putM];by_cases hk:k=n
  ·subst hk;simp
  rw[if_neg hk,if_neg V4];exact h.2 k h0 h1
theorem AY{f:ak}{t:Th}{m:MW}{l:BL}(h:xL m l)(hp:0<=f.params):
  Alike xL (allS f.params t.mks t.blk t.place m) (if t.mks.any (pz f) then .error (11,t.blk,t.place) else upE (tj t) t.mks.length l):=by
 unfold allS;have e:(t.mks.all λn=>cu n f.params 8191)=!t.mks.any (pz f):=by rw[<-Hz];congr 1;funext n;exact Jm
 rw[e];cases hb:t.mks.any (pz f)with
 | true=>exact rfl
 | false=>refine IZ h hp λn hn=>?_;rw[Ui];intro e2;rw[Ui]at hb;exact hb (TP.2 ⟨n,hn,e2⟩)
theorem Mc{x:InsD}:(cu x.op 1 18&&cu x.args.length (gZ x.op).1 (gZ x.op).2)=!oO x:=by
 rw[SC];simp only[oO,cu,gZ,td,RV,SK,TA,decide_eq_true_eq,decide_eq_false_iff_not,Ux];by_cases h1:x.op=1
 ·simp[h1]
 by_cases h2:x.op=15
 ·simp[h2];omega
 by_cases h3:x.op=17
 ·simp[h3]
 simp only[h1,h2,h3,if_false,decide_eq_true_eq];omega
theorem Nc{f:ak}:cu n 1 ((f.blocks.length:Int)-1)=!yZ f n:=by rw[SC];simp[cu,yZ];omega
theorem Ix{t:de}:rI t=lh t:=by
 unfold rI lh gM;by_cases h1:t.kind=1
 ·rw[SC];simp[putM,h1,cu];omega
 by_cases h2:t.kind=2
 ·rw[SC];simp[putM,h2,cu];omega
 by_cases h3:t.kind=3
 ·rw[SC];simp[putM,h3,cu];omega
 by_cases h4:t.kind=4
 ·rw[SC];simp[putM,h4,cu]
 by_cases h5:t.kind=5
 ·rw[SC];simp[putM,h5,cu]
 simp[putM,h1,h2,h3,h4,h5]
theorem xG{f:ak}{t:Th}{x:Except Tr BL}(h:mU f t=VJ):oS f t x=x:=by
 unfold oS;cases x with
 | error e=>rfl
 | ok m=>simp only[h,Vp];rfl
theorem H5{f:ak}{t:Th}(ht:t∈aC f)(hp:0<=f.params){m:MW}{l:BL}(h:xL m l):Alike xL (mP f m t) (gK f t l):=by
 obtain⟨b,hb,ht⟩:=eu.1 ht;rcases fE.1 ht with⟨i,hi,rfl⟩ | ⟨i,hi,rfl⟩ | rfl
 ·have e1:vR f (phiT f b i)=false:=by simp[vR,phiT];omega
  have e2:mU f (phiT f b i)=false:=by show decide (-1-(i:Int)=((nth f.blocks b).ins.length:Int))=VJ;rw[decide_eq_false_iff_not];omega
  rw[xz,gK,e1,e2,xG e2];exact AY (t:=phiT f b i) h hp
 ·have e1:vR f (insT f b i)=true:=by simp[vR,insT,je];omega
  have e2:mU f (insT f b i)=false:=by show decide ((i:Int)=((nth f.blocks b).ins.length:Int))=VJ;rw[decide_eq_false_iff_not];omega
  have e3:Ei f (insT f b i)=nth (nth f.blocks b).ins i:=by simp[Ei,je,insT]
  rw[wN hi,gK,e1,e2,xG e2,e3,insS,Mc];cases hb:oO (nth (nth f.blocks b).ins i)with
  | true=>exact rfl
  | false=>exact AY (t:=insT f b i) h hp
 have e1:vR f (endT f b)=false:=by simp[vR,endT,je]
 have e2:mU f (endT f b)=true:=by simp[mU,endT,je]
 have e3:je f (endT f b)=nth f.blocks b:=by simp[je,endT]
 rw[wY,gK,e1,e2,e3,endS,Ix];cases hb:lh (nth f.blocks b).term with
 | false=>exact rfl
 | true=>
  have e4:((nth f.blocks b).term.to.all λt=>cu t 1 ((f.blocks.length:Int)-1))=!(nth f.blocks b).term.to.any (yZ f):=by rw[<-Hz];congr 1;funext n;exact Nc
  rw[e4];show Alike xL _ (oS f (endT f b) (.ok l));unfold oS;rw[e2,e3];cases (nth f.blocks b).term.to.any (yZ f)with
  | true=>exact rfl
  | false=>exact h
theorem GS{f:ak}(hp:0<=f.params):Alike xL (n7 f (λ_=>VF)) (mh f):=by rw[zQ,pA];refine uG (λt ht m l h=>H5 ht hp h) ⟨SI ..,λn h0 h1=>?_⟩;rw[ay (by rw[SI];omega),Vi];rfl
def Gl (t:Th):Option (Int × Int):=if t.blk<0 then VF else VE (t.blk,t.place)
structure Site (m:MW) (s:List Th):Prop where
 len:s.length=8192
 inn : ∀n:Int,0<=n->n<8192->m n=Gl (nth s n.toNat)
 out : ∀n:Int,¬(0<=n/\n<8192)->m n=VF
theorem Ew {t:Th} (hb:0<=t.blk) : ∀{l:List Int} {m:MW} {s:List Th},Site m s->(∀n∈l,0<=n/\n<8192)->Site (l.foldl (λm n=>putM m n (t.blk,t.place)) m) (l.foldl (gm t) s)
 | [],m,s,h,_=>h
 | n::l,m,s,h,hl=>by
  rw[Su,Su];have hn:=hl n R1;refine Ew hb ⟨qU.trans h.len,λk h0 h1=>?_,λk hk=>?_⟩ λk hk=>hl k (RU _ hk)
  ·unfold gm putM;rw[if_pos hn,bj (by rw[h.len];omega)];by_cases e:k=n
   ·subst e;rw[if_pos rfl,if_pos rfl];unfold Gl;rw[if_neg V4]
   rw[if_neg e,if_neg V4];exact h.inn k h0 h1
  unfold putM;rw[if_neg (by rintro rfl;exact hk hn)];exact h.out k hk
theorem E4 {b p:Int} : ∀{l:List Int} {m m':MW},l.foldlM (tM b p) m = .ok m'->m'=l.foldl (λm n=>putM m n (b,p)) m
 | [],m,m',h=>by cases h;rfl
 | n::l,m,m',h=>by
  rw[S9]at h;cases e:tM b p m n with
  | error t=>rw[e]at h;cases h
  | ok m1=>
   rw[e]at h;unfold tM at e;split at e
   ·cases e
   cases e;exact E4 (l:=l) (m:=putM m n (b,p)) h
theorem Et{ps p:Int}{l:List Int}{m m':MW}(h:allS ps l b p m = .ok m'):m'=l.foldl (λm n=>putM m n (b,p)) m/\∀n∈l,ps<=n/\n<=8191:=by
 unfold allS at h;split at h
 ·rename_i ha;refine⟨E4 h,λn hn=>?_⟩;have:=SF.1 ha n hn;simpa[cu]using this
 cases h
theorem Kr{f:ak}{t:Th}(ht:t∈aC f){m m':MW}(h:mP f m t = .ok m'):(m'=t.mks.foldl (λm n=>putM m n (t.blk,t.place)) m/\∀n∈t.mks,f.params<=n/\n<=8191)/\0<=t.blk:=by
 obtain⟨b,hb,ht⟩:=eu.1 ht;rcases fE.1 ht with⟨i,hi,rfl⟩ | ⟨i,hi,rfl⟩ | rfl
 ·rw[xz]at h;exact⟨Et h,by show 0<=(b:Int);omega⟩
 ·rw[wN hi]at h;unfold insS at h;split at h
  ·exact⟨Et h,by show 0<=(b:Int);omega⟩
  cases h
 rw[wY]at h;unfold endS at h;split at h
 ·split at h
  ·cases h;exact⟨⟨rfl,λn hn=>by cases hn⟩,by show 0<=(b:Int);omega⟩
  cases h
 cases h
theorem Bg {f:ak} (hp:0<=f.params) : ∀{l:List Th},(∀t∈l,t∈aC f)->∀{m m':MW} {s:List Th},Site m s->l.foldlM (mP f) m = .ok m'->Site m' (l.foldl uC s)
 | [],_,m,m',s,h,e=>by cases e;exact h
 | t::l,hl,m,m',s,h,e=>by
  rw[S9]at e;cases e1:mP f m t with
  | error x=>rw[e1]at e;cases e
  | ok m1=>rw[e1]at e;obtain⟨⟨q1,q2⟩,q3⟩:=Kr (hl t R1) e1;rw[Su];refine Bg hp (λt ht=>hl t (RU _ ht)) (m:=m1) ?_ e;rw[q1];exact Ew q3 h λn hn=>by have:=q2 n hn;omega
theorem Is{f:ak}(hp:0<=f.params){m:MW}(h:n7 f (λ_=>VF) = .ok m):Site m (jl f):=by rw[zQ]at h;refine Bg hp (λt ht=>ht) ⟨SI ..,λn h0 h1=>?_,λn _=>rfl⟩ h;rw[ay (by rw[SI];omega),Vi];rfl
theorem y5{f:ak}{m:MW}{made:List Th}{away:List BL}{idom:List Int}{v blk place at_ told:Int}(hp:f.params<=8192)(hs:Site m made)(hd : ∀a:Int,0<=a->a<f.blocks.length->eI idom a blk=!nth (nth away a.toNat) blk.toNat)(hm : ∀i,i<8192->(nth made i).blk<f.blocks.length):useS f.params m idom v blk place at_ told=if(!ix f made away v blk at_) then .error (13,told,place) else .ok ():=by
 unfold useS;by_cases c1:0<=v/\v<f.params
 ·have e:ix f made away v blk at_=true:=by unfold ix;rw[if_pos c1]
  rw[if_pos c1,e];rfl
 rw[if_neg c1];by_cases c2:v<0\/8191<v
 ·have e:ix f made away v blk at_=false:=by unfold ix;rw[if_neg c1,if_pos (.inl c2)]
  rw[hs.out v V4,e];rfl
 have e:ix f made away v blk at_=if(nth made v.toNat).blk<0 then VJ else if(nth made v.toNat).blk=blk then decide ((nth made v.toNat).place<0)||decide ((nth made v.toNat).place<at_) else !nth (nth away (nth made v.toNat).blk.toNat) blk.toNat:=by
  unfold ix;rw[if_neg c1];by_cases c3:(nth made v.toNat).blk<0
  ·rw[if_pos (.inr c3),if_pos c3]
  rw[if_neg (by rintro(q | q)<;>contradiction),if_neg c3]
 rw[hs.inn v V4 V4,e];have hmb:=hm v.toNat V4;generalize nth made v.toNat=t at hmb;unfold Gl;by_cases c3:t.blk<0
 ·rw[if_pos c3,if_pos c3];rfl
 rw[if_neg c3,if_neg c3];have e2:nA (t.blk,t.place) idom blk at_=if t.blk=blk then decide (t.place<0)||decide (t.place<at_) else !nth (nth away t.blk.toNat) blk.toNat:=by
  unfold nA;by_cases c4:t.blk=blk
  ·simp only[c4,decide_true,T3,Bool.not_true,Vp,Bool.or_false,if_true];rw[Bool.or_comm]
  simp only[c4,decide_false,Vp,Bool.not_false,T3,Vr,if_false];exact hd t.blk V4 hmb
 simp only[e2];generalize (if t.blk=blk then decide (t.place<0)||decide (t.place<at_) else !nth (nth away t.blk.toNat) blk.toNat)=B;cases B<;>rfl
theorem zd[Inhabited α]{l:List α}{p:α->Bool}{e:Tr}{g:Nat->Except Tr Unit}(h : ∀j,j<l.length->g j=if p (nth l j) then .error e else .ok ()):uAll g l.length=if l.any p then .error e else .ok ():=by
 have h1:uAll g l.length=l.foldlM (fun(_:Unit) x=>if p x then Except.error e else .ok ()) ():=by
  unfold uAll;rw[<-rV (f:=fun(_:Unit) x=>if p x then Except.error e else .ok ())];have key : ∀n,n<=l.length->upE (λi (_:Unit)=>g i) n ()=upE (λi (_:Unit)=>if p (nth l i) then Except.error e else .ok ()) n ():=by
   intro n;induction n with
   | zero=>exact λ_=>rfl
   | succ n ih=>intro hn;simp only[upE];rw[ih V4,h n V4]
  exact key _ (RQ _)
 rw[h1];clear h1 h;induction l with
 | nil=>rfl
 | cons a l ih=>
  rw[S9,Vq];cases hp:p a with
  | true=>rfl
  | false=>rw[Vr];exact ih
theorem GW{β:Type}{p q:Nat->Bool}{x:Nat->β}{n:Nat}(h : ∀a,a<n->p a=q a):sift p x n=sift q x n:=by rw[tz,tz];congr 1;exact UH λa ha=>h a (Tq.1 ha)
theorem GI{f:ak}{b:Nat}(hb:b<f.blocks.length):nth (dO (ofG f.blocks)) b=aJ f b:=by rw[Dw,xc,nu,gC hb,aJ];refine GW λa ha=>?_;rw[SC,qg,decide_eq_true_eq,Si];exact⟨λh=>h.2,λh=>⟨by omega,h⟩⟩
theorem IY{f:ak}{b i:Nat}(hb:b<f.blocks.length):Ej (nth (nth f.blocks b).phis i) (nth (dO (ofG f.blocks)) b) b=tK f (phiT f b i):=by
 have e1:tY f (phiT f b i)=nth (nth f.blocks b).phis i:=by unfold tY je phiT;simp only[Si];rw[show(-1-(-1-(i:Int))).toNat=i by omega]
 have e2:(phiT f b i).blk=(b:Int):=rfl;unfold Ej mL tK;rw[e1,e2,GI hb];generalize nth (nth f.blocks b).phis i=x;generalize aJ f b=row;rw[SC];simp only[RV,decide_eq_true_eq,HF,Bh];constructor
 ·rintro⟨⟨h1,h2⟩,h3⟩;refine⟨by omega,TG Vv λj hj hj2=>?_⟩;have:=h3 j (by simpa using hj);rw[ay hj2,ay (by simpa using hj)]at this;simpa using this
 rintro⟨h1,h2⟩;have hl:x.ins.length=row.length:=by rw[<-h2,TF]
 refine⟨V9,λj hj=>?_⟩;rw[<-h2,ay (l:=List.map InD.frm x.ins) (by rw[TF];exact hj),ay hj];simp
theorem zz{f:ak}: ∀i,i<8192->(nth (jl f) i).blk<f.blocks.length:=λi hi=>IA V4 (λt ht=>by
 obtain⟨b,hb,ht⟩:=eu.1 ht;rcases fE.1 ht with⟨i,hi,rfl⟩ | ⟨i,hi,rfl⟩ | rfl
 ·show(b:Int)<_;omega
 ·show(b:Int)<_;omega
 show(b:Int)<_;omega) hi
section
variable {f:ak} {m:MW} {idom:List Int} (hp0:f.params<=8192) (hs:Site m (jl f)) (hd : ∀a b:Int,0<=a->a<f.blocks.length->0<=b->b<f.blocks.length->eI idom a b=!nth (nth (ir f) a.toNat) b.toNat)
include hp0 hs hd
theorem Mo{b i:Nat}(hb:b<f.blocks.length)(hi:i<(nth f.blocks b).phis.length):phiU f m idom (dO (ofG f.blocks)) b i=iF f (jl f) (ir f) (phiT f b i):=by
 have hf:=IY (f:=f) (i:=i) hb;have e1:tY f (phiT f b i)=nth (nth f.blocks b).phis i:=by unfold tY je phiT;simp only[Si];rw[show(-1-(-1-(i:Int))).toNat=i by omega]
 have e3:iF f (jl f) (ir f) (phiT f b i)=if !tK f (phiT f b i) then .error (16,b,-1-i) else if(nth (nth f.blocks b).phis i).ins.any (stP f (jl f) (ir f)) then .error (13,b,-1-i) else .ok ():=by unfold iF;rw[if_neg (show ¬0<=(phiT f b i).place by show ¬0<=-1-(i:Int);omega),e1];rfl
 rw[e3];unfold phiU;simp only[hf];cases hss:tK f (phiT f b i)with
 | false=>rfl
 | true=>
  rw[if_pos rfl,if_neg V5];refine zd λj hj=>?_;have hfr:0<=(nth (nth (nth f.blocks b).phis i).ins j).frm/\(nth (nth (nth f.blocks b).phis i).ins j).frm<f.blocks.length:=by unfold tK at hss;rw[e1]at hss;simp only[RV,decide_eq_true_eq]at hss;have hm:=TM (f:=InD.frm) (aX hj);rw[hss.2]at hm;obtain⟨a,h1,_,h2⟩:=sM.1 hm;omega
  rw[y5 hp0 hs (λa h0 h1=>hd a _ h0 h1 hfr.1 hfr.2) zz];rfl
theorem Mw{b i:Nat}(hb:b<f.blocks.length)(hi:i<(nth f.blocks b).ins.length):insU f m idom b i=iF f (jl f) (ir f) (insT f b i):=by
 have e3:iF f (jl f) (ir f) (insT f b i)=if(nth (nth f.blocks b).ins i).args.any (stT f (jl f) (ir f) (insT f b i)) then .error (13,b,i) else .ok ():=by unfold iF;rw[if_pos (show 0<=(insT f b i).place by show 0<=(i:Int);omega)];rfl
 rw[e3];unfold insU;refine zd λj hj=>?_;rw[y5 hp0 hs (λa h0 h1=>hd a _ h0 h1 V4 V4) zz];rfl
theorem MQ{b:Nat}(hb:b<f.blocks.length):endU f m idom b=iF f (jl f) (ir f) (endT f b):=by
 have e3:iF f (jl f) (ir f) (endT f b)=if(nth f.blocks b).term.args.any (stT f (jl f) (ir f) (endT f b)) then .error (13,b,(nth f.blocks b).ins.length) else .ok ():=by unfold iF;rw[if_pos (show 0<=(endT f b).place by show 0<=((nth f.blocks b).ins.length:Int);omega)];rfl
 rw[e3];unfold endU;refine zd λj hj=>?_;rw[y5 hp0 hs (λa h0 h1=>hd a _ h0 h1 V4 V4) zz];rfl
def stF (f:ak) (_:Unit) (t:Th):Except Tr Unit:=iF f (jl f) (ir f) t
theorem Mj{b:Nat}(hb:b<f.blocks.length):blkU f m idom (dO (ofG f.blocks)) b=(thB f b).foldlM (stF f) ():=by
 unfold blkU thB uAll;rw[qh (f:=stF f) (x:=phiT f b) (n:=(nth f.blocks b).phis.length) λi s hi=>Mo hp0 hs hd hb hi];rw[qh (f:=stF f) (x:=insT f b) (n:=(nth f.blocks b).ins.length) λi s hi=>Mw hp0 hs hd hb hi];rw[kF,kF,MQ hp0 hs hd hb];cases (rows (phiT f b) (nth f.blocks b).phis.length).foldlM (stF f) ()with
 | error e=>rfl
 | ok m1=>
  obtain⟨⟩:=m1;cases hI:(rows (insT f b) (nth f.blocks b).ins.length).foldlM (stF f) ()with
  | error e=>simp only[andE,hI]
  | ok m2=>simp only[andE,hI];rw[uJ];rfl
theorem Iy:uAll (blkU f m idom (dO (ofG f.blocks))) f.blocks.length=AG f:=by
 have key : ∀n,n<=f.blocks.length->uAll (blkU f m idom (dO (ofG f.blocks))) n=(thTo f n).foldlM (stF f) ():=by
  intro n;induction n with
  | zero=>exact λ_=>rfl
  | succ n ih=>
   intro hn;rw[fR,kF,<-ih V4];have e:uAll (blkU f m idom (dO (ofG f.blocks))) (n+1)=match uAll (blkU f m idom (dO (ofG f.blocks))) n with | .ok _=>blkU f m idom (dO (ofG f.blocks)) n | .error e=>.error e:=by show upE _ (n+1) ()=_;simp only[upE];unfold uAll;cases upE (λi (_:Unit)=>blkU f m idom (dO (ofG f.blocks)) i) n ()<;>rfl
   rw[e];cases uAll (blkU f m idom (dO (ofG f.blocks))) n with
   | error e=>rfl
   | ok s=>exact Mj hp0 hs hd V4
 rw[key _ (RQ _)];exact(rV (f:=stF f)).symm
end
theorem BM {f:ak} : ∀k,manyN f k=(jt f k:Int)
 | 0=>rfl
 | k+1=>by have ih:=BM (f:=f) k;unfold manyN at ih ⊢;rw[up,ih,jt];omega
theorem BQ {σ ε:Type} {f g:Nat->σ->Except ε σ} {s:σ} : ∀{n:Nat},(∀i s,i<n->f i s=g i s)->upE f n s=upE g n s
 | 0,_=>rfl
 | n+1,h=>by
  simp only[upE];rw[BQ (n:=n) λi s hi=>h i s V4];cases upE g n s with
  | ok s'=>exact h n s' V4
  | error e=>rfl
theorem yr {f:Nat->Unit->Except Tr Unit} : ∀{n:Nat},upE f n () = .ok ()->∀i,i<n->f i () = .ok ()
 | n+1,h,i,hi=>by
  simp only[upE]at h;cases e:upE f n ()with
  | error t=>rw[e]at h;cases h
  | ok s=>
   rw[e]at h;rcases RX i n with hlt | hge
   ·exact yr e i hlt
   have:i=n:=by omega
   subst this;exact h
theorem JS{f:ak}(hn:0<f.blocks.length):uAll (xp f) f.blocks.length=wayE f:=by
 unfold uAll wayE;refine BQ λb s hb=>?_;unfold xp;have e:decide ((b:Int)∈bK (ofG f.blocks))=nth (eY f (-1)) b:=by rw[SC,decide_eq_true_eq,(lA (by rw[nu];exact hn)).mem,gz hb]
 rw[e]
theorem Jw{f:ak}(hn:0<f.blocks.length)(hw:wayE f = .ok ())(a b:Int)(h0:0<=a)(h1:a<f.blocks.length)(h2:0<=b)(h3:b<f.blocks.length):
  eI (tS (ofG f.blocks)) a b=!nth (nth (ir f) a.toNat) b.toNat:=by
 have hR : ∀x:Nat,x<f.blocks.length->Re (ofG f.blocks) (-1) x:=λx hx=>by
  have:=yr hw x hx;rw[<-gz hx];split at this
  ·assumption
  cases this
 have hg:0<(ofG f.blocks).length:=by rw[nu];exact hn
 obtain⟨fp,C,l,hl,I⟩:=Bv hg;have hi:tS (ofG f.blocks)=l:=by unfold tS;rw[hl];rfl
 rw[hi];have e:=vN I C (a:=a.toNat) (b:=b.toNat) (by rw[nu];omega) (hR _ V4);rw[Sr h0,Sr h2]at e;rw[e,SC,rX];have ha:nth (ir f) a.toNat=eY f a:=by unfold ir;rw[gC V4,Sr h0]
 rw[ha];have hr:=gz (f:=f) (wo:=a) (b:=b.toNat) V4;have haa:((a.toNat:Nat):Int)=a:=Sr h0;rw[haa];cases hc:nth (eY f a) b.toNat with
 | true=>rw[hc]at hr;simp[hr.1 rfl]
 | false=>
  rw[hc]at hr;have hnr:¬Re (ofG f.blocks) a b.toNat:=λh=>by have:=hr.2 h;cases this
  simp[hnr,hR _ (show a.toNat<f.blocks.length by omega),hR _ (show b.toNat<f.blocks.length by omega)]
theorem BV(f:ak):kR f=vk f:=by
 unfold kR oz vk;by_cases c1:f.params<0\/4<f.params
 ·have:cu f.params 0 4=false:=by rw[Ui];simp[cu];omega
  rw[if_pos this,if_pos c1]
 have hw4:¬cu f.params 0 4=false:=by simp[cu];omega
 rw[if_neg hw4,if_neg c1];by_cases c2:f.blocks.length=0
 ·rw[if_pos c2,if_pos c2]
 rw[if_neg c2,if_neg c2];have hm:HQ f=(jt f f.blocks.length:Int):=BM _;by_cases c3:512<f.blocks.length\/4096<jt f f.blocks.length
 ·rw[if_pos (by rw[hm];omega),if_pos c3]
 rw[if_neg (by rw[hm];omega),if_neg c3];have hp:0<=f.params:=by omega
 have hsh:=GS hp;cases hS:n7 f (λ_=>VF)with
 | error e=>
  cases hR:mh f with
  | ok l=>rw[hS,hR]at hsh;exact hsh.elim
  | error e'=>rw[hS,hR]at hsh;have hee:e=e':=hsh;subst hee;obtain⟨k,s',h1,_,h3⟩:=tD hR;have:=(yb h3).1;rw[if_pos (by show e.1≠0;omega)];rfl
 | ok m=>
  cases hR:mh f with
  | error e'=>rw[hS,hR]at hsh;exact hsh.elim
  | ok l=>
   rw[if_neg (by simp[zB])];have hs:=Is hp hS;show(match vY f m (tS (ofG f.blocks))with | .ok _=>((0,0,0):Tr) | .error t=>t)=_;unfold vY;rw[JS V4];cases hW:wayE f with
   | error e=>rfl
   | ok s=>obtain⟨⟩:=s;have:=Iy (f:=f) (m:=m) (idom:=tS (ofG f.blocks)) V4 hs λa b h0 h1 h2 h3=>Jw V4 hW a b h0 h1 h2 h3;show(match uAll (blkU f m (tS (ofG f.blocks)) (dO (ofG f.blocks))) f.blocks.length with | .ok _=>((0,0,0):Tr) | .error t=>t)=zB (AG f);rw[this];cases AG f<;>rfl
def Marks (m:BL) (S:Int->Prop):Prop:=m.length=8192/\∀n:Int,0<=n->n<8192->(nth m n.toNat=VI↔S n)
theorem zc:Marks (List.replicate 8192 VJ) (λ_=>False):=⟨SI,λn h0 h1=>by rw[aD V4];simp⟩
theorem AK{m:BL}{S:Int->Prop}(h:Marks m S)(h0:0<=n)(h1:n<8192):Marks (m.set n.toNat VI) (λk=>S k\/k=n):=by
 refine⟨by simpa using h.1,λk k0 k1=>?_⟩;rw[bj (by rw[h.1];omega)];split
 ·rename_i e;exact⟨λ_=>.inr V4,λ_=>rfl⟩
 rename_i e;rw[h.2 k k0 k1];exact⟨.inl,λo=>o.resolve_right (by rintro rfl;exact e rfl)⟩
theorem Marks.congr{m:BL}{S T:Int->Prop}(h:Marks m S)(he : ∀n,S n↔T n):Marks m T:=⟨h.1,λn a b=>(h.2 n a b).trans (he n)⟩
theorem uL {t:Th} : ∀{l:List Int} {m m':BL} {S:Int->Prop},Marks m S->(∀n∈l,0<=n/\n<8192)->l.foldlM (lF t) m = .ok m'->Marks m' (λk=>S k\/k∈l)/\l.Nodup/\∀n∈l,¬S n
 | [],m,m',S,h,_,e=>by cases e;exact⟨h.congr λn=>by simp,TS,λn hn=>by cases hn⟩
 | a::l,m,m',S,h,hl,e=>by
  rw[S9]at e;have ha:=hl a R1;unfold lF at e;by_cases hc:nth m a.toNat=VI
  ·rw[if_pos hc]at e;cases e
  rw[if_neg hc]at e;obtain⟨g1,g2,g3⟩:=uL (AK h ha.1 ha.2) (λn hn=>hl n (RU _ hn)) e;refine⟨g1.congr λn=>by rw[Sb,or_assoc],TK.2 ⟨λhm=>g3 a hm (.inr rfl),g2⟩,λn hn=>?_⟩;rcases Sb.1 hn with rfl | hn
  ·exact λhs=>hc ((h.2 n ha.1 ha.2).2 hs)
  exact λhs=>g3 n hn (.inl hs)
theorem yX {t:Th} : ∀{l:List Int} {m:BL} {S:Int->Prop},Marks m S->(∀n∈l,0<=n/\n<8192)->l.Nodup->(∀n∈l,¬S n)->∃m',l.foldlM (lF t) m = .ok m'
 | [],m,S,h,_,_,_=>⟨m,rfl⟩
 | a::l,m,S,h,hl,hd,hs=>by
  have ha:=hl a R1;rw[S9];unfold lF;rw[if_neg λhc=>hs a R1 ((h.2 a ha.1 ha.2).1 hc)];obtain⟨d1,d2⟩:=TK.1 hd;refine yX (AK h ha.1 ha.2) (λn hn=>hl n (RU _ hn)) d2 λn hn=>?_;rintro(g | rfl)
  ·exact hs n (RU _ hn) g
  exact d1 hn
structure xh (f:ak) (t:Th):Prop where
 op:vR f t=VI->oO (Ei f t)=VJ
 term:mU f t=VI->lh (je f t).term=VI
 mks : ∀n∈t.mks,f.params<=n/\n<=8191
 to:mU f t=VI->∀n∈(je f t).term.to,1<=n/\n<f.blocks.length
theorem Dn{t:Th}{m:BL}:upE (tj t) t.mks.length m=t.mks.foldlM (lF t) m:=rV (f:=lF t)
theorem any_false{p:α->Bool}{l:List α}:l.any p=VJ↔∀n∈l,p n=false:=by rw[List.any_eq_false];exact forall_congr' λn=>forall_congr' λ_=>by simp
theorem Ff{f:ak}:pz f n=VJ↔f.params<=n/\n<=8191:=by simp[pz]
theorem HS{f:ak}:yZ f n=VJ↔1<=n/\n<f.blocks.length:=by simp[yZ]
theorem FT{f:ak}{t:Th}{m m':BL}(h:gK f t m = .ok m'):xh f t/\t.mks.foldlM (lF t) m = .ok m':=by
 unfold gK at h;split at h
 ·cases h
 rename_i c1;split at h
 ·cases h
 rename_i c2;split at h
 ·cases h
 rename_i c3;rw[Dn]at h;unfold oS at h;split at h
 ·cases h
 rename_i m1 e;split at h
 ·cases h
 rename_i c4;cases h;refine⟨⟨λg=>?_,λg=>?_,λn hn=>?_,λg n hn=>?_⟩,e⟩
 ·simpa[g]using c1
 ·simpa[g]using c2
 ·exact Ff.1 (any_false.1 (by simpa only[Uc]using c3) n hn)
 refine HS.1 (any_false.1 (by simpa only[g,T3,Uc]using c4) n hn)
theorem Ep{f:ak}{t:Th}{m m':BL}(h:xh f t)(e:t.mks.foldlM (lF t) m = .ok m'):gK f t m = .ok m':=by
 unfold gK;rw[if_neg,if_neg,if_neg]
 ·rw[Dn,e];unfold oS;dsimp only;rw[if_neg];intro c;obtain⟨c1,c2⟩:=(RV _ _).mp c;rw[any_false.2 λn hn=>HS.2 (h.to c1 n hn)]at c2;cases c2
 ·rw[any_false.2 λn hn=>Ff.2 (h.mks n hn)];exact Bool.false_ne_true
 ·intro c;obtain⟨c1,c2⟩:=(RV _ _).mp c;rw[h.term c1]at c2;cases c2
 intro c;obtain⟨c1,c2⟩:=(RV _ _).mp c;rw[h.op c1]at c2;cases c2
def iK (l:List Th):List Int:=l.flatMap Th.mks
theorem xH {f:ak} (hp:0<=f.params) : ∀{l:List Th} {m m':BL} {S:Int->Prop},Marks m S->l.foldlM (λm t=>gK f t m) m = .ok m'->(∀t∈l,xh f t)/\(iK l).Nodup/\∀n∈iK l,¬S n
 | [],m,m',S,h,e=>⟨λt ht=>(by cases ht),TS,λn hn=>(by cases hn)⟩
 | t::l,m,m',S,h,e=>by
  rw[S9]at e;cases e1:gK f t m with
  | error x=>rw[e1]at e;cases e
  | ok m1=>
   rw[e1]at e;obtain⟨g,e2⟩:=FT e1;obtain⟨k1,k2,k3⟩:=uL h (λn hn=>by have:=g.mks n hn;omega) e2;obtain⟨i1,i2,i3⟩:=xH hp k1 e;refine⟨λx hx=>?_,?_,λn hn=>?_⟩
   ·rcases Sb.1 hx with rfl | hx
    ·exact g
    exact i1 x hx
   ·refine SX.2 ⟨k2,i2,λa ha b hb=>?_⟩;rintro rfl;exact i3 a hb (.inr ha)
   rcases RW.1 hn with hn | hn
   ·exact k3 n hn
   exact λhs=>i3 n hn (.inl hs)
theorem yR {f:ak} (hp:0<=f.params) : ∀{l:List Th} {m:BL} {S:Int->Prop},Marks m S->(∀t∈l,xh f t)->(iK l).Nodup->(∀n∈iK l,¬S n)->∃m',l.foldlM (λm t=>gK f t m) m = .ok m'
 | [],m,S,_,_,_,_=>⟨m,rfl⟩
 | t::l,m,S,h,hg,hd,hs=>by
  have g:=hg t R1;obtain⟨d1,d2,d3⟩:=SX.1 (show(t.mks++iK l).Nodup from hd);have hr : ∀n∈t.mks,0<=n/\n<8192:=λn hn=>by have:=g.mks n hn;omega
  obtain⟨m1,e⟩:=yX (t:=t) h hr d1 λn hn=>hs n (SA _ hn);rw[S9,Ep g e];obtain⟨k1,_,_⟩:=uL h hr e;exact yR hp k1 (λx hx=>hg x (RU _ hx)) d2 λn hn=>by
   rintro(q | q)
   ·exact hs n (SE _ hn) q
   exact d3 n q n hn rfl
def sV (f:ak) (v b p:Int):Prop:=(0<=v/\v<f.params)\/∃t∈aC f,v∈t.mks/\(t.blk=b/\(t.place<0\/t.place<p)\/t.blk≠b/\¬Re (ofG f.blocks) t.blk b.toNat)
structure L2 (ts:List Th) (s:List Th):Prop where
 len:s.length=8192
 is : ∀n:Int,0<=n->n<8192->(nth s n.toNat=noTh/\∀t∈ts,n∉t.mks)\/(nth s n.toNat∈ts/\n∈(nth s n.toNat).mks)
theorem Er {t:Th} {ts:List Th} : ∀{l:List Int} {s:List Th} {d:List Int},(∀n∈l,n∈t.mks)->(s.length=8192/\∀n:Int,0<=n->n<8192->(nth s n.toNat=noTh/\(∀t∈ts,n∉t.mks)/\n∉d)\/(nth s n.toNat∈ts++[t]/\n∈(nth s n.toNat).mks))->
  ((l.foldl (gm t) s).length=8192/\∀n:Int,0<=n->n<8192->(nth (l.foldl (gm t) s) n.toNat=noTh/\(∀t∈ts,n∉t.mks)/\n∉d++l)\/(nth (l.foldl (gm t) s) n.toNat∈ts++[t]/\n∈(nth (l.foldl (gm t) s) n.toNat).mks))
 | [],s,d,_,h=>by simpa using h
 | a::l,s,d,hl,h=>by
  rw[Su];have:=Er (t:=t) (ts:=ts) (l:=l) (s:=gm t s a) (d:=d++[a]) (λn hn=>hl n (RU _ hn)) ⟨by rw[qU];exact h.1,λn h0 h1=>?_⟩
  ·simpa using this
  unfold gm;split
  ·rw[bj (by rw[h.1];omega)];split
   ·rename_i hc e;have:n=a:=by omega
    subst this;exact .inr ⟨SE _ (RR.2 rfl),hl n R1⟩
   rename_i hc e;rcases h.2 n h0 h1 with⟨a1,a2,a3⟩ | a1
   ·refine .inl ⟨a1,a2,?_⟩;rw[RW,RR];rintro(q | rfl)
    ·exact a3 q
    exact e rfl
   exact .inr a1
  rename_i hc;rcases h.2 n h0 h1 with⟨a1,a2,a3⟩ | a1
  ·refine .inl ⟨a1,a2,?_⟩;rw[RW,RR];rintro(q | rfl)
   ·exact a3 q
   exact hc ⟨h0,h1⟩
  exact .inr a1
theorem Ft : ∀{l ts s:List Th},L2 ts s->L2 (ts++l) (l.foldl uC s)
 | [],ts,s,h=>by simpa using h
 | t::l,ts,s,h=>by
  rw[Su];have:=Er (t:=t) (ts:=ts) (l:=t.mks) (s:=s) (d:=[]) (λn hn=>hn) ⟨h.len,λn h0 h1=>(h.is n h0 h1).elim (λa=>.inl ⟨a.1,a.2,Uo⟩) λa=>.inr ⟨SA _ a.1,a.2⟩⟩;have:=Ft (l:=l) (ts:=ts++[t]) (s:=uC s t) ⟨this.1,λn h0 h1=>(this.2 n h0 h1).elim (λa=>.inl ⟨a.1,λx hx=>?_⟩) .inr⟩
  ·simpa using this
  rcases RW.1 hx with hx | hx
  ·exact a.2.1 x hx
  rw[RR.1 hx];simpa using a.2.2
theorem AP{f:ak}:L2 (aC f) (jl f):=
 Ft (l:=aC f) (ts:=[]) (s:=List.replicate 8192 noTh) ⟨SI,λn h0 h1=>.inl ⟨aD V4,λt ht=>by cases ht⟩⟩
theorem vK{f:ak}{t:Th}(h:t∈aC f):0<=t.blk/\t.blk<f.blocks.length:=by obtain⟨b,hb,ht⟩:=eu.1 h;rcases fE.1 ht with⟨i,hi,rfl⟩ | ⟨i,hi,rfl⟩ | rfl<;>exact⟨Uy _,Int.ofNat_lt.2 hb⟩
theorem GZ{f:ak}{a:Int}(h0:0<=a)(h1:a<f.blocks.length)(h2:0<=b)(h3:b<f.blocks.length):nth (nth (ir f) a.toNat) b.toNat=VI↔Re (ofG f.blocks) a b.toNat:=by unfold ir;rw[gC V4,Sr h0];exact gz V4
theorem AI{f:ak}{v p:Int}(hb0:0<=b)(hb1:b<f.blocks.length)(h:ix f (jl f) (ir f) v b p=VI):sV f v b p:=by
 unfold ix at h;split at h
 ·rename_i c;exact .inl c
 split at h
 ·cases h
 rename_i c1 c2;rcases AP.is v V4 V4 with⟨e,_⟩ | ⟨hm,hv⟩
 ·exact absurd (.inr (by rw[e];decide)) c2
 have hat:=vK hm;refine .inr ⟨_,hm,hv,?_⟩;split at h
 ·rename_i e;exact .inl ⟨e,by simpa using h⟩
 rename_i e;refine .inr ⟨e,λhr=>?_⟩;rw[(GZ hat.1 hat.2 hb0 hb1).2 hr]at h;cases h
theorem DL : ∀{l:List Th},(iK l).Nodup->∀{t t':Th} {v:Int},t∈l->t'∈l->v∈t.mks->v∈t'.mks->t=t'
 | a::l,hd,t,t',v,h,h',hv,hv'=>by
  obtain⟨d1,d2,d3⟩:=SX.1 (show(a.mks++iK l).Nodup from hd);rcases Sb.1 h with e1 | h1
  ·rcases Sb.1 h' with e2 | h2
   ·rw[e1,e2]
   exact absurd rfl (d3 v (by rw[<-e1];exact hv) v (SS.2 ⟨t',h2,hv'⟩))
  rcases Sb.1 h' with e2 | h2
  ·exact absurd rfl (d3 v (by rw[<-e2];exact hv') v (SS.2 ⟨t,h1,hv⟩))
  exact DL d2 h1 h2 hv hv'
theorem BP{f:ak}{v p:Int}(hd:(iK (aC f)).Nodup)(hr : ∀t∈aC f,∀n∈t.mks,0<=n/\n<=8191)(hb0:0<=b)(hb1:b<f.blocks.length)(h:sV f v b p):ix f (jl f) (ir f) v b p=true:=by
 unfold ix;rcases h with c | ⟨t,ht,hv,h⟩
 ·rw[if_pos c]
 split
 ·rfl
 have hn:=hr t ht v hv;have hat:=vK ht;have e:nth (jl f) v.toNat=t:=by
  rcases AP.is v hn.1 V4 with⟨_,a⟩ | ⟨a,b⟩
  ·exact absurd hv (a t ht)
  exact DL hd a ht b hv
 rw[e,if_neg V4];rcases h with⟨h1,h2⟩ | ⟨h1,h2⟩
 ·rw[if_pos h1];simpa using h2
 rw[if_neg h1];cases ec:nth (nth (ir f) t.blk.toNat) b.toNat with
 | false=>rfl
 | true=>exact absurd ((GZ hat.1 hat.2 hb0 hb1).1 ec) h2
structure kP (f:ak):Prop where
 params:0<=f.params/\f.params<=4
 blocks:0<f.blocks.length/\f.blocks.length<=512
 cnt:jt f f.blocks.length<=4096
 good : ∀t∈aC f,xh f t
 nodup:(iK (aC f)).Nodup
 way : ∀b:Nat,b<f.blocks.length->Re (ofG f.blocks) (-1) b
 takes : ∀t∈aC f,0<=t.place->∀v∈t.tks,sV f v t.blk t.place
 phi : ∀b i:Nat,b<f.blocks.length->i<(nth f.blocks b).phis.length->0<b/\(nth (nth f.blocks b).phis i).ins.map InD.frm=aJ f b/\∀p∈(nth (nth f.blocks b).phis i).ins,sV f p.val p.frm (y9 f p.frm)
theorem Ez{f:ak}{x:Int}:x∈aJ f b↔(0<=x/\x<f.blocks.length)/\b∈(nth f.blocks x.toNat).term.to:=by
 unfold aJ;rw[sM];constructor
 ·rintro⟨a,ha,hb,rfl⟩;exact⟨V9,by simpa using hb⟩
 rintro⟨⟨h0,h1⟩,h⟩;exact⟨x.toNat,by omega,by simpa using h,by omega⟩
theorem Ae {g:Nat->Unit->Except Tr Unit} : ∀{n:Nat},(∀i,i<n->g i () = .ok ())->upE g n () = .ok ()
 | 0,_=>rfl
 | n+1,h=>by simp only[upE];rw[Ae λi hi=>h i V4];exact h n V4
theorem y7{f:ak}{t:Th}:iF f (jl f) (ir f) t = .ok ()↔
  (0<=t.place/\∀v∈t.tks,ix f (jl f) (ir f) v t.blk t.place=VI)\/(t.place<0/\tK f t=VI/\∀p∈(tY f t).ins,ix f (jl f) (ir f) p.val p.frm (y9 f p.frm)=VI):=by
 unfold iF;by_cases h0:0<=t.place
 ·rw[if_pos h0];have hn:¬t.place<0:=by omega
  simp only[h0,hn,true_and,false_and,or_false];cases e:t.tks.any (stT f (jl f) (ir f) t)with
  | true=>
   obtain⟨v,hv,hs⟩:=TP.1 e;constructor
   ·intro h;cases h
   intro h;unfold stT at hs;rw[h v hv]at hs;cases hs
  | false=>
   constructor
   ·intro _ v hv;have:=any_false.1 e v hv;simpa[stT]using this
   intro _;rfl
 rw[if_neg h0];have hn:t.place<0:=by omega
 simp only[h0,hn,true_and,false_and,false_or];cases e1:tK f t with
 | false=>simp
 | true=>
  rw[if_neg V5];cases e:(tY f t).ins.any (stP f (jl f) (ir f))with
  | true=>
   obtain⟨v,hv,hs⟩:=TP.1 e;constructor
   ·intro h;cases h
   rintro⟨_,h⟩;unfold stP at hs;rw[h v hv]at hs;cases hs
  | false=>
   constructor
   ·intro _;refine⟨rfl,λv hv=>?_⟩;have:=any_false.1 e v hv;simpa[stP]using this
   intro _;rfl
theorem Ed{f:ak}{b i:Nat}:tY f (phiT f b i)=nth (nth f.blocks b).phis i:=by unfold tY je phiT;dsimp only;rw[Si];congr 1;omega
theorem OW{f:ak}(h:(kR f).1=0):kP f:=by
 rw[BV]at h;unfold vk at h;split at h
 ·cases h
 rename_i c1;split at h
 ·cases h
 rename_i c2;split at h
 ·cases h
 rename_i c3;cases hs:mh f with
 | error e=>obtain⟨k,s',_,_,h3⟩:=tD (show upE _ _ _=_ from hs);have:=(yb h3).1;rw[hs]at h;rw[if_pos (by show e.1≠0;omega)]at h;have h:e.1=0:=h;omega
 | ok m=>
  rw[hs,if_neg (by simp[zB])]at h;obtain⟨g1,g2,_⟩:=xH (f:=f) V4 zc (by rw[<-pA];exact hs);cases hw:wayE f with
  | error e=>
   rw[hw]at h;obtain⟨k,s',_,_,h3⟩:=tD (show upE _ _ _=_ from hw);split at h3
   ·cases h3
   cases h3;exact absurd (show(15:Int)=0 from h) V6
  | ok u=>
   obtain⟨⟩:=u;rw[hw]at h;cases hu:AG f with
   | error e=>
    rw[hu]at h;obtain⟨k,s',_,_,h3⟩:=tD (show upE _ _ _=_ from hu);have h:e.1=0:=h;unfold iF at h3;repeat' split at h3
    all_goals first | (cases h3;done) | (cases h3;first | exact absurd (show(13:Int)=0 from h) V6 | exact absurd (show(16:Int)=0 from h) V6)
   | ok u=>
    obtain⟨⟩:=u;have hst : ∀t∈aC f,iF f (jl f) (ir f) t = .ok ():=λt ht=>by obtain⟨i,hi,e⟩:=Sn ht;have:=yr hu i hi;rw[ay hi,e]at this;exact this
    refine⟨by omega,by omega,by omega,g1,g2,λb hb=>?_,λt ht h0 v hv=>?_,λb i hb hi=>?_⟩
    ·have:=yr hw b hb;rw[<-gz hb];split at this
     ·assumption
     cases this
    ·have hat:=vK ht;rcases y7.1 (hst t ht)with⟨_,k⟩ | ⟨k,_⟩
     ·exact AI hat.1 hat.2 (k v hv)
     omega
    have ht:phiT f b i∈aC f:=eu.2 ⟨b,hb,fE.2 (.inl ⟨i,hi,rfl⟩)⟩;rcases y7.1 (hst _ ht)with⟨k,_⟩ | ⟨_,k1,k2⟩
    ·exact absurd k (by show ¬(0:Int)<=-1-(i:Int);omega)
    unfold tK at k1;rw[Ed]at k1 k2;obtain⟨k3,k4⟩:=(RV _ _).mp k1;have k4:(nth (nth f.blocks b).phis i).ins.map InD.frm=aJ f b:=of_decide_eq_true k4;have k3:(0:Int)<b:=of_decide_eq_true k3;refine⟨by omega,k4,λp hp=>?_⟩;have hm:p.frm∈aJ f b:=by rw[<-k4];exact TM hp
    have:=(Ez.1 hm).1;exact AI this.1 this.2 (k2 p hp)
theorem PA{f:ak}(h:kP f):kR f=(0,0,0):=by
 rw[BV];have hp:=h.params;have hb:=h.blocks;have hc:=h.cnt;have hr : ∀t∈aC f,∀n∈t.mks,0<=n/\n<=8191:=λt ht n hn=>by have:=(h.good t ht).mks n hn;omega
 unfold vk;rw[if_neg V4,if_neg V4,if_neg V4];obtain⟨m,hm⟩:=yR (f:=f) V4 zc h.good h.nodup λ_ _=>id;rw[pA,hm,if_neg (by simp[zB])];have hw:wayE f = .ok ():=Ae λi hi=>if_pos ((gz hi).2 (h.way i hi));have hu:AG f = .ok ():=Ae λi hi=>by
  have ht:=aX hi;generalize nth (aC f) i=t at ht;rw[y7];have hat:=vK ht;by_cases h0:0<=t.place
  ·exact .inl ⟨h0,λv hv=>BP h.nodup hr hat.1 hat.2 (h.takes t ht h0 v hv)⟩
  refine .inr ⟨by omega,?_⟩;obtain⟨b,hb,hm⟩:=eu.1 ht;rcases fE.1 hm with⟨i,hi,rfl⟩ | ⟨i,hi,rfl⟩ | rfl
  ·obtain⟨k1,k2,k3⟩:=h.phi b i hb hi;unfold tK;rw[Ed];refine⟨(RV _ _).mpr ⟨decide_eq_true (by show(0:Int)<b;omega),decide_eq_true k2⟩,λp hp=>?_⟩;have hm:p.frm∈aJ f b:=by rw[<-k2];exact TM hp
   have:=(Ez.1 hm).1;exact BP h.nodup hr this.1 this.2 (k3 p hp)
  ·exact absurd (Uy _) h0
  exact absurd (Uy _) h0
 rw[hw,hu];rfl
def mkL (vs:Value) (at_:Nat) (ps:Int) (vb:Value) (nx:Int) (vl:Value):List Value:=[vs,VB VC at_,VB VC ps,vb,VB VC nx,vl]
def rawV (s:List Int) (at_:Nat):Int:=if at_<s.length then nth s at_ else 0
def aH (s:List Int) (at_:Nat) (n:Int):Int:=((rawV s at_).tmod n+n).tmod n
theorem bT{s:List Int}{at_:Nat}(hn:0<n):0<=aH s at_ n/\aH s at_ n<n:=by have b1:=U2 (rawV s at_) hn;exact⟨Int.tmod_nonneg _ V4,Uz _ hn⟩
theorem MP{W:View}{h:Heap}{o:Own}{M at_:Nat}{vs vb vl:Value}{ps nx:Int}{s:List Int}(w:Owns W h o)(hk:o (0,0)=bx T.bC M (RawN.mk (n:=5) (mkL vs at_ ps vb nx vl)))(hs:SlRd W vs s)(h1:at_<=1000000000)(hn:0<n)(hn2:n<=1000000000):
  az VK 34 #[ptz M,VB VC n] h (λu h'=>u = VB VC (aH s at_ n)/\Owns W h' (o.upd (0,0) (bx T.bC M (RawN.mk (n:=5) (mkL vs (at_+1) ps vb nx vl))))):=by
 refine aq (args:=[ptz M,VB VC n]) follows Tryz.func34 E.jO Vw λK hK=>?_;have c0:ao (vw h) ⟨M,0,VF⟩=VE vs:=w.raw hk (i:=0) V6;have c1:ao (vw h) ⟨M,1,VF⟩=VE (VB VC at_):=w.raw hk (i:=1) V6;dsimp only[L.jO,lkF,lkG];refine aa λz hz=>?_;simp;subst hz;refine aa λz hz=>?_;simp;subst hz;refine aa λz hz=>?_;have hsl : ∀{Q:View},Un.ev Q .len vs=VE (VB VC s.length):=fun{Q}=>hs.len;refine gO (λρ h2=>h2=h/\I64 (rawV s at_)/\ρ=[(0,ptz M),(1,VB VC n),(4,VB VC 0),(5,VB VC (rawV s at_))]) ?_ ?_
 ·intro K2 hK2;by_cases c:at_<s.length
  ·have hs2:=hs.mono w.wle;have hr:=hs.range (i:=at_) c;have e:rawV s at_=nth s at_:=if_pos c;rw[e]at hK2;simp(disch:=omega)[c0,c1,hsl,c,hs2.idx1 rfl,hs2.int Vy];exact hK2 _ _ ⟨rfl,hr,rfl⟩
  have e:rawV s at_=0:=if_neg c;rw[e]at hK2;simp[c0,c1,hsl,c];exact hK2 _ _ ⟨rfl,⟨V6,V6⟩,rfl⟩
 rintro _ h2 ⟨rfl,hx,rfl⟩;subst hz;refine aa λz hz=>?_;simp(disch:=omega)[c1];refine w.dS (k:=(0,0)) (n:=5) (i:=1) (e:=T.bC) (B:=M) (l:=mkL vs at_ ps vb nx vl) hk V6 V0 rfl rfl rfl λh3 w3 _=>?_;subst hz;have b1:=U2 (rawV s at_) hn;have b2:=Uz (rawV s at_) hn;have hw:IntKind.i64.wrap ((rawV s at_).tmod n+n)=(rawV s at_).tmod n+n:=aZ V4 V4;have hne:¬n=0:=by omega
 simp[hw,hne];refine hK _ _ ⟨rfl,w3.congr λq=>?_⟩;rfl
theorem DV{W:View}{h:Heap}{o:Own}{M at_:Nat}{vs vb vl:Value}{ps nx:Int}(w:Owns W h o)(hk:o (0,0)=bx T.bC M (RawN.mk (n:=5) (mkL vs at_ ps vb nx vl)))(h0:0<=nx)(h1:nx<=1000000000):
  az VK 37 #[ptz M] h (λu h'=>u = VB VC nx/\Owns W h' (o.upd (0,0) (bx T.bC M (RawN.mk (n:=5) (mkL vs at_ ps vb (nx+1) vl))))/\∀X:View,X.le (vw h)->X M=VF->X.le (vw h')):=by refine aq (args:=[ptz M]) follows Tryz.func37 E.jm Vw λK hK=>?_;have c4:ao (vw h) ⟨M,4,VF⟩=VE (VB VC nx):=w.raw hk (i:=4) V6;dsimp only[L.jm,lkF,lkG];refine aa λz hz=>?_;simp;subst hz;refine aa λz hz=>?_;simp(disch:=omega)[c4];refine w.dS (k:=(0,0)) (n:=5) (i:=4) (e:=T.bC) (B:=M) (l:=mkL vs at_ ps vb nx vl) hk V6 V0 rfl rfl rfl λh3 w3 hx3=>?_;have w3:Owns W h3 (o.upd (0,0) (bx T.bC M (RawN.mk (n:=5) (mkL vs at_ ps vb (nx+1) vl)))):=w3;have c5:ao (vw h3) ⟨M,4,VF⟩=VE (VB VC (nx+1)):=w3.raw Own.an (i:=4) V6;subst hz;simp(disch:=omega)[c5];exact hK _ _ ⟨by congr 1,w3,hx3⟩
end Go.Lft
namespace Go.Lft
variable {po:OP}
theorem OL {P:Program} {t ty:TypeId} {us:List (Nat × Value)} {h:Heap} {K:Value->Heap->Prop} {x:Operand} {n:Int} (hx:asg us x = VB VC n) (hk:K (VB VC (IntKind.i64.wrap (-n))) h):step P (.unOp .neg t x) ty us h K:=by refine dr (cK λw hw=>⟨VB VC (IntKind.i64.wrap (-n)),w,?_,Same.refl _,by rw[hw];exact hk⟩);simp only[bP,execOp,hx];simp[Op.unary,Op.intArith]
end Go.Lft
namespace Go.Lft
structure MS where
 at_:Nat
 ps:Int
 blocks:List BlkD
 next:Int
 live:List Int
def MS.took (m:MS):MS:={ m with at_:=m.at_+1 }
def MS.aV (m:MS):MS:={ m with next:=m.next+1 }
structure BlkM where
 phis:Raw
 ins:Raw
 term:de
instance:Rep BlkM:=Rep.via λd=>Cat.mk d.phis (Cat.mk d.ins d.term)
instance:Inhabited BlkM:=⟨⟨default,default,default⟩⟩
theorem BlkM.uE:Part BlkM Raw 0 BlkM.phis (λd x=>{ d with phis:=x }):=(Part.fst Part.all).via (λ_=>rfl) λ_ _=>rfl
theorem BlkM.jS:Part BlkM Raw 1 BlkM.ins (λd x=>{ d with ins:=x }):=(Part.snd (Part.fst Part.all)).via (λ_=>rfl) λ_ _=>rfl
theorem BlkM.mV:Part BlkM de 2 BlkM.term (λd x=>{ d with term:=x }):=(Part.snd (Part.snd Part.all)).via (λ_=>rfl) λ_ _=>rfl
theorem Dx {H:View} {cs:List Value} {d:BlkM} {p:List PhiD} {i:List InsD} (h:Rep.rd H cs d) (hp:SlRd H d.phis.v p) (hi:SlRd H d.ins.v i):Rep.rd H cs (BlkD.mk p i d.term):=by obtain⟨c1,r1,e1,⟨h1,_⟩,c2,r2,e2,⟨h2,_⟩,h3⟩:=h;have h1:c1=[d.phis.v]:=h1;have h2:c2=[d.ins.v]:=h2;exact⟨c1,r1,e1,⟨d.phis.v,h1,hp⟩,c2,r2,e2,⟨d.ins.v,h2,hi⟩,h3⟩
structure MkB (M:Nat) (vs:Value) (m:MS) (o:Own) (vb vl:Value) (lb:List BlkM):Prop where
 box:o (0,0)=bx T.bC M (RawN.mk (n:=5) (mkL vs m.at_ m.ps vb m.next vl))
 live:o (0,1)=it T.int vl m.live
 blk:o (0,2)=it T.fg vb lb
 len:lb.length=m.blocks.length
 term : ∀i,i<m.blocks.length->(nth lb i).term=(nth m.blocks i).term
 phis : ∀i,i<m.blocks.length->o (1,i)=it T.ja (nth lb i).phis.v (nth m.blocks i).phis
 ins : ∀i,i<m.blocks.length->o (2,i)=it T.ff (nth lb i).ins.v (nth m.blocks i).ins
structure Mk (s:List Int) (M:Nat) (vs:Value) (W:View) (h:Heap) (o:Own) (m:MS):Prop where
 own:Owns W h o
 src:SlRd W vs s
 box : ∃vb vl lb,MkB M vs m o vb vl lb
def Nx (s:List Int) (M:Nat) (vs:Value) (W:View) (h:Heap) (o:Own) (m:MS):Prop:=∃W' o',W.le W'/\Mk s M vs W' h o' m/\∀k:Key,3<=k.1->o' k=o k
variable {s:List Int} {M:Nat} {vs:Value} {W:View} {h:Heap} {o:Own} {m:MS}
theorem Mk.nx (w:Mk s M vs W h o m):Nx s M vs W h o m:=⟨W,o,View.le_refl _,w,λ_ _=>rfl⟩
theorem Nx.trans {W':View} {o':Own} (hW:W.le W') (ho : ∀k:Key,3<=k.1->o' k=o k) (n:Nx s M vs W' h o' m):Nx s M vs W h o m:=by obtain⟨W2,o2,h1,h2,h3⟩:=n;exact⟨W2,o2,Vz hW h1,h2,λk hk=>(h3 k hk).trans (ho k hk)⟩
theorem MkB.at {vb vl:Value} {lb:List BlkM} (b:MkB M vs m o vb vl lb) {at_:Nat} {next:Int}:MkB M vs { m with at_:=at_,next:=next } (o.upd (0,0) (bx T.bC M (RawN.mk (n:=5) (mkL vs at_ m.ps vb next vl)))) vb vl lb:=
 ⟨rfl,b.live,b.blk,b.len,b.term,λi hi=>b.phis i hi,λi hi=>b.ins i hi⟩
theorem pP {k:Key} {i:Option Lft.Item} (hk:k.1<3) : ∀q:Key,3<=q.1->o.upd k i q=o q:=λq hq=>Own.aB λe=>by rw[e]at hq;omega
theorem fy {k:Key} {i j:Option Lft.Item} (q:Key):(o.upd k i).upd k j q=o.upd k j q:=by unfold Own.upd;split<;>rfl
theorem Mk.take (w:Mk s M vs W h o m) {n:Int} (h1:m.at_<=1000000000) (hn:0<n) (hn2:n<=1000000000) :
  az VK 34 #[ptz M,VB VC n] h (λu h'=>u = VB VC (aH s m.at_ n)/\∃o',Mk s M vs W h' o' m.took/\∀k:Key,3<=k.1->o' k=o k):=by obtain⟨vb,vl,lb,b⟩:=w.box;refine(MP w.own b.box w.src h1 hn hn2).mono ?_;rintro u h' ⟨rfl,w2⟩;exact⟨rfl,_,⟨w2,w.src,vb,vl,lb,b.at⟩,pP V6⟩
theorem Mk.fresh (w:Mk s M vs W h o m) (h0:0<=m.next) (h1:m.next<=1000000000) :
  az VK 37 #[ptz M] h (λu h'=>u = VB VC m.next/\∃o',Mk s M vs W h' o' m.aV/\∀k:Key,3<=k.1->o' k=o k):=by obtain⟨vb,vl,lb,b⟩:=w.box;refine(DV w.own b.box h0 h1).mono ?_;rintro u h' ⟨rfl,w2,-⟩;exact⟨rfl,_,⟨w2,w.src,vb,vl,lb,b.at⟩,pP V6⟩
theorem oY {x:Int}:-2147483648<=IntKind.i32.wrap x/\IntKind.i32.wrap x<=2147483647:=by rw[IntKind.wrap_i32];omega
def jY (s:List Int) (m:MS):Int:=
 if aH s (m.at_+1) 8=0 then IntKind.i32.wrap (IntKind.i64.wrap (aH s m.at_ 1048576*4099))
 else if aH s (m.at_+1) 8=1 then IntKind.i32.wrap (IntKind.i64.wrap (-aH s m.at_ 1048576))
 else if aH s (m.at_+1) 8=2 then -2147483648
 else if aH s (m.at_+1) 8=3 then IntKind.i32.wrap ((aH s m.at_ 1048576).tmod 70000)
 else IntKind.i32.wrap (IntKind.i64.wrap ((aH s m.at_ 1048576).tmod 20-4))
theorem tt:-2147483648<=jY s m/\jY s m<=2147483647:=by
 unfold jY;repeat' split
 all_goals first | exact oY | decide
theorem Mk.word (w:Mk s M vs W h o m) (h1:m.at_<=999999990) :
  az VK 44 #[ptz M] h (λu h'=>u = VB VD (jY s m)/\∃o',Mk s M vs W h' o' m.took.took/\∀k:Key,3<=k.1->o' k=o k):=by
 refine aq (args:=[ptz M]) follows Tryz.func44 E.jK Vw λK hK=>?_;dsimp only[L.jK,lkF,lkG];refine aa λz hz=>?_;simp;subst hz;refine aa λz hz=>?_;simp;refine ah V0 (w.take V4 (n:=1048576) V6 V6) ?_;rintro _ h2 ⟨rfl,o2,w2,f2⟩;subst hz;refine aa λz hz=>?_;simp;refine ah V0 (w2.take (show m.at_+1<=_ by omega) (n:=8) V6 V6) ?_;rintro _ h3 ⟨rfl,o3,w3,f3⟩;have hx:m.took.at_=m.at_+1:=rfl;rw[hx];have hf : ∀k:Key,3<=k.1->o3 k=o k:=λk hk=>(f3 k hk).trans (f2 k hk);have hwd:jY s m=_:=jY.eq_1 s m;generalize jY s m=r at hwd hK;generalize aH s (m.at_+1) 8=q at hwd;generalize aH s m.at_ 1048576=x at hwd;by_cases c0:q=0
 ·rw[if_pos c0]at hwd;simp[c0];exact hK _ _ ⟨by rw[hwd],_,w3,hf⟩
 rw[if_neg c0]at hwd;by_cases c1:q=1
 ·rw[if_pos c1]at hwd;simp[c1];refine OL rfl ?_;simp;exact hK _ _ ⟨by rw[hwd],_,w3,hf⟩
 rw[if_neg c1]at hwd;by_cases c2:q=2
 ·rw[if_pos c2]at hwd;simp[c2];exact hK _ _ ⟨by rw[hwd],_,w3,hf⟩
 rw[if_neg c2]at hwd;by_cases c3:q=3
 ·rw[if_pos c3]at hwd;simp[c3];exact hK _ _ ⟨by rw[hwd],_,w3,hf⟩
 rw[if_neg c3]at hwd;simp[c0,c1,c2,c3];subst hz;simp;exact hK _ _ ⟨by rw[hwd],_,w3,hf⟩
end Go.Lft
namespace Go.Lft
def MS.add (m:MS) (b:Nat) (i:InsD):MS:={ m with blocks:=m.blocks.set b { nth m.blocks b with ins:=(nth m.blocks b).ins++[i] },live:=m.live++bg i }
def conD (v:Int) (n:Int):InsD:=⟨1,v,0,[],⟨n⟩⟩
def MS.constant (m:MS) (b:Nat) (n:Int):MS:=m.aV.add b (conD m.next n)
def xY (s:List Int) (m:MS):Int:=nth m.live (if aH s (m.at_+1) 3=0 then m.live.length-1 else(aH s m.at_ m.live.length).toNat)
def Hm (s:List Int) (m:MS) (b:Nat):MS:=(m.took.took).constant b (jY s m)
def aI (s:List Int) (m:MS) (b:Nat):Int × MS:=
 if m.live.length=0 then(m.next,Hm s m b)
 else if aH s (m.at_+2) 9=0 then(m.next,Hm s m.took.took.took b)
 else(xY s m,m.took.took.took)
def MS.two (m:MS) (b:Nat) (op x y:Int):MS:=m.aV.add b ⟨op,m.next,0,[x,y],⟨0⟩⟩
def binS (s:List Int) (m:MS) (b:Nat) (op:Int):MS:=
 let r1:=aI s m b
 let r2:=aI s r1.2 b
 if aH s r2.2.at_ 3=0 then
  (r2.2.took.took.constant b (IntKind.i32.wrap (IntKind.i64.wrap (aH s (r2.2.at_+1) 40-8)))).two b op r1.1 r2.2.next
 else r2.2.took.two b op r1.1 r2.1
def ltuS (s:List Int) (m:MS) (b:Nat):MS:=
 let r1:=aI s m b
 let r2:=aI s r1.2 b
 r2.2.two b 13 r1.1 r2.1
def divS (s:List Int) (m:MS) (b:Nat):MS:=
 let r1:=aI s m b
 let m2:=r1.2.took.constant b (IntKind.i32.wrap (aH s r1.2.at_ 12))
 if 0<aH s m2.at_ 3 then
  (m2.took.took.constant b (IntKind.i32.wrap (1+IntKind.i32.wrap (aH s (m2.at_+1) 12)))).two b 14 r1.1 m2.next
 else m2.took.two b 14 r1.1 r1.2.next
def vW (s:List Int) (m:MS) (b:Nat):MS:=
 let r1:=aI s m b
 let r2:=aI s r1.2 b
 r2.2.aV.aV.add b ⟨18,r2.2.next,r2.2.next+1,[r1.1,r2.1],⟨0⟩⟩
def fQ (s:List Int) (b:Nat):Nat->List Int × MS->List Int × MS:=λ_ x=>(x.1++[(aI s x.2 b).1],(aI s x.2 b).2)
def oR (s:List Int) (m:MS) (b:Nat):MS:=
 let r:=up (fQ s b) (aH s m.at_ 5).toNat ([],m.took)
 r.2.aV.took.add b ⟨17,r.2.next,0,r.1,⟨IntKind.i32.wrap (aH s r.2.at_ 5)⟩⟩
def jQ (s:List Int) (m:MS) (b:Nat):Int × MS:=
 let m1:=m.took.constant b (IntKind.i32.wrap (aH s m.at_ 9))
 if aH s m1.at_ 3=0 then
  let r:=aI s m1.took b
  let m3:=(r.2.constant b 7).two b 5 r.1 r.2.next
  (m3.next,m3.two b 2 m.next (r.2.next+1))
 else(m.next,m1.took)
def offS (s:List Int) (m:MS):Int × MS:=
 if aH s (m.at_+1) 12=0 then(jY s m.took.took,m.took.took.took.took) else(IntKind.i32.wrap (aH s m.at_ 4),m.took.took)
def jd (s:List Int) (m:MS) (b:Nat) (store:Bool):MS:=
 let a:=jQ s m b
 let i:=offS s a.2
 if store then(aI s i.2 b).2.add b ⟨16,0,0,[a.1,(aI s i.2 b).1],⟨i.1⟩⟩
 else i.2.aV.add b ⟨15,i.2.next,0,[a.1],⟨i.1⟩⟩
def opsL:List Int:=[2,2,3,4,5,6,7,8,9,10,12,11]
def aN (s:List Int) (b:Nat) (m:MS):MS:=
 let k:=aH s m.at_ 20
 if k<12 then binS s m.took b (nth opsL k.toNat)
 else if k=12 then ltuS s m.took b
 else if k=13 then divS s m.took b
 else if k<16 then jd s m.took b (decide (k=15))
 else if k=16 then oR s m.took b
 else if k=17 then vW s m.took b
 else m.took.took.took.constant b (jY s m.took)
section
variable{b:Nat}
theorem Fa{H:View}{n:Nat}{cs:List Value}(hc:gN H ⟨b,0,VF⟩ cs)(hl:cs.length=n):Un.ev H (.bM n) (ptz b)=VE (.agg cs.toArray):=by have:=gj hc n 0 #[] V4;simp only[Un.ev,vP,St];rw[this];simp[<-hl]
theorem Ia{H:View}{n:Nat}{cs:Array Value}{t:TypeId}(hb:H b=VE (.cells cs t (0,0)))(hl:cs.size=n):Un.ev H (.bM n) (ptz b)=VE (.agg cs):=by have:gN H ⟨b,0,VF⟩ cs.toList:=⟨cs,t,(0,0),rfl,hb,by simp[Sg]⟩;simpa using Fa this (by simpa using hl)
theorem MkB.Pa{s:List Int}{M:Nat}{vs:Value}{W:View}{h:Heap}{o:Own}{m:MS}{vb vl:Value}{lb:List BlkM}(w:Owns W h o)(b:MkB M vs m o vb vl lb):
  ∃X:View,W.le X/\X.le (vw h)/\(∀i,i<=5->ao X ⟨M,i,VF⟩=VE ((mkL vs m.at_ m.ps vb m.next vl).getD i undef))/\SlRd X vb lb/\Av X vl/\∀i,i<m.blocks.length->Av X (nth lb i).phis.v/\Av X (nth lb i).ins.v:=by obtain⟨w5,s5⟩:=w.freeze (k:=(0,0)) (v:=VG (VE ⟨M,0,VF⟩) 1 1) (l:=[RawN.mk (n:=5) (mkL vs m.at_ m.ps vb m.next vl)]) b.box;have hb2:o.upd (0,0) VF (0,2)=it T.fg vb lb:=b.blk;obtain⟨w6,s6⟩:=w5.freeze (k:=(0,2)) (v:=vb) (l:=lb) hb2;have s5:=s5.mono (iI (h:=h) (w5.av (0,2) _ hb2));refine⟨_,Vz (iI (h:=h) (w.av (0,0) _ b.box)) (iI (h:=h) (w5.av (0,2) _ hb2)),w6.wle,λi hi=>?_,s6,w6.av (0,1) _ b.live,λi hi=>⟨w6.av (1,i) _ (b.phis i hi),w6.av (2,i) _ (b.ins i hi)⟩⟩;have:=((s5.at (i:=0) V5).part (RawN.p (n:=5) (o:=i) hi)).raw;simpa[slA]using this
variable {s:List Int} {M:Nat} {vs:Value} {W:View} {h:Heap} {o:Own} {m:MS}
theorem MkB.cell{vb vl:Value}{lb:List BlkM}(w:Owns W h o)(b:MkB M vs m o vb vl lb){i:Nat}(hi:i<=5):ao (vw h) ⟨M,i,VF⟩=VE ((mkL vs m.at_ m.ps vb m.next vl).getD i undef):=w.raw b.box hi
theorem MkB.iz{vb vl:Value}{lb:List BlkM}(bb:MkB M vs m o vb vl lb)(hb:b<m.blocks.length){x':BlkD}{y':BlkM}{o':Own}(hy:y'.term=x'.term)(h02:o' (0,2)=it T.fg vb (lb.set b y'))(h1:o' (1,b)=it T.ja y'.phis.v x'.phis)(h2:o' (2,b)=it T.ff y'.ins.v x'.ins)(ho : ∀q:Key,q≠(0,2)->q≠(1,b)->q≠(2,b)->o' q=o q):MkB M vs { m with blocks:=m.blocks.set b x' } o' vb vl (lb.set b y'):=by
 have hbl:b<lb.length:=by rw[bb.len];exact hb
 refine⟨(ho _ V5 V5 V5).trans bb.box,(ho _ V5 V5 V5).trans bb.live,h02,by simp[bb.len],λj hj=>?_,λj hj=>?_,λj hj=>?_⟩;all_goals
  have hj:j<m.blocks.length:=by simpa using hj
  have hjl:j<lb.length:=by rw[bb.len];exact hj
  show _=_
  simp only[bj hj,bj hjl]
  by_cases e:b=j
  ·subst e
   simp only[if_true]
   assumption
  ·simp only[if_neg e]
   first
    | exact bb.term j hj
    | exact(ho _ V5 (λq=>e (by injection q with _ q;exact q.symm)) V5).trans (bb.phis j hj)
    | exact(ho _ V5 V5 (λq=>e (by injection q with _ q;exact q.symm))).trans (bb.ins j hj)
theorem Mk.value(w:Mk s M vs W h o m)(h1:m.at_<=999999990)(hl:m.live.length<=1000000000):
  az VK 133 #[ptz M] h (λu h'=>(m.live.length=0/\u = .tuple #[VB VC 0,.bool VJ]/\h'=h)\/(m.live.length≠0/\u = .tuple #[VB VC (xY s m),.bool VI]/\I64 (xY s m)/\∃o',Mk s M vs W h' o' m.took.took/\∀k:Key,3<=k.1->o' k=o k)):=by
 refine aq (args:=[ptz M]) follows Tryz.func133 E.jc Vw λK hK=>?_;obtain⟨vb,vl,lb,b⟩:=w.box;have c5:ao (vw h) ⟨M,5,VF⟩=VE vl:=b.cell w.own (i:=5) V6;have hsl:=w.own.now b.live;dsimp only[L.jc,lkF,lkG];refine aa λz hz=>?_;simp;subst hz;refine aa λz hz=>?_;by_cases h0:m.live.length=0
 ·have h0':m.live=[]:=Sj h0;simp[c5,hsl.len,h0];exact hK _ _ (.inl ⟨h0,rfl,rfl⟩)
 have h0':¬(m.live=[]):=λe=>h0 (by rw[e];rfl);simp[c5,hsl.len,h0'];subst hz;refine aa λz hz=>?_;simp[c5,hsl.len];refine ah V0 (w.take V4 (n:=(m.live.length:Int)) V4 V4) ?_;rintro _ h2 ⟨rfl,o2,w2,f2⟩;subst hz;refine aa λz hz=>?_;simp;refine ah V0 (w2.take (show m.at_+1<=_ by omega) (n:=3) V6 V6) ?_;rintro _ h3 ⟨rfl,o3,w3,f3⟩;have hx:m.took.at_=m.at_+1:=rfl;rw[hx];have hf : ∀k:Key,3<=k.1->o3 k=o k:=λk hk=>(f3 k hk).trans (f2 k hk);have hv:xY s m=_:=xY.eq_1 s m;obtain⟨vb3,vl3,lb3,b3⟩:=w3.box;have c53:ao (vw h3) ⟨M,5,VF⟩=VE vl3:=b3.cell w3.own (i:=5) V6;have hsl3:SlRd (vw h3) vl3 m.live:=w3.own.now b3.live;obtain⟨r0,r1⟩:=bT (s:=s) (at_:=m.at_) (n:=(m.live.length:Int)) V4;generalize aH s m.at_ m.live.length=x at hv r0 r1;generalize aH s (m.at_+1) 3=q at hv;obtain⟨i,hi,hvi,hii⟩ : ∃i:Nat,i<m.live.length/\xY s m=nth m.live i/\(i:Int)=if q=0 then(m.live.length:Int)-1 else x:=by
  by_cases c:q=0
  ·rw[if_pos c]at hv ⊢;exact⟨m.live.length-1,by omega,hv,by omega⟩
  rw[if_neg c]at hv ⊢;exact⟨x.toNat,by omega,hv,by omega⟩
 have h64:IntKind.i64.wrap ((m.live.length:Int)-1)=(m.live.length:Int)-1:=aZ V4 V4;have fin : ∀ρ:Env,ρ=[(0,ptz M),(2,VB VC 0),(3,.bool VJ),(4,VB VC i),(17,VB VC x),(19,VB VC q)]->LC.wp VK z (dT [.tmp 2,.tmp 3] K) ρ h3:=by rintro _ rfl;subst hz;refine aa λz hz=>?_;simp(disch:=omega)[c53,hsl3.idx1 rfl,hsl3.int Vy];subst hz;simp;exact hK _ _ (.inr ⟨h0,by rw[hvi],by rw[hvi];exact hsl3.range hi,o3,w3,hf⟩)
 by_cases c:q=0
 ·rw[if_pos c]at hii;simp[c,c53,hsl3.len,h64];refine fin _ ?_;rw[hii,c]
 rw[if_neg c]at hii;simp[c];refine fin _ ?_;rw[hii]
theorem Mk.add (w:Mk s M vs W h o m) {b:Nat} {i:InsD} {v:Value} (hb:b<m.blocks.length) (hi:Rd W v i) (hn:(nth m.blocks b).ins.length<=100000000) (hl:m.live.length<=100000000) :
    az VK 87 #[ptz M,VB VC b,v] h (λu h'=>Nx s M vs W h' o (m.add b i)):=by
  refine aq (args:=[ptz M,VB VC b,v]) follows Tryz.func87 E.kh Vw λK hK=>?_
  obtain⟨vb,vl,lb,bb⟩:=w.box
  obtain⟨va,rfl,hir,hia⟩:=NH hi
  dsimp only[L.kh,lkF,lkG]
  refine aa λz hz=>?_
  simp
  refine gP rfl (hi.mono w.own.wle) λh1 e1 hle1 hs1 hat=>?_
  have w1:=w.own.ext hle1
  have hbx:(grow W h h1) h.size=VE (.cells #[VB VC i.op,VB VC i.dst,VB VC i.two,va,VB VD i.imm.v] T.ff (0,0)):=by
    rw[b8 (RQ _),e1];simp[Value.cells]
  have hi1:=hi.mono (bz (h':=h1) w.own.wle)
  have src1:=w.src.mono (bz (h':=h1) w.own.wle)
  have hW1:=bz (h':=h1) w.own.wle
  clear hat e1
  have hld:=Ia hbx (n:=5) rfl
  generalize grow W h h1=W1 at w1 hld hi1 src1 hW1
  generalize h.size=B at hld
  subst hz
  refine aa λz hz=>?_
  obtain⟨X,hWX,hX,cX,sX,avl,avX⟩:=bb.Pa (s:=s) w1
  have c3:ao X ⟨M,3,VF⟩=VE vb:=cX 3 V6
  have hbl:b<lb.length:=by rw[bb.len];exact hb
  have a1:=(sX.at hbl).part BlkM.jS
  have hsv:=sX.bound
  have a2:ao X (((slA vb).add (b*6)).add 1)=VE (nth lb b).ins.v:=by rw[ay hbl];exact a1.raw
  have hldX:Un.ev X (.bM 5) (ptz B)=VE (.agg #[VB VC i.op,VB VC i.dst,VB VC i.two,va,VB VD i.imm.v]):=by
    have:=dV (ρ:=λ_=>VF) (e:=.un (.bM 5) (.con (ptz B))) hWX (by simpa using hld)
    simpa using this
  refine aQ X hX ?_
  simp(disch:=omega)[c3,sX.idxn (N:=6) rfl,a2,hldX]
  refine lT (α:=InsD) (W:=W1) (d:=i) El.qe rfl hi1 λu5 h5 src hle5 hs5=>⟨Vz hX hle5,?_⟩
  refine(w1.ext' hle5).dd (k:=(2,b)) (α:=InsD) (v:=(nth lb b).ins.v) (l:=(nth m.blocks b).ins) (l2:=[i]) (bb.ins b hb) El.qe rfl rfl src Vv Vv λv6 h6 w6 m6=>⟨(m6.view (Vz hX hle5) (avX b hb).2).1,?_⟩
  have hv6:=(w6.cells (k:=(2,b)) Own.an).2
  refine w6.qy (k:=(0,2)) (α:=BlkM) BlkM.jS (v:=vb) (l:=lb) (i:=b) (d:=⟨v6⟩) bb.blk V0 rfl rfl hbl (iZ.2 ⟨rfl,hv6⟩) λh7 w7 _=>?_
  have b7:=bb.iz hb (x':={ nth m.blocks b with ins:=(nth m.blocks b).ins++[i] }) (y':={ lb[b]with ins:=⟨v6⟩ }) (o':=(o.upd (2,b) (it T.ff v6 ((nth m.blocks b).ins++[i]))).upd (0,2) (it T.fg vb (lb.set b { lb[b]with ins:=⟨v6⟩ }))) (by rw[<-bb.term b hb,ay hbl]) Own.an (by rw[<-ay hbl];exact bb.phis b hb) ((Own.aB V5).trans Own.an) (λq h1 h2 h3=>by rw[Own.aB h1,Own.aB h3])
  generalize hm7:({ m with blocks:=m.blocks.set b { nth m.blocks b with ins:=(nth m.blocks b).ins++[i] } }:MS)=m7 at b7
  have hadd:m.add b i={ m7 with live:=m.live++bg i }:=by rw[<-hm7];rfl
  have hl7:m7.live=m.live:=by rw[<-hm7]
  have hf7 : ∀k:Key,3<=k.1->((o.upd (2,b) (it T.ff v6 ((nth m.blocks b).ins++[i]))).upd (0,2) (it T.fg vb (lb.set b { lb[b]with ins:=⟨v6⟩ }))) k=o k:=λk hk=>by
    rw[Own.aB (by rintro rfl;simp at hk),Own.aB (by rintro rfl;simp at hk)]
  generalize (o.upd (2,b) (it T.ff v6 ((nth m.blocks b).ins++[i]))).upd (0,2) (it T.fg vb (lb.set b { lb[b]with ins:=⟨v6⟩ }))=o7 at w7 b7 hf7
  generalize lb.set b { lb[b]with ins:=⟨v6⟩ }=lb7 at b7
  clear src avX m6
  subst hz
  refine aa λz hz=>?_
  have hld7:Un.ev (vw h7) (.bM 5) (ptz B)=VE (.agg #[VB VC i.op,VB VC i.dst,VB VC i.two,va,VB VD i.imm.v]):=by
    have:=dV (ρ:=λ_=>VF) (e:=.un (.bM 5) (.con (ptz B))) w7.wle (by simpa using hld)
    simpa using this
  simp[hld7]
  refine ah V0 (rS (hi1.mono w7.wle)) ?_
  rintro u8 h8 ⟨hle8,hu8,-⟩
  have w8:=w7.ext hle8
  have hu8:SlRd (grow W1 h7 h8) u8 (bg i):=hu8.mono (zI (RQ _) Vy)
  have hW8:=bz (h':=h8) w7.wle
  generalize grow W1 h7 h8=W8 at w8 hu8 hW8
  subst hz
  have c58:ao (vw h8) ⟨M,5,VF⟩=VE vl:=b7.cell w8 (i:=5) V6
  have hmk:(bg i).length<=2:=by
                                         unfold bg;repeat' split
                                         all_goals simp
  simp[c58]
  refine w8.dd (k:=(0,1)) (α:=Int) (v:=vl) (l:=m.live) (l2:=bg i) (by rw[<-hl7];exact b7.live) El.aY rfl rfl (hu8.src w8.wle) V4 V4 λv9 h9 w9 m9=>?_
  have hv9:=(w9.cells (k:=(0,1)) Own.an).2
  have hbx9:(o7.upd (0,1) (it T.int v9 (m.live++bg i))) (0,0)=bx T.bC M (RawN.mk (n:=5) (mkL vs m7.at_ m7.ps vb m7.next vl)):=b7.box
  refine w9.dS (k:=(0,0)) (n:=5) (i:=5) (e:=T.bC) (B:=M) (l:=mkL vs m7.at_ m7.ps vb m7.next vl) hbx9 V6 V0 rfl rfl hv9 λh10 w10 _=>?_
  refine hK _ _ ⟨W8,_,Vz hW1 hW8,⟨w10,src1.mono hW8,vb,v9,lb7,?_⟩,λk hk=>?_⟩
  · rw[hadd]
    exact⟨rfl,rfl,b7.blk,b7.len,b7.term,b7.phis,b7.ins⟩
  · rw[Own.aB (by rintro rfl;simp at hk),Own.aB (by rintro rfl;simp at hk)]
    exact hf7 k hk
end
section
structure MS.ok (c:Nat) (m:MS):Prop where
 at_:m.at_<=c
 n0:0<=m.next
 next:m.next<=c
 live:m.live.length<=c
 ins : ∀i,(nth m.blocks i).ins.length<=c
theorem MS.ok.mono{c d:Nat}{m:MS}(h:m.ok c)(hd:c<=d):m.ok d:=
 ⟨by have:=h.at_;omega,h.n0,by have:=h.next;omega,by have:=h.live;omega,λi=>by have:=h.ins i;omega⟩
theorem MS.ok.took {c:Nat} {m:MS} (h:m.ok c):m.took.ok (c+1):=
 ⟨by have:=h.at_;show m.at_+1<=_;omega,h.n0,by have:=h.next;show m.next<=_;omega,by have:=h.live;show m.live.length<=_;omega,λi=>by have:=h.ins i;show(nth m.blocks i).ins.length<=_;omega⟩
theorem MS.ok.aV {c:Nat} {m:MS} (h:m.ok c):m.aV.ok (c+1):=
 ⟨by have:=h.at_;show m.at_<=_;omega,by have:=h.n0;show 0<=m.next+1;omega,by have:=h.next;show m.next+1<=_;omega,by have:=h.live;show m.live.length<=_;omega,λi=>by have:=h.ins i;show(nth m.blocks i).ins.length<=_;omega⟩
theorem H6{i:InsD}:(bg i).length<=2:=by
 unfold bg;repeat' split
 all_goals simp
theorem MS.ok.add {c b:Nat} {m:MS} {i:InsD} (h:m.ok c):(m.add b i).ok (c+2):=by
 refine⟨by have:=h.at_;show m.at_<=_;omega,h.n0,by have:=h.next;show m.next<=_;omega,?_,λj=>?_⟩
 ·have:=h.live;have:=H6 (i:=i);show(m.live++bg i).length<=_;rw[RZ];omega
 show(nth (m.blocks.set b _) j).ins.length<=_;have hj:=h.ins j;rcases RX j m.blocks.length with hl | hl
 ·rw[bj hl];split
  ·rename_i e;subst e;rw[RZ,Sp];omega
  omega
 rw[bH (by simpa using hl)];rw[bH hl]at hj;omega
theorem MS.ok.constant {c b:Nat} {m:MS} {n:Int} (h:m.ok c):(m.constant b n).ok (c+3):=h.aV.add
theorem MS.ok.two {c b:Nat} {m:MS} {op x y:Int} (h:m.ok c):(m.two b op x y).ok (c+3):=h.aV.add
variable {s:List Int} {M:Nat} {vs:Value} {W:View} {h:Heap} {o:Own} {m:MS}
theorem MS.ok.aI {c b:Nat} (h:m.ok c):(aI s m b).2.ok (c+10):=by
 unfold Go.Lft.aI;repeat' split
 ·exact(h.took.took.constant).mono V4
 ·exact(h.took.took.took.took.took.constant).mono V4
 exact(h.took.took.took).mono V4
variable{b:Nat}
theorem mC{i:InsD}:(m.add b i).blocks.length=m.blocks.length:=by simp[MS.add]
theorem ed:(aI s m b).2.blocks.length=m.blocks.length:=by
 unfold aI;repeat' split
 all_goals simp[Hm,MS.constant,mC,MS.took,MS.aV]
theorem Mk.constant (w:Mk s M vs W h o m) {b c:Nat} {n:Int} (hb:b<m.blocks.length) (hm:m.ok c) (hc:c<=1000000) (hn:-2147483648<=n/\n<=2147483647) :
  az VK 43 #[ptz M,VB VC b,VB VD n] h (λu h'=>u = VB VC m.next/\Nx s M vs W h' o (m.constant b n)):=by refine aq (args:=[ptz M,VB VC b,VB VD n]) follows Tryz.func43 E.gq Vw λK hK=>?_;have q1:=hm.next;have q0:=hm.n0;dsimp only[L.gq,lkF,lkG];refine aa λz hz=>?_;simp;subst hz;refine aa λz hz=>?_;simp;refine ah V0 (w.fresh q0 V4) ?_;rintro _ h2 ⟨rfl,o2,w2,f2⟩;subst hz;refine aa λz hz=>?_;simp;refine aA (z:=zz5) (places:=zpa) (vs:=[(0,VB VC 1),(1,VB VC m.next),(4,VB VD n)]) (cs:=#[VB VC 1,VB VC m.next,VB VC 0,VG VF 0 0,VB VD n]) V0 V0 V5 V0 ?_;have hm2:=hm.aV;refine ah V0 (w2.add (i:=conD m.next n) hb (Dl (imm:=⟨n⟩) ⟨⟨V6,V6⟩,V9,⟨V6,V6⟩,hn⟩ aO) (by have:=hm2.ins b;omega) (by have:=hm2.live;omega)) ?_;rintro u3 h3 n3;subst hz;simp;exact hK _ _ ⟨rfl,n3.trans Vy f2⟩
theorem Hn(w:Mk s M vs W h o m){c:Nat}(hb:b<m.blocks.length)(hm:m.ok c)(hc:c<=999990):
  az VK 86 #[ptz M,VB VC b] h (λu h'=>u = VB VC (aI s m b).1/\I64 (aI s m b).1/\Nx s M vs W h' o (aI s m b).2):=by
 refine aq (args:=[ptz M,VB VC b]) follows Tryz.func86 E.jI Vw λK hK=>?_;have qa:=hm.at_;have ql:=hm.live;have hsd:aI s m b=_:=aI.eq_1 s m b;dsimp only[L.jI,lkF,lkG];refine aa λz hz=>?_;simp;subst hz;refine aa λz hz=>?_;simp;refine ah V0 (w.value V4 V4) ?_;rintro u h2 hu;have con : ∀{m2:MS} {o2:Own} {h2:Heap} {ρ:Env} {z:LC},Mk s M vs W h2 o2 m2->(∀k:Key,3<=k.1->o2 k=o k)->m2.ok (c+3)->b<m2.blocks.length->aI s m b=(m2.next,Hm s m2 b)->Lft.look ρ 0=VE (ptz M)->Lft.look ρ 1=VE (VB VC b)->
   LC.wp VK (.seq (.reg VJ (.loud [19,20,21] [(19,(.tmp 0)),(20,(.tmp 1))] [(21,(.tmp 0))] VF [] VJ (.call ⟨.value (.func 44),#[(.tmp 21)],#[T.tQ]⟩) 21 (VE 22) VI
   (.loud [] [] [(19,(.tmp 19)),(20,(.tmp 20)),(22,(.tmp 22))] VF [] VJ (.call ⟨.value (.func 43),#[(.tmp 19),(.tmp 20),(.tmp 22)],#[T.tQ,3,21]⟩) 3 (VE 23) VI
    (.fin [4] [(4,(.tmp 23))] [])))) .ret) (fM (LC.wp VK z (dT [.tmp 4] K)) (dT [.tmp 4] K)) ρ h2:=by intro m2 o2 h2 ρ z w2 f2 k2 b2 e2 r0 r1;refine aa λy hy=>?_;simp[r0,r1];refine ah V0 (w2.word (by have:=k2.at_;omega)) ?_;rintro _ h3 ⟨rfl,o3,w3,f3⟩;simp[af,ag,r0,r1];refine ah V0 (w3.constant (n:=jY s m2) b2 k2.took.took V4 tt) ?_;rintro _ h4 ⟨rfl,n4⟩;subst hy;simp[af,ag];refine hK _ _ ⟨by rw[e2];rfl,by rw[e2];have:=k2.n0;have:=k2.next;exact⟨by show _<=m2.next;omega,by show m2.next<=_;omega⟩,?_⟩;rw[e2];exact n4.trans Vy λk hk=>(f3 k hk).trans (f2 k hk)
 rcases hu with⟨h0,rfl,rfl⟩ | ⟨h0,rfl,hi64,o2,w2,f2⟩
 ·rw[if_pos h0]at hsd;simp;subst hz;refine aa λz hz=>?_;refine aa λy hy=>?_;simp;subst hy;refine aT V5 ?_;exact con w (λ_ _=>rfl) (hm.mono V4) hb hsd (by simp[af,ag]) (by simp[af,ag])
 rw[if_neg h0]at hsd;simp;subst hz;refine aa λz hz=>?_;refine aa λy hy=>?_;simp;have k2:=hm.took.took;refine ah V0 (w2.take (by have:=k2.at_;omega) (n:=9) V6 V6) ?_;rintro _ h3 ⟨rfl,o3,w3,f3⟩;have hx:m.took.took.at_=m.at_+2:=rfl;rw[hx];simp;subst hy;by_cases c9:aH s (m.at_+2) 9=0
 ·rw[if_pos c9]at hsd;refine aT (by simp[c9]) ?_;exact con w3 (λk hk=>(f3 k hk).trans (f2 k hk)) k2.took hb hsd (by simp[af,ag]) (by simp[af,ag])
 rw[if_neg c9]at hsd;refine bf (by simp[c9]) ?_;simp;subst hz;simp;refine hK _ _ ⟨by rw[hsd],by rw[hsd];exact hi64,?_⟩;rw[hsd];exact w3.nx.trans Vy λk hk=>(f3 k hk).trans (f2 k hk)
end
def Nz (s:List Int) (M:Nat) (vs:Value) (W0:View) (h:Heap) (o0:Own) (m:MS) (u:Value) (ds:List Int):Prop:=∃W o,W0.le W/\Mk s M vs W h o m/\(∀k:Key,3<=k.1->o k=o0 k)/\SlRd W u ds
section
variable {s:List Int} {M:Nat} {vs:Value} {W0:View} {h:Heap} {o0:Own} {m:MS} {u:Value} {ds:List Int}
theorem Nx.z(n:Nx s M vs W0 h o0 m):Nz s M vs W0 h o0 m (VG VF 0 0) []:=by obtain⟨W,o,h1,h2,h3⟩:=n;exact⟨W,o,h1,h2,h3,aO⟩
theorem Nz.x(n:Nz s M vs W0 h o0 m u ds):Nx s M vs W0 h o0 m:=by obtain⟨W,o,h1,h2,h3,_⟩:=n;exact⟨W,o,h1,h2,h3⟩
theorem Nz.call{f:FuncId}{args:Array Value}{m':MS}{U:Value->Prop}(hc : ∀{W o},Mk s M vs W h o m->az VK f args h (λu h'=>U u/\Nx s M vs W h' o m'))(n:Nz s M vs W0 h o0 m u ds):
  az VK f args h (λv h'=>U v/\Nz s M vs W0 h' o0 m' u ds):=by obtain⟨W,o,h1,h2,h3,h4⟩:=n;refine(hc h2).mono ?_;rintro v h' ⟨hU,W',o',g1,g2,g3⟩;exact⟨hU,W',o',Vz h1 g1,g2,λk hk=>(g3 k hk).trans (h3 k hk),h4.mono g1⟩
theorem fA(n:Nz s M vs W0 h o0 m u ds){c:Nat}(hm:m.ok c)(hc:c<=1000000){k:Int}(hk:0<k)(hk2:k<=1000000000):
  az VK 34 #[ptz M,VB VC k] h (λv h'=>v = VB VC (aH s m.at_ k)/\Nz s M vs W0 h' o0 m.took u ds):=
 n.call (U:=λv=>v=_) λw=>((w.take (by have:=hm.at_;omega) hk hk2).mono λv h' ⟨e,o',w',f'⟩=>⟨e,w'.nx.trans Vy f'⟩)
theorem iP(n:Nz s M vs W0 h o0 m u ds){c:Nat}(hm:m.ok c)(hc:c<=1000000):
  az VK 37 #[ptz M] h (λv h'=>v = VB VC m.next/\Nz s M vs W0 h' o0 m.aV u ds):=
 n.call (U:=λv=>v=_) λw=>((w.fresh hm.n0 (by have:=hm.next;omega)).mono λv h' ⟨e,o',w',f'⟩=>⟨e,w'.nx.trans Vy f'⟩)
theorem CA(n:Nz s M vs W0 h o0 m u ds){c:Nat}(hm:m.ok c)(hc:c<=1000000):
  az VK 44 #[ptz M] h (λv h'=>v = VB VD (jY s m)/\Nz s M vs W0 h' o0 m.took.took u ds):=
 n.call (U:=λv=>v=_) λw=>((w.word (by have:=hm.at_;omega)).mono λv h' ⟨e,o',w',f'⟩=>⟨e,w'.nx.trans Vy f'⟩)
variable{b:Nat}
theorem ic(n:Nz s M vs W0 h o0 m u ds){c:Nat}(hb:b<m.blocks.length)(hm:m.ok c)(hc:c<=1000000){k:Int}(hk:-2147483648<=k/\k<=2147483647):
  az VK 43 #[ptz M,VB VC b,VB VD k] h (λv h'=>v = VB VC m.next/\Nz s M vs W0 h' o0 (m.constant b k) u ds):=
 n.call (U:=λv=>v=_) λw=>w.constant hb hm hc hk
theorem jL(n:Nz s M vs W0 h o0 m u ds){c:Nat}(hb:b<m.blocks.length)(hm:m.ok c)(hc:c<=999990):
  az VK 86 #[ptz M,VB VC b] h (λv h'=>(v = VB VC (aI s m b).1/\I64 (aI s m b).1)/\Nz s M vs W0 h' o0 (aI s m b).2 u ds):=
 n.call (U:=λv=>v=_/\_) λw=>(Hn w hb hm hc).mono λv h' ⟨e1,e2,e3⟩=>⟨⟨e1,e2⟩,e3⟩
variable{op:Int}
theorem mT(n:Nz s M vs W0 h o0 m u ds){c:Nat}{d two imm:Int}(hb:b<m.blocks.length)(hm:m.ok c)(hc:c<=1000000)(h1:I64 op)(h2:I64 d)(h3:I64 two)(h4:-2147483648<=imm/\imm<=2147483647):
  az VK 87 #[ptz M,VB VC b,.agg #[VB VC op,VB VC d,VB VC two,u,VB VD imm]] h (λv h'=>Nx s M vs W0 h' o0 (m.add b ⟨op,d,two,ds,⟨imm⟩⟩)):=by obtain⟨W,o,g1,g2,g3,g4⟩:=n;refine(g2.add (i:=⟨op,d,two,ds,⟨imm⟩⟩) hb (Dl (imm:=⟨imm⟩) ⟨h1,h2,h3,h4⟩ g4) (by have:=hm.ins b;omega) (by have:=hm.live;omega)).mono ?_;rintro v h' n';exact n'.trans g1 g3
theorem Nz.lit{po:OP}(n:Nz s M vs W0 h o0 m u ds){ty:TypeId}{ps:Array (Nat × Operand)}{us:List (Nat × Value)}{ls:List Int}{k:Nat}{K:Value->Heap->Prop}(hp:ps.map (λp=>(p.1,asg us p.2))=(((ls.map λx=>VB VC x).zipIdx 0).map λp=>(p.2,p.1)).toArray)(hr : ∀x∈ls,I64 x)(hn:ls.length=k)(hb:k<=16777216)(hk : ∀a n c h',(vw h).le (vw h')->Nz s M vs W0 h' o0 m (.slice a n c) ls->K (.slice a n c) h'):@Lft.step po VK (.buildSlice T.aY k ps) ty us h K:=by
 obtain⟨W,o,g1,g2,g3,g4⟩:=n;have hra : ∀l:List Int,(∀x∈l,I64 x)->rH W (l.map λx=>VB VC x) l:=by
  intro l;induction l with
  | nil=>intro _;trivial
  | cons a l ih=>intro hl;exact⟨bw.2 ⟨rfl,hl a V5⟩,ih λx hx=>hl x (by simp[hx])⟩
 refine nB (X:=W) (ds:=ls) (vs:=ls.map λx=>VB VC x) rfl El.aY hp (hra ls hr) g2.own.wle hn hb λv h' hle hs hv _=>?_;have hs2:=hv _ (bz g2.own.wle) (b8 (RQ _));obtain⟨a,cp,rfl,_⟩:=id hs2;refine hk _ _ _ h' hle ?_;exact⟨_,o,Vz g1 (bz g2.own.wle),⟨g2.own.ext hle,g2.src.mono (bz g2.own.wle),g2.box⟩,g3,hs2⟩
end
theorem MS.ok.lk{c:Nat}{m:MS}(h:m.ok c)(hc:c<=1000000):I64 m.next:=by have:=h.n0;have:=h.next;constructor<;>omega
variable{b:Nat}
theorem dW{m:MS}{n:Int}:(m.constant b n).blocks.length=m.blocks.length:=mC
variable{op:Int}
theorem qm{m:MS}{x y:Int}:(m.two b op x y).blocks.length=m.blocks.length:=mC
theorem i64c{x:Int}(h0:-1000<=x:=by decide)(h1:x<=1000:=by decide):I64 x:=V9
theorem I4{s:List Int}{M:Nat}{vs:Value}{W0:View}{h:Heap}{o0:Own}{m:MS}(n:Nx s M vs W0 h o0 m){c:Nat}{store:Bool}(hb:b<m.blocks.length)(hm:m.ok c)(hc:c<=900000):
  az VK 88 #[ptz M,VB VC b,.bool store] h (λv h'=>Nx s M vs W0 h' o0 (jd s m b store)):=by
 refine aq (args:=[ptz M,VB VC b,.bool store]) follows Tryz.func88 E.iB Vw λK hK=>?_;dsimp only[L.iB,lkF,lkG];have n:=n.z;have hmm:jd s m b store=_:=jd.eq_1 s m b store;refine aa λz hz=>?_;simp;refine ah V0 (fA n hm V4 (k:=9) V6 V6) ?_;rintro _ h1 ⟨rfl,n⟩;simp;refine ah V0 (ic n (b:=b) hb hm.took V4 (k:=IntKind.i32.wrap (aH s m.at_ 9)) oY) ?_;rintro _ h2 ⟨rfl,n⟩;have q:=hm.took.constant (b:=b) (n:=IntKind.i32.wrap (aH s m.at_ 9));have hb1:b<(m.took.constant b (IntKind.i32.wrap (aH s m.at_ 9))).blocks.length:=by rw[dW];exact hb
 obtain⟨m1,hm1⟩ : ∃m1,m1=m.took.constant b (IntKind.i32.wrap (aH s m.at_ 9)):=⟨_,rfl⟩;have had:jQ s m b=_:=jQ.eq_1 s m b;rw[<-hm1]at n q hb1;simp only[<-hm1]at had;have hnx:I64 m.next:=hm.lk V4;have hnt:m.took.next=m.next:=rfl;rw[hnt];generalize m.next=a0 at had hnx;clear hm1 hm hnt;subst hz;refine aa λz hz=>?_;have fin : ∀(a:Int) (m2:MS) (h':Heap) (ρ:Env),jQ s m b=(a,m2)->I64 a->m2.ok (c+30)->b<m2.blocks.length->Nz s M vs W0 h' o0 m2 (VG VF 0 0) []->Lft.look ρ 0=VE (ptz M)->Lft.look ρ 1=VE (VB VC b)->Lft.look ρ 2=VE (.bool store)->Lft.look ρ 6=VE (VB VC a)->LC.wp VK z (dT [] K) ρ h':=by
  intro a m2 h' ρ e ha q hb n r0 r1 r2 r6;subst hz;simp only[e]at hmm;refine aa λz hz=>?_;simp[af,ag,r0,r1,r2,r6];refine ah V0 (fA n q V4 (k:=4) V6 V6) ?_;rintro _ h1 ⟨rfl,n⟩;simp[af,ag,r0,r1,r2,r6];subst hz;refine aa λz hz=>?_;have fin2 : ∀(i:Int) (m3:MS) (h':Heap) (ρ:Env),offS s m2=(i,m3)->(-2147483648<=i/\i<=2147483647)->m3.ok (c+40)->b<m3.blocks.length->Nz s M vs W0 h' o0 m3 (VG VF 0 0) []->Lft.look ρ 0=VE (ptz M)->Lft.look ρ 1=VE (VB VC b)->Lft.look ρ 2=VE (.bool store)->Lft.look ρ 6=VE (VB VC a)->Lft.look ρ 11=VE (VB VD i)->LC.wp VK z (dT [] K) ρ h':=by
   intro i m3 h' ρ e hi q hb n r0 r1 r2 r6 r11;subst hz;simp only[e]at hmm;refine aa λz hz=>?_;simp[af,ag,r0,r1,r2,r6,r11];subst hz;cases store with
   | true=>rw[if_pos rfl]at hmm;refine aT (by simp[af,ag,r2]) ?_;simp[af,ag,r0,r1,r2,r6,r11];refine ah V0 (jL n hb q V4) ?_;rintro _ h1 ⟨⟨rfl,hs⟩,n⟩;refine n.lit (ls:=[a,(aI s m3 b).1]) V5 (by simp[ha,hs]) rfl V6 λua un uc h2 _ n=>?_;refine aA (z:=zz5) (places:=zpa) (vs:=[(0,VB VC 16),(3,.slice ua un uc),(4,VB VD i)]) (cs:=#[VB VC 16,VB VC 0,VB VC 0,.slice ua un uc,VB VD i]) V0 V0 V5 V0 ?_;refine ah V0 (mT n (b:=b) (by rw[ed];exact hb) (q.aI (b:=b)) V4 i64c i64c i64c hi) ?_;rintro _ h3 n;refine hK _ _ ?_;rw[hmm];exact n
   | false=>rw[if_neg V5]at hmm;refine bf (by simp[af,ag,r2]) ?_;simp[af,ag,r0,r1,r2,r6,r11];refine ah V0 (iP n q V4) ?_;rintro _ h1 ⟨rfl,n⟩;refine n.lit (ls:=[a]) V5 (by simp[ha]) rfl V6 λua un uc h2 _ n=>?_;refine aA (z:=zz5) (places:=zpa) (vs:=[(0,VB VC 15),(1,VB VC m3.next),(3,.slice ua un uc),(4,VB VD i)]) (cs:=#[VB VC 15,VB VC m3.next,VB VC 0,.slice ua un uc,VB VD i]) V0 V0 V5 V0 ?_;refine ah V0 (mT n (b:=b) hb q.aV V4 i64c (q.lk V4) i64c hi) ?_;rintro _ h3 n;refine hK _ _ ?_;rw[hmm];exact n
  have hof:offS s m2=_:=offS.eq_1 s m2;refine aa λy hy=>?_;simp[af,ag,r0,r1,r2,r6];refine ah V0 (fA n q.took V4 (k:=12) V6 V6) ?_;rintro _ h2 ⟨rfl,n⟩;have hx:m2.took.at_=m2.at_+1:=rfl;rw[hx];simp[af,ag,r0,r1,r2,r6];subst hy;by_cases c12:aH s (m2.at_+1) 12=0
  ·rw[if_pos c12]at hof;refine aT (by simp[af,ag,c12]) ?_;simp[af,ag,r0,r1,r2,r6];refine ah V0 (CA n q.took.took V4) ?_;rintro _ h3 ⟨rfl,n⟩;exact fin2 _ _ h3 _ hof tt (q.took.took.took.took.mono V4) hb n (by simp[af,ag,r0]) (by simp[af,ag,r1]) (by simp[af,ag,r2]) (by simp[af,ag,r6]) (by simp[af,ag])
  rw[if_neg c12]at hof;refine bf (by simp[af,ag,c12]) ?_;simp[af,ag,r0,r1,r2,r6];exact fin2 _ _ h2 _ hof oY (q.took.took.mono V4) hb n (by simp[af,ag,r0]) (by simp[af,ag,r1]) (by simp[af,ag,r2]) (by simp[af,ag,r6]) (by simp[af,ag])
 refine aa λy hy=>?_;simp;refine ah V0 (fA n q V4 (k:=3) V6 V6) ?_;rintro _ h3 ⟨rfl,n⟩;simp;subst hy;by_cases c3:aH s m1.at_ 3=0
 ·rw[if_pos c3]at had;refine aT (by simp[c3]) ?_;refine aa λy hy=>?_;simp;refine ah V0 (jL n (b:=b) hb1 q.took V4) ?_;rintro _ h4 ⟨⟨rfl,hs⟩,n⟩;have q:=q.took.aI (s:=s) (b:=b);have hb2:b<(aI s m1.took b).2.blocks.length:=by rw[ed];exact hb1
  generalize aI s m1.took b=r at had hs n q hb2;subst hy;refine aa λy hy=>?_;simp;refine ah V0 (ic n (b:=b) hb2 q V4 (k:=7) V6) ?_;rintro _ h5 ⟨rfl,n⟩;subst hy;refine aa λy hy=>?_;simp;have q5:=q.constant (b:=b) (n:=7);refine ah V0 (iP n q5 V4) ?_;rintro _ h6 ⟨rfl,n⟩;have hn5:(r.2.constant b 7).next=r.2.next+1:=rfl;rw[hn5];subst hy;refine aa λy hy=>?_;simp;have i5:=q5.lk V4;rw[hn5]at i5;refine n.lit (ls:=[r.1,r.2.next]) V5 (by simp[hs,q.lk (by omega:c+1+3+1+10<=1000000)]) rfl V6 λua un uc h7 _ n=>?_;refine aA (z:=zz5) (places:=zpa) (vs:=[(0,VB VC 5),(1,VB VC (r.2.next+1)),(3,.slice ua un uc)]) (cs:=#[VB VC 5,VB VC (r.2.next+1),VB VC 0,.slice ua un uc,VB VD 0]) V0 V0 V5 V0 ?_;refine ah V0 (mT n (b:=b) (imm:=0) (by rw[show(r.2.constant b 7).aV.blocks=(r.2.constant b 7).blocks from rfl,dW];exact hb2) q5.aV V4 i64c i5 i64c V6) ?_;rintro _ h8 n;have n:Nx s M vs W0 h8 o0 ((r.2.constant b 7).two b 5 r.1 r.2.next):=n;have q6:=q5.two (b:=b) (op:=5) (x:=r.1) (y:=r.2.next);have hb3:b<((r.2.constant b 7).two b 5 r.1 r.2.next).blocks.length:=by rw[qm,dW];exact hb2
  generalize (r.2.constant b 7).two b 5 r.1 r.2.next=m3 at had n q6 hb3;have n:=n.z;subst hy;refine aa λy hy=>?_;simp;refine ah V0 (iP n q6 V4) ?_;rintro _ h9 ⟨rfl,n⟩;subst hy;refine aa λy hy=>?_;simp;refine n.lit (ls:=[a0,r.2.next+1]) V5 (by simp[hnx,i5]) rfl V6 λua2 un2 uc2 h10 _ n=>?_;refine aA (z:=zz5) (places:=zpa) (vs:=[(0,VB VC 2),(1,VB VC m3.next),(3,.slice ua2 un2 uc2)]) (cs:=#[VB VC 2,VB VC m3.next,VB VC 0,.slice ua2 un2 uc2,VB VD 0]) V0 V0 V5 V0 ?_;refine ah V0 (mT n (b:=b) (imm:=0) hb3 q6.aV V4 i64c (q6.lk V4) i64c V6) ?_;rintro _ h11 n;subst hy;simp;refine fin m3.next (m3.two b 2 a0 (r.2.next+1)) h11 _ had (q6.lk V4) (q6.two.mono V4) (by rw[qm];exact hb3) n.z ?_ ?_ ?_ ?_;all_goals simp
 rw[if_neg c3]at had;refine bf (by simp[c3]) ?_;simp;exact fin a0 m1.took h3 _ had hnx (q.took.mono V4) hb1 n V5 V5 V5 V5
section
variable {s:List Int} {M:Nat} {vs:Value} {W0:View} {h:Heap} {o0:Own} {m:MS} {u:Value} {ds:List Int}
theorem Nz.le (n:Nz s M vs W0 h o0 m u ds):W0.le (vw h):=by obtain⟨W,o,h1,h2,_⟩:=n;exact Vz h1 h2.own.wle
theorem Nz.base(n:Nz s M vs W0 h o0 m u ds): ∃W o,Nz s M vs W h o m u ds/\SlRd W u ds/\∀{h' m' u' ds'},Nz s M vs W h' o m' u' ds'->Nz s M vs W0 h' o0 m' u' ds':=by obtain⟨W,o,h1,h2,h3,h4⟩:=n;refine⟨W,o,⟨W,o,View.le_refl _,h2,λ_ _=>rfl,h4⟩,h4,?_⟩;rintro h' m' u' ds' ⟨W',o',g1,g2,g3,g4⟩;exact⟨W',o',Vz h1 g1,g2,λk hk=>(g3 k hk).trans (h3 k hk),g4⟩
end
theorem Kh{H:View}{B n:Nat}{l:List Int}{t:TypeId}(hb:H B=VE (.cells (l.map λx=>VB VC x).toArray t (0,0)))(hn:l.length=n)(h1:0<n/\n<=1000)(hr : ∀x∈l,I64 x):SlRd H (VG (VE ⟨B,0,VF⟩) n n) l:=by
 refine⟨VE ⟨B,0,VF⟩,n,by rw[hn],by omega,by omega,.inr ⟨⟨B,0,VF⟩,rfl,rfl,λi hi=>?_⟩⟩;have e:(⟨B,0,VF⟩:Addr).add (i*Rep.n Int)=⟨B,i,VF⟩:=by show(⟨B,0,VF⟩:Addr).add (i*1)=_;simp
 rw[e];refine⟨[VB VC l[i]],⟨_,t,(0,0),rfl,hb,?_⟩,(bw (v:=VB VC l[i]) (H:=H)).2 ⟨rfl,hr _ (S8 hi)⟩ |> λq=>?_⟩
 ·show((l.map λx=>VB VC x).toArray.toList.drop i).take 1=_;rw[List.toList_toArray,Sx (by simpa using hi)];simp
 exact⟨rfl,hr _ (S8 hi)⟩
theorem LG: ∀x∈opsL,I64 x:=by
 intro x hx;have : ∀x∈opsL,0<=x/\x<=12:=by decide
 have:=this x hx;exact V9
theorem MkB.frame{M:Nat}{vs:Value}{m:MS}{o o':Own}{vb vl:Value}{lb:List BlkM}(b:MkB M vs m o vb vl lb)(hf : ∀k:Key,k.1<3->o' k=o k):MkB M vs m o' vb vl lb:=
 ⟨(hf _ V6).trans b.box,(hf _ V6).trans b.live,(hf _ V6).trans b.blk,b.len,b.term,λi hi=>(hf _ (by show 1<3;decide)).trans (b.phis i hi),λi hi=>(hf _ (by show 2<3;decide)).trans (b.ins i hi)⟩
theorem EY{s:List Int}{x:List Int × MS}: ∀k,(up (fQ s b) k x).2.blocks.length=x.2.blocks.length:=by
 intro k;induction k with
 | zero=>rfl
 | succ k ih=>show(aI s (up (fQ s b) k x).2 b).2.blocks.length=_;rw[ed,ih]
theorem G8{s:List Int}{c:Nat}{x:List Int × MS}(hx:x.2.ok c): ∀k,(up (fQ s b) k x).2.ok (c+10*k)/\(up (fQ s b) k x).1.length=x.1.length+k/\(up (fQ s b) k x).2.blocks.length=x.2.blocks.length:=by
 intro k;induction k with
 | zero=>exact⟨hx,rfl,rfl⟩
 | succ k ih=>
  obtain⟨h1,h2,h3⟩:=ih;refine⟨(h1.aI).mono V4,?_,?_⟩
  ·show((up (fQ s b) k x).1++[_]).length=_;rw[RZ,h2,Sp];omega
  show(aI s (up (fQ s b) k x).2 b).2.blocks.length=_;rw[ed,h3]
theorem An{s:List Int}{M:Nat}{vs:Value}{W0:View}{h:Heap}{o0:Own}{m:MS}(n:Nx s M vs W0 h o0 m){c:Nat}(hb:b<m.blocks.length)(hm:m.ok c)(hc:c<=800000)(hfree:o0 (9,0)=VF):
  az VK 40 #[ptz M,VB VC b] h (λv h'=>Nx s M vs W0 h' o0 (aN s b m)):=by
 refine aq (args:=[ptz M,VB VC b]) follows Tryz.func40 E.bu Vw λK hK=>?_;dsimp only[L.bu,lkF,lkG];have n:=n.z;have hmm:aN s b m=_:=aN.eq_1 s b m;refine aa λz hz=>?_;simp;refine ah V0 (fA n hm V4 (k:=20) V6 V6) ?_;rintro _ h1 ⟨rfl,n⟩;obtain⟨k0,k1⟩:=bT (s:=s) (at_:=m.at_) (n:=20) V6;have q:=hm.took;have hb1:b<m.took.blocks.length:=hb;subst hz;generalize aH s m.at_ 20=k at hmm k0 k1;generalize hm1:m.took=m1 at hmm n q hb1;have hw:jY s m1=jY s m1:=rfl;simp only[aW];refine aa λz hz=>?_;simp;subst hz;by_cases c1:k<12
 ·rw[if_pos c1]at hmm;refine aT (by simp[c1]) ?_;obtain⟨kn,rfl⟩ : ∃kn:Nat,k=kn:=⟨k.toNat,by omega⟩;have hkn:kn<12:=by omega
  refine aa λz hz=>?_;simp;have hcs:(#[VB VC 2,VB VC 2,VB VC 3,VB VC 4,VB VC 5,VB VC 6,VB VC 7,VB VC 8,VB VC 9,VB VC 10,VB VC 12,VB VC 11]:Array Value)=(opsL.map λx=>VB VC x).toArray:=rfl;refine aA (z:=zz11) (places:=[(0,1),(1,1),(2,1),(3,1),(4,1),(5,1),(6,1),(7,1),(8,1),(9,1),(10,1),(11,1)]) (vs:=[(0,VB VC 2),(1,VB VC 2),(2,VB VC 3),(3,VB VC 4),(4,VB VC 5),(5,VB VC 6),(6,VB VC 7),(7,VB VC 8),(8,VB VC 9),(9,VB VC 10),(10,VB VC 12),(11,VB VC 11)])
   (cs:=#[VB VC 2,VB VC 2,VB VC 3,VB VC 4,VB VC 5,VB VC 6,VB VC 7,VB VC 8,VB VC 9,VB VC 10,VB VC 12,VB VC 11]) V0 V0 V5 V0 ?_;refine fZ (v:=.agg #[VB VC 2,VB VC 2,VB VC 3,VB VC 4,VB VC 5,VB VC 6,VB VC 7,VB VC 8,VB VC 9,VB VC 10,VB VC 12,VB VC 11]) (z:=.agg #[VB VC 0,VB VC 0,VB VC 0,VB VC 0,VB VC 0,VB VC 0,VB VC 0,VB VC 0,VB VC 0,VB VC 0,VB VC 0,VB VC 0]) (n:=12) V0 rfl V0 rfl Vu V8 V8 λh2 hle2 hs2 hb2=>?_
  have n:Nz s M vs W0 h2 o0 m1 (VG (VE ⟨h1.size,0,VF⟩) 12 12) opsL:=by
   obtain⟨W,o,g1,g2,g3,g4⟩:=n;refine⟨_,o,Vz g1 (bz g2.own.wle),⟨g2.own.ext hle2,g2.src.mono (bz g2.own.wle),g2.box⟩,g3,?_⟩;have hg:grow W h1 h2 h1.size=VE (.cells (opsL.map λx=>VB VC x).toArray T.NN (0,0)):=by rw[b8 (RQ _),hb2];rfl
   exact Kh hg rfl V6 LG
  generalize h1.size=B at n;subst hz;refine aa λz hz=>?_;simp;refine ah V0 (jL n hb1 q V4) ?_;rintro _ h3 ⟨⟨rfl,i2⟩,n⟩;have q:=q.aI (s:=s) (b:=b);have hb2:b<(aI s m1 b).2.blocks.length:=by rw[ed];exact hb1
  simp only[binS]at hmm;generalize aI s m1 b=r1 at hmm n q hb2 i2;subst hz;refine aa λz hz=>?_;simp;refine ah V0 (jL n hb2 q V4) ?_;rintro _ h4 ⟨⟨rfl,i3⟩,n⟩;have q:=q.aI (s:=s) (b:=b);have hb3:b<(aI s r1.2 b).2.blocks.length:=by rw[ed];exact hb2
  generalize aI s r1.2 b=r2 at hmm n q hb3 i3;subst hz;refine aa λz hz=>?_;have fin : ∀(e:Int) (m3:MS) (h':Heap) (ρ:Env),aN s b m=m3.two b (nth opsL kn) r1.1 e->I64 e->m3.ok (c+60)->b<m3.blocks.length->Nz s M vs W0 h' o0 m3 (VG (VE ⟨B,0,VF⟩) 12 12) opsL->Lft.look ρ 0=VE (ptz M)->Lft.look ρ 1=VE (VB VC b)->Lft.look ρ 4=VE (VB VC kn)->Lft.look ρ 5=VE (ptz B)->Lft.look ρ 6=VE (VB VC r1.1)->Lft.look ρ 7=VE (VB VC e)->LC.wp VK z (eZ 0 (dT [] K)) ρ h':=by
   intro e m3 h' ρ hmm ie q hb n r0 r1' r4 r5 r6 r7;subst hz;obtain⟨W,o,n,sl,back⟩:=n.base;have iop:=sl.range (i:=kn) (by show kn<12;omega);have hop:ao W ⟨B,kn,VF⟩=VE (VB VC (nth opsL kn)):=by have:=sl.int (View.le_refl W) (i:=kn) (by show kn<12;omega);simpa[slA]using this
   have hix:Bn.ev (.aidx 12 1) (ptz B) (VB VC kn)=VE (VH (VE ⟨B,kn,VF⟩)):=by simp only[Bn.ev,vP,vI,St];rw[if_pos V9];simp
   generalize nth opsL kn=op at hmm iop hop;refine aQ W n.le ?_;simp[af,ag,r0,r1',r4,r5,r6,r7,hix,hop];constructor
   ·refine ah V0 (iP n q V4) ?_;rintro _ h4 ⟨rfl,n⟩;refine⟨n.le,?_⟩;refine n.lit (ls:=[r1.1,e]) V5 (by simp[i2,ie]) rfl V6 λua un uc h5 _ n=>⟨n.le,?_⟩;refine aA (z:=zz5) (places:=zpa) (vs:=[(0,VB VC op),(1,VB VC m3.next),(3,.slice ua un uc)]) (cs:=#[VB VC op,VB VC m3.next,VB VC 0,.slice ua un uc,VB VD 0]) V0 V0 V5 V0 ?_;refine ah V0 (mT n (b:=b) hb q.aV V4 iop (q.lk V4) i64c V6) ?_;rintro _ h6 n;exact hK _ _ (by rw[hmm];exact(back n.z).x)
   refine n.lit (ls:=[r1.1,e]) V5 (by simp[i2,ie]) rfl V6 λua un uc h5 _ n=>⟨n.le,?_⟩;refine ah V0 (iP n q V4) ?_;rintro _ h4 ⟨rfl,n⟩;refine⟨n.le,?_⟩;refine aA (z:=zz5) (places:=zpa) (vs:=[(0,VB VC op),(1,VB VC m3.next),(3,.slice ua un uc)]) (cs:=#[VB VC op,VB VC m3.next,VB VC 0,.slice ua un uc,VB VD 0]) V0 V0 V5 V0 ?_;refine ah V0 (mT n (b:=b) hb q.aV V4 iop (q.lk V4) i64c V6) ?_;rintro _ h6 n;exact hK _ _ (by rw[hmm];exact(back n.z).x)
  refine aa λy hy=>?_;simp;refine ah V0 (fA n q V4 (k:=3) V6 V6) ?_;rintro _ h5 ⟨rfl,n⟩;simp;subst hy;by_cases c4:aH s r2.2.at_ 3=0
  ·rw[if_pos c4]at hmm;refine aT (by simp[c4]) ?_;simp;refine ah V0 (fA n q.took V4 (k:=40) V6 V6) ?_;rintro _ h6 ⟨rfl,n⟩;have hx:r2.2.took.at_=r2.2.at_+1:=rfl;rw[hx];simp;refine ah V0 (ic n (b:=b) hb3 q.took.took V4 (k:=IntKind.i32.wrap (IntKind.i64.wrap (aH s (r2.2.at_+1) 40-8))) oY) ?_;rintro _ h7 ⟨rfl,n⟩;refine fin r2.2.next _ h7 _ hmm (q.lk V4) (q.took.took.constant.mono V4) (by rw[dW];exact hb3) n ?_ ?_ ?_ ?_ ?_ ?_;all_goals simp
   rfl
  rw[if_neg c4]at hmm;refine bf (by simp[c4]) ?_;simp;refine fin r2.1 _ h5 _ hmm i3 (q.took.mono V4) hb3 n ?_ ?_ ?_ ?_ ?_ ?_;all_goals simp
 rw[if_neg c1]at hmm;refine bf (by simp[c1]) ?_;refine aa λz hz=>?_;simp;subst hz;by_cases c2:k=12
 ·rw[if_pos c2]at hmm;refine aT (by simp[c2]) ?_;refine aa λz hz=>?_;simp;refine ah V0 (jL n hb1 q V4) ?_;rintro _ h2 ⟨⟨rfl,i2⟩,n⟩;have q:=q.aI (s:=s) (b:=b);have hb2:b<(aI s m1 b).2.blocks.length:=by rw[ed];exact hb1
  simp only[ltuS]at hmm;generalize aI s m1 b=r1 at hmm n q hb2 i2;subst hz;refine aa λz hz=>?_;simp;refine ah V0 (jL n hb2 q V4) ?_;rintro _ h3 ⟨⟨rfl,i3⟩,n⟩;have q:=q.aI (s:=s) (b:=b);have hb3:b<(aI s r1.2 b).2.blocks.length:=by rw[ed];exact hb2
  generalize aI s r1.2 b=r2 at hmm n q hb3 i3;subst hz;simp;refine ah V0 (iP n q V4) ?_;rintro _ h4 ⟨rfl,n⟩;refine n.lit (ls:=[r1.1,r2.1]) V5 (by simp[i2,i3]) rfl V6 λua un uc h5 _ n=>?_;refine aA (z:=zz5) (places:=zpa) (vs:=[(0,VB VC 13),(1,VB VC r2.2.next),(3,.slice ua un uc)]) (cs:=#[VB VC 13,VB VC r2.2.next,VB VC 0,.slice ua un uc,VB VD 0]) V0 V0 V5 V0 ?_;refine ah V0 (mT n (b:=b) hb3 q.aV V4 i64c (q.lk V4) i64c V6) ?_;rintro _ h6 n;exact hK _ _ (by rw[hmm];exact n)
 rw[if_neg c2]at hmm;refine bf (by simp[c2]) ?_;refine aa λz hz=>?_;simp;subst hz;by_cases c3:k=13
 ·rw[if_pos c3]at hmm;refine aT (by simp[c3]) ?_;refine aa λz hz=>?_;simp;refine ah V0 (jL n hb1 q V4) ?_;rintro _ h2 ⟨⟨rfl,i2⟩,n⟩;have q:=q.aI (s:=s) (b:=b);have hb2:b<(aI s m1 b).2.blocks.length:=by rw[ed];exact hb1
  simp only[divS]at hmm;generalize aI s m1 b=r1 at hmm n q hb2 i2;subst hz;refine aa λz hz=>?_;simp;refine ah V0 (fA n q V4 (k:=12) V6 V6) ?_;rintro _ h3 ⟨rfl,n⟩;simp;refine ah V0 (ic n (b:=b) hb2 q.took V4 (k:=IntKind.i32.wrap (aH s r1.2.at_ 12)) oY) ?_;rintro _ h4 ⟨rfl,n⟩;have i4:I64 r1.2.took.next:=q.took.lk V4;have q:=q.took.constant (b:=b) (n:=IntKind.i32.wrap (aH s r1.2.at_ 12));have hb3:b<(r1.2.took.constant b (IntKind.i32.wrap (aH s r1.2.at_ 12))).blocks.length:=by rw[dW];exact hb2
  have ht:r1.2.took.next=r1.2.next:=rfl;rw[ht]at i4 ⊢;generalize r1.2.took.constant b (IntKind.i32.wrap (aH s r1.2.at_ 12))=m2 at hmm n q hb3;generalize r1.2.next=d at hmm i4;subst hz;refine aa λz hz=>?_;have fin : ∀(e:Int) (m3:MS) (h':Heap) (ρ:Env),aN s b m=m3.two b 14 r1.1 e->I64 e->m3.ok (c+60)->b<m3.blocks.length->Nz s M vs W0 h' o0 m3 (VG VF 0 0) []->Lft.look ρ 0=VE (ptz M)->Lft.look ρ 1=VE (VB VC b)->Lft.look ρ 10=VE (VB VC r1.1)->Lft.look ρ 11=VE (VB VC e)->LC.wp VK z (eZ 0 (dT [] K)) ρ h':=by intro e m3 h' ρ hmm ie q hb n r0 r1' r10 r11;subst hz;simp[af,ag,r0,r1',r10,r11];refine ah V0 (iP n q V4) ?_;rintro _ h4 ⟨rfl,n⟩;refine n.lit (ls:=[r1.1,e]) V5 (by simp[i2,ie]) rfl V6 λua un uc h5 _ n=>?_;refine aA (z:=zz5) (places:=zpa) (vs:=[(0,VB VC 14),(1,VB VC m3.next),(3,.slice ua un uc)]) (cs:=#[VB VC 14,VB VC m3.next,VB VC 0,.slice ua un uc,VB VD 0]) V0 V0 V5 V0 ?_;refine ah V0 (mT n (b:=b) hb q.aV V4 i64c (q.lk V4) i64c V6) ?_;rintro _ h6 n;exact hK _ _ (by rw[hmm];exact n)
  refine aa λy hy=>?_;simp;refine ah V0 (fA n q V4 (k:=3) V6 V6) ?_;rintro _ h5 ⟨rfl,n⟩;simp;subst hy;by_cases c4:0<aH s m2.at_ 3
  ·rw[if_pos c4]at hmm;refine aT (by simp[c4]) ?_;simp;refine ah V0 (fA n q.took V4 (k:=12) V6 V6) ?_;rintro _ h6 ⟨rfl,n⟩;have hx:m2.took.at_=m2.at_+1:=rfl;rw[hx];simp;refine ah V0 (ic n (b:=b) hb3 q.took.took V4 (k:=IntKind.i32.wrap (1+IntKind.i32.wrap (aH s (m2.at_+1) 12))) oY) ?_;rintro _ h7 ⟨rfl,n⟩;refine fin m2.next _ h7 _ hmm (q.lk V4) (q.took.took.constant.mono V4) (by rw[dW];exact hb3) n ?_ ?_ ?_ ?_;all_goals simp
   rfl
  rw[if_neg c4]at hmm;refine bf (by simp[c4]) ?_;simp;refine fin d _ h5 _ hmm i4 (q.took.mono V4) hb3 n ?_ ?_ ?_ ?_;all_goals simp
 rw[if_neg c3]at hmm;refine bf (by simp[c3]) ?_;refine aa λz hz=>?_;simp;subst hz;by_cases c4:k<16
 ·rw[if_pos c4]at hmm;refine aT (by simp[c4]) ?_;simp;refine ah V0 (I4 n.x (store:=decide (k=15)) hb1 q V4) ?_;rintro _ h2 n;exact hK _ _ (by rw[hmm];exact n)
 rw[if_neg c4]at hmm;refine bf (by simp[c4]) ?_;refine aa λz hz=>?_;simp;subst hz;by_cases c5:k=16
 ·rw[if_pos c5]at hmm;refine aT (by simp[c5]) ?_;refine aa λz hz=>?_;simp;obtain⟨W,o,g1,w,f,-⟩:=n;have hk9:o (9,0)=none:=(f _ V6).trans hfree;refine w.own.kf (k:=(9,0)) (α:=Int) hk9 El.aY λv h2 hle2 hv w2 _=>?_;have w2:Mk s M vs W h2 (o.upd (9,0) (it T.int v ([]:List Int))) m1:=by obtain⟨vb,vl,lb,bb⟩:=w.box;exact⟨w2,w.src,vb,vl,lb,bb.frame λk hk=>Own.aB (by rintro rfl;simp at hk)⟩
  subst hz;refine aa λz hz=>?_;simp;refine ah V0 (w2.take (by have:=q.at_;omega) (n:=5) V6 V6) ?_;rintro _ h3 ⟨rfl,o3,w3,f3⟩;simp only[oR]at hmm;have q:=q.took;have hb2:b<m1.took.blocks.length:=hb1;obtain⟨t0,t1⟩:=bT (s:=s) (at_:=m1.at_) (n:=5) V6;generalize aH s m1.at_ 5=t at hmm t0 t1;obtain⟨tn,rfl⟩ : ∃tn:Nat,t=tn:=⟨t.toNat,by omega⟩;rw[show((tn:Int)).toNat=tn by omega]at hmm;have hup:=G8 (s:=s) (b:=b) (x:=([],m1.took)) q;generalize m1.took=m2 at hmm q hb2 hup w3;subst hz;refine aa λz hz=>?_;simp;refine dQ [0,1,4,12,13,14] (fun(v:Value) i=>[ptz M,VB VC b,VB VC k,v,VB VC tn,VB VC i]) (λv i h4=>∃W' o',W0.le W'/\Mk s M vs W' h4 o' (up (fQ s b) i ([],m2)).2/\o' (9,0)=it T.int v (up (fQ s b) i ([],m2)).1/\∀q:Key,3<=q.1->q≠(9,0)->o' q=o0 q) tn v
   rfl V4 rfl ⟨W,o3,g1,w3,(f3 _ V6).trans Own.an,λq h1 h2=>(f3 q h1).trans ((Own.aB h2).trans (f q h1))⟩ (λ_ _=>rfl) (λv k h hk m=>by simp) ?_ ?_
  ·rintro v i h4 hlt ⟨W4,o4,g4,w4,e4,f4⟩ K2 hK2;obtain⟨qi,li,bi⟩:=hup i;have e5:up (fQ s b) (i+1) ([],m2)=((up (fQ s b) i ([],m2)).1++[(aI s (up (fQ s b) i ([],m2)).2 b).1],(aI s (up (fQ s b) i ([],m2)).2 b).2):=rfl;have hb4:b<(up (fQ s b) i ([],m2)).2.blocks.length:=by rw[bi];exact hb2
   generalize up (fQ s b) i ([],m2)=x at w4 e4 e5 qi li bi hb4;have li:x.1.length=i:=by simpa using li
   simp;refine ah V0 (Hn w4 hb4 qi V4) ?_;rintro _ h5 ⟨rfl,i5,W5,o5,g5,w5,f5⟩;have e6:o5 (9,0)=it T.int v x.1:=(f5 _ V6).trans e4;refine w5.own.gu (k:=(9,0)) (α:=Int) (d:=(aI s x.2 b).1) e6 El.aY rfl (bw.2 ⟨rfl,i5⟩) V4 V4 (λ_=>rfl) (λ_=>rfl) λu v' h6 w6 _=>?_;refine hK2 v' _ _ rfl rfl ⟨W5,_,Vz g4 g5,⟨w6,w5.src,?_⟩,?_,?_⟩
   ·obtain⟨vb,vl,lb,bb⟩:=w5.box;rw[e5];exact⟨vb,vl,lb,bb.frame λk hk=>Own.aB (by rintro rfl;simp at hk)⟩
   ·rw[e5];exact Own.an
   intro q h1 h2;exact(Own.aB h2).trans ((f5 q h1).trans (f4 q h1 h2))
  rintro v h4 ⟨W4,o4,g4,w4,e4,f4⟩;obtain⟨qi,li,bi⟩:=hup tn;have hb4:b<(up (fQ s b) tn ([],m2)).2.blocks.length:=by rw[bi];exact hb2
  generalize up (fQ s b) tn ([],m2)=x at w4 e4 qi li bi hb4 hmm;obtain⟨w5,sl⟩:=w4.own.freeze e4;have sl2:=sl;obtain⟨ua,uc,rfl,_⟩:=sl2;have hWp:=iI (h:=h4) (w4.own.av _ _ e4);have n:Nz s M vs W0 h4 o0 x.2 (.slice ua x.1.length uc) x.1:=by
   obtain⟨vb,vl,lb,bb⟩:=w4.box;refine⟨_,_,Vz g4 hWp,⟨w5,w4.src.mono hWp,vb,vl,lb,bb.frame λk hk=>Own.aB (by rintro rfl;simp at hk)⟩,λq h1=>?_,sl⟩;by_cases e:q=(9,0)
   ·rw[e,Own.an,hfree]
   exact(Own.aB e).trans (f4 q h1 e)
  generalize x.1.length=un at n;simp;subst hz;simp;refine ah V0 (iP n qi V4) ?_;rintro _ h5 ⟨rfl,n⟩;refine ah V0 (fA n qi.aV V4 (k:=5) V6 V6) ?_;rintro _ h6 ⟨rfl,n⟩;have hx:x.2.aV.at_=x.2.at_:=rfl;rw[hx];simp;refine aA (z:=zz5) (places:=zpa) (vs:=[(0,VB VC 17),(1,VB VC x.2.next),(3,.slice ua un uc),(4,VB VD (IntKind.i32.wrap (aH s x.2.at_ 5)))]) (cs:=#[VB VC 17,VB VC x.2.next,VB VC 0,.slice ua un uc,VB VD (IntKind.i32.wrap (aH s x.2.at_ 5))]) V0 V0 V5 V0 ?_;refine ah V0 (mT n (b:=b) hb4 qi.aV.took V4 i64c (qi.lk V4) i64c oY) ?_;rintro _ h7 n;exact hK _ _ (by rw[hmm];exact n)
 rw[if_neg c5]at hmm;refine bf (by simp[c5]) ?_;refine aa λz hz=>?_;simp;subst hz;by_cases c6:k=17
 ·rw[if_pos c6]at hmm;refine aT (by simp[c6]) ?_;refine aa λz hz=>?_;simp;refine ah V0 (jL n hb1 q V4) ?_;rintro _ h2 ⟨⟨rfl,i2⟩,n⟩;have q:=q.aI (s:=s) (b:=b);have hb2:b<(aI s m1 b).2.blocks.length:=by rw[ed];exact hb1
  simp only[vW]at hmm;generalize aI s m1 b=r1 at hmm n q hb2 i2;subst hz;refine aa λz hz=>?_;simp;refine ah V0 (jL n hb2 q V4) ?_;rintro _ h3 ⟨⟨rfl,i3⟩,n⟩;have q:=q.aI (s:=s) (b:=b);have hb3:b<(aI s r1.2 b).2.blocks.length:=by rw[ed];exact hb2
  generalize aI s r1.2 b=r2 at hmm n q hb3 i3;subst hz;refine aa λz hz=>?_;simp;refine ah V0 (iP n q V4) ?_;rintro _ h4 ⟨rfl,n⟩;subst hz;simp;refine ah V0 (iP n q.aV V4) ?_;rintro _ h5 ⟨rfl,n⟩;have hx:r2.2.aV.next=r2.2.next+1:=rfl;rw[hx];have j5:=q.aV.lk V4;rw[hx]at j5;refine n.lit (ls:=[r1.1,r2.1]) V5 (by simp[i2,i3]) rfl V6 λua un uc h5 _ n=>?_;refine aA (z:=zz5) (places:=zpa) (vs:=[(0,VB VC 18),(1,VB VC r2.2.next),(2,VB VC (r2.2.next+1)),(3,.slice ua un uc)]) (cs:=#[VB VC 18,VB VC r2.2.next,VB VC (r2.2.next+1),.slice ua un uc,VB VD 0]) V0 V0 V5 V0 ?_;refine ah V0 (mT n (b:=b) hb3 q.aV.aV V4 i64c (q.lk V4) j5 V6) ?_;rintro _ h6 n;exact hK _ _ (by rw[hmm];exact n)
 rw[if_neg c6]at hmm;refine bf (by simp[c6]) ?_;simp;refine ah V0 (CA n q V4) ?_;rintro _ h2 ⟨rfl,n⟩;refine ah V0 (ic n (b:=b) hb1 q.took.took V4 (k:=jY s m1) tt) ?_;rintro _ h3 ⟨rfl,n⟩;exact hK _ _ (by rw[hmm];exact n.x)
section
variable {s:List Int} {m:MS} {b c:Nat}
theorem pL:m.took.blocks.length=m.blocks.length:=rfl
theorem sC:m.aV.blocks.length=m.blocks.length:=rfl
theorem MS.ok.addr(h:m.ok c):(jQ s m b).2.ok (c+30):=by
 unfold jQ;simp only;split
 ·exact((((h.took.constant).took.aI).constant).two.two).mono V4
 exact(h.took.constant.took).mono V4
theorem KB:(jQ s m b).2.blocks.length=m.blocks.length:=by unfold jQ;simp only;split<;>simp[qm,dW,ed,pL]
theorem MS.ok.off(h:m.ok c):(offS s m).2.ok (c+4):=by
 unfold offS;split
 ·exact h.took.took.took.took
 exact h.took.took.mono V4
theorem Nt:(offS s m).2.blocks.length=m.blocks.length:=by unfold offS;split<;>rfl
theorem MS.ok.memory{st:Bool}(h:m.ok c):(jd s m b st).ok (c+60):=by
 unfold jd;simp only;split
 ·exact(((h.addr).off.aI).add).mono V4
 exact(((h.addr).off.aV).add).mono V4
theorem GB{st:Bool}:(jd s m b st).blocks.length=m.blocks.length:=by unfold jd;simp only;split<;>simp[mC,ed,Nt,KB,sC]
theorem MS.ok.bin(h:m.ok c):(binS s m b op).ok (c+60):=by
 unfold binS;simp only;split
 ·exact((h.aI.aI).took.took.constant.two).mono V4
 exact((h.aI.aI).took.two).mono V4
theorem MH:(binS s m b op).blocks.length=m.blocks.length:=by unfold binS;simp only;split<;>simp[qm,dW,ed,pL]
theorem MS.ok.div(h:m.ok c):(divS s m b).ok (c+60):=by
 unfold divS;simp only;split
 ·exact((h.aI).took.constant.took.took.constant.two).mono V4
 exact((h.aI).took.constant.took.two).mono V4
theorem Nk:(divS s m b).blocks.length=m.blocks.length:=by unfold divS;simp only;split<;>simp[qm,dW,ed,pL]
theorem MS.ok.oR (h:m.ok c):(oR s m b).ok (c+70):=by unfold Go.Lft.oR;simp only;have ht:=bT (s:=s) (at_:=m.at_) (n:=5) V6;have:=(G8 (s:=s) (b:=b) (x:=([],m.took)) h.took (aH s m.at_ 5).toNat).1;exact(this.aV.took.add).mono V4
theorem LK:(oR s m b).blocks.length=m.blocks.length:=by unfold oR;simp only;rw[mC,pL,sC];exact EY (s:=s) (b:=b) (x:=([],m.took)) _
theorem MS.ok.ij(h:m.ok c):(aN s b m).ok (c+80):=by
 unfold aN;simp only;repeat' split
 ·exact h.took.bin.mono V4
 ·unfold ltuS;exact(h.took.aI.aI.two).mono V4
 ·exact h.took.div.mono V4
 ·exact h.took.memory.mono V4
 ·exact h.took.oR.mono V4
 ·unfold vW;exact(h.took.aI.aI.aV.aV.add).mono V4
 exact h.took.took.took.constant.mono V4
theorem qZ:(aN s b m).blocks.length=m.blocks.length:=by
 unfold aN;simp only;repeat' split
 all_goals simp[MH,ltuS,Nk,GB,LK,vW,qm,dW,ed,pL,sC,mC]
end
end Go.Lft
