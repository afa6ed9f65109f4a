/- A part of the proof: Ok, Ol, Rb, Ta, Rc, Rd, Rf, Rg, Rh, Tb, Tc, Td, Th, Ma, Mb, Mc, Md, Me, Mf, Mg, Mh, Mi. -/
import Derived.Test.YtmhnaeecolpfkaaGreatDoorZCTmp3
set_option linter.unusedSimpArgs false
set_option linter.unusedVariables false
open Go.Value renaming int->Vz,slice->VE,pointer->VF
open Go.IntKind renaming i64->VA,i32->VB
open Option renaming some->VC,none->VD
open Bool renaming true->VG,false->VH
open Go.Proofs.Tryz renaming prog->VI
open Go.Proofs
namespace Go.Lft
variable{po po2:OP}
theorem Cx.dT{V W:View}{h0 h:Heap}{o:Own}{k:Key}{P:Program}{ty:TypeId}{us:List (Nat × Value)}{n i:Nat}{e t:TypeId}{B:Nat}{l:List Value}{x y:Operand}{u:Value}{K:Value->Heap->Prop}(c:Cx V h0 W h o)(hk:o k=bx e B (RawN.mk (n:=n) l))(hi:i<=n)(hsz:da P t=VC 1)(hx:asg us x = VF (VC ⟨B,i,VD⟩))(hy:asg us y=u)(hu:u.oneCell'=VG)
  (hK : ∀h',Cx V h0 W h' (o.upd k (bx e B (RawN.mk (n:=n) (l.set i u))))->K undef h'):@step po P (.store t x y) ty us h K:=
 c.own.dT hk hi hsz hx hy hu λh2 w hX=>hK _ ⟨w,c.old,hX _ c.le0 (View.bS Vw (c.new k _ B hk rfl)),λj i b hj hb=>by
  by_cases e:j=k
  ·subst e;rw[Own.an]at hj;cases hj;exact c.new _ _ b hk hb
  rw[Own.aB e]at hj;exact c.new j i b hj hb⟩
end Go.Lft
namespace Go.Lft
structure zp(t:db):Prop where
 one:t.kind=2\/t.kind=3->1<=t.args.length
 most:t.args.length<=10000
 to:t.to.length<=10000
theorem Eh{H:View}{x0 x1 x2 va x4:Value}{i:InsD}(h:Rd H (.agg #[x0,x1,x2,va,x4]) i):SlRd H va i.args:=by unfold Rd at h;rw[if_pos (show Rep.agg InsD=VG from rfl)]at h;obtain⟨cs,e0,c1,_,e,h1,c2,_,rfl,h2,c3,_,rfl,h3,c4,c5,rfl,h4,h5⟩:=h;cases e0;rw[h1.1,h2.1,h3.1,h5.1]at e;obtain⟨v,rfl⟩:=wX h4;simp at e;obtain⟨-,-,-,rfl,-⟩:=e;exact qZ.1 h4
set_option maxHeartbeats 4000000 in
theorem O6{s:cG}{v:Value}{pat:Int}{h:Heap}{W:View}(hW:W.le (vw h))(hv:Rd W v s)(hok:np s)(htk:zp s.t)(hp:I64 pat) :
    ay VI 138 #[v,Vz VA pat] h (λu h'=>cu W h h' u (gz s.f s.t pat)):=by
  refine ao (args:=[v,Vz VA pat]) follows Tryz.func138 E.fI Vu λK hK=>?_
  dsimp only[L.fI,lkF,lkG]
  have c0:=Cx.start hW
  refine aa λz hz=>?_
  simp
  refine c0.ef rfl hv λS h1 W1 hW1 c1 at1 hle1=>?_
  refine c1.cV (k:=(0,0)) (n:=7) (z:=.agg fitZ.toArray) rfl V0 rfl V6 Vs λR h2 hle2 c2=>?_
  subst hz
  refine aa λz hz=>?_
  obtain⟨ut,hut,rut⟩:=(at1.part cG.RQ).ldN rfl (N:=4) rfl
  have hut:Un.ev (vw h2) (.bI 4) (VF (VC ⟨S,7,VD⟩))=VC ut:=by simpa using hut _ c2.wle
  simp[hut]
  refine c2.eu (α:=db) rut (n:=4) (z:=zz9) V0 rfl rfl V0 V8 V8 λTb h3 W3 hW3 c3 at3 hle3=>?_
  have t0:=(at3.part db.Cg).int
  obtain⟨va,t1,hva⟩:=(at3.part db.e9).sl
  obtain⟨vt,t2,hvt⟩:=(at3.part db.Cl).sl
  have t3:=(at3.part db.lL).i32
  have ri:=(at3.part db.lL).sP
  have t0:aq W3 ⟨Tb,0,VD⟩=VC (Vz VA s.t.kind):=by simpa using t0
  have t1:aq W3 ⟨Tb,1,VD⟩=VC va:=by simpa using t1
  have t2:aq W3 ⟨Tb,2,VD⟩=VC vt:=by simpa using t2
  have t3:aq W3 ⟨Tb,3,VD⟩=VC (Vz VB s.t.imm.v):=by simpa using t3
  have most:=htk.most
  have mosto:=htk.to
  subst hz
  refine aa λz hz=>?_
  simp[ae c3.wle t2]
  refine ah V0 (eS c3.wle hvt V4) ?_
  rintro uto h4 ⟨hle4,hto⟩
  have c4:=c3.ext hle4
  have hW4:=c3.up (h':=h4)
  have hto0:=hto
  obtain⟨b0,k0,rfl,-⟩:=hto0
  generalize grow W3 h3 h4=W4 at *
  have s0:=ae hW4 t0
  have s1:=ae hW4 t1
  have s3:=ae hW4 t3
  have hva4:=hva.mono hW4
  have z0:=ae c4.wle s0
  have z1:=ae c4.wle s1
  have z3:=ae c4.wle s3
  clear t0 t1 t2 t3 hut hle1 hle2 hle3 hle4
  subst hz
  refine aa λz hz=>?_
  simp only[aX]
  refine aa λy hy=>?_
  by_cases p1:pat=0/\s.t.kind=1
  · have he:gz s.f s.t pat=VC ⟨[],[],[],⟨1,0,0,s.t.to,⟨0⟩⟩⟩:=by unfold gz;rw[if_pos p1]
    simp[p1.1,z0,p1.2]
    subst hy
    simp
    refine aA (t:=T.eX) (z:=.agg #[Vz VA 0,Vz VA 0,Vz VA 0,VE VD 0 0,Vz VB 0]) (places:=zpa) (vs:=[(0,Vz VA 1),(3,.slice b0 s.t.to.length k0)]) (cs:=#[Vz VA 1,Vz VA 0,Vz VA 0,.slice b0 s.t.to.length k0,Vz VB 0]) V0 V0 V5 (by simp[Instr.fill,Value.cells]) ?_
    refine aA (t:=T.bf) (z:=.agg fitZ.toArray) (places:=zpc) (vs:=[(3,.agg #[Vz VA 1,Vz VA 0,Vz VA 0,.slice b0 s.t.to.length k0,Vz VB 0])]) (cs:=#[VE VD 0 0,VE VD 0 0,VE VD 0 0,Vz VA 1,Vz VA 0,Vz VA 0,.slice b0 s.t.to.length k0,Vz VB 0]) V0 V0 V5 (by simp[Instr.fill,Value.cells]) ?_
    have hr:Rd W4 (.agg #[VE VD 0 0,VE VD 0 0,VE VD 0 0,Vz VA 1,Vz VA 0,Vz VA 0,.slice b0 s.t.to.length k0,Vz VB 0]) (⟨[],[],[],⟨1,0,0,s.t.to,⟨0⟩⟩⟩:FitD):=nY (ce:=[_,_,_,_,_]) aL aL aL (ml (imm:=⟨0⟩) V5 V5 hto)
    refine c4.bJ (k:=(0,0)) (n:=7) (l:=fitZ) V7 hr rfl rfl V0 rfl rfl λh9 l9 hl9 c9=>?_
    have hall:=c9.all (k:=(0,0)) (n:=7) (l:=l9) (B:=R) (e:=T.bf) V7
    simp at hall
    simp[hall]
    exact hK _ _ (cu.of c9 (hl9▸hr) (by rw[he];rfl) λy e=>by rw[he]at e;cases e;rfl)
  refine gP (λρ h5=>h5=h4/\ρ=[(0,v),(1,Vz VA pat),(2,ptr S),(4,ptr R),(5,.bool VH),(6,ptr Tb),(7,.slice b0 s.t.to.length k0),(13,ut),(16,.slice b0 s.t.to.length k0),(17,.bool VH)]) ?_ ?_
  · intro K2 hK2
    by_cases e0:pat=0
    · have e2:¬s.t.kind=1:=λe=>p1 ⟨e0,e⟩
      simp[e0,z0,e2]
      exact hK2 _ _ ⟨rfl,by rw[e0]⟩
    · simp[e0,z0]
      exact hK2 _ _ ⟨rfl,rfl⟩
  rintro _ h4 ⟨rfl,rfl⟩
  subst hy
  refine bg V5 ?_
  refine aa λy hy=>?_
  by_cases p2:pat=0/\s.t.kind=4
  · have he:gz s.f s.t pat=VC ⟨s.t.args,[],[],⟨7,if s.t.args=[] then -1 else nth s.t.args 0,0,[],⟨0⟩⟩⟩:=by unfold gz;rw[if_neg p1,if_pos p2]
    simp[p2.1,z0,p2.2]
    subst hy
    refine aV V5 ?_
    refine aa λy hy=>?_
    simp
    refine aA (t:=T.eX) (z:=.agg #[Vz VA 0,Vz VA 0,Vz VA 0,VE VD 0 0,Vz VB 0]) (places:=zpa) (vs:=[(0,Vz VA 7),(1,Vz VA (-1))]) (cs:=#[Vz VA 7,Vz VA (-1),Vz VA 0,VE VD 0 0,Vz VB 0]) V0 V0 V5 (by simp[Instr.fill,Value.cells]) ?_
    refine c4.cV (k:=(0,1)) (n:=4) (z:=.agg #[Vz VA 0,Vz VA 0,Vz VA 0,VE VD 0 0,Vz VB 0]) V7 V0 rfl V6 Vs λEb h5 hle5 c5=>?_
    refine c5.uq (k:=(0,1)) (n:=4) (l:=[Vz VA 0,Vz VA 0,Vz VA 0,VE VD 0 0,Vz VB 0]) (l':=[Vz VA 7,Vz VA (-1),Vz VA 0,VE VD 0 0,Vz VB 0]) V7 V0 rfl rfl rfl Vr λh6 c6=>?_
    subst hy
    have y1:=ae c6.wle s1
    have hlen:=hva4.len (K:=vw h6)
    generalize hae:(if s.t.args=[] then(-1:Int) else nth s.t.args 0)=a at *
    refine aa λy hy=>?_
    refine gP (λρ h7=>∃o6,Cx W h W4 h7 o6/\o6 (0,0)=bx T.bf R (RawN.mk (n:=7) fitZ)/\o6 (0,1)=bx T.eX Eb (RawN.mk (n:=4) [Vz VA 7,Vz VA a,Vz VA 0,VE VD 0 0,Vz VB 0])/\(-9223372036854775808<=a/\a<=9223372036854775807)/\
      ρ=[(0,v),(1,Vz VA 0),(2,ptr S),(4,ptr R),(5,.bool VH),(6,ptr Tb),(7,.slice b0 s.t.to.length k0),(8,ptr Eb),(13,ut),(16,.slice b0 s.t.to.length k0),(36,.agg #[Vz VA 7,Vz VA (-1),Vz VA 0,VE VD 0 0,Vz VB 0])]) ?_ ?_
    · intro K2 hK2
      by_cases ea:s.t.args=[]
      · have el:(s.t.args.length:Int)=0:=by rw[ea];rfl
        rw[if_pos ea]at hae
        subst hae
        simp[y1,hlen,ea]
        exact hK2 _ _ ⟨_,c6,by rfl,by rfl,by decide,rfl⟩
      · have el:=List.length_pos_iff.2 ea
        rw[if_neg ea]at hae
        have a0:=hva4.rng (i:=0) el
        have x0:=hva4.idx1 (k:=.i64) (i:=0) rfl V6 V4
        have d0:=hva4.int c6.wle (i:=0) el
        simp[y1,hlen,el,x0,d0]
        refine c6.dT (k:=(0,1)) (n:=4) (i:=1) (l:=[Vz VA 7,Vz VA (-1),Vz VA 0,VE VD 0 0,Vz VB 0]) V7 V6 V0 rfl rfl rfl λh7 c7=>?_
        exact hK2 _ _ ⟨_,c7,by rfl,by rw[<-hae];rfl,by rw[<-hae];exact a0,rfl⟩
    · rintro _ h7 ⟨o6,c7,k00,k01,ar,rfl⟩
      subst hy
      refine aa λy hy=>?_
      refine aN (vw h7) Vw ?_
      have hall7:=c7.all k01
      simp at hall7
      simp[ae c7.wle s1,hall7]
      refine ah V0 (eS c7.wle hva4 V4) ?_
      rintro ucl h8 ⟨hle8,hcl⟩
      refine⟨hle8,?_⟩
      have c8:=c7.ext hle8
      have hW8:=c7.up (h':=h8)
      have hcl0:=hcl
      obtain⟨b1,k1,rfl,-⟩:=hcl0
      refine aA (t:=T.bf) (z:=.agg fitZ.toArray) (places:=zpc) (vs:=[(0,.slice b1 s.t.args.length k1),(3,.agg #[Vz VA 7,Vz VA a,Vz VA 0,VE VD 0 0,Vz VB 0])]) (cs:=#[.slice b1 s.t.args.length k1,VE VD 0 0,VE VD 0 0,Vz VA 7,Vz VA a,Vz VA 0,VE VD 0 0,Vz VB 0]) V0 V0 V5 (by simp[Instr.fill,Value.cells]) ?_
      have hr:Rd (grow W4 h7 h8) (.agg #[.slice b1 s.t.args.length k1,VE VD 0 0,VE VD 0 0,Vz VA 7,Vz VA a,Vz VA 0,VE VD 0 0,Vz VB 0]) (⟨s.t.args,[],[],⟨7,a,0,[],⟨0⟩⟩⟩:FitD):=nY (ce:=[_,_,_,_,_]) hcl aL aL (ml (imm:=⟨0⟩) Vt V5 aL)
      refine c8.bJ (k:=(0,0)) (n:=7) (l:=fitZ) k00 hr rfl rfl V0 rfl rfl λh9 l9 hl9 c9=>?_
      subst hy
      have hall:=c9.all (k:=(0,0)) (n:=7) (l:=l9) (B:=R) (e:=T.bf) Own.an
      simp at hall
      simp[hall]
      exact hK _ _ (cu.of c9 (hl9▸hr) (by rw[he];rfl) λy e=>by rw[he]at e;cases e;rfl)
  refine gP (λρ h5=>h5=h4/\ρ=[(0,v),(1,Vz VA pat),(2,ptr S),(4,ptr R),(5,.bool VH),(6,ptr Tb),(7,.slice b0 s.t.to.length k0),(13,ut),(16,.slice b0 s.t.to.length k0),(28,.bool VH)]) ?_ ?_
  · intro K2 hK2
    by_cases e0:pat=0
    · have e2:¬s.t.kind=4:=λe=>p2 ⟨e0,e⟩
      simp[e0,z0,e2]
      exact hK2 _ _ ⟨rfl,by rw[e0]⟩
    · simp[e0,z0]
      exact hK2 _ _ ⟨rfl,rfl⟩
  rintro _ h4 ⟨rfl,rfl⟩
  subst hy
  refine bg V5 ?_
  refine aa λy hy=>?_
  by_cases p3:pat=0/\s.t.kind=5
  · have he:gz s.f s.t pat=VC ⟨[],[],[],⟨8,0,0,[],s.t.imm⟩⟩:=by unfold gz;rw[if_neg p1,if_neg p2,if_pos p3]
    simp[p3.1,z0,p3.2]
    subst hy
    simp[z3]
    refine aA (t:=T.eX) (z:=.agg #[Vz VA 0,Vz VA 0,Vz VA 0,VE VD 0 0,Vz VB 0]) (places:=zpa) (vs:=[(0,Vz VA 8),(4,Vz VB s.t.imm.v)]) (cs:=#[Vz VA 8,Vz VA 0,Vz VA 0,VE VD 0 0,Vz VB s.t.imm.v]) V0 V0 V5 (by simp[Instr.fill,Value.cells]) ?_
    refine aA (t:=T.bf) (z:=.agg fitZ.toArray) (places:=zpc) (vs:=[(3,.agg #[Vz VA 8,Vz VA 0,Vz VA 0,VE VD 0 0,Vz VB s.t.imm.v])]) (cs:=#[VE VD 0 0,VE VD 0 0,VE VD 0 0,Vz VA 8,Vz VA 0,Vz VA 0,VE VD 0 0,Vz VB s.t.imm.v]) V0 V0 V5 (by simp[Instr.fill,Value.cells]) ?_
    have hr:Rd W4 (.agg #[VE VD 0 0,VE VD 0 0,VE VD 0 0,Vz VA 8,Vz VA 0,Vz VA 0,VE VD 0 0,Vz VB s.t.imm.v]) (⟨[],[],[],⟨8,0,0,[],s.t.imm⟩⟩:FitD):=nY (ce:=[_,_,_,_,_]) aL aL aL (ml V5 ri aL)
    refine c4.bJ (k:=(0,0)) (n:=7) (l:=fitZ) V7 hr rfl rfl V0 rfl rfl λh9 l9 hl9 c9=>?_
    have hall:=c9.all (k:=(0,0)) (n:=7) (l:=l9) (B:=R) (e:=T.bf) V7
    simp at hall
    simp[hall]
    exact hK _ _ (cu.of c9 (hl9▸hr) (by rw[he];rfl) λy e=>by rw[he]at e;cases e;rfl)
  refine gP (λρ h5=>h5=h4/\ρ=[(0,v),(1,Vz VA pat),(2,ptr S),(4,ptr R),(5,.bool VH),(6,ptr Tb),(7,.slice b0 s.t.to.length k0),(13,ut),(16,.slice b0 s.t.to.length k0),(51,.bool VH)]) ?_ ?_
  · intro K2 hK2
    by_cases e0:pat=0
    · have e2:¬s.t.kind=5:=λe=>p3 ⟨e0,e⟩
      simp[e0,z0,e2]
      exact hK2 _ _ ⟨rfl,by rw[e0]⟩
    · simp[e0,z0]
      exact hK2 _ _ ⟨rfl,rfl⟩
  rintro _ h4 ⟨rfl,rfl⟩
  subst hy
  refine bg V5 ?_
  refine aa λy hy=>?_
  by_cases p4:pat=33/\s.t.kind=2
  · have he:gz s.f s.t pat=VC ⟨s.t.args,[],[],⟨2,nth s.t.args 0,0,s.t.to,⟨0⟩⟩⟩:=by unfold gz;rw[if_neg p1,if_neg p2,if_neg p3,if_pos p4]
    have al:=htk.one V4
    have a0:=hva4.rng (i:=0) al
    have x0:=hva4.idx1 (k:=.i64) (i:=0) rfl V6 V4
    have d0:=hva4.int (View.le_refl W4) (i:=0) al
    simp[p4.1,z0,p4.2]
    subst hy
    refine aV V5 ?_
    refine aa λy hy=>?_
    refine aN W4 c4.wle ?_
    simp[s1,x0,d0]
    refine⟨?_,?_⟩
    · refine ah V0 (eS c4.wle hva4 V4) ?_
      rintro ucl h5 ⟨hle5,hcl⟩
      have c5:=c4.ext hle5
      have hW5:=c4.up (h':=h5)
      refine⟨Vx hW5 c5.wle,?_⟩
      have hcl0:=hcl
      obtain⟨b1,k1,rfl,-⟩:=hcl0
      generalize grow W4 h4 h5=W5 at *
      refine aA (t:=T.eX) (z:=.agg #[Vz VA 0,Vz VA 0,Vz VA 0,VE VD 0 0,Vz VB 0]) (places:=zpa) (vs:=[(0,Vz VA 2),(1,Vz VA (nth s.t.args 0)),(3,.slice b0 s.t.to.length k0)]) (cs:=#[Vz VA 2,Vz VA (nth s.t.args 0),Vz VA 0,.slice b0 s.t.to.length k0,Vz VB 0]) V0 V0 V5 (by simp[Instr.fill,Value.cells]) ?_
      refine⟨Vx hW5 c5.wle,?_⟩
      refine aA (t:=T.bf) (z:=.agg fitZ.toArray) (places:=zpc) (vs:=[(0,.slice b1 s.t.args.length k1),(3,.agg #[Vz VA 2,Vz VA (nth s.t.args 0),Vz VA 0,.slice b0 s.t.to.length k0,Vz VB 0])]) (cs:=#[.slice b1 s.t.args.length k1,VE VD 0 0,VE VD 0 0,Vz VA 2,Vz VA (nth s.t.args 0),Vz VA 0,.slice b0 s.t.to.length k0,Vz VB 0]) V0 V0 V5 (by simp[Instr.fill,Value.cells]) ?_
      have hr:Rd W5 (.agg #[.slice b1 s.t.args.length k1,VE VD 0 0,VE VD 0 0,Vz VA 2,Vz VA (nth s.t.args 0),Vz VA 0,.slice b0 s.t.to.length k0,Vz VB 0]) (⟨s.t.args,[],[],⟨2,nth s.t.args 0,0,s.t.to,⟨0⟩⟩⟩:FitD):=nY (ce:=[_,_,_,_,_]) hcl aL aL (ml (imm:=⟨0⟩) Vt V5 (hto.mono hW5))
      refine c5.bJ (k:=(0,0)) (n:=7) (l:=fitZ) V7 hr rfl rfl V0 rfl rfl λh9 l9 hl9 c9=>?_
      subst hy
      have hall:=c9.all (k:=(0,0)) (n:=7) (l:=l9) (B:=R) (e:=T.bf) V7
      simp at hall
      simp[hall]
      exact hK _ _ (cu.of c9 (hl9▸hr) (by rw[he];rfl) λy e=>by rw[he]at e;cases e;rfl)
    · refine aA (t:=T.eX) (z:=.agg #[Vz VA 0,Vz VA 0,Vz VA 0,VE VD 0 0,Vz VB 0]) (places:=zpa) (vs:=[(0,Vz VA 2),(1,Vz VA (nth s.t.args 0)),(3,.slice b0 s.t.to.length k0)]) (cs:=#[Vz VA 2,Vz VA (nth s.t.args 0),Vz VA 0,.slice b0 s.t.to.length k0,Vz VB 0]) V0 V0 V5 (by simp[Instr.fill,Value.cells]) ?_
      refine⟨c4.wle,?_⟩
      refine ah V0 (eS c4.wle hva4 V4) ?_
      rintro ucl h5 ⟨hle5,hcl⟩
      have c5:=c4.ext hle5
      have hW5:=c4.up (h':=h5)
      refine⟨Vx hW5 c5.wle,?_⟩
      have hcl0:=hcl
      obtain⟨b1,k1,rfl,-⟩:=hcl0
      generalize grow W4 h4 h5=W5 at *
      refine aA (t:=T.bf) (z:=.agg fitZ.toArray) (places:=zpc) (vs:=[(0,.slice b1 s.t.args.length k1),(3,.agg #[Vz VA 2,Vz VA (nth s.t.args 0),Vz VA 0,.slice b0 s.t.to.length k0,Vz VB 0])]) (cs:=#[.slice b1 s.t.args.length k1,VE VD 0 0,VE VD 0 0,Vz VA 2,Vz VA (nth s.t.args 0),Vz VA 0,.slice b0 s.t.to.length k0,Vz VB 0]) V0 V0 V5 (by simp[Instr.fill,Value.cells]) ?_
      have hr:Rd W5 (.agg #[.slice b1 s.t.args.length k1,VE VD 0 0,VE VD 0 0,Vz VA 2,Vz VA (nth s.t.args 0),Vz VA 0,.slice b0 s.t.to.length k0,Vz VB 0]) (⟨s.t.args,[],[],⟨2,nth s.t.args 0,0,s.t.to,⟨0⟩⟩⟩:FitD):=nY (ce:=[_,_,_,_,_]) hcl aL aL (ml (imm:=⟨0⟩) Vt V5 (hto.mono hW5))
      refine c5.bJ (k:=(0,0)) (n:=7) (l:=fitZ) V7 hr rfl rfl V0 rfl rfl λh9 l9 hl9 c9=>?_
      subst hy
      have hall:=c9.all (k:=(0,0)) (n:=7) (l:=l9) (B:=R) (e:=T.bf) V7
      simp at hall
      simp[hall]
      exact hK _ _ (cu.of c9 (hl9▸hr) (by rw[he];rfl) λy e=>by rw[he]at e;cases e;rfl)
  refine gP (λρ h5=>h5=h4/\ρ=[(0,v),(1,Vz VA pat),(2,ptr S),(4,ptr R),(5,.bool VH),(6,ptr Tb),(7,.slice b0 s.t.to.length k0),(13,ut),(16,.slice b0 s.t.to.length k0),(63,.bool VH)]) ?_ ?_
  · intro K2 hK2
    by_cases e0:pat=33
    · have e2:¬s.t.kind=2:=λe=>p4 ⟨e0,e⟩
      simp[e0,z0,e2]
      exact hK2 _ _ ⟨rfl,by rw[e0]⟩
    · simp[e0,z0]
      exact hK2 _ _ ⟨rfl,rfl⟩
  rintro _ h4 ⟨rfl,rfl⟩
  subst hy
  refine bg V5 ?_
  refine aa λy hy=>?_
  by_cases p5:(34<=pat/\pat<=36)/\s.t.kind=2
  · have w5:inR pat 34 36=true:=by simp[inR,p5.1.1,p5.1.2]
    have al:=htk.one V4
    have a0:=hva4.rng (i:=0) al
    have x0:=hva4.idx1 (k:=.i64) (i:=0) rfl V6 V4
    simp
    refine ah V0 kE ?_
    rintro _ h4 ⟨rfl,rfl⟩
    simp[w5,z0,p5.2]
    subst hy
    refine aV V5 ?_
    refine aa λy hy=>?_
    simp
    subst hy
    refine aa λy hy=>?_
    refine aN (vw h4) Vw ?_
    obtain⟨us,hus,rus⟩:=at1.ldN rfl (N:=13) rfl
    have hus:=hus _ (Vx hW3 (Vx hW4 c4.wle))
    have rus:=rus.mono (Vx hW3 hW4)
    have d0:=hva4.int c4.wle (i:=0) al
    have ek:(11:Int)+(pat-34)=pat-23:=by omega
    have ew0:IntKind.i64.wrap (pat-34)=pat-34:=bj V4 V4
    have ew:IntKind.i64.wrap (11+(pat-34))=pat-23:=by rw[bj V4 V4];omega
    have ew2:IntKind.i64.wrap (3+(pat-34))=pat-31:=by rw[bj V4 V4];omega
    have hE:gz s.f s.t pat=if(aK s.f (nth s.t.args 0) (pat-23)).2 then VC ⟨(aK s.f (nth s.t.args 0) (pat-23)).1.args,s.t.args,[],⟨pat-31,nth (aK s.f (nth s.t.args 0) (pat-23)).1.args 0,nth (aK s.f (nth s.t.args 0) (pat-23)).1.args 1,s.t.to,⟨0⟩⟩⟩ else none:=by
      unfold gz;rw[if_neg p1,if_neg p2,if_neg p3,if_neg p4,if_pos p5]
    have hfm:=fk (f:=s.f) (v:=nth s.t.args 0) (op:=pat-23)
    have hfo:=pI (s:=s) (v:=us) (x:=nth s.t.args 0) (op:=pat-23) (W:=W4) (h:=h4)
    have rng : ∀{hx:Heap} {Wx:View},Cx W h Wx hx (Own.upd (λ_=>VD) (0,0) (bx T.bf R (RawN.mk (n:=7) fitZ)))->True:=λ_=>trivial
    generalize hm:(aK s.f (nth s.t.args 0) (pat-23)).1=m at *
    generalize hbb:(aK s.f (nth s.t.args 0) (pat-23)).2=b at *
    have c:=c4
    have hrefl:(vw h4).le (vw h4):=View.le_refl _
    repeat' (first
      | refine ju ?_ ?_
      | (refine dg λx hx=>?_
         simp[s1,z1,x0,d0,hus,ew0,ew]
         first
         | refine c.cV (k:=(0,2)) (n:=4) (z:=.agg #[Vz VA 0,Vz VA 0,Vz VA 0,VE VD 0 0,Vz VB 0]) V7 V0 rfl V6 Vs λBi h hle c=>?_
         | (refine ah V0 (pI c.wle rus hok.sm a0) ?_
            rw[hm,hbb]
            rintro _ h ⟨hle,vm,rfl,hvm⟩
            have hW:=c.up (h':=h)
            have c:=c.ext hle)
         | refine c.bJ (k:=(0,2)) (n:=4) (l:=[Vz VA 0,Vz VA 0,Vz VA 0,VE VD 0 0,Vz VB 0]) V7 (hvm.mono Vv) rfl rfl V0 rfl rfl λh l10 hl10 c=>?_
         try refine⟨Vv,?_⟩
         subst hx))
    all_goals
      simp
      subst hy
      have hvm0:=hvm
      obtain⟨a3,m3,k3,rfl⟩:=Ac hvm0
      have hl10:=hl10
      have e10:l10=[Vz VA m.op,Vz VA m.dst,Vz VA m.two,.slice a3 m3 k3,Vz VB m.imm.v]:=by
        simp only[Value.agg.injEq]at hl10
        have:=congrArg Array.toList hl10
        simpa using this.symm
      subst e10
      have y10:=c.own.raw (k:=(0,2)) (n:=4) (l:=[Vz VA m.op,Vz VA m.dst,Vz VA m.two,.slice a3 m3 k3,Vz VB m.imm.v]) (B:=Bi) (e:=T.fj) V7 (i:=3) V6
      simp at y10
      have hma:=Eh hvm
      cases b with
      | false=>
        have he:gz s.f s.t pat=none:=by rw[hE];rfl
        refine aa λy hy=>?_
        simp
        refine aA (z:=.agg fitZ.toArray) (places:=zpc) (vs:=[]) (cs:=fitZ.toArray) V0 V0 V5 V0 ?_
        refine c.bJ (k:=(0,0)) (n:=7) (l:=fitZ) V7 gD rfl rfl V0 rfl rfl λh9 l9 hl9 c9=>?_
        have hall:=c9.all (k:=(0,0)) (n:=7) (l:=l9) (B:=R) (e:=T.bf) V7
        simp at hall
        simp[hall]
        exact hK _ _ (cu.of c9 (hl9▸gD) (by rw[he];rfl) λy e=>by rw[he]at e;cases e)
      | true=>
        have he:gz s.f s.t pat=VC ⟨m.args,s.t.args,[],⟨pat-31,nth m.args 0,nth m.args 1,s.t.to,⟨0⟩⟩⟩:=by rw[hE];rfl
        obtain⟨mm1,mm2,-⟩:=hfm rfl
        have hal2:=(hok.all _ mm1).two V4
        have hmost:=(hok.all _ mm1).most
        have r0:=hma.rng (i:=0) V4
        have r1:=hma.rng (i:=1) V4
        have x2':=hma.idx1 (k:=.i64) (i:=0) rfl V6 V4
        have x3':=hma.idx1 (k:=.i64) (i:=1) rfl V6 V4
        refine aa λy hy=>?_
        simp
        subst hy
        refine aa λy hy=>?_
        refine aN (vw h) Vw ?_
        have d2':=hma.int (Vx Vv c.wle) (i:=0) V4
        have d3':=hma.int (Vx Vv c.wle) (i:=1) V4
        have s1h:=ae (Vx Vv c.wle) s1
        have d0h:=hva4.int (Vx Vv c.wle) (i:=0) al
        have hva5:=hva4.mono Vv
        have hto5:=hto.mono Vv
        have hma5:=hma.mono Vv
        have hH:(vw h).le (vw h):=View.le_refl _
        have hr : ∀{X:View} {bA bB:Option Addr} {kA kB:Nat},SlRd X (.slice bA m.args.length kA) m.args->SlRd X (.slice bB s.t.args.length kB) s.t.args->SlRd X (.slice b0 s.t.to.length k0) s.t.to->Rd X (.agg #[.slice bA m.args.length kA,.slice bB s.t.args.length kB,VE VD 0 0,Vz VA (pat-31),Vz VA (nth m.args 0),Vz VA (nth m.args 1),.slice b0 s.t.to.length k0,Vz VB 0]) (⟨m.args,s.t.args,[],⟨pat-31,nth m.args 0,nth m.args 1,s.t.to,⟨0⟩⟩⟩:FitD):=λq1 q2 q3=>nY (ce:=[_,_,_,_,_]) q1 q2 aL (ml (imm:=⟨0⟩) Vt V5 q3)
        repeat' (first
          | refine ju ?_ ?_
          | (refine dg λx hx=>?_
             simp[y10,s1h,x2',x3',d2',d3',ew2]
             first
             | refine aA (t:=T.eX) (z:=.agg #[Vz VA 0,Vz VA 0,Vz VA 0,VE VD 0 0,Vz VB 0]) (places:=zpa) (vs:=[(0,Vz VA (pat-31)),(1,Vz VA (nth m.args 0)),(2,Vz VA (nth m.args 1)),(3,.slice b0 s.t.to.length k0)]) (cs:=#[Vz VA (pat-31),Vz VA (nth m.args 0),Vz VA (nth m.args 1),.slice b0 s.t.to.length k0,Vz VB 0]) V0 V0 V5 (by simp[Instr.fill,Value.cells]) ?_
             | (refine ah V0 (eS c.wle (hma5.mono Vv) V4) ?_
                rintro uA h ⟨hle,hcA⟩
                have hW:=c.up (h':=h)
                have c:=c.ext hle
                have hcA0:=hcA
                obtain⟨bA,kA,rfl,-⟩:=hcA0)
             | (refine ah V0 (eS c.wle (hva5.mono Vv) V4) ?_
                rintro uB h ⟨hle,hcB⟩
                have hW:=c.up (h':=h)
                have c:=c.ext hle
                have hcB0:=hcB
                obtain⟨bB,kB,rfl,-⟩:=hcB0)
             | refine aA (t:=T.bf) (z:=.agg fitZ.toArray) (places:=zpc) (vs:=[(0,.slice bA m.args.length kA),(1,.slice bB s.t.args.length kB),(3,.agg #[Vz VA (pat-31),Vz VA (nth m.args 0),Vz VA (nth m.args 1),.slice b0 s.t.to.length k0,Vz VB 0])]) (cs:=#[.slice bA m.args.length kA,.slice bB s.t.args.length kB,VE VD 0 0,Vz VA (pat-31),Vz VA (nth m.args 0),Vz VA (nth m.args 1),.slice b0 s.t.to.length k0,Vz VB 0]) V0 V0 V5 (by simp[Instr.fill,Value.cells]) ?_
             | refine c.bJ (k:=(0,0)) (n:=7) (l:=fitZ) V7 (hr (hcA.mono Vv) (hcB.mono Vv) (hto5.mono Vv)) rfl rfl V0 rfl rfl λh l9 hl9 c=>?_
             try refine⟨Vv,?_⟩
             subst hx))
        all_goals
          simp
          rw[hy]
          have hall:=c.all (k:=(0,0)) (n:=7) (l:=l9) (B:=R) (e:=T.bf) V7
          simp at hall
          simp[hall]
          exact hK _ _ (cu.of c (hl9▸hr (hcA.mono Vv) (hcB.mono Vv) (hto5.mono Vv)) (by rw[he];rfl) λy e=>by rw[he]at e;cases e;rfl)
  refine gP (λρ h5=>h5=h4/\ρ=[(0,v),(1,Vz VA pat),(2,ptr S),(4,ptr R),(5,.bool VH),(6,ptr Tb),(7,.slice b0 s.t.to.length k0),(13,ut),(16,.slice b0 s.t.to.length k0),(81,.bool VH),(83,.bool (inR pat 34 36))]) ?_ ?_
  · intro K2 hK2
    simp
    refine ah V0 kE ?_
    rintro _ h4 ⟨rfl,rfl⟩
    by_cases e0:inR pat 34 36=VG
    · have e2:¬s.t.kind=2:=λe=>p5 ⟨by simpa[inR]using e0,e⟩
      simp[e0,z0,e2]
      exact hK2 _ _ ⟨rfl,by rw[e0]⟩
    · have e0:inR pat 34 36=false:=by simpa using e0
      simp[e0]
      exact hK2 _ _ ⟨rfl,by rw[e0]⟩
  rintro _ h4 ⟨rfl,rfl⟩
  subst hy
  refine bg V5 ?_
  refine aa λy hy=>?_
  by_cases p6:pat=37/\s.t.kind=3
  · have he:gz s.f s.t pat=VC ⟨s.t.args,[],[],⟨6,nth s.t.args 0,0,s.t.to,⟨0⟩⟩⟩:=by unfold gz;rw[if_neg p1,if_neg p2,if_neg p3,if_neg p4,if_neg p5,if_pos p6]
    have al:=htk.one V4
    have a0:=hva4.rng (i:=0) al
    have x0:=hva4.idx1 (k:=.i64) (i:=0) rfl V6 V4
    have d0:=hva4.int (View.le_refl W4) (i:=0) al
    simp[p6.1,z0,p6.2]
    subst hy
    refine aV V5 ?_
    refine aa λy hy=>?_
    refine aN W4 c4.wle ?_
    simp[s1,x0,d0]
    refine⟨?_,?_⟩
    · refine ah V0 (eS c4.wle hva4 V4) ?_
      rintro ucl h5 ⟨hle5,hcl⟩
      have c5:=c4.ext hle5
      have hW5:=c4.up (h':=h5)
      refine⟨Vx hW5 c5.wle,?_⟩
      have hcl0:=hcl
      obtain⟨b1,k1,rfl,-⟩:=hcl0
      generalize grow W4 h4 h5=W5 at *
      refine aA (t:=T.eX) (z:=.agg #[Vz VA 0,Vz VA 0,Vz VA 0,VE VD 0 0,Vz VB 0]) (places:=zpa) (vs:=[(0,Vz VA 6),(1,Vz VA (nth s.t.args 0)),(3,.slice b0 s.t.to.length k0)]) (cs:=#[Vz VA 6,Vz VA (nth s.t.args 0),Vz VA 0,.slice b0 s.t.to.length k0,Vz VB 0]) V0 V0 V5 (by simp[Instr.fill,Value.cells]) ?_
      refine⟨Vx hW5 c5.wle,?_⟩
      refine aA (t:=T.bf) (z:=.agg fitZ.toArray) (places:=zpc) (vs:=[(0,.slice b1 s.t.args.length k1),(3,.agg #[Vz VA 6,Vz VA (nth s.t.args 0),Vz VA 0,.slice b0 s.t.to.length k0,Vz VB 0])]) (cs:=#[.slice b1 s.t.args.length k1,VE VD 0 0,VE VD 0 0,Vz VA 6,Vz VA (nth s.t.args 0),Vz VA 0,.slice b0 s.t.to.length k0,Vz VB 0]) V0 V0 V5 (by simp[Instr.fill,Value.cells]) ?_
      have hr:Rd W5 (.agg #[.slice b1 s.t.args.length k1,VE VD 0 0,VE VD 0 0,Vz VA 6,Vz VA (nth s.t.args 0),Vz VA 0,.slice b0 s.t.to.length k0,Vz VB 0]) (⟨s.t.args,[],[],⟨6,nth s.t.args 0,0,s.t.to,⟨0⟩⟩⟩:FitD):=nY (ce:=[_,_,_,_,_]) hcl aL aL (ml (imm:=⟨0⟩) Vt V5 (hto.mono hW5))
      refine c5.bJ (k:=(0,0)) (n:=7) (l:=fitZ) V7 hr rfl rfl V0 rfl rfl λh9 l9 hl9 c9=>?_
      subst hy
      have hall:=c9.all (k:=(0,0)) (n:=7) (l:=l9) (B:=R) (e:=T.bf) V7
      simp at hall
      simp[hall]
      exact hK _ _ (cu.of c9 (hl9▸hr) (by rw[he];rfl) λy e=>by rw[he]at e;cases e;rfl)
    · refine aA (t:=T.eX) (z:=.agg #[Vz VA 0,Vz VA 0,Vz VA 0,VE VD 0 0,Vz VB 0]) (places:=zpa) (vs:=[(0,Vz VA 6),(1,Vz VA (nth s.t.args 0)),(3,.slice b0 s.t.to.length k0)]) (cs:=#[Vz VA 6,Vz VA (nth s.t.args 0),Vz VA 0,.slice b0 s.t.to.length k0,Vz VB 0]) V0 V0 V5 (by simp[Instr.fill,Value.cells]) ?_
      refine⟨c4.wle,?_⟩
      refine ah V0 (eS c4.wle hva4 V4) ?_
      rintro ucl h5 ⟨hle5,hcl⟩
      have c5:=c4.ext hle5
      have hW5:=c4.up (h':=h5)
      refine⟨Vx hW5 c5.wle,?_⟩
      have hcl0:=hcl
      obtain⟨b1,k1,rfl,-⟩:=hcl0
      generalize grow W4 h4 h5=W5 at *
      refine aA (t:=T.bf) (z:=.agg fitZ.toArray) (places:=zpc) (vs:=[(0,.slice b1 s.t.args.length k1),(3,.agg #[Vz VA 6,Vz VA (nth s.t.args 0),Vz VA 0,.slice b0 s.t.to.length k0,Vz VB 0])]) (cs:=#[.slice b1 s.t.args.length k1,VE VD 0 0,VE VD 0 0,Vz VA 6,Vz VA (nth s.t.args 0),Vz VA 0,.slice b0 s.t.to.length k0,Vz VB 0]) V0 V0 V5 (by simp[Instr.fill,Value.cells]) ?_
      have hr:Rd W5 (.agg #[.slice b1 s.t.args.length k1,VE VD 0 0,VE VD 0 0,Vz VA 6,Vz VA (nth s.t.args 0),Vz VA 0,.slice b0 s.t.to.length k0,Vz VB 0]) (⟨s.t.args,[],[],⟨6,nth s.t.args 0,0,s.t.to,⟨0⟩⟩⟩:FitD):=nY (ce:=[_,_,_,_,_]) hcl aL aL (ml (imm:=⟨0⟩) Vt V5 (hto.mono hW5))
      refine c5.bJ (k:=(0,0)) (n:=7) (l:=fitZ) V7 hr rfl rfl V0 rfl rfl λh9 l9 hl9 c9=>?_
      subst hy
      have hall:=c9.all (k:=(0,0)) (n:=7) (l:=l9) (B:=R) (e:=T.bf) V7
      simp at hall
      simp[hall]
      exact hK _ _ (cu.of c9 (hl9▸hr) (by rw[he];rfl) λy e=>by rw[he]at e;cases e;rfl)
  refine gP (λρ h5=>h5=h4/\ρ=[(0,v),(1,Vz VA pat),(2,ptr S),(4,ptr R),(5,.bool VH),(6,ptr Tb),(7,.slice b0 s.t.to.length k0),(13,ut),(16,.slice b0 s.t.to.length k0),(83,.bool (inR pat 34 36)),(124,.bool VH)]) ?_ ?_
  · intro K2 hK2
    by_cases e0:pat=37
    · have e2:¬s.t.kind=3:=λe=>p6 ⟨e0,e⟩
      simp[e0,z0,e2]
      exact hK2 _ _ ⟨rfl,by rw[e0]⟩
    · simp[e0,z0]
      exact hK2 _ _ ⟨rfl,rfl⟩
  rintro _ h4 ⟨rfl,rfl⟩
  subst hy
  refine bg V5 ?_
  have he:gz s.f s.t pat=none:=by unfold gz;rw[if_neg p1,if_neg p2,if_neg p3,if_neg p4,if_neg p5,if_neg p6]
  simp
  subst hz
  refine aa λz hz=>?_
  simp
  refine aA (z:=.agg fitZ.toArray) (places:=zpc) (vs:=[]) (cs:=fitZ.toArray) V0 V0 V5 V0 ?_
  refine c4.bJ (k:=(0,0)) (n:=7) (l:=fitZ) V7 gD rfl rfl V0 rfl rfl λh9 l9 hl9 c9=>?_
  subst hz
  have hall:=c9.all (k:=(0,0)) (n:=7) (l:=l9) (B:=R) (e:=T.bf) V7
  simp at hall
  simp[hall]
  exact hK _ _ (cu.of c9 (hl9▸gD) (by rw[he];rfl) λy e=>by rw[he]at e;cases e)
theorem Cx.upW{V W W':View}{h0 h h':Heap}{o:Own}(c:Cx V h0 W h o)(hle:(vw h).le (vw h'))(u:Up W h W')(hW:W'.le (vw h')):Cx V h0 W' h' o:=by
 have A : ∀k i b,o k=VC i->i.v.ownBlock=VC b->W' b=none:=λk i b hk hb=>by
  have hlt:=c.own.lt hk hb;have hav:=c.own.av k i hk b hb;cases hx:W' b with
  | none=>rfl
  | some x=>rw[u.old b x hlt hx]at hav;cases hav
 exact⟨(c.own.ext' hle).Ou u.le hW A,λb x hb hx=>c.old b x hb (u.old b x (S2 hb (bL c.le0)) hx),Vx c.le0 hle,c.new⟩
theorem PL{s:cG}{v:Value}{pat:Int}{h:Heap}{W:View}(hW:W.le (vw h))(hv:Rd W v s)(hok:s.term=VH->np s)(htk:s.term=VG->np s/\zp s.t)(hM:s.i.op=15\/s.i.op=16->iu)(hp:I64 pat):
  ay VI 93 #[v,Vz VA pat] h (λu h'=>cu W h h' u (tryS s pat)):=by
 refine ao (args:=[v,Vz VA pat]) follows Tryz.func93 E.mw Vu λK hK=>?_;dsimp only[L.mw,lkF,lkG];have c0:=Cx.start hW;refine aa λz hz=>?_;simp;refine c0.ef rfl hv λS h1 W1 hW1 c1 at1 hle1=>?_;refine c1.cV (k:=(0,0)) (n:=7) (z:=.agg fitZ.toArray) rfl V0 rfl V6 Vs λR h2 hle2 c2=>?_;subst hz;have tm:=(at1.part cG.nh).bool;have tm:aq W1 ⟨S,11,VD⟩=VC (.bool s.term):=by simpa using tm
 have tm:=ae c2.wle tm;obtain⟨us,hus,rus⟩:=at1.ldN rfl (N:=13) rfl;have hus:=hus _ c2.wle;refine aa λz hz=>?_;cases ht:s.term with
 | true=>
  rw[ht]at tm;obtain⟨hk1,hk2⟩:=htk ht;have e:tryS s pat=gz s.f s.t pat:=by unfold tryS;rw[if_pos ht]
  rw[e]at hK;simp[tm,hus];refine ah V0 (O6 c2.wle rus hk1 hk2 hp) ?_;rintro _ h3 ⟨hle3,vf,x,rfl,hvf,hx⟩;have c3:=c2.ext hle3;simp;refine c3.bJ (k:=(0,0)) (n:=7) (l:=fitZ) V7 hvf rfl rfl V0 rfl rfl λh9 l9 hl9 c9=>?_;have hall:=c9.all (k:=(0,0)) (n:=7) (l:=l9) (B:=R) (e:=T.bf) V7;simp at hall;simp[hall];exact hK _ _ (cu.of c9 (hl9▸hvf) rfl hx)
 | false=>
  rw[ht]at tm;have e:tryS s pat=patS s.f s.i s.temp pat:=by unfold tryS;rw[ht];rfl
  rw[e]at hK;simp[tm];subst hz;refine aa λz hz=>?_;simp[hus];refine ah V0 (EV c2.wle rus (hok ht) ht hM) ?_;rintro _ h3 ⟨r,W3,rfl,u3,p3,hle3⟩;have c3:=Cx.upW c2 hle3 u3 p3.wle;obtain⟨g,g1,g2,g3⟩:=p3.ex;refine oM (f:=mapE id g) (z:=.nilFunc) (k:=T.int) (e:=T.gR) (d:=.int .i64) (r:=r) (u:=Vz VA pat) U.cY U.int V0 rfl rfl cM g1 ?_;simp;subst hz;refine aa λz hz=>?_;have g2p:=g2 pat;have g3p:=g3 pat;cases hg:g pat with
  | none=>
   rw[hg]at g2p;have e0:patS s.f s.i s.temp pat=none:=by unfold patS;rw[if_neg];rintro⟨a1,a2,-⟩;simp[nTo]at g2p;omega
   rw[e0]at hK;simp;refine aA (t:=T.bf) (z:=.agg fitZ.toArray) (places:=zpc) (vs:=[]) (cs:=fitZ.toArray) V0 V0 V5 V0 ?_;refine c3.bJ (k:=(0,0)) (n:=7) (l:=fitZ) V7 gD rfl rfl V0 rfl rfl λh9 l9 hl9 c9=>?_;have hall:=c9.all (k:=(0,0)) (n:=7) (l:=l9) (B:=R) (e:=T.bf) V7;simp at hall;simp[hall];exact hK _ _ (cu.of c9 (hl9▸gD) rfl λy e=>by cases e)
  | some fv=>obtain⟨fn,caps,rfl,hfn,hcall⟩:=(g3p fv hg).ex;simp;subst hz;refine aa λz hz=>?_;simp;refine bW (ops:=[]) rfl hfn (by simpa using hcall h3 W3 Vw p3.wle) ?_;rintro _ h4 ⟨hle4,vf,x,rfl,hvf,hx⟩;have c4:=c3.ext hle4;simp;refine c4.bJ (k:=(0,0)) (n:=7) (l:=fitZ) V7 hvf rfl rfl V0 rfl rfl λh9 l9 hl9 c9=>?_;subst hz;have hall:=c9.all (k:=(0,0)) (n:=7) (l:=l9) (B:=R) (e:=T.bf) V7;simp at hall;simp[hall];exact hK _ _ (cu.of c9 (hl9▸hvf) rfl hx)
abbrev RSt:=List Bool × List Int
def lf(wo:Int)(to:List Int)(k:Nat)(s:RSt):RSt:=
 if(0<=nth to k/\nth to k<s.1.length)/\nth s.1 (nth to k).toNat=VH/\nth to k≠wo then(s.1.set (nth to k).toNat VG,s.2++[nth to k]) else s
def zw(f:ak)(wo:Int)(i:Nat)(s:RSt):RSt:=up (lf wo (nth f.blocks (nth s.2 i).toNat).term.to) (nth f.blocks (nth s.2 i).toNat).term.to.length s
def rchS(f:ak)(wo:Int):Nat->Nat->RSt->RSt
 | 0,_,s=>s
 | n+1,i,s=>if i<s.2.length then rchS f wo n (i+1) (zw f wo i s) else s
def rch0(f:ak)(wo:Int):RSt:=if wo≠0/\0<f.blocks.length then((List.replicate f.blocks.length VH).set 0 VG,[0]) else(List.replicate f.blocks.length VH,[])
def fg(f:ak)(wo:Int):List Bool:=(rchS f wo (f.blocks.length+1) 0 (rch0 f wo)).1
structure ROk(n:Nat)(s:RSt):Prop where
 len:s.1.length=n
 cnt:s.2.length+dI s.1<=n
 rng : ∀x∈s.2,0<=x/\x<n
variable{wo:Int}
theorem Du{n:Nat}{to:List Int}{k:Nat}{s:RSt}(h:ROk n s):ROk n (lf wo to k s):=by
 unfold lf;split
 ·rename_i hc;have hf:=kC (t:=s.1) (i:=(nth to k).toNat) V4 hc.2.1;refine⟨by simpa using h.len,?_,λx hx=>?_⟩
  ·have:=h.cnt;simp only[Sf,Su];omega
  rcases R1.1 hx with hx | hx
  ·exact h.rng x hx
  rw[RY.1 hx,<-h.len];exact hc.1
 exact h
theorem zk{n:Nat}{to:List Int}{s:RSt}(h:ROk n s)(m:Nat):ROk n (up (lf wo to) m s):=xq (ROk n) (λk x hx=>Du hx) m s h
theorem De{f:ak}:ROk f.blocks.length (rch0 f wo):=by
 unfold rch0;have hfa:dI (List.replicate f.blocks.length VH)=f.blocks.length:=by simp[dI]
 split
 ·rename_i hc;have hf:=kC (t:=List.replicate f.blocks.length VH) (i:=0) (by simpa using hc.2) (by rw[az (by simpa using hc.2)];simp);exact⟨by simp,by simp only[Su];omega,λx hx=>by rw[RY.1 hx];omega⟩
 exact⟨by simp,by simp only[Uy];omega,λx hx=>by cases hx⟩
theorem HM{f:ak}{wo:Int} : ∀{m i:Nat} {s:RSt},ROk f.blocks.length s->ROk f.blocks.length (rchS f wo m i s)
 | 0,_,_,h=>h
 | m+1,i,s,h=>by
  rw[rchS];split
  ·exact HM (zk h _)
  exact h
theorem vV{f:ak}:(fg f wo).length=f.blocks.length:=(HM De).len
def uH(vo vq:Value)(s:RSt):Own:=λk=>if k=(0,0) then it T.bool vo s.1 else if k=(0,1) then it T.int vq s.2 else VD
theorem zx{f:ak}{v:Value}{h:Heap}(hv:Rd (vw h) v f)(hn:f.blocks.length<=1000000):
  ay VI 38 #[v,Vz VA wo] h (λu h'=>(vw h).le (vw h')/\SlRd (fresh h h') u (fg f wo)):=by
 refine ao (args:=[v,Vz VA wo]) follows Tryz.func38 E.cL Vu λK hK=>?_;dsimp only[L.cL,lkF,lkG];refine aa λz hz=>?_;simp;refine eI rfl hv λh1 _ hle1 hsz1 hat=>?_;obtain⟨_,vb,cb⟩:=fh hat;generalize h.size=B at cb;subst hz;refine aa λz hz=>?_;simp[cb.1,cb.2.len];refine oZ (α:=Bool) (W:=vw h1) (k:=.i64) (n:=f.blocks.length) (d:=false) El.qG V5 V5 rfl V4 V4 λvo h2 o2 m2 hle2 hb2=>?_;have w2:=(Owns.start (h:=h1) (View.le_refl (vw h1))).add (k:=(0,0)) rfl o2 hle2 (λb hb=>by rw[hb2]at hb;cases hb;exact RX _);subst hz;refine aa λz hz=>?_;simp;refine qQ (α:=Int) El.aZ λh3 hle3 hsz3 own3=>?_;have w3:=w2.add (k:=(0,1)) rfl (own3 _) hle3 (λb hb=>by simp only[Value.ownBlock,RW]at hb;omega);have w3:Owns (vw h1) h3 (uH vo (VE (VC ⟨h2.size,0,VD⟩) 0 0) (List.replicate f.blocks.length VH,[])):=w3.congr λq=>by
  unfold uH Own.upd;repeat' split
  all_goals first | rfl | simp_all
 generalize VE (VC ⟨h2.size,0,VD⟩) 0 0=vq at w3;subst hz;refine aa λz hz=>?_;have cc3:=ae w3.wle cb.1;have cb3:=cb.2.mono w3.wle;have fin : ∀(h4:Heap) (vq:Value) (tl:Env),Owns (vw h1) h4 (uH vo vq (rch0 f wo))->@LC.wp noPP VI z (@dR [.tmp 4] K) ([(0,v),(1,Vz VA wo),(2,ptz B),(4,VE VD 0 0),(5,vo),(6,vq)]++tl) h4:=by
  intro h4 vq tl w4;subst hz;refine aa λz hz=>?_;simp;refine js [1,2,5,6,7] (λm ρ h5=>∃(i:Nat) (s:RSt) (vq:Value),i<=f.blocks.length/\m=f.blocks.length+1-i/\ρ=[(1,Vz VA wo),(2,ptz B),(5,vo),(6,vq),(7,Vz VA i)]/\Owns (vw h1) h5 (uH vo vq s)/\ROk f.blocks.length s/\
   (rchS f wo m i s).1=fg f wo) (f.blocks.length+1) ⟨0,_,vq,by omega,rfl,by simp[aY,af],w4,De,rfl⟩ ?_;rintro m ρ h5 ⟨i,s,vq5,hi,rfl,rfl,w5,hok,hfin⟩ K2 hK2;have no:=w5.now (k:=(0,0)) (v:=vo) (l:=s.1) rfl;have nq:=w5.now (k:=(0,1)) (v:=vq5) (l:=s.2) rfl;have hcnt:=hok.cnt;by_cases hlt:i<s.2.length
  ·have hm:f.blocks.length+1-i=(f.blocks.length-i)+1:=by omega
   rw[hm,rchS,if_pos hlt]at hfin;obtain⟨r0,r1⟩:=hok.rng _ (bh hlt);have cb5:=cb.2.mono w5.wle;obtain⟨w,hw⟩:=Ci cb5 (i:=(nth s.2 i).toNat) V4;obtain⟨w',hw'⟩:=Ci cb.2 (i:=(nth s.2 i).toNat) V4;have eww:w'=w:=Option.some.inj ((ae w5.wle hw'.1).symm.trans hw.1);rw[eww]at hw';have hwb:=hw.2.bound;have hrow:zw f wo i s=up (lf wo (nth f.blocks (nth s.2 i).toNat).term.to) (nth f.blocks (nth s.2 i).toNat).term.to.length s:=rfl;rw[hrow]at hfin;generalize hto:(nth f.blocks (nth s.2 i).toNat).term.to=to at hw hw' hwb hfin;refine aa λy hy=>?_;simp(disch:=omega)[nq.len,hlt];subst hy;refine aa λy hy=>?_;refine aa λx hx=>?_;simp(disch:=omega)[ae w5.wle cb.1,cb5.idxn (N:=6) rfl,nq.idx1 rfl,nq.int Vw,hw.1];subst hx;simp;refine dy [1,2,5,6,7,8,9] (fun(q:Value) j=>[Vz VA wo,ptz B,vo,q,Vz VA i,w,Vz VA j]) (λq j h6=>Owns (vw h1) h6 (uH vo q (up (lf wo to) j s))) to.length vq5
    rfl V4 rfl w5 (λ_ _=>rfl) (λv j h4 hk m=>by simp[hw.2.len]) ?_ ?_
   ·rintro q j h6 hltj w6 K3 hK3;have hst:up (lf wo to) (j+1) s=lf wo to j (up (lf wo to) j s):=rfl;have hok6:=zk (wo:=wo) (to:=to) hok j;generalize up (lf wo to) j s=s6 at w6 hst hok6;have no6:=w6.now (k:=(0,0)) (v:=vo) (l:=s6.1) rfl;have nq6:=w6.now (k:=(0,1)) (v:=q) (l:=s6.2) rfl;have hcnt6:=hok6.cnt;have hlen6:=hok6.len;have hr6:=hw'.2.mono w6.wle;have hrng:=hw'.2.range hltj;rw[lf]at hst;by_cases c1:0<=nth to j/\nth to j<s6.1.length
    ·have c1a:=c1.1;have c1b:=c1.2;cases c2:nth s6.1 (nth to j).toNat with
     | true=>rw[if_neg (by rw[c2];simp)]at hst;simp(disch:=omega)[hr6.idx1 rfl,hr6.int Vw,no6.len,no6.idx1 rfl,no6.bool Vw,c1a,c1b,c2];exact hK3 q _ _ rfl rfl (by rw[hst];exact w6)
     | false=>
      by_cases c3:nth to j=wo
      ·rw[if_neg (by simp[c3])]at hst;rw[c3]at c1a c1b c2;simp(disch:=omega)[hr6.idx1 rfl,hr6.int Vw,no6.len,no6.idx1 rfl,no6.bool Vw,c1a,c1b,c2,c3];exact hK3 q _ _ rfl rfl (by rw[hst];exact w6)
      rw[if_pos ⟨c1,c2,c3⟩]at hst;refine aa λx hx=>?_;simp(disch:=omega)[hr6.idx1 rfl,hr6.int Vw,no6.len,no6.idx1 rfl,no6.bool Vw,c1a,c1b,c2,c3];subst hx;simp(disch:=omega)[hr6.idx1 rfl,hr6.int Vw,no6.idx1 rfl];refine w6.bJ (k:=(0,0)) (α:=Bool) (l:=s6.1) (v:=vo) (i:=(nth to j).toNat) (d:=true) rfl V0 (by simp[show Rep.n Bool=1 from rfl]) (by simp<;>rfl) V4 PE λh7 w7 hs7=>?_;have hr7:=hw'.2.mono w7.wle;simp(disch:=omega)[hr7.idx1 rfl,hr7.int Vw];refine w7.fW (k:=(0,1)) (α:=Int) (v:=q) (l:=s6.2) (d:=nth to j) rfl El.aZ (by simp<;>rfl) (sB hrng.1 hrng.2) V4 V4 V8 V8 λu q8 h8 w8 hs8=>?_;refine hK3 q8 _ _ rfl rfl ?_;rw[hst];refine w8.congr λq=>?_;unfold uH Own.upd;repeat' split
      all_goals first | rfl | simp_all
    rw[if_neg (λe=>c1 e.1)]at hst;by_cases c1a:0<=nth to j
    ·have c1b:¬nth to j<s6.1.length:=λe=>c1 ⟨c1a,e⟩;simp(disch:=omega)[hr6.idx1 rfl,hr6.int Vw,no6.len,c1a,c1b];exact hK3 q _ _ rfl rfl (by rw[hst];exact w6)
    simp(disch:=omega)[hr6.idx1 rfl,hr6.int Vw,no6.len,c1a];exact hK3 q _ _ rfl rfl (by rw[hst];exact w6)
   rintro q h6 w6;simp;subst hy;simp(disch:=omega);exact hK2 (f.blocks.length+1-(i+1)) _ _ V4 ⟨i+1,_,q,by omega,rfl,by simp[aY],w6,zk hok _,by rw[show f.blocks.length+1-(i+1)=f.blocks.length-i by omega];exact hfin⟩
  have hlt':¬(i:Int)<s.2.length:=by omega
  simp(disch:=omega)[L.cL.l1,nq.len,hlt];subst hz;simp;have hs1:s.1=fg f wo:=by
   rw[<-hfin];cases f.blocks.length+1-i with
   | zero=>rfl
   | succ m=>rw[rchS,if_neg hlt]
  have ow:=w5.get (k:=(0,0)) (v:=vo) (l:=s.1) rfl;refine hK _ _ ⟨Vx hle1 w5.wle,?_⟩;rw[<-hs1];have ow':OwnT nothing h5 T.bool vo s.1:=ow;refine ow'.fresh (λ_ _ h=>by cases h) λb hb=>?_;rw[hb2]at hb;cases hb;exact View.bS Vw V4
 by_cases c1:wo=0
 ·have hr0:rch0 f wo=(List.replicate f.blocks.length VH,[]):=by rw[rch0,if_neg (λe=>e.1 c1)]
  rw[hr0]at fin;simp[cc3,cb3.len,c1];rw[c1]at fin;exact fin _ _ _ w3
 by_cases c2:0<f.blocks.length
 ·have hr0:rch0 f wo=((List.replicate f.blocks.length VH).set 0 VG,[0]):=by rw[rch0,if_pos ⟨c1,c2⟩]
  rw[hr0]at fin;have no:=w3.now (k:=(0,0)) (v:=vo) (l:=List.replicate f.blocks.length VH) rfl;refine aa λy hy=>?_;simp(disch:=omega)[cc3,cb3.len,c1,c2];subst hy;have i0:Bn.ev (.idx 1) vo (Vz VA 0)=VC (VF (VC ((slA vo).add 0))):=no.idx1 rfl V4 (by simpa using c2);simp(disch:=omega)[i0];refine w3.bJ (k:=(0,0)) (α:=Bool) (l:=List.replicate f.blocks.length VH) (v:=vo) (i:=0) (d:=true) rfl V0 (by simp[show Rep.n Bool=1 from rfl]) (by simp<;>rfl) (by simpa using c2) PE λh4 w4 hs4=>?_;refine w4.fW (k:=(0,1)) (α:=Int) (v:=vq) (l:=[]) (d:=0) rfl El.aZ (by simp<;>rfl) (sB V4 V4) V5 V5 V8 V8 λu q5 h5 w5 hs5=>?_;refine fin _ _ _ (w5.congr λq=>?_);unfold uH Own.upd;repeat' split
  all_goals first | rfl | simp_all
 have hr0:rch0 f wo=(List.replicate f.blocks.length VH,[]):=by rw[rch0,if_neg (λe=>c2 e.2)]
 rw[hr0]at fin;simp[cc3,cb3.len,c1,c2];exact fin _ _ _ w3
theorem nD{l:List BlkD}:(ofG l).length=l.length:=by simp[ofG]
theorem qj{l:List BlkD}{a b:Int}:pZ (ofG l) a b=VG↔(0<=a/\a<l.length/\0<=b/\b<l.length)/\b∈(nth l a.toNat).term.to:=by
 rw[jx,nD];constructor
 ·rintro⟨h,hm⟩;rw[ofG,gF V4,xf]at hm;exact⟨h,hm.1⟩
 rintro⟨h,hm⟩;refine⟨h,?_⟩;rw[ofG,gF V4,xf];exact⟨hm,h.2.2.1,h.2.2.2⟩
structure Rb(f:ak)(wo:Int)(s:RSt):Prop where
 ok:ROk f.blocks.length s
 seen : ∀b:Nat,b<f.blocks.length->(nth s.1 b=VG↔(b:Int)∈s.2)
 sound : ∀x∈s.2,Re (ofG f.blocks) wo x.toNat
theorem Qn{f:ak}{a:Int}{k:Nat}{s:RSt}(h:Rb f wo s)(h0:0<=a)(h1:a<f.blocks.length)(ha:Re (ofG f.blocks) wo a.toNat)(hk:k<(nth f.blocks a.toNat).term.to.length):
  Rb f wo (lf wo (nth f.blocks a.toNat).term.to k s)/\s.2 <+: (lf wo (nth f.blocks a.toNat).term.to k s).2/\
   (0<=nth (nth f.blocks a.toNat).term.to k->nth (nth f.blocks a.toNat).term.to k<f.blocks.length->nth (nth f.blocks a.toNat).term.to k≠wo->nth (nth f.blocks a.toNat).term.to k∈(lf wo (nth f.blocks a.toNat).term.to k s).2):=by
 have hok:=Du (wo:=wo) (to:=(nth f.blocks a.toNat).term.to) (k:=k) h.ok;have hm:=bh hk;unfold lf at hok ⊢;generalize hto:(nth f.blocks a.toNat).term.to=to at hm hok ⊢;split
 ·rename_i hc;rw[if_pos hc]at hok;obtain⟨⟨c1,c2⟩,c3,c4⟩:=hc;rw[h.ok.len]at c2;have hb:((nth to k).toNat:Int)=nth to k:=SB c1;refine⟨⟨hok,λb hb=>?_,λx hx=>?_⟩,List.prefix_append _ _,λ_ _ _=>SQ _ (RY.2 rfl)⟩
  ·rw[R1,RY];by_cases he:b=(nth to k).toNat
   ·subst he;rw[bs (by rw[h.ok.len];omega),if_pos rfl];exact⟨λ_=>.inr (SB c1),λ_=>rfl⟩
   rw[bs (by rw[h.ok.len];exact hb),if_neg (λe=>he e.symm),h.seen b hb];exact⟨.inl,λe=>e.resolve_right V4⟩
  rcases R1.1 hx with hx | hx
  ·exact h.sound x hx
  rw[RY.1 hx];refine .step ha ?_ (by rw[hb];exact c4);rw[qj,hb];exact⟨⟨by omega,by omega,c1,c2⟩,by rw[Sn,hto];exact hm⟩
 rename_i hc;rw[if_neg hc]at hok;refine⟨h,Uc _,λc1 c2 c4=>?_⟩;have hb:((nth to k).toNat:Int)=nth to k:=SB c1;rw[<-hb,<-h.seen _ V4];cases e:nth s.1 (nth to k).toNat with
 | true=>rfl
 | false=>exact absurd ⟨⟨c1,by rw[h.ok.len];exact c2⟩,e,c4⟩ hc
theorem J1{f:ak}{wo a:Int}{s:RSt}(h:Rb f wo s)(h0:0<=a)(h1:a<f.blocks.length)(ha:Re (ofG f.blocks) wo a.toNat) : ∀m,m<=(nth f.blocks a.toNat).term.to.length->
  Rb f wo (up (lf wo (nth f.blocks a.toNat).term.to) m s)/\s.2 <+: (up (lf wo (nth f.blocks a.toNat).term.to) m s).2/\
   ∀k,k<m->0<=nth (nth f.blocks a.toNat).term.to k->nth (nth f.blocks a.toNat).term.to k<f.blocks.length->nth (nth f.blocks a.toNat).term.to k≠wo->nth (nth f.blocks a.toNat).term.to k∈(up (lf wo (nth f.blocks a.toNat).term.to) m s).2
 | 0,_=>⟨h,Uc _,λk hk=>by omega⟩
 | m+1,hm=>by
  obtain⟨i1,i2,i3⟩:=J1 h h0 h1 ha m V4;obtain⟨j1,j2,j3⟩:=Qn (k:=m) i1 h0 h1 ha V4;rw[up];refine⟨j1,i2.trans j2,λk hk c1 c2 c3=>?_⟩;rcases Sb k m with hlt | hge
  ·exact j2.subset (i3 k hlt c1 c2 c3)
  have:k=m:=by omega
  subst this;exact j3 c1 c2 c3
structure Rc(f:ak)(wo:Int)(i:Nat)(s:RSt):Prop where
 b:Rb f wo s
 root:wo≠0->0<f.blocks.length->(0:Int)∈s.2
 done : ∀j,j<i->j<s.2.length->∀b:Nat,pZ (ofG f.blocks) (nth s.2 j) b=VG->(b:Int)≠wo->(b:Int)∈s.2
variable{α:Type}
theorem Hc[Inhabited α]{a b:List α}(h:a <+: b){i:Nat}(hi:i<a.length):nth b i=nth a i:=by obtain⟨t,rfl⟩:=h;rw[az Vt,az hi,T5 hi]
theorem NW{f:ak}{i:Nat}{s:RSt}(h:Rc f wo i s)(hi:i<s.2.length):Rc f wo (i+1) (zw f wo i s)/\s.2 <+: (zw f wo i s).2:=by
 have hm:=bh hi;obtain⟨h0,h1⟩:=h.b.ok.rng _ hm;have hre:=h.b.sound _ hm;obtain⟨i1,i2,i3⟩:=J1 h.b h0 h1 hre _ (RX _);have he:zw f wo i s=up (lf wo (nth f.blocks (nth s.2 i).toNat).term.to) (nth f.blocks (nth s.2 i).toNat).term.to.length s:=rfl;rw[<-he]at i1 i2 i3;refine⟨⟨i1,λa b=>i2.subset (h.root a b),λj hj hjl b hb hne=>?_⟩,i2⟩;rcases Sb j i with hlt | hge
 ·rw[Hc i2 V4]at hb;exact i2.subset (h.done j hlt V4 b hb hne)
 have:j=i:=by omega
 subst this;rw[Hc i2 hi,qj]at hb;obtain⟨⟨_,_,q1,q2⟩,hmem⟩:=hb;obtain⟨k,hk,e⟩:=Sy hmem;rw[<-az hk]at e;rw[<-e];exact i3 k hk V4 V4 (by rw[e];exact hne)
theorem LQ{f:ak}{wo:Int} : ∀{m i:Nat} {s:RSt},Rc f wo i s->f.blocks.length<i+m->∃k,Rc f wo k (rchS f wo m i s)/\(rchS f wo m i s).2.length<=k
 | 0,i,s,h,hm=>⟨i,h,by have:=h.b.ok.cnt;rw[rchS];omega⟩
 | m+1,i,s,h,hm=>by
  rw[rchS];split
  ·rename_i hi;exact LQ (NW h hi).1 V4
  rename_i hi;exact⟨i,h,by omega⟩
theorem MN{f:ak}:Rc f wo 0 (rch0 f wo):=by
 have hok:=De (f:=f) (wo:=wo);unfold rch0 at hok ⊢;split
 ·rename_i hc;rw[if_pos hc]at hok;refine⟨⟨hok,λb hb=>?_,λx hx=>?_⟩,λ_ _=>RY.2 rfl,λj hj=>by omega⟩
  ·rw[bs (by simpa using hb),RY];split
   ·rename_i e;subst e;simp
   rename_i e;rw[az (by simpa using hb)];simp;omega
  rw[RY.1 hx];exact .root (by rw[nD];exact hc.2) hc.1
 rename_i hc;rw[if_neg hc]at hok;refine⟨⟨hok,λb hb=>?_,λx hx=>by cases hx⟩,λa b=>absurd ⟨a,b⟩ hc,λj hj=>by omega⟩;rw[az (by simpa using hb)];simp
variable{b:Nat}
theorem ik{f:ak}(hb:b<f.blocks.length):nth (fg f wo) b=VG↔Re (ofG f.blocks) wo b:=by
 obtain⟨k,h,hk⟩:=LQ (MN (f:=f) (wo:=wo)) (m:=f.blocks.length+1) V4;unfold fg;generalize rchS f wo (f.blocks.length+1) 0 (rch0 f wo)=s at h hk;rw[h.b.seen b hb];constructor
 ·exact λhm=>by simpa using h.b.sound _ hm
 intro hr;induction hr with
 | root h1 h2=>exact h.root h2 (by rw[<-nD];exact h1)
 | @step a b ha he hne ih=>have hm:=ih (by have:=(qj.1 he).1;omega);obtain⟨j,hj,e⟩:=Sy hm;rw[<-az hj]at e;exact h.done j V4 hj b (by rw[e];exact he) hne
instance:Rep Th:=Rep.via λd=>Cat.mk d.blk (Cat.mk d.place (Cat.mk d.mks d.tks))
theorem Th.OA:Part Th Int 0 Th.blk (λd x=>{ d with blk:=x }):=(Part.fst Part.all).via (λ_=>rfl) λ_ _=>rfl
theorem Th.Ox:Part Th (List Int) 2 Th.mks (λd x=>{ d with mks:=x }):=(Part.snd (Part.snd (Part.fst Part.all))).via (λ_=>rfl) λ_ _=>rfl
structure ThR where
 blk:Int
 place:Int
 mks:List Int
 tks:Raw
instance:Rep ThR:=Rep.via λd=>Cat.mk d.blk (Cat.mk d.place (Cat.mk d.mks d.tks))
theorem ThR.Ot:Part ThR Raw 3 ThR.tks (λd x=>{ d with tks:=x }):=(Part.snd (Part.snd (Part.snd Part.all))).via (λ_=>rfl) λ_ _=>rfl
theorem Kr{H:View}{a b:Int}{u q:Value}{m t:List Int}(ha:I64 a)(hb:I64 b)(hm:SlRd H u m)(ht:SlRd H q t):Rd H (.agg #[Vz VA a,Vz VA b,u,q]) (Th.mk a b m t):=
 ⟨_,rfl,[Vz VA a],[Vz VA b,u,q],rfl,⟨rfl,ha⟩,[Vz VA b],[u,q],rfl,⟨rfl,hb⟩,[u],[q],rfl,⟨u,rfl,hm⟩,⟨q,rfl,ht⟩⟩
theorem OW{H:View}{a b:Int}{u q:Value}{m:List Int}(ha:I64 a)(hb:I64 b)(hm:SlRd H u m)(hq:q.oneCell'=VG):Rd H (.agg #[Vz VA a,Vz VA b,u,q]) (ThR.mk a b m ⟨q⟩):=
 ⟨_,rfl,[Vz VA a],[Vz VA b,u,q],rfl,⟨rfl,ha⟩,[Vz VA b],[u,q],rfl,⟨rfl,hb⟩,[u],[q],rfl,⟨u,rfl,hm⟩,⟨rfl,hq⟩⟩
theorem Im{H:View}{cs:List Value}{d:ThR}(h:Rep.rd H cs d): ∃u,cs=[Vz VA d.blk,Vz VA d.place,u,d.tks.v]/\I64 d.blk/\I64 d.place/\SlRd H u d.mks:=by obtain⟨c1,r1,rfl,⟨rfl,h1⟩,c2,r2,rfl,⟨rfl,h2⟩,c3,r3,rfl,⟨u,rfl,h3⟩,rfl,_⟩:=h;exact⟨u,rfl,h1,h2,h3⟩
def rV(vo:Value)(l:List Th):Own:=λk=>if k=(0,0) then it T.fH vo l else VD
def yJ(vo:Value)(l:List Th)(D:Nat)(d:ThR)(q:Value)(t:List Int):Own:=λk=>if k=(0,0) then it T.fH vo l else if k=(1,0) then bx T.fH D d else if k=(1,1) then it T.int q t else VD
structure ThS(V:View)(h0:Heap)(vo:Value)(l:List Th)(W:View)(h:Heap):Prop where
 own:Owns W h (rV vo l)
 old:Old V h0 W
 le:(vw h0).le (vw h)
 av:Av (vw h0) vo
theorem ThS.ext{V:View}{h0:Heap}{vo:Value}{l:List Th}{W:View}{h h':Heap}(k:ThS V h0 vo l W h)(hle:(vw h).le (vw h')):ThS V h0 vo l (grow W h h') h':=
 ⟨k.own.ext hle,k.old.grow (bL k.le),Vx k.le hle,k.av⟩
theorem Kt{po:OP}{ty:TypeId}{us:List (Nat × Value)}{h:Heap}{K:Value->Heap->Prop}{x y z w:Operand}{a b:Int}{u q:Value}(hx:asg us x = Vz VA a)(hy:asg us y = Vz VA b)(hz:asg us z=u)(hw:asg us w=q)(hu:u.cells = #[u])(hq:q.cells = #[q])(hk:K (.agg #[Vz VA a,Vz VA b,u,q]) h):
  Lft.step VI (.build T.fH #[(0,x),(1,y),(2,z),(3,w)]) ty us h K:=
 aA (z:=zz10) (places:=zpe) (vs:=[(0,Vz VA a),(1,Vz VA b),(2,u),(3,q)]) (cs:=#[Vz VA a,Vz VA b,u,q]) V0 V0 (by simp[hx,hy,hz,hw])
  (by simp[Instr.fill,hu,hq]) hk
theorem I9{po:OP}{ty:TypeId}{us:List (Nat × Value)}{h:Heap}{K:Value->Heap->Prop}{x y z:Operand}{a b:Int}{u:Value}(hx:asg us x = Vz VA a)(hy:asg us y = Vz VA b)(hz:asg us z=u)(hu:u.cells = #[u])(hk:K (.agg #[Vz VA a,Vz VA b,u,VE VD 0 0]) h):
  Lft.step VI (.build T.fH #[(0,x),(1,y),(2,z)]) ty us h K:=
 aA (z:=zz10) (places:=zpe) (vs:=[(0,Vz VA a),(1,Vz VA b),(2,u)]) (cs:=#[Vz VA a,Vz VA b,u,VE VD 0 0]) V0 V0 (by simp[hx,hy,hz])
  (by simp[Instr.fill,hu]) hk
theorem Iw{po:OP}{ty:TypeId}{us:List (Nat × Value)}{h:Heap}{K:Value->Heap->Prop}{x y w:Operand}{a b:Int}{q:Value}(hx:asg us x = Vz VA a)(hy:asg us y = Vz VA b)(hw:asg us w=q)(hq:q.cells = #[q])(hk:K (.agg #[Vz VA a,Vz VA b,VE VD 0 0,q]) h):
  Lft.step VI (.build T.fH #[(0,x),(1,y),(3,w)]) ty us h K:=
 aA (z:=zz10) (places:=zpe) (vs:=[(0,Vz VA a),(1,Vz VA b),(3,q)]) (cs:=#[Vz VA a,Vz VA b,VE VD 0 0,q]) V0 V0 (by simp[hx,hy,hw])
  (by simp[Instr.fill,hq]) hk
theorem vQ{f:ak}{v:Value}{V:View}{h:Heap}(hv:Rd V v f)(hV:V.le (vw h))(hsm:SmF f):
  ay VI 63 #[v] h (λu h'=>(vw h).le (vw h')/\SlRd (grow V h h') u (aC f)):=by
 refine ao (args:=[v]) follows Tryz.func63 E.bM Vu λK hK=>?_;have hn:=hsm.len;dsimp only[L.bM,lkF,lkG];refine aa λz hz=>?_;simp;refine ef (v:=v) rfl ?_;have hle1:=b8 h (.cells v.cells T.gB);have hat1:At (grow V h (h.push (.cells v.cells T.gB))) ⟨h.size,0,VD⟩ f:=rh (t:=T.gB) (fz:=(0,0)) (by rw[cg (RX _)];simp) (hv.mono (bC hV));have hs1:(h.push (.cells v.cells T.gB)).size=h.size+1:=by simp
 generalize h.push (.cells v.cells T.gB)=h1 at hle1 hat1 hs1;have hW1:(grow V h h1).le (vw h1):=km (Vx hV hle1);have old1:Old V h (grow V h h1):=(Old.refl V h).grow (RX _);obtain⟨_,vb,cb⟩:=fh hat1;generalize grow V h h1=W1 at cb hW1 old1;generalize h.size=B at cb;subst hz;refine aa λz hz=>?_;simp;refine qQ (α:=Th) El.iO λh2 hle2 hsz2 own2=>?_;have t2:ThS V h (VE (VC ⟨h1.size,0,VD⟩) 0 0) [] W1 h2:=⟨((Owns.start hW1).add (k:=(0,0)) rfl (own2 _) hle2 (λb hb=>by simp only[Value.ownBlock,RW]at hb;omega)).congr λq=>by
   unfold rV Own.upd;repeat' split
   all_goals first | rfl | simp_all,old1,Vx hle1 hle2,λb hb=>by cases hb;exact View.bS Vw (by show h.size<=h1.size;omega)⟩;generalize VE (VC ⟨h1.size,0,VD⟩) 0 0=v0 at t2;subst hz;refine aa λz hz=>?_;simp
 refine dy [1,3,4] (fun(r:Value) b=>[ptz B,r,Vz VA b]) (λr b h3=>∃W,W1.le W/\ThS V h r (thTo f b) W h3) f.blocks.length v0
  rfl V4 rfl ⟨W1,View.le_refl _,t2⟩ (λ_ _=>rfl) (λv k h3 hk ⟨W,q1,q2⟩=>by simp[ae (Vx q1 q2.own.wle) cb.1,(cb.2.mono (Vx q1 q2.own.wle)).len]) ?_ ?_
 ·rintro r b h3 hltb ⟨W3,hW3,t3⟩ K2 hK2;have hl3:=Ad hsm (n:=b) V4;have cb3:=cb.2.mono (Vx hW3 t3.own.wle);have cc3:=ae (Vx hW3 t3.own.wle) cb.1;obtain⟨u,hu,hur⟩:=(cb.2.mono hW3).wh rfl (N:=6) rfl hltb;have sb:=hsm.blk b hltb;refine aa λy hy=>?_;simp(disch:=omega)[cc3,cb3.idxn (N:=6) rfl,hu _ t3.own.wle];refine cW (X:=W3) (z:=zz3) V0 rfl V0 hur V8 V8 λh4 hle4 hsz4 hat4=>?_;have t4:=t3.ext hle4;have hat4':=hat4 (grow W3 h3 h4) (bC t3.own.wle) (cg (RX _));obtain⟨vp,vi,va,vt,bp,bi,bk,ba,bt⟩:=mD hat4';have hW4:=Vx hW3 (bC (h':=h4) t3.own.wle);generalize grow W3 h3 h4=W4 at t4 bp bi bk ba bt hW4;generalize h3.size=D at bp bi bk ba bt;subst hy;refine aa λy hy=>?_;simp;have sp:=sb.phis;refine dy [1,3,4,5,6] (fun(r:Value) i=>[ptz B,r,Vz VA b,ptz D,Vz VA i]) (λr i h5=>∃W,W4.le W/\ThS V h r (thTo f b++rows (phiT f b) i) W h5) (nth f.blocks b).phis.length r
   rfl V4 rfl ⟨W4,View.le_refl _,by simpa using t4⟩ (λ_ _=>rfl) (λv k h3 hk ⟨W,q1,q2⟩=>by simp[ae (Vx q1 q2.own.wle) bp.1,(bp.2.mono (Vx q1 q2.own.wle)).len]) ?_ ?_
  ·rintro r i h5 hlti ⟨W5,hW5,t5⟩ K3 hK3;have bp5:=bp.2.mono hW5;have bph:=bp5.mono t5.own.wle;have cph:=ae (Vx hW5 t5.own.wle) bp.1;have hap:=(bp5.at hlti);rw[<-az hlti]at hap;have hdst:aq W5 (((slA vp).add (i*2)).add 0)=VC (Vz VA (nth (nth f.blocks b).phis i).dst):=(hap.part PhiD.iG).int;have hdr:=(hap.part PhiD.iG).rng;obtain⟨vq,hvq⟩:=(hap.part PhiD.jm).sl;have hvq1:aq W5 (((slA vp).add (i*2)).add 1)=VC vq:=hvq.1;have hvq2:=hvq.2;have hpl:=sb.phi i hlti;have hpt:phiT f b i=⟨b,-1-i,[(nth (nth f.blocks b).phis i).dst],(nth (nth f.blocks b).phis i).ins.map InD.val⟩:=rfl;generalize nth (nth f.blocks b).phis i=x at hdst hdr hvq2 hpl hpt;refine aa λq hq=>?_;simp(disch:=omega)[cph,bph.idxn (N:=2) rfl,ae t5.own.wle hdst];refine nJ (X:=nothing) (ds:=[x.dst]) (vs:=[Vz VA x.dst]) rfl El.aZ V5 ⟨bu.2 ⟨rfl,hdr⟩,trivial⟩ cB rfl V4 λu6 h6 hle6 hsz6 hu6 hub6=>?_;have hu6n:=hu6 (vw h6) cB rfl;refine I9 rfl rfl rfl hu6n.cells.1 ?_;simp;refine gA (n:=4) (v:=.agg #[Vz VA b,Vz VA (-1-i),u6,VE VD 0 0]) (z:=zz10) V0 rfl V0 rfl (by intro c hc;simp at hc;rcases hc with rfl | rfl | rfl | rfl<;>first | rfl | exact hu6n.cells.2) V8 V8 λh7 hle7 hsz7 hb7=>?_;have w6:=t5.own.ext hle6;have w7:=(w6.add (k:=(1,0)) rfl (iL (h:=h7) (d:=ThR.mk b (-1-i) [x.dst] ⟨VE VD 0 0⟩) hb7 (OW V9 V9 (hu6 _ cB (cg (RX _))) rfl) V6) hle7 (λb hb=>by simp only[Value.ownBlock,RW]at hb;omega)).add (k:=(1,1)) rfl (OwnT.nil (α:=Int) _ h7 T.int) Vw (λb hb=>by simp[Value.ownBlock]at hb);have w7:Owns (grow W5 h5 h6) h7 (yJ r (thTo f b++rows (phiT f b) i) h6.size (ThR.mk b (-1-i) [x.dst] ⟨VE VD 0 0⟩) (VE VD 0 0) []):=w7.congr λq=>by
    unfold yJ rV Own.upd;repeat' split
    all_goals first | rfl | simp_all
   have hW7:=Vx hW5 (bC (h':=h6) t5.own.wle);have old7:=t5.old.grow (h1:=h5) (h2:=h6) (bL t5.le);have hle07:=Vx t5.le (Vx hle6 hle7);have hvq7:=hvq2.mono (bC (h':=h6) t5.own.wle);have cvq7:=ae (bC (h':=h6) t5.own.wle) hvq1;generalize grow W5 h5 h6=W7 at w7 hW7 old7 hvq7 cvq7;have hD7:h.size<=h6.size:=St (bL t5.le) (bL hle6);generalize h6.size=D7 at w7 hD7;subst hq;refine aa λq hq=>?_;simp;refine dy [1,3,4,5,6,7,8] (fun(q:Value) j=>[ptz B,r,Vz VA b,ptz D,Vz VA i,ptz D7,Vz VA j])
    (λq j h8=>Owns W7 h8 (yJ r (thTo f b++rows (phiT f b) i) D7 (ThR.mk b (-1-i) [x.dst] ⟨q⟩) q ((x.ins.map InD.val).take j))/\(vw h).le (vw h8)/\Av (vw h) q) x.ins.length (VE VD 0 0)
    rfl V4 rfl ⟨w7,hle07,Av.nil _ _ _⟩ (λ_ _=>rfl) (λv k h8 hk ⟨w8,q2⟩=>by have bp8:=(bp.2.mono hW7).mono w8.wle;simp(disch:=omega)[ae (Vx hW7 w8.wle) bp.1,bp8.idxn (N:=2) rfl,ae w8.wle cvq7,(hvq7.mono w8.wle).len]) ?_ ?_
   ·rintro q8 j h8 hltj ⟨w8,hle08,av8⟩ K4 hK4;have bp8:=(bp.2.mono hW7).mono w8.wle;have hv8:=hvq7.mono w8.wle;have hai:=(hvq7.at hltj);rw[<-az hltj]at hai;have hval:aq W7 (((slA vq).add (j*2)).add 1)=VC (Vz VA (nth x.ins j).val):=(hai.part InD.G4).int;have hvr:=(hai.part InD.G4).rng;have hl8:((x.ins.map InD.val).take j).length=j:=by simp;omega
    have htk:(x.ins.map InD.val).take (j+1)=(x.ins.map InD.val).take j++[(nth x.ins j).val]:=by rw[UG,TG,SJ hltj,az hltj];rfl
    have hq8:aq (vw h8) ⟨D7,3,VD⟩=VC q8:=by have:=((w8.at (k:=(1,0)) (e:=T.fH) (B:=D7) (d:=ThR.mk b (-1-i) [x.dst] ⟨q8⟩) rfl).part ThR.Ot).raw;simpa using this
    refine aN (vw h8) Vw ?_;simp(disch:=omega)[hq8,ae (Vx hW7 w8.wle) bp.1,bp8.idxn (N:=2) rfl,ae w8.wle cvq7,hv8.idxn (N:=2) rfl,ae w8.wle hval];refine ni (α:=Int) (W:=W7) El.aZ rfl (bu.2 ⟨rfl,hvr⟩) λu9 h9 hs9 hle9 hsz9=>⟨hle9,?_⟩;refine(w8.ext' hle9).dA (k:=(1,1)) (α:=Int) (v:=q8) (l:=(x.ins.map InD.val).take j) rfl El.aZ rfl rfl hs9 Vt Vt λq10 h10 w10 m10=>?_;have hc10:=w10.cells (k:=(1,1)) (Own.an);obtain⟨hX10,av10⟩:=m10.view (Vx hle08 hle9) av8;refine w10.kP (k:=(1,0)) (e:=T.fH) (B:=D7) (D:=ThR.mk b (-1-i) [x.dst] ⟨q8⟩) ThR.Ot (d:=⟨q10⟩) rfl V0 rfl rfl (iT.2 ⟨rfl,hc10.2⟩) λh11 w11 hX11=>?_;refine hK4 q10 _ _ rfl rfl ⟨w11.congr λp=>?_,hX11 _ hX10 (View.bS Vw hD7),av10⟩;rw[htk];unfold yJ Own.upd;repeat' split
    all_goals first | rfl | simp_all
   rintro q8 h8 ⟨w8,hle08,av8⟩;rw[Sr V5]at w8;simp;subst hq;obtain⟨cs,hcs,hrd⟩:=w8.atW (k:=(1,0)) (e:=T.fH) (B:=D7) (d:=ThR.mk b (-1-i) [x.dst] ⟨q8⟩) rfl;obtain⟨u9,rfl,i1,i2,hu9⟩:=Im hrd;obtain⟨w9,hq9⟩:=w8.freeze (k:=(1,1)) (v:=q8) (l:=x.ins.map InD.val) rfl;have hpl9:W7.le (W7.plus q8 h8):=ij (w8.av (1,1) _ rfl);have hload:Un.ev (vw h8) (.bI 4) (ptz D7)=VC (.agg #[Vz VA b,Vz VA (-1-i),u9,q8]):=by have:=gm hcs 4 0 #[] V7;simp[Un.ev,vP,this]
   have hold9:Old V h (W7.plus q8 h8):=λc o hc hco=>by
    unfold View.plus at hco;split at hco
    ·rename_i e;have:=av8 c e;simp only[vw]at this;rw[Sv hc]at this;cases this
    exact old7 c o hc hco
   have w9:Owns (W7.plus q8 h8) h8 (rV r (thTo f b++rows (phiT f b) i)):=w9.sub λp x hp=>by
    unfold rV at hp;split at hp
    ·rename_i e;subst e;exact hp
    cases hp
   have hlr:(thTo f b++rows (phiT f b) i).length=(thTo f b).length+i:=by simp
   simp[hload];refine w9.zo (k:=(0,0)) (α:=Th) (v:=r) (l:=thTo f b++rows (phiT f b) i) (d:=phiT f b i) rfl El.iO rfl (by rw[hpt];exact Kr i1 i2 (hu9.mono hpl9) hq9) V4 V4 (λ_=>rfl) (λ_=>rfl) λu10 r10 h10 w10 hX10=>?_;obtain⟨g1,g2⟩:=hX10 _ hle08 t5.av;refine hK3 r10 _ _ rfl rfl ⟨W7.plus q8 h8,Vx hW7 hpl9,⟨w10.congr λp=>?_,hold9,g1,g2⟩⟩;rw[fJ,<-List.append_assoc];unfold rV Own.upd;repeat' split
   all_goals first | rfl | simp_all
  rintro r h5 ⟨W5,hW5,t5⟩;simp;subst hy;refine aa λy hy=>?_;simp;have si:=sb.ins;refine dy [1,3,4,5,9] (fun(r:Value) i=>[ptz B,r,Vz VA b,ptz D,Vz VA i]) (λr i h6=>∃W,W4.le W/\ThS V h r (thTo f b++rows (phiT f b) (nth f.blocks b).phis.length++rows (insT f b) i) W h6) (nth f.blocks b).ins.length r
   rfl V4 rfl ⟨W5,hW5,by simpa using t5⟩ (λ_ _=>rfl) (λv k h3 hk ⟨W,q1,q2⟩=>by simp[ae (Vx q1 q2.own.wle) bi.1,(bi.2.mono (Vx q1 q2.own.wle)).len]) ?_ ?_
  ·rintro r i h6 hlti ⟨W6,hW6,t6⟩ K3 hK3;have bi6:=bi.2.mono hW6;have bih:=bi6.mono t6.own.wle;have cih:=ae (Vx hW6 t6.own.wle) bi.1;obtain⟨ux,hux,huxr⟩:=bi6.wh rfl (N:=5) rfl hlti;have hap:=(bi6.at hlti);rw[<-az hlti]at hap;obtain⟨vq,hvq⟩:=(hap.part InsD.e9).sl;have hvq1:aq W6 (((slA vi).add (i*5)).add 3)=VC vq:=hvq.1;have hvq2:=hvq.2;have hpt:insT f b i=⟨b,i,bz (nth (nth f.blocks b).ins i),(nth (nth f.blocks b).ins i).args⟩:=rfl;generalize nth (nth f.blocks b).ins i=x at hvq2 huxr hpt;have hlr:(thTo f b++rows (phiT f b) (nth f.blocks b).phis.length++rows (insT f b) i).length=(thTo f b).length+(nth f.blocks b).phis.length+i:=by simp;omega
   refine aN (vw h6) Vw ?_;simp(disch:=omega)[cih,bih.idxn (N:=5) rfl,hux _ t6.own.wle,ae t6.own.wle hvq1];refine ah V0 (sK (huxr.mono t6.own.wle)) ?_;rintro u7 h7 ⟨hle7,hu7,_⟩;refine⟨hle7,?_⟩;have t7:=t6.ext hle7;have hu7':=hu7.mono (kr W6 h6 h7);have hvq7:=hvq2.mono (bC (h':=h7) t6.own.wle);refine Kt rfl rfl rfl rfl hu7.cells.1 hvq2.cells.1 ?_;simp;refine t7.own.zo (k:=(0,0)) (α:=Th) (v:=r) (l:=thTo f b++rows (phiT f b) (nth f.blocks b).phis.length++rows (insT f b) i) (d:=insT f b i) rfl El.iO rfl (by rw[hpt];exact Kr V9 V9 hu7' hvq7) V4 V4 (λ_=>rfl) (λ_=>rfl) λu10 r10 h10 w10 hX10=>?_;obtain⟨g1,g2⟩:=hX10 _ t7.le t7.av;refine hK3 r10 _ _ rfl rfl ⟨_,Vx hW6 (bC (h':=h7) t6.own.wle),⟨w10.congr λp=>?_,t7.old,g1,g2⟩⟩;rw[fJ,<-List.append_assoc];unfold rV Own.upd;repeat' split
   all_goals first | rfl | simp_all
  rintro r h6 ⟨W6,hW6,t6⟩;simp;subst hy;have hW6h:=Vx hW6 t6.own.wle;have bih:=bi.2.mono hW6h;have cih:=ae hW6h bi.1;have hlr:(thTo f b++rows (phiT f b) (nth f.blocks b).phis.length++rows (insT f b) (nth f.blocks b).ins.length).length=(thTo f b).length+(nth f.blocks b).phis.length+(nth f.blocks b).ins.length:=by simp;omega
  simp[cih,bih.len,ae hW6h ba.1];refine Iw rfl rfl rfl (ba.2.cells.1) ?_;simp;refine t6.own.zo (k:=(0,0)) (α:=Th) (v:=r) (l:=thTo f b++rows (phiT f b) (nth f.blocks b).phis.length++rows (insT f b) (nth f.blocks b).ins.length) (d:=endT f b) rfl El.iO rfl (Kr V9 V9 aL (ba.2.mono hW6)) V4 V4 (λ_=>rfl) (λ_=>rfl) λu10 r10 h10 w10 hX10=>?_;obtain⟨g1,g2⟩:=hX10 _ t6.le t6.av;refine hK2 r10 _ _ rfl rfl ⟨_,Vx hW4 hW6,⟨w10.congr λp=>?_,t6.old,g1,g2⟩⟩;have e:thTo f (b+1)=thTo f b++rows (phiT f b) (nth f.blocks b).phis.length++rows (insT f b) (nth f.blocks b).ins.length++[endT f b]:=by rw[fS,thB];simp[Sk]
  rw[e];unfold rV Own.upd;repeat' split
  all_goals first | rfl | simp_all
 rintro r h3 ⟨W3,hW3,t3⟩;simp;subst hz;simp;exact hK _ _ ⟨t3.le,(t3.own.get (k:=(0,0)) (v:=r) (l:=thTo f f.blocks.length) rfl).rd (t3.old.le t3.own.wle) λb hb=>by
  have:=t3.av b hb;rw[cg];rcases Sb b h.size with hlt | hge
  ·simp[vw,hlt]at this
  exact hge⟩
structure GotD where
 e:Int
 b:Int
 p:Int
instance:Rep GotD:=Rep.via λd=>Cat.mk d.e (Cat.mk d.b d.p)
abbrev BL:=List Bool
def tE(t:Th)(j:Nat)(m:BL):Except Tr BL:=if nth m (nth t.mks j).toNat then .error (12,t.blk,t.place) else .ok (m.set (nth t.mks j).toNat VG)
def iY(f:ak)(t:Th):BlkD:=nth f.blocks t.blk.toNat
def EI(f:ak)(t:Th):InsD:=nth (iY f t).ins t.place.toNat
def wC(f:ak)(t:Th):Bool:=decide (0<=t.place)&&decide (t.place<(iY f t).ins.length)
def mZ(f:ak)(t:Th):Bool:=decide (t.place=(iY f t).ins.length)
def py(s:InsD):Bool:=decide (s.op<1)||decide (18<s.op)||!tj s.op s.args.length
def pB(f:ak)(n:Int):Bool:=decide (n<f.params)||decide (8191<n)
def yW(f:ak)(n:Int):Bool:=decide (n<1)||decide ((f.blocks.length:Int)<=n)
def qU(f:ak)(t:Th):Except Tr BL->Except Tr BL
 | .error e=>.error e
 | .ok m'=>if mZ f t&&(iY f t).term.to.any (yW f) then .error (14,t.blk,t.place) else .ok m'
def jy(f:ak)(t:Th)(m:BL):Except Tr BL:=
 if wC f t&&py (EI f t) then .error (10,t.blk,t.place)
 else if mZ f t&&!lI (iY f t).term then .error (10,t.blk,t.place)
 else if t.mks.any (pB f) then .error (11,t.blk,t.place)
 else qU f t (upE (tE t) t.mks.length m)
def mq(f:ak):Except Tr BL:=upE (λi m=>jy f (nth (aC f) i) m) (aC f).length (List.replicate 8192 VH)
def AW{α:Type}:Except Tr α->Tr | .ok _=>(0,0,0) | .error t=>t
def noTh:Th:=⟨-1,0,[],[]⟩
def fY(t:Th)(l:List Th)(n:Int):List Th:=if 0<=n/\n<8192 then l.set n.toNat t else l
def vz(l:List Th)(t:Th):List Th:=t.mks.foldl (fY t) l
def Cb(ts:List Th):List Th:=ts.foldl vz (List.replicate 8192 noTh)
variable{n:Int}
theorem qC{t:Th}{l:List Th}:(fY t l n).length=l.length:=by unfold fY;split<;>simp
theorem FL{t:Th}{l:List Th}:(vz l t).length=l.length:=iN (f:=fY t) (λx:List Th=>x.length=l.length) (λ_ _ h=>qC.trans h) _ _ rfl
theorem GL{ts:List Th}:(Cb ts).length=8192:=iN (f:=vz) (λx:List Th=>x.length=8192) (λ_ _ h=>FL.trans h) _ _ (SN ..)
def jE(f:ak)(made:List Th)(away:List BL)(v blk place:Int):Bool:=
 if 0<=v/\v<f.params then VG
 else if(v<0\/8191<v)\/(nth made v.toNat).blk<0 then VH
 else if(nth made v.toNat).blk=blk then decide ((nth made v.toNat).place<0)||decide ((nth made v.toNat).place<place)
 else !nth (nth away (nth made v.toNat).blk.toNat) blk.toNat
def ud(f:ak)(t:Th):PhiD:=nth (iY f t).phis (-1-t.place).toNat
def Aq(f:ak)(b:Int):Int:=((nth f.blocks b.toNat).ins.length:Nat)
def wM(f:ak)(t:Th):Bool:=decide (0<t.blk)&&decide ((ud f t).ins.map InD.frm=aJ f t.blk)
def stT(f:ak)(made:List Th)(away:List BL)(t:Th)(x:Int):Bool:=!jE f made away x t.blk t.place
def stP(f:ak)(made:List Th)(away:List BL)(p:InD):Bool:=!jE f made away p.val p.frm (Aq f p.frm)
def iz(f:ak)(made:List Th)(away:List BL)(t:Th):Except Tr Unit:=
 if 0<=t.place then(if t.tks.any (stT f made away t) then .error (13,t.blk,t.place) else .ok ())
 else if !wM f t then .error (16,t.blk,t.place)
 else if(ud f t).ins.any (stP f made away) then .error (13,t.blk,t.place)
 else .ok ()
def jN(f:ak):List Th:=Cb (aC f)
def jh(f:ak):List BL:=rows (λb=>fg f b) f.blocks.length
def wz(f:ak):Nat->Nat
 | 0=>f.blocks.length
 | n+1=>wz f n+(nth f.blocks n).phis.length+(nth f.blocks n).ins.length
def wayE(f:ak):Except Tr Unit:=upE (λb _=>if nth (fg f (-1)) b=VG then .ok () else .error (15,b,0)) f.blocks.length ()
def E3(f:ak):Except Tr Unit:=upE (λi _=>iz f (jN f) (jh f) (nth (aC f) i)) (aC f).length ()
def Q1:Except Tr Unit->Except Tr Unit->Except Tr Unit
 | .ok _,y=>y
 | .error e,_=>.error e
def Ae(f:ak):Tr:=
 if f.params<0\/4<f.params then(1,0,0)
 else if f.blocks.length=0 then(14,0,0)
 else if 512<f.blocks.length\/4096<wz f f.blocks.length then(2,0,0)
 else if(AW (mq f)).1≠0 then AW (mq f)
 else AW (Q1 (wayE f) (E3 f))
theorem tJ{σ ε:Type}{f:Nat->σ->Except ε σ}{s:σ}{t:ε} : ∀{n:Nat},upE f n s = .error t->∃k s',k<n/\upE f k s = .ok s'/\f k s' = .error t
 | n+1,h=>by
  simp only[upE]at h;split at h
  ·rename_i s' hs;exact⟨n,s',Nat.lt_succ_self n,hs,h⟩
  rename_i t' ht;cases h;obtain⟨k,s',h1,h2⟩:=tJ ht;exact⟨k,s',Nat.lt_succ_of_lt h1,h2⟩
theorem ya{f:ak}{t:Th}{m:BL}{e:Tr}(h:jy f t m = .error e):(10<=e.1/\e.1<=14)/\e.2.1=t.blk/\e.2.2=t.place:=by
 unfold jy at h;split at h
 ·cases h;simp
 split at h
 ·cases h;simp
 split at h
 ·cases h;simp
 unfold qU at h;split at h
 ·rename_i e' he;cases h;obtain⟨k,s',_,_,h3⟩:=tJ he;unfold tE at h3;split at h3
  ·cases h3;simp
  cases h3
 split at h
 ·cases h;simp
 cases h
theorem Jh(hn:0<=n){ts:List Th}(h : ∀t∈ts,t.blk<n){i:Nat}(hi:i<8192):(nth (Cb ts) i).blk<n:=by
 have key : ∀(ts:List Th),(∀t∈ts,t.blk<n)->∀l:List Th,(∀x∈l,x.blk<n)->∀x∈ts.foldl vz l,x.blk<n:=by
  intro ts;induction ts with
  | nil=>exact λ_ l hl=>hl
  | cons t ts ih=>
   intro ht l hl;refine ih (λx hx=>ht x (Sa _ hx)) _ ?_;refine iN (f:=fY t) (λl:List Th=>∀x∈l,x.blk<n) (λl a hl x hx=>?_) _ _ hl;unfold fY at hx;split at hx
   ·rcases Ut hx with h | rfl
    ·exact hl x h
    exact ht _ Sg
   exact hl x hx
 refine key ts h _ (λx hx=>?_) _ (bh (by show i<(Cb ts).length;rw[GL];exact hi));rw[(List.mem_replicate.1 hx).2];show(-1:Int)<n;omega
theorem kF{σ ε:Type}{f:σ->α->Except ε σ}{a b:List α}{s:σ}:(a++b).foldlM f s=(match a.foldlM f s with | .ok s'=>b.foldlM f s' | .error e=>.error e):=by rw[U0];cases a.foldlM f s<;>rfl
theorem ve{σ ε:Type}{f:σ->α->Except ε σ}{a:α}{s:σ}:[a].foldlM f s=f s a:=by rw[TF];cases f s a<;>rfl
theorem qu{σ α ε:Type}{g:Nat->σ->Except ε σ}{f:σ->α->Except ε σ}{x:Nat->α}{s:σ} : ∀{n:Nat},(∀i s,i<n->g i s=f s (x i))->upE g n s=(rows x n).foldlM f s
 | 0,_=>rfl
 | n+1,h=>by
  have ih:=qu (n:=n) (s:=s) λi s hi=>h i s V4;rw[fJ,kF,<-ih];simp only[upE];cases upE g n s with
  | ok s'=>show g n s'=[x n].foldlM f s';rw[ve];exact h n s' V4
  | error e=>rfl
theorem rU{σ ε:Type}[Inhabited α]{f:σ->α->Except ε σ}{l:List α}{s:σ}:upE (λi s=>f s (nth l i)) l.length s=l.foldlM f s:=by rw[qu (f:=f) (x:=nth l) λ_ _ _=>rfl];congr 1;refine TJ V5 λi h1 h2=>?_;simp[rows,az h2]
def mU(f:ak)(m:MW)(t:Th):Except Tr MW:=
 if t.place<0 then allS f.params t.mks t.blk t.place m
 else if t.place<(iY f t).ins.length then insS f.params t.blk (iY f t) t.place.toNat m
 else endS f.blocks.length t.blk (iY f t) m
theorem xe{f:ak}{i:Nat}{m:MW}:mU f m (phiT f b i)=phiS f.params b (nth f.blocks b) i m:=by unfold mU;rw[if_pos (show(phiT f b i).place<0 by show -1-(i:Int)<0;omega)];rfl
theorem wZ{f:ak}{i:Nat}{m:MW}(hi:i<(nth f.blocks b).ins.length):mU f m (insT f b i)=insS f.params b (nth f.blocks b) i m:=by unfold mU;rw[if_neg (show ¬(insT f b i).place<0 by show ¬(i:Int)<0;omega),if_pos (show(insT f b i).place<((iY f (insT f b i)).ins.length:Int) by show(i:Int)<((nth f.blocks b).ins.length:Int);omega)];rfl
theorem xb{f:ak}{m:MW}:mU f m (endT f b)=endS f.blocks.length b (nth f.blocks b) m:=by unfold mU;rw[if_neg (show ¬(endT f b).place<0 by show ¬((nth f.blocks b).ins.length:Int)<0;omega),if_neg (show ¬(endT f b).place<((iY f (endT f b)).ins.length:Int) by show ¬((nth f.blocks b).ins.length:Int)<((nth f.blocks b).ins.length:Int);omega)];rfl
theorem K8{f:ak}{m:MW}:blkS f b m=(thB f b).foldlM (mU f) m:=by
 unfold blkS thB;rw[qu (f:=mU f) (x:=phiT f b) (n:=(nth f.blocks b).phis.length) λi s hi=>xe.symm];rw[kF,kF];cases (rows (phiT f b) (nth f.blocks b).phis.length).foldlM (mU f) m with
 | error e=>rfl
 | ok m1=>
  simp only;rw[qu (f:=mU f) (x:=insT f b) (n:=(nth f.blocks b).ins.length) λi s hi=>(wZ hi).symm];cases (rows (insT f b) (nth f.blocks b).ins.length).foldlM (mU f) m1 with
  | error e=>rfl
  | ok m2=>simp only;rw[ve];exact xb.symm
theorem zu{f:ak}{m:MW}:nT f m=(aC f).foldlM (mU f) m:=by
 have key : ∀n,upE (blkS f) n m=(thTo f n).foldlM (mU f) m:=by
  intro n;induction n with
  | zero=>rfl
  | succ n ih=>
   rw[fS,kF,<-ih];simp only[upE];cases upE (blkS f) n m with
   | error e=>rfl
   | ok s=>exact K8
 exact key _
theorem tW{f:ak}:mq f=(aC f).foldlM (λm t=>jy f t m) (List.replicate 8192 VH):=rU (f:=fun(m:BL) (t:Th)=>jy f t m)
def yh(m:MW)(l:BL):Prop:=l.length=8192/\∀n:Int,0<=n->n<8192->(m n).isSome=nth l n.toNat
def Alike{α β:Type}(R:α->β->Prop):Except Tr α->Except Tr β->Prop
 | .ok a,.ok b=>R a b
 | .error e,.error e'=>e=e'
 | _,_=>False
theorem vC{α β γ:Type}{R:α->β->Prop}{F:α->γ->Except Tr α}{G:β->γ->Except Tr β} : ∀{l:List γ},(∀t∈l,∀a b,R a b->Alike R (F a t) (G b t))->∀{a:α} {b:β},R a b->Alike R (l.foldlM F a) (l.foldlM G b)
 | [],_,a,b,h=>h
 | t::l,hs,a,b,h=>by
  rw[TF,TF];have:=hs t Sg a b h;cases e1:F a t with
  | error e=>
   cases e2:G b t with
   | error e'=>rw[e1,e2]at this;exact this
   | ok b'=>rw[e1,e2]at this;exact this.elim
  | ok a'=>
   cases e2:G b t with
   | error e'=>rw[e1,e2]at this;exact this.elim
   | ok b'=>rw[e1,e2]at this;exact vC (λt ht=>hs t (Sa _ ht)) this
theorem Iy{f:ak}:cr n f.params 8191=!pB f n:=by rw[SI];simp[cr,pB]
theorem Hm{p:α->Bool}{l:List α}:l.all (λn=>!p n)=!l.any p:=by
 induction l with
 | nil=>rfl
 | cons a l ih=>simp[ih]
def oY(t:Th)(m:BL)(n:Int):Except Tr BL:=if nth m n.toNat then .error (12,t.blk,t.place) else .ok (m.set n.toNat VG)
theorem Iv{f:ak}{t:Th}{m:MW}{l:BL}(h:yh m l)(hp:0<=f.params)(hn : ∀n∈t.mks,pB f n=VH):Alike yh (t.mks.foldlM (tZ t.blk t.place) m) (upE (tE t) t.mks.length l):=by
 have e:upE (tE t) t.mks.length l=t.mks.foldlM (oY t) l:=rU (f:=oY t);rw[e];refine vC (λn hnm m l h=>?_) h;have hb:=hn n hnm;simp only[pB,TE,decide_eq_false_iff_not]at hb;have hs:=h.2 n V4 V4;unfold tZ oY;rw[hs];cases hc:nth l n.toNat with
 | true=>exact rfl
 | false=>
  refine⟨by simpa using h.1,λk h0 h1=>?_⟩;rw[bs (by rw[h.1];omega)];simp only[putM];by_cases hk:k=n
  ·subst hk;simp
  rw[if_neg hk,if_neg V4];exact h.2 k h0 h1
theorem AX{f:ak}{t:Th}{m:MW}{l:BL}(h:yh m l)(hp:0<=f.params):
  Alike yh (allS f.params t.mks t.blk t.place m) (if t.mks.any (pB f) then .error (11,t.blk,t.place) else upE (tE t) t.mks.length l):=by
 unfold allS;have e:(t.mks.all λn=>cr n f.params 8191)=!t.mks.any (pB f):=by rw[<-Hm];congr 1;funext n;exact Iy
 rw[e];cases hb:t.mks.any (pB f)with
 | true=>exact rfl
 | false=>refine Iv h hp λn hn=>?_;rw[T4];intro e2;rw[T4]at hb;exact hb (UR.2 ⟨n,hn,e2⟩)
theorem NR{x:InsD}:(cr x.op 1 18&&cr x.args.length (gT x.op).1 (gT x.op).2)=!py x:=by
 rw[SI];simp only[py,cr,gT,tj,Se,Tm,TE,decide_eq_true_eq,decide_eq_false_iff_not,Bool.not_eq_false'];by_cases h1:x.op=1
 ·simp[h1]
 by_cases h2:x.op=15
 ·simp[h2];omega
 by_cases h3:x.op=17
 ·simp[h3]
 simp only[h1,h2,h3,if_false,decide_eq_true_eq];omega
theorem Mu{f:ak}:cr n 1 ((f.blocks.length:Int)-1)=!yW f n:=by rw[SI];simp[cr,yW];omega
theorem Io{t:db}:sM t=lI t:=by
 unfold sM lI gQ;by_cases h1:t.kind=1
 ·rw[SI];simp[putM,h1,cr];omega
 by_cases h2:t.kind=2
 ·rw[SI];simp[putM,h2,cr];omega
 by_cases h3:t.kind=3
 ·rw[SI];simp[putM,h3,cr];omega
 by_cases h4:t.kind=4
 ·rw[SI];simp[putM,h4,cr]
 by_cases h5:t.kind=5
 ·rw[SI];simp[putM,h5,cr]
 simp[putM,h1,h2,h3,h4,h5]
theorem xZ{f:ak}{t:Th}{x:Except Tr BL}(h:mZ f t=VH):qU f t x=x:=by
 unfold qU;cases x with
 | error e=>rfl
 | ok m=>simp only[h,Vo];rfl
theorem IA{f:ak}{t:Th}(ht:t∈aC f)(hp:0<=f.params){m:MW}{l:BL}(h:yh m l):Alike yh (mU f m t) (jy f t l):=by
 obtain⟨b,hb,ht⟩:=fe.1 ht;rcases gC.1 ht with⟨i,hi,rfl⟩ | ⟨i,hi,rfl⟩ | rfl
 ·have e1:wC f (phiT f b i)=false:=by simp[wC,phiT];omega
  have e2:mZ f (phiT f b i)=false:=by show decide (-1-(i:Int)=((nth f.blocks b).ins.length:Int))=VH;rw[decide_eq_false_iff_not];omega
  rw[xe,jy,e1,e2,xZ e2];exact AX (t:=phiT f b i) h hp
 ·have e1:wC f (insT f b i)=true:=by simp[wC,insT,iY];omega
  have e2:mZ f (insT f b i)=false:=by show decide ((i:Int)=((nth f.blocks b).ins.length:Int))=VH;rw[decide_eq_false_iff_not];omega
  have e3:EI f (insT f b i)=nth (nth f.blocks b).ins i:=by simp[EI,iY,insT]
  rw[wZ hi,jy,e1,e2,xZ e2,e3,insS,NR];cases hb:py (nth (nth f.blocks b).ins i)with
  | true=>exact rfl
  | false=>exact AX (t:=insT f b i) h hp
 have e1:wC f (endT f b)=false:=by simp[wC,endT,iY]
 have e2:mZ f (endT f b)=true:=by simp[mZ,endT,iY]
 have e3:iY f (endT f b)=nth f.blocks b:=by simp[iY,endT]
 rw[xb,jy,e1,e2,e3,endS,Io];cases hb:lI (nth f.blocks b).term with
 | false=>exact rfl
 | true=>
  have e4:((nth f.blocks b).term.to.all λt=>cr t 1 ((f.blocks.length:Int)-1))=!(nth f.blocks b).term.to.any (yW f):=by rw[<-Hm];congr 1;funext n;exact Mu
  rw[e4];show Alike yh _ (qU f (endT f b) (.ok l));unfold qU;rw[e2,e3];cases (nth f.blocks b).term.to.any (yW f)with
  | true=>exact rfl
  | false=>exact h
theorem Gz{f:ak}(hp:0<=f.params):Alike yh (nT f (λ_=>VD)) (mq f):=by rw[zu,tW];refine vC (λt ht m l h=>IA ht hp h) ⟨SN ..,λn h0 h1=>?_⟩;rw[az (by rw[SN];omega),Vi];rfl
def FK(t:Th):Option (Int × Int):=if t.blk<0 then VD else VC (t.blk,t.place)
structure Site(m:MW)(s:List Th):Prop where
 len:s.length=8192
 inn : ∀n:Int,0<=n->n<8192->m n=FK (nth s n.toNat)
 out : ∀n:Int,¬(0<=n/\n<8192)->m n=VD
theorem Fl{t:Th}(hb:0<=t.blk) : ∀{l:List Int} {m:MW} {s:List Th},Site m s->(∀n∈l,0<=n/\n<8192)->Site (l.foldl (λm n=>putM m n (t.blk,t.place)) m) (l.foldl (fY t) s)
 | [],m,s,h,_=>h
 | n::l,m,s,h,hl=>by
  rw[Sx,Sx];have hn:=hl n Sg;refine Fl hb ⟨qC.trans h.len,λk h0 h1=>?_,λk hk=>?_⟩ λk hk=>hl k (Sa _ hk)
  ·unfold fY putM;rw[if_pos hn,bs (by rw[h.len];omega)];by_cases e:k=n
   ·subst e;rw[if_pos rfl,if_pos rfl];unfold FK;rw[if_neg V4]
   rw[if_neg e,if_neg V4];exact h.inn k h0 h1
  unfold putM;rw[if_neg (by rintro rfl;exact hk hn)];exact h.out k hk
theorem Em{b p:Int} : ∀{l:List Int} {m m':MW},l.foldlM (tZ b p) m = .ok m'->m'=l.foldl (λm n=>putM m n (b,p)) m
 | [],m,m',h=>by cases h;rfl
 | n::l,m,m',h=>by
  rw[TF]at h;cases e:tZ b p m n with
  | error t=>rw[e]at h;cases h
  | ok m1=>
   rw[e]at h;unfold tZ at e;split at e
   ·cases e
   cases e;exact Em (l:=l) (m:=putM m n (b,p)) h
theorem E5{ps b p:Int}{l:List Int}{m m':MW}(h:allS ps l b p m = .ok m'):m'=l.foldl (λm n=>putM m n (b,p)) m/\∀n∈l,ps<=n/\n<=8191:=by
 unfold allS at h;split at h
 ·rename_i ha;refine⟨Em h,λn hn=>?_⟩;have:=SR.1 ha n hn;simpa[cr]using this
 cases h
theorem JH{f:ak}{t:Th}(ht:t∈aC f){m m':MW}(h:mU f m t = .ok m'):(m'=t.mks.foldl (λm n=>putM m n (t.blk,t.place)) m/\∀n∈t.mks,f.params<=n/\n<=8191)/\0<=t.blk:=by
 obtain⟨b,hb,ht⟩:=fe.1 ht;rcases gC.1 ht with⟨i,hi,rfl⟩ | ⟨i,hi,rfl⟩ | rfl
 ·rw[xe]at h;exact⟨E5 h,by show 0<=(b:Int);omega⟩
 ·rw[wZ hi]at h;unfold insS at h;split at h
  ·exact⟨E5 h,by show 0<=(b:Int);omega⟩
  cases h
 rw[xb]at h;unfold endS at h;split at h
 ·split at h
  ·cases h;exact⟨⟨rfl,λn hn=>by cases hn⟩,by show 0<=(b:Int);omega⟩
  cases h
 cases h
theorem AV{f:ak}(hp:0<=f.params) : ∀{l:List Th},(∀t∈l,t∈aC f)->∀{m m':MW} {s:List Th},Site m s->l.foldlM (mU f) m = .ok m'->Site m' (l.foldl vz s)
 | [],_,m,m',s,h,e=>by cases e;exact h
 | t::l,hl,m,m',s,h,e=>by
  rw[TF]at e;cases e1:mU f m t with
  | error x=>rw[e1]at e;cases e
  | ok m1=>rw[e1]at e;obtain⟨⟨q1,q2⟩,q3⟩:=JH (hl t Sg) e1;rw[Sx];refine AV hp (λt ht=>hl t (Sa _ ht)) (m:=m1) ?_ e;rw[q1];exact Fl q3 h λn hn=>by have:=q2 n hn;omega
theorem Ir{f:ak}(hp:0<=f.params){m:MW}(h:nT f (λ_=>VD) = .ok m):Site m (jN f):=by rw[zu]at h;refine AV hp (λt ht=>ht) ⟨SN ..,λn h0 h1=>?_,λn _=>rfl⟩ h;rw[az (by rw[SN];omega),Vi];rfl
theorem zP{f:ak}{m:MW}{made:List Th}{away:List BL}{idom:List Int}{v blk place at_ told:Int}(hp:f.params<=8192)(hs:Site m made)(hd : ∀a:Int,0<=a->a<f.blocks.length->eM idom a blk=!nth (nth away a.toNat) blk.toNat)(hm : ∀i,i<8192->(nth made i).blk<f.blocks.length):useS f.params m idom v blk place at_ told=if(!jE f made away v blk at_) then .error (13,told,place) else .ok ():=by
 unfold useS;by_cases c1:0<=v/\v<f.params
 ·have e:jE f made away v blk at_=true:=by unfold jE;rw[if_pos c1]
  rw[if_pos c1,e];rfl
 rw[if_neg c1];by_cases c2:v<0\/8191<v
 ·have e:jE f made away v blk at_=false:=by unfold jE;rw[if_neg c1,if_pos (.inl c2)]
  rw[hs.out v V4,e];rfl
 have e:jE f made away v blk at_=if(nth made v.toNat).blk<0 then VH else if(nth made v.toNat).blk=blk then decide ((nth made v.toNat).place<0)||decide ((nth made v.toNat).place<at_) else !nth (nth away (nth made v.toNat).blk.toNat) blk.toNat:=by
  unfold jE;rw[if_neg c1];by_cases c3:(nth made v.toNat).blk<0
  ·rw[if_pos (.inr c3),if_pos c3]
  rw[if_neg (by rintro(q | q)<;>contradiction),if_neg c3]
 rw[hs.inn v V4 V4,e];have hmb:=hm v.toNat V4;generalize nth made v.toNat=t at hmb;unfold FK;by_cases c3:t.blk<0
 ·rw[if_pos c3,if_pos c3];rfl
 rw[if_neg c3,if_neg c3];have e2:nz (t.blk,t.place) idom blk at_=if t.blk=blk then decide (t.place<0)||decide (t.place<at_) else !nth (nth away t.blk.toNat) blk.toNat:=by
  unfold nz;by_cases c4:t.blk=blk
  ·simp only[c4,decide_true,Ui,Bool.not_true,Vo,Bool.or_false,if_true];rw[Bool.or_comm]
  simp only[c4,decide_false,Vo,Bool.not_false,Ui,Vp,if_false];exact hd t.blk V4 hmb
 simp only[e2];generalize (if t.blk=blk then decide (t.place<0)||decide (t.place<at_) else !nth (nth away t.blk.toNat) blk.toNat)=B;cases B<;>rfl
theorem y4[Inhabited α]{l:List α}{p:α->Bool}{e:Tr}{g:Nat->Except Tr Unit}(h : ∀j,j<l.length->g j=if p (nth l j) then .error e else .ok ()):uAll g l.length=if l.any p then .error e else .ok ():=by
 have h1:uAll g l.length=l.foldlM (fun(_:Unit) x=>if p x then Except.error e else .ok ()) ():=by
  unfold uAll;rw[<-rU (f:=fun(_:Unit) x=>if p x then Except.error e else .ok ())];have key : ∀n,n<=l.length->upE (λi (_:Unit)=>g i) n ()=upE (λi (_:Unit)=>if p (nth l i) then Except.error e else .ok ()) n ():=by
   intro n;induction n with
   | zero=>exact λ_=>rfl
   | succ n ih=>intro hn;simp only[upE];rw[ih V4,h n V4]
  exact key _ (RX _)
 rw[h1];clear h1 h;induction l with
 | nil=>rfl
 | cons a l ih=>
  rw[TF,List.any_cons];cases hp:p a with
  | true=>rfl
  | false=>rw[Vp];exact ih
theorem Gv{β:Type}{p q:Nat->Bool}{x:Nat->β}{n:Nat}(h : ∀a,a<n->p a=q a):sift p x n=sift q x n:=by rw[tB,tB];congr 1;exact UH λa ha=>h a (TA.1 ha)
theorem F0{f:ak}(hb:b<f.blocks.length):nth (dN (ofG f.blocks)) b=aJ f b:=by rw[Fa,xE,nD,gF hb,aJ];refine Gv λa ha=>?_;rw[SI,qj,decide_eq_true_eq,Sn];exact⟨λh=>h.2,λh=>⟨by omega,h⟩⟩
theorem Jd{f:ak}{i:Nat}(hb:b<f.blocks.length):DM (nth (nth f.blocks b).phis i) (nth (dN (ofG f.blocks)) b) b=wM f (phiT f b i):=by
 have e1:ud f (phiT f b i)=nth (nth f.blocks b).phis i:=by unfold ud iY phiT;simp only[Sn];rw[show(-1-(-1-(i:Int))).toNat=i by omega]
 have e2:(phiT f b i).blk=(b:Int):=rfl;unfold DM mY wM;rw[e1,e2,F0 hb];generalize nth (nth f.blocks b).phis i=x;generalize aJ f b=row;rw[SI];simp only[Se,decide_eq_true_eq,G0,Ca];constructor
 ·rintro⟨⟨h1,h2⟩,h3⟩;refine⟨by omega,TJ Vt λj hj hj2=>?_⟩;have:=h3 j (by simpa using hj);rw[az hj2,az (by simpa using hj)]at this;simpa using this
 rintro⟨h1,h2⟩;have hl:x.ins.length=row.length:=by rw[<-h2,TI]
 refine⟨V9,λj hj=>?_⟩;rw[<-h2,az (l:=List.map InD.frm x.ins) (by rw[TI];exact hj),az hj];simp
theorem Am{f:ak}: ∀i,i<8192->(nth (jN f) i).blk<f.blocks.length:=λi hi=>Jh V4 (λt ht=>by
 obtain⟨b,hb,ht⟩:=fe.1 ht;rcases gC.1 ht with⟨i,hi,rfl⟩ | ⟨i,hi,rfl⟩ | rfl
 ·show(b:Int)<_;omega
 ·show(b:Int)<_;omega
 show(b:Int)<_;omega) hi
section
variable{f:ak}{m:MW}{idom:List Int}(hp0:f.params<=8192)(hs:Site m (jN f))(hd : ∀a b:Int,0<=a->a<f.blocks.length->0<=b->b<f.blocks.length->eM idom a b=!nth (nth (jh f) a.toNat) b.toNat)
include hp0 hs hd
theorem Nh{i:Nat}(hb:b<f.blocks.length)(hi:i<(nth f.blocks b).phis.length):phiU f m idom (dN (ofG f.blocks)) b i=iz f (jN f) (jh f) (phiT f b i):=by
 have hf:=Jd (f:=f) (i:=i) hb;have e1:ud f (phiT f b i)=nth (nth f.blocks b).phis i:=by unfold ud iY phiT;simp only[Sn];rw[show(-1-(-1-(i:Int))).toNat=i by omega]
 have e3:iz f (jN f) (jh f) (phiT f b i)=if !wM f (phiT f b i) then .error (16,b,-1-i) else if(nth (nth f.blocks b).phis i).ins.any (stP f (jN f) (jh f)) then .error (13,b,-1-i) else .ok ():=by unfold iz;rw[if_neg (show ¬0<=(phiT f b i).place by show ¬0<=-1-(i:Int);omega),e1];rfl
 rw[e3];unfold phiU;simp only[hf];cases hss:wM f (phiT f b i)with
 | false=>rfl
 | true=>
  rw[if_pos rfl,if_neg V5];refine y4 λj hj=>?_;have hfr:0<=(nth (nth (nth f.blocks b).phis i).ins j).frm/\(nth (nth (nth f.blocks b).phis i).ins j).frm<f.blocks.length:=by unfold wM at hss;rw[e1]at hss;simp only[Se,decide_eq_true_eq]at hss;have hm:=Uv (f:=InD.frm) (bh hj);rw[hss.2]at hm;obtain⟨a,h1,_,h2⟩:=sA.1 hm;omega
  rw[zP hp0 hs (λa h0 h1=>hd a _ h0 h1 hfr.1 hfr.2) Am];rfl
theorem Nt{i:Nat}(hb:b<f.blocks.length)(hi:i<(nth f.blocks b).ins.length):insU f m idom b i=iz f (jN f) (jh f) (insT f b i):=by
 have e3:iz f (jN f) (jh f) (insT f b i)=if(nth (nth f.blocks b).ins i).args.any (stT f (jN f) (jh f) (insT f b i)) then .error (13,b,i) else .ok ():=by unfold iz;rw[if_pos (show 0<=(insT f b i).place by show 0<=(i:Int);omega)];rfl
 rw[e3];unfold insU;refine y4 λj hj=>?_;rw[zP hp0 hs (λa h0 h1=>hd a _ h0 h1 V4 V4) Am];rfl
theorem NX(hb:b<f.blocks.length):endU f m idom b=iz f (jN f) (jh f) (endT f b):=by
 have e3:iz f (jN f) (jh f) (endT f b)=if(nth f.blocks b).term.args.any (stT f (jN f) (jh f) (endT f b)) then .error (13,b,(nth f.blocks b).ins.length) else .ok ():=by unfold iz;rw[if_pos (show 0<=(endT f b).place by show 0<=((nth f.blocks b).ins.length:Int);omega)];rfl
 rw[e3];unfold endU;refine y4 λj hj=>?_;rw[zP hp0 hs (λa h0 h1=>hd a _ h0 h1 V4 V4) Am];rfl
def stF(f:ak)(_:Unit)(t:Th):Except Tr Unit:=iz f (jN f) (jh f) t
theorem MO(hb:b<f.blocks.length):blkU f m idom (dN (ofG f.blocks)) b=(thB f b).foldlM (stF f) ():=by
 unfold blkU thB uAll;rw[qu (f:=stF f) (x:=phiT f b) (n:=(nth f.blocks b).phis.length) λi s hi=>Nh hp0 hs hd hb hi];rw[qu (f:=stF f) (x:=insT f b) (n:=(nth f.blocks b).ins.length) λi s hi=>Nt hp0 hs hd hb hi];rw[kF,kF,NX hp0 hs hd hb];cases (rows (phiT f b) (nth f.blocks b).phis.length).foldlM (stF f) ()with
 | error e=>rfl
 | ok m1=>
  obtain⟨⟩:=m1;cases hI:(rows (insT f b) (nth f.blocks b).ins.length).foldlM (stF f) ()with
  | error e=>simp only[andE,hI]
  | ok m2=>simp only[andE,hI];rw[ve];rfl
theorem I4:uAll (blkU f m idom (dN (ofG f.blocks))) f.blocks.length=E3 f:=by
 have key : ∀n,n<=f.blocks.length->uAll (blkU f m idom (dN (ofG f.blocks))) n=(thTo f n).foldlM (stF f) ():=by
  intro n;induction n with
  | zero=>exact λ_=>rfl
  | succ n ih=>
   intro hn;rw[fS,kF,<-ih V4];have e:uAll (blkU f m idom (dN (ofG f.blocks))) (n+1)=match uAll (blkU f m idom (dN (ofG f.blocks))) n with | .ok _=>blkU f m idom (dN (ofG f.blocks)) n | .error e=>.error e:=by show upE _ (n+1) ()=_;simp only[upE];unfold uAll;cases upE (λi (_:Unit)=>blkU f m idom (dN (ofG f.blocks)) i) n ()<;>rfl
   rw[e];cases uAll (blkU f m idom (dN (ofG f.blocks))) n with
   | error e=>rfl
   | ok s=>exact MO hp0 hs hd V4
 rw[key _ (RX _)];exact(rU (f:=stF f)).symm
end
theorem Bv{f:ak} : ∀k,manyN f k=(wz f k:Int)
 | 0=>rfl
 | k+1=>by have ih:=Bv (f:=f) k;unfold manyN at ih ⊢;rw[up,ih,wz];omega
theorem BS{σ ε:Type}{f g:Nat->σ->Except ε σ}{s:σ} : ∀{n:Nat},(∀i s,i<n->f i s=g i s)->upE f n s=upE g n s
 | 0,_=>rfl
 | n+1,h=>by
  simp only[upE];rw[BS (n:=n) λi s hi=>h i s V4];cases upE g n s with
  | ok s'=>exact h n s' V4
  | error e=>rfl
theorem yH{f:Nat->Unit->Except Tr Unit} : ∀{n:Nat},upE f n () = .ok ()->∀i,i<n->f i () = .ok ()
 | n+1,h,i,hi=>by
  simp only[upE]at h;cases e:upE f n ()with
  | error t=>rw[e]at h;cases h
  | ok s=>
   rw[e]at h;rcases Sb i n with hlt | hge
   ·exact yH e i hlt
   have:i=n:=by omega
   subst this;exact h
theorem LH{f:ak}(hn:0<f.blocks.length):uAll (xr f) f.blocks.length=wayE f:=by
 unfold uAll wayE;refine BS λb s hb=>?_;unfold xr;have e:decide ((b:Int)∈bN (ofG f.blocks))=nth (fg f (-1)) b:=by rw[SI,decide_eq_true_eq,(lu (by rw[nD];exact hn)).mem,ik hb]
 rw[e]
theorem Jo{f:ak}(hn:0<f.blocks.length)(hw:wayE f = .ok ())(a b:Int)(h0:0<=a)(h1:a<f.blocks.length)(h2:0<=b)(h3:b<f.blocks.length):
  eM (tT (ofG f.blocks)) a b=!nth (nth (jh f) a.toNat) b.toNat:=by
 have hR : ∀x:Nat,x<f.blocks.length->Re (ofG f.blocks) (-1) x:=λx hx=>by
  have:=yH hw x hx;rw[<-ik hx];split at this
  ·assumption
  cases this
 have hg:0<(ofG f.blocks).length:=by rw[nD];exact hn
 obtain⟨fp,C,l,hl,I⟩:=BY hg;have hi:tT (ofG f.blocks)=l:=by unfold tT;rw[hl];rfl
 rw[hi];have e:=vK I C (a:=a.toNat) (b:=b.toNat) (by rw[nD];omega) (hR _ V4);rw[SB h0,SB h2]at e;rw[e,SI,sQ];have ha:nth (jh f) a.toNat=fg f a:=by unfold jh;rw[gF V4,SB h0]
 rw[ha];have hr:=ik (f:=f) (wo:=a) (b:=b.toNat) V4;have haa:((a.toNat:Nat):Int)=a:=SB h0;rw[haa];cases hc:nth (fg f a) b.toNat with
 | true=>rw[hc]at hr;simp[hr.1 rfl]
 | false=>
  rw[hc]at hr;have hnr:¬Re (ofG f.blocks) a b.toNat:=λh=>by have:=hr.2 h;cases this
  simp[hnr,hR _ (show a.toNat<f.blocks.length by omega),hR _ (show b.toNat<f.blocks.length by omega)]
theorem Ik(f:ak):mP f=Ae f:=by
 unfold mP oy Ae;by_cases c1:f.params<0\/4<f.params
 ·have:cr f.params 0 4=false:=by rw[T4];simp[cr];omega
  rw[if_pos this,if_pos c1]
 have hw4:¬cr f.params 0 4=false:=by simp[cr];omega
 rw[if_neg hw4,if_neg c1];by_cases c2:f.blocks.length=0
 ·rw[if_pos c2,if_pos c2]
 rw[if_neg c2,if_neg c2];have hm:G2 f=(wz f f.blocks.length:Int):=Bv _;by_cases c3:512<f.blocks.length\/4096<wz f f.blocks.length
 ·rw[if_pos (by rw[hm];omega),if_pos c3]
 rw[if_neg (by rw[hm];omega),if_neg c3];have hp:0<=f.params:=by omega
 have hsh:=Gz hp;cases hS:nT f (λ_=>VD)with
 | error e=>
  cases hR:mq f with
  | ok l=>rw[hS,hR]at hsh;exact hsh.elim
  | error e'=>rw[hS,hR]at hsh;have hee:e=e':=hsh;subst hee;obtain⟨k,s',h1,_,h3⟩:=tJ hR;have:=(ya h3).1;rw[if_pos (by show e.1≠0;omega)];rfl
 | ok m=>
  cases hR:mq f with
  | error e'=>rw[hS,hR]at hsh;exact hsh.elim
  | ok l=>
   rw[if_neg (by simp[AW])];have hs:=Ir hp hS;show(match wJ f m (tT (ofG f.blocks))with | .ok _=>((0,0,0):Tr) | .error t=>t)=_;unfold wJ;rw[LH V4];cases hW:wayE f with
   | error e=>rfl
   | ok s=>obtain⟨⟩:=s;have:=I4 (f:=f) (m:=m) (idom:=tT (ofG f.blocks)) V4 hs λa b h0 h1 h2 h3=>Jo V4 hW a b h0 h1 h2 h3;show(match uAll (blkU f m (tT (ofG f.blocks)) (dN (ofG f.blocks))) f.blocks.length with | .ok _=>((0,0,0):Tr) | .error t=>t)=AW (E3 f);rw[this];cases E3 f<;>rfl
def Marks(m:BL)(S:Int->Prop):Prop:=m.length=8192/\∀n:Int,0<=n->n<8192->(nth m n.toNat=VG↔S n)
theorem FH:Marks (List.replicate 8192 VH) (λ_=>False):=⟨SN,λn h0 h1=>by rw[aD V4];simp⟩
theorem IX{m:BL}{S:Int->Prop}(h:Marks m S)(h0:0<=n)(h1:n<8192):Marks (m.set n.toNat VG) (λk=>S k\/k=n):=by
 refine⟨by simpa using h.1,λk k0 k1=>?_⟩;rw[bs (by rw[h.1];omega)];split
 ·rename_i e;exact⟨λ_=>.inr V4,λ_=>rfl⟩
 rename_i e;rw[h.2 k k0 k1];exact⟨.inl,λo=>o.resolve_right (by rintro rfl;exact e rfl)⟩
theorem Marks.congr{m:BL}{S T:Int->Prop}(h:Marks m S)(he : ∀n,S n↔T n):Marks m T:=⟨h.1,λn a b=>(h.2 n a b).trans (he n)⟩
theorem zU{t:Th} : ∀{l:List Int} {m m':BL} {S:Int->Prop},Marks m S->(∀n∈l,0<=n/\n<8192)->l.foldlM (oY t) m = .ok m'->Marks m' (λk=>S k\/k∈l)/\l.Nodup/\∀n∈l,¬S n
 | [],m,m',S,h,_,e=>by cases e;exact⟨h.congr λn=>by simp,TV,λn hn=>by cases hn⟩
 | a::l,m,m',S,h,hl,e=>by
  rw[TF]at e;have ha:=hl a Sg;unfold oY at e;by_cases hc:nth m a.toNat=VG
  ·rw[if_pos hc]at e;cases e
  rw[if_neg hc]at e;obtain⟨g1,g2,g3⟩:=zU (IX h ha.1 ha.2) (λn hn=>hl n (Sa _ hn)) e;refine⟨g1.congr λn=>by rw[Sp,or_assoc],T1.2 ⟨λhm=>g3 a hm (.inr rfl),g2⟩,λn hn=>?_⟩;rcases Sp.1 hn with rfl | hn
  ·exact λhs=>hc ((h.2 n ha.1 ha.2).2 hs)
  exact λhs=>g3 n hn (.inl hs)
structure CS(f:ak)(t:Th):Prop where
 op:wC f t=VG->py (EI f t)=VH
 term:mZ f t=VG->lI (iY f t).term=VG
 mks : ∀n∈t.mks,f.params<=n/\n<=8191
 to:mZ f t=VG->∀n∈(iY f t).term.to,1<=n/\n<f.blocks.length
theorem Kh{t:Th}{m:BL}:upE (tE t) t.mks.length m=t.mks.foldlM (oY t) m:=rU (f:=oY t)
theorem any_false{p:α->Bool}{l:List α}:l.any p=VH↔∀n∈l,p n=false:=by rw[List.any_eq_false];exact forall_congr' λn=>forall_congr' λ_=>by simp
theorem Kq{f:ak}:pB f n=VH↔f.params<=n/\n<=8191:=by simp[pB]
theorem MD{f:ak}:yW f n=VH↔1<=n/\n<f.blocks.length:=by simp[yW]
theorem Gn{f:ak}{t:Th}{m m':BL}(h:jy f t m = .ok m'):CS f t/\t.mks.foldlM (oY t) m = .ok m':=by
 unfold jy at h;split at h
 ·cases h
 rename_i c1;split at h
 ·cases h
 rename_i c2;split at h
 ·cases h
 rename_i c3;rw[Kh]at h;unfold qU at h;split at h
 ·cases h
 rename_i m1 e;split at h
 ·cases h
 rename_i c4;cases h;refine⟨⟨λg=>?_,λg=>?_,λn hn=>?_,λg n hn=>?_⟩,e⟩
 ·simpa[g]using c1
 ·simpa[g]using c2
 ·exact Kq.1 (any_false.1 (by simpa only[Bool.not_eq_true]using c3) n hn)
 refine MD.1 (any_false.1 (by simpa only[g,Ui,Bool.not_eq_true]using c4) n hn)
def lQ(l:List Th):List Int:=l.flatMap Th.mks
theorem xX{f:ak}(hp:0<=f.params) : ∀{l:List Th} {m m':BL} {S:Int->Prop},Marks m S->l.foldlM (λm t=>jy f t m) m = .ok m'->(∀t∈l,CS f t)/\(lQ l).Nodup/\∀n∈lQ l,¬S n
 | [],m,m',S,h,e=>⟨λt ht=>(by cases ht),TV,λn hn=>(by cases hn)⟩
 | t::l,m,m',S,h,e=>by
  rw[TF]at e;cases e1:jy f t m with
  | error x=>rw[e1]at e;cases e
  | ok m1=>
   rw[e1]at e;obtain⟨g,e2⟩:=Gn e1;obtain⟨k1,k2,k3⟩:=zU h (λn hn=>by have:=g.mks n hn;omega) e2;obtain⟨i1,i2,i3⟩:=xX hp k1 e;refine⟨λx hx=>?_,?_,λn hn=>?_⟩
   ·rcases Sp.1 hx with rfl | hx
    ·exact g
    exact i1 x hx
   ·refine Ti.2 ⟨k2,i2,λa ha b hb=>?_⟩;rintro rfl;exact i3 a hb (.inr ha)
   rcases R1.1 hn with hn | hn
   ·exact k3 n hn
   exact λhs=>i3 n hn (.inl hs)
def vO(f:ak)(v b p:Int):Prop:=(0<=v/\v<f.params)\/∃t∈aC f,v∈t.mks/\(t.blk=b/\(t.place<0\/t.place<p)\/t.blk≠b/\¬Re (ofG f.blocks) t.blk b.toNat)
structure Lr(ts:List Th)(s:List Th):Prop where
 len:s.length=8192
 is : ∀n:Int,0<=n->n<8192->(nth s n.toNat=noTh/\∀t∈ts,n∉t.mks)\/(nth s n.toNat∈ts/\n∈(nth s n.toNat).mks)
theorem DZ{t:Th}{ts:List Th} : ∀{l:List Int} {s:List Th} {d:List Int},(∀n∈l,n∈t.mks)->(s.length=8192/\∀n:Int,0<=n->n<8192->(nth s n.toNat=noTh/\(∀t∈ts,n∉t.mks)/\n∉d)\/(nth s n.toNat∈ts++[t]/\n∈(nth s n.toNat).mks))->
  ((l.foldl (fY t) s).length=8192/\∀n:Int,0<=n->n<8192->(nth (l.foldl (fY t) s) n.toNat=noTh/\(∀t∈ts,n∉t.mks)/\n∉d++l)\/(nth (l.foldl (fY t) s) n.toNat∈ts++[t]/\n∈(nth (l.foldl (fY t) s) n.toNat).mks))
 | [],s,d,_,h=>by simpa using h
 | a::l,s,d,hl,h=>by
  rw[Sx];have:=DZ (t:=t) (ts:=ts) (l:=l) (s:=fY t s a) (d:=d++[a]) (λn hn=>hl n (Sa _ hn)) ⟨by rw[qC];exact h.1,λn h0 h1=>?_⟩
  ·simpa using this
  unfold fY;split
  ·rw[bs (by rw[h.1];omega)];split
   ·rename_i hc e;have:n=a:=by omega
    subst this;exact .inr ⟨SQ _ (RY.2 rfl),hl n Sg⟩
   rename_i hc e;rcases h.2 n h0 h1 with⟨a1,a2,a3⟩ | a1
   ·refine .inl ⟨a1,a2,?_⟩;rw[R1,RY];rintro(q | rfl)
    ·exact a3 q
    exact e rfl
   exact .inr a1
  rename_i hc;rcases h.2 n h0 h1 with⟨a1,a2,a3⟩ | a1
  ·refine .inl ⟨a1,a2,?_⟩;rw[R1,RY];rintro(q | rfl)
   ·exact a3 q
   exact hc ⟨h0,h1⟩
  exact .inr a1
theorem Dp : ∀{l ts s:List Th},Lr ts s->Lr (ts++l) (l.foldl vz s)
 | [],ts,s,h=>by simpa using h
 | t::l,ts,s,h=>by
  rw[Sx];have:=DZ (t:=t) (ts:=ts) (l:=t.mks) (s:=s) (d:=[]) (λn hn=>hn) ⟨h.len,λn h0 h1=>(h.is n h0 h1).elim (λa=>.inl ⟨a.1,a.2,Uq⟩) λa=>.inr ⟨SK _ a.1,a.2⟩⟩;have:=Dp (l:=l) (ts:=ts++[t]) (s:=vz s t) ⟨this.1,λn h0 h1=>(this.2 n h0 h1).elim (λa=>.inl ⟨a.1,λx hx=>?_⟩) .inr⟩
  ·simpa using this
  rcases R1.1 hx with hx | hx
  ·exact a.2.1 x hx
  rw[RY.1 hx];simpa using a.2.2
theorem IK{f:ak}:Lr (aC f) (jN f):=
 Dp (l:=aC f) (ts:=[]) (s:=List.replicate 8192 noTh) ⟨SN,λn h0 h1=>.inl ⟨aD V4,λt ht=>by cases ht⟩⟩
theorem EE{f:ak}{t:Th}(h:t∈aC f):0<=t.blk/\t.blk<f.blocks.length:=by obtain⟨b,hb,ht⟩:=fe.1 h;rcases gC.1 ht with⟨i,hi,rfl⟩ | ⟨i,hi,rfl⟩ | rfl<;>exact⟨Int.natCast_nonneg _,Int.ofNat_lt.2 hb⟩
theorem MQ{f:ak}{a b:Int}(h0:0<=a)(h1:a<f.blocks.length)(h2:0<=b)(h3:b<f.blocks.length):nth (nth (jh f) a.toNat) b.toNat=VG↔Re (ofG f.blocks) a b.toNat:=by unfold jh;rw[gF V4,SB h0];exact ik V4
theorem Ba{f:ak}{v b p:Int}(hb0:0<=b)(hb1:b<f.blocks.length)(h:jE f (jN f) (jh f) v b p=VG):vO f v b p:=by
 unfold jE at h;split at h
 ·rename_i c;exact .inl c
 split at h
 ·cases h
 rename_i c1 c2;rcases IK.is v V4 V4 with⟨e,_⟩ | ⟨hm,hv⟩
 ·exact absurd (.inr (by rw[e];decide)) c2
 have hat:=EE hm;refine .inr ⟨_,hm,hv,?_⟩;split at h
 ·rename_i e;exact .inl ⟨e,by simpa using h⟩
 rename_i e;refine .inr ⟨e,λhr=>?_⟩;rw[(MQ hat.1 hat.2 hb0 hb1).2 hr]at h;cases h
structure jV(f:ak):Prop where
 params:0<=f.params/\f.params<=4
 blocks:0<f.blocks.length/\f.blocks.length<=512
 cnt:wz f f.blocks.length<=4096
 good : ∀t∈aC f,CS f t
 nodup:(lQ (aC f)).Nodup
 way : ∀b:Nat,b<f.blocks.length->Re (ofG f.blocks) (-1) b
 takes : ∀t∈aC f,0<=t.place->∀v∈t.tks,vO f v t.blk t.place
 phi : ∀b i:Nat,b<f.blocks.length->i<(nth f.blocks b).phis.length->0<b/\(nth (nth f.blocks b).phis i).ins.map InD.frm=aJ f b/\∀p∈(nth (nth f.blocks b).phis i).ins,vO f p.val p.frm (Aq f p.frm)
theorem KP{f:ak}{b x:Int}:x∈aJ f b↔(0<=x/\x<f.blocks.length)/\b∈(nth f.blocks x.toNat).term.to:=by
 unfold aJ;rw[sA];constructor
 ·rintro⟨a,ha,hb,rfl⟩;exact⟨V9,by simpa using hb⟩
 rintro⟨⟨h0,h1⟩,h⟩;exact⟨x.toNat,by omega,by simpa using h,by omega⟩
theorem Fk{f:ak}{t:Th}:iz f (jN f) (jh f) t = .ok ()↔
  (0<=t.place/\∀v∈t.tks,jE f (jN f) (jh f) v t.blk t.place=VG)\/(t.place<0/\wM f t=VG/\∀p∈(ud f t).ins,jE f (jN f) (jh f) p.val p.frm (Aq f p.frm)=VG):=by
 unfold iz;by_cases h0:0<=t.place
 ·rw[if_pos h0];have hn:¬t.place<0:=by omega
  simp only[h0,hn,true_and,false_and,or_false];cases e:t.tks.any (stT f (jN f) (jh f) t)with
  | true=>
   obtain⟨v,hv,hs⟩:=UR.1 e;constructor
   ·intro h;cases h
   intro h;unfold stT at hs;rw[h v hv]at hs;cases hs
  | false=>
   constructor
   ·intro _ v hv;have:=any_false.1 e v hv;simpa[stT]using this
   intro _;rfl
 rw[if_neg h0];have hn:t.place<0:=by omega
 simp only[h0,hn,true_and,false_and,false_or];cases e1:wM f t with
 | false=>simp
 | true=>
  rw[if_neg V5];cases e:(ud f t).ins.any (stP f (jN f) (jh f))with
  | true=>
   obtain⟨v,hv,hs⟩:=UR.1 e;constructor
   ·intro h;cases h
   rintro⟨_,h⟩;unfold stP at hs;rw[h v hv]at hs;cases hs
  | false=>
   constructor
   ·intro _;refine⟨rfl,λv hv=>?_⟩;have:=any_false.1 e v hv;simpa[stP]using this
   intro _;rfl
theorem KX{f:ak}{i:Nat}:ud f (phiT f b i)=nth (nth f.blocks b).phis i:=by unfold ud iY phiT;dsimp only;rw[Sn];congr 1;omega
theorem PD{f:ak}(h:(mP f).1=0):jV f:=by
 rw[Ik]at h;unfold Ae at h;split at h
 ·cases h
 rename_i c1;split at h
 ·cases h
 rename_i c2;split at h
 ·cases h
 rename_i c3;cases hs:mq f with
 | error e=>obtain⟨k,s',_,_,h3⟩:=tJ (show upE _ _ _=_ from hs);have:=(ya h3).1;rw[hs]at h;rw[if_pos (by show e.1≠0;omega)]at h;have h:e.1=0:=h;omega
 | ok m=>
  rw[hs,if_neg (by simp[AW])]at h;obtain⟨g1,g2,_⟩:=xX (f:=f) V4 FH (by rw[<-tW];exact hs);cases hw:wayE f with
  | error e=>
   rw[hw]at h;obtain⟨k,s',_,_,h3⟩:=tJ (show upE _ _ _=_ from hw);split at h3
   ·cases h3
   cases h3;exact absurd (show(15:Int)=0 from h) V6
  | ok u=>
   obtain⟨⟩:=u;rw[hw]at h;cases hu:E3 f with
   | error e=>
    rw[hu]at h;obtain⟨k,s',_,_,h3⟩:=tJ (show upE _ _ _=_ from hu);have h:e.1=0:=h;unfold iz at h3;repeat' split at h3
    all_goals first | (cases h3;done) | (cases h3;first | exact absurd (show(13:Int)=0 from h) V6 | exact absurd (show(16:Int)=0 from h) V6)
   | ok u=>
    obtain⟨⟩:=u;have hst : ∀t∈aC f,iz f (jN f) (jh f) t = .ok ():=λt ht=>by obtain⟨i,hi,e⟩:=Sy ht;have:=yH hu i hi;rw[az hi,e]at this;exact this
    refine⟨by omega,by omega,by omega,g1,g2,λb hb=>?_,λt ht h0 v hv=>?_,λb i hb hi=>?_⟩
    ·have:=yH hw b hb;rw[<-ik hb];split at this
     ·assumption
     cases this
    ·have hat:=EE ht;rcases Fk.1 (hst t ht)with⟨_,k⟩ | ⟨k,_⟩
     ·exact Ba hat.1 hat.2 (k v hv)
     omega
    have ht:phiT f b i∈aC f:=fe.2 ⟨b,hb,gC.2 (.inl ⟨i,hi,rfl⟩)⟩;rcases Fk.1 (hst _ ht)with⟨k,_⟩ | ⟨_,k1,k2⟩
    ·exact absurd k (by show ¬(0:Int)<=-1-(i:Int);omega)
    unfold wM at k1;rw[KX]at k1 k2;obtain⟨k3,k4⟩:=(Se _ _).mp k1;have k4:(nth (nth f.blocks b).phis i).ins.map InD.frm=aJ f b:=of_decide_eq_true k4;have k3:(0:Int)<b:=of_decide_eq_true k3;refine⟨by omega,k4,λp hp=>?_⟩;have hm:p.frm∈aJ f b:=by rw[<-k4];exact Uv hp
    have:=(KP.1 hm).1;exact Ba this.1 this.2 (k2 p hp)
def mkL(vs:Value)(at_:Nat)(ps:Int)(vb:Value)(nx:Int)(vl:Value):List Value:=[vs,Vz VA at_,Vz VA ps,vb,Vz VA nx,vl]
def rawV(s:List Int)(at_:Nat):Int:=if at_<s.length then nth s at_ else 0
def aG(s:List Int)(at_:Nat)(n:Int):Int:=((rawV s at_).tmod n+n).tmod n
theorem bU{s:List Int}{at_:Nat}(hn:0<n):0<=aG s at_ n/\aG s at_ n<n:=by have b1:=Int.lt_tmod_of_pos (rawV s at_) hn;exact⟨Int.tmod_nonneg _ V4,Int.tmod_lt_of_pos _ hn⟩
theorem Ny{W:View}{h:Heap}{o:Own}{M at_:Nat}{vs vb vl:Value}{ps nx:Int}{s:List Int}(w:Owns W h o)(hk:o (0,0)=bx T.bE M (RawN.mk (n:=5) (mkL vs at_ ps vb nx vl)))(hs:SlRd W vs s)(h1:at_<=1000000000)(hn:0<n)(hn2:n<=1000000000):
  ay VI 34 #[ptz M,Vz VA n] h (λu h'=>u = Vz VA (aG s at_ n)/\Owns W h' (o.upd (0,0) (bx T.bE M (RawN.mk (n:=5) (mkL vs (at_+1) ps vb nx vl))))):=by
 refine ao (args:=[ptz M,Vz VA n]) follows Tryz.func34 E.jC Vu λK hK=>?_;have c0:aq (vw h) ⟨M,0,VD⟩=VC vs:=w.raw hk (i:=0) V6;have c1:aq (vw h) ⟨M,1,VD⟩=VC (Vz VA at_):=w.raw hk (i:=1) V6;dsimp only[L.jC,lkF,lkG];refine aa λz hz=>?_;simp;subst hz;refine aa λz hz=>?_;simp;subst hz;refine aa λz hz=>?_;have hsl : ∀{Q:View},Un.ev Q .len vs=VC (Vz VA s.length):=fun{Q}=>hs.len;refine gP (λρ h2=>h2=h/\I64 (rawV s at_)/\ρ=[(0,ptz M),(1,Vz VA n),(4,Vz VA 0),(5,Vz VA (rawV s at_))]) ?_ ?_
 ·intro K2 hK2;by_cases c:at_<s.length
  ·have hs2:=hs.mono w.wle;have hr:=hs.range (i:=at_) c;have e:rawV s at_=nth s at_:=if_pos c;rw[e]at hK2;simp(disch:=omega)[c0,c1,hsl,c,hs2.idx1 rfl,hs2.int Vw];exact hK2 _ _ ⟨rfl,hr,rfl⟩
  have e:rawV s at_=0:=if_neg c;rw[e]at hK2;simp[c0,c1,hsl,c];exact hK2 _ _ ⟨rfl,⟨V6,V6⟩,rfl⟩
 rintro _ h2 ⟨rfl,hx,rfl⟩;subst hz;refine aa λz hz=>?_;simp(disch:=omega)[c1];refine w.dT (k:=(0,0)) (n:=5) (i:=1) (e:=T.bE) (B:=M) (l:=mkL vs at_ ps vb nx vl) hk V6 V0 rfl rfl rfl λh3 w3 _=>?_;subst hz;have b1:=Int.lt_tmod_of_pos (rawV s at_) hn;have b2:=Int.tmod_lt_of_pos (rawV s at_) hn;have hw:IntKind.i64.wrap ((rawV s at_).tmod n+n)=(rawV s at_).tmod n+n:=bj V4 V4;have hne:¬n=0:=by omega
 simp[hw,hne];refine hK _ _ ⟨rfl,w3.congr λq=>?_⟩;rfl
theorem DI{W:View}{h:Heap}{o:Own}{M at_:Nat}{vs vb vl:Value}{ps nx:Int}(w:Owns W h o)(hk:o (0,0)=bx T.bE M (RawN.mk (n:=5) (mkL vs at_ ps vb nx vl)))(h0:0<=nx)(h1:nx<=1000000000):
  ay VI 37 #[ptz M] h (λu h'=>u = Vz VA nx/\Owns W h' (o.upd (0,0) (bx T.bE M (RawN.mk (n:=5) (mkL vs at_ ps vb (nx+1) vl))))/\∀X:View,X.le (vw h)->X M=VD->X.le (vw h')):=by refine ao (args:=[ptz M]) follows Tryz.func37 E.jg Vu λK hK=>?_;have c4:aq (vw h) ⟨M,4,VD⟩=VC (Vz VA nx):=w.raw hk (i:=4) V6;dsimp only[L.jg,lkF,lkG];refine aa λz hz=>?_;simp;subst hz;refine aa λz hz=>?_;simp(disch:=omega)[c4];refine w.dT (k:=(0,0)) (n:=5) (i:=4) (e:=T.bE) (B:=M) (l:=mkL vs at_ ps vb nx vl) hk V6 V0 rfl rfl rfl λh3 w3 hx3=>?_;have w3:Owns W h3 (o.upd (0,0) (bx T.bE M (RawN.mk (n:=5) (mkL vs at_ ps vb (nx+1) vl)))):=w3;have c5:aq (vw h3) ⟨M,4,VD⟩=VC (Vz VA (nx+1)):=w3.raw Own.an (i:=4) V6;subst hz;simp(disch:=omega)[c5];exact hK _ _ ⟨by congr 1,w3,hx3⟩
end Go.Lft
namespace Go.Lft
variable{po:OP}
theorem O3{P:Program}{t ty:TypeId}{us:List (Nat × Value)}{h:Heap}{K:Value->Heap->Prop}{x:Operand}{n:Int}(hx:asg us x = Vz VA n)(hk:K (Vz VA (IntKind.i64.wrap (-n))) h):step P (.unOp .neg t x) ty us h K:=by refine dr (cO λw hw=>⟨Vz VA (IntKind.i64.wrap (-n)),w,?_,Same.refl _,by rw[hw];exact hk⟩);simp only[bQ,execOp,hx];simp[Op.unary,Op.intArith]
end Go.Lft
namespace Go.Lft
structure MS where
 at_:Nat
 ps:Int
 blocks:List BlkD
 next:Int
 live:List Int
def MS.took(m:MS):MS:={ m with at_:=m.at_+1 }
def MS.aW(m:MS):MS:={ m with next:=m.next+1 }
structure BlkM where
 phis:Raw
 ins:Raw
 term:db
instance:Rep BlkM:=Rep.via λd=>Cat.mk d.phis (Cat.mk d.ins d.term)
instance:Inhabited BlkM:=⟨⟨default,default,default⟩⟩
theorem BlkM.uC:Part BlkM Raw 0 BlkM.phis (λd x=>{ d with phis:=x }):=(Part.fst Part.all).via (λ_=>rfl) λ_ _=>rfl
theorem BlkM.jm:Part BlkM Raw 1 BlkM.ins (λd x=>{ d with ins:=x }):=(Part.snd (Part.fst Part.all)).via (λ_=>rfl) λ_ _=>rfl
theorem BlkM.nh:Part BlkM db 2 BlkM.term (λd x=>{ d with term:=x }):=(Part.snd (Part.snd Part.all)).via (λ_=>rfl) λ_ _=>rfl
theorem DS{H:View}{cs:List Value}{d:BlkM}{p:List PhiD}{i:List InsD}(h:Rep.rd H cs d)(hp:SlRd H d.phis.v p)(hi:SlRd H d.ins.v i):Rep.rd H cs (BlkD.mk p i d.term):=by obtain⟨c1,r1,e1,⟨h1,_⟩,c2,r2,e2,⟨h2,_⟩,h3⟩:=h;have h1:c1=[d.phis.v]:=h1;have h2:c2=[d.ins.v]:=h2;exact⟨c1,r1,e1,⟨d.phis.v,h1,hp⟩,c2,r2,e2,⟨d.ins.v,h2,hi⟩,h3⟩
structure MkB(M:Nat)(vs:Value)(m:MS)(o:Own)(vb vl:Value)(lb:List BlkM):Prop where
 box:o (0,0)=bx T.bE M (RawN.mk (n:=5) (mkL vs m.at_ m.ps vb m.next vl))
 live:o (0,1)=it T.int vl m.live
 blk:o (0,2)=it T.fi vb lb
 len:lb.length=m.blocks.length
 term : ∀i,i<m.blocks.length->(nth lb i).term=(nth m.blocks i).term
 phis : ∀i,i<m.blocks.length->o (1,i)=it T.iZ (nth lb i).phis.v (nth m.blocks i).phis
 ins : ∀i,i<m.blocks.length->o (2,i)=it T.fj (nth lb i).ins.v (nth m.blocks i).ins
structure Mk(s:List Int)(M:Nat)(vs:Value)(W:View)(h:Heap)(o:Own)(m:MS):Prop where
 own:Owns W h o
 src:SlRd W vs s
 box : ∃vb vl lb,MkB M vs m o vb vl lb
def Nx(s:List Int)(M:Nat)(vs:Value)(W:View)(h:Heap)(o:Own)(m:MS):Prop:=∃W' o',W.le W'/\Mk s M vs W' h o' m/\∀k:Key,3<=k.1->o' k=o k
variable{s:List Int}{M:Nat}{vs:Value}{W:View}{h:Heap}{o:Own}{m:MS}
theorem Mk.nx(w:Mk s M vs W h o m):Nx s M vs W h o m:=⟨W,o,View.le_refl _,w,λ_ _=>rfl⟩
theorem Nx.trans{W':View}{o':Own}(hW:W.le W')(ho : ∀k:Key,3<=k.1->o' k=o k)(n:Nx s M vs W' h o' m):Nx s M vs W h o m:=by obtain⟨W2,o2,h1,h2,h3⟩:=n;exact⟨W2,o2,Vx hW h1,h2,λk hk=>(h3 k hk).trans (ho k hk)⟩
theorem MkB.at{vb vl:Value}{lb:List BlkM}(b:MkB M vs m o vb vl lb){at_:Nat}{next:Int}:MkB M vs { m with at_:=at_,next:=next } (o.upd (0,0) (bx T.bE M (RawN.mk (n:=5) (mkL vs at_ m.ps vb next vl)))) vb vl lb:=
 ⟨rfl,b.live,b.blk,b.len,b.term,λi hi=>b.phis i hi,λi hi=>b.ins i hi⟩
theorem pU{k:Key}{i:Option Lft.Item}(hk:k.1<3) : ∀q:Key,3<=q.1->o.upd k i q=o q:=λq hq=>Own.aB λe=>by rw[e]at hq;omega
theorem fE{k:Key}{i j:Option Lft.Item}(q:Key):(o.upd k i).upd k j q=o.upd k j q:=by unfold Own.upd;split<;>rfl
theorem Mk.take(w:Mk s M vs W h o m){n:Int}(h1:m.at_<=1000000000)(hn:0<n)(hn2:n<=1000000000) :
  ay VI 34 #[ptz M,Vz VA n] h (λu h'=>u = Vz VA (aG s m.at_ n)/\∃o',Mk s M vs W h' o' m.took/\∀k:Key,3<=k.1->o' k=o k):=by obtain⟨vb,vl,lb,b⟩:=w.box;refine(Ny w.own b.box w.src h1 hn hn2).mono ?_;rintro u h' ⟨rfl,w2⟩;exact⟨rfl,_,⟨w2,w.src,vb,vl,lb,b.at⟩,pU V6⟩
theorem Mk.fresh(w:Mk s M vs W h o m)(h0:0<=m.next)(h1:m.next<=1000000000) :
  ay VI 37 #[ptz M] h (λu h'=>u = Vz VA m.next/\∃o',Mk s M vs W h' o' m.aW/\∀k:Key,3<=k.1->o' k=o k):=by obtain⟨vb,vl,lb,b⟩:=w.box;refine(DI w.own b.box h0 h1).mono ?_;rintro u h' ⟨rfl,w2,-⟩;exact⟨rfl,_,⟨w2,w.src,vb,vl,lb,b.at⟩,pU V6⟩
theorem oR{x:Int}:-2147483648<=IntKind.i32.wrap x/\IntKind.i32.wrap x<=2147483647:=by rw[IntKind.wrap_i32];omega
def jW(s:List Int)(m:MS):Int:=
 if aG s (m.at_+1) 8=0 then IntKind.i32.wrap (IntKind.i64.wrap (aG s m.at_ 1048576*4099))
 else if aG s (m.at_+1) 8=1 then IntKind.i32.wrap (IntKind.i64.wrap (-aG s m.at_ 1048576))
 else if aG s (m.at_+1) 8=2 then -2147483648
 else if aG s (m.at_+1) 8=3 then IntKind.i32.wrap ((aG s m.at_ 1048576).tmod 70000)
 else IntKind.i32.wrap (IntKind.i64.wrap ((aG s m.at_ 1048576).tmod 20-4))
theorem tK:-2147483648<=jW s m/\jW s m<=2147483647:=by
 unfold jW;repeat' split
 all_goals first | exact oR | decide
theorem Mk.word(w:Mk s M vs W h o m)(h1:m.at_<=999999990) :
  ay VI 44 #[ptz M] h (λu h'=>u = Vz VB (jW s m)/\∃o',Mk s M vs W h' o' m.took.took/\∀k:Key,3<=k.1->o' k=o k):=by
 refine ao (args:=[ptz M]) follows Tryz.func44 E.jB Vu λK hK=>?_;dsimp only[L.jB,lkF,lkG];refine aa λz hz=>?_;simp;subst hz;refine aa λz hz=>?_;simp;refine ah V0 (w.take V4 (n:=1048576) V6 V6) ?_;rintro _ h2 ⟨rfl,o2,w2,f2⟩;subst hz;refine aa λz hz=>?_;simp;refine ah V0 (w2.take (show m.at_+1<=_ by omega) (n:=8) V6 V6) ?_;rintro _ h3 ⟨rfl,o3,w3,f3⟩;have hx:m.took.at_=m.at_+1:=rfl;rw[hx];have hf : ∀k:Key,3<=k.1->o3 k=o k:=λk hk=>(f3 k hk).trans (f2 k hk);have hwd:jW s m=_:=jW.eq_1 s m;generalize jW s m=r at hwd hK;generalize aG s (m.at_+1) 8=q at hwd;generalize aG s m.at_ 1048576=x at hwd;by_cases c0:q=0
 ·rw[if_pos c0]at hwd;simp[c0];exact hK _ _ ⟨by rw[hwd],_,w3,hf⟩
 rw[if_neg c0]at hwd;by_cases c1:q=1
 ·rw[if_pos c1]at hwd;simp[c1];refine O3 rfl ?_;simp;exact hK _ _ ⟨by rw[hwd],_,w3,hf⟩
 rw[if_neg c1]at hwd;by_cases c2:q=2
 ·rw[if_pos c2]at hwd;simp[c2];exact hK _ _ ⟨by rw[hwd],_,w3,hf⟩
 rw[if_neg c2]at hwd;by_cases c3:q=3
 ·rw[if_pos c3]at hwd;simp[c3];exact hK _ _ ⟨by rw[hwd],_,w3,hf⟩
 rw[if_neg c3]at hwd;simp[c0,c1,c2,c3];subst hz;simp;exact hK _ _ ⟨by rw[hwd],_,w3,hf⟩
end Go.Lft
namespace Go.Lft
def MS.add(m:MS)(b:Nat)(i:InsD):MS:={ m with blocks:=m.blocks.set b { nth m.blocks b with ins:=(nth m.blocks b).ins++[i] },live:=m.live++bz i }
def conD(v:Int)(n:Int):InsD:=⟨1,v,0,[],⟨n⟩⟩
def MS.constant(m:MS)(b:Nat)(n:Int):MS:=m.aW.add b (conD m.next n)
def xV(s:List Int)(m:MS):Int:=nth m.live (if aG s (m.at_+1) 3=0 then m.live.length-1 else(aG s m.at_ m.live.length).toNat)
def GY(s:List Int)(m:MS)(b:Nat):MS:=(m.took.took).constant b (jW s m)
def aH(s:List Int)(m:MS)(b:Nat):Int × MS:=
 if m.live.length=0 then(m.next,GY s m b)
 else if aG s (m.at_+2) 9=0 then(m.next,GY s m.took.took.took b)
 else(xV s m,m.took.took.took)
def MS.two(m:MS)(b:Nat)(op x y:Int):MS:=m.aW.add b ⟨op,m.next,0,[x,y],⟨0⟩⟩
def binS(s:List Int)(m:MS)(b:Nat)(op:Int):MS:=
 let r1:=aH s m b
 let r2:=aH s r1.2 b
 if aG s r2.2.at_ 3=0 then
  (r2.2.took.took.constant b (IntKind.i32.wrap (IntKind.i64.wrap (aG s (r2.2.at_+1) 40-8)))).two b op r1.1 r2.2.next
 else r2.2.took.two b op r1.1 r2.1
def ltuS(s:List Int)(m:MS)(b:Nat):MS:=
 let r1:=aH s m b
 let r2:=aH s r1.2 b
 r2.2.two b 13 r1.1 r2.1
def divS(s:List Int)(m:MS)(b:Nat):MS:=
 let r1:=aH s m b
 let m2:=r1.2.took.constant b (IntKind.i32.wrap (aG s r1.2.at_ 12))
 if 0<aG s m2.at_ 3 then
  (m2.took.took.constant b (IntKind.i32.wrap (1+IntKind.i32.wrap (aG s (m2.at_+1) 12)))).two b 14 r1.1 m2.next
 else m2.took.two b 14 r1.1 r1.2.next
def wc(s:List Int)(m:MS)(b:Nat):MS:=
 let r1:=aH s m b
 let r2:=aH s r1.2 b
 r2.2.aW.aW.add b ⟨18,r2.2.next,r2.2.next+1,[r1.1,r2.1],⟨0⟩⟩
def fR(s:List Int)(b:Nat):Nat->List Int × MS->List Int × MS:=λ_ x=>(x.1++[(aH s x.2 b).1],(aH s x.2 b).2)
def pw(s:List Int)(m:MS)(b:Nat):MS:=
 let r:=up (fR s b) (aG s m.at_ 5).toNat ([],m.took)
 r.2.aW.took.add b ⟨17,r.2.next,0,r.1,⟨IntKind.i32.wrap (aG s r.2.at_ 5)⟩⟩
def jO(s:List Int)(m:MS)(b:Nat):Int × MS:=
 let m1:=m.took.constant b (IntKind.i32.wrap (aG s m.at_ 9))
 if aG s m1.at_ 3=0 then
  let r:=aH s m1.took b
  let m3:=(r.2.constant b 7).two b 5 r.1 r.2.next
  (m3.next,m3.two b 2 m.next (r.2.next+1))
 else(m.next,m1.took)
def offS(s:List Int)(m:MS):Int × MS:=
 if aG s (m.at_+1) 12=0 then(jW s m.took.took,m.took.took.took.took) else(IntKind.i32.wrap (aG s m.at_ 4),m.took.took)
def iW(s:List Int)(m:MS)(b:Nat)(store:Bool):MS:=
 let a:=jO s m b
 let i:=offS s a.2
 if store then(aH s i.2 b).2.add b ⟨16,0,0,[a.1,(aH s i.2 b).1],⟨i.1⟩⟩
 else i.2.aW.add b ⟨15,i.2.next,0,[a.1],⟨i.1⟩⟩
def opsL:List Int:=[2,2,3,4,5,6,7,8,9,10,12,11]
def aO(s:List Int)(b:Nat)(m:MS):MS:=
 let k:=aG s m.at_ 20
 if k<12 then binS s m.took b (nth opsL k.toNat)
 else if k=12 then ltuS s m.took b
 else if k=13 then divS s m.took b
 else if k<16 then iW s m.took b (decide (k=15))
 else if k=16 then pw s m.took b
 else if k=17 then wc s m.took b
 else m.took.took.took.constant b (jW s m.took)
section
variable{b:Nat}
theorem Dt{H:View}{n:Nat}{cs:List Value}(hc:gN H ⟨b,0,VD⟩ cs)(hl:cs.length=n):Un.ev H (.bI n) (ptz b)=VC (.agg cs.toArray):=by have:=gm hc n 0 #[] V4;simp only[Un.ev,vP,SA];rw[this];simp[<-hl]
theorem Ia{H:View}{n:Nat}{cs:Array Value}{t:TypeId}(hb:H b=VC (.cells cs t (0,0)))(hl:cs.size=n):Un.ev H (.bI n) (ptz b)=VC (.agg cs):=by have:gN H ⟨b,0,VD⟩ cs.toList:=⟨cs,t,(0,0),rfl,hb,by simp[Sr]⟩;simpa using Dt this (by simpa using hl)
variable{vs vb vl:Value}{lb:List BlkM}
theorem MkB.O8{s:List Int}{M:Nat}{W:View}{h:Heap}{o:Own}{m:MS}(w:Owns W h o)(b:MkB M vs m o vb vl lb):
  ∃X:View,W.le X/\X.le (vw h)/\(∀i,i<=5->aq X ⟨M,i,VD⟩=VC ((mkL vs m.at_ m.ps vb m.next vl).getD i undef))/\SlRd X vb lb/\Av X vl/\∀i,i<m.blocks.length->Av X (nth lb i).phis.v/\Av X (nth lb i).ins.v:=by obtain⟨w5,s5⟩:=w.freeze (k:=(0,0)) (v:=VE (VC ⟨M,0,VD⟩) 1 1) (l:=[RawN.mk (n:=5) (mkL vs m.at_ m.ps vb m.next vl)]) b.box;have hb2:o.upd (0,0) VD (0,2)=it T.fi vb lb:=b.blk;obtain⟨w6,s6⟩:=w5.freeze (k:=(0,2)) (v:=vb) (l:=lb) hb2;have s5:=s5.mono (ij (h:=h) (w5.av (0,2) _ hb2));refine⟨_,Vx (ij (h:=h) (w.av (0,0) _ b.box)) (ij (h:=h) (w5.av (0,2) _ hb2)),w6.wle,λi hi=>?_,s6,w6.av (0,1) _ b.live,λi hi=>⟨w6.av (1,i) _ (b.phis i hi),w6.av (2,i) _ (b.ins i hi)⟩⟩;have:=((s5.at (i:=0) V5).part (RawN.p (n:=5) (o:=i) hi)).raw;simpa[slA]using this
variable{s:List Int}{M:Nat}{vs:Value}{W:View}{h:Heap}{o:Own}{m:MS}
theorem MkB.cell(w:Owns W h o)(b:MkB M vs m o vb vl lb){i:Nat}(hi:i<=5):aq (vw h) ⟨M,i,VD⟩=VC ((mkL vs m.at_ m.ps vb m.next vl).getD i undef):=w.raw b.box hi
theorem MkB.iq(bb:MkB M vs m o vb vl lb)(hb:b<m.blocks.length){x':BlkD}{y':BlkM}{o':Own}(hy:y'.term=x'.term)(h02:o' (0,2)=it T.fi vb (lb.set b y'))(h1:o' (1,b)=it T.iZ y'.phis.v x'.phis)(h2:o' (2,b)=it T.fj y'.ins.v x'.ins)(ho : ∀q:Key,q≠(0,2)->q≠(1,b)->q≠(2,b)->o' q=o q):MkB M vs { m with blocks:=m.blocks.set b x' } o' vb vl (lb.set b y'):=by
 have hbl:b<lb.length:=by rw[bb.len];exact hb
 refine⟨(ho _ V5 V5 V5).trans bb.box,(ho _ V5 V5 V5).trans bb.live,h02,by simp[bb.len],λj hj=>?_,λj hj=>?_,λj hj=>?_⟩;all_goals
  have hj:j<m.blocks.length:=by simpa using hj
  have hjl:j<lb.length:=by rw[bb.len];exact hj
  show _=_
  simp only[bs hj,bs hjl]
  by_cases e:b=j
  ·subst e
   simp only[if_true]
   assumption
  ·simp only[if_neg e]
   first
    | exact bb.term j hj
    | exact(ho _ V5 (λq=>e (by injection q with _ q;exact q.symm)) V5).trans (bb.phis j hj)
    | exact(ho _ V5 V5 (λq=>e (by injection q with _ q;exact q.symm))).trans (bb.ins j hj)
theorem Mk.value(w:Mk s M vs W h o m)(h1:m.at_<=999999990)(hl:m.live.length<=1000000000):
  ay VI 133 #[ptz M] h (λu h'=>(m.live.length=0/\u = .tuple #[Vz VA 0,.bool VH]/\h'=h)\/(m.live.length≠0/\u = .tuple #[Vz VA (xV s m),.bool VG]/\I64 (xV s m)/\∃o',Mk s M vs W h' o' m.took.took/\∀k:Key,3<=k.1->o' k=o k)):=by
 refine ao (args:=[ptz M]) follows Tryz.func133 E.iV Vu λK hK=>?_;obtain⟨vb,vl,lb,b⟩:=w.box;have c5:aq (vw h) ⟨M,5,VD⟩=VC vl:=b.cell w.own (i:=5) V6;have hsl:=w.own.now b.live;dsimp only[L.iV,lkF,lkG];refine aa λz hz=>?_;simp;subst hz;refine aa λz hz=>?_;by_cases h0:m.live.length=0
 ·have h0':m.live=[]:=Ss h0;simp[c5,hsl.len,h0];exact hK _ _ (.inl ⟨h0,rfl,rfl⟩)
 have h0':¬(m.live=[]):=λe=>h0 (by rw[e];rfl);simp[c5,hsl.len,h0'];subst hz;refine aa λz hz=>?_;simp[c5,hsl.len];refine ah V0 (w.take V4 (n:=(m.live.length:Int)) V4 V4) ?_;rintro _ h2 ⟨rfl,o2,w2,f2⟩;subst hz;refine aa λz hz=>?_;simp;refine ah V0 (w2.take (show m.at_+1<=_ by omega) (n:=3) V6 V6) ?_;rintro _ h3 ⟨rfl,o3,w3,f3⟩;have hx:m.took.at_=m.at_+1:=rfl;rw[hx];have hf : ∀k:Key,3<=k.1->o3 k=o k:=λk hk=>(f3 k hk).trans (f2 k hk);have hv:xV s m=_:=xV.eq_1 s m;obtain⟨vb3,vl3,lb3,b3⟩:=w3.box;have c53:aq (vw h3) ⟨M,5,VD⟩=VC vl3:=b3.cell w3.own (i:=5) V6;have hsl3:SlRd (vw h3) vl3 m.live:=w3.own.now b3.live;obtain⟨r0,r1⟩:=bU (s:=s) (at_:=m.at_) (n:=(m.live.length:Int)) V4;generalize aG s m.at_ m.live.length=x at hv r0 r1;generalize aG s (m.at_+1) 3=q at hv;obtain⟨i,hi,hvi,hii⟩ : ∃i:Nat,i<m.live.length/\xV s m=nth m.live i/\(i:Int)=if q=0 then(m.live.length:Int)-1 else x:=by
  by_cases c:q=0
  ·rw[if_pos c]at hv ⊢;exact⟨m.live.length-1,by omega,hv,by omega⟩
  rw[if_neg c]at hv ⊢;exact⟨x.toNat,by omega,hv,by omega⟩
 have h64:IntKind.i64.wrap ((m.live.length:Int)-1)=(m.live.length:Int)-1:=bj V4 V4;have fin : ∀ρ:Env,ρ=[(0,ptz M),(2,Vz VA 0),(3,.bool VH),(4,Vz VA i),(17,Vz VA x),(19,Vz VA q)]->LC.wp VI z (dR [.tmp 2,.tmp 3] K) ρ h3:=by rintro _ rfl;subst hz;refine aa λz hz=>?_;simp(disch:=omega)[c53,hsl3.idx1 rfl,hsl3.int Vw];subst hz;simp;exact hK _ _ (.inr ⟨h0,by rw[hvi],by rw[hvi];exact hsl3.range hi,o3,w3,hf⟩)
 by_cases c:q=0
 ·rw[if_pos c]at hii;simp[c,c53,hsl3.len,h64];refine fin _ ?_;rw[hii,c]
 rw[if_neg c]at hii;simp[c];refine fin _ ?_;rw[hii]
theorem Mk.add(w:Mk s M vs W h o m){b:Nat}{i:InsD}{v:Value}(hb:b<m.blocks.length)(hi:Rd W v i)(hn:(nth m.blocks b).ins.length<=100000000)(hl:m.live.length<=100000000) :
    ay VI 87 #[ptz M,Vz VA b,v] h (λu h'=>Nx s M vs W h' o (m.add b i)):=by
  refine ao (args:=[ptz M,Vz VA b,v]) follows Tryz.func87 E.kf Vu λK hK=>?_
  obtain⟨vb,vl,lb,bb⟩:=w.box
  obtain⟨va,rfl,hir,hia⟩:=Np hi
  dsimp only[L.kf,lkF,lkG]
  refine aa λz hz=>?_
  simp
  refine eI rfl (hi.mono w.own.wle) λh1 e1 hle1 hs1 hat=>?_
  have w1:=w.own.ext hle1
  have hbx:(grow W h h1) h.size=VC (.cells #[Vz VA i.op,Vz VA i.dst,Vz VA i.two,va,Vz VB i.imm.v] T.fj (0,0)):=by
    rw[cg (RX _),e1];simp[Value.cells]
  have hi1:=hi.mono (bC (h':=h1) w.own.wle)
  have src1:=w.src.mono (bC (h':=h1) w.own.wle)
  have hW1:=bC (h':=h1) w.own.wle
  clear hat e1
  have hld:=Ia hbx (n:=5) rfl
  generalize grow W h h1=W1 at w1 hld hi1 src1 hW1
  generalize h.size=B at hld
  subst hz
  refine aa λz hz=>?_
  obtain⟨X,hWX,hX,cX,sX,avl,avX⟩:=bb.O8 (s:=s) w1
  have c3:aq X ⟨M,3,VD⟩=VC vb:=cX 3 V6
  have hbl:b<lb.length:=by rw[bb.len];exact hb
  have a1:=(sX.at hbl).part BlkM.jm
  have hsv:=sX.bound
  have a2:aq X (((slA vb).add (b*6)).add 1)=VC (nth lb b).ins.v:=by rw[az hbl];exact a1.raw
  have hldX:Un.ev X (.bI 5) (ptz B)=VC (.agg #[Vz VA i.op,Vz VA i.dst,Vz VA i.two,va,Vz VB i.imm.v]):=by
    have:=dW (ρ:=λ_=>VD) (e:=.un (.bI 5) (.con (ptz B))) hWX (by simpa using hld)
    simpa using this
  refine aN X hX ?_
  simp(disch:=omega)[c3,sX.idxn (N:=6) rfl,a2,hldX]
  refine ni (α:=InsD) (W:=W1) (d:=i) El.qe rfl hi1 λu5 h5 src hle5 hs5=>⟨Vx hX hle5,?_⟩
  refine(w1.ext' hle5).dA (k:=(2,b)) (α:=InsD) (v:=(nth lb b).ins.v) (l:=(nth m.blocks b).ins) (l2:=[i]) (bb.ins b hb) El.qe rfl rfl src Vt Vt λv6 h6 w6 m6=>⟨(m6.view (Vx hX hle5) (avX b hb).2).1,?_⟩
  have hv6:=(w6.cells (k:=(2,b)) Own.an).2
  refine w6.tA (k:=(0,2)) (α:=BlkM) BlkM.jm (v:=vb) (l:=lb) (i:=b) (d:=⟨v6⟩) bb.blk V0 rfl rfl hbl (iT.2 ⟨rfl,hv6⟩) λh7 w7 _=>?_
  have b7:=bb.iq hb (x':={ nth m.blocks b with ins:=(nth m.blocks b).ins++[i] }) (y':={ lb[b]with ins:=⟨v6⟩ }) (o':=(o.upd (2,b) (it T.fj v6 ((nth m.blocks b).ins++[i]))).upd (0,2) (it T.fi vb (lb.set b { lb[b]with ins:=⟨v6⟩ }))) (by rw[<-bb.term b hb,az hbl]) Own.an (by rw[<-az hbl];exact bb.phis b hb) ((Own.aB V5).trans Own.an) (λq h1 h2 h3=>by rw[Own.aB h1,Own.aB h3])
  generalize hm7:({ m with blocks:=m.blocks.set b { nth m.blocks b with ins:=(nth m.blocks b).ins++[i] } }:MS)=m7 at b7
  have hadd:m.add b i={ m7 with live:=m.live++bz i }:=by rw[<-hm7];rfl
  have hl7:m7.live=m.live:=by rw[<-hm7]
  have hf7 : ∀k:Key,3<=k.1->((o.upd (2,b) (it T.fj v6 ((nth m.blocks b).ins++[i]))).upd (0,2) (it T.fi vb (lb.set b { lb[b]with ins:=⟨v6⟩ }))) k=o k:=λk hk=>by
    rw[Own.aB (by rintro rfl;simp at hk),Own.aB (by rintro rfl;simp at hk)]
  generalize (o.upd (2,b) (it T.fj v6 ((nth m.blocks b).ins++[i]))).upd (0,2) (it T.fi vb (lb.set b { lb[b]with ins:=⟨v6⟩ }))=o7 at w7 b7 hf7
  generalize lb.set b { lb[b]with ins:=⟨v6⟩ }=lb7 at b7
  clear src avX m6
  subst hz
  refine aa λz hz=>?_
  have hld7:Un.ev (vw h7) (.bI 5) (ptz B)=VC (.agg #[Vz VA i.op,Vz VA i.dst,Vz VA i.two,va,Vz VB i.imm.v]):=by
    have:=dW (ρ:=λ_=>VD) (e:=.un (.bI 5) (.con (ptz B))) w7.wle (by simpa using hld)
    simpa using this
  simp[hld7]
  refine ah V0 (sK (hi1.mono w7.wle)) ?_
  rintro u8 h8 ⟨hle8,hu8,-⟩
  have w8:=w7.ext hle8
  have hu8:SlRd (grow W1 h7 h8) u8 (bz i):=hu8.mono (zK (RX _) Vw)
  have hW8:=bC (h':=h8) w7.wle
  generalize grow W1 h7 h8=W8 at w8 hu8 hW8
  subst hz
  have c58:aq (vw h8) ⟨M,5,VD⟩=VC vl:=b7.cell w8 (i:=5) V6
  have hmk:(bz i).length<=2:=by
                                         unfold bz;repeat' split
                                         all_goals simp
  simp[c58]
  refine w8.dA (k:=(0,1)) (α:=Int) (v:=vl) (l:=m.live) (l2:=bz i) (by rw[<-hl7];exact b7.live) El.aZ rfl rfl (hu8.src w8.wle) V4 V4 λv9 h9 w9 m9=>?_
  have hv9:=(w9.cells (k:=(0,1)) Own.an).2
  have hbx9:(o7.upd (0,1) (it T.int v9 (m.live++bz i))) (0,0)=bx T.bE M (RawN.mk (n:=5) (mkL vs m7.at_ m7.ps vb m7.next vl)):=b7.box
  refine w9.dT (k:=(0,0)) (n:=5) (i:=5) (e:=T.bE) (B:=M) (l:=mkL vs m7.at_ m7.ps vb m7.next vl) hbx9 V6 V0 rfl rfl hv9 λh10 w10 _=>?_
  refine hK _ _ ⟨W8,_,Vx hW1 hW8,⟨w10,src1.mono hW8,vb,v9,lb7,?_⟩,λk hk=>?_⟩
  · rw[hadd]
    exact⟨rfl,rfl,b7.blk,b7.len,b7.term,b7.phis,b7.ins⟩
  · rw[Own.aB (by rintro rfl;simp at hk),Own.aB (by rintro rfl;simp at hk)]
    exact hf7 k hk
end
section
structure MS.ok(c:Nat)(m:MS):Prop where
 at_:m.at_<=c
 n0:0<=m.next
 next:m.next<=c
 live:m.live.length<=c
 ins : ∀i,(nth m.blocks i).ins.length<=c
theorem MS.ok.mono{c d:Nat}{m:MS}(h:m.ok c)(hd:c<=d):m.ok d:=
 ⟨by have:=h.at_;omega,h.n0,by have:=h.next;omega,by have:=h.live;omega,λi=>by have:=h.ins i;omega⟩
theorem MS.ok.took{c:Nat}{m:MS}(h:m.ok c):m.took.ok (c+1):=
 ⟨by have:=h.at_;show m.at_+1<=_;omega,h.n0,by have:=h.next;show m.next<=_;omega,by have:=h.live;show m.live.length<=_;omega,λi=>by have:=h.ins i;show(nth m.blocks i).ins.length<=_;omega⟩
theorem MS.ok.aW{c:Nat}{m:MS}(h:m.ok c):m.aW.ok (c+1):=
 ⟨by have:=h.at_;show m.at_<=_;omega,by have:=h.n0;show 0<=m.next+1;omega,by have:=h.next;show m.next+1<=_;omega,by have:=h.live;show m.live.length<=_;omega,λi=>by have:=h.ins i;show(nth m.blocks i).ins.length<=_;omega⟩
theorem IC{i:InsD}:(bz i).length<=2:=by
 unfold bz;repeat' split
 all_goals simp
theorem MS.ok.add{c b:Nat}{m:MS}{i:InsD}(h:m.ok c):(m.add b i).ok (c+2):=by
 refine⟨by have:=h.at_;show m.at_<=_;omega,h.n0,by have:=h.next;show m.next<=_;omega,?_,λj=>?_⟩
 ·have:=h.live;have:=IC (i:=i);show(m.live++bz i).length<=_;rw[Sf];omega
 show(nth (m.blocks.set b _) j).ins.length<=_;have hj:=h.ins j;rcases Sb j m.blocks.length with hl | hl
 ·rw[bs hl];split
  ·rename_i e;subst e;rw[Sf,Su];omega
  omega
 rw[bK (by simpa using hl)];rw[bK hl]at hj;omega
theorem MS.ok.constant{c b:Nat}{m:MS}{n:Int}(h:m.ok c):(m.constant b n).ok (c+3):=h.aW.add
theorem MS.ok.two{c b:Nat}{m:MS}{op x y:Int}(h:m.ok c):(m.two b op x y).ok (c+3):=h.aW.add
variable{s:List Int}{M:Nat}{vs:Value}{W:View}{h:Heap}{o:Own}{m:MS}
theorem MS.ok.aH{c b:Nat}(h:m.ok c):(aH s m b).2.ok (c+10):=by
 unfold Go.Lft.aH;repeat' split
 ·exact(h.took.took.constant).mono V4
 ·exact(h.took.took.took.took.took.constant).mono V4
 exact(h.took.took.took).mono V4
variable{b:Nat}
theorem mF{i:InsD}:(m.add b i).blocks.length=m.blocks.length:=by simp[MS.add]
theorem ed:(aH s m b).2.blocks.length=m.blocks.length:=by
 unfold aH;repeat' split
 all_goals simp[GY,MS.constant,mF,MS.took,MS.aW]
theorem Mk.constant(w:Mk s M vs W h o m){b c:Nat}{n:Int}(hb:b<m.blocks.length)(hm:m.ok c)(hc:c<=1000000)(hn:-2147483648<=n/\n<=2147483647) :
  ay VI 43 #[ptz M,Vz VA b,Vz VB n] h (λu h'=>u = Vz VA m.next/\Nx s M vs W h' o (m.constant b n)):=by refine ao (args:=[ptz M,Vz VA b,Vz VB n]) follows Tryz.func43 E.gE Vu λK hK=>?_;have q1:=hm.next;have q0:=hm.n0;dsimp only[L.gE,lkF,lkG];refine aa λz hz=>?_;simp;subst hz;refine aa λz hz=>?_;simp;refine ah V0 (w.fresh q0 V4) ?_;rintro _ h2 ⟨rfl,o2,w2,f2⟩;subst hz;refine aa λz hz=>?_;simp;refine aA (z:=zz5) (places:=zpa) (vs:=[(0,Vz VA 1),(1,Vz VA m.next),(4,Vz VB n)]) (cs:=#[Vz VA 1,Vz VA m.next,Vz VA 0,VE VD 0 0,Vz VB n]) V0 V0 V5 V0 ?_;have hm2:=hm.aW;refine ah V0 (w2.add (i:=conD m.next n) hb (Ds (imm:=⟨n⟩) ⟨⟨V6,V6⟩,V9,⟨V6,V6⟩,hn⟩ aL) (by have:=hm2.ins b;omega) (by have:=hm2.live;omega)) ?_;rintro u3 h3 n3;subst hz;simp;exact hK _ _ ⟨rfl,n3.trans Vw f2⟩
theorem HK(w:Mk s M vs W h o m){c:Nat}(hb:b<m.blocks.length)(hm:m.ok c)(hc:c<=999990):
  ay VI 86 #[ptz M,Vz VA b] h (λu h'=>u = Vz VA (aH s m b).1/\I64 (aH s m b).1/\Nx s M vs W h' o (aH s m b).2):=by
 refine ao (args:=[ptz M,Vz VA b]) follows Tryz.func86 E.jJ Vu λK hK=>?_;have qa:=hm.at_;have ql:=hm.live;have hsd:aH s m b=_:=aH.eq_1 s m b;dsimp only[L.jJ,lkF,lkG];refine aa λz hz=>?_;simp;subst hz;refine aa λz hz=>?_;simp;refine ah V0 (w.value V4 V4) ?_;rintro u h2 hu;have con : ∀{m2:MS} {o2:Own} {h2:Heap} {ρ:Env} {z:LC},Mk s M vs W h2 o2 m2->(∀k:Key,3<=k.1->o2 k=o k)->m2.ok (c+3)->b<m2.blocks.length->aH s m b=(m2.next,GY s m2 b)->Lft.look ρ 0=VC (ptz M)->Lft.look ρ 1=VC (Vz VA b)->
   LC.wp VI (.seq (.reg VH (.loud [19,20,21] [(19,(.tmp 0)),(20,(.tmp 1))] [(21,(.tmp 0))] VD [] VH (.call ⟨.value (.func 44),#[(.tmp 21)],#[T.tO]⟩) 21 (VC 22) VG
   (.loud [] [] [(19,(.tmp 19)),(20,(.tmp 20)),(22,(.tmp 22))] VD [] VH (.call ⟨.value (.func 43),#[(.tmp 19),(.tmp 20),(.tmp 22)],#[T.tO,3,21]⟩) 3 (VC 23) VG
    (.fin [4] [(4,(.tmp 23))] [])))) .ret) (fL (LC.wp VI z (dR [.tmp 4] K)) (dR [.tmp 4] K)) ρ h2:=by intro m2 o2 h2 ρ z w2 f2 k2 b2 e2 r0 r1;refine aa λy hy=>?_;simp[r0,r1];refine ah V0 (w2.word (by have:=k2.at_;omega)) ?_;rintro _ h3 ⟨rfl,o3,w3,f3⟩;simp[af,ag,r0,r1];refine ah V0 (w3.constant (n:=jW s m2) b2 k2.took.took V4 tK) ?_;rintro _ h4 ⟨rfl,n4⟩;subst hy;simp[af,ag];refine hK _ _ ⟨by rw[e2];rfl,by rw[e2];have:=k2.n0;have:=k2.next;exact⟨by show _<=m2.next;omega,by show m2.next<=_;omega⟩,?_⟩;rw[e2];exact n4.trans Vw λk hk=>(f3 k hk).trans (f2 k hk)
 rcases hu with⟨h0,rfl,rfl⟩ | ⟨h0,rfl,hi64,o2,w2,f2⟩
 ·rw[if_pos h0]at hsd;simp;subst hz;refine aa λz hz=>?_;refine aa λy hy=>?_;simp;subst hy;refine aV V5 ?_;exact con w (λ_ _=>rfl) (hm.mono V4) hb hsd (by simp[af,ag]) (by simp[af,ag])
 rw[if_neg h0]at hsd;simp;subst hz;refine aa λz hz=>?_;refine aa λy hy=>?_;simp;have k2:=hm.took.took;refine ah V0 (w2.take (by have:=k2.at_;omega) (n:=9) V6 V6) ?_;rintro _ h3 ⟨rfl,o3,w3,f3⟩;have hx:m.took.took.at_=m.at_+2:=rfl;rw[hx];simp;subst hy;by_cases c9:aG s (m.at_+2) 9=0
 ·rw[if_pos c9]at hsd;refine aV (by simp[c9]) ?_;exact con w3 (λk hk=>(f3 k hk).trans (f2 k hk)) k2.took hb hsd (by simp[af,ag]) (by simp[af,ag])
 rw[if_neg c9]at hsd;refine bg (by simp[c9]) ?_;simp;subst hz;simp;refine hK _ _ ⟨by rw[hsd],by rw[hsd];exact hi64,?_⟩;rw[hsd];exact w3.nx.trans Vw λk hk=>(f3 k hk).trans (f2 k hk)
end
def Nz(s:List Int)(M:Nat)(vs:Value)(W0:View)(h:Heap)(o0:Own)(m:MS)(u:Value)(ds:List Int):Prop:=∃W o,W0.le W/\Mk s M vs W h o m/\(∀k:Key,3<=k.1->o k=o0 k)/\SlRd W u ds
section
variable{s:List Int}{M:Nat}{vs:Value}{W0:View}{h:Heap}{o0:Own}{m:MS}{u:Value}{ds:List Int}
theorem Nx.z(n:Nx s M vs W0 h o0 m):Nz s M vs W0 h o0 m (VE VD 0 0) []:=by obtain⟨W,o,h1,h2,h3⟩:=n;exact⟨W,o,h1,h2,h3,aL⟩
theorem Nz.x(n:Nz s M vs W0 h o0 m u ds):Nx s M vs W0 h o0 m:=by obtain⟨W,o,h1,h2,h3,_⟩:=n;exact⟨W,o,h1,h2,h3⟩
theorem Nz.call{f:FuncId}{args:Array Value}{m':MS}{U:Value->Prop}(hc : ∀{W o},Mk s M vs W h o m->ay VI f args h (λu h'=>U u/\Nx s M vs W h' o m'))(n:Nz s M vs W0 h o0 m u ds):
  ay VI f args h (λv h'=>U v/\Nz s M vs W0 h' o0 m' u ds):=by obtain⟨W,o,h1,h2,h3,h4⟩:=n;refine(hc h2).mono ?_;rintro v h' ⟨hU,W',o',g1,g2,g3⟩;exact⟨hU,W',o',Vx h1 g1,g2,λk hk=>(g3 k hk).trans (h3 k hk),h4.mono g1⟩
theorem fB(n:Nz s M vs W0 h o0 m u ds){c:Nat}(hm:m.ok c)(hc:c<=1000000){k:Int}(hk:0<k)(hk2:k<=1000000000):
  ay VI 34 #[ptz M,Vz VA k] h (λv h'=>v = Vz VA (aG s m.at_ k)/\Nz s M vs W0 h' o0 m.took u ds):=
 n.call (U:=λv=>v=_) λw=>((w.take (by have:=hm.at_;omega) hk hk2).mono λv h' ⟨e,o',w',f'⟩=>⟨e,w'.nx.trans Vw f'⟩)
theorem iI(n:Nz s M vs W0 h o0 m u ds){c:Nat}(hm:m.ok c)(hc:c<=1000000):
  ay VI 37 #[ptz M] h (λv h'=>v = Vz VA m.next/\Nz s M vs W0 h' o0 m.aW u ds):=
 n.call (U:=λv=>v=_) λw=>((w.fresh hm.n0 (by have:=hm.next;omega)).mono λv h' ⟨e,o',w',f'⟩=>⟨e,w'.nx.trans Vw f'⟩)
theorem Cf(n:Nz s M vs W0 h o0 m u ds){c:Nat}(hm:m.ok c)(hc:c<=1000000):
  ay VI 44 #[ptz M] h (λv h'=>v = Vz VB (jW s m)/\Nz s M vs W0 h' o0 m.took.took u ds):=
 n.call (U:=λv=>v=_) λw=>((w.word (by have:=hm.at_;omega)).mono λv h' ⟨e,o',w',f'⟩=>⟨e,w'.nx.trans Vw f'⟩)
variable{b:Nat}
theorem ig(n:Nz s M vs W0 h o0 m u ds){c:Nat}(hb:b<m.blocks.length)(hm:m.ok c)(hc:c<=1000000){k:Int}(hk:-2147483648<=k/\k<=2147483647):
  ay VI 43 #[ptz M,Vz VA b,Vz VB k] h (λv h'=>v = Vz VA m.next/\Nz s M vs W0 h' o0 (m.constant b k) u ds):=
 n.call (U:=λv=>v=_) λw=>w.constant hb hm hc hk
theorem jA(n:Nz s M vs W0 h o0 m u ds){c:Nat}(hb:b<m.blocks.length)(hm:m.ok c)(hc:c<=999990):
  ay VI 86 #[ptz M,Vz VA b] h (λv h'=>(v = Vz VA (aH s m b).1/\I64 (aH s m b).1)/\Nz s M vs W0 h' o0 (aH s m b).2 u ds):=
 n.call (U:=λv=>v=_/\_) λw=>(HK w hb hm hc).mono λv h' ⟨e1,e2,e3⟩=>⟨⟨e1,e2⟩,e3⟩
variable{op:Int}
theorem nk(n:Nz s M vs W0 h o0 m u ds){c:Nat}{d two imm:Int}(hb:b<m.blocks.length)(hm:m.ok c)(hc:c<=1000000)(h1:I64 op)(h2:I64 d)(h3:I64 two)(h4:-2147483648<=imm/\imm<=2147483647):
  ay VI 87 #[ptz M,Vz VA b,.agg #[Vz VA op,Vz VA d,Vz VA two,u,Vz VB imm]] h (λv h'=>Nx s M vs W0 h' o0 (m.add b ⟨op,d,two,ds,⟨imm⟩⟩)):=by obtain⟨W,o,g1,g2,g3,g4⟩:=n;refine(g2.add (i:=⟨op,d,two,ds,⟨imm⟩⟩) hb (Ds (imm:=⟨imm⟩) ⟨h1,h2,h3,h4⟩ g4) (by have:=hm.ins b;omega) (by have:=hm.live;omega)).mono ?_;rintro v h' n';exact n'.trans g1 g3
theorem Nz.lit{po:OP}(n:Nz s M vs W0 h o0 m u ds){ty:TypeId}{ps:Array (Nat × Operand)}{us:List (Nat × Value)}{ls:List Int}{k:Nat}{K:Value->Heap->Prop}(hp:ps.map (λp=>(p.1,asg us p.2))=(((ls.map λx=>Vz VA x).zipIdx 0).map λp=>(p.2,p.1)).toArray)(hr : ∀x∈ls,I64 x)(hn:ls.length=k)(hb:k<=16777216)(hk : ∀a n c h',(vw h).le (vw h')->Nz s M vs W0 h' o0 m (.slice a n c) ls->K (.slice a n c) h'):@Lft.step po VI (.buildSlice T.aZ k ps) ty us h K:=by
 obtain⟨W,o,g1,g2,g3,g4⟩:=n;have hra : ∀l:List Int,(∀x∈l,I64 x)->sw W (l.map λx=>Vz VA x) l:=by
  intro l;induction l with
  | nil=>intro _;trivial
  | cons a l ih=>intro hl;exact⟨bu.2 ⟨rfl,hl a V5⟩,ih λx hx=>hl x (by simp[hx])⟩
 refine nJ (X:=W) (ds:=ls) (vs:=ls.map λx=>Vz VA x) rfl El.aZ hp (hra ls hr) g2.own.wle hn hb λv h' hle hs hv _=>?_;have hs2:=hv _ (bC g2.own.wle) (cg (RX _));obtain⟨a,cp,rfl,_⟩:=id hs2;refine hk _ _ _ h' hle ?_;exact⟨_,o,Vx g1 (bC g2.own.wle),⟨g2.own.ext hle,g2.src.mono (bC g2.own.wle),g2.box⟩,g3,hs2⟩
end
theorem MS.ok.ln{c:Nat}{m:MS}(h:m.ok c)(hc:c<=1000000):I64 m.next:=by have:=h.n0;have:=h.next;constructor<;>omega
variable{b:Nat}
theorem dX{m:MS}{n:Int}:(m.constant b n).blocks.length=m.blocks.length:=mF
variable{op:Int}
theorem rz{m:MS}{x y:Int}:(m.two b op x y).blocks.length=m.blocks.length:=mF
theorem i64c{x:Int}(h0:-1000<=x:=by decide)(h1:x<=1000:=by decide):I64 x:=V9
variable{vs:Value}
theorem Iz{s:List Int}{M:Nat}{W0:View}{h:Heap}{o0:Own}{m:MS}(n:Nx s M vs W0 h o0 m){c:Nat}{store:Bool}(hb:b<m.blocks.length)(hm:m.ok c)(hc:c<=900000):
  ay VI 88 #[ptz M,Vz VA b,.bool store] h (λv h'=>Nx s M vs W0 h' o0 (iW s m b store)):=by
 refine ao (args:=[ptz M,Vz VA b,.bool store]) follows Tryz.func88 E.ir Vu λK hK=>?_;dsimp only[L.ir,lkF,lkG];have n:=n.z;have hmm:iW s m b store=_:=iW.eq_1 s m b store;refine aa λz hz=>?_;simp;refine ah V0 (fB n hm V4 (k:=9) V6 V6) ?_;rintro _ h1 ⟨rfl,n⟩;simp;refine ah V0 (ig n (b:=b) hb hm.took V4 (k:=IntKind.i32.wrap (aG s m.at_ 9)) oR) ?_;rintro _ h2 ⟨rfl,n⟩;have q:=hm.took.constant (b:=b) (n:=IntKind.i32.wrap (aG s m.at_ 9));have hb1:b<(m.took.constant b (IntKind.i32.wrap (aG s m.at_ 9))).blocks.length:=by rw[dX];exact hb
 obtain⟨m1,hm1⟩ : ∃m1,m1=m.took.constant b (IntKind.i32.wrap (aG s m.at_ 9)):=⟨_,rfl⟩;have had:jO s m b=_:=jO.eq_1 s m b;rw[<-hm1]at n q hb1;simp only[<-hm1]at had;have hnx:I64 m.next:=hm.ln V4;have hnt:m.took.next=m.next:=rfl;rw[hnt];generalize m.next=a0 at had hnx;clear hm1 hm hnt;subst hz;refine aa λz hz=>?_;have fin : ∀(a:Int) (m2:MS) (h':Heap) (ρ:Env),jO s m b=(a,m2)->I64 a->m2.ok (c+30)->b<m2.blocks.length->Nz s M vs W0 h' o0 m2 (VE VD 0 0) []->Lft.look ρ 0=VC (ptz M)->Lft.look ρ 1=VC (Vz VA b)->Lft.look ρ 2=VC (.bool store)->Lft.look ρ 6=VC (Vz VA a)->LC.wp VI z (dR [] K) ρ h':=by
  intro a m2 h' ρ e ha q hb n r0 r1 r2 r6;subst hz;simp only[e]at hmm;refine aa λz hz=>?_;simp[af,ag,r0,r1,r2,r6];refine ah V0 (fB n q V4 (k:=4) V6 V6) ?_;rintro _ h1 ⟨rfl,n⟩;simp[af,ag,r0,r1,r2,r6];subst hz;refine aa λz hz=>?_;have fin2 : ∀(i:Int) (m3:MS) (h':Heap) (ρ:Env),offS s m2=(i,m3)->(-2147483648<=i/\i<=2147483647)->m3.ok (c+40)->b<m3.blocks.length->Nz s M vs W0 h' o0 m3 (VE VD 0 0) []->Lft.look ρ 0=VC (ptz M)->Lft.look ρ 1=VC (Vz VA b)->Lft.look ρ 2=VC (.bool store)->Lft.look ρ 6=VC (Vz VA a)->Lft.look ρ 11=VC (Vz VB i)->LC.wp VI z (dR [] K) ρ h':=by
   intro i m3 h' ρ e hi q hb n r0 r1 r2 r6 r11;subst hz;simp only[e]at hmm;refine aa λz hz=>?_;simp[af,ag,r0,r1,r2,r6,r11];subst hz;cases store with
   | true=>rw[if_pos rfl]at hmm;refine aV (by simp[af,ag,r2]) ?_;simp[af,ag,r0,r1,r2,r6,r11];refine ah V0 (jA n hb q V4) ?_;rintro _ h1 ⟨⟨rfl,hs⟩,n⟩;refine n.lit (ls:=[a,(aH s m3 b).1]) V5 (by simp[ha,hs]) rfl V6 λua un uc h2 _ n=>?_;refine aA (z:=zz5) (places:=zpa) (vs:=[(0,Vz VA 16),(3,.slice ua un uc),(4,Vz VB i)]) (cs:=#[Vz VA 16,Vz VA 0,Vz VA 0,.slice ua un uc,Vz VB i]) V0 V0 V5 V0 ?_;refine ah V0 (nk n (b:=b) (by rw[ed];exact hb) (q.aH (b:=b)) V4 i64c i64c i64c hi) ?_;rintro _ h3 n;refine hK _ _ ?_;rw[hmm];exact n
   | false=>rw[if_neg V5]at hmm;refine bg (by simp[af,ag,r2]) ?_;simp[af,ag,r0,r1,r2,r6,r11];refine ah V0 (iI n q V4) ?_;rintro _ h1 ⟨rfl,n⟩;refine n.lit (ls:=[a]) V5 (by simp[ha]) rfl V6 λua un uc h2 _ n=>?_;refine aA (z:=zz5) (places:=zpa) (vs:=[(0,Vz VA 15),(1,Vz VA m3.next),(3,.slice ua un uc),(4,Vz VB i)]) (cs:=#[Vz VA 15,Vz VA m3.next,Vz VA 0,.slice ua un uc,Vz VB i]) V0 V0 V5 V0 ?_;refine ah V0 (nk n (b:=b) hb q.aW V4 i64c (q.ln V4) i64c hi) ?_;rintro _ h3 n;refine hK _ _ ?_;rw[hmm];exact n
  have hof:offS s m2=_:=offS.eq_1 s m2;refine aa λy hy=>?_;simp[af,ag,r0,r1,r2,r6];refine ah V0 (fB n q.took V4 (k:=12) V6 V6) ?_;rintro _ h2 ⟨rfl,n⟩;have hx:m2.took.at_=m2.at_+1:=rfl;rw[hx];simp[af,ag,r0,r1,r2,r6];subst hy;by_cases c12:aG s (m2.at_+1) 12=0
  ·rw[if_pos c12]at hof;refine aV (by simp[af,ag,c12]) ?_;simp[af,ag,r0,r1,r2,r6];refine ah V0 (Cf n q.took.took V4) ?_;rintro _ h3 ⟨rfl,n⟩;exact fin2 _ _ h3 _ hof tK (q.took.took.took.took.mono V4) hb n (by simp[af,ag,r0]) (by simp[af,ag,r1]) (by simp[af,ag,r2]) (by simp[af,ag,r6]) (by simp[af,ag])
  rw[if_neg c12]at hof;refine bg (by simp[af,ag,c12]) ?_;simp[af,ag,r0,r1,r2,r6];exact fin2 _ _ h2 _ hof oR (q.took.took.mono V4) hb n (by simp[af,ag,r0]) (by simp[af,ag,r1]) (by simp[af,ag,r2]) (by simp[af,ag,r6]) (by simp[af,ag])
 refine aa λy hy=>?_;simp;refine ah V0 (fB n q V4 (k:=3) V6 V6) ?_;rintro _ h3 ⟨rfl,n⟩;simp;subst hy;by_cases c3:aG s m1.at_ 3=0
 ·rw[if_pos c3]at had;refine aV (by simp[c3]) ?_;refine aa λy hy=>?_;simp;refine ah V0 (jA n (b:=b) hb1 q.took V4) ?_;rintro _ h4 ⟨⟨rfl,hs⟩,n⟩;have q:=q.took.aH (s:=s) (b:=b);have hb2:b<(aH s m1.took b).2.blocks.length:=by rw[ed];exact hb1
  generalize aH s m1.took b=r at had hs n q hb2;subst hy;refine aa λy hy=>?_;simp;refine ah V0 (ig n (b:=b) hb2 q V4 (k:=7) V6) ?_;rintro _ h5 ⟨rfl,n⟩;subst hy;refine aa λy hy=>?_;simp;have q5:=q.constant (b:=b) (n:=7);refine ah V0 (iI n q5 V4) ?_;rintro _ h6 ⟨rfl,n⟩;have hn5:(r.2.constant b 7).next=r.2.next+1:=rfl;rw[hn5];subst hy;refine aa λy hy=>?_;simp;have i5:=q5.ln V4;rw[hn5]at i5;refine n.lit (ls:=[r.1,r.2.next]) V5 (by simp[hs,q.ln (by omega:c+1+3+1+10<=1000000)]) rfl V6 λua un uc h7 _ n=>?_;refine aA (z:=zz5) (places:=zpa) (vs:=[(0,Vz VA 5),(1,Vz VA (r.2.next+1)),(3,.slice ua un uc)]) (cs:=#[Vz VA 5,Vz VA (r.2.next+1),Vz VA 0,.slice ua un uc,Vz VB 0]) V0 V0 V5 V0 ?_;refine ah V0 (nk n (b:=b) (imm:=0) (by rw[show(r.2.constant b 7).aW.blocks=(r.2.constant b 7).blocks from rfl,dX];exact hb2) q5.aW V4 i64c i5 i64c V6) ?_;rintro _ h8 n;have n:Nx s M vs W0 h8 o0 ((r.2.constant b 7).two b 5 r.1 r.2.next):=n;have q6:=q5.two (b:=b) (op:=5) (x:=r.1) (y:=r.2.next);have hb3:b<((r.2.constant b 7).two b 5 r.1 r.2.next).blocks.length:=by rw[rz,dX];exact hb2
  generalize (r.2.constant b 7).two b 5 r.1 r.2.next=m3 at had n q6 hb3;have n:=n.z;subst hy;refine aa λy hy=>?_;simp;refine ah V0 (iI n q6 V4) ?_;rintro _ h9 ⟨rfl,n⟩;subst hy;refine aa λy hy=>?_;simp;refine n.lit (ls:=[a0,r.2.next+1]) V5 (by simp[hnx,i5]) rfl V6 λua2 un2 uc2 h10 _ n=>?_;refine aA (z:=zz5) (places:=zpa) (vs:=[(0,Vz VA 2),(1,Vz VA m3.next),(3,.slice ua2 un2 uc2)]) (cs:=#[Vz VA 2,Vz VA m3.next,Vz VA 0,.slice ua2 un2 uc2,Vz VB 0]) V0 V0 V5 V0 ?_;refine ah V0 (nk n (b:=b) (imm:=0) hb3 q6.aW V4 i64c (q6.ln V4) i64c V6) ?_;rintro _ h11 n;subst hy;simp;refine fin m3.next (m3.two b 2 a0 (r.2.next+1)) h11 _ had (q6.ln V4) (q6.two.mono V4) (by rw[rz];exact hb3) n.z ?_ ?_ ?_ ?_;all_goals simp
 rw[if_neg c3]at had;refine bg (by simp[c3]) ?_;simp;exact fin a0 m1.took h3 _ had hnx (q.took.mono V4) hb1 n V5 V5 V5 V5
section
variable{s:List Int}{M:Nat}{vs:Value}{W0:View}{h:Heap}{o0:Own}{m:MS}{u:Value}{ds:List Int}
theorem Nz.le(n:Nz s M vs W0 h o0 m u ds):W0.le (vw h):=by obtain⟨W,o,h1,h2,_⟩:=n;exact Vx h1 h2.own.wle
theorem Nz.base(n:Nz s M vs W0 h o0 m u ds): ∃W o,Nz s M vs W h o m u ds/\SlRd W u ds/\∀{h' m' u' ds'},Nz s M vs W h' o m' u' ds'->Nz s M vs W0 h' o0 m' u' ds':=by obtain⟨W,o,h1,h2,h3,h4⟩:=n;refine⟨W,o,⟨W,o,View.le_refl _,h2,λ_ _=>rfl,h4⟩,h4,?_⟩;rintro h' m' u' ds' ⟨W',o',g1,g2,g3,g4⟩;exact⟨W',o',Vx h1 g1,g2,λk hk=>(g3 k hk).trans (h3 k hk),g4⟩
end
theorem Jl{H:View}{B n:Nat}{l:List Int}{t:TypeId}(hb:H B=VC (.cells (l.map λx=>Vz VA x).toArray t (0,0)))(hn:l.length=n)(h1:0<n/\n<=1000)(hr : ∀x∈l,I64 x):SlRd H (VE (VC ⟨B,0,VD⟩) n n) l:=by
 refine⟨VC ⟨B,0,VD⟩,n,by rw[hn],by omega,by omega,.inr ⟨⟨B,0,VD⟩,rfl,rfl,λi hi=>?_⟩⟩;have e:(⟨B,0,VD⟩:Addr).add (i*Rep.n Int)=⟨B,i,VD⟩:=by show(⟨B,0,VD⟩:Addr).add (i*1)=_;simp
 rw[e];refine⟨[Vz VA l[i]],⟨_,t,(0,0),rfl,hb,?_⟩,(bu (v:=Vz VA l[i]) (H:=H)).2 ⟨rfl,hr _ (S9 hi)⟩ |> λq=>?_⟩
 ·show((l.map λx=>Vz VA x).toArray.toList.drop i).take 1=_;rw[List.toList_toArray,SD (by simpa using hi)];simp
 exact⟨rfl,hr _ (S9 hi)⟩
theorem Jn: ∀x∈opsL,I64 x:=by
 intro x hx;have : ∀x∈opsL,0<=x/\x<=12:=by decide
 have:=this x hx;exact V9
variable{vb vl:Value}{lb:List BlkM}
theorem MkB.frame{M:Nat}{m:MS}{o o':Own}(b:MkB M vs m o vb vl lb)(hf : ∀k:Key,k.1<3->o' k=o k):MkB M vs m o' vb vl lb:=
 ⟨(hf _ V6).trans b.box,(hf _ V6).trans b.live,(hf _ V6).trans b.blk,b.len,b.term,λi hi=>(hf _ (by show 1<3;decide)).trans (b.phis i hi),λi hi=>(hf _ (by show 2<3;decide)).trans (b.ins i hi)⟩
theorem EW{s:List Int}{x:List Int × MS}: ∀k,(up (fR s b) k x).2.blocks.length=x.2.blocks.length:=by
 intro k;induction k with
 | zero=>rfl
 | succ k ih=>show(aH s (up (fR s b) k x).2 b).2.blocks.length=_;rw[ed,ih]
theorem GW{s:List Int}{c:Nat}{x:List Int × MS}(hx:x.2.ok c): ∀k,(up (fR s b) k x).2.ok (c+10*k)/\(up (fR s b) k x).1.length=x.1.length+k/\(up (fR s b) k x).2.blocks.length=x.2.blocks.length:=by
 intro k;induction k with
 | zero=>exact⟨hx,rfl,rfl⟩
 | succ k ih=>
  obtain⟨h1,h2,h3⟩:=ih;refine⟨(h1.aH).mono V4,?_,?_⟩
  ·show((up (fR s b) k x).1++[_]).length=_;rw[Sf,h2,Su];omega
  show(aH s (up (fR s b) k x).2 b).2.blocks.length=_;rw[ed,h3]
theorem Af{s:List Int}{M:Nat}{W0:View}{h:Heap}{o0:Own}{m:MS}(n:Nx s M vs W0 h o0 m){c:Nat}(hb:b<m.blocks.length)(hm:m.ok c)(hc:c<=800000)(hfree:o0 (9,0)=VD):
  ay VI 40 #[ptz M,Vz VA b] h (λv h'=>Nx s M vs W0 h' o0 (aO s b m)):=by
 refine ao (args:=[ptz M,Vz VA b]) follows Tryz.func40 E.bD Vu λK hK=>?_;dsimp only[L.bD,lkF,lkG];have n:=n.z;have hmm:aO s b m=_:=aO.eq_1 s b m;refine aa λz hz=>?_;simp;refine ah V0 (fB n hm V4 (k:=20) V6 V6) ?_;rintro _ h1 ⟨rfl,n⟩;obtain⟨k0,k1⟩:=bU (s:=s) (at_:=m.at_) (n:=20) V6;have q:=hm.took;have hb1:b<m.took.blocks.length:=hb;subst hz;generalize aG s m.at_ 20=k at hmm k0 k1;generalize hm1:m.took=m1 at hmm n q hb1;have hw:jW s m1=jW s m1:=rfl;simp only[aX];refine aa λz hz=>?_;simp;subst hz;by_cases c1:k<12
 ·rw[if_pos c1]at hmm;refine aV (by simp[c1]) ?_;obtain⟨kn,rfl⟩ : ∃kn:Nat,k=kn:=⟨k.toNat,by omega⟩;have hkn:kn<12:=by omega
  refine aa λz hz=>?_;simp;have hcs:(#[Vz VA 2,Vz VA 2,Vz VA 3,Vz VA 4,Vz VA 5,Vz VA 6,Vz VA 7,Vz VA 8,Vz VA 9,Vz VA 10,Vz VA 12,Vz VA 11]:Array Value)=(opsL.map λx=>Vz VA x).toArray:=rfl;refine aA (z:=zz11) (places:=[(0,1),(1,1),(2,1),(3,1),(4,1),(5,1),(6,1),(7,1),(8,1),(9,1),(10,1),(11,1)]) (vs:=[(0,Vz VA 2),(1,Vz VA 2),(2,Vz VA 3),(3,Vz VA 4),(4,Vz VA 5),(5,Vz VA 6),(6,Vz VA 7),(7,Vz VA 8),(8,Vz VA 9),(9,Vz VA 10),(10,Vz VA 12),(11,Vz VA 11)])
   (cs:=#[Vz VA 2,Vz VA 2,Vz VA 3,Vz VA 4,Vz VA 5,Vz VA 6,Vz VA 7,Vz VA 8,Vz VA 9,Vz VA 10,Vz VA 12,Vz VA 11]) V0 V0 V5 V0 ?_;refine gA (v:=.agg #[Vz VA 2,Vz VA 2,Vz VA 3,Vz VA 4,Vz VA 5,Vz VA 6,Vz VA 7,Vz VA 8,Vz VA 9,Vz VA 10,Vz VA 12,Vz VA 11]) (z:=.agg #[Vz VA 0,Vz VA 0,Vz VA 0,Vz VA 0,Vz VA 0,Vz VA 0,Vz VA 0,Vz VA 0,Vz VA 0,Vz VA 0,Vz VA 0,Vz VA 0]) (n:=12) V0 rfl V0 rfl Vs V8 V8 λh2 hle2 hs2 hb2=>?_
  have n:Nz s M vs W0 h2 o0 m1 (VE (VC ⟨h1.size,0,VD⟩) 12 12) opsL:=by
   obtain⟨W,o,g1,g2,g3,g4⟩:=n;refine⟨_,o,Vx g1 (bC g2.own.wle),⟨g2.own.ext hle2,g2.src.mono (bC g2.own.wle),g2.box⟩,g3,?_⟩;have hg:grow W h1 h2 h1.size=VC (.cells (opsL.map λx=>Vz VA x).toArray T.Mo (0,0)):=by rw[cg (RX _),hb2];rfl
   exact Jl hg rfl V6 Jn
  generalize h1.size=B at n;subst hz;refine aa λz hz=>?_;simp;refine ah V0 (jA n hb1 q V4) ?_;rintro _ h3 ⟨⟨rfl,i2⟩,n⟩;have q:=q.aH (s:=s) (b:=b);have hb2:b<(aH s m1 b).2.blocks.length:=by rw[ed];exact hb1
  simp only[binS]at hmm;generalize aH s m1 b=r1 at hmm n q hb2 i2;subst hz;refine aa λz hz=>?_;simp;refine ah V0 (jA n hb2 q V4) ?_;rintro _ h4 ⟨⟨rfl,i3⟩,n⟩;have q:=q.aH (s:=s) (b:=b);have hb3:b<(aH s r1.2 b).2.blocks.length:=by rw[ed];exact hb2
  generalize aH s r1.2 b=r2 at hmm n q hb3 i3;subst hz;refine aa λz hz=>?_;have fin : ∀(e:Int) (m3:MS) (h':Heap) (ρ:Env),aO s b m=m3.two b (nth opsL kn) r1.1 e->I64 e->m3.ok (c+60)->b<m3.blocks.length->Nz s M vs W0 h' o0 m3 (VE (VC ⟨B,0,VD⟩) 12 12) opsL->Lft.look ρ 0=VC (ptz M)->Lft.look ρ 1=VC (Vz VA b)->Lft.look ρ 4=VC (Vz VA kn)->Lft.look ρ 5=VC (ptz B)->Lft.look ρ 6=VC (Vz VA r1.1)->Lft.look ρ 7=VC (Vz VA e)->LC.wp VI z (eY 0 (dR [] K)) ρ h':=by
   intro e m3 h' ρ hmm ie q hb n r0 r1' r4 r5 r6 r7;subst hz;obtain⟨W,o,n,sl,back⟩:=n.base;have iop:=sl.range (i:=kn) (by show kn<12;omega);have hop:aq W ⟨B,kn,VD⟩=VC (Vz VA (nth opsL kn)):=by have:=sl.int (View.le_refl W) (i:=kn) (by show kn<12;omega);simpa[slA]using this
   have hix:Bn.ev (.aidx 12 1) (ptz B) (Vz VA kn)=VC (VF (VC ⟨B,kn,VD⟩)):=by simp only[Bn.ev,vP,vI,SA];rw[if_pos V9];simp
   generalize nth opsL kn=op at hmm iop hop;refine aN W n.le ?_;simp[af,ag,r0,r1',r4,r5,r6,r7,hix,hop];constructor
   ·refine ah V0 (iI n q V4) ?_;rintro _ h4 ⟨rfl,n⟩;refine⟨n.le,?_⟩;refine n.lit (ls:=[r1.1,e]) V5 (by simp[i2,ie]) rfl V6 λua un uc h5 _ n=>⟨n.le,?_⟩;refine aA (z:=zz5) (places:=zpa) (vs:=[(0,Vz VA op),(1,Vz VA m3.next),(3,.slice ua un uc)]) (cs:=#[Vz VA op,Vz VA m3.next,Vz VA 0,.slice ua un uc,Vz VB 0]) V0 V0 V5 V0 ?_;refine ah V0 (nk n (b:=b) hb q.aW V4 iop (q.ln V4) i64c V6) ?_;rintro _ h6 n;exact hK _ _ (by rw[hmm];exact(back n.z).x)
   refine n.lit (ls:=[r1.1,e]) V5 (by simp[i2,ie]) rfl V6 λua un uc h5 _ n=>⟨n.le,?_⟩;refine ah V0 (iI n q V4) ?_;rintro _ h4 ⟨rfl,n⟩;refine⟨n.le,?_⟩;refine aA (z:=zz5) (places:=zpa) (vs:=[(0,Vz VA op),(1,Vz VA m3.next),(3,.slice ua un uc)]) (cs:=#[Vz VA op,Vz VA m3.next,Vz VA 0,.slice ua un uc,Vz VB 0]) V0 V0 V5 V0 ?_;refine ah V0 (nk n (b:=b) hb q.aW V4 iop (q.ln V4) i64c V6) ?_;rintro _ h6 n;exact hK _ _ (by rw[hmm];exact(back n.z).x)
  refine aa λy hy=>?_;simp;refine ah V0 (fB n q V4 (k:=3) V6 V6) ?_;rintro _ h5 ⟨rfl,n⟩;simp;subst hy;by_cases c4:aG s r2.2.at_ 3=0
  ·rw[if_pos c4]at hmm;refine aV (by simp[c4]) ?_;simp;refine ah V0 (fB n q.took V4 (k:=40) V6 V6) ?_;rintro _ h6 ⟨rfl,n⟩;have hx:r2.2.took.at_=r2.2.at_+1:=rfl;rw[hx];simp;refine ah V0 (ig n (b:=b) hb3 q.took.took V4 (k:=IntKind.i32.wrap (IntKind.i64.wrap (aG s (r2.2.at_+1) 40-8))) oR) ?_;rintro _ h7 ⟨rfl,n⟩;refine fin r2.2.next _ h7 _ hmm (q.ln V4) (q.took.took.constant.mono V4) (by rw[dX];exact hb3) n ?_ ?_ ?_ ?_ ?_ ?_;all_goals simp
   rfl
  rw[if_neg c4]at hmm;refine bg (by simp[c4]) ?_;simp;refine fin r2.1 _ h5 _ hmm i3 (q.took.mono V4) hb3 n ?_ ?_ ?_ ?_ ?_ ?_;all_goals simp
 rw[if_neg c1]at hmm;refine bg (by simp[c1]) ?_;refine aa λz hz=>?_;simp;subst hz;by_cases c2:k=12
 ·rw[if_pos c2]at hmm;refine aV (by simp[c2]) ?_;refine aa λz hz=>?_;simp;refine ah V0 (jA n hb1 q V4) ?_;rintro _ h2 ⟨⟨rfl,i2⟩,n⟩;have q:=q.aH (s:=s) (b:=b);have hb2:b<(aH s m1 b).2.blocks.length:=by rw[ed];exact hb1
  simp only[ltuS]at hmm;generalize aH s m1 b=r1 at hmm n q hb2 i2;subst hz;refine aa λz hz=>?_;simp;refine ah V0 (jA n hb2 q V4) ?_;rintro _ h3 ⟨⟨rfl,i3⟩,n⟩;have q:=q.aH (s:=s) (b:=b);have hb3:b<(aH s r1.2 b).2.blocks.length:=by rw[ed];exact hb2
  generalize aH s r1.2 b=r2 at hmm n q hb3 i3;subst hz;simp;refine ah V0 (iI n q V4) ?_;rintro _ h4 ⟨rfl,n⟩;refine n.lit (ls:=[r1.1,r2.1]) V5 (by simp[i2,i3]) rfl V6 λua un uc h5 _ n=>?_;refine aA (z:=zz5) (places:=zpa) (vs:=[(0,Vz VA 13),(1,Vz VA r2.2.next),(3,.slice ua un uc)]) (cs:=#[Vz VA 13,Vz VA r2.2.next,Vz VA 0,.slice ua un uc,Vz VB 0]) V0 V0 V5 V0 ?_;refine ah V0 (nk n (b:=b) hb3 q.aW V4 i64c (q.ln V4) i64c V6) ?_;rintro _ h6 n;exact hK _ _ (by rw[hmm];exact n)
 rw[if_neg c2]at hmm;refine bg (by simp[c2]) ?_;refine aa λz hz=>?_;simp;subst hz;by_cases c3:k=13
 ·rw[if_pos c3]at hmm;refine aV (by simp[c3]) ?_;refine aa λz hz=>?_;simp;refine ah V0 (jA n hb1 q V4) ?_;rintro _ h2 ⟨⟨rfl,i2⟩,n⟩;have q:=q.aH (s:=s) (b:=b);have hb2:b<(aH s m1 b).2.blocks.length:=by rw[ed];exact hb1
  simp only[divS]at hmm;generalize aH s m1 b=r1 at hmm n q hb2 i2;subst hz;refine aa λz hz=>?_;simp;refine ah V0 (fB n q V4 (k:=12) V6 V6) ?_;rintro _ h3 ⟨rfl,n⟩;simp;refine ah V0 (ig n (b:=b) hb2 q.took V4 (k:=IntKind.i32.wrap (aG s r1.2.at_ 12)) oR) ?_;rintro _ h4 ⟨rfl,n⟩;have i4:I64 r1.2.took.next:=q.took.ln V4;have q:=q.took.constant (b:=b) (n:=IntKind.i32.wrap (aG s r1.2.at_ 12));have hb3:b<(r1.2.took.constant b (IntKind.i32.wrap (aG s r1.2.at_ 12))).blocks.length:=by rw[dX];exact hb2
  have ht:r1.2.took.next=r1.2.next:=rfl;rw[ht]at i4 ⊢;generalize r1.2.took.constant b (IntKind.i32.wrap (aG s r1.2.at_ 12))=m2 at hmm n q hb3;generalize r1.2.next=d at hmm i4;subst hz;refine aa λz hz=>?_;have fin : ∀(e:Int) (m3:MS) (h':Heap) (ρ:Env),aO s b m=m3.two b 14 r1.1 e->I64 e->m3.ok (c+60)->b<m3.blocks.length->Nz s M vs W0 h' o0 m3 (VE VD 0 0) []->Lft.look ρ 0=VC (ptz M)->Lft.look ρ 1=VC (Vz VA b)->Lft.look ρ 10=VC (Vz VA r1.1)->Lft.look ρ 11=VC (Vz VA e)->LC.wp VI z (eY 0 (dR [] K)) ρ h':=by intro e m3 h' ρ hmm ie q hb n r0 r1' r10 r11;subst hz;simp[af,ag,r0,r1',r10,r11];refine ah V0 (iI n q V4) ?_;rintro _ h4 ⟨rfl,n⟩;refine n.lit (ls:=[r1.1,e]) V5 (by simp[i2,ie]) rfl V6 λua un uc h5 _ n=>?_;refine aA (z:=zz5) (places:=zpa) (vs:=[(0,Vz VA 14),(1,Vz VA m3.next),(3,.slice ua un uc)]) (cs:=#[Vz VA 14,Vz VA m3.next,Vz VA 0,.slice ua un uc,Vz VB 0]) V0 V0 V5 V0 ?_;refine ah V0 (nk n (b:=b) hb q.aW V4 i64c (q.ln V4) i64c V6) ?_;rintro _ h6 n;exact hK _ _ (by rw[hmm];exact n)
  refine aa λy hy=>?_;simp;refine ah V0 (fB n q V4 (k:=3) V6 V6) ?_;rintro _ h5 ⟨rfl,n⟩;simp;subst hy;by_cases c4:0<aG s m2.at_ 3
  ·rw[if_pos c4]at hmm;refine aV (by simp[c4]) ?_;simp;refine ah V0 (fB n q.took V4 (k:=12) V6 V6) ?_;rintro _ h6 ⟨rfl,n⟩;have hx:m2.took.at_=m2.at_+1:=rfl;rw[hx];simp;refine ah V0 (ig n (b:=b) hb3 q.took.took V4 (k:=IntKind.i32.wrap (1+IntKind.i32.wrap (aG s (m2.at_+1) 12))) oR) ?_;rintro _ h7 ⟨rfl,n⟩;refine fin m2.next _ h7 _ hmm (q.ln V4) (q.took.took.constant.mono V4) (by rw[dX];exact hb3) n ?_ ?_ ?_ ?_;all_goals simp
   rfl
  rw[if_neg c4]at hmm;refine bg (by simp[c4]) ?_;simp;refine fin d _ h5 _ hmm i4 (q.took.mono V4) hb3 n ?_ ?_ ?_ ?_;all_goals simp
 rw[if_neg c3]at hmm;refine bg (by simp[c3]) ?_;refine aa λz hz=>?_;simp;subst hz;by_cases c4:k<16
 ·rw[if_pos c4]at hmm;refine aV (by simp[c4]) ?_;simp;refine ah V0 (Iz n.x (store:=decide (k=15)) hb1 q V4) ?_;rintro _ h2 n;exact hK _ _ (by rw[hmm];exact n)
 rw[if_neg c4]at hmm;refine bg (by simp[c4]) ?_;refine aa λz hz=>?_;simp;subst hz;by_cases c5:k=16
 ·rw[if_pos c5]at hmm;refine aV (by simp[c5]) ?_;refine aa λz hz=>?_;simp;obtain⟨W,o,g1,w,f,-⟩:=n;have hk9:o (9,0)=none:=(f _ V6).trans hfree;refine w.own.mQ (k:=(9,0)) (α:=Int) hk9 El.aZ λv h2 hle2 hv w2 _=>?_;have w2:Mk s M vs W h2 (o.upd (9,0) (it T.int v ([]:List Int))) m1:=by obtain⟨vb,vl,lb,bb⟩:=w.box;exact⟨w2,w.src,vb,vl,lb,bb.frame λk hk=>Own.aB (by rintro rfl;simp at hk)⟩
  subst hz;refine aa λz hz=>?_;simp;refine ah V0 (w2.take (by have:=q.at_;omega) (n:=5) V6 V6) ?_;rintro _ h3 ⟨rfl,o3,w3,f3⟩;simp only[pw]at hmm;have q:=q.took;have hb2:b<m1.took.blocks.length:=hb1;obtain⟨t0,t1⟩:=bU (s:=s) (at_:=m1.at_) (n:=5) V6;generalize aG s m1.at_ 5=t at hmm t0 t1;obtain⟨tn,rfl⟩ : ∃tn:Nat,t=tn:=⟨t.toNat,by omega⟩;rw[show((tn:Int)).toNat=tn by omega]at hmm;have hup:=GW (s:=s) (b:=b) (x:=([],m1.took)) q;generalize m1.took=m2 at hmm q hb2 hup w3;subst hz;refine aa λz hz=>?_;simp;refine dy [0,1,4,12,13,14] (fun(v:Value) i=>[ptz M,Vz VA b,Vz VA k,v,Vz VA tn,Vz VA i]) (λv i h4=>∃W' o',W0.le W'/\Mk s M vs W' h4 o' (up (fR s b) i ([],m2)).2/\o' (9,0)=it T.int v (up (fR s b) i ([],m2)).1/\∀q:Key,3<=q.1->q≠(9,0)->o' q=o0 q) tn v
   rfl V4 rfl ⟨W,o3,g1,w3,(f3 _ V6).trans Own.an,λq h1 h2=>(f3 q h1).trans ((Own.aB h2).trans (f q h1))⟩ (λ_ _=>rfl) (λv k h hk m=>by simp) ?_ ?_
  ·rintro v i h4 hlt ⟨W4,o4,g4,w4,e4,f4⟩ K2 hK2;obtain⟨qi,li,bi⟩:=hup i;have e5:up (fR s b) (i+1) ([],m2)=((up (fR s b) i ([],m2)).1++[(aH s (up (fR s b) i ([],m2)).2 b).1],(aH s (up (fR s b) i ([],m2)).2 b).2):=rfl;have hb4:b<(up (fR s b) i ([],m2)).2.blocks.length:=by rw[bi];exact hb2
   generalize up (fR s b) i ([],m2)=x at w4 e4 e5 qi li bi hb4;have li:x.1.length=i:=by simpa using li
   simp;refine ah V0 (HK w4 hb4 qi V4) ?_;rintro _ h5 ⟨rfl,i5,W5,o5,g5,w5,f5⟩;have e6:o5 (9,0)=it T.int v x.1:=(f5 _ V6).trans e4;refine w5.own.fW (k:=(9,0)) (α:=Int) (d:=(aH s x.2 b).1) e6 El.aZ rfl (bu.2 ⟨rfl,i5⟩) V4 V4 (λ_=>rfl) (λ_=>rfl) λu v' h6 w6 _=>?_;refine hK2 v' _ _ rfl rfl ⟨W5,_,Vx g4 g5,⟨w6,w5.src,?_⟩,?_,?_⟩
   ·obtain⟨vb,vl,lb,bb⟩:=w5.box;rw[e5];exact⟨vb,vl,lb,bb.frame λk hk=>Own.aB (by rintro rfl;simp at hk)⟩
   ·rw[e5];exact Own.an
   intro q h1 h2;exact(Own.aB h2).trans ((f5 q h1).trans (f4 q h1 h2))
  rintro v h4 ⟨W4,o4,g4,w4,e4,f4⟩;obtain⟨qi,li,bi⟩:=hup tn;have hb4:b<(up (fR s b) tn ([],m2)).2.blocks.length:=by rw[bi];exact hb2
  generalize up (fR s b) tn ([],m2)=x at w4 e4 qi li bi hb4 hmm;obtain⟨w5,sl⟩:=w4.own.freeze e4;have sl2:=sl;obtain⟨ua,uc,rfl,_⟩:=sl2;have hWp:=ij (h:=h4) (w4.own.av _ _ e4);have n:Nz s M vs W0 h4 o0 x.2 (.slice ua x.1.length uc) x.1:=by
   obtain⟨vb,vl,lb,bb⟩:=w4.box;refine⟨_,_,Vx g4 hWp,⟨w5,w4.src.mono hWp,vb,vl,lb,bb.frame λk hk=>Own.aB (by rintro rfl;simp at hk)⟩,λq h1=>?_,sl⟩;by_cases e:q=(9,0)
   ·rw[e,Own.an,hfree]
   exact(Own.aB e).trans (f4 q h1 e)
  generalize x.1.length=un at n;simp;subst hz;simp;refine ah V0 (iI n qi V4) ?_;rintro _ h5 ⟨rfl,n⟩;refine ah V0 (fB n qi.aW V4 (k:=5) V6 V6) ?_;rintro _ h6 ⟨rfl,n⟩;have hx:x.2.aW.at_=x.2.at_:=rfl;rw[hx];simp;refine aA (z:=zz5) (places:=zpa) (vs:=[(0,Vz VA 17),(1,Vz VA x.2.next),(3,.slice ua un uc),(4,Vz VB (IntKind.i32.wrap (aG s x.2.at_ 5)))]) (cs:=#[Vz VA 17,Vz VA x.2.next,Vz VA 0,.slice ua un uc,Vz VB (IntKind.i32.wrap (aG s x.2.at_ 5))]) V0 V0 V5 V0 ?_;refine ah V0 (nk n (b:=b) hb4 qi.aW.took V4 i64c (qi.ln V4) i64c oR) ?_;rintro _ h7 n;exact hK _ _ (by rw[hmm];exact n)
 rw[if_neg c5]at hmm;refine bg (by simp[c5]) ?_;refine aa λz hz=>?_;simp;subst hz;by_cases c6:k=17
 ·rw[if_pos c6]at hmm;refine aV (by simp[c6]) ?_;refine aa λz hz=>?_;simp;refine ah V0 (jA n hb1 q V4) ?_;rintro _ h2 ⟨⟨rfl,i2⟩,n⟩;have q:=q.aH (s:=s) (b:=b);have hb2:b<(aH s m1 b).2.blocks.length:=by rw[ed];exact hb1
  simp only[wc]at hmm;generalize aH s m1 b=r1 at hmm n q hb2 i2;subst hz;refine aa λz hz=>?_;simp;refine ah V0 (jA n hb2 q V4) ?_;rintro _ h3 ⟨⟨rfl,i3⟩,n⟩;have q:=q.aH (s:=s) (b:=b);have hb3:b<(aH s r1.2 b).2.blocks.length:=by rw[ed];exact hb2
  generalize aH s r1.2 b=r2 at hmm n q hb3 i3;subst hz;refine aa λz hz=>?_;simp;refine ah V0 (iI n q V4) ?_;rintro _ h4 ⟨rfl,n⟩;subst hz;simp;refine ah V0 (iI n q.aW V4) ?_;rintro _ h5 ⟨rfl,n⟩;have hx:r2.2.aW.next=r2.2.next+1:=rfl;rw[hx];have j5:=q.aW.ln V4;rw[hx]at j5;refine n.lit (ls:=[r1.1,r2.1]) V5 (by simp[i2,i3]) rfl V6 λua un uc h5 _ n=>?_;refine aA (z:=zz5) (places:=zpa) (vs:=[(0,Vz VA 18),(1,Vz VA r2.2.next),(2,Vz VA (r2.2.next+1)),(3,.slice ua un uc)]) (cs:=#[Vz VA 18,Vz VA r2.2.next,Vz VA (r2.2.next+1),.slice ua un uc,Vz VB 0]) V0 V0 V5 V0 ?_;refine ah V0 (nk n (b:=b) hb3 q.aW.aW V4 i64c (q.ln V4) j5 V6) ?_;rintro _ h6 n;exact hK _ _ (by rw[hmm];exact n)
 rw[if_neg c6]at hmm;refine bg (by simp[c6]) ?_;simp;refine ah V0 (Cf n q V4) ?_;rintro _ h2 ⟨rfl,n⟩;refine ah V0 (ig n (b:=b) hb1 q.took.took V4 (k:=jW s m1) tK) ?_;rintro _ h3 ⟨rfl,n⟩;exact hK _ _ (by rw[hmm];exact n.x)
section
variable{s:List Int}{m:MS}{b c:Nat}
theorem pN:m.took.blocks.length=m.blocks.length:=rfl
theorem sF:m.aW.blocks.length=m.blocks.length:=rfl
theorem MS.ok.addr(h:m.ok c):(jO s m b).2.ok (c+30):=by
 unfold jO;simp only;split
 ·exact((((h.took.constant).took.aH).constant).two.two).mono V4
 exact(h.took.constant.took).mono V4
theorem KY:(jO s m b).2.blocks.length=m.blocks.length:=by unfold jO;simp only;split<;>simp[rz,dX,ed,pN]
theorem MS.ok.off(h:m.ok c):(offS s m).2.ok (c+4):=by
 unfold offS;split
 ·exact h.took.took.took.took
 exact h.took.took.mono V4
theorem MR:(offS s m).2.blocks.length=m.blocks.length:=by unfold offS;split<;>rfl
theorem MS.ok.memory{st:Bool}(h:m.ok c):(iW s m b st).ok (c+60):=by
 unfold iW;simp only;split
 ·exact(((h.addr).off.aH).add).mono V4
 exact(((h.addr).off.aW).add).mono V4
theorem FG{st:Bool}:(iW s m b st).blocks.length=m.blocks.length:=by unfold iW;simp only;split<;>simp[mF,ed,MR,KY,sF]
theorem MS.ok.bin(h:m.ok c):(binS s m b op).ok (c+60):=by
 unfold binS;simp only;split
 ·exact((h.aH.aH).took.took.constant.two).mono V4
 exact((h.aH.aH).took.two).mono V4
theorem M0:(binS s m b op).blocks.length=m.blocks.length:=by unfold binS;simp only;split<;>simp[rz,dX,ed,pN]
theorem MS.ok.div(h:m.ok c):(divS s m b).ok (c+60):=by
 unfold divS;simp only;split
 ·exact((h.aH).took.constant.took.took.constant.two).mono V4
 exact((h.aH).took.constant.took.two).mono V4
theorem Nu:(divS s m b).blocks.length=m.blocks.length:=by unfold divS;simp only;split<;>simp[rz,dX,ed,pN]
theorem MS.ok.pw(h:m.ok c):(pw s m b).ok (c+70):=by unfold Go.Lft.pw;simp only;have ht:=bU (s:=s) (at_:=m.at_) (n:=5) V6;have:=(GW (s:=s) (b:=b) (x:=([],m.took)) h.took (aG s m.at_ 5).toNat).1;exact(this.aW.took.add).mono V4
theorem LZ:(pw s m b).blocks.length=m.blocks.length:=by unfold pw;simp only;rw[mF,pN,sF];exact EW (s:=s) (b:=b) (x:=([],m.took)) _
theorem MS.ok.ic(h:m.ok c):(aO s b m).ok (c+80):=by
 unfold aO;simp only;repeat' split
 ·exact h.took.bin.mono V4
 ·unfold ltuS;exact(h.took.aH.aH.two).mono V4
 ·exact h.took.div.mono V4
 ·exact h.took.memory.mono V4
 ·exact h.took.pw.mono V4
 ·unfold wc;exact(h.took.aH.aH.aW.aW.add).mono V4
 exact h.took.took.took.constant.mono V4
theorem rK:(aO s b m).blocks.length=m.blocks.length:=by
 unfold aO;simp only;repeat' split
 all_goals simp[M0,ltuS,Nu,FG,LZ,wc,rz,dX,ed,pN,sF,mF]
end
def MS.fG(m:MS)(b:Nat)(t:db):MS:={ m with blocks:=m.blocks.set b { nth m.blocks b with term:=t } }
def cmpL:List Int:=[11,12,13]
def fl(s:List Int)(to:List Int)(b:Nat)(m:MS):db × MS:=
 if to.length=0 then
  if aG s m.at_ 8=0 then(⟨5,[],[],⟨IntKind.i32.wrap (aG s (m.at_+1) 200)⟩⟩,m.took.took)
  else if 1<aG s m.at_ 8 then(⟨4,[(aH s m.took b).1],[],⟨0⟩⟩,(aH s m.took b).2)
  else(⟨4,[],[],⟨0⟩⟩,m.took)
 else if to.length=1 then(⟨1,[],to,⟨0⟩⟩,m)
 else if to.length=2 then
  let r:=aH s m b
  if aG s r.2.at_ 2=0 then
   let w:=aH s r.2.took b
   (⟨2,[w.2.next],to,⟨0⟩⟩,w.2.aW.took.add b ⟨nth cmpL (aG s w.2.at_ 3).toNat,w.2.next,0,[r.1,w.1],⟨0⟩⟩)
  else(⟨2,[r.1],to,⟨0⟩⟩,r.2.took)
 else
  let r:=aH s m b
  let m2:=r.2.constant b 7
  (⟨3,[m2.next],to,⟨0⟩⟩,m2.two b 5 r.1 r.2.next)
def pD(s:List Int)(to:List Int)(b:Nat)(m:MS):MS:=(fl s to b m).2.fG b (fl s to b m).1
section
variable{s:List Int}{M:Nat}{vs:Value}{W0:View}{h:Heap}{o0:Own}{m:MS}{u:Value}{ds:List Int}
theorem Nz.dT{po:OP}(n:Nz s M vs W0 h o0 m u ds){k:Key}{e:TypeId}{B N i:Nat}{l:List Value}{ty t:TypeId}{us:List (Nat × Value)}{x y:Operand}{v:Value}{K:Value->Heap->Prop}(h3:3<=k.1)(hk:o0 k=bx e B (RawN.mk (n:=N) l))(hi:i<=N)(hsz:da VI t=VC 1)(hx:asg us x = VF (VC ⟨B,i,VD⟩))(hy:asg us y=v)(hv:v.oneCell'=VG)
  (hK : ∀h',Nz s M vs W0 h' (o0.upd k (bx e B (RawN.mk (n:=N) (l.set i v)))) m u ds->K undef h'):@Lft.step po VI (.store t x y) ty us h K:=by
 obtain⟨W,o,g1,w,f,sl⟩:=n;refine w.own.dT (k:=k) (n:=N) (i:=i) (e:=e) (B:=B) (l:=l) ((f k h3).trans hk) hi hsz hx hy hv λh' w' _=>hK h' ?_;obtain⟨vb,vl,lb,bb⟩:=w.box;refine⟨W,_,g1,⟨w',w.src,vb,vl,lb,bb.frame λq hq=>Own.aB (by rintro rfl;omega)⟩,λq hq=>?_,sl⟩;unfold Own.upd;split
 ·rfl
 exact f q hq
theorem Nz.re(n:Nz s M vs W0 h o0 m u ds){o0':Own}(he : ∀k,o0' k=o0 k):Nz s M vs W0 h o0' m u ds:=by obtain⟨W,o,g1,w,f,sl⟩:=n;exact⟨W,o,g1,w,λk hk=>(f k hk).trans (he k).symm,sl⟩
theorem Mk.NN{po:OP}{W:View}{o:Own}(w:Mk s M vs W h o m)(bb:MkB M vs m o vb vl lb){t:db}{v:Value}{ty ty2:TypeId}{us:List (Nat × Value)}{x y:Operand}{K:Value->Heap->Prop}(hb:b<m.blocks.length)(hsz:da VI ty2=VC 4)(hx:asg us x = VF (VC (((slA vb).add (b*6)).add 2)))(hy:asg us y=v)(hr:Rd W v t)(hK : ∀h' o',Mk s M vs W h' o' (m.fG b t)->(∀k:Key,3<=k.1->o' k=o k)->K undef h'):@Lft.step po VI (.store ty2 x y) ty us h K:=by
 have hbl:b<lb.length:=by rw[bb.len];exact hb
 refine w.own.tA (k:=(0,2)) (α:=BlkM) BlkM.nh (v:=vb) (l:=lb) (i:=b) (d:=t) bb.blk hsz hx hy hbl hr λh7 w7 _=>?_;refine hK h7 _ ⟨w7,w.src,vb,vl,_,bb.iq hb (x':={ nth m.blocks b with term:=t }) (y':={ lb[b]with term:=t }) rfl Own.an ?_ ?_ λq h1 _ _=>Own.aB h1⟩ (pU V6)
 ·rw[Own.aB V5,bb.phis b hb,az hbl]
 rw[Own.aB V5,bb.ins b hb,az hbl]
end
theorem Jc{H:View}{va vt:Value}{a t:List Int}{kd:Int}{imm:I32}(h3:SlRd H va a)(h4:SlRd H vt t)(h5:I64 kd)(h6:-2147483648<=imm.v/\imm.v<=2147483647):Rd H (.agg #[Vz VA kd,va,vt,Vz VB imm.v]) (db.mk kd a t imm):=
 ⟨_,rfl,[Vz VA kd],_,rfl,⟨rfl,h5⟩,[va],_,rfl,⟨va,rfl,h3⟩,[vt],_,rfl,⟨vt,rfl,h4⟩,rfl,h6⟩
theorem L2: ∀x∈cmpL,I64 x:=by
 intro x hx;have : ∀x∈cmpL,0<=x/\x<=13:=by decide
 have:=this x hx;exact V9
theorem Pn{s:List Int}{M:Nat}{W0:View}{h:Heap}{o0:Own}{m:MS}{vt:Value}{to:List Int}(n:Nx s M vs W0 h o0 m){c:Nat}(hb:b<m.blocks.length)(hm:m.ok c)(hc:c<=800000)(hfree:o0 (9,1)=VD)(ht:SlRd W0 vt to):
  ay VI 41 #[ptz M,Vz VA b,vt] h (λv h'=>Nx s M vs W0 h' o0 (pD s to b m)):=by
 refine ao (args:=[ptz M,Vz VA b,vt]) follows Tryz.func41 E.kh Vu λK hK=>?_;dsimp only[L.kh,lkF,lkG];have hmm:pD s to b m=_:=pD.eq_1 s to b m;have htm:fl s to b m=_:=fl.eq_1 s to b m;obtain⟨Wb,ob,gb,wb,fb⟩:=n;refine aa λz hz=>?_;simp;refine aA (z:=zz9) (places:=zpe) (vs:=[]) (cs:=#[Vz VA 0,VE VD 0 0,VE VD 0 0,Vz VB 0]) V0 V0 V5 V0 ?_;refine wb.own.eu (k:=(9,1)) (n:=3) (l:=[Vz VA 0,VE VD 0 0,VE VD 0 0,Vz VB 0]) ((fb _ V6).trans hfree) (z:=zz9) V0 rfl V0 rfl V6 Vr V8 V8 λh1 q1 w1=>?_;generalize h.size=B at w1;obtain⟨o1,ho1⟩ : ∃o1,o1=ob.upd (9,1) (bx T.jR B (RawN.mk (n:=3) [Vz VA 0,VE VD 0 0,VE VD 0 0,Vz VB 0])):=⟨_,rfl⟩;have k1:o1 (9,1)=bx T.jR B (RawN.mk (n:=3) [Vz VA 0,VE VD 0 0,VE VD 0 0,Vz VB 0]):=by rw[ho1,Own.an]
 have ht:=ht.mono gb;have n:Nz s M vs Wb h1 o1 m (VE VD 0 0) []:=by obtain⟨vb,vl,lb,bb⟩:=wb.box;rw[ho1];exact⟨Wb,_,View.le_refl _,⟨w1,wb.src,vb,vl,lb,bb.frame λq hq=>Own.aB (by rintro rfl;simp at hq)⟩,λ_ _=>rfl,aL⟩
 have back : ∀{h':Heap} {W':View} {o':Own} {m':MS} {i:Option Lft.Item},Wb.le W'->Mk s M vs W' h' o' m'->(∀k:Key,3<=k.1->o' k=o1.upd (9,1) i k)->Nx s M vs W0 h' o0 m':=by
  intro h' W' o' m' i g w f;refine⟨W',o'.upd (9,1) VD,Vx gb g,⟨w.own.sub λq j hq=>?_,w.src,?_⟩,λk hk=>?_⟩
  ·unfold Own.upd at hq;split at hq
   ·cases hq
   exact hq
  ·obtain⟨vb,vl,lb,bb⟩:=w.box;exact⟨vb,vl,lb,bb.frame λq hq=>Own.aB (by rintro rfl;simp at hq)⟩
  by_cases e:k=(9,1)
  ·rw[e,Own.an,hfree]
  rw[Own.aB e,f k hk,Own.aB e,ho1,Own.aB e,fb k hk]
 clear wb w1 q1;subst hz;refine aa λz hz=>?_;have fin : ∀(kd:Int) (va vt':Value) (args to':List Int) (im:Int) (m2:MS) (h':Heap) (ρ:Env),fl s to b m=(⟨kd,args,to',⟨im⟩⟩,m2)->I64 kd->(-2147483648<=im/\im<=2147483647)->b<m2.blocks.length->Nz s M vs Wb h' (o1.upd (9,1) (bx T.jR B (RawN.mk (n:=3) [Vz VA kd,va,vt',Vz VB im]))) m2 va args->SlRd Wb vt' to'->Lft.look ρ 0=VC (ptz M)->Lft.look ρ 1=VC (Vz VA b)->Lft.look ρ 6=VC (ptz B)->LC.wp VI z (dR [] K) ρ h':=by
  intro kd va vt' args to' im m2 h' ρ e ikd iim hb n ht' r0 r1 r6;subst hz;rw[e]at hmm;obtain⟨W,o,g1,w,f,sl⟩:=n;obtain⟨vb,vl,lb,bb⟩:=w.box;have hk:o (9,1)=bx T.jR B (RawN.mk (n:=3) [Vz VA kd,va,vt',Vz VB im]):=(f _ V6).trans Own.an;have c4:=w.own.zF (k:=(9,1)) (n:=3) hk;have c4:Un.ev (vw h') (.bI 4) (ptz B)=VC (.agg #[Vz VA kd,va,vt',Vz VB im]):=c4;have c3:aq (vw h') ⟨M,3,VD⟩=VC vb:=bb.cell w.own (i:=3) V6;have hbl:b<lb.length:=by rw[bb.len];exact hb
  have sb:=w.own.now bb.blk;have sbb:=sb.bound;refine aN (vw h') Vw ?_;simp(disch:=omega)[r0,r1,r6,c3,c4,sb.idxn (N:=6) rfl];refine w.NN bb (b:=b) (t:=⟨kd,args,to',⟨im⟩⟩) hb V0 rfl rfl (Jc (imm:=⟨im⟩) sl (ht'.mono g1) ikd iim) λh2 o2 w2 f2=>?_;refine hK _ _ ?_;rw[hmm];exact back g1 w2 λk hk=>(f2 k hk).trans (f k hk)
 have hlen : ∀{Q:View},Un.ev Q .len vt=VC (Vz VA to.length):=fun{Q}=>ht.len;refine aa λy hy=>?_;simp[hlen];subst hy;simp only[aX];refine aa λy hy=>?_;simp;subst hy;by_cases c0:to.length=0
 ·have c0':to=[]:=Ss c0;rw[if_pos c0]at htm;refine aV (by simp[c0,c0']) ?_;refine aa λy hy=>?_;simp;refine n.dT (k:=(9,1)) (i:=0) V6 k1 V6 V0 rfl rfl rfl λh2 n=>?_;subst hy;refine aa λy hy=>?_;simp;refine ah V0 (fB n hm V4 (k:=8) V6 V6) ?_;rintro _ h3 ⟨rfl,n⟩;obtain⟨t0,t1⟩:=bU (s:=s) (at_:=m.at_) (n:=8) V6;subst hy;refine aa λy hy=>?_;simp;subst hy;have n:Nz s M vs Wb h3 (o1.upd (9,1) (bx T.jR B (RawN.mk (n:=3) [Vz VA 4,VE VD 0 0,VE VD 0 0,Vz VB 0]))) m.took (VE VD 0 0) []:=n;by_cases c1:aG s m.at_ 8=0
  ·rw[if_pos c1]at htm;refine aV (by simp[c1]) ?_;refine aa λy hy=>?_;simp;refine n.dT (k:=(9,1)) (i:=0) V6 Own.an V6 V0 rfl rfl rfl λh4 n=>?_;subst hy;simp;refine ah V0 (fB n hm.took V4 (k:=200) V6 V6) ?_;rintro _ h5 ⟨rfl,n⟩;have hx:m.took.at_=m.at_+1:=rfl;rw[hx];simp;refine n.dT (k:=(9,1)) (i:=3) V6 Own.an V6 V0 rfl rfl rfl λh6 n=>?_;refine fin 5 (VE VD 0 0) (VE VD 0 0) [] [] _ _ h6 _ htm i64c oR hb ?_ aL ?_ ?_ ?_
   ·exact n.re λk=>by rw[fE,fE];rfl
   all_goals simp
  rw[if_neg c1]at htm;refine bg (by simp[c1]) ?_;refine aa λy hy=>?_;simp;subst hy;by_cases c2:1<aG s m.at_ 8
  ·rw[if_pos c2]at htm;refine aV (by simp[c2]) ?_;simp;refine ah V0 (jA n (b:=b) hb hm.took V4) ?_;rintro _ h4 ⟨⟨rfl,i4⟩,n⟩;have hb2:b<(aH s m.took b).2.blocks.length:=by rw[ed];exact hb
   generalize aH s m.took b=r at htm i4 n hb2;refine n.lit (ls:=[r.1]) V5 (by simp[i4]) rfl V6 λua un uc h5 _ n=>?_;refine n.dT (k:=(9,1)) (i:=1) V6 Own.an V6 V0 rfl rfl rfl λh6 n=>?_;refine fin 4 (.slice ua un uc) (VE VD 0 0) [r.1] [] 0 _ h6 _ htm i64c V6 hb2 (n.re λk=>by rw[fE];rfl) aL ?_ ?_ ?_;all_goals simp
  rw[if_neg c2]at htm;refine bg (by simp[c2]) ?_;simp;refine fin 4 (VE VD 0 0) (VE VD 0 0) [] [] 0 _ h3 _ htm i64c V6 hb n aL ?_ ?_ ?_;all_goals simp
 rw[if_neg c0]at htm;have c0':¬to=[]:=λe=>c0 (by rw[e];rfl);have hvt:vt.oneCell'=true:=ht.cells.2;refine bg (by simp[c0']) ?_;refine aa λy hy=>?_;simp;subst hy;by_cases c1:to.length=1
 ·rw[if_pos c1]at htm;refine aV (by simp[c1]) ?_;refine aa λy hy=>?_;simp;refine n.dT (k:=(9,1)) (i:=0) V6 k1 V6 V0 rfl rfl rfl λh2 n=>?_;subst hy;simp;refine n.dT (k:=(9,1)) (i:=2) V6 Own.an V6 V0 rfl rfl hvt λh3 n=>?_;refine fin 1 (VE VD 0 0) vt [] to 0 _ h3 _ htm i64c V6 hb (n.re λk=>by rw[fE];rfl) ht ?_ ?_ ?_;all_goals simp
 rw[if_neg c1]at htm;refine bg Vt ?_;refine aa λy hy=>?_;simp;subst hy;by_cases c2:to.length=2
 ·rw[if_pos c2]at htm;refine aV (by simp[c2]) ?_;refine aa λy hy=>?_;simp;refine n.dT (k:=(9,1)) (i:=0) V6 k1 V6 V0 rfl rfl rfl λh2 n=>?_;subst hy;refine aa λy hy=>?_;simp;refine n.dT (k:=(9,1)) (i:=2) V6 Own.an V6 V0 rfl rfl hvt λh3 n=>?_;have n:Nz s M vs Wb h3 (o1.upd (9,1) (bx T.jR B (RawN.mk (n:=3) [Vz VA 2,VE VD 0 0,vt,Vz VB 0]))) m (VE VD 0 0) []:=n.re λk=>by rw[fE];rfl
  subst hy;refine aa λy hy=>?_;simp;refine ah V0 (jA n (b:=b) hb hm V4) ?_;rintro _ h4 ⟨⟨rfl,i4⟩,n⟩;have q:=hm.aH (s:=s) (b:=b);have hb2:b<(aH s m b).2.blocks.length:=by rw[ed];exact hb
  simp only at htm;generalize aH s m b=r at htm i4 n hb2 q;subst hy;refine aa λy hy=>?_;have fin2 : ∀(v:Int) (m3:MS) (h':Heap) (ρ:Env) (u:Value) (ds:List Int),fl s to b m=(⟨2,[v],to,⟨0⟩⟩,m3)->I64 v->b<m3.blocks.length->Nz s M vs Wb h' (o1.upd (9,1) (bx T.jR B (RawN.mk (n:=3) [Vz VA 2,VE VD 0 0,vt,Vz VB 0]))) m3 u ds->Lft.look ρ 0=VC (ptz M)->Lft.look ρ 1=VC (Vz VA b)->Lft.look ρ 6=VC (ptz B)->Lft.look ρ 8=VC (Vz VA v)->LC.wp VI y (eY 0 (fL (LC.wp VI z (dR [] K)) (dR [] K))) ρ h':=by intro v m3 h' ρ u ds e iv hb n r0 r1 r6 r8;subst hy;simp[af,ag,r0,r1,r6,r8];refine n.lit (ls:=[v]) V5 (by simp[iv]) rfl V6 λua un uc h5 _ n=>?_;refine n.dT (k:=(9,1)) (i:=1) V6 Own.an V6 V0 rfl rfl rfl λh6 n=>?_;refine fin 2 (.slice ua un uc) vt [v] to 0 _ h6 _ e i64c V6 hb (n.re λk=>by rw[fE];rfl) ht ?_ ?_ ?_;all_goals simp[af,ag,r0,r1,r6,r8]
  refine aa λx hx=>?_;simp;refine ah V0 (fB n q V4 (k:=2) V6 V6) ?_;rintro _ h5 ⟨rfl,n⟩;simp;subst hx;by_cases c3:aG s r.2.at_ 2=0
  ·rw[if_pos c3]at htm;refine aV (by simp[c3]) ?_;refine aa λx hx=>?_;simp;refine aA (z:=zz0) (places:=[(0,1),(1,1),(2,1)]) (vs:=[(0,Vz VA 11),(1,Vz VA 12),(2,Vz VA 13)]) (cs:=#[Vz VA 11,Vz VA 12,Vz VA 13]) V0 V0 V5 V0 ?_;refine gA (v:=.agg #[Vz VA 11,Vz VA 12,Vz VA 13]) (z:=.agg #[Vz VA 0,Vz VA 0,Vz VA 0]) (n:=3) V0 rfl V0 rfl Vs V8 V8 λh6 hle6 hs6 hb6=>?_;have n:Nz s M vs Wb h6 (o1.upd (9,1) (bx T.jR B (RawN.mk (n:=3) [Vz VA 2,VE VD 0 0,vt,Vz VB 0]))) r.2.took (VE (VC ⟨h5.size,0,VD⟩) 3 3) cmpL:=by
    obtain⟨W,o,g1,g2,g3,g4⟩:=n;refine⟨_,o,Vx g1 (bC g2.own.wle),⟨g2.own.ext hle6,g2.src.mono (bC g2.own.wle),g2.box⟩,g3,?_⟩;have hg:grow W h5 h6 h5.size=VC (.cells (cmpL.map λx=>Vz VA x).toArray T.Pz (0,0)):=by rw[cg (RX _),hb6];rfl
    exact Jl hg rfl V6 L2
   generalize h5.size=C at n;subst hx;refine aa λx hx=>?_;simp;refine ah V0 (jA n (b:=b) hb2 q.took V4) ?_;rintro _ h7 ⟨⟨rfl,i7⟩,n⟩;have q:=q.took.aH (s:=s) (b:=b);have hb3:b<(aH s r.2.took b).2.blocks.length:=by rw[ed];exact hb2
   generalize aH s r.2.took b=w at htm i7 n hb3 q;subst hx;refine aa λx hx=>?_;simp;refine ah V0 (iI n q V4) ?_;rintro _ h8 ⟨rfl,n⟩;have iw:=q.ln V4;subst hx;refine aa λx hx=>?_;simp;refine ah V0 (fB n q.aW V4 (k:=3) V6 V6) ?_;rintro _ h9 ⟨rfl,n⟩;have hfx:w.2.aW.at_=w.2.at_:=rfl;rw[hfx];obtain⟨t0,t1⟩:=bU (s:=s) (at_:=w.2.at_) (n:=3) V6;generalize aG s w.2.at_ 3=k at htm t0 t1;obtain⟨kn,rfl⟩ : ∃kn:Nat,k=kn:=⟨k.toNat,by omega⟩;rw[show((kn:Int)).toNat=kn by omega]at htm;obtain⟨iop,hop⟩:I64 (nth cmpL kn)/\aq (vw h9) ⟨C,kn,VD⟩=VC (Vz VA (nth cmpL kn)):=by obtain⟨W,o,g1,g2,g3,g4⟩:=n;refine⟨g4.range (i:=kn) (by show kn<3;omega),?_⟩;have:=g4.int g2.own.wle (i:=kn) (by show kn<3;omega);simpa[slA]using this
   have hix:Bn.ev (.aidx 3 1) (ptz C) (Vz VA kn)=VC (VF (VC ⟨C,kn,VD⟩)):=by simp only[Bn.ev,vP,vI,SA];rw[if_pos V9];simp
   generalize nth cmpL kn=op at htm iop hop;simp[hix,hop];refine n.lit (ls:=[r.1,w.1]) V5 (by simp[i4,i7]) rfl V6 λua un uc h10 _ n=>?_;refine aA (z:=zz5) (places:=zpa) (vs:=[(0,Vz VA op),(1,Vz VA w.2.next),(3,.slice ua un uc)]) (cs:=#[Vz VA op,Vz VA w.2.next,Vz VA 0,.slice ua un uc,Vz VB 0]) V0 V0 V5 V0 ?_;refine ah V0 (nk n (b:=b) hb3 q.aW.took V4 iop iw i64c V6) ?_;rintro _ h11 n;subst hx;simp;refine fin2 w.2.next _ h11 _ _ _ htm iw (by rw[mF];exact hb3) n.z ?_ ?_ ?_ ?_;all_goals simp
  rw[if_neg c3]at htm;refine bg (by simp[c3]) ?_;simp;refine fin2 r.1 _ h5 _ _ _ htm i4 hb2 n ?_ ?_ ?_ ?_;all_goals simp
 rw[if_neg c2]at htm;refine bg Vt ?_;refine aa λy hy=>?_;simp;refine n.dT (k:=(9,1)) (i:=0) V6 k1 V6 V0 rfl rfl rfl λh2 n=>?_;subst hy;refine aa λy hy=>?_;simp;refine n.dT (k:=(9,1)) (i:=2) V6 Own.an V6 V0 rfl rfl hvt λh3 n=>?_;have n:Nz s M vs Wb h3 (o1.upd (9,1) (bx T.jR B (RawN.mk (n:=3) [Vz VA 3,VE VD 0 0,vt,Vz VB 0]))) m (VE VD 0 0) []:=n.re λk=>by rw[fE];rfl
 subst hy;refine aa λy hy=>?_;simp;refine ah V0 (jA n (b:=b) hb hm V4) ?_;rintro _ h4 ⟨⟨rfl,i4⟩,n⟩;have q:=hm.aH (s:=s) (b:=b);have hb2:b<(aH s m b).2.blocks.length:=by rw[ed];exact hb
 simp only at htm;generalize aH s m b=r at htm i4 n hb2 q;subst hy;refine aa λy hy=>?_;simp;refine ah V0 (ig n (b:=b) hb2 q V4 (k:=7) V6) ?_;rintro _ h5 ⟨rfl,n⟩;have i5:=q.ln V4;have q5:=q.constant (b:=b) (n:=7);have hb3:b<(r.2.constant b 7).blocks.length:=by rw[dX];exact hb2
 generalize r.2.constant b 7=m2 at htm n q5 hb3;generalize r.2.next=d at htm i5;subst hy;refine aa λy hy=>?_;simp;refine ah V0 (iI n q5 V4) ?_;rintro _ h6 ⟨rfl,n⟩;have i6:=q5.ln V4;subst hy;refine aa λy hy=>?_;simp;refine n.lit (ls:=[r.1,d]) V5 (by simp[i4,i5]) rfl V6 λua un uc h7 _ n=>?_;refine aA (z:=zz5) (places:=zpa) (vs:=[(0,Vz VA 5),(1,Vz VA m2.next),(3,.slice ua un uc)]) (cs:=#[Vz VA 5,Vz VA m2.next,Vz VA 0,.slice ua un uc,Vz VB 0]) V0 V0 V5 V0 ?_;refine ah V0 (nk n (b:=b) hb3 q5.aW V4 i64c i6 i64c V6) ?_;rintro _ h8 n;have n:=n.z;subst hy;simp;refine n.lit (ls:=[m2.next]) V5 (by simp[i6]) rfl V6 λua un uc h9 _ n=>?_;refine n.dT (k:=(9,1)) (i:=1) V6 Own.an V6 V0 rfl rfl rfl λh10 n=>?_;refine fin 3 (.slice ua un uc) vt [m2.next] to 0 _ h10 _ htm i64c V6 (show b<(m2.two b 5 r.1 d).blocks.length by rw[rz];exact hb3) (n.re λk=>by rw[fE];rfl) ht ?_ ?_ ?_;all_goals simp
end Go.Lft
