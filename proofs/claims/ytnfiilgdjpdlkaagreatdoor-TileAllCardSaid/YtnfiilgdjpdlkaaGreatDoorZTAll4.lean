/- A part of the proof: Ok, Ol, Rb, Ta, Rc, Rd, Rf, Rg, Rh, Tb, Tc, Td, Th, Ma, Mb, Mc, Md, Me, Mf, Mg, Mh, Mi. -/
import Derived.Test.YtnfiilgdjpdlkaaGreatDoorZTAll3
set_option linter.unusedSimpArgs false
set_option linter.unusedVariables false
namespace Go.Lft
open Go
variable {po po2:OP}
theorem Cx.dg {V W:View} {h0 h:Heap} {o:Own} {k:Key} {P:Program} {ty:TypeId} {us:List (Nat × Value)} {n i:Nat} {e t:TypeId} {B:Nat} {l:List Value} {x y:Operand} {u:Value} {K:Value->Heap->Prop} (c:Cx V h0 W h o) (hk:o k=bx e B (RawN.mk (n:=n) l)) (hi:i<=n) (hsz:db P t=some 1) (hx:asg us x = .pointer (some ⟨B,i,none⟩)) (hy:asg us y=u) (hu:u.oneCell'=true)
  (hK : ∀h',Cx V h0 W h' (o.upd k (bx e B (RawN.mk (n:=n) (l.set i u))))->K undef h'):@step po P (.store t x y) ty us h K:=
 c.own.dg hk hi hsz hx hy hu λh2 w hX=>hK _ ⟨w,c.old,hX _ c.le0 (View.df (View.le_refl _) (c.new k _ B hk rfl)),λj i b hj hb=>by
  by_cases e:j=k
  ·subst e;rw[Own.aj]at hj;cases hj;exact c.new _ _ b hk hb
  rw[Own.ak e]at hj;exact c.new j i b hj hb⟩
end Go.Lft
namespace Go.Proofs.YtnfiilgdjpdlkaaGreatDoor
open Go Go.Lft
structure uY (t:dD):Prop where
 one:t.kind=2\/t.kind=3->1<=t.args.length
 most:t.args.length<=10000
 to:t.to.length<=10000
theorem yX {H:View} {x0 x1 x2 va x4:Value} {i:InsD} (h:Rd H (.agg #[x0,x1,x2,va,x4]) i):SlRd H va i.args:=by unfold Rd at h;rw[if_pos (show Rep.agg InsD=true from rfl)]at h;obtain⟨cs,e0,c1,_,e,h1,c2,_,rfl,h2,c3,_,rfl,h3,c4,c5,rfl,h4,h5⟩:=h;cases e0;rw[h1.1,h2.1,h3.1,h5.1]at e;obtain⟨v,rfl⟩:=rN h4;simp at e;obtain⟨-,-,-,rfl,-⟩:=e;exact nF.1 h4
set_option maxHeartbeats 4000000 in
theorem IQ {s:cu} {v:Value} {pat:Int} {h:Heap} {W:View} (hW:W.le (vw h)) (hv:Rd W v s) (hok:lJ s) (htk:uY s.t) (hp:I64 pat) :
    az Tryz.prog N.dE #[v,.int .i64 pat] h (λu h'=>cg W h h' u (gu s.f s.t pat)):=by
  refine aw (args:=[v,.int .i64 pat]) follows F.dE E.dE (Lm Ya) λK hK=>?_
  dsimp only[L.dE,lkF,lkG]
  have c0:=Cx.start hW
  refine ab λz hz=>?_
  simp
  refine c0.dK rfl hv λS h1 W1 hW1 c1 at1 hle1=>?_
  refine c1.cQ (k:=(0,0)) (n:=7) (z:=.agg fitZ.toArray) rfl Ya rfl Yc (by simp[Value.cells,Value.oneCell']) λR h2 hle2 c2=>?_
  subst hz
  refine ab λz hz=>?_
  obtain⟨ut,hut,rut⟩:=(at1.part cu.K9).ldN rfl (N:=4) rfl
  have hut:Un.ev (vw h2) (.bM 4) (.pointer (some ⟨S,7,none⟩))=some ut:=by simpa using hut _ c2.wle
  simp[hut]
  refine c2.eu (α:=dD) rut (n:=4) (z:=.agg #[.int .i64 0,.slice none 0 0,.slice none 0 0,.int .i32 0]) Ya rfl rfl Ya (λ_=>by simp) (λ_=>by simp) λTb h3 W3 hW3 c3 at3 hle3=>?_
  have t0:=(at3.part dD.By).int
  obtain⟨va,t1,hva⟩:=(at3.part dD.fj).sl
  obtain⟨vt,t2,hvt⟩:=(at3.part dD.C5).sl
  have t3:=(at3.part dD.jQ).i32
  have ri:=(at3.part dD.jQ).nY
  have t0:ao W3 ⟨Tb,0,none⟩=some (.int .i64 s.t.kind):=by simpa using t0
  have t1:ao W3 ⟨Tb,1,none⟩=some va:=by simpa using t1
  have t2:ao W3 ⟨Tb,2,none⟩=some vt:=by simpa using t2
  have t3:ao W3 ⟨Tb,3,none⟩=some (.int .i32 s.t.imm.v):=by simpa using t3
  have most:=htk.most
  have mosto:=htk.to
  subst hz
  refine ab λz hz=>?_
  simp[ae c3.wle t2]
  refine ah Ya (eS c3.wle hvt Yb) ?_
  rintro uto h4 ⟨hle4,hto⟩
  have c4:=c3.ext hle4
  have hW4:=c3.up (h':=h4)
  have hto0:=hto
  obtain⟨b0,k0,rfl,-⟩:=hto0
  generalize grow W3 h3 h4=W4 at *
  have s0:=ae hW4 t0
  have s1:=ae hW4 t1
  have s3:=ae hW4 t3
  have hva4:=hva.mono hW4
  have z0:=ae c4.wle s0
  have z1:=ae c4.wle s1
  have z3:=ae c4.wle s3
  clear t0 t1 t2 t3 hut hle1 hle2 hle3 hle4
  subst hz
  refine ab λz hz=>?_
  simp only[aN]
  refine ab λy hy=>?_
  by_cases p1:pat=0/\s.t.kind=1
  · have he:gu s.f s.t pat=some ⟨[],[],[],⟨1,0,0,s.t.to,⟨0⟩⟩⟩:=by unfold gu;rw[if_pos p1]
    simp[p1.1,z0,p1.2]
    subst hy
    simp
    refine ay (t:=T.gw) (z:=.agg #[.int .i64 0,.int .i64 0,.int .i64 0,.slice none 0 0,.int .i32 0]) (places:=[(0,1),(1,1),(2,1),(3,1),(4,1)]) (vs:=[(0,.int .i64 1),(3,.slice b0 s.t.to.length k0)]) (cs:=#[.int .i64 1,.int .i64 0,.int .i64 0,.slice b0 s.t.to.length k0,.int .i32 0]) Ya Ya Sa (by simp[Instr.fill,Value.cells]) ?_
    refine ay (t:=T.aZ) (z:=.agg fitZ.toArray) (places:=[(0,1),(1,1),(2,1),(3,5)]) (vs:=[(3,.agg #[.int .i64 1,.int .i64 0,.int .i64 0,.slice b0 s.t.to.length k0,.int .i32 0])]) (cs:=#[.slice none 0 0,.slice none 0 0,.slice none 0 0,.int .i64 1,.int .i64 0,.int .i64 0,.slice b0 s.t.to.length k0,.int .i32 0]) Ya Ya Sa (by simp[Instr.fill,Value.cells]) ?_
    have hr:Rd W4 (.agg #[.slice none 0 0,.slice none 0 0,.slice none 0 0,.int .i64 1,.int .i64 0,.int .i64 0,.slice b0 s.t.to.length k0,.int .i32 0]) (⟨[],[],[],⟨1,0,0,s.t.to,⟨0⟩⟩⟩:FitD):=lI (ce:=[_,_,_,_,_]) aO aO aO (kV (imm:=⟨0⟩) Sa Sa hto)
    refine c4.bD (k:=(0,0)) (n:=7) (l:=fitZ) Ri hr rfl rfl Ya rfl rfl λh9 l9 hl9 c9=>?_
    have hall:=c9.all (k:=(0,0)) (n:=7) (l:=l9) (B:=R) (e:=T.aZ) Ri
    simp at hall
    simp[hall]
    exact hK _ _ (cg.of c9 (hl9▸hr) (by rw[he];rfl) λy e=>by rw[he]at e;cases e;rfl)
  refine iW (λρ h5=>h5=h4/\ρ=[(0,v),(1,.int .i64 pat),(2,ptr S),(4,ptr R),(5,.bool false),(6,ptr Tb),(7,.slice b0 s.t.to.length k0),(13,ut),(16,.slice b0 s.t.to.length k0),(17,.bool false)]) ?_ ?_
  · intro K2 hK2
    by_cases e0:pat=0
    · have e2:¬s.t.kind=1:=λe=>p1 ⟨e0,e⟩
      simp[e0,z0,e2]
      exact hK2 _ _ ⟨rfl,by rw[e0]⟩
    · simp[e0,z0]
      exact hK2 _ _ ⟨rfl,rfl⟩
  rintro _ h4 ⟨rfl,rfl⟩
  subst hy
  refine aB Sa ?_
  refine ab λy hy=>?_
  by_cases p2:pat=0/\s.t.kind=4
  · have he:gu s.f s.t pat=some ⟨s.t.args,[],[],⟨7,if s.t.args=[] then -1 else nth s.t.args 0,0,[],⟨0⟩⟩⟩:=by unfold gu;rw[if_neg p1,if_pos p2]
    simp[p2.1,z0,p2.2]
    subst hy
    refine aD Sa ?_
    refine ab λy hy=>?_
    simp
    refine ay (t:=T.gw) (z:=.agg #[.int .i64 0,.int .i64 0,.int .i64 0,.slice none 0 0,.int .i32 0]) (places:=[(0,1),(1,1),(2,1),(3,1),(4,1)]) (vs:=[(0,.int .i64 7),(1,.int .i64 (-1))]) (cs:=#[.int .i64 7,.int .i64 (-1),.int .i64 0,.slice none 0 0,.int .i32 0]) Ya Ya Sa (by simp[Instr.fill,Value.cells]) ?_
    refine c4.cQ (k:=(0,1)) (n:=4) (z:=.agg #[.int .i64 0,.int .i64 0,.int .i64 0,.slice none 0 0,.int .i32 0]) Ri Ya rfl Yc (by simp[Value.cells,Value.oneCell']) λEb h5 hle5 c5=>?_
    refine c5.oL (k:=(0,1)) (n:=4) (l:=[.int .i64 0,.int .i64 0,.int .i64 0,.slice none 0 0,.int .i32 0]) (l':=[.int .i64 7,.int .i64 (-1),.int .i64 0,.slice none 0 0,.int .i32 0]) Ri Ya rfl rfl rfl (by simp[Value.oneCell']) λh6 c6=>?_
    subst hy
    have y1:=ae c6.wle s1
    have hlen:=hva4.len (K:=vw h6)
    generalize hae:(if s.t.args=[] then(-1:Int) else nth s.t.args 0)=a at *
    refine ab λy hy=>?_
    refine iW (λρ h7=>∃o6,Cx W h W4 h7 o6/\o6 (0,0)=bx T.aZ R (RawN.mk (n:=7) fitZ)/\o6 (0,1)=bx T.gw Eb (RawN.mk (n:=4) [.int .i64 7,.int .i64 a,.int .i64 0,.slice none 0 0,.int .i32 0])/\(-9223372036854775808<=a/\a<=9223372036854775807)/\
      ρ=[(0,v),(1,.int .i64 0),(2,ptr S),(4,ptr R),(5,.bool false),(6,ptr Tb),(7,.slice b0 s.t.to.length k0),(8,ptr Eb),(13,ut),(16,.slice b0 s.t.to.length k0),(36,.agg #[.int .i64 7,.int .i64 (-1),.int .i64 0,.slice none 0 0,.int .i32 0])]) ?_ ?_
    · intro K2 hK2
      by_cases ea:s.t.args=[]
      · have el:(s.t.args.length:Int)=0:=by rw[ea];rfl
        rw[if_pos ea]at hae
        subst hae
        simp[y1,hlen,ea]
        exact hK2 _ _ ⟨_,c6,by rfl,by rfl,by decide,rfl⟩
      · have el:=List.length_pos_iff.2 ea
        rw[if_neg ea]at hae
        have a0:=hva4.rng (i:=0) el
        have x0:=hva4.idx1 (k:=.i64) (i:=0) rfl Yc Yb
        have d0:=hva4.int c6.wle (i:=0) el
        simp[y1,hlen,el,x0,d0]
        refine c6.dg (k:=(0,1)) (n:=4) (i:=1) (l:=[.int .i64 7,.int .i64 (-1),.int .i64 0,.slice none 0 0,.int .i32 0]) Ri Yc Ya rfl rfl rfl λh7 c7=>?_
        exact hK2 _ _ ⟨_,c7,by rfl,by rw[<-hae];rfl,by rw[<-hae];exact a0,rfl⟩
    · rintro _ h7 ⟨o6,c7,k00,k01,ar,rfl⟩
      subst hy
      refine ab λy hy=>?_
      refine aP (vw h7) (View.le_refl _) ?_
      have hall7:=c7.all k01
      simp at hall7
      simp[ae c7.wle s1,hall7]
      refine ah Ya (eS c7.wle hva4 Yb) ?_
      rintro ucl h8 ⟨hle8,hcl⟩
      refine⟨hle8,?_⟩
      have c8:=c7.ext hle8
      have hW8:=c7.up (h':=h8)
      have hcl0:=hcl
      obtain⟨b1,k1,rfl,-⟩:=hcl0
      refine ay (t:=T.aZ) (z:=.agg fitZ.toArray) (places:=[(0,1),(1,1),(2,1),(3,5)]) (vs:=[(0,.slice b1 s.t.args.length k1),(3,.agg #[.int .i64 7,.int .i64 a,.int .i64 0,.slice none 0 0,.int .i32 0])]) (cs:=#[.slice b1 s.t.args.length k1,.slice none 0 0,.slice none 0 0,.int .i64 7,.int .i64 a,.int .i64 0,.slice none 0 0,.int .i32 0]) Ya Ya Sa (by simp[Instr.fill,Value.cells]) ?_
      have hr:Rd (grow W4 h7 h8) (.agg #[.slice b1 s.t.args.length k1,.slice none 0 0,.slice none 0 0,.int .i64 7,.int .i64 a,.int .i64 0,.slice none 0 0,.int .i32 0]) (⟨s.t.args,[],[],⟨7,a,0,[],⟨0⟩⟩⟩:FitD):=lI (ce:=[_,_,_,_,_]) hcl aO aO (kV (imm:=⟨0⟩) (by simp;omega) Sa aO)
      refine c8.bD (k:=(0,0)) (n:=7) (l:=fitZ) k00 hr rfl rfl Ya rfl rfl λh9 l9 hl9 c9=>?_
      subst hy
      have hall:=c9.all (k:=(0,0)) (n:=7) (l:=l9) (B:=R) (e:=T.aZ) Own.aj
      simp at hall
      simp[hall]
      exact hK _ _ (cg.of c9 (hl9▸hr) (by rw[he];rfl) λy e=>by rw[he]at e;cases e;rfl)
  refine iW (λρ h5=>h5=h4/\ρ=[(0,v),(1,.int .i64 pat),(2,ptr S),(4,ptr R),(5,.bool false),(6,ptr Tb),(7,.slice b0 s.t.to.length k0),(13,ut),(16,.slice b0 s.t.to.length k0),(28,.bool false)]) ?_ ?_
  · intro K2 hK2
    by_cases e0:pat=0
    · have e2:¬s.t.kind=4:=λe=>p2 ⟨e0,e⟩
      simp[e0,z0,e2]
      exact hK2 _ _ ⟨rfl,by rw[e0]⟩
    · simp[e0,z0]
      exact hK2 _ _ ⟨rfl,rfl⟩
  rintro _ h4 ⟨rfl,rfl⟩
  subst hy
  refine aB Sa ?_
  refine ab λy hy=>?_
  by_cases p3:pat=0/\s.t.kind=5
  · have he:gu s.f s.t pat=some ⟨[],[],[],⟨8,0,0,[],s.t.imm⟩⟩:=by unfold gu;rw[if_neg p1,if_neg p2,if_pos p3]
    simp[p3.1,z0,p3.2]
    subst hy
    simp[z3]
    refine ay (t:=T.gw) (z:=.agg #[.int .i64 0,.int .i64 0,.int .i64 0,.slice none 0 0,.int .i32 0]) (places:=[(0,1),(1,1),(2,1),(3,1),(4,1)]) (vs:=[(0,.int .i64 8),(4,.int .i32 s.t.imm.v)]) (cs:=#[.int .i64 8,.int .i64 0,.int .i64 0,.slice none 0 0,.int .i32 s.t.imm.v]) Ya Ya Sa (by simp[Instr.fill,Value.cells]) ?_
    refine ay (t:=T.aZ) (z:=.agg fitZ.toArray) (places:=[(0,1),(1,1),(2,1),(3,5)]) (vs:=[(3,.agg #[.int .i64 8,.int .i64 0,.int .i64 0,.slice none 0 0,.int .i32 s.t.imm.v])]) (cs:=#[.slice none 0 0,.slice none 0 0,.slice none 0 0,.int .i64 8,.int .i64 0,.int .i64 0,.slice none 0 0,.int .i32 s.t.imm.v]) Ya Ya Sa (by simp[Instr.fill,Value.cells]) ?_
    have hr:Rd W4 (.agg #[.slice none 0 0,.slice none 0 0,.slice none 0 0,.int .i64 8,.int .i64 0,.int .i64 0,.slice none 0 0,.int .i32 s.t.imm.v]) (⟨[],[],[],⟨8,0,0,[],s.t.imm⟩⟩:FitD):=lI (ce:=[_,_,_,_,_]) aO aO aO (kV Sa ri aO)
    refine c4.bD (k:=(0,0)) (n:=7) (l:=fitZ) Ri hr rfl rfl Ya rfl rfl λh9 l9 hl9 c9=>?_
    have hall:=c9.all (k:=(0,0)) (n:=7) (l:=l9) (B:=R) (e:=T.aZ) Ri
    simp at hall
    simp[hall]
    exact hK _ _ (cg.of c9 (hl9▸hr) (by rw[he];rfl) λy e=>by rw[he]at e;cases e;rfl)
  refine iW (λρ h5=>h5=h4/\ρ=[(0,v),(1,.int .i64 pat),(2,ptr S),(4,ptr R),(5,.bool false),(6,ptr Tb),(7,.slice b0 s.t.to.length k0),(13,ut),(16,.slice b0 s.t.to.length k0),(51,.bool false)]) ?_ ?_
  · intro K2 hK2
    by_cases e0:pat=0
    · have e2:¬s.t.kind=5:=λe=>p3 ⟨e0,e⟩
      simp[e0,z0,e2]
      exact hK2 _ _ ⟨rfl,by rw[e0]⟩
    · simp[e0,z0]
      exact hK2 _ _ ⟨rfl,rfl⟩
  rintro _ h4 ⟨rfl,rfl⟩
  subst hy
  refine aB Sa ?_
  refine ab λy hy=>?_
  by_cases p4:pat=33/\s.t.kind=2
  · have he:gu s.f s.t pat=some ⟨s.t.args,[],[],⟨2,nth s.t.args 0,0,s.t.to,⟨0⟩⟩⟩:=by unfold gu;rw[if_neg p1,if_neg p2,if_neg p3,if_pos p4]
    have al:=htk.one Yb
    have a0:=hva4.rng (i:=0) al
    have x0:=hva4.idx1 (k:=.i64) (i:=0) rfl Yc Yb
    have d0:=hva4.int (View.le_refl W4) (i:=0) al
    simp[p4.1,z0,p4.2]
    subst hy
    refine aD Sa ?_
    refine ab λy hy=>?_
    refine aP W4 c4.wle ?_
    simp[s1,x0,d0]
    refine⟨?_,?_⟩
    · refine ah Ya (eS c4.wle hva4 Yb) ?_
      rintro ucl h5 ⟨hle5,hcl⟩
      have c5:=c4.ext hle5
      have hW5:=c4.up (h':=h5)
      refine⟨View.le_trans hW5 c5.wle,?_⟩
      have hcl0:=hcl
      obtain⟨b1,k1,rfl,-⟩:=hcl0
      generalize grow W4 h4 h5=W5 at *
      refine ay (t:=T.gw) (z:=.agg #[.int .i64 0,.int .i64 0,.int .i64 0,.slice none 0 0,.int .i32 0]) (places:=[(0,1),(1,1),(2,1),(3,1),(4,1)]) (vs:=[(0,.int .i64 2),(1,.int .i64 (nth s.t.args 0)),(3,.slice b0 s.t.to.length k0)]) (cs:=#[.int .i64 2,.int .i64 (nth s.t.args 0),.int .i64 0,.slice b0 s.t.to.length k0,.int .i32 0]) Ya Ya Sa (by simp[Instr.fill,Value.cells]) ?_
      refine⟨View.le_trans hW5 c5.wle,?_⟩
      refine ay (t:=T.aZ) (z:=.agg fitZ.toArray) (places:=[(0,1),(1,1),(2,1),(3,5)]) (vs:=[(0,.slice b1 s.t.args.length k1),(3,.agg #[.int .i64 2,.int .i64 (nth s.t.args 0),.int .i64 0,.slice b0 s.t.to.length k0,.int .i32 0])]) (cs:=#[.slice b1 s.t.args.length k1,.slice none 0 0,.slice none 0 0,.int .i64 2,.int .i64 (nth s.t.args 0),.int .i64 0,.slice b0 s.t.to.length k0,.int .i32 0]) Ya Ya Sa (by simp[Instr.fill,Value.cells]) ?_
      have hr:Rd W5 (.agg #[.slice b1 s.t.args.length k1,.slice none 0 0,.slice none 0 0,.int .i64 2,.int .i64 (nth s.t.args 0),.int .i64 0,.slice b0 s.t.to.length k0,.int .i32 0]) (⟨s.t.args,[],[],⟨2,nth s.t.args 0,0,s.t.to,⟨0⟩⟩⟩:FitD):=lI (ce:=[_,_,_,_,_]) hcl aO aO (kV (imm:=⟨0⟩) (by simp;omega) Sa (hto.mono hW5))
      refine c5.bD (k:=(0,0)) (n:=7) (l:=fitZ) Ri hr rfl rfl Ya rfl rfl λh9 l9 hl9 c9=>?_
      subst hy
      have hall:=c9.all (k:=(0,0)) (n:=7) (l:=l9) (B:=R) (e:=T.aZ) Ri
      simp at hall
      simp[hall]
      exact hK _ _ (cg.of c9 (hl9▸hr) (by rw[he];rfl) λy e=>by rw[he]at e;cases e;rfl)
    · refine ay (t:=T.gw) (z:=.agg #[.int .i64 0,.int .i64 0,.int .i64 0,.slice none 0 0,.int .i32 0]) (places:=[(0,1),(1,1),(2,1),(3,1),(4,1)]) (vs:=[(0,.int .i64 2),(1,.int .i64 (nth s.t.args 0)),(3,.slice b0 s.t.to.length k0)]) (cs:=#[.int .i64 2,.int .i64 (nth s.t.args 0),.int .i64 0,.slice b0 s.t.to.length k0,.int .i32 0]) Ya Ya Sa (by simp[Instr.fill,Value.cells]) ?_
      refine⟨c4.wle,?_⟩
      refine ah Ya (eS c4.wle hva4 Yb) ?_
      rintro ucl h5 ⟨hle5,hcl⟩
      have c5:=c4.ext hle5
      have hW5:=c4.up (h':=h5)
      refine⟨View.le_trans hW5 c5.wle,?_⟩
      have hcl0:=hcl
      obtain⟨b1,k1,rfl,-⟩:=hcl0
      generalize grow W4 h4 h5=W5 at *
      refine ay (t:=T.aZ) (z:=.agg fitZ.toArray) (places:=[(0,1),(1,1),(2,1),(3,5)]) (vs:=[(0,.slice b1 s.t.args.length k1),(3,.agg #[.int .i64 2,.int .i64 (nth s.t.args 0),.int .i64 0,.slice b0 s.t.to.length k0,.int .i32 0])]) (cs:=#[.slice b1 s.t.args.length k1,.slice none 0 0,.slice none 0 0,.int .i64 2,.int .i64 (nth s.t.args 0),.int .i64 0,.slice b0 s.t.to.length k0,.int .i32 0]) Ya Ya Sa (by simp[Instr.fill,Value.cells]) ?_
      have hr:Rd W5 (.agg #[.slice b1 s.t.args.length k1,.slice none 0 0,.slice none 0 0,.int .i64 2,.int .i64 (nth s.t.args 0),.int .i64 0,.slice b0 s.t.to.length k0,.int .i32 0]) (⟨s.t.args,[],[],⟨2,nth s.t.args 0,0,s.t.to,⟨0⟩⟩⟩:FitD):=lI (ce:=[_,_,_,_,_]) hcl aO aO (kV (imm:=⟨0⟩) (by simp;omega) Sa (hto.mono hW5))
      refine c5.bD (k:=(0,0)) (n:=7) (l:=fitZ) Ri hr rfl rfl Ya rfl rfl λh9 l9 hl9 c9=>?_
      subst hy
      have hall:=c9.all (k:=(0,0)) (n:=7) (l:=l9) (B:=R) (e:=T.aZ) Ri
      simp at hall
      simp[hall]
      exact hK _ _ (cg.of c9 (hl9▸hr) (by rw[he];rfl) λy e=>by rw[he]at e;cases e;rfl)
  refine iW (λρ h5=>h5=h4/\ρ=[(0,v),(1,.int .i64 pat),(2,ptr S),(4,ptr R),(5,.bool false),(6,ptr Tb),(7,.slice b0 s.t.to.length k0),(13,ut),(16,.slice b0 s.t.to.length k0),(63,.bool false)]) ?_ ?_
  · intro K2 hK2
    by_cases e0:pat=33
    · have e2:¬s.t.kind=2:=λe=>p4 ⟨e0,e⟩
      simp[e0,z0,e2]
      exact hK2 _ _ ⟨rfl,by rw[e0]⟩
    · simp[e0,z0]
      exact hK2 _ _ ⟨rfl,rfl⟩
  rintro _ h4 ⟨rfl,rfl⟩
  subst hy
  refine aB Sa ?_
  refine ab λy hy=>?_
  by_cases p5:(34<=pat/\pat<=36)/\s.t.kind=2
  · have w5:inR pat 34 36=true:=by simp[inR,p5.1.1,p5.1.2]
    have al:=htk.one Yb
    have a0:=hva4.rng (i:=0) al
    have x0:=hva4.idx1 (k:=.i64) (i:=0) rfl Yc Yb
    simp
    refine ah Ya js ?_
    rintro _ h4 ⟨rfl,rfl⟩
    simp[w5,z0,p5.2]
    subst hy
    refine aD Sa ?_
    refine ab λy hy=>?_
    simp
    subst hy
    refine ab λy hy=>?_
    refine aP (vw h4) (View.le_refl _) ?_
    obtain⟨us,hus,rus⟩:=at1.ldN rfl (N:=13) rfl
    have hus:=hus _ (View.le_trans hW3 (View.le_trans hW4 c4.wle))
    have rus:=rus.mono (View.le_trans hW3 hW4)
    have d0:=hva4.int c4.wle (i:=0) al
    have ek:(11:Int)+(pat-34)=pat-23:=by omega
    have ew0:IntKind.i64.wrap (pat-34)=pat-34:=bZ Yb Yb
    have ew:IntKind.i64.wrap (11+(pat-34))=pat-23:=by rw[bZ Yb Yb];omega
    have ew2:IntKind.i64.wrap (3+(pat-34))=pat-31:=by rw[bZ Yb Yb];omega
    have hE:gu s.f s.t pat=if(aT s.f (nth s.t.args 0) (pat-23)).2 then some ⟨(aT s.f (nth s.t.args 0) (pat-23)).1.args,s.t.args,[],⟨pat-31,nth (aT s.f (nth s.t.args 0) (pat-23)).1.args 0,nth (aT s.f (nth s.t.args 0) (pat-23)).1.args 1,s.t.to,⟨0⟩⟩⟩ else none:=by
      unfold gu;rw[if_neg p1,if_neg p2,if_neg p3,if_neg p4,if_pos p5]
    have hfm:=kh (f:=s.f) (v:=nth s.t.args 0) (op:=pat-23)
    have hfo:=mT (s:=s) (v:=us) (x:=nth s.t.args 0) (op:=pat-23) (W:=W4) (h:=h4)
    have rng : ∀{hx:Heap} {Wx:View},Cx W h Wx hx (Own.upd (λ_=>none) (0,0) (bx T.aZ R (RawN.mk (n:=7) fitZ)))->True:=λ_=>trivial
    generalize hm:(aT s.f (nth s.t.args 0) (pat-23)).1=m at *
    generalize hbb:(aT s.f (nth s.t.args 0) (pat-23)).2=b at *
    have c:=c4
    have hrefl:(vw h4).le (vw h4):=View.le_refl _
    repeat' (first
      | refine gy ?_ ?_
      | (refine bf λx hx=>?_
         simp[s1,z1,x0,d0,hus,ew0,ew]
         first
         | refine c.cQ (k:=(0,2)) (n:=4) (z:=.agg #[.int .i64 0,.int .i64 0,.int .i64 0,.slice none 0 0,.int .i32 0]) Ri Ya rfl Yc (by simp[Value.cells,Value.oneCell']) λBi h hle c=>?_
         | (refine ah Ya (mT c.wle rus hok.sm a0) ?_
            rw[hm,hbb]
            rintro _ h ⟨hle,vm,rfl,hvm⟩
            have hW:=c.up (h':=h)
            have c:=c.ext hle)
         | refine c.bD (k:=(0,2)) (n:=4) (l:=[.int .i64 0,.int .i64 0,.int .i64 0,.slice none 0 0,.int .i32 0]) Ri (hvm.mono (by repeat (first | exact View.le_refl _ | assumption | refine View.le_trans ?_ (by assumption)))) rfl rfl Ya rfl rfl λh l10 hl10 c=>?_
         try refine⟨(by repeat (first | exact View.le_refl _ | assumption | refine View.le_trans ?_ (by assumption))),?_⟩
         subst hx))
    all_goals
      simp
      subst hy
      have hvm0:=hvm
      obtain⟨a3,m3,k3,rfl⟩:=uk hvm0
      have hl10:=hl10
      have e10:l10=[.int .i64 m.op,.int .i64 m.dst,.int .i64 m.two,.slice a3 m3 k3,.int .i32 m.imm.v]:=by
        simp only[Value.agg.injEq]at hl10
        have:=congrArg Array.toList hl10
        simpa using this.symm
      subst e10
      have y10:=c.own.raw (k:=(0,2)) (n:=4) (l:=[.int .i64 m.op,.int .i64 m.dst,.int .i64 m.two,.slice a3 m3 k3,.int .i32 m.imm.v]) (B:=Bi) (e:=T.eC) Ri (i:=3) Yc
      simp at y10
      have hma:=yX hvm
      cases b with
      | false=>
        have he:gu s.f s.t pat=none:=by rw[hE];rfl
        refine ab λy hy=>?_
        simp
        refine ay (z:=.agg fitZ.toArray) (places:=[(0,1),(1,1),(2,1),(3,5)]) (vs:=[]) (cs:=fitZ.toArray) Ya Ya Sa Ya ?_
        refine c.bD (k:=(0,0)) (n:=7) (l:=fitZ) Ri fY rfl rfl Ya rfl rfl λh9 l9 hl9 c9=>?_
        have hall:=c9.all (k:=(0,0)) (n:=7) (l:=l9) (B:=R) (e:=T.aZ) Ri
        simp at hall
        simp[hall]
        exact hK _ _ (cg.of c9 (hl9▸fY) (by rw[he];rfl) λy e=>by rw[he]at e;cases e)
      | true=>
        have he:gu s.f s.t pat=some ⟨m.args,s.t.args,[],⟨pat-31,nth m.args 0,nth m.args 1,s.t.to,⟨0⟩⟩⟩:=by rw[hE];rfl
        obtain⟨mm1,mm2,-⟩:=hfm rfl
        have hal2:=(hok.all _ mm1).two Yb
        have hmost:=(hok.all _ mm1).most
        have r0:=hma.rng (i:=0) Yb
        have r1:=hma.rng (i:=1) Yb
        have x2':=hma.idx1 (k:=.i64) (i:=0) rfl Yc Yb
        have x3':=hma.idx1 (k:=.i64) (i:=1) rfl Yc Yb
        refine ab λy hy=>?_
        simp
        subst hy
        refine ab λy hy=>?_
        refine aP (vw h) (View.le_refl _) ?_
        have d2':=hma.int (View.le_trans (by repeat (first | exact View.le_refl _ | assumption | refine View.le_trans ?_ (by assumption))) c.wle) (i:=0) Yb
        have d3':=hma.int (View.le_trans (by repeat (first | exact View.le_refl _ | assumption | refine View.le_trans ?_ (by assumption))) c.wle) (i:=1) Yb
        have s1h:=ae (View.le_trans (by repeat (first | exact View.le_refl _ | assumption | refine View.le_trans ?_ (by assumption))) c.wle) s1
        have d0h:=hva4.int (View.le_trans (by repeat (first | exact View.le_refl _ | assumption | refine View.le_trans ?_ (by assumption))) c.wle) (i:=0) al
        have hva5:=hva4.mono (by repeat (first | exact View.le_refl _ | assumption | refine View.le_trans ?_ (by assumption)))
        have hto5:=hto.mono (by repeat (first | exact View.le_refl _ | assumption | refine View.le_trans ?_ (by assumption)))
        have hma5:=hma.mono (by repeat (first | exact View.le_refl _ | assumption | refine View.le_trans ?_ (by assumption)))
        have hH:(vw h).le (vw h):=View.le_refl _
        have hr : ∀{X:View} {bA bB:Option Addr} {kA kB:Nat},SlRd X (.slice bA m.args.length kA) m.args->SlRd X (.slice bB s.t.args.length kB) s.t.args->SlRd X (.slice b0 s.t.to.length k0) s.t.to->Rd X (.agg #[.slice bA m.args.length kA,.slice bB s.t.args.length kB,.slice none 0 0,.int .i64 (pat-31),.int .i64 (nth m.args 0),.int .i64 (nth m.args 1),.slice b0 s.t.to.length k0,.int .i32 0]) (⟨m.args,s.t.args,[],⟨pat-31,nth m.args 0,nth m.args 1,s.t.to,⟨0⟩⟩⟩:FitD):=λq1 q2 q3=>lI (ce:=[_,_,_,_,_]) q1 q2 aO (kV (imm:=⟨0⟩) (by simp;omega) Sa q3)
        repeat' (first
          | refine gy ?_ ?_
          | (refine bf λx hx=>?_
             simp[y10,s1h,x2',x3',d2',d3',ew2]
             first
             | refine ay (t:=T.gw) (z:=.agg #[.int .i64 0,.int .i64 0,.int .i64 0,.slice none 0 0,.int .i32 0]) (places:=[(0,1),(1,1),(2,1),(3,1),(4,1)]) (vs:=[(0,.int .i64 (pat-31)),(1,.int .i64 (nth m.args 0)),(2,.int .i64 (nth m.args 1)),(3,.slice b0 s.t.to.length k0)]) (cs:=#[.int .i64 (pat-31),.int .i64 (nth m.args 0),.int .i64 (nth m.args 1),.slice b0 s.t.to.length k0,.int .i32 0]) Ya Ya Sa (by simp[Instr.fill,Value.cells]) ?_
             | (refine ah Ya (eS c.wle (hma5.mono (by repeat (first | exact View.le_refl _ | assumption | refine View.le_trans ?_ (by assumption)))) Yb) ?_
                rintro uA h ⟨hle,hcA⟩
                have hW:=c.up (h':=h)
                have c:=c.ext hle
                have hcA0:=hcA
                obtain⟨bA,kA,rfl,-⟩:=hcA0)
             | (refine ah Ya (eS c.wle (hva5.mono (by repeat (first | exact View.le_refl _ | assumption | refine View.le_trans ?_ (by assumption)))) Yb) ?_
                rintro uB h ⟨hle,hcB⟩
                have hW:=c.up (h':=h)
                have c:=c.ext hle
                have hcB0:=hcB
                obtain⟨bB,kB,rfl,-⟩:=hcB0)
             | refine ay (t:=T.aZ) (z:=.agg fitZ.toArray) (places:=[(0,1),(1,1),(2,1),(3,5)]) (vs:=[(0,.slice bA m.args.length kA),(1,.slice bB s.t.args.length kB),(3,.agg #[.int .i64 (pat-31),.int .i64 (nth m.args 0),.int .i64 (nth m.args 1),.slice b0 s.t.to.length k0,.int .i32 0])]) (cs:=#[.slice bA m.args.length kA,.slice bB s.t.args.length kB,.slice none 0 0,.int .i64 (pat-31),.int .i64 (nth m.args 0),.int .i64 (nth m.args 1),.slice b0 s.t.to.length k0,.int .i32 0]) Ya Ya Sa (by simp[Instr.fill,Value.cells]) ?_
             | refine c.bD (k:=(0,0)) (n:=7) (l:=fitZ) Ri (hr (hcA.mono (by repeat (first | exact View.le_refl _ | assumption | refine View.le_trans ?_ (by assumption)))) (hcB.mono (by repeat (first | exact View.le_refl _ | assumption | refine View.le_trans ?_ (by assumption)))) (hto5.mono (by repeat (first | exact View.le_refl _ | assumption | refine View.le_trans ?_ (by assumption))))) rfl rfl Ya rfl rfl λh l9 hl9 c=>?_
             try refine⟨(by repeat (first | exact View.le_refl _ | assumption | refine View.le_trans ?_ (by assumption))),?_⟩
             subst hx))
        all_goals
          simp
          rw[hy]
          have hall:=c.all (k:=(0,0)) (n:=7) (l:=l9) (B:=R) (e:=T.aZ) Ri
          simp at hall
          simp[hall]
          exact hK _ _ (cg.of c (hl9▸hr (hcA.mono (by repeat (first | exact View.le_refl _ | assumption | refine View.le_trans ?_ (by assumption)))) (hcB.mono (by repeat (first | exact View.le_refl _ | assumption | refine View.le_trans ?_ (by assumption)))) (hto5.mono (by repeat (first | exact View.le_refl _ | assumption | refine View.le_trans ?_ (by assumption))))) (by rw[he];rfl) λy e=>by rw[he]at e;cases e;rfl)
  refine iW (λρ h5=>h5=h4/\ρ=[(0,v),(1,.int .i64 pat),(2,ptr S),(4,ptr R),(5,.bool false),(6,ptr Tb),(7,.slice b0 s.t.to.length k0),(13,ut),(16,.slice b0 s.t.to.length k0),(81,.bool false),(83,.bool (inR pat 34 36))]) ?_ ?_
  · intro K2 hK2
    simp
    refine ah Ya js ?_
    rintro _ h4 ⟨rfl,rfl⟩
    by_cases e0:inR pat 34 36=true
    · have e2:¬s.t.kind=2:=λe=>p5 ⟨by simpa[inR]using e0,e⟩
      simp[e0,z0,e2]
      exact hK2 _ _ ⟨rfl,by rw[e0]⟩
    · have e0:inR pat 34 36=false:=by simpa using e0
      simp[e0]
      exact hK2 _ _ ⟨rfl,by rw[e0]⟩
  rintro _ h4 ⟨rfl,rfl⟩
  subst hy
  refine aB Sa ?_
  refine ab λy hy=>?_
  by_cases p6:pat=37/\s.t.kind=3
  · have he:gu s.f s.t pat=some ⟨s.t.args,[],[],⟨6,nth s.t.args 0,0,s.t.to,⟨0⟩⟩⟩:=by unfold gu;rw[if_neg p1,if_neg p2,if_neg p3,if_neg p4,if_neg p5,if_pos p6]
    have al:=htk.one Yb
    have a0:=hva4.rng (i:=0) al
    have x0:=hva4.idx1 (k:=.i64) (i:=0) rfl Yc Yb
    have d0:=hva4.int (View.le_refl W4) (i:=0) al
    simp[p6.1,z0,p6.2]
    subst hy
    refine aD Sa ?_
    refine ab λy hy=>?_
    refine aP W4 c4.wle ?_
    simp[s1,x0,d0]
    refine⟨?_,?_⟩
    · refine ah Ya (eS c4.wle hva4 Yb) ?_
      rintro ucl h5 ⟨hle5,hcl⟩
      have c5:=c4.ext hle5
      have hW5:=c4.up (h':=h5)
      refine⟨View.le_trans hW5 c5.wle,?_⟩
      have hcl0:=hcl
      obtain⟨b1,k1,rfl,-⟩:=hcl0
      generalize grow W4 h4 h5=W5 at *
      refine ay (t:=T.gw) (z:=.agg #[.int .i64 0,.int .i64 0,.int .i64 0,.slice none 0 0,.int .i32 0]) (places:=[(0,1),(1,1),(2,1),(3,1),(4,1)]) (vs:=[(0,.int .i64 6),(1,.int .i64 (nth s.t.args 0)),(3,.slice b0 s.t.to.length k0)]) (cs:=#[.int .i64 6,.int .i64 (nth s.t.args 0),.int .i64 0,.slice b0 s.t.to.length k0,.int .i32 0]) Ya Ya Sa (by simp[Instr.fill,Value.cells]) ?_
      refine⟨View.le_trans hW5 c5.wle,?_⟩
      refine ay (t:=T.aZ) (z:=.agg fitZ.toArray) (places:=[(0,1),(1,1),(2,1),(3,5)]) (vs:=[(0,.slice b1 s.t.args.length k1),(3,.agg #[.int .i64 6,.int .i64 (nth s.t.args 0),.int .i64 0,.slice b0 s.t.to.length k0,.int .i32 0])]) (cs:=#[.slice b1 s.t.args.length k1,.slice none 0 0,.slice none 0 0,.int .i64 6,.int .i64 (nth s.t.args 0),.int .i64 0,.slice b0 s.t.to.length k0,.int .i32 0]) Ya Ya Sa (by simp[Instr.fill,Value.cells]) ?_
      have hr:Rd W5 (.agg #[.slice b1 s.t.args.length k1,.slice none 0 0,.slice none 0 0,.int .i64 6,.int .i64 (nth s.t.args 0),.int .i64 0,.slice b0 s.t.to.length k0,.int .i32 0]) (⟨s.t.args,[],[],⟨6,nth s.t.args 0,0,s.t.to,⟨0⟩⟩⟩:FitD):=lI (ce:=[_,_,_,_,_]) hcl aO aO (kV (imm:=⟨0⟩) (by simp;omega) Sa (hto.mono hW5))
      refine c5.bD (k:=(0,0)) (n:=7) (l:=fitZ) Ri hr rfl rfl Ya rfl rfl λh9 l9 hl9 c9=>?_
      subst hy
      have hall:=c9.all (k:=(0,0)) (n:=7) (l:=l9) (B:=R) (e:=T.aZ) Ri
      simp at hall
      simp[hall]
      exact hK _ _ (cg.of c9 (hl9▸hr) (by rw[he];rfl) λy e=>by rw[he]at e;cases e;rfl)
    · refine ay (t:=T.gw) (z:=.agg #[.int .i64 0,.int .i64 0,.int .i64 0,.slice none 0 0,.int .i32 0]) (places:=[(0,1),(1,1),(2,1),(3,1),(4,1)]) (vs:=[(0,.int .i64 6),(1,.int .i64 (nth s.t.args 0)),(3,.slice b0 s.t.to.length k0)]) (cs:=#[.int .i64 6,.int .i64 (nth s.t.args 0),.int .i64 0,.slice b0 s.t.to.length k0,.int .i32 0]) Ya Ya Sa (by simp[Instr.fill,Value.cells]) ?_
      refine⟨c4.wle,?_⟩
      refine ah Ya (eS c4.wle hva4 Yb) ?_
      rintro ucl h5 ⟨hle5,hcl⟩
      have c5:=c4.ext hle5
      have hW5:=c4.up (h':=h5)
      refine⟨View.le_trans hW5 c5.wle,?_⟩
      have hcl0:=hcl
      obtain⟨b1,k1,rfl,-⟩:=hcl0
      generalize grow W4 h4 h5=W5 at *
      refine ay (t:=T.aZ) (z:=.agg fitZ.toArray) (places:=[(0,1),(1,1),(2,1),(3,5)]) (vs:=[(0,.slice b1 s.t.args.length k1),(3,.agg #[.int .i64 6,.int .i64 (nth s.t.args 0),.int .i64 0,.slice b0 s.t.to.length k0,.int .i32 0])]) (cs:=#[.slice b1 s.t.args.length k1,.slice none 0 0,.slice none 0 0,.int .i64 6,.int .i64 (nth s.t.args 0),.int .i64 0,.slice b0 s.t.to.length k0,.int .i32 0]) Ya Ya Sa (by simp[Instr.fill,Value.cells]) ?_
      have hr:Rd W5 (.agg #[.slice b1 s.t.args.length k1,.slice none 0 0,.slice none 0 0,.int .i64 6,.int .i64 (nth s.t.args 0),.int .i64 0,.slice b0 s.t.to.length k0,.int .i32 0]) (⟨s.t.args,[],[],⟨6,nth s.t.args 0,0,s.t.to,⟨0⟩⟩⟩:FitD):=lI (ce:=[_,_,_,_,_]) hcl aO aO (kV (imm:=⟨0⟩) (by simp;omega) Sa (hto.mono hW5))
      refine c5.bD (k:=(0,0)) (n:=7) (l:=fitZ) Ri hr rfl rfl Ya rfl rfl λh9 l9 hl9 c9=>?_
      subst hy
      have hall:=c9.all (k:=(0,0)) (n:=7) (l:=l9) (B:=R) (e:=T.aZ) Ri
      simp at hall
      simp[hall]
      exact hK _ _ (cg.of c9 (hl9▸hr) (by rw[he];rfl) λy e=>by rw[he]at e;cases e;rfl)
  refine iW (λρ h5=>h5=h4/\ρ=[(0,v),(1,.int .i64 pat),(2,ptr S),(4,ptr R),(5,.bool false),(6,ptr Tb),(7,.slice b0 s.t.to.length k0),(13,ut),(16,.slice b0 s.t.to.length k0),(83,.bool (inR pat 34 36)),(124,.bool false)]) ?_ ?_
  · intro K2 hK2
    by_cases e0:pat=37
    · have e2:¬s.t.kind=3:=λe=>p6 ⟨e0,e⟩
      simp[e0,z0,e2]
      exact hK2 _ _ ⟨rfl,by rw[e0]⟩
    · simp[e0,z0]
      exact hK2 _ _ ⟨rfl,rfl⟩
  rintro _ h4 ⟨rfl,rfl⟩
  subst hy
  refine aB Sa ?_
  have he:gu s.f s.t pat=none:=by unfold gu;rw[if_neg p1,if_neg p2,if_neg p3,if_neg p4,if_neg p5,if_neg p6]
  simp
  subst hz
  refine ab λz hz=>?_
  simp
  refine ay (z:=.agg fitZ.toArray) (places:=[(0,1),(1,1),(2,1),(3,5)]) (vs:=[]) (cs:=fitZ.toArray) Ya Ya Sa Ya ?_
  refine c4.bD (k:=(0,0)) (n:=7) (l:=fitZ) Ri fY rfl rfl Ya rfl rfl λh9 l9 hl9 c9=>?_
  subst hz
  have hall:=c9.all (k:=(0,0)) (n:=7) (l:=l9) (B:=R) (e:=T.aZ) Ri
  simp at hall
  simp[hall]
  exact hK _ _ (cg.of c9 (hl9▸fY) (by rw[he];rfl) λy e=>by rw[he]at e;cases e)
end Go.Proofs.YtnfiilgdjpdlkaaGreatDoor
namespace Go.Proofs.YtnfiilgdjpdlkaaGreatDoor
open Go Go.Lft
theorem Cx.upW{V W W':View}{h0 h h':Heap}{o:Own}(c:Cx V h0 W h o)(hle:(vw h).le (vw h'))(u:Up W h W')(hW:W'.le (vw h')):Cx V h0 W' h' o:=by
 have A : ∀k i b,o k=some i->i.v.ownBlock=some b->W' b=none:=λk i b hk hb=>by
  have hlt:=c.own.lt hk hb;have hav:=c.own.av k i hk b hb;cases hx:W' b with
  | none=>rfl
  | some x=>rw[u.old b x hlt hx]at hav;cases hav
 exact⟨(c.own.ext' hle).HS u.le hW A,λb x hb hx=>c.old b x hb (u.old b x (N0 hb (cG c.le0)) hx),View.le_trans c.le0 hle,c.new⟩
theorem IB{s:cu}{v:Value}{pat:Int}{h:Heap}{W:View}(hW:W.le (vw h))(hv:Rd W v s)(hok:s.term=false->lJ s)(htk:s.term=true->lJ s/\uY s.t)(hM:s.i.op=15\/s.i.op=16->lL)(hp:I64 pat):
  az Tryz.prog N.eD #[v,.int .i64 pat] h (λu h'=>cg W h h' u (tryS s pat)):=by
 refine aw (args:=[v,.int .i64 pat]) follows F.eD E.eD (Lm Ya) λK hK=>?_;dsimp only[L.eD,lkF,lkG];have c0:=Cx.start hW;refine ab λz hz=>?_;simp;refine c0.dK rfl hv λS h1 W1 hW1 c1 at1 hle1=>?_;refine c1.cQ (k:=(0,0)) (n:=7) (z:=.agg fitZ.toArray) rfl Ya rfl Yc (by simp[Value.cells,Value.oneCell']) λR h2 hle2 c2=>?_;subst hz;have tm:=(at1.part cu.nj).bool;have tm:ao W1 ⟨S,11,none⟩=some (.bool s.term):=by simpa using tm
 have tm:=ae c2.wle tm;obtain⟨us,hus,rus⟩:=at1.ldN rfl (N:=13) rfl;have hus:=hus _ c2.wle;refine ab λz hz=>?_;cases ht:s.term with
 | true=>
  rw[ht]at tm;obtain⟨hk1,hk2⟩:=htk ht;have e:tryS s pat=gu s.f s.t pat:=by unfold tryS;rw[if_pos ht]
  rw[e]at hK;simp[tm,hus];refine ah Ya (IQ c2.wle rus hk1 hk2 hp) ?_;rintro _ h3 ⟨hle3,vf,x,rfl,hvf,hx⟩;have c3:=c2.ext hle3;simp;refine c3.bD (k:=(0,0)) (n:=7) (l:=fitZ) Ri hvf rfl rfl Ya rfl rfl λh9 l9 hl9 c9=>?_;have hall:=c9.all (k:=(0,0)) (n:=7) (l:=l9) (B:=R) (e:=T.aZ) Ri;simp at hall;simp[hall];exact hK _ _ (cg.of c9 (hl9▸hvf) rfl hx)
 | false=>
  rw[ht]at tm;have e:tryS s pat=patS s.f s.i s.temp pat:=by unfold tryS;rw[ht];rfl
  rw[e]at hK;simp[tm];subst hz;refine ab λz hz=>?_;simp[hus];refine ah Ya (y5 c2.wle rus (hok ht) ht hM) ?_;rintro _ h3 ⟨r,W3,rfl,u3,p3,hle3⟩;have c3:=Cx.upW c2 hle3 u3 p3.wle;obtain⟨g,g1,g2,g3⟩:=p3.ex;refine mB (f:=mapE id g) (z:=.nilFunc) (k:=T.int) (e:=T.gF) (d:=.int .i64) (r:=r) (u:=.int .i64 pat) U.cZ U.int Ya rfl rfl fK g1 ?_;simp;subst hz;refine ab λz hz=>?_;have g2p:=g2 pat;have g3p:=g3 pat;cases hg:g pat with
  | none=>
   rw[hg]at g2p;have e0:patS s.f s.i s.temp pat=none:=by unfold patS;rw[if_neg];rintro⟨a1,a2,-⟩;simp[nTo]at g2p;omega
   rw[e0]at hK;simp;refine ay (t:=T.aZ) (z:=.agg fitZ.toArray) (places:=[(0,1),(1,1),(2,1),(3,5)]) (vs:=[]) (cs:=fitZ.toArray) Ya Ya Sa Ya ?_;refine c3.bD (k:=(0,0)) (n:=7) (l:=fitZ) Ri fY rfl rfl Ya rfl rfl λh9 l9 hl9 c9=>?_;have hall:=c9.all (k:=(0,0)) (n:=7) (l:=l9) (B:=R) (e:=T.aZ) Ri;simp at hall;simp[hall];exact hK _ _ (cg.of c9 (hl9▸fY) rfl λy e=>by cases e)
  | some fv=>obtain⟨fn,caps,rfl,hfn,hcall⟩:=(g3p fv hg).ex;simp;subst hz;refine ab λz hz=>?_;simp;refine cj (ops:=[]) rfl hfn (by simpa using hcall h3 W3 (View.le_refl _) p3.wle) ?_;rintro _ h4 ⟨hle4,vf,x,rfl,hvf,hx⟩;have c4:=c3.ext hle4;simp;refine c4.bD (k:=(0,0)) (n:=7) (l:=fitZ) Ri hvf rfl rfl Ya rfl rfl λh9 l9 hl9 c9=>?_;subst hz;have hall:=c9.all (k:=(0,0)) (n:=7) (l:=l9) (B:=R) (e:=T.aZ) Ri;simp at hall;simp[hall];exact hK _ _ (cg.of c9 (hl9▸hvf) rfl hx)
abbrev RSt:=List Bool × List Int
def jU (wo:Int) (to:List Int) (k:Nat) (s:RSt):RSt:=
 if(0<=nth to k/\nth to k<s.1.length)/\nth s.1 (nth to k).toNat=false/\nth to k≠wo then(s.1.set (nth to k).toNat true,s.2++[nth to k]) else s
def uQ (f:an) (wo:Int) (i:Nat) (s:RSt):RSt:=up (jU wo (nth f.blocks (nth s.2 i).toNat).term.to) (nth f.blocks (nth s.2 i).toNat).term.to.length s
def rchS (f:an) (wo:Int):Nat->Nat->RSt->RSt
 | 0,_,s=>s
 | n+1,i,s=>if i<s.2.length then rchS f wo n (i+1) (uQ f wo i s) else s
def rch0 (f:an) (wo:Int):RSt:=if wo≠0/\0<f.blocks.length then((List.replicate f.blocks.length false).set 0 true,[0]) else(List.replicate f.blocks.length false,[])
def fh (f:an) (wo:Int):List Bool:=(rchS f wo (f.blocks.length+1) 0 (rch0 f wo)).1
structure ROk (n:Nat) (s:RSt):Prop where
 len:s.1.length=n
 cnt:s.2.length+dO s.1<=n
 rng : ∀x∈s.2,0<=x/\x<n
variable{wo:Int}
theorem zC{n:Nat}{to:List Int}{k:Nat}{s:RSt}(h:ROk n s):ROk n (jU wo to k s):=by
 unfold jU;split
 ·rename_i hc;have hf:=jv (t:=s.1) (i:=(nth to k).toNat) Yb hc.2.1;refine⟨by simpa using h.len,?_,λx hx=>?_⟩
  ·have:=h.cnt;simp only[Lv,LO];omega
  rcases Lt.1 hx with hx | hx
  ·exact h.rng x hx
  rw[Lx.1 hx,<-h.len];exact hc.1
 exact h
theorem vR{n:Nat}{to:List Int}{s:RSt}(h:ROk n s)(m:Nat):ROk n (up (jU wo to) m s):=rL (ROk n) (λk x hx=>zC hx) m s h
theorem yc{f:an}:ROk f.blocks.length (rch0 f wo):=by
 unfold rch0;have hfa:dO (List.replicate f.blocks.length false)=f.blocks.length:=by simp[dO]
 split
 ·rename_i hc;have hf:=jv (t:=List.replicate f.blocks.length false) (i:=0) (by simpa using hc.2) (by rw[aC (by simpa using hc.2)];simp);exact⟨by simp,by simp only[LO];omega,λx hx=>by rw[Lx.1 hx];omega⟩
 exact⟨by simp,by simp only[NY];omega,λx hx=>by cases hx⟩
theorem CD {f:an} {wo:Int} : ∀{m i:Nat} {s:RSt},ROk f.blocks.length s->ROk f.blocks.length (rchS f wo m i s)
 | 0,_,_,h=>h
 | m+1,i,s,h=>by
  rw[rchS];split
  ·exact CD (vR h _)
  exact h
theorem qD{f:an}:(fh f wo).length=f.blocks.length:=(CD yc).len
def qw (vo vq:Value) (s:RSt):Own:=λk=>if k=(0,0) then it T.bool vo s.1 else if k=(0,1) then it T.int vq s.2 else none
theorem vy{f:an}{v:Value}{h:Heap}(hv:Rd (vw h) v f)(hn:f.blocks.length<=1000000):
  az Tryz.prog N.bJ #[v,.int .i64 wo] h (λu h'=>(vw h).le (vw h')/\SlRd (fresh h h') u (fh f wo)):=by
 refine aw (args:=[v,.int .i64 wo]) follows F.bJ E.bJ (Lm Ya) λK hK=>?_;dsimp only[L.bJ,lkF,lkG];refine ab λz hz=>?_;simp;refine iY rfl hv λh1 _ hle1 hsz1 hat=>?_;obtain⟨_,vb,cb⟩:=jI hat;generalize h.size=B at cb;subst hz;refine ab λz hz=>?_;simp[cb.1,cb.2.len];refine nv (α:=Bool) (W:=vw h1) (k:=.i64) (n:=f.blocks.length) (d:=false) El.nB Sa Sa rfl Yb Yb λvo h2 o2 m2 hle2 hb2=>?_;have w2:=(Owns.start (h:=h1) (View.le_refl (vw h1))).add (k:=(0,0)) rfl o2 hle2 (λb hb=>by rw[hb2]at hb;cases hb;exact Lp _);subst hz;refine ab λz hz=>?_;simp;refine qz (α:=Int) El.aY λh3 hle3 hsz3 own3=>?_;have w3:=w2.add (k:=(0,1)) rfl (own3 _) hle3 (λb hb=>by simp only[Value.ownBlock,Ln]at hb;omega);have w3:Owns (vw h1) h3 (qw vo (.slice (some ⟨h2.size,0,none⟩) 0 0) (List.replicate f.blocks.length false,[])):=w3.congr λq=>by
  unfold qw Own.upd;repeat' split
  all_goals first | rfl | simp_all
 generalize Value.slice (some ⟨h2.size,0,none⟩) 0 0=vq at w3;subst hz;refine ab λz hz=>?_;have cc3:=ae w3.wle cb.1;have cb3:=cb.2.mono w3.wle;have fin : ∀(h4:Heap) (vq:Value) (tl:Env),Owns (vw h1) h4 (qw vo vq (rch0 f wo))->@LC.wp noPP Tryz.prog z (@dW [.tmp 4] K) ([(0,v),(1,.int .i64 wo),(2,.pointer (some ⟨B,0,none⟩)),(4,.slice none 0 0),(5,vo),(6,vq)]++tl) h4:=by
  intro h4 vq tl w4;subst hz;refine ab λz hz=>?_;simp;refine jR [1,2,5,6,7] (λm ρ h5=>∃(i:Nat) (s:RSt) (vq:Value),i<=f.blocks.length/\m=f.blocks.length+1-i/\ρ=[(1,.int .i64 wo),(2,.pointer (some ⟨B,0,none⟩)),(5,vo),(6,vq),(7,.int .i64 i)]/\Owns (vw h1) h5 (qw vo vq s)/\ROk f.blocks.length s/\
   (rchS f wo m i s).1=fh f wo) (f.blocks.length+1) ⟨0,_,vq,by omega,rfl,by simp[ck,af],w4,yc,rfl⟩ ?_;rintro m ρ h5 ⟨i,s,vq5,hi,rfl,rfl,w5,hok,hfin⟩ K2 hK2;have no:=w5.now (k:=(0,0)) (v:=vo) (l:=s.1) rfl;have nq:=w5.now (k:=(0,1)) (v:=vq5) (l:=s.2) rfl;have hcnt:=hok.cnt;by_cases hlt:i<s.2.length
  ·have hm:f.blocks.length+1-i=(f.blocks.length-i)+1:=by omega
   rw[hm,rchS,if_pos hlt]at hfin;obtain⟨r0,r1⟩:=hok.rng _ (cr hlt);have cb5:=cb.2.mono w5.wle;obtain⟨w,hw⟩:=yt cb5 (i:=(nth s.2 i).toNat) Yb;obtain⟨w',hw'⟩:=yt cb.2 (i:=(nth s.2 i).toNat) Yb;have eww:w'=w:=Option.some.inj ((ae w5.wle hw'.1).symm.trans hw.1);rw[eww]at hw';have hwb:=hw.2.bound;have hrow:uQ f wo i s=up (jU wo (nth f.blocks (nth s.2 i).toNat).term.to) (nth f.blocks (nth s.2 i).toNat).term.to.length s:=rfl;rw[hrow]at hfin;generalize hto:(nth f.blocks (nth s.2 i).toNat).term.to=to at hw hw' hwb hfin;refine ab λy hy=>?_;simp(disch:=omega)[nq.len,hlt];subst hy;refine ab λy hy=>?_;refine ab λx hx=>?_;simp(disch:=omega)[ae w5.wle cb.1,cb5.idxn (N:=6) rfl,nq.idx1 rfl,nq.int (View.le_refl _),hw.1];subst hx;simp;refine dR [1,2,5,6,7,8,9] (fun(q:Value) j=>[.int .i64 wo,.pointer (some ⟨B,0,none⟩),vo,q,.int .i64 i,w,.int .i64 j]) (λq j h6=>Owns (vw h1) h6 (qw vo q (up (jU wo to) j s))) to.length vq5
    rfl Yb rfl w5 (λ_ _=>rfl) (λv j h4 hk m=>by simp[hw.2.len]) ?_ ?_
   ·rintro q j h6 hltj w6 K3 hK3;have hst:up (jU wo to) (j+1) s=jU wo to j (up (jU wo to) j s):=rfl;have hok6:=vR (wo:=wo) (to:=to) hok j;generalize up (jU wo to) j s=s6 at w6 hst hok6;have no6:=w6.now (k:=(0,0)) (v:=vo) (l:=s6.1) rfl;have nq6:=w6.now (k:=(0,1)) (v:=q) (l:=s6.2) rfl;have hcnt6:=hok6.cnt;have hlen6:=hok6.len;have hr6:=hw'.2.mono w6.wle;have hrng:=hw'.2.range hltj;rw[jU]at hst;by_cases c1:0<=nth to j/\nth to j<s6.1.length
    ·have c1a:=c1.1;have c1b:=c1.2;cases c2:nth s6.1 (nth to j).toNat with
     | true=>rw[if_neg (by rw[c2];simp)]at hst;simp(disch:=omega)[hr6.idx1 rfl,hr6.int (View.le_refl _),no6.len,no6.idx1 rfl,no6.bool (View.le_refl _),c1a,c1b,c2];exact hK3 q _ _ rfl rfl (by rw[hst];exact w6)
     | false=>
      by_cases c3:nth to j=wo
      ·rw[if_neg (by simp[c3])]at hst;rw[c3]at c1a c1b c2;simp(disch:=omega)[hr6.idx1 rfl,hr6.int (View.le_refl _),no6.len,no6.idx1 rfl,no6.bool (View.le_refl _),c1a,c1b,c2,c3];exact hK3 q _ _ rfl rfl (by rw[hst];exact w6)
      rw[if_pos ⟨c1,c2,c3⟩]at hst;refine ab λx hx=>?_;simp(disch:=omega)[hr6.idx1 rfl,hr6.int (View.le_refl _),no6.len,no6.idx1 rfl,no6.bool (View.le_refl _),c1a,c1b,c2,c3];subst hx;simp(disch:=omega)[hr6.idx1 rfl,hr6.int (View.le_refl _),no6.idx1 rfl];refine w6.bD (k:=(0,0)) (α:=Bool) (l:=s6.1) (v:=vo) (i:=(nth to j).toNat) (d:=true) rfl Ya (by simp[show Rep.n Bool=1 from rfl]) (by simp<;>rfl) Yb IF λh7 w7 hs7=>?_;have hr7:=hw'.2.mono w7.wle;simp(disch:=omega)[hr7.idx1 rfl,hr7.int (View.le_refl _)];refine w7.ib (k:=(0,1)) (α:=Int) (v:=q) (l:=s6.2) (d:=nth to j) rfl El.aY (by simp<;>rfl) (ox hrng.1 hrng.2) Yb Yb (λ_=>by simp) (λ_=>by simp) λu q8 h8 w8 hs8=>?_;refine hK3 q8 _ _ rfl rfl ?_;rw[hst];refine w8.congr λq=>?_;unfold qw Own.upd;repeat' split
      all_goals first | rfl | simp_all
    rw[if_neg (λe=>c1 e.1)]at hst;by_cases c1a:0<=nth to j
    ·have c1b:¬nth to j<s6.1.length:=λe=>c1 ⟨c1a,e⟩;simp(disch:=omega)[hr6.idx1 rfl,hr6.int (View.le_refl _),no6.len,c1a,c1b];exact hK3 q _ _ rfl rfl (by rw[hst];exact w6)
    simp(disch:=omega)[hr6.idx1 rfl,hr6.int (View.le_refl _),no6.len,c1a];exact hK3 q _ _ rfl rfl (by rw[hst];exact w6)
   rintro q h6 w6;simp;subst hy;simp(disch:=omega);exact hK2 (f.blocks.length+1-(i+1)) _ _ Yb ⟨i+1,_,q,by omega,rfl,by simp[ck],w6,vR hok _,by rw[show f.blocks.length+1-(i+1)=f.blocks.length-i by omega];exact hfin⟩
  have hlt':¬(i:Int)<s.2.length:=by omega
  simp(disch:=omega)[L.bJ.l1,nq.len,hlt];subst hz;simp;have hs1:s.1=fh f wo:=by
   rw[<-hfin];cases f.blocks.length+1-i with
   | zero=>rfl
   | succ m=>rw[rchS,if_neg hlt]
  have ow:=w5.get (k:=(0,0)) (v:=vo) (l:=s.1) rfl;refine hK _ _ ⟨View.le_trans hle1 w5.wle,?_⟩;rw[<-hs1];have ow':OwnT nothing h5 T.bool vo s.1:=ow;refine ow'.fresh (λ_ _ h=>by cases h) λb hb=>?_;rw[hb2]at hb;cases hb;exact View.df (View.le_refl _) Yb
 by_cases c1:wo=0
 ·have hr0:rch0 f wo=(List.replicate f.blocks.length false,[]):=by rw[rch0,if_neg (λe=>e.1 c1)]
  rw[hr0]at fin;simp[cc3,cb3.len,c1];rw[c1]at fin;exact fin _ _ _ w3
 by_cases c2:0<f.blocks.length
 ·have hr0:rch0 f wo=((List.replicate f.blocks.length false).set 0 true,[0]):=by rw[rch0,if_pos ⟨c1,c2⟩]
  rw[hr0]at fin;have no:=w3.now (k:=(0,0)) (v:=vo) (l:=List.replicate f.blocks.length false) rfl;refine ab λy hy=>?_;simp(disch:=omega)[cc3,cb3.len,c1,c2];subst hy;have i0:Bn.ev (.idx 1) vo (.int .i64 0)=some (.pointer (some ((slA vo).add 0))):=no.idx1 rfl Yb (by simpa using c2);simp(disch:=omega)[i0];refine w3.bD (k:=(0,0)) (α:=Bool) (l:=List.replicate f.blocks.length false) (v:=vo) (i:=0) (d:=true) rfl Ya (by simp[show Rep.n Bool=1 from rfl]) (by simp<;>rfl) (by simpa using c2) IF λh4 w4 hs4=>?_;refine w4.ib (k:=(0,1)) (α:=Int) (v:=vq) (l:=[]) (d:=0) rfl El.aY (by simp<;>rfl) (ox Yb Yb) Sa Sa (λ_=>by simp) (λ_=>by simp) λu q5 h5 w5 hs5=>?_;refine fin _ _ _ (w5.congr λq=>?_);unfold qw Own.upd;repeat' split
  all_goals first | rfl | simp_all
 have hr0:rch0 f wo=(List.replicate f.blocks.length false,[]):=by rw[rch0,if_neg (λe=>c2 e.2)]
 rw[hr0]at fin;simp[cc3,cb3.len,c1,c2];exact fin _ _ _ w3
theorem nG{l:List BlkD}:(ofG l).length=l.length:=by simp[ofG]
theorem qI{l:List BlkD}{a b:Int}:mS (ofG l) a b=true↔(0<=a/\a<l.length/\0<=b/\b<l.length)/\b∈(nth l a.toNat).term.to:=by
 rw[iS,nG];constructor
 ·rintro⟨h,hm⟩;rw[ofG,gG Yb,rR]at hm;exact⟨h,hm.1⟩
 rintro⟨h,hm⟩;refine⟨h,?_⟩;rw[ofG,gG Yb,rR];exact⟨hm,h.2.2.1,h.2.2.2⟩
structure Rb (f:an) (wo:Int) (s:RSt):Prop where
 ok:ROk f.blocks.length s
 seen : ∀b:Nat,b<f.blocks.length->(nth s.1 b=true↔(b:Int)∈s.2)
 sound : ∀x∈s.2,Re (ofG f.blocks) wo x.toNat
theorem Kh{f:an}{a:Int}{k:Nat}{s:RSt}(h:Rb f wo s)(h0:0<=a)(h1:a<f.blocks.length)(ha:Re (ofG f.blocks) wo a.toNat)(hk:k<(nth f.blocks a.toNat).term.to.length):
  Rb f wo (jU wo (nth f.blocks a.toNat).term.to k s)/\s.2 <+: (jU wo (nth f.blocks a.toNat).term.to k s).2/\
   (0<=nth (nth f.blocks a.toNat).term.to k->nth (nth f.blocks a.toNat).term.to k<f.blocks.length->nth (nth f.blocks a.toNat).term.to k≠wo->nth (nth f.blocks a.toNat).term.to k∈(jU wo (nth f.blocks a.toNat).term.to k s).2):=by
 have hok:=zC (wo:=wo) (to:=(nth f.blocks a.toNat).term.to) (k:=k) h.ok;have hm:=cr hk;unfold jU at hok ⊢;generalize hto:(nth f.blocks a.toNat).term.to=to at hm hok ⊢;split
 ·rename_i hc;rw[if_pos hc]at hok;obtain⟨⟨c1,c2⟩,c3,c4⟩:=hc;rw[h.ok.len]at c2;have hb:((nth to k).toNat:Int)=nth to k:=LQ c1;refine⟨⟨hok,λb hb=>?_,λx hx=>?_⟩,List.prefix_append _ _,λ_ _ _=>MO _ (Lx.2 rfl)⟩
  ·rw[Lt,Lx];by_cases he:b=(nth to k).toNat
   ·subst he;rw[bQ (by rw[h.ok.len];omega),if_pos rfl];exact⟨λ_=>.inr (LQ c1),λ_=>rfl⟩
   rw[bQ (by rw[h.ok.len];exact hb),if_neg (λe=>he e.symm),h.seen b hb];exact⟨.inl,λe=>e.resolve_right Yb⟩
  rcases Lt.1 hx with hx | hx
  ·exact h.sound x hx
  rw[Lx.1 hx];refine .step ha ?_ (by rw[hb];exact c4);rw[qI,hb];exact⟨⟨by omega,by omega,c1,c2⟩,by rw[LN,hto];exact hm⟩
 rename_i hc;rw[if_neg hc]at hok;refine⟨h,NA _,λc1 c2 c4=>?_⟩;have hb:((nth to k).toNat:Int)=nth to k:=LQ c1;rw[<-hb,<-h.seen _ Yb];cases e:nth s.1 (nth to k).toNat with
 | true=>rfl
 | false=>exact absurd ⟨⟨c1,by rw[h.ok.len];exact c2⟩,e,c4⟩ hc
theorem F7 {f:an} {wo a:Int} {s:RSt} (h:Rb f wo s) (h0:0<=a) (h1:a<f.blocks.length) (ha:Re (ofG f.blocks) wo a.toNat) : ∀m,m<=(nth f.blocks a.toNat).term.to.length->
  Rb f wo (up (jU wo (nth f.blocks a.toNat).term.to) m s)/\s.2 <+: (up (jU wo (nth f.blocks a.toNat).term.to) m s).2/\
   ∀k,k<m->0<=nth (nth f.blocks a.toNat).term.to k->nth (nth f.blocks a.toNat).term.to k<f.blocks.length->nth (nth f.blocks a.toNat).term.to k≠wo->nth (nth f.blocks a.toNat).term.to k∈(up (jU wo (nth f.blocks a.toNat).term.to) m s).2
 | 0,_=>⟨h,NA _,λk hk=>by omega⟩
 | m+1,hm=>by
  obtain⟨i1,i2,i3⟩:=F7 h h0 h1 ha m Yb;obtain⟨j1,j2,j3⟩:=Kh (k:=m) i1 h0 h1 ha Yb;rw[up];refine⟨j1,i2.trans j2,λk hk c1 c2 c3=>?_⟩;rcases Lr k m with hlt | hge
  ·exact j2.subset (i3 k hlt c1 c2 c3)
  have:k=m:=by omega
  subst this;exact j3 c1 c2 c3
structure Rc (f:an) (wo:Int) (i:Nat) (s:RSt):Prop where
 b:Rb f wo s
 root:wo≠0->0<f.blocks.length->(0:Int)∈s.2
 done : ∀j,j<i->j<s.2.length->∀b:Nat,mS (ofG f.blocks) (nth s.2 j) b=true->(b:Int)≠wo->(b:Int)∈s.2
variable{α:Type}
theorem CH[Inhabited α]{a b:List α}(h:a <+: b){i:Nat}(hi:i<a.length):nth b i=nth a i:=by obtain⟨t,rfl⟩:=h;rw[aC (by simp;omega),aC hi,NV hi]
theorem Hf{f:an}{i:Nat}{s:RSt}(h:Rc f wo i s)(hi:i<s.2.length):Rc f wo (i+1) (uQ f wo i s)/\s.2 <+: (uQ f wo i s).2:=by
 have hm:=cr hi;obtain⟨h0,h1⟩:=h.b.ok.rng _ hm;have hre:=h.b.sound _ hm;obtain⟨i1,i2,i3⟩:=F7 h.b h0 h1 hre _ (Lp _);have he:uQ f wo i s=up (jU wo (nth f.blocks (nth s.2 i).toNat).term.to) (nth f.blocks (nth s.2 i).toNat).term.to.length s:=rfl;rw[<-he]at i1 i2 i3;refine⟨⟨i1,λa b=>i2.subset (h.root a b),λj hj hjl b hb hne=>?_⟩,i2⟩;rcases Lr j i with hlt | hge
 ·rw[CH i2 Yb]at hb;exact i2.subset (h.done j hlt Yb b hb hne)
 have:j=i:=by omega
 subst this;rw[CH i2 hi,qI]at hb;obtain⟨⟨_,_,q1,q2⟩,hmem⟩:=hb;obtain⟨k,hk,e⟩:=LS hmem;rw[<-aC hk]at e;rw[<-e];exact i3 k hk Yb Yb (by rw[e];exact hne)
theorem EW {f:an} {wo:Int} : ∀{m i:Nat} {s:RSt},Rc f wo i s->f.blocks.length<i+m->∃k,Rc f wo k (rchS f wo m i s)/\(rchS f wo m i s).2.length<=k
 | 0,i,s,h,hm=>⟨i,h,by have:=h.b.ok.cnt;rw[rchS];omega⟩
 | m+1,i,s,h,hm=>by
  rw[rchS];split
  ·rename_i hi;exact EW (Hf h hi).1 Yb
  rename_i hi;exact⟨i,h,by omega⟩
theorem Hj{f:an}:Rc f wo 0 (rch0 f wo):=by
 have hok:=yc (f:=f) (wo:=wo);unfold rch0 at hok ⊢;split
 ·rename_i hc;rw[if_pos hc]at hok;refine⟨⟨hok,λb hb=>?_,λx hx=>?_⟩,λ_ _=>Lx.2 rfl,λj hj=>by omega⟩
  ·rw[bQ (by simpa using hb),Lx];split
   ·rename_i e;subst e;simp
   rename_i e;rw[aC (by simpa using hb)];simp;omega
  rw[Lx.1 hx];exact .root (by rw[nG];exact hc.2) hc.1
 rename_i hc;rw[if_neg hc]at hok;refine⟨⟨hok,λb hb=>?_,λx hx=>by cases hx⟩,λa b=>absurd ⟨a,b⟩ hc,λj hj=>by omega⟩;rw[aC (by simpa using hb)];simp
variable{b:Nat}
theorem jH{f:an}(hb:b<f.blocks.length):nth (fh f wo) b=true↔Re (ofG f.blocks) wo b:=by
 obtain⟨k,h,hk⟩:=EW (Hj (f:=f) (wo:=wo)) (m:=f.blocks.length+1) Yb;unfold fh;generalize rchS f wo (f.blocks.length+1) 0 (rch0 f wo)=s at h hk;rw[h.b.seen b hb];constructor
 ·exact λhm=>by simpa using h.b.sound _ hm
 intro hr;induction hr with
 | root h1 h2=>exact h.root h2 (by rw[<-nG];exact h1)
 | @step a b ha he hne ih=>have hm:=ih (by have:=(qI.1 he).1;omega);obtain⟨j,hj,e⟩:=LS hm;rw[<-aC hj]at e;exact h.done j Yb hj b (by rw[e];exact he) hne
instance:Rep Th:=Rep.via λd=>Cat.mk d.blk (Cat.mk d.place (Cat.mk d.mks d.tks))
theorem Th.Ib:Part Th Int 0 Th.blk (λd x=>{ d with blk:=x }):=(Part.fst Part.all).via (λ_=>rfl) λ_ _=>rfl
theorem Th.J8:Part Th (List Int) 2 Th.mks (λd x=>{ d with mks:=x }):=(Part.snd (Part.snd (Part.fst Part.all))).via (λ_=>rfl) λ_ _=>rfl
structure ThR where
 blk:Int
 place:Int
 mks:List Int
 tks:Raw
instance:Rep ThR:=Rep.via λd=>Cat.mk d.blk (Cat.mk d.place (Cat.mk d.mks d.tks))
theorem ThR.HK:Part ThR Raw 3 ThR.tks (λd x=>{ d with tks:=x }):=(Part.snd (Part.snd (Part.snd Part.all))).via (λ_=>rfl) λ_ _=>rfl
theorem Et{H:View}{a b:Int}{u q:Value}{m t:List Int}(ha:I64 a)(hb:I64 b)(hm:SlRd H u m)(ht:SlRd H q t):Rd H (.agg #[.int .i64 a,.int .i64 b,u,q]) (Th.mk a b m t):=
 ⟨_,rfl,[.int .i64 a],[.int .i64 b,u,q],rfl,⟨rfl,ha⟩,[.int .i64 b],[u,q],rfl,⟨rfl,hb⟩,[u],[q],rfl,⟨u,rfl,hm⟩,⟨q,rfl,ht⟩⟩
theorem Jp{H:View}{a b:Int}{u q:Value}{m:List Int}(ha:I64 a)(hb:I64 b)(hm:SlRd H u m)(hq:q.oneCell'=true):Rd H (.agg #[.int .i64 a,.int .i64 b,u,q]) (ThR.mk a b m ⟨q⟩):=
 ⟨_,rfl,[.int .i64 a],[.int .i64 b,u,q],rfl,⟨rfl,ha⟩,[.int .i64 b],[u,q],rfl,⟨rfl,hb⟩,[u],[q],rfl,⟨u,rfl,hm⟩,⟨rfl,hq⟩⟩
theorem C4{H:View}{cs:List Value}{d:ThR}(h:Rep.rd H cs d): ∃u,cs=[.int .i64 d.blk,.int .i64 d.place,u,d.tks.v]/\I64 d.blk/\I64 d.place/\SlRd H u d.mks:=by obtain⟨c1,r1,rfl,⟨rfl,h1⟩,c2,r2,rfl,⟨rfl,h2⟩,c3,r3,rfl,⟨u,rfl,h3⟩,rfl,_⟩:=h;exact⟨u,rfl,h1,h2,h3⟩
def n7 (vo:Value) (l:List Th):Own:=λk=>if k=(0,0) then it T.fy vo l else none
def tH (vo:Value) (l:List Th) (D:Nat) (d:ThR) (q:Value) (t:List Int):Own:=λk=>if k=(0,0) then it T.fy vo l else if k=(1,0) then bx T.fy D d else if k=(1,1) then it T.int q t else none
structure ThS (V:View) (h0:Heap) (vo:Value) (l:List Th) (W:View) (h:Heap):Prop where
 own:Owns W h (n7 vo l)
 old:Old V h0 W
 le:(vw h0).le (vw h)
 av:Av (vw h0) vo
theorem ThS.ext {V:View} {h0:Heap} {vo:Value} {l:List Th} {W:View} {h h':Heap} (k:ThS V h0 vo l W h) (hle:(vw h).le (vw h')):ThS V h0 vo l (grow W h h') h':=
 ⟨k.own.ext hle,k.old.grow (cG k.le),View.le_trans k.le hle,k.av⟩
theorem D8{po:OP}{ty:TypeId}{us:List (Nat × Value)}{h:Heap}{K:Value->Heap->Prop}{x y z w:Operand}{a b:Int}{u q:Value}(hx:asg us x = .int .i64 a)(hy:asg us y = .int .i64 b)(hz:asg us z=u)(hw:asg us w=q)(hu:u.cells = #[u])(hq:q.cells = #[q])(hk:K (.agg #[.int .i64 a,.int .i64 b,u,q]) h):
  Lft.step Tryz.prog (.build T.fy #[(0,x),(1,y),(2,z),(3,w)]) ty us h K:=
 ay (z:=.agg #[.int .i64 0,.int .i64 0,.slice none 0 0,.slice none 0 0]) (places:=[(0,1),(1,1),(2,1),(3,1)]) (vs:=[(0,.int .i64 a),(1,.int .i64 b),(2,u),(3,q)]) (cs:=#[.int .i64 a,.int .i64 b,u,q]) Ya Ya (by simp[hx,hy,hz,hw])
  (by simp[Instr.fill,hu,hq]) hk
theorem CX{po:OP}{ty:TypeId}{us:List (Nat × Value)}{h:Heap}{K:Value->Heap->Prop}{x y z:Operand}{a b:Int}{u:Value}(hx:asg us x = .int .i64 a)(hy:asg us y = .int .i64 b)(hz:asg us z=u)(hu:u.cells = #[u])(hk:K (.agg #[.int .i64 a,.int .i64 b,u,.slice none 0 0]) h):
  Lft.step Tryz.prog (.build T.fy #[(0,x),(1,y),(2,z)]) ty us h K:=
 ay (z:=.agg #[.int .i64 0,.int .i64 0,.slice none 0 0,.slice none 0 0]) (places:=[(0,1),(1,1),(2,1),(3,1)]) (vs:=[(0,.int .i64 a),(1,.int .i64 b),(2,u)]) (cs:=#[.int .i64 a,.int .i64 b,u,.slice none 0 0]) Ya Ya (by simp[hx,hy,hz])
  (by simp[Instr.fill,hu]) hk
theorem CP{po:OP}{ty:TypeId}{us:List (Nat × Value)}{h:Heap}{K:Value->Heap->Prop}{x y w:Operand}{a b:Int}{q:Value}(hx:asg us x = .int .i64 a)(hy:asg us y = .int .i64 b)(hw:asg us w=q)(hq:q.cells = #[q])(hk:K (.agg #[.int .i64 a,.int .i64 b,.slice none 0 0,q]) h):
  Lft.step Tryz.prog (.build T.fy #[(0,x),(1,y),(3,w)]) ty us h K:=
 ay (z:=.agg #[.int .i64 0,.int .i64 0,.slice none 0 0,.slice none 0 0]) (places:=[(0,1),(1,1),(2,1),(3,1)]) (vs:=[(0,.int .i64 a),(1,.int .i64 b),(3,q)]) (cs:=#[.int .i64 a,.int .i64 b,.slice none 0 0,q]) Ya Ya (by simp[hx,hy,hw])
  (by simp[Instr.fill,hq]) hk
theorem ye{f:an}{v:Value}{V:View}{h:Heap}(hv:Rd V v f)(hV:V.le (vw h))(hsm:SmF f):
  az Tryz.prog N.bg #[v] h (λu h'=>(vw h).le (vw h')/\SlRd (grow V h h') u (aJ f)):=by
 refine aw (args:=[v]) follows F.bg E.bg (Lm Ya) λK hK=>?_;have hn:=hsm.len;dsimp only[L.bg,lkF,lkG];refine ab λz hz=>?_;simp;refine dK (v:=v) rfl ?_;have hle1:=bV h (.cells v.cells T.cz);have hat1:At (grow V h (h.push (.cells v.cells T.cz))) ⟨h.size,0,none⟩ f:=oJ (t:=T.cz) (fz:=(0,0)) (by rw[cI (Lp _)];simp) (hv.mono (bP hV));have hs1:(h.push (.cells v.cells T.cz)).size=h.size+1:=by simp
 generalize h.push (.cells v.cells T.cz)=h1 at hle1 hat1 hs1;have hW1:(grow V h h1).le (vw h1):=lk (View.le_trans hV hle1);have old1:Old V h (grow V h h1):=(Old.refl V h).grow (Lp _);obtain⟨_,vb,cb⟩:=jI hat1;generalize grow V h h1=W1 at cb hW1 old1;generalize h.size=B at cb;subst hz;refine ab λz hz=>?_;simp;refine qz (α:=Th) El.gV λh2 hle2 hsz2 own2=>?_;have t2:ThS V h (.slice (some ⟨h1.size,0,none⟩) 0 0) [] W1 h2:=⟨((Owns.start hW1).add (k:=(0,0)) rfl (own2 _) hle2 (λb hb=>by simp only[Value.ownBlock,Ln]at hb;omega)).congr λq=>by
   unfold n7 Own.upd;repeat' split
   all_goals first | rfl | simp_all,old1,View.le_trans hle1 hle2,λb hb=>by cases hb;exact View.df (View.le_refl _) (by show h.size<=h1.size;omega)⟩;generalize Value.slice (some ⟨h1.size,0,none⟩) 0 0=v0 at t2;subst hz;refine ab λz hz=>?_;simp
 refine dR [1,3,4] (fun(r:Value) b=>[.pointer (some ⟨B,0,none⟩),r,.int .i64 b]) (λr b h3=>∃W,W1.le W/\ThS V h r (thTo f b) W h3) f.blocks.length v0
  rfl Yb rfl ⟨W1,View.le_refl _,t2⟩ (λ_ _=>rfl) (λv k h3 hk ⟨W,q1,q2⟩=>by simp[ae (View.le_trans q1 q2.own.wle) cb.1,(cb.2.mono (View.le_trans q1 q2.own.wle)).len]) ?_ ?_
 ·rintro r b h3 hltb ⟨W3,hW3,t3⟩ K2 hK2;have hl3:=wu hsm (n:=b) Yb;have cb3:=cb.2.mono (View.le_trans hW3 t3.own.wle);have cc3:=ae (View.le_trans hW3 t3.own.wle) cb.1;obtain⟨u,hu,hur⟩:=(cb.2.mono hW3).wh rfl (N:=6) rfl hltb;have sb:=hsm.blk b hltb;refine ab λy hy=>?_;simp(disch:=omega)[cc3,cb3.idxn (N:=6) rfl,hu _ t3.own.wle];refine eK (X:=W3) (z:=.agg #[.slice none 0 0,.slice none 0 0,.int .i64 0,.slice none 0 0,.slice none 0 0,.int .i32 0]) Ya rfl Ya hur (λ_=>by simp) (λ_=>by simp) λh4 hle4 hsz4 hat4=>?_;have t4:=t3.ext hle4;have hat4':=hat4 (grow W3 h3 h4) (bP t3.own.wle) (cI (Lp _));obtain⟨vp,vi,va,vt,bp,bi,bk,ba,bt⟩:=kG hat4';have hW4:=View.le_trans hW3 (bP (h':=h4) t3.own.wle);generalize grow W3 h3 h4=W4 at t4 bp bi bk ba bt hW4;generalize h3.size=D at bp bi bk ba bt;subst hy;refine ab λy hy=>?_;simp;have sp:=sb.phis;refine dR [1,3,4,5,6] (fun(r:Value) i=>[.pointer (some ⟨B,0,none⟩),r,.int .i64 b,.pointer (some ⟨D,0,none⟩),.int .i64 i]) (λr i h5=>∃W,W4.le W/\ThS V h r (thTo f b++rows (phiT f b) i) W h5) (nth f.blocks b).phis.length r
   rfl Yb rfl ⟨W4,View.le_refl _,by simpa using t4⟩ (λ_ _=>rfl) (λv k h3 hk ⟨W,q1,q2⟩=>by simp[ae (View.le_trans q1 q2.own.wle) bp.1,(bp.2.mono (View.le_trans q1 q2.own.wle)).len]) ?_ ?_
  ·rintro r i h5 hlti ⟨W5,hW5,t5⟩ K3 hK3;have bp5:=bp.2.mono hW5;have bph:=bp5.mono t5.own.wle;have cph:=ae (View.le_trans hW5 t5.own.wle) bp.1;have hap:=(bp5.at hlti);rw[<-aC hlti]at hap;have hdst:ao W5 (((slA vp).add (i*2)).add 0)=some (.int .i64 (nth (nth f.blocks b).phis i).dst):=(hap.part PhiD.ix).int;have hdr:=(hap.part PhiD.ix).rng;obtain⟨vq,hvq⟩:=(hap.part PhiD.mw).sl;have hvq1:ao W5 (((slA vp).add (i*2)).add 1)=some vq:=hvq.1;have hvq2:=hvq.2;have hpl:=sb.phi i hlti;have hpt:phiT f b i=⟨b,-1-i,[(nth (nth f.blocks b).phis i).dst],(nth (nth f.blocks b).phis i).ins.map InD.val⟩:=rfl;generalize nth (nth f.blocks b).phis i=x at hdst hdr hvq2 hpl hpt;refine ab λq hq=>?_;simp(disch:=omega)[cph,bph.idxn (N:=2) rfl,ae t5.own.wle hdst];refine lB (X:=nothing) (ds:=[x.dst]) (vs:=[.int .i64 x.dst]) rfl El.aY Sa ⟨bK.2 ⟨rfl,hdr⟩,trivial⟩ bS rfl Yb λu6 h6 hle6 hsz6 hu6 hub6=>?_;have hu6n:=hu6 (vw h6) bS rfl;refine CX rfl rfl rfl hu6n.cells.1 ?_;simp;refine gM (n:=4) (v:=.agg #[.int .i64 b,.int .i64 (-1-i),u6,.slice none 0 0]) (z:=.agg #[.int .i64 0,.int .i64 0,.slice none 0 0,.slice none 0 0]) Ya rfl Ya rfl (by intro c hc;simp at hc;rcases hc with rfl | rfl | rfl | rfl<;>first | rfl | exact hu6n.cells.2) (λ_=>by simp) (λ_=>by simp) λh7 hle7 hsz7 hb7=>?_;have w6:=t5.own.ext hle6;have w7:=(w6.add (k:=(1,0)) rfl (gQ (h:=h7) (d:=ThR.mk b (-1-i) [x.dst] ⟨.slice none 0 0⟩) hb7 (Jp ⟨by omega,by omega⟩ ⟨by omega,by omega⟩ (hu6 _ bS (cI (Lp _))) rfl) Yc) hle7 (λb hb=>by simp only[Value.ownBlock,Ln]at hb;omega)).add (k:=(1,1)) rfl (OwnT.nil (α:=Int) _ h7 T.int) (View.le_refl _) (λb hb=>by simp[Value.ownBlock]at hb);have w7:Owns (grow W5 h5 h6) h7 (tH r (thTo f b++rows (phiT f b) i) h6.size (ThR.mk b (-1-i) [x.dst] ⟨.slice none 0 0⟩) (.slice none 0 0) []):=w7.congr λq=>by
    unfold tH n7 Own.upd;repeat' split
    all_goals first | rfl | simp_all
   have hW7:=View.le_trans hW5 (bP (h':=h6) t5.own.wle);have old7:=t5.old.grow (h1:=h5) (h2:=h6) (cG t5.le);have hle07:=View.le_trans t5.le (View.le_trans hle6 hle7);have hvq7:=hvq2.mono (bP (h':=h6) t5.own.wle);have cvq7:=ae (bP (h':=h6) t5.own.wle) hvq1;generalize grow W5 h5 h6=W7 at w7 hW7 old7 hvq7 cvq7;have hD7:h.size<=h6.size:=LM (cG t5.le) (cG hle6);generalize h6.size=D7 at w7 hD7;subst hq;refine ab λq hq=>?_;simp;refine dR [1,3,4,5,6,7,8] (fun(q:Value) j=>[.pointer (some ⟨B,0,none⟩),r,.int .i64 b,.pointer (some ⟨D,0,none⟩),.int .i64 i,.pointer (some ⟨D7,0,none⟩),.int .i64 j])
    (λq j h8=>Owns W7 h8 (tH r (thTo f b++rows (phiT f b) i) D7 (ThR.mk b (-1-i) [x.dst] ⟨q⟩) q ((x.ins.map InD.val).take j))/\(vw h).le (vw h8)/\Av (vw h) q) x.ins.length (.slice none 0 0)
    rfl Yb rfl ⟨w7,hle07,Av.nil _ _ _⟩ (λ_ _=>rfl) (λv k h8 hk ⟨w8,q2⟩=>by have bp8:=(bp.2.mono hW7).mono w8.wle;simp(disch:=omega)[ae (View.le_trans hW7 w8.wle) bp.1,bp8.idxn (N:=2) rfl,ae w8.wle cvq7,(hvq7.mono w8.wle).len]) ?_ ?_
   ·rintro q8 j h8 hltj ⟨w8,hle08,av8⟩ K4 hK4;have bp8:=(bp.2.mono hW7).mono w8.wle;have hv8:=hvq7.mono w8.wle;have hai:=(hvq7.at hltj);rw[<-aC hltj]at hai;have hval:ao W7 (((slA vq).add (j*2)).add 1)=some (.int .i64 (nth x.ins j).val):=(hai.part InD.zl).int;have hvr:=(hai.part InD.zl).rng;have hl8:((x.ins.map InD.val).take j).length=j:=by simp;omega
    have htk:(x.ins.map InD.val).take (j+1)=(x.ins.map InD.val).take j++[(nth x.ins j).val]:=by rw[OX,M6,LY hltj,aC hltj];rfl
    have hq8:ao (vw h8) ⟨D7,3,none⟩=some q8:=by have:=((w8.at (k:=(1,0)) (e:=T.fy) (B:=D7) (d:=ThR.mk b (-1-i) [x.dst] ⟨q8⟩) rfl).part ThR.HK).raw;simpa using this
    refine aP (vw h8) (View.le_refl _) ?_;simp(disch:=omega)[hq8,ae (View.le_trans hW7 w8.wle) bp.1,bp8.idxn (N:=2) rfl,ae w8.wle cvq7,hv8.idxn (N:=2) rfl,ae w8.wle hval];refine mF (α:=Int) (W:=W7) El.aY rfl (bK.2 ⟨rfl,hvr⟩) λu9 h9 hs9 hle9 hsz9=>⟨hle9,?_⟩;refine(w8.ext' hle9).bY (k:=(1,1)) (α:=Int) (v:=q8) (l:=(x.ins.map InD.val).take j) rfl El.aY rfl rfl hs9 (by simp;omega) (by simp;omega) λq10 h10 w10 m10=>?_;have hc10:=w10.cells (k:=(1,1)) (Own.aj);obtain⟨hX10,av10⟩:=m10.view (View.le_trans hle08 hle9) av8;refine w10.mV (k:=(1,0)) (e:=T.fy) (B:=D7) (D:=ThR.mk b (-1-i) [x.dst] ⟨q8⟩) ThR.HK (d:=⟨q10⟩) rfl Ya rfl rfl (mH.2 ⟨rfl,hc10.2⟩) λh11 w11 hX11=>?_;refine hK4 q10 _ _ rfl rfl ⟨w11.congr λp=>?_,hX11 _ hX10 (View.df (View.le_refl _) hD7),av10⟩;rw[htk];unfold tH Own.upd;repeat' split
    all_goals first | rfl | simp_all
   rintro q8 h8 ⟨w8,hle08,av8⟩;rw[Lw Sa]at w8;simp;subst hq;obtain⟨cs,hcs,hrd⟩:=w8.atW (k:=(1,0)) (e:=T.fy) (B:=D7) (d:=ThR.mk b (-1-i) [x.dst] ⟨q8⟩) rfl;obtain⟨u9,rfl,i1,i2,hu9⟩:=C4 hrd;obtain⟨w9,hq9⟩:=w8.freeze (k:=(1,1)) (v:=q8) (l:=x.ins.map InD.val) rfl;have hpl9:W7.le (W7.plus q8 h8):=eM (w8.av (1,1) _ rfl);have hload:Un.ev (vw h8) (.bM 4) (.pointer (some ⟨D7,0,none⟩))=some (.agg #[.int .i64 b,.int .i64 (-1-i),u9,q8]):=by have:=fQ hcs 4 0 #[] Ri;simp[Un.ev,vP,this]
   have hold9:Old V h (W7.plus q8 h8):=λc o hc hco=>by
    unfold View.plus at hco;split at hco
    ·rename_i e;have:=av8 c e;simp only[vw]at this;rw[LK hc]at this;cases this
    exact old7 c o hc hco
   have w9:Owns (W7.plus q8 h8) h8 (n7 r (thTo f b++rows (phiT f b) i)):=w9.sub λp x hp=>by
    unfold n7 at hp;split at hp
    ·rename_i e;subst e;exact hp
    cases hp
   have hlr:(thTo f b++rows (phiT f b) i).length=(thTo f b).length+i:=by simp
   simp[hload];refine w9.vW (k:=(0,0)) (α:=Th) (v:=r) (l:=thTo f b++rows (phiT f b) i) (d:=phiT f b i) rfl El.gV rfl (by rw[hpt];exact Et i1 i2 (hu9.mono hpl9) hq9) Yb Yb (λ_=>rfl) (λ_=>rfl) λu10 r10 h10 w10 hX10=>?_;obtain⟨g1,g2⟩:=hX10 _ hle08 t5.av;refine hK3 r10 _ _ rfl rfl ⟨W7.plus q8 h8,View.le_trans hW7 hpl9,⟨w10.congr λp=>?_,hold9,g1,g2⟩⟩;rw[fA,<-List.append_assoc];unfold n7 Own.upd;repeat' split
   all_goals first | rfl | simp_all
  rintro r h5 ⟨W5,hW5,t5⟩;simp;subst hy;refine ab λy hy=>?_;simp;have si:=sb.ins;refine dR [1,3,4,5,9] (fun(r:Value) i=>[.pointer (some ⟨B,0,none⟩),r,.int .i64 b,.pointer (some ⟨D,0,none⟩),.int .i64 i]) (λr i h6=>∃W,W4.le W/\ThS V h r (thTo f b++rows (phiT f b) (nth f.blocks b).phis.length++rows (insT f b) i) W h6) (nth f.blocks b).ins.length r
   rfl Yb rfl ⟨W5,hW5,by simpa using t5⟩ (λ_ _=>rfl) (λv k h3 hk ⟨W,q1,q2⟩=>by simp[ae (View.le_trans q1 q2.own.wle) bi.1,(bi.2.mono (View.le_trans q1 q2.own.wle)).len]) ?_ ?_
  ·rintro r i h6 hlti ⟨W6,hW6,t6⟩ K3 hK3;have bi6:=bi.2.mono hW6;have bih:=bi6.mono t6.own.wle;have cih:=ae (View.le_trans hW6 t6.own.wle) bi.1;obtain⟨ux,hux,huxr⟩:=bi6.wh rfl (N:=5) rfl hlti;have hap:=(bi6.at hlti);rw[<-aC hlti]at hap;obtain⟨vq,hvq⟩:=(hap.part InsD.fj).sl;have hvq1:ao W6 (((slA vi).add (i*5)).add 3)=some vq:=hvq.1;have hvq2:=hvq.2;have hpt:insT f b i=⟨b,i,di (nth (nth f.blocks b).ins i),(nth (nth f.blocks b).ins i).args⟩:=rfl;generalize nth (nth f.blocks b).ins i=x at hvq2 huxr hpt;have hlr:(thTo f b++rows (phiT f b) (nth f.blocks b).phis.length++rows (insT f b) i).length=(thTo f b).length+(nth f.blocks b).phis.length+i:=by simp;omega
   refine aP (vw h6) (View.le_refl _) ?_;simp(disch:=omega)[cih,bih.idxn (N:=5) rfl,hux _ t6.own.wle,ae t6.own.wle hvq1];refine ah Ya (oG (huxr.mono t6.own.wle)) ?_;rintro u7 h7 ⟨hle7,hu7,_⟩;refine⟨hle7,?_⟩;have t7:=t6.ext hle7;have hu7':=hu7.mono (jw W6 h6 h7);have hvq7:=hvq2.mono (bP (h':=h7) t6.own.wle);refine D8 rfl rfl rfl rfl hu7.cells.1 hvq2.cells.1 ?_;simp;refine t7.own.vW (k:=(0,0)) (α:=Th) (v:=r) (l:=thTo f b++rows (phiT f b) (nth f.blocks b).phis.length++rows (insT f b) i) (d:=insT f b i) rfl El.gV rfl (by rw[hpt];exact Et ⟨by omega,by omega⟩ ⟨by omega,by omega⟩ hu7' hvq7) Yb Yb (λ_=>rfl) (λ_=>rfl) λu10 r10 h10 w10 hX10=>?_;obtain⟨g1,g2⟩:=hX10 _ t7.le t7.av;refine hK3 r10 _ _ rfl rfl ⟨_,View.le_trans hW6 (bP (h':=h7) t6.own.wle),⟨w10.congr λp=>?_,t7.old,g1,g2⟩⟩;rw[fA,<-List.append_assoc];unfold n7 Own.upd;repeat' split
   all_goals first | rfl | simp_all
  rintro r h6 ⟨W6,hW6,t6⟩;simp;subst hy;have hW6h:=View.le_trans hW6 t6.own.wle;have bih:=bi.2.mono hW6h;have cih:=ae hW6h bi.1;have hlr:(thTo f b++rows (phiT f b) (nth f.blocks b).phis.length++rows (insT f b) (nth f.blocks b).ins.length).length=(thTo f b).length+(nth f.blocks b).phis.length+(nth f.blocks b).ins.length:=by simp;omega
  simp[cih,bih.len,ae hW6h ba.1];refine CP rfl rfl rfl (ba.2.cells.1) ?_;simp;refine t6.own.vW (k:=(0,0)) (α:=Th) (v:=r) (l:=thTo f b++rows (phiT f b) (nth f.blocks b).phis.length++rows (insT f b) (nth f.blocks b).ins.length) (d:=endT f b) rfl El.gV rfl (Et ⟨by omega,by omega⟩ ⟨by omega,by omega⟩ aO (ba.2.mono hW6)) Yb Yb (λ_=>rfl) (λ_=>rfl) λu10 r10 h10 w10 hX10=>?_;obtain⟨g1,g2⟩:=hX10 _ t6.le t6.av;refine hK2 r10 _ _ rfl rfl ⟨_,View.le_trans hW4 hW6,⟨w10.congr λp=>?_,t6.old,g1,g2⟩⟩;have e:thTo f (b+1)=thTo f b++rows (phiT f b) (nth f.blocks b).phis.length++rows (insT f b) (nth f.blocks b).ins.length++[endT f b]:=by rw[gZ,thB];simp[LD]
  rw[e];unfold n7 Own.upd;repeat' split
  all_goals first | rfl | simp_all
 rintro r h3 ⟨W3,hW3,t3⟩;simp;subst hz;simp;exact hK _ _ ⟨t3.le,(t3.own.get (k:=(0,0)) (v:=r) (l:=thTo f f.blocks.length) rfl).rd (t3.old.le t3.own.wle) λb hb=>by
  have:=t3.av b hb;rw[cI];rcases Lr b h.size with hlt | hge
  ·simp[vw,hlt]at this
  exact hge⟩
structure GotD where
 e:Int
 b:Int
 p:Int
instance:Rep GotD:=Rep.via λd=>Cat.mk d.e (Cat.mk d.b d.p)
abbrev BL:=List Bool
def pB (t:Th) (j:Nat) (m:BL):Except Tr BL:=if nth m (nth t.mks j).toNat then .error (12,t.blk,t.place) else .ok (m.set (nth t.mks j).toNat true)
def iH (f:an) (t:Th):BlkD:=nth f.blocks t.blk.toNat
def yZ (f:an) (t:Th):InsD:=nth (iH f t).ins t.place.toNat
def qH (f:an) (t:Th):Bool:=decide (0<=t.place)&&decide (t.place<(iH f t).ins.length)
def mG (f:an) (t:Th):Bool:=decide (t.place=(iH f t).ins.length)
def sN (s:InsD):Bool:=decide (s.op<1)||decide (18<s.op)||!xO s.op s.args.length
def mI (f:an) (n:Int):Bool:=decide (n<f.params)||decide (8191<n)
def vQ (f:an) (n:Int):Bool:=decide (n<1)||decide ((f.blocks.length:Int)<=n)
def nw (f:an) (t:Th):Except Tr BL->Except Tr BL
 | .error e=>.error e
 | .ok m'=>if mG f t&&(iH f t).term.to.any (vQ f) then .error (14,t.blk,t.place) else .ok m'
def iV (f:an) (t:Th) (m:BL):Except Tr BL:=
 if qH f t&&sN (yZ f t) then .error (10,t.blk,t.place)
 else if mG f t&&!tw (iH f t).term then .error (10,t.blk,t.place)
 else if t.mks.any (mI f) then .error (11,t.blk,t.place)
 else nw f t (upE (pB t) t.mks.length m)
def kf (f:an):Except Tr BL:=upE (λi m=>iV f (nth (aJ f) i) m) (aJ f).length (List.replicate 8192 false)
def xh {α:Type}:Except Tr α->Tr | .ok _=>(0,0,0) | .error t=>t
def noTh:Th:=⟨-1,0,[],[]⟩
def gh (t:Th) (l:List Th) (n:Int):List Th:=if 0<=n/\n<8192 then l.set n.toNat t else l
def qq (l:List Th) (t:Th):List Th:=t.mks.foldl (gh t) l
def xM (ts:List Th):List Th:=ts.foldl qq (List.replicate 8192 noTh)
variable{n:Int}
theorem ny{t:Th}{l:List Th}:(gh t l n).length=l.length:=by unfold gh;split<;>simp
theorem Bd{t:Th}{l:List Th}:(qq l t).length=l.length:=pj (f:=gh t) (λx:List Th=>x.length=l.length) (λ_ _ h=>ny.trans h) _ _ rfl
theorem BF{ts:List Th}:(xM ts).length=8192:=pj (f:=qq) (λx:List Th=>x.length=8192) (λ_ _ h=>Bd.trans h) _ _ (MD ..)
def iM (f:an) (made:List Th) (away:List BL) (v blk place:Int):Bool:=
 if 0<=v/\v<f.params then true
 else if(v<0\/8191<v)\/(nth made v.toNat).blk<0 then false
 else if(nth made v.toNat).blk=blk then decide ((nth made v.toNat).place<0)||decide ((nth made v.toNat).place<place)
 else !nth (nth away (nth made v.toNat).blk.toNat) blk.toNat
def pK (f:an) (t:Th):PhiD:=nth (iH f t).phis (-1-t.place).toNat
def A4 (f:an) (b:Int):Int:=((nth f.blocks b.toNat).ins.length:Nat)
def qN (f:an) (t:Th):Bool:=decide (0<t.blk)&&decide ((pK f t).ins.map InD.frm=dp f t.blk)
def stT (f:an) (made:List Th) (away:List BL) (t:Th) (x:Int):Bool:=!iM f made away x t.blk t.place
def stP (f:an) (made:List Th) (away:List BL) (p:InD):Bool:=!iM f made away p.val p.frm (A4 f p.frm)
def gK (f:an) (made:List Th) (away:List BL) (t:Th):Except Tr Unit:=
 if 0<=t.place then(if t.tks.any (stT f made away t) then .error (13,t.blk,t.place) else .ok ())
 else if !qN f t then .error (16,t.blk,t.place)
 else if(pK f t).ins.any (stP f made away) then .error (13,t.blk,t.place)
 else .ok ()
def iZ (f:an):List Th:=xM (aJ f)
def iu (f:an):List BL:=rows (λb=>fh f b) f.blocks.length
def uO (f:an):Nat->Nat
 | 0=>f.blocks.length
 | n+1=>uO f n+(nth f.blocks n).phis.length+(nth f.blocks n).ins.length
def wayE (f:an):Except Tr Unit:=upE (λb _=>if nth (fh f (-1)) b=true then .ok () else .error (15,b,0)) f.blocks.length ()
def y8 (f:an):Except Tr Unit:=upE (λi _=>gK f (iZ f) (iu f) (nth (aJ f) i)) (aJ f).length ()
def JI:Except Tr Unit->Except Tr Unit->Except Tr Unit
 | .ok _,y=>y
 | .error e,_=>.error e
def wv (f:an):Tr:=
 if f.params<0\/4<f.params then(1,0,0)
 else if f.blocks.length=0 then(14,0,0)
 else if 512<f.blocks.length\/4096<uO f f.blocks.length then(2,0,0)
 else if(xh (kf f)).1≠0 then xh (kf f)
 else xh (JI (wayE f) (y8 f))
theorem pq {σ ε:Type} {f:Nat->σ->Except ε σ} {s:σ} {t:ε} : ∀{n:Nat},upE f n s = .error t->∃k s',k<n/\upE f k s = .ok s'/\f k s' = .error t
 | n+1,h=>by
  simp only[upE]at h;split at h
  ·rename_i s' hs;exact⟨n,s',Nat.lt_succ_self n,hs,h⟩
  rename_i t' ht;cases h;obtain⟨k,s',h1,h2⟩:=pq ht;exact⟨k,s',Nat.lt_succ_of_lt h1,h2⟩
theorem sO{f:an}{t:Th}{m:BL}{e:Tr}(h:iV f t m = .error e):(10<=e.1/\e.1<=14)/\e.2.1=t.blk/\e.2.2=t.place:=by
 unfold iV at h;split at h
 ·cases h;simp
 split at h
 ·cases h;simp
 split at h
 ·cases h;simp
 unfold nw at h;split at h
 ·rename_i e' he;cases h;obtain⟨k,s',_,_,h3⟩:=pq he;unfold pB at h3;split at h3
  ·cases h3;simp
  cases h3
 split at h
 ·cases h;simp
 cases h
theorem C0(hn:0<=n){ts:List Th}(h : ∀t∈ts,t.blk<n){i:Nat}(hi:i<8192):(nth (xM ts) i).blk<n:=by
 have key : ∀(ts:List Th),(∀t∈ts,t.blk<n)->∀l:List Th,(∀x∈l,x.blk<n)->∀x∈ts.foldl qq l,x.blk<n:=by
  intro ts;induction ts with
  | nil=>exact λ_ l hl=>hl
  | cons t ts ih=>
   intro ht l hl;refine ih (λx hx=>ht x (LB _ hx)) _ ?_;refine pj (f:=gh t) (λl:List Th=>∀x∈l,x.blk<n) (λl a hl x hx=>?_) _ _ hl;unfold gh at hx;split at hx
   ·rcases ME hx with h | rfl
    ·exact hl x h
    exact ht _ LA
   exact hl x hx
 refine key ts h _ (λx hx=>?_) _ (cr (by show i<(xM ts).length;rw[BF];exact hi));rw[(List.mem_replicate.1 hx).2];show(-1:Int)<n;omega
theorem ju{σ ε:Type}{f:σ->α->Except ε σ}{a b:List α}{s:σ}:(a++b).foldlM f s=(match a.foldlM f s with | .ok s'=>b.foldlM f s' | .error e=>.error e):=by rw[ON];cases a.foldlM f s<;>rfl
theorem qt{σ ε:Type}{f:σ->α->Except ε σ}{a:α}{s:σ}:[a].foldlM f s=f s a:=by rw[MY];cases f s a<;>rfl
theorem mO {σ α ε:Type} {g:Nat->σ->Except ε σ} {f:σ->α->Except ε σ} {x:Nat->α} {s:σ} : ∀{n:Nat},(∀i s,i<n->g i s=f s (x i))->upE g n s=(rows x n).foldlM f s
 | 0,_=>rfl
 | n+1,h=>by
  have ih:=mO (n:=n) (s:=s) λi s hi=>h i s Yb;rw[fA,ju,<-ih];simp only[upE];cases upE g n s with
  | ok s'=>show g n s'=[x n].foldlM f s';rw[qt];exact h n s' Yb
  | error e=>rfl
theorem oz{σ ε:Type}[Inhabited α]{f:σ->α->Except ε σ}{l:List α}{s:σ}:upE (λi s=>f s (nth l i)) l.length s=l.foldlM f s:=by rw[mO (f:=f) (x:=nth l) λ_ _ _=>rfl];congr 1;refine Ng Sa λi h1 h2=>?_;simp[rows,aC h2]
def kP (f:an) (m:MW) (t:Th):Except Tr MW:=
 if t.place<0 then allS f.params t.mks t.blk t.place m
 else if t.place<(iH f t).ins.length then insS f.params t.blk (iH f t) t.place.toNat m
 else endS f.blocks.length t.blk (iH f t) m
theorem rD{f:an}{i:Nat}{m:MW}:kP f m (phiT f b i)=phiS f.params b (nth f.blocks b) i m:=by unfold kP;rw[if_pos (show(phiT f b i).place<0 by show -1-(i:Int)<0;omega)];rfl
theorem sr{f:an}{i:Nat}{m:MW}(hi:i<(nth f.blocks b).ins.length):kP f m (insT f b i)=insS f.params b (nth f.blocks b) i m:=by unfold kP;rw[if_neg (show ¬(insT f b i).place<0 by show ¬(i:Int)<0;omega),if_pos (show(insT f b i).place<((iH f (insT f b i)).ins.length:Int) by show(i:Int)<((nth f.blocks b).ins.length:Int);omega)];rfl
theorem rV{f:an}{m:MW}:kP f m (endT f b)=endS f.blocks.length b (nth f.blocks b) m:=by unfold kP;rw[if_neg (show ¬(endT f b).place<0 by show ¬((nth f.blocks b).ins.length:Int)<0;omega),if_neg (show ¬(endT f b).place<((iH f (endT f b)).ins.length:Int) by show ¬((nth f.blocks b).ins.length:Int)<((nth f.blocks b).ins.length:Int);omega)];rfl
theorem FF{f:an}{m:MW}:blkS f b m=(thB f b).foldlM (kP f) m:=by
 unfold blkS thB;rw[mO (f:=kP f) (x:=phiT f b) (n:=(nth f.blocks b).phis.length) λi s hi=>rD.symm];rw[ju,ju];cases (rows (phiT f b) (nth f.blocks b).phis.length).foldlM (kP f) m with
 | error e=>rfl
 | ok m1=>
  simp only;rw[mO (f:=kP f) (x:=insT f b) (n:=(nth f.blocks b).ins.length) λi s hi=>(sr hi).symm];cases (rows (insT f b) (nth f.blocks b).ins.length).foldlM (kP f) m1 with
  | error e=>rfl
  | ok m2=>simp only;rw[qt];exact rV.symm
theorem uN{f:an}{m:MW}:ma f m=(aJ f).foldlM (kP f) m:=by
 have key : ∀n,upE (blkS f) n m=(thTo f n).foldlM (kP f) m:=by
  intro n;induction n with
  | zero=>rfl
  | succ n ih=>
   rw[gZ,ju,<-ih];simp only[upE];cases upE (blkS f) n m with
   | error e=>rfl
   | ok s=>exact FF
 exact key _
theorem pL{f:an}:kf f=(aJ f).foldlM (λm t=>iV f t m) (List.replicate 8192 false):=oz (f:=fun(m:BL) (t:Th)=>iV f t m)
def sS (m:MW) (l:BL):Prop:=l.length=8192/\∀n:Int,0<=n->n<8192->(m n).isSome=nth l n.toNat
def Alike {α β:Type} (R:α->β->Prop):Except Tr α->Except Tr β->Prop
 | .ok a,.ok b=>R a b
 | .error e,.error e'=>e=e'
 | _,_=>False
theorem qm {α β γ:Type} {R:α->β->Prop} {F:α->γ->Except Tr α} {G:β->γ->Except Tr β} : ∀{l:List γ},(∀t∈l,∀a b,R a b->Alike R (F a t) (G b t))->∀{a:α} {b:β},R a b->Alike R (l.foldlM F a) (l.foldlM G b)
 | [],_,a,b,h=>h
 | t::l,hs,a,b,h=>by
  rw[MY,MY];have:=hs t LA a b h;cases e1:F a t with
  | error e=>
   cases e2:G b t with
   | error e'=>rw[e1,e2]at this;exact this
   | ok b'=>rw[e1,e2]at this;exact this.elim
  | ok a'=>
   cases e2:G b t with
   | error e'=>rw[e1,e2]at this;exact this.elim
   | ok b'=>rw[e1,e2]at this;exact qm (λt ht=>hs t (LB _ ht)) this
theorem DB{f:an}:cM n f.params 8191=!mI f n:=by rw[LV];simp[cM,mI]
theorem Cd{p:α->Bool}{l:List α}:l.all (λn=>!p n)=!l.any p:=by
 induction l with
 | nil=>rfl
 | cons a l ih=>simp[ih]
def mq (t:Th) (m:BL) (n:Int):Except Tr BL:=if nth m n.toNat then .error (12,t.blk,t.place) else .ok (m.set n.toNat true)
theorem Dd{f:an}{t:Th}{m:MW}{l:BL}(h:sS m l)(hp:0<=f.params)(hn : ∀n∈t.mks,mI f n=false):Alike sS (t.mks.foldlM (pM t.blk t.place) m) (upE (pB t) t.mks.length l):=by
 have e:upE (pB t) t.mks.length l=t.mks.foldlM (mq t) l:=oz (f:=mq t);rw[e];refine qm (λn hnm m l h=>?_) h;have hb:=hn n hnm;simp only[mI,MX,decide_eq_false_iff_not]at hb;have hs:=h.2 n Yb Yb;unfold pM mq;rw[hs];cases hc:nth l n.toNat with
 | true=>exact rfl
 | false=>
  refine⟨by simpa using h.1,λk h0 h1=>?_⟩;rw[bQ (by rw[h.1];omega)];simp only[putM];by_cases hk:k=n
  ·subst hk;simp
  rw[if_neg hk,if_neg Yb];exact h.2 k h0 h1
theorem wM{f:an}{t:Th}{m:MW}{l:BL}(h:sS m l)(hp:0<=f.params):
  Alike sS (allS f.params t.mks t.blk t.place m) (if t.mks.any (mI f) then .error (11,t.blk,t.place) else upE (pB t) t.mks.length l):=by
 unfold allS;have e:(t.mks.all λn=>cM n f.params 8191)=!t.mks.any (mI f):=by rw[<-Cd];congr 1;funext n;exact DB
 rw[e];cases hb:t.mks.any (mI f)with
 | true=>exact rfl
 | false=>refine Dd h hp λn hn=>?_;rw[NM];intro e2;rw[NM]at hb;exact hb (OA.2 ⟨n,hn,e2⟩)
theorem HA{x:InsD}:(cM x.op 1 18&&cM x.args.length (gB x.op).1 (gB x.op).2)=!sN x:=by
 rw[LV];simp only[sN,cM,gB,xO,Ly,Ns,MX,decide_eq_true_eq,decide_eq_false_iff_not,Bool.not_eq_false'];by_cases h1:x.op=1
 ·simp[h1]
 by_cases h2:x.op=15
 ·simp[h2];omega
 by_cases h3:x.op=17
 ·simp[h3]
 simp only[h1,h2,h3,if_false,decide_eq_true_eq];omega
theorem Gf{f:an}:cM n 1 ((f.blocks.length:Int)-1)=!vQ f n:=by rw[LV];simp[cM,vQ];omega
theorem Dt{t:dD}:oh t=tw t:=by
 unfold oh tw gx;by_cases h1:t.kind=1
 ·rw[LV];simp[putM,h1,cM];omega
 by_cases h2:t.kind=2
 ·rw[LV];simp[putM,h2,cM];omega
 by_cases h3:t.kind=3
 ·rw[LV];simp[putM,h3,cM];omega
 by_cases h4:t.kind=4
 ·rw[LV];simp[putM,h4,cM]
 by_cases h5:t.kind=5
 ·rw[LV];simp[putM,h5,cM]
 simp[putM,h1,h2,h3,h4,h5]
theorem te{f:an}{t:Th}{x:Except Tr BL}(h:mG f t=false):nw f t x=x:=by
 unfold nw;cases x with
 | error e=>rfl
 | ok m=>simp only[h,O9];rfl
theorem Dh{f:an}{t:Th}(ht:t∈aJ f)(hp:0<=f.params){m:MW}{l:BL}(h:sS m l):Alike sS (kP f m t) (iV f t l):=by
 obtain⟨b,hb,ht⟩:=jk.1 ht;rcases kF.1 ht with⟨i,hi,rfl⟩ | ⟨i,hi,rfl⟩ | rfl
 ·have e1:qH f (phiT f b i)=false:=by simp[qH,phiT];omega
  have e2:mG f (phiT f b i)=false:=by show decide (-1-(i:Int)=((nth f.blocks b).ins.length:Int))=false;rw[decide_eq_false_iff_not];omega
  rw[rD,iV,e1,e2,te e2];exact wM (t:=phiT f b i) h hp
 ·have e1:qH f (insT f b i)=true:=by simp[qH,insT,iH];omega
  have e2:mG f (insT f b i)=false:=by show decide ((i:Int)=((nth f.blocks b).ins.length:Int))=false;rw[decide_eq_false_iff_not];omega
  have e3:yZ f (insT f b i)=nth (nth f.blocks b).ins i:=by simp[yZ,iH,insT]
  rw[sr hi,iV,e1,e2,te e2,e3,insS,HA];cases hb:sN (nth (nth f.blocks b).ins i)with
  | true=>exact rfl
  | false=>exact wM (t:=insT f b i) h hp
 have e1:qH f (endT f b)=false:=by simp[qH,endT,iH]
 have e2:mG f (endT f b)=true:=by simp[mG,endT,iH]
 have e3:iH f (endT f b)=nth f.blocks b:=by simp[iH,endT]
 rw[rV,iV,e1,e2,e3,endS,Dt];cases hb:tw (nth f.blocks b).term with
 | false=>exact rfl
 | true=>
  have e4:((nth f.blocks b).term.to.all λt=>cM t 1 ((f.blocks.length:Int)-1))=!(nth f.blocks b).term.to.any (vQ f):=by rw[<-Cd];congr 1;funext n;exact Gf
  rw[e4];show Alike sS _ (nw f (endT f b) (.ok l));unfold nw;rw[e2,e3];cases (nth f.blocks b).term.to.any (vQ f)with
  | true=>exact rfl
  | false=>exact h
theorem Bb{f:an}(hp:0<=f.params):Alike sS (ma f (λ_=>none)) (kf f):=by rw[uN,pL];refine qm (λt ht m l h=>Dh ht hp h) ⟨MD ..,λn h0 h1=>?_⟩;rw[aC (by rw[MD];omega),O3];rfl
def A8 (t:Th):Option (Int × Int):=if t.blk<0 then none else some (t.blk,t.place)
structure Site (m:MW) (s:List Th):Prop where
 len:s.length=8192
 inn : ∀n:Int,0<=n->n<8192->m n=A8 (nth s n.toNat)
 out : ∀n:Int,¬(0<=n/\n<8192)->m n=none
theorem Aj {t:Th} (hb:0<=t.blk) : ∀{l:List Int} {m:MW} {s:List Th},Site m s->(∀n∈l,0<=n/\n<8192)->Site (l.foldl (λm n=>putM m n (t.blk,t.place)) m) (l.foldl (gh t) s)
 | [],m,s,h,_=>h
 | n::l,m,s,h,hl=>by
  rw[LW,LW];have hn:=hl n LA;refine Aj hb ⟨ny.trans h.len,λk h0 h1=>?_,λk hk=>?_⟩ λk hk=>hl k (LB _ hk)
  ·unfold gh putM;rw[if_pos hn,bQ (by rw[h.len];omega)];by_cases e:k=n
   ·subst e;rw[if_pos rfl,if_pos rfl];unfold A8;rw[if_neg Yb]
   rw[if_neg e,if_neg Yb];exact h.inn k h0 h1
  unfold putM;rw[if_neg (by rintro rfl;exact hk hn)];exact h.out k hk
theorem zt {b p:Int} : ∀{l:List Int} {m m':MW},l.foldlM (pM b p) m = .ok m'->m'=l.foldl (λm n=>putM m n (b,p)) m
 | [],m,m',h=>by cases h;rfl
 | n::l,m,m',h=>by
  rw[MY]at h;cases e:pM b p m n with
  | error t=>rw[e]at h;cases h
  | ok m1=>
   rw[e]at h;unfold pM at e;split at e
   ·cases e
   cases e;exact zt (l:=l) (m:=putM m n (b,p)) h
theorem zV{ps b p:Int}{l:List Int}{m m':MW}(h:allS ps l b p m = .ok m'):m'=l.foldl (λm n=>putM m n (b,p)) m/\∀n∈l,ps<=n/\n<=8191:=by
 unfold allS at h;split at h
 ·rename_i ha;refine⟨zt h,λn hn=>?_⟩;have:=L6.1 ha n hn;simpa[cM]using this
 cases h
theorem FB{f:an}{t:Th}(ht:t∈aJ f){m m':MW}(h:kP f m t = .ok m'):(m'=t.mks.foldl (λm n=>putM m n (t.blk,t.place)) m/\∀n∈t.mks,f.params<=n/\n<=8191)/\0<=t.blk:=by
 obtain⟨b,hb,ht⟩:=jk.1 ht;rcases kF.1 ht with⟨i,hi,rfl⟩ | ⟨i,hi,rfl⟩ | rfl
 ·rw[rD]at h;exact⟨zV h,by show 0<=(b:Int);omega⟩
 ·rw[sr hi]at h;unfold insS at h;split at h
  ·exact⟨zV h,by show 0<=(b:Int);omega⟩
  cases h
 rw[rV]at h;unfold endS at h;split at h
 ·split at h
  ·cases h;exact⟨⟨rfl,λn hn=>by cases hn⟩,by show 0<=(b:Int);omega⟩
  cases h
 cases h
theorem wF {f:an} (hp:0<=f.params) : ∀{l:List Th},(∀t∈l,t∈aJ f)->∀{m m':MW} {s:List Th},Site m s->l.foldlM (kP f) m = .ok m'->Site m' (l.foldl qq s)
 | [],_,m,m',s,h,e=>by cases e;exact h
 | t::l,hl,m,m',s,h,e=>by
  rw[MY]at e;cases e1:kP f m t with
  | error x=>rw[e1]at e;cases e
  | ok m1=>rw[e1]at e;obtain⟨⟨q1,q2⟩,q3⟩:=FB (hl t LA) e1;rw[LW];refine wF hp (λt ht=>hl t (LB _ ht)) (m:=m1) ?_ e;rw[q1];exact Aj q3 h λn hn=>by have:=q2 n hn;omega
theorem DR{f:an}(hp:0<=f.params){m:MW}(h:ma f (λ_=>none) = .ok m):Site m (iZ f):=by rw[uN]at h;refine wF hp (λt ht=>ht) ⟨MD ..,λn h0 h1=>?_,λn _=>rfl⟩ h;rw[aC (by rw[MD];omega),O3];rfl
theorem uM{f:an}{m:MW}{made:List Th}{away:List BL}{idom:List Int}{v blk place at_ told:Int}(hp:f.params<=8192)(hs:Site m made)(hd : ∀a:Int,0<=a->a<f.blocks.length->eV idom a blk=!nth (nth away a.toNat) blk.toNat)(hm : ∀i,i<8192->(nth made i).blk<f.blocks.length):useS f.params m idom v blk place at_ told=if(!iM f made away v blk at_) then .error (13,told,place) else .ok ():=by
 unfold useS;by_cases c1:0<=v/\v<f.params
 ·have e:iM f made away v blk at_=true:=by unfold iM;rw[if_pos c1]
  rw[if_pos c1,e];rfl
 rw[if_neg c1];by_cases c2:v<0\/8191<v
 ·have e:iM f made away v blk at_=false:=by unfold iM;rw[if_neg c1,if_pos (.inl c2)]
  rw[hs.out v Yb,e];rfl
 have e:iM f made away v blk at_=if(nth made v.toNat).blk<0 then false else if(nth made v.toNat).blk=blk then decide ((nth made v.toNat).place<0)||decide ((nth made v.toNat).place<at_) else !nth (nth away (nth made v.toNat).blk.toNat) blk.toNat:=by
  unfold iM;rw[if_neg c1];by_cases c3:(nth made v.toNat).blk<0
  ·rw[if_pos (.inr c3),if_pos c3]
  rw[if_neg (by rintro(q | q)<;>contradiction),if_neg c3]
 rw[hs.inn v Yb Yb,e];have hmb:=hm v.toNat Yb;generalize nth made v.toNat=t at hmb;unfold A8;by_cases c3:t.blk<0
 ·rw[if_pos c3,if_pos c3];rfl
 rw[if_neg c3,if_neg c3];have e2:lh (t.blk,t.place) idom blk at_=if t.blk=blk then decide (t.place<0)||decide (t.place<at_) else !nth (nth away t.blk.toNat) blk.toNat:=by
  unfold lh;by_cases c4:t.blk=blk
  ·simp only[c4,decide_true,Nv,Bool.not_true,O9,Bool.or_false,if_true];rw[Bool.or_comm]
  simp only[c4,decide_false,O9,Bool.not_false,Nv,Pj,if_false];exact hd t.blk Yb hmb
 simp only[e2];generalize (if t.blk=blk then decide (t.place<0)||decide (t.place<at_) else !nth (nth away t.blk.toNat) blk.toNat)=B;cases B<;>rfl
theorem vX[Inhabited α]{l:List α}{p:α->Bool}{e:Tr}{g:Nat->Except Tr Unit}(h : ∀j,j<l.length->g j=if p (nth l j) then .error e else .ok ()):uAll g l.length=if l.any p then .error e else .ok ():=by
 have h1:uAll g l.length=l.foldlM (fun(_:Unit) x=>if p x then Except.error e else .ok ()) ():=by
  unfold uAll;rw[<-oz (f:=fun(_:Unit) x=>if p x then Except.error e else .ok ())];have key : ∀n,n<=l.length->upE (λi (_:Unit)=>g i) n ()=upE (λi (_:Unit)=>if p (nth l i) then Except.error e else .ok ()) n ():=by
   intro n;induction n with
   | zero=>exact λ_=>rfl
   | succ n ih=>intro hn;simp only[upE];rw[ih Yb,h n Yb]
  exact key _ (Lp _)
 rw[h1];clear h1 h;induction l with
 | nil=>rfl
 | cons a l ih=>
  rw[MY,List.any_cons];cases hp:p a with
  | true=>rfl
  | false=>rw[Pj];exact ih
theorem AT{β:Type}{p q:Nat->Bool}{x:Nat->β}{n:Nat}(h : ∀a,a<n->p a=q a):sift p x n=sift q x n:=by rw[oU,oU];congr 1;exact OZ λa ha=>h a (M8.1 ha)
theorem AD{f:an}(hb:b<f.blocks.length):nth (dU (ofG f.blocks)) b=dp f b:=by rw[Am,rX,nG,gG hb,dp];refine AT λa ha=>?_;rw[LV,qI,decide_eq_true_eq,LN];exact⟨λh=>h.2,λh=>⟨by omega,h⟩⟩
theorem DU{f:an}{i:Nat}(hb:b<f.blocks.length):yW (nth (nth f.blocks b).phis i) (nth (dU (ofG f.blocks)) b) b=qN f (phiT f b i):=by
 have e1:pK f (phiT f b i)=nth (nth f.blocks b).phis i:=by unfold pK iH phiT;simp only[LN];rw[show(-1-(-1-(i:Int))).toNat=i by omega]
 have e2:(phiT f b i).blk=(b:Int):=rfl;unfold yW kL qN;rw[e1,e2,AD hb];generalize nth (nth f.blocks b).phis i=x;generalize dp f b=row;rw[LV];simp only[Ly,decide_eq_true_eq,BU,wS];constructor
 ·rintro⟨⟨h1,h2⟩,h3⟩;refine⟨by omega,Ng (by simp;omega) λj hj hj2=>?_⟩;have:=h3 j (by simpa using hj);rw[aC hj2,aC (by simpa using hj)]at this;simpa using this
 rintro⟨h1,h2⟩;have hl:x.ins.length=row.length:=by rw[<-h2,M9]
 refine⟨⟨by omega,by omega⟩,λj hj=>?_⟩;rw[<-h2,aC (l:=List.map InD.frm x.ins) (by rw[M9];exact hj),aC hj];simp
theorem uC{f:an}: ∀i,i<8192->(nth (iZ f) i).blk<f.blocks.length:=λi hi=>C0 Yb (λt ht=>by
 obtain⟨b,hb,ht⟩:=jk.1 ht;rcases kF.1 ht with⟨i,hi,rfl⟩ | ⟨i,hi,rfl⟩ | rfl
 ·show(b:Int)<_;omega
 ·show(b:Int)<_;omega
 show(b:Int)<_;omega) hi
section
variable {f:an} {m:MW} {idom:List Int} (hp0:f.params<=8192) (hs:Site m (iZ f)) (hd : ∀a b:Int,0<=a->a<f.blocks.length->0<=b->b<f.blocks.length->eV idom a b=!nth (nth (iu f) a.toNat) b.toNat)
include hp0 hs hd
theorem Gx{i:Nat}(hb:b<f.blocks.length)(hi:i<(nth f.blocks b).phis.length):phiU f m idom (dU (ofG f.blocks)) b i=gK f (iZ f) (iu f) (phiT f b i):=by
 have hf:=DU (f:=f) (i:=i) hb;have e1:pK f (phiT f b i)=nth (nth f.blocks b).phis i:=by unfold pK iH phiT;simp only[LN];rw[show(-1-(-1-(i:Int))).toNat=i by omega]
 have e3:gK f (iZ f) (iu f) (phiT f b i)=if !qN f (phiT f b i) then .error (16,b,-1-i) else if(nth (nth f.blocks b).phis i).ins.any (stP f (iZ f) (iu f)) then .error (13,b,-1-i) else .ok ():=by unfold gK;rw[if_neg (show ¬0<=(phiT f b i).place by show ¬0<=-1-(i:Int);omega),e1];rfl
 rw[e3];unfold phiU;simp only[hf];cases hss:qN f (phiT f b i)with
 | false=>rfl
 | true=>
  rw[if_pos rfl,if_neg Sa];refine vX λj hj=>?_;have hfr:0<=(nth (nth (nth f.blocks b).phis i).ins j).frm/\(nth (nth (nth f.blocks b).phis i).ins j).frm<f.blocks.length:=by unfold qN at hss;rw[e1]at hss;simp only[Ly,decide_eq_true_eq]at hss;have hm:=NU (f:=InD.frm) (cr hj);rw[hss.2]at hm;obtain⟨a,h1,_,h2⟩:=oc.1 hm;omega
  rw[uM hp0 hs (λa h0 h1=>hd a _ h0 h1 hfr.1 hfr.2) uC];rfl
theorem Gu{i:Nat}(hb:b<f.blocks.length)(hi:i<(nth f.blocks b).ins.length):insU f m idom b i=gK f (iZ f) (iu f) (insT f b i):=by
 have e3:gK f (iZ f) (iu f) (insT f b i)=if(nth (nth f.blocks b).ins i).args.any (stT f (iZ f) (iu f) (insT f b i)) then .error (13,b,i) else .ok ():=by unfold gK;rw[if_pos (show 0<=(insT f b i).place by show 0<=(i:Int);omega)];rfl
 rw[e3];unfold insU;refine vX λj hj=>?_;rw[uM hp0 hs (λa h0 h1=>hd a _ h0 h1 Yb Yb) uC];rfl
theorem G6(hb:b<f.blocks.length):endU f m idom b=gK f (iZ f) (iu f) (endT f b):=by
 have e3:gK f (iZ f) (iu f) (endT f b)=if(nth f.blocks b).term.args.any (stT f (iZ f) (iu f) (endT f b)) then .error (13,b,(nth f.blocks b).ins.length) else .ok ():=by unfold gK;rw[if_pos (show 0<=(endT f b).place by show 0<=((nth f.blocks b).ins.length:Int);omega)];rfl
 rw[e3];unfold endU;refine vX λj hj=>?_;rw[uM hp0 hs (λa h0 h1=>hd a _ h0 h1 Yb Yb) uC];rfl
def stF (f:an) (_:Unit) (t:Th):Except Tr Unit:=gK f (iZ f) (iu f) t
theorem Hd(hb:b<f.blocks.length):blkU f m idom (dU (ofG f.blocks)) b=(thB f b).foldlM (stF f) ():=by
 unfold blkU thB uAll;rw[mO (f:=stF f) (x:=phiT f b) (n:=(nth f.blocks b).phis.length) λi s hi=>Gx hp0 hs hd hb hi];rw[mO (f:=stF f) (x:=insT f b) (n:=(nth f.blocks b).ins.length) λi s hi=>Gu hp0 hs hd hb hi];rw[ju,ju,G6 hp0 hs hd hb];cases (rows (phiT f b) (nth f.blocks b).phis.length).foldlM (stF f) ()with
 | error e=>rfl
 | ok m1=>
  obtain⟨⟩:=m1;cases hI:(rows (insT f b) (nth f.blocks b).ins.length).foldlM (stF f) ()with
  | error e=>simp only[andE,hI]
  | ok m2=>simp only[andE,hI];rw[qt];rfl
theorem CZ:uAll (blkU f m idom (dU (ofG f.blocks))) f.blocks.length=y8 f:=by
 have key : ∀n,n<=f.blocks.length->uAll (blkU f m idom (dU (ofG f.blocks))) n=(thTo f n).foldlM (stF f) ():=by
  intro n;induction n with
  | zero=>exact λ_=>rfl
  | succ n ih=>
   intro hn;rw[gZ,ju,<-ih Yb];have e:uAll (blkU f m idom (dU (ofG f.blocks))) (n+1)=match uAll (blkU f m idom (dU (ofG f.blocks))) n with | .ok _=>blkU f m idom (dU (ofG f.blocks)) n | .error e=>.error e:=by show upE _ (n+1) ()=_;simp only[upE];unfold uAll;cases upE (λi (_:Unit)=>blkU f m idom (dU (ofG f.blocks)) i) n ()<;>rfl
   rw[e];cases uAll (blkU f m idom (dU (ofG f.blocks))) n with
   | error e=>rfl
   | ok s=>exact Hd hp0 hs hd Yb
 rw[key _ (Lp _)];exact(oz (f:=stF f)).symm
end
theorem xq {f:an} : ∀k,manyN f k=(uO f k:Int)
 | 0=>rfl
 | k+1=>by have ih:=xq (f:=f) k;unfold manyN at ih ⊢;rw[up,ih,uO];omega
theorem xc {σ ε:Type} {f g:Nat->σ->Except ε σ} {s:σ} : ∀{n:Nat},(∀i s,i<n->f i s=g i s)->upE f n s=upE g n s
 | 0,_=>rfl
 | n+1,h=>by
  simp only[upE];rw[xc (n:=n) λi s hi=>h i s Yb];cases upE g n s with
  | ok s'=>exact h n s' Yb
  | error e=>rfl
theorem tR {f:Nat->Unit->Except Tr Unit} : ∀{n:Nat},upE f n () = .ok ()->∀i,i<n->f i () = .ok ()
 | n+1,h,i,hi=>by
  simp only[upE]at h;cases e:upE f n ()with
  | error t=>rw[e]at h;cases h
  | ok s=>
   rw[e]at h;rcases Lr i n with hlt | hge
   ·exact tR e i hlt
   have:i=n:=by omega
   subst this;exact h
theorem Ek{f:an}(hn:0<f.blocks.length):uAll (sB f) f.blocks.length=wayE f:=by
 unfold uAll wayE;refine xc λb s hb=>?_;unfold sB;have e:decide ((b:Int)∈bL (ofG f.blocks))=nth (fh f (-1)) b:=by rw[LV,decide_eq_true_eq,(jS (by rw[nG];exact hn)).mem,jH hb]
 rw[e]
theorem FG{f:an}(hn:0<f.blocks.length)(hw:wayE f = .ok ())(a b:Int)(h0:0<=a)(h1:a<f.blocks.length)(h2:0<=b)(h3:b<f.blocks.length):
  eV (pQ (ofG f.blocks)) a b=!nth (nth (iu f) a.toNat) b.toNat:=by
 have hR : ∀x:Nat,x<f.blocks.length->Re (ofG f.blocks) (-1) x:=λx hx=>by
  have:=tR hw x hx;rw[<-jH hx];split at this
  ·assumption
  cases this
 have hg:0<(ofG f.blocks).length:=by rw[nG];exact hn
 obtain⟨fp,C,l,hl,I⟩:=xB hg;have hi:pQ (ofG f.blocks)=l:=by unfold pQ;rw[hl];rfl
 rw[hi];have e:=qP I C (a:=a.toNat) (b:=b.toNat) (by rw[nG];omega) (hR _ Yb);rw[LQ h0,LQ h2]at e;rw[e,LV,oH];have ha:nth (iu f) a.toNat=fh f a:=by unfold iu;rw[gG Yb,LQ h0]
 rw[ha];have hr:=jH (f:=f) (wo:=a) (b:=b.toNat) Yb;have haa:((a.toNat:Nat):Int)=a:=LQ h0;rw[haa];cases hc:nth (fh f a) b.toNat with
 | true=>rw[hc]at hr;simp[hr.1 rfl]
 | false=>
  rw[hc]at hr;have hnr:¬Re (ofG f.blocks) a b.toNat:=λh=>by have:=hr.2 h;cases this
  simp[hnr,hR _ (show a.toNat<f.blocks.length by omega),hR _ (show b.toNat<f.blocks.length by omega)]
theorem Dy(f:an):jO f=wv f:=by
 unfold jO lV wv;by_cases c1:f.params<0\/4<f.params
 ·have:cM f.params 0 4=false:=by rw[NM];simp[cM];omega
  rw[if_pos this,if_pos c1]
 have hw4:¬cM f.params 0 4=false:=by simp[cM];omega
 rw[if_neg hw4,if_neg c1];by_cases c2:f.blocks.length=0
 ·rw[if_pos c2,if_pos c2]
 rw[if_neg c2,if_neg c2];have hm:BX f=(uO f f.blocks.length:Int):=xq _;by_cases c3:512<f.blocks.length\/4096<uO f f.blocks.length
 ·rw[if_pos (by rw[hm];omega),if_pos c3]
 rw[if_neg (by rw[hm];omega),if_neg c3];have hp:0<=f.params:=by omega
 have hsh:=Bb hp;cases hS:ma f (λ_=>none)with
 | error e=>
  cases hR:kf f with
  | ok l=>rw[hS,hR]at hsh;exact hsh.elim
  | error e'=>rw[hS,hR]at hsh;have hee:e=e':=hsh;subst hee;obtain⟨k,s',h1,_,h3⟩:=pq hR;have:=(sO h3).1;rw[if_pos (by show e.1≠0;omega)];rfl
 | ok m=>
  cases hR:kf f with
  | error e'=>rw[hS,hR]at hsh;exact hsh.elim
  | ok l=>
   rw[if_neg (by simp[xh])];have hs:=DR hp hS;show(match ry f m (pQ (ofG f.blocks))with | .ok _=>((0,0,0):Tr) | .error t=>t)=_;unfold ry;rw[Ek Yb];cases hW:wayE f with
   | error e=>rfl
   | ok s=>obtain⟨⟩:=s;have:=CZ (f:=f) (m:=m) (idom:=pQ (ofG f.blocks)) Yb hs λa b h0 h1 h2 h3=>FG Yb hW a b h0 h1 h2 h3;show(match uAll (blkU f m (pQ (ofG f.blocks)) (dU (ofG f.blocks))) f.blocks.length with | .ok _=>((0,0,0):Tr) | .error t=>t)=xh (y8 f);rw[this];cases y8 f<;>rfl
def Marks (m:BL) (S:Int->Prop):Prop:=m.length=8192/\∀n:Int,0<=n->n<8192->(nth m n.toNat=true↔S n)
theorem BB:Marks (List.replicate 8192 false) (λ_=>False):=⟨MD,λn h0 h1=>by rw[aF Yb];simp⟩
theorem DN{m:BL}{S:Int->Prop}(h:Marks m S)(h0:0<=n)(h1:n<8192):Marks (m.set n.toNat true) (λk=>S k\/k=n):=by
 refine⟨by simpa using h.1,λk k0 k1=>?_⟩;rw[bQ (by rw[h.1];omega)];split
 ·rename_i e;exact⟨λ_=>.inr Yb,λ_=>rfl⟩
 rename_i e;rw[h.2 k k0 k1];exact⟨.inl,λo=>o.resolve_right (by rintro rfl;exact e rfl)⟩
theorem Marks.congr{m:BL}{S T:Int->Prop}(h:Marks m S)(he : ∀n,S n↔T n):Marks m T:=⟨h.1,λn a b=>(h.2 n a b).trans (he n)⟩
theorem uU {t:Th} : ∀{l:List Int} {m m':BL} {S:Int->Prop},Marks m S->(∀n∈l,0<=n/\n<8192)->l.foldlM (mq t) m = .ok m'->Marks m' (λk=>S k\/k∈l)/\l.Nodup/\∀n∈l,¬S n
 | [],m,m',S,h,_,e=>by cases e;exact⟨h.congr λn=>by simp,O6,λn hn=>by cases hn⟩
 | a::l,m,m',S,h,hl,e=>by
  rw[MY]at e;have ha:=hl a LA;unfold mq at e;by_cases hc:nth m a.toNat=true
  ·rw[if_pos hc]at e;cases e
  rw[if_neg hc]at e;obtain⟨g1,g2,g3⟩:=uU (DN h ha.1 ha.2) (λn hn=>hl n (LB _ hn)) e;refine⟨g1.congr λn=>by rw[LF,or_assoc],OE.2 ⟨λhm=>g3 a hm (.inr rfl),g2⟩,λn hn=>?_⟩;rcases LF.1 hn with rfl | hn
  ·exact λhs=>hc ((h.2 n ha.1 ha.2).2 hs)
  exact λhs=>g3 n hn (.inl hs)
structure yH (f:an) (t:Th):Prop where
 op:qH f t=true->sN (yZ f t)=false
 term:mG f t=true->tw (iH f t).term=true
 mks : ∀n∈t.mks,f.params<=n/\n<=8191
 to:mG f t=true->∀n∈(iH f t).term.to,1<=n/\n<f.blocks.length
theorem FC{t:Th}{m:BL}:upE (pB t) t.mks.length m=t.mks.foldlM (mq t) m:=oz (f:=mq t)
theorem any_false{p:α->Bool}{l:List α}:l.any p=false↔∀n∈l,p n=false:=by rw[List.any_eq_false];exact forall_congr' λn=>forall_congr' λ_=>by simp
theorem Fs{f:an}:mI f n=false↔f.params<=n/\n<=8191:=by simp[mI]
theorem Hz{f:an}:vQ f n=false↔1<=n/\n<f.blocks.length:=by simp[vQ]
theorem BC{f:an}{t:Th}{m m':BL}(h:iV f t m = .ok m'):yH f t/\t.mks.foldlM (mq t) m = .ok m':=by
 unfold iV at h;split at h
 ·cases h
 rename_i c1;split at h
 ·cases h
 rename_i c2;split at h
 ·cases h
 rename_i c3;rw[FC]at h;unfold nw at h;split at h
 ·cases h
 rename_i m1 e;split at h
 ·cases h
 rename_i c4;cases h;refine⟨⟨λg=>?_,λg=>?_,λn hn=>?_,λg n hn=>?_⟩,e⟩
 ·simpa[g]using c1
 ·simpa[g]using c2
 ·exact Fs.1 (any_false.1 (by simpa only[Bool.not_eq_true]using c3) n hn)
 refine Hz.1 (any_false.1 (by simpa only[g,Nv,Bool.not_eq_true]using c4) n hn)
def Ff (l:List Th):List Int:=l.flatMap Th.mks
theorem sV {f:an} (hp:0<=f.params) : ∀{l:List Th} {m m':BL} {S:Int->Prop},Marks m S->l.foldlM (λm t=>iV f t m) m = .ok m'->(∀t∈l,yH f t)/\(Ff l).Nodup/\∀n∈Ff l,¬S n
 | [],m,m',S,h,e=>⟨λt ht=>(by cases ht),O6,λn hn=>(by cases hn)⟩
 | t::l,m,m',S,h,e=>by
  rw[MY]at e;cases e1:iV f t m with
  | error x=>rw[e1]at e;cases e
  | ok m1=>
   rw[e1]at e;obtain⟨g,e2⟩:=BC e1;obtain⟨k1,k2,k3⟩:=uU h (λn hn=>by have:=g.mks n hn;omega) e2;obtain⟨i1,i2,i3⟩:=sV hp k1 e;refine⟨λx hx=>?_,?_,λn hn=>?_⟩
   ·rcases LF.1 hx with rfl | hx
    ·exact g
    exact i1 x hx
   ·refine Nq.2 ⟨k2,i2,λa ha b hb=>?_⟩;rintro rfl;exact i3 a hb (.inr ha)
   rcases Lt.1 hn with hn | hn
   ·exact k3 n hn
   exact λhs=>i3 n hn (.inl hs)
def xV (f:an) (v b p:Int):Prop:=(0<=v/\v<f.params)\/∃t∈aJ f,v∈t.mks/\(t.blk=b/\(t.place<0\/t.place<p)\/t.blk≠b/\¬Re (ofG f.blocks) t.blk b.toNat)
structure F3 (ts:List Th) (s:List Th):Prop where
 len:s.length=8192
 is : ∀n:Int,0<=n->n<8192->(nth s n.toNat=noTh/\∀t∈ts,n∉t.mks)\/(nth s n.toNat∈ts/\n∈(nth s n.toNat).mks)
theorem zr {t:Th} {ts:List Th} : ∀{l:List Int} {s:List Th} {d:List Int},(∀n∈l,n∈t.mks)->(s.length=8192/\∀n:Int,0<=n->n<8192->(nth s n.toNat=noTh/\(∀t∈ts,n∉t.mks)/\n∉d)\/(nth s n.toNat∈ts++[t]/\n∈(nth s n.toNat).mks))->
  ((l.foldl (gh t) s).length=8192/\∀n:Int,0<=n->n<8192->(nth (l.foldl (gh t) s) n.toNat=noTh/\(∀t∈ts,n∉t.mks)/\n∉d++l)\/(nth (l.foldl (gh t) s) n.toNat∈ts++[t]/\n∈(nth (l.foldl (gh t) s) n.toNat).mks))
 | [],s,d,_,h=>by simpa using h
 | a::l,s,d,hl,h=>by
  rw[LW];have:=zr (t:=t) (ts:=ts) (l:=l) (s:=gh t s a) (d:=d++[a]) (λn hn=>hl n (LB _ hn)) ⟨by rw[ny];exact h.1,λn h0 h1=>?_⟩
  ·simpa using this
  unfold gh;split
  ·rw[bQ (by rw[h.1];omega)];split
   ·rename_i hc e;have:n=a:=by omega
    subst this;exact .inr ⟨MO _ (Lx.2 rfl),hl n LA⟩
   rename_i hc e;rcases h.2 n h0 h1 with⟨a1,a2,a3⟩ | a1
   ·refine .inl ⟨a1,a2,?_⟩;rw[Lt,Lx];rintro(q | rfl)
    ·exact a3 q
    exact e rfl
   exact .inr a1
  rename_i hc;rcases h.2 n h0 h1 with⟨a1,a2,a3⟩ | a1
  ·refine .inl ⟨a1,a2,?_⟩;rw[Lt,Lx];rintro(q | rfl)
   ·exact a3 q
   exact hc ⟨h0,h1⟩
  exact .inr a1
theorem zN : ∀{l ts s:List Th},F3 ts s->F3 (ts++l) (l.foldl qq s)
 | [],ts,s,h=>by simpa using h
 | t::l,ts,s,h=>by
  rw[LW];have:=zr (t:=t) (ts:=ts) (l:=t.mks) (s:=s) (d:=[]) (λn hn=>hn) ⟨h.len,λn h0 h1=>(h.is n h0 h1).elim (λa=>.inl ⟨a.1,a.2,MN⟩) λa=>.inr ⟨MQ _ a.1,a.2⟩⟩;have:=zN (l:=l) (ts:=ts++[t]) (s:=qq s t) ⟨this.1,λn h0 h1=>(this.2 n h0 h1).elim (λa=>.inl ⟨a.1,λx hx=>?_⟩) .inr⟩
  ·simpa using this
  rcases Lt.1 hx with hx | hx
  ·exact a.2.1 x hx
  rw[Lx.1 hx];simpa using a.2.2
theorem CN{f:an}:F3 (aJ f) (iZ f):=
 zN (l:=aJ f) (ts:=[]) (s:=List.replicate 8192 noTh) ⟨MD,λn h0 h1=>.inl ⟨aF Yb,λt ht=>by cases ht⟩⟩
theorem za{f:an}{t:Th}(h:t∈aJ f):0<=t.blk/\t.blk<f.blocks.length:=by obtain⟨b,hb,ht⟩:=jk.1 h;rcases kF.1 ht with⟨i,hi,rfl⟩ | ⟨i,hi,rfl⟩ | rfl<;>exact⟨Int.natCast_nonneg _,Int.ofNat_lt.2 hb⟩
theorem Hq{f:an}{a b:Int}(h0:0<=a)(h1:a<f.blocks.length)(h2:0<=b)(h3:b<f.blocks.length):nth (nth (iu f) a.toNat) b.toNat=true↔Re (ofG f.blocks) a b.toNat:=by unfold iu;rw[gG Yb,LQ h0];exact jH Yb
theorem wO{f:an}{v b p:Int}(hb0:0<=b)(hb1:b<f.blocks.length)(h:iM f (iZ f) (iu f) v b p=true):xV f v b p:=by
 unfold iM at h;split at h
 ·rename_i c;exact .inl c
 split at h
 ·cases h
 rename_i c1 c2;rcases CN.is v Yb Yb with⟨e,_⟩ | ⟨hm,hv⟩
 ·exact absurd (.inr (by rw[e];decide)) c2
 have hat:=za hm;refine .inr ⟨_,hm,hv,?_⟩;split at h
 ·rename_i e;exact .inl ⟨e,by simpa using h⟩
 rename_i e;refine .inr ⟨e,λhr=>?_⟩;rw[(Hq hat.1 hat.2 hb0 hb1).2 hr]at h;cases h
structure ld (f:an):Prop where
 params:0<=f.params/\f.params<=4
 blocks:0<f.blocks.length/\f.blocks.length<=512
 cnt:uO f f.blocks.length<=4096
 good : ∀t∈aJ f,yH f t
 nodup:(Ff (aJ f)).Nodup
 way : ∀b:Nat,b<f.blocks.length->Re (ofG f.blocks) (-1) b
 takes : ∀t∈aJ f,0<=t.place->∀v∈t.tks,xV f v t.blk t.place
 phi : ∀b i:Nat,b<f.blocks.length->i<(nth f.blocks b).phis.length->0<b/\(nth (nth f.blocks b).phis i).ins.map InD.frm=dp f b/\∀p∈(nth (nth f.blocks b).phis i).ins,xV f p.val p.frm (A4 f p.frm)
theorem EN{f:an}{b x:Int}:x∈dp f b↔(0<=x/\x<f.blocks.length)/\b∈(nth f.blocks x.toNat).term.to:=by
 unfold dp;rw[oc];constructor
 ·rintro⟨a,ha,hb,rfl⟩;exact⟨⟨by omega,by omega⟩,by simpa using hb⟩
 rintro⟨⟨h0,h1⟩,h⟩;exact⟨x.toNat,by omega,by simpa using h,by omega⟩
theorem zk{f:an}{t:Th}:gK f (iZ f) (iu f) t = .ok ()↔
  (0<=t.place/\∀v∈t.tks,iM f (iZ f) (iu f) v t.blk t.place=true)\/(t.place<0/\qN f t=true/\∀p∈(pK f t).ins,iM f (iZ f) (iu f) p.val p.frm (A4 f p.frm)=true):=by
 unfold gK;by_cases h0:0<=t.place
 ·rw[if_pos h0];have hn:¬t.place<0:=by omega
  simp only[h0,hn,true_and,false_and,or_false];cases e:t.tks.any (stT f (iZ f) (iu f) t)with
  | true=>
   obtain⟨v,hv,hs⟩:=OA.1 e;constructor
   ·intro h;cases h
   intro h;unfold stT at hs;rw[h v hv]at hs;cases hs
  | false=>
   constructor
   ·intro _ v hv;have:=any_false.1 e v hv;simpa[stT]using this
   intro _;rfl
 rw[if_neg h0];have hn:t.place<0:=by omega
 simp only[h0,hn,true_and,false_and,false_or];cases e1:qN f t with
 | false=>simp
 | true=>
  rw[if_neg Sa];cases e:(pK f t).ins.any (stP f (iZ f) (iu f))with
  | true=>
   obtain⟨v,hv,hs⟩:=OA.1 e;constructor
   ·intro h;cases h
   rintro⟨_,h⟩;unfold stP at hs;rw[h v hv]at hs;cases hs
  | false=>
   constructor
   ·intro _;refine⟨rfl,λv hv=>?_⟩;have:=any_false.1 e v hv;simpa[stP]using this
   intro _;rfl
theorem E4{f:an}{i:Nat}:pK f (phiT f b i)=nth (nth f.blocks b).phis i:=by unfold pK iH phiT;dsimp only;rw[LN];congr 1;omega
theorem I5{f:an}(h:(jO f).1=0):ld f:=by
 rw[Dy]at h;unfold wv at h;split at h
 ·cases h
 rename_i c1;split at h
 ·cases h
 rename_i c2;split at h
 ·cases h
 rename_i c3;cases hs:kf f with
 | error e=>obtain⟨k,s',_,_,h3⟩:=pq (show upE _ _ _=_ from hs);have:=(sO h3).1;rw[hs]at h;rw[if_pos (by show e.1≠0;omega)]at h;have h:e.1=0:=h;omega
 | ok m=>
  rw[hs,if_neg (by simp[xh])]at h;obtain⟨g1,g2,_⟩:=sV (f:=f) Yb BB (by rw[<-pL];exact hs);cases hw:wayE f with
  | error e=>
   rw[hw]at h;obtain⟨k,s',_,_,h3⟩:=pq (show upE _ _ _=_ from hw);split at h3
   ·cases h3
   cases h3;exact absurd (show(15:Int)=0 from h) Yc
  | ok u=>
   obtain⟨⟩:=u;rw[hw]at h;cases hu:y8 f with
   | error e=>
    rw[hu]at h;obtain⟨k,s',_,_,h3⟩:=pq (show upE _ _ _=_ from hu);have h:e.1=0:=h;unfold gK at h3;repeat' split at h3
    all_goals first | (cases h3;done) | (cases h3;first | exact absurd (show(13:Int)=0 from h) Yc | exact absurd (show(16:Int)=0 from h) Yc)
   | ok u=>
    obtain⟨⟩:=u;have hst : ∀t∈aJ f,gK f (iZ f) (iu f) t = .ok ():=λt ht=>by obtain⟨i,hi,e⟩:=LS ht;have:=tR hu i hi;rw[aC hi,e]at this;exact this
    refine⟨by omega,by omega,by omega,g1,g2,λb hb=>?_,λt ht h0 v hv=>?_,λb i hb hi=>?_⟩
    ·have:=tR hw b hb;rw[<-jH hb];split at this
     ·assumption
     cases this
    ·have hat:=za ht;rcases zk.1 (hst t ht)with⟨_,k⟩ | ⟨k,_⟩
     ·exact wO hat.1 hat.2 (k v hv)
     omega
    have ht:phiT f b i∈aJ f:=jk.2 ⟨b,hb,kF.2 (.inl ⟨i,hi,rfl⟩)⟩;rcases zk.1 (hst _ ht)with⟨k,_⟩ | ⟨_,k1,k2⟩
    ·exact absurd k (by show ¬(0:Int)<=-1-(i:Int);omega)
    unfold qN at k1;rw[E4]at k1 k2;obtain⟨k3,k4⟩:=(Ly _ _).mp k1;have k4:(nth (nth f.blocks b).phis i).ins.map InD.frm=dp f b:=of_decide_eq_true k4;have k3:(0:Int)<b:=of_decide_eq_true k3;refine⟨by omega,k4,λp hp=>?_⟩;have hm:p.frm∈dp f b:=by rw[<-k4];exact NU hp
    have:=(EN.1 hm).1;exact wO this.1 this.2 (k2 p hp)
def mkL (vs:Value) (at_:Nat) (ps:Int) (vb:Value) (nx:Int) (vl:Value):List Value:=[vs,.int .i64 at_,.int .i64 ps,vb,.int .i64 nx,vl]
def rawV (s:List Int) (at_:Nat):Int:=if at_<s.length then nth s at_ else 0
def aI (s:List Int) (at_:Nat) (n:Int):Int:=((rawV s at_).tmod n+n).tmod n
theorem cS{s:List Int}{at_:Nat}(hn:0<n):0<=aI s at_ n/\aI s at_ n<n:=by have b1:=Int.lt_tmod_of_pos (rawV s at_) hn;exact⟨MT _ Yb,MK _ hn⟩
theorem Hh{W:View}{h:Heap}{o:Own}{M at_:Nat}{vs vb vl:Value}{ps nx:Int}{s:List Int}(w:Owns W h o)(hk:o (0,0)=bx T.aR M (RawN.mk (n:=5) (mkL vs at_ ps vb nx vl)))(hs:SlRd W vs s)(h1:at_<=1000000000)(hn:0<n)(hn2:n<=1000000000):
  az Tryz.prog N.cR #[.pointer (some ⟨M,0,none⟩),.int .i64 n] h (λu h'=>u = .int .i64 (aI s at_ n)/\Owns W h' (o.upd (0,0) (bx T.aR M (RawN.mk (n:=5) (mkL vs (at_+1) ps vb nx vl))))):=by
 refine aw (args:=[.pointer (some ⟨M,0,none⟩),.int .i64 n]) follows F.cR E.cR (Lm Ya) λK hK=>?_;have c0:ao (vw h) ⟨M,0,none⟩=some vs:=w.raw hk (i:=0) Yc;have c1:ao (vw h) ⟨M,1,none⟩=some (.int .i64 at_):=w.raw hk (i:=1) Yc;dsimp only[L.cR,lkF,lkG];refine ab λz hz=>?_;simp;subst hz;refine ab λz hz=>?_;simp;subst hz;refine ab λz hz=>?_;have hsl : ∀{Q:View},Un.ev Q .len vs=some (.int .i64 s.length):=fun{Q}=>hs.len;refine iW (λρ h2=>h2=h/\I64 (rawV s at_)/\ρ=[(0,.pointer (some ⟨M,0,none⟩)),(1,.int .i64 n),(4,.int .i64 0),(5,.int .i64 (rawV s at_))]) ?_ ?_
 ·intro K2 hK2;by_cases c:at_<s.length
  ·have hs2:=hs.mono w.wle;have hr:=hs.range (i:=at_) c;have e:rawV s at_=nth s at_:=if_pos c;rw[e]at hK2;simp(disch:=omega)[c0,c1,hsl,c,hs2.idx1 rfl,hs2.int (View.le_refl _)];exact hK2 _ _ ⟨rfl,hr,rfl⟩
  have e:rawV s at_=0:=if_neg c;rw[e]at hK2;simp[c0,c1,hsl,c];exact hK2 _ _ ⟨rfl,⟨by decide,by decide⟩,rfl⟩
 rintro _ h2 ⟨rfl,hx,rfl⟩;subst hz;refine ab λz hz=>?_;simp(disch:=omega)[c1];refine w.dg (k:=(0,0)) (n:=5) (i:=1) (e:=T.aR) (B:=M) (l:=mkL vs at_ ps vb nx vl) hk Yc Ya rfl rfl rfl λh3 w3 _=>?_;subst hz;have b1:=Int.lt_tmod_of_pos (rawV s at_) hn;have b2:=MK (rawV s at_) hn;have hw:IntKind.i64.wrap ((rawV s at_).tmod n+n)=(rawV s at_).tmod n+n:=bZ Yb Yb;have hne:¬n=0:=by omega
 simp[hw,hne];refine hK _ _ ⟨rfl,w3.congr λq=>?_⟩;rfl
theorem y6{W:View}{h:Heap}{o:Own}{M at_:Nat}{vs vb vl:Value}{ps nx:Int}(w:Owns W h o)(hk:o (0,0)=bx T.aR M (RawN.mk (n:=5) (mkL vs at_ ps vb nx vl)))(h0:0<=nx)(h1:nx<=1000000000):
  az Tryz.prog N.cD #[.pointer (some ⟨M,0,none⟩)] h (λu h'=>u = .int .i64 nx/\Owns W h' (o.upd (0,0) (bx T.aR M (RawN.mk (n:=5) (mkL vs at_ ps vb (nx+1) vl))))/\∀X:View,X.le (vw h)->X M=none->X.le (vw h')):=by refine aw (args:=[.pointer (some ⟨M,0,none⟩)]) follows F.cD E.cD (Lm Ya) λK hK=>?_;have c4:ao (vw h) ⟨M,4,none⟩=some (.int .i64 nx):=w.raw hk (i:=4) Yc;dsimp only[L.cD,lkF,lkG];refine ab λz hz=>?_;simp;subst hz;refine ab λz hz=>?_;simp(disch:=omega)[c4];refine w.dg (k:=(0,0)) (n:=5) (i:=4) (e:=T.aR) (B:=M) (l:=mkL vs at_ ps vb nx vl) hk Yc Ya rfl rfl rfl λh3 w3 hx3=>?_;have w3:Owns W h3 (o.upd (0,0) (bx T.aR M (RawN.mk (n:=5) (mkL vs at_ ps vb (nx+1) vl)))):=w3;have c5:ao (vw h3) ⟨M,4,none⟩=some (.int .i64 (nx+1)):=w3.raw Own.aj (i:=4) Yc;subst hz;simp(disch:=omega)[c5];exact hK _ _ ⟨by congr 1,w3,hx3⟩
end Go.Proofs.YtnfiilgdjpdlkaaGreatDoor
namespace Go.Lft
open Go
variable {po:OP}
theorem IW {P:Program} {t ty:TypeId} {us:List (Nat × Value)} {h:Heap} {K:Value->Heap->Prop} {x:Operand} {n:Int} (hx:asg us x = .int .i64 n) (hk:K (.int .i64 (IntKind.i64.wrap (-n))) h):step P (.unOp .neg t x) ty us h K:=by refine dz (cH λw hw=>⟨.int .i64 (IntKind.i64.wrap (-n)),w,?_,Same.refl _,by rw[hw];exact hk⟩);simp only[bW,execOp,hx];simp[Op.unary,Op.intArith]
end Go.Lft
namespace Go.Proofs.YtnfiilgdjpdlkaaGreatDoor
open Go Go.Lft
structure MS where
 at_:Nat
 ps:Int
 blocks:List BlkD
 next:Int
 live:List Int
def MS.took (m:MS):MS:={ m with at_:=m.at_+1 }
def MS.aL (m:MS):MS:={ m with next:=m.next+1 }
structure BlkM where
 phis:Raw
 ins:Raw
 term:dD
instance:Rep BlkM:=Rep.via λd=>Cat.mk d.phis (Cat.mk d.ins d.term)
instance:Inhabited BlkM:=⟨⟨default,default,default⟩⟩
theorem BlkM.rW:Part BlkM Raw 0 BlkM.phis (λd x=>{ d with phis:=x }):=(Part.fst Part.all).via (λ_=>rfl) λ_ _=>rfl
theorem BlkM.mw:Part BlkM Raw 1 BlkM.ins (λd x=>{ d with ins:=x }):=(Part.snd (Part.fst Part.all)).via (λ_=>rfl) λ_ _=>rfl
theorem BlkM.nj:Part BlkM dD 2 BlkM.term (λd x=>{ d with term:=x }):=(Part.snd (Part.snd Part.all)).via (λ_=>rfl) λ_ _=>rfl
theorem Ag {H:View} {cs:List Value} {d:BlkM} {p:List PhiD} {i:List InsD} (h:Rep.rd H cs d) (hp:SlRd H d.phis.v p) (hi:SlRd H d.ins.v i):Rep.rd H cs (BlkD.mk p i d.term):=by obtain⟨c1,r1,e1,⟨h1,_⟩,c2,r2,e2,⟨h2,_⟩,h3⟩:=h;have h1:c1=[d.phis.v]:=h1;have h2:c2=[d.ins.v]:=h2;exact⟨c1,r1,e1,⟨d.phis.v,h1,hp⟩,c2,r2,e2,⟨d.ins.v,h2,hi⟩,h3⟩
structure MkB (M:Nat) (vs:Value) (m:MS) (o:Own) (vb vl:Value) (lb:List BlkM):Prop where
 box:o (0,0)=bx T.aR M (RawN.mk (n:=5) (mkL vs m.at_ m.ps vb m.next vl))
 live:o (0,1)=it T.int vl m.live
 blk:o (0,2)=it T.dh vb lb
 len:lb.length=m.blocks.length
 term : ∀i,i<m.blocks.length->(nth lb i).term=(nth m.blocks i).term
 phis : ∀i,i<m.blocks.length->o (1,i)=it T.lg (nth lb i).phis.v (nth m.blocks i).phis
 ins : ∀i,i<m.blocks.length->o (2,i)=it T.eC (nth lb i).ins.v (nth m.blocks i).ins
structure Mk (s:List Int) (M:Nat) (vs:Value) (W:View) (h:Heap) (o:Own) (m:MS):Prop where
 own:Owns W h o
 src:SlRd W vs s
 box : ∃vb vl lb,MkB M vs m o vb vl lb
def Nx (s:List Int) (M:Nat) (vs:Value) (W:View) (h:Heap) (o:Own) (m:MS):Prop:=∃W' o',W.le W'/\Mk s M vs W' h o' m/\∀k:Key,3<=k.1->o' k=o k
variable {s:List Int} {M:Nat} {vs:Value} {W:View} {h:Heap} {o:Own} {m:MS}
theorem Mk.nx (w:Mk s M vs W h o m):Nx s M vs W h o m:=⟨W,o,View.le_refl _,w,λ_ _=>rfl⟩
theorem Nx.trans {W':View} {o':Own} (hW:W.le W') (ho : ∀k:Key,3<=k.1->o' k=o k) (n:Nx s M vs W' h o' m):Nx s M vs W h o m:=by obtain⟨W2,o2,h1,h2,h3⟩:=n;exact⟨W2,o2,View.le_trans hW h1,h2,λk hk=>(h3 k hk).trans (ho k hk)⟩
theorem MkB.at {vb vl:Value} {lb:List BlkM} (b:MkB M vs m o vb vl lb) {at_:Nat} {next:Int}:MkB M vs { m with at_:=at_,next:=next } (o.upd (0,0) (bx T.aR M (RawN.mk (n:=5) (mkL vs at_ m.ps vb next vl)))) vb vl lb:=
 ⟨rfl,b.live,b.blk,b.len,b.term,λi hi=>b.phis i hi,λi hi=>b.ins i hi⟩
theorem mY {k:Key} {i:Option Lft.Item} (hk:k.1<3) : ∀q:Key,3<=q.1->o.upd k i q=o q:=λq hq=>Own.ak λe=>by rw[e]at hq;omega
theorem cw {k:Key} {i j:Option Lft.Item} (q:Key):(o.upd k i).upd k j q=o.upd k j q:=by unfold Own.upd;split<;>rfl
theorem Mk.take (w:Mk s M vs W h o m) {n:Int} (h1:m.at_<=1000000000) (hn:0<n) (hn2:n<=1000000000) :
  az Tryz.prog N.cR #[.pointer (some ⟨M,0,none⟩),.int .i64 n] h (λu h'=>u = .int .i64 (aI s m.at_ n)/\∃o',Mk s M vs W h' o' m.took/\∀k:Key,3<=k.1->o' k=o k):=by obtain⟨vb,vl,lb,b⟩:=w.box;refine(Hh w.own b.box w.src h1 hn hn2).mono ?_;rintro u h' ⟨rfl,w2⟩;exact⟨rfl,_,⟨w2,w.src,vb,vl,lb,b.at⟩,mY Yc⟩
theorem Mk.fresh (w:Mk s M vs W h o m) (h0:0<=m.next) (h1:m.next<=1000000000) :
  az Tryz.prog N.cD #[.pointer (some ⟨M,0,none⟩)] h (λu h'=>u = .int .i64 m.next/\∃o',Mk s M vs W h' o' m.aL/\∀k:Key,3<=k.1->o' k=o k):=by obtain⟨vb,vl,lb,b⟩:=w.box;refine(y6 w.own b.box h0 h1).mono ?_;rintro u h' ⟨rfl,w2,-⟩;exact⟨rfl,_,⟨w2,w.src,vb,vl,lb,b.at⟩,mY Yc⟩
theorem mg {x:Int}:-2147483648<=IntKind.i32.wrap x/\IntKind.i32.wrap x<=2147483647:=by rw[IntKind.wrap_i32];omega
def kJ (s:List Int) (m:MS):Int:=
 if aI s (m.at_+1) 8=0 then IntKind.i32.wrap (IntKind.i64.wrap (aI s m.at_ 1048576*4099))
 else if aI s (m.at_+1) 8=1 then IntKind.i32.wrap (IntKind.i64.wrap (-aI s m.at_ 1048576))
 else if aI s (m.at_+1) 8=2 then -2147483648
 else if aI s (m.at_+1) 8=3 then IntKind.i32.wrap ((aI s m.at_ 1048576).tmod 70000)
 else IntKind.i32.wrap (IntKind.i64.wrap ((aI s m.at_ 1048576).tmod 20-4))
theorem py:-2147483648<=kJ s m/\kJ s m<=2147483647:=by
 unfold kJ;repeat' split
 all_goals first | exact mg | decide
theorem Mk.word (w:Mk s M vs W h o m) (h1:m.at_<=999999990) :
  az Tryz.prog N.dt #[.pointer (some ⟨M,0,none⟩)] h (λu h'=>u = .int .i32 (kJ s m)/\∃o',Mk s M vs W h' o' m.took.took/\∀k:Key,3<=k.1->o' k=o k):=by
 refine aw (args:=[.pointer (some ⟨M,0,none⟩)]) follows F.dt E.dt (Lm Ya) λK hK=>?_;dsimp only[L.dt,lkF,lkG];refine ab λz hz=>?_;simp;subst hz;refine ab λz hz=>?_;simp;refine ah Ya (w.take Yb (n:=1048576) Yc Yc) ?_;rintro _ h2 ⟨rfl,o2,w2,f2⟩;subst hz;refine ab λz hz=>?_;simp;refine ah Ya (w2.take (show m.at_+1<=_ by omega) (n:=8) Yc Yc) ?_;rintro _ h3 ⟨rfl,o3,w3,f3⟩;have hx:m.took.at_=m.at_+1:=rfl;rw[hx];have hf : ∀k:Key,3<=k.1->o3 k=o k:=λk hk=>(f3 k hk).trans (f2 k hk);have hwd:kJ s m=_:=kJ.eq_1 s m;generalize kJ s m=r at hwd hK;generalize aI s (m.at_+1) 8=q at hwd;generalize aI s m.at_ 1048576=x at hwd;by_cases c0:q=0
 ·rw[if_pos c0]at hwd;simp[c0];exact hK _ _ ⟨by rw[hwd],_,w3,hf⟩
 rw[if_neg c0]at hwd;by_cases c1:q=1
 ·rw[if_pos c1]at hwd;simp[c1];refine IW rfl ?_;simp;exact hK _ _ ⟨by rw[hwd],_,w3,hf⟩
 rw[if_neg c1]at hwd;by_cases c2:q=2
 ·rw[if_pos c2]at hwd;simp[c2];exact hK _ _ ⟨by rw[hwd],_,w3,hf⟩
 rw[if_neg c2]at hwd;by_cases c3:q=3
 ·rw[if_pos c3]at hwd;simp[c3];exact hK _ _ ⟨by rw[hwd],_,w3,hf⟩
 rw[if_neg c3]at hwd;simp[c0,c1,c2,c3];subst hz;simp;exact hK _ _ ⟨by rw[hwd],_,w3,hf⟩
end Go.Proofs.YtnfiilgdjpdlkaaGreatDoor
namespace Go.Proofs.YtnfiilgdjpdlkaaGreatDoor
open Go Go.Lft
def MS.add (m:MS) (b:Nat) (i:InsD):MS:={ m with blocks:=m.blocks.set b { nth m.blocks b with ins:=(nth m.blocks b).ins++[i] },live:=m.live++di i }
def conD (v:Int) (n:Int):InsD:=⟨1,v,0,[],⟨n⟩⟩
def MS.constant (m:MS) (b:Nat) (n:Int):MS:=m.aL.add b (conD m.next n)
def xf (s:List Int) (m:MS):Int:=nth m.live (if aI s (m.at_+1) 3=0 then m.live.length-1 else(aI s m.at_ m.live.length).toNat)
def CC (s:List Int) (m:MS) (b:Nat):MS:=(m.took.took).constant b (kJ s m)
def aK (s:List Int) (m:MS) (b:Nat):Int × MS:=
 if m.live.length=0 then(m.next,CC s m b)
 else if aI s (m.at_+2) 9=0 then(m.next,CC s m.took.took.took b)
 else(xf s m,m.took.took.took)
def MS.two (m:MS) (b:Nat) (op x y:Int):MS:=m.aL.add b ⟨op,m.next,0,[x,y],⟨0⟩⟩
def binS (s:List Int) (m:MS) (b:Nat) (op:Int):MS:=
 let r1:=aK s m b
 let r2:=aK s r1.2 b
 if aI s r2.2.at_ 3=0 then
  (r2.2.took.took.constant b (IntKind.i32.wrap (IntKind.i64.wrap (aI s (r2.2.at_+1) 40-8)))).two b op r1.1 r2.2.next
 else r2.2.took.two b op r1.1 r2.1
def ltuS (s:List Int) (m:MS) (b:Nat):MS:=
 let r1:=aK s m b
 let r2:=aK s r1.2 b
 r2.2.two b 13 r1.1 r2.1
def divS (s:List Int) (m:MS) (b:Nat):MS:=
 let r1:=aK s m b
 let m2:=r1.2.took.constant b (IntKind.i32.wrap (aI s r1.2.at_ 12))
 if 0<aI s m2.at_ 3 then
  (m2.took.took.constant b (IntKind.i32.wrap (1+IntKind.i32.wrap (aI s (m2.at_+1) 12)))).two b 14 r1.1 m2.next
 else m2.took.two b 14 r1.1 r1.2.next
def xu (s:List Int) (m:MS) (b:Nat):MS:=
 let r1:=aK s m b
 let r2:=aK s r1.2 b
 r2.2.aL.aL.add b ⟨18,r2.2.next,r2.2.next+1,[r1.1,r2.1],⟨0⟩⟩
def iy (s:List Int) (b:Nat):Nat->List Int × MS->List Int × MS:=λ_ x=>(x.1++[(aK s x.2 b).1],(aK s x.2 b).2)
def nN (s:List Int) (m:MS) (b:Nat):MS:=
 let r:=up (iy s b) (aI s m.at_ 5).toNat ([],m.took)
 r.2.aL.took.add b ⟨17,r.2.next,0,r.1,⟨IntKind.i32.wrap (aI s r.2.at_ 5)⟩⟩
def nS (s:List Int) (m:MS) (b:Nat):Int × MS:=
 let m1:=m.took.constant b (IntKind.i32.wrap (aI s m.at_ 9))
 if aI s m1.at_ 3=0 then
  let r:=aK s m1.took b
  let m3:=(r.2.constant b 7).two b 5 r.1 r.2.next
  (m3.next,m3.two b 2 m.next (r.2.next+1))
 else(m.next,m1.took)
def offS (s:List Int) (m:MS):Int × MS:=
 if aI s (m.at_+1) 12=0 then(kJ s m.took.took,m.took.took.took.took) else(IntKind.i32.wrap (aI s m.at_ 4),m.took.took)
def jl (s:List Int) (m:MS) (b:Nat) (store:Bool):MS:=
 let a:=nS s m b
 let i:=offS s a.2
 if store then(aK s i.2 b).2.add b ⟨16,0,0,[a.1,(aK s i.2 b).1],⟨i.1⟩⟩
 else i.2.aL.add b ⟨15,i.2.next,0,[a.1],⟨i.1⟩⟩
def opsL:List Int:=[2,2,3,4,5,6,7,8,9,10,12,11]
def aU (s:List Int) (b:Nat) (m:MS):MS:=
 let k:=aI s m.at_ 20
 if k<12 then binS s m.took b (nth opsL k.toNat)
 else if k=12 then ltuS s m.took b
 else if k=13 then divS s m.took b
 else if k<16 then jl s m.took b (decide (k=15))
 else if k=16 then nN s m.took b
 else if k=17 then xu s m.took b
 else m.took.took.took.constant b (kJ s m.took)
section
variable{b:Nat}
theorem zS{H:View}{n:Nat}{cs:List Value}(hc:fZ H ⟨b,0,none⟩ cs)(hl:cs.length=n):Un.ev H (.bM n) (.pointer (some ⟨b,0,none⟩))=some (.agg cs.toArray):=by have:=fQ hc n 0 #[] Yb;simp only[Un.ev,vP,LI];rw[this];simp[<-hl]
theorem CY{H:View}{n:Nat}{cs:Array Value}{t:TypeId}(hb:H b=some (.cells cs t (0,0)))(hl:cs.size=n):Un.ev H (.bM n) (.pointer (some ⟨b,0,none⟩))=some (.agg cs):=by have:fZ H ⟨b,0,none⟩ cs.toList:=⟨cs,t,(0,0),rfl,hb,by simp[Lw]⟩;simpa using zS this (by simpa using hl)
variable{vs vb vl:Value}{lb:List BlkM}
theorem MkB.I8{s:List Int}{M:Nat}{W:View}{h:Heap}{o:Own}{m:MS}(w:Owns W h o)(b:MkB M vs m o vb vl lb):
  ∃X:View,W.le X/\X.le (vw h)/\(∀i,i<=5->ao X ⟨M,i,none⟩=some ((mkL vs m.at_ m.ps vb m.next vl).getD i undef))/\SlRd X vb lb/\Av X vl/\∀i,i<m.blocks.length->Av X (nth lb i).phis.v/\Av X (nth lb i).ins.v:=by obtain⟨w5,s5⟩:=w.freeze (k:=(0,0)) (v:=.slice (some ⟨M,0,none⟩) 1 1) (l:=[RawN.mk (n:=5) (mkL vs m.at_ m.ps vb m.next vl)]) b.box;have hb2:o.upd (0,0) none (0,2)=it T.dh vb lb:=b.blk;obtain⟨w6,s6⟩:=w5.freeze (k:=(0,2)) (v:=vb) (l:=lb) hb2;have s5:=s5.mono (eM (h:=h) (w5.av (0,2) _ hb2));refine⟨_,View.le_trans (eM (h:=h) (w.av (0,0) _ b.box)) (eM (h:=h) (w5.av (0,2) _ hb2)),w6.wle,λi hi=>?_,s6,w6.av (0,1) _ b.live,λi hi=>⟨w6.av (1,i) _ (b.phis i hi),w6.av (2,i) _ (b.ins i hi)⟩⟩;have:=((s5.at (i:=0) Sa).part (RawN.p (n:=5) (o:=i) hi)).raw;simpa[slA]using this
variable {s:List Int} {M:Nat} {vs:Value} {W:View} {h:Heap} {o:Own} {m:MS}
theorem MkB.cell(w:Owns W h o)(b:MkB M vs m o vb vl lb){i:Nat}(hi:i<=5):ao (vw h) ⟨M,i,none⟩=some ((mkL vs m.at_ m.ps vb m.next vl).getD i undef):=w.raw b.box hi
theorem MkB.gP(bb:MkB M vs m o vb vl lb)(hb:b<m.blocks.length){x':BlkD}{y':BlkM}{o':Own}(hy:y'.term=x'.term)(h02:o' (0,2)=it T.dh vb (lb.set b y'))(h1:o' (1,b)=it T.lg y'.phis.v x'.phis)(h2:o' (2,b)=it T.eC y'.ins.v x'.ins)(ho : ∀q:Key,q≠(0,2)->q≠(1,b)->q≠(2,b)->o' q=o q):MkB M vs { m with blocks:=m.blocks.set b x' } o' vb vl (lb.set b y'):=by
 have hbl:b<lb.length:=by rw[bb.len];exact hb
 refine⟨(ho _ Sa Sa Sa).trans bb.box,(ho _ Sa Sa Sa).trans bb.live,h02,by simp[bb.len],λj hj=>?_,λj hj=>?_,λj hj=>?_⟩;all_goals
  have hj:j<m.blocks.length:=by simpa using hj
  have hjl:j<lb.length:=by rw[bb.len];exact hj
  show _=_
  simp only[bQ hj,bQ hjl]
  by_cases e:b=j
  ·subst e
   simp only[if_true]
   assumption
  ·simp only[if_neg e]
   first
    | exact bb.term j hj
    | exact(ho _ Sa (λq=>e (by injection q with _ q;exact q.symm)) Sa).trans (bb.phis j hj)
    | exact(ho _ Sa Sa (λq=>e (by injection q with _ q;exact q.symm))).trans (bb.ins j hj)
theorem Mk.value(w:Mk s M vs W h o m)(h1:m.at_<=999999990)(hl:m.live.length<=1000000000):
  az Tryz.prog N.dJ #[.pointer (some ⟨M,0,none⟩)] h (λu h'=>(m.live.length=0/\u = .tuple #[.int .i64 0,.bool false]/\h'=h)\/(m.live.length≠0/\u = .tuple #[.int .i64 (xf s m),.bool true]/\I64 (xf s m)/\∃o',Mk s M vs W h' o' m.took.took/\∀k:Key,3<=k.1->o' k=o k)):=by
 refine aw (args:=[.pointer (some ⟨M,0,none⟩)]) follows F.dJ E.dJ (Lm Ya) λK hK=>?_;obtain⟨vb,vl,lb,b⟩:=w.box;have c5:ao (vw h) ⟨M,5,none⟩=some vl:=b.cell w.own (i:=5) Yc;have hsl:=w.own.now b.live;dsimp only[L.dJ,lkF,lkG];refine ab λz hz=>?_;simp;subst hz;refine ab λz hz=>?_;by_cases h0:m.live.length=0
 ·have h0':m.live=[]:=Ls h0;simp[c5,hsl.len,h0];exact hK _ _ (.inl ⟨h0,rfl,rfl⟩)
 have h0':¬(m.live=[]):=λe=>h0 (by rw[e];rfl);simp[c5,hsl.len,h0'];subst hz;refine ab λz hz=>?_;simp[c5,hsl.len];refine ah Ya (w.take Yb (n:=(m.live.length:Int)) Yb Yb) ?_;rintro _ h2 ⟨rfl,o2,w2,f2⟩;subst hz;refine ab λz hz=>?_;simp;refine ah Ya (w2.take (show m.at_+1<=_ by omega) (n:=3) Yc Yc) ?_;rintro _ h3 ⟨rfl,o3,w3,f3⟩;have hx:m.took.at_=m.at_+1:=rfl;rw[hx];have hf : ∀k:Key,3<=k.1->o3 k=o k:=λk hk=>(f3 k hk).trans (f2 k hk);have hv:xf s m=_:=xf.eq_1 s m;obtain⟨vb3,vl3,lb3,b3⟩:=w3.box;have c53:ao (vw h3) ⟨M,5,none⟩=some vl3:=b3.cell w3.own (i:=5) Yc;have hsl3:SlRd (vw h3) vl3 m.live:=w3.own.now b3.live;obtain⟨r0,r1⟩:=cS (s:=s) (at_:=m.at_) (n:=(m.live.length:Int)) Yb;generalize aI s m.at_ m.live.length=x at hv r0 r1;generalize aI s (m.at_+1) 3=q at hv;obtain⟨i,hi,hvi,hii⟩ : ∃i:Nat,i<m.live.length/\xf s m=nth m.live i/\(i:Int)=if q=0 then(m.live.length:Int)-1 else x:=by
  by_cases c:q=0
  ·rw[if_pos c]at hv ⊢;exact⟨m.live.length-1,by omega,hv,by omega⟩
  rw[if_neg c]at hv ⊢;exact⟨x.toNat,by omega,hv,by omega⟩
 have h64:IntKind.i64.wrap ((m.live.length:Int)-1)=(m.live.length:Int)-1:=bZ Yb Yb;have fin : ∀ρ:Env,ρ=[(0,.pointer (some ⟨M,0,none⟩)),(2,.int .i64 0),(3,.bool false),(4,.int .i64 i),(17,.int .i64 x),(19,.int .i64 q)]->LC.wp Tryz.prog z (dW [.tmp 2,.tmp 3] K) ρ h3:=by rintro _ rfl;subst hz;refine ab λz hz=>?_;simp(disch:=omega)[c53,hsl3.idx1 rfl,hsl3.int (View.le_refl _)];subst hz;simp;exact hK _ _ (.inr ⟨h0,by rw[hvi],by rw[hvi];exact hsl3.range hi,o3,w3,hf⟩)
 by_cases c:q=0
 ·rw[if_pos c]at hii;simp[c,c53,hsl3.len,h64];refine fin _ ?_;rw[hii,c]
 rw[if_neg c]at hii;simp[c];refine fin _ ?_;rw[hii]
theorem Mk.add (w:Mk s M vs W h o m) {b:Nat} {i:InsD} {v:Value} (hb:b<m.blocks.length) (hi:Rd W v i) (hn:(nth m.blocks b).ins.length<=100000000) (hl:m.live.length<=100000000) :
    az Tryz.prog N.dP #[.pointer (some ⟨M,0,none⟩),.int .i64 b,v] h (λu h'=>Nx s M vs W h' o (m.add b i)):=by
  refine aw (args:=[.pointer (some ⟨M,0,none⟩),.int .i64 b,v]) follows F.dP E.dP (Lm Ya) λK hK=>?_
  obtain⟨vb,vl,lb,bb⟩:=w.box
  obtain⟨va,rfl,hir,hia⟩:=BM hi
  dsimp only[L.dP,lkF,lkG]
  refine ab λz hz=>?_
  simp
  refine iY rfl (hi.mono w.own.wle) λh1 e1 hle1 hs1 hat=>?_
  have w1:=w.own.ext hle1
  have hbx:(grow W h h1) h.size=some (.cells #[.int .i64 i.op,.int .i64 i.dst,.int .i64 i.two,va,.int .i32 i.imm.v] T.eC (0,0)):=by
    rw[cI (Lp _),e1];simp[Value.cells]
  have hi1:=hi.mono (bP (h':=h1) w.own.wle)
  have src1:=w.src.mono (bP (h':=h1) w.own.wle)
  have hW1:=bP (h':=h1) w.own.wle
  clear hat e1
  have hld:=CY hbx (n:=5) rfl
  generalize grow W h h1=W1 at w1 hld hi1 src1 hW1
  generalize h.size=B at hld
  subst hz
  refine ab λz hz=>?_
  obtain⟨X,hWX,hX,cX,sX,avl,avX⟩:=bb.I8 (s:=s) w1
  have c3:ao X ⟨M,3,none⟩=some vb:=cX 3 Yc
  have hbl:b<lb.length:=by rw[bb.len];exact hb
  have a1:=(sX.at hbl).part BlkM.mw
  have hsv:=sX.bound
  have a2:ao X (((slA vb).add (b*6)).add 1)=some (nth lb b).ins.v:=by rw[aC hbl];exact a1.raw
  have hldX:Un.ev X (.bM 5) (.pointer (some ⟨B,0,none⟩))=some (.agg #[.int .i64 i.op,.int .i64 i.dst,.int .i64 i.two,va,.int .i32 i.imm.v]):=by
    have:=dY (ρ:=λ_=>none) (e:=.un (.bM 5) (.con (.pointer (some ⟨B,0,none⟩)))) hWX (by simpa using hld)
    simpa using this
  refine aP X hX ?_
  simp(disch:=omega)[c3,sX.idxn (N:=6) rfl,a2,hldX]
  refine mF (α:=InsD) (W:=W1) (d:=i) El.jE rfl hi1 λu5 h5 src hle5 hs5=>⟨View.le_trans hX hle5,?_⟩
  refine(w1.ext' hle5).bY (k:=(2,b)) (α:=InsD) (v:=(nth lb b).ins.v) (l:=(nth m.blocks b).ins) (l2:=[i]) (bb.ins b hb) El.jE rfl rfl src (by simp;omega) (by simp;omega) λv6 h6 w6 m6=>⟨(m6.view (View.le_trans hX hle5) (avX b hb).2).1,?_⟩
  have hv6:=(w6.cells (k:=(2,b)) Own.aj).2
  refine w6.ln (k:=(0,2)) (α:=BlkM) BlkM.mw (v:=vb) (l:=lb) (i:=b) (d:=⟨v6⟩) bb.blk Ya rfl rfl hbl (mH.2 ⟨rfl,hv6⟩) λh7 w7 _=>?_
  have b7:=bb.gP hb (x':={ nth m.blocks b with ins:=(nth m.blocks b).ins++[i] }) (y':={ lb[b]with ins:=⟨v6⟩ }) (o':=(o.upd (2,b) (it T.eC v6 ((nth m.blocks b).ins++[i]))).upd (0,2) (it T.dh vb (lb.set b { lb[b]with ins:=⟨v6⟩ }))) (by rw[<-bb.term b hb,aC hbl]) Own.aj (by rw[<-aC hbl];exact bb.phis b hb) ((Own.ak Sa).trans Own.aj) (λq h1 h2 h3=>by rw[Own.ak h1,Own.ak h3])
  generalize hm7:({ m with blocks:=m.blocks.set b { nth m.blocks b with ins:=(nth m.blocks b).ins++[i] } }:MS)=m7 at b7
  have hadd:m.add b i={ m7 with live:=m.live++di i }:=by rw[<-hm7];rfl
  have hl7:m7.live=m.live:=by rw[<-hm7]
  have hf7 : ∀k:Key,3<=k.1->((o.upd (2,b) (it T.eC v6 ((nth m.blocks b).ins++[i]))).upd (0,2) (it T.dh vb (lb.set b { lb[b]with ins:=⟨v6⟩ }))) k=o k:=λk hk=>by
    rw[Own.ak (by rintro rfl;simp at hk),Own.ak (by rintro rfl;simp at hk)]
  generalize (o.upd (2,b) (it T.eC v6 ((nth m.blocks b).ins++[i]))).upd (0,2) (it T.dh vb (lb.set b { lb[b]with ins:=⟨v6⟩ }))=o7 at w7 b7 hf7
  generalize lb.set b { lb[b]with ins:=⟨v6⟩ }=lb7 at b7
  clear src avX m6
  subst hz
  refine ab λz hz=>?_
  have hld7:Un.ev (vw h7) (.bM 5) (.pointer (some ⟨B,0,none⟩))=some (.agg #[.int .i64 i.op,.int .i64 i.dst,.int .i64 i.two,va,.int .i32 i.imm.v]):=by
    have:=dY (ρ:=λ_=>none) (e:=.un (.bM 5) (.con (.pointer (some ⟨B,0,none⟩)))) w7.wle (by simpa using hld)
    simpa using this
  simp[hld7]
  refine ah Ya (oG (hi1.mono w7.wle)) ?_
  rintro u8 h8 ⟨hle8,hu8,-⟩
  have w8:=w7.ext hle8
  have hu8:SlRd (grow W1 h7 h8) u8 (di i):=hu8.mono (uS (Lp _) (View.le_refl _))
  have hW8:=bP (h':=h8) w7.wle
  generalize grow W1 h7 h8=W8 at w8 hu8 hW8
  subst hz
  have c58:ao (vw h8) ⟨M,5,none⟩=some vl:=b7.cell w8 (i:=5) Yc
  have hmk:(di i).length<=2:=by
                                         unfold di;repeat' split
                                         all_goals simp
  simp[c58]
  refine w8.bY (k:=(0,1)) (α:=Int) (v:=vl) (l:=m.live) (l2:=di i) (by rw[<-hl7];exact b7.live) El.aY rfl rfl (hu8.src w8.wle) Yb Yb λv9 h9 w9 m9=>?_
  have hv9:=(w9.cells (k:=(0,1)) Own.aj).2
  have hbx9:(o7.upd (0,1) (it T.int v9 (m.live++di i))) (0,0)=bx T.aR M (RawN.mk (n:=5) (mkL vs m7.at_ m7.ps vb m7.next vl)):=b7.box
  refine w9.dg (k:=(0,0)) (n:=5) (i:=5) (e:=T.aR) (B:=M) (l:=mkL vs m7.at_ m7.ps vb m7.next vl) hbx9 Yc Ya rfl rfl hv9 λh10 w10 _=>?_
  refine hK _ _ ⟨W8,_,View.le_trans hW1 hW8,⟨w10,src1.mono hW8,vb,v9,lb7,?_⟩,λk hk=>?_⟩
  · rw[hadd]
    exact⟨rfl,rfl,b7.blk,b7.len,b7.term,b7.phis,b7.ins⟩
  · rw[Own.ak (by rintro rfl;simp at hk),Own.ak (by rintro rfl;simp at hk)]
    exact hf7 k hk
end
section
structure MS.ok (c:Nat) (m:MS):Prop where
 at_:m.at_<=c
 n0:0<=m.next
 next:m.next<=c
 live:m.live.length<=c
 ins : ∀i,(nth m.blocks i).ins.length<=c
theorem MS.ok.mono{c d:Nat}{m:MS}(h:m.ok c)(hd:c<=d):m.ok d:=
 ⟨by have:=h.at_;omega,h.n0,by have:=h.next;omega,by have:=h.live;omega,λi=>by have:=h.ins i;omega⟩
theorem MS.ok.took {c:Nat} {m:MS} (h:m.ok c):m.took.ok (c+1):=
 ⟨by have:=h.at_;show m.at_+1<=_;omega,h.n0,by have:=h.next;show m.next<=_;omega,by have:=h.live;show m.live.length<=_;omega,λi=>by have:=h.ins i;show(nth m.blocks i).ins.length<=_;omega⟩
theorem MS.ok.aL {c:Nat} {m:MS} (h:m.ok c):m.aL.ok (c+1):=
 ⟨by have:=h.at_;show m.at_<=_;omega,by have:=h.n0;show 0<=m.next+1;omega,by have:=h.next;show m.next+1<=_;omega,by have:=h.live;show m.live.length<=_;omega,λi=>by have:=h.ins i;show(nth m.blocks i).ins.length<=_;omega⟩
theorem C6{i:InsD}:(di i).length<=2:=by
 unfold di;repeat' split
 all_goals simp
theorem MS.ok.add {c b:Nat} {m:MS} {i:InsD} (h:m.ok c):(m.add b i).ok (c+2):=by
 refine⟨by have:=h.at_;show m.at_<=_;omega,h.n0,by have:=h.next;show m.next<=_;omega,?_,λj=>?_⟩
 ·have:=h.live;have:=C6 (i:=i);show(m.live++di i).length<=_;rw[Lv];omega
 show(nth (m.blocks.set b _) j).ins.length<=_;have hj:=h.ins j;rcases Lr j m.blocks.length with hl | hl
 ·rw[bQ hl];split
  ·rename_i e;subst e;rw[Lv,LO];omega
  omega
 rw[dB (by simpa using hl)];rw[dB hl]at hj;omega
theorem MS.ok.constant {c b:Nat} {m:MS} {n:Int} (h:m.ok c):(m.constant b n).ok (c+3):=h.aL.add
theorem MS.ok.two {c b:Nat} {m:MS} {op x y:Int} (h:m.ok c):(m.two b op x y).ok (c+3):=h.aL.add
variable {s:List Int} {M:Nat} {vs:Value} {W:View} {h:Heap} {o:Own} {m:MS}
theorem MS.ok.aK {c b:Nat} (h:m.ok c):(aK s m b).2.ok (c+10):=by
 unfold Go.Proofs.YtnfiilgdjpdlkaaGreatDoor.aK;repeat' split
 ·exact(h.took.took.constant).mono Yb
 ·exact(h.took.took.took.took.took.constant).mono Yb
 exact(h.took.took.took).mono Yb
variable{b:Nat}
theorem mj{i:InsD}:(m.add b i).blocks.length=m.blocks.length:=by simp[MS.add]
theorem ey:(aK s m b).2.blocks.length=m.blocks.length:=by
 unfold aK;repeat' split
 all_goals simp[CC,MS.constant,mj,MS.took,MS.aL]
theorem Mk.constant (w:Mk s M vs W h o m) {b c:Nat} {n:Int} (hb:b<m.blocks.length) (hm:m.ok c) (hc:c<=1000000) (hn:-2147483648<=n/\n<=2147483647) :
  az Tryz.prog N.cf #[.pointer (some ⟨M,0,none⟩),.int .i64 b,.int .i32 n] h (λu h'=>u = .int .i64 m.next/\Nx s M vs W h' o (m.constant b n)):=by refine aw (args:=[.pointer (some ⟨M,0,none⟩),.int .i64 b,.int .i32 n]) follows F.cf E.cf (Lm Ya) λK hK=>?_;have q1:=hm.next;have q0:=hm.n0;dsimp only[L.cf,lkF,lkG];refine ab λz hz=>?_;simp;subst hz;refine ab λz hz=>?_;simp;refine ah Ya (w.fresh q0 Yb) ?_;rintro _ h2 ⟨rfl,o2,w2,f2⟩;subst hz;refine ab λz hz=>?_;simp;refine ay (z:=.agg #[.int .i64 0,.int .i64 0,.int .i64 0,.slice none 0 0,.int .i32 0]) (places:=[(0,1),(1,1),(2,1),(3,1),(4,1)]) (vs:=[(0,.int .i64 1),(1,.int .i64 m.next),(4,.int .i32 n)]) (cs:=#[.int .i64 1,.int .i64 m.next,.int .i64 0,.slice none 0 0,.int .i32 n]) Ya Ya Sa Ya ?_;have hm2:=hm.aL;refine ah Ya (w2.add (i:=conD m.next n) hb (zv (imm:=⟨n⟩) ⟨⟨by decide,by decide⟩,⟨by omega,by omega⟩,⟨by decide,by decide⟩,hn⟩ aO) (by have:=hm2.ins b;omega) (by have:=hm2.live;omega)) ?_;rintro u3 h3 n3;subst hz;simp;exact hK _ _ ⟨rfl,n3.trans (View.le_refl _) f2⟩
theorem Ca(w:Mk s M vs W h o m){c:Nat}(hb:b<m.blocks.length)(hm:m.ok c)(hc:c<=999990):
  az Tryz.prog N.dF #[.pointer (some ⟨M,0,none⟩),.int .i64 b] h (λu h'=>u = .int .i64 (aK s m b).1/\I64 (aK s m b).1/\Nx s M vs W h' o (aK s m b).2):=by
 refine aw (args:=[.pointer (some ⟨M,0,none⟩),.int .i64 b]) follows F.dF E.dF (Lm Ya) λK hK=>?_;have qa:=hm.at_;have ql:=hm.live;have hsd:aK s m b=_:=aK.eq_1 s m b;dsimp only[L.dF,lkF,lkG];refine ab λz hz=>?_;simp;subst hz;refine ab λz hz=>?_;simp;refine ah Ya (w.value Yb Yb) ?_;rintro u h2 hu;have con : ∀{m2:MS} {o2:Own} {h2:Heap} {ρ:Env} {z:LC},Mk s M vs W h2 o2 m2->(∀k:Key,3<=k.1->o2 k=o k)->m2.ok (c+3)->b<m2.blocks.length->aK s m b=(m2.next,CC s m2 b)->Lft.look ρ 0=some (.pointer (some ⟨M,0,none⟩))->Lft.look ρ 1=some (.int .i64 b)->
   LC.wp Tryz.prog (.seq (.reg false (.loud [19,20,21] [(19,(.tmp 0)),(20,(.tmp 1))] [(21,(.tmp 0))] none [] false (.call ⟨.value (.func N.dt),#[(.tmp 21)],#[T.pH]⟩) 21 (some 22) true
   (.loud [] [] [(19,(.tmp 19)),(20,(.tmp 20)),(22,(.tmp 22))] none [] false (.call ⟨.value (.func N.cf),#[(.tmp 19),(.tmp 20),(.tmp 22)],#[T.pH,3,21]⟩) 3 (some 23) true
    (.fin [4] [(4,(.tmp 23))] [])))) .ret) (gr (LC.wp Tryz.prog z (dW [.tmp 4] K)) (dW [.tmp 4] K)) ρ h2:=by intro m2 o2 h2 ρ z w2 f2 k2 b2 e2 r0 r1;refine ab λy hy=>?_;simp[r0,r1];refine ah Ya (w2.word (by have:=k2.at_;omega)) ?_;rintro _ h3 ⟨rfl,o3,w3,f3⟩;simp[af,ag,r0,r1];refine ah Ya (w3.constant (n:=kJ s m2) b2 k2.took.took Yb py) ?_;rintro _ h4 ⟨rfl,n4⟩;subst hy;simp[af,ag];refine hK _ _ ⟨by rw[e2];rfl,by rw[e2];have:=k2.n0;have:=k2.next;exact⟨by show _<=m2.next;omega,by show m2.next<=_;omega⟩,?_⟩;rw[e2];exact n4.trans (View.le_refl _) λk hk=>(f3 k hk).trans (f2 k hk)
 rcases hu with⟨h0,rfl,rfl⟩ | ⟨h0,rfl,hi64,o2,w2,f2⟩
 ·rw[if_pos h0]at hsd;simp;subst hz;refine ab λz hz=>?_;refine ab λy hy=>?_;simp;subst hy;refine aD Sa ?_;exact con w (λ_ _=>rfl) (hm.mono Yb) hb hsd (by simp[af,ag]) (by simp[af,ag])
 rw[if_neg h0]at hsd;simp;subst hz;refine ab λz hz=>?_;refine ab λy hy=>?_;simp;have k2:=hm.took.took;refine ah Ya (w2.take (by have:=k2.at_;omega) (n:=9) Yc Yc) ?_;rintro _ h3 ⟨rfl,o3,w3,f3⟩;have hx:m.took.took.at_=m.at_+2:=rfl;rw[hx];simp;subst hy;by_cases c9:aI s (m.at_+2) 9=0
 ·rw[if_pos c9]at hsd;refine aD (by simp[c9]) ?_;exact con w3 (λk hk=>(f3 k hk).trans (f2 k hk)) k2.took hb hsd (by simp[af,ag]) (by simp[af,ag])
 rw[if_neg c9]at hsd;refine aB (by simp[c9]) ?_;simp;subst hz;simp;refine hK _ _ ⟨by rw[hsd],by rw[hsd];exact hi64,?_⟩;rw[hsd];exact w3.nx.trans (View.le_refl _) λk hk=>(f3 k hk).trans (f2 k hk)
end
def Nz (s:List Int) (M:Nat) (vs:Value) (W0:View) (h:Heap) (o0:Own) (m:MS) (u:Value) (ds:List Int):Prop:=∃W o,W0.le W/\Mk s M vs W h o m/\(∀k:Key,3<=k.1->o k=o0 k)/\SlRd W u ds
section
variable {s:List Int} {M:Nat} {vs:Value} {W0:View} {h:Heap} {o0:Own} {m:MS} {u:Value} {ds:List Int}
theorem Nx.z(n:Nx s M vs W0 h o0 m):Nz s M vs W0 h o0 m (.slice none 0 0) []:=by obtain⟨W,o,h1,h2,h3⟩:=n;exact⟨W,o,h1,h2,h3,aO⟩
theorem Nz.x(n:Nz s M vs W0 h o0 m u ds):Nx s M vs W0 h o0 m:=by obtain⟨W,o,h1,h2,h3,_⟩:=n;exact⟨W,o,h1,h2,h3⟩
theorem Nz.call{f:FuncId}{args:Array Value}{m':MS}{U:Value->Prop}(hc : ∀{W o},Mk s M vs W h o m->az Tryz.prog f args h (λu h'=>U u/\Nx s M vs W h' o m'))(n:Nz s M vs W0 h o0 m u ds):
  az Tryz.prog f args h (λv h'=>U v/\Nz s M vs W0 h' o0 m' u ds):=by obtain⟨W,o,h1,h2,h3,h4⟩:=n;refine(hc h2).mono ?_;rintro v h' ⟨hU,W',o',g1,g2,g3⟩;exact⟨hU,W',o',View.le_trans h1 g1,g2,λk hk=>(g3 k hk).trans (h3 k hk),h4.mono g1⟩
theorem fu(n:Nz s M vs W0 h o0 m u ds){c:Nat}(hm:m.ok c)(hc:c<=1000000){k:Int}(hk:0<k)(hk2:k<=1000000000):
  az Tryz.prog N.cR #[.pointer (some ⟨M,0,none⟩),.int .i64 k] h (λv h'=>v = .int .i64 (aI s m.at_ k)/\Nz s M vs W0 h' o0 m.took u ds):=
 n.call (U:=λv=>v=_) λw=>((w.take (by have:=hm.at_;omega) hk hk2).mono λv h' ⟨e,o',w',f'⟩=>⟨e,w'.nx.trans (View.le_refl _) f'⟩)
theorem gS(n:Nz s M vs W0 h o0 m u ds){c:Nat}(hm:m.ok c)(hc:c<=1000000):
  az Tryz.prog N.cD #[.pointer (some ⟨M,0,none⟩)] h (λv h'=>v = .int .i64 m.next/\Nz s M vs W0 h' o0 m.aL u ds):=
 n.call (U:=λv=>v=_) λw=>((w.fresh hm.n0 (by have:=hm.next;omega)).mono λv h' ⟨e,o',w',f'⟩=>⟨e,w'.nx.trans (View.le_refl _) f'⟩)
theorem xZ(n:Nz s M vs W0 h o0 m u ds){c:Nat}(hm:m.ok c)(hc:c<=1000000):
  az Tryz.prog N.dt #[.pointer (some ⟨M,0,none⟩)] h (λv h'=>v = .int .i32 (kJ s m)/\Nz s M vs W0 h' o0 m.took.took u ds):=
 n.call (U:=λv=>v=_) λw=>((w.word (by have:=hm.at_;omega)).mono λv h' ⟨e,o',w',f'⟩=>⟨e,w'.nx.trans (View.le_refl _) f'⟩)
variable{b:Nat}
theorem gI(n:Nz s M vs W0 h o0 m u ds){c:Nat}(hb:b<m.blocks.length)(hm:m.ok c)(hc:c<=1000000){k:Int}(hk:-2147483648<=k/\k<=2147483647):
  az Tryz.prog N.cf #[.pointer (some ⟨M,0,none⟩),.int .i64 b,.int .i32 k] h (λv h'=>v = .int .i64 m.next/\Nz s M vs W0 h' o0 (m.constant b k) u ds):=
 n.call (U:=λv=>v=_) λw=>w.constant hb hm hc hk
theorem iO(n:Nz s M vs W0 h o0 m u ds){c:Nat}(hb:b<m.blocks.length)(hm:m.ok c)(hc:c<=999990):
  az Tryz.prog N.dF #[.pointer (some ⟨M,0,none⟩),.int .i64 b] h (λv h'=>(v = .int .i64 (aK s m b).1/\I64 (aK s m b).1)/\Nz s M vs W0 h' o0 (aK s m b).2 u ds):=
 n.call (U:=λv=>v=_/\_) λw=>(Ca w hb hm hc).mono λv h' ⟨e1,e2,e3⟩=>⟨⟨e1,e2⟩,e3⟩
variable{op:Int}
theorem kT(n:Nz s M vs W0 h o0 m u ds){c:Nat}{d two imm:Int}(hb:b<m.blocks.length)(hm:m.ok c)(hc:c<=1000000)(h1:I64 op)(h2:I64 d)(h3:I64 two)(h4:-2147483648<=imm/\imm<=2147483647):
  az Tryz.prog N.dP #[.pointer (some ⟨M,0,none⟩),.int .i64 b,.agg #[.int .i64 op,.int .i64 d,.int .i64 two,u,.int .i32 imm]] h (λv h'=>Nx s M vs W0 h' o0 (m.add b ⟨op,d,two,ds,⟨imm⟩⟩)):=by obtain⟨W,o,g1,g2,g3,g4⟩:=n;refine(g2.add (i:=⟨op,d,two,ds,⟨imm⟩⟩) hb (zv (imm:=⟨imm⟩) ⟨h1,h2,h3,h4⟩ g4) (by have:=hm.ins b;omega) (by have:=hm.live;omega)).mono ?_;rintro v h' n';exact n'.trans g1 g3
theorem Nz.lit{po:OP}(n:Nz s M vs W0 h o0 m u ds){ty:TypeId}{ps:Array (Nat × Operand)}{us:List (Nat × Value)}{ls:List Int}{k:Nat}{K:Value->Heap->Prop}(hp:ps.map (λp=>(p.1,asg us p.2))=(((ls.map λx=>Value.int .i64 x).zipIdx 0).map λp=>(p.2,p.1)).toArray)(hr : ∀x∈ls,I64 x)(hn:ls.length=k)(hb:k<=16777216)(hk : ∀a n c h',(vw h).le (vw h')->Nz s M vs W0 h' o0 m (.slice a n c) ls->K (.slice a n c) h'):@Lft.step po Tryz.prog (.buildSlice T.aY k ps) ty us h K:=by
 obtain⟨W,o,g1,g2,g3,g4⟩:=n;have hra : ∀l:List Int,(∀x∈l,I64 x)->oB W (l.map λx=>Value.int .i64 x) l:=by
  intro l;induction l with
  | nil=>intro _;trivial
  | cons a l ih=>intro hl;exact⟨bK.2 ⟨rfl,hl a Sa⟩,ih λx hx=>hl x (by simp[hx])⟩
 refine lB (X:=W) (ds:=ls) (vs:=ls.map λx=>Value.int .i64 x) rfl El.aY hp (hra ls hr) g2.own.wle hn hb λv h' hle hs hv _=>?_;have hs2:=hv _ (bP g2.own.wle) (cI (Lp _));obtain⟨a,cp,rfl,_⟩:=id hs2;refine hk _ _ _ h' hle ?_;exact⟨_,o,View.le_trans g1 (bP g2.own.wle),⟨g2.own.ext hle,g2.src.mono (bP g2.own.wle),g2.box⟩,g3,hs2⟩
end
theorem MS.ok.jM{c:Nat}{m:MS}(h:m.ok c)(hc:c<=1000000):I64 m.next:=by have:=h.n0;have:=h.next;constructor<;>omega
variable{b:Nat}
theorem eh{m:MS}{n:Int}:(m.constant b n).blocks.length=m.blocks.length:=mj
variable{op:Int}
theorem nu{m:MS}{x y:Int}:(m.two b op x y).blocks.length=m.blocks.length:=mj
theorem i64c{x:Int}(h0:-1000<=x:=by decide)(h1:x<=1000:=by decide):I64 x:=⟨by omega,by omega⟩
variable{vs:Value}
theorem DV{s:List Int}{M:Nat}{W0:View}{h:Heap}{o0:Own}{m:MS}(n:Nx s M vs W0 h o0 m){c:Nat}{store:Bool}(hb:b<m.blocks.length)(hm:m.ok c)(hc:c<=900000):
  az Tryz.prog N.dy #[.pointer (some ⟨M,0,none⟩),.int .i64 b,.bool store] h (λv h'=>Nx s M vs W0 h' o0 (jl s m b store)):=by
 refine aw (args:=[.pointer (some ⟨M,0,none⟩),.int .i64 b,.bool store]) follows F.dy E.dy (Lm Ya) λK hK=>?_;dsimp only[L.dy,lkF,lkG];have n:=n.z;have hmm:jl s m b store=_:=jl.eq_1 s m b store;refine ab λz hz=>?_;simp;refine ah Ya (fu n hm Yb (k:=9) Yc Yc) ?_;rintro _ h1 ⟨rfl,n⟩;simp;refine ah Ya (gI n (b:=b) hb hm.took Yb (k:=IntKind.i32.wrap (aI s m.at_ 9)) mg) ?_;rintro _ h2 ⟨rfl,n⟩;have q:=hm.took.constant (b:=b) (n:=IntKind.i32.wrap (aI s m.at_ 9));have hb1:b<(m.took.constant b (IntKind.i32.wrap (aI s m.at_ 9))).blocks.length:=by rw[eh];exact hb
 obtain⟨m1,hm1⟩ : ∃m1,m1=m.took.constant b (IntKind.i32.wrap (aI s m.at_ 9)):=⟨_,rfl⟩;have had:nS s m b=_:=nS.eq_1 s m b;rw[<-hm1]at n q hb1;simp only[<-hm1]at had;have hnx:I64 m.next:=hm.jM Yb;have hnt:m.took.next=m.next:=rfl;rw[hnt];generalize m.next=a0 at had hnx;clear hm1 hm hnt;subst hz;refine ab λz hz=>?_;have fin : ∀(a:Int) (m2:MS) (h':Heap) (ρ:Env),nS s m b=(a,m2)->I64 a->m2.ok (c+30)->b<m2.blocks.length->Nz s M vs W0 h' o0 m2 (.slice none 0 0) []->Lft.look ρ 0=some (.pointer (some ⟨M,0,none⟩))->Lft.look ρ 1=some (.int .i64 b)->Lft.look ρ 2=some (.bool store)->Lft.look ρ 6=some (.int .i64 a)->LC.wp Tryz.prog z (dW [] K) ρ h':=by
  intro a m2 h' ρ e ha q hb n r0 r1 r2 r6;subst hz;simp only[e]at hmm;refine ab λz hz=>?_;simp[af,ag,r0,r1,r2,r6];refine ah Ya (fu n q Yb (k:=4) Yc Yc) ?_;rintro _ h1 ⟨rfl,n⟩;simp[af,ag,r0,r1,r2,r6];subst hz;refine ab λz hz=>?_;have fin2 : ∀(i:Int) (m3:MS) (h':Heap) (ρ:Env),offS s m2=(i,m3)->(-2147483648<=i/\i<=2147483647)->m3.ok (c+40)->b<m3.blocks.length->Nz s M vs W0 h' o0 m3 (.slice none 0 0) []->Lft.look ρ 0=some (.pointer (some ⟨M,0,none⟩))->Lft.look ρ 1=some (.int .i64 b)->Lft.look ρ 2=some (.bool store)->Lft.look ρ 6=some (.int .i64 a)->Lft.look ρ 11=some (.int .i32 i)->LC.wp Tryz.prog z (dW [] K) ρ h':=by
   intro i m3 h' ρ e hi q hb n r0 r1 r2 r6 r11;subst hz;simp only[e]at hmm;refine ab λz hz=>?_;simp[af,ag,r0,r1,r2,r6,r11];subst hz;cases store with
   | true=>rw[if_pos rfl]at hmm;refine aD (by simp[af,ag,r2]) ?_;simp[af,ag,r0,r1,r2,r6,r11];refine ah Ya (iO n hb q Yb) ?_;rintro _ h1 ⟨⟨rfl,hs⟩,n⟩;refine n.lit (ls:=[a,(aK s m3 b).1]) Sa (by simp[ha,hs]) rfl Yc λua un uc h2 _ n=>?_;refine ay (z:=.agg #[.int .i64 0,.int .i64 0,.int .i64 0,.slice none 0 0,.int .i32 0]) (places:=[(0,1),(1,1),(2,1),(3,1),(4,1)]) (vs:=[(0,.int .i64 16),(3,.slice ua un uc),(4,.int .i32 i)]) (cs:=#[.int .i64 16,.int .i64 0,.int .i64 0,.slice ua un uc,.int .i32 i]) Ya Ya Sa Ya ?_;refine ah Ya (kT n (b:=b) (by rw[ey];exact hb) (q.aK (b:=b)) Yb i64c i64c i64c hi) ?_;rintro _ h3 n;refine hK _ _ ?_;rw[hmm];exact n
   | false=>rw[if_neg Sa]at hmm;refine aB (by simp[af,ag,r2]) ?_;simp[af,ag,r0,r1,r2,r6,r11];refine ah Ya (gS n q Yb) ?_;rintro _ h1 ⟨rfl,n⟩;refine n.lit (ls:=[a]) Sa (by simp[ha]) rfl Yc λua un uc h2 _ n=>?_;refine ay (z:=.agg #[.int .i64 0,.int .i64 0,.int .i64 0,.slice none 0 0,.int .i32 0]) (places:=[(0,1),(1,1),(2,1),(3,1),(4,1)]) (vs:=[(0,.int .i64 15),(1,.int .i64 m3.next),(3,.slice ua un uc),(4,.int .i32 i)]) (cs:=#[.int .i64 15,.int .i64 m3.next,.int .i64 0,.slice ua un uc,.int .i32 i]) Ya Ya Sa Ya ?_;refine ah Ya (kT n (b:=b) hb q.aL Yb i64c (q.jM Yb) i64c hi) ?_;rintro _ h3 n;refine hK _ _ ?_;rw[hmm];exact n
  have hof:offS s m2=_:=offS.eq_1 s m2;refine ab λy hy=>?_;simp[af,ag,r0,r1,r2,r6];refine ah Ya (fu n q.took Yb (k:=12) Yc Yc) ?_;rintro _ h2 ⟨rfl,n⟩;have hx:m2.took.at_=m2.at_+1:=rfl;rw[hx];simp[af,ag,r0,r1,r2,r6];subst hy;by_cases c12:aI s (m2.at_+1) 12=0
  ·rw[if_pos c12]at hof;refine aD (by simp[af,ag,c12]) ?_;simp[af,ag,r0,r1,r2,r6];refine ah Ya (xZ n q.took.took Yb) ?_;rintro _ h3 ⟨rfl,n⟩;exact fin2 _ _ h3 _ hof py (q.took.took.took.took.mono Yb) hb n (by simp[af,ag,r0]) (by simp[af,ag,r1]) (by simp[af,ag,r2]) (by simp[af,ag,r6]) (by simp[af,ag])
  rw[if_neg c12]at hof;refine aB (by simp[af,ag,c12]) ?_;simp[af,ag,r0,r1,r2,r6];exact fin2 _ _ h2 _ hof mg (q.took.took.mono Yb) hb n (by simp[af,ag,r0]) (by simp[af,ag,r1]) (by simp[af,ag,r2]) (by simp[af,ag,r6]) (by simp[af,ag])
 refine ab λy hy=>?_;simp;refine ah Ya (fu n q Yb (k:=3) Yc Yc) ?_;rintro _ h3 ⟨rfl,n⟩;simp;subst hy;by_cases c3:aI s m1.at_ 3=0
 ·rw[if_pos c3]at had;refine aD (by simp[c3]) ?_;refine ab λy hy=>?_;simp;refine ah Ya (iO n (b:=b) hb1 q.took Yb) ?_;rintro _ h4 ⟨⟨rfl,hs⟩,n⟩;have q:=q.took.aK (s:=s) (b:=b);have hb2:b<(aK s m1.took b).2.blocks.length:=by rw[ey];exact hb1
  generalize aK s m1.took b=r at had hs n q hb2;subst hy;refine ab λy hy=>?_;simp;refine ah Ya (gI n (b:=b) hb2 q Yb (k:=7) Yc) ?_;rintro _ h5 ⟨rfl,n⟩;subst hy;refine ab λy hy=>?_;simp;have q5:=q.constant (b:=b) (n:=7);refine ah Ya (gS n q5 Yb) ?_;rintro _ h6 ⟨rfl,n⟩;have hn5:(r.2.constant b 7).next=r.2.next+1:=rfl;rw[hn5];subst hy;refine ab λy hy=>?_;simp;have i5:=q5.jM Yb;rw[hn5]at i5;refine n.lit (ls:=[r.1,r.2.next]) Sa (by simp[hs,q.jM (by omega:c+1+3+1+10<=1000000)]) rfl Yc λua un uc h7 _ n=>?_;refine ay (z:=.agg #[.int .i64 0,.int .i64 0,.int .i64 0,.slice none 0 0,.int .i32 0]) (places:=[(0,1),(1,1),(2,1),(3,1),(4,1)]) (vs:=[(0,.int .i64 5),(1,.int .i64 (r.2.next+1)),(3,.slice ua un uc)]) (cs:=#[.int .i64 5,.int .i64 (r.2.next+1),.int .i64 0,.slice ua un uc,.int .i32 0]) Ya Ya Sa Ya ?_;refine ah Ya (kT n (b:=b) (imm:=0) (by rw[show(r.2.constant b 7).aL.blocks=(r.2.constant b 7).blocks from rfl,eh];exact hb2) q5.aL Yb i64c i5 i64c Yc) ?_;rintro _ h8 n;have n:Nx s M vs W0 h8 o0 ((r.2.constant b 7).two b 5 r.1 r.2.next):=n;have q6:=q5.two (b:=b) (op:=5) (x:=r.1) (y:=r.2.next);have hb3:b<((r.2.constant b 7).two b 5 r.1 r.2.next).blocks.length:=by rw[nu,eh];exact hb2
  generalize (r.2.constant b 7).two b 5 r.1 r.2.next=m3 at had n q6 hb3;have n:=n.z;subst hy;refine ab λy hy=>?_;simp;refine ah Ya (gS n q6 Yb) ?_;rintro _ h9 ⟨rfl,n⟩;subst hy;refine ab λy hy=>?_;simp;refine n.lit (ls:=[a0,r.2.next+1]) Sa (by simp[hnx,i5]) rfl Yc λua2 un2 uc2 h10 _ n=>?_;refine ay (z:=.agg #[.int .i64 0,.int .i64 0,.int .i64 0,.slice none 0 0,.int .i32 0]) (places:=[(0,1),(1,1),(2,1),(3,1),(4,1)]) (vs:=[(0,.int .i64 2),(1,.int .i64 m3.next),(3,.slice ua2 un2 uc2)]) (cs:=#[.int .i64 2,.int .i64 m3.next,.int .i64 0,.slice ua2 un2 uc2,.int .i32 0]) Ya Ya Sa Ya ?_;refine ah Ya (kT n (b:=b) (imm:=0) hb3 q6.aL Yb i64c (q6.jM Yb) i64c Yc) ?_;rintro _ h11 n;subst hy;simp;refine fin m3.next (m3.two b 2 a0 (r.2.next+1)) h11 _ had (q6.jM Yb) (q6.two.mono Yb) (by rw[nu];exact hb3) n.z ?_ ?_ ?_ ?_;all_goals simp
 rw[if_neg c3]at had;refine aB (by simp[c3]) ?_;simp;exact fin a0 m1.took h3 _ had hnx (q.took.mono Yb) hb1 n Sa Sa Sa Sa
section
variable {s:List Int} {M:Nat} {vs:Value} {W0:View} {h:Heap} {o0:Own} {m:MS} {u:Value} {ds:List Int}
theorem Nz.le (n:Nz s M vs W0 h o0 m u ds):W0.le (vw h):=by obtain⟨W,o,h1,h2,_⟩:=n;exact View.le_trans h1 h2.own.wle
theorem Nz.base(n:Nz s M vs W0 h o0 m u ds): ∃W o,Nz s M vs W h o m u ds/\SlRd W u ds/\∀{h' m' u' ds'},Nz s M vs W h' o m' u' ds'->Nz s M vs W0 h' o0 m' u' ds':=by obtain⟨W,o,h1,h2,h3,h4⟩:=n;refine⟨W,o,⟨W,o,View.le_refl _,h2,λ_ _=>rfl,h4⟩,h4,?_⟩;rintro h' m' u' ds' ⟨W',o',g1,g2,g3,g4⟩;exact⟨W',o',View.le_trans h1 g1,g2,λk hk=>(g3 k hk).trans (h3 k hk),g4⟩
end
theorem AR{H:View}{B n:Nat}{l:List Int}{t:TypeId}(hb:H B=some (.cells (l.map λx=>Value.int .i64 x).toArray t (0,0)))(hn:l.length=n)(h1:0<n/\n<=1000)(hr : ∀x∈l,I64 x):SlRd H (.slice (some ⟨B,0,none⟩) n n) l:=by
 refine⟨some ⟨B,0,none⟩,n,by rw[hn],by omega,by omega,.inr ⟨⟨B,0,none⟩,rfl,rfl,λi hi=>?_⟩⟩;have e:(⟨B,0,none⟩:Addr).add (i*Rep.n Int)=⟨B,i,none⟩:=by show(⟨B,0,none⟩:Addr).add (i*1)=_;simp
 rw[e];refine⟨[.int .i64 l[i]],⟨_,t,(0,0),rfl,hb,?_⟩,(bK (v:=.int .i64 l[i]) (H:=H)).2 ⟨rfl,hr _ (LX hi)⟩ |> λq=>?_⟩
 ·show((l.map λx=>Value.int .i64 x).toArray.toList.drop i).take 1=_;rw[List.toList_toArray,LU (by simpa using hi)];simp
 exact⟨rfl,hr _ (LX hi)⟩
theorem Fh: ∀x∈opsL,I64 x:=by
 intro x hx;have : ∀x∈opsL,0<=x/\x<=12:=by decide
 have:=this x hx;exact⟨by omega,by omega⟩
variable{vb vl:Value}{lb:List BlkM}
theorem MkB.frame{M:Nat}{m:MS}{o o':Own}(b:MkB M vs m o vb vl lb)(hf : ∀k:Key,k.1<3->o' k=o k):MkB M vs m o' vb vl lb:=
 ⟨(hf _ Yc).trans b.box,(hf _ Yc).trans b.live,(hf _ Yc).trans b.blk,b.len,b.term,λi hi=>(hf _ (by show 1<3;decide)).trans (b.phis i hi),λi hi=>(hf _ (by show 2<3;decide)).trans (b.ins i hi)⟩
theorem yT{s:List Int}{x:List Int × MS}: ∀k,(up (iy s b) k x).2.blocks.length=x.2.blocks.length:=by
 intro k;induction k with
 | zero=>rfl
 | succ k ih=>show(aK s (up (iy s b) k x).2 b).2.blocks.length=_;rw[ey,ih]
theorem Cz{s:List Int}{c:Nat}{x:List Int × MS}(hx:x.2.ok c): ∀k,(up (iy s b) k x).2.ok (c+10*k)/\(up (iy s b) k x).1.length=x.1.length+k/\(up (iy s b) k x).2.blocks.length=x.2.blocks.length:=by
 intro k;induction k with
 | zero=>exact⟨hx,rfl,rfl⟩
 | succ k ih=>
  obtain⟨h1,h2,h3⟩:=ih;refine⟨(h1.aK).mono Yb,?_,?_⟩
  ·show((up (iy s b) k x).1++[_]).length=_;rw[Lv,h2,LO];omega
  show(aK s (up (iy s b) k x).2 b).2.blocks.length=_;rw[ey,h3]
theorem uI{s:List Int}{M:Nat}{W0:View}{h:Heap}{o0:Own}{m:MS}(n:Nx s M vs W0 h o0 m){c:Nat}(hb:b<m.blocks.length)(hm:m.ok c)(hc:c<=800000)(hfree:o0 (9,0)=none):
  az Tryz.prog N.aG #[.pointer (some ⟨M,0,none⟩),.int .i64 b] h (λv h'=>Nx s M vs W0 h' o0 (aU s b m)):=by
 refine aw (args:=[.pointer (some ⟨M,0,none⟩),.int .i64 b]) follows F.aG E.aG (Lm Ya) λK hK=>?_;dsimp only[L.aG,lkF,lkG];have n:=n.z;have hmm:aU s b m=_:=aU.eq_1 s b m;refine ab λz hz=>?_;simp;refine ah Ya (fu n hm Yb (k:=20) Yc Yc) ?_;rintro _ h1 ⟨rfl,n⟩;obtain⟨k0,k1⟩:=cS (s:=s) (at_:=m.at_) (n:=20) Yc;have q:=hm.took;have hb1:b<m.took.blocks.length:=hb;subst hz;generalize aI s m.at_ 20=k at hmm k0 k1;generalize hm1:m.took=m1 at hmm n q hb1;have hw:kJ s m1=kJ s m1:=rfl;simp only[aN];refine ab λz hz=>?_;simp;subst hz;by_cases c1:k<12
 ·rw[if_pos c1]at hmm;refine aD (by simp[c1]) ?_;obtain⟨kn,rfl⟩ : ∃kn:Nat,k=kn:=⟨k.toNat,by omega⟩;have hkn:kn<12:=by omega
  refine ab λz hz=>?_;simp;have hcs:(#[.int .i64 2,.int .i64 2,.int .i64 3,.int .i64 4,.int .i64 5,.int .i64 6,.int .i64 7,.int .i64 8,.int .i64 9,.int .i64 10,.int .i64 12,.int .i64 11]:Array Value)=(opsL.map λx=>Value.int .i64 x).toArray:=rfl;refine ay (z:=.agg #[.int .i64 0,.int .i64 0,.int .i64 0,.int .i64 0,.int .i64 0,.int .i64 0,.int .i64 0,.int .i64 0,.int .i64 0,.int .i64 0,.int .i64 0,.int .i64 0]) (places:=[(0,1),(1,1),(2,1),(3,1),(4,1),(5,1),(6,1),(7,1),(8,1),(9,1),(10,1),(11,1)]) (vs:=[(0,.int .i64 2),(1,.int .i64 2),(2,.int .i64 3),(3,.int .i64 4),(4,.int .i64 5),(5,.int .i64 6),(6,.int .i64 7),(7,.int .i64 8),(8,.int .i64 9),(9,.int .i64 10),(10,.int .i64 12),(11,.int .i64 11)])
   (cs:=#[.int .i64 2,.int .i64 2,.int .i64 3,.int .i64 4,.int .i64 5,.int .i64 6,.int .i64 7,.int .i64 8,.int .i64 9,.int .i64 10,.int .i64 12,.int .i64 11]) Ya Ya Sa Ya ?_;refine gM (v:=.agg #[.int .i64 2,.int .i64 2,.int .i64 3,.int .i64 4,.int .i64 5,.int .i64 6,.int .i64 7,.int .i64 8,.int .i64 9,.int .i64 10,.int .i64 12,.int .i64 11]) (z:=.agg #[.int .i64 0,.int .i64 0,.int .i64 0,.int .i64 0,.int .i64 0,.int .i64 0,.int .i64 0,.int .i64 0,.int .i64 0,.int .i64 0,.int .i64 0,.int .i64 0]) (n:=12) Ya rfl Ya rfl (by simp[Value.cells,Value.oneCell']) (λ_=>by simp) (λ_=>by simp) λh2 hle2 hs2 hb2=>?_
  have n:Nz s M vs W0 h2 o0 m1 (.slice (some ⟨h1.size,0,none⟩) 12 12) opsL:=by
   obtain⟨W,o,g1,g2,g3,g4⟩:=n;refine⟨_,o,View.le_trans g1 (bP g2.own.wle),⟨g2.own.ext hle2,g2.src.mono (bP g2.own.wle),g2.box⟩,g3,?_⟩;have hg:grow W h1 h2 h1.size=some (.cells (opsL.map λx=>Value.int .i64 x).toArray T.Hb (0,0)):=by rw[cI (Lp _),hb2];rfl
   exact AR hg rfl Yc Fh
  generalize h1.size=B at n;subst hz;refine ab λz hz=>?_;simp;refine ah Ya (iO n hb1 q Yb) ?_;rintro _ h3 ⟨⟨rfl,i2⟩,n⟩;have q:=q.aK (s:=s) (b:=b);have hb2:b<(aK s m1 b).2.blocks.length:=by rw[ey];exact hb1
  simp only[binS]at hmm;generalize aK s m1 b=r1 at hmm n q hb2 i2;subst hz;refine ab λz hz=>?_;simp;refine ah Ya (iO n hb2 q Yb) ?_;rintro _ h4 ⟨⟨rfl,i3⟩,n⟩;have q:=q.aK (s:=s) (b:=b);have hb3:b<(aK s r1.2 b).2.blocks.length:=by rw[ey];exact hb2
  generalize aK s r1.2 b=r2 at hmm n q hb3 i3;subst hz;refine ab λz hz=>?_;have fin : ∀(e:Int) (m3:MS) (h':Heap) (ρ:Env),aU s b m=m3.two b (nth opsL kn) r1.1 e->I64 e->m3.ok (c+60)->b<m3.blocks.length->Nz s M vs W0 h' o0 m3 (.slice (some ⟨B,0,none⟩) 12 12) opsL->Lft.look ρ 0=some (.pointer (some ⟨M,0,none⟩))->Lft.look ρ 1=some (.int .i64 b)->Lft.look ρ 4=some (.int .i64 kn)->Lft.look ρ 5=some (.pointer (some ⟨B,0,none⟩))->Lft.look ρ 6=some (.int .i64 r1.1)->Lft.look ρ 7=some (.int .i64 e)->LC.wp Tryz.prog z (fN 0 (dW [] K)) ρ h':=by
   intro e m3 h' ρ hmm ie q hb n r0 r1' r4 r5 r6 r7;subst hz;obtain⟨W,o,n,sl,back⟩:=n.base;have iop:=sl.range (i:=kn) (by show kn<12;omega);have hop:ao W ⟨B,kn,none⟩=some (.int .i64 (nth opsL kn)):=by have:=sl.int (View.le_refl W) (i:=kn) (by show kn<12;omega);simpa[slA]using this
   have hix:Bn.ev (.aidx 12 1) (.pointer (some ⟨B,0,none⟩)) (.int .i64 kn)=some (.pointer (some ⟨B,kn,none⟩)):=by simp only[Bn.ev,vP,vI,LI];rw[if_pos ⟨by omega,by omega⟩];simp
   generalize nth opsL kn=op at hmm iop hop;refine aP W n.le ?_;simp[af,ag,r0,r1',r4,r5,r6,r7,hix,hop];constructor
   ·refine ah Ya (gS n q Yb) ?_;rintro _ h4 ⟨rfl,n⟩;refine⟨n.le,?_⟩;refine n.lit (ls:=[r1.1,e]) Sa (by simp[i2,ie]) rfl Yc λua un uc h5 _ n=>⟨n.le,?_⟩;refine ay (z:=.agg #[.int .i64 0,.int .i64 0,.int .i64 0,.slice none 0 0,.int .i32 0]) (places:=[(0,1),(1,1),(2,1),(3,1),(4,1)]) (vs:=[(0,.int .i64 op),(1,.int .i64 m3.next),(3,.slice ua un uc)]) (cs:=#[.int .i64 op,.int .i64 m3.next,.int .i64 0,.slice ua un uc,.int .i32 0]) Ya Ya Sa Ya ?_;refine ah Ya (kT n (b:=b) hb q.aL Yb iop (q.jM Yb) i64c Yc) ?_;rintro _ h6 n;exact hK _ _ (by rw[hmm];exact(back n.z).x)
   refine n.lit (ls:=[r1.1,e]) Sa (by simp[i2,ie]) rfl Yc λua un uc h5 _ n=>⟨n.le,?_⟩;refine ah Ya (gS n q Yb) ?_;rintro _ h4 ⟨rfl,n⟩;refine⟨n.le,?_⟩;refine ay (z:=.agg #[.int .i64 0,.int .i64 0,.int .i64 0,.slice none 0 0,.int .i32 0]) (places:=[(0,1),(1,1),(2,1),(3,1),(4,1)]) (vs:=[(0,.int .i64 op),(1,.int .i64 m3.next),(3,.slice ua un uc)]) (cs:=#[.int .i64 op,.int .i64 m3.next,.int .i64 0,.slice ua un uc,.int .i32 0]) Ya Ya Sa Ya ?_;refine ah Ya (kT n (b:=b) hb q.aL Yb iop (q.jM Yb) i64c Yc) ?_;rintro _ h6 n;exact hK _ _ (by rw[hmm];exact(back n.z).x)
  refine ab λy hy=>?_;simp;refine ah Ya (fu n q Yb (k:=3) Yc Yc) ?_;rintro _ h5 ⟨rfl,n⟩;simp;subst hy;by_cases c4:aI s r2.2.at_ 3=0
  ·rw[if_pos c4]at hmm;refine aD (by simp[c4]) ?_;simp;refine ah Ya (fu n q.took Yb (k:=40) Yc Yc) ?_;rintro _ h6 ⟨rfl,n⟩;have hx:r2.2.took.at_=r2.2.at_+1:=rfl;rw[hx];simp;refine ah Ya (gI n (b:=b) hb3 q.took.took Yb (k:=IntKind.i32.wrap (IntKind.i64.wrap (aI s (r2.2.at_+1) 40-8))) mg) ?_;rintro _ h7 ⟨rfl,n⟩;refine fin r2.2.next _ h7 _ hmm (q.jM Yb) (q.took.took.constant.mono Yb) (by rw[eh];exact hb3) n ?_ ?_ ?_ ?_ ?_ ?_;all_goals simp
   rfl
  rw[if_neg c4]at hmm;refine aB (by simp[c4]) ?_;simp;refine fin r2.1 _ h5 _ hmm i3 (q.took.mono Yb) hb3 n ?_ ?_ ?_ ?_ ?_ ?_;all_goals simp
 rw[if_neg c1]at hmm;refine aB (by simp[c1]) ?_;refine ab λz hz=>?_;simp;subst hz;by_cases c2:k=12
 ·rw[if_pos c2]at hmm;refine aD (by simp[c2]) ?_;refine ab λz hz=>?_;simp;refine ah Ya (iO n hb1 q Yb) ?_;rintro _ h2 ⟨⟨rfl,i2⟩,n⟩;have q:=q.aK (s:=s) (b:=b);have hb2:b<(aK s m1 b).2.blocks.length:=by rw[ey];exact hb1
  simp only[ltuS]at hmm;generalize aK s m1 b=r1 at hmm n q hb2 i2;subst hz;refine ab λz hz=>?_;simp;refine ah Ya (iO n hb2 q Yb) ?_;rintro _ h3 ⟨⟨rfl,i3⟩,n⟩;have q:=q.aK (s:=s) (b:=b);have hb3:b<(aK s r1.2 b).2.blocks.length:=by rw[ey];exact hb2
  generalize aK s r1.2 b=r2 at hmm n q hb3 i3;subst hz;simp;refine ah Ya (gS n q Yb) ?_;rintro _ h4 ⟨rfl,n⟩;refine n.lit (ls:=[r1.1,r2.1]) Sa (by simp[i2,i3]) rfl Yc λua un uc h5 _ n=>?_;refine ay (z:=.agg #[.int .i64 0,.int .i64 0,.int .i64 0,.slice none 0 0,.int .i32 0]) (places:=[(0,1),(1,1),(2,1),(3,1),(4,1)]) (vs:=[(0,.int .i64 13),(1,.int .i64 r2.2.next),(3,.slice ua un uc)]) (cs:=#[.int .i64 13,.int .i64 r2.2.next,.int .i64 0,.slice ua un uc,.int .i32 0]) Ya Ya Sa Ya ?_;refine ah Ya (kT n (b:=b) hb3 q.aL Yb i64c (q.jM Yb) i64c Yc) ?_;rintro _ h6 n;exact hK _ _ (by rw[hmm];exact n)
 rw[if_neg c2]at hmm;refine aB (by simp[c2]) ?_;refine ab λz hz=>?_;simp;subst hz;by_cases c3:k=13
 ·rw[if_pos c3]at hmm;refine aD (by simp[c3]) ?_;refine ab λz hz=>?_;simp;refine ah Ya (iO n hb1 q Yb) ?_;rintro _ h2 ⟨⟨rfl,i2⟩,n⟩;have q:=q.aK (s:=s) (b:=b);have hb2:b<(aK s m1 b).2.blocks.length:=by rw[ey];exact hb1
  simp only[divS]at hmm;generalize aK s m1 b=r1 at hmm n q hb2 i2;subst hz;refine ab λz hz=>?_;simp;refine ah Ya (fu n q Yb (k:=12) Yc Yc) ?_;rintro _ h3 ⟨rfl,n⟩;simp;refine ah Ya (gI n (b:=b) hb2 q.took Yb (k:=IntKind.i32.wrap (aI s r1.2.at_ 12)) mg) ?_;rintro _ h4 ⟨rfl,n⟩;have i4:I64 r1.2.took.next:=q.took.jM Yb;have q:=q.took.constant (b:=b) (n:=IntKind.i32.wrap (aI s r1.2.at_ 12));have hb3:b<(r1.2.took.constant b (IntKind.i32.wrap (aI s r1.2.at_ 12))).blocks.length:=by rw[eh];exact hb2
  have ht:r1.2.took.next=r1.2.next:=rfl;rw[ht]at i4 ⊢;generalize r1.2.took.constant b (IntKind.i32.wrap (aI s r1.2.at_ 12))=m2 at hmm n q hb3;generalize r1.2.next=d at hmm i4;subst hz;refine ab λz hz=>?_;have fin : ∀(e:Int) (m3:MS) (h':Heap) (ρ:Env),aU s b m=m3.two b 14 r1.1 e->I64 e->m3.ok (c+60)->b<m3.blocks.length->Nz s M vs W0 h' o0 m3 (.slice none 0 0) []->Lft.look ρ 0=some (.pointer (some ⟨M,0,none⟩))->Lft.look ρ 1=some (.int .i64 b)->Lft.look ρ 10=some (.int .i64 r1.1)->Lft.look ρ 11=some (.int .i64 e)->LC.wp Tryz.prog z (fN 0 (dW [] K)) ρ h':=by intro e m3 h' ρ hmm ie q hb n r0 r1' r10 r11;subst hz;simp[af,ag,r0,r1',r10,r11];refine ah Ya (gS n q Yb) ?_;rintro _ h4 ⟨rfl,n⟩;refine n.lit (ls:=[r1.1,e]) Sa (by simp[i2,ie]) rfl Yc λua un uc h5 _ n=>?_;refine ay (z:=.agg #[.int .i64 0,.int .i64 0,.int .i64 0,.slice none 0 0,.int .i32 0]) (places:=[(0,1),(1,1),(2,1),(3,1),(4,1)]) (vs:=[(0,.int .i64 14),(1,.int .i64 m3.next),(3,.slice ua un uc)]) (cs:=#[.int .i64 14,.int .i64 m3.next,.int .i64 0,.slice ua un uc,.int .i32 0]) Ya Ya Sa Ya ?_;refine ah Ya (kT n (b:=b) hb q.aL Yb i64c (q.jM Yb) i64c Yc) ?_;rintro _ h6 n;exact hK _ _ (by rw[hmm];exact n)
  refine ab λy hy=>?_;simp;refine ah Ya (fu n q Yb (k:=3) Yc Yc) ?_;rintro _ h5 ⟨rfl,n⟩;simp;subst hy;by_cases c4:0<aI s m2.at_ 3
  ·rw[if_pos c4]at hmm;refine aD (by simp[c4]) ?_;simp;refine ah Ya (fu n q.took Yb (k:=12) Yc Yc) ?_;rintro _ h6 ⟨rfl,n⟩;have hx:m2.took.at_=m2.at_+1:=rfl;rw[hx];simp;refine ah Ya (gI n (b:=b) hb3 q.took.took Yb (k:=IntKind.i32.wrap (1+IntKind.i32.wrap (aI s (m2.at_+1) 12))) mg) ?_;rintro _ h7 ⟨rfl,n⟩;refine fin m2.next _ h7 _ hmm (q.jM Yb) (q.took.took.constant.mono Yb) (by rw[eh];exact hb3) n ?_ ?_ ?_ ?_;all_goals simp
   rfl
  rw[if_neg c4]at hmm;refine aB (by simp[c4]) ?_;simp;refine fin d _ h5 _ hmm i4 (q.took.mono Yb) hb3 n ?_ ?_ ?_ ?_;all_goals simp
 rw[if_neg c3]at hmm;refine aB (by simp[c3]) ?_;refine ab λz hz=>?_;simp;subst hz;by_cases c4:k<16
 ·rw[if_pos c4]at hmm;refine aD (by simp[c4]) ?_;simp;refine ah Ya (DV n.x (store:=decide (k=15)) hb1 q Yb) ?_;rintro _ h2 n;exact hK _ _ (by rw[hmm];exact n)
 rw[if_neg c4]at hmm;refine aB (by simp[c4]) ?_;refine ab λz hz=>?_;simp;subst hz;by_cases c5:k=16
 ·rw[if_pos c5]at hmm;refine aD (by simp[c5]) ?_;refine ab λz hz=>?_;simp;obtain⟨W,o,g1,w,f,-⟩:=n;have hk9:o (9,0)=none:=(f _ Yc).trans hfree;refine w.own.fe (k:=(9,0)) (α:=Int) hk9 El.aY λv h2 hle2 hv w2 _=>?_;have w2:Mk s M vs W h2 (o.upd (9,0) (it T.int v ([]:List Int))) m1:=by obtain⟨vb,vl,lb,bb⟩:=w.box;exact⟨w2,w.src,vb,vl,lb,bb.frame λk hk=>Own.ak (by rintro rfl;simp at hk)⟩
  subst hz;refine ab λz hz=>?_;simp;refine ah Ya (w2.take (by have:=q.at_;omega) (n:=5) Yc Yc) ?_;rintro _ h3 ⟨rfl,o3,w3,f3⟩;simp only[nN]at hmm;have q:=q.took;have hb2:b<m1.took.blocks.length:=hb1;obtain⟨t0,t1⟩:=cS (s:=s) (at_:=m1.at_) (n:=5) Yc;generalize aI s m1.at_ 5=t at hmm t0 t1;obtain⟨tn,rfl⟩ : ∃tn:Nat,t=tn:=⟨t.toNat,by omega⟩;rw[show((tn:Int)).toNat=tn by omega]at hmm;have hup:=Cz (s:=s) (b:=b) (x:=([],m1.took)) q;generalize m1.took=m2 at hmm q hb2 hup w3;subst hz;refine ab λz hz=>?_;simp;refine dR [0,1,4,12,13,14] (fun(v:Value) i=>[.pointer (some ⟨M,0,none⟩),.int .i64 b,.int .i64 k,v,.int .i64 tn,.int .i64 i]) (λv i h4=>∃W' o',W0.le W'/\Mk s M vs W' h4 o' (up (iy s b) i ([],m2)).2/\o' (9,0)=it T.int v (up (iy s b) i ([],m2)).1/\∀q:Key,3<=q.1->q≠(9,0)->o' q=o0 q) tn v
   rfl Yb rfl ⟨W,o3,g1,w3,(f3 _ Yc).trans Own.aj,λq h1 h2=>(f3 q h1).trans ((Own.ak h2).trans (f q h1))⟩ (λ_ _=>rfl) (λv k h hk m=>by simp) ?_ ?_
  ·rintro v i h4 hlt ⟨W4,o4,g4,w4,e4,f4⟩ K2 hK2;obtain⟨qi,li,bi⟩:=hup i;have e5:up (iy s b) (i+1) ([],m2)=((up (iy s b) i ([],m2)).1++[(aK s (up (iy s b) i ([],m2)).2 b).1],(aK s (up (iy s b) i ([],m2)).2 b).2):=rfl;have hb4:b<(up (iy s b) i ([],m2)).2.blocks.length:=by rw[bi];exact hb2
   generalize up (iy s b) i ([],m2)=x at w4 e4 e5 qi li bi hb4;have li:x.1.length=i:=by simpa using li
   simp;refine ah Ya (Ca w4 hb4 qi Yb) ?_;rintro _ h5 ⟨rfl,i5,W5,o5,g5,w5,f5⟩;have e6:o5 (9,0)=it T.int v x.1:=(f5 _ Yc).trans e4;refine w5.own.ib (k:=(9,0)) (α:=Int) (d:=(aK s x.2 b).1) e6 El.aY rfl (bK.2 ⟨rfl,i5⟩) Yb Yb (λ_=>rfl) (λ_=>rfl) λu v' h6 w6 _=>?_;refine hK2 v' _ _ rfl rfl ⟨W5,_,View.le_trans g4 g5,⟨w6,w5.src,?_⟩,?_,?_⟩
   ·obtain⟨vb,vl,lb,bb⟩:=w5.box;rw[e5];exact⟨vb,vl,lb,bb.frame λk hk=>Own.ak (by rintro rfl;simp at hk)⟩
   ·rw[e5];exact Own.aj
   intro q h1 h2;exact(Own.ak h2).trans ((f5 q h1).trans (f4 q h1 h2))
  rintro v h4 ⟨W4,o4,g4,w4,e4,f4⟩;obtain⟨qi,li,bi⟩:=hup tn;have hb4:b<(up (iy s b) tn ([],m2)).2.blocks.length:=by rw[bi];exact hb2
  generalize up (iy s b) tn ([],m2)=x at w4 e4 qi li bi hb4 hmm;obtain⟨w5,sl⟩:=w4.own.freeze e4;have sl2:=sl;obtain⟨ua,uc,rfl,_⟩:=sl2;have hWp:=eM (h:=h4) (w4.own.av _ _ e4);have n:Nz s M vs W0 h4 o0 x.2 (.slice ua x.1.length uc) x.1:=by
   obtain⟨vb,vl,lb,bb⟩:=w4.box;refine⟨_,_,View.le_trans g4 hWp,⟨w5,w4.src.mono hWp,vb,vl,lb,bb.frame λk hk=>Own.ak (by rintro rfl;simp at hk)⟩,λq h1=>?_,sl⟩;by_cases e:q=(9,0)
   ·rw[e,Own.aj,hfree]
   exact(Own.ak e).trans (f4 q h1 e)
  generalize x.1.length=un at n;simp;subst hz;simp;refine ah Ya (gS n qi Yb) ?_;rintro _ h5 ⟨rfl,n⟩;refine ah Ya (fu n qi.aL Yb (k:=5) Yc Yc) ?_;rintro _ h6 ⟨rfl,n⟩;have hx:x.2.aL.at_=x.2.at_:=rfl;rw[hx];simp;refine ay (z:=.agg #[.int .i64 0,.int .i64 0,.int .i64 0,.slice none 0 0,.int .i32 0]) (places:=[(0,1),(1,1),(2,1),(3,1),(4,1)]) (vs:=[(0,.int .i64 17),(1,.int .i64 x.2.next),(3,.slice ua un uc),(4,.int .i32 (IntKind.i32.wrap (aI s x.2.at_ 5)))]) (cs:=#[.int .i64 17,.int .i64 x.2.next,.int .i64 0,.slice ua un uc,.int .i32 (IntKind.i32.wrap (aI s x.2.at_ 5))]) Ya Ya Sa Ya ?_;refine ah Ya (kT n (b:=b) hb4 qi.aL.took Yb i64c (qi.jM Yb) i64c mg) ?_;rintro _ h7 n;exact hK _ _ (by rw[hmm];exact n)
 rw[if_neg c5]at hmm;refine aB (by simp[c5]) ?_;refine ab λz hz=>?_;simp;subst hz;by_cases c6:k=17
 ·rw[if_pos c6]at hmm;refine aD (by simp[c6]) ?_;refine ab λz hz=>?_;simp;refine ah Ya (iO n hb1 q Yb) ?_;rintro _ h2 ⟨⟨rfl,i2⟩,n⟩;have q:=q.aK (s:=s) (b:=b);have hb2:b<(aK s m1 b).2.blocks.length:=by rw[ey];exact hb1
  simp only[xu]at hmm;generalize aK s m1 b=r1 at hmm n q hb2 i2;subst hz;refine ab λz hz=>?_;simp;refine ah Ya (iO n hb2 q Yb) ?_;rintro _ h3 ⟨⟨rfl,i3⟩,n⟩;have q:=q.aK (s:=s) (b:=b);have hb3:b<(aK s r1.2 b).2.blocks.length:=by rw[ey];exact hb2
  generalize aK s r1.2 b=r2 at hmm n q hb3 i3;subst hz;refine ab λz hz=>?_;simp;refine ah Ya (gS n q Yb) ?_;rintro _ h4 ⟨rfl,n⟩;subst hz;simp;refine ah Ya (gS n q.aL Yb) ?_;rintro _ h5 ⟨rfl,n⟩;have hx:r2.2.aL.next=r2.2.next+1:=rfl;rw[hx];have j5:=q.aL.jM Yb;rw[hx]at j5;refine n.lit (ls:=[r1.1,r2.1]) Sa (by simp[i2,i3]) rfl Yc λua un uc h5 _ n=>?_;refine ay (z:=.agg #[.int .i64 0,.int .i64 0,.int .i64 0,.slice none 0 0,.int .i32 0]) (places:=[(0,1),(1,1),(2,1),(3,1),(4,1)]) (vs:=[(0,.int .i64 18),(1,.int .i64 r2.2.next),(2,.int .i64 (r2.2.next+1)),(3,.slice ua un uc)]) (cs:=#[.int .i64 18,.int .i64 r2.2.next,.int .i64 (r2.2.next+1),.slice ua un uc,.int .i32 0]) Ya Ya Sa Ya ?_;refine ah Ya (kT n (b:=b) hb3 q.aL.aL Yb i64c (q.jM Yb) j5 Yc) ?_;rintro _ h6 n;exact hK _ _ (by rw[hmm];exact n)
 rw[if_neg c6]at hmm;refine aB (by simp[c6]) ?_;simp;refine ah Ya (xZ n q Yb) ?_;rintro _ h2 ⟨rfl,n⟩;refine ah Ya (gI n (b:=b) hb1 q.took.took Yb (k:=kJ s m1) py) ?_;rintro _ h3 ⟨rfl,n⟩;exact hK _ _ (by rw[hmm];exact n.x)
section
variable {s:List Int} {m:MS} {b c:Nat}
theorem nh:m.took.blocks.length=m.blocks.length:=rfl
theorem oQ:m.aL.blocks.length=m.blocks.length:=rfl
theorem MS.ok.addr(h:m.ok c):(nS s m b).2.ok (c+30):=by
 unfold nS;simp only;split
 ·exact((((h.took.constant).took.aK).constant).two.two).mono Yb
 exact(h.took.constant.took).mono Yb
theorem FR:(nS s m b).2.blocks.length=m.blocks.length:=by unfold nS;simp only;split<;>simp[nu,eh,ey,nh]
theorem MS.ok.off(h:m.ok c):(offS s m).2.ok (c+4):=by
 unfold offS;split
 ·exact h.took.took.took.took
 exact h.took.took.mono Yb
theorem Gh:(offS s m).2.blocks.length=m.blocks.length:=by unfold offS;split<;>rfl
theorem MS.ok.memory{st:Bool}(h:m.ok c):(jl s m b st).ok (c+60):=by
 unfold jl;simp only;split
 ·exact(((h.addr).off.aK).add).mono Yb
 exact(((h.addr).off.aL).add).mono Yb
theorem Bs{st:Bool}:(jl s m b st).blocks.length=m.blocks.length:=by unfold jl;simp only;split<;>simp[mj,ey,Gh,FR,oQ]
theorem MS.ok.bin(h:m.ok c):(binS s m b op).ok (c+60):=by
 unfold binS;simp only;split
 ·exact((h.aK.aK).took.took.constant.two).mono Yb
 exact((h.aK.aK).took.two).mono Yb
theorem Gk:(binS s m b op).blocks.length=m.blocks.length:=by unfold binS;simp only;split<;>simp[nu,eh,ey,nh]
theorem MS.ok.div(h:m.ok c):(divS s m b).ok (c+60):=by
 unfold divS;simp only;split
 ·exact((h.aK).took.constant.took.took.constant.two).mono Yb
 exact((h.aK).took.constant.took.two).mono Yb
theorem HE:(divS s m b).blocks.length=m.blocks.length:=by unfold divS;simp only;split<;>simp[nu,eh,ey,nh]
theorem MS.ok.nN (h:m.ok c):(nN s m b).ok (c+70):=by unfold Go.Proofs.YtnfiilgdjpdlkaaGreatDoor.nN;simp only;have ht:=cS (s:=s) (at_:=m.at_) (n:=5) Yc;have:=(Cz (s:=s) (b:=b) (x:=([],m.took)) h.took (aI s m.at_ 5).toNat).1;exact(this.aL.took.add).mono Yb
theorem FM:(nN s m b).blocks.length=m.blocks.length:=by unfold nN;simp only;rw[mj,nh,oQ];exact yT (s:=s) (b:=b) (x:=([],m.took)) _
theorem MS.ok.jy(h:m.ok c):(aU s b m).ok (c+80):=by
 unfold aU;simp only;repeat' split
 ·exact h.took.bin.mono Yb
 ·unfold ltuS;exact(h.took.aK.aK.two).mono Yb
 ·exact h.took.div.mono Yb
 ·exact h.took.memory.mono Yb
 ·exact h.took.nN.mono Yb
 ·unfold xu;exact(h.took.aK.aK.aL.aL.add).mono Yb
 exact h.took.took.took.constant.mono Yb
theorem nP:(aU s b m).blocks.length=m.blocks.length:=by
 unfold aU;simp only;repeat' split
 all_goals simp[Gk,ltuS,HE,Bs,FM,xu,nu,eh,ey,nh,oQ,mj]
end
def MS.yy (m:MS) (b:Nat) (t:dD):MS:={ m with blocks:=m.blocks.set b { nth m.blocks b with term:=t } }
def cmpL:List Int:=[11,12,13]
def iN (s:List Int) (to:List Int) (b:Nat) (m:MS):dD × MS:=
 if to.length=0 then
  if aI s m.at_ 8=0 then(⟨5,[],[],⟨IntKind.i32.wrap (aI s (m.at_+1) 200)⟩⟩,m.took.took)
  else if 1<aI s m.at_ 8 then(⟨4,[(aK s m.took b).1],[],⟨0⟩⟩,(aK s m.took b).2)
  else(⟨4,[],[],⟨0⟩⟩,m.took)
 else if to.length=1 then(⟨1,[],to,⟨0⟩⟩,m)
 else if to.length=2 then
  let r:=aK s m b
  if aI s r.2.at_ 2=0 then
   let w:=aK s r.2.took b
   (⟨2,[w.2.next],to,⟨0⟩⟩,w.2.aL.took.add b ⟨nth cmpL (aI s w.2.at_ 3).toNat,w.2.next,0,[r.1,w.1],⟨0⟩⟩)
  else(⟨2,[r.1],to,⟨0⟩⟩,r.2.took)
 else
  let r:=aK s m b
  let m2:=r.2.constant b 7
  (⟨3,[m2.next],to,⟨0⟩⟩,m2.two b 5 r.1 r.2.next)
def oI (s:List Int) (to:List Int) (b:Nat) (m:MS):MS:=(iN s to b m).2.yy b (iN s to b m).1
section
variable {s:List Int} {M:Nat} {vs:Value} {W0:View} {h:Heap} {o0:Own} {m:MS} {u:Value} {ds:List Int}
theorem Nz.dg {po:OP} (n:Nz s M vs W0 h o0 m u ds) {k:Key} {e:TypeId} {B N i:Nat} {l:List Value} {ty t:TypeId} {us:List (Nat × Value)} {x y:Operand} {v:Value} {K:Value->Heap->Prop} (h3:3<=k.1) (hk:o0 k=bx e B (RawN.mk (n:=N) l)) (hi:i<=N) (hsz:db Tryz.prog t=some 1) (hx:asg us x = .pointer (some ⟨B,i,none⟩)) (hy:asg us y=v) (hv:v.oneCell'=true)
  (hK : ∀h',Nz s M vs W0 h' (o0.upd k (bx e B (RawN.mk (n:=N) (l.set i v)))) m u ds->K undef h'):@Lft.step po Tryz.prog (.store t x y) ty us h K:=by
 obtain⟨W,o,g1,w,f,sl⟩:=n;refine w.own.dg (k:=k) (n:=N) (i:=i) (e:=e) (B:=B) (l:=l) ((f k h3).trans hk) hi hsz hx hy hv λh' w' _=>hK h' ?_;obtain⟨vb,vl,lb,bb⟩:=w.box;refine⟨W,_,g1,⟨w',w.src,vb,vl,lb,bb.frame λq hq=>Own.ak (by rintro rfl;omega)⟩,λq hq=>?_,sl⟩;unfold Own.upd;split
 ·rfl
 exact f q hq
theorem Nz.re(n:Nz s M vs W0 h o0 m u ds){o0':Own}(he : ∀k,o0' k=o0 k):Nz s M vs W0 h o0' m u ds:=by obtain⟨W,o,g1,w,f,sl⟩:=n;exact⟨W,o,g1,w,λk hk=>(f k hk).trans (he k).symm,sl⟩
theorem Mk.G3{po:OP}{W:View}{o:Own}(w:Mk s M vs W h o m)(bb:MkB M vs m o vb vl lb){t:dD}{v:Value}{ty ty2:TypeId}{us:List (Nat × Value)}{x y:Operand}{K:Value->Heap->Prop}(hb:b<m.blocks.length)(hsz:db Tryz.prog ty2=some 4)(hx:asg us x = .pointer (some (((slA vb).add (b*6)).add 2)))(hy:asg us y=v)(hr:Rd W v t)(hK : ∀h' o',Mk s M vs W h' o' (m.yy b t)->(∀k:Key,3<=k.1->o' k=o k)->K undef h'):@Lft.step po Tryz.prog (.store ty2 x y) ty us h K:=by
 have hbl:b<lb.length:=by rw[bb.len];exact hb
 refine w.own.ln (k:=(0,2)) (α:=BlkM) BlkM.nj (v:=vb) (l:=lb) (i:=b) (d:=t) bb.blk hsz hx hy hbl hr λh7 w7 _=>?_;refine hK h7 _ ⟨w7,w.src,vb,vl,_,bb.gP hb (x':={ nth m.blocks b with term:=t }) (y':={ lb[b]with term:=t }) rfl Own.aj ?_ ?_ λq h1 _ _=>Own.ak h1⟩ (mY Yc)
 ·rw[Own.ak Sa,bb.phis b hb,aC hbl]
 rw[Own.ak Sa,bb.ins b hb,aC hbl]
end
theorem Dn{H:View}{va vt:Value}{a t:List Int}{kd:Int}{imm:I32}(h3:SlRd H va a)(h4:SlRd H vt t)(h5:I64 kd)(h6:-2147483648<=imm.v/\imm.v<=2147483647):Rd H (.agg #[.int .i64 kd,va,vt,.int .i32 imm.v]) (dD.mk kd a t imm):=
 ⟨_,rfl,[.int .i64 kd],_,rfl,⟨rfl,h5⟩,[va],_,rfl,⟨va,rfl,h3⟩,[vt],_,rfl,⟨vt,rfl,h4⟩,rfl,h6⟩
theorem EL: ∀x∈cmpL,I64 x:=by
 intro x hx;have : ∀x∈cmpL,0<=x/\x<=13:=by decide
 have:=this x hx;exact⟨by omega,by omega⟩
theorem Jo{s:List Int}{M:Nat}{W0:View}{h:Heap}{o0:Own}{m:MS}{vt:Value}{to:List Int}(n:Nx s M vs W0 h o0 m){c:Nat}(hb:b<m.blocks.length)(hm:m.ok c)(hc:c<=800000)(hfree:o0 (9,1)=none)(ht:SlRd W0 vt to):
  az Tryz.prog N.eg #[.pointer (some ⟨M,0,none⟩),.int .i64 b,vt] h (λv h'=>Nx s M vs W0 h' o0 (oI s to b m)):=by
 refine aw (args:=[.pointer (some ⟨M,0,none⟩),.int .i64 b,vt]) follows F.eg E.eg (Lm Ya) λK hK=>?_;dsimp only[L.eg,lkF,lkG];have hmm:oI s to b m=_:=oI.eq_1 s to b m;have htm:iN s to b m=_:=iN.eq_1 s to b m;obtain⟨Wb,ob,gb,wb,fb⟩:=n;refine ab λz hz=>?_;simp;refine ay (z:=.agg #[.int .i64 0,.slice none 0 0,.slice none 0 0,.int .i32 0]) (places:=[(0,1),(1,1),(2,1),(3,1)]) (vs:=[]) (cs:=#[.int .i64 0,.slice none 0 0,.slice none 0 0,.int .i32 0]) Ya Ya Sa Ya ?_;refine wb.own.eu (k:=(9,1)) (n:=3) (l:=[.int .i64 0,.slice none 0 0,.slice none 0 0,.int .i32 0]) ((fb _ Yc).trans hfree) (z:=.agg #[.int .i64 0,.slice none 0 0,.slice none 0 0,.int .i32 0]) Ya rfl Ya rfl Yc (by simp[Value.oneCell']) (λ_=>by simp) (λ_=>by simp) λh1 q1 w1=>?_;generalize h.size=B at w1;obtain⟨o1,ho1⟩ : ∃o1,o1=ob.upd (9,1) (bx T.jj B (RawN.mk (n:=3) [.int .i64 0,.slice none 0 0,.slice none 0 0,.int .i32 0])):=⟨_,rfl⟩;have k1:o1 (9,1)=bx T.jj B (RawN.mk (n:=3) [.int .i64 0,.slice none 0 0,.slice none 0 0,.int .i32 0]):=by rw[ho1,Own.aj]
 have ht:=ht.mono gb;have n:Nz s M vs Wb h1 o1 m (.slice none 0 0) []:=by obtain⟨vb,vl,lb,bb⟩:=wb.box;rw[ho1];exact⟨Wb,_,View.le_refl _,⟨w1,wb.src,vb,vl,lb,bb.frame λq hq=>Own.ak (by rintro rfl;simp at hq)⟩,λ_ _=>rfl,aO⟩
 have back : ∀{h':Heap} {W':View} {o':Own} {m':MS} {i:Option Lft.Item},Wb.le W'->Mk s M vs W' h' o' m'->(∀k:Key,3<=k.1->o' k=o1.upd (9,1) i k)->Nx s M vs W0 h' o0 m':=by
  intro h' W' o' m' i g w f;refine⟨W',o'.upd (9,1) none,View.le_trans gb g,⟨w.own.sub λq j hq=>?_,w.src,?_⟩,λk hk=>?_⟩
  ·unfold Own.upd at hq;split at hq
   ·cases hq
   exact hq
  ·obtain⟨vb,vl,lb,bb⟩:=w.box;exact⟨vb,vl,lb,bb.frame λq hq=>Own.ak (by rintro rfl;simp at hq)⟩
  by_cases e:k=(9,1)
  ·rw[e,Own.aj,hfree]
  rw[Own.ak e,f k hk,Own.ak e,ho1,Own.ak e,fb k hk]
 clear wb w1 q1;subst hz;refine ab λz hz=>?_;have fin : ∀(kd:Int) (va vt':Value) (args to':List Int) (im:Int) (m2:MS) (h':Heap) (ρ:Env),iN s to b m=(⟨kd,args,to',⟨im⟩⟩,m2)->I64 kd->(-2147483648<=im/\im<=2147483647)->b<m2.blocks.length->Nz s M vs Wb h' (o1.upd (9,1) (bx T.jj B (RawN.mk (n:=3) [.int .i64 kd,va,vt',.int .i32 im]))) m2 va args->SlRd Wb vt' to'->Lft.look ρ 0=some (.pointer (some ⟨M,0,none⟩))->Lft.look ρ 1=some (.int .i64 b)->Lft.look ρ 6=some (.pointer (some ⟨B,0,none⟩))->LC.wp Tryz.prog z (dW [] K) ρ h':=by
  intro kd va vt' args to' im m2 h' ρ e ikd iim hb n ht' r0 r1 r6;subst hz;rw[e]at hmm;obtain⟨W,o,g1,w,f,sl⟩:=n;obtain⟨vb,vl,lb,bb⟩:=w.box;have hk:o (9,1)=bx T.jj B (RawN.mk (n:=3) [.int .i64 kd,va,vt',.int .i32 im]):=(f _ Yc).trans Own.aj;have c4:=w.own.lT (k:=(9,1)) (n:=3) hk;have c4:Un.ev (vw h') (.bM 4) (.pointer (some ⟨B,0,none⟩))=some (.agg #[.int .i64 kd,va,vt',.int .i32 im]):=c4;have c3:ao (vw h') ⟨M,3,none⟩=some vb:=bb.cell w.own (i:=3) Yc;have hbl:b<lb.length:=by rw[bb.len];exact hb
  have sb:=w.own.now bb.blk;have sbb:=sb.bound;refine aP (vw h') (View.le_refl _) ?_;simp(disch:=omega)[r0,r1,r6,c3,c4,sb.idxn (N:=6) rfl];refine w.G3 bb (b:=b) (t:=⟨kd,args,to',⟨im⟩⟩) hb Ya rfl rfl (Dn (imm:=⟨im⟩) sl (ht'.mono g1) ikd iim) λh2 o2 w2 f2=>?_;refine hK _ _ ?_;rw[hmm];exact back g1 w2 λk hk=>(f2 k hk).trans (f k hk)
 have hlen : ∀{Q:View},Un.ev Q .len vt=some (.int .i64 to.length):=fun{Q}=>ht.len;refine ab λy hy=>?_;simp[hlen];subst hy;simp only[aN];refine ab λy hy=>?_;simp;subst hy;by_cases c0:to.length=0
 ·have c0':to=[]:=Ls c0;rw[if_pos c0]at htm;refine aD (by simp[c0,c0']) ?_;refine ab λy hy=>?_;simp;refine n.dg (k:=(9,1)) (i:=0) Yc k1 Yc Ya rfl rfl rfl λh2 n=>?_;subst hy;refine ab λy hy=>?_;simp;refine ah Ya (fu n hm Yb (k:=8) Yc Yc) ?_;rintro _ h3 ⟨rfl,n⟩;obtain⟨t0,t1⟩:=cS (s:=s) (at_:=m.at_) (n:=8) Yc;subst hy;refine ab λy hy=>?_;simp;subst hy;have n:Nz s M vs Wb h3 (o1.upd (9,1) (bx T.jj B (RawN.mk (n:=3) [.int .i64 4,.slice none 0 0,.slice none 0 0,.int .i32 0]))) m.took (.slice none 0 0) []:=n;by_cases c1:aI s m.at_ 8=0
  ·rw[if_pos c1]at htm;refine aD (by simp[c1]) ?_;refine ab λy hy=>?_;simp;refine n.dg (k:=(9,1)) (i:=0) Yc Own.aj Yc Ya rfl rfl rfl λh4 n=>?_;subst hy;simp;refine ah Ya (fu n hm.took Yb (k:=200) Yc Yc) ?_;rintro _ h5 ⟨rfl,n⟩;have hx:m.took.at_=m.at_+1:=rfl;rw[hx];simp;refine n.dg (k:=(9,1)) (i:=3) Yc Own.aj Yc Ya rfl rfl rfl λh6 n=>?_;refine fin 5 (.slice none 0 0) (.slice none 0 0) [] [] _ _ h6 _ htm i64c mg hb ?_ aO ?_ ?_ ?_
   ·exact n.re λk=>by rw[cw,cw];rfl
   all_goals simp
  rw[if_neg c1]at htm;refine aB (by simp[c1]) ?_;refine ab λy hy=>?_;simp;subst hy;by_cases c2:1<aI s m.at_ 8
  ·rw[if_pos c2]at htm;refine aD (by simp[c2]) ?_;simp;refine ah Ya (iO n (b:=b) hb hm.took Yb) ?_;rintro _ h4 ⟨⟨rfl,i4⟩,n⟩;have hb2:b<(aK s m.took b).2.blocks.length:=by rw[ey];exact hb
   generalize aK s m.took b=r at htm i4 n hb2;refine n.lit (ls:=[r.1]) Sa (by simp[i4]) rfl Yc λua un uc h5 _ n=>?_;refine n.dg (k:=(9,1)) (i:=1) Yc Own.aj Yc Ya rfl rfl rfl λh6 n=>?_;refine fin 4 (.slice ua un uc) (.slice none 0 0) [r.1] [] 0 _ h6 _ htm i64c Yc hb2 (n.re λk=>by rw[cw];rfl) aO ?_ ?_ ?_;all_goals simp
  rw[if_neg c2]at htm;refine aB (by simp[c2]) ?_;simp;refine fin 4 (.slice none 0 0) (.slice none 0 0) [] [] 0 _ h3 _ htm i64c Yc hb n aO ?_ ?_ ?_;all_goals simp
 rw[if_neg c0]at htm;have c0':¬to=[]:=λe=>c0 (by rw[e];rfl);have hvt:vt.oneCell'=true:=ht.cells.2;refine aB (by simp[c0']) ?_;refine ab λy hy=>?_;simp;subst hy;by_cases c1:to.length=1
 ·rw[if_pos c1]at htm;refine aD (by simp[c1]) ?_;refine ab λy hy=>?_;simp;refine n.dg (k:=(9,1)) (i:=0) Yc k1 Yc Ya rfl rfl rfl λh2 n=>?_;subst hy;simp;refine n.dg (k:=(9,1)) (i:=2) Yc Own.aj Yc Ya rfl rfl hvt λh3 n=>?_;refine fin 1 (.slice none 0 0) vt [] to 0 _ h3 _ htm i64c Yc hb (n.re λk=>by rw[cw];rfl) ht ?_ ?_ ?_;all_goals simp
 rw[if_neg c1]at htm;refine aB (by simp;omega) ?_;refine ab λy hy=>?_;simp;subst hy;by_cases c2:to.length=2
 ·rw[if_pos c2]at htm;refine aD (by simp[c2]) ?_;refine ab λy hy=>?_;simp;refine n.dg (k:=(9,1)) (i:=0) Yc k1 Yc Ya rfl rfl rfl λh2 n=>?_;subst hy;refine ab λy hy=>?_;simp;refine n.dg (k:=(9,1)) (i:=2) Yc Own.aj Yc Ya rfl rfl hvt λh3 n=>?_;have n:Nz s M vs Wb h3 (o1.upd (9,1) (bx T.jj B (RawN.mk (n:=3) [.int .i64 2,.slice none 0 0,vt,.int .i32 0]))) m (.slice none 0 0) []:=n.re λk=>by rw[cw];rfl
  subst hy;refine ab λy hy=>?_;simp;refine ah Ya (iO n (b:=b) hb hm Yb) ?_;rintro _ h4 ⟨⟨rfl,i4⟩,n⟩;have q:=hm.aK (s:=s) (b:=b);have hb2:b<(aK s m b).2.blocks.length:=by rw[ey];exact hb
  simp only at htm;generalize aK s m b=r at htm i4 n hb2 q;subst hy;refine ab λy hy=>?_;have fin2 : ∀(v:Int) (m3:MS) (h':Heap) (ρ:Env) (u:Value) (ds:List Int),iN s to b m=(⟨2,[v],to,⟨0⟩⟩,m3)->I64 v->b<m3.blocks.length->Nz s M vs Wb h' (o1.upd (9,1) (bx T.jj B (RawN.mk (n:=3) [.int .i64 2,.slice none 0 0,vt,.int .i32 0]))) m3 u ds->Lft.look ρ 0=some (.pointer (some ⟨M,0,none⟩))->Lft.look ρ 1=some (.int .i64 b)->Lft.look ρ 6=some (.pointer (some ⟨B,0,none⟩))->Lft.look ρ 8=some (.int .i64 v)->LC.wp Tryz.prog y (fN 0 (gr (LC.wp Tryz.prog z (dW [] K)) (dW [] K))) ρ h':=by intro v m3 h' ρ u ds e iv hb n r0 r1 r6 r8;subst hy;simp[af,ag,r0,r1,r6,r8];refine n.lit (ls:=[v]) Sa (by simp[iv]) rfl Yc λua un uc h5 _ n=>?_;refine n.dg (k:=(9,1)) (i:=1) Yc Own.aj Yc Ya rfl rfl rfl λh6 n=>?_;refine fin 2 (.slice ua un uc) vt [v] to 0 _ h6 _ e i64c Yc hb (n.re λk=>by rw[cw];rfl) ht ?_ ?_ ?_;all_goals simp[af,ag,r0,r1,r6,r8]
  refine ab λx hx=>?_;simp;refine ah Ya (fu n q Yb (k:=2) Yc Yc) ?_;rintro _ h5 ⟨rfl,n⟩;simp;subst hx;by_cases c3:aI s r.2.at_ 2=0
  ·rw[if_pos c3]at htm;refine aD (by simp[c3]) ?_;refine ab λx hx=>?_;simp;refine ay (z:=.agg #[.int .i64 0,.int .i64 0,.int .i64 0]) (places:=[(0,1),(1,1),(2,1)]) (vs:=[(0,.int .i64 11),(1,.int .i64 12),(2,.int .i64 13)]) (cs:=#[.int .i64 11,.int .i64 12,.int .i64 13]) Ya Ya Sa Ya ?_;refine gM (v:=.agg #[.int .i64 11,.int .i64 12,.int .i64 13]) (z:=.agg #[.int .i64 0,.int .i64 0,.int .i64 0]) (n:=3) Ya rfl Ya rfl (by simp[Value.cells,Value.oneCell']) (λ_=>by simp) (λ_=>by simp) λh6 hle6 hs6 hb6=>?_;have n:Nz s M vs Wb h6 (o1.upd (9,1) (bx T.jj B (RawN.mk (n:=3) [.int .i64 2,.slice none 0 0,vt,.int .i32 0]))) r.2.took (.slice (some ⟨h5.size,0,none⟩) 3 3) cmpL:=by
    obtain⟨W,o,g1,g2,g3,g4⟩:=n;refine⟨_,o,View.le_trans g1 (bP g2.own.wle),⟨g2.own.ext hle6,g2.src.mono (bP g2.own.wle),g2.box⟩,g3,?_⟩;have hg:grow W h5 h6 h5.size=some (.cells (cmpL.map λx=>Value.int .i64 x).toArray T.lR (0,0)):=by rw[cI (Lp _),hb6];rfl
    exact AR hg rfl Yc EL
   generalize h5.size=C at n;subst hx;refine ab λx hx=>?_;simp;refine ah Ya (iO n (b:=b) hb2 q.took Yb) ?_;rintro _ h7 ⟨⟨rfl,i7⟩,n⟩;have q:=q.took.aK (s:=s) (b:=b);have hb3:b<(aK s r.2.took b).2.blocks.length:=by rw[ey];exact hb2
   generalize aK s r.2.took b=w at htm i7 n hb3 q;subst hx;refine ab λx hx=>?_;simp;refine ah Ya (gS n q Yb) ?_;rintro _ h8 ⟨rfl,n⟩;have iw:=q.jM Yb;subst hx;refine ab λx hx=>?_;simp;refine ah Ya (fu n q.aL Yb (k:=3) Yc Yc) ?_;rintro _ h9 ⟨rfl,n⟩;have hfx:w.2.aL.at_=w.2.at_:=rfl;rw[hfx];obtain⟨t0,t1⟩:=cS (s:=s) (at_:=w.2.at_) (n:=3) Yc;generalize aI s w.2.at_ 3=k at htm t0 t1;obtain⟨kn,rfl⟩ : ∃kn:Nat,k=kn:=⟨k.toNat,by omega⟩;rw[show((kn:Int)).toNat=kn by omega]at htm;obtain⟨iop,hop⟩:I64 (nth cmpL kn)/\ao (vw h9) ⟨C,kn,none⟩=some (.int .i64 (nth cmpL kn)):=by obtain⟨W,o,g1,g2,g3,g4⟩:=n;refine⟨g4.range (i:=kn) (by show kn<3;omega),?_⟩;have:=g4.int g2.own.wle (i:=kn) (by show kn<3;omega);simpa[slA]using this
   have hix:Bn.ev (.aidx 3 1) (.pointer (some ⟨C,0,none⟩)) (.int .i64 kn)=some (.pointer (some ⟨C,kn,none⟩)):=by simp only[Bn.ev,vP,vI,LI];rw[if_pos ⟨by omega,by omega⟩];simp
   generalize nth cmpL kn=op at htm iop hop;simp[hix,hop];refine n.lit (ls:=[r.1,w.1]) Sa (by simp[i4,i7]) rfl Yc λua un uc h10 _ n=>?_;refine ay (z:=.agg #[.int .i64 0,.int .i64 0,.int .i64 0,.slice none 0 0,.int .i32 0]) (places:=[(0,1),(1,1),(2,1),(3,1),(4,1)]) (vs:=[(0,.int .i64 op),(1,.int .i64 w.2.next),(3,.slice ua un uc)]) (cs:=#[.int .i64 op,.int .i64 w.2.next,.int .i64 0,.slice ua un uc,.int .i32 0]) Ya Ya Sa Ya ?_;refine ah Ya (kT n (b:=b) hb3 q.aL.took Yb iop iw i64c Yc) ?_;rintro _ h11 n;subst hx;simp;refine fin2 w.2.next _ h11 _ _ _ htm iw (by rw[mj];exact hb3) n.z ?_ ?_ ?_ ?_;all_goals simp
  rw[if_neg c3]at htm;refine aB (by simp[c3]) ?_;simp;refine fin2 r.1 _ h5 _ _ _ htm i4 hb2 n ?_ ?_ ?_ ?_;all_goals simp
 rw[if_neg c2]at htm;refine aB (by simp;omega) ?_;refine ab λy hy=>?_;simp;refine n.dg (k:=(9,1)) (i:=0) Yc k1 Yc Ya rfl rfl rfl λh2 n=>?_;subst hy;refine ab λy hy=>?_;simp;refine n.dg (k:=(9,1)) (i:=2) Yc Own.aj Yc Ya rfl rfl hvt λh3 n=>?_;have n:Nz s M vs Wb h3 (o1.upd (9,1) (bx T.jj B (RawN.mk (n:=3) [.int .i64 3,.slice none 0 0,vt,.int .i32 0]))) m (.slice none 0 0) []:=n.re λk=>by rw[cw];rfl
 subst hy;refine ab λy hy=>?_;simp;refine ah Ya (iO n (b:=b) hb hm Yb) ?_;rintro _ h4 ⟨⟨rfl,i4⟩,n⟩;have q:=hm.aK (s:=s) (b:=b);have hb2:b<(aK s m b).2.blocks.length:=by rw[ey];exact hb
 simp only at htm;generalize aK s m b=r at htm i4 n hb2 q;subst hy;refine ab λy hy=>?_;simp;refine ah Ya (gI n (b:=b) hb2 q Yb (k:=7) Yc) ?_;rintro _ h5 ⟨rfl,n⟩;have i5:=q.jM Yb;have q5:=q.constant (b:=b) (n:=7);have hb3:b<(r.2.constant b 7).blocks.length:=by rw[eh];exact hb2
 generalize r.2.constant b 7=m2 at htm n q5 hb3;generalize r.2.next=d at htm i5;subst hy;refine ab λy hy=>?_;simp;refine ah Ya (gS n q5 Yb) ?_;rintro _ h6 ⟨rfl,n⟩;have i6:=q5.jM Yb;subst hy;refine ab λy hy=>?_;simp;refine n.lit (ls:=[r.1,d]) Sa (by simp[i4,i5]) rfl Yc λua un uc h7 _ n=>?_;refine ay (z:=.agg #[.int .i64 0,.int .i64 0,.int .i64 0,.slice none 0 0,.int .i32 0]) (places:=[(0,1),(1,1),(2,1),(3,1),(4,1)]) (vs:=[(0,.int .i64 5),(1,.int .i64 m2.next),(3,.slice ua un uc)]) (cs:=#[.int .i64 5,.int .i64 m2.next,.int .i64 0,.slice ua un uc,.int .i32 0]) Ya Ya Sa Ya ?_;refine ah Ya (kT n (b:=b) hb3 q5.aL Yb i64c i6 i64c Yc) ?_;rintro _ h8 n;have n:=n.z;subst hy;simp;refine n.lit (ls:=[m2.next]) Sa (by simp[i6]) rfl Yc λua un uc h9 _ n=>?_;refine n.dg (k:=(9,1)) (i:=1) Yc Own.aj Yc Ya rfl rfl rfl λh10 n=>?_;refine fin 3 (.slice ua un uc) vt [m2.next] to 0 _ h10 _ htm i64c Yc (show b<(m2.two b 5 r.1 d).blocks.length by rw[nu];exact hb3) (n.re λk=>by rw[cw];rfl) ht ?_ ?_ ?_;all_goals simp
end Go.Proofs.YtnfiilgdjpdlkaaGreatDoor
