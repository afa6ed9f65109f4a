/- A part of the proof: Ok, Ol, Rb, Ta, Rc, Rd, Rf, Rg, Rh, Tb, Tc, Td, Th, Ma, Mb, Mc, Md, Me, Mf, Mg, Mh, Mi. -/
import Derived.Test.YtnfiilgdjpdlkaaGreatDoorZTMor3
set_option linter.unusedSimpArgs false
set_option linter.unusedVariables false
open Go.Value renaming int->Pp,slice->Pv,pointer->Pw
open Go.IntKind renaming i64->Pq,i32->Ps
open Option renaming some->Pt,none->Pu
open Bool renaming true->Px,false->Py
open Go.Proofs.Tryz renaming prog->Pz
namespace Go.Lft
open Go
variable {po po2:OP}
theorem Cx.de {V W:View} {h0 h:Heap} {o:Own} {k:Key} {P:Program} {ty:TypeId} {us:List (Nat × Value)} {n i:Nat} {e t:TypeId} {B:Nat} {l:List Value} {x y:Operand} {u:Value} {K:Value->Heap->Prop} (c:Cx V h0 W h o) (hk:o k=bx e B (RawN.mk (n:=n) l)) (hi:i<=n) (hsz:cK P t=Pt 1) (hx:asg us x = Pw (Pt ⟨B,i,Pu⟩)) (hy:asg us y=u) (hu:u.oneCell'=Px)
  (hK : ∀h',Cx V h0 W h' (o.upd k (bx e B (RawN.mk (n:=n) (l.set i u))))->K undef h'):@step po P (.store t x y) ty us h K:=
 c.own.de hk hi hsz hx hy hu λh2 w hX=>hK _ ⟨w,c.old,hX _ c.le0 (View.cr Pl (c.new k _ B hk rfl)),λj i b hj hb=>by
  by_cases e:j=k
  ·subst e;rw[Own.aj]at hj;cases hj;exact c.new _ _ b hk hb
  rw[Own.ay e]at hj;exact c.new j i b hj hb⟩
end Go.Lft
namespace Go.Proofs.YtnfiilgdjpdlkaaGreatDoor
open Go Go.Lft
structure vK (t:cQ):Prop where
 one:t.kind=2\/t.kind=3->1<=t.args.length
 most:t.args.length<=10000
 to:t.to.length<=10000
theorem Ab {H:View} {x0 x1 x2 va x4:Value} {i:InsD} (h:Rd H (.agg #[x0,x1,x2,va,x4]) i):SlRd H va i.args:=by unfold Rd at h;rw[if_pos (show Rep.agg InsD=Px from rfl)]at h;obtain⟨cs,e0,c1,_,e,h1,c2,_,rfl,h2,c3,_,rfl,h3,c4,c5,rfl,h4,h5⟩:=h;cases e0;rw[h1.1,h2.1,h3.1,h5.1]at e;obtain⟨v,rfl⟩:=sK h4;simp at e;obtain⟨-,-,-,rfl,-⟩:=e;exact mU.1 h4
set_option maxHeartbeats 4000000 in
theorem Ja {s:bS} {v:Value} {pat:Int} {h:Heap} {W:View} (hW:W.le (vw h)) (hv:Rd W v s) (hok:ln s) (htk:vK s.t) (hp:I64 pat) :
    az Pz 63 #[v,Pp Pq pat] h (λu h'=>bI W h h' u (ij s.f s.t pat)):=by
  refine aq (args:=[v,Pp Pq pat]) follows Tryz.func63 E.eh Pj λK hK=>?_
  dsimp only[L.eh,lkF,lkG]
  have c0:=Cx.start hW
  refine ab λz hz=>?_
  simp
  refine c0.dh rfl hv λS h1 W1 hW1 c1 at1 hle1=>?_
  refine c1.cj (k:=(0,0)) (n:=7) (z:=.agg fitZ.toArray) rfl P1 rfl P4 P8 λR h2 hle2 c2=>?_
  subst hz
  refine ab λz hz=>?_
  obtain⟨ut,hut,rut⟩:=(at1.part bS.Lh).ldN rfl (N:=4) rfl
  have hut:Un.ev (vw h2) (.bO 4) (Pw (Pt ⟨S,7,Pu⟩))=Pt ut:=by simpa using hut _ c2.wle
  simp[hut]
  refine c2.dD (α:=cQ) rut (n:=4) (z:=.agg #[Pp Pq 0,Pv Pu 0 0,Pv Pu 0 0,Pp Ps 0]) P1 rfl rfl P1 P5 P5 λTb h3 W3 hW3 c3 at3 hle3=>?_
  have t0:=(at3.part cQ.A1).int
  obtain⟨va,t1,hva⟩:=(at3.part cQ.ee).sl
  obtain⟨vt,t2,hvt⟩:=(at3.part cQ.DS).sl
  have t3:=(at3.part cQ.jv).i32
  have ri:=(at3.part cQ.jv).ov
  have t0:ak W3 ⟨Tb,0,Pu⟩=Pt (Pp Pq s.t.kind):=by simpa using t0
  have t1:ak W3 ⟨Tb,1,Pu⟩=Pt va:=by simpa using t1
  have t2:ak W3 ⟨Tb,2,Pu⟩=Pt vt:=by simpa using t2
  have t3:ak W3 ⟨Tb,3,Pu⟩=Pt (Pp Ps s.t.imm.v):=by simpa using t3
  have most:=htk.most
  have mosto:=htk.to
  subst hz
  refine ab λz hz=>?_
  simp[ae c3.wle t2]
  refine af P1 (dL c3.wle hvt P2) ?_
  rintro uto h4 ⟨hle4,hto⟩
  have c4:=c3.ext hle4
  have hW4:=c3.up (h':=h4)
  have hto0:=hto
  obtain⟨b0,k0,rfl,-⟩:=hto0
  generalize grow W3 h3 h4=W4 at *
  have s0:=ae hW4 t0
  have s1:=ae hW4 t1
  have s3:=ae hW4 t3
  have hva4:=hva.mono hW4
  have z0:=ae c4.wle s0
  have z1:=ae c4.wle s1
  have z3:=ae c4.wle s3
  clear t0 t1 t2 t3 hut hle1 hle2 hle3 hle4
  subst hz
  refine ab λz hz=>?_
  simp only[aI]
  refine ab λy hy=>?_
  by_cases p1:pat=0/\s.t.kind=1
  · have he:ij s.f s.t pat=Pt ⟨[],[],[],⟨1,0,0,s.t.to,⟨0⟩⟩⟩:=by unfold ij;rw[if_pos p1]
    simp[p1.1,z0,p1.2]
    subst hy
    simp
    refine aw (t:=T.fj) (z:=.agg #[Pp Pq 0,Pp Pq 0,Pp Pq 0,Pv Pu 0 0,Pp Ps 0]) (places:=[(0,1),(1,1),(2,1),(3,1),(4,1)]) (vs:=[(0,Pp Pq 1),(3,.slice b0 s.t.to.length k0)]) (cs:=#[Pp Pq 1,Pp Pq 0,Pp Pq 0,.slice b0 s.t.to.length k0,Pp Ps 0]) P1 P1 Sa (by simp[Instr.fill,Value.cells]) ?_
    refine aw (t:=T.aQ) (z:=.agg fitZ.toArray) (places:=[(0,1),(1,1),(2,1),(3,5)]) (vs:=[(3,.agg #[Pp Pq 1,Pp Pq 0,Pp Pq 0,.slice b0 s.t.to.length k0,Pp Ps 0])]) (cs:=#[Pv Pu 0 0,Pv Pu 0 0,Pv Pu 0 0,Pp Pq 1,Pp Pq 0,Pp Pq 0,.slice b0 s.t.to.length k0,Pp Ps 0]) P1 P1 Sa (by simp[Instr.fill,Value.cells]) ?_
    have hr:Rd W4 (.agg #[Pv Pu 0 0,Pv Pu 0 0,Pv Pu 0 0,Pp Pq 1,Pp Pq 0,Pp Pq 0,.slice b0 s.t.to.length k0,Pp Ps 0]) (⟨[],[],[],⟨1,0,0,s.t.to,⟨0⟩⟩⟩:FitD):=ll (ce:=[_,_,_,_,_]) aJ aJ aJ (kh (imm:=⟨0⟩) Sa Sa hto)
    refine c4.bo (k:=(0,0)) (n:=7) (l:=fitZ) Ri hr rfl rfl P1 rfl rfl λh9 l9 hl9 c9=>?_
    have hall:=c9.all (k:=(0,0)) (n:=7) (l:=l9) (B:=R) (e:=T.aQ) Ri
    simp at hall
    simp[hall]
    exact hK _ _ (bI.of c9 (hl9▸hr) (by rw[he];rfl) λy e=>by rw[he]at e;cases e;rfl)
  refine eY (λρ h5=>h5=h4/\ρ=[(0,v),(1,Pp Pq pat),(2,ptr S),(4,ptr R),(5,.bool Py),(6,ptr Tb),(7,.slice b0 s.t.to.length k0),(13,ut),(16,.slice b0 s.t.to.length k0),(17,.bool Py)]) ?_ ?_
  · intro K2 hK2
    by_cases e0:pat=0
    · have e2:¬s.t.kind=1:=λe=>p1 ⟨e0,e⟩
      simp[e0,z0,e2]
      exact hK2 _ _ ⟨rfl,by rw[e0]⟩
    · simp[e0,z0]
      exact hK2 _ _ ⟨rfl,rfl⟩
  rintro _ h4 ⟨rfl,rfl⟩
  subst hy
  refine aU Sa ?_
  refine ab λy hy=>?_
  by_cases p2:pat=0/\s.t.kind=4
  · have he:ij s.f s.t pat=Pt ⟨s.t.args,[],[],⟨7,if s.t.args=[] then -1 else nth s.t.args 0,0,[],⟨0⟩⟩⟩:=by unfold ij;rw[if_neg p1,if_pos p2]
    simp[p2.1,z0,p2.2]
    subst hy
    refine aT Sa ?_
    refine ab λy hy=>?_
    simp
    refine aw (t:=T.fj) (z:=.agg #[Pp Pq 0,Pp Pq 0,Pp Pq 0,Pv Pu 0 0,Pp Ps 0]) (places:=[(0,1),(1,1),(2,1),(3,1),(4,1)]) (vs:=[(0,Pp Pq 7),(1,Pp Pq (-1))]) (cs:=#[Pp Pq 7,Pp Pq (-1),Pp Pq 0,Pv Pu 0 0,Pp Ps 0]) P1 P1 Sa (by simp[Instr.fill,Value.cells]) ?_
    refine c4.cj (k:=(0,1)) (n:=4) (z:=.agg #[Pp Pq 0,Pp Pq 0,Pp Pq 0,Pv Pu 0 0,Pp Ps 0]) Ri P1 rfl P4 P8 λEb h5 hle5 c5=>?_
    refine c5.od (k:=(0,1)) (n:=4) (l:=[Pp Pq 0,Pp Pq 0,Pp Pq 0,Pv Pu 0 0,Pp Ps 0]) (l':=[Pp Pq 7,Pp Pq (-1),Pp Pq 0,Pv Pu 0 0,Pp Ps 0]) Ri P1 rfl rfl rfl P7 λh6 c6=>?_
    subst hy
    have y1:=ae c6.wle s1
    have hlen:=hva4.len (K:=vw h6)
    generalize hae:(if s.t.args=[] then(-1:Int) else nth s.t.args 0)=a at *
    refine ab λy hy=>?_
    refine eY (λρ h7=>∃o6,Cx W h W4 h7 o6/\o6 (0,0)=bx T.aQ R (RawN.mk (n:=7) fitZ)/\o6 (0,1)=bx T.fj Eb (RawN.mk (n:=4) [Pp Pq 7,Pp Pq a,Pp Pq 0,Pv Pu 0 0,Pp Ps 0])/\(-9223372036854775808<=a/\a<=9223372036854775807)/\
      ρ=[(0,v),(1,Pp Pq 0),(2,ptr S),(4,ptr R),(5,.bool Py),(6,ptr Tb),(7,.slice b0 s.t.to.length k0),(8,ptr Eb),(13,ut),(16,.slice b0 s.t.to.length k0),(36,.agg #[Pp Pq 7,Pp Pq (-1),Pp Pq 0,Pv Pu 0 0,Pp Ps 0])]) ?_ ?_
    · intro K2 hK2
      by_cases ea:s.t.args=[]
      · have el:(s.t.args.length:Int)=0:=by rw[ea];rfl
        rw[if_pos ea]at hae
        subst hae
        simp[y1,hlen,ea]
        exact hK2 _ _ ⟨_,c6,by rfl,by rfl,by decide,rfl⟩
      · have el:=List.length_pos_iff.2 ea
        rw[if_neg ea]at hae
        have a0:=hva4.rng (i:=0) el
        have x0:=hva4.idx1 (k:=.i64) (i:=0) rfl P4 P2
        have d0:=hva4.int c6.wle (i:=0) el
        simp[y1,hlen,el,x0,d0]
        refine c6.de (k:=(0,1)) (n:=4) (i:=1) (l:=[Pp Pq 7,Pp Pq (-1),Pp Pq 0,Pv Pu 0 0,Pp Ps 0]) Ri P4 P1 rfl rfl rfl λh7 c7=>?_
        exact hK2 _ _ ⟨_,c7,by rfl,by rw[<-hae];rfl,by rw[<-hae];exact a0,rfl⟩
    · rintro _ h7 ⟨o6,c7,k00,k01,ar,rfl⟩
      subst hy
      refine ab λy hy=>?_
      refine aR (vw h7) Pl ?_
      have hall7:=c7.all k01
      simp at hall7
      simp[ae c7.wle s1,hall7]
      refine af P1 (dL c7.wle hva4 P2) ?_
      rintro ucl h8 ⟨hle8,hcl⟩
      refine⟨hle8,?_⟩
      have c8:=c7.ext hle8
      have hW8:=c7.up (h':=h8)
      have hcl0:=hcl
      obtain⟨b1,k1,rfl,-⟩:=hcl0
      refine aw (t:=T.aQ) (z:=.agg fitZ.toArray) (places:=[(0,1),(1,1),(2,1),(3,5)]) (vs:=[(0,.slice b1 s.t.args.length k1),(3,.agg #[Pp Pq 7,Pp Pq a,Pp Pq 0,Pv Pu 0 0,Pp Ps 0])]) (cs:=#[.slice b1 s.t.args.length k1,Pv Pu 0 0,Pv Pu 0 0,Pp Pq 7,Pp Pq a,Pp Pq 0,Pv Pu 0 0,Pp Ps 0]) P1 P1 Sa (by simp[Instr.fill,Value.cells]) ?_
      have hr:Rd (grow W4 h7 h8) (.agg #[.slice b1 s.t.args.length k1,Pv Pu 0 0,Pv Pu 0 0,Pp Pq 7,Pp Pq a,Pp Pq 0,Pv Pu 0 0,Pp Ps 0]) (⟨s.t.args,[],[],⟨7,a,0,[],⟨0⟩⟩⟩:FitD):=ll (ce:=[_,_,_,_,_]) hcl aJ aJ (kh (imm:=⟨0⟩) P9 Sa aJ)
      refine c8.bo (k:=(0,0)) (n:=7) (l:=fitZ) k00 hr rfl rfl P1 rfl rfl λh9 l9 hl9 c9=>?_
      subst hy
      have hall:=c9.all (k:=(0,0)) (n:=7) (l:=l9) (B:=R) (e:=T.aQ) Own.aj
      simp at hall
      simp[hall]
      exact hK _ _ (bI.of c9 (hl9▸hr) (by rw[he];rfl) λy e=>by rw[he]at e;cases e;rfl)
  refine eY (λρ h5=>h5=h4/\ρ=[(0,v),(1,Pp Pq pat),(2,ptr S),(4,ptr R),(5,.bool Py),(6,ptr Tb),(7,.slice b0 s.t.to.length k0),(13,ut),(16,.slice b0 s.t.to.length k0),(28,.bool Py)]) ?_ ?_
  · intro K2 hK2
    by_cases e0:pat=0
    · have e2:¬s.t.kind=4:=λe=>p2 ⟨e0,e⟩
      simp[e0,z0,e2]
      exact hK2 _ _ ⟨rfl,by rw[e0]⟩
    · simp[e0,z0]
      exact hK2 _ _ ⟨rfl,rfl⟩
  rintro _ h4 ⟨rfl,rfl⟩
  subst hy
  refine aU Sa ?_
  refine ab λy hy=>?_
  by_cases p3:pat=0/\s.t.kind=5
  · have he:ij s.f s.t pat=Pt ⟨[],[],[],⟨8,0,0,[],s.t.imm⟩⟩:=by unfold ij;rw[if_neg p1,if_neg p2,if_pos p3]
    simp[p3.1,z0,p3.2]
    subst hy
    simp[z3]
    refine aw (t:=T.fj) (z:=.agg #[Pp Pq 0,Pp Pq 0,Pp Pq 0,Pv Pu 0 0,Pp Ps 0]) (places:=[(0,1),(1,1),(2,1),(3,1),(4,1)]) (vs:=[(0,Pp Pq 8),(4,Pp Ps s.t.imm.v)]) (cs:=#[Pp Pq 8,Pp Pq 0,Pp Pq 0,Pv Pu 0 0,Pp Ps s.t.imm.v]) P1 P1 Sa (by simp[Instr.fill,Value.cells]) ?_
    refine aw (t:=T.aQ) (z:=.agg fitZ.toArray) (places:=[(0,1),(1,1),(2,1),(3,5)]) (vs:=[(3,.agg #[Pp Pq 8,Pp Pq 0,Pp Pq 0,Pv Pu 0 0,Pp Ps s.t.imm.v])]) (cs:=#[Pv Pu 0 0,Pv Pu 0 0,Pv Pu 0 0,Pp Pq 8,Pp Pq 0,Pp Pq 0,Pv Pu 0 0,Pp Ps s.t.imm.v]) P1 P1 Sa (by simp[Instr.fill,Value.cells]) ?_
    have hr:Rd W4 (.agg #[Pv Pu 0 0,Pv Pu 0 0,Pv Pu 0 0,Pp Pq 8,Pp Pq 0,Pp Pq 0,Pv Pu 0 0,Pp Ps s.t.imm.v]) (⟨[],[],[],⟨8,0,0,[],s.t.imm⟩⟩:FitD):=ll (ce:=[_,_,_,_,_]) aJ aJ aJ (kh Sa ri aJ)
    refine c4.bo (k:=(0,0)) (n:=7) (l:=fitZ) Ri hr rfl rfl P1 rfl rfl λh9 l9 hl9 c9=>?_
    have hall:=c9.all (k:=(0,0)) (n:=7) (l:=l9) (B:=R) (e:=T.aQ) Ri
    simp at hall
    simp[hall]
    exact hK _ _ (bI.of c9 (hl9▸hr) (by rw[he];rfl) λy e=>by rw[he]at e;cases e;rfl)
  refine eY (λρ h5=>h5=h4/\ρ=[(0,v),(1,Pp Pq pat),(2,ptr S),(4,ptr R),(5,.bool Py),(6,ptr Tb),(7,.slice b0 s.t.to.length k0),(13,ut),(16,.slice b0 s.t.to.length k0),(51,.bool Py)]) ?_ ?_
  · intro K2 hK2
    by_cases e0:pat=0
    · have e2:¬s.t.kind=5:=λe=>p3 ⟨e0,e⟩
      simp[e0,z0,e2]
      exact hK2 _ _ ⟨rfl,by rw[e0]⟩
    · simp[e0,z0]
      exact hK2 _ _ ⟨rfl,rfl⟩
  rintro _ h4 ⟨rfl,rfl⟩
  subst hy
  refine aU Sa ?_
  refine ab λy hy=>?_
  by_cases p4:pat=33/\s.t.kind=2
  · have he:ij s.f s.t pat=Pt ⟨s.t.args,[],[],⟨2,nth s.t.args 0,0,s.t.to,⟨0⟩⟩⟩:=by unfold ij;rw[if_neg p1,if_neg p2,if_neg p3,if_pos p4]
    have al:=htk.one P2
    have a0:=hva4.rng (i:=0) al
    have x0:=hva4.idx1 (k:=.i64) (i:=0) rfl P4 P2
    have d0:=hva4.int (View.le_refl W4) (i:=0) al
    simp[p4.1,z0,p4.2]
    subst hy
    refine aT Sa ?_
    refine ab λy hy=>?_
    refine aR W4 c4.wle ?_
    simp[s1,x0,d0]
    refine⟨?_,?_⟩
    · refine af P1 (dL c4.wle hva4 P2) ?_
      rintro ucl h5 ⟨hle5,hcl⟩
      have c5:=c4.ext hle5
      have hW5:=c4.up (h':=h5)
      refine⟨Pn hW5 c5.wle,?_⟩
      have hcl0:=hcl
      obtain⟨b1,k1,rfl,-⟩:=hcl0
      generalize grow W4 h4 h5=W5 at *
      refine aw (t:=T.fj) (z:=.agg #[Pp Pq 0,Pp Pq 0,Pp Pq 0,Pv Pu 0 0,Pp Ps 0]) (places:=[(0,1),(1,1),(2,1),(3,1),(4,1)]) (vs:=[(0,Pp Pq 2),(1,Pp Pq (nth s.t.args 0)),(3,.slice b0 s.t.to.length k0)]) (cs:=#[Pp Pq 2,Pp Pq (nth s.t.args 0),Pp Pq 0,.slice b0 s.t.to.length k0,Pp Ps 0]) P1 P1 Sa (by simp[Instr.fill,Value.cells]) ?_
      refine⟨Pn hW5 c5.wle,?_⟩
      refine aw (t:=T.aQ) (z:=.agg fitZ.toArray) (places:=[(0,1),(1,1),(2,1),(3,5)]) (vs:=[(0,.slice b1 s.t.args.length k1),(3,.agg #[Pp Pq 2,Pp Pq (nth s.t.args 0),Pp Pq 0,.slice b0 s.t.to.length k0,Pp Ps 0])]) (cs:=#[.slice b1 s.t.args.length k1,Pv Pu 0 0,Pv Pu 0 0,Pp Pq 2,Pp Pq (nth s.t.args 0),Pp Pq 0,.slice b0 s.t.to.length k0,Pp Ps 0]) P1 P1 Sa (by simp[Instr.fill,Value.cells]) ?_
      have hr:Rd W5 (.agg #[.slice b1 s.t.args.length k1,Pv Pu 0 0,Pv Pu 0 0,Pp Pq 2,Pp Pq (nth s.t.args 0),Pp Pq 0,.slice b0 s.t.to.length k0,Pp Ps 0]) (⟨s.t.args,[],[],⟨2,nth s.t.args 0,0,s.t.to,⟨0⟩⟩⟩:FitD):=ll (ce:=[_,_,_,_,_]) hcl aJ aJ (kh (imm:=⟨0⟩) P9 Sa (hto.mono hW5))
      refine c5.bo (k:=(0,0)) (n:=7) (l:=fitZ) Ri hr rfl rfl P1 rfl rfl λh9 l9 hl9 c9=>?_
      subst hy
      have hall:=c9.all (k:=(0,0)) (n:=7) (l:=l9) (B:=R) (e:=T.aQ) Ri
      simp at hall
      simp[hall]
      exact hK _ _ (bI.of c9 (hl9▸hr) (by rw[he];rfl) λy e=>by rw[he]at e;cases e;rfl)
    · refine aw (t:=T.fj) (z:=.agg #[Pp Pq 0,Pp Pq 0,Pp Pq 0,Pv Pu 0 0,Pp Ps 0]) (places:=[(0,1),(1,1),(2,1),(3,1),(4,1)]) (vs:=[(0,Pp Pq 2),(1,Pp Pq (nth s.t.args 0)),(3,.slice b0 s.t.to.length k0)]) (cs:=#[Pp Pq 2,Pp Pq (nth s.t.args 0),Pp Pq 0,.slice b0 s.t.to.length k0,Pp Ps 0]) P1 P1 Sa (by simp[Instr.fill,Value.cells]) ?_
      refine⟨c4.wle,?_⟩
      refine af P1 (dL c4.wle hva4 P2) ?_
      rintro ucl h5 ⟨hle5,hcl⟩
      have c5:=c4.ext hle5
      have hW5:=c4.up (h':=h5)
      refine⟨Pn hW5 c5.wle,?_⟩
      have hcl0:=hcl
      obtain⟨b1,k1,rfl,-⟩:=hcl0
      generalize grow W4 h4 h5=W5 at *
      refine aw (t:=T.aQ) (z:=.agg fitZ.toArray) (places:=[(0,1),(1,1),(2,1),(3,5)]) (vs:=[(0,.slice b1 s.t.args.length k1),(3,.agg #[Pp Pq 2,Pp Pq (nth s.t.args 0),Pp Pq 0,.slice b0 s.t.to.length k0,Pp Ps 0])]) (cs:=#[.slice b1 s.t.args.length k1,Pv Pu 0 0,Pv Pu 0 0,Pp Pq 2,Pp Pq (nth s.t.args 0),Pp Pq 0,.slice b0 s.t.to.length k0,Pp Ps 0]) P1 P1 Sa (by simp[Instr.fill,Value.cells]) ?_
      have hr:Rd W5 (.agg #[.slice b1 s.t.args.length k1,Pv Pu 0 0,Pv Pu 0 0,Pp Pq 2,Pp Pq (nth s.t.args 0),Pp Pq 0,.slice b0 s.t.to.length k0,Pp Ps 0]) (⟨s.t.args,[],[],⟨2,nth s.t.args 0,0,s.t.to,⟨0⟩⟩⟩:FitD):=ll (ce:=[_,_,_,_,_]) hcl aJ aJ (kh (imm:=⟨0⟩) P9 Sa (hto.mono hW5))
      refine c5.bo (k:=(0,0)) (n:=7) (l:=fitZ) Ri hr rfl rfl P1 rfl rfl λh9 l9 hl9 c9=>?_
      subst hy
      have hall:=c9.all (k:=(0,0)) (n:=7) (l:=l9) (B:=R) (e:=T.aQ) Ri
      simp at hall
      simp[hall]
      exact hK _ _ (bI.of c9 (hl9▸hr) (by rw[he];rfl) λy e=>by rw[he]at e;cases e;rfl)
  refine eY (λρ h5=>h5=h4/\ρ=[(0,v),(1,Pp Pq pat),(2,ptr S),(4,ptr R),(5,.bool Py),(6,ptr Tb),(7,.slice b0 s.t.to.length k0),(13,ut),(16,.slice b0 s.t.to.length k0),(63,.bool Py)]) ?_ ?_
  · intro K2 hK2
    by_cases e0:pat=33
    · have e2:¬s.t.kind=2:=λe=>p4 ⟨e0,e⟩
      simp[e0,z0,e2]
      exact hK2 _ _ ⟨rfl,by rw[e0]⟩
    · simp[e0,z0]
      exact hK2 _ _ ⟨rfl,rfl⟩
  rintro _ h4 ⟨rfl,rfl⟩
  subst hy
  refine aU Sa ?_
  refine ab λy hy=>?_
  by_cases p5:(34<=pat/\pat<=36)/\s.t.kind=2
  · have w5:inR pat 34 36=true:=by simp[inR,p5.1.1,p5.1.2]
    have al:=htk.one P2
    have a0:=hva4.rng (i:=0) al
    have x0:=hva4.idx1 (k:=.i64) (i:=0) rfl P4 P2
    simp
    refine af P1 iL ?_
    rintro _ h4 ⟨rfl,rfl⟩
    simp[w5,z0,p5.2]
    subst hy
    refine aT Sa ?_
    refine ab λy hy=>?_
    simp
    subst hy
    refine ab λy hy=>?_
    refine aR (vw h4) Pl ?_
    obtain⟨us,hus,rus⟩:=at1.ldN rfl (N:=13) rfl
    have hus:=hus _ (Pn hW3 (Pn hW4 c4.wle))
    have rus:=rus.mono (Pn hW3 hW4)
    have d0:=hva4.int c4.wle (i:=0) al
    have ek:(11:Int)+(pat-34)=pat-23:=by omega
    have ew0:IntKind.i64.wrap (pat-34)=pat-34:=bw P2 P2
    have ew:IntKind.i64.wrap (11+(pat-34))=pat-23:=by rw[bw P2 P2];omega
    have ew2:IntKind.i64.wrap (3+(pat-34))=pat-31:=by rw[bw P2 P2];omega
    have hE:ij s.f s.t pat=if(aL s.f (nth s.t.args 0) (pat-23)).2 then Pt ⟨(aL s.f (nth s.t.args 0) (pat-23)).1.args,s.t.args,[],⟨pat-31,nth (aL s.f (nth s.t.args 0) (pat-23)).1.args 0,nth (aL s.f (nth s.t.args 0) (pat-23)).1.args 1,s.t.to,⟨0⟩⟩⟩ else none:=by
      unfold ij;rw[if_neg p1,if_neg p2,if_neg p3,if_neg p4,if_pos p5]
    have hfm:=jG (f:=s.f) (v:=nth s.t.args 0) (op:=pat-23)
    have hfo:=mT (s:=s) (v:=us) (x:=nth s.t.args 0) (op:=pat-23) (W:=W4) (h:=h4)
    have rng : ∀{hx:Heap} {Wx:View},Cx W h Wx hx (Own.upd (λ_=>Pu) (0,0) (bx T.aQ R (RawN.mk (n:=7) fitZ)))->True:=λ_=>trivial
    generalize hm:(aL s.f (nth s.t.args 0) (pat-23)).1=m at *
    generalize hbb:(aL s.f (nth s.t.args 0) (pat-23)).2=b at *
    have c:=c4
    have hrefl:(vw h4).le (vw h4):=View.le_refl _
    repeat' (first
      | refine gB ?_ ?_
      | (refine bj λx hx=>?_
         simp[s1,z1,x0,d0,hus,ew0,ew]
         first
         | refine c.cj (k:=(0,2)) (n:=4) (z:=.agg #[Pp Pq 0,Pp Pq 0,Pp Pq 0,Pv Pu 0 0,Pp Ps 0]) Ri P1 rfl P4 P8 λBi h hle c=>?_
         | (refine af P1 (mT c.wle rus hok.sm a0) ?_
            rw[hm,hbb]
            rintro _ h ⟨hle,vm,rfl,hvm⟩
            have hW:=c.up (h':=h)
            have c:=c.ext hle)
         | refine c.bo (k:=(0,2)) (n:=4) (l:=[Pp Pq 0,Pp Pq 0,Pp Pq 0,Pv Pu 0 0,Pp Ps 0]) Ri (hvm.mono Pk) rfl rfl P1 rfl rfl λh l10 hl10 c=>?_
         try refine⟨Pk,?_⟩
         subst hx))
    all_goals
      simp
      subst hy
      have hvm0:=hvm
      obtain⟨a3,m3,k3,rfl⟩:=tU hvm0
      have hl10:=hl10
      have e10:l10=[Pp Pq m.op,Pp Pq m.dst,Pp Pq m.two,.slice a3 m3 k3,Pp Ps m.imm.v]:=by
        simp only[Value.agg.injEq]at hl10
        have:=congrArg Array.toList hl10
        simpa using this.symm
      subst e10
      have y10:=c.own.raw (k:=(0,2)) (n:=4) (l:=[Pp Pq m.op,Pp Pq m.dst,Pp Pq m.two,.slice a3 m3 k3,Pp Ps m.imm.v]) (B:=Bi) (e:=T.dT) Ri (i:=3) P4
      simp at y10
      have hma:=Ab hvm
      cases b with
      | false=>
        have he:ij s.f s.t pat=none:=by rw[hE];rfl
        refine ab λy hy=>?_
        simp
        refine aw (z:=.agg fitZ.toArray) (places:=[(0,1),(1,1),(2,1),(3,5)]) (vs:=[]) (cs:=fitZ.toArray) P1 P1 Sa P1 ?_
        refine c.bo (k:=(0,0)) (n:=7) (l:=fitZ) Ri eJ rfl rfl P1 rfl rfl λh9 l9 hl9 c9=>?_
        have hall:=c9.all (k:=(0,0)) (n:=7) (l:=l9) (B:=R) (e:=T.aQ) Ri
        simp at hall
        simp[hall]
        exact hK _ _ (bI.of c9 (hl9▸eJ) (by rw[he];rfl) λy e=>by rw[he]at e;cases e)
      | true=>
        have he:ij s.f s.t pat=Pt ⟨m.args,s.t.args,[],⟨pat-31,nth m.args 0,nth m.args 1,s.t.to,⟨0⟩⟩⟩:=by rw[hE];rfl
        obtain⟨mm1,mm2,-⟩:=hfm rfl
        have hal2:=(hok.all _ mm1).two P2
        have hmost:=(hok.all _ mm1).most
        have r0:=hma.rng (i:=0) P2
        have r1:=hma.rng (i:=1) P2
        have x2':=hma.idx1 (k:=.i64) (i:=0) rfl P4 P2
        have x3':=hma.idx1 (k:=.i64) (i:=1) rfl P4 P2
        refine ab λy hy=>?_
        simp
        subst hy
        refine ab λy hy=>?_
        refine aR (vw h) Pl ?_
        have d2':=hma.int (Pn Pk c.wle) (i:=0) P2
        have d3':=hma.int (Pn Pk c.wle) (i:=1) P2
        have s1h:=ae (Pn Pk c.wle) s1
        have d0h:=hva4.int (Pn Pk c.wle) (i:=0) al
        have hva5:=hva4.mono Pk
        have hto5:=hto.mono Pk
        have hma5:=hma.mono Pk
        have hH:(vw h).le (vw h):=View.le_refl _
        have hr : ∀{X:View} {bA bB:Option Addr} {kA kB:Nat},SlRd X (.slice bA m.args.length kA) m.args->SlRd X (.slice bB s.t.args.length kB) s.t.args->SlRd X (.slice b0 s.t.to.length k0) s.t.to->Rd X (.agg #[.slice bA m.args.length kA,.slice bB s.t.args.length kB,Pv Pu 0 0,Pp Pq (pat-31),Pp Pq (nth m.args 0),Pp Pq (nth m.args 1),.slice b0 s.t.to.length k0,Pp Ps 0]) (⟨m.args,s.t.args,[],⟨pat-31,nth m.args 0,nth m.args 1,s.t.to,⟨0⟩⟩⟩:FitD):=λq1 q2 q3=>ll (ce:=[_,_,_,_,_]) q1 q2 aJ (kh (imm:=⟨0⟩) P9 Sa q3)
        repeat' (first
          | refine gB ?_ ?_
          | (refine bj λx hx=>?_
             simp[y10,s1h,x2',x3',d2',d3',ew2]
             first
             | refine aw (t:=T.fj) (z:=.agg #[Pp Pq 0,Pp Pq 0,Pp Pq 0,Pv Pu 0 0,Pp Ps 0]) (places:=[(0,1),(1,1),(2,1),(3,1),(4,1)]) (vs:=[(0,Pp Pq (pat-31)),(1,Pp Pq (nth m.args 0)),(2,Pp Pq (nth m.args 1)),(3,.slice b0 s.t.to.length k0)]) (cs:=#[Pp Pq (pat-31),Pp Pq (nth m.args 0),Pp Pq (nth m.args 1),.slice b0 s.t.to.length k0,Pp Ps 0]) P1 P1 Sa (by simp[Instr.fill,Value.cells]) ?_
             | (refine af P1 (dL c.wle (hma5.mono Pk) P2) ?_
                rintro uA h ⟨hle,hcA⟩
                have hW:=c.up (h':=h)
                have c:=c.ext hle
                have hcA0:=hcA
                obtain⟨bA,kA,rfl,-⟩:=hcA0)
             | (refine af P1 (dL c.wle (hva5.mono Pk) P2) ?_
                rintro uB h ⟨hle,hcB⟩
                have hW:=c.up (h':=h)
                have c:=c.ext hle
                have hcB0:=hcB
                obtain⟨bB,kB,rfl,-⟩:=hcB0)
             | refine aw (t:=T.aQ) (z:=.agg fitZ.toArray) (places:=[(0,1),(1,1),(2,1),(3,5)]) (vs:=[(0,.slice bA m.args.length kA),(1,.slice bB s.t.args.length kB),(3,.agg #[Pp Pq (pat-31),Pp Pq (nth m.args 0),Pp Pq (nth m.args 1),.slice b0 s.t.to.length k0,Pp Ps 0])]) (cs:=#[.slice bA m.args.length kA,.slice bB s.t.args.length kB,Pv Pu 0 0,Pp Pq (pat-31),Pp Pq (nth m.args 0),Pp Pq (nth m.args 1),.slice b0 s.t.to.length k0,Pp Ps 0]) P1 P1 Sa (by simp[Instr.fill,Value.cells]) ?_
             | refine c.bo (k:=(0,0)) (n:=7) (l:=fitZ) Ri (hr (hcA.mono Pk) (hcB.mono Pk) (hto5.mono Pk)) rfl rfl P1 rfl rfl λh l9 hl9 c=>?_
             try refine⟨Pk,?_⟩
             subst hx))
        all_goals
          simp
          rw[hy]
          have hall:=c.all (k:=(0,0)) (n:=7) (l:=l9) (B:=R) (e:=T.aQ) Ri
          simp at hall
          simp[hall]
          exact hK _ _ (bI.of c (hl9▸hr (hcA.mono Pk) (hcB.mono Pk) (hto5.mono Pk)) (by rw[he];rfl) λy e=>by rw[he]at e;cases e;rfl)
  refine eY (λρ h5=>h5=h4/\ρ=[(0,v),(1,Pp Pq pat),(2,ptr S),(4,ptr R),(5,.bool Py),(6,ptr Tb),(7,.slice b0 s.t.to.length k0),(13,ut),(16,.slice b0 s.t.to.length k0),(81,.bool Py),(83,.bool (inR pat 34 36))]) ?_ ?_
  · intro K2 hK2
    simp
    refine af P1 iL ?_
    rintro _ h4 ⟨rfl,rfl⟩
    by_cases e0:inR pat 34 36=Px
    · have e2:¬s.t.kind=2:=λe=>p5 ⟨by simpa[inR]using e0,e⟩
      simp[e0,z0,e2]
      exact hK2 _ _ ⟨rfl,by rw[e0]⟩
    · have e0:inR pat 34 36=false:=by simpa using e0
      simp[e0]
      exact hK2 _ _ ⟨rfl,by rw[e0]⟩
  rintro _ h4 ⟨rfl,rfl⟩
  subst hy
  refine aU Sa ?_
  refine ab λy hy=>?_
  by_cases p6:pat=37/\s.t.kind=3
  · have he:ij s.f s.t pat=Pt ⟨s.t.args,[],[],⟨6,nth s.t.args 0,0,s.t.to,⟨0⟩⟩⟩:=by unfold ij;rw[if_neg p1,if_neg p2,if_neg p3,if_neg p4,if_neg p5,if_pos p6]
    have al:=htk.one P2
    have a0:=hva4.rng (i:=0) al
    have x0:=hva4.idx1 (k:=.i64) (i:=0) rfl P4 P2
    have d0:=hva4.int (View.le_refl W4) (i:=0) al
    simp[p6.1,z0,p6.2]
    subst hy
    refine aT Sa ?_
    refine ab λy hy=>?_
    refine aR W4 c4.wle ?_
    simp[s1,x0,d0]
    refine⟨?_,?_⟩
    · refine af P1 (dL c4.wle hva4 P2) ?_
      rintro ucl h5 ⟨hle5,hcl⟩
      have c5:=c4.ext hle5
      have hW5:=c4.up (h':=h5)
      refine⟨Pn hW5 c5.wle,?_⟩
      have hcl0:=hcl
      obtain⟨b1,k1,rfl,-⟩:=hcl0
      generalize grow W4 h4 h5=W5 at *
      refine aw (t:=T.fj) (z:=.agg #[Pp Pq 0,Pp Pq 0,Pp Pq 0,Pv Pu 0 0,Pp Ps 0]) (places:=[(0,1),(1,1),(2,1),(3,1),(4,1)]) (vs:=[(0,Pp Pq 6),(1,Pp Pq (nth s.t.args 0)),(3,.slice b0 s.t.to.length k0)]) (cs:=#[Pp Pq 6,Pp Pq (nth s.t.args 0),Pp Pq 0,.slice b0 s.t.to.length k0,Pp Ps 0]) P1 P1 Sa (by simp[Instr.fill,Value.cells]) ?_
      refine⟨Pn hW5 c5.wle,?_⟩
      refine aw (t:=T.aQ) (z:=.agg fitZ.toArray) (places:=[(0,1),(1,1),(2,1),(3,5)]) (vs:=[(0,.slice b1 s.t.args.length k1),(3,.agg #[Pp Pq 6,Pp Pq (nth s.t.args 0),Pp Pq 0,.slice b0 s.t.to.length k0,Pp Ps 0])]) (cs:=#[.slice b1 s.t.args.length k1,Pv Pu 0 0,Pv Pu 0 0,Pp Pq 6,Pp Pq (nth s.t.args 0),Pp Pq 0,.slice b0 s.t.to.length k0,Pp Ps 0]) P1 P1 Sa (by simp[Instr.fill,Value.cells]) ?_
      have hr:Rd W5 (.agg #[.slice b1 s.t.args.length k1,Pv Pu 0 0,Pv Pu 0 0,Pp Pq 6,Pp Pq (nth s.t.args 0),Pp Pq 0,.slice b0 s.t.to.length k0,Pp Ps 0]) (⟨s.t.args,[],[],⟨6,nth s.t.args 0,0,s.t.to,⟨0⟩⟩⟩:FitD):=ll (ce:=[_,_,_,_,_]) hcl aJ aJ (kh (imm:=⟨0⟩) P9 Sa (hto.mono hW5))
      refine c5.bo (k:=(0,0)) (n:=7) (l:=fitZ) Ri hr rfl rfl P1 rfl rfl λh9 l9 hl9 c9=>?_
      subst hy
      have hall:=c9.all (k:=(0,0)) (n:=7) (l:=l9) (B:=R) (e:=T.aQ) Ri
      simp at hall
      simp[hall]
      exact hK _ _ (bI.of c9 (hl9▸hr) (by rw[he];rfl) λy e=>by rw[he]at e;cases e;rfl)
    · refine aw (t:=T.fj) (z:=.agg #[Pp Pq 0,Pp Pq 0,Pp Pq 0,Pv Pu 0 0,Pp Ps 0]) (places:=[(0,1),(1,1),(2,1),(3,1),(4,1)]) (vs:=[(0,Pp Pq 6),(1,Pp Pq (nth s.t.args 0)),(3,.slice b0 s.t.to.length k0)]) (cs:=#[Pp Pq 6,Pp Pq (nth s.t.args 0),Pp Pq 0,.slice b0 s.t.to.length k0,Pp Ps 0]) P1 P1 Sa (by simp[Instr.fill,Value.cells]) ?_
      refine⟨c4.wle,?_⟩
      refine af P1 (dL c4.wle hva4 P2) ?_
      rintro ucl h5 ⟨hle5,hcl⟩
      have c5:=c4.ext hle5
      have hW5:=c4.up (h':=h5)
      refine⟨Pn hW5 c5.wle,?_⟩
      have hcl0:=hcl
      obtain⟨b1,k1,rfl,-⟩:=hcl0
      generalize grow W4 h4 h5=W5 at *
      refine aw (t:=T.aQ) (z:=.agg fitZ.toArray) (places:=[(0,1),(1,1),(2,1),(3,5)]) (vs:=[(0,.slice b1 s.t.args.length k1),(3,.agg #[Pp Pq 6,Pp Pq (nth s.t.args 0),Pp Pq 0,.slice b0 s.t.to.length k0,Pp Ps 0])]) (cs:=#[.slice b1 s.t.args.length k1,Pv Pu 0 0,Pv Pu 0 0,Pp Pq 6,Pp Pq (nth s.t.args 0),Pp Pq 0,.slice b0 s.t.to.length k0,Pp Ps 0]) P1 P1 Sa (by simp[Instr.fill,Value.cells]) ?_
      have hr:Rd W5 (.agg #[.slice b1 s.t.args.length k1,Pv Pu 0 0,Pv Pu 0 0,Pp Pq 6,Pp Pq (nth s.t.args 0),Pp Pq 0,.slice b0 s.t.to.length k0,Pp Ps 0]) (⟨s.t.args,[],[],⟨6,nth s.t.args 0,0,s.t.to,⟨0⟩⟩⟩:FitD):=ll (ce:=[_,_,_,_,_]) hcl aJ aJ (kh (imm:=⟨0⟩) P9 Sa (hto.mono hW5))
      refine c5.bo (k:=(0,0)) (n:=7) (l:=fitZ) Ri hr rfl rfl P1 rfl rfl λh9 l9 hl9 c9=>?_
      subst hy
      have hall:=c9.all (k:=(0,0)) (n:=7) (l:=l9) (B:=R) (e:=T.aQ) Ri
      simp at hall
      simp[hall]
      exact hK _ _ (bI.of c9 (hl9▸hr) (by rw[he];rfl) λy e=>by rw[he]at e;cases e;rfl)
  refine eY (λρ h5=>h5=h4/\ρ=[(0,v),(1,Pp Pq pat),(2,ptr S),(4,ptr R),(5,.bool Py),(6,ptr Tb),(7,.slice b0 s.t.to.length k0),(13,ut),(16,.slice b0 s.t.to.length k0),(83,.bool (inR pat 34 36)),(124,.bool Py)]) ?_ ?_
  · intro K2 hK2
    by_cases e0:pat=37
    · have e2:¬s.t.kind=3:=λe=>p6 ⟨e0,e⟩
      simp[e0,z0,e2]
      exact hK2 _ _ ⟨rfl,by rw[e0]⟩
    · simp[e0,z0]
      exact hK2 _ _ ⟨rfl,rfl⟩
  rintro _ h4 ⟨rfl,rfl⟩
  subst hy
  refine aU Sa ?_
  have he:ij s.f s.t pat=none:=by unfold ij;rw[if_neg p1,if_neg p2,if_neg p3,if_neg p4,if_neg p5,if_neg p6]
  simp
  subst hz
  refine ab λz hz=>?_
  simp
  refine aw (z:=.agg fitZ.toArray) (places:=[(0,1),(1,1),(2,1),(3,5)]) (vs:=[]) (cs:=fitZ.toArray) P1 P1 Sa P1 ?_
  refine c4.bo (k:=(0,0)) (n:=7) (l:=fitZ) Ri eJ rfl rfl P1 rfl rfl λh9 l9 hl9 c9=>?_
  subst hz
  have hall:=c9.all (k:=(0,0)) (n:=7) (l:=l9) (B:=R) (e:=T.aQ) Ri
  simp at hall
  simp[hall]
  exact hK _ _ (bI.of c9 (hl9▸eJ) (by rw[he];rfl) λy e=>by rw[he]at e;cases e)
end Go.Proofs.YtnfiilgdjpdlkaaGreatDoor
namespace Go.Proofs.YtnfiilgdjpdlkaaGreatDoor
open Go Go.Lft
theorem Cx.upW{V W W':View}{h0 h h':Heap}{o:Own}(c:Cx V h0 W h o)(hle:(vw h).le (vw h'))(u:Up W h W')(hW:W'.le (vw h')):Cx V h0 W' h' o:=by
 have A : ∀k i b,o k=Pt i->i.v.ownBlock=Pt b->W' b=none:=λk i b hk hb=>by
  have hlt:=c.own.lt hk hb;have hav:=c.own.av k i hk b hb;cases hx:W' b with
  | none=>rfl
  | some x=>rw[u.old b x hlt hx]at hav;cases hav
 exact⟨(c.own.ext' hle).Io u.le hW A,λb x hb hx=>c.old b x hb (u.old b x (NU hb (bY c.le0)) hx),Pn c.le0 hle,c.new⟩
theorem Iu{s:bS}{v:Value}{pat:Int}{h:Heap}{W:View}(hW:W.le (vw h))(hv:Rd W v s)(hok:s.term=Py->ln s)(htk:s.term=Px->ln s/\vK s.t)(hM:s.i.op=15\/s.i.op=16->lA)(hp:I64 pat):
  az Pz 39 #[v,Pp Pq pat] h (λu h'=>bI W h h' u (tryS s pat)):=by
 refine aq (args:=[v,Pp Pq pat]) follows Tryz.func39 E.jR Pj λK hK=>?_;dsimp only[L.jR,lkF,lkG];have c0:=Cx.start hW;refine ab λz hz=>?_;simp;refine c0.dh rfl hv λS h1 W1 hW1 c1 at1 hle1=>?_;refine c1.cj (k:=(0,0)) (n:=7) (z:=.agg fitZ.toArray) rfl P1 rfl P4 P8 λR h2 hle2 c2=>?_;subst hz;have tm:=(at1.part bS.nA).bool;have tm:ak W1 ⟨S,11,Pu⟩=Pt (.bool s.term):=by simpa using tm
 have tm:=ae c2.wle tm;obtain⟨us,hus,rus⟩:=at1.ldN rfl (N:=13) rfl;have hus:=hus _ c2.wle;refine ab λz hz=>?_;cases ht:s.term with
 | true=>
  rw[ht]at tm;obtain⟨hk1,hk2⟩:=htk ht;have e:tryS s pat=ij s.f s.t pat:=by unfold tryS;rw[if_pos ht]
  rw[e]at hK;simp[tm,hus];refine af P1 (Ja c2.wle rus hk1 hk2 hp) ?_;rintro _ h3 ⟨hle3,vf,x,rfl,hvf,hx⟩;have c3:=c2.ext hle3;simp;refine c3.bo (k:=(0,0)) (n:=7) (l:=fitZ) Ri hvf rfl rfl P1 rfl rfl λh9 l9 hl9 c9=>?_;have hall:=c9.all (k:=(0,0)) (n:=7) (l:=l9) (B:=R) (e:=T.aQ) Ri;simp at hall;simp[hall];exact hK _ _ (bI.of c9 (hl9▸hvf) rfl hx)
 | false=>
  rw[ht]at tm;have e:tryS s pat=patS s.f s.i s.temp pat:=by unfold tryS;rw[ht];rfl
  rw[e]at hK;simp[tm];subst hz;refine ab λz hz=>?_;simp[hus];refine af P1 (z7 c2.wle rus (hok ht) ht hM) ?_;rintro _ h3 ⟨r,W3,rfl,u3,p3,hle3⟩;have c3:=Cx.upW c2 hle3 u3 p3.wle;obtain⟨g,g1,g2,g3⟩:=p3.ex;refine lT (f:=mapE id g) (z:=.nilFunc) (k:=T.int) (e:=T.ft) (d:=.int .i64) (r:=r) (u:=Pp Pq pat) U.cn U.int P1 rfl rfl eC g1 ?_;simp;subst hz;refine ab λz hz=>?_;have g2p:=g2 pat;have g3p:=g3 pat;cases hg:g pat with
  | none=>
   rw[hg]at g2p;have e0:patS s.f s.i s.temp pat=none:=by unfold patS;rw[if_neg];rintro⟨a1,a2,-⟩;simp[nTo]at g2p;omega
   rw[e0]at hK;simp;refine aw (t:=T.aQ) (z:=.agg fitZ.toArray) (places:=[(0,1),(1,1),(2,1),(3,5)]) (vs:=[]) (cs:=fitZ.toArray) P1 P1 Sa P1 ?_;refine c3.bo (k:=(0,0)) (n:=7) (l:=fitZ) Ri eJ rfl rfl P1 rfl rfl λh9 l9 hl9 c9=>?_;have hall:=c9.all (k:=(0,0)) (n:=7) (l:=l9) (B:=R) (e:=T.aQ) Ri;simp at hall;simp[hall];exact hK _ _ (bI.of c9 (hl9▸eJ) rfl λy e=>by cases e)
  | some fv=>obtain⟨fn,caps,rfl,hfn,hcall⟩:=(g3p fv hg).ex;simp;subst hz;refine ab λz hz=>?_;simp;refine bH (ops:=[]) rfl hfn (by simpa using hcall h3 W3 Pl p3.wle) ?_;rintro _ h4 ⟨hle4,vf,x,rfl,hvf,hx⟩;have c4:=c3.ext hle4;simp;refine c4.bo (k:=(0,0)) (n:=7) (l:=fitZ) Ri hvf rfl rfl P1 rfl rfl λh9 l9 hl9 c9=>?_;subst hz;have hall:=c9.all (k:=(0,0)) (n:=7) (l:=l9) (B:=R) (e:=T.aQ) Ri;simp at hall;simp[hall];exact hK _ _ (bI.of c9 (hl9▸hvf) rfl hx)
abbrev RSt:=List Bool × List Int
def jl (wo:Int) (to:List Int) (k:Nat) (s:RSt):RSt:=
 if(0<=nth to k/\nth to k<s.1.length)/\nth s.1 (nth to k).toNat=Py/\nth to k≠wo then(s.1.set (nth to k).toNat Px,s.2++[nth to k]) else s
def tV (f:an) (wo:Int) (i:Nat) (s:RSt):RSt:=up (jl wo (nth f.blocks (nth s.2 i).toNat).term.to) (nth f.blocks (nth s.2 i).toNat).term.to.length s
def rchS (f:an) (wo:Int):Nat->Nat->RSt->RSt
 | 0,_,s=>s
 | n+1,i,s=>if i<s.2.length then rchS f wo n (i+1) (tV f wo i s) else s
def rch0 (f:an) (wo:Int):RSt:=if wo≠0/\0<f.blocks.length then((List.replicate f.blocks.length Py).set 0 Px,[0]) else(List.replicate f.blocks.length Py,[])
def dP (f:an) (wo:Int):List Bool:=(rchS f wo (f.blocks.length+1) 0 (rch0 f wo)).1
structure ROk (n:Nat) (s:RSt):Prop where
 len:s.1.length=n
 cnt:s.2.length+cU s.1<=n
 rng : ∀x∈s.2,0<=x/\x<n
variable{wo:Int}
theorem zy{n:Nat}{to:List Int}{k:Nat}{s:RSt}(h:ROk n s):ROk n (jl wo to k s):=by
 unfold jl;split
 ·rename_i hc;have hf:=iM (t:=s.1) (i:=(nth to k).toNat) P2 hc.2.1;refine⟨by simpa using h.len,?_,λx hx=>?_⟩
  ·have:=h.cnt;simp only[LA,LP];omega
  rcases Lt.1 hx with hx | hx
  ·exact h.rng x hx
  rw[Lw.1 hx,<-h.len];exact hc.1
 exact h
theorem vH{n:Nat}{to:List Int}{s:RSt}(h:ROk n s)(m:Nat):ROk n (up (jl wo to) m s):=rM (ROk n) (λk x hx=>zy hx) m s h
theorem yz{f:an}:ROk f.blocks.length (rch0 f wo):=by
 unfold rch0;have hfa:cU (List.replicate f.blocks.length Py)=f.blocks.length:=by simp[cU]
 split
 ·rename_i hc;have hf:=iM (t:=List.replicate f.blocks.length Py) (i:=0) (by simpa using hc.2) (by rw[aA (by simpa using hc.2)];simp);exact⟨by simp,by simp only[LP];omega,λx hx=>by rw[Lw.1 hx];omega⟩
 exact⟨by simp,by simp only[NS];omega,λx hx=>by cases hx⟩
theorem CC {f:an} {wo:Int} : ∀{m i:Nat} {s:RSt},ROk f.blocks.length s->ROk f.blocks.length (rchS f wo m i s)
 | 0,_,_,h=>h
 | m+1,i,s,h=>by
  rw[rchS];split
  ·exact CC (vH h _)
  exact h
theorem qR{f:an}:(dP f wo).length=f.blocks.length:=(CC yz).len
def qj (vo vq:Value) (s:RSt):Own:=λk=>if k=(0,0) then it T.bool vo s.1 else if k=(0,1) then it T.int vq s.2 else Pu
theorem uH{f:an}{v:Value}{h:Heap}(hv:Rd (vw h) v f)(hn:f.blocks.length<=1000000):
  az Pz 53 #[v,Pp Pq wo] h (λu h'=>(vw h).le (vw h')/\SlRd (fresh h h') u (dP f wo)):=by
 refine aq (args:=[v,Pp Pq wo]) follows Tryz.func53 E.bV Pj λK hK=>?_;dsimp only[L.bV,lkF,lkG];refine ab λz hz=>?_;simp;refine gT rfl hv λh1 _ hle1 hsz1 hat=>?_;obtain⟨_,vb,cb⟩:=jd hat;generalize h.size=B at cb;subst hz;refine ab λz hz=>?_;simp[cb.1,cb.2.len];refine mZ (α:=Bool) (W:=vw h1) (k:=.i64) (n:=f.blocks.length) (d:=false) El.ny Sa Sa rfl P2 P2 λvo h2 o2 m2 hle2 hb2=>?_;have w2:=(Owns.start (h:=h1) (View.le_refl (vw h1))).add (k:=(0,0)) rfl o2 hle2 (λb hb=>by rw[hb2]at hb;cases hb;exact Lp _);subst hz;refine ab λz hz=>?_;simp;refine qT (α:=Int) El.aP λh3 hle3 hsz3 own3=>?_;have w3:=w2.add (k:=(0,1)) rfl (own3 _) hle3 (λb hb=>by simp only[Value.ownBlock,Ln]at hb;omega);have w3:Owns (vw h1) h3 (qj vo (Pv (Pt ⟨h2.size,0,Pu⟩) 0 0) (List.replicate f.blocks.length Py,[])):=w3.congr λq=>by
  unfold qj Own.upd;repeat' split
  all_goals first | rfl | simp_all
 generalize Pv (Pt ⟨h2.size,0,Pu⟩) 0 0=vq at w3;subst hz;refine ab λz hz=>?_;have cc3:=ae w3.wle cb.1;have cb3:=cb.2.mono w3.wle;have fin : ∀(h4:Heap) (vq:Value) (tl:Env),Owns (vw h1) h4 (qj vo vq (rch0 f wo))->@LC.wp noPP Pz z (@dF [.tmp 4] K) ([(0,v),(1,Pp Pq wo),(2,Pw (Pt ⟨B,0,Pu⟩)),(4,Pv Pu 0 0),(5,vo),(6,vq)]++tl) h4:=by
  intro h4 vq tl w4;subst hz;refine ab λz hz=>?_;simp;refine jq [1,2,5,6,7] (λm ρ h5=>∃(i:Nat) (s:RSt) (vq:Value),i<=f.blocks.length/\m=f.blocks.length+1-i/\ρ=[(1,Pp Pq wo),(2,Pw (Pt ⟨B,0,Pu⟩)),(5,vo),(6,vq),(7,Pp Pq i)]/\Owns (vw h1) h5 (qj vo vq s)/\ROk f.blocks.length s/\
   (rchS f wo m i s).1=dP f wo) (f.blocks.length+1) ⟨0,_,vq,by omega,rfl,by simp[bL,ag],w4,yz,rfl⟩ ?_;rintro m ρ h5 ⟨i,s,vq5,hi,rfl,rfl,w5,hok,hfin⟩ K2 hK2;have no:=w5.now (k:=(0,0)) (v:=vo) (l:=s.1) rfl;have nq:=w5.now (k:=(0,1)) (v:=vq5) (l:=s.2) rfl;have hcnt:=hok.cnt;by_cases hlt:i<s.2.length
  ·have hm:f.blocks.length+1-i=(f.blocks.length-i)+1:=by omega
   rw[hm,rchS,if_pos hlt]at hfin;obtain⟨r0,r1⟩:=hok.rng _ (bJ hlt);have cb5:=cb.2.mono w5.wle;obtain⟨w,hw⟩:=yH cb5 (i:=(nth s.2 i).toNat) P2;obtain⟨w',hw'⟩:=yH cb.2 (i:=(nth s.2 i).toNat) P2;have eww:w'=w:=Option.some.inj ((ae w5.wle hw'.1).symm.trans hw.1);rw[eww]at hw';have hwb:=hw.2.bound;have hrow:tV f wo i s=up (jl wo (nth f.blocks (nth s.2 i).toNat).term.to) (nth f.blocks (nth s.2 i).toNat).term.to.length s:=rfl;rw[hrow]at hfin;generalize hto:(nth f.blocks (nth s.2 i).toNat).term.to=to at hw hw' hwb hfin;refine ab λy hy=>?_;simp(disch:=omega)[nq.len,hlt];subst hy;refine ab λy hy=>?_;refine ab λx hx=>?_;simp(disch:=omega)[ae w5.wle cb.1,cb5.idxn (N:=6) rfl,nq.idx1 rfl,nq.int Pl,hw.1];subst hx;simp;refine cS [1,2,5,6,7,8,9] (fun(q:Value) j=>[Pp Pq wo,Pw (Pt ⟨B,0,Pu⟩),vo,q,Pp Pq i,w,Pp Pq j]) (λq j h6=>Owns (vw h1) h6 (qj vo q (up (jl wo to) j s))) to.length vq5
    rfl P2 rfl w5 (λ_ _=>rfl) (λv j h4 hk m=>by simp[hw.2.len]) ?_ ?_
   ·rintro q j h6 hltj w6 K3 hK3;have hst:up (jl wo to) (j+1) s=jl wo to j (up (jl wo to) j s):=rfl;have hok6:=vH (wo:=wo) (to:=to) hok j;generalize up (jl wo to) j s=s6 at w6 hst hok6;have no6:=w6.now (k:=(0,0)) (v:=vo) (l:=s6.1) rfl;have nq6:=w6.now (k:=(0,1)) (v:=q) (l:=s6.2) rfl;have hcnt6:=hok6.cnt;have hlen6:=hok6.len;have hr6:=hw'.2.mono w6.wle;have hrng:=hw'.2.range hltj;rw[jl]at hst;by_cases c1:0<=nth to j/\nth to j<s6.1.length
    ·have c1a:=c1.1;have c1b:=c1.2;cases c2:nth s6.1 (nth to j).toNat with
     | true=>rw[if_neg (by rw[c2];simp)]at hst;simp(disch:=omega)[hr6.idx1 rfl,hr6.int Pl,no6.len,no6.idx1 rfl,no6.bool Pl,c1a,c1b,c2];exact hK3 q _ _ rfl rfl (by rw[hst];exact w6)
     | false=>
      by_cases c3:nth to j=wo
      ·rw[if_neg (by simp[c3])]at hst;rw[c3]at c1a c1b c2;simp(disch:=omega)[hr6.idx1 rfl,hr6.int Pl,no6.len,no6.idx1 rfl,no6.bool Pl,c1a,c1b,c2,c3];exact hK3 q _ _ rfl rfl (by rw[hst];exact w6)
      rw[if_pos ⟨c1,c2,c3⟩]at hst;refine ab λx hx=>?_;simp(disch:=omega)[hr6.idx1 rfl,hr6.int Pl,no6.len,no6.idx1 rfl,no6.bool Pl,c1a,c1b,c2,c3];subst hx;simp(disch:=omega)[hr6.idx1 rfl,hr6.int Pl,no6.idx1 rfl];refine w6.bo (k:=(0,0)) (α:=Bool) (l:=s6.1) (v:=vo) (i:=(nth to j).toNat) (d:=true) rfl P1 (by simp[show Rep.n Bool=1 from rfl]) (by simp<;>rfl) P2 Ji λh7 w7 hs7=>?_;have hr7:=hw'.2.mono w7.wle;simp(disch:=omega)[hr7.idx1 rfl,hr7.int Pl];refine w7.fM (k:=(0,1)) (α:=Int) (v:=q) (l:=s6.2) (d:=nth to j) rfl El.aP (by simp<;>rfl) (om hrng.1 hrng.2) P2 P2 P5 P5 λu q8 h8 w8 hs8=>?_;refine hK3 q8 _ _ rfl rfl ?_;rw[hst];refine w8.congr λq=>?_;unfold qj Own.upd;repeat' split
      all_goals first | rfl | simp_all
    rw[if_neg (λe=>c1 e.1)]at hst;by_cases c1a:0<=nth to j
    ·have c1b:¬nth to j<s6.1.length:=λe=>c1 ⟨c1a,e⟩;simp(disch:=omega)[hr6.idx1 rfl,hr6.int Pl,no6.len,c1a,c1b];exact hK3 q _ _ rfl rfl (by rw[hst];exact w6)
    simp(disch:=omega)[hr6.idx1 rfl,hr6.int Pl,no6.len,c1a];exact hK3 q _ _ rfl rfl (by rw[hst];exact w6)
   rintro q h6 w6;simp;subst hy;simp(disch:=omega);exact hK2 (f.blocks.length+1-(i+1)) _ _ P2 ⟨i+1,_,q,by omega,rfl,by simp[bL],w6,vH hok _,by rw[show f.blocks.length+1-(i+1)=f.blocks.length-i by omega];exact hfin⟩
  have hlt':¬(i:Int)<s.2.length:=by omega
  simp(disch:=omega)[L.bV.l1,nq.len,hlt];subst hz;simp;have hs1:s.1=dP f wo:=by
   rw[<-hfin];cases f.blocks.length+1-i with
   | zero=>rfl
   | succ m=>rw[rchS,if_neg hlt]
  have ow:=w5.get (k:=(0,0)) (v:=vo) (l:=s.1) rfl;refine hK _ _ ⟨Pn hle1 w5.wle,?_⟩;rw[<-hs1];have ow':OwnT nothing h5 T.bool vo s.1:=ow;refine ow'.fresh (λ_ _ h=>by cases h) λb hb=>?_;rw[hb2]at hb;cases hb;exact View.cr Pl P2
 by_cases c1:wo=0
 ·have hr0:rch0 f wo=(List.replicate f.blocks.length Py,[]):=by rw[rch0,if_neg (λe=>e.1 c1)]
  rw[hr0]at fin;simp[cc3,cb3.len,c1];rw[c1]at fin;exact fin _ _ _ w3
 by_cases c2:0<f.blocks.length
 ·have hr0:rch0 f wo=((List.replicate f.blocks.length Py).set 0 Px,[0]):=by rw[rch0,if_pos ⟨c1,c2⟩]
  rw[hr0]at fin;have no:=w3.now (k:=(0,0)) (v:=vo) (l:=List.replicate f.blocks.length Py) rfl;refine ab λy hy=>?_;simp(disch:=omega)[cc3,cb3.len,c1,c2];subst hy;have i0:Bn.ev (.idx 1) vo (Pp Pq 0)=Pt (Pw (Pt ((slA vo).add 0))):=no.idx1 rfl P2 (by simpa using c2);simp(disch:=omega)[i0];refine w3.bo (k:=(0,0)) (α:=Bool) (l:=List.replicate f.blocks.length Py) (v:=vo) (i:=0) (d:=true) rfl P1 (by simp[show Rep.n Bool=1 from rfl]) (by simp<;>rfl) (by simpa using c2) Ji λh4 w4 hs4=>?_;refine w4.fM (k:=(0,1)) (α:=Int) (v:=vq) (l:=[]) (d:=0) rfl El.aP (by simp<;>rfl) (om P2 P2) Sa Sa P5 P5 λu q5 h5 w5 hs5=>?_;refine fin _ _ _ (w5.congr λq=>?_);unfold qj Own.upd;repeat' split
  all_goals first | rfl | simp_all
 have hr0:rch0 f wo=(List.replicate f.blocks.length Py,[]):=by rw[rch0,if_neg (λe=>c2 e.2)]
 rw[hr0]at fin;simp[cc3,cb3.len,c1,c2];exact fin _ _ _ w3
theorem np{l:List BlkD}:(ofG l).length=l.length:=by simp[ofG]
theorem rn{l:List BlkD}{a b:Int}:mS (ofG l) a b=Px↔(0<=a/\a<l.length/\0<=b/\b<l.length)/\b∈(nth l a.toNat).term.to:=by
 rw[gN,np];constructor
 ·rintro⟨h,hm⟩;rw[ofG,fm P2,rG]at hm;exact⟨h,hm.1⟩
 rintro⟨h,hm⟩;refine⟨h,?_⟩;rw[ofG,fm P2,rG];exact⟨hm,h.2.2.1,h.2.2.2⟩
structure Rb (f:an) (wo:Int) (s:RSt):Prop where
 ok:ROk f.blocks.length s
 seen : ∀b:Nat,b<f.blocks.length->(nth s.1 b=Px↔(b:Int)∈s.2)
 sound : ∀x∈s.2,Re (ofG f.blocks) wo x.toNat
theorem J3{f:an}{a:Int}{k:Nat}{s:RSt}(h:Rb f wo s)(h0:0<=a)(h1:a<f.blocks.length)(ha:Re (ofG f.blocks) wo a.toNat)(hk:k<(nth f.blocks a.toNat).term.to.length):
  Rb f wo (jl wo (nth f.blocks a.toNat).term.to k s)/\s.2 <+: (jl wo (nth f.blocks a.toNat).term.to k s).2/\
   (0<=nth (nth f.blocks a.toNat).term.to k->nth (nth f.blocks a.toNat).term.to k<f.blocks.length->nth (nth f.blocks a.toNat).term.to k≠wo->nth (nth f.blocks a.toNat).term.to k∈(jl wo (nth f.blocks a.toNat).term.to k s).2):=by
 have hok:=zy (wo:=wo) (to:=(nth f.blocks a.toNat).term.to) (k:=k) h.ok;have hm:=bJ hk;unfold jl at hok ⊢;generalize hto:(nth f.blocks a.toNat).term.to=to at hm hok ⊢;split
 ·rename_i hc;rw[if_pos hc]at hok;obtain⟨⟨c1,c2⟩,c3,c4⟩:=hc;rw[h.ok.len]at c2;have hb:((nth to k).toNat:Int)=nth to k:=LI c1;refine⟨⟨hok,λb hb=>?_,λx hx=>?_⟩,List.prefix_append _ _,λ_ _ _=>MI _ (Lw.2 rfl)⟩
  ·rw[Lt,Lw];by_cases he:b=(nth to k).toNat
   ·subst he;rw[bz (by rw[h.ok.len];omega),if_pos rfl];exact⟨λ_=>.inr (LI c1),λ_=>rfl⟩
   rw[bz (by rw[h.ok.len];exact hb),if_neg (λe=>he e.symm),h.seen b hb];exact⟨.inl,λe=>e.resolve_right P2⟩
  rcases Lt.1 hx with hx | hx
  ·exact h.sound x hx
  rw[Lw.1 hx];refine .step ha ?_ (by rw[hb];exact c4);rw[rn,hb];exact⟨⟨by omega,by omega,c1,c2⟩,by rw[LM,hto];exact hm⟩
 rename_i hc;rw[if_neg hc]at hok;refine⟨h,Nq _,λc1 c2 c4=>?_⟩;have hb:((nth to k).toNat:Int)=nth to k:=LI c1;rw[<-hb,<-h.seen _ P2];cases e:nth s.1 (nth to k).toNat with
 | true=>rfl
 | false=>exact absurd ⟨⟨c1,by rw[h.ok.len];exact c2⟩,e,c4⟩ hc
theorem D1 {f:an} {wo a:Int} {s:RSt} (h:Rb f wo s) (h0:0<=a) (h1:a<f.blocks.length) (ha:Re (ofG f.blocks) wo a.toNat) : ∀m,m<=(nth f.blocks a.toNat).term.to.length->
  Rb f wo (up (jl wo (nth f.blocks a.toNat).term.to) m s)/\s.2 <+: (up (jl wo (nth f.blocks a.toNat).term.to) m s).2/\
   ∀k,k<m->0<=nth (nth f.blocks a.toNat).term.to k->nth (nth f.blocks a.toNat).term.to k<f.blocks.length->nth (nth f.blocks a.toNat).term.to k≠wo->nth (nth f.blocks a.toNat).term.to k∈(up (jl wo (nth f.blocks a.toNat).term.to) m s).2
 | 0,_=>⟨h,Nq _,λk hk=>by omega⟩
 | m+1,hm=>by
  obtain⟨i1,i2,i3⟩:=D1 h h0 h1 ha m P2;obtain⟨j1,j2,j3⟩:=J3 (k:=m) i1 h0 h1 ha P2;rw[up];refine⟨j1,i2.trans j2,λk hk c1 c2 c3=>?_⟩;rcases Lr k m with hlt | hge
  ·exact j2.subset (i3 k hlt c1 c2 c3)
  have:k=m:=by omega
  subst this;exact j3 c1 c2 c3
structure Rc (f:an) (wo:Int) (i:Nat) (s:RSt):Prop where
 b:Rb f wo s
 root:wo≠0->0<f.blocks.length->(0:Int)∈s.2
 done : ∀j,j<i->j<s.2.length->∀b:Nat,mS (ofG f.blocks) (nth s.2 j) b=Px->(b:Int)≠wo->(b:Int)∈s.2
variable{α:Type}
theorem CH[Inhabited α]{a b:List α}(h:a <+: b){i:Nat}(hi:i<a.length):nth b i=nth a i:=by obtain⟨t,rfl⟩:=h;rw[aA P9,aA hi,NP hi]
theorem Gx{f:an}{i:Nat}{s:RSt}(h:Rc f wo i s)(hi:i<s.2.length):Rc f wo (i+1) (tV f wo i s)/\s.2 <+: (tV f wo i s).2:=by
 have hm:=bJ hi;obtain⟨h0,h1⟩:=h.b.ok.rng _ hm;have hre:=h.b.sound _ hm;obtain⟨i1,i2,i3⟩:=D1 h.b h0 h1 hre _ (Lp _);have he:tV f wo i s=up (jl wo (nth f.blocks (nth s.2 i).toNat).term.to) (nth f.blocks (nth s.2 i).toNat).term.to.length s:=rfl;rw[<-he]at i1 i2 i3;refine⟨⟨i1,λa b=>i2.subset (h.root a b),λj hj hjl b hb hne=>?_⟩,i2⟩;rcases Lr j i with hlt | hge
 ·rw[CH i2 P2]at hb;exact i2.subset (h.done j hlt P2 b hb hne)
 have:j=i:=by omega
 subst this;rw[CH i2 hi,rn]at hb;obtain⟨⟨_,_,q1,q2⟩,hmem⟩:=hb;obtain⟨k,hk,e⟩:=LO hmem;rw[<-aA hk]at e;rw[<-e];exact i3 k hk P2 P2 (by rw[e];exact hne)
theorem EW {f:an} {wo:Int} : ∀{m i:Nat} {s:RSt},Rc f wo i s->f.blocks.length<i+m->∃k,Rc f wo k (rchS f wo m i s)/\(rchS f wo m i s).2.length<=k
 | 0,i,s,h,hm=>⟨i,h,by have:=h.b.ok.cnt;rw[rchS];omega⟩
 | m+1,i,s,h,hm=>by
  rw[rchS];split
  ·rename_i hi;exact EW (Gx h hi).1 P2
  rename_i hi;exact⟨i,h,by omega⟩
theorem Ht{f:an}:Rc f wo 0 (rch0 f wo):=by
 have hok:=yz (f:=f) (wo:=wo);unfold rch0 at hok ⊢;split
 ·rename_i hc;rw[if_pos hc]at hok;refine⟨⟨hok,λb hb=>?_,λx hx=>?_⟩,λ_ _=>Lw.2 rfl,λj hj=>by omega⟩
  ·rw[bz (by simpa using hb),Lw];split
   ·rename_i e;subst e;simp
   rename_i e;rw[aA (by simpa using hb)];simp;omega
  rw[Lw.1 hx];exact .root (by rw[np];exact hc.2) hc.1
 rename_i hc;rw[if_neg hc]at hok;refine⟨⟨hok,λb hb=>?_,λx hx=>by cases hx⟩,λa b=>absurd ⟨a,b⟩ hc,λj hj=>by omega⟩;rw[aA (by simpa using hb)];simp
variable{b:Nat}
theorem jn{f:an}(hb:b<f.blocks.length):nth (dP f wo) b=Px↔Re (ofG f.blocks) wo b:=by
 obtain⟨k,h,hk⟩:=EW (Ht (f:=f) (wo:=wo)) (m:=f.blocks.length+1) P2;unfold dP;generalize rchS f wo (f.blocks.length+1) 0 (rch0 f wo)=s at h hk;rw[h.b.seen b hb];constructor
 ·exact λhm=>by simpa using h.b.sound _ hm
 intro hr;induction hr with
 | root h1 h2=>exact h.root h2 (by rw[<-np];exact h1)
 | @step a b ha he hne ih=>have hm:=ih (by have:=(rn.1 he).1;omega);obtain⟨j,hj,e⟩:=LO hm;rw[<-aA hj]at e;exact h.done j P2 hj b (by rw[e];exact he) hne
instance:Rep Th:=Rep.via λd=>Cat.mk d.blk (Cat.mk d.place (Cat.mk d.mks d.tks))
theorem Th.Ij:Part Th Int 0 Th.blk (λd x=>{ d with blk:=x }):=(Part.fst Part.all).via (λ_=>rfl) λ_ _=>rfl
theorem Th.JS:Part Th (List Int) 2 Th.mks (λd x=>{ d with mks:=x }):=(Part.snd (Part.snd (Part.fst Part.all))).via (λ_=>rfl) λ_ _=>rfl
structure ThR where
 blk:Int
 place:Int
 mks:List Int
 tks:Raw
instance:Rep ThR:=Rep.via λd=>Cat.mk d.blk (Cat.mk d.place (Cat.mk d.mks d.tks))
theorem ThR.HL:Part ThR Raw 3 ThR.tks (λd x=>{ d with tks:=x }):=(Part.snd (Part.snd (Part.snd Part.all))).via (λ_=>rfl) λ_ _=>rfl
theorem FT{H:View}{a b:Int}{u q:Value}{m t:List Int}(ha:I64 a)(hb:I64 b)(hm:SlRd H u m)(ht:SlRd H q t):Rd H (.agg #[Pp Pq a,Pp Pq b,u,q]) (Th.mk a b m t):=
 ⟨_,rfl,[Pp Pq a],[Pp Pq b,u,q],rfl,⟨rfl,ha⟩,[Pp Pq b],[u,q],rfl,⟨rfl,hb⟩,[u],[q],rfl,⟨u,rfl,hm⟩,⟨q,rfl,ht⟩⟩
theorem Jl{H:View}{a b:Int}{u q:Value}{m:List Int}(ha:I64 a)(hb:I64 b)(hm:SlRd H u m)(hq:q.oneCell'=Px):Rd H (.agg #[Pp Pq a,Pp Pq b,u,q]) (ThR.mk a b m ⟨q⟩):=
 ⟨_,rfl,[Pp Pq a],[Pp Pq b,u,q],rfl,⟨rfl,ha⟩,[Pp Pq b],[u,q],rfl,⟨rfl,hb⟩,[u],[q],rfl,⟨u,rfl,hm⟩,⟨rfl,hq⟩⟩
theorem DQ{H:View}{cs:List Value}{d:ThR}(h:Rep.rd H cs d): ∃u,cs=[Pp Pq d.blk,Pp Pq d.place,u,d.tks.v]/\I64 d.blk/\I64 d.place/\SlRd H u d.mks:=by obtain⟨c1,r1,rfl,⟨rfl,h1⟩,c2,r2,rfl,⟨rfl,h2⟩,c3,r3,rfl,⟨u,rfl,h3⟩,rfl,_⟩:=h;exact⟨u,rfl,h1,h2,h3⟩
def oH (vo:Value) (l:List Th):Own:=λk=>if k=(0,0) then it T.en vo l else Pu
def tE (vo:Value) (l:List Th) (D:Nat) (d:ThR) (q:Value) (t:List Int):Own:=λk=>if k=(0,0) then it T.en vo l else if k=(1,0) then bx T.en D d else if k=(1,1) then it T.int q t else Pu
structure ThS (V:View) (h0:Heap) (vo:Value) (l:List Th) (W:View) (h:Heap):Prop where
 own:Owns W h (oH vo l)
 old:Old V h0 W
 le:(vw h0).le (vw h)
 av:Av (vw h0) vo
theorem ThS.ext {V:View} {h0:Heap} {vo:Value} {l:List Th} {W:View} {h h':Heap} (k:ThS V h0 vo l W h) (hle:(vw h).le (vw h')):ThS V h0 vo l (grow W h h') h':=
 ⟨k.own.ext hle,k.old.grow (bY k.le),Pn k.le hle,k.av⟩
theorem Fj{po:OP}{ty:TypeId}{us:List (Nat × Value)}{h:Heap}{K:Value->Heap->Prop}{x y z w:Operand}{a b:Int}{u q:Value}(hx:asg us x = Pp Pq a)(hy:asg us y = Pp Pq b)(hz:asg us z=u)(hw:asg us w=q)(hu:u.cells = #[u])(hq:q.cells = #[q])(hk:K (.agg #[Pp Pq a,Pp Pq b,u,q]) h):
  Lft.step Pz (.build T.en #[(0,x),(1,y),(2,z),(3,w)]) ty us h K:=
 aw (z:=.agg #[Pp Pq 0,Pp Pq 0,Pv Pu 0 0,Pv Pu 0 0]) (places:=[(0,1),(1,1),(2,1),(3,1)]) (vs:=[(0,Pp Pq a),(1,Pp Pq b),(2,u),(3,q)]) (cs:=#[Pp Pq a,Pp Pq b,u,q]) P1 P1 (by simp[hx,hy,hz,hw])
  (by simp[Instr.fill,hu,hq]) hk
theorem CK{po:OP}{ty:TypeId}{us:List (Nat × Value)}{h:Heap}{K:Value->Heap->Prop}{x y z:Operand}{a b:Int}{u:Value}(hx:asg us x = Pp Pq a)(hy:asg us y = Pp Pq b)(hz:asg us z=u)(hu:u.cells = #[u])(hk:K (.agg #[Pp Pq a,Pp Pq b,u,Pv Pu 0 0]) h):
  Lft.step Pz (.build T.en #[(0,x),(1,y),(2,z)]) ty us h K:=
 aw (z:=.agg #[Pp Pq 0,Pp Pq 0,Pv Pu 0 0,Pv Pu 0 0]) (places:=[(0,1),(1,1),(2,1),(3,1)]) (vs:=[(0,Pp Pq a),(1,Pp Pq b),(2,u)]) (cs:=#[Pp Pq a,Pp Pq b,u,Pv Pu 0 0]) P1 P1 (by simp[hx,hy,hz])
  (by simp[Instr.fill,hu]) hk
theorem CL{po:OP}{ty:TypeId}{us:List (Nat × Value)}{h:Heap}{K:Value->Heap->Prop}{x y w:Operand}{a b:Int}{q:Value}(hx:asg us x = Pp Pq a)(hy:asg us y = Pp Pq b)(hw:asg us w=q)(hq:q.cells = #[q])(hk:K (.agg #[Pp Pq a,Pp Pq b,Pv Pu 0 0,q]) h):
  Lft.step Pz (.build T.en #[(0,x),(1,y),(3,w)]) ty us h K:=
 aw (z:=.agg #[Pp Pq 0,Pp Pq 0,Pv Pu 0 0,Pv Pu 0 0]) (places:=[(0,1),(1,1),(2,1),(3,1)]) (vs:=[(0,Pp Pq a),(1,Pp Pq b),(3,q)]) (cs:=#[Pp Pq a,Pp Pq b,Pv Pu 0 0,q]) P1 P1 (by simp[hx,hy,hw])
  (by simp[Instr.fill,hq]) hk
theorem yh{f:an}{v:Value}{V:View}{h:Heap}(hv:Rd V v f)(hV:V.le (vw h))(hsm:SmF f):
  az Pz 91 #[v] h (λu h'=>(vw h).le (vw h')/\SlRd (grow V h h') u (aG f)):=by
 refine aq (args:=[v]) follows Tryz.func91 E.bg Pj λK hK=>?_;have hn:=hsm.len;dsimp only[L.bg,lkF,lkG];refine ab λz hz=>?_;simp;refine dh (v:=v) rfl ?_;have hle1:=bN h (.cells v.cells T.dN);have hat1:At (grow V h (h.push (.cells v.cells T.dN))) ⟨h.size,0,Pu⟩ f:=qo (t:=T.dN) (fz:=(0,0)) (by rw[cR (Lp _)];simp) (hv.mono (bU hV));have hs1:(h.push (.cells v.cells T.dN)).size=h.size+1:=by simp
 generalize h.push (.cells v.cells T.dN)=h1 at hle1 hat1 hs1;have hW1:(grow V h h1).le (vw h1):=kz (Pn hV hle1);have old1:Old V h (grow V h h1):=(Old.refl V h).grow (Lp _);obtain⟨_,vb,cb⟩:=jd hat1;generalize grow V h h1=W1 at cb hW1 old1;generalize h.size=B at cb;subst hz;refine ab λz hz=>?_;simp;refine qT (α:=Th) El.gh λh2 hle2 hsz2 own2=>?_;have t2:ThS V h (Pv (Pt ⟨h1.size,0,Pu⟩) 0 0) [] W1 h2:=⟨((Owns.start hW1).add (k:=(0,0)) rfl (own2 _) hle2 (λb hb=>by simp only[Value.ownBlock,Ln]at hb;omega)).congr λq=>by
   unfold oH Own.upd;repeat' split
   all_goals first | rfl | simp_all,old1,Pn hle1 hle2,λb hb=>by cases hb;exact View.cr Pl (by show h.size<=h1.size;omega)⟩;generalize Pv (Pt ⟨h1.size,0,Pu⟩) 0 0=v0 at t2;subst hz;refine ab λz hz=>?_;simp
 refine cS [1,3,4] (fun(r:Value) b=>[Pw (Pt ⟨B,0,Pu⟩),r,Pp Pq b]) (λr b h3=>∃W,W1.le W/\ThS V h r (thTo f b) W h3) f.blocks.length v0
  rfl P2 rfl ⟨W1,View.le_refl _,t2⟩ (λ_ _=>rfl) (λv k h3 hk ⟨W,q1,q2⟩=>by simp[ae (Pn q1 q2.own.wle) cb.1,(cb.2.mono (Pn q1 q2.own.wle)).len]) ?_ ?_
 ·rintro r b h3 hltb ⟨W3,hW3,t3⟩ K2 hK2;have hl3:=uu hsm (n:=b) P2;have cb3:=cb.2.mono (Pn hW3 t3.own.wle);have cc3:=ae (Pn hW3 t3.own.wle) cb.1;obtain⟨u,hu,hur⟩:=(cb.2.mono hW3).wh rfl (N:=6) rfl hltb;have sb:=hsm.blk b hltb;refine ab λy hy=>?_;simp(disch:=omega)[cc3,cb3.idxn (N:=6) rfl,hu _ t3.own.wle];refine dC (X:=W3) (z:=.agg #[Pv Pu 0 0,Pv Pu 0 0,Pp Pq 0,Pv Pu 0 0,Pv Pu 0 0,Pp Ps 0]) P1 rfl P1 hur P5 P5 λh4 hle4 hsz4 hat4=>?_;have t4:=t3.ext hle4;have hat4':=hat4 (grow W3 h3 h4) (bU t3.own.wle) (cR (Lp _));obtain⟨vp,vi,va,vt,bp,bi,bk,ba,bt⟩:=jO hat4';have hW4:=Pn hW3 (bU (h':=h4) t3.own.wle);generalize grow W3 h3 h4=W4 at t4 bp bi bk ba bt hW4;generalize h3.size=D at bp bi bk ba bt;subst hy;refine ab λy hy=>?_;simp;have sp:=sb.phis;refine cS [1,3,4,5,6] (fun(r:Value) i=>[Pw (Pt ⟨B,0,Pu⟩),r,Pp Pq b,Pw (Pt ⟨D,0,Pu⟩),Pp Pq i]) (λr i h5=>∃W,W4.le W/\ThS V h r (thTo f b++rows (phiT f b) i) W h5) (nth f.blocks b).phis.length r
   rfl P2 rfl ⟨W4,View.le_refl _,by simpa using t4⟩ (λ_ _=>rfl) (λv k h3 hk ⟨W,q1,q2⟩=>by simp[ae (Pn q1 q2.own.wle) bp.1,(bp.2.mono (Pn q1 q2.own.wle)).len]) ?_ ?_
  ·rintro r i h5 hlti ⟨W5,hW5,t5⟩ K3 hK3;have bp5:=bp.2.mono hW5;have bph:=bp5.mono t5.own.wle;have cph:=ae (Pn hW5 t5.own.wle) bp.1;have hap:=(bp5.at hlti);rw[<-aA hlti]at hap;have hdst:ak W5 (((slA vp).add (i*2)).add 0)=Pt (Pp Pq (nth (nth f.blocks b).phis i).dst):=(hap.part PhiD.ig).int;have hdr:=(hap.part PhiD.ig).rng;obtain⟨vq,hvq⟩:=(hap.part PhiD.mN).sl;have hvq1:ak W5 (((slA vp).add (i*2)).add 1)=Pt vq:=hvq.1;have hvq2:=hvq.2;have hpl:=sb.phi i hlti;have hpt:phiT f b i=⟨b,-1-i,[(nth (nth f.blocks b).phis i).dst],(nth (nth f.blocks b).phis i).ins.map InD.val⟩:=rfl;generalize nth (nth f.blocks b).phis i=x at hdst hdr hvq2 hpl hpt;refine ab λq hq=>?_;simp(disch:=omega)[cph,bph.idxn (N:=2) rfl,ae t5.own.wle hdst];refine kC (X:=nothing) (ds:=[x.dst]) (vs:=[Pp Pq x.dst]) rfl El.aP Sa ⟨bD.2 ⟨rfl,hdr⟩,trivial⟩ bC rfl P2 λu6 h6 hle6 hsz6 hu6 hub6=>?_;have hu6n:=hu6 (vw h6) bC rfl;refine CK rfl rfl rfl hu6n.cells.1 ?_;simp;refine fP (n:=4) (v:=.agg #[Pp Pq b,Pp Pq (-1-i),u6,Pv Pu 0 0]) (z:=.agg #[Pp Pq 0,Pp Pq 0,Pv Pu 0 0,Pv Pu 0 0]) P1 rfl P1 rfl (by intro c hc;simp at hc;rcases hc with rfl | rfl | rfl | rfl<;>first | rfl | exact hu6n.cells.2) P5 P5 λh7 hle7 hsz7 hb7=>?_;have w6:=t5.own.ext hle6;have w7:=(w6.add (k:=(1,0)) rfl (iB (h:=h7) (d:=ThR.mk b (-1-i) [x.dst] ⟨Pv Pu 0 0⟩) hb7 (Jl P6 P6 (hu6 _ bC (cR (Lp _))) rfl) P4) hle7 (λb hb=>by simp only[Value.ownBlock,Ln]at hb;omega)).add (k:=(1,1)) rfl (OwnT.nil (α:=Int) _ h7 T.int) Pl (λb hb=>by simp[Value.ownBlock]at hb);have w7:Owns (grow W5 h5 h6) h7 (tE r (thTo f b++rows (phiT f b) i) h6.size (ThR.mk b (-1-i) [x.dst] ⟨Pv Pu 0 0⟩) (Pv Pu 0 0) []):=w7.congr λq=>by
    unfold tE oH Own.upd;repeat' split
    all_goals first | rfl | simp_all
   have hW7:=Pn hW5 (bU (h':=h6) t5.own.wle);have old7:=t5.old.grow (h1:=h5) (h2:=h6) (bY t5.le);have hle07:=Pn t5.le (Pn hle6 hle7);have hvq7:=hvq2.mono (bU (h':=h6) t5.own.wle);have cvq7:=ae (bU (h':=h6) t5.own.wle) hvq1;generalize grow W5 h5 h6=W7 at w7 hW7 old7 hvq7 cvq7;have hD7:h.size<=h6.size:=LN (bY t5.le) (bY hle6);generalize h6.size=D7 at w7 hD7;subst hq;refine ab λq hq=>?_;simp;refine cS [1,3,4,5,6,7,8] (fun(q:Value) j=>[Pw (Pt ⟨B,0,Pu⟩),r,Pp Pq b,Pw (Pt ⟨D,0,Pu⟩),Pp Pq i,Pw (Pt ⟨D7,0,Pu⟩),Pp Pq j])
    (λq j h8=>Owns W7 h8 (tE r (thTo f b++rows (phiT f b) i) D7 (ThR.mk b (-1-i) [x.dst] ⟨q⟩) q ((x.ins.map InD.val).take j))/\(vw h).le (vw h8)/\Av (vw h) q) x.ins.length (Pv Pu 0 0)
    rfl P2 rfl ⟨w7,hle07,Av.nil _ _ _⟩ (λ_ _=>rfl) (λv k h8 hk ⟨w8,q2⟩=>by have bp8:=(bp.2.mono hW7).mono w8.wle;simp(disch:=omega)[ae (Pn hW7 w8.wle) bp.1,bp8.idxn (N:=2) rfl,ae w8.wle cvq7,(hvq7.mono w8.wle).len]) ?_ ?_
   ·rintro q8 j h8 hltj ⟨w8,hle08,av8⟩ K4 hK4;have bp8:=(bp.2.mono hW7).mono w8.wle;have hv8:=hvq7.mono w8.wle;have hai:=(hvq7.at hltj);rw[<-aA hltj]at hai;have hval:ak W7 (((slA vq).add (j*2)).add 1)=Pt (Pp Pq (nth x.ins j).val):=(hai.part InD.BO).int;have hvr:=(hai.part InD.BO).rng;have hl8:((x.ins.map InD.val).take j).length=j:=by simp;omega
    have htk:(x.ins.map InD.val).take (j+1)=(x.ins.map InD.val).take j++[(nth x.ins j).val]:=by rw[OU,MZ,LX hltj,aA hltj];rfl
    have hq8:ak (vw h8) ⟨D7,3,Pu⟩=Pt q8:=by have:=((w8.at (k:=(1,0)) (e:=T.en) (B:=D7) (d:=ThR.mk b (-1-i) [x.dst] ⟨q8⟩) rfl).part ThR.HL).raw;simpa using this
    refine aR (vw h8) Pl ?_;simp(disch:=omega)[hq8,ae (Pn hW7 w8.wle) bp.1,bp8.idxn (N:=2) rfl,ae w8.wle cvq7,hv8.idxn (N:=2) rfl,ae w8.wle hval];refine mg (α:=Int) (W:=W7) El.aP rfl (bD.2 ⟨rfl,hvr⟩) λu9 h9 hs9 hle9 hsz9=>⟨hle9,?_⟩;refine(w8.ext' hle9).dg (k:=(1,1)) (α:=Int) (v:=q8) (l:=(x.ins.map InD.val).take j) rfl El.aP rfl rfl hs9 P9 P9 λq10 h10 w10 m10=>?_;have hc10:=w10.cells (k:=(1,1)) (Own.aj);obtain⟨hX10,av10⟩:=m10.view (Pn hle08 hle9) av8;refine w10.pk (k:=(1,0)) (e:=T.en) (B:=D7) (D:=ThR.mk b (-1-i) [x.dst] ⟨q8⟩) ThR.HL (d:=⟨q10⟩) rfl P1 rfl rfl (mw.2 ⟨rfl,hc10.2⟩) λh11 w11 hX11=>?_;refine hK4 q10 _ _ rfl rfl ⟨w11.congr λp=>?_,hX11 _ hX10 (View.cr Pl hD7),av10⟩;rw[htk];unfold tE Own.upd;repeat' split
    all_goals first | rfl | simp_all
   rintro q8 h8 ⟨w8,hle08,av8⟩;rw[Lv Sa]at w8;simp;subst hq;obtain⟨cs,hcs,hrd⟩:=w8.atW (k:=(1,0)) (e:=T.en) (B:=D7) (d:=ThR.mk b (-1-i) [x.dst] ⟨q8⟩) rfl;obtain⟨u9,rfl,i1,i2,hu9⟩:=DQ hrd;obtain⟨w9,hq9⟩:=w8.freeze (k:=(1,1)) (v:=q8) (l:=x.ins.map InD.val) rfl;have hpl9:W7.le (W7.plus q8 h8):=gq (w8.av (1,1) _ rfl);have hload:Un.ev (vw h8) (.bO 4) (Pw (Pt ⟨D7,0,Pu⟩))=Pt (.agg #[Pp Pq b,Pp Pq (-1-i),u9,q8]):=by have:=fO hcs 4 0 #[] Ri;simp[Un.ev,vP,this]
   have hold9:Old V h (W7.plus q8 h8):=λc o hc hco=>by
    unfold View.plus at hco;split at hco
    ·rename_i e;have:=av8 c e;simp only[vw]at this;rw[LH hc]at this;cases this
    exact old7 c o hc hco
   have w9:Owns (W7.plus q8 h8) h8 (oH r (thTo f b++rows (phiT f b) i)):=w9.sub λp x hp=>by
    unfold oH at hp;split at hp
    ·rename_i e;subst e;exact hp
    cases hp
   have hlr:(thTo f b++rows (phiT f b) i).length=(thTo f b).length+i:=by simp
   simp[hload];refine w9.ud (k:=(0,0)) (α:=Th) (v:=r) (l:=thTo f b++rows (phiT f b) i) (d:=phiT f b i) rfl El.gh rfl (by rw[hpt];exact FT i1 i2 (hu9.mono hpl9) hq9) P2 P2 (λ_=>rfl) (λ_=>rfl) λu10 r10 h10 w10 hX10=>?_;obtain⟨g1,g2⟩:=hX10 _ hle08 t5.av;refine hK3 r10 _ _ rfl rfl ⟨W7.plus q8 h8,Pn hW7 hpl9,⟨w10.congr λp=>?_,hold9,g1,g2⟩⟩;rw[eu,<-List.append_assoc];unfold oH Own.upd;repeat' split
   all_goals first | rfl | simp_all
  rintro r h5 ⟨W5,hW5,t5⟩;simp;subst hy;refine ab λy hy=>?_;simp;have si:=sb.ins;refine cS [1,3,4,5,9] (fun(r:Value) i=>[Pw (Pt ⟨B,0,Pu⟩),r,Pp Pq b,Pw (Pt ⟨D,0,Pu⟩),Pp Pq i]) (λr i h6=>∃W,W4.le W/\ThS V h r (thTo f b++rows (phiT f b) (nth f.blocks b).phis.length++rows (insT f b) i) W h6) (nth f.blocks b).ins.length r
   rfl P2 rfl ⟨W5,hW5,by simpa using t5⟩ (λ_ _=>rfl) (λv k h3 hk ⟨W,q1,q2⟩=>by simp[ae (Pn q1 q2.own.wle) bi.1,(bi.2.mono (Pn q1 q2.own.wle)).len]) ?_ ?_
  ·rintro r i h6 hlti ⟨W6,hW6,t6⟩ K3 hK3;have bi6:=bi.2.mono hW6;have bih:=bi6.mono t6.own.wle;have cih:=ae (Pn hW6 t6.own.wle) bi.1;obtain⟨ux,hux,huxr⟩:=bi6.wh rfl (N:=5) rfl hlti;have hap:=(bi6.at hlti);rw[<-aA hlti]at hap;obtain⟨vq,hvq⟩:=(hap.part InsD.ee).sl;have hvq1:ak W6 (((slA vi).add (i*5)).add 3)=Pt vq:=hvq.1;have hvq2:=hvq.2;have hpt:insT f b i=⟨b,i,cw (nth (nth f.blocks b).ins i),(nth (nth f.blocks b).ins i).args⟩:=rfl;generalize nth (nth f.blocks b).ins i=x at hvq2 huxr hpt;have hlr:(thTo f b++rows (phiT f b) (nth f.blocks b).phis.length++rows (insT f b) i).length=(thTo f b).length+(nth f.blocks b).phis.length+i:=by simp;omega
   refine aR (vw h6) Pl ?_;simp(disch:=omega)[cih,bih.idxn (N:=5) rfl,hux _ t6.own.wle,ae t6.own.wle hvq1];refine af P1 (n7 (huxr.mono t6.own.wle)) ?_;rintro u7 h7 ⟨hle7,hu7,_⟩;refine⟨hle7,?_⟩;have t7:=t6.ext hle7;have hu7':=hu7.mono (iN W6 h6 h7);have hvq7:=hvq2.mono (bU (h':=h7) t6.own.wle);refine Fj rfl rfl rfl rfl hu7.cells.1 hvq2.cells.1 ?_;simp;refine t7.own.ud (k:=(0,0)) (α:=Th) (v:=r) (l:=thTo f b++rows (phiT f b) (nth f.blocks b).phis.length++rows (insT f b) i) (d:=insT f b i) rfl El.gh rfl (by rw[hpt];exact FT P6 P6 hu7' hvq7) P2 P2 (λ_=>rfl) (λ_=>rfl) λu10 r10 h10 w10 hX10=>?_;obtain⟨g1,g2⟩:=hX10 _ t7.le t7.av;refine hK3 r10 _ _ rfl rfl ⟨_,Pn hW6 (bU (h':=h7) t6.own.wle),⟨w10.congr λp=>?_,t7.old,g1,g2⟩⟩;rw[eu,<-List.append_assoc];unfold oH Own.upd;repeat' split
   all_goals first | rfl | simp_all
  rintro r h6 ⟨W6,hW6,t6⟩;simp;subst hy;have hW6h:=Pn hW6 t6.own.wle;have bih:=bi.2.mono hW6h;have cih:=ae hW6h bi.1;have hlr:(thTo f b++rows (phiT f b) (nth f.blocks b).phis.length++rows (insT f b) (nth f.blocks b).ins.length).length=(thTo f b).length+(nth f.blocks b).phis.length+(nth f.blocks b).ins.length:=by simp;omega
  simp[cih,bih.len,ae hW6h ba.1];refine CL rfl rfl rfl (ba.2.cells.1) ?_;simp;refine t6.own.ud (k:=(0,0)) (α:=Th) (v:=r) (l:=thTo f b++rows (phiT f b) (nth f.blocks b).phis.length++rows (insT f b) (nth f.blocks b).ins.length) (d:=endT f b) rfl El.gh rfl (FT P6 P6 aJ (ba.2.mono hW6)) P2 P2 (λ_=>rfl) (λ_=>rfl) λu10 r10 h10 w10 hX10=>?_;obtain⟨g1,g2⟩:=hX10 _ t6.le t6.av;refine hK2 r10 _ _ rfl rfl ⟨_,Pn hW4 hW6,⟨w10.congr λp=>?_,t6.old,g1,g2⟩⟩;have e:thTo f (b+1)=thTo f b++rows (phiT f b) (nth f.blocks b).phis.length++rows (insT f b) (nth f.blocks b).ins.length++[endT f b]:=by rw[gg,thB];simp[LB]
  rw[e];unfold oH Own.upd;repeat' split
  all_goals first | rfl | simp_all
 rintro r h3 ⟨W3,hW3,t3⟩;simp;subst hz;simp;exact hK _ _ ⟨t3.le,(t3.own.get (k:=(0,0)) (v:=r) (l:=thTo f f.blocks.length) rfl).rd (t3.old.le t3.own.wle) λb hb=>by
  have:=t3.av b hb;rw[cR];rcases Lr b h.size with hlt | hge
  ·simp[vw,hlt]at this
  exact hge⟩
structure GotD where
 e:Int
 b:Int
 p:Int
instance:Rep GotD:=Rep.via λd=>Cat.mk d.e (Cat.mk d.b d.p)
abbrev BL:=List Bool
def oS (t:Th) (j:Nat) (m:BL):Except Tr BL:=if nth m (nth t.mks j).toNat then .error (12,t.blk,t.place) else .ok (m.set (nth t.mks j).toNat Px)
def gE (f:an) (t:Th):BlkD:=nth f.blocks t.blk.toNat
def zT (f:an) (t:Th):InsD:=nth (gE f t).ins t.place.toNat
def qZ (f:an) (t:Th):Bool:=decide (0<=t.place)&&decide (t.place<(gE f t).ins.length)
def mh (f:an) (t:Th):Bool:=decide (t.place=(gE f t).ins.length)
def wx (s:InsD):Bool:=decide (s.op<1)||decide (18<s.op)||!yo s.op s.args.length
def my (f:an) (n:Int):Bool:=decide (n<f.params)||decide (8191<n)
def uj (f:an) (n:Int):Bool:=decide (n<1)||decide ((f.blocks.length:Int)<=n)
def mW (f:an) (t:Th):Except Tr BL->Except Tr BL
 | .error e=>.error e
 | .ok m'=>if mh f t&&(gE f t).term.to.any (uj f) then .error (14,t.blk,t.place) else .ok m'
def hZ (f:an) (t:Th) (m:BL):Except Tr BL:=
 if qZ f t&&wx (zT f t) then .error (10,t.blk,t.place)
 else if mh f t&&!uY (gE f t).term then .error (10,t.blk,t.place)
 else if t.mks.any (my f) then .error (11,t.blk,t.place)
 else mW f t (upE (oS t) t.mks.length m)
def jC (f:an):Except Tr BL:=upE (λi m=>hZ f (nth (aG f) i) m) (aG f).length (List.replicate 8192 Py)
def wR {α:Type}:Except Tr α->Tr | .ok _=>(0,0,0) | .error t=>t
def noTh:Th:=⟨-1,0,[],[]⟩
def eG (t:Th) (l:List Th) (n:Int):List Th:=if 0<=n/\n<8192 then l.set n.toNat t else l
def qt (l:List Th) (t:Th):List Th:=t.mks.foldl (eG t) l
def yN (ts:List Th):List Th:=ts.foldl qt (List.replicate 8192 noTh)
variable{n:Int}
theorem ni{t:Th}{l:List Th}:(eG t l n).length=l.length:=by unfold eG;split<;>simp
theorem BC{t:Th}{l:List Th}:(qt l t).length=l.length:=pj (f:=eG t) (λx:List Th=>x.length=l.length) (λ_ _ h=>ni.trans h) _ _ rfl
theorem Bb{ts:List Th}:(yN ts).length=8192:=pj (f:=qt) (λx:List Th=>x.length=8192) (λ_ _ h=>BC.trans h) _ _ (MB ..)
def gL (f:an) (made:List Th) (away:List BL) (v blk place:Int):Bool:=
 if 0<=v/\v<f.params then Px
 else if(v<0\/8191<v)\/(nth made v.toNat).blk<0 then Py
 else if(nth made v.toNat).blk=blk then decide ((nth made v.toNat).place<0)||decide ((nth made v.toNat).place<place)
 else !nth (nth away (nth made v.toNat).blk.toNat) blk.toNat
def pL (f:an) (t:Th):PhiD:=nth (gE f t).phis (-1-t.place).toNat
def BH (f:an) (b:Int):Int:=((nth f.blocks b.toNat).ins.length:Nat)
def qQ (f:an) (t:Th):Bool:=decide (0<t.blk)&&decide ((pL f t).ins.map InD.frm=cC f t.blk)
def stT (f:an) (made:List Th) (away:List BL) (t:Th) (x:Int):Bool:=!gL f made away x t.blk t.place
def stP (f:an) (made:List Th) (away:List BL) (p:InD):Bool:=!gL f made away p.val p.frm (BH f p.frm)
def fH (f:an) (made:List Th) (away:List BL) (t:Th):Except Tr Unit:=
 if 0<=t.place then(if t.tks.any (stT f made away t) then .error (13,t.blk,t.place) else .ok ())
 else if !qQ f t then .error (16,t.blk,t.place)
 else if(pL f t).ins.any (stP f made away) then .error (13,t.blk,t.place)
 else .ok ()
def iq (f:an):List Th:=yN (aG f)
def gr (f:an):List BL:=rows (λb=>dP f b) f.blocks.length
def vQ (f:an):Nat->Nat
 | 0=>f.blocks.length
 | n+1=>vQ f n+(nth f.blocks n).phis.length+(nth f.blocks n).ins.length
def wayE (f:an):Except Tr Unit:=upE (λb _=>if nth (dP f (-1)) b=Px then .ok () else .error (15,b,0)) f.blocks.length ()
def ze (f:an):Except Tr Unit:=upE (λi _=>fH f (iq f) (gr f) (nth (aG f) i)) (aG f).length ()
def JQ:Except Tr Unit->Except Tr Unit->Except Tr Unit
 | .ok _,y=>y
 | .error e,_=>.error e
def vk (f:an):Tr:=
 if f.params<0\/4<f.params then(1,0,0)
 else if f.blocks.length=0 then(14,0,0)
 else if 512<f.blocks.length\/4096<vQ f f.blocks.length then(2,0,0)
 else if(wR (jC f)).1≠0 then wR (jC f)
 else wR (JQ (wayE f) (ze f))
theorem pA {σ ε:Type} {f:Nat->σ->Except ε σ} {s:σ} {t:ε} : ∀{n:Nat},upE f n s = .error t->∃k s',k<n/\upE f k s = .ok s'/\f k s' = .error t
 | n+1,h=>by
  simp only[upE]at h;split at h
  ·rename_i s' hs;exact⟨n,s',Nat.lt_succ_self n,hs,h⟩
  rename_i t' ht;cases h;obtain⟨k,s',h1,h2⟩:=pA ht;exact⟨k,s',Nat.lt_succ_of_lt h1,h2⟩
theorem sV{f:an}{t:Th}{m:BL}{e:Tr}(h:hZ f t m = .error e):(10<=e.1/\e.1<=14)/\e.2.1=t.blk/\e.2.2=t.place:=by
 unfold hZ at h;split at h
 ·cases h;simp
 split at h
 ·cases h;simp
 split at h
 ·cases h;simp
 unfold mW at h;split at h
 ·rename_i e' he;cases h;obtain⟨k,s',_,_,h3⟩:=pA he;unfold oS at h3;split at h3
  ·cases h3;simp
  cases h3
 split at h
 ·cases h;simp
 cases h
theorem Dr(hn:0<=n){ts:List Th}(h : ∀t∈ts,t.blk<n){i:Nat}(hi:i<8192):(nth (yN ts) i).blk<n:=by
 have key : ∀(ts:List Th),(∀t∈ts,t.blk<n)->∀l:List Th,(∀x∈l,x.blk<n)->∀x∈ts.foldl qt l,x.blk<n:=by
  intro ts;induction ts with
  | nil=>exact λ_ l hl=>hl
  | cons t ts ih=>
   intro ht l hl;refine ih (λx hx=>ht x (Lz _ hx)) _ ?_;refine pj (f:=eG t) (λl:List Th=>∀x∈l,x.blk<n) (λl a hl x hx=>?_) _ _ hl;unfold eG at hx;split at hx
   ·rcases NM hx with h | rfl
    ·exact hl x h
    exact ht _ Ly
   exact hl x hx
 refine key ts h _ (λx hx=>?_) _ (bJ (by show i<(yN ts).length;rw[Bb];exact hi));rw[(List.mem_replicate.1 hx).2];show(-1:Int)<n;omega
theorem iP{σ ε:Type}{f:σ->α->Except ε σ}{a b:List α}{s:σ}:(a++b).foldlM f s=(match a.foldlM f s with | .ok s'=>b.foldlM f s' | .error e=>.error e):=by rw[OJ];cases a.foldlM f s<;>rfl
theorem qk{σ ε:Type}{f:σ->α->Except ε σ}{a:α}{s:σ}:[a].foldlM f s=f s a:=by rw[MQ];cases f s a<;>rfl
theorem mB {σ α ε:Type} {g:Nat->σ->Except ε σ} {f:σ->α->Except ε σ} {x:Nat->α} {s:σ} : ∀{n:Nat},(∀i s,i<n->g i s=f s (x i))->upE g n s=(rows x n).foldlM f s
 | 0,_=>rfl
 | n+1,h=>by
  have ih:=mB (n:=n) (s:=s) λi s hi=>h i s P2;rw[eu,iP,<-ih];simp only[upE];cases upE g n s with
  | ok s'=>show g n s'=[x n].foldlM f s';rw[qk];exact h n s' P2
  | error e=>rfl
theorem nY{σ ε:Type}[Inhabited α]{f:σ->α->Except ε σ}{l:List α}{s:σ}:upE (λi s=>f s (nth l i)) l.length s=l.foldlM f s:=by rw[mB (f:=f) (x:=nth l) λ_ _ _=>rfl];congr 1;refine M5 Sa λi h1 h2=>?_;simp[rows,aA h2]
def j0 (f:an) (m:MW) (t:Th):Except Tr MW:=
 if t.place<0 then allS f.params t.mks t.blk t.place m
 else if t.place<(gE f t).ins.length then insS f.params t.blk (gE f t) t.place.toNat m
 else endS f.blocks.length t.blk (gE f t) m
theorem rW{f:an}{i:Nat}{m:MW}:j0 f m (phiT f b i)=phiS f.params b (nth f.blocks b) i m:=by unfold j0;rw[if_pos (show(phiT f b i).place<0 by show -1-(i:Int)<0;omega)];rfl
theorem rP{f:an}{i:Nat}{m:MW}(hi:i<(nth f.blocks b).ins.length):j0 f m (insT f b i)=insS f.params b (nth f.blocks b) i m:=by unfold j0;rw[if_neg (show ¬(insT f b i).place<0 by show ¬(i:Int)<0;omega),if_pos (show(insT f b i).place<((gE f (insT f b i)).ins.length:Int) by show(i:Int)<((nth f.blocks b).ins.length:Int);omega)];rfl
theorem sw{f:an}{m:MW}:j0 f m (endT f b)=endS f.blocks.length b (nth f.blocks b) m:=by unfold j0;rw[if_neg (show ¬(endT f b).place<0 by show ¬((nth f.blocks b).ins.length:Int)<0;omega),if_neg (show ¬(endT f b).place<((gE f (endT f b)).ins.length:Int) by show ¬((nth f.blocks b).ins.length:Int)<((nth f.blocks b).ins.length:Int);omega)];rfl
theorem Ed{f:an}{m:MW}:blkS f b m=(thB f b).foldlM (j0 f) m:=by
 unfold blkS thB;rw[mB (f:=j0 f) (x:=phiT f b) (n:=(nth f.blocks b).phis.length) λi s hi=>rW.symm];rw[iP,iP];cases (rows (phiT f b) (nth f.blocks b).phis.length).foldlM (j0 f) m with
 | error e=>rfl
 | ok m1=>
  simp only;rw[mB (f:=j0 f) (x:=insT f b) (n:=(nth f.blocks b).ins.length) λi s hi=>(rP hi).symm];cases (rows (insT f b) (nth f.blocks b).ins.length).foldlM (j0 f) m1 with
  | error e=>rfl
  | ok m2=>simp only;rw[qk];exact sw.symm
theorem vY{f:an}{m:MW}:kT f m=(aG f).foldlM (j0 f) m:=by
 have key : ∀n,upE (blkS f) n m=(thTo f n).foldlM (j0 f) m:=by
  intro n;induction n with
  | zero=>rfl
  | succ n ih=>
   rw[gg,iP,<-ih];simp only[upE];cases upE (blkS f) n m with
   | error e=>rfl
   | ok s=>exact Ed
 exact key _
theorem pN{f:an}:jC f=(aG f).foldlM (λm t=>hZ f t m) (List.replicate 8192 Py):=nY (f:=fun(m:BL) (t:Th)=>hZ f t m)
def tg (m:MW) (l:BL):Prop:=l.length=8192/\∀n:Int,0<=n->n<8192->(m n).isSome=nth l n.toNat
def Alike {α β:Type} (R:α->β->Prop):Except Tr α->Except Tr β->Prop
 | .ok a,.ok b=>R a b
 | .error e,.error e'=>e=e'
 | _,_=>False
theorem pY {α β γ:Type} {R:α->β->Prop} {F:α->γ->Except Tr α} {G:β->γ->Except Tr β} : ∀{l:List γ},(∀t∈l,∀a b,R a b->Alike R (F a t) (G b t))->∀{a:α} {b:β},R a b->Alike R (l.foldlM F a) (l.foldlM G b)
 | [],_,a,b,h=>h
 | t::l,hs,a,b,h=>by
  rw[MQ,MQ];have:=hs t Ly a b h;cases e1:F a t with
  | error e=>
   cases e2:G b t with
   | error e'=>rw[e1,e2]at this;exact this
   | ok b'=>rw[e1,e2]at this;exact this.elim
  | ok a'=>
   cases e2:G b t with
   | error e'=>rw[e1,e2]at this;exact this.elim
   | ok b'=>rw[e1,e2]at this;exact pY (λt ht=>hs t (Lz _ ht)) this
theorem DK{f:an}:bZ n f.params 8191=!my f n:=by rw[LS];simp[bZ,my]
theorem CA{p:α->Bool}{l:List α}:l.all (λn=>!p n)=!l.any p:=by
 induction l with
 | nil=>rfl
 | cons a l ih=>simp[ih]
def lM (t:Th) (m:BL) (n:Int):Except Tr BL:=if nth m n.toNat then .error (12,t.blk,t.place) else .ok (m.set n.toNat Px)
theorem CM{f:an}{t:Th}{m:MW}{l:BL}(h:tg m l)(hp:0<=f.params)(hn : ∀n∈t.mks,my f n=Py):Alike tg (t.mks.foldlM (pK t.blk t.place) m) (upE (oS t) t.mks.length l):=by
 have e:upE (oS t) t.mks.length l=t.mks.foldlM (lM t) l:=nY (f:=lM t);rw[e];refine pY (λn hnm m l h=>?_) h;have hb:=hn n hnm;simp only[my,MP,decide_eq_false_iff_not]at hb;have hs:=h.2 n P2 P2;unfold pK lM;rw[hs];cases hc:nth l n.toNat with
 | true=>exact rfl
 | false=>
  refine⟨by simpa using h.1,λk h0 h1=>?_⟩;rw[bz (by rw[h.1];omega)];simp only[putM];by_cases hk:k=n
  ·subst hk;simp
  rw[if_neg hk,if_neg P2];exact h.2 k h0 h1
theorem xd{f:an}{t:Th}{m:MW}{l:BL}(h:tg m l)(hp:0<=f.params):
  Alike tg (allS f.params t.mks t.blk t.place m) (if t.mks.any (my f) then .error (11,t.blk,t.place) else upE (oS t) t.mks.length l):=by
 unfold allS;have e:(t.mks.all λn=>bZ n f.params 8191)=!t.mks.any (my f):=by rw[<-CA];congr 1;funext n;exact DK
 rw[e];cases hb:t.mks.any (my f)with
 | true=>exact rfl
 | false=>refine CM h hp λn hn=>?_;rw[NC];intro e2;rw[NC]at hb;exact hb (Ns.2 ⟨n,hn,e2⟩)
theorem HA{x:InsD}:(bZ x.op 1 18&&bZ x.args.length (fu x.op).1 (fu x.op).2)=!wx x:=by
 rw[LS];simp only[wx,bZ,fu,yo,Ls,MV,MP,decide_eq_true_eq,decide_eq_false_iff_not,Bool.not_eq_false'];by_cases h1:x.op=1
 ·simp[h1]
 by_cases h2:x.op=15
 ·simp[h2];omega
 by_cases h3:x.op=17
 ·simp[h3]
 simp only[h1,h2,h3,if_false,decide_eq_true_eq];omega
theorem Hp{f:an}:bZ n 1 ((f.blocks.length:Int)-1)=!uj f n:=by rw[LS];simp[bZ,uj];omega
theorem CP{t:cQ}:nW t=uY t:=by
 unfold nW uY fl;by_cases h1:t.kind=1
 ·rw[LS];simp[putM,h1,bZ];omega
 by_cases h2:t.kind=2
 ·rw[LS];simp[putM,h2,bZ];omega
 by_cases h3:t.kind=3
 ·rw[LS];simp[putM,h3,bZ];omega
 by_cases h4:t.kind=4
 ·rw[LS];simp[putM,h4,bZ]
 by_cases h5:t.kind=5
 ·rw[LS];simp[putM,h5,bZ]
 simp[putM,h1,h2,h3,h4,h5]
theorem sQ{f:an}{t:Th}{x:Except Tr BL}(h:mh f t=Py):mW f t x=x:=by
 unfold mW;cases x with
 | error e=>rfl
 | ok m=>simp only[h,O7];rfl
theorem Dp{f:an}{t:Th}(ht:t∈aG f)(hp:0<=f.params){m:MW}{l:BL}(h:tg m l):Alike tg (j0 f m t) (hZ f t l):=by
 obtain⟨b,hb,ht⟩:=iC.1 ht;rcases jM.1 ht with⟨i,hi,rfl⟩ | ⟨i,hi,rfl⟩ | rfl
 ·have e1:qZ f (phiT f b i)=false:=by simp[qZ,phiT];omega
  have e2:mh f (phiT f b i)=false:=by show decide (-1-(i:Int)=((nth f.blocks b).ins.length:Int))=Py;rw[decide_eq_false_iff_not];omega
  rw[rW,hZ,e1,e2,sQ e2];exact xd (t:=phiT f b i) h hp
 ·have e1:qZ f (insT f b i)=true:=by simp[qZ,insT,gE];omega
  have e2:mh f (insT f b i)=false:=by show decide ((i:Int)=((nth f.blocks b).ins.length:Int))=Py;rw[decide_eq_false_iff_not];omega
  have e3:zT f (insT f b i)=nth (nth f.blocks b).ins i:=by simp[zT,gE,insT]
  rw[rP hi,hZ,e1,e2,sQ e2,e3,insS,HA];cases hb:wx (nth (nth f.blocks b).ins i)with
  | true=>exact rfl
  | false=>exact xd (t:=insT f b i) h hp
 have e1:qZ f (endT f b)=false:=by simp[qZ,endT,gE]
 have e2:mh f (endT f b)=true:=by simp[mh,endT,gE]
 have e3:gE f (endT f b)=nth f.blocks b:=by simp[gE,endT]
 rw[sw,hZ,e1,e2,e3,endS,CP];cases hb:uY (nth f.blocks b).term with
 | false=>exact rfl
 | true=>
  have e4:((nth f.blocks b).term.to.all λt=>bZ t 1 ((f.blocks.length:Int)-1))=!(nth f.blocks b).term.to.any (uj f):=by rw[<-CA];congr 1;funext n;exact Hp
  rw[e4];show Alike tg _ (mW f (endT f b) (.ok l));unfold mW;rw[e2,e3];cases (nth f.blocks b).term.to.any (uj f)with
  | true=>exact rfl
  | false=>exact h
theorem BG{f:an}(hp:0<=f.params):Alike tg (kT f (λ_=>Pu)) (jC f):=by rw[vY,pN];refine pY (λt ht m l h=>Dp ht hp h) ⟨MB ..,λn h0 h1=>?_⟩;rw[aA (by rw[MB];omega),O0];rfl
def AR (t:Th):Option (Int × Int):=if t.blk<0 then Pu else Pt (t.blk,t.place)
structure Site (m:MW) (s:List Th):Prop where
 len:s.length=8192
 inn : ∀n:Int,0<=n->n<8192->m n=AR (nth s n.toNat)
 out : ∀n:Int,¬(0<=n/\n<8192)->m n=Pu
theorem zz {t:Th} (hb:0<=t.blk) : ∀{l:List Int} {m:MW} {s:List Th},Site m s->(∀n∈l,0<=n/\n<8192)->Site (l.foldl (λm n=>putM m n (t.blk,t.place)) m) (l.foldl (eG t) s)
 | [],m,s,h,_=>h
 | n::l,m,s,h,hl=>by
  rw[LV,LV];have hn:=hl n Ly;refine zz hb ⟨ni.trans h.len,λk h0 h1=>?_,λk hk=>?_⟩ λk hk=>hl k (Lz _ hk)
  ·unfold eG putM;rw[if_pos hn,bz (by rw[h.len];omega)];by_cases e:k=n
   ·subst e;rw[if_pos rfl,if_pos rfl];unfold AR;rw[if_neg P2]
   rw[if_neg e,if_neg P2];exact h.inn k h0 h1
  unfold putM;rw[if_neg (by rintro rfl;exact hk hn)];exact h.out k hk
theorem yY {b p:Int} : ∀{l:List Int} {m m':MW},l.foldlM (pK b p) m = .ok m'->m'=l.foldl (λm n=>putM m n (b,p)) m
 | [],m,m',h=>by cases h;rfl
 | n::l,m,m',h=>by
  rw[MQ]at h;cases e:pK b p m n with
  | error t=>rw[e]at h;cases h
  | ok m1=>
   rw[e]at h;unfold pK at e;split at e
   ·cases e
   cases e;exact yY (l:=l) (m:=putM m n (b,p)) h
theorem zd{ps b p:Int}{l:List Int}{m m':MW}(h:allS ps l b p m = .ok m'):m'=l.foldl (λm n=>putM m n (b,p)) m/\∀n∈l,ps<=n/\n<=8191:=by
 unfold allS at h;split at h
 ·rename_i ha;refine⟨yY h,λn hn=>?_⟩;have:=LW.1 ha n hn;simpa[bZ]using this
 cases h
theorem EI{f:an}{t:Th}(ht:t∈aG f){m m':MW}(h:j0 f m t = .ok m'):(m'=t.mks.foldl (λm n=>putM m n (t.blk,t.place)) m/\∀n∈t.mks,f.params<=n/\n<=8191)/\0<=t.blk:=by
 obtain⟨b,hb,ht⟩:=iC.1 ht;rcases jM.1 ht with⟨i,hi,rfl⟩ | ⟨i,hi,rfl⟩ | rfl
 ·rw[rW]at h;exact⟨zd h,by show 0<=(b:Int);omega⟩
 ·rw[rP hi]at h;unfold insS at h;split at h
  ·exact⟨zd h,by show 0<=(b:Int);omega⟩
  cases h
 rw[sw]at h;unfold endS at h;split at h
 ·split at h
  ·cases h;exact⟨⟨rfl,λn hn=>by cases hn⟩,by show 0<=(b:Int);omega⟩
  cases h
 cases h
theorem xH {f:an} (hp:0<=f.params) : ∀{l:List Th},(∀t∈l,t∈aG f)->∀{m m':MW} {s:List Th},Site m s->l.foldlM (j0 f) m = .ok m'->Site m' (l.foldl qt s)
 | [],_,m,m',s,h,e=>by cases e;exact h
 | t::l,hl,m,m',s,h,e=>by
  rw[MQ]at e;cases e1:j0 f m t with
  | error x=>rw[e1]at e;cases e
  | ok m1=>rw[e1]at e;obtain⟨⟨q1,q2⟩,q3⟩:=EI (hl t Ly) e1;rw[LV];refine xH hp (λt ht=>hl t (Lz _ ht)) (m:=m1) ?_ e;rw[q1];exact zz q3 h λn hn=>by have:=q2 n hn;omega
theorem DT{f:an}(hp:0<=f.params){m:MW}(h:kT f (λ_=>Pu) = .ok m):Site m (iq f):=by rw[vY]at h;refine xH hp (λt ht=>ht) ⟨MB ..,λn h0 h1=>?_,λn _=>rfl⟩ h;rw[aA (by rw[MB];omega),O0];rfl
theorem wm{f:an}{m:MW}{made:List Th}{away:List BL}{idom:List Int}{v blk place at_ told:Int}(hp:f.params<=8192)(hs:Site m made)(hd : ∀a:Int,0<=a->a<f.blocks.length->dM idom a blk=!nth (nth away a.toNat) blk.toNat)(hm : ∀i,i<8192->(nth made i).blk<f.blocks.length):useS f.params m idom v blk place at_ told=if(!gL f made away v blk at_) then .error (13,told,place) else .ok ():=by
 unfold useS;by_cases c1:0<=v/\v<f.params
 ·have e:gL f made away v blk at_=true:=by unfold gL;rw[if_pos c1]
  rw[if_pos c1,e];rfl
 rw[if_neg c1];by_cases c2:v<0\/8191<v
 ·have e:gL f made away v blk at_=false:=by unfold gL;rw[if_neg c1,if_pos (.inl c2)]
  rw[hs.out v P2,e];rfl
 have e:gL f made away v blk at_=if(nth made v.toNat).blk<0 then Py else if(nth made v.toNat).blk=blk then decide ((nth made v.toNat).place<0)||decide ((nth made v.toNat).place<at_) else !nth (nth away (nth made v.toNat).blk.toNat) blk.toNat:=by
  unfold gL;rw[if_neg c1];by_cases c3:(nth made v.toNat).blk<0
  ·rw[if_pos (.inr c3),if_pos c3]
  rw[if_neg (by rintro(q | q)<;>contradiction),if_neg c3]
 rw[hs.inn v P2 P2,e];have hmb:=hm v.toNat P2;generalize nth made v.toNat=t at hmb;unfold AR;by_cases c3:t.blk<0
 ·rw[if_pos c3,if_pos c3];rfl
 rw[if_neg c3,if_neg c3];have e2:kD (t.blk,t.place) idom blk at_=if t.blk=blk then decide (t.place<0)||decide (t.place<at_) else !nth (nth away t.blk.toNat) blk.toNat:=by
  unfold kD;by_cases c4:t.blk=blk
  ·simp only[c4,decide_true,Nk,Bool.not_true,O7,Bool.or_false,if_true];rw[Bool.or_comm]
  simp only[c4,decide_false,O7,Bool.not_false,Nk,O8,if_false];exact hd t.blk P2 hmb
 simp only[e2];generalize (if t.blk=blk then decide (t.place<0)||decide (t.place<at_) else !nth (nth away t.blk.toNat) blk.toNat)=B;cases B<;>rfl
theorem uP[Inhabited α]{l:List α}{p:α->Bool}{e:Tr}{g:Nat->Except Tr Unit}(h : ∀j,j<l.length->g j=if p (nth l j) then .error e else .ok ()):uAll g l.length=if l.any p then .error e else .ok ():=by
 have h1:uAll g l.length=l.foldlM (fun(_:Unit) x=>if p x then Except.error e else .ok ()) ():=by
  unfold uAll;rw[<-nY (f:=fun(_:Unit) x=>if p x then Except.error e else .ok ())];have key : ∀n,n<=l.length->upE (λi (_:Unit)=>g i) n ()=upE (λi (_:Unit)=>if p (nth l i) then Except.error e else .ok ()) n ():=by
   intro n;induction n with
   | zero=>exact λ_=>rfl
   | succ n ih=>intro hn;simp only[upE];rw[ih P2,h n P2]
  exact key _ (Lp _)
 rw[h1];clear h1 h;induction l with
 | nil=>rfl
 | cons a l ih=>
  rw[MQ,List.any_cons];cases hp:p a with
  | true=>rfl
  | false=>rw[O8];exact ih
theorem AW{β:Type}{p q:Nat->Bool}{x:Nat->β}{n:Nat}(h : ∀a,a<n->p a=q a):sift p x n=sift q x n:=by rw[pB,pB];congr 1;exact OW λa ha=>h a (MY.1 ha)
theorem BD{f:an}(hb:b<f.blocks.length):nth (db (ofG f.blocks)) b=cC f b:=by rw[zw,sC,np,fm hb,cC];refine AW λa ha=>?_;rw[LS,rn,decide_eq_true_eq,LM];exact⟨λh=>h.2,λh=>⟨by omega,h⟩⟩
theorem DG{f:an}{i:Nat}(hb:b<f.blocks.length):AB (nth (nth f.blocks b).phis i) (nth (db (ofG f.blocks)) b) b=qQ f (phiT f b i):=by
 have e1:pL f (phiT f b i)=nth (nth f.blocks b).phis i:=by unfold pL gE phiT;simp only[LM];rw[show(-1-(-1-(i:Int))).toNat=i by omega]
 have e2:(phiT f b i).blk=(b:Int):=rfl;unfold AB j9 qQ;rw[e1,e2,BD hb];generalize nth (nth f.blocks b).phis i=x;generalize cC f b=row;rw[LS];simp only[Ls,decide_eq_true_eq,BZ,xg];constructor
 ·rintro⟨⟨h1,h2⟩,h3⟩;refine⟨by omega,M5 P9 λj hj hj2=>?_⟩;have:=h3 j (by simpa using hj);rw[aA hj2,aA (by simpa using hj)]at this;simpa using this
 rintro⟨h1,h2⟩;have hl:x.ins.length=row.length:=by rw[<-h2,M0]
 refine⟨P6,λj hj=>?_⟩;rw[<-h2,aA (l:=List.map InD.frm x.ins) (by rw[M0];exact hj),aA hj];simp
theorem vF{f:an}: ∀i,i<8192->(nth (iq f) i).blk<f.blocks.length:=λi hi=>Dr P2 (λt ht=>by
 obtain⟨b,hb,ht⟩:=iC.1 ht;rcases jM.1 ht with⟨i,hi,rfl⟩ | ⟨i,hi,rfl⟩ | rfl
 ·show(b:Int)<_;omega
 ·show(b:Int)<_;omega
 show(b:Int)<_;omega) hi
section
variable {f:an} {m:MW} {idom:List Int} (hp0:f.params<=8192) (hs:Site m (iq f)) (hd : ∀a b:Int,0<=a->a<f.blocks.length->0<=b->b<f.blocks.length->dM idom a b=!nth (nth (gr f) a.toNat) b.toNat)
include hp0 hs hd
theorem GZ{i:Nat}(hb:b<f.blocks.length)(hi:i<(nth f.blocks b).phis.length):phiU f m idom (db (ofG f.blocks)) b i=fH f (iq f) (gr f) (phiT f b i):=by
 have hf:=DG (f:=f) (i:=i) hb;have e1:pL f (phiT f b i)=nth (nth f.blocks b).phis i:=by unfold pL gE phiT;simp only[LM];rw[show(-1-(-1-(i:Int))).toNat=i by omega]
 have e3:fH f (iq f) (gr f) (phiT f b i)=if !qQ f (phiT f b i) then .error (16,b,-1-i) else if(nth (nth f.blocks b).phis i).ins.any (stP f (iq f) (gr f)) then .error (13,b,-1-i) else .ok ():=by unfold fH;rw[if_neg (show ¬0<=(phiT f b i).place by show ¬0<=-1-(i:Int);omega),e1];rfl
 rw[e3];unfold phiU;simp only[hf];cases hss:qQ f (phiT f b i)with
 | false=>rfl
 | true=>
  rw[if_pos rfl,if_neg Sa];refine uP λj hj=>?_;have hfr:0<=(nth (nth (nth f.blocks b).phis i).ins j).frm/\(nth (nth (nth f.blocks b).phis i).ins j).frm<f.blocks.length:=by unfold qQ at hss;rw[e1]at hss;simp only[Ls,decide_eq_true_eq]at hss;have hm:=NO (f:=InD.frm) (bJ hj);rw[hss.2]at hm;obtain⟨a,h1,_,h2⟩:=ou.1 hm;omega
  rw[wm hp0 hs (λa h0 h1=>hd a _ h0 h1 hfr.1 hfr.2) vF];rfl
theorem HC{i:Nat}(hb:b<f.blocks.length)(hi:i<(nth f.blocks b).ins.length):insU f m idom b i=fH f (iq f) (gr f) (insT f b i):=by
 have e3:fH f (iq f) (gr f) (insT f b i)=if(nth (nth f.blocks b).ins i).args.any (stT f (iq f) (gr f) (insT f b i)) then .error (13,b,i) else .ok ():=by unfold fH;rw[if_pos (show 0<=(insT f b i).place by show 0<=(i:Int);omega)];rfl
 rw[e3];unfold insU;refine uP λj hj=>?_;rw[wm hp0 hs (λa h0 h1=>hd a _ h0 h1 P2 P2) vF];rfl
theorem HB(hb:b<f.blocks.length):endU f m idom b=fH f (iq f) (gr f) (endT f b):=by
 have e3:fH f (iq f) (gr f) (endT f b)=if(nth f.blocks b).term.args.any (stT f (iq f) (gr f) (endT f b)) then .error (13,b,(nth f.blocks b).ins.length) else .ok ():=by unfold fH;rw[if_pos (show 0<=(endT f b).place by show 0<=((nth f.blocks b).ins.length:Int);omega)];rfl
 rw[e3];unfold endU;refine uP λj hj=>?_;rw[wm hp0 hs (λa h0 h1=>hd a _ h0 h1 P2 P2) vF];rfl
def stF (f:an) (_:Unit) (t:Th):Except Tr Unit:=fH f (iq f) (gr f) t
theorem Hv(hb:b<f.blocks.length):blkU f m idom (db (ofG f.blocks)) b=(thB f b).foldlM (stF f) ():=by
 unfold blkU thB uAll;rw[mB (f:=stF f) (x:=phiT f b) (n:=(nth f.blocks b).phis.length) λi s hi=>GZ hp0 hs hd hb hi];rw[mB (f:=stF f) (x:=insT f b) (n:=(nth f.blocks b).ins.length) λi s hi=>HC hp0 hs hd hb hi];rw[iP,iP,HB hp0 hs hd hb];cases (rows (phiT f b) (nth f.blocks b).phis.length).foldlM (stF f) ()with
 | error e=>rfl
 | ok m1=>
  obtain⟨⟩:=m1;cases hI:(rows (insT f b) (nth f.blocks b).ins.length).foldlM (stF f) ()with
  | error e=>simp only[andE,hI]
  | ok m2=>simp only[andE,hI];rw[qk];rfl
theorem DV:uAll (blkU f m idom (db (ofG f.blocks))) f.blocks.length=ze f:=by
 have key : ∀n,n<=f.blocks.length->uAll (blkU f m idom (db (ofG f.blocks))) n=(thTo f n).foldlM (stF f) ():=by
  intro n;induction n with
  | zero=>exact λ_=>rfl
  | succ n ih=>
   intro hn;rw[gg,iP,<-ih P2];have e:uAll (blkU f m idom (db (ofG f.blocks))) (n+1)=match uAll (blkU f m idom (db (ofG f.blocks))) n with | .ok _=>blkU f m idom (db (ofG f.blocks)) n | .error e=>.error e:=by show upE _ (n+1) ()=_;simp only[upE];unfold uAll;cases upE (λi (_:Unit)=>blkU f m idom (db (ofG f.blocks)) i) n ()<;>rfl
   rw[e];cases uAll (blkU f m idom (db (ofG f.blocks))) n with
   | error e=>rfl
   | ok s=>exact Hv hp0 hs hd P2
 rw[key _ (Lp _)];exact(nY (f:=stF f)).symm
end
theorem xl {f:an} : ∀k,manyN f k=(vQ f k:Int)
 | 0=>rfl
 | k+1=>by have ih:=xl (f:=f) k;unfold manyN at ih ⊢;rw[up,ih,vQ];omega
theorem xb {σ ε:Type} {f g:Nat->σ->Except ε σ} {s:σ} : ∀{n:Nat},(∀i s,i<n->f i s=g i s)->upE f n s=upE g n s
 | 0,_=>rfl
 | n+1,h=>by
  simp only[upE];rw[xb (n:=n) λi s hi=>h i s P2];cases upE g n s with
  | ok s'=>exact h n s' P2
  | error e=>rfl
theorem tJ {f:Nat->Unit->Except Tr Unit} : ∀{n:Nat},upE f n () = .ok ()->∀i,i<n->f i () = .ok ()
 | n+1,h,i,hi=>by
  simp only[upE]at h;cases e:upE f n ()with
  | error t=>rw[e]at h;cases h
  | ok s=>
   rw[e]at h;rcases Lr i n with hlt | hge
   ·exact tJ e i hlt
   have:i=n:=by omega
   subst this;exact h
theorem Fv{f:an}(hn:0<f.blocks.length):uAll (sB f) f.blocks.length=wayE f:=by
 unfold uAll wayE;refine xb λb s hb=>?_;unfold sB;have e:decide ((b:Int)∈bc (ofG f.blocks))=nth (dP f (-1)) b:=by rw[LS,decide_eq_true_eq,(jt (by rw[np];exact hn)).mem,jn hb]
 rw[e]
theorem Eo{f:an}(hn:0<f.blocks.length)(hw:wayE f = .ok ())(a b:Int)(h0:0<=a)(h1:a<f.blocks.length)(h2:0<=b)(h3:b<f.blocks.length):
  dM (pQ (ofG f.blocks)) a b=!nth (nth (gr f) a.toNat) b.toNat:=by
 have hR : ∀x:Nat,x<f.blocks.length->Re (ofG f.blocks) (-1) x:=λx hx=>by
  have:=tJ hw x hx;rw[<-jn hx];split at this
  ·assumption
  cases this
 have hg:0<(ofG f.blocks).length:=by rw[np];exact hn
 obtain⟨fp,C,l,hl,I⟩:=xx hg;have hi:pQ (ofG f.blocks)=l:=by unfold pQ;rw[hl];rfl
 rw[hi];have e:=rC I C (a:=a.toNat) (b:=b.toNat) (by rw[np];omega) (hR _ P2);rw[LI h0,LI h2]at e;rw[e,LS,og];have ha:nth (gr f) a.toNat=dP f a:=by unfold gr;rw[fm P2,LI h0]
 rw[ha];have hr:=jn (f:=f) (wo:=a) (b:=b.toNat) P2;have haa:((a.toNat:Nat):Int)=a:=LI h0;rw[haa];cases hc:nth (dP f a) b.toNat with
 | true=>rw[hc]at hr;simp[hr.1 rfl]
 | false=>
  rw[hc]at hr;have hnr:¬Re (ofG f.blocks) a b.toNat:=λh=>by have:=hr.2 h;cases this
  simp[hnr,hR _ (show a.toNat<f.blocks.length by omega),hR _ (show b.toNat<f.blocks.length by omega)]
theorem C0(f:an):ke f=vk f:=by
 unfold ke lk vk;by_cases c1:f.params<0\/4<f.params
 ·have:bZ f.params 0 4=false:=by rw[NC];simp[bZ];omega
  rw[if_pos this,if_pos c1]
 have hw4:¬bZ f.params 0 4=false:=by simp[bZ];omega
 rw[if_neg hw4,if_neg c1];by_cases c2:f.blocks.length=0
 ·rw[if_pos c2,if_pos c2]
 rw[if_neg c2,if_neg c2];have hm:BK f=(vQ f f.blocks.length:Int):=xl _;by_cases c3:512<f.blocks.length\/4096<vQ f f.blocks.length
 ·rw[if_pos (by rw[hm];omega),if_pos c3]
 rw[if_neg (by rw[hm];omega),if_neg c3];have hp:0<=f.params:=by omega
 have hsh:=BG hp;cases hS:kT f (λ_=>Pu)with
 | error e=>
  cases hR:jC f with
  | ok l=>rw[hS,hR]at hsh;exact hsh.elim
  | error e'=>rw[hS,hR]at hsh;have hee:e=e':=hsh;subst hee;obtain⟨k,s',h1,_,h3⟩:=pA hR;have:=(sV h3).1;rw[if_pos (by show e.1≠0;omega)];rfl
 | ok m=>
  cases hR:jC f with
  | error e'=>rw[hS,hR]at hsh;exact hsh.elim
  | ok l=>
   rw[if_neg (by simp[wR])];have hs:=DT hp hS;show(match qP f m (pQ (ofG f.blocks))with | .ok _=>((0,0,0):Tr) | .error t=>t)=_;unfold qP;rw[Fv P2];cases hW:wayE f with
   | error e=>rfl
   | ok s=>obtain⟨⟩:=s;have:=DV (f:=f) (m:=m) (idom:=pQ (ofG f.blocks)) P2 hs λa b h0 h1 h2 h3=>Eo P2 hW a b h0 h1 h2 h3;show(match uAll (blkU f m (pQ (ofG f.blocks)) (db (ofG f.blocks))) f.blocks.length with | .ok _=>((0,0,0):Tr) | .error t=>t)=wR (ze f);rw[this];cases ze f<;>rfl
def Marks (m:BL) (S:Int->Prop):Prop:=m.length=8192/\∀n:Int,0<=n->n<8192->(nth m n.toNat=Px↔S n)
theorem Bf:Marks (List.replicate 8192 Py) (λ_=>False):=⟨MB,λn h0 h1=>by rw[aB P2];simp⟩
theorem DM{m:BL}{S:Int->Prop}(h:Marks m S)(h0:0<=n)(h1:n<8192):Marks (m.set n.toNat Px) (λk=>S k\/k=n):=by
 refine⟨by simpa using h.1,λk k0 k1=>?_⟩;rw[bz (by rw[h.1];omega)];split
 ·rename_i e;exact⟨λ_=>.inr P2,λ_=>rfl⟩
 rename_i e;rw[h.2 k k0 k1];exact⟨.inl,λo=>o.resolve_right (by rintro rfl;exact e rfl)⟩
theorem Marks.congr{m:BL}{S T:Int->Prop}(h:Marks m S)(he : ∀n,S n↔T n):Marks m T:=⟨h.1,λn a b=>(h.2 n a b).trans (he n)⟩
theorem vN {t:Th} : ∀{l:List Int} {m m':BL} {S:Int->Prop},Marks m S->(∀n∈l,0<=n/\n<8192)->l.foldlM (lM t) m = .ok m'->Marks m' (λk=>S k\/k∈l)/\l.Nodup/\∀n∈l,¬S n
 | [],m,m',S,h,_,e=>by cases e;exact⟨h.congr λn=>by simp,O4,λn hn=>by cases hn⟩
 | a::l,m,m',S,h,hl,e=>by
  rw[MQ]at e;have ha:=hl a Ly;unfold lM at e;by_cases hc:nth m a.toNat=Px
  ·rw[if_pos hc]at e;cases e
  rw[if_neg hc]at e;obtain⟨g1,g2,g3⟩:=vN (DM h ha.1 ha.2) (λn hn=>hl n (Lz _ hn)) e;refine⟨g1.congr λn=>by rw[LG,or_assoc],Ow.2 ⟨λhm=>g3 a hm (.inr rfl),g2⟩,λn hn=>?_⟩;rcases LG.1 hn with rfl | hn
  ·exact λhs=>hc ((h.2 n ha.1 ha.2).2 hs)
  exact λhs=>g3 n hn (.inl hs)
structure yP (f:an) (t:Th):Prop where
 op:qZ f t=Px->wx (zT f t)=Py
 term:mh f t=Px->uY (gE f t).term=Px
 mks : ∀n∈t.mks,f.params<=n/\n<=8191
 to:mh f t=Px->∀n∈(gE f t).term.to,1<=n/\n<f.blocks.length
theorem Fx{t:Th}{m:BL}:upE (oS t) t.mks.length m=t.mks.foldlM (lM t) m:=nY (f:=lM t)
theorem any_false{p:α->Bool}{l:List α}:l.any p=Py↔∀n∈l,p n=false:=by rw[List.any_eq_false];exact forall_congr' λn=>forall_congr' λ_=>by simp
theorem F5{f:an}:my f n=Py↔f.params<=n/\n<=8191:=by simp[my]
theorem HE{f:an}:uj f n=Py↔1<=n/\n<f.blocks.length:=by simp[uj]
theorem AP{f:an}{t:Th}{m m':BL}(h:hZ f t m = .ok m'):yP f t/\t.mks.foldlM (lM t) m = .ok m':=by
 unfold hZ at h;split at h
 ·cases h
 rename_i c1;split at h
 ·cases h
 rename_i c2;split at h
 ·cases h
 rename_i c3;rw[Fx]at h;unfold mW at h;split at h
 ·cases h
 rename_i m1 e;split at h
 ·cases h
 rename_i c4;cases h;refine⟨⟨λg=>?_,λg=>?_,λn hn=>?_,λg n hn=>?_⟩,e⟩
 ·simpa[g]using c1
 ·simpa[g]using c2
 ·exact F5.1 (any_false.1 (by simpa only[Bool.not_eq_true]using c3) n hn)
 refine HE.1 (any_false.1 (by simpa only[g,Nk,Bool.not_eq_true]using c4) n hn)
def Ep (l:List Th):List Int:=l.flatMap Th.mks
theorem ta {f:an} (hp:0<=f.params) : ∀{l:List Th} {m m':BL} {S:Int->Prop},Marks m S->l.foldlM (λm t=>hZ f t m) m = .ok m'->(∀t∈l,yP f t)/\(Ep l).Nodup/\∀n∈Ep l,¬S n
 | [],m,m',S,h,e=>⟨λt ht=>(by cases ht),O4,λn hn=>(by cases hn)⟩
 | t::l,m,m',S,h,e=>by
  rw[MQ]at e;cases e1:hZ f t m with
  | error x=>rw[e1]at e;cases e
  | ok m1=>
   rw[e1]at e;obtain⟨g,e2⟩:=AP e1;obtain⟨k1,k2,k3⟩:=vN h (λn hn=>by have:=g.mks n hn;omega) e2;obtain⟨i1,i2,i3⟩:=ta hp k1 e;refine⟨λx hx=>?_,?_,λn hn=>?_⟩
   ·rcases LG.1 hx with rfl | hx
    ·exact g
    exact i1 x hx
   ·refine Nh.2 ⟨k2,i2,λa ha b hb=>?_⟩;rintro rfl;exact i3 a hb (.inr ha)
   rcases Lt.1 hn with hn | hn
   ·exact k3 n hn
   exact λhs=>i3 n hn (.inl hs)
def xQ (f:an) (v b p:Int):Prop:=(0<=v/\v<f.params)\/∃t∈aG f,v∈t.mks/\(t.blk=b/\(t.place<0\/t.place<p)\/t.blk≠b/\¬Re (ofG f.blocks) t.blk b.toNat)
structure F9 (ts:List Th) (s:List Th):Prop where
 len:s.length=8192
 is : ∀n:Int,0<=n->n<8192->(nth s n.toNat=noTh/\∀t∈ts,n∉t.mks)\/(nth s n.toNat∈ts/\n∈(nth s n.toNat).mks)
theorem zW {t:Th} {ts:List Th} : ∀{l:List Int} {s:List Th} {d:List Int},(∀n∈l,n∈t.mks)->(s.length=8192/\∀n:Int,0<=n->n<8192->(nth s n.toNat=noTh/\(∀t∈ts,n∉t.mks)/\n∉d)\/(nth s n.toNat∈ts++[t]/\n∈(nth s n.toNat).mks))->
  ((l.foldl (eG t) s).length=8192/\∀n:Int,0<=n->n<8192->(nth (l.foldl (eG t) s) n.toNat=noTh/\(∀t∈ts,n∉t.mks)/\n∉d++l)\/(nth (l.foldl (eG t) s) n.toNat∈ts++[t]/\n∈(nth (l.foldl (eG t) s) n.toNat).mks))
 | [],s,d,_,h=>by simpa using h
 | a::l,s,d,hl,h=>by
  rw[LV];have:=zW (t:=t) (ts:=ts) (l:=l) (s:=eG t s a) (d:=d++[a]) (λn hn=>hl n (Lz _ hn)) ⟨by rw[ni];exact h.1,λn h0 h1=>?_⟩
  ·simpa using this
  unfold eG;split
  ·rw[bz (by rw[h.1];omega)];split
   ·rename_i hc e;have:n=a:=by omega
    subst this;exact .inr ⟨MI _ (Lw.2 rfl),hl n Ly⟩
   rename_i hc e;rcases h.2 n h0 h1 with⟨a1,a2,a3⟩ | a1
   ·refine .inl ⟨a1,a2,?_⟩;rw[Lt,Lw];rintro(q | rfl)
    ·exact a3 q
    exact e rfl
   exact .inr a1
  rename_i hc;rcases h.2 n h0 h1 with⟨a1,a2,a3⟩ | a1
  ·refine .inl ⟨a1,a2,?_⟩;rw[Lt,Lw];rintro(q | rfl)
   ·exact a3 q
   exact hc ⟨h0,h1⟩
  exact .inr a1
theorem y7 : ∀{l ts s:List Th},F9 ts s->F9 (ts++l) (l.foldl qt s)
 | [],ts,s,h=>by simpa using h
 | t::l,ts,s,h=>by
  rw[LV];have:=zW (t:=t) (ts:=ts) (l:=t.mks) (s:=s) (d:=[]) (λn hn=>hn) ⟨h.len,λn h0 h1=>(h.is n h0 h1).elim (λa=>.inl ⟨a.1,a.2,NK⟩) λa=>.inr ⟨MK _ a.1,a.2⟩⟩;have:=y7 (l:=l) (ts:=ts++[t]) (s:=qt s t) ⟨this.1,λn h0 h1=>(this.2 n h0 h1).elim (λa=>.inl ⟨a.1,λx hx=>?_⟩) .inr⟩
  ·simpa using this
  rcases Lt.1 hx with hx | hx
  ·exact a.2.1 x hx
  rw[Lw.1 hx];simpa using a.2.2
theorem CU{f:an}:F9 (aG f) (iq f):=
 y7 (l:=aG f) (ts:=[]) (s:=List.replicate 8192 noTh) ⟨MB,λn h0 h1=>.inl ⟨aB P2,λt ht=>by cases ht⟩⟩
theorem Az{f:an}{t:Th}(h:t∈aG f):0<=t.blk/\t.blk<f.blocks.length:=by obtain⟨b,hb,ht⟩:=iC.1 h;rcases jM.1 ht with⟨i,hi,rfl⟩ | ⟨i,hi,rfl⟩ | rfl<;>exact⟨Int.natCast_nonneg _,Int.ofNat_lt.2 hb⟩
theorem Hn{f:an}{a b:Int}(h0:0<=a)(h1:a<f.blocks.length)(h2:0<=b)(h3:b<f.blocks.length):nth (nth (gr f) a.toNat) b.toNat=Px↔Re (ofG f.blocks) a b.toNat:=by unfold gr;rw[fm P2,LI h0];exact jn P2
theorem xw{f:an}{v b p:Int}(hb0:0<=b)(hb1:b<f.blocks.length)(h:gL f (iq f) (gr f) v b p=Px):xQ f v b p:=by
 unfold gL at h;split at h
 ·rename_i c;exact .inl c
 split at h
 ·cases h
 rename_i c1 c2;rcases CU.is v P2 P2 with⟨e,_⟩ | ⟨hm,hv⟩
 ·exact absurd (.inr (by rw[e];decide)) c2
 have hat:=Az hm;refine .inr ⟨_,hm,hv,?_⟩;split at h
 ·rename_i e;exact .inl ⟨e,by simpa using h⟩
 rename_i e;refine .inr ⟨e,λhr=>?_⟩;rw[(Hn hat.1 hat.2 hb0 hb1).2 hr]at h;cases h
structure nP (f:an):Prop where
 params:0<=f.params/\f.params<=4
 blocks:0<f.blocks.length/\f.blocks.length<=512
 cnt:vQ f f.blocks.length<=4096
 good : ∀t∈aG f,yP f t
 nodup:(Ep (aG f)).Nodup
 way : ∀b:Nat,b<f.blocks.length->Re (ofG f.blocks) (-1) b
 takes : ∀t∈aG f,0<=t.place->∀v∈t.tks,xQ f v t.blk t.place
 phi : ∀b i:Nat,b<f.blocks.length->i<(nth f.blocks b).phis.length->0<b/\(nth (nth f.blocks b).phis i).ins.map InD.frm=cC f b/\∀p∈(nth (nth f.blocks b).phis i).ins,xQ f p.val p.frm (BH f p.frm)
theorem F7{f:an}{b x:Int}:x∈cC f b↔(0<=x/\x<f.blocks.length)/\b∈(nth f.blocks x.toNat).term.to:=by
 unfold cC;rw[ou];constructor
 ·rintro⟨a,ha,hb,rfl⟩;exact⟨P6,by simpa using hb⟩
 rintro⟨⟨h0,h1⟩,h⟩;exact⟨x.toNat,by omega,by simpa using h,by omega⟩
theorem Ao{f:an}{t:Th}:fH f (iq f) (gr f) t = .ok ()↔
  (0<=t.place/\∀v∈t.tks,gL f (iq f) (gr f) v t.blk t.place=Px)\/(t.place<0/\qQ f t=Px/\∀p∈(pL f t).ins,gL f (iq f) (gr f) p.val p.frm (BH f p.frm)=Px):=by
 unfold fH;by_cases h0:0<=t.place
 ·rw[if_pos h0];have hn:¬t.place<0:=by omega
  simp only[h0,hn,true_and,false_and,or_false];cases e:t.tks.any (stT f (iq f) (gr f) t)with
  | true=>
   obtain⟨v,hv,hs⟩:=Ns.1 e;constructor
   ·intro h;cases h
   intro h;unfold stT at hs;rw[h v hv]at hs;cases hs
  | false=>
   constructor
   ·intro _ v hv;have:=any_false.1 e v hv;simpa[stT]using this
   intro _;rfl
 rw[if_neg h0];have hn:t.place<0:=by omega
 simp only[h0,hn,true_and,false_and,false_or];cases e1:qQ f t with
 | false=>simp
 | true=>
  rw[if_neg Sa];cases e:(pL f t).ins.any (stP f (iq f) (gr f))with
  | true=>
   obtain⟨v,hv,hs⟩:=Ns.1 e;constructor
   ·intro h;cases h
   rintro⟨_,h⟩;unfold stP at hs;rw[h v hv]at hs;cases hs
  | false=>
   constructor
   ·intro _;refine⟨rfl,λv hv=>?_⟩;have:=any_false.1 e v hv;simpa[stP]using this
   intro _;rfl
theorem FU{f:an}{i:Nat}:pL f (phiT f b i)=nth (nth f.blocks b).phis i:=by unfold pL gE phiT;dsimp only;rw[LM];congr 1;omega
theorem IC{f:an}(h:(ke f).1=0):nP f:=by
 rw[C0]at h;unfold vk at h;split at h
 ·cases h
 rename_i c1;split at h
 ·cases h
 rename_i c2;split at h
 ·cases h
 rename_i c3;cases hs:jC f with
 | error e=>obtain⟨k,s',_,_,h3⟩:=pA (show upE _ _ _=_ from hs);have:=(sV h3).1;rw[hs]at h;rw[if_pos (by show e.1≠0;omega)]at h;have h:e.1=0:=h;omega
 | ok m=>
  rw[hs,if_neg (by simp[wR])]at h;obtain⟨g1,g2,_⟩:=ta (f:=f) P2 Bf (by rw[<-pN];exact hs);cases hw:wayE f with
  | error e=>
   rw[hw]at h;obtain⟨k,s',_,_,h3⟩:=pA (show upE _ _ _=_ from hw);split at h3
   ·cases h3
   cases h3;exact absurd (show(15:Int)=0 from h) P4
  | ok u=>
   obtain⟨⟩:=u;rw[hw]at h;cases hu:ze f with
   | error e=>
    rw[hu]at h;obtain⟨k,s',_,_,h3⟩:=pA (show upE _ _ _=_ from hu);have h:e.1=0:=h;unfold fH at h3;repeat' split at h3
    all_goals first | (cases h3;done) | (cases h3;first | exact absurd (show(13:Int)=0 from h) P4 | exact absurd (show(16:Int)=0 from h) P4)
   | ok u=>
    obtain⟨⟩:=u;have hst : ∀t∈aG f,fH f (iq f) (gr f) t = .ok ():=λt ht=>by obtain⟨i,hi,e⟩:=LO ht;have:=tJ hu i hi;rw[aA hi,e]at this;exact this
    refine⟨by omega,by omega,by omega,g1,g2,λb hb=>?_,λt ht h0 v hv=>?_,λb i hb hi=>?_⟩
    ·have:=tJ hw b hb;rw[<-jn hb];split at this
     ·assumption
     cases this
    ·have hat:=Az ht;rcases Ao.1 (hst t ht)with⟨_,k⟩ | ⟨k,_⟩
     ·exact xw hat.1 hat.2 (k v hv)
     omega
    have ht:phiT f b i∈aG f:=iC.2 ⟨b,hb,jM.2 (.inl ⟨i,hi,rfl⟩)⟩;rcases Ao.1 (hst _ ht)with⟨k,_⟩ | ⟨_,k1,k2⟩
    ·exact absurd k (by show ¬(0:Int)<=-1-(i:Int);omega)
    unfold qQ at k1;rw[FU]at k1 k2;obtain⟨k3,k4⟩:=(Ls _ _).mp k1;have k4:(nth (nth f.blocks b).phis i).ins.map InD.frm=cC f b:=of_decide_eq_true k4;have k3:(0:Int)<b:=of_decide_eq_true k3;refine⟨by omega,k4,λp hp=>?_⟩;have hm:p.frm∈cC f b:=by rw[<-k4];exact NO hp
    have:=(F7.1 hm).1;exact xw this.1 this.2 (k2 p hp)
def mkL (vs:Value) (at_:Nat) (ps:Int) (vb:Value) (nx:Int) (vl:Value):List Value:=[vs,Pp Pq at_,Pp Pq ps,vb,Pp Pq nx,vl]
def rawV (s:List Int) (at_:Nat):Int:=if at_<s.length then nth s at_ else 0
def aE (s:List Int) (at_:Nat) (n:Int):Int:=((rawV s at_).tmod n+n).tmod n
theorem cG{s:List Int}{at_:Nat}(hn:0<n):0<=aE s at_ n/\aE s at_ n<n:=by have b1:=Int.lt_tmod_of_pos (rawV s at_) hn;exact⟨Int.tmod_nonneg _ P2,Int.tmod_lt_of_pos _ hn⟩
theorem GK{W:View}{h:Heap}{o:Own}{M at_:Nat}{vs vb vl:Value}{ps nx:Int}{s:List Int}(w:Owns W h o)(hk:o (0,0)=bx T.aW M (RawN.mk (n:=5) (mkL vs at_ ps vb nx vl)))(hs:SlRd W vs s)(h1:at_<=1000000000)(hn:0<n)(hn2:n<=1000000000):
  az Pz 34 #[Pw (Pt ⟨M,0,Pu⟩),Pp Pq n] h (λu h'=>u = Pp Pq (aE s at_ n)/\Owns W h' (o.upd (0,0) (bx T.aW M (RawN.mk (n:=5) (mkL vs (at_+1) ps vb nx vl))))):=by
 refine aq (args:=[Pw (Pt ⟨M,0,Pu⟩),Pp Pq n]) follows Tryz.func34 E.gW Pj λK hK=>?_;have c0:ak (vw h) ⟨M,0,Pu⟩=Pt vs:=w.raw hk (i:=0) P4;have c1:ak (vw h) ⟨M,1,Pu⟩=Pt (Pp Pq at_):=w.raw hk (i:=1) P4;dsimp only[L.gW,lkF,lkG];refine ab λz hz=>?_;simp;subst hz;refine ab λz hz=>?_;simp;subst hz;refine ab λz hz=>?_;have hsl : ∀{Q:View},Un.ev Q .len vs=Pt (Pp Pq s.length):=fun{Q}=>hs.len;refine eY (λρ h2=>h2=h/\I64 (rawV s at_)/\ρ=[(0,Pw (Pt ⟨M,0,Pu⟩)),(1,Pp Pq n),(4,Pp Pq 0),(5,Pp Pq (rawV s at_))]) ?_ ?_
 ·intro K2 hK2;by_cases c:at_<s.length
  ·have hs2:=hs.mono w.wle;have hr:=hs.range (i:=at_) c;have e:rawV s at_=nth s at_:=if_pos c;rw[e]at hK2;simp(disch:=omega)[c0,c1,hsl,c,hs2.idx1 rfl,hs2.int Pl];exact hK2 _ _ ⟨rfl,hr,rfl⟩
  have e:rawV s at_=0:=if_neg c;rw[e]at hK2;simp[c0,c1,hsl,c];exact hK2 _ _ ⟨rfl,⟨P4,P4⟩,rfl⟩
 rintro _ h2 ⟨rfl,hx,rfl⟩;subst hz;refine ab λz hz=>?_;simp(disch:=omega)[c1];refine w.de (k:=(0,0)) (n:=5) (i:=1) (e:=T.aW) (B:=M) (l:=mkL vs at_ ps vb nx vl) hk P4 P1 rfl rfl rfl λh3 w3 _=>?_;subst hz;have b1:=Int.lt_tmod_of_pos (rawV s at_) hn;have b2:=Int.tmod_lt_of_pos (rawV s at_) hn;have hw:IntKind.i64.wrap ((rawV s at_).tmod n+n)=(rawV s at_).tmod n+n:=bw P2 P2;have hne:¬n=0:=by omega
 simp[hw,hne];refine hK _ _ ⟨rfl,w3.congr λq=>?_⟩;rfl
theorem y8{W:View}{h:Heap}{o:Own}{M at_:Nat}{vs vb vl:Value}{ps nx:Int}(w:Owns W h o)(hk:o (0,0)=bx T.aW M (RawN.mk (n:=5) (mkL vs at_ ps vb nx vl)))(h0:0<=nx)(h1:nx<=1000000000):
  az Pz 52 #[Pw (Pt ⟨M,0,Pu⟩)] h (λu h'=>u = Pp Pq nx/\Owns W h' (o.upd (0,0) (bx T.aW M (RawN.mk (n:=5) (mkL vs at_ ps vb (nx+1) vl))))/\∀X:View,X.le (vw h)->X M=Pu->X.le (vw h')):=by refine aq (args:=[Pw (Pt ⟨M,0,Pu⟩)]) follows Tryz.func52 E.gu Pj λK hK=>?_;have c4:ak (vw h) ⟨M,4,Pu⟩=Pt (Pp Pq nx):=w.raw hk (i:=4) P4;dsimp only[L.gu,lkF,lkG];refine ab λz hz=>?_;simp;subst hz;refine ab λz hz=>?_;simp(disch:=omega)[c4];refine w.de (k:=(0,0)) (n:=5) (i:=4) (e:=T.aW) (B:=M) (l:=mkL vs at_ ps vb nx vl) hk P4 P1 rfl rfl rfl λh3 w3 hx3=>?_;have w3:Owns W h3 (o.upd (0,0) (bx T.aW M (RawN.mk (n:=5) (mkL vs at_ ps vb (nx+1) vl)))):=w3;have c5:ak (vw h3) ⟨M,4,Pu⟩=Pt (Pp Pq (nx+1)):=w3.raw Own.aj (i:=4) P4;subst hz;simp(disch:=omega)[c5];exact hK _ _ ⟨by congr 1,w3,hx3⟩
end Go.Proofs.YtnfiilgdjpdlkaaGreatDoor
namespace Go.Lft
open Go
variable {po:OP}
theorem Iy {P:Program} {t ty:TypeId} {us:List (Nat × Value)} {h:Heap} {K:Value->Heap->Prop} {x:Operand} {n:Int} (hx:asg us x = Pp Pq n) (hk:K (Pp Pq (IntKind.i64.wrap (-n))) h):step P (.unOp .neg t x) ty us h K:=by refine cJ (bX λw hw=>⟨Pp Pq (IntKind.i64.wrap (-n)),w,?_,Same.refl _,by rw[hw];exact hk⟩);simp only[bG,execOp,hx];simp[Op.unary,Op.intArith]
end Go.Lft
namespace Go.Proofs.YtnfiilgdjpdlkaaGreatDoor
open Go Go.Lft
structure MS where
 at_:Nat
 ps:Int
 blocks:List BlkD
 next:Int
 live:List Int
def MS.took (m:MS):MS:={ m with at_:=m.at_+1 }
def MS.aH (m:MS):MS:={ m with next:=m.next+1 }
structure BlkM where
 phis:Raw
 ins:Raw
 term:cQ
instance:Rep BlkM:=Rep.via λd=>Cat.mk d.phis (Cat.mk d.ins d.term)
instance:Inhabited BlkM:=⟨⟨default,default,default⟩⟩
theorem BlkM.rF:Part BlkM Raw 0 BlkM.phis (λd x=>{ d with phis:=x }):=(Part.fst Part.all).via (λ_=>rfl) λ_ _=>rfl
theorem BlkM.mN:Part BlkM Raw 1 BlkM.ins (λd x=>{ d with ins:=x }):=(Part.snd (Part.fst Part.all)).via (λ_=>rfl) λ_ _=>rfl
theorem BlkM.nA:Part BlkM cQ 2 BlkM.term (λd x=>{ d with term:=x }):=(Part.snd (Part.snd Part.all)).via (λ_=>rfl) λ_ _=>rfl
theorem zF {H:View} {cs:List Value} {d:BlkM} {p:List PhiD} {i:List InsD} (h:Rep.rd H cs d) (hp:SlRd H d.phis.v p) (hi:SlRd H d.ins.v i):Rep.rd H cs (BlkD.mk p i d.term):=by obtain⟨c1,r1,e1,⟨h1,_⟩,c2,r2,e2,⟨h2,_⟩,h3⟩:=h;have h1:c1=[d.phis.v]:=h1;have h2:c2=[d.ins.v]:=h2;exact⟨c1,r1,e1,⟨d.phis.v,h1,hp⟩,c2,r2,e2,⟨d.ins.v,h2,hi⟩,h3⟩
structure MkB (M:Nat) (vs:Value) (m:MS) (o:Own) (vb vl:Value) (lb:List BlkM):Prop where
 box:o (0,0)=bx T.aW M (RawN.mk (n:=5) (mkL vs m.at_ m.ps vb m.next vl))
 live:o (0,1)=it T.int vl m.live
 blk:o (0,2)=it T.ep vb lb
 len:lb.length=m.blocks.length
 term : ∀i,i<m.blocks.length->(nth lb i).term=(nth m.blocks i).term
 phis : ∀i,i<m.blocks.length->o (1,i)=it T.nm (nth lb i).phis.v (nth m.blocks i).phis
 ins : ∀i,i<m.blocks.length->o (2,i)=it T.dT (nth lb i).ins.v (nth m.blocks i).ins
structure Mk (s:List Int) (M:Nat) (vs:Value) (W:View) (h:Heap) (o:Own) (m:MS):Prop where
 own:Owns W h o
 src:SlRd W vs s
 box : ∃vb vl lb,MkB M vs m o vb vl lb
def Nx (s:List Int) (M:Nat) (vs:Value) (W:View) (h:Heap) (o:Own) (m:MS):Prop:=∃W' o',W.le W'/\Mk s M vs W' h o' m/\∀k:Key,3<=k.1->o' k=o k
variable {s:List Int} {M:Nat} {vs:Value} {W:View} {h:Heap} {o:Own} {m:MS}
theorem Mk.nx (w:Mk s M vs W h o m):Nx s M vs W h o m:=⟨W,o,View.le_refl _,w,λ_ _=>rfl⟩
theorem Nx.trans {W':View} {o':Own} (hW:W.le W') (ho : ∀k:Key,3<=k.1->o' k=o k) (n:Nx s M vs W' h o' m):Nx s M vs W h o m:=by obtain⟨W2,o2,h1,h2,h3⟩:=n;exact⟨W2,o2,Pn hW h1,h2,λk hk=>(h3 k hk).trans (ho k hk)⟩
theorem MkB.at {vb vl:Value} {lb:List BlkM} (b:MkB M vs m o vb vl lb) {at_:Nat} {next:Int}:MkB M vs { m with at_:=at_,next:=next } (o.upd (0,0) (bx T.aW M (RawN.mk (n:=5) (mkL vs at_ m.ps vb next vl)))) vb vl lb:=
 ⟨rfl,b.live,b.blk,b.len,b.term,λi hi=>b.phis i hi,λi hi=>b.ins i hi⟩
theorem mM {k:Key} {i:Option Lft.Item} (hk:k.1<3) : ∀q:Key,3<=q.1->o.upd k i q=o q:=λq hq=>Own.ay λe=>by rw[e]at hq;omega
theorem eg {k:Key} {i j:Option Lft.Item} (q:Key):(o.upd k i).upd k j q=o.upd k j q:=by unfold Own.upd;split<;>rfl
theorem Mk.take (w:Mk s M vs W h o m) {n:Int} (h1:m.at_<=1000000000) (hn:0<n) (hn2:n<=1000000000) :
  az Pz 34 #[Pw (Pt ⟨M,0,Pu⟩),Pp Pq n] h (λu h'=>u = Pp Pq (aE s m.at_ n)/\∃o',Mk s M vs W h' o' m.took/\∀k:Key,3<=k.1->o' k=o k):=by obtain⟨vb,vl,lb,b⟩:=w.box;refine(GK w.own b.box w.src h1 hn hn2).mono ?_;rintro u h' ⟨rfl,w2⟩;exact⟨rfl,_,⟨w2,w.src,vb,vl,lb,b.at⟩,mM P4⟩
theorem Mk.fresh (w:Mk s M vs W h o m) (h0:0<=m.next) (h1:m.next<=1000000000) :
  az Pz 52 #[Pw (Pt ⟨M,0,Pu⟩)] h (λu h'=>u = Pp Pq m.next/\∃o',Mk s M vs W h' o' m.aH/\∀k:Key,3<=k.1->o' k=o k):=by obtain⟨vb,vl,lb,b⟩:=w.box;refine(y8 w.own b.box h0 h1).mono ?_;rintro u h' ⟨rfl,w2,-⟩;exact⟨rfl,_,⟨w2,w.src,vb,vl,lb,b.at⟩,mM P4⟩
theorem mc {x:Int}:-2147483648<=IntKind.i32.wrap x/\IntKind.i32.wrap x<=2147483647:=by rw[IntKind.wrap_i32];omega
def jY (s:List Int) (m:MS):Int:=
 if aE s (m.at_+1) 8=0 then IntKind.i32.wrap (IntKind.i64.wrap (aE s m.at_ 1048576*4099))
 else if aE s (m.at_+1) 8=1 then IntKind.i32.wrap (IntKind.i64.wrap (-aE s m.at_ 1048576))
 else if aE s (m.at_+1) 8=2 then -2147483648
 else if aE s (m.at_+1) 8=3 then IntKind.i32.wrap ((aE s m.at_ 1048576).tmod 70000)
 else IntKind.i32.wrap (IntKind.i64.wrap ((aE s m.at_ 1048576).tmod 20-4))
theorem oX:-2147483648<=jY s m/\jY s m<=2147483647:=by
 unfold jY;repeat' split
 all_goals first | exact mc | decide
theorem Mk.word (w:Mk s M vs W h o m) (h1:m.at_<=999999990) :
  az Pz 59 #[Pw (Pt ⟨M,0,Pu⟩)] h (λu h'=>u = Pp Ps (jY s m)/\∃o',Mk s M vs W h' o' m.took.took/\∀k:Key,3<=k.1->o' k=o k):=by
 refine aq (args:=[Pw (Pt ⟨M,0,Pu⟩)]) follows Tryz.func59 E.gX Pj λK hK=>?_;dsimp only[L.gX,lkF,lkG];refine ab λz hz=>?_;simp;subst hz;refine ab λz hz=>?_;simp;refine af P1 (w.take P2 (n:=1048576) P4 P4) ?_;rintro _ h2 ⟨rfl,o2,w2,f2⟩;subst hz;refine ab λz hz=>?_;simp;refine af P1 (w2.take (show m.at_+1<=_ by omega) (n:=8) P4 P4) ?_;rintro _ h3 ⟨rfl,o3,w3,f3⟩;have hx:m.took.at_=m.at_+1:=rfl;rw[hx];have hf : ∀k:Key,3<=k.1->o3 k=o k:=λk hk=>(f3 k hk).trans (f2 k hk);have hwd:jY s m=_:=jY.eq_1 s m;generalize jY s m=r at hwd hK;generalize aE s (m.at_+1) 8=q at hwd;generalize aE s m.at_ 1048576=x at hwd;by_cases c0:q=0
 ·rw[if_pos c0]at hwd;simp[c0];exact hK _ _ ⟨by rw[hwd],_,w3,hf⟩
 rw[if_neg c0]at hwd;by_cases c1:q=1
 ·rw[if_pos c1]at hwd;simp[c1];refine Iy rfl ?_;simp;exact hK _ _ ⟨by rw[hwd],_,w3,hf⟩
 rw[if_neg c1]at hwd;by_cases c2:q=2
 ·rw[if_pos c2]at hwd;simp[c2];exact hK _ _ ⟨by rw[hwd],_,w3,hf⟩
 rw[if_neg c2]at hwd;by_cases c3:q=3
 ·rw[if_pos c3]at hwd;simp[c3];exact hK _ _ ⟨by rw[hwd],_,w3,hf⟩
 rw[if_neg c3]at hwd;simp[c0,c1,c2,c3];subst hz;simp;exact hK _ _ ⟨by rw[hwd],_,w3,hf⟩
end Go.Proofs.YtnfiilgdjpdlkaaGreatDoor
namespace Go.Proofs.YtnfiilgdjpdlkaaGreatDoor
open Go Go.Lft
def MS.add (m:MS) (b:Nat) (i:InsD):MS:={ m with blocks:=m.blocks.set b { nth m.blocks b with ins:=(nth m.blocks b).ins++[i] },live:=m.live++cw i }
def conD (v:Int) (n:Int):InsD:=⟨1,v,0,[],⟨n⟩⟩
def MS.constant (m:MS) (b:Nat) (n:Int):MS:=m.aH.add b (conD m.next n)
def xI (s:List Int) (m:MS):Int:=nth m.live (if aE s (m.at_+1) 3=0 then m.live.length-1 else(aE s m.at_ m.live.length).toNat)
def BX (s:List Int) (m:MS) (b:Nat):MS:=(m.took.took).constant b (jY s m)
def aF (s:List Int) (m:MS) (b:Nat):Int × MS:=
 if m.live.length=0 then(m.next,BX s m b)
 else if aE s (m.at_+2) 9=0 then(m.next,BX s m.took.took.took b)
 else(xI s m,m.took.took.took)
def MS.two (m:MS) (b:Nat) (op x y:Int):MS:=m.aH.add b ⟨op,m.next,0,[x,y],⟨0⟩⟩
def binS (s:List Int) (m:MS) (b:Nat) (op:Int):MS:=
 let r1:=aF s m b
 let r2:=aF s r1.2 b
 if aE s r2.2.at_ 3=0 then
  (r2.2.took.took.constant b (IntKind.i32.wrap (IntKind.i64.wrap (aE s (r2.2.at_+1) 40-8)))).two b op r1.1 r2.2.next
 else r2.2.took.two b op r1.1 r2.1
def ltuS (s:List Int) (m:MS) (b:Nat):MS:=
 let r1:=aF s m b
 let r2:=aF s r1.2 b
 r2.2.two b 13 r1.1 r2.1
def divS (s:List Int) (m:MS) (b:Nat):MS:=
 let r1:=aF s m b
 let m2:=r1.2.took.constant b (IntKind.i32.wrap (aE s r1.2.at_ 12))
 if 0<aE s m2.at_ 3 then
  (m2.took.took.constant b (IntKind.i32.wrap (1+IntKind.i32.wrap (aE s (m2.at_+1) 12)))).two b 14 r1.1 m2.next
 else m2.took.two b 14 r1.1 r1.2.next
def wL (s:List Int) (m:MS) (b:Nat):MS:=
 let r1:=aF s m b
 let r2:=aF s r1.2 b
 r2.2.aH.aH.add b ⟨18,r2.2.next,r2.2.next+1,[r1.1,r2.1],⟨0⟩⟩
def gz (s:List Int) (b:Nat):Nat->List Int × MS->List Int × MS:=λ_ x=>(x.1++[(aF s x.2 b).1],(aF s x.2 b).2)
def nL (s:List Int) (m:MS) (b:Nat):MS:=
 let r:=up (gz s b) (aE s m.at_ 5).toNat ([],m.took)
 r.2.aH.took.add b ⟨17,r.2.next,0,r.1,⟨IntKind.i32.wrap (aE s r.2.at_ 5)⟩⟩
def nF (s:List Int) (m:MS) (b:Nat):Int × MS:=
 let m1:=m.took.constant b (IntKind.i32.wrap (aE s m.at_ 9))
 if aE s m1.at_ 3=0 then
  let r:=aF s m1.took b
  let m3:=(r.2.constant b 7).two b 5 r.1 r.2.next
  (m3.next,m3.two b 2 m.next (r.2.next+1))
 else(m.next,m1.took)
def offS (s:List Int) (m:MS):Int × MS:=
 if aE s (m.at_+1) 12=0 then(jY s m.took.took,m.took.took.took.took) else(IntKind.i32.wrap (aE s m.at_ 4),m.took.took)
def iJ (s:List Int) (m:MS) (b:Nat) (store:Bool):MS:=
 let a:=nF s m b
 let i:=offS s a.2
 if store then(aF s i.2 b).2.add b ⟨16,0,0,[a.1,(aF s i.2 b).1],⟨i.1⟩⟩
 else i.2.aH.add b ⟨15,i.2.next,0,[a.1],⟨i.1⟩⟩
def opsL:List Int:=[2,2,3,4,5,6,7,8,9,10,12,11]
def aN (s:List Int) (b:Nat) (m:MS):MS:=
 let k:=aE s m.at_ 20
 if k<12 then binS s m.took b (nth opsL k.toNat)
 else if k=12 then ltuS s m.took b
 else if k=13 then divS s m.took b
 else if k<16 then iJ s m.took b (decide (k=15))
 else if k=16 then nL s m.took b
 else if k=17 then wL s m.took b
 else m.took.took.took.constant b (jY s m.took)
section
variable{b:Nat}
theorem AD{H:View}{n:Nat}{cs:List Value}(hc:gP H ⟨b,0,Pu⟩ cs)(hl:cs.length=n):Un.ev H (.bO n) (Pw (Pt ⟨b,0,Pu⟩))=Pt (.agg cs.toArray):=by have:=fO hc n 0 #[] P2;simp only[Un.ev,vP,LK];rw[this];simp[<-hl]
theorem DF{H:View}{n:Nat}{cs:Array Value}{t:TypeId}(hb:H b=Pt (.cells cs t (0,0)))(hl:cs.size=n):Un.ev H (.bO n) (Pw (Pt ⟨b,0,Pu⟩))=Pt (.agg cs):=by have:gP H ⟨b,0,Pu⟩ cs.toList:=⟨cs,t,(0,0),rfl,hb,by simp[Lv]⟩;simpa using AD this (by simpa using hl)
variable{vs vb vl:Value}{lb:List BlkM}
theorem MkB.Ix{s:List Int}{M:Nat}{W:View}{h:Heap}{o:Own}{m:MS}(w:Owns W h o)(b:MkB M vs m o vb vl lb):
  ∃X:View,W.le X/\X.le (vw h)/\(∀i,i<=5->ak X ⟨M,i,Pu⟩=Pt ((mkL vs m.at_ m.ps vb m.next vl).getD i undef))/\SlRd X vb lb/\Av X vl/\∀i,i<m.blocks.length->Av X (nth lb i).phis.v/\Av X (nth lb i).ins.v:=by obtain⟨w5,s5⟩:=w.freeze (k:=(0,0)) (v:=Pv (Pt ⟨M,0,Pu⟩) 1 1) (l:=[RawN.mk (n:=5) (mkL vs m.at_ m.ps vb m.next vl)]) b.box;have hb2:o.upd (0,0) Pu (0,2)=it T.ep vb lb:=b.blk;obtain⟨w6,s6⟩:=w5.freeze (k:=(0,2)) (v:=vb) (l:=lb) hb2;have s5:=s5.mono (gq (h:=h) (w5.av (0,2) _ hb2));refine⟨_,Pn (gq (h:=h) (w.av (0,0) _ b.box)) (gq (h:=h) (w5.av (0,2) _ hb2)),w6.wle,λi hi=>?_,s6,w6.av (0,1) _ b.live,λi hi=>⟨w6.av (1,i) _ (b.phis i hi),w6.av (2,i) _ (b.ins i hi)⟩⟩;have:=((s5.at (i:=0) Sa).part (RawN.p (n:=5) (o:=i) hi)).raw;simpa[slA]using this
variable {s:List Int} {M:Nat} {vs:Value} {W:View} {h:Heap} {o:Own} {m:MS}
theorem MkB.cell(w:Owns W h o)(b:MkB M vs m o vb vl lb){i:Nat}(hi:i<=5):ak (vw h) ⟨M,i,Pu⟩=Pt ((mkL vs m.at_ m.ps vb m.next vl).getD i undef):=w.raw b.box hi
theorem MkB.fJ(bb:MkB M vs m o vb vl lb)(hb:b<m.blocks.length){x':BlkD}{y':BlkM}{o':Own}(hy:y'.term=x'.term)(h02:o' (0,2)=it T.ep vb (lb.set b y'))(h1:o' (1,b)=it T.nm y'.phis.v x'.phis)(h2:o' (2,b)=it T.dT y'.ins.v x'.ins)(ho : ∀q:Key,q≠(0,2)->q≠(1,b)->q≠(2,b)->o' q=o q):MkB M vs { m with blocks:=m.blocks.set b x' } o' vb vl (lb.set b y'):=by
 have hbl:b<lb.length:=by rw[bb.len];exact hb
 refine⟨(ho _ Sa Sa Sa).trans bb.box,(ho _ Sa Sa Sa).trans bb.live,h02,by simp[bb.len],λj hj=>?_,λj hj=>?_,λj hj=>?_⟩;all_goals
  have hj:j<m.blocks.length:=by simpa using hj
  have hjl:j<lb.length:=by rw[bb.len];exact hj
  show _=_
  simp only[bz hj,bz hjl]
  by_cases e:b=j
  ·subst e
   simp only[if_true]
   assumption
  ·simp only[if_neg e]
   first
    | exact bb.term j hj
    | exact(ho _ Sa (λq=>e (by injection q with _ q;exact q.symm)) Sa).trans (bb.phis j hj)
    | exact(ho _ Sa Sa (λq=>e (by injection q with _ q;exact q.symm))).trans (bb.ins j hj)
theorem Mk.value(w:Mk s M vs W h o m)(h1:m.at_<=999999990)(hl:m.live.length<=1000000000):
  az Pz 124 #[Pw (Pt ⟨M,0,Pu⟩)] h (λu h'=>(m.live.length=0/\u = .tuple #[Pp Pq 0,.bool Py]/\h'=h)\/(m.live.length≠0/\u = .tuple #[Pp Pq (xI s m),.bool Px]/\I64 (xI s m)/\∃o',Mk s M vs W h' o' m.took.took/\∀k:Key,3<=k.1->o' k=o k)):=by
 refine aq (args:=[Pw (Pt ⟨M,0,Pu⟩)]) follows Tryz.func124 E.gn Pj λK hK=>?_;obtain⟨vb,vl,lb,b⟩:=w.box;have c5:ak (vw h) ⟨M,5,Pu⟩=Pt vl:=b.cell w.own (i:=5) P4;have hsl:=w.own.now b.live;dsimp only[L.gn,lkF,lkG];refine ab λz hz=>?_;simp;subst hz;refine ab λz hz=>?_;by_cases h0:m.live.length=0
 ·have h0':m.live=[]:=LF h0;simp[c5,hsl.len,h0];exact hK _ _ (.inl ⟨h0,rfl,rfl⟩)
 have h0':¬(m.live=[]):=λe=>h0 (by rw[e];rfl);simp[c5,hsl.len,h0'];subst hz;refine ab λz hz=>?_;simp[c5,hsl.len];refine af P1 (w.take P2 (n:=(m.live.length:Int)) P2 P2) ?_;rintro _ h2 ⟨rfl,o2,w2,f2⟩;subst hz;refine ab λz hz=>?_;simp;refine af P1 (w2.take (show m.at_+1<=_ by omega) (n:=3) P4 P4) ?_;rintro _ h3 ⟨rfl,o3,w3,f3⟩;have hx:m.took.at_=m.at_+1:=rfl;rw[hx];have hf : ∀k:Key,3<=k.1->o3 k=o k:=λk hk=>(f3 k hk).trans (f2 k hk);have hv:xI s m=_:=xI.eq_1 s m;obtain⟨vb3,vl3,lb3,b3⟩:=w3.box;have c53:ak (vw h3) ⟨M,5,Pu⟩=Pt vl3:=b3.cell w3.own (i:=5) P4;have hsl3:SlRd (vw h3) vl3 m.live:=w3.own.now b3.live;obtain⟨r0,r1⟩:=cG (s:=s) (at_:=m.at_) (n:=(m.live.length:Int)) P2;generalize aE s m.at_ m.live.length=x at hv r0 r1;generalize aE s (m.at_+1) 3=q at hv;obtain⟨i,hi,hvi,hii⟩ : ∃i:Nat,i<m.live.length/\xI s m=nth m.live i/\(i:Int)=if q=0 then(m.live.length:Int)-1 else x:=by
  by_cases c:q=0
  ·rw[if_pos c]at hv ⊢;exact⟨m.live.length-1,by omega,hv,by omega⟩
  rw[if_neg c]at hv ⊢;exact⟨x.toNat,by omega,hv,by omega⟩
 have h64:IntKind.i64.wrap ((m.live.length:Int)-1)=(m.live.length:Int)-1:=bw P2 P2;have fin : ∀ρ:Env,ρ=[(0,Pw (Pt ⟨M,0,Pu⟩)),(2,Pp Pq 0),(3,.bool Py),(4,Pp Pq i),(17,Pp Pq x),(19,Pp Pq q)]->LC.wp Pz z (dF [.tmp 2,.tmp 3] K) ρ h3:=by rintro _ rfl;subst hz;refine ab λz hz=>?_;simp(disch:=omega)[c53,hsl3.idx1 rfl,hsl3.int Pl];subst hz;simp;exact hK _ _ (.inr ⟨h0,by rw[hvi],by rw[hvi];exact hsl3.range hi,o3,w3,hf⟩)
 by_cases c:q=0
 ·rw[if_pos c]at hii;simp[c,c53,hsl3.len,h64];refine fin _ ?_;rw[hii,c]
 rw[if_neg c]at hii;simp[c];refine fin _ ?_;rw[hii]
theorem Mk.add (w:Mk s M vs W h o m) {b:Nat} {i:InsD} {v:Value} (hb:b<m.blocks.length) (hi:Rd W v i) (hn:(nth m.blocks b).ins.length<=100000000) (hl:m.live.length<=100000000) :
    az Pz 89 #[Pw (Pt ⟨M,0,Pu⟩),Pp Pq b,v] h (λu h'=>Nx s M vs W h' o (m.add b i)):=by
  refine aq (args:=[Pw (Pt ⟨M,0,Pu⟩),Pp Pq b,v]) follows Tryz.func89 E.iK Pj λK hK=>?_
  obtain⟨vb,vl,lb,bb⟩:=w.box
  obtain⟨va,rfl,hir,hia⟩:=GN hi
  dsimp only[L.iK,lkF,lkG]
  refine ab λz hz=>?_
  simp
  refine gT rfl (hi.mono w.own.wle) λh1 e1 hle1 hs1 hat=>?_
  have w1:=w.own.ext hle1
  have hbx:(grow W h h1) h.size=Pt (.cells #[Pp Pq i.op,Pp Pq i.dst,Pp Pq i.two,va,Pp Ps i.imm.v] T.dT (0,0)):=by
    rw[cR (Lp _),e1];simp[Value.cells]
  have hi1:=hi.mono (bU (h':=h1) w.own.wle)
  have src1:=w.src.mono (bU (h':=h1) w.own.wle)
  have hW1:=bU (h':=h1) w.own.wle
  clear hat e1
  have hld:=DF hbx (n:=5) rfl
  generalize grow W h h1=W1 at w1 hld hi1 src1 hW1
  generalize h.size=B at hld
  subst hz
  refine ab λz hz=>?_
  obtain⟨X,hWX,hX,cX,sX,avl,avX⟩:=bb.Ix (s:=s) w1
  have c3:ak X ⟨M,3,Pu⟩=Pt vb:=cX 3 P4
  have hbl:b<lb.length:=by rw[bb.len];exact hb
  have a1:=(sX.at hbl).part BlkM.mN
  have hsv:=sX.bound
  have a2:ak X (((slA vb).add (b*6)).add 1)=Pt (nth lb b).ins.v:=by rw[aA hbl];exact a1.raw
  have hldX:Un.ev X (.bO 5) (Pw (Pt ⟨B,0,Pu⟩))=Pt (.agg #[Pp Pq i.op,Pp Pq i.dst,Pp Pq i.two,va,Pp Ps i.imm.v]):=by
    have:=dy (ρ:=λ_=>Pu) (e:=.un (.bO 5) (.con (Pw (Pt ⟨B,0,Pu⟩)))) hWX (by simpa using hld)
    simpa using this
  refine aR X hX ?_
  simp(disch:=omega)[c3,sX.idxn (N:=6) rfl,a2,hldX]
  refine mg (α:=InsD) (W:=W1) (d:=i) El.mC rfl hi1 λu5 h5 src hle5 hs5=>⟨Pn hX hle5,?_⟩
  refine(w1.ext' hle5).dg (k:=(2,b)) (α:=InsD) (v:=(nth lb b).ins.v) (l:=(nth m.blocks b).ins) (l2:=[i]) (bb.ins b hb) El.mC rfl rfl src P9 P9 λv6 h6 w6 m6=>⟨(m6.view (Pn hX hle5) (avX b hb).2).1,?_⟩
  have hv6:=(w6.cells (k:=(2,b)) Own.aj).2
  refine w6.px (k:=(0,2)) (α:=BlkM) BlkM.mN (v:=vb) (l:=lb) (i:=b) (d:=⟨v6⟩) bb.blk P1 rfl rfl hbl (mw.2 ⟨rfl,hv6⟩) λh7 w7 _=>?_
  have b7:=bb.fJ hb (x':={ nth m.blocks b with ins:=(nth m.blocks b).ins++[i] }) (y':={ lb[b]with ins:=⟨v6⟩ }) (o':=(o.upd (2,b) (it T.dT v6 ((nth m.blocks b).ins++[i]))).upd (0,2) (it T.ep vb (lb.set b { lb[b]with ins:=⟨v6⟩ }))) (by rw[<-bb.term b hb,aA hbl]) Own.aj (by rw[<-aA hbl];exact bb.phis b hb) ((Own.ay Sa).trans Own.aj) (λq h1 h2 h3=>by rw[Own.ay h1,Own.ay h3])
  generalize hm7:({ m with blocks:=m.blocks.set b { nth m.blocks b with ins:=(nth m.blocks b).ins++[i] } }:MS)=m7 at b7
  have hadd:m.add b i={ m7 with live:=m.live++cw i }:=by rw[<-hm7];rfl
  have hl7:m7.live=m.live:=by rw[<-hm7]
  have hf7 : ∀k:Key,3<=k.1->((o.upd (2,b) (it T.dT v6 ((nth m.blocks b).ins++[i]))).upd (0,2) (it T.ep vb (lb.set b { lb[b]with ins:=⟨v6⟩ }))) k=o k:=λk hk=>by
    rw[Own.ay (by rintro rfl;simp at hk),Own.ay (by rintro rfl;simp at hk)]
  generalize (o.upd (2,b) (it T.dT v6 ((nth m.blocks b).ins++[i]))).upd (0,2) (it T.ep vb (lb.set b { lb[b]with ins:=⟨v6⟩ }))=o7 at w7 b7 hf7
  generalize lb.set b { lb[b]with ins:=⟨v6⟩ }=lb7 at b7
  clear src avX m6
  subst hz
  refine ab λz hz=>?_
  have hld7:Un.ev (vw h7) (.bO 5) (Pw (Pt ⟨B,0,Pu⟩))=Pt (.agg #[Pp Pq i.op,Pp Pq i.dst,Pp Pq i.two,va,Pp Ps i.imm.v]):=by
    have:=dy (ρ:=λ_=>Pu) (e:=.un (.bO 5) (.con (Pw (Pt ⟨B,0,Pu⟩)))) w7.wle (by simpa using hld)
    simpa using this
  simp[hld7]
  refine af P1 (n7 (hi1.mono w7.wle)) ?_
  rintro u8 h8 ⟨hle8,hu8,-⟩
  have w8:=w7.ext hle8
  have hu8:SlRd (grow W1 h7 h8) u8 (cw i):=hu8.mono (uV (Lp _) Pl)
  have hW8:=bU (h':=h8) w7.wle
  generalize grow W1 h7 h8=W8 at w8 hu8 hW8
  subst hz
  have c58:ak (vw h8) ⟨M,5,Pu⟩=Pt vl:=b7.cell w8 (i:=5) P4
  have hmk:(cw i).length<=2:=by
                                         unfold cw;repeat' split
                                         all_goals simp
  simp[c58]
  refine w8.dg (k:=(0,1)) (α:=Int) (v:=vl) (l:=m.live) (l2:=cw i) (by rw[<-hl7];exact b7.live) El.aP rfl rfl (hu8.src w8.wle) P2 P2 λv9 h9 w9 m9=>?_
  have hv9:=(w9.cells (k:=(0,1)) Own.aj).2
  have hbx9:(o7.upd (0,1) (it T.int v9 (m.live++cw i))) (0,0)=bx T.aW M (RawN.mk (n:=5) (mkL vs m7.at_ m7.ps vb m7.next vl)):=b7.box
  refine w9.de (k:=(0,0)) (n:=5) (i:=5) (e:=T.aW) (B:=M) (l:=mkL vs m7.at_ m7.ps vb m7.next vl) hbx9 P4 P1 rfl rfl hv9 λh10 w10 _=>?_
  refine hK _ _ ⟨W8,_,Pn hW1 hW8,⟨w10,src1.mono hW8,vb,v9,lb7,?_⟩,λk hk=>?_⟩
  · rw[hadd]
    exact⟨rfl,rfl,b7.blk,b7.len,b7.term,b7.phis,b7.ins⟩
  · rw[Own.ay (by rintro rfl;simp at hk),Own.ay (by rintro rfl;simp at hk)]
    exact hf7 k hk
end
section
structure MS.ok (c:Nat) (m:MS):Prop where
 at_:m.at_<=c
 n0:0<=m.next
 next:m.next<=c
 live:m.live.length<=c
 ins : ∀i,(nth m.blocks i).ins.length<=c
theorem MS.ok.mono{c d:Nat}{m:MS}(h:m.ok c)(hd:c<=d):m.ok d:=
 ⟨by have:=h.at_;omega,h.n0,by have:=h.next;omega,by have:=h.live;omega,λi=>by have:=h.ins i;omega⟩
theorem MS.ok.took {c:Nat} {m:MS} (h:m.ok c):m.took.ok (c+1):=
 ⟨by have:=h.at_;show m.at_+1<=_;omega,h.n0,by have:=h.next;show m.next<=_;omega,by have:=h.live;show m.live.length<=_;omega,λi=>by have:=h.ins i;show(nth m.blocks i).ins.length<=_;omega⟩
theorem MS.ok.aH {c:Nat} {m:MS} (h:m.ok c):m.aH.ok (c+1):=
 ⟨by have:=h.at_;show m.at_<=_;omega,by have:=h.n0;show 0<=m.next+1;omega,by have:=h.next;show m.next+1<=_;omega,by have:=h.live;show m.live.length<=_;omega,λi=>by have:=h.ins i;show(nth m.blocks i).ins.length<=_;omega⟩
theorem Dh{i:InsD}:(cw i).length<=2:=by
 unfold cw;repeat' split
 all_goals simp
theorem MS.ok.add {c b:Nat} {m:MS} {i:InsD} (h:m.ok c):(m.add b i).ok (c+2):=by
 refine⟨by have:=h.at_;show m.at_<=_;omega,h.n0,by have:=h.next;show m.next<=_;omega,?_,λj=>?_⟩
 ·have:=h.live;have:=Dh (i:=i);show(m.live++cw i).length<=_;rw[LA];omega
 show(nth (m.blocks.set b _) j).ins.length<=_;have hj:=h.ins j;rcases Lr j m.blocks.length with hl | hl
 ·rw[bz hl];split
  ·rename_i e;subst e;rw[LA,LP];omega
  omega
 rw[cI (by simpa using hl)];rw[cI hl]at hj;omega
theorem MS.ok.constant {c b:Nat} {m:MS} {n:Int} (h:m.ok c):(m.constant b n).ok (c+3):=h.aH.add
theorem MS.ok.two {c b:Nat} {m:MS} {op x y:Int} (h:m.ok c):(m.two b op x y).ok (c+3):=h.aH.add
variable {s:List Int} {M:Nat} {vs:Value} {W:View} {h:Heap} {o:Own} {m:MS}
theorem MS.ok.aF {c b:Nat} (h:m.ok c):(aF s m b).2.ok (c+10):=by
 unfold Go.Proofs.YtnfiilgdjpdlkaaGreatDoor.aF;repeat' split
 ·exact(h.took.took.constant).mono P2
 ·exact(h.took.took.took.took.took.constant).mono P2
 exact(h.took.took.took).mono P2
variable{b:Nat}
theorem lY{i:InsD}:(m.add b i).blocks.length=m.blocks.length:=by simp[MS.add]
theorem dt:(aF s m b).2.blocks.length=m.blocks.length:=by
 unfold aF;repeat' split
 all_goals simp[BX,MS.constant,lY,MS.took,MS.aH]
theorem Mk.constant (w:Mk s M vs W h o m) {b c:Nat} {n:Int} (hb:b<m.blocks.length) (hm:m.ok c) (hc:c<=1000000) (hn:-2147483648<=n/\n<=2147483647) :
  az Pz 58 #[Pw (Pt ⟨M,0,Pu⟩),Pp Pq b,Pp Ps n] h (λu h'=>u = Pp Pq m.next/\Nx s M vs W h' o (m.constant b n)):=by refine aq (args:=[Pw (Pt ⟨M,0,Pu⟩),Pp Pq b,Pp Ps n]) follows Tryz.func58 E.eS Pj λK hK=>?_;have q1:=hm.next;have q0:=hm.n0;dsimp only[L.eS,lkF,lkG];refine ab λz hz=>?_;simp;subst hz;refine ab λz hz=>?_;simp;refine af P1 (w.fresh q0 P2) ?_;rintro _ h2 ⟨rfl,o2,w2,f2⟩;subst hz;refine ab λz hz=>?_;simp;refine aw (z:=.agg #[Pp Pq 0,Pp Pq 0,Pp Pq 0,Pv Pu 0 0,Pp Ps 0]) (places:=[(0,1),(1,1),(2,1),(3,1),(4,1)]) (vs:=[(0,Pp Pq 1),(1,Pp Pq m.next),(4,Pp Ps n)]) (cs:=#[Pp Pq 1,Pp Pq m.next,Pp Pq 0,Pv Pu 0 0,Pp Ps n]) P1 P1 Sa P1 ?_;have hm2:=hm.aH;refine af P1 (w2.add (i:=conD m.next n) hb (y9 (imm:=⟨n⟩) ⟨⟨P4,P4⟩,P6,⟨P4,P4⟩,hn⟩ aJ) (by have:=hm2.ins b;omega) (by have:=hm2.live;omega)) ?_;rintro u3 h3 n3;subst hz;simp;exact hK _ _ ⟨rfl,n3.trans Pl f2⟩
theorem BR(w:Mk s M vs W h o m){c:Nat}(hb:b<m.blocks.length)(hm:m.ok c)(hc:c<=999990):
  az Pz 88 #[Pw (Pt ⟨M,0,Pu⟩),Pp Pq b] h (λu h'=>u = Pp Pq (aF s m b).1/\I64 (aF s m b).1/\Nx s M vs W h' o (aF s m b).2):=by
 refine aq (args:=[Pw (Pt ⟨M,0,Pu⟩),Pp Pq b]) follows Tryz.func88 E.gK Pj λK hK=>?_;have qa:=hm.at_;have ql:=hm.live;have hsd:aF s m b=_:=aF.eq_1 s m b;dsimp only[L.gK,lkF,lkG];refine ab λz hz=>?_;simp;subst hz;refine ab λz hz=>?_;simp;refine af P1 (w.value P2 P2) ?_;rintro u h2 hu;have con : ∀{m2:MS} {o2:Own} {h2:Heap} {ρ:Env} {z:LC},Mk s M vs W h2 o2 m2->(∀k:Key,3<=k.1->o2 k=o k)->m2.ok (c+3)->b<m2.blocks.length->aF s m b=(m2.next,BX s m2 b)->Lft.look ρ 0=Pt (Pw (Pt ⟨M,0,Pu⟩))->Lft.look ρ 1=Pt (Pp Pq b)->
   LC.wp Pz (.seq (.reg Py (.loud [19,20,21] [(19,(.tmp 0)),(20,(.tmp 1))] [(21,(.tmp 0))] Pu [] Py (.call ⟨.value (.func 59),#[(.tmp 21)],#[T.pG]⟩) 21 (Pt 22) Px
   (.loud [] [] [(19,(.tmp 19)),(20,(.tmp 20)),(22,(.tmp 22))] Pu [] Py (.call ⟨.value (.func 58),#[(.tmp 19),(.tmp 20),(.tmp 22)],#[T.pG,3,21]⟩) 3 (Pt 23) Px
    (.fin [4] [(4,(.tmp 23))] [])))) .ret) (fg (LC.wp Pz z (dF [.tmp 4] K)) (dF [.tmp 4] K)) ρ h2:=by intro m2 o2 h2 ρ z w2 f2 k2 b2 e2 r0 r1;refine ab λy hy=>?_;simp[r0,r1];refine af P1 (w2.word (by have:=k2.at_;omega)) ?_;rintro _ h3 ⟨rfl,o3,w3,f3⟩;simp[ag,ah,r0,r1];refine af P1 (w3.constant (n:=jY s m2) b2 k2.took.took P2 oX) ?_;rintro _ h4 ⟨rfl,n4⟩;subst hy;simp[ag,ah];refine hK _ _ ⟨by rw[e2];rfl,by rw[e2];have:=k2.n0;have:=k2.next;exact⟨by show _<=m2.next;omega,by show m2.next<=_;omega⟩,?_⟩;rw[e2];exact n4.trans Pl λk hk=>(f3 k hk).trans (f2 k hk)
 rcases hu with⟨h0,rfl,rfl⟩ | ⟨h0,rfl,hi64,o2,w2,f2⟩
 ·rw[if_pos h0]at hsd;simp;subst hz;refine ab λz hz=>?_;refine ab λy hy=>?_;simp;subst hy;refine aT Sa ?_;exact con w (λ_ _=>rfl) (hm.mono P2) hb hsd (by simp[ag,ah]) (by simp[ag,ah])
 rw[if_neg h0]at hsd;simp;subst hz;refine ab λz hz=>?_;refine ab λy hy=>?_;simp;have k2:=hm.took.took;refine af P1 (w2.take (by have:=k2.at_;omega) (n:=9) P4 P4) ?_;rintro _ h3 ⟨rfl,o3,w3,f3⟩;have hx:m.took.took.at_=m.at_+2:=rfl;rw[hx];simp;subst hy;by_cases c9:aE s (m.at_+2) 9=0
 ·rw[if_pos c9]at hsd;refine aT (by simp[c9]) ?_;exact con w3 (λk hk=>(f3 k hk).trans (f2 k hk)) k2.took hb hsd (by simp[ag,ah]) (by simp[ag,ah])
 rw[if_neg c9]at hsd;refine aU (by simp[c9]) ?_;simp;subst hz;simp;refine hK _ _ ⟨by rw[hsd],by rw[hsd];exact hi64,?_⟩;rw[hsd];exact w3.nx.trans Pl λk hk=>(f3 k hk).trans (f2 k hk)
end
def Nz (s:List Int) (M:Nat) (vs:Value) (W0:View) (h:Heap) (o0:Own) (m:MS) (u:Value) (ds:List Int):Prop:=∃W o,W0.le W/\Mk s M vs W h o m/\(∀k:Key,3<=k.1->o k=o0 k)/\SlRd W u ds
section
variable {s:List Int} {M:Nat} {vs:Value} {W0:View} {h:Heap} {o0:Own} {m:MS} {u:Value} {ds:List Int}
theorem Nx.z(n:Nx s M vs W0 h o0 m):Nz s M vs W0 h o0 m (Pv Pu 0 0) []:=by obtain⟨W,o,h1,h2,h3⟩:=n;exact⟨W,o,h1,h2,h3,aJ⟩
theorem Nz.x(n:Nz s M vs W0 h o0 m u ds):Nx s M vs W0 h o0 m:=by obtain⟨W,o,h1,h2,h3,_⟩:=n;exact⟨W,o,h1,h2,h3⟩
theorem Nz.call{f:FuncId}{args:Array Value}{m':MS}{U:Value->Prop}(hc : ∀{W o},Mk s M vs W h o m->az Pz f args h (λu h'=>U u/\Nx s M vs W h' o m'))(n:Nz s M vs W0 h o0 m u ds):
  az Pz f args h (λv h'=>U v/\Nz s M vs W0 h' o0 m' u ds):=by obtain⟨W,o,h1,h2,h3,h4⟩:=n;refine(hc h2).mono ?_;rintro v h' ⟨hU,W',o',g1,g2,g3⟩;exact⟨hU,W',o',Pn h1 g1,g2,λk hk=>(g3 k hk).trans (h3 k hk),h4.mono g1⟩
theorem ef(n:Nz s M vs W0 h o0 m u ds){c:Nat}(hm:m.ok c)(hc:c<=1000000){k:Int}(hk:0<k)(hk2:k<=1000000000):
  az Pz 34 #[Pw (Pt ⟨M,0,Pu⟩),Pp Pq k] h (λv h'=>v = Pp Pq (aE s m.at_ k)/\Nz s M vs W0 h' o0 m.took u ds):=
 n.call (U:=λv=>v=_) λw=>((w.take (by have:=hm.at_;omega) hk hk2).mono λv h' ⟨e,o',w',f'⟩=>⟨e,w'.nx.trans Pl f'⟩)
theorem fW(n:Nz s M vs W0 h o0 m u ds){c:Nat}(hm:m.ok c)(hc:c<=1000000):
  az Pz 52 #[Pw (Pt ⟨M,0,Pu⟩)] h (λv h'=>v = Pp Pq m.next/\Nz s M vs W0 h' o0 m.aH u ds):=
 n.call (U:=λv=>v=_) λw=>((w.fresh hm.n0 (by have:=hm.next;omega)).mono λv h' ⟨e,o',w',f'⟩=>⟨e,w'.nx.trans Pl f'⟩)
theorem yr(n:Nz s M vs W0 h o0 m u ds){c:Nat}(hm:m.ok c)(hc:c<=1000000):
  az Pz 59 #[Pw (Pt ⟨M,0,Pu⟩)] h (λv h'=>v = Pp Ps (jY s m)/\Nz s M vs W0 h' o0 m.took.took u ds):=
 n.call (U:=λv=>v=_) λw=>((w.word (by have:=hm.at_;omega)).mono λv h' ⟨e,o',w',f'⟩=>⟨e,w'.nx.trans Pl f'⟩)
variable{b:Nat}
theorem fE(n:Nz s M vs W0 h o0 m u ds){c:Nat}(hb:b<m.blocks.length)(hm:m.ok c)(hc:c<=1000000){k:Int}(hk:-2147483648<=k/\k<=2147483647):
  az Pz 58 #[Pw (Pt ⟨M,0,Pu⟩),Pp Pq b,Pp Ps k] h (λv h'=>v = Pp Pq m.next/\Nz s M vs W0 h' o0 (m.constant b k) u ds):=
 n.call (U:=λv=>v=_) λw=>w.constant hb hm hc hk
theorem ia(n:Nz s M vs W0 h o0 m u ds){c:Nat}(hb:b<m.blocks.length)(hm:m.ok c)(hc:c<=999990):
  az Pz 88 #[Pw (Pt ⟨M,0,Pu⟩),Pp Pq b] h (λv h'=>(v = Pp Pq (aF s m b).1/\I64 (aF s m b).1)/\Nz s M vs W0 h' o0 (aF s m b).2 u ds):=
 n.call (U:=λv=>v=_/\_) λw=>(BR w hb hm hc).mono λv h' ⟨e1,e2,e3⟩=>⟨⟨e1,e2⟩,e3⟩
variable{op:Int}
theorem ko(n:Nz s M vs W0 h o0 m u ds){c:Nat}{d two imm:Int}(hb:b<m.blocks.length)(hm:m.ok c)(hc:c<=1000000)(h1:I64 op)(h2:I64 d)(h3:I64 two)(h4:-2147483648<=imm/\imm<=2147483647):
  az Pz 89 #[Pw (Pt ⟨M,0,Pu⟩),Pp Pq b,.agg #[Pp Pq op,Pp Pq d,Pp Pq two,u,Pp Ps imm]] h (λv h'=>Nx s M vs W0 h' o0 (m.add b ⟨op,d,two,ds,⟨imm⟩⟩)):=by obtain⟨W,o,g1,g2,g3,g4⟩:=n;refine(g2.add (i:=⟨op,d,two,ds,⟨imm⟩⟩) hb (y9 (imm:=⟨imm⟩) ⟨h1,h2,h3,h4⟩ g4) (by have:=hm.ins b;omega) (by have:=hm.live;omega)).mono ?_;rintro v h' n';exact n'.trans g1 g3
theorem Nz.lit{po:OP}(n:Nz s M vs W0 h o0 m u ds){ty:TypeId}{ps:Array (Nat × Operand)}{us:List (Nat × Value)}{ls:List Int}{k:Nat}{K:Value->Heap->Prop}(hp:ps.map (λp=>(p.1,asg us p.2))=(((ls.map λx=>Pp Pq x).zipIdx 0).map λp=>(p.2,p.1)).toArray)(hr : ∀x∈ls,I64 x)(hn:ls.length=k)(hb:k<=16777216)(hk : ∀a n c h',(vw h).le (vw h')->Nz s M vs W0 h' o0 m (.slice a n c) ls->K (.slice a n c) h'):@Lft.step po Pz (.buildSlice T.aP k ps) ty us h K:=by
 obtain⟨W,o,g1,g2,g3,g4⟩:=n;have hra : ∀l:List Int,(∀x∈l,I64 x)->oJ W (l.map λx=>Pp Pq x) l:=by
  intro l;induction l with
  | nil=>intro _;trivial
  | cons a l ih=>intro hl;exact⟨bD.2 ⟨rfl,hl a Sa⟩,ih λx hx=>hl x (by simp[hx])⟩
 refine kC (X:=W) (ds:=ls) (vs:=ls.map λx=>Pp Pq x) rfl El.aP hp (hra ls hr) g2.own.wle hn hb λv h' hle hs hv _=>?_;have hs2:=hv _ (bU g2.own.wle) (cR (Lp _));obtain⟨a,cp,rfl,_⟩:=id hs2;refine hk _ _ _ h' hle ?_;exact⟨_,o,Pn g1 (bU g2.own.wle),⟨g2.own.ext hle,g2.src.mono (bU g2.own.wle),g2.box⟩,g3,hs2⟩
end
theorem MS.ok.js{c:Nat}{m:MS}(h:m.ok c)(hc:c<=1000000):I64 m.next:=by have:=h.n0;have:=h.next;constructor<;>omega
variable{b:Nat}
theorem dp{m:MS}{n:Int}:(m.constant b n).blocks.length=m.blocks.length:=lY
variable{op:Int}
theorem nD{m:MS}{x y:Int}:(m.two b op x y).blocks.length=m.blocks.length:=lY
theorem i64c{x:Int}(h0:-1000<=x:=by decide)(h1:x<=1000:=by decide):I64 x:=P6
variable{vs:Value}
theorem Dk{s:List Int}{M:Nat}{W0:View}{h:Heap}{o0:Own}{m:MS}(n:Nx s M vs W0 h o0 m){c:Nat}{store:Bool}(hb:b<m.blocks.length)(hm:m.ok c)(hc:c<=900000):
  az Pz 90 #[Pw (Pt ⟨M,0,Pu⟩),Pp Pq b,.bool store] h (λv h'=>Nx s M vs W0 h' o0 (iJ s m b store)):=by
 refine aq (args:=[Pw (Pt ⟨M,0,Pu⟩),Pp Pq b,.bool store]) follows Tryz.func90 E.fQ Pj λK hK=>?_;dsimp only[L.fQ,lkF,lkG];have n:=n.z;have hmm:iJ s m b store=_:=iJ.eq_1 s m b store;refine ab λz hz=>?_;simp;refine af P1 (ef n hm P2 (k:=9) P4 P4) ?_;rintro _ h1 ⟨rfl,n⟩;simp;refine af P1 (fE n (b:=b) hb hm.took P2 (k:=IntKind.i32.wrap (aE s m.at_ 9)) mc) ?_;rintro _ h2 ⟨rfl,n⟩;have q:=hm.took.constant (b:=b) (n:=IntKind.i32.wrap (aE s m.at_ 9));have hb1:b<(m.took.constant b (IntKind.i32.wrap (aE s m.at_ 9))).blocks.length:=by rw[dp];exact hb
 obtain⟨m1,hm1⟩ : ∃m1,m1=m.took.constant b (IntKind.i32.wrap (aE s m.at_ 9)):=⟨_,rfl⟩;have had:nF s m b=_:=nF.eq_1 s m b;rw[<-hm1]at n q hb1;simp only[<-hm1]at had;have hnx:I64 m.next:=hm.js P2;have hnt:m.took.next=m.next:=rfl;rw[hnt];generalize m.next=a0 at had hnx;clear hm1 hm hnt;subst hz;refine ab λz hz=>?_;have fin : ∀(a:Int) (m2:MS) (h':Heap) (ρ:Env),nF s m b=(a,m2)->I64 a->m2.ok (c+30)->b<m2.blocks.length->Nz s M vs W0 h' o0 m2 (Pv Pu 0 0) []->Lft.look ρ 0=Pt (Pw (Pt ⟨M,0,Pu⟩))->Lft.look ρ 1=Pt (Pp Pq b)->Lft.look ρ 2=Pt (.bool store)->Lft.look ρ 6=Pt (Pp Pq a)->LC.wp Pz z (dF [] K) ρ h':=by
  intro a m2 h' ρ e ha q hb n r0 r1 r2 r6;subst hz;simp only[e]at hmm;refine ab λz hz=>?_;simp[ag,ah,r0,r1,r2,r6];refine af P1 (ef n q P2 (k:=4) P4 P4) ?_;rintro _ h1 ⟨rfl,n⟩;simp[ag,ah,r0,r1,r2,r6];subst hz;refine ab λz hz=>?_;have fin2 : ∀(i:Int) (m3:MS) (h':Heap) (ρ:Env),offS s m2=(i,m3)->(-2147483648<=i/\i<=2147483647)->m3.ok (c+40)->b<m3.blocks.length->Nz s M vs W0 h' o0 m3 (Pv Pu 0 0) []->Lft.look ρ 0=Pt (Pw (Pt ⟨M,0,Pu⟩))->Lft.look ρ 1=Pt (Pp Pq b)->Lft.look ρ 2=Pt (.bool store)->Lft.look ρ 6=Pt (Pp Pq a)->Lft.look ρ 11=Pt (Pp Ps i)->LC.wp Pz z (dF [] K) ρ h':=by
   intro i m3 h' ρ e hi q hb n r0 r1 r2 r6 r11;subst hz;simp only[e]at hmm;refine ab λz hz=>?_;simp[ag,ah,r0,r1,r2,r6,r11];subst hz;cases store with
   | true=>rw[if_pos rfl]at hmm;refine aT (by simp[ag,ah,r2]) ?_;simp[ag,ah,r0,r1,r2,r6,r11];refine af P1 (ia n hb q P2) ?_;rintro _ h1 ⟨⟨rfl,hs⟩,n⟩;refine n.lit (ls:=[a,(aF s m3 b).1]) Sa (by simp[ha,hs]) rfl P4 λua un uc h2 _ n=>?_;refine aw (z:=.agg #[Pp Pq 0,Pp Pq 0,Pp Pq 0,Pv Pu 0 0,Pp Ps 0]) (places:=[(0,1),(1,1),(2,1),(3,1),(4,1)]) (vs:=[(0,Pp Pq 16),(3,.slice ua un uc),(4,Pp Ps i)]) (cs:=#[Pp Pq 16,Pp Pq 0,Pp Pq 0,.slice ua un uc,Pp Ps i]) P1 P1 Sa P1 ?_;refine af P1 (ko n (b:=b) (by rw[dt];exact hb) (q.aF (b:=b)) P2 i64c i64c i64c hi) ?_;rintro _ h3 n;refine hK _ _ ?_;rw[hmm];exact n
   | false=>rw[if_neg Sa]at hmm;refine aU (by simp[ag,ah,r2]) ?_;simp[ag,ah,r0,r1,r2,r6,r11];refine af P1 (fW n q P2) ?_;rintro _ h1 ⟨rfl,n⟩;refine n.lit (ls:=[a]) Sa (by simp[ha]) rfl P4 λua un uc h2 _ n=>?_;refine aw (z:=.agg #[Pp Pq 0,Pp Pq 0,Pp Pq 0,Pv Pu 0 0,Pp Ps 0]) (places:=[(0,1),(1,1),(2,1),(3,1),(4,1)]) (vs:=[(0,Pp Pq 15),(1,Pp Pq m3.next),(3,.slice ua un uc),(4,Pp Ps i)]) (cs:=#[Pp Pq 15,Pp Pq m3.next,Pp Pq 0,.slice ua un uc,Pp Ps i]) P1 P1 Sa P1 ?_;refine af P1 (ko n (b:=b) hb q.aH P2 i64c (q.js P2) i64c hi) ?_;rintro _ h3 n;refine hK _ _ ?_;rw[hmm];exact n
  have hof:offS s m2=_:=offS.eq_1 s m2;refine ab λy hy=>?_;simp[ag,ah,r0,r1,r2,r6];refine af P1 (ef n q.took P2 (k:=12) P4 P4) ?_;rintro _ h2 ⟨rfl,n⟩;have hx:m2.took.at_=m2.at_+1:=rfl;rw[hx];simp[ag,ah,r0,r1,r2,r6];subst hy;by_cases c12:aE s (m2.at_+1) 12=0
  ·rw[if_pos c12]at hof;refine aT (by simp[ag,ah,c12]) ?_;simp[ag,ah,r0,r1,r2,r6];refine af P1 (yr n q.took.took P2) ?_;rintro _ h3 ⟨rfl,n⟩;exact fin2 _ _ h3 _ hof oX (q.took.took.took.took.mono P2) hb n (by simp[ag,ah,r0]) (by simp[ag,ah,r1]) (by simp[ag,ah,r2]) (by simp[ag,ah,r6]) (by simp[ag,ah])
  rw[if_neg c12]at hof;refine aU (by simp[ag,ah,c12]) ?_;simp[ag,ah,r0,r1,r2,r6];exact fin2 _ _ h2 _ hof mc (q.took.took.mono P2) hb n (by simp[ag,ah,r0]) (by simp[ag,ah,r1]) (by simp[ag,ah,r2]) (by simp[ag,ah,r6]) (by simp[ag,ah])
 refine ab λy hy=>?_;simp;refine af P1 (ef n q P2 (k:=3) P4 P4) ?_;rintro _ h3 ⟨rfl,n⟩;simp;subst hy;by_cases c3:aE s m1.at_ 3=0
 ·rw[if_pos c3]at had;refine aT (by simp[c3]) ?_;refine ab λy hy=>?_;simp;refine af P1 (ia n (b:=b) hb1 q.took P2) ?_;rintro _ h4 ⟨⟨rfl,hs⟩,n⟩;have q:=q.took.aF (s:=s) (b:=b);have hb2:b<(aF s m1.took b).2.blocks.length:=by rw[dt];exact hb1
  generalize aF s m1.took b=r at had hs n q hb2;subst hy;refine ab λy hy=>?_;simp;refine af P1 (fE n (b:=b) hb2 q P2 (k:=7) P4) ?_;rintro _ h5 ⟨rfl,n⟩;subst hy;refine ab λy hy=>?_;simp;have q5:=q.constant (b:=b) (n:=7);refine af P1 (fW n q5 P2) ?_;rintro _ h6 ⟨rfl,n⟩;have hn5:(r.2.constant b 7).next=r.2.next+1:=rfl;rw[hn5];subst hy;refine ab λy hy=>?_;simp;have i5:=q5.js P2;rw[hn5]at i5;refine n.lit (ls:=[r.1,r.2.next]) Sa (by simp[hs,q.js (by omega:c+1+3+1+10<=1000000)]) rfl P4 λua un uc h7 _ n=>?_;refine aw (z:=.agg #[Pp Pq 0,Pp Pq 0,Pp Pq 0,Pv Pu 0 0,Pp Ps 0]) (places:=[(0,1),(1,1),(2,1),(3,1),(4,1)]) (vs:=[(0,Pp Pq 5),(1,Pp Pq (r.2.next+1)),(3,.slice ua un uc)]) (cs:=#[Pp Pq 5,Pp Pq (r.2.next+1),Pp Pq 0,.slice ua un uc,Pp Ps 0]) P1 P1 Sa P1 ?_;refine af P1 (ko n (b:=b) (imm:=0) (by rw[show(r.2.constant b 7).aH.blocks=(r.2.constant b 7).blocks from rfl,dp];exact hb2) q5.aH P2 i64c i5 i64c P4) ?_;rintro _ h8 n;have n:Nx s M vs W0 h8 o0 ((r.2.constant b 7).two b 5 r.1 r.2.next):=n;have q6:=q5.two (b:=b) (op:=5) (x:=r.1) (y:=r.2.next);have hb3:b<((r.2.constant b 7).two b 5 r.1 r.2.next).blocks.length:=by rw[nD,dp];exact hb2
  generalize (r.2.constant b 7).two b 5 r.1 r.2.next=m3 at had n q6 hb3;have n:=n.z;subst hy;refine ab λy hy=>?_;simp;refine af P1 (fW n q6 P2) ?_;rintro _ h9 ⟨rfl,n⟩;subst hy;refine ab λy hy=>?_;simp;refine n.lit (ls:=[a0,r.2.next+1]) Sa (by simp[hnx,i5]) rfl P4 λua2 un2 uc2 h10 _ n=>?_;refine aw (z:=.agg #[Pp Pq 0,Pp Pq 0,Pp Pq 0,Pv Pu 0 0,Pp Ps 0]) (places:=[(0,1),(1,1),(2,1),(3,1),(4,1)]) (vs:=[(0,Pp Pq 2),(1,Pp Pq m3.next),(3,.slice ua2 un2 uc2)]) (cs:=#[Pp Pq 2,Pp Pq m3.next,Pp Pq 0,.slice ua2 un2 uc2,Pp Ps 0]) P1 P1 Sa P1 ?_;refine af P1 (ko n (b:=b) (imm:=0) hb3 q6.aH P2 i64c (q6.js P2) i64c P4) ?_;rintro _ h11 n;subst hy;simp;refine fin m3.next (m3.two b 2 a0 (r.2.next+1)) h11 _ had (q6.js P2) (q6.two.mono P2) (by rw[nD];exact hb3) n.z ?_ ?_ ?_ ?_;all_goals simp
 rw[if_neg c3]at had;refine aU (by simp[c3]) ?_;simp;exact fin a0 m1.took h3 _ had hnx (q.took.mono P2) hb1 n Sa Sa Sa Sa
section
variable {s:List Int} {M:Nat} {vs:Value} {W0:View} {h:Heap} {o0:Own} {m:MS} {u:Value} {ds:List Int}
theorem Nz.le (n:Nz s M vs W0 h o0 m u ds):W0.le (vw h):=by obtain⟨W,o,h1,h2,_⟩:=n;exact Pn h1 h2.own.wle
theorem Nz.base(n:Nz s M vs W0 h o0 m u ds): ∃W o,Nz s M vs W h o m u ds/\SlRd W u ds/\∀{h' m' u' ds'},Nz s M vs W h' o m' u' ds'->Nz s M vs W0 h' o0 m' u' ds':=by obtain⟨W,o,h1,h2,h3,h4⟩:=n;refine⟨W,o,⟨W,o,View.le_refl _,h2,λ_ _=>rfl,h4⟩,h4,?_⟩;rintro h' m' u' ds' ⟨W',o',g1,g2,g3,g4⟩;exact⟨W',o',Pn h1 g1,g2,λk hk=>(g3 k hk).trans (h3 k hk),g4⟩
end
theorem FE{H:View}{B n:Nat}{l:List Int}{t:TypeId}(hb:H B=Pt (.cells (l.map λx=>Pp Pq x).toArray t (0,0)))(hn:l.length=n)(h1:0<n/\n<=1000)(hr : ∀x∈l,I64 x):SlRd H (Pv (Pt ⟨B,0,Pu⟩) n n) l:=by
 refine⟨Pt ⟨B,0,Pu⟩,n,by rw[hn],by omega,by omega,.inr ⟨⟨B,0,Pu⟩,rfl,rfl,λi hi=>?_⟩⟩;have e:(⟨B,0,Pu⟩:Addr).add (i*Rep.n Int)=⟨B,i,Pu⟩:=by show(⟨B,0,Pu⟩:Addr).add (i*1)=_;simp
 rw[e];refine⟨[Pp Pq l[i]],⟨_,t,(0,0),rfl,hb,?_⟩,(bD (v:=Pp Pq l[i]) (H:=H)).2 ⟨rfl,hr _ (ME hi)⟩ |> λq=>?_⟩
 ·show((l.map λx=>Pp Pq x).toArray.toList.drop i).take 1=_;rw[List.toList_toArray,LR (by simpa using hi)];simp
 exact⟨rfl,hr _ (ME hi)⟩
theorem Fi: ∀x∈opsL,I64 x:=by
 intro x hx;have : ∀x∈opsL,0<=x/\x<=12:=by decide
 have:=this x hx;exact P6
variable{vb vl:Value}{lb:List BlkM}
theorem MkB.frame{M:Nat}{m:MS}{o o':Own}(b:MkB M vs m o vb vl lb)(hf : ∀k:Key,k.1<3->o' k=o k):MkB M vs m o' vb vl lb:=
 ⟨(hf _ P4).trans b.box,(hf _ P4).trans b.live,(hf _ P4).trans b.blk,b.len,b.term,λi hi=>(hf _ (by show 1<3;decide)).trans (b.phis i hi),λi hi=>(hf _ (by show 2<3;decide)).trans (b.ins i hi)⟩
theorem zk{s:List Int}{x:List Int × MS}: ∀k,(up (gz s b) k x).2.blocks.length=x.2.blocks.length:=by
 intro k;induction k with
 | zero=>rfl
 | succ k ih=>show(aF s (up (gz s b) k x).2 b).2.blocks.length=_;rw[dt,ih]
theorem Cm{s:List Int}{c:Nat}{x:List Int × MS}(hx:x.2.ok c): ∀k,(up (gz s b) k x).2.ok (c+10*k)/\(up (gz s b) k x).1.length=x.1.length+k/\(up (gz s b) k x).2.blocks.length=x.2.blocks.length:=by
 intro k;induction k with
 | zero=>exact⟨hx,rfl,rfl⟩
 | succ k ih=>
  obtain⟨h1,h2,h3⟩:=ih;refine⟨(h1.aF).mono P2,?_,?_⟩
  ·show((up (gz s b) k x).1++[_]).length=_;rw[LA,h2,LP];omega
  show(aF s (up (gz s b) k x).2 b).2.blocks.length=_;rw[dt,h3]
theorem tT{s:List Int}{M:Nat}{W0:View}{h:Heap}{o0:Own}{m:MS}(n:Nx s M vs W0 h o0 m){c:Nat}(hb:b<m.blocks.length)(hm:m.ok c)(hc:c<=800000)(hfree:o0 (9,0)=Pu):
  az Pz 55 #[Pw (Pt ⟨M,0,Pu⟩),Pp Pq b] h (λv h'=>Nx s M vs W0 h' o0 (aN s b m)):=by
 refine aq (args:=[Pw (Pt ⟨M,0,Pu⟩),Pp Pq b]) follows Tryz.func55 E.aV Pj λK hK=>?_;dsimp only[L.aV,lkF,lkG];have n:=n.z;have hmm:aN s b m=_:=aN.eq_1 s b m;refine ab λz hz=>?_;simp;refine af P1 (ef n hm P2 (k:=20) P4 P4) ?_;rintro _ h1 ⟨rfl,n⟩;obtain⟨k0,k1⟩:=cG (s:=s) (at_:=m.at_) (n:=20) P4;have q:=hm.took;have hb1:b<m.took.blocks.length:=hb;subst hz;generalize aE s m.at_ 20=k at hmm k0 k1;generalize hm1:m.took=m1 at hmm n q hb1;have hw:jY s m1=jY s m1:=rfl;simp only[aI];refine ab λz hz=>?_;simp;subst hz;by_cases c1:k<12
 ·rw[if_pos c1]at hmm;refine aT (by simp[c1]) ?_;obtain⟨kn,rfl⟩ : ∃kn:Nat,k=kn:=⟨k.toNat,by omega⟩;have hkn:kn<12:=by omega
  refine ab λz hz=>?_;simp;have hcs:(#[Pp Pq 2,Pp Pq 2,Pp Pq 3,Pp Pq 4,Pp Pq 5,Pp Pq 6,Pp Pq 7,Pp Pq 8,Pp Pq 9,Pp Pq 10,Pp Pq 12,Pp Pq 11]:Array Value)=(opsL.map λx=>Pp Pq x).toArray:=rfl;refine aw (z:=.agg #[Pp Pq 0,Pp Pq 0,Pp Pq 0,Pp Pq 0,Pp Pq 0,Pp Pq 0,Pp Pq 0,Pp Pq 0,Pp Pq 0,Pp Pq 0,Pp Pq 0,Pp Pq 0]) (places:=[(0,1),(1,1),(2,1),(3,1),(4,1),(5,1),(6,1),(7,1),(8,1),(9,1),(10,1),(11,1)]) (vs:=[(0,Pp Pq 2),(1,Pp Pq 2),(2,Pp Pq 3),(3,Pp Pq 4),(4,Pp Pq 5),(5,Pp Pq 6),(6,Pp Pq 7),(7,Pp Pq 8),(8,Pp Pq 9),(9,Pp Pq 10),(10,Pp Pq 12),(11,Pp Pq 11)])
   (cs:=#[Pp Pq 2,Pp Pq 2,Pp Pq 3,Pp Pq 4,Pp Pq 5,Pp Pq 6,Pp Pq 7,Pp Pq 8,Pp Pq 9,Pp Pq 10,Pp Pq 12,Pp Pq 11]) P1 P1 Sa P1 ?_;refine fP (v:=.agg #[Pp Pq 2,Pp Pq 2,Pp Pq 3,Pp Pq 4,Pp Pq 5,Pp Pq 6,Pp Pq 7,Pp Pq 8,Pp Pq 9,Pp Pq 10,Pp Pq 12,Pp Pq 11]) (z:=.agg #[Pp Pq 0,Pp Pq 0,Pp Pq 0,Pp Pq 0,Pp Pq 0,Pp Pq 0,Pp Pq 0,Pp Pq 0,Pp Pq 0,Pp Pq 0,Pp Pq 0,Pp Pq 0]) (n:=12) P1 rfl P1 rfl P8 P5 P5 λh2 hle2 hs2 hb2=>?_
  have n:Nz s M vs W0 h2 o0 m1 (Pv (Pt ⟨h1.size,0,Pu⟩) 12 12) opsL:=by
   obtain⟨W,o,g1,g2,g3,g4⟩:=n;refine⟨_,o,Pn g1 (bU g2.own.wle),⟨g2.own.ext hle2,g2.src.mono (bU g2.own.wle),g2.box⟩,g3,?_⟩;have hg:grow W h1 h2 h1.size=Pt (.cells (opsL.map λx=>Pp Pq x).toArray T.GG (0,0)):=by rw[cR (Lp _),hb2];rfl
   exact FE hg rfl P4 Fi
  generalize h1.size=B at n;subst hz;refine ab λz hz=>?_;simp;refine af P1 (ia n hb1 q P2) ?_;rintro _ h3 ⟨⟨rfl,i2⟩,n⟩;have q:=q.aF (s:=s) (b:=b);have hb2:b<(aF s m1 b).2.blocks.length:=by rw[dt];exact hb1
  simp only[binS]at hmm;generalize aF s m1 b=r1 at hmm n q hb2 i2;subst hz;refine ab λz hz=>?_;simp;refine af P1 (ia n hb2 q P2) ?_;rintro _ h4 ⟨⟨rfl,i3⟩,n⟩;have q:=q.aF (s:=s) (b:=b);have hb3:b<(aF s r1.2 b).2.blocks.length:=by rw[dt];exact hb2
  generalize aF s r1.2 b=r2 at hmm n q hb3 i3;subst hz;refine ab λz hz=>?_;have fin : ∀(e:Int) (m3:MS) (h':Heap) (ρ:Env),aN s b m=m3.two b (nth opsL kn) r1.1 e->I64 e->m3.ok (c+60)->b<m3.blocks.length->Nz s M vs W0 h' o0 m3 (Pv (Pt ⟨B,0,Pu⟩) 12 12) opsL->Lft.look ρ 0=Pt (Pw (Pt ⟨M,0,Pu⟩))->Lft.look ρ 1=Pt (Pp Pq b)->Lft.look ρ 4=Pt (Pp Pq kn)->Lft.look ρ 5=Pt (Pw (Pt ⟨B,0,Pu⟩))->Lft.look ρ 6=Pt (Pp Pq r1.1)->Lft.look ρ 7=Pt (Pp Pq e)->LC.wp Pz z (eE 0 (dF [] K)) ρ h':=by
   intro e m3 h' ρ hmm ie q hb n r0 r1' r4 r5 r6 r7;subst hz;obtain⟨W,o,n,sl,back⟩:=n.base;have iop:=sl.range (i:=kn) (by show kn<12;omega);have hop:ak W ⟨B,kn,Pu⟩=Pt (Pp Pq (nth opsL kn)):=by have:=sl.int (View.le_refl W) (i:=kn) (by show kn<12;omega);simpa[slA]using this
   have hix:Bn.ev (.aidx 12 1) (Pw (Pt ⟨B,0,Pu⟩)) (Pp Pq kn)=Pt (Pw (Pt ⟨B,kn,Pu⟩)):=by simp only[Bn.ev,vP,vI,LK];rw[if_pos P6];simp
   generalize nth opsL kn=op at hmm iop hop;refine aR W n.le ?_;simp[ag,ah,r0,r1',r4,r5,r6,r7,hix,hop];constructor
   ·refine af P1 (fW n q P2) ?_;rintro _ h4 ⟨rfl,n⟩;refine⟨n.le,?_⟩;refine n.lit (ls:=[r1.1,e]) Sa (by simp[i2,ie]) rfl P4 λua un uc h5 _ n=>⟨n.le,?_⟩;refine aw (z:=.agg #[Pp Pq 0,Pp Pq 0,Pp Pq 0,Pv Pu 0 0,Pp Ps 0]) (places:=[(0,1),(1,1),(2,1),(3,1),(4,1)]) (vs:=[(0,Pp Pq op),(1,Pp Pq m3.next),(3,.slice ua un uc)]) (cs:=#[Pp Pq op,Pp Pq m3.next,Pp Pq 0,.slice ua un uc,Pp Ps 0]) P1 P1 Sa P1 ?_;refine af P1 (ko n (b:=b) hb q.aH P2 iop (q.js P2) i64c P4) ?_;rintro _ h6 n;exact hK _ _ (by rw[hmm];exact(back n.z).x)
   refine n.lit (ls:=[r1.1,e]) Sa (by simp[i2,ie]) rfl P4 λua un uc h5 _ n=>⟨n.le,?_⟩;refine af P1 (fW n q P2) ?_;rintro _ h4 ⟨rfl,n⟩;refine⟨n.le,?_⟩;refine aw (z:=.agg #[Pp Pq 0,Pp Pq 0,Pp Pq 0,Pv Pu 0 0,Pp Ps 0]) (places:=[(0,1),(1,1),(2,1),(3,1),(4,1)]) (vs:=[(0,Pp Pq op),(1,Pp Pq m3.next),(3,.slice ua un uc)]) (cs:=#[Pp Pq op,Pp Pq m3.next,Pp Pq 0,.slice ua un uc,Pp Ps 0]) P1 P1 Sa P1 ?_;refine af P1 (ko n (b:=b) hb q.aH P2 iop (q.js P2) i64c P4) ?_;rintro _ h6 n;exact hK _ _ (by rw[hmm];exact(back n.z).x)
  refine ab λy hy=>?_;simp;refine af P1 (ef n q P2 (k:=3) P4 P4) ?_;rintro _ h5 ⟨rfl,n⟩;simp;subst hy;by_cases c4:aE s r2.2.at_ 3=0
  ·rw[if_pos c4]at hmm;refine aT (by simp[c4]) ?_;simp;refine af P1 (ef n q.took P2 (k:=40) P4 P4) ?_;rintro _ h6 ⟨rfl,n⟩;have hx:r2.2.took.at_=r2.2.at_+1:=rfl;rw[hx];simp;refine af P1 (fE n (b:=b) hb3 q.took.took P2 (k:=IntKind.i32.wrap (IntKind.i64.wrap (aE s (r2.2.at_+1) 40-8))) mc) ?_;rintro _ h7 ⟨rfl,n⟩;refine fin r2.2.next _ h7 _ hmm (q.js P2) (q.took.took.constant.mono P2) (by rw[dp];exact hb3) n ?_ ?_ ?_ ?_ ?_ ?_;all_goals simp
   rfl
  rw[if_neg c4]at hmm;refine aU (by simp[c4]) ?_;simp;refine fin r2.1 _ h5 _ hmm i3 (q.took.mono P2) hb3 n ?_ ?_ ?_ ?_ ?_ ?_;all_goals simp
 rw[if_neg c1]at hmm;refine aU (by simp[c1]) ?_;refine ab λz hz=>?_;simp;subst hz;by_cases c2:k=12
 ·rw[if_pos c2]at hmm;refine aT (by simp[c2]) ?_;refine ab λz hz=>?_;simp;refine af P1 (ia n hb1 q P2) ?_;rintro _ h2 ⟨⟨rfl,i2⟩,n⟩;have q:=q.aF (s:=s) (b:=b);have hb2:b<(aF s m1 b).2.blocks.length:=by rw[dt];exact hb1
  simp only[ltuS]at hmm;generalize aF s m1 b=r1 at hmm n q hb2 i2;subst hz;refine ab λz hz=>?_;simp;refine af P1 (ia n hb2 q P2) ?_;rintro _ h3 ⟨⟨rfl,i3⟩,n⟩;have q:=q.aF (s:=s) (b:=b);have hb3:b<(aF s r1.2 b).2.blocks.length:=by rw[dt];exact hb2
  generalize aF s r1.2 b=r2 at hmm n q hb3 i3;subst hz;simp;refine af P1 (fW n q P2) ?_;rintro _ h4 ⟨rfl,n⟩;refine n.lit (ls:=[r1.1,r2.1]) Sa (by simp[i2,i3]) rfl P4 λua un uc h5 _ n=>?_;refine aw (z:=.agg #[Pp Pq 0,Pp Pq 0,Pp Pq 0,Pv Pu 0 0,Pp Ps 0]) (places:=[(0,1),(1,1),(2,1),(3,1),(4,1)]) (vs:=[(0,Pp Pq 13),(1,Pp Pq r2.2.next),(3,.slice ua un uc)]) (cs:=#[Pp Pq 13,Pp Pq r2.2.next,Pp Pq 0,.slice ua un uc,Pp Ps 0]) P1 P1 Sa P1 ?_;refine af P1 (ko n (b:=b) hb3 q.aH P2 i64c (q.js P2) i64c P4) ?_;rintro _ h6 n;exact hK _ _ (by rw[hmm];exact n)
 rw[if_neg c2]at hmm;refine aU (by simp[c2]) ?_;refine ab λz hz=>?_;simp;subst hz;by_cases c3:k=13
 ·rw[if_pos c3]at hmm;refine aT (by simp[c3]) ?_;refine ab λz hz=>?_;simp;refine af P1 (ia n hb1 q P2) ?_;rintro _ h2 ⟨⟨rfl,i2⟩,n⟩;have q:=q.aF (s:=s) (b:=b);have hb2:b<(aF s m1 b).2.blocks.length:=by rw[dt];exact hb1
  simp only[divS]at hmm;generalize aF s m1 b=r1 at hmm n q hb2 i2;subst hz;refine ab λz hz=>?_;simp;refine af P1 (ef n q P2 (k:=12) P4 P4) ?_;rintro _ h3 ⟨rfl,n⟩;simp;refine af P1 (fE n (b:=b) hb2 q.took P2 (k:=IntKind.i32.wrap (aE s r1.2.at_ 12)) mc) ?_;rintro _ h4 ⟨rfl,n⟩;have i4:I64 r1.2.took.next:=q.took.js P2;have q:=q.took.constant (b:=b) (n:=IntKind.i32.wrap (aE s r1.2.at_ 12));have hb3:b<(r1.2.took.constant b (IntKind.i32.wrap (aE s r1.2.at_ 12))).blocks.length:=by rw[dp];exact hb2
  have ht:r1.2.took.next=r1.2.next:=rfl;rw[ht]at i4 ⊢;generalize r1.2.took.constant b (IntKind.i32.wrap (aE s r1.2.at_ 12))=m2 at hmm n q hb3;generalize r1.2.next=d at hmm i4;subst hz;refine ab λz hz=>?_;have fin : ∀(e:Int) (m3:MS) (h':Heap) (ρ:Env),aN s b m=m3.two b 14 r1.1 e->I64 e->m3.ok (c+60)->b<m3.blocks.length->Nz s M vs W0 h' o0 m3 (Pv Pu 0 0) []->Lft.look ρ 0=Pt (Pw (Pt ⟨M,0,Pu⟩))->Lft.look ρ 1=Pt (Pp Pq b)->Lft.look ρ 10=Pt (Pp Pq r1.1)->Lft.look ρ 11=Pt (Pp Pq e)->LC.wp Pz z (eE 0 (dF [] K)) ρ h':=by intro e m3 h' ρ hmm ie q hb n r0 r1' r10 r11;subst hz;simp[ag,ah,r0,r1',r10,r11];refine af P1 (fW n q P2) ?_;rintro _ h4 ⟨rfl,n⟩;refine n.lit (ls:=[r1.1,e]) Sa (by simp[i2,ie]) rfl P4 λua un uc h5 _ n=>?_;refine aw (z:=.agg #[Pp Pq 0,Pp Pq 0,Pp Pq 0,Pv Pu 0 0,Pp Ps 0]) (places:=[(0,1),(1,1),(2,1),(3,1),(4,1)]) (vs:=[(0,Pp Pq 14),(1,Pp Pq m3.next),(3,.slice ua un uc)]) (cs:=#[Pp Pq 14,Pp Pq m3.next,Pp Pq 0,.slice ua un uc,Pp Ps 0]) P1 P1 Sa P1 ?_;refine af P1 (ko n (b:=b) hb q.aH P2 i64c (q.js P2) i64c P4) ?_;rintro _ h6 n;exact hK _ _ (by rw[hmm];exact n)
  refine ab λy hy=>?_;simp;refine af P1 (ef n q P2 (k:=3) P4 P4) ?_;rintro _ h5 ⟨rfl,n⟩;simp;subst hy;by_cases c4:0<aE s m2.at_ 3
  ·rw[if_pos c4]at hmm;refine aT (by simp[c4]) ?_;simp;refine af P1 (ef n q.took P2 (k:=12) P4 P4) ?_;rintro _ h6 ⟨rfl,n⟩;have hx:m2.took.at_=m2.at_+1:=rfl;rw[hx];simp;refine af P1 (fE n (b:=b) hb3 q.took.took P2 (k:=IntKind.i32.wrap (1+IntKind.i32.wrap (aE s (m2.at_+1) 12))) mc) ?_;rintro _ h7 ⟨rfl,n⟩;refine fin m2.next _ h7 _ hmm (q.js P2) (q.took.took.constant.mono P2) (by rw[dp];exact hb3) n ?_ ?_ ?_ ?_;all_goals simp
   rfl
  rw[if_neg c4]at hmm;refine aU (by simp[c4]) ?_;simp;refine fin d _ h5 _ hmm i4 (q.took.mono P2) hb3 n ?_ ?_ ?_ ?_;all_goals simp
 rw[if_neg c3]at hmm;refine aU (by simp[c3]) ?_;refine ab λz hz=>?_;simp;subst hz;by_cases c4:k<16
 ·rw[if_pos c4]at hmm;refine aT (by simp[c4]) ?_;simp;refine af P1 (Dk n.x (store:=decide (k=15)) hb1 q P2) ?_;rintro _ h2 n;exact hK _ _ (by rw[hmm];exact n)
 rw[if_neg c4]at hmm;refine aU (by simp[c4]) ?_;refine ab λz hz=>?_;simp;subst hz;by_cases c5:k=16
 ·rw[if_pos c5]at hmm;refine aT (by simp[c5]) ?_;refine ab λz hz=>?_;simp;obtain⟨W,o,g1,w,f,-⟩:=n;have hk9:o (9,0)=none:=(f _ P4).trans hfree;refine w.own.iz (k:=(9,0)) (α:=Int) hk9 El.aP λv h2 hle2 hv w2 _=>?_;have w2:Mk s M vs W h2 (o.upd (9,0) (it T.int v ([]:List Int))) m1:=by obtain⟨vb,vl,lb,bb⟩:=w.box;exact⟨w2,w.src,vb,vl,lb,bb.frame λk hk=>Own.ay (by rintro rfl;simp at hk)⟩
  subst hz;refine ab λz hz=>?_;simp;refine af P1 (w2.take (by have:=q.at_;omega) (n:=5) P4 P4) ?_;rintro _ h3 ⟨rfl,o3,w3,f3⟩;simp only[nL]at hmm;have q:=q.took;have hb2:b<m1.took.blocks.length:=hb1;obtain⟨t0,t1⟩:=cG (s:=s) (at_:=m1.at_) (n:=5) P4;generalize aE s m1.at_ 5=t at hmm t0 t1;obtain⟨tn,rfl⟩ : ∃tn:Nat,t=tn:=⟨t.toNat,by omega⟩;rw[show((tn:Int)).toNat=tn by omega]at hmm;have hup:=Cm (s:=s) (b:=b) (x:=([],m1.took)) q;generalize m1.took=m2 at hmm q hb2 hup w3;subst hz;refine ab λz hz=>?_;simp;refine cS [0,1,4,12,13,14] (fun(v:Value) i=>[Pw (Pt ⟨M,0,Pu⟩),Pp Pq b,Pp Pq k,v,Pp Pq tn,Pp Pq i]) (λv i h4=>∃W' o',W0.le W'/\Mk s M vs W' h4 o' (up (gz s b) i ([],m2)).2/\o' (9,0)=it T.int v (up (gz s b) i ([],m2)).1/\∀q:Key,3<=q.1->q≠(9,0)->o' q=o0 q) tn v
   rfl P2 rfl ⟨W,o3,g1,w3,(f3 _ P4).trans Own.aj,λq h1 h2=>(f3 q h1).trans ((Own.ay h2).trans (f q h1))⟩ (λ_ _=>rfl) (λv k h hk m=>by simp) ?_ ?_
  ·rintro v i h4 hlt ⟨W4,o4,g4,w4,e4,f4⟩ K2 hK2;obtain⟨qi,li,bi⟩:=hup i;have e5:up (gz s b) (i+1) ([],m2)=((up (gz s b) i ([],m2)).1++[(aF s (up (gz s b) i ([],m2)).2 b).1],(aF s (up (gz s b) i ([],m2)).2 b).2):=rfl;have hb4:b<(up (gz s b) i ([],m2)).2.blocks.length:=by rw[bi];exact hb2
   generalize up (gz s b) i ([],m2)=x at w4 e4 e5 qi li bi hb4;have li:x.1.length=i:=by simpa using li
   simp;refine af P1 (BR w4 hb4 qi P2) ?_;rintro _ h5 ⟨rfl,i5,W5,o5,g5,w5,f5⟩;have e6:o5 (9,0)=it T.int v x.1:=(f5 _ P4).trans e4;refine w5.own.fM (k:=(9,0)) (α:=Int) (d:=(aF s x.2 b).1) e6 El.aP rfl (bD.2 ⟨rfl,i5⟩) P2 P2 (λ_=>rfl) (λ_=>rfl) λu v' h6 w6 _=>?_;refine hK2 v' _ _ rfl rfl ⟨W5,_,Pn g4 g5,⟨w6,w5.src,?_⟩,?_,?_⟩
   ·obtain⟨vb,vl,lb,bb⟩:=w5.box;rw[e5];exact⟨vb,vl,lb,bb.frame λk hk=>Own.ay (by rintro rfl;simp at hk)⟩
   ·rw[e5];exact Own.aj
   intro q h1 h2;exact(Own.ay h2).trans ((f5 q h1).trans (f4 q h1 h2))
  rintro v h4 ⟨W4,o4,g4,w4,e4,f4⟩;obtain⟨qi,li,bi⟩:=hup tn;have hb4:b<(up (gz s b) tn ([],m2)).2.blocks.length:=by rw[bi];exact hb2
  generalize up (gz s b) tn ([],m2)=x at w4 e4 qi li bi hb4 hmm;obtain⟨w5,sl⟩:=w4.own.freeze e4;have sl2:=sl;obtain⟨ua,uc,rfl,_⟩:=sl2;have hWp:=gq (h:=h4) (w4.own.av _ _ e4);have n:Nz s M vs W0 h4 o0 x.2 (.slice ua x.1.length uc) x.1:=by
   obtain⟨vb,vl,lb,bb⟩:=w4.box;refine⟨_,_,Pn g4 hWp,⟨w5,w4.src.mono hWp,vb,vl,lb,bb.frame λk hk=>Own.ay (by rintro rfl;simp at hk)⟩,λq h1=>?_,sl⟩;by_cases e:q=(9,0)
   ·rw[e,Own.aj,hfree]
   exact(Own.ay e).trans (f4 q h1 e)
  generalize x.1.length=un at n;simp;subst hz;simp;refine af P1 (fW n qi P2) ?_;rintro _ h5 ⟨rfl,n⟩;refine af P1 (ef n qi.aH P2 (k:=5) P4 P4) ?_;rintro _ h6 ⟨rfl,n⟩;have hx:x.2.aH.at_=x.2.at_:=rfl;rw[hx];simp;refine aw (z:=.agg #[Pp Pq 0,Pp Pq 0,Pp Pq 0,Pv Pu 0 0,Pp Ps 0]) (places:=[(0,1),(1,1),(2,1),(3,1),(4,1)]) (vs:=[(0,Pp Pq 17),(1,Pp Pq x.2.next),(3,.slice ua un uc),(4,Pp Ps (IntKind.i32.wrap (aE s x.2.at_ 5)))]) (cs:=#[Pp Pq 17,Pp Pq x.2.next,Pp Pq 0,.slice ua un uc,Pp Ps (IntKind.i32.wrap (aE s x.2.at_ 5))]) P1 P1 Sa P1 ?_;refine af P1 (ko n (b:=b) hb4 qi.aH.took P2 i64c (qi.js P2) i64c mc) ?_;rintro _ h7 n;exact hK _ _ (by rw[hmm];exact n)
 rw[if_neg c5]at hmm;refine aU (by simp[c5]) ?_;refine ab λz hz=>?_;simp;subst hz;by_cases c6:k=17
 ·rw[if_pos c6]at hmm;refine aT (by simp[c6]) ?_;refine ab λz hz=>?_;simp;refine af P1 (ia n hb1 q P2) ?_;rintro _ h2 ⟨⟨rfl,i2⟩,n⟩;have q:=q.aF (s:=s) (b:=b);have hb2:b<(aF s m1 b).2.blocks.length:=by rw[dt];exact hb1
  simp only[wL]at hmm;generalize aF s m1 b=r1 at hmm n q hb2 i2;subst hz;refine ab λz hz=>?_;simp;refine af P1 (ia n hb2 q P2) ?_;rintro _ h3 ⟨⟨rfl,i3⟩,n⟩;have q:=q.aF (s:=s) (b:=b);have hb3:b<(aF s r1.2 b).2.blocks.length:=by rw[dt];exact hb2
  generalize aF s r1.2 b=r2 at hmm n q hb3 i3;subst hz;refine ab λz hz=>?_;simp;refine af P1 (fW n q P2) ?_;rintro _ h4 ⟨rfl,n⟩;subst hz;simp;refine af P1 (fW n q.aH P2) ?_;rintro _ h5 ⟨rfl,n⟩;have hx:r2.2.aH.next=r2.2.next+1:=rfl;rw[hx];have j5:=q.aH.js P2;rw[hx]at j5;refine n.lit (ls:=[r1.1,r2.1]) Sa (by simp[i2,i3]) rfl P4 λua un uc h5 _ n=>?_;refine aw (z:=.agg #[Pp Pq 0,Pp Pq 0,Pp Pq 0,Pv Pu 0 0,Pp Ps 0]) (places:=[(0,1),(1,1),(2,1),(3,1),(4,1)]) (vs:=[(0,Pp Pq 18),(1,Pp Pq r2.2.next),(2,Pp Pq (r2.2.next+1)),(3,.slice ua un uc)]) (cs:=#[Pp Pq 18,Pp Pq r2.2.next,Pp Pq (r2.2.next+1),.slice ua un uc,Pp Ps 0]) P1 P1 Sa P1 ?_;refine af P1 (ko n (b:=b) hb3 q.aH.aH P2 i64c (q.js P2) j5 P4) ?_;rintro _ h6 n;exact hK _ _ (by rw[hmm];exact n)
 rw[if_neg c6]at hmm;refine aU (by simp[c6]) ?_;simp;refine af P1 (yr n q P2) ?_;rintro _ h2 ⟨rfl,n⟩;refine af P1 (fE n (b:=b) hb1 q.took.took P2 (k:=jY s m1) oX) ?_;rintro _ h3 ⟨rfl,n⟩;exact hK _ _ (by rw[hmm];exact n.x)
section
variable {s:List Int} {m:MS} {b c:Nat}
theorem mA:m.took.blocks.length=m.blocks.length:=rfl
theorem oF:m.aH.blocks.length=m.blocks.length:=rfl
theorem MS.ok.addr(h:m.ok c):(nF s m b).2.ok (c+30):=by
 unfold nF;simp only;split
 ·exact((((h.took.constant).took.aF).constant).two.two).mono P2
 exact(h.took.constant.took).mono P2
theorem Em:(nF s m b).2.blocks.length=m.blocks.length:=by unfold nF;simp only;split<;>simp[nD,dp,dt,mA]
theorem MS.ok.off(h:m.ok c):(offS s m).2.ok (c+4):=by
 unfold offS;split
 ·exact h.took.took.took.took
 exact h.took.took.mono P2
theorem Hb:(offS s m).2.blocks.length=m.blocks.length:=by unfold offS;split<;>rfl
theorem MS.ok.memory{st:Bool}(h:m.ok c):(iJ s m b st).ok (c+60):=by
 unfold iJ;simp only;split
 ·exact(((h.addr).off.aF).add).mono P2
 exact(((h.addr).off.aH).add).mono P2
theorem Bc{st:Bool}:(iJ s m b st).blocks.length=m.blocks.length:=by unfold iJ;simp only;split<;>simp[lY,dt,Hb,Em,oF]
theorem MS.ok.bin(h:m.ok c):(binS s m b op).ok (c+60):=by
 unfold binS;simp only;split
 ·exact((h.aF.aF).took.took.constant.two).mono P2
 exact((h.aF.aF).took.two).mono P2
theorem Gz:(binS s m b op).blocks.length=m.blocks.length:=by unfold binS;simp only;split<;>simp[nD,dp,dt,mA]
theorem MS.ok.div(h:m.ok c):(divS s m b).ok (c+60):=by
 unfold divS;simp only;split
 ·exact((h.aF).took.constant.took.took.constant.two).mono P2
 exact((h.aF).took.constant.took.two).mono P2
theorem Hj:(divS s m b).blocks.length=m.blocks.length:=by unfold divS;simp only;split<;>simp[nD,dp,dt,mA]
theorem MS.ok.nL (h:m.ok c):(nL s m b).ok (c+70):=by unfold Go.Proofs.YtnfiilgdjpdlkaaGreatDoor.nL;simp only;have ht:=cG (s:=s) (at_:=m.at_) (n:=5) P4;have:=(Cm (s:=s) (b:=b) (x:=([],m.took)) h.took (aE s m.at_ 5).toNat).1;exact(this.aH.took.add).mono P2
theorem D8:(nL s m b).blocks.length=m.blocks.length:=by unfold nL;simp only;rw[lY,mA,oF];exact zk (s:=s) (b:=b) (x:=([],m.took)) _
theorem MS.ok.iX(h:m.ok c):(aN s b m).ok (c+80):=by
 unfold aN;simp only;repeat' split
 ·exact h.took.bin.mono P2
 ·unfold ltuS;exact(h.took.aF.aF.two).mono P2
 ·exact h.took.div.mono P2
 ·exact h.took.memory.mono P2
 ·exact h.took.nL.mono P2
 ·unfold wL;exact(h.took.aF.aF.aH.aH.add).mono P2
 exact h.took.took.took.constant.mono P2
theorem nE:(aN s b m).blocks.length=m.blocks.length:=by
 unfold aN;simp only;repeat' split
 all_goals simp[Gz,ltuS,Hj,Bc,D8,wL,nD,dp,dt,mA,oF,lY]
end
def MS.yn (m:MS) (b:Nat) (t:cQ):MS:={ m with blocks:=m.blocks.set b { nth m.blocks b with term:=t } }
def cmpL:List Int:=[11,12,13]
def gM (s:List Int) (to:List Int) (b:Nat) (m:MS):cQ × MS:=
 if to.length=0 then
  if aE s m.at_ 8=0 then(⟨5,[],[],⟨IntKind.i32.wrap (aE s (m.at_+1) 200)⟩⟩,m.took.took)
  else if 1<aE s m.at_ 8 then(⟨4,[(aF s m.took b).1],[],⟨0⟩⟩,(aF s m.took b).2)
  else(⟨4,[],[],⟨0⟩⟩,m.took)
 else if to.length=1 then(⟨1,[],to,⟨0⟩⟩,m)
 else if to.length=2 then
  let r:=aF s m b
  if aE s r.2.at_ 2=0 then
   let w:=aF s r.2.took b
   (⟨2,[w.2.next],to,⟨0⟩⟩,w.2.aH.took.add b ⟨nth cmpL (aE s w.2.at_ 3).toNat,w.2.next,0,[r.1,w.1],⟨0⟩⟩)
  else(⟨2,[r.1],to,⟨0⟩⟩,r.2.took)
 else
  let r:=aF s m b
  let m2:=r.2.constant b 7
  (⟨3,[m2.next],to,⟨0⟩⟩,m2.two b 5 r.1 r.2.next)
def oK (s:List Int) (to:List Int) (b:Nat) (m:MS):MS:=(gM s to b m).2.yn b (gM s to b m).1
section
variable {s:List Int} {M:Nat} {vs:Value} {W0:View} {h:Heap} {o0:Own} {m:MS} {u:Value} {ds:List Int}
theorem Nz.de {po:OP} (n:Nz s M vs W0 h o0 m u ds) {k:Key} {e:TypeId} {B N i:Nat} {l:List Value} {ty t:TypeId} {us:List (Nat × Value)} {x y:Operand} {v:Value} {K:Value->Heap->Prop} (h3:3<=k.1) (hk:o0 k=bx e B (RawN.mk (n:=N) l)) (hi:i<=N) (hsz:cK Pz t=Pt 1) (hx:asg us x = Pw (Pt ⟨B,i,Pu⟩)) (hy:asg us y=v) (hv:v.oneCell'=Px)
  (hK : ∀h',Nz s M vs W0 h' (o0.upd k (bx e B (RawN.mk (n:=N) (l.set i v)))) m u ds->K undef h'):@Lft.step po Pz (.store t x y) ty us h K:=by
 obtain⟨W,o,g1,w,f,sl⟩:=n;refine w.own.de (k:=k) (n:=N) (i:=i) (e:=e) (B:=B) (l:=l) ((f k h3).trans hk) hi hsz hx hy hv λh' w' _=>hK h' ?_;obtain⟨vb,vl,lb,bb⟩:=w.box;refine⟨W,_,g1,⟨w',w.src,vb,vl,lb,bb.frame λq hq=>Own.ay (by rintro rfl;omega)⟩,λq hq=>?_,sl⟩;unfold Own.upd;split
 ·rfl
 exact f q hq
theorem Nz.re(n:Nz s M vs W0 h o0 m u ds){o0':Own}(he : ∀k,o0' k=o0 k):Nz s M vs W0 h o0' m u ds:=by obtain⟨W,o,g1,w,f,sl⟩:=n;exact⟨W,o,g1,w,λk hk=>(f k hk).trans (he k).symm,sl⟩
theorem Mk.GC{po:OP}{W:View}{o:Own}(w:Mk s M vs W h o m)(bb:MkB M vs m o vb vl lb){t:cQ}{v:Value}{ty ty2:TypeId}{us:List (Nat × Value)}{x y:Operand}{K:Value->Heap->Prop}(hb:b<m.blocks.length)(hsz:cK Pz ty2=Pt 4)(hx:asg us x = Pw (Pt (((slA vb).add (b*6)).add 2)))(hy:asg us y=v)(hr:Rd W v t)(hK : ∀h' o',Mk s M vs W h' o' (m.yn b t)->(∀k:Key,3<=k.1->o' k=o k)->K undef h'):@Lft.step po Pz (.store ty2 x y) ty us h K:=by
 have hbl:b<lb.length:=by rw[bb.len];exact hb
 refine w.own.px (k:=(0,2)) (α:=BlkM) BlkM.nA (v:=vb) (l:=lb) (i:=b) (d:=t) bb.blk hsz hx hy hbl hr λh7 w7 _=>?_;refine hK h7 _ ⟨w7,w.src,vb,vl,_,bb.fJ hb (x':={ nth m.blocks b with term:=t }) (y':={ lb[b]with term:=t }) rfl Own.aj ?_ ?_ λq h1 _ _=>Own.ay h1⟩ (mM P4)
 ·rw[Own.ay Sa,bb.phis b hb,aA hbl]
 rw[Own.ay Sa,bb.ins b hb,aA hbl]
end
theorem CS{H:View}{va vt:Value}{a t:List Int}{kd:Int}{imm:I32}(h3:SlRd H va a)(h4:SlRd H vt t)(h5:I64 kd)(h6:-2147483648<=imm.v/\imm.v<=2147483647):Rd H (.agg #[Pp Pq kd,va,vt,Pp Ps imm.v]) (cQ.mk kd a t imm):=
 ⟨_,rfl,[Pp Pq kd],_,rfl,⟨rfl,h5⟩,[va],_,rfl,⟨va,rfl,h3⟩,[vt],_,rfl,⟨vt,rfl,h4⟩,rfl,h6⟩
theorem Ff: ∀x∈cmpL,I64 x:=by
 intro x hx;have : ∀x∈cmpL,0<=x/\x<=13:=by decide
 have:=this x hx;exact P6
theorem Js{s:List Int}{M:Nat}{W0:View}{h:Heap}{o0:Own}{m:MS}{vt:Value}{to:List Int}(n:Nx s M vs W0 h o0 m){c:Nat}(hb:b<m.blocks.length)(hm:m.ok c)(hc:c<=800000)(hfree:o0 (9,1)=Pu)(ht:SlRd W0 vt to):
  az Pz 56 #[Pw (Pt ⟨M,0,Pu⟩),Pp Pq b,vt] h (λv h'=>Nx s M vs W0 h' o0 (oK s to b m)):=by
 refine aq (args:=[Pw (Pt ⟨M,0,Pu⟩),Pp Pq b,vt]) follows Tryz.func56 E.iG Pj λK hK=>?_;dsimp only[L.iG,lkF,lkG];have hmm:oK s to b m=_:=oK.eq_1 s to b m;have htm:gM s to b m=_:=gM.eq_1 s to b m;obtain⟨Wb,ob,gb,wb,fb⟩:=n;refine ab λz hz=>?_;simp;refine aw (z:=.agg #[Pp Pq 0,Pv Pu 0 0,Pv Pu 0 0,Pp Ps 0]) (places:=[(0,1),(1,1),(2,1),(3,1)]) (vs:=[]) (cs:=#[Pp Pq 0,Pv Pu 0 0,Pv Pu 0 0,Pp Ps 0]) P1 P1 Sa P1 ?_;refine wb.own.dD (k:=(9,1)) (n:=3) (l:=[Pp Pq 0,Pv Pu 0 0,Pv Pu 0 0,Pp Ps 0]) ((fb _ P4).trans hfree) (z:=.agg #[Pp Pq 0,Pv Pu 0 0,Pv Pu 0 0,Pp Ps 0]) P1 rfl P1 rfl P4 P7 P5 P5 λh1 q1 w1=>?_;generalize h.size=B at w1;obtain⟨o1,ho1⟩ : ∃o1,o1=ob.upd (9,1) (bx T.iA B (RawN.mk (n:=3) [Pp Pq 0,Pv Pu 0 0,Pv Pu 0 0,Pp Ps 0])):=⟨_,rfl⟩;have k1:o1 (9,1)=bx T.iA B (RawN.mk (n:=3) [Pp Pq 0,Pv Pu 0 0,Pv Pu 0 0,Pp Ps 0]):=by rw[ho1,Own.aj]
 have ht:=ht.mono gb;have n:Nz s M vs Wb h1 o1 m (Pv Pu 0 0) []:=by obtain⟨vb,vl,lb,bb⟩:=wb.box;rw[ho1];exact⟨Wb,_,View.le_refl _,⟨w1,wb.src,vb,vl,lb,bb.frame λq hq=>Own.ay (by rintro rfl;simp at hq)⟩,λ_ _=>rfl,aJ⟩
 have back : ∀{h':Heap} {W':View} {o':Own} {m':MS} {i:Option Lft.Item},Wb.le W'->Mk s M vs W' h' o' m'->(∀k:Key,3<=k.1->o' k=o1.upd (9,1) i k)->Nx s M vs W0 h' o0 m':=by
  intro h' W' o' m' i g w f;refine⟨W',o'.upd (9,1) Pu,Pn gb g,⟨w.own.sub λq j hq=>?_,w.src,?_⟩,λk hk=>?_⟩
  ·unfold Own.upd at hq;split at hq
   ·cases hq
   exact hq
  ·obtain⟨vb,vl,lb,bb⟩:=w.box;exact⟨vb,vl,lb,bb.frame λq hq=>Own.ay (by rintro rfl;simp at hq)⟩
  by_cases e:k=(9,1)
  ·rw[e,Own.aj,hfree]
  rw[Own.ay e,f k hk,Own.ay e,ho1,Own.ay e,fb k hk]
 clear wb w1 q1;subst hz;refine ab λz hz=>?_;have fin : ∀(kd:Int) (va vt':Value) (args to':List Int) (im:Int) (m2:MS) (h':Heap) (ρ:Env),gM s to b m=(⟨kd,args,to',⟨im⟩⟩,m2)->I64 kd->(-2147483648<=im/\im<=2147483647)->b<m2.blocks.length->Nz s M vs Wb h' (o1.upd (9,1) (bx T.iA B (RawN.mk (n:=3) [Pp Pq kd,va,vt',Pp Ps im]))) m2 va args->SlRd Wb vt' to'->Lft.look ρ 0=Pt (Pw (Pt ⟨M,0,Pu⟩))->Lft.look ρ 1=Pt (Pp Pq b)->Lft.look ρ 6=Pt (Pw (Pt ⟨B,0,Pu⟩))->LC.wp Pz z (dF [] K) ρ h':=by
  intro kd va vt' args to' im m2 h' ρ e ikd iim hb n ht' r0 r1 r6;subst hz;rw[e]at hmm;obtain⟨W,o,g1,w,f,sl⟩:=n;obtain⟨vb,vl,lb,bb⟩:=w.box;have hk:o (9,1)=bx T.iA B (RawN.mk (n:=3) [Pp Pq kd,va,vt',Pp Ps im]):=(f _ P4).trans Own.aj;have c4:=w.own.v7 (k:=(9,1)) (n:=3) hk;have c4:Un.ev (vw h') (.bO 4) (Pw (Pt ⟨B,0,Pu⟩))=Pt (.agg #[Pp Pq kd,va,vt',Pp Ps im]):=c4;have c3:ak (vw h') ⟨M,3,Pu⟩=Pt vb:=bb.cell w.own (i:=3) P4;have hbl:b<lb.length:=by rw[bb.len];exact hb
  have sb:=w.own.now bb.blk;have sbb:=sb.bound;refine aR (vw h') Pl ?_;simp(disch:=omega)[r0,r1,r6,c3,c4,sb.idxn (N:=6) rfl];refine w.GC bb (b:=b) (t:=⟨kd,args,to',⟨im⟩⟩) hb P1 rfl rfl (CS (imm:=⟨im⟩) sl (ht'.mono g1) ikd iim) λh2 o2 w2 f2=>?_;refine hK _ _ ?_;rw[hmm];exact back g1 w2 λk hk=>(f2 k hk).trans (f k hk)
 have hlen : ∀{Q:View},Un.ev Q .len vt=Pt (Pp Pq to.length):=fun{Q}=>ht.len;refine ab λy hy=>?_;simp[hlen];subst hy;simp only[aI];refine ab λy hy=>?_;simp;subst hy;by_cases c0:to.length=0
 ·have c0':to=[]:=LF c0;rw[if_pos c0]at htm;refine aT (by simp[c0,c0']) ?_;refine ab λy hy=>?_;simp;refine n.de (k:=(9,1)) (i:=0) P4 k1 P4 P1 rfl rfl rfl λh2 n=>?_;subst hy;refine ab λy hy=>?_;simp;refine af P1 (ef n hm P2 (k:=8) P4 P4) ?_;rintro _ h3 ⟨rfl,n⟩;obtain⟨t0,t1⟩:=cG (s:=s) (at_:=m.at_) (n:=8) P4;subst hy;refine ab λy hy=>?_;simp;subst hy;have n:Nz s M vs Wb h3 (o1.upd (9,1) (bx T.iA B (RawN.mk (n:=3) [Pp Pq 4,Pv Pu 0 0,Pv Pu 0 0,Pp Ps 0]))) m.took (Pv Pu 0 0) []:=n;by_cases c1:aE s m.at_ 8=0
  ·rw[if_pos c1]at htm;refine aT (by simp[c1]) ?_;refine ab λy hy=>?_;simp;refine n.de (k:=(9,1)) (i:=0) P4 Own.aj P4 P1 rfl rfl rfl λh4 n=>?_;subst hy;simp;refine af P1 (ef n hm.took P2 (k:=200) P4 P4) ?_;rintro _ h5 ⟨rfl,n⟩;have hx:m.took.at_=m.at_+1:=rfl;rw[hx];simp;refine n.de (k:=(9,1)) (i:=3) P4 Own.aj P4 P1 rfl rfl rfl λh6 n=>?_;refine fin 5 (Pv Pu 0 0) (Pv Pu 0 0) [] [] _ _ h6 _ htm i64c mc hb ?_ aJ ?_ ?_ ?_
   ·exact n.re λk=>by rw[eg,eg];rfl
   all_goals simp
  rw[if_neg c1]at htm;refine aU (by simp[c1]) ?_;refine ab λy hy=>?_;simp;subst hy;by_cases c2:1<aE s m.at_ 8
  ·rw[if_pos c2]at htm;refine aT (by simp[c2]) ?_;simp;refine af P1 (ia n (b:=b) hb hm.took P2) ?_;rintro _ h4 ⟨⟨rfl,i4⟩,n⟩;have hb2:b<(aF s m.took b).2.blocks.length:=by rw[dt];exact hb
   generalize aF s m.took b=r at htm i4 n hb2;refine n.lit (ls:=[r.1]) Sa (by simp[i4]) rfl P4 λua un uc h5 _ n=>?_;refine n.de (k:=(9,1)) (i:=1) P4 Own.aj P4 P1 rfl rfl rfl λh6 n=>?_;refine fin 4 (.slice ua un uc) (Pv Pu 0 0) [r.1] [] 0 _ h6 _ htm i64c P4 hb2 (n.re λk=>by rw[eg];rfl) aJ ?_ ?_ ?_;all_goals simp
  rw[if_neg c2]at htm;refine aU (by simp[c2]) ?_;simp;refine fin 4 (Pv Pu 0 0) (Pv Pu 0 0) [] [] 0 _ h3 _ htm i64c P4 hb n aJ ?_ ?_ ?_;all_goals simp
 rw[if_neg c0]at htm;have c0':¬to=[]:=λe=>c0 (by rw[e];rfl);have hvt:vt.oneCell'=true:=ht.cells.2;refine aU (by simp[c0']) ?_;refine ab λy hy=>?_;simp;subst hy;by_cases c1:to.length=1
 ·rw[if_pos c1]at htm;refine aT (by simp[c1]) ?_;refine ab λy hy=>?_;simp;refine n.de (k:=(9,1)) (i:=0) P4 k1 P4 P1 rfl rfl rfl λh2 n=>?_;subst hy;simp;refine n.de (k:=(9,1)) (i:=2) P4 Own.aj P4 P1 rfl rfl hvt λh3 n=>?_;refine fin 1 (Pv Pu 0 0) vt [] to 0 _ h3 _ htm i64c P4 hb (n.re λk=>by rw[eg];rfl) ht ?_ ?_ ?_;all_goals simp
 rw[if_neg c1]at htm;refine aU P9 ?_;refine ab λy hy=>?_;simp;subst hy;by_cases c2:to.length=2
 ·rw[if_pos c2]at htm;refine aT (by simp[c2]) ?_;refine ab λy hy=>?_;simp;refine n.de (k:=(9,1)) (i:=0) P4 k1 P4 P1 rfl rfl rfl λh2 n=>?_;subst hy;refine ab λy hy=>?_;simp;refine n.de (k:=(9,1)) (i:=2) P4 Own.aj P4 P1 rfl rfl hvt λh3 n=>?_;have n:Nz s M vs Wb h3 (o1.upd (9,1) (bx T.iA B (RawN.mk (n:=3) [Pp Pq 2,Pv Pu 0 0,vt,Pp Ps 0]))) m (Pv Pu 0 0) []:=n.re λk=>by rw[eg];rfl
  subst hy;refine ab λy hy=>?_;simp;refine af P1 (ia n (b:=b) hb hm P2) ?_;rintro _ h4 ⟨⟨rfl,i4⟩,n⟩;have q:=hm.aF (s:=s) (b:=b);have hb2:b<(aF s m b).2.blocks.length:=by rw[dt];exact hb
  simp only at htm;generalize aF s m b=r at htm i4 n hb2 q;subst hy;refine ab λy hy=>?_;have fin2 : ∀(v:Int) (m3:MS) (h':Heap) (ρ:Env) (u:Value) (ds:List Int),gM s to b m=(⟨2,[v],to,⟨0⟩⟩,m3)->I64 v->b<m3.blocks.length->Nz s M vs Wb h' (o1.upd (9,1) (bx T.iA B (RawN.mk (n:=3) [Pp Pq 2,Pv Pu 0 0,vt,Pp Ps 0]))) m3 u ds->Lft.look ρ 0=Pt (Pw (Pt ⟨M,0,Pu⟩))->Lft.look ρ 1=Pt (Pp Pq b)->Lft.look ρ 6=Pt (Pw (Pt ⟨B,0,Pu⟩))->Lft.look ρ 8=Pt (Pp Pq v)->LC.wp Pz y (eE 0 (fg (LC.wp Pz z (dF [] K)) (dF [] K))) ρ h':=by intro v m3 h' ρ u ds e iv hb n r0 r1 r6 r8;subst hy;simp[ag,ah,r0,r1,r6,r8];refine n.lit (ls:=[v]) Sa (by simp[iv]) rfl P4 λua un uc h5 _ n=>?_;refine n.de (k:=(9,1)) (i:=1) P4 Own.aj P4 P1 rfl rfl rfl λh6 n=>?_;refine fin 2 (.slice ua un uc) vt [v] to 0 _ h6 _ e i64c P4 hb (n.re λk=>by rw[eg];rfl) ht ?_ ?_ ?_;all_goals simp[ag,ah,r0,r1,r6,r8]
  refine ab λx hx=>?_;simp;refine af P1 (ef n q P2 (k:=2) P4 P4) ?_;rintro _ h5 ⟨rfl,n⟩;simp;subst hx;by_cases c3:aE s r.2.at_ 2=0
  ·rw[if_pos c3]at htm;refine aT (by simp[c3]) ?_;refine ab λx hx=>?_;simp;refine aw (z:=.agg #[Pp Pq 0,Pp Pq 0,Pp Pq 0]) (places:=[(0,1),(1,1),(2,1)]) (vs:=[(0,Pp Pq 11),(1,Pp Pq 12),(2,Pp Pq 13)]) (cs:=#[Pp Pq 11,Pp Pq 12,Pp Pq 13]) P1 P1 Sa P1 ?_;refine fP (v:=.agg #[Pp Pq 11,Pp Pq 12,Pp Pq 13]) (z:=.agg #[Pp Pq 0,Pp Pq 0,Pp Pq 0]) (n:=3) P1 rfl P1 rfl P8 P5 P5 λh6 hle6 hs6 hb6=>?_;have n:Nz s M vs Wb h6 (o1.upd (9,1) (bx T.iA B (RawN.mk (n:=3) [Pp Pq 2,Pv Pu 0 0,vt,Pp Ps 0]))) r.2.took (Pv (Pt ⟨h5.size,0,Pu⟩) 3 3) cmpL:=by
    obtain⟨W,o,g1,g2,g3,g4⟩:=n;refine⟨_,o,Pn g1 (bU g2.own.wle),⟨g2.own.ext hle6,g2.src.mono (bU g2.own.wle),g2.box⟩,g3,?_⟩;have hg:grow W h5 h6 h5.size=Pt (.cells (cmpL.map λx=>Pp Pq x).toArray T.IS (0,0)):=by rw[cR (Lp _),hb6];rfl
    exact FE hg rfl P4 Ff
   generalize h5.size=C at n;subst hx;refine ab λx hx=>?_;simp;refine af P1 (ia n (b:=b) hb2 q.took P2) ?_;rintro _ h7 ⟨⟨rfl,i7⟩,n⟩;have q:=q.took.aF (s:=s) (b:=b);have hb3:b<(aF s r.2.took b).2.blocks.length:=by rw[dt];exact hb2
   generalize aF s r.2.took b=w at htm i7 n hb3 q;subst hx;refine ab λx hx=>?_;simp;refine af P1 (fW n q P2) ?_;rintro _ h8 ⟨rfl,n⟩;have iw:=q.js P2;subst hx;refine ab λx hx=>?_;simp;refine af P1 (ef n q.aH P2 (k:=3) P4 P4) ?_;rintro _ h9 ⟨rfl,n⟩;have hfx:w.2.aH.at_=w.2.at_:=rfl;rw[hfx];obtain⟨t0,t1⟩:=cG (s:=s) (at_:=w.2.at_) (n:=3) P4;generalize aE s w.2.at_ 3=k at htm t0 t1;obtain⟨kn,rfl⟩ : ∃kn:Nat,k=kn:=⟨k.toNat,by omega⟩;rw[show((kn:Int)).toNat=kn by omega]at htm;obtain⟨iop,hop⟩:I64 (nth cmpL kn)/\ak (vw h9) ⟨C,kn,Pu⟩=Pt (Pp Pq (nth cmpL kn)):=by obtain⟨W,o,g1,g2,g3,g4⟩:=n;refine⟨g4.range (i:=kn) (by show kn<3;omega),?_⟩;have:=g4.int g2.own.wle (i:=kn) (by show kn<3;omega);simpa[slA]using this
   have hix:Bn.ev (.aidx 3 1) (Pw (Pt ⟨C,0,Pu⟩)) (Pp Pq kn)=Pt (Pw (Pt ⟨C,kn,Pu⟩)):=by simp only[Bn.ev,vP,vI,LK];rw[if_pos P6];simp
   generalize nth cmpL kn=op at htm iop hop;simp[hix,hop];refine n.lit (ls:=[r.1,w.1]) Sa (by simp[i4,i7]) rfl P4 λua un uc h10 _ n=>?_;refine aw (z:=.agg #[Pp Pq 0,Pp Pq 0,Pp Pq 0,Pv Pu 0 0,Pp Ps 0]) (places:=[(0,1),(1,1),(2,1),(3,1),(4,1)]) (vs:=[(0,Pp Pq op),(1,Pp Pq w.2.next),(3,.slice ua un uc)]) (cs:=#[Pp Pq op,Pp Pq w.2.next,Pp Pq 0,.slice ua un uc,Pp Ps 0]) P1 P1 Sa P1 ?_;refine af P1 (ko n (b:=b) hb3 q.aH.took P2 iop iw i64c P4) ?_;rintro _ h11 n;subst hx;simp;refine fin2 w.2.next _ h11 _ _ _ htm iw (by rw[lY];exact hb3) n.z ?_ ?_ ?_ ?_;all_goals simp
  rw[if_neg c3]at htm;refine aU (by simp[c3]) ?_;simp;refine fin2 r.1 _ h5 _ _ _ htm i4 hb2 n ?_ ?_ ?_ ?_;all_goals simp
 rw[if_neg c2]at htm;refine aU P9 ?_;refine ab λy hy=>?_;simp;refine n.de (k:=(9,1)) (i:=0) P4 k1 P4 P1 rfl rfl rfl λh2 n=>?_;subst hy;refine ab λy hy=>?_;simp;refine n.de (k:=(9,1)) (i:=2) P4 Own.aj P4 P1 rfl rfl hvt λh3 n=>?_;have n:Nz s M vs Wb h3 (o1.upd (9,1) (bx T.iA B (RawN.mk (n:=3) [Pp Pq 3,Pv Pu 0 0,vt,Pp Ps 0]))) m (Pv Pu 0 0) []:=n.re λk=>by rw[eg];rfl
 subst hy;refine ab λy hy=>?_;simp;refine af P1 (ia n (b:=b) hb hm P2) ?_;rintro _ h4 ⟨⟨rfl,i4⟩,n⟩;have q:=hm.aF (s:=s) (b:=b);have hb2:b<(aF s m b).2.blocks.length:=by rw[dt];exact hb
 simp only at htm;generalize aF s m b=r at htm i4 n hb2 q;subst hy;refine ab λy hy=>?_;simp;refine af P1 (fE n (b:=b) hb2 q P2 (k:=7) P4) ?_;rintro _ h5 ⟨rfl,n⟩;have i5:=q.js P2;have q5:=q.constant (b:=b) (n:=7);have hb3:b<(r.2.constant b 7).blocks.length:=by rw[dp];exact hb2
 generalize r.2.constant b 7=m2 at htm n q5 hb3;generalize r.2.next=d at htm i5;subst hy;refine ab λy hy=>?_;simp;refine af P1 (fW n q5 P2) ?_;rintro _ h6 ⟨rfl,n⟩;have i6:=q5.js P2;subst hy;refine ab λy hy=>?_;simp;refine n.lit (ls:=[r.1,d]) Sa (by simp[i4,i5]) rfl P4 λua un uc h7 _ n=>?_;refine aw (z:=.agg #[Pp Pq 0,Pp Pq 0,Pp Pq 0,Pv Pu 0 0,Pp Ps 0]) (places:=[(0,1),(1,1),(2,1),(3,1),(4,1)]) (vs:=[(0,Pp Pq 5),(1,Pp Pq m2.next),(3,.slice ua un uc)]) (cs:=#[Pp Pq 5,Pp Pq m2.next,Pp Pq 0,.slice ua un uc,Pp Ps 0]) P1 P1 Sa P1 ?_;refine af P1 (ko n (b:=b) hb3 q5.aH P2 i64c i6 i64c P4) ?_;rintro _ h8 n;have n:=n.z;subst hy;simp;refine n.lit (ls:=[m2.next]) Sa (by simp[i6]) rfl P4 λua un uc h9 _ n=>?_;refine n.de (k:=(9,1)) (i:=1) P4 Own.aj P4 P1 rfl rfl rfl λh10 n=>?_;refine fin 3 (.slice ua un uc) vt [m2.next] to 0 _ h10 _ htm i64c P4 (show b<(m2.two b 5 r.1 d).blocks.length by rw[nD];exact hb3) (n.re λk=>by rw[eg];rfl) ht ?_ ?_ ?_;all_goals simp
end Go.Proofs.YtnfiilgdjpdlkaaGreatDoor
