/- A part of the proof: Ox, Oy, Oz, Qa, Qb, Qc, LftDg, Qd, Qe, Qf, Qk, Ri, Rj, Tf, Ql, LftTs, Qm. -/
import Derived.Test.YtnfiilgdjpdlkaaGreatDoorZTMat7
set_option linter.unusedSimpArgs false
set_option linter.unusedVariables false
open Go.Value renaming int->Sb,slice->Sg,pointer->Si
open Go.IntKind renaming i64->Sc,i32->Sd
open Option renaming some->Se,none->Sf
open Bool renaming true->Sj,false->Sk
open Go.Proofs.Tryz renaming prog->Sn
namespace Go.Lft
open Go
section
variable {po po2:OP} {V W:View} {h0 h h':Heap} {o:Own} {k:Key} {P:Program} {ty:TypeId} {us:List (Nat × Value)}
theorem Cx.ID {α:Type} [Rep α] {t:TypeId} {x:Operand} {v:Value} {d:α} {K:Value->Heap->Prop} (c:Cx V h0 W h o) (hk:o k=Sf) (hx:asg us x=v) (hv:Rd W v d) (hn:Rep.n α<=1000)
  (hK : ∀B h',(vw h).le (vw h')->Cx V h0 W h' (o.upd k (bx t B d))->K (Si (Se ⟨B,0,Sf⟩)) h'):@step po P (.box t x) ty us h K:=by
 refine _root_.Go.Lft.cr hx ?_;have q1:=bC h (.cells v.cells t);have b2:(h.push (.cells v.cells t))[h.size]? = Se (.cells v.cells t (0,0)):=by simp
 generalize h.push (.cells v.cells t)=h2 at q1 b2;refine hK _ _ q1 ⟨c.own.add hk (fe b2 hv hn) q1 λb hb=>by simp only[Value.ownBlock,N7]at hb;omega,c.old,S3 c.le0 q1,λj i b hj hb=>?_⟩;by_cases e:j=k
 ·subst e;rw[Own.ah]at hj;cases hj;cases hb;exact cD c.le0
 rw[Own.ak e]at hj;exact c.new j i b hj hb
theorem Cx.cA {α β:Type} [Rep α] [Rep β] {off:Nat} {g:α->β} {s:α->β->α} (p:Part α β off g s) {e t:TypeId} {x y:Operand} {B:Nat} {D:α} {u:Value} {d:β} {K:Value->Heap->Prop} (c:Cx V h0 W h o) (hk:o k=bx e B D) (hsz:cH P t=Se (Rep.n β)) (hx:asg us x = Si (Se ⟨B,off,.none⟩)) (hy:asg us y=u) (hr:Rd W u d)
  (hK : ∀h',Cx V h0 W h' (o.upd k (bx e B (s D d)))->K undef h'):@step po P (.store t x y) ty us h K:=
 c.own.oZ p hk hsz hx hy hr λh2 w hX=>hK _ ⟨w,c.old,hX _ c.le0 (View.cS S2 (c.new k _ B hk rfl)),λj i b hj hb=>by
  by_cases e:j=k
  ·subst e;rw[Own.ah]at hj;cases hj;exact c.new _ _ b hk hb
  rw[Own.ak e]at hj;exact c.new j i b hj hb⟩
theorem Cx.IU {α:Type} [Rep α] {e:TypeId} {B:Nat} {d:α} (c:Cx V h0 W h o) (hk:o k=bx e B d) (ha:Rep.agg α=Sj) {N:Nat} (hN:Rep.n α=N) : ∃u,Un.ev (vw h) (.aT N) (Si (Se ⟨B,0,Sf⟩))=Se u/\Rd W u d:=by
 subst hN;obtain⟨cs,hcs,hr⟩:=c.own.atW hk;have h1:=Rep.len hr;have:=fG hcs (Rep.n α) 0 #[] R3;refine⟨.agg cs.toArray,?_,?_⟩
 ·simp only[Un.ev,vP,OT];rw[this];simp[<-h1]
 unfold Rd;rw[if_pos ha];exact⟨_,rfl,by simpa using hr⟩
theorem Cx.M6 {α:Type} [Rep α] {e:TypeId} {B:Nat} {d:α} (c:Cx V h0 W h o) (hk:o k=bx e B d):At (vw h) ⟨B,0,Sf⟩ d:=c.own.at hk
end
end Go.Lft
namespace Go.Proofs.YtnfiilgdjpdlkaaGreatDoor
open Go Go.Lft
section
variable {V:View} {h:Heap} {S I O P Q LL TT:Nat} {s:cy} {op plain sum:Int}
abbrev wF:List Value:=[Sb Sc 0,Sb Sc 0,Sb Sc 0,Sb Sc 0,Sb Sc 0,Sb Sc 0,Sb Sd 0,Sg Sf 0 0]
theorem xj {W:View} {m:aH} {vm:Value} (mx:Mx V S I O P Q LL TT s op plain sum) (hV:V.le W) (hW:W.le (vw h)) (hm:Rd W vm m) (ho:op=15\/2<=s.i.args.length) :
  aA Sn 130 #[vm,ptr O,ptr I,ptr P] h (λu h'=>(vw h).le (vw h')/\Rd (grow W h h') u (gg s.i op plain m)):=by
 refine au (args:=[vm,ptr O,ptr I,ptr P]) follows Tryz.func130 E.gY S0 λK hK=>?_;dsimp only[L.gY,lkF,lkG];have c0:=Cx.start hW;refine aa λz hz=>?_;simp;refine c0.ID (k:=(0,1)) rfl rfl hm R4 λM h1 hle1 c1=>?_;refine c1.bW (k:=(0,0)) (n:=7) (z:=.agg wF.toArray) RZ R1 rfl R4 R8 λR h2 hle2 c2=>?_;subst hz;have hk1:(Own.upd (Own.upd (λ_=>Sf) (0,1) (bx T.cW M m)) (0,0) (bx T.cW R (RawN.mk (n:=7) (Value.agg wF.toArray).cells.toList))) (0,1)=bx T.cW M m:=rfl;have vh:V.le (vw h2):=S3 hV c2.wle;have e1:=ae vh mx.op;have e2:=ae vh mx.plain;have i1:=(mx.ct.ins.part InsD.iq);have r1:=i1.rng;have i1:ao (vw h2) ⟨I,1,Sf⟩=Se (Sb Sc s.i.dst):=ae vh (by simpa using i1.int);obtain⟨va,i3,hva⟩:=(mx.ct.ins.part InsD.eW).sl;have i3:ao (vw h2) ⟨I,3,Sf⟩=Se va:=ae vh (by simpa using i3);refine aa λz hz=>?_;have fin : ∀(h3:Heap) (m3:aH),Cx W h W h3 (Own.upd (Own.upd (Own.upd (λ_=>Sf) (0,1) (bx T.cW M m)) (0,0) (bx T.cW R (RawN.mk (n:=7) (Value.agg wF.toArray).cells.toList))) (0,1) (bx T.cW M m3))->gg s.i op plain m=m3->∀ρ:Env,Lft.look ρ 4=Se (ptr M)->Lft.look ρ 5=Se (ptr R)->LC.wp Sn z (cz [.un (.aT 8) (.tmp 5)] K) ρ h3:=λh3 m3 c3 he ρ h4 h5=>by rw[hz];refine aa λy hy=>?_;obtain⟨u,hu,ru⟩:=c3.IU (k:=(0,1)) (e:=T.cW) (B:=M) (d:=m3) rfl rfl (N:=8) rfl;simp[h4,h5,hu];refine c3.aK (α:=aH) (k:=(0,0)) (n:=7) RZ ru rfl rfl R1 Sa Sa λh6 l6 hl6 c6=>?_;rw[hy];have hall:=c6.all (k:=(0,0)) (n:=7) (l:=l6) (B:=R) (e:=T.cW) RZ;simp at hall;simp[hall,af,ag,h5];refine hK _ _ ⟨c6.le0,?_⟩;rw[he,<-hl6];exact ru.mono c6.fin
 by_cases h15:op=15
 ·simp[e1,h15,i1];refine c2.cA (k:=(0,1)) (α:=aH) aH.Nv (D:=m) (d:=s.i.dst) hk1 R1 Sa Sa (aX.2 ⟨rfl,r1⟩) λh3 c3=>?_;exact fin _ _ c3 (by unfold gg;rw[if_pos h15]) _ Sa Sa
 have ha:2<=s.i.args.length:=by omega
 have q1:=hva.idx1 (k:=.i64) (i:=1) rfl R4 R3;have d1:=ae vh (hva.int (View.le_refl V) (i:=1) R3);have ar:=hva.rng (i:=1) R3;have m0:=ae S2 (((c2.M6 hk1).part aH.sU)).int;simp at m0 q1 d1;by_cases hp:m.op=plain
 ·simp[e1,h15,e2,m0,hp,i3,q1,d1];refine c2.cA (k:=(0,1)) (α:=aH) aH.Ms (D:=m) (d:=nth s.i.args 1) hk1 R1 Sa Sa (aX.2 ⟨rfl,ar⟩) λh3 c3=>?_;exact fin _ _ c3 (by unfold gg;rw[if_neg h15,if_pos hp]) _ Sa Sa
 simp[e1,h15,e2,m0,hp,i3,q1,d1];refine c2.cA (k:=(0,1)) (α:=aH) aH.NA (D:=m) (d:=nth s.i.args 1) hk1 R1 Sa Sa (aX.2 ⟨rfl,ar⟩) λh3 c3=>?_;exact fin _ _ c3 (by unfold gg;rw[if_neg h15,if_neg hp]) _ Sa Sa
end
end Go.Proofs.YtnfiilgdjpdlkaaGreatDoor
namespace Go.Lft
open Go
theorem FQ {W:View} {h:Heap} {e:TypeId} {B n:Nat} {l:List Int} (hb:h[B]? = Se (.cells (l.map λc=>Sb Sc c).toArray e (0,0))) (hr : ∀x∈l,-9223372036854775808<=x/\x<=9223372036854775807) (hn:l.length=n) (h2:n<=1000000) :
  OwnT W h e (Sg (Se ⟨B,0,.none⟩) n n) l:=by
 subst hn;refine⟨by omega,l.map λc=>Sb Sc c,⟨by simp[Rep.n],.inr ⟨B,l.length,_,rfl,hb,N8 _,by simp[maxLen];omega,by simp[Rep.n],?_⟩⟩,λi hi=>?_⟩
 ·rw[OK (by simp[Rep.n])]
 show(List.take 1 (List.drop (i*1) (l.map λc=>Sb Sc c))=[Sb Sc l[i]])/\_;rw[Pn];refine⟨?_,hr _ (O5 hi)⟩;rw[O4 (by simpa using hi)];simp
theorem y8 : ∀{l:List Int},(l.map λc=>Sb Sc c).flatMap (λv=>v.cells.toList)=l.map λc=>Sb Sc c
 | []=>rfl
 | x::l=>by rw[PX,QM,y8];rfl
section
variable {po po2:OP} {V W:View} {h0 h h':Heap} {o:Own} {k:Key} {P:Program} {ty:TypeId} {us:List (Nat × Value)}
theorem Cx.jO {t e n:Nat} {bytes:Nat} {z:Value} {ps:Array (Nat × Operand)} {l:List Int} {K:Value->Heap->Prop} (c:Cx V h0 W h o) (hk:o k=Sf) (hT:fA P t e 1 bytes z)
  (hp:ps.map (λp=>(p.1,asg us p.2))=(((l.map λc=>Sb Sc c).zipIdx 0).map λp=>(p.2,p.1)).toArray) (hr : ∀x∈l,-9223372036854775808<=x/\x<=9223372036854775807) (hn:l.length=n) (h2:n<=1000)
  (hK : ∀u h',(vw h).le (vw h')->Cx V h0 W h' (o.upd k (it e u l))->K u h'):@step po P (.buildSlice t n ps) ty us h K:=by
 obtain⟨B,h1,hB⟩:=og (s:=1) (l.map λc=>Sb Sc c) 0 ((Array.range (n*1)).map (z.cells[· % z.cells.size]!)) (λv hv=>by obtain⟨c,_,rfl⟩:=PN.1 hv;rfl) R9;have hB:B=(l.map λc=>Sb Sc c).toArray:=by rw[<-Array.toList_inj,hB];simp only[PY,QC,OZ,y8]
 subst hB;refine rQ (size:=1) hT R3 hp h1 ?_;have q1:=bC h (.cells (l.map λc=>Sb Sc c).toArray e);have b2:(h.push (.cells (l.map λc=>Sb Sc c).toArray e))[h.size]? = Se (.cells (l.map λc=>Sb Sc c).toArray e (0,0)):=by simp
 generalize h.push (.cells (l.map λc=>Sb Sc c).toArray e)=h3 at q1 b2;refine hK _ _ q1 ⟨c.own.add hk (FQ b2 hr hn R3) q1 λb hb=>by simp only[Value.ownBlock,N7]at hb;omega,c.old,S3 c.le0 q1,λj i b hj hb=>?_⟩;by_cases e:j=k
 ·subst e;rw[Own.ah]at hj;cases hj;cases hb;exact cD c.le0
 rw[Own.ak e]at hj;exact c.new j i b hj hb
theorem Cx.iu {α:Type} [Rep α] {e e2:TypeId} {v v':Value} {l l':List α} (c:Cx V h0 W h o) (hk:o k=it e v l) (o2:OwnT W h' e2 v' l') (m:lV h h' v v'):Cx V h0 W h' (o.upd k (it e2 v' l')):=by
 refine⟨c.own.iu hk o2 m,c.old,?_,λj i b hj hb=>?_⟩
 ·exact m.kept.view c.le0 λb hb=>View.cS S2 (c.new k _ b hk hb)
 by_cases e:j=k
 ·subst e;rw[Own.ah]at hj;cases hj;rcases m.at_ with q | q
  ·exact c.new _ _ b hk (q▸hb)
  have hb:v'.ownBlock=Se b:=hb;rw[q]at hb;cases hb;exact cD c.le0
 rw[Own.ak e]at hj;exact c.new j i b hj hb
theorem Cx.freeze {α:Type} [Rep α] {e:TypeId} {v:Value} {l:List α} (c:Cx V h0 W h o) (hk:o k=it e v l) : ∃W',W.le W'/\Cx V h0 W' h (o.upd k Sf)/\SlRd W' v l:=by
 obtain⟨w1,s1⟩:=c.own.freeze hk;refine⟨_,eH (c.own.av k _ hk),⟨w1,λb x hb hx=>?_,c.le0,λj i b hj hb=>?_⟩,s1⟩
 ·unfold View.plus at hx;split at hx
  ·rename_i e1;have:=c.new k _ b hk e1;omega
  exact c.old b x hb hx
 by_cases e:j=k
 ·subst e;rw[Own.ah]at hj;cases hj
 rw[Own.ak e]at hj;exact c.new j i b hj hb
end
end Go.Lft
namespace Go.Proofs.YtnfiilgdjpdlkaaGreatDoor
open Go Go.Lft
section
variable {V:View} {h:Heap} {S I O P Q LL TT:Nat} {s:cy} {op plain sum:Int}
theorem xd {W:View} {l:List Int} {vl:Value} (mx:Mx V S I O P Q LL TT s op plain sum) (hV:V.le W) (hW:W.le (vw h)) (ho:OwnT W h T.int vl l) (hl:l.length<=10) (h1:1<=s.i.args.length) (h2:s.i.args.length<=1000000) :
  aA Sn 131 #[vl,ptr I] h (λu h'=>OwnT W h' T.int u (l++s.i.args.drop 1)/\lV h h' vl u):=by refine au (args:=[vl,ptr I]) follows Tryz.func131 E.gU S0 λK hK=>?_;dsimp only[L.gU,lkF,lkG];obtain⟨va,i3,hva⟩:=(mx.ct.ins.part InsD.eW).sl;have i3:ao (vw h) ⟨I,3,Sf⟩=Se va:=ae (S3 hV hW) (by simpa using i3);obtain⟨u,hu,su⟩:=hva.drop (n:=1) h1 (kd:=.i64);have hu:Bn.ev (.lo 1) va (Sb Sc 1)=Se u:=hu;refine aa λz hz=>?_;simp;subst hz;refine aa λz hz=>?_;simp[i3,hu];refine bO (α:=Int) (e:=T.int) (l:=l) (l2:=s.i.args.drop 1) El.aP Sa Sa ho ((su.mono hV).src hW) R9 R9 λv2 h2 o2 mv=>?_;subst hz;simp;exact hK _ _ ⟨o2,mv⟩
end
end Go.Proofs.YtnfiilgdjpdlkaaGreatDoor
namespace Go.Proofs.YtnfiilgdjpdlkaaGreatDoor
open Go Go.Lft
section
variable {V:View} {h:Heap} {S I O P Q LL TT:Nat} {s:cy} {op plain sum:Int}
set_option maxHeartbeats 4000000 in
theorem Ji(mx:Mx V S I O P Q LL TT s op plain sum)(hV:V.le (vw h))(hok:nL s)(hop:s.i.op=op)(ho:op=15\/op=16)(hp0:0<=plain/\plain<=100):
    aA Sn 132 #[ptr LL,ptr P,ptr I,ptr TT] h (λu h'=>cj V h h' u (memS s.f s.i s.temp op plain sum 0)):=by
  refine au (args:=[ptr LL,ptr P,ptr I,ptr TT]) follows Tryz.func132 E.dL S0 λK hK=>?_
  dsimp only[L.dL,lkF,lkG]
  have c0:=Cx.start hV
  have l1:1<=s.i.args.length:=by
    rcases ho with q | q
    · exact hok.one.one (hop.trans q)
    · have:=hok.one.two (.inr (.inl (hop.trans q)));omega
  have l2:op=15\/2<=s.i.args.length:=ho.imp id λq=>hok.one.two (.inr (.inl (hop.trans q)))
  refine aa λz hz=>?_
  simp
  refine c0.bW (k:=(0,0)) (n:=7) (z:=.agg fitZ.toArray) rfl R1 rfl R4 R8 λR hb hleb cb=>?_
  subst hz
  have i4:=(mx.ct.ins.part InsD.gD)
  have r4:=i4.nK
  have i4:ao V ⟨I,4,Sf⟩=Se (Sb Sd s.i.imm.v):=by simpa using i4.i32
  obtain⟨va,i3,hva⟩:=(mx.ct.ins.part InsD.eW).sl
  have i3:ao V ⟨I,3,Sf⟩=Se va:=by simpa using i3
  have a0:=hva.rng (i:=0) R3
  have most:=hok.one.most
  have q0:=hva.idx1 (k:=.i64) (i:=0) rfl R4 R3
  have d0:=hva.int (View.le_refl V) (i:=0) R3
  simp at q0
  have eL:=mx.laid
  have eT:=mx.with_
  have eP:=mx.plain
  have hm : ∀X,Rd X (.agg #[Sb Sc plain,Sb Sc 0,Sb Sc 0,Sb Sc (nth s.i.args 0),Sb Sc 0,Sb Sc 0,Sb Sd s.i.imm.v,Sg Sf 0 0]) (⟨plain,0,0,nth s.i.args 0,0,0,s.i.imm,[]⟩:aH):=λX=>dY R9 r4 aF
  have ew:IntKind.i64.wrap s.i.imm.v=s.i.imm.v:=bj R3 R3
  have fin : ∀(W:View) (hx:Heap) (o:Own) (l9:List Value),Cx V h W hx o->Rd W (.agg l9.toArray) (⟨nth s.i.args 0::s.i.args.drop 1,[],[gg s.i op plain ⟨plain,0,0,nth s.i.args 0,0,0,s.i.imm,[]⟩],cC⟩:FitD)->K (.tuple #[.agg l9.toArray,.bool (inR (IntKind.i64.wrap s.i.imm.v) 0 255)]) hx:=λW hx o l9 c hr=>
    hK _ _ (cj.of c hr (by rw[ew];simp only[memS];split<;>simp_all) λy e=>by
      simp only[memS]at e
      split at e<;>cases e
      rfl)
  clear hK
  refine aa λz hz=>?_
  refine aI V cb.wle ?_
  have c:=cb
  have hWV:V.le V:=View.le_refl _
  repeat' (first
    | refine dT ?_ ?_
    | (refine ay λy hy=>?_
       simp[i3,i4,q0,d0,eL,eT,eP]
       first
       | refine an (t:=T.cW) (z:=.agg wF.toArray) (places:=[(0,1),(1,1),(2,1),(3,1),(4,1),(5,1),(6,1),(7,1)]) (vs:=[(0,Sb Sc plain),(3,Sb Sc (nth s.i.args 0)),(6,Sb Sd s.i.imm.v)]) (cs:=#[Sb Sc plain,Sb Sc 0,Sb Sc 0,Sb Sc (nth s.i.args 0),Sb Sc 0,Sb Sc 0,Sb Sd s.i.imm.v,Sg Sf 0 0]) R1 R1 Sa R1 ?_
       | (refine c.jO (k:=(0,2)) (n:=1) (l:=[nth s.i.args 0]) RZ El.aP ?_ ?_ rfl R4 λuA h hle c=>?_
          · simp;done
          · simp;omega)
       | refine c.bW (k:=(0,1)) (n:=7) (z:=.agg fitZ.toArray) RZ R1 rfl R4 R8 λR2 h hle c=>?_
       | (refine cg (ops:=[.tmp 17]) (caps:=#[ptr O,ptr I,ptr P]) rfl R1 (xj mx S1 c.wle (hm _) l2) ?_
          rintro um h ⟨hle,hum⟩
          have hW:=c.up (h':=h)
          have c:=c.ext hle)
       | (refine cg (ops:=[.tmp 24]) (caps:=#[ptr I]) rfl R1 (xd mx S1 c.wle (c.own.get (k:=(0,2)) (v:=uA) (l:=[nth s.i.args 0]) RZ) Sa l1 R3) ?_
          rintro uw h ⟨own2,mv⟩
          have c:=c.iu (k:=(0,2)) (v:=uA) (l:=[nth s.i.args 0]) RZ own2 mv
          obtain⟨W,hW,c,huA⟩:=c.freeze (k:=(0,2)) (v:=uw) (l:=[nth s.i.args 0]++s.i.args.drop 1) RZ)
       | (refine aj R1 (ll c.wle (hum.mono S1) (huA.mono S1) aF) ?_
          rintro _ h ⟨hle,vf,rfl,hvf⟩
          have hW:=c.up (h':=h)
          have c:=c.ext hle)
       | refine c.aK (k:=(0,1)) (n:=7) (l:=fitZ) RZ (hvf.mono S1) rfl rfl R1 rfl rfl λh l9 hl9 c=>?_
       try refine⟨S3 S1 c.wle,?_⟩
       subst hy))
  all_goals
    simp
    rw[hz]
    subst hl9
    have hall:=c.all (k:=(0,1)) (n:=7) (l:=l9) (B:=R2) (e:=T.bh) RZ
    simp at hall
    refine aa λx hx=>?_
    refine aI (vw h) S2 ?_
    simp[hall,ae (S3 S1 c.wle) i4]
    refine aj R1 jU ?_
    rintro _ h ⟨rfl,rfl⟩
    refine⟨View.le_refl _,?_⟩
    refine c.aK (k:=(0,0)) (n:=7) (l:=fitZ) RZ (hvf.mono S1) rfl rfl R1 rfl rfl λh9 l9' hl9' c9=>?_
    rw[hx]
    have hall:=c9.all (k:=(0,0)) (n:=7) (l:=l9') (B:=R) (e:=T.bh) RZ
    simp at hall
    simp[hall]
    exact fin _ _ _ _ c9 (hl9'▸hvf.mono S1)
end
end Go.Proofs.YtnfiilgdjpdlkaaGreatDoor
namespace Go.Lft
open Go
section
variable {po po2:OP} {V W:View} {h0 h h':Heap} {o:Own} {k:Key} {P:Program} {ty:TypeId} {us:List (Nat × Value)}
theorem xc {α:Type} [Rep α] {t e:Nat} {bytes:Nat} {z v:Value} {x:Operand} {d:α} {K:Value->Heap->Prop} (hT:fA P t e (Rep.n α) bytes z) (hx:asg us x=v) (hr:Rd W v d) (hn:Rep.n α<=1000)
  (hk : ∀h',(vw h).le (vw h')->OwnT W h' e (Sg (Se ⟨h.size,0,Sf⟩) 1 1) [d]->K (Sg (Se ⟨h.size,0,Sf⟩) 1 1) h'):@step po P (.buildSlice t 1 #[(0,x)]) ty us h K:=by
 have hc:=fV hr;obtain⟨B,h1,hB⟩:=og (s:=Rep.n α) [v] 0 ((Array.range (1*Rep.n α)).map (z.cells[· % z.cells.size]!)) (λu hu=>by simp at hu;subst hu;exact hc.2.1) Sa;have hB:B=v.cells:=by rw[<-Array.toList_inj,hB];simp
 subst hB;refine rQ (size:=Rep.n α) (vs:=[(0,v)]) hT R3 (by simp[hx]) h1 ?_;have q1:=bC h (.cells v.cells e);have b2:(h.push (.cells v.cells e))[h.size]? = Se (.cells v.cells e (0,0)):=by simp
 generalize h.push (.cells v.cells e)=h3 at q1 b2;exact hk _ q1 (fe b2 hr hn)
theorem Cx.add {α:Type} [Rep α] {e:TypeId} {v:Value} {l:List α} (c:Cx V h0 W h o) (hk:o k=Sf) (o2:OwnT W h' e v l) (hle:(vw h).le (vw h')) (hb : ∀b,v.ownBlock=Se b->h.size<=b):Cx V h0 W h' (o.upd k (it e v l)):=
 ⟨c.own.add hk o2 hle hb,c.old,S3 c.le0 hle,λj i b hj hb'=>by
  by_cases e:j=k
  ·subst e;rw[Own.ah]at hj;cases hj;exact OX (cD c.le0) (hb b hb')
  rw[Own.ak e]at hj;exact c.new j i b hj hb'⟩
end
end Go.Lft
namespace Go.Proofs.YtnfiilgdjpdlkaaGreatDoor
open Go Go.Lft
theorem eX {α:Type} [Rep α] {H:View} {v:Value} {l:List α} (s:SlRd H v l) : ∃a n c,v = .slice a n c:=let ⟨a,c,e,_⟩:=s;⟨a,_,c,e⟩
theorem Jo {v0 v1 v2:Value} {m:aH} {takes inner:List Int} {h:Heap} {W:View} (hW:W.le (vw h)) (h0:Rd W v0 m) (h1:SlRd W v1 takes) (h2:SlRd W v2 inner) :
  aA Sn 104 #[v0,v1,v2] h (λu h'=>(vw h).le (vw h')/\∃b,u = .tuple #[.agg #[v1,v2,Sg (Se ⟨b,0,Sf⟩) 1 1,Sb Sc 0,Sb Sc 0,Sb Sc 0,Sg Sf 0 0,Sb Sd 0],.bool Sj]/\OwnT W h' T.cW (Sg (Se ⟨b,0,Sf⟩) 1 1) [m]/\h.size<=b):=by
 refine au (args:=[v0,v1,v2]) follows Tryz.func104 E.oI S0 λK hK=>?_;dsimp only[L.oI,lkF,lkG];have c0:=Cx.start hW;refine aa λz hz=>?_;simp;refine c0.ID (k:=(0,1)) rfl rfl h0 R4 λB ha hlea ca=>?_;refine ca.bW (k:=(0,0)) (n:=7) (z:=.agg fitZ.toArray) RZ R1 rfl R4 R8 λR hb hleb cb=>?_;subst hz;obtain⟨um,hum,hmr⟩:=cb.IU (k:=(0,1)) (e:=T.cW) (B:=B) (d:=m) rfl rfl (N:=8) rfl;refine aa λz hz=>?_;simp[hum];refine xc (α:=aH) (W:=W) (v:=um) El.dc Sa hmr R4 λhc hlec own=>?_;have cc:=cb.add (k:=(0,2)) RZ own hlec λb hb=>by simp only[Value.ownBlock,N7]at hb;omega
 obtain⟨a1,n1,k1,rfl⟩:=eX h1;obtain⟨a2,n2,k2,rfl⟩:=eX h2;refine an (z:=.agg fitZ.toArray) (places:=[(0,1),(1,1),(2,1),(3,5)]) (vs:=[(0,.slice a1 n1 k1),(1,.slice a2 n2 k2),(2,Sg (Se ⟨hb.size,0,Sf⟩) 1 1)]) (cs:=#[.slice a1 n1 k1,.slice a2 n2 k2,Sg (Se ⟨hb.size,0,Sf⟩) 1 1,Sb Sc 0,Sb Sc 0,Sb Sc 0,Sg Sf 0 0,Sb Sd 0]) R1 R1 Sa R1 ?_;refine cc.iS (k:=(0,0)) (n:=7) (l':=[.slice a1 n1 k1,.slice a2 n2 k2,Sg (Se ⟨hb.size,0,Sf⟩) 1 1,Sb Sc 0,Sb Sc 0,Sb Sc 0,Sg Sf 0 0,Sb Sd 0]) RZ R1 Sa Sa rfl R7 λhd cd=>?_;subst hz;have hall:=cd.all (k:=(0,0)) (n:=7) (l:=[.slice a1 n1 k1,.slice a2 n2 k2,Sg (Se ⟨hb.size,0,Sf⟩) 1 1,Sb Sc 0,Sb Sc 0,Sb Sc 0,Sg Sf 0 0,Sb Sd 0]) (B:=R) (e:=T.bh) RZ;simp at hall;simp[hall];refine hK _ _ ⟨cd.le0,_,rfl,cd.own.get (k:=(0,2)) RZ,?_⟩;have q1:=cD hlea;have q2:=cD hleb;omega
end Go.Proofs.YtnfiilgdjpdlkaaGreatDoor
namespace Go.Proofs.YtnfiilgdjpdlkaaGreatDoor
open Go Go.Lft
section
variable {V:View} {h:Heap} {S I O P Q LL TT:Nat} {s:cy} {op plain sum:Int}
set_option maxHeartbeats 4000000 in
theorem Ki(mx:Mx V S I O P Q LL TT s op plain sum)(hV:V.le (vw h))(hok:nL s)(hop:s.i.op=op)(ho:op=15\/op=16)(hp0:0<=sum/\sum<=100)(ht:-9223372036854775808<=s.temp/\s.temp<=9223372036854775807):
    aA Sn 135 #[ptr S,ptr I,ptr TT,ptr LL,ptr Q] h (λu h'=>cj V h h' u (memS s.f s.i s.temp op plain sum 3)):=by
  refine au (args:=[ptr S,ptr I,ptr TT,ptr LL,ptr Q]) follows Tryz.func135 E.dI S0 λK hK=>?_
  dsimp only[L.dI,lkF,lkG]
  have c0:=Cx.start hV
  have l1:1<=s.i.args.length:=by
    rcases ho with q | q
    · exact hok.one.one (hop.trans q)
    · have:=hok.one.two (.inr (.inl (hop.trans q)));omega
  have l2:op=15\/2<=s.i.args.length:=ho.imp id λq=>hok.one.two (.inr (.inl (hop.trans q)))
  refine aa λz hz=>?_
  simp
  refine c0.bW (k:=(0,0)) (n:=7) (z:=.agg fitZ.toArray) rfl R1 rfl R4 R8 λR hb hleb cb=>?_
  subst hz
  have i4:=(mx.ct.ins.part InsD.gD)
  have r4:=i4.nK
  have i4:ao V ⟨I,4,Sf⟩=Se (Sb Sd s.i.imm.v):=by simpa using i4.i32
  obtain⟨va,i3,hva⟩:=(mx.ct.ins.part InsD.eW).sl
  have i3:ao V ⟨I,3,Sf⟩=Se va:=by simpa using i3
  have s12:ao V ⟨S,12,Sf⟩=Se (Sb Sc s.temp):=by simpa using(mx.ct.site.part cy.Dg).int
  have a0:=hva.rng (i:=0) R3
  have most:=hok.one.most
  have q0:=hva.idx1 (k:=.i64) (i:=0) rfl R4 R3
  have d0:=hva.int (View.le_refl V) (i:=0) R3
  simp at q0
  have eL:=mx.laid
  have eT:=mx.with_
  have eQ:=mx.sum
  have hm : ∀X,Rd X (.agg #[Sb Sc 4,Sb Sc s.temp,Sb Sc 0,Sb Sc 0,Sb Sc 0,Sb Sc 0,Sb Sd s.i.imm.v,Sg Sf 0 0]) (⟨4,s.temp,0,0,0,0,s.i.imm,[]⟩:aH):=λX=>dY R9 r4 aF
  have hm2 : ∀X,Rd X (.agg #[Sb Sc sum,Sb Sc 0,Sb Sc 0,Sb Sc (nth s.i.args 0),Sb Sc s.temp,Sb Sc 0,Sb Sd 0,Sg Sf 0 0]) (⟨sum,0,0,nth s.i.args 0,s.temp,0,⟨0⟩,[]⟩:aH):=λX=>dY (imm:=⟨0⟩) R9 Sa aF
  have fin : ∀(W:View) (hx:Heap) (o:Own) (l9:List Value),Cx V h W hx o->Rd W (.agg l9.toArray) (⟨nth s.i.args 0::s.i.args.drop 1,[],[⟨4,s.temp,0,0,0,0,s.i.imm,[]⟩,gg s.i op plain ⟨sum,0,0,nth s.i.args 0,s.temp,0,⟨0⟩,[]⟩],cC⟩:FitD)->K (.tuple #[.agg l9.toArray,.bool Sj]) hx:=λW hx o l9 c hr=>
    hK _ _ (cj.of c hr rfl λy e=>by simp only[memS]at e;cases e;rfl)
  clear hK
  refine aa λz hz=>?_
  refine aI V cb.wle ?_
  have c:=cb
  have hWV:V.le V:=View.le_refl _
  repeat' (first
    | refine dT ?_ ?_
    | (refine ay λy hy=>?_
       simp[i3,i4,s12,q0,d0,eL,eT,eQ]
       first
       | refine an (t:=T.cW) (z:=.agg wF.toArray) (places:=[(0,1),(1,1),(2,1),(3,1),(4,1),(5,1),(6,1),(7,1)]) (vs:=[(0,Sb Sc 4),(1,Sb Sc s.temp),(6,Sb Sd s.i.imm.v)]) (cs:=#[Sb Sc 4,Sb Sc s.temp,Sb Sc 0,Sb Sc 0,Sb Sc 0,Sb Sc 0,Sb Sd s.i.imm.v,Sg Sf 0 0]) R1 R1 Sa R1 ?_
       | (refine c.jO (k:=(0,2)) (n:=1) (l:=[nth s.i.args 0]) RZ El.aP ?_ ?_ rfl R4 λuA h hle c=>?_
          · simp;done
          · simp;omega)
       | refine c.bW (k:=(0,1)) (n:=7) (z:=.agg fitZ.toArray) RZ R1 rfl R4 R8 λR2 h hle c=>?_
       | (refine cg (ops:=[.tmp 20]) (caps:=#[ptr I]) rfl R1 (xd mx S1 c.wle (c.own.get (k:=(0,2)) (v:=uA) (l:=[nth s.i.args 0]) RZ) Sa l1 R3) ?_
          rintro uw h ⟨own2,mv⟩
          have c:=c.iu (k:=(0,2)) (v:=uA) (l:=[nth s.i.args 0]) RZ own2 mv
          obtain⟨W,hW,c,huA⟩:=c.freeze (k:=(0,2)) (v:=uw) (l:=[nth s.i.args 0]++s.i.args.drop 1) RZ)
       | (refine aj R1 (Jo c.wle (hm _) (huA.mono S1) aF) ?_
          rintro _ h ⟨hle,b3,rfl,own3,hb3⟩
          have c:=c.add (k:=(0,3)) RZ own3 hle λb hb=>by simp only[Value.ownBlock,N7]at hb;omega)
       | (obtain⟨a5,n5,k5,rfl⟩:=eX huA
          refine c.iS (k:=(0,1)) (n:=7) (l:=fitZ) (l':=[.slice a5 n5 k5,Sg Sf 0 0,Sg (Se ⟨b3,0,Sf⟩) 1 1,Sb Sc 0,Sb Sc 0,Sb Sc 0,Sg Sf 0 0,Sb Sd 0]) RZ R1 rfl rfl rfl R7 λh c=>?_)
       try refine⟨S3 S1 c.wle,?_⟩
       subst hy))
  all_goals
    simp
    rw[hz]
    refine aa λx hx=>?_
    have hcode:=c.own.raw (k:=(0,1)) (e:=T.bh) (B:=R2) (n:=7) (l:=[.slice a5 n5 k5,Sg Sf 0 0,Sg (Se ⟨b3,0,Sf⟩) 1 1,Sb Sc 0,Sb Sc 0,Sb Sc 0,Sg Sf 0 0,Sb Sd 0]) RZ (i:=2) R4
    simp only[List.getD_cons_succ,Ru]at hcode
    have hVh:=S3 (show V.le _ from S1) c.wle
    refine aI (vw h) S2 ?_
    refine ay λy hy=>?_
    simp[hcode,ae hVh i3,ae hVh s12,q0,ae hVh d0,ae hVh eL,ae hVh eQ]
    refine an (t:=T.cW) (z:=.agg wF.toArray) (places:=[(0,1),(1,1),(2,1),(3,1),(4,1),(5,1),(6,1),(7,1)]) (vs:=[(0,Sb Sc sum),(3,Sb Sc (nth s.i.args 0)),(4,Sb Sc s.temp)]) (cs:=#[Sb Sc sum,Sb Sc 0,Sb Sc 0,Sb Sc (nth s.i.args 0),Sb Sc s.temp,Sb Sc 0,Sb Sd 0,Sg Sf 0 0]) R1 R1 Sa R1 ?_
    refine⟨View.le_refl _,?_⟩
    subst hy
    refine ay λy hy=>?_
    simp
    refine cg (ops:=[.tmp 35]) (caps:=#[ptr O,ptr I,ptr P]) rfl R1 (xj mx S1 c.wle (hm2 _) l2) ?_
    rintro um h7 ⟨hle7,hum⟩
    have hW7:=c.up (h':=h7)
    have c7:=c.ext hle7
    refine⟨hle7,?_⟩
    subst hy
    refine ay λy hy=>?_
    simp
    refine c7.eF (α:=aH) (n:=1) (vs:=[um]) (ds:=[gg s.i op plain ⟨sum,0,0,nth s.i.args 0,s.temp,0,⟨0⟩,[]⟩]) El.dc Sa ⟨hum,trivial⟩ rfl R4 R4 λu8 h8 W8 hW8 c8 s8 hle8=>?_
    refine⟨S3 hle7 hle8,?_⟩
    subst hy
    refine ay λy hy=>?_
    simp
    refine bO (α:=aH) (v:=Sg (Se ⟨b3,0,Sf⟩) 1 1) (u:=u8) (l:=[(⟨4,s.temp,0,0,0,0,s.i.imm,[]⟩:aH)]) (l2:=[gg s.i op plain ⟨sum,0,0,nth s.i.args 0,s.temp,0,⟨0⟩,[]⟩]) El.dc Sa Sa (c8.own.get (k:=(0,3)) RZ) (s8.src c8.wle) Sa Sa λv9 h9 o9 mv9=>?_
    have c9:=c8.iu (k:=(0,3)) RZ o9 mv9
    obtain⟨W9,hW9,c10,s10⟩:=c9.freeze (k:=(0,3)) (v:=v9) RZ
    obtain⟨a9,n9,k9,rfl⟩:=eX s10
    subst hy
    refine ay λy hy=>?_
    simp
    refine c10.cR (k:=(0,1)) (n:=7) (i:=2) (u:=.slice a9 n9 k9) (e:=T.bh) (B:=R2) (l:=[.slice a5 n5 k5,Sg Sf 0 0,Sg (Se ⟨b3,0,Sf⟩) 1 1,Sb Sc 0,Sb Sc 0,Sb Sc 0,Sg Sf 0 0,Sb Sd 0]) RZ R4 R1 Sa Sa rfl λh11 c11=>?_
    subst hy
    simp
    subst hx
    have hall:=c11.all (k:=(0,1)) (n:=7) (B:=R2) (e:=T.bh) (l:=[.slice a5 n5 k5,Sg Sf 0 0,.slice a9 n9 k9,Sb Sc 0,Sb Sc 0,Sb Sc 0,Sg Sf 0 0,Sb Sd 0]) RZ
    simp at hall
    refine aa λx hx=>?_
    simp[hall]
    have hfit:Rd W9 (.agg #[.slice a5 n5 k5,Sg Sf 0 0,.slice a9 n9 k9,Sb Sc 0,Sb Sc 0,Sb Sc 0,Sg Sf 0 0,Sb Sd 0]) (⟨nth s.i.args 0::s.i.args.drop 1,[],[⟨4,s.temp,0,0,0,0,s.i.imm,[]⟩,gg s.i op plain ⟨sum,0,0,nth s.i.args 0,s.temp,0,⟨0⟩,[]⟩],cC⟩:FitD):=
      mh (v1:=.slice a5 n5 k5) (v2:=Sg Sf 0 0) (v3:=.slice a9 n9 k9) (huA.mono S1) aF s10 (hZ Sa R4 aF)
    refine c11.aK (k:=(0,0)) (n:=7) (l:=fitZ) RZ hfit rfl rfl R1 Sa Sa λh12 l12 hl12 c12=>?_
    rw[hx]
    have hall:=c12.all (k:=(0,0)) (n:=7) (l:=l12) (B:=R) (e:=T.bh) RZ
    simp at hall
    simp[hall]
    exact fin _ _ _ _ c12 (hl12▸hfit)
end
end Go.Proofs.YtnfiilgdjpdlkaaGreatDoor
namespace Go.Lft
open Go
section
variable {po po2:OP} {V W:View} {h0 h h':Heap} {o:Own} {k:Key} {P:Program} {ty:TypeId} {us:List (Nat × Value)}
theorem Cx.db {α:Type} [Rep α] {t:TypeId} {z:Value} {d:α} {K:Value->Heap->Prop} (c:Cx V h0 W h o) (hk:o k=Sf) (hz:(P.info? t).map (·.zero)=Se (Se z)) (hr:Rd W (.agg z.cells) d) (hn:Rep.n α<=1000)
  (hK : ∀B h',(vw h).le (vw h')->Cx V h0 W h' (o.upd k (bx t B d))->K (Si (Se ⟨B,0,Sf⟩)) h'):@step po P (.alloc t) ty us h K:=by
 refine _root_.Go.Lft.db hz ?_;have q1:=bC h (.cells z.cells t);have b2:(h.push (.cells z.cells t))[h.size]? = Se (.cells z.cells t (0,0)):=by simp
 generalize h.push (.cells z.cells t)=h2 at q1 b2;have hz2:(Value.agg z.cells).cells=z.cells:=rfl;refine hK _ _ q1 ⟨c.own.add hk (fe (v:=.agg z.cells) (by rw[hz2];exact b2) hr hn) q1 λb hb=>by simp only[Value.ownBlock,N7]at hb;omega,c.old,S3 c.le0 q1,λj i b hj hb=>?_⟩;by_cases e:j=k
 ·subst e;rw[Own.ah]at hj;cases hj;cases hb;exact cD c.le0
 rw[Own.ak e]at hj;exact c.new j i b hj hb
theorem Own.bX {a b:Option Item}:(o.upd k a).upd k b=o.upd k b:=by funext q;unfold Own.upd;split<;>rfl
theorem Own.tY {a:Option Item} (hk:o k=Sf):(o.upd k a).upd k Sf=o:=by
 funext q;unfold Own.upd;split
 ·rename_i e;subst e;exact hk.symm
 rfl
theorem Cx.mT {α:Type} [Rep α] {e:TypeId} {B:Nat} {d:α} (c:Cx V h0 W h o) (hk:o k=bx e B d) : ∃W',W.le W'/\Cx V h0 W' h (o.upd k Sf)/\At W' ⟨B,0,Sf⟩ d:=by obtain⟨W',h1,h2,h3⟩:=c.freeze (v:=Sg (Se ⟨B,0,Sf⟩) 1 1) (l:=[d]) hk;refine⟨W',h1,h2,?_⟩;have:=h3.at (i:=0) Sa;simpa[slA,Addr.z]using this
end
end Go.Lft
namespace Go.Proofs.YtnfiilgdjpdlkaaGreatDoor
open Go Go.Lft
abbrev insZ:List Value:=[Sb Sc 0,Sb Sc 0,Sb Sc 0,Sg Sf 0 0,Sb Sd 0]
section
variable {V:View} {h:Heap} {S I O P Q LL TT:Nat} {s:cy} {op plain sum:Int}
set_option maxHeartbeats 4000000 in
theorem Jq (mx:Mx V S I O P Q LL TT s op plain sum) (hV:V.le (vw h)) (hok:nL s) (hop:s.i.op=op) (ho:op=15\/op=16) (hp0:0<=sum/\sum<=100) :
    aA Sn 134 #[ptr S,ptr I,ptr LL,ptr Q,ptr TT] h (λu h'=>cj V h h' u (memS s.f s.i s.temp op plain sum 2)):=by
  refine au (args:=[ptr S,ptr I,ptr LL,ptr Q,ptr TT]) follows Tryz.func134 E.dJ S0 λK hK=>?_
  dsimp only[L.dJ,lkF,lkG]
  have c0:=Cx.start hV
  have l1:1<=s.i.args.length:=by
    rcases ho with q | q
    · exact hok.one.one (hop.trans q)
    · have:=hok.one.two (.inr (.inl (hop.trans q)));omega
  have l2:op=15\/2<=s.i.args.length:=ho.imp id λq=>hok.one.two (.inr (.inl (hop.trans q)))
  refine aa λz hz=>?_
  simp
  refine c0.bW (k:=(0,0)) (n:=7) (z:=.agg fitZ.toArray) rfl R1 rfl R4 R8 λR hb hleb cb=>?_
  subst hz
  have i4:=(mx.ct.ins.part InsD.gD)
  have r4:=i4.nK
  have i4:ao V ⟨I,4,Sf⟩=Se (Sb Sd s.i.imm.v):=by simpa using i4.i32
  obtain⟨va,i3,hva⟩:=(mx.ct.ins.part InsD.eW).sl
  have i3:ao V ⟨I,3,Sf⟩=Se va:=by simpa using i3
  have a0:=hva.rng (i:=0) R3
  have most:=hok.one.most
  have q0:=hva.idx1 (k:=.i64) (i:=0) rfl R4 R3
  have d0:=hva.int (View.le_refl V) (i:=0) R3
  simp at q0
  obtain⟨us,hus,rus⟩:=mx.ct.site.ldN rfl (N:=13) rfl
  have hus:=hus V S2
  have hfm:=gK (f:=s.f) (v:=nth s.i.args 0) (op:=2)
  have hdo:memS s.f s.i s.temp op plain sum 2=if(aG s.f (nth s.i.args 0) 2).2&&decide (s.i.imm.v=0) then
      Se ⟨nth (aG s.f (nth s.i.args 0) 2).1.args 0::nth (aG s.f (nth s.i.args 0) 2).1.args 1::s.i.args.drop 1,[nth s.i.args 0],
        [gg s.i op plain ⟨sum,0,0,nth (aG s.f (nth s.i.args 0) 2).1.args 0,nth (aG s.f (nth s.i.args 0) 2).1.args 1,0,⟨0⟩,[]⟩],cC⟩
    else none:=rfl
  have hF:=@oL s us (nth s.i.args 0) 2
  generalize (aG s.f (nth s.i.args 0) 2).1=m at *
  generalize (aG s.f (nth s.i.args 0) 2).2=b at *
  refine aa λz hz=>?_
  have rest : ∀(W:View) (hx:Heap) (B2:Nat) (ρ:Env),V.le W->Cx V h W hx (Own.upd (λ_=>Sf) (0,0) (bx T.bh R (RawN.mk (n:=7) fitZ)))->At W ⟨B2,0,Sf⟩ m->
      Lft.look ρ 0=Se (ptr S)->Lft.look ρ 1=Se (ptr I)->Lft.look ρ 2=Se (ptr LL)->Lft.look ρ 3=Se (ptr Q)->Lft.look ρ 4=Se (ptr TT)->Lft.look ρ 5=Se (ptr R)->Lft.look ρ 7=Se (ptr B2)->Lft.look ρ 8=Se (.bool b)->
      LC.wp Sn z (cz [.un (.aT 8) (.tmp 5),.tmp 6] K) ρ hx:=by
    intro W hx B2 ρ hVW c hat g0 g1 g2 g3 g4 g5 g7 g8
    rw[hz]
    refine aa λx hx'=>?_
    have none_ : ∀(hy:Heap) (o:Own) (l9:List Value),Cx V h W hy o->Rd W (.agg l9.toArray) nJ->(b&&decide (s.i.imm.v=0))=Sk->K (.tuple #[.agg l9.toArray,.bool Sk]) hy:=λhy o l9 c hr e=>
      hK _ _ (cj.of c hr (by rw[hdo,e];rfl) λy e2=>by rw[hdo,e]at e2;cases e2)
    cases b with
    | false=>
      simp[g8,af,ag,g5]
      refine an (t:=T.bh) (z:=.agg fitZ.toArray) (places:=[(0,1),(1,1),(2,1),(3,5)]) (vs:=[]) (cs:=fitZ.toArray) R1 R1 Sa R1 ?_
      refine c.aK (k:=(0,0)) (n:=7) (l:=fitZ) RZ gq rfl rfl R1 Sa Sa λh9 l9 hl9 c9=>?_
      have hall:=c9.all (k:=(0,0)) (n:=7) (l:=l9) (B:=R) (e:=T.bh) RZ
      simp at hall
      simp[hall]
      exact none_ _ _ _ c9 (hl9▸gq) rfl
    | true=>
      by_cases e0:s.i.imm.v=0
      · obtain⟨m1,m2,-⟩:=hfm rfl
        have hma:=(hok.all _ m1).two R3
        obtain⟨vb,j3,hvb⟩:=(hat.part InsD.eW).sl
        have j3:ao W ⟨B2,3,Sf⟩=Se vb:=by simpa using j3
        have b0:=hvb.rng (i:=0) R3
        have b1:=hvb.rng (i:=1) R3
        have q2:=hvb.idx1 (k:=.i64) (i:=0) rfl R4 R3
        have q3:=hvb.idx1 (k:=.i64) (i:=1) rfl R4 R3
        have d2:=hvb.int (View.le_refl W) (i:=0) R3
        have d3:=hvb.int (View.le_refl W) (i:=1) R3
        simp at q2 q3
        have i4':=ae hVW i4
        have i3:=ae hVW i3
        have d0:=ae hVW d0
        have eL:=ae hVW mx.laid
        have eT:=ae hVW mx.with_
        have eQ:=ae hVW mx.sum
        have mx:=mx.mono hVW
        simp[g0,g1,g2,g3,g4,g5,g7,g8,af,ag,ae c.wle i4',e0]
        rw[hx'];clear hx'
        have hm : ∀X,Rd X (.agg #[Sb Sc sum,Sb Sc 0,Sb Sc 0,Sb Sc (nth m.args 0),Sb Sc (nth m.args 1),Sb Sc 0,Sb Sd 0,Sg Sf 0 0]) (⟨sum,0,0,nth m.args 0,nth m.args 1,0,⟨0⟩,[]⟩:aH):=λX=>dY (imm:=⟨0⟩) R9 Sa aF
        have fin : ∀(W:View) (hx:Heap) (o:Own) (l9:List Value),Cx V h W hx o->Rd W (.agg l9.toArray) (⟨nth m.args 0::nth m.args 1::s.i.args.drop 1,[nth s.i.args 0],[gg s.i op plain ⟨sum,0,0,nth m.args 0,nth m.args 1,0,⟨0⟩,[]⟩],cC⟩:FitD)->K (.tuple #[.agg l9.toArray,.bool Sj]) hx:=λW hx o l9 c hr=>
          hK _ _ (cj.of c hr (by rw[hdo];simp[e0]) λy e=>by rw[hdo,e0]at e;cases e;rfl)
        clear none_ hK
        refine aa λx hx'=>?_
        refine aI W c.wle ?_
        have hWV:W.le W:=View.le_refl _
        repeat' (first
          | refine dT ?_ ?_
          | (refine ay λy hy=>?_
             simp[g0,g1,g2,g3,g4,g5,g7,g8,af,ag,i3,j3,q0,q2,q3,d0,d2,d3,eL,eT,eQ]
             first
             | refine an (t:=T.cW) (z:=.agg wF.toArray) (places:=[(0,1),(1,1),(2,1),(3,1),(4,1),(5,1),(6,1),(7,1)]) (vs:=[(0,Sb Sc sum),(3,Sb Sc (nth m.args 0)),(4,Sb Sc (nth m.args 1))]) (cs:=#[Sb Sc sum,Sb Sc 0,Sb Sc 0,Sb Sc (nth m.args 0),Sb Sc (nth m.args 1),Sb Sc 0,Sb Sd 0,Sg Sf 0 0]) R1 R1 Sa R1 ?_
             | (refine c.jO (k:=(0,2)) (n:=2) (l:=[nth m.args 0,nth m.args 1]) RZ El.aP ?_ ?_ rfl R4 λuA h hle c=>?_
                · simp;done
                · simp;omega)
             | (refine c.eF (α:=Int) (n:=1) (vs:=[Sb Sc (nth s.i.args 0)]) (ds:=[nth s.i.args 0]) El.aP ?_ ⟨aX.2 ⟨rfl,a0⟩,trivial⟩ rfl R4 R4 λuB h W hW c huB hle=>?_
                · simp;done)
             | (refine cg (ops:=[.tmp 36]) (caps:=#[ptr O,ptr I,ptr P]) rfl R1 (xj mx S1 c.wle (hm _) l2) ?_
                rintro um h ⟨hle,hum⟩
                have hW:=c.up (h':=h)
                have c:=c.ext hle)
             | (refine cg (ops:=[.tmp 47]) (caps:=#[ptr I]) rfl R1 (xd mx S1 c.wle (c.own.get (k:=(0,2)) (v:=uA) (l:=[nth m.args 0,nth m.args 1]) RZ) Sa l1 R3) ?_
                rintro uw h ⟨own2,mv⟩
                have c:=c.iu (k:=(0,2)) (v:=uA) (l:=[nth m.args 0,nth m.args 1]) RZ own2 mv
                obtain⟨W,hW,c,huA⟩:=c.freeze (k:=(0,2)) (v:=uw) (l:=[nth m.args 0,nth m.args 1]++s.i.args.drop 1) RZ)
             | (refine aj R1 (ll c.wle (hum.mono S1) (huA.mono S1) (huB.mono S1)) ?_
                rintro _ h ⟨hle,vf,rfl,hvf⟩
                have hW:=c.up (h':=h)
                have c:=c.ext hle)
             | refine c.aK (k:=(0,0)) (n:=7) (l:=fitZ) RZ hvf rfl rfl R1 Sa Sa λh l9 hl9 c=>?_
             try refine⟨S3 S1 c.wle,?_⟩
             subst hy))
        all_goals
          simp[g0,g1,g2,g3,g4,g5,g7,g8,af,ag]
          rw[hx']
          have hall:=c.all (k:=(0,0)) (n:=7) (l:=l9) (B:=R) (e:=T.bh) RZ
          simp at hall
          simp[g0,g1,g2,g3,g4,g5,g7,g8,af,ag,hall]
          exact fin _ _ _ _ c (hl9▸hvf)
      · simp[g0,g1,g2,g3,g4,g5,g7,g8,af,ag,ae c.wle (ae hVW i4),e0]
        refine an (t:=T.bh) (z:=.agg fitZ.toArray) (places:=[(0,1),(1,1),(2,1),(3,5)]) (vs:=[]) (cs:=fitZ.toArray) R1 R1 Sa R1 ?_
        refine c.aK (k:=(0,0)) (n:=7) (l:=fitZ) RZ gq rfl rfl R1 Sa Sa λh9 l9 hl9 c9=>?_
        have hall:=c9.all (k:=(0,0)) (n:=7) (l:=l9) (B:=R) (e:=T.bh) RZ
        simp at hall
        simp[hall]
        exact none_ _ _ _ c9 (hl9▸gq) (by simp[e0])
  refine aI V cb.wle ?_
  have c:=cb
  refine dT ?_ ?_
  · refine ay λy hy=>?_
    simp[hus,i3,q0,d0]
    refine aj R1 (hF c.wle rus hok.sm a0) ?_
    rintro _ h1 ⟨hle1,vm,rfl,hvm⟩
    have hW1:=c.up (h':=h1)
    have c:=c.ext hle1
    subst hy
    refine ay λy hy=>?_
    simp
    refine c.db (k:=(0,4)) (z:=.agg insZ.toArray) (d:=eZ) RZ R1 iU R4 λB2 h2 hle2 c=>?_
    subst hy
    refine ay λy hy=>?_
    simp
    refine c.cA Part.all (k:=(0,4)) (D:=eZ) (d:=m) RZ R1 Sa Sa hvm λh3 c=>?_
    subst hy
    simp
    obtain⟨W4,hW4,c,hat⟩:=c.mT (k:=(0,4)) (B:=B2) (d:=m) RZ
    rw[Own.bX,Own.tY RZ]at c
    exact rest _ _ _ _ (S3 hW1 hW4) c hat rfl rfl rfl rfl rfl rfl rfl rfl
  · refine ay λy hy=>?_
    simp[hus,i3,q0,d0]
    refine c.db (k:=(0,4)) (z:=.agg insZ.toArray) (d:=eZ) RZ R1 iU R4 λB2 h2 hle2 c=>?_
    refine⟨c.wle,?_⟩
    subst hy
    refine ay λy hy=>?_
    simp
    refine aj R1 (hF c.wle rus hok.sm a0) ?_
    rintro _ h1 ⟨hle1,vm,rfl,hvm⟩
    have hW1:=c.up (h':=h1)
    have c:=c.ext hle1
    subst hy
    refine ay λy hy=>?_
    simp
    refine c.cA Part.all (k:=(0,4)) (D:=eZ) (d:=m) RZ R1 Sa Sa hvm λh3 c=>?_
    subst hy
    simp
    obtain⟨W4,hW4,c,hat⟩:=c.mT (k:=(0,4)) (B:=B2) (d:=m) RZ
    rw[Own.bX,Own.tY RZ]at c
    exact rest _ _ _ _ (S3 hW1 hW4) c hat rfl rfl rfl rfl rfl rfl rfl rfl
end
end Go.Proofs.YtnfiilgdjpdlkaaGreatDoor
namespace Go.Lft
open Go
def EU (subs:List (Array Bool × Reg)) (l:Array Bool):Option Reg:=(subs.find? λp=>p.1 == l).map (·.2)
theorem Gc{subs:List (Array Bool × Reg)}{l:Array Bool}{R:Reg}(h:EU subs l=Se R):(l,R)∈subs:=by
 unfold EU at h;rw[Ow]at h;obtain⟨p,hp,rfl⟩:=h;have h1:=QI hp;have h2:=PC hp;have:p.1=l:=by simpa using h1
 subst this;exact h2
def Kr (P:Program) (N:Nat) (ops:Array Oper) (live:List Nat) (l0:Option Nat) (listed:Array Bool) (subs:List (Array Bool × Reg)):Option Reg:=
 match pC P ops l0 ops.size listed with
 | none=>Sf
 | some (qs,l1)=>match rdy ops l1 with
  | []=>Br P N ops live (nA ops qs)
  | rs=>jJ (λi=>match ops[i]? with
   | none=>Sf
   | some o=>match EU subs (l1.setIfInBounds i Sj)with
    | some next=>vJ P N ops live (nA ops qs) o (yd ops (l1.setIfInBounds i Sj)) (l0 == Se i) next
    | none=>Sf) rs
theorem sA {f g:Nat->Option Reg} (h : ∀i X,f i=Se X->g i=Se X) : ∀{rs:List Nat} {R:Reg},jJ f rs=Se R->jJ g rs=Se R
 | [],_,e=>by cases e
 | [i],_,e=>h i _ e
 | i::j::rs,R,e=>by
  unfold jJ at e ⊢;cases h1:f i with
  | none=>rw[h1]at e;cases e
  | some x=>
   cases h2:jJ f (j::rs)with
   | none=>rw[h1,h2]at e;cases e
   | some y=>rw[h1,h2]at e;rw[h i x h1,sA h h2];exact e
theorem bT{P:Program}{N:Nat}{ops:Array Oper}{live:List Nat}{l0:Option Nat}{listed:Array Bool}{subs:List (Array Bool × Reg)}{R:Reg}{f:Nat}(h:Kr P N ops live l0 listed subs=Se R)(hs : ∀p∈subs,regD P N ops live l0 f p.1=Se p.2):regD P N ops live l0 (f+1) listed=Se R:=by
 unfold Kr at h;unfold regD;split at h
 ·cases h
 rename_i qs l1 hq;rw[hq];simp only;split at h
 ·rename_i hr;rw[hr];exact h
 rename_i hne;split
 ·rename_i hr;exact absurd hr hne
 refine sA (λi X e=>?_) h;cases ho:ops[i]? with
 | none=>rw[ho]at e;cases e
 | some o=>
  rw[ho]at e;simp only at e ⊢;cases hb:EU subs (l1.setIfInBounds i Sj)with
  | none=>rw[hb]at e;cases e
  | some next=>rw[hb]at e;rw[hs _ (Gc hb)];exact e
def seqL:Code->Code | .seq x _=>x | x=>x
def seqR:Code->Code | .seq _ y=>y | x=>x
def KT:Code->Bool | .seq _ _=>Sj | _=>Sk
def opsR:Code->Array Oper | .region _ ops _=>ops | _=>#[]
def EX:Code->Bool | .region _ ops d=>d&&ops.all λo=>eG o.op | _=>Sk
theorem lA{P:Program}{N:Nat}{lv lr:List Nat}{b:Bool}{c:Code}{x y:LC}(hc:KT c=Sj)(h1:eM P N lv lr b (seqL c)=Se x)(h2:eM P N lv lr b (seqR c)=Se y):eM P N lv lr b c=Se (.seq x y):=by cases c<;>simp[KT]at hc;simp only[seqL,seqR]at h1 h2;simp only[eM,h1,h2]
theorem Aj{P:Program}{N:Nat}{lv lr:List Nat}{b:Bool}{c:Code}{R:Reg}{l0:Option Nat}{n:Nat}(hc:EX c=Sj)(h0:CT P (opsR c)=l0)(hn:(opsR c).size=n)(h:regD P N (opsR c) lv l0 (n+1) (Array.replicate n Sk)=Se R):eM P N lv lr b c=Se (.reg Sj R):=by subst h0;subst hn;cases c<;>simp[EX]at hc;simp only[opsR]at h;simp only[eM];rw[if_pos hc.1,if_pos (by simpa using hc.2),h];rfl
def uR (fn:Func):Code:=fn.body.getD .skip
theorem JQ{P:Program}{fn:Func}{res:List E}{x:LC}{lv lr:List Nat}{n:Nat}(hb:fn.body.isSome=Sj)(hr:fn.results.toList.mapM (resE P)=Se res)(h1:lK (uR fn)++uP fn (uR fn)=lv)(h2:uP fn (uR fn)=lr)(hn:fn.ntmps=n)(h:eM P n lv lr Sk (uR fn)=Se x):aO P fn=Se ⟨res,x⟩:=by
 subst h1;subst h2;subst hn;unfold uR at h;unfold aO;cases hb':fn.body with
 | none=>rw[hb']at hb;cases hb
 | some c=>rw[hb']at h;simp only[Rm]at h;simp only[hr,h]
end Go.Lft
namespace Go.Proofs.YtnfiilgdjpdlkaaGreatDoor
open Go Go.Lft
section
set_option maxRecDepth 100000
noncomputable def L.ab.q0.ops:Array Oper:=opsR (seqL (seqR (seqR (seqR (seqR (uR Tryz.f133))))))
def L.ab.q0.r0:Reg:=(.fin [11] [] [(.tmp 65)])
def L.ab.q0.r1:Reg:=by apply(fun{b:Reg}(_:b=s [] [] (w [10,64]) (.store 101 (a 10) (a 64)) L.ab.q0.r0)=>b);simp only[sh];rfl
def L.ab.q0.r2:Reg:=by apply(fun{b:Reg}(_:b=l [33,64,65] [(64,.un (.ext 0) (t 63)),(65,.un (.ext 1) (t 63))] [] (.alloc 101) 0 10 L.ab.q0.r1)=>b);simp only[sh];rfl
def L.ab.q0.r3:Reg:=by apply(fun{b:Reg}(_:b=s [33,64,65] [(65,.un (.ext 1) (t 63))] [(10,t 10),(64,.un (.ext 0) (t 63))] (.store 101 (a 10) (a 64)) L.ab.q0.r0)=>b);simp only[sh];rfl
def L.ab.q0.r4:Reg:=by apply(fun{b:Reg}(_:b=.loud [] [] (w [46,53,62]) Sf [] Sj (x 104 [46,53,62] [80,22,22]) 102 (Se 63) Sj L.ab.q0.r3)=>b);simp only[sh];rfl
def L.ab.q0.r5:Reg:=by apply(fun{b:Reg}(_:b=.both (.loud [] [] (w [46,53,62]) Sf [] Sj (x 104 [46,53,62] [80,22,22]) 102 (Se 63) Sj L.ab.q0.r2) (p [] (.alloc 101) 0 10 L.ab.q0.r4))=>b);simp only[sh];rfl
def L.ab.q0.r6:Reg:=by apply(fun{b:Reg}(_:b=p (w [57,61]) (.buildSlice 22 2 #[(0,a 57),(1,a 61)]) 22 62 L.ab.q0.r4)=>b);simp only[sh];rfl
def L.ab.q0.r7:Reg:=by apply(fun{b:Reg}(_:b=.both (p (w [57,61]) (.buildSlice 22 2 #[(0,a 57),(1,a 61)]) 22 62 L.ab.q0.r5) (p [] (.alloc 101) 0 10 L.ab.q0.r6))=>b);simp only[sh];rfl
def L.ab.q0.r8:Reg:=by apply(fun{b:Reg}(_:b=p (w [47,52]) (.call ⟨.value (a 47),#[a 52],#[22]⟩) 22 53 L.ab.q0.r4)=>b);simp only[sh];rfl
def L.ab.q0.r9:Reg:=by apply(fun{b:Reg}(_:b=.both (p (w [47,52]) (.call ⟨.value (a 47),#[a 52],#[22]⟩) 22 53 L.ab.q0.r5) (p [] (.alloc 101) 0 10 L.ab.q0.r8))=>b);simp only[sh];rfl
def L.ab.q0.r10:Reg:=by apply(fun{b:Reg}(_:b=.both (p (w [47,52]) (.call ⟨.value (a 47),#[a 52],#[22]⟩) 22 53 L.ab.q0.r6) (p (w [57,61]) (.buildSlice 22 2 #[(0,a 57),(1,a 61)]) 22 62 L.ab.q0.r8))=>b);simp only[sh];rfl
def L.ab.q0.r11:Reg:=by apply(fun{b:Reg}(_:b=.both (p (w [47,52]) (.call ⟨.value (a 47),#[a 52],#[22]⟩) 22 53 L.ab.q0.r7) (.both (p (w [57,61]) (.buildSlice 22 2 #[(0,a 57),(1,a 61)]) 22 62 L.ab.q0.r9) (p [] (.alloc 101) 0 10 L.ab.q0.r10)))=>b);simp only[sh];rfl
def L.ab.q0.r12:Reg:=by apply(fun{b:Reg}(_:b=p (w [51]) (.buildSlice 22 1 #[(0,a 51)]) 22 52 L.ab.q0.r8)=>b);simp only[sh];rfl
def L.ab.q0.r13:Reg:=by apply(fun{b:Reg}(_:b=.both (p (w [51]) (.buildSlice 22 1 #[(0,a 51)]) 22 52 L.ab.q0.r9) (p [] (.alloc 101) 0 10 L.ab.q0.r12))=>b);simp only[sh];rfl
def L.ab.q0.r14:Reg:=by apply(fun{b:Reg}(_:b=.both (p (w [51]) (.buildSlice 22 1 #[(0,a 51)]) 22 52 L.ab.q0.r10) (p (w [57,61]) (.buildSlice 22 2 #[(0,a 57),(1,a 61)]) 22 62 L.ab.q0.r12))=>b);simp only[sh];rfl
def L.ab.q0.r15:Reg:=by apply(fun{b:Reg}(_:b=.both (p (w [51]) (.buildSlice 22 1 #[(0,a 51)]) 22 52 L.ab.q0.r11) (.both (p (w [57,61]) (.buildSlice 22 2 #[(0,a 57),(1,a 61)]) 22 62 L.ab.q0.r13) (p [] (.alloc 101) 0 10 L.ab.q0.r14)))=>b);simp only[sh];rfl
def L.ab.q0.r16:Reg:=by apply(fun{b:Reg}(_:b=p (w [34,45]) (.call ⟨.value (a 34),#[a 45],#[80]⟩) 80 46 L.ab.q0.r8)=>b);simp only[sh];rfl
def L.ab.q0.r17:Reg:=by apply(fun{b:Reg}(_:b=.both (p (w [34,45]) (.call ⟨.value (a 34),#[a 45],#[80]⟩) 80 46 L.ab.q0.r9) (p [] (.alloc 101) 0 10 L.ab.q0.r16))=>b);simp only[sh];rfl
def L.ab.q0.r18:Reg:=by apply(fun{b:Reg}(_:b=.both (p (w [34,45]) (.call ⟨.value (a 34),#[a 45],#[80]⟩) 80 46 L.ab.q0.r10) (p (w [57,61]) (.buildSlice 22 2 #[(0,a 57),(1,a 61)]) 22 62 L.ab.q0.r16))=>b);simp only[sh];rfl
def L.ab.q0.r19:Reg:=by apply(fun{b:Reg}(_:b=.both (p (w [34,45]) (.call ⟨.value (a 34),#[a 45],#[80]⟩) 80 46 L.ab.q0.r11) (.both (p (w [57,61]) (.buildSlice 22 2 #[(0,a 57),(1,a 61)]) 22 62 L.ab.q0.r17) (p [] (.alloc 101) 0 10 L.ab.q0.r18)))=>b);simp only[sh];rfl
def L.ab.q0.r20:Reg:=by apply(fun{b:Reg}(_:b=.both (p (w [34,45]) (.call ⟨.value (a 34),#[a 45],#[80]⟩) 80 46 L.ab.q0.r12) (p (w [51]) (.buildSlice 22 1 #[(0,a 51)]) 22 52 L.ab.q0.r16))=>b);simp only[sh];rfl
def L.ab.q0.r21:Reg:=by apply(fun{b:Reg}(_:b=.both (p (w [34,45]) (.call ⟨.value (a 34),#[a 45],#[80]⟩) 80 46 L.ab.q0.r13) (.both (p (w [51]) (.buildSlice 22 1 #[(0,a 51)]) 22 52 L.ab.q0.r17) (p [] (.alloc 101) 0 10 L.ab.q0.r20)))=>b);simp only[sh];rfl
def L.ab.q0.r22:Reg:=by apply(fun{b:Reg}(_:b=.both (p (w [34,45]) (.call ⟨.value (a 34),#[a 45],#[80]⟩) 80 46 L.ab.q0.r14) (.both (p (w [51]) (.buildSlice 22 1 #[(0,a 51)]) 22 52 L.ab.q0.r18) (p (w [57,61]) (.buildSlice 22 2 #[(0,a 57),(1,a 61)]) 22 62 L.ab.q0.r20)))=>b);simp only[sh];rfl
def L.ab.q0.r23:Reg:=by apply(fun{b:Reg}(_:b=.both (p (w [34,45]) (.call ⟨.value (a 34),#[a 45],#[80]⟩) 80 46 L.ab.q0.r15) (.both (p (w [51]) (.buildSlice 22 1 #[(0,a 51)]) 22 52 L.ab.q0.r19) (.both (p (w [57,61]) (.buildSlice 22 2 #[(0,a 57),(1,a 61)]) 22 62 L.ab.q0.r21) (p [] (.alloc 101) 0 10 L.ab.q0.r22))))=>b);simp only[sh];rfl
def L.ab.q0.r24:Reg:=by apply(fun{b:Reg}(_:b=p (w [35,39,44]) (.build 80 #[(0,a 35),(3,a 39),(6,a 44)]) 80 45 L.ab.q0.r16)=>b);simp only[sh];rfl
def L.ab.q0.r25:Reg:=by apply(fun{b:Reg}(_:b=.both (p (w [35,39,44]) (.build 80 #[(0,a 35),(3,a 39),(6,a 44)]) 80 45 L.ab.q0.r17) (p [] (.alloc 101) 0 10 L.ab.q0.r24))=>b);simp only[sh];rfl
def L.ab.q0.r26:Reg:=by apply(fun{b:Reg}(_:b=.both (p (w [35,39,44]) (.build 80 #[(0,a 35),(3,a 39),(6,a 44)]) 80 45 L.ab.q0.r18) (p (w [57,61]) (.buildSlice 22 2 #[(0,a 57),(1,a 61)]) 22 62 L.ab.q0.r24))=>b);simp only[sh];rfl
def L.ab.q0.r27:Reg:=by apply(fun{b:Reg}(_:b=.both (p (w [35,39,44]) (.build 80 #[(0,a 35),(3,a 39),(6,a 44)]) 80 45 L.ab.q0.r19) (.both (p (w [57,61]) (.buildSlice 22 2 #[(0,a 57),(1,a 61)]) 22 62 L.ab.q0.r25) (p [] (.alloc 101) 0 10 L.ab.q0.r26)))=>b);simp only[sh];rfl
def L.ab.q0.r28:Reg:=by apply(fun{b:Reg}(_:b=.both (p (w [35,39,44]) (.build 80 #[(0,a 35),(3,a 39),(6,a 44)]) 80 45 L.ab.q0.r20) (p (w [51]) (.buildSlice 22 1 #[(0,a 51)]) 22 52 L.ab.q0.r24))=>b);simp only[sh];rfl
def L.ab.q0.r29:Reg:=by apply(fun{b:Reg}(_:b=.both (p (w [35,39,44]) (.build 80 #[(0,a 35),(3,a 39),(6,a 44)]) 80 45 L.ab.q0.r21) (.both (p (w [51]) (.buildSlice 22 1 #[(0,a 51)]) 22 52 L.ab.q0.r25) (p [] (.alloc 101) 0 10 L.ab.q0.r28)))=>b);simp only[sh];rfl
def L.ab.q0.r30:Reg:=by apply(fun{b:Reg}(_:b=.both (p (w [35,39,44]) (.build 80 #[(0,a 35),(3,a 39),(6,a 44)]) 80 45 L.ab.q0.r22) (.both (p (w [51]) (.buildSlice 22 1 #[(0,a 51)]) 22 52 L.ab.q0.r26) (p (w [57,61]) (.buildSlice 22 2 #[(0,a 57),(1,a 61)]) 22 62 L.ab.q0.r28)))=>b);simp only[sh];rfl
def L.ab.q0.r31:Reg:=by apply(fun{b:Reg}(_:b=.both (l [34,35,36,37,38,39,40,41,42,43,44,47,48,49,50,51,54,55,56,57,58,59,60,61] [(34,d (t 2)),(47,d (t 4)),(51,d (i 1 (g 3 (t 7)) (c 0))),(57,d (i 1 (g 3 (t 1)) (c 0))),(61,d (i 1 (g 3 (t 7)) (c 1)))] [(35,d (t 3)),(39,d (i 1 (g 3 (t 7)) (c 0))),(44,o (.un (.conv .i32) (t 9)) (g 4 (t 1)))] (.build 80 #[(0,a 35),(3,a 39),(6,a 44)]) 80 45 L.ab.q0.r23) (.both (l [34,35,36,37,38,39,40,41,42,43,44,47,48,49,50,51,54,55,56,57,58,59,60,61] [(34,d (t 2)),(35,d (t 3)),(39,d (i 1 (g 3 (t 7)) (c 0))),(44,o (.un (.conv .i32) (t 9)) (g 4 (t 1))),(47,d (t 4)),(57,d (i 1 (g 3 (t 1)) (c 0))),(61,d (i 1 (g 3 (t 7)) (c 1)))] [(51,d (i 1 (g 3 (t 7)) (c 0)))] (.buildSlice 22 1 #[(0,a 51)]) 22 52 L.ab.q0.r27) (.both (l [34,35,36,37,38,39,40,41,42,43,44,47,48,49,50,51,54,55,56,57,58,59,60,61] [(34,d (t 2)),(35,d (t 3)),(39,d (i 1 (g 3 (t 7)) (c 0))),(44,o (.un (.conv .i32) (t 9)) (g 4 (t 1))),(47,d (t 4)),(51,d (i 1 (g 3 (t 7)) (c 0)))] [(57,d (i 1 (g 3 (t 1)) (c 0))),(61,d (i 1 (g 3 (t 7)) (c 1)))] (.buildSlice 22 2 #[(0,a 57),(1,a 61)]) 22 62 L.ab.q0.r29) (l [34,35,36,37,38,39,40,41,42,43,44,47,48,49,50,51,54,55,56,57,58,59,60,61] [(34,d (t 2)),(35,d (t 3)),(39,d (i 1 (g 3 (t 7)) (c 0))),(44,o (.un (.conv .i32) (t 9)) (g 4 (t 1))),(47,d (t 4)),(51,d (i 1 (g 3 (t 7)) (c 0))),(57,d (i 1 (g 3 (t 1)) (c 0))),(61,d (i 1 (g 3 (t 7)) (c 1)))] [] (.alloc 101) 0 10 L.ab.q0.r30))))=>b);simp only[sh];rfl
theorem E.ab.q0r0:regD Sn 76 L.ab.q0.ops [22,5,6,1,0,8,5,7,4,9,3,2,10] (Se 29) 29 (S4 36 34359738367)=Se L.ab.q0.r0:=bT (subs:=[]) R1 (λ_ h=>by cases h)
theorem E.ab.q0r1:regD Sn 76 L.ab.q0.ops [22,5,6,1,0,8,5,7,4,9,3,2,10] (Se 29) 30 (S4 36 17179869183)=Se L.ab.q0.r1:=bT (subs:=[((S4 36 34359738367),L.ab.q0.r0)]) R1 (N9.2 ⟨E.ab.q0r0,λ_ h=>by cases h⟩)
theorem E.ab.q0r2:regD Sn 76 L.ab.q0.ops [22,5,6,1,0,8,5,7,4,9,3,2,10] (Se 29) 31 (S4 36 1073741823)=Se L.ab.q0.r2:=bT (subs:=[((S4 36 17179869183),L.ab.q0.r1)]) R1 (N9.2 ⟨E.ab.q0r1,λ_ h=>by cases h⟩)
theorem E.ab.q0r3:regD Sn 76 L.ab.q0.ops [22,5,6,1,0,8,5,7,4,9,3,2,10] (Se 29) 30 (S4 36 9663676415)=Se L.ab.q0.r3:=bT (subs:=[((S4 36 34359738367),L.ab.q0.r0)]) R1 (N9.2 ⟨E.ab.q0r0,λ_ h=>by cases h⟩)
theorem E.ab.q0r4:regD Sn 76 L.ab.q0.ops [22,5,6,1,0,8,5,7,4,9,3,2,10] (Se 29) 31 (S4 36 9126805503)=Se L.ab.q0.r4:=bT (subs:=[((S4 36 9663676415),L.ab.q0.r3)]) R1 (N9.2 ⟨E.ab.q0r3,λ_ h=>by cases h⟩)
theorem E.ab.q0r5:regD Sn 76 L.ab.q0.ops [22,5,6,1,0,8,5,7,4,9,3,2,10] (Se 29) 32 (S4 36 536870911)=Se L.ab.q0.r5:=bT (subs:=[((S4 36 1073741823),L.ab.q0.r2),((S4 36 9126805503),L.ab.q0.r4)]) R1 (N9.2 ⟨E.ab.q0r2,N9.2 ⟨E.ab.q0r4,λ_ h=>by cases h⟩⟩)
theorem E.ab.q0r6:regD Sn 76 L.ab.q0.ops [22,5,6,1,0,8,5,7,4,9,3,2,10] (Se 29) 32 (S4 36 8858370047)=Se L.ab.q0.r6:=bT (subs:=[((S4 36 9126805503),L.ab.q0.r4)]) R1 (N9.2 ⟨E.ab.q0r4,λ_ h=>by cases h⟩)
theorem E.ab.q0r7:regD Sn 76 L.ab.q0.ops [22,5,6,1,0,8,5,7,4,9,3,2,10] (Se 29) 33 (S4 36 268435455)=Se L.ab.q0.r7:=bT (subs:=[((S4 36 536870911),L.ab.q0.r5),((S4 36 8858370047),L.ab.q0.r6)]) R1 (N9.2 ⟨E.ab.q0r5,N9.2 ⟨E.ab.q0r6,λ_ h=>by cases h⟩⟩)
theorem E.ab.q0r8:regD Sn 76 L.ab.q0.ops [22,5,6,1,0,8,5,7,4,9,3,2,10] (Se 29) 32 (S4 36 9126281215)=Se L.ab.q0.r8:=bT (subs:=[((S4 36 9126805503),L.ab.q0.r4)]) R1 (N9.2 ⟨E.ab.q0r4,λ_ h=>by cases h⟩)
theorem E.ab.q0r9:regD Sn 76 L.ab.q0.ops [22,5,6,1,0,8,5,7,4,9,3,2,10] (Se 29) 33 (S4 36 536346623)=Se L.ab.q0.r9:=bT (subs:=[((S4 36 536870911),L.ab.q0.r5),((S4 36 9126281215),L.ab.q0.r8)]) R1 (N9.2 ⟨E.ab.q0r5,N9.2 ⟨E.ab.q0r8,λ_ h=>by cases h⟩⟩)
theorem E.ab.Iq:regD Sn 76 L.ab.q0.ops [22,5,6,1,0,8,5,7,4,9,3,2,10] (Se 29) 33 (S4 36 8857845759)=Se L.ab.q0.r10:=bT (subs:=[((S4 36 8858370047),L.ab.q0.r6),((S4 36 9126281215),L.ab.q0.r8)]) R1 (N9.2 ⟨E.ab.q0r6,N9.2 ⟨E.ab.q0r8,λ_ h=>by cases h⟩⟩)
theorem E.ab.Kz:regD Sn 76 L.ab.q0.ops [22,5,6,1,0,8,5,7,4,9,3,2,10] (Se 29) 34 (S4 36 267911167)=Se L.ab.q0.r11:=bT (subs:=[((S4 36 268435455),L.ab.q0.r7),((S4 36 536346623),L.ab.q0.r9),((S4 36 8857845759),L.ab.q0.r10)]) R1 (N9.2 ⟨E.ab.q0r7,N9.2 ⟨E.ab.q0r9,N9.2 ⟨E.ab.Iq,λ_ h=>by cases h⟩⟩⟩)
theorem E.ab.GK:regD Sn 76 L.ab.q0.ops [22,5,6,1,0,8,5,7,4,9,3,2,10] (Se 29) 33 (S4 36 9126019071)=Se L.ab.q0.r12:=bT (subs:=[((S4 36 9126281215),L.ab.q0.r8)]) R1 (N9.2 ⟨E.ab.q0r8,λ_ h=>by cases h⟩)
theorem E.ab.KM:regD Sn 76 L.ab.q0.ops [22,5,6,1,0,8,5,7,4,9,3,2,10] (Se 29) 34 (S4 36 536084479)=Se L.ab.q0.r13:=bT (subs:=[((S4 36 536346623),L.ab.q0.r9),((S4 36 9126019071),L.ab.q0.r12)]) R1 (N9.2 ⟨E.ab.q0r9,N9.2 ⟨E.ab.GK,λ_ h=>by cases h⟩⟩)
theorem E.ab.KU:regD Sn 76 L.ab.q0.ops [22,5,6,1,0,8,5,7,4,9,3,2,10] (Se 29) 34 (S4 36 8857583615)=Se L.ab.q0.r14:=bT (subs:=[((S4 36 8857845759),L.ab.q0.r10),((S4 36 9126019071),L.ab.q0.r12)]) R1 (N9.2 ⟨E.ab.Iq,N9.2 ⟨E.ab.GK,λ_ h=>by cases h⟩⟩)
theorem E.ab.MX:regD Sn 76 L.ab.q0.ops [22,5,6,1,0,8,5,7,4,9,3,2,10] (Se 29) 35 (S4 36 267649023)=Se L.ab.q0.r15:=bT (subs:=[((S4 36 267911167),L.ab.q0.r11),((S4 36 536084479),L.ab.q0.r13),((S4 36 8857583615),L.ab.q0.r14)]) R1 (N9.2 ⟨E.ab.Kz,N9.2 ⟨E.ab.KM,N9.2 ⟨E.ab.KU,λ_ h=>by cases h⟩⟩⟩)
theorem E.ab.Eu:regD Sn 76 L.ab.q0.ops [22,5,6,1,0,8,5,7,4,9,3,2,10] (Se 29) 33 (S4 36 9126277119)=Se L.ab.q0.r16:=bT (subs:=[((S4 36 9126281215),L.ab.q0.r8)]) R1 (N9.2 ⟨E.ab.q0r8,λ_ h=>by cases h⟩)
theorem E.ab.HP:regD Sn 76 L.ab.q0.ops [22,5,6,1,0,8,5,7,4,9,3,2,10] (Se 29) 34 (S4 36 536342527)=Se L.ab.q0.r17:=bT (subs:=[((S4 36 536346623),L.ab.q0.r9),((S4 36 9126277119),L.ab.q0.r16)]) R1 (N9.2 ⟨E.ab.q0r9,N9.2 ⟨E.ab.Eu,λ_ h=>by cases h⟩⟩)
theorem E.ab.GX:regD Sn 76 L.ab.q0.ops [22,5,6,1,0,8,5,7,4,9,3,2,10] (Se 29) 34 (S4 36 8857841663)=Se L.ab.q0.r18:=bT (subs:=[((S4 36 8857845759),L.ab.q0.r10),((S4 36 9126277119),L.ab.q0.r16)]) R1 (N9.2 ⟨E.ab.Iq,N9.2 ⟨E.ab.Eu,λ_ h=>by cases h⟩⟩)
theorem E.ab.Ks:regD Sn 76 L.ab.q0.ops [22,5,6,1,0,8,5,7,4,9,3,2,10] (Se 29) 35 (S4 36 267907071)=Se L.ab.q0.r19:=bT (subs:=[((S4 36 267911167),L.ab.q0.r11),((S4 36 536342527),L.ab.q0.r17),((S4 36 8857841663),L.ab.q0.r18)]) R1 (N9.2 ⟨E.ab.Kz,N9.2 ⟨E.ab.HP,N9.2 ⟨E.ab.GX,λ_ h=>by cases h⟩⟩⟩)
theorem E.ab.HT:regD Sn 76 L.ab.q0.ops [22,5,6,1,0,8,5,7,4,9,3,2,10] (Se 29) 34 (S4 36 9126014975)=Se L.ab.q0.r20:=bT (subs:=[((S4 36 9126019071),L.ab.q0.r12),((S4 36 9126277119),L.ab.q0.r16)]) R1 (N9.2 ⟨E.ab.GK,N9.2 ⟨E.ab.Eu,λ_ h=>by cases h⟩⟩)
theorem E.ab.KH:regD Sn 76 L.ab.q0.ops [22,5,6,1,0,8,5,7,4,9,3,2,10] (Se 29) 35 (S4 36 536080383)=Se L.ab.q0.r21:=bT (subs:=[((S4 36 536084479),L.ab.q0.r13),((S4 36 536342527),L.ab.q0.r17),((S4 36 9126014975),L.ab.q0.r20)]) R1 (N9.2 ⟨E.ab.KM,N9.2 ⟨E.ab.HP,N9.2 ⟨E.ab.HT,λ_ h=>by cases h⟩⟩⟩)
theorem E.ab.KL:regD Sn 76 L.ab.q0.ops [22,5,6,1,0,8,5,7,4,9,3,2,10] (Se 29) 35 (S4 36 8857579519)=Se L.ab.q0.r22:=bT (subs:=[((S4 36 8857583615),L.ab.q0.r14),((S4 36 8857841663),L.ab.q0.r18),((S4 36 9126014975),L.ab.q0.r20)]) R1 (N9.2 ⟨E.ab.KU,N9.2 ⟨E.ab.GX,N9.2 ⟨E.ab.HT,λ_ h=>by cases h⟩⟩⟩)
theorem E.ab.MY:regD Sn 76 L.ab.q0.ops [22,5,6,1,0,8,5,7,4,9,3,2,10] (Se 29) 36 (S4 36 267644927)=Se L.ab.q0.r23:=bT (subs:=[((S4 36 267649023),L.ab.q0.r15),((S4 36 267907071),L.ab.q0.r19),((S4 36 536080383),L.ab.q0.r21),((S4 36 8857579519),L.ab.q0.r22)]) R1 (N9.2 ⟨E.ab.MX,N9.2 ⟨E.ab.Ks,N9.2 ⟨E.ab.KH,N9.2 ⟨E.ab.KL,λ_ h=>by cases h⟩⟩⟩⟩)
theorem E.ab.Hf:regD Sn 76 L.ab.q0.ops [22,5,6,1,0,8,5,7,4,9,3,2,10] (Se 29) 34 (S4 36 9126275071)=Se L.ab.q0.r24:=bT (subs:=[((S4 36 9126277119),L.ab.q0.r16)]) R1 (N9.2 ⟨E.ab.Eu,λ_ h=>by cases h⟩)
theorem E.ab.KR:regD Sn 76 L.ab.q0.ops [22,5,6,1,0,8,5,7,4,9,3,2,10] (Se 29) 35 (S4 36 536340479)=Se L.ab.q0.r25:=bT (subs:=[((S4 36 536342527),L.ab.q0.r17),((S4 36 9126275071),L.ab.q0.r24)]) R1 (N9.2 ⟨E.ab.HP,N9.2 ⟨E.ab.Hf,λ_ h=>by cases h⟩⟩)
theorem E.ab.Kw:regD Sn 76 L.ab.q0.ops [22,5,6,1,0,8,5,7,4,9,3,2,10] (Se 29) 35 (S4 36 8857839615)=Se L.ab.q0.r26:=bT (subs:=[((S4 36 8857841663),L.ab.q0.r18),((S4 36 9126275071),L.ab.q0.r24)]) R1 (N9.2 ⟨E.ab.GX,N9.2 ⟨E.ab.Hf,λ_ h=>by cases h⟩⟩)
theorem E.ab.MQ:regD Sn 76 L.ab.q0.ops [22,5,6,1,0,8,5,7,4,9,3,2,10] (Se 29) 36 (S4 36 267905023)=Se L.ab.q0.r27:=bT (subs:=[((S4 36 267907071),L.ab.q0.r19),((S4 36 536340479),L.ab.q0.r25),((S4 36 8857839615),L.ab.q0.r26)]) R1 (N9.2 ⟨E.ab.Ks,N9.2 ⟨E.ab.KR,N9.2 ⟨E.ab.Kw,λ_ h=>by cases h⟩⟩⟩)
theorem E.ab.KS:regD Sn 76 L.ab.q0.ops [22,5,6,1,0,8,5,7,4,9,3,2,10] (Se 29) 35 (S4 36 9126012927)=Se L.ab.q0.r28:=bT (subs:=[((S4 36 9126014975),L.ab.q0.r20),((S4 36 9126275071),L.ab.q0.r24)]) R1 (N9.2 ⟨E.ab.HT,N9.2 ⟨E.ab.Hf,λ_ h=>by cases h⟩⟩)
theorem E.ab.ML:regD Sn 76 L.ab.q0.ops [22,5,6,1,0,8,5,7,4,9,3,2,10] (Se 29) 36 (S4 36 536078335)=Se L.ab.q0.r29:=bT (subs:=[((S4 36 536080383),L.ab.q0.r21),((S4 36 536340479),L.ab.q0.r25),((S4 36 9126012927),L.ab.q0.r28)]) R1 (N9.2 ⟨E.ab.KH,N9.2 ⟨E.ab.KR,N9.2 ⟨E.ab.KS,λ_ h=>by cases h⟩⟩⟩)
theorem E.ab.ME:regD Sn 76 L.ab.q0.ops [22,5,6,1,0,8,5,7,4,9,3,2,10] (Se 29) 36 (S4 36 8857577471)=Se L.ab.q0.r30:=bT (subs:=[((S4 36 8857579519),L.ab.q0.r22),((S4 36 8857839615),L.ab.q0.r26),((S4 36 9126012927),L.ab.q0.r28)]) R1 (N9.2 ⟨E.ab.KL,N9.2 ⟨E.ab.Kw,N9.2 ⟨E.ab.KS,λ_ h=>by cases h⟩⟩⟩)
theorem E.ab.Ng:regD Sn 76 L.ab.q0.ops [22,5,6,1,0,8,5,7,4,9,3,2,10] (Se 29) 37 (Array.replicate 36 Sk)=Se L.ab.q0.r31:=bT (subs:=[((S4 36 267644927),L.ab.q0.r23),((S4 36 267905023),L.ab.q0.r27),((S4 36 536078335),L.ab.q0.r29),((S4 36 8857577471),L.ab.q0.r30)]) R1 (N9.2 ⟨E.ab.MY,N9.2 ⟨E.ab.MQ,N9.2 ⟨E.ab.ML,N9.2 ⟨E.ab.ME,λ_ h=>by cases h⟩⟩⟩⟩)
def L.ab:LFn:=
⟨[(.un (.aT 8) (.tmp 5)),(.tmp 6)],
 (.seq
 (.reg Sk (.loud [] [] [] Sf [] Sk (.alloc 101) 0 (Se 5) Sj
  (.fin [6] [(6,(.con (.bool Sk)))] [])))
 (.seq
 (.reg Sj (.both
  (.loud [13,14,15,16,17] [] [(13,(.un (.aT 13) (.tmp 0))),(17,(.un .load (.bin (.idx 1) (.un .load (.un (.fld 3) (.tmp 1))) (.con (Sb Sc 0)))))] Sf [] Sj (.call ⟨.value (.func 100),#[(.tmp 13),(.tmp 17),(.const (Sb Sc 2))],#[97,3,3]⟩) 163 (Se 18) Sj
   (.loud [12,19,20] [(19,(.un (.ext 0) (.tmp 18))),(20,(.un (.ext 1) (.tmp 18)))] [] Sf [] Sk (.alloc 70) 0 (Se 7) Sj
    (.loud [] [] [(7,(.tmp 7)),(19,(.tmp 19))] Sf [] Sk (.store 70 (.tmp 7) (.tmp 19)) 0 Sf Sk
     (.fin [8] [(8,(.tmp 20))] []))))
  (.loud [13,14,15,16,17] [(13,(.un (.aT 13) (.tmp 0))),(17,(.un .load (.bin (.idx 1) (.un .load (.un (.fld 3) (.tmp 1))) (.con (Sb Sc 0)))))] [] Sf [] Sk (.alloc 70) 0 (Se 7) Sj
   (.loud [] [] [(13,(.tmp 13)),(17,(.tmp 17))] Sf [] Sj (.call ⟨.value (.func 100),#[(.tmp 13),(.tmp 17),(.const (Sb Sc 2))],#[97,3,3]⟩) 163 (Se 18) Sj
    (.loud [12,19,20] [(20,(.un (.ext 1) (.tmp 18)))] [(7,(.tmp 7)),(19,(.un (.ext 0) (.tmp 18)))] Sf [] Sk (.store 70 (.tmp 7) (.tmp 19)) 0 Sf Sk
     (.fin [8] [(8,(.tmp 20))] []))))))
 (.seq
 (.seq
 (.reg Sk (.fin [21,22] [(22,(.un .not (.tmp 8)))] []))
 (.cond (.tmp 22) [22]
  (.seq
  (.reg Sk (.loud [] [] [] Sf [] Sk (.build 101 #[]) 101 (Se 23) Sj
   (.loud [] [] [(5,(.tmp 5)),(23,(.tmp 23))] Sf [] Sk (.store 101 (.tmp 5) (.tmp 23)) 0 Sf Sk
    (.fin [6] [(6,(.con (.bool Sk)))] []))))
  .ret)
  .skip))
 (.seq
 (.reg Sj (.loud [25,26,27,28,29] [] [(25,(.un (.aT 13) (.tmp 0))),(29,(.un .load (.bin (.idx 1) (.un .load (.un (.fld 3) (.tmp 7))) (.con (Sb Sc 1)))))] Sf [] Sj (.call ⟨.value (.func 109),#[(.tmp 25),(.tmp 29),(.const (Sb Sc (-2147483648))),(.const (Sb Sc 2147483647))],#[97,3,3,3]⟩) 167 (Se 30) Sj
  (.fin [24,31,32,9,8] [(9,(.un (.ext 0) (.tmp 30))),(8,(.un (.ext 1) (.tmp 30)))] [])))
 (.seq
 (.reg Sj L.ab.q0.r31)
 (.seq
 (.reg Sj (.loud [66,67,68,69,70,71,72,73] [(66,(.un (.aT 8) (.tmp 10))),(68,(.tmp 8))] [(73,(.gd (.tmp 8) Sj (.bin (.arith .add) (.tmp 9) (.un (.conv .i64) (.un .load (.un (.fld 4) (.tmp 1)))))))] (Se ((.tmp 8),Sj)) [] Sk (.call ⟨.value (.func 42),#[(.tmp 73),(.const (Sb Sc 0)),(.const (Sb Sc 255))],#[3,3,3]⟩) 4 (Se 74) Sj
  (.loud [75] [(75,(.ite (.tmp 68) (.tmp 74) (.con (.bool Sk))))] [(5,(.tmp 5)),(66,(.tmp 66))] Sf [] Sj (.store 101 (.tmp 5) (.tmp 66)) 0 Sf Sk
   (.fin [6] [(6,(.tmp 75))] []))))
 .ret))))))⟩
theorem E.ab:aO Sn Tryz.f133=Se L.ab:=JQ (lv:=[22,5,6,1,0,8,5,7,4,9,3,2,10]) (lr:=[5,6,1,0,8,5,7,4,9,3,2,10]) (n:=76) R1 R1 R1 R1 R1
 (lA R1 R1
 (lA R1 R1
 (lA R1 R1
 (lA R1 R1
 (lA R1 (Aj (l0:=(Se 29)) (n:=36) R1 R1 R1 E.ab.Ng)
 (lA R1 R1
 R1))))))
end
theorem wrap32_in{a:Int}(h0:-2147483648<=a)(h1:a<=2147483647):IntKind.i32.wrap a=a:=by unfold IntKind.wrap;simp[IntKind.signed,IntKind.bits];omega
section
variable {V:View} {h:Heap} {S I O P Q LL TT:Nat} {s:cy} {op plain sum:Int}
set_option maxHeartbeats 4000000 in
theorem Kg(mx:Mx V S I O P Q LL TT s op plain sum)(hV:V.le (vw h))(hok:nL s)(hop:s.i.op=op)(ho:op=15\/op=16)(hp0:0<=plain/\plain<=100):
    aA Sn 133 #[ptr S,ptr I,ptr LL,ptr P,ptr TT] h (λu h'=>cj V h h' u (memS s.f s.i s.temp op plain sum 1)):=by
  refine au (args:=[ptr S,ptr I,ptr LL,ptr P,ptr TT]) follows Tryz.func133 E.ab S0 λK hK=>?_
  dsimp only[L.ab,lkF,lkG]
  have c0:=Cx.start hV
  have l1:1<=s.i.args.length:=by
    rcases ho with q | q
    · exact hok.one.one (hop.trans q)
    · have:=hok.one.two (.inr (.inl (hop.trans q)));omega
  have l2:op=15\/2<=s.i.args.length:=ho.imp id λq=>hok.one.two (.inr (.inl (hop.trans q)))
  refine aa λz hz=>?_
  simp
  refine c0.bW (k:=(0,0)) (n:=7) (z:=.agg fitZ.toArray) rfl R1 rfl R4 R8 λR hb hleb cb=>?_
  subst hz
  have i4:=(mx.ct.ins.part InsD.gD)
  have r4:=i4.nK
  have i4:ao V ⟨I,4,Sf⟩=Se (Sb Sd s.i.imm.v):=by simpa using i4.i32
  obtain⟨va,i3,hva⟩:=(mx.ct.ins.part InsD.eW).sl
  have i3:ao V ⟨I,3,Sf⟩=Se va:=by simpa using i3
  have a0:=hva.rng (i:=0) R3
  have most:=hok.one.most
  have q0:=hva.idx1 (k:=.i64) (i:=0) rfl R4 R3
  have d0:=hva.int (View.le_refl V) (i:=0) R3
  simp at q0
  obtain⟨us,hus,rus⟩:=mx.ct.site.ldN rfl (N:=13) rfl
  have hus:=hus V S2
  have hfm:=gK (f:=s.f) (v:=nth s.i.args 0) (op:=2)
  have hdo:memS s.f s.i s.temp op plain sum 1=if(aG s.f (nth s.i.args 0) 2).2 then
      if(dH s.f (nth (aG s.f (nth s.i.args 0) 2).1.args 1) (-2147483648) 2147483647).2&&inR ((dH s.f (nth (aG s.f (nth s.i.args 0) 2).1.args 1) (-2147483648) 2147483647).1+s.i.imm.v) 0 255 then
        Se ⟨nth (aG s.f (nth s.i.args 0) 2).1.args 0::s.i.args.drop 1,[nth s.i.args 0,nth (aG s.f (nth s.i.args 0) 2).1.args 1],
          [gg s.i op plain ⟨plain,0,0,nth (aG s.f (nth s.i.args 0) 2).1.args 0,0,0,w32 ((dH s.f (nth (aG s.f (nth s.i.args 0) 2).1.args 1) (-2147483648) 2147483647).1+s.i.imm.v),[]⟩],cC⟩
      else Sf
    else none:=rfl
  have hF:=@oL s us (nth s.i.args 0) 2
  generalize (aG s.f (nth s.i.args 0) 2).1=m at *
  generalize (aG s.f (nth s.i.args 0) 2).2=b at *
  refine aa λz hz=>?_
  have rest : ∀(W:View) (hx:Heap) (B2:Nat) (ρ:Env),V.le W->Cx V h W hx (Own.upd (λ_=>Sf) (0,0) (bx T.bh R (RawN.mk (n:=7) fitZ)))->At W ⟨B2,0,Sf⟩ m->
      Lft.look ρ 0=Se (ptr S)->Lft.look ρ 1=Se (ptr I)->Lft.look ρ 2=Se (ptr LL)->Lft.look ρ 3=Se (ptr P)->Lft.look ρ 4=Se (ptr TT)->Lft.look ρ 5=Se (ptr R)->Lft.look ρ 7=Se (ptr B2)->Lft.look ρ 8=Se (.bool b)->
      LC.wp Sn z (cz [.un (.aT 8) (.tmp 5),.tmp 6] K) ρ hx:=by
    intro W hx B2 ρ hVW c hat g0 g1 g2 g3 g4 g5 g7 g8
    rw[hz]
    refine aa λx hx'=>?_
    have none_ : ∀(hy:Heap) (o:Own) (l9:List Value),Cx V h W hy o->Rd W (.agg l9.toArray) nJ->b=Sk->K (.tuple #[.agg l9.toArray,.bool Sk]) hy:=λhy o l9 c hr e=>
      hK _ _ (cj.of c hr (by rw[hdo,e];rfl) λy e2=>by rw[hdo,e]at e2;cases e2)
    cases b with
    | false=>
      simp[g0,g1,g2,g3,g4,g5,g7,af,ag,g8]
      refine an (t:=T.bh) (z:=.agg fitZ.toArray) (places:=[(0,1),(1,1),(2,1),(3,5)]) (vs:=[]) (cs:=fitZ.toArray) R1 R1 Sa R1 ?_
      refine c.aK (k:=(0,0)) (n:=7) (l:=fitZ) RZ gq rfl rfl R1 Sa Sa λh9 l9 hl9 c9=>?_
      have hall:=c9.all (k:=(0,0)) (n:=7) (l:=l9) (B:=R) (e:=T.bh) RZ
      simp at hall
      simp[hall]
      exact none_ _ _ _ c9 (hl9▸gq) rfl
    | true=>
      obtain⟨m1,m2,-⟩:=hfm rfl
      have hma:=(hok.all _ m1).two R3
      obtain⟨vb,j3,hvb⟩:=(hat.part InsD.eW).sl
      have j3:ao W ⟨B2,3,Sf⟩=Se vb:=by simpa using j3
      have b0:=hvb.rng (i:=0) R3
      have b1:=hvb.rng (i:=1) R3
      have q2:=hvb.idx1 (k:=.i64) (i:=0) rfl R4 R3
      have q3:=hvb.idx1 (k:=.i64) (i:=1) rfl R4 R3
      have d2:=hvb.int (View.le_refl W) (i:=0) R3
      have d3:=hvb.int (View.le_refl W) (i:=1) R3
      simp at q2 q3
      have i4:=ae hVW i4
      have i3:=ae hVW i3
      have d0:=ae hVW d0
      have hus:=dq (ρ:=λ_=>Sf) (e:=.un (.aT 13) (.con (Si (Se ⟨S,0,Sf⟩)))) hVW (v:=us) (by simpa using hus)
      have hus:Un.ev W (.aT 13) (Si (Se ⟨S,0,Sf⟩))=Se us:=by simpa using hus
      have rus:=rus.mono hVW
      have eL:=ae hVW mx.laid
      have eT:=ae hVW mx.with_
      have eP:=ae hVW mx.plain
      have mx:=mx.mono hVW
      simp[g0,g1,g2,g3,g4,g5,g7,af,ag,g8]
      rw[hx'];clear hx' x
      refine aa λx hx'=>?_
      refine aI W c.wle ?_
      simp[g0,g1,g2,g3,g4,g5,g7,af,ag,hus,j3,q3,d3]
      refine aj R1 (wI c.wle rus hok.sm b1) ?_
      rintro _ hc ⟨hle,rfl⟩
      have rk:-2147483648<=(dH s.f (nth m.args 1) (-2147483648) 2147483647).1/\(dH s.f (nth m.args 1) (-2147483648) 2147483647).1<=2147483647:=ym hok.rng
      generalize (dH s.f (nth m.args 1) (-2147483648) 2147483647).1=k at *
      generalize (dH s.f (nth m.args 1) (-2147483648) 2147483647).2=ok at *
      have cc:Cx V h W hc _:=⟨c.own.ext' hle,c.old,S3 c.le0 hle,c.new⟩
      simp[g0,g1,g2,g3,g4,g5,g7,af,ag]
      rw[hx'];clear hx' x
      have ei:IntKind.i32.wrap k=k:=wrap32_in rk.1 rk.2
      have e2:IntKind.i64.wrap s.i.imm.v=s.i.imm.v:=bj R3 R3
      have e3:IntKind.i64.wrap (k+s.i.imm.v)=k+s.i.imm.v:=bj R3 R3
      have hm : ∀X,Rd X (.agg #[Sb Sc plain,Sb Sc 0,Sb Sc 0,Sb Sc (nth m.args 0),Sb Sc 0,Sb Sc 0,Sb Sd (IntKind.i32.wrap (k+s.i.imm.v)),Sg Sf 0 0]) (⟨plain,0,0,nth m.args 0,0,0,w32 (k+s.i.imm.v),[]⟩:aH):=λX=>dY (imm:=w32 (k+s.i.imm.v)) R9 (xm _) aF
      have fin : ∀(W:View) (hx:Heap) (o:Own) (l9:List Value),Cx V h W hx o->Rd W (.agg l9.toArray) (⟨nth m.args 0::s.i.args.drop 1,[nth s.i.args 0,nth m.args 1],[gg s.i op plain ⟨plain,0,0,nth m.args 0,0,0,w32 (k+s.i.imm.v),[]⟩],cC⟩:FitD)->K (.tuple #[.agg l9.toArray,.bool (ok&&inR (k+s.i.imm.v) 0 255)]) hx:=λW hx o l9 c hr=>
        hK _ _ (cj.of c hr (by rw[hdo];cases ok&&inR (k+s.i.imm.v) 0 255<;>rfl) λy e=>by
          rw[hdo,if_pos rfl]at e
          split at e
          · cases e;rfl
          · cases e)
      clear none_ hK hdo hF hfm hus
      refine aa λx hx'=>?_
      have tl : ∀(h2:Heap) (W2:View) (o:Own) (R2:Nat) (l9:List Value) (ρ2:Env),W.le W2->Cx V h W2 h2 o->o (0,0)=bx T.bh R (RawN.mk (n:=7) fitZ)->o (0,1)=bx T.bh R2 (RawN.mk (n:=7) l9)->Rd W2 (.agg l9.toArray) (⟨nth m.args 0::s.i.args.drop 1,[nth s.i.args 0,nth m.args 1],[gg s.i op plain ⟨plain,0,0,nth m.args 0,0,0,w32 (k+s.i.imm.v),[]⟩],cC⟩:FitD)->
          Lft.look ρ2 1=Se (ptr I)->Lft.look ρ2 5=Se (ptr R)->Lft.look ρ2 8=Se (.bool ok)->Lft.look ρ2 9=Se (Sb Sc k)->Lft.look ρ2 10=Se (ptr R2)->LC.wp Sn x (cz [.un (.aT 8) (.tmp 5),.tmp 6] K) ρ2 h2:=by
        intro h2 W2 o R2 l9 ρ2 hW2 c ho1 ho2 hr f1 f5 f8 f9 f10
        rw[hx']
        refine aa λv hv=>?_
        have hall:=c.all (k:=(0,1)) (n:=7) (l:=l9) (B:=R2) (e:=T.bh) ho2
        simp at hall
        refine aI (vw h2) S2 ?_
        have last : ∀(b:Bool) (ρ3:Env),Lft.look ρ3 5=Se (ptr R)->Lft.look ρ3 6=Se (.bool (ok&&inR (k+s.i.imm.v) 0 255))->∀h3 l3,Cx V h W2 h3 (o.upd (0,0) (bx T.bh R (RawN.mk (n:=7) l3)))->Value.agg l9.toArray=Value.agg l3.toArray->LC.wp Sn v (cz [.un (.aT 8) (.tmp 5),.tmp 6] K) ρ3 h3:=λb ρ3 k5 k6 h3 l3 c3 el=>by
          rw[hv]
          have hall:=c3.all (k:=(0,0)) (n:=7) (l:=l3) (B:=R) (e:=T.bh) Own.ah
          simp at hall
          simp[k5,k6,hall]
          exact fin _ _ _ _ c3 (el▸hr)
        refine ay λy hy=>?_
        cases ok with
        | false=>
          simp[f1,f5,f8,f9,f10,af,ag,hall,ae (S3 hW2 c.wle) i4,e2,e3]
          subst hy
          refine ay λy hy=>?_
          simp[f1,f5,f8,f9,f10,af,ag]
          refine c.aK (k:=(0,0)) (n:=7) (l:=fitZ) ho1 hr rfl rfl R1 Sa Sa λh4 l4 hl4 c4=>?_
          subst hy
          simp[f1,f5,f8,f9,f10,af,ag]
          exact last Sk _ (by simp[f1,f5,f8,f9,f10,af,ag]) (by simp[f1,f5,f8,f9,f10,af,ag]) _ _ c4 hl4
        | true=>
          simp[f1,f5,f8,f9,f10,af,ag,hall,ae (S3 hW2 c.wle) i4,e2,e3]
          refine aj R1 jU ?_
          rintro _ h3 ⟨rfl,rfl⟩
          refine⟨View.le_refl _,?_⟩
          subst hy
          refine ay λy hy=>?_
          simp[f1,f5,f8,f9,f10,af,ag]
          refine c.aK (k:=(0,0)) (n:=7) (l:=fitZ) ho1 hr rfl rfl R1 Sa Sa λh4 l4 hl4 c4=>?_
          subst hy
          simp[f1,f5,f8,f9,f10,af,ag]
          exact last Sk _ (by simp[f1,f5,f8,f9,f10,af,ag]) (by simp[f1,f5,f8,f9,f10,af,ag]) _ _ c4 hl4
      clear fin
      have c:=cc
      refine aI W c.wle ?_
      have hWV:W.le W:=View.le_refl _
      repeat' (first
        | refine dT ?_ ?_
        | (refine ay λy hy=>?_
           simp[g0,g1,g2,g3,g4,g5,g7,af,ag,i3,i4,j3,q0,q2,q3,d0,d2,d3,eL,eT,eP,ei]
           first
           | refine an (t:=T.cW) (z:=.agg wF.toArray) (places:=[(0,1),(1,1),(2,1),(3,1),(4,1),(5,1),(6,1),(7,1)]) (vs:=[(0,Sb Sc plain),(3,Sb Sc (nth m.args 0)),(6,Sb Sd (IntKind.i32.wrap (k+s.i.imm.v)))]) (cs:=#[Sb Sc plain,Sb Sc 0,Sb Sc 0,Sb Sc (nth m.args 0),Sb Sc 0,Sb Sc 0,Sb Sd (IntKind.i32.wrap (k+s.i.imm.v)),Sg Sf 0 0]) R1 R1 Sa R1 ?_
           | (refine c.jO (k:=(0,2)) (n:=1) (l:=[nth m.args 0]) RZ El.aP ?_ ?_ rfl R4 λuA h hle c=>?_
              · simp;done
              · simp;omega)
           | (refine c.eF (α:=Int) (n:=2) (vs:=[Sb Sc (nth s.i.args 0),Sb Sc (nth m.args 1)]) (ds:=[nth s.i.args 0,nth m.args 1]) El.aP ?_ ⟨aX.2 ⟨rfl,a0⟩,aX.2 ⟨rfl,b1⟩,trivial⟩ rfl R4 R4 λuB h W hW c huB hle=>?_
              · simp;done)
           | (refine cg (ops:=[.tmp 45]) (caps:=#[ptr O,ptr I,ptr P]) rfl R1 (xj mx S1 c.wle (hm _) l2) ?_
              rintro um h ⟨hle,hum⟩
              have hW:=c.up (h':=h)
              have c:=c.ext hle)
           | (refine cg (ops:=[.tmp 52]) (caps:=#[ptr I]) rfl R1 (xd mx S1 c.wle (c.own.get (k:=(0,2)) (v:=uA) (l:=[nth m.args 0]) RZ) Sa l1 R3) ?_
              rintro uw h ⟨own2,mv⟩
              have c:=c.iu (k:=(0,2)) (v:=uA) (l:=[nth m.args 0]) RZ own2 mv
              obtain⟨W,hW,c,huA⟩:=c.freeze (k:=(0,2)) (v:=uw) (l:=[nth m.args 0]++s.i.args.drop 1) RZ)
           | refine c.bW (k:=(0,1)) (n:=7) (z:=.agg fitZ.toArray) RZ R1 rfl R4 R8 λR2 h hle c=>?_
           | (refine aj R1 (ll c.wle (hum.mono S1) (huA.mono S1) (huB.mono S1)) ?_
              rintro _ h ⟨hle,vf,rfl,hvf⟩
              have hW:=c.up (h':=h)
              have c:=c.ext hle)
           | refine c.aK (k:=(0,1)) (n:=7) (l:=fitZ) RZ (hvf.mono S1) rfl rfl R1 Sa Sa λh l9 hl9 c=>?_
           try refine⟨S3 S1 c.wle,?_⟩
           subst hy))
      all_goals
        simp[g0,g1,g2,g3,g4,g5,g7,af,ag,L.ab.q0.r0]
        exact tl _ _ _ _ _ _ S1 c RZ RZ (hl9▸hvf.mono S1) (by simp[g0,g1,g2,g3,g4,g5,g7,af,ag]) (by simp[g0,g1,g2,g3,g4,g5,g7,af,ag]) (by simp[g0,g1,g2,g3,g4,g5,g7,af,ag]) (by simp[g0,g1,g2,g3,g4,g5,g7,af,ag]) (by simp[g0,g1,g2,g3,g4,g5,g7,af,ag])
  refine aI V cb.wle ?_
  have c:=cb
  refine dT ?_ ?_
  · refine ay λy hy=>?_
    simp[hus,i3,q0,d0]
    refine aj R1 (hF c.wle rus hok.sm a0) ?_
    rintro _ h1 ⟨hle1,vm,rfl,hvm⟩
    have hW1:=c.up (h':=h1)
    have c:=c.ext hle1
    subst hy
    refine ay λy hy=>?_
    simp
    refine c.db (k:=(0,4)) (z:=.agg insZ.toArray) (d:=eZ) RZ R1 iU R4 λB2 h2 hle2 c=>?_
    subst hy
    refine ay λy hy=>?_
    simp
    refine c.cA Part.all (k:=(0,4)) (D:=eZ) (d:=m) RZ R1 Sa Sa hvm λh3 c=>?_
    subst hy
    simp
    obtain⟨W4,hW4,c,hat⟩:=c.mT (k:=(0,4)) (B:=B2) (d:=m) RZ
    rw[Own.bX,Own.tY RZ]at c
    exact rest _ _ _ _ (S3 hW1 hW4) c hat rfl rfl rfl rfl rfl rfl rfl rfl
  · refine ay λy hy=>?_
    simp[hus,i3,q0,d0]
    refine c.db (k:=(0,4)) (z:=.agg insZ.toArray) (d:=eZ) RZ R1 iU R4 λB2 h2 hle2 c=>?_
    refine⟨c.wle,?_⟩
    subst hy
    refine ay λy hy=>?_
    simp
    refine aj R1 (hF c.wle rus hok.sm a0) ?_
    rintro _ h1 ⟨hle1,vm,rfl,hvm⟩
    have hW1:=c.up (h':=h1)
    have c:=c.ext hle1
    subst hy
    refine ay λy hy=>?_
    simp
    refine c.cA Part.all (k:=(0,4)) (D:=eZ) (d:=m) RZ R1 Sa Sa hvm λh3 c=>?_
    subst hy
    simp
    obtain⟨W4,hW4,c,hat⟩:=c.mT (k:=(0,4)) (B:=B2) (d:=m) RZ
    rw[Own.bX,Own.tY RZ]at c
    exact rest _ _ _ _ (S3 hW1 hW4) c hat rfl rfl rfl rfl rfl rfl rfl rfl
end
theorem LG:nc:=λV h s S I O P Q L T op plain sum mx hV hok hop ho hne hp hs ht=>⟨Ji mx hV hok hop ho hp,Kg mx hV hok hop ho hp,Jq mx hV hok hop ho hs,Ki mx hV hok hop ho hs ht⟩
def qW (f:aq) (v:Int):Option Th:=(aE f).find? λt=>t.mks.contains v
def uQ (f:aq) (v op:Int):Option Th->InsD × Bool
 | none=>(eZ,Sk)
 | some t=>if t.place<0 then(eZ,Sk) else(fI f t,decide ((fI f t).op=op)&&dP f v)
def de (f:aq) (v op:Int):InsD × Bool:=uQ f v op (qW f v)
theorem C2{i:InsD}(h:i.op≠16):i.dst∈cU i:=by unfold cU;rw[if_neg h];split<;>simp
theorem Gp{f:aq}{v:Int}(h:dP f v=Sj): ∃b k:Nat,b<f.blocks.length/\k<(nth f.blocks b).ins.length/\(nth (nth f.blocks b).ins k).dst=v/\(nth (nth f.blocks b).ins k).op≠16/\v∈(insT f b k).mks/\
  ∀t∈aE f,v∈t.mks->t.blk=b/\t.place=k:=by
 unfold dP jk at h;simp only[OA,decide_eq_true_eq]at h;obtain⟨hb,hd,hc⟩:=h;unfold mB at hb;simp at hb;obtain⟨⟨⟨⟨b1,b2⟩,b3⟩,b4⟩,b5⟩:=hb;have one : ∀{l:WL} {x:Int × Int},l.length=1->x∈l->nth l 0=x:=by
  intro l x hl hx;match l,hl with
  | [y],_=>simp at hx;rw[hx];rfl
 have hw:nth (oA v (aE f)) 0∈oA v (aE f):=bw R3;rcases mK.1 hw with hn | ⟨t,ht,e,hm⟩
 ·cases hn
 obtain⟨b,hbl,htb⟩:=gR.1 ht;rcases ji.1 htb with⟨i,hi,rfl⟩ | ⟨k,hk,rfl⟩ | rfl
 ·rw[e]at b3;simp[phiT]at b3;omega
 ·rw[e]at hd hc;have e1:((insT f b k).blk).toNat=b:=by simp[insT]
  have e2:((insT f b k).place).toNat=k:=by simp[insT]
  simp only[e1,e2]at hd hc;refine⟨b,k,hbl,hk,hd,λh16=>?_,hm,λt' ht' hm'=>?_⟩
  ·rw[h16]at hc;exact absurd hc R4
  have m1:(t'.blk,t'.place)∈oA v (aE f):=mK.2 (.inr ⟨t',ht',rfl,hm'⟩);have:=one R3 m1;rw[e]at this;have:=Prod.mk.inj this;simp[insT]at this;exact⟨this.1.symm,this.2.symm⟩
 cases hm
theorem pP{f:aq}{v op:Int}:(de f v op).2=(aG f v op).2/\((aG f v op).2=Sj->(de f v op).1=(aG f v op).1):=by
 cases h:dP f v with
 | false=>
  have e:(aG f v op).2=false:=by unfold aG D3;cases mw f v<;>simp[h]
  refine⟨?_,λhh=>by rw[e]at hh;cases hh⟩;rw[e];unfold de uQ;cases qW f v with
  | none=>rfl
  | some t=>dsimp only;split<;>simp[h]
 | true=>
  obtain⟨b,k,hb,hk,hd,h16,hm,hu⟩:=Gp h;have hs : ∃t,qW f v=Se t/\t.blk=b/\t.place=k:=by
   have:(qW f v).isSome=true:=by unfold qW;rw[List.find?_isSome];exact⟨_,mX hb hk,by simpa using hm⟩
   obtain⟨t,ht⟩:=P1.1 this;have h1:=PC ht;have h2:=QI ht;obtain⟨g1,g2⟩:=hu t h1 (by simpa using h2);exact⟨t,ht,g1,g2⟩
  obtain⟨t,ht,t1,t2⟩:=hs;have hi:fI f t=nth (nth f.blocks b).ins k:=by unfold fI fg;rw[t1,t2];simp
  have hmI:mw f v=Se (nth (nth f.blocks b).ins k):=by
   have:(mw f v).isSome=true:=by unfold mw;rw[List.find?_isSome];exact⟨nth (nth f.blocks b).ins k,gZ.2 ⟨b,k,hb,hk,rfl⟩,by simp[iG,h16,hd]⟩
   obtain⟨i,hmi⟩:=P1.1 this;have h1:=PC hmi;have h2:=QI hmi;obtain⟨b',k',hb',hk',rfl⟩:=gZ.1 h1;simp[iG]at h2;obtain⟨g1,g2⟩:=hu _ (mX hb' hk') (by have:=C2 h2.1;rw[h2.2]at this;exact this);simp[insT]at g1 g2;obtain rfl:b'=b:=by omega
   obtain rfl:k'=k:=by omega
   exact hmi
  unfold de uQ aG D3;rw[ht,hmI];dsimp only;rw[if_neg R3,hi];exact⟨rfl,λ_=>rfl⟩
def mc (f:aq) (v lo hi:Int):Int × Bool:=((de f v 1).1.imm.v,(de f v 1).2&&inR (de f v 1).1.imm.v lo hi)
theorem xr{f:aq}{v lo hi:Int}:(mc f v lo hi).2=(dH f v lo hi).2/\((dH f v lo hi).2=Sj->(mc f v lo hi).1=(dH f v lo hi).1):=by
 obtain⟨h1,h2⟩:=pP (f:=f) (v:=v) (op:=1);unfold mc dH;dsimp only;rw[h1];cases h:(aG f v 1).2 with
 | false=>simp
 | true=>rw[h2 h];simp
def eh (val:Int) (l:List Int):Nat:=l.foldl (λc n=>if n=val then c+1 else c) 0
theorem tA {val:Int} : ∀{l:List Int} {c:Nat},l.foldl (λc n=>if n=val then c+1 else c) c<=c+l.length
 | [],c=>N8 _
 | a::l,c=>by
  rw[OW];have:=tA (val:=val) (l:=l) (c:=if a=val then c+1 else c);have h2:(if a=val then c+1 else c)<=c+1:=by split<;>omega
  simp only[Px];omega
variable{val:Int}
theorem IE{l:List Int}{vl:Value}{h:Heap}(hl:SlRd (vw h) vl l):
  aA Sn 147 #[vl,Sb Sc val] h (λu h'=>u = Sb Sc (eh val l:Nat)/\h'=h):=by
 refine au (args:=[vl,Sb Sc val]) follows Tryz.func147 E.fQ S0 λK hK=>?_;have hb:=hl.bound;dsimp only[L.fQ,lkF,lkG];refine aa λz hz=>?_;simp;subst hz;refine aa λz hz=>?_;simp;subst hz;refine aa λz hz=>?_;simp;refine bZ [0,1,5,6] (fun(_:Unit) i=>[vl,Sb Sc val,Sb Sc (eh val (l.take i):Nat),Sb Sc i]) (λ_ i h3=>h3=h) l.length ()
  rfl R3 rfl rfl (λ_ _=>rfl) (λv k h3 hk m=>by simp[hl.len]) ?_ ?_
 ·rintro _ i h hlti rfl K2 hK2;have hst:eh val (l.take (i+1))=if nth l i=val then eh val (l.take i)+1 else eh val (l.take i):=by rw[OE hlti];unfold eh;rw[PI,aB hlti];rfl
  have hc:eh val (l.take i)<=l.length:=by
   have:=tA (val:=val) (l:=l.take i) (c:=0);have h2:(l.take i).length<=l.length:=by simp;omega
   unfold eh;omega
  by_cases e:nth l i=val
  ·rw[if_pos e]at hst;simp(disch:=omega)[hl.idx1 rfl,hl.int S2,e];exact hK2 () _ _ rfl (by simp[bD,hst]) rfl
  rw[if_neg e]at hst;simp(disch:=omega)[hl.idx1 rfl,hl.int S2,e];exact hK2 () _ _ rfl (by simp[bD,hst]) rfl
 rintro _ h rfl;rw[Pj];simp;subst hz;simp;exact hK _ _ ⟨rfl,rfl⟩
structure FSt where
 made:Nat
 taken:Nat
 p:Th
 q:Th
def thZ:Th:=⟨0,0,[],[]⟩
def nR (val:Int) (s:FSt) (t:Th):FSt:=⟨s.made+eh val t.mks,s.taken+eh val t.tks,if 0<eh val t.mks then t else s.p,if 0<eh val t.tks then t else s.q⟩
def fAll (val:Int) (l:List Th):FSt:=l.foldl (nR val) ⟨0,0,thZ,thZ⟩
def fBad (s:FSt):Bool:=!decide (s.made=1)||!decide (s.taken=1)||decide (s.p.place<0)||decide (s.q.place<=s.p.place)||!decide (s.q.blk=s.p.blk)
def km (f:aq) (val:Int):Bool:=!fBad (fAll val (aE f))&&(decide ((fI f (fAll val (aE f)).p).dst=val)&&[1,2,4,11,12,13].contains (fI f (fAll val (aE f)).p).op)
def pT (D E:Nat) (p q:Th):Own:=λk=>if k=(0,0) then bx T.cL D p else if k=(0,1) then bx T.cL E q else Sf
theorem NF{D E:Nat}{p q p':Th}(k:Key):pT D E p' q k=(pT D E p q).upd (0,0) (bx T.cL D p') k:=by
 unfold pT Own.upd;repeat' split
 all_goals first | rfl | simp_all
theorem NJ{D E:Nat}{p q q':Th}(k:Key):pT D E p q' k=(pT D E p q).upd (0,1) (bx T.cL E q') k:=by
 unfold pT Own.upd;repeat' split
 all_goals first | rfl | simp_all
theorem Is {val:Int} {L:List Th} : ∀{l:List Th} {s:FSt},(∀t∈l,t∈L)->(0<s.made->s.p∈L/\0<eh val s.p.mks)->0<(l.foldl (nR val) s).made->(l.foldl (nR val) s).p∈L/\0<eh val (l.foldl (nR val) s).p.mks
 | [],s,_,h=>h
 | t::l,s,hl,h=>by
  rw[OW];refine Is (λt ht=>hl t (OL _ ht)) λhm=>?_;unfold nR at hm ⊢;simp only at hm ⊢;by_cases c:0<eh val t.mks
  ·rw[if_pos c];exact⟨hl t OJ,c⟩
  rw[if_neg c];exact h R3
theorem yI{f:aq}{v:Value}{h:Heap}(hv:Rd (vw h) v f)(hsm:SmF f):
  aA Sn 128 #[v,Sb Sc val] h (λu h'=>u = .bool (km f val)/\(vw h).le (vw h')):=by
 refine au (args:=[v,Sb Sc val]) follows Tryz.func128 E.dz S0 λK hK=>?_;dsimp only[L.dz,lkF,lkG];refine aa λz hz=>?_;simp;refine gp rfl hv λh1 _ hle1 hs1 hat=>?_;obtain⟨_,vb,cb⟩:=gP hat;obtain⟨u,hu,hur⟩:=hat.aT rfl;have hu:Un.ev (vw h1) (.aT 2) (Si (Se ⟨h.size,0,Sf⟩))=Se u:=hu;generalize h.size=B at cb hu;subst hz;refine aa λz hz=>?_;simp[hu];refine aj R1 (kM hur S2 hsm) ?_;rintro vt h2 ⟨hle2,ht⟩;have hW2:(grow (vw h1) h1 h2).le (vw h2):=jl hle2;have hV2:(vw h1).le (grow (vw h1) h1 h2):=aR S2;generalize grow (vw h1) h1 h2=W2 at ht hW2 hV2;subst hz;refine aa λz hz=>?_;simp;subst hz;refine aa λz hz=>?_;simp;subst hz;refine aa λz hz=>?_;have rz : ∀{W:View},Rd W (.agg #[Sb Sc 0,Sb Sc 0,Sg Sf 0 0,Sg Sf 0 0]) thZ:=fun{W}=>Bm ⟨R4,R4⟩ ⟨R4,R4⟩ aF aF;simp;refine an (z:=.agg #[Sb Sc 0,Sb Sc 0,Sg Sf 0 0,Sg Sf 0 0]) (places:=[(0,1),(1,1),(2,1),(3,1)]) (vs:=[]) (cs:=#[Sb Sc 0,Sb Sc 0,Sg Sf 0 0,Sg Sf 0 0]) R1 R1 Sa R1 ?_;refine fT (n:=4) (v:=.agg #[Sb Sc 0,Sb Sc 0,Sg Sf 0 0,Sg Sf 0 0]) (z:=.agg #[Sb Sc 0,Sb Sc 0,Sg Sf 0 0,Sg Sf 0 0]) R1 rfl R1 rfl R8 R5 R5 λh3 hle3 hs3 hb3=>?_;have w3:=(Owns.start hW2).add (k:=(0,0)) rfl (fe (h:=h3) (d:=thZ) hb3 rz R4) hle3 (λb hb=>by simp only[Value.ownBlock,N7]at hb;omega)
 generalize h2.size=D at w3;subst hz;refine aa λz hz=>?_;simp;refine an (z:=.agg #[Sb Sc 0,Sb Sc 0,Sg Sf 0 0,Sg Sf 0 0]) (places:=[(0,1),(1,1),(2,1),(3,1)]) (vs:=[]) (cs:=#[Sb Sc 0,Sb Sc 0,Sg Sf 0 0,Sg Sf 0 0]) R1 R1 Sa R1 ?_;refine fT (n:=4) (v:=.agg #[Sb Sc 0,Sb Sc 0,Sg Sf 0 0,Sg Sf 0 0]) (z:=.agg #[Sb Sc 0,Sb Sc 0,Sg Sf 0 0,Sg Sf 0 0]) R1 rfl R1 rfl R8 R5 R5 λh4 hle4 hs4 hb4=>?_;have w4:=w3.add (k:=(0,1)) rfl (fe (h:=h4) (d:=thZ) hb4 rz R4) hle4 (λb hb=>by simp only[Value.ownBlock,N7]at hb;omega);generalize h3.size=E at w4;have w4:Owns W2 h4 (pT D E thZ thZ):=w4.congr λq=>by
  unfold pT Own.upd;repeat' split
  all_goals first | rfl | simp_all
 have hth : ∀t∈aE f,ThOk f t:=λt ht=>lM hsm ht;have htl:=yj hsm;have hfs:km f val=(!fBad (fAll val (aE f))&&(decide ((fI f (fAll val (aE f)).p).dst=val)&&[1,2,4,11,12,13].contains (fI f (fAll val (aE f)).p).op)):=rfl;generalize aE f=ts at ht hth htl hfs;subst hz;refine aa λz hz=>?_;simp;refine bZ [1,2,5,6,7,8,9,10] (fun(_:Unit) i=>[Sb Sc val,Si (Se ⟨B,0,Sf⟩),vt,Sb Sc (fAll val (ts.take i)).made,Sb Sc (fAll val (ts.take i)).taken,Si (Se ⟨D,0,Sf⟩),Si (Se ⟨E,0,Sf⟩),Sb Sc i])
  (λ_ i h5=>Owns W2 h5 (pT D E (fAll val (ts.take i)).p (fAll val (ts.take i)).q)/\(fAll val (ts.take i)).made<=i*10000/\(fAll val (ts.take i)).taken<=i*10000) ts.length ()
  rfl R3 rfl ⟨w4,Qw _,Qw _⟩ (λ_ _=>rfl) (λv k h5 hk m=>by simp[(ht.mono m.1.wle).len]) ?_ ?_
 ·rintro _ i h5 hlti ⟨w5,g1,g2⟩ K2 hK2;have hst:fAll val (ts.take (i+1))=nR val (fAll val (ts.take i)) (nth ts i):=by rw[OE hlti,aB hlti];unfold fAll;rw[PI];rfl
  have hok:=hth _ (bw hlti);obtain⟨ut,hut,hutr⟩:=ht.wh rfl (N:=4) rfl hlti;have hat:=ht.at hlti;rw[<-aB hlti]at hat;obtain⟨vm,hvm⟩:=(hat.part Th.Bq).sl;obtain⟨vk,hvk⟩:=(hat.part Th.CD).sl;have hvm1:ao W2 (((slA vt).add (i*4)).add 2)=Se vm:=hvm.1;have hvk1:ao W2 (((slA vt).add (i*4)).add 3)=Se vk:=hvk.1;have hvm2:=hvm.2;have hvk2:=hvk.2;generalize nth ts i=t at hst hvm2 hvk2 hutr hok;generalize fAll val (ts.take i)=s at hst w5 g1 g2;clear hat hvm hvk;have l1:eh val t.mks<=10000:=by have:=tA (val:=val) (l:=t.mks) (c:=0);have:=hok.mks;unfold eh;omega
  have l2:eh val t.tks<=10000:=by have:=tA (val:=val) (l:=t.tks) (c:=0);have:=hok.tks;unfold eh;omega
  have hfin : ∀ρ' h',Lft.look ρ' 10=Se (Sb Sc i)->bD [1,2,5,6,7,8,9,10] (setE ρ' 10 (Sb Sc ((i:Int)+1)))=[1,2,5,6,7,8,9,10].zip [Sb Sc val,Si (Se ⟨B,0,Sf⟩),vt,Sb Sc ((s.made+eh val t.mks:Nat):Int),Sb Sc ((s.taken+eh val t.tks:Nat):Int),Si (Se ⟨D,0,Sf⟩),Si (Se ⟨E,0,Sf⟩),Sb Sc ((i+1:Nat):Int)]->Owns W2 h' (pT D E (if 0<eh val t.mks then t else s.p) (if 0<eh val t.tks then t else s.q))->K2 ρ' h':=λρ' h' a1 a2 a3=>hK2 () ρ' h' a1 (by rw[a2,hst];rfl) (by rw[hst];exact⟨a3,by show s.made+eh val t.mks<=_;omega,by show s.taken+eh val t.tks<=_;omega⟩);refine aa λy hy=>?_;simp(disch:=omega)[(ht.mono w5.wle).idxn (N:=4) rfl,ae w5.wle hvm1];refine aj R1 (IE (hvm2.mono w5.wle)) ?_;rintro _ h5 ⟨rfl,rfl⟩;subst hy;refine aa λy hy=>?_;simp(disch:=omega)[(ht.mono w5.wle).idxn (N:=4) rfl,ae w5.wle hvk1];refine aj R1 (IE (hvk2.mono w5.wle)) ?_;rintro _ h5 ⟨rfl,rfl⟩;subst hy;generalize eh val t.mks=a at hfin l1;generalize eh val t.tks=b at hfin l2;refine fl (λρ h6=>∃tl,Owns W2 h6 (pT D E (if 0<a then t else s.p) s.q)/\ρ=[(1,Sb Sc val),(2,Si (Se ⟨B,0,Sf⟩)),(5,vt),(6,Sb Sc s.made),(7,Sb Sc s.taken),(8,Si (Se ⟨D,0,Sf⟩)),(9,Si (Se ⟨E,0,Sf⟩)),(10,Sb Sc i),(11,Sb Sc a),(12,Sb Sc b)]++tl) ?_ ?_
  ·intro K3 hK3;by_cases c1:0<a
   ·rw[if_pos c1]at hK3;simp(disch:=omega)[c1,(ht.mono w5.wle).idxn (N:=4) rfl,hut _ w5.wle];refine w5.cA (k:=(0,0)) (e:=T.cL) (B:=D) (D:=s.p) Part.all (d:=t) rfl R1 rfl rfl hutr λh6 w6 _=>?_;exact hK3 _ _ ⟨_,w6.congr NF,rfl⟩
   rw[if_neg c1]at hK3;simp(disch:=omega)[c1];exact hK3 _ _ ⟨_,w5,rfl⟩
  rintro ρ h6 ⟨tl,w6,rfl⟩;refine fl (λρ h7=>∃tl,Owns W2 h7 (pT D E (if 0<a then t else s.p) (if 0<b then t else s.q))/\ρ=[(1,Sb Sc val),(2,Si (Se ⟨B,0,Sf⟩)),(5,vt),(6,Sb Sc s.made),(7,Sb Sc s.taken),(8,Si (Se ⟨D,0,Sf⟩)),(9,Si (Se ⟨E,0,Sf⟩)),(10,Sb Sc i),(11,Sb Sc a),(12,Sb Sc b)]++tl) ?_ ?_
  ·intro K3 hK3;by_cases c1:0<b
   ·rw[if_pos c1]at hK3;simp(disch:=omega)[c1,(ht.mono w6.wle).idxn (N:=4) rfl,hut _ w6.wle,af,ag];refine w6.cA (k:=(0,1)) (e:=T.cL) (B:=E) (D:=s.q) Part.all (d:=t) rfl R1 rfl rfl hutr λh7 w7 _=>?_;exact hK3 _ _ ⟨_,w7.congr NJ,rfl⟩
   rw[if_neg c1]at hK3;simp(disch:=omega)[c1,af,ag];exact hK3 _ _ ⟨_,w6,rfl⟩
  rintro ρ h7 ⟨tl,w7,rfl⟩;simp(disch:=omega)[af,ag];exact hfin _ _ (by simp[af,ag]) (by simp[bD,af,ag]) w7
 rintro _ h5 ⟨w5,g1,g2⟩;have hp:0<(fAll val ts).made->(fAll val ts).p∈ts/\0<eh val (fAll val ts).p.mks:=λh=>Is (l:=ts) (s:=⟨0,0,thZ,thZ⟩) (λt ht=>ht) (λh=>by cases h) h;rw[Pj]at w5 g1 g2;rw[Pj];generalize fAll val ts=s at w5 hfs g1 g2 hp;obtain⟨pb,pp,_,_⟩:=yt (w5.at (k:=(0,0)) (e:=T.cL) (B:=D) (d:=s.p) rfl);obtain⟨qb,qp,_,_⟩:=yt (w5.at (k:=(0,1)) (e:=T.cL) (B:=E) (d:=s.q) rfl);have hle:=S3 hle1 (S3 hV2 w5.wle);simp;subst hz;refine aa λz hz=>?_;simp[pb,pp,qb,qp];have hfb:(!decide ((s.made:Int)=1)||!decide ((s.taken:Int)=1)||decide (s.p.place<0)||decide (s.q.place<=s.p.place)||!decide (s.q.blk=s.p.blk))=fBad s:=by
  unfold fBad;have e1:decide ((s.made:Int)=1)=decide (s.made=1):=by rw[O3];simp;omega
  have e2:decide ((s.taken:Int)=1)=decide (s.taken=1):=by rw[O3];simp;omega
  rw[e1,e2]
 rw[hfb];cases hbad:fBad s with
 | true=>rw[tc];rw[hbad]at hfs;exact hK _ _ ⟨by rw[hfs];rfl,hle⟩
 | false=>
  rw[qZ];rw[hbad]at hfs;simp only[fBad,PA,Bool.not_eq_false',decide_eq_true_eq,decide_eq_false_iff_not]at hbad;obtain⟨⟨⟨⟨b1,b2⟩,b3⟩,b4⟩,b5⟩:=hbad;obtain⟨hm,hc⟩:=hp R3;have hok:=hth _ hm;have hpb:=hok.blk;have hpl:=hok.ins R3 (λe=>by rw[e]at hc;exact absurd hc (by simp[eh]));have cc5:=ae (S3 hV2 w5.wle) cb.1;have cb5:=cb.2.mono (S3 hV2 w5.wle);obtain⟨ul,hul⟩:=((cb5.at (i:=s.p.blk.toNat) R3).part BlkD.jB).sl;rw[<-aB R3]at hul;have hul1:ao (vw h5) (((slA vb).add (s.p.blk.toNat*6)).add 1)=Se ul:=hul.1;obtain⟨ui,hui,huir⟩:=hul.2.wh rfl (N:=5) rfl (i:=s.p.place.toNat) R3;have hli:=hul.2;have hins:fI f s.p=nth (nth f.blocks s.p.blk.toNat).ins s.p.place.toNat:=rfl;rw[hins]at hfs;generalize nth (nth f.blocks s.p.blk.toNat).ins s.p.place.toNat=x at huir hfs;subst hz;refine aa λz hz=>?_;refine aI (vw h5) S2 ?_;simp(disch:=omega)[pb,pp,cc5,cb5.idxn (N:=6) rfl,hul1,hli.idxn (N:=5) rfl,hui _ S2];refine db (z:=.agg #[Sb Sc 0,Sb Sc 0,Sb Sc 0,Sg Sf 0 0,Sb Sd 0]) R1 ?_;have hle6:=bC h5 (.cells (Value.cells (.agg #[Sb Sc 0,Sb Sc 0,Sb Sc 0,Sg Sf 0 0,Sb Sd 0])) T.dA);have hb6:(h5.push (.cells (Value.cells (.agg #[Sb Sc 0,Sb Sc 0,Sb Sc 0,Sg Sf 0 0,Sb Sd 0])) T.dA))[h5.size]? = Se (.cells (Value.cells (.agg #[Sb Sc 0,Sb Sc 0,Sb Sc 0,Sg Sf 0 0,Sb Sd 0])) T.dA (0,0)):=by simp
  generalize h5.push (.cells (Value.cells (.agg #[Sb Sc 0,Sb Sc 0,Sb Sc 0,Sg Sf 0 0,Sb Sd 0])) T.dA)=h6 at hle6 hb6;refine⟨hle6,?_⟩;obtain⟨g1',g2',g3'⟩:=fV huir;refine eR (g:=h5.size) (o:=0) (n:=5) (v:=ui) R1 rfl rfl g2' g3' hb6 Sa λh7 hs7 ⟨row,hr7,he7⟩ ho7=>?_;have hrow:row=ui.cells:=by have g2'':ui.cells.size=5:=g2';rw[<-Array.toList_inj,he7];simp
  rw[hrow]at hr7;have hle7:(vw h5).le (vw h7):=λb o hb=>by have hlt:=View.lt (View.le_refl (vw h5)) hb;show h7[b]? = _;rw[ho7 b R3];exact hle6 b o hb
  have hat7:At (vw h7) ⟨h5.size,0,Sf⟩ x:=nv (show vw h7 h5.size=_ from hr7) (huir.mono hle7);obtain⟨q0,q1,_⟩:=fO hat7;generalize h5.size=D7 at q0 q1;subst hz;have hres:km f val=(decide (x.dst=val)&&[1,2,4,11,12,13].contains x.op):=by rw[hfs];rfl
  by_cases c6:x.dst=val
  ·simp[q0,q1,c6];have hc6:[1,2,4,11,12,13].contains x.op=(decide (x.op=1)||decide (x.op=2)||decide (x.op=4)||decide (x.op=11)||decide (x.op=12)||decide (x.op=13)):=by rw[O3];simp[or_assoc]
   exact hK _ _ ⟨by rw[hres,decide_eq_true c6,PL,hc6],S3 hle hle7⟩
  simp[q0,q1,c6];exact hK _ _ ⟨by rw[hres,decide_eq_false c6,RH],S3 hle hle7⟩
def Lst (l:WL) (c:Nat) (t:Th):Prop:=l.length=c/\(0<c->∃a,l=a++[(t.blk,t.place)])
theorem zc {val:Int} {w:Int × Int} : ∀{ns:List Int} {l:WL},(ns.foldl (bM val w) l).length=l.length+eh val ns/\(0<eh val ns->∃a,ns.foldl (bM val w) l=a++[w])/\(eh val ns=0->ns.foldl (bM val w) l=l)
 | [],l=>⟨rfl,(λh=>absurd h (Nat.lt_irrefl 0)),λ_=>rfl⟩
 | n::ns,l=>by
  have hc:eh val (n::ns)=(if n=val then 1 else 0)+eh val ns:=by
   have key : ∀(ns:List Int) (c:Nat),ns.foldl (λc n=>if n=val then c+1 else c) c=c+eh val ns:=by
    intro ns;induction ns with
    | nil=>intro c;rfl
    | cons a ns ih=>intro c;unfold eh;rw[OW,OW,ih,ih (if a=val then 0+1 else 0)];split<;>omega
   unfold eh;rw[OW,key];unfold eh;split<;>omega
  rw[OW];obtain⟨h1,h2,h3⟩:=zc (val:=val) (w:=w) (ns:=ns) (l:=bM val w l n);unfold bM at h1 h2 h3 ⊢;by_cases e:n=val
  ·rw[if_pos e]at hc h1 h2 h3 ⊢;refine⟨?_,λ_=>?_,λh=>by omega⟩
   ·have:(l++[w]).length=l.length+1:=by simp
    omega
   rcases P8 (eh val ns)with h0 | h0
   ·exact⟨l,h3 h0⟩
   exact h2 h0
  rw[if_neg e]at hc h1 h2 h3 ⊢;rw[PH]at hc;rw[hc];exact⟨h1,h2,h3⟩
theorem Bl{l:WL}{c:Nat}{p t:Th}{ns:List Int}(h:Lst l c p):Lst (ns.foldl (bM val (t.blk,t.place)) l) (c+eh val ns) (if 0<eh val ns then t else p):=by
 obtain⟨h1,h2,h3⟩:=zc (val:=val) (w:=(t.blk,t.place)) (ns:=ns) (l:=l);refine⟨by rw[h1,h.1],λhp=>?_⟩;by_cases e:0<eh val ns
 ·rw[if_pos e];exact h2 e
 rw[if_neg e,h3 R3];exact h.2 R3
theorem Ep {val:Int} : ∀{ts:List Th} {l1 l2:WL} {s:FSt},Lst l1 s.made s.p->Lst l2 s.taken s.q->Lst (ts.foldl (sZ val) l1) (ts.foldl (nR val) s).made (ts.foldl (nR val) s).p/\Lst (ts.foldl (pn val) l2) (ts.foldl (nR val) s).taken (ts.foldl (nR val) s).q
 | [],_,_,_,h1,h2=>⟨h1,h2⟩
 | t::ts,l1,l2,s,h1,h2=>by rw[OW,OW,OW];exact Ep (s:=nR val s t) (Bl h1) (Bl h2)
theorem EV{l:WL}{t:Th}(h:Lst l 1 t):nth l 0=(t.blk,t.place):=by obtain⟨h1,h2⟩:=h;obtain⟨a,e⟩:=h2 R3;have ha:a=[]:=OC (by rw[e,OH,OU]at h1;omega);subst ha;rw[e];rfl
theorem yR{f:aq}:dP f val=km f val:=by
 obtain⟨h1,h2⟩:=Ep (val:=val) (ts:=aE f) (l1:=[]) (l2:=[]) (s:=⟨0,0,thZ,thZ⟩) ⟨rfl,λh=>by cases h⟩ ⟨rfl,λh=>by cases h⟩;have e1:dP f val=jk f val ((aE f).foldl (sZ val) []) ((aE f).foldl (pn val) []):=rfl;have e2:km f val=(!fBad (fAll val (aE f))&&(decide ((fI f (fAll val (aE f)).p).dst=val)&&[1,2,4,11,12,13].contains (fI f (fAll val (aE f)).p).op)):=rfl;rw[e1,e2];have e3:(aE f).foldl (nR val) ⟨0,0,thZ,thZ⟩=fAll val (aE f):=rfl;rw[e3]at h1 h2;generalize (aE f).foldl (sZ val) []=l1 at h1;generalize (aE f).foldl (pn val) []=l2 at h2;generalize fAll val (aE f)=s at h1 h2;unfold jk mB fBad;rw[h1.1,h2.1];by_cases c1:s.made=1
 ·by_cases c2:s.taken=1
  ·rw[c1]at h1;rw[c2]at h2;rw[EV h1,EV h2];have hins:nth (nth f.blocks s.p.blk.toNat).ins s.p.place.toNat=fI f s.p:=rfl;rw[hins];have e4:decide (s.p.blk=s.q.blk)=decide (s.q.blk=s.p.blk):=by rw[O3];simp;exact eq_comm
   simp only[e4];congr 2;cases decide (s.p.place<0)<;>cases decide (s.q.place<=s.p.place)<;>cases decide (s.q.blk=s.p.blk)<;>simp[c1,c2]
  simp[c2]
 simp[c1]
end Go.Proofs.YtnfiilgdjpdlkaaGreatDoor
namespace Go.Lft
open Go
variable {po po2:OP}
theorem HN {P:Program} {ty:TypeId} {us:List (Nat × Value)} {h:Heap} {t ty2:TypeId} {n:Nat} {z:Value} {x y:Operand} {us2:Value->List (Nat × Value)} {v:Value} {X:View} {K:Value->Heap->Prop} (hX:X.le (vw h)) (hz:(P.info? t).map (·.zero)=Se (Se z)) (hzc:z.cells.size=n) (hsz:cH P t=Se n) (hv:v.cells.size=n)
  (hone : ∀c∈v.cells.toList,c.oneCell'=Sj) (hx : ∀p,asg (us2 p) x=p) (hy : ∀p,asg (us2 p) y=v) (hk : ∀h':Heap,(vw h).le (vw h')->h'.size=h.size+1->h'[h.size]? = Se (.cells v.cells t (0,0))->K (Si (Se ⟨h.size,0,Sf⟩)) h') :
  @step po P (.alloc t) ty us h λp h2=>X.le (vw h2)/\@step po2 P (.store t x y) ty2 (us2 p) h2 λ_ h3=>K p h3:=by
 refine db hz ⟨S3 hX (bC h _),?_⟩;refine eR (g:=h.size) (o:=0) (n:=n) (v:=v) (cur:=z.cells) (e:=t) hsz (hx _) (hy _) hv hone Sa R3 λh' hs ⟨row,hrow,he⟩ hoth=>?_;have hrow2:row=v.cells:=by rw[<-Array.toList_inj,he];simp only[QC,OZ,PH];rw[O6 (by simp[hzc]),PO]
 rw[hrow2]at hrow;have hle:(vw h).le (vw h'):=λb o hb=>by have hlt:=View.lt (View.le_refl (vw h)) hb;show h'[b]? = _;rw[hoth b R3];exact bC _ _ b o hb
 exact hk h' hle (by rw[hs];simp) hrow
theorem Cx.J4 {α:Type} [Rep α] {V W X:View} {h0 h:Heap} {o:Own} {P:Program} {ty:TypeId} {us:List (Nat × Value)} {t ty2:TypeId} {n:Nat} {z:Value} {x y:Operand} {us2:Value->List (Nat × Value)} {v:Value} {d:α} {K:Value->Heap->Prop} (c:Cx V h0 W h o) (hX:X.le W) (hv:Rd W v d) (hz:(P.info? t).map (·.zero)=Se (Se z)) (hN:Rep.n α=n) (hzc:z.cells.size=n) (hsz:cH P t=Se n)
  (hx : ∀p,asg (us2 p) x=p) (hy : ∀p,asg (us2 p) y=v) (hk : ∀B h' W',W.le W'->Cx V h0 W' h' o->At W' ⟨B,0,Sf⟩ d->(vw h).le (vw h')->K (Si (Se ⟨B,0,Sf⟩)) h') :
  @step po P (.alloc t) ty us h λp h2=>X.le (vw h2)/\@step po2 P (.store t x y) ty2 (us2 p) h2 λ_ h3=>K p h3:=by subst hN;obtain⟨c1,c2,c3⟩:=fV hv;refine HN (S3 hX c.wle) hz hzc hsz c2 c3 hx hy λh1 hle hs hb=>?_;exact hk _ _ _ c.up (c.ext hle) (nv (by rw[bI (N8 _)];exact hb) (hv.mono c.up)) hle
end Go.Lft
namespace Go.Proofs.YtnfiilgdjpdlkaaGreatDoor
open Go Go.Lft
def qY (ts:List Th) (x:Int):Option Th:=ts.find? λt=>t.mks.contains x
abbrev thV:List Value:=[Sb Sc 0,Sb Sc 0,Sg Sf 0 0,Sg Sf 0 0]
theorem LV {H:View}:Rd H (.agg thV.toArray) kC:=Bm ⟨R4,R4⟩ ⟨R4,R4⟩ aF aF
theorem DJ {ts:List Th} {v:Value} {x:Int} {h:Heap} {W:View} (hW:W.le (vw h)) (ht:SlRd W v ts) :
  aA Sn 127 #[v,Sb Sc x] h (λu h'=>(vw h).le (vw h')/\∃vt,u = .tuple #[vt,.bool (qY ts x).isSome]/\Rd (grow W h h') vt ((qY ts x).getD kC)):=by
 refine au (args:=[v,Sb Sc x]) follows Tryz.func127 E.dU S0 λK hK=>?_;dsimp only[L.dU,lkF,lkG];have c0:=Cx.start hW;have hbd:=ht.bound;refine aa λz hz=>?_;simp;refine c0.bW (k:=(0,0)) (n:=3) (z:=.agg thV.toArray) rfl R1 rfl R4 R8 λR hb hleb cb=>?_;subst hz;refine aa λz hz=>?_;simp;refine bZ [0,1,4,5,6] (fun(_:Unit) k=>[v,Sb Sc x,ptr R,.bool Sk,Sb Sc k]) (λ_ k h1=>qY (ts.take k) x=Sf/\h1=hb) ts.length ()
  rfl R3 rfl ⟨rfl,rfl⟩ (λ_ _=>rfl) (λ_ i h1 hk m=>by simp[ht.len]) ?_ ?_
 ·rintro _ k h1 hk ⟨hn,rfl⟩ K2 hK2;have htb:=ht.mono cb.wle;have hat:=ht.at hk;rw[<-aB hk]at hat;have hnx:qY (ts.take (k+1)) x=if(nth ts k).mks.contains x then Se (nth ts k) else none:=by unfold qY at hn ⊢;rw[OE hk,Qy,hn,Qr,aB hk,Rr]
  have hfd:(nth ts k).mks.contains x=Sj->qY ts x=Se (nth ts k):=λhc=>by
   have e:ts.take (k+1)++ts.drop (k+1)=ts:=PZ ..;unfold qY at hnx ⊢;have:(ts.take (k+1)++ts.drop (k+1)).find? (λt=>t.mks.contains x)=Se (nth ts k):=by rw[Qy,hnx,hc];rfl
   rwa [e]at this
  obtain⟨ut,hut,rut⟩:=hat.ldN rfl (N:=4) rfl;obtain⟨vk,hvk⟩:=(hat.part Th.Bq).sl;have hvk1:ao (vw h1) (((slA v).add (k*4)).add 2)=Se vk:=ae cb.wle hvk.1;have hvk2:=hvk.2.mono cb.wle;have hut2:Un.ev (vw h1) (.aT 4) (Si (Se ((slA v).add (k*4))))=Se ut:=hut _ cb.wle;generalize nth ts k=t at *;have hkb:=hvk2.bound;refine aa λy hy=>?_;simp;subst hy;refine bZ [0,1,4,5,6,7] (fun(_:Unit) j=>[v,Sb Sc x,ptr R,.bool Sk,Sb Sc k,Sb Sc j]) (λ_ j h3=>(t.mks.take j).contains x=Sk/\h3=h1) t.mks.length ()
   rfl R3 rfl ⟨by simp,rfl⟩ (λ_ _=>rfl) (λ_ k h3 hk m=>by obtain⟨-,rfl⟩:=m;simp(disch:=omega)[htb.idxn (N:=4) rfl,hvk1,hvk2.len]) ?_ ?_
  ·rintro _ j h3 hj ⟨hn3,rfl⟩ K3 hK3;have hst:(t.mks.take (j+1)).contains x=decide (nth t.mks j=x):=by
    rw[OE hj,aB hj,O3];have hn3:¬x∈t.mks.take j:=by simpa using hn3
    simp only[List.contains_iff_mem,OD,OI,decide_eq_true_eq];exact⟨λh=>(h.resolve_left hn3).symm,λh=>.inr h.symm⟩
   by_cases e:nth t.mks j=x
   ·have hc:t.mks.contains x=true:=by simp only[List.contains_iff_mem];rw[<-e];exact bw hj
    simp(disch:=omega)[htb.idxn (N:=4) rfl,hvk1,hvk2.idx1 rfl,hvk2.int S2,e,hut2];refine cb.aK (k:=(0,0)) Own.ah rut rfl rfl R1 rfl rfl λh5 l5 hl5 c5=>?_;simp[c5.all (k:=(0,0)) Own.ah];refine hK _ _ ⟨c5.le0,_,by rw[hfd hc];rfl,?_⟩;rw[hfd hc,<-hl5];exact rut.mono c5.fin
   simp(disch:=omega)[htb.idxn (N:=4) rfl,hvk1,hvk2.idx1 rfl,hvk2.int S2,e];exact hK3 () _ _ rfl rfl ⟨by rw[hst];simp[e],rfl⟩
  rintro _ h3 ⟨hn3,rfl⟩;rw[Pj]at hn3;simp;refine hK2 () _ _ rfl rfl ⟨?_,rfl⟩;rw[hnx,hn3];rfl
 rintro _ h1 ⟨hn,rfl⟩;rw[Pj]at hn;simp;subst hz;refine aa λz hz=>?_;simp;have hr:Rd W (.agg thV.toArray) kC:=LV;refine an (z:=.agg thV.toArray) (places:=[(0,1),(1,1),(2,1),(3,1)]) (vs:=[]) (cs:=thV.toArray) R1 R1 Sa R1 ?_;refine cb.aK (k:=(0,0)) Own.ah hr rfl rfl R1 rfl rfl λh5 l5 hl5 c5=>?_;subst hz;simp[c5.all (k:=(0,0)) Own.ah];refine hK _ _ ⟨c5.le0,_,by rw[hn];rfl,?_⟩;rw[hn,<-hl5];exact hr.mono c5.fin
theorem CN {f:aq} {v:Value} {h:Heap} {W:View} (hW:W.le (vw h)) (hv:Rd W v f) (hsm:SmF f) :
  aA Sn 36 #[v] h (λu h'=>(vw h).le (vw h')/\u = .bool (mf f)):=by refine au (args:=[v]) follows Tryz.func36 E.nZ S0 λK hK=>?_;dsimp only[L.nZ,lkF,lkG];have c0:=Cx.start hW;refine aa λz hz=>?_;simp;refine c0.cr rfl hv λB ha Wa hWa ca hat hlea=>?_;subst hz;refine aa λz hz=>?_;obtain⟨uf,huf,ruf⟩:=hat.ldN rfl (N:=2) rfl;simp[huf _ ca.wle];refine aj R1 (DM (ruf.mono ca.wle) hsm) ?_;rintro _ hb ⟨rfl,hle⟩;simp[gotV];subst hz;simp;exact hK _ _ ⟨S3 ca.le0 hle,by rw[mf,zy]⟩
theorem BI {f:aq} {x:Int} {t:Th} (h:qW f x=Se t) (h0:¬t.place<0) : ∃b k:Nat,b<f.blocks.length/\k<(nth f.blocks b).ins.length/\t.blk=b/\t.place=k/\fI f t=nth (nth f.blocks b).ins k:=by
 have h1:=PC h;have h2:=QI h;have h2:x∈t.mks:=by simpa using h2
 obtain⟨b,hb,htb⟩:=gR.1 h1;rcases ji.1 htb with⟨i,hi,rfl⟩ | ⟨k,hk,rfl⟩ | rfl
 ·simp[phiT]at h0;omega
 ·exact⟨b,k,hb,hk,rfl,rfl,by simp[fI,fg,insT]⟩
 cases h2
abbrev insV:List Value:=[Sb Sc 0,Sb Sc 0,Sb Sc 0,Sg Sf 0 0,Sb Sd 0]
theorem jd {f:aq} {v:Value} {x op:Int} {h:Heap} {W:View} (hW:W.le (vw h)) (hv:Rd W v f) (hsm:SmF f) :
  aA Sn 95 #[v,Sb Sc x,Sb Sc op] h (λu h'=>(vw h).le (vw h')/\∃vi,u = .tuple #[vi,.bool (de f x op).2]/\Rd (grow W h h') vi (de f x op).1):=by
 refine au (args:=[v,Sb Sc x,Sb Sc op]) follows Tryz.func95 E.oh S0 λK hK=>?_;dsimp only[L.oh,lkF,lkG];have c0:=Cx.start hW;refine aa λz hz=>?_;simp;refine c0.cr rfl hv λB ha Wa hWa ca hat hlea=>?_;refine ca.bW (k:=(0,0)) (n:=4) (z:=.agg insV.toArray) rfl R1 rfl R4 R8 λR hb hleb cb=>?_;subst hz;refine aa λz hz=>?_;obtain⟨uf,huf,ruf⟩:=hat.ldN rfl (N:=2) rfl;simp[huf _ cb.wle];refine aj R1 (kM ruf cb.wle hsm) ?_;rintro vt hc ⟨hlec,rt⟩;have cc:=cb.ext hlec;refine aj R1 (DJ cc.wle rt) ?_;rintro _ hd ⟨hled,vs,rfl,rvs⟩;have cd:=cc.ext hled;simp;refine cd.dE (α:=Th) rvs (n:=4) (z:=.agg thV.toArray) R1 rfl rfl R1 R5 R5 λB2 he We hWe ce hat2 hlee=>?_;subst hz;have hWae:Wa.le We:=S3 cb.up (S3 cc.up hWe);have es:qY (aE f) x=qW f x:=rfl;rw[es]at hat2 ⊢;have p0:ao We ⟨B2,0,Sf⟩=Se (Sb Sc ((qW f x).getD kC).blk):=by simpa using(hat2.part Th.zl).int
 have p1:ao We ⟨B2,1,Sf⟩=Se (Sb Sc ((qW f x).getD kC).place):=by simpa using(hat2.part Th.ED).int
 have hr:Rd We (.agg insV.toArray) eZ:=iU;cases hs:qW f x with
 | none=>
  have ei:de f x op=(eZ,Sk):=by unfold de;rw[hs];rfl
  refine aa λz hz=>?_;simp;refine an (z:=.agg insV.toArray) (places:=[(0,1),(1,1),(2,1),(3,1),(4,1)]) (vs:=[]) (cs:=insV.toArray) R1 R1 Sa R1 ?_;refine ce.aK (k:=(0,0)) Own.ah hr rfl rfl R1 rfl rfl λh5 l5 hl5 c5=>?_;simp[c5.all (k:=(0,0)) Own.ah];rw[ei]at hK;refine hK _ _ ⟨c5.le0,_,rfl,?_⟩;rw[<-hl5];exact hr.mono c5.fin
 | some t=>
  rw[hs]at p0 p1;simp only[Rm]at p0 p1;have p0c:=ae ce.wle p0;have p1c:=ae ce.wle p1;by_cases hp:t.place<0
  ·have ei:de f x op=(eZ,Sk):=by unfold de;rw[hs];dsimp only[uQ];rw[if_pos hp]
   refine aa λz hz=>?_;simp[p1c,hp];refine an (z:=.agg insV.toArray) (places:=[(0,1),(1,1),(2,1),(3,1),(4,1)]) (vs:=[]) (cs:=insV.toArray) R1 R1 Sa R1 ?_;refine ce.aK (k:=(0,0)) Own.ah hr rfl rfl R1 rfl rfl λh5 l5 hl5 c5=>?_;simp[c5.all (k:=(0,0)) Own.ah];rw[ei]at hK;refine hK _ _ ⟨c5.le0,_,rfl,?_⟩;rw[<-hl5];exact hr.mono c5.fin
  obtain⟨b,k,hbl,hkl,eb,ek,ein⟩:=BI hs hp;have ei:de f x op=(nth (nth f.blocks b).ins k,decide ((nth (nth f.blocks b).ins k).op=op)&&dP f x):=by unfold de;rw[hs];dsimp only[uQ];rw[if_neg hp,ein]
  rw[eb]at p0;rw[ek]at p1;rw[ek]at p1c;have hbs:=hsm.blk b hbl;obtain⟨vb,cb1,sb⟩:=(hat.part aq.oV).sl;have cb1:ao We ⟨B,1,Sf⟩=Se vb:=ae hWae (by simpa using cb1);have sb:=sb.mono hWae;have hatb:=sb.at hbl;rw[<-aB hbl]at hatb;obtain⟨vi,ci,si⟩:=(hatb.part BlkD.jB).sl;have hati:=si.at hkl;rw[<-aB hkl]at hati;obtain⟨ui,hui,rui⟩:=hati.ldN rfl (N:=5) rfl;have n6:Rep.n BlkD=6:=rfl;have n5:Rep.n InsD=5:=rfl;rw[n6]at ci;have hui:=hui We S2;rw[n5]at hui;refine aa λz hz=>?_;have hk0:¬(k:Int)<0:=by omega
  simp[p1c,hk0];subst hz;have hbd:=sb.bound;have hbd2:=si.bound;refine aa λz hz=>?_;refine aI We ce.wle ?_;simp(disch:=omega)[p0,p1,cb1,sb.idxn (N:=6) rfl,ci,si.idxn (N:=5) rfl,hui];refine ce.J4 (α:=InsD) S2 rui (n:=5) (z:=.agg insV.toArray) R1 rfl rfl R1 (λ_=>by rfl) (λ_=>by rfl) λB3 hf Wf hWf cf hat3 hlef=>?_;subst hz;refine aa λz hz=>?_;obtain⟨d0,-⟩:=fO hat3;obtain⟨uj,huj,ruj⟩:=hat3.ldN rfl (N:=5) rfl;have huj:=huj Wf S2;have huf2:=huf Wf (S3 hWae hWf);have ruf2:=ruf.mono (S3 hWae hWf);generalize nth (nth f.blocks b).ins k=i at *;have fin : ∀(c:Bool) (h2:Heap) (l':List Value),c=(de f x op).2->uj = .agg l'.toArray->Cx W h Wf h2 (Own.upd (Own.upd (λ_=>Sf) (0,0) (bx T.dA R (RawN.mk (n:=4) insV))) (0,0) (bx T.dA R (RawN.mk (n:=4) l')))->K (.tuple #[.agg l'.toArray,.bool c]) h2:=by rintro _ h2 l' rfl hl' c2;refine hK _ _ ⟨c2.le0,_,rfl,?_⟩;rw[ei,<-hl'];exact ruj.mono c2.fin
  refine aI Wf cf.wle ?_;by_cases c:i.op=op
  ·simp[huj,d0,c,huf2];refine aj R1 (yI (ruf2.mono cf.wle) hsm) ?_;rintro _ h1 ⟨rfl,hle1⟩;have c1:Cx W h Wf h1 _:=⟨cf.own.ext' hle1,cf.old,S3 cf.le0 hle1,cf.new⟩;refine⟨c1.wle,?_⟩;refine c1.aK (k:=(0,0)) Own.ah ruj rfl rfl R1 rfl rfl λh2 l' hl' c2=>?_;subst hz;simp[c2.all (k:=(0,0)) Own.ah];exact fin _ _ _ (by rw[ei,yR];simp[c]) hl' c2
  simp[huj,d0,c];refine cf.aK (k:=(0,0)) Own.ah ruj rfl rfl R1 rfl rfl λh2 l' hl' c2=>?_;subst hz;simp[c2.all (k:=(0,0)) Own.ah];exact fin _ _ _ (by rw[ei];simp[c]) hl' c2
theorem wv {f:aq} {v:Value} {x lo hi:Int} {h:Heap} {W:View} (hW:W.le (vw h)) (hv:Rd W v f) (hsm:SmF f) :
  aA Sn 97 #[v,Sb Sc x,Sb Sc lo,Sb Sc hi] h (λu h'=>(vw h).le (vw h')/\u = .tuple #[Sb Sc (mc f x lo hi).1,.bool (mc f x lo hi).2]):=by
 refine au (args:=[v,Sb Sc x,Sb Sc lo,Sb Sc hi]) follows Tryz.func97 E.ku S0 λK hK=>?_;dsimp only[L.ku,lkF,lkG];have c0:=Cx.start hW;refine aa λz hz=>?_;simp;refine c0.cr rfl hv λB ha Wa hWa ca hat hlea=>?_;subst hz;refine aa λz hz=>?_;obtain⟨uf,huf,ruf⟩:=hat.ldN rfl (N:=2) rfl;simp[huf _ ca.wle];refine aj R1 (jd ca.wle ruf hsm) ?_;rintro _ hc ⟨hlec,vi,rfl,hvi⟩;have cc:=ca.ext hlec;simp;refine cc.dE (α:=InsD) hvi (n:=5) (z:=.agg insV.toArray) R1 rfl rfl R1 R5 R5 λB2 hd Wd hWd cd hat2 hle2=>?_;subst hz;refine aa λz hz=>?_;refine aI Wd cd.wle ?_;have hp:=hat2.part InsD.gD;have d4:ao Wd ⟨B2,4,Sf⟩=Se (Sb Sd (de f x 1).1.imm.v):=by simpa using hp.i32
 obtain⟨_,-,rng⟩:=hp.load rfl;have rng:=(uZ.1 rng).2;have ew:IntKind.i64.wrap (de f x 1).1.imm.v=(de f x 1).1.imm.v:=bj R3 R3;cases hb:(de f x 1).2 with
 | false=>simp[d4,ew];subst hz;simp;exact hK _ _ ⟨cd.le0,by simp[mc,hb]⟩
 | true=>
  by_cases hlo:lo<=(de f x 1).1.imm.v
  ·simp[d4,ew,hlo];subst hz;simp;exact hK _ _ ⟨cd.le0,by simp[mc,hb,inR,hlo]⟩
  simp[d4,ew,hlo];subst hz;simp;exact hK _ _ ⟨cd.le0,by simp[mc,hb,inR,hlo]⟩
def immT (pat:Int):Int × Int × Int × Int:=
 if pat=16 then(2,18,-128,127) else if pat=17 then(3,18,-127,128) else if pat=18 then(5,19,-128,127) else if pat=19 then(8,20,0,31) else if pat=20 then(9,21,0,31) else if pat=21 then(10,22,0,31) else(0,0,0,0)
theorem AQ {pat:Int} {h:Heap}:aA Sn 96 #[Sb Sc pat] h (λu h'=>h'=h/\u = .tuple #[Sb Sc (immT pat).1,Sb Sc (immT pat).2.1,Sb Sc (immT pat).2.2.1,Sb Sc (immT pat).2.2.2]):=by
 refine au (args:=[Sb Sc pat]) follows Tryz.func96 E.jS S0 λK hK=>?_;dsimp only[L.jS,lkF,lkG];unfold immT at hK;by_cases c1:pat=16
 ·simp[c1];exact hK _ _ ⟨rfl,by simp[c1,pack]⟩
 by_cases c2:pat=17
 ·simp[c2];exact hK _ _ ⟨rfl,by simp[c2,pack]⟩
 by_cases c3:pat=18
 ·simp[c3];exact hK _ _ ⟨rfl,by simp[c3,pack]⟩
 by_cases c4:pat=19
 ·simp[c4];exact hK _ _ ⟨rfl,by simp[c4,pack]⟩
 by_cases c5:pat=20
 ·simp[c5];exact hK _ _ ⟨rfl,by simp[c5,pack]⟩
 by_cases c6:pat=21
 ·simp[c6];exact hK _ _ ⟨rfl,by simp[c6,pack]⟩
 simp[c1,c2,c3,c4,c5,c6];exact hK _ _ ⟨rfl,by simp[c1,c2,c3,c4,c5,c6,pack]⟩
end Go.Proofs.YtnfiilgdjpdlkaaGreatDoor
namespace Go.Lft
open Go
variable {pp:PP} {P:Program} {Q:Post} {ρ:Env} {h:Heap} {kl:List Nat} {c:Nat} {e:E} {a b x:LC}
theorem sK {i:Nat} (hx:x.wp P (fm i Q) ρ h):LC.wp P (.block i x) Q ρ h:=hx
theorem HY {v:Value} (hk:ρ.all (λp=>!kl.contains p.1&&!(p.1 == c))=Sj):cm (setE (cm ρ kl) c v) [c]=ρ:=by have h:=O7.1 hk;simp only[OA,PM,beq_eq_false_iff_ne,ne_eq]at h;have h1:cm ρ kl=ρ:=nf λp hp=>(h p hp).1;rw[h1];exact nC λp hp=>(h p hp).2
theorem Cd (v:Bool) (hk:ρ.all (λp=>!kl.contains p.1&&!(p.1 == c))=Sj) (he:ev (look ρ) (vw h) e=Se (.bool v)) (hx:LC.wp P (bif v then a else b) Q ρ h) :
  LC.wp P (.seq (.reg Sk (.fin kl [(c,e)] [])) (.cond (.tmp c) [c] a b)) Q ρ h:=by
 rw[pS,kL];refine⟨[(c,.bool v)],?_,trivial,?_⟩
 ·simp only[part];simp[evP,he]
 simp only[dF,fh];rw[lQ];have hl:ev (look (setE (cm ρ kl) c (.bool v))) (vw h) (.tmp c)=Se (.bool v):=by simp[af]
 rw[hl,HY hk];cases v
 ·simpa using hx
 simpa using hx
theorem dd (hk:ρ.all (λp=>!kl.contains p.1&&!(p.1 == c))=Sj) (he:ev (look ρ) (vw h) e=Se (.bool Sj)) (hx:LC.wp P a Q ρ h) :
  LC.wp P (.seq (.reg Sk (.fin kl [(c,e)] [])) (.cond (.tmp c) [c] a b)) Q ρ h:=Cd Sj hk he hx
theorem df (hk:ρ.all (λp=>!kl.contains p.1&&!(p.1 == c))=Sj) (he:ev (look ρ) (vw h) e=Se (.bool Sk)) (hx:LC.wp P b Q ρ h) :
  LC.wp P (.seq (.reg Sk (.fin kl [(c,e)] [])) (.cond (.tmp c) [c] a b)) Q ρ h:=Cd Sk hk he hx
end Go.Lft
namespace Go.Lft
open Go
variable {pp:PP} {P:Program} {Q:Post} {ρ:Env} {h:Heap} {kl:List Nat} {c:Nat} {e:E} {a b x:LC}
def Slk (ρ:Env) (l:List (Nat × Value)):Prop:=∀p∈l,look ρ p.1=Se p.2
theorem bs {p:Nat × Value} {l:List (Nat × Value)}:Slk ρ (p::l)↔look ρ p.1=Se p.2/\Slk ρ l:=by unfold Slk;simp
theorem bV:Slk ρ []↔True:=by unfold Slk;simp
theorem dt (l:List (Nat × Value)) (v:Bool) (hL:Slk ρ l) (hk:l.all (λp=>!kl.contains p.1&&!(p.1 == c))=Sj) (he:ev (look ρ) (vw h) e=Se (.bool v)) (hx : ∀ρ',Slk ρ' l->LC.wp P (bif v then a else b) Q ρ' h) :
  LC.wp P (.seq (.reg Sk (.fin kl [(c,e)] [])) (.cond (.tmp c) [c] a b)) Q ρ h:=by
 rw[pS,kL];refine⟨[(c,.bool v)],?_,trivial,?_⟩
 ·simp only[part];simp[evP,he]
 simp only[dF,fh];rw[lQ];have hl:ev (look (setE (cm ρ kl) c (.bool v))) (vw h) (.tmp c)=Se (.bool v):=by simp[af]
 rw[hl];have hk:=O7.1 hk;have hq:Slk (cm (setE (cm ρ kl) c (.bool v)) [c]) l:=λp hp=>by
  have:=hk p hp;simp only[OA,PM,beq_eq_false_iff_ne,ne_eq]at this;obtain⟨k1,k2⟩:=this;rw[ag,af,ag];have k3:¬(c=p.1):=λe=>k2 e.symm;have k4:([c].contains p.1)=false:=by simp[k2]
  simp[k1,k2,k3];exact⟨by simpa using k1,hL p hp⟩
 have:=hx _ hq;cases v
 ·simpa using this
 simpa using this
end Go.Lft
namespace Go.Lft
open Go
variable {pp:PP} {P:Program} {Q:Post} {ρ:Env} {h:Heap} {kl:List Nat} {c:Nat} {e:E} {a b x:LC}
theorem Slk.put {l:List (Nat × Value)} {v:Value} (hL:Slk ρ l) (hk:l.all (λp=>!kl.contains p.1&&!(p.1 == c))=Sj):Slk (setE (cm ρ kl) c v) ((c,v)::l):=λp hp=>by
 rw[af];rcases OO.1 hp with rfl | hp
 ·rw[if_pos rfl]
 have:=O7.1 hk p hp;simp only[OA,PM,beq_eq_false_iff_ne,ne_eq]at this;obtain⟨k1,k2⟩:=this;rw[if_neg (λe=>k2 e.symm),ag,k1];exact hL p hp
theorem Iu (l:List (Nat × Value)) (v:Value) (hL:Slk ρ l) (hk:l.all (λp=>!kl.contains p.1&&!(p.1 == c))=Sj) (he:ev (look ρ) (vw h) e=Se v) (hx : ∀ρ',Slk ρ' ((c,v)::l)->LC.wp P x Q ρ' h) :
  LC.wp P (.seq (.reg Sk (.fin kl [(c,e)] [])) x) Q ρ h:=by
 rw[pS,kL];refine⟨[(c,v)],?_,trivial,?_⟩
 ·simp only[part];simp[evP,he]
 simp only[dF,fh];exact hx _ (hL.put hk)
end Go.Lft
namespace Go.Lft
open Go
structure FitR where
 fit:FitD
 ok:Bool
 deriving Inhabited
instance:Rep FitR:=Rep.via λx=>Cat.mk x.fit x.ok
theorem FitR.MK:Part FitR FitD 0 FitR.fit (λd x=>{ d with fit:=x }):=(Part.fst Part.all).via (λ_=>rfl) λ_ _=>rfl
theorem FitR.NB:Part FitR Bool 8 FitR.ok (λd x=>{ d with ok:=x }):=(Part.snd Part.all).via (λ_=>rfl) λ_ _=>rfl
theorem pJ {H:View} {v1 v2 v3:Value} {ce:List Value} {takes inner:List Int} {code:List aH} {fin:EndD} {b:Bool} (h1:SlRd H v1 takes) (h2:SlRd H v2 inner) (h3:SlRd H v3 code) (h4:Rep.rd H ce fin) :
  Rd H (.agg (v1::v2::v3::(ce++[.bool b])).toArray) (⟨⟨takes,inner,code,fin⟩,b⟩:FitR):=by have h:=uk (α:=FitD) rfl (mh h1 h2 h3 h4);unfold Rd;rw[if_pos (show Rep.agg FitR=Sj from rfl)];exact⟨_,rfl,v1::v2::v3::ce,[.bool b],by simp,by simpa using h,rfl⟩
end Go.Lft
namespace Go.Proofs.YtnfiilgdjpdlkaaGreatDoor
open Go Go.Lft
def DB (V:View) (h h':Heap) (u:Value) (r:Option FitD):Prop:=(vw h).le (vw h')/\∃x:FitR,Rd (grow V h h') u x/\x.ok=r.isSome/\∀y,r=Se y->x.fit=y
abbrev bo:List Value:=[Sg Sf 0 0,Sg Sf 0 0,Sg Sf 0 0,Sb Sc 0,Sb Sc 0,Sb Sc 0,Sg Sf 0 0,Sb Sd 0,.bool Sk]
theorem ir {H:View}:Rd H (.agg bo.toArray) (⟨nJ,Sk⟩:FitR):=pJ (ce:=[Sb Sc 0,Sb Sc 0,Sb Sc 0,Sg Sf 0 0,Sb Sd 0]) aF aF aF (hZ Sa R4 aF)
theorem G8 {H:View} {B:Nat} {t:cK} (h:At H ⟨B,0,Sf⟩ t) : ∃va wt,ao H ⟨B,0,Sf⟩=Se (Sb Sc t.kind)/\Sl H ⟨B,1,Sf⟩ va t.args/\Sl H ⟨B,2,Sf⟩ wt t.to/\ao H ⟨B,3,Sf⟩=Se (Sb Sd t.imm.v)/\-2147483648<=t.imm.v/\t.imm.v<=2147483647:=by obtain⟨va,h4⟩:=(h.part cK.eW).sl;obtain⟨vt,h5⟩:=(h.part cK.yi).sl;have hi:=h.part cK.gD;exact⟨va,vt,by simpa using(h.part cK.yh).int,by simpa using h4,by simpa using h5,by simpa using hi.i32,hi.nK.1,hi.nK.2⟩
abbrev endP:List (Nat × Nat):=[(0,1),(1,1),(2,1),(3,1),(4,1)]
abbrev fitP:List (Nat × Nat):=[(0,1),(1,1),(2,1),(3,5),(8,1)]
set_option maxHeartbeats 4000000 in
theorem D9 {f:aq} {t:cK} {vf vt:Value} {pat:Int} {h:Heap} {W:View} (hW:W.le (vw h)) (hvf:Rd W vf f) (hvt:Rd W vt t) (hsm:SmF f) (hall : ∀i∈dV f,qB i) (htk:uK t) (hp:I64 pat) :
  aA Sn 61 #[vf,vt,Sb Sc pat] h (λu h'=>DB W h h' u (eA f t pat)):=by
 refine au (args:=[vf,vt,Sb Sc pat]) follows Tryz.func61 E.pz S0 λK hK=>?_;dsimp only[L.pz,lkF,lkG];have c0:=Cx.start hW;refine aa λz hz=>?_;simp;refine c0.cr rfl hvf λF1 h1 W1 hW1 c1 hat1 hle1=>?_;refine c1.cr rfl (hvt.mono hW1) λT1 h2 W2 hW2 c2 hat2 hle2=>?_;refine c2.bW (k:=(0,0)) (n:=8) (z:=.agg bo.toArray) rfl R1 rfl R4 R8 λR h3 hle3 c3=>?_;subst hz;have hat1:=hat1.mono hW2;obtain⟨va,wt,k0,⟨k1,s1⟩,⟨k2,s2⟩,k3,r1,r2⟩:=G8 hat2;have tone:=htk.one;have s1c:=s1.mono c3.wle;have bd:=s1.bound;obtain⟨a1,n1,m1,rfl⟩:=eX s1;obtain⟨a2,n2,m2,rfl⟩:=eX s2;have k0c:=ae c3.wle k0;have k1c:=ae c3.wle k1;have k2c:=ae c3.wle k2;have k3c:=ae c3.wle k3;have fin : ∀(W':View) (h9:Heap) (o:Own) (l9:List Value) (x:FitR),Cx W h W' h9 o->Rd W' (.agg l9.toArray) x->x.ok=(eA f t pat).isSome->(∀y,eA f t pat=Se y->x.fit=y)->K (.agg l9.toArray) h9:=λW' h9 o l9 x c hr e1 e2=>hK _ _ ⟨c.le0,x,hr.mono c.fin,e1,e2⟩;clear hK;refine aa λz hz=>?_;refine sK ?_;have e1 : ∀a b:Int,¬(pat=a/\t.kind=b)->(decide (pat=a)&&decide (t.kind=b))=false:=λa b hh=>by simpa using hh
 have oneA:t.kind=2\/t.kind=3->0<t.args.length:=λhh=>by have:=tone hh;omega
 have hrB : ∀op:Int,(op=2\/op=6)->0<t.args.length->Rd W2 (.agg #[.slice a1 n1 m1,Sg Sf 0 0,Sg Sf 0 0,Sb Sc op,Sb Sc (nth t.args 0),Sb Sc 0,.slice a2 n2 m2,Sb Sd 0,.bool Sj]) (⟨⟨t.args,[],[],⟨op,nth t.args 0,0,t.to,⟨0⟩⟩⟩,Sj⟩:FitR):=λop ho hl=>by have a0:=s1.rng (i:=0) hl;exact pJ (ce:=[Sb Sc op,Sb Sc (nth t.args 0),Sb Sc 0,.slice a2 n2 m2,Sb Sd 0]) s1 aF aF (hZ R9 R4 s2)
 by_cases q1:pat=0/\t.kind=1
 ·have er:eA f t pat=Se ⟨[],[],[],⟨1,0,0,t.to,⟨0⟩⟩⟩:=by unfold eA;rw[if_pos q1]
  have hr:Rd W2 (.agg #[Sg Sf 0 0,Sg Sf 0 0,Sg Sf 0 0,Sb Sc 1,Sb Sc 0,Sb Sc 0,.slice a2 n2 m2,Sb Sd 0,.bool Sj]) (⟨⟨[],[],[],⟨1,0,0,t.to,⟨0⟩⟩⟩,Sj⟩:FitR):=pJ (ce:=[Sb Sc 1,Sb Sc 0,Sb Sc 0,.slice a2 n2 m2,Sb Sd 0]) aF aF aF (hZ Sa R4 s2);refine dd RZ (by simp[k0c,q1.1,q1.2]) ?_;simp[k2c];refine an (z:=.agg #[Sb Sc 0,Sb Sc 0,Sb Sc 0,Sg Sf 0 0,Sb Sd 0]) (places:=endP) (vs:=[(0,Sb Sc 1),(3,.slice a2 n2 m2)]) (cs:=#[Sb Sc 1,Sb Sc 0,Sb Sc 0,.slice a2 n2 m2,Sb Sd 0]) R1 R1 Sa R1 ?_;refine an (z:=.agg bo.toArray) (places:=fitP) (vs:=[(3,.agg #[Sb Sc 1,Sb Sc 0,Sb Sc 0,.slice a2 n2 m2,Sb Sd 0]),(4,.bool Sj)]) (cs:=#[Sg Sf 0 0,Sg Sf 0 0,Sg Sf 0 0,Sb Sc 1,Sb Sc 0,Sb Sc 0,.slice a2 n2 m2,Sb Sd 0,.bool Sj]) R1 R1 Sa R1 ?_;refine c3.aK (k:=(0,0)) Own.ah hr rfl rfl R1 Sa Sa λh5 l5 hl5 c5=>?_;simp[c5.all (k:=(0,0)) Own.ah];exact fin _ _ _ _ _ c5 (hl5▸hr) (by rw[er];rfl) (λy hy=>by rw[er]at hy;cases hy;rfl)
 have x1:=e1 0 1 q1;refine df RZ (by simp[k0c,x1]) ?_;by_cases q2:pat=0/\t.kind=4
 ·have er:eA f t pat=Se ⟨t.args,[],[],⟨7,if t.args=[] then -1 else nth t.args 0,0,[],⟨0⟩⟩⟩:=by unfold eA;rw[if_neg q1,if_pos q2]
  refine dd RZ (by simp[k0c,q2.1,q2.2]) ?_;have hr : ∀a:Int,I64 a->a=(if t.args=[] then -1 else nth t.args 0)->Rd W2 (.agg #[.slice a1 n1 m1,Sg Sf 0 0,Sg Sf 0 0,Sb Sc 7,Sb Sc a,Sb Sc 0,Sg Sf 0 0,Sb Sd 0,.bool Sj]) (⟨⟨t.args,[],[],⟨7,if t.args=[] then -1 else nth t.args 0,0,[],⟨0⟩⟩⟩,Sj⟩:FitR):=λa ha e=>by rw[<-e];exact pJ (ce:=[Sb Sc 7,Sb Sc a,Sb Sc 0,Sg Sf 0 0,Sb Sd 0]) s1 aF aF (hZ (by obtain⟨g1,g2⟩:=ha;simp;omega) R4 aF)
  by_cases hn:t.args=[]
  ·have hl0:t.args.length=0:=by rw[hn];rfl
   have len : ∀K:View,Un.ev K .len (.slice a1 n1 m1)=Se (Sb Sc 0):=λK=>by rw[s1.len (K:=K),hl0];rfl
   have hr:=hr (-1) ⟨R4,R4⟩ (by rw[if_pos hn]);simp[k0c,k1c,len];refine an (z:=.agg #[Sb Sc 0,Sb Sc 0,Sb Sc 0,Sg Sf 0 0,Sb Sd 0]) (places:=endP) (vs:=[(0,Sb Sc 7),(1,Sb Sc (-1))]) (cs:=#[Sb Sc 7,Sb Sc (-1),Sb Sc 0,Sg Sf 0 0,Sb Sd 0]) R1 R1 Sa R1 ?_;refine an (z:=.agg bo.toArray) (places:=fitP) (vs:=[(0,.slice a1 n1 m1),(3,.agg #[Sb Sc 7,Sb Sc (-1),Sb Sc 0,Sg Sf 0 0,Sb Sd 0]),(4,.bool Sj)]) (cs:=#[.slice a1 n1 m1,Sg Sf 0 0,Sg Sf 0 0,Sb Sc 7,Sb Sc (-1),Sb Sc 0,Sg Sf 0 0,Sb Sd 0,.bool Sj]) R1 R1 Sa R1 ?_;refine c3.aK (k:=(0,0)) Own.ah hr rfl rfl R1 Sa Sa λh5 l5 hl5 c5=>?_;simp[c5.all (k:=(0,0)) Own.ah];exact fin _ _ _ _ _ c5 (hl5▸hr) (by rw[er];rfl) (λy hy=>by rw[er]at hy;cases hy;rfl)
  have hl0:0<t.args.length:=List.length_pos_iff.2 hn;obtain⟨L,hL,len⟩ : ∃L:Int,0<L/\∀K:View,Un.ev K .len (.slice a1 n1 m1)=Se (Sb Sc L):=⟨t.args.length,by omega,λK=>s1.len (K:=K)⟩;have a0:=s1.rng (i:=0) hl0;have hr:=hr (nth t.args 0) a0 (by rw[if_neg hn]);have ix:=s1.idx1 (k:=.i64) (i:=0) rfl R4 R3;have ld:=s1c.int S2 (i:=0) hl0;simp at ix ld;simp[k0c,k1c,len,hL,ix,ld];refine an (z:=.agg #[Sb Sc 0,Sb Sc 0,Sb Sc 0,Sg Sf 0 0,Sb Sd 0]) (places:=endP) (vs:=[(0,Sb Sc 7),(1,Sb Sc (nth t.args 0))]) (cs:=#[Sb Sc 7,Sb Sc (nth t.args 0),Sb Sc 0,Sg Sf 0 0,Sb Sd 0]) R1 R1 Sa R1 ?_;refine an (z:=.agg bo.toArray) (places:=fitP) (vs:=[(0,.slice a1 n1 m1),(3,.agg #[Sb Sc 7,Sb Sc (nth t.args 0),Sb Sc 0,Sg Sf 0 0,Sb Sd 0]),(4,.bool Sj)]) (cs:=#[.slice a1 n1 m1,Sg Sf 0 0,Sg Sf 0 0,Sb Sc 7,Sb Sc (nth t.args 0),Sb Sc 0,Sg Sf 0 0,Sb Sd 0,.bool Sj]) R1 R1 Sa R1 ?_;refine c3.aK (k:=(0,0)) Own.ah hr rfl rfl R1 Sa Sa λh5 l5 hl5 c5=>?_;simp[c5.all (k:=(0,0)) Own.ah];exact fin _ _ _ _ _ c5 (hl5▸hr) (by rw[er];rfl) (λy hy=>by rw[er]at hy;cases hy;rfl)
 have x2:=e1 0 4 q2;refine df RZ (by simp[k0c,x2]) ?_;by_cases q3:pat=0/\t.kind=5
 ·have er:eA f t pat=Se ⟨[],[],[],⟨8,0,0,[],t.imm⟩⟩:=by unfold eA;rw[if_neg q1,if_neg q2,if_pos q3]
  have hr:Rd W2 (.agg #[Sg Sf 0 0,Sg Sf 0 0,Sg Sf 0 0,Sb Sc 8,Sb Sc 0,Sb Sc 0,Sg Sf 0 0,Sb Sd t.imm.v,.bool Sj]) (⟨⟨[],[],[],⟨8,0,0,[],t.imm⟩⟩,Sj⟩:FitR):=pJ (ce:=[Sb Sc 8,Sb Sc 0,Sb Sc 0,Sg Sf 0 0,Sb Sd t.imm.v]) aF aF aF (hZ Sa ⟨r1,r2⟩ aF);refine dd RZ (by simp[k0c,q3.1,q3.2]) ?_;simp[k3c];refine an (z:=.agg #[Sb Sc 0,Sb Sc 0,Sb Sc 0,Sg Sf 0 0,Sb Sd 0]) (places:=endP) (vs:=[(0,Sb Sc 8),(4,Sb Sd t.imm.v)]) (cs:=#[Sb Sc 8,Sb Sc 0,Sb Sc 0,Sg Sf 0 0,Sb Sd t.imm.v]) R1 R1 Sa R1 ?_;refine an (z:=.agg bo.toArray) (places:=fitP) (vs:=[(3,.agg #[Sb Sc 8,Sb Sc 0,Sb Sc 0,Sg Sf 0 0,Sb Sd t.imm.v]),(4,.bool Sj)]) (cs:=#[Sg Sf 0 0,Sg Sf 0 0,Sg Sf 0 0,Sb Sc 8,Sb Sc 0,Sb Sc 0,Sg Sf 0 0,Sb Sd t.imm.v,.bool Sj]) R1 R1 Sa R1 ?_;refine c3.aK (k:=(0,0)) Own.ah hr rfl rfl R1 Sa Sa λh5 l5 hl5 c5=>?_;simp[c5.all (k:=(0,0)) Own.ah];exact fin _ _ _ _ _ c5 (hl5▸hr) (by rw[er];rfl) (λy hy=>by rw[er]at hy;cases hy;rfl)
 have x3:=e1 0 5 q3;refine df RZ (by simp[k0c,x3]) ?_;by_cases q4:pat=33/\t.kind=2
 ·have er:eA f t pat=Se ⟨t.args,[],[],⟨2,nth t.args 0,0,t.to,⟨0⟩⟩⟩:=by unfold eA;rw[if_neg q1,if_neg q2,if_neg q3,if_pos q4]
  have hl:=oneA (.inl q4.2);have hr:=hrB 2 (.inl rfl) hl;have ix:=s1.idx1 (k:=.i64) (i:=0) rfl R4 R3;have ld:=s1.int (View.le_refl W2) (i:=0) hl;simp at ix ld;refine dd RZ (by simp[k0c,q4.1,q4.2]) ?_;refine aa λy hy=>?_;refine aI W2 c3.wle ?_;simp[k1,k2,ix,ld];refine an (z:=.agg #[Sb Sc 0,Sb Sc 0,Sb Sc 0,Sg Sf 0 0,Sb Sd 0]) (places:=endP) (vs:=[(0,Sb Sc 2),(1,Sb Sc (nth t.args 0)),(3,.slice a2 n2 m2)]) (cs:=#[Sb Sc 2,Sb Sc (nth t.args 0),Sb Sc 0,.slice a2 n2 m2,Sb Sd 0]) R1 R1 Sa R1 ?_;refine⟨c3.wle,?_⟩;refine an (z:=.agg bo.toArray) (places:=fitP) (vs:=[(0,.slice a1 n1 m1),(3,.agg #[Sb Sc 2,Sb Sc (nth t.args 0),Sb Sc 0,.slice a2 n2 m2,Sb Sd 0]),(4,.bool Sj)]) (cs:=#[.slice a1 n1 m1,Sg Sf 0 0,Sg Sf 0 0,Sb Sc 2,Sb Sc (nth t.args 0),Sb Sc 0,.slice a2 n2 m2,Sb Sd 0,.bool Sj]) R1 R1 Sa R1 ?_;refine c3.aK (k:=(0,0)) Own.ah hr rfl rfl R1 Sa Sa λh5 l5 hl5 c5=>?_;subst hy;simp[c5.all (k:=(0,0)) Own.ah];exact fin _ _ _ _ _ c5 (hl5▸hr) (by rw[er];rfl) (λy hy=>by rw[er]at hy;cases hy;rfl)
 have x4:=e1 33 2 q4;refine df RZ (by simp[k0c,x4]) ?_;by_cases q5:(34<=pat/\pat<=36)/\t.kind=2
 ·have hl:=oneA (.inl q5.2);have ix:=s1.idx1 (k:=.i64) (i:=0) rfl R4 R3;have ld:=s1.int (View.le_refl W2) (i:=0) hl;simp at ix ld;obtain⟨uf,huf,ruf⟩:=hat1.ldN rfl (N:=2) rfl;have huf:=huf W2 S2;have ew:IntKind.i64.wrap (pat-34)=pat-34:=bj R3 R3;have ew2:IntKind.i64.wrap (pat-34+11)=pat-23:=by rw[bj R3 R3];omega
  have ew3:IntKind.i64.wrap (pat-34+3)=pat-31:=by rw[bj R3 R3];omega
  obtain⟨hs2,hs1⟩:=pP (f:=f) (v:=nth t.args 0) (op:=pat-23);have er:eA f t pat=if(aG f (nth t.args 0) (pat-23)).2 then Se ⟨(aG f (nth t.args 0) (pat-23)).1.args,t.args,[],⟨pat-31,nth (aG f (nth t.args 0) (pat-23)).1.args 0,nth (aG f (nth t.args 0) (pat-23)).1.args 1,t.to,⟨0⟩⟩⟩ else none:=by unfold eA;rw[if_neg q1,if_neg q2,if_neg q3,if_neg q4,if_pos q5]
  have arg2:(aG f (nth t.args 0) (pat-23)).2=Sj->2<=(aG f (nth t.args 0) (pat-23)).1.args.length:=λhb=>by obtain⟨m1,m2,-⟩:=gK hb;exact(hall _ m1).two R3
  refine dd RZ (by simp[k0c,q5.1.1,q5.1.2,q5.2]) ?_;refine aa λy hy=>?_;have rest : ∀(W5:View) (h5:Heap) (o:Own) (S:Nat) (ρ:Env),W2.le W5->Cx W h W5 h5 o->o (0,0)=bx T.aJ R (RawN.mk (n:=8) bo)->At W5 ⟨S,0,Sf⟩ (de f (nth t.args 0) (pat-23)).1->Lft.look ρ 2=Se (Sb Sc pat)->Lft.look ρ 4=Se (ptr T1)->Lft.look ρ 6=Se (ptr R)->Lft.look ρ 8=Se (ptr S)->Lft.look ρ 9=Se (.bool (de f (nth t.args 0) (pat-23)).2)->
    LC.wp Sn y (fm 0 (fh (LC.wp Sn z (cz [.un (.aT 9) (.tmp 6)] K)) (cz [.un (.aT 9) (.tmp 6)] K))) ρ h5:=by
   intro W5 h5 o S ρ hW5 c5 ho hat5 g2 g4 g6 g8 g9;subst hy;refine aa λy hy=>?_;cases hb:(de f (nth t.args 0) (pat-23)).2 with
   | false=>
    rw[hb]at g9;have er:eA f t pat=none:=by rw[er,<-hs2,hb];rfl
    simp[g6,g9,af,ag];refine an (z:=.agg bo.toArray) (places:=fitP) (vs:=[]) (cs:=bo.toArray) R1 R1 Sa R1 ?_;have hr:Rd W5 (.agg bo.toArray) (⟨nJ,Sk⟩:FitR):=ir;refine c5.aK (k:=(0,0)) ho hr rfl rfl R1 Sa Sa λh6 l6 hl6 c6=>?_;simp[g6,af,ag,c6.all (k:=(0,0)) Own.ah];exact fin _ _ _ _ _ c6 (hl6▸hr) (by rw[er];rfl) (λy hy=>by rw[er]at hy;cases hy)
   | true=>
    rw[hb]at g9;have hf2:(aG f (nth t.args 0) (pat-23)).2=true:=by rw[<-hs2,hb]
    have arg2:=arg2 hf2;rw[hs1 hf2]at hat5;rw[if_pos hf2]at er;generalize (aG f (nth t.args 0) (pat-23)).1=i at hat5 er arg2;obtain⟨-,-,-,vi,j3,si⟩:=fO hat5;obtain⟨a3,n3,m3,rfl⟩:=eX si;simp[g6,g9,af,ag];subst hy;have k1:=ae hW5 k1;have k2:=ae hW5 k2;have jx0:=si.idx1 (k:=.i64) (i:=0) rfl R4 R3;have jd0:=si.int (View.le_refl W5) (i:=0) R3;have jx1:=si.idx1 (k:=.i64) (i:=1) rfl R4 R3;have jd1:=si.int (View.le_refl W5) (i:=1) R3;have b0:=si.rng (i:=0) R3;have b1:=si.rng (i:=1) R3;simp at jx0 jd0 jx1 jd1;have hr:Rd W5 (.agg #[.slice a3 n3 m3,.slice a1 n1 m1,Sg Sf 0 0,Sb Sc (pat-31),Sb Sc (nth i.args 0),Sb Sc (nth i.args 1),.slice a2 n2 m2,Sb Sd 0,.bool Sj]) (⟨⟨i.args,t.args,[],⟨pat-31,nth i.args 0,nth i.args 1,t.to,⟨0⟩⟩⟩,Sj⟩:FitR):=
     pJ (ce:=[Sb Sc (pat-31),Sb Sc (nth i.args 0),Sb Sc (nth i.args 1),.slice a2 n2 m2,Sb Sd 0]) si (s1.mono hW5) aF (hZ R9 R4 (s2.mono hW5));refine aa λy hy=>?_;refine aI W5 c5.wle ?_;simp[g2,g4,g6,g8,af,ag,j3,k1,k2,jx0,jd0,jx1,jd1,ew,ew3];refine an (z:=.agg #[Sb Sc 0,Sb Sc 0,Sb Sc 0,Sg Sf 0 0,Sb Sd 0]) (places:=endP) (vs:=[(0,Sb Sc (pat-31)),(1,Sb Sc (nth i.args 0)),(2,Sb Sc (nth i.args 1)),(3,.slice a2 n2 m2)]) (cs:=#[Sb Sc (pat-31),Sb Sc (nth i.args 0),Sb Sc (nth i.args 1),.slice a2 n2 m2,Sb Sd 0]) R1 R1 Sa R1 ?_;refine⟨c5.wle,?_⟩;refine an (z:=.agg bo.toArray) (places:=fitP) (vs:=[(0,.slice a3 n3 m3),(1,.slice a1 n1 m1),(3,.agg #[Sb Sc (pat-31),Sb Sc (nth i.args 0),Sb Sc (nth i.args 1),.slice a2 n2 m2,Sb Sd 0]),(4,.bool Sj)]) (cs:=#[.slice a3 n3 m3,.slice a1 n1 m1,Sg Sf 0 0,Sb Sc (pat-31),Sb Sc (nth i.args 0),Sb Sc (nth i.args 1),.slice a2 n2 m2,Sb Sd 0,.bool Sj]) R1 R1 Sa R1 ?_;refine c5.aK (k:=(0,0)) ho hr rfl rfl R1 Sa Sa λh6 l6 hl6 c6=>?_;subst hy;simp[g6,af,ag,c6.all (k:=(0,0)) Own.ah];exact fin _ _ _ _ _ c6 (hl6▸hr) (by rw[er];rfl) (λy hy=>by rw[er]at hy;cases hy;rfl)
  clear hy;refine aI W2 c3.wle ?_;refine dT ?_ ?_
  ·refine ay λw hw=>?_;simp[huf,k1,ix,ld,ew,ew2];refine aj R1 (jd c3.wle ruf hsm) ?_;rintro _ h4 ⟨hle4,vi,rfl,hvi⟩;have c4:=c3.ext hle4;subst hw;simp;refine c4.dE (α:=InsD) hvi (n:=5) (z:=.agg insV.toArray) R1 rfl rfl R1 R5 R5 λS h5 W5 hW5 c5 hat5 hle5=>?_;exact rest W5 h5 _ S _ (S3 c3.up hW5) c5 Own.ah hat5 rfl rfl rfl rfl rfl
  refine ay λw hw=>?_;simp[huf,k1,ix,ld];refine c3.db (k:=(0,5)) (z:=.agg insV.toArray) (d:=eZ) RZ R1 iU R4 λS h4 hle4 c4=>?_;refine⟨c4.wle,?_⟩;subst hw;refine ay λw hw=>?_;simp[ew,ew2];refine aj R1 (jd c4.wle ruf hsm) ?_;rintro _ h5 ⟨hle5,vi,rfl,hvi⟩;have hW5:=c4.up (h':=h5);have c5:=c4.ext hle5;subst hw;simp;refine c5.cA Part.all (k:=(0,5)) (D:=eZ) (d:=(de f (nth t.args 0) (pat-23)).1) RZ R1 Sa Sa hvi λh6 c6=>?_;obtain⟨W6,hW6,c7,hat7⟩:=c6.mT (k:=(0,5)) (B:=S) (d:=(de f (nth t.args 0) (pat-23)).1) RZ;exact rest W6 h6 _ S _ (S3 hW5 hW6) c7 RZ hat7 rfl rfl rfl rfl rfl
 have x5:(decide (34<=pat)&&decide (pat<=36)&&decide (t.kind=2))=false:=by simpa[and_assoc]using q5
 refine df RZ (by simp[k0c,x5]) ?_;by_cases q6:pat=37/\t.kind=3
 ·have er:eA f t pat=Se ⟨t.args,[],[],⟨6,nth t.args 0,0,t.to,⟨0⟩⟩⟩:=by unfold eA;rw[if_neg q1,if_neg q2,if_neg q3,if_neg q4,if_neg q5,if_pos q6]
  have hl:=oneA (.inr q6.2);have hr:=hrB 6 (.inr rfl) hl;have ix:=s1.idx1 (k:=.i64) (i:=0) rfl R4 R3;have ld:=s1.int (View.le_refl W2) (i:=0) hl;simp at ix ld;refine dd RZ (by simp[k0c,q6.1,q6.2]) ?_;refine aa λy hy=>?_;refine aI W2 c3.wle ?_;simp[k1,k2,ix,ld];refine an (z:=.agg #[Sb Sc 0,Sb Sc 0,Sb Sc 0,Sg Sf 0 0,Sb Sd 0]) (places:=endP) (vs:=[(0,Sb Sc 6),(1,Sb Sc (nth t.args 0)),(3,.slice a2 n2 m2)]) (cs:=#[Sb Sc 6,Sb Sc (nth t.args 0),Sb Sc 0,.slice a2 n2 m2,Sb Sd 0]) R1 R1 Sa R1 ?_;refine⟨c3.wle,?_⟩;refine an (z:=.agg bo.toArray) (places:=fitP) (vs:=[(0,.slice a1 n1 m1),(3,.agg #[Sb Sc 6,Sb Sc (nth t.args 0),Sb Sc 0,.slice a2 n2 m2,Sb Sd 0]),(4,.bool Sj)]) (cs:=#[.slice a1 n1 m1,Sg Sf 0 0,Sg Sf 0 0,Sb Sc 6,Sb Sc (nth t.args 0),Sb Sc 0,.slice a2 n2 m2,Sb Sd 0,.bool Sj]) R1 R1 Sa R1 ?_;refine c3.aK (k:=(0,0)) Own.ah hr rfl rfl R1 Sa Sa λh5 l5 hl5 c5=>?_;subst hy;simp[c5.all (k:=(0,0)) Own.ah];exact fin _ _ _ _ _ c5 (hl5▸hr) (by rw[er];rfl) (λy hy=>by rw[er]at hy;cases hy;rfl)
 have x6:=e1 37 3 q6;refine df RZ (by simp[k0c,x6]) ?_;have er:eA f t pat=none:=by unfold eA;rw[if_neg q1,if_neg q2,if_neg q3,if_neg q4,if_neg q5,if_neg q6]
 simp;subst hz;simp;refine an (z:=.agg bo.toArray) (places:=fitP) (vs:=[]) (cs:=bo.toArray) R1 R1 Sa R1 ?_;have hr:Rd W2 (.agg bo.toArray) (⟨nJ,Sk⟩:FitR):=ir;refine c3.aK (k:=(0,0)) Own.ah hr rfl rfl R1 Sa Sa λh5 l5 hl5 c5=>?_;simp[c5.all (k:=(0,0)) Own.ah];exact fin _ _ _ _ _ c5 (hl5▸hr) (by rw[er];rfl) (λy hy=>by rw[er]at hy;cases hy)
end Go.Proofs.YtnfiilgdjpdlkaaGreatDoor
