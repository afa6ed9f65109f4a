/- A part of the proof: Wt, Ha, Hb, Hc, Pa, Pb, Pd, Pc, Pe, Pf, Pg, Ph, Hd, He, Hf, Hg, Hi, Hj, Hk. -/
import Derived.Test.YtfelpjfopgiabaaZQ2
set_option linter.unusedSimpArgs false
set_option linter.unusedVariables false
namespace Go.Proofs.Ytfelpjfopgiabaa
open Go Go.Lft
theorem rZ {h h':Heap} {v v':Value} (m:jL h h' v v') {W:View} (hw:W.le (vw h)) (ha:Av W v):W.le (vw h'):=(m.view hw ha).1
theorem EK {g:Gr} {vg:Value} {h:Heap} {fuel:Nat} {l:List Int} (hg:SlRd (vw h) vg g) (hs:Sm g) (hl:tK g fuel=some l) :
  aG Try.prog N.bW #[vg] h (fun v h'=>∃ W,Mine nothing h h' W T.int v l):=by
 refine ay (args:=[vg]) follows F.bW E.bW (Nat.le_of_ble_eq_true (by kernel_rfl)) fun K hK=>?_
 have hs1:=hs.1
 simp [L.bW,hg.len]
 refine aj (by kernel_rfl) (wX hg hs) ?_
 rintro vo h1 ⟨hle1,ho⟩
 have hoin:=@Bf g
 have holen:=oe (g:=g)
 rw [tK] at hl
 generalize bc g=order at ho hoin holen hl
 refine Mine.made (V:=nothing) (W:=nothing) (h0:=h) (n:=g.length) (d:=(0:Int)) El.aP hle1 (fun _ _ h=>by cases h) (Old.nothing _ _) (by simp<;>rfl) (by simp<;>rfl) ⟨rfl,by omega,by omega⟩ (by omega) (by omega) fun vn h2 mn hle2 hbn=>?_
 refine Mine.made (V:=nothing) (W:=nothing) (h0:=h) (n:=g.length) (d:=(0:Int)) El.aP mn.old (fun _ _ h=>by cases h) (Old.nothing _ _) (by simp<;>rfl) (by simp<;>rfl) ⟨rfl,by omega,by omega⟩ (by omega) (by omega) fun vi h3 mi hle3 hbi=>?_
 have mn3:=mn.ext' hle3
 have hne:vn.ownBlock≠vi.ownBlock:=by
  have:=mn.own.lt hbn
  rw [hbn,hbi];intro e;simp only [Option.some.injEq] at e;omega
 have hle13:(vw h1).le (vw h3):=View.le_trans hle2 hle3
 have av1n:Av (vw h1) vn:=fun b hb=>by rw [hbn] at hb;cases hb;exact View.de (View.le_refl _) (Nat.le_refl _)
 have av1i:Av (vw h1) vi:=fun b hb=>by rw [hbi] at hb;cases hb;exact View.de hle2 (Nat.le_refl _)
 refine a8 [0,3,4,5,25,26] (fun (_:Unit) k=>[vg,vo,vn,vi,.int .i64 g.length,.int .i64 k])
  (fun _ k h4=>Mine nothing h h4 nothing T.int vn (rows (fun _=>(-1:Int)) k++List.replicate (g.length-k) 0)∧Mine nothing h h4 nothing T.int vi (rows (fun _=>(-1:Int)) k++List.replicate (g.length-k) 0)∧(vw h1).le (vw h4)) g.length ()
  rfl (by omega) rfl ⟨by simpa using mn3,by simpa using mi,hle13⟩ (fun _ _=>rfl) (fun v k h1 hk m=>by simp) ?_ ?_
 ·rintro _ k h4 hlt ⟨m4n,m4i,hle4⟩ K2 hK2
  have hlk:(rows (fun _=>(-1:Int)) k++List.replicate (g.length-k) (0:Int)).length=g.length:=by simp;omega
  simp (disch:=omega) [m4n.now.idx1 rfl,m4i.now.idx1 rfl]
  refine oC (W:=nothing) (i:=k) (d:=(-1:Int)) (by kernel_rfl) (by simp [show Rep.n Int=1 from rfl]) (by simp<;>rfl) m4n.own (by omega) (jQ (by omega) (by omega)) fun h5 o5 mv5=>?_
  have m5n:=m4n.kV o5 mv5
  have m5i:=m4i.beside m5n mv5 (.inr (Ne.symm hne))
  refine oC (W:=nothing) (i:=k) (d:=(-1:Int)) (by kernel_rfl) (by simp [show Rep.n Int=1 from rfl]) (by simp<;>rfl) m5i.own (by omega) (jQ (by omega) (by omega)) fun h6 o6 mv6=>?_
  have m6i:=m5i.kV o6 mv6
  have m6n:=m5n.beside m6i mv6 (.inr hne)
  rw [kl (x:=fun _=>(-1:Int)) hlt] at m6i m6n
  exact hK2 () _ _ rfl rfl ⟨m6n,m6i,rZ mv6 (rZ mv5 hle4 av1n) av1i⟩
 ·rintro _ h4 ⟨m4n,m4i,hle4⟩
  have hrows:rows (fun _=>(-1:Int)) g.length=List.replicate g.length (-1):=by
   refine List.ext_getElem (by simp) fun i h1 h2=>?_
   simp [rows]
  rw [hrows] at m4n m4i
  simp only [Nat.sub_self,List.replicate_zero,List.append_nil] at m4n m4i
  have ho1:=ho.mono (iL h h1)
  simp [ho1.len]
  refine a8 [0,3,4,5,36,37,38] (fun (_:Unit) k=>[vg,vo,vn,vi,vo,.int .i64 order.length,.int .i64 k])
   (fun _ k h5=>Mine nothing h h5 nothing T.int vn (up (fun i l=>l.set (nth order i).toNat (i:Int)) k (List.replicate g.length (-1)))∧Mine nothing h h5 nothing T.int vi (List.replicate g.length (-1))∧(vw h1).le (vw h5)) order.length ()
   rfl (by omega) rfl ⟨m4n,m4i,hle4⟩ (fun _ _=>rfl) (fun v k h1 hk m=>by simp) ?_ ?_
  ·rintro _ k h5 hlt ⟨m5n,m5i,hle5⟩ K2 hK2
   have hlen5:(up (fun i l=>l.set (nth order i).toNat (i:Int)) k (List.replicate g.length (-1))).length=g.length:=by
    rw [uY List.length (fun _ _=>by simp)];simp
   have ho5:=ho1.mono hle5
   obtain ⟨e0,e1⟩:=hoin hlt
   simp (disch:=omega) [ho5.idx1 rfl,ho5.int (View.le_refl _),m5n.now.idx1 rfl]
   refine oC (W:=nothing) (i:=(nth order k).toNat) (d:=(k:Int)) (by kernel_rfl) (by simp [show Rep.n Int=1 from rfl]) (by simp<;>rfl) m5n.own (by omega) (jQ (by omega) (by omega)) fun h6 o6 mv6=>?_
   have m6n:=m5n.kV o6 mv6
   exact hK2 () _ _ rfl rfl ⟨m6n,m5i.beside m6n mv6 (.inr (Ne.symm hne)),rZ mv6 hle5 av1n⟩
  ·rintro _ h5 ⟨m5n,m5i,hle5⟩
   have hnum:up (fun i l=>l.set (nth order i).toNat (i:Int)) order.length (List.replicate g.length (-1))=eM g.length order:=rfl
   rw [hnum] at m5n
   have hnl:(eM g.length order).length=g.length:=by rw [eM,uY List.length (fun _ _=>by simp)];simp
   simp
   refine aj (by kernel_rfl) (yf (hg.mono m5n.old) hs) ?_
   rintro vp h6 ⟨hle6,hp⟩
   have hpl:(cU g).length=g.length:=by rw [cU,lC];simp
   have hpin : ∀ i,∀ x∈nth (cU g) i,0≤x∧x<g.length:=pL (fun e he=>(nD he).1) (fun i x hx=>by
    rcases Nat.lt_or_ge i g.length with hi | hi
    ·rw [au hi] at hx;cases hx
    ·rw [aV (by simpa using hi)] at hx;cases hx)
   have m6:=(m5i.ext' hle6).over
   have hn6:SlRd (but vi h6) vn (eM g.length order):=(m5n.own.rd (V:=but vi h5) (fun _ _ h=>by cases h) (fun b hb=>by unfold but;rw [if_neg (fun e=>hne (hb.trans e.symm))])).mono (wN hle6)
   have hp6:SlRd (but vi h6) vp (cU g):=hp.mono fun b o hb=>by
    have hb2:=iL _ _ b o hb
    unfold but
    split
    ·rename_i e
     have:=m5i.own.lt e
     unfold fresh at hb;rw [if_pos this] at hb;cases hb
    ·exact hb2
   have ho6:SlRd (but vi h6) vo order:=ho1.mono (View.le_trans (FE hle5 av1i) (wN hle6))
   generalize hW:but vi h6=W at m6 hn6 hp6 ho6
   generalize eM g.length order=number at hn6 hnl hl
   generalize hpr:cU g=preds at hp6 hpl hpin hl
   obtain ⟨pv,hpv⟩:=hp6.rows
   refine jv [3,4,5,9,10] (fun m ρ h7=>∃ (out:List Int) (ch:Bool),ρ=[(3,vo),(4,vn),(5,vi),(9,vp),(10,.bool ch)]∧Mine (vw h) h h7 W T.int vi out∧out.length=g.length∧(∀ i,i<g.length→-1≤nth out i∧nth out i<g.length)∧
    (ch=true→lr number preds g.length (order.drop (min 1 order.length)) m out=some l)∧(ch=false→out=l)) fuel
    ⟨_,true,rfl,m6,by simp,fun i hi=>by rw [au hi];omega,fun _=>hl,fun h=>by cases h⟩ ?_
   rintro m ρ h7 ⟨out,ch,rfl,m7,hol,hor,hch1,hch2⟩ K2 hK2
   cases ch with
   | false=>
    simp [L.bW.l3,iV]
    have:=hch2 rfl
    subst this
    exact hK _ _ ⟨_,m7.G2⟩
   | true=>
    have hit:=hch1 rfl
    cases m with
    | zero=>cases hit
    | succ m=>
     rw [lr,Option.bind_eq_some_iff] at hit
     obtain ⟨⟨out',ch'⟩,hsw,hfin⟩:=hit
     simp only at hfin
     simp [L.bW.l3,iV]
     have hmin:(if (order.length:Int)<1 then (order.length:Int) else 1)=((min 1 order.length:Nat):Int):=by split<;>omega
     obtain ⟨u,hu,hur⟩:=ho6.drop (n:=min 1 order.length) (by omega) (kd:=.i64)
     rw [show Rep.n Int=1 from rfl] at hu
     have hti : ∀ j,j<(order.drop (min 1 order.length)).length→nth (order.drop (min 1 order.length)) j=nth order (min 1 order.length+j):=by
      intro j hj
      rw [List.length_drop] at hj
      rw [aq (by rw [List.length_drop];omega),aq (by omega),List.getElem_drop]
     generalize order.drop (min 1 order.length)=tail at hur hti hsw hfin hK2
     simp only [ho6.len,Option.bind_some,F1,hmin,hu,hur.len,gj,cN]
     have hub:=hur.bound
     simp
     refine a8 [3,4,5,9,10,55,56,57] (fun (s:List Int × Bool) k=>[vo,vn,vi,vp,.bool s.2,u,.int .i64 tail.length,.int .i64 k])
      (fun s k h8=>Mine (vw h) h h8 W T.int vi s.1∧s.1.length=g.length∧(∀ i,i<g.length→-1≤nth s.1 i∧nth s.1 i<g.length)∧oF number preds g.length (tail.drop k) s=some (out',ch')) tail.length (out,false)
      rfl (by omega) rfl ⟨m7,hol,hor,by simpa using hsw⟩ (fun _ _=>rfl) (fun v k h1 hk m=>by simp) ?_ ?_
     ·rintro ⟨o8,c8⟩ k h8 hlt8 ⟨m8,hol8,hor8,hs8⟩ K3 hK3
      simp only at m8 hol8 hor8
      rw [List.drop_eq_getElem_cons hlt8,←aq hlt8,oF] at hs8
      split at hs8
      case isFalse=>cases hs8
      rename_i hb
      rw [Option.bind_eq_some_iff] at hs8
      obtain ⟨best,hbest,hs8⟩:=hs8
      simp only at hbest hs8
      have hb2:=yM (by omega) hol8 hnl hor8 hbest
      generalize hbe:nth tail k=b at hb hbest hs8
      obtain ⟨cv,rr⟩:=hpv b.toNat (by omega)
      have br:=rr.bound
      simp (disch:=omega) [hur.idx1 rfl,hur.int m8.wle,hbe,hp6.idx1 rfl,cv _ m8.wle,rr.len]
      refine a8 [3,4,5,9,10,55,56,57,12,13,64,65,66] (fun (bst:Int) j=>[vo,vn,vi,vp,.bool c8,u,.int .i64 tail.length,.int .i64 k,.int .i64 b,.int .i64 bst,pv b.toNat,.int .i64 (nth preds b.toNat).length,.int .i64 j])
       (fun bst j h9=>Mine (vw h) h h9 W T.int vi o8∧(-1≤bst∧bst<g.length)∧bstS o8 number g.length ((nth preds b.toNat).drop j) bst=some best) (nth preds b.toNat).length (-1)
       rfl (by omega) rfl ⟨m8,by omega,by simpa using hbest⟩ (fun _ _=>rfl) (fun v k h1 hk m=>by simp) ?_ ?_
      ·rintro bst j h9 hlt9 ⟨m9,hb9,hs9⟩ K4 hK4
       rw [List.drop_eq_getElem_cons hlt9,←aq hlt9,bstS] at hs9
       have ha:=hpin _ _ (bS hlt9)
       rw [if_pos ha] at hs9
       have hra:=rr.int m9.wle hlt9
       generalize nth (nth preds b.toNat) j=a at hs9 ha hra
       have hn9:=hn6.int m9.wle (i:=a.toNat) (by omega)
       have ho9:=m9.now.int (View.le_refl _) (i:=a.toNat) (by omega)
       have hi9:=m9.now
       by_cases c1:nth number a.toNat<0
       ·rw [if_pos (.inl c1)] at hs9
        simp (disch:=omega) [rr.idx1 rfl,hra,hn6.idx1 rfl,hn9,c1,hi9.idx1 rfl,ho9]
        exact hK4 bst _ _ rfl rfl ⟨m9,hb9,hs9⟩
       ·by_cases c2:a=0
        ·rw [if_neg (by rintro (h | h);exact c1 h;exact h.1 c2)] at hs9
         subst c2
         rw [Int.toNat_zero] at hn9 ho9 c1
         simp (disch:=omega) [rr.idx1 rfl,hra,hn6.idx1 rfl,hn9,c1,hi9.idx1 rfl,ho9]
         refine ⟨fun c4=>?_,fun c4=>?_⟩
         ·rw [if_pos c4] at hs9
          exact hK4 _ _ _ rfl rfl ⟨m9,by omega,hs9⟩
         ·rw [if_neg (by omega),Option.bind_eq_some_iff] at hs9
          obtain ⟨c,hc,hs9⟩:=hs9
          have hcr:=gQ hc
          refine aj (by kernel_rfl) (uk m9.now (hn6.mono m9.wle) hc) ?_
          rintro _ _ ⟨rfl,rfl⟩
          exact hK4 c _ _ rfl rfl ⟨m9,by omega,hs9⟩
        ·by_cases c3:nth o8 a.toNat<0
         ·rw [if_pos (.inr ⟨c2,c3⟩)] at hs9
          simp (disch:=omega) [rr.idx1 rfl,hra,hn6.idx1 rfl,hn9,c1,c2,hi9.idx1 rfl,ho9,c3]
          exact hK4 bst _ _ rfl rfl ⟨m9,hb9,hs9⟩
         ·rw [if_neg (by rintro (h | h);exact c1 h;exact c3 h.2)] at hs9
          simp (disch:=omega) [rr.idx1 rfl,hra,hn6.idx1 rfl,hn9,c1,c2,hi9.idx1 rfl,ho9,c3]
          refine ⟨fun c4=>?_,fun c4=>?_⟩
          ·rw [if_pos c4] at hs9
           exact hK4 _ _ _ rfl rfl ⟨m9,by omega,hs9⟩
          ·rw [if_neg (by omega),Option.bind_eq_some_iff] at hs9
           obtain ⟨c,hc,hs9⟩:=hs9
           have hcr:=gQ hc
           refine aj (by kernel_rfl) (uk m9.now (hn6.mono m9.wle) hc) ?_
           rintro _ _ ⟨rfl,rfl⟩
           exact hK4 c _ _ rfl rfl ⟨m9,by omega,hs9⟩
      ·rintro bst h9 ⟨m9,hb9,hs9⟩
       simp only [List.drop_length,bstS,Option.some.injEq] at hs9
       subst hs9
       simp (disch:=omega) [m9.now.idx1 rfl,m9.now.int (View.le_refl _)]
       refine ⟨fun e=>hK3 (o8,c8) _ _ rfl rfl ⟨m9,hol8,hor8,by rw [setS,if_neg (by simpa using e)] at hs8;exact hs8⟩,fun e=>?_⟩
       refine m9.put1 (α:=Int) (i:=b.toNat) (by kernel_rfl) rfl (by simp) (by simp<;>rfl) (by omega) (jQ (by omega) (by omega)) fun h10 m10=>hK3 (o8.set b.toNat bst,true) _ _ rfl rfl ⟨m10,by simpa using hol8,fun i hi=>?_,by rw [setS,if_pos e] at hs8;exact hs8⟩
       simp only
       rw [aJ (by omega)]
       split
       ·exact hb9
       ·exact hor8 i hi
     ·rintro ⟨o8,c8⟩ h8 ⟨m8,hol8,hor8,hs8⟩
      simp only [List.drop_length,oF,Option.some.injEq,Prod.mk.injEq] at hs8 m8 hol8 hor8
      obtain ⟨rfl,rfl⟩:=hs8
      simp
      refine hK2 m _ _ (by omega) ⟨_,_,rfl,m8,hol8,hor8,fun e=>?_,fun e=>?_⟩
      ·rw [if_pos e] at hfin;exact hfin
      ·rw [if_neg (by simp [e])] at hfin;exact Option.some.inj hfin
end Go.Proofs.Ytfelpjfopgiabaa
namespace Go.Proofs.Ytfelpjfopgiabaa
open Go Go.Lft
abbrev Tr:=Int × Int × Int
def trV (t:Tr):List PanicEntry:=[{ v:=.iface T.eU (.agg #[.int .i64 t.1,.int .i64 t.2.1,.int .i64 t.2.2]),recovered:=false }]
def bn (n a b:Int):Bool:=decide (a≤n)&&decide (n≤b)
theorem gE {n a b:Int} {h:Heap}:aG Try.prog N.dS #[.int .i64 n,.int .i64 a,.int .i64 b] h (fun v h'=>v = .bool (bn n a b)∧h'=h):=by
 refine ay (args:=[.int .i64 n,.int .i64 a,.int .i64 b]) follows F.dS E.dS (Nat.le_of_ble_eq_true (by kernel_rfl)) fun K hK=>?_
 simp [L.dS]
 exact hK _ _ ⟨by by_cases h1:a≤n<;>simp [bn,h1],rfl⟩
theorem fY {ok:Bool} {e b p:Int} {h:Heap}:eX Try.prog N.en #[.bool ok,.int .i64 e,.int .i64 b,.int .i64 p] h (fun v h'=>ok=true∧h'=h) (fun ch h'=>ok=false∧ch=trV (e,b,p)∧h'=h):=by
 refine gi (args:=[.bool ok,.int .i64 e,.int .i64 b,.int .i64 p]) follows F.en E.en (Nat.le_of_ble_eq_true (by kernel_rfl)) fun K Kp hK hKp=>?_
 cases ok with
 | true=>
  simp [L.en]
  exact hK _ _ ⟨rfl,rfl⟩
 | false=>
  simp [L.en]
  refine aL (z:=.agg #[.int .i64 0,.int .i64 0,.int .i64 0]) (places:=[(0,1),(1,1),(2,1)]) (vs:=[(0,.int .i64 e),(1,.int .i64 b),(2,.int .i64 p)]) (cs:=#[.int .i64 e,.int .i64 b,.int .i64 p]) (by kernel_rfl) (by kernel_rfl) (by simp) (by rfl) ?_
  refine CC (d:=(Try.prog.underlying T.eU).getD .bool) (by kernel_rfl) (by kernel_rfl) rfl ?_
  simp
  refine De (t:=T.eU) (v:=.agg #[.int .i64 e,.int .i64 b,.int .i64 p]) rfl ?_
  exact ⟨.inl rfl,hKp _ _ ⟨rfl,rfl,rfl⟩⟩
def fq (op:Int):Int × Int:=if op=1 then (0,0) else if op=15 then (1,1) else if op=17 then (0,4) else (2,2)
theorem wV {op:Int} {h:Heap}:aG Try.prog N.dv #[.int .i64 op] h (fun v h'=>v = .tuple #[.int .i64 (fq op).1,.int .i64 (fq op).2]∧h'=h):=by
 refine ay (args:=[.int .i64 op]) follows F.dv E.dv (Nat.le_of_ble_eq_true (by kernel_rfl)) fun K hK=>?_
 simp [L.dv]
 refine ⟨fun h1=>hK _ _ ⟨by simp [fq,h1],rfl⟩,fun h1=>⟨fun h2=>hK _ _ ⟨by simp [fq,h1,h2],rfl⟩,fun h2=>⟨fun h3=>hK _ _ ⟨by simp [fq,h1,h2,h3],rfl⟩,fun h3=>hK _ _ ⟨by simp [fq,h1,h2,h3],rfl⟩⟩⟩⟩
def aN (i:InsD):List Int:=if i.op=16 then [] else if i.op=18 then [i.dst,i.two] else [i.dst]
theorem wG {d:InsD} {v:Value} {h:Heap} (hd:Rd (vw h) v d):aG Try.prog N.eK #[v] h (fun u h'=>(vw h).le (vw h')∧SlRd (fresh h h') u (aN d)):=by
 refine ay (args:=[v]) follows F.eK E.eK (Nat.le_of_ble_eq_true (by kernel_rfl)) fun K hK=>?_
 simp [L.eK]
 refine eJ rfl hd fun h1 _ hle1 hsz1 hat=>?_
 obtain ⟨c0,c1,c2,va,ca⟩:=nr hat
 have r1:=(hat.part InsD.iK).rng
 have r2:=(hat.part InsD.te).rng
 simp [c0]
 refine ⟨fun e1=>hK _ _ ⟨hle1,by simpa [aN,e1] using dM⟩,fun e1=>⟨fun e2=>?_,fun e2=>?_⟩⟩
 ·simp [c1,c2]
  refine fX (X:=nothing) (ds:=[d.dst,d.two]) (vs:=[.int .i64 d.dst,.int .i64 d.two]) rfl El.aP (by simp) ⟨cn.2 ⟨rfl,r1⟩,cn.2 ⟨rfl,r2⟩,trivial⟩ aZ rfl (by omega) fun u h2 hle2 hsz2 hu _=>?_
  exact hK _ _ ⟨View.le_trans hle1 hle2,by simpa [aN,e2] using hu _ aZ (by unfold fresh;rw [if_neg (by omega)])⟩
 ·simp [c1]
  refine fX (X:=nothing) (ds:=[d.dst]) (vs:=[.int .i64 d.dst]) rfl El.aP (by simp) ⟨cn.2 ⟨rfl,r1⟩,trivial⟩ aZ rfl (by omega) fun u h2 hle2 hsz2 hu _=>?_
  exact hK _ _ ⟨View.le_trans hle1 hle2,by simpa [aN,e1,e2] using hu _ aZ (by unfold fresh;rw [if_neg (by omega)])⟩
end Go.Proofs.Ytfelpjfopgiabaa
namespace Go.Proofs.Ytfelpjfopgiabaa
open Go Go.Lft
abbrev MW:=Int→Option (Int × Int)
def encW (w:Int × Int):Value:=.agg #[.int .i64 w.1,.int .i64 w.2]
theorem Dv {Kb:Nat} {ps n b p:Int} {h:Heap} (h0:an (vw h) ⟨Kb,0,none⟩=some (.int .i64 ps)) :
  eX Try.prog N.cL #[.pointer (some ⟨Kb,0,none⟩),.int .i64 n,.int .i64 b,.int .i64 p] h (fun _ h'=>bn n ps 8191=true∧h'=h) (fun ch h'=>bn n ps 8191=false∧ch=trV (11,b,p)∧h'=h):=by
 refine gi (args:=[.pointer (some ⟨Kb,0,none⟩),.int .i64 n,.int .i64 b,.int .i64 p]) follows F.cL E.cL (Nat.le_of_ble_eq_true (by kernel_rfl)) fun K Kp hK hKp=>?_
 simp [L.cL,h0]
 refine aj (by kernel_rfl) gE ?_
 rintro _ _ ⟨rfl,rfl⟩
 refine dk (by kernel_rfl) fY ?_ ?_
 ·rintro _ _ ⟨e,rfl⟩
  exact hK _ _ ⟨e,rfl⟩
 ·rintro _ _ ⟨e,rfl,rfl⟩
  exact ⟨.inl rfl,hKp _ _ ⟨e,rfl,rfl⟩⟩
theorem DB {Kb r:Nat} {m:MW} {n b p:Int} {h:Heap} (h2:an (skip r h) ⟨Kb,2,none⟩=some (.map (some r))) (hm:fy (.int .i64) h r (mapE encW m)) :
  eX Try.prog N.cJ #[.pointer (some ⟨Kb,0,none⟩),.int .i64 n,.int .i64 b,.int .i64 p] h (fun _ h'=>m n=none∧fy (.int .i64) h' r (mapE encW (putM m n (b,p)))∧Kept h h' (some r))
   (fun ch h'=>m n≠none∧ch=trV (12,b,p)∧Kept h h' (some r)):=by
 refine gi (args:=[.pointer (some ⟨Kb,0,none⟩),.int .i64 n,.int .i64 b,.int .i64 p]) follows F.cJ E.cJ (Nat.le_of_ble_eq_true (by kernel_rfl)) fun K Kp hK hKp=>?_
 simp [L.cJ,ah b8 h2]
 refine kg (z:=.agg #[.int .i64 0,.int .i64 0]) U.eN U.int (by kernel_rfl) (by simp<;>rfl) (by simp<;>rfl) ly hm ?_
 simp
 refine ir (n:=2) (z:=.agg #[.int .i64 0,.int .i64 0]) (v:=((m n).map encW).getD (.agg #[.int .i64 0,.int .i64 0])) (by kernel_rfl) rfl (by kernel_rfl) (by cases m n<;>rfl) (by cases m n<;>simp [encW,Value.oneCell']) (fun _=>by simp) (fun _=>by simp) fun h3 hle3 _ _=>?_
 have k3:=Kept.of_le (b:=some r) hle3
 have hm3:=hm.ext hle3
 have h23:=ah k3.z8 h2
 refine dk (by kernel_rfl) fY ?_ ?_
 ·rintro _ _ ⟨e,rfl⟩
  simp [h23]
  refine aL (z:=.agg #[.int .i64 0,.int .i64 0]) (places:=[(0,1),(1,1)]) (vs:=[(0,.int .i64 b),(1,.int .i64 p)]) (cs:=#[.int .i64 b,.int .i64 p]) (by kernel_rfl) (by kernel_rfl) (by simp) (by rfl) ?_
  refine uv (v:=encW (b,p)) (.inl rfl) U.eN U.int (by simp<;>rfl) (by simp<;>rfl) (by simp<;>rfl) ly hm3 _ oM.1 oM.2 fun h4 hs4 ho4 hm4=>?_
  exact hK _ _ ⟨by simpa using e,hm4,k3.trans (Kept.upd hs4 ho4)⟩
 ·rintro _ _ ⟨e,rfl,rfl⟩
  exact ⟨.inl rfl,hKp _ _ ⟨(by intro e2;rw [e2] at e;cases e),rfl,k3⟩⟩
def nN (b p:Int) (m:MW) (n:Int):Except Tr MW:=if (m n).isSome then .error (12,b,p) else .ok (putM m n (b,p))
def allS (ps:Int) (l:List Int) (b p:Int) (m:MW):Except Tr MW:=if l.all (fun n=>bn n ps 8191) then l.foldlM (nN b p) m else .error (11,b,p)
structure Lk (h:Heap) (Kb r:Nat) (vb:Value) (f:ak) (m:MW):Prop where
 c0:an (skip r h) ⟨Kb,0,none⟩=some (.int .i64 f.params)
 c1:an (skip r h) ⟨Kb,1,none⟩=some vb
 c2:an (skip r h) ⟨Kb,2,none⟩=some (.map (some r))
 rb:SlRd (skip r h) vb f.blocks
 map:fy (.int .i64) h r (mapE encW m)
theorem Lk.kept {h h':Heap} {Kb r:Nat} {vb:Value} {f:ak} {m m':MW} (k:Lk h Kb r vb f m) (hk:Kept h h' (some r)) (hm:fy (.int .i64) h' r (mapE encW m')):Lk h' Kb r vb f m':=
 ⟨ah hk.skip k.c0,ah hk.skip k.c1,ah hk.skip k.c2,k.rb.mono hk.skip,hm⟩
theorem Lk.ext {h h':Heap} {Kb r:Nat} {vb:Value} {f:ak} {m:MW} (k:Lk h Kb r vb f m) (hle:(vw h).le (vw h')):Lk h' Kb r vb f m:=
 k.kept (Kept.of_le hle) (k.map.ext hle)
theorem BN {Kb r:Nat} {vb vl:Value} {f:ak} {m:MW} {l:List Int} {b p:Int} {h:Heap} (k:Lk h Kb r vb f m) (hl:SlRd (skip r h) vl l) :
  eX Try.prog N.bE #[.pointer (some ⟨Kb,0,none⟩),vl,.int .i64 b,.int .i64 p] h (fun _ h'=>∃ m',allS f.params l b p m = .ok m'∧Lk h' Kb r vb f m'∧Kept h h' (some r))
   (fun ch h'=>∃ t,allS f.params l b p m = .error t∧ch=trV t∧Kept h h' (some r)):=by
 refine gi (args:=[.pointer (some ⟨Kb,0,none⟩),vl,.int .i64 b,.int .i64 p]) follows F.bE E.bE (Nat.le_of_ble_eq_true (by kernel_rfl)) fun K Kp hK hKp=>?_
 have hlb:=hl.bound
 simp [L.bE,hl.len]
 refine a8 [0,1,2,3,12,13,14] (fun (_:Unit) i=>[.pointer (some ⟨Kb,0,none⟩),vl,.int .i64 b,.int .i64 p,vl,.int .i64 l.length,.int .i64 i]) (fun _ i h1=>h1=h∧∀ j,j<i→bn (nth l j) f.params 8191=true) l.length ()
  rfl (by omega) rfl ⟨rfl,fun j hj=>by omega⟩ (fun _ _=>rfl) (fun v i h1 hk m=>by simp) ?_ ?_
 ·rintro _ i _ hlt ⟨rfl,hpre⟩ K2 hK2
  simp (disch:=omega) [hl.idx1 rfl,hl.int b8]
  refine dk (by kernel_rfl) (Dv (ah b8 k.c0)) ?_ ?_
  ·rintro _ _ ⟨e,rfl⟩
   refine hK2 () _ _ rfl rfl ⟨rfl,fun j hj=>?_⟩
   rcases Nat.lt_or_ge j i with h | h
   ·exact hpre j h
   ·have:j=i:=by omega
    subst this;exact e
  ·rintro _ _ ⟨e,rfl,rfl⟩
   refine ⟨.inl rfl,hKp _ _ ⟨_,?_,rfl,Kept.refl _ _⟩⟩
   rw [allS,if_neg]
   intro ha
   rw [List.all_eq_true.1 ha _ (bS hlt)] at e;cases e
 ·rintro _ h ⟨rfl,hpre⟩
  have hall:allS f.params l b p m=l.foldlM (nN b p) m:=by
   rw [allS,if_pos]
   rw [List.all_eq_true]
   intro x hx
   obtain ⟨j,hj,rfl⟩:=List.getElem_of_mem hx
   rw [←aq hj];exact hpre j hj
  rw [hall] at hK hKp
  simp [hl.len]
  refine a8 [0,2,3,24,25,26] (fun (_:Unit) i=>[.pointer (some ⟨Kb,0,none⟩),.int .i64 b,.int .i64 p,vl,.int .i64 l.length,.int .i64 i]) (fun _ i h1=>∃ m',(l.take i).foldlM (nN b p) m = .ok m'∧Lk h1 Kb r vb f m'∧Kept h h1 (some r)) l.length ()
   rfl (by omega) rfl ⟨m,rfl,k,Kept.refl _ _⟩ (fun _ _=>rfl) (fun v i h1 hk m=>by simp) ?_ ?_
  ·rintro _ i h1 hlt ⟨m1,hm1,k1,kp1⟩ K2 hK2
   have hl1:=hl.mono kp1.z8
   have hst:=yx hlt hm1
   simp (disch:=omega) [hl1.idx1 rfl,hl1.int (View.le_refl _)]
   refine dk (by kernel_rfl) (DB k1.c2 k1.map) ?_ ?_
   ·rintro _ h2 ⟨e,hm2,kp2⟩
    refine hK2 () _ _ rfl rfl ⟨_,by rw [hst,nN,e];rfl,k1.kept kp2 hm2,kp1.trans kp2⟩
   ·rintro _ h2 ⟨e,rfl,kp2⟩
    refine ⟨.inl rfl,hKp _ _ ⟨_,AW (k:=i+1) (by rw [hst,nN,if_pos (Option.isSome_iff_ne_none.2 e)]),rfl,kp1.trans kp2⟩⟩
  ·rintro _ h1 ⟨m1,hm1,k1,kp1⟩
   rw [List.take_length] at hm1
   simp
   exact hK _ _ ⟨m1,hm1,k1,kp1⟩
end Go.Proofs.Ytfelpjfopgiabaa
namespace Go.Proofs.Ytfelpjfopgiabaa
open Go Go.Lft
abbrev Sh:=Int × Int × Int × Int
def encS (s:Sh):Value:=.agg #[.int .i64 s.1,.int .i64 s.2.1,.int .i64 s.2.2.1,.int .i64 s.2.2.2]
def eY:Int→Option Sh:=putM (putM (putM (putM (putM (fun _=>none) 1 (0,0,1,1)) 2 (1,1,2,2)) 3 (1,1,2,65)) 4 (0,1,0,0)) 5 (0,0,0,0)
theorem mw {po:OP} {ty:TypeId} {us:List (Nat × Value)} {h:Heap} {K:Value→Heap→Prop} {a b c d:Int} (hk:K (encS (a,b,c,d)) h) :
  Lft.step Try.prog (.build T.cW #[(0,.const (.int .i64 a)),(1,.const (.int .i64 b)),(2,.const (.int .i64 c)),(3,.const (.int .i64 d))]) ty us h K:=
 aL (z:=.agg #[.int .i64 0,.int .i64 0,.int .i64 0,.int .i64 0]) (places:=[(0,1),(1,1),(2,1),(3,1)]) (vs:=[(0,.int .i64 a),(1,.int .i64 b),(2,.int .i64 c),(3,.int .i64 d)]) (cs:=#[.int .i64 a,.int .i64 b,.int .i64 c,.int .i64 d]) (by kernel_rfl) (by kernel_rfl) (by simp only [List.map_toArray,List.map_cons,List.map_nil,tO]) (by rfl) hk
theorem jA {po:OP} {ty:TypeId} {us:List (Nat × Value)} {h:Heap} {K:Value→Heap→Prop} {x y:Operand} {r:Nat} {f:Int→Option Sh} {j:Int} {s:Sh} (hx:asg us x = .map (some r)) (hy:asg us y=encS s) (m:fy (.int .i64) h r (mapE encS f))
  (hk : ∀ h':Heap,Kept h h' (some r)→fy (.int .i64) h' r (mapE encS (putM f j s))→K undef h'):Lft.step Try.prog (.insert T.dp x (.const (.int .i64 j)) y) ty us h K:=
 uv (v:=encS s) (.inr rfl) U.dp U.int hx rfl hy ly m _ oM.1 oM.2 fun h' hs ho hm=>hk h' (Kept.upd hs ho) hm
theorem uw {h:Heap}:aG Try.prog N.dX #[] h (fun v h'=>v = .map (some h.size)∧(vw h).le (vw h')∧fy (.int .i64) h' h.size (mapE encS eY)):=by
 refine ay (args:=[]) follows F.dX E.dX (Nat.le_of_ble_eq_true (by kernel_rfl)) fun K hK=>?_
 simp [L.dX]
 refine sJ ?_
 have m0:fy (.int .i64) (h.push (.map #[] 0)) h.size (mapE encS fun _=>none):=by rw [tW];exact fy.none (by simp)
 have hle:=bM h (.map #[] 0)
 generalize h.push (.map #[] 0)=h0 at m0 hle
 refine mw (jA (s:=(0,0,1,1)) rfl rfl m0 fun h1 k1 m1=>?_)
 refine mw (jA (s:=(1,1,2,2)) rfl rfl m1 fun h2 k2 m2=>?_)
 refine mw (jA (s:=(1,1,2,65)) rfl rfl m2 fun h3 k3 m3=>?_)
 refine mw (jA (s:=(0,1,0,0)) rfl rfl m3 fun h4 k4 m4=>?_)
 refine mw (jA (s:=(0,0,0,0)) rfl rfl m4 fun h5 k5 m5=>?_)
 refine hK _ _ ⟨rfl,fun b o hb=>?_,m5⟩
 have hlt:=View.lt (View.le_refl (vw h)) hb
 have kk:=(((k1.trans k2).trans k3).trans k4).trans k5
 show h5[b]? = _
 rw [kk.block b (Nat.lt_of_lt_of_le hlt (du hle)) (by simp;omega)]
 exact hle b o hb
def lW (t:dc):Bool:=match eY t.kind with
 | some s=>bn t.args.length s.1 s.2.1&&bn t.to.length s.2.2.1 s.2.2.2
 | none=>false
def insS (ps b:Int) (x:BlkD) (i:Nat) (m:MW):Except Tr MW:=
 if bn (nth x.ins i).op 1 18&&bn (nth x.ins i).args.length (fq (nth x.ins i).op).1 (fq (nth x.ins i).op).2 then allS ps (aN (nth x.ins i)) b i m else .error (10,b,i)
def phiS (ps b:Int) (x:BlkD) (i:Nat) (m:MW):Except Tr MW:=allS ps [(nth x.phis i).dst] b (-1-i) m
def endS (n b:Int) (x:BlkD) (m:MW):Except Tr MW:=
 if lW x.term then (if x.term.to.all (fun t=>bn t 1 (n-1)) then .ok m else .error (14,b,x.ins.length)) else .error (10,b,x.ins.length)
def blkS (f:ak) (b:Nat) (m:MW):Except Tr MW:=
 match upE (phiS f.params b (nth f.blocks b)) (nth f.blocks b).phis.length m with
 | .error t=>.error t
 | .ok m1=>match upE (insS f.params b (nth f.blocks b)) (nth f.blocks b).ins.length m1 with
  | .error t=>.error t
  | .ok m2=>endS f.blocks.length b (nth f.blocks b) m2
def kA (f:ak) (m:MW):Except Tr MW:=upE (blkS f) f.blocks.length m
theorem Cg {Kb r:Nat} {vb:Value} {f:ak} {m:MW} {h:Heap} (k:Lk h Kb r vb f m) :
  eX Try.prog N.aS #[.pointer (some ⟨Kb,0,none⟩)] h (fun _ h'=>∃ m',kA f m = .ok m'∧Lk h' Kb r vb f m'∧Kept h h' (some r))
   (fun ch h'=>∃ t,kA f m = .error t∧ch=trV t∧Kept h h' (some r)):=by
 refine gi (args:=[.pointer (some ⟨Kb,0,none⟩)]) follows F.aS E.aS (Nat.le_of_ble_eq_true (by kernel_rfl)) fun K Kp hK hKp=>?_
 have hbb:=k.rb.bound
 simp [L.aS,ah b8 k.c1,k.rb.len]
 refine a8 [0,18,19,20] (fun (_:Unit) b=>[.pointer (some ⟨Kb,0,none⟩),vb,.int .i64 f.blocks.length,.int .i64 b]) (fun _ b h1=>∃ m',upE (blkS f) b m = .ok m'∧Lk h1 Kb r vb f m'∧Kept h h1 (some r)) f.blocks.length ()
  rfl (by omega) rfl ⟨m,rfl,k,Kept.refl _ _⟩ (fun _ _=>rfl) (fun v i h1 hk m=>by simp) ?_ ?_
 ·rintro _ b h1 hltb ⟨m1,hm1,k1,kp1⟩ K2 hK2
  have hst:=ld hm1
  have her : ∀ {t},blkS f b m1 = .error t→kA f m = .error t:=fun e=>vU hm1 hltb e
  obtain ⟨u,hu,hur⟩:=k1.rb.wh rfl (N:=6) rfl hltb
  rw [blkS] at hst her
  have hr1:=k1.map.lt
  generalize hx:nth f.blocks b=x at hst her hur
  refine aa fun z hz=>?_
  simp (disch:=omega) [k1.rb.idxn (N:=6) rfl,hu _ b8]
  refine dU (z:=.agg #[.slice none 0 0,.slice none 0 0,.int .i64 0,.slice none 0 0,.slice none 0 0,.int .i32 0]) (by kernel_rfl) rfl (by kernel_rfl) hur (fun _=>by simp) (fun _=>by simp) fun h2 hle2 hsz2 hat=>?_
  have k2:=k1.ext hle2
  have kp2:=kp1.trans (Kept.of_le hle2)
  have hat2:=hat (skip r h2) (Kept.of_le hle2).skip (ke (by omega))
  obtain ⟨vp,vi,va,vt,bp,bi,bk,ba,bt⟩:=kC hat2
  generalize h1.size=B at bp bi bk ba bt
  rw [hz];clear hz z
  refine aa fun z hz=>?_
  simp [ah b8 bp.1,bp.2.len]
  have bph:=bp.2.bound
  have bin:=bi.2.bound
  have bto:=bt.2.bound
  refine a8 [0,2,3,18,19,20,26,27,28] (fun (_:Unit) i=>[.pointer (some ⟨Kb,0,none⟩),.int .i64 b,.pointer (some ⟨B,0,none⟩),vb,.int .i64 f.blocks.length,.int .i64 b,vp,.int .i64 x.phis.length,.int .i64 i])
   (fun _ i h3=>∃ m',upE (phiS f.params b x) i m1 = .ok m'∧Lk h3 Kb r vb f m'∧Kept h2 h3 (some r)) x.phis.length ()
   rfl (by omega) rfl ⟨m1,rfl,k2,Kept.refl _ _⟩ (fun _ _=>rfl) (fun v i h1 hk m=>by simp) ?_ ?_
  ·rintro _ i h3 hlti ⟨m3,hm3,k3,kp3⟩ K3 hK3
   have bp3:=bp.2.mono kp3.skip
   obtain ⟨u5,hu5,hur5⟩:=bp3.wh rfl (N:=2) rfl hlti
   have hr3:=k3.map.lt
   have hst3:=ld hm3
   have her3 : ∀ {t},phiS f.params b x i m3 = .error t→upE (phiS f.params b x) x.phis.length m1 = .error t:=fun e=>vU hm3 hlti e
   rw [phiS] at hst3 her3
   refine aa fun y hy=>?_
   simp (disch:=omega) [bp3.idxn (N:=2) rfl,hu5 _ b8]
   refine dU (z:=.agg #[.int .i64 0,.slice none 0 0]) (by kernel_rfl) rfl (by kernel_rfl) hur5 (fun _=>by simp) (fun _=>by simp) fun h4 hle4 hsz4 hat4=>?_
   have hat4':=hat4 (skip r h4) (Kept.of_le hle4).skip (ke (by omega))
   obtain ⟨c0,_⟩:=vf hat4'
   have rd:=(hat4'.part PhiD.iK).rng
   generalize nth x.phis i=q at c0 rd hst3 her3
   generalize h3.size=B3 at c0
   rw [hy];clear hy y
   simp [ah b8 c0]
   refine fX (X:=nothing) (ds:=[q.dst]) (vs:=[.int .i64 q.dst]) rfl El.aP (by simp) ⟨cn.2 ⟨rfl,rd⟩,trivial⟩ aZ rfl (by omega) fun u6 h5 hle5 hsz5 hu6 _=>?_
   have k5:=(k3.ext hle4).ext hle5
   have kp5:=(kp3.trans (Kept.of_le hle4)).trans (Kept.of_le hle5)
   have hr5:=k5.map.lt
   simp (disch:=omega)
   refine dk (by kernel_rfl) (BN k5 (hu6 _ aZ (ke (by omega)))) ?_ ?_
   ·rintro _ h6 ⟨m6,hm6,k6,kp6⟩
    exact hK3 () _ _ rfl rfl ⟨m6,by rw [hst3,hm6],k6,kp5.trans kp6⟩
   ·rintro _ h6 ⟨t,ht,rfl,kp6⟩
    exact ⟨.inl rfl,hKp _ _ ⟨t,her (by rw [her3 ht]),rfl,(kp2.trans kp5).trans kp6⟩⟩
  ·rintro _ h3 ⟨m3,hm3,k3,kp3⟩
   simp only [hm3] at hst her
   simp
   rw [hz];clear hz z
   refine aa fun z hz=>?_
   have bi3:=bi.2.mono kp3.skip
   have ci3:=ah kp3.z8 bi.1
   have kp03:=kp2.trans kp3
   simp [ci3,bi3.len]
   refine a8 [0,2,3,18,19,20,43,44,45] (fun (_:Unit) i=>[.pointer (some ⟨Kb,0,none⟩),.int .i64 b,.pointer (some ⟨B,0,none⟩),vb,.int .i64 f.blocks.length,.int .i64 b,vi,.int .i64 x.ins.length,.int .i64 i])
    (fun _ i h4=>∃ m',upE (insS f.params b x) i m3 = .ok m'∧Lk h4 Kb r vb f m'∧Kept h3 h4 (some r)) x.ins.length ()
    rfl (by omega) rfl ⟨m3,rfl,k3,Kept.refl _ _⟩ (fun _ _=>rfl) (fun v i h1 hk m=>by simp) ?_ ?_
   ·rintro _ i h4 hlti ⟨m4,hm4,k4,kp4⟩ K3 hK3
    have bi4:=bi3.mono kp4.skip
    obtain ⟨u5,hu5,hur5⟩:=bi4.wh rfl (N:=5) rfl hlti
    have hr4:=k4.map.lt
    have hst4:=ld hm4
    have her4 : ∀ {t},insS f.params b x i m4 = .error t→upE (insS f.params b x) x.ins.length m3 = .error t:=fun e=>vU hm4 hlti e
    rw [insS] at hst4 her4
    refine aa fun y hy=>?_
    simp (disch:=omega) [bi4.idxn (N:=5) rfl,hu5 _ b8]
    refine dU (z:=.agg #[.int .i64 0,.int .i64 0,.int .i64 0,.slice none 0 0,.int .i32 0]) (by kernel_rfl) rfl (by kernel_rfl) hur5 (fun _=>by simp) (fun _=>by simp) fun h5 hle5 hsz5 hat5=>?_
    have hat5':=hat5 (skip r h5) (Kept.of_le hle5).skip (ke (by omega))
    obtain ⟨c0,c1,c2,va5,ca5⟩:=nr hat5'
    have k5:=k4.ext hle5
    have kp5:=kp4.trans (Kept.of_le hle5)
    have whole : ∃ w,Un.ev (vw h5) (.al 5) (.pointer (some ⟨h4.size,0,none⟩))=some w∧Rd (vw h5) w (nth x.ins i):=by
     obtain ⟨w,w1,w2⟩:=(hat5'.mono b8).al rfl
     exact ⟨w,w1,w2⟩
    obtain ⟨w,w1,w2⟩:=whole
    generalize nth x.ins i=q at c0 c1 c2 ca5 hst4 her4 w2
    generalize h4.size=B4 at c0 c1 c2 ca5 w1
    rw [hy];clear hy y
    refine aa fun y hy=>?_
    simp [ah b8 c0]
    refine aj (by kernel_rfl) gE ?_
    rintro _ _ ⟨rfl,rfl⟩
    refine dk (by kernel_rfl) fY ?_ ?_
    rotate_left
    ·rintro _ _ ⟨e,rfl,rfl⟩
     exact ⟨.inl rfl,hKp _ _ ⟨_,her (by rw [her4 (by rw [if_neg (by simp [e])])]),rfl,kp03.trans kp5⟩⟩
    rintro _ _ ⟨e1,rfl⟩
    rw [hy];clear hy y
    refine aa fun y hy=>?_
    simp [ah b8 c0]
    refine aj (by kernel_rfl) wV ?_
    rintro _ _ ⟨rfl,rfl⟩
    simp
    rw [hy];clear hy y
    refine aa fun y hy=>?_
    simp [ah b8 ca5.1,ca5.2.len]
    refine aj (by kernel_rfl) gE ?_
    rintro _ _ ⟨rfl,rfl⟩
    refine dk (by kernel_rfl) fY ?_ ?_
    rotate_left
    ·rintro _ _ ⟨e,rfl,rfl⟩
     exact ⟨.inl rfl,hKp _ _ ⟨_,her (by rw [her4 (by rw [if_neg (by simp [e])])]),rfl,kp03.trans kp5⟩⟩
    rintro _ _ ⟨e2,rfl⟩
    rw [hy];clear hy y
    simp [w1]
    refine aj (by kernel_rfl) (wG w2) ?_
    rintro u6 h6 ⟨hle6,hu6⟩
    have k6:=k5.ext hle6
    have kp6:=kp5.trans (Kept.of_le hle6)
    rw [if_pos (by simp [e1,e2])] at hst4 her4
    have hr5:=k5.map.lt
    refine dk (by kernel_rfl) (BN k6 (hu6.mono fun b o hb=>?_)) ?_ ?_
    ·unfold fresh at hb;unfold Lft.skip
     split at hb
     ·cases hb
     ·rw [if_neg (by omega)];exact hb
    ·rintro _ h7 ⟨m7,hm7,k7,kp7⟩
     exact hK3 () _ _ rfl rfl ⟨m7,by rw [hst4,hm7],k7,kp6.trans kp7⟩
    ·rintro _ h7 ⟨t,ht,rfl,kp7⟩
     exact ⟨.inl rfl,hKp _ _ ⟨t,her (by rw [her4 ht]),rfl,(kp03.trans kp6).trans kp7⟩⟩
   ·rintro _ h4 ⟨m4,hm4,k4,kp4⟩
    simp only [hm4] at hst her
    simp
    rw [hz];clear hz z
    refine aa fun z hz=>?_
    have kp24:=kp3.trans kp4
    have hr4:=k4.map.lt
    have ck4:=ah kp24.skip bk
    have hc : ∀ {h5:Heap},Kept h4 h5 (some r)→(skip r h4).le (vw h5):=fun hk=>hk.z8
    have cellsS : ∀ o:Option Sh,((o.map encS).getD (.agg #[.int .i64 0,.int .i64 0,.int .i64 0,.int .i64 0]))=encS (o.getD (0,0,0,0)):=fun o=>by cases o<;>rfl
    have hone : ∀ s:Sh,∀ c∈(encS s).cells.toList,c.oneCell'=true:=fun s=>by simp [encS,Value.oneCell']
    refine pq (fun ρ h5=>∃ (B5:Nat) (v79 v83:Value) (tl:Env),ρ=[(0,.pointer (some ⟨Kb,0,none⟩)),(2,.int .i64 b),(3,.pointer (some ⟨B,0,none⟩)),(10,.pointer (some ⟨B5,0,none⟩)),(11,.bool (eY x.term.kind).isSome),(18,vb),(19,.int .i64 f.blocks.length),(20,.int .i64 b),(43,vi),
      (44,.int .i64 x.ins.length),(45,.int .i64 x.ins.length),(79,v79),(82,.int .i64 x.term.kind),(83,v83)]++tl∧Lk h5 Kb r vb f m4∧Kept h4 h5 (some r)∧B5≠r∧h5[B5]? = some (.cells (encS ((eY x.term.kind).getD (0,0,0,0))).cells T.cW (0,0))) ?_ ?_
    ·intro K3 hK3
     refine bO (skip r h4) b8 ?_
     simp [ck4]
     refine ⟨?_,?_⟩
     ·refine aj (by kernel_rfl) uw ?_
      rintro _ h5 ⟨rfl,hle5,hm5⟩
      have hs5:=du hle5
      refine ⟨hc (Kept.of_le hle5),?_,?_⟩
      ·refine kg (z:=.agg #[.int .i64 0,.int .i64 0,.int .i64 0,.int .i64 0]) U.dp U.int (by kernel_rfl) (by simp<;>rfl) (by simp<;>rfl) ly hm5 ?_
       rw [mf,cellsS,Option.isSome_map]
       simp
       refine ir (n:=4) (v:=encS ((eY x.term.kind).getD (0,0,0,0))) (z:=.agg #[.int .i64 0,.int .i64 0,.int .i64 0,.int .i64 0]) (by kernel_rfl) rfl (by kernel_rfl) rfl (hone _) (fun _=>by simp) (fun _=>by simp) fun h6 hle6 hsz6 hb6=>?_
       exact hK3 _ _ ⟨_,_,_,_,rfl,(k4.ext hle5).ext hle6,(Kept.of_le hle5).trans (Kept.of_le hle6),by omega,hb6⟩
      ·refine fk (z:=.agg #[.int .i64 0,.int .i64 0,.int .i64 0,.int .i64 0]) (by kernel_rfl) ?_
       have hle6:=bM h5 (.cells (Value.cells (.agg #[.int .i64 0,.int .i64 0,.int .i64 0,.int .i64 0])) T.cW)
       have hb6:(h5.push (.cells (Value.cells (.agg #[.int .i64 0,.int .i64 0,.int .i64 0,.int .i64 0])) T.cW))[h5.size]? = some (.cells (Value.cells (.agg #[.int .i64 0,.int .i64 0,.int .i64 0,.int .i64 0])) T.cW (0,0)):=by simp
       have hs6:(h5.push (.cells (Value.cells (.agg #[.int .i64 0,.int .i64 0,.int .i64 0,.int .i64 0])) T.cW)).size=h5.size+1:=by simp
       generalize h5.push (.cells (Value.cells (.agg #[.int .i64 0,.int .i64 0,.int .i64 0,.int .i64 0])) T.cW)=h6 at hle6 hb6 hs6
       refine ⟨hc ((Kept.of_le hle5).trans (Kept.of_le hle6)),?_⟩
       refine kg (z:=.agg #[.int .i64 0,.int .i64 0,.int .i64 0,.int .i64 0]) U.dp U.int (by kernel_rfl) (by simp<;>rfl) (by simp<;>rfl) ly (hm5.ext hle6) ?_
       rw [mf,cellsS,Option.isSome_map]
       simp
       refine dO (g:=h5.size) (o:=0) (n:=4) (v:=encS ((eY x.term.kind).getD (0,0,0,0))) (by kernel_rfl) rfl rfl rfl (hone _) hb6 (by simp) fun h7 hs7 ⟨row,hb7,hrow⟩ ho7=>?_
       have hrow2:row=(encS ((eY x.term.kind).getD (0,0,0,0))).cells:=by rw [←Array.toList_inj,hrow];simp
       rw [hrow2] at hb7
       have kp7:Kept h4 h7 (some r):=⟨by omega,fun q hq hne=>by rw [ho7 q (by omega)];exact hle6 _ _ (hle5 _ _ (Array.getElem?_eq_getElem hq)) |>.trans (Array.getElem?_eq_getElem hq).symm⟩
       exact hK3 _ _ ⟨_,_,_,_,rfl,k4.kept kp7 (((k4.map.ext hle5).ext hle6).same (ho7 r (by omega))),kp7,by omega,hb7⟩
     ·refine fk (z:=.agg #[.int .i64 0,.int .i64 0,.int .i64 0,.int .i64 0]) (by kernel_rfl) ?_
      have hle5:=bM h4 (.cells (Value.cells (.agg #[.int .i64 0,.int .i64 0,.int .i64 0,.int .i64 0])) T.cW)
      have hb5:(h4.push (.cells (Value.cells (.agg #[.int .i64 0,.int .i64 0,.int .i64 0,.int .i64 0])) T.cW))[h4.size]? = some (.cells (Value.cells (.agg #[.int .i64 0,.int .i64 0,.int .i64 0,.int .i64 0])) T.cW (0,0)):=by simp
      have hs5:(h4.push (.cells (Value.cells (.agg #[.int .i64 0,.int .i64 0,.int .i64 0,.int .i64 0])) T.cW)).size=h4.size+1:=by simp
      generalize h4.push (.cells (Value.cells (.agg #[.int .i64 0,.int .i64 0,.int .i64 0,.int .i64 0])) T.cW)=h5 at hle5 hb5 hs5
      refine ⟨hc (Kept.of_le hle5),?_⟩
      refine aj (by kernel_rfl) uw ?_
      rintro _ h6 ⟨rfl,hle6,hm6⟩
      have hs6:=du hle6
      refine ⟨hc ((Kept.of_le hle5).trans (Kept.of_le hle6)),?_⟩
      refine kg (z:=.agg #[.int .i64 0,.int .i64 0,.int .i64 0,.int .i64 0]) U.dp U.int (by kernel_rfl) (by simp<;>rfl) (by simp<;>rfl) ly hm6 ?_
      rw [mf,cellsS,Option.isSome_map]
      simp
      refine dO (g:=h4.size) (o:=0) (n:=4) (v:=encS ((eY x.term.kind).getD (0,0,0,0))) (by kernel_rfl) rfl rfl rfl (hone _) (hle6 _ _ hb5) (by simp) fun h7 hs7 ⟨row,hb7,hrow⟩ ho7=>?_
      have hrow2:row=(encS ((eY x.term.kind).getD (0,0,0,0))).cells:=by rw [←Array.toList_inj,hrow];simp
      rw [hrow2] at hb7
      have kp7:Kept h4 h7 (some r):=⟨by omega,fun q hq hne=>by rw [ho7 q (by omega)];exact hle6 _ _ (hle5 _ _ (Array.getElem?_eq_getElem hq)) |>.trans (Array.getElem?_eq_getElem hq).symm⟩
      exact hK3 _ _ ⟨_,_,_,_,rfl,k4.kept kp7 (((k4.map.ext hle5).ext hle6).same (ho7 r (by omega))),kp7,by omega,hb7⟩
    ·rintro ρ h5 ⟨B5,v79,v83,tl,rfl,k5,kp5,hB5,hb5⟩
     rw [hz];clear hz z
     refine aa fun z hz=>?_
     have kp25:=kp24.trans kp5
     have ci5:=ah kp25.skip bi.1
     have bi5:=bi.2.mono kp25.skip
     have ca5:=ah kp25.skip ba.1
     have ba5:=ba.2.mono kp25.skip
     have ct5:=ah kp25.skip bt.1
     have bt5:=bt.2.mono kp25.skip
     have hb5':skip r h5 B5=some (.cells (encS ((eY x.term.kind).getD (0,0,0,0))).cells T.cW (0,0)):=by rw [ke hB5];exact hb5
     generalize hsh:(eY x.term.kind).getD (0,0,0,0)=s at hb5'
     have d0:an (skip r h5) ⟨B5,0,none⟩=some (.int .i64 s.1):=bY hb5' rfl
     have d1:an (skip r h5) ⟨B5,1,none⟩=some (.int .i64 s.2.1):=bY hb5' rfl
     have d2:an (skip r h5) ⟨B5,2,none⟩=some (.int .i64 s.2.2.1):=bY hb5' rfl
     have d3:an (skip r h5) ⟨B5,3,none⟩=some (.int .i64 s.2.2.2):=bY hb5' rfl
     have hto:lW x.term=((eY x.term.kind).isSome&&(bn x.term.args.length s.1 s.2.1&&bn x.term.to.length s.2.2.1 s.2.2.2)):=by
      rw [lW,←hsh];cases eY x.term.kind<;>rfl
     refine bO (skip r h5) b8 ?_
     have bad:lW x.term=false→∀ ch,ch=trV (10,(b:Int),(x.ins.length:Int))→Kp ch h5:=fun e ch hch=>hKp _ _ ⟨_,her (by rw [endS,if_neg (by simp [e])]),hch,kp03.trans (kp4.trans kp5)⟩
     have good:lW x.term=true→∀ tl:Env,@LC.wp (ppOf Kp) Try.prog z (dZ 1 (eS K2 (dZ 0 (@dJ [] K)))) ([(0,.pointer (some ⟨Kb,0,none⟩)),(2,.int .i64 b),(3,.pointer (some ⟨B,0,none⟩)),(10,.pointer (some ⟨B5,0,none⟩)),(11,.bool true),(18,vb),(19,.int .i64 f.blocks.length),(20,.int .i64 b),(43,vi),
      (44,.int .i64 x.ins.length),(45,.int .i64 x.ins.length),(79,v79),(82,.int .i64 x.term.kind),(83,v83)]++tl) h5:=by
      intro hgood tl
      rw [hz];clear hz z
      have ct5':=ah b8 ct5
      have cb5:=k5.c1
      have hne:0<f.blocks.length:=by omega
      simp [ct5',bt5.len]
      refine a8 [0,2,3,18,19,20,116,117,118] (fun (_:Unit) i=>[.pointer (some ⟨Kb,0,none⟩),.int .i64 b,.pointer (some ⟨B,0,none⟩),vb,.int .i64 f.blocks.length,.int .i64 b,vt,.int .i64 x.term.to.length,.int .i64 i])
       (fun _ i h6=>h6=h5∧∀ j,j<i→bn (nth x.term.to j) 1 (f.blocks.length-1)=true) x.term.to.length ()
       rfl (by omega) (by simp [bz,ae,af]) ⟨rfl,fun j hj=>by omega⟩ (fun _ _=>rfl) (fun v i h1 hk m=>by simp) ?_ ?_
      ·rintro _ i h5 hlti ⟨rfl,hpre⟩ K3 hK3
       refine aa fun y hy=>?_
       simp (disch:=omega) [bt5.idx1 rfl,bt5.int b8]
       rw [hy];clear hy y
       refine bO (skip r h5) b8 ?_
       simp (disch:=omega) [ci5,bi5.len,cb5,k5.rb.len]
       refine aj (by kernel_rfl) gE ?_
       rintro _ _ ⟨rfl,rfl⟩
       refine ⟨b8,?_⟩
       refine dk (by kernel_rfl) fY ?_ ?_
       ·rintro _ _ ⟨e,rfl⟩
        refine hK3 () _ _ rfl rfl ⟨rfl,fun j hj=>?_⟩
        rcases Nat.lt_or_ge j i with h | h
        ·exact hpre j h
        ·have:j=i:=by omega
         subst this;exact e
       ·rintro ch _ ⟨e,hch,rfl⟩
        refine ⟨.inr fun _=>trivial,hKp _ _ ⟨_,her ?_,hch,kp03.trans (kp4.trans kp5)⟩⟩
        rw [endS,if_pos hgood,if_neg]
        intro ha
        rw [List.all_eq_true.1 ha _ (bS hlti)] at e;cases e
      ·rintro _ h5 ⟨rfl,hpre⟩
       simp
       refine hK2 () _ _ rfl rfl ⟨m4,?_,k5,kp03.trans (kp4.trans kp5)⟩
       rw [hst,endS,if_pos hgood,if_pos]
       rw [List.all_eq_true]
       intro y hy
       obtain ⟨j,hj,rfl⟩:=List.getElem_of_mem hy
       rw [←aq hj];exact hpre j hj
     cases hso:(eY x.term.kind).isSome with
     | false=>
      simp [ci5,bi5.len,d0,d1,d2,d3,ca5,ba5.len,ct5,bt5.len,ae,af]
      refine dk (by kernel_rfl) fY ?_ ?_
      ·rintro _ _ ⟨e,_⟩;cases e
      ·rintro ch _ ⟨_,hch,rfl⟩
       exact ⟨.inr fun _=>trivial,bad (by rw [hto,hso];rfl) _ hch⟩
     | true=>
      rw [hso,Bool.true_and] at hto
      simp [ci5,bi5.len,d0,d1,d2,d3,ca5,ba5.len,ct5,bt5.len,ae,af]
      refine aj (by kernel_rfl) gE ?_
      rintro _ _ ⟨rfl,rfl⟩
      refine ⟨b8,?_⟩
      cases hw1:bn x.term.args.length s.1 s.2.1 with
      | false=>
       simp [ae,af]
       refine dk (by kernel_rfl) fY ?_ ?_
       ·rintro _ _ ⟨e,_⟩;cases e
       ·rintro ch _ ⟨_,hch,rfl⟩
        exact ⟨.inr fun _=>trivial,bad (by rw [hto,hw1];rfl) _ hch⟩
      | true=>
       simp [ae,af]
       refine aj (by kernel_rfl) gE ?_
       rintro _ _ ⟨rfl,rfl⟩
       refine ⟨b8,?_⟩
       refine dk (by kernel_rfl) fY ?_ ?_
       ·rintro _ _ ⟨e,rfl⟩
        exact good (by rw [hto,hw1,e];rfl) _
       ·rintro ch _ ⟨e,hch,rfl⟩
        exact ⟨.inr fun _=>trivial,bad (by rw [hto,hw1,e];rfl) _ hch⟩
 ·rintro _ h1 ⟨m1,hm1,k1,kp1⟩
  simp
  exact hK _ _ ⟨m1,hm1,k1,kp1⟩
end Go.Proofs.Ytfelpjfopgiabaa
namespace Go.Proofs.Ytfelpjfopgiabaa
open Go Go.Lft
theorem nR : ∀ {a b:List Int},a.Pairwise (· < ·)→b.Pairwise (· < ·)→(∀ x,x∈a↔x∈b)→a=b
 | [],[],_,_,_=>rfl
 | [],y::b,_,_,h=>by have:=(h y).2 (List.mem_cons_self ..);cases this
 | x::a,[],_,_,h=>by have:=(h x).1 (List.mem_cons_self ..);cases this
 | x::a,y::b,ha,hb,h=>by
  obtain ⟨a1,a2⟩:=List.pairwise_cons.1 ha
  obtain ⟨b1,b2⟩:=List.pairwise_cons.1 hb
  have e:x=y:=by
   rcases List.mem_cons.1 ((h x).1 (List.mem_cons_self ..)) with e | h1
   ·exact e
   ·rcases List.mem_cons.1 ((h y).2 (List.mem_cons_self ..)) with e | h2
    ·exact e.symm
    ·have:=a1 y h2;have:=b1 x h1;omega
  subst e
  rw [nR a2 b2 fun z=>?_]
  constructor
  ·intro hz
   rcases List.mem_cons.1 ((h z).1 (List.mem_cons_of_mem _ hz)) with e | h1
   ·have:=a1 z hz;omega
   ·exact h1
  ·intro hz
   rcases List.mem_cons.1 ((h z).2 (List.mem_cons_of_mem _ hz)) with e | h1
   ·have:=b1 z hz;omega
   ·exact h1
theorem vD (l:List Int):(mI l).Pairwise (·≤·):=by
 have:=List.pairwise_mergeSort (le:=fun x y:Int=>decide (x≤y)) (fun a b c h1 h2=>by simp at *;omega) (fun a b=>by simp;omega) l
 exact this.imp fun h=>by simpa using h
theorem get!_nth {l:List Int} {i:Nat}:l.toArray[i]! = nth l i:=by
 simp [nth,List.getD_eq_getElem?_getD]
theorem rh {l:List Int} (hs:l.Pairwise (·≤·)) {i j:Nat} (hij:i≤j) (hj:j<l.length):nth l i≤nth l j:=by
 rw [aq (by omega),aq hj]
 rcases Nat.lt_or_ge i j with h | h
 ·exact List.pairwise_iff_getElem.1 hs i j (by omega) hj h
 ·have:i=j:=by omega
  subst this;exact Int.le_refl _
theorem th {l:List Int} (hs:l.Pairwise (·≤·)):(Lib.compact l).Pairwise (· < ·):=by
 unfold Lib.compact Lib.compactUpTo
 rw [List.pairwise_map,List.pairwise_filter]
 refine (List.pairwise_lt_range (n:=l.length)).imp_of_mem fun {i j} hi hj hij ki kj=>?_
 simp only [List.mem_range] at hi hj
 simp only [Lib.keeps,get!_nth,decide_eq_true_eq] at kj
 rw [get!_nth,get!_nth]
 have h1:=rh hs (i:=i) (j:=j-1) (by omega) (by omega)
 have h2:=rh hs (i:=j-1) (j:=j) (by omega) hj
 rcases kj with h | h<;>omega
theorem qI {l:List Int} {x:Int}:x∈Lib.compact l↔x∈l:=by
 refine ⟨mG,fun hx=>?_⟩
 obtain ⟨j,hj,rfl⟩:=List.getElem_of_mem hx
 have key : ∀ j,j<l.length→nth l j∈Lib.compact l:=by
  intro j
  induction j with
  | zero=>
   intro h
   unfold Lib.compact Lib.compactUpTo
   refine List.mem_map.2 ⟨0,List.mem_filter.2 ⟨by simpa using h,by simp [Lib.keeps]⟩,get!_nth⟩
  | succ j ih=>
   intro h
   by_cases he:nth l (j+1)=nth l j
   ·rw [he];exact ih (by omega)
   ·unfold Lib.compact Lib.compactUpTo
    refine List.mem_map.2 ⟨j+1,List.mem_filter.2 ⟨by simpa using h,by simp only [Lib.keeps,get!_nth,decide_eq_true_eq];exact .inr (by simpa using he)⟩,get!_nth⟩
 rw [←aq hj];exact key j hj
theorem ma {β:Type} {p:Nat→Bool} {x:Nat→β} {n:Nat} {y:β}:y∈sift p x n↔∃ i,i<n∧p i=true∧x i=y:=by
 rw [kF];simp [and_assoc]
theorem vy {row:List Int} {n:Int}:(jI row n).Pairwise (· < ·):=th (vD _)
theorem qd {row:List Int} {n x:Int}:x∈jI row n↔x∈row∧0≤x∧x<n:=by
 rw [jI,qI,mI,List.mem_mergeSort,ma]
 simp only [mL,Bool.and_eq_true,decide_eq_true_eq]
 constructor
 ·rintro ⟨i,hi,h,rfl⟩;exact ⟨bS hi,h⟩
 ·rintro ⟨h,h1⟩
  obtain ⟨i,hi,rfl⟩:=List.getElem_of_mem h
  exact ⟨i,hi,by rw [aq hi];exact h1,aq hi⟩
theorem gx {g:Gr} {a b:Int}:kY g a b=true↔(0≤a∧a<g.length∧0≤b∧b<g.length)∧b∈nth g a.toNat:=by
 simp [kY]
theorem xC {p:Nat→Bool} {n:Nat}:(sift p (fun b=>(b:Int)) n).Pairwise (· < ·):=by
 rw [kF,List.pairwise_map,List.pairwise_filter]
 exact List.pairwise_lt_range.imp fun h _ _=>by omega
theorem fM {g:Gr} {a b:Int}:b∈jK g a↔kY g a b=true:=by
 rw [jK,ma]
 constructor
 ·rintro ⟨i,_,h,rfl⟩;exact h
 ·intro h
  have:=(gx.1 h).1
  exact ⟨b.toNat,by omega,by rw [Int.toNat_of_nonneg (by omega)];exact h,Int.toNat_of_nonneg (by omega)⟩
theorem oQ {g:Gr} {a:Int}:(jK g a).Pairwise (· < ·):=xC
theorem sN {g:Gr} {a:Nat} (ha:a<g.length):nth (cP g) a=jK g a:=by
 rw [cP,eh ha]
 refine nR vy oQ fun x=>?_
 rw [qd,fM,gx,Int.toNat_natCast]
 exact ⟨fun ⟨h1,h2,h3⟩=>⟨⟨by omega,by omega,h2,h3⟩,h1⟩,fun ⟨⟨_,_,h2,h3⟩,h1⟩=>⟨h1,h2,h3⟩⟩
theorem xr {f k:Nat→List Int} {n:Nat} (h : ∀ a,a<n→f a=k a):iQ f n=iQ k n:=by
 induction n with
 | zero=>rfl
 | succ n ih=>rw [gW,gW,ih fun a ha=>h a (by omega),h n (by omega)]
theorem Bk {g:Gr}:gL g=iQ (fun a=>jK g a) g.length:=xr fun a ha=>sN ha
theorem Cs {l:List (Int × Int)} : ∀ {p:Gr} {i:Nat},i<p.length→nth (l.foldl ed p) i=nth p i++(l.filter fun e=>decide (e.2.toNat=i)).map Prod.fst:=by
 induction l with
 | nil=>intro p i _;simp
 | cons e l ih=>
  intro p i hi
  rw [List.foldl_cons,ih (by simpa [ed] using hi),ed,aJ hi,List.filter_cons]
  split
  ·rename_i h;simp [h]
  ·rename_i h;simp [h]
theorem filter_one {l:List Int} (hs:l.Pairwise (· < ·)) {b:Int}:l.filter (fun x=>decide (x=b))=if b∈l then [b] else []:=by
 induction l with
 | nil=>simp
 | cons x l ih=>
  obtain ⟨h1,h2⟩:=List.pairwise_cons.1 hs
  rw [List.filter_cons,ih h2]
  by_cases hx:x=b
  ·subst hx
   have:¬x∈l:=fun h=>by have:=h1 x h;omega
   simp [this]
  ·simp [hx,Ne.symm hx]
theorem Cm {f:Nat→List Int} (hf : ∀ a,(f a).Pairwise (· < ·)) (hp : ∀ a,∀ x∈f a,0≤x) {b n:Nat}:((iQ f n).filter fun e=>decide (e.2.toNat=b)).map Prod.fst=sift (fun a=>decide ((b:Int)∈f a)) (fun a=>(a:Int)) n:=by
 induction n with
 | zero=>rfl
 | succ n ih=>
  rw [gW,List.filter_append,List.map_append,ih]
  have e1:((f n).map fun b=>((n:Int),b)).filter (fun e=>decide (e.2.toNat=b))=((f n).filter fun x=>decide (x=(b:Int))).map fun b=>((n:Int),b):=by
   rw [List.filter_map]
   congr 1
   refine List.filter_congr fun x hx=>?_
   have:=hp n x hx
   simp only [Function.comp,decide_eq_decide]
   omega
  rw [e1,filter_one (hf n)]
  by_cases h:(b:Int)∈f n
  ·rw [if_pos h,lu (by simpa using h)];rfl
  ·rw [if_neg h,km (by simpa using h)];simp
theorem mm {g:Gr}:(cU g).length=g.length:=by rw [cU,lC];simp
theorem wR {g:Gr}:cU g=qb g:=by
 refine ue (by rw [mm,yr]) fun b hb=>?_
 rw [mm] at hb
 rw [cU,Cs (by simpa using hb),au hb,List.nil_append,qb,eh hb,Bk,Cm (fun _=>oQ) (fun a x hx=>by
  have:=(gx.1 (fM.1 hx)).1;omega)]
 have e:(fun a:Nat=>decide ((b:Int)∈jK g a))=fun a:Nat=>kY g a b:=by
  funext a
  rw [Bool.eq_iff_iff]
  simp [fM]
 rw [e]
theorem AS {g:Gr} {a b:Int} (hb:0≤b∧b<g.length):a∈nth (cU g) b.toNat↔kY g a b=true:=by
 rw [wR,qb,eh (by omega),ma]
 constructor
 ·rintro ⟨i,_,h,rfl⟩
  rwa [Int.toNat_of_nonneg hb.1] at h
 ·intro h
  have:=(gx.1 h).1
  exact ⟨a.toNat,by omega,by rw [Int.toNat_of_nonneg (by omega),Int.toNat_of_nonneg (by omega)];exact h,Int.toNat_of_nonneg (by omega)⟩
end Go.Proofs.Ytfelpjfopgiabaa
namespace Go.Proofs.Ytfelpjfopgiabaa
open Go Go.Lft
structure Le (x y:List Bool):Prop where
 len:y.length=x.length
 le : ∀ i,nth x i=true→nth y i=true
theorem Le.refl (x:List Bool):Le x x:=⟨rfl,fun _ h=>h⟩
theorem Le.trans {x y z:List Bool} (h:Le x y) (k:Le y z):Le x z:=⟨k.len.trans h.len,fun i e=>k.le i (h.le i e)⟩
theorem Le.antisymm {x y:List Bool} (h:Le x y) (k:Le y x):x=y:=by
 refine ue h.len.symm fun i _=>?_
 rw [Bool.eq_iff_iff];exact ⟨h.le i,k.le i⟩
theorem Le.cR : ∀ {x y:List Bool},Le x y→x=y∨cR y<cR x
 | [],y,h=>.inl (List.eq_nil_of_length_eq_zero h.len).symm
 | a::x,y,h=>by
  match y,h with
  | [],h=>have:=h.len;simp at this
  | b::y,h=>
   have h2:Le x y:=⟨by simpa using h.len,fun i e=>by have:=h.le (i+1);simpa [nth] using this (by simpa [nth] using e)⟩
   have h0:a=true→b=true:=fun e=>by have:=h.le 0;simpa [nth] using this (by simpa [nth] using e)
   unfold Go.Proofs.Ytfelpjfopgiabaa.cR
   rcases h2.cR with rfl | h3
   ·cases a<;>cases b<;>simp at h0 ⊢
   ·unfold Go.Proofs.Ytfelpjfopgiabaa.cR at h3
    cases a<;>cases b<;>simp at h0 ⊢<;>omega
theorem F3 {x:List Bool} {i:Nat} {b:Bool} (hb:nth x i=true→b=true):Le x (x.set i b):=by
 refine ⟨by simp,fun j hj=>?_⟩
 rcases Nat.lt_or_ge j x.length with h | h
 ·rw [aJ h]
  split
  ·rename_i e;subst e;exact hb hj
  ·exact hj
 ·rw [aV h] at hj;cases hj
theorem tI {f:Nat→List Bool→List Bool} (hf : ∀ k x,Le x (f k x)) (x:List Bool) : ∀ n m,n≤m→Le (up f n x) (up f m x)
  | n,0,h=>by
                  obtain rfl:n=0:=by omega
                  exact Le.refl _
  | n,m+1,h=>by
    rcases Nat.lt_or_ge n (m+1) with h1 | h1
    · exact (tI hf x n m (by omega)).trans (hf m _)
    · obtain rfl:n=m+1:=by omega
      exact Le.refl _
theorem ER {f:Nat→List Bool→List Bool} (hf : ∀ k x,Le x (f k x)) {x:List Bool} {n:Nat} (h:up f n x=x) : ∀ k,k<n→f k x=x:=by
 have key : ∀ k,k≤n→up f k x=x:=fun k hk=>by
  have h1:=tI hf x k n hk
  rw [h] at h1
  have h2:=tI hf x 0 k (Nat.zero_le _)
  exact (h2.antisymm h1).symm
 intro k hk
 have h1:=key (k+1) (by omega)
 rw [up,key k (by omega)] at h1
 exact h1
theorem xv {β:Type} {F:β→β} : ∀ (n:Nat) (x:β),up (fun _=>F) (n+1) x=up (fun _=>F) n (F x)
 | 0,x=>rfl
 | n+1,x=>by
  show F (up (fun _=>F) (n+1) x)=F (up (fun _=>F) n (F x))
  rw [xv n x]
theorem xD {β:Type} {F:β→β} {x:β} (h:F x=x) : ∀ n,up (fun _=>F) n x=x
 | 0=>rfl
 | n+1=>by show F (up (fun _=>F) n x)=x;rw [xD h n,h]
theorem BC {F:List Bool→List Bool} (hF : ∀ x,Le x (F x)) : ∀ (n:Nat) (x:List Bool),cR x≤n→F (up (fun _=>F) n x)=up (fun _=>F) n x
 | 0,x,h=>by
  rcases (hF x).cR with e | e
  ·exact e.symm
  ·omega
 | n+1,x,h=>by
  rw [xv]
  rcases (hF x).cR with e | e
  ·rw [←e,xD e.symm];exact e.symm
  ·exact BC hF n _ (by omega)
inductive Re (g:Gr) (gone:Int):Nat→Prop
 | root:0<g.length→gone≠0→Re g gone 0
 | step {a b:Nat}:Re g gone a→kY g a b=true→(b:Int)≠gone→Re g gone b
theorem Re.lt {g:Gr} {gone:Int} {b:Nat} (h:Re g gone b):b<g.length:=by
 cases h with
 | root h _=>exact h
 | step _ h _=>have:=(gx.1 h).1;omega
theorem Re.ne {g:Gr} {gone:Int} {b:Nat} (h:Re g gone b):(b:Int)≠gone:=by
 cases h with
 | root _ h=>exact fun e=>h e.symm
 | step _ _ h=>exact h
theorem Re.all {g:Gr} {gone:Int} {b:Nat} (h:Re g gone b):Re g (-1) b:=by
 induction h with
 | root h _=>exact .root h (by decide)
 | step _ h _ ih=>exact .step ih h (by omega)
theorem tr {gone:Int} {l:List Int} {i:Nat} {x:List Bool}:Le x (qU gone l i x):=F3 fun h=>by rw [h];rfl
theorem qn {g:Gr} {gone:Int} {a:Nat} {x:List Bool}:Le x (outBlock g gone a x):=by
 unfold outBlock
 split
 ·exact tI (fun k x=>tr) x 0 _ (Nat.zero_le _)
 ·exact Le.refl _
theorem qq {g:Gr} {gone:Int} {x:List Bool}:Le x (lq g gone x):=tI (fun k x=>qn) x 0 _ (Nat.zero_le _)
theorem vN {β:Type} (I:β→Prop) {f:Nat→β→β} {n:Nat} (hf : ∀ k x,k<n→I x→I (f k x)) {x:β} (hx:I x):I (up f n x):=by
 have : ∀ m,m≤n→I (up f m x):=by
  intro m
  induction m with
  | zero=>exact fun _=>hx
  | succ m ih=>exact fun h=>hf _ _ (by omega) (ih (by omega))
 exact this n (Nat.le_refl _)
theorem uW {g:Gr} {gone:Int} {b:Nat}:nth (lj g gone) b=true↔Re g gone b:=by
 by_cases h0:g.length=0∨gone=0
 ·rw [lj,if_pos h0]
  constructor
  ·intro h
   rcases Nat.lt_or_ge b g.length with h1 | h1
   ·rw [au h1] at h;cases h
   ·rw [aV (by simpa using h1)] at h;cases h
  ·intro h
   exfalso
   induction h with
   | root h1 h2=>rcases h0 with h0 | h0;omega;exact h2 h0
   | step _ _ _ ih=>exact ih
 ·rw [lj,if_neg h0]
  have hg:g.length≠0:=fun e=>h0 (.inl e)
  have hgone:gone≠0:=fun e=>h0 (.inr e)
  have hinit:((List.replicate g.length false).set 0 true).length=g.length:=by simp
  constructor
  ·-- what is marked is reached
   have hI : ∀ x:List Bool,(∀ b,nth x b=true→Re g gone b)→∀ b,nth (lq g gone x) b=true→Re g gone b:=by
    intro x hx
    refine vN (fun x:List Bool=>∀ b,nth x b=true→Re g gone b) (fun a x ha hx=>?_) hx
    unfold outBlock
    split
    ·rename_i hxa
     have hra:=hx a hxa
     refine vN (fun x:List Bool=>∀ b,nth x b=true→Re g gone b) (fun i x hi hx=>?_) hx
     intro b hb
     have hm:=bS hi
     have hed:=fM.1 hm
     have hrng:=(gx.1 hed).1
     unfold qU at hb
     rcases Nat.lt_or_ge b x.length with h1 | h1
     ·rw [aJ h1] at hb
      split at hb
      ·rename_i e
       rcases (Bool.or_eq_true _ _).mp hb with h2 | h2
       ·rw [e] at h2;exact hx b h2
       ·have eb:(b:Int)=nth (jK g a) i:=by omega
        exact .step hra (by rw [eb];exact hed) (by rw [eb];simpa using h2)
      ·exact hx b hb
     ·rw [aV (by simpa using h1)] at hb;cases hb
    ·exact hx
   exact vN (fun x:List Bool=>∀ b,nth x b=true→Re g gone b) (fun _ x _ hx=>hI x hx) (fun b hb=>by
    rcases Nat.lt_or_ge b g.length with h1 | h1
    ·rw [aJ (by simpa using h1)] at hb
     split at hb
     ·rename_i e;subst e;exact .root (by omega) hgone
     ·rw [au h1] at hb;cases hb
    ·rw [aV (by simpa using h1)] at hb;cases hb) b
  ·-- what is reached is marked
   intro h
   have hfix:=BC (F:=lq g gone) (fun x=>qq) g.length ((List.replicate g.length false).set 0 true) (by
    have:=uI (t:=List.replicate g.length false) (i:=0)
    have h2:cR (List.replicate g.length false)=g.length:=by simp [cR]
    omega)
   have hle:=tI (f:=fun _=>lq g gone) (fun _ x=>qq) ((List.replicate g.length false).set 0 true) 0 g.length (Nat.zero_le _)
   generalize up (fun _=>lq g gone) g.length ((List.replicate g.length false).set 0 true)=x at hfix hle
   have hxl:x.length=g.length:=hle.len.trans hinit
   induction h with
   | root h1 _=>exact hle.le 0 (by show nth ((List.replicate g.length false).set 0 true) 0=true;rw [aJ (by simpa using h1),if_pos rfl])
   | step ha he hb ih=>
    rename_i a b
    have hrng:=(gx.1 he).1
    have h1:=ER (fun k x=>qn) hfix a (by omega)
    rw [outBlock,if_pos ih] at h1
    obtain ⟨i,hi,e⟩:=List.getElem_of_mem (fM.2 he)
    have h2:=ER (fun k x=>tr) h1 i hi
    rw [←aq hi] at e
    unfold qU at h2
    rw [e] at h2
    have h3:=congrArg (fun l=>nth l b) h2
    simp only [Int.toNat_natCast] at h3
    rw [aJ (by omega),if_pos rfl] at h3
    rw [←h3]
    simp [hb]
theorem mc {g:Gr} {a b:Nat}:domC g a b=true↔Re g (-1) a∧Re g (-1) b∧¬Re g a b:=by
 rw [domC]
 simp only [Bool.and_eq_true,Bool.or_eq_true,Bool.not_eq_true',decide_eq_true_eq,uW,Bool.eq_false_iff,ne_eq]
 constructor
 ·rintro ⟨⟨h1,h2⟩,h3⟩
  refine ⟨h1,h2,?_⟩
  rcases h3 with h3 | h3
  ·exact fun h=>h.ne h3.symm
  ·exact h3
 ·rintro ⟨h1,h2,h3⟩
  exact ⟨⟨h1,h2⟩,.inr h3⟩
end Go.Proofs.Ytfelpjfopgiabaa
namespace Go.Proofs.Ytfelpjfopgiabaa
open Go Go.Lft
def Bef (l:List Int) (u v:Int):Prop:=∃ p q,l=p++u::q∧v∈q
theorem Bef.app {l:List Int} {u v:Int} (h:Bef l u v) (t:List Int):Bef (l++t) u v:=by
 obtain ⟨p,q,rfl,hv⟩:=h
 exact ⟨p,q++t,by simp,List.mem_append_left _ hv⟩
theorem Bef.pre {l:List Int} {u v:Int} (h:Bef l u v) (t:List Int):Bef (t++l) u v:=by
 obtain ⟨p,q,rfl,hv⟩:=h
 exact ⟨t++p,q,by simp,hv⟩
theorem Bef.zZ {l t:List Int} {u v:Int} (hu:u∈l) (hv:v∈t):Bef (l++t) u v:=by
 obtain ⟨p,q,rfl⟩:=List.append_of_mem hu
 exact ⟨p,q++t,by simp,List.mem_append_right _ hv⟩
theorem Bef.mem {l:List Int} {u v:Int} (h:Bef l u v):u∈l∧v∈l:=by
 obtain ⟨p,q,rfl,hv⟩:=h
 exact ⟨by simp,by simp [hv]⟩
inductive Adv (nx:Int→List Int) (l:List Int) (u:Int):Int→Prop
 | self:Adv nx l u u
 | step {p q:Int}:Adv nx l u p→q∈nx p→Bef l q p→Adv nx l u q
theorem Adv.app {nx:Int→List Int} {l:List Int} {u v:Int} (h:Adv nx l u v) (t:List Int):Adv nx (l++t) u v:=by
 induction h with
 | self=>exact .self
 | step _ h1 h2 ih=>exact .step ih h1 (h2.app t)
theorem Adv.pre {nx:Int→List Int} {l:List Int} {u v:Int} (h:Adv nx l u v) (t:List Int):Adv nx (t++l) u v:=by
 induction h with
 | self=>exact .self
 | step _ h1 h2 ih=>exact .step ih h1 (h2.pre t)
theorem Adv.trans {nx:Int→List Int} {l:List Int} {u v w:Int} (h:Adv nx l u v) (k:Adv nx l v w):Adv nx l u w:=by
 induction k with
 | self=>exact h
 | step _ h1 h2 ih=>exact .step ih h1 h2
def vis (s:List Bool × List Int) (x:Int):Prop:=nth s.1 x.toNat=true
structure Told (nx:Int→List Int) (m:Nat) (a:Int) (s s':List Bool × List Int) (new:List Int):Prop where
 out:s'.2=s.2++new
 len:s'.1.length=s.1.length
 nodup:new.Nodup
 visd : ∀ x,0≤x→(vis s' x↔vis s x∨x∈new)
 fresh : ∀ x∈new,¬vis s x∧0≤x∧x<m
 last : ∃ t,new=t++[a]
 clos : ∀ x∈new,∀ y∈nx x,vis s' y
 par : ∀ x∈new,x≠a→∃ p∈new,x∈nx p∧Bef new x p
 desc : ∀ x∈new,Adv nx new a x
 ret : ∀ x∈new,∀ y∈nx x,y∈new→Bef new y x∨Adv nx new y x
structure Half (nx:Int→List Int) (m:Nat) (a:Int) (k:Nat) (s s':List Bool × List Int) (new:List Int):Prop where
 out:s'.2=s.2++new
 len:s'.1.length=s.1.length
 nodup:new.Nodup
 visd : ∀ x,0≤x→(vis s' x↔vis s x∨x=a∨x∈new)
 fresh : ∀ x∈new,¬vis s x∧(0≤x∧x<m)∧x≠a
 clos : ∀ x∈new,∀ y∈nx x,vis s' y
 done : ∀ j,j<k→vis s' (nth (nx a) j)
 par : ∀ x∈new,x∈nx a∨∃ p∈new,x∈nx p∧Bef new x p
 desc : ∀ x∈new,∃ b∈new,b∈nx a∧Adv nx new b x
 ret : ∀ x∈new,∀ y∈nx x,y∈new→Bef new y x∨Adv nx new y x
theorem uE {nx:Int→List Int} {m:Nat} (hnx : ∀ a:Int,0≤a→a<m→∀ y∈nx a,0≤y∧y<m) : ∀ (n:Nat) (a:Int) (s:List Bool × List Int),0≤a→a<m→s.1.length=m→nth s.1 a.toNat=false→cR s.1≤n→
  ∃ new,Told nx m a s (ib nx n a s) new
 | 0,a,s,h0,h1,hl,hf,hc=>by
  exfalso
  have:=gX (t:=s.1) (i:=a.toNat) (by omega) hf
  omega
 | n+1,a,s,h0,h1,hl,hf,hc=>by
  have hfs:=gX (t:=s.1) (i:=a.toNat) (by omega) hf
  rw [iX]
  have half : ∀ k,k≤(nx a).length→∃ new,Half nx m a k s (up (cg nx n a) k (s.1.set a.toNat true,s.2)) new∧cR (up (cg nx n a) k (s.1.set a.toNat true,s.2)).1≤n:=by
   intro k
   induction k with
   | zero=>
    intro _
    refine ⟨[],⟨by simp [up],by simp [up],by simp,fun x hx=>?_,by simp,by simp,by simp,by simp,by simp,by simp⟩,by simp only [up];omega⟩
    unfold vis
    show nth (s.1.set a.toNat true) x.toNat=true↔_
    rcases Nat.lt_or_ge x.toNat s.1.length with hlt | hge
    ·rw [aJ hlt]
     split
     ·rename_i e
      have:x=a:=by omega
      simp [this]
     ·rename_i e
      have:x≠a:=fun h=>e (by rw [h])
      simp [this]
    ·rw [aV (by simpa using hge),aV hge]
     have:x≠a:=by omega
     simp [this]
   | succ k ih=>
    intro hk
    obtain ⟨new,H,hcn⟩:=ih (by omega)
    rw [up]
    generalize up (cg nx n a) k (s.1.set a.toNat true,s.2)=z at H hcn
    have hb:=hnx a h0 h1 (nth (nx a) k) (bS (by omega))
    have hbm:nth (nx a) k∈nx a:=bS (by omega)
    have hzl:z.1.length=m:=H.len.trans hl
    rw [cg]
    split
    ·rename_i hv
     refine ⟨new,{ H with done:=fun j hj=>?_ },hcn⟩
     rcases Nat.lt_or_ge j k with h | h
     ·exact H.done j h
     ·obtain rfl:j=k:=by omega
      exact hv
    ·rename_i hv
     obtain ⟨new',T⟩:=uE hnx n (nth (nx a) k) z hb.1 hb.2 hzl (by simpa using hv) hcn
     have hkeep:=(mN (nx:=nx) (m:=m) (c:=n) n (nth (nx a) k) z ⟨hzl,hcn⟩).2
     generalize ib nx n (nth (nx a) k) z=z' at T hkeep
     obtain ⟨t,ht⟩:=T.last
     have hbn:nth (nx a) k∈new':=by rw [ht];simp
     have up : ∀ y,0≤y→vis z y→vis z' y:=fun y hy h=>(T.visd y hy).2 (.inl h)
     have hnv : ∀ x∈new,vis z x:=fun x hx=>(H.visd x (H.fresh x hx).2.1.1).2 (.inr (.inr hx))
     refine ⟨new++new',⟨?_,?_,?_,?_,?_,?_,?_,?_,?_,?_⟩,hkeep⟩
     ·rw [T.out,H.out,List.append_assoc]
     ·rw [T.len,H.len]
     ·exact List.nodup_append.2 ⟨H.nodup,T.nodup,fun x hx y hy e=>by subst e;exact (T.fresh x hy).1 (hnv x hx)⟩
     ·intro x hx
      rw [T.visd x hx,H.visd x hx,List.mem_append]
      constructor
      ·rintro ((h | h | h) | h)
       ·exact .inl h
       ·exact .inr (.inl h)
       ·exact .inr (.inr (.inl h))
       ·exact .inr (.inr (.inr h))
      ·rintro (h | h | h | h)
       ·exact .inl (.inl h)
       ·exact .inl (.inr (.inl h))
       ·exact .inl (.inr (.inr h))
       ·exact .inr h
     ·intro x hx
      rcases List.mem_append.1 hx with hx | hx
      ·exact H.fresh x hx
      ·obtain ⟨g1,g2⟩:=T.fresh x hx
       refine ⟨fun h=>g1 ((H.visd x g2.1).2 (.inl h)),g2,fun e=>g1 ((H.visd x g2.1).2 (.inr (.inl e)))⟩
     ·intro x hx y hy
      rcases List.mem_append.1 hx with hx | hx
      ·have hxr:=(H.fresh x hx).2.1
       exact up y (hnx x hxr.1 hxr.2 y hy).1 (H.clos x hx y hy)
      ·exact T.clos x hx y hy
     ·intro j hj
      rcases Nat.lt_or_ge j k with h | h
      ·exact up _ (hnx a h0 h1 _ (bS (by omega))).1 (H.done j h)
      ·obtain rfl:j=k:=by omega
       exact (T.visd _ hb.1).2 (.inr hbn)
     ·intro x hx
      rcases List.mem_append.1 hx with hx | hx
      ·rcases H.par x hx with h | ⟨p,hp,h2,h3⟩
       ·exact .inl h
       ·exact .inr ⟨p,List.mem_append_left _ hp,h2,h3.app _⟩
      ·by_cases e:x=nth (nx a) k
       ·exact .inl (e▸hbm)
       ·obtain ⟨p,hp,h2,h3⟩:=T.par x hx e
        exact .inr ⟨p,List.mem_append_right _ hp,h2,h3.pre _⟩
     ·intro x hx
      rcases List.mem_append.1 hx with hx | hx
      ·obtain ⟨b,hb,h2,h3⟩:=H.desc x hx
       exact ⟨b,List.mem_append_left _ hb,h2,h3.app _⟩
      ·exact ⟨_,List.mem_append_right _ hbn,hbm,(T.desc x hx).pre _⟩
     ·intro x hx y hy hyn
      rcases List.mem_append.1 hx with hx | hx<;>rcases List.mem_append.1 hyn with hyn | hyn
      ·exact (H.ret x hx y hy hyn).imp (·.app _) (·.app _)
      ·exact absurd (H.clos x hx y hy) (T.fresh y hyn).1
      ·exact .inl (Bef.zZ hyn hx)
      ·exact (T.ret x hx y hy hyn).imp (·.pre _) (·.pre _)
  obtain ⟨new,H,hcn⟩:=half (nx a).length (Nat.le_refl _)
  generalize up (cg nx n a) (nx a).length (s.1.set a.toNat true,s.2)=z at H hcn
  have hda : ∀ y∈nx a,vis z y:=by
   intro y hy
   obtain ⟨j,hj,rfl⟩:=List.getElem_of_mem hy
   have:=H.done j hj
   rwa [aq hj] at this
  have hadv : ∀ x∈new,Adv nx (new++[a]) a x:=by
   intro x hx
   obtain ⟨b,hb,h2,h3⟩:=H.desc x hx
   exact (Adv.step .self h2 (Bef.zZ hb (by simp))).trans (h3.app _)
  refine ⟨new++[a],⟨?_,H.len,?_,?_,?_,⟨new,rfl⟩,?_,?_,?_,?_⟩⟩
  ·simp only [H.out,List.append_assoc]
  ·refine List.nodup_append.2 ⟨H.nodup,by simp,fun x hx y hy e=>?_⟩
   simp only [List.mem_singleton] at hy
   exact (H.fresh x hx).2.2 (e.trans hy)
  ·intro x hx
   show nth z.1 x.toNat=true↔_
   have:=H.visd x hx
   unfold vis at this ⊢
   rw [this]
   simp only [List.mem_append,List.mem_singleton]
   constructor
   ·rintro (h | h | h)
    ·exact .inl h
    ·exact .inr (.inr h)
    ·exact .inr (.inl h)
   ·rintro (h | h | h)
    ·exact .inl h
    ·exact .inr (.inr h)
    ·exact .inr (.inl h)
  ·intro x hx
   rcases List.mem_append.1 hx with hx | hx
   ·exact ⟨(H.fresh x hx).1,(H.fresh x hx).2.1⟩
   ·simp only [List.mem_singleton] at hx;subst hx
    exact ⟨by unfold vis;rw [hf];simp,h0,h1⟩
  ·intro x hx y hy
   rcases List.mem_append.1 hx with hx | hx
   ·exact H.clos x hx y hy
   ·simp only [List.mem_singleton] at hx;subst hx
    exact hda y hy
  ·intro x hx hne
   rcases List.mem_append.1 hx with hx | hx
   ·rcases H.par x hx with h | ⟨p,hp,h2,h3⟩
    ·exact ⟨a,by simp,h,Bef.zZ hx (by simp)⟩
    ·exact ⟨p,List.mem_append_left _ hp,h2,h3.app _⟩
   ·simp only [List.mem_singleton] at hx;exact absurd hx hne
  ·intro x hx
   rcases List.mem_append.1 hx with hx | hx
   ·exact hadv x hx
   ·simp only [List.mem_singleton] at hx;subst hx;exact .self
  ·intro x hx y hy hyn
   rcases List.mem_append.1 hyn with hn | hn
   ·rcases List.mem_append.1 hx with hx | hx
    ·exact (H.ret x hx y hy hn).imp (·.app _) (·.app _)
    ·simp only [List.mem_singleton] at hx;subst hx
     exact .inl (Bef.zZ hn (by simp))
   ·simp only [List.mem_singleton] at hn;subst hn
    rcases List.mem_append.1 hx with hx | hx
    ·exact .inr (hadv x hx)
    ·simp only [List.mem_singleton] at hx;subst hx
     exact .inr .self
end Go.Proofs.Ytfelpjfopgiabaa
namespace Go.Proofs.Ytfelpjfopgiabaa.Chk
inductive Anc (o:Nat→Nat) (x:Nat):Nat→Prop
 | self:Anc o x x
 | up {b:Nat}:b≠0→Anc o x (o b)→Anc o x b
theorem py {o:Nat→Nat} {x:Nat}:Anc o x 0↔x=0:=by
 constructor
 ·intro h
  cases h with
  | self=>rfl
  | up h _=>exact absurd rfl h
 ·rintro rfl;exact .self
theorem lN {o:Nat→Nat} {x b:Nat} (hb:b≠0):Anc o x b↔x=b∨Anc o x (o b):=by
 constructor
 ·intro h
  cases h with
  | self=>exact .inl rfl
  | up _ h=>exact .inr h
 ·rintro (rfl | h)
  ·exact .self
  ·exact .up hb h
theorem Anc.trans {o:Nat→Nat} {x y b:Nat} (h:Anc o x y) (k:Anc o y b):Anc o x b:=by
 induction k with
 | self=>exact h
 | up hb _ ih=>exact .up hb ih
theorem Anc.total {o:Nat→Nat} {x y b:Nat} (h:Anc o x b) (k:Anc o y b):Anc o x y∨Anc o y x:=by
 induction h with
 | self=>exact .inr k
 | up hb h ih=>
  cases k with
  | self=>exact .inl (.up hb h)
  | up _ k=>exact ih k
structure Ch (R:Nat→Prop) (r:Nat→Nat) (E:Nat→Nat→Prop) (f:Nat→Nat) (D:Nat→Nat→Prop):Prop where
 inj : ∀ a b,R a→R b→r a=r b→a=b
 R0:R 0
 r0:r 0=0
 hf : ∀ x,R x→x≠0→R (f x)∧E (f x) x∧r (f x)<r x
 d1 : ∀ d b a,D d b→d≠b→E a b→R a→D d a
 d0 : ∀ d,D d 0→d=0
def Ok (Pr:Nat→Prop) (x:Nat):Prop:=x=0∨Pr x
structure Inv (R:Nat→Prop) (r:Nat→Nat) (E:Nat→Nat→Prop) (f:Nat→Nat) (D:Nat→Nat→Prop) (k:Nat) (o:Nat→Nat) (Pr:Nat→Prop):Prop where
 pr : ∀ b,Pr b→R b∧b≠0∧Ok Pr (o b)∧r (o b)<r b
 all : ∀ b,R b→b≠0→r b<k→Pr b
 fok : ∀ b,Pr b→Ok Pr (f b)
 K : ∀ b,Pr b→∀ x,(∀ a,E a b→R a→Ok Pr a→Anc o x a)→Anc o x (o b)
 FP : ∀ b,Pr b→∀ y,Anc o y (o b)→k≤r y→Anc o y (f b)
 FP2 : ∀ b,Pr b→r b<k→Anc o (o b) (f b)
 S : ∀ b,Pr b→∀ d,D d b→d≠b→Anc o d (o b)
section
variable {R:Nat→Prop} {r:Nat→Nat} {E:Nat→Nat→Prop} {f:Nat→Nat} {D:Nat→Nat→Prop} {k:Nat} {o:Nat→Nat} {Pr:Nat→Prop}
theorem Inv.okR (I:Inv R r E f D k o Pr) (C:Ch R r E f D) {x:Nat} (h:Ok Pr x):R x:=by
 rcases h with rfl | h
 ·exact C.R0
 ·exact (I.pr x h).1
theorem Inv.anc (I:Inv R r E f D k o Pr) {x b:Nat} (h:Anc o x b):Ok Pr b→Ok Pr x∧(x=b∨r x<r b):=by
 induction h with
 | self=>exact fun hb=>⟨hb,.inl rfl⟩
 | up hb _ ih=>
  intro hok
  rcases hok with rfl | hp
  ·exact absurd rfl hb
  ·obtain ⟨_,_,h3,h4⟩:=I.pr _ hp
   obtain ⟨h5,h6⟩:=ih h3
   refine ⟨h5,.inr ?_⟩
   rcases h6 with rfl | h6
   ·exact h4
   ·omega
theorem Inv.dom (I:Inv R r E f D k o Pr) (C:Ch R r E f D) {d b:Nat} (hb:Ok Pr b) (h:D d b):Anc o d b:=by
 by_cases e:d=b
 ·subst e;exact .self
 ·rcases hb with rfl | hb
  ·exact absurd (C.d0 d h) e
  ·exact .up (I.pr b hb).2.1 (I.S b hb d h e)
def upd (o:Nat→Nat) (c q:Nat):Nat→Nat:=fun b=>if b=c then q else o b
def add (Pr:Nat→Prop) (c:Nat):Nat→Prop:=fun b=>b=c∨Pr b
theorem iB {c q x b:Nat} (h:¬Anc o c b):Anc (upd o c q) x b↔Anc o x b:=by
 constructor
 ·intro k
  induction k with
  | self=>exact .self
  | up hb k ih=>
   rename_i b
   have hne:b≠c:=fun e=>h (e▸.self)
   have e:upd o c q b=o b:=by unfold upd;rw [if_neg hne]
   rw [e] at ih k
   exact .up hb (ih fun hc=>h (.up hb hc))
 ·intro k
  induction k with
  | self=>exact .self
  | up hb k ih=>
   rename_i b
   have hne:b≠c:=fun e=>h (e▸.self)
   have e:upd o c q b=o b:=by unfold upd;rw [if_neg hne]
   exact .up hb (by rw [e];exact ih fun hc=>h (.up hb hc))
theorem FX {c q x:Nat} (hc:c≠0) (hq:¬Anc o c q):Anc (upd o c q) x c↔x=c∨Anc o x q:=by
 rw [lN hc,show upd o c q c=q by simp [upd],iB hq]
theorem Inv.Ej (I:Inv R r E f D k o Pr) {x y:Nat} (hx:Ok Pr x) (hy:Ok Pr y) (h1:Anc o x y) (h2:Anc o y x):x=y:=by
 have e1:=(I.anc h1 hy).2
 have e2:=(I.anc h2 hx).2
 omega
theorem Inv.below (I:Inv R r E f D k o Pr) {c q x b:Nat} (hpc:Pr c) (hq:¬Anc o c q) (h:Anc o c b):Ok Pr b→(Anc (upd o c q) x b↔(Anc o x b∧Anc o c x)∨Anc o x q):=by
 have hc:=(I.pr c hpc).2.1
 induction h with
 | self=>
  intro hb
  rw [FX hc hq]
  constructor
  ·rintro (rfl | h)
   ·exact .inl ⟨.self,.self⟩
   ·exact .inr h
  ·rintro (⟨h1,h2⟩ | h)
   ·exact .inl (I.Ej (I.anc h1 hb).1 hb h1 h2)
   ·exact .inr h
 | up hb h ih=>
  rename_i b
  intro hok
  have hpb:Pr b:=hok.resolve_left hb
  obtain ⟨_,_,h3,h4⟩:=I.pr b hpb
  have hne:b≠c:=fun e=>by
   subst e
   rcases (I.anc h h3).2 with e | e
   ·rw [←e] at h4;omega
   ·omega
  have e:upd o c q b=o b:=by unfold upd;rw [if_neg hne]
  rw [lN hb,e,ih h3,lN hb]
  constructor
  ·rintro (rfl | ⟨h1,h2⟩ | h1)
   ·exact .inl ⟨.inl rfl,.up hb h⟩
   ·exact .inl ⟨.inr h1,h2⟩
   ·exact .inr h1
  ·rintro (⟨rfl | h1,h2⟩ | h1)
   ·exact .inl rfl
   ·exact .inr (.inl ⟨h1,h2⟩)
   ·exact .inr (.inr h1)
structure Turn (R:Nat→Prop) (r:Nat→Nat) (E:Nat→Nat→Prop) (o:Nat→Nat) (Pr:Nat→Prop) (c q:Nat):Prop where
 ok:Ok Pr q
 q : ∀ x,Anc o x q↔∀ a,E a c→R a→Ok Pr a→Anc o x a
theorem Inv.fc (I:Inv R r E f D k o Pr) (C:Ch R r E f D) {c:Nat} (hR:R c) (hc:c≠0) (hk:r c=k):Ok Pr (f c):=by
 obtain ⟨h1,_,h3⟩:=C.hf c hR hc
 by_cases e:f c=0
 ·exact .inl e
 ·exact .inr (I.all _ h1 e (by omega))
theorem Turn.lt {c q:Nat} (T:Turn R r E o Pr c q) (I:Inv R r E f D k o Pr) (C:Ch R r E f D) (hR:R c) (hc:c≠0) (hk:r c=k):r q<r c∧Anc o q (f c):=by
 obtain ⟨h1,h2,h3⟩:=C.hf c hR hc
 have h4:=(T.q q).1 .self (f c) h2 h1 (I.fc C hR hc hk)
 have:=(I.anc h4 (I.fc C hR hc hk)).2
 refine ⟨?_,h4⟩
 rcases this with e | e
 ·rw [e];exact h3
 ·omega
theorem Inv.turn (I:Inv R r E f D k o Pr) (C:Ch R r E f D) {c q:Nat} (hR:R c) (hc:c≠0) (hk:r c=k) (T:Turn R r E o Pr c q):Inv R r E f D (k+1) (upd o c q) (add Pr c):=by
 obtain ⟨f1,f2,f3⟩:=C.hf c hR hc
 have hfok:=I.fc C hR hc hk
 obtain ⟨hlt,hqf⟩:=T.lt I C hR hc hk
 have hq:¬Anc o c q:=fun h=>by
  have:=(I.anc h T.ok).2
  rcases this with e | e
  ·rw [e] at hlt;omega
  ·omega
 have hcf:¬Anc o c (f c):=fun h=>by
  have:=(I.anc h hfok).2
  rcases this with e | e
  ·rw [←e] at f3;omega
  ·omega
 have okm : ∀ x,Ok Pr x→Ok (add Pr c) x:=fun x h=>h.imp id .inr
 have up_ne : ∀ b,b≠c→upd o c q b=o b:=fun b hb=>by unfold upd;rw [if_neg hb]
 have up_c:upd o c q c=q:=by simp [upd]
 have hpc : ∀ b,Ok Pr b→Anc o c b→Pr c:=fun b hb h=>((I.anc h hb).1).resolve_left hc
 have mono : ∀ b,Ok Pr b→∀ x,Anc (upd o c q) x b→Anc o x b:=by
  intro b hb x h
  by_cases hcb:Anc o c b
  ·have hp:=hpc b hb hcb
   rcases (I.below hp hq hcb hb).1 h with ⟨h1,_⟩ | h1
   ·exact h1
   ·exact (Anc.up hc (I.K c hp x ((T.q x).1 h1))).trans hcb
  ·exact (iB hcb).1 h
 have stay : ∀ b,Ok Pr b→∀ x,Anc o x b→(Anc o c b→Anc o c x∨Anc o x q)→Anc (upd o c q) x b:=by
  intro b hb x h h2
  by_cases hcb:Anc o c b
  ·refine (I.below (hpc b hb hcb) hq hcb hb).2 ?_
   rcases h2 hcb with h3 | h3
   ·exact .inl ⟨h,h3⟩
   ·exact .inr h3
  ·exact (iB hcb).2 h
 have domc : ∀ n b,r b≤n→Ok Pr b→Anc o c b→∀ d,D d b→r d<r c→D d c:=by
  intro n
  induction n with
  | zero=>
   intro b hb hok hcb d hd hlt
   have:=(I.anc hcb hok).2
   rcases this with rfl | h
   ·exact hd
   ·omega
  | succ n ih=>
   intro b hb hok hcb d hd hlt
   by_cases e:c=b
   ·subst e;exact hd
   ·have hb0:b≠0:=fun e0=>by subst e0;exact e (py.1 hcb)
    have hpb:=hok.resolve_left hb0
    have hcb':Anc o c (o b):=((lN hb0).1 hcb).resolve_left e
    obtain ⟨g1,g2,g3⟩:=C.hf b (I.pr b hpb).1 hb0
    have hlb:=(I.anc hcb hok).2
    have hdb:d≠b:=fun e2=>by subst e2;omega
    exact ih (f b) (by omega) (I.fok b hpb) (I.FP b hpb c hcb' (by omega)) d (C.d1 d b (f b) hd hdb g2 g1) hlt
 have domq : ∀ d,D d c→d≠c→Anc o d q:=by
  intro d hd hne
  refine (T.q d).2 fun a ha hRa hoka=>?_
  exact I.dom C hoka (C.d1 d c a hd hne ha hRa)
 refine ⟨?_,?_,?_,?_,?_,?_,?_⟩
 ·rintro b (rfl | hb)
  ·rw [up_c];exact ⟨hR,hc,okm _ T.ok,hlt⟩
  ·by_cases e:b=c
   ·subst e;rw [up_c];exact ⟨hR,hc,okm _ T.ok,hlt⟩
   ·rw [up_ne b e]
    obtain ⟨h1,h2,h3,h4⟩:=I.pr b hb
    exact ⟨h1,h2,okm _ h3,h4⟩
 ·intro b hRb hb0 hlt
  by_cases e:r b=k
  ·exact .inl (C.inj b c hRb hR (by omega))
  ·exact .inr (I.all b hRb hb0 (by omega))
 ·rintro b (rfl | hb)
  ·exact okm _ hfok
  ·exact okm _ (I.fok b hb)
 ·intro b hb x hx
  have hx' : ∀ a,E a b→R a→Ok Pr a→Anc o x a:=fun a h1 h2 h3=>mono a h3 x (hx a h1 h2 (okm a h3))
  by_cases e:b=c
  ·subst e
   rw [up_c,iB hq]
   exact (T.q x).2 hx'
  ·have hpb:Pr b:=hb.resolve_left e
   rw [up_ne b e]
   obtain ⟨h1,h2,h3,h4⟩:=I.pr b hpb
   have hxo:=I.K b hpb x hx'
   refine stay (o b) h3 x hxo fun hco=>?_
   rcases Anc.total hxo hco with h5 | h5
   ·-- x above c: by the one ahead of b
    obtain ⟨g1,g2,g3⟩:=C.hf b h1 h2
    have hcf2:=I.FP b hpb c hco (by omega)
    have hxf:=hx (f b) g2 g1 (okm _ (I.fok b hpb))
    rcases (I.below (hpc _ h3 hco) hq hcf2 (I.fok b hpb)).1 hxf with ⟨_,h6⟩ | h6
    ·exact .inl h6
    ·exact .inr h6
   ·exact .inl h5
 ·intro b hb y hy hky
  by_cases e:b=c
  ·subst e
   rw [up_c,iB hq] at hy
   exact (iB hcf).2 (hy.trans hqf)
  ·have hpb:Pr b:=hb.resolve_left e
   rw [up_ne b e] at hy
   obtain ⟨h1,h2,h3,h4⟩:=I.pr b hpb
   have hyf:=I.FP b hpb y (mono _ h3 y hy) (by omega)
   refine stay (f b) (I.fok b hpb) y hyf fun hcf2=>?_
   rcases Anc.total hyf hcf2 with h5 | h5
   ·exfalso
    have:=(I.anc h5 (.inr (hpc _ (I.fok b hpb) hcf2))).2
    rcases this with e2 | e2
    ·subst e2;omega
    ·omega
   ·exact .inl h5
 ·intro b hb hlt
  by_cases e:b=c
  ·subst e
   rw [up_c]
   exact (iB hcf).2 hqf
  ·have hpb:Pr b:=hb.resolve_left e
   rw [up_ne b e]
   obtain ⟨h1,h2,h3,h4⟩:=I.pr b hpb
   obtain ⟨g1,g2,g3⟩:=C.hf b h1 h2
   have hbk:r b<k:=by
    rcases Nat.lt_or_ge (r b) k with h | h
    ·exact h
    ·exact absurd (C.inj b c h1 hR (by omega)) e
   have h5:=I.FP2 b hpb hbk
   refine (iB fun hcf2=>?_).2 h5
   have:=(I.anc hcf2 (I.fok b hpb)).2
   rcases this with e2 | e2
   ·rw [←e2] at g3;omega
   ·omega
 ·intro b hb d hd hne
  by_cases e:b=c
  ·subst e
   rw [up_c,iB hq]
   exact domq d hd hne
  ·have hpb:Pr b:=hb.resolve_left e
   rw [up_ne b e]
   obtain ⟨h1,h2,h3,h4⟩:=I.pr b hpb
   have hdo:=I.S b hpb d hd hne
   refine stay (o b) h3 d hdo fun hco=>?_
   rcases Anc.total hdo hco with h5 | h5
   ·have hpcc:=hpc _ h3 hco
    rcases (I.anc h5 (.inr hpcc)).2 with e2 | e2
    ·subst e2;exact .inl .self
    ·exact .inr (domq d (domc (r b) b (Nat.le_refl _) (.inr hpb) (.up h2 hco) d hd e2) fun e3=>by subst e3;omega)
   ·exact .inl h5
theorem Inv.again (I:Inv R r E f D k o Pr) (hk : ∀ b,R b→r b<k):Inv R r E f D 0 o Pr:=by
 refine ⟨I.pr,fun b hR h0 h=>I.all b hR h0 (hk b hR),I.fok,I.K,fun b hb y hy _=>?_,fun b _ h=>absurd h (by omega),I.S⟩
 exact hy.trans (I.FP2 b hb (hk b (I.pr b hb).1))
theorem Inv.start:Inv R r E f D 0 o (fun _=>False):=
 ⟨fun _ h=>h.elim,fun _ _ _ h=>absurd h (by omega),fun _ h=>h.elim,fun _ h=>h.elim,fun _ h=>h.elim,fun _ h=>h.elim,fun _ h=>h.elim⟩
theorem Inv.Hf (I:Inv R r E f D k o Pr) {c q:Nat} (T:Turn R r E o Pr c q) (hp:Pr c):q=o c∨r q<r (o c):=by
 have:=I.K c hp q ((T.q q).1 .self)
 exact (I.anc this (I.pr c hp).2.2.1).2
end
end Go.Proofs.Ytfelpjfopgiabaa.Chk
namespace Go.Proofs.Ytfelpjfopgiabaa
open Go Go.Lft Chk
theorem Br {β:Type} {f k:Nat→β→β} {n:Nat} (I:β→Prop) (h : ∀ i x,i<n→I x→f i x=k i x) (hI : ∀ i x,i<n→I x→I (f i x)) {x:β} (hx:I x):up f n x=up k n x:=by
 have key : ∀ m,m≤n→up f m x=up k m x∧I (up f m x):=by
  intro m
  induction m with
  | zero=>exact fun _=>⟨rfl,hx⟩
  | succ m ih=>
   intro hm
   obtain ⟨h1,h2⟩:=ih (by omega)
   exact ⟨by rw [up,up,←h1,h m _ (by omega) h2],hI _ _ (by omega) h2⟩
 exact (key n (Nat.le_refl _)).1
theorem qw {nx nx':Int→List Int} {m:Nat} (hnx : ∀ a:Int,0≤a→a<m→nx a=nx' a∧∀ y∈nx a,0≤y∧y<m) : ∀ (n:Nat) (a:Int) (s:List Bool × List Int),0≤a→a<m→ib nx n a s=ib nx' n a s
 | 0,_,_,_,_=>rfl
 | n+1,a,s,h0,h1=>by
  obtain ⟨e,hr⟩:=hnx a h0 h1
  rw [iX,iX,←e]
  have:up (cg nx n a) (nx a).length (s.1.set a.toNat true,s.2)=up (cg nx' n a) (nx a).length (s.1.set a.toNat true,s.2):=by
   refine Br (fun _=>True) (fun i x hi _=>?_) (fun _ _ _ _=>trivial) trivial
   unfold cg
   rw [←e]
   obtain ⟨g0,g1⟩:=hr _ (bS hi)
   rw [qw hnx n _ x g0 g1]
  rw [this]
theorem tT {g:Gr} {a y:Int} (h:y∈jK g a):0≤y∧y<g.length:=by
 have:=(gx.1 (fM.1 h)).1;omega
theorem zX {g:Gr} {a:Int} (h0:0≤a) (h1:a<g.length):nx (cP g) a=jK g a:=by
 unfold nx
 rw [sN (by omega),Int.toNat_of_nonneg h0]
theorem Ca {g:Gr}:bc g=jC (jK g) g.length:=by
 unfold bc jC
 split
 ·rfl
 ·rw [qw (m:=g.length) (fun a h0 h1=>⟨zX h0 h1,fun y hy=>tT (by rwa [zX h0 h1] at hy)⟩) _ _ _ (by omega) (by omega)]
structure Ord (g:Gr) (order:List Int):Prop where
 nodup:order.Nodup
 mem : ∀ x:Nat,(x:Int)∈order↔Re g (-1) x
 rng : ∀ x∈order,0≤x∧x<g.length
 head:order[0]? = some 0
 par : ∀ x∈order,x≠0→∃ p∈order,kY g p x=true∧order.idxOf p<order.idxOf x
 ret : ∀ x∈order,∀ y∈order,kY g x y=true→order.idxOf y≤order.idxOf x→∃ l,Adv (jK g) l y x∧∀ u v,Bef l u v→order.idxOf v<order.idxOf u
theorem p7 {l:List Int} (hn:l.Nodup) {u v:Int} (h:Bef l u v):l.reverse.idxOf v<l.reverse.idxOf u:=by
 obtain ⟨p,q,rfl,hv⟩:=h
 have hu:u∉q:=by
  have:=(List.nodup_append.1 hn).2.1
  exact (List.nodup_cons.1 this).1
 rw [List.reverse_append,List.reverse_cons,List.append_assoc]
 have h1:(q.reverse++([u]++p.reverse)).idxOf v<q.reverse.length:=by
  rw [List.idxOf_append,if_pos (by simpa using hv)]
  exact List.idxOf_lt_length_of_mem (by simpa using hv)
 have h2:(q.reverse++([u]++p.reverse)).idxOf u=q.reverse.length:=by
  rw [List.idxOf_append,if_neg (by simpa using hu)]
  simp
 omega
theorem iD {g:Gr} (hg:0<g.length):Ord g (bc g):=by
 have hT:=uE (nx:=jK g) (m:=g.length) (fun a _ _ y hy=>tT hy) g.length 0 (List.replicate g.length false,[]) (by omega) (by omega) (by simp) (au (by simpa using hg)) (by simp [cR])
 have ho:bc g=(ib (jK g) g.length 0 (List.replicate g.length false,[])).2.reverse:=by
  rw [Ca,jC,if_neg (by omega)]
 obtain ⟨new,T⟩:=hT
 have hout:=T.out
 simp only [List.nil_append] at hout
 rw [ho,hout]
 have hv0 : ∀ x:Int,¬vis (List.replicate g.length false,([]:List Int)) x:=by
  intro x h
  unfold vis at h
  simp only at h
  rcases Nat.lt_or_ge x.toNat g.length with h1 | h1
  ·rw [au h1] at h;cases h
  ·rw [aV (by simpa using h1)] at h;cases h
 have hvis : ∀ x,0≤x→(vis (ib (jK g) g.length 0 (List.replicate g.length false,[])) x↔x∈new):=fun x hx=>by
  rw [T.visd x hx]
  exact ⟨fun h=>h.resolve_left (hv0 x),.inr⟩
 obtain ⟨t,ht⟩:=T.last
 have h0:(0:Int)∈new:=by rw [ht];simp
 have hre : ∀ x∈new,Re g (-1) x.toNat:=by
  intro x hx
  have:=T.desc x hx
  clear hx
  induction this with
  | self=>exact .root hg (by decide)
  | step _ h1 h2 ih=>
   have hpr:=T.fresh _ h2.mem.2
   have hqr:=T.fresh _ h2.mem.1
   have he:=fM.1 h1
   refine .step ih ?_ (by omega)
   rwa [Int.toNat_of_nonneg hpr.2.1,Int.toNat_of_nonneg hqr.2.1]
 refine ⟨by simpa [List.Nodup,List.pairwise_reverse,ne_comm] using T.nodup,fun x=>?_,fun x hx=>(T.fresh x (by simpa using hx)).2,?_,?_,?_⟩
 ·rw [List.mem_reverse]
  constructor
  ·intro h;simpa using hre x h
  ·intro h
   induction h with
   | root _ _=>exact h0
   | step _ he _ ih=>
    exact (hvis _ (by omega)).1 (T.clos _ ih _ (fM.2 he))
 ·rw [ht,List.reverse_append];rfl
 ·intro x hx hne
  obtain ⟨p,hp,h1,h2⟩:=T.par x (by simpa using hx) hne
  exact ⟨p,by simpa using hp,fM.1 h1,p7 T.nodup h2⟩
 ·intro x hx y hy he hle
  rcases T.ret x (by simpa using hx) y (fM.2 he) (by simpa using hy) with h | h
  ·have:=p7 T.nodup h
   omega
  ·exact ⟨new,h,fun u v huv=>p7 T.nodup huv⟩
theorem qo {n:Nat} {order:List Int} (hn:order.Nodup) (hr : ∀ x∈order,0≤x∧x<(n:Int)) {x:Nat} (hx:x<n):nth (eM n order) x=if (x:Int)∈order then (order.idxOf (x:Int):Int) else -1:=by
 have key : ∀ k,k≤order.length→(up (fun i l=>l.set (nth order i).toNat (i:Int)) k (List.replicate n (-1))).length=n∧nth (up (fun i l=>l.set (nth order i).toNat (i:Int)) k (List.replicate n (-1))) x=if (x:Int)∈order.take k then (order.idxOf (x:Int):Int) else -1:=by
  intro k
  induction k with
  | zero=>intro _;exact ⟨by simp [up],by rw [up,au hx];simp⟩
  | succ k ih=>
   intro hk
   obtain ⟨h1,h2⟩:=ih (by omega)
   rw [up]
   refine ⟨by simpa using h1,?_⟩
   rw [aJ (by omega),List.take_succ_eq_append_getElem (by omega),h2]
   have hmem:order[k]∈order:=List.getElem_mem _
   have hrk:=hr _ hmem
   rw [aq (show k<order.length by omega)]
   by_cases e:order[k].toNat=x
   ·have e2:order[k]=(x:Int):=by omega
    rw [if_pos e,if_pos (by rw [←e2];exact List.mem_append_right _ (List.mem_singleton.2 rfl)),←e2,List.Nodup.idxOf_getElem hn]
   ·rw [if_neg e]
    have e2:¬(x:Int)=order[k]:=fun h=>e (by omega)
    simp only [List.mem_append,List.mem_singleton,e2,or_false]
 have:=(key order.length (Nat.le_refl _)).2
 rw [List.take_of_length_le (Nat.le_refl _)] at this
 exact this
end Go.Proofs.Ytfelpjfopgiabaa
namespace Go.Proofs.Ytfelpjfopgiabaa
open Go Go.Lft Chk
def st (out:List Int):Nat→Nat:=fun b=>(nth out b).toNat
def pd (out:List Int):Nat→Prop:=fun b=>b<out.length∧0≤nth out b
def rk (g:Gr) (x:Nat):Nat:=(bc g).idxOf (x:Int)
def Eg (g:Gr) (a b:Nat):Prop:=kY g a b=true
def Dm (g:Gr) (d b:Nat):Prop:=domC g d b=true
def Rg (g:Gr) (x:Nat):Prop:=Re g (-1) x
section
variable {g:Gr}
theorem zx {x:Nat} (h:Rg g x):rk g x<(bc g).length:=List.idxOf_lt_length_of_mem (((iD (Nat.lt_of_le_of_lt (Nat.zero_le _) h.lt)).mem x).2 h)
theorem Rg.pos {x:Nat} (h:Rg g x):0<g.length:=Nat.lt_of_le_of_lt (Nat.zero_le _) h.lt
theorem DF {x:Nat} (h:Rg g x):rk g x<g.length:=Nat.lt_of_lt_of_le (zx h) oe
theorem yX {a b:Nat} (ha:Rg g a) (hb:Rg g b) (h:rk g a=rk g b):a=b:=by
 have O:=iD ha.pos
 have h1:=List.getElem_idxOf (zx ha)
 have h2:=List.getElem_idxOf (zx hb)
 have:(a:Int)=(b:Int):=by rw [←h1,←h2];congr 1
 omega
theorem qY (hg:0<g.length):rk g 0=0:=by
 have O:=iD hg
 unfold rk
 have hl:0<(bc g).length:=by
  have:=O.head
  rcases Nat.eq_zero_or_pos (bc g).length with h | h
  ·rw [List.eq_nil_of_length_eq_zero h] at this;cases this
  ·exact h
 have h0:=O.head
 rw [List.getElem?_eq_getElem hl] at h0
 have h1:(bc g)[0]=0:=Option.some.inj h0
 have:=List.Nodup.idxOf_getElem O.nodup 0 hl
 rw [h1] at this
 exact this
theorem pG {x:Nat} (h:Rg g x):nth (eM g.length (bc g)) x=(rk g x:Int):=by
 have O:=iD h.pos
 rw [qo O.nodup O.rng h.lt,if_pos ((O.mem x).2 h)];rfl
theorem yt {x:Nat} (hx:x<g.length) (h:¬Rg g x):nth (eM g.length (bc g)) x=-1:=by
 have O:=iD (g:=g) (by omega)
 rw [qo O.nodup O.rng hx,if_neg fun e=>h ((O.mem x).1 e)]
theorem EJ (hg:0<g.length) : ∃ f:Nat→Nat,∀ x,Rg g x→x≠0→Rg g (f x)∧Eg g (f x) x∧rk g (f x)<rk g x:=by
 have O:=iD hg
 have : ∀ x,∃ p,Rg g x→x≠0→Rg g p∧Eg g p x∧rk g p<rk g x:=by
  intro x
  by_cases h:Rg g x∧x≠0
  ·obtain ⟨p,hp,h1,h2⟩:=O.par x ((O.mem x).2 h.1) (by omega)
   have hr:=O.rng p hp
   have e:((p.toNat:Nat):Int)=p:=Int.toNat_of_nonneg hr.1
   refine ⟨p.toNat,fun _ _=>⟨(O.mem _).1 (by rw [e];exact hp),by unfold Eg;rw [e];exact h1,by unfold rk;rw [e];exact h2⟩⟩
  ·exact ⟨0,fun h1 h2=>absurd ⟨h1,h2⟩ h⟩
 exact ⟨fun x=>(this x).choose,fun x=>(this x).choose_spec⟩
theorem Hg (hg:0<g.length) {f:Nat→Nat} (hf : ∀ x,Rg g x→x≠0→Rg g (f x)∧Eg g (f x) x∧rk g (f x)<rk g x):Ch (Rg g) (rk g) (Eg g) f (Dm g) where
 inj:=fun a b ha hb h=>yX ha hb h
 R0:=.root hg (by decide)
 r0:=qY hg
 hf:=hf
 d1:=fun d b a hd hne he ha=>by
  obtain ⟨h1,h2,h3⟩:=mc.1 hd
  exact mc.2 ⟨h1,ha,fun h=>h3 (.step h he (by omega))⟩
 d0:=fun d hd=>by
  obtain ⟨h1,h2,h3⟩:=mc.1 hd
  rcases Nat.eq_zero_or_pos d with h | h
  ·exact h
  ·exact absurd (.root hg (by omega)) h3
structure Good (g:Gr) (f:Nat→Nat) (k:Nat) (out:List Int):Prop where
 len:out.length=g.length
 rng : ∀ b,b<g.length→nth out b=-1∨(0≤nth out b∧nth out b<g.length)
 inv:Inv (Rg g) (rk g) (Eg g) f (Dm g) k (st out) (pd out)
variable {f:Nat→Nat} {k:Nat} {out:List Int}
theorem Good.wx (G:Good g f k out) (C:Ch (Rg g) (rk g) (Eg g) f (Dm g)) {x:Nat} (h:Ok (pd out) x):Rg g x∧x<g.length:=⟨G.inv.okR C h,(G.inv.okR C h).lt⟩
theorem mJ (G:Good g f k out) (C:Ch (Rg g) (rk g) (Eg g) f (Dm g)) : ∀ (fuel a b:Nat),Ok (pd out) a→Ok (pd out) b→rk g a+rk g b<fuel→
  ∃ c:Nat,jm out (eM g.length (bc g)) fuel a b=some (c:Int)∧Ok (pd out) c∧∀ x,Anc (st out) x c↔Anc (st out) x a∧Anc (st out) x b
 | 0,a,b,_,_,h=>by omega
 | fuel+1,a,b,ha,hb,h=>by
  obtain ⟨ra,la⟩:=G.wx C ha
  obtain ⟨rb,lb⟩:=G.wx C hb
  have hg:=ra.pos
  have hnl:(eM g.length (bc g)).length=g.length:=by rw [eM,uY List.length (fun _ _=>by simp)];simp
  have hol:=G.len
  rw [jm,if_pos (by omega),Int.toNat_natCast,Int.toNat_natCast,pG ra,pG rb]
  have step : ∀ a b:Nat,Ok (pd out) a→Ok (pd out) b→rk g b<rk g a→a≠0∧nth out a=((st out a:Nat):Int)∧Ok (pd out) (st out a)∧rk g (st out a)<rk g a∧∀ x,Anc (st out) x (st out a)∧Anc (st out) x b↔Anc (st out) x a∧Anc (st out) x b:=by
   intro a b ha hb hlt
   have ha0:a≠0:=fun e=>by subst e;rw [qY hg] at hlt;omega
   have hpa:=ha.resolve_left ha0
   obtain ⟨_,_,h3,h4⟩:=G.inv.pr a hpa
   refine ⟨ha0,(Int.toNat_of_nonneg hpa.2).symm,h3,h4,fun x=>⟨fun ⟨h5,h6⟩=>⟨.up ha0 h5,h6⟩,fun ⟨h5,h6⟩=>⟨?_,h6⟩⟩⟩
   rcases (lN ha0).1 h5 with rfl | h7
   ·have:=(G.inv.anc h6 hb).2
    rcases this with e | e
    ·subst e;omega
    ·omega
   ·exact h7
  by_cases h1:rk g b<rk g a
  ·rw [if_pos (by omega)]
   obtain ⟨ha0,e,h3,h4,h5⟩:=step a b ha hb h1
   rw [e]
   obtain ⟨c,h6,h7,h8⟩:=mJ G C fuel (st out a) b h3 hb (by omega)
   exact ⟨c,h6,h7,fun x=>(h8 x).trans (h5 x)⟩
  ·rw [if_neg (by omega)]
   by_cases h2:rk g a<rk g b
   ·rw [if_pos (by omega)]
    obtain ⟨hb0,e,h3,h4,h5⟩:=step b a hb ha h2
    rw [e]
    obtain ⟨c,h6,h7,h8⟩:=mJ G C fuel a (st out b) ha h3 (by omega)
    exact ⟨c,h6,h7,fun x=>(h8 x).trans (by rw [and_comm,h5 x,and_comm])⟩
   ·rw [if_neg (by omega)]
    have e:a=b:=yX ra rb (by omega)
    subst e
    exact ⟨a,rfl,ha,fun x=>by simp⟩
def Bst (out:List Int) (best:Int) (Q:Nat→Prop):Prop:=
 (best=-1∧∀ a,¬Q a)∨∃ c:Nat,best=(c:Int)∧Ok (pd out) c∧(∃ a,Q a)∧∀ x,Anc (st out) x c↔∀ a,Q a→Anc (st out) x a
def Cons (g:Gr) (out:List Int) (a:Nat):Prop:=Rg g a∧Ok (pd out) a
theorem nu {best:Int} {Q Q':Nat→Prop} (h : ∀ a,Q a↔Q' a) (b:Bst out best Q):Bst out best Q':=by
 have:Q=Q':=funext fun a=>propext (h a)
 rw [←this];exact b
theorem oN (G:Good g f k out) (C:Ch (Rg g) (rk g) (Eg g) f (Dm g)) : ∀ (l:List Int) (best:Int) (Q:Nat→Prop),Bst out best Q→(∀ a∈l,0≤a∧a<(g.length:Int))→
  ∃ best',bstS out (eM g.length (bc g)) g.length l best=some best'∧Bst out best' fun a=>Q a∨((a:Int)∈l∧Cons g out a)
 | [],best,Q,hB,_=>⟨best,rfl,nu (fun a=>by simp) hB⟩
 | a::l,best,Q,hB,hl=>by
  obtain ⟨h0,h1⟩:=hl a (List.mem_cons_self ..)
  have hl':=fun x hx=>hl x (List.mem_cons_of_mem _ hx)
  obtain ⟨n,rfl⟩:=Int.eq_ofNat_of_zero_le h0
  have hn:n<g.length:=by omega
  have hol:=G.len
  rw [bstS,if_pos ⟨h0,h1⟩,Int.toNat_natCast]
  have hcons:(nth (eM g.length (bc g)) n<0∨((n:Int)≠0∧nth out n<0))↔¬Cons g out n:=by
   by_cases hr:Rg g n
   ·rw [pG hr]
    constructor
    ·rintro (h | ⟨h2,h3⟩)
     ·omega
     ·rintro ⟨_,h4 | h4⟩
      ·omega
      ·have:=h4.2;omega
    ·intro h
     right
     refine ⟨fun e=>h ⟨hr,.inl (by omega)⟩,?_⟩
     rcases Int.lt_or_le (nth out n) 0 with h2 | h2
     ·exact h2
     ·exact absurd ⟨hr,.inr ⟨by omega,h2⟩⟩ h
   ·rw [yt hn hr]
    exact ⟨fun _ h=>hr h.1,fun _=>.inl (by omega)⟩
  by_cases hc:Cons g out n
  ·rw [if_neg fun h=>hcons.1 h hc]
   rcases hB with ⟨rfl,hQ⟩ | ⟨c,rfl,hok,hex,hq⟩
   ·rw [if_pos (by decide)]
    obtain ⟨b',h2,h3⟩:=oN G C l n (fun a=>a=n) (.inr ⟨n,rfl,hc.2,⟨n,rfl⟩,fun x=>by simp⟩) hl'
    refine ⟨b',h2,nu (fun a=>?_) h3⟩
    constructor
    ·rintro (rfl | ⟨h4,h5⟩)
     ·exact .inr ⟨List.mem_cons_self ..,hc⟩
     ·exact .inr ⟨List.mem_cons_of_mem _ h4,h5⟩
    ·rintro (h4 | ⟨h4,h5⟩)
     ·exact absurd h4 (hQ a)
     ·rcases List.mem_cons.1 h4 with h4 | h4
      ·exact .inl (by omega)
      ·exact .inr ⟨h4,h5⟩
   ·rw [if_neg (by omega)]
    obtain ⟨rc,_⟩:=G.wx C hok
    obtain ⟨d,h2,h3,h4⟩:=mJ G C (2*g.length+2) c n hok hc.2 (by have:=DF rc;have:=DF hc.1;omega)
    rw [h2]
    simp only [Option.bind_some]
    obtain ⟨b',h5,h6⟩:=oN G C l d (fun a=>Q a∨a=n) (.inr ⟨d,rfl,h3,⟨n,.inr rfl⟩,fun x=>by
     rw [h4,hq]
     constructor
     ·rintro ⟨h7,h8⟩ a (ha | rfl)
      ·exact h7 a ha
      ·exact h8
     ·intro h7
      exact ⟨fun a ha=>h7 a (.inl ha),h7 n (.inr rfl)⟩⟩) hl'
    refine ⟨b',h5,nu (fun a=>?_) h6⟩
    constructor
    ·rintro ((h7 | rfl) | ⟨h7,h8⟩)
     ·exact .inl h7
     ·exact .inr ⟨List.mem_cons_self ..,hc⟩
     ·exact .inr ⟨List.mem_cons_of_mem _ h7,h8⟩
    ·rintro (h7 | ⟨h7,h8⟩)
     ·exact .inl (.inl h7)
     ·rcases List.mem_cons.1 h7 with h7 | h7
      ·exact .inl (.inr (by omega))
      ·exact .inr ⟨h7,h8⟩
  ·rw [if_pos (hcons.2 hc)]
   obtain ⟨b',h2,h3⟩:=oN G C l best Q hB hl'
   refine ⟨b',h2,nu (fun a=>?_) h3⟩
   constructor
   ·rintro (h4 | ⟨h4,h5⟩)
    ·exact .inl h4
    ·exact .inr ⟨List.mem_cons_of_mem _ h4,h5⟩
   ·rintro (h4 | ⟨h4,h5⟩)
    ·exact .inl h4
    ·rcases List.mem_cons.1 h4 with h6 | h6
     ·exact absurd ((show a=n by omega)▸h5) hc
     ·exact .inr ⟨h6,h5⟩
theorem AL (G:Good g f k out) (C:Ch (Rg g) (rk g) (Eg g) f (Dm g)) {c:Nat} (hR:Rg g c) (hc:c≠0) (hk:rk g c=k) :
  ∃ q:Nat,bstS out (eM g.length (bc g)) g.length (nth (cU g) c) (-1)=some (q:Int)∧Turn (Rg g) (rk g) (Eg g) (st out) (pd out) c q:=by
 have hlt:=hR.lt
 obtain ⟨best,h1,h2⟩:=oN G C (nth (cU g) c) (-1) (fun _=>False) (.inl ⟨rfl,fun _ h=>h⟩) (pL (fun e he=>(nD he).1) (fun i x hx=>by
  rcases Nat.lt_or_ge i g.length with hi | hi
  ·rw [au hi] at hx;cases hx
  ·rw [aV (by simpa using hi)] at hx;cases hx) c)
 have hm : ∀ a:Nat,(a:Int)∈nth (cU g) c↔Eg g a c:=fun a=>by
  have:=AS (g:=g) (a:=a) (b:=c) ⟨by omega,by omega⟩
  rwa [Int.toNat_natCast] at this
 obtain ⟨f1,f2,f3⟩:=C.hf c hR hc
 rcases h2 with ⟨_,h3⟩ | ⟨q,rfl,hok,_,hq⟩
 ·exact absurd (.inr ⟨(hm _).2 f2,f1,G.inv.fc C hR hc hk⟩) (h3 (f c))
 ·refine ⟨q,h1,hok,fun x=>?_⟩
  rw [hq]
  constructor
  ·intro h a h4 h5 h6
   exact h a (.inr ⟨(hm a).2 h4,h5,h6⟩)
  ·rintro h a (h4 | ⟨h4,h5,h6⟩)
   ·exact h4.elim
   ·exact h a ((hm a).1 h4) h5 h6
end
end Go.Proofs.Ytfelpjfopgiabaa
namespace Go.Proofs.Ytfelpjfopgiabaa
open Go Go.Lft Chk
def mH (w:Nat→Nat):Nat→Nat
 | 0=>0
 | n+1=>mH w n+w n
theorem Cn {w w':Nat→Nat} : ∀ {n:Nat},(∀ b,b<n→w' b≤w b)→mH w' n≤mH w n
 | 0,_=>Nat.le_refl _
 | n+1,h=>Nat.add_le_add (Cn fun b hb=>h b (by omega)) (h n (by omega))
theorem C9 {w w':Nat→Nat} {c:Nat} : ∀ {n:Nat},(∀ b,b<n→w' b≤w b)→c<n→w' c<w c→mH w' n<mH w n
 | 0,_,h,_=>by omega
 | n+1,h,hc,hlt=>by
  rcases Nat.lt_or_ge c n with h1 | h1
  ·have:=C9 (n:=n) (fun b hb=>h b (by omega)) h1 hlt
   have:=h n (by omega)
   simp only [mH];omega
  ·obtain rfl:c=n:=by omega
   have:=Cn (n:=c) fun b hb=>h b (by omega)
   simp only [mH];omega
theorem tX {w:Nat→Nat} {m:Nat} : ∀ {n:Nat},(∀ b,b<n→w b≤m)→mH w n≤n*m
 | 0,_=>by simp [mH]
 | n+1,h=>by
  have:=tX (n:=n) fun b hb=>h b (by omega)
  have:=h n (by omega)
  rw [mH,Nat.succ_mul];omega
section
variable {g:Gr} {f:Nat→Nat} {k:Nat} {out:List Int}
def wt (g:Gr) (out:List Int) (b:Nat):Nat:=if nth out b<0 then g.length else rk g (st out b)
def mu (g:Gr) (out:List Int):Nat:=mH (wt g out) g.length
theorem Good.set (G:Good g f k out) (C:Ch (Rg g) (rk g) (Eg g) f (Dm g)) {c q:Nat} (hR:Rg g c) (hc:c≠0) (hk:rk g c=k) (T:Turn (Rg g) (rk g) (Eg g) (st out) (pd out) c q) (ch:Bool) :
  Good g f (k+1) (setS out ch c q).1∧mu g (setS out ch c q).1≤mu g out∧((setS out ch c q).2=true→ch=true∨mu g (setS out ch c q).1<mu g out)∧((setS out ch c q).2=false→ch=false∧(setS out ch c q).1=out∧st out c=q∧pd out c):=by
 have hlt:=hR.lt
 have hol:=G.len
 obtain ⟨hq,hqn⟩:=G.wx C T.ok
 have I:=G.inv.turn C hR hc hk T
 by_cases e:nth out c=q
 ·have hs:setS out ch c q=(out,ch):=by simp [setS,e]
  rw [hs]
  have hst:upd (st out) c q=st out:=by
   funext b;unfold upd
   split
   ·rename_i hb;subst hb;simp [st,e]
   ·rfl
  have hpd:add (pd out) c=pd out:=by
   funext b
   refine propext ⟨fun h=>?_,.inr⟩
   rcases h with rfl | h
   ·exact ⟨by omega,by omega⟩
   ·exact h
  rw [hst,hpd] at I
  exact ⟨⟨G.len,G.rng,I⟩,Nat.le_refl _,.inl,fun h=>⟨h,rfl,by simp [st,e],by omega,by omega⟩⟩
 ·have hs:setS out ch c q=(out.set c q,true):=by simp [setS,e]
  rw [hs]
  have hn : ∀ b,b<g.length→nth (out.set c q) b=if c=b then (q:Int) else nth out b:=fun b hb=>aJ (by omega)
  have hst:st (out.set c q)=upd (st out) c q:=by
   funext b;unfold upd st
   rcases Nat.lt_or_ge b out.length with hb | hb
   ·rw [aJ hb]
    by_cases h:c=b
    ·rw [if_pos h,if_pos h.symm];simp
    ·rw [if_neg h,if_neg (Ne.symm h)]
   ·rw [aV (by simpa using hb),aV hb,if_neg (by omega)]
  have hpd:pd (out.set c q)=add (pd out) c:=by
   funext b
   refine propext ?_
   unfold pd add
   rw [List.length_set]
   constructor
   ·rintro ⟨h1,h2⟩
    rw [aJ h1] at h2
    by_cases h:c=b
    ·exact .inl h.symm
    ·rw [if_neg h] at h2;exact .inr ⟨h1,h2⟩
   ·rintro (rfl | ⟨h1,h2⟩)
    ·exact ⟨by omega,by rw [aJ (by omega),if_pos rfl];omega⟩
    ·refine ⟨h1,?_⟩
     rw [aJ h1]
     split
     ·omega
     ·exact h2
  have hw : ∀ b,b<g.length→wt g (out.set c q) b≤wt g out b∧(b=c→wt g (out.set c q) b<wt g out b):=by
   intro b hb
   by_cases h:c=b
   ·subst h
    have e1:wt g (out.set c q) c=rk g q:=by
     unfold wt
     rw [hn c hb,if_pos rfl,if_neg (by omega),hst];simp [upd]
    have e2:rk g q<wt g out c:=by
     unfold wt
     split
     ·exact DF hq
     ·rename_i h1
      have hp:pd out c:=⟨by omega,by omega⟩
      rcases G.inv.Hf T hp with h2 | h2
      ·exfalso
       have:=Int.toNat_of_nonneg hp.2
       unfold st at h2
       omega
      ·exact h2
    omega
   ·have e1:wt g (out.set c q) b=wt g out b:=by
     unfold wt st
     rw [hn b hb,if_neg h]
    exact ⟨by omega,fun e=>absurd e.symm h⟩
  have hmu:mu g (out.set c q)<mu g out:=C9 (fun b hb=>(hw b hb).1) hlt ((hw c hlt).2 rfl)
  refine ⟨⟨by simpa using hol,fun b hb=>?_,by rw [hst,hpd];exact I⟩,by show mu g (out.set c q)≤_;omega,fun _=>.inr hmu,fun h=>by cases h⟩
  rw [hn b hb]
  split
  ·right;omega
  ·exact G.rng b hb
theorem rU (C:Ch (Rg g) (rk g) (Eg g) f (Dm g)) : ∀ (l:List Int) (k:Nat) (out:List Int) (ch:Bool),l=(bc g).drop k→1≤k→k≤(bc g).length→Good g f k out→
  ∃ out' ch',oF (eM g.length (bc g)) (cU g) g.length l (out,ch)=some (out',ch')∧Good g f (bc g).length out'∧mu g out'≤mu g out∧(ch'=true→ch=true∨mu g out'<mu g out)∧
   (ch'=false→ch=false∧out'=out∧∀ c:Nat,(c:Int)∈l→pd out c∧Turn (Rg g) (rk g) (Eg g) (st out) (pd out) c (st out c))
 | [],k,out,ch,hl,_,hk,G=>by
  have hk2:(bc g).length≤k:=by
   have:=congrArg List.length hl
   simp only [List.length_nil,List.length_drop] at this;omega
  obtain rfl:k=(bc g).length:=by omega
  exact ⟨out,ch,rfl,G,Nat.le_refl _,.inl,fun h=>⟨h,rfl,by simp⟩⟩
 | b::l,k,out,ch,hl,h1,hk,G=>by
  have hlt:k<(bc g).length:=by
   have:=congrArg List.length hl
   simp only [List.length_cons,List.length_drop] at this;omega
  rw [List.drop_eq_getElem_cons hlt] at hl
  obtain ⟨hb,hl2⟩:=List.cons.inj hl
  have hmem:b∈bc g:=by rw [hb];exact List.getElem_mem _
  have hg:0<g.length:=by have:=oe (g:=g);omega
  have O:=iD hg
  have hr:=O.rng b hmem
  obtain ⟨c,rfl⟩:=Int.eq_ofNat_of_zero_le hr.1
  have hR:Rg g c:=(O.mem c).1 hmem
  have hrk:rk g c=k:=by
   unfold rk;rw [hb,List.Nodup.idxOf_getElem O.nodup]
  have hc0:c≠0:=fun e=>by subst e;rw [qY hg] at hrk;omega
  obtain ⟨q,h3,T⟩:=AL G C hR hc0 hrk
  rw [oF,if_pos hr,Int.toNat_natCast]
  simp only
  rw [h3]
  simp only [Option.bind_some]
  obtain ⟨g1,g2,g3,g4⟩:=G.set C hR hc0 hrk T ch
  have e:setS out ch c q=((setS out ch c q).1,(setS out ch c q).2):=rfl
  rw [e]
  generalize hs1:(setS out ch c q).1=o1 at g1 g2 g3 g4
  generalize hs2:(setS out ch c q).2=c1 at g3 g4
  obtain ⟨out',ch',k1,k2,k3,k4,k5⟩:=rU C l (k+1) o1 c1 hl2 (by omega) (by omega) g1
  refine ⟨out',ch',k1,k2,by omega,fun h=>?_,fun h=>?_⟩
  ·rcases k4 h with h4 | h4
   ·rcases g3 h4 with h5 | h5
    ·exact .inl h5
    ·exact .inr (by omega)
   ·exact .inr (by omega)
  ·obtain ⟨h4,rfl,h6⟩:=k5 h
   obtain ⟨h7,rfl,h8,h9⟩:=g4 h4
   refine ⟨h7,rfl,fun x hx=>?_⟩
   rcases List.mem_cons.1 hx with hx | hx
   ·obtain rfl:x=c:=by omega
    exact ⟨h9,h8▸T⟩
   ·exact h6 x hx
theorem Good.one (hg:0<g.length) (G:Good g f 0 out):Good g f 1 out:=by
 have I:=G.inv
 have h0 : ∀ b,Rg g b→b≠0→¬rk g b<1:=fun b hR hb h=>hb (yX hR (.root hg (by decide)) (by rw [qY hg];omega))
 exact ⟨G.len,G.rng,⟨I.pr,fun b hR hb h=>absurd h (h0 b hR hb),I.fok,I.K,fun b hb y hy _=>I.FP b hb y hy (by omega),fun b hb h=>absurd h (h0 b (I.pr b hb).1 (I.pr b hb).2.1),I.S⟩⟩
structure mC (g:Gr) (f:Nat→Nat) (l:List Int):Prop where
 good:Good g f (bc g).length l
 turn : ∀ c,Rg g c→c≠0→pd l c∧Turn (Rg g) (rk g) (Eg g) (st l) (pd l) c (st l c)
theorem tQ (hg:0<g.length) (C:Ch (Rg g) (rk g) (Eg g) f (Dm g)) : ∀ (fuel:Nat) (out:List Int),Good g f 0 out→mu g out<fuel→
  ∃ l,lr (eM g.length (bc g)) (cU g) g.length ((bc g).drop (min 1 (bc g).length)) fuel out=some l∧mC g f l
 | 0,_,_,h=>by omega
 | fuel+1,out,G,h=>by
  have O:=iD hg
  have hlen:0<(bc g).length:=by
   rcases Nat.eq_zero_or_pos (bc g).length with h | h
   ·have:=O.head;rw [List.eq_nil_of_length_eq_zero h] at this;cases this
   ·exact h
  have hm:min 1 (bc g).length=1:=by omega
  rw [lr,hm]
  obtain ⟨out',ch',k1,k2,k3,k4,k5⟩:=rU C ((bc g).drop 1) 1 out false rfl (Nat.le_refl _) hlen (G.one hg)
  rw [k1]
  simp only [Option.bind_some]
  cases ch' with
  | true=>
   rw [if_pos rfl]
   have:=tQ hg C fuel out' ⟨k2.len,k2.rng,k2.inv.again fun b hb=>zx hb⟩ (by rcases k4 rfl with h1 | h1;cases h1;omega)
   rwa [hm] at this
  | false=>
   rw [if_neg (by simp)]
   obtain ⟨_,rfl,h6⟩:=k5 rfl
   refine ⟨_,rfl,k2,fun c hR hc=>h6 c ?_⟩
   have hmem:=(O.mem c).2 hR
   obtain ⟨i,hi,e⟩:=List.getElem_of_mem hmem
   have hi0:i≠0:=fun h0=>by
    subst h0
    have:=O.head
    rw [List.getElem?_eq_getElem hi] at this
    have:=Option.some.inj this
    omega
   rw [←e]
   refine List.mem_iff_getElem.2 ⟨i-1,by rw [List.length_drop];omega,?_⟩
   rw [List.getElem_drop]
   congr 1
   omega
theorem uC (hg:0<g.length) : ∃ f,Ch (Rg g) (rk g) (Eg g) f (Dm g)∧∃ l,tK g (g.length*g.length+1)=some l∧mC g f l:=by
 obtain ⟨f,hf⟩:=EJ hg
 have C:=Hg hg hf
 refine ⟨f,C,?_⟩
 refine tQ hg C _ _ ⟨by simp,fun b hb=>.inl (au hb),?_⟩ ?_
 ·have:pd (List.replicate g.length (-1))=fun _=>False:=by
   funext b
   refine propext ⟨fun ⟨h1,h2⟩=>?_,fun h=>h.elim⟩
   rw [au (by simpa using h1)] at h2
   omega
  rw [this]
  exact Inv.start
 ·have:=tX (w:=wt g (List.replicate g.length (-1))) (m:=g.length) (n:=g.length) fun b hb=>by
   unfold wt
   rw [au hb,if_pos (by omega)]
   exact Nat.le_refl _
  unfold mu;omega
theorem mC.anc {l:List Int} (I:mC g f l) (C:Ch (Rg g) (rk g) (Eg g) f (Dm g)) {x b:Nat} (hb:Rg g b):Anc (st l) x b↔Dm g x b:=by
 have hok : ∀ b,Rg g b→Ok (pd l) b:=fun b h=>by
  by_cases e:b=0
  ·exact .inl e
  ·exact .inr (I.turn b h e).1
 constructor
 ·intro h
  have hx:=(I.good.wx C (I.good.inv.anc h (hok b hb)).1).1
  refine mc.2 ⟨hx,hb,fun hre=>?_⟩
  have key : ∀ b,Re g x b→¬Anc (st l) x b:=by
   intro b hre
   induction hre with
   | root h1 h2=>intro h;have:=py.1 h;omega
   | step ha he hne ih=>
    rename_i a b
    intro h
    by_cases e:b=0
    ·subst e;have:=py.1 h;omega
    ·have hRb:Rg g b:=.step ha.all he (by omega)
     have h3:=((lN e).1 h).resolve_left (by omega)
     exact ih (((I.turn b hRb e).2.q x).1 h3 a he ha.all (hok a ha.all))
  exact key b hre h
 ·intro h
  exact I.good.inv.dom C (hok b hb) h
end
end Go.Proofs.Ytfelpjfopgiabaa
namespace Go.Proofs.Ytfelpjfopgiabaa
open Go Go.Lft Chk
theorem zI {p:Nat→Bool} {n:Nat}:qt p n=true↔∀ i,i<n→p i=true:=by
 unfold qt
 induction n with
 | zero=>simp [up]
 | succ n ih=>
  rw [up,zY,Bool.and_eq_true,ih]
  constructor
  ·rintro ⟨h1,h2⟩ i hi
   rcases Nat.lt_or_ge i n with h | h
   ·exact h1 i h
   ·obtain rfl:i=n:=by omega
    exact h2
  ·intro h
   exact ⟨fun i hi=>h i (by omega),h n (by omega)⟩
section
variable {g:Gr} {f:Nat→Nat} {l:List Int}
theorem mC.none (I:mC g f l) {b:Nat} (hb:b<g.length) (h:¬Rg g b∨b=0):nth l b=-1:=by
 rcases I.good.rng b hb with h1 | h1
 ·exact h1
 ·exfalso
  have:=I.good.inv.pr b ⟨by rw [I.good.len];exact hb,h1.1⟩
  rcases h with h | h
  ·exact h this.1
  ·exact this.2.1 h
theorem Bd {a:Int} (ha:0≤a) : ∀ k,mA l a k (-1)=false
 | 0=>rfl
 | k+1=>by rw [mA,if_neg (by omega),if_pos (.inl (by omega))]
theorem qZ (I:mC g f l) (C:Ch (Rg g) (rk g) (Eg g) f (Dm g)) {a:Nat} : ∀ (k b:Nat),Rg g b→rk g b<k→(mA l a k b=true↔Anc (st l) a b)
 | 0,b,_,h=>by omega
 | k+1,b,hb,h=>by
  have hlt:=hb.lt
  have hll:=I.good.len
  rw [mA]
  by_cases e:(b:Int)=a
  ·rw [if_pos e]
   have:a=b:=by omega
   subst this
   exact ⟨fun _=>.self,fun _=>rfl⟩
  ·rw [if_neg e,if_neg (by omega),Int.toNat_natCast]
   by_cases h0:b=0
   ·subst h0
    rw [I.none hlt (.inr rfl),Bd (by omega),py]
    constructor
    ·intro h;cases h
    ·intro h;omega
   ·obtain ⟨hp,_⟩:=I.turn b hb h0
    obtain ⟨h1,h2,h3,h4⟩:=I.good.inv.pr b hp
    have e2:nth l b=((st l b:Nat):Int):=(Int.toNat_of_nonneg hp.2).symm
    rw [e2,qZ I C k (st l b) (I.good.inv.okR C h3) (by omega),lN h0]
    exact ⟨.inr,fun h=>h.resolve_left (by omega)⟩
theorem pB (I:mC g f l) (C:Ch (Rg g) (rk g) (Eg g) f (Dm g)) {a b:Nat} (ha:a<g.length) (hb:Rg g b):dA l a b=domC g a b:=by
 have hlt:=hb.lt
 have hll:=I.good.len
 rw [dA,decide_eq_true (by omega),Bool.true_and,Bool.eq_iff_iff,qZ I C _ _ hb (by have:=DF hb;omega),I.anc C hb]
 rfl
end
end Go.Proofs.Ytfelpjfopgiabaa
namespace Go.Proofs.Ytfelpjfopgiabaa
open Go Go.Lft
theorem C7 {l:List Int} {x:Int} {v:Value} {h:Heap} (hl:SlRd (vw h) v l):aG Try.prog N.slices_Index_int #[v,.int .i64 x] h (fun u h'=>(∃ r:Int,u = .int .i64 r∧(0≤r↔x∈l))∧h'=h):=by
 refine ay (args:=[v,.int .i64 x]) follows F.slices_Index_int E.slices_Index_int (Nat.le_of_ble_eq_true (by kernel_rfl)) fun K hK=>?_
 have bl:=hl.bound
 simp [L.slices_Index_int,hl.len]
 refine a8 [0,1,7,8] (fun (_:Unit) i=>[v,.int .i64 x,.int .i64 l.length,.int .i64 i]) (fun _ i h1=>h1=h∧∀ j,j<i→nth l j≠x) l.length ()
  rfl (by omega) rfl ⟨rfl,fun j hj=>by omega⟩ (fun _ _=>rfl) (fun v i h1 hk m=>by simp) ?_ ?_
 ·rintro _ i h hlt ⟨rfl,hpre⟩ K2 hK2
  simp (disch:=omega) [hl.idx1 rfl,hl.int (View.le_refl _)]
  refine ⟨fun e=>hK _ _ ⟨⟨i,rfl,by simp;rw [e];exact bS hlt⟩,rfl⟩,fun e=>hK2 () _ _ rfl rfl ⟨rfl,fun j hj=>?_⟩⟩
  rcases Nat.lt_or_ge j i with h | h
  ·exact hpre j h
  ·have:j=i:=by omega
   subst this;exact fun e2=>e e2.symm
 ·rintro _ h ⟨rfl,hpre⟩
  simp
  refine hK _ _ ⟨⟨-1,rfl,by simp;intro hm;obtain ⟨j,hj,e⟩:=List.getElem_of_mem hm;exact hpre j hj (by rw [aq hj];exact e)⟩,rfl⟩
theorem qD {l:List Int} {x:Int} {v:Value} {h:Heap} (hl:SlRd (vw h) v l):aG Try.prog N.slices_Contains_int #[v,.int .i64 x] h (fun u h'=>u = .bool (l.contains x)∧h'=h):=by
 refine ay (args:=[v,.int .i64 x]) follows F.slices_Contains_int E.slices_Contains_int (Nat.le_of_ble_eq_true (by kernel_rfl)) fun K hK=>?_
 simp [L.slices_Contains_int]
 refine aj (by kernel_rfl) (C7 hl) ?_
 rintro _ _ ⟨⟨r,rfl,hr⟩,rfl⟩
 simp
 exact hK _ _ ⟨by simp [←hr],rfl⟩
def ofG (l:List BlkD):Gr:=rows (fun i=>jI (nth l i).term.to l.length) l.length
theorem zp {l:List BlkD} {v:Value} {p:Int} {h:Heap} (hv:SlRd (vw h) v l) (hl:l.length≤1000000) (hs : ∀ i,i<l.length→(nth l i).term.to.length≤1000000) :
  aG Try.prog N.gg #[.agg #[.int .i64 p,v]] h (fun u h'=>(vw h).le (vw h')∧SlRd (fresh h h') u (ofG l)):=by
 refine ay (args:=[.agg #[.int .i64 p,v]]) follows F.gg E.gg (Nat.le_of_ble_eq_true (by kernel_rfl)) fun K hK=>?_
 obtain ⟨hvc,hvo⟩:=hv.cells
 simp [L.gg]
 refine jY (v:=.agg #[.int .i64 p,v]) (by simp) ?_
 have hle1:=bM h (.cells (Value.agg #[.int .i64 p,v]).cells T.aE)
 have hc1:an (vw (h.push (.cells (Value.agg #[.int .i64 p,v]).cells T.aE))) ⟨h.size,1,none⟩=some v:=bY (c:=#[.int .i64 p,v]) (T:=T.aE) (fz:=(0,0)) (by simp [vw,Value.cells]) rfl
 generalize h.push (.cells (Value.agg #[.int .i64 p,v]).cells T.aE)=h1 at hle1 hc1
 have hv1:=hv.mono hle1
 simp [hc1,hv1.len]
 refine Mine.made (α:=List Int) (V:=nothing) (W:=nothing) (h0:=h1) (n:=l.length) (d:=[]) El.iz (View.le_refl _) (fun _ _ h=>by cases h) (Old.nothing _ _) (by simp<;>rfl) (by simp<;>rfl) B9 (by omega) (by omega) fun o h2 m hle2 _=>?_
 have hc2:=ah hle2 hc1
 have hv2:=hv1.mono hle2
 simp [hc2,hv2.len]
 refine a8 [1,3,11,12,13] (fun (_:View) k=>[.pointer (some ⟨h.size,0,none⟩),o,v,.int .i64 l.length,.int .i64 k]) (fun W k h3=>Mine nothing h1 h3 W T.aP o (rows (fun i=>jI (nth l i).term.to l.length) k++List.replicate (l.length-k) [])) l.length nothing
  rfl (by omega) rfl m (fun _ _=>rfl) (fun v k h1 hk m=>by simp) ?_ ?_
 ·rintro W a h3 hlta m K2 hK2
  have hle3:=m.old
  have hc3:=ah hle3 hc1
  have hv3:=hv1.mono hle3
  obtain ⟨u,hu1,hu2⟩:=hv3.wh rfl (N:=6) rfl hlta
  have hal:=hs a hlta
  have hl5:(rows (fun i=>jI (nth l i).term.to l.length) a++List.replicate (l.length-a) ([]:List Int)).length=l.length:=by simp;omega
  refine aa fun z hz=>?_
  simp (disch:=omega) [hv3.idxn (N:=6) rfl,hu1 _ (View.le_refl _)]
  refine dU (z:=.agg #[.slice none 0 0,.slice none 0 0,.int .i64 0,.slice none 0 0,.slice none 0 0,.int .i32 0]) (by kernel_rfl) rfl (by kernel_rfl) hu2 (fun _=>by simp) (fun _=>by simp) fun h4 hle4 hsz4 hat=>?_
  obtain ⟨vp,vi,va,vt,bp,bi,bk,ba,bt⟩:=kC (hat (vw h4) hle4 rfl)
  have hc4:=ah hle4 hc3
  have hv4:=hv3.mono hle4
  rw [hz];clear hz z
  simp [bt.1,hc4,hv4.len]
  refine aj (by kernel_rfl) (z7 bt.2 (by omega)) ?_
  rintro r h5 ⟨W',mr⟩
  have m5:=(m.ext' hle4).ext mr.old
  have hr:=mr.fresh.mono (gY W _ _)
  simp (disch:=omega) [m5.now.idx1 rfl]
  refine m5.put1 (α:=List Int) (i:=a) (by kernel_rfl) rfl (by simp) (by simp<;>rfl) (by omega) (fH.2 hr) fun h6 m6=>hK2 (grow W h4 h5) _ _ rfl rfl ?_
  rw [kl (x:=fun i=>jI (nth l i).term.to l.length) hlta] at m6
  exact m6
 ·rintro W h3 m
  simp at m
  simp
  exact hK _ _ ⟨View.le_trans hle1 m.old,m.fresh.mono (rR hle1)⟩
def jR (w:Int × Int) (idom:List Int) (blk at_:Int):Bool:=(decide (w.1=blk)&&(decide (w.2<at_)||decide (w.2<0)))||(!decide (w.1=blk)&&dA idom w.1 blk)
def useS (ps:Int) (m:MW) (idom:List Int) (v blk place at_ told:Int):Except Tr Unit:=
 if 0≤v∧v<ps then .ok () else match m v with
  | none=>.error (13,told,place)
  | some w=>if jR w idom blk at_ then .ok () else .error (13,told,place)
theorem yQ {Kb r:Nat} {vb vd:Value} {f:ak} {m:MW} {idom:List Int} {h:Heap} {p5 p6:Addr} {v blk place at_ told:Int} (k:Lk h Kb r vb f m) (h5:an (vw h) p5=some (.pointer (some ⟨Kb,0,none⟩))) (h6:an (vw h) p6=some vd) (hd:SlRd (vw h) vd idom) :
  eX Try.prog N.aR #[.int .i64 v,.int .i64 blk,.int .i64 place,.int .i64 at_,.int .i64 told,.pointer (some p5),.pointer (some p6)] h (fun _ h'=>useS f.params m idom v blk place at_ told = .ok ()∧(vw h).le (vw h'))
   (fun ch h'=>∃ t,useS f.params m idom v blk place at_ told = .error t∧ch=trV t∧(vw h).le (vw h')):=by
 refine gi (args:=[.int .i64 v,.int .i64 blk,.int .i64 place,.int .i64 at_,.int .i64 told,.pointer (some p5),.pointer (some p6)]) follows F.aR E.aR (Nat.le_of_ble_eq_true (by kernel_rfl)) fun K Kp hK hKp=>?_
 dsimp only [L.aR]
 by_cases hp:0≤v∧v<f.params
 ·simp [h5,ah b8 k.c0,hp]
  exact hK _ _ ⟨by simp [useS,hp],View.le_refl _⟩
 ·have hu:useS f.params m idom v blk place at_ told=match m v with
    | none=>.error (13,told,place)
    | some w=>if jR w idom blk at_ then .ok () else .error (13,told,place):=by rw [useS,if_neg hp]
  rw [hu] at hK hKp
  refine aa fun z hz=>?_
  have hc:(decide (0≤v)&&decide (v<f.params))=false:=by
   rw [Bool.eq_false_iff];intro e;exact hp (by simpa using e)
  simp [h5,ah b8 k.c0,hc]
  rw [hz];clear hz z
  refine aa fun z hz=>?_
  simp [h5,ah b8 k.c2]
  refine kg (z:=.agg #[.int .i64 0,.int .i64 0]) U.eN U.int (by kernel_rfl) (by simp<;>rfl) (by simp<;>rfl) ly k.map ?_
  have cellsW:((mapE encW m (.int .i64 v))).getD (.agg #[.int .i64 0,.int .i64 0])=encW ((m v).getD (0,0)):=by rw [mf];cases m v<;>rfl
  have isW:(mapE encW m (.int .i64 v)).isSome=(m v).isSome:=by rw [mf];cases m v<;>rfl
  rw [cellsW,isW]
  simp
  refine ir (n:=2) (v:=encW ((m v).getD (0,0))) (z:=.agg #[.int .i64 0,.int .i64 0]) (by kernel_rfl) rfl (by kernel_rfl) rfl (by simp [encW,Value.oneCell']) (fun _=>by simp) (fun _=>by simp) fun h3 hle3 hsz3 hb3=>?_
  have d0:an (vw h3) ⟨h.size,0,none⟩=some (.int .i64 ((m v).getD (0,0)).1):=bY (show vw h3 h.size=_ from hb3) rfl
  have d1:an (vw h3) ⟨h.size,1,none⟩=some (.int .i64 ((m v).getD (0,0)).2):=bY (show vw h3 h.size=_ from hb3) rfl
  have h63:=ah hle3 h6
  have hd3:=hd.mono hle3
  generalize h.size=B at d0 d1
  rw [hz];clear hz z
  have fin : ∀ (ok:Bool) (h4:Heap) (ρ:Env) (z:LC),(vw h).le (vw h4)→(∀ w,m v=some w→ok=jR w idom blk at_)→(m v=none→ok=false)→z = .reg false (.loud [65,66,67] [] [(65,.tmp 13),(66,.tmp 4),(67,.tmp 2)] none [] false (.call ⟨.value (.func N.en),#[.tmp 65,.const (.int .i64 13),.tmp 66,.tmp 67],#[T.bool,T.lf,T.int,T.int]⟩) 0 (some 68) false (.fin [] [] []))→
    Lft.look ρ 13=some (.bool ok)→Lft.look ρ 4=some (.int .i64 told)→Lft.look ρ 2=some (.int .i64 place)→@LC.wp (ppOf Kp) Try.prog z (@dJ [] K) ρ h4:=by
   rintro ok h4 ρ _ hle4 hs hn rfl e13 e4 e2
   simp [e13,e4,e2]
   refine dk (by kernel_rfl) fY ?_ ?_
   ·rintro _ _ ⟨e,rfl⟩
    refine hK _ _ ⟨?_,hle4⟩
    cases hm:m v with
    | none=>rw [hn hm] at e;cases e
    | some w=>simp only;rw [if_pos (by rw [←hs w hm];exact e)]
   ·rintro _ _ ⟨e,rfl,rfl⟩
    refine ⟨.inl rfl,hKp _ _ ⟨_,?_,rfl,hle4⟩⟩
    cases hm:m v with
    | none=>rfl
    | some w=>simp only;rw [if_neg (by rw [←hs w hm,e];simp)]
  refine aa fun z hz=>?_
  cases hm:m v with
  | none=>
   rw [hm] at d0 d1
   simp [d0,d1]
   refine fin false _ _ _ hle3 (fun w hw=>by rw [hm] at hw;cases hw) (fun _=>rfl) hz ?_ ?_ ?_<;>simp
  | some w=>
   rw [hm] at d0 d1
   simp at d0 d1
   by_cases c1:w.1=blk
   ·by_cases c2:w.2<at_
    ·simp [d0,d1,c1,c2]
     refine fin true _ _ _ hle3 (fun w' hw=>by rw [hm] at hw;cases hw;simp [jR,c1,c2]) (fun e=>by simp [hm] at e) hz ?_ ?_ ?_<;>simp
    ·by_cases c3:w.2<0
     ·simp [d0,d1,c1,c2,c3]
      refine fin true _ _ _ hle3 (fun w' hw=>by rw [hm] at hw;cases hw;simp [jR,c1,c2,c3]) (fun e=>by simp [hm] at e) hz ?_ ?_ ?_<;>simp
     ·simp [d0,d1,c1,c2,c3]
      refine fin false _ _ _ hle3 (fun w' hw=>by rw [hm] at hw;cases hw;simp [jR,c1,c2,c3]) (fun e=>by simp [hm] at e) hz ?_ ?_ ?_<;>simp
   ·simp [d0,d1,c1,h63]
    refine aj (by kernel_rfl) (vJ hd3) ?_
    rintro _ h4 ⟨rfl,hle4⟩
    refine fin _ _ _ _ (View.le_trans hle3 hle4) (fun w' hw=>by rw [hm] at hw;cases hw;simp [jR,c1];rfl) (fun e=>by simp [hm] at e) hz ?_ ?_ ?_<;>simp
end Go.Proofs.Ytfelpjfopgiabaa
namespace Go.Proofs.Ytfelpjfopgiabaa
open Go Go.Lft
def js (x:PhiD) (row:List Int) (b:Nat):Bool:=decide (0<b)&&decide ((x.ins.length:Int)=(row.length:Int))
def tR (x:PhiD) (row:List Int) (j:Nat):Bool:=decide ((nth x.ins j).frm=nth row j)
def yl (x:PhiD) (row:List Int) (b:Nat):Bool:=js x row b&&qt (tR x row) x.ins.length
def uAll (g:Nat→Except Tr Unit) (n:Nat):Except Tr Unit:=upE (fun i _=>g i) n ()
def phiU (f:ak) (m:MW) (idom:List Int) (preds:Gr) (b i:Nat):Except Tr Unit:=
 let x:=nth (nth f.blocks b).phis i
 if yl x (nth preds b) b then uAll (fun j=>useS f.params m idom (nth x.ins j).val (nth x.ins j).frm (-1-i) (nth f.blocks (nth x.ins j).frm.toNat).ins.length b) x.ins.length else .error (16,b,-1-i)
def insU (f:ak) (m:MW) (idom:List Int) (b i:Nat):Except Tr Unit:=
 uAll (fun j=>useS f.params m idom (nth (nth (nth f.blocks b).ins i).args j) b i i b) (nth (nth f.blocks b).ins i).args.length
def endU (f:ak) (m:MW) (idom:List Int) (b:Nat):Except Tr Unit:=
 uAll (fun j=>useS f.params m idom (nth (nth f.blocks b).term.args j) b (nth f.blocks b).ins.length (nth f.blocks b).ins.length b) (nth f.blocks b).term.args.length
def andE (x y:Except Tr Unit):Except Tr Unit:=match x with | .ok _=>y | .error t=>.error t
def blkU (f:ak) (m:MW) (idom:List Int) (preds:Gr) (b:Nat):Except Tr Unit:=
 andE (uAll (phiU f m idom preds b) (nth f.blocks b).phis.length) (andE (uAll (insU f m idom b) (nth f.blocks b).ins.length) (endU f m idom b))
def pV (f:ak) (b:Nat):Except Tr Unit:=if decide ((b:Int)∈bc (ofG f.blocks)) then .ok () else .error (15,b,0)
def oI (f:ak) (m:MW) (idom:List Int):Except Tr Unit:=
 andE (uAll (pV f) f.blocks.length) (uAll (blkU f m idom (cU (ofG f.blocks))) f.blocks.length)
theorem lx {g:Nat→Except Tr Unit} {n k:Nat} {t:Tr} (h:uAll g k = .ok ()) (hk:k<n) (he:g k = .error t):uAll g n = .error t:=vU h hk he
theorem iU {g:Nat→Except Tr Unit} {k:Nat} (h:uAll g k = .ok ()):uAll g (k+1)=g k:=ld h
theorem CW {H:View} {B:Nat} {u v:Value} (h0:an H ⟨B,0,none⟩=some u) (h1:an H ⟨B,1,none⟩=some v):Un.ev H (.al 2) (.pointer (some ⟨B,0,none⟩))=some (.agg #[u,v]):=by
 simp [Un.ev,vP,dd,h0,h1]
theorem Fj {l:List BlkD} (hl:l.length≤1000000) (hs : ∀ i,i<l.length→(nth l i).term.to.length≤1000000):Sm (ofG l):=by
 have hlen:(ofG l).length=l.length:=by simp [ofG]
 refine ⟨by omega,fun i hi=>?_⟩
 rw [hlen] at hi
 rw [ofG,eh hi]
 exact Nat.le_trans uD (hs i hi)
theorem DN {Kb r:Nat} {vb:Value} {f:ak} {m:MW} {idom:List Int} {fuel:Nat} {h:Heap} (k:Lk h Kb r vb f m) (hn:f.blocks.length≤1000000) (hto : ∀ i,i<f.blocks.length→(nth f.blocks i).term.to.length≤1000000) (hd:tK (ofG f.blocks) fuel=some idom) :
  eX Try.prog N.aC #[.pointer (some ⟨Kb,0,none⟩)] h (fun _ h'=>oI f m idom = .ok ()∧(vw h).le (vw h')) (fun ch h'=>∃ t,oI f m idom = .error t∧ch=trV t∧(vw h).le (vw h')):=by
 refine gi (args:=[.pointer (some ⟨Kb,0,none⟩)]) follows F.aC E.aC (Nat.le_of_ble_eq_true (by kernel_rfl)) fun K Kp hK hKp=>?_
 have hbb:=k.rb.bound
 have hsm:=Fj hn hto
 have hgl:(ofG f.blocks).length=f.blocks.length:=by simp [ofG]
 dsimp only [L.aC]
 refine aa fun z hz=>?_
 simp
 refine jY (v:=.pointer (some ⟨Kb,0,none⟩)) (by simp) ?_
 have hle1:=bM h (.cells (Value.cells (.pointer (some ⟨Kb,0,none⟩))) T.ko)
 have h51:an (vw (h.push (.cells (Value.cells (.pointer (some ⟨Kb,0,none⟩))) T.ko))) ⟨h.size,0,none⟩=some (.pointer (some ⟨Kb,0,none⟩)):=by simp [an,vw]
 generalize h.push (.cells (Value.cells (.pointer (some ⟨Kb,0,none⟩))) T.ko)=h1 at hle1 h51
 generalize h.size=B at h51
 have k1:=k.ext hle1
 rw [hz];clear hz z
 refine aa fun z hz=>?_
 simp [h51,CW (ah b8 k1.c0) (ah b8 k1.c1)]
 refine aj (by kernel_rfl) (zp (k1.rb.mono b8) hn hto) ?_
 rintro vg h2 ⟨hle2,hg⟩
 have hg2:=hg.mono (iL _ _)
 rw [hz];clear hz z
 refine aa fun z hz=>?_
 simp
 refine aj (by kernel_rfl) (wX hg2 hsm) ?_
 rintro vo h3 ⟨hle3,ho⟩
 have ho3:=ho.mono (iL _ _)
 have hg3:=hg2.mono hle3
 have hle13:=View.le_trans hle2 hle3
 have k3:=k1.ext hle13
 have h53:=ah hle13 h51
 have hle03:=View.le_trans hle1 hle13
 rw [hz];clear hz z
 refine aa fun z hz=>?_
 simp [h53,ah b8 k3.c1,k3.rb.len]
 refine a8 [0,1,2,3,35,36] (fun (_:Unit) b=>[.pointer (some ⟨Kb,0,none⟩),.pointer (some ⟨B,0,none⟩),vg,vo,.int .i64 f.blocks.length,.int .i64 b]) (fun _ b h4=>h4=h3∧uAll (pV f) b = .ok ()) f.blocks.length ()
  rfl (by omega) rfl ⟨rfl,rfl⟩ (fun _ _=>rfl) (fun v i h1 hk m=>by simp) ?_ ?_
 ·rintro _ b h3 hlt ⟨rfl,hpre⟩ K2 hK2
  simp
  refine aj (by kernel_rfl) (qD ho3) ?_
  rintro _ _ ⟨rfl,rfl⟩
  simp
  refine dk (by kernel_rfl) fY ?_ ?_
  ·rintro _ _ ⟨e,rfl⟩
   exact hK2 () _ _ rfl rfl ⟨rfl,by rw [iU hpre,pV,if_pos e]⟩
  ·rintro _ _ ⟨e,rfl,rfl⟩
   exact ⟨.inl rfl,hKp _ _ ⟨_,by rw [oI,lx hpre hlt (by rw [pV,if_neg (by rw [e];simp)])];rfl,rfl,hle03⟩⟩
 ·rintro _ h3 ⟨rfl,hreach⟩
  have hus:oI f m idom=uAll (blkU f m idom (cU (ofG f.blocks))) f.blocks.length:=by rw [oI,hreach];rfl
  rw [hus] at hK hKp
  simp
  rw [hz];clear hz z
  refine aa fun z hz=>?_
  simp
  refine aj (by kernel_rfl) (yf hg3 hsm) ?_
  rintro vp h4 ⟨hle4,hp⟩
  have hp4:=hp.mono (iL _ _)
  refine aj (by kernel_rfl) (EK (hg3.mono hle4) hsm hd) ?_
  rintro vi h5 ⟨W,mi⟩
  have hi5:=mi.now
  refine dU (α:=List Int) (z:=.slice none 0 0) (X:=vw h5) (by kernel_rfl) rfl (by kernel_rfl) (fH.2 hi5) (fun _=>by simp) (fun _=>by simp) fun h6 hle6 hsz6 hat=>?_
  obtain ⟨vd,hvd,hd6⟩:=(hat (vw h6) hle6 rfl).sl
  generalize h5.size=C at hvd
  rw [hz];clear hz z
  have hle36:=View.le_trans hle4 (View.le_trans mi.old hle6)
  have hp6:=hp4.mono (View.le_trans mi.old hle6)
  have k6:=k3.ext hle36
  have h56:=ah hle36 h53
  have hle06:=View.le_trans hle03 hle36
  have hpl:(cU (ofG f.blocks)).length=f.blocks.length:=by rw [mm,hgl]
  have hin : ∀ b,∀ x∈nth (cU (ofG f.blocks)) b,0≤x∧x<f.blocks.length:=by
   rw [←hgl]
   exact pL (fun e he=>(nD he).1) (fun i x hx=>by
    rcases Nat.lt_or_ge i (ofG f.blocks).length with hi | hi
    ·rw [au hi] at hx;cases hx
    ·rw [aV (by simpa using hi)] at hx;cases hx)
  generalize cU (ofG f.blocks)=preds at hp6 hpl hin hK hKp
  obtain ⟨pv,hpv⟩:=hp6.rows
  simp [h56,ah b8 k6.c1,k6.rb.len]
  refine a8 [1,5,7,54,55,56] (fun (_:Unit) b=>[.pointer (some ⟨B,0,none⟩),vp,.func (.func N.aR) #[] #[.pointer (some ⟨B,0,none⟩),.pointer (some ⟨C,0,none⟩)],vb,.int .i64 f.blocks.length,.int .i64 b]) (fun _ b h7=>(vw h6).le (vw h7)∧uAll (blkU f m idom preds) b = .ok ()) f.blocks.length ()
   rfl (by omega) rfl ⟨View.le_refl _,rfl⟩ (fun _ _=>rfl) (fun v i h1 hk m=>by simp) ?_ ?_
  ·rintro _ b h7 hltb ⟨hle7,hpre⟩ K2 hK2
   have k7:=k6.ext hle7
   have rb7:=k7.rb.mono b8
   obtain ⟨u,hu,hur⟩:=rb7.wh rfl (N:=6) rfl hltb
   obtain ⟨pc,pr⟩:=hpv b (by omega)
   have hst:=iU hpre
   have her : ∀ {t},blkU f m idom preds b = .error t→uAll (blkU f m idom preds) f.blocks.length = .error t:=fun e=>lx hpre hltb e
   refine aa fun z hz=>?_
   simp (disch:=omega) [rb7.idxn (N:=6) rfl,hu _ (View.le_refl _)]
   refine dU (z:=.agg #[.slice none 0 0,.slice none 0 0,.int .i64 0,.slice none 0 0,.slice none 0 0,.int .i32 0]) (by kernel_rfl) rfl (by kernel_rfl) hur (fun _=>by simp) (fun _=>by simp) fun h8 hle8 hsz8 hat=>?_
   obtain ⟨wp,wi,wa,wt,bp,bi,bk,ba,bt⟩:=kC (hat (vw h8) hle8 rfl)
   generalize h7.size=D at bp bi bk ba bt
   rw [hz];clear hz z
   have hle68:=View.le_trans hle7 hle8
   have bph:=bp.2.bound
   have bin:=bi.2.bound
   have bar:=ba.2.bound
   refine aa fun z hz=>?_
   simp [bp.1,bp.2.len]
   refine a8 [1,5,7,8,9,54,55,56,62,63,64] (fun (_:Unit) i=>[.pointer (some ⟨B,0,none⟩),vp,.func (.func N.aR) #[] #[.pointer (some ⟨B,0,none⟩),.pointer (some ⟨C,0,none⟩)],.int .i64 b,.pointer (some ⟨D,0,none⟩),vb,.int .i64 f.blocks.length,.int .i64 b,wp,.int .i64 (nth f.blocks b).phis.length,.int .i64 i])
    (fun _ i h9=>(vw h8).le (vw h9)∧uAll (phiU f m idom preds b) i = .ok ()) (nth f.blocks b).phis.length ()
    rfl (by omega) rfl ⟨View.le_refl _,rfl⟩ (fun _ _=>rfl) (fun v i h1 hk m=>by simp) ?_ ?_
   ·rintro _ i h9 hlti ⟨hle9,hpre9⟩ K3 hK3
    have hst9:=iU hpre9
    have her9 : ∀ {t},phiU f m idom preds b i = .error t→blkU f m idom preds b = .error t:=fun e=>by rw [blkU,lx hpre9 hlti e];rfl
    have bp9:=bp.2.mono hle9
    obtain ⟨u9,hu9,hur9⟩:=bp9.wh rfl (N:=2) rfl hlti
    refine aa fun y hy=>?_
    simp (disch:=omega) [bp9.idxn (N:=2) rfl,hu9 _ (View.le_refl _)]
    refine dU (z:=.agg #[.int .i64 0,.slice none 0 0]) (by kernel_rfl) rfl (by kernel_rfl) hur9 (fun _=>by simp) (fun _=>by simp) fun h10 hle10 hsz10 hat10=>?_
    obtain ⟨_,wq,cq⟩:=vf (hat10 (vw h10) hle10 rfl)
    simp only [phiU] at hst9 her9
    generalize nth (nth f.blocks b).phis i=x at cq hst9 her9
    generalize h9.size=D10 at cq
    have bq:=cq.2.bound
    rw [hy];clear hy y
    refine aa fun y hy=>?_
    have hle610:=View.le_trans hle68 (View.le_trans hle9 hle10)
    have hp10:=hp6.mono hle610
    have pr10:=pr.mono hle610
    have hbase:(decide (0<b)&&decide ((x.ins.length:Int)=((nth preds b).length:Int)))=js x (nth preds b) b:=rfl
    simp (disch:=omega) [cq.1,cq.2.len,hp10.idx1 rfl,pc _ hle610,pr10.len]
    rw [hbase]
    rw [hy];clear hy y
    refine aa fun y hy=>?_
    simp [cq.1,cq.2.len]
    refine a8 [1,5,7,8,9,10,11,12,54,55,56,62,63,64,83,84,85] (fun (_:Unit) j=>[.pointer (some ⟨B,0,none⟩),vp,.func (.func N.aR) #[] #[.pointer (some ⟨B,0,none⟩),.pointer (some ⟨C,0,none⟩)],.int .i64 b,.pointer (some ⟨D,0,none⟩),.int .i64 i,.pointer (some ⟨D10,0,none⟩),
      .bool (js x (nth preds b) b&&qt (tR x (nth preds b)) j),vb,.int .i64 f.blocks.length,.int .i64 b,wp,.int .i64 (nth f.blocks b).phis.length,.int .i64 i,wq,.int .i64 x.ins.length,.int .i64 j])
     (fun _ j h11=>(vw h10).le (vw h11)) x.ins.length ()
     rfl (by omega) (by simp [bz];intro _;rfl) (View.le_refl _) (fun _ _=>rfl) (fun v i h1 hk m=>by simp) ?_ ?_
    ·rintro _ j h11 hltj hle11 K4 hK4
     have cq11:=cq.2.mono hle11
     obtain ⟨u11,hu11,hur11⟩:=cq11.wh rfl (N:=2) rfl hltj
     refine aa fun q hq=>?_
     simp (disch:=omega) [cq11.idxn (N:=2) rfl,hu11 _ (View.le_refl _)]
     refine dU (z:=.agg #[.int .i64 0,.int .i64 0]) (by kernel_rfl) rfl (by kernel_rfl) hur11 (fun _=>by simp) (fun _=>by simp) fun h12 hle12 hsz12 hat12=>?_
     obtain ⟨e0,e1⟩:=yz (hat12 (vw h12) hle12 rfl)
     generalize h11.size=D12 at e0 e1
     rw [hq];clear hq q
     have hle612:=View.le_trans hle610 (View.le_trans hle11 hle12)
     have hp12:=hp6.mono hle612
     have pr12:=pr.mono hle612
     cases hfit:js x (nth preds b) b&&qt (tR x (nth preds b)) j with
     | false=>
      simp
      refine hK4 () _ _ rfl ?_ (View.le_trans hle11 hle12)
      rw [sD,←Bool.and_assoc,hfit];rfl
     | true=>
      have hlen:x.ins.length=(nth preds b).length:=by
       simp only [Bool.and_eq_true,js,decide_eq_true_eq] at hfit
       omega
      simp (disch:=omega) [e0,hp12.idx1 rfl,pc _ hle612,pr12.idx1 rfl,pr12.int (View.le_refl _)]
      refine hK4 () _ _ rfl ?_ (View.le_trans hle11 hle12)
      rw [sD,←Bool.and_assoc,hfit];rfl
    ·rintro _ h11 hle11
     have hfs:(js x (nth preds b) b&&qt (tR x (nth preds b)) x.ins.length)=yl x (nth preds b) b:=rfl
     rw [hfs]
     simp
     rw [hy];clear hy y
     refine aa fun y hy=>?_
     simp (disch:=omega)
     have hle011:=View.le_trans hle06 (View.le_trans hle610 hle11)
     refine dk (by kernel_rfl) fY ?_ ?_
     rotate_left
     ·rintro _ _ ⟨e,rfl,rfl⟩
      exact ⟨.inl rfl,hKp _ _ ⟨_,her (her9 (by rw [if_neg (by rw [e];simp)])),rfl,hle011⟩⟩
     rintro _ h11 ⟨efit,rfl⟩
     rw [if_pos efit] at hst9
     have her9' : ∀ {t},uAll (fun j=>useS f.params m idom (nth x.ins j).val (nth x.ins j).frm (-1-i) (nth f.blocks (nth x.ins j).frm.toNat).ins.length b) x.ins.length = .error t→blkU f m idom preds b = .error t:=fun e=>her9 (by rw [if_pos efit];exact e)
     have hlen:x.ins.length=(nth preds b).length:=by
      simp only [Bool.and_eq_true,yl,js,decide_eq_true_eq] at efit
      omega
     have hfrm : ∀ j,j<x.ins.length→0≤(nth x.ins j).frm∧(nth x.ins j).frm<f.blocks.length:=fun j hj=>by
      have h1:=zI.1 (Bool.and_eq_true _ _▸efit:_∧_).2 j hj
      simp only [tR,decide_eq_true_eq] at h1
      rw [h1]
      exact hin b _ (bS (by omega))
     rw [hy];clear hy y
     have cq11:=cq.2.mono hle11
     simp [ah hle11 cq.1,cq11.len]
     refine a8 [1,5,7,8,9,10,11,54,55,56,62,63,64,110,111,112] (fun (_:Unit) j=>[.pointer (some ⟨B,0,none⟩),vp,.func (.func N.aR) #[] #[.pointer (some ⟨B,0,none⟩),.pointer (some ⟨C,0,none⟩)],.int .i64 b,.pointer (some ⟨D,0,none⟩),.int .i64 i,.pointer (some ⟨D10,0,none⟩),
       vb,.int .i64 f.blocks.length,.int .i64 b,wp,.int .i64 (nth f.blocks b).phis.length,.int .i64 i,wq,.int .i64 x.ins.length,.int .i64 j])
      (fun _ j h12=>(vw h11).le (vw h12)∧uAll (fun j=>useS f.params m idom (nth x.ins j).val (nth x.ins j).frm (-1-i) (nth f.blocks (nth x.ins j).frm.toNat).ins.length b) j = .ok ()) x.ins.length ()
      rfl (by omega) rfl ⟨View.le_refl _,rfl⟩ (fun _ _=>rfl) (fun v i h1 hk m=>by simp) ?_ ?_
     ·rintro _ j h12 hltj ⟨hle12,hpre12⟩ K4 hK4
      have hst12:=iU hpre12
      have cq12:=cq11.mono hle12
      obtain ⟨u12,hu12,hur12⟩:=cq12.wh rfl (N:=2) rfl hltj
      refine aa fun q hq=>?_
      simp (disch:=omega) [cq12.idxn (N:=2) rfl,hu12 _ (View.le_refl _)]
      refine dU (z:=.agg #[.int .i64 0,.int .i64 0]) (by kernel_rfl) rfl (by kernel_rfl) hur12 (fun _=>by simp) (fun _=>by simp) fun h13 hle13 hsz13 hat13=>?_
      obtain ⟨e0,e1⟩:=yz (hat13 (vw h13) hle13 rfl)
      generalize h12.size=D13 at e0 e1
      have hf:=hfrm j hltj
      generalize hxj:nth x.ins j=w at e0 e1 hst12 hf
      rw [hq];clear hq q
      have hle613:=View.le_trans hle610 (View.le_trans hle11 (View.le_trans hle12 hle13))
      have k13:=k6.ext hle613
      have rb13:=k13.rb.mono b8
      have h513:=ah hle613 h56
      obtain ⟨ul,hul⟩:=(((rb13.at (i:=w.frm.toNat) (by omega)).part BlkD.kD)).sl
      rw [←aq (by omega)] at hul
      have hul1:an (vw h13) (((slA vb).add (w.frm.toNat*6)).add 1)=some ul:=hul.1
      refine bO (vw h13) (View.le_refl _) ?_
      simp (disch:=omega) [e0,e1,h513,ah b8 k13.c1,rb13.idxn (N:=6) rfl,hul1,hul.2.len]
      refine pZ (ops:=[.tmp 118,.tmp 120,.tmp 122,.tmp 133,.tmp 134]) rfl (by kernel_rfl) (yQ k13 h513 (ah hle613 hvd) (hd6.mono hle613)) ?_ ?_
      ·rintro _ h14 ⟨e,hle14⟩
       exact hK4 () _ _ rfl rfl ⟨View.le_trans hle12 (View.le_trans hle13 hle14),by rw [hst12];exact e⟩
      ·rintro _ h14 ⟨t,e,rfl,hle14⟩
       exact ⟨.inr fun _=>trivial,hKp _ _ ⟨t,her (her9' (lx hpre12 hltj (by rw [hxj];exact e))),rfl,View.le_trans hle06 (View.le_trans hle613 hle14)⟩⟩
     ·rintro _ h12 ⟨hle12,hpre12⟩
      simp
      exact hK3 () _ _ rfl rfl ⟨View.le_trans hle9 (View.le_trans hle10 (View.le_trans hle11 hle12)),by rw [hst9];exact hpre12⟩
   ·rintro _ h9 ⟨hle9,hpre9⟩
    have hbu:blkU f m idom preds b=andE (uAll (insU f m idom b) (nth f.blocks b).ins.length) (endU f m idom b):=by rw [blkU,hpre9];rfl
    rw [hbu] at hst her
    simp
    rw [hz];clear hz z
    refine aa fun z hz=>?_
    have bi9:=bi.2.mono hle9
    simp [ah hle9 bi.1,bi9.len]
    refine a8 [1,5,7,8,9,54,55,56,139,140,141] (fun (_:Unit) i=>[.pointer (some ⟨B,0,none⟩),vp,.func (.func N.aR) #[] #[.pointer (some ⟨B,0,none⟩),.pointer (some ⟨C,0,none⟩)],.int .i64 b,.pointer (some ⟨D,0,none⟩),vb,.int .i64 f.blocks.length,.int .i64 b,wi,.int .i64 (nth f.blocks b).ins.length,.int .i64 i])
     (fun _ i h10=>(vw h9).le (vw h10)∧uAll (insU f m idom b) i = .ok ()) (nth f.blocks b).ins.length ()
     rfl (by omega) rfl ⟨View.le_refl _,rfl⟩ (fun _ _=>rfl) (fun v i h1 hk m=>by simp) ?_ ?_
    ·rintro _ i h10 hlti ⟨hle10,hpre10⟩ K3 hK3
     have hst10:=iU hpre10
     have her10 : ∀ {t},insU f m idom b i = .error t→uAll (blkU f m idom preds) f.blocks.length = .error t:=fun e=>her (by rw [lx hpre10 hlti e];rfl)
     have bi10:=bi9.mono hle10
     obtain ⟨u10,hu10,hur10⟩:=bi10.wh rfl (N:=5) rfl hlti
     refine aa fun y hy=>?_
     simp (disch:=omega) [bi10.idxn (N:=5) rfl,hu10 _ (View.le_refl _)]
     refine dU (z:=.agg #[.int .i64 0,.int .i64 0,.int .i64 0,.slice none 0 0,.int .i32 0]) (by kernel_rfl) rfl (by kernel_rfl) hur10 (fun _=>by simp) (fun _=>by simp) fun h11 hle11 hsz11 hat11=>?_
     obtain ⟨_,_,_,wq,cq⟩:=nr (hat11 (vw h11) hle11 rfl)
     rw [insU] at hst10 her10
     generalize nth (nth f.blocks b).ins i=x at cq hst10 her10
     generalize h10.size=D11 at cq
     have bq:=cq.2.bound
     rw [hy];clear hy y
     simp [cq.1,cq.2.len]
     refine a8 [1,5,7,8,9,17,54,55,56,139,140,141,147,148,149] (fun (_:Unit) j=>[.pointer (some ⟨B,0,none⟩),vp,.func (.func N.aR) #[] #[.pointer (some ⟨B,0,none⟩),.pointer (some ⟨C,0,none⟩)],.int .i64 b,.pointer (some ⟨D,0,none⟩),.int .i64 i,vb,.int .i64 f.blocks.length,.int .i64 b,wi,.int .i64 (nth f.blocks b).ins.length,.int .i64 i,wq,.int .i64 x.args.length,.int .i64 j])
      (fun _ j h12=>(vw h11).le (vw h12)∧uAll (fun j=>useS f.params m idom (nth x.args j) b i i b) j = .ok ()) x.args.length ()
      rfl (by omega) rfl ⟨View.le_refl _,rfl⟩ (fun _ _=>rfl) (fun v i h1 hk m=>by simp) ?_ ?_
     ·rintro _ j h12 hltj ⟨hle12,hpre12⟩ K4 hK4
      have hst12:=iU hpre12
      have cq12:=cq.2.mono hle12
      have hle612:=View.le_trans hle68 (View.le_trans hle9 (View.le_trans hle10 (View.le_trans hle11 hle12)))
      have k12:=k6.ext hle612
      have h512:=ah hle612 h56
      simp (disch:=omega) [cq12.idx1 rfl,cq12.int (View.le_refl _)]
      refine pZ (ops:=[.tmp 154,.tmp 155,.tmp 156,.tmp 157,.tmp 158]) rfl (by kernel_rfl) (yQ k12 h512 (ah hle612 hvd) (hd6.mono hle612)) ?_ ?_
      ·rintro _ h14 ⟨e,hle14⟩
       exact hK4 () _ _ rfl rfl ⟨View.le_trans hle12 hle14,by rw [hst12];exact e⟩
      ·rintro _ h14 ⟨t,e,rfl,hle14⟩
       exact ⟨.inl rfl,hKp _ _ ⟨t,her10 (lx hpre12 hltj e),rfl,View.le_trans hle06 (View.le_trans hle612 hle14)⟩⟩
     ·rintro _ h12 ⟨hle12,hpre12⟩
      simp
      exact hK3 () _ _ rfl rfl ⟨View.le_trans hle10 (View.le_trans hle11 hle12),by rw [hst10];exact hpre12⟩
    ·rintro _ h10 ⟨hle10,hpre10⟩
     have hbu2:andE (uAll (insU f m idom b) (nth f.blocks b).ins.length) (endU f m idom b)=endU f m idom b:=by rw [hpre10];rfl
     rw [hbu2] at hst her
     rw [endU] at hst her
     simp
     rw [hz];clear hz z
     have ba10:=ba.2.mono (View.le_trans hle9 hle10)
     have ca10:=ah (View.le_trans hle9 hle10) ba.1
     have bi10:=bi9.mono hle10
     have ci10:=ah (View.le_trans hle9 hle10) bi.1
     simp [ca10,ba10.len]
     refine a8 [1,5,7,8,9,54,55,56,164,165,166] (fun (_:Unit) j=>[.pointer (some ⟨B,0,none⟩),vp,.func (.func N.aR) #[] #[.pointer (some ⟨B,0,none⟩),.pointer (some ⟨C,0,none⟩)],.int .i64 b,.pointer (some ⟨D,0,none⟩),vb,.int .i64 f.blocks.length,.int .i64 b,wa,.int .i64 (nth f.blocks b).term.args.length,.int .i64 j])
      (fun _ j h12=>(vw h10).le (vw h12)∧uAll (fun j=>useS f.params m idom (nth (nth f.blocks b).term.args j) b (nth f.blocks b).ins.length (nth f.blocks b).ins.length b) j = .ok ()) (nth f.blocks b).term.args.length ()
      rfl (by omega) rfl ⟨View.le_refl _,rfl⟩ (fun _ _=>rfl) (fun v i h1 hk m=>by simp) ?_ ?_
     ·rintro _ j h12 hltj ⟨hle12,hpre12⟩ K4 hK4
      have hst12:=iU hpre12
      have ba12:=ba10.mono hle12
      have bi12:=bi10.mono hle12
      have ci12:=ah hle12 ci10
      have hle612:=View.le_trans hle68 (View.le_trans hle9 (View.le_trans hle10 hle12))
      have k12:=k6.ext hle612
      have h512:=ah hle612 h56
      simp (disch:=omega) [ba12.idx1 rfl,ba12.int (View.le_refl _),ci12,bi12.len]
      refine pZ (ops:=[.tmp 171,.tmp 172,.tmp 175,.tmp 178,.tmp 179]) rfl (by kernel_rfl) (yQ k12 h512 (ah hle612 hvd) (hd6.mono hle612)) ?_ ?_
      ·rintro _ h14 ⟨e,hle14⟩
       exact hK4 () _ _ rfl rfl ⟨View.le_trans hle12 hle14,by rw [hst12];exact e⟩
      ·rintro _ h14 ⟨t,e,rfl,hle14⟩
       exact ⟨.inl rfl,hKp _ _ ⟨t,her (lx hpre12 hltj e),rfl,View.le_trans hle06 (View.le_trans hle612 hle14)⟩⟩
     ·rintro _ h12 ⟨hle12,hpre12⟩
      simp
      exact hK2 () _ _ rfl rfl ⟨View.le_trans hle7 (View.le_trans hle8 (View.le_trans hle9 (View.le_trans hle10 hle12))),by rw [hst];exact hpre12⟩
  ·rintro _ h7 ⟨hle7,hpre⟩
   simp
   exact hK _ _ ⟨hpre,View.le_trans hle06 hle7⟩
end Go.Proofs.Ytfelpjfopgiabaa
namespace Go.Proofs.Ytfelpjfopgiabaa
open Go Go.Lft
def Dl (t:Tr):FrameMode:=.panicking [{ v:=.iface T.eU (.agg #[.int .i64 t.1,.int .i64 t.2.1,.int .i64 t.2.2]),recovered:=true }]
theorem BQ {a b c:Nat} {t:Tr} {h:Heap} {ra rb rc:Array Value} {ea eb ec:TypeId} (ha:h[a]? = some (.cells ra ea (0,0))) (hb:h[b]? = some (.cells rb eb (0,0))) (hc:h[c]? = some (.cells rc ec (0,0))) (sa:ra.size=1) (sb:rb.size=1) (sc:rc.size=1)
  (hab:a≠b) (hac:a≠c) (hbc:b≠c):od Try.prog N.cc #[.pointer (some ⟨a,0,none⟩),.pointer (some ⟨b,0,none⟩),.pointer (some ⟨c,0,none⟩)] (.panicking (trV t)) h
   (fun u' h'=>u'=Dl t∧h'[a]? = some (.cells #[.int .i64 t.1] ea (0,0))∧h'[b]? = some (.cells #[.int .i64 t.2.1] eb (0,0))∧h'[c]? = some (.cells #[.int .i64 t.2.2] ec (0,0))∧h.size≤h'.size∧∀ k,k<h.size→k≠a→k≠b→k≠c→h'[k]? = h[k]?):=by
 refine mo (args:=[.pointer (some ⟨a,0,none⟩),.pointer (some ⟨b,0,none⟩),.pointer (some ⟨c,0,none⟩)]) (t:=6) (L:=L.cc.body.tail) (tys:=#[]) follows F.cc Q.cc (by kernel_rfl) (by kernel_rfl) (by kernel_rfl) (Nat.le_of_ble_eq_true (by kernel_rfl)) E.mj (by kernel_rfl) (by kernel_rfl) (Nat.le_of_ble_eq_true (by kernel_rfl)) ?_
 have ala:a<h.size:=(Array.getElem?_eq_some_iff.1 ha).1
 have alb:b<h.size:=(Array.getElem?_eq_some_iff.1 hb).1
 have alc:c<h.size:=(Array.getElem?_eq_some_iff.1 hc).1
 have hrec:iI (.panicking (trV t))=(.iface T.eU (.agg #[.int .i64 t.1,.int .i64 t.2.1,.int .i64 t.2.2]),Dl t):=rfl
 rw [hrec]
 simp [L.cc,LC.tail]
 refine wP (ms:=#[]) (by kernel_rfl) rfl (.inr ⟨_,_,rfl,rfl⟩) ?_
 simp
 refine Ak (d:=(Try.prog.underlying T.eU).getD .bool) (by kernel_rfl) (by kernel_rfl) rfl ?_
 simp
 refine ir (n:=3) (z:=.agg #[.int .i64 0,.int .i64 0,.int .i64 0]) (v:=.agg #[.int .i64 t.1,.int .i64 t.2.1,.int .i64 t.2.2]) (by kernel_rfl) rfl (by kernel_rfl) rfl (by simp [Value.oneCell']) (fun _=>by simp) (fun _=>by simp) fun h1 hle1 hs1 hb1=>?_
 generalize hD:h.size=D at hb1 hs1
 obtain ⟨H,hH⟩ : ∃ H:View,H=fun k=>if k=D then h1[k]? else none:=⟨_,rfl⟩
 have hHle : ∀ h2:Heap,h2[D]? = h1[D]?→H.le (vw h2):=fun h2 e k o hk=>by
  rw [hH] at hk;simp only at hk
  split at hk
  ·rename_i e2;subst e2;show h2[_]? = _;rw [e];exact hk
  ·cases hk
 have hHD:H D=some (.cells #[.int .i64 t.1,.int .i64 t.2.1,.int .i64 t.2.2] T.eU (0,0)):=by rw [hH];simp only [if_true];exact hb1
 have d0:an H ⟨D,0,none⟩=some (.int .i64 t.1):=bY hHD rfl
 have d1:an H ⟨D,1,none⟩=some (.int .i64 t.2.1):=bY hHD rfl
 have d2:an H ⟨D,2,none⟩=some (.int .i64 t.2.2):=bY hHD rfl
 refine bO H (hHle h1 rfl) ?_
 simp [d0,d1,d2]
 refine dO (g:=a) (o:=0) (n:=1) (v:=.int .i64 t.1) (by kernel_rfl) rfl rfl rfl (by simp [Value.oneCell']) (hle1 _ _ ha) (by omega) fun h2 hs2 ⟨row2,hr2,he2⟩ ho2=>?_
 refine ⟨hHle h2 (ho2 D (by omega)),?_⟩
 refine dO (g:=b) (o:=0) (n:=1) (v:=.int .i64 t.2.1) (by kernel_rfl) rfl rfl rfl (by simp [Value.oneCell']) ((ho2 b (Ne.symm hab)).trans (hle1 _ _ hb)) (by omega) fun h3 hs3 ⟨row3,hr3,he3⟩ ho3=>?_
 refine ⟨hHle h3 ((ho3 D (by omega)).trans (ho2 D (by omega))),?_⟩
 refine dO (g:=c) (o:=0) (n:=1) (v:=.int .i64 t.2.2) (by kernel_rfl) rfl rfl rfl (by simp [Value.oneCell']) ((ho3 c (Ne.symm hbc)).trans ((ho2 c (Ne.symm hac)).trans (hle1 _ _ hc))) (by omega) fun h4 hs4 ⟨row4,hr4,he4⟩ ho4=>?_
 have one : ∀ {row r:Array Value} {v:Value},v.cells = #[v]→r.size=1→row.toList=r.toList.take 0++v.cells.toList++r.toList.drop (0+1)→row = #[v]:=by
  intro row r v hv hr he
  rw [←Array.toList_inj,he,hv,List.take_zero,List.nil_append,List.drop_eq_nil_of_le (by simp [hr])]
  simp
 rw [one rfl sa he2] at hr2
 rw [one rfl sb he3] at hr3
 rw [one rfl sc he4] at hr4
 refine ⟨?_,?_,hr4,by omega,fun k hk h1' h2' h3'=>?_⟩
 ·rw [ho4 a hac,ho3 a hab];exact hr2
 ·rw [ho4 b hbc];exact hr3
 ·rw [ho4 k h3',ho3 k h2',ho2 k h1']
  exact (hle1 k h[k] (Array.getElem?_eq_getElem (by omega))).trans (Array.getElem?_eq_getElem (by omega)).symm
theorem zo {a b c:Nat} {h:Heap}:od Try.prog N.cc #[.pointer (some ⟨a,0,none⟩),.pointer (some ⟨b,0,none⟩),.pointer (some ⟨c,0,none⟩)] .returning h (fun u' h'=>u' = .returning∧h'=h):=by
 refine mo (args:=[.pointer (some ⟨a,0,none⟩),.pointer (some ⟨b,0,none⟩),.pointer (some ⟨c,0,none⟩)]) (t:=6) (L:=L.cc.body.tail) (tys:=#[]) follows F.cc Q.cc (by kernel_rfl) (by kernel_rfl) (by kernel_rfl) (Nat.le_of_ble_eq_true (by kernel_rfl)) E.mj (by kernel_rfl) (by kernel_rfl) (Nat.le_of_ble_eq_true (by kernel_rfl)) ?_
 have hrec:iI .returning=(.nilIface,.returning):=rfl
 rw [hrec]
 simp [L.cc,LC.tail]
 refine wP (ms:=#[]) (by kernel_rfl) rfl (.inl ⟨rfl,rfl⟩) ?_
 simp
def manyN (f:ak) (k:Nat):Int:=up (fun i n=>n+(((nth f.blocks i).phis.length:Int)+(nth f.blocks i).ins.length)) k f.blocks.length
def zG (f:ak):Int:=manyN f f.blocks.length
def nO (g:Gr):List Int:=(tK g (g.length*g.length+1)).getD []
def tN (f:ak):Except Tr MW→Except Tr Unit
 | .error t=>.error t
 | .ok m=>oI f m (nO (ofG f.blocks))
def jZ (f:ak):Except Tr Unit:=
 if bn f.params 0 4=false then .error (1,0,0)
 else if f.blocks.length=0 then .error (14,0,0)
 else if ¬(f.blocks.length≤512∧zG f≤4096) then .error (2,0,0)
 else tN f (kA f (fun _=>none))
def gI (f:ak):Tr:=match jZ f with
 | .ok _=>(0,0,0)
 | .error t=>t
theorem Et {f:ak} {k:Nat}:0≤manyN f k:=by
 unfold manyN
 induction k with
 | zero=>simp [up]
 | succ k ih=>rw [up];omega
theorem CG {f:ak} {m m':MW} (h:kA f m = .ok m') : ∀ i,i<f.blocks.length→(nth f.blocks i).term.to.length≤65:=by
 intro i hi
 have key : ∀ n,n≤f.blocks.length→∃ s,upE (blkS f) n m = .ok s:=fun n hn=>by
  cases e:upE (blkS f) n m with
  | ok s=>exact ⟨s,rfl⟩
  | error t=>rw [kA,vH hn e] at h;cases h
 obtain ⟨s,hs⟩:=key i (by omega)
 obtain ⟨s',hs'⟩:=key (i+1) hi
 rw [ld hs,blkS] at hs'
 split at hs'
 ·cases hs'
 ·split at hs'
  ·cases hs'
  ·rw [endS] at hs'
   split at hs'
   ·rename_i hok
    rw [lW] at hok
    split at hok
    ·rename_i sh hsh
     simp only [bn,Bool.and_eq_true,decide_eq_true_eq] at hok
     have:sh.2.2.2≤65:=by
      simp only [eY,putM] at hsh
      repeat' (split at hsh)
      all_goals first | (cases hsh;done) | (cases hsh;decide)
     omega
    ·cases hok
   ·cases hs'
end Go.Proofs.Ytfelpjfopgiabaa
namespace Go.Proofs.Ytfelpjfopgiabaa
open Go Go.Lft
theorem BM {g:Gr} (hg:0<g.length):tK g (g.length*g.length+1)=some (nO g):=by
 obtain ⟨_,_,l,hl,_⟩:=uC hg
 rw [nO,hl];rfl
theorem one_cell {row r:Array Value} {v:Value} (hv:v.cells = #[v]) (hr:r.size=1) (he:row.toList=r.toList.take 0++v.cells.toList++r.toList.drop (0+1)):row = #[v]:=by
 rw [←Array.toList_inj,he,hv,List.take_zero,List.nil_append,List.drop_eq_nil_of_le (by simp [hr])]
 simp
structure SmB (x:BlkD):Prop where
 phis:x.phis.length≤10000
 ins:x.ins.length≤10000
 args:x.term.args.length≤10000
 to:x.term.to.length≤10000
 phi : ∀ i,i<x.phis.length→(nth x.phis i).ins.length≤10000
 inn : ∀ i,i<x.ins.length→(nth x.ins i).args.length≤10000
structure SmF (f:ak):Prop where
 len:f.blocks.length≤10000
 blk : ∀ i,i<f.blocks.length→SmB (nth f.blocks i)
theorem qK {f:ak} {v:Value} {h:Heap} (hv:Rd (vw h) v f) (hsm:SmF f) :
  aG Try.prog N.eT #[v] h (fun u h'=>u = .tuple #[.int .i64 (gI f).1,.int .i64 (gI f).2.1,.int .i64 (gI f).2.2]∧(vw h).le (vw h')):=by
 refine nH (args:=[v]) (g:=N.cc) (t:=9) (capops:=#[.tmp 2,.tmp 3,.tmp 4]) (tys:=#[])
  (Mid:=fun ρ hh=>ρ=[(0,v),(1,.pointer (some ⟨h.size,0,none⟩)),(2,.pointer (some ⟨h.size+1,0,none⟩)),(3,.pointer (some ⟨h.size+2,0,none⟩)),(4,.pointer (some ⟨h.size+3,0,none⟩))]∧hh.size=h.size+4∧(vw h).le (vw hh)∧At (vw hh) ⟨h.size,0,none⟩ f∧
   hh[h.size+1]? = some (.cells #[.int .i64 0] T.lf (0,0))∧hh[h.size+2]? = some (.cells #[.int .i64 0] T.int (0,0))∧hh[h.size+3]? = some (.cells #[.int .i64 0] T.int (0,0)))
  follows F.eT B.eT (by kernel_rfl) (by kernel_rfl) (by kernel_rfl) (by kernel_rfl) (by kernel_rfl) (by kernel_rfl) (Nat.le_of_ble_eq_true (by kernel_rfl)) (by kernel_rfl) E.jn (by kernel_rfl) E.fO (by kernel_rfl) R.tB (Nat.le_of_ble_eq_true (by kernel_rfl)) ?_ ?_
 ·simp [L.jn]
  refine eJ rfl hv fun h1 e1 hle1 hs1 hat=>?_
  refine fk (z:=.int .i64 0) (by kernel_rfl) ?_
  refine fk (z:=.int .i64 0) (by kernel_rfl) ?_
  refine fk (z:=.int .i64 0) (by kernel_rfl) ?_
  have q1:=bM h1 (.cells (Value.int .i64 0).cells T.lf)
  generalize e2:h1.push (.cells (Value.int .i64 0).cells T.lf)=h2 at q1
  have b2:h2[h1.size]? = some (.cells #[.int .i64 0] T.lf (0,0)):=by rw [←e2];simp
  have s2:h2.size=h1.size+1:=by rw [←e2];simp
  have q2:=bM h2 (.cells (Value.int .i64 0).cells T.int)
  generalize e3:h2.push (.cells (Value.int .i64 0).cells T.int)=h3 at q2
  have b3:h3[h2.size]? = some (.cells #[.int .i64 0] T.int (0,0)):=by rw [←e3];simp
  have s3:h3.size=h2.size+1:=by rw [←e3];simp
  have q3:=bM h3 (.cells (Value.int .i64 0).cells T.int)
  generalize e4:h3.push (.cells (Value.int .i64 0).cells T.int)=h4 at q3
  have b4:h4[h3.size]? = some (.cells #[.int .i64 0] T.int (0,0)):=by rw [←e4];simp
  have s4:h4.size=h3.size+1:=by rw [←e4];simp
  have hsz:h1.size=h.size+1:=hs1
  have e22:h2.size=h.size+2:=by omega
  have e32:h3.size=h.size+3:=by omega
  rw [hsz] at b2
  rw [e22] at b3
  rw [e32] at b4
  rw [e22,e32,hsz]
  simp
  exact ⟨by omega,View.le_trans hle1 (View.le_trans q1 (View.le_trans q2 q3)),hat.mono (View.le_trans q1 (View.le_trans q2 q3)),q3 _ _ (q2 _ _ b2),q3 _ _ b3,b4⟩
 ·rintro ρ hh ⟨rfl,hs,hle,hat,hb1,hb2,hb3⟩
  refine ⟨[.pointer (some ⟨h.size+1,0,none⟩),.pointer (some ⟨h.size+2,0,none⟩),.pointer (some ⟨h.size+3,0,none⟩)],by simp [pa],
   ⟨fun ch h2=>∃ t,jZ f = .error t∧ch=trV t∧(vw hh).le (vw h2),fun ρ=>Lft.look ρ 2=some (.pointer (some ⟨h.size+1,0,none⟩))∧Lft.look ρ 3=some (.pointer (some ⟨h.size+2,0,none⟩))∧Lft.look ρ 4=some (.pointer (some ⟨h.size+3,0,none⟩))⟩,?_,?_⟩
  rotate_left
  ·rintro ch ρ2 h2 ⟨t,ht,rfl,hle2⟩ ⟨l2,l3,l4⟩
   refine ⟨_,BQ (hle2 _ _ hb1) (hle2 _ _ hb2) (hle2 _ _ hb3) rfl rfl rfl (by omega) (by omega) (by omega),?_⟩
   rintro u' h3 ⟨rfl,g1,g2,g3,gs,go⟩
   have c1:an (vw h3) ⟨h.size+1,0,none⟩=some (.int .i64 t.1):=bY (show vw h3 _=_ from g1) rfl
   have c2:an (vw h3) ⟨h.size+2,0,none⟩=some (.int .i64 t.2.1):=bY (show vw h3 _=_ from g2) rfl
   have c3:an (vw h3) ⟨h.size+3,0,none⟩=some (.int .i64 t.2.2):=bY (show vw h3 _=_ from g3) rfl
   refine ⟨rfl,[.int .i64 t.1,.int .i64 t.2.1,.int .i64 t.2.2],by simp [R.eT,l2,l3,l4,c1,c2,c3],?_⟩
   refine ⟨by simp [gI,ht],fun b o hb=>?_⟩
   have hlt:=View.lt (View.le_refl (vw h)) hb
   show h3[b]? = _
   have hb2':=hle2 _ _ (hle _ _ hb)
   have hlt2:=View.lt (View.le_refl (vw h2)) hb2'
   rw [go b hlt2 (by omega) (by omega) (by omega)]
   exact hb2'
  ·obtain ⟨cp,vb,cb⟩:=gq hat
   have hbb:=cb.2.bound
   have bad : ∀ {t:Tr} {ch:List PanicEntry} {h2:Heap},jZ f = .error t→ch=trV t→(vw hh).le (vw h2)→∃ t,jZ f = .error t∧ch=trV t∧(vw hh).le (vw h2):=fun a b c=>⟨_,a,b,c⟩
   simp only [kh,AJ]
   dsimp only [L.fO]
   refine aa fun z hz=>?_
   simp [cp]
   refine aj (by kernel_rfl) gE ?_
   rintro _ _ ⟨rfl,rfl⟩
   refine dk (by kernel_rfl) fY ?_ ?_
   rotate_left
   ·rintro _ _ ⟨e,rfl,rfl⟩
    exact ⟨.inl rfl,bad (by rw [jZ,if_pos e]) rfl (View.le_refl _)⟩
   rintro _ hh ⟨e1,rfl⟩
   have e1':¬bn f.params 0 4=false:=by rw [e1];simp
   rw [hz];clear hz z
   refine aa fun z hz=>?_
   simp [cb.1,cb.2.len]
   refine dk (by kernel_rfl) fY ?_ ?_
   rotate_left
   ·rintro _ _ ⟨e,rfl,rfl⟩
    exact ⟨.inl rfl,bad (by rw [jZ,if_neg e1',if_pos (by simpa using e)]) rfl (View.le_refl _)⟩
   rintro _ hh ⟨e2,rfl⟩
   have e2':¬f.blocks.length=0:=by
    intro e;rw [e] at e2;simp at e2
   rw [hz];clear hz z
   refine aa fun z hz=>?_
   simp [cb.1,cb.2.len]
   rw [hz];clear hz z
   refine aa fun z hz=>?_
   simp [cb.1,cb.2.len]
   refine a8 [1,2,3,4,5,23,24,25] (fun (_:Unit) k=>[.pointer (some ⟨h.size,0,none⟩),.pointer (some ⟨h.size+1,0,none⟩),.pointer (some ⟨h.size+2,0,none⟩),.pointer (some ⟨h.size+3,0,none⟩),.int .i64 (manyN f k),vb,.int .i64 f.blocks.length,.int .i64 k])
    (fun _ k h1=>(vw hh).le (vw h1)∧manyN f k≤f.blocks.length+k*2000000) f.blocks.length ()
    rfl (by omega) rfl ⟨View.le_refl _,by simp [manyN,up]⟩ (fun _ _=>rfl) (fun v i h1 hk m=>by simp) ?_ ?_
   ·rintro _ k h1 hlt ⟨hle1,hmk⟩ K2 hK2
    have cb1:=cb.2.mono hle1
    obtain ⟨u,hu,hur⟩:=cb1.wh rfl (N:=6) rfl hlt
    refine aa fun y hy=>?_
    simp (disch:=omega) [cb1.idxn (N:=6) rfl,hu _ (View.le_refl _)]
    refine dU (z:=.agg #[.slice none 0 0,.slice none 0 0,.int .i64 0,.slice none 0 0,.slice none 0 0,.int .i32 0]) (by kernel_rfl) rfl (by kernel_rfl) hur (fun _=>by simp) (fun _=>by simp) fun h2 hle2 hsz2 hat2=>?_
    obtain ⟨vp,vi,va,vt,bp,bi,_⟩:=kC (hat2 (vw h2) hle2 rfl)
    have bph:=bp.2.bound
    have bih:=bi.2.bound
    have hm1:manyN f (k+1)=manyN f k+(((nth f.blocks k).phis.length:Int)+(nth f.blocks k).ins.length):=rfl
    have h0:=Et (f:=f) (k:=k)
    rw [hy];clear hy y
    simp [bp.1,bp.2.len,bi.1,bi.2.len]
    have s1:=(hsm.blk k hlt).phis
    have s2:=(hsm.blk k hlt).ins
    have s0:=hsm.len
    rw [cf (a:=((nth f.blocks k).phis.length:Int)+(nth f.blocks k).ins.length) (by omega) (by omega),cf (by omega) (by omega)]
    exact hK2 () _ _ rfl (by rw [hm1];rfl) ⟨View.le_trans hle1 hle2,by rw [hm1];omega⟩
   ·rintro _ h1 ⟨hle1,hmk⟩
    simp
    rw [hz];clear hz z
    refine aa fun z hz=>?_
    have cb1:=cb.2.mono hle1
    have cc1:=ah hle1 cb.1
    have cp1:=ah hle1 cp
    simp [cc1,cb1.len]
    have hms:manyN f f.blocks.length=zG f:=rfl
    rw [hms]
    refine dk (by kernel_rfl) fY ?_ ?_
    rotate_left
    ·rintro _ _ ⟨e,rfl,rfl⟩
     refine ⟨.inl rfl,bad ?_ rfl hle1⟩
     rw [jZ,if_neg e1',if_neg e2',if_pos]
     intro e3
     simp at e;omega
    rintro _ h1 ⟨e3,rfl⟩
    have e3':¬¬(f.blocks.length≤512∧zG f≤4096):=by
     simp at e3;omega
    have hchk:jZ f=tN f (kA f (fun _=>none)):=by rw [jZ,if_neg e1',if_neg e2',if_neg e3']
    rw [hz];clear hz z
    refine aa fun z hz=>?_
    simp [CW cp1 cc1]
    refine sJ ?_
    have hle2:=bM h1 (.map #[] 0)
    have hm2:fy (.int .i64) (h1.push (.map #[] 0)) h1.size (mapE encW fun _=>none):=by rw [tW];exact fy.none (by simp)
    have hs2:(h1.push (.map #[] 0)).size=h1.size+1:=by simp
    generalize h1.push (.map #[] 0)=h2 at hle2 hm2 hs2
    refine aL (z:=.agg #[.int .i64 0,.slice none 0 0,.map none]) (places:=[(0,2),(2,1)]) (vs:=[(0,.agg #[.int .i64 f.params,vb]),(1,.map (some h1.size))]) (cs:=#[.int .i64 f.params,vb,.map (some h1.size)]) (by kernel_rfl) (by kernel_rfl) (by simp) (by rfl) ?_
    refine jY (v:=.agg #[.int .i64 f.params,vb,.map (some h1.size)]) rfl ?_
    have hle3:=bM h2 (.cells (Value.cells (.agg #[.int .i64 f.params,vb,.map (some h1.size)])) T.gF)
    have hbk:(h2.push (.cells (Value.cells (.agg #[.int .i64 f.params,vb,.map (some h1.size)])) T.gF))[h2.size]? = some (.cells #[.int .i64 f.params,vb,.map (some h1.size)] T.gF (0,0)):=by simp
    have hs3:(h2.push (.cells (Value.cells (.agg #[.int .i64 f.params,vb,.map (some h1.size)])) T.gF)).size=h2.size+1:=by simp
    generalize h2.push (.cells (Value.cells (.agg #[.int .i64 f.params,vb,.map (some h1.size)])) T.gF)=h3 at hle3 hbk hs3
    rw [hz];clear hz z
    have hsk:skip h1.size h3 h2.size=some (.cells #[.int .i64 f.params,vb,.map (some h1.size)] T.gF (0,0)):=by rw [ke (by omega)];exact hbk
    have hle13:=View.le_trans hle2 hle3
    have hle1k:(vw h1).le (skip h1.size h3):=fun b o hb=>by
     have hlt:=View.lt (View.le_refl (vw h1)) hb
     rw [ke (by omega)];exact hle13 b o hb
    have k3:Lk h3 h2.size h1.size vb f (fun _=>none):=⟨bY hsk rfl,bY hsk rfl,bY hsk rfl,cb1.mono hle1k,hm2.ext hle3⟩
    generalize h2.size=Kb at k3
    generalize hr:h1.size=r at k3
    have hkk : ∀ {h':Heap},Kept h3 h' (some r)→(vw hh).le (vw h'):=fun kp b o hb=>by
     have h1b:=hle1 b o hb
     have hlt:=View.lt (View.le_refl (vw h1)) h1b
     have h3b:=hle13 b o h1b
     have hlt3:=View.lt (View.le_refl (vw h3)) h3b
     show _=_
     exact (kp.block b hlt3 (by simp;omega)).trans h3b
    refine aa fun z hz=>?_
    simp
    refine dk (by kernel_rfl) (Cg k3) ?_ ?_
    rotate_left
    ·rintro _ h4 ⟨t,ht,rfl,kp4⟩
     exact ⟨.inl rfl,bad (by rw [hchk,ht];rfl) rfl (hkk kp4)⟩
    rintro _ h4 ⟨m4,hm4,k4,kp4⟩
    have hto:=CG hm4
    rw [hm4] at hchk
    have hchk:jZ f=oI f m4 (nO (ofG f.blocks)):=hchk
    rw [hz];clear hz z
    refine aa fun z hz=>?_
    simp
    have hgl:(ofG f.blocks).length=f.blocks.length:=by simp [ofG]
    refine dk (by kernel_rfl) (DN k4 (Nat.le_trans hsm.len (by decide)) (fun i hi=>Nat.le_trans (hto i hi) (by decide)) (BM (by omega))) ?_ ?_
    rotate_left
    ·rintro _ h5 ⟨t,ht,rfl,hle5⟩
     exact ⟨.inl rfl,bad (by rw [hchk,ht]) rfl (View.le_trans (hkk kp4) hle5)⟩
    rintro _ h5 ⟨hus,hle5⟩
    have hle05:=View.le_trans (hkk kp4) hle5
    rw [hz];clear hz z
    simp
    refine dO (g:=h.size+1) (o:=0) (n:=1) (v:=.int .i64 0) (by kernel_rfl) rfl rfl rfl (by simp [Value.oneCell']) (hle05 _ _ hb1) (by simp) fun h6 hs6 ⟨row6,hr6,he6⟩ ho6=>?_
    refine dO (g:=h.size+2) (o:=0) (n:=1) (v:=.int .i64 0) (by kernel_rfl) rfl rfl rfl (by simp [Value.oneCell']) ((ho6 _ (by omega)).trans (hle05 _ _ hb2)) (by simp) fun h7 hs7 ⟨row7,hr7,he7⟩ ho7=>?_
    refine dO (g:=h.size+3) (o:=0) (n:=1) (v:=.int .i64 0) (by kernel_rfl) rfl rfl rfl (by simp [Value.oneCell']) ((ho7 _ (by omega)).trans ((ho6 _ (by omega)).trans (hle05 _ _ hb3))) (by simp) fun h8 hs8 ⟨row8,hr8,he8⟩ ho8=>?_
    rw [one_cell rfl rfl he6] at hr6
    rw [one_cell rfl rfl he7] at hr7
    rw [one_cell rfl rfl he8] at hr8
    refine ⟨_,zo,?_⟩
    rintro u' h9 ⟨rfl,rfl⟩
    have c1:an (vw h9) ⟨h.size+1,0,none⟩=some (.int .i64 0):=bY (show vw h9 _=_ from (ho8 _ (by omega)).trans ((ho7 _ (by omega)).trans hr6)) rfl
    have c2:an (vw h9) ⟨h.size+2,0,none⟩=some (.int .i64 0):=bY (show vw h9 _=_ from (ho8 _ (by omega)).trans hr7) rfl
    have c3:an (vw h9) ⟨h.size+3,0,none⟩=some (.int .i64 0):=bY (show vw h9 _=_ from hr8) rfl
    refine ⟨rfl,[.int .i64 0,.int .i64 0,.int .i64 0],by simp [R.eT,c1,c2,c3],?_⟩
    have htold:gI f=(0,0,0):=by rw [gI,hchk,hus]
    refine ⟨by simp [htold],fun b o hb=>?_⟩
    have hlt:=View.lt (View.le_refl (vw h)) hb
    show h9[b]? = _
    rw [ho8 b (by omega),ho7 b (by omega),ho6 b (by omega)]
    exact hle05 _ _ (hle _ _ hb)
theorem oS {f:ak} {v:Value} {h:Heap} (hv:Rd (vw h) v f) (hsm:SmF f) :
  aG Try.prog N.eG #[v] h (fun u h'=>u = .bool (decide ((gI f).1=0))∧(vw h).le (vw h')):=by
 refine ay (args:=[v]) follows F.eG E.eG (Nat.le_of_ble_eq_true (by kernel_rfl)) fun K hK=>?_
 simp [L.eG]
 refine eJ rfl hv fun h1 e1 hle1 hs1 hat=>?_
 obtain ⟨u,hu,hur⟩:=hat.al rfl
 have hu':Un.ev (vw h1) (.al 2) (.pointer (some ⟨h.size,0,none⟩))=some u:=hu
 simp [hu']
 refine aj (by kernel_rfl) (qK hur hsm) ?_
 rintro _ h2 ⟨rfl,hle2⟩
 simp
 exact hK _ _ ⟨rfl,View.le_trans hle1 hle2⟩
end Go.Proofs.Ytfelpjfopgiabaa
namespace Go.Proofs.Ytfelpjfopgiabaa
open Go Go.Lft
structure Th where
 blk:Int
 place:Int
 mks:List Int
 tks:List Int
 deriving Inhabited
def phiT (f:ak) (b i:Nat):Th:=⟨b,-1-i,[(nth (nth f.blocks b).phis i).dst],(nth (nth f.blocks b).phis i).ins.map InD.val⟩
def insT (f:ak) (b i:Nat):Th:=⟨b,i,aN (nth (nth f.blocks b).ins i),(nth (nth f.blocks b).ins i).args⟩
def endT (f:ak) (b:Nat):Th:=⟨b,(nth f.blocks b).ins.length,[],(nth f.blocks b).term.args⟩
def thB (f:ak) (b:Nat):List Th:=rows (phiT f b) (nth f.blocks b).phis.length++rows (insT f b) (nth f.blocks b).ins.length++[endT f b]
def thTo (f:ak) (n:Nat):List Th:=up (fun b l=>l++thB f b) n []
def ar (f:ak):List Th:=thTo f f.blocks.length
theorem ez {f:ak} {n:Nat}:thTo f (n+1)=thTo f n++thB f n:=rfl
theorem BW {f:ak} {n m:Nat} (h:n≤m):thTo f n <+: thTo f m:=by
 induction m with
 | zero=>rw [show n=0 by omega];exact List.prefix_refl _
 | succ m ih=>
  rcases Nat.lt_or_ge n (m+1) with h1 | h1
  ·exact (ih (by omega)).trans ⟨_,ez.symm⟩
  ·rw [show n=m+1 by omega];exact List.prefix_refl _
theorem xt {β:Type} {x:Nat→β} {n m:Nat} (h:n≤m):rows x n <+: rows x m:=by
 induction m with
 | zero=>rw [show n=0 by omega];exact List.prefix_refl _
 | succ m ih=>
  rcases Nat.lt_or_ge n (m+1) with h1 | h1
  ·exact (ih (by omega)).trans ⟨_,dy.symm⟩
  ·rw [show n=m+1 by omega];exact List.prefix_refl _
theorem vY {α:Type} {a b c:List α} (h:b <+: c):a++b <+: a++c:=by
 obtain ⟨t,rfl⟩:=h;exact ⟨t,by simp⟩
structure ThJ (J:List Th→View→Heap→Prop):Prop where
 le : ∀ {l W h},J l W h→W.le (vw h)
 ext : ∀ {l W h h'},J l W h→(vw h).le (vw h')→J l (grow W h h') h'
theorem pN {f:ak} {v:Value} {h:Heap} {V:View} {gf:Nat} {caps:List Value} {J:List Th→View→Heap→Prop} (hv:Rd V v f) (hsm:SmF f) (hJ:ThJ J) (hg:isFn Try.prog gf=true) (h0:J [] V h)
  (hstep : ∀ (l:List Th) (t:Th) (W:View) (h1:Heap) (vm vt:Value),V.le W→l++[t] <+: ar f→J l W h1→SlRd W vm t.mks→SlRd W vt t.tks→aG Try.prog gf (.int .i64 t.blk::.int .i64 t.place::vm::vt::caps).toArray h1 (fun _ h2=>J (l++[t]) W h2)) :
  aG Try.prog N.bT #[v,.func (.func gf) #[] caps.toArray] h (fun _ h'=>∃ W,V.le W∧J (ar f) W h'):=by
 refine ay (args:=[v,.func (.func gf) #[] caps.toArray]) follows F.bT E.bT (Nat.le_of_ble_eq_true (by kernel_rfl)) fun K hK=>?_
 dsimp only [L.bT]
 refine aa fun z hz=>?_
 simp
 refine eJ rfl (hv.mono (hJ.le h0)) fun h1 e1 hle1 hs1 hat=>?_
 have j1:=hJ.ext h0 hle1
 obtain ⟨cp,vb,cb⟩:=gq hat
 have hvb:SlRd V vb f.blocks:=by
  obtain ⟨u,hu,hur⟩:=hv.GG ak.xF rfl rfl (K:=vw h)
  have e:vb=u:=by
   have hv' : ∃ cs:Array Value,v = .agg cs∧Rep.rd V cs.toList f:=hv
   obtain ⟨cs,rfl,hcs⟩:=hv'
   have hb:h1[h.size]? = some (.cells cs T.aE (0,0)):=by rw [e1];simp
   have h3:an (vw h1) ⟨h.size,1,none⟩=cs[1]?:=by simp [an,vw,hb]
   simp at hu
   rw [cb.1] at h3
   rw [hu] at h3
   exact Option.some.inj h3
  rw [e];exact fH.1 hur
 have hVW:V.le (grow V h h1):=aX (hJ.le h0)
 generalize grow V h h1=W1 at j1 hVW
 generalize h.size=B at cb
 have hbb:=cb.2.bound
 rw [hz];clear hz z
 simp [cb.1,cb.2.len]
 refine a8 [1,14,15,16] (fun (_:Unit) b=>[.func (.func gf) #[] caps.toArray,vb,.int .i64 f.blocks.length,.int .i64 b]) (fun _ b h2=>∃ W,V.le W∧J (thTo f b) W h2) f.blocks.length ()
  rfl (by omega) rfl ⟨W1,hVW,j1⟩ (fun _ _=>rfl) (fun v i h1 hk m=>by simp) ?_ ?_
 ·rintro _ b h2 hltb ⟨W2,hW2,j2⟩ K2 hK2
  have hvb2:=hvb.mono (View.le_trans hW2 (hJ.le j2))
  obtain ⟨u,hu,hur⟩:=(hvb.mono hW2).wh rfl (N:=6) rfl hltb
  refine aa fun z hz=>?_
  simp (disch:=omega) [hvb2.idxn (N:=6) rfl,hu _ (hJ.le j2)]
  refine dU (X:=W2) (z:=.agg #[.slice none 0 0,.slice none 0 0,.int .i64 0,.slice none 0 0,.slice none 0 0,.int .i32 0]) (by kernel_rfl) rfl (by kernel_rfl) hur (fun _=>by simp) (fun _=>by simp) fun h3 hle3 hsz3 hat3=>?_
  have j3:=hJ.ext j2 hle3
  have hat3':=hat3 (grow W2 h2 h3) (aX (hJ.le j2)) (by unfold grow;rw [if_neg (by omega)])
  obtain ⟨vp,vi,va,vt,bp,bi,bk,ba,bt⟩:=kC hat3'
  have hVW3:=View.le_trans hW2 (aX (h':=h3) (hJ.le j2))
  generalize grow W2 h2 h3=W3 at j3 hVW3 bp bi bk ba bt
  generalize h2.size=D at bp bi bk ba bt
  have hpre:thTo f b++thB f b <+: ar f:=by rw [←ez];exact BW hltb
  rw [hz];clear hz z
  have bph:=bp.2.bound
  have bih:=bi.2.bound
  refine aa fun z hz=>?_
  simp [ah (hJ.le j3) bp.1,bp.2.len]
  refine a8 [1,4,5,14,15,16,22,23,24] (fun (_:Unit) i=>[.func (.func gf) #[] caps.toArray,.int .i64 b,.pointer (some ⟨D,0,none⟩),vb,.int .i64 f.blocks.length,.int .i64 b,vp,.int .i64 (nth f.blocks b).phis.length,.int .i64 i])
   (fun _ i h4=>∃ W,W3.le W∧J (thTo f b++rows (phiT f b) i) W h4) (nth f.blocks b).phis.length ()
   rfl (by omega) rfl ⟨W3,View.le_refl _,by simpa using j3⟩ (fun _ _=>rfl) (fun v i h1 hk m=>by simp) ?_ ?_
  ·rintro _ i h4 hlti ⟨W4,hW4,j4⟩ K3 hK3
   have bp4:=bp.2.mono (View.le_trans hW4 (hJ.le j4))
   obtain ⟨u4,hu4,hur4⟩:=bp4.wh rfl (N:=2) rfl hlti
   refine aa fun y hy=>?_
   simp (disch:=omega) [bp4.idxn (N:=2) rfl,hu4 _ (View.le_refl _)]
   refine dU (z:=.agg #[.int .i64 0,.slice none 0 0]) (by kernel_rfl) rfl (by kernel_rfl) hur4 (fun _=>by simp) (fun _=>by simp) fun h5 hle5 hsz5 hat5=>?_
   obtain ⟨c0,vq,cq⟩:=vf (hat5 (vw h5) hle5 rfl)
   have rd:=((hat5 (vw h5) hle5 rfl).part PhiD.iK).rng
   have hpl:=(hsm.blk b hltb).phi i hlti
   have hpt:phiT f b i=⟨b,-1-i,[(nth (nth f.blocks b).phis i).dst],(nth (nth f.blocks b).phis i).ins.map InD.val⟩:=rfl
   generalize nth (nth f.blocks b).phis i=x at c0 cq rd hpt hpl
   generalize h4.size=D4 at c0 cq
   have bq:=cq.2.bound
   rw [hy];clear hy y
   refine aa fun y hy=>?_
   simp
   rw [hy];clear hy y
   refine aa fun y hy=>?_
   simp [cq.1,cq.2.len]
   refine a8 [1,4,5,6,7,8,14,15,16,22,23,24,30,31,32] (fun (r:Value) j=>[.func (.func gf) #[] caps.toArray,.int .i64 b,.pointer (some ⟨D,0,none⟩),.int .i64 i,.pointer (some ⟨D4,0,none⟩),r,vb,.int .i64 f.blocks.length,.int .i64 b,vp,.int .i64 (nth f.blocks b).phis.length,.int .i64 i,vq,.int .i64 x.ins.length,.int .i64 j])
    (fun r j h6=>Mine nothing h5 h6 nothing T.int r ((x.ins.map InD.val).take j)) x.ins.length (.slice none 0 0)
    rfl (by omega) rfl (Mine.start aZ) (fun _ _=>rfl) (fun v i h1 hk m=>by simp) ?_ ?_
   ·rintro r j h6 hltj m6 K4 hK4
    have cq6:=cq.2.mono m6.old
    obtain ⟨u6,hu6,hur6⟩:=cq6.wh rfl (N:=2) rfl hltj
    refine aa fun q hq=>?_
    simp (disch:=omega) [cq6.idxn (N:=2) rfl,hu6 _ (View.le_refl _)]
    refine dU (z:=.agg #[.int .i64 0,.int .i64 0]) (by kernel_rfl) rfl (by kernel_rfl) hur6 (fun _=>by simp) (fun _=>by simp) fun h7 hle7 hsz7 hat7=>?_
    have e1:=(yz (hat7 (vw h7) hle7 rfl)).2
    have rv:=((hat7 (vw h7) hle7 rfl).part InD.qy).rng
    generalize h6.size=D6 at e1
    rw [hq];clear hq q
    simp [e1]
    have hl8:((x.ins.map InD.val).take j).length=j:=by simp;omega
    refine (m6.ext' hle7).push (d:=(nth x.ins j).val) El.aP (by simp<;>rfl) (jQ rv.1 rv.2) (by omega) (by omega) (fun _=>by simp) (fun _=>by simp) fun u8 v8 h8 m8=>?_
    refine hK4 v8 _ _ rfl rfl ?_
    rw [List.take_add_one,List.getElem?_map,List.getElem?_eq_getElem hltj]
    rw [aq hltj] at m8
    exact m8
   ·rintro r h6 m6
    rw [List.take_of_length_le (by simp)] at m6
    simp
    rw [hy];clear hy y
    simp (disch:=omega) [ah m6.old c0]
    refine fX (X:=nothing) (ds:=[x.dst]) (vs:=[.int .i64 x.dst]) rfl El.aP (by simp) ⟨cn.2 ⟨rfl,rd⟩,trivial⟩ aZ rfl (by omega) fun u7 h7 hle7 hsz7 hu7 _=>?_
    have hle47:=View.le_trans hle5 (View.le_trans m6.old hle7)
    have j7:=hJ.ext j4 hle47
    have hW7:=View.le_trans hW4 (aX (h':=h7) (hJ.le j4))
    have pre:(thTo f b++rows (phiT f b) i)++[phiT f b i] <+: ar f:=by
     rw [List.append_assoc,←dy]
     exact (vY ((xt hlti).trans ⟨_,(List.append_assoc ..).symm⟩)).trans hpre
    rw [hpt] at pre
    refine jz (ops:=[.tmp 43,.tmp 45,.tmp 48,.tmp 49]) rfl hg (hstep _ ⟨b,-1-i,[x.dst],x.ins.map InD.val⟩ _ h7 u7 r (View.le_trans hVW3 hW7) pre j7 (hu7 _ aZ (cQ (by have:=du hle5;have:=du m6.old;omega))) (m6.fresh.mono (sS (du hle5) hle7))) ?_
    rintro _ h8 j8
    exact hK3 () _ _ rfl rfl ⟨_,hW7,by rw [dy,←List.append_assoc,hpt];exact j8⟩
  ·rintro _ h4 ⟨W4,hW4,j4⟩
   simp
   rw [hz];clear hz z
   refine aa fun z hz=>?_
   have hW4h:=View.le_trans hW4 (hJ.le j4)
   simp [ah hW4h bi.1,(bi.2.mono hW4h).len]
   refine a8 [1,4,5,14,15,16,53,54,55] (fun (_:Unit) i=>[.func (.func gf) #[] caps.toArray,.int .i64 b,.pointer (some ⟨D,0,none⟩),vb,.int .i64 f.blocks.length,.int .i64 b,vi,.int .i64 (nth f.blocks b).ins.length,.int .i64 i])
    (fun _ i h5=>∃ W,W3.le W∧J (thTo f b++rows (phiT f b) (nth f.blocks b).phis.length++rows (insT f b) i) W h5) (nth f.blocks b).ins.length ()
    rfl (by omega) rfl ⟨W4,hW4,by simpa using j4⟩ (fun _ _=>rfl) (fun v i h1 hk m=>by simp) ?_ ?_
   ·rintro _ i h5 hlti ⟨W5,hW5,j5⟩ K3 hK3
    have bi5:=bi.2.mono (View.le_trans hW5 (hJ.le j5))
    obtain ⟨u5,hu5,hur5⟩:=(bi.2.mono hW5).wh rfl (N:=5) rfl hlti
    refine aa fun y hy=>?_
    simp (disch:=omega) [bi5.idxn (N:=5) rfl,hu5 _ (hJ.le j5)]
    refine dU (z:=.agg #[.int .i64 0,.int .i64 0,.int .i64 0,.slice none 0 0,.int .i32 0]) (by kernel_rfl) rfl (by kernel_rfl) hur5 (fun _=>by simp) (fun _=>by simp) fun h6 hle6 hsz6 hat6=>?_
    have hatg:=hat6 (grow W5 h5 h6) (aX (hJ.le j5)) (cQ (Nat.le_refl _))
    have hat6':=hatg.mono (jN (View.le_trans (hJ.le j5) hle6))
    obtain ⟨_,_,_,vq,cq⟩:=nr hatg
    obtain ⟨w,w1,w2⟩:=hat6'.al rfl
    have w1:Un.ev (vw h6) (.al 5) (.pointer (some ⟨h5.size,0,none⟩))=some w:=w1
    have hpt:insT f b i=⟨b,i,aN (nth (nth f.blocks b).ins i),(nth (nth f.blocks b).ins i).args⟩:=rfl
    generalize nth (nth f.blocks b).ins i=x at cq w2 hpt
    generalize h5.size=D5 at cq w1
    rw [hy];clear hy y
    have hg6:(grow W5 h5 h6).le (vw h6):=jN (View.le_trans (hJ.le j5) hle6)
    refine bO (vw h6) (View.le_refl _) ?_
    simp [ah hg6 cq.1,w1]
    refine aj (by kernel_rfl) (wG w2) ?_
    rintro u7 h7 ⟨hle7,hu7⟩
    refine ⟨hle7,?_⟩
    have hle57:=View.le_trans hle6 hle7
    have j7:=hJ.ext j5 hle57
    have hW7:=View.le_trans hW5 (aX (h':=h7) (hJ.le j5))
    have pre:(thTo f b++rows (phiT f b) (nth f.blocks b).phis.length++rows (insT f b) i)++[insT f b i] <+: ar f:=by
     rw [List.append_assoc,←dy,List.append_assoc]
     refine (vY ?_).trans hpre
     exact (vY (xt hlti)).trans ⟨_,rfl⟩
    rw [hpt] at pre
    refine jz (ops:=[.tmp 61,.tmp 62,.tmp 64,.tmp 66]) rfl hg (hstep _ ⟨b,i,aN x,x.args⟩ _ h7 u7 vq (View.le_trans hVW3 hW7) pre j7 (hu7.mono (sS (du hle6) (View.le_refl _))) (cq.2.mono (A7 hle7))) ?_
    rintro _ h8 j8
    exact hK3 () _ _ rfl rfl ⟨_,hW7,by rw [dy,←List.append_assoc,hpt];exact j8⟩
   ·rintro _ h5 ⟨W5,hW5,j5⟩
    simp
    rw [hz];clear hz z
    have hW5h:=View.le_trans hW5 (hJ.le j5)
    simp [ah hW5h bi.1,(bi.2.mono hW5h).len,ah hW5h ba.1]
    have pre:(thTo f b++rows (phiT f b) (nth f.blocks b).phis.length++rows (insT f b) (nth f.blocks b).ins.length)++[endT f b] <+: ar f:=by
     rw [List.append_assoc,List.append_assoc,←List.append_assoc (rows _ _)]
     exact hpre
    refine jz (ops:=[.tmp 70,.tmp 73,.const (.slice none 0 0),.tmp 76]) rfl hg (hstep _ ⟨b,(nth f.blocks b).ins.length,[],(nth f.blocks b).term.args⟩ _ h5 (.slice none 0 0) va (View.le_trans hVW3 hW5) pre j5 dM (ba.2.mono hW5)) ?_
    rintro _ h6 j6
    refine hK2 () _ _ rfl rfl ⟨_,View.le_trans hVW3 hW5,?_⟩
    have e:thTo f (b+1)=(thTo f b++rows (phiT f b) (nth f.blocks b).phis.length++rows (insT f b) (nth f.blocks b).ins.length)++[endT f b]:=by
     rw [ez,thB];simp [List.append_assoc]
    rw [e];exact j6
 ·rintro _ h2 ⟨W2,hW2,j2⟩
  simp
  exact hK _ _ ⟨W2,hW2,j2⟩
end Go.Proofs.Ytfelpjfopgiabaa
namespace Go.Proofs.Ytfelpjfopgiabaa
open Go Go.Lft
def db (top n:Int):Int:=if bn n 0 8191 then (if top<n+1 then n+1 else top) else top
def xm (top:Int) (t:Th):Int:=t.mks.foldl db top
def gS (ps:Int):Int:=if 8192<(if ps<0 then 0 else ps) then 8192 else (if ps<0 then 0 else ps)
def topS (f:ak):Int:=(ar f).foldl xm (gS f.params)
theorem sL {top n:Int} (h:0≤top∧top≤8192):0≤db top n∧db top n≤8192:=by
 unfold db
 split
 ·rename_i hw
  simp only [bn,Bool.and_eq_true,decide_eq_true_eq] at hw
  split<;>omega
 ·exact h
theorem hE {α β:Type} (I:β→Prop) {f:β→α→β} (hf : ∀ x a,I x→I (f x a)) : ∀ (l:List α) (x:β),I x→I (l.foldl f x)
 | [],_,h=>h
 | a::l,x,h=>hE I hf l _ (hf x a h)
theorem xp {top:Int} {t:Th} (h:0≤top∧top≤8192):0≤xm top t∧xm top t≤8192:=hE (fun x=>0≤x∧x≤8192) (fun _ _ h=>sL h) _ _ h
theorem sE {ps:Int}:0≤gS ps∧gS ps≤8192:=by unfold gS;split<;>split<;>omega
theorem zO {f:ak}:0≤topS f∧topS f≤8192:=hE (fun x=>0≤x∧x≤8192) (fun _ _ h=>xp h) _ _ sE
structure Nv (D:Nat) (T:TypeId) (x:Int) (W:View) (h:Heap):Prop where
 le:W.le (vw h)
 av:W D=none
 cell:h[D]? = some (.cells #[.int .i64 x] T (0,0))
theorem Nv.lt {D:Nat} {T:TypeId} {x:Int} {W:View} {h:Heap} (k:Nv D T x W h):D<h.size:=(Array.getElem?_eq_some_iff.1 k.cell).1
theorem Nv.ext {D:Nat} {T:TypeId} {x:Int} {W:View} {h h':Heap} (k:Nv D T x W h) (hle:(vw h).le (vw h')):Nv D T x (grow W h h') h':=
 ⟨jN (View.le_trans k.le hle),by rw [mY k.lt];exact k.av,hle _ _ k.cell⟩
theorem Nv.read {D:Nat} {T:TypeId} {x:Int} {W:View} {h:Heap} (k:Nv D T x W h):an (vw h) ⟨D,0,none⟩=some (.int .i64 x):=bY (show vw h D=_ from k.cell) rfl
theorem Nv.put {po:OP} {P:Program} {t ty:TypeId} {x y:Operand} {us:List (Nat × Value)} {D:Nat} {T:TypeId} {a b:Int} {W:View} {h:Heap} {K:Value→Heap→Prop} (k:Nv D T a W h) (hsz:b6 P t=some 1) (hx:asg us x = .pointer (some ⟨D,0,none⟩)) (hy:asg us y = .int .i64 b)
  (hK : ∀ h',Nv D T b W h'→K undef h'):Lft.step P (.store t x y) ty us h K:=by
 refine dO (g:=D) (o:=0) (n:=1) (v:=.int .i64 b) hsz hx hy rfl (by simp [Value.oneCell']) k.cell (by simp) fun h' hs ⟨row,hr,he⟩ ho=>hK h' ⟨fun c o hc=>?_,k.av,?_⟩
 ·have hne:c≠D:=fun e=>by rw [e,k.av] at hc;cases hc
  show h'[c]? = _
  rw [ho c hne];exact k.le c o hc
 ·rw [one_cell rfl rfl he] at hr;exact hr
theorem D0 {D:Nat} {x blk place:Int} {ms:List Int} {vm vt:Value} {W:View} {h:Heap} (k:Nv D T.int x W h) (hx:0≤x∧x≤8192) (hm:SlRd W vm ms) :
  aG Try.prog N.dH #[.int .i64 blk,.int .i64 place,vm,vt,.pointer (some ⟨D,0,none⟩)] h (fun _ h2=>Nv D T.int (ms.foldl db x) W h2):=by
 refine ay (args:=[.int .i64 blk,.int .i64 place,vm,vt,.pointer (some ⟨D,0,none⟩)]) follows F.dH E.dH (Nat.le_of_ble_eq_true (by kernel_rfl)) fun K hK=>?_
 have bm:=hm.bound
 simp [L.dH,(hm.mono k.le).len]
 refine a8 [4,11,12,13] (fun (_:Unit) i=>[.pointer (some ⟨D,0,none⟩),vm,.int .i64 ms.length,.int .i64 i]) (fun _ i h1=>Nv D T.int ((ms.take i).foldl db x) W h1) ms.length ()
  rfl (by omega) rfl k (fun _ _=>rfl) (fun v i h1 hk m=>by simp) ?_ ?_
 ·rintro _ i h1 hlt k1 K2 hK2
  have hm1:=hm.mono k1.le
  have hst:(ms.take (i+1)).foldl db x=db ((ms.take i).foldl db x) (nth ms i):=by
   rw [List.take_succ_eq_append_getElem hlt,List.foldl_append,aq hlt];rfl
  have hb:=hE (f:=db) (fun x=>0≤x∧x≤8192) (fun _ _ h=>sL h) (ms.take i) x hx
  generalize (ms.take i).foldl db x=y at k1 hst hb
  refine aa fun z hz=>?_
  simp (disch:=omega) [hm1.idx1 rfl,hm1.int (View.le_refl _)]
  rw [hz];clear hz z
  refine aa fun z hz=>?_
  simp
  refine aj (by kernel_rfl) gE ?_
  rintro _ _ ⟨rfl,rfl⟩
  rw [hz];clear hz z
  cases hw:bn (nth ms i) 0 8191 with
  | false=>
   simp
   exact hK2 () _ _ rfl rfl (by rw [hst,db,hw];exact k1)
  | true=>
   have hw':=hw
   simp only [bn,Bool.and_eq_true,decide_eq_true_eq] at hw'
   simp (disch:=omega) [k1.read]
   refine k1.put (by kernel_rfl) rfl rfl fun h2 k2=>?_
   exact hK2 () _ _ rfl rfl (by rw [hst,db,hw];exact k2)
 ·rintro _ h1 k1
  rw [List.take_length] at k1
  simp
  exact hK _ _ k1
theorem vW {f:ak} {v:Value} {h:Heap} (hv:Rd (vw h) v f) (hsm:SmF f):aG Try.prog N.gC #[v] h (fun u h'=>u = .int .i64 (topS f)∧(vw h).le (vw h')):=by
 refine ay (args:=[v]) follows F.gC E.gC (Nat.le_of_ble_eq_true (by kernel_rfl)) fun K hK=>?_
 dsimp only [L.gC]
 refine aa fun z hz=>?_
 simp
 refine eJ rfl hv fun h1 e1 hle1 hs1 hat=>?_
 obtain ⟨cp,vb,cb⟩:=gq hat
 obtain ⟨u,hu,hur⟩:=hat.al rfl
 have hu:Un.ev (vw h1) (.al 2) (.pointer (some ⟨h.size,0,none⟩))=some u:=hu
 generalize h.size=B at cp cb hu
 rw [hz];clear hz z
 refine aa fun z hz=>?_
 simp [cp]
 refine ir (n:=1) (z:=.int .i64 0) (v:=.int .i64 (gS f.params)) (by kernel_rfl) rfl (by kernel_rfl) rfl (by simp [Value.oneCell']) (fun _=>by simp) (fun _=>by simp [gS]) fun h2 hle2 hs2 hb2=>?_
 have hu2:Un.ev (vw h2) (.al 2) (.pointer (some ⟨B,0,none⟩))=some u:=by
  have:=cw (ρ:=fun _=>none) (e:=.un (.al 2) (.con (.pointer (some ⟨B,0,none⟩)))) hle2 (v:=u) (by simpa using hu)
  simpa using this
 rw [hz];clear hz z
 refine aa fun z hz=>?_
 simp [hu2]
 have hN:Nv h1.size T.int (gS f.params) (vw h1) h2:=⟨hle2,by simp [vw],hb2⟩
 refine aj (by kernel_rfl) (pN (caps:=[.pointer (some ⟨h1.size,0,none⟩)]) (J:=fun l W h=>Nv h1.size T.int (l.foldl xm (gS f.params)) W h) hur hsm ⟨fun k=>k.le,fun k hle=>k.ext hle⟩ (by kernel_rfl) hN fun l t W h3 vm vt hVW _ k hm ht=>?_) ?_
 ·have:=hE (f:=xm) (fun x=>0≤x∧x≤8192) (fun _ _ h=>xp h) l _ (sE (ps:=f.params))
  refine (D0 k this hm).mono fun _ h4 k4=>?_
  rw [List.foldl_append];exact k4
 ·rintro _ h3 ⟨W,hVW,k⟩
  rw [hz];clear hz z
  simp [k.read]
  exact hK _ _ ⟨rfl,View.le_trans hle1 (View.le_trans hVW k.le)⟩
def BB (x:Int):Int:=IntKind.i64.wrap (x+1)
def jO (l:List Int) (n:Int):List Int:=if bn n 0 ((l.length:Int)-1) then l.set n.toNat (BB (nth l n.toNat)) else l
def Bz (l:List Int) (t:Th):List Int:=t.tks.foldl jO l
def Ae (f:ak):List Int:=(ar f).foldl Bz (List.replicate (topS f).toNat 0)
theorem pw {x:Int}:-9223372036854775808≤IntKind.i64.wrap x∧IntKind.i64.wrap x≤9223372036854775807:=by
 rw [IntKind.wrap_i64];omega
structure Us (D:Nat) (vo:Value) (l:List Int) (W:View) (h:Heap):Prop where
 le:W.le (vw h)
 av:Av W vo
 own:OwnT nothing h T.int vo l
 box:an W ⟨D,0,none⟩=some vo
theorem Us.ext {D:Nat} {vo:Value} {l:List Int} {W:View} {h h':Heap} (k:Us D vo l W h) (hle:(vw h).le (vw h')):Us D vo l (grow W h h') h':=
 ⟨jN (View.le_trans k.le hle),k.av.grow fun b hb=>k.own.lt hb,k.own.ext hle,ah (aX k.le) k.box⟩
theorem Us.now {D:Nat} {vo:Value} {l:List Int} {W:View} {h:Heap} (k:Us D vo l W h):SlRd (vw h) vo l:=k.own.now aZ
theorem CI {D:Nat} {blk place:Int} {vo vm vt:Value} {l ts:List Int} {W:View} {h:Heap} (k:Us D vo l W h) (ht:SlRd W vt ts) :
  aG Try.prog N.dt #[.int .i64 blk,.int .i64 place,vm,vt,.pointer (some ⟨D,0,none⟩)] h (fun _ h2=>Us D vo (ts.foldl jO l) W h2):=by
 refine ay (args:=[.int .i64 blk,.int .i64 place,vm,vt,.pointer (some ⟨D,0,none⟩)]) follows F.dt E.dt (Nat.le_of_ble_eq_true (by kernel_rfl)) fun K hK=>?_
 have bm:=ht.bound
 simp [L.dt,(ht.mono k.le).len]
 refine a8 [4,11,12,13] (fun (_:Unit) i=>[.pointer (some ⟨D,0,none⟩),vt,.int .i64 ts.length,.int .i64 i]) (fun _ i h1=>Us D vo ((ts.take i).foldl jO l) W h1) ts.length ()
  rfl (by omega) rfl k (fun _ _=>rfl) (fun v i h1 hk m=>by simp) ?_ ?_
 ·rintro _ i h1 hlt k1 K2 hK2
  have hm1:=ht.mono k1.le
  have hst:(ts.take (i+1)).foldl jO l=jO ((ts.take i).foldl jO l) (nth ts i):=by
   rw [List.take_succ_eq_append_getElem hlt,List.foldl_append,aq hlt];rfl
  generalize (ts.take i).foldl jO l=y at k1 hst
  have hy:=k1.now
  have yb:=hy.bound
  refine aa fun z hz=>?_
  simp (disch:=omega) [hm1.idx1 rfl,hm1.int (View.le_refl _)]
  rw [hz];clear hz z
  refine aa fun z hz=>?_
  simp (disch:=omega) [ah k1.le k1.box,hy.len]
  refine aj (by kernel_rfl) gE ?_
  rintro _ _ ⟨rfl,rfl⟩
  rw [hz];clear hz z
  cases hw:bn (nth ts i) 0 ((y.length:Int)-1) with
  | false=>
   simp
   exact hK2 () _ _ rfl rfl (by rw [hst,jO,hw];exact k1)
  | true=>
   have hw':=hw
   simp only [bn,Bool.and_eq_true,decide_eq_true_eq] at hw'
   simp (disch:=omega) [ah k1.le k1.box,hy.idx1 rfl,hy.int (View.le_refl _)]
   refine oC (W:=nothing) (i:=(nth ts i).toNat) (d:=BB (nth y (nth ts i).toNat)) (by kernel_rfl) (by simp [show Rep.n Int=1 from rfl]) (by simp [BB]<;>rfl) k1.own (by omega) (cn.2 ⟨rfl,pw⟩) fun h2 o2 m2=>?_
   refine hK2 () _ _ rfl rfl ?_
   rw [hst,jO,hw]
   exact ⟨(m2.view k1.le k1.av).1,k1.av,o2,k1.box⟩
 ·rintro _ h1 k1
  rw [List.take_length] at k1
  simp
  exact hK _ _ k1
theorem Da {f:ak} {v:Value} {h:Heap} (hv:Rd (vw h) v f) (hsm:SmF f):aG Try.prog N.fI #[v] h (fun u h'=>(vw h).le (vw h')∧SlRd (fresh h h') u (Ae f)):=by
 refine ay (args:=[v]) follows F.fI E.fI (Nat.le_of_ble_eq_true (by kernel_rfl)) fun K hK=>?_
 dsimp only [L.fI]
 refine aa fun z hz=>?_
 simp
 refine eJ rfl hv fun h1 e1 hle1 hs1 hat=>?_
 obtain ⟨u,hu,hur⟩:=hat.al rfl
 have hu:Un.ev (vw h1) (.al 2) (.pointer (some ⟨h.size,0,none⟩))=some u:=hu
 generalize h.size=B at hu
 rw [hz];clear hz z
 refine aa fun z hz=>?_
 simp [hu]
 refine aj (by kernel_rfl) (vW hur hsm) ?_
 rintro _ h2 ⟨rfl,hle2⟩
 have ht:=zO (f:=f)
 obtain ⟨n,hn⟩:=Int.eq_ofNat_of_zero_le ht.1
 refine Mine.made (k:=.i64) (V:=nothing) (W:=nothing) (h0:=h) (n:=n) (d:=(0:Int)) El.aP (View.le_trans hle1 hle2) aZ (Old.nothing _ _) (by simp [hn]) (by simp [hn]) ⟨rfl,by omega,by omega⟩ (by omega) (by omega) fun vo h3 m3 hle3 hb3=>?_
 obtain ⟨hvc,hvo⟩:=iO m3.own
 refine ir (n:=1) (z:=.slice none 0 0) (v:=vo) (by kernel_rfl) rfl (by kernel_rfl) (by rw [hvc];rfl) (by rw [hvc];simpa using hvo) (fun _=>by simp) (fun _=>by simp) fun h4 hle4 hs4 hb4=>?_
 have hle14:=View.le_trans hle2 (View.le_trans hle3 hle4)
 have hu4:Un.ev (vw h4) (.al 2) (.pointer (some ⟨B,0,none⟩))=some u:=by
  have:=cw (ρ:=fun _=>none) (e:=.un (.al 2) (.con (.pointer (some ⟨B,0,none⟩)))) hle14 (v:=u) (by simpa using hu)
  simpa using this
 rw [hz];clear hz z
 refine aa fun z hz=>?_
 simp [hu4]
 have hbut:(but vo h4).le (vw h4):=yK
 have hs2:h2.size<h3.size:=m3.own.lt hb3
 have hDne:vo.ownBlock≠some h3.size:=by rw [hb3];intro e;simp only [Option.some.injEq] at e;omega
 have hrow:Ae f=(ar f).foldl Bz (List.replicate n 0):=by rw [Ae,hn];rfl
 have hU:Us h3.size vo (List.replicate n 0) (but vo h4) h4:=⟨hbut,BS,m3.own.ext hle4,bY (c:=#[vo]) (T:=T.aP) (fz:=(0,0)) (by unfold but;rw [if_neg hDne,hb4,hvc]) rfl⟩
 have hur4:Rd (but vo h4) u f:=by
  have:=hur.mono (K:=but vo h4) (fun b o hb=>by
   have hlt:=View.lt (View.le_refl (vw h1)) hb
   have h4b:=hle14 b o hb
   unfold but
   rw [if_neg]
   ·exact h4b
   ·rw [hb3];intro e;simp only [Option.some.injEq] at e;have:=du hle2;omega)
  exact this
 refine aj (by kernel_rfl) (pN (caps:=[.pointer (some ⟨h3.size,0,none⟩)]) (J:=fun l W h=>Us h3.size vo (l.foldl Bz (List.replicate n 0)) W h) hur4 hsm ⟨fun k=>k.le,fun k hle=>k.ext hle⟩ (by kernel_rfl) hU fun l t W h5 vm vt hVW _ k hm ht=>?_) ?_
 ·refine (CI k ht).mono fun _ h6 k6=>?_
  rw [List.foldl_append];exact k6
 ·rintro _ h5 ⟨W,hVW,k⟩
  rw [hz];clear hz z
  simp [ah k.le k.box]
  have hle:(vw h).le (vw h5):=fun b o hb=>by
   have hlt:=View.lt (View.le_refl (vw h)) hb
   refine k.le b o (hVW b o ?_)
   unfold but
   rw [if_neg]
   ·exact View.le_trans hle1 hle14 b o hb
   ·rw [hb3];intro e;simp only [Option.some.injEq] at e;have:=du hle2;omega
  refine hK _ _ ⟨hle,?_⟩
  rw [hrow]
  refine k.own.fresh (fun _ _ h=>by cases h) fun b hb=>?_
  rw [hb3] at hb;cases hb
  exact View.de (View.le_refl _) (by have:=du hle2;omega)
end Go.Proofs.Ytfelpjfopgiabaa
namespace Go.Proofs.Ytfelpjfopgiabaa
open Go Go.Lft
theorem sW {β:Type} {x:Nat→β} {n:Nat} {y:β}:y∈rows x n↔∃ i,i<n∧y=x i:=by
 simp only [rows,List.mem_map,List.mem_range]
 exact ⟨fun ⟨i,h,e⟩=>⟨i,h,e.symm⟩,fun ⟨i,h,e⟩=>⟨i,h,e.symm⟩⟩
theorem dh {f:ak} {n:Nat} {t:Th}:t∈thTo f n↔∃ b,b<n∧t∈thB f b:=by
 induction n with
 | zero=>simp [thTo,up]
 | succ n ih=>
  rw [ez,List.mem_append,ih]
  constructor
  ·rintro (⟨b,h1,h2⟩ | h)
   ·exact ⟨b,by omega,h2⟩
   ·exact ⟨n,by omega,h⟩
  ·rintro ⟨b,h1,h2⟩
   rcases Nat.lt_or_ge b n with h | h
   ·exact .inl ⟨b,h,h2⟩
   ·rw [show b=n by omega] at h2;exact .inr h2
theorem dC {f:ak} {b:Nat} {t:Th}:t∈thB f b↔(∃ i,i<(nth f.blocks b).phis.length∧t=phiT f b i)∨(∃ i,i<(nth f.blocks b).ins.length∧t=insT f b i)∨t=endT f b:=by
 simp only [thB,List.mem_append,sW,List.mem_singleton,or_assoc]
theorem y9 {i:InsD}:(aN i).length≤2:=by unfold aN;split<;>(try split)<;>simp
structure ThOk (f:ak) (t:Th):Prop where
 blk:0≤t.blk∧t.blk<f.blocks.length
 place:-10000≤t.place∧t.place≤10000
 mks:t.mks.length≤10000
 tks:t.tks.length≤10000
 ins:0≤t.place→t.mks≠[]→t.place<(nth f.blocks t.blk.toNat).ins.length
theorem ym {f:ak} (hsm:SmF f) {t:Th} (h:t∈ar f):ThOk f t:=by
 obtain ⟨b,hb,h⟩:=dh.1 h
 have s:=hsm.blk b hb
 have sp:=s.phis
 have si:=s.ins
 rcases dC.1 h with ⟨i,hi,rfl⟩ | ⟨i,hi,rfl⟩ | rfl
 ·exact ⟨⟨by simp [phiT],by simp [phiT];omega⟩,by simp only [phiT];omega,by simp [phiT],by simpa [phiT] using s.phi i hi,fun h=>by simp only [phiT] at h;omega⟩
 ·refine ⟨⟨by simp [insT],by simp [insT];omega⟩,by simp only [insT];omega,Nat.le_trans y9 (by decide),s.inn i hi,fun _ _=>by simp [insT];omega⟩
 ·exact ⟨⟨by simp [endT],by simp [endT];omega⟩,by simp only [endT];omega,by simp [endT],s.args,fun _ h=>absurd rfl h⟩
theorem sO {f:ak} (hsm:SmF f) : ∀ {n:Nat},n≤f.blocks.length→(thTo f n).length≤n*20001
 | 0,_=>by simp [thTo,up]
 | n+1,h=>by
  have ih:=sO hsm (n:=n) (by omega)
  have s:=hsm.blk n (by omega)
  have sp:=s.phis
  have si:=s.ins
  rw [ez,List.length_append,thB]
  simp only [List.length_append,ll,List.length_singleton]
  omega
theorem yG {f:ak} (hsm:SmF f):(ar f).length≤200010000:=by
 have:=sO hsm (Nat.le_refl f.blocks.length)
 have:=hsm.len
 unfold ar;omega
abbrev WL:=List (Int × Int)
def bh (val:Int) (w:Int × Int) (l:WL) (n:Int):WL:=if n=val then l++[w] else l
def kL (val:Int) (l:WL) (t:Th):WL:=t.mks.foldl (bh val (t.blk,t.place)) l
def lI (val:Int) (l:WL) (t:Th):WL:=t.tks.foldl (bh val (t.blk,t.place)) l
theorem jh {val:Int} {w:Int × Int} {ns:List Int} : ∀ {l:WL},(ns.foldl (bh val w) l).length≤l.length+ns.length:=by
 induction ns with
 | nil=>simp
 | cons n ns ih=>
  intro l
  rw [List.foldl_cons]
  have:=ih (l:=bh val w l n)
  have h2:(bh val w l n).length≤l.length+1:=by unfold bh;split<;>simp
  simp only [List.length_cons];omega
theorem rz {F:WL→Th→WL} {c:Nat} {l:List Th} (h : ∀ t∈l,∀ x,(F x t).length≤x.length+c) : ∀ (x:WL),(l.foldl F x).length≤x.length+l.length*c:=by
 induction l with
 | nil=>simp
 | cons t l ih=>
  intro x
  rw [List.foldl_cons]
  have h1:=ih (fun t ht=>h t (List.mem_cons_of_mem _ ht)) (F x t)
  have h2:=h t (List.mem_cons_self ..) x
  simp only [List.length_cons,Nat.succ_mul];omega
def pf (B1:Nat) (v1:Value) (l1:WL) (B2:Nat) (v2:Value) (l2:WL):Own:=fun k=>
 if k=(0,0) then bx T.bj B1 (Raw.mk v1) else if k=(0,1) then it T.hZ v1 l1 else if k=(1,0) then bx T.bj B2 (Raw.mk v2) else if k=(1,1) then it T.hZ v2 l2 else none
structure Fo (val:Int) (C B1 B2:Nat) (l1 l2:WL) (W:View) (h:Heap):Prop where
 box:an W ⟨C,0,none⟩=some (.int .i64 val)
 ex : ∃ v1 v2,Owns W h (pf B1 v1 l1 B2 v2 l2)
theorem Fo.le {val:Int} {C B1 B2:Nat} {l1 l2:WL} {W:View} {h:Heap} (k:Fo val C B1 B2 l1 l2 W h):W.le (vw h):=let ⟨_,_,w⟩:=k.ex;w.wle
theorem Fo.ext {val:Int} {C B1 B2:Nat} {l1 l2:WL} {W:View} {h h':Heap} (k:Fo val C B1 B2 l1 l2 W h) (hle:(vw h).le (vw h')):Fo val C B1 B2 l1 l2 (grow W h h') h':=
 ⟨ah (aX k.le) k.box,let ⟨v1,v2,w⟩:=k.ex;⟨v1,v2,w.ext hle⟩⟩
theorem Bw {val blk place:Int} {C B1 B2:Nat} {l1 l2:WL} {ms ts:List Int} {vm vt:Value} {W:View} {h:Heap} (k:Fo val C B1 B2 l1 l2 W h) (hm:SlRd W vm ms) (ht:SlRd W vt ts) (r1:-10000≤blk∧blk≤10000) (r2:-10000≤place∧place≤10000)
  (b1:l1.length+ms.length≤2000100000000) (b2:l2.length+ts.length≤2000100000000) :
  aG Try.prog N.bG #[.int .i64 blk,.int .i64 place,vm,vt,.pointer (some ⟨C,0,none⟩),.pointer (some ⟨B1,0,none⟩),.pointer (some ⟨B2,0,none⟩)] h
   (fun _ h2=>Fo val C B1 B2 (ms.foldl (bh val (blk,place)) l1) (ts.foldl (bh val (blk,place)) l2) W h2):=by
 refine ay (args:=[.int .i64 blk,.int .i64 place,vm,vt,.pointer (some ⟨C,0,none⟩),.pointer (some ⟨B1,0,none⟩),.pointer (some ⟨B2,0,none⟩)]) follows F.bG E.bG (Nat.le_of_ble_eq_true (by kernel_rfl)) fun K hK=>?_
 have bm:=hm.bound
 have bt:=ht.bound
 dsimp only [L.bG]
 refine aa fun z hz=>?_
 simp [(hm.mono k.le).len]
 refine a8 [0,1,3,4,5,6,15,16,17] (fun (_:Unit) i=>[.int .i64 blk,.int .i64 place,vt,.pointer (some ⟨C,0,none⟩),.pointer (some ⟨B1,0,none⟩),.pointer (some ⟨B2,0,none⟩),vm,.int .i64 ms.length,.int .i64 i])
  (fun _ i h1=>Fo val C B1 B2 ((ms.take i).foldl (bh val (blk,place)) l1) l2 W h1) ms.length ()
  rfl (by omega) rfl k (fun _ _=>rfl) (fun v i h1 hk m=>by simp) ?_ ?_
 ·rintro _ i h1 hlt k1 K2 hK2
  have hm1:=hm.mono k1.le
  have hst:(ms.take (i+1)).foldl (bh val (blk,place)) l1=bh val (blk,place) ((ms.take i).foldl (bh val (blk,place)) l1) (nth ms i):=by
   rw [List.take_succ_eq_append_getElem hlt,List.foldl_append,aq hlt];rfl
  have hlen:=jh (val:=val) (w:=(blk,place)) (ns:=ms.take i) (l:=l1)
  rw [List.length_take] at hlen
  generalize (ms.take i).foldl (bh val (blk,place)) l1=y at k1 hst hlen
  refine aa fun z hz=>?_
  simp (disch:=omega) [hm1.idx1 rfl,hm1.int (View.le_refl _)]
  rw [hz];clear hz z
  refine aa fun z hz=>?_
  simp [ah k1.le k1.box]
  rw [hz];clear hz z
  by_cases he:nth ms i=val
  ·rw [bh,if_pos he] at hst
   obtain ⟨v1,v2,w⟩:=k1.ex
   have hbx:=(w.at (k:=(0,0)) (d:=Raw.mk v1) (B:=B1) (e:=T.bj) rfl).raw
   simp [he,hbx]
   refine aL (z:=.agg #[.int .i64 0,.int .i64 0]) (places:=[(0,1),(1,1)]) (vs:=[(0,.int .i64 blk),(1,.int .i64 place)]) (cs:=#[.int .i64 blk,.int .i64 place]) (by kernel_rfl) (by kernel_rfl) (by simp) (by rfl) ?_
   refine w.dL (k:=(0,1)) (α:=Int × Int) (d:=(blk,place)) rfl El.bj rfl (zC.2 ⟨rfl,⟨by omega,by omega⟩,by omega,by omega⟩) (by omega) (by omega) (fun _=>rfl) (fun _=>rfl) fun u v' h2 w2 hs2=>?_
   have hc:=w2.cells (k:=(0,1)) (Own.ag)
   refine w2.fj (k:=(0,0)) (D:=Raw.mk v1) (B:=B1) (e:=T.bj) (Part.all) (d:=Raw.mk v') rfl (by kernel_rfl) rfl rfl (kP.2 ⟨rfl,hc.2⟩) fun h3 w3 hs3=>?_
   refine hK2 () _ _ rfl rfl ⟨k1.box,v',v2,w3.congr fun q=>?_⟩
   rw [hst]
   unfold pf Own.upd
   repeat' split
   all_goals first | rfl | simp_all
  ·rw [bh,if_neg he] at hst
   simp [he]
   exact hK2 () _ _ rfl rfl (by rw [hst];exact k1)
 ·rintro _ h1 k1
  rw [List.take_length] at k1
  simp
  rw [hz];clear hz z
  simp [(ht.mono k1.le).len]
  generalize ms.foldl (bh val (blk,place)) l1=m1 at k1 hK
  refine a8 [0,1,4,5,6,31,32,33] (fun (_:Unit) i=>[.int .i64 blk,.int .i64 place,.pointer (some ⟨C,0,none⟩),.pointer (some ⟨B1,0,none⟩),.pointer (some ⟨B2,0,none⟩),vt,.int .i64 ts.length,.int .i64 i])
   (fun _ i h2=>Fo val C B1 B2 m1 ((ts.take i).foldl (bh val (blk,place)) l2) W h2) ts.length ()
   rfl (by omega) rfl k1 (fun _ _=>rfl) (fun v i h1 hk m=>by simp) ?_ ?_
  ·rintro _ i h2 hlt k2 K2 hK2
   have ht2:=ht.mono k2.le
   have hst:(ts.take (i+1)).foldl (bh val (blk,place)) l2=bh val (blk,place) ((ts.take i).foldl (bh val (blk,place)) l2) (nth ts i):=by
    rw [List.take_succ_eq_append_getElem hlt,List.foldl_append,aq hlt];rfl
   have hlen:=jh (val:=val) (w:=(blk,place)) (ns:=ts.take i) (l:=l2)
   rw [List.length_take] at hlen
   generalize (ts.take i).foldl (bh val (blk,place)) l2=y at k2 hst hlen
   refine aa fun z hz=>?_
   simp (disch:=omega) [ht2.idx1 rfl,ht2.int (View.le_refl _)]
   rw [hz];clear hz z
   refine aa fun z hz=>?_
   simp [ah k2.le k2.box]
   rw [hz];clear hz z
   by_cases he:nth ts i=val
   ·rw [bh,if_pos he] at hst
    obtain ⟨v1,v2,w⟩:=k2.ex
    have hbx:=(w.at (k:=(1,0)) (d:=Raw.mk v2) (B:=B2) (e:=T.bj) rfl).raw
    simp [he,hbx]
    refine aL (z:=.agg #[.int .i64 0,.int .i64 0]) (places:=[(0,1),(1,1)]) (vs:=[(0,.int .i64 blk),(1,.int .i64 place)]) (cs:=#[.int .i64 blk,.int .i64 place]) (by kernel_rfl) (by kernel_rfl) (by simp) (by rfl) ?_
    refine w.dL (k:=(1,1)) (α:=Int × Int) (d:=(blk,place)) rfl El.bj rfl (zC.2 ⟨rfl,⟨by omega,by omega⟩,by omega,by omega⟩) (by omega) (by omega) (fun _=>rfl) (fun _=>rfl) fun u v' h3 w2 hs2=>?_
    have hc:=w2.cells (k:=(1,1)) (Own.ag)
    refine w2.fj (k:=(1,0)) (D:=Raw.mk v2) (B:=B2) (e:=T.bj) (Part.all) (d:=Raw.mk v') rfl (by kernel_rfl) rfl rfl (kP.2 ⟨rfl,hc.2⟩) fun h4 w3 hs3=>?_
    refine hK2 () _ _ rfl rfl ⟨k2.box,v1,v',w3.congr fun q=>?_⟩
    rw [hst]
    unfold pf Own.upd
    repeat' split
    all_goals first | rfl | simp_all
   ·rw [bh,if_neg he] at hst
    simp [he]
    exact hK2 () _ _ rfl rfl (by rw [hst];exact k2)
  ·rintro _ h2 k2
   rw [List.take_length] at k2
   simp
   exact hK _ _ k2
def mR (val:Int) (l:List Th):WL:=l.foldl (kL val) []
def kO (val:Int) (l:List Th):WL:=l.foldl (lI val) []
def jS (l1 l2:WL):Bool:=!decide (l1.length=1)||!decide (l2.length=1)||decide ((nth l1 0).2<0)||!decide ((nth l1 0).1=(nth l2 0).1)||decide ((nth l2 0).2≤(nth l1 0).2)
def jU (f:ak) (val:Int) (l1 l2:WL):Bool:=!jS l1 l2&&(decide ((nth (nth f.blocks (nth l1 0).1.toNat).ins (nth l1 0).2.toNat).dst=val)&&[1,2,4,11,12,13].contains (nth (nth f.blocks (nth l1 0).1.toNat).ins (nth l1 0).2.toNat).op)
def gA (f:ak) (val:Int):Bool:=jU f val (mR val (ar f)) (kO val (ar f))
theorem tx {val:Int} {w x:Int × Int} {ns:List Int} : ∀ {l:WL},x∈ns.foldl (bh val w) l↔x∈l∨(x=w∧val∈ns):=by
 induction ns with
 | nil=>simp
 | cons n ns ih=>
  intro l
  rw [List.foldl_cons,ih,bh]
  grind
theorem pA {val:Int} {x:Int × Int} {l:List Th} : ∀ {y:WL},x∈l.foldl (kL val) y↔x∈y∨∃ t∈l,x=(t.blk,t.place)∧val∈t.mks:=by
 induction l with
 | nil=>simp
 | cons t l ih=>
  intro y
  rw [List.foldl_cons,ih,kL,tx]
  simp only [List.mem_cons,exists_eq_or_imp]
  constructor
  ·rintro ((h | h) | h)
   ·exact .inl h
   ·exact .inr (.inl h)
   ·exact .inr (.inr h)
  ·rintro (h | h | h)
   ·exact .inl (.inl h)
   ·exact .inl (.inr h)
   ·exact .inr h
theorem jB {f:ak} {v:Value} {val:Int} {h:Heap} (hv:Rd (vw h) v f) (hsm:SmF f) (hval:I64 val):aG Try.prog N.dr #[v,.int .i64 val] h (fun u h'=>u = .bool (gA f val)∧(vw h).le (vw h')):=by
 refine ay (args:=[v,.int .i64 val]) follows F.dr E.dr (Nat.le_of_ble_eq_true (by kernel_rfl)) fun K hK=>?_
 dsimp only [L.dr]
 refine aa fun z hz=>?_
 simp
 refine eJ rfl hv fun h1 e1 hle1 hs1 hat=>?_
 refine eJ (α:=Int) rfl (cn.2 ⟨rfl,hval⟩) fun h2 e2 hle2 hs2 hat2=>?_
 have hatf:=hat.mono hle2
 obtain ⟨u,hu,hur⟩:=hatf.al rfl
 have hu:Un.ev (vw h2) (.al 2) (.pointer (some ⟨h.size,0,none⟩))=some u:=hu
 obtain ⟨cp,vb,cb⟩:=gq hatf
 have cval:=hat2.int
 generalize hB:h.size=B at hu cp cb
 generalize hC:h1.size=C at cval
 rw [hz];clear hz z
 refine aa fun z hz=>?_
 simp
 refine fk (z:=.slice none 0 0) (by kernel_rfl) ?_
 refine fk (z:=.slice none 0 0) (by kernel_rfl) ?_
 have q1:=bM h2 (.cells (Value.slice none 0 0).cells T.bj)
 generalize e3:h2.push (.cells (Value.slice none 0 0).cells T.bj)=h3 at q1
 have b3:h3[h2.size]? = some (.cells (Value.slice none 0 0).cells T.bj (0,0)):=by rw [←e3];simp
 have s3:h3.size=h2.size+1:=by rw [←e3];simp
 have q2:=bM h3 (.cells (Value.slice none 0 0).cells T.bj)
 generalize e4:h3.push (.cells (Value.slice none 0 0).cells T.bj)=h4 at q2
 have b4:h4[h3.size]? = some (.cells (Value.slice none 0 0).cells T.bj (0,0)):=by rw [←e4];simp
 have hle24:=View.le_trans q1 q2
 have w0:Owns (vw h2) h4 (pf h2.size (.slice none 0 0) [] h3.size (.slice none 0 0) []):=by
  have w1:=(Owns.start (h:=h2) (View.le_refl (vw h2))).add (k:=(0,0)) rfl (jy (h:=h3) (e:=T.bj) (d:=Raw.mk (.slice none 0 0)) b3 (kP.2 ⟨rfl,rfl⟩) (by decide)) q1 (fun b hb=>by simp only [Value.ownBlock,Option.some.injEq] at hb;omega)
  have w2:=w1.add (k:=(1,0)) rfl (jy (h:=h4) (e:=T.bj) (d:=Raw.mk (.slice none 0 0)) b4 (kP.2 ⟨rfl,rfl⟩) (by decide)) q2 (fun b hb=>by simp only [Value.ownBlock,Option.some.injEq] at hb;omega)
  have w3:=w2.add (k:=(0,1)) rfl (OwnT.nil (α:=Int × Int) (vw h2) h4 T.hZ) (View.le_refl _) (fun b hb=>by simp [Value.ownBlock] at hb)
  have w4:=w3.add (k:=(1,1)) rfl (OwnT.nil (α:=Int × Int) (vw h2) h4 T.hZ) (View.le_refl _) (fun b hb=>by simp [Value.ownBlock] at hb)
  refine w4.congr fun q=>?_
  unfold pf Own.upd
  repeat' split
  all_goals first | rfl | simp_all
 have k0:Fo val C h2.size h3.size [] [] (vw h2) h4:=⟨cval,_,_,w0⟩
 have hu4:Un.ev (vw h4) (.al 2) (.pointer (some ⟨B,0,none⟩))=some u:=by
  have:=cw (ρ:=fun _=>none) (e:=.un (.al 2) (.con (.pointer (some ⟨B,0,none⟩)))) hle24 (v:=u) (by simpa using hu)
  simpa using this
 generalize h2.size=B1 at k0
 generalize h3.size=B2 at k0
 rw [hz];clear hz z
 refine aa fun z hz=>?_
 simp [hu4]
 have hml:=yG hsm
 refine aj (by kernel_rfl) (pN (caps:=[.pointer (some ⟨C,0,none⟩),.pointer (some ⟨B1,0,none⟩),.pointer (some ⟨B2,0,none⟩)]) (J:=fun l W h=>Fo val C B1 B2 (mR val l) (kO val l) W h) hur hsm ⟨fun k=>k.le,fun k hle=>k.ext hle⟩ (by kernel_rfl) k0 fun l t W h5 vm vt hVW hpre k hm ht=>?_) ?_
 ·have hmem : ∀ x∈l++[t],ThOk f x:=fun x hx=>ym hsm (hpre.subset hx)
  have hll:=hpre.length_le
  rw [List.length_append,List.length_singleton] at hll
  have ot:=hmem t (by simp)
  have hl:=hsm.len
  have c1:=rz (F:=kL val) (c:=10000) (l:=l) (fun t ht x=>Nat.le_trans jh (Nat.add_le_add_left (hmem t (by simp [ht])).mks _)) []
  have c2:=rz (F:=lI val) (c:=10000) (l:=l) (fun t ht x=>Nat.le_trans jh (Nat.add_le_add_left (hmem t (by simp [ht])).tks _)) []
  have c1':(mR val l).length≤l.length*10000:=by simpa [mR] using c1
  have c2':(kO val l).length≤l.length*10000:=by simpa [kO] using c2
  have o1:=ot.mks
  have o2:=ot.tks
  have ob:=ot.blk
  refine (Bw k hm ht (by omega) ot.place (by omega) (by omega)).mono fun _ h6 k6=>?_
  have e1:mR val (l++[t])=t.mks.foldl (bh val (t.blk,t.place)) (mR val l):=by rw [mR,List.foldl_append];rfl
  have e2:kO val (l++[t])=t.tks.foldl (bh val (t.blk,t.place)) (kO val l):=by rw [kO,List.foldl_append];rfl
  simp only [e1,e2];exact k6
 ·rintro _ h5 ⟨W,hVW,k⟩
  have hin : ∀ w∈mR val (ar f),0≤w.1∧w.1<f.blocks.length∧(0≤w.2→w.2<(nth f.blocks w.1.toNat).ins.length):=by
   intro w hw
   rcases pA.1 hw with h | ⟨t,ht,rfl,hv⟩
   ·cases h
   ·have ot:=ym hsm ht
    exact ⟨ot.blk.1,ot.blk.2,fun h=>ot.ins h (fun e=>by rw [e] at hv;cases hv)⟩
  have hfs:gA f val=jU f val (mR val (ar f)) (kO val (ar f)):=rfl
  rw [hfs] at hK
  generalize mR val (ar f)=l1 at k hin hK
  generalize kO val (ar f)=l2 at k hK
  obtain ⟨v1,v2,w⟩:=k.ex
  have hb1:=(w.at (k:=(0,0)) (d:=Raw.mk v1) (B:=B1) (e:=T.bj) rfl).raw
  have hb2:=(w.at (k:=(1,0)) (d:=Raw.mk v2) (B:=B2) (e:=T.bj) rfl).raw
  have n1:=w.now (k:=(0,1)) (v:=v1) (l:=l1) rfl
  have n2:=w.now (k:=(1,1)) (v:=v2) (l:=l2) rfl
  have hle5:=View.le_trans hVW w.wle
  have hle:=View.le_trans hle1 (View.le_trans hle2 hle5)
  have cb5:=cb.2.mono hle5
  have cc5:=ah hle5 cb.1
  have cv5:=ah hle5 cval
  rw [hz];clear hz z
  refine aa fun z hz=>?_
  have no:jS l1 l2=true→K (.bool false) h5:=fun e=>hK _ _ ⟨by rw [jU,e];rfl,hle⟩
  by_cases hA:l1.length=1
  ·by_cases hB2:l2.length=1
   ·have i1 : ∀ kd,Bn.ev (.idx 2) v1 (.int kd 0)=some (.pointer (some (slA v1))):=fun kd=>by
     have:=n1.idxn (N:=2) rfl (k:=kd) (i:=0) (by omega) (by omega)
     simpa [Addr.add] using this
    have i2 : ∀ kd,Bn.ev (.idx 2) v2 (.int kd 0)=some (.pointer (some (slA v2))):=fun kd=>by
     have:=n2.idxn (N:=2) rfl (k:=kd) (i:=0) (by omega) (by omega)
     simpa [Addr.add] using this
    obtain ⟨a0,a1⟩:=n1.zQ (View.le_refl _) (i:=0) (by omega)
    obtain ⟨d0,d1⟩:=n2.zQ (View.le_refl _) (i:=0) (by omega)
    have z1 : ∀ a:Addr,a.add (0*2)=a:=fun a=>by simp [Addr.add]
    rw [z1] at a0 a1 d0 d1
    have hw:=hin (nth l1 0) (bS (by omega))
    have hbad:jS l1 l2=(decide ((nth l1 0).2<0)||!decide ((nth l1 0).1=(nth l2 0).1)||decide ((nth l2 0).2≤(nth l1 0).2)):=by simp [jS,hA,hB2]
    rw [hbad] at no
    have hfb:jU f val l1 l2=(!(decide ((nth l1 0).2<0)||!decide ((nth l1 0).1=(nth l2 0).1)||decide ((nth l2 0).2≤(nth l1 0).2))&&(decide ((nth (nth f.blocks (nth l1 0).1.toNat).ins (nth l1 0).2.toNat).dst=val)&&[1,2,4,11,12,13].contains (nth (nth f.blocks (nth l1 0).1.toNat).ins (nth l1 0).2.toNat).op)):=by rw [jU,hbad]
    rw [hfb] at hK
    generalize nth l1 0=w1 at a0 a1 hw no hK
    generalize nth l2 0=w2 at d0 d1 no hK
    by_cases c3:w1.2<0
    ·simp [hb1,hb2,n1.len,n2.len,hA,hB2,i1,i2,a0,a1,d0,d1,c3]
     exact no (by simp [c3])
    ·by_cases c4:w1.1=w2.1
     ·by_cases c5:w2.2≤w1.2
      ·simp [hb1,hb2,n1.len,n2.len,hA,hB2,i1,i2,a0,a1,d0,d1,c3,c4,c5]
       exact no (by simp [c5])
      ·have hs:(!(decide (w1.2<0)||!decide (w1.1=w2.1)||decide (w2.2≤w1.2)))=true:=by simp [c3,c4,c5]
       rw [hs,Bool.true_and] at hK
       have hw2:=hw.2.2 (by omega)
       obtain ⟨ul,hul⟩:=((cb5.at (i:=w1.1.toNat) (by omega)).part BlkD.kD).sl
       rw [←aq (by omega)] at hul
       have hul1:an (vw h5) (((slA vb).add (w1.1.toNat*6)).add 1)=some ul:=hul.1
       obtain ⟨ui,hui,huir⟩:=hul.2.wh rfl (N:=5) rfl (i:=w1.2.toNat) (by omega)
       have hli:=hul.2
       generalize nth (nth f.blocks w1.1.toNat).ins w1.2.toNat=x at huir hK
       simp [hb1,hb2,n1.len,n2.len,hA,hB2,i1,i2,a0,a1,d0,d1,c3,c5,←c4]
       rw [hz];clear hz z
       refine aa fun z hz=>?_
       have z0 : ∀ a:Addr,a.add 0=a:=fun a=>by simp [Addr.add]
       refine bO (vw h5) (View.le_refl _) ?_
       simp (disch:=omega) [hb1,i1,a0,a1,cc5,cb5.idxn (N:=6) rfl,hul1,hli.idxn (N:=5) rfl,hui _ (View.le_refl _)]
       refine fk (z:=.agg #[.int .i64 0,.int .i64 0,.int .i64 0,.slice none 0 0,.int .i32 0]) (by kernel_rfl) ?_
       have hle6:=bM h5 (.cells (Value.cells (.agg #[.int .i64 0,.int .i64 0,.int .i64 0,.slice none 0 0,.int .i32 0])) T.aW)
       have hb6:(h5.push (.cells (Value.cells (.agg #[.int .i64 0,.int .i64 0,.int .i64 0,.slice none 0 0,.int .i32 0])) T.aW))[h5.size]? = some (.cells (Value.cells (.agg #[.int .i64 0,.int .i64 0,.int .i64 0,.slice none 0 0,.int .i32 0])) T.aW (0,0)):=by simp
       generalize h5.push (.cells (Value.cells (.agg #[.int .i64 0,.int .i64 0,.int .i64 0,.slice none 0 0,.int .i32 0])) T.aW)=h6 at hle6 hb6
       refine ⟨hle6,?_⟩
       obtain ⟨g1,g2,g3⟩:=gh huir
       refine dO (g:=h5.size) (o:=0) (n:=5) (v:=ui) (by kernel_rfl) rfl rfl g2 g3 hb6 (by simp) fun h7 hs7 ⟨row,hr7,he7⟩ ho7=>?_
       have hrow:row=ui.cells:=by
        have g2':ui.cells.size=5:=g2
        rw [←Array.toList_inj,he7];simp
       rw [hrow] at hr7
       have hle7:(vw h5).le (vw h7):=fun b o hb=>by
        have hlt:=View.lt (View.le_refl (vw h5)) hb
        show h7[b]? = _
        rw [ho7 b (by omega)];exact hle6 b o hb
       have hat7:At (vw h7) ⟨h5.size,0,none⟩ x:=mT (show vw h7 h5.size=_ from hr7) (huir.mono hle7)
       obtain ⟨q0,q1,_⟩:=nr hat7
       have ro:=(hat7.part InsD.Fl).rng
       generalize h5.size=D at q0 q1
       rw [hz];clear hz z
       have cv7:=ah hle7 cv5
       refine aa fun z hz=>?_
       by_cases c6:x.dst=val
       ·simp [q0,q1,cv7,c6]
        refine fX (α:=Int) (X:=nothing) (ds:=[1,2,4,11,12,13]) (vs:=[.int .i64 1,.int .i64 2,.int .i64 4,.int .i64 11,.int .i64 12,.int .i64 13]) rfl El.aP (by simp) ⟨jQ (by omega) (by omega),jQ (by omega) (by omega),jQ (by omega) (by omega),jQ (by omega) (by omega),jQ (by omega) (by omega),jQ (by omega) (by omega),trivial⟩ aZ rfl (by omega) fun u8 h8 hle8 hsz8 hu8 _=>?_
        simp [ah hle8 q0]
        refine aj (by kernel_rfl) (qD (hu8 (vw h8) aZ rfl)) ?_
        rintro _ _ ⟨rfl,rfl⟩
        simp
        rw [hz];clear hz z
        simp
        exact hK _ _ ⟨by simp [c6],View.le_trans hle (View.le_trans hle7 hle8)⟩
       ·simp [q0,q1,cv7,c6]
        rw [hz];clear hz z
        simp
        exact hK _ _ ⟨by simp [c6],View.le_trans hle hle7⟩
     ·simp [hb1,hb2,n1.len,n2.len,hA,hB2,i1,i2,a0,a1,d0,d1,c3,c4]
      exact no (by simp [c4])
   ·have hB3:¬(l2.length:Int)=1:=by omega
    simp [hb1,hb2,n1.len,n2.len,hA,hB3]
    exact no (by simp [jS,hB2])
  ·have hA3:¬(l1.length:Int)=1:=by omega
   simp [hb1,hb2,n1.len,n2.len,hA3]
   exact no (by simp [jS,hA])
end Go.Proofs.Ytfelpjfopgiabaa
