/- A part of the proof: Ws, Wt, Ha, Hb, Hc, Pa, Pb, Pd, Pc, Pe, Pf, Pg, Ph, Hd, He, Hf, Hg, Hi, Hj, Hk, Ra, Ka, Kd, Kb, Wu, Wv, Kc, Ma. -/
import Derived.Test.YtbkdlhkoiagbbaaGreatZSRight2
import Derived.ChangeKeysEq
set_option linter.unusedSimpArgs false
set_option linter.unusedVariables false
namespace Go.Proofs.YtbkdlhkoiagbbaaGreat
open Go Go.Lft
def fj (n:Nat) (order:List Int):List Int:=up (fun i l=>l.set (nth order i).toNat (i:Int)) order.length (List.replicate n (-1))
def bstS (out number:List Int) (n:Nat):List Int→Int→Option Int
 | [],best=>some best
 | a::l,best=>
  if 0≤a∧a<n then
   if nth number a.toNat<0∨(a≠0∧nth out a.toNat<0) then bstS out number n l best
   else if best<0 then bstS out number n l a
   else (jI out number (2*n+2) best a).bind (bstS out number n l)
  else none
def setS (out:List Int) (ch:Bool) (b best:Int):List Int × Bool:=if nth out b.toNat≠best then (out.set b.toNat best,true) else (out,ch)
def oW (number:List Int) (preds:Gr) (n:Nat):List Int→List Int × Bool→Option (List Int × Bool)
 | [],s=>some s
 | b::l,s=>
  if 0≤b∧b<n then (bstS s.1 number n (nth preds b.toNat) (-1)).bind fun best=>oW number preds n l (setS s.1 s.2 b best)
  else none
def lJ (number:List Int) (preds:Gr) (n:Nat) (tail:List Int):Nat→List Int→Option (List Int)
 | 0,_=>none
 | m+1,out=>(oW number preds n tail (out,false)).bind fun s=>if s.2 then lJ number preds n tail m s.1 else some s.1
def uN (g:Gr) (fuel:Nat):Option (List Int):=
 lJ (fj g.length (a6 g)) (cf g) g.length ((a6 g).drop (min 1 (a6 g).length)) fuel (List.replicate g.length (-1))
theorem iB {out number:List Int} {c:Int} : ∀ {k:Nat} {x y:Int},jI out number k x y=some c→0≤c∧c<number.length
 | 0,x,y,h=>by cases h
 | k+1,x,y,h=>by
  rw [jI] at h
  split at h
  case isFalse=>cases h
  rename_i hr
  split at h
  ·exact iB h
  ·split at h
   ·exact iB h
   ·cases h;omega
theorem zp {out number:List Int} {n:Nat} : ∀ {l:List Int} {best r:Int},(-1≤best∧best<n)→out.length=n→number.length=n→(∀ i,i<n→-1≤nth out i∧nth out i<n)→bstS out number n l best=some r→-1≤r∧r<n:=by
 intro l
 induction l with
 | nil=>intro best r hb _ _ _ h;simp only [bstS,Option.some.injEq] at h;subst h;exact hb
 | cons a l ih=>
  intro best r hb h1 h2 h3 h
  rw [bstS] at h
  split at h
  case isFalse=>cases h
  rename_i ha
  split at h
  ·exact ih hb h1 h2 h3 h
  ·split at h
   ·exact ih ⟨by omega,by omega⟩ h1 h2 h3 h
   ·simp only [Option.bind_eq_some_iff] at h
    obtain ⟨c,hc,h⟩:=h
    refine ih ?_ h1 h2 h3 h
    have:=iB hc
    omega
structure OvOk (m M:Nat) (s:List Bool × List Int):Prop where
 len:s.1.length=m
 cnt:s.2.length+cR s.1≤M
 rng : ∀ x∈s.2,0≤x∧x<m
theorem yZ {nx:Int→List Int} {m:Nat} (hnx : ∀ a:Int,0≤a→a<m→∀ i,i<(nx a).length→0≤nth (nx a) i∧nth (nx a) i<m) : ∀ (n M:Nat) (a:Int) (s:List Bool × List Int),0≤a→a<m→nth s.1 a.toNat=false→OvOk m M s→OvOk m M (iR nx n a s)
 | 0,_,_,_,_,_,_,h=>h
 | n+1,M,a,s,h0,h1,hf,h=>by
  rw [jq]
  have hlen:=h.len
  have hfs:=iL (t:=s.1) (i:=a.toNat) (by omega) hf
  have hc:=h.cnt
  have hup : ∀ k,k≤(nx a).length→OvOk m (M-1) (up (b0 nx n a) k (s.1.set a.toNat true,s.2)):=by
   intro k
   induction k with
   | zero=>exact fun _=>⟨by simpa [up] using hlen,by simp only [up];omega,h.rng⟩
   | succ k ih=>
    intro hk
    have:=ih (by omega)
    rw [up]
    generalize up (b0 nx n a) k (s.1.set a.toNat true,s.2)=z at this
    unfold b0
    split
    ·exact this
    ·rename_i hz
     obtain ⟨e0,e1⟩:=hnx a h0 h1 k (by omega)
     exact yZ hnx n (M-1) _ z e0 e1 (by simpa using hz) this
  have:=hup _ (Nat.le_refl _)
  exact ⟨this.len,by have:=this.cnt;simp;omega,fun x hx=>by
   rcases List.mem_append.1 hx with hx | hx
   ·exact this.rng x hx
   ·simp only [List.mem_singleton] at hx;subst hx;exact ⟨h0,h1⟩⟩
theorem uR {nx:Int→List Int} {m:Nat} (hnx : ∀ a:Int,0≤a→a<m→∀ i,i<(nx a).length→0≤nth (nx a) i∧nth (nx a) i<m):(jT nx m).length≤m∧∀ x∈jT nx m,0≤x∧x<m:=by
 unfold jT
 split
 ·simp
 ·rename_i h0
  have:=yZ hnx m m 0 (List.replicate m false,[]) (by omega) (by omega) (aq (by simp;omega)) ⟨by simp,by simp [cR],by simp⟩
  refine ⟨?_,fun x hx=>this.rng x (by simpa using hx)⟩
  have:=this.cnt
  simp;omega
theorem Gi {g:Gr} : ∀ a:Int,0≤a→a<(g.length:Int)→∀ i,i<(nx (cc g) a).length→0≤nth (nx (cc g) a) i∧nth (nx (cc g) a) i<g.length:=by
 intro a h0 h1 i hi
 have:=qt a.toNat (by rw [gj];omega) i hi
 rwa [gj] at this
theorem BD {g:Gr} {i:Nat} (hi:i<(a6 g).length):0≤nth (a6 g) i∧nth (a6 g) i<g.length:=
 (uR Gi).2 _ (bu hi)
theorem oS {g:Gr}:(a6 g).length≤g.length:=(uR Gi).1
theorem qz {g:Gr} : ∀ {l:List (Int × Int)} {p:Gr},(∀ e∈l,0≤e.1∧e.1<g.length)→(∀ i,∀ x∈nth p i,0≤x∧x<g.length)→∀ i,∀ x∈nth (l.foldl eO p) i,0≤x∧x<g.length:=by
 intro l
 induction l with
 | nil=>exact fun _ h=>h
 | cons e l ih=>
  intro p hl hp
  rw [List.foldl_cons]
  refine ih (fun e' he'=>hl e' (List.mem_cons_of_mem _ he')) fun i x hx=>?_
  unfold eO at hx
  rcases Nat.lt_or_ge i p.length with hi | hi
  ·rw [aJ hi] at hx
   split at hx
   ·rcases List.mem_append.1 hx with hx | hx
    ·exact hp _ x hx
    ·simp only [List.mem_singleton] at hx;subst hx;exact hl e (List.mem_cons_self ..)
   ·exact hp _ x hx
  ·rw [aU (by simpa using hi)] at hx;cases hx
end Go.Proofs.YtbkdlhkoiagbbaaGreat
namespace Go.Proofs.YtbkdlhkoiagbbaaGreat
open Go Go.Lft
theorem tL {h h':Heap} {v v':Value} (m:jY h h' v v') {W:View} (hw:W.le (vw h)) (ha:Av W v):W.le (vw h'):=(m.view hw ha).1
theorem Fa {g:Gr} {vg:Value} {h:Heap} {fuel:Nat} {l:List Int} (hg:SlRd (vw h) vg g) (hs:Sm g) (hl:uN g fuel=some l) :
  aD Tryz.prog N.bW #[vg] h (fun v h'=>∃ W,Mine nothing h h' W T.int v l):=by
 refine ao (args:=[vg]) follows F.bW E.bW (Nat.le_of_ble_eq_true (by kernel_rfl)) fun K hK=>?_
 have hs1:=hs.1
 simp [L.bW,hg.len]
 refine af (by kernel_rfl) (yx hg hs) ?_
 rintro vo h1 ⟨hle1,ho⟩
 have hoin:=@BD g
 have holen:=oS (g:=g)
 rw [uN] at hl
 generalize a6 g=order at ho hoin holen hl
 refine Mine.made (V:=nothing) (W:=nothing) (h0:=h) (n:=g.length) (d:=(0:Int)) El.a8 hle1 (fun _ _ h=>by cases h) (Old.nothing _ _) (by simp<;>rfl) (by simp<;>rfl) ⟨rfl,by omega,by omega⟩ (by omega) (by omega) fun vn h2 mn hle2 hbn=>?_
 refine Mine.made (V:=nothing) (W:=nothing) (h0:=h) (n:=g.length) (d:=(0:Int)) El.a8 mn.old (fun _ _ h=>by cases h) (Old.nothing _ _) (by simp<;>rfl) (by simp<;>rfl) ⟨rfl,by omega,by omega⟩ (by omega) (by omega) fun vi h3 mi hle3 hbi=>?_
 have mn3:=mn.ext' hle3
 have hne:vn.ownBlock≠vi.ownBlock:=by
  have:=mn.own.lt hbn
  rw [hbn,hbi];intro e;simp only [Option.some.injEq] at e;omega
 have hle13:(vw h1).le (vw h3):=View.le_trans hle2 hle3
 have av1n:Av (vw h1) vn:=fun b hb=>by rw [hbn] at hb;cases hb;exact View.db (View.le_refl _) (Nat.le_refl _)
 have av1i:Av (vw h1) vi:=fun b hb=>by rw [hbi] at hb;cases hb;exact View.db hle2 (Nat.le_refl _)
 refine aV [0,3,4,5,25,26] (fun (_:Unit) k=>[vg,vo,vn,vi,.int .i64 g.length,.int .i64 k])
  (fun _ k h4=>Mine nothing h h4 nothing T.int vn (rows (fun _=>(-1:Int)) k++List.replicate (g.length-k) 0)∧Mine nothing h h4 nothing T.int vi (rows (fun _=>(-1:Int)) k++List.replicate (g.length-k) 0)∧(vw h1).le (vw h4)) g.length ()
  rfl (by omega) rfl ⟨by simpa using mn3,by simpa using mi,hle13⟩ (fun _ _=>rfl) (fun v k h1 hk m=>by simp) ?_ ?_
 ·rintro _ k h4 hlt ⟨m4n,m4i,hle4⟩ K2 hK2
  have hlk:(rows (fun _=>(-1:Int)) k++List.replicate (g.length-k) (0:Int)).length=g.length:=by simp;omega
  simp (disch:=omega) [m4n.now.idx1 rfl,m4i.now.idx1 rfl]
  refine qF (W:=nothing) (i:=k) (d:=(-1:Int)) (by kernel_rfl) (by simp [show Rep.n Int=1 from rfl]) (by simp<;>rfl) m4n.own (by omega) (mJ (by omega) (by omega)) fun h5 o5 mv5=>?_
  have m5n:=m4n.mG o5 mv5
  have m5i:=m4i.beside m5n mv5 (.inr (Ne.symm hne))
  refine qF (W:=nothing) (i:=k) (d:=(-1:Int)) (by kernel_rfl) (by simp [show Rep.n Int=1 from rfl]) (by simp<;>rfl) m5i.own (by omega) (mJ (by omega) (by omega)) fun h6 o6 mv6=>?_
  have m6i:=m5i.mG o6 mv6
  have m6n:=m5n.beside m6i mv6 (.inr hne)
  rw [kt (x:=fun _=>(-1:Int)) hlt] at m6i m6n
  exact hK2 () _ _ rfl rfl ⟨m6n,m6i,tL mv6 (tL mv5 hle4 av1n) av1i⟩
 ·rintro _ h4 ⟨m4n,m4i,hle4⟩
  have hrows:rows (fun _=>(-1:Int)) g.length=List.replicate g.length (-1):=by
   refine List.ext_getElem (by simp) fun i h1 h2=>?_
   simp [rows]
  rw [hrows] at m4n m4i
  simp only [Nat.sub_self,List.replicate_zero,List.append_nil] at m4n m4i
  have ho1:=ho.mono (eY h h1)
  simp [ho1.len]
  refine aV [0,3,4,5,36,37,38] (fun (_:Unit) k=>[vg,vo,vn,vi,vo,.int .i64 order.length,.int .i64 k])
   (fun _ k h5=>Mine nothing h h5 nothing T.int vn (up (fun i l=>l.set (nth order i).toNat (i:Int)) k (List.replicate g.length (-1)))∧Mine nothing h h5 nothing T.int vi (List.replicate g.length (-1))∧(vw h1).le (vw h5)) order.length ()
   rfl (by omega) rfl ⟨m4n,m4i,hle4⟩ (fun _ _=>rfl) (fun v k h1 hk m=>by simp) ?_ ?_
  ·rintro _ k h5 hlt ⟨m5n,m5i,hle5⟩ K2 hK2
   have hlen5:(up (fun i l=>l.set (nth order i).toNat (i:Int)) k (List.replicate g.length (-1))).length=g.length:=by
    rw [xq List.length (fun _ _=>by simp)];simp
   have ho5:=ho1.mono hle5
   obtain ⟨e0,e1⟩:=hoin hlt
   simp (disch:=omega) [ho5.idx1 rfl,ho5.int (View.le_refl _),m5n.now.idx1 rfl]
   refine qF (W:=nothing) (i:=(nth order k).toNat) (d:=(k:Int)) (by kernel_rfl) (by simp [show Rep.n Int=1 from rfl]) (by simp<;>rfl) m5n.own (by omega) (mJ (by omega) (by omega)) fun h6 o6 mv6=>?_
   have m6n:=m5n.mG o6 mv6
   exact hK2 () _ _ rfl rfl ⟨m6n,m5i.beside m6n mv6 (.inr (Ne.symm hne)),tL mv6 hle5 av1n⟩
  ·rintro _ h5 ⟨m5n,m5i,hle5⟩
   have hnum:up (fun i l=>l.set (nth order i).toNat (i:Int)) order.length (List.replicate g.length (-1))=fj g.length order:=rfl
   rw [hnum] at m5n
   have hnl:(fj g.length order).length=g.length:=by rw [fj,xq List.length (fun _ _=>by simp)];simp
   simp
   refine af (by kernel_rfl) (sP (hg.mono m5n.old) hs) ?_
   rintro vp h6 ⟨hle6,hp⟩
   have hpl:(cf g).length=g.length:=by rw [cf,kG];simp
   have hpin : ∀ i,∀ x∈nth (cf g) i,0≤x∧x<g.length:=qz (fun e he=>(lF he).1) (fun i x hx=>by
    rcases Nat.lt_or_ge i g.length with hi | hi
    ·rw [aq hi] at hx;cases hx
    ·rw [aU (by simpa using hi)] at hx;cases hx)
   have m6:=(m5i.ext' hle6).over
   have hn6:SlRd (but vi h6) vn (fj g.length order):=(m5n.own.rd (V:=but vi h5) (fun _ _ h=>by cases h) (fun b hb=>by unfold but;rw [if_neg (fun e=>hne (hb.trans e.symm))])).mono (ym hle6)
   have hp6:SlRd (but vi h6) vp (cf g):=hp.mono fun b o hb=>by
    have hb2:=eY _ _ b o hb
    unfold but
    split
    ·rename_i e
     have:=m5i.own.lt e
     unfold fresh at hb;rw [if_pos this] at hb;cases hb
    ·exact hb2
   have ho6:SlRd (but vi h6) vo order:=ho1.mono (View.le_trans (Gz hle5 av1i) (ym hle6))
   generalize hW:but vi h6=W at m6 hn6 hp6 ho6
   generalize fj g.length order=number at hn6 hnl hl
   generalize hpr:cf g=preds at hp6 hpl hpin hl
   obtain ⟨pv,hpv⟩:=hp6.rows
   refine gR [3,4,5,9,10] (fun m ρ h7=>∃ (out:List Int) (ch:Bool),ρ=[(3,vo),(4,vn),(5,vi),(9,vp),(10,.bool ch)]∧Mine (vw h) h h7 W T.int vi out∧out.length=g.length∧(∀ i,i<g.length→-1≤nth out i∧nth out i<g.length)∧
    (ch=true→lJ number preds g.length (order.drop (min 1 order.length)) m out=some l)∧(ch=false→out=l)) fuel
    ⟨_,true,rfl,m6,by simp,fun i hi=>by rw [aq hi];omega,fun _=>hl,fun h=>by cases h⟩ ?_
   rintro m ρ h7 ⟨out,ch,rfl,m7,hol,hor,hch1,hch2⟩ K2 hK2
   cases ch with
   | false=>
    simp [L.bW.l3,dT]
    have:=hch2 rfl
    subst this
    exact hK _ _ ⟨_,m7.Ig⟩
   | true=>
    have hit:=hch1 rfl
    cases m with
    | zero=>cases hit
    | succ m=>
     rw [lJ,Option.bind_eq_some_iff] at hit
     obtain ⟨⟨out',ch'⟩,hsw,hfin⟩:=hit
     simp only at hfin
     simp [L.bW.l3,dT]
     have hmin:(if (order.length:Int)<1 then (order.length:Int) else 1)=((min 1 order.length:Nat):Int):=by split<;>omega
     obtain ⟨u,hu,hur⟩:=ho6.drop (n:=min 1 order.length) (by omega) (kd:=.i64)
     rw [show Rep.n Int=1 from rfl] at hu
     have hti : ∀ j,j<(order.drop (min 1 order.length)).length→nth (order.drop (min 1 order.length)) j=nth order (min 1 order.length+j):=by
      intro j hj
      rw [List.length_drop] at hj
      rw [ak (by rw [List.length_drop];omega),ak (by omega),List.getElem_drop]
     generalize order.drop (min 1 order.length)=tail at hur hti hsw hfin hK2
     simp only [ho6.len,Option.bind_some,Hd,hmin,hu,hur.len,gO,cL]
     have hub:=hur.bound
     simp
     refine aV [3,4,5,9,10,55,56,57] (fun (s:List Int × Bool) k=>[vo,vn,vi,vp,.bool s.2,u,.int .i64 tail.length,.int .i64 k])
      (fun s k h8=>Mine (vw h) h h8 W T.int vi s.1∧s.1.length=g.length∧(∀ i,i<g.length→-1≤nth s.1 i∧nth s.1 i<g.length)∧oW number preds g.length (tail.drop k) s=some (out',ch')) tail.length (out,false)
      rfl (by omega) rfl ⟨m7,hol,hor,by simpa using hsw⟩ (fun _ _=>rfl) (fun v k h1 hk m=>by simp) ?_ ?_
     ·rintro ⟨o8,c8⟩ k h8 hlt8 ⟨m8,hol8,hor8,hs8⟩ K3 hK3
      simp only at m8 hol8 hor8
      rw [List.drop_eq_getElem_cons hlt8,←ak hlt8,oW] at hs8
      split at hs8
      case isFalse=>cases hs8
      rename_i hb
      rw [Option.bind_eq_some_iff] at hs8
      obtain ⟨best,hbest,hs8⟩:=hs8
      simp only at hbest hs8
      have hb2:=zp (by omega) hol8 hnl hor8 hbest
      generalize hbe:nth tail k=b at hb hbest hs8
      obtain ⟨cv,rr⟩:=hpv b.toNat (by omega)
      have br:=rr.bound
      simp (disch:=omega) [hur.idx1 rfl,hur.int m8.wle,hbe,hp6.idx1 rfl,cv _ m8.wle,rr.len]
      refine aV [3,4,5,9,10,55,56,57,12,13,64,65,66] (fun (bst:Int) j=>[vo,vn,vi,vp,.bool c8,u,.int .i64 tail.length,.int .i64 k,.int .i64 b,.int .i64 bst,pv b.toNat,.int .i64 (nth preds b.toNat).length,.int .i64 j])
       (fun bst j h9=>Mine (vw h) h h9 W T.int vi o8∧(-1≤bst∧bst<g.length)∧bstS o8 number g.length ((nth preds b.toNat).drop j) bst=some best) (nth preds b.toNat).length (-1)
       rfl (by omega) rfl ⟨m8,by omega,by simpa using hbest⟩ (fun _ _=>rfl) (fun v k h1 hk m=>by simp) ?_ ?_
      ·rintro bst j h9 hlt9 ⟨m9,hb9,hs9⟩ K4 hK4
       rw [List.drop_eq_getElem_cons hlt9,←ak hlt9,bstS] at hs9
       have ha:=hpin _ _ (bu hlt9)
       rw [if_pos ha] at hs9
       have hra:=rr.int m9.wle hlt9
       generalize nth (nth preds b.toNat) j=a at hs9 ha hra
       have hn9:=hn6.int m9.wle (i:=a.toNat) (by omega)
       have ho9:=m9.now.int (View.le_refl _) (i:=a.toNat) (by omega)
       have hi9:=m9.now
       by_cases c1:nth number a.toNat<0
       ·rw [if_pos (.inl c1)] at hs9
        simp (disch:=omega) [rr.idx1 rfl,hra,hn6.idx1 rfl,hn9,c1,hi9.idx1 rfl,ho9]
        exact hK4 bst _ _ rfl rfl ⟨m9,hb9,hs9⟩
       ·by_cases c2:a=0
        ·rw [if_neg (by rintro (h | h);exact c1 h;exact h.1 c2)] at hs9
         subst c2
         rw [Int.toNat_zero] at hn9 ho9 c1
         simp (disch:=omega) [rr.idx1 rfl,hra,hn6.idx1 rfl,hn9,c1,hi9.idx1 rfl,ho9]
         refine ⟨fun c4=>?_,fun c4=>?_⟩
         ·rw [if_pos c4] at hs9
          exact hK4 _ _ _ rfl rfl ⟨m9,by omega,hs9⟩
         ·rw [if_neg (by omega),Option.bind_eq_some_iff] at hs9
          obtain ⟨c,hc,hs9⟩:=hs9
          have hcr:=iB hc
          refine af (by kernel_rfl) (uZ m9.now (hn6.mono m9.wle) hc) ?_
          rintro _ _ ⟨rfl,rfl⟩
          exact hK4 c _ _ rfl rfl ⟨m9,by omega,hs9⟩
        ·by_cases c3:nth o8 a.toNat<0
         ·rw [if_pos (.inr ⟨c2,c3⟩)] at hs9
          simp (disch:=omega) [rr.idx1 rfl,hra,hn6.idx1 rfl,hn9,c1,c2,hi9.idx1 rfl,ho9,c3]
          exact hK4 bst _ _ rfl rfl ⟨m9,hb9,hs9⟩
         ·rw [if_neg (by rintro (h | h);exact c1 h;exact c3 h.2)] at hs9
          simp (disch:=omega) [rr.idx1 rfl,hra,hn6.idx1 rfl,hn9,c1,c2,hi9.idx1 rfl,ho9,c3]
          refine ⟨fun c4=>?_,fun c4=>?_⟩
          ·rw [if_pos c4] at hs9
           exact hK4 _ _ _ rfl rfl ⟨m9,by omega,hs9⟩
          ·rw [if_neg (by omega),Option.bind_eq_some_iff] at hs9
           obtain ⟨c,hc,hs9⟩:=hs9
           have hcr:=iB hc
           refine af (by kernel_rfl) (uZ m9.now (hn6.mono m9.wle) hc) ?_
           rintro _ _ ⟨rfl,rfl⟩
           exact hK4 c _ _ rfl rfl ⟨m9,by omega,hs9⟩
      ·rintro bst h9 ⟨m9,hb9,hs9⟩
       simp only [List.drop_length,bstS,Option.some.injEq] at hs9
       subst hs9
       simp (disch:=omega) [m9.now.idx1 rfl,m9.now.int (View.le_refl _)]
       refine ⟨fun e=>hK3 (o8,c8) _ _ rfl rfl ⟨m9,hol8,hor8,by rw [setS,if_neg (by simpa using e)] at hs8;exact hs8⟩,fun e=>?_⟩
       refine m9.put1 (α:=Int) (i:=b.toNat) (by kernel_rfl) rfl (by simp) (by simp<;>rfl) (by omega) (mJ (by omega) (by omega)) fun h10 m10=>hK3 (o8.set b.toNat bst,true) _ _ rfl rfl ⟨m10,by simpa using hol8,fun i hi=>?_,by rw [setS,if_pos e] at hs8;exact hs8⟩
       simp only
       rw [aJ (by omega)]
       split
       ·exact hb9
       ·exact hor8 i hi
     ·rintro ⟨o8,c8⟩ h8 ⟨m8,hol8,hor8,hs8⟩
      simp only [List.drop_length,oW,Option.some.injEq,Prod.mk.injEq] at hs8 m8 hol8 hor8
      obtain ⟨rfl,rfl⟩:=hs8
      simp
      refine hK2 m _ _ (by omega) ⟨_,_,rfl,m8,hol8,hor8,fun e=>?_,fun e=>?_⟩
      ·rw [if_pos e] at hfin;exact hfin
      ·rw [if_neg (by simp [e])] at hfin;exact Option.some.inj hfin
end Go.Proofs.YtbkdlhkoiagbbaaGreat
namespace Go.Proofs.YtbkdlhkoiagbbaaGreat
open Go Go.Lft
abbrev Tr:=Int × Int × Int
def trV (t:Tr):List PanicEntry:=[{ v:=.iface T.fA (.agg #[.int .i64 t.1,.int .i64 t.2.1,.int .i64 t.2.2]),recovered:=false }]
def bw (n a b:Int):Bool:=decide (a≤n)&&decide (n≤b)
theorem jt {n a b:Int} {h:Heap}:aD Tryz.prog N.eA #[.int .i64 n,.int .i64 a,.int .i64 b] h (fun v h'=>v = .bool (bw n a b)∧h'=h):=by
 refine ao (args:=[.int .i64 n,.int .i64 a,.int .i64 b]) follows F.eA E.eA (Nat.le_of_ble_eq_true (by kernel_rfl)) fun K hK=>?_
 simp [L.eA]
 exact hK _ _ ⟨by by_cases h1:a≤n<;>simp [bw,h1],rfl⟩
theorem gJ {ok:Bool} {e b p:Int} {h:Heap}:fF Tryz.prog N.eM #[.bool ok,.int .i64 e,.int .i64 b,.int .i64 p] h (fun v h'=>ok=true∧h'=h) (fun ch h'=>ok=false∧ch=trV (e,b,p)∧h'=h):=by
 refine gV (args:=[.bool ok,.int .i64 e,.int .i64 b,.int .i64 p]) follows F.eM E.eM (Nat.le_of_ble_eq_true (by kernel_rfl)) fun K Kp hK hKp=>?_
 cases ok with
 | true=>
  simp [L.eM]
  exact hK _ _ ⟨rfl,rfl⟩
 | false=>
  simp [L.eM]
  refine aR (z:=.agg #[.int .i64 0,.int .i64 0,.int .i64 0]) (places:=[(0,1),(1,1),(2,1)]) (vs:=[(0,.int .i64 e),(1,.int .i64 b),(2,.int .i64 p)]) (cs:=#[.int .i64 e,.int .i64 b,.int .i64 p]) (by kernel_rfl) (by kernel_rfl) (by simp) (by rfl) ?_
  refine CL (d:=(Tryz.prog.underlying T.fA).getD .bool) (by kernel_rfl) (by kernel_rfl) rfl ?_
  simp
  refine En (t:=T.fA) (v:=.agg #[.int .i64 e,.int .i64 b,.int .i64 p]) rfl ?_
  exact ⟨.inl rfl,hKp _ _ ⟨rfl,rfl,rfl⟩⟩
def fO (op:Int):Int × Int:=if op=1 then (0,0) else if op=15 then (1,1) else if op=17 then (0,4) else (2,2)
theorem zb {op:Int} {h:Heap}:aD Tryz.prog N.dF #[.int .i64 op] h (fun v h'=>v = .tuple #[.int .i64 (fO op).1,.int .i64 (fO op).2]∧h'=h):=by
 refine ao (args:=[.int .i64 op]) follows F.dF E.dF (Nat.le_of_ble_eq_true (by kernel_rfl)) fun K hK=>?_
 simp [L.dF]
 refine ⟨fun h1=>hK _ _ ⟨by simp [fO,h1],rfl⟩,fun h1=>⟨fun h2=>hK _ _ ⟨by simp [fO,h1,h2],rfl⟩,fun h2=>⟨fun h3=>hK _ _ ⟨by simp [fO,h1,h2,h3],rfl⟩,fun h3=>hK _ _ ⟨by simp [fO,h1,h2,h3],rfl⟩⟩⟩⟩
def aY (i:InsD):List Int:=if i.op=16 then [] else if i.op=18 then [i.dst,i.two] else [i.dst]
theorem C2 {d:InsD} {v:Value} {h:Heap} (hd:Rd (vw h) v d):aD Tryz.prog N.ff #[v] h (fun u h'=>(vw h).le (vw h')∧SlRd (fresh h h') u (aY d)):=by
 refine ao (args:=[v]) follows F.ff E.ff (Nat.le_of_ble_eq_true (by kernel_rfl)) fun K hK=>?_
 simp [L.ff]
 refine iU rfl hd fun h1 _ hle1 hsz1 hat=>?_
 obtain ⟨c0,c1,c2,va,ca⟩:=rS hat
 have r1:=(hat.part InsD.km).rng
 have r2:=(hat.part InsD.uQ).rng
 simp [c0]
 refine ⟨fun e1=>hK _ _ ⟨hle1,by simpa [aY,e1] using gh⟩,fun e1=>⟨fun e2=>?_,fun e2=>?_⟩⟩
 ·simp [c1,c2]
  refine kU (X:=nothing) (ds:=[d.dst,d.two]) (vs:=[.int .i64 d.dst,.int .i64 d.two]) rfl El.a8 (by simp) ⟨dN.2 ⟨rfl,r1⟩,dN.2 ⟨rfl,r2⟩,trivial⟩ cS rfl (by omega) fun u h2 hle2 hsz2 hu _=>?_
  exact hK _ _ ⟨View.le_trans hle1 hle2,by simpa [aY,e2] using hu _ cS (by unfold fresh;rw [if_neg (by omega)])⟩
 ·simp [c1]
  refine kU (X:=nothing) (ds:=[d.dst]) (vs:=[.int .i64 d.dst]) rfl El.a8 (by simp) ⟨dN.2 ⟨rfl,r1⟩,trivial⟩ cS rfl (by omega) fun u h2 hle2 hsz2 hu _=>?_
  exact hK _ _ ⟨View.le_trans hle1 hle2,by simpa [aY,e1,e2] using hu _ cS (by unfold fresh;rw [if_neg (by omega)])⟩
end Go.Proofs.YtbkdlhkoiagbbaaGreat
namespace Go.Proofs.YtbkdlhkoiagbbaaGreat
open Go Go.Lft
abbrev MW:=Int→Option (Int × Int)
def encW (w:Int × Int):Value:=.agg #[.int .i64 w.1,.int .i64 w.2]
theorem FQ {Kb:Nat} {ps n b p:Int} {h:Heap} (h0:an (vw h) ⟨Kb,0,none⟩=some (.int .i64 ps)) :
  fF Tryz.prog N.cO #[.pointer (some ⟨Kb,0,none⟩),.int .i64 n,.int .i64 b,.int .i64 p] h (fun _ h'=>bw n ps 8191=true∧h'=h) (fun ch h'=>bw n ps 8191=false∧ch=trV (11,b,p)∧h'=h):=by
 refine gV (args:=[.pointer (some ⟨Kb,0,none⟩),.int .i64 n,.int .i64 b,.int .i64 p]) follows F.cO E.cO (Nat.le_of_ble_eq_true (by kernel_rfl)) fun K Kp hK hKp=>?_
 simp [L.cO,h0]
 refine af (by kernel_rfl) jt ?_
 rintro _ _ ⟨rfl,rfl⟩
 refine dv (by kernel_rfl) gJ ?_ ?_
 ·rintro _ _ ⟨e,rfl⟩
  exact hK _ _ ⟨e,rfl⟩
 ·rintro _ _ ⟨e,rfl,rfl⟩
  exact ⟨.inl rfl,hKp _ _ ⟨e,rfl,rfl⟩⟩
theorem Fc {Kb r:Nat} {m:MW} {n b p:Int} {h:Heap} (h2:an (skip r h) ⟨Kb,2,none⟩=some (.map (some r))) (hm:fQ (.int .i64) h r (mapE encW m)) :
  fF Tryz.prog N.cN #[.pointer (some ⟨Kb,0,none⟩),.int .i64 n,.int .i64 b,.int .i64 p] h (fun _ h'=>m n=none∧fQ (.int .i64) h' r (mapE encW (putM m n (b,p)))∧Kept h h' (some r))
   (fun ch h'=>m n≠none∧ch=trV (12,b,p)∧Kept h h' (some r)):=by
 refine gV (args:=[.pointer (some ⟨Kb,0,none⟩),.int .i64 n,.int .i64 b,.int .i64 p]) follows F.cN E.cN (Nat.le_of_ble_eq_true (by kernel_rfl)) fun K Kp hK hKp=>?_
 simp [L.cN,ae bX h2]
 refine kA (z:=.agg #[.int .i64 0,.int .i64 0]) U.fo U.int (by kernel_rfl) (by simp<;>rfl) (by simp<;>rfl) kT hm ?_
 simp
 refine jH (n:=2) (z:=.agg #[.int .i64 0,.int .i64 0]) (v:=((m n).map encW).getD (.agg #[.int .i64 0,.int .i64 0])) (by kernel_rfl) rfl (by kernel_rfl) (by cases m n<;>rfl) (by cases m n<;>simp [encW,Value.oneCell']) (fun _=>by simp) (fun _=>by simp) fun h3 hle3 _ _=>?_
 have k3:=Kept.of_le (b:=some r) hle3
 have hm3:=hm.ext hle3
 have h23:=ae k3.Ax h2
 refine dv (by kernel_rfl) gJ ?_ ?_
 ·rintro _ _ ⟨e,rfl⟩
  simp [h23]
  refine aR (z:=.agg #[.int .i64 0,.int .i64 0]) (places:=[(0,1),(1,1)]) (vs:=[(0,.int .i64 b),(1,.int .i64 p)]) (cs:=#[.int .i64 b,.int .i64 p]) (by kernel_rfl) (by kernel_rfl) (by simp) (by rfl) ?_
  refine uA (v:=encW (b,p)) (.inl rfl) U.fo U.int (by simp<;>rfl) (by simp<;>rfl) (by simp<;>rfl) kT hm3 _ qe.1 qe.2 fun h4 hs4 ho4 hm4=>?_
  exact hK _ _ ⟨by simpa using e,hm4,k3.trans (Kept.upd hs4 ho4)⟩
 ·rintro _ _ ⟨e,rfl,rfl⟩
  exact ⟨.inl rfl,hKp _ _ ⟨(by intro e2;rw [e2] at e;cases e),rfl,k3⟩⟩
def oE (b p:Int) (m:MW) (n:Int):Except Tr MW:=if (m n).isSome then .error (12,b,p) else .ok (putM m n (b,p))
def allS (ps:Int) (l:List Int) (b p:Int) (m:MW):Except Tr MW:=if l.all (fun n=>bw n ps 8191) then l.foldlM (oE b p) m else .error (11,b,p)
structure Lk (h:Heap) (Kb r:Nat) (vb:Value) (f:ah) (m:MW):Prop where
 c0:an (skip r h) ⟨Kb,0,none⟩=some (.int .i64 f.params)
 c1:an (skip r h) ⟨Kb,1,none⟩=some vb
 c2:an (skip r h) ⟨Kb,2,none⟩=some (.map (some r))
 rb:SlRd (skip r h) vb f.blocks
 map:fQ (.int .i64) h r (mapE encW m)
theorem Lk.kept {h h':Heap} {Kb r:Nat} {vb:Value} {f:ah} {m m':MW} (k:Lk h Kb r vb f m) (hk:Kept h h' (some r)) (hm:fQ (.int .i64) h' r (mapE encW m')):Lk h' Kb r vb f m':=
 ⟨ae hk.skip k.c0,ae hk.skip k.c1,ae hk.skip k.c2,k.rb.mono hk.skip,hm⟩
theorem Lk.ext {h h':Heap} {Kb r:Nat} {vb:Value} {f:ah} {m:MW} (k:Lk h Kb r vb f m) (hle:(vw h).le (vw h')):Lk h' Kb r vb f m:=
 k.kept (Kept.of_le hle) (k.map.ext hle)
theorem Ea {Kb r:Nat} {vb vl:Value} {f:ah} {m:MW} {l:List Int} {b p:Int} {h:Heap} (k:Lk h Kb r vb f m) (hl:SlRd (skip r h) vl l) :
  fF Tryz.prog N.bC #[.pointer (some ⟨Kb,0,none⟩),vl,.int .i64 b,.int .i64 p] h (fun _ h'=>∃ m',allS f.params l b p m = .ok m'∧Lk h' Kb r vb f m'∧Kept h h' (some r))
   (fun ch h'=>∃ t,allS f.params l b p m = .error t∧ch=trV t∧Kept h h' (some r)):=by
 refine gV (args:=[.pointer (some ⟨Kb,0,none⟩),vl,.int .i64 b,.int .i64 p]) follows F.bC E.bC (Nat.le_of_ble_eq_true (by kernel_rfl)) fun K Kp hK hKp=>?_
 have hlb:=hl.bound
 simp [L.bC,hl.len]
 refine aV [0,1,2,3,12,13,14] (fun (_:Unit) i=>[.pointer (some ⟨Kb,0,none⟩),vl,.int .i64 b,.int .i64 p,vl,.int .i64 l.length,.int .i64 i]) (fun _ i h1=>h1=h∧∀ j,j<i→bw (nth l j) f.params 8191=true) l.length ()
  rfl (by omega) rfl ⟨rfl,fun j hj=>by omega⟩ (fun _ _=>rfl) (fun v i h1 hk m=>by simp) ?_ ?_
 ·rintro _ i _ hlt ⟨rfl,hpre⟩ K2 hK2
  simp (disch:=omega) [hl.idx1 rfl,hl.int bX]
  refine dv (by kernel_rfl) (FQ (ae bX k.c0)) ?_ ?_
  ·rintro _ _ ⟨e,rfl⟩
   refine hK2 () _ _ rfl rfl ⟨rfl,fun j hj=>?_⟩
   rcases Nat.lt_or_ge j i with h | h
   ·exact hpre j h
   ·have:j=i:=by omega
    subst this;exact e
  ·rintro _ _ ⟨e,rfl,rfl⟩
   refine ⟨.inl rfl,hKp _ _ ⟨_,?_,rfl,Kept.refl _ _⟩⟩
   rw [allS,if_neg]
   intro ha
   rw [List.all_eq_true.1 ha _ (bu hlt)] at e;cases e
 ·rintro _ h ⟨rfl,hpre⟩
  have hall:allS f.params l b p m=l.foldlM (oE b p) m:=by
   rw [allS,if_pos]
   rw [List.all_eq_true]
   intro x hx
   obtain ⟨j,hj,rfl⟩:=List.getElem_of_mem hx
   rw [←ak hj];exact hpre j hj
  rw [hall] at hK hKp
  simp [hl.len]
  refine aV [0,2,3,24,25,26] (fun (_:Unit) i=>[.pointer (some ⟨Kb,0,none⟩),.int .i64 b,.int .i64 p,vl,.int .i64 l.length,.int .i64 i]) (fun _ i h1=>∃ m',(l.take i).foldlM (oE b p) m = .ok m'∧Lk h1 Kb r vb f m'∧Kept h h1 (some r)) l.length ()
   rfl (by omega) rfl ⟨m,rfl,k,Kept.refl _ _⟩ (fun _ _=>rfl) (fun v i h1 hk m=>by simp) ?_ ?_
  ·rintro _ i h1 hlt ⟨m1,hm1,k1,kp1⟩ K2 hK2
   have hl1:=hl.mono kp1.Ax
   have hst:=zK hlt hm1
   simp (disch:=omega) [hl1.idx1 rfl,hl1.int (View.le_refl _)]
   refine dv (by kernel_rfl) (Fc k1.c2 k1.map) ?_ ?_
   ·rintro _ h2 ⟨e,hm2,kp2⟩
    refine hK2 () _ _ rfl rfl ⟨_,by rw [hst,oE,e];rfl,k1.kept kp2 hm2,kp1.trans kp2⟩
   ·rintro _ h2 ⟨e,rfl,kp2⟩
    refine ⟨.inl rfl,hKp _ _ ⟨_,Cr (k:=i+1) (by rw [hst,oE,if_pos (Option.isSome_iff_ne_none.2 e)]),rfl,kp1.trans kp2⟩⟩
  ·rintro _ h1 ⟨m1,hm1,k1,kp1⟩
   rw [List.take_length] at hm1
   simp
   exact hK _ _ ⟨m1,hm1,k1,kp1⟩
end Go.Proofs.YtbkdlhkoiagbbaaGreat
namespace Go.Proofs.YtbkdlhkoiagbbaaGreat
open Go Go.Lft
abbrev Sh:=Int × Int × Int × Int
def encS (s:Sh):Value:=.agg #[.int .i64 s.1,.int .i64 s.2.1,.int .i64 s.2.2.1,.int .i64 s.2.2.2]
def fE:Int→Option Sh:=putM (putM (putM (putM (putM (fun _=>none) 1 (0,0,1,1)) 2 (1,1,2,2)) 3 (1,1,2,65)) 4 (0,1,0,0)) 5 (0,0,0,0)
theorem nL {po:OP} {ty:TypeId} {us:List (Nat × Value)} {h:Heap} {K:Value→Heap→Prop} {a b c d:Int} (hk:K (encS (a,b,c,d)) h) :
  Lft.step Tryz.prog (.build T.dc #[(0,.const (.int .i64 a)),(1,.const (.int .i64 b)),(2,.const (.int .i64 c)),(3,.const (.int .i64 d))]) ty us h K:=
 aR (z:=.agg #[.int .i64 0,.int .i64 0,.int .i64 0,.int .i64 0]) (places:=[(0,1),(1,1),(2,1),(3,1)]) (vs:=[(0,.int .i64 a),(1,.int .i64 b),(2,.int .i64 c),(3,.int .i64 d)]) (cs:=#[.int .i64 a,.int .i64 b,.int .i64 c,.int .i64 d]) (by kernel_rfl) (by kernel_rfl) (by simp only [List.map_toArray,List.map_cons,List.map_nil,vh]) (by rfl) hk
theorem jN {po:OP} {ty:TypeId} {us:List (Nat × Value)} {h:Heap} {K:Value→Heap→Prop} {x y:Operand} {r:Nat} {f:Int→Option Sh} {j:Int} {s:Sh} (hx:asg us x = .map (some r)) (hy:asg us y=encS s) (m:fQ (.int .i64) h r (mapE encS f))
  (hk : ∀ h':Heap,Kept h h' (some r)→fQ (.int .i64) h' r (mapE encS (putM f j s))→K undef h'):Lft.step Tryz.prog (.insert T.dE x (.const (.int .i64 j)) y) ty us h K:=
 uA (v:=encS s) (.inr rfl) U.dE U.int hx rfl hy kT m _ qe.1 qe.2 fun h' hs ho hm=>hk h' (Kept.upd hs ho) hm
theorem uP {h:Heap}:aD Tryz.prog N.eB #[] h (fun v h'=>v = .map (some h.size)∧(vw h).le (vw h')∧fQ (.int .i64) h' h.size (mapE encS fE)):=by
 refine ao (args:=[]) follows F.eB E.eB (Nat.le_of_ble_eq_true (by kernel_rfl)) fun K hK=>?_
 simp [L.eB]
 refine oP ?_
 have m0:fQ (.int .i64) (h.push (.map #[] 0)) h.size (mapE encS fun _=>none):=by rw [uX];exact fQ.none (by simp)
 have hle:=bN h (.map #[] 0)
 generalize h.push (.map #[] 0)=h0 at m0 hle
 refine nL (jN (s:=(0,0,1,1)) rfl rfl m0 fun h1 k1 m1=>?_)
 refine nL (jN (s:=(1,1,2,2)) rfl rfl m1 fun h2 k2 m2=>?_)
 refine nL (jN (s:=(1,1,2,65)) rfl rfl m2 fun h3 k3 m3=>?_)
 refine nL (jN (s:=(0,1,0,0)) rfl rfl m3 fun h4 k4 m4=>?_)
 refine nL (jN (s:=(0,0,0,0)) rfl rfl m4 fun h5 k5 m5=>?_)
 refine hK _ _ ⟨rfl,fun b o hb=>?_,m5⟩
 have hlt:=View.lt (View.le_refl (vw h)) hb
 have kk:=(((k1.trans k2).trans k3).trans k4).trans k5
 show h5[b]? = _
 rw [kk.block b (Nat.lt_of_lt_of_le hlt (gn hle)) (by simp;omega)]
 exact hle b o hb
def mS (t:dQ):Bool:=match fE t.kind with
 | some s=>bw t.args.length s.1 s.2.1&&bw t.to.length s.2.2.1 s.2.2.2
 | none=>false
def insS (ps b:Int) (x:BlkD) (i:Nat) (m:MW):Except Tr MW:=
 if bw (nth x.ins i).op 1 18&&bw (nth x.ins i).args.length (fO (nth x.ins i).op).1 (fO (nth x.ins i).op).2 then allS ps (aY (nth x.ins i)) b i m else .error (10,b,i)
def phiS (ps b:Int) (x:BlkD) (i:Nat) (m:MW):Except Tr MW:=allS ps [(nth x.phis i).dst] b (-1-i) m
def endS (n b:Int) (x:BlkD) (m:MW):Except Tr MW:=
 if mS x.term then (if x.term.to.all (fun t=>bw t 1 (n-1)) then .ok m else .error (14,b,x.ins.length)) else .error (10,b,x.ins.length)
def blkS (f:ah) (b:Nat) (m:MW):Except Tr MW:=
 match upE (phiS f.params b (nth f.blocks b)) (nth f.blocks b).phis.length m with
 | .error t=>.error t
 | .ok m1=>match upE (insS f.params b (nth f.blocks b)) (nth f.blocks b).ins.length m1 with
  | .error t=>.error t
  | .ok m2=>endS f.blocks.length b (nth f.blocks b) m2
def kK (f:ah) (m:MW):Except Tr MW:=upE (blkS f) f.blocks.length m
theorem DY {Kb r:Nat} {vb:Value} {f:ah} {m:MW} {h:Heap} (k:Lk h Kb r vb f m) :
  fF Tryz.prog N.aO #[.pointer (some ⟨Kb,0,none⟩)] h (fun _ h'=>∃ m',kK f m = .ok m'∧Lk h' Kb r vb f m'∧Kept h h' (some r))
   (fun ch h'=>∃ t,kK f m = .error t∧ch=trV t∧Kept h h' (some r)):=by
 refine gV (args:=[.pointer (some ⟨Kb,0,none⟩)]) follows F.aO E.aO (Nat.le_of_ble_eq_true (by kernel_rfl)) fun K Kp hK hKp=>?_
 have hbb:=k.rb.bound
 simp [L.aO,ae bX k.c1,k.rb.len]
 refine aV [0,18,19,20] (fun (_:Unit) b=>[.pointer (some ⟨Kb,0,none⟩),vb,.int .i64 f.blocks.length,.int .i64 b]) (fun _ b h1=>∃ m',upE (blkS f) b m = .ok m'∧Lk h1 Kb r vb f m'∧Kept h h1 (some r)) f.blocks.length ()
  rfl (by omega) rfl ⟨m,rfl,k,Kept.refl _ _⟩ (fun _ _=>rfl) (fun v i h1 hk m=>by simp) ?_ ?_
 ·rintro _ b h1 hltb ⟨m1,hm1,k1,kp1⟩ K2 hK2
  have hst:=lI hm1
  have her : ∀ {t},blkS f b m1 = .error t→kK f m = .error t:=fun e=>wO hm1 hltb e
  obtain ⟨u,hu,hur⟩:=k1.rb.wh rfl (N:=6) rfl hltb
  rw [blkS] at hst her
  have hr1:=k1.map.lt
  generalize hx:nth f.blocks b=x at hst her hur
  refine aa fun z hz=>?_
  simp (disch:=omega) [k1.rb.idxn (N:=6) rfl,hu _ bX]
  refine gL (z:=.agg #[.slice none 0 0,.slice none 0 0,.int .i64 0,.slice none 0 0,.slice none 0 0,.int .i32 0]) (by kernel_rfl) rfl (by kernel_rfl) hur (fun _=>by simp) (fun _=>by simp) fun h2 hle2 hsz2 hat=>?_
  have k2:=k1.ext hle2
  have kp2:=kp1.trans (Kept.of_le hle2)
  have hat2:=hat (skip r h2) (Kept.of_le hle2).skip (iT (by omega))
  obtain ⟨vp,vi,va,vt,bp,bi,bk,ba,bt⟩:=mw hat2
  generalize h1.size=B at bp bi bk ba bt
  rw [hz];clear hz z
  refine aa fun z hz=>?_
  simp [ae bX bp.1,bp.2.len]
  have bph:=bp.2.bound
  have bin:=bi.2.bound
  have bto:=bt.2.bound
  refine aV [0,2,3,18,19,20,26,27,28] (fun (_:Unit) i=>[.pointer (some ⟨Kb,0,none⟩),.int .i64 b,.pointer (some ⟨B,0,none⟩),vb,.int .i64 f.blocks.length,.int .i64 b,vp,.int .i64 x.phis.length,.int .i64 i])
   (fun _ i h3=>∃ m',upE (phiS f.params b x) i m1 = .ok m'∧Lk h3 Kb r vb f m'∧Kept h2 h3 (some r)) x.phis.length ()
   rfl (by omega) rfl ⟨m1,rfl,k2,Kept.refl _ _⟩ (fun _ _=>rfl) (fun v i h1 hk m=>by simp) ?_ ?_
  ·rintro _ i h3 hlti ⟨m3,hm3,k3,kp3⟩ K3 hK3
   have bp3:=bp.2.mono kp3.skip
   obtain ⟨u5,hu5,hur5⟩:=bp3.wh rfl (N:=2) rfl hlti
   have hr3:=k3.map.lt
   have hst3:=lI hm3
   have her3 : ∀ {t},phiS f.params b x i m3 = .error t→upE (phiS f.params b x) x.phis.length m1 = .error t:=fun e=>wO hm3 hlti e
   rw [phiS] at hst3 her3
   refine aa fun y hy=>?_
   simp (disch:=omega) [bp3.idxn (N:=2) rfl,hu5 _ bX]
   refine gL (z:=.agg #[.int .i64 0,.slice none 0 0]) (by kernel_rfl) rfl (by kernel_rfl) hur5 (fun _=>by simp) (fun _=>by simp) fun h4 hle4 hsz4 hat4=>?_
   have hat4':=hat4 (skip r h4) (Kept.of_le hle4).skip (iT (by omega))
   obtain ⟨c0,_⟩:=Au hat4'
   have rd:=(hat4'.part PhiD.km).rng
   generalize nth x.phis i=q at c0 rd hst3 her3
   generalize h3.size=B3 at c0
   rw [hy];clear hy y
   simp [ae bX c0]
   refine kU (X:=nothing) (ds:=[q.dst]) (vs:=[.int .i64 q.dst]) rfl El.a8 (by simp) ⟨dN.2 ⟨rfl,rd⟩,trivial⟩ cS rfl (by omega) fun u6 h5 hle5 hsz5 hu6 _=>?_
   have k5:=(k3.ext hle4).ext hle5
   have kp5:=(kp3.trans (Kept.of_le hle4)).trans (Kept.of_le hle5)
   have hr5:=k5.map.lt
   simp (disch:=omega)
   refine dv (by kernel_rfl) (Ea k5 (hu6 _ cS (iT (by omega)))) ?_ ?_
   ·rintro _ h6 ⟨m6,hm6,k6,kp6⟩
    exact hK3 () _ _ rfl rfl ⟨m6,by rw [hst3,hm6],k6,kp5.trans kp6⟩
   ·rintro _ h6 ⟨t,ht,rfl,kp6⟩
    exact ⟨.inl rfl,hKp _ _ ⟨t,her (by rw [her3 ht]),rfl,(kp2.trans kp5).trans kp6⟩⟩
  ·rintro _ h3 ⟨m3,hm3,k3,kp3⟩
   simp only [hm3] at hst her
   simp
   rw [hz];clear hz z
   refine aa fun z hz=>?_
   have bi3:=bi.2.mono kp3.skip
   have ci3:=ae kp3.Ax bi.1
   have kp03:=kp2.trans kp3
   simp [ci3,bi3.len]
   refine aV [0,2,3,18,19,20,43,44,45] (fun (_:Unit) i=>[.pointer (some ⟨Kb,0,none⟩),.int .i64 b,.pointer (some ⟨B,0,none⟩),vb,.int .i64 f.blocks.length,.int .i64 b,vi,.int .i64 x.ins.length,.int .i64 i])
    (fun _ i h4=>∃ m',upE (insS f.params b x) i m3 = .ok m'∧Lk h4 Kb r vb f m'∧Kept h3 h4 (some r)) x.ins.length ()
    rfl (by omega) rfl ⟨m3,rfl,k3,Kept.refl _ _⟩ (fun _ _=>rfl) (fun v i h1 hk m=>by simp) ?_ ?_
   ·rintro _ i h4 hlti ⟨m4,hm4,k4,kp4⟩ K3 hK3
    have bi4:=bi3.mono kp4.skip
    obtain ⟨u5,hu5,hur5⟩:=bi4.wh rfl (N:=5) rfl hlti
    have hr4:=k4.map.lt
    have hst4:=lI hm4
    have her4 : ∀ {t},insS f.params b x i m4 = .error t→upE (insS f.params b x) x.ins.length m3 = .error t:=fun e=>wO hm4 hlti e
    rw [insS] at hst4 her4
    refine aa fun y hy=>?_
    simp (disch:=omega) [bi4.idxn (N:=5) rfl,hu5 _ bX]
    refine gL (z:=.agg #[.int .i64 0,.int .i64 0,.int .i64 0,.slice none 0 0,.int .i32 0]) (by kernel_rfl) rfl (by kernel_rfl) hur5 (fun _=>by simp) (fun _=>by simp) fun h5 hle5 hsz5 hat5=>?_
    have hat5':=hat5 (skip r h5) (Kept.of_le hle5).skip (iT (by omega))
    obtain ⟨c0,c1,c2,va5,ca5⟩:=rS hat5'
    have k5:=k4.ext hle5
    have kp5:=kp4.trans (Kept.of_le hle5)
    have whole : ∃ w,Un.ev (vw h5) (.au 5) (.pointer (some ⟨h4.size,0,none⟩))=some w∧Rd (vw h5) w (nth x.ins i):=by
     obtain ⟨w,w1,w2⟩:=(hat5'.mono bX).au rfl
     exact ⟨w,w1,w2⟩
    obtain ⟨w,w1,w2⟩:=whole
    generalize nth x.ins i=q at c0 c1 c2 ca5 hst4 her4 w2
    generalize h4.size=B4 at c0 c1 c2 ca5 w1
    rw [hy];clear hy y
    refine aa fun y hy=>?_
    simp [ae bX c0]
    refine af (by kernel_rfl) jt ?_
    rintro _ _ ⟨rfl,rfl⟩
    refine dv (by kernel_rfl) gJ ?_ ?_
    rotate_left
    ·rintro _ _ ⟨e,rfl,rfl⟩
     exact ⟨.inl rfl,hKp _ _ ⟨_,her (by rw [her4 (by rw [if_neg (by simp [e])])]),rfl,kp03.trans kp5⟩⟩
    rintro _ _ ⟨e1,rfl⟩
    rw [hy];clear hy y
    refine aa fun y hy=>?_
    simp [ae bX c0]
    refine af (by kernel_rfl) zb ?_
    rintro _ _ ⟨rfl,rfl⟩
    simp
    rw [hy];clear hy y
    refine aa fun y hy=>?_
    simp [ae bX ca5.1,ca5.2.len]
    refine af (by kernel_rfl) jt ?_
    rintro _ _ ⟨rfl,rfl⟩
    refine dv (by kernel_rfl) gJ ?_ ?_
    rotate_left
    ·rintro _ _ ⟨e,rfl,rfl⟩
     exact ⟨.inl rfl,hKp _ _ ⟨_,her (by rw [her4 (by rw [if_neg (by simp [e])])]),rfl,kp03.trans kp5⟩⟩
    rintro _ _ ⟨e2,rfl⟩
    rw [hy];clear hy y
    simp [w1]
    refine af (by kernel_rfl) (C2 w2) ?_
    rintro u6 h6 ⟨hle6,hu6⟩
    have k6:=k5.ext hle6
    have kp6:=kp5.trans (Kept.of_le hle6)
    rw [if_pos (by simp [e1,e2])] at hst4 her4
    have hr5:=k5.map.lt
    refine dv (by kernel_rfl) (Ea k6 (hu6.mono fun b o hb=>?_)) ?_ ?_
    ·unfold fresh at hb;unfold Lft.skip
     split at hb
     ·cases hb
     ·rw [if_neg (by omega)];exact hb
    ·rintro _ h7 ⟨m7,hm7,k7,kp7⟩
     exact hK3 () _ _ rfl rfl ⟨m7,by rw [hst4,hm7],k7,kp6.trans kp7⟩
    ·rintro _ h7 ⟨t,ht,rfl,kp7⟩
     exact ⟨.inl rfl,hKp _ _ ⟨t,her (by rw [her4 ht]),rfl,(kp03.trans kp6).trans kp7⟩⟩
   ·rintro _ h4 ⟨m4,hm4,k4,kp4⟩
    simp only [hm4] at hst her
    simp
    rw [hz];clear hz z
    refine aa fun z hz=>?_
    have kp24:=kp3.trans kp4
    have hr4:=k4.map.lt
    have ck4:=ae kp24.skip bk
    have hc : ∀ {h5:Heap},Kept h4 h5 (some r)→(skip r h4).le (vw h5):=fun hk=>hk.Ax
    have cellsS : ∀ o:Option Sh,((o.map encS).getD (.agg #[.int .i64 0,.int .i64 0,.int .i64 0,.int .i64 0]))=encS (o.getD (0,0,0,0)):=fun o=>by cases o<;>rfl
    have hone : ∀ s:Sh,∀ c∈(encS s).cells.toList,c.oneCell'=true:=fun s=>by simp [encS,Value.oneCell']
    refine wL (fun ρ h5=>∃ (B5:Nat) (v79 v83:Value) (tl:Env),ρ=[(0,.pointer (some ⟨Kb,0,none⟩)),(2,.int .i64 b),(3,.pointer (some ⟨B,0,none⟩)),(10,.pointer (some ⟨B5,0,none⟩)),(11,.bool (fE x.term.kind).isSome),(18,vb),(19,.int .i64 f.blocks.length),(20,.int .i64 b),(43,vi),
      (44,.int .i64 x.ins.length),(45,.int .i64 x.ins.length),(79,v79),(82,.int .i64 x.term.kind),(83,v83)]++tl∧Lk h5 Kb r vb f m4∧Kept h4 h5 (some r)∧B5≠r∧h5[B5]? = some (.cells (encS ((fE x.term.kind).getD (0,0,0,0))).cells T.dc (0,0))) ?_ ?_
    ·intro K3 hK3
     refine cM (skip r h4) bX ?_
     simp [ck4]
     refine ⟨?_,?_⟩
     ·refine af (by kernel_rfl) uP ?_
      rintro _ h5 ⟨rfl,hle5,hm5⟩
      have hs5:=gn hle5
      refine ⟨hc (Kept.of_le hle5),?_,?_⟩
      ·refine kA (z:=.agg #[.int .i64 0,.int .i64 0,.int .i64 0,.int .i64 0]) U.dE U.int (by kernel_rfl) (by simp<;>rfl) (by simp<;>rfl) kT hm5 ?_
       rw [mL,cellsS,Option.isSome_map]
       simp
       refine jH (n:=4) (v:=encS ((fE x.term.kind).getD (0,0,0,0))) (z:=.agg #[.int .i64 0,.int .i64 0,.int .i64 0,.int .i64 0]) (by kernel_rfl) rfl (by kernel_rfl) rfl (hone _) (fun _=>by simp) (fun _=>by simp) fun h6 hle6 hsz6 hb6=>?_
       exact hK3 _ _ ⟨_,_,_,_,rfl,(k4.ext hle5).ext hle6,(Kept.of_le hle5).trans (Kept.of_le hle6),by omega,hb6⟩
      ·refine fg (z:=.agg #[.int .i64 0,.int .i64 0,.int .i64 0,.int .i64 0]) (by kernel_rfl) ?_
       have hle6:=bN h5 (.cells (Value.cells (.agg #[.int .i64 0,.int .i64 0,.int .i64 0,.int .i64 0])) T.dc)
       have hb6:(h5.push (.cells (Value.cells (.agg #[.int .i64 0,.int .i64 0,.int .i64 0,.int .i64 0])) T.dc))[h5.size]? = some (.cells (Value.cells (.agg #[.int .i64 0,.int .i64 0,.int .i64 0,.int .i64 0])) T.dc (0,0)):=by simp
       have hs6:(h5.push (.cells (Value.cells (.agg #[.int .i64 0,.int .i64 0,.int .i64 0,.int .i64 0])) T.dc)).size=h5.size+1:=by simp
       generalize h5.push (.cells (Value.cells (.agg #[.int .i64 0,.int .i64 0,.int .i64 0,.int .i64 0])) T.dc)=h6 at hle6 hb6 hs6
       refine ⟨hc ((Kept.of_le hle5).trans (Kept.of_le hle6)),?_⟩
       refine kA (z:=.agg #[.int .i64 0,.int .i64 0,.int .i64 0,.int .i64 0]) U.dE U.int (by kernel_rfl) (by simp<;>rfl) (by simp<;>rfl) kT (hm5.ext hle6) ?_
       rw [mL,cellsS,Option.isSome_map]
       simp
       refine ee (g:=h5.size) (o:=0) (n:=4) (v:=encS ((fE x.term.kind).getD (0,0,0,0))) (by kernel_rfl) rfl rfl rfl (hone _) hb6 (by simp) fun h7 hs7 ⟨row,hb7,hrow⟩ ho7=>?_
       have hrow2:row=(encS ((fE x.term.kind).getD (0,0,0,0))).cells:=by rw [←Array.toList_inj,hrow];simp
       rw [hrow2] at hb7
       have kp7:Kept h4 h7 (some r):=⟨by omega,fun q hq hne=>by rw [ho7 q (by omega)];exact hle6 _ _ (hle5 _ _ (Array.getElem?_eq_getElem hq)) |>.trans (Array.getElem?_eq_getElem hq).symm⟩
       exact hK3 _ _ ⟨_,_,_,_,rfl,k4.kept kp7 (((k4.map.ext hle5).ext hle6).same (ho7 r (by omega))),kp7,by omega,hb7⟩
     ·refine fg (z:=.agg #[.int .i64 0,.int .i64 0,.int .i64 0,.int .i64 0]) (by kernel_rfl) ?_
      have hle5:=bN h4 (.cells (Value.cells (.agg #[.int .i64 0,.int .i64 0,.int .i64 0,.int .i64 0])) T.dc)
      have hb5:(h4.push (.cells (Value.cells (.agg #[.int .i64 0,.int .i64 0,.int .i64 0,.int .i64 0])) T.dc))[h4.size]? = some (.cells (Value.cells (.agg #[.int .i64 0,.int .i64 0,.int .i64 0,.int .i64 0])) T.dc (0,0)):=by simp
      have hs5:(h4.push (.cells (Value.cells (.agg #[.int .i64 0,.int .i64 0,.int .i64 0,.int .i64 0])) T.dc)).size=h4.size+1:=by simp
      generalize h4.push (.cells (Value.cells (.agg #[.int .i64 0,.int .i64 0,.int .i64 0,.int .i64 0])) T.dc)=h5 at hle5 hb5 hs5
      refine ⟨hc (Kept.of_le hle5),?_⟩
      refine af (by kernel_rfl) uP ?_
      rintro _ h6 ⟨rfl,hle6,hm6⟩
      have hs6:=gn hle6
      refine ⟨hc ((Kept.of_le hle5).trans (Kept.of_le hle6)),?_⟩
      refine kA (z:=.agg #[.int .i64 0,.int .i64 0,.int .i64 0,.int .i64 0]) U.dE U.int (by kernel_rfl) (by simp<;>rfl) (by simp<;>rfl) kT hm6 ?_
      rw [mL,cellsS,Option.isSome_map]
      simp
      refine ee (g:=h4.size) (o:=0) (n:=4) (v:=encS ((fE x.term.kind).getD (0,0,0,0))) (by kernel_rfl) rfl rfl rfl (hone _) (hle6 _ _ hb5) (by simp) fun h7 hs7 ⟨row,hb7,hrow⟩ ho7=>?_
      have hrow2:row=(encS ((fE x.term.kind).getD (0,0,0,0))).cells:=by rw [←Array.toList_inj,hrow];simp
      rw [hrow2] at hb7
      have kp7:Kept h4 h7 (some r):=⟨by omega,fun q hq hne=>by rw [ho7 q (by omega)];exact hle6 _ _ (hle5 _ _ (Array.getElem?_eq_getElem hq)) |>.trans (Array.getElem?_eq_getElem hq).symm⟩
      exact hK3 _ _ ⟨_,_,_,_,rfl,k4.kept kp7 (((k4.map.ext hle5).ext hle6).same (ho7 r (by omega))),kp7,by omega,hb7⟩
    ·rintro ρ h5 ⟨B5,v79,v83,tl,rfl,k5,kp5,hB5,hb5⟩
     rw [hz];clear hz z
     refine aa fun z hz=>?_
     have kp25:=kp24.trans kp5
     have ci5:=ae kp25.skip bi.1
     have bi5:=bi.2.mono kp25.skip
     have ca5:=ae kp25.skip ba.1
     have ba5:=ba.2.mono kp25.skip
     have ct5:=ae kp25.skip bt.1
     have bt5:=bt.2.mono kp25.skip
     have hb5':skip r h5 B5=some (.cells (encS ((fE x.term.kind).getD (0,0,0,0))).cells T.dc (0,0)):=by rw [iT hB5];exact hb5
     generalize hsh:(fE x.term.kind).getD (0,0,0,0)=s at hb5'
     have d0:an (skip r h5) ⟨B5,0,none⟩=some (.int .i64 s.1):=bJ hb5' rfl
     have d1:an (skip r h5) ⟨B5,1,none⟩=some (.int .i64 s.2.1):=bJ hb5' rfl
     have d2:an (skip r h5) ⟨B5,2,none⟩=some (.int .i64 s.2.2.1):=bJ hb5' rfl
     have d3:an (skip r h5) ⟨B5,3,none⟩=some (.int .i64 s.2.2.2):=bJ hb5' rfl
     have hto:mS x.term=((fE x.term.kind).isSome&&(bw x.term.args.length s.1 s.2.1&&bw x.term.to.length s.2.2.1 s.2.2.2)):=by
      rw [mS,←hsh];cases fE x.term.kind<;>rfl
     refine cM (skip r h5) bX ?_
     have bad:mS x.term=false→∀ ch,ch=trV (10,(b:Int),(x.ins.length:Int))→Kp ch h5:=fun e ch hch=>hKp _ _ ⟨_,her (by rw [endS,if_neg (by simp [e])]),hch,kp03.trans (kp4.trans kp5)⟩
     have good:mS x.term=true→∀ tl:Env,@LC.wp (ppOf Kp) Tryz.prog z (eo 1 (eZ K2 (eo 0 (@eT [] K)))) ([(0,.pointer (some ⟨Kb,0,none⟩)),(2,.int .i64 b),(3,.pointer (some ⟨B,0,none⟩)),(10,.pointer (some ⟨B5,0,none⟩)),(11,.bool true),(18,vb),(19,.int .i64 f.blocks.length),(20,.int .i64 b),(43,vi),
      (44,.int .i64 x.ins.length),(45,.int .i64 x.ins.length),(79,v79),(82,.int .i64 x.term.kind),(83,v83)]++tl) h5:=by
      intro hgood tl
      rw [hz];clear hz z
      have ct5':=ae bX ct5
      have cb5:=k5.c1
      have hne:0<f.blocks.length:=by omega
      simp [ct5',bt5.len]
      refine aV [0,2,3,18,19,20,116,117,118] (fun (_:Unit) i=>[.pointer (some ⟨Kb,0,none⟩),.int .i64 b,.pointer (some ⟨B,0,none⟩),vb,.int .i64 f.blocks.length,.int .i64 b,vt,.int .i64 x.term.to.length,.int .i64 i])
       (fun _ i h6=>h6=h5∧∀ j,j<i→bw (nth x.term.to j) 1 (f.blocks.length-1)=true) x.term.to.length ()
       rfl (by omega) (by simp [bm,aj,al]) ⟨rfl,fun j hj=>by omega⟩ (fun _ _=>rfl) (fun v i h1 hk m=>by simp) ?_ ?_
      ·rintro _ i h5 hlti ⟨rfl,hpre⟩ K3 hK3
       refine aa fun y hy=>?_
       simp (disch:=omega) [bt5.idx1 rfl,bt5.int bX]
       rw [hy];clear hy y
       refine cM (skip r h5) bX ?_
       simp (disch:=omega) [ci5,bi5.len,cb5,k5.rb.len]
       refine af (by kernel_rfl) jt ?_
       rintro _ _ ⟨rfl,rfl⟩
       refine ⟨bX,?_⟩
       refine dv (by kernel_rfl) gJ ?_ ?_
       ·rintro _ _ ⟨e,rfl⟩
        refine hK3 () _ _ rfl rfl ⟨rfl,fun j hj=>?_⟩
        rcases Nat.lt_or_ge j i with h | h
        ·exact hpre j h
        ·have:j=i:=by omega
         subst this;exact e
       ·rintro ch _ ⟨e,hch,rfl⟩
        refine ⟨.inr fun _=>trivial,hKp _ _ ⟨_,her ?_,hch,kp03.trans (kp4.trans kp5)⟩⟩
        rw [endS,if_pos hgood,if_neg]
        intro ha
        rw [List.all_eq_true.1 ha _ (bu hlti)] at e;cases e
      ·rintro _ h5 ⟨rfl,hpre⟩
       simp
       refine hK2 () _ _ rfl rfl ⟨m4,?_,k5,kp03.trans (kp4.trans kp5)⟩
       rw [hst,endS,if_pos hgood,if_pos]
       rw [List.all_eq_true]
       intro y hy
       obtain ⟨j,hj,rfl⟩:=List.getElem_of_mem hy
       rw [←ak hj];exact hpre j hj
     cases hso:(fE x.term.kind).isSome with
     | false=>
      simp [ci5,bi5.len,d0,d1,d2,d3,ca5,ba5.len,ct5,bt5.len,aj,al]
      refine dv (by kernel_rfl) gJ ?_ ?_
      ·rintro _ _ ⟨e,_⟩;cases e
      ·rintro ch _ ⟨_,hch,rfl⟩
       exact ⟨.inr fun _=>trivial,bad (by rw [hto,hso];rfl) _ hch⟩
     | true=>
      rw [hso,Bool.true_and] at hto
      simp [ci5,bi5.len,d0,d1,d2,d3,ca5,ba5.len,ct5,bt5.len,aj,al]
      refine af (by kernel_rfl) jt ?_
      rintro _ _ ⟨rfl,rfl⟩
      refine ⟨bX,?_⟩
      cases hw1:bw x.term.args.length s.1 s.2.1 with
      | false=>
       simp [aj,al]
       refine dv (by kernel_rfl) gJ ?_ ?_
       ·rintro _ _ ⟨e,_⟩;cases e
       ·rintro ch _ ⟨_,hch,rfl⟩
        exact ⟨.inr fun _=>trivial,bad (by rw [hto,hw1];rfl) _ hch⟩
      | true=>
       simp [aj,al]
       refine af (by kernel_rfl) jt ?_
       rintro _ _ ⟨rfl,rfl⟩
       refine ⟨bX,?_⟩
       refine dv (by kernel_rfl) gJ ?_ ?_
       ·rintro _ _ ⟨e,rfl⟩
        exact good (by rw [hto,hw1,e];rfl) _
       ·rintro ch _ ⟨e,hch,rfl⟩
        exact ⟨.inr fun _=>trivial,bad (by rw [hto,hw1,e];rfl) _ hch⟩
 ·rintro _ h1 ⟨m1,hm1,k1,kp1⟩
  simp
  exact hK _ _ ⟨m1,hm1,k1,kp1⟩
end Go.Proofs.YtbkdlhkoiagbbaaGreat
namespace Go.Proofs.YtbkdlhkoiagbbaaGreat
open Go Go.Lft
theorem oB : ∀ {a b:List Int},a.Pairwise (· < ·)→b.Pairwise (· < ·)→(∀ x,x∈a↔x∈b)→a=b
 | [],[],_,_,_=>rfl
 | [],y::b,_,_,h=>by have:=(h y).2 (List.mem_cons_self ..);cases this
 | x::a,[],_,_,h=>by have:=(h x).1 (List.mem_cons_self ..);cases this
 | x::a,y::b,ha,hb,h=>by
  obtain ⟨a1,a2⟩:=List.pairwise_cons.1 ha
  obtain ⟨b1,b2⟩:=List.pairwise_cons.1 hb
  have e:x=y:=by
   rcases List.mem_cons.1 ((h x).1 (List.mem_cons_self ..)) with e | h1
   ·exact e
   ·rcases List.mem_cons.1 ((h y).2 (List.mem_cons_self ..)) with e | h2
    ·exact e.symm
    ·have:=a1 y h2;have:=b1 x h1;omega
  subst e
  rw [oB a2 b2 fun z=>?_]
  constructor
  ·intro hz
   rcases List.mem_cons.1 ((h z).1 (List.mem_cons_of_mem _ hz)) with e | h1
   ·have:=a1 z hz;omega
   ·exact h1
  ·intro hz
   rcases List.mem_cons.1 ((h z).2 (List.mem_cons_of_mem _ hz)) with e | h1
   ·have:=b1 z hz;omega
   ·exact h1
theorem xc (l:List Int):(nM l).Pairwise (·≤·):=by
 have:=List.pairwise_mergeSort (le:=fun x y:Int=>decide (x≤y)) (fun a b c h1 h2=>by simp at *;omega) (fun a b=>by simp;omega) l
 exact this.imp fun h=>by simpa using h
theorem get!_nth {l:List Int} {i:Nat}:l.toArray[i]! = nth l i:=by
 simp [nth,List.getD_eq_getElem?_getD]
theorem sV {l:List Int} (hs:l.Pairwise (·≤·)) {i j:Nat} (hij:i≤j) (hj:j<l.length):nth l i≤nth l j:=by
 rw [ak (by omega),ak hj]
 rcases Nat.lt_or_ge i j with h | h
 ·exact List.pairwise_iff_getElem.1 hs i j (by omega) hj h
 ·have:i=j:=by omega
  subst this;exact Int.le_refl _
theorem sZ {l:List Int} (hs:l.Pairwise (·≤·)):(Lib.compact l).Pairwise (· < ·):=by
 unfold Lib.compact Lib.compactUpTo
 rw [List.pairwise_map,List.pairwise_filter]
 refine (List.pairwise_lt_range (n:=l.length)).imp_of_mem fun {i j} hi hj hij ki kj=>?_
 simp only [List.mem_range] at hi hj
 simp only [Lib.keeps,get!_nth,decide_eq_true_eq] at kj
 rw [get!_nth,get!_nth]
 have h1:=sV hs (i:=i) (j:=j-1) (by omega) (by omega)
 have h2:=sV hs (i:=j-1) (j:=j) (by omega) hj
 rcases kj with h | h<;>omega
theorem rO {l:List Int} {x:Int}:x∈Lib.compact l↔x∈l:=by
 refine ⟨nC,fun hx=>?_⟩
 obtain ⟨j,hj,rfl⟩:=List.getElem_of_mem hx
 have key : ∀ j,j<l.length→nth l j∈Lib.compact l:=by
  intro j
  induction j with
  | zero=>
   intro h
   unfold Lib.compact Lib.compactUpTo
   refine List.mem_map.2 ⟨0,List.mem_filter.2 ⟨by simpa using h,by simp [Lib.keeps]⟩,get!_nth⟩
  | succ j ih=>
   intro h
   by_cases he:nth l (j+1)=nth l j
   ·rw [he];exact ih (by omega)
   ·unfold Lib.compact Lib.compactUpTo
    refine List.mem_map.2 ⟨j+1,List.mem_filter.2 ⟨by simpa using h,by simp only [Lib.keeps,get!_nth,decide_eq_true_eq];exact .inr (by simpa using he)⟩,get!_nth⟩
 rw [←ak hj];exact key j hj
theorem jJ {β:Type} {p:Nat→Bool} {x:Nat→β} {n:Nat} {y:β}:y∈sift p x n↔∃ i,i<n∧p i=true∧x i=y:=by
 rw [jx];simp [and_assoc]
theorem wV {row:List Int} {n:Int}:(jV row n).Pairwise (· < ·):=sZ (xc _)
theorem qA {row:List Int} {n x:Int}:x∈jV row n↔x∈row∧0≤x∧x<n:=by
 rw [jV,rO,nM,List.mem_mergeSort,jJ]
 simp only [mQ,Bool.and_eq_true,decide_eq_true_eq]
 constructor
 ·rintro ⟨i,hi,h,rfl⟩;exact ⟨bu hi,h⟩
 ·rintro ⟨h,h1⟩
  obtain ⟨i,hi,rfl⟩:=List.getElem_of_mem h
  exact ⟨i,hi,by rw [ak hi];exact h1,ak hi⟩
theorem dU {g:Gr} {a b:Int}:cW g a b=true↔(0≤a∧a<g.length∧0≤b∧b<g.length)∧b∈nth g a.toNat:=by
 simp [cW]
theorem nw {p:Nat→Bool} {n:Nat}:(sift p (fun b=>(b:Int)) n).Pairwise (· < ·):=by
 rw [jx,List.pairwise_map,List.pairwise_filter]
 exact List.pairwise_lt_range.imp fun h _ _=>by omega
theorem dL {g:Gr} {a b:Int}:b∈cQ g a↔cW g a b=true:=by
 rw [cQ,jJ]
 constructor
 ·rintro ⟨i,_,h,rfl⟩;exact h
 ·intro h
  have:=(dU.1 h).1
  exact ⟨b.toNat,by omega,by rw [Int.toNat_of_nonneg (by omega)];exact h,Int.toNat_of_nonneg (by omega)⟩
theorem ia {g:Gr} {a:Int}:(cQ g a).Pairwise (· < ·):=nw
theorem kv {g:Gr} {a:Nat} (ha:a<g.length):nth (cc g) a=cQ g a:=by
 rw [cc,df ha]
 refine oB wV ia fun x=>?_
 rw [qA,dL,dU,Int.toNat_natCast]
 exact ⟨fun ⟨h1,h2,h3⟩=>⟨⟨by omega,by omega,h2,h3⟩,h1⟩,fun ⟨⟨_,_,h2,h3⟩,h1⟩=>⟨h1,h2,h3⟩⟩
theorem yO {f k:Nat→List Int} {n:Nat} (h : ∀ a,a<n→f a=k a):gN f n=gN k n:=by
 induction n with
 | zero=>rfl
 | succ n ih=>rw [fW,fW,ih fun a ha=>h a (by omega),h n (by omega)]
theorem lC {g:Gr}:eQ g=gN (fun a=>cQ g a) g.length:=yO fun a ha=>kv ha
theorem BI {g:Gr} {e:Int × Int}:e∈eQ g↔cW g e.1 e.2=true:=by
 rw [lC,gN,List.mem_flatMap]
 simp only [List.mem_range,List.mem_map]
 constructor
 ·rintro ⟨a,ha,b,hb,rfl⟩;exact dL.1 hb
 ·intro h
  have:=(dU.1 h).1
  exact ⟨e.1.toNat,by omega,e.2,dL.2 (by rw [Int.toNat_of_nonneg (by omega)];exact h),by rw [Int.toNat_of_nonneg (by omega)]⟩
theorem C0 {l:List (Int × Int)} : ∀ {p:Gr} {i:Nat},i<p.length→nth (l.foldl eO p) i=nth p i++(l.filter fun e=>decide (e.2.toNat=i)).map Prod.fst:=by
 induction l with
 | nil=>intro p i _;simp
 | cons e l ih=>
  intro p i hi
  rw [List.foldl_cons,ih (by simpa [eO] using hi),eO,aJ hi,List.filter_cons]
  split
  ·rename_i h;simp [h]
  ·rename_i h;simp [h]
theorem filter_one {l:List Int} (hs:l.Pairwise (· < ·)) {b:Int}:l.filter (fun x=>decide (x=b))=if b∈l then [b] else []:=by
 induction l with
 | nil=>simp
 | cons x l ih=>
  obtain ⟨h1,h2⟩:=List.pairwise_cons.1 hs
  rw [List.filter_cons,ih h2]
  by_cases hx:x=b
  ·subst hx
   have:¬x∈l:=fun h=>by have:=h1 x h;omega
   simp [this]
  ·simp [hx,Ne.symm hx]
theorem DX {f:Nat→List Int} (hf : ∀ a,(f a).Pairwise (· < ·)) (hp : ∀ a,∀ x∈f a,0≤x) {b n:Nat}:((gN f n).filter fun e=>decide (e.2.toNat=b)).map Prod.fst=sift (fun a=>decide ((b:Int)∈f a)) (fun a=>(a:Int)) n:=by
 induction n with
 | zero=>rfl
 | succ n ih=>
  rw [fW,List.filter_append,List.map_append,ih]
  have e1:((f n).map fun b=>((n:Int),b)).filter (fun e=>decide (e.2.toNat=b))=((f n).filter fun x=>decide (x=(b:Int))).map fun b=>((n:Int),b):=by
   rw [List.filter_map]
   congr 1
   refine List.filter_congr fun x hx=>?_
   have:=hp n x hx
   simp only [Function.comp,decide_eq_decide]
   omega
  rw [e1,filter_one (hf n)]
  by_cases h:(b:Int)∈f n
  ·rw [if_pos h,gX (by simpa using h)];rfl
  ·rw [if_neg h,fY (by simpa using h)];simp
theorem ni {g:Gr}:(cf g).length=g.length:=by rw [cf,kG];simp
theorem mU {g:Gr}:cf g=dC g:=by
 refine uG (by rw [ni,sL]) fun b hb=>?_
 rw [ni] at hb
 rw [cf,C0 (by simpa using hb),aq hb,List.nil_append,dC,df hb,lC,DX (fun _=>ia) (fun a x hx=>by
  have:=(dU.1 (dL.1 hx)).1;omega)]
 have e:(fun a:Nat=>decide ((b:Int)∈cQ g a))=fun a:Nat=>cW g a b:=by
  funext a
  rw [Bool.eq_iff_iff]
  simp [dL]
 rw [e]
theorem B6 {g:Gr} {a b:Int} (hb:0≤b∧b<g.length):a∈nth (cf g) b.toNat↔cW g a b=true:=by
 rw [mU,dC,df (by omega),jJ]
 constructor
 ·rintro ⟨i,_,h,rfl⟩
  rwa [Int.toNat_of_nonneg hb.1] at h
 ·intro h
  have:=(dU.1 h).1
  exact ⟨a.toNat,by omega,by rw [Int.toNat_of_nonneg (by omega),Int.toNat_of_nonneg (by omega)];exact h,Int.toNat_of_nonneg (by omega)⟩
end Go.Proofs.YtbkdlhkoiagbbaaGreat
namespace Go.Proofs.YtbkdlhkoiagbbaaGreat
open Go Go.Lft
structure Le (x y:List Bool):Prop where
 len:y.length=x.length
 le : ∀ i,nth x i=true→nth y i=true
theorem Le.refl (x:List Bool):Le x x:=⟨rfl,fun _ h=>h⟩
theorem Le.trans {x y z:List Bool} (h:Le x y) (k:Le y z):Le x z:=⟨k.len.trans h.len,fun i e=>k.le i (h.le i e)⟩
theorem Le.antisymm {x y:List Bool} (h:Le x y) (k:Le y x):x=y:=by
 refine uG h.len.symm fun i _=>?_
 rw [Bool.eq_iff_iff];exact ⟨h.le i,k.le i⟩
theorem Le.cR : ∀ {x y:List Bool},Le x y→x=y∨cR y<cR x
 | [],y,h=>.inl (List.eq_nil_of_length_eq_zero h.len).symm
 | a::x,y,h=>by
  match y,h with
  | [],h=>have:=h.len;simp at this
  | b::y,h=>
   have h2:Le x y:=⟨by simpa using h.len,fun i e=>by have:=h.le (i+1);simpa [nth] using this (by simpa [nth] using e)⟩
   have h0:a=true→b=true:=fun e=>by have:=h.le 0;simpa [nth] using this (by simpa [nth] using e)
   unfold Go.Proofs.YtbkdlhkoiagbbaaGreat.cR
   rcases h2.cR with rfl | h3
   ·cases a<;>cases b<;>simp at h0 ⊢
   ·unfold Go.Proofs.YtbkdlhkoiagbbaaGreat.cR at h3
    cases a<;>cases b<;>simp at h0 ⊢<;>omega
theorem Gy {x:List Bool} {i:Nat} {b:Bool} (hb:nth x i=true→b=true):Le x (x.set i b):=by
 refine ⟨by simp,fun j hj=>?_⟩
 rcases Nat.lt_or_ge j x.length with h | h
 ·rw [aJ h]
  split
  ·rename_i e;subst e;exact hb hj
  ·exact hj
 ·rw [aU h] at hj;cases hj
theorem vv {f:Nat→List Bool→List Bool} (hf : ∀ k x,Le x (f k x)) (x:List Bool) : ∀ n m,n≤m→Le (up f n x) (up f m x)
  | n,0,h=>by
                  obtain rfl:n=0:=by omega
                  exact Le.refl _
  | n,m+1,h=>by
    rcases Nat.lt_or_ge n (m+1) with h1 | h1
    · exact (vv hf x n m (by omega)).trans (hf m _)
    · obtain rfl:n=m+1:=by omega
      exact Le.refl _
theorem F4 {f:Nat→List Bool→List Bool} (hf : ∀ k x,Le x (f k x)) {x:List Bool} {n:Nat} (h:up f n x=x) : ∀ k,k<n→f k x=x:=by
 have key : ∀ k,k≤n→up f k x=x:=fun k hk=>by
  have h1:=vv hf x k n hk
  rw [h] at h1
  have h2:=vv hf x 0 k (Nat.zero_le _)
  exact (h2.antisymm h1).symm
 intro k hk
 have h1:=key (k+1) (by omega)
 rw [up,key k (by omega)] at h1
 exact h1
theorem y8 {β:Type} {F:β→β} : ∀ (n:Nat) (x:β),up (fun _=>F) (n+1) x=up (fun _=>F) n (F x)
 | 0,x=>rfl
 | n+1,x=>by
  show F (up (fun _=>F) (n+1) x)=F (up (fun _=>F) n (F x))
  rw [y8 n x]
theorem yN {β:Type} {F:β→β} {x:β} (h:F x=x) : ∀ n,up (fun _=>F) n x=x
 | 0=>rfl
 | n+1=>by show F (up (fun _=>F) n x)=x;rw [yN h n,h]
theorem D6 {F:List Bool→List Bool} (hF : ∀ x,Le x (F x)) : ∀ (n:Nat) (x:List Bool),cR x≤n→F (up (fun _=>F) n x)=up (fun _=>F) n x
 | 0,x,h=>by
  rcases (hF x).cR with e | e
  ·exact e.symm
  ·omega
 | n+1,x,h=>by
  rw [y8]
  rcases (hF x).cR with e | e
  ·rw [←e,yN e.symm];exact e.symm
  ·exact D6 hF n _ (by omega)
inductive Re (g:Gr) (gone:Int):Nat→Prop
 | root:0<g.length→gone≠0→Re g gone 0
 | step {a b:Nat}:Re g gone a→cW g a b=true→(b:Int)≠gone→Re g gone b
theorem Re.lt {g:Gr} {gone:Int} {b:Nat} (h:Re g gone b):b<g.length:=by
 cases h with
 | root h _=>exact h
 | step _ h _=>have:=(dU.1 h).1;omega
theorem Re.ne {g:Gr} {gone:Int} {b:Nat} (h:Re g gone b):(b:Int)≠gone:=by
 cases h with
 | root _ h=>exact fun e=>h e.symm
 | step _ _ h=>exact h
theorem Re.all {g:Gr} {gone:Int} {b:Nat} (h:Re g gone b):Re g (-1) b:=by
 induction h with
 | root h _=>exact .root h (by decide)
 | step _ h _ ih=>exact .step ih h (by omega)
theorem tV {gone:Int} {l:List Int} {i:Nat} {x:List Bool}:Le x (sj gone l i x):=Gy fun h=>by rw [h];rfl
theorem rz {g:Gr} {gone:Int} {a:Nat} {x:List Bool}:Le x (outBlock g gone a x):=by
 unfold outBlock
 split
 ·exact vv (fun k x=>tV) x 0 _ (Nat.zero_le _)
 ·exact Le.refl _
theorem qU {g:Gr} {gone:Int} {x:List Bool}:Le x (lq g gone x):=vv (fun k x=>rz) x 0 _ (Nat.zero_le _)
theorem xm {β:Type} (I:β→Prop) {f:Nat→β→β} {n:Nat} (hf : ∀ k x,k<n→I x→I (f k x)) {x:β} (hx:I x):I (up f n x):=by
 have : ∀ m,m≤n→I (up f m x):=by
  intro m
  induction m with
  | zero=>exact fun _=>hx
  | succ m ih=>exact fun h=>hf _ _ (by omega) (ih (by omega))
 exact this n (Nat.le_refl _)
theorem wZ {g:Gr} {gone:Int} {b:Nat}:nth (lS g gone) b=true↔Re g gone b:=by
 by_cases h0:g.length=0∨gone=0
 ·rw [lS,if_pos h0]
  constructor
  ·intro h
   rcases Nat.lt_or_ge b g.length with h1 | h1
   ·rw [aq h1] at h;cases h
   ·rw [aU (by simpa using h1)] at h;cases h
  ·intro h
   exfalso
   induction h with
   | root h1 h2=>rcases h0 with h0 | h0;omega;exact h2 h0
   | step _ _ _ ih=>exact ih
 ·rw [lS,if_neg h0]
  have hg:g.length≠0:=fun e=>h0 (.inl e)
  have hgone:gone≠0:=fun e=>h0 (.inr e)
  have hinit:((List.replicate g.length false).set 0 true).length=g.length:=by simp
  constructor
  ·-- what is marked is reached
   have hI : ∀ x:List Bool,(∀ b,nth x b=true→Re g gone b)→∀ b,nth (lq g gone x) b=true→Re g gone b:=by
    intro x hx
    refine xm (fun x:List Bool=>∀ b,nth x b=true→Re g gone b) (fun a x ha hx=>?_) hx
    unfold outBlock
    split
    ·rename_i hxa
     have hra:=hx a hxa
     refine xm (fun x:List Bool=>∀ b,nth x b=true→Re g gone b) (fun i x hi hx=>?_) hx
     intro b hb
     have hm:=bu hi
     have hed:=dL.1 hm
     have hrng:=(dU.1 hed).1
     unfold sj at hb
     rcases Nat.lt_or_ge b x.length with h1 | h1
     ·rw [aJ h1] at hb
      split at hb
      ·rename_i e
       rcases (Bool.or_eq_true _ _).mp hb with h2 | h2
       ·rw [e] at h2;exact hx b h2
       ·have eb:(b:Int)=nth (cQ g a) i:=by omega
        exact .step hra (by rw [eb];exact hed) (by rw [eb];simpa using h2)
      ·exact hx b hb
     ·rw [aU (by simpa using h1)] at hb;cases hb
    ·exact hx
   exact xm (fun x:List Bool=>∀ b,nth x b=true→Re g gone b) (fun _ x _ hx=>hI x hx) (fun b hb=>by
    rcases Nat.lt_or_ge b g.length with h1 | h1
    ·rw [aJ (by simpa using h1)] at hb
     split at hb
     ·rename_i e;subst e;exact .root (by omega) hgone
     ·rw [aq h1] at hb;cases hb
    ·rw [aU (by simpa using h1)] at hb;cases hb) b
  ·-- what is reached is marked
   intro h
   have hfix:=D6 (F:=lq g gone) (fun x=>qU) g.length ((List.replicate g.length false).set 0 true) (by
    have:=uD (t:=List.replicate g.length false) (i:=0)
    have h2:cR (List.replicate g.length false)=g.length:=by simp [cR]
    omega)
   have hle:=vv (f:=fun _=>lq g gone) (fun _ x=>qU) ((List.replicate g.length false).set 0 true) 0 g.length (Nat.zero_le _)
   generalize up (fun _=>lq g gone) g.length ((List.replicate g.length false).set 0 true)=x at hfix hle
   have hxl:x.length=g.length:=hle.len.trans hinit
   induction h with
   | root h1 _=>exact hle.le 0 (by show nth ((List.replicate g.length false).set 0 true) 0=true;rw [aJ (by simpa using h1),if_pos rfl])
   | step ha he hb ih=>
    rename_i a b
    have hrng:=(dU.1 he).1
    have h1:=F4 (fun k x=>rz) hfix a (by omega)
    rw [outBlock,if_pos ih] at h1
    obtain ⟨i,hi,e⟩:=List.getElem_of_mem (dL.2 he)
    have h2:=F4 (fun k x=>tV) h1 i hi
    rw [←ak hi] at e
    unfold sj at h2
    rw [e] at h2
    have h3:=congrArg (fun l=>nth l b) h2
    simp only [Int.toNat_natCast] at h3
    rw [aJ (by omega),if_pos rfl] at h3
    rw [←h3]
    simp [hb]
theorem nc {g:Gr} {a b:Nat}:domC g a b=true↔Re g (-1) a∧Re g (-1) b∧¬Re g a b:=by
 rw [domC]
 simp only [Bool.and_eq_true,Bool.or_eq_true,Bool.not_eq_true',decide_eq_true_eq,wZ,Bool.eq_false_iff,ne_eq]
 constructor
 ·rintro ⟨⟨h1,h2⟩,h3⟩
  refine ⟨h1,h2,?_⟩
  rcases h3 with h3 | h3
  ·exact fun h=>h.ne h3.symm
  ·exact h3
 ·rintro ⟨h1,h2,h3⟩
  exact ⟨⟨h1,h2⟩,.inr h3⟩
end Go.Proofs.YtbkdlhkoiagbbaaGreat
namespace Go.Proofs.YtbkdlhkoiagbbaaGreat
open Go Go.Lft
def Bef (l:List Int) (u v:Int):Prop:=∃ p q,l=p++u::q∧v∈q
theorem Bef.app {l:List Int} {u v:Int} (h:Bef l u v) (t:List Int):Bef (l++t) u v:=by
 obtain ⟨p,q,rfl,hv⟩:=h
 exact ⟨p,q++t,by simp,List.mem_append_left _ hv⟩
theorem Bef.pre {l:List Int} {u v:Int} (h:Bef l u v) (t:List Int):Bef (t++l) u v:=by
 obtain ⟨p,q,rfl,hv⟩:=h
 exact ⟨t++p,q,by simp,hv⟩
theorem Bef.AH {l t:List Int} {u v:Int} (hu:u∈l) (hv:v∈t):Bef (l++t) u v:=by
 obtain ⟨p,q,rfl⟩:=List.append_of_mem hu
 exact ⟨p,q++t,by simp,List.mem_append_right _ hv⟩
theorem Bef.mem {l:List Int} {u v:Int} (h:Bef l u v):u∈l∧v∈l:=by
 obtain ⟨p,q,rfl,hv⟩:=h
 exact ⟨by simp,by simp [hv]⟩
inductive Adv (nx:Int→List Int) (l:List Int) (u:Int):Int→Prop
 | self:Adv nx l u u
 | step {p q:Int}:Adv nx l u p→q∈nx p→Bef l q p→Adv nx l u q
theorem Adv.app {nx:Int→List Int} {l:List Int} {u v:Int} (h:Adv nx l u v) (t:List Int):Adv nx (l++t) u v:=by
 induction h with
 | self=>exact .self
 | step _ h1 h2 ih=>exact .step ih h1 (h2.app t)
theorem Adv.pre {nx:Int→List Int} {l:List Int} {u v:Int} (h:Adv nx l u v) (t:List Int):Adv nx (t++l) u v:=by
 induction h with
 | self=>exact .self
 | step _ h1 h2 ih=>exact .step ih h1 (h2.pre t)
theorem Adv.trans {nx:Int→List Int} {l:List Int} {u v w:Int} (h:Adv nx l u v) (k:Adv nx l v w):Adv nx l u w:=by
 induction k with
 | self=>exact h
 | step _ h1 h2 ih=>exact .step ih h1 h2
def vis (s:List Bool × List Int) (x:Int):Prop:=nth s.1 x.toNat=true
structure Told (nx:Int→List Int) (m:Nat) (a:Int) (s s':List Bool × List Int) (new:List Int):Prop where
 out:s'.2=s.2++new
 len:s'.1.length=s.1.length
 nodup:new.Nodup
 visd : ∀ x,0≤x→(vis s' x↔vis s x∨x∈new)
 fresh : ∀ x∈new,¬vis s x∧0≤x∧x<m
 last : ∃ t,new=t++[a]
 clos : ∀ x∈new,∀ y∈nx x,vis s' y
 par : ∀ x∈new,x≠a→∃ p∈new,x∈nx p∧Bef new x p
 desc : ∀ x∈new,Adv nx new a x
 ret : ∀ x∈new,∀ y∈nx x,y∈new→Bef new y x∨Adv nx new y x
structure Half (nx:Int→List Int) (m:Nat) (a:Int) (k:Nat) (s s':List Bool × List Int) (new:List Int):Prop where
 out:s'.2=s.2++new
 len:s'.1.length=s.1.length
 nodup:new.Nodup
 visd : ∀ x,0≤x→(vis s' x↔vis s x∨x=a∨x∈new)
 fresh : ∀ x∈new,¬vis s x∧(0≤x∧x<m)∧x≠a
 clos : ∀ x∈new,∀ y∈nx x,vis s' y
 done : ∀ j,j<k→vis s' (nth (nx a) j)
 par : ∀ x∈new,x∈nx a∨∃ p∈new,x∈nx p∧Bef new x p
 desc : ∀ x∈new,∃ b∈new,b∈nx a∧Adv nx new b x
 ret : ∀ x∈new,∀ y∈nx x,y∈new→Bef new y x∨Adv nx new y x
theorem vk {nx:Int→List Int} {m:Nat} (hnx : ∀ a:Int,0≤a→a<m→∀ y∈nx a,0≤y∧y<m) : ∀ (n:Nat) (a:Int) (s:List Bool × List Int),0≤a→a<m→s.1.length=m→nth s.1 a.toNat=false→cR s.1≤n→
  ∃ new,Told nx m a s (iR nx n a s) new
 | 0,a,s,h0,h1,hl,hf,hc=>by
  exfalso
  have:=iL (t:=s.1) (i:=a.toNat) (by omega) hf
  omega
 | n+1,a,s,h0,h1,hl,hf,hc=>by
  have hfs:=iL (t:=s.1) (i:=a.toNat) (by omega) hf
  rw [jq]
  have half : ∀ k,k≤(nx a).length→∃ new,Half nx m a k s (up (b0 nx n a) k (s.1.set a.toNat true,s.2)) new∧cR (up (b0 nx n a) k (s.1.set a.toNat true,s.2)).1≤n:=by
   intro k
   induction k with
   | zero=>
    intro _
    refine ⟨[],⟨by simp [up],by simp [up],by simp,fun x hx=>?_,by simp,by simp,by simp,by simp,by simp,by simp⟩,by simp only [up];omega⟩
    unfold vis
    show nth (s.1.set a.toNat true) x.toNat=true↔_
    rcases Nat.lt_or_ge x.toNat s.1.length with hlt | hge
    ·rw [aJ hlt]
     split
     ·rename_i e
      have:x=a:=by omega
      simp [this]
     ·rename_i e
      have:x≠a:=fun h=>e (by rw [h])
      simp [this]
    ·rw [aU (by simpa using hge),aU hge]
     have:x≠a:=by omega
     simp [this]
   | succ k ih=>
    intro hk
    obtain ⟨new,H,hcn⟩:=ih (by omega)
    rw [up]
    generalize up (b0 nx n a) k (s.1.set a.toNat true,s.2)=z at H hcn
    have hb:=hnx a h0 h1 (nth (nx a) k) (bu (by omega))
    have hbm:nth (nx a) k∈nx a:=bu (by omega)
    have hzl:z.1.length=m:=H.len.trans hl
    rw [b0]
    split
    ·rename_i hv
     refine ⟨new,{ H with done:=fun j hj=>?_ },hcn⟩
     rcases Nat.lt_or_ge j k with h | h
     ·exact H.done j h
     ·obtain rfl:j=k:=by omega
      exact hv
    ·rename_i hv
     obtain ⟨new',T⟩:=vk hnx n (nth (nx a) k) z hb.1 hb.2 hzl (by simpa using hv) hcn
     have hkeep:=(nr (nx:=nx) (m:=m) (c:=n) n (nth (nx a) k) z ⟨hzl,hcn⟩).2
     generalize iR nx n (nth (nx a) k) z=z' at T hkeep
     obtain ⟨t,ht⟩:=T.last
     have hbn:nth (nx a) k∈new':=by rw [ht];simp
     have up : ∀ y,0≤y→vis z y→vis z' y:=fun y hy h=>(T.visd y hy).2 (.inl h)
     have hnv : ∀ x∈new,vis z x:=fun x hx=>(H.visd x (H.fresh x hx).2.1.1).2 (.inr (.inr hx))
     refine ⟨new++new',⟨?_,?_,?_,?_,?_,?_,?_,?_,?_,?_⟩,hkeep⟩
     ·rw [T.out,H.out,List.append_assoc]
     ·rw [T.len,H.len]
     ·exact List.nodup_append.2 ⟨H.nodup,T.nodup,fun x hx y hy e=>by subst e;exact (T.fresh x hy).1 (hnv x hx)⟩
     ·intro x hx
      rw [T.visd x hx,H.visd x hx,List.mem_append]
      constructor
      ·rintro ((h | h | h) | h)
       ·exact .inl h
       ·exact .inr (.inl h)
       ·exact .inr (.inr (.inl h))
       ·exact .inr (.inr (.inr h))
      ·rintro (h | h | h | h)
       ·exact .inl (.inl h)
       ·exact .inl (.inr (.inl h))
       ·exact .inl (.inr (.inr h))
       ·exact .inr h
     ·intro x hx
      rcases List.mem_append.1 hx with hx | hx
      ·exact H.fresh x hx
      ·obtain ⟨g1,g2⟩:=T.fresh x hx
       refine ⟨fun h=>g1 ((H.visd x g2.1).2 (.inl h)),g2,fun e=>g1 ((H.visd x g2.1).2 (.inr (.inl e)))⟩
     ·intro x hx y hy
      rcases List.mem_append.1 hx with hx | hx
      ·have hxr:=(H.fresh x hx).2.1
       exact up y (hnx x hxr.1 hxr.2 y hy).1 (H.clos x hx y hy)
      ·exact T.clos x hx y hy
     ·intro j hj
      rcases Nat.lt_or_ge j k with h | h
      ·exact up _ (hnx a h0 h1 _ (bu (by omega))).1 (H.done j h)
      ·obtain rfl:j=k:=by omega
       exact (T.visd _ hb.1).2 (.inr hbn)
     ·intro x hx
      rcases List.mem_append.1 hx with hx | hx
      ·rcases H.par x hx with h | ⟨p,hp,h2,h3⟩
       ·exact .inl h
       ·exact .inr ⟨p,List.mem_append_left _ hp,h2,h3.app _⟩
      ·by_cases e:x=nth (nx a) k
       ·exact .inl (e▸hbm)
       ·obtain ⟨p,hp,h2,h3⟩:=T.par x hx e
        exact .inr ⟨p,List.mem_append_right _ hp,h2,h3.pre _⟩
     ·intro x hx
      rcases List.mem_append.1 hx with hx | hx
      ·obtain ⟨b,hb,h2,h3⟩:=H.desc x hx
       exact ⟨b,List.mem_append_left _ hb,h2,h3.app _⟩
      ·exact ⟨_,List.mem_append_right _ hbn,hbm,(T.desc x hx).pre _⟩
     ·intro x hx y hy hyn
      rcases List.mem_append.1 hx with hx | hx<;>rcases List.mem_append.1 hyn with hyn | hyn
      ·exact (H.ret x hx y hy hyn).imp (·.app _) (·.app _)
      ·exact absurd (H.clos x hx y hy) (T.fresh y hyn).1
      ·exact .inl (Bef.AH hyn hx)
      ·exact (T.ret x hx y hy hyn).imp (·.pre _) (·.pre _)
  obtain ⟨new,H,hcn⟩:=half (nx a).length (Nat.le_refl _)
  generalize up (b0 nx n a) (nx a).length (s.1.set a.toNat true,s.2)=z at H hcn
  have hda : ∀ y∈nx a,vis z y:=by
   intro y hy
   obtain ⟨j,hj,rfl⟩:=List.getElem_of_mem hy
   have:=H.done j hj
   rwa [ak hj] at this
  have hadv : ∀ x∈new,Adv nx (new++[a]) a x:=by
   intro x hx
   obtain ⟨b,hb,h2,h3⟩:=H.desc x hx
   exact (Adv.step .self h2 (Bef.AH hb (by simp))).trans (h3.app _)
  refine ⟨new++[a],⟨?_,H.len,?_,?_,?_,⟨new,rfl⟩,?_,?_,?_,?_⟩⟩
  ·simp only [H.out,List.append_assoc]
  ·refine List.nodup_append.2 ⟨H.nodup,by simp,fun x hx y hy e=>?_⟩
   simp only [List.mem_singleton] at hy
   exact (H.fresh x hx).2.2 (e.trans hy)
  ·intro x hx
   show nth z.1 x.toNat=true↔_
   have:=H.visd x hx
   unfold vis at this ⊢
   rw [this]
   simp only [List.mem_append,List.mem_singleton]
   constructor
   ·rintro (h | h | h)
    ·exact .inl h
    ·exact .inr (.inr h)
    ·exact .inr (.inl h)
   ·rintro (h | h | h)
    ·exact .inl h
    ·exact .inr (.inr h)
    ·exact .inr (.inl h)
  ·intro x hx
   rcases List.mem_append.1 hx with hx | hx
   ·exact ⟨(H.fresh x hx).1,(H.fresh x hx).2.1⟩
   ·simp only [List.mem_singleton] at hx;subst hx
    exact ⟨by unfold vis;rw [hf];simp,h0,h1⟩
  ·intro x hx y hy
   rcases List.mem_append.1 hx with hx | hx
   ·exact H.clos x hx y hy
   ·simp only [List.mem_singleton] at hx;subst hx
    exact hda y hy
  ·intro x hx hne
   rcases List.mem_append.1 hx with hx | hx
   ·rcases H.par x hx with h | ⟨p,hp,h2,h3⟩
    ·exact ⟨a,by simp,h,Bef.AH hx (by simp)⟩
    ·exact ⟨p,List.mem_append_left _ hp,h2,h3.app _⟩
   ·simp only [List.mem_singleton] at hx;exact absurd hx hne
  ·intro x hx
   rcases List.mem_append.1 hx with hx | hx
   ·exact hadv x hx
   ·simp only [List.mem_singleton] at hx;subst hx;exact .self
  ·intro x hx y hy hyn
   rcases List.mem_append.1 hyn with hn | hn
   ·rcases List.mem_append.1 hx with hx | hx
    ·exact (H.ret x hx y hy hn).imp (·.app _) (·.app _)
    ·simp only [List.mem_singleton] at hx;subst hx
     exact .inl (Bef.AH hn (by simp))
   ·simp only [List.mem_singleton] at hn;subst hn
    rcases List.mem_append.1 hx with hx | hx
    ·exact .inr (hadv x hx)
    ·simp only [List.mem_singleton] at hx;subst hx
     exact .inr .self
end Go.Proofs.YtbkdlhkoiagbbaaGreat
namespace Go.Proofs.YtbkdlhkoiagbbaaGreat.Chk
inductive Anc (o:Nat→Nat) (x:Nat):Nat→Prop
 | self:Anc o x x
 | up {b:Nat}:b≠0→Anc o x (o b)→Anc o x b
theorem pP {o:Nat→Nat} {x:Nat}:Anc o x 0↔x=0:=by
 constructor
 ·intro h
  cases h with
  | self=>rfl
  | up h _=>exact absurd rfl h
 ·rintro rfl;exact .self
theorem mB {o:Nat→Nat} {x b:Nat} (hb:b≠0):Anc o x b↔x=b∨Anc o x (o b):=by
 constructor
 ·intro h
  cases h with
  | self=>exact .inl rfl
  | up _ h=>exact .inr h
 ·rintro (rfl | h)
  ·exact .self
  ·exact .up hb h
theorem Anc.trans {o:Nat→Nat} {x y b:Nat} (h:Anc o x y) (k:Anc o y b):Anc o x b:=by
 induction k with
 | self=>exact h
 | up hb _ ih=>exact .up hb ih
theorem Anc.total {o:Nat→Nat} {x y b:Nat} (h:Anc o x b) (k:Anc o y b):Anc o x y∨Anc o y x:=by
 induction h with
 | self=>exact .inr k
 | up hb h ih=>
  cases k with
  | self=>exact .inl (.up hb h)
  | up _ k=>exact ih k
structure Ch (R:Nat→Prop) (r:Nat→Nat) (E:Nat→Nat→Prop) (f:Nat→Nat) (D:Nat→Nat→Prop):Prop where
 inj : ∀ a b,R a→R b→r a=r b→a=b
 R0:R 0
 r0:r 0=0
 hf : ∀ x,R x→x≠0→R (f x)∧E (f x) x∧r (f x)<r x
 d1 : ∀ d b a,D d b→d≠b→E a b→R a→D d a
 d0 : ∀ d,D d 0→d=0
def Ok (Pr:Nat→Prop) (x:Nat):Prop:=x=0∨Pr x
structure Inv (R:Nat→Prop) (r:Nat→Nat) (E:Nat→Nat→Prop) (f:Nat→Nat) (D:Nat→Nat→Prop) (k:Nat) (o:Nat→Nat) (Pr:Nat→Prop):Prop where
 pr : ∀ b,Pr b→R b∧b≠0∧Ok Pr (o b)∧r (o b)<r b
 all : ∀ b,R b→b≠0→r b<k→Pr b
 fok : ∀ b,Pr b→Ok Pr (f b)
 K : ∀ b,Pr b→∀ x,(∀ a,E a b→R a→Ok Pr a→Anc o x a)→Anc o x (o b)
 FP : ∀ b,Pr b→∀ y,Anc o y (o b)→k≤r y→Anc o y (f b)
 FP2 : ∀ b,Pr b→r b<k→Anc o (o b) (f b)
 S : ∀ b,Pr b→∀ d,D d b→d≠b→Anc o d (o b)
section
variable {R:Nat→Prop} {r:Nat→Nat} {E:Nat→Nat→Prop} {f:Nat→Nat} {D:Nat→Nat→Prop} {k:Nat} {o:Nat→Nat} {Pr:Nat→Prop}
theorem Inv.okR (I:Inv R r E f D k o Pr) (C:Ch R r E f D) {x:Nat} (h:Ok Pr x):R x:=by
 rcases h with rfl | h
 ·exact C.R0
 ·exact (I.pr x h).1
theorem Inv.anc (I:Inv R r E f D k o Pr) {x b:Nat} (h:Anc o x b):Ok Pr b→Ok Pr x∧(x=b∨r x<r b):=by
 induction h with
 | self=>exact fun hb=>⟨hb,.inl rfl⟩
 | up hb _ ih=>
  intro hok
  rcases hok with rfl | hp
  ·exact absurd rfl hb
  ·obtain ⟨_,_,h3,h4⟩:=I.pr _ hp
   obtain ⟨h5,h6⟩:=ih h3
   refine ⟨h5,.inr ?_⟩
   rcases h6 with rfl | h6
   ·exact h4
   ·omega
theorem Inv.dom (I:Inv R r E f D k o Pr) (C:Ch R r E f D) {d b:Nat} (hb:Ok Pr b) (h:D d b):Anc o d b:=by
 by_cases e:d=b
 ·subst e;exact .self
 ·rcases hb with rfl | hb
  ·exact absurd (C.d0 d h) e
  ·exact .up (I.pr b hb).2.1 (I.S b hb d h e)
def upd (o:Nat→Nat) (c q:Nat):Nat→Nat:=fun b=>if b=c then q else o b
def add (Pr:Nat→Prop) (c:Nat):Nat→Prop:=fun b=>b=c∨Pr b
theorem iY {c q x b:Nat} (h:¬Anc o c b):Anc (upd o c q) x b↔Anc o x b:=by
 constructor
 ·intro k
  induction k with
  | self=>exact .self
  | up hb k ih=>
   rename_i b
   have hne:b≠c:=fun e=>h (e▸.self)
   have e:upd o c q b=o b:=by unfold upd;rw [if_neg hne]
   rw [e] at ih k
   exact .up hb (ih fun hc=>h (.up hb hc))
 ·intro k
  induction k with
  | self=>exact .self
  | up hb k ih=>
   rename_i b
   have hne:b≠c:=fun e=>h (e▸.self)
   have e:upd o c q b=o b:=by unfold upd;rw [if_neg hne]
   exact .up hb (by rw [e];exact ih fun hc=>h (.up hb hc))
theorem Hb {c q x:Nat} (hc:c≠0) (hq:¬Anc o c q):Anc (upd o c q) x c↔x=c∨Anc o x q:=by
 rw [mB hc,show upd o c q c=q by simp [upd],iY hq]
theorem Inv.ER (I:Inv R r E f D k o Pr) {x y:Nat} (hx:Ok Pr x) (hy:Ok Pr y) (h1:Anc o x y) (h2:Anc o y x):x=y:=by
 have e1:=(I.anc h1 hy).2
 have e2:=(I.anc h2 hx).2
 omega
theorem Inv.below (I:Inv R r E f D k o Pr) {c q x b:Nat} (hpc:Pr c) (hq:¬Anc o c q) (h:Anc o c b):Ok Pr b→(Anc (upd o c q) x b↔(Anc o x b∧Anc o c x)∨Anc o x q):=by
 have hc:=(I.pr c hpc).2.1
 induction h with
 | self=>
  intro hb
  rw [Hb hc hq]
  constructor
  ·rintro (rfl | h)
   ·exact .inl ⟨.self,.self⟩
   ·exact .inr h
  ·rintro (⟨h1,h2⟩ | h)
   ·exact .inl (I.ER (I.anc h1 hb).1 hb h1 h2)
   ·exact .inr h
 | up hb h ih=>
  rename_i b
  intro hok
  have hpb:Pr b:=hok.resolve_left hb
  obtain ⟨_,_,h3,h4⟩:=I.pr b hpb
  have hne:b≠c:=fun e=>by
   subst e
   rcases (I.anc h h3).2 with e | e
   ·rw [←e] at h4;omega
   ·omega
  have e:upd o c q b=o b:=by unfold upd;rw [if_neg hne]
  rw [mB hb,e,ih h3,mB hb]
  constructor
  ·rintro (rfl | ⟨h1,h2⟩ | h1)
   ·exact .inl ⟨.inl rfl,.up hb h⟩
   ·exact .inl ⟨.inr h1,h2⟩
   ·exact .inr h1
  ·rintro (⟨rfl | h1,h2⟩ | h1)
   ·exact .inl rfl
   ·exact .inr (.inl ⟨h1,h2⟩)
   ·exact .inr (.inr h1)
structure Turn (R:Nat→Prop) (r:Nat→Nat) (E:Nat→Nat→Prop) (o:Nat→Nat) (Pr:Nat→Prop) (c q:Nat):Prop where
 ok:Ok Pr q
 q : ∀ x,Anc o x q↔∀ a,E a c→R a→Ok Pr a→Anc o x a
theorem Inv.fc (I:Inv R r E f D k o Pr) (C:Ch R r E f D) {c:Nat} (hR:R c) (hc:c≠0) (hk:r c=k):Ok Pr (f c):=by
 obtain ⟨h1,_,h3⟩:=C.hf c hR hc
 by_cases e:f c=0
 ·exact .inl e
 ·exact .inr (I.all _ h1 e (by omega))
theorem Turn.lt {c q:Nat} (T:Turn R r E o Pr c q) (I:Inv R r E f D k o Pr) (C:Ch R r E f D) (hR:R c) (hc:c≠0) (hk:r c=k):r q<r c∧Anc o q (f c):=by
 obtain ⟨h1,h2,h3⟩:=C.hf c hR hc
 have h4:=(T.q q).1 .self (f c) h2 h1 (I.fc C hR hc hk)
 have:=(I.anc h4 (I.fc C hR hc hk)).2
 refine ⟨?_,h4⟩
 rcases this with e | e
 ·rw [e];exact h3
 ·omega
theorem Inv.turn (I:Inv R r E f D k o Pr) (C:Ch R r E f D) {c q:Nat} (hR:R c) (hc:c≠0) (hk:r c=k) (T:Turn R r E o Pr c q):Inv R r E f D (k+1) (upd o c q) (add Pr c):=by
 obtain ⟨f1,f2,f3⟩:=C.hf c hR hc
 have hfok:=I.fc C hR hc hk
 obtain ⟨hlt,hqf⟩:=T.lt I C hR hc hk
 have hq:¬Anc o c q:=fun h=>by
  have:=(I.anc h T.ok).2
  rcases this with e | e
  ·rw [e] at hlt;omega
  ·omega
 have hcf:¬Anc o c (f c):=fun h=>by
  have:=(I.anc h hfok).2
  rcases this with e | e
  ·rw [←e] at f3;omega
  ·omega
 have okm : ∀ x,Ok Pr x→Ok (add Pr c) x:=fun x h=>h.imp id .inr
 have up_ne : ∀ b,b≠c→upd o c q b=o b:=fun b hb=>by unfold upd;rw [if_neg hb]
 have up_c:upd o c q c=q:=by simp [upd]
 have hpc : ∀ b,Ok Pr b→Anc o c b→Pr c:=fun b hb h=>((I.anc h hb).1).resolve_left hc
 have mono : ∀ b,Ok Pr b→∀ x,Anc (upd o c q) x b→Anc o x b:=by
  intro b hb x h
  by_cases hcb:Anc o c b
  ·have hp:=hpc b hb hcb
   rcases (I.below hp hq hcb hb).1 h with ⟨h1,_⟩ | h1
   ·exact h1
   ·exact (Anc.up hc (I.K c hp x ((T.q x).1 h1))).trans hcb
  ·exact (iY hcb).1 h
 have stay : ∀ b,Ok Pr b→∀ x,Anc o x b→(Anc o c b→Anc o c x∨Anc o x q)→Anc (upd o c q) x b:=by
  intro b hb x h h2
  by_cases hcb:Anc o c b
  ·refine (I.below (hpc b hb hcb) hq hcb hb).2 ?_
   rcases h2 hcb with h3 | h3
   ·exact .inl ⟨h,h3⟩
   ·exact .inr h3
  ·exact (iY hcb).2 h
 have domc : ∀ n b,r b≤n→Ok Pr b→Anc o c b→∀ d,D d b→r d<r c→D d c:=by
  intro n
  induction n with
  | zero=>
   intro b hb hok hcb d hd hlt
   have:=(I.anc hcb hok).2
   rcases this with rfl | h
   ·exact hd
   ·omega
  | succ n ih=>
   intro b hb hok hcb d hd hlt
   by_cases e:c=b
   ·subst e;exact hd
   ·have hb0:b≠0:=fun e0=>by subst e0;exact e (pP.1 hcb)
    have hpb:=hok.resolve_left hb0
    have hcb':Anc o c (o b):=((mB hb0).1 hcb).resolve_left e
    obtain ⟨g1,g2,g3⟩:=C.hf b (I.pr b hpb).1 hb0
    have hlb:=(I.anc hcb hok).2
    have hdb:d≠b:=fun e2=>by subst e2;omega
    exact ih (f b) (by omega) (I.fok b hpb) (I.FP b hpb c hcb' (by omega)) d (C.d1 d b (f b) hd hdb g2 g1) hlt
 have domq : ∀ d,D d c→d≠c→Anc o d q:=by
  intro d hd hne
  refine (T.q d).2 fun a ha hRa hoka=>?_
  exact I.dom C hoka (C.d1 d c a hd hne ha hRa)
 refine ⟨?_,?_,?_,?_,?_,?_,?_⟩
 ·rintro b (rfl | hb)
  ·rw [up_c];exact ⟨hR,hc,okm _ T.ok,hlt⟩
  ·by_cases e:b=c
   ·subst e;rw [up_c];exact ⟨hR,hc,okm _ T.ok,hlt⟩
   ·rw [up_ne b e]
    obtain ⟨h1,h2,h3,h4⟩:=I.pr b hb
    exact ⟨h1,h2,okm _ h3,h4⟩
 ·intro b hRb hb0 hlt
  by_cases e:r b=k
  ·exact .inl (C.inj b c hRb hR (by omega))
  ·exact .inr (I.all b hRb hb0 (by omega))
 ·rintro b (rfl | hb)
  ·exact okm _ hfok
  ·exact okm _ (I.fok b hb)
 ·intro b hb x hx
  have hx' : ∀ a,E a b→R a→Ok Pr a→Anc o x a:=fun a h1 h2 h3=>mono a h3 x (hx a h1 h2 (okm a h3))
  by_cases e:b=c
  ·subst e
   rw [up_c,iY hq]
   exact (T.q x).2 hx'
  ·have hpb:Pr b:=hb.resolve_left e
   rw [up_ne b e]
   obtain ⟨h1,h2,h3,h4⟩:=I.pr b hpb
   have hxo:=I.K b hpb x hx'
   refine stay (o b) h3 x hxo fun hco=>?_
   rcases Anc.total hxo hco with h5 | h5
   ·-- x above c: by the one ahead of b
    obtain ⟨g1,g2,g3⟩:=C.hf b h1 h2
    have hcf2:=I.FP b hpb c hco (by omega)
    have hxf:=hx (f b) g2 g1 (okm _ (I.fok b hpb))
    rcases (I.below (hpc _ h3 hco) hq hcf2 (I.fok b hpb)).1 hxf with ⟨_,h6⟩ | h6
    ·exact .inl h6
    ·exact .inr h6
   ·exact .inl h5
 ·intro b hb y hy hky
  by_cases e:b=c
  ·subst e
   rw [up_c,iY hq] at hy
   exact (iY hcf).2 (hy.trans hqf)
  ·have hpb:Pr b:=hb.resolve_left e
   rw [up_ne b e] at hy
   obtain ⟨h1,h2,h3,h4⟩:=I.pr b hpb
   have hyf:=I.FP b hpb y (mono _ h3 y hy) (by omega)
   refine stay (f b) (I.fok b hpb) y hyf fun hcf2=>?_
   rcases Anc.total hyf hcf2 with h5 | h5
   ·exfalso
    have:=(I.anc h5 (.inr (hpc _ (I.fok b hpb) hcf2))).2
    rcases this with e2 | e2
    ·subst e2;omega
    ·omega
   ·exact .inl h5
 ·intro b hb hlt
  by_cases e:b=c
  ·subst e
   rw [up_c]
   exact (iY hcf).2 hqf
  ·have hpb:Pr b:=hb.resolve_left e
   rw [up_ne b e]
   obtain ⟨h1,h2,h3,h4⟩:=I.pr b hpb
   obtain ⟨g1,g2,g3⟩:=C.hf b h1 h2
   have hbk:r b<k:=by
    rcases Nat.lt_or_ge (r b) k with h | h
    ·exact h
    ·exact absurd (C.inj b c h1 hR (by omega)) e
   have h5:=I.FP2 b hpb hbk
   refine (iY fun hcf2=>?_).2 h5
   have:=(I.anc hcf2 (I.fok b hpb)).2
   rcases this with e2 | e2
   ·rw [←e2] at g3;omega
   ·omega
 ·intro b hb d hd hne
  by_cases e:b=c
  ·subst e
   rw [up_c,iY hq]
   exact domq d hd hne
  ·have hpb:Pr b:=hb.resolve_left e
   rw [up_ne b e]
   obtain ⟨h1,h2,h3,h4⟩:=I.pr b hpb
   have hdo:=I.S b hpb d hd hne
   refine stay (o b) h3 d hdo fun hco=>?_
   rcases Anc.total hdo hco with h5 | h5
   ·have hpcc:=hpc _ h3 hco
    rcases (I.anc h5 (.inr hpcc)).2 with e2 | e2
    ·subst e2;exact .inl .self
    ·exact .inr (domq d (domc (r b) b (Nat.le_refl _) (.inr hpb) (.up h2 hco) d hd e2) fun e3=>by subst e3;omega)
   ·exact .inl h5
theorem Inv.again (I:Inv R r E f D k o Pr) (hk : ∀ b,R b→r b<k):Inv R r E f D 0 o Pr:=by
 refine ⟨I.pr,fun b hR h0 h=>I.all b hR h0 (hk b hR),I.fok,I.K,fun b hb y hy _=>?_,fun b _ h=>absurd h (by omega),I.S⟩
 exact hy.trans (I.FP2 b hb (hk b (I.pr b hb).1))
theorem Inv.start:Inv R r E f D 0 o (fun _=>False):=
 ⟨fun _ h=>h.elim,fun _ _ _ h=>absurd h (by omega),fun _ h=>h.elim,fun _ h=>h.elim,fun _ h=>h.elim,fun _ h=>h.elim,fun _ h=>h.elim⟩
theorem Inv.H4 (I:Inv R r E f D k o Pr) {c q:Nat} (T:Turn R r E o Pr c q) (hp:Pr c):q=o c∨r q<r (o c):=by
 have:=I.K c hp q ((T.q q).1 .self)
 exact (I.anc this (I.pr c hp).2.2.1).2
end
end Go.Proofs.YtbkdlhkoiagbbaaGreat.Chk
namespace Go.Proofs.YtbkdlhkoiagbbaaGreat
open Go Go.Lft Chk
theorem CK {β:Type} {f k:Nat→β→β} {n:Nat} (I:β→Prop) (h : ∀ i x,i<n→I x→f i x=k i x) (hI : ∀ i x,i<n→I x→I (f i x)) {x:β} (hx:I x):up f n x=up k n x:=by
 have key : ∀ m,m≤n→up f m x=up k m x∧I (up f m x):=by
  intro m
  induction m with
  | zero=>exact fun _=>⟨rfl,hx⟩
  | succ m ih=>
   intro hm
   obtain ⟨h1,h2⟩:=ih (by omega)
   exact ⟨by rw [up,up,←h1,h m _ (by omega) h2],hI _ _ (by omega) h2⟩
 exact (key n (Nat.le_refl _)).1
theorem rD {nx nx':Int→List Int} {m:Nat} (hnx : ∀ a:Int,0≤a→a<m→nx a=nx' a∧∀ y∈nx a,0≤y∧y<m) : ∀ (n:Nat) (a:Int) (s:List Bool × List Int),0≤a→a<m→iR nx n a s=iR nx' n a s
 | 0,_,_,_,_=>rfl
 | n+1,a,s,h0,h1=>by
  obtain ⟨e,hr⟩:=hnx a h0 h1
  rw [jq,jq,←e]
  have:up (b0 nx n a) (nx a).length (s.1.set a.toNat true,s.2)=up (b0 nx' n a) (nx a).length (s.1.set a.toNat true,s.2):=by
   refine CK (fun _=>True) (fun i x hi _=>?_) (fun _ _ _ _=>trivial) trivial
   unfold b0
   rw [←e]
   obtain ⟨g0,g1⟩:=hr _ (bu hi)
   rw [rD hnx n _ x g0 g1]
  rw [this]
theorem uv {g:Gr} {a y:Int} (h:y∈cQ g a):0≤y∧y<g.length:=by
 have:=(dU.1 (dL.1 h)).1;omega
theorem A3 {g:Gr} {a:Int} (h0:0≤a) (h1:a<g.length):nx (cc g) a=cQ g a:=by
 unfold nx
 rw [kv (by omega),Int.toNat_of_nonneg h0]
theorem Ed {g:Gr}:a6 g=jT (cQ g) g.length:=by
 unfold a6 jT
 split
 ·rfl
 ·rw [rD (m:=g.length) (fun a h0 h1=>⟨A3 h0 h1,fun y hy=>uv (by rwa [A3 h0 h1] at hy)⟩) _ _ _ (by omega) (by omega)]
structure Ord (g:Gr) (order:List Int):Prop where
 nodup:order.Nodup
 mem : ∀ x:Nat,(x:Int)∈order↔Re g (-1) x
 rng : ∀ x∈order,0≤x∧x<g.length
 head:order[0]? = some 0
 par : ∀ x∈order,x≠0→∃ p∈order,cW g p x=true∧order.idxOf p<order.idxOf x
 ret : ∀ x∈order,∀ y∈order,cW g x y=true→order.idxOf y≤order.idxOf x→∃ l,Adv (cQ g) l y x∧∀ u v,Bef l u v→order.idxOf v<order.idxOf u
theorem qo {l:List Int} (hn:l.Nodup) {u v:Int} (h:Bef l u v):l.reverse.idxOf v<l.reverse.idxOf u:=by
 obtain ⟨p,q,rfl,hv⟩:=h
 have hu:u∉q:=by
  have:=(List.nodup_append.1 hn).2.1
  exact (List.nodup_cons.1 this).1
 rw [List.reverse_append,List.reverse_cons,List.append_assoc]
 have h1:(q.reverse++([u]++p.reverse)).idxOf v<q.reverse.length:=by
  rw [List.idxOf_append,if_pos (by simpa using hv)]
  exact List.idxOf_lt_length_of_mem (by simpa using hv)
 have h2:(q.reverse++([u]++p.reverse)).idxOf u=q.reverse.length:=by
  rw [List.idxOf_append,if_neg (by simpa using hu)]
  simp
 omega
theorem iW {g:Gr} (hg:0<g.length):Ord g (a6 g):=by
 have hT:=vk (nx:=cQ g) (m:=g.length) (fun a _ _ y hy=>uv hy) g.length 0 (List.replicate g.length false,[]) (by omega) (by omega) (by simp) (aq (by simpa using hg)) (by simp [cR])
 have ho:a6 g=(iR (cQ g) g.length 0 (List.replicate g.length false,[])).2.reverse:=by
  rw [Ed,jT,if_neg (by omega)]
 obtain ⟨new,T⟩:=hT
 have hout:=T.out
 simp only [List.nil_append] at hout
 rw [ho,hout]
 have hv0 : ∀ x:Int,¬vis (List.replicate g.length false,([]:List Int)) x:=by
  intro x h
  unfold vis at h
  simp only at h
  rcases Nat.lt_or_ge x.toNat g.length with h1 | h1
  ·rw [aq h1] at h;cases h
  ·rw [aU (by simpa using h1)] at h;cases h
 have hvis : ∀ x,0≤x→(vis (iR (cQ g) g.length 0 (List.replicate g.length false,[])) x↔x∈new):=fun x hx=>by
  rw [T.visd x hx]
  exact ⟨fun h=>h.resolve_left (hv0 x),.inr⟩
 obtain ⟨t,ht⟩:=T.last
 have h0:(0:Int)∈new:=by rw [ht];simp
 have hre : ∀ x∈new,Re g (-1) x.toNat:=by
  intro x hx
  have:=T.desc x hx
  clear hx
  induction this with
  | self=>exact .root hg (by decide)
  | step _ h1 h2 ih=>
   have hpr:=T.fresh _ h2.mem.2
   have hqr:=T.fresh _ h2.mem.1
   have he:=dL.1 h1
   refine .step ih ?_ (by omega)
   rwa [Int.toNat_of_nonneg hpr.2.1,Int.toNat_of_nonneg hqr.2.1]
 refine ⟨by simpa [List.Nodup,List.pairwise_reverse,ne_comm] using T.nodup,fun x=>?_,fun x hx=>(T.fresh x (by simpa using hx)).2,?_,?_,?_⟩
 ·rw [List.mem_reverse]
  constructor
  ·intro h;simpa using hre x h
  ·intro h
   induction h with
   | root _ _=>exact h0
   | step _ he _ ih=>
    exact (hvis _ (by omega)).1 (T.clos _ ih _ (dL.2 he))
 ·rw [ht,List.reverse_append];rfl
 ·intro x hx hne
  obtain ⟨p,hp,h1,h2⟩:=T.par x (by simpa using hx) hne
  exact ⟨p,by simpa using hp,dL.1 h1,qo T.nodup h2⟩
 ·intro x hx y hy he hle
  rcases T.ret x (by simpa using hx) y (dL.2 he) (by simpa using hy) with h | h
  ·have:=qo T.nodup h
   omega
  ·exact ⟨new,h,fun u v huv=>qo T.nodup huv⟩
theorem rj {n:Nat} {order:List Int} (hn:order.Nodup) (hr : ∀ x∈order,0≤x∧x<(n:Int)) {x:Nat} (hx:x<n):nth (fj n order) x=if (x:Int)∈order then (order.idxOf (x:Int):Int) else -1:=by
 have key : ∀ k,k≤order.length→(up (fun i l=>l.set (nth order i).toNat (i:Int)) k (List.replicate n (-1))).length=n∧nth (up (fun i l=>l.set (nth order i).toNat (i:Int)) k (List.replicate n (-1))) x=if (x:Int)∈order.take k then (order.idxOf (x:Int):Int) else -1:=by
  intro k
  induction k with
  | zero=>intro _;exact ⟨by simp [up],by rw [up,aq hx];simp⟩
  | succ k ih=>
   intro hk
   obtain ⟨h1,h2⟩:=ih (by omega)
   rw [up]
   refine ⟨by simpa using h1,?_⟩
   rw [aJ (by omega),List.take_succ_eq_append_getElem (by omega),h2]
   have hmem:order[k]∈order:=List.getElem_mem _
   have hrk:=hr _ hmem
   rw [ak (show k<order.length by omega)]
   by_cases e:order[k].toNat=x
   ·have e2:order[k]=(x:Int):=by omega
    rw [if_pos e,if_pos (by rw [←e2];exact List.mem_append_right _ (List.mem_singleton.2 rfl)),←e2,List.Nodup.idxOf_getElem hn]
   ·rw [if_neg e]
    have e2:¬(x:Int)=order[k]:=fun h=>e (by omega)
    simp only [List.mem_append,List.mem_singleton,e2,or_false]
 have:=(key order.length (Nat.le_refl _)).2
 rw [List.take_of_length_le (Nat.le_refl _)] at this
 exact this
end Go.Proofs.YtbkdlhkoiagbbaaGreat
namespace Go.Proofs.YtbkdlhkoiagbbaaGreat
open Go Go.Lft Chk
def st (out:List Int):Nat→Nat:=fun b=>(nth out b).toNat
def pd (out:List Int):Nat→Prop:=fun b=>b<out.length∧0≤nth out b
def rk (g:Gr) (x:Nat):Nat:=(a6 g).idxOf (x:Int)
def Eg (g:Gr) (a b:Nat):Prop:=cW g a b=true
def Dm (g:Gr) (d b:Nat):Prop:=domC g d b=true
def Rg (g:Gr) (x:Nat):Prop:=Re g (-1) x
section
variable {g:Gr}
theorem Ak {x:Nat} (h:Rg g x):rk g x<(a6 g).length:=List.idxOf_lt_length_of_mem (((iW (Nat.lt_of_le_of_lt (Nat.zero_le _) h.lt)).mem x).2 h)
theorem Rg.pos {x:Nat} (h:Rg g x):0<g.length:=Nat.lt_of_le_of_lt (Nat.zero_le _) h.lt
theorem E8 {x:Nat} (h:Rg g x):rk g x<g.length:=Nat.lt_of_lt_of_le (Ak h) oS
theorem zE {a b:Nat} (ha:Rg g a) (hb:Rg g b) (h:rk g a=rk g b):a=b:=by
 have O:=iW ha.pos
 have h1:=List.getElem_idxOf (Ak ha)
 have h2:=List.getElem_idxOf (Ak hb)
 have:(a:Int)=(b:Int):=by rw [←h1,←h2];congr 1
 omega
theorem rU (hg:0<g.length):rk g 0=0:=by
 have O:=iW hg
 unfold rk
 have hl:0<(a6 g).length:=by
  have:=O.head
  rcases Nat.eq_zero_or_pos (a6 g).length with h | h
  ·rw [List.eq_nil_of_length_eq_zero h] at this;cases this
  ·exact h
 have h0:=O.head
 rw [List.getElem?_eq_getElem hl] at h0
 have h1:(a6 g)[0]=0:=Option.some.inj h0
 have:=List.Nodup.idxOf_getElem O.nodup 0 hl
 rw [h1] at this
 exact this
theorem qC {x:Nat} (h:Rg g x):nth (fj g.length (a6 g)) x=(rk g x:Int):=by
 have O:=iW h.pos
 rw [rj O.nodup O.rng h.lt,if_pos ((O.mem x).2 h)];rfl
theorem zH {x:Nat} (hx:x<g.length) (h:¬Rg g x):nth (fj g.length (a6 g)) x=-1:=by
 have O:=iW (g:=g) (by omega)
 rw [rj O.nodup O.rng hx,if_neg fun e=>h ((O.mem x).1 e)]
theorem Fz (hg:0<g.length) : ∃ f:Nat→Nat,∀ x,Rg g x→x≠0→Rg g (f x)∧Eg g (f x) x∧rk g (f x)<rk g x:=by
 have O:=iW hg
 have : ∀ x,∃ p,Rg g x→x≠0→Rg g p∧Eg g p x∧rk g p<rk g x:=by
  intro x
  by_cases h:Rg g x∧x≠0
  ·obtain ⟨p,hp,h1,h2⟩:=O.par x ((O.mem x).2 h.1) (by omega)
   have hr:=O.rng p hp
   have e:((p.toNat:Nat):Int)=p:=Int.toNat_of_nonneg hr.1
   refine ⟨p.toNat,fun _ _=>⟨(O.mem _).1 (by rw [e];exact hp),by unfold Eg;rw [e];exact h1,by unfold rk;rw [e];exact h2⟩⟩
  ·exact ⟨0,fun h1 h2=>absurd ⟨h1,h2⟩ h⟩
 exact ⟨fun x=>(this x).choose,fun x=>(this x).choose_spec⟩
theorem HZ (hg:0<g.length) {f:Nat→Nat} (hf : ∀ x,Rg g x→x≠0→Rg g (f x)∧Eg g (f x) x∧rk g (f x)<rk g x):Ch (Rg g) (rk g) (Eg g) f (Dm g) where
 inj:=fun a b ha hb h=>zE ha hb h
 R0:=.root hg (by decide)
 r0:=rU hg
 hf:=hf
 d1:=fun d b a hd hne he ha=>by
  obtain ⟨h1,h2,h3⟩:=nc.1 hd
  exact nc.2 ⟨h1,ha,fun h=>h3 (.step h he (by omega))⟩
 d0:=fun d hd=>by
  obtain ⟨h1,h2,h3⟩:=nc.1 hd
  rcases Nat.eq_zero_or_pos d with h | h
  ·exact h
  ·exact absurd (.root hg (by omega)) h3
structure Good (g:Gr) (f:Nat→Nat) (k:Nat) (out:List Int):Prop where
 len:out.length=g.length
 rng : ∀ b,b<g.length→nth out b=-1∨(0≤nth out b∧nth out b<g.length)
 inv:Inv (Rg g) (rk g) (Eg g) f (Dm g) k (st out) (pd out)
variable {f:Nat→Nat} {k:Nat} {out:List Int}
theorem Good.xv (G:Good g f k out) (C:Ch (Rg g) (rk g) (Eg g) f (Dm g)) {x:Nat} (h:Ok (pd out) x):Rg g x∧x<g.length:=⟨G.inv.okR C h,(G.inv.okR C h).lt⟩
theorem ny (G:Good g f k out) (C:Ch (Rg g) (rk g) (Eg g) f (Dm g)) : ∀ (fuel a b:Nat),Ok (pd out) a→Ok (pd out) b→rk g a+rk g b<fuel→
  ∃ c:Nat,jI out (fj g.length (a6 g)) fuel a b=some (c:Int)∧Ok (pd out) c∧∀ x,Anc (st out) x c↔Anc (st out) x a∧Anc (st out) x b
 | 0,a,b,_,_,h=>by omega
 | fuel+1,a,b,ha,hb,h=>by
  obtain ⟨ra,la⟩:=G.xv C ha
  obtain ⟨rb,lb⟩:=G.xv C hb
  have hg:=ra.pos
  have hnl:(fj g.length (a6 g)).length=g.length:=by rw [fj,xq List.length (fun _ _=>by simp)];simp
  have hol:=G.len
  rw [jI,if_pos (by omega),Int.toNat_natCast,Int.toNat_natCast,qC ra,qC rb]
  have step : ∀ a b:Nat,Ok (pd out) a→Ok (pd out) b→rk g b<rk g a→a≠0∧nth out a=((st out a:Nat):Int)∧Ok (pd out) (st out a)∧rk g (st out a)<rk g a∧∀ x,Anc (st out) x (st out a)∧Anc (st out) x b↔Anc (st out) x a∧Anc (st out) x b:=by
   intro a b ha hb hlt
   have ha0:a≠0:=fun e=>by subst e;rw [rU hg] at hlt;omega
   have hpa:=ha.resolve_left ha0
   obtain ⟨_,_,h3,h4⟩:=G.inv.pr a hpa
   refine ⟨ha0,(Int.toNat_of_nonneg hpa.2).symm,h3,h4,fun x=>⟨fun ⟨h5,h6⟩=>⟨.up ha0 h5,h6⟩,fun ⟨h5,h6⟩=>⟨?_,h6⟩⟩⟩
   rcases (mB ha0).1 h5 with rfl | h7
   ·have:=(G.inv.anc h6 hb).2
    rcases this with e | e
    ·subst e;omega
    ·omega
   ·exact h7
  by_cases h1:rk g b<rk g a
  ·rw [if_pos (by omega)]
   obtain ⟨ha0,e,h3,h4,h5⟩:=step a b ha hb h1
   rw [e]
   obtain ⟨c,h6,h7,h8⟩:=ny G C fuel (st out a) b h3 hb (by omega)
   exact ⟨c,h6,h7,fun x=>(h8 x).trans (h5 x)⟩
  ·rw [if_neg (by omega)]
   by_cases h2:rk g a<rk g b
   ·rw [if_pos (by omega)]
    obtain ⟨hb0,e,h3,h4,h5⟩:=step b a hb ha h2
    rw [e]
    obtain ⟨c,h6,h7,h8⟩:=ny G C fuel a (st out b) ha h3 (by omega)
    exact ⟨c,h6,h7,fun x=>(h8 x).trans (by rw [and_comm,h5 x,and_comm])⟩
   ·rw [if_neg (by omega)]
    have e:a=b:=zE ra rb (by omega)
    subst e
    exact ⟨a,rfl,ha,fun x=>by simp⟩
def Bst (out:List Int) (best:Int) (Q:Nat→Prop):Prop:=
 (best=-1∧∀ a,¬Q a)∨∃ c:Nat,best=(c:Int)∧Ok (pd out) c∧(∃ a,Q a)∧∀ x,Anc (st out) x c↔∀ a,Q a→Anc (st out) x a
def Cons (g:Gr) (out:List Int) (a:Nat):Prop:=Rg g a∧Ok (pd out) a
theorem n8 {best:Int} {Q Q':Nat→Prop} (h : ∀ a,Q a↔Q' a) (b:Bst out best Q):Bst out best Q':=by
 have:Q=Q':=funext fun a=>propext (h a)
 rw [←this];exact b
theorem qn (G:Good g f k out) (C:Ch (Rg g) (rk g) (Eg g) f (Dm g)) : ∀ (l:List Int) (best:Int) (Q:Nat→Prop),Bst out best Q→(∀ a∈l,0≤a∧a<(g.length:Int))→
  ∃ best',bstS out (fj g.length (a6 g)) g.length l best=some best'∧Bst out best' fun a=>Q a∨((a:Int)∈l∧Cons g out a)
 | [],best,Q,hB,_=>⟨best,rfl,n8 (fun a=>by simp) hB⟩
 | a::l,best,Q,hB,hl=>by
  obtain ⟨h0,h1⟩:=hl a (List.mem_cons_self ..)
  have hl':=fun x hx=>hl x (List.mem_cons_of_mem _ hx)
  obtain ⟨n,rfl⟩:=Int.eq_ofNat_of_zero_le h0
  have hn:n<g.length:=by omega
  have hol:=G.len
  rw [bstS,if_pos ⟨h0,h1⟩,Int.toNat_natCast]
  have hcons:(nth (fj g.length (a6 g)) n<0∨((n:Int)≠0∧nth out n<0))↔¬Cons g out n:=by
   by_cases hr:Rg g n
   ·rw [qC hr]
    constructor
    ·rintro (h | ⟨h2,h3⟩)
     ·omega
     ·rintro ⟨_,h4 | h4⟩
      ·omega
      ·have:=h4.2;omega
    ·intro h
     right
     refine ⟨fun e=>h ⟨hr,.inl (by omega)⟩,?_⟩
     rcases Int.lt_or_le (nth out n) 0 with h2 | h2
     ·exact h2
     ·exact absurd ⟨hr,.inr ⟨by omega,h2⟩⟩ h
   ·rw [zH hn hr]
    exact ⟨fun _ h=>hr h.1,fun _=>.inl (by omega)⟩
  by_cases hc:Cons g out n
  ·rw [if_neg fun h=>hcons.1 h hc]
   rcases hB with ⟨rfl,hQ⟩ | ⟨c,rfl,hok,hex,hq⟩
   ·rw [if_pos (by decide)]
    obtain ⟨b',h2,h3⟩:=qn G C l n (fun a=>a=n) (.inr ⟨n,rfl,hc.2,⟨n,rfl⟩,fun x=>by simp⟩) hl'
    refine ⟨b',h2,n8 (fun a=>?_) h3⟩
    constructor
    ·rintro (rfl | ⟨h4,h5⟩)
     ·exact .inr ⟨List.mem_cons_self ..,hc⟩
     ·exact .inr ⟨List.mem_cons_of_mem _ h4,h5⟩
    ·rintro (h4 | ⟨h4,h5⟩)
     ·exact absurd h4 (hQ a)
     ·rcases List.mem_cons.1 h4 with h4 | h4
      ·exact .inl (by omega)
      ·exact .inr ⟨h4,h5⟩
   ·rw [if_neg (by omega)]
    obtain ⟨rc,_⟩:=G.xv C hok
    obtain ⟨d,h2,h3,h4⟩:=ny G C (2*g.length+2) c n hok hc.2 (by have:=E8 rc;have:=E8 hc.1;omega)
    rw [h2]
    simp only [Option.bind_some]
    obtain ⟨b',h5,h6⟩:=qn G C l d (fun a=>Q a∨a=n) (.inr ⟨d,rfl,h3,⟨n,.inr rfl⟩,fun x=>by
     rw [h4,hq]
     constructor
     ·rintro ⟨h7,h8⟩ a (ha | rfl)
      ·exact h7 a ha
      ·exact h8
     ·intro h7
      exact ⟨fun a ha=>h7 a (.inl ha),h7 n (.inr rfl)⟩⟩) hl'
    refine ⟨b',h5,n8 (fun a=>?_) h6⟩
    constructor
    ·rintro ((h7 | rfl) | ⟨h7,h8⟩)
     ·exact .inl h7
     ·exact .inr ⟨List.mem_cons_self ..,hc⟩
     ·exact .inr ⟨List.mem_cons_of_mem _ h7,h8⟩
    ·rintro (h7 | ⟨h7,h8⟩)
     ·exact .inl (.inl h7)
     ·rcases List.mem_cons.1 h7 with h7 | h7
      ·exact .inl (.inr (by omega))
      ·exact .inr ⟨h7,h8⟩
  ·rw [if_pos (hcons.2 hc)]
   obtain ⟨b',h2,h3⟩:=qn G C l best Q hB hl'
   refine ⟨b',h2,n8 (fun a=>?_) h3⟩
   constructor
   ·rintro (h4 | ⟨h4,h5⟩)
    ·exact .inl h4
    ·exact .inr ⟨List.mem_cons_of_mem _ h4,h5⟩
   ·rintro (h4 | ⟨h4,h5⟩)
    ·exact .inl h4
    ·rcases List.mem_cons.1 h4 with h6 | h6
     ·exact absurd ((show a=n by omega)▸h5) hc
     ·exact .inr ⟨h6,h5⟩
theorem Bd (G:Good g f k out) (C:Ch (Rg g) (rk g) (Eg g) f (Dm g)) {c:Nat} (hR:Rg g c) (hc:c≠0) (hk:rk g c=k) :
  ∃ q:Nat,bstS out (fj g.length (a6 g)) g.length (nth (cf g) c) (-1)=some (q:Int)∧Turn (Rg g) (rk g) (Eg g) (st out) (pd out) c q:=by
 have hlt:=hR.lt
 obtain ⟨best,h1,h2⟩:=qn G C (nth (cf g) c) (-1) (fun _=>False) (.inl ⟨rfl,fun _ h=>h⟩) (qz (fun e he=>(lF he).1) (fun i x hx=>by
  rcases Nat.lt_or_ge i g.length with hi | hi
  ·rw [aq hi] at hx;cases hx
  ·rw [aU (by simpa using hi)] at hx;cases hx) c)
 have hm : ∀ a:Nat,(a:Int)∈nth (cf g) c↔Eg g a c:=fun a=>by
  have:=B6 (g:=g) (a:=a) (b:=c) ⟨by omega,by omega⟩
  rwa [Int.toNat_natCast] at this
 obtain ⟨f1,f2,f3⟩:=C.hf c hR hc
 rcases h2 with ⟨_,h3⟩ | ⟨q,rfl,hok,_,hq⟩
 ·exact absurd (.inr ⟨(hm _).2 f2,f1,G.inv.fc C hR hc hk⟩) (h3 (f c))
 ·refine ⟨q,h1,hok,fun x=>?_⟩
  rw [hq]
  constructor
  ·intro h a h4 h5 h6
   exact h a (.inr ⟨(hm a).2 h4,h5,h6⟩)
  ·rintro h a (h4 | ⟨h4,h5,h6⟩)
   ·exact h4.elim
   ·exact h a ((hm a).1 h4) h5 h6
end
end Go.Proofs.YtbkdlhkoiagbbaaGreat
namespace Go.Proofs.YtbkdlhkoiagbbaaGreat
open Go Go.Lft Chk
def nJ (w:Nat→Nat):Nat→Nat
 | 0=>0
 | n+1=>nJ w n+w n
theorem Et {w w':Nat→Nat} : ∀ {n:Nat},(∀ b,b<n→w' b≤w b)→nJ w' n≤nJ w n
 | 0,_=>Nat.le_refl _
 | n+1,h=>Nat.add_le_add (Et fun b hb=>h b (by omega)) (h n (by omega))
theorem CN {w w':Nat→Nat} {c:Nat} : ∀ {n:Nat},(∀ b,b<n→w' b≤w b)→c<n→w' c<w c→nJ w' n<nJ w n
 | 0,_,h,_=>by omega
 | n+1,h,hc,hlt=>by
  rcases Nat.lt_or_ge c n with h1 | h1
  ·have:=CN (n:=n) (fun b hb=>h b (by omega)) h1 hlt
   have:=h n (by omega)
   simp only [nJ];omega
  ·obtain rfl:c=n:=by omega
   have:=Et (n:=c) fun b hb=>h b (by omega)
   simp only [nJ];omega
theorem uw {w:Nat→Nat} {m:Nat} : ∀ {n:Nat},(∀ b,b<n→w b≤m)→nJ w n≤n*m
 | 0,_=>by simp [nJ]
 | n+1,h=>by
  have:=uw (n:=n) fun b hb=>h b (by omega)
  have:=h n (by omega)
  rw [nJ,Nat.succ_mul];omega
section
variable {g:Gr} {f:Nat→Nat} {k:Nat} {out:List Int}
def wt (g:Gr) (out:List Int) (b:Nat):Nat:=if nth out b<0 then g.length else rk g (st out b)
def mu (g:Gr) (out:List Int):Nat:=nJ (wt g out) g.length
theorem Good.set (G:Good g f k out) (C:Ch (Rg g) (rk g) (Eg g) f (Dm g)) {c q:Nat} (hR:Rg g c) (hc:c≠0) (hk:rk g c=k) (T:Turn (Rg g) (rk g) (Eg g) (st out) (pd out) c q) (ch:Bool) :
  Good g f (k+1) (setS out ch c q).1∧mu g (setS out ch c q).1≤mu g out∧((setS out ch c q).2=true→ch=true∨mu g (setS out ch c q).1<mu g out)∧((setS out ch c q).2=false→ch=false∧(setS out ch c q).1=out∧st out c=q∧pd out c):=by
 have hlt:=hR.lt
 have hol:=G.len
 obtain ⟨hq,hqn⟩:=G.xv C T.ok
 have I:=G.inv.turn C hR hc hk T
 by_cases e:nth out c=q
 ·have hs:setS out ch c q=(out,ch):=by simp [setS,e]
  rw [hs]
  have hst:upd (st out) c q=st out:=by
   funext b;unfold upd
   split
   ·rename_i hb;subst hb;simp [st,e]
   ·rfl
  have hpd:add (pd out) c=pd out:=by
   funext b
   refine propext ⟨fun h=>?_,.inr⟩
   rcases h with rfl | h
   ·exact ⟨by omega,by omega⟩
   ·exact h
  rw [hst,hpd] at I
  exact ⟨⟨G.len,G.rng,I⟩,Nat.le_refl _,.inl,fun h=>⟨h,rfl,by simp [st,e],by omega,by omega⟩⟩
 ·have hs:setS out ch c q=(out.set c q,true):=by simp [setS,e]
  rw [hs]
  have hn : ∀ b,b<g.length→nth (out.set c q) b=if c=b then (q:Int) else nth out b:=fun b hb=>aJ (by omega)
  have hst:st (out.set c q)=upd (st out) c q:=by
   funext b;unfold upd st
   rcases Nat.lt_or_ge b out.length with hb | hb
   ·rw [aJ hb]
    by_cases h:c=b
    ·rw [if_pos h,if_pos h.symm];simp
    ·rw [if_neg h,if_neg (Ne.symm h)]
   ·rw [aU (by simpa using hb),aU hb,if_neg (by omega)]
  have hpd:pd (out.set c q)=add (pd out) c:=by
   funext b
   refine propext ?_
   unfold pd add
   rw [List.length_set]
   constructor
   ·rintro ⟨h1,h2⟩
    rw [aJ h1] at h2
    by_cases h:c=b
    ·exact .inl h.symm
    ·rw [if_neg h] at h2;exact .inr ⟨h1,h2⟩
   ·rintro (rfl | ⟨h1,h2⟩)
    ·exact ⟨by omega,by rw [aJ (by omega),if_pos rfl];omega⟩
    ·refine ⟨h1,?_⟩
     rw [aJ h1]
     split
     ·omega
     ·exact h2
  have hw : ∀ b,b<g.length→wt g (out.set c q) b≤wt g out b∧(b=c→wt g (out.set c q) b<wt g out b):=by
   intro b hb
   by_cases h:c=b
   ·subst h
    have e1:wt g (out.set c q) c=rk g q:=by
     unfold wt
     rw [hn c hb,if_pos rfl,if_neg (by omega),hst];simp [upd]
    have e2:rk g q<wt g out c:=by
     unfold wt
     split
     ·exact E8 hq
     ·rename_i h1
      have hp:pd out c:=⟨by omega,by omega⟩
      rcases G.inv.H4 T hp with h2 | h2
      ·exfalso
       have:=Int.toNat_of_nonneg hp.2
       unfold st at h2
       omega
      ·exact h2
    omega
   ·have e1:wt g (out.set c q) b=wt g out b:=by
     unfold wt st
     rw [hn b hb,if_neg h]
    exact ⟨by omega,fun e=>absurd e.symm h⟩
  have hmu:mu g (out.set c q)<mu g out:=CN (fun b hb=>(hw b hb).1) hlt ((hw c hlt).2 rfl)
  refine ⟨⟨by simpa using hol,fun b hb=>?_,by rw [hst,hpd];exact I⟩,by show mu g (out.set c q)≤_;omega,fun _=>.inr hmu,fun h=>by cases h⟩
  rw [hn b hb]
  split
  ·right;omega
  ·exact G.rng b hb
theorem sr (C:Ch (Rg g) (rk g) (Eg g) f (Dm g)) : ∀ (l:List Int) (k:Nat) (out:List Int) (ch:Bool),l=(a6 g).drop k→1≤k→k≤(a6 g).length→Good g f k out→
  ∃ out' ch',oW (fj g.length (a6 g)) (cf g) g.length l (out,ch)=some (out',ch')∧Good g f (a6 g).length out'∧mu g out'≤mu g out∧(ch'=true→ch=true∨mu g out'<mu g out)∧
   (ch'=false→ch=false∧out'=out∧∀ c:Nat,(c:Int)∈l→pd out c∧Turn (Rg g) (rk g) (Eg g) (st out) (pd out) c (st out c))
 | [],k,out,ch,hl,_,hk,G=>by
  have hk2:(a6 g).length≤k:=by
   have:=congrArg List.length hl
   simp only [List.length_nil,List.length_drop] at this;omega
  obtain rfl:k=(a6 g).length:=by omega
  exact ⟨out,ch,rfl,G,Nat.le_refl _,.inl,fun h=>⟨h,rfl,by simp⟩⟩
 | b::l,k,out,ch,hl,h1,hk,G=>by
  have hlt:k<(a6 g).length:=by
   have:=congrArg List.length hl
   simp only [List.length_cons,List.length_drop] at this;omega
  rw [List.drop_eq_getElem_cons hlt] at hl
  obtain ⟨hb,hl2⟩:=List.cons.inj hl
  have hmem:b∈a6 g:=by rw [hb];exact List.getElem_mem _
  have hg:0<g.length:=by have:=oS (g:=g);omega
  have O:=iW hg
  have hr:=O.rng b hmem
  obtain ⟨c,rfl⟩:=Int.eq_ofNat_of_zero_le hr.1
  have hR:Rg g c:=(O.mem c).1 hmem
  have hrk:rk g c=k:=by
   unfold rk;rw [hb,List.Nodup.idxOf_getElem O.nodup]
  have hc0:c≠0:=fun e=>by subst e;rw [rU hg] at hrk;omega
  obtain ⟨q,h3,T⟩:=Bd G C hR hc0 hrk
  rw [oW,if_pos hr,Int.toNat_natCast]
  simp only
  rw [h3]
  simp only [Option.bind_some]
  obtain ⟨g1,g2,g3,g4⟩:=G.set C hR hc0 hrk T ch
  have e:setS out ch c q=((setS out ch c q).1,(setS out ch c q).2):=rfl
  rw [e]
  generalize hs1:(setS out ch c q).1=o1 at g1 g2 g3 g4
  generalize hs2:(setS out ch c q).2=c1 at g3 g4
  obtain ⟨out',ch',k1,k2,k3,k4,k5⟩:=sr C l (k+1) o1 c1 hl2 (by omega) (by omega) g1
  refine ⟨out',ch',k1,k2,by omega,fun h=>?_,fun h=>?_⟩
  ·rcases k4 h with h4 | h4
   ·rcases g3 h4 with h5 | h5
    ·exact .inl h5
    ·exact .inr (by omega)
   ·exact .inr (by omega)
  ·obtain ⟨h4,rfl,h6⟩:=k5 h
   obtain ⟨h7,rfl,h8,h9⟩:=g4 h4
   refine ⟨h7,rfl,fun x hx=>?_⟩
   rcases List.mem_cons.1 hx with hx | hx
   ·obtain rfl:x=c:=by omega
    exact ⟨h9,h8▸T⟩
   ·exact h6 x hx
theorem Good.one (hg:0<g.length) (G:Good g f 0 out):Good g f 1 out:=by
 have I:=G.inv
 have h0 : ∀ b,Rg g b→b≠0→¬rk g b<1:=fun b hR hb h=>hb (zE hR (.root hg (by decide)) (by rw [rU hg];omega))
 exact ⟨G.len,G.rng,⟨I.pr,fun b hR hb h=>absurd h (h0 b hR hb),I.fok,I.K,fun b hb y hy _=>I.FP b hb y hy (by omega),fun b hb h=>absurd h (h0 b (I.pr b hb).1 (I.pr b hb).2.1),I.S⟩⟩
structure nh (g:Gr) (f:Nat→Nat) (l:List Int):Prop where
 good:Good g f (a6 g).length l
 turn : ∀ c,Rg g c→c≠0→pd l c∧Turn (Rg g) (rk g) (Eg g) (st l) (pd l) c (st l c)
theorem uT (hg:0<g.length) (C:Ch (Rg g) (rk g) (Eg g) f (Dm g)) : ∀ (fuel:Nat) (out:List Int),Good g f 0 out→mu g out<fuel→
  ∃ l,lJ (fj g.length (a6 g)) (cf g) g.length ((a6 g).drop (min 1 (a6 g).length)) fuel out=some l∧nh g f l
 | 0,_,_,h=>by omega
 | fuel+1,out,G,h=>by
  have O:=iW hg
  have hlen:0<(a6 g).length:=by
   rcases Nat.eq_zero_or_pos (a6 g).length with h | h
   ·have:=O.head;rw [List.eq_nil_of_length_eq_zero h] at this;cases this
   ·exact h
  have hm:min 1 (a6 g).length=1:=by omega
  rw [lJ,hm]
  obtain ⟨out',ch',k1,k2,k3,k4,k5⟩:=sr C ((a6 g).drop 1) 1 out false rfl (Nat.le_refl _) hlen (G.one hg)
  rw [k1]
  simp only [Option.bind_some]
  cases ch' with
  | true=>
   rw [if_pos rfl]
   have:=uT hg C fuel out' ⟨k2.len,k2.rng,k2.inv.again fun b hb=>Ak hb⟩ (by rcases k4 rfl with h1 | h1;cases h1;omega)
   rwa [hm] at this
  | false=>
   rw [if_neg (by simp)]
   obtain ⟨_,rfl,h6⟩:=k5 rfl
   refine ⟨_,rfl,k2,fun c hR hc=>h6 c ?_⟩
   have hmem:=(O.mem c).2 hR
   obtain ⟨i,hi,e⟩:=List.getElem_of_mem hmem
   have hi0:i≠0:=fun h0=>by
    subst h0
    have:=O.head
    rw [List.getElem?_eq_getElem hi] at this
    have:=Option.some.inj this
    omega
   rw [←e]
   refine List.mem_iff_getElem.2 ⟨i-1,by rw [List.length_drop];omega,?_⟩
   rw [List.getElem_drop]
   congr 1
   omega
theorem vj (hg:0<g.length) : ∃ f,Ch (Rg g) (rk g) (Eg g) f (Dm g)∧∃ l,uN g (g.length*g.length+1)=some l∧nh g f l:=by
 obtain ⟨f,hf⟩:=Fz hg
 have C:=HZ hg hf
 refine ⟨f,C,?_⟩
 refine uT hg C _ _ ⟨by simp,fun b hb=>.inl (aq hb),?_⟩ ?_
 ·have:pd (List.replicate g.length (-1))=fun _=>False:=by
   funext b
   refine propext ⟨fun ⟨h1,h2⟩=>?_,fun h=>h.elim⟩
   rw [aq (by simpa using h1)] at h2
   omega
  rw [this]
  exact Inv.start
 ·have:=uw (w:=wt g (List.replicate g.length (-1))) (m:=g.length) (n:=g.length) fun b hb=>by
   unfold wt
   rw [aq hb,if_pos (by omega)]
   exact Nat.le_refl _
  unfold mu;omega
theorem nh.anc {l:List Int} (I:nh g f l) (C:Ch (Rg g) (rk g) (Eg g) f (Dm g)) {x b:Nat} (hb:Rg g b):Anc (st l) x b↔Dm g x b:=by
 have hok : ∀ b,Rg g b→Ok (pd l) b:=fun b h=>by
  by_cases e:b=0
  ·exact .inl e
  ·exact .inr (I.turn b h e).1
 constructor
 ·intro h
  have hx:=(I.good.xv C (I.good.inv.anc h (hok b hb)).1).1
  refine nc.2 ⟨hx,hb,fun hre=>?_⟩
  have key : ∀ b,Re g x b→¬Anc (st l) x b:=by
   intro b hre
   induction hre with
   | root h1 h2=>intro h;have:=pP.1 h;omega
   | step ha he hne ih=>
    rename_i a b
    intro h
    by_cases e:b=0
    ·subst e;have:=pP.1 h;omega
    ·have hRb:Rg g b:=.step ha.all he (by omega)
     have h3:=((mB e).1 h).resolve_left (by omega)
     exact ih (((I.turn b hRb e).2.q x).1 h3 a he ha.all (hok a ha.all))
  exact key b hre h
 ·intro h
  exact I.good.inv.dom C (hok b hb) h
end
end Go.Proofs.YtbkdlhkoiagbbaaGreat
namespace Go.Proofs.YtbkdlhkoiagbbaaGreat
open Go Go.Lft Chk
theorem EL {p:Nat→Bool} {n:Nat}:uV p n=true↔∃ i,i<n∧p i=true:=by
 unfold uV
 induction n with
 | zero=>simp [up]
 | succ n ih=>
  rw [up,C1,Bool.or_eq_true,ih]
  constructor
  ·rintro (⟨i,h1,h2⟩ | h)
   ·exact ⟨i,by omega,h2⟩
   ·exact ⟨n,by omega,h⟩
  ·rintro ⟨i,h1,h2⟩
   rcases Nat.lt_or_ge i n with h | h
   ·exact .inl ⟨i,h,h2⟩
   ·obtain rfl:i=n:=by omega
    exact .inr h2
theorem AF {p:Nat→Bool} {n:Nat}:qZ p n=true↔∀ i,i<n→p i=true:=by
 unfold qZ
 induction n with
 | zero=>simp [up]
 | succ n ih=>
  rw [up,Am,Bool.and_eq_true,ih]
  constructor
  ·rintro ⟨h1,h2⟩ i hi
   rcases Nat.lt_or_ge i n with h | h
   ·exact h1 i h
   ·obtain rfl:i=n:=by omega
    exact h2
  ·intro h
   exact ⟨fun i hi=>h i (by omega),h n (by omega)⟩
section
variable {g:Gr} {f:Nat→Nat} {l:List Int}
theorem nh.none (I:nh g f l) {b:Nat} (hb:b<g.length) (h:¬Rg g b∨b=0):nth l b=-1:=by
 rcases I.good.rng b hb with h1 | h1
 ·exact h1
 ·exfalso
  have:=I.good.inv.pr b ⟨by rw [I.good.len];exact hb,h1.1⟩
  rcases h with h | h
  ·exact h this.1
  ·exact this.2.1 h
theorem Cs {a:Int} (ha:0≤a) : ∀ k,mX l a k (-1)=false
 | 0=>rfl
 | k+1=>by rw [mX,if_neg (by omega),if_pos (.inl (by omega))]
theorem tr (I:nh g f l) (C:Ch (Rg g) (rk g) (Eg g) f (Dm g)) {a:Nat} : ∀ (k b:Nat),Rg g b→rk g b<k→(mX l a k b=true↔Anc (st l) a b)
 | 0,b,_,h=>by omega
 | k+1,b,hb,h=>by
  have hlt:=hb.lt
  have hll:=I.good.len
  rw [mX]
  by_cases e:(b:Int)=a
  ·rw [if_pos e]
   have:a=b:=by omega
   subst this
   exact ⟨fun _=>.self,fun _=>rfl⟩
  ·rw [if_neg e,if_neg (by omega),Int.toNat_natCast]
   by_cases h0:b=0
   ·subst h0
    rw [I.none hlt (.inr rfl),Cs (by omega),pP]
    constructor
    ·intro h;cases h
    ·intro h;omega
   ·obtain ⟨hp,_⟩:=I.turn b hb h0
    obtain ⟨h1,h2,h3,h4⟩:=I.good.inv.pr b hp
    have e2:nth l b=((st l b:Nat):Int):=(Int.toNat_of_nonneg hp.2).symm
    rw [e2,tr I C k (st l b) (I.good.inv.okR C h3) (by omega),mB h0]
    exact ⟨.inr,fun h=>h.resolve_left (by omega)⟩
theorem qc (I:nh g f l) (C:Ch (Rg g) (rk g) (Eg g) f (Dm g)) {a b:Nat} (ha:a<g.length) (hb:Rg g b):dS l a b=domC g a b:=by
 have hlt:=hb.lt
 have hll:=I.good.len
 rw [dS,decide_eq_true (by omega),Bool.true_and,Bool.eq_iff_iff,tr I C _ _ hb (by have:=E8 hb;omega),I.anc C hb]
 rfl
end
end Go.Proofs.YtbkdlhkoiagbbaaGreat
namespace Go.Proofs.YtbkdlhkoiagbbaaGreat
open Go Go.Lft
theorem Du {l:List Int} {x:Int} {v:Value} {h:Heap} (hl:SlRd (vw h) v l):aD Tryz.prog N.slices_Index_int #[v,.int .i64 x] h (fun u h'=>(∃ r:Int,u = .int .i64 r∧(0≤r↔x∈l))∧h'=h):=by
 refine ao (args:=[v,.int .i64 x]) follows F.slices_Index_int E.slices_Index_int (Nat.le_of_ble_eq_true (by kernel_rfl)) fun K hK=>?_
 have bl:=hl.bound
 simp [L.slices_Index_int,hl.len]
 refine aV [0,1,7,8] (fun (_:Unit) i=>[v,.int .i64 x,.int .i64 l.length,.int .i64 i]) (fun _ i h1=>h1=h∧∀ j,j<i→nth l j≠x) l.length ()
  rfl (by omega) rfl ⟨rfl,fun j hj=>by omega⟩ (fun _ _=>rfl) (fun v i h1 hk m=>by simp) ?_ ?_
 ·rintro _ i h hlt ⟨rfl,hpre⟩ K2 hK2
  simp (disch:=omega) [hl.idx1 rfl,hl.int (View.le_refl _)]
  refine ⟨fun e=>hK _ _ ⟨⟨i,rfl,by simp;rw [e];exact bu hlt⟩,rfl⟩,fun e=>hK2 () _ _ rfl rfl ⟨rfl,fun j hj=>?_⟩⟩
  rcases Nat.lt_or_ge j i with h | h
  ·exact hpre j h
  ·have:j=i:=by omega
   subst this;exact fun e2=>e e2.symm
 ·rintro _ h ⟨rfl,hpre⟩
  simp
  refine hK _ _ ⟨⟨-1,rfl,by simp;intro hm;obtain ⟨j,hj,e⟩:=List.getElem_of_mem hm;exact hpre j hj (by rw [ak hj];exact e)⟩,rfl⟩
theorem yj {l:List Int} {x:Int} {v:Value} {h:Heap} (hl:SlRd (vw h) v l):aD Tryz.prog N.slices_Contains_int #[v,.int .i64 x] h (fun u h'=>u = .bool (l.contains x)∧h'=h):=by
 refine ao (args:=[v,.int .i64 x]) follows F.slices_Contains_int E.slices_Contains_int (Nat.le_of_ble_eq_true (by kernel_rfl)) fun K hK=>?_
 simp [L.slices_Contains_int]
 refine af (by kernel_rfl) (Du hl) ?_
 rintro _ _ ⟨⟨r,rfl,hr⟩,rfl⟩
 simp
 exact hK _ _ ⟨by simp [←hr],rfl⟩
def ofG (l:List BlkD):Gr:=rows (fun i=>jV (nth l i).term.to l.length) l.length
theorem pI {l:List BlkD} {v:Value} {p:Int} {h:Heap} (hv:SlRd (vw h) v l) (hl:l.length≤1000000) (hs : ∀ i,i<l.length→(nth l i).term.to.length≤1000000) :
  aD Tryz.prog N.gP #[.agg #[.int .i64 p,v]] h (fun u h'=>(vw h).le (vw h')∧SlRd (fresh h h') u (ofG l)):=by
 refine ao (args:=[.agg #[.int .i64 p,v]]) follows F.gP E.gP (Nat.le_of_ble_eq_true (by kernel_rfl)) fun K hK=>?_
 obtain ⟨hvc,hvo⟩:=hv.cells
 simp [L.gP]
 refine lf (v:=.agg #[.int .i64 p,v]) (by simp) ?_
 have hle1:=bN h (.cells (Value.agg #[.int .i64 p,v]).cells T.aI)
 have hc1:an (vw (h.push (.cells (Value.agg #[.int .i64 p,v]).cells T.aI))) ⟨h.size,1,none⟩=some v:=bJ (c:=#[.int .i64 p,v]) (T:=T.aI) (fz:=(0,0)) (by simp [vw,Value.cells]) rfl
 generalize h.push (.cells (Value.agg #[.int .i64 p,v]).cells T.aI)=h1 at hle1 hc1
 have hv1:=hv.mono hle1
 simp [hc1,hv1.len]
 refine Mine.made (α:=List Int) (V:=nothing) (W:=nothing) (h0:=h1) (n:=l.length) (d:=[]) El.cJ (View.le_refl _) (fun _ _ h=>by cases h) (Old.nothing _ _) (by simp<;>rfl) (by simp<;>rfl) CX (by omega) (by omega) fun o h2 m hle2 _=>?_
 have hc2:=ae hle2 hc1
 have hv2:=hv1.mono hle2
 simp [hc2,hv2.len]
 refine aV [1,3,11,12,13] (fun (_:View) k=>[.pointer (some ⟨h.size,0,none⟩),o,v,.int .i64 l.length,.int .i64 k]) (fun W k h3=>Mine nothing h1 h3 W T.a8 o (rows (fun i=>jV (nth l i).term.to l.length) k++List.replicate (l.length-k) [])) l.length nothing
  rfl (by omega) rfl m (fun _ _=>rfl) (fun v k h1 hk m=>by simp) ?_ ?_
 ·rintro W a h3 hlta m K2 hK2
  have hle3:=m.old
  have hc3:=ae hle3 hc1
  have hv3:=hv1.mono hle3
  obtain ⟨u,hu1,hu2⟩:=hv3.wh rfl (N:=6) rfl hlta
  have hal:=hs a hlta
  have hl5:(rows (fun i=>jV (nth l i).term.to l.length) a++List.replicate (l.length-a) ([]:List Int)).length=l.length:=by simp;omega
  refine aa fun z hz=>?_
  simp (disch:=omega) [hv3.idxn (N:=6) rfl,hu1 _ (View.le_refl _)]
  refine gL (z:=.agg #[.slice none 0 0,.slice none 0 0,.int .i64 0,.slice none 0 0,.slice none 0 0,.int .i32 0]) (by kernel_rfl) rfl (by kernel_rfl) hu2 (fun _=>by simp) (fun _=>by simp) fun h4 hle4 hsz4 hat=>?_
  obtain ⟨vp,vi,va,vt,bp,bi,bk,ba,bt⟩:=mw (hat (vw h4) hle4 rfl)
  have hc4:=ae hle4 hc3
  have hv4:=hv3.mono hle4
  rw [hz];clear hz z
  simp [bt.1,hc4,hv4.len]
  refine af (by kernel_rfl) (Ba bt.2 (by omega)) ?_
  rintro r h5 ⟨W',mr⟩
  have m5:=(m.ext' hle4).ext mr.old
  have hr:=mr.fresh.mono (eR W _ _)
  simp (disch:=omega) [m5.now.idx1 rfl]
  refine m5.put1 (α:=List Int) (i:=a) (by kernel_rfl) rfl (by simp) (by simp<;>rfl) (by omega) (gl.2 hr) fun h6 m6=>hK2 (grow W h4 h5) _ _ rfl rfl ?_
  rw [kt (x:=fun i=>jV (nth l i).term.to l.length) hlta] at m6
  exact m6
 ·rintro W h3 m
  simp at m
  simp
  exact hK _ _ ⟨View.le_trans hle1 m.old,m.fresh.mono (mg hle1)⟩
def j6 (w:Int × Int) (idom:List Int) (blk at_:Int):Bool:=(decide (w.1=blk)&&(decide (w.2<at_)||decide (w.2<0)))||(!decide (w.1=blk)&&dS idom w.1 blk)
def useS (ps:Int) (m:MW) (idom:List Int) (v blk place at_ told:Int):Except Tr Unit:=
 if 0≤v∧v<ps then .ok () else match m v with
  | none=>.error (13,told,place)
  | some w=>if j6 w idom blk at_ then .ok () else .error (13,told,place)
theorem zj {Kb r:Nat} {vb vd:Value} {f:ah} {m:MW} {idom:List Int} {h:Heap} {p5 p6:Addr} {v blk place at_ told:Int} (k:Lk h Kb r vb f m) (h5:an (vw h) p5=some (.pointer (some ⟨Kb,0,none⟩))) (h6:an (vw h) p6=some vd) (hd:SlRd (vw h) vd idom) :
  fF Tryz.prog N.aN #[.int .i64 v,.int .i64 blk,.int .i64 place,.int .i64 at_,.int .i64 told,.pointer (some p5),.pointer (some p6)] h (fun _ h'=>useS f.params m idom v blk place at_ told = .ok ()∧(vw h).le (vw h'))
   (fun ch h'=>∃ t,useS f.params m idom v blk place at_ told = .error t∧ch=trV t∧(vw h).le (vw h')):=by
 refine gV (args:=[.int .i64 v,.int .i64 blk,.int .i64 place,.int .i64 at_,.int .i64 told,.pointer (some p5),.pointer (some p6)]) follows F.aN E.aN (Nat.le_of_ble_eq_true (by kernel_rfl)) fun K Kp hK hKp=>?_
 dsimp only [L.aN]
 by_cases hp:0≤v∧v<f.params
 ·simp [h5,ae bX k.c0,hp]
  exact hK _ _ ⟨by simp [useS,hp],View.le_refl _⟩
 ·have hu:useS f.params m idom v blk place at_ told=match m v with
    | none=>.error (13,told,place)
    | some w=>if j6 w idom blk at_ then .ok () else .error (13,told,place):=by rw [useS,if_neg hp]
  rw [hu] at hK hKp
  refine aa fun z hz=>?_
  have hc:(decide (0≤v)&&decide (v<f.params))=false:=by
   rw [Bool.eq_false_iff];intro e;exact hp (by simpa using e)
  simp [h5,ae bX k.c0,hc]
  rw [hz];clear hz z
  refine aa fun z hz=>?_
  simp [h5,ae bX k.c2]
  refine kA (z:=.agg #[.int .i64 0,.int .i64 0]) U.fo U.int (by kernel_rfl) (by simp<;>rfl) (by simp<;>rfl) kT k.map ?_
  have cellsW:((mapE encW m (.int .i64 v))).getD (.agg #[.int .i64 0,.int .i64 0])=encW ((m v).getD (0,0)):=by rw [mL];cases m v<;>rfl
  have isW:(mapE encW m (.int .i64 v)).isSome=(m v).isSome:=by rw [mL];cases m v<;>rfl
  rw [cellsW,isW]
  simp
  refine jH (n:=2) (v:=encW ((m v).getD (0,0))) (z:=.agg #[.int .i64 0,.int .i64 0]) (by kernel_rfl) rfl (by kernel_rfl) rfl (by simp [encW,Value.oneCell']) (fun _=>by simp) (fun _=>by simp) fun h3 hle3 hsz3 hb3=>?_
  have d0:an (vw h3) ⟨h.size,0,none⟩=some (.int .i64 ((m v).getD (0,0)).1):=bJ (show vw h3 h.size=_ from hb3) rfl
  have d1:an (vw h3) ⟨h.size,1,none⟩=some (.int .i64 ((m v).getD (0,0)).2):=bJ (show vw h3 h.size=_ from hb3) rfl
  have h63:=ae hle3 h6
  have hd3:=hd.mono hle3
  generalize h.size=B at d0 d1
  rw [hz];clear hz z
  have fin : ∀ (ok:Bool) (h4:Heap) (ρ:Env) (z:LC),(vw h).le (vw h4)→(∀ w,m v=some w→ok=j6 w idom blk at_)→(m v=none→ok=false)→z = .reg false (.loud [65,66,67] [] [(65,.tmp 13),(66,.tmp 4),(67,.tmp 2)] none [] false (.call ⟨.value (.func N.eM),#[.tmp 65,.const (.int .i64 13),.tmp 66,.tmp 67],#[T.bool,T.lN,T.int,T.int]⟩) 0 (some 68) false (.fin [] [] []))→
    Lft.look ρ 13=some (.bool ok)→Lft.look ρ 4=some (.int .i64 told)→Lft.look ρ 2=some (.int .i64 place)→@LC.wp (ppOf Kp) Tryz.prog z (@eT [] K) ρ h4:=by
   rintro ok h4 ρ _ hle4 hs hn rfl e13 e4 e2
   simp [e13,e4,e2]
   refine dv (by kernel_rfl) gJ ?_ ?_
   ·rintro _ _ ⟨e,rfl⟩
    refine hK _ _ ⟨?_,hle4⟩
    cases hm:m v with
    | none=>rw [hn hm] at e;cases e
    | some w=>simp only;rw [if_pos (by rw [←hs w hm];exact e)]
   ·rintro _ _ ⟨e,rfl,rfl⟩
    refine ⟨.inl rfl,hKp _ _ ⟨_,?_,rfl,hle4⟩⟩
    cases hm:m v with
    | none=>rfl
    | some w=>simp only;rw [if_neg (by rw [←hs w hm,e];simp)]
  refine aa fun z hz=>?_
  cases hm:m v with
  | none=>
   rw [hm] at d0 d1
   simp [d0,d1]
   refine fin false _ _ _ hle3 (fun w hw=>by rw [hm] at hw;cases hw) (fun _=>rfl) hz ?_ ?_ ?_<;>simp
  | some w=>
   rw [hm] at d0 d1
   simp at d0 d1
   by_cases c1:w.1=blk
   ·by_cases c2:w.2<at_
    ·simp [d0,d1,c1,c2]
     refine fin true _ _ _ hle3 (fun w' hw=>by rw [hm] at hw;cases hw;simp [j6,c1,c2]) (fun e=>by simp [hm] at e) hz ?_ ?_ ?_<;>simp
    ·by_cases c3:w.2<0
     ·simp [d0,d1,c1,c2,c3]
      refine fin true _ _ _ hle3 (fun w' hw=>by rw [hm] at hw;cases hw;simp [j6,c1,c2,c3]) (fun e=>by simp [hm] at e) hz ?_ ?_ ?_<;>simp
     ·simp [d0,d1,c1,c2,c3]
      refine fin false _ _ _ hle3 (fun w' hw=>by rw [hm] at hw;cases hw;simp [j6,c1,c2,c3]) (fun e=>by simp [hm] at e) hz ?_ ?_ ?_<;>simp
   ·simp [d0,d1,c1,h63]
    refine af (by kernel_rfl) (wW hd3) ?_
    rintro _ h4 ⟨rfl,hle4⟩
    refine fin _ _ _ _ (View.le_trans hle3 hle4) (fun w' hw=>by rw [hm] at hw;cases hw;simp [j6,c1];rfl) (fun e=>by simp [hm] at e) hz ?_ ?_ ?_<;>simp
end Go.Proofs.YtbkdlhkoiagbbaaGreat
namespace Go.Proofs.YtbkdlhkoiagbbaaGreat
open Go Go.Lft
def jR (x:PhiD) (row:List Int) (b:Nat):Bool:=decide (0<b)&&decide ((x.ins.length:Int)=(row.length:Int))
def vz (x:PhiD) (row:List Int) (j:Nat):Bool:=decide ((nth x.ins j).frm=nth row j)
def yY (x:PhiD) (row:List Int) (b:Nat):Bool:=jR x row b&&qZ (vz x row) x.ins.length
def uAll (g:Nat→Except Tr Unit) (n:Nat):Except Tr Unit:=upE (fun i _=>g i) n ()
def phiU (f:ah) (m:MW) (idom:List Int) (preds:Gr) (b i:Nat):Except Tr Unit:=
 let x:=nth (nth f.blocks b).phis i
 if yY x (nth preds b) b then uAll (fun j=>useS f.params m idom (nth x.ins j).val (nth x.ins j).frm (-1-i) (nth f.blocks (nth x.ins j).frm.toNat).ins.length b) x.ins.length else .error (16,b,-1-i)
def insU (f:ah) (m:MW) (idom:List Int) (b i:Nat):Except Tr Unit:=
 uAll (fun j=>useS f.params m idom (nth (nth (nth f.blocks b).ins i).args j) b i i b) (nth (nth f.blocks b).ins i).args.length
def endU (f:ah) (m:MW) (idom:List Int) (b:Nat):Except Tr Unit:=
 uAll (fun j=>useS f.params m idom (nth (nth f.blocks b).term.args j) b (nth f.blocks b).ins.length (nth f.blocks b).ins.length b) (nth f.blocks b).term.args.length
def andE (x y:Except Tr Unit):Except Tr Unit:=match x with | .ok _=>y | .error t=>.error t
def blkU (f:ah) (m:MW) (idom:List Int) (preds:Gr) (b:Nat):Except Tr Unit:=
 andE (uAll (phiU f m idom preds b) (nth f.blocks b).phis.length) (andE (uAll (insU f m idom b) (nth f.blocks b).ins.length) (endU f m idom b))
def qR (f:ah) (b:Nat):Except Tr Unit:=if decide ((b:Int)∈a6 (ofG f.blocks)) then .ok () else .error (15,b,0)
def p9 (f:ah) (m:MW) (idom:List Int):Except Tr Unit:=
 andE (uAll (qR f) f.blocks.length) (uAll (blkU f m idom (cf (ofG f.blocks))) f.blocks.length)
theorem my {g:Nat→Except Tr Unit} {n k:Nat} {t:Tr} (h:uAll g k = .ok ()) (hk:k<n) (he:g k = .error t):uAll g n = .error t:=wO h hk he
theorem ju {g:Nat→Except Tr Unit} {k:Nat} (h:uAll g k = .ok ()):uAll g (k+1)=g k:=lI h
theorem Cz {H:View} {B:Nat} {u v:Value} (h0:an H ⟨B,0,none⟩=some u) (h1:an H ⟨B,1,none⟩=some v):Un.ev H (.au 2) (.pointer (some ⟨B,0,none⟩))=some (.agg #[u,v]):=by
 simp [Un.ev,vP,dp,h0,h1]
theorem zP {l:List BlkD} (hl:l.length≤1000000) (hs : ∀ i,i<l.length→(nth l i).term.to.length≤1000000):Sm (ofG l):=by
 have hlen:(ofG l).length=l.length:=by simp [ofG]
 refine ⟨by omega,fun i hi=>?_⟩
 rw [hlen] at hi
 rw [ofG,df hi]
 exact Nat.le_trans vc (hs i hi)
theorem ES {Kb r:Nat} {vb:Value} {f:ah} {m:MW} {idom:List Int} {fuel:Nat} {h:Heap} (k:Lk h Kb r vb f m) (hn:f.blocks.length≤1000000) (hto : ∀ i,i<f.blocks.length→(nth f.blocks i).term.to.length≤1000000) (hd:uN (ofG f.blocks) fuel=some idom) :
  fF Tryz.prog N.ay #[.pointer (some ⟨Kb,0,none⟩)] h (fun _ h'=>p9 f m idom = .ok ()∧(vw h).le (vw h')) (fun ch h'=>∃ t,p9 f m idom = .error t∧ch=trV t∧(vw h).le (vw h')):=by
 refine gV (args:=[.pointer (some ⟨Kb,0,none⟩)]) follows F.ay E.ay (Nat.le_of_ble_eq_true (by kernel_rfl)) fun K Kp hK hKp=>?_
 have hbb:=k.rb.bound
 have hsm:=zP hn hto
 have hgl:(ofG f.blocks).length=f.blocks.length:=by simp [ofG]
 dsimp only [L.ay]
 refine aa fun z hz=>?_
 simp
 refine lf (v:=.pointer (some ⟨Kb,0,none⟩)) (by simp) ?_
 have hle1:=bN h (.cells (Value.cells (.pointer (some ⟨Kb,0,none⟩))) T.kf)
 have h51:an (vw (h.push (.cells (Value.cells (.pointer (some ⟨Kb,0,none⟩))) T.kf))) ⟨h.size,0,none⟩=some (.pointer (some ⟨Kb,0,none⟩)):=by simp [an,vw]
 generalize h.push (.cells (Value.cells (.pointer (some ⟨Kb,0,none⟩))) T.kf)=h1 at hle1 h51
 generalize h.size=B at h51
 have k1:=k.ext hle1
 rw [hz];clear hz z
 refine aa fun z hz=>?_
 simp [h51,Cz (ae bX k1.c0) (ae bX k1.c1)]
 refine af (by kernel_rfl) (pI (k1.rb.mono bX) hn hto) ?_
 rintro vg h2 ⟨hle2,hg⟩
 have hg2:=hg.mono (eY _ _)
 rw [hz];clear hz z
 refine aa fun z hz=>?_
 simp
 refine af (by kernel_rfl) (yx hg2 hsm) ?_
 rintro vo h3 ⟨hle3,ho⟩
 have ho3:=ho.mono (eY _ _)
 have hg3:=hg2.mono hle3
 have hle13:=View.le_trans hle2 hle3
 have k3:=k1.ext hle13
 have h53:=ae hle13 h51
 have hle03:=View.le_trans hle1 hle13
 rw [hz];clear hz z
 refine aa fun z hz=>?_
 simp [h53,ae bX k3.c1,k3.rb.len]
 refine aV [0,1,2,3,35,36] (fun (_:Unit) b=>[.pointer (some ⟨Kb,0,none⟩),.pointer (some ⟨B,0,none⟩),vg,vo,.int .i64 f.blocks.length,.int .i64 b]) (fun _ b h4=>h4=h3∧uAll (qR f) b = .ok ()) f.blocks.length ()
  rfl (by omega) rfl ⟨rfl,rfl⟩ (fun _ _=>rfl) (fun v i h1 hk m=>by simp) ?_ ?_
 ·rintro _ b h3 hlt ⟨rfl,hpre⟩ K2 hK2
  simp
  refine af (by kernel_rfl) (yj ho3) ?_
  rintro _ _ ⟨rfl,rfl⟩
  simp
  refine dv (by kernel_rfl) gJ ?_ ?_
  ·rintro _ _ ⟨e,rfl⟩
   exact hK2 () _ _ rfl rfl ⟨rfl,by rw [ju hpre,qR,if_pos e]⟩
  ·rintro _ _ ⟨e,rfl,rfl⟩
   exact ⟨.inl rfl,hKp _ _ ⟨_,by rw [p9,my hpre hlt (by rw [qR,if_neg (by rw [e];simp)])];rfl,rfl,hle03⟩⟩
 ·rintro _ h3 ⟨rfl,hreach⟩
  have hus:p9 f m idom=uAll (blkU f m idom (cf (ofG f.blocks))) f.blocks.length:=by rw [p9,hreach];rfl
  rw [hus] at hK hKp
  simp
  rw [hz];clear hz z
  refine aa fun z hz=>?_
  simp
  refine af (by kernel_rfl) (sP hg3 hsm) ?_
  rintro vp h4 ⟨hle4,hp⟩
  have hp4:=hp.mono (eY _ _)
  refine af (by kernel_rfl) (Fa (hg3.mono hle4) hsm hd) ?_
  rintro vi h5 ⟨W,mi⟩
  have hi5:=mi.now
  refine gL (α:=List Int) (z:=.slice none 0 0) (X:=vw h5) (by kernel_rfl) rfl (by kernel_rfl) (gl.2 hi5) (fun _=>by simp) (fun _=>by simp) fun h6 hle6 hsz6 hat=>?_
  obtain ⟨vd,hvd,hd6⟩:=(hat (vw h6) hle6 rfl).sl
  generalize h5.size=C at hvd
  rw [hz];clear hz z
  have hle36:=View.le_trans hle4 (View.le_trans mi.old hle6)
  have hp6:=hp4.mono (View.le_trans mi.old hle6)
  have k6:=k3.ext hle36
  have h56:=ae hle36 h53
  have hle06:=View.le_trans hle03 hle36
  have hpl:(cf (ofG f.blocks)).length=f.blocks.length:=by rw [ni,hgl]
  have hin : ∀ b,∀ x∈nth (cf (ofG f.blocks)) b,0≤x∧x<f.blocks.length:=by
   rw [←hgl]
   exact qz (fun e he=>(lF he).1) (fun i x hx=>by
    rcases Nat.lt_or_ge i (ofG f.blocks).length with hi | hi
    ·rw [aq hi] at hx;cases hx
    ·rw [aU (by simpa using hi)] at hx;cases hx)
  generalize cf (ofG f.blocks)=preds at hp6 hpl hin hK hKp
  obtain ⟨pv,hpv⟩:=hp6.rows
  simp [h56,ae bX k6.c1,k6.rb.len]
  refine aV [1,5,7,54,55,56] (fun (_:Unit) b=>[.pointer (some ⟨B,0,none⟩),vp,.func (.func N.aN) #[] #[.pointer (some ⟨B,0,none⟩),.pointer (some ⟨C,0,none⟩)],vb,.int .i64 f.blocks.length,.int .i64 b]) (fun _ b h7=>(vw h6).le (vw h7)∧uAll (blkU f m idom preds) b = .ok ()) f.blocks.length ()
   rfl (by omega) rfl ⟨View.le_refl _,rfl⟩ (fun _ _=>rfl) (fun v i h1 hk m=>by simp) ?_ ?_
  ·rintro _ b h7 hltb ⟨hle7,hpre⟩ K2 hK2
   have k7:=k6.ext hle7
   have rb7:=k7.rb.mono bX
   obtain ⟨u,hu,hur⟩:=rb7.wh rfl (N:=6) rfl hltb
   obtain ⟨pc,pr⟩:=hpv b (by omega)
   have hst:=ju hpre
   have her : ∀ {t},blkU f m idom preds b = .error t→uAll (blkU f m idom preds) f.blocks.length = .error t:=fun e=>my hpre hltb e
   refine aa fun z hz=>?_
   simp (disch:=omega) [rb7.idxn (N:=6) rfl,hu _ (View.le_refl _)]
   refine gL (z:=.agg #[.slice none 0 0,.slice none 0 0,.int .i64 0,.slice none 0 0,.slice none 0 0,.int .i32 0]) (by kernel_rfl) rfl (by kernel_rfl) hur (fun _=>by simp) (fun _=>by simp) fun h8 hle8 hsz8 hat=>?_
   obtain ⟨wp,wi,wa,wt,bp,bi,bk,ba,bt⟩:=mw (hat (vw h8) hle8 rfl)
   generalize h7.size=D at bp bi bk ba bt
   rw [hz];clear hz z
   have hle68:=View.le_trans hle7 hle8
   have bph:=bp.2.bound
   have bin:=bi.2.bound
   have bar:=ba.2.bound
   refine aa fun z hz=>?_
   simp [bp.1,bp.2.len]
   refine aV [1,5,7,8,9,54,55,56,62,63,64] (fun (_:Unit) i=>[.pointer (some ⟨B,0,none⟩),vp,.func (.func N.aN) #[] #[.pointer (some ⟨B,0,none⟩),.pointer (some ⟨C,0,none⟩)],.int .i64 b,.pointer (some ⟨D,0,none⟩),vb,.int .i64 f.blocks.length,.int .i64 b,wp,.int .i64 (nth f.blocks b).phis.length,.int .i64 i])
    (fun _ i h9=>(vw h8).le (vw h9)∧uAll (phiU f m idom preds b) i = .ok ()) (nth f.blocks b).phis.length ()
    rfl (by omega) rfl ⟨View.le_refl _,rfl⟩ (fun _ _=>rfl) (fun v i h1 hk m=>by simp) ?_ ?_
   ·rintro _ i h9 hlti ⟨hle9,hpre9⟩ K3 hK3
    have hst9:=ju hpre9
    have her9 : ∀ {t},phiU f m idom preds b i = .error t→blkU f m idom preds b = .error t:=fun e=>by rw [blkU,my hpre9 hlti e];rfl
    have bp9:=bp.2.mono hle9
    obtain ⟨u9,hu9,hur9⟩:=bp9.wh rfl (N:=2) rfl hlti
    refine aa fun y hy=>?_
    simp (disch:=omega) [bp9.idxn (N:=2) rfl,hu9 _ (View.le_refl _)]
    refine gL (z:=.agg #[.int .i64 0,.slice none 0 0]) (by kernel_rfl) rfl (by kernel_rfl) hur9 (fun _=>by simp) (fun _=>by simp) fun h10 hle10 hsz10 hat10=>?_
    obtain ⟨_,wq,cq⟩:=Au (hat10 (vw h10) hle10 rfl)
    simp only [phiU] at hst9 her9
    generalize nth (nth f.blocks b).phis i=x at cq hst9 her9
    generalize h9.size=D10 at cq
    have bq:=cq.2.bound
    rw [hy];clear hy y
    refine aa fun y hy=>?_
    have hle610:=View.le_trans hle68 (View.le_trans hle9 hle10)
    have hp10:=hp6.mono hle610
    have pr10:=pr.mono hle610
    have hbase:(decide (0<b)&&decide ((x.ins.length:Int)=((nth preds b).length:Int)))=jR x (nth preds b) b:=rfl
    simp (disch:=omega) [cq.1,cq.2.len,hp10.idx1 rfl,pc _ hle610,pr10.len]
    rw [hbase]
    rw [hy];clear hy y
    refine aa fun y hy=>?_
    simp [cq.1,cq.2.len]
    refine aV [1,5,7,8,9,10,11,12,54,55,56,62,63,64,83,84,85] (fun (_:Unit) j=>[.pointer (some ⟨B,0,none⟩),vp,.func (.func N.aN) #[] #[.pointer (some ⟨B,0,none⟩),.pointer (some ⟨C,0,none⟩)],.int .i64 b,.pointer (some ⟨D,0,none⟩),.int .i64 i,.pointer (some ⟨D10,0,none⟩),
      .bool (jR x (nth preds b) b&&qZ (vz x (nth preds b)) j),vb,.int .i64 f.blocks.length,.int .i64 b,wp,.int .i64 (nth f.blocks b).phis.length,.int .i64 i,wq,.int .i64 x.ins.length,.int .i64 j])
     (fun _ j h11=>(vw h10).le (vw h11)) x.ins.length ()
     rfl (by omega) (by simp [bm];intro _;rfl) (View.le_refl _) (fun _ _=>rfl) (fun v i h1 hk m=>by simp) ?_ ?_
    ·rintro _ j h11 hltj hle11 K4 hK4
     have cq11:=cq.2.mono hle11
     obtain ⟨u11,hu11,hur11⟩:=cq11.wh rfl (N:=2) rfl hltj
     refine aa fun q hq=>?_
     simp (disch:=omega) [cq11.idxn (N:=2) rfl,hu11 _ (View.le_refl _)]
     refine gL (z:=.agg #[.int .i64 0,.int .i64 0]) (by kernel_rfl) rfl (by kernel_rfl) hur11 (fun _=>by simp) (fun _=>by simp) fun h12 hle12 hsz12 hat12=>?_
     obtain ⟨e0,e1⟩:=Df (hat12 (vw h12) hle12 rfl)
     generalize h11.size=D12 at e0 e1
     rw [hq];clear hq q
     have hle612:=View.le_trans hle610 (View.le_trans hle11 hle12)
     have hp12:=hp6.mono hle612
     have pr12:=pr.mono hle612
     cases hfit:jR x (nth preds b) b&&qZ (vz x (nth preds b)) j with
     | false=>
      simp
      refine hK4 () _ _ rfl ?_ (View.le_trans hle11 hle12)
      rw [tT,←Bool.and_assoc,hfit];rfl
     | true=>
      have hlen:x.ins.length=(nth preds b).length:=by
       simp only [Bool.and_eq_true,jR,decide_eq_true_eq] at hfit
       omega
      simp (disch:=omega) [e0,hp12.idx1 rfl,pc _ hle612,pr12.idx1 rfl,pr12.int (View.le_refl _)]
      refine hK4 () _ _ rfl ?_ (View.le_trans hle11 hle12)
      rw [tT,←Bool.and_assoc,hfit];rfl
    ·rintro _ h11 hle11
     have hfs:(jR x (nth preds b) b&&qZ (vz x (nth preds b)) x.ins.length)=yY x (nth preds b) b:=rfl
     rw [hfs]
     simp
     rw [hy];clear hy y
     refine aa fun y hy=>?_
     simp (disch:=omega)
     have hle011:=View.le_trans hle06 (View.le_trans hle610 hle11)
     refine dv (by kernel_rfl) gJ ?_ ?_
     rotate_left
     ·rintro _ _ ⟨e,rfl,rfl⟩
      exact ⟨.inl rfl,hKp _ _ ⟨_,her (her9 (by rw [if_neg (by rw [e];simp)])),rfl,hle011⟩⟩
     rintro _ h11 ⟨efit,rfl⟩
     rw [if_pos efit] at hst9
     have her9' : ∀ {t},uAll (fun j=>useS f.params m idom (nth x.ins j).val (nth x.ins j).frm (-1-i) (nth f.blocks (nth x.ins j).frm.toNat).ins.length b) x.ins.length = .error t→blkU f m idom preds b = .error t:=fun e=>her9 (by rw [if_pos efit];exact e)
     have hlen:x.ins.length=(nth preds b).length:=by
      simp only [Bool.and_eq_true,yY,jR,decide_eq_true_eq] at efit
      omega
     have hfrm : ∀ j,j<x.ins.length→0≤(nth x.ins j).frm∧(nth x.ins j).frm<f.blocks.length:=fun j hj=>by
      have h1:=AF.1 (Bool.and_eq_true _ _▸efit:_∧_).2 j hj
      simp only [vz,decide_eq_true_eq] at h1
      rw [h1]
      exact hin b _ (bu (by omega))
     rw [hy];clear hy y
     have cq11:=cq.2.mono hle11
     simp [ae hle11 cq.1,cq11.len]
     refine aV [1,5,7,8,9,10,11,54,55,56,62,63,64,110,111,112] (fun (_:Unit) j=>[.pointer (some ⟨B,0,none⟩),vp,.func (.func N.aN) #[] #[.pointer (some ⟨B,0,none⟩),.pointer (some ⟨C,0,none⟩)],.int .i64 b,.pointer (some ⟨D,0,none⟩),.int .i64 i,.pointer (some ⟨D10,0,none⟩),
       vb,.int .i64 f.blocks.length,.int .i64 b,wp,.int .i64 (nth f.blocks b).phis.length,.int .i64 i,wq,.int .i64 x.ins.length,.int .i64 j])
      (fun _ j h12=>(vw h11).le (vw h12)∧uAll (fun j=>useS f.params m idom (nth x.ins j).val (nth x.ins j).frm (-1-i) (nth f.blocks (nth x.ins j).frm.toNat).ins.length b) j = .ok ()) x.ins.length ()
      rfl (by omega) rfl ⟨View.le_refl _,rfl⟩ (fun _ _=>rfl) (fun v i h1 hk m=>by simp) ?_ ?_
     ·rintro _ j h12 hltj ⟨hle12,hpre12⟩ K4 hK4
      have hst12:=ju hpre12
      have cq12:=cq11.mono hle12
      obtain ⟨u12,hu12,hur12⟩:=cq12.wh rfl (N:=2) rfl hltj
      refine aa fun q hq=>?_
      simp (disch:=omega) [cq12.idxn (N:=2) rfl,hu12 _ (View.le_refl _)]
      refine gL (z:=.agg #[.int .i64 0,.int .i64 0]) (by kernel_rfl) rfl (by kernel_rfl) hur12 (fun _=>by simp) (fun _=>by simp) fun h13 hle13 hsz13 hat13=>?_
      obtain ⟨e0,e1⟩:=Df (hat13 (vw h13) hle13 rfl)
      generalize h12.size=D13 at e0 e1
      have hf:=hfrm j hltj
      generalize hxj:nth x.ins j=w at e0 e1 hst12 hf
      rw [hq];clear hq q
      have hle613:=View.le_trans hle610 (View.le_trans hle11 (View.le_trans hle12 hle13))
      have k13:=k6.ext hle613
      have rb13:=k13.rb.mono bX
      have h513:=ae hle613 h56
      obtain ⟨ul,hul⟩:=(((rb13.at (i:=w.frm.toNat) (by omega)).part BlkD.lE)).sl
      rw [←ak (by omega)] at hul
      have hul1:an (vw h13) (((slA vb).add (w.frm.toNat*6)).add 1)=some ul:=hul.1
      refine cM (vw h13) (View.le_refl _) ?_
      simp (disch:=omega) [e0,e1,h513,ae bX k13.c1,rb13.idxn (N:=6) rfl,hul1,hul.2.len]
      refine qO (ops:=[.tmp 118,.tmp 120,.tmp 122,.tmp 133,.tmp 134]) rfl (by kernel_rfl) (zj k13 h513 (ae hle613 hvd) (hd6.mono hle613)) ?_ ?_
      ·rintro _ h14 ⟨e,hle14⟩
       exact hK4 () _ _ rfl rfl ⟨View.le_trans hle12 (View.le_trans hle13 hle14),by rw [hst12];exact e⟩
      ·rintro _ h14 ⟨t,e,rfl,hle14⟩
       exact ⟨.inr fun _=>trivial,hKp _ _ ⟨t,her (her9' (my hpre12 hltj (by rw [hxj];exact e))),rfl,View.le_trans hle06 (View.le_trans hle613 hle14)⟩⟩
     ·rintro _ h12 ⟨hle12,hpre12⟩
      simp
      exact hK3 () _ _ rfl rfl ⟨View.le_trans hle9 (View.le_trans hle10 (View.le_trans hle11 hle12)),by rw [hst9];exact hpre12⟩
   ·rintro _ h9 ⟨hle9,hpre9⟩
    have hbu:blkU f m idom preds b=andE (uAll (insU f m idom b) (nth f.blocks b).ins.length) (endU f m idom b):=by rw [blkU,hpre9];rfl
    rw [hbu] at hst her
    simp
    rw [hz];clear hz z
    refine aa fun z hz=>?_
    have bi9:=bi.2.mono hle9
    simp [ae hle9 bi.1,bi9.len]
    refine aV [1,5,7,8,9,54,55,56,139,140,141] (fun (_:Unit) i=>[.pointer (some ⟨B,0,none⟩),vp,.func (.func N.aN) #[] #[.pointer (some ⟨B,0,none⟩),.pointer (some ⟨C,0,none⟩)],.int .i64 b,.pointer (some ⟨D,0,none⟩),vb,.int .i64 f.blocks.length,.int .i64 b,wi,.int .i64 (nth f.blocks b).ins.length,.int .i64 i])
     (fun _ i h10=>(vw h9).le (vw h10)∧uAll (insU f m idom b) i = .ok ()) (nth f.blocks b).ins.length ()
     rfl (by omega) rfl ⟨View.le_refl _,rfl⟩ (fun _ _=>rfl) (fun v i h1 hk m=>by simp) ?_ ?_
    ·rintro _ i h10 hlti ⟨hle10,hpre10⟩ K3 hK3
     have hst10:=ju hpre10
     have her10 : ∀ {t},insU f m idom b i = .error t→uAll (blkU f m idom preds) f.blocks.length = .error t:=fun e=>her (by rw [my hpre10 hlti e];rfl)
     have bi10:=bi9.mono hle10
     obtain ⟨u10,hu10,hur10⟩:=bi10.wh rfl (N:=5) rfl hlti
     refine aa fun y hy=>?_
     simp (disch:=omega) [bi10.idxn (N:=5) rfl,hu10 _ (View.le_refl _)]
     refine gL (z:=.agg #[.int .i64 0,.int .i64 0,.int .i64 0,.slice none 0 0,.int .i32 0]) (by kernel_rfl) rfl (by kernel_rfl) hur10 (fun _=>by simp) (fun _=>by simp) fun h11 hle11 hsz11 hat11=>?_
     obtain ⟨_,_,_,wq,cq⟩:=rS (hat11 (vw h11) hle11 rfl)
     rw [insU] at hst10 her10
     generalize nth (nth f.blocks b).ins i=x at cq hst10 her10
     generalize h10.size=D11 at cq
     have bq:=cq.2.bound
     rw [hy];clear hy y
     simp [cq.1,cq.2.len]
     refine aV [1,5,7,8,9,17,54,55,56,139,140,141,147,148,149] (fun (_:Unit) j=>[.pointer (some ⟨B,0,none⟩),vp,.func (.func N.aN) #[] #[.pointer (some ⟨B,0,none⟩),.pointer (some ⟨C,0,none⟩)],.int .i64 b,.pointer (some ⟨D,0,none⟩),.int .i64 i,vb,.int .i64 f.blocks.length,.int .i64 b,wi,.int .i64 (nth f.blocks b).ins.length,.int .i64 i,wq,.int .i64 x.args.length,.int .i64 j])
      (fun _ j h12=>(vw h11).le (vw h12)∧uAll (fun j=>useS f.params m idom (nth x.args j) b i i b) j = .ok ()) x.args.length ()
      rfl (by omega) rfl ⟨View.le_refl _,rfl⟩ (fun _ _=>rfl) (fun v i h1 hk m=>by simp) ?_ ?_
     ·rintro _ j h12 hltj ⟨hle12,hpre12⟩ K4 hK4
      have hst12:=ju hpre12
      have cq12:=cq.2.mono hle12
      have hle612:=View.le_trans hle68 (View.le_trans hle9 (View.le_trans hle10 (View.le_trans hle11 hle12)))
      have k12:=k6.ext hle612
      have h512:=ae hle612 h56
      simp (disch:=omega) [cq12.idx1 rfl,cq12.int (View.le_refl _)]
      refine qO (ops:=[.tmp 154,.tmp 155,.tmp 156,.tmp 157,.tmp 158]) rfl (by kernel_rfl) (zj k12 h512 (ae hle612 hvd) (hd6.mono hle612)) ?_ ?_
      ·rintro _ h14 ⟨e,hle14⟩
       exact hK4 () _ _ rfl rfl ⟨View.le_trans hle12 hle14,by rw [hst12];exact e⟩
      ·rintro _ h14 ⟨t,e,rfl,hle14⟩
       exact ⟨.inl rfl,hKp _ _ ⟨t,her10 (my hpre12 hltj e),rfl,View.le_trans hle06 (View.le_trans hle612 hle14)⟩⟩
     ·rintro _ h12 ⟨hle12,hpre12⟩
      simp
      exact hK3 () _ _ rfl rfl ⟨View.le_trans hle10 (View.le_trans hle11 hle12),by rw [hst10];exact hpre12⟩
    ·rintro _ h10 ⟨hle10,hpre10⟩
     have hbu2:andE (uAll (insU f m idom b) (nth f.blocks b).ins.length) (endU f m idom b)=endU f m idom b:=by rw [hpre10];rfl
     rw [hbu2] at hst her
     rw [endU] at hst her
     simp
     rw [hz];clear hz z
     have ba10:=ba.2.mono (View.le_trans hle9 hle10)
     have ca10:=ae (View.le_trans hle9 hle10) ba.1
     have bi10:=bi9.mono hle10
     have ci10:=ae (View.le_trans hle9 hle10) bi.1
     simp [ca10,ba10.len]
     refine aV [1,5,7,8,9,54,55,56,164,165,166] (fun (_:Unit) j=>[.pointer (some ⟨B,0,none⟩),vp,.func (.func N.aN) #[] #[.pointer (some ⟨B,0,none⟩),.pointer (some ⟨C,0,none⟩)],.int .i64 b,.pointer (some ⟨D,0,none⟩),vb,.int .i64 f.blocks.length,.int .i64 b,wa,.int .i64 (nth f.blocks b).term.args.length,.int .i64 j])
      (fun _ j h12=>(vw h10).le (vw h12)∧uAll (fun j=>useS f.params m idom (nth (nth f.blocks b).term.args j) b (nth f.blocks b).ins.length (nth f.blocks b).ins.length b) j = .ok ()) (nth f.blocks b).term.args.length ()
      rfl (by omega) rfl ⟨View.le_refl _,rfl⟩ (fun _ _=>rfl) (fun v i h1 hk m=>by simp) ?_ ?_
     ·rintro _ j h12 hltj ⟨hle12,hpre12⟩ K4 hK4
      have hst12:=ju hpre12
      have ba12:=ba10.mono hle12
      have bi12:=bi10.mono hle12
      have ci12:=ae hle12 ci10
      have hle612:=View.le_trans hle68 (View.le_trans hle9 (View.le_trans hle10 hle12))
      have k12:=k6.ext hle612
      have h512:=ae hle612 h56
      simp (disch:=omega) [ba12.idx1 rfl,ba12.int (View.le_refl _),ci12,bi12.len]
      refine qO (ops:=[.tmp 171,.tmp 172,.tmp 175,.tmp 178,.tmp 179]) rfl (by kernel_rfl) (zj k12 h512 (ae hle612 hvd) (hd6.mono hle612)) ?_ ?_
      ·rintro _ h14 ⟨e,hle14⟩
       exact hK4 () _ _ rfl rfl ⟨View.le_trans hle12 hle14,by rw [hst12];exact e⟩
      ·rintro _ h14 ⟨t,e,rfl,hle14⟩
       exact ⟨.inl rfl,hKp _ _ ⟨t,her (my hpre12 hltj e),rfl,View.le_trans hle06 (View.le_trans hle612 hle14)⟩⟩
     ·rintro _ h12 ⟨hle12,hpre12⟩
      simp
      exact hK2 () _ _ rfl rfl ⟨View.le_trans hle7 (View.le_trans hle8 (View.le_trans hle9 (View.le_trans hle10 hle12))),by rw [hst];exact hpre12⟩
  ·rintro _ h7 ⟨hle7,hpre⟩
   simp
   exact hK _ _ ⟨hpre,View.le_trans hle06 hle7⟩
end Go.Proofs.YtbkdlhkoiagbbaaGreat
namespace Go.Proofs.YtbkdlhkoiagbbaaGreat
open Go Go.Lft
def Dl (t:Tr):FrameMode:=.panicking [{ v:=.iface T.fA (.agg #[.int .i64 t.1,.int .i64 t.2.1,.int .i64 t.2.2]),recovered:=true }]
theorem C4 {a b c:Nat} {t:Tr} {h:Heap} {ra rb rc:Array Value} {ea eb ec:TypeId} (ha:h[a]? = some (.cells ra ea (0,0))) (hb:h[b]? = some (.cells rb eb (0,0))) (hc:h[c]? = some (.cells rc ec (0,0))) (sa:ra.size=1) (sb:rb.size=1) (sc:rc.size=1)
  (hab:a≠b) (hac:a≠c) (hbc:b≠c):oV Tryz.prog N.bY #[.pointer (some ⟨a,0,none⟩),.pointer (some ⟨b,0,none⟩),.pointer (some ⟨c,0,none⟩)] (.panicking (trV t)) h
   (fun u' h'=>u'=Dl t∧h'[a]? = some (.cells #[.int .i64 t.1] ea (0,0))∧h'[b]? = some (.cells #[.int .i64 t.2.1] eb (0,0))∧h'[c]? = some (.cells #[.int .i64 t.2.2] ec (0,0))∧h.size≤h'.size∧∀ k,k<h.size→k≠a→k≠b→k≠c→h'[k]? = h[k]?):=by
 refine nG (args:=[.pointer (some ⟨a,0,none⟩),.pointer (some ⟨b,0,none⟩),.pointer (some ⟨c,0,none⟩)]) (t:=6) (L:=L.bY.body.tail) (tys:=#[]) follows F.bY Q.bY (by kernel_rfl) (by kernel_rfl) (by kernel_rfl) (Nat.le_of_ble_eq_true (by kernel_rfl)) E.nD (by kernel_rfl) (by kernel_rfl) (Nat.le_of_ble_eq_true (by kernel_rfl)) ?_
 have ala:a<h.size:=(Array.getElem?_eq_some_iff.1 ha).1
 have alb:b<h.size:=(Array.getElem?_eq_some_iff.1 hb).1
 have alc:c<h.size:=(Array.getElem?_eq_some_iff.1 hc).1
 have hrec:jj (.panicking (trV t))=(.iface T.fA (.agg #[.int .i64 t.1,.int .i64 t.2.1,.int .i64 t.2.2]),Dl t):=rfl
 rw [hrec]
 simp [L.bY,LC.tail]
 refine zd (ms:=#[]) (by kernel_rfl) rfl (.inr ⟨_,_,rfl,rfl⟩) ?_
 simp
 refine Bu (d:=(Tryz.prog.underlying T.fA).getD .bool) (by kernel_rfl) (by kernel_rfl) rfl ?_
 simp
 refine jH (n:=3) (z:=.agg #[.int .i64 0,.int .i64 0,.int .i64 0]) (v:=.agg #[.int .i64 t.1,.int .i64 t.2.1,.int .i64 t.2.2]) (by kernel_rfl) rfl (by kernel_rfl) rfl (by simp [Value.oneCell']) (fun _=>by simp) (fun _=>by simp) fun h1 hle1 hs1 hb1=>?_
 generalize hD:h.size=D at hb1 hs1
 obtain ⟨H,hH⟩ : ∃ H:View,H=fun k=>if k=D then h1[k]? else none:=⟨_,rfl⟩
 have hHle : ∀ h2:Heap,h2[D]? = h1[D]?→H.le (vw h2):=fun h2 e k o hk=>by
  rw [hH] at hk;simp only at hk
  split at hk
  ·rename_i e2;subst e2;show h2[_]? = _;rw [e];exact hk
  ·cases hk
 have hHD:H D=some (.cells #[.int .i64 t.1,.int .i64 t.2.1,.int .i64 t.2.2] T.fA (0,0)):=by rw [hH];simp only [if_true];exact hb1
 have d0:an H ⟨D,0,none⟩=some (.int .i64 t.1):=bJ hHD rfl
 have d1:an H ⟨D,1,none⟩=some (.int .i64 t.2.1):=bJ hHD rfl
 have d2:an H ⟨D,2,none⟩=some (.int .i64 t.2.2):=bJ hHD rfl
 refine cM H (hHle h1 rfl) ?_
 simp [d0,d1,d2]
 refine ee (g:=a) (o:=0) (n:=1) (v:=.int .i64 t.1) (by kernel_rfl) rfl rfl rfl (by simp [Value.oneCell']) (hle1 _ _ ha) (by omega) fun h2 hs2 ⟨row2,hr2,he2⟩ ho2=>?_
 refine ⟨hHle h2 (ho2 D (by omega)),?_⟩
 refine ee (g:=b) (o:=0) (n:=1) (v:=.int .i64 t.2.1) (by kernel_rfl) rfl rfl rfl (by simp [Value.oneCell']) ((ho2 b (Ne.symm hab)).trans (hle1 _ _ hb)) (by omega) fun h3 hs3 ⟨row3,hr3,he3⟩ ho3=>?_
 refine ⟨hHle h3 ((ho3 D (by omega)).trans (ho2 D (by omega))),?_⟩
 refine ee (g:=c) (o:=0) (n:=1) (v:=.int .i64 t.2.2) (by kernel_rfl) rfl rfl rfl (by simp [Value.oneCell']) ((ho3 c (Ne.symm hbc)).trans ((ho2 c (Ne.symm hac)).trans (hle1 _ _ hc))) (by omega) fun h4 hs4 ⟨row4,hr4,he4⟩ ho4=>?_
 have one : ∀ {row r:Array Value} {v:Value},v.cells = #[v]→r.size=1→row.toList=r.toList.take 0++v.cells.toList++r.toList.drop (0+1)→row = #[v]:=by
  intro row r v hv hr he
  rw [←Array.toList_inj,he,hv,List.take_zero,List.nil_append,List.drop_eq_nil_of_le (by simp [hr])]
  simp
 rw [one rfl sa he2] at hr2
 rw [one rfl sb he3] at hr3
 rw [one rfl sc he4] at hr4
 refine ⟨?_,?_,hr4,by omega,fun k hk h1' h2' h3'=>?_⟩
 ·rw [ho4 a hac,ho3 a hab];exact hr2
 ·rw [ho4 b hbc];exact hr3
 ·rw [ho4 k h3',ho3 k h2',ho2 k h1']
  exact (hle1 k h[k] (Array.getElem?_eq_getElem (by omega))).trans (Array.getElem?_eq_getElem (by omega)).symm
theorem zo {a b c:Nat} {h:Heap}:oV Tryz.prog N.bY #[.pointer (some ⟨a,0,none⟩),.pointer (some ⟨b,0,none⟩),.pointer (some ⟨c,0,none⟩)] .returning h (fun u' h'=>u' = .returning∧h'=h):=by
 refine nG (args:=[.pointer (some ⟨a,0,none⟩),.pointer (some ⟨b,0,none⟩),.pointer (some ⟨c,0,none⟩)]) (t:=6) (L:=L.bY.body.tail) (tys:=#[]) follows F.bY Q.bY (by kernel_rfl) (by kernel_rfl) (by kernel_rfl) (Nat.le_of_ble_eq_true (by kernel_rfl)) E.nD (by kernel_rfl) (by kernel_rfl) (Nat.le_of_ble_eq_true (by kernel_rfl)) ?_
 have hrec:jj .returning=(.nilIface,.returning):=rfl
 rw [hrec]
 simp [L.bY,LC.tail]
 refine zd (ms:=#[]) (by kernel_rfl) rfl (.inl ⟨rfl,rfl⟩) ?_
 simp
def manyN (f:ah) (k:Nat):Int:=up (fun i n=>n+(((nth f.blocks i).phis.length:Int)+(nth f.blocks i).ins.length)) k f.blocks.length
def A6 (f:ah):Int:=manyN f f.blocks.length
def oL (g:Gr):List Int:=(uN g (g.length*g.length+1)).getD []
def uW (f:ah):Except Tr MW→Except Tr Unit
 | .error t=>.error t
 | .ok m=>p9 f m (oL (ofG f.blocks))
def kH (f:ah):Except Tr Unit:=
 if bw f.params 0 4=false then .error (1,0,0)
 else if f.blocks.length=0 then .error (14,0,0)
 else if ¬(f.blocks.length≤512∧A6 f≤4096) then .error (2,0,0)
 else uW f (kK f (fun _=>none))
def kF (f:ah):Tr:=match kH f with
 | .ok _=>(0,0,0)
 | .error t=>t
theorem FY {f:ah} {k:Nat}:0≤manyN f k:=by
 unfold manyN
 induction k with
 | zero=>simp [up]
 | succ k ih=>rw [up];omega
theorem DF {f:ah} {m m':MW} (h:kK f m = .ok m') : ∀ i,i<f.blocks.length→(nth f.blocks i).term.to.length≤65:=by
 intro i hi
 have key : ∀ n,n≤f.blocks.length→∃ s,upE (blkS f) n m = .ok s:=fun n hn=>by
  cases e:upE (blkS f) n m with
  | ok s=>exact ⟨s,rfl⟩
  | error t=>rw [kK,wR hn e] at h;cases h
 obtain ⟨s,hs⟩:=key i (by omega)
 obtain ⟨s',hs'⟩:=key (i+1) hi
 rw [lI hs,blkS] at hs'
 split at hs'
 ·cases hs'
 ·split at hs'
  ·cases hs'
  ·rw [endS] at hs'
   split at hs'
   ·rename_i hok
    rw [mS] at hok
    split at hok
    ·rename_i sh hsh
     simp only [bw,Bool.and_eq_true,decide_eq_true_eq] at hok
     have:sh.2.2.2≤65:=by
      simp only [fE,putM] at hsh
      repeat' (split at hsh)
      all_goals first | (cases hsh;done) | (cases hsh;decide)
     omega
    ·cases hok
   ·cases hs'
end Go.Proofs.YtbkdlhkoiagbbaaGreat
namespace Go.Proofs.YtbkdlhkoiagbbaaGreat
open Go Go.Lft
theorem Ef {g:Gr} (hg:0<g.length):uN g (g.length*g.length+1)=some (oL g):=by
 obtain ⟨_,_,l,hl,_⟩:=vj hg
 rw [oL,hl];rfl
theorem one_cell {row r:Array Value} {v:Value} (hv:v.cells = #[v]) (hr:r.size=1) (he:row.toList=r.toList.take 0++v.cells.toList++r.toList.drop (0+1)):row = #[v]:=by
 rw [←Array.toList_inj,he,hv,List.take_zero,List.nil_append,List.drop_eq_nil_of_le (by simp [hr])]
 simp
structure SmB (x:BlkD):Prop where
 phis:x.phis.length≤10000
 ins:x.ins.length≤10000
 args:x.term.args.length≤10000
 to:x.term.to.length≤10000
 phi : ∀ i,i<x.phis.length→(nth x.phis i).ins.length≤10000
 inn : ∀ i,i<x.ins.length→(nth x.ins i).args.length≤10000
structure SmF (f:ah):Prop where
 len:f.blocks.length≤10000
 blk : ∀ i,i<f.blocks.length→SmB (nth f.blocks i)
theorem AX {f:ah} {v:Value} {h:Heap} (hv:Rd (vw h) v f) (hsm:SmF f) :
  aD Tryz.prog N.fy #[v] h (fun u h'=>u = .tuple #[.int .i64 (kF f).1,.int .i64 (kF f).2.1,.int .i64 (kF f).2.2]∧(vw h).le (vw h')):=by
 refine oz (args:=[v]) (g:=N.bY) (t:=9) (capops:=#[.tmp 2,.tmp 3,.tmp 4]) (tys:=#[])
  (Mid:=fun ρ hh=>ρ=[(0,v),(1,.pointer (some ⟨h.size,0,none⟩)),(2,.pointer (some ⟨h.size+1,0,none⟩)),(3,.pointer (some ⟨h.size+2,0,none⟩)),(4,.pointer (some ⟨h.size+3,0,none⟩))]∧hh.size=h.size+4∧(vw h).le (vw hh)∧At (vw hh) ⟨h.size,0,none⟩ f∧
   hh[h.size+1]? = some (.cells #[.int .i64 0] T.lN (0,0))∧hh[h.size+2]? = some (.cells #[.int .i64 0] T.int (0,0))∧hh[h.size+3]? = some (.cells #[.int .i64 0] T.int (0,0)))
  follows F.fy B.fy (by kernel_rfl) (by kernel_rfl) (by kernel_rfl) (by kernel_rfl) (by kernel_rfl) (by kernel_rfl) (Nat.le_of_ble_eq_true (by kernel_rfl)) (by kernel_rfl) E.jw (by kernel_rfl) E.gB (by kernel_rfl) R.uh (Nat.le_of_ble_eq_true (by kernel_rfl)) ?_ ?_
 ·simp [L.jw]
  refine iU rfl hv fun h1 e1 hle1 hs1 hat=>?_
  refine fg (z:=.int .i64 0) (by kernel_rfl) ?_
  refine fg (z:=.int .i64 0) (by kernel_rfl) ?_
  refine fg (z:=.int .i64 0) (by kernel_rfl) ?_
  have q1:=bN h1 (.cells (Value.int .i64 0).cells T.lN)
  generalize e2:h1.push (.cells (Value.int .i64 0).cells T.lN)=h2 at q1
  have b2:h2[h1.size]? = some (.cells #[.int .i64 0] T.lN (0,0)):=by rw [←e2];simp
  have s2:h2.size=h1.size+1:=by rw [←e2];simp
  have q2:=bN h2 (.cells (Value.int .i64 0).cells T.int)
  generalize e3:h2.push (.cells (Value.int .i64 0).cells T.int)=h3 at q2
  have b3:h3[h2.size]? = some (.cells #[.int .i64 0] T.int (0,0)):=by rw [←e3];simp
  have s3:h3.size=h2.size+1:=by rw [←e3];simp
  have q3:=bN h3 (.cells (Value.int .i64 0).cells T.int)
  generalize e4:h3.push (.cells (Value.int .i64 0).cells T.int)=h4 at q3
  have b4:h4[h3.size]? = some (.cells #[.int .i64 0] T.int (0,0)):=by rw [←e4];simp
  have s4:h4.size=h3.size+1:=by rw [←e4];simp
  have hsz:h1.size=h.size+1:=hs1
  have e22:h2.size=h.size+2:=by omega
  have e32:h3.size=h.size+3:=by omega
  rw [hsz] at b2
  rw [e22] at b3
  rw [e32] at b4
  rw [e22,e32,hsz]
  simp
  exact ⟨by omega,View.le_trans hle1 (View.le_trans q1 (View.le_trans q2 q3)),hat.mono (View.le_trans q1 (View.le_trans q2 q3)),q3 _ _ (q2 _ _ b2),q3 _ _ b3,b4⟩
 ·rintro ρ hh ⟨rfl,hs,hle,hat,hb1,hb2,hb3⟩
  refine ⟨[.pointer (some ⟨h.size+1,0,none⟩),.pointer (some ⟨h.size+2,0,none⟩),.pointer (some ⟨h.size+3,0,none⟩)],by simp [qh],
   ⟨fun ch h2=>∃ t,kH f = .error t∧ch=trV t∧(vw hh).le (vw h2),fun ρ=>Lft.look ρ 2=some (.pointer (some ⟨h.size+1,0,none⟩))∧Lft.look ρ 3=some (.pointer (some ⟨h.size+2,0,none⟩))∧Lft.look ρ 4=some (.pointer (some ⟨h.size+3,0,none⟩))⟩,?_,?_⟩
  rotate_left
  ·rintro ch ρ2 h2 ⟨t,ht,rfl,hle2⟩ ⟨l2,l3,l4⟩
   refine ⟨_,C4 (hle2 _ _ hb1) (hle2 _ _ hb2) (hle2 _ _ hb3) rfl rfl rfl (by omega) (by omega) (by omega),?_⟩
   rintro u' h3 ⟨rfl,g1,g2,g3,gs,go⟩
   have c1:an (vw h3) ⟨h.size+1,0,none⟩=some (.int .i64 t.1):=bJ (show vw h3 _=_ from g1) rfl
   have c2:an (vw h3) ⟨h.size+2,0,none⟩=some (.int .i64 t.2.1):=bJ (show vw h3 _=_ from g2) rfl
   have c3:an (vw h3) ⟨h.size+3,0,none⟩=some (.int .i64 t.2.2):=bJ (show vw h3 _=_ from g3) rfl
   refine ⟨rfl,[.int .i64 t.1,.int .i64 t.2.1,.int .i64 t.2.2],by simp [R.fy,l2,l3,l4,c1,c2,c3],?_⟩
   refine ⟨by simp [kF,ht],fun b o hb=>?_⟩
   have hlt:=View.lt (View.le_refl (vw h)) hb
   show h3[b]? = _
   have hb2':=hle2 _ _ (hle _ _ hb)
   have hlt2:=View.lt (View.le_refl (vw h2)) hb2'
   rw [go b hlt2 (by omega) (by omega) (by omega)]
   exact hb2'
  ·obtain ⟨cp,vb,cb⟩:=iy hat
   have hbb:=cb.2.bound
   have bad : ∀ {t:Tr} {ch:List PanicEntry} {h2:Heap},kH f = .error t→ch=trV t→(vw hh).le (vw h2)→∃ t,kH f = .error t∧ch=trV t∧(vw hh).le (vw h2):=fun a b c=>⟨_,a,b,c⟩
   simp only [kI,Cu]
   dsimp only [L.gB]
   refine aa fun z hz=>?_
   simp [cp]
   refine af (by kernel_rfl) jt ?_
   rintro _ _ ⟨rfl,rfl⟩
   refine dv (by kernel_rfl) gJ ?_ ?_
   rotate_left
   ·rintro _ _ ⟨e,rfl,rfl⟩
    exact ⟨.inl rfl,bad (by rw [kH,if_pos e]) rfl (View.le_refl _)⟩
   rintro _ hh ⟨e1,rfl⟩
   have e1':¬bw f.params 0 4=false:=by rw [e1];simp
   rw [hz];clear hz z
   refine aa fun z hz=>?_
   simp [cb.1,cb.2.len]
   refine dv (by kernel_rfl) gJ ?_ ?_
   rotate_left
   ·rintro _ _ ⟨e,rfl,rfl⟩
    exact ⟨.inl rfl,bad (by rw [kH,if_neg e1',if_pos (by simpa using e)]) rfl (View.le_refl _)⟩
   rintro _ hh ⟨e2,rfl⟩
   have e2':¬f.blocks.length=0:=by
    intro e;rw [e] at e2;simp at e2
   rw [hz];clear hz z
   refine aa fun z hz=>?_
   simp [cb.1,cb.2.len]
   rw [hz];clear hz z
   refine aa fun z hz=>?_
   simp [cb.1,cb.2.len]
   refine aV [1,2,3,4,5,23,24,25] (fun (_:Unit) k=>[.pointer (some ⟨h.size,0,none⟩),.pointer (some ⟨h.size+1,0,none⟩),.pointer (some ⟨h.size+2,0,none⟩),.pointer (some ⟨h.size+3,0,none⟩),.int .i64 (manyN f k),vb,.int .i64 f.blocks.length,.int .i64 k])
    (fun _ k h1=>(vw hh).le (vw h1)∧manyN f k≤f.blocks.length+k*2000000) f.blocks.length ()
    rfl (by omega) rfl ⟨View.le_refl _,by simp [manyN,up]⟩ (fun _ _=>rfl) (fun v i h1 hk m=>by simp) ?_ ?_
   ·rintro _ k h1 hlt ⟨hle1,hmk⟩ K2 hK2
    have cb1:=cb.2.mono hle1
    obtain ⟨u,hu,hur⟩:=cb1.wh rfl (N:=6) rfl hlt
    refine aa fun y hy=>?_
    simp (disch:=omega) [cb1.idxn (N:=6) rfl,hu _ (View.le_refl _)]
    refine gL (z:=.agg #[.slice none 0 0,.slice none 0 0,.int .i64 0,.slice none 0 0,.slice none 0 0,.int .i32 0]) (by kernel_rfl) rfl (by kernel_rfl) hur (fun _=>by simp) (fun _=>by simp) fun h2 hle2 hsz2 hat2=>?_
    obtain ⟨vp,vi,va,vt,bp,bi,_⟩:=mw (hat2 (vw h2) hle2 rfl)
    have bph:=bp.2.bound
    have bih:=bi.2.bound
    have hm1:manyN f (k+1)=manyN f k+(((nth f.blocks k).phis.length:Int)+(nth f.blocks k).ins.length):=rfl
    have h0:=FY (f:=f) (k:=k)
    rw [hy];clear hy y
    simp [bp.1,bp.2.len,bi.1,bi.2.len]
    have s1:=(hsm.blk k hlt).phis
    have s2:=(hsm.blk k hlt).ins
    have s0:=hsm.len
    rw [b8 (a:=((nth f.blocks k).phis.length:Int)+(nth f.blocks k).ins.length) (by omega) (by omega),b8 (by omega) (by omega)]
    exact hK2 () _ _ rfl (by rw [hm1];rfl) ⟨View.le_trans hle1 hle2,by rw [hm1];omega⟩
   ·rintro _ h1 ⟨hle1,hmk⟩
    simp
    rw [hz];clear hz z
    refine aa fun z hz=>?_
    have cb1:=cb.2.mono hle1
    have cc1:=ae hle1 cb.1
    have cp1:=ae hle1 cp
    simp [cc1,cb1.len]
    have hms:manyN f f.blocks.length=A6 f:=rfl
    rw [hms]
    refine dv (by kernel_rfl) gJ ?_ ?_
    rotate_left
    ·rintro _ _ ⟨e,rfl,rfl⟩
     refine ⟨.inl rfl,bad ?_ rfl hle1⟩
     rw [kH,if_neg e1',if_neg e2',if_pos]
     intro e3
     simp at e;omega
    rintro _ h1 ⟨e3,rfl⟩
    have e3':¬¬(f.blocks.length≤512∧A6 f≤4096):=by
     simp at e3;omega
    have hchk:kH f=uW f (kK f (fun _=>none)):=by rw [kH,if_neg e1',if_neg e2',if_neg e3']
    rw [hz];clear hz z
    refine aa fun z hz=>?_
    simp [Cz cp1 cc1]
    refine oP ?_
    have hle2:=bN h1 (.map #[] 0)
    have hm2:fQ (.int .i64) (h1.push (.map #[] 0)) h1.size (mapE encW fun _=>none):=by rw [uX];exact fQ.none (by simp)
    have hs2:(h1.push (.map #[] 0)).size=h1.size+1:=by simp
    generalize h1.push (.map #[] 0)=h2 at hle2 hm2 hs2
    refine aR (z:=.agg #[.int .i64 0,.slice none 0 0,.map none]) (places:=[(0,2),(2,1)]) (vs:=[(0,.agg #[.int .i64 f.params,vb]),(1,.map (some h1.size))]) (cs:=#[.int .i64 f.params,vb,.map (some h1.size)]) (by kernel_rfl) (by kernel_rfl) (by simp) (by rfl) ?_
    refine lf (v:=.agg #[.int .i64 f.params,vb,.map (some h1.size)]) rfl ?_
    have hle3:=bN h2 (.cells (Value.cells (.agg #[.int .i64 f.params,vb,.map (some h1.size)])) T.ic)
    have hbk:(h2.push (.cells (Value.cells (.agg #[.int .i64 f.params,vb,.map (some h1.size)])) T.ic))[h2.size]? = some (.cells #[.int .i64 f.params,vb,.map (some h1.size)] T.ic (0,0)):=by simp
    have hs3:(h2.push (.cells (Value.cells (.agg #[.int .i64 f.params,vb,.map (some h1.size)])) T.ic)).size=h2.size+1:=by simp
    generalize h2.push (.cells (Value.cells (.agg #[.int .i64 f.params,vb,.map (some h1.size)])) T.ic)=h3 at hle3 hbk hs3
    rw [hz];clear hz z
    have hsk:skip h1.size h3 h2.size=some (.cells #[.int .i64 f.params,vb,.map (some h1.size)] T.ic (0,0)):=by rw [iT (by omega)];exact hbk
    have hle13:=View.le_trans hle2 hle3
    have hle1k:(vw h1).le (skip h1.size h3):=fun b o hb=>by
     have hlt:=View.lt (View.le_refl (vw h1)) hb
     rw [iT (by omega)];exact hle13 b o hb
    have k3:Lk h3 h2.size h1.size vb f (fun _=>none):=⟨bJ hsk rfl,bJ hsk rfl,bJ hsk rfl,cb1.mono hle1k,hm2.ext hle3⟩
    generalize h2.size=Kb at k3
    generalize hr:h1.size=r at k3
    have hkk : ∀ {h':Heap},Kept h3 h' (some r)→(vw hh).le (vw h'):=fun kp b o hb=>by
     have h1b:=hle1 b o hb
     have hlt:=View.lt (View.le_refl (vw h1)) h1b
     have h3b:=hle13 b o h1b
     have hlt3:=View.lt (View.le_refl (vw h3)) h3b
     show _=_
     exact (kp.block b hlt3 (by simp;omega)).trans h3b
    refine aa fun z hz=>?_
    simp
    refine dv (by kernel_rfl) (DY k3) ?_ ?_
    rotate_left
    ·rintro _ h4 ⟨t,ht,rfl,kp4⟩
     exact ⟨.inl rfl,bad (by rw [hchk,ht];rfl) rfl (hkk kp4)⟩
    rintro _ h4 ⟨m4,hm4,k4,kp4⟩
    have hto:=DF hm4
    rw [hm4] at hchk
    have hchk:kH f=p9 f m4 (oL (ofG f.blocks)):=hchk
    rw [hz];clear hz z
    refine aa fun z hz=>?_
    simp
    have hgl:(ofG f.blocks).length=f.blocks.length:=by simp [ofG]
    refine dv (by kernel_rfl) (ES k4 (Nat.le_trans hsm.len (by decide)) (fun i hi=>Nat.le_trans (hto i hi) (by decide)) (Ef (by omega))) ?_ ?_
    rotate_left
    ·rintro _ h5 ⟨t,ht,rfl,hle5⟩
     exact ⟨.inl rfl,bad (by rw [hchk,ht]) rfl (View.le_trans (hkk kp4) hle5)⟩
    rintro _ h5 ⟨hus,hle5⟩
    have hle05:=View.le_trans (hkk kp4) hle5
    rw [hz];clear hz z
    simp
    refine ee (g:=h.size+1) (o:=0) (n:=1) (v:=.int .i64 0) (by kernel_rfl) rfl rfl rfl (by simp [Value.oneCell']) (hle05 _ _ hb1) (by simp) fun h6 hs6 ⟨row6,hr6,he6⟩ ho6=>?_
    refine ee (g:=h.size+2) (o:=0) (n:=1) (v:=.int .i64 0) (by kernel_rfl) rfl rfl rfl (by simp [Value.oneCell']) ((ho6 _ (by omega)).trans (hle05 _ _ hb2)) (by simp) fun h7 hs7 ⟨row7,hr7,he7⟩ ho7=>?_
    refine ee (g:=h.size+3) (o:=0) (n:=1) (v:=.int .i64 0) (by kernel_rfl) rfl rfl rfl (by simp [Value.oneCell']) ((ho7 _ (by omega)).trans ((ho6 _ (by omega)).trans (hle05 _ _ hb3))) (by simp) fun h8 hs8 ⟨row8,hr8,he8⟩ ho8=>?_
    rw [one_cell rfl rfl he6] at hr6
    rw [one_cell rfl rfl he7] at hr7
    rw [one_cell rfl rfl he8] at hr8
    refine ⟨_,zo,?_⟩
    rintro u' h9 ⟨rfl,rfl⟩
    have c1:an (vw h9) ⟨h.size+1,0,none⟩=some (.int .i64 0):=bJ (show vw h9 _=_ from (ho8 _ (by omega)).trans ((ho7 _ (by omega)).trans hr6)) rfl
    have c2:an (vw h9) ⟨h.size+2,0,none⟩=some (.int .i64 0):=bJ (show vw h9 _=_ from (ho8 _ (by omega)).trans hr7) rfl
    have c3:an (vw h9) ⟨h.size+3,0,none⟩=some (.int .i64 0):=bJ (show vw h9 _=_ from hr8) rfl
    refine ⟨rfl,[.int .i64 0,.int .i64 0,.int .i64 0],by simp [R.fy,c1,c2,c3],?_⟩
    have htold:kF f=(0,0,0):=by rw [kF,hchk,hus]
    refine ⟨by simp [htold],fun b o hb=>?_⟩
    have hlt:=View.lt (View.le_refl (vw h)) hb
    show h9[b]? = _
    rw [ho8 b (by omega),ho7 b (by omega),ho6 b (by omega)]
    exact hle05 _ _ (hle _ _ hb)
theorem DR {f:ah} {v:Value} {h:Heap} (hv:Rd (vw h) v f) (hsm:SmF f) :
  aD Tryz.prog N.fu #[v] h (fun u h'=>u = .bool (decide ((kF f).1=0))∧(vw h).le (vw h')):=by
 refine ao (args:=[v]) follows F.fu E.fu (Nat.le_of_ble_eq_true (by kernel_rfl)) fun K hK=>?_
 simp [L.fu]
 refine iU rfl hv fun h1 e1 hle1 hs1 hat=>?_
 obtain ⟨u,hu,hur⟩:=hat.au rfl
 have hu':Un.ev (vw h1) (.au 2) (.pointer (some ⟨h.size,0,none⟩))=some u:=hu
 simp [hu']
 refine af (by kernel_rfl) (AX hur hsm) ?_
 rintro _ h2 ⟨rfl,hle2⟩
 simp
 exact hK _ _ ⟨rfl,View.le_trans hle1 hle2⟩
end Go.Proofs.YtbkdlhkoiagbbaaGreat
namespace Go.Proofs.YtbkdlhkoiagbbaaGreat
open Go Go.Lft
structure Th where
 blk:Int
 place:Int
 mks:List Int
 tks:List Int
 deriving Inhabited
def phiT (f:ah) (b i:Nat):Th:=⟨b,-1-i,[(nth (nth f.blocks b).phis i).dst],(nth (nth f.blocks b).phis i).ins.map InD.val⟩
def insT (f:ah) (b i:Nat):Th:=⟨b,i,aY (nth (nth f.blocks b).ins i),(nth (nth f.blocks b).ins i).args⟩
def endT (f:ah) (b:Nat):Th:=⟨b,(nth f.blocks b).ins.length,[],(nth f.blocks b).term.args⟩
def thB (f:ah) (b:Nat):List Th:=rows (phiT f b) (nth f.blocks b).phis.length++rows (insT f b) (nth f.blocks b).ins.length++[endT f b]
def thTo (f:ah) (n:Nat):List Th:=up (fun b l=>l++thB f b) n []
def aG (f:ah):List Th:=thTo f f.blocks.length
theorem eH {f:ah} {n:Nat}:thTo f (n+1)=thTo f n++thB f n:=rfl
end Go.Proofs.YtbkdlhkoiagbbaaGreat
namespace Go.Proofs.YtbkdlhkoiagbbaaGreat
open Go Go.Lft
def mo (top n:Int):Int:=if bw n 0 8191 then (if top<n+1 then n+1 else top) else top
def Ii (top:Int) (t:Th):Int:=t.mks.foldl mo top
def xh (ps:Int):Int:=if 8192<(if ps<0 then 0 else ps) then 8192 else (if ps<0 then 0 else ps)
def topS (f:ah):Int:=(aG f).foldl Ii (xh f.params)
theorem oy {α β:Type} (I:β→Prop) {f:β→α→β} (hf : ∀ x a,I x→I (f x a)) : ∀ (l:List α) (x:β),I x→I (l.foldl f x)
 | [],_,h=>h
 | a::l,x,h=>oy I hf l _ (hf x a h)
structure Nv (D:Nat) (T:TypeId) (x:Int) (W:View) (h:Heap):Prop where
 le:W.le (vw h)
 av:W D=none
 cell:h[D]? = some (.cells #[.int .i64 x] T (0,0))
theorem Nv.lt {D:Nat} {T:TypeId} {x:Int} {W:View} {h:Heap} (k:Nv D T x W h):D<h.size:=(Array.getElem?_eq_some_iff.1 k.cell).1
theorem Nv.ext {D:Nat} {T:TypeId} {x:Int} {W:View} {h h':Heap} (k:Nv D T x W h) (hle:(vw h).le (vw h')):Nv D T x (grow W h h') h':=
 ⟨kZ (View.le_trans k.le hle),by rw [nT k.lt];exact k.av,hle _ _ k.cell⟩
structure Us (D:Nat) (vo:Value) (l:List Int) (W:View) (h:Heap):Prop where
 le:W.le (vw h)
 av:Av W vo
 own:OwnT nothing h T.int vo l
 box:an W ⟨D,0,none⟩=some vo
theorem Us.ext {D:Nat} {vo:Value} {l:List Int} {W:View} {h h':Heap} (k:Us D vo l W h) (hle:(vw h).le (vw h')):Us D vo l (grow W h h') h':=
 ⟨kZ (View.le_trans k.le hle),k.av.grow fun b hb=>k.own.lt hb,k.own.ext hle,ae (cu k.le) k.box⟩
theorem Us.now {D:Nat} {vo:Value} {l:List Int} {W:View} {h:Heap} (k:Us D vo l W h):SlRd (vw h) vo l:=k.own.now cS
end Go.Proofs.YtbkdlhkoiagbbaaGreat
namespace Go.Proofs.YtbkdlhkoiagbbaaGreat
open Go Go.Lft
theorem tH {β:Type} {x:Nat→β} {n:Nat} {y:β}:y∈rows x n↔∃ i,i<n∧y=x i:=by
 simp only [rows,List.mem_map,List.mem_range]
 exact ⟨fun ⟨i,h,e⟩=>⟨i,h,e.symm⟩,fun ⟨i,h,e⟩=>⟨i,h,e.symm⟩⟩
theorem bz {f:ah} {n:Nat} {t:Th}:t∈thTo f n↔∃ b,b<n∧t∈thB f b:=by
 induction n with
 | zero=>simp [thTo,up]
 | succ n ih=>
  rw [eH,List.mem_append,ih]
  constructor
  ·rintro (⟨b,h1,h2⟩ | h)
   ·exact ⟨b,by omega,h2⟩
   ·exact ⟨n,by omega,h⟩
  ·rintro ⟨b,h1,h2⟩
   rcases Nat.lt_or_ge b n with h | h
   ·exact .inl ⟨b,h,h2⟩
   ·rw [show b=n by omega] at h2;exact .inr h2
theorem bP {f:ah} {b:Nat} {t:Th}:t∈thB f b↔(∃ i,i<(nth f.blocks b).phis.length∧t=phiT f b i)∨(∃ i,i<(nth f.blocks b).ins.length∧t=insT f b i)∨t=endT f b:=by
 simp only [thB,List.mem_append,tH,List.mem_singleton,or_assoc]
theorem yL {f:ah} (hsm:SmF f) : ∀ {n:Nat},n≤f.blocks.length→(thTo f n).length≤n*20001
 | 0,_=>by simp [thTo,up]
 | n+1,h=>by
  have ih:=yL hsm (n:=n) (by omega)
  have s:=hsm.blk n (by omega)
  have sp:=s.phis
  have si:=s.ins
  rw [eH,List.length_append,thB]
  simp only [List.length_append,lP,List.length_singleton]
  omega
end Go.Proofs.YtbkdlhkoiagbbaaGreat
namespace Go.Proofs.YtbkdlhkoiagbbaaGreat
open Go Go.Lft
theorem mV {d:InsD} {v:Value} {h:Heap} (hd:Rd (vw h) v d):aD Tryz.prog N.fh #[v] h (fun u h'=>(vw h).le (vw h')∧SlRd (fresh h h') u (aY d)∧(d.op=16→u = .slice none 0 0)):=by
 refine ao (args:=[v]) follows F.fh E.fh (Nat.le_of_ble_eq_true (by kernel_rfl)) fun K hK=>?_
 simp [L.fh]
 refine iU rfl hd fun h1 _ hle1 hsz1 hat=>?_
 obtain ⟨c0,c1,c2,va,ca⟩:=rS hat
 have r1:=(hat.part InsD.km).rng
 have r2:=(hat.part InsD.uQ).rng
 simp [c0]
 refine ⟨fun e1=>hK _ _ ⟨hle1,by simpa [aY,e1] using gh,fun _=>rfl⟩,fun e1=>⟨fun e2=>?_,fun e2=>?_⟩⟩
 ·simp [c1,c2]
  refine kU (X:=nothing) (ds:=[d.dst,d.two]) (vs:=[.int .i64 d.dst,.int .i64 d.two]) rfl El.a8 (by simp) ⟨dN.2 ⟨rfl,r1⟩,dN.2 ⟨rfl,r2⟩,trivial⟩ cS rfl (by omega) fun u h2 hle2 hsz2 hu _=>?_
  exact hK _ _ ⟨View.le_trans hle1 hle2,by simpa [aY,e2] using hu _ cS (by unfold fresh;rw [if_neg (by omega)]),fun e=>absurd e e1⟩
 ·simp [c1]
  refine kU (X:=nothing) (ds:=[d.dst]) (vs:=[.int .i64 d.dst]) rfl El.a8 (by simp) ⟨dN.2 ⟨rfl,r1⟩,trivial⟩ cS rfl (by omega) fun u h2 hle2 hsz2 hu _=>?_
  exact hK _ _ ⟨View.le_trans hle1 hle2,by simpa [aY,e1,e2] using hu _ cS (by unfold fresh;rw [if_neg (by omega)]),fun e=>absurd e e1⟩
def pO (op n:Int):Bool:=if op=1 then decide (n=0) else if op=15 then decide (n=1) else if op=17 then decide (n≤4) else decide (n=2)
def jm (t:dQ):Bool:=
 if t.kind=1 then decide ((t.args.length:Int)=0)&&decide ((t.to.length:Int)=1)
 else if t.kind=2 then decide ((t.args.length:Int)=1)&&decide ((t.to.length:Int)=2)
 else if t.kind=3 then decide ((t.args.length:Int)=1)&&decide ((2:Int)≤t.to.length)&&decide ((t.to.length:Int)≤65)
 else if t.kind=4 then decide ((t.args.length:Int)≤1)&&decide ((t.to.length:Int)=0)
 else if t.kind=5 then decide ((t.args.length:Int)=0)&&decide ((t.to.length:Int)=0) else false
def aw (f:ah) (b:Int):List Int:=sift (fun a=>decide (b∈(nth f.blocks a).term.to)) (fun a=>(a:Int)) f.blocks.length
theorem sf {H:View} {v:Value} {l:List BlkD} (h:SlRd H v l) {i:Nat} (hi:i<l.length) : ∃ u,Sl H ((((slA v).add (i*6)).add 2).add 2) u (nth l i).term.to:=by
 rw [ak hi]
 exact ((((h.at hi).part BlkD.lj).part dQ.Af)).sl
theorem rA {f:ah} {b:Int} {v:Value} {h:Heap} (hv:Rd (vw h) v f) (hn:f.blocks.length≤1000000) :
  aD Tryz.prog N.du #[v,.int .i64 b] h (fun u h'=>(vw h).le (vw h')∧SlRd (fresh h h') u (aw f b)):=by
 refine ao (args:=[v,.int .i64 b]) follows F.du E.du (Nat.le_of_ble_eq_true (by kernel_rfl)) fun K hK=>?_
 dsimp only [L.du]
 refine aa fun z hz=>?_
 simp
 refine iU rfl hv fun h1 _ hle1 hsz1 hat=>?_
 obtain ⟨_,vb,cb⟩:=iy hat
 generalize h.size=B at cb
 rw [hz];clear hz z
 refine aa fun z hz=>?_
 simp
 refine rZ (α:=Int) El.a8 fun h2 hle2 hsz2 own2=>?_
 have m0:=Mine.empty (V:=nothing) (W:=nothing) (View.le_refl (vw h1)) hle2 cS (Old.nothing _ _) own2
 generalize Value.slice (some ⟨h1.size,0,none⟩) 0 0=v0 at m0
 have cb2:=cb.2
 have cc2:=cb.1
 rw [hz];clear hz z
 refine aa fun z hz=>?_
 simp
 refine bZ [1,2,5,6] (fun (r:Value) k=>[.int .i64 b,.pointer (some ⟨B,0,none⟩),r,.int .i64 k]) (fun r k h3=>Mine nothing h1 h3 nothing T.int r (sift (fun a=>decide (b∈(nth f.blocks a).term.to)) (fun a=>(a:Int)) k)) f.blocks.length v0
  rfl (by omega) rfl m0 (fun _ _=>rfl) (fun v k h3 hk m=>by simp [ae m.old cc2,(cb2.mono m.old).len]) ?_ ?_
 ·rintro r k h3 hlt m K2 hK2
  have hle3:=m.old
  have cb3:=cb2.mono hle3
  obtain ⟨w,hw⟩:=sf cb3 hlt
  have hwb:=hw.2.bound
  have hsl:=fG (p:=fun a=>decide (b∈(nth f.blocks a).term.to)) (x:=fun a=>(a:Int)) k
  refine aa fun y hy=>?_
  simp (disch:=omega) [ae hle3 cc2,cb3.idxn (N:=6) rfl,hw.1]
  rw [hy];clear hy y
  simp
  refine bZ [1,2,5,6,7,8] (fun (_:Unit) j=>[.int .i64 b,.pointer (some ⟨B,0,none⟩),r,.int .i64 k,w,.int .i64 j]) (fun _ j h4=>h4=h3∧∀ i,i<j→nth (nth f.blocks k).term.to i≠b) (nth f.blocks k).term.to.length ()
   rfl (by omega) rfl ⟨rfl,fun i hi=>by omega⟩ (fun _ _=>rfl) (fun v j h4 hk m=>by simp [hw.2.len]) ?_ ?_
  ·rintro _ j h3 hltj ⟨rfl,hpre⟩ K3 hK3
   simp (disch:=omega) [hw.2.idx1 rfl,hw.2.int (View.le_refl _)]
   refine ⟨fun e=>?_,fun e=>hK3 () _ _ rfl rfl ⟨rfl,fun i hi=>?_⟩⟩
   ·have hmem:b∈(nth f.blocks k).term.to:=e▸bu hltj
    refine m.push (d:=(k:Int)) El.a8 (by simp<;>rfl) (mJ (by omega) (by omega)) (by omega) (by omega) (fun _=>by simp) (fun _=>by simp) fun u v' h5 m'=>?_
    exact hK2 v' _ _ rfl rfl (by rw [gX (by simpa using hmem)];exact m')
   ·rcases Nat.lt_or_ge i j with h | h
    ·exact hpre i h
    ·have:i=j:=by omega
     subst this;exact e
  ·rintro _ h3 ⟨rfl,hpre⟩
   have hmem:¬b∈(nth f.blocks k).term.to:=fun hm=>by
    obtain ⟨i,hi,e⟩:=List.getElem_of_mem hm
    exact hpre i hi (by rw [ak hi];exact e)
   simp
   exact hK2 r _ _ rfl rfl (by rw [fY (by simpa using hmem)];exact m)
 ·rintro r h3 m
  simp
  rw [hz];clear hz z
  simp
  exact hK _ _ ⟨View.le_trans hle1 m.old,m.fresh.mono (mg hle1)⟩
end Go.Proofs.YtbkdlhkoiagbbaaGreat
namespace Go.Proofs.YtbkdlhkoiagbbaaGreat
open Go Go.Lft
theorem FU {H:View} {u:Value} {d:PhiD} (h:Rd H u d) : ∃ vi,u = .agg #[.int .i64 d.dst,vi]∧I64 d.dst∧SlRd H vi d.ins:=by
 obtain ⟨cs,rfl,c1,r1,e1,⟨rfl,hd⟩,vi,h2,h3⟩:=h
 exact ⟨vi,by rw [←Array.toList_inj.1 ((by rw [e1,h2];rfl):cs.toList = #[Value.int .i64 d.dst,vi].toList)],hd,h3⟩
theorem A5 {H:View} {u:Value} {d:InsD} (h:Rd H u d) : ∃ va,u = .agg #[.int .i64 d.op,.int .i64 d.dst,.int .i64 d.two,va,.int .i32 d.imm.v]∧(I64 d.op∧I64 d.dst∧I64 d.two∧-2147483648≤d.imm.v∧d.imm.v≤2147483647)∧SlRd H va d.args:=by
 obtain ⟨cs,rfl,c1,r1,e1,⟨rfl,h1⟩,c2,r2,e2,⟨rfl,h2⟩,c3,r3,e3,⟨rfl,h3⟩,c4,r4,e4,⟨va,rfl,h4⟩,h5,h6⟩:=h
 subst e4 e3 e2
 exact ⟨va,by rw [←Array.toList_inj.1 ((by rw [e1,h5];rfl):cs.toList = #[Value.int .i64 d.op,.int .i64 d.dst,.int .i64 d.two,va,.int .i32 d.imm.v].toList)],⟨h1,h2,h3,h6⟩,h4⟩
theorem xX {H:View} {d:Int} {v:Value} {l:List InD} (h1:I64 d) (h2:SlRd H v l):Rd H (.agg #[.int .i64 d,v]) (PhiD.mk d l):=⟨_,rfl,[.int .i64 d],[v],rfl,⟨rfl,h1⟩,v,rfl,h2⟩
theorem xU {H:View} {op d two:Int} {imm:I32} {v:Value} {l:List Int} (h:I64 op∧I64 d∧I64 two∧-2147483648≤imm.v∧imm.v≤2147483647) (h2:SlRd H v l):Rd H (.agg #[.int .i64 op,.int .i64 d,.int .i64 two,v,.int .i32 imm.v]) (InsD.mk op d two l imm):=
 ⟨_,rfl,[.int .i64 op],_,rfl,⟨rfl,h.1⟩,[.int .i64 d],_,rfl,⟨rfl,h.2.1⟩,[.int .i64 two],_,rfl,⟨rfl,h.2.2.1⟩,[v],_,rfl,⟨v,rfl,h2⟩,rfl,h.2.2.2⟩
theorem sG {H:View} {vp vi va vt:Value} {p:List PhiD} {i:List InsD} {a t:List Int} {kd:Int} {imm:I32} (h1:SlRd H vp p) (h2:SlRd H vi i) (h3:SlRd H va a) (h4:SlRd H vt t) (h5:I64 kd) (h6:-2147483648≤imm.v∧imm.v≤2147483647):Rd H (.agg #[vp,vi,.int .i64 kd,va,vt,.int .i32 imm.v]) (BlkD.mk p i ⟨kd,a,t,imm⟩):=
 ⟨_,rfl,[vp],_,rfl,⟨vp,rfl,h1⟩,[vi],_,rfl,⟨vi,rfl,h2⟩,[.int .i64 kd],_,rfl,⟨rfl,h5⟩,[va],_,rfl,⟨va,rfl,h3⟩,[vt],_,rfl,⟨vt,rfl,h4⟩,rfl,h6⟩
theorem nY {α β:Type} [Rep α] [Rep β] {H:View} {v:Value} {l:List α} {l2:List β} (h:SlRd H v l) (hn:Rep.n α=Rep.n β) (hl:l.length=l2.length) (hc : ∀ i (h1:i<l.length) (h2:i<l2.length) cs,Rep.rd H cs l[i]→Rep.rd H cs l2[i]):SlRd H v l2:=by
 obtain ⟨a,cap,rfl,h1,h2,h3⟩:=h
 refine ⟨a,cap,by rw [hl],by omega,by omega,?_⟩
 rcases h3 with rfl | ⟨ad,rfl,hs,hat⟩
 ·left;exact List.eq_nil_of_length_eq_zero (by rw [←hl];rfl)
 ·refine .inr ⟨ad,rfl,hs,fun i hi=>?_⟩
  obtain ⟨cs,g1,g2⟩:=hat i (by omega)
  rw [←hn]
  exact ⟨cs,g1,hc i (by omega) hi cs g2⟩
theorem qb {H:View} {u:Value} {f:ah} (h:Rd H u f) : ∃ vb,u = .agg #[.int .i64 f.params,vb]∧I64 f.params∧SlRd H vb f.blocks:=by
 obtain ⟨cs,rfl,c1,r1,e1,⟨rfl,h1⟩,vb,h2,h3⟩:=h
 exact ⟨vb,by rw [←Array.toList_inj.1 ((by rw [e1,h2];rfl):cs.toList = #[Value.int .i64 f.params,vb].toList)],h1,h3⟩
theorem gz {a:Value} {v:Int} (ha:a.oneCell'=true) : ∀ c∈[Value.int .i64 v,a],c.oneCell'=true:=by
 intro c hc
 simp only [List.mem_cons,List.not_mem_nil,or_false] at hc
 rcases hc with rfl | rfl<;>first | rfl | exact ha
abbrev Q3:=Cat Int (Cat Int Int)
instance:Inhabited Q3:=⟨⟨0,0,0⟩⟩
end Go.Proofs.YtbkdlhkoiagbbaaGreat
namespace Go.Lft
open Go
theorem yt : ∀ (l:List Value) (k off:Nat) (A:Array Value),off+k+l.length≤A.size→
  ((l.zipIdx k).foldl (fun (cs:Array Value) (p:Value × Nat)=>cs.setIfInBounds (off+p.2) p.1) A).toList=A.toList.take (off+k)++l++A.toList.drop (off+k+l.length)
 | [],k,off,A,_=>by simp
 | x::l,k,off,A,h=>by
  simp only [List.length_cons] at h
  rw [List.zipIdx_cons,List.foldl_cons,yt l (k+1) off _ (by simp;omega)]
  have hk:off+k<A.toList.length:=by simp;omega
  simp only [Array.toList_setIfInBounds,List.length_cons]
  rw [show off+(k+1)=off+k+1 by omega,List.take_succ_eq_append_getElem (by simpa using hk),List.take_set_of_le (Nat.le_refl _),List.getElem_set_self,List.drop_set_of_lt (by omega),show off+k+1+l.length=off+k+(l.length+1) by omega]
  simp
theorem qV {s:Nat} : ∀ (vs:List Value) (k:Nat) (A:Array Value),(∀ v∈vs,v.cells.size=s)→(k+vs.length)*s=A.size→
  ∃ B,Instr.fill (fun j=>some (j*s,s)) A ((vs.zipIdx k).map fun p=>(p.2,p.1))=some B∧B.toList=A.toList.take (k*s)++vs.flatMap fun v=>v.cells.toList
 | [],k,A,_,hk=>⟨A,rfl,by rw [List.take_of_length_le (by simp at hk;simp [hk])];simp⟩
 | v::vs,k,A,hv,hk=>by
  have hc:=hv v (List.mem_cons_self ..)
  have e1:(k+(vs.length+1))*s=(k+1+vs.length)*s:=by rw [show k+(vs.length+1)=k+1+vs.length by omega]
  have e2:(k+1+vs.length)*s=k*s+s+vs.length*s:=by rw [Nat.add_mul,Nat.add_mul,Nat.one_mul]
  simp only [List.length_cons] at hk
  have e3:(k+1)*s=k*s+s:=by rw [Nat.add_mul,Nat.one_mul]
  have hF:(v.cells.zipIdx.foldl (fun (cs:Array Value) (x:Value × Nat)=>cs.setIfInBounds (k*s+x.2) x.1) A).toList=A.toList.take (k*s)++v.cells.toList++A.toList.drop (k*s+s):=by
   rw [←Array.foldl_toList,Array.toList_zipIdx]
   have:=yt v.cells.toList 0 (k*s) A (by simp [hc];omega)
   simpa [hc] using this
  obtain ⟨B,h1,h2⟩:=qV vs (k+1) (v.cells.zipIdx.foldl (fun (cs:Array Value) (x:Value × Nat)=>cs.setIfInBounds (k*s+x.2) x.1) A) (fun u hu=>hv u (List.mem_cons_of_mem _ hu)) (by
   rw [←Array.length_toList,hF]
   simp [hc];omega)
  refine ⟨B,?_,?_⟩
  ·simp only [List.zipIdx_cons,List.map_cons,Instr.fill,hc]
   rw [if_neg (by simp;omega)]
   exact h1
  ·rw [h2,hF,e3,List.flatMap_cons,List.take_append_of_le_length (by simp [hc];omega),List.take_of_length_le (by simp [hc];omega),List.append_assoc]
theorem ta {s:Nat} : ∀ (vs:List Value) (i:Nat) (hi:i<vs.length),(∀ v∈vs,v.cells.size=s)→((vs.flatMap fun v=>v.cells.toList).drop (i*s)).take s=vs[i].cells.toList
 | v::vs,0,_,hv=>by
  have hc:=hv v (List.mem_cons_self ..)
  simp only [Nat.zero_mul,List.drop_zero,List.flatMap_cons,List.getElem_cons_zero]
  rw [List.take_append_of_le_length (by simp [hc]),List.take_of_length_le (by simp [hc])]
 | v::vs,i+1,hi,hv=>by
  have hc:=hv v (List.mem_cons_self ..)
  have:=ta vs i (by simpa using hi) fun u hu=>hv u (List.mem_cons_of_mem _ hu)
  rw [List.flatMap_cons,show (i+1)*s=v.cells.toList.length+i*s by rw [Nat.add_mul];simp [hc];omega,←List.drop_drop,List.drop_left]
  simpa using this
theorem ET {po:OP} {α:Type} [Rep α] {P:Program} {t e n:Nat} {ty:TypeId} {bytes:Nat} {z:Value} {ps:Array (Nat × Operand)} {us:List (Nat × Value)} {vs:List Value} {ds:List α} {h:Heap} {K:Value→Heap→Prop} (hT:et P t e (Rep.n α) bytes z)
  (hp:ps.map (fun p=>(p.1,asg us p.2))=((vs.zipIdx 0).map fun p=>(p.2,p.1)).toArray) {X:View} (hr:kV X vs ds) (hn:ds.length=n) (hb:n*Rep.n α≤16777216) (hb2:n≤16777216)
  (hk : ∀ u h',(vw h).le (vw h')→h'.size=h.size+1→(∀ Y:View,X.le Y→Y h.size=h'[h.size]?→SlRd Y u ds)→u.ownBlock=some h.size→K u h'):step P (.buildSlice t n ps) ty us h K:=by
 have hl:=hr.len
 have hcs : ∀ v∈vs,v.cells.size=Rep.n α:=fun v hv=>by
  obtain ⟨i,hi,rfl⟩:=List.getElem_of_mem hv
  exact (kM (hr.get i hi (by omega))).2.1
 obtain ⟨B,h1,h2⟩:=qV (s:=Rep.n α) vs 0 ((Array.range (n*Rep.n α)).map (z.cells[· % z.cells.size]!)) hcs (by simp;rw [hl,hn])
 have hB:B=(vs.flatMap fun v=>v.cells.toList).toArray:=by rw [←Array.toList_inj,h2];simp
 refine rV hT hb hp h1 ?_
 have hle:=bN h (.cells B e)
 refine hk _ _ hle (by simp) (fun Y hY hYb=>⟨some ⟨h.size,0,none⟩,n,by rw [hn],by omega,by omega,.inr ⟨_,rfl,rfl,fun i hi=>?_⟩⟩) rfl
 have hi2:i<vs.length:=by omega
 have hrd:=kM (hr.get i hi2 hi)
 rw [bj rfl]
 refine ⟨vs[i].cells.toList,⟨B,e,(0,0),rfl,by rw [hYb];simp,?_⟩,Rep.mono hY hrd.1⟩
 rw [hB,Nat.zero_add]
 have:=ta vs i hi2 hcs
 rw [Array.length_toList,hrd.2.1]
 exact this
end Go.Lft
namespace Go.Lft
open Go Go.MapKept
def two (a b:Int):Value:=.agg #[.int .i64 a,.int .i64 b]
theorem xj {a b c d:Int}:two a b=two c d↔a=c∧b=d:=by simp [two]
structure Tw (P:Program) (k t:TypeId):Prop where
 hk:P.underlying k=some (.array 2 t)
 ht:P.underlying t=some (.int .i64)
 hs:P.cellsOf t=1
section
variable {P:Program} {k t:TypeId} {w:World}
theorem kb (q:Tw P k t) {a b:Int} {i:Nat} {v:Value} (hi:(#[Value.int .i64 a,.int .i64 b])[i]? = some v):(Go.part t #[.int .i64 a,.int .i64 b] i).run P w = .ok v w:=
 run_part_plain w (by simp [Program.plainKey,q.ht]) hi
theorem oN (q:Tw P k t) {e:Bool} {a b:Int} {n:Nat}:(Instr.checkKey e (n+2) k (two a b)).run P w = .ok () w:=by
 obtain ⟨i,hi⟩:=info_of_underlying q.ht
 unfold Instr.checkKey two
 simp only [Sem.run_bind,run_underlying q.hk,Result.andThen_ok]
 simp only [Std.Legacy.Range.forIn_eq_forIn_range',Std.Legacy.Range.size,Nat.sub_zero,Nat.add_one_sub_one,Nat.div_one]
 have h0:=kb (w:=w) q (a:=a) (b:=b) (i:=0) (v:=.int .i64 a) rfl
 have h1:=kb (w:=w) q (a:=a) (b:=b) (i:=1) (v:=.int .i64 b) rfl
 have hc : ∀ x:Int,(Instr.checkKey e (n+1) t (.int .i64 x)).run P w = .ok () w:=fun x=>MapKept.run_checkKey (d:=.int .i64) q.ht (kT (j:=x)) e n
 simp [List.range',Go.run_sizeOf w hi,q.hs,h0,h1,hc,Result.andThen]
theorem sW (q:Tw P k t) {a b c d:Int}:(Op.equal k (two a b) (two c d)).run P w = .ok (decide (a=c∧b=d)) w:=by
 obtain ⟨i,hi⟩:=info_of_underlying q.ht
 unfold Op.equal two
 rw [show Op.maxDepth=9998+1+1 from rfl,run_equalIn_array w _ _ _ q.hk hi,q.hs]
 have h0:=kb (w:=w) q (a:=a) (b:=b) (i:=0) (v:=.int .i64 a) rfl
 have h1:=kb (w:=w) q (a:=a) (b:=b) (i:=1) (v:=.int .i64 b) rfl
 have g0:=kb (w:=w) q (a:=c) (b:=d) (i:=0) (v:=.int .i64 c) rfl
 have g1:=kb (w:=w) q (a:=c) (b:=d) (i:=1) (v:=.int .i64 d) rfl
 have he : ∀ x y:Int,(Op.equalIn (9998+1) t (.int .i64 x) (.int .i64 y)).run P w = .ok (x == y) w:=fun x y=>run_equalIn_int w 9998 t .i64 .i64 x y q.ht
 by_cases e1:a=c
 ·subst e1
  by_cases e2:b=d
  ·subst e2;simp [List.range,List.range.loop,Op.eqItems,h0,h1,he,Result.andThen]
  ·simp [List.range,List.range.loop,Op.eqItems,h0,h1,g0,g1,he,e2,Result.andThen]
 ·simp [List.range,List.range.loop,Op.eqItems,h0,h1,g0,g1,he,e1,Result.andThen]
structure Map2 (h:Heap) (r:Nat) (f:Int→Int→Option Value):Prop where
 ex : ∃ es clock,h[r]? = some (.map es clock)∧(∀ x∈es.toList,∃ a b,x.key=two a b)∧(∀ (i j:Nat) (x y:MapEntry),es[i]? = some x→es[j]? = some y→x.key=y.key→i=j)∧∀ a b v,(∃ x∈es.toList,x.key=two a b∧x.val=v)↔f a b=some v
theorem Map2.lt {h:Heap} {r:Nat} {f} (m:Map2 h r f):r<h.size:=by
 obtain ⟨es,c,h1,_⟩:=m.ex
 exact (Array.getElem?_eq_some_iff.1 h1).1
theorem Map2.same {h h':Heap} {r:Nat} {f} (m:Map2 h r f) (e:h'[r]? = h[r]?):Map2 h' r f:=by
 obtain ⟨es,c,h1,h2⟩:=m.ex
 exact ⟨es,c,by rw [e];exact h1,h2⟩
theorem Map2.ext {h h':Heap} {r:Nat} {f} (m:Map2 h r f) (hle:(vw h).le (vw h')):Map2 h' r f:=by
 obtain ⟨es,c,h1,h2⟩:=m.ex
 exact ⟨es,c,hle _ _ h1,h2⟩
theorem Map2.none {h:Heap} {r:Nat} (hr:h[r]? = some (.map #[] 0)):Map2 h r fun _ _=>.none:=
 ⟨#[],0,hr,by simp,by simp,by simp⟩
theorem Ga (q:Tw P k t) {a b:Int} : ∀ (l:List MapEntry) (i:Nat),(∀ x∈l,∃ a b,x.key=two a b)→
  ((Instr.findAsking k (two a b) l i).run P w = .ok .none w∧∀ x∈l,x.key≠two a b)∨∃ j e,(Instr.findAsking k (two a b) l i).run P w = .ok (some (i+j,e.val)) w∧l[j]? = some e∧e.key=two a b
 | [],_,_=>.inl ⟨by simp [Instr.findAsking],by simp⟩
 | e::es,i,h=>by
  obtain ⟨c,d,hcd⟩:=h e (.head _)
  by_cases hx:a=c∧b=d
  ·refine .inr ⟨0,e,?_,rfl,by rw [hcd,xj];exact ⟨hx.1.symm,hx.2.symm⟩⟩
   simp [Instr.findAsking,hcd,sW q,hx,Result.andThen]
  ·have hne:e.key≠two a b:=fun g=>hx (by rw [hcd,xj] at g;exact ⟨g.1.symm,g.2.symm⟩)
   have hs:(Instr.findAsking k (two a b) (e::es) i).run P w=(Instr.findAsking k (two a b) es (i+1)).run P w:=by
    simp [Instr.findAsking,hcd,sW q,hx,Result.andThen]
   rcases Ga q es (i+1) (fun x hx=>h x (.tail _ hx)) with ⟨h1,h2⟩ | ⟨j,e',h1,h2,h3⟩
   ·refine .inl ⟨by rw [hs,h1],fun x hx=>?_⟩
    cases hx with
    | head=>exact hne
    | tail _ hx=>exact h2 x hx
   ·exact .inr ⟨j+1,e',by rw [hs,h1];congr 3;omega,by simpa using h2,h3⟩
theorem vK (q:Tw P k t) {a b:Int} {l:List MapEntry} (h : ∀ x∈l,∃ a b,x.key=two a b) :
  ((Instr.findKey k (two a b) l).run P w = .ok .none w∧∀ x∈l,x.key≠two a b)∨∃ j e,(Instr.findKey k (two a b) l).run P w = .ok (some (j,e.val)) w∧l[j]? = some e∧e.key=two a b:=by
 cases l with
 | nil=>exact .inl ⟨by simp [Instr.findKey,run_underlying q.hk,Instr.findNow,Result.andThen],by simp⟩
 | cons x l=>
  have hf:Instr.findNow (.array 2 t) (two a b) (x::l) 0 = .none:=by simp [Instr.findNow,Instr.sameNow,two]
  have he:(Instr.findKey k (two a b) (x::l)).run P w=(Instr.findAsking k (two a b) (x::l) 0).run P w:=by simp [Instr.findKey,run_underlying q.hk,hf,Result.andThen]
  rw [he]
  simpa using Ga q (a:=a) (b:=b) (x::l) 0 h
end
section
variable {po:OP} {pp:PP} {P:Program} {k t e:TypeId} {ty mt:TypeId} {us:List (Nat × Value)} {h:Heap} {K:Value→Heap→Prop} {r:Nat} {f:Int→Int→Option Value}
theorem yu {x y:Operand} {a b:Int} {z:Value} (q:Tw P k t) (ht:P.underlying mt=some (.map k e)) (hz:(P.info? e).map (·.zero)=some (some z)) (hx:asg us x = .map (some r)) (hy:asg us y=two a b) (m:Map2 h r f)
  (hk:K (.tuple #[(f a b).getD z,.bool (f a b).isSome]) h):step P (.lookup mt x y true) ty us h K:=by
 obtain ⟨es,c,h1,h2,h3,h4⟩:=m.ex
 simp only [Option.map_eq_some_iff] at hz
 obtain ⟨i,hi,hz⟩:=hz
 refine dD (dr fun w hw=>⟨_,w,?_,Same.refl _,by rw [hw];exact hk⟩)
 have hz':(zeroValue e).run P w = .ok z w:=by simp [zeroValue,typeInfo,hi,hz]
 rw [←hw] at h1
 simp only [bM,execOp,hx,hy]
 have hc : ∀ b',(Instr.checkKey b' 10000 k (two a b)).run P w = .ok () w:=fun b'=>oN q (n:=9998)
 rcases vK (w:=w) q (a:=a) (b:=b) h2 with ⟨g1,g2⟩ | ⟨j,x,g1,g2,g3⟩
 ·have hf:f a b = .none:=by
   cases hfu:f a b with
   | none=>rfl
   | some v=>obtain ⟨x,hx,e1,_⟩:=(h4 a b v).2 hfu;exact absurd e1 (g2 x hx)
  simp [Instr.lookup,run_underlying ht,MapKept.run_getObj_map h1,hc,g1,Result.andThen,hf,hz']
 ·have hf:f a b=some x.val:=(h4 a b x.val).1 ⟨x,List.mem_of_getElem? g2,g3,rfl⟩
  simp [Instr.lookup,run_underlying ht,MapKept.run_getObj_map h1,hc,g1,Result.andThen,hf]
theorem Ft {x y p:Operand} {a b:Int} {v:Value} (q:Tw P k t) (ht:P.underlying mt=some (.map k e)) (hx:asg us x = .map (some r)) (hy:asg us y=two a b) (hp:asg us p=v) (m:Map2 h r f) (hn:f a b = .none)
  (hk : ∀ h':Heap,h'.size=h.size→(∀ b,b≠r→h'[b]? = h[b]?)→Map2 h' r (fun c d=>if c=a∧d=b then some v else f c d)→K undef h'):step P (.mapUpdate mt x y p) ty us h K:=by
 obtain ⟨es,c,h1,h2,h3,h4⟩:=m.ex
 refine dD (lG fun w hw=>?_)
 subst hw
 have hc : ∀ b',(Instr.checkKey b' 10000 k (two a b)).run P w = .ok () w:=fun b'=>oN q (n:=9998)
 have hoth:=(MapKept.heap_set (o':=.map (es.push { key:=two a b,val:=v,born:=c }) (c+1)) h1)
 rcases vK (w:=w) q (a:=a) (b:=b) h2 with ⟨g1,g2⟩ | ⟨j,x,g1,g2,g3⟩
 ·refine ⟨{ w with heap:=w.heap.setIfInBounds r (.map (es.push { key:=two a b,val:=v,born:=c }) (c+1)) },?_,Same.pH rfl rfl rfl (by simp) h1 (by simp) (fun k _ hne=>hoth.2 k hne),hk _ (by simp) hoth.2 ⟨_,_,hoth.1,?_,?_,?_⟩⟩
  ·simp only [bM,execOp,hx,hy,hp]
   simp [Instr.mapUpdate,run_underlying ht,MapKept.run_getObj_map h1,hc,g1,MapKept.run_setObj_map _ h1,Result.andThen]
  ·intro x hx
   simp only [Array.toList_push,List.mem_append,List.mem_singleton] at hx
   rcases hx with hx | rfl
   ·exact h2 x hx
   ·exact ⟨a,b,rfl⟩
  ·intro i j x y hi hj hxy
   rw [Array.getElem?_push] at hi hj
   by_cases ei:i=es.size<;>by_cases ej:j=es.size
   ·omega
   ·rw [if_pos ei] at hi;rw [if_neg ej] at hj
    cases hi
    exact absurd hxy.symm (g2 y (by have:=List.mem_of_getElem? (l:=es.toList) (i:=j) (by simpa using hj);exact this))
   ·rw [if_neg ei] at hi;rw [if_pos ej] at hj
    cases hj
    exact absurd hxy (g2 x (by have:=List.mem_of_getElem? (l:=es.toList) (i:=i) (by simpa using hi);exact this))
   ·rw [if_neg ei] at hi;rw [if_neg ej] at hj
    exact h3 i j x y hi hj hxy
  ·intro c' d' p
   constructor
   ·rintro ⟨x,hx,e1,e2⟩
    simp only [Array.toList_push,List.mem_append,List.mem_singleton] at hx
    rcases hx with hx | rfl
    ·rw [if_neg (fun e=>g2 x hx (by rw [e1,e.1,e.2]))]
     exact (h4 c' d' p).1 ⟨x,hx,e1,e2⟩
    ·simp only [xj] at e1 e2
     rw [if_pos ⟨e1.1.symm,e1.2.symm⟩,e2]
   ·intro hp
    by_cases hcd:c'=a∧d'=b
    ·rw [if_pos hcd] at hp;cases hp
     exact ⟨{ key:=two a b,val:=v,born:=c },by simp,by simp [hcd.1,hcd.2],rfl⟩
    ·rw [if_neg hcd] at hp
     obtain ⟨x,hx,e⟩:=(h4 c' d' p).2 hp
     exact ⟨x,by simp [show x∈es from by simpa using hx],e⟩
 ·have:=(h4 a b x.val).1 ⟨x,List.mem_of_getElem? g2,g3,rfl⟩
  rw [hn] at this;cases this
end
theorem Owns.turn {W:View} {h h':Heap} {o:Own} {r:Nat} {x x':Obj} (w:Owns W h o) (hr:W r=some x) (hx : ∀ c T fz,x≠.cells c T fz) (hr':h'[r]? = some x') (hs:h'.size=h.size) (ho : ∀ k,k≠r→h'[k]? = h[k]?):Owns (W.set r x') h' o:=by
 have hle:W.eG.le (W.set r x'):=fun b y hb=>by
  unfold View.set
  split
  ·rename_i e
   subst e
   unfold View.eG at hb
   rw [hr] at hb
   cases x<;>first | (exact absurd rfl (hx _ _ _)) | cases hb
  ·exact View.xV _ _ hb
 have hne : ∀ {k i b},o k=some i→i.v.ownBlock=some b→b≠r:=fun hk hb e=>by have:=w.av _ _ hk _ hb;rw [e,hr] at this;cases this
 refine ⟨fun b y hb=>?_,fun k i hk=>?_,fun k i hk b hb=>?_,w.dj⟩
 ·unfold View.set at hb
  split at hb
  ·rename_i e;subst e;cases hb;exact hr'
  ·rename_i e;show h'[b]? = _;rw [ho b e];exact w.wle b y hb
 ·have h1:=w.own k i hk
  have h2:@OwnT i.α i.rep (W.set r x') h i.e i.v i.l:=let ⟨b,xs,h1,h2⟩:=h1;⟨b,xs,h1,fun j hj=>i.rep.mono hle (i.rep.eG (h2 j hj))⟩
  exact @OwnT.same i.α i.rep _ _ _ _ _ _ h2 fun b hb=>ho b (hne hk hb)
 ·unfold View.set;rw [if_neg (hne hk hb)];exact w.av k i hk b hb
end Go.Lft
namespace Go.Proofs.YtbkdlhkoiagbbaaGreat
open Go Go.Lft
theorem qD {β:Type} {p:β→Bool} {l:List β} {k:Nat} {x:β} (h:l[k]? = some x):(l.take (k+1)).filter p=(l.take k).filter p++if p x then [x] else []:=by
 rw [List.take_add_one,h,List.filter_append];simp [List.filter_cons]
end Go.Proofs.YtbkdlhkoiagbbaaGreat
namespace Go.Proofs.YtbkdlhkoiagbbaaGreat
open Go Go.Lft
def nj (g:Gr) (e:Int × Int):Bool:=decide (1<(nth (cc g) e.1.toNat).length)&&decide (1<(nth (cf g) e.2.toNat).length)
def fN (g:Gr):List (Int × Int):=(eQ g).filter (nj g)
theorem rq {g:Gr} {vg:Value} {h:Heap} (hg:SlRd (vw h) vg g) (hs:Sm g) :
  aD Tryz.prog N.dH #[vg] h (fun v h'=>(vw h).le (vw h')∧SlRd (fresh h h') v (fN g)):=by
 refine rB (args:=[vg]) follows F.dH E.dH (Nat.le_of_ble_eq_true (by kernel_rfl)) fun K hK=>?_
 have hel:=oU hs
 have hs1:=hs.1
 have hcl:=gj (g:=g)
 have hpl:(cf g).length=g.length:=by rw [cf,kG];simp
 simp [L.dH]
 refine af (by kernel_rfl) (sO hg hs) ?_
 rintro vr h1 ⟨W1,m1⟩
 have hle1:=m1.old
 have hr:=m1.now
 refine af (by kernel_rfl) (sP (hg.mono hle1) hs) ?_
 rintro vp h2 ⟨hle2,hp⟩
 have hp:=hp.mono (eY _ _)
 have hr:=hr.mono hle2
 refine fg (z:=.slice none 0 0) (by kernel_rfl) ?_
 refine fg (z:=.slice none 0 0) (by kernel_rfl) ?_
 have hR0:((h2.push (.cells (Value.slice none 0 0).cells T.cJ)).push (.cells (Value.slice none 0 0).cells T.cJ))[h2.size]? = some (.cells #[.slice none 0 0] T.cJ (0,0)):=by rw [Array.getElem?_push,if_neg (by simp),Array.getElem?_push_size];rfl
 have hP0:((h2.push (.cells (Value.slice none 0 0).cells T.cJ)).push (.cells (Value.slice none 0 0).cells T.cJ))[h2.size+1]? = some (.cells #[.slice none 0 0] T.cJ (0,0)):=by rw [show h2.size+1=(h2.push (.cells (Value.slice none 0 0).cells T.cJ)).size by simp];exact Array.getElem?_push_size
 have hle3:(vw h2).le (vw ((h2.push (.cells (Value.slice none 0 0).cells T.cJ)).push (.cells (Value.slice none 0 0).cells T.cJ))):=View.le_trans (bN _ _) (bN _ _)
 have hsz3:((h2.push (.cells (Value.slice none 0 0).cells T.cJ)).push (.cells (Value.slice none 0 0).cells T.cJ)).size=h2.size+2:=by simp
 simp only [Array.size_push]
 generalize (h2.push (.cells (Value.slice none 0 0).cells T.cJ)).push (.cells (Value.slice none 0 0).cells T.cJ)=h3 at hR0 hP0 hle3 hsz3
 obtain ⟨c1,o1⟩:=hr.cells
 obtain ⟨c2,o2⟩:=hp.cells
 refine ee (g:=h2.size) (o:=0) (n:=1) (v:=vr) (by kernel_rfl) (by simp) (by simp) (by rw [c1];rfl) (by rw [c1];simpa using o1) hR0 (by simp) fun h4 hsz4 ⟨row,hR4,he⟩ hoth4=>?_
 have hrow:row = #[vr]:=by rw [←Array.toList_inj,he,c1];rfl
 rw [hrow] at hR4
 refine ee (g:=h2.size+1) (o:=0) (n:=1) (e:=T.cJ) (cur:=#[.slice none 0 0]) (v:=vp) (by kernel_rfl) (by simp) (by simp) (by rw [c2];rfl) (by rw [c2];simpa using o2) (by rw [hoth4 _ (by omega)];exact hP0) (by simp) fun h5 hsz5 ⟨row2,hP5,he2⟩ hoth5=>?_
 have hrow2:row2 = #[vp]:=by rw [←Array.toList_inj,he2,c2];rfl
 rw [hrow2] at hP5
 have hR5:h5[h2.size]? = some (.cells #[vr] T.cJ (0,0)):=by rw [hoth5 _ (by omega)];exact hR4
 have hle5:(vw h2).le (vw h5):=fun b o hb=>by
  have hlt:=View.lt (View.le_refl (vw h2)) hb
  show h5[b]? = _
  rw [hoth5 b (by omega),hoth4 b (by omega)]
  exact hle3 b o hb
 refine fg (z:=.slice none 0 0) (by kernel_rfl) ?_
 refine af (by kernel_rfl) yS ?_
 rintro _ _ ⟨rfl,rfl⟩
 rw [hg.cells.1]
 have hle6:(vw h5).le (vw ((h5.push (.cells (Value.slice none 0 0).cells T.iX)).push (.cells #[vg] T.cJ))):=View.le_trans (bN _ _) (bN _ _)
 have hB6:((h5.push (.cells (Value.slice none 0 0).cells T.iX)).push (.cells #[vg] T.cJ))[h5.size]? = some (.cells #[.slice none 0 0] T.iX (0,0)):=by rw [Array.getElem?_push,if_neg (by simp),Array.getElem?_push_size];rfl
 have hG6:((h5.push (.cells (Value.slice none 0 0).cells T.iX)).push (.cells #[vg] T.cJ))[h5.size+1]? = some (.cells #[vg] T.cJ (0,0)):=by rw [show h5.size+1=(h5.push (.cells (Value.slice none 0 0).cells T.iX)).size by simp];exact Array.getElem?_push_size
 simp only [Array.size_push]
 generalize (h5.push (.cells (Value.slice none 0 0).cells T.iX)).push (.cells #[vg] T.cJ)=h6 at hle6 hB6 hG6
 have h5W:(vw h5).le (skip h5.size h6):=FR hle6 (View.db (View.le_refl _) (Nat.le_refl _))
 have h2W:=View.le_trans hle5 h5W
 have h0W:(vw h).le (skip h5.size h6):=View.le_trans (View.le_trans hle1 hle2) h2W
 have hp6:an (skip h5.size h6) ⟨h5.size+1,0,none⟩=some vg:=bJ (c:=#[vg]) (T:=T.cJ) (fz:=(0,0)) (by rw [iT (by omega)];exact hG6) rfl
 have hcR:an (skip h5.size h6) ⟨h2.size,0,none⟩=some vr:=bJ (h5W _ _ hR5) rfl
 have hcP:an (skip h5.size h6) ⟨h2.size+1,0,none⟩=some vp:=bJ (h5W _ _ hP5) rfl
 have hrW:=hr.mono h2W
 have hpW:=hp.mono h2W
 have hWle:(skip h5.size h6).le (vw h6):=bX
 have hWB:skip h5.size h6 h5.size=none:=Bt
 generalize skip h5.size h6=W0 at h5W h2W h0W hp6 hcR hcP hrW hpW hWle hWB
 obtain ⟨rv,hrv⟩:=hrW.rows
 obtain ⟨pv,hpv⟩:=hpW.rows
 refine tY (enc:=zh) (all:=eQ g) (gf:=N.bL) (caps:=[.pointer (some ⟨h5.size+1,0,none⟩)]) W0 W0 (fun e k W h'=>e=none∧∃ v,Bx W h' h5.size T.iX T.kh v (((eQ g).take k).filter (nj g)))
  rfl (by kernel_rfl) (qX (hg.mono h0W) hp6 hs) (fun _=>rfl) (View.le_refl _) (fun e k=>⟨fun ⟨_,rv,r⟩=>r.wle,fun ⟨a,rv,r⟩ _ h1 h2 _=>⟨a,rv,r.move h1 h2⟩⟩) ⟨rfl,_,Bx.start hWle hWB hB6⟩
  (fun x h1=>by simp [zh,cL];rfl) ?_ ?_ ?_
 ·rintro k e W h7 hag hk ⟨_,v,r⟩ K2 hK2 _
  have he:=lF (List.mem_of_getElem? hk)
  have hk1:k<(eQ g).length:=(List.getElem?_eq_some_iff.1 hk).1
  have hfl:(((eQ g).take k).filter (nj g)).length≤k:=by
   have:=List.length_filter_le (nj g) ((eQ g).take k)
   rw [List.length_take] at this
   omega
  have hst:=qD (p:=nj g) hk
  have hW0W:W0.le W:=fun b o hb=>by rw [hag b (View.lt hWle hb)];exact hb
  have hWh:=View.le_trans hW0W r.wle
  obtain ⟨cr,rr⟩:=hrv e.1.toNat (by omega)
  obtain ⟨cp,rp⟩:=hpv e.2.toNat (by omega)
  have hcE:nj g e=(decide (1<(nth (cc g) e.1.toNat).length)&&decide (1<(nth (cf g) e.2.toNat).length)):=rfl
  by_cases hc1:1<(nth (cc g) e.1.toNat).length
  ·by_cases hc2:1<(nth (cf g) e.2.toNat).length
   ·rw [decide_eq_true hc1,decide_eq_true hc2] at hcE
    simp (disch:=omega) [ae hWh hcR,ae hWh hcP,hrW.idx1 rfl,hpW.idx1 rfl,cr _ hWh,cp _ hWh,rr.len,rp.len,show (1:Int)<((nth (cc g) e.1.toNat).length:Int) by omega,show (1:Int)<((nth (cf g) e.2.toNat).length:Int) by omega,dT,r.cell]
    refine aR (z:=.agg #[.int .i64 0,.int .i64 0]) (places:=[(0,1),(1,1)]) (vs:=[(0,.int .i64 e.1),(1,.int .i64 e.2)]) (cs:=#[.int .i64 e.1,.int .i64 e.2]) (by kernel_rfl) (by kernel_rfl) (by simp) rfl ?_
    refine r.push (d:=e) El.iX (by kernel_rfl) (by simp<;>rfl) (rT.2 ⟨rfl,⟨by omega,by omega⟩,by omega,by omega⟩) (by omega) (by omega) (fun _=>by simp) (fun _=>by simp) (fun _ _=>by simp) (fun _ _=>by simp) fun u v' h6 r6=>hK2 _ _ ⟨rfl,v',?_⟩
    rw [hst,hcE];exact r6
   ·rw [decide_eq_true hc1,decide_eq_false hc2] at hcE
    simp (disch:=omega) [ae hWh hcR,ae hWh hcP,hrW.idx1 rfl,hpW.idx1 rfl,cr _ hWh,cp _ hWh,rr.len,rp.len,show (1:Int)<((nth (cc g) e.1.toNat).length:Int) by omega,show ¬(1:Int)<((nth (cf g) e.2.toNat).length:Int) by omega,dT]
    refine hK2 _ _ ⟨rfl,v,?_⟩
    rw [hst,hcE];simpa using r
  ·rw [decide_eq_false hc1] at hcE
   simp (disch:=omega) [ae hWh hcR,ae hWh hcP,hrW.idx1 rfl,hpW.idx1 rfl,cr _ hWh,cp _ hWh,rr.len,rp.len,show ¬(1:Int)<((nth (cc g) e.1.toNat).length:Int) by omega,dT]
   refine hK2 _ _ ⟨rfl,v,?_⟩
   rw [hst,hcE];simpa using r
 ·rintro W h7 hag ⟨_,v,r⟩
  rw [List.take_of_length_le (Nat.le_refl _)] at r
  have hW0W:W0.le W:=fun b o hb=>by rw [hag b (View.lt hWle hb)];exact hb
  simp [r.cell]
  intro h8 hsw
  have hWW:=View.le_trans h0W hW0W
  exact ⟨_,rfl,hK _ _ ⟨hsw.ext (View.le_trans hWW r.wle),hsw.rd (r.fresh hWW)⟩⟩
 ·rintro e k W h1 hag ⟨hne,_⟩
  cases hne
end Go.Proofs.YtbkdlhkoiagbbaaGreat
namespace Go.Proofs.YtbkdlhkoiagbbaaGreat
open Go Go.Lft
section
variable {g:Gr}
theorem ru:fN g=iN g:=by
 unfold fN iN
 rw [lC]
 have key : ∀ n,n≤g.length→(gN (fun a=>cQ g a) n).filter (nj g)=up (fun a l=>l++jZ g (dC g) a) n []:=by
  intro n
  induction n with
  | zero=>exact fun _=>rfl
  | succ n ih=>
   intro hn
   rw [fW,List.filter_append,ih (by omega),up]
   congr 1
   rw [jZ,jx,List.filter_map]
   have e1:cQ g n=(List.range (cQ g n).length).map fun i=>nth (cQ g n) i:=by
    refine List.ext_getElem (by simp) fun i h1 h2=>?_
    simp [ak h1]
   conv=>lhs;rw [e1]
   rw [List.filter_map,List.map_map]
   have e2:(List.range (cQ g n).length).filter ((nj g∘fun b=>((n:Int),b))∘fun i=>nth (cQ g n) i)=(List.range (cQ g n).length).filter (rL g (dC g) n):=by
    refine List.filter_congr fun i hi=>?_
    simp only [Function.comp,nj,rL,mU,Int.toNat_natCast]
    have hcn:=kv (g:=g) (a:=n) (by omega)
    rw [Bool.eq_iff_iff]
    simp only [Bool.and_eq_true,decide_eq_true_eq,hcn]
    omega
   rw [e2]
   rfl
 exact key g.length (Nat.le_refl _)
theorem lk {e:Int × Int}:e∈fN g↔cW g e.1 e.2=true∧1<(cQ g e.1).length∧1<(nth (dC g) e.2.toNat).length:=by
 unfold fN
 rw [List.mem_filter,BI]
 constructor
 ·rintro ⟨h1,h2⟩
  have hr:=dU.1 h1
  simp only [nj,mU,Bool.and_eq_true,decide_eq_true_eq] at h2
  have hc:=kv (g:=g) (a:=e.1.toNat) (by omega)
  rw [Int.toNat_of_nonneg hr.1.1] at hc
  rw [hc] at h2
  exact ⟨h1,h2⟩
 ·rintro ⟨h1,h2⟩
  have hr:=dU.1 h1
  have hc:=kv (g:=g) (a:=e.1.toNat) (by omega)
  rw [Int.toNat_of_nonneg hr.1.1] at hc
  refine ⟨h1,?_⟩
  simp only [nj,mU,Bool.and_eq_true,decide_eq_true_eq,hc]
  exact h2
theorem ry {f:Nat→List Int} (hf : ∀ a,(f a).Nodup) : ∀ n,(gN f n).Nodup
 | 0=>by simp [gN]
 | n+1=>by
  rw [fW]
  refine List.nodup_append.2 ⟨ry hf n,?_,?_⟩
  ·exact List.Pairwise.map _ (fun x y h e=>h (Prod.mk.inj e).2) (hf n)
  ·intro x hx y hy
   rw [gN,List.mem_flatMap] at hx
   obtain ⟨a,ha,hx⟩:=hx
   simp only [List.mem_map] at hx hy
   obtain ⟨b,_,rfl⟩:=hx
   obtain ⟨c,_,rfl⟩:=hy
   intro e
   have:=(Prod.mk.inj e).1
   have:=List.mem_range.1 ha
   omega
theorem mI:(fN g).Nodup:=by
 unfold fN
 rw [lC]
 exact (ry (fun a=>ia.imp fun h=>by omega) _).filter _
end
end Go.Proofs.YtbkdlhkoiagbbaaGreat
namespace Go.Proofs.YtbkdlhkoiagbbaaGreat
open Go Go.Lft
def mkL (vs:Value) (at_:Nat) (ps:Int) (vb:Value) (nx:Int) (vl:Value):List Value:=[vs,.int .i64 at_,.int .i64 ps,vb,.int .i64 nx,vl]
def rawV (s:List Int) (at_:Nat):Int:=if at_<s.length then nth s at_ else 0
def aA (s:List Int) (at_:Nat) (n:Int):Int:=((rawV s at_).tmod n+n).tmod n
theorem bf {s:List Int} {at_:Nat} {n:Int} (hn:0<n):0≤aA s at_ n∧aA s at_ n<n:=by
 have b1:=Int.lt_tmod_of_pos (rawV s at_) hn
 exact ⟨Int.tmod_nonneg _ (by omega),Int.tmod_lt_of_pos _ hn⟩
theorem Fe {W:View} {h:Heap} {o:Own} {M at_:Nat} {vs vb vl:Value} {ps nx n:Int} {s:List Int} (w:Owns W h o) (hk:o (0,0)=bx T.aS M (RawN.mk (n:=5) (mkL vs at_ ps vb nx vl))) (hs:SlRd W vs s) (h1:at_≤1000000000) (hn:0<n) (hn2:n≤1000000000) :
  aD Tryz.prog N.bS #[.pointer (some ⟨M,0,none⟩),.int .i64 n] h (fun u h'=>u = .int .i64 (aA s at_ n)∧Owns W h' (o.upd (0,0) (bx T.aS M (RawN.mk (n:=5) (mkL vs (at_+1) ps vb nx vl))))):=by
 refine ao (args:=[.pointer (some ⟨M,0,none⟩),.int .i64 n]) follows F.bS E.bS (Nat.le_of_ble_eq_true (by kernel_rfl)) fun K hK=>?_
 have c0:an (vw h) ⟨M,0,none⟩=some vs:=w.raw hk (i:=0) (by decide)
 have c1:an (vw h) ⟨M,1,none⟩=some (.int .i64 at_):=w.raw hk (i:=1) (by decide)
 dsimp only [L.bS]
 refine aa fun z hz=>?_
 simp
 rw [hz];clear hz z
 refine aa fun z hz=>?_
 simp
 rw [hz];clear hz z
 refine aa fun z hz=>?_
 have hsl : ∀ {Q:View},Un.ev Q .len vs=some (.int .i64 s.length):=fun {Q}=>hs.len
 refine wL (fun ρ h2=>h2=h∧I64 (rawV s at_)∧ρ=[(0,.pointer (some ⟨M,0,none⟩)),(1,.int .i64 n),(4,.int .i64 0),(5,.int .i64 (rawV s at_))]) ?_ ?_
 ·intro K2 hK2
  by_cases c:at_<s.length
  ·have hs2:=hs.mono w.wle
   have hr:=hs.range (i:=at_) c
   have e:rawV s at_=nth s at_:=if_pos c
   rw [e] at hK2
   simp (disch:=omega) [c0,c1,hsl,c,hs2.idx1 rfl,hs2.int (View.le_refl _)]
   exact hK2 _ _ ⟨rfl,hr,rfl⟩
  ·have e:rawV s at_=0:=if_neg c
   rw [e] at hK2
   simp [c0,c1,hsl,c]
   exact hK2 _ _ ⟨rfl,⟨by decide,by decide⟩,rfl⟩
 ·rintro _ h2 ⟨rfl,hx,rfl⟩
  rw [hz];clear hz z
  refine aa fun z hz=>?_
  simp (disch:=omega) [c1]
  refine w.cG (k:=(0,0)) (n:=5) (i:=1) (e:=T.aS) (B:=M) (l:=mkL vs at_ ps vb nx vl) hk (by decide) (by kernel_rfl) rfl rfl rfl fun h3 w3 _=>?_
  rw [hz];clear hz z
  have b1:=Int.lt_tmod_of_pos (rawV s at_) hn
  have b2:=Int.tmod_lt_of_pos (rawV s at_) hn
  have hw:IntKind.i64.wrap ((rawV s at_).tmod n+n)=(rawV s at_).tmod n+n:=b8 (by omega) (by omega)
  have hne:¬n=0:=by omega
  simp [hw,hne]
  refine hK _ _ ⟨rfl,w3.congr fun q=>?_⟩
  rfl
theorem y0 {W:View} {h:Heap} {o:Own} {M at_:Nat} {vs vb vl:Value} {ps nx:Int} (w:Owns W h o) (hk:o (0,0)=bx T.aS M (RawN.mk (n:=5) (mkL vs at_ ps vb nx vl))) (h0:0≤nx) (h1:nx≤1000000000) :
  aD Tryz.prog N.bE #[.pointer (some ⟨M,0,none⟩)] h (fun u h'=>u = .int .i64 nx∧Owns W h' (o.upd (0,0) (bx T.aS M (RawN.mk (n:=5) (mkL vs at_ ps vb (nx+1) vl))))∧∀ X:View,X.le (vw h)→X M=none→X.le (vw h')):=by
 refine ao (args:=[.pointer (some ⟨M,0,none⟩)]) follows F.bE E.bE (Nat.le_of_ble_eq_true (by kernel_rfl)) fun K hK=>?_
 have c4:an (vw h) ⟨M,4,none⟩=some (.int .i64 nx):=w.raw hk (i:=4) (by decide)
 dsimp only [L.bE]
 refine aa fun z hz=>?_
 simp
 rw [hz];clear hz z
 refine aa fun z hz=>?_
 simp (disch:=omega) [c4]
 refine w.cG (k:=(0,0)) (n:=5) (i:=4) (e:=T.aS) (B:=M) (l:=mkL vs at_ ps vb nx vl) hk (by decide) (by kernel_rfl) rfl rfl rfl fun h3 w3 hx3=>?_
 have w3:Owns W h3 (o.upd (0,0) (bx T.aS M (RawN.mk (n:=5) (mkL vs at_ ps vb (nx+1) vl)))):=w3
 have c5:an (vw h3) ⟨M,4,none⟩=some (.int .i64 (nx+1)):=w3.raw Own.ag (i:=4) (by decide)
 rw [hz];clear hz z
 simp (disch:=omega) [c5]
 exact hK _ _ ⟨by congr 1,w3,hx3⟩
end Go.Proofs.YtbkdlhkoiagbbaaGreat
