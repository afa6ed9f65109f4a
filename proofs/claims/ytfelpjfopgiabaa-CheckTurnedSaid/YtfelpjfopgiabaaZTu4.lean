/- A part of the proof: He, Hf, Hg, Hi, Hj, Hk, Ra, Ma, Sb, Rb, Rc, Rd, Re, Rf, Rg. -/
import Derived.Test.YtfelpjfopgiabaaZTu3
set_option linter.unusedSimpArgs false
set_option linter.unusedVariables false
namespace Go.Proofs.Ytfelpjfopgiabaa
open Go Go.Lft
def fitsBase (x : PhiD) (row : List Int) (b : Nat) : Bool := decide (0 < b) && decide ((x.ins.length : Int) = (row.length : Int))
def fitsP (x : PhiD) (row : List Int) (j : Nat) : Bool := decide ((nth x.ins j).frm = nth row j)
def fitsS (x : PhiD) (row : List Int) (b : Nat) : Bool := fitsBase x row b && allUp (fitsP x row) x.ins.length
def uAll (g : Nat → Except Tr Unit) (n : Nat) : Except Tr Unit := upE (fun i _ => g i) n ()
def phiU (f : FuncD) (m : MW) (idom : List Int) (preds : Gr) (b i : Nat) : Except Tr Unit :=
 let x := nth (nth f.blocks b).phis i
 if fitsS x (nth preds b) b then uAll (fun j => useS f.params m idom (nth x.ins j).val (nth x.ins j).frm (-1 - i) (nth f.blocks (nth x.ins j).frm.toNat).ins.length b) x.ins.length else .error (16, b, -1 - i)
def insU (f : FuncD) (m : MW) (idom : List Int) (b i : Nat) : Except Tr Unit :=
 uAll (fun j => useS f.params m idom (nth (nth (nth f.blocks b).ins i).args j) b i i b) (nth (nth f.blocks b).ins i).args.length
def endU (f : FuncD) (m : MW) (idom : List Int) (b : Nat) : Except Tr Unit :=
 uAll (fun j => useS f.params m idom (nth (nth f.blocks b).term.args j) b (nth f.blocks b).ins.length (nth f.blocks b).ins.length b) (nth f.blocks b).term.args.length
def andE (x y : Except Tr Unit) : Except Tr Unit := match x with | .ok _ => y | .error t => .error t
def blkU (f : FuncD) (m : MW) (idom : List Int) (preds : Gr) (b : Nat) : Except Tr Unit :=
 andE (uAll (phiU f m idom preds b) (nth f.blocks b).phis.length) (andE (uAll (insU f m idom b) (nth f.blocks b).ins.length) (endU f m idom b))
def reachE (f : FuncD) (b : Nat) : Except Tr Unit := if decide ((b : Int) ∈ gOrderS (ofG f.blocks)) then .ok () else .error (15, b, 0)
def usesS (f : FuncD) (m : MW) (idom : List Int) : Except Tr Unit :=
 andE (uAll (reachE f) f.blocks.length) (uAll (blkU f m idom (predsG (ofG f.blocks))) f.blocks.length)
theorem uAll_at {g : Nat → Except Tr Unit} {n k : Nat} {t : Tr} (h : uAll g k = .ok ()) (hk : k < n) (he : g k = .error t) : uAll g n = .error t := upE_at h hk he
theorem uAll_succ {g : Nat → Except Tr Unit} {k : Nat} (h : uAll g k = .ok ()) : uAll g (k + 1) = g k := upE_succ h
theorem loads2 {H : View} {B : Nat} {u v : Value} (h0 : cellH H ⟨B, 0, none⟩ = some u) (h1 : cellH H ⟨B, 1, none⟩ = some v) : Un.ev H (.loads 2) (.pointer (some ⟨B, 0, none⟩)) = some (.agg #[u, v]) := by
 simp [Un.ev, vP, cellsFromH, h0, h1]
theorem ofG_sm {l : List BlkD} (hl : l.length ≤ 1000000) (hs : ∀ i, i < l.length → (nth l i).term.to.length ≤ 1000000) : Sm (ofG l) := by
 have hlen : (ofG l).length = l.length := by simp [ofG]
 refine ⟨by omega, fun i hi => ?_⟩
 rw [hlen] at hi
 rw [ofG, nth_rows hi]
 exact Nat.le_trans keptS_len (hs i hi)
theorem uses_ok {Kb r : Nat} {vb : Value} {f : FuncD} {m : MW} {idom : List Int} {fuel : Nat} {h : Heap} (k : Lk h Kb r vb f m) (hn : f.blocks.length ≤ 1000000) (hto : ∀ i, i < f.blocks.length → (nth f.blocks i).term.to.length ≤ 1000000) (hd : idomG (ofG f.blocks) fuel = some idom) :
  HCallsP Try.prog N.check_looker_uses #[.pointer (some ⟨Kb, 0, none⟩)] h (fun _ h' => usesS f m idom = .ok () ∧ (vw h).le (vw h')) (fun ch h' => ∃ t, usesS f m idom = .error t ∧ ch = trV t ∧ (vw h).le (vw h')) := by
 refine calls_liftP (args := [.pointer (some ⟨Kb, 0, none⟩)]) follows F.check_looker_uses E.check_looker_uses (Nat.le_of_ble_eq_true (by kernel_rfl)) fun K Kp hK hKp => ?_
 have hbb := k.rb.bound
 have hsm := ofG_sm hn hto
 have hgl : (ofG f.blocks).length = f.blocks.length := by simp [ofG]
 dsimp only [L.check_looker_uses]
 refine lwp_hide fun z hz => ?_
 simp
 refine do_box (v := .pointer (some ⟨Kb, 0, none⟩)) (by simp) ?_
 have hle1 := push_le h (.cells (Value.cells (.pointer (some ⟨Kb, 0, none⟩))) T.p_check_looker)
 have h51 : cellH (vw (h.push (.cells (Value.cells (.pointer (some ⟨Kb, 0, none⟩))) T.p_check_looker))) ⟨h.size, 0, none⟩ = some (.pointer (some ⟨Kb, 0, none⟩)) := by simp [cellH, vw]
 generalize h.push (.cells (Value.cells (.pointer (some ⟨Kb, 0, none⟩))) T.p_check_looker) = h1 at hle1 h51
 generalize h.size = B at h51
 have k1 := k.ext hle1
 rw [hz]; clear hz z
 refine lwp_hide fun z hz => ?_
 simp [h51, loads2 (cellH_mono skip_le k1.c0) (cellH_mono skip_le k1.c1)]
 refine call_to (by kernel_rfl) (graphOf_ok (k1.rb.mono skip_le) hn hto) ?_
 rintro vg h2 ⟨hle2, hg⟩
 have hg2 := hg.mono (fresh_le _ _)
 rw [hz]; clear hz z
 refine lwp_hide fun z hz => ?_
 simp
 refine call_to (by kernel_rfl) (order_ok hg2 hsm) ?_
 rintro vo h3 ⟨hle3, ho⟩
 have ho3 := ho.mono (fresh_le _ _)
 have hg3 := hg2.mono hle3
 have hle13 := View.le_trans hle2 hle3
 have k3 := k1.ext hle13
 have h53 := cellH_mono hle13 h51
 have hle03 := View.le_trans hle1 hle13
 rw [hz]; clear hz z
 refine lwp_hide fun z hz => ?_
 simp [h53, cellH_mono skip_le k3.c1, k3.rb.len]
 refine lwp_range [0, 1, 2, 3, 35, 36] (fun (_ : Unit) b => [.pointer (some ⟨Kb, 0, none⟩), .pointer (some ⟨B, 0, none⟩), vg, vo, .int .i64 f.blocks.length, .int .i64 b]) (fun _ b h4 => h4 = h3 ∧ uAll (reachE f) b = .ok ()) f.blocks.length ()
  rfl (by omega) rfl ⟨rfl, rfl⟩ (fun _ _ => rfl) (fun v i h1 hk m => by simp) ?_ ?_
 ·rintro _ b h3 hlt ⟨rfl, hpre⟩ K2 hK2
  simp
  refine call_to (by kernel_rfl) (contains_ok ho3) ?_
  rintro _ _ ⟨rfl, rfl⟩
  simp
  refine call_toP (by kernel_rfl) must_ok ?_ ?_
  ·rintro _ _ ⟨e, rfl⟩
   exact hK2 () _ _ rfl rfl ⟨rfl, by rw [uAll_succ hpre, reachE, if_pos e]⟩
  ·rintro _ _ ⟨e, rfl, rfl⟩
   exact ⟨.inl rfl, hKp _ _ ⟨_, by rw [usesS, uAll_at hpre hlt (by rw [reachE, if_neg (by rw [e]; simp)])]; rfl, rfl, hle03⟩⟩
 ·rintro _ h3 ⟨rfl, hreach⟩
  have hus : usesS f m idom = uAll (blkU f m idom (predsG (ofG f.blocks))) f.blocks.length := by rw [usesS, hreach]; rfl
  rw [hus] at hK hKp
  simp
  rw [hz]; clear hz z
  refine lwp_hide fun z hz => ?_
  simp
  refine call_to (by kernel_rfl) (preds_ok hg3 hsm) ?_
  rintro vp h4 ⟨hle4, hp⟩
  have hp4 := hp.mono (fresh_le _ _)
  refine call_to (by kernel_rfl) (idom_ok (hg3.mono hle4) hsm hd) ?_
  rintro vi h5 ⟨W, mi⟩
  have hi5 := mi.now
  refine do_newX (α := List Int) (z := .slice none 0 0) (X := vw h5) (by kernel_rfl) rfl (by kernel_rfl) (rd_list.2 hi5) (fun _ => by simp) (fun _ => by simp) fun h6 hle6 hsz6 hat => ?_
  obtain ⟨vd, hvd, hd6⟩ := (hat (vw h6) hle6 rfl).sl
  generalize h5.size = C at hvd
  rw [hz]; clear hz z
  have hle36 := View.le_trans hle4 (View.le_trans mi.old hle6)
  have hp6 := hp4.mono (View.le_trans mi.old hle6)
  have k6 := k3.ext hle36
  have h56 := cellH_mono hle36 h53
  have hle06 := View.le_trans hle03 hle36
  have hpl : (predsG (ofG f.blocks)).length = f.blocks.length := by rw [predsG_len', hgl]
  have hin : ∀ b, ∀ x ∈ nth (predsG (ofG f.blocks)) b, 0 ≤ x ∧ x < f.blocks.length := by
   rw [← hgl]
   exact predsG_in (fun e he => (edgesS_in he).1) (fun i x hx => by
    rcases Nat.lt_or_ge i (ofG f.blocks).length with hi | hi
    ·rw [nth_replicate hi] at hx; cases hx
    ·rw [nth_ge (by simpa using hi)] at hx; cases hx)
  generalize predsG (ofG f.blocks) = preds at hp6 hpl hin hK hKp
  obtain ⟨pv, hpv⟩ := hp6.rows
  simp [h56, cellH_mono skip_le k6.c1, k6.rb.len]
  refine lwp_range [1, 5, 7, 54, 55, 56] (fun (_ : Unit) b => [.pointer (some ⟨B, 0, none⟩), vp, .func (.func N.check_looker_uses_1) #[] #[.pointer (some ⟨B, 0, none⟩), .pointer (some ⟨C, 0, none⟩)], vb, .int .i64 f.blocks.length, .int .i64 b]) (fun _ b h7 => (vw h6).le (vw h7) ∧ uAll (blkU f m idom preds) b = .ok ()) f.blocks.length ()
   rfl (by omega) rfl ⟨View.le_refl _, rfl⟩ (fun _ _ => rfl) (fun v i h1 hk m => by simp) ?_ ?_
  ·rintro _ b h7 hltb ⟨hle7, hpre⟩ K2 hK2
   have k7 := k6.ext hle7
   have rb7 := k7.rb.mono skip_le
   obtain ⟨u, hu, hur⟩ := rb7.wh rfl (N := 6) rfl hltb
   obtain ⟨pc, pr⟩ := hpv b (by omega)
   have hst := uAll_succ hpre
   have her : ∀ {t}, blkU f m idom preds b = .error t → uAll (blkU f m idom preds) f.blocks.length = .error t := fun e => uAll_at hpre hltb e
   refine lwp_hide fun z hz => ?_
   simp (disch := omega) [rb7.idxn (N := 6) rfl, hu _ (View.le_refl _)]
   refine do_newX (z := .agg #[.slice none 0 0, .slice none 0 0, .int .i64 0, .slice none 0 0, .slice none 0 0, .int .i32 0]) (by kernel_rfl) rfl (by kernel_rfl) hur (fun _ => by simp) (fun _ => by simp) fun h8 hle8 hsz8 hat => ?_
   obtain ⟨wp, wi, wa, wt, bp, bi, bk, ba, bt⟩ := at_blkB (hat (vw h8) hle8 rfl)
   generalize h7.size = D at bp bi bk ba bt
   rw [hz]; clear hz z
   have hle68 := View.le_trans hle7 hle8
   have bph := bp.2.bound
   have bin := bi.2.bound
   have bar := ba.2.bound
   refine lwp_hide fun z hz => ?_
   simp [bp.1, bp.2.len]
   refine lwp_range [1, 5, 7, 8, 9, 54, 55, 56, 62, 63, 64] (fun (_ : Unit) i => [.pointer (some ⟨B, 0, none⟩), vp, .func (.func N.check_looker_uses_1) #[] #[.pointer (some ⟨B, 0, none⟩), .pointer (some ⟨C, 0, none⟩)], .int .i64 b, .pointer (some ⟨D, 0, none⟩), vb, .int .i64 f.blocks.length, .int .i64 b, wp, .int .i64 (nth f.blocks b).phis.length, .int .i64 i])
    (fun _ i h9 => (vw h8).le (vw h9) ∧ uAll (phiU f m idom preds b) i = .ok ()) (nth f.blocks b).phis.length ()
    rfl (by omega) rfl ⟨View.le_refl _, rfl⟩ (fun _ _ => rfl) (fun v i h1 hk m => by simp) ?_ ?_
   ·rintro _ i h9 hlti ⟨hle9, hpre9⟩ K3 hK3
    have hst9 := uAll_succ hpre9
    have her9 : ∀ {t}, phiU f m idom preds b i = .error t → blkU f m idom preds b = .error t := fun e => by rw [blkU, uAll_at hpre9 hlti e]; rfl
    have bp9 := bp.2.mono hle9
    obtain ⟨u9, hu9, hur9⟩ := bp9.wh rfl (N := 2) rfl hlti
    refine lwp_hide fun y hy => ?_
    simp (disch := omega) [bp9.idxn (N := 2) rfl, hu9 _ (View.le_refl _)]
    refine do_newX (z := .agg #[.int .i64 0, .slice none 0 0]) (by kernel_rfl) rfl (by kernel_rfl) hur9 (fun _ => by simp) (fun _ => by simp) fun h10 hle10 hsz10 hat10 => ?_
    obtain ⟨_, wq, cq⟩ := at_phiB (hat10 (vw h10) hle10 rfl)
    simp only [phiU] at hst9 her9
    generalize nth (nth f.blocks b).phis i = x at cq hst9 her9
    generalize h9.size = D10 at cq
    have bq := cq.2.bound
    rw [hy]; clear hy y
    refine lwp_hide fun y hy => ?_
    have hle610 := View.le_trans hle68 (View.le_trans hle9 hle10)
    have hp10 := hp6.mono hle610
    have pr10 := pr.mono hle610
    have hbase : (decide (0 < b) && decide ((x.ins.length : Int) = ((nth preds b).length : Int))) = fitsBase x (nth preds b) b := rfl
    simp (disch := omega) [cq.1, cq.2.len, hp10.idx1 rfl, pc _ hle610, pr10.len]
    rw [hbase]
    rw [hy]; clear hy y
    refine lwp_hide fun y hy => ?_
    simp [cq.1, cq.2.len]
    refine lwp_range [1, 5, 7, 8, 9, 10, 11, 12, 54, 55, 56, 62, 63, 64, 83, 84, 85] (fun (_ : Unit) j => [.pointer (some ⟨B, 0, none⟩), vp, .func (.func N.check_looker_uses_1) #[] #[.pointer (some ⟨B, 0, none⟩), .pointer (some ⟨C, 0, none⟩)], .int .i64 b, .pointer (some ⟨D, 0, none⟩), .int .i64 i, .pointer (some ⟨D10, 0, none⟩),
      .bool (fitsBase x (nth preds b) b && allUp (fitsP x (nth preds b)) j), vb, .int .i64 f.blocks.length, .int .i64 b, wp, .int .i64 (nth f.blocks b).phis.length, .int .i64 i, wq, .int .i64 x.ins.length, .int .i64 j])
     (fun _ j h11 => (vw h10).le (vw h11)) x.ins.length ()
     rfl (by omega) (by simp [keepE]; intro _; rfl) (View.le_refl _) (fun _ _ => rfl) (fun v i h1 hk m => by simp) ?_ ?_
    ·rintro _ j h11 hltj hle11 K4 hK4
     have cq11 := cq.2.mono hle11
     obtain ⟨u11, hu11, hur11⟩ := cq11.wh rfl (N := 2) rfl hltj
     refine lwp_hide fun q hq => ?_
     simp (disch := omega) [cq11.idxn (N := 2) rfl, hu11 _ (View.le_refl _)]
     refine do_newX (z := .agg #[.int .i64 0, .int .i64 0]) (by kernel_rfl) rfl (by kernel_rfl) hur11 (fun _ => by simp) (fun _ => by simp) fun h12 hle12 hsz12 hat12 => ?_
     obtain ⟨e0, e1⟩ := at_inB (hat12 (vw h12) hle12 rfl)
     generalize h11.size = D12 at e0 e1
     rw [hq]; clear hq q
     have hle612 := View.le_trans hle610 (View.le_trans hle11 hle12)
     have hp12 := hp6.mono hle612
     have pr12 := pr.mono hle612
     cases hfit : fitsBase x (nth preds b) b && allUp (fitsP x (nth preds b)) j with
     | false =>
      simp
      refine hK4 () _ _ rfl ?_ (View.le_trans hle11 hle12)
      rw [allUp_succ, ← Bool.and_assoc, hfit]; rfl
     | true =>
      have hlen : x.ins.length = (nth preds b).length := by
       simp only [Bool.and_eq_true, fitsBase, decide_eq_true_eq] at hfit
       omega
      simp (disch := omega) [e0, hp12.idx1 rfl, pc _ hle612, pr12.idx1 rfl, pr12.int (View.le_refl _)]
      refine hK4 () _ _ rfl ?_ (View.le_trans hle11 hle12)
      rw [allUp_succ, ← Bool.and_assoc, hfit]; rfl
    ·rintro _ h11 hle11
     have hfs : (fitsBase x (nth preds b) b && allUp (fitsP x (nth preds b)) x.ins.length) = fitsS x (nth preds b) b := rfl
     rw [hfs]
     simp
     rw [hy]; clear hy y
     refine lwp_hide fun y hy => ?_
     simp (disch := omega)
     have hle011 := View.le_trans hle06 (View.le_trans hle610 hle11)
     refine call_toP (by kernel_rfl) must_ok ?_ ?_
     rotate_left
     ·rintro _ _ ⟨e, rfl, rfl⟩
      exact ⟨.inl rfl, hKp _ _ ⟨_, her (her9 (by rw [if_neg (by rw [e]; simp)])), rfl, hle011⟩⟩
     rintro _ h11 ⟨efit, rfl⟩
     rw [if_pos efit] at hst9
     have her9' : ∀ {t}, uAll (fun j => useS f.params m idom (nth x.ins j).val (nth x.ins j).frm (-1 - i) (nth f.blocks (nth x.ins j).frm.toNat).ins.length b) x.ins.length = .error t → blkU f m idom preds b = .error t := fun e => her9 (by rw [if_pos efit]; exact e)
     have hlen : x.ins.length = (nth preds b).length := by
      simp only [Bool.and_eq_true, fitsS, fitsBase, decide_eq_true_eq] at efit
      omega
     have hfrm : ∀ j, j < x.ins.length → 0 ≤ (nth x.ins j).frm ∧ (nth x.ins j).frm < f.blocks.length := fun j hj => by
      have h1 := all_iff.1 (Bool.and_eq_true _ _ ▸ efit : _ ∧ _).2 j hj
      simp only [fitsP, decide_eq_true_eq] at h1
      rw [h1]
      exact hin b _ (nth_mem (by omega))
     rw [hy]; clear hy y
     have cq11 := cq.2.mono hle11
     simp [cellH_mono hle11 cq.1, cq11.len]
     refine lwp_range [1, 5, 7, 8, 9, 10, 11, 54, 55, 56, 62, 63, 64, 110, 111, 112] (fun (_ : Unit) j => [.pointer (some ⟨B, 0, none⟩), vp, .func (.func N.check_looker_uses_1) #[] #[.pointer (some ⟨B, 0, none⟩), .pointer (some ⟨C, 0, none⟩)], .int .i64 b, .pointer (some ⟨D, 0, none⟩), .int .i64 i, .pointer (some ⟨D10, 0, none⟩),
       vb, .int .i64 f.blocks.length, .int .i64 b, wp, .int .i64 (nth f.blocks b).phis.length, .int .i64 i, wq, .int .i64 x.ins.length, .int .i64 j])
      (fun _ j h12 => (vw h11).le (vw h12) ∧ uAll (fun j => useS f.params m idom (nth x.ins j).val (nth x.ins j).frm (-1 - i) (nth f.blocks (nth x.ins j).frm.toNat).ins.length b) j = .ok ()) x.ins.length ()
      rfl (by omega) rfl ⟨View.le_refl _, rfl⟩ (fun _ _ => rfl) (fun v i h1 hk m => by simp) ?_ ?_
     ·rintro _ j h12 hltj ⟨hle12, hpre12⟩ K4 hK4
      have hst12 := uAll_succ hpre12
      have cq12 := cq11.mono hle12
      obtain ⟨u12, hu12, hur12⟩ := cq12.wh rfl (N := 2) rfl hltj
      refine lwp_hide fun q hq => ?_
      simp (disch := omega) [cq12.idxn (N := 2) rfl, hu12 _ (View.le_refl _)]
      refine do_newX (z := .agg #[.int .i64 0, .int .i64 0]) (by kernel_rfl) rfl (by kernel_rfl) hur12 (fun _ => by simp) (fun _ => by simp) fun h13 hle13 hsz13 hat13 => ?_
      obtain ⟨e0, e1⟩ := at_inB (hat13 (vw h13) hle13 rfl)
      generalize h12.size = D13 at e0 e1
      have hf := hfrm j hltj
      generalize hxj : nth x.ins j = w at e0 e1 hst12 hf
      rw [hq]; clear hq q
      have hle613 := View.le_trans hle610 (View.le_trans hle11 (View.le_trans hle12 hle13))
      have k13 := k6.ext hle613
      have rb13 := k13.rb.mono skip_le
      have h513 := cellH_mono hle613 h56
      obtain ⟨ul, hul⟩ := (((rb13.at (i := w.frm.toNat) (by omega)).part BlkD.p_ins)).sl
      rw [← nth_eq (by omega)] at hul
      have hul1 : cellH (vw h13) (((slA vb).add (w.frm.toNat * 6)).add 1) = some ul := hul.1
      refine drawn_at (vw h13) (View.le_refl _) ?_
      simp (disch := omega) [e0, e1, h513, cellH_mono skip_le k13.c1, rb13.idxn (N := 6) rfl, hul1, hul.2.len]
      refine do_callvP (ops := [.tmp 118, .tmp 120, .tmp 122, .tmp 133, .tmp 134]) rfl (by kernel_rfl) (use_ok k13 h513 (cellH_mono hle613 hvd) (hd6.mono hle613)) ?_ ?_
      ·rintro _ h14 ⟨e, hle14⟩
       exact hK4 () _ _ rfl rfl ⟨View.le_trans hle12 (View.le_trans hle13 hle14), by rw [hst12]; exact e⟩
      ·rintro _ h14 ⟨t, e, rfl, hle14⟩
       exact ⟨.inr fun _ => trivial, hKp _ _ ⟨t, her (her9' (uAll_at hpre12 hltj (by rw [hxj]; exact e))), rfl, View.le_trans hle06 (View.le_trans hle613 hle14)⟩⟩
     ·rintro _ h12 ⟨hle12, hpre12⟩
      simp
      exact hK3 () _ _ rfl rfl ⟨View.le_trans hle9 (View.le_trans hle10 (View.le_trans hle11 hle12)), by rw [hst9]; exact hpre12⟩
   ·rintro _ h9 ⟨hle9, hpre9⟩
    have hbu : blkU f m idom preds b = andE (uAll (insU f m idom b) (nth f.blocks b).ins.length) (endU f m idom b) := by rw [blkU, hpre9]; rfl
    rw [hbu] at hst her
    simp
    rw [hz]; clear hz z
    refine lwp_hide fun z hz => ?_
    have bi9 := bi.2.mono hle9
    simp [cellH_mono hle9 bi.1, bi9.len]
    refine lwp_range [1, 5, 7, 8, 9, 54, 55, 56, 139, 140, 141] (fun (_ : Unit) i => [.pointer (some ⟨B, 0, none⟩), vp, .func (.func N.check_looker_uses_1) #[] #[.pointer (some ⟨B, 0, none⟩), .pointer (some ⟨C, 0, none⟩)], .int .i64 b, .pointer (some ⟨D, 0, none⟩), vb, .int .i64 f.blocks.length, .int .i64 b, wi, .int .i64 (nth f.blocks b).ins.length, .int .i64 i])
     (fun _ i h10 => (vw h9).le (vw h10) ∧ uAll (insU f m idom b) i = .ok ()) (nth f.blocks b).ins.length ()
     rfl (by omega) rfl ⟨View.le_refl _, rfl⟩ (fun _ _ => rfl) (fun v i h1 hk m => by simp) ?_ ?_
    ·rintro _ i h10 hlti ⟨hle10, hpre10⟩ K3 hK3
     have hst10 := uAll_succ hpre10
     have her10 : ∀ {t}, insU f m idom b i = .error t → uAll (blkU f m idom preds) f.blocks.length = .error t := fun e => her (by rw [uAll_at hpre10 hlti e]; rfl)
     have bi10 := bi9.mono hle10
     obtain ⟨u10, hu10, hur10⟩ := bi10.wh rfl (N := 5) rfl hlti
     refine lwp_hide fun y hy => ?_
     simp (disch := omega) [bi10.idxn (N := 5) rfl, hu10 _ (View.le_refl _)]
     refine do_newX (z := .agg #[.int .i64 0, .int .i64 0, .int .i64 0, .slice none 0 0, .int .i32 0]) (by kernel_rfl) rfl (by kernel_rfl) hur10 (fun _ => by simp) (fun _ => by simp) fun h11 hle11 hsz11 hat11 => ?_
     obtain ⟨_, _, _, wq, cq⟩ := at_insB (hat11 (vw h11) hle11 rfl)
     rw [insU] at hst10 her10
     generalize nth (nth f.blocks b).ins i = x at cq hst10 her10
     generalize h10.size = D11 at cq
     have bq := cq.2.bound
     rw [hy]; clear hy y
     simp [cq.1, cq.2.len]
     refine lwp_range [1, 5, 7, 8, 9, 17, 54, 55, 56, 139, 140, 141, 147, 148, 149] (fun (_ : Unit) j => [.pointer (some ⟨B, 0, none⟩), vp, .func (.func N.check_looker_uses_1) #[] #[.pointer (some ⟨B, 0, none⟩), .pointer (some ⟨C, 0, none⟩)], .int .i64 b, .pointer (some ⟨D, 0, none⟩), .int .i64 i, vb, .int .i64 f.blocks.length, .int .i64 b, wi, .int .i64 (nth f.blocks b).ins.length, .int .i64 i, wq, .int .i64 x.args.length, .int .i64 j])
      (fun _ j h12 => (vw h11).le (vw h12) ∧ uAll (fun j => useS f.params m idom (nth x.args j) b i i b) j = .ok ()) x.args.length ()
      rfl (by omega) rfl ⟨View.le_refl _, rfl⟩ (fun _ _ => rfl) (fun v i h1 hk m => by simp) ?_ ?_
     ·rintro _ j h12 hltj ⟨hle12, hpre12⟩ K4 hK4
      have hst12 := uAll_succ hpre12
      have cq12 := cq.2.mono hle12
      have hle612 := View.le_trans hle68 (View.le_trans hle9 (View.le_trans hle10 (View.le_trans hle11 hle12)))
      have k12 := k6.ext hle612
      have h512 := cellH_mono hle612 h56
      simp (disch := omega) [cq12.idx1 rfl, cq12.int (View.le_refl _)]
      refine do_callvP (ops := [.tmp 154, .tmp 155, .tmp 156, .tmp 157, .tmp 158]) rfl (by kernel_rfl) (use_ok k12 h512 (cellH_mono hle612 hvd) (hd6.mono hle612)) ?_ ?_
      ·rintro _ h14 ⟨e, hle14⟩
       exact hK4 () _ _ rfl rfl ⟨View.le_trans hle12 hle14, by rw [hst12]; exact e⟩
      ·rintro _ h14 ⟨t, e, rfl, hle14⟩
       exact ⟨.inl rfl, hKp _ _ ⟨t, her10 (uAll_at hpre12 hltj e), rfl, View.le_trans hle06 (View.le_trans hle612 hle14)⟩⟩
     ·rintro _ h12 ⟨hle12, hpre12⟩
      simp
      exact hK3 () _ _ rfl rfl ⟨View.le_trans hle10 (View.le_trans hle11 hle12), by rw [hst10]; exact hpre12⟩
    ·rintro _ h10 ⟨hle10, hpre10⟩
     have hbu2 : andE (uAll (insU f m idom b) (nth f.blocks b).ins.length) (endU f m idom b) = endU f m idom b := by rw [hpre10]; rfl
     rw [hbu2] at hst her
     rw [endU] at hst her
     simp
     rw [hz]; clear hz z
     have ba10 := ba.2.mono (View.le_trans hle9 hle10)
     have ca10 := cellH_mono (View.le_trans hle9 hle10) ba.1
     have bi10 := bi9.mono hle10
     have ci10 := cellH_mono (View.le_trans hle9 hle10) bi.1
     simp [ca10, ba10.len]
     refine lwp_range [1, 5, 7, 8, 9, 54, 55, 56, 164, 165, 166] (fun (_ : Unit) j => [.pointer (some ⟨B, 0, none⟩), vp, .func (.func N.check_looker_uses_1) #[] #[.pointer (some ⟨B, 0, none⟩), .pointer (some ⟨C, 0, none⟩)], .int .i64 b, .pointer (some ⟨D, 0, none⟩), vb, .int .i64 f.blocks.length, .int .i64 b, wa, .int .i64 (nth f.blocks b).term.args.length, .int .i64 j])
      (fun _ j h12 => (vw h10).le (vw h12) ∧ uAll (fun j => useS f.params m idom (nth (nth f.blocks b).term.args j) b (nth f.blocks b).ins.length (nth f.blocks b).ins.length b) j = .ok ()) (nth f.blocks b).term.args.length ()
      rfl (by omega) rfl ⟨View.le_refl _, rfl⟩ (fun _ _ => rfl) (fun v i h1 hk m => by simp) ?_ ?_
     ·rintro _ j h12 hltj ⟨hle12, hpre12⟩ K4 hK4
      have hst12 := uAll_succ hpre12
      have ba12 := ba10.mono hle12
      have bi12 := bi10.mono hle12
      have ci12 := cellH_mono hle12 ci10
      have hle612 := View.le_trans hle68 (View.le_trans hle9 (View.le_trans hle10 hle12))
      have k12 := k6.ext hle612
      have h512 := cellH_mono hle612 h56
      simp (disch := omega) [ba12.idx1 rfl, ba12.int (View.le_refl _), ci12, bi12.len]
      refine do_callvP (ops := [.tmp 171, .tmp 172, .tmp 175, .tmp 178, .tmp 179]) rfl (by kernel_rfl) (use_ok k12 h512 (cellH_mono hle612 hvd) (hd6.mono hle612)) ?_ ?_
      ·rintro _ h14 ⟨e, hle14⟩
       exact hK4 () _ _ rfl rfl ⟨View.le_trans hle12 hle14, by rw [hst12]; exact e⟩
      ·rintro _ h14 ⟨t, e, rfl, hle14⟩
       exact ⟨.inl rfl, hKp _ _ ⟨t, her (uAll_at hpre12 hltj e), rfl, View.le_trans hle06 (View.le_trans hle612 hle14)⟩⟩
     ·rintro _ h12 ⟨hle12, hpre12⟩
      simp
      exact hK2 () _ _ rfl rfl ⟨View.le_trans hle7 (View.le_trans hle8 (View.le_trans hle9 (View.le_trans hle10 hle12))), by rw [hst]; exact hpre12⟩
  ·rintro _ h7 ⟨hle7, hpre⟩
   simp
   exact hK _ _ ⟨hpre, View.le_trans hle06 hle7⟩
end Go.Proofs.Ytfelpjfopgiabaa
namespace Go.Proofs.Ytfelpjfopgiabaa
open Go Go.Lft
def caught (t : Tr) : FrameMode := .panicking [{ v := .iface T.check_trouble (.agg #[.int .i64 t.1, .int .i64 t.2.1, .int .i64 t.2.2]), recovered := true }]
theorem recov_ok {a b c : Nat} {t : Tr} {h : Heap} {ra rb rc : Array Value} {ea eb ec : TypeId} (ha : h[a]? = some (.cells ra ea (0, 0))) (hb : h[b]? = some (.cells rb eb (0, 0))) (hc : h[c]? = some (.cells rc ec (0, 0))) (sa : ra.size = 1) (sb : rb.size = 1) (sc : rc.size = 1)
  (hab : a ≠ b) (hac : a ≠ c) (hbc : b ≠ c) : DCalls Try.prog N.check_Func_1 #[.pointer (some ⟨a, 0, none⟩), .pointer (some ⟨b, 0, none⟩), .pointer (some ⟨c, 0, none⟩)] (.panicking (trV t)) h
   (fun u' h' => u' = caught t ∧ h'[a]? = some (.cells #[.int .i64 t.1] ea (0, 0)) ∧ h'[b]? = some (.cells #[.int .i64 t.2.1] eb (0, 0)) ∧ h'[c]? = some (.cells #[.int .i64 t.2.2] ec (0, 0)) ∧ h.size ≤ h'.size ∧ ∀ k, k < h.size → k ≠ a → k ≠ b → k ≠ c → h'[k]? = h[k]?) := by
 refine dcalls_recover (args := [.pointer (some ⟨a, 0, none⟩), .pointer (some ⟨b, 0, none⟩), .pointer (some ⟨c, 0, none⟩)]) (t := 6) (L := L.check_Func_1.body.tail) (tys := #[]) follows F.check_Func_1 Q.check_Func_1 (by kernel_rfl) (by kernel_rfl) (by kernel_rfl) (Nat.le_of_ble_eq_true (by kernel_rfl)) E.check_Func_1_t (by kernel_rfl) (by kernel_rfl) (Nat.le_of_ble_eq_true (by kernel_rfl)) ?_
 have ala : a < h.size := (Array.getElem?_eq_some_iff.1 ha).1
 have alb : b < h.size := (Array.getElem?_eq_some_iff.1 hb).1
 have alc : c < h.size := (Array.getElem?_eq_some_iff.1 hc).1
 have hrec : recovers (.panicking (trV t)) = (.iface T.check_trouble (.agg #[.int .i64 t.1, .int .i64 t.2.1, .int .i64 t.2.2]), caught t) := rfl
 rw [hrec]
 simp [L.check_Func_1, LC.tail]
 refine do_isnil (ms := #[]) (by kernel_rfl) rfl (.inr ⟨_, _, rfl, rfl⟩) ?_
 simp
 refine do_assert (d := (Try.prog.underlying T.check_trouble).getD .bool) (by kernel_rfl) (by kernel_rfl) rfl ?_
 simp
 refine do_newV (n := 3) (z := .agg #[.int .i64 0, .int .i64 0, .int .i64 0]) (v := .agg #[.int .i64 t.1, .int .i64 t.2.1, .int .i64 t.2.2]) (by kernel_rfl) rfl (by kernel_rfl) rfl (by simp [Value.oneCell']) (fun _ => by simp) (fun _ => by simp) fun h1 hle1 hs1 hb1 => ?_
 generalize hD : h.size = D at hb1 hs1
 obtain ⟨H, hH⟩ : ∃ H : View, H = fun k => if k = D then h1[k]? else none := ⟨_, rfl⟩
 have hHle : ∀ h2 : Heap, h2[D]? = h1[D]? → H.le (vw h2) := fun h2 e k o hk => by
  rw [hH] at hk; simp only at hk
  split at hk
  ·rename_i e2; subst e2; show h2[_]? = _; rw [e]; exact hk
  ·cases hk
 have hHD : H D = some (.cells #[.int .i64 t.1, .int .i64 t.2.1, .int .i64 t.2.2] T.check_trouble (0, 0)) := by rw [hH]; simp only [if_true]; exact hb1
 have d0 : cellH H ⟨D, 0, none⟩ = some (.int .i64 t.1) := cellH_blk hHD rfl
 have d1 : cellH H ⟨D, 1, none⟩ = some (.int .i64 t.2.1) := cellH_blk hHD rfl
 have d2 : cellH H ⟨D, 2, none⟩ = some (.int .i64 t.2.2) := cellH_blk hHD rfl
 refine drawn_at H (hHle h1 rfl) ?_
 simp [d0, d1, d2]
 refine do_store (g := a) (o := 0) (n := 1) (v := .int .i64 t.1) (by kernel_rfl) rfl rfl rfl (by simp [Value.oneCell']) (hle1 _ _ ha) (by omega) fun h2 hs2 ⟨row2, hr2, he2⟩ ho2 => ?_
 refine ⟨hHle h2 (ho2 D (by omega)), ?_⟩
 refine do_store (g := b) (o := 0) (n := 1) (v := .int .i64 t.2.1) (by kernel_rfl) rfl rfl rfl (by simp [Value.oneCell']) ((ho2 b (Ne.symm hab)).trans (hle1 _ _ hb)) (by omega) fun h3 hs3 ⟨row3, hr3, he3⟩ ho3 => ?_
 refine ⟨hHle h3 ((ho3 D (by omega)).trans (ho2 D (by omega))), ?_⟩
 refine do_store (g := c) (o := 0) (n := 1) (v := .int .i64 t.2.2) (by kernel_rfl) rfl rfl rfl (by simp [Value.oneCell']) ((ho3 c (Ne.symm hbc)).trans ((ho2 c (Ne.symm hac)).trans (hle1 _ _ hc))) (by omega) fun h4 hs4 ⟨row4, hr4, he4⟩ ho4 => ?_
 have one : ∀ {row r : Array Value} {v : Value}, v.cells = #[v] → r.size = 1 → row.toList = r.toList.take 0 ++ v.cells.toList ++ r.toList.drop (0 + 1) → row = #[v] := by
  intro row r v hv hr he
  rw [← Array.toList_inj, he, hv, List.take_zero, List.nil_append, List.drop_eq_nil_of_le (by simp [hr])]
  simp
 rw [one rfl sa he2] at hr2
 rw [one rfl sb he3] at hr3
 rw [one rfl sc he4] at hr4
 refine ⟨?_, ?_, hr4, by omega, fun k hk h1' h2' h3' => ?_⟩
 ·rw [ho4 a hac, ho3 a hab]; exact hr2
 ·rw [ho4 b hbc]; exact hr3
 ·rw [ho4 k h3', ho3 k h2', ho2 k h1']
  exact (hle1 k h[k] (Array.getElem?_eq_getElem (by omega))).trans (Array.getElem?_eq_getElem (by omega)).symm
theorem recov_none {a b c : Nat} {h : Heap} : DCalls Try.prog N.check_Func_1 #[.pointer (some ⟨a, 0, none⟩), .pointer (some ⟨b, 0, none⟩), .pointer (some ⟨c, 0, none⟩)] .returning h (fun u' h' => u' = .returning ∧ h' = h) := by
 refine dcalls_recover (args := [.pointer (some ⟨a, 0, none⟩), .pointer (some ⟨b, 0, none⟩), .pointer (some ⟨c, 0, none⟩)]) (t := 6) (L := L.check_Func_1.body.tail) (tys := #[]) follows F.check_Func_1 Q.check_Func_1 (by kernel_rfl) (by kernel_rfl) (by kernel_rfl) (Nat.le_of_ble_eq_true (by kernel_rfl)) E.check_Func_1_t (by kernel_rfl) (by kernel_rfl) (Nat.le_of_ble_eq_true (by kernel_rfl)) ?_
 have hrec : recovers .returning = (.nilIface, .returning) := rfl
 rw [hrec]
 simp [L.check_Func_1, LC.tail]
 refine do_isnil (ms := #[]) (by kernel_rfl) rfl (.inl ⟨rfl, rfl⟩) ?_
 simp
def manyN (f : FuncD) (k : Nat) : Int := up (fun i n => n + (((nth f.blocks i).phis.length : Int) + (nth f.blocks i).ins.length)) k f.blocks.length
def manyS (f : FuncD) : Int := manyN f f.blocks.length
def idomL (g : Gr) : List Int := (idomG g (g.length * g.length + 1)).getD []
def usesAfter (f : FuncD) : Except Tr MW → Except Tr Unit
 | .error t => .error t
 | .ok m => usesS f m (idomL (ofG f.blocks))
def checkS (f : FuncD) : Except Tr Unit :=
 if withinS f.params 0 4 = false then .error (1, 0, 0)
 else if f.blocks.length = 0 then .error (14, 0, 0)
 else if ¬ (f.blocks.length ≤ 512 ∧ manyS f ≤ 4096) then .error (2, 0, 0)
 else usesAfter f (shapeS f (fun _ => none))
def toldS (f : FuncD) : Tr := match checkS f with
 | .ok _ => (0, 0, 0)
 | .error t => t
theorem many_le {f : FuncD} {k : Nat} : 0 ≤ manyN f k := by
 unfold manyN
 induction k with
 | zero => simp [up]
 | succ k ih => rw [up]; omega
theorem shape_to {f : FuncD} {m m' : MW} (h : shapeS f m = .ok m') : ∀ i, i < f.blocks.length → (nth f.blocks i).term.to.length ≤ 65 := by
 intro i hi
 have key : ∀ n, n ≤ f.blocks.length → ∃ s, upE (blkS f) n m = .ok s := fun n hn => by
  cases e : upE (blkS f) n m with
  | ok s => exact ⟨s, rfl⟩
  | error t => rw [shapeS, upE_err hn e] at h; cases h
 obtain ⟨s, hs⟩ := key i (by omega)
 obtain ⟨s', hs'⟩ := key (i + 1) hi
 rw [upE_succ hs, blkS] at hs'
 split at hs'
 ·cases hs'
 ·split at hs'
  ·cases hs'
  ·rw [endS] at hs'
   split at hs'
   ·rename_i hok
    rw [termOk] at hok
    split at hok
    ·rename_i sh hsh
     simp only [withinS, Bool.and_eq_true, decide_eq_true_eq] at hok
     have : sh.2.2.2 ≤ 65 := by
      simp only [shapesS, putM] at hsh
      repeat' (split at hsh)
      all_goals first | (cases hsh; done) | (cases hsh; decide)
     omega
    ·cases hok
   ·cases hs'
end Go.Proofs.Ytfelpjfopgiabaa
namespace Go.Proofs.Ytfelpjfopgiabaa
open Go Go.Lft
theorem idomL_is {g : Gr} (hg : 0 < g.length) : idomG g (g.length * g.length + 1) = some (idomL g) := by
 obtain ⟨_, _, l, hl, _⟩ := idom_spec hg
 rw [idomL, hl]; rfl
theorem one_cell {row r : Array Value} {v : Value} (hv : v.cells = #[v]) (hr : r.size = 1) (he : row.toList = r.toList.take 0 ++ v.cells.toList ++ r.toList.drop (0 + 1)) : row = #[v] := by
 rw [← Array.toList_inj, he, hv, List.take_zero, List.nil_append, List.drop_eq_nil_of_le (by simp [hr])]
 simp
structure SmB (x : BlkD) : Prop where
 phis : x.phis.length ≤ 10000
 ins : x.ins.length ≤ 10000
 args : x.term.args.length ≤ 10000
 to : x.term.to.length ≤ 10000
 phi : ∀ i, i < x.phis.length → (nth x.phis i).ins.length ≤ 10000
 inn : ∀ i, i < x.ins.length → (nth x.ins i).args.length ≤ 10000
structure SmF (f : FuncD) : Prop where
 len : f.blocks.length ≤ 10000
 blk : ∀ i, i < f.blocks.length → SmB (nth f.blocks i)
theorem func_ok {f : FuncD} {v : Value} {h : Heap} (hv : Rd (vw h) v f) (hsm : SmF f) :
  HCalls Try.prog N.check_Func #[v] h (fun u h' => u = .tuple #[.int .i64 (toldS f).1, .int .i64 (toldS f).2.1, .int .i64 (toldS f).2.2] ∧ (vw h).le (vw h')) := by
 refine calls_of_lift_defer (args := [v]) (g := N.check_Func_1) (t := 9) (capops := #[.tmp 2, .tmp 3, .tmp 4]) (tys := #[])
  (Mid := fun ρ hh => ρ = [(0, v), (1, .pointer (some ⟨h.size, 0, none⟩)), (2, .pointer (some ⟨h.size + 1, 0, none⟩)), (3, .pointer (some ⟨h.size + 2, 0, none⟩)), (4, .pointer (some ⟨h.size + 3, 0, none⟩))] ∧ hh.size = h.size + 4 ∧ (vw h).le (vw hh) ∧ At (vw hh) ⟨h.size, 0, none⟩ f ∧
   hh[h.size + 1]? = some (.cells #[.int .i64 0] T.api_Errno (0, 0)) ∧ hh[h.size + 2]? = some (.cells #[.int .i64 0] T.int (0, 0)) ∧ hh[h.size + 3]? = some (.cells #[.int .i64 0] T.int (0, 0)))
  follows F.check_Func B.check_Func (by kernel_rfl) (by kernel_rfl) (by kernel_rfl) (by kernel_rfl) (by kernel_rfl) (by kernel_rfl) (Nat.le_of_ble_eq_true (by kernel_rfl)) (by kernel_rfl) E.check_Func_p0 (by kernel_rfl) E.check_Func_p1 (by kernel_rfl) R.check_Func_is (Nat.le_of_ble_eq_true (by kernel_rfl)) ?_ ?_
 ·simp [L.check_Func_p0]
  refine do_boxT rfl hv fun h1 e1 hle1 hs1 hat => ?_
  refine do_alloc (z := .int .i64 0) (by kernel_rfl) ?_
  refine do_alloc (z := .int .i64 0) (by kernel_rfl) ?_
  refine do_alloc (z := .int .i64 0) (by kernel_rfl) ?_
  have q1 := push_le h1 (.cells (Value.int .i64 0).cells T.api_Errno)
  generalize e2 : h1.push (.cells (Value.int .i64 0).cells T.api_Errno) = h2 at q1
  have b2 : h2[h1.size]? = some (.cells #[.int .i64 0] T.api_Errno (0, 0)) := by rw [← e2]; simp
  have s2 : h2.size = h1.size + 1 := by rw [← e2]; simp
  have q2 := push_le h2 (.cells (Value.int .i64 0).cells T.int)
  generalize e3 : h2.push (.cells (Value.int .i64 0).cells T.int) = h3 at q2
  have b3 : h3[h2.size]? = some (.cells #[.int .i64 0] T.int (0, 0)) := by rw [← e3]; simp
  have s3 : h3.size = h2.size + 1 := by rw [← e3]; simp
  have q3 := push_le h3 (.cells (Value.int .i64 0).cells T.int)
  generalize e4 : h3.push (.cells (Value.int .i64 0).cells T.int) = h4 at q3
  have b4 : h4[h3.size]? = some (.cells #[.int .i64 0] T.int (0, 0)) := by rw [← e4]; simp
  have s4 : h4.size = h3.size + 1 := by rw [← e4]; simp
  have hsz : h1.size = h.size + 1 := hs1
  have e22 : h2.size = h.size + 2 := by omega
  have e32 : h3.size = h.size + 3 := by omega
  rw [hsz] at b2
  rw [e22] at b3
  rw [e32] at b4
  rw [e22, e32, hsz]
  simp
  exact ⟨by omega, View.le_trans hle1 (View.le_trans q1 (View.le_trans q2 q3)), hat.mono (View.le_trans q1 (View.le_trans q2 q3)), q3 _ _ (q2 _ _ b2), q3 _ _ b3, b4⟩
 ·rintro ρ hh ⟨rfl, hs, hle, hat, hb1, hb2, hb3⟩
  refine ⟨[.pointer (some ⟨h.size + 1, 0, none⟩), .pointer (some ⟨h.size + 2, 0, none⟩), .pointer (some ⟨h.size + 3, 0, none⟩)], by simp [capsE],
   ⟨fun ch h2 => ∃ t, checkS f = .error t ∧ ch = trV t ∧ (vw hh).le (vw h2), fun ρ => Lft.look ρ 2 = some (.pointer (some ⟨h.size + 1, 0, none⟩)) ∧ Lft.look ρ 3 = some (.pointer (some ⟨h.size + 2, 0, none⟩)) ∧ Lft.look ρ 4 = some (.pointer (some ⟨h.size + 3, 0, none⟩))⟩, ?_, ?_⟩
  rotate_left
  ·rintro ch ρ2 h2 ⟨t, ht, rfl, hle2⟩ ⟨l2, l3, l4⟩
   refine ⟨_, recov_ok (hle2 _ _ hb1) (hle2 _ _ hb2) (hle2 _ _ hb3) rfl rfl rfl (by omega) (by omega) (by omega), ?_⟩
   rintro u' h3 ⟨rfl, g1, g2, g3, gs, go⟩
   have c1 : cellH (vw h3) ⟨h.size + 1, 0, none⟩ = some (.int .i64 t.1) := cellH_blk (show vw h3 _ = _ from g1) rfl
   have c2 : cellH (vw h3) ⟨h.size + 2, 0, none⟩ = some (.int .i64 t.2.1) := cellH_blk (show vw h3 _ = _ from g2) rfl
   have c3 : cellH (vw h3) ⟨h.size + 3, 0, none⟩ = some (.int .i64 t.2.2) := cellH_blk (show vw h3 _ = _ from g3) rfl
   refine ⟨rfl, [.int .i64 t.1, .int .i64 t.2.1, .int .i64 t.2.2], by simp [R.check_Func, l2, l3, l4, c1, c2, c3], ?_⟩
   refine ⟨by simp [toldS, ht], fun b o hb => ?_⟩
   have hlt := View.lt (View.le_refl (vw h)) hb
   show h3[b]? = _
   have hb2' := hle2 _ _ (hle _ _ hb)
   have hlt2 := View.lt (View.le_refl (vw h2)) hb2'
   rw [go b hlt2 (by omega) (by omega) (by omega)]
   exact hb2'
  ·obtain ⟨cp, vb, cb⟩ := at_funcB hat
   have hbb := cb.2.bound
   have bad : ∀ {t : Tr} {ch : List PanicEntry} {h2 : Heap}, checkS f = .error t → ch = trV t → (vw hh).le (vw h2) → ∃ t, checkS f = .error t ∧ ch = trV t ∧ (vw hh).le (vw h2) := fun a b c => ⟨_, a, b, c⟩
   simp only [killE_cons, killE_nil]
   dsimp only [L.check_Func_p1]
   refine lwp_hide fun z hz => ?_
   simp [cp]
   refine call_to (by kernel_rfl) within_ok ?_
   rintro _ _ ⟨rfl, rfl⟩
   refine call_toP (by kernel_rfl) must_ok ?_ ?_
   rotate_left
   ·rintro _ _ ⟨e, rfl, rfl⟩
    exact ⟨.inl rfl, bad (by rw [checkS, if_pos e]) rfl (View.le_refl _)⟩
   rintro _ hh ⟨e1, rfl⟩
   have e1' : ¬ withinS f.params 0 4 = false := by rw [e1]; simp
   rw [hz]; clear hz z
   refine lwp_hide fun z hz => ?_
   simp [cb.1, cb.2.len]
   refine call_toP (by kernel_rfl) must_ok ?_ ?_
   rotate_left
   ·rintro _ _ ⟨e, rfl, rfl⟩
    exact ⟨.inl rfl, bad (by rw [checkS, if_neg e1', if_pos (by simpa using e)]) rfl (View.le_refl _)⟩
   rintro _ hh ⟨e2, rfl⟩
   have e2' : ¬ f.blocks.length = 0 := by
    intro e; rw [e] at e2; simp at e2
   rw [hz]; clear hz z
   refine lwp_hide fun z hz => ?_
   simp [cb.1, cb.2.len]
   rw [hz]; clear hz z
   refine lwp_hide fun z hz => ?_
   simp [cb.1, cb.2.len]
   refine lwp_range [1, 2, 3, 4, 5, 23, 24, 25] (fun (_ : Unit) k => [.pointer (some ⟨h.size, 0, none⟩), .pointer (some ⟨h.size + 1, 0, none⟩), .pointer (some ⟨h.size + 2, 0, none⟩), .pointer (some ⟨h.size + 3, 0, none⟩), .int .i64 (manyN f k), vb, .int .i64 f.blocks.length, .int .i64 k])
    (fun _ k h1 => (vw hh).le (vw h1) ∧ manyN f k ≤ f.blocks.length + k * 2000000) f.blocks.length ()
    rfl (by omega) rfl ⟨View.le_refl _, by simp [manyN, up]⟩ (fun _ _ => rfl) (fun v i h1 hk m => by simp) ?_ ?_
   ·rintro _ k h1 hlt ⟨hle1, hmk⟩ K2 hK2
    have cb1 := cb.2.mono hle1
    obtain ⟨u, hu, hur⟩ := cb1.wh rfl (N := 6) rfl hlt
    refine lwp_hide fun y hy => ?_
    simp (disch := omega) [cb1.idxn (N := 6) rfl, hu _ (View.le_refl _)]
    refine do_newX (z := .agg #[.slice none 0 0, .slice none 0 0, .int .i64 0, .slice none 0 0, .slice none 0 0, .int .i32 0]) (by kernel_rfl) rfl (by kernel_rfl) hur (fun _ => by simp) (fun _ => by simp) fun h2 hle2 hsz2 hat2 => ?_
    obtain ⟨vp, vi, va, vt, bp, bi, _⟩ := at_blkB (hat2 (vw h2) hle2 rfl)
    have bph := bp.2.bound
    have bih := bi.2.bound
    have hm1 : manyN f (k + 1) = manyN f k + (((nth f.blocks k).phis.length : Int) + (nth f.blocks k).ins.length) := rfl
    have h0 := many_le (f := f) (k := k)
    rw [hy]; clear hy y
    simp [bp.1, bp.2.len, bi.1, bi.2.len]
    have s1 := (hsm.blk k hlt).phis
    have s2 := (hsm.blk k hlt).ins
    have s0 := hsm.len
    rw [wrap64_id (a := ((nth f.blocks k).phis.length : Int) + (nth f.blocks k).ins.length) (by omega) (by omega), wrap64_id (by omega) (by omega)]
    exact hK2 () _ _ rfl (by rw [hm1]; rfl) ⟨View.le_trans hle1 hle2, by rw [hm1]; omega⟩
   ·rintro _ h1 ⟨hle1, hmk⟩
    simp
    rw [hz]; clear hz z
    refine lwp_hide fun z hz => ?_
    have cb1 := cb.2.mono hle1
    have cc1 := cellH_mono hle1 cb.1
    have cp1 := cellH_mono hle1 cp
    simp [cc1, cb1.len]
    have hms : manyN f f.blocks.length = manyS f := rfl
    rw [hms]
    refine call_toP (by kernel_rfl) must_ok ?_ ?_
    rotate_left
    ·rintro _ _ ⟨e, rfl, rfl⟩
     refine ⟨.inl rfl, bad ?_ rfl hle1⟩
     rw [checkS, if_neg e1', if_neg e2', if_pos]
     intro e3
     simp at e; omega
    rintro _ h1 ⟨e3, rfl⟩
    have e3' : ¬ ¬ (f.blocks.length ≤ 512 ∧ manyS f ≤ 4096) := by
     simp at e3; omega
    have hchk : checkS f = usesAfter f (shapeS f (fun _ => none)) := by rw [checkS, if_neg e1', if_neg e2', if_neg e3']
    rw [hz]; clear hz z
    refine lwp_hide fun z hz => ?_
    simp [loads2 cp1 cc1]
    refine do_makeMap ?_
    have hle2 := push_le h1 (.map #[] 0)
    have hm2 : MapIs (.int .i64) (h1.push (.map #[] 0)) h1.size (mapE encW fun _ => none) := by rw [mapE_none]; exact MapIs.none (by simp)
    have hs2 : (h1.push (.map #[] 0)).size = h1.size + 1 := by simp
    generalize h1.push (.map #[] 0) = h2 at hle2 hm2 hs2
    refine do_build (z := .agg #[.int .i64 0, .slice none 0 0, .map none]) (places := [(0, 2), (2, 1)]) (vs := [(0, .agg #[.int .i64 f.params, vb]), (1, .map (some h1.size))]) (cs := #[.int .i64 f.params, vb, .map (some h1.size)]) (by kernel_rfl) (by kernel_rfl) (by simp) (by rfl) ?_
    refine do_box (v := .agg #[.int .i64 f.params, vb, .map (some h1.size)]) rfl ?_
    have hle3 := push_le h2 (.cells (Value.cells (.agg #[.int .i64 f.params, vb, .map (some h1.size)])) T.check_looker)
    have hbk : (h2.push (.cells (Value.cells (.agg #[.int .i64 f.params, vb, .map (some h1.size)])) T.check_looker))[h2.size]? = some (.cells #[.int .i64 f.params, vb, .map (some h1.size)] T.check_looker (0, 0)) := by simp
    have hs3 : (h2.push (.cells (Value.cells (.agg #[.int .i64 f.params, vb, .map (some h1.size)])) T.check_looker)).size = h2.size + 1 := by simp
    generalize h2.push (.cells (Value.cells (.agg #[.int .i64 f.params, vb, .map (some h1.size)])) T.check_looker) = h3 at hle3 hbk hs3
    rw [hz]; clear hz z
    have hsk : skip h1.size h3 h2.size = some (.cells #[.int .i64 f.params, vb, .map (some h1.size)] T.check_looker (0, 0)) := by rw [skip_get (by omega)]; exact hbk
    have hle13 := View.le_trans hle2 hle3
    have hle1k : (vw h1).le (skip h1.size h3) := fun b o hb => by
     have hlt := View.lt (View.le_refl (vw h1)) hb
     rw [skip_get (by omega)]; exact hle13 b o hb
    have k3 : Lk h3 h2.size h1.size vb f (fun _ => none) := ⟨cellH_blk hsk rfl, cellH_blk hsk rfl, cellH_blk hsk rfl, cb1.mono hle1k, hm2.ext hle3⟩
    generalize h2.size = Kb at k3
    generalize hr : h1.size = r at k3
    have hkk : ∀ {h' : Heap}, Kept h3 h' (some r) → (vw hh).le (vw h') := fun kp b o hb => by
     have h1b := hle1 b o hb
     have hlt := View.lt (View.le_refl (vw h1)) h1b
     have h3b := hle13 b o h1b
     have hlt3 := View.lt (View.le_refl (vw h3)) h3b
     show _ = _
     exact (kp.block b hlt3 (by simp; omega)).trans h3b
    refine lwp_hide fun z hz => ?_
    simp
    refine call_toP (by kernel_rfl) (shape_ok k3) ?_ ?_
    rotate_left
    ·rintro _ h4 ⟨t, ht, rfl, kp4⟩
     exact ⟨.inl rfl, bad (by rw [hchk, ht]; rfl) rfl (hkk kp4)⟩
    rintro _ h4 ⟨m4, hm4, k4, kp4⟩
    have hto := shape_to hm4
    rw [hm4] at hchk
    have hchk : checkS f = usesS f m4 (idomL (ofG f.blocks)) := hchk
    rw [hz]; clear hz z
    refine lwp_hide fun z hz => ?_
    simp
    have hgl : (ofG f.blocks).length = f.blocks.length := by simp [ofG]
    refine call_toP (by kernel_rfl) (uses_ok k4 (Nat.le_trans hsm.len (by decide)) (fun i hi => Nat.le_trans (hto i hi) (by decide)) (idomL_is (by omega))) ?_ ?_
    rotate_left
    ·rintro _ h5 ⟨t, ht, rfl, hle5⟩
     exact ⟨.inl rfl, bad (by rw [hchk, ht]) rfl (View.le_trans (hkk kp4) hle5)⟩
    rintro _ h5 ⟨hus, hle5⟩
    have hle05 := View.le_trans (hkk kp4) hle5
    rw [hz]; clear hz z
    simp
    refine do_store (g := h.size + 1) (o := 0) (n := 1) (v := .int .i64 0) (by kernel_rfl) rfl rfl rfl (by simp [Value.oneCell']) (hle05 _ _ hb1) (by simp) fun h6 hs6 ⟨row6, hr6, he6⟩ ho6 => ?_
    refine do_store (g := h.size + 2) (o := 0) (n := 1) (v := .int .i64 0) (by kernel_rfl) rfl rfl rfl (by simp [Value.oneCell']) ((ho6 _ (by omega)).trans (hle05 _ _ hb2)) (by simp) fun h7 hs7 ⟨row7, hr7, he7⟩ ho7 => ?_
    refine do_store (g := h.size + 3) (o := 0) (n := 1) (v := .int .i64 0) (by kernel_rfl) rfl rfl rfl (by simp [Value.oneCell']) ((ho7 _ (by omega)).trans ((ho6 _ (by omega)).trans (hle05 _ _ hb3))) (by simp) fun h8 hs8 ⟨row8, hr8, he8⟩ ho8 => ?_
    rw [one_cell rfl rfl he6] at hr6
    rw [one_cell rfl rfl he7] at hr7
    rw [one_cell rfl rfl he8] at hr8
    refine ⟨_, recov_none, ?_⟩
    rintro u' h9 ⟨rfl, rfl⟩
    have c1 : cellH (vw h9) ⟨h.size + 1, 0, none⟩ = some (.int .i64 0) := cellH_blk (show vw h9 _ = _ from (ho8 _ (by omega)).trans ((ho7 _ (by omega)).trans hr6)) rfl
    have c2 : cellH (vw h9) ⟨h.size + 2, 0, none⟩ = some (.int .i64 0) := cellH_blk (show vw h9 _ = _ from (ho8 _ (by omega)).trans hr7) rfl
    have c3 : cellH (vw h9) ⟨h.size + 3, 0, none⟩ = some (.int .i64 0) := cellH_blk (show vw h9 _ = _ from hr8) rfl
    refine ⟨rfl, [.int .i64 0, .int .i64 0, .int .i64 0], by simp [R.check_Func, c1, c2, c3], ?_⟩
    have htold : toldS f = (0, 0, 0) := by rw [toldS, hchk, hus]
    refine ⟨by simp [htold], fun b o hb => ?_⟩
    have hlt := View.lt (View.le_refl (vw h)) hb
    show h9[b]? = _
    rw [ho8 b (by omega), ho7 b (by omega), ho6 b (by omega)]
    exact hle05 _ _ (hle _ _ hb)
theorem right_ok {f : FuncD} {v : Value} {h : Heap} (hv : Rd (vw h) v f) (hsm : SmF f) :
  HCalls Try.prog N.check_Right #[v] h (fun u h' => u = .bool (decide ((toldS f).1 = 0)) ∧ (vw h).le (vw h')) := by
 refine calls_lift (args := [v]) follows F.check_Right E.check_Right (Nat.le_of_ble_eq_true (by kernel_rfl)) fun K hK => ?_
 simp [L.check_Right]
 refine do_boxT rfl hv fun h1 e1 hle1 hs1 hat => ?_
 obtain ⟨u, hu, hur⟩ := hat.loads rfl
 have hu' : Un.ev (vw h1) (.loads 2) (.pointer (some ⟨h.size, 0, none⟩)) = some u := hu
 simp [hu']
 refine call_to (by kernel_rfl) (func_ok hur hsm) ?_
 rintro _ h2 ⟨rfl, hle2⟩
 simp
 exact hK _ _ ⟨rfl, View.le_trans hle1 hle2⟩
end Go.Proofs.Ytfelpjfopgiabaa
namespace Go.Proofs.Ytfelpjfopgiabaa
open Go Go.Lft
structure Th where
 blk : Int
 place : Int
 mks : List Int
 tks : List Int
 deriving Inhabited
def phiT (f : FuncD) (b i : Nat) : Th := ⟨b, -1 - i, [(nth (nth f.blocks b).phis i).dst], (nth (nth f.blocks b).phis i).ins.map InD.val⟩
def insT (f : FuncD) (b i : Nat) : Th := ⟨b, i, makesS (nth (nth f.blocks b).ins i), (nth (nth f.blocks b).ins i).args⟩
def endT (f : FuncD) (b : Nat) : Th := ⟨b, (nth f.blocks b).ins.length, [], (nth f.blocks b).term.args⟩
def thB (f : FuncD) (b : Nat) : List Th := rows (phiT f b) (nth f.blocks b).phis.length ++ rows (insT f b) (nth f.blocks b).ins.length ++ [endT f b]
def thTo (f : FuncD) (n : Nat) : List Th := up (fun b l => l ++ thB f b) n []
def thingsS (f : FuncD) : List Th := thTo f f.blocks.length
theorem thTo_succ {f : FuncD} {n : Nat} : thTo f (n + 1) = thTo f n ++ thB f n := rfl
theorem thTo_pre {f : FuncD} {n m : Nat} (h : n ≤ m) : thTo f n <+: thTo f m := by
 induction m with
 | zero => rw [show n = 0 by omega]; exact List.prefix_refl _
 | succ m ih =>
  rcases Nat.lt_or_ge n (m + 1) with h1 | h1
  ·exact (ih (by omega)).trans ⟨_, thTo_succ.symm⟩
  ·rw [show n = m + 1 by omega]; exact List.prefix_refl _
theorem rows_pre {β : Type} {x : Nat → β} {n m : Nat} (h : n ≤ m) : rows x n <+: rows x m := by
 induction m with
 | zero => rw [show n = 0 by omega]; exact List.prefix_refl _
 | succ m ih =>
  rcases Nat.lt_or_ge n (m + 1) with h1 | h1
  ·exact (ih (by omega)).trans ⟨_, rows_succ.symm⟩
  ·rw [show n = m + 1 by omega]; exact List.prefix_refl _
theorem pre_app {α : Type} {a b c : List α} (h : b <+: c) : a ++ b <+: a ++ c := by
 obtain ⟨t, rfl⟩ := h; exact ⟨t, by simp⟩
structure ThJ (J : List Th → View → Heap → Prop) : Prop where
 le : ∀ {l W h}, J l W h → W.le (vw h)
 ext : ∀ {l W h h'}, J l W h → (vw h).le (vw h') → J l (grow W h h') h'
theorem things_ok {f : FuncD} {v : Value} {h : Heap} {V : View} {gf : Nat} {caps : List Value} {J : List Th → View → Heap → Prop} (hv : Rd V v f) (hsm : SmF f) (hJ : ThJ J) (hg : isFn Try.prog gf = true) (h0 : J [] V h)
  (hstep : ∀ (l : List Th) (t : Th) (W : View) (h1 : Heap) (vm vt : Value), V.le W → l ++ [t] <+: thingsS f → J l W h1 → SlRd W vm t.mks → SlRd W vt t.tks → HCalls Try.prog gf (.int .i64 t.blk :: .int .i64 t.place :: vm :: vt :: caps).toArray h1 (fun _ h2 => J (l ++ [t]) W h2)) :
  HCalls Try.prog N.check_things #[v, .func (.func gf) #[] caps.toArray] h (fun _ h' => ∃ W, V.le W ∧ J (thingsS f) W h') := by
 refine calls_lift (args := [v, .func (.func gf) #[] caps.toArray]) follows F.check_things E.check_things (Nat.le_of_ble_eq_true (by kernel_rfl)) fun K hK => ?_
 dsimp only [L.check_things]
 refine lwp_hide fun z hz => ?_
 simp
 refine do_boxT rfl (hv.mono (hJ.le h0)) fun h1 e1 hle1 hs1 hat => ?_
 have j1 := hJ.ext h0 hle1
 obtain ⟨cp, vb, cb⟩ := at_funcB hat
 have hvb : SlRd V vb f.blocks := by
  obtain ⟨u, hu, hur⟩ := hv.part1 FuncD.p_blocks rfl rfl (K := vw h)
  have e : vb = u := by
   have hv' : ∃ cs : Array Value, v = .agg cs ∧ Rep.rd V cs.toList f := hv
   obtain ⟨cs, rfl, hcs⟩ := hv'
   have hb : h1[h.size]? = some (.cells cs T.api_Func (0, 0)) := by rw [e1]; simp
   have h3 : cellH (vw h1) ⟨h.size, 1, none⟩ = cs[1]? := by simp [cellH, vw, hb]
   simp at hu
   rw [cb.1] at h3
   rw [hu] at h3
   exact Option.some.inj h3
  rw [e]; exact rd_list.1 hur
 have hVW : V.le (grow V h h1) := le_grow (hJ.le h0)
 generalize grow V h h1 = W1 at j1 hVW
 generalize h.size = B at cb
 have hbb := cb.2.bound
 rw [hz]; clear hz z
 simp [cb.1, cb.2.len]
 refine lwp_range [1, 14, 15, 16] (fun (_ : Unit) b => [.func (.func gf) #[] caps.toArray, vb, .int .i64 f.blocks.length, .int .i64 b]) (fun _ b h2 => ∃ W, V.le W ∧ J (thTo f b) W h2) f.blocks.length ()
  rfl (by omega) rfl ⟨W1, hVW, j1⟩ (fun _ _ => rfl) (fun v i h1 hk m => by simp) ?_ ?_
 ·rintro _ b h2 hltb ⟨W2, hW2, j2⟩ K2 hK2
  have hvb2 := hvb.mono (View.le_trans hW2 (hJ.le j2))
  obtain ⟨u, hu, hur⟩ := (hvb.mono hW2).wh rfl (N := 6) rfl hltb
  refine lwp_hide fun z hz => ?_
  simp (disch := omega) [hvb2.idxn (N := 6) rfl, hu _ (hJ.le j2)]
  refine do_newX (X := W2) (z := .agg #[.slice none 0 0, .slice none 0 0, .int .i64 0, .slice none 0 0, .slice none 0 0, .int .i32 0]) (by kernel_rfl) rfl (by kernel_rfl) hur (fun _ => by simp) (fun _ => by simp) fun h3 hle3 hsz3 hat3 => ?_
  have j3 := hJ.ext j2 hle3
  have hat3' := hat3 (grow W2 h2 h3) (le_grow (hJ.le j2)) (by unfold grow; rw [if_neg (by omega)])
  obtain ⟨vp, vi, va, vt, bp, bi, bk, ba, bt⟩ := at_blkB hat3'
  have hVW3 := View.le_trans hW2 (le_grow (h' := h3) (hJ.le j2))
  generalize grow W2 h2 h3 = W3 at j3 hVW3 bp bi bk ba bt
  generalize h2.size = D at bp bi bk ba bt
  have hpre : thTo f b ++ thB f b <+: thingsS f := by rw [← thTo_succ]; exact thTo_pre hltb
  rw [hz]; clear hz z
  have bph := bp.2.bound
  have bih := bi.2.bound
  refine lwp_hide fun z hz => ?_
  simp [cellH_mono (hJ.le j3) bp.1, bp.2.len]
  refine lwp_range [1, 4, 5, 14, 15, 16, 22, 23, 24] (fun (_ : Unit) i => [.func (.func gf) #[] caps.toArray, .int .i64 b, .pointer (some ⟨D, 0, none⟩), vb, .int .i64 f.blocks.length, .int .i64 b, vp, .int .i64 (nth f.blocks b).phis.length, .int .i64 i])
   (fun _ i h4 => ∃ W, W3.le W ∧ J (thTo f b ++ rows (phiT f b) i) W h4) (nth f.blocks b).phis.length ()
   rfl (by omega) rfl ⟨W3, View.le_refl _, by simpa using j3⟩ (fun _ _ => rfl) (fun v i h1 hk m => by simp) ?_ ?_
  ·rintro _ i h4 hlti ⟨W4, hW4, j4⟩ K3 hK3
   have bp4 := bp.2.mono (View.le_trans hW4 (hJ.le j4))
   obtain ⟨u4, hu4, hur4⟩ := bp4.wh rfl (N := 2) rfl hlti
   refine lwp_hide fun y hy => ?_
   simp (disch := omega) [bp4.idxn (N := 2) rfl, hu4 _ (View.le_refl _)]
   refine do_newX (z := .agg #[.int .i64 0, .slice none 0 0]) (by kernel_rfl) rfl (by kernel_rfl) hur4 (fun _ => by simp) (fun _ => by simp) fun h5 hle5 hsz5 hat5 => ?_
   obtain ⟨c0, vq, cq⟩ := at_phiB (hat5 (vw h5) hle5 rfl)
   have rd := ((hat5 (vw h5) hle5 rfl).part PhiD.p_dst).rng
   have hpl := (hsm.blk b hltb).phi i hlti
   have hpt : phiT f b i = ⟨b, -1 - i, [(nth (nth f.blocks b).phis i).dst], (nth (nth f.blocks b).phis i).ins.map InD.val⟩ := rfl
   generalize nth (nth f.blocks b).phis i = x at c0 cq rd hpt hpl
   generalize h4.size = D4 at c0 cq
   have bq := cq.2.bound
   rw [hy]; clear hy y
   refine lwp_hide fun y hy => ?_
   simp
   rw [hy]; clear hy y
   refine lwp_hide fun y hy => ?_
   simp [cq.1, cq.2.len]
   refine lwp_range [1, 4, 5, 6, 7, 8, 14, 15, 16, 22, 23, 24, 30, 31, 32] (fun (r : Value) j => [.func (.func gf) #[] caps.toArray, .int .i64 b, .pointer (some ⟨D, 0, none⟩), .int .i64 i, .pointer (some ⟨D4, 0, none⟩), r, vb, .int .i64 f.blocks.length, .int .i64 b, vp, .int .i64 (nth f.blocks b).phis.length, .int .i64 i, vq, .int .i64 x.ins.length, .int .i64 j])
    (fun r j h6 => Mine nothing h5 h6 nothing T.int r ((x.ins.map InD.val).take j)) x.ins.length (.slice none 0 0)
    rfl (by omega) rfl (Mine.start nothing_le) (fun _ _ => rfl) (fun v i h1 hk m => by simp) ?_ ?_
   ·rintro r j h6 hltj m6 K4 hK4
    have cq6 := cq.2.mono m6.old
    obtain ⟨u6, hu6, hur6⟩ := cq6.wh rfl (N := 2) rfl hltj
    refine lwp_hide fun q hq => ?_
    simp (disch := omega) [cq6.idxn (N := 2) rfl, hu6 _ (View.le_refl _)]
    refine do_newX (z := .agg #[.int .i64 0, .int .i64 0]) (by kernel_rfl) rfl (by kernel_rfl) hur6 (fun _ => by simp) (fun _ => by simp) fun h7 hle7 hsz7 hat7 => ?_
    have e1 := (at_inB (hat7 (vw h7) hle7 rfl)).2
    have rv := ((hat7 (vw h7) hle7 rfl).part InD.p_val).rng
    generalize h6.size = D6 at e1
    rw [hq]; clear hq q
    simp [e1]
    have hl8 : ((x.ins.map InD.val).take j).length = j := by simp; omega
    refine (m6.ext' hle7).push (d := (nth x.ins j).val) El.s_int (by simp <;> rfl) (rd_i rv.1 rv.2) (by omega) (by omega) (fun _ => by simp) (fun _ => by simp) fun u8 v8 h8 m8 => ?_
    refine hK4 v8 _ _ rfl rfl ?_
    rw [List.take_add_one, List.getElem?_map, List.getElem?_eq_getElem hltj]
    rw [nth_eq hltj] at m8
    exact m8
   ·rintro r h6 m6
    rw [List.take_of_length_le (by simp)] at m6
    simp
    rw [hy]; clear hy y
    simp (disch := omega) [cellH_mono m6.old c0]
    refine do_litN (X := nothing) (ds := [x.dst]) (vs := [.int .i64 x.dst]) rfl El.s_int (by simp) ⟨rd_int.2 ⟨rfl, rd⟩, trivial⟩ nothing_le rfl (by omega) fun u7 h7 hle7 hsz7 hu7 _ => ?_
    have hle47 := View.le_trans hle5 (View.le_trans m6.old hle7)
    have j7 := hJ.ext j4 hle47
    have hW7 := View.le_trans hW4 (le_grow (h' := h7) (hJ.le j4))
    have pre : (thTo f b ++ rows (phiT f b) i) ++ [phiT f b i] <+: thingsS f := by
     rw [List.append_assoc, ← rows_succ]
     exact (pre_app ((rows_pre hlti).trans ⟨_, (List.append_assoc ..).symm⟩)).trans hpre
    rw [hpt] at pre
    refine do_callv (ops := [.tmp 43, .tmp 45, .tmp 48, .tmp 49]) rfl hg (hstep _ ⟨b, -1 - i, [x.dst], x.ins.map InD.val⟩ _ h7 u7 r (View.le_trans hVW3 hW7) pre j7 (hu7 _ nothing_le (grow_new (by have := ext_size hle5; have := ext_size m6.old; omega))) (m6.fresh.mono (fresh_in (ext_size hle5) hle7))) ?_
    rintro _ h8 j8
    exact hK3 () _ _ rfl rfl ⟨_, hW7, by rw [rows_succ, ← List.append_assoc, hpt]; exact j8⟩
  ·rintro _ h4 ⟨W4, hW4, j4⟩
   simp
   rw [hz]; clear hz z
   refine lwp_hide fun z hz => ?_
   have hW4h := View.le_trans hW4 (hJ.le j4)
   simp [cellH_mono hW4h bi.1, (bi.2.mono hW4h).len]
   refine lwp_range [1, 4, 5, 14, 15, 16, 53, 54, 55] (fun (_ : Unit) i => [.func (.func gf) #[] caps.toArray, .int .i64 b, .pointer (some ⟨D, 0, none⟩), vb, .int .i64 f.blocks.length, .int .i64 b, vi, .int .i64 (nth f.blocks b).ins.length, .int .i64 i])
    (fun _ i h5 => ∃ W, W3.le W ∧ J (thTo f b ++ rows (phiT f b) (nth f.blocks b).phis.length ++ rows (insT f b) i) W h5) (nth f.blocks b).ins.length ()
    rfl (by omega) rfl ⟨W4, hW4, by simpa using j4⟩ (fun _ _ => rfl) (fun v i h1 hk m => by simp) ?_ ?_
   ·rintro _ i h5 hlti ⟨W5, hW5, j5⟩ K3 hK3
    have bi5 := bi.2.mono (View.le_trans hW5 (hJ.le j5))
    obtain ⟨u5, hu5, hur5⟩ := (bi.2.mono hW5).wh rfl (N := 5) rfl hlti
    refine lwp_hide fun y hy => ?_
    simp (disch := omega) [bi5.idxn (N := 5) rfl, hu5 _ (hJ.le j5)]
    refine do_newX (z := .agg #[.int .i64 0, .int .i64 0, .int .i64 0, .slice none 0 0, .int .i32 0]) (by kernel_rfl) rfl (by kernel_rfl) hur5 (fun _ => by simp) (fun _ => by simp) fun h6 hle6 hsz6 hat6 => ?_
    have hatg := hat6 (grow W5 h5 h6) (le_grow (hJ.le j5)) (grow_new (Nat.le_refl _))
    have hat6' := hatg.mono (grow_le (View.le_trans (hJ.le j5) hle6))
    obtain ⟨_, _, _, vq, cq⟩ := at_insB hatg
    obtain ⟨w, w1, w2⟩ := hat6'.loads rfl
    have w1 : Un.ev (vw h6) (.loads 5) (.pointer (some ⟨h5.size, 0, none⟩)) = some w := w1
    have hpt : insT f b i = ⟨b, i, makesS (nth (nth f.blocks b).ins i), (nth (nth f.blocks b).ins i).args⟩ := rfl
    generalize nth (nth f.blocks b).ins i = x at cq w2 hpt
    generalize h5.size = D5 at cq w1
    rw [hy]; clear hy y
    have hg6 : (grow W5 h5 h6).le (vw h6) := grow_le (View.le_trans (hJ.le j5) hle6)
    refine drawn_at (vw h6) (View.le_refl _) ?_
    simp [cellH_mono hg6 cq.1, w1]
    refine call_to (by kernel_rfl) (makes_ok w2) ?_
    rintro u7 h7 ⟨hle7, hu7⟩
    refine ⟨hle7, ?_⟩
    have hle57 := View.le_trans hle6 hle7
    have j7 := hJ.ext j5 hle57
    have hW7 := View.le_trans hW5 (le_grow (h' := h7) (hJ.le j5))
    have pre : (thTo f b ++ rows (phiT f b) (nth f.blocks b).phis.length ++ rows (insT f b) i) ++ [insT f b i] <+: thingsS f := by
     rw [List.append_assoc, ← rows_succ, List.append_assoc]
     refine (pre_app ?_).trans hpre
     exact (pre_app (rows_pre hlti)).trans ⟨_, rfl⟩
    rw [hpt] at pre
    refine do_callv (ops := [.tmp 61, .tmp 62, .tmp 64, .tmp 66]) rfl hg (hstep _ ⟨b, i, makesS x, x.args⟩ _ h7 u7 vq (View.le_trans hVW3 hW7) pre j7 (hu7.mono (fresh_in (ext_size hle6) (View.le_refl _))) (cq.2.mono (grow_mono hle7))) ?_
    rintro _ h8 j8
    exact hK3 () _ _ rfl rfl ⟨_, hW7, by rw [rows_succ, ← List.append_assoc, hpt]; exact j8⟩
   ·rintro _ h5 ⟨W5, hW5, j5⟩
    simp
    rw [hz]; clear hz z
    have hW5h := View.le_trans hW5 (hJ.le j5)
    simp [cellH_mono hW5h bi.1, (bi.2.mono hW5h).len, cellH_mono hW5h ba.1]
    have pre : (thTo f b ++ rows (phiT f b) (nth f.blocks b).phis.length ++ rows (insT f b) (nth f.blocks b).ins.length) ++ [endT f b] <+: thingsS f := by
     rw [List.append_assoc, List.append_assoc, ← List.append_assoc (rows _ _)]
     exact hpre
    refine do_callv (ops := [.tmp 70, .tmp 73, .const (.slice none 0 0), .tmp 76]) rfl hg (hstep _ ⟨b, (nth f.blocks b).ins.length, [], (nth f.blocks b).term.args⟩ _ h5 (.slice none 0 0) va (View.le_trans hVW3 hW5) pre j5 nil_sl (ba.2.mono hW5)) ?_
    rintro _ h6 j6
    refine hK2 () _ _ rfl rfl ⟨_, View.le_trans hVW3 hW5, ?_⟩
    have e : thTo f (b + 1) = (thTo f b ++ rows (phiT f b) (nth f.blocks b).phis.length ++ rows (insT f b) (nth f.blocks b).ins.length) ++ [endT f b] := by
     rw [thTo_succ, thB]; simp [List.append_assoc]
    rw [e]; exact j6
 ·rintro _ h2 ⟨W2, hW2, j2⟩
  simp
  exact hK _ _ ⟨W2, hW2, j2⟩
end Go.Proofs.Ytfelpjfopgiabaa
namespace Go.Proofs.Ytfelpjfopgiabaa
open Go Go.Lft
def topStep (top n : Int) : Int := if withinS n 0 8191 then (if top < n + 1 then n + 1 else top) else top
def topTh (top : Int) (t : Th) : Int := t.mks.foldl topStep top
def topBase (ps : Int) : Int := if 8192 < (if ps < 0 then 0 else ps) then 8192 else (if ps < 0 then 0 else ps)
def topS (f : FuncD) : Int := (thingsS f).foldl topTh (topBase f.params)
theorem topStep_le {top n : Int} (h : 0 ≤ top ∧ top ≤ 8192) : 0 ≤ topStep top n ∧ topStep top n ≤ 8192 := by
 unfold topStep
 split
 ·rename_i hw
  simp only [withinS, Bool.and_eq_true, decide_eq_true_eq] at hw
  split <;> omega
 ·exact h
theorem foldl_inv {α β : Type} (I : β → Prop) {f : β → α → β} (hf : ∀ x a, I x → I (f x a)) : ∀ (l : List α) (x : β), I x → I (l.foldl f x)
 | [], _, h => h
 | a :: l, x, h => foldl_inv I hf l _ (hf x a h)
theorem topTh_le {top : Int} {t : Th} (h : 0 ≤ top ∧ top ≤ 8192) : 0 ≤ topTh top t ∧ topTh top t ≤ 8192 := foldl_inv (fun x => 0 ≤ x ∧ x ≤ 8192) (fun _ _ h => topStep_le h) _ _ h
theorem topBase_le {ps : Int} : 0 ≤ topBase ps ∧ topBase ps ≤ 8192 := by unfold topBase; split <;> split <;> omega
theorem topS_le {f : FuncD} : 0 ≤ topS f ∧ topS f ≤ 8192 := foldl_inv (fun x => 0 ≤ x ∧ x ≤ 8192) (fun _ _ h => topTh_le h) _ _ topBase_le
structure Nv (D : Nat) (T : TypeId) (x : Int) (W : View) (h : Heap) : Prop where
 le : W.le (vw h)
 av : W D = none
 cell : h[D]? = some (.cells #[.int .i64 x] T (0, 0))
theorem Nv.lt {D : Nat} {T : TypeId} {x : Int} {W : View} {h : Heap} (k : Nv D T x W h) : D < h.size := (Array.getElem?_eq_some_iff.1 k.cell).1
theorem Nv.ext {D : Nat} {T : TypeId} {x : Int} {W : View} {h h' : Heap} (k : Nv D T x W h) (hle : (vw h).le (vw h')) : Nv D T x (grow W h h') h' :=
 ⟨grow_le (View.le_trans k.le hle), by rw [grow_same k.lt]; exact k.av, hle _ _ k.cell⟩
theorem Nv.read {D : Nat} {T : TypeId} {x : Int} {W : View} {h : Heap} (k : Nv D T x W h) : cellH (vw h) ⟨D, 0, none⟩ = some (.int .i64 x) := cellH_blk (show vw h D = _ from k.cell) rfl
theorem Nv.put {po : OP} {P : Program} {t ty : TypeId} {x y : Operand} {us : List (Nat × Value)} {D : Nat} {T : TypeId} {a b : Int} {W : View} {h : Heap} {K : Value → Heap → Prop} (k : Nv D T a W h) (hsz : sizeB P t = some 1) (hx : asg us x = .pointer (some ⟨D, 0, none⟩)) (hy : asg us y = .int .i64 b)
  (hK : ∀ h', Nv D T b W h' → K undef h') : Lft.step P (.store t x y) ty us h K := by
 refine do_store (g := D) (o := 0) (n := 1) (v := .int .i64 b) hsz hx hy rfl (by simp [Value.oneCell']) k.cell (by simp) fun h' hs ⟨row, hr, he⟩ ho => hK h' ⟨fun c o hc => ?_, k.av, ?_⟩
 ·have hne : c ≠ D := fun e => by rw [e, k.av] at hc; cases hc
  show h'[c]? = _
  rw [ho c hne]; exact k.le c o hc
 ·rw [one_cell rfl rfl he] at hr; exact hr
theorem top1_ok {D : Nat} {x blk place : Int} {ms : List Int} {vm vt : Value} {W : View} {h : Heap} (k : Nv D T.int x W h) (hx : 0 ≤ x ∧ x ≤ 8192) (hm : SlRd W vm ms) :
  HCalls Try.prog N.check_Top_1 #[.int .i64 blk, .int .i64 place, vm, vt, .pointer (some ⟨D, 0, none⟩)] h (fun _ h2 => Nv D T.int (ms.foldl topStep x) W h2) := by
 refine calls_lift (args := [.int .i64 blk, .int .i64 place, vm, vt, .pointer (some ⟨D, 0, none⟩)]) follows F.check_Top_1 E.check_Top_1 (Nat.le_of_ble_eq_true (by kernel_rfl)) fun K hK => ?_
 have bm := hm.bound
 simp [L.check_Top_1, (hm.mono k.le).len]
 refine lwp_range [4, 11, 12, 13] (fun (_ : Unit) i => [.pointer (some ⟨D, 0, none⟩), vm, .int .i64 ms.length, .int .i64 i]) (fun _ i h1 => Nv D T.int ((ms.take i).foldl topStep x) W h1) ms.length ()
  rfl (by omega) rfl k (fun _ _ => rfl) (fun v i h1 hk m => by simp) ?_ ?_
 ·rintro _ i h1 hlt k1 K2 hK2
  have hm1 := hm.mono k1.le
  have hst : (ms.take (i + 1)).foldl topStep x = topStep ((ms.take i).foldl topStep x) (nth ms i) := by
   rw [List.take_succ_eq_append_getElem hlt, List.foldl_append, nth_eq hlt]; rfl
  have hb := foldl_inv (f := topStep) (fun x => 0 ≤ x ∧ x ≤ 8192) (fun _ _ h => topStep_le h) (ms.take i) x hx
  generalize (ms.take i).foldl topStep x = y at k1 hst hb
  refine lwp_hide fun z hz => ?_
  simp (disch := omega) [hm1.idx1 rfl, hm1.int (View.le_refl _)]
  rw [hz]; clear hz z
  refine lwp_hide fun z hz => ?_
  simp
  refine call_to (by kernel_rfl) within_ok ?_
  rintro _ _ ⟨rfl, rfl⟩
  rw [hz]; clear hz z
  cases hw : withinS (nth ms i) 0 8191 with
  | false =>
   simp
   exact hK2 () _ _ rfl rfl (by rw [hst, topStep, hw]; exact k1)
  | true =>
   have hw' := hw
   simp only [withinS, Bool.and_eq_true, decide_eq_true_eq] at hw'
   simp (disch := omega) [k1.read]
   refine k1.put (by kernel_rfl) rfl rfl fun h2 k2 => ?_
   exact hK2 () _ _ rfl rfl (by rw [hst, topStep, hw]; exact k2)
 ·rintro _ h1 k1
  rw [List.take_length] at k1
  simp
  exact hK _ _ k1
theorem top_ok {f : FuncD} {v : Value} {h : Heap} (hv : Rd (vw h) v f) (hsm : SmF f) : HCalls Try.prog N.check_Top #[v] h (fun u h' => u = .int .i64 (topS f) ∧ (vw h).le (vw h')) := by
 refine calls_lift (args := [v]) follows F.check_Top E.check_Top (Nat.le_of_ble_eq_true (by kernel_rfl)) fun K hK => ?_
 dsimp only [L.check_Top]
 refine lwp_hide fun z hz => ?_
 simp
 refine do_boxT rfl hv fun h1 e1 hle1 hs1 hat => ?_
 obtain ⟨cp, vb, cb⟩ := at_funcB hat
 obtain ⟨u, hu, hur⟩ := hat.loads rfl
 have hu : Un.ev (vw h1) (.loads 2) (.pointer (some ⟨h.size, 0, none⟩)) = some u := hu
 generalize h.size = B at cp cb hu
 rw [hz]; clear hz z
 refine lwp_hide fun z hz => ?_
 simp [cp]
 refine do_newV (n := 1) (z := .int .i64 0) (v := .int .i64 (topBase f.params)) (by kernel_rfl) rfl (by kernel_rfl) rfl (by simp [Value.oneCell']) (fun _ => by simp) (fun _ => by simp [topBase]) fun h2 hle2 hs2 hb2 => ?_
 have hu2 : Un.ev (vw h2) (.loads 2) (.pointer (some ⟨B, 0, none⟩)) = some u := by
  have := ev_mono (ρ := fun _ => none) (e := .un (.loads 2) (.con (.pointer (some ⟨B, 0, none⟩)))) hle2 (v := u) (by simpa using hu)
  simpa using this
 rw [hz]; clear hz z
 refine lwp_hide fun z hz => ?_
 simp [hu2]
 have hN : Nv h1.size T.int (topBase f.params) (vw h1) h2 := ⟨hle2, by simp [vw], hb2⟩
 refine call_to (by kernel_rfl) (things_ok (caps := [.pointer (some ⟨h1.size, 0, none⟩)]) (J := fun l W h => Nv h1.size T.int (l.foldl topTh (topBase f.params)) W h) hur hsm ⟨fun k => k.le, fun k hle => k.ext hle⟩ (by kernel_rfl) hN fun l t W h3 vm vt hVW _ k hm ht => ?_) ?_
 ·have := foldl_inv (f := topTh) (fun x => 0 ≤ x ∧ x ≤ 8192) (fun _ _ h => topTh_le h) l _ (topBase_le (ps := f.params))
  refine (top1_ok k this hm).mono fun _ h4 k4 => ?_
  rw [List.foldl_append]; exact k4
 ·rintro _ h3 ⟨W, hVW, k⟩
  rw [hz]; clear hz z
  simp [k.read]
  exact hK _ _ ⟨rfl, View.le_trans hle1 (View.le_trans hVW k.le)⟩
def inc64 (x : Int) : Int := IntKind.i64.wrap (x + 1)
def useStep (l : List Int) (n : Int) : List Int := if withinS n 0 ((l.length : Int) - 1) then l.set n.toNat (inc64 (nth l n.toNat)) else l
def useTh (l : List Int) (t : Th) : List Int := t.tks.foldl useStep l
def usedS (f : FuncD) : List Int := (thingsS f).foldl useTh (List.replicate (topS f).toNat 0)
theorem i64_rng {x : Int} : -9223372036854775808 ≤ IntKind.i64.wrap x ∧ IntKind.i64.wrap x ≤ 9223372036854775807 := by
 rw [IntKind.wrap_i64]; omega
structure Us (D : Nat) (vo : Value) (l : List Int) (W : View) (h : Heap) : Prop where
 le : W.le (vw h)
 av : Av W vo
 own : OwnT nothing h T.int vo l
 box : cellH W ⟨D, 0, none⟩ = some vo
theorem Us.ext {D : Nat} {vo : Value} {l : List Int} {W : View} {h h' : Heap} (k : Us D vo l W h) (hle : (vw h).le (vw h')) : Us D vo l (grow W h h') h' :=
 ⟨grow_le (View.le_trans k.le hle), k.av.grow fun b hb => k.own.lt hb, k.own.ext hle, cellH_mono (le_grow k.le) k.box⟩
theorem Us.now {D : Nat} {vo : Value} {l : List Int} {W : View} {h : Heap} (k : Us D vo l W h) : SlRd (vw h) vo l := k.own.now nothing_le
theorem uses1_ok {D : Nat} {blk place : Int} {vo vm vt : Value} {l ts : List Int} {W : View} {h : Heap} (k : Us D vo l W h) (ht : SlRd W vt ts) :
  HCalls Try.prog N.check_Uses_1 #[.int .i64 blk, .int .i64 place, vm, vt, .pointer (some ⟨D, 0, none⟩)] h (fun _ h2 => Us D vo (ts.foldl useStep l) W h2) := by
 refine calls_lift (args := [.int .i64 blk, .int .i64 place, vm, vt, .pointer (some ⟨D, 0, none⟩)]) follows F.check_Uses_1 E.check_Uses_1 (Nat.le_of_ble_eq_true (by kernel_rfl)) fun K hK => ?_
 have bm := ht.bound
 simp [L.check_Uses_1, (ht.mono k.le).len]
 refine lwp_range [4, 11, 12, 13] (fun (_ : Unit) i => [.pointer (some ⟨D, 0, none⟩), vt, .int .i64 ts.length, .int .i64 i]) (fun _ i h1 => Us D vo ((ts.take i).foldl useStep l) W h1) ts.length ()
  rfl (by omega) rfl k (fun _ _ => rfl) (fun v i h1 hk m => by simp) ?_ ?_
 ·rintro _ i h1 hlt k1 K2 hK2
  have hm1 := ht.mono k1.le
  have hst : (ts.take (i + 1)).foldl useStep l = useStep ((ts.take i).foldl useStep l) (nth ts i) := by
   rw [List.take_succ_eq_append_getElem hlt, List.foldl_append, nth_eq hlt]; rfl
  generalize (ts.take i).foldl useStep l = y at k1 hst
  have hy := k1.now
  have yb := hy.bound
  refine lwp_hide fun z hz => ?_
  simp (disch := omega) [hm1.idx1 rfl, hm1.int (View.le_refl _)]
  rw [hz]; clear hz z
  refine lwp_hide fun z hz => ?_
  simp (disch := omega) [cellH_mono k1.le k1.box, hy.len]
  refine call_to (by kernel_rfl) within_ok ?_
  rintro _ _ ⟨rfl, rfl⟩
  rw [hz]; clear hz z
  cases hw : withinS (nth ts i) 0 ((y.length : Int) - 1) with
  | false =>
   simp
   exact hK2 () _ _ rfl rfl (by rw [hst, useStep, hw]; exact k1)
  | true =>
   have hw' := hw
   simp only [withinS, Bool.and_eq_true, decide_eq_true_eq] at hw'
   simp (disch := omega) [cellH_mono k1.le k1.box, hy.idx1 rfl, hy.int (View.le_refl _)]
   refine do_set (W := nothing) (i := (nth ts i).toNat) (d := inc64 (nth y (nth ts i).toNat)) (by kernel_rfl) (by simp [show Rep.n Int = 1 from rfl]) (by simp [inc64] <;> rfl) k1.own (by omega) (rd_int.2 ⟨rfl, i64_rng⟩) fun h2 o2 m2 => ?_
   refine hK2 () _ _ rfl rfl ?_
   rw [hst, useStep, hw]
   exact ⟨(m2.view k1.le k1.av).1, k1.av, o2, k1.box⟩
 ·rintro _ h1 k1
  rw [List.take_length] at k1
  simp
  exact hK _ _ k1
theorem uses2_ok {f : FuncD} {v : Value} {h : Heap} (hv : Rd (vw h) v f) (hsm : SmF f) : HCalls Try.prog N.check_Uses #[v] h (fun u h' => (vw h).le (vw h') ∧ SlRd (fresh h h') u (usedS f)) := by
 refine calls_lift (args := [v]) follows F.check_Uses E.check_Uses (Nat.le_of_ble_eq_true (by kernel_rfl)) fun K hK => ?_
 dsimp only [L.check_Uses]
 refine lwp_hide fun z hz => ?_
 simp
 refine do_boxT rfl hv fun h1 e1 hle1 hs1 hat => ?_
 obtain ⟨u, hu, hur⟩ := hat.loads rfl
 have hu : Un.ev (vw h1) (.loads 2) (.pointer (some ⟨h.size, 0, none⟩)) = some u := hu
 generalize h.size = B at hu
 rw [hz]; clear hz z
 refine lwp_hide fun z hz => ?_
 simp [hu]
 refine call_to (by kernel_rfl) (top_ok hur hsm) ?_
 rintro _ h2 ⟨rfl, hle2⟩
 have ht := topS_le (f := f)
 obtain ⟨n, hn⟩ := Int.eq_ofNat_of_zero_le ht.1
 refine Mine.made (k := .i64) (V := nothing) (W := nothing) (h0 := h) (n := n) (d := (0 : Int)) El.s_int (View.le_trans hle1 hle2) nothing_le (Old.nothing _ _) (by simp [hn]) (by simp [hn]) ⟨rfl, by omega, by omega⟩ (by omega) (by omega) fun vo h3 m3 hle3 hb3 => ?_
 obtain ⟨hvc, hvo⟩ := cells_of_own m3.own
 refine do_newV (n := 1) (z := .slice none 0 0) (v := vo) (by kernel_rfl) rfl (by kernel_rfl) (by rw [hvc]; rfl) (by rw [hvc]; simpa using hvo) (fun _ => by simp) (fun _ => by simp) fun h4 hle4 hs4 hb4 => ?_
 have hle14 := View.le_trans hle2 (View.le_trans hle3 hle4)
 have hu4 : Un.ev (vw h4) (.loads 2) (.pointer (some ⟨B, 0, none⟩)) = some u := by
  have := ev_mono (ρ := fun _ => none) (e := .un (.loads 2) (.con (.pointer (some ⟨B, 0, none⟩)))) hle14 (v := u) (by simpa using hu)
  simpa using this
 rw [hz]; clear hz z
 refine lwp_hide fun z hz => ?_
 simp [hu4]
 have hbut : (but vo h4).le (vw h4) := but_le
 have hs2 : h2.size < h3.size := m3.own.lt hb3
 have hDne : vo.ownBlock ≠ some h3.size := by rw [hb3]; intro e; simp only [Option.some.injEq] at e; omega
 have hrow : usedS f = (thingsS f).foldl useTh (List.replicate n 0) := by rw [usedS, hn]; rfl
 have hU : Us h3.size vo (List.replicate n 0) (but vo h4) h4 := ⟨hbut, but_av, m3.own.ext hle4, cellH_blk (c := #[vo]) (T := T.s_int) (fz := (0, 0)) (by unfold but; rw [if_neg hDne, hb4, hvc]) rfl⟩
 have hur4 : Rd (but vo h4) u f := by
  have := hur.mono (K := but vo h4) (fun b o hb => by
   have hlt := View.lt (View.le_refl (vw h1)) hb
   have h4b := hle14 b o hb
   unfold but
   rw [if_neg]
   ·exact h4b
   ·rw [hb3]; intro e; simp only [Option.some.injEq] at e; have := ext_size hle2; omega)
  exact this
 refine call_to (by kernel_rfl) (things_ok (caps := [.pointer (some ⟨h3.size, 0, none⟩)]) (J := fun l W h => Us h3.size vo (l.foldl useTh (List.replicate n 0)) W h) hur4 hsm ⟨fun k => k.le, fun k hle => k.ext hle⟩ (by kernel_rfl) hU fun l t W h5 vm vt hVW _ k hm ht => ?_) ?_
 ·refine (uses1_ok k ht).mono fun _ h6 k6 => ?_
  rw [List.foldl_append]; exact k6
 ·rintro _ h5 ⟨W, hVW, k⟩
  rw [hz]; clear hz z
  simp [cellH_mono k.le k.box]
  have hle : (vw h).le (vw h5) := fun b o hb => by
   have hlt := View.lt (View.le_refl (vw h)) hb
   refine k.le b o (hVW b o ?_)
   unfold but
   rw [if_neg]
   ·exact View.le_trans hle1 hle14 b o hb
   ·rw [hb3]; intro e; simp only [Option.some.injEq] at e; have := ext_size hle2; omega
  refine hK _ _ ⟨hle, ?_⟩
  rw [hrow]
  refine k.own.fresh (fun _ _ h => by cases h) fun b hb => ?_
  rw [hb3] at hb; cases hb
  exact View.none_of_ge (View.le_refl _) (by have := ext_size hle2; omega)
end Go.Proofs.Ytfelpjfopgiabaa
namespace Go.Proofs.Ytfelpjfopgiabaa
open Go Go.Lft
theorem mem_rows {β : Type} {x : Nat → β} {n : Nat} {y : β} : y ∈ rows x n ↔ ∃ i, i < n ∧ y = x i := by
 simp only [rows, List.mem_map, List.mem_range]
 exact ⟨fun ⟨i, h, e⟩ => ⟨i, h, e.symm⟩, fun ⟨i, h, e⟩ => ⟨i, h, e.symm⟩⟩
theorem mem_thTo {f : FuncD} {n : Nat} {t : Th} : t ∈ thTo f n ↔ ∃ b, b < n ∧ t ∈ thB f b := by
 induction n with
 | zero => simp [thTo, up]
 | succ n ih =>
  rw [thTo_succ, List.mem_append, ih]
  constructor
  ·rintro (⟨b, h1, h2⟩ | h)
   ·exact ⟨b, by omega, h2⟩
   ·exact ⟨n, by omega, h⟩
  ·rintro ⟨b, h1, h2⟩
   rcases Nat.lt_or_ge b n with h | h
   ·exact .inl ⟨b, h, h2⟩
   ·rw [show b = n by omega] at h2; exact .inr h2
theorem mem_thB {f : FuncD} {b : Nat} {t : Th} : t ∈ thB f b ↔ (∃ i, i < (nth f.blocks b).phis.length ∧ t = phiT f b i) ∨ (∃ i, i < (nth f.blocks b).ins.length ∧ t = insT f b i) ∨ t = endT f b := by
 simp only [thB, List.mem_append, mem_rows, List.mem_singleton, or_assoc]
theorem makesS_len {i : InsD} : (makesS i).length ≤ 2 := by unfold makesS; split <;> (try split) <;> simp
structure ThOk (f : FuncD) (t : Th) : Prop where
 blk : 0 ≤ t.blk ∧ t.blk < f.blocks.length
 place : -10000 ≤ t.place ∧ t.place ≤ 10000
 mks : t.mks.length ≤ 10000
 tks : t.tks.length ≤ 10000
 ins : 0 ≤ t.place → t.mks ≠ [] → t.place < (nth f.blocks t.blk.toNat).ins.length
theorem thing_ok {f : FuncD} (hsm : SmF f) {t : Th} (h : t ∈ thingsS f) : ThOk f t := by
 obtain ⟨b, hb, h⟩ := mem_thTo.1 h
 have s := hsm.blk b hb
 have sp := s.phis
 have si := s.ins
 rcases mem_thB.1 h with ⟨i, hi, rfl⟩ | ⟨i, hi, rfl⟩ | rfl
 ·exact ⟨⟨by simp [phiT], by simp [phiT]; omega⟩, by simp only [phiT]; omega, by simp [phiT], by simpa [phiT] using s.phi i hi, fun h => by simp only [phiT] at h; omega⟩
 ·refine ⟨⟨by simp [insT], by simp [insT]; omega⟩, by simp only [insT]; omega, Nat.le_trans makesS_len (by decide), s.inn i hi, fun _ _ => by simp [insT]; omega⟩
 ·exact ⟨⟨by simp [endT], by simp [endT]; omega⟩, by simp only [endT]; omega, by simp [endT], s.args, fun _ h => absurd rfl h⟩
theorem thTo_len {f : FuncD} (hsm : SmF f) : ∀ {n : Nat}, n ≤ f.blocks.length → (thTo f n).length ≤ n * 20001
 | 0, _ => by simp [thTo, up]
 | n + 1, h => by
  have ih := thTo_len hsm (n := n) (by omega)
  have s := hsm.blk n (by omega)
  have sp := s.phis
  have si := s.ins
  rw [thTo_succ, List.length_append, thB]
  simp only [List.length_append, rows_len, List.length_singleton]
  omega
theorem things_len {f : FuncD} (hsm : SmF f) : (thingsS f).length ≤ 200010000 := by
 have := thTo_len hsm (Nat.le_refl f.blocks.length)
 have := hsm.len
 unfold thingsS; omega
abbrev WL := List (Int × Int)
def whereStep (val : Int) (w : Int × Int) (l : WL) (n : Int) : WL := if n = val then l ++ [w] else l
def madeTh (val : Int) (l : WL) (t : Th) : WL := t.mks.foldl (whereStep val (t.blk, t.place)) l
def takenTh (val : Int) (l : WL) (t : Th) : WL := t.tks.foldl (whereStep val (t.blk, t.place)) l
theorem whereStep_len {val : Int} {w : Int × Int} {ns : List Int} : ∀ {l : WL}, (ns.foldl (whereStep val w) l).length ≤ l.length + ns.length := by
 induction ns with
 | nil => simp
 | cons n ns ih =>
  intro l
  rw [List.foldl_cons]
  have := ih (l := whereStep val w l n)
  have h2 : (whereStep val w l n).length ≤ l.length + 1 := by unfold whereStep; split <;> simp
  simp only [List.length_cons]; omega
theorem foldTh_len {F : WL → Th → WL} {c : Nat} {l : List Th} (h : ∀ t ∈ l, ∀ x, (F x t).length ≤ x.length + c) : ∀ (x : WL), (l.foldl F x).length ≤ x.length + l.length * c := by
 induction l with
 | nil => simp
 | cons t l ih =>
  intro x
  rw [List.foldl_cons]
  have h1 := ih (fun t ht => h t (List.mem_cons_of_mem _ ht)) (F x t)
  have h2 := h t (List.mem_cons_self ..) x
  simp only [List.length_cons, Nat.succ_mul]; omega
def foldOwn (B1 : Nat) (v1 : Value) (l1 : WL) (B2 : Nat) (v2 : Value) (l2 : WL) : Own := fun k =>
 if k = (0, 0) then bx T.s_check_where B1 (Raw.mk v1) else if k = (0, 1) then it T.check_where v1 l1 else if k = (1, 0) then bx T.s_check_where B2 (Raw.mk v2) else if k = (1, 1) then it T.check_where v2 l2 else none
structure Fo (val : Int) (C B1 B2 : Nat) (l1 l2 : WL) (W : View) (h : Heap) : Prop where
 box : cellH W ⟨C, 0, none⟩ = some (.int .i64 val)
 ex : ∃ v1 v2, Owns W h (foldOwn B1 v1 l1 B2 v2 l2)
theorem Fo.le {val : Int} {C B1 B2 : Nat} {l1 l2 : WL} {W : View} {h : Heap} (k : Fo val C B1 B2 l1 l2 W h) : W.le (vw h) := let ⟨_, _, w⟩ := k.ex; w.wle
theorem Fo.ext {val : Int} {C B1 B2 : Nat} {l1 l2 : WL} {W : View} {h h' : Heap} (k : Fo val C B1 B2 l1 l2 W h) (hle : (vw h).le (vw h')) : Fo val C B1 B2 l1 l2 (grow W h h') h' :=
 ⟨cellH_mono (le_grow k.le) k.box, let ⟨v1, v2, w⟩ := k.ex; ⟨v1, v2, w.ext hle⟩⟩
theorem fold1_ok {val blk place : Int} {C B1 B2 : Nat} {l1 l2 : WL} {ms ts : List Int} {vm vt : Value} {W : View} {h : Heap} (k : Fo val C B1 B2 l1 l2 W h) (hm : SlRd W vm ms) (ht : SlRd W vt ts) (r1 : -10000 ≤ blk ∧ blk ≤ 10000) (r2 : -10000 ≤ place ∧ place ≤ 10000)
  (b1 : l1.length + ms.length ≤ 2000100000000) (b2 : l2.length + ts.length ≤ 2000100000000) :
  HCalls Try.prog N.check_Foldable_1 #[.int .i64 blk, .int .i64 place, vm, vt, .pointer (some ⟨C, 0, none⟩), .pointer (some ⟨B1, 0, none⟩), .pointer (some ⟨B2, 0, none⟩)] h
   (fun _ h2 => Fo val C B1 B2 (ms.foldl (whereStep val (blk, place)) l1) (ts.foldl (whereStep val (blk, place)) l2) W h2) := by
 refine calls_lift (args := [.int .i64 blk, .int .i64 place, vm, vt, .pointer (some ⟨C, 0, none⟩), .pointer (some ⟨B1, 0, none⟩), .pointer (some ⟨B2, 0, none⟩)]) follows F.check_Foldable_1 E.check_Foldable_1 (Nat.le_of_ble_eq_true (by kernel_rfl)) fun K hK => ?_
 have bm := hm.bound
 have bt := ht.bound
 dsimp only [L.check_Foldable_1]
 refine lwp_hide fun z hz => ?_
 simp [(hm.mono k.le).len]
 refine lwp_range [0, 1, 3, 4, 5, 6, 15, 16, 17] (fun (_ : Unit) i => [.int .i64 blk, .int .i64 place, vt, .pointer (some ⟨C, 0, none⟩), .pointer (some ⟨B1, 0, none⟩), .pointer (some ⟨B2, 0, none⟩), vm, .int .i64 ms.length, .int .i64 i])
  (fun _ i h1 => Fo val C B1 B2 ((ms.take i).foldl (whereStep val (blk, place)) l1) l2 W h1) ms.length ()
  rfl (by omega) rfl k (fun _ _ => rfl) (fun v i h1 hk m => by simp) ?_ ?_
 ·rintro _ i h1 hlt k1 K2 hK2
  have hm1 := hm.mono k1.le
  have hst : (ms.take (i + 1)).foldl (whereStep val (blk, place)) l1 = whereStep val (blk, place) ((ms.take i).foldl (whereStep val (blk, place)) l1) (nth ms i) := by
   rw [List.take_succ_eq_append_getElem hlt, List.foldl_append, nth_eq hlt]; rfl
  have hlen := whereStep_len (val := val) (w := (blk, place)) (ns := ms.take i) (l := l1)
  rw [List.length_take] at hlen
  generalize (ms.take i).foldl (whereStep val (blk, place)) l1 = y at k1 hst hlen
  refine lwp_hide fun z hz => ?_
  simp (disch := omega) [hm1.idx1 rfl, hm1.int (View.le_refl _)]
  rw [hz]; clear hz z
  refine lwp_hide fun z hz => ?_
  simp [cellH_mono k1.le k1.box]
  rw [hz]; clear hz z
  by_cases he : nth ms i = val
  ·rw [whereStep, if_pos he] at hst
   obtain ⟨v1, v2, w⟩ := k1.ex
   have hbx := (w.at (k := (0, 0)) (d := Raw.mk v1) (B := B1) (e := T.s_check_where) rfl).raw
   simp [he, hbx]
   refine do_build (z := .agg #[.int .i64 0, .int .i64 0]) (places := [(0, 1), (1, 1)]) (vs := [(0, .int .i64 blk), (1, .int .i64 place)]) (cs := #[.int .i64 blk, .int .i64 place]) (by kernel_rfl) (by kernel_rfl) (by simp) (by rfl) ?_
   refine w.do_push (k := (0, 1)) (α := Int × Int) (d := (blk, place)) rfl El.s_check_where rfl (rd_pair.2 ⟨rfl, ⟨by omega, by omega⟩, by omega, by omega⟩) (by omega) (by omega) (fun _ => rfl) (fun _ => rfl) fun u v' h2 w2 hs2 => ?_
   have hc := w2.cells (k := (0, 1)) (Own.upd_self)
   refine w2.do_field (k := (0, 0)) (D := Raw.mk v1) (B := B1) (e := T.s_check_where) (Part.all) (d := Raw.mk v') rfl (by kernel_rfl) rfl rfl (rd_raw.2 ⟨rfl, hc.2⟩) fun h3 w3 hs3 => ?_
   refine hK2 () _ _ rfl rfl ⟨k1.box, v', v2, w3.congr fun q => ?_⟩
   rw [hst]
   unfold foldOwn Own.upd
   repeat' split
   all_goals first | rfl | simp_all
  ·rw [whereStep, if_neg he] at hst
   simp [he]
   exact hK2 () _ _ rfl rfl (by rw [hst]; exact k1)
 ·rintro _ h1 k1
  rw [List.take_length] at k1
  simp
  rw [hz]; clear hz z
  simp [(ht.mono k1.le).len]
  generalize ms.foldl (whereStep val (blk, place)) l1 = m1 at k1 hK
  refine lwp_range [0, 1, 4, 5, 6, 31, 32, 33] (fun (_ : Unit) i => [.int .i64 blk, .int .i64 place, .pointer (some ⟨C, 0, none⟩), .pointer (some ⟨B1, 0, none⟩), .pointer (some ⟨B2, 0, none⟩), vt, .int .i64 ts.length, .int .i64 i])
   (fun _ i h2 => Fo val C B1 B2 m1 ((ts.take i).foldl (whereStep val (blk, place)) l2) W h2) ts.length ()
   rfl (by omega) rfl k1 (fun _ _ => rfl) (fun v i h1 hk m => by simp) ?_ ?_
  ·rintro _ i h2 hlt k2 K2 hK2
   have ht2 := ht.mono k2.le
   have hst : (ts.take (i + 1)).foldl (whereStep val (blk, place)) l2 = whereStep val (blk, place) ((ts.take i).foldl (whereStep val (blk, place)) l2) (nth ts i) := by
    rw [List.take_succ_eq_append_getElem hlt, List.foldl_append, nth_eq hlt]; rfl
   have hlen := whereStep_len (val := val) (w := (blk, place)) (ns := ts.take i) (l := l2)
   rw [List.length_take] at hlen
   generalize (ts.take i).foldl (whereStep val (blk, place)) l2 = y at k2 hst hlen
   refine lwp_hide fun z hz => ?_
   simp (disch := omega) [ht2.idx1 rfl, ht2.int (View.le_refl _)]
   rw [hz]; clear hz z
   refine lwp_hide fun z hz => ?_
   simp [cellH_mono k2.le k2.box]
   rw [hz]; clear hz z
   by_cases he : nth ts i = val
   ·rw [whereStep, if_pos he] at hst
    obtain ⟨v1, v2, w⟩ := k2.ex
    have hbx := (w.at (k := (1, 0)) (d := Raw.mk v2) (B := B2) (e := T.s_check_where) rfl).raw
    simp [he, hbx]
    refine do_build (z := .agg #[.int .i64 0, .int .i64 0]) (places := [(0, 1), (1, 1)]) (vs := [(0, .int .i64 blk), (1, .int .i64 place)]) (cs := #[.int .i64 blk, .int .i64 place]) (by kernel_rfl) (by kernel_rfl) (by simp) (by rfl) ?_
    refine w.do_push (k := (1, 1)) (α := Int × Int) (d := (blk, place)) rfl El.s_check_where rfl (rd_pair.2 ⟨rfl, ⟨by omega, by omega⟩, by omega, by omega⟩) (by omega) (by omega) (fun _ => rfl) (fun _ => rfl) fun u v' h3 w2 hs2 => ?_
    have hc := w2.cells (k := (1, 1)) (Own.upd_self)
    refine w2.do_field (k := (1, 0)) (D := Raw.mk v2) (B := B2) (e := T.s_check_where) (Part.all) (d := Raw.mk v') rfl (by kernel_rfl) rfl rfl (rd_raw.2 ⟨rfl, hc.2⟩) fun h4 w3 hs3 => ?_
    refine hK2 () _ _ rfl rfl ⟨k2.box, v1, v', w3.congr fun q => ?_⟩
    rw [hst]
    unfold foldOwn Own.upd
    repeat' split
    all_goals first | rfl | simp_all
   ·rw [whereStep, if_neg he] at hst
    simp [he]
    exact hK2 () _ _ rfl rfl (by rw [hst]; exact k2)
  ·rintro _ h2 k2
   rw [List.take_length] at k2
   simp
   exact hK _ _ k2
def madeL (val : Int) (l : List Th) : WL := l.foldl (madeTh val) []
def takenL (val : Int) (l : List Th) : WL := l.foldl (takenTh val) []
def foldBad (l1 l2 : WL) : Bool := !decide (l1.length = 1) || !decide (l2.length = 1) || decide ((nth l1 0).2 < 0) || !decide ((nth l1 0).1 = (nth l2 0).1) || decide ((nth l2 0).2 ≤ (nth l1 0).2)
def foldable1 (f : FuncD) (val : Int) (l1 l2 : WL) : Bool := !foldBad l1 l2 && (decide ((nth (nth f.blocks (nth l1 0).1.toNat).ins (nth l1 0).2.toNat).dst = val) && [1, 2, 4, 11, 12, 13].contains (nth (nth f.blocks (nth l1 0).1.toNat).ins (nth l1 0).2.toNat).op)
def foldableS (f : FuncD) (val : Int) : Bool := foldable1 f val (madeL val (thingsS f)) (takenL val (thingsS f))
theorem mem_whereFold {val : Int} {w x : Int × Int} {ns : List Int} : ∀ {l : WL}, x ∈ ns.foldl (whereStep val w) l ↔ x ∈ l ∨ (x = w ∧ val ∈ ns) := by
 induction ns with
 | nil => simp
 | cons n ns ih =>
  intro l
  rw [List.foldl_cons, ih, whereStep]
  grind
theorem mem_foldMade {val : Int} {x : Int × Int} {l : List Th} : ∀ {y : WL}, x ∈ l.foldl (madeTh val) y ↔ x ∈ y ∨ ∃ t ∈ l, x = (t.blk, t.place) ∧ val ∈ t.mks := by
 induction l with
 | nil => simp
 | cons t l ih =>
  intro y
  rw [List.foldl_cons, ih, madeTh, mem_whereFold]
  simp only [List.mem_cons, exists_eq_or_imp]
  constructor
  ·rintro ((h | h) | h)
   ·exact .inl h
   ·exact .inr (.inl h)
   ·exact .inr (.inr h)
  ·rintro (h | h | h)
   ·exact .inl (.inl h)
   ·exact .inl (.inr h)
   ·exact .inr h
theorem foldable_ok {f : FuncD} {v : Value} {val : Int} {h : Heap} (hv : Rd (vw h) v f) (hsm : SmF f) (hval : I64 val) : HCalls Try.prog N.check_Foldable #[v, .int .i64 val] h (fun u h' => u = .bool (foldableS f val) ∧ (vw h).le (vw h')) := by
 refine calls_lift (args := [v, .int .i64 val]) follows F.check_Foldable E.check_Foldable (Nat.le_of_ble_eq_true (by kernel_rfl)) fun K hK => ?_
 dsimp only [L.check_Foldable]
 refine lwp_hide fun z hz => ?_
 simp
 refine do_boxT rfl hv fun h1 e1 hle1 hs1 hat => ?_
 refine do_boxT (α := Int) rfl (rd_int.2 ⟨rfl, hval⟩) fun h2 e2 hle2 hs2 hat2 => ?_
 have hatf := hat.mono hle2
 obtain ⟨u, hu, hur⟩ := hatf.loads rfl
 have hu : Un.ev (vw h2) (.loads 2) (.pointer (some ⟨h.size, 0, none⟩)) = some u := hu
 obtain ⟨cp, vb, cb⟩ := at_funcB hatf
 have cval := hat2.int
 generalize hB : h.size = B at hu cp cb
 generalize hC : h1.size = C at cval
 rw [hz]; clear hz z
 refine lwp_hide fun z hz => ?_
 simp
 refine do_alloc (z := .slice none 0 0) (by kernel_rfl) ?_
 refine do_alloc (z := .slice none 0 0) (by kernel_rfl) ?_
 have q1 := push_le h2 (.cells (Value.slice none 0 0).cells T.s_check_where)
 generalize e3 : h2.push (.cells (Value.slice none 0 0).cells T.s_check_where) = h3 at q1
 have b3 : h3[h2.size]? = some (.cells (Value.slice none 0 0).cells T.s_check_where (0, 0)) := by rw [← e3]; simp
 have s3 : h3.size = h2.size + 1 := by rw [← e3]; simp
 have q2 := push_le h3 (.cells (Value.slice none 0 0).cells T.s_check_where)
 generalize e4 : h3.push (.cells (Value.slice none 0 0).cells T.s_check_where) = h4 at q2
 have b4 : h4[h3.size]? = some (.cells (Value.slice none 0 0).cells T.s_check_where (0, 0)) := by rw [← e4]; simp
 have hle24 := View.le_trans q1 q2
 have w0 : Owns (vw h2) h4 (foldOwn h2.size (.slice none 0 0) [] h3.size (.slice none 0 0) []) := by
  have w1 := (Owns.start (h := h2) (View.le_refl (vw h2))).add (k := (0, 0)) rfl (ownT_box (h := h3) (e := T.s_check_where) (d := Raw.mk (.slice none 0 0)) b3 (rd_raw.2 ⟨rfl, rfl⟩) (by decide)) q1 (fun b hb => by simp only [Value.ownBlock, Option.some.injEq] at hb; omega)
  have w2 := w1.add (k := (1, 0)) rfl (ownT_box (h := h4) (e := T.s_check_where) (d := Raw.mk (.slice none 0 0)) b4 (rd_raw.2 ⟨rfl, rfl⟩) (by decide)) q2 (fun b hb => by simp only [Value.ownBlock, Option.some.injEq] at hb; omega)
  have w3 := w2.add (k := (0, 1)) rfl (OwnT.nil (α := Int × Int) (vw h2) h4 T.check_where) (View.le_refl _) (fun b hb => by simp [Value.ownBlock] at hb)
  have w4 := w3.add (k := (1, 1)) rfl (OwnT.nil (α := Int × Int) (vw h2) h4 T.check_where) (View.le_refl _) (fun b hb => by simp [Value.ownBlock] at hb)
  refine w4.congr fun q => ?_
  unfold foldOwn Own.upd
  repeat' split
  all_goals first | rfl | simp_all
 have k0 : Fo val C h2.size h3.size [] [] (vw h2) h4 := ⟨cval, _, _, w0⟩
 have hu4 : Un.ev (vw h4) (.loads 2) (.pointer (some ⟨B, 0, none⟩)) = some u := by
  have := ev_mono (ρ := fun _ => none) (e := .un (.loads 2) (.con (.pointer (some ⟨B, 0, none⟩)))) hle24 (v := u) (by simpa using hu)
  simpa using this
 generalize h2.size = B1 at k0
 generalize h3.size = B2 at k0
 rw [hz]; clear hz z
 refine lwp_hide fun z hz => ?_
 simp [hu4]
 have hml := things_len hsm
 refine call_to (by kernel_rfl) (things_ok (caps := [.pointer (some ⟨C, 0, none⟩), .pointer (some ⟨B1, 0, none⟩), .pointer (some ⟨B2, 0, none⟩)]) (J := fun l W h => Fo val C B1 B2 (madeL val l) (takenL val l) W h) hur hsm ⟨fun k => k.le, fun k hle => k.ext hle⟩ (by kernel_rfl) k0 fun l t W h5 vm vt hVW hpre k hm ht => ?_) ?_
 ·have hmem : ∀ x ∈ l ++ [t], ThOk f x := fun x hx => thing_ok hsm (hpre.subset hx)
  have hll := hpre.length_le
  rw [List.length_append, List.length_singleton] at hll
  have ot := hmem t (by simp)
  have hl := hsm.len
  have c1 := foldTh_len (F := madeTh val) (c := 10000) (l := l) (fun t ht x => Nat.le_trans whereStep_len (Nat.add_le_add_left (hmem t (by simp [ht])).mks _)) []
  have c2 := foldTh_len (F := takenTh val) (c := 10000) (l := l) (fun t ht x => Nat.le_trans whereStep_len (Nat.add_le_add_left (hmem t (by simp [ht])).tks _)) []
  have c1' : (madeL val l).length ≤ l.length * 10000 := by simpa [madeL] using c1
  have c2' : (takenL val l).length ≤ l.length * 10000 := by simpa [takenL] using c2
  have o1 := ot.mks
  have o2 := ot.tks
  have ob := ot.blk
  refine (fold1_ok k hm ht (by omega) ot.place (by omega) (by omega)).mono fun _ h6 k6 => ?_
  have e1 : madeL val (l ++ [t]) = t.mks.foldl (whereStep val (t.blk, t.place)) (madeL val l) := by rw [madeL, List.foldl_append]; rfl
  have e2 : takenL val (l ++ [t]) = t.tks.foldl (whereStep val (t.blk, t.place)) (takenL val l) := by rw [takenL, List.foldl_append]; rfl
  simp only [e1, e2]; exact k6
 ·rintro _ h5 ⟨W, hVW, k⟩
  have hin : ∀ w ∈ madeL val (thingsS f), 0 ≤ w.1 ∧ w.1 < f.blocks.length ∧ (0 ≤ w.2 → w.2 < (nth f.blocks w.1.toNat).ins.length) := by
   intro w hw
   rcases mem_foldMade.1 hw with h | ⟨t, ht, rfl, hv⟩
   ·cases h
   ·have ot := thing_ok hsm ht
    exact ⟨ot.blk.1, ot.blk.2, fun h => ot.ins h (fun e => by rw [e] at hv; cases hv)⟩
  have hfs : foldableS f val = foldable1 f val (madeL val (thingsS f)) (takenL val (thingsS f)) := rfl
  rw [hfs] at hK
  generalize madeL val (thingsS f) = l1 at k hin hK
  generalize takenL val (thingsS f) = l2 at k hK
  obtain ⟨v1, v2, w⟩ := k.ex
  have hb1 := (w.at (k := (0, 0)) (d := Raw.mk v1) (B := B1) (e := T.s_check_where) rfl).raw
  have hb2 := (w.at (k := (1, 0)) (d := Raw.mk v2) (B := B2) (e := T.s_check_where) rfl).raw
  have n1 := w.now (k := (0, 1)) (v := v1) (l := l1) rfl
  have n2 := w.now (k := (1, 1)) (v := v2) (l := l2) rfl
  have hle5 := View.le_trans hVW w.wle
  have hle := View.le_trans hle1 (View.le_trans hle2 hle5)
  have cb5 := cb.2.mono hle5
  have cc5 := cellH_mono hle5 cb.1
  have cv5 := cellH_mono hle5 cval
  rw [hz]; clear hz z
  refine lwp_hide fun z hz => ?_
  have no : foldBad l1 l2 = true → K (.bool false) h5 := fun e => hK _ _ ⟨by rw [foldable1, e]; rfl, hle⟩
  by_cases hA : l1.length = 1
  ·by_cases hB2 : l2.length = 1
   ·have i1 : ∀ kd, Bn.ev (.idx 2) v1 (.int kd 0) = some (.pointer (some (slA v1))) := fun kd => by
     have := n1.idxn (N := 2) rfl (k := kd) (i := 0) (by omega) (by omega)
     simpa [Addr.add] using this
    have i2 : ∀ kd, Bn.ev (.idx 2) v2 (.int kd 0) = some (.pointer (some (slA v2))) := fun kd => by
     have := n2.idxn (N := 2) rfl (k := kd) (i := 0) (by omega) (by omega)
     simpa [Addr.add] using this
    obtain ⟨a0, a1⟩ := n1.pair_at (View.le_refl _) (i := 0) (by omega)
    obtain ⟨d0, d1⟩ := n2.pair_at (View.le_refl _) (i := 0) (by omega)
    have z1 : ∀ a : Addr, a.add (0 * 2) = a := fun a => by simp [Addr.add]
    rw [z1] at a0 a1 d0 d1
    have hw := hin (nth l1 0) (nth_mem (by omega))
    have hbad : foldBad l1 l2 = (decide ((nth l1 0).2 < 0) || !decide ((nth l1 0).1 = (nth l2 0).1) || decide ((nth l2 0).2 ≤ (nth l1 0).2)) := by simp [foldBad, hA, hB2]
    rw [hbad] at no
    have hfb : foldable1 f val l1 l2 = (!(decide ((nth l1 0).2 < 0) || !decide ((nth l1 0).1 = (nth l2 0).1) || decide ((nth l2 0).2 ≤ (nth l1 0).2)) && (decide ((nth (nth f.blocks (nth l1 0).1.toNat).ins (nth l1 0).2.toNat).dst = val) && [1, 2, 4, 11, 12, 13].contains (nth (nth f.blocks (nth l1 0).1.toNat).ins (nth l1 0).2.toNat).op)) := by rw [foldable1, hbad]
    rw [hfb] at hK
    generalize nth l1 0 = w1 at a0 a1 hw no hK
    generalize nth l2 0 = w2 at d0 d1 no hK
    by_cases c3 : w1.2 < 0
    ·simp [hb1, hb2, n1.len, n2.len, hA, hB2, i1, i2, a0, a1, d0, d1, c3]
     exact no (by simp [c3])
    ·by_cases c4 : w1.1 = w2.1
     ·by_cases c5 : w2.2 ≤ w1.2
      ·simp [hb1, hb2, n1.len, n2.len, hA, hB2, i1, i2, a0, a1, d0, d1, c3, c4, c5]
       exact no (by simp [c5])
      ·have hs : (!(decide (w1.2 < 0) || !decide (w1.1 = w2.1) || decide (w2.2 ≤ w1.2))) = true := by simp [c3, c4, c5]
       rw [hs, Bool.true_and] at hK
       have hw2 := hw.2.2 (by omega)
       obtain ⟨ul, hul⟩ := ((cb5.at (i := w1.1.toNat) (by omega)).part BlkD.p_ins).sl
       rw [← nth_eq (by omega)] at hul
       have hul1 : cellH (vw h5) (((slA vb).add (w1.1.toNat * 6)).add 1) = some ul := hul.1
       obtain ⟨ui, hui, huir⟩ := hul.2.wh rfl (N := 5) rfl (i := w1.2.toNat) (by omega)
       have hli := hul.2
       generalize nth (nth f.blocks w1.1.toNat).ins w1.2.toNat = x at huir hK
       simp [hb1, hb2, n1.len, n2.len, hA, hB2, i1, i2, a0, a1, d0, d1, c3, c5, ← c4]
       rw [hz]; clear hz z
       refine lwp_hide fun z hz => ?_
       have z0 : ∀ a : Addr, a.add 0 = a := fun a => by simp [Addr.add]
       refine drawn_at (vw h5) (View.le_refl _) ?_
       simp (disch := omega) [hb1, i1, a0, a1, cc5, cb5.idxn (N := 6) rfl, hul1, hli.idxn (N := 5) rfl, hui _ (View.le_refl _)]
       refine do_alloc (z := .agg #[.int .i64 0, .int .i64 0, .int .i64 0, .slice none 0 0, .int .i32 0]) (by kernel_rfl) ?_
       have hle6 := push_le h5 (.cells (Value.cells (.agg #[.int .i64 0, .int .i64 0, .int .i64 0, .slice none 0 0, .int .i32 0])) T.api_Ins)
       have hb6 : (h5.push (.cells (Value.cells (.agg #[.int .i64 0, .int .i64 0, .int .i64 0, .slice none 0 0, .int .i32 0])) T.api_Ins))[h5.size]? = some (.cells (Value.cells (.agg #[.int .i64 0, .int .i64 0, .int .i64 0, .slice none 0 0, .int .i32 0])) T.api_Ins (0, 0)) := by simp
       generalize h5.push (.cells (Value.cells (.agg #[.int .i64 0, .int .i64 0, .int .i64 0, .slice none 0 0, .int .i32 0])) T.api_Ins) = h6 at hle6 hb6
       refine ⟨hle6, ?_⟩
       obtain ⟨g1, g2, g3⟩ := rd_cells huir
       refine do_store (g := h5.size) (o := 0) (n := 5) (v := ui) (by kernel_rfl) rfl rfl g2 g3 hb6 (by simp) fun h7 hs7 ⟨row, hr7, he7⟩ ho7 => ?_
       have hrow : row = ui.cells := by
        have g2' : ui.cells.size = 5 := g2
        rw [← Array.toList_inj, he7]; simp
       rw [hrow] at hr7
       have hle7 : (vw h5).le (vw h7) := fun b o hb => by
        have hlt := View.lt (View.le_refl (vw h5)) hb
        show h7[b]? = _
        rw [ho7 b (by omega)]; exact hle6 b o hb
       have hat7 : At (vw h7) ⟨h5.size, 0, none⟩ x := at_new (show vw h7 h5.size = _ from hr7) (huir.mono hle7)
       obtain ⟨q0, q1, _⟩ := at_insB hat7
       have ro := (hat7.part InsD.p_op).rng
       generalize h5.size = D at q0 q1
       rw [hz]; clear hz z
       have cv7 := cellH_mono hle7 cv5
       refine lwp_hide fun z hz => ?_
       by_cases c6 : x.dst = val
       ·simp [q0, q1, cv7, c6]
        refine do_litN (α := Int) (X := nothing) (ds := [1, 2, 4, 11, 12, 13]) (vs := [.int .i64 1, .int .i64 2, .int .i64 4, .int .i64 11, .int .i64 12, .int .i64 13]) rfl El.s_int (by simp) ⟨rd_i (by omega) (by omega), rd_i (by omega) (by omega), rd_i (by omega) (by omega), rd_i (by omega) (by omega), rd_i (by omega) (by omega), rd_i (by omega) (by omega), trivial⟩ nothing_le rfl (by omega) fun u8 h8 hle8 hsz8 hu8 _ => ?_
        simp [cellH_mono hle8 q0]
        refine call_to (by kernel_rfl) (contains_ok (hu8 (vw h8) nothing_le rfl)) ?_
        rintro _ _ ⟨rfl, rfl⟩
        simp
        rw [hz]; clear hz z
        simp
        exact hK _ _ ⟨by simp [c6], View.le_trans hle (View.le_trans hle7 hle8)⟩
       ·simp [q0, q1, cv7, c6]
        rw [hz]; clear hz z
        simp
        exact hK _ _ ⟨by simp [c6], View.le_trans hle hle7⟩
     ·simp [hb1, hb2, n1.len, n2.len, hA, hB2, i1, i2, a0, a1, d0, d1, c3, c4]
      exact no (by simp [c4])
   ·have hB3 : ¬ (l2.length : Int) = 1 := by omega
    simp [hb1, hb2, n1.len, n2.len, hA, hB3]
    exact no (by simp [foldBad, hB2])
  ·have hA3 : ¬ (l1.length : Int) = 1 := by omega
   simp [hb1, hb2, n1.len, n2.len, hA3]
   exact no (by simp [foldBad, hA])
end Go.Proofs.Ytfelpjfopgiabaa
namespace Go.Proofs.Ytfelpjfopgiabaa
open Go Go.Lft
theorem refMakes_ok {d : InsD} {v : Value} {h : Heap} (hd : Rd (vw h) v d) : HCalls Try.prog N.ref03_Makes #[v] h (fun u h' => (vw h).le (vw h') ∧ SlRd (fresh h h') u (makesS d) ∧ (d.op = 16 → u = .slice none 0 0)) := by
 refine calls_lift (args := [v]) follows F.ref03_Makes E.ref03_Makes (Nat.le_of_ble_eq_true (by kernel_rfl)) fun K hK => ?_
 simp [L.ref03_Makes]
 refine do_boxT rfl hd fun h1 _ hle1 hsz1 hat => ?_
 obtain ⟨c0, c1, c2, va, ca⟩ := at_insB hat
 have r1 := (hat.part InsD.p_dst).rng
 have r2 := (hat.part InsD.p_two).rng
 simp [c0]
 refine ⟨fun e1 => hK _ _ ⟨hle1, by simpa [makesS, e1] using nil_sl, fun _ => rfl⟩, fun e1 => ⟨fun e2 => ?_, fun e2 => ?_⟩⟩
 ·simp [c1, c2]
  refine do_litN (X := nothing) (ds := [d.dst, d.two]) (vs := [.int .i64 d.dst, .int .i64 d.two]) rfl El.s_int (by simp) ⟨rd_int.2 ⟨rfl, r1⟩, rd_int.2 ⟨rfl, r2⟩, trivial⟩ nothing_le rfl (by omega) fun u h2 hle2 hsz2 hu _ => ?_
  exact hK _ _ ⟨View.le_trans hle1 hle2, by simpa [makesS, e2] using hu _ nothing_le (by unfold fresh; rw [if_neg (by omega)]), fun e => absurd e e1⟩
 ·simp [c1]
  refine do_litN (X := nothing) (ds := [d.dst]) (vs := [.int .i64 d.dst]) rfl El.s_int (by simp) ⟨rd_int.2 ⟨rfl, r1⟩, trivial⟩ nothing_le rfl (by omega) fun u h2 hle2 hsz2 hu _ => ?_
  exact hK _ _ ⟨View.le_trans hle1 hle2, by simpa [makesS, e1, e2] using hu _ nothing_le (by unfold fresh; rw [if_neg (by omega)]), fun e => absurd e e1⟩
def countsS (op n : Int) : Bool := if op = 1 then decide (n = 0) else if op = 15 then decide (n = 1) else if op = 17 then decide (n ≤ 4) else decide (n = 2)
theorem counts_ok {op n : Int} {h : Heap} : HCalls Try.prog N.ref03_counts #[.int .i64 op, .int .i64 n] h (fun v h' => v = .bool (countsS op n) ∧ h' = h) := by
 refine calls_lift (args := [.int .i64 op, .int .i64 n]) follows F.ref03_counts E.ref03_counts (Nat.le_of_ble_eq_true (by kernel_rfl)) fun K hK => ?_
 simp [L.ref03_counts]
 refine ⟨fun h1 => hK _ _ ⟨by simp [countsS, h1], rfl⟩, fun h1 => ⟨fun h2 => hK _ _ ⟨by simp [countsS, h1, h2], rfl⟩, fun h2 => ⟨fun h3 => hK _ _ ⟨by simp [countsS, h1, h2, h3], rfl⟩, fun h3 => hK _ _ ⟨by simp [countsS, h1, h2, h3], rfl⟩⟩⟩⟩
theorem at_termB {H : View} {B : Nat} {d : TermD} (h : At H ⟨B, 0, none⟩ d) : ∃ va vt, cellH H ⟨B, 0, none⟩ = some (.int .i64 d.kind) ∧ Sl H ⟨B, 1, none⟩ va d.args ∧ Sl H ⟨B, 2, none⟩ vt d.to := by
 obtain ⟨va, h4⟩ := (h.part TermD.p_args).sl
 obtain ⟨vt, h5⟩ := (h.part TermD.p_to).sl
 exact ⟨va, vt, by simpa using (h.part TermD.p_kind).int, by simpa using h4, by simpa using h5⟩
def termS (t : TermD) : Bool :=
 if t.kind = 1 then decide ((t.args.length : Int) = 0) && decide ((t.to.length : Int) = 1)
 else if t.kind = 2 then decide ((t.args.length : Int) = 1) && decide ((t.to.length : Int) = 2)
 else if t.kind = 3 then decide ((t.args.length : Int) = 1) && decide ((2 : Int) ≤ t.to.length) && decide ((t.to.length : Int) ≤ 65)
 else if t.kind = 4 then decide ((t.args.length : Int) ≤ 1) && decide ((t.to.length : Int) = 0)
 else if t.kind = 5 then decide ((t.args.length : Int) = 0) && decide ((t.to.length : Int) = 0) else false
theorem term_ok {d : TermD} {v : Value} {h : Heap} (hd : Rd (vw h) v d) : HCalls Try.prog N.ref03_term #[v] h (fun u h' => u = .bool (termS d) ∧ (vw h).le (vw h')) := by
 refine calls_lift (args := [v]) follows F.ref03_term E.ref03_term (Nat.le_of_ble_eq_true (by kernel_rfl)) fun K hK => ?_
 dsimp only [L.ref03_term]
 refine lwp_hide fun z hz => ?_
 simp
 refine do_boxT rfl hd fun h1 _ hle1 hsz1 hat => ?_
 obtain ⟨va, vt, c0, ba, bt⟩ := at_termB hat
 generalize h.size = B at c0 ba bt
 rw [hz]; clear hz z
 by_cases k1 : d.kind = 1
 ·simp [c0, ba.1, ba.2.len, bt.1, bt.2.len, k1]
  exact hK _ _ ⟨by simp [termS, k1], hle1⟩
 ·by_cases k2 : d.kind = 2
  ·simp [c0, ba.1, ba.2.len, bt.1, bt.2.len, k1, k2]
   exact hK _ _ ⟨by simp [termS, k1, k2], hle1⟩
  ·by_cases k3 : d.kind = 3
   ·simp [c0, ba.1, ba.2.len, bt.1, bt.2.len, k1, k2, k3]
    exact hK _ _ ⟨by simp [termS, k1, k2, k3], hle1⟩
   ·by_cases k4 : d.kind = 4
    ·simp [c0, ba.1, ba.2.len, bt.1, bt.2.len, k1, k2, k3, k4]
     exact hK _ _ ⟨by simp [termS, k1, k2, k3, k4], hle1⟩
    ·by_cases k5 : d.kind = 5
     ·simp [c0, ba.1, ba.2.len, bt.1, bt.2.len, k1, k2, k3, k4, k5]
      exact hK _ _ ⟨by simp [termS, k1, k2, k3, k4, k5], hle1⟩
     ·simp [c0, ba.1, ba.2.len, bt.1, bt.2.len, k1, k2, k3, k4, k5]
      exact hK _ _ ⟨by simp [termS, k1, k2, k3, k4, k5], hle1⟩
def refPredsS (f : FuncD) (b : Int) : List Int := sift (fun a => decide (b ∈ (nth f.blocks a).term.to)) (fun a => (a : Int)) f.blocks.length
theorem sl_toAt {H : View} {v : Value} {l : List BlkD} (h : SlRd H v l) {i : Nat} (hi : i < l.length) : ∃ u, Sl H ((((slA v).add (i * 6)).add 2).add 2) u (nth l i).term.to := by
 rw [nth_eq hi]
 exact ((((h.at hi).part BlkD.p_term).part TermD.p_to)).sl
theorem refPreds_ok {f : FuncD} {b : Int} {v : Value} {h : Heap} (hv : Rd (vw h) v f) (hn : f.blocks.length ≤ 1000000) :
  HCalls Try.prog N.ref03_Preds #[v, .int .i64 b] h (fun u h' => (vw h).le (vw h') ∧ SlRd (fresh h h') u (refPredsS f b)) := by
 refine calls_lift (args := [v, .int .i64 b]) follows F.ref03_Preds E.ref03_Preds (Nat.le_of_ble_eq_true (by kernel_rfl)) fun K hK => ?_
 dsimp only [L.ref03_Preds]
 refine lwp_hide fun z hz => ?_
 simp
 refine do_boxT rfl hv fun h1 _ hle1 hsz1 hat => ?_
 obtain ⟨_, vb, cb⟩ := at_funcB hat
 generalize h.size = B at cb
 rw [hz]; clear hz z
 refine lwp_hide fun z hz => ?_
 simp
 refine do_lit0 (α := Int) El.s_int fun h2 hle2 hsz2 own2 => ?_
 have m0 := Mine.empty (V := nothing) (W := nothing) (View.le_refl (vw h1)) hle2 nothing_le (Old.nothing _ _) own2
 generalize Value.slice (some ⟨h1.size, 0, none⟩) 0 0 = v0 at m0
 have cb2 := cb.2
 have cc2 := cb.1
 rw [hz]; clear hz z
 refine lwp_hide fun z hz => ?_
 simp
 refine lwp_for [1, 2, 5, 6] (fun (r : Value) k => [.int .i64 b, .pointer (some ⟨B, 0, none⟩), r, .int .i64 k]) (fun r k h3 => Mine nothing h1 h3 nothing T.int r (sift (fun a => decide (b ∈ (nth f.blocks a).term.to)) (fun a => (a : Int)) k)) f.blocks.length v0
  rfl (by omega) rfl m0 (fun _ _ => rfl) (fun v k h3 hk m => by simp [cellH_mono m.old cc2, (cb2.mono m.old).len]) ?_ ?_
 ·rintro r k h3 hlt m K2 hK2
  have hle3 := m.old
  have cb3 := cb2.mono hle3
  obtain ⟨w, hw⟩ := sl_toAt cb3 hlt
  have hwb := hw.2.bound
  have hsl := sift_len (p := fun a => decide (b ∈ (nth f.blocks a).term.to)) (x := fun a => (a : Int)) k
  refine lwp_hide fun y hy => ?_
  simp (disch := omega) [cellH_mono hle3 cc2, cb3.idxn (N := 6) rfl, hw.1]
  rw [hy]; clear hy y
  simp
  refine lwp_for [1, 2, 5, 6, 7, 8] (fun (_ : Unit) j => [.int .i64 b, .pointer (some ⟨B, 0, none⟩), r, .int .i64 k, w, .int .i64 j]) (fun _ j h4 => h4 = h3 ∧ ∀ i, i < j → nth (nth f.blocks k).term.to i ≠ b) (nth f.blocks k).term.to.length ()
   rfl (by omega) rfl ⟨rfl, fun i hi => by omega⟩ (fun _ _ => rfl) (fun v j h4 hk m => by simp [hw.2.len]) ?_ ?_
  ·rintro _ j h3 hltj ⟨rfl, hpre⟩ K3 hK3
   simp (disch := omega) [hw.2.idx1 rfl, hw.2.int (View.le_refl _)]
   refine ⟨fun e => ?_, fun e => hK3 () _ _ rfl rfl ⟨rfl, fun i hi => ?_⟩⟩
   ·have hmem : b ∈ (nth f.blocks k).term.to := e ▸ nth_mem hltj
    refine m.push (d := (k : Int)) El.s_int (by simp <;> rfl) (rd_i (by omega) (by omega)) (by omega) (by omega) (fun _ => by simp) (fun _ => by simp) fun u v' h5 m' => ?_
    exact hK2 v' _ _ rfl rfl (by rw [sift_true (by simpa using hmem)]; exact m')
   ·rcases Nat.lt_or_ge i j with h | h
    ·exact hpre i h
    ·have : i = j := by omega
     subst this; exact e
  ·rintro _ h3 ⟨rfl, hpre⟩
   have hmem : ¬ b ∈ (nth f.blocks k).term.to := fun hm => by
    obtain ⟨i, hi, e⟩ := List.getElem_of_mem hm
    exact hpre i hi (by rw [nth_eq hi]; exact e)
   simp
   exact hK2 r _ _ rfl rfl (by rw [sift_false (by simpa using hmem)]; exact m)
 ·rintro r h3 m
  simp
  rw [hz]; clear hz z
  simp
  exact hK _ _ ⟨View.le_trans hle1 m.old, m.fresh.mono (fresh_from hle1)⟩
end Go.Proofs.Ytfelpjfopgiabaa
namespace Go.Proofs.Ytfelpjfopgiabaa
open Go Go.Lft
def mkL (vs : Value) (at_ : Nat) (ps : Int) (vb : Value) (nx : Int) (vl : Value) : List Value := [vs, .int .i64 at_, .int .i64 ps, vb, .int .i64 nx, vl]
def rawV (s : List Int) (at_ : Nat) : Int := if at_ < s.length then nth s at_ else 0
def takeV (s : List Int) (at_ : Nat) (n : Int) : Int := ((rawV s at_).tmod n + n).tmod n
theorem takeV_rng {s : List Int} {at_ : Nat} {n : Int} (hn : 0 < n) : 0 ≤ takeV s at_ n ∧ takeV s at_ n < n := by
 have b1 := Int.lt_tmod_of_pos (rawV s at_) hn
 exact ⟨Int.tmod_nonneg _ (by omega), Int.tmod_lt_of_pos _ hn⟩
theorem take_ok {W : View} {h : Heap} {o : Own} {M at_ : Nat} {vs vb vl : Value} {ps nx n : Int} {s : List Int} (w : Owns W h o) (hk : o (0, 0) = bx T.ref03_maker M (RawN.mk (n := 5) (mkL vs at_ ps vb nx vl))) (hs : SlRd W vs s) (h1 : at_ ≤ 1000000000) (hn : 0 < n) (hn2 : n ≤ 1000000000) :
  HCalls Try.prog N.ref03_maker_take #[.pointer (some ⟨M, 0, none⟩), .int .i64 n] h (fun u h' => u = .int .i64 (takeV s at_ n) ∧ Owns W h' (o.upd (0, 0) (bx T.ref03_maker M (RawN.mk (n := 5) (mkL vs (at_ + 1) ps vb nx vl))))) := by
 refine calls_lift (args := [.pointer (some ⟨M, 0, none⟩), .int .i64 n]) follows F.ref03_maker_take E.ref03_maker_take (Nat.le_of_ble_eq_true (by kernel_rfl)) fun K hK => ?_
 have c0 : cellH (vw h) ⟨M, 0, none⟩ = some vs := w.raw hk (i := 0) (by decide)
 have c1 : cellH (vw h) ⟨M, 1, none⟩ = some (.int .i64 at_) := w.raw hk (i := 1) (by decide)
 dsimp only [L.ref03_maker_take]
 refine lwp_hide fun z hz => ?_
 simp
 rw [hz]; clear hz z
 refine lwp_hide fun z hz => ?_
 simp
 rw [hz]; clear hz z
 refine lwp_hide fun z hz => ?_
 have hsl : ∀ {Q : View}, Un.ev Q .len vs = some (.int .i64 s.length) := fun {Q} => hs.len
 refine lwp_cut (fun ρ h2 => h2 = h ∧ I64 (rawV s at_) ∧ ρ = [(0, .pointer (some ⟨M, 0, none⟩)), (1, .int .i64 n), (4, .int .i64 0), (5, .int .i64 (rawV s at_))]) ?_ ?_
 ·intro K2 hK2
  by_cases c : at_ < s.length
  ·have hs2 := hs.mono w.wle
   have hr := hs.range (i := at_) c
   have e : rawV s at_ = nth s at_ := if_pos c
   rw [e] at hK2
   simp (disch := omega) [c0, c1, hsl, c, hs2.idx1 rfl, hs2.int (View.le_refl _)]
   exact hK2 _ _ ⟨rfl, hr, rfl⟩
  ·have e : rawV s at_ = 0 := if_neg c
   rw [e] at hK2
   simp [c0, c1, hsl, c]
   exact hK2 _ _ ⟨rfl, ⟨by decide, by decide⟩, rfl⟩
 ·rintro _ h2 ⟨rfl, hx, rfl⟩
  rw [hz]; clear hz z
  refine lwp_hide fun z hz => ?_
  simp (disch := omega) [c1]
  refine w.do_cell (k := (0, 0)) (n := 5) (i := 1) (e := T.ref03_maker) (B := M) (l := mkL vs at_ ps vb nx vl) hk (by decide) (by kernel_rfl) rfl rfl rfl fun h3 w3 _ => ?_
  rw [hz]; clear hz z
  have b1 := Int.lt_tmod_of_pos (rawV s at_) hn
  have b2 := Int.tmod_lt_of_pos (rawV s at_) hn
  have hw : IntKind.i64.wrap ((rawV s at_).tmod n + n) = (rawV s at_).tmod n + n := wrap64_id (by omega) (by omega)
  have hne : ¬ n = 0 := by omega
  simp [hw, hne]
  refine hK _ _ ⟨rfl, w3.congr fun q => ?_⟩
  rfl
theorem fresh_ok {W : View} {h : Heap} {o : Own} {M at_ : Nat} {vs vb vl : Value} {ps nx : Int} (w : Owns W h o) (hk : o (0, 0) = bx T.ref03_maker M (RawN.mk (n := 5) (mkL vs at_ ps vb nx vl))) (h0 : 0 ≤ nx) (h1 : nx ≤ 1000000000) :
  HCalls Try.prog N.ref03_maker_fresh #[.pointer (some ⟨M, 0, none⟩)] h (fun u h' => u = .int .i64 nx ∧ Owns W h' (o.upd (0, 0) (bx T.ref03_maker M (RawN.mk (n := 5) (mkL vs at_ ps vb (nx + 1) vl)))) ∧ ∀ X : View, X.le (vw h) → X M = none → X.le (vw h')) := by
 refine calls_lift (args := [.pointer (some ⟨M, 0, none⟩)]) follows F.ref03_maker_fresh E.ref03_maker_fresh (Nat.le_of_ble_eq_true (by kernel_rfl)) fun K hK => ?_
 have c4 : cellH (vw h) ⟨M, 4, none⟩ = some (.int .i64 nx) := w.raw hk (i := 4) (by decide)
 dsimp only [L.ref03_maker_fresh]
 refine lwp_hide fun z hz => ?_
 simp
 rw [hz]; clear hz z
 refine lwp_hide fun z hz => ?_
 simp (disch := omega) [c4]
 refine w.do_cell (k := (0, 0)) (n := 5) (i := 4) (e := T.ref03_maker) (B := M) (l := mkL vs at_ ps vb nx vl) hk (by decide) (by kernel_rfl) rfl rfl rfl fun h3 w3 hx3 => ?_
 have w3 : Owns W h3 (o.upd (0, 0) (bx T.ref03_maker M (RawN.mk (n := 5) (mkL vs at_ ps vb (nx + 1) vl)))) := w3
 have c5 : cellH (vw h3) ⟨M, 4, none⟩ = some (.int .i64 (nx + 1)) := w3.raw Own.upd_self (i := 4) (by decide)
 rw [hz]; clear hz z
 simp (disch := omega) [c5]
 exact hK _ _ ⟨by congr 1, w3, hx3⟩
end Go.Proofs.Ytfelpjfopgiabaa
namespace Go.Proofs.Ytfelpjfopgiabaa
open Go Go.Lft
theorem term_val {H : View} {u : Value} {d : TermD} (h : Rd H u d) : ∃ va vt, u = .agg #[.int .i64 d.kind, va, vt, .int .i32 d.imm.v] ∧ SlRd H va d.args ∧ SlRd H vt d.to := by
 obtain ⟨cs, rfl, c1, r1, e1, ⟨rfl, h1⟩, c2, r2, e2, ⟨va, rfl, h2⟩, c3, r3, e3, ⟨vt, rfl, h3⟩, h4, h5⟩ := h
 subst e3 e2
 have he : cs.toList = [.int .i64 d.kind, va, vt, .int .i32 d.imm.v] := by rw [e1, h4]; rfl
 refine ⟨va, vt, ?_, h2, h3⟩
 rw [← Array.toList_inj.1 (he.trans rfl : cs.toList = #[Value.int .i64 d.kind, va, vt, .int .i32 d.imm.v].toList)]
theorem ins_val {H : View} {u : Value} {d : InsD} (h : Rd H u d) : ∃ va, u = .agg #[.int .i64 d.op, .int .i64 d.dst, .int .i64 d.two, va, .int .i32 d.imm.v] ∧ (I64 d.op ∧ I64 d.dst ∧ I64 d.two ∧ -2147483648 ≤ d.imm.v ∧ d.imm.v ≤ 2147483647) ∧ SlRd H va d.args := by
 obtain ⟨cs, rfl, c1, r1, e1, ⟨rfl, h1⟩, c2, r2, e2, ⟨rfl, h2⟩, c3, r3, e3, ⟨rfl, h3⟩, c4, r4, e4, ⟨va, rfl, h4⟩, h5, h6⟩ := h
 subst e4 e3 e2
 exact ⟨va, by rw [← Array.toList_inj.1 ((by rw [e1, h5]; rfl) : cs.toList = #[Value.int .i64 d.op, .int .i64 d.dst, .int .i64 d.two, va, .int .i32 d.imm.v].toList)], ⟨h1, h2, h3, h6⟩, h4⟩
theorem rd_phiOf {H : View} {d : Int} {v : Value} {l : List InD} (h1 : I64 d) (h2 : SlRd H v l) : Rd H (.agg #[.int .i64 d, v]) (PhiD.mk d l) := ⟨_, rfl, [.int .i64 d], [v], rfl, ⟨rfl, h1⟩, v, rfl, h2⟩
theorem rd_insOf {H : View} {op d two : Int} {imm : I32} {v : Value} {l : List Int} (h : I64 op ∧ I64 d ∧ I64 two ∧ -2147483648 ≤ imm.v ∧ imm.v ≤ 2147483647) (h2 : SlRd H v l) : Rd H (.agg #[.int .i64 op, .int .i64 d, .int .i64 two, v, .int .i32 imm.v]) (InsD.mk op d two l imm) :=
 ⟨_, rfl, [.int .i64 op], _, rfl, ⟨rfl, h.1⟩, [.int .i64 d], _, rfl, ⟨rfl, h.2.1⟩, [.int .i64 two], _, rfl, ⟨rfl, h.2.2.1⟩, [v], _, rfl, ⟨v, rfl, h2⟩, rfl, h.2.2.2⟩
theorem rd_blkOf {H : View} {vp vi va vt : Value} {p : List PhiD} {i : List InsD} {a t : List Int} {kd : Int} {imm : I32} (h1 : SlRd H vp p) (h2 : SlRd H vi i) (h3 : SlRd H va a) (h4 : SlRd H vt t) (h5 : I64 kd) (h6 : -2147483648 ≤ imm.v ∧ imm.v ≤ 2147483647) : Rd H (.agg #[vp, vi, .int .i64 kd, va, vt, .int .i32 imm.v]) (BlkD.mk p i ⟨kd, a, t, imm⟩) :=
 ⟨_, rfl, [vp], _, rfl, ⟨vp, rfl, h1⟩, [vi], _, rfl, ⟨vi, rfl, h2⟩, [.int .i64 kd], _, rfl, ⟨rfl, h5⟩, [va], _, rfl, ⟨va, rfl, h3⟩, [vt], _, rfl, ⟨vt, rfl, h4⟩, rfl, h6⟩
theorem take_min {α : Type} {l : List α} {n : Nat} : l.take (min l.length n) = l.take n := by
 rcases Nat.le_total l.length n with h | h
 ·rw [Nat.min_eq_left h, List.take_of_length_le (Nat.le_refl _), List.take_of_length_le h]
 ·rw [Nat.min_eq_right h]
theorem sl_first {α : Type} [Rep α] {H : View} {v : Value} {l : List α} (h : SlRd H v l) (n : Nat) (m : Int) (hm : m = n) : ∃ u, Bn.ev .hi v (.int .i64 (if m < (l.length : Int) then m else l.length)) = some u ∧ SlRd H u (l.take n) := by
 subst hm
 obtain ⟨u, h1, h2⟩ := h.take (n := min l.length n) (by omega) (kd := .i64)
 rw [take_min] at h2
 refine ⟨u, ?_, h2⟩
 rw [show (if (n : Int) < (l.length : Int) then (n : Int) else l.length) = ((min l.length n : Nat) : Int) by split <;> omega]
 exact h1
end Go.Proofs.Ytfelpjfopgiabaa
namespace Go.Proofs.Ytfelpjfopgiabaa
open Go Go.Lft
abbrev RSt := List Bool × List Int
def rchIn (wo : Int) (to : List Int) (k : Nat) (s : RSt) : RSt :=
 if (0 ≤ nth to k ∧ nth to k < s.1.length) ∧ nth s.1 (nth to k).toNat = false ∧ nth to k ≠ wo then (s.1.set (nth to k).toNat true, s.2 ++ [nth to k]) else s
def rchRow (f : FuncD) (wo : Int) (i : Nat) (s : RSt) : RSt := up (rchIn wo (nth f.blocks (nth s.2 i).toNat).term.to) (nth f.blocks (nth s.2 i).toNat).term.to.length s
def rchS (f : FuncD) (wo : Int) : Nat → Nat → RSt → RSt
 | 0, _, s => s
 | n + 1, i, s => if i < s.2.length then rchS f wo n (i + 1) (rchRow f wo i s) else s
def rch0 (f : FuncD) (wo : Int) : RSt := if wo ≠ 0 ∧ 0 < f.blocks.length then ((List.replicate f.blocks.length false).set 0 true, [0]) else (List.replicate f.blocks.length false, [])
def reachedS (f : FuncD) (wo : Int) : List Bool := (rchS f wo (f.blocks.length + 1) 0 (rch0 f wo)).1
structure ROk (n : Nat) (s : RSt) : Prop where
 len : s.1.length = n
 cnt : s.2.length + falses s.1 ≤ n
 rng : ∀ x ∈ s.2, 0 ≤ x ∧ x < n
theorem rchIn_ok {n : Nat} {wo : Int} {to : List Int} {k : Nat} {s : RSt} (h : ROk n s) : ROk n (rchIn wo to k s) := by
 unfold rchIn
 split
 ·rename_i hc
  have hf := falses_set (t := s.1) (i := (nth to k).toNat) (by omega) hc.2.1
  refine ⟨by simpa using h.len, ?_, fun x hx => ?_⟩
  ·have := h.cnt
   simp only [List.length_append, List.length_singleton]; omega
  ·rcases List.mem_append.1 hx with hx | hx
   ·exact h.rng x hx
   ·rw [List.mem_singleton.1 hx, ← h.len]; exact hc.1
 ·exact h
theorem rchUp_ok {n : Nat} {wo : Int} {to : List Int} {s : RSt} (h : ROk n s) (m : Nat) : ROk n (up (rchIn wo to) m s) := up_inv (ROk n) (fun k x hx => rchIn_ok hx) m s h
theorem rch0_ok {f : FuncD} {wo : Int} : ROk f.blocks.length (rch0 f wo) := by
 unfold rch0
 have hfa : falses (List.replicate f.blocks.length false) = f.blocks.length := by simp [falses]
 split
 ·rename_i hc
  have hf := falses_set (t := List.replicate f.blocks.length false) (i := 0) (by simpa using hc.2) (by rw [nth_eq (by simpa using hc.2)]; simp)
  exact ⟨by simp, by simp only [List.length_singleton]; omega, fun x hx => by rw [List.mem_singleton.1 hx]; omega⟩
 ·exact ⟨by simp, by simp only [List.length_nil]; omega, fun x hx => by cases hx⟩
theorem rchS_ok {f : FuncD} {wo : Int} : ∀ {m i : Nat} {s : RSt}, ROk f.blocks.length s → ROk f.blocks.length (rchS f wo m i s)
 | 0, _, _, h => h
 | m + 1, i, s, h => by
  rw [rchS]
  split
  ·exact rchS_ok (rchUp_ok h _)
  ·exact h
theorem reachedS_len {f : FuncD} {wo : Int} : (reachedS f wo).length = f.blocks.length := (rchS_ok rch0_ok).len
def rchOwn (vo vq : Value) (s : RSt) : Own := fun k => if k = (0, 0) then it T.bool vo s.1 else if k = (0, 1) then it T.int vq s.2 else none
theorem reached_ok {f : FuncD} {wo : Int} {v : Value} {h : Heap} (hv : Rd (vw h) v f) (hn : f.blocks.length ≤ 1000000) :
  HCalls Try.prog N.ref03_Reached #[v, .int .i64 wo] h (fun u h' => (vw h).le (vw h') ∧ SlRd (fresh h h') u (reachedS f wo)) := by
 refine calls_lift (args := [v, .int .i64 wo]) follows F.ref03_Reached E.ref03_Reached (Nat.le_of_ble_eq_true (by kernel_rfl)) fun K hK => ?_
 dsimp only [L.ref03_Reached]
 refine lwp_hide fun z hz => ?_
 simp
 refine do_boxT rfl hv fun h1 _ hle1 hsz1 hat => ?_
 obtain ⟨_, vb, cb⟩ := at_funcB hat
 generalize h.size = B at cb
 rw [hz]; clear hz z
 refine lwp_hide fun z hz => ?_
 simp [cb.1, cb.2.len]
 refine do_make (α := Bool) (W := vw h1) (k := .i64) (n := f.blocks.length) (d := false) El.s_bool (by simp) (by simp) rfl (by omega) (by omega) fun vo h2 o2 m2 hle2 hb2 => ?_
 have w2 := (Owns.start (h := h1) (View.le_refl (vw h1))).add (k := (0, 0)) rfl o2 hle2 (fun b hb => by rw [hb2] at hb; cases hb; exact Nat.le_refl _)
 rw [hz]; clear hz z
 refine lwp_hide fun z hz => ?_
 simp
 refine do_lit0 (α := Int) El.s_int fun h3 hle3 hsz3 own3 => ?_
 have w3 := w2.add (k := (0, 1)) rfl (own3 _) hle3 (fun b hb => by simp only [Value.ownBlock, Option.some.injEq] at hb; omega)
 have w3 : Owns (vw h1) h3 (rchOwn vo (.slice (some ⟨h2.size, 0, none⟩) 0 0) (List.replicate f.blocks.length false, [])) := w3.congr fun q => by
  unfold rchOwn Own.upd
  repeat' split
  all_goals first | rfl | simp_all
 generalize Value.slice (some ⟨h2.size, 0, none⟩) 0 0 = vq at w3
 rw [hz]; clear hz z
 refine lwp_hide fun z hz => ?_
 have cc3 := cellH_mono w3.wle cb.1
 have cb3 := cb.2.mono w3.wle
 have fin : ∀ (h4 : Heap) (vq : Value) (tl : Env), Owns (vw h1) h4 (rchOwn vo vq (rch0 f wo)) → @LC.wp noPP Try.prog z (@fnPost [.tmp 4] K) ([(0, v), (1, .int .i64 wo), (2, .pointer (some ⟨B, 0, none⟩)), (4, .slice none 0 0), (5, vo), (6, vq)] ++ tl) h4 := by
  intro h4 vq tl w4
  rw [hz]; clear hz z
  refine lwp_hide fun z hz => ?_
  simp
  refine lwp_loop [1, 2, 5, 6, 7] (fun m ρ h5 => ∃ (i : Nat) (s : RSt) (vq : Value), i ≤ f.blocks.length ∧ m = f.blocks.length + 1 - i ∧ ρ = [(1, .int .i64 wo), (2, .pointer (some ⟨B, 0, none⟩)), (5, vo), (6, vq), (7, .int .i64 i)] ∧ Owns (vw h1) h5 (rchOwn vo vq s) ∧ ROk f.blocks.length s ∧
   (rchS f wo m i s).1 = reachedS f wo) (f.blocks.length + 1) ⟨0, _, vq, by omega, rfl, by simp [keepE, look_setE], w4, rch0_ok, rfl⟩ ?_
  rintro m ρ h5 ⟨i, s, vq5, hi, rfl, rfl, w5, hok, hfin⟩ K2 hK2
  have no := w5.now (k := (0, 0)) (v := vo) (l := s.1) rfl
  have nq := w5.now (k := (0, 1)) (v := vq5) (l := s.2) rfl
  have hcnt := hok.cnt
  by_cases hlt : i < s.2.length
  ·have hm : f.blocks.length + 1 - i = (f.blocks.length - i) + 1 := by omega
   rw [hm, rchS, if_pos hlt] at hfin
   obtain ⟨r0, r1⟩ := hok.rng _ (nth_mem hlt)
   have cb5 := cb.2.mono w5.wle
   obtain ⟨w, hw⟩ := sl_toAt cb5 (i := (nth s.2 i).toNat) (by omega)
   obtain ⟨w', hw'⟩ := sl_toAt cb.2 (i := (nth s.2 i).toNat) (by omega)
   have eww : w' = w := Option.some.inj ((cellH_mono w5.wle hw'.1).symm.trans hw.1)
   rw [eww] at hw'
   have hwb := hw.2.bound
   have hrow : rchRow f wo i s = up (rchIn wo (nth f.blocks (nth s.2 i).toNat).term.to) (nth f.blocks (nth s.2 i).toNat).term.to.length s := rfl
   rw [hrow] at hfin
   generalize hto : (nth f.blocks (nth s.2 i).toNat).term.to = to at hw hw' hwb hfin
   refine lwp_hide fun y hy => ?_
   simp (disch := omega) [nq.len, hlt]
   rw [hy]; clear hy y
   refine lwp_hide fun y hy => ?_
   refine lwp_hide fun x hx => ?_
   simp (disch := omega) [cellH_mono w5.wle cb.1, cb5.idxn (N := 6) rfl, nq.idx1 rfl, nq.int (View.le_refl _), hw.1]
   rw [hx]; clear hx x
   simp
   refine lwp_for [1, 2, 5, 6, 7, 8, 9] (fun (q : Value) j => [.int .i64 wo, .pointer (some ⟨B, 0, none⟩), vo, q, .int .i64 i, w, .int .i64 j]) (fun q j h6 => Owns (vw h1) h6 (rchOwn vo q (up (rchIn wo to) j s))) to.length vq5
    rfl (by omega) rfl w5 (fun _ _ => rfl) (fun v j h4 hk m => by simp [hw.2.len]) ?_ ?_
   ·rintro q j h6 hltj w6 K3 hK3
    have hst : up (rchIn wo to) (j + 1) s = rchIn wo to j (up (rchIn wo to) j s) := rfl
    have hok6 := rchUp_ok (wo := wo) (to := to) hok j
    generalize up (rchIn wo to) j s = s6 at w6 hst hok6
    have no6 := w6.now (k := (0, 0)) (v := vo) (l := s6.1) rfl
    have nq6 := w6.now (k := (0, 1)) (v := q) (l := s6.2) rfl
    have hcnt6 := hok6.cnt
    have hlen6 := hok6.len
    have hr6 := hw'.2.mono w6.wle
    have hrng := hw'.2.range hltj
    rw [rchIn] at hst
    by_cases c1 : 0 ≤ nth to j ∧ nth to j < s6.1.length
    ·have c1a := c1.1
     have c1b := c1.2
     cases c2 : nth s6.1 (nth to j).toNat with
     | true =>
      rw [if_neg (by rw [c2]; simp)] at hst
      simp (disch := omega) [hr6.idx1 rfl, hr6.int (View.le_refl _), no6.len, no6.idx1 rfl, no6.bool (View.le_refl _), c1a, c1b, c2]
      exact hK3 q _ _ rfl rfl (by rw [hst]; exact w6)
     | false =>
      by_cases c3 : nth to j = wo
      ·rw [if_neg (by simp [c3])] at hst
       rw [c3] at c1a c1b c2
       simp (disch := omega) [hr6.idx1 rfl, hr6.int (View.le_refl _), no6.len, no6.idx1 rfl, no6.bool (View.le_refl _), c1a, c1b, c2, c3]
       exact hK3 q _ _ rfl rfl (by rw [hst]; exact w6)
      ·rw [if_pos ⟨c1, c2, c3⟩] at hst
       refine lwp_hide fun x hx => ?_
       simp (disch := omega) [hr6.idx1 rfl, hr6.int (View.le_refl _), no6.len, no6.idx1 rfl, no6.bool (View.le_refl _), c1a, c1b, c2, c3]
       rw [hx]; clear hx x
       simp (disch := omega) [hr6.idx1 rfl, hr6.int (View.le_refl _), no6.idx1 rfl]
       refine w6.do_put (k := (0, 0)) (α := Bool) (l := s6.1) (v := vo) (i := (nth to j).toNat) (d := true) rfl (by kernel_rfl) (by simp [show Rep.n Bool = 1 from rfl]) (by simp <;> rfl) (by omega) rd_b fun h7 w7 hs7 => ?_
       have hr7 := hw'.2.mono w7.wle
       simp (disch := omega) [hr7.idx1 rfl, hr7.int (View.le_refl _)]
       refine w7.do_push (k := (0, 1)) (α := Int) (v := q) (l := s6.2) (d := nth to j) rfl El.s_int (by simp <;> rfl) (rd_i hrng.1 hrng.2) (by omega) (by omega) (fun _ => by simp) (fun _ => by simp) fun u q8 h8 w8 hs8 => ?_
       refine hK3 q8 _ _ rfl rfl ?_
       rw [hst]
       refine w8.congr fun q => ?_
       unfold rchOwn Own.upd
       repeat' split
       all_goals first | rfl | simp_all
    ·rw [if_neg (fun e => c1 e.1)] at hst
     by_cases c1a : 0 ≤ nth to j
     ·have c1b : ¬ nth to j < s6.1.length := fun e => c1 ⟨c1a, e⟩
      simp (disch := omega) [hr6.idx1 rfl, hr6.int (View.le_refl _), no6.len, c1a, c1b]
      exact hK3 q _ _ rfl rfl (by rw [hst]; exact w6)
     ·simp (disch := omega) [hr6.idx1 rfl, hr6.int (View.le_refl _), no6.len, c1a]
      exact hK3 q _ _ rfl rfl (by rw [hst]; exact w6)
   ·rintro q h6 w6
    simp
    rw [hy]; clear hy y
    simp (disch := omega)
    exact hK2 (f.blocks.length + 1 - (i + 1)) _ _ (by omega) ⟨i + 1, _, q, by omega, rfl, by simp [keepE], w6, rchUp_ok hok _, by rw [show f.blocks.length + 1 - (i + 1) = f.blocks.length - i by omega]; exact hfin⟩
  ·have hlt' : ¬ (i : Int) < s.2.length := by omega
   simp (disch := omega) [L.ref03_Reached.l1, nq.len, hlt]
   rw [hz]; clear hz z
   simp
   have hs1 : s.1 = reachedS f wo := by
    rw [← hfin]
    cases f.blocks.length + 1 - i with
    | zero => rfl
    | succ m => rw [rchS, if_neg hlt]
   have ow := w5.get (k := (0, 0)) (v := vo) (l := s.1) rfl
   refine hK _ _ ⟨View.le_trans hle1 w5.wle, ?_⟩
   rw [← hs1]
   have ow' : OwnT nothing h5 T.bool vo s.1 := ow
   refine ow'.fresh (fun _ _ h => by cases h) fun b hb => ?_
   rw [hb2] at hb; cases hb
   exact View.none_of_ge (View.le_refl _) (by omega)
 by_cases c1 : wo = 0
 ·have hr0 : rch0 f wo = (List.replicate f.blocks.length false, []) := by rw [rch0, if_neg (fun e => e.1 c1)]
  rw [hr0] at fin
  simp [cc3, cb3.len, c1]
  rw [c1] at fin
  exact fin _ _ _ w3
 ·by_cases c2 : 0 < f.blocks.length
  ·have hr0 : rch0 f wo = ((List.replicate f.blocks.length false).set 0 true, [0]) := by rw [rch0, if_pos ⟨c1, c2⟩]
   rw [hr0] at fin
   have no := w3.now (k := (0, 0)) (v := vo) (l := List.replicate f.blocks.length false) rfl
   refine lwp_hide fun y hy => ?_
   simp (disch := omega) [cc3, cb3.len, c1, c2]
   rw [hy]; clear hy y
   have i0 : Bn.ev (.idx 1) vo (.int .i64 0) = some (.pointer (some ((slA vo).add 0))) := no.idx1 rfl (by omega) (by simpa using c2)
   simp (disch := omega) [i0]
   refine w3.do_put (k := (0, 0)) (α := Bool) (l := List.replicate f.blocks.length false) (v := vo) (i := 0) (d := true) rfl (by kernel_rfl) (by simp [show Rep.n Bool = 1 from rfl]) (by simp <;> rfl) (by simpa using c2) rd_b fun h4 w4 hs4 => ?_
   refine w4.do_push (k := (0, 1)) (α := Int) (v := vq) (l := []) (d := 0) rfl El.s_int (by simp <;> rfl) (rd_i (by omega) (by omega)) (by simp) (by simp) (fun _ => by simp) (fun _ => by simp) fun u q5 h5 w5 hs5 => ?_
   refine fin _ _ _ (w5.congr fun q => ?_)
   unfold rchOwn Own.upd
   repeat' split
   all_goals first | rfl | simp_all
  ·have hr0 : rch0 f wo = (List.replicate f.blocks.length false, []) := by rw [rch0, if_neg (fun e => c2 e.2)]
   rw [hr0] at fin
   simp [cc3, cb3.len, c1, c2]
   exact fin _ _ _ w3
end Go.Proofs.Ytfelpjfopgiabaa
namespace Go.Proofs.Ytfelpjfopgiabaa
open Go Go.Lft
instance : Rep Th := Rep.via fun d => Cat.mk d.blk (Cat.mk d.place (Cat.mk d.mks d.tks))
theorem Th.p_blk : Part Th Int 0 Th.blk (fun d x => { d with blk := x }) := (Part.fst Part.all).via (fun _ => rfl) fun _ _ => rfl
theorem Th.p_place : Part Th Int 1 Th.place (fun d x => { d with place := x }) := (Part.snd (Part.fst Part.all)).via (fun _ => rfl) fun _ _ => rfl
theorem Th.p_mks : Part Th (List Int) 2 Th.mks (fun d x => { d with mks := x }) := (Part.snd (Part.snd (Part.fst Part.all))).via (fun _ => rfl) fun _ _ => rfl
theorem Th.p_tks : Part Th (List Int) 3 Th.tks (fun d x => { d with tks := x }) := (Part.snd (Part.snd (Part.snd Part.all))).via (fun _ => rfl) fun _ _ => rfl
structure ThR where
 blk : Int
 place : Int
 mks : List Int
 tks : Raw
instance : Rep ThR := Rep.via fun d => Cat.mk d.blk (Cat.mk d.place (Cat.mk d.mks d.tks))
theorem ThR.p_tks : Part ThR Raw 3 ThR.tks (fun d x => { d with tks := x }) := (Part.snd (Part.snd (Part.snd Part.all))).via (fun _ => rfl) fun _ _ => rfl
theorem rd_th {H : View} {a b : Int} {u q : Value} {m t : List Int} (ha : I64 a) (hb : I64 b) (hm : SlRd H u m) (ht : SlRd H q t) : Rd H (.agg #[.int .i64 a, .int .i64 b, u, q]) (Th.mk a b m t) :=
 ⟨_, rfl, [.int .i64 a], [.int .i64 b, u, q], rfl, ⟨rfl, ha⟩, [.int .i64 b], [u, q], rfl, ⟨rfl, hb⟩, [u], [q], rfl, ⟨u, rfl, hm⟩, ⟨q, rfl, ht⟩⟩
theorem rd_thR {H : View} {a b : Int} {u q : Value} {m : List Int} (ha : I64 a) (hb : I64 b) (hm : SlRd H u m) (hq : q.oneCell' = true) : Rd H (.agg #[.int .i64 a, .int .i64 b, u, q]) (ThR.mk a b m ⟨q⟩) :=
 ⟨_, rfl, [.int .i64 a], [.int .i64 b, u, q], rfl, ⟨rfl, ha⟩, [.int .i64 b], [u, q], rfl, ⟨rfl, hb⟩, [u], [q], rfl, ⟨u, rfl, hm⟩, ⟨rfl, hq⟩⟩
theorem thR_cells {H : View} {cs : List Value} {d : ThR} (h : Rep.rd H cs d) : ∃ u, cs = [.int .i64 d.blk, .int .i64 d.place, u, d.tks.v] ∧ I64 d.blk ∧ I64 d.place ∧ SlRd H u d.mks := by
 obtain ⟨c1, r1, rfl, ⟨rfl, h1⟩, c2, r2, rfl, ⟨rfl, h2⟩, c3, r3, rfl, ⟨u, rfl, h3⟩, rfl, _⟩ := h
 exact ⟨u, rfl, h1, h2, h3⟩
def outOwn (vo : Value) (l : List Th) : Own := fun k => if k = (0, 0) then it T.ref03_Thing vo l else none
def outOwn3 (vo : Value) (l : List Th) (D : Nat) (d : ThR) (q : Value) (t : List Int) : Own := fun k => if k = (0, 0) then it T.ref03_Thing vo l else if k = (1, 0) then bx T.ref03_Thing D d else if k = (1, 1) then it T.int q t else none
structure ThS (V : View) (h0 : Heap) (vo : Value) (l : List Th) (W : View) (h : Heap) : Prop where
 own : Owns W h (outOwn vo l)
 old : Old V h0 W
 le : (vw h0).le (vw h)
 av : Av (vw h0) vo
theorem ThS.ext {V : View} {h0 : Heap} {vo : Value} {l : List Th} {W : View} {h h' : Heap} (k : ThS V h0 vo l W h) (hle : (vw h).le (vw h')) : ThS V h0 vo l (grow W h h') h' :=
 ⟨k.own.ext hle, k.old.grow (ext_size k.le), View.le_trans k.le hle, k.av⟩
theorem do_thing {po : OP} {ty : TypeId} {us : List (Nat × Value)} {h : Heap} {K : Value → Heap → Prop} {x y z w : Operand} {a b : Int} {u q : Value} (hx : asg us x = .int .i64 a) (hy : asg us y = .int .i64 b) (hz : asg us z = u) (hw : asg us w = q) (hu : u.cells = #[u]) (hq : q.cells = #[q]) (hk : K (.agg #[.int .i64 a, .int .i64 b, u, q]) h) :
  Lft.step Try.prog (.build T.ref03_Thing #[(0, x), (1, y), (2, z), (3, w)]) ty us h K :=
 do_build (z := .agg #[.int .i64 0, .int .i64 0, .slice none 0 0, .slice none 0 0]) (places := [(0, 1), (1, 1), (2, 1), (3, 1)]) (vs := [(0, .int .i64 a), (1, .int .i64 b), (2, u), (3, q)]) (cs := #[.int .i64 a, .int .i64 b, u, q]) (by kernel_rfl) (by kernel_rfl) (by simp [hx, hy, hz, hw])
  (by simp [Instr.fill, hu, hq]) hk
theorem do_thing2 {po : OP} {ty : TypeId} {us : List (Nat × Value)} {h : Heap} {K : Value → Heap → Prop} {x y z : Operand} {a b : Int} {u : Value} (hx : asg us x = .int .i64 a) (hy : asg us y = .int .i64 b) (hz : asg us z = u) (hu : u.cells = #[u]) (hk : K (.agg #[.int .i64 a, .int .i64 b, u, .slice none 0 0]) h) :
  Lft.step Try.prog (.build T.ref03_Thing #[(0, x), (1, y), (2, z)]) ty us h K :=
 do_build (z := .agg #[.int .i64 0, .int .i64 0, .slice none 0 0, .slice none 0 0]) (places := [(0, 1), (1, 1), (2, 1), (3, 1)]) (vs := [(0, .int .i64 a), (1, .int .i64 b), (2, u)]) (cs := #[.int .i64 a, .int .i64 b, u, .slice none 0 0]) (by kernel_rfl) (by kernel_rfl) (by simp [hx, hy, hz])
  (by simp [Instr.fill, hu]) hk
theorem do_thing3 {po : OP} {ty : TypeId} {us : List (Nat × Value)} {h : Heap} {K : Value → Heap → Prop} {x y w : Operand} {a b : Int} {q : Value} (hx : asg us x = .int .i64 a) (hy : asg us y = .int .i64 b) (hw : asg us w = q) (hq : q.cells = #[q]) (hk : K (.agg #[.int .i64 a, .int .i64 b, .slice none 0 0, q]) h) :
  Lft.step Try.prog (.build T.ref03_Thing #[(0, x), (1, y), (3, w)]) ty us h K :=
 do_build (z := .agg #[.int .i64 0, .int .i64 0, .slice none 0 0, .slice none 0 0]) (places := [(0, 1), (1, 1), (2, 1), (3, 1)]) (vs := [(0, .int .i64 a), (1, .int .i64 b), (3, q)]) (cs := #[.int .i64 a, .int .i64 b, .slice none 0 0, q]) (by kernel_rfl) (by kernel_rfl) (by simp [hx, hy, hw])
  (by simp [Instr.fill, hq]) hk
theorem refThings_ok {f : FuncD} {v : Value} {V : View} {h : Heap} (hv : Rd V v f) (hV : V.le (vw h)) (hsm : SmF f) :
  HCalls Try.prog N.ref03_Things #[v] h (fun u h' => (vw h).le (vw h') ∧ SlRd (grow V h h') u (thingsS f)) := by
 refine calls_lift (args := [v]) follows F.ref03_Things E.ref03_Things (Nat.le_of_ble_eq_true (by kernel_rfl)) fun K hK => ?_
 have hn := hsm.len
 dsimp only [L.ref03_Things]
 refine lwp_hide fun z hz => ?_
 simp
 refine do_box (v := v) rfl ?_
 have hle1 := push_le h (.cells v.cells T.api_Func)
 have hat1 : At (grow V h (h.push (.cells v.cells T.api_Func))) ⟨h.size, 0, none⟩ f := at_new (t := T.api_Func) (fz := (0, 0)) (by rw [grow_new (Nat.le_refl _)]; simp) (hv.mono (le_grow hV))
 have hs1 : (h.push (.cells v.cells T.api_Func)).size = h.size + 1 := by simp
 generalize h.push (.cells v.cells T.api_Func) = h1 at hle1 hat1 hs1
 have hW1 : (grow V h h1).le (vw h1) := grow_le (View.le_trans hV hle1)
 have old1 : Old V h (grow V h h1) := (Old.refl V h).grow (Nat.le_refl _)
 obtain ⟨_, vb, cb⟩ := at_funcB hat1
 generalize grow V h h1 = W1 at cb hW1 old1
 generalize h.size = B at cb
 rw [hz]; clear hz z
 refine lwp_hide fun z hz => ?_
 simp
 refine do_lit0 (α := Th) El.s_ref03_Thing fun h2 hle2 hsz2 own2 => ?_
 have t2 : ThS V h (.slice (some ⟨h1.size, 0, none⟩) 0 0) [] W1 h2 := ⟨((Owns.start hW1).add (k := (0, 0)) rfl (own2 _) hle2 (fun b hb => by simp only [Value.ownBlock, Option.some.injEq] at hb; omega)).congr fun q => by
   unfold outOwn Own.upd
   repeat' split
   all_goals first | rfl | simp_all, old1, View.le_trans hle1 hle2, fun b hb => by cases hb; exact View.none_of_ge (View.le_refl _) (by show h.size ≤ h1.size; omega)⟩
 generalize Value.slice (some ⟨h1.size, 0, none⟩) 0 0 = v0 at t2
 rw [hz]; clear hz z
 refine lwp_hide fun z hz => ?_
 simp
 refine lwp_for [1, 3, 4] (fun (r : Value) b => [.pointer (some ⟨B, 0, none⟩), r, .int .i64 b]) (fun r b h3 => ∃ W, W1.le W ∧ ThS V h r (thTo f b) W h3) f.blocks.length v0
  rfl (by omega) rfl ⟨W1, View.le_refl _, t2⟩ (fun _ _ => rfl) (fun v k h3 hk ⟨W, q1, q2⟩ => by simp [cellH_mono (View.le_trans q1 q2.own.wle) cb.1, (cb.2.mono (View.le_trans q1 q2.own.wle)).len]) ?_ ?_
 ·rintro r b h3 hltb ⟨W3, hW3, t3⟩ K2 hK2
  have hl3 := thTo_len hsm (n := b) (by omega)
  have cb3 := cb.2.mono (View.le_trans hW3 t3.own.wle)
  have cc3 := cellH_mono (View.le_trans hW3 t3.own.wle) cb.1
  obtain ⟨u, hu, hur⟩ := (cb.2.mono hW3).wh rfl (N := 6) rfl hltb
  have sb := hsm.blk b hltb
  refine lwp_hide fun y hy => ?_
  simp (disch := omega) [cc3, cb3.idxn (N := 6) rfl, hu _ t3.own.wle]
  refine do_newX (X := W3) (z := .agg #[.slice none 0 0, .slice none 0 0, .int .i64 0, .slice none 0 0, .slice none 0 0, .int .i32 0]) (by kernel_rfl) rfl (by kernel_rfl) hur (fun _ => by simp) (fun _ => by simp) fun h4 hle4 hsz4 hat4 => ?_
  have t4 := t3.ext hle4
  have hat4' := hat4 (grow W3 h3 h4) (le_grow t3.own.wle) (grow_new (Nat.le_refl _))
  obtain ⟨vp, vi, va, vt, bp, bi, bk, ba, bt⟩ := at_blkB hat4'
  have hW4 := View.le_trans hW3 (le_grow (h' := h4) t3.own.wle)
  generalize grow W3 h3 h4 = W4 at t4 bp bi bk ba bt hW4
  generalize h3.size = D at bp bi bk ba bt
  rw [hy]; clear hy y
  refine lwp_hide fun y hy => ?_
  simp
  have sp := sb.phis
  refine lwp_for [1, 3, 4, 5, 6] (fun (r : Value) i => [.pointer (some ⟨B, 0, none⟩), r, .int .i64 b, .pointer (some ⟨D, 0, none⟩), .int .i64 i]) (fun r i h5 => ∃ W, W4.le W ∧ ThS V h r (thTo f b ++ rows (phiT f b) i) W h5) (nth f.blocks b).phis.length r
   rfl (by omega) rfl ⟨W4, View.le_refl _, by simpa using t4⟩ (fun _ _ => rfl) (fun v k h3 hk ⟨W, q1, q2⟩ => by simp [cellH_mono (View.le_trans q1 q2.own.wle) bp.1, (bp.2.mono (View.le_trans q1 q2.own.wle)).len]) ?_ ?_
  ·rintro r i h5 hlti ⟨W5, hW5, t5⟩ K3 hK3
   have bp5 := bp.2.mono hW5
   have bph := bp5.mono t5.own.wle
   have cph := cellH_mono (View.le_trans hW5 t5.own.wle) bp.1
   have hap := (bp5.at hlti)
   rw [← nth_eq hlti] at hap
   have hdst : cellH W5 (((slA vp).add (i * 2)).add 0) = some (.int .i64 (nth (nth f.blocks b).phis i).dst) := (hap.part PhiD.p_dst).int
   have hdr := (hap.part PhiD.p_dst).rng
   obtain ⟨vq, hvq⟩ := (hap.part PhiD.p_ins).sl
   have hvq1 : cellH W5 (((slA vp).add (i * 2)).add 1) = some vq := hvq.1
   have hvq2 := hvq.2
   have hpl := sb.phi i hlti
   have hpt : phiT f b i = ⟨b, -1 - i, [(nth (nth f.blocks b).phis i).dst], (nth (nth f.blocks b).phis i).ins.map InD.val⟩ := rfl
   generalize nth (nth f.blocks b).phis i = x at hdst hdr hvq2 hpl hpt
   refine lwp_hide fun q hq => ?_
   simp (disch := omega) [cph, bph.idxn (N := 2) rfl, cellH_mono t5.own.wle hdst]
   refine do_litN (X := nothing) (ds := [x.dst]) (vs := [.int .i64 x.dst]) rfl El.s_int (by simp) ⟨rd_int.2 ⟨rfl, hdr⟩, trivial⟩ nothing_le rfl (by omega) fun u6 h6 hle6 hsz6 hu6 hub6 => ?_
   have hu6n := hu6 (vw h6) nothing_le rfl
   refine do_thing2 rfl rfl rfl hu6n.cells.1 ?_
   simp
   refine do_newV (n := 4) (v := .agg #[.int .i64 b, .int .i64 (-1 - i), u6, .slice none 0 0]) (z := .agg #[.int .i64 0, .int .i64 0, .slice none 0 0, .slice none 0 0]) (by kernel_rfl) rfl (by kernel_rfl) rfl (by intro c hc; simp at hc; rcases hc with rfl | rfl | rfl | rfl <;> first | rfl | exact hu6n.cells.2) (fun _ => by simp) (fun _ => by simp) fun h7 hle7 hsz7 hb7 => ?_
   have w6 := t5.own.ext hle6
   have w7 := (w6.add (k := (1, 0)) rfl (ownT_box (h := h7) (d := ThR.mk b (-1 - i) [x.dst] ⟨.slice none 0 0⟩) hb7 (rd_thR ⟨by omega, by omega⟩ ⟨by omega, by omega⟩ (hu6 _ nothing_le (grow_new (Nat.le_refl _))) rfl) (by decide)) hle7 (fun b hb => by simp only [Value.ownBlock, Option.some.injEq] at hb; omega)).add (k := (1, 1)) rfl (OwnT.nil (α := Int) _ h7 T.int) (View.le_refl _) (fun b hb => by simp [Value.ownBlock] at hb)
   have w7 : Owns (grow W5 h5 h6) h7 (outOwn3 r (thTo f b ++ rows (phiT f b) i) h6.size (ThR.mk b (-1 - i) [x.dst] ⟨.slice none 0 0⟩) (.slice none 0 0) []) := w7.congr fun q => by
    unfold outOwn3 outOwn Own.upd
    repeat' split
    all_goals first | rfl | simp_all
   have hW7 := View.le_trans hW5 (le_grow (h' := h6) t5.own.wle)
   have old7 := t5.old.grow (h1 := h5) (h2 := h6) (ext_size t5.le)
   have hle07 := View.le_trans t5.le (View.le_trans hle6 hle7)
   have hvq7 := hvq2.mono (le_grow (h' := h6) t5.own.wle)
   have cvq7 := cellH_mono (le_grow (h' := h6) t5.own.wle) hvq1
   generalize grow W5 h5 h6 = W7 at w7 hW7 old7 hvq7 cvq7
   have hD7 : h.size ≤ h6.size := Nat.le_trans (ext_size t5.le) (ext_size hle6)
   generalize h6.size = D7 at w7 hD7
   rw [hq]; clear hq q
   refine lwp_hide fun q hq => ?_
   simp
   refine lwp_for [1, 3, 4, 5, 6, 7, 8] (fun (q : Value) j => [.pointer (some ⟨B, 0, none⟩), r, .int .i64 b, .pointer (some ⟨D, 0, none⟩), .int .i64 i, .pointer (some ⟨D7, 0, none⟩), .int .i64 j])
    (fun q j h8 => Owns W7 h8 (outOwn3 r (thTo f b ++ rows (phiT f b) i) D7 (ThR.mk b (-1 - i) [x.dst] ⟨q⟩) q ((x.ins.map InD.val).take j)) ∧ (vw h).le (vw h8) ∧ Av (vw h) q) x.ins.length (.slice none 0 0)
    rfl (by omega) rfl ⟨w7, hle07, Av.nil _ _ _⟩ (fun _ _ => rfl) (fun v k h8 hk ⟨w8, q2⟩ => by
     have bp8 := (bp.2.mono hW7).mono w8.wle
     simp (disch := omega) [cellH_mono (View.le_trans hW7 w8.wle) bp.1, bp8.idxn (N := 2) rfl, cellH_mono w8.wle cvq7, (hvq7.mono w8.wle).len]) ?_ ?_
   ·rintro q8 j h8 hltj ⟨w8, hle08, av8⟩ K4 hK4
    have bp8 := (bp.2.mono hW7).mono w8.wle
    have hv8 := hvq7.mono w8.wle
    have hai := (hvq7.at hltj)
    rw [← nth_eq hltj] at hai
    have hval : cellH W7 (((slA vq).add (j * 2)).add 1) = some (.int .i64 (nth x.ins j).val) := (hai.part InD.p_val).int
    have hvr := (hai.part InD.p_val).rng
    have hl8 : ((x.ins.map InD.val).take j).length = j := by simp; omega
    have htk : (x.ins.map InD.val).take (j + 1) = (x.ins.map InD.val).take j ++ [(nth x.ins j).val] := by
     rw [List.take_add_one, List.getElem?_map, List.getElem?_eq_getElem hltj, nth_eq hltj]; rfl
    have hq8 : cellH (vw h8) ⟨D7, 3, none⟩ = some q8 := by
     have := ((w8.at (k := (1, 0)) (e := T.ref03_Thing) (B := D7) (d := ThR.mk b (-1 - i) [x.dst] ⟨q8⟩) rfl).part ThR.p_tks).raw
     simpa using this
    refine drawn_at (vw h8) (View.le_refl _) ?_
    simp (disch := omega) [hq8, cellH_mono (View.le_trans hW7 w8.wle) bp.1, bp8.idxn (N := 2) rfl, cellH_mono w8.wle cvq7, hv8.idxn (N := 2) rfl, cellH_mono w8.wle hval]
    refine do_one (α := Int) (W := W7) El.s_int rfl (rd_int.2 ⟨rfl, hvr⟩) fun u9 h9 hs9 hle9 hsz9 => ⟨hle9, ?_⟩
    refine (w8.ext' hle9).do_append (k := (1, 1)) (α := Int) (v := q8) (l := (x.ins.map InD.val).take j) rfl El.s_int rfl rfl hs9 (by simp; omega) (by simp; omega) fun q10 h10 w10 m10 => ?_
    have hc10 := w10.cells (k := (1, 1)) (Own.upd_self)
    obtain ⟨hX10, av10⟩ := m10.view (View.le_trans hle08 hle9) av8
    refine w10.do_fieldM (k := (1, 0)) (e := T.ref03_Thing) (B := D7) (D := ThR.mk b (-1 - i) [x.dst] ⟨q8⟩) ThR.p_tks (d := ⟨q10⟩) rfl (by kernel_rfl) rfl rfl (rd_raw.2 ⟨rfl, hc10.2⟩) fun h11 w11 hX11 => ?_
    refine hK4 q10 _ _ rfl rfl ⟨w11.congr fun p => ?_, hX11 _ hX10 (View.none_of_ge (View.le_refl _) hD7), av10⟩
    rw [htk]
    unfold outOwn3 Own.upd
    repeat' split
    all_goals first | rfl | simp_all
   ·rintro q8 h8 ⟨w8, hle08, av8⟩
    rw [List.take_of_length_le (by simp)] at w8
    simp
    rw [hq]; clear hq q
    obtain ⟨cs, hcs, hrd⟩ := w8.atW (k := (1, 0)) (e := T.ref03_Thing) (B := D7) (d := ThR.mk b (-1 - i) [x.dst] ⟨q8⟩) rfl
    obtain ⟨u9, rfl, i1, i2, hu9⟩ := thR_cells hrd
    obtain ⟨w9, hq9⟩ := w8.freeze (k := (1, 1)) (v := q8) (l := x.ins.map InD.val) rfl
    have hpl9 : W7.le (W7.plus q8 h8) := le_plus (w8.av (1, 1) _ rfl)
    have hload : Un.ev (vw h8) (.loads 4) (.pointer (some ⟨D7, 0, none⟩)) = some (.agg #[.int .i64 b, .int .i64 (-1 - i), u9, q8]) := by
     have := cellsFrom_at hcs 4 0 #[] (by rfl)
     simp [Un.ev, vP, this]
    have hold9 : Old V h (W7.plus q8 h8) := fun c o hc hco => by
     unfold View.plus at hco
     split at hco
     ·rename_i e
      have := av8 c e
      simp only [vw] at this
      rw [Array.getElem?_eq_getElem hc] at this; cases this
     ·exact old7 c o hc hco
    have w9 : Owns (W7.plus q8 h8) h8 (outOwn r (thTo f b ++ rows (phiT f b) i)) := w9.sub fun p x hp => by
     unfold outOwn at hp
     split at hp
     ·rename_i e; subst e; exact hp
     ·cases hp
    have hlr : (thTo f b ++ rows (phiT f b) i).length = (thTo f b).length + i := by simp
    simp [hload]
    refine w9.do_pushM (k := (0, 0)) (α := Th) (v := r) (l := thTo f b ++ rows (phiT f b) i) (d := phiT f b i) rfl El.s_ref03_Thing rfl (by rw [hpt]; exact rd_th i1 i2 (hu9.mono hpl9) hq9) (by omega) (by omega) (fun _ => rfl) (fun _ => rfl) fun u10 r10 h10 w10 hX10 => ?_
    obtain ⟨g1, g2⟩ := hX10 _ hle08 t5.av
    refine hK3 r10 _ _ rfl rfl ⟨W7.plus q8 h8, View.le_trans hW7 hpl9, ⟨w10.congr fun p => ?_, hold9, g1, g2⟩⟩
    rw [rows_succ, ← List.append_assoc]
    unfold outOwn Own.upd
    repeat' split
    all_goals first | rfl | simp_all
  ·rintro r h5 ⟨W5, hW5, t5⟩
   simp
   rw [hy]; clear hy y
   refine lwp_hide fun y hy => ?_
   simp
   have si := sb.ins
   refine lwp_for [1, 3, 4, 5, 9] (fun (r : Value) i => [.pointer (some ⟨B, 0, none⟩), r, .int .i64 b, .pointer (some ⟨D, 0, none⟩), .int .i64 i]) (fun r i h6 => ∃ W, W4.le W ∧ ThS V h r (thTo f b ++ rows (phiT f b) (nth f.blocks b).phis.length ++ rows (insT f b) i) W h6) (nth f.blocks b).ins.length r
    rfl (by omega) rfl ⟨W5, hW5, by simpa using t5⟩ (fun _ _ => rfl) (fun v k h3 hk ⟨W, q1, q2⟩ => by simp [cellH_mono (View.le_trans q1 q2.own.wle) bi.1, (bi.2.mono (View.le_trans q1 q2.own.wle)).len]) ?_ ?_
   ·rintro r i h6 hlti ⟨W6, hW6, t6⟩ K3 hK3
    have bi6 := bi.2.mono hW6
    have bih := bi6.mono t6.own.wle
    have cih := cellH_mono (View.le_trans hW6 t6.own.wle) bi.1
    obtain ⟨ux, hux, huxr⟩ := bi6.wh rfl (N := 5) rfl hlti
    have hap := (bi6.at hlti)
    rw [← nth_eq hlti] at hap
    obtain ⟨vq, hvq⟩ := (hap.part InsD.p_args).sl
    have hvq1 : cellH W6 (((slA vi).add (i * 5)).add 3) = some vq := hvq.1
    have hvq2 := hvq.2
    have hpt : insT f b i = ⟨b, i, makesS (nth (nth f.blocks b).ins i), (nth (nth f.blocks b).ins i).args⟩ := rfl
    generalize nth (nth f.blocks b).ins i = x at hvq2 huxr hpt
    have hlr : (thTo f b ++ rows (phiT f b) (nth f.blocks b).phis.length ++ rows (insT f b) i).length = (thTo f b).length + (nth f.blocks b).phis.length + i := by simp; omega
    refine drawn_at (vw h6) (View.le_refl _) ?_
    simp (disch := omega) [cih, bih.idxn (N := 5) rfl, hux _ t6.own.wle, cellH_mono t6.own.wle hvq1]
    refine call_to (by kernel_rfl) (refMakes_ok (huxr.mono t6.own.wle)) ?_
    rintro u7 h7 ⟨hle7, hu7, _⟩
    refine ⟨hle7, ?_⟩
    have t7 := t6.ext hle7
    have hu7' := hu7.mono (fresh_grow W6 h6 h7)
    have hvq7 := hvq2.mono (le_grow (h' := h7) t6.own.wle)
    refine do_thing rfl rfl rfl rfl hu7.cells.1 hvq2.cells.1 ?_
    simp
    refine t7.own.do_pushM (k := (0, 0)) (α := Th) (v := r) (l := thTo f b ++ rows (phiT f b) (nth f.blocks b).phis.length ++ rows (insT f b) i) (d := insT f b i) rfl El.s_ref03_Thing rfl (by rw [hpt]; exact rd_th ⟨by omega, by omega⟩ ⟨by omega, by omega⟩ hu7' hvq7) (by omega) (by omega) (fun _ => rfl) (fun _ => rfl) fun u10 r10 h10 w10 hX10 => ?_
    obtain ⟨g1, g2⟩ := hX10 _ t7.le t7.av
    refine hK3 r10 _ _ rfl rfl ⟨_, View.le_trans hW6 (le_grow (h' := h7) t6.own.wle), ⟨w10.congr fun p => ?_, t7.old, g1, g2⟩⟩
    rw [rows_succ, ← List.append_assoc]
    unfold outOwn Own.upd
    repeat' split
    all_goals first | rfl | simp_all
   ·rintro r h6 ⟨W6, hW6, t6⟩
    simp
    rw [hy]; clear hy y
    have hW6h := View.le_trans hW6 t6.own.wle
    have bih := bi.2.mono hW6h
    have cih := cellH_mono hW6h bi.1
    have hlr : (thTo f b ++ rows (phiT f b) (nth f.blocks b).phis.length ++ rows (insT f b) (nth f.blocks b).ins.length).length = (thTo f b).length + (nth f.blocks b).phis.length + (nth f.blocks b).ins.length := by simp; omega
    simp [cih, bih.len, cellH_mono hW6h ba.1]
    refine do_thing3 rfl rfl rfl (ba.2.cells.1) ?_
    simp
    refine t6.own.do_pushM (k := (0, 0)) (α := Th) (v := r) (l := thTo f b ++ rows (phiT f b) (nth f.blocks b).phis.length ++ rows (insT f b) (nth f.blocks b).ins.length) (d := endT f b) rfl El.s_ref03_Thing rfl (rd_th ⟨by omega, by omega⟩ ⟨by omega, by omega⟩ nil_sl (ba.2.mono hW6)) (by omega) (by omega) (fun _ => rfl) (fun _ => rfl) fun u10 r10 h10 w10 hX10 => ?_
    obtain ⟨g1, g2⟩ := hX10 _ t6.le t6.av
    refine hK2 r10 _ _ rfl rfl ⟨_, View.le_trans hW4 hW6, ⟨w10.congr fun p => ?_, t6.old, g1, g2⟩⟩
    have e : thTo f (b + 1) = thTo f b ++ rows (phiT f b) (nth f.blocks b).phis.length ++ rows (insT f b) (nth f.blocks b).ins.length ++ [endT f b] := by
     rw [thTo_succ, thB]; simp [List.append_assoc]
    rw [e]
    unfold outOwn Own.upd
    repeat' split
    all_goals first | rfl | simp_all
 ·rintro r h3 ⟨W3, hW3, t3⟩
  simp
  rw [hz]; clear hz z
  simp
  exact hK _ _ ⟨t3.le, (t3.own.get (k := (0, 0)) (v := r) (l := thTo f f.blocks.length) rfl).rd (t3.old.le t3.own.wle) fun b hb => by
   have := t3.av b hb
   rw [grow_new]
   rcases Nat.lt_or_ge b h.size with hlt | hge
   ·simp [vw, hlt] at this
   ·exact hge⟩
end Go.Proofs.Ytfelpjfopgiabaa
namespace Go.Proofs.Ytfelpjfopgiabaa
open Go Go.Lft
structure GotD where
 e : Int
 b : Int
 p : Int
instance : Rep GotD := Rep.via fun d => Cat.mk d.e (Cat.mk d.b d.p)
def gotV (t : Tr) : Value := .agg #[.int .i64 t.1, .int .i64 t.2.1, .int .i64 t.2.2]
def gotD (t : Tr) : GotD := ⟨t.1, t.2.1, t.2.2⟩
theorem rd_got {H : View} {t : Tr} (h1 : I64 t.1) (h2 : I64 t.2.1) (h3 : I64 t.2.2) : Rd H (gotV t) (gotD t) :=
 ⟨_, rfl, [.int .i64 t.1], [.int .i64 t.2.1, .int .i64 t.2.2], rfl, ⟨rfl, h1⟩, [.int .i64 t.2.1], [.int .i64 t.2.2], rfl, ⟨rfl, h2⟩, rfl, h3⟩
theorem got_cells {H : View} {cs : List Value} {d : GotD} (h : Rep.rd H cs d) : cs = [.int .i64 d.e, .int .i64 d.b, .int .i64 d.p] := by
 obtain ⟨c1, r1, rfl, ⟨rfl, _⟩, c2, r2, rfl, ⟨rfl, _⟩, rfl, _⟩ := h
 rfl
theorem got_load {W : View} {h : Heap} {o : Own} {k : Key} {e : TypeId} {B : Nat} {t : Tr} (w : Owns W h o) (hk : o k = bx e B (gotD t)) : Un.ev (vw h) (.loads 3) (.pointer (some ⟨B, 0, none⟩)) = some (gotV t) := by
 obtain ⟨cs, hcs, hrd⟩ := w.atW hk
 have := got_cells hrd
 subst this
 have := cellsFrom_at hcs 3 0 #[] (by rfl)
 simp [Un.ev, vP, this, gotV, gotD]
theorem do_got {po : OP} {ty : TypeId} {us : List (Nat × Value)} {h : Heap} {K : Value → Heap → Prop} {x y z : Operand} {t : Tr} (hx : asg us x = .int .i64 t.1) (hy : asg us y = .int .i64 t.2.1) (hz : asg us z = .int .i64 t.2.2) (hk : K (gotV t) h) :
  Lft.step Try.prog (.build T.ref03_Got #[(0, x), (1, y), (2, z)]) ty us h K :=
 do_build (z := .agg #[.int .i64 0, .int .i64 0, .int .i64 0]) (places := [(0, 1), (1, 1), (2, 1)]) (vs := [(0, .int .i64 t.1), (1, .int .i64 t.2.1), (2, .int .i64 t.2.2)]) (cs := #[.int .i64 t.1, .int .i64 t.2.1, .int .i64 t.2.2]) (by kernel_rfl) (by kernel_rfl) (by simp [hx, hy, hz]) (by rfl) hk
theorem do_got0 {po : OP} {ty : TypeId} {us : List (Nat × Value)} {h : Heap} {K : Value → Heap → Prop} (hk : K (gotV (0, 0, 0)) h) : Lft.step Try.prog (.build T.ref03_Got #[]) ty us h K :=
 do_build (z := .agg #[.int .i64 0, .int .i64 0, .int .i64 0]) (places := [(0, 1), (1, 1), (2, 1)]) (vs := []) (cs := #[.int .i64 0, .int .i64 0, .int .i64 0]) (by kernel_rfl) (by kernel_rfl) (by simp) (by rfl) hk
theorem do_got1 {po : OP} {ty : TypeId} {us : List (Nat × Value)} {h : Heap} {K : Value → Heap → Prop} {e : Int} (hk : K (gotV (e, 0, 0)) h) : Lft.step Try.prog (.build T.ref03_Got #[(0, .const (.int .i64 e))]) ty us h K :=
 do_build (z := .agg #[.int .i64 0, .int .i64 0, .int .i64 0]) (places := [(0, 1), (1, 1), (2, 1)]) (vs := [(0, .int .i64 e)]) (cs := #[.int .i64 e, .int .i64 0, .int .i64 0]) (by kernel_rfl) (by kernel_rfl) (by simp) (by rfl) hk
theorem do_got2 {po : OP} {ty : TypeId} {us : List (Nat × Value)} {h : Heap} {K : Value → Heap → Prop} {x : Operand} {e b : Int} (hx : asg us x = .int .i64 b) (hk : K (gotV (e, b, 0)) h) : Lft.step Try.prog (.build T.ref03_Got #[(0, .const (.int .i64 e)), (1, x)]) ty us h K :=
 do_build (z := .agg #[.int .i64 0, .int .i64 0, .int .i64 0]) (places := [(0, 1), (1, 1), (2, 1)]) (vs := [(0, .int .i64 e), (1, .int .i64 b)]) (cs := #[.int .i64 e, .int .i64 b, .int .i64 0]) (by kernel_rfl) (by kernel_rfl) (by simp [hx]) (by rfl) hk
theorem at_thB {H : View} {B : Nat} {d : Th} (h : At H ⟨B, 0, none⟩ d) : cellH H ⟨B, 0, none⟩ = some (.int .i64 d.blk) ∧ cellH H ⟨B, 1, none⟩ = some (.int .i64 d.place) ∧ (∃ v, Sl H ⟨B, 2, none⟩ v d.mks) ∧ ∃ v, Sl H ⟨B, 3, none⟩ v d.tks := by
 obtain ⟨v, hv⟩ := (h.part Th.p_mks).sl
 obtain ⟨u, hu⟩ := (h.part Th.p_tks).sl
 exact ⟨by simpa using (h.part Th.p_blk).int, by simpa using (h.part Th.p_place).int, ⟨v, by simpa using hv⟩, u, by simpa using hu⟩
abbrev BL := List Bool
def mkdStep (t : Th) (j : Nat) (m : BL) : Except Tr BL := if nth m (nth t.mks j).toNat then .error (12, t.blk, t.place) else .ok (m.set (nth t.mks j).toNat true)
def blkOf (f : FuncD) (t : Th) : BlkD := nth f.blocks t.blk.toNat
def insOf (f : FuncD) (t : Th) : InsD := nth (blkOf f t).ins t.place.toNat
def isIns (f : FuncD) (t : Th) : Bool := decide (0 ≤ t.place) && decide (t.place < (blkOf f t).ins.length)
def isLast (f : FuncD) (t : Th) : Bool := decide (t.place = (blkOf f t).ins.length)
def opBad (s : InsD) : Bool := decide (s.op < 1) || decide (18 < s.op) || !countsS s.op s.args.length
def numBad (f : FuncD) (n : Int) : Bool := decide (n < f.params) || decide (8191 < n)
def toBad (f : FuncD) (n : Int) : Bool := decide (n < 1) || decide ((f.blocks.length : Int) ≤ n)
def afterMk (f : FuncD) (t : Th) : Except Tr BL → Except Tr BL
 | .error e => .error e
 | .ok m' => if isLast f t && (blkOf f t).term.to.any (toBad f) then .error (14, t.blk, t.place) else .ok m'
def thShape (f : FuncD) (t : Th) (m : BL) : Except Tr BL :=
 if isIns f t && opBad (insOf f t) then .error (10, t.blk, t.place)
 else if isLast f t && !termS (blkOf f t).term then .error (10, t.blk, t.place)
 else if t.mks.any (numBad f) then .error (11, t.blk, t.place)
 else afterMk f t (upE (mkdStep t) t.mks.length m)
def refShapeS (f : FuncD) : Except Tr BL := upE (fun i m => thShape f (nth (thingsS f) i) m) (thingsS f).length (List.replicate 8192 false)
def errOf {α : Type} : Except Tr α → Tr | .ok _ => (0, 0, 0) | .error t => t
theorem thShape_len {f : FuncD} {t : Th} {m m' : BL} (h : thShape f t m = .ok m') : m'.length = m.length := by
 unfold thShape at h
 split at h
 ·cases h
 ·split at h
  ·cases h
  ·split at h
   ·cases h
   ·unfold afterMk at h
    split at h
    ·cases h
    ·rename_i m1 hm1
     have key : ∀ n s, upE (mkdStep t) n m = .ok s → s.length = m.length := by
      intro n
      induction n with
      | zero => intro s hs; cases hs; rfl
      | succ n ih =>
       intro s hs
       simp only [upE] at hs
       split at hs
       ·rename_i s1 hs1
        have := ih s1 hs1
        unfold mkdStep at hs
        split at hs
        ·cases hs
        ·cases hs; simpa using this
       ·cases hs
     split at h
     ·cases h
     ·cases h; exact key _ _ hm1
end Go.Proofs.Ytfelpjfopgiabaa
namespace Go.Proofs.Ytfelpjfopgiabaa
open Go Go.Lft
def shOwn (vm : Value) (m : BL) (R : Nat) (g : GotD) : Own := fun k => if k = (0, 0) then it T.bool vm m else if k = (1, 0) then bx T.ref03_Got R g else none
theorem shOwn_put {vm : Value} {m m' : BL} {R : Nat} {g : GotD} (q : Key) : shOwn vm m' R g q = (shOwn vm m R g).upd (0, 0) (it T.bool vm m') q := by
 unfold shOwn Own.upd
 repeat' split
 all_goals first | rfl | simp_all
theorem refShape_ok {f : FuncD} {v : Value} {h : Heap} (hv : Rd (vw h) v f) (hsm : SmF f) (hp0 : 0 ≤ f.params) :
  HCalls Try.prog N.ref03_shape #[v] h (fun u h' => u = gotV (errOf (refShapeS f)) ∧ (vw h).le (vw h')) := by
 refine calls_lift (args := [v]) follows F.ref03_shape E.ref03_shape (Nat.le_of_ble_eq_true (by kernel_rfl)) fun K hK => ?_
 have hn := hsm.len
 dsimp only [L.ref03_shape]
 refine lwp_hide fun z hz => ?_
 simp
 refine do_boxT rfl hv fun h1 _ hle1 hs1 hat => ?_
 obtain ⟨cp, vb, cb⟩ := at_funcB hat
 obtain ⟨u, hu, hur⟩ := hat.loads rfl
 have hu : Un.ev (vw h1) (.loads 2) (.pointer (some ⟨h.size, 0, none⟩)) = some u := hu
 generalize h.size = B at cp cb hu
 refine do_alloc (z := .agg #[.int .i64 0, .int .i64 0, .int .i64 0]) (by kernel_rfl) ?_
 have q1 := push_le h1 (.cells (Value.cells (.agg #[.int .i64 0, .int .i64 0, .int .i64 0])) T.ref03_Got)
 generalize e2 : h1.push (.cells (Value.cells (.agg #[.int .i64 0, .int .i64 0, .int .i64 0])) T.ref03_Got) = h2 at q1
 have b2 : h2[h1.size]? = some (.cells (gotV (0, 0, 0)).cells T.ref03_Got (0, 0)) := by rw [← e2]; simp; rfl
 have w2 := (Owns.start (h := h1) (View.le_refl (vw h1))).add (k := (1, 0)) rfl (ownT_box (h := h2) (d := gotD (0, 0, 0)) b2 (rd_got (by constructor <;> decide) (by constructor <;> decide) (by constructor <;> decide)) (by decide)) q1 (fun b hb => by simp only [Value.ownBlock, Option.some.injEq] at hb; omega)
 generalize h1.size = R at w2
 rw [hz]; clear hz z
 refine lwp_hide fun z hz => ?_
 simp
 refine do_make (α := Bool) (W := vw h1) (k := .i64) (n := 8192) (d := false) El.s_bool rfl rfl rfl (by omega) (by omega) fun vm h3 o3 m3 hle3 hb3 => ?_
 have w3 := w2.add (k := (0, 0)) rfl o3 hle3 (fun b hb => by rw [hb3] at hb; cases hb; exact Nat.le_refl _)
 have w3 : Owns (vw h1) h3 (shOwn vm (List.replicate 8192 false) R (gotD (0, 0, 0))) := w3.congr fun q => by
  unfold shOwn Own.upd
  repeat' split
  all_goals first | rfl | simp_all
 rw [hz]; clear hz z
 refine lwp_hide fun z hz => ?_
 have hu3 : Un.ev (vw h3) (.loads 2) (.pointer (some ⟨B, 0, none⟩)) = some u := by
  have := ev_mono (ρ := fun _ => none) (e := .un (.loads 2) (.con (.pointer (some ⟨B, 0, none⟩)))) w3.wle (v := u) (by simpa using hu)
  simpa using this
 simp [hu3]
 refine call_to (by kernel_rfl) (refThings_ok hur w3.wle hsm) ?_
 rintro vt h4 ⟨hle4, ht⟩
 have w4 := w3.ext hle4
 have hW1 : (vw h1).le (grow (vw h1) h3 h4) := le_grow w3.wle
 have hth : ∀ t ∈ thingsS f, ThOk f t := fun t ht => thing_ok hsm ht
 have hrs : refShapeS f = upE (fun i m => thShape f (nth (thingsS f) i) m) (thingsS f).length (List.replicate 8192 false) := rfl
 have htl := ht.bound
 generalize thingsS f = ts at ht hth hrs htl
 generalize grow (vw h1) h3 h4 = W1 at w4 hW1 ht
 rw [hz]; clear hz z
 refine lwp_hide fun z hz => ?_
 simp
 refine lwp_for [1, 2, 3, 4, 5] (fun (_ : Unit) i => [.pointer (some ⟨B, 0, none⟩), .pointer (some ⟨R, 0, none⟩), vm, vt, .int .i64 i])
  (fun _ i h5 => ∃ W m, W1.le W ∧ Owns W h5 (shOwn vm m R (gotD (0, 0, 0))) ∧ upE (fun i m => thShape f (nth ts i) m) i (List.replicate 8192 false) = .ok m ∧ m.length = 8192) ts.length ()
  rfl (by omega) rfl ⟨W1, _, View.le_refl _, w4, rfl, List.length_replicate ..⟩ (fun _ _ => rfl) (fun v k h5 hk ⟨W, m, q1, q2, _⟩ => by simp [(ht.mono (View.le_trans q1 q2.wle)).len]) ?_ ?_
 ·rintro _ i h5 hlti ⟨W5, m, hW5, w5, hm, hml⟩ K2 hK2
  have hst : upE (fun i m => thShape f (nth ts i) m) (i + 1) (List.replicate 8192 false) = thShape f (nth ts i) m := upE_succ hm
  have her : ∀ {t}, thShape f (nth ts i) m = .error t → refShapeS f = .error t := fun e => by rw [hrs]; exact upE_at hm hlti e
  have ht5 := ht.mono hW5
  obtain ⟨ut, hut, hutr⟩ := ht5.wh rfl (N := 4) rfl hlti
  have ok := hth _ (nth_mem hlti)
  have hml2 : ∀ {m'}, thShape f (nth ts i) m = .ok m' → m'.length = 8192 := fun e => (thShape_len e).trans hml
  generalize nth ts i = t at hst her hutr ok hml2
  refine lwp_hide fun y hy => ?_
  simp (disch := omega) [(ht5.mono w5.wle).idxn (N := 4) rfl, hut _ w5.wle]
  refine do_newX (X := W5) (z := .agg #[.int .i64 0, .int .i64 0, .slice none 0 0, .slice none 0 0]) (by kernel_rfl) rfl (by kernel_rfl) hutr (fun _ => by simp) (fun _ => by simp) fun h6 hle6 hs6 hat6 => ?_
  have w6 := w5.ext hle6
  obtain ⟨tb, tp, ⟨vk, tk⟩, _⟩ := at_thB (hat6 (grow W5 h5 h6) (le_grow w5.wle) (grow_new (Nat.le_refl _)))
  have hW6 := View.le_trans hW5 (le_grow (h' := h6) w5.wle)
  generalize grow W5 h5 h6 = W6 at w6 tb tp tk hW6
  generalize h5.size = D at tb tp tk
  rw [hy]; clear hy y
  refine lwp_hide fun y hy => ?_
  have hb := ok.blk
  have cb6 := cb.2.mono (View.le_trans hW1 hW6)
  have cc6 := cellH_mono (View.le_trans hW1 hW6) cb.1
  obtain ⟨ux, hux, huxr⟩ := cb6.wh rfl (N := 6) rfl (i := t.blk.toNat) (by omega)
  simp (disch := omega) [cellH_mono w6.wle cc6, (cb6.mono w6.wle).idxn (N := 6) rfl, cellH_mono w6.wle tb, hux _ w6.wle]
  refine do_newX (X := W6) (z := .agg #[.slice none 0 0, .slice none 0 0, .int .i64 0, .slice none 0 0, .slice none 0 0, .int .i32 0]) (by kernel_rfl) rfl (by kernel_rfl) huxr (fun _ => by simp) (fun _ => by simp) fun h7 hle7 hs7 hat7 => ?_
  have w7 := w6.ext hle7
  have hat7' := hat7 (grow W6 h6 h7) (le_grow w6.wle) (grow_new (Nat.le_refl _))
  obtain ⟨vp, vi, va, vto, bp, bi, bk, ba, bt⟩ := at_blkB hat7'
  have hterm := hat7'.part BlkD.p_term
  have hW67 := le_grow (h' := h7) w6.wle
  have hW7 := View.le_trans hW6 hW67
  have tb7 := cellH_mono hW67 tb
  have tp7 := cellH_mono hW67 tp
  have tk7 := cellH_mono hW67 tk.1
  have tkr := tk.2.mono hW67
  have sb := hsm.blk t.blk.toNat (by omega)
  have hxeq : blkOf f t = nth f.blocks t.blk.toNat := rfl
  generalize hx : nth f.blocks t.blk.toNat = x at bp bi bk ba bt hterm sb hxeq
  generalize grow W6 h6 h7 = W7 at w7 bp bi bk ba bt hterm hW7 tb7 tp7 tk7 tkr
  generalize h6.size = D7 at bp bi bk ba bt hterm
  clear hat7' hat7 hat6
  rw [hy]; clear hy y
  have si := sb.ins
  have bti := tkr.bound
  have hpl := ok.place
  have ret : ∀ {e : Int} {h8 : Heap} {W8 : View} {m8 : BL} {x y : Operand} {us : List (Nat × Value)} {ty : TypeId} {K9 : Value → Heap → Prop}, 0 ≤ e → e ≤ 100 → Owns W8 h8 (shOwn vm m8 R (gotD (0, 0, 0))) → W7.le W8 → thShape f t m = .error (e, t.blk, t.place) →
    asg us x = .pointer (some ⟨R, 0, none⟩) → asg us y = gotV (e, t.blk, t.place) → (∀ v h9, Un.ev (vw h9) (.loads 3) (.pointer (some ⟨R, 0, none⟩)) = some (gotV (errOf (refShapeS f))) → K (gotV (errOf (refShapeS f))) h9 → K9 v h9) → @Lft.step (@opAt noPP none) Try.prog (.store T.ref03_Got x y) ty us h8 K9 := by
   intro e h8 W8 m8 x y us ty K9 he0 he1 w8 hW8 hbad hx hy hK9
   refine w8.do_field (k := (1, 0)) (e := T.ref03_Got) (D := gotD (0, 0, 0)) (Part.all) (d := gotD (e, t.blk, t.place)) rfl (by kernel_rfl) hx hy (rd_got ⟨by show _ ≤ e; omega, by show e ≤ _; omega⟩ ⟨by show _ ≤ t.blk; omega, by show t.blk ≤ _; omega⟩ ⟨by show _ ≤ t.place; omega, by show t.place ≤ _; omega⟩) fun h9 w9 hs9 => ?_
   have hb := her hbad
   refine hK9 _ _ ?_ ?_
   ·rw [hb]; exact got_load w9 (Own.upd_self)
   ·exact hK _ _ ⟨rfl, View.le_trans hle1 (View.le_trans hW1 (View.le_trans hW7 (View.le_trans hW8 w9.wle)))⟩
  refine lwp_hide fun y hy => ?_
  refine lwp_cut (fun ρ h8 => ∃ W8 tl, (isIns f t && opBad (insOf f t)) = false ∧ Owns W8 h8 (shOwn vm m R (gotD (0, 0, 0))) ∧ W7.le W8 ∧ ρ = [(1, .pointer (some ⟨B, 0, none⟩)), (2, .pointer (some ⟨R, 0, none⟩)), (3, vm), (4, vt), (5, .int .i64 i), (6, .pointer (some ⟨D, 0, none⟩)), (7, .pointer (some ⟨D7, 0, none⟩))] ++ tl) ?_ ?_
  ·intro K3 hK3
   cases hii : isIns f t with
   | false =>
    have hcc : (decide (0 ≤ t.place) && decide (t.place < (x.ins.length : Int))) = false := by rw [← hxeq]; exact hii
    simp [cellH_mono w7.wle tp7, cellH_mono w7.wle bi.1, (bi.2.mono w7.wle).len, hcc]
    exact hK3 _ _ ⟨W7, _, by rw [hii]; rfl, w7, View.le_refl _, rfl⟩
   | true =>
    have hcc : (decide (0 ≤ t.place) && decide (t.place < (x.ins.length : Int))) = true := by rw [← hxeq]; exact hii
    have hcc' := hcc
    simp only [Bool.and_eq_true, decide_eq_true_eq] at hcc'
    obtain ⟨us, hus, husr⟩ := bi.2.wh rfl (N := 5) rfl (i := t.place.toNat) (by omega)
    have hins : insOf f t = nth x.ins t.place.toNat := by rw [insOf, hxeq]
    refine lwp_hide fun q hq => ?_
    simp [cellH_mono w7.wle tp7, cellH_mono w7.wle bi.1, (bi.2.mono w7.wle).len, hcc]
    rw [hq]; clear hq q
    refine lwp_cond_t (by simp) ?_
    refine lwp_hide fun q hq => ?_
    simp (disch := omega) [cellH_mono w7.wle tp7, cellH_mono w7.wle bi.1, (bi.2.mono w7.wle).idxn (N := 5) rfl, hus _ w7.wle]
    refine do_newX (X := W7) (z := .agg #[.int .i64 0, .int .i64 0, .int .i64 0, .slice none 0 0, .int .i32 0]) (by kernel_rfl) rfl (by kernel_rfl) husr (fun _ => by simp) (fun _ => by simp) fun h8 hle8 hs8 hat8 => ?_
    have w8 := w7.ext hle8
    obtain ⟨c0, _, _, vs, cs⟩ := at_insB (hat8 (grow W7 h7 h8) (le_grow w7.wle) (grow_new (Nat.le_refl _)))
    have hW8 := le_grow (h' := h8) w7.wle
    have tb8 := cellH_mono hW8 tb7
    have tp8 := cellH_mono hW8 tp7
    rw [← hins] at c0 cs
    have hop : opBad (insOf f t) = (decide ((insOf f t).op < 1) || decide (18 < (insOf f t).op) || !countsS (insOf f t).op (insOf f t).args.length) := rfl
    have hbd : (isIns f t && opBad (insOf f t)) = opBad (insOf f t) := by rw [hii]; rfl
    have hbad : opBad (insOf f t) = true → thShape f t m = .error (10, t.blk, t.place) := fun e => by rw [thShape, hbd, if_pos e]
    rw [hbd] at hK3
    generalize insOf f t = s at c0 cs hK3 hop hbad
    generalize h7.size = D8 at c0 cs
    rw [hq]; clear hq q
    refine lwp_hide fun q hq => ?_
    refine lwp_cut (fun ρ h9 => h9 = h8 ∧ (∃ tl, ρ = [(1, .pointer (some ⟨B, 0, none⟩)), (2, .pointer (some ⟨R, 0, none⟩)), (3, vm), (4, vt), (5, .int .i64 i), (6, .pointer (some ⟨D, 0, none⟩)), (7, .pointer (some ⟨D7, 0, none⟩)), (8, .pointer (some ⟨D8, 0, none⟩))] ++ tl) ∧ Lft.look ρ 65 = some (.bool (opBad s))) ?_ ?_
    ·intro K4 hK4
     rw [hop] at hK4
     by_cases d1 : s.op < 1
     ·simp [cellH_mono w8.wle c0, cellH_mono w8.wle cs.1, cs.2.len, d1]
      exact hK4 _ _ ⟨rfl, ⟨_, rfl⟩, by simp [d1]⟩
     ·by_cases d2 : 18 < s.op
      ·simp [cellH_mono w8.wle c0, cellH_mono w8.wle cs.1, cs.2.len, d1, d2]
       exact hK4 _ _ ⟨rfl, ⟨_, rfl⟩, by simp [d2]⟩
      ·simp [cellH_mono w8.wle c0, cellH_mono w8.wle cs.1, cs.2.len, d1, d2]
       refine call_to (by kernel_rfl) counts_ok ?_
       rintro _ _ ⟨rfl, rfl⟩
       simp
       exact hK4 _ _ ⟨rfl, ⟨_, rfl⟩, by simp [d1, d2]⟩
    ·rintro ρ _ ⟨rfl, ⟨tl, rfl⟩, hl⟩
     rw [hq]; clear hq q
     cases hob : opBad s with
     | true =>
      rw [hob] at hl
      refine lwp_cond_t (by rw [ev_tmp]; exact hl) ?_
      simp [cellH_mono w8.wle tb8, cellH_mono w8.wle tp8]
      refine do_got (t := (10, t.blk, t.place)) rfl rfl rfl ?_
      simp [look_setE, look_kill]
      refine ret (by omega) (by omega) w8 hW8 (hbad hob) rfl rfl fun _ h9 hl9 hK9 => ?_
      simp [hl9]
      exact hK9
     | false =>
      rw [hob] at hl
      refine lwp_cond_f (by rw [ev_tmp]; exact hl) ?_
      simp
      exact hK3 _ _ ⟨_, _, hob, w8, hW8, rfl⟩
  ·rintro ρ h8 ⟨W8, tl, hni, w8, hW8, rfl⟩
   rw [hy]; clear hy y
   have e1 : ∀ {α : Type} (a b : α), (if (isIns f t && opBad (insOf f t)) = true then a else b) = b := fun a b => by rw [if_neg (by rw [hni]; simp)]
   have tb8 := cellH_mono (View.le_trans hW8 w8.wle) tb7
   have tp8 := cellH_mono (View.le_trans hW8 w8.wle) tp7
   have ci8 := cellH_mono (View.le_trans hW8 w8.wle) bi.1
   have bi8 := bi.2.mono (View.le_trans hW8 w8.wle)
   have hlast : isLast f t = decide (t.place = (x.ins.length : Int)) := by rw [isLast, hxeq]
   refine lwp_hide fun y hy => ?_
   simp [tp8, ci8, bi8.len, ← hlast]
   rw [hy]; clear hy y
   refine lwp_hide fun y hy => ?_
   have htx : (blkOf f t).term = x.term := by rw [hxeq]
   have hterm8 := hterm.mono (View.le_trans hW8 w8.wle)
   obtain ⟨uT, huT, huTr⟩ := hterm8.loads rfl
   have huT : Un.ev (vw h8) (.loads 4) (.pointer (some ⟨D7, 2, none⟩)) = some uT := by
    have h2 : Un.ev (vw h8) (.loads 4) (.pointer (some ((⟨D7, 0, none⟩ : Addr).add 2))) = some uT := huT
    rwa [addr_add] at h2
   refine lwp_cut (fun ρ h9 => (∃ W9, Owns W9 h9 (shOwn vm m R (gotD (0, 0, 0))) ∧ W7.le W9) ∧ (isLast f t && !termS x.term) = false ∧ ∃ tl, ρ = [(1, .pointer (some ⟨B, 0, none⟩)), (2, .pointer (some ⟨R, 0, none⟩)), (3, vm), (4, vt), (5, .int .i64 i), (6, .pointer (some ⟨D, 0, none⟩)), (7, .pointer (some ⟨D7, 0, none⟩))] ++ tl ∧ Lft.look ρ 9 = some (.bool (isLast f t))) ?_ ?_
   ·intro K3 hK3
    refine lwp_hide fun q hq => ?_
    have htb : (isLast f t && !termS x.term) = true → thShape f t m = .error (10, t.blk, t.place) := fun e => by rw [thShape, e1, htx, if_pos e]
    refine lwp_cut (fun ρ h9 => (∃ W9, Owns W9 h9 (shOwn vm m R (gotD (0, 0, 0))) ∧ W7.le W9) ∧ (∃ tl, ρ = [(1, .pointer (some ⟨B, 0, none⟩)), (2, .pointer (some ⟨R, 0, none⟩)), (3, vm), (4, vt), (5, .int .i64 i), (6, .pointer (some ⟨D, 0, none⟩)), (7, .pointer (some ⟨D7, 0, none⟩))] ++ tl) ∧ Lft.look ρ 9 = some (.bool (isLast f t)) ∧ Lft.look ρ 83 = some (.bool (isLast f t && !termS x.term))) ?_ ?_
    ·intro K4 hK4
     cases hl : isLast f t with
     | false =>
      rw [hl] at hK4
      simp [look_setE, look_kill]
      exact hK4 _ _ ⟨⟨W8, w8, hW8⟩, ⟨_, rfl⟩, by simp [look_setE, look_kill], by simp [look_setE, look_kill]⟩
     | true =>
      rw [hl] at hK4
      simp [look_setE, look_kill, huT]
      refine call_to (by kernel_rfl) (term_ok huTr) ?_
      rintro _ h9 ⟨rfl, hle9⟩
      simp [look_setE, look_kill]
      exact hK4 _ _ ⟨⟨_, w8.ext hle9, View.le_trans hW8 (le_grow w8.wle)⟩, ⟨_, rfl⟩, by simp [look_setE, look_kill], by simp [look_setE, look_kill]⟩
    ·rintro ρ h9 ⟨⟨W9, w9, hW9⟩, ⟨tl, rfl⟩, hl9, hl83⟩
     rw [hq]; clear hq q
     have tb9 := cellH_mono (View.le_trans hW9 w9.wle) tb7
     have tp9 := cellH_mono (View.le_trans hW9 w9.wle) tp7
     cases hob : (isLast f t && !termS x.term) with
     | true =>
      rw [hob] at hl83
      refine lwp_cond_t (by rw [ev_tmp]; exact hl83) ?_
      simp [tb9, tp9]
      refine do_got (t := (10, t.blk, t.place)) rfl rfl rfl ?_
      simp [look_setE, look_kill]
      refine ret (by omega) (by omega) w9 hW9 (htb hob) rfl rfl fun _ h9 hl9 hK9 => ?_
      simp [hl9]
      exact hK9
     | false =>
      rw [hob] at hl83
      refine lwp_cond_f (by rw [ev_tmp]; exact hl83) ?_
      simp at hl9
      simp
      exact hK3 _ _ ⟨⟨W9, w9, hW9⟩, hob, _, rfl, by simpa [look_kill] using hl9⟩
   ·rintro ρ h9 ⟨⟨W9, w9, hW9⟩, hnt, tl, rfl, hl9⟩
    rw [hy]; clear hy y
    have e2 : ∀ {α : Type} (a b : α), (if (isLast f t && !termS (blkOf f t).term) = true then a else b) = b := fun a b => by rw [htx, if_neg (by rw [hnt]; simp)]
    have tb9 := cellH_mono (View.le_trans hW9 w9.wle) tb7
    have tp9 := cellH_mono (View.le_trans hW9 w9.wle) tp7
    have ck9 := cellH_mono (View.le_trans hW9 w9.wle) tk7
    have kr9 := tkr.mono (View.le_trans hW9 w9.wle)
    have cp9 : cellH (vw h9) ⟨B, 0, none⟩ = some (.int .i64 f.params) := cellH_mono (View.le_trans hW1 (View.le_trans hW7 (View.le_trans hW9 w9.wle))) cp
    refine lwp_hide fun y hy => ?_
    simp
    refine lwp_for [1, 2, 3, 4, 5, 6, 7, 9, 10] (fun (_ : Unit) k => [.pointer (some ⟨B, 0, none⟩), .pointer (some ⟨R, 0, none⟩), vm, vt, .int .i64 i, .pointer (some ⟨D, 0, none⟩), .pointer (some ⟨D7, 0, none⟩), .bool (isLast f t), .int .i64 k])
     (fun _ k h10 => h10 = h9 ∧ ∀ j, j < k → numBad f (nth t.mks j) = false) t.mks.length ()
     rfl (by omega) (by simp at hl9; simp [keepE, look_setE, look_kill, hl9]) ⟨rfl, fun j hj => by omega⟩ (fun _ _ => rfl) (fun v k h10 hk ⟨q1, _⟩ => by subst q1; simp [ck9, kr9.len]) ?_ ?_
    ·rintro _ k h9 hltk ⟨rfl, hpre⟩ K3 hK3
     have hnb : numBad f (nth t.mks k) = (decide (nth t.mks k < f.params) || decide (8191 < nth t.mks k)) := rfl
     have hbad : numBad f (nth t.mks k) = true → thShape f t m = .error (11, t.blk, t.place) := fun e => by
      rw [thShape, e1, e2, if_pos]
      rw [List.any_eq_true]
      exact ⟨_, nth_mem hltk, e⟩
     refine lwp_hide fun q hq => ?_
     simp (disch := omega) [ck9, kr9.idx1 rfl, kr9.int (View.le_refl _), cp9, ← hnb]
     rw [hq]; clear hq q
     cases hob : numBad f (nth t.mks k) with
     | true =>
      refine lwp_cond_t (by simp) ?_
      simp [tb9, tp9]
      refine do_got (t := (11, t.blk, t.place)) rfl rfl rfl ?_
      refine ret (by omega) (by omega) w9 hW9 (hbad hob) rfl rfl fun _ h9 hl9 hK9 => ?_
      simp [hl9]
      exact hK9
     | false =>
      refine lwp_cond_f (by simp) ?_
      simp
      refine hK3 () _ _ rfl rfl ⟨rfl, fun j hj => ?_⟩
      rcases Nat.lt_or_ge j k with h | h
      ·exact hpre j h
      ·have : j = k := by omega
       subst this; exact hob
    ·rintro _ h9 ⟨rfl, hpre⟩
     have e3 : ∀ {α : Type} (a b : α), (if t.mks.any (numBad f) = true then a else b) = b := fun a b => by
      rw [if_neg]
      intro e
      obtain ⟨n, hn, hb⟩ := List.any_eq_true.1 e
      obtain ⟨j, hj, rfl⟩ := List.getElem_of_mem hn
      rw [← nth_eq hj, hpre j hj] at hb; cases hb
     simp
     rw [hy]; clear hy y
     refine lwp_hide fun y hy => ?_
     simp
     have hshape : thShape f t m = afterMk f t (upE (mkdStep t) t.mks.length m) := by rw [thShape, e1, e2, e3]
     have hnr : ∀ j, j < t.mks.length → 0 ≤ nth t.mks j ∧ nth t.mks j < 8192 := fun j hj => by
      have := hpre j hj
      simp only [numBad, Bool.or_eq_false_iff, decide_eq_false_iff_not] at this
      omega
     refine lwp_for [1, 2, 3, 4, 5, 6, 7, 9, 11] (fun (_ : Unit) k => [.pointer (some ⟨B, 0, none⟩), .pointer (some ⟨R, 0, none⟩), vm, vt, .int .i64 i, .pointer (some ⟨D, 0, none⟩), .pointer (some ⟨D7, 0, none⟩), .bool (isLast f t), .int .i64 k])
      (fun _ k h10 => ∃ m', Owns W9 h10 (shOwn vm m' R (gotD (0, 0, 0))) ∧ upE (mkdStep t) k m = .ok m' ∧ m'.length = 8192) t.mks.length ()
      rfl (by omega) rfl ⟨m, w9, rfl, hml⟩ (fun _ _ => rfl) (fun v k h10 hk ⟨m', q1, _⟩ => by simp [cellH_mono (View.le_trans hW9 q1.wle) tk7, (tkr.mono (View.le_trans hW9 q1.wle)).len]) ?_ ?_
     ·rintro _ k h10 hltk ⟨m', w10, hm', hml'⟩ K3 hK3
      have hs10 := upE_succ hm'
      have her10 : ∀ {e}, mkdStep t k m' = .error e → thShape f t m = .error e := fun e => by rw [hshape, upE_at hm' hltk e]; rfl
      rw [mkdStep] at hs10 her10
      have hr := hnr k hltk
      have tb10 := cellH_mono (View.le_trans hW9 w10.wle) tb7
      have tp10 := cellH_mono (View.le_trans hW9 w10.wle) tp7
      have ck10 := cellH_mono (View.le_trans hW9 w10.wle) tk7
      have kr10 := tkr.mono (View.le_trans hW9 w10.wle)
      have nm := w10.now (k := (0, 0)) (v := vm) (l := m') rfl
      refine lwp_hide fun q hq => ?_
      refine lwp_hide fun p hp => ?_
      simp (disch := omega) [ck10, kr10.idx1 rfl, kr10.int (View.le_refl _), nm.idx1 rfl, nm.bool (View.le_refl _)]
      rw [hp]; clear hp p
      cases hob : nth m' (nth t.mks k).toNat with
      | true =>
       refine lwp_cond_t (by simp) ?_
       simp [tb10, tp10]
       refine do_got (t := (12, t.blk, t.place)) rfl rfl rfl ?_
       refine ret (by omega) (by omega) w10 hW9 (her10 (by rw [if_pos hob])) rfl rfl fun _ h9 hl9 hK9 => ?_
       simp [hl9]
       exact hK9
      | false =>
       refine lwp_cond_f (by simp) ?_
       simp
       rw [hq]; clear hq q
       simp (disch := omega) [ck10, kr10.idx1 rfl, kr10.int (View.le_refl _), nm.idx1 rfl]
       refine w10.do_put (k := (0, 0)) (α := Bool) (l := m') (v := vm) (i := (nth t.mks k).toNat) (d := true) rfl (by kernel_rfl) (by simp [show Rep.n Bool = 1 from rfl]) rfl (by omega) rd_b fun h11 w11 hs11 => ?_
       refine hK3 () _ _ rfl rfl ⟨_, w11.congr shOwn_put, by rw [hs10, if_neg (by rw [hob]; simp)], by rw [List.length_set]; exact hml'⟩
     ·rintro _ h10 ⟨m', w10, hm', hml'⟩
      rw [hm'] at hshape
      have hshape : thShape f t m = if isLast f t && (blkOf f t).term.to.any (toBad f) then .error (14, t.blk, t.place) else .ok m' := hshape
      simp
      rw [hy]; clear hy y
      have tb10 := cellH_mono (View.le_trans hW9 w10.wle) tb7
      have tp10 := cellH_mono (View.le_trans hW9 w10.wle) tp7
      have ct10 := cellH_mono (View.le_trans hW9 w10.wle) bt.1
      have tr10 := bt.2.mono (View.le_trans hW9 w10.wle)
      have hW110 := View.le_trans hW1 (View.le_trans hW7 hW9)
      have bto := sb.to
      have done : (isLast f t && (blkOf f t).term.to.any (toBad f)) = false → ∀ ρ : Env, Lft.look ρ 5 = some (.int .i64 i) → keepE [1, 2, 3, 4, 5] (setE ρ 5 (.int .i64 ((i : Int) + 1))) = [1, 2, 3, 4, 5].zip [.pointer (some ⟨B, 0, none⟩), .pointer (some ⟨R, 0, none⟩), vm, vt, .int .i64 ((i + 1 : Nat) : Int)] → K2 ρ h10 := fun e ρ l5 lk => by
       rw [e] at hshape
       have hshape : thShape f t m = .ok m' := hshape
       exact hK2 () _ _ l5 lk ⟨W9, m', View.le_trans hW7 hW9, w10, by rw [hst, hshape], hml'⟩
      refine lwp_hide fun y hy => ?_
      simp
      rw [hy]; clear hy y
      cases hl : isLast f t with
      | false =>
       refine lwp_loop [1, 2, 3, 4, 5, 9] (fun n ρ h11 => n = 0 ∧ h11 = h10 ∧ ρ = [(1, .pointer (some ⟨B, 0, none⟩)), (2, .pointer (some ⟨R, 0, none⟩)), (3, vm), (4, vt), (5, .int .i64 i), (9, .bool false)]) 0 ⟨rfl, rfl, by simp [keepE, hl]⟩ ?_
       rintro n ρ h11 ⟨rfl, rfl, rfl⟩ K3 hK3
       simp [L.ref03_shape.l4]
       exact done (by rw [hl]; rfl) _ rfl rfl
      | true =>
       have hbq : blkOf f t = x := hxeq
       rw [hbq, hl] at hshape done
       refine lwp_loop [1, 2, 3, 4, 5, 6, 7, 9, 12] (fun n ρ h11 => ∃ k : Nat, k ≤ x.term.to.length ∧ n = x.term.to.length - k ∧ h11 = h10 ∧ ρ = [(1, .pointer (some ⟨B, 0, none⟩)), (2, .pointer (some ⟨R, 0, none⟩)), (3, vm), (4, vt), (5, .int .i64 i), (6, .pointer (some ⟨D, 0, none⟩)), (7, .pointer (some ⟨D7, 0, none⟩)), (9, .bool true), (12, .int .i64 k)] ∧ ∀ j, j < k → toBad f (nth x.term.to j) = false)
        x.term.to.length ⟨0, by omega, by omega, rfl, by simp [keepE, hl], fun j hj => by omega⟩ ?_
       rintro n ρ _ ⟨k, hk, rfl, rfl, rfl, hpre⟩ K3 hK3
       have cc10 := cellH_mono (View.le_trans hW110 w10.wle) cb.1
       have cb10 := cb.2.mono (View.le_trans hW110 w10.wle)
       by_cases hlt : k < x.term.to.length
       ·refine lwp_hide fun y hy => ?_
        simp [ct10, tr10.len, hlt]
        rw [hy]; clear hy y
        refine lwp_hide fun y hy => ?_
        have htb : toBad f (nth x.term.to k) = (decide (nth x.term.to k < 1) || decide ((f.blocks.length : Int) ≤ nth x.term.to k)) := rfl
        refine lwp_hide fun q hq => ?_
        simp (disch := omega) [ct10, tr10.idx1 rfl, tr10.int (View.le_refl _), cc10, cb10.len, ← htb]
        rw [hq]; clear hq q
        cases hob : toBad f (nth x.term.to k) with
        | true =>
         refine lwp_cond_t (by simp) ?_
         simp [tb10, tp10]
         refine do_got (t := (14, t.blk, t.place)) rfl rfl rfl ?_
         refine ret (by omega) (by omega) w10 hW9 (by rw [hshape, if_pos]; simp only [Bool.true_and]; rw [List.any_eq_true]; exact ⟨_, nth_mem hlt, hob⟩) rfl rfl fun _ h9 hl9 hK9 => ?_
         simp [hl9]
         exact hK9
        | false =>
         refine lwp_cond_f (by simp) ?_
         simp
         rw [hy]; clear hy y
         simp (disch := omega)
         refine hK3 (x.term.to.length - (k + 1)) _ _ (by omega) ⟨k + 1, by omega, rfl, rfl, by simp [keepE], fun j hj => ?_⟩
         rcases Nat.lt_or_ge j k with h | h
         ·exact hpre j h
         ·have : j = k := by omega
          subst this; exact hob
       ·have hlt' : ¬ (k : Int) < x.term.to.length := by omega
        simp [L.ref03_shape.l4, ct10, tr10.len, hlt]
        refine done (by
         simp only [Bool.true_and]
         rw [Bool.eq_false_iff]
         intro e
         obtain ⟨n, hn, hb⟩ := List.any_eq_true.1 e
         obtain ⟨j, hj, rfl⟩ := List.getElem_of_mem hn
         rw [← nth_eq hj, hpre j (by omega)] at hb; cases hb) _ rfl rfl
 ·rintro _ h5 ⟨W5, m, hW5, w5, hm, hml⟩
  simp
  rw [hz]; clear hz z
  simp
  refine do_got0 ?_
  refine w5.do_field (k := (1, 0)) (e := T.ref03_Got) (D := gotD (0, 0, 0)) (Part.all) (d := gotD (0, 0, 0)) rfl (by kernel_rfl) rfl rfl (rd_got (by constructor <;> decide) (by constructor <;> decide) (by constructor <;> decide)) fun h6 w6 hs6 => ?_
  simp [got_load w6 (Own.upd_self)]
  exact hK _ _ ⟨by rw [hrs, hm]; rfl, View.le_trans hle1 (View.le_trans hW1 (View.le_trans hW5 w6.wle))⟩
end Go.Proofs.Ytfelpjfopgiabaa
namespace Go.Proofs.Ytfelpjfopgiabaa
open Go Go.Lft
def noTh : Th := ⟨-1, 0, [], []⟩
def zeroTh : Th := ⟨0, 0, [], []⟩
def siteStep (t : Th) (l : List Th) (n : Int) : List Th := if 0 ≤ n ∧ n < 8192 then l.set n.toNat t else l
def siteTh (l : List Th) (t : Th) : List Th := t.mks.foldl (siteStep t) l
def sitesS (ts : List Th) : List Th := ts.foldl siteTh (List.replicate 8192 noTh)
theorem siteStep_len {t : Th} {l : List Th} {n : Int} : (siteStep t l n).length = l.length := by unfold siteStep; split <;> simp
theorem siteTh_len {t : Th} {l : List Th} : (siteTh l t).length = l.length := foldl_inv (f := siteStep t) (fun x : List Th => x.length = l.length) (fun _ _ h => siteStep_len.trans h) _ _ rfl
theorem sitesS_len {ts : List Th} : (sitesS ts).length = 8192 := foldl_inv (f := siteTh) (fun x : List Th => x.length = 8192) (fun _ _ h => siteTh_len.trans h) _ _ (List.length_replicate ..)
def siOwn (vo : Value) (l : List Th) : Own := fun k => if k = (0, 0) then it T.ref03_Thing vo l else none
theorem siOwn_put {vo : Value} {l l' : List Th} (q : Key) : siOwn vo l' q = (siOwn vo l).upd (0, 0) (it T.ref03_Thing vo l') q := by
 unfold siOwn Own.upd
 repeat' split
 all_goals first | rfl | simp_all
theorem Owns.do_putM {po : OP} {P : Program} {W : View} {h : Heap} {o : Own} {k : Key} {ty : TypeId} {us : List (Nat × Value)} {α : Type} [r : Rep α] {e : TypeId} {v : Value} {l : List α} {t : TypeId} {x y : Operand} {i : Nat} {u : Value} {d : α} {K : Value → Heap → Prop} (w : Owns W h o) (hk : o k = it e v l) (hsz : sizeB P t = some (Rep.n α)) (hx : asg us x = .pointer (some ((slA v).add (i * Rep.n α)))) (hy : asg us y = u) (hi : i < l.length) (hr : Rd W u d)
  (hK : ∀ h', Owns W h' (o.upd k (it e v (l.set i d))) → (∀ X : View, X.le (vw h) → Av X v → X.le (vw h')) → K undef h') : Lft.step P (.store t x y) ty us h K :=
 do_set (po := po) hsz hx hy (w.get hk) hi hr fun h' o2 m => hK h' (w.moved hk o2 m) fun X hX hA => (m.view hX hA).1
theorem Owns.do_partM {po : OP} {P : Program} {W : View} {h : Heap} {o : Own} {k : Key} {ty : TypeId} {us : List (Nat × Value)} {α β : Type} [r : Rep α] [Rep β] {e : TypeId} {v : Value} {l : List α} {off : Nat} {g : α → β} {s : α → β → α} (p : Part α β off g s) {t : TypeId} {x y : Operand} {i : Nat} {u : Value} {d : β} {K : Value → Heap → Prop} (w : Owns W h o) (hk : o k = it e v l) (hsz : sizeB P t = some (Rep.n β)) (hx : asg us x = .pointer (some (((slA v).add (i * Rep.n α)).add off))) (hy : asg us y = u) (hi : i < l.length) (hr : Rd W u d)
  (hK : ∀ h', Owns W h' (o.upd k (it e v (l.set i (s l[i] d)))) → (∀ X : View, X.le (vw h) → Av X v → X.le (vw h')) → K undef h') : Lft.step P (.store t x y) ty us h K :=
 do_setP (po := po) p hsz hx hy (w.get hk) hi hr fun h' hs o2 m => hK h' (w.moved hk o2 m) fun X hX hA => (m.view hX hA).1
structure SiS (V : View) (h0 : Heap) (vo : Value) (l : List Th) (h : Heap) : Prop where
 own : Owns V h (siOwn vo l)
 le : (vw h0).le (vw h)
theorem refSites_ok {ts : List Th} {vt : Value} {V : View} {h : Heap} (ht : SlRd V vt ts) (hV : V.le (vw h)) :
  HCalls Try.prog N.ref03_sites #[vt] h (fun u h' => (vw h).le (vw h') ∧ SlRd (grow V h h') u (sitesS ts)) := by
 refine calls_lift (args := [vt]) follows F.ref03_sites E.ref03_sites (Nat.le_of_ble_eq_true (by kernel_rfl)) fun K hK => ?_
 have htb := ht.bound
 dsimp only [L.ref03_sites]
 refine lwp_hide fun z hz => ?_
 simp
 rw [hz]; clear hz z
 refine lwp_hide fun z hz => ?_
 have hsi : sitesS ts = ts.foldl siteTh (List.replicate 8192 noTh) := rfl
 obtain ⟨N, hN⟩ : ∃ N : Nat, N = 8192 := ⟨_, rfl⟩
 rw [← hN] at hsi
 have hNi : (8192 : Int) = N := by rw [hN]; rfl
 simp
 refine do_make (α := Th) (W := V) (k := .i64) (n := N) (d := zeroTh) El.s_ref03_Thing (by rw [hN]; rfl) (by rw [hN]; rfl) ⟨[.int .i64 0], [.int .i64 0, .slice none 0 0, .slice none 0 0], rfl, ⟨rfl, by decide, by decide⟩, [.int .i64 0], [.slice none 0 0, .slice none 0 0], rfl, ⟨rfl, by decide, by decide⟩, [.slice none 0 0], [.slice none 0 0], rfl, ⟨_, rfl, nil_sl⟩, ⟨_, rfl, nil_sl⟩⟩ (by omega) (by omega) fun vo h1 o1 m1 hle1 hb1 => ?_
 have av : Av (vw h) vo := fun b hb => by rw [hb1] at hb; cases hb; exact View.none_of_ge (View.le_refl _) (Nat.le_refl _)
 have w1 : Owns V h1 (siOwn vo (List.replicate N zeroTh)) := ((Owns.start hV).add (k := (0, 0)) rfl o1 hle1 (fun b hb => by rw [hb1] at hb; cases hb; exact Nat.le_refl _)).congr fun q => by
  unfold siOwn Own.upd
  repeat' split
  all_goals first | rfl | simp_all
 rw [hz]; clear hz z
 refine lwp_hide fun z hz => ?_
 simp
 refine lwp_for [0, 3, 4] (fun (_ : Unit) k => [vt, vo, .int .i64 k]) (fun _ k h2 => SiS V h vo (rows (fun _ => noTh) k ++ List.replicate (N - k) zeroTh) h2) N ()
  rfl (by omega) rfl (by simpa using ⟨w1, hle1⟩) (fun _ _ => rfl) (fun v k h2 hk m => by simp [hNi]) ?_ ?_
 ·rintro _ k h2 hlt ⟨w2, le2⟩ K2 hK2
  have hlen : (rows (fun _ => noTh) k ++ List.replicate (N - k) zeroTh).length = N := by simp; omega
  have n2 := w2.now (k := (0, 0)) (v := vo) (l := rows (fun _ => noTh) k ++ List.replicate (N - k) zeroTh) rfl
  have ik := n2.idxn (N := 4) rfl (k := .i64) (i := k) (by omega) (by omega)
  simp [ik]
  refine Owns.do_partM (o := siOwn vo (rows (fun _ => noTh) k ++ List.replicate (N - k) zeroTh)) (W := V) (k := (0, 0)) (α := Th) (v := vo) (l := rows (fun _ => noTh) k ++ List.replicate (N - k) zeroTh) (i := k) Th.p_blk (d := (-1 : Int)) w2 rfl (by kernel_rfl) rfl rfl (by omega) (rd_i (by omega) (by omega)) fun h3 w3 hs3 => ?_
  refine hK2 () _ _ rfl rfl ⟨w3.congr fun q => ?_, hs3 _ le2 av⟩
  have e : (rows (fun _ => noTh) k ++ List.replicate (N - k) zeroTh)[k]'(by omega) = zeroTh := by
   rw [List.getElem_append_right (by simp)]; simp
  rw [← rows_set hlt, e]
  exact siOwn_put q
 ·rintro _ h2 ⟨w2, le2⟩
  rw [Nat.sub_self, List.replicate_zero, List.append_nil] at w2
  have hrow : rows (fun _ => noTh) N = List.replicate N noTh := by
   refine List.ext_getElem (by simp) fun i h1 h2 => ?_
   simp [rows]
  rw [hrow] at w2
  simp
  rw [hz]; clear hz z
  refine lwp_hide fun z hz => ?_
  simp
  refine lwp_for [0, 3, 5] (fun (_ : Unit) i => [vt, vo, .int .i64 i]) (fun _ i h3 => SiS V h vo ((ts.take i).foldl siteTh (List.replicate N noTh)) h3) ts.length ()
   rfl (by omega) rfl (by simpa using ⟨w2, le2⟩) (fun _ _ => rfl) (fun v k h3 hk m => by simp [(ht.mono m.own.wle).len]) ?_ ?_
  ·rintro _ i h3 hlti ⟨w3, le3⟩ K2 hK2
   have hst : (ts.take (i + 1)).foldl siteTh (List.replicate N noTh) = siteTh ((ts.take i).foldl siteTh (List.replicate N noTh)) (nth ts i) := by
    rw [List.take_succ_eq_append_getElem hlti, List.foldl_append, nth_eq hlti]; rfl
   have hlen : ((ts.take i).foldl siteTh (List.replicate N noTh)).length = N := foldl_inv (f := siteTh) (fun x : List Th => x.length = N) (fun _ _ h => siteTh_len.trans h) _ _ (List.length_replicate ..)
   generalize (ts.take i).foldl siteTh (List.replicate N noTh) = l at w3 hst hlen
   have ht0 := ht
   obtain ⟨ut, hut, hutr⟩ := ht0.wh rfl (N := 4) rfl hlti
   have hat := ht0.at hlti
   rw [← nth_eq hlti] at hat
   obtain ⟨vk, hvk⟩ := (hat.part Th.p_mks).sl
   have hvk1 : cellH V (((slA vt).add (i * 4)).add 2) = some vk := hvk.1
   have hvk2 := hvk.2
   generalize nth ts i = t at hst hutr hvk2
   have hkb := hvk2.bound
   refine lwp_hide fun y hy => ?_
   simp
   rw [hy]; clear hy y
   refine lwp_for [0, 3, 5, 6] (fun (_ : Unit) j => [vt, vo, .int .i64 i, .int .i64 j]) (fun _ j h4 => SiS V h vo ((t.mks.take j).foldl (siteStep t) l) h4) t.mks.length ()
    rfl (by omega) rfl (by simpa using ⟨w3, le3⟩) (fun _ _ => rfl) (fun v k h4 hk m => by
     have ht4 := ht0.mono m.own.wle
     simp (disch := omega) [ht4.idxn (N := 4) rfl, cellH_mono m.own.wle hvk1, (hvk2.mono m.own.wle).len]) ?_ ?_
   ·rintro _ j h4 hltj ⟨w4, le4⟩ K3 hK3
    have hst4 : (t.mks.take (j + 1)).foldl (siteStep t) l = siteStep t ((t.mks.take j).foldl (siteStep t) l) (nth t.mks j) := by
     rw [List.take_succ_eq_append_getElem hltj, List.foldl_append, nth_eq hltj]; rfl
    have hlen4 : ((t.mks.take j).foldl (siteStep t) l).length = N := foldl_inv (f := siteStep t) (fun x : List Th => x.length = N) (fun _ _ h => siteStep_len.trans h) _ _ hlen
    generalize (t.mks.take j).foldl (siteStep t) l = l4 at w4 hst4 hlen4
    have ht4 := ht0.mono w4.wle
    have hk4 := hvk2.mono w4.wle
    refine lwp_hide fun y hy => ?_
    simp (disch := omega) [ht4.idxn (N := 4) rfl, cellH_mono w4.wle hvk1, hk4.idx1 rfl, hk4.int (View.le_refl _)]
    rw [hy]; clear hy y
    refine lwp_hide fun y hy => ?_
    rw [siteStep] at hst4
    by_cases hc : 0 ≤ nth t.mks j ∧ nth t.mks j < 8192
    ·rw [if_pos hc] at hst4
     simp [hc]
     rw [hy]; clear hy y
     refine lwp_cond_t (by simp) ?_
     have n4 := w4.now (k := (0, 0)) (v := vo) (l := l4) rfl
     simp (disch := omega) [ht4.idxn (N := 4) rfl, n4.idxn (N := 4) rfl, hut _ w4.wle]
     refine Owns.do_putM (W := V) (o := siOwn vo l4) (k := (0, 0)) (α := Th) (l := l4) (v := vo) (i := (nth t.mks j).toNat) (d := t) w4 rfl (by kernel_rfl) rfl rfl (by omega) hutr fun h5 w5 hs5 => ?_
     exact hK3 () _ _ rfl rfl (by rw [hst4]; exact ⟨w5.congr siOwn_put, hs5 _ le4 av⟩)
    ·rw [if_neg hc] at hst4
     have hcb : (decide (0 ≤ nth t.mks j) && decide (nth t.mks j < 8192)) = false := by
      rw [Bool.eq_false_iff]; intro e; exact hc (by simpa using e)
     simp [hcb]
     rw [hy]; clear hy y
     refine lwp_cond_f (by simp) ?_
     simp
     exact hK3 () _ _ rfl rfl (by rw [hst4]; exact ⟨w4, le4⟩)
   ·rintro _ h4 ⟨w4, le4⟩
    rw [List.take_length] at w4
    simp
    exact hK2 () _ _ rfl rfl (by rw [hst]; exact ⟨w4, le4⟩)
  ·rintro _ h3 ⟨w3, le3⟩
   rw [List.take_length] at w3
   simp
   rw [hz]; clear hz z
   simp
   refine hK _ _ ⟨le3, ?_⟩
   rw [hsi]
   exact (w3.get (k := (0, 0)) (v := vo) (l := ts.foldl siteTh (List.replicate N noTh)) rfl).rd (le_grow hV) fun b hb => by
    rw [hb1] at hb; cases hb
    exact grow_new (Nat.le_refl _)
end Go.Proofs.Ytfelpjfopgiabaa
namespace Go.Proofs.Ytfelpjfopgiabaa
open Go Go.Lft
def standsS (f : FuncD) (made : List Th) (away : List BL) (v blk place : Int) : Bool :=
 if 0 ≤ v ∧ v < f.params then true
 else if (v < 0 ∨ 8191 < v) ∨ (nth made v.toNat).blk < 0 then false
 else if (nth made v.toNat).blk = blk then decide ((nth made v.toNat).place < 0) || decide ((nth made v.toNat).place < place)
 else !nth (nth away (nth made v.toNat).blk.toNat) blk.toNat
theorem refStands_ok {f : FuncD} {made : List Th} {away : List BL} {x blk place : Int} {v vm va : Value} {V : View} {h : Heap} (hv : Rd V v f) (hm : SlRd V vm made) (ha : SlRd V va away) (hV : V.le (vw h))
  (hml : made.length = 8192) (hq1 : ∀ i, i < 8192 → (nth made i).blk < away.length) (hq2 : ∀ i, i < away.length → blk < (nth away i).length) (hq3 : 0 ≤ blk) :
  HCalls Try.prog N.ref03_stands #[v, vm, va, .int .i64 x, .int .i64 blk, .int .i64 place] h (fun u h' => u = .bool (standsS f made away x blk place) ∧ (vw h).le (vw h')) := by
 refine calls_lift (args := [v, vm, va, .int .i64 x, .int .i64 blk, .int .i64 place]) follows F.ref03_stands E.ref03_stands (Nat.le_of_ble_eq_true (by kernel_rfl)) fun K hK => ?_
 dsimp only [L.ref03_stands]
 refine lwp_hide fun z hz => ?_
 simp
 refine do_box (v := v) rfl ?_
 have hle1 := push_le h (.cells v.cells T.api_Func)
 have hat1 : At (grow V h (h.push (.cells v.cells T.api_Func))) ⟨h.size, 0, none⟩ f := at_new (t := T.api_Func) (fz := (0, 0)) (by rw [grow_new (Nat.le_refl _)]; simp) (hv.mono (le_grow hV))
 generalize h.push (.cells v.cells T.api_Func) = h1 at hle1 hat1
 have hW1 : (grow V h h1).le (vw h1) := grow_le (View.le_trans hV hle1)
 have hVW : V.le (grow V h h1) := le_grow hV
 obtain ⟨cp, vb, cb⟩ := at_funcB hat1
 generalize grow V h h1 = W1 at cp cb hW1 hVW
 have hm := hm.mono hVW
 have ha := ha.mono hVW
 generalize h.size = B at cp cb
 rw [hz]; clear hz z
 refine lwp_hide fun z hz => ?_
 have hst : standsS f made away x blk place = standsS f made away x blk place := rfl
 conv at hst => lhs; unfold standsS
 by_cases c1 : 0 ≤ x ∧ x < f.params
 ·rw [if_pos c1] at hst
  simp [cellH_mono hW1 cp, c1]
  exact hK _ _ ⟨by rw [← hst], hle1⟩
 ·rw [if_neg c1] at hst
  have hc1 : (decide (0 ≤ x) && decide (x < f.params)) = false := by rw [Bool.eq_false_iff]; intro e; exact c1 (by simpa using e)
  simp [cellH_mono hW1 cp, hc1]
  rw [hz]; clear hz z
  refine lwp_hide fun z hz => ?_
  by_cases c2 : x < 0 ∨ 8191 < x
  ·rw [if_pos (.inl c2)] at hst
   have hc2 : (decide (x < 0) || decide (8191 < x)) = true := by simpa using c2
   simp [hc2]
   exact hK _ _ ⟨by rw [← hst], hle1⟩
  ·have hc2 : (decide (x < 0) || decide (8191 < x)) = false := by rw [Bool.eq_false_iff]; intro e; exact c2 (by simpa using e)
   have hx : x.toNat < made.length := by omega
   have hat := hm.at hx
   rw [← nth_eq hx] at hat
   obtain ⟨ut, hut, hutr⟩ := hm.wh rfl (N := 4) rfl hx
   have hb1 := hq1 x.toNat (by omega)
   have hblk : cellH W1 (((slA vm).add (x.toNat * 4)).add 0) = some (.int .i64 (nth made x.toNat).blk) := (hat.part Th.p_blk).int
   simp (disch := omega) [hc2, (hm.mono hW1).idxn (N := 4) rfl, cellH_mono hW1 hblk]
   generalize nth made x.toNat = t at hst hblk hutr hb1 hat
   refine ⟨fun c3 => ?_, fun c3' => ?_⟩
   ·rw [if_pos (.inr c3)] at hst
    exact hK _ _ ⟨by rw [← hst], hle1⟩
   ·have c3 : ¬ t.blk < 0 := by omega
    rw [if_neg (by rintro (q | q) <;> contradiction)] at hst
    rw [hz]; clear hz z
    refine lwp_hide fun z hz => ?_
    simp (disch := omega) [(hm.mono hW1).idxn (N := 4) rfl, hut _ hW1]
    refine do_newX (X := W1) (z := .agg #[.int .i64 0, .int .i64 0, .slice none 0 0, .slice none 0 0]) (by kernel_rfl) rfl (by kernel_rfl) hutr (fun _ => by simp) (fun _ => by simp) fun h2 hle2 hs2 hat2 => ?_
    obtain ⟨tb, tp, _, _⟩ := at_thB (hat2 (grow W1 h1 h2) (le_grow hW1) (grow_new (Nat.le_refl _)))
    have hW2 : (grow W1 h1 h2).le (vw h2) := grow_le (View.le_trans hW1 hle2)
    have hW12 : W1.le (grow W1 h1 h2) := le_grow hW1
    generalize grow W1 h1 h2 = W2 at tb tp hW2 hW12
    generalize h1.size = D at tb tp
    have hle12 := View.le_trans hle1 hle2
    rw [hz]; clear hz z
    refine lwp_hide fun z hz => ?_
    by_cases c4 : t.blk = blk
    ·rw [if_pos c4] at hst
     simp [cellH_mono hW2 tb, cellH_mono hW2 tp, c4]
     exact hK _ _ ⟨by rw [← hst], hle12⟩
    ·rw [if_neg c4] at hst
     simp [cellH_mono hW2 tb, c4]
     rw [hz]; clear hz z
     refine lwp_hide fun z hz => ?_
     have ha2 := (ha.mono hW12).mono hW2
     obtain ⟨rv, hrv⟩ := ha2.rows
     obtain ⟨e1, e2⟩ := hrv t.blk.toNat (by omega)
     have hb2 := hq2 t.blk.toNat (by omega)
     have e3 := (e2.at (i := blk.toNat) (by omega)).bool
     rw [← nth_eq, show blk.toNat * Rep.n Bool = blk.toNat from Nat.mul_one _] at e3
     simp (disch := omega) [cellH_mono hW2 tb, ha2.idxn (N := 1) rfl, e1 _ (View.le_refl _), e2.idxn (N := 1) rfl, e3]
     rw [hz]; clear hz z
     simp
     exact hK _ _ ⟨by rw [← hst], hle12⟩
end Go.Proofs.Ytfelpjfopgiabaa
