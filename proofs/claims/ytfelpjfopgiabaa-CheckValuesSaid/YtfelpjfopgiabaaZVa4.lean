/- A part of the proof: He, Hf, Hg, Hi, Hj, Hk, Ra, Ma, Sa, Sb, Rb, Rc, Rd, Sc, Sd, Se, Sg, Mb, Mc. -/
import Derived.Test.YtfelpjfopgiabaaZVa3
set_option linter.unusedSimpArgs false
set_option linter.unusedVariables false
namespace Go.Proofs.Ytfelpjfopgiabaa
open Go Go.Lft
def fitsBase (x : PhiD) (row : List Int) (b : Nat) : Bool := decide (0 < b) && decide ((x.ins.length : Int) = (row.length : Int))
def fitsP (x : PhiD) (row : List Int) (j : Nat) : Bool := decide ((nth x.ins j).frm = nth row j)
def fitsS (x : PhiD) (row : List Int) (b : Nat) : Bool := fitsBase x row b && allUp (fitsP x row) x.ins.length
def uAll (g : Nat → Except Tr Unit) (n : Nat) : Except Tr Unit := upE (fun i _ => g i) n ()
def phiU (f : FuncD) (m : MW) (idom : List Int) (preds : Gr) (b i : Nat) : Except Tr Unit :=
 let x := nth (nth f.blocks b).phis i
 if fitsS x (nth preds b) b then uAll (fun j => useS f.params m idom (nth x.ins j).val (nth x.ins j).frm (-1 - i) (nth f.blocks (nth x.ins j).frm.toNat).ins.length b) x.ins.length else .error (16, b, -1 - i)
def insU (f : FuncD) (m : MW) (idom : List Int) (b i : Nat) : Except Tr Unit :=
 uAll (fun j => useS f.params m idom (nth (nth (nth f.blocks b).ins i).args j) b i i b) (nth (nth f.blocks b).ins i).args.length
def endU (f : FuncD) (m : MW) (idom : List Int) (b : Nat) : Except Tr Unit :=
 uAll (fun j => useS f.params m idom (nth (nth f.blocks b).term.args j) b (nth f.blocks b).ins.length (nth f.blocks b).ins.length b) (nth f.blocks b).term.args.length
def andE (x y : Except Tr Unit) : Except Tr Unit := match x with | .ok _ => y | .error t => .error t
def blkU (f : FuncD) (m : MW) (idom : List Int) (preds : Gr) (b : Nat) : Except Tr Unit :=
 andE (uAll (phiU f m idom preds b) (nth f.blocks b).phis.length) (andE (uAll (insU f m idom b) (nth f.blocks b).ins.length) (endU f m idom b))
def reachE (f : FuncD) (b : Nat) : Except Tr Unit := if decide ((b : Int) ∈ gOrderS (ofG f.blocks)) then .ok () else .error (15, b, 0)
def usesS (f : FuncD) (m : MW) (idom : List Int) : Except Tr Unit :=
 andE (uAll (reachE f) f.blocks.length) (uAll (blkU f m idom (predsG (ofG f.blocks))) f.blocks.length)
theorem uAll_at {g : Nat → Except Tr Unit} {n k : Nat} {t : Tr} (h : uAll g k = .ok ()) (hk : k < n) (he : g k = .error t) : uAll g n = .error t := upE_at h hk he
theorem uAll_succ {g : Nat → Except Tr Unit} {k : Nat} (h : uAll g k = .ok ()) : uAll g (k + 1) = g k := upE_succ h
theorem loads2 {H : View} {B : Nat} {u v : Value} (h0 : cellH H ⟨B, 0, none⟩ = some u) (h1 : cellH H ⟨B, 1, none⟩ = some v) : Un.ev H (.loads 2) (.pointer (some ⟨B, 0, none⟩)) = some (.agg #[u, v]) := by
 simp [Un.ev, vP, cellsFromH, h0, h1]
theorem ofG_sm {l : List BlkD} (hl : l.length ≤ 1000000) (hs : ∀ i, i < l.length → (nth l i).term.to.length ≤ 1000000) : Sm (ofG l) := by
 have hlen : (ofG l).length = l.length := by simp [ofG]
 refine ⟨by omega, fun i hi => ?_⟩
 rw [hlen] at hi
 rw [ofG, nth_rows hi]
 exact Nat.le_trans keptS_len (hs i hi)
theorem uses_ok {Kb r : Nat} {vb : Value} {f : FuncD} {m : MW} {idom : List Int} {fuel : Nat} {h : Heap} (k : Lk h Kb r vb f m) (hn : f.blocks.length ≤ 1000000) (hto : ∀ i, i < f.blocks.length → (nth f.blocks i).term.to.length ≤ 1000000) (hd : idomG (ofG f.blocks) fuel = some idom) :
  HCallsP Try.prog N.check_looker_uses #[.pointer (some ⟨Kb, 0, none⟩)] h (fun _ h' => usesS f m idom = .ok () ∧ (vw h).le (vw h')) (fun ch h' => ∃ t, usesS f m idom = .error t ∧ ch = trV t ∧ (vw h).le (vw h')) := by
 refine calls_liftP (args := [.pointer (some ⟨Kb, 0, none⟩)]) follows F.check_looker_uses E.check_looker_uses (Nat.le_of_ble_eq_true (by kernel_rfl)) fun K Kp hK hKp => ?_
 have hbb := k.rb.bound
 have hsm := ofG_sm hn hto
 have hgl : (ofG f.blocks).length = f.blocks.length := by simp [ofG]
 dsimp only [L.check_looker_uses]
 refine lwp_hide fun z hz => ?_
 simp
 refine do_box (v := .pointer (some ⟨Kb, 0, none⟩)) (by simp) ?_
 have hle1 := push_le h (.cells (Value.cells (.pointer (some ⟨Kb, 0, none⟩))) T.p_check_looker)
 have h51 : cellH (vw (h.push (.cells (Value.cells (.pointer (some ⟨Kb, 0, none⟩))) T.p_check_looker))) ⟨h.size, 0, none⟩ = some (.pointer (some ⟨Kb, 0, none⟩)) := by simp [cellH, vw]
 generalize h.push (.cells (Value.cells (.pointer (some ⟨Kb, 0, none⟩))) T.p_check_looker) = h1 at hle1 h51
 generalize h.size = B at h51
 have k1 := k.ext hle1
 rw [hz]; clear hz z
 refine lwp_hide fun z hz => ?_
 simp [h51, loads2 (cellH_mono skip_le k1.c0) (cellH_mono skip_le k1.c1)]
 refine call_to (by kernel_rfl) (graphOf_ok (k1.rb.mono skip_le) hn hto) ?_
 rintro vg h2 ⟨hle2, hg⟩
 have hg2 := hg.mono (fresh_le _ _)
 rw [hz]; clear hz z
 refine lwp_hide fun z hz => ?_
 simp
 refine call_to (by kernel_rfl) (order_ok hg2 hsm) ?_
 rintro vo h3 ⟨hle3, ho⟩
 have ho3 := ho.mono (fresh_le _ _)
 have hg3 := hg2.mono hle3
 have hle13 := View.le_trans hle2 hle3
 have k3 := k1.ext hle13
 have h53 := cellH_mono hle13 h51
 have hle03 := View.le_trans hle1 hle13
 rw [hz]; clear hz z
 refine lwp_hide fun z hz => ?_
 simp [h53, cellH_mono skip_le k3.c1, k3.rb.len]
 refine lwp_range [0, 1, 2, 3, 35, 36] (fun (_ : Unit) b => [.pointer (some ⟨Kb, 0, none⟩), .pointer (some ⟨B, 0, none⟩), vg, vo, .int .i64 f.blocks.length, .int .i64 b]) (fun _ b h4 => h4 = h3 ∧ uAll (reachE f) b = .ok ()) f.blocks.length ()
  rfl (by omega) rfl ⟨rfl, rfl⟩ (fun _ _ => rfl) (fun v i h1 hk m => by simp) ?_ ?_
 ·rintro _ b h3 hlt ⟨rfl, hpre⟩ K2 hK2
  simp
  refine call_to (by kernel_rfl) (contains_ok ho3) ?_
  rintro _ _ ⟨rfl, rfl⟩
  simp
  refine call_toP (by kernel_rfl) must_ok ?_ ?_
  ·rintro _ _ ⟨e, rfl⟩
   exact hK2 () _ _ rfl rfl ⟨rfl, by rw [uAll_succ hpre, reachE, if_pos e]⟩
  ·rintro _ _ ⟨e, rfl, rfl⟩
   exact ⟨.inl rfl, hKp _ _ ⟨_, by rw [usesS, uAll_at hpre hlt (by rw [reachE, if_neg (by rw [e]; simp)])]; rfl, rfl, hle03⟩⟩
 ·rintro _ h3 ⟨rfl, hreach⟩
  have hus : usesS f m idom = uAll (blkU f m idom (predsG (ofG f.blocks))) f.blocks.length := by rw [usesS, hreach]; rfl
  rw [hus] at hK hKp
  simp
  rw [hz]; clear hz z
  refine lwp_hide fun z hz => ?_
  simp
  refine call_to (by kernel_rfl) (preds_ok hg3 hsm) ?_
  rintro vp h4 ⟨hle4, hp⟩
  have hp4 := hp.mono (fresh_le _ _)
  refine call_to (by kernel_rfl) (idom_ok (hg3.mono hle4) hsm hd) ?_
  rintro vi h5 ⟨W, mi⟩
  have hi5 := mi.now
  refine do_newX (α := List Int) (z := .slice none 0 0) (X := vw h5) (by kernel_rfl) rfl (by kernel_rfl) (rd_list.2 hi5) (fun _ => by simp) (fun _ => by simp) fun h6 hle6 hsz6 hat => ?_
  obtain ⟨vd, hvd, hd6⟩ := (hat (vw h6) hle6 rfl).sl
  generalize h5.size = C at hvd
  rw [hz]; clear hz z
  have hle36 := View.le_trans hle4 (View.le_trans mi.old hle6)
  have hp6 := hp4.mono (View.le_trans mi.old hle6)
  have k6 := k3.ext hle36
  have h56 := cellH_mono hle36 h53
  have hle06 := View.le_trans hle03 hle36
  have hpl : (predsG (ofG f.blocks)).length = f.blocks.length := by rw [predsG_len', hgl]
  have hin : ∀ b, ∀ x ∈ nth (predsG (ofG f.blocks)) b, 0 ≤ x ∧ x < f.blocks.length := by
   rw [← hgl]
   exact predsG_in (fun e he => (edgesS_in he).1) (fun i x hx => by
    rcases Nat.lt_or_ge i (ofG f.blocks).length with hi | hi
    ·rw [nth_replicate hi] at hx; cases hx
    ·rw [nth_ge (by simpa using hi)] at hx; cases hx)
  generalize predsG (ofG f.blocks) = preds at hp6 hpl hin hK hKp
  obtain ⟨pv, hpv⟩ := hp6.rows
  simp [h56, cellH_mono skip_le k6.c1, k6.rb.len]
  refine lwp_range [1, 5, 7, 54, 55, 56] (fun (_ : Unit) b => [.pointer (some ⟨B, 0, none⟩), vp, .func (.func N.check_looker_uses_1) #[] #[.pointer (some ⟨B, 0, none⟩), .pointer (some ⟨C, 0, none⟩)], vb, .int .i64 f.blocks.length, .int .i64 b]) (fun _ b h7 => (vw h6).le (vw h7) ∧ uAll (blkU f m idom preds) b = .ok ()) f.blocks.length ()
   rfl (by omega) rfl ⟨View.le_refl _, rfl⟩ (fun _ _ => rfl) (fun v i h1 hk m => by simp) ?_ ?_
  ·rintro _ b h7 hltb ⟨hle7, hpre⟩ K2 hK2
   have k7 := k6.ext hle7
   have rb7 := k7.rb.mono skip_le
   obtain ⟨u, hu, hur⟩ := rb7.wh rfl (N := 6) rfl hltb
   obtain ⟨pc, pr⟩ := hpv b (by omega)
   have hst := uAll_succ hpre
   have her : ∀ {t}, blkU f m idom preds b = .error t → uAll (blkU f m idom preds) f.blocks.length = .error t := fun e => uAll_at hpre hltb e
   refine lwp_hide fun z hz => ?_
   simp (disch := omega) [rb7.idxn (N := 6) rfl, hu _ (View.le_refl _)]
   refine do_newX (z := .agg #[.slice none 0 0, .slice none 0 0, .int .i64 0, .slice none 0 0, .slice none 0 0, .int .i32 0]) (by kernel_rfl) rfl (by kernel_rfl) hur (fun _ => by simp) (fun _ => by simp) fun h8 hle8 hsz8 hat => ?_
   obtain ⟨wp, wi, wa, wt, bp, bi, bk, ba, bt⟩ := at_blkB (hat (vw h8) hle8 rfl)
   generalize h7.size = D at bp bi bk ba bt
   rw [hz]; clear hz z
   have hle68 := View.le_trans hle7 hle8
   have bph := bp.2.bound
   have bin := bi.2.bound
   have bar := ba.2.bound
   refine lwp_hide fun z hz => ?_
   simp [bp.1, bp.2.len]
   refine lwp_range [1, 5, 7, 8, 9, 54, 55, 56, 62, 63, 64] (fun (_ : Unit) i => [.pointer (some ⟨B, 0, none⟩), vp, .func (.func N.check_looker_uses_1) #[] #[.pointer (some ⟨B, 0, none⟩), .pointer (some ⟨C, 0, none⟩)], .int .i64 b, .pointer (some ⟨D, 0, none⟩), vb, .int .i64 f.blocks.length, .int .i64 b, wp, .int .i64 (nth f.blocks b).phis.length, .int .i64 i])
    (fun _ i h9 => (vw h8).le (vw h9) ∧ uAll (phiU f m idom preds b) i = .ok ()) (nth f.blocks b).phis.length ()
    rfl (by omega) rfl ⟨View.le_refl _, rfl⟩ (fun _ _ => rfl) (fun v i h1 hk m => by simp) ?_ ?_
   ·rintro _ i h9 hlti ⟨hle9, hpre9⟩ K3 hK3
    have hst9 := uAll_succ hpre9
    have her9 : ∀ {t}, phiU f m idom preds b i = .error t → blkU f m idom preds b = .error t := fun e => by rw [blkU, uAll_at hpre9 hlti e]; rfl
    have bp9 := bp.2.mono hle9
    obtain ⟨u9, hu9, hur9⟩ := bp9.wh rfl (N := 2) rfl hlti
    refine lwp_hide fun y hy => ?_
    simp (disch := omega) [bp9.idxn (N := 2) rfl, hu9 _ (View.le_refl _)]
    refine do_newX (z := .agg #[.int .i64 0, .slice none 0 0]) (by kernel_rfl) rfl (by kernel_rfl) hur9 (fun _ => by simp) (fun _ => by simp) fun h10 hle10 hsz10 hat10 => ?_
    obtain ⟨_, wq, cq⟩ := at_phiB (hat10 (vw h10) hle10 rfl)
    simp only [phiU] at hst9 her9
    generalize nth (nth f.blocks b).phis i = x at cq hst9 her9
    generalize h9.size = D10 at cq
    have bq := cq.2.bound
    rw [hy]; clear hy y
    refine lwp_hide fun y hy => ?_
    have hle610 := View.le_trans hle68 (View.le_trans hle9 hle10)
    have hp10 := hp6.mono hle610
    have pr10 := pr.mono hle610
    have hbase : (decide (0 < b) && decide ((x.ins.length : Int) = ((nth preds b).length : Int))) = fitsBase x (nth preds b) b := rfl
    simp (disch := omega) [cq.1, cq.2.len, hp10.idx1 rfl, pc _ hle610, pr10.len]
    rw [hbase]
    rw [hy]; clear hy y
    refine lwp_hide fun y hy => ?_
    simp [cq.1, cq.2.len]
    refine lwp_range [1, 5, 7, 8, 9, 10, 11, 12, 54, 55, 56, 62, 63, 64, 83, 84, 85] (fun (_ : Unit) j => [.pointer (some ⟨B, 0, none⟩), vp, .func (.func N.check_looker_uses_1) #[] #[.pointer (some ⟨B, 0, none⟩), .pointer (some ⟨C, 0, none⟩)], .int .i64 b, .pointer (some ⟨D, 0, none⟩), .int .i64 i, .pointer (some ⟨D10, 0, none⟩),
      .bool (fitsBase x (nth preds b) b && allUp (fitsP x (nth preds b)) j), vb, .int .i64 f.blocks.length, .int .i64 b, wp, .int .i64 (nth f.blocks b).phis.length, .int .i64 i, wq, .int .i64 x.ins.length, .int .i64 j])
     (fun _ j h11 => (vw h10).le (vw h11)) x.ins.length ()
     rfl (by omega) (by simp [keepE]; intro _; rfl) (View.le_refl _) (fun _ _ => rfl) (fun v i h1 hk m => by simp) ?_ ?_
    ·rintro _ j h11 hltj hle11 K4 hK4
     have cq11 := cq.2.mono hle11
     obtain ⟨u11, hu11, hur11⟩ := cq11.wh rfl (N := 2) rfl hltj
     refine lwp_hide fun q hq => ?_
     simp (disch := omega) [cq11.idxn (N := 2) rfl, hu11 _ (View.le_refl _)]
     refine do_newX (z := .agg #[.int .i64 0, .int .i64 0]) (by kernel_rfl) rfl (by kernel_rfl) hur11 (fun _ => by simp) (fun _ => by simp) fun h12 hle12 hsz12 hat12 => ?_
     obtain ⟨e0, e1⟩ := at_inB (hat12 (vw h12) hle12 rfl)
     generalize h11.size = D12 at e0 e1
     rw [hq]; clear hq q
     have hle612 := View.le_trans hle610 (View.le_trans hle11 hle12)
     have hp12 := hp6.mono hle612
     have pr12 := pr.mono hle612
     cases hfit : fitsBase x (nth preds b) b && allUp (fitsP x (nth preds b)) j with
     | false =>
      simp
      refine hK4 () _ _ rfl ?_ (View.le_trans hle11 hle12)
      rw [allUp_succ, ← Bool.and_assoc, hfit]; rfl
     | true =>
      have hlen : x.ins.length = (nth preds b).length := by
       simp only [Bool.and_eq_true, fitsBase, decide_eq_true_eq] at hfit
       omega
      simp (disch := omega) [e0, hp12.idx1 rfl, pc _ hle612, pr12.idx1 rfl, pr12.int (View.le_refl _)]
      refine hK4 () _ _ rfl ?_ (View.le_trans hle11 hle12)
      rw [allUp_succ, ← Bool.and_assoc, hfit]; rfl
    ·rintro _ h11 hle11
     have hfs : (fitsBase x (nth preds b) b && allUp (fitsP x (nth preds b)) x.ins.length) = fitsS x (nth preds b) b := rfl
     rw [hfs]
     simp
     rw [hy]; clear hy y
     refine lwp_hide fun y hy => ?_
     simp (disch := omega)
     have hle011 := View.le_trans hle06 (View.le_trans hle610 hle11)
     refine call_toP (by kernel_rfl) must_ok ?_ ?_
     rotate_left
     ·rintro _ _ ⟨e, rfl, rfl⟩
      exact ⟨.inl rfl, hKp _ _ ⟨_, her (her9 (by rw [if_neg (by rw [e]; simp)])), rfl, hle011⟩⟩
     rintro _ h11 ⟨efit, rfl⟩
     rw [if_pos efit] at hst9
     have her9' : ∀ {t}, uAll (fun j => useS f.params m idom (nth x.ins j).val (nth x.ins j).frm (-1 - i) (nth f.blocks (nth x.ins j).frm.toNat).ins.length b) x.ins.length = .error t → blkU f m idom preds b = .error t := fun e => her9 (by rw [if_pos efit]; exact e)
     have hlen : x.ins.length = (nth preds b).length := by
      simp only [Bool.and_eq_true, fitsS, fitsBase, decide_eq_true_eq] at efit
      omega
     have hfrm : ∀ j, j < x.ins.length → 0 ≤ (nth x.ins j).frm ∧ (nth x.ins j).frm < f.blocks.length := fun j hj => by
      have h1 := all_iff.1 (Bool.and_eq_true _ _ ▸ efit : _ ∧ _).2 j hj
      simp only [fitsP, decide_eq_true_eq] at h1
      rw [h1]
      exact hin b _ (nth_mem (by omega))
     rw [hy]; clear hy y
     have cq11 := cq.2.mono hle11
     simp [cellH_mono hle11 cq.1, cq11.len]
     refine lwp_range [1, 5, 7, 8, 9, 10, 11, 54, 55, 56, 62, 63, 64, 110, 111, 112] (fun (_ : Unit) j => [.pointer (some ⟨B, 0, none⟩), vp, .func (.func N.check_looker_uses_1) #[] #[.pointer (some ⟨B, 0, none⟩), .pointer (some ⟨C, 0, none⟩)], .int .i64 b, .pointer (some ⟨D, 0, none⟩), .int .i64 i, .pointer (some ⟨D10, 0, none⟩),
       vb, .int .i64 f.blocks.length, .int .i64 b, wp, .int .i64 (nth f.blocks b).phis.length, .int .i64 i, wq, .int .i64 x.ins.length, .int .i64 j])
      (fun _ j h12 => (vw h11).le (vw h12) ∧ uAll (fun j => useS f.params m idom (nth x.ins j).val (nth x.ins j).frm (-1 - i) (nth f.blocks (nth x.ins j).frm.toNat).ins.length b) j = .ok ()) x.ins.length ()
      rfl (by omega) rfl ⟨View.le_refl _, rfl⟩ (fun _ _ => rfl) (fun v i h1 hk m => by simp) ?_ ?_
     ·rintro _ j h12 hltj ⟨hle12, hpre12⟩ K4 hK4
      have hst12 := uAll_succ hpre12
      have cq12 := cq11.mono hle12
      obtain ⟨u12, hu12, hur12⟩ := cq12.wh rfl (N := 2) rfl hltj
      refine lwp_hide fun q hq => ?_
      simp (disch := omega) [cq12.idxn (N := 2) rfl, hu12 _ (View.le_refl _)]
      refine do_newX (z := .agg #[.int .i64 0, .int .i64 0]) (by kernel_rfl) rfl (by kernel_rfl) hur12 (fun _ => by simp) (fun _ => by simp) fun h13 hle13 hsz13 hat13 => ?_
      obtain ⟨e0, e1⟩ := at_inB (hat13 (vw h13) hle13 rfl)
      generalize h12.size = D13 at e0 e1
      have hf := hfrm j hltj
      generalize hxj : nth x.ins j = w at e0 e1 hst12 hf
      rw [hq]; clear hq q
      have hle613 := View.le_trans hle610 (View.le_trans hle11 (View.le_trans hle12 hle13))
      have k13 := k6.ext hle613
      have rb13 := k13.rb.mono skip_le
      have h513 := cellH_mono hle613 h56
      obtain ⟨ul, hul⟩ := (((rb13.at (i := w.frm.toNat) (by omega)).part BlkD.p_ins)).sl
      rw [← nth_eq (by omega)] at hul
      have hul1 : cellH (vw h13) (((slA vb).add (w.frm.toNat * 6)).add 1) = some ul := hul.1
      refine drawn_at (vw h13) (View.le_refl _) ?_
      simp (disch := omega) [e0, e1, h513, cellH_mono skip_le k13.c1, rb13.idxn (N := 6) rfl, hul1, hul.2.len]
      refine do_callvP (ops := [.tmp 118, .tmp 120, .tmp 122, .tmp 133, .tmp 134]) rfl (by kernel_rfl) (use_ok k13 h513 (cellH_mono hle613 hvd) (hd6.mono hle613)) ?_ ?_
      ·rintro _ h14 ⟨e, hle14⟩
       exact hK4 () _ _ rfl rfl ⟨View.le_trans hle12 (View.le_trans hle13 hle14), by rw [hst12]; exact e⟩
      ·rintro _ h14 ⟨t, e, rfl, hle14⟩
       exact ⟨.inr fun _ => trivial, hKp _ _ ⟨t, her (her9' (uAll_at hpre12 hltj (by rw [hxj]; exact e))), rfl, View.le_trans hle06 (View.le_trans hle613 hle14)⟩⟩
     ·rintro _ h12 ⟨hle12, hpre12⟩
      simp
      exact hK3 () _ _ rfl rfl ⟨View.le_trans hle9 (View.le_trans hle10 (View.le_trans hle11 hle12)), by rw [hst9]; exact hpre12⟩
   ·rintro _ h9 ⟨hle9, hpre9⟩
    have hbu : blkU f m idom preds b = andE (uAll (insU f m idom b) (nth f.blocks b).ins.length) (endU f m idom b) := by rw [blkU, hpre9]; rfl
    rw [hbu] at hst her
    simp
    rw [hz]; clear hz z
    refine lwp_hide fun z hz => ?_
    have bi9 := bi.2.mono hle9
    simp [cellH_mono hle9 bi.1, bi9.len]
    refine lwp_range [1, 5, 7, 8, 9, 54, 55, 56, 139, 140, 141] (fun (_ : Unit) i => [.pointer (some ⟨B, 0, none⟩), vp, .func (.func N.check_looker_uses_1) #[] #[.pointer (some ⟨B, 0, none⟩), .pointer (some ⟨C, 0, none⟩)], .int .i64 b, .pointer (some ⟨D, 0, none⟩), vb, .int .i64 f.blocks.length, .int .i64 b, wi, .int .i64 (nth f.blocks b).ins.length, .int .i64 i])
     (fun _ i h10 => (vw h9).le (vw h10) ∧ uAll (insU f m idom b) i = .ok ()) (nth f.blocks b).ins.length ()
     rfl (by omega) rfl ⟨View.le_refl _, rfl⟩ (fun _ _ => rfl) (fun v i h1 hk m => by simp) ?_ ?_
    ·rintro _ i h10 hlti ⟨hle10, hpre10⟩ K3 hK3
     have hst10 := uAll_succ hpre10
     have her10 : ∀ {t}, insU f m idom b i = .error t → uAll (blkU f m idom preds) f.blocks.length = .error t := fun e => her (by rw [uAll_at hpre10 hlti e]; rfl)
     have bi10 := bi9.mono hle10
     obtain ⟨u10, hu10, hur10⟩ := bi10.wh rfl (N := 5) rfl hlti
     refine lwp_hide fun y hy => ?_
     simp (disch := omega) [bi10.idxn (N := 5) rfl, hu10 _ (View.le_refl _)]
     refine do_newX (z := .agg #[.int .i64 0, .int .i64 0, .int .i64 0, .slice none 0 0, .int .i32 0]) (by kernel_rfl) rfl (by kernel_rfl) hur10 (fun _ => by simp) (fun _ => by simp) fun h11 hle11 hsz11 hat11 => ?_
     obtain ⟨_, _, _, wq, cq⟩ := at_insB (hat11 (vw h11) hle11 rfl)
     rw [insU] at hst10 her10
     generalize nth (nth f.blocks b).ins i = x at cq hst10 her10
     generalize h10.size = D11 at cq
     have bq := cq.2.bound
     rw [hy]; clear hy y
     simp [cq.1, cq.2.len]
     refine lwp_range [1, 5, 7, 8, 9, 17, 54, 55, 56, 139, 140, 141, 147, 148, 149] (fun (_ : Unit) j => [.pointer (some ⟨B, 0, none⟩), vp, .func (.func N.check_looker_uses_1) #[] #[.pointer (some ⟨B, 0, none⟩), .pointer (some ⟨C, 0, none⟩)], .int .i64 b, .pointer (some ⟨D, 0, none⟩), .int .i64 i, vb, .int .i64 f.blocks.length, .int .i64 b, wi, .int .i64 (nth f.blocks b).ins.length, .int .i64 i, wq, .int .i64 x.args.length, .int .i64 j])
      (fun _ j h12 => (vw h11).le (vw h12) ∧ uAll (fun j => useS f.params m idom (nth x.args j) b i i b) j = .ok ()) x.args.length ()
      rfl (by omega) rfl ⟨View.le_refl _, rfl⟩ (fun _ _ => rfl) (fun v i h1 hk m => by simp) ?_ ?_
     ·rintro _ j h12 hltj ⟨hle12, hpre12⟩ K4 hK4
      have hst12 := uAll_succ hpre12
      have cq12 := cq.2.mono hle12
      have hle612 := View.le_trans hle68 (View.le_trans hle9 (View.le_trans hle10 (View.le_trans hle11 hle12)))
      have k12 := k6.ext hle612
      have h512 := cellH_mono hle612 h56
      simp (disch := omega) [cq12.idx1 rfl, cq12.int (View.le_refl _)]
      refine do_callvP (ops := [.tmp 154, .tmp 155, .tmp 156, .tmp 157, .tmp 158]) rfl (by kernel_rfl) (use_ok k12 h512 (cellH_mono hle612 hvd) (hd6.mono hle612)) ?_ ?_
      ·rintro _ h14 ⟨e, hle14⟩
       exact hK4 () _ _ rfl rfl ⟨View.le_trans hle12 hle14, by rw [hst12]; exact e⟩
      ·rintro _ h14 ⟨t, e, rfl, hle14⟩
       exact ⟨.inl rfl, hKp _ _ ⟨t, her10 (uAll_at hpre12 hltj e), rfl, View.le_trans hle06 (View.le_trans hle612 hle14)⟩⟩
     ·rintro _ h12 ⟨hle12, hpre12⟩
      simp
      exact hK3 () _ _ rfl rfl ⟨View.le_trans hle10 (View.le_trans hle11 hle12), by rw [hst10]; exact hpre12⟩
    ·rintro _ h10 ⟨hle10, hpre10⟩
     have hbu2 : andE (uAll (insU f m idom b) (nth f.blocks b).ins.length) (endU f m idom b) = endU f m idom b := by rw [hpre10]; rfl
     rw [hbu2] at hst her
     rw [endU] at hst her
     simp
     rw [hz]; clear hz z
     have ba10 := ba.2.mono (View.le_trans hle9 hle10)
     have ca10 := cellH_mono (View.le_trans hle9 hle10) ba.1
     have bi10 := bi9.mono hle10
     have ci10 := cellH_mono (View.le_trans hle9 hle10) bi.1
     simp [ca10, ba10.len]
     refine lwp_range [1, 5, 7, 8, 9, 54, 55, 56, 164, 165, 166] (fun (_ : Unit) j => [.pointer (some ⟨B, 0, none⟩), vp, .func (.func N.check_looker_uses_1) #[] #[.pointer (some ⟨B, 0, none⟩), .pointer (some ⟨C, 0, none⟩)], .int .i64 b, .pointer (some ⟨D, 0, none⟩), vb, .int .i64 f.blocks.length, .int .i64 b, wa, .int .i64 (nth f.blocks b).term.args.length, .int .i64 j])
      (fun _ j h12 => (vw h10).le (vw h12) ∧ uAll (fun j => useS f.params m idom (nth (nth f.blocks b).term.args j) b (nth f.blocks b).ins.length (nth f.blocks b).ins.length b) j = .ok ()) (nth f.blocks b).term.args.length ()
      rfl (by omega) rfl ⟨View.le_refl _, rfl⟩ (fun _ _ => rfl) (fun v i h1 hk m => by simp) ?_ ?_
     ·rintro _ j h12 hltj ⟨hle12, hpre12⟩ K4 hK4
      have hst12 := uAll_succ hpre12
      have ba12 := ba10.mono hle12
      have bi12 := bi10.mono hle12
      have ci12 := cellH_mono hle12 ci10
      have hle612 := View.le_trans hle68 (View.le_trans hle9 (View.le_trans hle10 hle12))
      have k12 := k6.ext hle612
      have h512 := cellH_mono hle612 h56
      simp (disch := omega) [ba12.idx1 rfl, ba12.int (View.le_refl _), ci12, bi12.len]
      refine do_callvP (ops := [.tmp 171, .tmp 172, .tmp 175, .tmp 178, .tmp 179]) rfl (by kernel_rfl) (use_ok k12 h512 (cellH_mono hle612 hvd) (hd6.mono hle612)) ?_ ?_
      ·rintro _ h14 ⟨e, hle14⟩
       exact hK4 () _ _ rfl rfl ⟨View.le_trans hle12 hle14, by rw [hst12]; exact e⟩
      ·rintro _ h14 ⟨t, e, rfl, hle14⟩
       exact ⟨.inl rfl, hKp _ _ ⟨t, her (uAll_at hpre12 hltj e), rfl, View.le_trans hle06 (View.le_trans hle612 hle14)⟩⟩
     ·rintro _ h12 ⟨hle12, hpre12⟩
      simp
      exact hK2 () _ _ rfl rfl ⟨View.le_trans hle7 (View.le_trans hle8 (View.le_trans hle9 (View.le_trans hle10 hle12))), by rw [hst]; exact hpre12⟩
  ·rintro _ h7 ⟨hle7, hpre⟩
   simp
   exact hK _ _ ⟨hpre, View.le_trans hle06 hle7⟩
end Go.Proofs.Ytfelpjfopgiabaa
namespace Go.Proofs.Ytfelpjfopgiabaa
open Go Go.Lft
def caught (t : Tr) : FrameMode := .panicking [{ v := .iface T.check_trouble (.agg #[.int .i64 t.1, .int .i64 t.2.1, .int .i64 t.2.2]), recovered := true }]
theorem recov_ok {a b c : Nat} {t : Tr} {h : Heap} {ra rb rc : Array Value} {ea eb ec : TypeId} (ha : h[a]? = some (.cells ra ea (0, 0))) (hb : h[b]? = some (.cells rb eb (0, 0))) (hc : h[c]? = some (.cells rc ec (0, 0))) (sa : ra.size = 1) (sb : rb.size = 1) (sc : rc.size = 1)
  (hab : a ≠ b) (hac : a ≠ c) (hbc : b ≠ c) : DCalls Try.prog N.check_Func_1 #[.pointer (some ⟨a, 0, none⟩), .pointer (some ⟨b, 0, none⟩), .pointer (some ⟨c, 0, none⟩)] (.panicking (trV t)) h
   (fun u' h' => u' = caught t ∧ h'[a]? = some (.cells #[.int .i64 t.1] ea (0, 0)) ∧ h'[b]? = some (.cells #[.int .i64 t.2.1] eb (0, 0)) ∧ h'[c]? = some (.cells #[.int .i64 t.2.2] ec (0, 0)) ∧ h.size ≤ h'.size ∧ ∀ k, k < h.size → k ≠ a → k ≠ b → k ≠ c → h'[k]? = h[k]?) := by
 refine dcalls_recover (args := [.pointer (some ⟨a, 0, none⟩), .pointer (some ⟨b, 0, none⟩), .pointer (some ⟨c, 0, none⟩)]) (t := 6) (L := L.check_Func_1.body.tail) (tys := #[]) follows F.check_Func_1 Q.check_Func_1 (by kernel_rfl) (by kernel_rfl) (by kernel_rfl) (Nat.le_of_ble_eq_true (by kernel_rfl)) E.check_Func_1_t (by kernel_rfl) (by kernel_rfl) (Nat.le_of_ble_eq_true (by kernel_rfl)) ?_
 have ala : a < h.size := (Array.getElem?_eq_some_iff.1 ha).1
 have alb : b < h.size := (Array.getElem?_eq_some_iff.1 hb).1
 have alc : c < h.size := (Array.getElem?_eq_some_iff.1 hc).1
 have hrec : recovers (.panicking (trV t)) = (.iface T.check_trouble (.agg #[.int .i64 t.1, .int .i64 t.2.1, .int .i64 t.2.2]), caught t) := rfl
 rw [hrec]
 simp [L.check_Func_1, LC.tail]
 refine do_isnil (ms := #[]) (by kernel_rfl) rfl (.inr ⟨_, _, rfl, rfl⟩) ?_
 simp
 refine do_assert (d := (Try.prog.underlying T.check_trouble).getD .bool) (by kernel_rfl) (by kernel_rfl) rfl ?_
 simp
 refine do_newV (n := 3) (z := .agg #[.int .i64 0, .int .i64 0, .int .i64 0]) (v := .agg #[.int .i64 t.1, .int .i64 t.2.1, .int .i64 t.2.2]) (by kernel_rfl) rfl (by kernel_rfl) rfl (by simp [Value.oneCell']) (fun _ => by simp) (fun _ => by simp) fun h1 hle1 hs1 hb1 => ?_
 generalize hD : h.size = D at hb1 hs1
 obtain ⟨H, hH⟩ : ∃ H : View, H = fun k => if k = D then h1[k]? else none := ⟨_, rfl⟩
 have hHle : ∀ h2 : Heap, h2[D]? = h1[D]? → H.le (vw h2) := fun h2 e k o hk => by
  rw [hH] at hk; simp only at hk
  split at hk
  ·rename_i e2; subst e2; show h2[_]? = _; rw [e]; exact hk
  ·cases hk
 have hHD : H D = some (.cells #[.int .i64 t.1, .int .i64 t.2.1, .int .i64 t.2.2] T.check_trouble (0, 0)) := by rw [hH]; simp only [if_true]; exact hb1
 have d0 : cellH H ⟨D, 0, none⟩ = some (.int .i64 t.1) := cellH_blk hHD rfl
 have d1 : cellH H ⟨D, 1, none⟩ = some (.int .i64 t.2.1) := cellH_blk hHD rfl
 have d2 : cellH H ⟨D, 2, none⟩ = some (.int .i64 t.2.2) := cellH_blk hHD rfl
 refine drawn_at H (hHle h1 rfl) ?_
 simp [d0, d1, d2]
 refine do_store (g := a) (o := 0) (n := 1) (v := .int .i64 t.1) (by kernel_rfl) rfl rfl rfl (by simp [Value.oneCell']) (hle1 _ _ ha) (by omega) fun h2 hs2 ⟨row2, hr2, he2⟩ ho2 => ?_
 refine ⟨hHle h2 (ho2 D (by omega)), ?_⟩
 refine do_store (g := b) (o := 0) (n := 1) (v := .int .i64 t.2.1) (by kernel_rfl) rfl rfl rfl (by simp [Value.oneCell']) ((ho2 b (Ne.symm hab)).trans (hle1 _ _ hb)) (by omega) fun h3 hs3 ⟨row3, hr3, he3⟩ ho3 => ?_
 refine ⟨hHle h3 ((ho3 D (by omega)).trans (ho2 D (by omega))), ?_⟩
 refine do_store (g := c) (o := 0) (n := 1) (v := .int .i64 t.2.2) (by kernel_rfl) rfl rfl rfl (by simp [Value.oneCell']) ((ho3 c (Ne.symm hbc)).trans ((ho2 c (Ne.symm hac)).trans (hle1 _ _ hc))) (by omega) fun h4 hs4 ⟨row4, hr4, he4⟩ ho4 => ?_
 have one : ∀ {row r : Array Value} {v : Value}, v.cells = #[v] → r.size = 1 → row.toList = r.toList.take 0 ++ v.cells.toList ++ r.toList.drop (0 + 1) → row = #[v] := by
  intro row r v hv hr he
  rw [← Array.toList_inj, he, hv, List.take_zero, List.nil_append, List.drop_eq_nil_of_le (by simp [hr])]
  simp
 rw [one rfl sa he2] at hr2
 rw [one rfl sb he3] at hr3
 rw [one rfl sc he4] at hr4
 refine ⟨?_, ?_, hr4, by omega, fun k hk h1' h2' h3' => ?_⟩
 ·rw [ho4 a hac, ho3 a hab]; exact hr2
 ·rw [ho4 b hbc]; exact hr3
 ·rw [ho4 k h3', ho3 k h2', ho2 k h1']
  exact (hle1 k h[k] (Array.getElem?_eq_getElem (by omega))).trans (Array.getElem?_eq_getElem (by omega)).symm
theorem recov_none {a b c : Nat} {h : Heap} : DCalls Try.prog N.check_Func_1 #[.pointer (some ⟨a, 0, none⟩), .pointer (some ⟨b, 0, none⟩), .pointer (some ⟨c, 0, none⟩)] .returning h (fun u' h' => u' = .returning ∧ h' = h) := by
 refine dcalls_recover (args := [.pointer (some ⟨a, 0, none⟩), .pointer (some ⟨b, 0, none⟩), .pointer (some ⟨c, 0, none⟩)]) (t := 6) (L := L.check_Func_1.body.tail) (tys := #[]) follows F.check_Func_1 Q.check_Func_1 (by kernel_rfl) (by kernel_rfl) (by kernel_rfl) (Nat.le_of_ble_eq_true (by kernel_rfl)) E.check_Func_1_t (by kernel_rfl) (by kernel_rfl) (Nat.le_of_ble_eq_true (by kernel_rfl)) ?_
 have hrec : recovers .returning = (.nilIface, .returning) := rfl
 rw [hrec]
 simp [L.check_Func_1, LC.tail]
 refine do_isnil (ms := #[]) (by kernel_rfl) rfl (.inl ⟨rfl, rfl⟩) ?_
 simp
def manyN (f : FuncD) (k : Nat) : Int := up (fun i n => n + (((nth f.blocks i).phis.length : Int) + (nth f.blocks i).ins.length)) k f.blocks.length
def manyS (f : FuncD) : Int := manyN f f.blocks.length
def idomL (g : Gr) : List Int := (idomG g (g.length * g.length + 1)).getD []
def usesAfter (f : FuncD) : Except Tr MW → Except Tr Unit
 | .error t => .error t
 | .ok m => usesS f m (idomL (ofG f.blocks))
def checkS (f : FuncD) : Except Tr Unit :=
 if withinS f.params 0 4 = false then .error (1, 0, 0)
 else if f.blocks.length = 0 then .error (14, 0, 0)
 else if ¬ (f.blocks.length ≤ 512 ∧ manyS f ≤ 4096) then .error (2, 0, 0)
 else usesAfter f (shapeS f (fun _ => none))
def toldS (f : FuncD) : Tr := match checkS f with
 | .ok _ => (0, 0, 0)
 | .error t => t
theorem many_le {f : FuncD} {k : Nat} : 0 ≤ manyN f k := by
 unfold manyN
 induction k with
 | zero => simp [up]
 | succ k ih => rw [up]; omega
theorem shape_to {f : FuncD} {m m' : MW} (h : shapeS f m = .ok m') : ∀ i, i < f.blocks.length → (nth f.blocks i).term.to.length ≤ 65 := by
 intro i hi
 have key : ∀ n, n ≤ f.blocks.length → ∃ s, upE (blkS f) n m = .ok s := fun n hn => by
  cases e : upE (blkS f) n m with
  | ok s => exact ⟨s, rfl⟩
  | error t => rw [shapeS, upE_err hn e] at h; cases h
 obtain ⟨s, hs⟩ := key i (by omega)
 obtain ⟨s', hs'⟩ := key (i + 1) hi
 rw [upE_succ hs, blkS] at hs'
 split at hs'
 ·cases hs'
 ·split at hs'
  ·cases hs'
  ·rw [endS] at hs'
   split at hs'
   ·rename_i hok
    rw [termOk] at hok
    split at hok
    ·rename_i sh hsh
     simp only [withinS, Bool.and_eq_true, decide_eq_true_eq] at hok
     have : sh.2.2.2 ≤ 65 := by
      simp only [shapesS, putM] at hsh
      repeat' (split at hsh)
      all_goals first | (cases hsh; done) | (cases hsh; decide)
     omega
    ·cases hok
   ·cases hs'
end Go.Proofs.Ytfelpjfopgiabaa
namespace Go.Proofs.Ytfelpjfopgiabaa
open Go Go.Lft
theorem idomL_is {g : Gr} (hg : 0 < g.length) : idomG g (g.length * g.length + 1) = some (idomL g) := by
 obtain ⟨_, _, l, hl, _⟩ := idom_spec hg
 rw [idomL, hl]; rfl
theorem one_cell {row r : Array Value} {v : Value} (hv : v.cells = #[v]) (hr : r.size = 1) (he : row.toList = r.toList.take 0 ++ v.cells.toList ++ r.toList.drop (0 + 1)) : row = #[v] := by
 rw [← Array.toList_inj, he, hv, List.take_zero, List.nil_append, List.drop_eq_nil_of_le (by simp [hr])]
 simp
structure SmB (x : BlkD) : Prop where
 phis : x.phis.length ≤ 10000
 ins : x.ins.length ≤ 10000
 args : x.term.args.length ≤ 10000
 to : x.term.to.length ≤ 10000
 phi : ∀ i, i < x.phis.length → (nth x.phis i).ins.length ≤ 10000
 inn : ∀ i, i < x.ins.length → (nth x.ins i).args.length ≤ 10000
structure SmF (f : FuncD) : Prop where
 len : f.blocks.length ≤ 10000
 blk : ∀ i, i < f.blocks.length → SmB (nth f.blocks i)
theorem func_ok {f : FuncD} {v : Value} {h : Heap} (hv : Rd (vw h) v f) (hsm : SmF f) :
  HCalls Try.prog N.check_Func #[v] h (fun u h' => u = .tuple #[.int .i64 (toldS f).1, .int .i64 (toldS f).2.1, .int .i64 (toldS f).2.2] ∧ (vw h).le (vw h')) := by
 refine calls_of_lift_defer (args := [v]) (g := N.check_Func_1) (t := 9) (capops := #[.tmp 2, .tmp 3, .tmp 4]) (tys := #[])
  (Mid := fun ρ hh => ρ = [(0, v), (1, .pointer (some ⟨h.size, 0, none⟩)), (2, .pointer (some ⟨h.size + 1, 0, none⟩)), (3, .pointer (some ⟨h.size + 2, 0, none⟩)), (4, .pointer (some ⟨h.size + 3, 0, none⟩))] ∧ hh.size = h.size + 4 ∧ (vw h).le (vw hh) ∧ At (vw hh) ⟨h.size, 0, none⟩ f ∧
   hh[h.size + 1]? = some (.cells #[.int .i64 0] T.api_Errno (0, 0)) ∧ hh[h.size + 2]? = some (.cells #[.int .i64 0] T.int (0, 0)) ∧ hh[h.size + 3]? = some (.cells #[.int .i64 0] T.int (0, 0)))
  follows F.check_Func B.check_Func (by kernel_rfl) (by kernel_rfl) (by kernel_rfl) (by kernel_rfl) (by kernel_rfl) (by kernel_rfl) (Nat.le_of_ble_eq_true (by kernel_rfl)) (by kernel_rfl) E.check_Func_p0 (by kernel_rfl) E.check_Func_p1 (by kernel_rfl) R.check_Func_is (Nat.le_of_ble_eq_true (by kernel_rfl)) ?_ ?_
 ·simp [L.check_Func_p0]
  refine do_boxT rfl hv fun h1 e1 hle1 hs1 hat => ?_
  refine do_alloc (z := .int .i64 0) (by kernel_rfl) ?_
  refine do_alloc (z := .int .i64 0) (by kernel_rfl) ?_
  refine do_alloc (z := .int .i64 0) (by kernel_rfl) ?_
  have q1 := push_le h1 (.cells (Value.int .i64 0).cells T.api_Errno)
  generalize e2 : h1.push (.cells (Value.int .i64 0).cells T.api_Errno) = h2 at q1
  have b2 : h2[h1.size]? = some (.cells #[.int .i64 0] T.api_Errno (0, 0)) := by rw [← e2]; simp
  have s2 : h2.size = h1.size + 1 := by rw [← e2]; simp
  have q2 := push_le h2 (.cells (Value.int .i64 0).cells T.int)
  generalize e3 : h2.push (.cells (Value.int .i64 0).cells T.int) = h3 at q2
  have b3 : h3[h2.size]? = some (.cells #[.int .i64 0] T.int (0, 0)) := by rw [← e3]; simp
  have s3 : h3.size = h2.size + 1 := by rw [← e3]; simp
  have q3 := push_le h3 (.cells (Value.int .i64 0).cells T.int)
  generalize e4 : h3.push (.cells (Value.int .i64 0).cells T.int) = h4 at q3
  have b4 : h4[h3.size]? = some (.cells #[.int .i64 0] T.int (0, 0)) := by rw [← e4]; simp
  have s4 : h4.size = h3.size + 1 := by rw [← e4]; simp
  have hsz : h1.size = h.size + 1 := hs1
  have e22 : h2.size = h.size + 2 := by omega
  have e32 : h3.size = h.size + 3 := by omega
  rw [hsz] at b2
  rw [e22] at b3
  rw [e32] at b4
  rw [e22, e32, hsz]
  simp
  exact ⟨by omega, View.le_trans hle1 (View.le_trans q1 (View.le_trans q2 q3)), hat.mono (View.le_trans q1 (View.le_trans q2 q3)), q3 _ _ (q2 _ _ b2), q3 _ _ b3, b4⟩
 ·rintro ρ hh ⟨rfl, hs, hle, hat, hb1, hb2, hb3⟩
  refine ⟨[.pointer (some ⟨h.size + 1, 0, none⟩), .pointer (some ⟨h.size + 2, 0, none⟩), .pointer (some ⟨h.size + 3, 0, none⟩)], by simp [capsE],
   ⟨fun ch h2 => ∃ t, checkS f = .error t ∧ ch = trV t ∧ (vw hh).le (vw h2), fun ρ => Lft.look ρ 2 = some (.pointer (some ⟨h.size + 1, 0, none⟩)) ∧ Lft.look ρ 3 = some (.pointer (some ⟨h.size + 2, 0, none⟩)) ∧ Lft.look ρ 4 = some (.pointer (some ⟨h.size + 3, 0, none⟩))⟩, ?_, ?_⟩
  rotate_left
  ·rintro ch ρ2 h2 ⟨t, ht, rfl, hle2⟩ ⟨l2, l3, l4⟩
   refine ⟨_, recov_ok (hle2 _ _ hb1) (hle2 _ _ hb2) (hle2 _ _ hb3) rfl rfl rfl (by omega) (by omega) (by omega), ?_⟩
   rintro u' h3 ⟨rfl, g1, g2, g3, gs, go⟩
   have c1 : cellH (vw h3) ⟨h.size + 1, 0, none⟩ = some (.int .i64 t.1) := cellH_blk (show vw h3 _ = _ from g1) rfl
   have c2 : cellH (vw h3) ⟨h.size + 2, 0, none⟩ = some (.int .i64 t.2.1) := cellH_blk (show vw h3 _ = _ from g2) rfl
   have c3 : cellH (vw h3) ⟨h.size + 3, 0, none⟩ = some (.int .i64 t.2.2) := cellH_blk (show vw h3 _ = _ from g3) rfl
   refine ⟨rfl, [.int .i64 t.1, .int .i64 t.2.1, .int .i64 t.2.2], by simp [R.check_Func, l2, l3, l4, c1, c2, c3], ?_⟩
   refine ⟨by simp [toldS, ht], fun b o hb => ?_⟩
   have hlt := View.lt (View.le_refl (vw h)) hb
   show h3[b]? = _
   have hb2' := hle2 _ _ (hle _ _ hb)
   have hlt2 := View.lt (View.le_refl (vw h2)) hb2'
   rw [go b hlt2 (by omega) (by omega) (by omega)]
   exact hb2'
  ·obtain ⟨cp, vb, cb⟩ := at_funcB hat
   have hbb := cb.2.bound
   have bad : ∀ {t : Tr} {ch : List PanicEntry} {h2 : Heap}, checkS f = .error t → ch = trV t → (vw hh).le (vw h2) → ∃ t, checkS f = .error t ∧ ch = trV t ∧ (vw hh).le (vw h2) := fun a b c => ⟨_, a, b, c⟩
   simp only [killE_cons, killE_nil]
   dsimp only [L.check_Func_p1]
   refine lwp_hide fun z hz => ?_
   simp [cp]
   refine call_to (by kernel_rfl) within_ok ?_
   rintro _ _ ⟨rfl, rfl⟩
   refine call_toP (by kernel_rfl) must_ok ?_ ?_
   rotate_left
   ·rintro _ _ ⟨e, rfl, rfl⟩
    exact ⟨.inl rfl, bad (by rw [checkS, if_pos e]) rfl (View.le_refl _)⟩
   rintro _ hh ⟨e1, rfl⟩
   have e1' : ¬ withinS f.params 0 4 = false := by rw [e1]; simp
   rw [hz]; clear hz z
   refine lwp_hide fun z hz => ?_
   simp [cb.1, cb.2.len]
   refine call_toP (by kernel_rfl) must_ok ?_ ?_
   rotate_left
   ·rintro _ _ ⟨e, rfl, rfl⟩
    exact ⟨.inl rfl, bad (by rw [checkS, if_neg e1', if_pos (by simpa using e)]) rfl (View.le_refl _)⟩
   rintro _ hh ⟨e2, rfl⟩
   have e2' : ¬ f.blocks.length = 0 := by
    intro e; rw [e] at e2; simp at e2
   rw [hz]; clear hz z
   refine lwp_hide fun z hz => ?_
   simp [cb.1, cb.2.len]
   rw [hz]; clear hz z
   refine lwp_hide fun z hz => ?_
   simp [cb.1, cb.2.len]
   refine lwp_range [1, 2, 3, 4, 5, 23, 24, 25] (fun (_ : Unit) k => [.pointer (some ⟨h.size, 0, none⟩), .pointer (some ⟨h.size + 1, 0, none⟩), .pointer (some ⟨h.size + 2, 0, none⟩), .pointer (some ⟨h.size + 3, 0, none⟩), .int .i64 (manyN f k), vb, .int .i64 f.blocks.length, .int .i64 k])
    (fun _ k h1 => (vw hh).le (vw h1) ∧ manyN f k ≤ f.blocks.length + k * 2000000) f.blocks.length ()
    rfl (by omega) rfl ⟨View.le_refl _, by simp [manyN, up]⟩ (fun _ _ => rfl) (fun v i h1 hk m => by simp) ?_ ?_
   ·rintro _ k h1 hlt ⟨hle1, hmk⟩ K2 hK2
    have cb1 := cb.2.mono hle1
    obtain ⟨u, hu, hur⟩ := cb1.wh rfl (N := 6) rfl hlt
    refine lwp_hide fun y hy => ?_
    simp (disch := omega) [cb1.idxn (N := 6) rfl, hu _ (View.le_refl _)]
    refine do_newX (z := .agg #[.slice none 0 0, .slice none 0 0, .int .i64 0, .slice none 0 0, .slice none 0 0, .int .i32 0]) (by kernel_rfl) rfl (by kernel_rfl) hur (fun _ => by simp) (fun _ => by simp) fun h2 hle2 hsz2 hat2 => ?_
    obtain ⟨vp, vi, va, vt, bp, bi, _⟩ := at_blkB (hat2 (vw h2) hle2 rfl)
    have bph := bp.2.bound
    have bih := bi.2.bound
    have hm1 : manyN f (k + 1) = manyN f k + (((nth f.blocks k).phis.length : Int) + (nth f.blocks k).ins.length) := rfl
    have h0 := many_le (f := f) (k := k)
    rw [hy]; clear hy y
    simp [bp.1, bp.2.len, bi.1, bi.2.len]
    have s1 := (hsm.blk k hlt).phis
    have s2 := (hsm.blk k hlt).ins
    have s0 := hsm.len
    rw [wrap64_id (a := ((nth f.blocks k).phis.length : Int) + (nth f.blocks k).ins.length) (by omega) (by omega), wrap64_id (by omega) (by omega)]
    exact hK2 () _ _ rfl (by rw [hm1]; rfl) ⟨View.le_trans hle1 hle2, by rw [hm1]; omega⟩
   ·rintro _ h1 ⟨hle1, hmk⟩
    simp
    rw [hz]; clear hz z
    refine lwp_hide fun z hz => ?_
    have cb1 := cb.2.mono hle1
    have cc1 := cellH_mono hle1 cb.1
    have cp1 := cellH_mono hle1 cp
    simp [cc1, cb1.len]
    have hms : manyN f f.blocks.length = manyS f := rfl
    rw [hms]
    refine call_toP (by kernel_rfl) must_ok ?_ ?_
    rotate_left
    ·rintro _ _ ⟨e, rfl, rfl⟩
     refine ⟨.inl rfl, bad ?_ rfl hle1⟩
     rw [checkS, if_neg e1', if_neg e2', if_pos]
     intro e3
     simp at e; omega
    rintro _ h1 ⟨e3, rfl⟩
    have e3' : ¬ ¬ (f.blocks.length ≤ 512 ∧ manyS f ≤ 4096) := by
     simp at e3; omega
    have hchk : checkS f = usesAfter f (shapeS f (fun _ => none)) := by rw [checkS, if_neg e1', if_neg e2', if_neg e3']
    rw [hz]; clear hz z
    refine lwp_hide fun z hz => ?_
    simp [loads2 cp1 cc1]
    refine do_makeMap ?_
    have hle2 := push_le h1 (.map #[] 0)
    have hm2 : MapIs (.int .i64) (h1.push (.map #[] 0)) h1.size (mapE encW fun _ => none) := by rw [mapE_none]; exact MapIs.none (by simp)
    have hs2 : (h1.push (.map #[] 0)).size = h1.size + 1 := by simp
    generalize h1.push (.map #[] 0) = h2 at hle2 hm2 hs2
    refine do_build (z := .agg #[.int .i64 0, .slice none 0 0, .map none]) (places := [(0, 2), (2, 1)]) (vs := [(0, .agg #[.int .i64 f.params, vb]), (1, .map (some h1.size))]) (cs := #[.int .i64 f.params, vb, .map (some h1.size)]) (by kernel_rfl) (by kernel_rfl) (by simp) (by rfl) ?_
    refine do_box (v := .agg #[.int .i64 f.params, vb, .map (some h1.size)]) rfl ?_
    have hle3 := push_le h2 (.cells (Value.cells (.agg #[.int .i64 f.params, vb, .map (some h1.size)])) T.check_looker)
    have hbk : (h2.push (.cells (Value.cells (.agg #[.int .i64 f.params, vb, .map (some h1.size)])) T.check_looker))[h2.size]? = some (.cells #[.int .i64 f.params, vb, .map (some h1.size)] T.check_looker (0, 0)) := by simp
    have hs3 : (h2.push (.cells (Value.cells (.agg #[.int .i64 f.params, vb, .map (some h1.size)])) T.check_looker)).size = h2.size + 1 := by simp
    generalize h2.push (.cells (Value.cells (.agg #[.int .i64 f.params, vb, .map (some h1.size)])) T.check_looker) = h3 at hle3 hbk hs3
    rw [hz]; clear hz z
    have hsk : skip h1.size h3 h2.size = some (.cells #[.int .i64 f.params, vb, .map (some h1.size)] T.check_looker (0, 0)) := by rw [skip_get (by omega)]; exact hbk
    have hle13 := View.le_trans hle2 hle3
    have hle1k : (vw h1).le (skip h1.size h3) := fun b o hb => by
     have hlt := View.lt (View.le_refl (vw h1)) hb
     rw [skip_get (by omega)]; exact hle13 b o hb
    have k3 : Lk h3 h2.size h1.size vb f (fun _ => none) := ⟨cellH_blk hsk rfl, cellH_blk hsk rfl, cellH_blk hsk rfl, cb1.mono hle1k, hm2.ext hle3⟩
    generalize h2.size = Kb at k3
    generalize hr : h1.size = r at k3
    have hkk : ∀ {h' : Heap}, Kept h3 h' (some r) → (vw hh).le (vw h') := fun kp b o hb => by
     have h1b := hle1 b o hb
     have hlt := View.lt (View.le_refl (vw h1)) h1b
     have h3b := hle13 b o h1b
     have hlt3 := View.lt (View.le_refl (vw h3)) h3b
     show _ = _
     exact (kp.block b hlt3 (by simp; omega)).trans h3b
    refine lwp_hide fun z hz => ?_
    simp
    refine call_toP (by kernel_rfl) (shape_ok k3) ?_ ?_
    rotate_left
    ·rintro _ h4 ⟨t, ht, rfl, kp4⟩
     exact ⟨.inl rfl, bad (by rw [hchk, ht]; rfl) rfl (hkk kp4)⟩
    rintro _ h4 ⟨m4, hm4, k4, kp4⟩
    have hto := shape_to hm4
    rw [hm4] at hchk
    have hchk : checkS f = usesS f m4 (idomL (ofG f.blocks)) := hchk
    rw [hz]; clear hz z
    refine lwp_hide fun z hz => ?_
    simp
    have hgl : (ofG f.blocks).length = f.blocks.length := by simp [ofG]
    refine call_toP (by kernel_rfl) (uses_ok k4 (Nat.le_trans hsm.len (by decide)) (fun i hi => Nat.le_trans (hto i hi) (by decide)) (idomL_is (by omega))) ?_ ?_
    rotate_left
    ·rintro _ h5 ⟨t, ht, rfl, hle5⟩
     exact ⟨.inl rfl, bad (by rw [hchk, ht]) rfl (View.le_trans (hkk kp4) hle5)⟩
    rintro _ h5 ⟨hus, hle5⟩
    have hle05 := View.le_trans (hkk kp4) hle5
    rw [hz]; clear hz z
    simp
    refine do_store (g := h.size + 1) (o := 0) (n := 1) (v := .int .i64 0) (by kernel_rfl) rfl rfl rfl (by simp [Value.oneCell']) (hle05 _ _ hb1) (by simp) fun h6 hs6 ⟨row6, hr6, he6⟩ ho6 => ?_
    refine do_store (g := h.size + 2) (o := 0) (n := 1) (v := .int .i64 0) (by kernel_rfl) rfl rfl rfl (by simp [Value.oneCell']) ((ho6 _ (by omega)).trans (hle05 _ _ hb2)) (by simp) fun h7 hs7 ⟨row7, hr7, he7⟩ ho7 => ?_
    refine do_store (g := h.size + 3) (o := 0) (n := 1) (v := .int .i64 0) (by kernel_rfl) rfl rfl rfl (by simp [Value.oneCell']) ((ho7 _ (by omega)).trans ((ho6 _ (by omega)).trans (hle05 _ _ hb3))) (by simp) fun h8 hs8 ⟨row8, hr8, he8⟩ ho8 => ?_
    rw [one_cell rfl rfl he6] at hr6
    rw [one_cell rfl rfl he7] at hr7
    rw [one_cell rfl rfl he8] at hr8
    refine ⟨_, recov_none, ?_⟩
    rintro u' h9 ⟨rfl, rfl⟩
    have c1 : cellH (vw h9) ⟨h.size + 1, 0, none⟩ = some (.int .i64 0) := cellH_blk (show vw h9 _ = _ from (ho8 _ (by omega)).trans ((ho7 _ (by omega)).trans hr6)) rfl
    have c2 : cellH (vw h9) ⟨h.size + 2, 0, none⟩ = some (.int .i64 0) := cellH_blk (show vw h9 _ = _ from (ho8 _ (by omega)).trans hr7) rfl
    have c3 : cellH (vw h9) ⟨h.size + 3, 0, none⟩ = some (.int .i64 0) := cellH_blk (show vw h9 _ = _ from hr8) rfl
    refine ⟨rfl, [.int .i64 0, .int .i64 0, .int .i64 0], by simp [R.check_Func, c1, c2, c3], ?_⟩
    have htold : toldS f = (0, 0, 0) := by rw [toldS, hchk, hus]
    refine ⟨by simp [htold], fun b o hb => ?_⟩
    have hlt := View.lt (View.le_refl (vw h)) hb
    show h9[b]? = _
    rw [ho8 b (by omega), ho7 b (by omega), ho6 b (by omega)]
    exact hle05 _ _ (hle _ _ hb)
theorem right_ok {f : FuncD} {v : Value} {h : Heap} (hv : Rd (vw h) v f) (hsm : SmF f) :
  HCalls Try.prog N.check_Right #[v] h (fun u h' => u = .bool (decide ((toldS f).1 = 0)) ∧ (vw h).le (vw h')) := by
 refine calls_lift (args := [v]) follows F.check_Right E.check_Right (Nat.le_of_ble_eq_true (by kernel_rfl)) fun K hK => ?_
 simp [L.check_Right]
 refine do_boxT rfl hv fun h1 e1 hle1 hs1 hat => ?_
 obtain ⟨u, hu, hur⟩ := hat.loads rfl
 have hu' : Un.ev (vw h1) (.loads 2) (.pointer (some ⟨h.size, 0, none⟩)) = some u := hu
 simp [hu']
 refine call_to (by kernel_rfl) (func_ok hur hsm) ?_
 rintro _ h2 ⟨rfl, hle2⟩
 simp
 exact hK _ _ ⟨rfl, View.le_trans hle1 hle2⟩
end Go.Proofs.Ytfelpjfopgiabaa
namespace Go.Proofs.Ytfelpjfopgiabaa
open Go Go.Lft
structure Th where
 blk : Int
 place : Int
 mks : List Int
 tks : List Int
 deriving Inhabited
def phiT (f : FuncD) (b i : Nat) : Th := ⟨b, -1 - i, [(nth (nth f.blocks b).phis i).dst], (nth (nth f.blocks b).phis i).ins.map InD.val⟩
def insT (f : FuncD) (b i : Nat) : Th := ⟨b, i, makesS (nth (nth f.blocks b).ins i), (nth (nth f.blocks b).ins i).args⟩
def endT (f : FuncD) (b : Nat) : Th := ⟨b, (nth f.blocks b).ins.length, [], (nth f.blocks b).term.args⟩
def thB (f : FuncD) (b : Nat) : List Th := rows (phiT f b) (nth f.blocks b).phis.length ++ rows (insT f b) (nth f.blocks b).ins.length ++ [endT f b]
def thTo (f : FuncD) (n : Nat) : List Th := up (fun b l => l ++ thB f b) n []
def thingsS (f : FuncD) : List Th := thTo f f.blocks.length
theorem thTo_succ {f : FuncD} {n : Nat} : thTo f (n + 1) = thTo f n ++ thB f n := rfl
theorem thTo_pre {f : FuncD} {n m : Nat} (h : n ≤ m) : thTo f n <+: thTo f m := by
 induction m with
 | zero => rw [show n = 0 by omega]; exact List.prefix_refl _
 | succ m ih =>
  rcases Nat.lt_or_ge n (m + 1) with h1 | h1
  ·exact (ih (by omega)).trans ⟨_, thTo_succ.symm⟩
  ·rw [show n = m + 1 by omega]; exact List.prefix_refl _
theorem rows_pre {β : Type} {x : Nat → β} {n m : Nat} (h : n ≤ m) : rows x n <+: rows x m := by
 induction m with
 | zero => rw [show n = 0 by omega]; exact List.prefix_refl _
 | succ m ih =>
  rcases Nat.lt_or_ge n (m + 1) with h1 | h1
  ·exact (ih (by omega)).trans ⟨_, rows_succ.symm⟩
  ·rw [show n = m + 1 by omega]; exact List.prefix_refl _
theorem pre_app {α : Type} {a b c : List α} (h : b <+: c) : a ++ b <+: a ++ c := by
 obtain ⟨t, rfl⟩ := h; exact ⟨t, by simp⟩
structure ThJ (J : List Th → View → Heap → Prop) : Prop where
 le : ∀ {l W h}, J l W h → W.le (vw h)
 ext : ∀ {l W h h'}, J l W h → (vw h).le (vw h') → J l (grow W h h') h'
theorem things_ok {f : FuncD} {v : Value} {h : Heap} {V : View} {gf : Nat} {caps : List Value} {J : List Th → View → Heap → Prop} (hv : Rd V v f) (hsm : SmF f) (hJ : ThJ J) (hg : isFn Try.prog gf = true) (h0 : J [] V h)
  (hstep : ∀ (l : List Th) (t : Th) (W : View) (h1 : Heap) (vm vt : Value), V.le W → l ++ [t] <+: thingsS f → J l W h1 → SlRd W vm t.mks → SlRd W vt t.tks → HCalls Try.prog gf (.int .i64 t.blk :: .int .i64 t.place :: vm :: vt :: caps).toArray h1 (fun _ h2 => J (l ++ [t]) W h2)) :
  HCalls Try.prog N.check_things #[v, .func (.func gf) #[] caps.toArray] h (fun _ h' => ∃ W, V.le W ∧ J (thingsS f) W h') := by
 refine calls_lift (args := [v, .func (.func gf) #[] caps.toArray]) follows F.check_things E.check_things (Nat.le_of_ble_eq_true (by kernel_rfl)) fun K hK => ?_
 dsimp only [L.check_things]
 refine lwp_hide fun z hz => ?_
 simp
 refine do_boxT rfl (hv.mono (hJ.le h0)) fun h1 e1 hle1 hs1 hat => ?_
 have j1 := hJ.ext h0 hle1
 obtain ⟨cp, vb, cb⟩ := at_funcB hat
 have hvb : SlRd V vb f.blocks := by
  obtain ⟨u, hu, hur⟩ := hv.part1 FuncD.p_blocks rfl rfl (K := vw h)
  have e : vb = u := by
   have hv' : ∃ cs : Array Value, v = .agg cs ∧ Rep.rd V cs.toList f := hv
   obtain ⟨cs, rfl, hcs⟩ := hv'
   have hb : h1[h.size]? = some (.cells cs T.api_Func (0, 0)) := by rw [e1]; simp
   have h3 : cellH (vw h1) ⟨h.size, 1, none⟩ = cs[1]? := by simp [cellH, vw, hb]
   simp at hu
   rw [cb.1] at h3
   rw [hu] at h3
   exact Option.some.inj h3
  rw [e]; exact rd_list.1 hur
 have hVW : V.le (grow V h h1) := le_grow (hJ.le h0)
 generalize grow V h h1 = W1 at j1 hVW
 generalize h.size = B at cb
 have hbb := cb.2.bound
 rw [hz]; clear hz z
 simp [cb.1, cb.2.len]
 refine lwp_range [1, 14, 15, 16] (fun (_ : Unit) b => [.func (.func gf) #[] caps.toArray, vb, .int .i64 f.blocks.length, .int .i64 b]) (fun _ b h2 => ∃ W, V.le W ∧ J (thTo f b) W h2) f.blocks.length ()
  rfl (by omega) rfl ⟨W1, hVW, j1⟩ (fun _ _ => rfl) (fun v i h1 hk m => by simp) ?_ ?_
 ·rintro _ b h2 hltb ⟨W2, hW2, j2⟩ K2 hK2
  have hvb2 := hvb.mono (View.le_trans hW2 (hJ.le j2))
  obtain ⟨u, hu, hur⟩ := (hvb.mono hW2).wh rfl (N := 6) rfl hltb
  refine lwp_hide fun z hz => ?_
  simp (disch := omega) [hvb2.idxn (N := 6) rfl, hu _ (hJ.le j2)]
  refine do_newX (X := W2) (z := .agg #[.slice none 0 0, .slice none 0 0, .int .i64 0, .slice none 0 0, .slice none 0 0, .int .i32 0]) (by kernel_rfl) rfl (by kernel_rfl) hur (fun _ => by simp) (fun _ => by simp) fun h3 hle3 hsz3 hat3 => ?_
  have j3 := hJ.ext j2 hle3
  have hat3' := hat3 (grow W2 h2 h3) (le_grow (hJ.le j2)) (by unfold grow; rw [if_neg (by omega)])
  obtain ⟨vp, vi, va, vt, bp, bi, bk, ba, bt⟩ := at_blkB hat3'
  have hVW3 := View.le_trans hW2 (le_grow (h' := h3) (hJ.le j2))
  generalize grow W2 h2 h3 = W3 at j3 hVW3 bp bi bk ba bt
  generalize h2.size = D at bp bi bk ba bt
  have hpre : thTo f b ++ thB f b <+: thingsS f := by rw [← thTo_succ]; exact thTo_pre hltb
  rw [hz]; clear hz z
  have bph := bp.2.bound
  have bih := bi.2.bound
  refine lwp_hide fun z hz => ?_
  simp [cellH_mono (hJ.le j3) bp.1, bp.2.len]
  refine lwp_range [1, 4, 5, 14, 15, 16, 22, 23, 24] (fun (_ : Unit) i => [.func (.func gf) #[] caps.toArray, .int .i64 b, .pointer (some ⟨D, 0, none⟩), vb, .int .i64 f.blocks.length, .int .i64 b, vp, .int .i64 (nth f.blocks b).phis.length, .int .i64 i])
   (fun _ i h4 => ∃ W, W3.le W ∧ J (thTo f b ++ rows (phiT f b) i) W h4) (nth f.blocks b).phis.length ()
   rfl (by omega) rfl ⟨W3, View.le_refl _, by simpa using j3⟩ (fun _ _ => rfl) (fun v i h1 hk m => by simp) ?_ ?_
  ·rintro _ i h4 hlti ⟨W4, hW4, j4⟩ K3 hK3
   have bp4 := bp.2.mono (View.le_trans hW4 (hJ.le j4))
   obtain ⟨u4, hu4, hur4⟩ := bp4.wh rfl (N := 2) rfl hlti
   refine lwp_hide fun y hy => ?_
   simp (disch := omega) [bp4.idxn (N := 2) rfl, hu4 _ (View.le_refl _)]
   refine do_newX (z := .agg #[.int .i64 0, .slice none 0 0]) (by kernel_rfl) rfl (by kernel_rfl) hur4 (fun _ => by simp) (fun _ => by simp) fun h5 hle5 hsz5 hat5 => ?_
   obtain ⟨c0, vq, cq⟩ := at_phiB (hat5 (vw h5) hle5 rfl)
   have rd := ((hat5 (vw h5) hle5 rfl).part PhiD.p_dst).rng
   have hpl := (hsm.blk b hltb).phi i hlti
   have hpt : phiT f b i = ⟨b, -1 - i, [(nth (nth f.blocks b).phis i).dst], (nth (nth f.blocks b).phis i).ins.map InD.val⟩ := rfl
   generalize nth (nth f.blocks b).phis i = x at c0 cq rd hpt hpl
   generalize h4.size = D4 at c0 cq
   have bq := cq.2.bound
   rw [hy]; clear hy y
   refine lwp_hide fun y hy => ?_
   simp
   rw [hy]; clear hy y
   refine lwp_hide fun y hy => ?_
   simp [cq.1, cq.2.len]
   refine lwp_range [1, 4, 5, 6, 7, 8, 14, 15, 16, 22, 23, 24, 30, 31, 32] (fun (r : Value) j => [.func (.func gf) #[] caps.toArray, .int .i64 b, .pointer (some ⟨D, 0, none⟩), .int .i64 i, .pointer (some ⟨D4, 0, none⟩), r, vb, .int .i64 f.blocks.length, .int .i64 b, vp, .int .i64 (nth f.blocks b).phis.length, .int .i64 i, vq, .int .i64 x.ins.length, .int .i64 j])
    (fun r j h6 => Mine nothing h5 h6 nothing T.int r ((x.ins.map InD.val).take j)) x.ins.length (.slice none 0 0)
    rfl (by omega) rfl (Mine.start nothing_le) (fun _ _ => rfl) (fun v i h1 hk m => by simp) ?_ ?_
   ·rintro r j h6 hltj m6 K4 hK4
    have cq6 := cq.2.mono m6.old
    obtain ⟨u6, hu6, hur6⟩ := cq6.wh rfl (N := 2) rfl hltj
    refine lwp_hide fun q hq => ?_
    simp (disch := omega) [cq6.idxn (N := 2) rfl, hu6 _ (View.le_refl _)]
    refine do_newX (z := .agg #[.int .i64 0, .int .i64 0]) (by kernel_rfl) rfl (by kernel_rfl) hur6 (fun _ => by simp) (fun _ => by simp) fun h7 hle7 hsz7 hat7 => ?_
    have e1 := (at_inB (hat7 (vw h7) hle7 rfl)).2
    have rv := ((hat7 (vw h7) hle7 rfl).part InD.p_val).rng
    generalize h6.size = D6 at e1
    rw [hq]; clear hq q
    simp [e1]
    have hl8 : ((x.ins.map InD.val).take j).length = j := by simp; omega
    refine (m6.ext' hle7).push (d := (nth x.ins j).val) El.s_int (by simp <;> rfl) (rd_i rv.1 rv.2) (by omega) (by omega) (fun _ => by simp) (fun _ => by simp) fun u8 v8 h8 m8 => ?_
    refine hK4 v8 _ _ rfl rfl ?_
    rw [List.take_add_one, List.getElem?_map, List.getElem?_eq_getElem hltj]
    rw [nth_eq hltj] at m8
    exact m8
   ·rintro r h6 m6
    rw [List.take_of_length_le (by simp)] at m6
    simp
    rw [hy]; clear hy y
    simp (disch := omega) [cellH_mono m6.old c0]
    refine do_litN (X := nothing) (ds := [x.dst]) (vs := [.int .i64 x.dst]) rfl El.s_int (by simp) ⟨rd_int.2 ⟨rfl, rd⟩, trivial⟩ nothing_le rfl (by omega) fun u7 h7 hle7 hsz7 hu7 _ => ?_
    have hle47 := View.le_trans hle5 (View.le_trans m6.old hle7)
    have j7 := hJ.ext j4 hle47
    have hW7 := View.le_trans hW4 (le_grow (h' := h7) (hJ.le j4))
    have pre : (thTo f b ++ rows (phiT f b) i) ++ [phiT f b i] <+: thingsS f := by
     rw [List.append_assoc, ← rows_succ]
     exact (pre_app ((rows_pre hlti).trans ⟨_, (List.append_assoc ..).symm⟩)).trans hpre
    rw [hpt] at pre
    refine do_callv (ops := [.tmp 43, .tmp 45, .tmp 48, .tmp 49]) rfl hg (hstep _ ⟨b, -1 - i, [x.dst], x.ins.map InD.val⟩ _ h7 u7 r (View.le_trans hVW3 hW7) pre j7 (hu7 _ nothing_le (grow_new (by have := ext_size hle5; have := ext_size m6.old; omega))) (m6.fresh.mono (fresh_in (ext_size hle5) hle7))) ?_
    rintro _ h8 j8
    exact hK3 () _ _ rfl rfl ⟨_, hW7, by rw [rows_succ, ← List.append_assoc, hpt]; exact j8⟩
  ·rintro _ h4 ⟨W4, hW4, j4⟩
   simp
   rw [hz]; clear hz z
   refine lwp_hide fun z hz => ?_
   have hW4h := View.le_trans hW4 (hJ.le j4)
   simp [cellH_mono hW4h bi.1, (bi.2.mono hW4h).len]
   refine lwp_range [1, 4, 5, 14, 15, 16, 53, 54, 55] (fun (_ : Unit) i => [.func (.func gf) #[] caps.toArray, .int .i64 b, .pointer (some ⟨D, 0, none⟩), vb, .int .i64 f.blocks.length, .int .i64 b, vi, .int .i64 (nth f.blocks b).ins.length, .int .i64 i])
    (fun _ i h5 => ∃ W, W3.le W ∧ J (thTo f b ++ rows (phiT f b) (nth f.blocks b).phis.length ++ rows (insT f b) i) W h5) (nth f.blocks b).ins.length ()
    rfl (by omega) rfl ⟨W4, hW4, by simpa using j4⟩ (fun _ _ => rfl) (fun v i h1 hk m => by simp) ?_ ?_
   ·rintro _ i h5 hlti ⟨W5, hW5, j5⟩ K3 hK3
    have bi5 := bi.2.mono (View.le_trans hW5 (hJ.le j5))
    obtain ⟨u5, hu5, hur5⟩ := (bi.2.mono hW5).wh rfl (N := 5) rfl hlti
    refine lwp_hide fun y hy => ?_
    simp (disch := omega) [bi5.idxn (N := 5) rfl, hu5 _ (hJ.le j5)]
    refine do_newX (z := .agg #[.int .i64 0, .int .i64 0, .int .i64 0, .slice none 0 0, .int .i32 0]) (by kernel_rfl) rfl (by kernel_rfl) hur5 (fun _ => by simp) (fun _ => by simp) fun h6 hle6 hsz6 hat6 => ?_
    have hatg := hat6 (grow W5 h5 h6) (le_grow (hJ.le j5)) (grow_new (Nat.le_refl _))
    have hat6' := hatg.mono (grow_le (View.le_trans (hJ.le j5) hle6))
    obtain ⟨_, _, _, vq, cq⟩ := at_insB hatg
    obtain ⟨w, w1, w2⟩ := hat6'.loads rfl
    have w1 : Un.ev (vw h6) (.loads 5) (.pointer (some ⟨h5.size, 0, none⟩)) = some w := w1
    have hpt : insT f b i = ⟨b, i, makesS (nth (nth f.blocks b).ins i), (nth (nth f.blocks b).ins i).args⟩ := rfl
    generalize nth (nth f.blocks b).ins i = x at cq w2 hpt
    generalize h5.size = D5 at cq w1
    rw [hy]; clear hy y
    have hg6 : (grow W5 h5 h6).le (vw h6) := grow_le (View.le_trans (hJ.le j5) hle6)
    refine drawn_at (vw h6) (View.le_refl _) ?_
    simp [cellH_mono hg6 cq.1, w1]
    refine call_to (by kernel_rfl) (makes_ok w2) ?_
    rintro u7 h7 ⟨hle7, hu7⟩
    refine ⟨hle7, ?_⟩
    have hle57 := View.le_trans hle6 hle7
    have j7 := hJ.ext j5 hle57
    have hW7 := View.le_trans hW5 (le_grow (h' := h7) (hJ.le j5))
    have pre : (thTo f b ++ rows (phiT f b) (nth f.blocks b).phis.length ++ rows (insT f b) i) ++ [insT f b i] <+: thingsS f := by
     rw [List.append_assoc, ← rows_succ, List.append_assoc]
     refine (pre_app ?_).trans hpre
     exact (pre_app (rows_pre hlti)).trans ⟨_, rfl⟩
    rw [hpt] at pre
    refine do_callv (ops := [.tmp 61, .tmp 62, .tmp 64, .tmp 66]) rfl hg (hstep _ ⟨b, i, makesS x, x.args⟩ _ h7 u7 vq (View.le_trans hVW3 hW7) pre j7 (hu7.mono (fresh_in (ext_size hle6) (View.le_refl _))) (cq.2.mono (grow_mono hle7))) ?_
    rintro _ h8 j8
    exact hK3 () _ _ rfl rfl ⟨_, hW7, by rw [rows_succ, ← List.append_assoc, hpt]; exact j8⟩
   ·rintro _ h5 ⟨W5, hW5, j5⟩
    simp
    rw [hz]; clear hz z
    have hW5h := View.le_trans hW5 (hJ.le j5)
    simp [cellH_mono hW5h bi.1, (bi.2.mono hW5h).len, cellH_mono hW5h ba.1]
    have pre : (thTo f b ++ rows (phiT f b) (nth f.blocks b).phis.length ++ rows (insT f b) (nth f.blocks b).ins.length) ++ [endT f b] <+: thingsS f := by
     rw [List.append_assoc, List.append_assoc, ← List.append_assoc (rows _ _)]
     exact hpre
    refine do_callv (ops := [.tmp 70, .tmp 73, .const (.slice none 0 0), .tmp 76]) rfl hg (hstep _ ⟨b, (nth f.blocks b).ins.length, [], (nth f.blocks b).term.args⟩ _ h5 (.slice none 0 0) va (View.le_trans hVW3 hW5) pre j5 nil_sl (ba.2.mono hW5)) ?_
    rintro _ h6 j6
    refine hK2 () _ _ rfl rfl ⟨_, View.le_trans hVW3 hW5, ?_⟩
    have e : thTo f (b + 1) = (thTo f b ++ rows (phiT f b) (nth f.blocks b).phis.length ++ rows (insT f b) (nth f.blocks b).ins.length) ++ [endT f b] := by
     rw [thTo_succ, thB]; simp [List.append_assoc]
    rw [e]; exact j6
 ·rintro _ h2 ⟨W2, hW2, j2⟩
  simp
  exact hK _ _ ⟨W2, hW2, j2⟩
end Go.Proofs.Ytfelpjfopgiabaa
namespace Go.Proofs.Ytfelpjfopgiabaa
open Go Go.Lft
def topStep (top n : Int) : Int := if withinS n 0 8191 then (if top < n + 1 then n + 1 else top) else top
def topTh (top : Int) (t : Th) : Int := t.mks.foldl topStep top
def topBase (ps : Int) : Int := if 8192 < (if ps < 0 then 0 else ps) then 8192 else (if ps < 0 then 0 else ps)
def topS (f : FuncD) : Int := (thingsS f).foldl topTh (topBase f.params)
theorem topStep_le {top n : Int} (h : 0 ≤ top ∧ top ≤ 8192) : 0 ≤ topStep top n ∧ topStep top n ≤ 8192 := by
 unfold topStep
 split
 ·rename_i hw
  simp only [withinS, Bool.and_eq_true, decide_eq_true_eq] at hw
  split <;> omega
 ·exact h
theorem foldl_inv {α β : Type} (I : β → Prop) {f : β → α → β} (hf : ∀ x a, I x → I (f x a)) : ∀ (l : List α) (x : β), I x → I (l.foldl f x)
 | [], _, h => h
 | a :: l, x, h => foldl_inv I hf l _ (hf x a h)
theorem topTh_le {top : Int} {t : Th} (h : 0 ≤ top ∧ top ≤ 8192) : 0 ≤ topTh top t ∧ topTh top t ≤ 8192 := foldl_inv (fun x => 0 ≤ x ∧ x ≤ 8192) (fun _ _ h => topStep_le h) _ _ h
theorem topBase_le {ps : Int} : 0 ≤ topBase ps ∧ topBase ps ≤ 8192 := by unfold topBase; split <;> split <;> omega
theorem topS_le {f : FuncD} : 0 ≤ topS f ∧ topS f ≤ 8192 := foldl_inv (fun x => 0 ≤ x ∧ x ≤ 8192) (fun _ _ h => topTh_le h) _ _ topBase_le
structure Nv (D : Nat) (T : TypeId) (x : Int) (W : View) (h : Heap) : Prop where
 le : W.le (vw h)
 av : W D = none
 cell : h[D]? = some (.cells #[.int .i64 x] T (0, 0))
theorem Nv.lt {D : Nat} {T : TypeId} {x : Int} {W : View} {h : Heap} (k : Nv D T x W h) : D < h.size := (Array.getElem?_eq_some_iff.1 k.cell).1
theorem Nv.ext {D : Nat} {T : TypeId} {x : Int} {W : View} {h h' : Heap} (k : Nv D T x W h) (hle : (vw h).le (vw h')) : Nv D T x (grow W h h') h' :=
 ⟨grow_le (View.le_trans k.le hle), by rw [grow_same k.lt]; exact k.av, hle _ _ k.cell⟩
theorem Nv.read {D : Nat} {T : TypeId} {x : Int} {W : View} {h : Heap} (k : Nv D T x W h) : cellH (vw h) ⟨D, 0, none⟩ = some (.int .i64 x) := cellH_blk (show vw h D = _ from k.cell) rfl
theorem Nv.put {po : OP} {P : Program} {t ty : TypeId} {x y : Operand} {us : List (Nat × Value)} {D : Nat} {T : TypeId} {a b : Int} {W : View} {h : Heap} {K : Value → Heap → Prop} (k : Nv D T a W h) (hsz : sizeB P t = some 1) (hx : asg us x = .pointer (some ⟨D, 0, none⟩)) (hy : asg us y = .int .i64 b)
  (hK : ∀ h', Nv D T b W h' → K undef h') : Lft.step P (.store t x y) ty us h K := by
 refine do_store (g := D) (o := 0) (n := 1) (v := .int .i64 b) hsz hx hy rfl (by simp [Value.oneCell']) k.cell (by simp) fun h' hs ⟨row, hr, he⟩ ho => hK h' ⟨fun c o hc => ?_, k.av, ?_⟩
 ·have hne : c ≠ D := fun e => by rw [e, k.av] at hc; cases hc
  show h'[c]? = _
  rw [ho c hne]; exact k.le c o hc
 ·rw [one_cell rfl rfl he] at hr; exact hr
theorem top1_ok {D : Nat} {x blk place : Int} {ms : List Int} {vm vt : Value} {W : View} {h : Heap} (k : Nv D T.int x W h) (hx : 0 ≤ x ∧ x ≤ 8192) (hm : SlRd W vm ms) :
  HCalls Try.prog N.check_Top_1 #[.int .i64 blk, .int .i64 place, vm, vt, .pointer (some ⟨D, 0, none⟩)] h (fun _ h2 => Nv D T.int (ms.foldl topStep x) W h2) := by
 refine calls_lift (args := [.int .i64 blk, .int .i64 place, vm, vt, .pointer (some ⟨D, 0, none⟩)]) follows F.check_Top_1 E.check_Top_1 (Nat.le_of_ble_eq_true (by kernel_rfl)) fun K hK => ?_
 have bm := hm.bound
 simp [L.check_Top_1, (hm.mono k.le).len]
 refine lwp_range [4, 11, 12, 13] (fun (_ : Unit) i => [.pointer (some ⟨D, 0, none⟩), vm, .int .i64 ms.length, .int .i64 i]) (fun _ i h1 => Nv D T.int ((ms.take i).foldl topStep x) W h1) ms.length ()
  rfl (by omega) rfl k (fun _ _ => rfl) (fun v i h1 hk m => by simp) ?_ ?_
 ·rintro _ i h1 hlt k1 K2 hK2
  have hm1 := hm.mono k1.le
  have hst : (ms.take (i + 1)).foldl topStep x = topStep ((ms.take i).foldl topStep x) (nth ms i) := by
   rw [List.take_succ_eq_append_getElem hlt, List.foldl_append, nth_eq hlt]; rfl
  have hb := foldl_inv (f := topStep) (fun x => 0 ≤ x ∧ x ≤ 8192) (fun _ _ h => topStep_le h) (ms.take i) x hx
  generalize (ms.take i).foldl topStep x = y at k1 hst hb
  refine lwp_hide fun z hz => ?_
  simp (disch := omega) [hm1.idx1 rfl, hm1.int (View.le_refl _)]
  rw [hz]; clear hz z
  refine lwp_hide fun z hz => ?_
  simp
  refine call_to (by kernel_rfl) within_ok ?_
  rintro _ _ ⟨rfl, rfl⟩
  rw [hz]; clear hz z
  cases hw : withinS (nth ms i) 0 8191 with
  | false =>
   simp
   exact hK2 () _ _ rfl rfl (by rw [hst, topStep, hw]; exact k1)
  | true =>
   have hw' := hw
   simp only [withinS, Bool.and_eq_true, decide_eq_true_eq] at hw'
   simp (disch := omega) [k1.read]
   refine k1.put (by kernel_rfl) rfl rfl fun h2 k2 => ?_
   exact hK2 () _ _ rfl rfl (by rw [hst, topStep, hw]; exact k2)
 ·rintro _ h1 k1
  rw [List.take_length] at k1
  simp
  exact hK _ _ k1
theorem top_ok {f : FuncD} {v : Value} {h : Heap} (hv : Rd (vw h) v f) (hsm : SmF f) : HCalls Try.prog N.check_Top #[v] h (fun u h' => u = .int .i64 (topS f) ∧ (vw h).le (vw h')) := by
 refine calls_lift (args := [v]) follows F.check_Top E.check_Top (Nat.le_of_ble_eq_true (by kernel_rfl)) fun K hK => ?_
 dsimp only [L.check_Top]
 refine lwp_hide fun z hz => ?_
 simp
 refine do_boxT rfl hv fun h1 e1 hle1 hs1 hat => ?_
 obtain ⟨cp, vb, cb⟩ := at_funcB hat
 obtain ⟨u, hu, hur⟩ := hat.loads rfl
 have hu : Un.ev (vw h1) (.loads 2) (.pointer (some ⟨h.size, 0, none⟩)) = some u := hu
 generalize h.size = B at cp cb hu
 rw [hz]; clear hz z
 refine lwp_hide fun z hz => ?_
 simp [cp]
 refine do_newV (n := 1) (z := .int .i64 0) (v := .int .i64 (topBase f.params)) (by kernel_rfl) rfl (by kernel_rfl) rfl (by simp [Value.oneCell']) (fun _ => by simp) (fun _ => by simp [topBase]) fun h2 hle2 hs2 hb2 => ?_
 have hu2 : Un.ev (vw h2) (.loads 2) (.pointer (some ⟨B, 0, none⟩)) = some u := by
  have := ev_mono (ρ := fun _ => none) (e := .un (.loads 2) (.con (.pointer (some ⟨B, 0, none⟩)))) hle2 (v := u) (by simpa using hu)
  simpa using this
 rw [hz]; clear hz z
 refine lwp_hide fun z hz => ?_
 simp [hu2]
 have hN : Nv h1.size T.int (topBase f.params) (vw h1) h2 := ⟨hle2, by simp [vw], hb2⟩
 refine call_to (by kernel_rfl) (things_ok (caps := [.pointer (some ⟨h1.size, 0, none⟩)]) (J := fun l W h => Nv h1.size T.int (l.foldl topTh (topBase f.params)) W h) hur hsm ⟨fun k => k.le, fun k hle => k.ext hle⟩ (by kernel_rfl) hN fun l t W h3 vm vt hVW _ k hm ht => ?_) ?_
 ·have := foldl_inv (f := topTh) (fun x => 0 ≤ x ∧ x ≤ 8192) (fun _ _ h => topTh_le h) l _ (topBase_le (ps := f.params))
  refine (top1_ok k this hm).mono fun _ h4 k4 => ?_
  rw [List.foldl_append]; exact k4
 ·rintro _ h3 ⟨W, hVW, k⟩
  rw [hz]; clear hz z
  simp [k.read]
  exact hK _ _ ⟨rfl, View.le_trans hle1 (View.le_trans hVW k.le)⟩
def inc64 (x : Int) : Int := IntKind.i64.wrap (x + 1)
def useStep (l : List Int) (n : Int) : List Int := if withinS n 0 ((l.length : Int) - 1) then l.set n.toNat (inc64 (nth l n.toNat)) else l
def useTh (l : List Int) (t : Th) : List Int := t.tks.foldl useStep l
def usedS (f : FuncD) : List Int := (thingsS f).foldl useTh (List.replicate (topS f).toNat 0)
theorem useStep_len {l : List Int} {n : Int} : (useStep l n).length = l.length := by unfold useStep; split <;> simp
theorem useTh_len {l : List Int} {t : Th} : (useTh l t).length = l.length := foldl_inv (f := useStep) (fun x : List Int => x.length = l.length) (fun _ _ h => useStep_len.trans h) _ _ rfl
theorem i64_rng {x : Int} : -9223372036854775808 ≤ IntKind.i64.wrap x ∧ IntKind.i64.wrap x ≤ 9223372036854775807 := by
 rw [IntKind.wrap_i64]; omega
structure Us (D : Nat) (vo : Value) (l : List Int) (W : View) (h : Heap) : Prop where
 le : W.le (vw h)
 av : Av W vo
 own : OwnT nothing h T.int vo l
 box : cellH W ⟨D, 0, none⟩ = some vo
theorem Us.ext {D : Nat} {vo : Value} {l : List Int} {W : View} {h h' : Heap} (k : Us D vo l W h) (hle : (vw h).le (vw h')) : Us D vo l (grow W h h') h' :=
 ⟨grow_le (View.le_trans k.le hle), k.av.grow fun b hb => k.own.lt hb, k.own.ext hle, cellH_mono (le_grow k.le) k.box⟩
theorem Us.now {D : Nat} {vo : Value} {l : List Int} {W : View} {h : Heap} (k : Us D vo l W h) : SlRd (vw h) vo l := k.own.now nothing_le
theorem uses1_ok {D : Nat} {blk place : Int} {vo vm vt : Value} {l ts : List Int} {W : View} {h : Heap} (k : Us D vo l W h) (ht : SlRd W vt ts) :
  HCalls Try.prog N.check_Uses_1 #[.int .i64 blk, .int .i64 place, vm, vt, .pointer (some ⟨D, 0, none⟩)] h (fun _ h2 => Us D vo (ts.foldl useStep l) W h2) := by
 refine calls_lift (args := [.int .i64 blk, .int .i64 place, vm, vt, .pointer (some ⟨D, 0, none⟩)]) follows F.check_Uses_1 E.check_Uses_1 (Nat.le_of_ble_eq_true (by kernel_rfl)) fun K hK => ?_
 have bm := ht.bound
 simp [L.check_Uses_1, (ht.mono k.le).len]
 refine lwp_range [4, 11, 12, 13] (fun (_ : Unit) i => [.pointer (some ⟨D, 0, none⟩), vt, .int .i64 ts.length, .int .i64 i]) (fun _ i h1 => Us D vo ((ts.take i).foldl useStep l) W h1) ts.length ()
  rfl (by omega) rfl k (fun _ _ => rfl) (fun v i h1 hk m => by simp) ?_ ?_
 ·rintro _ i h1 hlt k1 K2 hK2
  have hm1 := ht.mono k1.le
  have hst : (ts.take (i + 1)).foldl useStep l = useStep ((ts.take i).foldl useStep l) (nth ts i) := by
   rw [List.take_succ_eq_append_getElem hlt, List.foldl_append, nth_eq hlt]; rfl
  generalize (ts.take i).foldl useStep l = y at k1 hst
  have hy := k1.now
  have yb := hy.bound
  refine lwp_hide fun z hz => ?_
  simp (disch := omega) [hm1.idx1 rfl, hm1.int (View.le_refl _)]
  rw [hz]; clear hz z
  refine lwp_hide fun z hz => ?_
  simp (disch := omega) [cellH_mono k1.le k1.box, hy.len]
  refine call_to (by kernel_rfl) within_ok ?_
  rintro _ _ ⟨rfl, rfl⟩
  rw [hz]; clear hz z
  cases hw : withinS (nth ts i) 0 ((y.length : Int) - 1) with
  | false =>
   simp
   exact hK2 () _ _ rfl rfl (by rw [hst, useStep, hw]; exact k1)
  | true =>
   have hw' := hw
   simp only [withinS, Bool.and_eq_true, decide_eq_true_eq] at hw'
   simp (disch := omega) [cellH_mono k1.le k1.box, hy.idx1 rfl, hy.int (View.le_refl _)]
   refine do_set (W := nothing) (i := (nth ts i).toNat) (d := inc64 (nth y (nth ts i).toNat)) (by kernel_rfl) (by simp [show Rep.n Int = 1 from rfl]) (by simp [inc64] <;> rfl) k1.own (by omega) (rd_int.2 ⟨rfl, i64_rng⟩) fun h2 o2 m2 => ?_
   refine hK2 () _ _ rfl rfl ?_
   rw [hst, useStep, hw]
   exact ⟨(m2.view k1.le k1.av).1, k1.av, o2, k1.box⟩
 ·rintro _ h1 k1
  rw [List.take_length] at k1
  simp
  exact hK _ _ k1
theorem uses2_ok {f : FuncD} {v : Value} {h : Heap} (hv : Rd (vw h) v f) (hsm : SmF f) : HCalls Try.prog N.check_Uses #[v] h (fun u h' => (vw h).le (vw h') ∧ SlRd (fresh h h') u (usedS f)) := by
 refine calls_lift (args := [v]) follows F.check_Uses E.check_Uses (Nat.le_of_ble_eq_true (by kernel_rfl)) fun K hK => ?_
 dsimp only [L.check_Uses]
 refine lwp_hide fun z hz => ?_
 simp
 refine do_boxT rfl hv fun h1 e1 hle1 hs1 hat => ?_
 obtain ⟨u, hu, hur⟩ := hat.loads rfl
 have hu : Un.ev (vw h1) (.loads 2) (.pointer (some ⟨h.size, 0, none⟩)) = some u := hu
 generalize h.size = B at hu
 rw [hz]; clear hz z
 refine lwp_hide fun z hz => ?_
 simp [hu]
 refine call_to (by kernel_rfl) (top_ok hur hsm) ?_
 rintro _ h2 ⟨rfl, hle2⟩
 have ht := topS_le (f := f)
 obtain ⟨n, hn⟩ := Int.eq_ofNat_of_zero_le ht.1
 refine Mine.made (k := .i64) (V := nothing) (W := nothing) (h0 := h) (n := n) (d := (0 : Int)) El.s_int (View.le_trans hle1 hle2) nothing_le (Old.nothing _ _) (by simp [hn]) (by simp [hn]) ⟨rfl, by omega, by omega⟩ (by omega) (by omega) fun vo h3 m3 hle3 hb3 => ?_
 obtain ⟨hvc, hvo⟩ := cells_of_own m3.own
 refine do_newV (n := 1) (z := .slice none 0 0) (v := vo) (by kernel_rfl) rfl (by kernel_rfl) (by rw [hvc]; rfl) (by rw [hvc]; simpa using hvo) (fun _ => by simp) (fun _ => by simp) fun h4 hle4 hs4 hb4 => ?_
 have hle14 := View.le_trans hle2 (View.le_trans hle3 hle4)
 have hu4 : Un.ev (vw h4) (.loads 2) (.pointer (some ⟨B, 0, none⟩)) = some u := by
  have := ev_mono (ρ := fun _ => none) (e := .un (.loads 2) (.con (.pointer (some ⟨B, 0, none⟩)))) hle14 (v := u) (by simpa using hu)
  simpa using this
 rw [hz]; clear hz z
 refine lwp_hide fun z hz => ?_
 simp [hu4]
 have hbut : (but vo h4).le (vw h4) := but_le
 have hs2 : h2.size < h3.size := m3.own.lt hb3
 have hDne : vo.ownBlock ≠ some h3.size := by rw [hb3]; intro e; simp only [Option.some.injEq] at e; omega
 have hrow : usedS f = (thingsS f).foldl useTh (List.replicate n 0) := by rw [usedS, hn]; rfl
 have hU : Us h3.size vo (List.replicate n 0) (but vo h4) h4 := ⟨hbut, but_av, m3.own.ext hle4, cellH_blk (c := #[vo]) (T := T.s_int) (fz := (0, 0)) (by unfold but; rw [if_neg hDne, hb4, hvc]) rfl⟩
 have hur4 : Rd (but vo h4) u f := by
  have := hur.mono (K := but vo h4) (fun b o hb => by
   have hlt := View.lt (View.le_refl (vw h1)) hb
   have h4b := hle14 b o hb
   unfold but
   rw [if_neg]
   ·exact h4b
   ·rw [hb3]; intro e; simp only [Option.some.injEq] at e; have := ext_size hle2; omega)
  exact this
 refine call_to (by kernel_rfl) (things_ok (caps := [.pointer (some ⟨h3.size, 0, none⟩)]) (J := fun l W h => Us h3.size vo (l.foldl useTh (List.replicate n 0)) W h) hur4 hsm ⟨fun k => k.le, fun k hle => k.ext hle⟩ (by kernel_rfl) hU fun l t W h5 vm vt hVW _ k hm ht => ?_) ?_
 ·refine (uses1_ok k ht).mono fun _ h6 k6 => ?_
  rw [List.foldl_append]; exact k6
 ·rintro _ h5 ⟨W, hVW, k⟩
  rw [hz]; clear hz z
  simp [cellH_mono k.le k.box]
  have hle : (vw h).le (vw h5) := fun b o hb => by
   have hlt := View.lt (View.le_refl (vw h)) hb
   refine k.le b o (hVW b o ?_)
   unfold but
   rw [if_neg]
   ·exact View.le_trans hle1 hle14 b o hb
   ·rw [hb3]; intro e; simp only [Option.some.injEq] at e; have := ext_size hle2; omega
  refine hK _ _ ⟨hle, ?_⟩
  rw [hrow]
  refine k.own.fresh (fun _ _ h => by cases h) fun b hb => ?_
  rw [hb3] at hb; cases hb
  exact View.none_of_ge (View.le_refl _) (by have := ext_size hle2; omega)
end Go.Proofs.Ytfelpjfopgiabaa
namespace Go.Proofs.Ytfelpjfopgiabaa
open Go Go.Lft
theorem mem_rows {β : Type} {x : Nat → β} {n : Nat} {y : β} : y ∈ rows x n ↔ ∃ i, i < n ∧ y = x i := by
 simp only [rows, List.mem_map, List.mem_range]
 exact ⟨fun ⟨i, h, e⟩ => ⟨i, h, e.symm⟩, fun ⟨i, h, e⟩ => ⟨i, h, e.symm⟩⟩
theorem mem_thTo {f : FuncD} {n : Nat} {t : Th} : t ∈ thTo f n ↔ ∃ b, b < n ∧ t ∈ thB f b := by
 induction n with
 | zero => simp [thTo, up]
 | succ n ih =>
  rw [thTo_succ, List.mem_append, ih]
  constructor
  ·rintro (⟨b, h1, h2⟩ | h)
   ·exact ⟨b, by omega, h2⟩
   ·exact ⟨n, by omega, h⟩
  ·rintro ⟨b, h1, h2⟩
   rcases Nat.lt_or_ge b n with h | h
   ·exact .inl ⟨b, h, h2⟩
   ·rw [show b = n by omega] at h2; exact .inr h2
theorem mem_thB {f : FuncD} {b : Nat} {t : Th} : t ∈ thB f b ↔ (∃ i, i < (nth f.blocks b).phis.length ∧ t = phiT f b i) ∨ (∃ i, i < (nth f.blocks b).ins.length ∧ t = insT f b i) ∨ t = endT f b := by
 simp only [thB, List.mem_append, mem_rows, List.mem_singleton, or_assoc]
theorem makesS_len {i : InsD} : (makesS i).length ≤ 2 := by unfold makesS; split <;> (try split) <;> simp
structure ThOk (f : FuncD) (t : Th) : Prop where
 blk : 0 ≤ t.blk ∧ t.blk < f.blocks.length
 place : -10000 ≤ t.place ∧ t.place ≤ 10000
 mks : t.mks.length ≤ 10000
 tks : t.tks.length ≤ 10000
 ins : 0 ≤ t.place → t.mks ≠ [] → t.place < (nth f.blocks t.blk.toNat).ins.length
theorem thing_ok {f : FuncD} (hsm : SmF f) {t : Th} (h : t ∈ thingsS f) : ThOk f t := by
 obtain ⟨b, hb, h⟩ := mem_thTo.1 h
 have s := hsm.blk b hb
 have sp := s.phis
 have si := s.ins
 rcases mem_thB.1 h with ⟨i, hi, rfl⟩ | ⟨i, hi, rfl⟩ | rfl
 ·exact ⟨⟨by simp [phiT], by simp [phiT]; omega⟩, by simp only [phiT]; omega, by simp [phiT], by simpa [phiT] using s.phi i hi, fun h => by simp only [phiT] at h; omega⟩
 ·refine ⟨⟨by simp [insT], by simp [insT]; omega⟩, by simp only [insT]; omega, Nat.le_trans makesS_len (by decide), s.inn i hi, fun _ _ => by simp [insT]; omega⟩
 ·exact ⟨⟨by simp [endT], by simp [endT]; omega⟩, by simp only [endT]; omega, by simp [endT], s.args, fun _ h => absurd rfl h⟩
theorem thTo_len {f : FuncD} (hsm : SmF f) : ∀ {n : Nat}, n ≤ f.blocks.length → (thTo f n).length ≤ n * 20001
 | 0, _ => by simp [thTo, up]
 | n + 1, h => by
  have ih := thTo_len hsm (n := n) (by omega)
  have s := hsm.blk n (by omega)
  have sp := s.phis
  have si := s.ins
  rw [thTo_succ, List.length_append, thB]
  simp only [List.length_append, rows_len, List.length_singleton]
  omega
theorem things_len {f : FuncD} (hsm : SmF f) : (thingsS f).length ≤ 200010000 := by
 have := thTo_len hsm (Nat.le_refl f.blocks.length)
 have := hsm.len
 unfold thingsS; omega
abbrev WL := List (Int × Int)
def whereStep (val : Int) (w : Int × Int) (l : WL) (n : Int) : WL := if n = val then l ++ [w] else l
def madeTh (val : Int) (l : WL) (t : Th) : WL := t.mks.foldl (whereStep val (t.blk, t.place)) l
def takenTh (val : Int) (l : WL) (t : Th) : WL := t.tks.foldl (whereStep val (t.blk, t.place)) l
theorem whereStep_len {val : Int} {w : Int × Int} {ns : List Int} : ∀ {l : WL}, (ns.foldl (whereStep val w) l).length ≤ l.length + ns.length := by
 induction ns with
 | nil => simp
 | cons n ns ih =>
  intro l
  rw [List.foldl_cons]
  have := ih (l := whereStep val w l n)
  have h2 : (whereStep val w l n).length ≤ l.length + 1 := by unfold whereStep; split <;> simp
  simp only [List.length_cons]; omega
theorem foldTh_len {F : WL → Th → WL} {c : Nat} {l : List Th} (h : ∀ t ∈ l, ∀ x, (F x t).length ≤ x.length + c) : ∀ (x : WL), (l.foldl F x).length ≤ x.length + l.length * c := by
 induction l with
 | nil => simp
 | cons t l ih =>
  intro x
  rw [List.foldl_cons]
  have h1 := ih (fun t ht => h t (List.mem_cons_of_mem _ ht)) (F x t)
  have h2 := h t (List.mem_cons_self ..) x
  simp only [List.length_cons, Nat.succ_mul]; omega
def foldOwn (B1 : Nat) (v1 : Value) (l1 : WL) (B2 : Nat) (v2 : Value) (l2 : WL) : Own := fun k =>
 if k = (0, 0) then bx T.s_check_where B1 (Raw.mk v1) else if k = (0, 1) then it T.check_where v1 l1 else if k = (1, 0) then bx T.s_check_where B2 (Raw.mk v2) else if k = (1, 1) then it T.check_where v2 l2 else none
structure Fo (val : Int) (C B1 B2 : Nat) (l1 l2 : WL) (W : View) (h : Heap) : Prop where
 box : cellH W ⟨C, 0, none⟩ = some (.int .i64 val)
 ex : ∃ v1 v2, Owns W h (foldOwn B1 v1 l1 B2 v2 l2)
theorem Fo.le {val : Int} {C B1 B2 : Nat} {l1 l2 : WL} {W : View} {h : Heap} (k : Fo val C B1 B2 l1 l2 W h) : W.le (vw h) := let ⟨_, _, w⟩ := k.ex; w.wle
theorem Fo.ext {val : Int} {C B1 B2 : Nat} {l1 l2 : WL} {W : View} {h h' : Heap} (k : Fo val C B1 B2 l1 l2 W h) (hle : (vw h).le (vw h')) : Fo val C B1 B2 l1 l2 (grow W h h') h' :=
 ⟨cellH_mono (le_grow k.le) k.box, let ⟨v1, v2, w⟩ := k.ex; ⟨v1, v2, w.ext hle⟩⟩
theorem fold1_ok {val blk place : Int} {C B1 B2 : Nat} {l1 l2 : WL} {ms ts : List Int} {vm vt : Value} {W : View} {h : Heap} (k : Fo val C B1 B2 l1 l2 W h) (hm : SlRd W vm ms) (ht : SlRd W vt ts) (r1 : -10000 ≤ blk ∧ blk ≤ 10000) (r2 : -10000 ≤ place ∧ place ≤ 10000)
  (b1 : l1.length + ms.length ≤ 2000100000000) (b2 : l2.length + ts.length ≤ 2000100000000) :
  HCalls Try.prog N.check_Foldable_1 #[.int .i64 blk, .int .i64 place, vm, vt, .pointer (some ⟨C, 0, none⟩), .pointer (some ⟨B1, 0, none⟩), .pointer (some ⟨B2, 0, none⟩)] h
   (fun _ h2 => Fo val C B1 B2 (ms.foldl (whereStep val (blk, place)) l1) (ts.foldl (whereStep val (blk, place)) l2) W h2) := by
 refine calls_lift (args := [.int .i64 blk, .int .i64 place, vm, vt, .pointer (some ⟨C, 0, none⟩), .pointer (some ⟨B1, 0, none⟩), .pointer (some ⟨B2, 0, none⟩)]) follows F.check_Foldable_1 E.check_Foldable_1 (Nat.le_of_ble_eq_true (by kernel_rfl)) fun K hK => ?_
 have bm := hm.bound
 have bt := ht.bound
 dsimp only [L.check_Foldable_1]
 refine lwp_hide fun z hz => ?_
 simp [(hm.mono k.le).len]
 refine lwp_range [0, 1, 3, 4, 5, 6, 15, 16, 17] (fun (_ : Unit) i => [.int .i64 blk, .int .i64 place, vt, .pointer (some ⟨C, 0, none⟩), .pointer (some ⟨B1, 0, none⟩), .pointer (some ⟨B2, 0, none⟩), vm, .int .i64 ms.length, .int .i64 i])
  (fun _ i h1 => Fo val C B1 B2 ((ms.take i).foldl (whereStep val (blk, place)) l1) l2 W h1) ms.length ()
  rfl (by omega) rfl k (fun _ _ => rfl) (fun v i h1 hk m => by simp) ?_ ?_
 ·rintro _ i h1 hlt k1 K2 hK2
  have hm1 := hm.mono k1.le
  have hst : (ms.take (i + 1)).foldl (whereStep val (blk, place)) l1 = whereStep val (blk, place) ((ms.take i).foldl (whereStep val (blk, place)) l1) (nth ms i) := by
   rw [List.take_succ_eq_append_getElem hlt, List.foldl_append, nth_eq hlt]; rfl
  have hlen := whereStep_len (val := val) (w := (blk, place)) (ns := ms.take i) (l := l1)
  rw [List.length_take] at hlen
  generalize (ms.take i).foldl (whereStep val (blk, place)) l1 = y at k1 hst hlen
  refine lwp_hide fun z hz => ?_
  simp (disch := omega) [hm1.idx1 rfl, hm1.int (View.le_refl _)]
  rw [hz]; clear hz z
  refine lwp_hide fun z hz => ?_
  simp [cellH_mono k1.le k1.box]
  rw [hz]; clear hz z
  by_cases he : nth ms i = val
  ·rw [whereStep, if_pos he] at hst
   obtain ⟨v1, v2, w⟩ := k1.ex
   have hbx := (w.at (k := (0, 0)) (d := Raw.mk v1) (B := B1) (e := T.s_check_where) rfl).raw
   simp [he, hbx]
   refine do_build (z := .agg #[.int .i64 0, .int .i64 0]) (places := [(0, 1), (1, 1)]) (vs := [(0, .int .i64 blk), (1, .int .i64 place)]) (cs := #[.int .i64 blk, .int .i64 place]) (by kernel_rfl) (by kernel_rfl) (by simp) (by rfl) ?_
   refine w.do_push (k := (0, 1)) (α := Int × Int) (d := (blk, place)) rfl El.s_check_where rfl (rd_pair.2 ⟨rfl, ⟨by omega, by omega⟩, by omega, by omega⟩) (by omega) (by omega) (fun _ => rfl) (fun _ => rfl) fun u v' h2 w2 hs2 => ?_
   have hc := w2.cells (k := (0, 1)) (Own.upd_self)
   refine w2.do_field (k := (0, 0)) (D := Raw.mk v1) (B := B1) (e := T.s_check_where) (Part.all) (d := Raw.mk v') rfl (by kernel_rfl) rfl rfl (rd_raw.2 ⟨rfl, hc.2⟩) fun h3 w3 hs3 => ?_
   refine hK2 () _ _ rfl rfl ⟨k1.box, v', v2, w3.congr fun q => ?_⟩
   rw [hst]
   unfold foldOwn Own.upd
   repeat' split
   all_goals first | rfl | simp_all
  ·rw [whereStep, if_neg he] at hst
   simp [he]
   exact hK2 () _ _ rfl rfl (by rw [hst]; exact k1)
 ·rintro _ h1 k1
  rw [List.take_length] at k1
  simp
  rw [hz]; clear hz z
  simp [(ht.mono k1.le).len]
  generalize ms.foldl (whereStep val (blk, place)) l1 = m1 at k1 hK
  refine lwp_range [0, 1, 4, 5, 6, 31, 32, 33] (fun (_ : Unit) i => [.int .i64 blk, .int .i64 place, .pointer (some ⟨C, 0, none⟩), .pointer (some ⟨B1, 0, none⟩), .pointer (some ⟨B2, 0, none⟩), vt, .int .i64 ts.length, .int .i64 i])
   (fun _ i h2 => Fo val C B1 B2 m1 ((ts.take i).foldl (whereStep val (blk, place)) l2) W h2) ts.length ()
   rfl (by omega) rfl k1 (fun _ _ => rfl) (fun v i h1 hk m => by simp) ?_ ?_
  ·rintro _ i h2 hlt k2 K2 hK2
   have ht2 := ht.mono k2.le
   have hst : (ts.take (i + 1)).foldl (whereStep val (blk, place)) l2 = whereStep val (blk, place) ((ts.take i).foldl (whereStep val (blk, place)) l2) (nth ts i) := by
    rw [List.take_succ_eq_append_getElem hlt, List.foldl_append, nth_eq hlt]; rfl
   have hlen := whereStep_len (val := val) (w := (blk, place)) (ns := ts.take i) (l := l2)
   rw [List.length_take] at hlen
   generalize (ts.take i).foldl (whereStep val (blk, place)) l2 = y at k2 hst hlen
   refine lwp_hide fun z hz => ?_
   simp (disch := omega) [ht2.idx1 rfl, ht2.int (View.le_refl _)]
   rw [hz]; clear hz z
   refine lwp_hide fun z hz => ?_
   simp [cellH_mono k2.le k2.box]
   rw [hz]; clear hz z
   by_cases he : nth ts i = val
   ·rw [whereStep, if_pos he] at hst
    obtain ⟨v1, v2, w⟩ := k2.ex
    have hbx := (w.at (k := (1, 0)) (d := Raw.mk v2) (B := B2) (e := T.s_check_where) rfl).raw
    simp [he, hbx]
    refine do_build (z := .agg #[.int .i64 0, .int .i64 0]) (places := [(0, 1), (1, 1)]) (vs := [(0, .int .i64 blk), (1, .int .i64 place)]) (cs := #[.int .i64 blk, .int .i64 place]) (by kernel_rfl) (by kernel_rfl) (by simp) (by rfl) ?_
    refine w.do_push (k := (1, 1)) (α := Int × Int) (d := (blk, place)) rfl El.s_check_where rfl (rd_pair.2 ⟨rfl, ⟨by omega, by omega⟩, by omega, by omega⟩) (by omega) (by omega) (fun _ => rfl) (fun _ => rfl) fun u v' h3 w2 hs2 => ?_
    have hc := w2.cells (k := (1, 1)) (Own.upd_self)
    refine w2.do_field (k := (1, 0)) (D := Raw.mk v2) (B := B2) (e := T.s_check_where) (Part.all) (d := Raw.mk v') rfl (by kernel_rfl) rfl rfl (rd_raw.2 ⟨rfl, hc.2⟩) fun h4 w3 hs3 => ?_
    refine hK2 () _ _ rfl rfl ⟨k2.box, v1, v', w3.congr fun q => ?_⟩
    rw [hst]
    unfold foldOwn Own.upd
    repeat' split
    all_goals first | rfl | simp_all
   ·rw [whereStep, if_neg he] at hst
    simp [he]
    exact hK2 () _ _ rfl rfl (by rw [hst]; exact k2)
  ·rintro _ h2 k2
   rw [List.take_length] at k2
   simp
   exact hK _ _ k2
def madeL (val : Int) (l : List Th) : WL := l.foldl (madeTh val) []
def takenL (val : Int) (l : List Th) : WL := l.foldl (takenTh val) []
def foldBad (l1 l2 : WL) : Bool := !decide (l1.length = 1) || !decide (l2.length = 1) || decide ((nth l1 0).2 < 0) || !decide ((nth l1 0).1 = (nth l2 0).1) || decide ((nth l2 0).2 ≤ (nth l1 0).2)
def foldable1 (f : FuncD) (val : Int) (l1 l2 : WL) : Bool := !foldBad l1 l2 && (decide ((nth (nth f.blocks (nth l1 0).1.toNat).ins (nth l1 0).2.toNat).dst = val) && [1, 2, 4, 11, 12, 13].contains (nth (nth f.blocks (nth l1 0).1.toNat).ins (nth l1 0).2.toNat).op)
def foldableS (f : FuncD) (val : Int) : Bool := foldable1 f val (madeL val (thingsS f)) (takenL val (thingsS f))
theorem mem_whereFold {val : Int} {w x : Int × Int} {ns : List Int} : ∀ {l : WL}, x ∈ ns.foldl (whereStep val w) l ↔ x ∈ l ∨ (x = w ∧ val ∈ ns) := by
 induction ns with
 | nil => simp
 | cons n ns ih =>
  intro l
  rw [List.foldl_cons, ih, whereStep]
  grind
theorem mem_foldMade {val : Int} {x : Int × Int} {l : List Th} : ∀ {y : WL}, x ∈ l.foldl (madeTh val) y ↔ x ∈ y ∨ ∃ t ∈ l, x = (t.blk, t.place) ∧ val ∈ t.mks := by
 induction l with
 | nil => simp
 | cons t l ih =>
  intro y
  rw [List.foldl_cons, ih, madeTh, mem_whereFold]
  simp only [List.mem_cons, exists_eq_or_imp]
  constructor
  ·rintro ((h | h) | h)
   ·exact .inl h
   ·exact .inr (.inl h)
   ·exact .inr (.inr h)
  ·rintro (h | h | h)
   ·exact .inl (.inl h)
   ·exact .inl (.inr h)
   ·exact .inr h
theorem foldable_ok {f : FuncD} {v : Value} {val : Int} {h : Heap} (hv : Rd (vw h) v f) (hsm : SmF f) (hval : I64 val) : HCalls Try.prog N.check_Foldable #[v, .int .i64 val] h (fun u h' => u = .bool (foldableS f val) ∧ (vw h).le (vw h')) := by
 refine calls_lift (args := [v, .int .i64 val]) follows F.check_Foldable E.check_Foldable (Nat.le_of_ble_eq_true (by kernel_rfl)) fun K hK => ?_
 dsimp only [L.check_Foldable]
 refine lwp_hide fun z hz => ?_
 simp
 refine do_boxT rfl hv fun h1 e1 hle1 hs1 hat => ?_
 refine do_boxT (α := Int) rfl (rd_int.2 ⟨rfl, hval⟩) fun h2 e2 hle2 hs2 hat2 => ?_
 have hatf := hat.mono hle2
 obtain ⟨u, hu, hur⟩ := hatf.loads rfl
 have hu : Un.ev (vw h2) (.loads 2) (.pointer (some ⟨h.size, 0, none⟩)) = some u := hu
 obtain ⟨cp, vb, cb⟩ := at_funcB hatf
 have cval := hat2.int
 generalize hB : h.size = B at hu cp cb
 generalize hC : h1.size = C at cval
 rw [hz]; clear hz z
 refine lwp_hide fun z hz => ?_
 simp
 refine do_alloc (z := .slice none 0 0) (by kernel_rfl) ?_
 refine do_alloc (z := .slice none 0 0) (by kernel_rfl) ?_
 have q1 := push_le h2 (.cells (Value.slice none 0 0).cells T.s_check_where)
 generalize e3 : h2.push (.cells (Value.slice none 0 0).cells T.s_check_where) = h3 at q1
 have b3 : h3[h2.size]? = some (.cells (Value.slice none 0 0).cells T.s_check_where (0, 0)) := by rw [← e3]; simp
 have s3 : h3.size = h2.size + 1 := by rw [← e3]; simp
 have q2 := push_le h3 (.cells (Value.slice none 0 0).cells T.s_check_where)
 generalize e4 : h3.push (.cells (Value.slice none 0 0).cells T.s_check_where) = h4 at q2
 have b4 : h4[h3.size]? = some (.cells (Value.slice none 0 0).cells T.s_check_where (0, 0)) := by rw [← e4]; simp
 have hle24 := View.le_trans q1 q2
 have w0 : Owns (vw h2) h4 (foldOwn h2.size (.slice none 0 0) [] h3.size (.slice none 0 0) []) := by
  have w1 := (Owns.start (h := h2) (View.le_refl (vw h2))).add (k := (0, 0)) rfl (ownT_box (h := h3) (e := T.s_check_where) (d := Raw.mk (.slice none 0 0)) b3 (rd_raw.2 ⟨rfl, rfl⟩) (by decide)) q1 (fun b hb => by simp only [Value.ownBlock, Option.some.injEq] at hb; omega)
  have w2 := w1.add (k := (1, 0)) rfl (ownT_box (h := h4) (e := T.s_check_where) (d := Raw.mk (.slice none 0 0)) b4 (rd_raw.2 ⟨rfl, rfl⟩) (by decide)) q2 (fun b hb => by simp only [Value.ownBlock, Option.some.injEq] at hb; omega)
  have w3 := w2.add (k := (0, 1)) rfl (OwnT.nil (α := Int × Int) (vw h2) h4 T.check_where) (View.le_refl _) (fun b hb => by simp [Value.ownBlock] at hb)
  have w4 := w3.add (k := (1, 1)) rfl (OwnT.nil (α := Int × Int) (vw h2) h4 T.check_where) (View.le_refl _) (fun b hb => by simp [Value.ownBlock] at hb)
  refine w4.congr fun q => ?_
  unfold foldOwn Own.upd
  repeat' split
  all_goals first | rfl | simp_all
 have k0 : Fo val C h2.size h3.size [] [] (vw h2) h4 := ⟨cval, _, _, w0⟩
 have hu4 : Un.ev (vw h4) (.loads 2) (.pointer (some ⟨B, 0, none⟩)) = some u := by
  have := ev_mono (ρ := fun _ => none) (e := .un (.loads 2) (.con (.pointer (some ⟨B, 0, none⟩)))) hle24 (v := u) (by simpa using hu)
  simpa using this
 generalize h2.size = B1 at k0
 generalize h3.size = B2 at k0
 rw [hz]; clear hz z
 refine lwp_hide fun z hz => ?_
 simp [hu4]
 have hml := things_len hsm
 refine call_to (by kernel_rfl) (things_ok (caps := [.pointer (some ⟨C, 0, none⟩), .pointer (some ⟨B1, 0, none⟩), .pointer (some ⟨B2, 0, none⟩)]) (J := fun l W h => Fo val C B1 B2 (madeL val l) (takenL val l) W h) hur hsm ⟨fun k => k.le, fun k hle => k.ext hle⟩ (by kernel_rfl) k0 fun l t W h5 vm vt hVW hpre k hm ht => ?_) ?_
 ·have hmem : ∀ x ∈ l ++ [t], ThOk f x := fun x hx => thing_ok hsm (hpre.subset hx)
  have hll := hpre.length_le
  rw [List.length_append, List.length_singleton] at hll
  have ot := hmem t (by simp)
  have hl := hsm.len
  have c1 := foldTh_len (F := madeTh val) (c := 10000) (l := l) (fun t ht x => Nat.le_trans whereStep_len (Nat.add_le_add_left (hmem t (by simp [ht])).mks _)) []
  have c2 := foldTh_len (F := takenTh val) (c := 10000) (l := l) (fun t ht x => Nat.le_trans whereStep_len (Nat.add_le_add_left (hmem t (by simp [ht])).tks _)) []
  have c1' : (madeL val l).length ≤ l.length * 10000 := by simpa [madeL] using c1
  have c2' : (takenL val l).length ≤ l.length * 10000 := by simpa [takenL] using c2
  have o1 := ot.mks
  have o2 := ot.tks
  have ob := ot.blk
  refine (fold1_ok k hm ht (by omega) ot.place (by omega) (by omega)).mono fun _ h6 k6 => ?_
  have e1 : madeL val (l ++ [t]) = t.mks.foldl (whereStep val (t.blk, t.place)) (madeL val l) := by rw [madeL, List.foldl_append]; rfl
  have e2 : takenL val (l ++ [t]) = t.tks.foldl (whereStep val (t.blk, t.place)) (takenL val l) := by rw [takenL, List.foldl_append]; rfl
  simp only [e1, e2]; exact k6
 ·rintro _ h5 ⟨W, hVW, k⟩
  have hin : ∀ w ∈ madeL val (thingsS f), 0 ≤ w.1 ∧ w.1 < f.blocks.length ∧ (0 ≤ w.2 → w.2 < (nth f.blocks w.1.toNat).ins.length) := by
   intro w hw
   rcases mem_foldMade.1 hw with h | ⟨t, ht, rfl, hv⟩
   ·cases h
   ·have ot := thing_ok hsm ht
    exact ⟨ot.blk.1, ot.blk.2, fun h => ot.ins h (fun e => by rw [e] at hv; cases hv)⟩
  have hfs : foldableS f val = foldable1 f val (madeL val (thingsS f)) (takenL val (thingsS f)) := rfl
  rw [hfs] at hK
  generalize madeL val (thingsS f) = l1 at k hin hK
  generalize takenL val (thingsS f) = l2 at k hK
  obtain ⟨v1, v2, w⟩ := k.ex
  have hb1 := (w.at (k := (0, 0)) (d := Raw.mk v1) (B := B1) (e := T.s_check_where) rfl).raw
  have hb2 := (w.at (k := (1, 0)) (d := Raw.mk v2) (B := B2) (e := T.s_check_where) rfl).raw
  have n1 := w.now (k := (0, 1)) (v := v1) (l := l1) rfl
  have n2 := w.now (k := (1, 1)) (v := v2) (l := l2) rfl
  have hle5 := View.le_trans hVW w.wle
  have hle := View.le_trans hle1 (View.le_trans hle2 hle5)
  have cb5 := cb.2.mono hle5
  have cc5 := cellH_mono hle5 cb.1
  have cv5 := cellH_mono hle5 cval
  rw [hz]; clear hz z
  refine lwp_hide fun z hz => ?_
  have no : foldBad l1 l2 = true → K (.bool false) h5 := fun e => hK _ _ ⟨by rw [foldable1, e]; rfl, hle⟩
  by_cases hA : l1.length = 1
  ·by_cases hB2 : l2.length = 1
   ·have i1 : ∀ kd, Bn.ev (.idx 2) v1 (.int kd 0) = some (.pointer (some (slA v1))) := fun kd => by
     have := n1.idxn (N := 2) rfl (k := kd) (i := 0) (by omega) (by omega)
     simpa [Addr.add] using this
    have i2 : ∀ kd, Bn.ev (.idx 2) v2 (.int kd 0) = some (.pointer (some (slA v2))) := fun kd => by
     have := n2.idxn (N := 2) rfl (k := kd) (i := 0) (by omega) (by omega)
     simpa [Addr.add] using this
    obtain ⟨a0, a1⟩ := n1.pair_at (View.le_refl _) (i := 0) (by omega)
    obtain ⟨d0, d1⟩ := n2.pair_at (View.le_refl _) (i := 0) (by omega)
    have z1 : ∀ a : Addr, a.add (0 * 2) = a := fun a => by simp [Addr.add]
    rw [z1] at a0 a1 d0 d1
    have hw := hin (nth l1 0) (nth_mem (by omega))
    have hbad : foldBad l1 l2 = (decide ((nth l1 0).2 < 0) || !decide ((nth l1 0).1 = (nth l2 0).1) || decide ((nth l2 0).2 ≤ (nth l1 0).2)) := by simp [foldBad, hA, hB2]
    rw [hbad] at no
    have hfb : foldable1 f val l1 l2 = (!(decide ((nth l1 0).2 < 0) || !decide ((nth l1 0).1 = (nth l2 0).1) || decide ((nth l2 0).2 ≤ (nth l1 0).2)) && (decide ((nth (nth f.blocks (nth l1 0).1.toNat).ins (nth l1 0).2.toNat).dst = val) && [1, 2, 4, 11, 12, 13].contains (nth (nth f.blocks (nth l1 0).1.toNat).ins (nth l1 0).2.toNat).op)) := by rw [foldable1, hbad]
    rw [hfb] at hK
    generalize nth l1 0 = w1 at a0 a1 hw no hK
    generalize nth l2 0 = w2 at d0 d1 no hK
    by_cases c3 : w1.2 < 0
    ·simp [hb1, hb2, n1.len, n2.len, hA, hB2, i1, i2, a0, a1, d0, d1, c3]
     exact no (by simp [c3])
    ·by_cases c4 : w1.1 = w2.1
     ·by_cases c5 : w2.2 ≤ w1.2
      ·simp [hb1, hb2, n1.len, n2.len, hA, hB2, i1, i2, a0, a1, d0, d1, c3, c4, c5]
       exact no (by simp [c5])
      ·have hs : (!(decide (w1.2 < 0) || !decide (w1.1 = w2.1) || decide (w2.2 ≤ w1.2))) = true := by simp [c3, c4, c5]
       rw [hs, Bool.true_and] at hK
       have hw2 := hw.2.2 (by omega)
       obtain ⟨ul, hul⟩ := ((cb5.at (i := w1.1.toNat) (by omega)).part BlkD.p_ins).sl
       rw [← nth_eq (by omega)] at hul
       have hul1 : cellH (vw h5) (((slA vb).add (w1.1.toNat * 6)).add 1) = some ul := hul.1
       obtain ⟨ui, hui, huir⟩ := hul.2.wh rfl (N := 5) rfl (i := w1.2.toNat) (by omega)
       have hli := hul.2
       generalize nth (nth f.blocks w1.1.toNat).ins w1.2.toNat = x at huir hK
       simp [hb1, hb2, n1.len, n2.len, hA, hB2, i1, i2, a0, a1, d0, d1, c3, c5, ← c4]
       rw [hz]; clear hz z
       refine lwp_hide fun z hz => ?_
       have z0 : ∀ a : Addr, a.add 0 = a := fun a => by simp [Addr.add]
       refine drawn_at (vw h5) (View.le_refl _) ?_
       simp (disch := omega) [hb1, i1, a0, a1, cc5, cb5.idxn (N := 6) rfl, hul1, hli.idxn (N := 5) rfl, hui _ (View.le_refl _)]
       refine do_alloc (z := .agg #[.int .i64 0, .int .i64 0, .int .i64 0, .slice none 0 0, .int .i32 0]) (by kernel_rfl) ?_
       have hle6 := push_le h5 (.cells (Value.cells (.agg #[.int .i64 0, .int .i64 0, .int .i64 0, .slice none 0 0, .int .i32 0])) T.api_Ins)
       have hb6 : (h5.push (.cells (Value.cells (.agg #[.int .i64 0, .int .i64 0, .int .i64 0, .slice none 0 0, .int .i32 0])) T.api_Ins))[h5.size]? = some (.cells (Value.cells (.agg #[.int .i64 0, .int .i64 0, .int .i64 0, .slice none 0 0, .int .i32 0])) T.api_Ins (0, 0)) := by simp
       generalize h5.push (.cells (Value.cells (.agg #[.int .i64 0, .int .i64 0, .int .i64 0, .slice none 0 0, .int .i32 0])) T.api_Ins) = h6 at hle6 hb6
       refine ⟨hle6, ?_⟩
       obtain ⟨g1, g2, g3⟩ := rd_cells huir
       refine do_store (g := h5.size) (o := 0) (n := 5) (v := ui) (by kernel_rfl) rfl rfl g2 g3 hb6 (by simp) fun h7 hs7 ⟨row, hr7, he7⟩ ho7 => ?_
       have hrow : row = ui.cells := by
        have g2' : ui.cells.size = 5 := g2
        rw [← Array.toList_inj, he7]; simp
       rw [hrow] at hr7
       have hle7 : (vw h5).le (vw h7) := fun b o hb => by
        have hlt := View.lt (View.le_refl (vw h5)) hb
        show h7[b]? = _
        rw [ho7 b (by omega)]; exact hle6 b o hb
       have hat7 : At (vw h7) ⟨h5.size, 0, none⟩ x := at_new (show vw h7 h5.size = _ from hr7) (huir.mono hle7)
       obtain ⟨q0, q1, _⟩ := at_insB hat7
       have ro := (hat7.part InsD.p_op).rng
       generalize h5.size = D at q0 q1
       rw [hz]; clear hz z
       have cv7 := cellH_mono hle7 cv5
       refine lwp_hide fun z hz => ?_
       by_cases c6 : x.dst = val
       ·simp [q0, q1, cv7, c6]
        refine do_litN (α := Int) (X := nothing) (ds := [1, 2, 4, 11, 12, 13]) (vs := [.int .i64 1, .int .i64 2, .int .i64 4, .int .i64 11, .int .i64 12, .int .i64 13]) rfl El.s_int (by simp) ⟨rd_i (by omega) (by omega), rd_i (by omega) (by omega), rd_i (by omega) (by omega), rd_i (by omega) (by omega), rd_i (by omega) (by omega), rd_i (by omega) (by omega), trivial⟩ nothing_le rfl (by omega) fun u8 h8 hle8 hsz8 hu8 _ => ?_
        simp [cellH_mono hle8 q0]
        refine call_to (by kernel_rfl) (contains_ok (hu8 (vw h8) nothing_le rfl)) ?_
        rintro _ _ ⟨rfl, rfl⟩
        simp
        rw [hz]; clear hz z
        simp
        exact hK _ _ ⟨by simp [c6], View.le_trans hle (View.le_trans hle7 hle8)⟩
       ·simp [q0, q1, cv7, c6]
        rw [hz]; clear hz z
        simp
        exact hK _ _ ⟨by simp [c6], View.le_trans hle hle7⟩
     ·simp [hb1, hb2, n1.len, n2.len, hA, hB2, i1, i2, a0, a1, d0, d1, c3, c4]
      exact no (by simp [c4])
   ·have hB3 : ¬ (l2.length : Int) = 1 := by omega
    simp [hb1, hb2, n1.len, n2.len, hA, hB3]
    exact no (by simp [foldBad, hB2])
  ·have hA3 : ¬ (l1.length : Int) = 1 := by omega
   simp [hb1, hb2, n1.len, n2.len, hA3]
   exact no (by simp [foldBad, hA])
end Go.Proofs.Ytfelpjfopgiabaa
namespace Go.Proofs.Ytfelpjfopgiabaa
open Go Go.Lft
theorem refMakes_ok {d : InsD} {v : Value} {h : Heap} (hd : Rd (vw h) v d) : HCalls Try.prog N.ref03_Makes #[v] h (fun u h' => (vw h).le (vw h') ∧ SlRd (fresh h h') u (makesS d) ∧ (d.op = 16 → u = .slice none 0 0)) := by
 refine calls_lift (args := [v]) follows F.ref03_Makes E.ref03_Makes (Nat.le_of_ble_eq_true (by kernel_rfl)) fun K hK => ?_
 simp [L.ref03_Makes]
 refine do_boxT rfl hd fun h1 _ hle1 hsz1 hat => ?_
 obtain ⟨c0, c1, c2, va, ca⟩ := at_insB hat
 have r1 := (hat.part InsD.p_dst).rng
 have r2 := (hat.part InsD.p_two).rng
 simp [c0]
 refine ⟨fun e1 => hK _ _ ⟨hle1, by simpa [makesS, e1] using nil_sl, fun _ => rfl⟩, fun e1 => ⟨fun e2 => ?_, fun e2 => ?_⟩⟩
 ·simp [c1, c2]
  refine do_litN (X := nothing) (ds := [d.dst, d.two]) (vs := [.int .i64 d.dst, .int .i64 d.two]) rfl El.s_int (by simp) ⟨rd_int.2 ⟨rfl, r1⟩, rd_int.2 ⟨rfl, r2⟩, trivial⟩ nothing_le rfl (by omega) fun u h2 hle2 hsz2 hu _ => ?_
  exact hK _ _ ⟨View.le_trans hle1 hle2, by simpa [makesS, e2] using hu _ nothing_le (by unfold fresh; rw [if_neg (by omega)]), fun e => absurd e e1⟩
 ·simp [c1]
  refine do_litN (X := nothing) (ds := [d.dst]) (vs := [.int .i64 d.dst]) rfl El.s_int (by simp) ⟨rd_int.2 ⟨rfl, r1⟩, trivial⟩ nothing_le rfl (by omega) fun u h2 hle2 hsz2 hu _ => ?_
  exact hK _ _ ⟨View.le_trans hle1 hle2, by simpa [makesS, e1, e2] using hu _ nothing_le (by unfold fresh; rw [if_neg (by omega)]), fun e => absurd e e1⟩
def refPredsS (f : FuncD) (b : Int) : List Int := sift (fun a => decide (b ∈ (nth f.blocks a).term.to)) (fun a => (a : Int)) f.blocks.length
theorem sl_toAt {H : View} {v : Value} {l : List BlkD} (h : SlRd H v l) {i : Nat} (hi : i < l.length) : ∃ u, Sl H ((((slA v).add (i * 6)).add 2).add 2) u (nth l i).term.to := by
 rw [nth_eq hi]
 exact ((((h.at hi).part BlkD.p_term).part TermD.p_to)).sl
theorem refPreds_ok {f : FuncD} {b : Int} {v : Value} {h : Heap} (hv : Rd (vw h) v f) (hn : f.blocks.length ≤ 1000000) :
  HCalls Try.prog N.ref03_Preds #[v, .int .i64 b] h (fun u h' => (vw h).le (vw h') ∧ SlRd (fresh h h') u (refPredsS f b)) := by
 refine calls_lift (args := [v, .int .i64 b]) follows F.ref03_Preds E.ref03_Preds (Nat.le_of_ble_eq_true (by kernel_rfl)) fun K hK => ?_
 dsimp only [L.ref03_Preds]
 refine lwp_hide fun z hz => ?_
 simp
 refine do_boxT rfl hv fun h1 _ hle1 hsz1 hat => ?_
 obtain ⟨_, vb, cb⟩ := at_funcB hat
 generalize h.size = B at cb
 rw [hz]; clear hz z
 refine lwp_hide fun z hz => ?_
 simp
 refine do_lit0 (α := Int) El.s_int fun h2 hle2 hsz2 own2 => ?_
 have m0 := Mine.empty (V := nothing) (W := nothing) (View.le_refl (vw h1)) hle2 nothing_le (Old.nothing _ _) own2
 generalize Value.slice (some ⟨h1.size, 0, none⟩) 0 0 = v0 at m0
 have cb2 := cb.2
 have cc2 := cb.1
 rw [hz]; clear hz z
 refine lwp_hide fun z hz => ?_
 simp
 refine lwp_for [1, 2, 5, 6] (fun (r : Value) k => [.int .i64 b, .pointer (some ⟨B, 0, none⟩), r, .int .i64 k]) (fun r k h3 => Mine nothing h1 h3 nothing T.int r (sift (fun a => decide (b ∈ (nth f.blocks a).term.to)) (fun a => (a : Int)) k)) f.blocks.length v0
  rfl (by omega) rfl m0 (fun _ _ => rfl) (fun v k h3 hk m => by simp [cellH_mono m.old cc2, (cb2.mono m.old).len]) ?_ ?_
 ·rintro r k h3 hlt m K2 hK2
  have hle3 := m.old
  have cb3 := cb2.mono hle3
  obtain ⟨w, hw⟩ := sl_toAt cb3 hlt
  have hwb := hw.2.bound
  have hsl := sift_len (p := fun a => decide (b ∈ (nth f.blocks a).term.to)) (x := fun a => (a : Int)) k
  refine lwp_hide fun y hy => ?_
  simp (disch := omega) [cellH_mono hle3 cc2, cb3.idxn (N := 6) rfl, hw.1]
  rw [hy]; clear hy y
  simp
  refine lwp_for [1, 2, 5, 6, 7, 8] (fun (_ : Unit) j => [.int .i64 b, .pointer (some ⟨B, 0, none⟩), r, .int .i64 k, w, .int .i64 j]) (fun _ j h4 => h4 = h3 ∧ ∀ i, i < j → nth (nth f.blocks k).term.to i ≠ b) (nth f.blocks k).term.to.length ()
   rfl (by omega) rfl ⟨rfl, fun i hi => by omega⟩ (fun _ _ => rfl) (fun v j h4 hk m => by simp [hw.2.len]) ?_ ?_
  ·rintro _ j h3 hltj ⟨rfl, hpre⟩ K3 hK3
   simp (disch := omega) [hw.2.idx1 rfl, hw.2.int (View.le_refl _)]
   refine ⟨fun e => ?_, fun e => hK3 () _ _ rfl rfl ⟨rfl, fun i hi => ?_⟩⟩
   ·have hmem : b ∈ (nth f.blocks k).term.to := e ▸ nth_mem hltj
    refine m.push (d := (k : Int)) El.s_int (by simp <;> rfl) (rd_i (by omega) (by omega)) (by omega) (by omega) (fun _ => by simp) (fun _ => by simp) fun u v' h5 m' => ?_
    exact hK2 v' _ _ rfl rfl (by rw [sift_true (by simpa using hmem)]; exact m')
   ·rcases Nat.lt_or_ge i j with h | h
    ·exact hpre i h
    ·have : i = j := by omega
     subst this; exact e
  ·rintro _ h3 ⟨rfl, hpre⟩
   have hmem : ¬ b ∈ (nth f.blocks k).term.to := fun hm => by
    obtain ⟨i, hi, e⟩ := List.getElem_of_mem hm
    exact hpre i hi (by rw [nth_eq hi]; exact e)
   simp
   exact hK2 r _ _ rfl rfl (by rw [sift_false (by simpa using hmem)]; exact m)
 ·rintro r h3 m
  simp
  rw [hz]; clear hz z
  simp
  exact hK _ _ ⟨View.le_trans hle1 m.old, m.fresh.mono (fresh_from hle1)⟩
end Go.Proofs.Ytfelpjfopgiabaa
namespace Go.Proofs.Ytfelpjfopgiabaa
open Go Go.Lft
def mkL (vs : Value) (at_ : Nat) (ps : Int) (vb : Value) (nx : Int) (vl : Value) : List Value := [vs, .int .i64 at_, .int .i64 ps, vb, .int .i64 nx, vl]
def rawV (s : List Int) (at_ : Nat) : Int := if at_ < s.length then nth s at_ else 0
def takeV (s : List Int) (at_ : Nat) (n : Int) : Int := ((rawV s at_).tmod n + n).tmod n
theorem takeV_rng {s : List Int} {at_ : Nat} {n : Int} (hn : 0 < n) : 0 ≤ takeV s at_ n ∧ takeV s at_ n < n := by
 have b1 := Int.lt_tmod_of_pos (rawV s at_) hn
 exact ⟨Int.tmod_nonneg _ (by omega), Int.tmod_lt_of_pos _ hn⟩
theorem take_ok {W : View} {h : Heap} {o : Own} {M at_ : Nat} {vs vb vl : Value} {ps nx n : Int} {s : List Int} (w : Owns W h o) (hk : o (0, 0) = bx T.ref03_maker M (RawN.mk (n := 5) (mkL vs at_ ps vb nx vl))) (hs : SlRd W vs s) (h1 : at_ ≤ 1000000000) (hn : 0 < n) (hn2 : n ≤ 1000000000) :
  HCalls Try.prog N.ref03_maker_take #[.pointer (some ⟨M, 0, none⟩), .int .i64 n] h (fun u h' => u = .int .i64 (takeV s at_ n) ∧ Owns W h' (o.upd (0, 0) (bx T.ref03_maker M (RawN.mk (n := 5) (mkL vs (at_ + 1) ps vb nx vl))))) := by
 refine calls_lift (args := [.pointer (some ⟨M, 0, none⟩), .int .i64 n]) follows F.ref03_maker_take E.ref03_maker_take (Nat.le_of_ble_eq_true (by kernel_rfl)) fun K hK => ?_
 have c0 : cellH (vw h) ⟨M, 0, none⟩ = some vs := w.raw hk (i := 0) (by decide)
 have c1 : cellH (vw h) ⟨M, 1, none⟩ = some (.int .i64 at_) := w.raw hk (i := 1) (by decide)
 dsimp only [L.ref03_maker_take]
 refine lwp_hide fun z hz => ?_
 simp
 rw [hz]; clear hz z
 refine lwp_hide fun z hz => ?_
 simp
 rw [hz]; clear hz z
 refine lwp_hide fun z hz => ?_
 have hsl : ∀ {Q : View}, Un.ev Q .len vs = some (.int .i64 s.length) := fun {Q} => hs.len
 refine lwp_cut (fun ρ h2 => h2 = h ∧ I64 (rawV s at_) ∧ ρ = [(0, .pointer (some ⟨M, 0, none⟩)), (1, .int .i64 n), (4, .int .i64 0), (5, .int .i64 (rawV s at_))]) ?_ ?_
 ·intro K2 hK2
  by_cases c : at_ < s.length
  ·have hs2 := hs.mono w.wle
   have hr := hs.range (i := at_) c
   have e : rawV s at_ = nth s at_ := if_pos c
   rw [e] at hK2
   simp (disch := omega) [c0, c1, hsl, c, hs2.idx1 rfl, hs2.int (View.le_refl _)]
   exact hK2 _ _ ⟨rfl, hr, rfl⟩
  ·have e : rawV s at_ = 0 := if_neg c
   rw [e] at hK2
   simp [c0, c1, hsl, c]
   exact hK2 _ _ ⟨rfl, ⟨by decide, by decide⟩, rfl⟩
 ·rintro _ h2 ⟨rfl, hx, rfl⟩
  rw [hz]; clear hz z
  refine lwp_hide fun z hz => ?_
  simp (disch := omega) [c1]
  refine w.do_cell (k := (0, 0)) (n := 5) (i := 1) (e := T.ref03_maker) (B := M) (l := mkL vs at_ ps vb nx vl) hk (by decide) (by kernel_rfl) rfl rfl rfl fun h3 w3 _ => ?_
  rw [hz]; clear hz z
  have b1 := Int.lt_tmod_of_pos (rawV s at_) hn
  have b2 := Int.tmod_lt_of_pos (rawV s at_) hn
  have hw : IntKind.i64.wrap ((rawV s at_).tmod n + n) = (rawV s at_).tmod n + n := wrap64_id (by omega) (by omega)
  have hne : ¬ n = 0 := by omega
  simp [hw, hne]
  refine hK _ _ ⟨rfl, w3.congr fun q => ?_⟩
  rfl
theorem fresh_ok {W : View} {h : Heap} {o : Own} {M at_ : Nat} {vs vb vl : Value} {ps nx : Int} (w : Owns W h o) (hk : o (0, 0) = bx T.ref03_maker M (RawN.mk (n := 5) (mkL vs at_ ps vb nx vl))) (h0 : 0 ≤ nx) (h1 : nx ≤ 1000000000) :
  HCalls Try.prog N.ref03_maker_fresh #[.pointer (some ⟨M, 0, none⟩)] h (fun u h' => u = .int .i64 nx ∧ Owns W h' (o.upd (0, 0) (bx T.ref03_maker M (RawN.mk (n := 5) (mkL vs at_ ps vb (nx + 1) vl)))) ∧ ∀ X : View, X.le (vw h) → X M = none → X.le (vw h')) := by
 refine calls_lift (args := [.pointer (some ⟨M, 0, none⟩)]) follows F.ref03_maker_fresh E.ref03_maker_fresh (Nat.le_of_ble_eq_true (by kernel_rfl)) fun K hK => ?_
 have c4 : cellH (vw h) ⟨M, 4, none⟩ = some (.int .i64 nx) := w.raw hk (i := 4) (by decide)
 dsimp only [L.ref03_maker_fresh]
 refine lwp_hide fun z hz => ?_
 simp
 rw [hz]; clear hz z
 refine lwp_hide fun z hz => ?_
 simp (disch := omega) [c4]
 refine w.do_cell (k := (0, 0)) (n := 5) (i := 4) (e := T.ref03_maker) (B := M) (l := mkL vs at_ ps vb nx vl) hk (by decide) (by kernel_rfl) rfl rfl rfl fun h3 w3 hx3 => ?_
 have w3 : Owns W h3 (o.upd (0, 0) (bx T.ref03_maker M (RawN.mk (n := 5) (mkL vs at_ ps vb (nx + 1) vl)))) := w3
 have c5 : cellH (vw h3) ⟨M, 4, none⟩ = some (.int .i64 (nx + 1)) := w3.raw Own.upd_self (i := 4) (by decide)
 rw [hz]; clear hz z
 simp (disch := omega) [c5]
 exact hK _ _ ⟨by congr 1, w3, hx3⟩
end Go.Proofs.Ytfelpjfopgiabaa
namespace Go.Proofs.Ytfelpjfopgiabaa
open Go Go.Lft
def fewP (x : PhiD) : PhiD := { x with ins := x.ins.take 6 }
def fewI (x : InsD) : InsD := { x with args := x.args.take 6 }
def fewB (x : BlkD) : BlkD := ⟨(x.phis.take 8).map fewP, (x.ins.take 40).map fewI, { x.term with args := x.term.args.take 6, to := x.term.to.take 70 }⟩
def fewS (f : FuncD) : FuncD := ⟨f.params, (f.blocks.take 9).map fewB⟩
structure Few where
 r : Nat
 rl : List Value
 out : Option (Nat × List Value) := none
 outL : Option (Value × List BlkD) := none
 y : Option (Nat × List Value) := none
 yP : Option (Value × List PhiD) := none
 yI : Option (Value × List InsD) := none
 o : Own := fun _ => none
def feOwn (s : Few) : Own := fun k =>
 if k = (0, 0) then s.out.bind fun x => bx T.api_Func x.1 (RawN.mk (n := 1) x.2)
 else if k = (0, 1) then s.outL.bind fun x => it T.api_Block x.1 x.2
 else if k = (1, 0) then s.y.bind fun x => bx T.api_Block x.1 (RawN.mk (n := 5) x.2)
 else if k = (1, 1) then s.yP.bind fun x => it T.api_Phi x.1 x.2
 else if k = (1, 2) then s.yI.bind fun x => it T.api_Ins x.1 x.2
 else if k = (5, 0) then bx T.api_Func s.r (RawN.mk (n := 1) s.rl)
 else if k.1 < 10 then none
 else s.o k
section
variable (s : Few) (q : Key)
theorem fe_out {B : Nat} {l : List Value} : feOwn { s with out := some (B, l) } q = (feOwn s).upd (0, 0) (bx T.api_Func B (RawN.mk (n := 1) l)) q := by
 by_cases hq : q = (0, 0)
 ·subst hq; rfl
 ·unfold feOwn Own.upd
  simp only [hq, if_false]
theorem fe_outL {v : Value} {l : List BlkD} : feOwn { s with outL := some (v, l) } q = (feOwn s).upd (0, 1) (it T.api_Block v l) q := by
 by_cases hq : q = (0, 1)
 ·subst hq; rfl
 ·unfold feOwn Own.upd
  simp only [hq, if_false]
theorem fe_y {B : Nat} {l : List Value} : feOwn { s with y := some (B, l) } q = (feOwn s).upd (1, 0) (bx T.api_Block B (RawN.mk (n := 5) l)) q := by
 by_cases hq : q = (1, 0)
 ·subst hq; rfl
 ·unfold feOwn Own.upd
  simp only [hq, if_false]
theorem fe_yP {v : Value} {l : List PhiD} : feOwn { s with yP := some (v, l) } q = (feOwn s).upd (1, 1) (it T.api_Phi v l) q := by
 by_cases hq : q = (1, 1)
 ·subst hq; rfl
 ·unfold feOwn Own.upd
  simp only [hq, if_false]
theorem fe_yI {v : Value} {l : List InsD} : feOwn { s with yI := some (v, l) } q = (feOwn s).upd (1, 2) (it T.api_Ins v l) q := by
 by_cases hq : q = (1, 2)
 ·subst hq; rfl
 ·unfold feOwn Own.upd
  simp only [hq, if_false]
end
theorem fe_o {s : Few} {k : Key} (h : ¬ k.1 < 10) : feOwn s k = s.o k := by
 unfold feOwn
 rw [if_neg (by rintro rfl; exact h (by decide)), if_neg (by rintro rfl; exact h (by decide)), if_neg (by rintro rfl; exact h (by decide)), if_neg (by rintro rfl; exact h (by decide)), if_neg (by rintro rfl; exact h (by decide)), if_neg (by rintro rfl; exact h (by decide)), if_neg h]
end Go.Proofs.Ytfelpjfopgiabaa
namespace Go.Proofs.Ytfelpjfopgiabaa
open Go Go.Lft
theorem term_val {H : View} {u : Value} {d : TermD} (h : Rd H u d) : ∃ va vt, u = .agg #[.int .i64 d.kind, va, vt, .int .i32 d.imm.v] ∧ SlRd H va d.args ∧ SlRd H vt d.to := by
 obtain ⟨cs, rfl, c1, r1, e1, ⟨rfl, h1⟩, c2, r2, e2, ⟨va, rfl, h2⟩, c3, r3, e3, ⟨vt, rfl, h3⟩, h4, h5⟩ := h
 subst e3 e2
 have he : cs.toList = [.int .i64 d.kind, va, vt, .int .i32 d.imm.v] := by rw [e1, h4]; rfl
 refine ⟨va, vt, ?_, h2, h3⟩
 rw [← Array.toList_inj.1 (he.trans rfl : cs.toList = #[Value.int .i64 d.kind, va, vt, .int .i32 d.imm.v].toList)]
theorem phi_val {H : View} {u : Value} {d : PhiD} (h : Rd H u d) : ∃ vi, u = .agg #[.int .i64 d.dst, vi] ∧ I64 d.dst ∧ SlRd H vi d.ins := by
 obtain ⟨cs, rfl, c1, r1, e1, ⟨rfl, hd⟩, vi, h2, h3⟩ := h
 exact ⟨vi, by rw [← Array.toList_inj.1 ((by rw [e1, h2]; rfl) : cs.toList = #[Value.int .i64 d.dst, vi].toList)], hd, h3⟩
theorem ins_val {H : View} {u : Value} {d : InsD} (h : Rd H u d) : ∃ va, u = .agg #[.int .i64 d.op, .int .i64 d.dst, .int .i64 d.two, va, .int .i32 d.imm.v] ∧ (I64 d.op ∧ I64 d.dst ∧ I64 d.two ∧ -2147483648 ≤ d.imm.v ∧ d.imm.v ≤ 2147483647) ∧ SlRd H va d.args := by
 obtain ⟨cs, rfl, c1, r1, e1, ⟨rfl, h1⟩, c2, r2, e2, ⟨rfl, h2⟩, c3, r3, e3, ⟨rfl, h3⟩, c4, r4, e4, ⟨va, rfl, h4⟩, h5, h6⟩ := h
 subst e4 e3 e2
 exact ⟨va, by rw [← Array.toList_inj.1 ((by rw [e1, h5]; rfl) : cs.toList = #[Value.int .i64 d.op, .int .i64 d.dst, .int .i64 d.two, va, .int .i32 d.imm.v].toList)], ⟨h1, h2, h3, h6⟩, h4⟩
theorem rd_phiOf {H : View} {d : Int} {v : Value} {l : List InD} (h1 : I64 d) (h2 : SlRd H v l) : Rd H (.agg #[.int .i64 d, v]) (PhiD.mk d l) := ⟨_, rfl, [.int .i64 d], [v], rfl, ⟨rfl, h1⟩, v, rfl, h2⟩
theorem rd_insOf {H : View} {op d two : Int} {imm : I32} {v : Value} {l : List Int} (h : I64 op ∧ I64 d ∧ I64 two ∧ -2147483648 ≤ imm.v ∧ imm.v ≤ 2147483647) (h2 : SlRd H v l) : Rd H (.agg #[.int .i64 op, .int .i64 d, .int .i64 two, v, .int .i32 imm.v]) (InsD.mk op d two l imm) :=
 ⟨_, rfl, [.int .i64 op], _, rfl, ⟨rfl, h.1⟩, [.int .i64 d], _, rfl, ⟨rfl, h.2.1⟩, [.int .i64 two], _, rfl, ⟨rfl, h.2.2.1⟩, [v], _, rfl, ⟨v, rfl, h2⟩, rfl, h.2.2.2⟩
theorem rd_blkOf {H : View} {vp vi va vt : Value} {p : List PhiD} {i : List InsD} {a t : List Int} {kd : Int} {imm : I32} (h1 : SlRd H vp p) (h2 : SlRd H vi i) (h3 : SlRd H va a) (h4 : SlRd H vt t) (h5 : I64 kd) (h6 : -2147483648 ≤ imm.v ∧ imm.v ≤ 2147483647) : Rd H (.agg #[vp, vi, .int .i64 kd, va, vt, .int .i32 imm.v]) (BlkD.mk p i ⟨kd, a, t, imm⟩) :=
 ⟨_, rfl, [vp], _, rfl, ⟨vp, rfl, h1⟩, [vi], _, rfl, ⟨vi, rfl, h2⟩, [.int .i64 kd], _, rfl, ⟨rfl, h5⟩, [va], _, rfl, ⟨va, rfl, h3⟩, [vt], _, rfl, ⟨vt, rfl, h4⟩, rfl, h6⟩
theorem take_min {α : Type} {l : List α} {n : Nat} : l.take (min l.length n) = l.take n := by
 rcases Nat.le_total l.length n with h | h
 ·rw [Nat.min_eq_left h, List.take_of_length_le (Nat.le_refl _), List.take_of_length_le h]
 ·rw [Nat.min_eq_right h]
theorem sl_first {α : Type} [Rep α] {H : View} {v : Value} {l : List α} (h : SlRd H v l) (n : Nat) (m : Int) (hm : m = n) : ∃ u, Bn.ev .hi v (.int .i64 (if m < (l.length : Int) then m else l.length)) = some u ∧ SlRd H u (l.take n) := by
 subst hm
 obtain ⟨u, h1, h2⟩ := h.take (n := min l.length n) (by omega) (kd := .i64)
 rw [take_min] at h2
 refine ⟨u, ?_, h2⟩
 rw [show (if (n : Int) < (l.length : Int) then (n : Int) else l.length) = ((min l.length n : Nat) : Int) by split <;> omega]
 exact h1
theorem take_map {α β : Type} [Inhabited α] {f : α → β} {l : List α} {k : Nat} (h : k < l.length) : (l.take (k + 1)).map f = (l.take k).map f ++ [f (nth l k)] := by
 rw [List.take_succ_eq_append_getElem h, List.map_append, nth_eq h]; rfl
theorem fe_phi {s : Few} {X : Option Lft.Item} {v : Value} {l : List PhiD} {B : Nat} {c : List Value} {W : View} {h : Heap} (w : Owns W h ((((feOwn s).upd (2, 0) X).upd (1, 1) (it T.api_Phi v l)).upd (1, 0) (bx T.api_Block B (RawN.mk (n := 5) c)))) : Owns W h (feOwn { s with y := some (B, c), yP := some (v, l) }) := w.sub fun q i hq => by
 have hne : q ≠ (2, 0) := by rintro rfl; cases hq
 have e : feOwn { s with y := some (B, c), yP := some (v, l) } q = ((feOwn s).upd (1, 1) (it T.api_Phi v l)).upd (1, 0) (bx T.api_Block B (RawN.mk (n := 5) c)) q := by
  rw [show feOwn { s with y := some (B, c), yP := some (v, l) } q = _ from fe_y { s with yP := some (v, l) } q]
  unfold Own.upd
  split
  ·rfl
  ·exact fe_yP s q
 rw [e] at hq
 rw [← hq]
 simp only [Own.upd, hne, if_false]
theorem fe_ins {s : Few} {X : Option Lft.Item} {v : Value} {l : List InsD} {B : Nat} {c : List Value} {W : View} {h : Heap} (w : Owns W h ((((feOwn s).upd (2, 0) X).upd (1, 2) (it T.api_Ins v l)).upd (1, 0) (bx T.api_Block B (RawN.mk (n := 5) c)))) : Owns W h (feOwn { s with y := some (B, c), yI := some (v, l) }) := w.sub fun q i hq => by
 have hne : q ≠ (2, 0) := by rintro rfl; cases hq
 have e : feOwn { s with y := some (B, c), yI := some (v, l) } q = ((feOwn s).upd (1, 2) (it T.api_Ins v l)).upd (1, 0) (bx T.api_Block B (RawN.mk (n := 5) c)) q := by
  rw [show feOwn { s with y := some (B, c), yI := some (v, l) } q = _ from fe_y { s with yI := some (v, l) } q]
  unfold Own.upd
  split
  ·rfl
  ·exact fe_yI s q
 rw [e] at hq
 rw [← hq]
 simp only [Own.upd, hne, if_false]
theorem fe_took {s : Few} {Y : Nat × List Value} {a : Value × List PhiD} {b : Value × List InsD} (hP : s.yP = none) (hI : s.yI = none) (q : Key) : feOwn { s with y := some Y } q = ((feOwn { s with y := some Y, yP := some a, yI := some b }).upd (1, 1) none).upd (1, 2) none q := by
 obtain ⟨r, rl, o, ol, y, yp, yi, oo⟩ := s
 simp only at hP hI
 subst hP hI
 unfold feOwn Own.upd
 by_cases h1 : q = (1, 1)
 ·subst h1; rfl
 by_cases h2 : q = (1, 2)
 ·subst h2; rfl
 simp only [h1, h2, if_false]
theorem fe_next {s : Few} {Y : Nat × List Value} {v : Value} {l : List BlkD} {B : Nat} {c : List Value} {W : View} {h : Heap} (hP : s.yP = none) (hI : s.yI = none) (w : Owns W h (((feOwn { s with y := some Y }).upd (0, 1) (it T.api_Block v l)).upd (0, 0) (bx T.api_Func B (RawN.mk (n := 1) c)))) : Owns W h (feOwn { r := s.r, rl := s.rl, o := s.o, out := some (B, c), outL := some (v, l) }) := w.sub fun q i hq => by
 obtain ⟨r, rl, o, ol, y, yp, yi, oo⟩ := s
 simp only at hP hI
 subst hP hI
 rw [← hq]
 have h3 : q ≠ (1, 0) := by rintro rfl; cases hq
 unfold feOwn Own.upd
 by_cases h1 : q = (0, 0)
 ·subst h1; rfl
 by_cases h2 : q = (0, 1)
 ·subst h2; rfl
 simp only [h1, h2, h3, if_false]
theorem few_okW {f : FuncD} {v : Value} {h : Heap} {W : View} {o0 : Own} (w0 : Owns W h o0) (ho0 : ∀ k : Key, k.1 < 10 → o0 k = none) (hv : Rd W v f) :
  HCalls Try.prog N.law03_few #[v] h (fun u h' => ∃ W', W.le W' ∧ Owns W' h' o0 ∧ Rd W' u (fewS f)) := by
 refine calls_lift (args := [v]) follows F.law03_few E.law03_few (Nat.le_of_ble_eq_true (by kernel_rfl)) fun K hK => ?_
 dsimp only [L.law03_few]
 refine lwp_hide fun z hz => ?_
 simp
 refine do_boxT rfl (hv.mono w0.wle) fun h1 hp1 hle1 hs1 _ => ?_
 have w1 := w0.ext hle1
 have hW1 := le_grow (h' := h1) w0.wle
 have hat : At (grow W h h1) ⟨h.size, 0, none⟩ f := at_new (t := T.api_Func) (fz := (0, 0)) (by rw [grow_new (Nat.le_refl _), hp1]; simp) (hv.mono hW1)
 generalize grow W h h1 = V1 at w1 hW1 hat
 obtain ⟨cp, vb, cb⟩ := at_funcB hat
 generalize h.size = B at cp cb
 have cpr := (hat.part FuncD.p_params).rng
 have nb := cb.2.bound
 refine w1.do_zero (k := (5, 0)) (n := 1) (z := .agg #[.int .i64 0, .slice none 0 0]) (ho0 _ (by decide)) (by kernel_rfl) rfl (by decide) (by simp [Value.cells, Value.oneCell']) fun h2 q2 w2 => ?_
 generalize h1.size = R at w2
 have w2 : Owns V1 h2 (feOwn { r := R, o := o0, rl := [.int .i64 0, .slice none 0 0] }) := w2.congr fun q => by
  unfold feOwn Own.upd
  repeat' split
  all_goals first | rfl | simp_all
 rw [hz]; clear hz z
 refine lwp_hide fun z hz => ?_
 simp [cellH_mono w2.wle cp]
 refine do_build (z := .agg #[.int .i64 0, .slice none 0 0]) (places := [(0, 1), (1, 1)]) (vs := [(0, .int .i64 f.params)]) (cs := #[.int .i64 f.params, .slice none 0 0]) (by kernel_rfl) (by kernel_rfl) (by simp) (by rfl) ?_
 refine w2.do_var (k := (0, 0)) (n := 1) (l := [.int .i64 f.params, .slice none 0 0]) rfl (z := .agg #[.int .i64 0, .slice none 0 0]) (by kernel_rfl) rfl (by kernel_rfl) rfl (by decide) (by simp [Value.oneCell']) (fun _ => by simp) (fun _ => by simp) fun h3 q3 w3 => ?_
 generalize h2.size = D at w3
 have w3 := w3.congr fun q => fe_out _ q
 have w3 := (w3.add (k := (0, 1)) rfl (OwnT.nil (α := BlkD) _ h3 T.api_Block) (View.le_refl _) (fun b hb => by simp [Value.ownBlock] at hb)).congr fun q => fe_outL _ q
 rw [hz]; clear hz z
 refine lwp_hide fun z hz => ?_
 simp
 obtain ⟨n, hn⟩ : ∃ n : Nat, n = min f.blocks.length 9 := ⟨_, rfl⟩
 have hn1 : ∀ k : Nat, (decide (k < f.blocks.length) && decide ((k : Int) < 9)) = decide (k < n) := fun k => by rw [Bool.eq_iff_iff]; simp only [Bool.and_eq_true, decide_eq_true_eq]; omega
 refine lwp_forC [1, 2, 3, 4] (fun (_ : Unit) k => [.pointer (some ⟨B, 0, none⟩), .pointer (some ⟨R, 0, none⟩), .pointer (some ⟨D, 0, none⟩), .int .i64 k])
  (fun _ k h4 => ∃ W vo, V1.le W ∧ vo.oneCell' = true ∧ Owns W h4 (feOwn { r := R, o := o0, rl := [.int .i64 0, .slice none 0 0], out := some (D, [.int .i64 f.params, vo]), outL := some (vo, (f.blocks.take k).map fewB) })) n ()
  rfl (by omega) rfl ⟨V1, .slice none 0 0, View.le_refl _, rfl, w3⟩ (fun _ _ => rfl) (fun v k h4 hk ⟨W, vo, q1, _, q2⟩ => by simp [cellH_mono (View.le_trans q1 q2.wle) cb.1, (cb.2.mono (View.le_trans q1 q2.wle)).len, hn1]) ?_ ?_
 ·rintro _ k h4 hltk ⟨W4, vo, hW4, hvo, w4⟩ K2 hK2
  have hkl : k < f.blocks.length := by omega
  have cb4 := cb.2.mono hW4
  have cc4 := cellH_mono hW4 cb.1
  obtain ⟨ux, hux, huxr⟩ := cb4.wh rfl (N := 6) rfl hkl
  have htk := take_map (f := fewB) hkl
  generalize nth f.blocks k = x at huxr htk
  have hlo : ((f.blocks.take k).map fewB).length ≤ 9 := by simp; omega
  generalize (f.blocks.take k).map fewB = out at w4 htk hlo
  refine lwp_hide fun y hy => ?_
  simp (disch := omega) [cellH_mono w4.wle cc4, (cb4.mono w4.wle).idxn (N := 6) rfl, hux _ w4.wle]
  refine do_newX (X := W4) (z := .agg #[.slice none 0 0, .slice none 0 0, .int .i64 0, .slice none 0 0, .slice none 0 0, .int .i32 0]) (by kernel_rfl) rfl (by kernel_rfl) huxr (fun _ => by simp) (fun _ => by simp) fun h5 hle5 hs5 hat5 => ?_
  have w5 := w4.ext hle5
  have hat5 := hat5 (grow W4 h4 h5) (le_grow w4.wle) (grow_new (Nat.le_refl _))
  have hW5 := View.le_trans hW4 (le_grow (h' := h5) w4.wle)
  generalize grow W4 h4 h5 = W5 at w5 hat5 hW5
  generalize h4.size = D5 at hat5
  obtain ⟨vp, vi, va, vt, bp, bi, bk, ba, bt⟩ := at_blkB hat5
  have hterm := hat5.part BlkD.p_term
  obtain ⟨uT, huT, huTr⟩ := hterm.loads rfl
  obtain ⟨va', vt', rfl, ta, tt⟩ := term_val huTr
  have tk := (hterm.part TermD.p_kind).rng
  have ti : -2147483648 ≤ x.term.imm.v ∧ x.term.imm.v ≤ 2147483647 := by
   obtain ⟨cs, _, c1, r1, _, _, c2, r2, _, _, c3, r3, _, _, _, h6⟩ := hterm
   exact h6
  have huT : Un.ev W5 (.loads 4) (.pointer (some ⟨D5, 2, none⟩)) = some (.agg #[.int .i64 x.term.kind, va', vt', .int .i32 x.term.imm.v]) := by
   have h2 : Un.ev W5 (.loads 4) (.pointer (some ((⟨D5, 0, none⟩ : Addr).add 2))) = _ := huT
   rwa [addr_add] at h2
  have huT6 : Un.ev (vw h5) (.loads 4) (.pointer (some ⟨D5, 2, none⟩)) = some (.agg #[.int .i64 x.term.kind, va', vt', .int .i32 x.term.imm.v]) := by
   have := ev_mono (ρ := fun _ => none) (e := .un (.loads 4) (.con (.pointer (some ⟨D5, 2, none⟩)))) w5.wle (by simpa using huT)
   simpa using this
  rw [hy]; clear hy y
  refine lwp_hide fun y hy => ?_
  simp [huT6]
  refine do_build (z := .agg #[.slice none 0 0, .slice none 0 0, .int .i64 0, .slice none 0 0, .slice none 0 0, .int .i32 0]) (places := [(0, 1), (1, 1), (2, 4)]) (vs := [(2, .agg #[.int .i64 x.term.kind, va', vt', .int .i32 x.term.imm.v])]) (cs := #[.slice none 0 0, .slice none 0 0, .int .i64 x.term.kind, va', vt', .int .i32 x.term.imm.v]) (by kernel_rfl) (by kernel_rfl) (by simp) (by rfl) ?_
  refine w5.do_var (k := (1, 0)) (n := 5) (l := [.slice none 0 0, .slice none 0 0, .int .i64 x.term.kind, va', vt', .int .i32 x.term.imm.v]) rfl (z := .agg #[.slice none 0 0, .slice none 0 0, .int .i64 0, .slice none 0 0, .slice none 0 0, .int .i32 0]) (by kernel_rfl) rfl (by kernel_rfl) rfl (by decide) (by intro c hc; simp only [List.mem_cons, List.not_mem_nil, or_false] at hc; rcases hc with rfl | rfl | rfl | rfl | rfl | rfl <;> first | rfl | exact ta.cells.2 | exact tt.cells.2) (fun _ => by simp) (fun _ => by simp) fun h6 q6 w6 => ?_
  generalize h5.size = D6 at w6
  have w6 := w6.congr fun q => fe_y _ q
  have w6 := (w6.add (k := (1, 1)) rfl (OwnT.nil (α := PhiD) _ h6 T.api_Phi) (View.le_refl _) (fun b hb => by simp [Value.ownBlock] at hb)).congr fun q => fe_yP _ q
  have w6 := (w6.add (k := (1, 2)) rfl (OwnT.nil (α := InsD) _ h6 T.api_Ins) (View.le_refl _) (fun b hb => by simp [Value.ownBlock] at hb)).congr fun q => fe_yI _ q
  rw [hy]; clear hy y
  refine lwp_hide fun y hy => ?_
  simp
  obtain ⟨S, hS⟩ : ∃ S : Few, S = { r := R, o := o0, rl := [.int .i64 0, .slice none 0 0], out := some (D, [.int .i64 f.params, vo]), outL := some (vo, out) } := ⟨_, rfl⟩
  have w6 : Owns W5 h6 (feOwn { S with y := some (D6, [.slice none 0 0, .slice none 0 0, .int .i64 x.term.kind, va', vt', .int .i32 x.term.imm.v]), yP := some (.slice none 0 0, (x.phis.take 0).map fewP), yI := some (.slice none 0 0, []) }) := by rw [hS]; exact w6
  clear w5 w4
  have np := bp.2.bound
  obtain ⟨n6, hn6⟩ : ∃ n6 : Nat, n6 = min x.phis.length 8 := ⟨_, rfl⟩
  have hc6 : ∀ k : Nat, (decide (k < x.phis.length) && decide ((k : Int) < 8)) = decide (k < n6) := fun k => by rw [Bool.eq_iff_iff]; simp only [Bool.and_eq_true, decide_eq_true_eq]; omega
  refine lwp_forC [1, 2, 3, 4, 5, 6, 7] (fun (_ : Unit) j => [.pointer (some ⟨B, 0, none⟩), .pointer (some ⟨R, 0, none⟩), .pointer (some ⟨D, 0, none⟩), .int .i64 k, .pointer (some ⟨D5, 0, none⟩), .pointer (some ⟨D6, 0, none⟩), .int .i64 j])
   (fun _ j h7 => ∃ W vq, W5.le W ∧ vq.oneCell' = true ∧ Owns W h7 (feOwn { S with y := some (D6, [vq, .slice none 0 0, .int .i64 x.term.kind, va', vt', .int .i32 x.term.imm.v]), yP := some (vq, (x.phis.take j).map fewP), yI := some (.slice none 0 0, []) })) n6 ()
   rfl (by omega) rfl ⟨W5, .slice none 0 0, View.le_refl _, rfl, w6⟩ (fun _ _ => rfl) (fun v k h7 hk ⟨W, vo, q1, _, q2⟩ => by simp [cellH_mono (View.le_trans q1 q2.wle) bp.1, (bp.2.mono (View.le_trans q1 q2.wle)).len, hc6]) ?_ ?_
  ·rintro _ j h7 hltj ⟨W7, vq, hW7, hvq, w7⟩ K3 hK3
   have hjl : j < x.phis.length := by omega
   have bp7 := bp.2.mono hW7
   have bc7 := cellH_mono hW7 bp.1
   obtain ⟨ux, hux, huxr⟩ := bp7.wh rfl (N := 2) rfl hjl
   have htk := take_map (f := fewP) hjl
   have hl7 : ((x.phis.take j).map fewP).length ≤ 8 := by simp; omega
   generalize nth x.phis j = p at huxr htk
   generalize (x.phis.take j).map fewP = outp at w7 htk hl7
   refine lwp_hide fun q hq => ?_
   simp (disch := omega) [cellH_mono w7.wle bc7, (bp7.mono w7.wle).idxn (N := 2) rfl, hux _ w7.wle]
   obtain ⟨vin, rfl, hd, h3⟩ := phi_val huxr
   refine w7.do_var (k := (2, 0)) (n := 1) (l := [.int .i64 p.dst, vin]) rfl (z := .agg #[.int .i64 0, .slice none 0 0]) (by kernel_rfl) rfl (by kernel_rfl) rfl (by decide) (by intro c hc; simp only [List.mem_cons, List.not_mem_nil, or_false] at hc; rcases hc with rfl | rfl <;> first | rfl | exact h3.cells.2) (fun _ => by simp) (fun _ => by simp) fun h8 q8 w8 => ?_
   generalize h7.size = D8 at w8
   rw [hq]; clear hq q
   refine lwp_hide fun q hq => ?_
   simp
   refine w8.do_empty (k := (2, 1)) (α := InD) rfl El.s_api_In fun v9 h9 hle9 hv9 w9 av9 => ?_
   have c9 := w9.raw (k := (2, 0)) (e := T.api_Phi) (B := D8) (l := [.int .i64 p.dst, vin]) (n := 1) rfl (i := 1) (by decide)
   obtain ⟨uf, huf, hufr⟩ := sl_first h3 6 6 rfl
   simp [c9, h3.len, huf]
   refine w9.do_clone (k := (2, 1)) (α := InD) (v := v9) (u := uf) (l2 := p.ins.take 6) rfl El.s_api_In (by simp) (by simp) hufr (by simp; omega) fun v10 h10 W10 w10 hW10 s10 _ => ?_
   have hv10 := s10.cells.2
   refine w10.do_cell (k := (2, 0)) (n := 1) (i := 1) (e := T.api_Phi) (B := D8) (l := [.int .i64 p.dst, vin]) rfl (by decide) (by kernel_rfl) rfl rfl hv10 fun h11 w11 _ => ?_
   have w11 := w11.congr (o' := (feOwn { S with y := some (D6, [vq, .slice none 0 0, .int .i64 x.term.kind, va', vt', .int .i32 x.term.imm.v]), yP := some (vq, outp), yI := some (.slice none 0 0, []) }).upd (2, 0) (bx T.api_Phi D8 (RawN.mk (n := 1) [.int .i64 p.dst, v10]))) fun q => by
    unfold Own.upd; split <;> rfl
   rw [hq]; clear hq q
   have c11 := w11.raw (k := (1, 0)) (e := T.api_Block) (B := D6) (l := [vq, .slice none 0 0, .int .i64 x.term.kind, va', vt', .int .i32 x.term.imm.v]) (n := 5) rfl (i := 0) (by decide)
   have c12 := w11.rawAll (k := (2, 0)) (e := T.api_Phi) (B := D8) (l := [.int .i64 p.dst, v10]) (n := 1) rfl
   simp [c11, c12]
   refine w11.do_push (k := (1, 1)) (α := PhiD) (d := fewP p) rfl El.s_api_Phi rfl (rd_phiOf hd s10) (by simp; omega) (by simp; omega) (fun _ => rfl) (fun _ => rfl) fun u13 v13 h13 w13 _ => ?_
   have hv13 := (w13.cells (k := (1, 1)) Own.upd_self).2
   refine w13.do_cell (k := (1, 0)) (n := 5) (i := 0) (e := T.api_Block) (B := D6) (l := [vq, .slice none 0 0, .int .i64 x.term.kind, va', vt', .int .i32 x.term.imm.v]) rfl (by decide) (by kernel_rfl) rfl rfl hv13 fun h14 w14 _ => ?_
   exact hK3 () _ _ rfl rfl ⟨W10, v13, View.le_trans hW7 hW10, hv13, by rw [htk]; exact fe_phi w14⟩
  ·rintro _ h7 ⟨W7, vq, hW7, hvq, w7⟩
   simp
   rw [hy]; clear hy y
   refine lwp_hide fun y hy => ?_
   simp
   have hlP : ((x.phis.take n6).map fewP) = (x.phis.take 8).map fewP := by rw [hn6, take_min]
   rw [hlP] at w7
   generalize hPs : (x.phis.take 8).map fewP = ps at w7
   clear hlP
   have bi7 := bi.2.mono hW7
   have w7 : Owns W7 h7 (feOwn { S with y := some (D6, [vq, .slice none 0 0, .int .i64 x.term.kind, va', vt', .int .i32 x.term.imm.v]), yP := some (vq, ps), yI := some (.slice none 0 0, (x.ins.take 0).map fewI) }) := w7
   have ni := bi.2.bound
   obtain ⟨n8, hn8⟩ : ∃ n8 : Nat, n8 = min x.ins.length 40 := ⟨_, rfl⟩
   have hc8 : ∀ k : Nat, (decide (k < x.ins.length) && decide ((k : Int) < 40)) = decide (k < n8) := fun k => by rw [Bool.eq_iff_iff]; simp only [Bool.and_eq_true, decide_eq_true_eq]; omega
   refine lwp_forC [1, 2, 3, 4, 5, 6, 9] (fun (_ : Unit) j => [.pointer (some ⟨B, 0, none⟩), .pointer (some ⟨R, 0, none⟩), .pointer (some ⟨D, 0, none⟩), .int .i64 k, .pointer (some ⟨D5, 0, none⟩), .pointer (some ⟨D6, 0, none⟩), .int .i64 j])
    (fun _ j h8 => ∃ W vr, W7.le W ∧ vr.oneCell' = true ∧ Owns W h8 (feOwn { S with y := some (D6, [vq, vr, .int .i64 x.term.kind, va', vt', .int .i32 x.term.imm.v]), yP := some (vq, ps), yI := some (vr, (x.ins.take j).map fewI) })) n8 ()
    rfl (by omega) rfl ⟨W7, .slice none 0 0, View.le_refl _, rfl, w7⟩ (fun _ _ => rfl) (fun v k h8 hk ⟨W, vo, q1, _, q2⟩ => by simp [cellH_mono (View.le_trans hW7 (View.le_trans q1 q2.wle)) bi.1, (bi.2.mono (View.le_trans hW7 (View.le_trans q1 q2.wle))).len, hc8]) ?_ ?_
   ·rintro _ j h8 hltj ⟨W8, vr, hW8, hvr, w8⟩ K3 hK3
    have hjl : j < x.ins.length := by omega
    have bp8 := bi7.mono hW8
    have bc8 := cellH_mono (View.le_trans hW7 hW8) bi.1
    obtain ⟨ux, hux, huxr⟩ := bp8.wh rfl (N := 5) rfl hjl
    have htk := take_map (f := fewI) hjl
    have hl8 : ((x.ins.take j).map fewI).length ≤ 40 := by simp; omega
    generalize nth x.ins j = p at huxr htk
    generalize (x.ins.take j).map fewI = outi at w8 htk hl8
    refine lwp_hide fun q hq => ?_
    simp (disch := omega) [cellH_mono w8.wle bc8, (bp8.mono w8.wle).idxn (N := 5) rfl, hux _ w8.wle]
    obtain ⟨vin, rfl, hd, h3⟩ := ins_val huxr
    refine w8.do_var (k := (2, 0)) (n := 4) (l := [.int .i64 p.op, .int .i64 p.dst, .int .i64 p.two, vin, .int .i32 p.imm.v]) rfl (z := .agg #[.int .i64 0, .int .i64 0, .int .i64 0, .slice none 0 0, .int .i32 0]) (by kernel_rfl) rfl (by kernel_rfl) rfl (by decide) (by intro c hc; simp only [List.mem_cons, List.not_mem_nil, or_false] at hc; rcases hc with rfl | rfl | rfl | rfl | rfl <;> first | rfl | exact h3.cells.2) (fun _ => by simp) (fun _ => by simp) fun h9 q9 w9 => ?_
    generalize h8.size = D8 at w9
    rw [hq]; clear hq q
    refine lwp_hide fun q hq => ?_
    simp
    refine w9.do_empty (k := (2, 1)) (α := Int) rfl El.s_int fun v10 h10 hle10 hv10 w10 av10 => ?_
    have c10 := w10.raw (k := (2, 0)) (e := T.api_Ins) (B := D8) (l := [.int .i64 p.op, .int .i64 p.dst, .int .i64 p.two, vin, .int .i32 p.imm.v]) (n := 4) rfl (i := 3) (by decide)
    obtain ⟨uf, huf, hufr⟩ := sl_first h3 6 6 rfl
    simp [c10, h3.len, huf]
    refine w10.do_clone (k := (2, 1)) (α := Int) (v := v10) (u := uf) (l2 := p.args.take 6) rfl El.s_int (by simp) (by simp) hufr (by simp; omega) fun v11 h11 W11 w11 hW11 s11 _ => ?_
    have hv11 := s11.cells.2
    refine w11.do_cell (k := (2, 0)) (n := 4) (i := 3) (e := T.api_Ins) (B := D8) (l := [.int .i64 p.op, .int .i64 p.dst, .int .i64 p.two, vin, .int .i32 p.imm.v]) rfl (by decide) (by kernel_rfl) rfl rfl hv11 fun h12 w12 _ => ?_
    have w12 := w12.congr (o' := (feOwn { S with y := some (D6, [vq, vr, .int .i64 x.term.kind, va', vt', .int .i32 x.term.imm.v]), yP := some (vq, ps), yI := some (vr, outi) }).upd (2, 0) (bx T.api_Ins D8 (RawN.mk (n := 4) [.int .i64 p.op, .int .i64 p.dst, .int .i64 p.two, v11, .int .i32 p.imm.v]))) fun q => by
     unfold Own.upd; split <;> rfl
    rw [hq]; clear hq q
    have c12 := w12.raw (k := (1, 0)) (e := T.api_Block) (B := D6) (l := [vq, vr, .int .i64 x.term.kind, va', vt', .int .i32 x.term.imm.v]) (n := 5) rfl (i := 1) (by decide)
    have c13 := w12.rawAll (k := (2, 0)) (e := T.api_Ins) (B := D8) (l := [.int .i64 p.op, .int .i64 p.dst, .int .i64 p.two, v11, .int .i32 p.imm.v]) (n := 4) rfl
    simp [c12, c13]
    refine w12.do_push (k := (1, 2)) (α := InsD) (d := fewI p) rfl El.s_api_Ins rfl (rd_insOf hd s11) (by simp; omega) (by simp; omega) (fun _ => rfl) (fun _ => rfl) fun u13 v13 h13 w13 _ => ?_
    have hv13 := (w13.cells (k := (1, 2)) Own.upd_self).2
    refine w13.do_cell (k := (1, 0)) (n := 5) (i := 1) (e := T.api_Block) (B := D6) (l := [vq, vr, .int .i64 x.term.kind, va', vt', .int .i32 x.term.imm.v]) rfl (by decide) (by kernel_rfl) rfl rfl hv13 fun h14 w14 _ => ?_
    exact hK3 () _ _ rfl rfl ⟨W11, v13, View.le_trans hW8 hW11, hv13, by rw [htk]; exact fe_ins w14⟩
   ·rintro _ h8 ⟨W8, vr, hW8, hvr, w8⟩
    simp
    rw [hy]; clear hy y
    refine lwp_hide fun y hy => ?_
    have hlI : ((x.ins.take n8).map fewI) = (x.ins.take 40).map fewI := by rw [hn8, take_min]
    rw [hlI] at w8
    generalize hIs : (x.ins.take 40).map fewI = is at w8
    simp
    refine w8.do_empty (k := (2, 1)) (α := Int) rfl El.s_int fun v9 h9 hle9 hv9 w9 av9 => ?_
    have hW8' := View.le_trans hW7 hW8
    have ca := cellH_mono (View.le_trans hW8' w9.wle) ba.1
    obtain ⟨uf, huf, hufr⟩ := sl_first (ba.2.mono hW8') 6 6 rfl
    simp [ca, ba.2.len, huf]
    refine w9.do_clone (k := (2, 1)) (α := Int) (v := v9) (u := uf) (l2 := x.term.args.take 6) rfl El.s_int (by simp) (by simp) hufr (by simp; omega) fun v10 h10 W10 w10 hW10 s10 _ => ?_
    refine w10.do_cell (k := (1, 0)) (n := 5) (i := 3) (e := T.api_Block) (B := D6) (l := [vq, vr, .int .i64 x.term.kind, va', vt', .int .i32 x.term.imm.v]) rfl (by decide) (by kernel_rfl) rfl rfl s10.cells.2 fun h11 w11 _ => ?_
    have w11 : Owns W10 h11 (feOwn { S with y := some (D6, [vq, vr, .int .i64 x.term.kind, v10, vt', .int .i32 x.term.imm.v]), yP := some (vq, ps), yI := some (vr, is) }) := w11.congr fun q => fe_y { S with y := some (D6, [vq, vr, .int .i64 x.term.kind, va', vt', .int .i32 x.term.imm.v]), yP := some (vq, ps), yI := some (vr, is) } q
    have hW10' := View.le_trans hW8' hW10
    rw [hy]; clear hy y
    refine lwp_hide fun y hy => ?_
    simp
    refine w11.do_empty (k := (2, 1)) (α := Int) rfl El.s_int fun v12 h12 hle12 hv12 w12 av12 => ?_
    have ct := cellH_mono (View.le_trans hW10' w12.wle) bt.1
    obtain ⟨ug, hug, hugr⟩ := sl_first (bt.2.mono hW10') 70 70 rfl
    simp [ct, bt.2.len, hug]
    refine w12.do_clone (k := (2, 1)) (α := Int) (v := v12) (u := ug) (l2 := x.term.to.take 70) rfl El.s_int (by simp) (by simp) hugr (by simp; omega) fun v13 h13 W13 w13 hW13 s13 _ => ?_
    refine w13.do_cell (k := (1, 0)) (n := 5) (i := 4) (e := T.api_Block) (B := D6) (l := [vq, vr, .int .i64 x.term.kind, v10, vt', .int .i32 x.term.imm.v]) rfl (by decide) (by kernel_rfl) rfl rfl s13.cells.2 fun h14 w14 _ => ?_
    have w14 : Owns W13 h14 (feOwn { S with y := some (D6, [vq, vr, .int .i64 x.term.kind, v10, v13, .int .i32 x.term.imm.v]), yP := some (vq, ps), yI := some (vr, is) }) := w14.congr fun q => fe_y { S with y := some (D6, [vq, vr, .int .i64 x.term.kind, v10, vt', .int .i32 x.term.imm.v]), yP := some (vq, ps), yI := some (vr, is) } q
    rw [hy]; clear hy y
    have av1 : Av W13 vq := w14.av (1, 1) _ rfl
    obtain ⟨w15, sp⟩ := w14.freeze (k := (1, 1)) (v := vq) (l := ps) rfl
    have hW15 := le_plus (h := h14) av1
    have av2 : Av (W13.plus vq h14) vr := w15.av (1, 2) _ rfl
    obtain ⟨w16, si⟩ := w15.freeze (k := (1, 2)) (v := vr) (l := is) rfl
    have hW16 := le_plus (h := h14) av2
    have sp := sp.mono hW16
    have s10 := s10.mono (View.le_trans hW13 (View.le_trans hW15 hW16))
    have s13 := s13.mono (View.le_trans hW15 hW16)
    have hW16' := View.le_trans hW10' (View.le_trans hW13 (View.le_trans hW15 hW16))
    have w16 : Owns ((W13.plus vq h14).plus vr h14) h14 (feOwn { S with y := some (D6, [vq, vr, .int .i64 x.term.kind, v10, v13, .int .i32 x.term.imm.v]) }) := w16.congr fun q => fe_took (by rw [hS]) (by rw [hS]) q
    generalize (W13.plus vq h14).plus vr h14 = W16 at w16 sp si s10 s13 hW16'
    clear w14 w15 w13 w12 w11 w10 w9 hW16 hW15 av1 av2
    have c1 : cellH (vw h14) ⟨D, 1, none⟩ = some vo := w16.raw (k := (0, 0)) (e := T.api_Func) (B := D) (l := [.int .i64 f.params, vo]) (n := 1) (by rw [hS]; rfl) (i := 1) (by decide)
    have c2 := w16.rawAll (k := (1, 0)) (e := T.api_Block) (B := D6) (l := [vq, vr, .int .i64 x.term.kind, v10, v13, .int .i32 x.term.imm.v]) (n := 5) rfl
    simp [c1, c2]
    refine w16.do_push (k := (0, 1)) (α := BlkD) (v := vo) (l := out) (d := fewB x) (by rw [hS]; rfl) El.s_api_Block rfl (by rw [fewB, hPs, hIs]; exact rd_blkOf sp si s10 s13 tk ti) (by omega) (by omega) (fun _ => rfl) (fun _ => rfl) fun u17 v17 h17 w17 _ => ?_
    have hv17 := (w17.cells (k := (0, 1)) Own.upd_self).2
    refine w17.do_cell (k := (0, 0)) (n := 1) (i := 1) (e := T.api_Func) (B := D) (l := [.int .i64 f.params, vo]) (by rw [hS]; rfl) (by decide) (by kernel_rfl) rfl rfl hv17 fun h18 w18 _ => ?_
    refine hK2 () _ _ rfl rfl ⟨W16, v17, View.le_trans hW5 hW16', hv17, by rw [htk, show o0 = S.o by rw [hS], show R = S.r by rw [hS], show ([.int .i64 0, .slice none 0 0] : List Value) = S.rl by rw [hS]]; exact fe_next (by rw [hS]) (by rw [hS]) w18⟩
 ·rintro _ h4 ⟨W4, vo, hW4, hvo, w4⟩
  have hlP : ((f.blocks.take n).map fewB) = (fewS f).blocks := by rw [hn, take_min]; rfl
  rw [hlP] at w4
  simp
  rw [hz]; clear hz z
  have c1 := w4.rawAll (k := (0, 0)) (e := T.api_Func) (B := D) (l := [.int .i64 f.params, vo]) (n := 1) rfl
  simp [c1]
  refine w4.do_field (k := (5, 0)) (e := T.api_Func) (B := R) (D := RawN.mk (n := 1) [.int .i64 0, .slice none 0 0]) Part.all (d := RawN.mk (n := 1) [.int .i64 f.params, vo]) rfl (by kernel_rfl) rfl rfl (rd_rawN rfl (by intro c hc; simp only [List.mem_cons, List.not_mem_nil, or_false] at hc; rcases hc with rfl | rfl <;> first | rfl | exact hvo)) fun h5 w5 _ => ?_
  have c2 := w5.rawAll (k := (5, 0)) (e := T.api_Func) (B := R) (l := [.int .i64 f.params, vo]) (n := 1) Own.upd_self
  simp [c2]
  have a6 := le_plus (h := h5) (w5.av (0, 1) _ rfl)
  obtain ⟨w6, s6⟩ := w5.freeze (k := (0, 1)) (v := vo) (l := (fewS f).blocks) rfl
  refine hK _ _ ⟨_, View.le_trans hW1 (View.le_trans hW4 a6), w6.sub fun k i hk => ?_, _, rfl, [.int .i64 f.params], [vo], rfl, ⟨rfl, cpr⟩, vo, rfl, s6⟩
  have hk10 : ¬ k.1 < 10 := fun hlt => by rw [ho0 k hlt] at hk; cases hk
  rw [Own.upd_ne (by rintro rfl; exact hk10 (by decide)), Own.upd_ne (by rintro rfl; exact hk10 (by decide)), fe_o hk10]
  exact hk
end Go.Proofs.Ytfelpjfopgiabaa
namespace Go.Proofs.Ytfelpjfopgiabaa
open Go Go.Lft
abbrev RSt := List Bool × List Int
def rchIn (wo : Int) (to : List Int) (k : Nat) (s : RSt) : RSt :=
 if (0 ≤ nth to k ∧ nth to k < s.1.length) ∧ nth s.1 (nth to k).toNat = false ∧ nth to k ≠ wo then (s.1.set (nth to k).toNat true, s.2 ++ [nth to k]) else s
def rchRow (f : FuncD) (wo : Int) (i : Nat) (s : RSt) : RSt := up (rchIn wo (nth f.blocks (nth s.2 i).toNat).term.to) (nth f.blocks (nth s.2 i).toNat).term.to.length s
def rchS (f : FuncD) (wo : Int) : Nat → Nat → RSt → RSt
 | 0, _, s => s
 | n + 1, i, s => if i < s.2.length then rchS f wo n (i + 1) (rchRow f wo i s) else s
def rch0 (f : FuncD) (wo : Int) : RSt := if wo ≠ 0 ∧ 0 < f.blocks.length then ((List.replicate f.blocks.length false).set 0 true, [0]) else (List.replicate f.blocks.length false, [])
def reachedS (f : FuncD) (wo : Int) : List Bool := (rchS f wo (f.blocks.length + 1) 0 (rch0 f wo)).1
structure ROk (n : Nat) (s : RSt) : Prop where
 len : s.1.length = n
 cnt : s.2.length + falses s.1 ≤ n
 rng : ∀ x ∈ s.2, 0 ≤ x ∧ x < n
theorem rchIn_ok {n : Nat} {wo : Int} {to : List Int} {k : Nat} {s : RSt} (h : ROk n s) : ROk n (rchIn wo to k s) := by
 unfold rchIn
 split
 ·rename_i hc
  have hf := falses_set (t := s.1) (i := (nth to k).toNat) (by omega) hc.2.1
  refine ⟨by simpa using h.len, ?_, fun x hx => ?_⟩
  ·have := h.cnt
   simp only [List.length_append, List.length_singleton]; omega
  ·rcases List.mem_append.1 hx with hx | hx
   ·exact h.rng x hx
   ·rw [List.mem_singleton.1 hx, ← h.len]; exact hc.1
 ·exact h
theorem rchUp_ok {n : Nat} {wo : Int} {to : List Int} {s : RSt} (h : ROk n s) (m : Nat) : ROk n (up (rchIn wo to) m s) := up_inv (ROk n) (fun k x hx => rchIn_ok hx) m s h
theorem rch0_ok {f : FuncD} {wo : Int} : ROk f.blocks.length (rch0 f wo) := by
 unfold rch0
 have hfa : falses (List.replicate f.blocks.length false) = f.blocks.length := by simp [falses]
 split
 ·rename_i hc
  have hf := falses_set (t := List.replicate f.blocks.length false) (i := 0) (by simpa using hc.2) (by rw [nth_eq (by simpa using hc.2)]; simp)
  exact ⟨by simp, by simp only [List.length_singleton]; omega, fun x hx => by rw [List.mem_singleton.1 hx]; omega⟩
 ·exact ⟨by simp, by simp only [List.length_nil]; omega, fun x hx => by cases hx⟩
theorem rchS_ok {f : FuncD} {wo : Int} : ∀ {m i : Nat} {s : RSt}, ROk f.blocks.length s → ROk f.blocks.length (rchS f wo m i s)
 | 0, _, _, h => h
 | m + 1, i, s, h => by
  rw [rchS]
  split
  ·exact rchS_ok (rchUp_ok h _)
  ·exact h
theorem reachedS_len {f : FuncD} {wo : Int} : (reachedS f wo).length = f.blocks.length := (rchS_ok rch0_ok).len
def rchOwn (vo vq : Value) (s : RSt) : Own := fun k => if k = (0, 0) then it T.bool vo s.1 else if k = (0, 1) then it T.int vq s.2 else none
theorem reached_ok {f : FuncD} {wo : Int} {v : Value} {h : Heap} (hv : Rd (vw h) v f) (hn : f.blocks.length ≤ 1000000) :
  HCalls Try.prog N.ref03_Reached #[v, .int .i64 wo] h (fun u h' => (vw h).le (vw h') ∧ SlRd (fresh h h') u (reachedS f wo)) := by
 refine calls_lift (args := [v, .int .i64 wo]) follows F.ref03_Reached E.ref03_Reached (Nat.le_of_ble_eq_true (by kernel_rfl)) fun K hK => ?_
 dsimp only [L.ref03_Reached]
 refine lwp_hide fun z hz => ?_
 simp
 refine do_boxT rfl hv fun h1 _ hle1 hsz1 hat => ?_
 obtain ⟨_, vb, cb⟩ := at_funcB hat
 generalize h.size = B at cb
 rw [hz]; clear hz z
 refine lwp_hide fun z hz => ?_
 simp [cb.1, cb.2.len]
 refine do_make (α := Bool) (W := vw h1) (k := .i64) (n := f.blocks.length) (d := false) El.s_bool (by simp) (by simp) rfl (by omega) (by omega) fun vo h2 o2 m2 hle2 hb2 => ?_
 have w2 := (Owns.start (h := h1) (View.le_refl (vw h1))).add (k := (0, 0)) rfl o2 hle2 (fun b hb => by rw [hb2] at hb; cases hb; exact Nat.le_refl _)
 rw [hz]; clear hz z
 refine lwp_hide fun z hz => ?_
 simp
 refine do_lit0 (α := Int) El.s_int fun h3 hle3 hsz3 own3 => ?_
 have w3 := w2.add (k := (0, 1)) rfl (own3 _) hle3 (fun b hb => by simp only [Value.ownBlock, Option.some.injEq] at hb; omega)
 have w3 : Owns (vw h1) h3 (rchOwn vo (.slice (some ⟨h2.size, 0, none⟩) 0 0) (List.replicate f.blocks.length false, [])) := w3.congr fun q => by
  unfold rchOwn Own.upd
  repeat' split
  all_goals first | rfl | simp_all
 generalize Value.slice (some ⟨h2.size, 0, none⟩) 0 0 = vq at w3
 rw [hz]; clear hz z
 refine lwp_hide fun z hz => ?_
 have cc3 := cellH_mono w3.wle cb.1
 have cb3 := cb.2.mono w3.wle
 have fin : ∀ (h4 : Heap) (vq : Value) (tl : Env), Owns (vw h1) h4 (rchOwn vo vq (rch0 f wo)) → @LC.wp noPP Try.prog z (@fnPost [.tmp 4] K) ([(0, v), (1, .int .i64 wo), (2, .pointer (some ⟨B, 0, none⟩)), (4, .slice none 0 0), (5, vo), (6, vq)] ++ tl) h4 := by
  intro h4 vq tl w4
  rw [hz]; clear hz z
  refine lwp_hide fun z hz => ?_
  simp
  refine lwp_loop [1, 2, 5, 6, 7] (fun m ρ h5 => ∃ (i : Nat) (s : RSt) (vq : Value), i ≤ f.blocks.length ∧ m = f.blocks.length + 1 - i ∧ ρ = [(1, .int .i64 wo), (2, .pointer (some ⟨B, 0, none⟩)), (5, vo), (6, vq), (7, .int .i64 i)] ∧ Owns (vw h1) h5 (rchOwn vo vq s) ∧ ROk f.blocks.length s ∧
   (rchS f wo m i s).1 = reachedS f wo) (f.blocks.length + 1) ⟨0, _, vq, by omega, rfl, by simp [keepE, look_setE], w4, rch0_ok, rfl⟩ ?_
  rintro m ρ h5 ⟨i, s, vq5, hi, rfl, rfl, w5, hok, hfin⟩ K2 hK2
  have no := w5.now (k := (0, 0)) (v := vo) (l := s.1) rfl
  have nq := w5.now (k := (0, 1)) (v := vq5) (l := s.2) rfl
  have hcnt := hok.cnt
  by_cases hlt : i < s.2.length
  ·have hm : f.blocks.length + 1 - i = (f.blocks.length - i) + 1 := by omega
   rw [hm, rchS, if_pos hlt] at hfin
   obtain ⟨r0, r1⟩ := hok.rng _ (nth_mem hlt)
   have cb5 := cb.2.mono w5.wle
   obtain ⟨w, hw⟩ := sl_toAt cb5 (i := (nth s.2 i).toNat) (by omega)
   obtain ⟨w', hw'⟩ := sl_toAt cb.2 (i := (nth s.2 i).toNat) (by omega)
   have eww : w' = w := Option.some.inj ((cellH_mono w5.wle hw'.1).symm.trans hw.1)
   rw [eww] at hw'
   have hwb := hw.2.bound
   have hrow : rchRow f wo i s = up (rchIn wo (nth f.blocks (nth s.2 i).toNat).term.to) (nth f.blocks (nth s.2 i).toNat).term.to.length s := rfl
   rw [hrow] at hfin
   generalize hto : (nth f.blocks (nth s.2 i).toNat).term.to = to at hw hw' hwb hfin
   refine lwp_hide fun y hy => ?_
   simp (disch := omega) [nq.len, hlt]
   rw [hy]; clear hy y
   refine lwp_hide fun y hy => ?_
   refine lwp_hide fun x hx => ?_
   simp (disch := omega) [cellH_mono w5.wle cb.1, cb5.idxn (N := 6) rfl, nq.idx1 rfl, nq.int (View.le_refl _), hw.1]
   rw [hx]; clear hx x
   simp
   refine lwp_for [1, 2, 5, 6, 7, 8, 9] (fun (q : Value) j => [.int .i64 wo, .pointer (some ⟨B, 0, none⟩), vo, q, .int .i64 i, w, .int .i64 j]) (fun q j h6 => Owns (vw h1) h6 (rchOwn vo q (up (rchIn wo to) j s))) to.length vq5
    rfl (by omega) rfl w5 (fun _ _ => rfl) (fun v j h4 hk m => by simp [hw.2.len]) ?_ ?_
   ·rintro q j h6 hltj w6 K3 hK3
    have hst : up (rchIn wo to) (j + 1) s = rchIn wo to j (up (rchIn wo to) j s) := rfl
    have hok6 := rchUp_ok (wo := wo) (to := to) hok j
    generalize up (rchIn wo to) j s = s6 at w6 hst hok6
    have no6 := w6.now (k := (0, 0)) (v := vo) (l := s6.1) rfl
    have nq6 := w6.now (k := (0, 1)) (v := q) (l := s6.2) rfl
    have hcnt6 := hok6.cnt
    have hlen6 := hok6.len
    have hr6 := hw'.2.mono w6.wle
    have hrng := hw'.2.range hltj
    rw [rchIn] at hst
    by_cases c1 : 0 ≤ nth to j ∧ nth to j < s6.1.length
    ·have c1a := c1.1
     have c1b := c1.2
     cases c2 : nth s6.1 (nth to j).toNat with
     | true =>
      rw [if_neg (by rw [c2]; simp)] at hst
      simp (disch := omega) [hr6.idx1 rfl, hr6.int (View.le_refl _), no6.len, no6.idx1 rfl, no6.bool (View.le_refl _), c1a, c1b, c2]
      exact hK3 q _ _ rfl rfl (by rw [hst]; exact w6)
     | false =>
      by_cases c3 : nth to j = wo
      ·rw [if_neg (by simp [c3])] at hst
       rw [c3] at c1a c1b c2
       simp (disch := omega) [hr6.idx1 rfl, hr6.int (View.le_refl _), no6.len, no6.idx1 rfl, no6.bool (View.le_refl _), c1a, c1b, c2, c3]
       exact hK3 q _ _ rfl rfl (by rw [hst]; exact w6)
      ·rw [if_pos ⟨c1, c2, c3⟩] at hst
       refine lwp_hide fun x hx => ?_
       simp (disch := omega) [hr6.idx1 rfl, hr6.int (View.le_refl _), no6.len, no6.idx1 rfl, no6.bool (View.le_refl _), c1a, c1b, c2, c3]
       rw [hx]; clear hx x
       simp (disch := omega) [hr6.idx1 rfl, hr6.int (View.le_refl _), no6.idx1 rfl]
       refine w6.do_put (k := (0, 0)) (α := Bool) (l := s6.1) (v := vo) (i := (nth to j).toNat) (d := true) rfl (by kernel_rfl) (by simp [show Rep.n Bool = 1 from rfl]) (by simp <;> rfl) (by omega) rd_b fun h7 w7 hs7 => ?_
       have hr7 := hw'.2.mono w7.wle
       simp (disch := omega) [hr7.idx1 rfl, hr7.int (View.le_refl _)]
       refine w7.do_push (k := (0, 1)) (α := Int) (v := q) (l := s6.2) (d := nth to j) rfl El.s_int (by simp <;> rfl) (rd_i hrng.1 hrng.2) (by omega) (by omega) (fun _ => by simp) (fun _ => by simp) fun u q8 h8 w8 hs8 => ?_
       refine hK3 q8 _ _ rfl rfl ?_
       rw [hst]
       refine w8.congr fun q => ?_
       unfold rchOwn Own.upd
       repeat' split
       all_goals first | rfl | simp_all
    ·rw [if_neg (fun e => c1 e.1)] at hst
     by_cases c1a : 0 ≤ nth to j
     ·have c1b : ¬ nth to j < s6.1.length := fun e => c1 ⟨c1a, e⟩
      simp (disch := omega) [hr6.idx1 rfl, hr6.int (View.le_refl _), no6.len, c1a, c1b]
      exact hK3 q _ _ rfl rfl (by rw [hst]; exact w6)
     ·simp (disch := omega) [hr6.idx1 rfl, hr6.int (View.le_refl _), no6.len, c1a]
      exact hK3 q _ _ rfl rfl (by rw [hst]; exact w6)
   ·rintro q h6 w6
    simp
    rw [hy]; clear hy y
    simp (disch := omega)
    exact hK2 (f.blocks.length + 1 - (i + 1)) _ _ (by omega) ⟨i + 1, _, q, by omega, rfl, by simp [keepE], w6, rchUp_ok hok _, by rw [show f.blocks.length + 1 - (i + 1) = f.blocks.length - i by omega]; exact hfin⟩
  ·have hlt' : ¬ (i : Int) < s.2.length := by omega
   simp (disch := omega) [L.ref03_Reached.l1, nq.len, hlt]
   rw [hz]; clear hz z
   simp
   have hs1 : s.1 = reachedS f wo := by
    rw [← hfin]
    cases f.blocks.length + 1 - i with
    | zero => rfl
    | succ m => rw [rchS, if_neg hlt]
   have ow := w5.get (k := (0, 0)) (v := vo) (l := s.1) rfl
   refine hK _ _ ⟨View.le_trans hle1 w5.wle, ?_⟩
   rw [← hs1]
   have ow' : OwnT nothing h5 T.bool vo s.1 := ow
   refine ow'.fresh (fun _ _ h => by cases h) fun b hb => ?_
   rw [hb2] at hb; cases hb
   exact View.none_of_ge (View.le_refl _) (by omega)
 by_cases c1 : wo = 0
 ·have hr0 : rch0 f wo = (List.replicate f.blocks.length false, []) := by rw [rch0, if_neg (fun e => e.1 c1)]
  rw [hr0] at fin
  simp [cc3, cb3.len, c1]
  rw [c1] at fin
  exact fin _ _ _ w3
 ·by_cases c2 : 0 < f.blocks.length
  ·have hr0 : rch0 f wo = ((List.replicate f.blocks.length false).set 0 true, [0]) := by rw [rch0, if_pos ⟨c1, c2⟩]
   rw [hr0] at fin
   have no := w3.now (k := (0, 0)) (v := vo) (l := List.replicate f.blocks.length false) rfl
   refine lwp_hide fun y hy => ?_
   simp (disch := omega) [cc3, cb3.len, c1, c2]
   rw [hy]; clear hy y
   have i0 : Bn.ev (.idx 1) vo (.int .i64 0) = some (.pointer (some ((slA vo).add 0))) := no.idx1 rfl (by omega) (by simpa using c2)
   simp (disch := omega) [i0]
   refine w3.do_put (k := (0, 0)) (α := Bool) (l := List.replicate f.blocks.length false) (v := vo) (i := 0) (d := true) rfl (by kernel_rfl) (by simp [show Rep.n Bool = 1 from rfl]) (by simp <;> rfl) (by simpa using c2) rd_b fun h4 w4 hs4 => ?_
   refine w4.do_push (k := (0, 1)) (α := Int) (v := vq) (l := []) (d := 0) rfl El.s_int (by simp <;> rfl) (rd_i (by omega) (by omega)) (by simp) (by simp) (fun _ => by simp) (fun _ => by simp) fun u q5 h5 w5 hs5 => ?_
   refine fin _ _ _ (w5.congr fun q => ?_)
   unfold rchOwn Own.upd
   repeat' split
   all_goals first | rfl | simp_all
  ·have hr0 : rch0 f wo = (List.replicate f.blocks.length false, []) := by rw [rch0, if_neg (fun e => c2 e.2)]
   rw [hr0] at fin
   simp [cc3, cb3.len, c1, c2]
   exact fin _ _ _ w3
end Go.Proofs.Ytfelpjfopgiabaa
namespace Go.Proofs.Ytfelpjfopgiabaa
open Go Go.Lft
instance : Rep Th := Rep.via fun d => Cat.mk d.blk (Cat.mk d.place (Cat.mk d.mks d.tks))
theorem Th.p_blk : Part Th Int 0 Th.blk (fun d x => { d with blk := x }) := (Part.fst Part.all).via (fun _ => rfl) fun _ _ => rfl
theorem Th.p_place : Part Th Int 1 Th.place (fun d x => { d with place := x }) := (Part.snd (Part.fst Part.all)).via (fun _ => rfl) fun _ _ => rfl
theorem Th.p_mks : Part Th (List Int) 2 Th.mks (fun d x => { d with mks := x }) := (Part.snd (Part.snd (Part.fst Part.all))).via (fun _ => rfl) fun _ _ => rfl
theorem Th.p_tks : Part Th (List Int) 3 Th.tks (fun d x => { d with tks := x }) := (Part.snd (Part.snd (Part.snd Part.all))).via (fun _ => rfl) fun _ _ => rfl
structure ThR where
 blk : Int
 place : Int
 mks : List Int
 tks : Raw
instance : Rep ThR := Rep.via fun d => Cat.mk d.blk (Cat.mk d.place (Cat.mk d.mks d.tks))
theorem ThR.p_tks : Part ThR Raw 3 ThR.tks (fun d x => { d with tks := x }) := (Part.snd (Part.snd (Part.snd Part.all))).via (fun _ => rfl) fun _ _ => rfl
theorem rd_th {H : View} {a b : Int} {u q : Value} {m t : List Int} (ha : I64 a) (hb : I64 b) (hm : SlRd H u m) (ht : SlRd H q t) : Rd H (.agg #[.int .i64 a, .int .i64 b, u, q]) (Th.mk a b m t) :=
 ⟨_, rfl, [.int .i64 a], [.int .i64 b, u, q], rfl, ⟨rfl, ha⟩, [.int .i64 b], [u, q], rfl, ⟨rfl, hb⟩, [u], [q], rfl, ⟨u, rfl, hm⟩, ⟨q, rfl, ht⟩⟩
theorem rd_thR {H : View} {a b : Int} {u q : Value} {m : List Int} (ha : I64 a) (hb : I64 b) (hm : SlRd H u m) (hq : q.oneCell' = true) : Rd H (.agg #[.int .i64 a, .int .i64 b, u, q]) (ThR.mk a b m ⟨q⟩) :=
 ⟨_, rfl, [.int .i64 a], [.int .i64 b, u, q], rfl, ⟨rfl, ha⟩, [.int .i64 b], [u, q], rfl, ⟨rfl, hb⟩, [u], [q], rfl, ⟨u, rfl, hm⟩, ⟨rfl, hq⟩⟩
theorem thR_cells {H : View} {cs : List Value} {d : ThR} (h : Rep.rd H cs d) : ∃ u, cs = [.int .i64 d.blk, .int .i64 d.place, u, d.tks.v] ∧ I64 d.blk ∧ I64 d.place ∧ SlRd H u d.mks := by
 obtain ⟨c1, r1, rfl, ⟨rfl, h1⟩, c2, r2, rfl, ⟨rfl, h2⟩, c3, r3, rfl, ⟨u, rfl, h3⟩, rfl, _⟩ := h
 exact ⟨u, rfl, h1, h2, h3⟩
def outOwn (vo : Value) (l : List Th) : Own := fun k => if k = (0, 0) then it T.ref03_Thing vo l else none
def outOwn3 (vo : Value) (l : List Th) (D : Nat) (d : ThR) (q : Value) (t : List Int) : Own := fun k => if k = (0, 0) then it T.ref03_Thing vo l else if k = (1, 0) then bx T.ref03_Thing D d else if k = (1, 1) then it T.int q t else none
structure ThS (V : View) (h0 : Heap) (vo : Value) (l : List Th) (W : View) (h : Heap) : Prop where
 own : Owns W h (outOwn vo l)
 old : Old V h0 W
 le : (vw h0).le (vw h)
 av : Av (vw h0) vo
theorem ThS.ext {V : View} {h0 : Heap} {vo : Value} {l : List Th} {W : View} {h h' : Heap} (k : ThS V h0 vo l W h) (hle : (vw h).le (vw h')) : ThS V h0 vo l (grow W h h') h' :=
 ⟨k.own.ext hle, k.old.grow (ext_size k.le), View.le_trans k.le hle, k.av⟩
theorem do_thing {po : OP} {ty : TypeId} {us : List (Nat × Value)} {h : Heap} {K : Value → Heap → Prop} {x y z w : Operand} {a b : Int} {u q : Value} (hx : asg us x = .int .i64 a) (hy : asg us y = .int .i64 b) (hz : asg us z = u) (hw : asg us w = q) (hu : u.cells = #[u]) (hq : q.cells = #[q]) (hk : K (.agg #[.int .i64 a, .int .i64 b, u, q]) h) :
  Lft.step Try.prog (.build T.ref03_Thing #[(0, x), (1, y), (2, z), (3, w)]) ty us h K :=
 do_build (z := .agg #[.int .i64 0, .int .i64 0, .slice none 0 0, .slice none 0 0]) (places := [(0, 1), (1, 1), (2, 1), (3, 1)]) (vs := [(0, .int .i64 a), (1, .int .i64 b), (2, u), (3, q)]) (cs := #[.int .i64 a, .int .i64 b, u, q]) (by kernel_rfl) (by kernel_rfl) (by simp [hx, hy, hz, hw])
  (by simp [Instr.fill, hu, hq]) hk
theorem do_thing2 {po : OP} {ty : TypeId} {us : List (Nat × Value)} {h : Heap} {K : Value → Heap → Prop} {x y z : Operand} {a b : Int} {u : Value} (hx : asg us x = .int .i64 a) (hy : asg us y = .int .i64 b) (hz : asg us z = u) (hu : u.cells = #[u]) (hk : K (.agg #[.int .i64 a, .int .i64 b, u, .slice none 0 0]) h) :
  Lft.step Try.prog (.build T.ref03_Thing #[(0, x), (1, y), (2, z)]) ty us h K :=
 do_build (z := .agg #[.int .i64 0, .int .i64 0, .slice none 0 0, .slice none 0 0]) (places := [(0, 1), (1, 1), (2, 1), (3, 1)]) (vs := [(0, .int .i64 a), (1, .int .i64 b), (2, u)]) (cs := #[.int .i64 a, .int .i64 b, u, .slice none 0 0]) (by kernel_rfl) (by kernel_rfl) (by simp [hx, hy, hz])
  (by simp [Instr.fill, hu]) hk
theorem do_thing3 {po : OP} {ty : TypeId} {us : List (Nat × Value)} {h : Heap} {K : Value → Heap → Prop} {x y w : Operand} {a b : Int} {q : Value} (hx : asg us x = .int .i64 a) (hy : asg us y = .int .i64 b) (hw : asg us w = q) (hq : q.cells = #[q]) (hk : K (.agg #[.int .i64 a, .int .i64 b, .slice none 0 0, q]) h) :
  Lft.step Try.prog (.build T.ref03_Thing #[(0, x), (1, y), (3, w)]) ty us h K :=
 do_build (z := .agg #[.int .i64 0, .int .i64 0, .slice none 0 0, .slice none 0 0]) (places := [(0, 1), (1, 1), (2, 1), (3, 1)]) (vs := [(0, .int .i64 a), (1, .int .i64 b), (3, q)]) (cs := #[.int .i64 a, .int .i64 b, .slice none 0 0, q]) (by kernel_rfl) (by kernel_rfl) (by simp [hx, hy, hw])
  (by simp [Instr.fill, hq]) hk
theorem refThings_ok {f : FuncD} {v : Value} {V : View} {h : Heap} (hv : Rd V v f) (hV : V.le (vw h)) (hsm : SmF f) :
  HCalls Try.prog N.ref03_Things #[v] h (fun u h' => (vw h).le (vw h') ∧ SlRd (grow V h h') u (thingsS f)) := by
 refine calls_lift (args := [v]) follows F.ref03_Things E.ref03_Things (Nat.le_of_ble_eq_true (by kernel_rfl)) fun K hK => ?_
 have hn := hsm.len
 dsimp only [L.ref03_Things]
 refine lwp_hide fun z hz => ?_
 simp
 refine do_box (v := v) rfl ?_
 have hle1 := push_le h (.cells v.cells T.api_Func)
 have hat1 : At (grow V h (h.push (.cells v.cells T.api_Func))) ⟨h.size, 0, none⟩ f := at_new (t := T.api_Func) (fz := (0, 0)) (by rw [grow_new (Nat.le_refl _)]; simp) (hv.mono (le_grow hV))
 have hs1 : (h.push (.cells v.cells T.api_Func)).size = h.size + 1 := by simp
 generalize h.push (.cells v.cells T.api_Func) = h1 at hle1 hat1 hs1
 have hW1 : (grow V h h1).le (vw h1) := grow_le (View.le_trans hV hle1)
 have old1 : Old V h (grow V h h1) := (Old.refl V h).grow (Nat.le_refl _)
 obtain ⟨_, vb, cb⟩ := at_funcB hat1
 generalize grow V h h1 = W1 at cb hW1 old1
 generalize h.size = B at cb
 rw [hz]; clear hz z
 refine lwp_hide fun z hz => ?_
 simp
 refine do_lit0 (α := Th) El.s_ref03_Thing fun h2 hle2 hsz2 own2 => ?_
 have t2 : ThS V h (.slice (some ⟨h1.size, 0, none⟩) 0 0) [] W1 h2 := ⟨((Owns.start hW1).add (k := (0, 0)) rfl (own2 _) hle2 (fun b hb => by simp only [Value.ownBlock, Option.some.injEq] at hb; omega)).congr fun q => by
   unfold outOwn Own.upd
   repeat' split
   all_goals first | rfl | simp_all, old1, View.le_trans hle1 hle2, fun b hb => by cases hb; exact View.none_of_ge (View.le_refl _) (by show h.size ≤ h1.size; omega)⟩
 generalize Value.slice (some ⟨h1.size, 0, none⟩) 0 0 = v0 at t2
 rw [hz]; clear hz z
 refine lwp_hide fun z hz => ?_
 simp
 refine lwp_for [1, 3, 4] (fun (r : Value) b => [.pointer (some ⟨B, 0, none⟩), r, .int .i64 b]) (fun r b h3 => ∃ W, W1.le W ∧ ThS V h r (thTo f b) W h3) f.blocks.length v0
  rfl (by omega) rfl ⟨W1, View.le_refl _, t2⟩ (fun _ _ => rfl) (fun v k h3 hk ⟨W, q1, q2⟩ => by simp [cellH_mono (View.le_trans q1 q2.own.wle) cb.1, (cb.2.mono (View.le_trans q1 q2.own.wle)).len]) ?_ ?_
 ·rintro r b h3 hltb ⟨W3, hW3, t3⟩ K2 hK2
  have hl3 := thTo_len hsm (n := b) (by omega)
  have cb3 := cb.2.mono (View.le_trans hW3 t3.own.wle)
  have cc3 := cellH_mono (View.le_trans hW3 t3.own.wle) cb.1
  obtain ⟨u, hu, hur⟩ := (cb.2.mono hW3).wh rfl (N := 6) rfl hltb
  have sb := hsm.blk b hltb
  refine lwp_hide fun y hy => ?_
  simp (disch := omega) [cc3, cb3.idxn (N := 6) rfl, hu _ t3.own.wle]
  refine do_newX (X := W3) (z := .agg #[.slice none 0 0, .slice none 0 0, .int .i64 0, .slice none 0 0, .slice none 0 0, .int .i32 0]) (by kernel_rfl) rfl (by kernel_rfl) hur (fun _ => by simp) (fun _ => by simp) fun h4 hle4 hsz4 hat4 => ?_
  have t4 := t3.ext hle4
  have hat4' := hat4 (grow W3 h3 h4) (le_grow t3.own.wle) (grow_new (Nat.le_refl _))
  obtain ⟨vp, vi, va, vt, bp, bi, bk, ba, bt⟩ := at_blkB hat4'
  have hW4 := View.le_trans hW3 (le_grow (h' := h4) t3.own.wle)
  generalize grow W3 h3 h4 = W4 at t4 bp bi bk ba bt hW4
  generalize h3.size = D at bp bi bk ba bt
  rw [hy]; clear hy y
  refine lwp_hide fun y hy => ?_
  simp
  have sp := sb.phis
  refine lwp_for [1, 3, 4, 5, 6] (fun (r : Value) i => [.pointer (some ⟨B, 0, none⟩), r, .int .i64 b, .pointer (some ⟨D, 0, none⟩), .int .i64 i]) (fun r i h5 => ∃ W, W4.le W ∧ ThS V h r (thTo f b ++ rows (phiT f b) i) W h5) (nth f.blocks b).phis.length r
   rfl (by omega) rfl ⟨W4, View.le_refl _, by simpa using t4⟩ (fun _ _ => rfl) (fun v k h3 hk ⟨W, q1, q2⟩ => by simp [cellH_mono (View.le_trans q1 q2.own.wle) bp.1, (bp.2.mono (View.le_trans q1 q2.own.wle)).len]) ?_ ?_
  ·rintro r i h5 hlti ⟨W5, hW5, t5⟩ K3 hK3
   have bp5 := bp.2.mono hW5
   have bph := bp5.mono t5.own.wle
   have cph := cellH_mono (View.le_trans hW5 t5.own.wle) bp.1
   have hap := (bp5.at hlti)
   rw [← nth_eq hlti] at hap
   have hdst : cellH W5 (((slA vp).add (i * 2)).add 0) = some (.int .i64 (nth (nth f.blocks b).phis i).dst) := (hap.part PhiD.p_dst).int
   have hdr := (hap.part PhiD.p_dst).rng
   obtain ⟨vq, hvq⟩ := (hap.part PhiD.p_ins).sl
   have hvq1 : cellH W5 (((slA vp).add (i * 2)).add 1) = some vq := hvq.1
   have hvq2 := hvq.2
   have hpl := sb.phi i hlti
   have hpt : phiT f b i = ⟨b, -1 - i, [(nth (nth f.blocks b).phis i).dst], (nth (nth f.blocks b).phis i).ins.map InD.val⟩ := rfl
   generalize nth (nth f.blocks b).phis i = x at hdst hdr hvq2 hpl hpt
   refine lwp_hide fun q hq => ?_
   simp (disch := omega) [cph, bph.idxn (N := 2) rfl, cellH_mono t5.own.wle hdst]
   refine do_litN (X := nothing) (ds := [x.dst]) (vs := [.int .i64 x.dst]) rfl El.s_int (by simp) ⟨rd_int.2 ⟨rfl, hdr⟩, trivial⟩ nothing_le rfl (by omega) fun u6 h6 hle6 hsz6 hu6 hub6 => ?_
   have hu6n := hu6 (vw h6) nothing_le rfl
   refine do_thing2 rfl rfl rfl hu6n.cells.1 ?_
   simp
   refine do_newV (n := 4) (v := .agg #[.int .i64 b, .int .i64 (-1 - i), u6, .slice none 0 0]) (z := .agg #[.int .i64 0, .int .i64 0, .slice none 0 0, .slice none 0 0]) (by kernel_rfl) rfl (by kernel_rfl) rfl (by intro c hc; simp at hc; rcases hc with rfl | rfl | rfl | rfl <;> first | rfl | exact hu6n.cells.2) (fun _ => by simp) (fun _ => by simp) fun h7 hle7 hsz7 hb7 => ?_
   have w6 := t5.own.ext hle6
   have w7 := (w6.add (k := (1, 0)) rfl (ownT_box (h := h7) (d := ThR.mk b (-1 - i) [x.dst] ⟨.slice none 0 0⟩) hb7 (rd_thR ⟨by omega, by omega⟩ ⟨by omega, by omega⟩ (hu6 _ nothing_le (grow_new (Nat.le_refl _))) rfl) (by decide)) hle7 (fun b hb => by simp only [Value.ownBlock, Option.some.injEq] at hb; omega)).add (k := (1, 1)) rfl (OwnT.nil (α := Int) _ h7 T.int) (View.le_refl _) (fun b hb => by simp [Value.ownBlock] at hb)
   have w7 : Owns (grow W5 h5 h6) h7 (outOwn3 r (thTo f b ++ rows (phiT f b) i) h6.size (ThR.mk b (-1 - i) [x.dst] ⟨.slice none 0 0⟩) (.slice none 0 0) []) := w7.congr fun q => by
    unfold outOwn3 outOwn Own.upd
    repeat' split
    all_goals first | rfl | simp_all
   have hW7 := View.le_trans hW5 (le_grow (h' := h6) t5.own.wle)
   have old7 := t5.old.grow (h1 := h5) (h2 := h6) (ext_size t5.le)
   have hle07 := View.le_trans t5.le (View.le_trans hle6 hle7)
   have hvq7 := hvq2.mono (le_grow (h' := h6) t5.own.wle)
   have cvq7 := cellH_mono (le_grow (h' := h6) t5.own.wle) hvq1
   generalize grow W5 h5 h6 = W7 at w7 hW7 old7 hvq7 cvq7
   have hD7 : h.size ≤ h6.size := Nat.le_trans (ext_size t5.le) (ext_size hle6)
   generalize h6.size = D7 at w7 hD7
   rw [hq]; clear hq q
   refine lwp_hide fun q hq => ?_
   simp
   refine lwp_for [1, 3, 4, 5, 6, 7, 8] (fun (q : Value) j => [.pointer (some ⟨B, 0, none⟩), r, .int .i64 b, .pointer (some ⟨D, 0, none⟩), .int .i64 i, .pointer (some ⟨D7, 0, none⟩), .int .i64 j])
    (fun q j h8 => Owns W7 h8 (outOwn3 r (thTo f b ++ rows (phiT f b) i) D7 (ThR.mk b (-1 - i) [x.dst] ⟨q⟩) q ((x.ins.map InD.val).take j)) ∧ (vw h).le (vw h8) ∧ Av (vw h) q) x.ins.length (.slice none 0 0)
    rfl (by omega) rfl ⟨w7, hle07, Av.nil _ _ _⟩ (fun _ _ => rfl) (fun v k h8 hk ⟨w8, q2⟩ => by
     have bp8 := (bp.2.mono hW7).mono w8.wle
     simp (disch := omega) [cellH_mono (View.le_trans hW7 w8.wle) bp.1, bp8.idxn (N := 2) rfl, cellH_mono w8.wle cvq7, (hvq7.mono w8.wle).len]) ?_ ?_
   ·rintro q8 j h8 hltj ⟨w8, hle08, av8⟩ K4 hK4
    have bp8 := (bp.2.mono hW7).mono w8.wle
    have hv8 := hvq7.mono w8.wle
    have hai := (hvq7.at hltj)
    rw [← nth_eq hltj] at hai
    have hval : cellH W7 (((slA vq).add (j * 2)).add 1) = some (.int .i64 (nth x.ins j).val) := (hai.part InD.p_val).int
    have hvr := (hai.part InD.p_val).rng
    have hl8 : ((x.ins.map InD.val).take j).length = j := by simp; omega
    have htk : (x.ins.map InD.val).take (j + 1) = (x.ins.map InD.val).take j ++ [(nth x.ins j).val] := by
     rw [List.take_add_one, List.getElem?_map, List.getElem?_eq_getElem hltj, nth_eq hltj]; rfl
    have hq8 : cellH (vw h8) ⟨D7, 3, none⟩ = some q8 := by
     have := ((w8.at (k := (1, 0)) (e := T.ref03_Thing) (B := D7) (d := ThR.mk b (-1 - i) [x.dst] ⟨q8⟩) rfl).part ThR.p_tks).raw
     simpa using this
    refine drawn_at (vw h8) (View.le_refl _) ?_
    simp (disch := omega) [hq8, cellH_mono (View.le_trans hW7 w8.wle) bp.1, bp8.idxn (N := 2) rfl, cellH_mono w8.wle cvq7, hv8.idxn (N := 2) rfl, cellH_mono w8.wle hval]
    refine do_one (α := Int) (W := W7) El.s_int rfl (rd_int.2 ⟨rfl, hvr⟩) fun u9 h9 hs9 hle9 hsz9 => ⟨hle9, ?_⟩
    refine (w8.ext' hle9).do_append (k := (1, 1)) (α := Int) (v := q8) (l := (x.ins.map InD.val).take j) rfl El.s_int rfl rfl hs9 (by simp; omega) (by simp; omega) fun q10 h10 w10 m10 => ?_
    have hc10 := w10.cells (k := (1, 1)) (Own.upd_self)
    obtain ⟨hX10, av10⟩ := m10.view (View.le_trans hle08 hle9) av8
    refine w10.do_fieldM (k := (1, 0)) (e := T.ref03_Thing) (B := D7) (D := ThR.mk b (-1 - i) [x.dst] ⟨q8⟩) ThR.p_tks (d := ⟨q10⟩) rfl (by kernel_rfl) rfl rfl (rd_raw.2 ⟨rfl, hc10.2⟩) fun h11 w11 hX11 => ?_
    refine hK4 q10 _ _ rfl rfl ⟨w11.congr fun p => ?_, hX11 _ hX10 (View.none_of_ge (View.le_refl _) hD7), av10⟩
    rw [htk]
    unfold outOwn3 Own.upd
    repeat' split
    all_goals first | rfl | simp_all
   ·rintro q8 h8 ⟨w8, hle08, av8⟩
    rw [List.take_of_length_le (by simp)] at w8
    simp
    rw [hq]; clear hq q
    obtain ⟨cs, hcs, hrd⟩ := w8.atW (k := (1, 0)) (e := T.ref03_Thing) (B := D7) (d := ThR.mk b (-1 - i) [x.dst] ⟨q8⟩) rfl
    obtain ⟨u9, rfl, i1, i2, hu9⟩ := thR_cells hrd
    obtain ⟨w9, hq9⟩ := w8.freeze (k := (1, 1)) (v := q8) (l := x.ins.map InD.val) rfl
    have hpl9 : W7.le (W7.plus q8 h8) := le_plus (w8.av (1, 1) _ rfl)
    have hload : Un.ev (vw h8) (.loads 4) (.pointer (some ⟨D7, 0, none⟩)) = some (.agg #[.int .i64 b, .int .i64 (-1 - i), u9, q8]) := by
     have := cellsFrom_at hcs 4 0 #[] (by rfl)
     simp [Un.ev, vP, this]
    have hold9 : Old V h (W7.plus q8 h8) := fun c o hc hco => by
     unfold View.plus at hco
     split at hco
     ·rename_i e
      have := av8 c e
      simp only [vw] at this
      rw [Array.getElem?_eq_getElem hc] at this; cases this
     ·exact old7 c o hc hco
    have w9 : Owns (W7.plus q8 h8) h8 (outOwn r (thTo f b ++ rows (phiT f b) i)) := w9.sub fun p x hp => by
     unfold outOwn at hp
     split at hp
     ·rename_i e; subst e; exact hp
     ·cases hp
    have hlr : (thTo f b ++ rows (phiT f b) i).length = (thTo f b).length + i := by simp
    simp [hload]
    refine w9.do_pushM (k := (0, 0)) (α := Th) (v := r) (l := thTo f b ++ rows (phiT f b) i) (d := phiT f b i) rfl El.s_ref03_Thing rfl (by rw [hpt]; exact rd_th i1 i2 (hu9.mono hpl9) hq9) (by omega) (by omega) (fun _ => rfl) (fun _ => rfl) fun u10 r10 h10 w10 hX10 => ?_
    obtain ⟨g1, g2⟩ := hX10 _ hle08 t5.av
    refine hK3 r10 _ _ rfl rfl ⟨W7.plus q8 h8, View.le_trans hW7 hpl9, ⟨w10.congr fun p => ?_, hold9, g1, g2⟩⟩
    rw [rows_succ, ← List.append_assoc]
    unfold outOwn Own.upd
    repeat' split
    all_goals first | rfl | simp_all
  ·rintro r h5 ⟨W5, hW5, t5⟩
   simp
   rw [hy]; clear hy y
   refine lwp_hide fun y hy => ?_
   simp
   have si := sb.ins
   refine lwp_for [1, 3, 4, 5, 9] (fun (r : Value) i => [.pointer (some ⟨B, 0, none⟩), r, .int .i64 b, .pointer (some ⟨D, 0, none⟩), .int .i64 i]) (fun r i h6 => ∃ W, W4.le W ∧ ThS V h r (thTo f b ++ rows (phiT f b) (nth f.blocks b).phis.length ++ rows (insT f b) i) W h6) (nth f.blocks b).ins.length r
    rfl (by omega) rfl ⟨W5, hW5, by simpa using t5⟩ (fun _ _ => rfl) (fun v k h3 hk ⟨W, q1, q2⟩ => by simp [cellH_mono (View.le_trans q1 q2.own.wle) bi.1, (bi.2.mono (View.le_trans q1 q2.own.wle)).len]) ?_ ?_
   ·rintro r i h6 hlti ⟨W6, hW6, t6⟩ K3 hK3
    have bi6 := bi.2.mono hW6
    have bih := bi6.mono t6.own.wle
    have cih := cellH_mono (View.le_trans hW6 t6.own.wle) bi.1
    obtain ⟨ux, hux, huxr⟩ := bi6.wh rfl (N := 5) rfl hlti
    have hap := (bi6.at hlti)
    rw [← nth_eq hlti] at hap
    obtain ⟨vq, hvq⟩ := (hap.part InsD.p_args).sl
    have hvq1 : cellH W6 (((slA vi).add (i * 5)).add 3) = some vq := hvq.1
    have hvq2 := hvq.2
    have hpt : insT f b i = ⟨b, i, makesS (nth (nth f.blocks b).ins i), (nth (nth f.blocks b).ins i).args⟩ := rfl
    generalize nth (nth f.blocks b).ins i = x at hvq2 huxr hpt
    have hlr : (thTo f b ++ rows (phiT f b) (nth f.blocks b).phis.length ++ rows (insT f b) i).length = (thTo f b).length + (nth f.blocks b).phis.length + i := by simp; omega
    refine drawn_at (vw h6) (View.le_refl _) ?_
    simp (disch := omega) [cih, bih.idxn (N := 5) rfl, hux _ t6.own.wle, cellH_mono t6.own.wle hvq1]
    refine call_to (by kernel_rfl) (refMakes_ok (huxr.mono t6.own.wle)) ?_
    rintro u7 h7 ⟨hle7, hu7, _⟩
    refine ⟨hle7, ?_⟩
    have t7 := t6.ext hle7
    have hu7' := hu7.mono (fresh_grow W6 h6 h7)
    have hvq7 := hvq2.mono (le_grow (h' := h7) t6.own.wle)
    refine do_thing rfl rfl rfl rfl hu7.cells.1 hvq2.cells.1 ?_
    simp
    refine t7.own.do_pushM (k := (0, 0)) (α := Th) (v := r) (l := thTo f b ++ rows (phiT f b) (nth f.blocks b).phis.length ++ rows (insT f b) i) (d := insT f b i) rfl El.s_ref03_Thing rfl (by rw [hpt]; exact rd_th ⟨by omega, by omega⟩ ⟨by omega, by omega⟩ hu7' hvq7) (by omega) (by omega) (fun _ => rfl) (fun _ => rfl) fun u10 r10 h10 w10 hX10 => ?_
    obtain ⟨g1, g2⟩ := hX10 _ t7.le t7.av
    refine hK3 r10 _ _ rfl rfl ⟨_, View.le_trans hW6 (le_grow (h' := h7) t6.own.wle), ⟨w10.congr fun p => ?_, t7.old, g1, g2⟩⟩
    rw [rows_succ, ← List.append_assoc]
    unfold outOwn Own.upd
    repeat' split
    all_goals first | rfl | simp_all
   ·rintro r h6 ⟨W6, hW6, t6⟩
    simp
    rw [hy]; clear hy y
    have hW6h := View.le_trans hW6 t6.own.wle
    have bih := bi.2.mono hW6h
    have cih := cellH_mono hW6h bi.1
    have hlr : (thTo f b ++ rows (phiT f b) (nth f.blocks b).phis.length ++ rows (insT f b) (nth f.blocks b).ins.length).length = (thTo f b).length + (nth f.blocks b).phis.length + (nth f.blocks b).ins.length := by simp; omega
    simp [cih, bih.len, cellH_mono hW6h ba.1]
    refine do_thing3 rfl rfl rfl (ba.2.cells.1) ?_
    simp
    refine t6.own.do_pushM (k := (0, 0)) (α := Th) (v := r) (l := thTo f b ++ rows (phiT f b) (nth f.blocks b).phis.length ++ rows (insT f b) (nth f.blocks b).ins.length) (d := endT f b) rfl El.s_ref03_Thing rfl (rd_th ⟨by omega, by omega⟩ ⟨by omega, by omega⟩ nil_sl (ba.2.mono hW6)) (by omega) (by omega) (fun _ => rfl) (fun _ => rfl) fun u10 r10 h10 w10 hX10 => ?_
    obtain ⟨g1, g2⟩ := hX10 _ t6.le t6.av
    refine hK2 r10 _ _ rfl rfl ⟨_, View.le_trans hW4 hW6, ⟨w10.congr fun p => ?_, t6.old, g1, g2⟩⟩
    have e : thTo f (b + 1) = thTo f b ++ rows (phiT f b) (nth f.blocks b).phis.length ++ rows (insT f b) (nth f.blocks b).ins.length ++ [endT f b] := by
     rw [thTo_succ, thB]; simp [List.append_assoc]
    rw [e]
    unfold outOwn Own.upd
    repeat' split
    all_goals first | rfl | simp_all
 ·rintro r h3 ⟨W3, hW3, t3⟩
  simp
  rw [hz]; clear hz z
  simp
  exact hK _ _ ⟨t3.le, (t3.own.get (k := (0, 0)) (v := r) (l := thTo f f.blocks.length) rfl).rd (t3.old.le t3.own.wle) fun b hb => by
   have := t3.av b hb
   rw [grow_new]
   rcases Nat.lt_or_ge b h.size with hlt | hge
   ·simp [vw, hlt] at this
   ·exact hge⟩
end Go.Proofs.Ytfelpjfopgiabaa
namespace Go.Proofs.Ytfelpjfopgiabaa
open Go Go.Lft
structure GotD where
 e : Int
 b : Int
 p : Int
instance : Rep GotD := Rep.via fun d => Cat.mk d.e (Cat.mk d.b d.p)
theorem at_thB {H : View} {B : Nat} {d : Th} (h : At H ⟨B, 0, none⟩ d) : cellH H ⟨B, 0, none⟩ = some (.int .i64 d.blk) ∧ cellH H ⟨B, 1, none⟩ = some (.int .i64 d.place) ∧ (∃ v, Sl H ⟨B, 2, none⟩ v d.mks) ∧ ∃ v, Sl H ⟨B, 3, none⟩ v d.tks := by
 obtain ⟨v, hv⟩ := (h.part Th.p_mks).sl
 obtain ⟨u, hu⟩ := (h.part Th.p_tks).sl
 exact ⟨by simpa using (h.part Th.p_blk).int, by simpa using (h.part Th.p_place).int, ⟨v, by simpa using hv⟩, u, by simpa using hu⟩
abbrev BL := List Bool
def blkOf (f : FuncD) (t : Th) : BlkD := nth f.blocks t.blk.toNat
def insOf (f : FuncD) (t : Th) : InsD := nth (blkOf f t).ins t.place.toNat
end Go.Proofs.Ytfelpjfopgiabaa
namespace Go.Proofs.Ytfelpjfopgiabaa
open Go Go.Lft
theorem sl_push {α : Type} [Rep α] {cs : Array Value} {e B : Nat} {ds : List α} {H : View} (hH : H B = some (.cells cs e (0, 0))) (hb : ds.length ≤ 1000) (hel : ∀ i (hi : i < ds.length), Rep.rd H ((cs.toList.drop (i * Rep.n α)).take (Rep.n α)) ds[i]) :
  SlRd H (.slice (some ⟨B, 0, none⟩) ds.length ds.length) ds :=
 ⟨some ⟨B, 0, none⟩, ds.length, rfl, Nat.le_refl _, by omega, .inr ⟨_, rfl, rfl, fun i hi => by
  rw [addr_add_none rfl]
  refine ⟨_, ⟨cs, e, (0, 0), rfl, hH, ?_⟩, hel i hi⟩
  have := Rep.len (hel i hi)
  rw [this]; simp⟩⟩
def oneF (p : Int) (l : List InsD) (t : TermD) : FuncD := ⟨p, [⟨[], l, t⟩]⟩
theorem one_ok {p : Int} {l : List InsD} {t : TermD} {vi vt : Value} {h : Heap} (hp : I64 p) (hi : SlRd (vw h) vi l) (ht : Rd (vw h) vt t) :
  HCalls Try.prog N.law03_one #[.int .i64 p, vi, vt] h (fun u h' => (vw h).le (vw h') ∧ Rd (vw h') u (oneF p l t)) := by
 refine calls_lift (args := [.int .i64 p, vi, vt]) follows F.law03_one E.law03_one (Nat.le_of_ble_eq_true (by kernel_rfl)) fun K hK => ?_
 dsimp only [L.law03_one]
 refine lwp_hide fun z hz => ?_
 simp
 refine do_boxT rfl ht fun h1 _ hle1 hs1 hat => ?_
 obtain ⟨uT, huT, huTr⟩ := hat.loads rfl
 obtain ⟨va', vt', rfl, ta, tt⟩ := term_val huTr
 have tk := (hat.part TermD.p_kind).rng
 have ti : -2147483648 ≤ t.imm.v ∧ t.imm.v ≤ 2147483647 := by
  obtain ⟨cs, _, c1, r1, _, _, c2, r2, _, _, c3, r3, _, _, _, h6⟩ := hat
  exact h6
 have huT : Un.ev (vw h1) (.loads 4) (.pointer (some ⟨h.size, 0, none⟩)) = some (.agg #[.int .i64 t.kind, va', vt', .int .i32 t.imm.v]) := huT
 generalize h.size = B at huT
 refine (Owns.start (h := h1) (View.le_refl (vw h1))).do_zero (k := (5, 0)) (n := 1) (z := .agg #[.int .i64 0, .slice none 0 0]) rfl (by kernel_rfl) rfl (by decide) (by simp [Value.cells, Value.oneCell']) fun h2 q2 w2 => ?_
 generalize h1.size = R at w2
 have huT2 : Un.ev (vw h2) (.loads 4) (.pointer (some ⟨B, 0, none⟩)) = some (.agg #[.int .i64 t.kind, va', vt', .int .i32 t.imm.v]) := by
  have := ev_mono (ρ := fun _ => none) (e := .un (.loads 4) (.con (.pointer (some ⟨B, 0, none⟩)))) q2 (by simpa using huT)
  simpa using this
 rw [hz]; clear hz z
 simp [huT2]
 refine do_build (z := .agg #[.slice none 0 0, .slice none 0 0, .int .i64 0, .slice none 0 0, .slice none 0 0, .int .i32 0]) (places := [(0, 1), (1, 1), (2, 4)]) (vs := [(1, vi), (2, .agg #[.int .i64 t.kind, va', vt', .int .i32 t.imm.v])]) (cs := #[.slice none 0 0, vi, .int .i64 t.kind, va', vt', .int .i32 t.imm.v]) (by kernel_rfl) (by kernel_rfl) (by simp) (by simp [Instr.fill, hi.cells.1]) ?_
 have hblk : Rd (vw h1) (.agg #[.slice none 0 0, vi, .int .i64 t.kind, va', vt', .int .i32 t.imm.v]) (BlkD.mk [] l t) := rd_blkOf nil_sl (hi.mono hle1) ta tt tk ti
 refine do_lits (n := 1) (size := 6) (vs := [(0, .agg #[.slice none 0 0, vi, .int .i64 t.kind, va', vt', .int .i32 t.imm.v])]) (cs := #[.slice none 0 0, vi, .int .i64 t.kind, va', vt', .int .i32 t.imm.v]) El.s_api_Block (by decide) (by simp) (by simp [Instr.fill, Value.cells, Array.range_zero', Array.range_succ]) ?_
 have q3 := push_le h2 (.cells #[.slice none 0 0, vi, .int .i64 t.kind, va', vt', .int .i32 t.imm.v] T.api_Block)
 have b3 : (h2.push (.cells #[.slice none 0 0, vi, .int .i64 t.kind, va', vt', .int .i32 t.imm.v] T.api_Block))[h2.size]? = some (.cells #[.slice none 0 0, vi, .int .i64 t.kind, va', vt', .int .i32 t.imm.v] T.api_Block (0, 0)) := by simp
 generalize h2.push (.cells #[.slice none 0 0, vi, .int .i64 t.kind, va', vt', .int .i32 t.imm.v] T.api_Block) = h3 at q3 b3
 have w3 := w2.ext' q3
 have hsl : SlRd (grow (vw h1) h2 h3) (.slice (some ⟨h2.size, 0, none⟩) 1 1) [BlkD.mk [] l t] := sl_push (ds := [BlkD.mk [] l t]) (by rw [grow_new (Nat.le_refl _)]; exact b3) (by simp) fun i hi2 => by
  have : i = 0 := by simpa using hi2
  subst this
  exact (rd_cells (hblk.mono (le_grow w2.wle))).1
 have w3 := w2.ext q3
 have hle3 := le_grow (h' := h3) w2.wle
 generalize grow (vw h1) h2 h3 = W3 at w3 hsl hle3
 generalize Value.slice (some ⟨h2.size, 0, none⟩) 1 1 = vs at hsl
 refine do_build (z := .agg #[.int .i64 0, .slice none 0 0]) (places := [(0, 1), (1, 1)]) (vs := [(0, .int .i64 p), (1, vs)]) (cs := #[.int .i64 p, vs]) (by kernel_rfl) (by kernel_rfl) (by simp) (by simp [Instr.fill, hsl.cells.1]) ?_
 refine w3.do_field (k := (5, 0)) (e := T.api_Func) (B := R) (D := RawN.mk (n := 1) [.int .i64 0, .slice none 0 0]) Part.all (d := RawN.mk (n := 1) [.int .i64 p, vs]) Own.upd_self (by kernel_rfl) rfl rfl (rd_rawN rfl (by intro c hc; simp only [List.mem_cons, List.not_mem_nil, or_false] at hc; rcases hc with rfl | rfl <;> first | rfl | exact hsl.cells.2)) fun h5 w5 _ => ?_
 have c2 := w5.rawAll (k := (5, 0)) (e := T.api_Func) (B := R) (l := [.int .i64 p, vs]) (n := 1) Own.upd_self
 simp [c2]
 exact hK _ _ ⟨View.le_trans hle1 (View.le_trans hle3 w5.wle), _, rfl, [.int .i64 p], [vs], rfl, ⟨rfl, hp⟩, vs, rfl, hsl.mono w5.wle⟩
end Go.Proofs.Ytfelpjfopgiabaa
namespace Go.Proofs.Ytfelpjfopgiabaa
open Go Go.Lft
def sh1 : FuncD := oneF 0 [⟨1, 0, 0, [], ⟨1⟩⟩] ⟨4, [0], [], ⟨0⟩⟩
def sh2 : FuncD := oneF 0 [] ⟨4, [0], [], ⟨0⟩⟩
def sh3 : FuncD := oneF 1 [⟨2, 1, 0, [0, 2], ⟨0⟩⟩, ⟨1, 2, 0, [], ⟨0⟩⟩] ⟨5, [], [], ⟨0⟩⟩
def sh4 : FuncD := oneF 1 [⟨1, 1, 0, [], ⟨0⟩⟩, ⟨2, 2, 0, [0, 1], ⟨0⟩⟩] ⟨4, [2], [], ⟨0⟩⟩
theorem told1 : toldS sh1 = (0, 0, 0) := by kernel_rfl
theorem told2 : toldS sh2 = (13, 0, 0) := by kernel_rfl
theorem told3 : toldS sh3 = (13, 0, 0) := by kernel_rfl
theorem told4 : toldS sh4 = (0, 0, 0) := by kernel_rfl
theorem told5 : toldS ⟨0, []⟩ = (14, 0, 0) := by kernel_rfl
theorem top4 : topS sh4 = 3 := by kernel_rfl
theorem used4 : usedS sh4 = [1, 1, 1] := by kernel_rfl
theorem fold41 : foldableS sh4 1 = true := by kernel_rfl
theorem fold42 : foldableS sh4 2 = true := by kernel_rfl
theorem fold40 : foldableS sh4 0 = false := by kernel_rfl
theorem sm_one {p : Int} {l : List InsD} {t : TermD} (h1 : l.length ≤ 10000) (h2 : t.args.length ≤ 10000) (h3 : t.to.length ≤ 10000) (h4 : ∀ x ∈ l, x.args.length ≤ 10000) : SmF (oneF p l t) where
 len := by simp [oneF]
 blk := fun i hi => by
  have : i = 0 := by simpa [oneF] using hi
  subst this
  exact ⟨by simp [oneF, nth], by simpa [oneF, nth] using h1, by simpa [oneF, nth] using h2, by simpa [oneF, nth] using h3, fun i hi => by simp [oneF, nth] at hi, fun i hi => h4 _ (nth_mem hi)⟩
end Go.Proofs.Ytfelpjfopgiabaa
namespace Go.Proofs.Ytfelpjfopgiabaa
open Go Go.Lft
theorem rd_term {H : View} {va vt : Value} {a t : List Int} {kd : Int} {imm : I32} (h3 : SlRd H va a) (h4 : SlRd H vt t) (h5 : I64 kd) (h6 : -2147483648 ≤ imm.v ∧ imm.v ≤ 2147483647) : Rd H (.agg #[.int .i64 kd, va, vt, .int .i32 imm.v]) (TermD.mk kd a t imm) :=
 ⟨_, rfl, [.int .i64 kd], _, rfl, ⟨rfl, h5⟩, [va], _, rfl, ⟨va, rfl, h3⟩, [vt], _, rfl, ⟨vt, rfl, h4⟩, rfl, h6⟩
theorem shown_ok {h : Heap} : HCalls Try.prog N.law03_shown #[] h (fun u h' => u = .bool true ∧ (vw h).le (vw h')) := by
 refine calls_lift (args := []) follows F.law03_shown E.law03_shown (Nat.le_of_ble_eq_true (by kernel_rfl)) fun K hK => ?_
 dsimp only [L.law03_shown]
 refine lwp_hide fun z hz => ?_
 simp
 rw [hz]; clear hz z
 refine lwp_hide fun z hz => ?_
 simp
 refine do_build (z := .agg #[.int .i64 0, .int .i64 0, .int .i64 0, .slice none 0 0, .int .i32 0]) (places := [(0, 1), (1, 1), (2, 1), (3, 1), (4, 1)]) (vs := [(0, .int .i64 1), (4, .int .i32 1)]) (cs := #[.int .i64 1, .int .i64 0, .int .i64 0, .slice none 0 0, .int .i32 1]) (by kernel_rfl) (by kernel_rfl) (by simp) (by rfl) ?_
 refine do_lits (n := 1) (size := 5) (vs := [(0, .agg #[.int .i64 1, .int .i64 0, .int .i64 0, .slice none 0 0, .int .i32 1])]) (cs := #[.int .i64 1, .int .i64 0, .int .i64 0, .slice none 0 0, .int .i32 1]) El.s_api_Ins (by decide) (by simp) (by simp [Instr.fill, Value.cells, Array.range_zero', Array.range_succ]) ?_
 have q1 := push_le h (.cells #[.int .i64 1, .int .i64 0, .int .i64 0, .slice none 0 0, .int .i32 1] T.api_Ins)
 have b1 : (h.push (.cells #[.int .i64 1, .int .i64 0, .int .i64 0, .slice none 0 0, .int .i32 1] T.api_Ins))[h.size]? = some (.cells #[.int .i64 1, .int .i64 0, .int .i64 0, .slice none 0 0, .int .i32 1] T.api_Ins (0, 0)) := by simp
 generalize h.push (.cells #[.int .i64 1, .int .i64 0, .int .i64 0, .slice none 0 0, .int .i32 1] T.api_Ins) = h1 at q1 b1
 have s1 : SlRd (vw h1) (.slice (some ⟨h.size, 0, none⟩) 1 1) [InsD.mk 1 0 0 [] ⟨1⟩] := sl_push (ds := [InsD.mk 1 0 0 [] ⟨1⟩]) b1 (by simp) fun i hi2 => by
  have : i = 0 := by simpa using hi2
  subst this
  exact (rd_cells (rd_insOf (H := vw h1) (imm := ⟨1⟩) ⟨⟨by decide, by decide⟩, ⟨by decide, by decide⟩, ⟨by decide, by decide⟩, by decide, by decide⟩ nil_sl)).1
 generalize Value.slice (some ⟨h.size, 0, none⟩) 1 1 = v1 at s1
 refine do_litN (α := Int) (X := nothing) (ds := [0]) (vs := [.int .i64 0]) rfl El.s_int (by simp) ⟨rd_i (by decide) (by decide), trivial⟩ nothing_le rfl (by omega) fun v2 h2 q2 _ s2 _ => ?_
 have s2 := s2 (vw h2) nothing_le rfl
 refine do_build (z := .agg #[.int .i64 0, .slice none 0 0, .slice none 0 0, .int .i32 0]) (places := [(0, 1), (1, 1), (2, 1), (3, 1)]) (vs := [(0, .int .i64 4), (1, v2)]) (cs := #[.int .i64 4, v2, .slice none 0 0, .int .i32 0]) (by kernel_rfl) (by kernel_rfl) (by simp) (by simp [Instr.fill, s2.cells.1]) ?_
 refine call_to (by kernel_rfl) (one_ok (p := 0) (l := [⟨1, 0, 0, [], ⟨1⟩⟩]) (t := ⟨4, [0], [], ⟨0⟩⟩) ⟨by decide, by decide⟩ (s1.mono q2) (rd_term s2 nil_sl ⟨by decide, by decide⟩ ⟨by decide, by decide⟩)) ?_
 rintro v3 h3 ⟨q3, r3⟩
 refine call_to (by kernel_rfl) (func_ok r3 (sm_one (by decide) (by decide) (by decide) (by decide))) ?_
 rintro _ h4 ⟨rfl, q4⟩
 rw [show toldS (oneF 0 [⟨1, 0, 0, [], ⟨1⟩⟩] ⟨4, [0], [], ⟨0⟩⟩) = (0, 0, 0) from told1]
 have k4 : (vw h).le (vw h4) := View.le_trans q1 (View.le_trans q2 (View.le_trans q3 q4))
 clear s1 s2 r3 q1 q2 q3 q4 b1
 simp
 rw [hz]; clear hz z
 refine lwp_hide fun z hz => ?_
 simp
 refine do_litN (α := Int) (X := nothing) (ds := [0]) (vs := [.int .i64 0]) rfl El.s_int (by simp) ⟨rd_i (by decide) (by decide), trivial⟩ nothing_le rfl (by omega) fun v2 h5 q5 _ s2 _ => ?_
 have s2 := s2 (vw h5) nothing_le rfl
 refine do_build (z := .agg #[.int .i64 0, .slice none 0 0, .slice none 0 0, .int .i32 0]) (places := [(0, 1), (1, 1), (2, 1), (3, 1)]) (vs := [(0, .int .i64 4), (1, v2)]) (cs := #[.int .i64 4, v2, .slice none 0 0, .int .i32 0]) (by kernel_rfl) (by kernel_rfl) (by simp) (by simp [Instr.fill, s2.cells.1]) ?_
 refine call_to (by kernel_rfl) (one_ok (p := 0) (l := []) (t := ⟨4, [0], [], ⟨0⟩⟩) ⟨by decide, by decide⟩ nil_sl (rd_term s2 nil_sl ⟨by decide, by decide⟩ ⟨by decide, by decide⟩)) ?_
 rintro v3 h6 ⟨q6, r3⟩
 refine call_to (by kernel_rfl) (func_ok r3 (sm_one (by decide) (by decide) (by decide) (by decide))) ?_
 rintro _ h7 ⟨rfl, q7⟩
 rw [show toldS (oneF 0 [] ⟨4, [0], [], ⟨0⟩⟩) = (13, 0, 0) from told2]
 have k7 : (vw h).le (vw h7) := View.le_trans k4 (View.le_trans q5 (View.le_trans q6 q7))
 clear s2 r3 q5 q6 q7 k4
 simp
 rw [hz]; clear hz z
 refine lwp_hide fun z hz => ?_
 simp
 refine do_litN (α := Int) (X := nothing) (ds := [0, 2]) (vs := [.int .i64 0, .int .i64 2]) rfl El.s_int (by simp) ⟨rd_i (by decide) (by decide), rd_i (by decide) (by decide), trivial⟩ nothing_le rfl (by omega) fun v2 h8 q8 _ s2 _ => ?_
 have s2 := s2 (vw h8) nothing_le rfl
 refine do_build (z := .agg #[.int .i64 0, .int .i64 0, .int .i64 0, .slice none 0 0, .int .i32 0]) (places := [(0, 1), (1, 1), (2, 1), (3, 1), (4, 1)]) (vs := [(0, .int .i64 2), (1, .int .i64 1), (3, v2)]) (cs := #[.int .i64 2, .int .i64 1, .int .i64 0, v2, .int .i32 0]) (by kernel_rfl) (by kernel_rfl) (by simp) (by simp [Instr.fill, s2.cells.1]) ?_
 refine do_build (z := .agg #[.int .i64 0, .int .i64 0, .int .i64 0, .slice none 0 0, .int .i32 0]) (places := [(0, 1), (1, 1), (2, 1), (3, 1), (4, 1)]) (vs := [(0, .int .i64 1), (1, .int .i64 2)]) (cs := #[.int .i64 1, .int .i64 2, .int .i64 0, .slice none 0 0, .int .i32 0]) (by kernel_rfl) (by kernel_rfl) (by simp) (by rfl) ?_
 refine do_lits (n := 2) (size := 5) (vs := [(0, .agg #[.int .i64 2, .int .i64 1, .int .i64 0, v2, .int .i32 0]), (1, .agg #[.int .i64 1, .int .i64 2, .int .i64 0, .slice none 0 0, .int .i32 0])]) (cs := #[.int .i64 2, .int .i64 1, .int .i64 0, v2, .int .i32 0, .int .i64 1, .int .i64 2, .int .i64 0, .slice none 0 0, .int .i32 0]) El.s_api_Ins (by decide) (by simp) (by simp [Instr.fill, Value.cells, Array.range_zero', Array.range_succ]) ?_
 have q9 := push_le h8 (.cells #[.int .i64 2, .int .i64 1, .int .i64 0, v2, .int .i32 0, .int .i64 1, .int .i64 2, .int .i64 0, .slice none 0 0, .int .i32 0] T.api_Ins)
 have b9 : (h8.push (.cells #[.int .i64 2, .int .i64 1, .int .i64 0, v2, .int .i32 0, .int .i64 1, .int .i64 2, .int .i64 0, .slice none 0 0, .int .i32 0] T.api_Ins))[h8.size]? = some (.cells #[.int .i64 2, .int .i64 1, .int .i64 0, v2, .int .i32 0, .int .i64 1, .int .i64 2, .int .i64 0, .slice none 0 0, .int .i32 0] T.api_Ins (0, 0)) := by simp
 generalize h8.push (.cells #[.int .i64 2, .int .i64 1, .int .i64 0, v2, .int .i32 0, .int .i64 1, .int .i64 2, .int .i64 0, .slice none 0 0, .int .i32 0] T.api_Ins) = h9 at q9 b9
 have s9 : SlRd (vw h9) (.slice (some ⟨h8.size, 0, none⟩) 2 2) [InsD.mk 2 1 0 [0, 2] ⟨0⟩, InsD.mk 1 2 0 [] ⟨0⟩] := sl_push (ds := [InsD.mk 2 1 0 [0, 2] ⟨0⟩, InsD.mk 1 2 0 [] ⟨0⟩]) b9 (by simp) fun i hi2 => by
  have : i = 0 ∨ i = 1 := by simp at hi2; omega
  rcases this with rfl | rfl
  ·exact (rd_cells (rd_insOf (H := vw h9) (imm := ⟨0⟩) ⟨⟨by decide, by decide⟩, ⟨by decide, by decide⟩, ⟨by decide, by decide⟩, by decide, by decide⟩ (s2.mono q9))).1
  ·exact (rd_cells (rd_insOf (H := vw h9) (imm := ⟨0⟩) ⟨⟨by decide, by decide⟩, ⟨by decide, by decide⟩, ⟨by decide, by decide⟩, by decide, by decide⟩ nil_sl)).1
 generalize Value.slice (some ⟨h8.size, 0, none⟩) 2 2 = v4 at s9
 refine do_build (z := .agg #[.int .i64 0, .slice none 0 0, .slice none 0 0, .int .i32 0]) (places := [(0, 1), (1, 1), (2, 1), (3, 1)]) (vs := [(0, .int .i64 5)]) (cs := #[.int .i64 5, .slice none 0 0, .slice none 0 0, .int .i32 0]) (by kernel_rfl) (by kernel_rfl) (by simp) (by rfl) ?_
 refine call_to (by kernel_rfl) (one_ok (p := 1) (l := [⟨2, 1, 0, [0, 2], ⟨0⟩⟩, ⟨1, 2, 0, [], ⟨0⟩⟩]) (t := ⟨5, [], [], ⟨0⟩⟩) ⟨by decide, by decide⟩ s9 (rd_term nil_sl nil_sl ⟨by decide, by decide⟩ ⟨by decide, by decide⟩)) ?_
 rintro v3 h10 ⟨q10, r3⟩
 refine call_to (by kernel_rfl) (func_ok r3 (sm_one (by decide) (by decide) (by decide) (by decide))) ?_
 rintro _ h11 ⟨rfl, q11⟩
 rw [show toldS (oneF 1 [⟨2, 1, 0, [0, 2], ⟨0⟩⟩, ⟨1, 2, 0, [], ⟨0⟩⟩] ⟨5, [], [], ⟨0⟩⟩) = (13, 0, 0) from told3]
 have k11 : (vw h).le (vw h11) := View.le_trans k7 (View.le_trans q8 (View.le_trans q9 (View.le_trans q10 q11)))
 clear s2 r3 s9 b9 q8 q9 q10 q11 k7
 simp
 rw [hz]; clear hz z
 refine lwp_hide fun z hz => ?_
 simp
 refine do_build (z := .agg #[.int .i64 0, .int .i64 0, .int .i64 0, .slice none 0 0, .int .i32 0]) (places := [(0, 1), (1, 1), (2, 1), (3, 1), (4, 1)]) (vs := [(0, .int .i64 1), (1, .int .i64 1)]) (cs := #[.int .i64 1, .int .i64 1, .int .i64 0, .slice none 0 0, .int .i32 0]) (by kernel_rfl) (by kernel_rfl) (by simp) (by rfl) ?_
 refine do_litN (α := Int) (X := nothing) (ds := [0, 1]) (vs := [.int .i64 0, .int .i64 1]) rfl El.s_int (by simp) ⟨rd_i (by decide) (by decide), rd_i (by decide) (by decide), trivial⟩ nothing_le rfl (by omega) fun v2 h8 q8 _ s2 _ => ?_
 have s2 := s2 (vw h8) nothing_le rfl
 refine do_build (z := .agg #[.int .i64 0, .int .i64 0, .int .i64 0, .slice none 0 0, .int .i32 0]) (places := [(0, 1), (1, 1), (2, 1), (3, 1), (4, 1)]) (vs := [(0, .int .i64 2), (1, .int .i64 2), (3, v2)]) (cs := #[.int .i64 2, .int .i64 2, .int .i64 0, v2, .int .i32 0]) (by kernel_rfl) (by kernel_rfl) (by simp) (by simp [Instr.fill, s2.cells.1]) ?_
 refine do_lits (n := 2) (size := 5) (vs := [(0, .agg #[.int .i64 1, .int .i64 1, .int .i64 0, .slice none 0 0, .int .i32 0]), (1, .agg #[.int .i64 2, .int .i64 2, .int .i64 0, v2, .int .i32 0])]) (cs := #[.int .i64 1, .int .i64 1, .int .i64 0, .slice none 0 0, .int .i32 0, .int .i64 2, .int .i64 2, .int .i64 0, v2, .int .i32 0]) El.s_api_Ins (by decide) (by simp) (by simp [Instr.fill, Value.cells, Array.range_zero', Array.range_succ]) ?_
 have q9 := push_le h8 (.cells #[.int .i64 1, .int .i64 1, .int .i64 0, .slice none 0 0, .int .i32 0, .int .i64 2, .int .i64 2, .int .i64 0, v2, .int .i32 0] T.api_Ins)
 have b9 : (h8.push (.cells #[.int .i64 1, .int .i64 1, .int .i64 0, .slice none 0 0, .int .i32 0, .int .i64 2, .int .i64 2, .int .i64 0, v2, .int .i32 0] T.api_Ins))[h8.size]? = some (.cells #[.int .i64 1, .int .i64 1, .int .i64 0, .slice none 0 0, .int .i32 0, .int .i64 2, .int .i64 2, .int .i64 0, v2, .int .i32 0] T.api_Ins (0, 0)) := by simp
 generalize h8.push (.cells #[.int .i64 1, .int .i64 1, .int .i64 0, .slice none 0 0, .int .i32 0, .int .i64 2, .int .i64 2, .int .i64 0, v2, .int .i32 0] T.api_Ins) = h9 at q9 b9
 have s9 : SlRd (vw h9) (.slice (some ⟨h8.size, 0, none⟩) 2 2) [InsD.mk 1 1 0 [] ⟨0⟩, InsD.mk 2 2 0 [0, 1] ⟨0⟩] := sl_push (ds := [InsD.mk 1 1 0 [] ⟨0⟩, InsD.mk 2 2 0 [0, 1] ⟨0⟩]) b9 (by simp) fun i hi2 => by
  have : i = 0 ∨ i = 1 := by simp at hi2; omega
  rcases this with rfl | rfl
  ·exact (rd_cells (rd_insOf (H := vw h9) (imm := ⟨0⟩) ⟨⟨by decide, by decide⟩, ⟨by decide, by decide⟩, ⟨by decide, by decide⟩, by decide, by decide⟩ nil_sl)).1
  ·exact (rd_cells (rd_insOf (H := vw h9) (imm := ⟨0⟩) ⟨⟨by decide, by decide⟩, ⟨by decide, by decide⟩, ⟨by decide, by decide⟩, by decide, by decide⟩ (s2.mono q9))).1
 generalize Value.slice (some ⟨h8.size, 0, none⟩) 2 2 = v4 at s9
 refine do_litN (α := Int) (X := nothing) (ds := [2]) (vs := [.int .i64 2]) rfl El.s_int (by simp) ⟨rd_i (by decide) (by decide), trivial⟩ nothing_le rfl (by omega) fun v5 h10 q10 _ s10 _ => ?_
 have s10 := s10 (vw h10) nothing_le rfl
 refine do_build (z := .agg #[.int .i64 0, .slice none 0 0, .slice none 0 0, .int .i32 0]) (places := [(0, 1), (1, 1), (2, 1), (3, 1)]) (vs := [(0, .int .i64 4), (1, v5)]) (cs := #[.int .i64 4, v5, .slice none 0 0, .int .i32 0]) (by kernel_rfl) (by kernel_rfl) (by simp) (by simp [Instr.fill, s10.cells.1]) ?_
 refine call_to (by kernel_rfl) (one_ok (p := 1) (l := [⟨1, 1, 0, [], ⟨0⟩⟩, ⟨2, 2, 0, [0, 1], ⟨0⟩⟩]) (t := ⟨4, [2], [], ⟨0⟩⟩) ⟨by decide, by decide⟩ (s9.mono q10) (rd_term s10 nil_sl ⟨by decide, by decide⟩ ⟨by decide, by decide⟩)) ?_
 rintro v3 h12 ⟨q12, r3⟩
 have hsm : SmF sh4 := sm_one (by decide) (by decide) (by decide) (by decide)
 have r3 : Rd (vw h12) v3 sh4 := r3
 have k12 : (vw h).le (vw h12) := View.le_trans k11 (View.le_trans q8 (View.le_trans q9 (View.le_trans q10 q12)))
 clear s2 s9 b9 q8 q9 q10 q12 k11
 refine do_newX (X := vw h12) (z := .agg #[.int .i64 0, .slice none 0 0]) (by kernel_rfl) rfl (by kernel_rfl) r3 (fun _ => by simp) (fun _ => by simp) fun h13 hle13 hs13 hat13 => ?_
 have hat13 := hat13 (vw h13) hle13 rfl
 obtain ⟨u, hu, hur⟩ := hat13.loads rfl
 have hu : Un.ev (vw h13) (.loads 2) (.pointer (some ⟨h12.size, 0, none⟩)) = some u := hu
 generalize h12.size = B at hu
 have huv : ∀ {h' : Heap}, (vw h13).le (vw h') → Un.ev (vw h') (.loads 2) (.pointer (some ⟨B, 0, none⟩)) = some u := fun q => by
  have := ev_mono (ρ := fun _ => none) (e := .un (.loads 2) (.con (.pointer (some ⟨B, 0, none⟩)))) q (v := u) (by simpa using hu)
  simpa using this
 have k13 := View.le_trans k12 hle13
 clear r3 hat13 k12 hle13
 rw [hz]; clear hz z
 refine lwp_hide fun z hz => ?_
 refine lwp_cut (fun ρ h14 => ∃ vu tl, (vw h13).le (vw h14) ∧ SlRd (vw h14) vu ([1, 1, 1] : List Int) ∧ ρ = [(0, .bool false), (1, .int .i64 0), (2, .int .i64 0), (3, .int .i64 0), (4, .int .i64 13), (5, .int .i64 0), (6, .int .i64 0), (7, .int .i64 13), (9, .int .i64 0), (10, .pointer (some ⟨B, 0, none⟩)), (11, vu)] ++ tl) ?_ ?_
 ·intro K2 hK2
  simp [hu]
  refine call_to (by kernel_rfl) (uses2_ok hur hsm) ?_
  rintro vu h14 ⟨hle14, su⟩
  have su := su.mono (fresh_le h13 h14)
  rw [used4] at su
  exact hK2 _ _ ⟨vu, _, hle14, su, rfl⟩
 ·rintro ρ h14 ⟨vu, tl, q14, su, rfl⟩
  rw [hz]; clear hz z
  refine lwp_hide fun z hz => ?_
  simp [huv q14, look_setE, look_kill]
  refine call_to (by kernel_rfl) (right_ok (hur.mono q14) hsm) ?_
  rintro _ h15 ⟨rfl, hle15⟩
  have q15 := View.le_trans q14 hle15
  rw [show toldS sh4 = (0, 0, 0) from told4]
  have sl : ∀ {K : View}, Un.ev K .len vu = some (.int .i64 3) := fun {K} => su.len
  have se : ∀ {h' : Heap}, (vw h14).le (vw h') → cellH (vw h') ((slA vu).add 1) = some (.int .i64 1) := fun q => by
   have := (su.mono q).int (i := 1) (View.le_refl _) (by decide)
   simpa [nth] using this
  simp [huv q15, look_setE, look_kill]
  refine call_to (by kernel_rfl) (top_ok (hur.mono q15) hsm) ?_
  rintro _ h16 ⟨rfl, hle16⟩
  have q16 := View.le_trans q15 hle16
  rw [top4]
  have ix : Bn.ev (.idx 1) vu (.int .i64 1) = some (.pointer (some ((slA vu).add 1))) := by
   have := su.idx1 rfl (k := .i64) (i := 1) (by decide) (by decide)
   simpa using this
  simp [huv q16, sl, ix, se (View.le_trans hle15 hle16), look_setE, look_kill]
  refine call_to (by kernel_rfl) (foldable_ok (val := 1) (hur.mono q16) hsm ⟨by decide, by decide⟩) ?_
  rintro _ h17 ⟨rfl, hle17⟩
  have q17 := View.le_trans q16 hle17
  rw [fold41]
  simp [huv q17, look_setE, look_kill]
  refine call_to (by kernel_rfl) (foldable_ok (val := 2) (hur.mono q17) hsm ⟨by decide, by decide⟩) ?_
  rintro _ h18 ⟨rfl, hle18⟩
  have q18 := View.le_trans q17 hle18
  rw [fold42]
  simp [huv q18, look_setE, look_kill]
  refine call_to (by kernel_rfl) (foldable_ok (val := 0) (hur.mono q18) hsm ⟨by decide, by decide⟩) ?_
  rintro _ h19 ⟨rfl, hle19⟩
  have q19 := View.le_trans q18 hle19
  rw [fold40]
  simp [look_setE, look_kill]
  refine do_build (z := .agg #[.int .i64 0, .slice none 0 0]) (places := [(0, 1), (1, 1)]) (vs := []) (cs := #[.int .i64 0, .slice none 0 0]) (by kernel_rfl) (by kernel_rfl) (by simp) (by rfl) ?_
  have r5 : Rd (vw h19) (.agg #[.int .i64 0, .slice none 0 0]) (FuncD.mk 0 []) := ⟨_, rfl, [.int .i64 0], [.slice none 0 0], rfl, ⟨rfl, by decide, by decide⟩, _, rfl, nil_sl⟩
  refine call_to (by kernel_rfl) (right_ok r5 ⟨by simp, fun i hi => by simp at hi⟩) ?_
  rintro _ h20 ⟨rfl, hle20⟩
  rw [told5]
  simp [look_setE, look_kill]
  rw [hz]; clear hz z
  simp [look_setE, look_kill]
  exact hK _ _ ⟨rfl, View.le_trans k13 (View.le_trans q19 hle20)⟩
end Go.Proofs.Ytfelpjfopgiabaa
namespace Go.Proofs.Ytfelpjfopgiabaa
open Go Go.Lft
structure BlkR where
 phis : List PhiD
 ins : Raw
 term : TermD
instance : Rep BlkR := Rep.via fun d => Cat.mk d.phis (Cat.mk d.ins d.term)
instance : Inhabited BlkR := ⟨⟨[], default, default⟩⟩
theorem sl_conv {α β : Type} [Rep α] [Rep β] {H : View} {v : Value} {l : List α} {l2 : List β} (h : SlRd H v l) (hn : Rep.n α = Rep.n β) (hl : l.length = l2.length) (hc : ∀ i (h1 : i < l.length) (h2 : i < l2.length) cs, Rep.rd H cs l[i] → Rep.rd H cs l2[i]) : SlRd H v l2 := by
 obtain ⟨a, cap, rfl, h1, h2, h3⟩ := h
 refine ⟨a, cap, by rw [hl], by omega, by omega, ?_⟩
 rcases h3 with rfl | ⟨ad, rfl, hs, hat⟩
 ·left; exact List.eq_nil_of_length_eq_zero (by rw [← hl]; rfl)
 ·refine .inr ⟨ad, rfl, hs, fun i hi => ?_⟩
  obtain ⟨cs, g1, g2⟩ := hat i (by omega)
  rw [← hn]
  exact ⟨cs, g1, hc i (by omega) hi cs g2⟩
end Go.Proofs.Ytfelpjfopgiabaa
namespace Go.Lft
open Go
variable {po : OP}
theorem do_neg {P : Program} {t ty : TypeId} {us : List (Nat × Value)} {h : Heap} {K : Value → Heap → Prop} {x : Operand} {n : Int} (hx : asg us x = .int .i64 n) (hk : K (.int .i64 (IntKind.i64.wrap (-n))) h) : step P (.unOp .neg t x) ty us h K := by
 refine step_of (runs_value fun w hw => ⟨.int .i64 (IntKind.i64.wrap (-n)), w, ?_, Same.refl _, by rw [hw]; exact hk⟩)
 simp only [loudSem, execOp, hx]
 simp [Op.unary, Op.intArith]
end Go.Lft
namespace Go.Proofs.Ytfelpjfopgiabaa
open Go Go.Lft
structure MS where
 at_ : Nat
 ps : Int
 blocks : List BlkD
 next : Int
 live : List Int
def MS.took (m : MS) : MS := { m with at_ := m.at_ + 1 }
def MS.freshed (m : MS) : MS := { m with next := m.next + 1 }
structure BlkM where
 phis : Raw
 ins : Raw
 term : TermD
instance : Rep BlkM := Rep.via fun d => Cat.mk d.phis (Cat.mk d.ins d.term)
instance : Inhabited BlkM := ⟨⟨default, default, default⟩⟩
theorem BlkM.p_phis : Part BlkM Raw 0 BlkM.phis (fun d x => { d with phis := x }) := (Part.fst Part.all).via (fun _ => rfl) fun _ _ => rfl
theorem BlkM.p_ins : Part BlkM Raw 1 BlkM.ins (fun d x => { d with ins := x }) := (Part.snd (Part.fst Part.all)).via (fun _ => rfl) fun _ _ => rfl
theorem BlkM.p_term : Part BlkM TermD 2 BlkM.term (fun d x => { d with term := x }) := (Part.snd (Part.snd Part.all)).via (fun _ => rfl) fun _ _ => rfl
theorem blkM_blk {H : View} {cs : List Value} {d : BlkM} {p : List PhiD} {i : List InsD} (h : Rep.rd H cs d) (hp : SlRd H d.phis.v p) (hi : SlRd H d.ins.v i) : Rep.rd H cs (BlkD.mk p i d.term) := by
 obtain ⟨c1, r1, e1, ⟨h1, _⟩, c2, r2, e2, ⟨h2, _⟩, h3⟩ := h
 have h1 : c1 = [d.phis.v] := h1
 have h2 : c2 = [d.ins.v] := h2
 exact ⟨c1, r1, e1, ⟨d.phis.v, h1, hp⟩, c2, r2, e2, ⟨d.ins.v, h2, hi⟩, h3⟩
structure MkB (M : Nat) (vs : Value) (m : MS) (o : Own) (vb vl : Value) (lb : List BlkM) : Prop where
 box : o (0, 0) = bx T.ref03_maker M (RawN.mk (n := 5) (mkL vs m.at_ m.ps vb m.next vl))
 live : o (0, 1) = it T.int vl m.live
 blk : o (0, 2) = it T.api_Block vb lb
 len : lb.length = m.blocks.length
 term : ∀ i, i < m.blocks.length → (nth lb i).term = (nth m.blocks i).term
 phis : ∀ i, i < m.blocks.length → o (1, i) = it T.api_Phi (nth lb i).phis.v (nth m.blocks i).phis
 ins : ∀ i, i < m.blocks.length → o (2, i) = it T.api_Ins (nth lb i).ins.v (nth m.blocks i).ins
structure Mk (s : List Int) (M : Nat) (vs : Value) (W : View) (h : Heap) (o : Own) (m : MS) : Prop where
 own : Owns W h o
 src : SlRd W vs s
 box : ∃ vb vl lb, MkB M vs m o vb vl lb
def Nx (s : List Int) (M : Nat) (vs : Value) (W : View) (h : Heap) (o : Own) (m : MS) : Prop := ∃ W' o', W.le W' ∧ Mk s M vs W' h o' m ∧ ∀ k : Key, 3 ≤ k.1 → o' k = o k
variable {s : List Int} {M : Nat} {vs : Value} {W : View} {h : Heap} {o : Own} {m : MS}
theorem Mk.nx (w : Mk s M vs W h o m) : Nx s M vs W h o m := ⟨W, o, View.le_refl _, w, fun _ _ => rfl⟩
theorem Nx.trans {W' : View} {o' : Own} (hW : W.le W') (ho : ∀ k : Key, 3 ≤ k.1 → o' k = o k) (n : Nx s M vs W' h o' m) : Nx s M vs W h o m := by
 obtain ⟨W2, o2, h1, h2, h3⟩ := n
 exact ⟨W2, o2, View.le_trans hW h1, h2, fun k hk => (h3 k hk).trans (ho k hk)⟩
theorem MkB.at {vb vl : Value} {lb : List BlkM} (b : MkB M vs m o vb vl lb) {at_ : Nat} {next : Int} : MkB M vs { m with at_ := at_, next := next } (o.upd (0, 0) (bx T.ref03_maker M (RawN.mk (n := 5) (mkL vs at_ m.ps vb next vl)))) vb vl lb :=
 ⟨rfl, b.live, b.blk, b.len, b.term, fun i hi => b.phis i hi, fun i hi => b.ins i hi⟩
theorem upd_frame {k : Key} {i : Option Lft.Item} (hk : k.1 < 3) : ∀ q : Key, 3 ≤ q.1 → o.upd k i q = o q := fun q hq => Own.upd_ne fun e => by rw [e] at hq; omega
theorem upd_upd {k : Key} {i j : Option Lft.Item} (q : Key) : (o.upd k i).upd k j q = o.upd k j q := by
 unfold Own.upd; split <;> rfl
theorem Mk.take (w : Mk s M vs W h o m) {n : Int} (h1 : m.at_ ≤ 1000000000) (hn : 0 < n) (hn2 : n ≤ 1000000000) :
  HCalls Try.prog N.ref03_maker_take #[.pointer (some ⟨M, 0, none⟩), .int .i64 n] h (fun u h' => u = .int .i64 (takeV s m.at_ n) ∧ ∃ o', Mk s M vs W h' o' m.took ∧ ∀ k : Key, 3 ≤ k.1 → o' k = o k) := by
 obtain ⟨vb, vl, lb, b⟩ := w.box
 refine (take_ok w.own b.box w.src h1 hn hn2).mono ?_
 rintro u h' ⟨rfl, w2⟩
 exact ⟨rfl, _, ⟨w2, w.src, vb, vl, lb, b.at⟩, upd_frame (by decide)⟩
theorem Mk.fresh (w : Mk s M vs W h o m) (h0 : 0 ≤ m.next) (h1 : m.next ≤ 1000000000) :
  HCalls Try.prog N.ref03_maker_fresh #[.pointer (some ⟨M, 0, none⟩)] h (fun u h' => u = .int .i64 m.next ∧ ∃ o', Mk s M vs W h' o' m.freshed ∧ ∀ k : Key, 3 ≤ k.1 → o' k = o k) := by
 obtain ⟨vb, vl, lb, b⟩ := w.box
 refine (fresh_ok w.own b.box h0 h1).mono ?_
 rintro u h' ⟨rfl, w2, -⟩
 exact ⟨rfl, _, ⟨w2, w.src, vb, vl, lb, b.at⟩, upd_frame (by decide)⟩
theorem i32_rng {x : Int} : -2147483648 ≤ IntKind.i32.wrap x ∧ IntKind.i32.wrap x ≤ 2147483647 := by
 rw [IntKind.wrap_i32]; omega
def wordV (s : List Int) (m : MS) : Int :=
 if takeV s (m.at_ + 1) 8 = 0 then IntKind.i32.wrap (IntKind.i64.wrap (takeV s m.at_ 1048576 * 4099))
 else if takeV s (m.at_ + 1) 8 = 1 then IntKind.i32.wrap (IntKind.i64.wrap (-takeV s m.at_ 1048576))
 else if takeV s (m.at_ + 1) 8 = 2 then -2147483648
 else if takeV s (m.at_ + 1) 8 = 3 then IntKind.i32.wrap ((takeV s m.at_ 1048576).tmod 70000)
 else IntKind.i32.wrap (IntKind.i64.wrap ((takeV s m.at_ 1048576).tmod 20 - 4))
theorem wordV_rng : -2147483648 ≤ wordV s m ∧ wordV s m ≤ 2147483647 := by
 unfold wordV
 repeat' split
 all_goals first | exact i32_rng | decide
theorem Mk.word (w : Mk s M vs W h o m) (h1 : m.at_ ≤ 999999990) :
  HCalls Try.prog N.ref03_maker_word #[.pointer (some ⟨M, 0, none⟩)] h (fun u h' => u = .int .i32 (wordV s m) ∧ ∃ o', Mk s M vs W h' o' m.took.took ∧ ∀ k : Key, 3 ≤ k.1 → o' k = o k) := by
 refine calls_lift (args := [.pointer (some ⟨M, 0, none⟩)]) follows F.ref03_maker_word E.ref03_maker_word (Nat.le_of_ble_eq_true (by kernel_rfl)) fun K hK => ?_
 dsimp only [L.ref03_maker_word]
 refine lwp_hide fun z hz => ?_
 simp
 rw [hz]; clear hz z
 refine lwp_hide fun z hz => ?_
 simp
 refine call_to (by kernel_rfl) (w.take (by omega) (n := 1048576) (by decide) (by decide)) ?_
 rintro _ h2 ⟨rfl, o2, w2, f2⟩
 rw [hz]; clear hz z
 refine lwp_hide fun z hz => ?_
 simp
 refine call_to (by kernel_rfl) (w2.take (show m.at_ + 1 ≤ _ by omega) (n := 8) (by decide) (by decide)) ?_
 rintro _ h3 ⟨rfl, o3, w3, f3⟩
 have hx : m.took.at_ = m.at_ + 1 := rfl
 rw [hx]
 have hf : ∀ k : Key, 3 ≤ k.1 → o3 k = o k := fun k hk => (f3 k hk).trans (f2 k hk)
 have hwd : wordV s m = _ := wordV.eq_1 s m
 generalize wordV s m = r at hwd hK
 generalize takeV s (m.at_ + 1) 8 = q at hwd
 generalize takeV s m.at_ 1048576 = x at hwd
 by_cases c0 : q = 0
 ·rw [if_pos c0] at hwd
  simp [c0]
  exact hK _ _ ⟨by rw [hwd], _, w3, hf⟩
 rw [if_neg c0] at hwd
 by_cases c1 : q = 1
 ·rw [if_pos c1] at hwd
  simp [c1]
  refine do_neg rfl ?_
  simp
  exact hK _ _ ⟨by rw [hwd], _, w3, hf⟩
 rw [if_neg c1] at hwd
 by_cases c2 : q = 2
 ·rw [if_pos c2] at hwd
  simp [c2]
  exact hK _ _ ⟨by rw [hwd], _, w3, hf⟩
 rw [if_neg c2] at hwd
 by_cases c3 : q = 3
 ·rw [if_pos c3] at hwd
  simp [c3]
  exact hK _ _ ⟨by rw [hwd], _, w3, hf⟩
 rw [if_neg c3] at hwd
 simp [c0, c1, c2, c3]
 rw [hz]; clear hz z
 simp
 exact hK _ _ ⟨by rw [hwd], _, w3, hf⟩
end Go.Proofs.Ytfelpjfopgiabaa
namespace Go.Proofs.Ytfelpjfopgiabaa
open Go Go.Lft
def MS.add (m : MS) (b : Nat) (i : InsD) : MS := { m with blocks := m.blocks.set b { nth m.blocks b with ins := (nth m.blocks b).ins ++ [i] }, live := m.live ++ makesS i }
def conD (v : Int) (n : Int) : InsD := ⟨1, v, 0, [], ⟨n⟩⟩
def MS.constant (m : MS) (b : Nat) (n : Int) : MS := m.freshed.add b (conD m.next n)
def valAt (s : List Int) (m : MS) : Int := nth m.live (if takeV s (m.at_ + 1) 3 = 0 then m.live.length - 1 else (takeV s m.at_ m.live.length).toNat)
def someW (s : List Int) (m : MS) (b : Nat) : MS := (m.took.took).constant b (wordV s m)
def someS (s : List Int) (m : MS) (b : Nat) : Int × MS :=
 if m.live.length = 0 then (m.next, someW s m b)
 else if takeV s (m.at_ + 2) 9 = 0 then (m.next, someW s m.took.took.took b)
 else (valAt s m, m.took.took.took)
def MS.two (m : MS) (b : Nat) (op x y : Int) : MS := m.freshed.add b ⟨op, m.next, 0, [x, y], ⟨0⟩⟩
def binS (s : List Int) (m : MS) (b : Nat) (op : Int) : MS :=
 let r1 := someS s m b
 let r2 := someS s r1.2 b
 if takeV s r2.2.at_ 3 = 0 then
  (r2.2.took.took.constant b (IntKind.i32.wrap (IntKind.i64.wrap (takeV s (r2.2.at_ + 1) 40 - 8)))).two b op r1.1 r2.2.next
 else r2.2.took.two b op r1.1 r2.1
def ltuS (s : List Int) (m : MS) (b : Nat) : MS :=
 let r1 := someS s m b
 let r2 := someS s r1.2 b
 r2.2.two b 13 r1.1 r2.1
def divS (s : List Int) (m : MS) (b : Nat) : MS :=
 let r1 := someS s m b
 let m2 := r1.2.took.constant b (IntKind.i32.wrap (takeV s r1.2.at_ 12))
 if 0 < takeV s m2.at_ 3 then
  (m2.took.took.constant b (IntKind.i32.wrap (1 + IntKind.i32.wrap (takeV s (m2.at_ + 1) 12)))).two b 14 r1.1 m2.next
 else m2.took.two b 14 r1.1 r1.2.next
def mulwS (s : List Int) (m : MS) (b : Nat) : MS :=
 let r1 := someS s m b
 let r2 := someS s r1.2 b
 r2.2.freshed.freshed.add b ⟨18, r2.2.next, r2.2.next + 1, [r1.1, r2.1], ⟨0⟩⟩
def argsS (s : List Int) (b : Nat) : Nat → List Int × MS → List Int × MS := fun _ x => (x.1 ++ [(someS s x.2 b).1], (someS s x.2 b).2)
def callS (s : List Int) (m : MS) (b : Nat) : MS :=
 let r := up (argsS s b) (takeV s m.at_ 5).toNat ([], m.took)
 r.2.freshed.took.add b ⟨17, r.2.next, 0, r.1, ⟨IntKind.i32.wrap (takeV s r.2.at_ 5)⟩⟩
def addrS (s : List Int) (m : MS) (b : Nat) : Int × MS :=
 let m1 := m.took.constant b (IntKind.i32.wrap (takeV s m.at_ 9))
 if takeV s m1.at_ 3 = 0 then
  let r := someS s m1.took b
  let m3 := (r.2.constant b 7).two b 5 r.1 r.2.next
  (m3.next, m3.two b 2 m.next (r.2.next + 1))
 else (m.next, m1.took)
def offS (s : List Int) (m : MS) : Int × MS :=
 if takeV s (m.at_ + 1) 12 = 0 then (wordV s m.took.took, m.took.took.took.took) else (IntKind.i32.wrap (takeV s m.at_ 4), m.took.took)
def memoryS (s : List Int) (m : MS) (b : Nat) (store : Bool) : MS :=
 let a := addrS s m b
 let i := offS s a.2
 if store then (someS s i.2 b).2.add b ⟨16, 0, 0, [a.1, (someS s i.2 b).1], ⟨i.1⟩⟩
 else i.2.freshed.add b ⟨15, i.2.next, 0, [a.1], ⟨i.1⟩⟩
def opsL : List Int := [2, 2, 3, 4, 5, 6, 7, 8, 9, 10, 12, 11]
def instructionS (s : List Int) (b : Nat) (m : MS) : MS :=
 let k := takeV s m.at_ 20
 if k < 12 then binS s m.took b (nth opsL k.toNat)
 else if k = 12 then ltuS s m.took b
 else if k = 13 then divS s m.took b
 else if k < 16 then memoryS s m.took b (decide (k = 15))
 else if k = 16 then callS s m.took b
 else if k = 17 then mulwS s m.took b
 else m.took.took.took.constant b (wordV s m.took)
end Go.Proofs.Ytfelpjfopgiabaa
