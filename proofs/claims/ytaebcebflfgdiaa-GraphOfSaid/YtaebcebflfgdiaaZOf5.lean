/- A part of the proof: Wt, Wu, Wv, Ww, Wx, Wy, Pa, Va, Vb, Pb, Pd, Pc, Pe, Pf. -/
import Derived.Test.YtaebcebflfgdiaaZOf4
namespace Go.Proofs.Ytaebcebflfgdiaa
open Go Go.Lft
set_option linter.unusedSimpArgs false
set_option linter.unusedVariables false

theorem moved_le {h h' : Heap} {v v' : Value} (m : Moved h h' v v') {W : View} (hw : W.le (vw h)) (ha : Av W v) : W.le (vw h') := (m.view hw ha).1

theorem idom_ok {g : Gr} {vg : Value} {h : Heap} {fuel : Nat} {l : List Int} (hg : SlRd (vw h) vg g) (hs : Sm g) (hl : idomG g fuel = some l) :
    HCalls Try.prog N.graph_Idom #[vg] h (fun v h' => ∃ W, Mine nothing h h' W 3 v l) := by
  refine calls_lift (args := [vg]) follows Try.func20 E.graph_Idom (by show 1 ≤ 107; decide) fun K hK => ?_
  have hs1 := hs.1
  simp [L.graph_Idom, hg.len]
  refine call_to (by kernel_rfl) (order_ok hg hs) ?_
  rintro vo h1 ⟨hle1, ho⟩
  have hoin := @gOrder_in g
  have holen := gOrder_len (g := g)
  rw [idomG] at hl
  generalize gOrderS g = order at ho hoin holen hl
  refine Mine.made (V := nothing) (W := nothing) (h0 := h) (n := g.length) (d := (0 : Int)) elem23 hle1 (fun _ _ h => by cases h) (Old.nothing _ _) (by simp <;> rfl) (by simp <;> rfl) ⟨rfl, by omega, by omega⟩ (by omega) (by omega) fun vn h2 mn hle2 hbn => ?_
  refine Mine.made (V := nothing) (W := nothing) (h0 := h) (n := g.length) (d := (0 : Int)) elem23 mn.old (fun _ _ h => by cases h) (Old.nothing _ _) (by simp <;> rfl) (by simp <;> rfl) ⟨rfl, by omega, by omega⟩ (by omega) (by omega) fun vi h3 mi hle3 hbi => ?_
  have mn3 := mn.ext' hle3
  have hne : vn.ownBlock ≠ vi.ownBlock := by
    have := mn.own.lt hbn
    rw [hbn, hbi]; intro e; simp only [Option.some.injEq] at e; omega
  have hle13 : (vw h1).le (vw h3) := View.le_trans hle2 hle3
  have av1n : Av (vw h1) vn := fun b hb => by rw [hbn] at hb; cases hb; exact View.none_of_ge (View.le_refl _) (Nat.le_refl _)
  have av1i : Av (vw h1) vi := fun b hb => by rw [hbi] at hb; cases hb; exact View.none_of_ge hle2 (Nat.le_refl _)
  refine lwp_range [0, 3, 4, 5, 25, 26] (fun (_ : Unit) k => [vg, vo, vn, vi, .int .i64 g.length, .int .i64 k])
    (fun _ k h4 => Mine nothing h h4 nothing 3 vn (rows (fun _ => (-1 : Int)) k ++ List.replicate (g.length - k) 0) ∧ Mine nothing h h4 nothing 3 vi (rows (fun _ => (-1 : Int)) k ++ List.replicate (g.length - k) 0) ∧ (vw h1).le (vw h4)) g.length ()
    rfl (by omega) rfl ⟨by simpa using mn3, by simpa using mi, hle13⟩ (fun _ _ => rfl) (fun v k h1 hk m => by simp) ?_ ?_
  · rintro _ k h4 hlt ⟨m4n, m4i, hle4⟩ K2 hK2
    have hlk : (rows (fun _ => (-1 : Int)) k ++ List.replicate (g.length - k) (0 : Int)).length = g.length := by simp; omega
    simp (disch := omega) [m4n.now.idx1 rfl, m4i.now.idx1 rfl]
    refine do_set (W := nothing) (i := k) (d := (-1 : Int)) (by kernel_rfl) (by simp [show Rep.n Int = 1 from rfl]) (by simp <;> rfl) m4n.own (by omega) (rd_i (by omega) (by omega)) fun h5 o5 mv5 => ?_
    have m5n := m4n.moved o5 mv5
    have m5i := m4i.beside m5n mv5 (.inr (Ne.symm hne))
    refine do_set (W := nothing) (i := k) (d := (-1 : Int)) (by kernel_rfl) (by simp [show Rep.n Int = 1 from rfl]) (by simp <;> rfl) m5i.own (by omega) (rd_i (by omega) (by omega)) fun h6 o6 mv6 => ?_
    have m6i := m5i.moved o6 mv6
    have m6n := m5n.beside m6i mv6 (.inr hne)
    rw [rows_set (x := fun _ => (-1 : Int)) hlt] at m6i m6n
    exact hK2 () _ _ rfl rfl ⟨m6n, m6i, moved_le mv6 (moved_le mv5 hle4 av1n) av1i⟩
  · rintro _ h4 ⟨m4n, m4i, hle4⟩
    have hrows : rows (fun _ => (-1 : Int)) g.length = List.replicate g.length (-1) := by
      refine List.ext_getElem (by simp) fun i h1 h2 => ?_
      simp [rows]
    rw [hrows] at m4n m4i
    simp only [Nat.sub_self, List.replicate_zero, List.append_nil] at m4n m4i
    have ho1 := ho.mono (fresh_le h h1)
    simp [ho1.len]
    refine lwp_range [0, 3, 4, 5, 36, 37, 38] (fun (_ : Unit) k => [vg, vo, vn, vi, vo, .int .i64 order.length, .int .i64 k])
      (fun _ k h5 => Mine nothing h h5 nothing 3 vn (up (fun i l => l.set (nth order i).toNat (i : Int)) k (List.replicate g.length (-1))) ∧ Mine nothing h h5 nothing 3 vi (List.replicate g.length (-1)) ∧ (vw h1).le (vw h5)) order.length ()
      rfl (by omega) rfl ⟨m4n, m4i, hle4⟩ (fun _ _ => rfl) (fun v k h1 hk m => by simp) ?_ ?_
    · rintro _ k h5 hlt ⟨m5n, m5i, hle5⟩ K2 hK2
      have hlen5 : (up (fun i l => l.set (nth order i).toNat (i : Int)) k (List.replicate g.length (-1))).length = g.length := by
        rw [up_keep List.length (fun _ _ => by simp)]; simp
      have ho5 := ho1.mono hle5
      obtain ⟨e0, e1⟩ := hoin hlt
      simp (disch := omega) [ho5.idx1 rfl, ho5.int (View.le_refl _), m5n.now.idx1 rfl]
      refine do_set (W := nothing) (i := (nth order k).toNat) (d := (k : Int)) (by kernel_rfl) (by simp [show Rep.n Int = 1 from rfl]) (by simp <;> rfl) m5n.own (by omega) (rd_i (by omega) (by omega)) fun h6 o6 mv6 => ?_
      have m6n := m5n.moved o6 mv6
      exact hK2 () _ _ rfl rfl ⟨m6n, m5i.beside m6n mv6 (.inr (Ne.symm hne)), moved_le mv6 hle5 av1n⟩
    · rintro _ h5 ⟨m5n, m5i, hle5⟩
      have hnum : up (fun i l => l.set (nth order i).toNat (i : Int)) order.length (List.replicate g.length (-1)) = numberS g.length order := rfl
      rw [hnum] at m5n
      have hnl : (numberS g.length order).length = g.length := by rw [numberS, up_keep List.length (fun _ _ => by simp)]; simp
      simp
      refine call_to (by kernel_rfl) (preds_ok (hg.mono m5n.old) hs) ?_
      rintro vp h6 ⟨hle6, hp⟩
      have hpl : (predsG g).length = g.length := by rw [predsG, predsG_len]; simp
      have hpin : ∀ i, ∀ x ∈ nth (predsG g) i, 0 ≤ x ∧ x < g.length := predsG_in (fun e he => (edgesS_in he).1) (fun i x hx => by
        rcases Nat.lt_or_ge i g.length with hi | hi
        · rw [nth_replicate hi] at hx; cases hx
        · rw [nth_ge (by simpa using hi)] at hx; cases hx)
      have m6 := (m5i.ext' hle6).over
      have hn6 : SlRd (but vi h6) vn (numberS g.length order) := (m5n.own.rd (V := but vi h5) (fun _ _ h => by cases h) (fun b hb => by unfold but; rw [if_neg (fun e => hne (hb.trans e.symm))])).mono (but_mono hle6)
      have hp6 : SlRd (but vi h6) vp (predsG g) := hp.mono fun b o hb => by
        have hb2 := fresh_le _ _ b o hb
        unfold but
        split
        · rename_i e
          have := m5i.own.lt e
          unfold fresh at hb; rw [if_pos this] at hb; cases hb
        · exact hb2
      have ho6 : SlRd (but vi h6) vo order := ho1.mono (View.le_trans (le_but hle5 av1i) (but_mono hle6))
      generalize hW : but vi h6 = W at m6 hn6 hp6 ho6
      generalize numberS g.length order = number at hn6 hnl hl
      generalize hpr : predsG g = preds at hp6 hpl hpin hl
      obtain ⟨pv, hpv⟩ := hp6.rows
      refine lwp_loop [3, 4, 5, 9, 10] (fun m ρ h7 => ∃ (out : List Int) (ch : Bool), ρ = [(3, vo), (4, vn), (5, vi), (9, vp), (10, .bool ch)] ∧ Mine (vw h) h h7 W 3 vi out ∧ out.length = g.length ∧ (∀ i, i < g.length → -1 ≤ nth out i ∧ nth out i < g.length) ∧
        (ch = true → idomLoop number preds g.length (order.drop (min 1 order.length)) m out = some l) ∧ (ch = false → out = l)) fuel
        ⟨_, true, rfl, m6, by simp, fun i hi => by rw [nth_replicate hi]; omega, fun _ => hl, fun h => by cases h⟩ ?_
      rintro m ρ h7 ⟨out, ch, rfl, m7, hol, hor, hch1, hch2⟩ K2 hK2
      cases ch with
      | false =>
        simp [L.graph_Idom.l3, condP_bool]
        have := hch2 rfl
        subst this
        exact hK _ _ ⟨_, m7.bareI⟩
      | true =>
        have hit := hch1 rfl
        cases m with
        | zero => cases hit
        | succ m =>
          rw [idomLoop, Option.bind_eq_some_iff] at hit
          obtain ⟨⟨out', ch'⟩, hsw, hfin⟩ := hit
          simp only at hfin
          simp [L.graph_Idom.l3, condP_bool]
          have hmin : (if (order.length : Int) < 1 then (order.length : Int) else 1) = ((min 1 order.length : Nat) : Int) := by split <;> omega
          obtain ⟨u, hu, hur⟩ := ho6.drop (n := min 1 order.length) (by omega) (kd := .i64)
          rw [show Rep.n Int = 1 from rfl] at hu
          have hti : ∀ j, j < (order.drop (min 1 order.length)).length → nth (order.drop (min 1 order.length)) j = nth order (min 1 order.length + j) := by
            intro j hj
            rw [List.length_drop] at hj
            rw [nth_eq (by rw [List.length_drop]; omega), nth_eq (by omega), List.getElem_drop]
          generalize order.drop (min 1 order.length) = tail at hur hti hsw hfin hK2
          simp only [ho6.len, Option.bind_some, bn_min, hmin, hu, hur.len, sat_some, setsE]
          have hub := hur.bound
          simp
          refine lwp_range [3, 4, 5, 9, 10, 55, 56, 57] (fun (s : List Int × Bool) k => [vo, vn, vi, vp, .bool s.2, u, .int .i64 tail.length, .int .i64 k])
            (fun s k h8 => Mine (vw h) h h8 W 3 vi s.1 ∧ s.1.length = g.length ∧ (∀ i, i < g.length → -1 ≤ nth s.1 i ∧ nth s.1 i < g.length) ∧ sweepS number preds g.length (tail.drop k) s = some (out', ch')) tail.length (out, false)
            rfl (by omega) rfl ⟨m7, hol, hor, by simpa using hsw⟩ (fun _ _ => rfl) (fun v k h1 hk m => by simp) ?_ ?_
          · rintro ⟨o8, c8⟩ k h8 hlt8 ⟨m8, hol8, hor8, hs8⟩ K3 hK3
            simp only at m8 hol8 hor8
            rw [List.drop_eq_getElem_cons hlt8, ← nth_eq hlt8, sweepS] at hs8
            split at hs8
            case isFalse => cases hs8
            rename_i hb
            rw [Option.bind_eq_some_iff] at hs8
            obtain ⟨best, hbest, hs8⟩ := hs8
            simp only at hbest hs8
            have hb2 := bstS_range (by omega) hol8 hnl hor8 hbest
            generalize hbe : nth tail k = b at hb hbest hs8
            obtain ⟨cv, rr⟩ := hpv b.toNat (by omega)
            have br := rr.bound
            simp (disch := omega) [hur.idx1 rfl, hur.int m8.wle, hbe, hp6.idx1 rfl, cv _ m8.wle, rr.len]
            refine lwp_range [3, 4, 5, 9, 10, 55, 56, 57, 12, 13, 64, 65, 66] (fun (bst : Int) j => [vo, vn, vi, vp, .bool c8, u, .int .i64 tail.length, .int .i64 k, .int .i64 b, .int .i64 bst, pv b.toNat, .int .i64 (nth preds b.toNat).length, .int .i64 j])
              (fun bst j h9 => Mine (vw h) h h9 W 3 vi o8 ∧ (-1 ≤ bst ∧ bst < g.length) ∧ bstS o8 number g.length ((nth preds b.toNat).drop j) bst = some best) (nth preds b.toNat).length (-1)
              rfl (by omega) rfl ⟨m8, by omega, by simpa using hbest⟩ (fun _ _ => rfl) (fun v k h1 hk m => by simp) ?_ ?_
            · rintro bst j h9 hlt9 ⟨m9, hb9, hs9⟩ K4 hK4
              rw [List.drop_eq_getElem_cons hlt9, ← nth_eq hlt9, bstS] at hs9
              have ha := hpin _ _ (nth_mem hlt9)
              rw [if_pos ha] at hs9
              have hra := rr.int m9.wle hlt9
              generalize nth (nth preds b.toNat) j = a at hs9 ha hra
              have hn9 := hn6.int m9.wle (i := a.toNat) (by omega)
              have ho9 := m9.now.int (View.le_refl _) (i := a.toNat) (by omega)
              have hi9 := m9.now
              by_cases c1 : nth number a.toNat < 0
              · rw [if_pos (.inl c1)] at hs9
                simp (disch := omega) [rr.idx1 rfl, hra, hn6.idx1 rfl, hn9, c1, hi9.idx1 rfl, ho9]
                exact hK4 bst _ _ rfl rfl ⟨m9, hb9, hs9⟩
              · by_cases c2 : a = 0
                · rw [if_neg (by rintro (h | h); exact c1 h; exact h.1 c2)] at hs9
                  subst c2
                  rw [Int.toNat_zero] at hn9 ho9 c1
                  simp (disch := omega) [rr.idx1 rfl, hra, hn6.idx1 rfl, hn9, c1, hi9.idx1 rfl, ho9]
                  refine ⟨fun c4 => ?_, fun c4 => ?_⟩
                  · rw [if_pos c4] at hs9
                    exact hK4 _ _ _ rfl rfl ⟨m9, by omega, hs9⟩
                  · rw [if_neg (by omega), Option.bind_eq_some_iff] at hs9
                    obtain ⟨c, hc, hs9⟩ := hs9
                    have hcr := commonS_range hc
                    refine call_to (by kernel_rfl) (common_ok m9.now (hn6.mono m9.wle) hc) ?_
                    rintro _ _ ⟨rfl, rfl⟩
                    exact hK4 c _ _ rfl rfl ⟨m9, by omega, hs9⟩
                · by_cases c3 : nth o8 a.toNat < 0
                  · rw [if_pos (.inr ⟨c2, c3⟩)] at hs9
                    simp (disch := omega) [rr.idx1 rfl, hra, hn6.idx1 rfl, hn9, c1, c2, hi9.idx1 rfl, ho9, c3]
                    exact hK4 bst _ _ rfl rfl ⟨m9, hb9, hs9⟩
                  · rw [if_neg (by rintro (h | h); exact c1 h; exact c3 h.2)] at hs9
                    simp (disch := omega) [rr.idx1 rfl, hra, hn6.idx1 rfl, hn9, c1, c2, hi9.idx1 rfl, ho9, c3]
                    refine ⟨fun c4 => ?_, fun c4 => ?_⟩
                    · rw [if_pos c4] at hs9
                      exact hK4 _ _ _ rfl rfl ⟨m9, by omega, hs9⟩
                    · rw [if_neg (by omega), Option.bind_eq_some_iff] at hs9
                      obtain ⟨c, hc, hs9⟩ := hs9
                      have hcr := commonS_range hc
                      refine call_to (by kernel_rfl) (common_ok m9.now (hn6.mono m9.wle) hc) ?_
                      rintro _ _ ⟨rfl, rfl⟩
                      exact hK4 c _ _ rfl rfl ⟨m9, by omega, hs9⟩
            · rintro bst h9 ⟨m9, hb9, hs9⟩
              simp only [List.drop_length, bstS, Option.some.injEq] at hs9
              subst hs9
              simp (disch := omega) [m9.now.idx1 rfl, m9.now.int (View.le_refl _)]
              refine ⟨fun e => hK3 (o8, c8) _ _ rfl rfl ⟨m9, hol8, hor8, by rw [setS, if_neg (by simpa using e)] at hs8; exact hs8⟩, fun e => ?_⟩
              refine m9.put1 (α := Int) (i := b.toNat) (by kernel_rfl) rfl (by simp) (by simp <;> rfl) (by omega) (rd_i (by omega) (by omega)) fun h10 m10 => hK3 (o8.set b.toNat bst, true) _ _ rfl rfl ⟨m10, by simpa using hol8, fun i hi => ?_, by rw [setS, if_pos e] at hs8; exact hs8⟩
              simp only
              rw [nth_set (by omega)]
              split
              · exact hb9
              · exact hor8 i hi
          · rintro ⟨o8, c8⟩ h8 ⟨m8, hol8, hor8, hs8⟩
            simp only [List.drop_length, sweepS, Option.some.injEq, Prod.mk.injEq] at hs8 m8 hol8 hor8
            obtain ⟨rfl, rfl⟩ := hs8
            simp
            refine hK2 m _ _ (by omega) ⟨_, _, rfl, m8, hol8, hor8, fun e => ?_, fun e => ?_⟩
            · rw [if_pos e] at hfin; exact hfin
            · rw [if_neg (by simp [e])] at hfin; exact Option.some.inj hfin
end Go.Proofs.Ytaebcebflfgdiaa

namespace Go.Proofs.Ytaebcebflfgdiaa
open Go Go.Lft
set_option linter.unusedSimpArgs false
set_option linter.unusedVariables false

theorem back_ok {g : Gr} {vg : Value} {h : Heap} {fuel : Nat} {l : List Int} (hg : SlRd (vw h) vg g) (hs : Sm g) (hl : idomG g fuel = some l) :
    HCalls Try.prog N.graph_back #[vg] h (fun v h' => (vw h).le (vw h') ∧ ∃ p u, v = .func (.func N.graph_back_1) #[] #[.pointer (some p)] ∧ cellH (fresh h h') p = some u ∧ SlRd (fresh h h') u l) := by
  refine calls_lift (args := [vg]) follows Try.func48 E.graph_back (by show 1 ≤ 7; decide) fun K hK => ?_
  simp [L.graph_back]
  refine call_to (by kernel_rfl) (idom_ok hg hs hl) ?_
  rintro u h1 ⟨W1, m1⟩
  obtain ⟨hc, ho⟩ := cells_own m1.own
  refine do_newvar (v := u) (z := .slice none 0 0) (by kernel_rfl) rfl (by kernel_rfl) hc ho (fun _ => by simp) (fun _ => by simp) fun h2 hle2 hsz2 hB2 => ?_
  have hge := ext_size m1.old
  refine hK _ _ ⟨View.le_trans m1.old hle2, _, u, rfl, ?_, m1.bareI.fresh.mono fun b o hb => ?_⟩
  · refine cellH_blk (c := #[u]) (T := 23) (fz := (0, 0)) ?_ rfl
    unfold fresh; rw [if_neg (by omega)]; exact hB2
  · unfold fresh at hb ⊢
    split at hb
    · cases hb
    · rename_i hn; rw [if_neg hn]; exact hle2 b o hb

/-- Blocks to which edges go back. -/
def backE (l : List Int) (e : Int × Int) : Bool := backS l e.1 e.2
def headersG (l : List Int) (g : Gr) : List Int := Lib.compact (sortS (((edgesS g).filter (backE l)).map Prod.snd))

theorem filter_take_succ {β : Type} {p : β → Bool} {l : List β} {k : Nat} {x : β} (h : l[k]? = some x) : (l.take (k + 1)).filter p = (l.take k).filter p ++ if p x then [x] else [] := by
  rw [List.take_add_one, h, List.filter_append]; simp [List.filter_cons]

theorem headers_ok {g : Gr} {vg : Value} {h : Heap} {fuel : Nat} {l : List Int} (hg : SlRd (vw h) vg g) (hs : Sm g) (hl : idomG g fuel = some l) (hll : l.length = g.length) :
    HCalls Try.prog N.graph_Headers #[vg] h (fun v h' => (vw h).le (vw h') ∧ SlRd (fresh h h') v (headersG l g)) := by
  refine calls_liftM (args := [vg]) follows Try.func25 E.graph_Headers (by show 1 ≤ 25; decide) fun K hK => ?_
  have hel := edgesS_len hs
  have hs1 := hs.1
  simp [L.graph_Headers]
  refine call_to (by kernel_rfl) (back_ok hg hs hl) ?_
  rintro _ h1 ⟨hle1, p, u, rfl, hp, hu⟩
  refine do_newvar (v := .func (.func N.graph_back_1) #[] #[.pointer (some p)]) (z := .nilFunc) (by kernel_rfl) rfl (by kernel_rfl) rfl rfl (fun _ => by simp) (fun _ => by simp) fun h2 hle2 hsz2 hB2 => ?_
  refine do_alloc (z := .slice none 0 0) (by kernel_rfl) ?_
  refine call_to (by kernel_rfl) edges_ok ?_
  rintro _ _ ⟨rfl, rfl⟩
  rw [hg.cells.1]
  have hle3 : (vw h2).le (vw ((h2.push (.cells (Value.slice none 0 0).cells 23)).push (.cells #[vg] 22))) := View.le_trans (push_le _ _) (push_le _ _)
  have hB3 : ((h2.push (.cells (Value.slice none 0 0).cells 23)).push (.cells #[vg] 22))[h2.size]? = some (.cells #[.slice none 0 0] 23 (0, 0)) := by rw [Array.getElem?_push, if_neg (by simp), Array.getElem?_push_size]; rfl
  have hG3 : ((h2.push (.cells (Value.slice none 0 0).cells 23)).push (.cells #[vg] 22))[h2.size + 1]? = some (.cells #[vg] 22 (0, 0)) := by rw [show h2.size + 1 = (h2.push (.cells (Value.slice none 0 0).cells 23)).size by simp]; exact Array.getElem?_push_size
  have hsz3 : ((h2.push (.cells (Value.slice none 0 0).cells 23)).push (.cells #[vg] 22)).size = h2.size + 2 := by simp
  simp only [Array.size_push]
  generalize (h2.push (.cells (Value.slice none 0 0).cells 23)).push (.cells #[vg] 22) = h3 at hle3 hB3 hG3 hsz3
  have h2W : (vw h2).le (skip h2.size h3) := le_skip hle3 (View.none_of_ge (View.le_refl _) (Nat.le_refl _))
  have h0W : (vw h).le (skip h2.size h3) := View.le_trans (View.le_trans hle1 hle2) h2W
  have h1W : (fresh h h1).le (skip h2.size h3) := View.le_trans (fresh_le _ _) (View.le_trans hle2 h2W)
  have hp3 : cellH (skip h2.size h3) ⟨h2.size + 1, 0, none⟩ = some vg := cellH_blk (c := #[vg]) (T := 22) (fz := (0, 0)) (by rw [skip_get (by omega)]; exact hG3) rfl
  have hf3 : cellH (skip h2.size h3) ⟨h1.size, 0, none⟩ = some (.func (.func N.graph_back_1) #[] #[.pointer (some p)]) := cellH_blk (h2W _ _ hB2) rfl
  have hpW := cellH_mono h1W hp
  have huW := hu.mono h1W
  have hWle : (skip h2.size h3).le (vw h3) := skip_le
  have hWB : skip h2.size h3 h2.size = none := skip_self
  generalize skip h2.size h3 = W0 at h2W h0W h1W hp3 hf3 hpW huW hWle hWB
  refine lwp_rangef (enc := pairV) (all := edgesS g) (gf := N.graph_edges_1) (caps := [.pointer (some ⟨h2.size + 1, 0, none⟩)]) W0 W0 (fun e k W h' => e = none ∧ ∃ v, Bx W h' h2.size 23 3 v ((((edgesS g).take k).filter (backE l)).map Prod.snd))
    rfl (by kernel_rfl) (edges1_iter (hg.mono h0W) hp3 hs) (fun _ => rfl) (View.le_refl _) (fun e k => ⟨fun ⟨_, rv, r⟩ => r.wle, fun ⟨a, rv, r⟩ _ h1 h2 _ => ⟨a, rv, r.move h1 h2⟩⟩) ⟨rfl, _, Bx.start hWle hWB hB3⟩
    (fun x h1 => by simp [pairV, setsE]; rfl) ?_ ?_ ?_
  · rintro k e W h4 hag hk ⟨_, v, r⟩ K2 hK2 _
    have he := edgesS_in (List.mem_of_getElem? hk)
    have hk1 : k < (edgesS g).length := (List.getElem?_eq_some_iff.1 hk).1
    have hfl : ((((edgesS g).take k).filter (backE l)).map Prod.snd).length ≤ k := by
      have := List.length_filter_le (backE l) ((edgesS g).take k)
      rw [List.length_take] at this
      rw [List.length_map]; omega
    have hst := filter_take_succ (p := backE l) hk
    have hW0W : W0.le W := fun b o hb => by rw [hag b (View.lt hWle hb)]; exact hb
    have hWh := View.le_trans hW0W r.wle
    simp [cellH_mono hWh hf3]
    refine do_callv (ops := [.tmp 14, .tmp 15]) rfl (by kernel_rfl) (by simpa using back1_ok (huW.mono hWh) (cellH_mono hWh hpW) he.1.1 (by rw [hll]; exact he.1.2)) ?_
    rintro _ h5 ⟨rfl, hle5⟩
    have r5 := r.ext hle5
    rw [show backS l e.1 e.2 = backE l e from rfl]
    cases hbe : backE l e with
    | true =>
      simp [condP_bool, r5.cell]
      refine r5.push elem23 (by kernel_rfl) (by simp <;> rfl) (rd_i (by omega) (by omega)) (by omega) (by omega) (fun _ => by simp) (fun _ => by simp) (fun _ _ => by simp) (fun _ _ => by simp) fun u v' h6 r6 => hK2 _ _ ⟨rfl, v', ?_⟩
      rw [hst, hbe, List.map_append]; exact r6
    | false =>
      simp [condP_bool]
      refine hK2 _ _ ⟨rfl, v, ?_⟩
      rw [hst, hbe]; simpa using r5
  · rintro W h4 hag ⟨_, v, r⟩
    rw [List.take_of_length_le (Nat.le_refl _)] at r
    have hW0W : W0.le W := fun b o hb => by rw [hag b (View.lt hWle hb)]; exact hb
    simp [r.cell]
    refine call_to (by kernel_rfl) (sort_ok r.own) ?_
    rintro _ h5 ⟨o5, k5⟩
    have hB5 : h5[h2.size]? = some (.cells #[v] 23 (0, 0)) := by rw [k5.block _ r.lt (fun e => r.nv e.symm)]; exact r.box
    have hW5 := k5.view r.wle r.av
    have c5 : cellH (vw h5) ⟨h2.size, 0, none⟩ = some v := cellH_blk hB5 rfl
    simp [c5]
    refine call_to (by kernel_rfl) (compact_ok o5) ?_
    rintro v6 h6 ⟨o6, m6⟩
    obtain ⟨hW6, ha6⟩ := m6.view hW5 r.av
    intro h7 hsw
    have hle6 : (vw h).le (vw h6) := View.le_trans (View.le_trans h0W hW0W) hW6
    have hav : Av (vw h) v6 := fun b hb => by
      cases hx : vw h b with
      | none => rfl
      | some o => have := (View.le_trans h0W hW0W) _ _ hx; rw [ha6 b hb] at this; cases this
    exact ⟨_, rfl, hK _ _ ⟨hsw.ext hle6, hsw.rd (o6.fresh (fun _ _ h => by cases h) hav)⟩⟩
  · rintro e k W h1 hag ⟨hne, _⟩
    cases hne
end Go.Proofs.Ytaebcebflfgdiaa

namespace Go.Proofs.Ytaebcebflfgdiaa
open Go Go.Lft
set_option linter.unusedSimpArgs false
set_option linter.unusedVariables false

/-- Edges from several to several. -/
def critE (g : Gr) (e : Int × Int) : Bool := decide (1 < (nth (cleanS g) e.1.toNat).length) && decide (1 < (nth (predsG g) e.2.toNat).length)
def criticalG (g : Gr) : List (Int × Int) := (edgesS g).filter (critE g)

theorem critical_ok {g : Gr} {vg : Value} {h : Heap} (hg : SlRd (vw h) vg g) (hs : Sm g) :
    HCalls Try.prog N.graph_Critical #[vg] h (fun v h' => (vw h).le (vw h') ∧ SlRd (fresh h h') v (criticalG g)) := by
  refine calls_liftM (args := [vg]) follows Try.func28 E.graph_Critical (by show 1 ≤ 37; decide) fun K hK => ?_
  have hel := edgesS_len hs
  have hs1 := hs.1
  have hcl := cleanS_len (g := g)
  have hpl : (predsG g).length = g.length := by rw [predsG, predsG_len]; simp
  simp [L.graph_Critical]
  refine call_to (by kernel_rfl) (clean_ok hg hs) ?_
  rintro vr h1 ⟨W1, m1⟩
  have hle1 := m1.old
  have hr := m1.now
  refine call_to (by kernel_rfl) (preds_ok (hg.mono hle1) hs) ?_
  rintro vp h2 ⟨hle2, hp⟩
  have hp := hp.mono (fresh_le _ _)
  have hr := hr.mono hle2
  refine do_alloc (z := .slice none 0 0) (by kernel_rfl) ?_
  refine do_alloc (z := .slice none 0 0) (by kernel_rfl) ?_
  have hR0 : ((h2.push (.cells (Value.slice none 0 0).cells 22)).push (.cells (Value.slice none 0 0).cells 22))[h2.size]? = some (.cells #[.slice none 0 0] 22 (0, 0)) := by rw [Array.getElem?_push, if_neg (by simp), Array.getElem?_push_size]; rfl
  have hP0 : ((h2.push (.cells (Value.slice none 0 0).cells 22)).push (.cells (Value.slice none 0 0).cells 22))[h2.size + 1]? = some (.cells #[.slice none 0 0] 22 (0, 0)) := by rw [show h2.size + 1 = (h2.push (.cells (Value.slice none 0 0).cells 22)).size by simp]; exact Array.getElem?_push_size
  have hle3 : (vw h2).le (vw ((h2.push (.cells (Value.slice none 0 0).cells 22)).push (.cells (Value.slice none 0 0).cells 22))) := View.le_trans (push_le _ _) (push_le _ _)
  have hsz3 : ((h2.push (.cells (Value.slice none 0 0).cells 22)).push (.cells (Value.slice none 0 0).cells 22)).size = h2.size + 2 := by simp
  simp only [Array.size_push]
  generalize (h2.push (.cells (Value.slice none 0 0).cells 22)).push (.cells (Value.slice none 0 0).cells 22) = h3 at hR0 hP0 hle3 hsz3
  obtain ⟨c1, o1⟩ := hr.cells
  obtain ⟨c2, o2⟩ := hp.cells
  refine do_store (g := h2.size) (o := 0) (n := 1) (v := vr) (by kernel_rfl) (by simp) (by simp) (by rw [c1]; rfl) (by rw [c1]; simpa using o1) hR0 (by simp) fun h4 hsz4 ⟨row, hR4, he⟩ hoth4 => ?_
  have hrow : row = #[vr] := by rw [← Array.toList_inj, he, c1]; rfl
  rw [hrow] at hR4
  refine do_store (g := h2.size + 1) (o := 0) (n := 1) (e := 22) (cur := #[.slice none 0 0]) (v := vp) (by kernel_rfl) (by simp) (by simp) (by rw [c2]; rfl) (by rw [c2]; simpa using o2) (by rw [hoth4 _ (by omega)]; exact hP0) (by simp) fun h5 hsz5 ⟨row2, hP5, he2⟩ hoth5 => ?_
  have hrow2 : row2 = #[vp] := by rw [← Array.toList_inj, he2, c2]; rfl
  rw [hrow2] at hP5
  have hR5 : h5[h2.size]? = some (.cells #[vr] 22 (0, 0)) := by rw [hoth5 _ (by omega)]; exact hR4
  have hle5 : (vw h2).le (vw h5) := fun b o hb => by
    have hlt := View.lt (View.le_refl (vw h2)) hb
    show h5[b]? = _
    rw [hoth5 b (by omega), hoth4 b (by omega)]
    exact hle3 b o hb
  refine do_alloc (z := .slice none 0 0) (by kernel_rfl) ?_
  refine call_to (by kernel_rfl) edges_ok ?_
  rintro _ _ ⟨rfl, rfl⟩
  rw [hg.cells.1]
  have hle6 : (vw h5).le (vw ((h5.push (.cells (Value.slice none 0 0).cells 42)).push (.cells #[vg] 22))) := View.le_trans (push_le _ _) (push_le _ _)
  have hB6 : ((h5.push (.cells (Value.slice none 0 0).cells 42)).push (.cells #[vg] 22))[h5.size]? = some (.cells #[.slice none 0 0] 42 (0, 0)) := by rw [Array.getElem?_push, if_neg (by simp), Array.getElem?_push_size]; rfl
  have hG6 : ((h5.push (.cells (Value.slice none 0 0).cells 42)).push (.cells #[vg] 22))[h5.size + 1]? = some (.cells #[vg] 22 (0, 0)) := by rw [show h5.size + 1 = (h5.push (.cells (Value.slice none 0 0).cells 42)).size by simp]; exact Array.getElem?_push_size
  simp only [Array.size_push]
  generalize (h5.push (.cells (Value.slice none 0 0).cells 42)).push (.cells #[vg] 22) = h6 at hle6 hB6 hG6
  have h5W : (vw h5).le (skip h5.size h6) := le_skip hle6 (View.none_of_ge (View.le_refl _) (Nat.le_refl _))
  have h2W := View.le_trans hle5 h5W
  have h0W : (vw h).le (skip h5.size h6) := View.le_trans (View.le_trans hle1 hle2) h2W
  have hp6 : cellH (skip h5.size h6) ⟨h5.size + 1, 0, none⟩ = some vg := cellH_blk (c := #[vg]) (T := 22) (fz := (0, 0)) (by rw [skip_get (by omega)]; exact hG6) rfl
  have hcR : cellH (skip h5.size h6) ⟨h2.size, 0, none⟩ = some vr := cellH_blk (h5W _ _ hR5) rfl
  have hcP : cellH (skip h5.size h6) ⟨h2.size + 1, 0, none⟩ = some vp := cellH_blk (h5W _ _ hP5) rfl
  have hrW := hr.mono h2W
  have hpW := hp.mono h2W
  have hWle : (skip h5.size h6).le (vw h6) := skip_le
  have hWB : skip h5.size h6 h5.size = none := skip_self
  generalize skip h5.size h6 = W0 at h5W h2W h0W hp6 hcR hcP hrW hpW hWle hWB
  obtain ⟨rv, hrv⟩ := hrW.rows
  obtain ⟨pv, hpv⟩ := hpW.rows
  refine lwp_rangef (enc := pairV) (all := edgesS g) (gf := N.graph_edges_1) (caps := [.pointer (some ⟨h5.size + 1, 0, none⟩)]) W0 W0 (fun e k W h' => e = none ∧ ∃ v, Bx W h' h5.size 42 41 v (((edgesS g).take k).filter (critE g)))
    rfl (by kernel_rfl) (edges1_iter (hg.mono h0W) hp6 hs) (fun _ => rfl) (View.le_refl _) (fun e k => ⟨fun ⟨_, rv, r⟩ => r.wle, fun ⟨a, rv, r⟩ _ h1 h2 _ => ⟨a, rv, r.move h1 h2⟩⟩) ⟨rfl, _, Bx.start hWle hWB hB6⟩
    (fun x h1 => by simp [pairV, setsE]; rfl) ?_ ?_ ?_
  · rintro k e W h7 hag hk ⟨_, v, r⟩ K2 hK2 _
    have he := edgesS_in (List.mem_of_getElem? hk)
    have hk1 : k < (edgesS g).length := (List.getElem?_eq_some_iff.1 hk).1
    have hfl : (((edgesS g).take k).filter (critE g)).length ≤ k := by
      have := List.length_filter_le (critE g) ((edgesS g).take k)
      rw [List.length_take] at this
      omega
    have hst := filter_take_succ (p := critE g) hk
    have hW0W : W0.le W := fun b o hb => by rw [hag b (View.lt hWle hb)]; exact hb
    have hWh := View.le_trans hW0W r.wle
    obtain ⟨cr, rr⟩ := hrv e.1.toNat (by omega)
    obtain ⟨cp, rp⟩ := hpv e.2.toNat (by omega)
    have hcE : critE g e = (decide (1 < (nth (cleanS g) e.1.toNat).length) && decide (1 < (nth (predsG g) e.2.toNat).length)) := rfl
    by_cases hc1 : 1 < (nth (cleanS g) e.1.toNat).length
    · by_cases hc2 : 1 < (nth (predsG g) e.2.toNat).length
      · rw [decide_eq_true hc1, decide_eq_true hc2] at hcE
        simp (disch := omega) [cellH_mono hWh hcR, cellH_mono hWh hcP, hrW.idx1 rfl, hpW.idx1 rfl, cr _ hWh, cp _ hWh, rr.len, rp.len, show (1 : Int) < ((nth (cleanS g) e.1.toNat).length : Int) by omega, show (1 : Int) < ((nth (predsG g) e.2.toNat).length : Int) by omega, condP_bool, r.cell]
        refine do_build (z := .agg #[.int .i64 0, .int .i64 0]) (places := [(0, 1), (1, 1)]) (vs := [(0, .int .i64 e.1), (1, .int .i64 e.2)]) (cs := #[.int .i64 e.1, .int .i64 e.2]) (by kernel_rfl) (by kernel_rfl) (by simp) rfl ?_
        refine r.push (d := e) elem42 (by kernel_rfl) (by simp <;> rfl) (rd_pair.2 ⟨rfl, ⟨by omega, by omega⟩, by omega, by omega⟩) (by omega) (by omega) (fun _ => by simp) (fun _ => by simp) (fun _ _ => by simp) (fun _ _ => by simp) fun u v' h6 r6 => hK2 _ _ ⟨rfl, v', ?_⟩
        rw [hst, hcE]; exact r6
      · rw [decide_eq_true hc1, decide_eq_false hc2] at hcE
        simp (disch := omega) [cellH_mono hWh hcR, cellH_mono hWh hcP, hrW.idx1 rfl, hpW.idx1 rfl, cr _ hWh, cp _ hWh, rr.len, rp.len, show (1 : Int) < ((nth (cleanS g) e.1.toNat).length : Int) by omega, show ¬ (1 : Int) < ((nth (predsG g) e.2.toNat).length : Int) by omega, condP_bool]
        refine hK2 _ _ ⟨rfl, v, ?_⟩
        rw [hst, hcE]; simpa using r
    · rw [decide_eq_false hc1] at hcE
      simp (disch := omega) [cellH_mono hWh hcR, cellH_mono hWh hcP, hrW.idx1 rfl, hpW.idx1 rfl, cr _ hWh, cp _ hWh, rr.len, rp.len, show ¬ (1 : Int) < ((nth (cleanS g) e.1.toNat).length : Int) by omega, condP_bool]
      refine hK2 _ _ ⟨rfl, v, ?_⟩
      rw [hst, hcE]; simpa using r
  · rintro W h7 hag ⟨_, v, r⟩
    rw [List.take_of_length_le (Nat.le_refl _)] at r
    have hW0W : W0.le W := fun b o hb => by rw [hag b (View.lt hWle hb)]; exact hb
    simp [r.cell]
    intro h8 hsw
    have hWW := View.le_trans h0W hW0W
    exact ⟨_, rfl, hK _ _ ⟨hsw.ext (View.le_trans hWW r.wle), hsw.rd (r.fresh hWW)⟩⟩
  · rintro e k W h1 hag ⟨hne, _⟩
    cases hne
end Go.Proofs.Ytaebcebflfgdiaa

namespace Go.Proofs.Ytaebcebflfgdiaa
open Go Go.Lft
set_option linter.unusedSimpArgs false
set_option linter.unusedVariables false

/-- Each block's place in the order, from 1 on. -/
def placeF (order : List Int) (k : Nat) : Int → Option Int := up (fun i f j => if j = nth order i then some ((i : Int) + 1) else f j) k (fun _ => none)
def placeS (order : List Int) (b : Int) : Int := (placeF order order.length b).getD 0
/-- Does an edge go on, and not back? -/
def wrongE (l order : List Int) (e : Int × Int) : Bool := decide (0 < placeS order e.1) && decide (placeS order e.2 ≤ placeS order e.1) && !backE l e
def reducibleG (l : List Int) (g : Gr) : Bool := (edgesS g).all fun e => !wrongE l (gOrderS g) e

theorem u69 : Try.prog.underlying 69 = some (.map 3 3) := by kernel_rfl
theorem u39 : Try.prog.underlying 39 = some (.map 3 4) := by kernel_rfl
theorem u3 : Try.prog.underlying 3 = some (.int .i64) := by kernel_rfl
@[simp] theorem getD_int {o : Option Int} : (o.map (Value.int .i64)).getD (.int .i64 0) = .int .i64 (o.getD 0) := by cases o <;> rfl
theorem placeF_rng {order : List Int} {k : Nat} : ∀ b x, placeF order k b = some x → 1 ≤ x ∧ x ≤ k := by
  induction k with
  | zero => intro b x h; cases h
  | succ k ih =>
    intro b x h
    rw [placeF, up] at h
    split at h
    · cases h; omega
    · have := ih b x h; omega

theorem reducible_ok {g : Gr} {vg : Value} {h : Heap} {fuel : Nat} {l : List Int} (hg : SlRd (vw h) vg g) (hs : Sm g) (hl : idomG g fuel = some l) (hll : l.length = g.length) :
    HCalls Try.prog N.graph_Reducible #[vg] h (fun v h' => v = .bool (reducibleG l g) ∧ (vw h).le (vw h')) := by
  refine calls_liftM (args := [vg]) follows Try.func29 E.graph_Reducible (by show 1 ≤ 49; decide) fun K hK => ?_
  have hs1 := hs.1
  simp [L.graph_Reducible]
  refine do_alloc (z := .bool false) (by kernel_rfl) ?_
  have hle1 := push_le h (.cells (Value.bool false).cells 4)
  have hR1 : (h.push (.cells (Value.bool false).cells 4))[h.size]? = some (.cells #[.bool false] 4 (0, 0)) := by simp [Value.cells]
  have hsz1 : (h.push (.cells (Value.bool false).cells 4)).size = h.size + 1 := by simp
  generalize h.push (.cells (Value.bool false).cells 4) = h1 at hle1 hR1 hsz1
  refine call_to (by kernel_rfl) (back_ok (hg.mono hle1) hs hl) ?_
  rintro _ h2 ⟨hle2, p, u, rfl, hp, hu⟩
  have hpf := hp
  have huf := hu
  have hp := cellH_mono (fresh_le _ _) hp
  have hu := hu.mono (fresh_le _ _)
  refine do_newvar (v := .func (.func N.graph_back_1) #[] #[.pointer (some p)]) (z := .nilFunc) (by kernel_rfl) rfl (by kernel_rfl) rfl rfl (fun _ => by simp) (fun _ => by simp) fun h3 hle3 hsz3 hB3 => ?_
  refine do_makeMap ?_
  have hle4 := push_le h3 (.map #[] 0)
  have hM4 : (h3.push (.map #[] 0))[h3.size]? = some (.map #[] 0) := by simp
  have hsz4 : (h3.push (.map #[] 0)).size = h3.size + 1 := by simp
  generalize h3.push (.map #[] 0) = h4 at hle4 hM4 hsz4
  refine do_newvar (v := .map (some h3.size)) (z := .map none) (by kernel_rfl) rfl (by kernel_rfl) rfl rfl (fun _ => by simp) (fun _ => by simp) fun h5 hle5 hsz5 hB5 => ?_
  have hle05 : (vw h).le (vw h5) := View.le_trans hle1 (View.le_trans hle2 (View.le_trans hle3 (View.le_trans hle4 hle5)))
  refine call_to (by kernel_rfl) (order_ok (hg.mono hle05) hs) ?_
  rintro vo h6 ⟨hle6, ho⟩
  have hsz6 := ext_size hle6
  have hszh2 := ext_size hle2
  have hlt34 : h3.size < h5.size := by omega
  have hoW : SlRd (skip h3.size h6) vo (gOrderS g) := ho.mono (le_skip (fresh_le _ _) (by unfold fresh; rw [if_pos hlt34]))
  have h2W6 : (vw h3).le (skip h3.size h6) := le_skip (View.le_trans hle4 (View.le_trans hle5 hle6)) (View.none_of_ge (View.le_refl _) (Nat.le_refl _))
  have hcN : cellH (skip h3.size h6) ⟨h4.size, 0, none⟩ = some (.map (some h3.size)) := cellH_blk (c := #[.map (some h3.size)]) (T := 69) (fz := (0, 0)) (by rw [skip_get (by omega)]; exact hle6 _ _ hB5) rfl
  have hcF : cellH (skip h3.size h6) ⟨h2.size, 0, none⟩ = some (.func (.func N.graph_back_1) #[] #[.pointer (some p)]) := cellH_blk (h2W6 _ _ hB3) rfl
  have hpW := cellH_mono (View.le_trans hle3 h2W6) hp
  have huW := hu.mono (View.le_trans hle3 h2W6)
  have h2W6' := h2W6
  have h0W6 : (vw h).le (skip h3.size h6) := View.le_trans hle1 (View.le_trans hle2 (View.le_trans hle3 h2W6))
  have hR6 : skip h3.size h6 h.size = some (.cells #[.bool false] 4 (0, 0)) := View.le_trans hle2 (View.le_trans hle3 h2W6) _ _ hR1
  have hoin := @gOrder_in g
  have holen := gOrder_len (g := g)
  have hred : reducibleG l g = (edgesS g).all fun e => !wrongE l (gOrderS g) e := rfl
  rw [hred] at hK
  generalize gOrderS g = order at ho hoW hoin holen hK
  have hM6 : MapIs (.int .i64) h6 h3.size (mapI (placeF order 0)) := by
    have : MapIs (.int .i64) h6 h3.size fun _ => none := MapIs.none (hle6 _ _ (hle5 _ _ hM4))
    rw [show placeF order 0 = fun _ => none from rfl, mapI_none]; exact this
  have hXle : (skip h3.size h6).le (vw h6) := skip_le
  have hXr : skip h3.size h6 h3.size = none := skip_self
  generalize skip h3.size h6 = X at h2W6 hoW hcN hcF hpW huW h0W6 hR6 hXle hXr
  simp [ho.len]
  refine lwp_range [0, 2, 3, 4, 13, 14, 15] (fun (_ : Unit) k => [vg, .pointer (some ⟨h.size, 0, none⟩), .pointer (some ⟨h2.size, 0, none⟩), .pointer (some ⟨h4.size, 0, none⟩), vo, .int .i64 order.length, .int .i64 k])
    (fun _ k h7 => MapIs (.int .i64) h7 h3.size (mapI (placeF order k)) ∧ X.le (vw h7) ∧ h7.size = h6.size) order.length ()
    rfl (by omega) (by simp [keepE, look]) ⟨hM6, hXle, rfl⟩ (fun _ _ => rfl) (fun v k h1 hk m => by simp) ?_ ?_
  · rintro _ k h7 hlt ⟨m7, x7, s7⟩ K2 hK2
    obtain ⟨e0, e1⟩ := hoin hlt
    simp (disch := omega) [(hoW.mono x7).idx1 rfl, hoW.int x7, cellH_mono x7 hcN]
    obtain ⟨u1, u2⟩ := mapI_put (f := placeF order k) (g := placeF order (k + 1)) (j := nth order k) (v := (k : Int) + 1) (fun i => by rw [placeF, up]; rfl)
    refine do_update (.inl rfl) u69 u3 (by simp <;> rfl) (by simp <;> rfl) (by simp <;> rfl) isKey_i m7 _ u1 u2 fun h8 hs8 ho8 m8 => hK2 () _ _ rfl rfl ⟨m8, fun b o hb => ?_, by omega⟩
    have hne : b ≠ h3.size := fun e => by rw [e, hXr] at hb; cases hb
    show h8[b]? = _
    rw [ho8 b hne]; exact x7 b o hb
  · rintro _ h7 ⟨m7, x7, s7⟩
    simp
    refine call_to (by kernel_rfl) edges_ok ?_
    rintro _ _ ⟨rfl, rfl⟩
    rw [hg.cells.1]
    have hle8 := push_le h7 (.cells #[vg] 22)
    have hG8 : (h7.push (.cells #[vg] 22))[h7.size]? = some (.cells #[vg] 22 (0, 0)) := by simp
    generalize h7.push (.cells #[vg] 22) = h8 at hle8 hG8
    have m8 := m7.ext hle8
    have x8 := View.le_trans x7 hle8
    have hsW : ∀ b, b ≠ h.size → skip h.size h8 b = h8[b]? := fun b hb => skip_get hb
    have hg0 : (vw h).le (skip h.size h8) := le_skip (View.le_trans h0W6 x8) (View.none_of_ge (View.le_refl _) (Nat.le_refl _))
    have hp8 : cellH (skip h.size h8) ⟨h7.size, 0, none⟩ = some vg := cellH_blk (c := #[vg]) (T := 22) (fz := (0, 0)) (by rw [hsW _ (by omega)]; exact hG8) rfl
    have hcN8 : cellH (skip h.size h8) ⟨h4.size, 0, none⟩ = some (.map (some h3.size)) := by
      have := cellH_mono x8 hcN
      simp only [cellH, vw] at this ⊢
      rw [hsW _ (by omega)]; exact this
    have hcF8 : cellH (skip h.size h8) ⟨h2.size, 0, none⟩ = some (.func (.func N.graph_back_1) #[] #[.pointer (some p)]) := by
      have := cellH_mono x8 hcF
      simp only [cellH, vw] at this ⊢
      rw [hsW _ (by omega)]; exact this
    have hf12 : (fresh h1 h2).le (skip h.size h8) := fun b o hb => by
      have h9 := View.le_trans (fresh_le h1 h2) (View.le_trans hle3 (View.le_trans h2W6 x8)) b o hb
      have hge : h1.size ≤ b := by
        unfold fresh at hb
        split at hb
        · cases hb
        · omega
      rw [hsW b (by omega)]; exact h9
    have hpW8 : cellH (skip h.size h8) p = some u := cellH_mono hf12 hpf
    have huW8 : SlRd (skip h.size h8) u l := huf.mono hf12
    have hM8 : skip h.size h8 h3.size = h8[h3.size]? := hsW _ (by omega)
    have hlt8 : h3.size < h8.size := m8.lt
    have hWle : (skip h.size h8).le (vw h8) := skip_le
    have hWR : skip h.size h8 h.size = none := skip_self
    have hR8 : h8[h.size]? = some (.cells #[.bool false] 4 (0, 0)) := x8 _ _ hR6
    generalize skip h.size h8 = W0 at hg0 hp8 hcN8 hcF8 hpW8 huW8 hM8 hWle hWR
    refine lwp_rangef (enc := pairV) (all := edgesS g) (gf := N.graph_edges_1) (caps := [.pointer (some ⟨h7.size, 0, none⟩)]) W0 W0 (fun e k W h' => W.le (vw h') ∧ W h.size = none ∧ h'[h.size]? = some (.cells #[.bool false] 4 (0, 0)) ∧
      (e = none → ((edgesS g).take k).all (fun e => !wrongE l order e) = true) ∧ ∀ e', e = some e' → e' = .ret ∧ (edgesS g).all (fun e => !wrongE l order e) = false)
      rfl (by kernel_rfl) (edges1_iter (hg.mono hg0) hp8 hs) (fun _ => rfl) (View.le_refl _) (fun e k => ⟨fun r => r.1, fun ⟨a1, a2, a3, a4⟩ _ b1 b2 b3 => ⟨b1, (b2 _ a2 (Array.getElem?_eq_some_iff.1 a3).1).2, by rw [(b2 _ a2 (Array.getElem?_eq_some_iff.1 a3).1).1]; exact a3, a4⟩⟩)
      ⟨hWle, hWR, hR8, by simp, fun e' he' => by cases he'⟩ (fun x h1 => by simp [pairV, setsE]; rfl) ?_ ?_ ?_
    · rintro k e W h9 hag hk ⟨i1, i2, i3, i4, _⟩ K2 hK2 hK3
      have he := edgesS_in (List.mem_of_getElem? hk)
      have hst := filter_take_succ (p := fun e => !wrongE l order e) hk
      have hW0W : W0.le W := fun b o hb => by rw [hag b (View.lt hWle hb)]; exact hb
      have hWh := View.le_trans hW0W i1
      have m9 : MapIs (.int .i64) h9 h3.size (mapI (placeF order order.length)) := by
        obtain ⟨es, c, q1, q2⟩ := m8.ex
        exact ⟨es, c, hWh _ _ (hM8.trans q1), q2⟩
      have hall : ∀ b, wrongE l order e = b → ((edgesS g).take (k + 1)).all (fun e => !wrongE l order e) = !b := by
        intro b hb
        rw [List.take_add_one, hk, List.all_append, i4 rfl]
        simp [hb]
      have hexit : wrongE l order e = true → (edgesS g).all (fun e => !wrongE l order e) = false := by
        intro hw
        rw [Bool.eq_false_iff]
        intro h2
        have := List.all_eq_true.1 h2 e (List.mem_of_getElem? hk)
        simp [hw] at this
      have hwE : wrongE l order e = (decide (0 < placeS order e.1) && decide (placeS order e.2 ≤ placeS order e.1) && !backE l e) := rfl
      have hz3 : (Try.prog.info? 3).map (·.zero) = some (some (.int .i64 0)) := by kernel_rfl
      simp [cellH_mono hWh hcN8]
      refine do_lookup u69 u3 hz3 (by simp <;> rfl) (by simp <;> rfl) isKey_i m9 ?_
      simp [show (placeF order order.length e.1).getD 0 = placeS order e.1 from rfl]
      by_cases c1 : 0 < placeS order e.1
      · rw [decide_eq_true c1] at hwE
        simp [c1, cellH_mono hWh hcN8]
        refine ⟨?_, fun hn => absurd c1 (by omega)⟩
        refine do_lookup u69 u3 hz3 (by simp <;> rfl) (by simp <;> rfl) isKey_i m9 ?_
        simp [show (placeF order order.length e.2).getD 0 = placeS order e.2 from rfl, cellH_mono hWh hcN8]
        refine ⟨?_, fun hn => absurd c1 (by omega)⟩
        refine do_lookup u69 u3 hz3 (by simp <;> rfl) (by simp <;> rfl) isKey_i m9 ?_
        simp [show (placeF order order.length e.1).getD 0 = placeS order e.1 from rfl, cellH_mono hWh hcF8]
        by_cases c2 : placeS order e.2 ≤ placeS order e.1
        · rw [decide_eq_true c2] at hwE
          refine ⟨fun _ => ?_, fun hn => absurd c2 (by omega)⟩
          refine do_callv (ops := [.tmp 44, .tmp 45]) (f := N.graph_back_1) (caps := #[.pointer (some p)]) (by simp [c2]) (by kernel_rfl) (by simpa [c2] using back1_ok (huW8.mono hWh) (cellH_mono hWh hpW8) he.1.1 (by rw [hll]; exact he.1.2)) ?_
          rintro _ h10 ⟨rfl, hle10⟩
          rw [show backS l e.1 e.2 = backE l e from rfl]
          simp [c2]
          cases hbe : backE l e with
          | true =>
            rw [hbe] at hwE
            simp [condP_bool]
            exact hK2 _ _ ⟨View.le_trans i1 hle10, i2, hle10 _ _ i3, fun _ => by rw [hall false (by rw [hwE]; rfl)]; rfl, fun e' he' => by cases he'⟩
          | false =>
            rw [hbe] at hwE
            simp [condP_bool]
            refine do_store (g := h.size) (o := 0) (n := 1) (v := .bool false) (by kernel_rfl) (by simp) (by simp) rfl (by simp [Value.cells, Value.oneCell']) (hle10 _ _ i3) (by simp) fun h11 hs11 ⟨row, hrow, hre⟩ hoth => ?_
            have hrow2 : row = #[.bool false] := by rw [← Array.toList_inj, hre]; rfl
            rw [hrow2] at hrow
            refine hK3 _ _ _ (by simp) ⟨fun b o hb => ?_, i2, hrow, fun hn => (by cases hn), fun e' he' => ⟨(Option.some.inj he').symm, hexit (by rw [hwE]; rfl)⟩⟩
            have hne : b ≠ h.size := fun e => by rw [e, i2] at hb; cases hb
            show h11[b]? = _
            rw [hoth b hne]
            exact View.le_trans i1 hle10 b o hb
        · rw [decide_eq_false c2] at hwE
          refine ⟨fun hn => absurd hn (by omega), fun _ => ?_⟩
          simp [c2, condP_bool]
          exact hK2 _ _ ⟨i1, i2, i3, fun _ => by rw [hall false (by rw [hwE]; rfl)]; rfl, fun e' he' => by cases he'⟩
      · rw [decide_eq_false c1] at hwE
        simp [c1, condP_bool]
        intro _
        exact hK2 _ _ ⟨i1, i2, i3, fun _ => by rw [hall false (by rw [hwE]; rfl)]; rfl, fun e' he' => by cases he'⟩
    · rintro W h9 hag ⟨i1, i2, i3, i4, _⟩
      rw [List.take_of_length_le (Nat.le_refl _)] at i4
      have hW0W : W0.le W := fun b o hb => by rw [hag b (View.lt hWle hb)]; exact hb
      simp
      refine do_store (g := h.size) (o := 0) (n := 1) (v := .bool true) (by kernel_rfl) (by simp) (by simp) rfl (by simp [Value.cells, Value.oneCell']) i3 (by simp) fun h10 hs10 ⟨row, hrow, hre⟩ hoth => ?_
      have hrow2 : row = #[.bool true] := by rw [← Array.toList_inj, hre]; rfl
      rw [hrow2] at hrow
      intro h11 hsw
      have hle10 : (vw h).le (vw h10) := fun b o hb => by
        have hlt := View.lt (View.le_refl (vw h)) hb
        show h10[b]? = _
        rw [hoth b (by omega)]
        exact View.le_trans hg0 (View.le_trans hW0W i1) b o hb
      have hR11 : h11[h.size]? = some (.cells #[.bool true] 4 (0, 0)) := by rw [hsw.same _ (.inr (by rw [hrow]; simp))]; exact hrow
      have c11 : cellH (vw h11) ⟨h.size, 0, none⟩ = some (.bool true) := cellH_blk hR11 rfl
      refine ⟨[.bool true], by simp [c11], hK _ _ ⟨?_, hsw.ext hle10⟩⟩
      rw [i4 rfl]; rfl
    · rintro e k W h9 hag ⟨i1, i2, i3, _, i5⟩
      obtain ⟨rfl, hf⟩ := i5 e rfl
      have hW0W : W0.le W := fun b o hb => by rw [hag b (View.lt hWle hb)]; exact hb
      intro h11 hsw
      have hR11 : h11[h.size]? = some (.cells #[.bool false] 4 (0, 0)) := by rw [hsw.same _ (.inr (by rw [i3]; simp))]; exact i3
      have c11 : cellH (vw h11) ⟨h.size, 0, none⟩ = some (.bool false) := cellH_blk hR11 rfl
      refine ⟨[.bool false], by simp [c11], hK _ _ ⟨?_, hsw.ext (View.le_trans hg0 (View.le_trans hW0W i1))⟩⟩
      rw [hf]; rfl
end Go.Proofs.Ytaebcebflfgdiaa

namespace Go.Proofs.Ytaebcebflfgdiaa
open Go Go.Lft
set_option linter.unusedSimpArgs false
set_option linter.unusedVariables false

/-- What one comes to, backwards, without what is in already. -/
def bodyLoop (preds : Gr) : Nat → (Int → Bool) → List Int → Option (Int → Bool)
  | 0, _, _ => none
  | n + 1, s, op => if op.length = 0 then some s else
      if 0 ≤ nth op (op.length - 1) ∧ nth op (op.length - 1) < preds.length ∧ op.length ≤ 1000000000 then
        if s (nth op (op.length - 1)) then bodyLoop preds n s (op.take (op.length - 1))
        else bodyLoop preds n (fun j => if j = nth op (op.length - 1) then true else s j) (op.take (op.length - 1) ++ nth preds (nth op (op.length - 1)).toNat)
      else none
def bodyE (l : List Int) (hh : Int) (e : Int × Int) : Bool := decide (e.2 = hh) && backE l e
def bodyG (l : List Int) (g : Gr) (hh : Int) (fuel : Nat) : Option (List Int) :=
  if (((edgesS g).filter (bodyE l hh)).map Prod.fst).length = 0 then some [] else
    (bodyLoop (predsG g) fuel (fun j => decide (j = hh)) (((edgesS g).filter (bodyE l hh)).map Prod.fst)).map fun s => sortS ((gOrderS g).filter s)

theorem ownT_take {W : View} {h : Heap} {e : TypeId} {v : Value} {l : List Int} (o : OwnT W h e v l) {n : Nat} (hn : n ≤ l.length) (h0 : l.length ≠ 0) : ∃ u, Bn.ev .hi v (.int .i64 n) = some u ∧ OwnT W h e u (l.take n) ∧ u.ownBlock = v.ownBlock := by
  obtain ⟨hb, xs, ⟨hxl, hown⟩, hel⟩ := o
  rcases hown with ⟨rfl, hn0⟩ | ⟨g, cap, cur, rfl, hg, h1, h2, h3, h4⟩
  · exact absurd hn0 h0
  · refine ⟨.slice (some ⟨g, 0, none⟩) n cap, by simp [Bn.ev, vL, vI]; omega, own_take ⟨hb, xs, ⟨hxl, .inr ⟨g, cap, cur, rfl, hg, h1, h2, h3, h4⟩⟩, hel⟩ hn, rfl⟩

theorem body_ok {g : Gr} {vg : Value} {h : Heap} {fuel fuel2 : Nat} {l r : List Int} {hh : Int} (hg : SlRd (vw h) vg g) (hs : Sm g) (hl : idomG g fuel = some l) (hll : l.length = g.length) (hr : bodyG l g hh fuel2 = some r) (hhr : -9223372036854775808 ≤ hh ∧ hh ≤ 9223372036854775807) :
    HCalls Try.prog N.graph_Body #[vg, .int .i64 hh] h (fun v h' => (vw h).le (vw h') ∧ SlRd (fresh h h') v r) := by
  refine calls_liftM (args := [vg, .int .i64 hh]) follows Try.func26 E.graph_Body (by show 2 ≤ 88; decide) fun K hK => ?_
  have hs1 := hs.1
  have hel := edgesS_len hs
  have hpl : (predsG g).length = g.length := by rw [predsG, predsG_len]; simp
  simp [L.graph_Body]
  refine do_box (v := .int .i64 hh) (by simp) ?_
  have hle1 := push_le h (.cells (Value.int .i64 hh).cells 3)
  have hH1 : (h.push (.cells (Value.int .i64 hh).cells 3))[h.size]? = some (.cells #[.int .i64 hh] 3 (0, 0)) := by simp [Value.cells]
  have hsz1 : (h.push (.cells (Value.int .i64 hh).cells 3)).size = h.size + 1 := by simp
  generalize h.push (.cells (Value.int .i64 hh).cells 3) = h1 at hle1 hH1 hsz1
  refine call_to (by kernel_rfl) (back_ok (hg.mono hle1) hs hl) ?_
  rintro _ h2 ⟨hle2, p, u, rfl, hp, hu⟩
  have hp := cellH_mono (fresh_le _ _) hp
  have hu := hu.mono (fresh_le _ _)
  refine do_newvar (v := .func (.func N.graph_back_1) #[] #[.pointer (some p)]) (z := .nilFunc) (by kernel_rfl) rfl (by kernel_rfl) rfl rfl (fun _ => by simp) (fun _ => by simp) fun h3 hle3 hsz3 hF3 => ?_
  have hle03 := View.le_trans hle1 (View.le_trans hle2 hle3)
  refine call_to (by kernel_rfl) (preds_ok (hg.mono hle03) hs) ?_
  rintro vp h4 ⟨hle4, hpr⟩
  have hpr := hpr.mono (fresh_le _ _)
  refine call_to (by kernel_rfl) (order_ok (hg.mono (View.le_trans hle03 hle4)) hs) ?_
  rintro vo h5 ⟨hle5, ho⟩
  have ho := ho.mono (fresh_le _ _)
  have hoin := @gOrder_in g
  have holen := gOrder_len (g := g)
  refine do_makeMap ?_
  have hle6 := push_le h5 (.map #[] 0)
  have hM6 : (h5.push (.map #[] 0))[h5.size]? = some (.map #[] 0) := by simp
  have hsz6 : (h5.push (.map #[] 0)).size = h5.size + 1 := by simp
  generalize h5.push (.map #[] 0) = h6 at hle6 hM6 hsz6
  have m6 : MapIs (.int .i64) h6 h5.size (mapB fun _ => false) := by rw [mapB_none]; exact MapIs.none hM6
  have hle16 : (vw h1).le (vw h6) := View.le_trans hle2 (View.le_trans hle3 (View.le_trans hle4 (View.le_trans hle5 hle6)))
  have c1 : cellH (vw h6) ⟨h.size, 0, none⟩ = some (.int .i64 hh) := cellH_mono hle16 (cellH_blk (H := vw h1) hH1 rfl)
  simp [c1]
  obtain ⟨u1, u2⟩ := mapB_put (f := fun _ => false) (g := fun j => decide (j = hh)) (j := hh) (fun i => by by_cases e : i = hh <;> simp [e])
  refine do_update (.inr rfl) u39 u3 (by simp <;> rfl) (by simp <;> rfl) (by simp <;> rfl) isKey_i m6 _ u1 u2 fun h7 hs7 ho7 m7 => ?_
  have hle57 : (vw h5).le (vw h7) := fun b o hb => by
    have hlt := View.lt (View.le_refl (vw h5)) hb
    show h7[b]? = _
    rw [ho7 b (by omega)]; exact hle6 b o hb
  refine do_alloc (z := .slice none 0 0) (by kernel_rfl) ?_
  refine call_to (by kernel_rfl) edges_ok ?_
  rintro _ _ ⟨rfl, rfl⟩
  rw [hg.cells.1]
  have hle9 : (vw h7).le (vw ((h7.push (.cells (Value.slice none 0 0).cells 23)).push (.cells #[vg] 22))) := View.le_trans (push_le _ _) (push_le _ _)
  have hB9 : ((h7.push (.cells (Value.slice none 0 0).cells 23)).push (.cells #[vg] 22))[h7.size]? = some (.cells #[.slice none 0 0] 23 (0, 0)) := by rw [Array.getElem?_push, if_neg (by simp), Array.getElem?_push_size]; rfl
  have hG9 : ((h7.push (.cells (Value.slice none 0 0).cells 23)).push (.cells #[vg] 22))[h7.size + 1]? = some (.cells #[vg] 22 (0, 0)) := by rw [show h7.size + 1 = (h7.push (.cells (Value.slice none 0 0).cells 23)).size by simp]; exact Array.getElem?_push_size
  simp only [Array.size_push]
  generalize (h7.push (.cells (Value.slice none 0 0).cells 23)).push (.cells #[vg] 22) = h9 at hle9 hB9 hG9
  have m9 := m7.ext hle9
  have h7W : (vw h7).le (skip h7.size h9) := le_skip hle9 (View.none_of_ge (View.le_refl _) (Nat.le_refl _))
  have hp9 : cellH (skip h7.size h9) ⟨h7.size + 1, 0, none⟩ = some vg := cellH_blk (c := #[vg]) (T := 22) (fz := (0, 0)) (by rw [skip_get (by omega)]; exact hG9) rfl
  have hWle : (skip h7.size h9).le (vw h9) := skip_le
  have hWB : skip h7.size h9 h7.size = none := skip_self
  obtain ⟨om, hom⟩ : ∃ om, skip h7.size h9 h5.size = some om := by
    obtain ⟨es, c, q1, _⟩ := m7.ex
    exact ⟨_, h7W _ _ q1⟩
  generalize skip h7.size h9 = W0 at h7W hp9 hWle hWB hom
  have h5W := View.le_trans hle57 h7W
  have h3W := View.le_trans hle4 (View.le_trans hle5 h5W)
  have h0W := View.le_trans hle03 h3W
  have hcF : cellH W0 ⟨h2.size, 0, none⟩ = some (.func (.func N.graph_back_1) #[] #[.pointer (some p)]) := cellH_blk (h3W _ _ hF3) rfl
  have hcH : cellH W0 ⟨h.size, 0, none⟩ = some (.int .i64 hh) := cellH_blk (View.le_trans hle2 (View.le_trans hle3 h3W) _ _ hH1) rfl
  have hpW := cellH_mono (View.le_trans hle3 h3W) hp
  have huW := hu.mono (View.le_trans hle3 h3W)
  have hprW := hpr.mono (View.le_trans hle5 h5W)
  have hoW := ho.mono h5W
  refine lwp_rangef (enc := pairV) (all := edgesS g) (gf := N.graph_edges_1) (caps := [.pointer (some ⟨h7.size + 1, 0, none⟩)]) W0 W0 (fun e k W h' => e = none ∧ ∃ v, Bx W h' h7.size 23 3 v ((((edgesS g).take k).filter (bodyE l hh)).map Prod.fst))
    rfl (by kernel_rfl) (edges1_iter (hg.mono h0W) hp9 hs) (fun _ => rfl) (View.le_refl _) (fun e k => ⟨fun ⟨_, rv, r⟩ => r.wle, fun ⟨a, rv, r⟩ _ h1 h2 _ => ⟨a, rv, r.move h1 h2⟩⟩) ⟨rfl, _, Bx.start hWle hWB hB9⟩
    (fun x h1 => by simp [pairV, setsE]; rfl) ?_ ?_ ?_
  · rintro k e W h10 hag hk ⟨_, v, b⟩ K2 hK2 _
    have he := edgesS_in (List.mem_of_getElem? hk)
    have hk1 : k < (edgesS g).length := (List.getElem?_eq_some_iff.1 hk).1
    have hfl : ((((edgesS g).take k).filter (bodyE l hh)).map Prod.fst).length ≤ k := by
      have := List.length_filter_le (bodyE l hh) ((edgesS g).take k)
      rw [List.length_take] at this
      rw [List.length_map]; omega
    have hst := filter_take_succ (p := bodyE l hh) hk
    have hW0W : W0.le W := fun b o hb => by rw [hag b (View.lt hWle hb)]; exact hb
    have hWh := View.le_trans hW0W b.wle
    have hbE : bodyE l hh e = (decide (e.2 = hh) && backE l e) := rfl
    by_cases c2 : e.2 = hh
    · rw [decide_eq_true c2] at hbE
      simp [cellH_mono hWh hcH, cellH_mono hWh hcF, c2, grdP]
      refine do_callv (ops := [.tmp 34, .tmp 35]) (f := N.graph_back_1) (caps := #[.pointer (some p)]) (by simp) (by kernel_rfl) (by simpa using back1_ok (b := hh) (huW.mono hWh) (cellH_mono hWh hpW) he.1.1 (by rw [hll]; exact he.1.2)) ?_
      rintro _ h11 ⟨rfl, hle11⟩
      have b11 := b.ext hle11
      rw [show backS l e.1 hh = backE l e by rw [← c2]; rfl]
      cases hbe : backE l e with
      | true =>
        rw [hbe] at hbE
        simp [condP_bool, b11.cell]
        refine b11.push elem23 (by kernel_rfl) (by simp <;> rfl) (rd_i (by omega) (by omega)) (by omega) (by omega) (fun _ => by simp) (fun _ => by simp) (fun _ _ => by simp) (fun _ _ => by simp) fun u v' h6 r6 => hK2 _ _ ⟨rfl, v', ?_⟩
        rw [hst, hbE, List.map_append]; exact r6
      | false =>
        rw [hbe] at hbE
        simp [condP_bool]
        refine hK2 _ _ ⟨rfl, v, ?_⟩
        rw [hst, hbE]; simpa using b11
    · rw [decide_eq_false c2] at hbE
      simp [cellH_mono hWh hcH, cellH_mono hWh hcF, c2, grdP, condP_bool]
      refine hK2 _ _ ⟨rfl, v, ?_⟩
      rw [hst, hbE]; simpa using b
  · rintro W h10 hag ⟨_, v, b⟩
    rw [List.take_of_length_le (Nat.le_refl _)] at b
    have hW0W : W0.le W := fun b o hb => by rw [hag b (View.lt hWle hb)]; exact hb
    have hom10 := hW0W _ _ hom
    have m10 : MapIs (.int .i64) h10 h5.size (mapB fun j => decide (j = hh)) := by
      obtain ⟨es, c, q1, q2⟩ := m9.ex
      have e1 := hWle _ _ hom
      have e2 : h9[h5.size]? = some om := e1
      rw [q1] at e2; cases e2
      exact ⟨es, c, b.wle _ _ hom10, q2⟩
    rw [bodyG] at hr
    generalize (((edgesS g).filter (bodyE l hh)).map Prod.fst) = op at b hr
    have hlen := b.own.len (K := vw h10)
    have hobd := b.own.bound
    simp [b.cell, hlen]
    obtain ⟨X, hX⟩ : ∃ X : View, X = fun b => if b = h5.size then none else W0 b := ⟨_, rfl⟩
    have hXW : X.le W := fun b o hb => by
      rw [hX] at hb; simp only at hb
      split at hb
      · cases hb
      · exact hW0W b o hb
    have h5X : (vw h5).le X := fun b o hb => by
      have hlt := View.lt (View.le_refl (vw h5)) hb
      rw [hX]; simp only
      rw [if_neg (by omega)]; exact h5W b o hb
    have h0X : (vw h).le X := View.le_trans (View.le_trans hle03 (View.le_trans hle4 hle5)) h5X
    have hprX := hpr.mono (View.le_trans hle5 h5X)
    have hoX := ho.mono h5X
    refine ⟨fun h0 => ?_, fun h0 => ?_⟩
    · subst h0
      simp at hr
      subst hr
      intro h11 hsw
      exact ⟨_, rfl, hK _ _ ⟨hsw.ext (View.le_trans h0X (View.le_trans hXW b.wle)), ⟨none, 0, rfl, by simp, by simp, .inl rfl⟩⟩⟩
    · have hop0 : op.length ≠ 0 := fun e => h0 (List.eq_nil_of_length_eq_zero e)
      rw [if_neg hop0, Option.map_eq_some_iff] at hr
      obtain ⟨fin, hbl, rfl⟩ := hr
      obtain ⟨pv, hpv⟩ := hprX.rows
      have hprl : ∀ i, (nth (predsG g) i).length ≤ 1000000000000 := fun i => by
        have := predRow_len (l := edgesS g) (p := List.replicate g.length []) (i := i) (m := 0) (by
          rcases Nat.lt_or_ge i g.length with hi | hi
          · rw [nth_replicate hi]; simp
          · rw [nth_ge (by simpa using hi)]; simp [default])
        rw [predsG]; omega
      generalize predsG g = preds at hbl hpl hprX hpv hprl
      refine lwp_loop [6, 7, 8, 9] (fun m ρ h11 => ∃ (s : Int → Bool) (op : List Int) (v : Value) (Y : View), ρ = [(6, vp), (7, vo), (8, .map (some h5.size)), (9, .pointer (some ⟨h7.size, 0, none⟩))] ∧ Bx Y h11 h7.size 23 3 v op ∧ X.le Y ∧ (∃ o, Y h5.size = some o) ∧
        MapIs (.int .i64) h11 h5.size (mapB s) ∧ bodyLoop preds m s op = some fin) fuel2 ⟨_, op, v, W, rfl, b, hXW, ⟨_, hom10⟩, m10, hbl⟩ ?_
      rintro m ρ h11 ⟨s, op, v, Y, rfl, b, hXY, ⟨oY, hoY⟩, m11, hbl⟩ K2 hK2
      cases m with
      | zero => cases hbl
      | succ m =>
        rw [bodyLoop] at hbl
        have hXh := View.le_trans hXY b.wle
        by_cases h0 : op.length = 0
        · rw [if_pos h0] at hbl
          cases hbl
          simp [L.graph_Body.l1, b.cell, b.own.len, h0, hoX.len]
          refine lwp_range [7, 8, 13, 71, 72, 73] (fun (v : Value) k => [vo, .map (some h5.size), v, vo, .int .i64 (gOrderS g).length, .int .i64 k]) (fun v k h12 => Mine nothing h11 h12 nothing 3 v (((gOrderS g).take k).filter fin)) (gOrderS g).length (.slice none 0 0)
            rfl (by omega) rfl (by simpa using Mine.start (fun _ _ h => by cases h)) (fun _ _ => rfl) (fun v k h1 hk m => by simp) ?_ ?_
          · rintro v k h12 hlt m12 K3 hK3
            obtain ⟨e0, e1⟩ := hoin hlt
            have hg1 : (gOrderS g)[k]? = some (nth (gOrderS g) k) := by rw [nth_eq hlt]; exact List.getElem?_eq_getElem hlt
            have hst := filter_take_succ (p := fin) hg1
            have hfl : (((gOrderS g).take k).filter fin).length ≤ k := by
              have := List.length_filter_le fin ((gOrderS g).take k)
              rw [List.length_take] at this
              omega
            simp (disch := omega) [(hoX.mono (View.le_trans hXh m12.old)).idx1 rfl, hoX.int (View.le_trans hXh m12.old)]
            refine do_lookup u39 u3 (z := .bool false) (by kernel_rfl) (by simp <;> rfl) (by simp <;> rfl) isKey_i (m11.ext m12.old) ?_
            simp [condP_bool]
            refine ⟨fun hf => ?_, fun hf => ?_⟩
            · refine m12.push elem23 (by simp <;> rfl) (rd_i (by omega) (by omega)) (by omega) (by omega) (fun _ => by simp) (fun _ => by simp) fun u v' h13 m13 => hK3 v' _ _ rfl rfl ?_
              rw [hst, hf]; exact m13
            · refine hK3 v _ _ rfl rfl ?_
              rw [hst, hf]; simpa using m12
          · rintro v h12 m12
            rw [List.take_of_length_le (Nat.le_refl _)] at m12
            simp
            refine call_to (by kernel_rfl) (sort_ok m12.own) ?_
            rintro _ h13 ⟨o13, k13⟩
            intro h14 hsw
            have hle13 : (vw h11).le (vw h13) := k13.view m12.old m12.av0
            have hle013 : (vw h).le (vw h13) := View.le_trans h0X (View.le_trans hXh hle13)
            have hav : Av (vw h) v := fun i hi => by
              cases hx : vw h i with
              | none => rfl
              | some o => have := View.le_trans h0X hXh _ _ hx; rw [m12.av0 i hi] at this; cases this
            exact ⟨_, rfl, hK _ _ ⟨hsw.ext hle013, hsw.rd (o13.fresh (fun _ _ h => by cases h) hav)⟩⟩
        · rw [if_neg h0] at hbl
          split at hbl
          case isFalse => cases hbl
          rename_i hc
          obtain ⟨hc1, hc2, hc3⟩ := hc
          obtain ⟨n, hn⟩ : ∃ n, op.length = n + 1 := ⟨op.length - 1, by omega⟩
          rw [hn, Nat.add_sub_cancel] at hbl hc1 hc2
          have hv := b.own.now (fun _ _ h => by cases h)
          have hvn := hv.int (View.le_refl _) (i := n) (by omega)
          obtain ⟨v2, hv2, o2, hb2⟩ := ownT_take b.own (n := n) (by omega) h0
          have hw64 : IntKind.i64.wrap ((n : Int) + 1 - 1) = n := by rw [wrap64_id] <;> omega
          have hpos : (0 : Int) < (n : Int) + 1 := by omega
          generalize ha : nth op n = a at hvn hc1 hc2 hbl
          simp (disch := omega) [L.graph_Body.l1, b.cell, b.own.len, hn, hpos, hv.idx1 rfl, hvn, hw64, hv2]
          obtain ⟨hcells, hone⟩ := cells_own o2
          refine do_store (g := h7.size) (o := 0) (n := 1) (v := v2) (by kernel_rfl) (by simp) (by simp) (by rw [hcells]; rfl) (by rw [hcells]; simpa using hone) b.box (by simp) fun h12 hs12 ⟨row, hrow, hre⟩ hoth => ?_
          have hrow2 : row = #[v2] := by rw [← Array.toList_inj, hre, hcells]; rfl
          rw [hrow2] at hrow
          have b12 := b.pushed o2 ⟨Kept.refl _ _, .inl hb2⟩ hs12 hrow hoth
          have m12 := m11.same (hoth h5.size (by omega))
          refine do_lookup u39 u3 (z := .bool false) (by kernel_rfl) (by simp <;> rfl) (by simp <;> rfl) isKey_i m12 ?_
          simp [condP_bool]
          refine ⟨fun hsa => ?_, fun hsa => ?_⟩
          · rw [if_neg (by simp [hsa])] at hbl
            obtain ⟨u1, u2⟩ := mapB_put (f := s) (g := fun j => if j = a then true else s j) (j := a) (fun i => rfl)
            refine do_update (.inl rfl) u39 u3 (by simp <;> rfl) (by simp <;> rfl) (by simp <;> rfl) isKey_i m12 _ u1 u2 fun h13 hs13 ho13 m13 => ?_
            obtain ⟨es, cc, q1, _⟩ := m13.ex
            have b13 := b12.turn hoY q1 hs13 ho13
            have hXY3 : X.le (Y.set h5.size (.map es cc)) := fun b o hb => by
              have hne : b ≠ h5.size := fun e => by rw [hX] at hb; simp [e] at hb
              unfold View.set; rw [if_neg hne]; exact hXY b o hb
            have hXh3 := View.le_trans hXY3 b13.wle
            obtain ⟨cp, rp⟩ := hpv a.toNat (by omega)
            have hpra := hprl a.toNat
            refine drawn_at (vw h13) (View.le_refl _) ?_
            simp (disch := omega) [b13.cell, hprX.idx1 rfl, cp _ hXh3]
            have hsrc : SrcT (vw h13) nothing (pv a.toNat) (nth preds a.toNat) := rp.src hXh3
            refine b13.append (l2 := nth preds a.toNat) (u := pv a.toNat) elem23 (by kernel_rfl) (by simp) (by simp) hsrc (by simp; omega) (by simp; omega) (fun _ => by simp) (fun _ => by simp) fun v3 h14 b14 => ?_
            obtain ⟨es2, cc2, q2, q3⟩ := m13.ex
            have hYr : (Y.set h5.size (.map es cc)) h5.size = some (.map es cc) := by simp [View.set]
            have hr14 : h14[h5.size]? = some (.map es cc) := b14.wle _ _ hYr
            refine hK2 m _ _ (by omega) ⟨_, _, v3, _, rfl, b14, hXY3, ⟨_, hYr⟩, m13.same (by rw [hr14, q1]), hbl⟩
          · rw [if_pos (by simpa using hsa)] at hbl
            exact hK2 m _ _ (by omega) ⟨s, _, v2, Y, rfl, b12, hXY, ⟨oY, hoY⟩, m12, hbl⟩
  · rintro e k W h1 hag ⟨hne, _⟩
    cases hne
end Go.Proofs.Ytaebcebflfgdiaa

namespace Go.Proofs.Ytaebcebflfgdiaa
open Go Go.Lft
set_option linter.unusedSimpArgs false
set_option linter.unusedVariables false

/-! ### A sort that one can run -/
def ins (x : Int) : List Int → List Int
  | [] => [x]
  | y :: l => if x ≤ y then x :: y :: l else y :: ins x l
def isort : List Int → List Int
  | [] => []
  | x :: l => ins x (isort l)
theorem ins_perm (x : Int) : ∀ l, (ins x l).Perm (x :: l)
  | [] => .refl _
  | y :: l => by
    unfold ins; split
    · exact .refl _
    · exact ((ins_perm x l).cons y).trans (.swap x y l)
theorem isort_perm : ∀ l, (isort l).Perm l
  | [] => .refl _
  | x :: l => (ins_perm x _).trans ((isort_perm l).cons x)
theorem ins_sorted (x : Int) : ∀ l : List Int, l.Pairwise (· ≤ ·) → (ins x l).Pairwise (· ≤ ·)
  | [], _ => by simp [ins]
  | y :: l, h => by
    unfold ins
    obtain ⟨h1, h2⟩ := List.pairwise_cons.1 h
    split
    · rename_i hx
      refine List.pairwise_cons.2 ⟨fun z hz => ?_, h⟩
      rcases List.mem_cons.1 hz with rfl | hz
      · exact hx
      · have := h1 z hz; omega
    · rename_i hx
      refine List.pairwise_cons.2 ⟨fun z hz => ?_, ins_sorted x l h2⟩
      rcases List.mem_cons.1 ((ins_perm x l).mem_iff.1 hz) with rfl | hz
      · omega
      · exact h1 z hz
theorem isort_sorted : ∀ l, (isort l).Pairwise (· ≤ ·)
  | [] => .nil
  | x :: l => ins_sorted x _ (isort_sorted l)
theorem sorted_unique : ∀ {a b : List Int}, a.Perm b → a.Pairwise (· ≤ ·) → b.Pairwise (· ≤ ·) → a = b
  | [], b, h, _, _ => h.nil_eq
  | x :: a, [], h, _, _ => by simpa using h.length_eq
  | x :: a, y :: b, h, ha, hb => by
    obtain ⟨a1, a2⟩ := List.pairwise_cons.1 ha
    obtain ⟨b1, b2⟩ := List.pairwise_cons.1 hb
    have hx : x ∈ y :: b := h.mem_iff.1 (List.mem_cons_self ..)
    have hy : y ∈ x :: a := h.mem_iff.2 (List.mem_cons_self ..)
    have e : x = y := by
      rcases List.mem_cons.1 hx with h1 | h1
      · exact h1
      · rcases List.mem_cons.1 hy with h2 | h2
        · exact h2.symm
        · have := a1 y h2; have := b1 x h1; omega
    subst e
    rw [sorted_unique ((List.perm_cons x).1 h) a2 b2]
theorem sortS_sorted (l : List Int) : (sortS l).Pairwise (· ≤ ·) := by
  have := List.pairwise_mergeSort (le := fun x y : Int => decide (x ≤ y)) (fun a b c h1 h2 => by simp at *; omega) (fun a b => by simp; omega) l
  exact this.imp fun h => by simpa using h
theorem sortS_eq (l : List Int) : sortS l = isort l :=
  sorted_unique ((List.mergeSort_perm l _).trans (isort_perm l).symm) (sortS_sorted l) (isort_sorted l)

def gA : Gr := [[1, 2], [3], [3], [1]]
def gB : Gr := [[1], [2, 3], [1], []]
def gC : Gr := [[1, 2], [2], []]
theorem cleanA : cleanS gA = gA := by simp only [cleanS, keptS, sortS_eq]; decide
theorem cleanB : cleanS gB = gB := by simp only [cleanS, keptS, sortS_eq]; decide
theorem cleanC : cleanS gC = gC := by simp only [cleanS, keptS, sortS_eq]; decide
theorem orderA : gOrderS gA = [0, 2, 1, 3] := by simp only [gOrderS, cleanA]; decide
theorem idomA : idomG gA 10 = some [-1, 0, 0, 0] := by
  simp only [idomG, predsG, edgesS, gOrderS, cleanA]
  decide
theorem idomB : idomG gB 10 = some [-1, 0, 1, 1] := by
  simp only [idomG, predsG, edgesS, gOrderS, cleanB]
  decide
theorem bodyB : bodyG [-1, 0, 1, 1] gB 1 10 = some [1, 2] := by
  simp only [bodyG, predsG, edgesS, gOrderS, cleanB, sortS_eq]
  decide
theorem critC : criticalG gC = [(0, 2)] := by
  have e : critE gC = fun e => decide (1 < (nth gC e.1.toNat).length) && decide (1 < (nth ((flatE (fun a => nth gC a) gC.length).foldl predStep (List.replicate gC.length [])) e.2.toNat).length) := by
    funext e; simp only [critE, predsG, edgesS, cleanC]
  rw [criticalG, e]
  simp only [edgesS, cleanC]
  decide
theorem redA : reducibleG [-1, 0, 0, 0] gA = false := by
  simp only [reducibleG, edgesS, gOrderS, cleanA]
  decide
theorem redB : reducibleG [-1, 0, 1, 1] gB = true := by
  simp only [reducibleG, edgesS, gOrderS, cleanB]
  decide
theorem headA : headersG [-1, 0, 0, 0] gA = [] := by
  simp only [headersG, edgesS, cleanA, sortS_eq]
  decide

theorem sm_of {g : Gr} (h : g.length ≤ 1000000 ∧ ∀ r ∈ g, r.length ≤ 1000000) : Sm g := ⟨h.1, fun i hi => h.2 _ (nth_mem hi)⟩
theorem rd1 {H : View} {a : Int} (h : decide (-9223372036854775808 ≤ a) && decide (a ≤ 9223372036854775807) = true) : Rd H (.int .i64 a) a := by
  simp at h; exact rd_i h.1 h.2

set_option maxRecDepth 100000 in
theorem awake_ok {h : Heap} : HCalls Try.prog N.law02_awake #[] h (fun v h' => v = .bool true ∧ (vw h).le (vw h')) := by
  refine calls_lift (args := []) follows Try.func12 E.law02_awake (by show 0 ≤ 62; decide) fun K hK => ?_
  dsimp only [L.law02_awake]
  refine lwp_hide fun z hz => ?_
  simp
  rw [hz]
  clear hz z
  refine lwp_hide fun z hz => ?_
  simp
  refine do_lit (α := Int) (vs := [.int .i64 1, .int .i64 2]) (ds := [1, 2]) rfl elem23 (by simp) ⟨rd1 rfl, rd1 rfl, trivial⟩ rfl (by omega) fun v1 h1 hle1 r1 => ?_
  refine do_lit (α := Int) (vs := [.int .i64 3]) (ds := [3]) rfl elem23 (by simp) ⟨rd1 rfl, trivial⟩ rfl (by omega) fun v2 h2 hle2 r2 => ?_
  refine do_lit (α := Int) (vs := [.int .i64 3]) (ds := [3]) rfl elem23 (by simp) ⟨rd1 rfl, trivial⟩ rfl (by omega) fun v3 h3 hle3 r3 => ?_
  refine do_lit (α := Int) (vs := [.int .i64 1]) (ds := [1]) rfl elem23 (by simp) ⟨rd1 rfl, trivial⟩ rfl (by omega) fun v4 h4 hle4 r4 => ?_
  have r3' := r3.mono hle4
  have r2' := r2.mono (View.le_trans hle3 hle4)
  have r1' := r1.mono (View.le_trans hle2 (View.le_trans hle3 hle4))
  refine do_lit (α := List Int) (vs := [v1, v2, v3, v4]) (ds := gA) rfl elem22 (by simp) ⟨rd_list.2 r1', rd_list.2 r2', rd_list.2 r3', rd_list.2 r4, trivial⟩ rfl (by omega) fun vA h5 hle5 rA => ?_
  have hle05 : (vw h).le (vw h5) := View.le_trans hle1 (View.le_trans hle2 (View.le_trans hle3 (View.le_trans hle4 hle5)))
  clear r1 r2 r3 r4 r1' r2' r3' hle1 hle2 hle3 hle4 hle5
  rw [hz]
  clear hz z
  refine lwp_hide fun z hz => ?_
  simp
  refine do_lit (α := Int) (vs := [.int .i64 1]) (ds := [1]) rfl elem23 (by simp) ⟨rd1 rfl, trivial⟩ rfl (by omega) fun w1 h6 hle6 r1 => ?_
  refine do_lit (α := Int) (vs := [.int .i64 2, .int .i64 3]) (ds := [2, 3]) rfl elem23 (by simp) ⟨rd1 rfl, rd1 rfl, trivial⟩ rfl (by omega) fun w2 h7 hle7 r2 => ?_
  refine do_lit (α := Int) (vs := [.int .i64 1]) (ds := [1]) rfl elem23 (by simp) ⟨rd1 rfl, trivial⟩ rfl (by omega) fun w3 h8 hle8 r3 => ?_
  refine do_lit (α := Int) (vs := []) (ds := []) rfl elem23 (by simp) trivial rfl (by omega) fun w4 h9 hle9 r4 => ?_
  have r3' := r3.mono hle9
  have r2' := r2.mono (View.le_trans hle8 hle9)
  have r1' := r1.mono (View.le_trans hle7 (View.le_trans hle8 hle9))
  refine do_lit (α := List Int) (vs := [w1, w2, w3, w4]) (ds := gB) rfl elem22 (by simp) ⟨rd_list.2 r1', rd_list.2 r2', rd_list.2 r3', rd_list.2 r4, trivial⟩ rfl (by omega) fun vB h10 hle10 rB => ?_
  have hle510 : (vw h5).le (vw h10) := View.le_trans hle6 (View.le_trans hle7 (View.le_trans hle8 (View.le_trans hle9 hle10)))
  have rA := rA.mono hle510
  have hle010 := View.le_trans hle05 hle510
  clear r1 r2 r3 r4 r1' r2' r3' hle6 hle7 hle8 hle9 hle10 hle05 hle510
  have sA : Sm gA := sm_of (by decide)
  have sB : Sm gB := sm_of (by decide)
  have sC : Sm gC := sm_of (by decide)
  rw [hz]
  clear hz z
  refine lwp_hide fun z hz => ?_
  simp
  refine call_to (by kernel_rfl) (order_ok rA sA) ?_
  rintro v h11 ⟨hle11, rv⟩
  rw [orderA] at rv
  refine do_lit (α := Int) (vs := [.int .i64 0, .int .i64 2, .int .i64 1, .int .i64 3]) (ds := [0, 2, 1, 3]) rfl elem23 (by simp) ⟨rd1 rfl, rd1 rfl, rd1 rfl, rd1 rfl, trivial⟩ rfl (by omega) fun w1 h12 hle12 r1 => ?_
  refine call_to (by kernel_rfl) (nums_ok ((rv.mono (fresh_le _ _)).mono hle12) r1) ?_
  rintro _ _ ⟨rfl, rfl⟩
  have rA := rA.mono (View.le_trans hle11 hle12)
  have rB := rB.mono (View.le_trans hle11 hle12)
  have hle012 := View.le_trans hle010 (View.le_trans hle11 hle12)
  clear rv r1 hle11 hle12 hle010
  rw [hz]
  clear hz z
  refine lwp_hide fun z hz => ?_
  simp
  refine call_to (by kernel_rfl) (idom_ok rA sA idomA) ?_
  rintro v h13 ⟨_, m13⟩
  refine do_lit (α := Int) (vs := [.int .i64 (-1), .int .i64 0, .int .i64 0, .int .i64 0]) (ds := [-1, 0, 0, 0]) rfl elem23 (by simp) ⟨rd1 rfl, rd1 rfl, rd1 rfl, rd1 rfl, trivial⟩ rfl (by omega) fun w1 h14 hle14 r1 => ?_
  refine call_to (by kernel_rfl) (nums_ok (m13.now.mono hle14) r1) ?_
  rintro _ _ ⟨rfl, rfl⟩
  have rA := rA.mono (View.le_trans m13.old hle14)
  have rB := rB.mono (View.le_trans m13.old hle14)
  have hle014 := View.le_trans hle012 (View.le_trans m13.old hle14)
  clear m13 r1 hle14 hle012
  rw [hz]
  clear hz z
  refine lwp_hide fun z hz => ?_
  simp
  refine call_to (by kernel_rfl) (body_ok rB sB idomB rfl bodyB (by omega)) ?_
  rintro v h15 ⟨hle15, rv⟩
  refine do_lit (α := Int) (vs := [.int .i64 1, .int .i64 2]) (ds := [1, 2]) rfl elem23 (by simp) ⟨rd1 rfl, rd1 rfl, trivial⟩ rfl (by omega) fun w1 h16 hle16 r1 => ?_
  refine call_to (by kernel_rfl) (nums_ok ((rv.mono (fresh_le _ _)).mono hle16) r1) ?_
  rintro _ _ ⟨rfl, rfl⟩
  have rA := rA.mono (View.le_trans hle15 hle16)
  have rB := rB.mono (View.le_trans hle15 hle16)
  have hle016 := View.le_trans hle014 (View.le_trans hle15 hle16)
  clear rv r1 hle15 hle16 hle014
  rw [hz]
  clear hz z
  refine lwp_hide fun z hz => ?_
  simp
  refine do_lit (α := Int) (vs := [.int .i64 1, .int .i64 2]) (ds := [1, 2]) rfl elem23 (by simp) ⟨rd1 rfl, rd1 rfl, trivial⟩ rfl (by omega) fun w1 h17 hle17 r1 => ?_
  refine do_lit (α := Int) (vs := [.int .i64 2]) (ds := [2]) rfl elem23 (by simp) ⟨rd1 rfl, trivial⟩ rfl (by omega) fun w2 h18 hle18 r2 => ?_
  refine do_lit (α := Int) (vs := []) (ds := []) rfl elem23 (by simp) trivial rfl (by omega) fun w3 h19 hle19 r3 => ?_
  refine do_lit (α := List Int) (vs := [w1, w2, w3]) (ds := gC) rfl elem22 (by simp) ⟨rd_list.2 (r1.mono (View.le_trans hle18 hle19)), rd_list.2 (r2.mono hle19), rd_list.2 r3, trivial⟩ rfl (by omega) fun vC h20 hle20 rC => ?_
  refine call_to (by kernel_rfl) (critical_ok rC sC) ?_
  rintro v h21 ⟨hle21, rv⟩
  rw [critC] at rv
  have hle1621 := View.le_trans hle17 (View.le_trans hle18 (View.le_trans hle19 (View.le_trans hle20 hle21)))
  have rA := rA.mono hle1621
  have rB := rB.mono hle1621
  have hle021 := View.le_trans hle016 hle1621
  clear r1 r2 r3 hle17 hle18 hle19 hle20 hle016 hle1621
  refine do_build (z := .agg #[.int .i64 0, .int .i64 0]) (places := [(0, 1), (1, 1)]) (vs := [(0, .int .i64 0), (1, .int .i64 2)]) (cs := #[.int .i64 0, .int .i64 2]) (by kernel_rfl) (by kernel_rfl) (by simp) rfl ?_
  refine do_lits (vs := [(0, .agg #[.int .i64 0, .int .i64 2])]) (cs := #[.int .i64 0, .int .i64 2]) elem42 (by omega) (by simp) (by kernel_rfl) ?_
  have r1 : SlRd (vw (h21.push (.cells #[.int .i64 0, .int .i64 2] 41))) (.slice (some ⟨h21.size, 0, none⟩) 1 1) [((0 : Int), (2 : Int))] := by
    refine ⟨some ⟨h21.size, 0, none⟩, 1, rfl, by simp, by simp, .inr ⟨_, rfl, rfl, fun i hi => ?_⟩⟩
    obtain rfl : i = 0 := by simpa using hi
    exact ⟨[.int .i64 0, .int .i64 2], ⟨#[.int .i64 0, .int .i64 2], 41, (0, 0), rfl, by simp [vw, Addr.add], rfl⟩, ⟨rfl, show -9223372036854775808 ≤ (0 : Int) ∧ (0 : Int) ≤ 9223372036854775807 by omega, show -9223372036854775808 ≤ (2 : Int) ∧ (2 : Int) ≤ 9223372036854775807 by omega⟩⟩
  have hle22 := push_le h21 (.cells #[.int .i64 0, .int .i64 2] 41)
  refine call_to (by kernel_rfl) (pairs_ok ((rv.mono (fresh_le _ _)).mono hle22) r1) ?_
  rintro _ _ ⟨rfl, rfl⟩
  have rA := rA.mono hle22
  have rB := rB.mono hle22
  have hle022 := View.le_trans hle021 hle22
  generalize h21.push (.cells #[.int .i64 0, .int .i64 2] 41) = h22 at rA rB hle022
  rw [hz]
  clear hz z
  refine lwp_hide fun z hz => ?_
  simp
  refine call_to (by kernel_rfl) (reducible_ok rA sA idomA rfl) ?_
  rintro _ h23 ⟨rfl, hle23⟩
  rw [redA]
  simp
  refine call_to (by kernel_rfl) (reducible_ok (rB.mono hle23) sB idomB rfl) ?_
  rintro _ h24 ⟨rfl, hle24⟩
  rw [redB]
  simp
  refine call_to (by kernel_rfl) (headers_ok ((rA.mono hle23).mono hle24) sA idomA rfl) ?_
  rintro v h25 ⟨hle25, rv⟩
  rw [headA] at rv
  simp [rv.len]
  rw [hz]
  simp
  exact hK _ _ ⟨rfl, View.le_trans hle022 (View.le_trans hle23 (View.le_trans hle24 hle25))⟩
end Go.Proofs.Ytaebcebflfgdiaa

/- Plain laws of graphs: rows, edges, those from which one comes, the order, critical edges. -/
namespace Go.Proofs.Ytaebcebflfgdiaa
open Go Go.Lft
set_option linter.unusedSimpArgs false
set_option linter.unusedVariables false

/-! ### Rising rows -/
theorem strict_unique : ∀ {a b : List Int}, a.Pairwise (· < ·) → b.Pairwise (· < ·) → (∀ x, x ∈ a ↔ x ∈ b) → a = b
  | [], [], _, _, _ => rfl
  | [], y :: b, _, _, h => by have := (h y).2 (List.mem_cons_self ..); cases this
  | x :: a, [], _, _, h => by have := (h x).1 (List.mem_cons_self ..); cases this
  | x :: a, y :: b, ha, hb, h => by
    obtain ⟨a1, a2⟩ := List.pairwise_cons.1 ha
    obtain ⟨b1, b2⟩ := List.pairwise_cons.1 hb
    have e : x = y := by
      rcases List.mem_cons.1 ((h x).1 (List.mem_cons_self ..)) with e | h1
      · exact e
      · rcases List.mem_cons.1 ((h y).2 (List.mem_cons_self ..)) with e | h2
        · exact e.symm
        · have := a1 y h2; have := b1 x h1; omega
    subst e
    rw [strict_unique a2 b2 fun z => ?_]
    constructor
    · intro hz
      rcases List.mem_cons.1 ((h z).1 (List.mem_cons_of_mem _ hz)) with e | h1
      · have := a1 z hz; omega
      · exact h1
    · intro hz
      rcases List.mem_cons.1 ((h z).2 (List.mem_cons_of_mem _ hz)) with e | h1
      · have := b1 z hz; omega
      · exact h1

theorem get!_nth {l : List Int} {i : Nat} : l.toArray[i]! = nth l i := by
  simp [nth, List.getD_eq_getElem?_getD]
theorem sorted_nth {l : List Int} (hs : l.Pairwise (· ≤ ·)) {i j : Nat} (hij : i ≤ j) (hj : j < l.length) : nth l i ≤ nth l j := by
  rw [nth_eq (by omega), nth_eq hj]
  rcases Nat.lt_or_ge i j with h | h
  · exact List.pairwise_iff_getElem.1 hs i j (by omega) hj h
  · have : i = j := by omega
    subst this; exact Int.le_refl _
theorem compact_strict {l : List Int} (hs : l.Pairwise (· ≤ ·)) : (Lib.compact l).Pairwise (· < ·) := by
  unfold Lib.compact Lib.compactUpTo
  rw [List.pairwise_map, List.pairwise_filter]
  refine (List.pairwise_lt_range (n := l.length)).imp_of_mem fun {i j} hi hj hij ki kj => ?_
  simp only [List.mem_range] at hi hj
  simp only [Lib.keeps, get!_nth, decide_eq_true_eq] at kj
  rw [get!_nth, get!_nth]
  have h1 := sorted_nth hs (i := i) (j := j - 1) (by omega) (by omega)
  have h2 := sorted_nth hs (i := j - 1) (j := j) (by omega) hj
  rcases kj with h | h <;> omega
theorem compact_mem_iff {l : List Int} {x : Int} : x ∈ Lib.compact l ↔ x ∈ l := by
  refine ⟨compact_mem, fun hx => ?_⟩
  obtain ⟨j, hj, rfl⟩ := List.getElem_of_mem hx
  have key : ∀ j, j < l.length → nth l j ∈ Lib.compact l := by
    intro j
    induction j with
    | zero =>
      intro h
      unfold Lib.compact Lib.compactUpTo
      refine List.mem_map.2 ⟨0, List.mem_filter.2 ⟨by simpa using h, by simp [Lib.keeps]⟩, get!_nth⟩
    | succ j ih =>
      intro h
      by_cases he : nth l (j + 1) = nth l j
      · rw [he]; exact ih (by omega)
      · unfold Lib.compact Lib.compactUpTo
        refine List.mem_map.2 ⟨j + 1, List.mem_filter.2 ⟨by simpa using h, by simp only [Lib.keeps, get!_nth, decide_eq_true_eq]; exact .inr (by simpa using he)⟩, get!_nth⟩
  rw [← nth_eq hj]; exact key j hj
theorem mem_sift {β : Type} {p : Nat → Bool} {x : Nat → β} {n : Nat} {y : β} : y ∈ sift p x n ↔ ∃ i, i < n ∧ p i = true ∧ x i = y := by
  rw [sift_eq]; simp [and_assoc]
theorem keptS_strict {row : List Int} {n : Int} : (keptS row n).Pairwise (· < ·) := compact_strict (sortS_sorted _)
theorem mem_keptS {row : List Int} {n x : Int} : x ∈ keptS row n ↔ x ∈ row ∧ 0 ≤ x ∧ x < n := by
  rw [keptS, compact_mem_iff, sortS, List.mem_mergeSort, mem_sift]
  simp only [keptP, Bool.and_eq_true, decide_eq_true_eq]
  constructor
  · rintro ⟨i, hi, h, rfl⟩; exact ⟨nth_mem hi, h⟩
  · rintro ⟨h, h1⟩
    obtain ⟨i, hi, rfl⟩ := List.getElem_of_mem h
    exact ⟨i, hi, by rw [nth_eq hi]; exact h1, nth_eq hi⟩
theorem edgeS_iff {g : Gr} {a b : Int} : edgeS g a b = true ↔ (0 ≤ a ∧ a < g.length ∧ 0 ≤ b ∧ b < g.length) ∧ b ∈ nth g a.toNat := by
  simp [edgeS]
theorem sift_strict {p : Nat → Bool} {n : Nat} : (sift p (fun b => (b : Int)) n).Pairwise (· < ·) := by
  rw [sift_eq, List.pairwise_map, List.pairwise_filter]
  exact List.pairwise_lt_range.imp fun h _ _ => by omega
theorem mem_nextS {g : Gr} {a b : Int} : b ∈ nextS g a ↔ edgeS g a b = true := by
  rw [nextS, mem_sift]
  constructor
  · rintro ⟨i, _, h, rfl⟩; exact h
  · intro h
    have := (edgeS_iff.1 h).1
    exact ⟨b.toNat, by omega, by rw [Int.toNat_of_nonneg (by omega)]; exact h, Int.toNat_of_nonneg (by omega)⟩
theorem nextS_strict {g : Gr} {a : Int} : (nextS g a).Pairwise (· < ·) := sift_strict
/-- The rows that the code cleans are the document's. -/
theorem clean_next {g : Gr} {a : Nat} (ha : a < g.length) : nth (cleanS g) a = nextS g a := by
  rw [cleanS, nth_rows ha]
  refine strict_unique keptS_strict nextS_strict fun x => ?_
  rw [mem_keptS, mem_nextS, edgeS_iff, Int.toNat_natCast]
  exact ⟨fun ⟨h1, h2, h3⟩ => ⟨⟨by omega, by omega, h2, h3⟩, h1⟩, fun ⟨⟨_, _, h2, h3⟩, h1⟩ => ⟨h1, h2, h3⟩⟩

/-! ### Edges -/
theorem flatE_congr {f k : Nat → List Int} {n : Nat} (h : ∀ a, a < n → f a = k a) : flatE f n = flatE k n := by
  induction n with
  | zero => rfl
  | succ n ih => rw [flatE_succ, flatE_succ, ih fun a ha => h a (by omega), h n (by omega)]
theorem edgesS_eq {g : Gr} : edgesS g = flatE (fun a => nextS g a) g.length := flatE_congr fun a ha => clean_next ha
theorem mem_edges {g : Gr} {e : Int × Int} : e ∈ edgesS g ↔ edgeS g e.1 e.2 = true := by
  rw [edgesS_eq, flatE, List.mem_flatMap]
  simp only [List.mem_range, List.mem_map]
  constructor
  · rintro ⟨a, ha, b, hb, rfl⟩; exact mem_nextS.1 hb
  · intro h
    have := (edgeS_iff.1 h).1
    exact ⟨e.1.toNat, by omega, e.2, mem_nextS.2 (by rw [Int.toNat_of_nonneg (by omega)]; exact h), by rw [Int.toNat_of_nonneg (by omega)]⟩

theorem predFold {l : List (Int × Int)} : ∀ {p : Gr} {i : Nat}, i < p.length → nth (l.foldl predStep p) i = nth p i ++ (l.filter fun e => decide (e.2.toNat = i)).map Prod.fst := by
  induction l with
  | nil => intro p i _; simp
  | cons e l ih =>
    intro p i hi
    rw [List.foldl_cons, ih (by simpa [predStep] using hi), predStep, nth_set hi, List.filter_cons]
    split
    · rename_i h; simp [h]
    · rename_i h; simp [h]
theorem filter_one {l : List Int} (hs : l.Pairwise (· < ·)) {b : Int} : l.filter (fun x => decide (x = b)) = if b ∈ l then [b] else [] := by
  induction l with
  | nil => simp
  | cons x l ih =>
    obtain ⟨h1, h2⟩ := List.pairwise_cons.1 hs
    rw [List.filter_cons, ih h2]
    by_cases hx : x = b
    · subst hx
      have : ¬ x ∈ l := fun h => by have := h1 x h; omega
      simp [this]
    · simp [hx, Ne.symm hx]
theorem predsRow {f : Nat → List Int} (hf : ∀ a, (f a).Pairwise (· < ·)) (hp : ∀ a, ∀ x ∈ f a, 0 ≤ x) {b n : Nat} : ((flatE f n).filter fun e => decide (e.2.toNat = b)).map Prod.fst = sift (fun a => decide ((b : Int) ∈ f a)) (fun a => (a : Int)) n := by
  induction n with
  | zero => rfl
  | succ n ih =>
    rw [flatE_succ, List.filter_append, List.map_append, ih]
    have e1 : ((f n).map fun b => ((n : Int), b)).filter (fun e => decide (e.2.toNat = b)) = ((f n).filter fun x => decide (x = (b : Int))).map fun b => ((n : Int), b) := by
      rw [List.filter_map]
      congr 1
      refine List.filter_congr fun x hx => ?_
      have := hp n x hx
      simp only [Function.comp, decide_eq_decide]
      omega
    rw [e1, filter_one (hf n)]
    by_cases h : (b : Int) ∈ f n
    · rw [if_pos h, sift_true (by simpa using h)]; rfl
    · rw [if_neg h, sift_false (by simpa using h)]; simp
theorem predsG_len' {g : Gr} : (predsG g).length = g.length := by rw [predsG, predsG_len]; simp
theorem preds_eq {g : Gr} : predsG g = predsS g := by
  refine eq_of_nth (by rw [predsG_len', predsS_len]) fun b hb => ?_
  rw [predsG_len'] at hb
  rw [predsG, predFold (by simpa using hb), nth_replicate hb, List.nil_append, predsS, nth_rows hb, edgesS_eq, predsRow (fun _ => nextS_strict) (fun a x hx => by
    have := (edgeS_iff.1 (mem_nextS.1 hx)).1; omega)]
  have e : (fun a : Nat => decide ((b : Int) ∈ nextS g a)) = fun a : Nat => edgeS g a b := by
    funext a
    rw [Bool.eq_iff_iff]
    simp [mem_nextS]
  rw [e]
theorem mem_preds {g : Gr} {a b : Int} (hb : 0 ≤ b ∧ b < g.length) : a ∈ nth (predsG g) b.toNat ↔ edgeS g a b = true := by
  rw [preds_eq, predsS, nth_rows (by omega), mem_sift]
  constructor
  · rintro ⟨i, _, h, rfl⟩
    rwa [Int.toNat_of_nonneg hb.1] at h
  · intro h
    have := (edgeS_iff.1 h).1
    exact ⟨a.toNat, by omega, by rw [Int.toNat_of_nonneg (by omega), Int.toNat_of_nonneg (by omega)]; exact h, Int.toNat_of_nonneg (by omega)⟩
/-- Edges turned round. -/
theorem edge_turn {g : Gr} {a b : Int} : edgeS (predsG g) b a = edgeS g a b := by
  rw [Bool.eq_iff_iff, edgeS_iff (g := predsG g), predsG_len']
  constructor
  · rintro ⟨h, h1⟩; exact (mem_preds ⟨h.1, h.2.1⟩).1 h1
  · intro h
    have := (edgeS_iff.1 h).1
    exact ⟨by omega, (mem_preds ⟨this.2.2.1, this.2.2.2⟩).2 h⟩
end Go.Proofs.Ytaebcebflfgdiaa

namespace Go.Proofs.Ytaebcebflfgdiaa
open Go Go.Lft
set_option linter.unusedSimpArgs false
set_option linter.unusedVariables false

theorem sm_made {s : List Int} : Sm (madeS s) := by
  have hr := madeN_range (s := s)
  refine ⟨by simp [madeS]; omega, fun i hi => ?_⟩
  rw [madeS, rows_len] at hi
  rw [madeS, nth_rows hi]
  have := madeUp_len (s := s) (n := madeN s) (i := i) (k := 3)
  show (up (madeStep s (madeN s) i) 3 []).length ≤ 1000000
  omega
theorem made_len {s : List Int} : 1 ≤ (madeS s).length ∧ (madeS s).length ≤ 10 := by
  have hr := madeN_range (s := s)
  simp [madeS]; omega
theorem sm_preds {g : Gr} (h : g.length ≤ 1000000) : Sm (predsG g) := by
  refine ⟨by rw [predsG_len']; exact h, fun i hi => ?_⟩
  rw [predsG_len'] at hi
  rw [preds_eq, predsS, nth_rows hi]
  exact Nat.le_trans (sift_len _) h

theorem graphTurns_ok {s : List Int} {vs : Value} {h : Heap} (hs : SlRd (vw h) vs s) : HCalls Try.prog N.law02_GraphTurns #[vs] h (fun v h' => v = .bool true ∧ (vw h).le (vw h')) := by
  refine calls_lift (args := [vs]) follows Try.func8 E.law02_GraphTurns (by show 1 ≤ 60; decide) fun K hK => ?_
  simp [L.law02_GraphTurns]
  refine call_to (by kernel_rfl) awake_ok ?_
  rintro _ h1 ⟨rfl, hle1⟩
  refine call_to (by kernel_rfl) (made_ok (hs.mono hle1)) ?_
  rintro vg h2 ⟨_, m2⟩
  have hg := m2.now
  have hsm := sm_made (s := s)
  have hle02 := View.le_trans hle1 m2.old
  have hl10 := made_len (s := s)
  clear m2
  generalize madeS s = g at hg hsm hl10
  refine call_to (by kernel_rfl) (preds_ok hg hsm) ?_
  rintro vp h3 ⟨hle3, hp⟩
  have hp := hp.mono (fresh_le _ _)
  refine call_to (by kernel_rfl) (preds_ok hp (sm_preds hsm.1)) ?_
  rintro vq h4 ⟨hle4, hq⟩
  have hq := hq.mono (fresh_le _ _)
  have hp := hp.mono hle4
  have hg := (hg.mono hle3).mono hle4
  have hle04 := View.le_trans hle02 (View.le_trans hle3 hle4)
  simp [hp.len, hg.len, hq.len, predsG_len', condP_bool]
  refine lwp_for [0, 2, 3, 4, 5, 6, 7] (fun (_ : Unit) k => [vs, .bool false, .bool true, vg, vp, vq, .int .i64 k]) (fun _ k h5 => h5 = h4) g.length ()
    rfl (by omega) rfl rfl (fun _ _ => rfl) (fun v k h1 hk m => by simp [hg.len]) ?_ ?_
  · rintro _ a h5 hlta rfl K2 hK2
    simp
    refine lwp_for [0, 2, 3, 4, 5, 6, 7, 8] (fun (_ : Unit) k => [vs, .bool false, .bool true, vg, vp, vq, .int .i64 a, .int .i64 k]) (fun _ k h6 => h6 = h5) g.length ()
      rfl (by omega) rfl rfl (fun _ _ => rfl) (fun v k h1 hk m => by subst m; simp [hg.len]) ?_ ?_
    · rintro _ b h6 hltb rfl K3 hK3
      simp
      refine call_to (by kernel_rfl) (edge_ok hg) ?_
      rintro _ _ ⟨rfl, rfl⟩
      refine call_to (by kernel_rfl) (edge_ok hp) ?_
      rintro _ _ ⟨rfl, rfl⟩
      rw [edge_turn]
      simp
      refine call_to (by kernel_rfl) (edge_ok hq) ?_
      rintro _ _ ⟨rfl, rfl⟩
      rw [edge_turn, edge_turn]
      simp
      exact hK3 () _ _ rfl rfl rfl
    · rintro _ h6 rfl
      simp
      exact hK2 () _ _ rfl rfl rfl
  · rintro _ h5 rfl
    simp
    exact hK _ _ ⟨rfl, hle04⟩
end Go.Proofs.Ytaebcebflfgdiaa

namespace Go.Proofs.Ytaebcebflfgdiaa
open Go Go.Lft
set_option linter.unusedSimpArgs false
set_option linter.unusedVariables false

theorem dominates_self {l : List Int} {x : Int} (h0 : 0 ≤ x) (h1 : x < l.length) : dominatesS l x x = true := by
  simp [dominatesS, chase, h0, h1]
theorem dominates_nil {a b : Int} : dominatesS [] a b = false := by
  rw [dominatesS]
  simp
  intro h h2
  omega

theorem graphChains_ok {l0 : List Int} {v0 : Value} {a b : Int} {h : Heap} (hl0 : SlRd (vw h) v0 l0) : HCalls Try.prog N.law02_GraphChains #[v0, .int .i64 a, .int .i64 b] h (fun v h' => v = .bool true ∧ (vw h).le (vw h')) := by
  refine calls_lift (args := [v0, .int .i64 a, .int .i64 b]) follows Try.func6 E.law02_GraphChains (by show 3 ≤ 65; decide) fun K hK => ?_
  dsimp only [L.law02_GraphChains]
  refine lwp_hide fun z hz => ?_
  simp
  rw [hz]
  clear hz z
  refine lwp_hide fun z hz => ?_
  simp
  refine call_to (by kernel_rfl) awake_ok ?_
  rintro _ h1 ⟨rfl, hle1⟩
  rw [hz]
  clear hz z
  have hl1 := hl0.mono hle1
  have hmin : (if (12 : Int) < (l0.length : Int) then (12 : Int) else (l0.length : Int)) = ((min l0.length 12 : Nat) : Int) := by split <;> omega
  obtain ⟨v, hv, hl⟩ := hl1.take (n := min l0.length 12) (by omega) (kd := .i64)
  have hlen : (l0.take (min l0.length 12)).length ≤ 12 := by simp; omega
  generalize l0.take (min l0.length 12) = l at hl hlen
  refine lwp_hide fun z hz => ?_
  simp only [lwp_reg, regWp_fin, part_none, evP_cons, evP_nil, ev_bin_eq, ev_tmp, ev_un_eq, ev_con, look_cons, if_true, Option.bind_some, hl1.len, bn_min, hmin, hv]
  simp [hl1.len, hmin, hv]
  rw [hz]
  clear hz z
  refine lwp_hide fun z hz => ?_
  by_cases h0 : l.length = 0
  · simp [hl.len, h0]
    refine call_to (by kernel_rfl) (dominates_ok hl) ?_
    rintro _ h2 ⟨rfl, hle2⟩
    rw [List.eq_nil_of_length_eq_zero h0, dominates_nil]
    simp
    exact hK _ _ ⟨rfl, View.le_trans hle1 hle2⟩
  · have h0' : ¬ l = [] := fun e => h0 (by rw [e]; rfl)
    have hx := restS_range (x := a) (n := l.length) (by omega)
    have hy := restS_range (x := b) (n := l.length) (by omega)
    simp [hl.len, h0']
    rw [hz]
    clear hz z
    refine lwp_hide fun z hz => ?_
    simp [hl.len]
    refine call_to (by kernel_rfl) (rest_ok (by omega) (by omega)) ?_
    rintro _ _ ⟨rfl, rfl⟩
    rw [hz]
    clear hz z
    refine lwp_hide fun z hz => ?_
    simp [hl.len]
    refine call_to (by kernel_rfl) (rest_ok (by omega) (by omega)) ?_
    rintro _ _ ⟨rfl, rfl⟩
    rw [hz]
    clear hz z
    generalize restS a l.length = x at hx
    generalize restS b l.length = y at hy
    refine lwp_hide fun z hz => ?_
    simp
    refine call_to (by kernel_rfl) (dominates_ok hl) ?_
    rintro _ h2 ⟨rfl, hle2⟩
    have hl2 := hl.mono hle2
    refine call_to (by kernel_rfl) (refDominates_ok hl2) ?_
    rintro _ _ ⟨rfl, rfl⟩
    simp
    refine call_to (by kernel_rfl) (dominates_ok hl2) ?_
    rintro _ h3 ⟨rfl, hle3⟩
    have hl3 := hl2.mono hle3
    refine call_to (by kernel_rfl) (refDominates_ok hl3) ?_
    rintro _ _ ⟨rfl, rfl⟩
    simp
    refine call_to (by kernel_rfl) (dominates_ok hl3) ?_
    rintro _ h4 ⟨rfl, hle4⟩
    rw [dominates_self hx.1 hx.2]
    rw [hz]
    simp
    exact hK _ _ ⟨rfl, View.le_trans hle1 (View.le_trans hle2 (View.le_trans hle3 hle4))⟩
end Go.Proofs.Ytaebcebflfgdiaa

/- Plain laws of graphs: what is reached; rounds that come to an end. -/
namespace Go.Proofs.Ytaebcebflfgdiaa
open Go Go.Lft
set_option linter.unusedSimpArgs false
set_option linter.unusedVariables false

/-! ### Rounds over flags -/
structure Le (x y : List Bool) : Prop where
  len : y.length = x.length
  le : ∀ i, nth x i = true → nth y i = true
theorem Le.refl (x : List Bool) : Le x x := ⟨rfl, fun _ h => h⟩
theorem Le.trans {x y z : List Bool} (h : Le x y) (k : Le y z) : Le x z := ⟨k.len.trans h.len, fun i e => k.le i (h.le i e)⟩
theorem Le.antisymm {x y : List Bool} (h : Le x y) (k : Le y x) : x = y := by
  refine eq_of_nth h.len.symm fun i _ => ?_
  rw [Bool.eq_iff_iff]; exact ⟨h.le i, k.le i⟩
theorem Le.falses : ∀ {x y : List Bool}, Le x y → x = y ∨ falses y < falses x
  | [], y, h => .inl (List.eq_nil_of_length_eq_zero h.len).symm
  | a :: x, y, h => by
    match y, h with
    | [], h => have := h.len; simp at this
    | b :: y, h =>
      have h2 : Le x y := ⟨by simpa using h.len, fun i e => by have := h.le (i + 1); simpa [nth] using this (by simpa [nth] using e)⟩
      have h0 : a = true → b = true := fun e => by have := h.le 0; simpa [nth] using this (by simpa [nth] using e)
      unfold Go.Proofs.Ytaebcebflfgdiaa.falses
      rcases h2.falses with rfl | h3
      · cases a <;> cases b <;> simp at h0 ⊢
      · unfold Go.Proofs.Ytaebcebflfgdiaa.falses at h3
        cases a <;> cases b <;> simp at h0 ⊢ <;> omega
theorem le_set {x : List Bool} {i : Nat} {b : Bool} (hb : nth x i = true → b = true) : Le x (x.set i b) := by
  refine ⟨by simp, fun j hj => ?_⟩
  rcases Nat.lt_or_ge j x.length with h | h
  · rw [nth_set h]
    split
    · rename_i e; subst e; exact hb hj
    · exact hj
  · rw [nth_ge h] at hj; cases hj
theorem up_le {f : Nat → List Bool → List Bool} (hf : ∀ k x, Le x (f k x)) (x : List Bool) : ∀ n m, n ≤ m → Le (up f n x) (up f m x)
  | n, 0, h => by obtain rfl : n = 0 := by omega
                  exact Le.refl _
  | n, m + 1, h => by
    rcases Nat.lt_or_ge n (m + 1) with h1 | h1
    · exact (up_le hf x n m (by omega)).trans (hf m _)
    · obtain rfl : n = m + 1 := by omega
      exact Le.refl _
/-- Steps of which nothing turns turn nothing, each. -/
theorem up_id {f : Nat → List Bool → List Bool} (hf : ∀ k x, Le x (f k x)) {x : List Bool} {n : Nat} (h : up f n x = x) : ∀ k, k < n → f k x = x := by
  have key : ∀ k, k ≤ n → up f k x = x := fun k hk => by
    have h1 := up_le hf x k n hk
    rw [h] at h1
    have h2 := up_le hf x 0 k (Nat.zero_le _)
    exact (h2.antisymm h1).symm
  intro k hk
  have h1 := key (k + 1) (by omega)
  rw [up, key k (by omega)] at h1
  exact h1
theorem up_shift {β : Type} {F : β → β} : ∀ (n : Nat) (x : β), up (fun _ => F) (n + 1) x = up (fun _ => F) n (F x)
  | 0, x => rfl
  | n + 1, x => by
    show F (up (fun _ => F) (n + 1) x) = F (up (fun _ => F) n (F x))
    rw [up_shift n x]
theorem up_const {β : Type} {F : β → β} {x : β} (h : F x = x) : ∀ n, up (fun _ => F) n x = x
  | 0 => rfl
  | n + 1 => by show F (up (fun _ => F) n x) = x; rw [up_const h n, h]
/-- As many rounds as there is room for come to an end. -/
theorem up_fix {F : List Bool → List Bool} (hF : ∀ x, Le x (F x)) : ∀ (n : Nat) (x : List Bool), falses x ≤ n → F (up (fun _ => F) n x) = up (fun _ => F) n x
  | 0, x, h => by
    rcases (hF x).falses with e | e
    · exact e.symm
    · omega
  | n + 1, x, h => by
    rw [up_shift]
    rcases (hF x).falses with e | e
    · rw [← e, up_const e.symm]; exact e.symm
    · exact up_fix hF n _ (by omega)

/-! ### What is reached -/
/-- By ways from block 0 on, none through a certain block. -/
inductive Re (g : Gr) (gone : Int) : Nat → Prop
  | root : 0 < g.length → gone ≠ 0 → Re g gone 0
  | step {a b : Nat} : Re g gone a → edgeS g a b = true → (b : Int) ≠ gone → Re g gone b

theorem Re.lt {g : Gr} {gone : Int} {b : Nat} (h : Re g gone b) : b < g.length := by
  cases h with
  | root h _ => exact h
  | step _ h _ => have := (edgeS_iff.1 h).1; omega
theorem Re.ne {g : Gr} {gone : Int} {b : Nat} (h : Re g gone b) : (b : Int) ≠ gone := by
  cases h with
  | root _ h => exact fun e => h e.symm
  | step _ _ h => exact h
theorem Re.all {g : Gr} {gone : Int} {b : Nat} (h : Re g gone b) : Re g (-1) b := by
  induction h with
  | root h _ => exact .root h (by decide)
  | step _ h _ ih => exact .step ih h (by omega)

theorem outStep_le {gone : Int} {l : List Int} {i : Nat} {x : List Bool} : Le x (outStep gone l i x) := le_set fun h => by rw [h]; rfl
theorem outBlock_le {g : Gr} {gone : Int} {a : Nat} {x : List Bool} : Le x (outBlock g gone a x) := by
  unfold outBlock
  split
  · exact up_le (fun k x => outStep_le) x 0 _ (Nat.zero_le _)
  · exact Le.refl _
theorem outRound_le {g : Gr} {gone : Int} {x : List Bool} : Le x (outRound g gone x) := up_le (fun k x => outBlock_le) x 0 _ (Nat.zero_le _)

theorem up_invk {β : Type} (I : β → Prop) {f : Nat → β → β} {n : Nat} (hf : ∀ k x, k < n → I x → I (f k x)) {x : β} (hx : I x) : I (up f n x) := by
  have : ∀ m, m ≤ n → I (up f m x) := by
    intro m
    induction m with
    | zero => exact fun _ => hx
    | succ m ih => exact fun h => hf _ _ (by omega) (ih (by omega))
  exact this n (Nat.le_refl _)

theorem without_spec {g : Gr} {gone : Int} {b : Nat} : nth (withoutS g gone) b = true ↔ Re g gone b := by
  by_cases h0 : g.length = 0 ∨ gone = 0
  · rw [withoutS, if_pos h0]
    constructor
    · intro h
      rcases Nat.lt_or_ge b g.length with h1 | h1
      · rw [nth_replicate h1] at h; cases h
      · rw [nth_ge (by simpa using h1)] at h; cases h
    · intro h
      exfalso
      induction h with
      | root h1 h2 => rcases h0 with h0 | h0; omega; exact h2 h0
      | step _ _ _ ih => exact ih
  · rw [withoutS, if_neg h0]
    have hg : g.length ≠ 0 := fun e => h0 (.inl e)
    have hgone : gone ≠ 0 := fun e => h0 (.inr e)
    have hinit : ((List.replicate g.length false).set 0 true).length = g.length := by simp
    constructor
    · -- what is marked is reached
      have hI : ∀ x : List Bool, (∀ b, nth x b = true → Re g gone b) → ∀ b, nth (outRound g gone x) b = true → Re g gone b := by
        intro x hx
        refine up_invk (fun x : List Bool => ∀ b, nth x b = true → Re g gone b) (fun a x ha hx => ?_) hx
        unfold outBlock
        split
        · rename_i hxa
          have hra := hx a hxa
          refine up_invk (fun x : List Bool => ∀ b, nth x b = true → Re g gone b) (fun i x hi hx => ?_) hx
          intro b hb
          have hm := nth_mem hi
          have hed := mem_nextS.1 hm
          have hrng := (edgeS_iff.1 hed).1
          unfold outStep at hb
          rcases Nat.lt_or_ge b x.length with h1 | h1
          · rw [nth_set h1] at hb
            split at hb
            · rename_i e
              rcases (Bool.or_eq_true _ _).mp hb with h2 | h2
              · rw [e] at h2; exact hx b h2
              · have eb : (b : Int) = nth (nextS g a) i := by omega
                exact .step hra (by rw [eb]; exact hed) (by rw [eb]; simpa using h2)
            · exact hx b hb
          · rw [nth_ge (by simpa using h1)] at hb; cases hb
        · exact hx
      exact up_invk (fun x : List Bool => ∀ b, nth x b = true → Re g gone b) (fun _ x _ hx => hI x hx) (fun b hb => by
        rcases Nat.lt_or_ge b g.length with h1 | h1
        · rw [nth_set (by simpa using h1)] at hb
          split at hb
          · rename_i e; subst e; exact .root (by omega) hgone
          · rw [nth_replicate h1] at hb; cases hb
        · rw [nth_ge (by simpa using h1)] at hb; cases hb) b
    · -- what is reached is marked
      intro h
      have hfix := up_fix (F := outRound g gone) (fun x => outRound_le) g.length ((List.replicate g.length false).set 0 true) (by
        have := falses_le (t := List.replicate g.length false) (i := 0)
        have h2 : falses (List.replicate g.length false) = g.length := by simp [falses]
        omega)
      have hle := up_le (f := fun _ => outRound g gone) (fun _ x => outRound_le) ((List.replicate g.length false).set 0 true) 0 g.length (Nat.zero_le _)
      generalize up (fun _ => outRound g gone) g.length ((List.replicate g.length false).set 0 true) = x at hfix hle
      have hxl : x.length = g.length := hle.len.trans hinit
      induction h with
      | root h1 _ => exact hle.le 0 (by show nth ((List.replicate g.length false).set 0 true) 0 = true; rw [nth_set (by simpa using h1), if_pos rfl])
      | step ha he hb ih =>
        rename_i a b
        have hrng := (edgeS_iff.1 he).1
        have h1 := up_id (fun k x => outBlock_le) hfix a (by omega)
        rw [outBlock, if_pos ih] at h1
        obtain ⟨i, hi, e⟩ := List.getElem_of_mem (mem_nextS.2 he)
        have h2 := up_id (fun k x => outStep_le) h1 i hi
        rw [← nth_eq hi] at e
        unfold outStep at h2
        rw [e] at h2
        have h3 := congrArg (fun l => nth l b) h2
        simp only [Int.toNat_natCast] at h3
        rw [nth_set (by omega), if_pos rfl] at h3
        rw [← h3]
        simp [hb]
/-- Who dominates whom, by ways. -/
theorem domC_iff {g : Gr} {a b : Nat} : domC g a b = true ↔ Re g (-1) a ∧ Re g (-1) b ∧ ¬ Re g a b := by
  rw [domC]
  simp only [Bool.and_eq_true, Bool.or_eq_true, Bool.not_eq_true', decide_eq_true_eq, without_spec, Bool.eq_false_iff, ne_eq]
  constructor
  · rintro ⟨⟨h1, h2⟩, h3⟩
    refine ⟨h1, h2, ?_⟩
    rcases h3 with h3 | h3
    · exact fun h => h.ne h3.symm
    · exact h3
  · rintro ⟨h1, h2, h3⟩
    exact ⟨⟨h1, h2⟩, .inr h3⟩
end Go.Proofs.Ytaebcebflfgdiaa

/- Plain laws of graphs: what going over blocks, what comes behind first, tells. -/
namespace Go.Proofs.Ytaebcebflfgdiaa
open Go Go.Lft
set_option linter.unusedSimpArgs false
set_option linter.unusedVariables false

/-- One stands ahead of another one. -/
def Bef (l : List Int) (u v : Int) : Prop := ∃ p q, l = p ++ u :: q ∧ v ∈ q
theorem Bef.app {l : List Int} {u v : Int} (h : Bef l u v) (t : List Int) : Bef (l ++ t) u v := by
  obtain ⟨p, q, rfl, hv⟩ := h
  exact ⟨p, q ++ t, by simp, List.mem_append_left _ hv⟩
theorem Bef.pre {l : List Int} {u v : Int} (h : Bef l u v) (t : List Int) : Bef (t ++ l) u v := by
  obtain ⟨p, q, rfl, hv⟩ := h
  exact ⟨t ++ p, q, by simp, hv⟩
theorem Bef.cross {l t : List Int} {u v : Int} (hu : u ∈ l) (hv : v ∈ t) : Bef (l ++ t) u v := by
  obtain ⟨p, q, rfl⟩ := List.append_of_mem hu
  exact ⟨p, q ++ t, by simp, List.mem_append_right _ hv⟩
theorem Bef.mem {l : List Int} {u v : Int} (h : Bef l u v) : u ∈ l ∧ v ∈ l := by
  obtain ⟨p, q, rfl, hv⟩ := h
  exact ⟨by simp, by simp [hv]⟩

/-- A way on which each one stands behind the next one. -/
inductive Adv (nx : Int → List Int) (l : List Int) (u : Int) : Int → Prop
  | self : Adv nx l u u
  | step {p q : Int} : Adv nx l u p → q ∈ nx p → Bef l q p → Adv nx l u q
theorem Adv.app {nx : Int → List Int} {l : List Int} {u v : Int} (h : Adv nx l u v) (t : List Int) : Adv nx (l ++ t) u v := by
  induction h with
  | self => exact .self
  | step _ h1 h2 ih => exact .step ih h1 (h2.app t)
theorem Adv.pre {nx : Int → List Int} {l : List Int} {u v : Int} (h : Adv nx l u v) (t : List Int) : Adv nx (t ++ l) u v := by
  induction h with
  | self => exact .self
  | step _ h1 h2 ih => exact .step ih h1 (h2.pre t)
theorem Adv.trans {nx : Int → List Int} {l : List Int} {u v w : Int} (h : Adv nx l u v) (k : Adv nx l v w) : Adv nx l u w := by
  induction k with
  | self => exact h
  | step _ h1 h2 ih => exact .step ih h1 h2

def vis (s : List Bool × List Int) (x : Int) : Prop := nth s.1 x.toNat = true

/-- What a walk from a on has told. -/
structure Told (nx : Int → List Int) (m : Nat) (a : Int) (s s' : List Bool × List Int) (new : List Int) : Prop where
  out : s'.2 = s.2 ++ new
  len : s'.1.length = s.1.length
  nodup : new.Nodup
  visd : ∀ x, 0 ≤ x → (vis s' x ↔ vis s x ∨ x ∈ new)
  fresh : ∀ x ∈ new, ¬ vis s x ∧ 0 ≤ x ∧ x < m
  last : ∃ t, new = t ++ [a]
  clos : ∀ x ∈ new, ∀ y ∈ nx x, vis s' y
  par : ∀ x ∈ new, x ≠ a → ∃ p ∈ new, x ∈ nx p ∧ Bef new x p
  desc : ∀ x ∈ new, Adv nx new a x
  ret : ∀ x ∈ new, ∀ y ∈ nx x, y ∈ new → Bef new y x ∨ Adv nx new y x

/-- The same, while a itself is still open. -/
structure Half (nx : Int → List Int) (m : Nat) (a : Int) (k : Nat) (s s' : List Bool × List Int) (new : List Int) : Prop where
  out : s'.2 = s.2 ++ new
  len : s'.1.length = s.1.length
  nodup : new.Nodup
  visd : ∀ x, 0 ≤ x → (vis s' x ↔ vis s x ∨ x = a ∨ x ∈ new)
  fresh : ∀ x ∈ new, ¬ vis s x ∧ (0 ≤ x ∧ x < m) ∧ x ≠ a
  clos : ∀ x ∈ new, ∀ y ∈ nx x, vis s' y
  done : ∀ j, j < k → vis s' (nth (nx a) j)
  par : ∀ x ∈ new, x ∈ nx a ∨ ∃ p ∈ new, x ∈ nx p ∧ Bef new x p
  desc : ∀ x ∈ new, ∃ b ∈ new, b ∈ nx a ∧ Adv nx new b x
  ret : ∀ x ∈ new, ∀ y ∈ nx x, y ∈ new → Bef new y x ∨ Adv nx new y x

theorem over_told {nx : Int → List Int} {m : Nat} (hnx : ∀ a : Int, 0 ≤ a → a < m → ∀ y ∈ nx a, 0 ≤ y ∧ y < m) : ∀ (n : Nat) (a : Int) (s : List Bool × List Int), 0 ≤ a → a < m → s.1.length = m → nth s.1 a.toNat = false → falses s.1 ≤ n →
    ∃ new, Told nx m a s (overS nx n a s) new
  | 0, a, s, h0, h1, hl, hf, hc => by
    exfalso
    have := falses_set (t := s.1) (i := a.toNat) (by omega) hf
    omega
  | n + 1, a, s, h0, h1, hl, hf, hc => by
    have hfs := falses_set (t := s.1) (i := a.toNat) (by omega) hf
    rw [overS_succ]
    have half : ∀ k, k ≤ (nx a).length → ∃ new, Half nx m a k s (up (overStep nx n a) k (s.1.set a.toNat true, s.2)) new ∧ falses (up (overStep nx n a) k (s.1.set a.toNat true, s.2)).1 ≤ n := by
      intro k
      induction k with
      | zero =>
        intro _
        refine ⟨[], ⟨by simp [up], by simp [up], by simp, fun x hx => ?_, by simp, by simp, by simp, by simp, by simp, by simp⟩, by simp only [up]; omega⟩
        unfold vis
        show nth (s.1.set a.toNat true) x.toNat = true ↔ _
        rcases Nat.lt_or_ge x.toNat s.1.length with hlt | hge
        · rw [nth_set hlt]
          split
          · rename_i e
            have : x = a := by omega
            simp [this]
          · rename_i e
            have : x ≠ a := fun h => e (by rw [h])
            simp [this]
        · rw [nth_ge (by simpa using hge), nth_ge hge]
          have : x ≠ a := by omega
          simp [this]
      | succ k ih =>
        intro hk
        obtain ⟨new, H, hcn⟩ := ih (by omega)
        rw [up]
        generalize up (overStep nx n a) k (s.1.set a.toNat true, s.2) = z at H hcn
        have hb := hnx a h0 h1 (nth (nx a) k) (nth_mem (by omega))
        have hbm : nth (nx a) k ∈ nx a := nth_mem (by omega)
        have hzl : z.1.length = m := H.len.trans hl
        rw [overStep]
        split
        · rename_i hv
          refine ⟨new, { H with done := fun j hj => ?_ }, hcn⟩
          rcases Nat.lt_or_ge j k with h | h
          · exact H.done j h
          · obtain rfl : j = k := by omega
            exact hv
        · rename_i hv
          obtain ⟨new', T⟩ := over_told hnx n (nth (nx a) k) z hb.1 hb.2 hzl (by simpa using hv) hcn
          have hkeep := (overS_keeps (nx := nx) (m := m) (c := n) n (nth (nx a) k) z ⟨hzl, hcn⟩).2
          generalize overS nx n (nth (nx a) k) z = z' at T hkeep
          obtain ⟨t, ht⟩ := T.last
          have hbn : nth (nx a) k ∈ new' := by rw [ht]; simp
          have up : ∀ y, 0 ≤ y → vis z y → vis z' y := fun y hy h => (T.visd y hy).2 (.inl h)
          have hnv : ∀ x ∈ new, vis z x := fun x hx => (H.visd x (H.fresh x hx).2.1.1).2 (.inr (.inr hx))
          refine ⟨new ++ new', ⟨?_, ?_, ?_, ?_, ?_, ?_, ?_, ?_, ?_, ?_⟩, hkeep⟩
          · rw [T.out, H.out, List.append_assoc]
          · rw [T.len, H.len]
          · exact List.nodup_append.2 ⟨H.nodup, T.nodup, fun x hx y hy e => by subst e; exact (T.fresh x hy).1 (hnv x hx)⟩
          · intro x hx
            rw [T.visd x hx, H.visd x hx, List.mem_append]
            constructor
            · rintro ((h | h | h) | h)
              · exact .inl h
              · exact .inr (.inl h)
              · exact .inr (.inr (.inl h))
              · exact .inr (.inr (.inr h))
            · rintro (h | h | h | h)
              · exact .inl (.inl h)
              · exact .inl (.inr (.inl h))
              · exact .inl (.inr (.inr h))
              · exact .inr h
          · intro x hx
            rcases List.mem_append.1 hx with hx | hx
            · exact H.fresh x hx
            · obtain ⟨g1, g2⟩ := T.fresh x hx
              refine ⟨fun h => g1 ((H.visd x g2.1).2 (.inl h)), g2, fun e => g1 ((H.visd x g2.1).2 (.inr (.inl e)))⟩
          · intro x hx y hy
            rcases List.mem_append.1 hx with hx | hx
            · have hxr := (H.fresh x hx).2.1
              exact up y (hnx x hxr.1 hxr.2 y hy).1 (H.clos x hx y hy)
            · exact T.clos x hx y hy
          · intro j hj
            rcases Nat.lt_or_ge j k with h | h
            · exact up _ (hnx a h0 h1 _ (nth_mem (by omega))).1 (H.done j h)
            · obtain rfl : j = k := by omega
              exact (T.visd _ hb.1).2 (.inr hbn)
          · intro x hx
            rcases List.mem_append.1 hx with hx | hx
            · rcases H.par x hx with h | ⟨p, hp, h2, h3⟩
              · exact .inl h
              · exact .inr ⟨p, List.mem_append_left _ hp, h2, h3.app _⟩
            · by_cases e : x = nth (nx a) k
              · exact .inl (e ▸ hbm)
              · obtain ⟨p, hp, h2, h3⟩ := T.par x hx e
                exact .inr ⟨p, List.mem_append_right _ hp, h2, h3.pre _⟩
          · intro x hx
            rcases List.mem_append.1 hx with hx | hx
            · obtain ⟨b, hb, h2, h3⟩ := H.desc x hx
              exact ⟨b, List.mem_append_left _ hb, h2, h3.app _⟩
            · exact ⟨_, List.mem_append_right _ hbn, hbm, (T.desc x hx).pre _⟩
          · intro x hx y hy hyn
            rcases List.mem_append.1 hx with hx | hx <;> rcases List.mem_append.1 hyn with hyn | hyn
            · exact (H.ret x hx y hy hyn).imp (·.app _) (·.app _)
            · exact absurd (H.clos x hx y hy) (T.fresh y hyn).1
            · exact .inl (Bef.cross hyn hx)
            · exact (T.ret x hx y hy hyn).imp (·.pre _) (·.pre _)
    obtain ⟨new, H, hcn⟩ := half (nx a).length (Nat.le_refl _)
    generalize up (overStep nx n a) (nx a).length (s.1.set a.toNat true, s.2) = z at H hcn
    have hda : ∀ y ∈ nx a, vis z y := by
      intro y hy
      obtain ⟨j, hj, rfl⟩ := List.getElem_of_mem hy
      have := H.done j hj
      rwa [nth_eq hj] at this
    have hadv : ∀ x ∈ new, Adv nx (new ++ [a]) a x := by
      intro x hx
      obtain ⟨b, hb, h2, h3⟩ := H.desc x hx
      exact (Adv.step .self h2 (Bef.cross hb (by simp))).trans (h3.app _)
    refine ⟨new ++ [a], ⟨?_, H.len, ?_, ?_, ?_, ⟨new, rfl⟩, ?_, ?_, ?_, ?_⟩⟩
    · simp only [H.out, List.append_assoc]
    · refine List.nodup_append.2 ⟨H.nodup, by simp, fun x hx y hy e => ?_⟩
      simp only [List.mem_singleton] at hy
      exact (H.fresh x hx).2.2 (e.trans hy)
    · intro x hx
      show nth z.1 x.toNat = true ↔ _
      have := H.visd x hx
      unfold vis at this ⊢
      rw [this]
      simp only [List.mem_append, List.mem_singleton]
      constructor
      · rintro (h | h | h)
        · exact .inl h
        · exact .inr (.inr h)
        · exact .inr (.inl h)
      · rintro (h | h | h)
        · exact .inl h
        · exact .inr (.inr h)
        · exact .inr (.inl h)
    · intro x hx
      rcases List.mem_append.1 hx with hx | hx
      · exact ⟨(H.fresh x hx).1, (H.fresh x hx).2.1⟩
      · simp only [List.mem_singleton] at hx; subst hx
        exact ⟨by unfold vis; rw [hf]; simp, h0, h1⟩
    · intro x hx y hy
      rcases List.mem_append.1 hx with hx | hx
      · exact H.clos x hx y hy
      · simp only [List.mem_singleton] at hx; subst hx
        exact hda y hy
    · intro x hx hne
      rcases List.mem_append.1 hx with hx | hx
      · rcases H.par x hx with h | ⟨p, hp, h2, h3⟩
        · exact ⟨a, by simp, h, Bef.cross hx (by simp)⟩
        · exact ⟨p, List.mem_append_left _ hp, h2, h3.app _⟩
      · simp only [List.mem_singleton] at hx; exact absurd hx hne
    · intro x hx
      rcases List.mem_append.1 hx with hx | hx
      · exact hadv x hx
      · simp only [List.mem_singleton] at hx; subst hx; exact .self
    · intro x hx y hy hyn
      rcases List.mem_append.1 hyn with hn | hn
      · rcases List.mem_append.1 hx with hx | hx
        · exact (H.ret x hx y hy hn).imp (·.app _) (·.app _)
        · simp only [List.mem_singleton] at hx; subst hx
          exact .inl (Bef.cross hn (by simp))
      · simp only [List.mem_singleton] at hn; subst hn
        rcases List.mem_append.1 hx with hx | hx
        · exact .inr (hadv x hx)
        · simp only [List.mem_singleton] at hx; subst hx
          exact .inr .self
end Go.Proofs.Ytaebcebflfgdiaa

/- Plain laws: the nearest one above all, sweep by sweep, comes to the immediate dominators. Over plain numbers: no graph in sight. -/
namespace Go.Proofs.Ytaebcebflfgdiaa.Chk
set_option linter.unusedVariables false

/-- One that stands above another, or it itself. -/
inductive Anc (o : Nat → Nat) (x : Nat) : Nat → Prop
  | self : Anc o x x
  | up {b : Nat} : b ≠ 0 → Anc o x (o b) → Anc o x b

theorem anc_zero {o : Nat → Nat} {x : Nat} : Anc o x 0 ↔ x = 0 := by
  constructor
  · intro h
    cases h with
    | self => rfl
    | up h _ => exact absurd rfl h
  · rintro rfl; exact .self
theorem anc_iff {o : Nat → Nat} {x b : Nat} (hb : b ≠ 0) : Anc o x b ↔ x = b ∨ Anc o x (o b) := by
  constructor
  · intro h
    cases h with
    | self => exact .inl rfl
    | up _ h => exact .inr h
  · rintro (rfl | h)
    · exact .self
    · exact .up hb h
theorem Anc.trans {o : Nat → Nat} {x y b : Nat} (h : Anc o x y) (k : Anc o y b) : Anc o x b := by
  induction k with
  | self => exact h
  | up hb _ ih => exact .up hb ih
/-- Those above one stand above each other. -/
theorem Anc.total {o : Nat → Nat} {x y b : Nat} (h : Anc o x b) (k : Anc o y b) : Anc o x y ∨ Anc o y x := by
  induction h with
  | self => exact .inr k
  | up hb h ih =>
    cases k with
    | self => exact .inl (.up hb h)
    | up _ k => exact ih k

/-- What is given: the reached ones R, their places r, the edges E, one ahead of each one (f), and who dominates whom. -/
structure Ch (R : Nat → Prop) (r : Nat → Nat) (E : Nat → Nat → Prop) (f : Nat → Nat) (D : Nat → Nat → Prop) : Prop where
  inj : ∀ a b, R a → R b → r a = r b → a = b
  R0 : R 0
  r0 : r 0 = 0
  hf : ∀ x, R x → x ≠ 0 → R (f x) ∧ E (f x) x ∧ r (f x) < r x
  d1 : ∀ d b a, D d b → d ≠ b → E a b → R a → D d a
  d0 : ∀ d, D d 0 → d = 0

def Ok (Pr : Nat → Prop) (x : Nat) : Prop := x = 0 ∨ Pr x

structure Inv (R : Nat → Prop) (r : Nat → Nat) (E : Nat → Nat → Prop) (f : Nat → Nat) (D : Nat → Nat → Prop) (k : Nat) (o : Nat → Nat) (Pr : Nat → Prop) : Prop where
  pr : ∀ b, Pr b → R b ∧ b ≠ 0 ∧ Ok Pr (o b) ∧ r (o b) < r b
  all : ∀ b, R b → b ≠ 0 → r b < k → Pr b
  fok : ∀ b, Pr b → Ok Pr (f b)
  K : ∀ b, Pr b → ∀ x, (∀ a, E a b → R a → Ok Pr a → Anc o x a) → Anc o x (o b)
  FP : ∀ b, Pr b → ∀ y, Anc o y (o b) → k ≤ r y → Anc o y (f b)
  FP2 : ∀ b, Pr b → r b < k → Anc o (o b) (f b)
  S : ∀ b, Pr b → ∀ d, D d b → d ≠ b → Anc o d (o b)

section
variable {R : Nat → Prop} {r : Nat → Nat} {E : Nat → Nat → Prop} {f : Nat → Nat} {D : Nat → Nat → Prop} {k : Nat} {o : Nat → Nat} {Pr : Nat → Prop}

theorem Inv.okR (I : Inv R r E f D k o Pr) (C : Ch R r E f D) {x : Nat} (h : Ok Pr x) : R x := by
  rcases h with rfl | h
  · exact C.R0
  · exact (I.pr x h).1
/-- Those above one are all right, and ahead of it. -/
theorem Inv.anc (I : Inv R r E f D k o Pr) {x b : Nat} (h : Anc o x b) : Ok Pr b → Ok Pr x ∧ (x = b ∨ r x < r b) := by
  induction h with
  | self => exact fun hb => ⟨hb, .inl rfl⟩
  | up hb _ ih =>
    intro hok
    rcases hok with rfl | hp
    · exact absurd rfl hb
    · obtain ⟨_, _, h3, h4⟩ := I.pr _ hp
      obtain ⟨h5, h6⟩ := ih h3
      refine ⟨h5, .inr ?_⟩
      rcases h6 with rfl | h6
      · exact h4
      · omega
theorem Inv.dom (I : Inv R r E f D k o Pr) (C : Ch R r E f D) {d b : Nat} (hb : Ok Pr b) (h : D d b) : Anc o d b := by
  by_cases e : d = b
  · subst e; exact .self
  · rcases hb with rfl | hb
    · exact absurd (C.d0 d h) e
    · exact .up (I.pr b hb).2.1 (I.S b hb d h e)

/-- Another one above c. -/
def upd (o : Nat → Nat) (c q : Nat) : Nat → Nat := fun b => if b = c then q else o b
def add (Pr : Nat → Prop) (c : Nat) : Nat → Prop := fun b => b = c ∨ Pr b

theorem anc_same {c q x b : Nat} (h : ¬ Anc o c b) : Anc (upd o c q) x b ↔ Anc o x b := by
  constructor
  · intro k
    induction k with
    | self => exact .self
    | up hb k ih =>
      rename_i b
      have hne : b ≠ c := fun e => h (e ▸ .self)
      have e : upd o c q b = o b := by unfold upd; rw [if_neg hne]
      rw [e] at ih k
      exact .up hb (ih fun hc => h (.up hb hc))
  · intro k
    induction k with
    | self => exact .self
    | up hb k ih =>
      rename_i b
      have hne : b ≠ c := fun e => h (e ▸ .self)
      have e : upd o c q b = o b := by unfold upd; rw [if_neg hne]
      exact .up hb (by rw [e]; exact ih fun hc => h (.up hb hc))
theorem anc_at {c q x : Nat} (hc : c ≠ 0) (hq : ¬ Anc o c q) : Anc (upd o c q) x c ↔ x = c ∨ Anc o x q := by
  rw [anc_iff hc, show upd o c q c = q by simp [upd], anc_same hq]
theorem Inv.antisym (I : Inv R r E f D k o Pr) {x y : Nat} (hx : Ok Pr x) (hy : Ok Pr y) (h1 : Anc o x y) (h2 : Anc o y x) : x = y := by
  have e1 := (I.anc h1 hy).2
  have e2 := (I.anc h2 hx).2
  omega
theorem Inv.below (I : Inv R r E f D k o Pr) {c q x b : Nat} (hpc : Pr c) (hq : ¬ Anc o c q) (h : Anc o c b) : Ok Pr b → (Anc (upd o c q) x b ↔ (Anc o x b ∧ Anc o c x) ∨ Anc o x q) := by
  have hc := (I.pr c hpc).2.1
  induction h with
  | self =>
    intro hb
    rw [anc_at hc hq]
    constructor
    · rintro (rfl | h)
      · exact .inl ⟨.self, .self⟩
      · exact .inr h
    · rintro (⟨h1, h2⟩ | h)
      · exact .inl (I.antisym (I.anc h1 hb).1 hb h1 h2)
      · exact .inr h
  | up hb h ih =>
    rename_i b
    intro hok
    have hpb : Pr b := hok.resolve_left hb
    obtain ⟨_, _, h3, h4⟩ := I.pr b hpb
    have hne : b ≠ c := fun e => by
      subst e
      rcases (I.anc h h3).2 with e | e
      · rw [← e] at h4; omega
      · omega
    have e : upd o c q b = o b := by unfold upd; rw [if_neg hne]
    rw [anc_iff hb, e, ih h3, anc_iff hb]
    constructor
    · rintro (rfl | ⟨h1, h2⟩ | h1)
      · exact .inl ⟨.inl rfl, .up hb h⟩
      · exact .inl ⟨.inr h1, h2⟩
      · exact .inr h1
    · rintro (⟨rfl | h1, h2⟩ | h1)
      · exact .inl rfl
      · exact .inr (.inl ⟨h1, h2⟩)
      · exact .inr (.inr h1)

/-- What comes of c's turn: q: what stands above all from which one comes to c. -/
structure Turn (R : Nat → Prop) (r : Nat → Nat) (E : Nat → Nat → Prop) (o : Nat → Nat) (Pr : Nat → Prop) (c q : Nat) : Prop where
  ok : Ok Pr q
  q : ∀ x, Anc o x q ↔ ∀ a, E a c → R a → Ok Pr a → Anc o x a

theorem Inv.fc (I : Inv R r E f D k o Pr) (C : Ch R r E f D) {c : Nat} (hR : R c) (hc : c ≠ 0) (hk : r c = k) : Ok Pr (f c) := by
  obtain ⟨h1, _, h3⟩ := C.hf c hR hc
  by_cases e : f c = 0
  · exact .inl e
  · exact .inr (I.all _ h1 e (by omega))

theorem Turn.lt {c q : Nat} (T : Turn R r E o Pr c q) (I : Inv R r E f D k o Pr) (C : Ch R r E f D) (hR : R c) (hc : c ≠ 0) (hk : r c = k) : r q < r c ∧ Anc o q (f c) := by
  obtain ⟨h1, h2, h3⟩ := C.hf c hR hc
  have h4 := (T.q q).1 .self (f c) h2 h1 (I.fc C hR hc hk)
  have := (I.anc h4 (I.fc C hR hc hk)).2
  refine ⟨?_, h4⟩
  rcases this with e | e
  · rw [e]; exact h3
  · omega

theorem Inv.turn (I : Inv R r E f D k o Pr) (C : Ch R r E f D) {c q : Nat} (hR : R c) (hc : c ≠ 0) (hk : r c = k) (T : Turn R r E o Pr c q) : Inv R r E f D (k + 1) (upd o c q) (add Pr c) := by
  obtain ⟨f1, f2, f3⟩ := C.hf c hR hc
  have hfok := I.fc C hR hc hk
  obtain ⟨hlt, hqf⟩ := T.lt I C hR hc hk
  have hq : ¬ Anc o c q := fun h => by
    have := (I.anc h T.ok).2
    rcases this with e | e
    · rw [e] at hlt; omega
    · omega
  have hcf : ¬ Anc o c (f c) := fun h => by
    have := (I.anc h hfok).2
    rcases this with e | e
    · rw [← e] at f3; omega
    · omega
  have okm : ∀ x, Ok Pr x → Ok (add Pr c) x := fun x h => h.imp id .inr
  have up_ne : ∀ b, b ≠ c → upd o c q b = o b := fun b hb => by unfold upd; rw [if_neg hb]
  have up_c : upd o c q c = q := by simp [upd]
  -- whoever stood below c had been all right, so c had been
  have hpc : ∀ b, Ok Pr b → Anc o c b → Pr c := fun b hb h => ((I.anc h hb).1).resolve_left hc
  have mono : ∀ b, Ok Pr b → ∀ x, Anc (upd o c q) x b → Anc o x b := by
    intro b hb x h
    by_cases hcb : Anc o c b
    · have hp := hpc b hb hcb
      rcases (I.below hp hq hcb hb).1 h with ⟨h1, _⟩ | h1
      · exact h1
      · exact (Anc.up hc (I.K c hp x ((T.q x).1 h1))).trans hcb
    · exact (anc_same hcb).1 h
  -- what stood above a one below c, and not above c's own, stands so
  have stay : ∀ b, Ok Pr b → ∀ x, Anc o x b → (Anc o c b → Anc o c x ∨ Anc o x q) → Anc (upd o c q) x b := by
    intro b hb x h h2
    by_cases hcb : Anc o c b
    · refine (I.below (hpc b hb hcb) hq hcb hb).2 ?_
      rcases h2 hcb with h3 | h3
      · exact .inl ⟨h, h3⟩
      · exact .inr h3
    · exact (anc_same hcb).2 h
  -- who dominates one below c, and stands above c, dominates c
  have domc : ∀ n b, r b ≤ n → Ok Pr b → Anc o c b → ∀ d, D d b → r d < r c → D d c := by
    intro n
    induction n with
    | zero =>
      intro b hb hok hcb d hd hlt
      have := (I.anc hcb hok).2
      rcases this with rfl | h
      · exact hd
      · omega
    | succ n ih =>
      intro b hb hok hcb d hd hlt
      by_cases e : c = b
      · subst e; exact hd
      · have hb0 : b ≠ 0 := fun e0 => by subst e0; exact e (anc_zero.1 hcb)
        have hpb := hok.resolve_left hb0
        have hcb' : Anc o c (o b) := ((anc_iff hb0).1 hcb).resolve_left e
        obtain ⟨g1, g2, g3⟩ := C.hf b (I.pr b hpb).1 hb0
        have hlb := (I.anc hcb hok).2
        have hdb : d ≠ b := fun e2 => by subst e2; omega
        exact ih (f b) (by omega) (I.fok b hpb) (I.FP b hpb c hcb' (by omega)) d (C.d1 d b (f b) hd hdb g2 g1) hlt
  have domq : ∀ d, D d c → d ≠ c → Anc o d q := by
    intro d hd hne
    refine (T.q d).2 fun a ha hRa hoka => ?_
    exact I.dom C hoka (C.d1 d c a hd hne ha hRa)
  refine ⟨?_, ?_, ?_, ?_, ?_, ?_, ?_⟩
  · rintro b (rfl | hb)
    · rw [up_c]; exact ⟨hR, hc, okm _ T.ok, hlt⟩
    · by_cases e : b = c
      · subst e; rw [up_c]; exact ⟨hR, hc, okm _ T.ok, hlt⟩
      · rw [up_ne b e]
        obtain ⟨h1, h2, h3, h4⟩ := I.pr b hb
        exact ⟨h1, h2, okm _ h3, h4⟩
  · intro b hRb hb0 hlt
    by_cases e : r b = k
    · exact .inl (C.inj b c hRb hR (by omega))
    · exact .inr (I.all b hRb hb0 (by omega))
  · rintro b (rfl | hb)
    · exact okm _ hfok
    · exact okm _ (I.fok b hb)
  · intro b hb x hx
    have hx' : ∀ a, E a b → R a → Ok Pr a → Anc o x a := fun a h1 h2 h3 => mono a h3 x (hx a h1 h2 (okm a h3))
    by_cases e : b = c
    · subst e
      rw [up_c, anc_same hq]
      exact (T.q x).2 hx'
    · have hpb : Pr b := hb.resolve_left e
      rw [up_ne b e]
      obtain ⟨h1, h2, h3, h4⟩ := I.pr b hpb
      have hxo := I.K b hpb x hx'
      refine stay (o b) h3 x hxo fun hco => ?_
      rcases Anc.total hxo hco with h5 | h5
      · -- x above c: by the one ahead of b
        obtain ⟨g1, g2, g3⟩ := C.hf b h1 h2
        have hcf2 := I.FP b hpb c hco (by omega)
        have hxf := hx (f b) g2 g1 (okm _ (I.fok b hpb))
        rcases (I.below (hpc _ h3 hco) hq hcf2 (I.fok b hpb)).1 hxf with ⟨_, h6⟩ | h6
        · exact .inl h6
        · exact .inr h6
      · exact .inl h5
  · intro b hb y hy hky
    by_cases e : b = c
    · subst e
      rw [up_c, anc_same hq] at hy
      exact (anc_same hcf).2 (hy.trans hqf)
    · have hpb : Pr b := hb.resolve_left e
      rw [up_ne b e] at hy
      obtain ⟨h1, h2, h3, h4⟩ := I.pr b hpb
      have hyf := I.FP b hpb y (mono _ h3 y hy) (by omega)
      refine stay (f b) (I.fok b hpb) y hyf fun hcf2 => ?_
      rcases Anc.total hyf hcf2 with h5 | h5
      · exfalso
        have := (I.anc h5 (.inr (hpc _ (I.fok b hpb) hcf2))).2
        rcases this with e2 | e2
        · subst e2; omega
        · omega
      · exact .inl h5
  · intro b hb hlt
    by_cases e : b = c
    · subst e
      rw [up_c]
      exact (anc_same hcf).2 hqf
    · have hpb : Pr b := hb.resolve_left e
      rw [up_ne b e]
      obtain ⟨h1, h2, h3, h4⟩ := I.pr b hpb
      obtain ⟨g1, g2, g3⟩ := C.hf b h1 h2
      have hbk : r b < k := by
        rcases Nat.lt_or_ge (r b) k with h | h
        · exact h
        · exact absurd (C.inj b c h1 hR (by omega)) e
      have h5 := I.FP2 b hpb hbk
      refine (anc_same fun hcf2 => ?_).2 h5
      have := (I.anc hcf2 (I.fok b hpb)).2
      rcases this with e2 | e2
      · rw [← e2] at g3; omega
      · omega
  · intro b hb d hd hne
    by_cases e : b = c
    · subst e
      rw [up_c, anc_same hq]
      exact domq d hd hne
    · have hpb : Pr b := hb.resolve_left e
      rw [up_ne b e]
      obtain ⟨h1, h2, h3, h4⟩ := I.pr b hpb
      have hdo := I.S b hpb d hd hne
      refine stay (o b) h3 d hdo fun hco => ?_
      rcases Anc.total hdo hco with h5 | h5
      · have hpcc := hpc _ h3 hco
        rcases (I.anc h5 (.inr hpcc)).2 with e2 | e2
        · subst e2; exact .inl .self
        · exact .inr (domq d (domc (r b) b (Nat.le_refl _) (.inr hpb) (.up h2 hco) d hd e2) fun e3 => by subst e3; omega)
      · exact .inl h5

/-- A sweep has come to its end: another one begins. -/
theorem Inv.again (I : Inv R r E f D k o Pr) (hk : ∀ b, R b → r b < k) : Inv R r E f D 0 o Pr := by
  refine ⟨I.pr, fun b hR h0 h => I.all b hR h0 (hk b hR), I.fok, I.K, fun b hb y hy _ => ?_, fun b _ h => absurd h (by omega), I.S⟩
  exact hy.trans (I.FP2 b hb (hk b (I.pr b hb).1))

/-- Nothing is there yet. -/
theorem Inv.start : Inv R r E f D 0 o (fun _ => False) :=
  ⟨fun _ h => h.elim, fun _ _ _ h => absurd h (by omega), fun _ h => h.elim, fun _ h => h.elim, fun _ h => h.elim, fun _ h => h.elim, fun _ h => h.elim⟩

/-- One above c that had one moves up alone. -/
theorem Inv.rises (I : Inv R r E f D k o Pr) {c q : Nat} (T : Turn R r E o Pr c q) (hp : Pr c) : q = o c ∨ r q < r (o c) := by
  have := I.K c hp q ((T.q q).1 .self)
  exact (I.anc this (I.pr c hp).2.2.1).2
end
end Go.Proofs.Ytaebcebflfgdiaa.Chk

/- Plain laws of graphs: the order; places in it. -/
namespace Go.Proofs.Ytaebcebflfgdiaa
open Go Go.Lft Chk
set_option linter.unusedSimpArgs false
set_option linter.unusedVariables false

theorem up_congr {β : Type} {f k : Nat → β → β} {n : Nat} (I : β → Prop) (h : ∀ i x, i < n → I x → f i x = k i x) (hI : ∀ i x, i < n → I x → I (f i x)) {x : β} (hx : I x) : up f n x = up k n x := by
  have key : ∀ m, m ≤ n → up f m x = up k m x ∧ I (up f m x) := by
    intro m
    induction m with
    | zero => exact fun _ => ⟨rfl, hx⟩
    | succ m ih =>
      intro hm
      obtain ⟨h1, h2⟩ := ih (by omega)
      exact ⟨by rw [up, up, ← h1, h m _ (by omega) h2], hI _ _ (by omega) h2⟩
  exact (key n (Nat.le_refl _)).1
theorem overS_congr {nx nx' : Int → List Int} {m : Nat} (hnx : ∀ a : Int, 0 ≤ a → a < m → nx a = nx' a ∧ ∀ y ∈ nx a, 0 ≤ y ∧ y < m) : ∀ (n : Nat) (a : Int) (s : List Bool × List Int), 0 ≤ a → a < m → overS nx n a s = overS nx' n a s
  | 0, _, _, _, _ => rfl
  | n + 1, a, s, h0, h1 => by
    obtain ⟨e, hr⟩ := hnx a h0 h1
    rw [overS_succ, overS_succ, ← e]
    have : up (overStep nx n a) (nx a).length (s.1.set a.toNat true, s.2) = up (overStep nx' n a) (nx a).length (s.1.set a.toNat true, s.2) := by
      refine up_congr (fun _ => True) (fun i x hi _ => ?_) (fun _ _ _ _ => trivial) trivial
      unfold overStep
      rw [← e]
      obtain ⟨g0, g1⟩ := hr _ (nth_mem hi)
      rw [overS_congr hnx n _ x g0 g1]
    rw [this]
theorem nextS_rng {g : Gr} {a y : Int} (h : y ∈ nextS g a) : 0 ≤ y ∧ y < g.length := by
  have := (edgeS_iff.1 (mem_nextS.1 h)).1; omega
theorem nx_next {g : Gr} {a : Int} (h0 : 0 ≤ a) (h1 : a < g.length) : nx (cleanS g) a = nextS g a := by
  unfold nx
  rw [clean_next (by omega), Int.toNat_of_nonneg h0]
/-- The order is the document's. -/
theorem order_eq {g : Gr} : gOrderS g = orderS (nextS g) g.length := by
  unfold gOrderS orderS
  split
  · rfl
  · rw [overS_congr (m := g.length) (fun a h0 h1 => ⟨nx_next h0 h1, fun y hy => nextS_rng (by rwa [nx_next h0 h1] at hy)⟩) _ _ _ (by omega) (by omega)]

/-- What the order is. -/
structure Ord (g : Gr) (order : List Int) : Prop where
  nodup : order.Nodup
  mem : ∀ x : Nat, (x : Int) ∈ order ↔ Re g (-1) x
  rng : ∀ x ∈ order, 0 ≤ x ∧ x < g.length
  head : order[0]? = some 0
  par : ∀ x ∈ order, x ≠ 0 → ∃ p ∈ order, edgeS g p x = true ∧ order.idxOf p < order.idxOf x
  ret : ∀ x ∈ order, ∀ y ∈ order, edgeS g x y = true → order.idxOf y ≤ order.idxOf x → ∃ l, Adv (nextS g) l y x ∧ ∀ u v, Bef l u v → order.idxOf v < order.idxOf u

theorem idxOf_bef {l : List Int} (hn : l.Nodup) {u v : Int} (h : Bef l u v) : l.reverse.idxOf v < l.reverse.idxOf u := by
  obtain ⟨p, q, rfl, hv⟩ := h
  have hu : u ∉ q := by
    have := (List.nodup_append.1 hn).2.1
    exact (List.nodup_cons.1 this).1
  rw [List.reverse_append, List.reverse_cons, List.append_assoc]
  have h1 : (q.reverse ++ ([u] ++ p.reverse)).idxOf v < q.reverse.length := by
    rw [List.idxOf_append, if_pos (by simpa using hv)]
    exact List.idxOf_lt_length_of_mem (by simpa using hv)
  have h2 : (q.reverse ++ ([u] ++ p.reverse)).idxOf u = q.reverse.length := by
    rw [List.idxOf_append, if_neg (by simpa using hu)]
    simp
  omega

theorem order_is {g : Gr} (hg : 0 < g.length) : Ord g (gOrderS g) := by
  have hT := over_told (nx := nextS g) (m := g.length) (fun a _ _ y hy => nextS_rng hy) g.length 0 (List.replicate g.length false, []) (by omega) (by omega) (by simp) (nth_replicate (by simpa using hg)) (by simp [falses])
  have ho : gOrderS g = (overS (nextS g) g.length 0 (List.replicate g.length false, [])).2.reverse := by
    rw [order_eq, orderS, if_neg (by omega)]
  obtain ⟨new, T⟩ := hT
  have hout := T.out
  simp only [List.nil_append] at hout
  rw [ho, hout]
  have hv0 : ∀ x : Int, ¬ vis (List.replicate g.length false, ([] : List Int)) x := by
    intro x h
    unfold vis at h
    simp only at h
    rcases Nat.lt_or_ge x.toNat g.length with h1 | h1
    · rw [nth_replicate h1] at h; cases h
    · rw [nth_ge (by simpa using h1)] at h; cases h
  have hvis : ∀ x, 0 ≤ x → (vis (overS (nextS g) g.length 0 (List.replicate g.length false, [])) x ↔ x ∈ new) := fun x hx => by
    rw [T.visd x hx]
    exact ⟨fun h => h.resolve_left (hv0 x), .inr⟩
  obtain ⟨t, ht⟩ := T.last
  have h0 : (0 : Int) ∈ new := by rw [ht]; simp
  have hre : ∀ x ∈ new, Re g (-1) x.toNat := by
    intro x hx
    have := T.desc x hx
    clear hx
    induction this with
    | self => exact .root hg (by decide)
    | step _ h1 h2 ih =>
      have hpr := T.fresh _ h2.mem.2
      have hqr := T.fresh _ h2.mem.1
      have he := mem_nextS.1 h1
      refine .step ih ?_ (by omega)
      rwa [Int.toNat_of_nonneg hpr.2.1, Int.toNat_of_nonneg hqr.2.1]
  refine ⟨by simpa [List.Nodup, List.pairwise_reverse, ne_comm] using T.nodup, fun x => ?_, fun x hx => (T.fresh x (by simpa using hx)).2, ?_, ?_, ?_⟩
  · rw [List.mem_reverse]
    constructor
    · intro h; simpa using hre x h
    · intro h
      induction h with
      | root _ _ => exact h0
      | step _ he _ ih =>
        exact (hvis _ (by omega)).1 (T.clos _ ih _ (mem_nextS.2 he))
  · rw [ht, List.reverse_append]; rfl
  · intro x hx hne
    obtain ⟨p, hp, h1, h2⟩ := T.par x (by simpa using hx) hne
    exact ⟨p, by simpa using hp, mem_nextS.1 h1, idxOf_bef T.nodup h2⟩
  · intro x hx y hy he hle
    rcases T.ret x (by simpa using hx) y (mem_nextS.2 he) (by simpa using hy) with h | h
    · have := idxOf_bef T.nodup h
      omega
    · exact ⟨new, h, fun u v huv => idxOf_bef T.nodup huv⟩

/-! ### Places -/
theorem number_spec {n : Nat} {order : List Int} (hn : order.Nodup) (hr : ∀ x ∈ order, 0 ≤ x ∧ x < (n : Int)) {x : Nat} (hx : x < n) : nth (numberS n order) x = if (x : Int) ∈ order then (order.idxOf (x : Int) : Int) else -1 := by
  have key : ∀ k, k ≤ order.length → (up (fun i l => l.set (nth order i).toNat (i : Int)) k (List.replicate n (-1))).length = n ∧ nth (up (fun i l => l.set (nth order i).toNat (i : Int)) k (List.replicate n (-1))) x = if (x : Int) ∈ order.take k then (order.idxOf (x : Int) : Int) else -1 := by
    intro k
    induction k with
    | zero => intro _; exact ⟨by simp [up], by rw [up, nth_replicate hx]; simp⟩
    | succ k ih =>
      intro hk
      obtain ⟨h1, h2⟩ := ih (by omega)
      rw [up]
      refine ⟨by simpa using h1, ?_⟩
      rw [nth_set (by omega), List.take_succ_eq_append_getElem (by omega), h2]
      have hmem : order[k] ∈ order := List.getElem_mem _
      have hrk := hr _ hmem
      rw [nth_eq (show k < order.length by omega)]
      by_cases e : order[k].toNat = x
      · have e2 : order[k] = (x : Int) := by omega
        rw [if_pos e, if_pos (by rw [← e2]; exact List.mem_append_right _ (List.mem_singleton.2 rfl)), ← e2, List.Nodup.idxOf_getElem hn]
      · rw [if_neg e]
        have e2 : ¬ (x : Int) = order[k] := fun h => e (by omega)
        simp only [List.mem_append, List.mem_singleton, e2, or_false]
  have := (key order.length (Nat.le_refl _)).2
  rw [List.take_of_length_le (Nat.le_refl _)] at this
  exact this
end Go.Proofs.Ytaebcebflfgdiaa

/- Plain laws of graphs: the code's immediate dominators. -/
namespace Go.Proofs.Ytaebcebflfgdiaa
open Go Go.Lft Chk
set_option linter.unusedSimpArgs false
set_option linter.unusedVariables false

def st (out : List Int) : Nat → Nat := fun b => (nth out b).toNat
def pd (out : List Int) : Nat → Prop := fun b => b < out.length ∧ 0 ≤ nth out b
def rk (g : Gr) (x : Nat) : Nat := (gOrderS g).idxOf (x : Int)
def Eg (g : Gr) (a b : Nat) : Prop := edgeS g a b = true
def Dm (g : Gr) (d b : Nat) : Prop := domC g d b = true
def Rg (g : Gr) (x : Nat) : Prop := Re g (-1) x

section
variable {g : Gr}

theorem rk_lt {x : Nat} (h : Rg g x) : rk g x < (gOrderS g).length := List.idxOf_lt_length_of_mem (((order_is (Nat.lt_of_le_of_lt (Nat.zero_le _) h.lt)).mem x).2 h)
theorem Rg.pos {x : Nat} (h : Rg g x) : 0 < g.length := Nat.lt_of_le_of_lt (Nat.zero_le _) h.lt
theorem rk_n {x : Nat} (h : Rg g x) : rk g x < g.length := Nat.lt_of_lt_of_le (rk_lt h) gOrder_len
theorem rk_inj {a b : Nat} (ha : Rg g a) (hb : Rg g b) (h : rk g a = rk g b) : a = b := by
  have O := order_is ha.pos
  have h1 := List.getElem_idxOf (rk_lt ha)
  have h2 := List.getElem_idxOf (rk_lt hb)
  have : (a : Int) = (b : Int) := by rw [← h1, ← h2]; congr 1
  omega
theorem rk_zero (hg : 0 < g.length) : rk g 0 = 0 := by
  have O := order_is hg
  unfold rk
  have hl : 0 < (gOrderS g).length := by
    have := O.head
    rcases Nat.eq_zero_or_pos (gOrderS g).length with h | h
    · rw [List.eq_nil_of_length_eq_zero h] at this; cases this
    · exact h
  have h0 := O.head
  rw [List.getElem?_eq_getElem hl] at h0
  have h1 : (gOrderS g)[0] = 0 := Option.some.inj h0
  have := List.Nodup.idxOf_getElem O.nodup 0 hl
  rw [h1] at this
  exact this
theorem number_in {x : Nat} (h : Rg g x) : nth (numberS g.length (gOrderS g)) x = (rk g x : Int) := by
  have O := order_is h.pos
  rw [number_spec O.nodup O.rng h.lt, if_pos ((O.mem x).2 h)]; rfl
theorem number_out {x : Nat} (hx : x < g.length) (h : ¬ Rg g x) : nth (numberS g.length (gOrderS g)) x = -1 := by
  have O := order_is (g := g) (by omega)
  rw [number_spec O.nodup O.rng hx, if_neg fun e => h ((O.mem x).1 e)]

theorem has_par (hg : 0 < g.length) : ∃ f : Nat → Nat, ∀ x, Rg g x → x ≠ 0 → Rg g (f x) ∧ Eg g (f x) x ∧ rk g (f x) < rk g x := by
  have O := order_is hg
  have : ∀ x, ∃ p, Rg g x → x ≠ 0 → Rg g p ∧ Eg g p x ∧ rk g p < rk g x := by
    intro x
    by_cases h : Rg g x ∧ x ≠ 0
    · obtain ⟨p, hp, h1, h2⟩ := O.par x ((O.mem x).2 h.1) (by omega)
      have hr := O.rng p hp
      have e : ((p.toNat : Nat) : Int) = p := Int.toNat_of_nonneg hr.1
      refine ⟨p.toNat, fun _ _ => ⟨(O.mem _).1 (by rw [e]; exact hp), by unfold Eg; rw [e]; exact h1, by unfold rk; rw [e]; exact h2⟩⟩
    · exact ⟨0, fun h1 h2 => absurd ⟨h1, h2⟩ h⟩
  exact ⟨fun x => (this x).choose, fun x => (this x).choose_spec⟩
theorem ch_of (hg : 0 < g.length) {f : Nat → Nat} (hf : ∀ x, Rg g x → x ≠ 0 → Rg g (f x) ∧ Eg g (f x) x ∧ rk g (f x) < rk g x) : Ch (Rg g) (rk g) (Eg g) f (Dm g) where
  inj := fun a b ha hb h => rk_inj ha hb h
  R0 := .root hg (by decide)
  r0 := rk_zero hg
  hf := hf
  d1 := fun d b a hd hne he ha => by
    obtain ⟨h1, h2, h3⟩ := domC_iff.1 hd
    exact domC_iff.2 ⟨h1, ha, fun h => h3 (.step h he (by omega))⟩
  d0 := fun d hd => by
    obtain ⟨h1, h2, h3⟩ := domC_iff.1 hd
    rcases Nat.eq_zero_or_pos d with h | h
    · exact h
    · exact absurd (.root hg (by omega)) h3

/-- The list bears the state. -/
structure Good (g : Gr) (f : Nat → Nat) (k : Nat) (out : List Int) : Prop where
  len : out.length = g.length
  rng : ∀ b, b < g.length → nth out b = -1 ∨ (0 ≤ nth out b ∧ nth out b < g.length)
  inv : Inv (Rg g) (rk g) (Eg g) f (Dm g) k (st out) (pd out)

variable {f : Nat → Nat} {k : Nat} {out : List Int}
theorem Good.ok_lt (G : Good g f k out) (C : Ch (Rg g) (rk g) (Eg g) f (Dm g)) {x : Nat} (h : Ok (pd out) x) : Rg g x ∧ x < g.length := ⟨G.inv.okR C h, (G.inv.okR C h).lt⟩

theorem common_spec (G : Good g f k out) (C : Ch (Rg g) (rk g) (Eg g) f (Dm g)) : ∀ (fuel a b : Nat), Ok (pd out) a → Ok (pd out) b → rk g a + rk g b < fuel →
    ∃ c : Nat, commonS out (numberS g.length (gOrderS g)) fuel a b = some (c : Int) ∧ Ok (pd out) c ∧ ∀ x, Anc (st out) x c ↔ Anc (st out) x a ∧ Anc (st out) x b
  | 0, a, b, _, _, h => by omega
  | fuel + 1, a, b, ha, hb, h => by
    obtain ⟨ra, la⟩ := G.ok_lt C ha
    obtain ⟨rb, lb⟩ := G.ok_lt C hb
    have hg := ra.pos
    have hnl : (numberS g.length (gOrderS g)).length = g.length := by rw [numberS, up_keep List.length (fun _ _ => by simp)]; simp
    have hol := G.len
    rw [commonS, if_pos (by omega), Int.toNat_natCast, Int.toNat_natCast, number_in ra, number_in rb]
    have step : ∀ a b : Nat, Ok (pd out) a → Ok (pd out) b → rk g b < rk g a → a ≠ 0 ∧ nth out a = ((st out a : Nat) : Int) ∧ Ok (pd out) (st out a) ∧ rk g (st out a) < rk g a ∧ ∀ x, Anc (st out) x (st out a) ∧ Anc (st out) x b ↔ Anc (st out) x a ∧ Anc (st out) x b := by
      intro a b ha hb hlt
      have ha0 : a ≠ 0 := fun e => by subst e; rw [rk_zero hg] at hlt; omega
      have hpa := ha.resolve_left ha0
      obtain ⟨_, _, h3, h4⟩ := G.inv.pr a hpa
      refine ⟨ha0, (Int.toNat_of_nonneg hpa.2).symm, h3, h4, fun x => ⟨fun ⟨h5, h6⟩ => ⟨.up ha0 h5, h6⟩, fun ⟨h5, h6⟩ => ⟨?_, h6⟩⟩⟩
      rcases (anc_iff ha0).1 h5 with rfl | h7
      · have := (G.inv.anc h6 hb).2
        rcases this with e | e
        · subst e; omega
        · omega
      · exact h7
    by_cases h1 : rk g b < rk g a
    · rw [if_pos (by omega)]
      obtain ⟨ha0, e, h3, h4, h5⟩ := step a b ha hb h1
      rw [e]
      obtain ⟨c, h6, h7, h8⟩ := common_spec G C fuel (st out a) b h3 hb (by omega)
      exact ⟨c, h6, h7, fun x => (h8 x).trans (h5 x)⟩
    · rw [if_neg (by omega)]
      by_cases h2 : rk g a < rk g b
      · rw [if_pos (by omega)]
        obtain ⟨hb0, e, h3, h4, h5⟩ := step b a hb ha h2
        rw [e]
        obtain ⟨c, h6, h7, h8⟩ := common_spec G C fuel a (st out b) ha h3 (by omega)
        exact ⟨c, h6, h7, fun x => (h8 x).trans (by rw [and_comm, h5 x, and_comm])⟩
      · rw [if_neg (by omega)]
        have e : a = b := rk_inj ra rb (by omega)
        subst e
        exact ⟨a, rfl, ha, fun x => by simp⟩

/-- What has been looked at comes to one, or there was nothing. -/
def Bst (out : List Int) (best : Int) (Q : Nat → Prop) : Prop :=
  (best = -1 ∧ ∀ a, ¬ Q a) ∨ ∃ c : Nat, best = (c : Int) ∧ Ok (pd out) c ∧ (∃ a, Q a) ∧ ∀ x, Anc (st out) x c ↔ ∀ a, Q a → Anc (st out) x a
def Cons (g : Gr) (out : List Int) (a : Nat) : Prop := Rg g a ∧ Ok (pd out) a

theorem bst_congr {best : Int} {Q Q' : Nat → Prop} (h : ∀ a, Q a ↔ Q' a) (b : Bst out best Q) : Bst out best Q' := by
  have : Q = Q' := funext fun a => propext (h a)
  rw [← this]; exact b
theorem bst_spec (G : Good g f k out) (C : Ch (Rg g) (rk g) (Eg g) f (Dm g)) : ∀ (l : List Int) (best : Int) (Q : Nat → Prop), Bst out best Q → (∀ a ∈ l, 0 ≤ a ∧ a < (g.length : Int)) →
    ∃ best', bstS out (numberS g.length (gOrderS g)) g.length l best = some best' ∧ Bst out best' fun a => Q a ∨ ((a : Int) ∈ l ∧ Cons g out a)
  | [], best, Q, hB, _ => ⟨best, rfl, bst_congr (fun a => by simp) hB⟩
  | a :: l, best, Q, hB, hl => by
    obtain ⟨h0, h1⟩ := hl a (List.mem_cons_self ..)
    have hl' := fun x hx => hl x (List.mem_cons_of_mem _ hx)
    obtain ⟨n, rfl⟩ := Int.eq_ofNat_of_zero_le h0
    have hn : n < g.length := by omega
    have hol := G.len
    rw [bstS, if_pos ⟨h0, h1⟩, Int.toNat_natCast]
    have hcons : (nth (numberS g.length (gOrderS g)) n < 0 ∨ ((n : Int) ≠ 0 ∧ nth out n < 0)) ↔ ¬ Cons g out n := by
      by_cases hr : Rg g n
      · rw [number_in hr]
        constructor
        · rintro (h | ⟨h2, h3⟩)
          · omega
          · rintro ⟨_, h4 | h4⟩
            · omega
            · have := h4.2; omega
        · intro h
          right
          refine ⟨fun e => h ⟨hr, .inl (by omega)⟩, ?_⟩
          rcases Int.lt_or_le (nth out n) 0 with h2 | h2
          · exact h2
          · exact absurd ⟨hr, .inr ⟨by omega, h2⟩⟩ h
      · rw [number_out hn hr]
        exact ⟨fun _ h => hr h.1, fun _ => .inl (by omega)⟩
    by_cases hc : Cons g out n
    · rw [if_neg fun h => hcons.1 h hc]
      rcases hB with ⟨rfl, hQ⟩ | ⟨c, rfl, hok, hex, hq⟩
      · rw [if_pos (by decide)]
        obtain ⟨b', h2, h3⟩ := bst_spec G C l n (fun a => a = n) (.inr ⟨n, rfl, hc.2, ⟨n, rfl⟩, fun x => by simp⟩) hl'
        refine ⟨b', h2, bst_congr (fun a => ?_) h3⟩
        constructor
        · rintro (rfl | ⟨h4, h5⟩)
          · exact .inr ⟨List.mem_cons_self .., hc⟩
          · exact .inr ⟨List.mem_cons_of_mem _ h4, h5⟩
        · rintro (h4 | ⟨h4, h5⟩)
          · exact absurd h4 (hQ a)
          · rcases List.mem_cons.1 h4 with h4 | h4
            · exact .inl (by omega)
            · exact .inr ⟨h4, h5⟩
      · rw [if_neg (by omega)]
        obtain ⟨rc, _⟩ := G.ok_lt C hok
        obtain ⟨d, h2, h3, h4⟩ := common_spec G C (2 * g.length + 2) c n hok hc.2 (by have := rk_n rc; have := rk_n hc.1; omega)
        rw [h2]
        simp only [Option.bind_some]
        obtain ⟨b', h5, h6⟩ := bst_spec G C l d (fun a => Q a ∨ a = n) (.inr ⟨d, rfl, h3, ⟨n, .inr rfl⟩, fun x => by
          rw [h4, hq]
          constructor
          · rintro ⟨h7, h8⟩ a (ha | rfl)
            · exact h7 a ha
            · exact h8
          · intro h7
            exact ⟨fun a ha => h7 a (.inl ha), h7 n (.inr rfl)⟩⟩) hl'
        refine ⟨b', h5, bst_congr (fun a => ?_) h6⟩
        constructor
        · rintro ((h7 | rfl) | ⟨h7, h8⟩)
          · exact .inl h7
          · exact .inr ⟨List.mem_cons_self .., hc⟩
          · exact .inr ⟨List.mem_cons_of_mem _ h7, h8⟩
        · rintro (h7 | ⟨h7, h8⟩)
          · exact .inl (.inl h7)
          · rcases List.mem_cons.1 h7 with h7 | h7
            · exact .inl (.inr (by omega))
            · exact .inr ⟨h7, h8⟩
    · rw [if_pos (hcons.2 hc)]
      obtain ⟨b', h2, h3⟩ := bst_spec G C l best Q hB hl'
      refine ⟨b', h2, bst_congr (fun a => ?_) h3⟩
      constructor
      · rintro (h4 | ⟨h4, h5⟩)
        · exact .inl h4
        · exact .inr ⟨List.mem_cons_of_mem _ h4, h5⟩
      · rintro (h4 | ⟨h4, h5⟩)
        · exact .inl h4
        · rcases List.mem_cons.1 h4 with h6 | h6
          · exact absurd ((show a = n by omega) ▸ h5) hc
          · exact .inr ⟨h6, h5⟩

/-- One block's turn. -/
theorem turn_spec (G : Good g f k out) (C : Ch (Rg g) (rk g) (Eg g) f (Dm g)) {c : Nat} (hR : Rg g c) (hc : c ≠ 0) (hk : rk g c = k) :
    ∃ q : Nat, bstS out (numberS g.length (gOrderS g)) g.length (nth (predsG g) c) (-1) = some (q : Int) ∧ Turn (Rg g) (rk g) (Eg g) (st out) (pd out) c q := by
  have hlt := hR.lt
  obtain ⟨best, h1, h2⟩ := bst_spec G C (nth (predsG g) c) (-1) (fun _ => False) (.inl ⟨rfl, fun _ h => h⟩) (predsG_in (fun e he => (edgesS_in he).1) (fun i x hx => by
    rcases Nat.lt_or_ge i g.length with hi | hi
    · rw [nth_replicate hi] at hx; cases hx
    · rw [nth_ge (by simpa using hi)] at hx; cases hx) c)
  have hm : ∀ a : Nat, (a : Int) ∈ nth (predsG g) c ↔ Eg g a c := fun a => by
    have := mem_preds (g := g) (a := a) (b := c) ⟨by omega, by omega⟩
    rwa [Int.toNat_natCast] at this
  obtain ⟨f1, f2, f3⟩ := C.hf c hR hc
  rcases h2 with ⟨_, h3⟩ | ⟨q, rfl, hok, _, hq⟩
  · exact absurd (.inr ⟨(hm _).2 f2, f1, G.inv.fc C hR hc hk⟩) (h3 (f c))
  · refine ⟨q, h1, hok, fun x => ?_⟩
    rw [hq]
    constructor
    · intro h a h4 h5 h6
      exact h a (.inr ⟨(hm a).2 h4, h5, h6⟩)
    · rintro h a (h4 | ⟨h4, h5, h6⟩)
      · exact h4.elim
      · exact h a ((hm a).1 h4) h5 h6
end
end Go.Proofs.Ytaebcebflfgdiaa

