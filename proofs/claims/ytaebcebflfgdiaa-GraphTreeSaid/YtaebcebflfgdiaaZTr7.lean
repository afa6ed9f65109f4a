/- For every input GraphTree returns true: a graph without circles is reducible and has no headers; with one edge back it has one. No condition. -/
import Derived.Test.YtaebcebflfgdiaaZTr6
import Derived.Test.YtaebcebflfgdiaaRows
namespace Go.Proofs.Ytaebcebflfgdiaa
open Go Go.Lft Chk
set_option linter.unusedSimpArgs false
set_option linter.unusedVariables false

/-- A row that is nil where it is empty. -/
structure NRow where
  l : List Int
  deriving Inhabited
instance : Rep NRow where
  n := 1
  agg := false
  rd := fun H cs d => Rep.rd H cs d.l ∧ (d.l = [] → cs = [.slice none 0 0])
  mono := fun hk h => ⟨Rep.mono hk h.1, h.2⟩
  len := fun h => Rep.len h.1
  one := fun _ => rfl
  flat := fun h => Rep.flat h.1
  pos := Nat.one_pos
  solid := fun h => ⟨Rep.solid h.1, h.2⟩
theorem rd_nrow {H : View} {v : Value} {d : NRow} : Rd H v d ↔ SlRd H v d.l ∧ (d.l = [] → v = .slice none 0 0) := by
  simp [Rd, Rep.agg, Rep.rd]
theorem nrows_rd {H : View} {v : Value} {l : List NRow} (h : SlRd H v l) : SlRd H v (l.map NRow.l) := by
  obtain ⟨a, cap, h2, h3, h4, h5⟩ := h
  refine ⟨a, cap, by simpa using h2, by simpa using h3, by simpa using h4, ?_⟩
  rcases h5 with h5 | ⟨ad, h6, h7, h8⟩
  · exact .inl (by simp [h5])
  · refine .inr ⟨ad, h6, h7, fun i hi => ?_⟩
    have hi' : i < l.length := by simpa using hi
    obtain ⟨cs, q1, q2⟩ := h8 i hi'
    rw [List.getElem_map]
    exact ⟨cs, q1, q2.1⟩
theorem nrow_nil {H K : View} {v : Value} {l : List NRow} (h : SlRd H v l) (hk : H.le K) {i : Nat} (hi : i < l.length) (hn : (nth l i).l = []) : cellH K ((slA v).add i) = some (.slice none 0 0) := by
  obtain ⟨u, h1, h2⟩ := (h.at hi).load rfl
  rw [show i * Rep.n NRow = i from Nat.mul_one i] at h1
  rw [nth_eq hi] at hn
  rw [← (rd_nrow.1 h2).2 hn]
  exact cellH_mono hk h1

theorem graphTree_ok {s : List Int} {vs : Value} {many : Int} {h : Heap} (hs : SlRd (vw h) vs s) : HCalls Try.prog N.law02_GraphTree #[.int .i64 many, vs] h (fun v h' => v = .bool true ∧ (vw h).le (vw h')) := by
  refine calls_lift (args := [.int .i64 many, vs]) follows Try.func10 E.law02_GraphTree (by show 2 ≤ 102; decide) fun K hK => ?_
  dsimp only [L.law02_GraphTree]
  refine lwp_hide fun z hz => ?_
  simp
  rw [hz]; clear hz z
  refine lwp_hide fun z hz => ?_
  simp
  refine call_to (by kernel_rfl) awake_ok ?_
  rintro _ h1 ⟨rfl, hle⟩
  have hs := hs.mono hle
  have bs := hs.bound
  have hm := restS_range (x := many) (n := 10) (by omega)
  rw [hz]; clear hz z
  refine lwp_hide fun z hz => ?_
  simp (disch := omega)
  refine call_to (by kernel_rfl) (rest_ok (by omega) (by omega)) ?_
  rintro _ h2 ⟨rfl, rfl⟩
  generalize restS many 10 = m at hm
  obtain ⟨m, rfl⟩ := Int.eq_ofNat_of_zero_le hm.1
  obtain ⟨n, hn⟩ : ∃ n, n = m + 1 := ⟨_, rfl⟩
  have hn1 : (1 : Int) + (m : Int) = (n : Int) := by omega
  simp (disch := omega) [hn1]
  rw [hz]; clear hz z
  refine lwp_hide fun z hz => ?_
  simp
  rw [hz]; clear hz z
  refine lwp_hide fun z hz => ?_
  simp
  refine lwp_for [1, 5, 6, 7, 8] (fun (p : Value × View) i => [vs, .bool true, .int .i64 n, p.1, .int .i64 i]) (fun p i h3 => Mine nothing h2 h3 p.2 23 p.1 (rows (fun i => NRow.mk (treeRow s n i)) i)) n (.slice none 0 0, nothing)
    rfl (by omega) rfl (Mine.start (fun _ _ h => by cases h)) (fun _ _ => rfl) (fun v k h1 hk m => by simp) ?_ ?_
  · rintro ⟨v, W⟩ i h3 hi mv K2 hK2
    have hs3 := hs.mono mv.old
    have hrr := restS_range (x := nth s i) (n := n) (by omega)
    have hrow : treeRow s n i = (if i + 1 < n then [((i + 1 : Nat) : Int)] else []) ++ if i < s.length ∧ (i : Int) + 1 + restS (nth s i) n < n then [(i : Int) + 1 + restS (nth s i) n] else [] := rfl
    by_cases c1 : i + 1 < n
    · have c1' : (i : Int) + 1 < n := by omega
      rw [if_pos c1] at hrow
      refine lwp_hide fun z hz => ?_
      simp (disch := omega)
      rw [hz]; clear hz z
      refine lwp_hide fun z hz => ?_
      simp (disch := omega) [c1']
      refine (Mine.start (α := Int) (V := nothing) (h := h3) (e := 3) (fun _ _ h => by cases h)).push elem23 (by simp <;> rfl) (rd_i (a := ((i + 1 : Nat) : Int)) (by omega) (by omega)) (by simp) (by simp) (fun _ => by simp) (fun _ => by simp) fun u1 r1 h4 mr => ?_
      rw [hz]; clear hz z
      refine lwp_hide fun z hz => ?_
      by_cases c2 : i < s.length
      · have hs4 := hs3.mono mr.old
        simp (disch := omega) [hs.len, c2, hs4.idx1 rfl, hs4.int (View.le_refl _)]
        refine call_to (by kernel_rfl) (rest_ok (by omega) (by omega)) ?_
        rintro _ h5 ⟨rfl, rfl⟩
        by_cases c3 : (i : Int) + 1 + restS (nth s i) n < n
        · rw [if_pos ⟨c2, c3⟩] at hrow
          simp (disch := omega) [c3]
          refine mr.push elem23 (by simp <;> rfl) (rd_i (by omega) (by omega)) (by simp) (by simp) (fun _ => by simp) (fun _ => by simp) fun u2 r2 h5 mr2 => ?_
          rw [hz]; clear hz z
          have m2 := mv.ext mr2.old
          simp
          refine m2.push (d := NRow.mk (treeRow s n i)) elem22 (by simp <;> rfl) (rd_nrow.2 ⟨by show SlRd _ _ (treeRow s n i); rw [hrow]; exact mr2.fresh.mono (fresh_grow _ _ _), by show treeRow s n i = [] → _; rw [hrow]; exact fun e => absurd e (by simp)⟩) (by simp; omega) (by simp; omega) (fun _ => by simp) (fun _ => by simp) fun u v' h5 m' => hK2 (v', _) _ _ rfl rfl (by rw [rows_succ]; exact m')
        · rw [if_neg fun e => c3 e.2] at hrow
          simp (disch := omega) [c3]
          rw [hz]; clear hz z
          have m2 := mv.ext mr.old
          simp
          refine m2.push (d := NRow.mk (treeRow s n i)) elem22 (by simp <;> rfl) (rd_nrow.2 ⟨by show SlRd _ _ (treeRow s n i); rw [hrow, List.append_nil]; exact mr.fresh.mono (fresh_grow _ _ _), by show treeRow s n i = [] → _; rw [hrow]; exact fun e => absurd e (by simp)⟩) (by simp; omega) (by simp; omega) (fun _ => by simp) (fun _ => by simp) fun u v' h5 m' => hK2 (v', _) _ _ rfl rfl (by rw [rows_succ]; exact m')
      · rw [if_neg fun e => c2 e.1] at hrow
        simp (disch := omega) [hs.len, c2]
        rw [hz]; clear hz z
        have m2 := mv.ext mr.old
        simp
        refine m2.push (d := NRow.mk (treeRow s n i)) elem22 (by simp <;> rfl) (rd_nrow.2 ⟨by show SlRd _ _ (treeRow s n i); rw [hrow, List.append_nil]; exact mr.fresh.mono (fresh_grow _ _ _), by show treeRow s n i = [] → _; rw [hrow]; exact fun e => absurd e (by simp)⟩) (by simp; omega) (by simp; omega) (fun _ => by simp) (fun _ => by simp) fun u v' h5 m' => hK2 (v', _) _ _ rfl rfl (by rw [rows_succ]; exact m')
    · have c1' : ¬ (i : Int) + 1 < n := by omega
      rw [if_neg c1] at hrow
      have mr := Mine.start (α := Int) (V := nothing) (h := h3) (e := 3) (fun _ _ h => by cases h)
      refine lwp_hide fun z hz => ?_
      simp (disch := omega)
      rw [hz]; clear hz z
      refine lwp_hide fun z hz => ?_
      simp (disch := omega) [c1']
      rw [hz]; clear hz z
      refine lwp_hide fun z hz => ?_
      by_cases c2 : i < s.length
      · have hs4 := hs3.mono mr.old
        simp (disch := omega) [hs.len, c2, hs4.idx1 rfl, hs4.int (View.le_refl _)]
        refine call_to (by kernel_rfl) (rest_ok (by omega) (by omega)) ?_
        rintro _ h5 ⟨rfl, rfl⟩
        by_cases c3 : (i : Int) + 1 + restS (nth s i) n < n
        · rw [if_pos ⟨c2, c3⟩] at hrow
          simp (disch := omega) [c3]
          refine mr.push elem23 (by simp <;> rfl) (rd_i (by omega) (by omega)) (by simp) (by simp) (fun _ => by simp) (fun _ => by simp) fun u2 r2 h5 mr2 => ?_
          rw [hz]; clear hz z
          have m2 := mv.ext mr2.old
          simp
          refine m2.push (d := NRow.mk (treeRow s n i)) elem22 (by simp <;> rfl) (rd_nrow.2 ⟨by show SlRd _ _ (treeRow s n i); rw [hrow]; exact mr2.fresh.mono (fresh_grow _ _ _), by show treeRow s n i = [] → _; rw [hrow]; exact fun e => absurd e (by simp)⟩) (by simp; omega) (by simp; omega) (fun _ => by simp) (fun _ => by simp) fun u v' h5 m' => hK2 (v', _) _ _ rfl rfl (by rw [rows_succ]; exact m')
        · rw [if_neg fun e => c3 e.2] at hrow
          simp (disch := omega) [c3]
          rw [hz]; clear hz z
          have m2 := mv.ext mr.old
          simp
          refine m2.push (d := NRow.mk (treeRow s n i)) elem22 (by simp <;> rfl) (rd_nrow.2 ⟨by show SlRd _ _ (treeRow s n i); rw [hrow, List.append_nil]; exact mr.fresh.mono (fresh_grow _ _ _), by show treeRow s n i = [] → _; rw [hrow]; exact fun _ => rfl⟩) (by simp; omega) (by simp; omega) (fun _ => by simp) (fun _ => by simp) fun u v' h5 m' => hK2 (v', _) _ _ rfl rfl (by rw [rows_succ]; exact m')
      · rw [if_neg fun e => c2 e.1] at hrow
        simp (disch := omega) [hs.len, c2]
        rw [hz]; clear hz z
        have m2 := mv.ext mr.old
        simp
        refine m2.push (d := NRow.mk (treeRow s n i)) elem22 (by simp <;> rfl) (rd_nrow.2 ⟨by show SlRd _ _ (treeRow s n i); rw [hrow, List.append_nil]; exact mr.fresh.mono (fresh_grow _ _ _), by show treeRow s n i = [] → _; rw [hrow]; exact fun _ => rfl⟩) (by simp; omega) (by simp; omega) (fun _ => by simp) (fun _ => by simp) fun u v' h5 m' => hK2 (v', _) _ _ rfl rfl (by rw [rows_succ]; exact m')
  · rintro ⟨v, W⟩ h3 mv
    have hmap : (rows (fun i => NRow.mk (treeRow s n i)) n).map NRow.l = treeS s n := by simp [rows, treeS]
    have rg := nrows_rd mv.now
    rw [hmap] at rg
    have hsm := sm_tree (s := s) (n := n) (by omega)
    have htl := treeS_len (s := s) (n := n)
    obtain ⟨f1, C1, l1, hl1, I1⟩ := idom_spec (g := treeS s n) (by omega)
    have T1 := tree_told (g := treeS s n) (by omega) fun u v h => tree_up h
    rw [hz]; clear hz z
    refine lwp_hide fun z hz => ?_
    simp
    refine call_to (by kernel_rfl) (reducible_ok rg hsm hl1 I1.good.len) ?_
    rintro _ h4 ⟨rfl, hle4⟩
    have rg := rg.mono hle4
    rw [reducible_eq I1 C1 (by omega), T1.1]
    simp
    refine call_to (by kernel_rfl) (headers_ok rg hsm hl1 I1.good.len) ?_
    rintro vh h5 ⟨hle5, rh⟩
    have rh := rh.mono (fresh_le _ _)
    rw [headers_eq I1 C1, T1.2] at rh
    simp [rh.len]
    have mv5 := mv.ext' (View.le_trans hle4 hle5)
    rw [hz]; clear hz z
    refine lwp_hide fun z hz => ?_
    have hln : (rows (fun i => NRow.mk (treeRow s n i)) n).length = n := by simp
    have hnil : cellH (vw h5) ((slA v).add (n - 1)) = some (.slice none 0 0) := nrow_nil mv5.now (View.le_refl _) (by omega) (by rw [nth_rows (by omega)]; exact treeRow_last (by omega))
    have hn1' : ((n : Int) - 1).toNat = n - 1 := by omega
    simp (disch := omega) [mv5.now.idx1 rfl, hn1', hnil]
    refine (Mine.start (α := Int) (V := nothing) (h := h5) (e := 3) (fun _ _ h => by cases h)).push elem23 (by simp <;> rfl) (rd_i (a := 0) (by omega) (by omega)) (by simp) (by simp) (fun _ => by simp) (fun _ => by simp) fun u1 r1 h6 mr => ?_
    have mv6 := mv5.ext mr.old
    refine mv6.put1 (α := NRow) (i := n - 1) (d := ⟨[0]⟩) (by kernel_rfl) rfl (by simp) (by simp <;> rfl) (by omega) (rd_nrow.2 ⟨mr.fresh.mono (fresh_grow _ _ _), fun e => absurd e (by simp)⟩) fun h7 mv7 => ?_
    have hle7 := mv7.old
    have rg := nrows_rd mv7.now
    rw [List.map_set, hmap] at rg
    clear mv mv5 mv6 mv7 mr
    have hsm := sm_ring (s := s) (n := n) (by omega)
    have hgl : ((treeS s n).set (n - 1) [0]).length = n := by simp [treeS]
    obtain ⟨t1, t2, t3⟩ : reducibleS ((treeS s n).set (n - 1) [0]) = true ∧ headersS ((treeS s n).set (n - 1) [0]) = [0] ∧ (bodyS ((treeS s n).set (n - 1) [0]) 0).length = n := by
      subst hn; exact ring_is
    change SlRd (vw h7) v ((treeS s n).set (n - 1) [0]) at rg
    generalize (treeS s n).set (n - 1) [0] = g at rg hsm hgl t1 t2 t3
    obtain ⟨f2, C2, l2, hl2, I2⟩ := idom_spec (g := g) (by omega)
    have A := agree (g := g) (by omega)
    obtain ⟨fuel, hla⟩ := A.idom
    obtain ⟨fuel2, hb⟩ := A.body 0
    have hle := View.le_trans hle hle7
    rw [hz]; clear hz z
    refine lwp_hide fun z hz => ?_
    simp
    refine call_to (by kernel_rfl) (headers_ok rg hsm hl2 I2.good.len) ?_
    rintro vh2 h8 ⟨hle8, rh2⟩
    have rh2 := rh2.mono (fresh_le _ _)
    rw [headers_eq I2 C2, t2] at rh2
    have rg := rg.mono hle8
    have hle := View.le_trans hle hle8
    rw [hz]; clear hz z
    refine lwp_hide fun z hz => ?_
    have h00 := rh2.int (View.le_refl _) (i := 0) (by simp)
    have h01 : nth [(0 : Int)] 0 = 0 := rfl
    rw [h01] at h00
    have hix : Bn.ev (.idx 1) vh2 (.int .i64 0) = some (.pointer (some ((slA vh2).add 0))) := rh2.idx1 rfl (by omega) (by simp)
    simp [rh2.len, hix, h00]
    refine call_to (by kernel_rfl) (body_ok rg hsm hla idomS_len hb (by omega)) ?_
    rintro vb h9 ⟨hle9, rb⟩
    have rb := rb.mono (fresh_le _ _)
    have rg := rg.mono hle9
    have hle := View.le_trans hle hle9
    simp [rb.len, t3]
    refine call_to (by kernel_rfl) (reducible_ok rg hsm hl2 I2.good.len) ?_
    rintro _ h10 ⟨rfl, hle10⟩
    have hle := View.le_trans hle hle10
    rw [reducible_eq I2 C2 (by omega), t1]
    rw [hz]
    simp
    exact hK _ _ ⟨rfl, hle⟩
end Go.Proofs.Ytaebcebflfgdiaa

/- For every input GraphTree returns true: a graph without circles is reducible and has no headers; with one edge back it has one. No condition. -/
namespace Go.Proofs.Ytaebcebflfgdiaa
open Go Go.Lft Go.ChangeShapes Go.WideShapes Go.ChangeAt Go.RowKit

theorem Try.own : ownKnob Try.prog.godebug = none := by kernel_rfl
theorem Try.laidOut : laidOutB Try.prog = true := by kernel_rfl
theorem rt3 : RT Try.prog 3 Int := rt_int (by kernel_rfl)
theorem rt23 : RT Try.prog 23 (List Int) := rt_slice (e := 3) (by kernel_rfl) (by kernel_rfl) (of_decide_eq_true (by kernel_rfl)) rt3

theorem graphTree_lifted (os : Os) (started : os.Started) (H : Type) (enc : TypeId × Value → H) :
    ReturnsInHanded {} Try.checked os 10 .any (Rows.graphTreeSpec.pre6 enc Try.prog Try.f10 Rows.graphTreeRow.domain false) (Rows.graphTreeSpec.post enc Try.prog Try.f10 false true false false) :=
  law2 (C := Try.checked) Try.own started (by kernel_rfl) Try.func10 rfl
    (ChangeSpec.witness6 (enc := enc) (C := Try.checked) false ⟨#[], #[.int .i64 0, .slice none 0 0], []⟩ 8 (by kernel_rfl) (by kernel_rfl) (by kernel_rfl) (by kernel_rfl))
    Try.laidOut (fun t ht => by
      rw [Try.params10] at ht
      simp only [List.mem_cons, List.not_mem_nil, or_false] at ht
      rcases ht with rfl | rfl <;> exact ⟨by kernel_rfl, of_decide_eq_true (by kernel_rfl)⟩) rfl
    (fun ds hds => by
      match ds, hds with
      | [d, d2], _ => rfl) rfl (tb := 4) (by kernel_rfl) Try.params10 rt3 rt23 fun h v1 x1 v2 x2 h1 h2 => by
        rw [(rd_int.1 h1).1]
        exact graphTree_ok (rd_list.1 h2)

theorem graphTree_holds : Rows.GraphTreeSaid :=
  OpenClaim.holds_of_wide 10 Try.f10 rfl rfl rfl rfl rfl rfl rfl ⟨rfl, rfl, rfl, rfl, rfl⟩ rfl rfl rfl rfl rfl (by kernel_rfl) Try.func10 (by kernel_rfl)
    (of_decide_eq_true (by kernel_rfl)) (by unfold Func.isWrapper; first | (rw [if_pos (by decide +kernel)]; kernel_rfl) | (rw [if_neg (by decide +kernel)]; exact ⟨rfl, rfl⟩))
    (fun os started H enc _ => graphTree_lifted os started H enc)
end Go.Proofs.Ytaebcebflfgdiaa

