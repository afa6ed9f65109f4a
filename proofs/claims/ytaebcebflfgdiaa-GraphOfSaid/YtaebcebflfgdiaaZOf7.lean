/- For every input GraphOf returns true: a graph of a function is told as the document says. No condition. -/
import Derived.Test.YtaebcebflfgdiaaZOf6
import Derived.Test.YtaebcebflfgdiaaRows
namespace Go.Proofs.Ytaebcebflfgdiaa
open Go Go.Lft Chk
set_option linter.unusedSimpArgs false
set_option linter.unusedVariables false

/-- A row that is nil where it is empty. -/
structure NRow where
  l : List Int
  deriving Inhabited
instance : Rep NRow where
  n := 1
  agg := false
  rd := fun H cs d => Rep.rd H cs d.l ∧ (d.l = [] → cs = [.slice none 0 0])
  mono := fun hk h => ⟨Rep.mono hk h.1, h.2⟩
  len := fun h => Rep.len h.1
  one := fun _ => rfl
  flat := fun h => Rep.flat h.1
  pos := Nat.one_pos
  solid := fun h => ⟨Rep.solid h.1, h.2⟩
theorem rd_nrow {H : View} {v : Value} {d : NRow} : Rd H v d ↔ SlRd H v d.l ∧ (d.l = [] → v = .slice none 0 0) := by
  simp [Rd, Rep.agg, Rep.rd]
theorem nrows_rd {H : View} {v : Value} {l : List NRow} (h : SlRd H v l) : SlRd H v (l.map NRow.l) := by
  obtain ⟨a, cap, h2, h3, h4, h5⟩ := h
  refine ⟨a, cap, by simpa using h2, by simpa using h3, by simpa using h4, ?_⟩
  rcases h5 with h5 | ⟨ad, h6, h7, h8⟩
  · exact .inl (by simp [h5])
  · refine .inr ⟨ad, h6, h7, fun i hi => ?_⟩
    have hi' : i < l.length := by simpa using hi
    obtain ⟨cs, q1, q2⟩ := h8 i hi'
    rw [List.getElem_map]
    exact ⟨cs, q1, q2.1⟩
theorem nrow_nil {H K : View} {v : Value} {l : List NRow} (h : SlRd H v l) (hk : H.le K) {i : Nat} (hi : i < l.length) (hn : (nth l i).l = []) : cellH K ((slA v).add i) = some (.slice none 0 0) := by
  obtain ⟨u, h1, h2⟩ := (h.at hi).load rfl
  rw [show i * Rep.n NRow = i from Nat.mul_one i] at h1
  rw [nth_eq hi] at hn
  rw [← (rd_nrow.1 h2).2 hn]
  exact cellH_mono hk h1

theorem graphTree_ok {s : List Int} {vs : Value} {many : Int} {h : Heap} (hs : SlRd (vw h) vs s) : HCalls Try.prog N.law02_GraphTree #[.int .i64 many, vs] h (fun v h' => v = .bool true ∧ (vw h).le (vw h')) := by
  refine calls_lift (args := [.int .i64 many, vs]) follows Try.func10 E.law02_GraphTree (by show 2 ≤ 102; decide) fun K hK => ?_
  dsimp only [L.law02_GraphTree]
  refine lwp_hide fun z hz => ?_
  simp
  rw [hz]; clear hz z
  refine lwp_hide fun z hz => ?_
  simp
  refine call_to (by kernel_rfl) awake_ok ?_
  rintro _ h1 ⟨rfl, hle⟩
  have hs := hs.mono hle
  have bs := hs.bound
  have hm := restS_range (x := many) (n := 10) (by omega)
  rw [hz]; clear hz z
  refine lwp_hide fun z hz => ?_
  simp (disch := omega)
  refine call_to (by kernel_rfl) (rest_ok (by omega) (by omega)) ?_
  rintro _ h2 ⟨rfl, rfl⟩
  generalize restS many 10 = m at hm
  obtain ⟨m, rfl⟩ := Int.eq_ofNat_of_zero_le hm.1
  obtain ⟨n, hn⟩ : ∃ n, n = m + 1 := ⟨_, rfl⟩
  have hn1 : (1 : Int) + (m : Int) = (n : Int) := by omega
  simp (disch := omega) [hn1]
  rw [hz]; clear hz z
  refine lwp_hide fun z hz => ?_
  simp
  rw [hz]; clear hz z
  refine lwp_hide fun z hz => ?_
  simp
  refine lwp_for [1, 5, 6, 7, 8] (fun (p : Value × View) i => [vs, .bool true, .int .i64 n, p.1, .int .i64 i]) (fun p i h3 => Mine nothing h2 h3 p.2 23 p.1 (rows (fun i => NRow.mk (treeRow s n i)) i)) n (.slice none 0 0, nothing)
    rfl (by omega) rfl (Mine.start (fun _ _ h => by cases h)) (fun _ _ => rfl) (fun v k h1 hk m => by simp) ?_ ?_
  · rintro ⟨v, W⟩ i h3 hi mv K2 hK2
    have hs3 := hs.mono mv.old
    have hrr := restS_range (x := nth s i) (n := n) (by omega)
    have hrow : treeRow s n i = (if i + 1 < n then [((i + 1 : Nat) : Int)] else []) ++ if i < s.length ∧ (i : Int) + 1 + restS (nth s i) n < n then [(i : Int) + 1 + restS (nth s i) n] else [] := rfl
    by_cases c1 : i + 1 < n
    · have c1' : (i : Int) + 1 < n := by omega
      rw [if_pos c1] at hrow
      refine lwp_hide fun z hz => ?_
      simp (disch := omega)
      rw [hz]; clear hz z
      refine lwp_hide fun z hz => ?_
      simp (disch := omega) [c1']
      refine (Mine.start (α := Int) (V := nothing) (h := h3) (e := 3) (fun _ _ h => by cases h)).push elem23 (by simp <;> rfl) (rd_i (a := ((i + 1 : Nat) : Int)) (by omega) (by omega)) (by simp) (by simp) (fun _ => by simp) (fun _ => by simp) fun u1 r1 h4 mr => ?_
      rw [hz]; clear hz z
      refine lwp_hide fun z hz => ?_
      by_cases c2 : i < s.length
      · have hs4 := hs3.mono mr.old
        simp (disch := omega) [hs.len, c2, hs4.idx1 rfl, hs4.int (View.le_refl _)]
        refine call_to (by kernel_rfl) (rest_ok (by omega) (by omega)) ?_
        rintro _ h5 ⟨rfl, rfl⟩
        by_cases c3 : (i : Int) + 1 + restS (nth s i) n < n
        · rw [if_pos ⟨c2, c3⟩] at hrow
          simp (disch := omega) [c3]
          refine mr.push elem23 (by simp <;> rfl) (rd_i (by omega) (by omega)) (by simp) (by simp) (fun _ => by simp) (fun _ => by simp) fun u2 r2 h5 mr2 => ?_
          rw [hz]; clear hz z
          have m2 := mv.ext mr2.old
          simp
          refine m2.push (d := NRow.mk (treeRow s n i)) elem22 (by simp <;> rfl) (rd_nrow.2 ⟨by show SlRd _ _ (treeRow s n i); rw [hrow]; exact mr2.fresh.mono (fresh_grow _ _ _), by show treeRow s n i = [] → _; rw [hrow]; exact fun e => absurd e (by simp)⟩) (by simp; omega) (by simp; omega) (fun _ => by simp) (fun _ => by simp) fun u v' h5 m' => hK2 (v', _) _ _ rfl rfl (by rw [rows_succ]; exact m')
        · rw [if_neg fun e => c3 e.2] at hrow
          simp (disch := omega) [c3]
          rw [hz]; clear hz z
          have m2 := mv.ext mr.old
          simp
          refine m2.push (d := NRow.mk (treeRow s n i)) elem22 (by simp <;> rfl) (rd_nrow.2 ⟨by show SlRd _ _ (treeRow s n i); rw [hrow, List.append_nil]; exact mr.fresh.mono (fresh_grow _ _ _), by show treeRow s n i = [] → _; rw [hrow]; exact fun e => absurd e (by simp)⟩) (by simp; omega) (by simp; omega) (fun _ => by simp) (fun _ => by simp) fun u v' h5 m' => hK2 (v', _) _ _ rfl rfl (by rw [rows_succ]; exact m')
      · rw [if_neg fun e => c2 e.1] at hrow
        simp (disch := omega) [hs.len, c2]
        rw [hz]; clear hz z
        have m2 := mv.ext mr.old
        simp
        refine m2.push (d := NRow.mk (treeRow s n i)) elem22 (by simp <;> rfl) (rd_nrow.2 ⟨by show SlRd _ _ (treeRow s n i); rw [hrow, List.append_nil]; exact mr.fresh.mono (fresh_grow _ _ _), by show treeRow s n i = [] → _; rw [hrow]; exact fun e => absurd e (by simp)⟩) (by simp; omega) (by simp; omega) (fun _ => by simp) (fun _ => by simp) fun u v' h5 m' => hK2 (v', _) _ _ rfl rfl (by rw [rows_succ]; exact m')
    · have c1' : ¬ (i : Int) + 1 < n := by omega
      rw [if_neg c1] at hrow
      have mr := Mine.start (α := Int) (V := nothing) (h := h3) (e := 3) (fun _ _ h => by cases h)
      refine lwp_hide fun z hz => ?_
      simp (disch := omega)
      rw [hz]; clear hz z
      refine lwp_hide fun z hz => ?_
      simp (disch := omega) [c1']
      rw [hz]; clear hz z
      refine lwp_hide fun z hz => ?_
      by_cases c2 : i < s.length
      · have hs4 := hs3.mono mr.old
        simp (disch := omega) [hs.len, c2, hs4.idx1 rfl, hs4.int (View.le_refl _)]
        refine call_to (by kernel_rfl) (rest_ok (by omega) (by omega)) ?_
        rintro _ h5 ⟨rfl, rfl⟩
        by_cases c3 : (i : Int) + 1 + restS (nth s i) n < n
        · rw [if_pos ⟨c2, c3⟩] at hrow
          simp (disch := omega) [c3]
          refine mr.push elem23 (by simp <;> rfl) (rd_i (by omega) (by omega)) (by simp) (by simp) (fun _ => by simp) (fun _ => by simp) fun u2 r2 h5 mr2 => ?_
          rw [hz]; clear hz z
          have m2 := mv.ext mr2.old
          simp
          refine m2.push (d := NRow.mk (treeRow s n i)) elem22 (by simp <;> rfl) (rd_nrow.2 ⟨by show SlRd _ _ (treeRow s n i); rw [hrow]; exact mr2.fresh.mono (fresh_grow _ _ _), by show treeRow s n i = [] → _; rw [hrow]; exact fun e => absurd e (by simp)⟩) (by simp; omega) (by simp; omega) (fun _ => by simp) (fun _ => by simp) fun u v' h5 m' => hK2 (v', _) _ _ rfl rfl (by rw [rows_succ]; exact m')
        · rw [if_neg fun e => c3 e.2] at hrow
          simp (disch := omega) [c3]
          rw [hz]; clear hz z
          have m2 := mv.ext mr.old
          simp
          refine m2.push (d := NRow.mk (treeRow s n i)) elem22 (by simp <;> rfl) (rd_nrow.2 ⟨by show SlRd _ _ (treeRow s n i); rw [hrow, List.append_nil]; exact mr.fresh.mono (fresh_grow _ _ _), by show treeRow s n i = [] → _; rw [hrow]; exact fun _ => rfl⟩) (by simp; omega) (by simp; omega) (fun _ => by simp) (fun _ => by simp) fun u v' h5 m' => hK2 (v', _) _ _ rfl rfl (by rw [rows_succ]; exact m')
      · rw [if_neg fun e => c2 e.1] at hrow
        simp (disch := omega) [hs.len, c2]
        rw [hz]; clear hz z
        have m2 := mv.ext mr.old
        simp
        refine m2.push (d := NRow.mk (treeRow s n i)) elem22 (by simp <;> rfl) (rd_nrow.2 ⟨by show SlRd _ _ (treeRow s n i); rw [hrow, List.append_nil]; exact mr.fresh.mono (fresh_grow _ _ _), by show treeRow s n i = [] → _; rw [hrow]; exact fun _ => rfl⟩) (by simp; omega) (by simp; omega) (fun _ => by simp) (fun _ => by simp) fun u v' h5 m' => hK2 (v', _) _ _ rfl rfl (by rw [rows_succ]; exact m')
  · rintro ⟨v, W⟩ h3 mv
    have hmap : (rows (fun i => NRow.mk (treeRow s n i)) n).map NRow.l = treeS s n := by simp [rows, treeS]
    have rg := nrows_rd mv.now
    rw [hmap] at rg
    have hsm := sm_tree (s := s) (n := n) (by omega)
    have htl := treeS_len (s := s) (n := n)
    obtain ⟨f1, C1, l1, hl1, I1⟩ := idom_spec (g := treeS s n) (by omega)
    have T1 := tree_told (g := treeS s n) (by omega) fun u v h => tree_up h
    rw [hz]; clear hz z
    refine lwp_hide fun z hz => ?_
    simp
    refine call_to (by kernel_rfl) (reducible_ok rg hsm hl1 I1.good.len) ?_
    rintro _ h4 ⟨rfl, hle4⟩
    have rg := rg.mono hle4
    rw [reducible_eq I1 C1 (by omega), T1.1]
    simp
    refine call_to (by kernel_rfl) (headers_ok rg hsm hl1 I1.good.len) ?_
    rintro vh h5 ⟨hle5, rh⟩
    have rh := rh.mono (fresh_le _ _)
    rw [headers_eq I1 C1, T1.2] at rh
    simp [rh.len]
    have mv5 := mv.ext' (View.le_trans hle4 hle5)
    rw [hz]; clear hz z
    refine lwp_hide fun z hz => ?_
    have hln : (rows (fun i => NRow.mk (treeRow s n i)) n).length = n := by simp
    have hnil : cellH (vw h5) ((slA v).add (n - 1)) = some (.slice none 0 0) := nrow_nil mv5.now (View.le_refl _) (by omega) (by rw [nth_rows (by omega)]; exact treeRow_last (by omega))
    have hn1' : ((n : Int) - 1).toNat = n - 1 := by omega
    simp (disch := omega) [mv5.now.idx1 rfl, hn1', hnil]
    refine (Mine.start (α := Int) (V := nothing) (h := h5) (e := 3) (fun _ _ h => by cases h)).push elem23 (by simp <;> rfl) (rd_i (a := 0) (by omega) (by omega)) (by simp) (by simp) (fun _ => by simp) (fun _ => by simp) fun u1 r1 h6 mr => ?_
    have mv6 := mv5.ext mr.old
    refine mv6.put1 (α := NRow) (i := n - 1) (d := ⟨[0]⟩) (by kernel_rfl) rfl (by simp) (by simp <;> rfl) (by omega) (rd_nrow.2 ⟨mr.fresh.mono (fresh_grow _ _ _), fun e => absurd e (by simp)⟩) fun h7 mv7 => ?_
    have hle7 := mv7.old
    have rg := nrows_rd mv7.now
    rw [List.map_set, hmap] at rg
    clear mv mv5 mv6 mv7 mr
    have hsm := sm_ring (s := s) (n := n) (by omega)
    have hgl : ((treeS s n).set (n - 1) [0]).length = n := by simp [treeS]
    obtain ⟨t1, t2, t3⟩ : reducibleS ((treeS s n).set (n - 1) [0]) = true ∧ headersS ((treeS s n).set (n - 1) [0]) = [0] ∧ (bodyS ((treeS s n).set (n - 1) [0]) 0).length = n := by
      subst hn; exact ring_is
    change SlRd (vw h7) v ((treeS s n).set (n - 1) [0]) at rg
    generalize (treeS s n).set (n - 1) [0] = g at rg hsm hgl t1 t2 t3
    obtain ⟨f2, C2, l2, hl2, I2⟩ := idom_spec (g := g) (by omega)
    have A := agree (g := g) (by omega)
    obtain ⟨fuel, hla⟩ := A.idom
    obtain ⟨fuel2, hb⟩ := A.body 0
    have hle := View.le_trans hle hle7
    rw [hz]; clear hz z
    refine lwp_hide fun z hz => ?_
    simp
    refine call_to (by kernel_rfl) (headers_ok rg hsm hl2 I2.good.len) ?_
    rintro vh2 h8 ⟨hle8, rh2⟩
    have rh2 := rh2.mono (fresh_le _ _)
    rw [headers_eq I2 C2, t2] at rh2
    have rg := rg.mono hle8
    have hle := View.le_trans hle hle8
    rw [hz]; clear hz z
    refine lwp_hide fun z hz => ?_
    have h00 := rh2.int (View.le_refl _) (i := 0) (by simp)
    have h01 : nth [(0 : Int)] 0 = 0 := rfl
    rw [h01] at h00
    have hix : Bn.ev (.idx 1) vh2 (.int .i64 0) = some (.pointer (some ((slA vh2).add 0))) := rh2.idx1 rfl (by omega) (by simp)
    simp [rh2.len, hix, h00]
    refine call_to (by kernel_rfl) (body_ok rg hsm hla idomS_len hb (by omega)) ?_
    rintro vb h9 ⟨hle9, rb⟩
    have rb := rb.mono (fresh_le _ _)
    have rg := rg.mono hle9
    have hle := View.le_trans hle hle9
    simp [rb.len, t3]
    refine call_to (by kernel_rfl) (reducible_ok rg hsm hl2 I2.good.len) ?_
    rintro _ h10 ⟨rfl, hle10⟩
    have hle := View.le_trans hle hle10
    rw [reducible_eq I2 C2 (by omega), t1]
    rw [hz]
    simp
    exact hK _ _ ⟨rfl, hle⟩
end Go.Proofs.Ytaebcebflfgdiaa

namespace Go.Proofs.Ytaebcebflfgdiaa
open Go Go.Lft Chk
set_option linter.unusedSimpArgs false
set_option linter.unusedVariables false

/-- A block, of which it is told where it goes to. -/
structure ToB where
  to : List Int
  deriving Inhabited
instance : Rep ToB where
  n := 6
  agg := true
  rd := fun H cs d => ∃ p i k ar v im, cs = [p, i, k, ar, v, im] ∧ (∀ u ∈ [p, i, k, ar, v, im], u.oneCell' = true) ∧ Rep.rd H [v] d.to
  mono := fun hk ⟨p, i, k, ar, v, im, h1, h2, h3⟩ => ⟨p, i, k, ar, v, im, h1, h2, Rep.mono hk h3⟩
  len := fun ⟨p, i, k, ar, v, im, h1, h2, h3⟩ => by rw [h1]; rfl
  one := fun h => by cases h
  flat := fun ⟨p, i, k, ar, v, im, h1, h2, h3⟩ u hu => by rw [h1] at hu; exact h2 u hu
  pos := by decide
  solid := fun ⟨p, i, k, ar, v, im, h1, h2, h3⟩ => ⟨p, i, k, ar, v, im, h1, h2, Rep.solid h3⟩
theorem rd_tob {H : View} {u : Value} {d : ToB} : Rd H u d ↔ ∃ p i k ar v im, u = .agg #[p, i, k, ar, v, im] ∧ (∀ u ∈ [p, i, k, ar, v, im], u.oneCell' = true) ∧ SlRd H v d.to := by
  simp only [Rd, Rep.agg, Rep.rd, if_true]
  constructor
  · rintro ⟨cs, rfl, p, i, k, ar, v, im, h1, h2, v', h3, h4⟩
    simp only [List.cons.injEq, and_true] at h3
    subst h3
    exact ⟨p, i, k, ar, v, im, by rw [← h1], h2, h4⟩
  · rintro ⟨p, i, k, ar, v, im, rfl, h2, h3⟩
    exact ⟨_, rfl, p, i, k, ar, v, im, rfl, h2, v, rfl, h3⟩
/-- A slice of blocks: one whole; where it goes to. -/
theorem blk_whole {H K : View} {v : Value} {l : List ToB} (h : SlRd H v l) (hk : H.le K) {i : Nat} (hi : i < l.length) : ∃ u, Un.ev K (.loads 6) (.pointer (some ((slA v).add (i * 6)))) = some u ∧ Rd H u (nth l i) := by
  obtain ⟨u, h1, h2⟩ := (h.at hi).loads rfl
  refine ⟨u, ?_, by rw [nth_eq hi]; exact h2⟩
  have h1' : Un.ev H (.loads 6) (.pointer (some ((slA v).add (i * 6)))) = some u := h1
  have := ev_mono (ρ := fun _ => none) (e := .un (.loads 6) (.con (.pointer (some ((slA v).add (i * 6)))))) hk (v := u) (by simpa using h1')
  simpa using this
theorem blk_to {H : View} {v : Value} {l : List ToB} (h : SlRd H v l) {i : Nat} (hi : i < l.length) : ∃ u, (∀ K : View, H.le K → cellH K ((((slA v).add (i * 6)).add 2).add 2) = some u) ∧ SlRd H u (nth l i).to := by
  obtain ⟨cs, h1, p, i1, k, ar, v1, im, e1, e2, v2, e3, h3⟩ := h.at hi
  simp only [List.cons.injEq, and_true] at e3
  subst e3
  subst e1
  refine ⟨v1, fun K hk => ?_, by rw [nth_eq hi]; exact h3⟩
  have h4 := cellsAt_get (cellsAt_mono hk h1) (i := 4) rfl
  obtain ⟨c, T, fz, hs, _⟩ := h1
  rw [addr_add_none hs] at h4
  rw [addr_add_none (a := (slA v).add (i * 6)) hs]
  exact h4

def ofG (l : List ToB) : Gr := rows (fun i => keptS (nth l i).to l.length) l.length
def ofS (l : List ToB) : Gr := rows (fun a => sift (fun b => (nth l a).to.contains (b : Int)) (fun b => (b : Int)) l.length) l.length
theorem of_eq {l : List ToB} : ofG l = ofS l := by
  refine eq_of_nth (by simp [ofG, ofS]) fun i hi => ?_
  have hi : i < l.length := by simpa [ofG] using hi
  rw [ofG, ofS, nth_rows hi, nth_rows hi]
  refine strict_unique keptS_strict sift_strict fun x => ?_
  rw [mem_keptS, mem_sift]
  constructor
  · rintro ⟨h1, h2, h3⟩
    exact ⟨x.toNat, by omega, by rw [Int.toNat_of_nonneg h2]; simpa using h1, Int.toNat_of_nonneg h2⟩
  · rintro ⟨i, h1, h2, rfl⟩
    exact ⟨by simpa using h2, by omega, by omega⟩

theorem graphOf_graph_ok {l : List ToB} {v : Value} {p : Int} {h : Heap} (hv : SlRd (vw h) v l) (hl : l.length ≤ 1000) (hs : ∀ i, i < l.length → (nth l i).to.length ≤ 1000) :
    HCalls Try.prog N.graph_Of #[.agg #[.int .i64 p, v]] h (fun u h' => (vw h).le (vw h') ∧ SlRd (fresh h h') u (ofG l)) := by
  refine calls_lift (args := [.agg #[.int .i64 p, v]]) follows Try.func31 E.graph_Of (by show 1 ≤ 30; decide) fun K hK => ?_
  obtain ⟨hvc, hvo⟩ := hv.cells
  simp [L.graph_Of]
  refine do_box (v := .agg #[.int .i64 p, v]) (by simp) ?_
  have hle1 := push_le h (.cells (Value.agg #[.int .i64 p, v]).cells 48)
  have hc1 : cellH (vw (h.push (.cells (Value.agg #[.int .i64 p, v]).cells 48))) ⟨h.size, 1, none⟩ = some v := cellH_blk (c := #[.int .i64 p, v]) (T := 48) (fz := (0, 0)) (by simp [vw, Value.cells]) rfl
  generalize h.push (.cells (Value.agg #[.int .i64 p, v]).cells 48) = h1 at hle1 hc1
  have hv1 := hv.mono hle1
  simp [hc1, hv1.len]
  refine Mine.made (α := List Int) (V := nothing) (W := nothing) (h0 := h1) (n := l.length) (d := []) elem22 (View.le_refl _) (fun _ _ h => by cases h) (Old.nothing _ _) (by simp <;> rfl) (by simp <;> rfl) rd_nil (by omega) (by omega) fun o h2 m hle2 _ => ?_
  have hc2 := cellH_mono hle2 hc1
  have hv2 := hv1.mono hle2
  simp [hc2, hv2.len]
  refine lwp_range [1, 3, 11, 12, 13] (fun (_ : View) k => [.pointer (some ⟨h.size, 0, none⟩), o, v, .int .i64 l.length, .int .i64 k]) (fun W k h3 => Mine nothing h1 h3 W 23 o (rows (fun i => keptS (nth l i).to l.length) k ++ List.replicate (l.length - k) [])) l.length nothing
    rfl (by omega) rfl m (fun _ _ => rfl) (fun v k h1 hk m => by simp) ?_ ?_
  · rintro W a h3 hlta m K2 hK2
    have hle3 := m.old
    have hc3 := cellH_mono hle3 hc1
    have hv3 := hv1.mono hle3
    obtain ⟨u, hu1, hu2⟩ := blk_whole hv3 (View.le_refl _) hlta
    obtain ⟨p1, p2, p3, p4, p5, p6, rfl, hone, hto⟩ := rd_tob.1 hu2
    have hal := hs a hlta
    have hl5 : (rows (fun i => keptS (nth l i).to l.length) a ++ List.replicate (l.length - a) ([] : List Int)).length = l.length := by simp; omega
    refine lwp_hide fun z hz => ?_
    simp (disch := omega) [hv3.idxn (N := 6) rfl, hu1]
    refine do_alloc (z := .agg #[.slice none 0 0, .slice none 0 0, .int .i64 0, .slice none 0 0, .slice none 0 0, .int .i32 0]) (by kernel_rfl) ?_
    simp
    obtain ⟨cur, hcur⟩ : ∃ cur : Array Value, cur = #[.slice none 0 0, .slice none 0 0, .int .i64 0, .slice none 0 0, .slice none 0 0, .int .i32 0] := ⟨_, rfl⟩
    rw [← hcur]
    have hcs : cur.size = 6 := by rw [hcur]; rfl
    refine do_store (g := h3.size) (o := 0) (n := 6) (e := 54) (cur := cur) (v := .agg #[p1, p2, p3, p4, p5, p6]) (by kernel_rfl) (by simp) (by simp) rfl (by simpa using hone) (by simp) (by omega) fun h4 hsz4 ⟨row, hrow4, he4⟩ hoth4 => ?_
    have hle4 : (vw h3).le (vw h4) := fun b o hb => by
      have hlt := View.lt (View.le_refl (vw h3)) hb
      show h4[b]? = _
      rw [hoth4 b (by omega)]
      exact push_le _ _ b o hb
    have hrow : row = #[p1, p2, p3, p4, p5, p6] := by
      rw [← Array.toList_inj, he4]
      simp only [List.take_zero, List.nil_append, Nat.zero_add]
      rw [List.drop_eq_nil_of_le (by simp [hcs])]; simp [Value.cells]
    rw [hrow] at hrow4
    have hto4 : cellH (vw h4) ⟨h3.size, 4, none⟩ = some p5 := cellH_blk (c := #[p1, p2, p3, p4, p5, p6]) (T := 54) (fz := (0, 0)) hrow4 rfl
    have hc4 := cellH_mono hle4 hc3
    have hv4 := hv3.mono hle4
    rw [hz]; clear hz z
    simp [hto4, hc4, hv4.len]
    refine call_to (by kernel_rfl) (kept_ok (hto.mono hle4) (by omega)) ?_
    rintro r h5 ⟨W', mr⟩
    have m5 := (m.ext' hle4).ext mr.old
    have hr := mr.fresh.mono (fresh_grow W _ _)
    simp (disch := omega) [m5.now.idx1 rfl]
    refine m5.put1 (α := List Int) (i := a) (by kernel_rfl) rfl (by simp) (by simp <;> rfl) (by omega) (rd_list.2 hr) fun h6 m6 => hK2 (grow W h4 h5) _ _ rfl rfl ?_
    rw [rows_set (x := fun i => keptS (nth l i).to l.length) hlta] at m6
    exact m6
  · rintro W h3 m
    simp at m
    simp
    exact hK _ _ ⟨View.le_trans hle1 m.old, m.fresh.mono (fresh_from hle1)⟩
end Go.Proofs.Ytaebcebflfgdiaa

namespace Go.Proofs.Ytaebcebflfgdiaa
open Go Go.Lft Chk
set_option linter.unusedSimpArgs false
set_option linter.unusedVariables false

theorem any_contains {t : List Int} {b : Int} : anyUp (fun i => decide (nth t i = b)) t.length = t.contains b := by
  rw [Bool.eq_iff_iff, any_iff, List.contains_iff_mem]
  constructor
  · rintro ⟨i, hi, h⟩
    rw [decide_eq_true_eq] at h
    rw [← h]; exact nth_mem hi
  · intro h
    obtain ⟨i, hi, e⟩ := List.getElem_of_mem h
    exact ⟨i, hi, by rw [nth_eq hi, e]; simp⟩

theorem refOf_ok {l : List ToB} {v : Value} {p : Int} {h : Heap} (hv : SlRd (vw h) v l) (hl : l.length ≤ 1000) (hs : ∀ i, i < l.length → (nth l i).to.length ≤ 1000) :
    HCalls Try.prog N.ref02_Of #[.agg #[.int .i64 p, v]] h (fun u h' => (vw h).le (vw h') ∧ SlRd (fresh h h') u (ofS l)) := by
  refine calls_lift (args := [.agg #[.int .i64 p, v]]) follows Try.func32 E.ref02_Of (by show 1 ≤ 60; decide) fun K hK => ?_
  dsimp only [L.ref02_Of]
  refine lwp_hide fun z hz => ?_
  simp
  refine do_box (v := .agg #[.int .i64 p, v]) (by simp) ?_
  have hle1 := push_le h (.cells (Value.agg #[.int .i64 p, v]).cells 48)
  have hc1 : cellH (vw (h.push (.cells (Value.agg #[.int .i64 p, v]).cells 48))) ⟨h.size, 1, none⟩ = some v := cellH_blk (c := #[.int .i64 p, v]) (T := 48) (fz := (0, 0)) (by simp [vw, Value.cells]) rfl
  generalize h.push (.cells (Value.agg #[.int .i64 p, v]).cells 48) = h1 at hle1 hc1
  have hv1 := hv.mono hle1
  rw [hz]; clear hz z
  refine lwp_hide fun z hz => ?_
  simp
  rw [hz]; clear hz z
  refine lwp_hide fun z hz => ?_
  simp
  refine lwp_for [1, 3, 4] (fun (s : Value × View) k => [.pointer (some ⟨h.size, 0, none⟩), s.1, .int .i64 k]) (fun s k h2 => Mine nothing h1 h2 s.2 23 s.1 (rows (fun a => sift (fun b => (nth l a).to.contains (b : Int)) (fun b => (b : Int)) l.length) k)) l.length (.slice none 0 0, nothing)
    rfl (by omega) rfl (Mine.start (fun _ _ h => by cases h)) (fun _ _ => rfl) (fun s k h2 hk m => by simp [cellH_mono m.old hc1, hv1.len]) ?_ ?_
  · rintro ⟨o, W⟩ a h2 hlta m K2 hK2
    obtain ⟨tv, ht, rto⟩ := blk_to hv1 hlta
    have hal := hs a hlta
    simp
    refine lwp_for [1, 3, 4, 5, 6] (fun (r : Value) b => [.pointer (some ⟨h.size, 0, none⟩), o, .int .i64 a, r, .int .i64 b]) (fun r b h3 => Mine nothing h2 h3 nothing 3 r (sift (fun b => (nth l a).to.contains (b : Int)) (fun b => (b : Int)) b)) l.length (.slice none 0 0)
      rfl (by omega) rfl (Mine.start (fun _ _ h => by cases h)) (fun _ _ => rfl) (fun r k h3 hk m2 => by simp [cellH_mono (View.le_trans m.old m2.old) hc1, hv1.len]) ?_ ?_
    · rintro r b h3 hltb m2 K3 hK3
      have hle3 := View.le_trans m.old m2.old
      have hc3 := cellH_mono hle3 hc1
      have hv3 := hv1.mono hle3
      have rto3 := rto.mono hle3
      have ht3 := ht (vw h3) hle3
      simp
      refine lwp_for [1, 3, 4, 5, 6, 7, 8] (fun (_ : Unit) i => [.pointer (some ⟨h.size, 0, none⟩), o, .int .i64 a, r, .int .i64 b, .bool (anyUp (fun i => decide (nth (nth l a).to i = b)) i), .int .i64 i]) (fun _ i h4 => h4 = h3) (nth l a).to.length ()
        rfl (by omega) rfl rfl (fun _ _ => rfl) (fun r k h4 hk e => by
          subst e
          simp (disch := omega) [hc3, hv3.idxn (N := 6) rfl]
          simp only [un_fld, Option.bind_some, un_load, ht3, rto3.len]) ?_ ?_
      · rintro _ i h4 hi rfl K4 hK4
        simp (disch := omega) [hc3, hv3.idxn (N := 6) rfl]
        simp (disch := omega) only [un_fld, Option.bind_some, un_load, ht3, rto3.idx1 rfl, rto3.int (View.le_refl _)]
        simp (disch := omega) [rto3.int (View.le_refl _)]
        exact hK4 () _ _ rfl (by rw [anyUp_succ]; rfl) rfl
      · rintro _ h4 rfl
        rw [any_contains]
        simp [condP_bool]
        have := sift_len (p := fun b => (nth l a).to.contains (b : Int)) (x := fun b => (b : Int)) b
        refine ⟨fun he => ?_, fun he => hK3 r _ _ rfl rfl (by rw [sift_false (by simpa using he)]; exact m2)⟩
        refine m2.push elem23 (by simp <;> rfl) (rd_i (by omega) (by omega)) (by omega) (by omega) (fun _ => by simp) (fun _ => by simp) fun u v' h3 m' => hK3 v' _ _ rfl rfl (by rw [sift_true (by simpa using he)]; exact m')
    · intro r h3 m2
      simp
      have mm := m.ext m2.old
      refine mm.push elem22 (by simp <;> rfl) (rd_list.2 (m2.fresh.mono (fresh_grow _ _ _))) (by simp; omega) (by simp; omega) (fun _ => by simp) (fun _ => by simp) fun u v' h4 m' => hK2 (v', _) _ _ rfl rfl (by rw [rows_succ]; exact m')
  · rintro ⟨o, W⟩ h2 m
    rw [hz]
    simp
    exact hK _ _ ⟨View.le_trans hle1 m.old, m.fresh.mono (fresh_from hle1)⟩
end Go.Proofs.Ytaebcebflfgdiaa

namespace Go.Proofs.Ytaebcebflfgdiaa
open Go Go.Lft Chk
set_option linter.unusedSimpArgs false
set_option linter.unusedVariables false

theorem elem46 : ElemT Try.prog 46 54 6 112 (.agg #[.slice none 0 0, .slice none 0 0, .int .i64 0, .slice none 0 0, .slice none 0 0, .int .i32 0]) := elemT_of (by kernel_rfl) (by kernel_rfl) rfl (by decide)

structure OfJ (h1 h : Heap) (B : Nat) (v : Value) (l : List ToB) : Prop where
  le : (vw h1).le (vw h)
  box : h[B]? = some (.cells #[.int .i64 0, v] 48 (0, 0))
  own : OwnT (vw h1) h 54 v l
  nv : v.ownBlock ≠ some B
  av : Av (vw h1) v

theorem graphOf_ok {l : Gr} {vl : Value} {h : Heap} (hl : SlRd (vw h) vl l) : HCalls Try.prog N.law02_GraphOf #[vl] h (fun v h' => v = .bool true ∧ (vw h).le (vw h')) := by
  refine calls_lift (args := [vl]) follows Try.func11 E.law02_GraphOf (by show 1 ≤ 43; decide) fun K hK => ?_
  dsimp only [L.law02_GraphOf]
  refine lwp_hide fun z hz => ?_
  simp
  rw [hz]; clear hz z
  refine lwp_hide fun z hz => ?_
  simp
  refine call_to (by kernel_rfl) awake_ok ?_
  rintro _ h1 ⟨rfl, hle⟩
  have hl1 := hl.mono hle
  have bl := hl.bound
  rw [hz]; clear hz z
  refine lwp_hide fun z hz => ?_
  simp
  refine do_alloc (z := .agg #[.int .i64 0, .slice none 0 0]) (by kernel_rfl) ?_
  have hle2 := push_le h1 (.cells (Value.agg #[.int .i64 0, .slice none 0 0]).cells 48)
  have hB2 : (h1.push (.cells (Value.agg #[.int .i64 0, .slice none 0 0]).cells 48))[h1.size]? = some (.cells #[.int .i64 0, .slice none 0 0] 48 (0, 0)) := by simp [Value.cells]
  generalize h1.push (.cells (Value.agg #[.int .i64 0, .slice none 0 0]).cells 48) = h2 at hle2 hB2
  rw [hz]; clear hz z
  refine lwp_hide fun z hz => ?_
  simp
  obtain ⟨rv, hrv⟩ := hl1.rows
  refine lwp_loop [0, 3, 4, 5] (fun n ρ h' => ∃ (k : Nat) (v : Value), k ≤ min l.length 12 ∧ ρ = [(0, vl), (3, .bool true), (4, .pointer (some ⟨h1.size, 0, none⟩)), (5, .int .i64 k)] ∧ n = min l.length 12 - k ∧ OfJ h1 h' h1.size v (rows (fun i => ToB.mk ((nth l i).take 5)) k)) (min l.length 12)
    ⟨0, _, by omega, rfl, rfl, hle2, hB2, OwnT.nil .., by simp [Value.ownBlock], Av.nil _ _ _⟩ ?_
  rintro n ρ h3 ⟨k, v, hk, rfl, rfl, J⟩ K2 hK2
  have hl3 := hl1.mono J.le
  have hBlt : h1.size < h3.size := (Array.getElem?_eq_some_iff.1 J.box).1
  have hcv : cellH (vw h3) ⟨h1.size, 1, none⟩ = some v := cellH_blk (c := #[.int .i64 0, v]) (T := 48) (fz := (0, 0)) J.box rfl
  -- the end
  have fin : k = min l.length 12 → LC.wp Try.prog z (fnPost [.tmp 2] K) [(0, vl), (3, .bool true), (4, .pointer (some ⟨h1.size, 0, none⟩)), (5, .int .i64 k)] h3 := by
    intro hk
    rw [hk] at J
    have hbl := J.own.now J.le
    have hln : (rows (fun i => ToB.mk ((nth l i).take 5)) (min l.length 12)).length ≤ 12 := by simp; omega
    have hto : ∀ i, i < (rows (fun i => ToB.mk ((nth l i).take 5)) (min l.length 12)).length → (nth (rows (fun i => ToB.mk ((nth l i).take 5)) (min l.length 12)) i).to.length ≤ 1000 := fun i hi => by
      rw [nth_rows (by simpa using hi)]
      show ((nth l i).take 5).length ≤ 1000
      rw [List.length_take]; omega
    generalize rows (fun i => ToB.mk ((nth l i).take 5)) (min l.length 12) = bs at hbl hln hto
    have hload : Un.ev (vw h3) (.loads 2) (.pointer (some ⟨h1.size, 0, none⟩)) = some (.agg #[.int .i64 0, v]) := by
      have hat : cellsAt (vw h3) ⟨h1.size, 0, none⟩ [.int .i64 0, v] := ⟨_, _, _, rfl, J.box, rfl⟩
      have := cellsFrom_at hat 2 0 #[] (by simp)
      simp [Un.ev, vP, this]
    have hle3 := View.le_trans hle J.le
    rw [hz]; clear hz
    refine lwp_hide fun z hz => ?_
    refine drawn_at (vw h3) (View.le_refl _) ?_
    refine reg_hide fun z2 hz2 => ?_
    simp [hload]
    refine call_to (by kernel_rfl) (graphOf_graph_ok hbl (by omega) hto) ?_
    rintro o1 h4 ⟨hle4, r1⟩
    have r1 := r1.mono (fresh_le _ _)
    refine ⟨hle4, ?_⟩
    rw [hz2]; clear hz2 z2
    refine reg_hide fun z2 hz2 => ?_
    simp
    refine call_to (by kernel_rfl) (refOf_ok (hbl.mono hle4) (by omega) hto) ?_
    rintro o2 h5 ⟨hle5, r2⟩
    have r1 := r1.mono hle5
    have r2 := r2.mono (fresh_le _ _)
    refine ⟨View.le_trans hle4 hle5, ?_⟩
    rw [hz2]; clear hz2 z2
    simp
    refine call_to (by kernel_rfl) (rows_ok r1 r2) ?_
    rintro _ h6 ⟨rfl, rfl⟩
    rw [of_eq, beq_self_eq_true]
    refine ⟨View.le_trans hle4 hle5, ?_⟩
    rw [hz]
    simp
    exact hK _ _ ⟨rfl, View.le_trans hle3 (View.le_trans hle4 hle5)⟩
  by_cases hlt : k < l.length
  · by_cases h12 : (k : Int) < 12
    · obtain ⟨cv, rr⟩ := hrv k hlt
      have hmin : (if (5 : Int) < (nth l k).length then (5 : Int) else ((nth l k).length : Int)) = ((min (nth l k).length 5 : Nat) : Int) := by split <;> omega
      obtain ⟨u, hu1, hu2⟩ := rr.take (n := min (nth l k).length 5) (by omega) (kd := .i64)
      have htake : (nth l k).take (min (nth l k).length 5) = (nth l k).take 5 := by
        rcases Nat.le_total (nth l k).length 5 with h | h
        · rw [Nat.min_eq_left h, List.take_of_length_le h, List.take_of_length_le (by omega)]
        · rw [Nat.min_eq_right h]
      rw [htake] at hu2
      obtain ⟨ua, uc, hue, _⟩ := id hu2
      simp (disch := omega) [L.law02_GraphOf.l1, hl.len, hlt, h12]
      refine drawn_at (vw h3) (View.le_refl _) ?_
      refine reg_hide fun z hz => ?_
      simp (disch := omega) [hl3.idx1 rfl, cv _ J.le, rr.len, hmin, hu1, hcv]
      refine do_build (z := .agg #[.int .i64 0, .slice none 0 0, .slice none 0 0, .int .i32 0]) (places := [(0, 1), (1, 1), (2, 1), (3, 1)]) (vs := [(0, .int .i64 3), (2, u)]) (cs := #[.int .i64 3, .slice none 0 0, u, .int .i32 0]) (by kernel_rfl) (by kernel_rfl) (by simp) ?_ ?_
      · subst hue; rfl
      refine ⟨View.le_refl _, ?_⟩
      rw [hz]; clear hz z
      refine reg_hide fun z hz => ?_
      simp
      refine do_build (z := .agg #[.slice none 0 0, .slice none 0 0, .int .i64 0, .slice none 0 0, .slice none 0 0, .int .i32 0]) (places := [(0, 1), (1, 1), (2, 4)]) (vs := [(2, .agg #[.int .i64 3, .slice none 0 0, u, .int .i32 0])]) (cs := #[.slice none 0 0, .slice none 0 0, .int .i64 3, .slice none 0 0, u, .int .i32 0]) (by kernel_rfl) (by kernel_rfl) (by simp) ?_ ?_
      · subst hue; rfl
      refine ⟨View.le_refl _, ?_⟩
      rw [hz]; clear hz z
      refine reg_hide fun z hz => ?_
      simp
      have hrd : Rd (vw h1) (.agg #[.slice none 0 0, .slice none 0 0, .int .i64 3, .slice none 0 0, u, .int .i32 0]) (ToB.mk ((nth l k).take 5)) := rd_tob.2 ⟨_, _, _, _, _, _, rfl, by subst hue; simp [Value.oneCell'], hu2⟩
      refine do_one (α := ToB) elem46 (by simp <;> rfl) hrd fun u1 h4 hs4 hle4 hsz4 => ?_
      refine ⟨hle4, ?_⟩
      rw [hz]; clear hz z
      refine reg_hide fun z hz => ?_
      simp
      have own4 := J.own.ext hle4
      have hB4 : h4[h1.size]? = some (.cells #[.int .i64 0, v] 48 (0, 0)) := hle4 _ _ J.box
      have hrl : (rows (fun i => ToB.mk ((nth l i).take 5)) k).length = k := by simp
      refine do_append elem46 (by simp <;> rfl) (by simp <;> rfl) own4 hs4 (by simp; omega) (by simp; omega) fun v' h5 o5 m5 => ?_
      rw [hz]; clear hz z
      have hB5 : h5[h1.size]? = some (.cells #[.int .i64 0, v] 48 (0, 0)) := by rw [m5.kept.block _ (by omega) (fun e => J.nv e.symm)]; exact hB4
      obtain ⟨hw5, ha5⟩ := m5.view (View.le_trans J.le hle4) J.av
      have nv5 : v'.ownBlock ≠ some h1.size := by
        rcases m5.at_ with e | e
        · rw [e]; exact J.nv
        · rw [e]; intro e2; simp only [Option.some.injEq] at e2; omega
      obtain ⟨hvc, hvo⟩ := cells_own o5
      simp (disch := omega)
      refine do_store (g := h1.size) (o := 1) (n := 1) (v := v') (by kernel_rfl) (by simp) (by simp) (by rw [hvc]; rfl) (by rw [hvc]; simpa using hvo) hB5 (by simp) fun h6 hsz6 ⟨row, hrow6, he6⟩ hoth6 => ?_
      have hrow : row = #[.int .i64 0, v'] := by rw [← Array.toList_inj, he6, hvc]; rfl
      rw [hrow] at hrow6
      refine hK2 _ _ _ (by omega) ⟨k + 1, v', by omega, rfl, rfl, fun b o hb => ?_, hrow6, ?_, nv5, ha5⟩
      · have hlt := View.lt (View.le_refl (vw h1)) hb
        show h6[b]? = _
        rw [hoth6 b (by omega)]; exact hw5 b o hb
      · rw [rows_succ]
        exact o5.same fun b hb => hoth6 b fun e => nv5 (by rw [hb, e])
    · simp (disch := omega) [L.law02_GraphOf.l1, hl.len, hlt, h12]
      exact fin (by omega)
  · simp (disch := omega) [L.law02_GraphOf.l1, hl.len, hlt]
    exact fin (by omega)
end Go.Proofs.Ytaebcebflfgdiaa

/- For every input GraphOf returns true: a graph of a function is told as the document says. No condition. -/
namespace Go.Proofs.Ytaebcebflfgdiaa
open Go Go.Lft Go.ChangeShapes Go.WideShapes Go.ChangeAt Go.RowKit

theorem Try.own : ownKnob Try.prog.godebug = none := by kernel_rfl
theorem Try.laidOut : laidOutB Try.prog = true := by kernel_rfl
theorem rt3 : RT Try.prog 3 Int := rt_int (by kernel_rfl)
theorem rt23 : RT Try.prog 23 (List Int) := rt_slice (e := 3) (by kernel_rfl) (by kernel_rfl) (of_decide_eq_true (by kernel_rfl)) rt3
theorem rt22 : RT Try.prog 22 (List (List Int)) := rt_slice (e := 23) (by kernel_rfl) (by kernel_rfl) (of_decide_eq_true (by kernel_rfl)) rt23

theorem graphOf_lifted (os : Os) (started : os.Started) (H : Type) (enc : TypeId × Value → H) :
    ReturnsInHanded {} Try.checked os 11 .any (Rows.graphOfSpec.pre6 enc Try.prog Try.f11 Rows.graphOfRow.domain false) (Rows.graphOfSpec.post enc Try.prog Try.f11 false true false false) :=
  law1 (C := Try.checked) Try.own started (by kernel_rfl) Try.func11 rfl
    (ChangeSpec.witness6 (enc := enc) (C := Try.checked) false ⟨#[], #[.slice none 0 0], []⟩ 8 (by kernel_rfl) (by kernel_rfl) (by kernel_rfl) (by kernel_rfl))
    Try.laidOut (fun t ht => by
      rw [Try.params11] at ht
      simp only [List.mem_cons, List.not_mem_nil, or_false] at ht
      subst ht
      exact ⟨by kernel_rfl, of_decide_eq_true (by kernel_rfl)⟩) rfl
    (fun ds hds => by
      match ds, hds with
      | [d], _ => rfl) rfl (tb := 4) (by kernel_rfl) Try.params11 rt22 fun h v1 x1 h1 => graphOf_ok (rd_list.1 h1)

theorem graphOf_holds : Rows.GraphOfSaid :=
  OpenClaim.holds_of_wide 11 Try.f11 rfl rfl rfl rfl rfl rfl rfl ⟨rfl, rfl, rfl, rfl, rfl⟩ rfl rfl rfl rfl rfl (by kernel_rfl) Try.func11 (by kernel_rfl)
    (of_decide_eq_true (by kernel_rfl)) (by unfold Func.isWrapper; first | (rw [if_pos (by decide +kernel)]; kernel_rfl) | (rw [if_neg (by decide +kernel)]; exact ⟨rfl, rfl⟩))
    (fun os started H enc _ => graphOf_lifted os started H enc)
end Go.Proofs.Ytaebcebflfgdiaa

