/- A part of the proof: Pg, Ph, Pi, Pj, Vc, Vd, Pk, Ve, Pl, Vf, Pm, Vg, Pn. -/
import Derived.Test.YtaebcebflfgdiaaZOf5
/- Plain laws of graphs: the code's immediate dominators are the document's. -/
namespace Go.Proofs.Ytaebcebflfgdiaa
open Go Go.Lft Chk
set_option linter.unusedSimpArgs false
set_option linter.unusedVariables false

def sumTo (w : Nat → Nat) : Nat → Nat
  | 0 => 0
  | n + 1 => sumTo w n + w n
theorem sum_le {w w' : Nat → Nat} : ∀ {n : Nat}, (∀ b, b < n → w' b ≤ w b) → sumTo w' n ≤ sumTo w n
  | 0, _ => Nat.le_refl _
  | n + 1, h => Nat.add_le_add (sum_le fun b hb => h b (by omega)) (h n (by omega))
theorem sum_lt {w w' : Nat → Nat} {c : Nat} : ∀ {n : Nat}, (∀ b, b < n → w' b ≤ w b) → c < n → w' c < w c → sumTo w' n < sumTo w n
  | 0, _, h, _ => by omega
  | n + 1, h, hc, hlt => by
    rcases Nat.lt_or_ge c n with h1 | h1
    · have := sum_lt (n := n) (fun b hb => h b (by omega)) h1 hlt
      have := h n (by omega)
      simp only [sumTo]; omega
    · obtain rfl : c = n := by omega
      have := sum_le (n := c) fun b hb => h b (by omega)
      simp only [sumTo]; omega
theorem sum_bound {w : Nat → Nat} {m : Nat} : ∀ {n : Nat}, (∀ b, b < n → w b ≤ m) → sumTo w n ≤ n * m
  | 0, _ => by simp [sumTo]
  | n + 1, h => by
    have := sum_bound (n := n) fun b hb => h b (by omega)
    have := h n (by omega)
    rw [sumTo, Nat.succ_mul]; omega

section
variable {g : Gr} {f : Nat → Nat} {k : Nat} {out : List Int}

def wt (g : Gr) (out : List Int) (b : Nat) : Nat := if nth out b < 0 then g.length else rk g (st out b)
def mu (g : Gr) (out : List Int) : Nat := sumTo (wt g out) g.length

theorem Good.set (G : Good g f k out) (C : Ch (Rg g) (rk g) (Eg g) f (Dm g)) {c q : Nat} (hR : Rg g c) (hc : c ≠ 0) (hk : rk g c = k) (T : Turn (Rg g) (rk g) (Eg g) (st out) (pd out) c q) (ch : Bool) :
    Good g f (k + 1) (setS out ch c q).1 ∧ mu g (setS out ch c q).1 ≤ mu g out ∧ ((setS out ch c q).2 = true → ch = true ∨ mu g (setS out ch c q).1 < mu g out) ∧ ((setS out ch c q).2 = false → ch = false ∧ (setS out ch c q).1 = out ∧ st out c = q ∧ pd out c) := by
  have hlt := hR.lt
  have hol := G.len
  obtain ⟨hq, hqn⟩ := G.ok_lt C T.ok
  have I := G.inv.turn C hR hc hk T
  by_cases e : nth out c = q
  · have hs : setS out ch c q = (out, ch) := by simp [setS, e]
    rw [hs]
    have hst : upd (st out) c q = st out := by
      funext b; unfold upd
      split
      · rename_i hb; subst hb; simp [st, e]
      · rfl
    have hpd : add (pd out) c = pd out := by
      funext b
      refine propext ⟨fun h => ?_, .inr⟩
      rcases h with rfl | h
      · exact ⟨by omega, by omega⟩
      · exact h
    rw [hst, hpd] at I
    exact ⟨⟨G.len, G.rng, I⟩, Nat.le_refl _, .inl, fun h => ⟨h, rfl, by simp [st, e], by omega, by omega⟩⟩
  · have hs : setS out ch c q = (out.set c q, true) := by simp [setS, e]
    rw [hs]
    have hn : ∀ b, b < g.length → nth (out.set c q) b = if c = b then (q : Int) else nth out b := fun b hb => nth_set (by omega)
    have hst : st (out.set c q) = upd (st out) c q := by
      funext b; unfold upd st
      rcases Nat.lt_or_ge b out.length with hb | hb
      · rw [nth_set hb]
        by_cases h : c = b
        · rw [if_pos h, if_pos h.symm]; simp
        · rw [if_neg h, if_neg (Ne.symm h)]
      · rw [nth_ge (by simpa using hb), nth_ge hb, if_neg (by omega)]
    have hpd : pd (out.set c q) = add (pd out) c := by
      funext b
      refine propext ?_
      unfold pd add
      rw [List.length_set]
      constructor
      · rintro ⟨h1, h2⟩
        rw [nth_set h1] at h2
        by_cases h : c = b
        · exact .inl h.symm
        · rw [if_neg h] at h2; exact .inr ⟨h1, h2⟩
      · rintro (rfl | ⟨h1, h2⟩)
        · exact ⟨by omega, by rw [nth_set (by omega), if_pos rfl]; omega⟩
        · refine ⟨h1, ?_⟩
          rw [nth_set h1]
          split
          · omega
          · exact h2
    have hw : ∀ b, b < g.length → wt g (out.set c q) b ≤ wt g out b ∧ (b = c → wt g (out.set c q) b < wt g out b) := by
      intro b hb
      by_cases h : c = b
      · subst h
        have e1 : wt g (out.set c q) c = rk g q := by
          unfold wt
          rw [hn c hb, if_pos rfl, if_neg (by omega), hst]; simp [upd]
        have e2 : rk g q < wt g out c := by
          unfold wt
          split
          · exact rk_n hq
          · rename_i h1
            have hp : pd out c := ⟨by omega, by omega⟩
            rcases G.inv.rises T hp with h2 | h2
            · exfalso
              have := Int.toNat_of_nonneg hp.2
              unfold st at h2
              omega
            · exact h2
        omega
      · have e1 : wt g (out.set c q) b = wt g out b := by
          unfold wt st
          rw [hn b hb, if_neg h]
        exact ⟨by omega, fun e => absurd e.symm h⟩
    have hmu : mu g (out.set c q) < mu g out := sum_lt (fun b hb => (hw b hb).1) hlt ((hw c hlt).2 rfl)
    refine ⟨⟨by simpa using hol, fun b hb => ?_, by rw [hst, hpd]; exact I⟩, by show mu g (out.set c q) ≤ _; omega, fun _ => .inr hmu, fun h => by cases h⟩
    rw [hn b hb]
    split
    · right; omega
    · exact G.rng b hb

theorem sweep_spec (C : Ch (Rg g) (rk g) (Eg g) f (Dm g)) : ∀ (l : List Int) (k : Nat) (out : List Int) (ch : Bool), l = (gOrderS g).drop k → 1 ≤ k → k ≤ (gOrderS g).length → Good g f k out →
    ∃ out' ch', sweepS (numberS g.length (gOrderS g)) (predsG g) g.length l (out, ch) = some (out', ch') ∧ Good g f (gOrderS g).length out' ∧ mu g out' ≤ mu g out ∧ (ch' = true → ch = true ∨ mu g out' < mu g out) ∧
      (ch' = false → ch = false ∧ out' = out ∧ ∀ c : Nat, (c : Int) ∈ l → pd out c ∧ Turn (Rg g) (rk g) (Eg g) (st out) (pd out) c (st out c))
  | [], k, out, ch, hl, _, hk, G => by
    have hk2 : (gOrderS g).length ≤ k := by
      have := congrArg List.length hl
      simp only [List.length_nil, List.length_drop] at this; omega
    obtain rfl : k = (gOrderS g).length := by omega
    exact ⟨out, ch, rfl, G, Nat.le_refl _, .inl, fun h => ⟨h, rfl, by simp⟩⟩
  | b :: l, k, out, ch, hl, h1, hk, G => by
    have hlt : k < (gOrderS g).length := by
      have := congrArg List.length hl
      simp only [List.length_cons, List.length_drop] at this; omega
    rw [List.drop_eq_getElem_cons hlt] at hl
    obtain ⟨hb, hl2⟩ := List.cons.inj hl
    have hmem : b ∈ gOrderS g := by rw [hb]; exact List.getElem_mem _
    have hg : 0 < g.length := by have := gOrder_len (g := g); omega
    have O := order_is hg
    have hr := O.rng b hmem
    obtain ⟨c, rfl⟩ := Int.eq_ofNat_of_zero_le hr.1
    have hR : Rg g c := (O.mem c).1 hmem
    have hrk : rk g c = k := by
      unfold rk; rw [hb, List.Nodup.idxOf_getElem O.nodup]
    have hc0 : c ≠ 0 := fun e => by subst e; rw [rk_zero hg] at hrk; omega
    obtain ⟨q, h3, T⟩ := turn_spec G C hR hc0 hrk
    rw [sweepS, if_pos hr, Int.toNat_natCast]
    simp only
    rw [h3]
    simp only [Option.bind_some]
    obtain ⟨g1, g2, g3, g4⟩ := G.set C hR hc0 hrk T ch
    have e : setS out ch c q = ((setS out ch c q).1, (setS out ch c q).2) := rfl
    rw [e]
    generalize hs1 : (setS out ch c q).1 = o1 at g1 g2 g3 g4
    generalize hs2 : (setS out ch c q).2 = c1 at g3 g4
    obtain ⟨out', ch', k1, k2, k3, k4, k5⟩ := sweep_spec C l (k + 1) o1 c1 hl2 (by omega) (by omega) g1
    refine ⟨out', ch', k1, k2, by omega, fun h => ?_, fun h => ?_⟩
    · rcases k4 h with h4 | h4
      · rcases g3 h4 with h5 | h5
        · exact .inl h5
        · exact .inr (by omega)
      · exact .inr (by omega)
    · obtain ⟨h4, rfl, h6⟩ := k5 h
      obtain ⟨h7, rfl, h8, h9⟩ := g4 h4
      refine ⟨h7, rfl, fun x hx => ?_⟩
      rcases List.mem_cons.1 hx with hx | hx
      · obtain rfl : x = c := by omega
        exact ⟨h9, h8 ▸ T⟩
      · exact h6 x hx

theorem Good.one (hg : 0 < g.length) (G : Good g f 0 out) : Good g f 1 out := by
  have I := G.inv
  have h0 : ∀ b, Rg g b → b ≠ 0 → ¬ rk g b < 1 := fun b hR hb h => hb (rk_inj hR (.root hg (by decide)) (by rw [rk_zero hg]; omega))
  exact ⟨G.len, G.rng, ⟨I.pr, fun b hR hb h => absurd h (h0 b hR hb), I.fok, I.K, fun b hb y hy _ => I.FP b hb y hy (by omega), fun b hb h => absurd h (h0 b (I.pr b hb).1 (I.pr b hb).2.1), I.S⟩⟩

/-- What comes of it all. -/
structure IdomIs (g : Gr) (f : Nat → Nat) (l : List Int) : Prop where
  good : Good g f (gOrderS g).length l
  turn : ∀ c, Rg g c → c ≠ 0 → pd l c ∧ Turn (Rg g) (rk g) (Eg g) (st l) (pd l) c (st l c)

theorem loop_spec (hg : 0 < g.length) (C : Ch (Rg g) (rk g) (Eg g) f (Dm g)) : ∀ (fuel : Nat) (out : List Int), Good g f 0 out → mu g out < fuel →
    ∃ l, idomLoop (numberS g.length (gOrderS g)) (predsG g) g.length ((gOrderS g).drop (min 1 (gOrderS g).length)) fuel out = some l ∧ IdomIs g f l
  | 0, _, _, h => by omega
  | fuel + 1, out, G, h => by
    have O := order_is hg
    have hlen : 0 < (gOrderS g).length := by
      rcases Nat.eq_zero_or_pos (gOrderS g).length with h | h
      · have := O.head; rw [List.eq_nil_of_length_eq_zero h] at this; cases this
      · exact h
    have hm : min 1 (gOrderS g).length = 1 := by omega
    rw [idomLoop, hm]
    obtain ⟨out', ch', k1, k2, k3, k4, k5⟩ := sweep_spec C ((gOrderS g).drop 1) 1 out false rfl (Nat.le_refl _) hlen (G.one hg)
    rw [k1]
    simp only [Option.bind_some]
    cases ch' with
    | true =>
      rw [if_pos rfl]
      have := loop_spec hg C fuel out' ⟨k2.len, k2.rng, k2.inv.again fun b hb => rk_lt hb⟩ (by rcases k4 rfl with h1 | h1; cases h1; omega)
      rwa [hm] at this
    | false =>
      rw [if_neg (by simp)]
      obtain ⟨_, rfl, h6⟩ := k5 rfl
      refine ⟨_, rfl, k2, fun c hR hc => h6 c ?_⟩
      have hmem := (O.mem c).2 hR
      obtain ⟨i, hi, e⟩ := List.getElem_of_mem hmem
      have hi0 : i ≠ 0 := fun h0 => by
        subst h0
        have := O.head
        rw [List.getElem?_eq_getElem hi] at this
        have := Option.some.inj this
        omega
      rw [← e]
      refine List.mem_iff_getElem.2 ⟨i - 1, by rw [List.length_drop]; omega, ?_⟩
      rw [List.getElem_drop]
      congr 1
      omega

theorem idom_spec (hg : 0 < g.length) : ∃ f, Ch (Rg g) (rk g) (Eg g) f (Dm g) ∧ ∃ l, idomG g (g.length * g.length + 1) = some l ∧ IdomIs g f l := by
  obtain ⟨f, hf⟩ := has_par hg
  have C := ch_of hg hf
  refine ⟨f, C, ?_⟩
  refine loop_spec hg C _ _ ⟨by simp, fun b hb => .inl (nth_replicate hb), ?_⟩ ?_
  · have : pd (List.replicate g.length (-1)) = fun _ => False := by
      funext b
      refine propext ⟨fun ⟨h1, h2⟩ => ?_, fun h => h.elim⟩
      rw [nth_replicate (by simpa using h1)] at h2
      omega
    rw [this]
    exact Inv.start
  · have := sum_bound (w := wt g (List.replicate g.length (-1))) (m := g.length) (n := g.length) fun b hb => by
      unfold wt
      rw [nth_replicate hb, if_pos (by omega)]
      exact Nat.le_refl _
    unfold mu; omega

theorem idomLoop_more {number : List Int} {preds : Gr} {n : Nat} {tail : List Int} {l : List Int} : ∀ {m m' : Nat} {out : List Int}, m ≤ m' → idomLoop number preds n tail m out = some l → idomLoop number preds n tail m' out = some l
  | 0, _, _, _, h => by cases h
  | m + 1, 0, _, hm, _ => by omega
  | m + 1, m' + 1, out, hm, h => by
    rw [idomLoop] at h ⊢
    rw [Option.bind_eq_some_iff] at h ⊢
    obtain ⟨s, h1, h2⟩ := h
    refine ⟨s, h1, ?_⟩
    split at h2
    · rename_i hs; rw [if_pos hs]; exact idomLoop_more (by omega) h2
    · rename_i hs; rw [if_neg hs]; exact h2

/-- Chains and dominators are the same. -/
theorem IdomIs.anc {l : List Int} (I : IdomIs g f l) (C : Ch (Rg g) (rk g) (Eg g) f (Dm g)) {x b : Nat} (hb : Rg g b) : Anc (st l) x b ↔ Dm g x b := by
  have hok : ∀ b, Rg g b → Ok (pd l) b := fun b h => by
    by_cases e : b = 0
    · exact .inl e
    · exact .inr (I.turn b h e).1
  constructor
  · intro h
    have hx := (I.good.ok_lt C (I.good.inv.anc h (hok b hb)).1).1
    refine domC_iff.2 ⟨hx, hb, fun hre => ?_⟩
    have key : ∀ b, Re g x b → ¬ Anc (st l) x b := by
      intro b hre
      induction hre with
      | root h1 h2 => intro h; have := anc_zero.1 h; omega
      | step ha he hne ih =>
        rename_i a b
        intro h
        by_cases e : b = 0
        · subst e; have := anc_zero.1 h; omega
        · have hRb : Rg g b := .step ha.all he (by omega)
          have h3 := ((anc_iff e).1 h).resolve_left (by omega)
          exact ih (((I.turn b hRb e).2.q x).1 h3 a he ha.all (hok a ha.all))
    exact key b hre h
  · intro h
    exact I.good.inv.dom C (hok b hb) h
end
end Go.Proofs.Ytaebcebflfgdiaa

/- Plain laws of graphs: chains, edges back, headers, the document's immediate dominators, critical edges. -/
namespace Go.Proofs.Ytaebcebflfgdiaa
open Go Go.Lft Chk
set_option linter.unusedSimpArgs false
set_option linter.unusedVariables false

theorem any_iff {p : Nat → Bool} {n : Nat} : anyUp p n = true ↔ ∃ i, i < n ∧ p i = true := by
  unfold anyUp
  induction n with
  | zero => simp [up]
  | succ n ih =>
    rw [up, orStep, Bool.or_eq_true, ih]
    constructor
    · rintro (⟨i, h1, h2⟩ | h)
      · exact ⟨i, by omega, h2⟩
      · exact ⟨n, by omega, h⟩
    · rintro ⟨i, h1, h2⟩
      rcases Nat.lt_or_ge i n with h | h
      · exact .inl ⟨i, h, h2⟩
      · obtain rfl : i = n := by omega
        exact .inr h2
theorem all_iff {p : Nat → Bool} {n : Nat} : allUp p n = true ↔ ∀ i, i < n → p i = true := by
  unfold allUp
  induction n with
  | zero => simp [up]
  | succ n ih =>
    rw [up, andStep, Bool.and_eq_true, ih]
    constructor
    · rintro ⟨h1, h2⟩ i hi
      rcases Nat.lt_or_ge i n with h | h
      · exact h1 i h
      · obtain rfl : i = n := by omega
        exact h2
    · intro h
      exact ⟨fun i hi => h i (by omega), h n (by omega)⟩

section
variable {g : Gr} {f : Nat → Nat} {l : List Int}

theorem IdomIs.none (I : IdomIs g f l) {b : Nat} (hb : b < g.length) (h : ¬ Rg g b ∨ b = 0) : nth l b = -1 := by
  rcases I.good.rng b hb with h1 | h1
  · exact h1
  · exfalso
    have := I.good.inv.pr b ⟨by rw [I.good.len]; exact hb, h1.1⟩
    rcases h with h | h
    · exact h this.1
    · exact this.2.1 h

theorem chase_neg {a : Int} (ha : 0 ≤ a) : ∀ k, chase l a k (-1) = false
  | 0 => rfl
  | k + 1 => by rw [chase, if_neg (by omega), if_pos (.inl (by omega))]
theorem chase_spec (I : IdomIs g f l) (C : Ch (Rg g) (rk g) (Eg g) f (Dm g)) {a : Nat} : ∀ (k b : Nat), Rg g b → rk g b < k → (chase l a k b = true ↔ Anc (st l) a b)
  | 0, b, _, h => by omega
  | k + 1, b, hb, h => by
    have hlt := hb.lt
    have hll := I.good.len
    rw [chase]
    by_cases e : (b : Int) = a
    · rw [if_pos e]
      have : a = b := by omega
      subst this
      exact ⟨fun _ => .self, fun _ => rfl⟩
    · rw [if_neg e, if_neg (by omega), Int.toNat_natCast]
      by_cases h0 : b = 0
      · subst h0
        rw [I.none hlt (.inr rfl), chase_neg (by omega), anc_zero]
        constructor
        · intro h; cases h
        · intro h; omega
      · obtain ⟨hp, _⟩ := I.turn b hb h0
        obtain ⟨h1, h2, h3, h4⟩ := I.good.inv.pr b hp
        have e2 : nth l b = ((st l b : Nat) : Int) := (Int.toNat_of_nonneg hp.2).symm
        rw [e2, chase_spec I C k (st l b) (I.good.inv.okR C h3) (by omega), anc_iff h0]
        exact ⟨.inr, fun h => h.resolve_left (by omega)⟩
/-- Chains tell who dominates whom. -/
theorem dominates_reached (I : IdomIs g f l) (C : Ch (Rg g) (rk g) (Eg g) f (Dm g)) {a b : Nat} (ha : a < g.length) (hb : Rg g b) : dominatesS l a b = domC g a b := by
  have hlt := hb.lt
  have hll := I.good.len
  rw [dominatesS, decide_eq_true (by omega), Bool.true_and, Bool.eq_iff_iff, chase_spec I C _ _ hb (by have := rk_n hb; omega), I.anc C hb]
  rfl
theorem dominates_not (I : IdomIs g f l) {a b : Nat} (ha : a < g.length) (hb : b < g.length) (h : ¬ Rg g b) : dominatesS l a b = decide (a = b) := by
  have hll := I.good.len
  rw [dominatesS, decide_eq_true (by omega), Bool.true_and, chase]
  by_cases e : (b : Int) = a
  · rw [if_pos e, decide_eq_true (by omega)]
  · rw [if_neg e, if_neg (by omega), Int.toNat_natCast, I.none hb (.inl h), chase_neg (by omega), decide_eq_false (by omega)]
/-- An edge goes back. -/
theorem back_spec (I : IdomIs g f l) (C : Ch (Rg g) (rk g) (Eg g) f (Dm g)) {a b : Nat} (he : edgeS g a b = true) : backS l a b = domC g b a := by
  have hr := (edgeS_iff.1 he).1
  rw [backS, Int.toNat_natCast]
  by_cases ha : Rg g a
  · rw [dominates_reached I C (by omega) ha]
    have : (decide ((a : Int) = 0) || decide (0 ≤ nth l a)) = true := by
      by_cases h0 : a = 0
      · simp [h0]
      · have := (I.turn a ha h0).1.2
        simp [this]
    rw [this, Bool.true_and]
  · have h1 : domC g b a = false := by
      rw [Bool.eq_false_iff]; intro h; exact ha (domC_iff.1 h).2.1
    have h2 : nth l a = -1 := I.none (by omega) (.inl ha)
    have h0 : a ≠ 0 := fun e => ha (by subst e; exact .root (by omega) (by decide))
    rw [h1, h2]
    simp [h0]
theorem backE_spec (I : IdomIs g f l) (C : Ch (Rg g) (rk g) (Eg g) f (Dm g)) {e : Int × Int} (he : e ∈ edgesS g) : backE l e = domC g e.2.toNat e.1.toNat := by
  have h1 := mem_edges.1 he
  have hr := edgesS_in he
  have e1 := Int.toNat_of_nonneg hr.1.1
  have e2 := Int.toNat_of_nonneg hr.2.1
  have := back_spec I C (a := e.1.toNat) (b := e.2.toNat) (by rw [e1, e2]; exact h1)
  rw [e1, e2] at this
  exact this

theorem headers_eq (I : IdomIs g f l) (C : Ch (Rg g) (rk g) (Eg g) f (Dm g)) : headersG l g = headersS g := by
  refine strict_unique (compact_strict (sortS_sorted _)) sift_strict fun x => ?_
  rw [headersG, compact_mem_iff, sortS, List.mem_mergeSort, headersS, mem_sift, List.mem_map]
  simp only [List.mem_filter, headC]
  constructor
  · rintro ⟨e, ⟨h1, h2⟩, rfl⟩
    have hr := edgesS_in h1
    rw [backE_spec I C h1] at h2
    have e1 := Int.toNat_of_nonneg hr.1.1
    have e2 := Int.toNat_of_nonneg hr.2.1
    exact ⟨e.2.toNat, by omega, any_iff.2 ⟨e.1.toNat, by omega, by simp only [headP]; rw [e1, e2, mem_edges.1 h1, h2]; rfl⟩, e2⟩
  · rintro ⟨b, hb, h, rfl⟩
    obtain ⟨a, ha, h1⟩ := any_iff.1 h
    simp only [headP, Bool.and_eq_true] at h1
    have hm : ((a : Int), (b : Int)) ∈ edgesS g := mem_edges.2 h1.1
    exact ⟨(a, b), ⟨hm, by rw [backE_spec I C hm]; simpa using h1.2⟩, rfl⟩

theorem up_last {P : Nat → Prop} [DecidablePred P] {n : Nat} : up (fun a best => if P a then (a : Int) else best) n (-1) = -1 ∧ (∀ a, a < n → ¬ P a) ∨ ∃ a, a < n ∧ P a ∧ up (fun a best => if P a then (a : Int) else best) n (-1) = a := by
  induction n with
  | zero => exact .inl ⟨rfl, by omega⟩
  | succ n ih =>
    rw [up]
    by_cases h : P n
    · rw [if_pos h]; exact .inr ⟨n, by omega, h, rfl⟩
    · rw [if_neg h]
      rcases ih with ⟨h1, h2⟩ | ⟨a, h1, h2, h3⟩
      · refine .inl ⟨h1, fun a ha => ?_⟩
        rcases Nat.lt_or_ge a n with h4 | h4
        · exact h2 a h4
        · obtain rfl : a = n := by omega
          exact h
      · exact .inr ⟨a, by omega, h2, h3⟩
theorem idom_eq (I : IdomIs g f l) (C : Ch (Rg g) (rk g) (Eg g) f (Dm g)) : l = idomS g := by
  refine eq_of_nth (by rw [I.good.len]; simp [idomS]) fun b hb => ?_
  rw [I.good.len] at hb
  rw [idomS, nth_rows hb, bestS, bestUp]
  have hP : bestStep g b = fun (a : Nat) (best : Int) => if a ≠ b ∧ domC g a b = true ∧ lastC g a b = true then (a : Int) else best := by
    funext a best
    unfold bestStep
    by_cases h1 : a = b
    · simp [h1]
    · have h1' : ¬ (a : Int) = b := by omega
      by_cases h2 : domC g a b = true <;> by_cases h3 : lastC g a b = true <;> simp [h1, h1', h2, h3]
  rw [hP]
  have hlast : ∀ a, lastC g a b = true ↔ ∀ c, c < g.length → c = b ∨ ¬ domC g c b = true ∨ domC g c a = true := by
    intro a
    rw [lastC, all_iff]
    refine forall_congr' fun c => ?_
    refine imp_congr_right fun _ => ?_
    have e : ((c : Int) = b) ↔ c = b := by omega
    simp [lastP, or_assoc, e]
  rcases up_last (P := fun a => a ≠ b ∧ domC g a b = true ∧ lastC g a b = true) (n := g.length) with ⟨h1, h2⟩ | ⟨a, h1, ⟨h2, h3, h4⟩, h5⟩
  · rw [h1]
    by_cases hR : Rg g b
    · by_cases h0 : b = 0
      · exact I.none hb (.inr h0)
      · exfalso
        obtain ⟨hp, T⟩ := I.turn b hR h0
        obtain ⟨_, _, g3, g4⟩ := I.good.inv.pr b hp
        obtain ⟨gR, glt⟩ := I.good.ok_lt C g3
        have hne : st l b ≠ b := fun e => by rw [e] at g4; omega
        refine h2 (st l b) glt ⟨hne, (I.anc C hR).1 (.up h0 .self), (hlast _).2 fun c hc => ?_⟩
        by_cases hcb : c = b
        · exact .inl hcb
        · by_cases hd : domC g c b = true
          · refine .inr (.inr ((I.anc C gR).1 ?_))
            exact ((anc_iff h0).1 ((I.anc C hR).2 hd)).resolve_left hcb
          · exact .inr (.inl hd)
    · exact I.none hb (.inl hR)
  · rw [h5]
    have hR := (domC_iff.1 h3).2.1
    have hRa := (domC_iff.1 h3).1
    have h0 : b ≠ 0 := fun e => by
      subst e
      have := C.d0 a h3
      exact h2 this
    obtain ⟨hp, T⟩ := I.turn b hR h0
    obtain ⟨_, _, g3, g4⟩ := I.good.inv.pr b hp
    obtain ⟨gR, glt⟩ := I.good.ok_lt C g3
    have hne : st l b ≠ b := fun e => by rw [e] at g4; omega
    have e1 : Anc (st l) a (st l b) := ((anc_iff h0).1 ((I.anc C hR).2 h3)).resolve_left h2
    have hd2 : domC g (st l b) b = true := (I.anc C hR).1 (.up h0 .self)
    have e2 : Anc (st l) (st l b) a := (I.anc C hRa).2 ((((hlast a).1 h4 (st l b) glt).resolve_left hne).resolve_left (fun h => h hd2))
    have hoka : Ok (pd l) a := (I.good.inv.anc e1 g3).1
    have e3 := I.good.inv.antisym hoka g3 e1 e2
    rw [e3]
    exact (Int.toNat_of_nonneg hp.2).symm

theorem critical_eq : criticalG g = criticalS g := by
  unfold criticalG criticalS
  rw [edgesS_eq]
  have key : ∀ n, n ≤ g.length → (flatE (fun a => nextS g a) n).filter (critE g) = up (fun a l => l ++ critRow g (predsS g) a) n [] := by
    intro n
    induction n with
    | zero => exact fun _ => rfl
    | succ n ih =>
      intro hn
      rw [flatE_succ, List.filter_append, ih (by omega), up]
      congr 1
      rw [critRow, sift_eq, List.filter_map]
      have e1 : nextS g n = (List.range (nextS g n).length).map fun i => nth (nextS g n) i := by
        refine List.ext_getElem (by simp) fun i h1 h2 => ?_
        simp [nth_eq h1]
      conv => lhs; rw [e1]
      rw [List.filter_map, List.map_map]
      have e2 : (List.range (nextS g n).length).filter ((critE g ∘ fun b => ((n : Int), b)) ∘ fun i => nth (nextS g n) i) = (List.range (nextS g n).length).filter (critP g (predsS g) n) := by
        refine List.filter_congr fun i hi => ?_
        simp only [Function.comp, critE, critP, preds_eq, Int.toNat_natCast]
        have hcn := clean_next (g := g) (a := n) (by omega)
        rw [Bool.eq_iff_iff]
        simp only [Bool.and_eq_true, decide_eq_true_eq, hcn]
        omega
      rw [e2]
      rfl
  exact key g.length (Nat.le_refl _)
end
end Go.Proofs.Ytaebcebflfgdiaa

/- Plain laws of graphs: what is reducible; a loop's body. -/
namespace Go.Proofs.Ytaebcebflfgdiaa
open Go Go.Lft Chk
set_option linter.unusedSimpArgs false
set_option linter.unusedVariables false

/-! ### Rounds that take away -/
theorem falses_le_len {x : List Bool} : falses x ≤ x.length := List.count_le_length
theorem up_fixD {F : List Bool → List Bool} (hF : ∀ x, Le (F x) x) : ∀ (n : Nat) (x : List Bool), x.length ≤ falses x + n → F (up (fun _ => F) n x) = up (fun _ => F) n x
  | 0, x, h => by
    rcases (hF x).falses with e | e
    · exact e
    · have := falses_le_len (x := F x)
      have := (hF x).len
      omega
  | n + 1, x, h => by
    rw [up_shift]
    rcases (hF x).falses with e | e
    · rw [e, up_const e, e]
    · refine up_fixD hF n _ ?_
      have := (hF x).len
      omega
theorem up_leD {f : Nat → List Bool → List Bool} (hf : ∀ k x, Le (f k x) x) (x : List Bool) : ∀ n m, n ≤ m → Le (up f m x) (up f n x)
  | n, 0, h => by obtain rfl : n = 0 := by omega
                  exact Le.refl _
  | n, m + 1, h => by
    rcases Nat.lt_or_ge n (m + 1) with h1 | h1
    · exact (hf m _).trans (up_leD hf x n m (by omega))
    · obtain rfl : n = m + 1 := by omega
      exact Le.refl _
theorem up_idD {f : Nat → List Bool → List Bool} (hf : ∀ k x, Le (f k x) x) {x : List Bool} {n : Nat} (h : up f n x = x) : ∀ k, k < n → f k x = x := by
  have key : ∀ k, k ≤ n → up f k x = x := fun k hk => by
    have h1 := up_leD hf x k n hk
    rw [h] at h1
    have h2 := up_leD hf x 0 k (Nat.zero_le _)
    exact h2.antisymm h1
  intro k hk
  have h1 := key (k + 1) (by omega)
  rw [up, key k (by omega)] at h1
  exact h1

section
variable {g : Gr} {f : Nat → Nat} {l : List Int}

theorem redBlock_le {b : Nat} {x : List Bool} : Le (redBlock g b x) x := by
  unfold redBlock
  split
  · exact Le.refl _
  · refine ⟨by simp, fun i h => ?_⟩
    rcases Nat.lt_or_ge i x.length with h1 | h1
    · rw [nth_set h1] at h
      split at h
      · cases h
      · exact h
    · rw [nth_ge (by simpa using h1)] at h; cases h
theorem redRound_le {x : List Bool} : Le (redRound g x) x := up_leD (fun k x => redBlock_le) x 0 _ (Nat.zero_le _)

theorem place_spec (hg : 0 < g.length) {x : Nat} : placeS (gOrderS g) x = if (x : Int) ∈ gOrderS g then (rk g x : Int) + 1 else 0 := by
  have O := order_is hg
  have key : ∀ k, k ≤ (gOrderS g).length → placeF (gOrderS g) k x = if (x : Int) ∈ (gOrderS g).take k then some ((rk g x : Int) + 1) else none := by
    intro k
    induction k with
    | zero => intro _; simp [placeF, up]
    | succ k ih =>
      intro hk
      have hk' : k < (gOrderS g).length := by omega
      show (if (x : Int) = nth (gOrderS g) k then some ((k : Int) + 1) else placeF (gOrderS g) k x) = _
      rw [ih (by omega), List.take_succ_eq_append_getElem hk', nth_eq hk']
      by_cases e : (x : Int) = (gOrderS g)[k]
      · rw [if_pos e, if_pos (by rw [e]; exact List.mem_append_right _ (List.mem_singleton.2 rfl))]
        unfold rk
        rw [e, List.Nodup.idxOf_getElem O.nodup]
      · rw [if_neg e]
        simp only [List.mem_append, List.mem_singleton, e, or_false]
  unfold placeS
  rw [key _ (Nat.le_refl _), List.take_of_length_le (Nat.le_refl _)]
  split <;> rfl

theorem wrong_iff (I : IdomIs g f l) (C : Ch (Rg g) (rk g) (Eg g) f (Dm g)) {e : Int × Int} (he : e ∈ edgesS g) : wrongE l (gOrderS g) e = true ↔ Rg g e.1.toNat ∧ rk g e.2.toNat ≤ rk g e.1.toNat ∧ ¬ domC g e.2.toNat e.1.toNat = true := by
  have h1 := mem_edges.1 he
  have hr := edgesS_in he
  have hg : 0 < g.length := by omega
  have O := order_is hg
  have e1 := Int.toNat_of_nonneg hr.1.1
  have e2 := Int.toNat_of_nonneg hr.2.1
  have p1 := place_spec hg (x := e.1.toNat)
  have p2 := place_spec hg (x := e.2.toNat)
  rw [e1] at p1
  rw [e2] at p2
  have m1 := O.mem e.1.toNat
  have m2 := O.mem e.2.toNat
  rw [e1] at m1
  rw [e2] at m2
  rw [wrongE, p1, p2, backE_spec I C he]
  simp only [Bool.and_eq_true, decide_eq_true_eq, Bool.not_eq_true', Bool.not_eq_true]
  by_cases hR : Rg g e.1.toNat
  · have hR2 : Rg g e.2.toNat := .step hR (by rw [e1, e2]; exact h1) (by omega)
    rw [if_pos (m1.2 hR), if_pos (m2.2 hR2)]
    constructor
    · rintro ⟨⟨_, h3⟩, h4⟩; exact ⟨hR, by omega, h4⟩
    · rintro ⟨_, h3, h4⟩; exact ⟨⟨by omega, by omega⟩, h4⟩
  · rw [if_neg fun h => hR (m1.1 h)]
    constructor
    · rintro ⟨⟨h2, _⟩, _⟩; omega
    · rintro ⟨h2, _⟩; exact absurd h2 hR

theorem reducible_eq (I : IdomIs g f l) (C : Ch (Rg g) (rk g) (Eg g) f (Dm g)) (hg : 0 < g.length) : reducibleG l g = reducibleS g := by
  have hall : ∀ b, nth (withoutS g (-1)) b = true ↔ Rg g b := fun b => without_spec
  have hwl : (withoutS g (-1)).length = g.length := by
    rw [withoutS, if_neg (by omega), up_keep List.length (fun _ _ => outRound_len)]; simp
  rw [Bool.eq_iff_iff, reducibleG, reducibleS, List.all_eq_true, decide_eq_true_eq]
  simp only [Bool.not_eq_true', Bool.eq_false_iff]
  constructor
  · -- each edge that goes no further goes back: nothing is left
    intro h
    have hfix := up_fixD (F := redRound g) (fun x => redRound_le) g.length (withoutS g (-1)) (by omega)
    have hle := up_leD (f := fun _ => redRound g) (fun _ x => redRound_le) (withoutS g (-1)) 0 g.length (Nat.zero_le _)
    change redRound g (leftS g) = leftS g at hfix
    change Le (leftS g) (withoutS g (-1)) at hle
    generalize leftS g = x at hfix hle
    have hxl : x.length = g.length := hle.len.symm.trans hwl
    have key : ∀ m b, b < g.length → rk g b ≤ m → ¬ nth x b = true := by
      intro m
      induction m with
      | zero =>
        intro b hb hm hx
        have hR := (hall b).1 (hle.le b hx)
        have h1 := up_idD (fun k x => redBlock_le) hfix b hb
        rw [redBlock] at h1
        split at h1
        · rename_i hany
          obtain ⟨a, ha, h2⟩ := any_iff.1 hany
          simp only [redP, Bool.and_eq_true, Bool.not_eq_true', Bool.eq_false_iff] at h2
          have hRa := (hall a).1 (hle.le a h2.1.2)
          have hm2 : ((a : Int), (b : Int)) ∈ edgesS g := mem_edges.2 h2.1.1
          exact h _ hm2 ((wrong_iff I C hm2).2 ⟨by simpa using hRa, by simp; omega, by simpa using h2.2⟩)
        · have := congrArg (fun l => nth l b) h1
          rw [nth_set (by omega), if_pos rfl, hx] at this
          cases this
      | succ m ih =>
        intro b hb hm hx
        have hR := (hall b).1 (hle.le b hx)
        have h1 := up_idD (fun k x => redBlock_le) hfix b hb
        rw [redBlock] at h1
        split at h1
        · rename_i hany
          obtain ⟨a, ha, h2⟩ := any_iff.1 hany
          simp only [redP, Bool.and_eq_true, Bool.not_eq_true', Bool.eq_false_iff] at h2
          have hRa := (hall a).1 (hle.le a h2.1.2)
          have hm2 : ((a : Int), (b : Int)) ∈ edgesS g := mem_edges.2 h2.1.1
          rcases Nat.lt_or_ge (rk g a) (rk g b) with h3 | h3
          · exact ih a ha (by omega) h2.1.2
          · exact h _ hm2 ((wrong_iff I C hm2).2 ⟨by simpa using hRa, by simpa using h3, by simpa using h2.2⟩)
        · have := congrArg (fun l => nth l b) h1
          rw [nth_set (by omega), if_pos rfl, hx] at this
          cases this
    exact fun b hb => key (rk g b) b hb (Nat.le_refl _)
  · -- one that does not: a ring of edges that do not go back
    intro h e he hw
    have O := order_is hg
    obtain ⟨hR, hle, hnd⟩ := (wrong_iff I C he).1 hw
    have hr := edgesS_in he
    have e1 := Int.toNat_of_nonneg hr.1.1
    have e2 := Int.toNat_of_nonneg hr.2.1
    have hed := mem_edges.1 he
    have hR2 : Rg g e.2.toNat := .step hR (by rw [e1, e2]; exact hed) (by omega)
    have m1 : e.1 ∈ gOrderS g := by have := (O.mem _).2 hR; rwa [e1] at this
    have m2 : e.2 ∈ gOrderS g := by have := (O.mem _).2 hR2; rwa [e2] at this
    obtain ⟨L, hA, hB⟩ := O.ret e.1 m1 e.2 m2 hed (by unfold rk at hle; rw [e1, e2] at hle; exact hle)
    -- those between
    have hS : ∀ v : Nat, Adv (nextS g) L e.2 v → Adv (nextS g) L v e.1 → ∃ a, a < g.length ∧ edgeS g a v = true ∧ Rg g a ∧ domC g v a = false ∧ Adv (nextS g) L e.2 a ∧ Adv (nextS g) L a e.1 := by
      intro v hv1 hv2
      generalize hvi : (v : Int) = vi at hv1
      cases hv1 with
      | self =>
        refine ⟨e.1.toNat, by omega, by rw [e1]; exact hed, hR, ?_, by rw [e1]; exact hA, by rw [e1]; exact .self⟩
        rw [Bool.eq_false_iff]
        have : v = e.2.toNat := by omega
        rw [this]; exact hnd
      | step h1 h2 h3 =>
        rename_i p
        have hpe := mem_nextS.1 h2
        have hpr := (edgeS_iff.1 hpe).1
        have ep := Int.toNat_of_nonneg hpr.1
        have hRp : Rg g p.toNat := by
          have : ∀ q, Adv (nextS g) L e.2 q → Rg g q.toNat := by
            intro q hq
            induction hq with
            | self => exact hR2
            | step _ h1 _ ih =>
              have he3 := mem_nextS.1 h1
              have hr3 := (edgeS_iff.1 he3).1
              refine .step ih ?_ (by omega)
              rwa [Int.toNat_of_nonneg hr3.1, Int.toNat_of_nonneg hr3.2.2.1]
          exact this p h1
        refine ⟨p.toNat, by omega, by rw [ep]; exact hpe, hRp, ?_, by rw [ep]; exact h1, by rw [ep]; exact (Adv.step .self h2 h3).trans (hvi ▸ hv2)⟩
        rw [Bool.eq_false_iff]
        intro hd
        have hanc := (I.anc C hRp).2 hd
        have hok : Ok (pd l) p.toNat := by
          by_cases e : p.toNat = 0
          · exact .inl e
          · exact .inr (I.turn _ hRp e).1
        have h4 := hB _ _ h3
        have h5 : rk g p.toNat < rk g v := by unfold rk; rw [ep, hvi]; exact h4
        rcases (I.good.inv.anc hanc hok).2 with h6 | h6
        · rw [← h6] at h5; omega
        · omega
    have hkeep : ∀ v : Nat, Adv (nextS g) L e.2 v → Adv (nextS g) L v e.1 → nth (leftS g) v = true := by
      refine up_inv (fun x : List Bool => ∀ v : Nat, Adv (nextS g) L e.2 v → Adv (nextS g) L v e.1 → nth x v = true) (fun _ x hx => ?_) _ _ ?_
      · refine up_inv (fun x : List Bool => ∀ v : Nat, Adv (nextS g) L e.2 v → Adv (nextS g) L v e.1 → nth x v = true) (fun b x hx v hv1 hv2 => ?_) _ _ hx
        unfold redBlock
        split
        · exact hx v hv1 hv2
        · rename_i hany
          have hxv := hx v hv1 hv2
          have hvl : v < x.length := by
            rcases Nat.lt_or_ge v x.length with h | h
            · exact h
            · rw [nth_ge h] at hxv; cases hxv
          rw [nth_set hvl]
          split
          · rename_i ebv
            exfalso
            subst ebv
            obtain ⟨a, ha, h1, h2, h3, h4, h5⟩ := hS b hv1 hv2
            exact hany (any_iff.2 ⟨a, ha, by simp [redP, h1, hx a h4 h5, h3]⟩)
          · exact hxv
      · intro v hv1 hv2
        obtain ⟨a, ha, h1, h2, _⟩ := hS v hv1 hv2
        exact (hall v).2 (.step h2 h1 (by omega))
    have := hkeep e.2.toNat (by rw [e2]; exact .self) (by rw [e2]; exact hA)
    exact h e.2.toNat (by omega) this
end
end Go.Proofs.Ytaebcebflfgdiaa

/- Plain laws of graphs: a loop's body; all that is told of a graph. -/
namespace Go.Proofs.Ytaebcebflfgdiaa
open Go Go.Lft Chk
set_option linter.unusedSimpArgs false
set_option linter.unusedVariables false

section
variable {g : Gr} {f : Nat → Nat} {l : List Int}

/-- From where an edge goes back to h. -/
def Src (g : Gr) (h x : Int) : Prop := edgeS g x h = true ∧ domC g h.toNat x.toNat = true
/-- What one comes to h from, without passing it. -/
inductive Bk (g : Gr) (h : Int) : Int → Prop
  | hd : Bk g h h
  | src {x : Int} : Src g h x → Bk g h x
  | step {x y : Int} : Bk g h y → y ≠ h → edgeS g x y = true → Bk g h x

def notIn (s : Int → Bool) (n : Nat) : Nat := (List.range n).countP fun i : Nat => !s (i : Int)
theorem notIn_le (s : Int → Bool) (n : Nat) : notIn s n ≤ n := by
  have := List.countP_le_length (p := fun i : Nat => !s (i : Int)) (l := List.range n)
  simpa [notIn] using this
theorem notIn_add {s : Int → Bool} {a : Int} : ∀ {n : Nat}, 0 ≤ a → a < n → s a = false → notIn (fun j => if j = a then true else s j) n + 1 = notIn s n
  | 0, h0, h1, _ => by omega
  | n + 1, h0, h1, hs => by
    have hsucc : ∀ s : Int → Bool, notIn s (n + 1) = notIn s n + if s n then 0 else 1 := by
      intro s
      unfold notIn
      rw [List.range_succ, List.countP_append]
      cases h : s (n : Int) <;> simp [h]
    rw [hsucc, hsucc]
    by_cases e : (n : Int) = a
    · have hsame : ∀ m, m ≤ n → notIn (fun j => if j = a then true else s j) m = notIn s m := by
        intro m hm
        unfold notIn
        refine List.countP_congr fun i hi => ?_
        have : i < m := by simpa using hi
        have : (i : Int) ≠ a := by omega
        simp [this]
      rw [hsame n (Nat.le_refl _), if_pos e, e, hs]
      simp
    · have := notIn_add (s := s) (a := a) (n := n) h0 (by omega) hs
      rw [if_neg e]
      omega

structure BodyInv (g : Gr) (h : Int) (s : Int → Bool) (op : List Int) : Prop where
  inn : ∀ x, s x = true → Bk g h x
  opn : ∀ x ∈ op, Bk g h x ∧ 0 ≤ x ∧ x < g.length
  hd : s h = true
  clos : ∀ y, s y = true → y ≠ h → ∀ x, edgeS g x y = true → s x = true ∨ x ∈ op
  src : ∀ x, Src g h x → s x = true ∨ x ∈ op

theorem body_loop {h : Int} (hn : g.length ≤ 1000) : ∀ (n : Nat) (s : Int → Bool) (op : List Int), BodyInv g h s op → notIn s g.length * (g.length + 1) + op.length < n → notIn s g.length * (g.length + 1) + op.length ≤ 1000000000 →
    ∃ s', bodyLoop (predsG g) n s op = some s' ∧ ∀ x, s' x = true ↔ Bk g h x
  | 0, _, _, _, h, _ => by omega
  | n + 1, s, op, B, hm, hb => by
    rw [bodyLoop]
    by_cases h0 : op.length = 0
    · rw [if_pos h0]
      have hop : op = [] := List.eq_nil_of_length_eq_zero h0
      subst hop
      refine ⟨s, rfl, fun x => ⟨B.inn x, fun hx => ?_⟩⟩
      induction hx with
      | hd => exact B.hd
      | src hs => exact (B.src _ hs).resolve_right (by simp)
      | step _ hne he ih => exact (B.clos _ ih hne _ he).resolve_right (by simp)
    · rw [if_neg h0]
      have hl : op.length - 1 < op.length := by omega
      have hmem : nth op (op.length - 1) ∈ op := nth_mem hl
      have hop : op = op.take (op.length - 1) ++ [nth op (op.length - 1)] := by
        have h1 : op.take (op.length - 1 + 1) = op.take (op.length - 1) ++ [op[op.length - 1]] := List.take_succ_eq_append_getElem hl
        rw [show op.length - 1 + 1 = op.length by omega, List.take_of_length_le (Nat.le_refl _)] at h1
        rw [nth_eq hl]; exact h1
      have hlt : (op.take (op.length - 1)).length = op.length - 1 := by simp
      generalize op.take (op.length - 1) = op' at hop hlt
      generalize nth op (op.length - 1) = a at hop hmem
      obtain ⟨ha, ha0, ha1⟩ := B.opn a hmem
      have hin : ∀ x, x ∈ op → x ∈ op' ∨ x = a := by
        intro x hx; rw [hop] at hx; simpa using hx
      have hpl := predsG_len' (g := g)
      rw [if_pos ⟨ha0, by omega, by omega⟩]
      by_cases hs : s a = true
      · rw [if_pos hs]
        refine body_loop hn n s op' ⟨B.inn, fun x hx => B.opn x (by rw [hop]; simp [hx]), B.hd, fun y hy hne x he => ?_, fun x hx => ?_⟩ (by omega) (by omega)
        · rcases B.clos y hy hne x he with h1 | h1
          · exact .inl h1
          · rcases hin x h1 with h2 | rfl
            · exact .inr h2
            · exact .inl hs
        · rcases B.src x hx with h1 | h1
          · exact .inl h1
          · rcases hin x h1 with h2 | rfl
            · exact .inr h2
            · exact .inl hs
      · rw [if_neg hs]
        have hne : a ≠ h := fun e => hs (e ▸ B.hd)
        have hcount := notIn_add (s := s) (a := a) (n := g.length) ha0 ha1 (by simpa using hs)
        have hrow : (nth (predsG g) a.toNat).length ≤ g.length := by
          rw [preds_eq, predsS, nth_rows (by omega)]; exact sift_len _
        have hprd : ∀ x, x ∈ nth (predsG g) a.toNat ↔ edgeS g x a = true := fun x => mem_preds ⟨ha0, ha1⟩
        have hmeas : notIn (fun j => if j = a then true else s j) g.length * (g.length + 1) + (op' ++ nth (predsG g) a.toNat).length < notIn s g.length * (g.length + 1) + op.length := by
          rw [List.length_append, hlt, ← hcount, Nat.succ_mul]; omega
        refine body_loop hn n _ _ ⟨fun x hx => ?_, fun x hx => ?_, by simp [B.hd], fun y hy hney x he => ?_, fun x hx => ?_⟩ (by omega) (by omega)
        · by_cases e : x = a
          · subst e; exact ha
          · rw [if_neg e] at hx; exact B.inn x hx
        · rcases List.mem_append.1 hx with h1 | h1
          · exact B.opn x (by rw [hop]; simp [h1])
          · have he := (hprd x).1 h1
            have := (edgeS_iff.1 he).1
            exact ⟨.step ha hne he, by omega, by omega⟩
        · by_cases e : y = a
          · subst e
            exact .inr (List.mem_append_right _ ((hprd x).2 he))
          · rw [if_neg e] at hy
            rcases B.clos y hy hney x he with h1 | h1
            · left; by_cases e2 : x = a <;> simp [e2, h1]
            · rcases hin x h1 with h2 | rfl
              · exact .inr (List.mem_append_left _ h2)
              · left; simp
        · rcases B.src x hx with h1 | h1
          · left; by_cases e2 : x = a <;> simp [e2, h1]
          · rcases hin x h1 with h2 | rfl
            · exact .inr (List.mem_append_left _ h2)
            · left; simp

theorem bodyStep_le {h : Int} {a : Nat} {row : List Int} {i : Nat} {x : List Bool} : Le x (bodyStep g h a row i x) := by
  unfold bodyStep
  split
  · exact le_set fun _ => rfl
  · exact Le.refl _
theorem bodyBlock_le {h : Int} {a : Nat} {x : List Bool} : Le x (bodyBlock g h a x) := up_le (fun k x => bodyStep_le) x 0 _ (Nat.zero_le _)
theorem bodyRound_le {h : Int} {x : List Bool} : Le x (bodyRound g h x) := up_le (fun k x => bodyBlock_le) x 0 _ (Nat.zero_le _)

theorem in_spec {h : Int} (hh : 0 ≤ h ∧ h < g.length) (hs : ∃ x, Src g h x) {x : Nat} : nth (inS g h) x = true ↔ Rg g x ∧ Bk g h x := by
  have hre : Rg g h.toNat := by
    obtain ⟨y, _, hy⟩ := hs
    exact (domC_iff.1 hy).1
  have eh := Int.toNat_of_nonneg hh.1
  constructor
  · -- what is marked
    revert x
    have hI : ∀ x : List Bool, (∀ b, nth x b = true → Rg g b ∧ Bk g h b) → ∀ b, nth (bodyRound g h x) b = true → Rg g b ∧ Bk g h b := by
      intro x hx
      refine up_invk (fun x : List Bool => ∀ b, nth x b = true → Rg g b ∧ Bk g h b) (fun a x ha hx => ?_) hx
      refine up_invk (fun x : List Bool => ∀ b, nth x b = true → Rg g b ∧ Bk g h b) (fun i x hi hx => ?_) hx
      unfold bodyStep
      split
      · rename_i hc
        simp only [Bool.and_eq_true, Bool.not_eq_true', decide_eq_false_iff_not] at hc
        obtain ⟨⟨h1, h2⟩, h3⟩ := hc
        have hed := mem_nextS.1 (nth_mem hi)
        have hr := (edgeS_iff.1 hed).1
        intro b hb
        rcases Nat.lt_or_ge b x.length with hlt | hge
        · rw [nth_set hlt] at hb
          split at hb
          · rename_i e
            subst e
            refine ⟨without_spec.1 h1, .step ?_ h2 hed⟩
            have := (hx _ h3).2
            rwa [Int.toNat_of_nonneg (by omega)] at this
          · exact hx b hb
        · rw [nth_ge (by simpa using hge)] at hb; cases hb
      · exact hx
    exact up_invk (fun x : List Bool => ∀ b, nth x b = true → Rg g b ∧ Bk g h b) (fun _ x _ hx => hI x hx) (fun b hb => by
      rcases Nat.lt_or_ge b g.length with h1 | h1
      · rw [nth_set (by simpa using h1)] at hb
        split at hb
        · rename_i e
          subst e
          exact ⟨hre, by rw [eh]; exact .hd⟩
        · rw [nth_rows h1] at hb
          simp only [backP, Bool.and_eq_true] at hb
          exact ⟨(domC_iff.1 hb.2).2.1, .src ⟨hb.1, by simpa using hb.2⟩⟩
      · rw [nth_ge (by simpa using h1)] at hb; cases hb)
  · -- what is of the body
    rintro ⟨hR, hB⟩
    have hfix := up_fix (F := bodyRound g h) (fun x => bodyRound_le) g.length ((rows (backP g h) g.length).set h.toNat true) (by
      have := falses_le_len (x := (rows (backP g h) g.length).set h.toNat true)
      simpa using this)
    have hle := up_le (f := fun _ => bodyRound g h) (fun _ x => bodyRound_le) ((rows (backP g h) g.length).set h.toNat true) 0 g.length (Nat.zero_le _)
    change bodyRound g h (inS g h) = inS g h at hfix
    change Le ((rows (backP g h) g.length).set h.toNat true) (inS g h) at hle
    generalize inS g h = z at hfix hle
    have hzl : z.length = g.length := by rw [hle.len]; simp
    have key : ∀ y : Int, Bk g h y → 0 ≤ y → Rg g y.toNat → nth z y.toNat = true := by
      intro y hy
      induction hy with
      | hd =>
        intro _ _
        refine hle.le _ ?_
        rw [nth_set (by simp; omega), if_pos rfl]
      | src hs =>
        rename_i y
        intro h0 hR
        refine hle.le _ ?_
        rw [nth_set (by simpa using hR.lt)]
        split
        · rfl
        · rw [nth_rows hR.lt, backP, Int.toNat_of_nonneg h0, hs.1, hs.2]; rfl
      | step hb hne he ih =>
        rename_i x y
        intro h0 hR
        have hr := (edgeS_iff.1 he).1
        have ex := Int.toNat_of_nonneg h0
        have ey := Int.toNat_of_nonneg hr.2.2.1
        have hRy : Rg g y.toNat := .step hR (by rw [ex, ey]; exact he) (by omega)
        have hzy := ih hr.2.2.1 hRy
        have h1 := up_id (fun k x => bodyBlock_le) hfix x.toNat (by omega)
        obtain ⟨i, hi, e⟩ := List.getElem_of_mem (mem_nextS.2 (show edgeS g x.toNat y = true by rw [ex]; exact he))
        have h2 := up_id (fun k x => bodyStep_le) h1 i hi
        rw [← nth_eq hi] at e
        unfold bodyStep at h2
        rw [e, without_spec.2 hR, hzy] at h2
        simp only [hne, decide_false, Bool.not_false, Bool.and_self, if_true] at h2
        have h3 := congrArg (fun l => nth l x.toNat) h2
        rw [nth_set (by omega), if_pos rfl] at h3
        exact h3.symm
    have := key x hB (by omega) (by simpa using hR)
    simpa using this

theorem body_eq (I : IdomIs g f l) (C : Ch (Rg g) (rk g) (Eg g) f (Dm g)) (hg : 0 < g.length) (hn : g.length ≤ 1000) (h : Int) : ∃ fuel, bodyG l g h fuel = some (bodyS g h) := by
  have O := order_is hg
  have hsrc : ∀ x, x ∈ ((edgesS g).filter (bodyE l h)).map Prod.fst ↔ Src g h x := by
    intro x
    simp only [List.mem_map, List.mem_filter, bodyE, Bool.and_eq_true, decide_eq_true_eq]
    constructor
    · rintro ⟨e, ⟨h1, h2, h3⟩, rfl⟩
      rw [backE_spec I C h1, h2] at h3
      have := mem_edges.1 h1
      rw [h2] at this
      exact ⟨this, h3⟩
    · rintro ⟨h1, h2⟩
      have hm : (x, h) ∈ edgesS g := mem_edges.2 h1
      exact ⟨(x, h), ⟨hm, rfl, by rw [backE_spec I C hm]; exact h2⟩, rfl⟩
  have hany : anyUp (backP g h) g.length = true ↔ ∃ x, Src g h x := by
    rw [any_iff]
    constructor
    · rintro ⟨b, hb, h1⟩
      simp only [backP, Bool.and_eq_true] at h1
      exact ⟨b, h1.1, by simpa using h1.2⟩
    · rintro ⟨x, h1, h2⟩
      have hr := (edgeS_iff.1 h1).1
      exact ⟨x.toNat, by omega, by rw [backP, Int.toNat_of_nonneg hr.1, h1, h2]; rfl⟩
  by_cases hs : ∃ x, Src g h x
  · obtain ⟨x0, hx0⟩ := hs
    have hr0 := (edgeS_iff.1 hx0.1).1
    have hopl : (((edgesS g).filter (bodyE l h)).map Prod.fst).length ≤ 1000000 := by
      have h1 := List.length_filter_le (bodyE l h) (edgesS g)
      have h2 : (edgesS g).length ≤ g.length * g.length := by
        rw [edgesS_eq]; exact flatE_len fun a ha => nextS_len
      have h3 : g.length * g.length ≤ 1000 * 1000 := Nat.mul_le_mul hn hn
      rw [List.length_map]; omega
    have hne : (((edgesS g).filter (bodyE l h)).map Prod.fst).length ≠ 0 := fun e => by
      have := (hsrc x0).2 hx0
      rw [List.eq_nil_of_length_eq_zero e] at this
      cases this
    generalize hop : ((edgesS g).filter (bodyE l h)).map Prod.fst = op at hsrc hopl hne
    have hni := notIn_le (fun j => decide (j = h)) g.length
    have hmul : notIn (fun j => decide (j = h)) g.length * (g.length + 1) ≤ 1000 * 1001 := Nat.mul_le_mul (by omega) (by omega)
    obtain ⟨s, h1, h2⟩ := body_loop (g := g) (h := h) hn (notIn (fun j => decide (j = h)) g.length * (g.length + 1) + op.length + 1) (fun j => decide (j = h)) op
      ⟨fun x hx => by simp only [decide_eq_true_eq] at hx; subst hx; exact .hd, fun x hx => by
        have hx' := (hsrc x).1 hx
        have := (edgeS_iff.1 hx'.1).1
        exact ⟨.src hx', by omega, by omega⟩, by simp, fun y hy hney => by simp only [decide_eq_true_eq] at hy; exact absurd hy hney, fun x hx => .inr ((hsrc x).2 hx)⟩ (by omega) (by omega)
    refine ⟨notIn (fun j => decide (j = h)) g.length * (g.length + 1) + op.length + 1, ?_⟩
    rw [bodyG, hop, if_neg hne, h1, bodyS, if_pos (hany.2 ⟨x0, hx0⟩)]
    simp only [Option.map_some, Option.some.injEq]
    have hnd : (sortS ((gOrderS g).filter s)).Nodup := (List.mergeSort_perm _ _).nodup_iff.2 (O.nodup.filter s)
    have hstrict : (sortS ((gOrderS g).filter s)).Pairwise (· < ·) := by
      have h3 := sortS_sorted ((gOrderS g).filter s)
      exact (h3.and hnd).imp fun ⟨h4, h5⟩ => by omega
    refine strict_unique hstrict sift_strict fun x => ?_
    rw [sortS, List.mem_mergeSort, List.mem_filter, mem_sift, h2]
    constructor
    · rintro ⟨h3, h4⟩
      have hr := O.rng x h3
      have ex := Int.toNat_of_nonneg hr.1
      exact ⟨x.toNat, by omega, (in_spec ⟨by omega, by omega⟩ ⟨x0, hx0⟩).2 ⟨(O.mem _).1 (by rw [ex]; exact h3), by rw [ex]; exact h4⟩, ex⟩
    · rintro ⟨i, hi, h3, rfl⟩
      obtain ⟨h4, h5⟩ := (in_spec ⟨by omega, by omega⟩ ⟨x0, hx0⟩).1 h3
      exact ⟨(O.mem _).2 h4, h5⟩
  · refine ⟨0, ?_⟩
    have hnil : (((edgesS g).filter (bodyE l h)).map Prod.fst).length = 0 := by
      rcases Nat.eq_zero_or_pos (((edgesS g).filter (bodyE l h)).map Prod.fst).length with h1 | h1
      · exact h1
      · exact absurd ⟨_, (hsrc _).1 (List.getElem_mem h1)⟩ hs
    rw [bodyG, if_pos hnil, bodyS, if_neg fun h1 => hs (hany.1 h1)]

/-- All that the code tells of a graph is what the document says. -/
structure Agree (g : Gr) : Prop where
  idom : ∃ fuel, idomG g fuel = some (idomS g)
  order : gOrderS g = orderS (nextS g) g.length
  preds : predsG g = predsS g
  headers : headersG (idomS g) g = headersS g
  critical : criticalG g = criticalS g
  reducible : reducibleG (idomS g) g = reducibleS g
  body : ∀ h, ∃ fuel, bodyG (idomS g) g h fuel = some (bodyS g h)
theorem agree (hn : g.length ≤ 1000) : Agree g := by
  rcases Nat.eq_zero_or_pos g.length with h0 | h0
  · obtain rfl : g = [] := List.eq_nil_of_length_eq_zero h0
    exact ⟨⟨1, rfl⟩, order_eq, preds_eq, by simp only [headersG, sortS_eq]; rfl, critical_eq, rfl, fun h => ⟨0, rfl⟩⟩
  · obtain ⟨f, C, l, h1, I⟩ := idom_spec h0
    have e := idom_eq I C
    subst e
    exact ⟨⟨_, h1⟩, order_eq, preds_eq, headers_eq I C, critical_eq, reducible_eq I C h0, fun h => body_eq I C h0 hn h⟩
end
end Go.Proofs.Ytaebcebflfgdiaa

namespace Go.Proofs.Ytaebcebflfgdiaa
open Go Go.Lft Chk
set_option linter.unusedSimpArgs false
set_option linter.unusedVariables false

theorem dominatesS_is {g : Gr} {f : Nat → Nat} {l : List Int} (I : IdomIs g f l) (C : Ch (Rg g) (rk g) (Eg g) f (Dm g)) {a b : Nat} (ha : a < g.length) (hb : b < g.length) :
    dominatesS l a b = if nth (withoutS g (-1)) b then domC g a b else decide (a = b) := by
  split
  · rename_i h; exact dominates_reached I C ha (without_spec.1 h)
  · rename_i h; exact dominates_not I ha hb fun h2 => h (without_spec.2 h2)

theorem graphIdom_ok {s : List Int} {vs : Value} {a b : Int} {h : Heap} (hs : SlRd (vw h) vs s) : HCalls Try.prog N.law02_GraphIdom #[vs, .int .i64 a, .int .i64 b] h (fun v h' => v = .bool true ∧ (vw h).le (vw h')) := by
  refine calls_lift (args := [vs, .int .i64 a, .int .i64 b]) follows Try.func5 E.law02_GraphIdom (by show 3 ≤ 67; decide) fun K hK => ?_
  dsimp only [L.law02_GraphIdom]
  refine lwp_hide fun z hz => ?_
  simp
  rw [hz]
  clear hz z
  refine lwp_hide fun z hz => ?_
  simp
  refine call_to (by kernel_rfl) awake_ok ?_
  rintro _ h1 ⟨rfl, hle1⟩
  rw [hz]
  clear hz z
  refine lwp_hide fun z hz => ?_
  simp
  refine call_to (by kernel_rfl) (made_ok (hs.mono hle1)) ?_
  rintro vg h2 ⟨_, m2⟩
  have hg := m2.now
  have hsm := sm_made (s := s)
  have hle02 := View.le_trans hle1 m2.old
  have hl10 := made_len (s := s)
  clear m2
  generalize madeS s = g at hg hsm hl10
  obtain ⟨f, C, l, hl, I⟩ := idom_spec (g := g) (by omega)
  have hll := I.good.len
  rw [hz]
  clear hz z
  refine lwp_hide fun z hz => ?_
  simp
  refine call_to (by kernel_rfl) (idom_ok hg hsm hl) ?_
  rintro vl h3 ⟨_, m3⟩
  have hlv := m3.now
  have hle3 := m3.old
  have hg := hg.mono hle3
  clear m3
  have hx := restS_range (x := a) (n := g.length) (by omega)
  have hy := restS_range (x := b) (n := g.length) (by omega)
  rw [hz]
  clear hz z
  refine lwp_hide fun z hz => ?_
  simp [hg.len]
  refine call_to (by kernel_rfl) (rest_ok (by omega) (by omega)) ?_
  rintro _ _ ⟨rfl, rfl⟩
  rw [hz]
  clear hz z
  refine lwp_hide fun z hz => ?_
  simp [hg.len]
  refine call_to (by kernel_rfl) (rest_ok (by omega) (by omega)) ?_
  rintro _ _ ⟨rfl, rfl⟩
  rw [hz]
  clear hz z
  generalize restS a g.length = x at hx
  generalize restS b g.length = y at hy
  obtain ⟨x, rfl⟩ := Int.eq_ofNat_of_zero_le hx.1
  obtain ⟨y, rfl⟩ := Int.eq_ofNat_of_zero_le hy.1
  have hx : x < g.length := by omega
  have hy : y < g.length := by omega
  refine lwp_hide fun z hz => ?_
  simp
  refine call_to (by kernel_rfl) (without_ok hg hsm.1) ?_
  rintro va h4 ⟨hle4, ha⟩
  have ha := ha.mono (fresh_le _ _)
  have hg := hg.mono hle4
  have hlv := hlv.mono hle4
  rw [hz]
  clear hz z
  have hwl : (withoutS g (-1)).length = g.length := withoutS_len
  refine lwp_hide fun z hz => ?_
  have hsp := dominatesS_is I C hx hy
  simp (disch := omega) [ha.idx1 rfl, ha.bool (View.le_refl _), condP_or]
  have hD : nth (withoutS g (-1)) x = false ∨ nth (withoutS g (-1)) y = false → (x = y ∨ dominatesS l x y = false) := by
    intro hn
    by_cases e : x = y
    · exact .inl e
    · refine .inr ?_
      rw [hsp]
      split
      · rename_i h
        rw [h] at hn
        rcases hn with hn | hn
        · rw [Bool.eq_false_iff]
          intro h2
          rw [without_spec.2 (domC_iff.1 h2).1] at hn
          cases hn
        · cases hn
      · exact decide_eq_false e
  have hle04 := View.le_trans hle02 (View.le_trans hle3 hle4)
  refine ⟨fun hn => ⟨fun e => ?_, fun e => ?_⟩, fun hwx hwy => ?_⟩
  · simp [e, grdP, gdO]
    exact hK _ _ ⟨rfl, hle04⟩
  · have hf := (hD hn).resolve_left (by omega)
    simp [e, grdP, gdO]
    refine call_to (by kernel_rfl) (dominates_ok hlv) ?_
    rintro _ h5 ⟨rfl, hle5⟩
    rw [hf]
    simp [e, grdP, gdO]
    exact hK _ _ ⟨rfl, View.le_trans hle04 hle5⟩
  · rw [hz]
    simp
    refine call_to (by kernel_rfl) (dom_ok hg hsm.1) ?_
    rintro _ h5 ⟨rfl, hle5⟩
    have hlv := hlv.mono hle5
    refine call_to (by kernel_rfl) (dominates_ok hlv) ?_
    rintro _ h6 ⟨rfl, hle6⟩
    have hdd : domS g x y = dominatesS l x y := by
      rw [hsp, if_pos hwy]
      simp [domS, hx, hy]
    rw [hdd]
    simp
    exact hK _ _ ⟨rfl, View.le_trans hle04 (View.le_trans hle5 hle6)⟩
end Go.Proofs.Ytaebcebflfgdiaa

namespace Go.Proofs.Ytaebcebflfgdiaa
open Go Go.Lft Chk
set_option linter.unusedSimpArgs false
set_option linter.unusedVariables false

theorem idomS_len {g : Gr} : (idomS g).length = g.length := by simp [idomS]

theorem tells_ok {g : Gr} {vg : Value} {h : Heap} (hg : SlRd (vw h) vg g) (hsm : Sm g) (hn : g.length ≤ 1000) : HCalls Try.prog N.law02_tells #[vg] h (fun v h' => v = .bool true ∧ (vw h).le (vw h')) := by
  refine calls_lift (args := [vg]) follows Try.func13 E.law02_tells (by show 1 ≤ 75; decide) fun K hK => ?_
  have A := agree hn
  obtain ⟨fuel, hl⟩ := A.idom
  dsimp only [L.law02_tells]
  refine lwp_hide fun z hz => ?_
  simp
  rw [hz]; clear hz z
  refine lwp_hide fun z hz => ?_
  simp
  refine call_to (by kernel_rfl) (preds_ok hg hsm) ?_
  rintro v1 h1 ⟨hle1, r1⟩
  have hg := hg.mono hle1
  have r1 := r1.mono (fresh_le _ _)
  refine call_to (by kernel_rfl) (refPreds_ok hg hsm.1) ?_
  rintro v2 h2 ⟨hle2, r2⟩
  have hg := hg.mono hle2
  have r1 := r1.mono hle2
  have r2 := r2.mono (fresh_le _ _)
  have hle := View.le_trans hle1 hle2
  refine call_to (by kernel_rfl) (rows_ok r1 r2) ?_
  rintro _ _ ⟨rfl, rfl⟩
  rw [A.preds, beq_self_eq_true]
  clear hle1 hle2 r1 r2
  rw [hz]; clear hz z
  refine lwp_hide fun z hz => ?_
  simp
  refine call_to (by kernel_rfl) (order_ok hg hsm) ?_
  rintro v1 h1 ⟨hle1, r1⟩
  have hg := hg.mono hle1
  have r1 := r1.mono (fresh_le _ _)
  refine call_to (by kernel_rfl) (refOrder_ok hg hsm.1) ?_
  rintro v2 h2 ⟨hle2, r2⟩
  have hg := hg.mono hle2
  have r1 := r1.mono hle2
  have r2 := r2.mono (fresh_le _ _)
  have hle := View.le_trans hle (View.le_trans hle1 hle2)
  refine call_to (by kernel_rfl) (nums_ok r1 r2) ?_
  rintro _ _ ⟨rfl, rfl⟩
  rw [A.order, beq_self_eq_true]
  clear hle1 hle2 r1 r2
  rw [hz]; clear hz z
  refine lwp_hide fun z hz => ?_
  simp
  refine call_to (by kernel_rfl) (idom_ok hg hsm hl) ?_
  rintro v1 h1 ⟨_, m1⟩
  have hle1 := m1.old
  have hg := hg.mono hle1
  have r1 := m1.now
  clear m1
  refine call_to (by kernel_rfl) (refIdom_ok hg hsm.1) ?_
  rintro v2 h2 ⟨hle2, r2⟩
  have hg := hg.mono hle2
  have r1 := r1.mono hle2
  have r2 := r2.mono (fresh_le _ _)
  have hle := View.le_trans hle (View.le_trans hle1 hle2)
  refine call_to (by kernel_rfl) (nums_ok r1 r2) ?_
  rintro _ _ ⟨rfl, rfl⟩
  rw [beq_self_eq_true]
  clear hle1 hle2 r1 r2
  rw [hz]; clear hz z
  refine lwp_hide fun z hz => ?_
  simp
  refine call_to (by kernel_rfl) (headers_ok hg hsm hl idomS_len) ?_
  rintro v1 h1 ⟨hle1, r1⟩
  have hg := hg.mono hle1
  have r1 := r1.mono (fresh_le _ _)
  refine call_to (by kernel_rfl) (refHeaders_ok hg hsm.1) ?_
  rintro v2 h2 ⟨hle2, r2⟩
  have hg := hg.mono hle2
  have r1 := r1.mono hle2
  have r2 := r2.mono (fresh_le _ _)
  have hle := View.le_trans hle (View.le_trans hle1 hle2)
  refine call_to (by kernel_rfl) (nums_ok r1 r2) ?_
  rintro _ _ ⟨rfl, rfl⟩
  rw [A.headers, beq_self_eq_true]
  clear hle1 hle2 r1 r2
  rw [hz]; clear hz z
  refine lwp_hide fun z hz => ?_
  simp
  refine call_to (by kernel_rfl) (critical_ok hg hsm) ?_
  rintro v1 h1 ⟨hle1, r1⟩
  have hg := hg.mono hle1
  have r1 := r1.mono (fresh_le _ _)
  refine call_to (by kernel_rfl) (refCritical_ok hg hn) ?_
  rintro v2 h2 ⟨hle2, r2⟩
  have hg := hg.mono hle2
  have r1 := r1.mono hle2
  have r2 := r2.mono (fresh_le _ _)
  have hle := View.le_trans hle (View.le_trans hle1 hle2)
  refine call_to (by kernel_rfl) (pairs_ok r1 r2) ?_
  rintro _ _ ⟨rfl, rfl⟩
  rw [A.critical, beq_self_eq_true]
  clear hle1 hle2 r1 r2
  rw [hz]; clear hz z
  refine lwp_hide fun z hz => ?_
  simp
  refine call_to (by kernel_rfl) (reducible_ok hg hsm hl idomS_len) ?_
  rintro _ h1 ⟨rfl, hle1⟩
  have hg := hg.mono hle1
  refine call_to (by kernel_rfl) (refReducible_ok hg hsm.1) ?_
  rintro _ h2 ⟨rfl, hle2⟩
  have hg := hg.mono hle2
  have hle := View.le_trans hle (View.le_trans hle1 hle2)
  rw [A.reducible]
  clear hle1 hle2
  rw [hz]; clear hz z
  simp
  refine lwp_loop [0, 8] (fun m ρ h' => ∃ k : Int, -1 ≤ k ∧ k ≤ g.length + 1 ∧ ρ = [(0, vg), (8, .int .i64 k)] ∧ m = (g.length + 1 - k).toNat ∧ (vw h2).le (vw h')) (g.length + 2)
    ⟨-1, by omega, by omega, rfl, by omega, View.le_refl _⟩ ?_
  rintro m ρ h3 ⟨k, hk0, hk1, rfl, rfl, hle3⟩ K2 hK2
  have hg := hg.mono hle3
  have hle := View.le_trans hle hle3
  by_cases hlt : k ≤ g.length
  · simp [L.law02_tells.l1, hg.len, hlt]
    obtain ⟨fuel2, hb⟩ := A.body k
    refine call_to (by kernel_rfl) (body_ok hg hsm hl idomS_len hb (by omega)) ?_
    rintro v1 h1 ⟨hle1, r1⟩
    have hg := hg.mono hle1
    have r1 := r1.mono (fresh_le _ _)
    refine call_to (by kernel_rfl) (refBody_ok hg hsm.1) ?_
    rintro v2 h2 ⟨hle2, r2⟩
    have hg := hg.mono hle2
    have r1 := r1.mono hle2
    have r2 := r2.mono (fresh_le _ _)
    refine call_to (by kernel_rfl) (nums_ok r1 r2) ?_
    rintro _ _ ⟨rfl, rfl⟩
    rw [beq_self_eq_true]
    simp (disch := omega)
    exact hK2 _ _ _ (by omega) ⟨k + 1, by omega, by omega, rfl, rfl, View.le_trans hle3 (View.le_trans hle1 hle2)⟩
  · simp [L.law02_tells.l1, hg.len, hlt]
    exact hK _ _ ⟨rfl, hle⟩

theorem few_len {g : Gr} : (fewS g).length ≤ 12 := by simp [fewS]; omega
theorem sm_few {g : Gr} : Sm (fewS g) := by
  have hl := few_len (g := g)
  refine ⟨by omega, fun i hi => ?_⟩
  have hi' : i < min g.length 12 := by simpa [fewS] using hi
  rw [fewS, nth_rows hi', List.length_take]
  omega

theorem graphTells_ok {g : Gr} {s : List Int} {vg vs : Value} {h : Heap} (hg : SlRd (vw h) vg g) (hs : SlRd (vw h) vs s) : HCalls Try.prog N.law02_GraphTells #[vg, vs] h (fun v h' => v = .bool true ∧ (vw h).le (vw h')) := by
  refine calls_lift (args := [vg, vs]) follows Try.func3 E.law02_GraphTells (by show 2 ≤ 21; decide) fun K hK => ?_
  dsimp only [L.law02_GraphTells]
  refine lwp_hide fun z hz => ?_
  simp
  rw [hz]; clear hz z
  refine lwp_hide fun z hz => ?_
  simp
  refine call_to (by kernel_rfl) awake_ok ?_
  rintro _ h1 ⟨rfl, hle⟩
  have hg := hg.mono hle
  have hs := hs.mono hle
  rw [hz]; clear hz z
  refine lwp_hide fun z hz => ?_
  simp
  refine call_to (by kernel_rfl) (few_ok (View.le_refl _) hg) ?_
  rintro v1 h2 ⟨_, m⟩
  have hs := hs.mono m.old
  have hle := View.le_trans hle m.old
  have r := m.now
  clear m
  have hl := few_len (g := g)
  refine call_to (by kernel_rfl) (tells_ok r sm_few (by omega)) ?_
  rintro _ h3 ⟨rfl, hle3⟩
  have hs := hs.mono hle3
  have hle := View.le_trans hle hle3
  simp
  refine call_to (by kernel_rfl) (made_ok hs) ?_
  rintro v2 h4 ⟨_, m⟩
  have hle := View.le_trans hle m.old
  have r := m.now
  clear m
  have hl := made_len (s := s)
  refine call_to (by kernel_rfl) (tells_ok r sm_made (by omega)) ?_
  rintro _ h5 ⟨rfl, hle5⟩
  have hle := View.le_trans hle hle5
  simp
  refine call_to (by kernel_rfl) (tells_ok (g := []) ⟨none, 0, rfl, by simp, by simp, .inl rfl⟩ ⟨by simp, by simp⟩ (by simp)) ?_
  rintro _ h6 ⟨rfl, hle6⟩
  have hle := View.le_trans hle hle6
  rw [hz]
  simp
  exact hK _ _ ⟨rfl, hle⟩
end Go.Proofs.Ytaebcebflfgdiaa

/- Plain laws of graphs: what the order's statement asks. -/
namespace Go.Proofs.Ytaebcebflfgdiaa
open Go Go.Lft Chk
set_option linter.unusedSimpArgs false
set_option linter.unusedVariables false

theorem dom_rk {g : Gr} {f : Nat → Nat} (C : Ch (Rg g) (rk g) (Eg g) f (Dm g)) : ∀ (n : Nat) {d b : Nat}, rk g b ≤ n → Rg g b → domC g d b = true → d = b ∨ rk g d < rk g b := by
  intro n
  induction n with
  | zero =>
    intro d b hn hb hd
    have hb0 : b = 0 := C.inj _ _ hb C.R0 (by rw [C.r0]; omega)
    subst hb0
    exact .inl (C.d0 d hd)
  | succ n ih =>
    intro d b hn hb hd
    by_cases e : d = b
    · exact .inl e
    · by_cases hb0 : b = 0
      · subst hb0; exact .inl (C.d0 d hd)
      · have hf := C.hf b hb hb0
        have := ih (by omega) hf.1 (C.d1 d b (f b) hd e hf.2.1 hf.1)
        rcases this with h | h
        · rw [h]; exact .inr hf.2.2
        · exact .inr (by omega)

/-- How many are true. -/
def cntS (l : List Bool) (k : Nat) : Nat := ((List.range k).filter fun i => nth l i).length
theorem cntS_succ {l : List Bool} {k : Nat} : cntS l (k + 1) = cntS l k + if nth l k then 1 else 0 := by
  unfold cntS
  rw [List.range_succ, List.filter_append, List.length_append]
  cases h : nth l k <;> simp [h]
theorem cntS_le {l : List Bool} {k : Nat} : cntS l k ≤ k := by
  have := List.length_filter_le (fun i => nth l i) (List.range k)
  simpa [cntS] using this

theorem order_cnt {g : Gr} (hg : 0 < g.length) : (gOrderS g).length = cntS (withoutS g (-1)) g.length := by
  have O := order_is hg
  have h1 : ((gOrderS g).map Int.toNat).Nodup := by
    refine List.pairwise_map.2 (List.Pairwise.imp_of_mem (fun {x y} hx hy hne e => ?_) O.nodup)
    have := O.rng x hx
    have := O.rng y hy
    exact hne (by omega)
  have h2 : ((List.range g.length).filter fun i => nth (withoutS g (-1)) i).Nodup := (List.nodup_range).filter _
  have := (List.perm_ext_iff_of_nodup h1 h2).2 fun x => by
    simp only [List.mem_map, List.mem_filter, List.mem_range, without_spec]
    constructor
    · rintro ⟨y, hy, rfl⟩
      have hr := O.rng y hy
      have h3 : Re g (-1) y.toNat := (O.mem _).1 (by rwa [Int.toNat_of_nonneg hr.1])
      exact ⟨by omega, h3⟩
    · rintro ⟨hx, h3⟩
      exact ⟨x, (O.mem x).2 h3, by simp⟩
  have := this.length_eq
  rw [List.length_map] at this
  exact this

structure OrderIs (g : Gr) (l : List Int) : Prop where
  cnt : l.length = cntS (withoutS g (-1)) g.length
  pos : 0 < l.length
  head : nth l 0 = 0
  rng : ∀ i, i < l.length → 0 ≤ nth l i ∧ nth l i < g.length
  par : ∀ i, i < l.length → (decide (i = 0) || anyUp (fun k => edgeS g (nth l k) (nth l i)) i) = true
  ne : ∀ i k, i < l.length → k < i → nth l k ≠ nth l i ∧ domC g (nth l i).toNat (nth l k).toNat = false

theorem order_told {g : Gr} (hg : 0 < g.length) : OrderIs g (gOrderS g) := by
  have O := order_is hg
  obtain ⟨f, hf⟩ := has_par hg
  have C := ch_of hg hf
  have hpos : 0 < (gOrderS g).length := by
    have := O.head
    cases h : gOrderS g with
    | nil => rw [h] at this; cases this
    | cons => simp
  have hmem : ∀ i, i < (gOrderS g).length → nth (gOrderS g) i ∈ gOrderS g := fun i hi => nth_mem hi
  have hrg : ∀ i, i < (gOrderS g).length → Rg g (nth (gOrderS g) i).toNat := by
    intro i hi
    have := O.rng _ (hmem i hi)
    exact (O.mem _).1 (by rw [Int.toNat_of_nonneg this.1]; exact hmem i hi)
  have hidx : ∀ i, i < (gOrderS g).length → (gOrderS g).idxOf (nth (gOrderS g) i) = i := by
    intro i hi
    rw [nth_eq hi]
    exact O.nodup.idxOf_getElem i hi
  have hrk : ∀ i, i < (gOrderS g).length → rk g (nth (gOrderS g) i).toNat = i := by
    intro i hi
    have := O.rng _ (hmem i hi)
    unfold rk
    rw [Int.toNat_of_nonneg this.1]
    exact hidx i hi
  have hhead : nth (gOrderS g) 0 = 0 := by
    have := O.head
    rw [nth_eq hpos]
    rw [List.getElem?_eq_getElem hpos] at this
    exact Option.some.inj this
  refine ⟨order_cnt hg, hpos, hhead, fun i hi => O.rng _ (hmem i hi), fun i hi => ?_, fun i k hi hk => ⟨fun e => ?_, ?_⟩⟩
  · rw [Bool.or_eq_true]
    by_cases e : i = 0
    · exact .inl (decide_eq_true e)
    · refine .inr (any_iff.2 ?_)
      have hne : nth (gOrderS g) i ≠ 0 := by
        intro h
        have h1 := hidx i hi
        have h2 := hidx 0 hpos
        rw [h, ← hhead, h2] at h1
        exact e h1.symm
      obtain ⟨p, hp, h1, h2⟩ := O.par _ (hmem i hi) hne
      rw [hidx i hi] at h2
      have hpl := List.idxOf_lt_length_of_mem hp
      refine ⟨(gOrderS g).idxOf p, h2, ?_⟩
      rw [nth_eq hpl, List.getElem_idxOf hpl]
      exact h1
  · have h1 := hidx i hi
    rw [← e, hidx k (by omega)] at h1
    omega
  · rw [Bool.eq_false_iff]
    intro hd
    have := dom_rk C _ (Nat.le_refl _) (hrg k (by omega)) hd
    have h1 := hrk i hi
    have h2 := hrk k (by omega)
    rcases this with h | h
    · rw [h] at h1; omega
    · omega
end Go.Proofs.Ytaebcebflfgdiaa

namespace Go.Proofs.Ytaebcebflfgdiaa
open Go Go.Lft Chk
set_option linter.unusedSimpArgs false
set_option linter.unusedVariables false

theorem graphOrder_ok {s : List Int} {vs : Value} {h : Heap} (hs : SlRd (vw h) vs s) : HCalls Try.prog N.law02_GraphOrder #[vs] h (fun v h' => v = .bool true ∧ (vw h).le (vw h')) := by
  refine calls_lift (args := [vs]) follows Try.func4 E.law02_GraphOrder (by show 1 ≤ 117; decide) fun K hK => ?_
  dsimp only [L.law02_GraphOrder]
  refine lwp_hide fun z hz => ?_
  simp
  rw [hz]; clear hz z
  refine lwp_hide fun z hz => ?_
  simp
  refine call_to (by kernel_rfl) awake_ok ?_
  rintro _ h1 ⟨rfl, hle⟩
  rw [hz]; clear hz z
  refine lwp_hide fun z hz => ?_
  simp
  refine call_to (by kernel_rfl) (made_ok (hs.mono hle)) ?_
  rintro vg h2 ⟨_, m2⟩
  have hg := m2.now
  have hsm := sm_made (s := s)
  have hle := View.le_trans hle m2.old
  have hl10 := made_len (s := s)
  clear m2
  generalize madeS s = g at hg hsm hl10
  have O := order_told (g := g) (by omega)
  rw [hz]; clear hz z
  refine lwp_hide fun z hz => ?_
  simp
  refine call_to (by kernel_rfl) (order_ok hg hsm) ?_
  rintro vl h3 ⟨hle3, rl⟩
  have hg := hg.mono hle3
  have rl := rl.mono (fresh_le _ _)
  have hle := View.le_trans hle hle3
  rw [hz]; clear hz z
  refine lwp_hide fun z hz => ?_
  simp
  refine call_to (by kernel_rfl) (table_ok hg hsm.1) ?_
  rintro vt h4 ⟨hle4, rt⟩
  have hg := hg.mono hle4
  have rl := rl.mono hle4
  have rt := rt.mono (fresh_le _ _)
  have hle := View.le_trans hle hle4
  rw [hz]; clear hz z
  refine lwp_hide fun z hz => ?_
  simp
  refine call_to (by kernel_rfl) (without_ok hg hsm.1) ?_
  rintro va h5 ⟨hle5, ra⟩
  have hg := hg.mono hle5
  have rl := rl.mono hle5
  have rt := rt.mono hle5
  have ra := ra.mono (fresh_le _ _)
  have hle := View.le_trans hle hle5
  have hwl : (withoutS g (-1)).length = g.length := withoutS_len
  generalize gOrderS g = l at O rl
  have hll : l.length ≤ g.length := by rw [O.cnt]; exact cntS_le
  rw [hz]; clear hz z
  simp
  refine lwp_for [2, 3, 4, 5, 6, 7, 8, 9] (fun (_ : Unit) k => [.bool false, .bool true, vg, vl, vt, va, .int .i64 (cntS (withoutS g (-1)) k), .int .i64 k]) (fun _ k h6 => h6 = h5) g.length ()
    rfl (by omega) rfl rfl (fun _ _ => rfl) (fun v k h1 hk m => by simp [ra.len, hwl]) ?_ ?_
  · rintro _ k h6 hltk rfl K2 hK2
    have hc := cntS_le (l := withoutS g (-1)) (k := k)
    simp (disch := omega) [ra.idx1 rfl, ra.bool (View.le_refl _), condP_bool]
    refine ⟨fun he => ?_, fun he => ?_⟩
    · exact hK2 () _ _ rfl (by rw [cntS_succ, he]; rfl) rfl
    · exact hK2 () _ _ rfl (by rw [cntS_succ, he]; rfl) rfl
  · rintro _ h6 rfl
    rw [← O.cnt]
    have hpos := O.pos
    have hne : ¬ l = [] := fun e => by rw [e] at hpos; exact absurd hpos (by decide)
    simp (disch := omega) [rl.len, hne, rl.idx1 rfl, rl.int (View.le_refl _), O.head]
    have hlt := tableS_len (g := g)
    obtain ⟨rv, hrv⟩ := rt.rows
    refine lwp_for [3, 4, 5, 6, 10] (fun (_ : Unit) i => [.bool true, vg, vl, vt, .int .i64 i]) (fun _ i h7 => h7 = h6) l.length ()
      rfl (by omega) rfl rfl (fun _ _ => rfl) (fun v k h1 hk m => by simp [rl.len]) ?_ ?_
    · rintro _ i h7 hi rfl K2 hK2
      have hr := O.rng i hi
      obtain ⟨y, hy⟩ := Int.eq_ofNat_of_zero_le hr.1
      simp (disch := omega) [rl.len, rl.idx1 rfl, rl.int (View.le_refl _), hg.len, Int.not_lt.2 hr.1, Int.not_le.2 hr.2]
      obtain ⟨cr, rr⟩ := hrv y (by omega)
      have hrl := tableS_row_len (g := g) (a := y) (by omega)
      refine lwp_for [3, 4, 5, 6, 10, 11, 12] (fun (_ : Unit) k => [.bool true, vg, vl, vt, .int .i64 i, .bool (decide (i = 0) || anyUp (fun k => edgeS g (nth l k) (nth l i)) k), .int .i64 k]) (fun _ i h8 => h8 = h7) i ()
        rfl (by omega) ?_ rfl (fun _ _ => rfl) (fun v k h1 hk m => by simp) ?_ ?_
      · simp [anyUp, up]; rfl
      · rintro _ k h8 hk rfl K3 hK3
        have hrk := O.rng k (by omega)
        have hn := O.ne i k hi hk
        obtain ⟨x, hx⟩ := Int.eq_ofNat_of_zero_le hrk.1
        have hxl : x < g.length := by omega
        refine lwp_hide fun z hz => ?_
        simp
        refine drawn_at (vw h8) (View.le_refl _) ?_
        simp (disch := omega) [rl.len, rl.idx1 rfl, rl.int (View.le_refl _)]
        refine call_to (by kernel_rfl) (edge_ok hg) ?_
        rintro _ _ ⟨rfl, rfl⟩
        rw [hx, hy] at hn
        have hn1 : ¬ (x : Int) = y := hn.1
        have hn2 := hn.2
        simp only [Int.toNat_natCast] at hn2
        rw [hz]; clear hz z
        simp (disch := omega) [rl.idx1 rfl, rl.int (View.le_refl _), hx, hy, hn1, rt.idx1 rfl, cr _ (View.le_refl _), rr.idx1 rfl, rr.bool (View.le_refl _), tableS_nth, hn2]
        exact hK3 () _ _ rfl (by rw [anyUp_succ, hx, hy, ← Bool.or_assoc]; rfl) rfl
      · rintro _ h8 rfl
        have := O.par i hi
        simp [this]
        exact hK2 () _ _ rfl rfl rfl
    · rintro _ h7 rfl
      simp
      exact hK _ _ ⟨rfl, hle⟩
end Go.Proofs.Ytaebcebflfgdiaa

/- Plain laws of graphs: what the statement on loops' bodies asks. -/
namespace Go.Proofs.Ytaebcebflfgdiaa
open Go Go.Lft Chk
set_option linter.unusedSimpArgs false
set_option linter.unusedVariables false

section
variable {g : Gr}

theorem headers_mem {h : Int} (hm : h ∈ headersS g) : 0 ≤ h ∧ h < g.length ∧ ∃ x, Src g h x := by
  rw [headersS, mem_sift] at hm
  obtain ⟨i, hi, h1, rfl⟩ := hm
  obtain ⟨k, hk, h2⟩ := any_iff.1 h1
  rw [headP, Bool.and_eq_true] at h2
  exact ⟨by omega, by omega, k, h2.1, by simpa using h2.2⟩

theorem body_mem {h : Int} (hh : 0 ≤ h ∧ h < g.length) (hs : ∃ x, Src g h x) {x : Int} : x ∈ bodyS g h ↔ 0 ≤ x ∧ Rg g x.toNat ∧ Bk g h x := by
  have hany : anyUp (backP g h) g.length = true := by
    obtain ⟨y, h1, h2⟩ := hs
    have hr := (edgeS_iff.1 h1).1
    exact any_iff.2 ⟨y.toNat, by omega, by rw [backP, Int.toNat_of_nonneg hr.1, h1, h2]; rfl⟩
  rw [bodyS, if_pos hany, mem_sift]
  constructor
  · rintro ⟨i, hi, h1, rfl⟩
    have := (in_spec hh hs).1 h1
    exact ⟨by omega, this.1, this.2⟩
  · rintro ⟨h0, h1, h2⟩
    have e := Int.toNat_of_nonneg h0
    exact ⟨x.toNat, h1.lt, (in_spec hh hs).2 ⟨h1, by rw [e]; exact h2⟩, e⟩

theorem bodyS_len {h : Int} : (bodyS g h).length ≤ g.length := by
  unfold bodyS
  split
  · exact sift_len _
  · simp

theorem bk_dom {f : Nat → Nat} (C : Ch (Rg g) (rk g) (Eg g) f (Dm g)) {h : Int} (hh : 0 ≤ h ∧ h < g.length) (hR : Rg g h.toNat) {x : Int} (hb : Bk g h x) : 0 ≤ x → Rg g x.toNat → domC g h.toNat x.toNat = true := by
  induction hb with
  | hd =>
    intro _ h1
    refine domC_iff.2 ⟨h1, h1, fun h2 => ?_⟩
    have := h2.ne
    omega
  | src hs => intro _ _; exact hs.2
  | step hb hne he ih =>
    rename_i x y
    intro h0 h1
    have hr := (edgeS_iff.1 he).1
    have ex := Int.toNat_of_nonneg h0
    have ey := Int.toNat_of_nonneg hr.2.2.1
    have hRy : Rg g y.toNat := .step h1 (by rw [ex, ey]; exact he) (by omega)
    exact C.d1 _ _ _ (ih hr.2.2.1 hRy) (by omega) (by show edgeS g _ _ = true; rw [ex, ey]; exact he) h1

/-- Who has a way to the header, one more step. -/
def goX (g : Gr) (inn : Int → Bool) (b : Int) (x : Nat) (s : Int → Bool) : Int → Bool := fun j => if j = b then s b || (edgeS g b x && inn x && s x) else s j
def goK (g : Gr) (inn : Int → Bool) (body : List Int) (k : Nat) (s : Int → Bool) : Int → Bool := up (goX g inn (nth body k)) g.length s
def goR (g : Gr) (inn : Int → Bool) (body : List Int) (s : Int → Bool) : Int → Bool := up (goK g inn body) body.length s

def Sub (s t : Int → Bool) : Prop := ∀ j, s j = true → t j = true
theorem sub_refl {s : Int → Bool} : Sub s s := fun _ h => h
theorem up_sub {F : Nat → (Int → Bool) → Int → Bool} (hF : ∀ k s, Sub s (F k s)) (n : Nat) (s : Int → Bool) : Sub s (up F n s) := by
  induction n with
  | zero => exact sub_refl
  | succ n ih => exact fun j h => hF _ _ _ (ih j h)
theorem up_sub_le {F : Nat → (Int → Bool) → Int → Bool} (hF : ∀ k s, Sub s (F k s)) {m n : Nat} (h : m ≤ n) (s : Int → Bool) : Sub (up F m s) (up F n s) := by
  induction n with
  | zero => obtain rfl : m = 0 := by omega
            exact sub_refl
  | succ n ih =>
    by_cases e : m = n + 1
    · subst e; exact sub_refl
    · exact fun j h2 => hF _ _ _ (ih (by omega) j h2)
theorem goX_sub {inn : Int → Bool} {b : Int} (x : Nat) (s : Int → Bool) : Sub s (goX g inn b x s) := by
  intro j h
  unfold goX
  split
  · rename_i e; subst e; rw [h]; rfl
  · exact h
theorem goK_sub {inn : Int → Bool} {body : List Int} (k : Nat) (s : Int → Bool) : Sub s (goK g inn body k s) := up_sub (fun k s => goX_sub k s) _ _
theorem goR_sub {inn : Int → Bool} {body : List Int} (s : Int → Bool) : Sub s (goR g inn body s) := up_sub (fun k s => goK_sub k s) _ _

theorem goR_step {inn : Int → Bool} {body : List Int} {s : Int → Bool} {k x : Nat} (hk : k < body.length) (hx : x < g.length) (he : edgeS g (nth body k) x = true) (hi : inn x = true) (hs : s x = true) : goR g inn body s (nth body k) = true := by
  refine up_sub_le (fun k s => goK_sub k s) (m := k + 1) hk s _ ?_
  show goK g inn body k (up (goK g inn body) k s) (nth body k) = true
  have h1 := up_sub (fun k s => goK_sub (g := g) (inn := inn) (body := body) k s) k s x hs
  generalize up (goK g inn body) k s = t at h1
  refine up_sub_le (fun k s => goX_sub k s) (m := x + 1) hx t _ ?_
  show goX g inn (nth body k) x (up (goX g inn (nth body k)) x t) (nth body k) = true
  have h2 : up (goX g inn (nth body k)) x t x = true := up_sub (F := goX g inn (nth body k)) (fun k s => goX_sub k s) x t x h1
  rw [goX, if_pos rfl, he, hi, h2]
  simp

theorem cnt_mono {p q : Nat → Bool} : ∀ (n : Nat), (∀ i, i < n → q i = true → p i = true) → (List.range n).countP q ≤ (List.range n).countP p ∧ ((List.range n).countP q = (List.range n).countP p → ∀ i, i < n → q i = p i)
  | 0, _ => ⟨by simp, fun _ i hi => by omega⟩
  | n + 1, h => by
    obtain ⟨h1, h2⟩ := cnt_mono n fun i hi => h i (by omega)
    have h3 := h n (by omega)
    rw [List.range_succ, List.countP_append, List.countP_append]
    cases hp : p n <;> cases hq : q n
    · simp [hp, hq]
      refine ⟨h1, fun e i hi => ?_⟩
      by_cases e2 : i = n
      · subst e2; rw [hp, hq]
      · exact h2 e i (by omega)
    · rw [h3 hq] at hp; cases hp
    · simp [hp, hq]
      exact ⟨by omega, fun e => by omega⟩
    · simp [hp, hq]
      refine ⟨h1, fun e i hi => ?_⟩
      by_cases e2 : i = n
      · subst e2; rw [hp, hq]
      · exact h2 e i (by omega)

theorem go_fix {inn : Int → Bool} {body : List Int} {h : Int} (hin : ∀ x, inn x = true ↔ x ∈ body) (hb : ∀ x, x ∈ body ↔ 0 ≤ x ∧ Rg g x.toNat ∧ Bk g h x) (hh : 0 ≤ h ∧ h < g.length) (hR : Rg g h.toNat) :
    ∀ (n : Nat) (s : Int → Bool), s h = true → ((List.range body.length).countP fun k => !s (nth body k)) ≤ n → ∀ k, k < body.length → up (fun _ => goR g inn body) n s (nth body k) = true := by
  have hhm : h ∈ body := (hb h).2 ⟨hh.1, hR, .hd⟩
  intro n
  induction n with
  | zero =>
    intro s hs hc k hk
    have h0 : ((List.range body.length).countP fun k => !s (nth body k)) = 0 := by omega
    rw [List.countP_eq_zero] at h0
    have := h0 k (by simpa using hk)
    simpa [up] using this
  | succ n ih =>
    intro s hs hc k hk
    rw [up_shift]
    have hm := cnt_mono (p := fun k => !s (nth body k)) (q := fun k => !goR g inn body s (nth body k)) body.length fun i hi hq => by
      simp only [Bool.not_eq_true'] at hq ⊢
      rw [Bool.eq_false_iff] at hq ⊢
      exact fun h2 => hq (goR_sub s _ h2)
    by_cases hlt : ((List.range body.length).countP fun k => !goR g inn body s (nth body k)) < ((List.range body.length).countP fun k => !s (nth body k))
    · exact ih _ (goR_sub s _ hs) (by omega) k hk
    · have heq := hm.2 (by omega)
      have hst : ∀ y, Bk g h y → 0 ≤ y → Rg g y.toNat → s y = true := by
        have key : ∀ y x : Int, Bk g h y → 0 ≤ y → Rg g y.toNat → edgeS g y x = true → x ∈ body → s x = true → s y = true := by
          intro y x hy h0 h1 he hx hsx
          obtain ⟨i, hi, e⟩ := List.getElem_of_mem ((hb y).2 ⟨h0, h1, hy⟩)
          rw [← nth_eq hi] at e
          have hr := (edgeS_iff.1 he).1
          obtain ⟨x', rfl⟩ := Int.eq_ofNat_of_zero_le hr.2.2.1
          have h2 := goR_step (g := g) (s := s) (inn := inn) hi (x := x') (by omega) (by rw [e]; exact he) ((hin _).2 hx) hsx
          have h3 := heq i hi
          rw [← e]
          cases h4 : s (nth body i) with
          | true => rfl
          | false =>
            have h5 : (!goR g inn body s (nth body i)) = !s (nth body i) := h3
            rw [h2, h4] at h5; cases h5
        intro y hy
        induction hy with
        | hd => intro _ _; exact hs
        | src hs2 => intro h0 h1; exact key _ h (.src hs2) h0 h1 hs2.1 hhm hs
        | step hb2 hne he ih2 =>
          rename_i x y
          intro h0 h1
          have hr := (edgeS_iff.1 he).1
          have ex := Int.toNat_of_nonneg h0
          have ey := Int.toNat_of_nonneg hr.2.2.1
          have hRy : Rg g y.toNat := .step h1 (by rw [ex, ey]; exact he) (by omega)
          exact key x y (.step hb2 hne he) h0 h1 he ((hb y).2 ⟨hr.2.2.1, hRy, hb2⟩) (ih2 hr.2.2.1 hRy)
      obtain ⟨h0, h1, h2⟩ := (hb _).1 (nth_mem hk)
      exact up_sub (fun _ s => goR_sub s) n _ _ (goR_sub s _ (hst _ h2 h0 h1))
end
end Go.Proofs.Ytaebcebflfgdiaa

namespace Go.Proofs.Ytaebcebflfgdiaa
open Go Go.Lft Chk
set_option linter.unusedSimpArgs false
set_option linter.unusedVariables false

/-- A map of numbers to bools. -/
def mapO (f : Int → Option Bool) : Value → Option Value
  | .int .i64 j => (f j).map .bool
  | _ => none
@[simp] theorem mapO_int {f : Int → Option Bool} {j : Int} : mapO f (.int .i64 j) = (f j).map .bool := rfl
theorem mapO_put {f g : Int → Option Bool} {j : Int} {v : Bool} (h : ∀ i, g i = if i = j then some v else f i) : mapO g (.int .i64 j) = some (.bool v) ∧ ∀ u, u ≠ .int .i64 j → mapO g u = mapO f u := by
  refine ⟨by simp [h], fun u hu => ?_⟩
  cases u <;> try rfl
  rename_i k i
  cases k <;> try rfl
  have : i ≠ j := fun e => hu (by rw [e])
  simp [h, this]
theorem mapO_none : mapO (fun _ => .none) = fun _ => .none := by
  funext u; cases u <;> try rfl
  rename_i k i; cases k <;> rfl
@[simp] theorem getD_boolO {o : Option Bool} : (o.map Value.bool).getD (.bool false) = .bool (o.getD false) := by cases o <;> rfl

theorem graphBody_ok {s : List Int} {vs : Value} {n : Int} {h : Heap} (hs : SlRd (vw h) vs s) : HCalls Try.prog N.law02_GraphBody #[vs, .int .i64 n] h (fun v h' => v = .bool true ∧ (vw h).le (vw h')) := by
  refine calls_lift (args := [vs, .int .i64 n]) follows Try.func7 E.law02_GraphBody (by show 2 ≤ 171; decide) fun K hK => ?_
  dsimp only [L.law02_GraphBody]
  refine lwp_hide fun z hz => ?_
  simp
  rw [hz]; clear hz z
  refine lwp_hide fun z hz => ?_
  simp
  refine call_to (by kernel_rfl) awake_ok ?_
  rintro _ h1 ⟨rfl, hle⟩
  rw [hz]; clear hz z
  refine lwp_hide fun z hz => ?_
  simp
  refine call_to (by kernel_rfl) (made_ok (hs.mono hle)) ?_
  rintro vg h2 ⟨_, m2⟩
  have hg := m2.now
  have hsm := sm_made (s := s)
  have hle := View.le_trans hle m2.old
  have hl10 := made_len (s := s)
  clear m2
  generalize madeS s = g at hg hsm hl10
  obtain ⟨f, C, l0, hl0, I⟩ := idom_spec (g := g) (by omega)
  have A := agree (g := g) (by omega)
  obtain ⟨fuel, hl⟩ := A.idom
  rw [hz]; clear hz z
  refine lwp_hide fun z hz => ?_
  simp
  refine call_to (by kernel_rfl) (headers_ok hg hsm hl idomS_len) ?_
  rintro vl h3 ⟨hle3, rl⟩
  have hg := hg.mono hle3
  have rl := rl.mono (fresh_le _ _)
  have hle := View.le_trans hle hle3
  rw [A.headers] at rl
  have hhl : (headersS g).length ≤ g.length := sift_len _
  have hhm := fun h => headers_mem (g := g) (h := h)
  generalize headersS g = l at rl hhl hhm
  rw [hz]; clear hz z
  refine lwp_hide fun z hz => ?_
  simp [rl.len]
  refine ⟨fun _ => hK _ _ ⟨rfl, hle⟩, fun hne => ?_⟩
  have hpos : 0 < l.length := List.length_pos_iff.2 hne
  have hx := restS_range (x := n) (n := l.length) (by omega)
  rw [hz]; clear hz z
  refine lwp_hide fun z hz => ?_
  simp [rl.len]
  refine call_to (by kernel_rfl) (rest_ok (by omega) (by omega)) ?_
  rintro _ _ ⟨rfl, rfl⟩
  generalize restS n l.length = x at hx
  obtain ⟨x, rfl⟩ := Int.eq_ofNat_of_zero_le hx.1
  simp (disch := omega) [rl.idx1 rfl, rl.int (View.le_refl _)]
  have hmem := hhm _ (nth_mem (show x < l.length by omega))
  generalize nth l x = hd at hmem
  obtain ⟨hd0, hd1, hsrc⟩ := hmem
  have hRh : Rg g hd.toNat := by
    obtain ⟨y, _, hy⟩ := hsrc
    exact (domC_iff.1 hy).1
  have hbm : ∀ x : Int, x ∈ bodyS g hd ↔ 0 ≤ x ∧ Rg g x.toNat ∧ Bk g hd x := fun x => body_mem ⟨hd0, hd1⟩ hsrc
  have hbd : ∀ x : Int, x ∈ bodyS g hd → domS g hd x = true := fun x hx => by
    obtain ⟨q0, q1, q2⟩ := (hbm x).1 hx
    have := q1.lt
    have hdd := bk_dom C ⟨hd0, hd1⟩ hRh q2 q0 q1
    simp [domS, hdd, hd0, hd1, q0]; omega
  have hbr : ∀ i, i < (bodyS g hd).length → 0 ≤ nth (bodyS g hd) i ∧ nth (bodyS g hd) i < g.length := fun i hi => by
    obtain ⟨q0, q1, q2⟩ := (hbm _).1 (nth_mem hi)
    have := q1.lt
    exact ⟨q0, by omega⟩
  have hbl := bodyS_len (g := g) (h := hd)
  obtain ⟨fuel2, hb⟩ := A.body hd
  rw [hz]; clear hz z
  refine lwp_hide fun z hz => ?_
  simp
  refine call_to (by kernel_rfl) (body_ok hg hsm hl idomS_len hb (by omega)) ?_
  rintro vb h4 ⟨hle4, rb⟩
  have hg := hg.mono hle4
  have rb := rb.mono (fresh_le _ _)
  have hle := View.le_trans hle hle4
  generalize hbody : bodyS g hd = body at rb hbm hbd hbr hbl
  rw [hz]; clear hz z
  refine lwp_hide fun z hz => ?_
  simp
  refine call_to (by kernel_rfl) (without_ok hg hsm.1) ?_
  rintro va h5 ⟨hle5, ra⟩
  have hg := hg.mono hle5
  have rb := rb.mono hle5
  have ra := ra.mono (fresh_le _ _)
  have hle := View.le_trans hle hle5
  have hwl : (withoutS g (-1)).length = g.length := withoutS_len
  rw [hz]; clear hz z
  refine lwp_hide fun z hz => ?_
  simp
  refine do_makeMap ?_
  have hle6 := push_le h5 (.map #[] 0)
  have hM6 : (h5.push (.map #[] 0))[h5.size]? = some (.map #[] 0) := by simp
  generalize h5.push (.map #[] 0) = h6 at hle6 hM6
  have m6 : MapIs (.int .i64) h6 h5.size (mapB fun _ => false) := by rw [mapB_none]; exact MapIs.none hM6
  have hmB : ∀ (h' : Heap) (r : Nat) (o : Heap), r ≥ h5.size → (vw h5).le (vw h') → (∀ b, b ≠ r → o[b]? = h'[b]?) → (vw h5).le (vw o) := fun h' r o hr hle ho b x hb => by
    have hlt := View.lt (View.le_refl (vw h5)) hb
    show o[b]? = _
    rw [ho b (by omega)]; exact hle b x hb
  rw [hz]; clear hz z
  refine lwp_hide fun z hz => ?_
  simp
  refine lwp_for [4, 5, 6, 8, 9, 10, 11, 12] (fun (_ : Unit) k => [.bool false, .bool true, vg, .int .i64 hd, vb, va, .map (some h5.size), .int .i64 k]) (fun _ k h7 => (vw h5).le (vw h7) ∧ MapIs (.int .i64) h7 h5.size (mapB fun j => decide (j ∈ body.take k))) body.length ()
    rfl (by omega) rfl ⟨hle6, by simpa using m6⟩ (fun _ _ => rfl) (fun v k h1 hk m => by simp [rb.len]) ?_ ?_
  · rintro _ k h7 hltk ⟨hle7, m7⟩ K2 hK2
    have hg7 := hg.mono hle7
    have rb7 := rb.mono hle7
    have hmk := nth_mem hltk
    have hr := hbr k hltk
    simp (disch := omega) [rb7.idx1 rfl, rb7.int (View.le_refl _)]
    refine call_to (by kernel_rfl) (dom_ok hg7 hsm.1) ?_
    rintro _ h8 ⟨rfl, hle8⟩
    rw [hbd _ hmk]
    have rb8 := rb7.mono hle8
    have hle8' := View.le_trans hle7 hle8
    simp (disch := omega) [rb8.idx1 rfl, rb8.int (View.le_refl _)]
    obtain ⟨u1, u2⟩ := mapB_put (f := fun j => decide (j ∈ body.take k)) (g := fun j => decide (j ∈ body.take (k + 1))) (j := nth body k) (fun i => by
      rw [List.take_succ_eq_append_getElem hltk, ← nth_eq hltk]
      by_cases e : i = nth body k <;> simp [e])
    refine do_update (.inl rfl) u39 u3 (by simp <;> rfl) (by simp <;> rfl) (by simp <;> rfl) isKey_i (m7.ext hle8) _ u1 u2 fun h9 hs9 ho9 m9 => ?_
    exact hK2 () _ _ rfl rfl ⟨hmB _ _ _ (Nat.le_refl _) hle8' ho9, m9⟩
  · rintro _ h7 ⟨hle7, m7⟩
    rw [List.take_of_length_le (Nat.le_refl _)] at m7
    have hlt7 := m7.lt
    rw [hz]; clear hz z
    refine lwp_hide fun z hz => ?_
    simp
    refine do_makeMap ?_
    have hle8 := push_le h7 (.map #[] 0)
    have hM8 : (h7.push (.map #[] 0))[h7.size]? = some (.map #[] 0) := by simp
    generalize h7.push (.map #[] 0) = h8 at hle8 hM8
    have m8 : MapIs (.int .i64) h8 h7.size (mapO fun _ => none) := by rw [mapO_none]; exact MapIs.none hM8
    obtain ⟨u1, u2⟩ := mapO_put (f := fun _ => none) (g := fun j => if j = hd then some true else none) (j := hd) (v := true) (fun i => rfl)
    refine do_update (.inr rfl) u39 u3 (by simp <;> rfl) (by simp <;> rfl) (by simp <;> rfl) isKey_i m8 _ u1 u2 fun h9 hs9 ho9 m9 => ?_
    have hle9 : (vw h5).le (vw h9) := hmB _ _ _ (by omega) (View.le_trans hle7 hle8) ho9
    have mi9 := (m7.ext hle8).same (ho9 h5.size (by omega))
    generalize hin : (fun j => decide (j ∈ body)) = inn at mi9
    have hin' : ∀ x, inn x = true ↔ x ∈ body := fun x => by rw [← hin]; simp
    have hfix := go_fix hin' hbm ⟨hd0, hd1⟩ hRh body.length (fun j => decide (j = hd)) (by simp) (by
      have := List.countP_le_length (p := fun k => !decide (nth body k = hd)) (l := List.range body.length)
      simpa using this)
    rw [hz]; clear hz z
    refine lwp_hide fun z hz => ?_
    simp
    refine lwp_for [4, 5, 6, 8, 9, 10, 11, 14, 15] (fun (_ : Unit) k => [.bool false, .bool true, vg, .int .i64 hd, vb, va, .map (some h5.size), .map (some h7.size), .int .i64 k])
      (fun _ k h => (vw h5).le (vw h) ∧ MapIs (.int .i64) h h5.size (mapB inn) ∧ ∃ f, MapIs (.int .i64) h h7.size (mapO f) ∧ ∀ j, (f j).getD false = up (fun _ => goR g inn body) k (fun j => decide (j = hd)) j) body.length ()
      rfl (by omega) rfl ⟨hle9, mi9, _, m9, fun j => by by_cases e : j = hd <;> simp [e, up]⟩ (fun _ _ => rfl) (fun v k h1 hk m => by simp [rb.len]) ?_ ?_
    · rintro _ i h10 hi ⟨hle10, mi10, f10, m10, hf10⟩ K2 hK2
      simp
      generalize hs0 : up (fun _ => goR g inn body) i (fun j => decide (j = hd)) = s0 at hf10
      refine lwp_for [4, 5, 6, 8, 9, 10, 11, 14, 15, 16] (fun (_ : Unit) k => [.bool false, .bool true, vg, .int .i64 hd, vb, va, .map (some h5.size), .map (some h7.size), .int .i64 i, .int .i64 k])
        (fun _ k h => (vw h5).le (vw h) ∧ MapIs (.int .i64) h h5.size (mapB inn) ∧ ∃ f, MapIs (.int .i64) h h7.size (mapO f) ∧ ∀ j, (f j).getD false = up (goK g inn body) k s0 j) body.length ()
        rfl (by omega) rfl ⟨hle10, mi10, _, m10, hf10⟩ (fun _ _ => rfl) (fun v k h1 hk m => by simp [rb.len]) ?_ ?_
      · rintro _ k h11 hk ⟨hle11, mi11, f11, m11, hf11⟩ K3 hK3
        simp
        generalize hs1 : up (goK g inn body) k s0 = s1 at hf11
        have hr := hbr k hk
        refine lwp_for [4, 5, 6, 8, 9, 10, 11, 14, 15, 16, 17] (fun (_ : Unit) x => [.bool false, .bool true, vg, .int .i64 hd, vb, va, .map (some h5.size), .map (some h7.size), .int .i64 i, .int .i64 k, .int .i64 x])
          (fun _ x h => (vw h5).le (vw h) ∧ MapIs (.int .i64) h h5.size (mapB inn) ∧ ∃ f, MapIs (.int .i64) h h7.size (mapO f) ∧ ∀ j, (f j).getD false = up (goX g inn (nth body k)) x s1 j) g.length ()
          rfl (by omega) rfl ⟨hle11, mi11, _, m11, hf11⟩ (fun _ _ => rfl) (fun v k h1 hk m => by simp [hg.len]) ?_ ?_
        · rintro _ x h12 hx ⟨hle12, mi12, f12, m12, hf12⟩ K4 hK4
          have hg12 := hg.mono hle12
          have rb12 := rb.mono hle12
          refine lwp_hide fun z hz => ?_
          simp (disch := omega) [rb12.idx1 rfl, rb12.int (View.le_refl _)]
          refine call_to (by kernel_rfl) (edge_ok hg12) ?_
          rintro _ _ ⟨rfl, rfl⟩
          rw [hz]; clear hz z
          refine drawn_at _ (View.le_refl _) ?_
          refine reg_hide fun z hz => ?_
          simp (disch := omega) [rb12.idx1 rfl, rb12.int (View.le_refl _)]
          refine do_lookup u39 u3 (z := .bool false) (by kernel_rfl) (by simp <;> rfl) (by simp <;> rfl) isKey_i m12 ?_
          simp only [mapO_int, getD_boolO, hf12]
          refine ⟨View.le_refl _, ?_⟩
          rw [hz]; clear hz z
          have hT : ∀ j, up (goX g inn (nth body k)) (x + 1) s1 j = if j = nth body k then up (goX g inn (nth body k)) x s1 (nth body k) || (edgeS g (nth body k) x && inn x && up (goX g inn (nth body k)) x s1 x) else up (goX g inn (nth body k)) x s1 j := fun j => rfl
          obtain ⟨u1, u2⟩ := mapO_put (f := f12) (g := fun j => if j = nth body k then some (up (goX g inn (nth body k)) (x + 1) s1 (nth body k)) else f12 j) (j := nth body k) (v := up (goX g inn (nth body k)) (x + 1) s1 (nth body k)) (fun i => rfl)
          have hN := hT (nth body k)
          rw [if_pos rfl] at hN
          have hF : ∀ j, ((fun j => if j = nth body k then some (up (goX g inn (nth body k)) (x + 1) s1 (nth body k)) else f12 j) j).getD false = up (goX g inn (nth body k)) (x + 1) s1 j := fun j => by
            show (if j = nth body k then some (up (goX g inn (nth body k)) (x + 1) s1 (nth body k)) else f12 j).getD false = _
            rw [hT j]
            split
            · exact hN
            · rename_i e; rw [hf12]
          generalize up (goX g inn (nth body k)) (x + 1) s1 = T' at hT u1 u2 hN hF hK4
          generalize up (goX g inn (nth body k)) x s1 = T at hf12 hT hN
          obtain ⟨w, hw⟩ : ∃ w, w = T' (nth body k) := ⟨_, rfl⟩
          simp only [← hw] at u1 u2 hF hN
          cases hb1 : T (nth body k) with
          | true =>
            rw [hb1, Bool.true_or] at hN
            subst hN
            refine reg_hide fun z hz => ?_
            simp (disch := omega)
            rw [hz]; clear hz z
            refine reg_hide fun z hz => ?_
            simp (disch := omega)
            rw [hz]; clear hz z
            simp
            refine do_update (.inl rfl) u39 u3 (by simp <;> rfl) (by simp <;> rfl) (by simp <;> rfl) isKey_i m12 _ u1 u2 fun h13 hs13 ho13 m13 => ?_
            exact hK4 () _ _ rfl rfl ⟨hmB _ _ _ (by omega) hle12 ho13, mi12.same (ho13 _ (by omega)), _, m13, hF⟩
          | false =>
            rw [hb1, Bool.false_or] at hN
            refine reg_hide fun z hz => ?_
            cases he : edgeS g (nth body k) x with
            | false =>
              rw [he, Bool.false_and, Bool.false_and] at hN
              subst hN
              simp (disch := omega)
              rw [hz]; clear hz z
              refine reg_hide fun z hz => ?_
              simp (disch := omega)
              rw [hz]; clear hz z
              simp
              refine do_update (.inl rfl) u39 u3 (by simp <;> rfl) (by simp <;> rfl) (by simp <;> rfl) isKey_i m12 _ u1 u2 fun h13 hs13 ho13 m13 => ?_
              exact hK4 () _ _ rfl rfl ⟨hmB _ _ _ (by omega) hle12 ho13, mi12.same (ho13 _ (by omega)), _, m13, hF⟩
            | true =>
              rw [he, Bool.true_and] at hN
              simp (disch := omega)
              refine do_lookup u39 u3 (z := .bool false) (by kernel_rfl) (by simp <;> rfl) (by simp <;> rfl) isKey_i mi12 ?_
              rw [hz]; clear hz z
              simp only [mapB_int, getD_bool]
              refine ⟨View.le_refl _, ?_⟩
              refine reg_hide fun z hz => ?_
              cases hi : inn x with
              | false =>
                rw [hi, Bool.false_and] at hN
                subst hN
                simp (disch := omega)
                rw [hz]; clear hz z
                simp
                refine do_update (.inl rfl) u39 u3 (by simp <;> rfl) (by simp <;> rfl) (by simp <;> rfl) isKey_i m12 _ u1 u2 fun h13 hs13 ho13 m13 => ?_
                exact hK4 () _ _ rfl rfl ⟨hmB _ _ _ (by omega) hle12 ho13, mi12.same (ho13 _ (by omega)), _, m13, hF⟩
              | true =>
                rw [hi, Bool.true_and] at hN
                simp (disch := omega)
                refine do_lookup u39 u3 (z := .bool false) (by kernel_rfl) (by simp <;> rfl) (by simp <;> rfl) isKey_i m12 ?_
                rw [hz]; clear hz z
                simp only [mapO_int, getD_boolO, hf12]
                refine ⟨View.le_refl _, ?_⟩
                rw [← hN]
                simp
                refine do_update (.inl rfl) u39 u3 (by simp <;> rfl) (by simp <;> rfl) (by simp <;> rfl) isKey_i m12 _ u1 u2 fun h13 hs13 ho13 m13 => ?_
                exact hK4 () _ _ rfl rfl ⟨hmB _ _ _ (by omega) hle12 ho13, mi12.same (ho13 _ (by omega)), _, m13, hF⟩
        · rintro _ h12 ⟨hle12, mi12, f12, m12, hf12⟩
          simp
          exact hK3 () _ _ rfl rfl ⟨hle12, mi12, f12, m12, fun j => by rw [hf12, ← hs1]; rfl⟩
      · rintro _ h11 ⟨hle11, mi11, f11, m11, hf11⟩
        simp
        exact hK2 () _ _ rfl rfl ⟨hle11, mi11, f11, m11, fun j => by rw [hf11, ← hs0]; rfl⟩
    · rintro _ h10 ⟨hle10, mi10, f10, m10, hf10⟩
      have hf10' : ∀ k, k < body.length → (f10 (nth body k)).getD false = true := fun k hk => by rw [hf10]; exact hfix k hk
      have hg10 := hg.mono hle10
      have rb10 := rb.mono hle10
      have ra10 := ra.mono hle10
      rw [hz]; clear hz z
      refine lwp_hide fun z hz => ?_
      simp
      refine lwp_for [4, 5, 6, 8, 9, 10, 11, 14, 19] (fun (_ : Unit) k => [.bool false, .bool true, vg, .int .i64 hd, vb, va, .map (some h5.size), .map (some h7.size), .int .i64 k])
        (fun _ k h => h = h10) g.length () rfl (by omega) rfl rfl (fun _ _ => rfl) (fun v k h1 hk m => by simp [hg.len]) ?_ ?_
      · rintro _ a h11 ha rfl K2 hK2
        simp
        refine lwp_for [4, 5, 6, 8, 9, 10, 11, 14, 19, 20] (fun (_ : Unit) k => [.bool false, .bool true, vg, .int .i64 hd, vb, va, .map (some h5.size), .map (some h7.size), .int .i64 a, .int .i64 k])
          (fun _ k h => h = h11) body.length () rfl (by omega) rfl rfl (fun _ _ => rfl) (fun v k h1 hk m => by simp [rb.len]) ?_ ?_
        · rintro _ k h12 hk rfl K3 hK3
          have hr := hbr k hk
          refine lwp_hide fun z hz => ?_
          simp (disch := omega) [rb10.idx1 rfl, rb10.int (View.le_refl _)]
          refine call_to (by kernel_rfl) (edge_ok hg10) ?_
          rintro _ _ ⟨rfl, rfl⟩
          rw [hz]; clear hz z
          refine lwp_hide fun z hz => ?_
          refine lwp_hideR fun z2 hz2 => ?_
          simp (disch := omega) [ra10.idx1 rfl, ra10.bool (View.le_refl _)]
          have hfk := hf10' k hk
          have hbk : ∀ (A : Bool), edgeS g a (nth body k) = true → nth (withoutS g (-1)) a = true → inn a = false → nth body k = hd := fun A h1 h2 h3 => by
            obtain ⟨q0, q1, q2⟩ := (hbm _).1 (nth_mem hk)
            refine Classical.byContradiction fun hne => ?_
            have : inn (a : Int) = true := (hin' a).2 ((hbm a).2 ⟨by omega, without_spec.1 h2, .step q2 hne h1⟩)
            rw [h3] at this; cases this
          cases he : edgeS g a (nth body k) && nth (withoutS g (-1)) a with
          | false =>
            simp
            rw [hz2]; clear hz2 z2
            refine reg_hide fun z2 hz2 => ?_
            simp (disch := omega) [rb10.idx1 rfl, rb10.int (View.le_refl _)]
            refine do_lookup u39 u3 (z := .bool false) (by kernel_rfl) (by simp <;> rfl) (by simp <;> rfl) isKey_i m10 ?_
            rw [hz2]; clear hz2 z2
            simp only [mapO_int, getD_boolO, hfk]
            simp
            rw [hz]; clear hz z
            simp
            exact hK3 () _ _ rfl rfl rfl
          | true =>
            rw [Bool.and_eq_true] at he
            simp
            refine do_lookup u39 u3 (z := .bool false) (by kernel_rfl) (by simp <;> rfl) (by simp <;> rfl) isKey_i mi10 ?_
            rw [hz2]; clear hz2 z2
            simp only [mapB_int, getD_bool]
            refine reg_hide fun z2 hz2 => ?_
            have hq : (!inn a && !decide (nth body k = hd)) = false := by
              cases hi : inn a with
              | true => rfl
              | false => simp [hbk true he.1 he.2 hi]
            simp (disch := omega) [rb10.idx1 rfl, rb10.int (View.le_refl _)]
            rw [hq]
            simp
            refine do_lookup u39 u3 (z := .bool false) (by kernel_rfl) (by simp <;> rfl) (by simp <;> rfl) isKey_i m10 ?_
            rw [hz2]; clear hz2 z2
            simp only [mapO_int, getD_boolO, hfk]
            simp
            rw [hz]; clear hz z
            simp
            exact hK3 () _ _ rfl rfl rfl
        · rintro _ h12 rfl
          simp
          exact hK2 () _ _ rfl rfl rfl
      · rintro _ h11 rfl
        rw [hz]; clear hz z
        simp
        refine do_lookup u39 u3 (z := .bool false) (by kernel_rfl) (by simp <;> rfl) (by simp <;> rfl) isKey_i mi10 ?_
        simp [(hin' hd).2 ((hbm hd).2 ⟨hd0, hRh, .hd⟩)]
        exact hK _ _ ⟨rfl, View.le_trans hle hle10⟩
end Go.Proofs.Ytaebcebflfgdiaa

/- Plain laws of graphs: what is reducible, by sets; a block put on an edge. -/
namespace Go.Proofs.Ytaebcebflfgdiaa
open Go Go.Lft Chk
set_option linter.unusedSimpArgs false
set_option linter.unusedVariables false

/-- Those of whom each has one ahead, by an edge that does not go back. -/
def Cyc (g : Gr) (S : Nat → Prop) : Prop := ∀ v, S v → Rg g v ∧ ∃ u, S u ∧ edgeS g u v = true ∧ domC g v u = false

theorem edge_lt {g : Gr} {x y : Nat} (h : edgeS g x y = true) : x < g.length ∧ y < g.length := by
  have := (edgeS_iff.1 h).1; omega

theorem reducible_iff {g : Gr} (hg : 0 < g.length) : reducibleS g = true ↔ ∀ S, Cyc g S → ∀ v, ¬ S v := by
  have hwl : (withoutS g (-1)).length = g.length := withoutS_len
  rw [reducibleS, decide_eq_true_eq]
  constructor
  · intro h S hS v hv
    have hkeep : ∀ v, S v → nth (leftS g) v = true := by
      refine up_inv (fun x : List Bool => ∀ v, S v → nth x v = true) (fun _ x hx => ?_) _ _ fun v hv => without_spec.2 (hS v hv).1
      refine up_inv (fun x : List Bool => ∀ v, S v → nth x v = true) (fun b x hx v hv => ?_) _ _ hx
      unfold redBlock
      split
      · exact hx v hv
      · rename_i hany
        have hxv := hx v hv
        have hvl : v < x.length := by
          rcases Nat.lt_or_ge v x.length with h | h
          · exact h
          · rw [nth_ge h] at hxv; cases hxv
        rw [nth_set hvl]
        split
        · rename_i e
          exfalso
          subst e
          obtain ⟨_, u, h1, h2, h3⟩ := hS b hv
          exact hany (any_iff.2 ⟨u, (edge_lt h2).1, by simp [redP, h2, hx u h1, h3]⟩)
        · exact hxv
    have h1 := hkeep v hv
    rw [h v (hS v hv).1.lt] at h1
    cases h1
  · intro h b hb
    rw [Bool.eq_false_iff]
    intro hbt
    refine h (fun v => nth (leftS g) v = true) (fun v hv => ?_) b hbt
    have hfix := up_fixD (F := redRound g) (fun x => redRound_le) g.length (withoutS g (-1)) (by omega)
    have hle := up_leD (f := fun _ => redRound g) (fun _ x => redRound_le) (withoutS g (-1)) 0 g.length (Nat.zero_le _)
    change redRound g (leftS g) = leftS g at hfix
    change Le (leftS g) (withoutS g (-1)) at hle
    have hR : Rg g v := without_spec.1 (hle.le v hv)
    refine ⟨hR, ?_⟩
    have h1 := up_idD (fun k x => redBlock_le) hfix v hR.lt
    rw [redBlock] at h1
    split at h1
    · rename_i hany
      obtain ⟨a, ha, h2⟩ := any_iff.1 hany
      simp only [redP, Bool.and_eq_true, Bool.not_eq_true'] at h2
      exact ⟨a, h2.1.2, h2.1.1, h2.2⟩
    · have := congrArg (fun l => nth l v) h1
      have hll : (leftS g).length = g.length := leftS_len
      rw [nth_set (by rw [hll]; exact hR.lt), if_pos rfl] at this
      have hv' : nth (leftS g) v = true := hv
      rw [← this] at hv'; cases hv'

/-- A block put on an edge. -/
structure Put (g h : Gr) (n a b : Nat) : Prop where
  lg : g.length = n
  lh : h.length = n + 1
  ab : edgeS g a b = true
  ed : ∀ x y : Nat, edgeS h x y = true ↔ (x < n ∧ y < n ∧ edgeS g x y = true ∧ ¬ (x = a ∧ y = b)) ∨ (x = a ∧ y = n) ∨ (x = n ∧ y = b)

section
variable {g h : Gr} {n a b : Nat}

theorem Put.rng (p : Put g h n a b) : a < n ∧ b < n := by
  have := edge_lt p.ab
  rw [p.lg] at this; exact this
theorem Put.to (p : Put g h n a b) {gone : Int} (hg : gone ≠ n) {y : Nat} (hy : Re g gone y) : Re h gone y := by
  induction hy with
  | root h1 h2 => exact .root (by rw [p.lh]; omega) h2
  | step h1 h2 h3 ih =>
    rename_i u v
    by_cases e : u = a ∧ v = b
    · obtain ⟨rfl, rfl⟩ := e
      have h4 : Re h gone n := .step ih ((p.ed u n).2 (.inr (.inl ⟨rfl, rfl⟩))) fun e => hg e.symm
      exact .step h4 ((p.ed n v).2 (.inr (.inr ⟨rfl, rfl⟩))) h3
    · have := edge_lt h2
      rw [p.lg] at this
      exact .step ih ((p.ed u v).2 (.inl ⟨this.1, this.2, h2, e⟩)) h3
theorem Put.fro (p : Put g h n a b) {gone : Int} {y : Nat} (hy : Re h gone y) : (y < n → Re g gone y) ∧ (y = n → Re g gone a) := by
  have hr := p.rng
  induction hy with
  | root h1 h2 => exact ⟨fun _ => .root (by rw [p.lg]; omega) h2, fun e => by omega⟩
  | step h1 h2 h3 ih =>
    rename_i u v
    rcases (p.ed u v).1 h2 with ⟨q1, q2, q3, q4⟩ | ⟨rfl, rfl⟩ | ⟨rfl, rfl⟩
    · exact ⟨fun _ => .step (ih.1 q1) q3 h3, fun e => by omega⟩
    · exact ⟨fun e => by omega, fun _ => ih.1 hr.1⟩
    · exact ⟨fun _ => .step (ih.2 rfl) p.ab h3, fun e => by omega⟩
theorem Put.re (p : Put g h n a b) {gone : Int} (hg : gone ≠ n) {y : Nat} (hy : y < n) : Re g gone y ↔ Re h gone y := ⟨p.to hg, fun k => (p.fro k).1 hy⟩
theorem Put.dom (p : Put g h n a b) {x y : Nat} (hx : x < n) (hy : y < n) : domC g x y = domC h x y := by
  rw [Bool.eq_iff_iff, domC_iff, domC_iff, p.re (by omega) hx, p.re (by omega) hy, p.re (by omega) hy]
theorem Put.step_n (p : Put g h n a b) {gone : Int} (hg : gone ≠ n) (ha : Re h gone a) : Re h gone n := .step ha ((p.ed a n).2 (.inr (.inl ⟨rfl, rfl⟩))) fun e => hg e.symm
/-- Without it one comes to where it goes from. -/
theorem Put.free (p : Put g h n a b) {y : Nat} (hy : Re h (-1) y) : Re h n y ∨ Re h n a := by
  have hr := p.rng
  induction hy with
  | root h1 h2 => exact .inl (.root h1 (by omega))
  | step h1 h2 h3 ih =>
    rename_i u v
    rcases ih with ih | ih
    · rcases (p.ed u v).1 h2 with ⟨q1, q2, q3, q4⟩ | ⟨rfl, rfl⟩ | ⟨rfl, rfl⟩
      · exact .inl (.step ih h2 (by omega))
      · exact .inr ih
      · exact absurd rfl ih.ne
    · exact .inr ih
theorem Put.ndom (p : Put g h n a b) : domC h n a = false := by
  rw [Bool.eq_false_iff, ne_eq, domC_iff]
  rintro ⟨_, h2, h3⟩
  rcases p.free h2 with h | h <;> exact h3 h
/-- Who is dominated by where the edge goes: it, or where the edge comes from. -/
theorem Put.bdom (p : Put g h n a b) : domC h b n = domC g b a := by
  have hr := p.rng
  rw [Bool.eq_iff_iff, domC_iff, domC_iff]
  have e1 := p.re (gone := -1) (by omega) hr.1
  have e2 := p.re (gone := -1) (by omega) hr.2
  have e3 := p.re (gone := b) (by omega) hr.1
  constructor
  · rintro ⟨h1, h2, h3⟩
    exact ⟨e2.2 h1, (p.fro h2).2 rfl, fun k => h3 (p.step_n (by omega) (e3.1 k))⟩
  · rintro ⟨h1, h2, h3⟩
    exact ⟨e2.1 h1, p.step_n (by omega) (e1.1 h2), fun k => h3 ((p.fro k).2 rfl)⟩

theorem Put.cyc (p : Put g h n a b) : (∃ S v, Cyc g S ∧ S v) ↔ ∃ S v, Cyc h S ∧ S v := by
  have hr := p.rng
  constructor
  · rintro ⟨S, v, hS, hv⟩
    have hlt : ∀ v, S v → v < n := fun v hv => by have := (hS v hv).1.lt; rwa [p.lg] at this
    refine ⟨fun v => S v ∨ v = n ∧ S a, v, fun v hv => ?_, .inl hv⟩
    rcases hv with hv | ⟨rfl, ha⟩
    · obtain ⟨h1, u, h2, h3, h4⟩ := hS v hv
      refine ⟨p.to (by omega) h1, ?_⟩
      by_cases e : u = a ∧ v = b
      · obtain ⟨rfl, rfl⟩ := e
        exact ⟨n, .inr ⟨rfl, h2⟩, (p.ed n v).2 (.inr (.inr ⟨rfl, rfl⟩)), by rw [p.bdom]; exact h4⟩
      · exact ⟨u, .inl h2, (p.ed u v).2 (.inl ⟨hlt u h2, hlt v hv, h3, e⟩), by rw [← p.dom (hlt v hv) (hlt u h2)]; exact h4⟩
    · exact ⟨p.step_n (by omega) (p.to (by omega) (hS a ha).1), a, .inl ha, (p.ed a v).2 (.inr (.inl ⟨rfl, rfl⟩)), p.ndom⟩
  · rintro ⟨S, v, hS, hv⟩
    have hle : ∀ v, S v → v ≤ n := fun v hv => by have := (hS v hv).1.lt; rw [p.lh] at this; omega
    have hna : S n → S a := fun hn => by
      obtain ⟨_, u, h2, h3, _⟩ := hS n hn
      rcases (p.ed u n).1 h3 with ⟨q1, q2, q3, q4⟩ | ⟨rfl, _⟩ | ⟨rfl, e⟩
      · omega
      · exact h2
      · omega
    have hne : ∃ v, S v ∧ v < n := by
      by_cases e : v = n
      · subst e; exact ⟨a, hna hv, hr.1⟩
      · exact ⟨v, hv, by have := hle v hv; omega⟩
    obtain ⟨v0, hv0, hv0n⟩ := hne
    refine ⟨fun v => S v ∧ v < n, v0, fun v hv => ?_, hv0, hv0n⟩
    obtain ⟨hv, hvn⟩ := hv
    obtain ⟨h1, u, h2, h3, h4⟩ := hS v hv
    refine ⟨(p.fro h1).1 hvn, ?_⟩
    rcases (p.ed u v).1 h3 with ⟨q1, q2, q3, q4⟩ | ⟨rfl, e⟩ | ⟨rfl, rfl⟩
    · exact ⟨u, ⟨h2, q1⟩, q3, by rw [p.dom hvn q1]; exact h4⟩
    · omega
    · exact ⟨a, ⟨hna h2, hr.1⟩, p.ab, by rw [← p.bdom]; exact h4⟩
theorem Put.reducible (p : Put g h n a b) : reducibleS g = reducibleS h := by
  have hr := p.rng
  rw [Bool.eq_iff_iff, reducible_iff (by rw [p.lg]; omega), reducible_iff (by rw [p.lh]; omega)]
  have := p.cyc
  constructor
  · intro k S hS v hv
    obtain ⟨S', v', h1, h2⟩ := this.2 ⟨S, v, hS, hv⟩
    exact k S' h1 v' h2
  · intro k S hS v hv
    obtain ⟨S', v', h1, h2⟩ := this.1 ⟨S, v, hS, hv⟩
    exact k S' h1 v' h2

theorem mem_critical {g : Gr} {e : Int × Int} (he : e ∈ criticalS g) : ∃ a : Nat, a < g.length ∧ e.1 = a ∧ edgeS g a e.2 = true ∧ 1 < (nextS g a).length ∧ 1 < (nth (predsS g) e.2.toNat).length := by
  have : ∀ e ∈ criticalS g, ∃ a : Nat, a < g.length ∧ e.1 = a ∧ edgeS g a e.2 = true ∧ 1 < (nextS g a).length ∧ 1 < (nth (predsS g) e.2.toNat).length := by
    refine up_invk (fun l : List (Int × Int) => ∀ e ∈ l, ∃ a : Nat, a < g.length ∧ e.1 = a ∧ edgeS g a e.2 = true ∧ 1 < (nextS g a).length ∧ 1 < (nth (predsS g) e.2.toNat).length) (fun k l hk hl e he => ?_) (fun e he => by cases he)
    rcases List.mem_append.1 he with he | he
    · exact hl e he
    · rw [critRow, mem_sift] at he
      obtain ⟨i, hi, h1, rfl⟩ := he
      rw [critP, Bool.and_eq_true, decide_eq_true_eq, decide_eq_true_eq] at h1
      exact ⟨k, hk, rfl, mem_nextS.1 (nth_mem hi), by omega, by have := h1.2; show 1 < (nth (predsS g) (nth (nextS g k) i).toNat).length; omega⟩
  exact this e he

theorem one_len {l : List Int} {x : Int} (hs : l.Pairwise (· < ·)) (h : ∀ y ∈ l, y = x) : l.length ≤ 1 := by
  match l, hs, h with
  | [], _, _ => simp
  | [_], _, _ => simp
  | y :: z :: l, hs, h =>
    have h1 := h y (by simp)
    have h2 := h z (by simp)
    have := (List.pairwise_cons.1 hs).1 z (by simp)
    omega

theorem Put.critical (p : Put g h n a b) {e : Int × Int} (he : e ∈ criticalS h) : e.1 ≠ n ∧ e.2 ≠ n := by
  obtain ⟨x, hx, e1, h1, h2, h3⟩ := mem_critical he
  have hr := (edgeS_iff.1 h1).1
  obtain ⟨y, hy⟩ := Int.eq_ofNat_of_zero_le hr.2.2.1
  rw [hy] at h1 h3
  refine ⟨fun e2 => ?_, fun e2 => ?_⟩
  · have hxn : x = n := by omega
    subst hxn
    have := one_len (l := nextS h x) (x := b) sift_strict fun y hy => by
      have h4 := mem_nextS.1 hy
      have hr := (edgeS_iff.1 h4).1
      obtain ⟨y', rfl⟩ := Int.eq_ofNat_of_zero_le hr.2.2.1
      rcases (p.ed x y').1 h4 with ⟨q, _⟩ | ⟨q, _⟩ | ⟨_, rfl⟩
      · omega
      · have := p.rng; omega
      · rfl
    omega
  · have hyn : y = n := by omega
    subst hyn
    rw [Int.toNat_natCast, predsS, nth_rows (by rw [p.lh]; omega)] at h3
    have := one_len (l := sift (fun i => edgeS h i y) (fun b => (b : Int)) h.length) (x := a) sift_strict fun x hx => by
      rw [mem_sift] at hx
      obtain ⟨i, hi, h4, rfl⟩ := hx
      rcases (p.ed i y).1 h4 with ⟨_, q, _⟩ | ⟨rfl, _⟩ | ⟨q, q2⟩
      · omega
      · rfl
      · have := p.rng; omega
    omega
end

/-- The graph with a block put on the edge. -/
def put1 (g : Gr) (a b : Int) (i k : Nat) : Int := if (i : Int) = a ∧ nth (nth g i) k = b then (g.length : Int) else nth (nth g i) k
def putRow (g : Gr) (a b : Int) (i : Nat) : List Int := rows (put1 g a b i) (nth g i).length
def putS (g : Gr) (a b : Int) : Gr := rows (putRow g a b) g.length ++ [[b]]

theorem mem_rows {β : Type} {x : Nat → β} {n : Nat} {y : β} : y ∈ rows x n ↔ ∃ i, i < n ∧ x i = y := by simp [rows]

theorem put_is {g : Gr} {a b : Nat} (hin : ∀ i, i < g.length → ∀ y ∈ nth g i, 0 ≤ y ∧ y < g.length) (hab : edgeS g a b = true) : Put g (putS g a b) g.length a b := by
  have hr := edge_lt hab
  have hmab : (b : Int) ∈ nth g a := by have := (edgeS_iff.1 hab).2; simpa using this
  refine ⟨rfl, by simp [putS], hab, fun x y => ?_⟩
  have hlh : (putS g a b).length = g.length + 1 := by simp [putS]
  rw [edgeS_iff, hlh]
  simp only [Int.toNat_natCast]
  rcases Nat.lt_trichotomy x g.length with hx | hx | hx
  · have hrow : nth (putS g a b) x = putRow g a b x := by
      rw [putS, nth_eq (by simp; omega), List.getElem_append_left (by simpa using hx), ← nth_eq (by simpa using hx), nth_rows hx]
    rw [hrow, putRow, mem_rows]
    have hedge : ∀ y : Nat, y < g.length → (edgeS g x y = true ↔ ∃ k, k < (nth g x).length ∧ nth (nth g x) k = y) := fun y hy => by
      rw [edgeS_iff]
      simp only [Int.toNat_natCast]
      constructor
      · rintro ⟨_, h⟩
        obtain ⟨k, hk, e⟩ := List.getElem_of_mem h
        exact ⟨k, hk, by rw [nth_eq hk]; exact e⟩
      · rintro ⟨k, hk, e⟩
        exact ⟨by omega, by rw [← e]; exact nth_mem hk⟩
    constructor
    · rintro ⟨h1, k, hk, h2⟩
      unfold put1 at h2
      split at h2
      · rename_i h3; exact .inr (.inl ⟨by omega, by omega⟩)
      · rename_i h3
        have hy := hin x hx _ (nth_mem hk)
        exact .inl ⟨hx, by omega, (hedge y (by omega)).2 ⟨k, hk, h2⟩, fun e => h3 ⟨by omega, by rw [h2, e.2]⟩⟩
    · rintro (⟨_, hy, h1, h2⟩ | ⟨rfl, rfl⟩ | ⟨e, _⟩)
      · obtain ⟨k, hk, e⟩ := (hedge y hy).1 h1
        refine ⟨by omega, k, hk, ?_⟩
        rw [put1, if_neg fun h3 => h2 ⟨by omega, by have := h3.2; omega⟩, e]
      · obtain ⟨k, hk, e⟩ := List.getElem_of_mem hmab
        refine ⟨by omega, k, hk, ?_⟩
        rw [put1, if_pos ⟨rfl, by rw [nth_eq hk]; exact e⟩]
      · omega
  · subst hx
    have hrow : nth (putS g a b) g.length = [(b : Int)] := by
      rw [putS, nth_eq (by simp), List.getElem_append_right (by simp)]; simp
    rw [hrow, List.mem_singleton]
    constructor
    · rintro ⟨h1, h2⟩; exact .inr (.inr ⟨rfl, by omega⟩)
    · rintro (⟨h1, _⟩ | ⟨h1, _⟩ | ⟨_, rfl⟩)
      · omega
      · omega
      · exact ⟨by omega, rfl⟩
  · constructor
    · rintro ⟨h1, _⟩; omega
    · rintro (⟨h1, _⟩ | ⟨h1, _⟩ | ⟨h1, _⟩) <;> omega
end Go.Proofs.Ytaebcebflfgdiaa

namespace Go.Proofs.Ytaebcebflfgdiaa
open Go Go.Lft Chk
set_option linter.unusedSimpArgs false
set_option linter.unusedVariables false

/-- A slice literal of plain values: its own. -/
theorem do_litF {α : Type} [Rep α] {P : Program} {t e n : Nat} {ty : TypeId} {bytes : Nat} {z : Value} {ps : Array (Nat × Operand)} {us : List (Nat × Value)} {vs : List Value} {ds : List α} {h : Heap} {K : Value → Heap → Prop} (ha : Rep.agg α = false) (hT : ElemT P t e 1 bytes z)
    (hp : ps.map (fun p => (p.1, asg us p.2)) = ((vs.zipIdx 0).map fun p => (p.2, p.1)).toArray) (hr : RdAll nothing vs ds) (hn : ds.length = n) (hb : n ≤ 16777216)
    (hk : ∀ u h', (vw h).le (vw h') → SlRd (fresh h h') u ds → K u h') : Lft.step P (.buildSlice t n ps) ty us h K := by
  have hl := hr.len
  obtain ⟨B, h1, h2⟩ := fill_all vs 0 ((Array.range (n * 1)).map (z.cells[· % z.cells.size]!)) (fun v hv => by
    obtain ⟨i, hi, rfl⟩ := List.getElem_of_mem hv
    exact (hr.get i hi (by omega)).cells1 ha) (by simp; omega)
  have hB : B = vs.toArray := by rw [← Array.toList_inj, h2]; simp
  refine do_lits hT (by omega) hp h1 ?_
  have hle := push_le h (.cells B e)
  have hone := Rep.one (α := α) ha
  refine hk _ _ hle ⟨some ⟨h.size, 0, none⟩, n, by rw [hn], by omega, by omega, .inr ⟨_, rfl, rfl, fun i hi => ?_⟩⟩
  rw [addr_add_none rfl, hone]
  refine ⟨[vs[i]], ⟨B, e, (0, 0), rfl, by simp [fresh, vw], ?_⟩, ?_⟩
  · rw [hB]
    have hd : vs.drop i = vs[i] :: vs.drop (i + 1) := List.drop_eq_getElem_cons (by omega)
    simp only [Nat.zero_add, Nat.mul_one, List.length_cons, List.length_nil]
    show List.take (0 + 1) (List.drop i vs) = _
    rw [hd]; rfl
  · have := (hr.get i (by omega) hi).mono (K := fresh h (h.push (.cells B e))) (fun _ _ h => by cases h)
    unfold Rd at this
    rw [if_neg (by simp [ha])] at this
    exact this

theorem bn_aidx {n sz : Nat} {a : Addr} {k : IntKind} {i : Int} (h0 : 0 ≤ i) (h1 : i < n) : Bn.ev (.aidx n sz) (.pointer (some a)) (.int k i) = some (.pointer (some (a.add (i.toNat * sz)))) := by simp [Bn.ev, vP, vI, h0, h1]

theorem up_mem {P : Int → Prop} {F : Nat → List Int → List Int} (hF : ∀ k x, (∀ y ∈ x, P y) → ∀ y ∈ F k x, P y) (n : Nat) : ∀ y ∈ up F n [], P y :=
  up_inv (fun x : List Int => ∀ y ∈ x, P y) hF n [] (fun y hy => by cases hy)
theorem made_in {s : List Int} : ∀ i, i < (madeS s).length → ∀ y ∈ nth (madeS s) i, 0 ≤ y ∧ y < (madeS s).length := by
  intro i hi y hy
  have hl : (madeS s).length = madeN s := by simp [madeS]
  rw [hl] at hi ⊢
  have hr := madeN_range (s := s)
  rw [madeS, nth_rows hi, madeRow] at hy
  refine up_mem (P := fun y => 0 ≤ y ∧ y < (madeN s : Int)) (fun k x hx y hy => ?_) 3 y hy
  unfold madeStep at hy
  have hrr := restS_range (x := nth s (3 * i + k + 1)) (n := (madeN s : Int) + 3) (by omega)
  split at hy
  · split at hy
    · rename_i h1
      rcases List.mem_append.1 hy with h | h
      · exact hx y h
      · rw [List.mem_singleton] at h; rw [h]; exact ⟨hrr.1, h1⟩
    · exact hx y hy
  · exact hx y hy

theorem sm_put {g : Gr} {a b : Int} (hs : Sm g) (hl : g.length ≤ 1000) : Sm (putS g a b) := by
  refine ⟨by simp [putS]; omega, fun i hi => ?_⟩
  rcases Nat.lt_or_ge i g.length with h | h
  · rw [putS, nth_eq (by simp; omega), List.getElem_append_left (by simpa using h), ← nth_eq (by simpa using h), nth_rows h, putRow]
    simpa using hs.2 i h
  · have : i = g.length := by simp [putS] at hi; omega
    subst this
    rw [putS, nth_eq (by simp), List.getElem_append_right (by simp)]; simp

theorem graphPut_ok {s : List Int} {vs : Value} {q1 q2 : Int} {h : Heap} (hs : SlRd (vw h) vs s) : HCalls Try.prog N.law02_GraphPut #[vs, .agg #[.int .i64 q1, .int .i64 q2]] h (fun v h' => v = .bool true ∧ (vw h).le (vw h')) := by
  refine calls_lift (args := [vs, .agg #[.int .i64 q1, .int .i64 q2]]) follows Try.func9 E.law02_GraphPut (by show 2 ≤ 168; decide) fun K hK => ?_
  dsimp only [L.law02_GraphPut]
  refine lwp_hide fun z hz => ?_
  simp
  refine do_box (v := .agg #[.int .i64 q1, .int .i64 q2]) (by simp) ?_
  have hle := push_le h (.cells (Value.agg #[.int .i64 q1, .int .i64 q2]).cells 41)
  have hq1 : cellH (vw (h.push (.cells (Value.agg #[.int .i64 q1, .int .i64 q2]).cells 41))) ⟨h.size, 0, none⟩ = some (.int .i64 q1) := cellH_blk (c := #[.int .i64 q1, .int .i64 q2]) (T := 41) (fz := (0, 0)) (by simp [vw, Value.cells]) rfl
  have hq2 : cellH (vw (h.push (.cells (Value.agg #[.int .i64 q1, .int .i64 q2]).cells 41))) ⟨h.size, 1, none⟩ = some (.int .i64 q2) := cellH_blk (c := #[.int .i64 q1, .int .i64 q2]) (T := 41) (fz := (0, 0)) (by simp [vw, Value.cells]) rfl
  generalize h.push (.cells (Value.agg #[.int .i64 q1, .int .i64 q2]).cells 41) = h0 at hle hq1 hq2
  have hs := hs.mono hle
  rw [hz]; clear hz z
  refine lwp_hide fun z hz => ?_
  simp
  refine call_to (by kernel_rfl) awake_ok ?_
  rintro _ h1 ⟨rfl, hle1⟩
  have hq1 := cellH_mono hle1 hq1
  have hq2 := cellH_mono hle1 hq2
  have hle := View.le_trans hle hle1
  rw [hz]; clear hz z
  refine lwp_hide fun z hz => ?_
  simp
  refine call_to (by kernel_rfl) (made_ok (hs.mono hle1)) ?_
  rintro vg h2 ⟨_, m2⟩
  have hq1 := cellH_mono m2.old hq1
  have hq2 := cellH_mono m2.old hq2
  have hg := m2.now
  have hsm := sm_made (s := s)
  have hle := View.le_trans hle m2.old
  have hl10 := made_len (s := s)
  have hin := made_in (s := s)
  clear m2
  generalize madeS s = g at hg hsm hl10 hin
  have hx := restS_range (x := q1) (n := g.length) (by omega)
  rw [hz]; clear hz z
  refine lwp_hide fun z hz => ?_
  have ha0 : Addr.add ⟨h.size, 0, none⟩ 0 = ⟨h.size, 0, none⟩ := rfl
  have ha1 : Addr.add ⟨h.size, 0, none⟩ 1 = ⟨h.size, 1, none⟩ := rfl
  simp (disch := omega) [hg.len, bn_aidx, ha0, hq1]
  refine call_to (by kernel_rfl) (rest_ok (by omega) (by omega)) ?_
  rintro _ h2 ⟨rfl, rfl⟩
  generalize restS q1 g.length = a at hx
  obtain ⟨a, rfl⟩ := Int.eq_ofNat_of_zero_le hx.1
  have hal : a < g.length := by omega
  obtain ⟨rv, hrv⟩ := hg.rows
  obtain ⟨ca, ra⟩ := hrv a hal
  rw [hz]; clear hz z
  refine lwp_hide fun z hz => ?_
  simp (disch := omega) [hg.idx1 rfl, ca _ (View.le_refl _), ra.len]
  refine ⟨fun _ => hK _ _ ⟨rfl, hle⟩, fun hne => ?_⟩
  have hpos : 0 < (nth g a).length := List.length_pos_iff.2 hne
  have hral := hsm.2 a hal
  have hy := restS_range (x := q2) (n := (nth g a).length) (by omega)
  rw [hz]; clear hz z
  refine lwp_hide fun z hz => ?_
  refine drawn_at (vw _) (View.le_refl _) ?_
  simp (disch := omega) [hg.idx1 rfl, ca _ (View.le_refl _), ra.len, bn_aidx, ha1, hq2]
  refine call_to (by kernel_rfl) (rest_ok (by omega) (by omega)) ?_
  rintro _ h2 ⟨rfl, rfl⟩
  generalize restS q2 (nth g a).length = y at hy
  obtain ⟨y, rfl⟩ := Int.eq_ofNat_of_zero_le hy.1
  simp (disch := omega) [ra.idx1 rfl, ra.int (View.le_refl _)]
  have hb := hin a hal _ (nth_mem (show y < (nth g a).length by omega))
  have hbm := nth_mem (show y < (nth g a).length by omega)
  generalize nth (nth g a) y = b at hb hbm
  obtain ⟨b, rfl⟩ := Int.eq_ofNat_of_zero_le hb.1
  have hab : edgeS g a b = true := edgeS_iff.2 ⟨by omega, by simpa using hbm⟩
  have P := put_is hin hab
  rw [hz]; clear hz z
  refine ⟨View.le_refl _, ?_⟩
  refine lwp_hide fun z hz => ?_
  simp (disch := omega) [hg.len]
  rw [hz]; clear hz z
  refine lwp_hide fun z hz => ?_
  simp
  rw [hz]; clear hz z
  refine lwp_hide fun z hz => ?_
  simp
  refine lwp_for [4, 5, 6, 7, 8, 9, 10, 11] (fun (p : Value × View) i => [.bool false, .bool true, vg, .int .i64 a, .int .i64 b, .int .i64 g.length, p.1, .int .i64 i]) (fun p i h3 => Mine nothing h2 h3 p.2 23 p.1 (rows (putRow g a b) i)) g.length (.slice none 0 0, nothing)
    rfl (by omega) rfl (Mine.start (fun _ _ h => by cases h)) (fun _ _ => rfl) (fun v k h1 hk m => by simp) ?_ ?_
  · rintro ⟨v, W⟩ i h3 hi m K2 hK2
    obtain ⟨ci, ri⟩ := hrv i hi
    have hil := hsm.2 i hi
    simp
    refine lwp_for [4, 5, 6, 7, 8, 9, 10, 11, 12, 13] (fun (r : Value) k => [.bool false, .bool true, vg, .int .i64 a, .int .i64 b, .int .i64 g.length, v, .int .i64 i, r, .int .i64 k]) (fun r k h4 => Mine nothing h3 h4 nothing 3 r (rows (put1 g a b i) k)) (nth g i).length (.slice none 0 0)
      rfl (by omega) rfl (Mine.start (fun _ _ h => by cases h)) (fun _ _ => rfl) (fun r k h4 hk mr => by
        have hle4 := View.le_trans m.old mr.old
        simp (disch := omega) [(hg.mono hle4).idx1 rfl, ci _ hle4, ri.len]) ?_ ?_
    · rintro r k h4 hk mr K3 hK3
      have hle4 := View.le_trans m.old mr.old
      have hg4 := hg.mono hle4
      have ri4 := ri.mono hle4
      have hy := hin i hi _ (nth_mem hk)
      refine lwp_hide fun z hz => ?_
      simp (disch := omega) [hg4.idx1 rfl, ci _ hle4, ri4.idx1 rfl, ri4.int (View.le_refl _)]
      rw [hz]; clear hz z
      have hgl : ((g.length : Nat) : Int) = (g.length : Int) := rfl
      by_cases hc : (i : Int) = a ∧ nth (nth g i) k = b
      · have hp : put1 g a b i k = g.length := if_pos hc
        have hd : (decide ((i : Int) = a) && decide (nth (nth g i) k = b)) = true := by rw [decide_eq_true hc.1, decide_eq_true hc.2]; rfl
        rw [hd]
        simp
        refine mr.push elem23 (by simp <;> rfl) (rd_i (by omega) (by omega)) (by simp; omega) (by simp; omega) (fun _ => by simp) (fun _ => by simp) fun u v' h5 m' => hK3 v' _ _ rfl rfl ?_
        rw [rows_succ, hp]; exact m'
      · have hp : put1 g a b i k = nth (nth g i) k := if_neg hc
        have hd : (decide ((i : Int) = a) && decide (nth (nth g i) k = b)) = false := by
          rw [Bool.eq_false_iff]; simpa using hc
        rw [hd]
        simp (disch := omega) [hg4.idx1 rfl, ci _ hle4, ri4.idx1 rfl, ri4.int (View.le_refl _)]
        refine mr.push elem23 (by simp <;> rfl) (rd_i (by omega) (by omega)) (by simp; omega) (by simp; omega) (fun _ => by simp) (fun _ => by simp) fun u v' h5 m' => hK3 v' _ _ rfl rfl ?_
        rw [rows_succ, hp]; exact m'
    · rintro r h4 mr
      have m2 := m.ext mr.old
      simp
      refine m2.push elem22 (by simp <;> rfl) (rd_list.2 (mr.fresh.mono (fresh_grow _ _ _))) (by simp; omega) (by simp; omega) (fun _ => by simp) (fun _ => by simp) fun u v' h5 m' => hK2 (v', _) _ _ rfl rfl (by rw [rows_succ]; exact m')
  · rintro ⟨v, W⟩ h3 m
    have hg3 := hg.mono m.old
    rw [hz]; clear hz z
    refine lwp_hide fun z hz => ?_
    simp
    refine do_litF (α := Int) (vs := [.int .i64 b]) (ds := [(b : Int)]) rfl elem23 (by simp) ⟨rd_i (by omega) (by omega), trivial⟩ rfl (by omega) fun v1 h4 hle4 r1 => ?_
    have m4 := m.ext hle4
    refine m4.push elem22 (by simp <;> rfl) (rd_list.2 (r1.mono (fresh_grow _ _ _))) (by simp; omega) (by simp; omega) (fun _ => by simp) (fun _ => by simp) fun u v' h5 m5 => ?_
    have hle5 := m5.old
    have rh := m5.now
    clear m4 m5 r1
    change SlRd (vw h5) v' (putS g a b) at rh
    have hsh := sm_put (a := a) (b := b) hsm (by omega)
    have hlh : (putS g a b).length = g.length + 1 := P.lh
    generalize putS g a b = k at P rh hsh hlh
    obtain ⟨f1, C1, l1, hl1, I1⟩ := idom_spec (g := g) (by omega)
    obtain ⟨f2, C2, l2, hl2, I2⟩ := idom_spec (g := k) (by omega)
    have hll1 := I1.good.len
    have hll2 := I2.good.len
    have hg := hg.mono hle5
    have hle := View.le_trans hle hle5
    rw [hz]; clear hz z
    refine lwp_hide fun z hz => ?_
    simp
    refine call_to (by kernel_rfl) (idom_ok hg hsm hl1) ?_
    rintro v1 h6 ⟨_, m6⟩
    have hle6 := m6.old
    have r1 := m6.now
    clear m6
    have hg := hg.mono hle6
    have rh := rh.mono hle6
    have hle := View.le_trans hle hle6
    rw [hz]; clear hz z
    refine lwp_hide fun z hz => ?_
    simp
    refine call_to (by kernel_rfl) (idom_ok rh hsh hl2) ?_
    rintro v2 h7 ⟨_, m7⟩
    have hle7 := m7.old
    have r2 := m7.now
    clear m7
    have hg := hg.mono hle7
    have rh := rh.mono hle7
    have r1 := r1.mono hle7
    have hle := View.le_trans hle hle7
    rw [hz]; clear hz z
    refine lwp_hide fun z hz => ?_
    have hdom : ∀ x y : Nat, x < g.length → y < g.length → dominatesS l1 x y = dominatesS l2 x y := fun x y hx hy => by
      rw [dominatesS_is I1 C1 hx hy, dominatesS_is I2 C2 (by omega) (by omega), P.dom hx hy]
      have : nth (withoutS g (-1)) y = nth (withoutS k (-1)) y := by
        rw [Bool.eq_iff_iff, without_spec, without_spec]; exact P.re (by omega) hy
      rw [this]
    simp (disch := omega) [r1.len, r2.len, hll1, hll2, hlh]
    rw [hz]; clear hz z
    refine lwp_hide fun z hz => ?_
    simp
    refine lwp_for [4, 5, 6, 9, 10, 14, 15, 16] (fun (_ : Unit) x => [.bool false, .bool true, vg, .int .i64 g.length, v', v1, v2, .int .i64 x]) (fun _ x h8 => (vw h7).le (vw h8)) g.length ()
      rfl (by omega) rfl (View.le_refl _) (fun _ _ => rfl) (fun v k h1 hk m => by simp) ?_ ?_
    · rintro _ x h8 hx hle8 K2 hK2
      simp
      refine lwp_for [4, 5, 6, 9, 10, 14, 15, 16, 17] (fun (_ : Unit) y => [.bool false, .bool true, vg, .int .i64 g.length, v', v1, v2, .int .i64 x, .int .i64 y]) (fun _ y h9 => (vw h7).le (vw h9)) g.length ()
        rfl (by omega) rfl hle8 (fun _ _ => rfl) (fun v k h1 hk m => by simp) ?_ ?_
      · rintro _ y h9 hy hle9 K3 hK3
        simp
        refine call_to (by kernel_rfl) (dominates_ok (r1.mono hle9)) ?_
        rintro _ h10 ⟨rfl, hle10⟩
        refine call_to (by kernel_rfl) (dominates_ok (r2.mono (View.le_trans hle9 hle10))) ?_
        rintro _ h11 ⟨rfl, hle11⟩
        rw [hdom x y hx hy]
        simp
        exact hK3 () _ _ rfl rfl (View.le_trans hle9 (View.le_trans hle10 hle11))
      · rintro _ h9 hle9
        simp
        exact hK2 () _ _ rfl rfl hle9
    · rintro _ h8 hle8
      have hg := hg.mono hle8
      have rh := rh.mono hle8
      have hle := View.le_trans hle hle8
      rw [hz]; clear hz z
      refine lwp_hide fun z hz => ?_
      simp
      refine call_to (by kernel_rfl) (critical_ok rh hsh) ?_
      rintro vc h9 ⟨hle9, rc⟩
      have hg := hg.mono hle9
      have rh := rh.mono hle9
      have rc := rc.mono (fresh_le _ _)
      have hle := View.le_trans hle hle9
      rw [critical_eq] at rc
      have hcr : ∀ i, i < (criticalS k).length → (nth (criticalS k) i).1 ≠ g.length ∧ (nth (criticalS k) i).2 ≠ g.length := fun i hi => P.critical (nth_mem hi)
      have hcb := rc.bound
      generalize criticalS k = cr at rc hcr hcb
      rw [hz]; clear hz z
      refine lwp_hide fun z hz => ?_
      simp
      refine lwp_for [4, 5, 6, 9, 10, 18, 19] (fun (_ : Unit) x => [.bool false, .bool true, vg, .int .i64 g.length, v', vc, .int .i64 x]) (fun _ x h10 => h10 = h9) cr.length ()
        rfl (by omega) rfl rfl (fun _ _ => rfl) (fun v k h1 hk m => by simp [rc.len]) ?_ ?_
      · rintro _ i h10 hi rfl K2 hK2
        obtain ⟨n1, n2⟩ := hcr i hi
        have p := rc.pair_at (View.le_refl _) hi
        simp (disch := omega) [rc.idxn (N := 2) rfl, bn_aidx, p.1, p.2, n1, n2]
        exact hK2 () _ _ rfl rfl rfl
      · rintro _ h10 rfl
        rw [hz]; clear hz z
        refine lwp_hide fun z hz => ?_
        simp
        refine call_to (by kernel_rfl) (reducible_ok hg hsm hl1 hll1) ?_
        rintro _ h11 ⟨rfl, hle11⟩
        have rh := rh.mono hle11
        have hle := View.le_trans hle hle11
        refine call_to (by kernel_rfl) (reducible_ok rh hsh hl2 hll2) ?_
        rintro _ h12 ⟨rfl, hle12⟩
        have hle := View.le_trans hle hle12
        rw [reducible_eq I1 C1 (by omega), reducible_eq I2 C2 (by omega), P.reducible]
        rw [hz]
        simp
        exact hK _ _ ⟨rfl, hle⟩
end Go.Proofs.Ytaebcebflfgdiaa

/- Plain laws of graphs: without circles; with one edge back. -/
namespace Go.Proofs.Ytaebcebflfgdiaa
open Go Go.Lft Chk
set_option linter.unusedSimpArgs false
set_option linter.unusedVariables false

section
variable {g : Gr} {n : Nat}

theorem tree_re (hup : ∀ u v : Nat, edgeS g u v = true → u < v ∨ v = 0) {h x : Nat} (hh : h ≠ 0) (hR : Re g (-1) x) : x < h → Re g h x := by
  induction hR with
  | root h1 h2 => intro h; exact .root h1 (by omega)
  | step h1 h2 h3 ih =>
    rename_i u v
    intro hv
    rcases hup u v h2 with h4 | h4
    · exact .step (ih (by omega)) h2 (by omega)
    · subst h4; exact .root (by have := edge_lt h2; omega) (by omega)
theorem tree_ndom (hup : ∀ u v : Nat, edgeS g u v = true → u < v ∨ v = 0) {h x : Nat} (hh : h ≠ 0) (hx : x < h) : domC g h x = false := by
  rw [Bool.eq_false_iff, ne_eq, domC_iff]
  rintro ⟨_, h2, h3⟩
  exact h3 (tree_re hup hh h2 hx)
/-- All that are of a set without one ahead but by edges up. -/
theorem tree_none {S : Nat → Prop} (h : ∀ v, S v → ∃ u, S u ∧ u < v) : ∀ v, ¬ S v := by
  intro v
  induction v using Nat.strongRecOn with
  | ind v ih =>
    intro hv
    obtain ⟨u, h1, h2⟩ := h v hv
    exact ih u h2 h1

theorem tree_told (hg : 0 < g.length) (hup : ∀ u v : Nat, edgeS g u v = true → u < v) : reducibleS g = true ∧ headersS g = [] := by
  constructor
  · rw [reducible_iff hg]
    intro S hS
    exact tree_none fun v hv => by
      obtain ⟨_, u, h1, h2, _⟩ := hS v hv
      exact ⟨u, h1, hup u v h2⟩
  · refine List.eq_nil_iff_forall_not_mem.2 fun x hx => ?_
    rw [headersS, mem_sift] at hx
    obtain ⟨i, hi, h1, rfl⟩ := hx
    obtain ⟨k, hk, h2⟩ := any_iff.1 h1
    rw [headP, Bool.and_eq_true] at h2
    have := hup k i h2.1
    rw [tree_ndom (fun u v h => .inl (hup u v h)) (by omega) this] at h2
    exact absurd h2.2 (by simp)

theorem ring_told (hl : g.length = n + 1) (hup : ∀ u v : Nat, edgeS g u v = true → u < v ∨ v = 0) (hch : ∀ u : Nat, u < n → edgeS g u ((u + 1 : Nat) : Int) = true) (hback : edgeS g n 0 = true) :
    reducibleS g = true ∧ headersS g = [0] ∧ (bodyS g 0).length = n + 1 := by
  have hg : 0 < g.length := by omega
  have hR : ∀ x, x ≤ n → Rg g x := by
    intro x
    induction x with
    | zero => intro _; exact .root hg (by decide)
    | succ x ih => intro hx; exact .step (ih (by omega)) (hch x (by omega)) (by omega)
  have h0 : ∀ x, ¬ Re g ((0 : Nat) : Int) x := by
    intro x hx
    induction hx with
    | root _ h => exact h rfl
    | step _ _ _ ih => exact ih
  have hd0 : ∀ x, x ≤ n → domC g 0 x = true := fun x hx => domC_iff.2 ⟨hR 0 (by omega), hR x hx, h0 x⟩
  refine ⟨?_, ?_, ?_⟩
  · rw [reducible_iff hg]
    intro S hS
    exact tree_none fun v hv => by
      obtain ⟨_, u, h1, h2, h3⟩ := hS v hv
      rcases hup u v h2 with h4 | h4
      · exact ⟨u, h1, h4⟩
      · subst h4
        have := edge_lt h2
        rw [hd0 u (by omega)] at h3; cases h3
  · refine strict_unique sift_strict (by simp) fun x => ?_
    rw [headersS, mem_sift, List.mem_singleton]
    constructor
    · rintro ⟨i, hi, h1, rfl⟩
      obtain ⟨k, hk, h2⟩ := any_iff.1 h1
      rw [headP, Bool.and_eq_true] at h2
      rcases hup k i h2.1 with h4 | h4
      · by_cases e : i = 0
        · omega
        · rw [tree_ndom hup e h4] at h2
          exact absurd h2.2 (by simp)
      · omega
    · rintro rfl
      exact ⟨0, hg, any_iff.2 ⟨n, by omega, by rw [headP, Bool.and_eq_true]; exact ⟨hback, hd0 n (Nat.le_refl _)⟩⟩, rfl⟩
  · have hsrc : Src g 0 (n : Int) := ⟨hback, by simpa using hd0 n (Nat.le_refl _)⟩
    have hB : ∀ k x : Nat, x + k = n → Bk g 0 (x : Int) := by
      intro k
      induction k with
      | zero => intro x hx; obtain rfl : x = n := by omega
                exact .src hsrc
      | succ k ih => intro x hx; exact .step (ih (x + 1) (by omega)) (by omega) (hch x (by omega))
    have hany : anyUp (backP g 0) g.length = true := any_iff.2 ⟨n, by omega, by rw [backP, Bool.and_eq_true]; exact ⟨hback, hd0 n (Nat.le_refl _)⟩⟩
    rw [bodyS, if_pos hany, sift_eq, List.length_map, List.filter_eq_self.2 fun x hx => ?_, List.length_range, hl]
    have hx := List.mem_range.1 hx
    exact (in_spec ⟨by omega, by omega⟩ ⟨_, hsrc⟩).2 ⟨hR x (by omega), hB (n - x) x (by omega)⟩
end

def treeRow (s : List Int) (n i : Nat) : List Int :=
  (if i + 1 < n then [((i + 1 : Nat) : Int)] else []) ++ if i < s.length ∧ (i : Int) + 1 + restS (nth s i) n < n then [(i : Int) + 1 + restS (nth s i) n] else []
def treeS (s : List Int) (n : Nat) : Gr := rows (treeRow s n) n

theorem mem_treeRow {s : List Int} {n i : Nat} {y : Int} (hn : 0 < n) (h : y ∈ treeRow s n i) : (i : Int) < y ∧ y < n := by
  have hr := restS_range (x := nth s i) (n := n) (by omega)
  unfold treeRow at h
  rcases List.mem_append.1 h with h | h
  · split at h
    · rw [List.mem_singleton] at h; omega
    · cases h
  · split at h
    · rename_i h2; rw [List.mem_singleton] at h; omega
    · cases h
theorem treeRow_last {s : List Int} {n : Nat} (hn : 0 < n) : treeRow s n (n - 1) = [] := by
  refine List.eq_nil_iff_forall_not_mem.2 fun x hx => ?_
  have := mem_treeRow hn hx
  omega
theorem treeRow_len {s : List Int} {n i : Nat} : (treeRow s n i).length ≤ 2 := by
  unfold treeRow
  rw [List.length_append]
  have : (if i + 1 < n then [((i + 1 : Nat) : Int)] else []).length ≤ 1 := by split <;> simp
  have : (if i < s.length ∧ (i : Int) + 1 + restS (nth s i) n < n then [(i : Int) + 1 + restS (nth s i) n] else []).length ≤ 1 := by split <;> simp
  omega
theorem treeS_len {s : List Int} {n : Nat} : (treeS s n).length = n := by simp [treeS]
theorem tree_up {s : List Int} {n u v : Nat} (h : edgeS (treeS s n) u v = true) : u < v := by
  rw [edgeS_iff, treeS_len] at h
  rw [Int.toNat_natCast, treeS, nth_rows (by omega)] at h
  have := mem_treeRow (by omega) h.2
  omega
theorem tree_chain {s : List Int} {n u : Nat} (h : u + 1 < n) : edgeS (treeS s n) u ((u + 1 : Nat) : Int) = true := by
  rw [edgeS_iff, treeS_len, Int.toNat_natCast, treeS, nth_rows (by omega), treeRow, if_pos h]
  exact ⟨by omega, by simp⟩
theorem sm_tree {s : List Int} {n : Nat} (h : n ≤ 1000) : Sm (treeS s n) := by
  refine ⟨by rw [treeS_len]; omega, fun i hi => ?_⟩
  rw [treeS_len] at hi
  rw [treeS, nth_rows hi]
  have := treeRow_len (s := s) (n := n) (i := i)
  omega
theorem sm_ring {s : List Int} {n : Nat} (h : n ≤ 1000) : Sm ((treeS s n).set (n - 1) [0]) := by
  have hs := sm_tree (s := s) h
  refine ⟨by simpa using hs.1, fun i hi => ?_⟩
  rw [List.length_set] at hi
  rw [nth_set hi]
  split
  · simp
  · exact hs.2 i hi
theorem ring_is {s : List Int} {n : Nat} : reducibleS ((treeS s (n + 1)).set n [0]) = true ∧ headersS ((treeS s (n + 1)).set n [0]) = [0] ∧ (bodyS ((treeS s (n + 1)).set n [0]) 0).length = n + 1 := by
  have hl : ((treeS s (n + 1)).set n [0]).length = n + 1 := by simp [treeS]
  have he : ∀ u v : Nat, u ≠ n → (edgeS ((treeS s (n + 1)).set n [0]) u v = edgeS (treeS s (n + 1)) u v) := fun u v hu => by
    rw [Bool.eq_iff_iff, edgeS_iff, edgeS_iff, List.length_set]
    constructor
    · rintro ⟨h1, h2⟩
      rw [treeS_len] at h1
      rw [Int.toNat_natCast, nth_set (by rw [treeS_len]; omega), if_neg (by omega)] at h2
      exact ⟨by rw [treeS_len]; exact h1, by simpa using h2⟩
    · rintro ⟨h1, h2⟩
      rw [treeS_len] at h1
      rw [Int.toNat_natCast, nth_set (by rw [treeS_len]; omega), if_neg (by omega)]
      exact ⟨by rw [treeS_len]; exact h1, by simpa using h2⟩
  have hn : nth ((treeS s (n + 1)).set n [0]) n = [0] := by rw [nth_set (by rw [treeS_len]; omega), if_pos rfl]
  refine ring_told hl (fun u v h => ?_) (fun u hu => ?_) ?_
  · by_cases e : u = n
    · subst e
      rw [edgeS_iff, Int.toNat_natCast, hn, List.mem_singleton] at h
      exact .inr (by omega)
    · rw [he u v e] at h
      exact .inl (tree_up h)
  · rw [he u (u + 1) (by omega)]
    exact tree_chain (by omega)
  · rw [edgeS_iff, hl, Int.toNat_natCast, hn]
    exact ⟨by omega, by simp⟩
end Go.Proofs.Ytaebcebflfgdiaa

