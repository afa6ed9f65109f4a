/- A part of the proof: Wf, Wg, Wh, Wi, Wj, Shelf, Wk, Wl, Wm, Wn, Wo, Wp, Wq, Wr, Ws. -/
import Derived.Test.YtaebcebflfgdiaaZOf3
import Derived.Shelf.Small.Bits
import Derived.Shelf.Strconv.Itoa0
import Derived.Shelf.Sort.Plain
import Derived.Shelf.Slices.Reverse
import Derived.Ground.Names2Prog
import Derived.Shelf.Slices.CompactI
import Derived.Shelf.Slices.SearchI
import Derived.Shelf.Slices.Cells
import Derived.Shelf.Slices.In.SortNone
import Derived.Test.YtaebcebflfgdiaaProg
namespace Go.Proofs.Ytaebcebflfgdiaa
open Go Go.Lft
set_option linter.unusedSimpArgs false
set_option linter.unusedVariables false

theorem tableS_len {g : Gr} : (tableS g).length = g.length := by simp [tableS]
theorem tableS_row {g : Gr} {a : Nat} (h : a < g.length) : nth (tableS g) a = rows (fun b => domC g a b) g.length := by rw [tableS, nth_rows h]
theorem tableS_row_len {g : Gr} {a : Nat} (h : a < g.length) : (nth (tableS g) a).length = g.length := by rw [tableS_row h]; simp
theorem tableS_nth {g : Gr} {a b : Nat} (h : a < g.length) (h2 : b < g.length) : nth (nth (tableS g) a) b = domC g a b := by rw [tableS_row h, nth_rows h2]

/-- Any of those below a number. -/
def orStep (p : Nat → Bool) (b : Nat) (s : Bool) : Bool := s || p b
def andStep (p : Nat → Bool) (b : Nat) (s : Bool) : Bool := s && p b
def anyUp (p : Nat → Bool) (n : Nat) : Bool := up (orStep p) n false
def allUp (p : Nat → Bool) (n : Nat) : Bool := up (andStep p) n true
theorem anyUp_succ {p : Nat → Bool} {n : Nat} : anyUp p (n + 1) = (anyUp p n || p n) := rfl
theorem allUp_succ {p : Nat → Bool} {n : Nat} : allUp p (n + 1) = (allUp p n && p n) := rfl

def headP (g : Gr) (h b : Nat) : Bool := edgeS g b h && domC g h b
def headC (g : Gr) (h : Nat) : Bool := anyUp (headP g h) g.length
def headersS (g : Gr) : List Int := sift (headC g) (fun b => (b : Int)) g.length

theorem refHeaders_ok {g : Gr} {vg : Value} {h : Heap} (hg : SlRd (vw h) vg g) (hs : g.length ≤ 1000000) :
    HCalls Try.prog N.ref02_Headers #[vg] h (fun v h' => (vw h).le (vw h') ∧ SlRd (fresh h h') v (headersS g)) := by
  refine calls_lift (args := [vg]) follows Try.func38 E.ref02_Headers (by show 1 ≤ 46; decide) fun K hK => ?_
  simp [L.ref02_Headers]
  refine call_to (by kernel_rfl) (table_ok hg hs) ?_
  rintro vt h1 ⟨hle1, ht⟩
  have ht := ht.mono (fresh_le _ _)
  have hg := hg.mono hle1
  have hlt := tableS_len (g := g)
  refine lwp_for [0, 3, 4, 5] (fun (v : Value) k => [vg, vt, v, .int .i64 k]) (fun v k h2 => Mine nothing h1 h2 nothing 3 v (sift (headC g) (fun b => (b : Int)) k)) g.length (.slice none 0 0)
    rfl (by omega) rfl (Mine.start (fun _ _ h => by cases h)) (fun _ _ => rfl) (fun v k h1 hk m => by simp [hg.len]) ?_ ?_
  · rintro v x h2 hltx m K2 hK2
    have hg2 := hg.mono m.old
    have ht2 := ht.mono m.old
    obtain ⟨rt, hrt⟩ := ht2.rows
    obtain ⟨ct, rt'⟩ := hrt x (by omega)
    have hrl := tableS_row_len hltx
    simp
    refine lwp_for [0, 3, 4, 5, 6, 7] (fun (s : Unit) b => [vg, vt, v, .int .i64 x, .bool (anyUp (headP g x) b), .int .i64 b]) (fun _ b h3 => h3 = h2) g.length ()
      rfl (by omega) rfl rfl (fun _ _ => rfl) (fun v k h1 hk m => by simp [hg.len]) ?_ ?_
    · rintro _ b h3 hltb rfl K3 hK3
      simp
      refine call_to (by kernel_rfl) (edge_ok hg2) ?_
      rintro _ _ ⟨rfl, rfl⟩
      simp (disch := omega) [ht2.idx1 rfl, ct _ (View.le_refl _), rt'.idx1 rfl, rt'.bool (View.le_refl _)]
      exact hK3 () _ _ rfl (by rw [tableS_nth hltx hltb]; rfl) rfl
    · rintro _ h3 rfl
      simp [condP_bool]
      refine ⟨fun he => ?_, fun he => hK2 v _ _ rfl rfl (by rw [sift_false (show headC g x = false from he)]; exact m)⟩
      have := sift_len (p := headC g) (x := fun b => (b : Int)) x
      refine m.push elem23 (by simp <;> rfl) (rd_i (by omega) (by omega)) (by omega) (by omega) (fun _ => by simp) (fun _ => by simp) fun u v' h3 m' => hK2 v' _ _ rfl rfl (by rw [sift_true (show headC g x = true from he)]; exact m')
  · rintro v h2 m
    simp
    exact hK _ _ ⟨View.le_trans hle1 m.old, m.fresh.mono (fresh_from hle1)⟩

def lastP (g : Gr) (a b c : Nat) : Bool := decide ((c : Int) = (b : Int)) || !domC g c b || domC g c a
def lastC (g : Gr) (a b : Nat) : Bool := allUp (lastP g a b) g.length
def bestStep (g : Gr) (b a : Nat) (best : Int) : Int := if !decide ((a : Int) = (b : Int)) && domC g a b then (if lastC g a b then (a : Int) else best) else best
def bestUp (g : Gr) (b n : Nat) : Int := up (bestStep g b) n (-1)
def bestS (g : Gr) (b : Nat) : Int := bestUp g b g.length
def idomS (g : Gr) : List Int := rows (bestS g) g.length
theorem bestUp_succ {g : Gr} {b n : Nat} : bestUp g b (n + 1) = bestStep g b n (bestUp g b n) := rfl

theorem best_range {g : Gr} {b : Nat} {n : Nat} : -1 ≤ bestUp g b n ∧ bestUp g b n < n := by
  induction n with
  | zero => simp [bestUp, up]
  | succ n ih =>
    rw [bestUp_succ, bestStep]
    split
    · split <;> omega
    · omega

theorem refIdom_ok {g : Gr} {vg : Value} {h : Heap} (hg : SlRd (vw h) vg g) (hs : g.length ≤ 1000000) :
    HCalls Try.prog N.ref02_Idom #[vg] h (fun v h' => (vw h).le (vw h') ∧ SlRd (fresh h h') v (idomS g)) := by
  refine calls_lift (args := [vg]) follows Try.func37 E.ref02_Idom (by show 1 ≤ 74; decide) fun K hK => ?_
  simp [L.ref02_Idom]
  refine call_to (by kernel_rfl) (table_ok hg hs) ?_
  rintro vt h1 ⟨hle1, ht⟩
  have ht := ht.mono (fresh_le _ _)
  have hg := hg.mono hle1
  have hlt := tableS_len (g := g)
  refine lwp_for [0, 3, 4, 5] (fun (v : Value) k => [vg, vt, v, .int .i64 k]) (fun v k h2 => Mine nothing h1 h2 nothing 3 v (rows (bestS g) k)) g.length (.slice none 0 0)
    rfl (by omega) rfl (Mine.start (fun _ _ h => by cases h)) (fun _ _ => rfl) (fun v k h1 hk m => by simp [hg.len]) ?_ ?_
  · rintro v b h2 hltb m K2 hK2
    have hg2 := hg.mono m.old
    have ht2 := ht.mono m.old
    obtain ⟨rt, hrt⟩ := ht2.rows
    simp
    refine lwp_for [0, 3, 4, 5, 6, 7] (fun (s : Unit) a => [vg, vt, v, .int .i64 b, .int .i64 (bestUp g b a), .int .i64 a]) (fun _ a h3 => h3 = h2) g.length ()
      rfl (by omega) rfl rfl (fun _ _ => rfl) (fun v k h1 hk m => by simp [hg.len]) ?_ ?_
    · rintro _ a h3 hlta rfl K3 hK3
      obtain ⟨ct, rt'⟩ := hrt a (by omega)
      have hrl := tableS_row_len hlta
      simp (disch := omega) [ht2.idx1 rfl, ct _ (View.le_refl _), rt'.idx1 rfl, rt'.bool (View.le_refl _), condP_bool, -Bool.and_eq_true, -Bool.and_eq_false_imp]
      rw [tableS_nth hlta hltb]
      refine ⟨fun he => ?_, fun he => hK3 () _ _ rfl (by rw [bestUp_succ, bestStep, he]; rfl) rfl⟩
      refine lwp_for [0, 3, 4, 5, 6, 7, 8, 9] (fun (s : Unit) c => [vg, vt, v, .int .i64 b, .int .i64 (bestUp g b a), .int .i64 a, .bool (allUp (lastP g a b) c), .int .i64 c]) (fun _ c h4 => h4 = h3) g.length ()
        rfl (by omega) rfl rfl (fun _ _ => rfl) (fun v k h1 hk m => by simp [hg.len]) ?_ ?_
      · rintro _ c h4 hltc rfl K4 hK4
        obtain ⟨cc, rc⟩ := hrt c (by omega)
        have hrc := tableS_row_len hltc
        simp (disch := omega) [ht2.idx1 rfl, cc _ (View.le_refl _), rc.idx1 rfl, rc.bool (View.le_refl _)]
        exact hK4 () _ _ rfl (by rw [tableS_nth hltc hltb, tableS_nth hltc hlta]; rfl) rfl
      · rintro _ h4 rfl
        simp [condP_bool]
        refine ⟨fun hl => hK3 () _ _ rfl ?_ rfl, fun hl => hK3 () _ _ rfl ?_ rfl⟩
        · rw [bestUp_succ, bestStep, he, show lastC g a b = true from hl]; rfl
        · rw [bestUp_succ, bestStep, he, show lastC g a b = false from hl]; rfl
    · rintro _ h3 rfl
      simp
      have := best_range (g := g) (b := b) (n := g.length)
      refine m.push elem23 (by simp <;> rfl) (rd_i (by omega) (by omega)) (by simp; omega) (by simp; omega) (fun _ => by simp) (fun _ => by simp) fun u v' h3 m' => hK2 v' _ _ rfl rfl (by rw [rows_succ]; exact m')
  · rintro v h2 m
    simp
    exact hK _ _ ⟨View.le_trans hle1 m.old, m.fresh.mono (fresh_from hle1)⟩
end Go.Proofs.Ytaebcebflfgdiaa

namespace Go.Proofs.Ytaebcebflfgdiaa
open Go Go.Lft
set_option linter.unusedSimpArgs false
set_option linter.unusedVariables false

def redP (g : Gr) (there : List Bool) (b a : Nat) : Bool := edgeS g a b && nth there a && !domC g b a
def redBlock (g : Gr) (b : Nat) (there : List Bool) : List Bool := if anyUp (redP g there b) g.length then there else there.set b false
def redRound (g : Gr) (there : List Bool) : List Bool := up (redBlock g) g.length there
def leftS (g : Gr) : List Bool := up (fun _ => redRound g) g.length (withoutS g (-1))
def reducibleS (g : Gr) : Bool := decide (∀ b, b < g.length → nth (leftS g) b = false)

theorem redBlock_len {g : Gr} {b : Nat} {t : List Bool} : (redBlock g b t).length = t.length := by unfold redBlock; split <;> simp
theorem redRound_len {g : Gr} {t : List Bool} : (redRound g t).length = t.length := up_keep List.length (fun _ _ => redBlock_len) _ _
theorem leftS_len {g : Gr} : (leftS g).length = g.length := by rw [leftS, up_keep List.length (fun _ _ => redRound_len), withoutS_len]

theorem refReducible_ok {g : Gr} {vg : Value} {h : Heap} (hg : SlRd (vw h) vg g) (hs : g.length ≤ 1000000) :
    HCalls Try.prog N.ref02_Reducible #[vg] h (fun v h' => v = .bool (reducibleS g) ∧ (vw h).le (vw h')) := by
  refine calls_lift (args := [vg]) follows Try.func40 E.ref02_Reducible (by show 1 ≤ 72; decide) fun K hK => ?_
  simp [L.ref02_Reducible]
  refine call_to (by kernel_rfl) (table_ok hg hs) ?_
  rintro vt h1 ⟨hle1, ht⟩
  have ht := ht.mono (fresh_le _ _)
  have hg := hg.mono hle1
  have hlt := tableS_len (g := g)
  refine call_to (by kernel_rfl) (without_own hg hs) ?_
  rintro v h2 ⟨W, m⟩
  refine lwp_for [0, 2, 3, 4, 5] (fun (_ : Unit) k => [vg, .bool false, vt, v, .int .i64 k]) (fun _ k h3 => Mine nothing h1 h3 W 4 v (up (fun _ => redRound g) k (withoutS g (-1)))) g.length ()
    rfl (by omega) rfl m (fun _ _ => rfl) (fun v k h1 hk m => by simp [hg.len]) ?_ ?_
  · rintro _ k h3 hltk m K2 hK2
    generalize hx : up (fun _ => redRound g) k (withoutS g (-1)) = x at m
    have hxl : x.length = g.length := by rw [← hx, up_keep List.length (fun _ _ => redRound_len), withoutS_len]
    simp
    refine lwp_for [0, 2, 3, 4, 5, 6] (fun (_ : Unit) b => [vg, .bool false, vt, v, .int .i64 k, .int .i64 b]) (fun _ b h4 => Mine nothing h1 h4 W 4 v (up (redBlock g) b x)) g.length ()
      rfl (by omega) rfl m (fun _ _ => rfl) (fun v k h1 hk m => by simp [hg.len]) ?_ ?_
    · rintro _ b h4 hltb m K3 hK3
      generalize hy : up (redBlock g) b x = y at m
      have hyl : y.length = g.length := by rw [← hy, up_keep List.length (fun _ _ => redBlock_len), hxl]
      simp
      have hg4 := hg.mono m.old
      have ht4 := ht.mono m.old
      obtain ⟨rt, hrt⟩ := ht4.rows
      obtain ⟨ct, rt'⟩ := hrt b (by omega)
      have hrl := tableS_row_len hltb
      refine lwp_for [0, 2, 3, 4, 5, 6, 7, 8] (fun (_ : Unit) a => [vg, .bool false, vt, v, .int .i64 k, .int .i64 b, .bool (anyUp (redP g y b) a), .int .i64 a]) (fun _ a h5 => h5 = h4) g.length ()
        rfl (by omega) rfl rfl (fun _ _ => rfl) (fun v k h1 hk m => by simp [hg.len]) ?_ ?_
      · rintro _ a h5 hlta rfl K4 hK4
        simp
        refine call_to (by kernel_rfl) (edge_ok hg4) ?_
        rintro _ _ ⟨rfl, rfl⟩
        simp (disch := omega) [ht4.idx1 rfl, ct _ (View.le_refl _), rt'.idx1 rfl, rt'.bool (View.le_refl _), m.now.idx1 rfl, m.now.bool (View.le_refl _)]
        exact hK4 () _ _ rfl (by rw [tableS_nth hltb hlta]; rfl) rfl
      · rintro _ h5 rfl
        simp [condP_bool]
        refine ⟨fun he => ?_, fun he => hK3 () _ _ rfl rfl ?_⟩
        · simp (disch := omega) [m.now.idx1 rfl]
          refine m.put1 (α := Bool) (i := b) (by kernel_rfl) rfl (by simp) (by simp <;> rfl) (by omega) rd_b fun h6 m6 => hK3 () _ _ rfl rfl ?_
          have : up (redBlock g) (b + 1) x = y.set b false := by rw [up, hy, redBlock, he]; rfl
          rw [this]; exact m6
        · have : up (redBlock g) (b + 1) x = y := by rw [up, hy, redBlock, he]; rfl
          rw [this]; exact m
    · rintro _ h4 m
      simp
      refine hK2 () _ _ rfl rfl ?_
      have : up (fun _ => redRound g) (k + 1) (withoutS g (-1)) = up (redBlock g) g.length x := by rw [up, hx, redRound]
      rw [this]; exact m
  · rintro _ h3 m
    have hll := leftS_len (g := g)
    change Mine nothing h1 h3 W 4 v (leftS g) at m
    simp
    refine lwp_for [0, 2, 3, 4, 10] (fun (_ : Unit) b => [vg, .bool false, vt, v, .int .i64 b]) (fun _ b h5 => h5 = h3 ∧ ∀ j, j < b → nth (leftS g) j = false) g.length ()
      rfl (by omega) rfl ⟨rfl, by omega⟩ (fun _ _ => rfl) (fun v k h1 hk m => by simp [hg.len]) ?_ ?_
    · rintro _ b h5 hltb ⟨rfl, hpre⟩ K2 hK2
      simp (disch := omega) [m.now.idx1 rfl, m.now.bool (View.le_refl _), condP_bool]
      refine ⟨fun he => hK _ _ ⟨?_, View.le_trans hle1 m.old⟩, fun he => hK2 () _ _ rfl rfl ⟨rfl, fun j hj => ?_⟩⟩
      · simp only [Value.bool.injEq]
        refine (decide_eq_false fun hall => ?_).symm
        rw [hall b hltb] at he; cases he
      · rcases Nat.lt_or_ge j b with h | h
        · exact hpre j h
        · have : j = b := by omega
          subst this; exact he
    · rintro _ h5 ⟨rfl, hpre⟩
      simp
      refine hK _ _ ⟨?_, View.le_trans hle1 m.old⟩
      simp only [Value.bool.injEq]
      exact (decide_eq_true hpre).symm

def backP (g : Gr) (h : Int) (b : Nat) : Bool := edgeS g b h && domC g h.toNat b
def bodyStep (g : Gr) (h : Int) (a : Nat) (l : List Int) (i : Nat) (ins : List Bool) : List Bool :=
  if nth (withoutS g (-1)) a && !decide (nth l i = h) && nth ins (nth l i).toNat then ins.set a true else ins
def bodyBlock (g : Gr) (h : Int) (a : Nat) (ins : List Bool) : List Bool := up (bodyStep g h a (nextS g a)) (nextS g a).length ins
def bodyRound (g : Gr) (h : Int) (ins : List Bool) : List Bool := up (bodyBlock g h) g.length ins
def inS (g : Gr) (h : Int) : List Bool := up (fun _ => bodyRound g h) g.length ((rows (backP g h) g.length).set h.toNat true)
def bodyS (g : Gr) (h : Int) : List Int := if anyUp (backP g h) g.length then sift (fun b => nth (inS g h) b) (fun b => (b : Int)) g.length else []

theorem bodyStep_len {g : Gr} {h : Int} {a : Nat} {l : List Int} {i : Nat} {t : List Bool} : (bodyStep g h a l i t).length = t.length := by unfold bodyStep; split <;> simp
theorem bodyBlock_len {g : Gr} {h : Int} {a : Nat} {t : List Bool} : (bodyBlock g h a t).length = t.length := up_keep List.length (fun _ _ => bodyStep_len) _ _
theorem bodyRound_len {g : Gr} {h : Int} {t : List Bool} : (bodyRound g h t).length = t.length := up_keep List.length (fun _ _ => bodyBlock_len) _ _
theorem inS_len {g : Gr} {h : Int} : (inS g h).length = g.length := by rw [inS, up_keep List.length (fun _ _ => bodyRound_len)]; simp
theorem edge_range {g : Gr} {a b : Int} (h : edgeS g a b = true) : 0 ≤ a ∧ a < g.length ∧ 0 ≤ b ∧ b < g.length := by
  simp only [edgeS, Bool.and_eq_true, decide_eq_true_eq] at h; exact h.1
theorem anyUp_some {p : Nat → Bool} {n : Nat} (h : anyUp p n = true) : ∃ k, k < n ∧ p k = true := by
  induction n with
  | zero => cases h
  | succ n ih =>
    rw [anyUp_succ, Bool.or_eq_true] at h
    rcases h with h | h
    · obtain ⟨k, h1, h2⟩ := ih h; exact ⟨k, by omega, h2⟩
    · exact ⟨n, by omega, h⟩

theorem refBody_ok {g : Gr} {x : Int} {vg : Value} {h : Heap} (hg : SlRd (vw h) vg g) (hs : g.length ≤ 1000000) :
    HCalls Try.prog N.ref02_Body #[vg, .int .i64 x] h (fun v h' => (vw h).le (vw h') ∧ SlRd (fresh h h') v (bodyS g x)) := by
  refine calls_lift (args := [vg, .int .i64 x]) follows Try.func41 E.ref02_Body (by show 2 ≤ 112; decide) fun K hK => ?_
  simp [L.ref02_Body]
  refine call_to (by kernel_rfl) (table_ok hg hs) ?_
  rintro vt h1 ⟨hle1, ht⟩
  have ht := ht.mono (fresh_le _ _)
  have hg := hg.mono hle1
  have hlt := tableS_len (g := g)
  refine call_to (by kernel_rfl) (without_ok hg hs) ?_
  rintro va h2 ⟨hle2, ha⟩
  have ha := ha.mono (fresh_le _ _)
  have hg := hg.mono hle2
  have ht := ht.mono hle2
  have hla := withoutS_len (g := g) (gone := -1)
  have hle12 := View.le_trans hle1 hle2
  simp [hg.len]
  refine Mine.made (V := nothing) (W := nothing) (h0 := h2) (n := g.length) (d := false) elem32 (View.le_refl _) (fun _ _ h => by cases h) (Old.nothing _ _) (by simp <;> rfl) (by simp <;> rfl) rfl (by omega) (by omega) fun v h3 m _ _ => ?_
  refine lwp_for [0, 1, 4, 5, 6, 7, 8, 9] (fun (_ : Unit) b => [vg, .int .i64 x, .slice none 0 0, vt, va, v, .bool (anyUp (backP g x) b), .int .i64 b]) (fun _ b h4 => Mine nothing h2 h4 nothing 4 v (rows (backP g x) b ++ List.replicate (g.length - b) false)) g.length ()
    rfl (by omega) rfl m (fun _ _ => rfl) (fun v k h1 hk m => by simp [hg.len]) ?_ ?_
  · rintro _ b h4 hltb m K2 hK2
    have hg4 := hg.mono m.old
    have ht4 := ht.mono m.old
    have hl5 : (rows (backP g x) b ++ List.replicate (g.length - b) false).length = g.length := by simp; omega
    simp
    refine call_to (by kernel_rfl) (edge_ok hg4) ?_
    rintro _ _ ⟨rfl, rfl⟩
    cases he : edgeS g b x with
    | false =>
      have hb : backP g x b = false := by simp [backP, he]
      simp
      refine hK2 () _ _ rfl (by rw [anyUp_succ, hb, Bool.or_false]; rfl) ?_
      rw [← rows_skip hltb hb]; exact m
    | true =>
      obtain ⟨g1, g2, g3, g4⟩ := edge_range he
      obtain ⟨i, rfl⟩ := Int.eq_ofNat_of_zero_le g3
      obtain ⟨rt, hrt⟩ := ht4.rows
      obtain ⟨ct, rt'⟩ := hrt i (by omega)
      have hrl := tableS_row_len (g := g) (a := i) (by omega)
      have hbe : backP g i b = domC g i b := by simp [backP, he]
      simp (disch := omega) [ht4.idx1 rfl, ct _ (View.le_refl _), rt'.idx1 rfl, rt'.bool (View.le_refl _), condP_bool, m.now.idx1 rfl]
      rw [tableS_nth (by omega) hltb]
      refine ⟨fun hd => ?_, fun hd => ?_⟩
      · refine m.put1 (α := Bool) (i := b) (by kernel_rfl) rfl (by simp) (by simp <;> rfl) (by omega) rd_b fun h6 m6 => hK2 () _ _ rfl (by rw [anyUp_succ, hbe, hd, Bool.or_true]; rfl) ?_
        rw [← rows_set hltb, hbe, hd]; exact m6
      · refine hK2 () _ _ rfl (by rw [anyUp_succ, hbe, hd, Bool.or_false]; rfl) ?_
        rw [← rows_skip hltb (by rw [hbe, hd])]; exact m
  · rintro _ h4 m
    simp at m
    simp [condP_bool]
    refine ⟨fun hsome => hK _ _ ⟨View.le_trans hle12 m.old, ?_⟩, fun hsome => ?_⟩
    · rw [bodyS, hsome]
      exact ⟨none, 0, rfl, by simp, by simp, .inl rfl⟩
    · obtain ⟨b0, hb0, hb1⟩ := anyUp_some hsome
      simp only [backP, Bool.and_eq_true] at hb1
      obtain ⟨g1, g2, g3, g4⟩ := edge_range hb1.1
      obtain ⟨i, rfl⟩ := Int.eq_ofNat_of_zero_le g3
      have hrl : (rows (backP g i) g.length).length = g.length := rows_len
      have hbody : bodyS g i = sift (fun b => nth (inS g i) b) (fun b => (b : Int)) g.length := by rw [bodyS, hsome]; rfl
      rw [hbody] at hK
      simp (disch := omega) [m.now.idx1 rfl]
      refine m.put1 (α := Bool) (i := i) (by kernel_rfl) rfl (by simp) (by simp <;> rfl) (by omega) rd_b fun h5 m => ?_
      try simp
      refine lwp_for [0, 1, 4, 5, 6, 7, 11] (fun (_ : View) k => [vg, .int .i64 i, .slice none 0 0, vt, va, v, .int .i64 k]) (fun W k h6 => Mine nothing h2 h6 W 4 v (up (fun _ => bodyRound g i) k ((rows (backP g i) g.length).set i true))) g.length nothing
        rfl (by omega) rfl m (fun _ _ => rfl) (fun v k h1 hk m => by simp [hg.len]) ?_ ?_
      · intro W k h6 hlt m K2 hK2
        generalize hx : up (fun _ => bodyRound g i) k ((rows (backP g i) g.length).set i true) = y at m
        have hxl : y.length = g.length := by rw [← hx, up_keep List.length (fun _ _ => bodyRound_len)]; simp
        simp
        refine lwp_for [0, 1, 4, 5, 6, 7, 11, 12] (fun (_ : View) a => [vg, .int .i64 i, .slice none 0 0, vt, va, v, .int .i64 k, .int .i64 a]) (fun W a h7 => Mine nothing h2 h7 W 4 v (up (bodyBlock g i) a y)) g.length W
          rfl (by omega) rfl m (fun _ _ => rfl) (fun v k h1 hk m => by simp [hg.len]) ?_ ?_
        · intro W a h7 hlta m K3 hK3
          generalize hy : up (bodyBlock g i) a y = z at m
          have hyl : z.length = g.length := by rw [← hy, up_keep List.length (fun _ _ => bodyBlock_len)]; exact hxl
          simp
          refine call_to (by kernel_rfl) (next_ok (hg.mono m.old) hs) ?_
          rintro r h8 ⟨hle8, hr⟩
          have m8 := m.ext hle8
          have hr8 := hr.mono (fresh_grow W _ _)
          have br := hr.bound
          refine lwp_for [0, 1, 4, 5, 6, 7, 11, 12, 13, 14] (fun (_ : Unit) j => [vg, .int .i64 i, .slice none 0 0, vt, va, v, .int .i64 k, .int .i64 a, r, .int .i64 j]) (fun _ j h9 => Mine nothing h2 h9 (grow W h7 h8) 4 v (up (bodyStep g i a (nextS g a)) j z)) (nextS g a).length ()
            rfl (by omega) rfl m8 (fun _ _ => rfl) (fun v k h1 hk m => by simp [hr.len]) ?_ ?_
          · intro _ j h9 hltj m9 K4 hK4
            generalize hz : up (bodyStep g i a (nextS g a)) j z = t at m9
            have hzl : t.length = g.length := by rw [← hz, up_keep List.length (fun _ _ => bodyStep_len)]; exact hyl
            obtain ⟨e0, e1⟩ := nextS_mem hltj
            have ha9 := ha.mono m9.old
            simp (disch := omega) [ha9.idx1 rfl, ha9.bool (View.le_refl _), hr8.idx1 rfl, (hr8.mono m9.wle).int (View.le_refl _), m9.now.idx1 rfl, m9.now.bool (View.le_refl _), condP_bool, -Bool.and_eq_true, -Bool.and_eq_false_imp]
            refine ⟨fun he => ?_, fun he => hK4 () _ _ rfl rfl ?_⟩
            · refine m9.put1 (α := Bool) (i := a) (by kernel_rfl) rfl (by simp) (by simp <;> rfl) (by omega) rd_b fun h6 m6 => hK4 () _ _ rfl rfl ?_
              have : up (bodyStep g i a (nextS g a)) (j + 1) z = t.set a true := by rw [up, hz, bodyStep, he]; rfl
              rw [this]; exact m6
            · have : up (bodyStep g i a (nextS g a)) (j + 1) z = t := by rw [up, hz, bodyStep, he]; rfl
              rw [this]; exact m9
          · intro _ h9 m9
            simp
            refine hK3 (grow W h7 h8) _ _ rfl rfl ?_
            have : up (bodyBlock g i) (a + 1) y = up (bodyStep g i a (nextS g a)) (nextS g a).length z := by rw [up, hy, bodyBlock]
            rw [this]; exact m9
        · intro W h7 m
          simp
          refine hK2 W _ _ rfl rfl ?_
          have : up (fun _ => bodyRound g i) (k + 1) ((rows (backP g i) g.length).set i true) = up (bodyBlock g i) g.length y := by rw [up, hx, bodyRound]
          rw [this]; exact m
      · intro W h6 m
        change Mine nothing h2 h6 W 4 v (inS g i) at m
        have hil := inS_len (g := g) (h := i)
        simp
        refine lwp_for [0, 7, 15, 16] (fun (u : Value) b => [vg, v, u, .int .i64 b]) (fun u b h7 => Mine nothing h6 h7 nothing 3 u (sift (fun b => nth (inS g i) b) (fun b => (b : Int)) b)) g.length (.slice none 0 0)
          rfl (by omega) rfl (Mine.start (fun _ _ h => by cases h)) (fun _ _ => rfl) (fun v k h1 hk m => by simp [hg.len]) ?_ ?_
        · intro u b h7 hltb mu K2 hK2
          have hv := m.now.mono mu.old
          simp (disch := omega) [hv.idx1 rfl, hv.bool (View.le_refl _), condP_bool]
          refine ⟨fun he => ?_, fun he => hK2 u _ _ rfl rfl (by rw [sift_false (show nth (inS g i) b = false from he)]; exact mu)⟩
          have := sift_len (p := fun b => nth (inS g i) b) (x := fun b => (b : Int)) b
          refine mu.push elem23 (by simp <;> rfl) (rd_i (by omega) (by omega)) (by omega) (by omega) (fun _ => by simp) (fun _ => by simp) fun u v' h3 m' => hK2 v' _ _ rfl rfl (by rw [sift_true (show nth (inS g i) b = true from he)]; exact m')
        · intro u h7 mu
          simp
          have hle7 := View.le_trans hle12 m.old
          exact hK _ _ ⟨View.le_trans hle7 mu.old, mu.fresh.mono (fresh_from hle7)⟩
end Go.Proofs.Ytaebcebflfgdiaa

namespace Go.Proofs.Ytaebcebflfgdiaa
open Go Go.Lft
set_option linter.unusedSimpArgs false
set_option linter.unusedVariables false

/-- A number's rest, from 0 on. -/
def restS (x n : Int) : Int := ((x.tmod n) + n).tmod n

theorem restS_range {x n : Int} (h : 0 < n) : 0 ≤ restS x n ∧ restS x n < n := by
  have h1 := Int.lt_tmod_of_pos x h
  have h2 := Int.tmod_lt_of_pos x h
  unfold restS
  exact ⟨Int.tmod_nonneg _ (by omega), Int.tmod_lt_of_pos _ h⟩

theorem rest_ok {x n : Int} {h : Heap} (h0 : 0 < n) (h1 : n ≤ 1000000) :
    HCalls Try.prog N.law02_rest #[.int .i64 x, .int .i64 n] h (fun v h' => v = .int .i64 (restS x n) ∧ h' = h) := by
  refine calls_lift (args := [.int .i64 x, .int .i64 n]) follows Try.func21 E.law02_rest (by show 2 ≤ 12; decide) fun K hK => ?_
  have h2 := Int.lt_tmod_of_pos x h0
  have h3 := Int.tmod_lt_of_pos x h0
  have hn : n ≠ 0 := by omega
  simp (disch := omega) [L.law02_rest, hn]
  exact hK _ _ ⟨rfl, rfl⟩

def fewS (g : Gr) : Gr := rows (fun i => (nth g i).take 5) (min g.length 12)

theorem few_ok {g : Gr} {vg : Value} {h : Heap} {V : View} (hV : V.le (vw h)) (hg : SlRd V vg g) :
    HCalls Try.prog N.ref02_Few #[vg] h (fun v h' => ∃ W, Mine V h h' W 23 v (fewS g)) := by
  refine calls_lift (args := [vg]) follows Try.func14 E.ref02_Few (by show 1 ≤ 30; decide) fun K hK => ?_
  have bg := hg.bound
  simp [L.ref02_Few]
  refine lwp_loop [0, 3, 4] (fun n ρ h' => ∃ (k : Nat) (v : Value) (W : View), k ≤ min g.length 12 ∧ ρ = [(0, vg), (3, v), (4, .int .i64 k)] ∧ n = min g.length 12 - k ∧ V.le W ∧ Mine V h h' W 23 v (rows (fun i => (nth g i).take 5) k)) (min g.length 12)
    ⟨0, _, V, by omega, rfl, rfl, View.le_refl _, Mine.start hV⟩ ?_
  rintro n ρ h1 ⟨k, v, W, hk, rfl, rfl, hVW, m⟩ K2 hK2
  have hg1 := hg.mono hVW
  have hg2 := hg1.mono m.wle
  by_cases hlt : k < g.length
  · by_cases h12 : (k : Int) < 12
    · obtain ⟨rv, hrv⟩ := hg1.rows
      obtain ⟨cv, rr⟩ := hrv k hlt
      have hmin : (if (5 : Int) < (nth g k).length then (5 : Int) else ((nth g k).length : Int)) = ((min (nth g k).length 5 : Nat) : Int) := by split <;> omega
      obtain ⟨u, hu1, hu2⟩ := rr.take (n := min (nth g k).length 5) (by omega) (kd := .i64)
      have htake : (nth g k).take (min (nth g k).length 5) = (nth g k).take 5 := by
        rcases Nat.le_total (nth g k).length 5 with h | h
        · rw [Nat.min_eq_left h, List.take_of_length_le h, List.take_of_length_le (by omega)]
        · rw [Nat.min_eq_right h]
      rw [htake] at hu2
      simp (disch := omega) [L.ref02_Few.l1, hg.len, hlt, h12]
      refine drawn_at (vw h1) (View.le_refl _) ?_
      simp (disch := omega) [hg2.idx1 rfl, cv _ m.wle, rr.len, hmin, hu1]
      refine m.push elem22 (by simp <;> rfl) (rd_list.2 hu2) (by simp; omega) (by simp; omega) (fun _ => by simp) (fun _ => by simp) fun u v' h3 m' => ?_
      exact hK2 _ _ _ (by omega) ⟨k + 1, v', W, by omega, rfl, rfl, hVW, by rw [rows_succ]; exact m'⟩
    · simp (disch := omega) [L.ref02_Few.l1, hg.len, hlt, h12]
      have : k = min g.length 12 := by omega
      subst this
      exact hK _ _ ⟨W, m⟩
  · simp (disch := omega) [L.ref02_Few.l1, hg.len, hlt]
    have : k = min g.length 12 := by omega
    subst this
    exact hK _ _ ⟨W, m⟩

def madeN (s : List Int) : Nat := if 0 < s.length then (1 + restS (nth s 0) 10).toNat else 1
def madeStep (s : List Int) (n i k : Nat) (row : List Int) : List Int :=
  if 3 * i + k + 1 < s.length then (if restS (nth s (3 * i + k + 1)) (n + 3) < n then row ++ [restS (nth s (3 * i + k + 1)) (n + 3)] else row) else row
def madeRow (s : List Int) (n i : Nat) : List Int := up (madeStep s n i) 3 []
def madeS (s : List Int) : Gr := rows (madeRow s (madeN s)) (madeN s)

theorem madeN_range {s : List Int} : 1 ≤ madeN s ∧ madeN s ≤ 10 := by
  unfold madeN
  have := restS_range (x := nth s 0) (n := 10) (by decide)
  split <;> omega
theorem madeStep_len {s : List Int} {n i k : Nat} {row : List Int} : (madeStep s n i k row).length ≤ row.length + 1 := by
  unfold madeStep; split
  · split <;> simp
  · simp
theorem madeUp_len {s : List Int} {n i k : Nat} : (up (madeStep s n i) k []).length ≤ k := by
  have := up_length (f := madeStep s n i) (m := 1) (fun k x => madeStep_len) k []
  simpa using this

theorem made_ok {s : List Int} {vs : Value} {h : Heap} (hs : SlRd (vw h) vs s) :
    HCalls Try.prog N.ref02_Made #[vs] h (fun v h' => ∃ W, Mine nothing h h' W 23 v (madeS s)) := by
  refine calls_lift (args := [vs]) follows Try.func15 E.ref02_Made (by show 1 ≤ 62; decide) fun K hK => ?_
  have bs := hs.bound
  obtain ⟨n1, n10⟩ := madeN_range (s := s)
  -- the loops, whatever led to them
  have loops : LC.wp Try.prog (.loop L.ref02_Made.l1) (inBlk 0 (thenL (LC.wp Try.prog (.seq (.reg false (.fin [61, 2] [(2, .tmp 4)] [])) .ret) (fnPost [.tmp 2] K)) (fnPost [.tmp 2] K))) [(0, vs), (2, .slice none 0 0), (3, .int .i64 (madeN s)), (4, .slice none 0 0), (5, .int .i64 0)] h := by
    refine lwp_for [0, 3, 4, 5] (fun (p : Value × View) i => [vs, .int .i64 (madeN s), p.1, .int .i64 i]) (fun p i h1 => Mine nothing h h1 p.2 23 p.1 (rows (madeRow s (madeN s)) i)) (madeN s) (.slice none 0 0, nothing)
      rfl (by omega) rfl (Mine.start (fun _ _ h => by cases h)) (fun _ _ => rfl) (fun v k h1 hk m => by simp) ?_ ?_
    · rintro ⟨v, W⟩ i h1 hlti m K2 hK2
      simp
      refine lwp_loop [0, 3, 4, 5, 6, 7] (fun n ρ h2 => ∃ (k : Nat) (r : Value), k ≤ 3 ∧ ρ = [(0, vs), (3, .int .i64 (madeN s)), (4, v), (5, .int .i64 i), (6, r), (7, .int .i64 ((k : Int) + 1))] ∧ n = 3 - k ∧ Mine nothing h1 h2 nothing 3 r (up (madeStep s (madeN s) i) k [])) 3
        ⟨0, _, by omega, rfl, rfl, Mine.start (fun _ _ h => by cases h)⟩ ?_
      rintro n ρ h2 ⟨k, r, hk, rfl, rfl, mr⟩ K3 hK3
      by_cases hlt : (k : Int) + 1 ≤ 3
      · have hlen := madeUp_len (s := s) (n := madeN s) (i := i) (k := k)
        have hs2 := (hs.mono m.old).mono mr.old
        by_cases hat : 3 * (i : Int) + ((k : Int) + 1) < s.length
        · have hat' : 3 * i + k + 1 < s.length := by omega
          have ht : (3 * (i : Int) + ((k : Int) + 1)).toNat = 3 * i + k + 1 := by omega
          have hm1 := Int.lt_tmod_of_pos (nth s (3 * i + k + 1)) (b := (madeN s : Int) + 3) (by omega)
          have hm2 := Int.tmod_lt_of_pos (nth s (3 * i + k + 1)) (b := (madeN s : Int) + 3) (by omega)
          have hne : (madeN s : Int) + 3 ≠ 0 := by omega
          have hassoc : (nth s (3 * i + k + 1)).tmod ((madeN s : Int) + 3) + (madeN s : Int) + 3 = (nth s (3 * i + k + 1)).tmod ((madeN s : Int) + 3) + ((madeN s : Int) + 3) := by omega
          have hstep : up (madeStep s (madeN s) i) (k + 1) [] = if restS (nth s (3 * i + k + 1)) (madeN s + 3) < madeN s then up (madeStep s (madeN s) i) k [] ++ [restS (nth s (3 * i + k + 1)) (madeN s + 3)] else up (madeStep s (madeN s) i) k [] := by rw [up, madeStep, if_pos hat']
          have hrr := restS_range (x := nth s (3 * i + k + 1)) (n := (madeN s : Int) + 3) (by omega)
          simp (disch := omega) [L.ref02_Made.l2, hlt, hs.len, hat, hs2.idx1 rfl, ht, hs2.int (View.le_refl _), bn_rem hne, hassoc]
          have e : ((nth s (3 * i + k + 1)).tmod ((madeN s : Int) + 3) + ((madeN s : Int) + 3)).tmod ((madeN s : Int) + 3) = restS (nth s (3 * i + k + 1)) (madeN s + 3) := rfl
          rw [e]
          refine ⟨fun hx => ?_, fun hx => hK3 _ _ _ ?_ ⟨k + 1, r, by omega, rfl, rfl, ?_⟩⟩
          · rw [if_pos hx] at hstep
            refine mr.push elem23 (by simp <;> rfl) (rd_i (by omega) (by omega)) (by omega) (by omega) (fun _ => by simp) (fun _ => by simp) fun u v' h3 m' => hK3 _ _ _ ?_ ⟨k + 1, v', by omega, rfl, rfl, by rw [hstep]; exact m'⟩
            omega
          · omega
          · rw [hstep, if_neg (by omega)]; exact mr
        · have hstep : up (madeStep s (madeN s) i) (k + 1) [] = up (madeStep s (madeN s) i) k [] := by rw [up, madeStep, if_neg (by omega)]
          simp (disch := omega) [L.ref02_Made.l2, hlt, hs.len, hat]
          refine hK3 _ _ _ ?_ ⟨k + 1, r, by omega, rfl, rfl, by rw [hstep]; exact mr⟩
          omega
      · have : k = 3 := by omega
        subst this
        have hlen := madeUp_len (s := s) (n := madeN s) (i := i) (k := 3)
        have m2 := m.ext mr.old
        simp (disch := omega) [L.ref02_Made.l2, hlt]
        refine m2.push elem22 (by simp <;> rfl) (rd_list.2 (mr.fresh.mono (fresh_grow _ _ _))) (by simp; omega) (by simp; omega) (fun _ => by simp) (fun _ => by simp) fun u v' h3 m' => hK2 (v', _) _ _ rfl rfl (by rw [rows_succ]; exact m')
    · rintro ⟨v, W⟩ h1 m
      simp
      exact hK _ _ ⟨W, m⟩
  simp [L.ref02_Made, hs.len]
  refine ⟨fun h0 => ?_, fun h0 => ?_⟩
  · have hn : (madeN s : Int) = 1 + restS (nth s 0) 10 := by
      have := restS_range (x := nth s 0) (n := 10) (by decide)
      rw [madeN, if_pos (by omega)]; omega
    have hm1 := Int.lt_tmod_of_pos (nth s 0) (b := 10) (by decide)
    have hm2 := Int.tmod_lt_of_pos (nth s 0) (b := 10) (by decide)
    have hrr := restS_range (x := nth s 0) (n := 10) (by decide)
    have e : ((nth s 0).tmod 10 + 10).tmod 10 = restS (nth s 0) 10 := rfl
    simp (disch := omega) [hs.idx1 rfl, hs.int (View.le_refl _), e, ← hn]
    exact loops
  · have hn : (madeN s : Int) = 1 := by simp [madeN, h0]
    rw [hn] at loops
    exact loops
end Go.Proofs.Ytaebcebflfgdiaa

namespace Go.Proofs.Ytaebcebflfgdiaa
open Go Go.Lft
set_option linter.unusedSimpArgs false
set_option linter.unusedVariables false

theorem elem42 : ElemT Try.prog 42 41 2 16 (.agg #[.int .i64 0, .int .i64 0]) := elemT_of (by kernel_rfl) (by kernel_rfl) rfl (by decide)

theorem pairs_ok {a b : List (Int × Int)} {va vb : Value} {h : Heap} (ha : SlRd (vw h) va a) (hb : SlRd (vw h) vb b) :
    HCalls Try.prog N.ref02_Pairs #[va, vb] h (fun v h' => v = .bool (a == b) ∧ h' = h) := by
  refine calls_lift (args := [va, vb]) follows Try.func34 E.ref02_Pairs (by show 2 ≤ 26; decide) fun K hK => ?_
  have ba := ha.bound
  have bb := hb.bound
  simp [L.ref02_Pairs, ha.len, hb.len]
  refine ⟨fun heq => ?_, fun hne => ?_⟩
  · refine lwp_for [0, 1, 4, 5] (fun (_ : Unit) k => [va, vb, .bool false, .int .i64 k]) (fun _ k h1 => h1 = h ∧ ∀ j, j < k → nth a j = nth b j) a.length ()
      rfl (by omega) rfl ⟨rfl, by omega⟩ (fun _ _ => rfl) (fun v k h1 hk m => by simp [ha.len]) ?_ ?_
    · rintro _ k h1 hlt ⟨rfl, hpre⟩ K2 hK2
      simp
      refine drawn_at (vw h1) (View.le_refl _) ?_
      simp (disch := omega) [ha.idxn (N := 2) rfl, hb.idxn (N := 2) rfl, ha.pair (View.le_refl _), hb.pair (View.le_refl _)]
      refine do_neqPair (a := (nth a k).1) (b := (nth a k).2) (c := (nth b k).1) (d := (nth b k).2) (e := 3) (ki := .i64) (by kernel_rfl) (by kernel_rfl) (by kernel_rfl) (by kernel_rfl) (by kernel_rfl) (by simp) (by simp) ?_
      have hiff : ((nth a k).1 == (nth b k).1 && (nth a k).2 == (nth b k).2) = decide (nth a k = nth b k) := by
        rw [Bool.eq_iff_iff]; simp [Prod.ext_iff]
      simp [hiff, condP_bool]
      refine ⟨fun he => hK _ _ ⟨?_, rfl⟩, fun he => hK2 () _ _ rfl rfl ⟨rfl, fun j hj => ?_⟩⟩
      · simp; intro e; subst e; exact he rfl
      · rcases Nat.lt_or_ge j k with h | h
        · exact hpre j h
        · have : j = k := by omega
          subst this; exact he
    · rintro _ h1 ⟨rfl, hpre⟩
      simp
      refine hK _ _ ⟨?_, rfl⟩
      simp
      exact eq_of_nth (by omega) hpre
  · exact hK _ _ ⟨by simp; intro e; subst e; exact hne rfl, rfl⟩

def critP (g : Gr) (p : Gr) (a i : Nat) : Bool := decide ((1 : Int) < (nextS g a).length) && decide ((1 : Int) < (nth p (nth (nextS g a) i).toNat).length)
def critRow (g : Gr) (p : Gr) (a : Nat) : List (Int × Int) := sift (critP g p a) (fun i => ((a : Int), nth (nextS g a) i)) (nextS g a).length
def criticalS (g : Gr) : List (Int × Int) := up (fun a l => l ++ critRow g (predsS g) a) g.length []

theorem predsS_len {g : Gr} : (predsS g).length = g.length := by simp [predsS]
theorem nextS_len {g : Gr} {a : Int} : (nextS g a).length ≤ g.length := sift_len _

theorem refCritical_ok {g : Gr} {vg : Value} {h : Heap} (hg : SlRd (vw h) vg g) (hs : g.length ≤ 1000) :
    HCalls Try.prog N.ref02_Critical #[vg] h (fun v h' => (vw h).le (vw h') ∧ SlRd (fresh h h') v (criticalS g)) := by
  refine calls_lift (args := [vg]) follows Try.func39 E.ref02_Critical (by show 1 ≤ 49; decide) fun K hK => ?_
  simp [L.ref02_Critical]
  refine call_to (by kernel_rfl) (refPreds_ok hg (by omega)) ?_
  rintro vp h1 ⟨hle1, hp⟩
  have hp := hp.mono (fresh_le _ _)
  have hg := hg.mono hle1
  have hlp := predsS_len (g := g)
  have hup : ∀ k, (up (fun a l => l ++ critRow g (predsS g) a) k []).length ≤ k * g.length := fun k => by
    have := up_length (f := fun a (l : List (Int × Int)) => l ++ critRow g (predsS g) a) (m := g.length) (fun k x => by
      have h1 : (critRow g (predsS g) k).length ≤ (nextS g k).length := sift_len _
      have h2 := nextS_len (g := g) (a := k)
      simp only [List.length_append]; omega) k []
    simpa using this
  refine lwp_for [0, 3, 4, 5] (fun (v : Value) k => [vg, vp, v, .int .i64 k]) (fun v k h2 => ∃ W, Mine nothing h1 h2 W 41 v (up (fun a l => l ++ critRow g (predsS g) a) k [])) g.length (.slice none 0 0)
    rfl (by omega) rfl ⟨_, Mine.start (fun _ _ h => by cases h)⟩ (fun _ _ => rfl) (fun v k h1 hk m => by simp [hg.len]) ?_ ?_
  · rintro v a h2 hlta ⟨W, m⟩ K2 hK2
    simp
    refine call_to (by kernel_rfl) (next_ok (hg.mono m.old) (by omega)) ?_
    rintro r h3 ⟨hle3, hr⟩
    have hr3 := hr.mono (fresh_grow W _ _)
    have br := hr.bound
    have m3 := m.ext hle3
    refine lwp_for [0, 3, 4, 5, 6, 7] (fun (v : Value) i => [vg, vp, v, .int .i64 a, r, .int .i64 i]) (fun v i h4 => Mine nothing h1 h4 (grow W h2 h3) 41 v (up (fun a l => l ++ critRow g (predsS g) a) a [] ++ sift (critP g (predsS g) a) (fun i => ((a : Int), nth (nextS g a) i)) i)) (nextS g a).length v
      rfl (by omega) rfl (by simpa using m3) (fun _ _ => rfl) (fun v k h1 hk m => by simp [hr.len]) ?_ ?_
    · intro v i h4 hlti m4 K3 hK3
      obtain ⟨e0, e1⟩ := nextS_mem hlti
      have hp4 := hp.mono m4.old
      obtain ⟨rp, hrp⟩ := hp4.rows
      obtain ⟨cp, rp'⟩ := hrp (nth (nextS g a) i).toNat (by omega)
      have hr4 := hr3.mono m4.wle
      simp (disch := omega) [hr.len, hr4.idx1 rfl, hr4.int (View.le_refl _), hp4.idx1 rfl, cp _ (View.le_refl _), rp'.len, condP_bool, -Bool.and_eq_true, -Bool.and_eq_false_imp]
      have hl1 := hup a
      have hl2 := sift_len (p := critP g (predsS g) a) (x := fun i => ((a : Int), nth (nextS g a) i)) i
      have hl3 := nextS_len (g := g) (a := a)
      have hl4 : a * g.length ≤ 1000 * g.length := Nat.mul_le_mul_right _ (by omega)
      refine ⟨fun he => ?_, fun he => hK3 v _ _ rfl rfl (by rw [sift_false (show critP g (predsS g) a i = false from he)]; exact m4)⟩
      refine do_build (z := .agg #[.int .i64 0, .int .i64 0]) (places := [(0, 1), (1, 1)]) (vs := [(0, .int .i64 a), (1, .int .i64 (nth (nextS g a) i))]) (cs := #[.int .i64 a, .int .i64 (nth (nextS g a) i)]) (by kernel_rfl) (by kernel_rfl) (by simp) rfl ?_
      refine m4.push (d := ((a : Int), nth (nextS g a) i)) elem42 (by simp <;> rfl) (rd_pair.2 ⟨rfl, ⟨by omega, by omega⟩, by omega, by omega⟩) (by simp; omega) (by simp; omega) (fun _ => by simp) (fun _ => by simp) fun u v' h3 m' => hK3 v' _ _ rfl rfl (by rw [sift_true (show critP g (predsS g) a i = true from he), ← List.append_assoc]; exact m')
    · intro v h4 m4
      simp
      exact hK2 v _ _ rfl rfl ⟨_, m4⟩
  · rintro v h2 ⟨W, m⟩
    simp
    exact hK _ _ ⟨View.le_trans hle1 m.old, m.fresh.mono (fresh_from hle1)⟩
end Go.Proofs.Ytaebcebflfgdiaa

namespace Go.Proofs.Ytaebcebflfgdiaa
open Go Go.Lft
set_option linter.unusedSimpArgs false
set_option linter.unusedVariables false

/-- Blocks gone over from one on, what comes behind it first; so deep at most. -/
def overS (nx : Int → List Int) : Nat → Int → List Bool × List Int → List Bool × List Int
  | 0, _, s => s
  | n + 1, a, s =>
    let r := up (fun i s => if nth s.1 (nth (nx a) i).toNat then s else overS nx n (nth (nx a) i) s) (nx a).length (s.1.set a.toNat true, s.2)
    (r.1, r.2 ++ [a])
def overStep (nx : Int → List Int) (n : Nat) (a : Int) (i : Nat) (s : List Bool × List Int) : List Bool × List Int := if nth s.1 (nth (nx a) i).toNat then s else overS nx n (nth (nx a) i) s
theorem overS_succ {nx : Int → List Int} {n : Nat} {a : Int} {s : List Bool × List Int} :
    overS nx (n + 1) a s = ((up (overStep nx n a) (nx a).length (s.1.set a.toNat true, s.2)).1, (up (overStep nx n a) (nx a).length (s.1.set a.toNat true, s.2)).2 ++ [a]) := rfl

def falses (t : List Bool) : Nat := t.count false
theorem falses_set {t : List Bool} {i : Nat} (hi : i < t.length) (hf : nth t i = false) : falses (t.set i true) + 1 = falses t := by
  rw [nth_eq hi] at hf
  unfold falses
  rw [List.count_set hi]
  have hp : 0 < t.count false := List.count_pos_iff.2 (hf ▸ List.getElem_mem hi)
  simp [hf]; omega
theorem falses_le {t : List Bool} {i : Nat} : falses (t.set i true) ≤ falses t := by
  rcases Nat.lt_or_ge i t.length with hi | hi
  · unfold falses
    rw [List.count_set hi]; simp
  · rw [List.set_eq_of_length_le hi]; exact Nat.le_refl _

theorem up_inv {β : Type} (I : β → Prop) {f : Nat → β → β} (hf : ∀ k x, I x → I (f k x)) (n : Nat) (x : β) (hx : I x) : I (up f n x) := by
  induction n with
  | zero => exact hx
  | succ n ih => rw [up]; exact hf _ _ ih
theorem overS_keeps {nx : Int → List Int} {m c : Nat} : ∀ (n : Nat) (a : Int) (s : List Bool × List Int), s.1.length = m ∧ falses s.1 ≤ c → (overS nx n a s).1.length = m ∧ falses (overS nx n a s).1 ≤ c
  | 0, _, _, h => h
  | n + 1, a, s, h => by
    rw [overS_succ]
    refine up_inv (fun s : List Bool × List Int => s.1.length = m ∧ falses s.1 ≤ c) (fun k x hx => ?_) _ _ ⟨by simpa using h.1, Nat.le_trans falses_le h.2⟩
    unfold overStep; split
    · exact hx
    · exact overS_keeps n _ x hx

/-- The walker's memory. -/
structure Wk (W : View) (h : Heap) (B : Nat) (vt vl : Value) (s : List Bool × List Int) : Prop where
  wle : W.le (vw h)
  box : h[B]? = some (.cells #[vt, vl] 73 (0, 0))
  wB : W B = none
  avt : Av W vt
  avl : Av W vl
  nt : vt.ownBlock ≠ some B
  nl : vl.ownBlock ≠ some B
  ne : vl.ownBlock = none ∨ vl.ownBlock ≠ vt.ownBlock
  ot : OwnT nothing h 4 vt s.1
  ol : OwnT nothing h 3 vl s.2
  nn : vt.ownBlock = none ∨ vt.ownBlock ≠ vl.ownBlock

theorem Wk.lt {W : View} {h : Heap} {B : Nat} {vt vl : Value} {s : List Bool × List Int} (k : Wk W h B vt vl s) : B < h.size := (Array.getElem?_eq_some_iff.1 k.box).1
theorem Wk.ext {W : View} {h h' : Heap} {B : Nat} {vt vl : Value} {s : List Bool × List Int} (k : Wk W h B vt vl s) (hle : (vw h).le (vw h')) : Wk W h' B vt vl s :=
  { k with wle := View.le_trans k.wle hle, box := hle _ _ k.box, ot := k.ot.ext hle, ol := k.ol.ext hle }
/-- What came new stands, too. -/
theorem Wk.grow {W : View} {h h' : Heap} {B : Nat} {vt vl : Value} {s : List Bool × List Int} (k : Wk W h B vt vl s) (hle : (vw h).le (vw h')) : Wk (grow W h h') h' B vt vl s :=
  { k.ext hle with
    wle := grow_le (View.le_trans k.wle hle)
    wB := by unfold Lft.grow; rw [if_pos k.lt]; exact k.wB
    avt := k.avt.grow fun _ hb => k.ot.lt hb
    avl := k.avl.grow fun _ hb => k.ol.lt hb }
theorem Wk.shrink {W W' : View} {h : Heap} {B : Nat} {vt vl : Value} {s : List Bool × List Int} (k : Wk W h B vt vl s) (hw : W'.le W) : Wk W' h B vt vl s :=
  { k with
    wle := View.le_trans hw k.wle
    wB := by cases hx : W' B with | none => rfl | some o => have := k.wB; rw [hw _ _ hx] at this; cases this
    avt := fun b hb => by cases hx : W' b with | none => rfl | some o => have := k.avt b hb; rw [hw _ _ hx] at this; cases this
    avl := fun b hb => by cases hx : W' b with | none => rfl | some o => have := k.avl b hb; rw [hw _ _ hx] at this; cases this }
/-- The flags are written. -/
theorem Wk.flag {W : View} {h h' : Heap} {B : Nat} {vt vl : Value} {s : List Bool × List Int} {t' : List Bool} (k : Wk W h B vt vl s) (o : OwnT nothing h' 4 vt t') (m : Moved h h' vt vt) : Wk W h' B vt vl (t', s.2) :=
  { k with
    wle := (m.view k.wle k.avt).1
    box := by rw [m.kept.block B k.lt (fun e => k.nt e.symm)]; exact k.box
    ot := o
    ol := k.ol.kept m.kept k.ne }
/-- One more is left, and the box says so. -/
theorem Wk.pushed {W : View} {h h' h'' : Heap} {B : Nat} {vt vl vl' : Value} {s : List Bool × List Int} {l' : List Int} (k : Wk W h B vt vl s) (o : OwnT nothing h' 3 vl' l') (m : Moved h h' vl vl') (hsz : h''.size = h'.size)
    (hB : h''[B]? = some (.cells #[vt, vl'] 73 (0, 0))) (hoth : ∀ j, j ≠ B → h''[j]? = h'[j]?) : Wk W h'' B vt vl' (s.1, l') := by
  obtain ⟨hw', ha'⟩ := m.view k.wle k.avl
  have hlt := k.lt
  have nl' : vl'.ownBlock ≠ some B := by
    rcases m.at_ with e | e
    · rw [e]; exact k.nl
    · rw [e]; intro e2; cases e2; omega
  have kep : Kept h' h'' (some B) := ⟨by omega, fun j _ hj => hoth j (fun e => hj (by rw [e]))⟩
  refine ⟨fun b x hb => ?_, hB, k.wB, k.avt, ha', k.nt, nl', ?_, ?_, ?_, ?_⟩
  · have hne : b ≠ B := fun e => by rw [e, k.wB] at hb; cases hb
    show h''[b]? = _
    rw [hoth b hne]; exact hw' b x hb
  · rcases m.at_ with e | e
    · rw [e]; exact k.ne
    · right; rw [e]; intro e2; have := k.ot.lt e2.symm; omega
  · exact (k.ot.kept m.kept k.nn).kept kep (.inr k.nt)
  · exact o.kept kep (.inr nl')
  · rcases m.at_ with e | e
    · rw [e]; exact k.nn
    · right; rw [e]; intro e2; have := k.ot.lt e2; omega
/-- The boxed pair, as one reads it. -/
theorem Wk.cell0 {W : View} {h : Heap} {B : Nat} {vt vl : Value} {s : List Bool × List Int} (k : Wk W h B vt vl s) : cellH (vw h) ⟨B, 0, none⟩ = some vt := by
  simp [cellH, vw, k.box]
theorem Wk.cell1 {W : View} {h : Heap} {B : Nat} {vt vl : Value} {s : List Bool × List Int} (k : Wk W h B vt vl s) : cellH (vw h) ⟨B, 1, none⟩ = some vl := by
  simp [cellH, vw, k.box]

theorem over_ok {g : Gr} {vg : Value} (hs : g.length ≤ 1000000) : ∀ (n : Nat) {M : Nat} {W : View} {h : Heap} {B : Nat} {vt vl : Value} {s : List Bool × List Int} {a : Int}, Wk W h B vt vl s → SlRd W vg g → 0 ≤ a → a < g.length → s.1.length = g.length → nth s.1 a.toNat = false →
    falses s.1 ≤ n → s.2.length + falses s.1 ≤ M → M ≤ 1000000 →
    HCalls Try.prog N.ref02_walker_over #[.pointer (some ⟨B, 0, none⟩), vg, .int .i64 a] h (fun _ h' => ∃ vl', Wk W h' B vt vl' (overS (nextS g) n a s) ∧ (overS (nextS g) n a s).2.length + falses (overS (nextS g) n a s).1 ≤ M)
  | 0, M, W, h, B, vt, vl, s, a, k, hg, h0, h1, hl, hf, hc, hb, hM => by
    exfalso
    have := falses_set (t := s.1) (i := a.toNat) (by omega) hf
    omega
  | n + 1, M, W, h, B, vt, vl, (t, l), a, k, hg, h0, h1, hl, hf, hc, hb, hM => by
    obtain ⟨i, rfl⟩ := Int.eq_ofNat_of_zero_le h0
    simp only at hl hf hc hb
    have hfs := falses_set (t := t) (i := i) (by omega) (by simpa using hf)
    refine calls_lift (args := [.pointer (some ⟨B, 0, none⟩), vg, .int .i64 i]) follows Try.func53 E.ref02_walker_over (by show 3 ≤ 51; decide) fun K hK => ?_
    have hnow : SlRd (vw h) vt t := k.ot.now (fun _ _ h => by cases h)
    simp (disch := omega) [L.ref02_walker_over, k.cell0, hnow.idx1 rfl]
    refine do_set (W := nothing) (i := i) (d := true) (by kernel_rfl) (by simp [show Rep.n Bool = 1 from rfl]) (by simp <;> rfl) k.ot (by simpa using by omega) rd_b fun h2 o2 m2 => ?_
    have k2 := k.flag o2 m2
    refine call_to (by kernel_rfl) (next_ok (hg.mono k2.wle) hs) ?_
    rintro r h3 ⟨hle3, hr⟩
    have k3 := k2.grow hle3
    have hr3 := hr.mono (fresh_grow W _ _)
    have hg3 := hg.mono (le_grow (h' := h3) k2.wle)
    have br := hr.bound
    generalize hW3 : grow W h2 h3 = W3 at k3 hr3 hg3
    have hov : overS (nextS g) (n + 1) i (t, l) = ((up (overStep (nextS g) n i) (nextS g i).length (t.set i true, l)).1, (up (overStep (nextS g) n i) (nextS g i).length (t.set i true, l)).2 ++ [(i : Int)]) := overS_succ
    rw [hov] at hK
    refine lwp_for [0, 1, 2, 6, 7] (fun (_ : Value) j => [.pointer (some ⟨B, 0, none⟩), vg, .int .i64 i, r, .int .i64 j]) (fun vl j h4 => Wk W3 h4 B vt vl (up (overStep (nextS g) n i) j (t.set i true, l)) ∧ (up (overStep (nextS g) n i) j (t.set i true, l)).2.length + falses (up (overStep (nextS g) n i) j (t.set i true, l)).1 ≤ M - 1) (nextS g i).length vl
      rfl (by omega) rfl ⟨k3, by simp [up]; omega⟩ (fun _ _ => rfl) (fun v j h4 hk m => by simp [hr.len]) ?_ ?_
    · rintro vl j h4 hltj ⟨k4, hb4⟩ K2 hK2
      have hinv := up_inv (fun s : List Bool × List Int => s.1.length = g.length ∧ falses s.1 ≤ n) (f := overStep (nextS g) n i) (fun k x hx => by
        unfold overStep; split
        · exact hx
        · exact overS_keeps n _ x hx) j (t.set i true, l) ⟨by simpa using hl, by simp only; omega⟩
      generalize hx : up (overStep (nextS g) n i) j (t.set i true, l) = x at k4 hb4 hinv
      obtain ⟨e0, e1⟩ := nextS_mem hltj
      have hr4 := hr3.mono k4.wle
      have hnow4 := k4.ot.now (fun _ _ h => by cases h)
      simp (disch := omega) [k4.cell0, hr4.idx1 rfl, hr4.int (View.le_refl _), hnow4.idx1 rfl, hnow4.bool (View.le_refl _), condP_bool]
      refine ⟨fun he => ?_, fun he => hK2 vl _ _ rfl rfl ?_⟩
      · refine call_to (by kernel_rfl) (over_ok hs n k4 hg3 e0 e1 hinv.1 he hinv.2 hb4 (by omega)) ?_
        rintro _ h5 ⟨vl', k5, hb5⟩
        have hst : up (overStep (nextS g) n i) (j + 1) (t.set i true, l) = overS (nextS g) n (nth (nextS g i) j) x := by rw [up, hx, overStep, he]; rfl
        refine hK2 vl' _ _ rfl rfl ?_
        rw [hst]
        exact ⟨k5, hb5⟩
      · have hst : up (overStep (nextS g) n i) (j + 1) (t.set i true, l) = x := by rw [up, hx, overStep, he]; rfl
        rw [hst]; exact ⟨k4, hb4⟩
    · rintro vl h4 ⟨k4, hb4⟩
      generalize hx : up (overStep (nextS g) n i) (nextS g i).length (t.set i true, l) = x at k4 hb4 hK
      simp [k4.cell1]
      refine do_one (α := Int) (W := nothing) elem23 (by simp <;> rfl) (rd_i (by omega) (by omega)) fun u h5 hsrc hle5 _ => ?_
      have k5 := k4.ext hle5
      refine do_append elem23 (by simp) (by simp) k5.ol hsrc (by simp; omega) (by simp; omega) fun vl' h6 o6 m6 => ?_
      have hB6 : h6[B]? = some (.cells #[vt, vl] 73 (0, 0)) := by rw [m6.kept.block B k5.lt (fun e => k5.nl e.symm)]; exact k5.box
      have hcells : vl'.cells = #[vl'] := by
        have := o6.len (K := nothing)
        cases vl' <;> first | rfl | (simp [Un.ev, vL] at this)
      have hone : vl'.oneCell' = true := by
        have := o6.len (K := nothing)
        cases vl' <;> first | rfl | (simp [Un.ev, vL] at this)
      refine do_store (g := B) (o := 1) (n := 1) (v := vl') (by kernel_rfl) (by simp) (by simp) (by rw [hcells]; rfl) (by rw [hcells]; simpa using hone) hB6 (by simp) fun h7 hsz7 ⟨row, hrow, he⟩ hoth => hK _ _ ⟨vl', ?_, ?_⟩
      · have hrow2 : row = #[vt, vl'] := by rw [← Array.toList_inj, he, hcells]; rfl
        rw [hrow2] at hrow
        exact (k5.pushed o6 m6 hsz7 hrow hoth).shrink (by rw [← hW3]; exact le_grow k2.wle)
      · simp; omega

def orderS (nx : Int → List Int) (n : Nat) : List Int := if n = 0 then [] else (overS nx n 0 (List.replicate n false, [])).2.reverse

theorem cells_of_own {α : Type} [Rep α] {W : View} {h : Heap} {e : TypeId} {v : Value} {l : List α} (o : OwnT W h e v l) : v.cells = #[v] ∧ v.oneCell' = true := by
  have := o.len (K := nothing)
  cases v <;> first | exact ⟨rfl, rfl⟩ | (simp [Un.ev, vL] at this)

theorem refOrder_ok {g : Gr} {vg : Value} {h : Heap} (hg : SlRd (vw h) vg g) (hs : g.length ≤ 1000000) :
    HCalls Try.prog N.ref02_Order #[vg] h (fun v h' => (vw h).le (vw h') ∧ SlRd (fresh h h') v (orderS (nextS g) g.length)) := by
  refine calls_lift (args := [vg]) follows Try.func36 E.ref02_Order (by show 1 ≤ 38; decide) fun K hK => ?_
  simp [L.ref02_Order, hg.len]
  refine ⟨fun h0 => ?_, fun h0 => ?_⟩
  · exact hK _ _ ⟨View.le_refl _, ⟨none, 0, by simp [orderS, h0], by simp [orderS, h0], by simp [orderS, h0], .inl (by simp [orderS, h0])⟩⟩
  · have hlen : g.length ≠ 0 := by simpa using h0
    refine do_make (W := nothing) (n := g.length) (d := false) elem32 (by simp <;> rfl) (by simp <;> rfl) rfl (by omega) (by omega) fun v h1 o1 m1 hle1 hb1 => ?_
    obtain ⟨hcells, hone⟩ := cells_of_own o1
    refine do_build (z := .agg #[.slice none 0 0, .slice none 0 0]) (places := [(0, 1), (1, 1)]) (vs := [(0, v)]) (cs := #[v, .slice none 0 0]) (by kernel_rfl) (by kernel_rfl) (by simp) (by simp [Instr.fill, hcells]) ?_
    refine do_box (v := .agg #[v, .slice none 0 0]) (by simp) ?_
    have hle2 : (vw h).le (vw (h1.push (.cells #[v, .slice none 0 0] 73))) := View.le_trans hle1 (push_le _ _)
    have hsz1 : h.size < h1.size := by
      have := o1.lt hb1; omega
    have hB : (h1.push (.cells #[v, .slice none 0 0] 73))[h1.size]? = some (.cells #[v, .slice none 0 0] 73 (0, 0)) := by simp
    have k2 : Wk (vw h) (h1.push (.cells #[v, .slice none 0 0] 73)) h1.size v (.slice none 0 0) (List.replicate g.length false, []) :=
      ⟨hle2, hB, View.none_of_ge (View.le_refl _) (by omega), fun b hb => by rw [hb1] at hb; cases hb; exact View.none_of_ge (View.le_refl _) (Nat.le_refl _), Av.nil _ _ _, by rw [hb1]; intro e; simp only [Option.some.injEq] at e; omega, by simp [Value.ownBlock], .inl rfl, o1.ext (push_le _ _), OwnT.nil .., .inr (by rw [hb1]; simp [Value.ownBlock])⟩
    have hfa : falses (List.replicate g.length false) = g.length := by simp [falses]
    simp
    refine call_to (by kernel_rfl) (over_ok hs g.length (M := g.length) k2 hg (by omega) (by omega) (by simp) (by rw [nth_eq (by simp; omega)]; simp) (by rw [hfa]; exact Nat.le_refl _) (by simp [hfa]) (by omega)) ?_
    rintro _ h3 ⟨vl, k3, hb3⟩
    have hord : orderS (nextS g) g.length = (overS (nextS g) g.length 0 (List.replicate g.length false, [])).2.reverse := by simp [orderS, h0]
    rw [hord] at hK
    generalize overS (nextS g) g.length 0 (List.replicate g.length false, []) = s at k3 hb3 hK
    have hvl := k3.ol.now (fun _ _ h => by cases h)
    have c1 := k3.cell1
    simp (disch := omega) [c1, hvl.len]
    refine lwp_loop [0, 3, 4, 5] (fun n ρ h4 => ∃ (k : Nat) (u : Value), k ≤ s.2.length ∧ ρ = [(0, vg), (3, .pointer (some ⟨h1.size, 0, none⟩)), (4, u), (5, .int .i64 ((s.2.length : Int) - 1 - k))] ∧ n = s.2.length - k ∧ Mine nothing h3 h4 nothing 3 u (s.2.reverse.take k)) s.2.length
      ⟨0, _, by omega, by simp [keepE, look], rfl, Mine.start (fun _ _ h => by cases h)⟩ ?_
    rintro n ρ h4 ⟨k, u, hk, rfl, rfl, m⟩ K2 hK2
    have c4 := cellH_mono m.old c1
    have hv4 := hvl.mono m.old
    by_cases hlt : k < s.2.length
    · have hrev : s.2.reverse.take (k + 1) = s.2.reverse.take k ++ [nth s.2 (s.2.length - 1 - k)] := by
        rw [List.take_succ_eq_append_getElem (by simpa using hlt), List.getElem_reverse, nth_eq (by omega)]
      simp (disch := omega) [L.ref02_Order.l1, c4, hv4.idx1 rfl, hv4.int (View.le_refl _), show (k : Int) ≤ (s.2.length : Int) - 1 by omega]
      have hr := hv4.range (i := s.2.length - 1 - k) (by omega)
      refine m.push elem23 (by simp <;> rfl) (rd_i hr.1 hr.2) (by simp; omega) (by simp; omega) (fun _ => by simp) (fun _ => by simp) fun u' v' h5 m' => hK2 _ _ _ ?_ ⟨k + 1, v', hlt, ?_, rfl, by rw [hrev]; exact m'⟩
      · omega
      · simp [keepE, look]; omega
    · have hkk : k = s.2.length := by omega
      subst hkk
      have hneg : ¬ ((s.2.length : Int) ≤ (s.2.length : Int) - 1) := by omega
      simp [L.ref02_Order.l1, hneg]
      have htk : s.2.reverse.take s.2.length = s.2.reverse := by rw [List.take_of_length_le (by simp)]
      rw [htk] at m
      exact hK _ _ ⟨View.le_trans k3.wle m.old, m.fresh.mono (fresh_from k3.wle)⟩
end Go.Proofs.Ytaebcebflfgdiaa

/-
  DERIVED: THE SHELF's CONTRACTS AT THIS DUMP, IN PLAIN WORDS (tools/lay-plain.mjs out of 'TryShelf.lean', which tools/lay-shelf.mjs wrote): THE SAME DECLARATIONS UNDER THE SAME NAMES: 'import', 'namespace', 'open', 'def', 'theorem' AND NOTHING ELSE: no command of the shelf's: FOR A HAND-IN. Each laying: the table of numbers ('.._ren') and one theorem, a field a fact of the dump's own or the kernel's comparison; each contract: ONE APPLICATION.
-/
namespace Go.Proofs
open Go.Shelf
def Try.lays128_ren : Go.Shelf.Ren := ⟨fun | 128 => 67 | n => n, fun | 51 => 86 | 3 => 3 | 4 => 4 | 46 => 77 | 5 => 5 | 9 => 9 | n => n, fun | n => n⟩
theorem Try.lays128 : Go.Proofs.Lays.n128 Try.prog Try.lays128_ren := {
  mixed := by kernel_rfl
  f128 := Try.func67.trans (congrArg some (by kernel_rfl))
  t3 := Try.underlying3
  a3 := Try.isAgg3
  z3 := Try.sizeOf3
  v3 := Try.zeroValue3
  t4 := Try.underlying4
  a4 := Try.isAgg4
  z4 := Try.sizeOf4
  v4 := Try.zeroValue4
  t5 := Try.underlying5
  a5 := Try.isAgg5
  z5 := Try.sizeOf5
  v5 := Try.zeroValue5
  t9 := Try.underlying9
  a9 := Try.isAgg9
  z9 := Try.sizeOf9
  v9 := Try.zeroValue9
  t46 := Try.underlying77
  a46 := Try.isAgg77
  z46 := Try.sizeOf77
  v46 := Try.zeroValue77
  t51 := Try.underlying86
  a51 := Try.isAgg86
  z51 := Try.sizeOf86
  v51 := Try.zeroValue86 }
/-- bits.Len32: "Len32 returns the minimum number of bits required to represent x; the result is 0 for x == 0.": IT RETURNS 'Lib.bitLen x'; the world is as it was. ('h0', 'h1': x is a uint32.) (LAID: no walk: one application.) -/
theorem Try.bits_Len32 (x : Int) (w : World) (h0 : 0 ≤ x) (h1 : x ≤ 4294967295) :
    Calls Try.prog 67 #[.int .u32 x] w fun e w' => e = .returned (.int .i64 (Lib.bitLen x.toNat)) ∧ w' = w := Any.bits_Len32 Try.lays128 x w h0 h1
def Try.lays125_ren : Go.Shelf.Ren := ⟨fun | 125 => 57 | 128 => 67 | 129 => 68 | n => n, fun | 46 => 77 | 3 => 3 | 51 => 86 | 53 => 88 | 4 => 4 | 5 => 5 | 9 => 9 | n => n, fun | n => n⟩
theorem Try.lays125 : Go.Proofs.Lays.n125 Try.prog Try.lays125_ren := {
  mixed := by kernel_rfl
  f125 := Try.func57.trans (congrArg some (by kernel_rfl))
  f128 := Try.func67.trans (congrArg some (by kernel_rfl))
  f129 := Try.func68.trans (congrArg some (by kernel_rfl))
  t3 := Try.underlying3
  a3 := Try.isAgg3
  z3 := Try.sizeOf3
  v3 := Try.zeroValue3
  t4 := Try.underlying4
  a4 := Try.isAgg4
  z4 := Try.sizeOf4
  v4 := Try.zeroValue4
  t5 := Try.underlying5
  a5 := Try.isAgg5
  z5 := Try.sizeOf5
  v5 := Try.zeroValue5
  t9 := Try.underlying9
  a9 := Try.isAgg9
  z9 := Try.sizeOf9
  v9 := Try.zeroValue9
  t46 := Try.underlying77
  a46 := Try.isAgg77
  z46 := Try.sizeOf77
  v46 := Try.zeroValue77
  t51 := Try.underlying86
  a51 := Try.isAgg86
  z51 := Try.sizeOf86
  v51 := Try.zeroValue86
  t53 := Try.underlying88
  a53 := Try.isAgg88
  z53 := Try.sizeOf88
  v53 := Try.zeroValue88 }
/-- bits.Len: "Len returns the minimum number of bits required to represent x; the result is 0 for x == 0.": IT RETURNS 'Lib.bitLen x'; the world is as it was. (A uint has 64 bits in the model.) ITS CALLEE bits.Len64 IS MET BY ITS OWN CONTRACT OFF THE SHELF (lay that first). (LAID: no walk: one application.) -/
theorem Try.bits_Len (x : Int) (w : World) (h0 : 0 ≤ x) (h1 : x ≤ 18446744073709551615) :
    Calls Try.prog 57 #[.int .u64 x] w fun e w' => e = .returned (.int .i64 (Lib.bitLen x.toNat)) ∧ w' = w := Any.bits_Len Try.lays125 x w h0 h1
def Try.lays129_ren : Go.Shelf.Ren := ⟨fun | 129 => 68 | n => n, fun | 53 => 88 | 3 => 3 | 4 => 4 | 46 => 77 | 5 => 5 | 9 => 9 | n => n, fun | n => n⟩
theorem Try.lays129 : Go.Proofs.Lays.n129 Try.prog Try.lays129_ren := {
  mixed := by kernel_rfl
  f129 := Try.func68.trans (congrArg some (by kernel_rfl))
  t3 := Try.underlying3
  a3 := Try.isAgg3
  z3 := Try.sizeOf3
  v3 := Try.zeroValue3
  t4 := Try.underlying4
  a4 := Try.isAgg4
  z4 := Try.sizeOf4
  v4 := Try.zeroValue4
  t5 := Try.underlying5
  a5 := Try.isAgg5
  z5 := Try.sizeOf5
  v5 := Try.zeroValue5
  t9 := Try.underlying9
  a9 := Try.isAgg9
  z9 := Try.sizeOf9
  v9 := Try.zeroValue9
  t46 := Try.underlying77
  a46 := Try.isAgg77
  z46 := Try.sizeOf77
  v46 := Try.zeroValue77
  t53 := Try.underlying88
  a53 := Try.isAgg88
  z53 := Try.sizeOf88
  v53 := Try.zeroValue88 }
/-- bits.Len64: "Len64 returns the minimum number of bits required to represent x; the result is 0 for x == 0.": IT RETURNS 'Lib.bitLen x'; the world is as it was. ('h0', 'h1': x is a uint64.) (LAID: no walk: one application.) -/
theorem Try.bits_Len64 (x : Int) (w : World) (h0 : 0 ≤ x) (h1 : x ≤ 18446744073709551615) :
    Calls Try.prog 68 #[.int .u64 x] w fun e w' => e = .returned (.int .i64 (Lib.bitLen x.toNat)) ∧ w' = w := Any.bits_Len64 Try.lays129 x w h0 h1
def Try.lays189_ren : Go.Shelf.Ren := ⟨fun | 189 => 50 | 125 => 57 | 257 => 56 | 128 => 67 | 129 => 68 | 294 => 58 | 295 => 59 | 296 => 60 | 297 => 61 | 298 => 62 | 299 => 63 | 216 => 64 | 300 => 65 | 301 => 66 | 328 => 69 | 329 => 70 | 330 => 71 | 331 => 72 | 332 => 73 | 215 => 74 | 343 => 75 | n => n, fun | 28 => 23 | 3 => 3 | 46 => 77 | 0 => 0 | 51 => 86 | 53 => 88 | 4 => 4 | 183 => 80 | 182 => 79 | 131 => 83 | 5 => 5 | 9 => 9 | 218 => 89 | 222 => 93 | 228 => 95 | 229 => 96 | n => n, fun | n => n⟩
theorem Try.lays189 : Go.Proofs.Lays.n189 Try.prog Try.lays189_ren := {
  mixed := by kernel_rfl
  f125 := Try.func57.trans (congrArg some (by kernel_rfl))
  f128 := Try.func67.trans (congrArg some (by kernel_rfl))
  f129 := Try.func68.trans (congrArg some (by kernel_rfl))
  f189 := Try.func50.trans (congrArg some (by kernel_rfl))
  f215 := Try.func74.trans (congrArg some (by kernel_rfl))
  f216 := Try.func64.trans (congrArg some (by kernel_rfl))
  f257 := Try.func56.trans (congrArg some (by kernel_rfl))
  f294 := Try.func58.trans (congrArg some (by kernel_rfl))
  f295 := Try.func59.trans (congrArg some (by kernel_rfl))
  f296 := Try.func60.trans (congrArg some (by kernel_rfl))
  f297 := Try.func61.trans (congrArg some (by kernel_rfl))
  f298 := Try.func62.trans (congrArg some (by kernel_rfl))
  f299 := Try.func63.trans (congrArg some (by kernel_rfl))
  f300 := Try.func65.trans (congrArg some (by kernel_rfl))
  f301 := Try.func66.trans (congrArg some (by kernel_rfl))
  f328 := Try.func69.trans (congrArg some (by kernel_rfl))
  f329 := Try.func70.trans (congrArg some (by kernel_rfl))
  f330 := Try.func71.trans (congrArg some (by kernel_rfl))
  f331 := Try.func72.trans (congrArg some (by kernel_rfl))
  f332 := Try.func73.trans (congrArg some (by kernel_rfl))
  f343 := Try.func75.trans (congrArg some (by kernel_rfl))
  t0 := Try.underlying0
  a0 := Try.isAgg0
  z0 := Try.sizeOf0
  v0 := Try.zeroValue0
  t3 := Try.underlying3
  a3 := Try.isAgg3
  z3 := Try.sizeOf3
  v3 := Try.zeroValue3
  t4 := Try.underlying4
  a4 := Try.isAgg4
  z4 := Try.sizeOf4
  v4 := Try.zeroValue4
  t5 := Try.underlying5
  a5 := Try.isAgg5
  z5 := Try.sizeOf5
  v5 := Try.zeroValue5
  t9 := Try.underlying9
  a9 := Try.isAgg9
  z9 := Try.sizeOf9
  v9 := Try.zeroValue9
  t28 := Try.underlying23
  a28 := Try.isAgg23
  z28 := Try.sizeOf23
  v28 := Try.zeroValue23
  t46 := Try.underlying77
  a46 := Try.isAgg77
  z46 := Try.sizeOf77
  v46 := Try.zeroValue77
  t51 := Try.underlying86
  a51 := Try.isAgg86
  z51 := Try.sizeOf86
  v51 := Try.zeroValue86
  t53 := Try.underlying88
  a53 := Try.isAgg88
  z53 := Try.sizeOf88
  v53 := Try.zeroValue88
  t131 := Try.underlying83
  a131 := Try.isAgg83
  z131 := Try.sizeOf83
  v131 := Try.zeroValue83
  t182 := Try.underlying79
  a182 := Try.isAgg79
  z182 := Try.sizeOf79
  v182 := Try.zeroValue79
  t183 := Try.underlying80
  a183 := Try.isAgg80
  z183 := Try.sizeOf80
  v183 := Try.zeroValue80
  t218 := Try.underlying89
  a218 := Try.isAgg89
  z218 := Try.sizeOf89
  v218 := Try.zeroValue89
  t222 := Try.underlying93
  a222 := Try.isAgg93
  z222 := Try.sizeOf93
  v222 := Try.zeroValue93
  t228 := Try.underlying95
  a228 := Try.isAgg95
  z228 := Try.sizeOf95
  v228 := Try.zeroValue95
  t229 := Try.underlying96
  a229 := Try.isAgg96
  z229 := Try.sizeOf96
  v229 := Try.zeroValue96 }
open Go.Sort Go.RowKit in
theorem Try.slices_Sort_int (blk off cap : Nat) (zs : List Int) (w : World) (hH : Holds (Value.int .i64) w blk off zs.toArray) (hblk : blk < w.heap.size) (hsz : zs.length < 4611686018427387904) :
    Calls Try.prog 50 #[.slice (some ⟨blk, off, none⟩) zs.length cap] w fun e w' =>
      e = .returned (.tuple #[]) ∧ ∃ n os, w' = grow (putRow (Value.int .i64) (Sort.ahead w n) blk off (zs.mergeSort fun x y => decide (x ≤ y)).toArray) os := Any.slices_Sort_int Try.lays189 blk off cap zs w hH hblk hsz
def Try.lays112_ren : Go.Shelf.Ren := ⟨fun | 112 => 44 | n => n, fun | 28 => 23 | 3 => 3 | 4 => 4 | 0 => 0 | n => n, fun | n => n⟩
theorem Try.lays112 : Go.Proofs.Lays.n112 Try.prog Try.lays112_ren := {
  mixed := by kernel_rfl
  f112 := Try.func44.trans (congrArg some (by kernel_rfl))
  t0 := Try.underlying0
  a0 := Try.isAgg0
  z0 := Try.sizeOf0
  v0 := Try.zeroValue0
  t3 := Try.underlying3
  a3 := Try.isAgg3
  z3 := Try.sizeOf3
  v3 := Try.zeroValue3
  t4 := Try.underlying4
  a4 := Try.isAgg4
  z4 := Try.sizeOf4
  v4 := Try.zeroValue4
  t28 := Try.underlying23
  a28 := Try.isAgg23
  z28 := Try.sizeOf23
  v28 := Try.zeroValue23 }
open Go.RowKit Go.Lib Go.Sort in
/-- slices.Reverse at []int, over an array: Go's loop from the two ends inward is walked; it makes 'Sort.reverseLoop 0 (len - 1)', which is 'Array.reverse' (Derived/Lib/SlicesMore.lean). (LAID: no walk: one application.) -/
theorem Try.slices_Reverse_int_arr (blk off cap : Nat) (d : Array Int) (w : World) (hH : Holds encI w blk off d) (hsz : d.size ≤ 9223372036854775807) :
    Calls Try.prog 44 #[.slice (some ⟨blk, off, none⟩) d.size cap] w fun e w' => e = .returned (.tuple #[]) ∧ ∃ n, w' = putRow encI (Sort.ahead w n) blk off d.reverse := Any.slices_Reverse_int_arr Try.lays112 blk off cap d w hH hsz
open Go.RowKit Go.Lib Go.Sort in
/-- slices.Reverse at []int: "Reverse reverses the elements of the slice in place.": THE SLICE's CELLS HOLD 'zs.reverse' BEHIND THE CALL; all else is as it was, but for the count of draws (the exchange 's[i], s[j] = s[j], s[i]' draws its order, once a round). IN THE WORDS OF slices.Sort's CONTRACT: 'Holds': the cells hold zs and none is frozen; 'putRow': the world with those cells holding another array. A slice of length 0 that is not nil is among them ('zs = []'); nil: '.._nil'. (LAID: no walk: one application.) -/
theorem Try.slices_Reverse_int (blk off cap : Nat) (zs : List Int) (w : World) (hH : Holds (Value.int .i64) w blk off zs.toArray) (hsz : zs.length ≤ 9223372036854775807) :
    Calls Try.prog 44 #[.slice (some ⟨blk, off, none⟩) zs.length cap] w fun e w' => e = .returned (.tuple #[]) ∧ ∃ n, w' = putRow (Value.int .i64) (Sort.ahead w n) blk off zs.reverse.toArray := Any.slices_Reverse_int Try.lays112 blk off cap zs w hH hsz
open Go.RowKit Go.Lib Go.Sort in
/-- The same at a slice of length 0, a nil one too: nothing is read, nothing written, nothing drawn. (LAID: no walk: one application.) -/
theorem Try.slices_Reverse_int_empty (a : Option Addr) (cap : Nat) (w : World) :
    Calls Try.prog 44 #[.slice a 0 cap] w fun e w' => e = .returned (.tuple #[]) ∧ w' = w := Any.slices_Reverse_int_empty Try.lays112 a cap w
def Try.laysNm220_ren : Go.Shelf.Ren := ⟨fun | 20 => 51 | n => n, fun | 22 => 23 | 3 => 3 | 4 => 4 | 0 => 0 | n => n, fun | n => n⟩
theorem Try.laysNm220 : Go.Proofs.Lays2.n20 Try.prog Try.laysNm220_ren := {
  mixed := by kernel_rfl
  f20 := Try.func51.trans (congrArg some (by kernel_rfl))
  t0 := Try.underlying0
  a0 := Try.isAgg0
  z0 := Try.sizeOf0
  v0 := Try.zeroValue0
  t3 := Try.underlying3
  a3 := Try.isAgg3
  z3 := Try.sizeOf3
  v3 := Try.zeroValue3
  t4 := Try.underlying4
  a4 := Try.isAgg4
  z4 := Try.sizeOf4
  v4 := Try.zeroValue4
  t22 := Try.underlying23
  a22 := Try.isAgg23
  z22 := Try.sizeOf23
  v22 := Try.zeroValue23
  i3 := by kernel_rfl }
open Go.RowKit Go.Lib Go.Sort in
/-- slices.Compact at []int, over an array: the library's two loops are walked. (LAID: no walk: one application.) -/
theorem Try.slices_Compact_int_arr (blk off cap : Nat) (d : Array Int) (w : World) (hH : Holds encI w blk off d) (hsz : d.size ≤ 9223372036854775807) (hcap : d.size ≤ cap) :
    Calls Try.prog 51 #[.slice (some ⟨blk, off, none⟩) d.size cap] w fun e w' => e = .returned (.slice (some ⟨blk, off, none⟩) (compactUpTo d d.size).length cap) ∧ ∃ q, w' = putRow encI (Sort.ahead w q) blk off (compactUpTo d d.size ++ List.replicate (d.size - (compactUpTo d d.size).length) 0).toArray := Any.slices_Compact_int_arr Try.laysNm220 blk off cap d w hH hsz hcap
open Go.RowKit Go.Lib Go.Sort in
/-- slices.Compact at []int: "Compact replaces consecutive runs of equal elements with a single copy. This is like the uniq command found on Unix. Compact modifies the contents of the slice s and returns the modified slice, which may have a smaller length. Compact zeroes the elements between the new length and the original length. The result preserves the nilness of s.": IT RETURNS THE SLICE CUT TO 'Lib.compact zs'; ITS CELLS HOLD 'Lib.compact zs', THEN ZERO VALUES up to the old length; all else is as it was, but for the count of draws. IN THE WORDS OF slices.Sort's CONTRACT ('Holds', 'putRow'): so the everyday 'slices.Sort(xs); xs = slices.Compact(xs)' goes from the one contract to the other. It asks 'zs.length ≤ cap' (every slice's: the reslicing 's[:k]' looks at it). Length 0, nil: '.._empty'. (LAID: no walk: one application.) -/
theorem Try.slices_Compact_int (blk off cap : Nat) (zs : List Int) (w : World) (hH : Holds (Value.int .i64) w blk off zs.toArray) (hsz : zs.length ≤ 9223372036854775807) (hcap : zs.length ≤ cap) :
    Calls Try.prog 51 #[.slice (some ⟨blk, off, none⟩) zs.length cap] w fun e w' => e = .returned (.slice (some ⟨blk, off, none⟩) (Lib.compact zs).length cap) ∧ ∃ q, w' = putRow (Value.int .i64) (Sort.ahead w q) blk off (Lib.compact zs ++ List.replicate (zs.length - (Lib.compact zs).length) 0).toArray := Any.slices_Compact_int Try.laysNm220 blk off cap zs w hH hsz hcap
open Go.RowKit Go.Lib Go.Sort in
/-- The same at a slice of length 0, a nil one too: it comes back as it is. (LAID: no walk: one application.) -/
theorem Try.slices_Compact_int_empty (a : Option Addr) (cap : Nat) (w : World) :
    Calls Try.prog 51 #[.slice a 0 cap] w fun e w' => e = .returned (.slice a 0 cap) ∧ w' = w := Any.slices_Compact_int_empty Try.laysNm220 a cap w
def Try.laysNm237_ren : Go.Shelf.Ren := ⟨fun | 37 => 74 | n => n, fun | 3 => 3 | 4 => 4 | n => n, fun | n => n⟩
theorem Try.laysNm237 : Go.Proofs.Lays2.n37 Try.prog Try.laysNm237_ren := {
  mixed := by kernel_rfl
  f37 := Try.func74.trans (congrArg some (by kernel_rfl))
  t3 := Try.underlying3
  a3 := Try.isAgg3
  z3 := Try.sizeOf3
  v3 := Try.zeroValue3
  t4 := Try.underlying4
  a4 := Try.isAgg4
  z4 := Try.sizeOf4
  v4 := Try.zeroValue4 }
open Go.RowKit Go.Lib in
/-- cmp.isNaN[int]: 'x != x': false. (LAID: no walk: one application.) -/
theorem Try.cmp_isNaN_int2 (x : Int) (w : World) :
    Calls Try.prog 74 #[.int .i64 x] w fun e w' => e = .returned (.bool false) ∧ w' = w := Any.cmp_isNaN_int2 Try.laysNm237 x w
def Try.laysNm231_ren : Go.Shelf.Ren := ⟨fun | 31 => 64 | 37 => 74 | n => n, fun | 3 => 3 | 4 => 4 | n => n, fun | n => n⟩
theorem Try.laysNm231 : Go.Proofs.Lays2.n31 Try.prog Try.laysNm231_ren := {
  mixed := by kernel_rfl
  f31 := Try.func64.trans (congrArg some (by kernel_rfl))
  f37 := Try.func74.trans (congrArg some (by kernel_rfl))
  t3 := Try.underlying3
  a3 := Try.isAgg3
  z3 := Try.sizeOf3
  v3 := Try.zeroValue3
  t4 := Try.underlying4
  a4 := Try.isAgg4
  z4 := Try.sizeOf4
  v4 := Try.zeroValue4 }
open Go.RowKit Go.Lib in
/-- cmp.Less[int]: "Less reports whether x is less than y.": 'x < y'; the world is as it was. (LAID: no walk: one application.) -/
theorem Try.cmp_Less_int2 (x y : Int) (w : World) :
    Calls Try.prog 64 #[.int .i64 x, .int .i64 y] w fun e w' => e = .returned (.bool (decide (x < y))) ∧ w' = w := Any.cmp_Less_int2 Try.laysNm231 x y w
open Go.RowKit Go.Lib Go.Sort in
/-- slices.Reverse at []int, of an argument: the n cells hold the elements in reverse. (LAID: no walk: one application.) -/
theorem Try.slices_Reverse_int_cells (b off n c : Nat) (zs : List Int) (w : World) (hz : n ≤ zs.length) (hbig : n ≤ 9223372036854775807) (hc : ∀ j, j < zs.length → w.cell? ⟨b, off + j, none⟩ = some (.int .i64 (zs.getD j 0))) (hf : ∀ j, j < n → w.frozen? ⟨b, off + j, none⟩ = false) :
    Calls Try.prog 44 #[.slice (some ⟨b, off, none⟩) n c] w fun e w' => e = .returned (.tuple #[]) ∧ ∃ q, w' = (w.drewN q).setCells b off ((zs.take n).reverse.map (Value.int .i64)) := Any.slices_Reverse_int_cells Try.lays112 b off n c zs w hz hbig hc hf
open Go.RowKit Go.Lib Go.Sort in
/-- slices.Compact at []int, of an argument: the slice cut to 'Lib.compact (elements)'; the n cells hold that, then zeros. (LAID: no walk: one application.) -/
theorem Try.slices_Compact_int_cells (b off n c : Nat) (zs : List Int) (w : World) (hz : n ≤ zs.length) (hbig : n ≤ 9223372036854775807) (hcap : n ≤ c) (hc : ∀ j, j < zs.length → w.cell? ⟨b, off + j, none⟩ = some (.int .i64 (zs.getD j 0))) (hf : ∀ j, j < n → w.frozen? ⟨b, off + j, none⟩ = false) :
    Calls Try.prog 51 #[.slice (some ⟨b, off, none⟩) n c] w fun e w' => e = .returned (.slice (some ⟨b, off, none⟩) (Lib.compact (zs.take n)).length c) ∧ ∃ q, w' = (w.drewN q).setCells b off ((Lib.compact (zs.take n) ++ List.replicate (n - (Lib.compact (zs.take n)).length) 0).map (Value.int .i64)) := Any.slices_Compact_int_cells Try.laysNm220 b off n c zs w hz hbig hcap hc hf
open Go.RowKit Go.Sort in
/-- .. and plain. (LAID: no walk: one application.) -/
theorem Try.slices_Sort_int_none (p : Option Addr) (cap : Nat) (w : World) :
    Calls Try.prog 50 #[.slice p 0 cap] w fun e w' => e = .returned (.tuple #[]) ∧ w' = w := Any.slices_Sort_int_none Try.lays189 p cap w
end Go.Proofs

namespace Go.Proofs.Ytaebcebflfgdiaa
open Go Go.Lft
set_option linter.unusedSimpArgs false
set_option linter.unusedVariables false

def I64 (x : Int) : Prop := -9223372036854775808 ≤ x ∧ x ≤ 9223372036854775807

/-- A slice of numbers of one's own, by its cells. -/
theorem own_int {W : View} {h : Heap} {e : TypeId} {v : Value} {l : List Int} : OwnT W h e v l ↔ l.length ≤ 140737488355328 ∧ (∀ x ∈ l, I64 x) ∧ ((v = .slice none 0 0 ∧ l = []) ∨
    ∃ g cap cur, v = .slice (some ⟨g, 0, none⟩) l.length cap ∧ h[g]? = some (.cells cur e (0, 0)) ∧ l.length ≤ cap ∧ cap ≤ maxLen ∧ cur.size = cap ∧ cur.toList.take l.length = l.map (.int .i64)) := by
  have hn : Rep.n Int = 1 := rfl
  constructor
  · rintro ⟨hb, xs, ⟨hl, hown⟩, hel⟩
    rw [hn, Nat.mul_one] at hl
    have hel' : ∀ (i : Nat) (hi : i < l.length), xs[i]? = some (.int .i64 l[i]) ∧ I64 l[i] := fun i hi => by
      obtain ⟨h1, h2⟩ := hel i hi
      rw [hn, Nat.mul_one] at h1
      have : (xs.drop i).take 1 = [.int .i64 l[i]] := h1
      have h3 : ((xs.drop i).take 1)[0]? = some (.int .i64 l[i]) := by rw [this]; rfl
      rw [List.getElem?_take, if_pos (by decide), List.getElem?_drop] at h3
      exact ⟨by simpa using h3, h2⟩
    have hxs : xs = l.map (.int .i64) := by
      refine List.ext_getElem? fun i => ?_
      rcases Nat.lt_or_ge i l.length with hi | hi
      · rw [(hel' i hi).1]; simp [hi]
      · rw [List.getElem?_eq_none (by omega), List.getElem?_eq_none (by simpa using hi)]
    refine ⟨hb, fun x hx => ?_, ?_⟩
    · obtain ⟨i, hi, rfl⟩ := List.getElem_of_mem hx
      exact (hel' i hi).2
    · rcases hown with ⟨rfl, h0⟩ | ⟨g, cap, cur, rfl, hg, h1, h2, h3, h4⟩
      · exact .inl ⟨rfl, List.eq_nil_of_length_eq_zero h0⟩
      · rw [hn, Nat.mul_one] at h3 h4
        exact .inr ⟨g, cap, cur, rfl, hg, h1, h2, h3, by rw [h4, hxs]⟩
  · rintro ⟨hb, hr, hown⟩
    refine ⟨hb, l.map (.int .i64), ⟨by rw [hn]; simp, ?_⟩, fun i hi => ?_⟩
    · rcases hown with ⟨rfl, rfl⟩ | ⟨g, cap, cur, rfl, hg, h1, h2, h3, h4⟩
      · exact .inl ⟨rfl, rfl⟩
      · exact .inr ⟨g, cap, cur, rfl, hg, h1, h2, by rw [hn, Nat.mul_one]; exact h3, by rw [hn, Nat.mul_one]; exact h4⟩
    · rw [hn, Nat.mul_one]
      refine ⟨?_, hr _ (List.getElem_mem hi)⟩
      refine List.ext_getElem? fun j => ?_
      rw [List.getElem?_take]
      rcases Nat.lt_or_ge j 1 with hj | hj
      · have : j = 0 := by omega
        subst this
        simp [hi]
      · rw [if_neg (by omega)]; simp; omega

theorem holds_own {w : World} {g cap : Nat} {cur : Array Value} {e : TypeId} {l : List Int} (hg : w.heap[g]? = some (.cells cur e (0, 0))) (h1 : l.length ≤ cur.size) (h4 : cur.toList.take l.length = l.map (.int .i64)) : Go.Sort.Holds (Value.int .i64) w g 0 l.toArray := by
  intro j hj
  simp only [List.size_toArray] at hj
  have hc : cur[j]? = some (.int .i64 l[j]) := by
    have := congrArg (fun x : List Value => x[j]?) h4
    simp only [List.getElem?_take, hj, if_true, List.getElem?_map] at this
    simpa [hj] using this
  constructor
  · simp [World.cell?, hg, hc, hj]
  · simp [World.frozen?, hg]

/-- The numbers of one's own are others now; of the same number. -/
theorem put_own {W : View} {w : World} {h' : Heap} {e : TypeId} {v : Value} {g cap : Nat} {cur : Array Value} {l d : List Int} (hv : v = .slice (some ⟨g, 0, none⟩) l.length cap) (hg : w.heap[g]? = some (.cells cur e (0, 0))) (h1 : l.length ≤ cap) (h2 : cap ≤ maxLen) (h3 : cur.size = cap)
    (hd : d.length = l.length) (hb : l.length ≤ 140737488355328) (hr : ∀ x ∈ d, I64 x) (n : Nat) (os : Array Obj) (hh : h' = (Go.Sort.grow (Go.Sort.putRow (Value.int .i64) (Go.Sort.ahead w n) g 0 d.toArray) os).heap) :
    OwnT W h' e v d ∧ Kept w.heap h' v.ownBlock := by
  subst hv
  have hlt : g < w.heap.size := (Array.getElem?_eq_some_iff.1 hg).1
  have hcur : (Go.Sort.putCells (Value.int .i64) 0 d.toArray cur).toList.take d.length = d.map (.int .i64) := by
    refine List.ext_getElem? fun j => ?_
    rw [List.getElem?_take]
    split
    · rename_i hj
      have hjc : j < cur.size := by omega
      simp [Go.Sort.putCells, hj, hjc]
    · rename_i hj
      exact (List.getElem?_eq_none (by simpa using Nat.le_of_not_lt hj)).symm
  have hblk : ∀ k, k < w.heap.size → h'[k]? = if g = k then (w.heap[k]?).map (Go.Sort.onCells (Go.Sort.putCells (Value.int .i64) 0 d.toArray)) else w.heap[k]? := by
    intro k hk
    subst hh
    simp only [Go.Sort.grow, Go.Sort.putRow, Go.Sort.mapBlock, Go.Sort.ahead]
    rw [Array.getElem?_append_left (by simpa using hk), Array.getElem?_modify]
  have hsz : w.heap.size ≤ h'.size := by subst hh; simp [Go.Sort.grow, Go.Sort.putRow, Go.Sort.mapBlock, Go.Sort.ahead]
  refine ⟨own_int.2 ⟨by omega, hr, .inr ⟨g, cap, Go.Sort.putCells (Value.int .i64) 0 d.toArray cur, by rw [hd], ?_, by omega, h2, by simp [Go.Sort.putCells, h3], hcur⟩⟩, hsz, fun k hk hne => ?_⟩
  · rw [hblk g hlt, if_pos rfl, hg]; rfl
  · rw [hblk k hk, if_neg (fun e => hne (by simp [Value.ownBlock, e]))]

theorem same_ahead (w : World) (n g : Nat) (d : Array Int) (os : Array Obj) : Same w (Go.Sort.grow (Go.Sort.putRow (Value.int .i64) (Go.Sort.ahead w n) g 0 d) os) :=
  ⟨rfl, rfl, rfl, by simp [Go.Sort.grow, Go.Sort.putRow, Go.Sort.mapBlock, Go.Sort.ahead], fun b hb => by
    have hlt := (Array.getElem?_eq_some_iff.1 hb).1
    simp only [Go.Sort.grow, Go.Sort.putRow, Go.Sort.mapBlock, Go.Sort.ahead]
    rw [Array.getElem?_append_left (by simpa using hlt), Array.getElem?_modify]
    split
    · rw [hb]; rfl
    · exact hb⟩

/-- Rising. -/
def sortS (l : List Int) : List Int := l.mergeSort fun x y => decide (x ≤ y)

theorem sort_ok {W : View} {h : Heap} {e : TypeId} {v : Value} {l : List Int} (o : OwnT W h e v l) : HCalls Try.prog N.slices_Sort_int #[v] h (fun _ h' => OwnT W h' e v (sortS l) ∧ Kept h h' v.ownBlock) := by
  rintro w rfl
  obtain ⟨hb, hr, hown⟩ := own_int.1 o
  have hlen : (sortS l).length = l.length := List.length_mergeSort _
  have hr' : ∀ x ∈ sortS l, I64 x := fun x hx => hr x (List.mem_mergeSort.1 hx)
  rcases hown with ⟨rfl, rfl⟩ | ⟨g, cap, cur, rfl, hg, h1, h2, h3, h4⟩
  · refine (Try.slices_Sort_int_none none 0 w).mono ?_
    rintro e' w' ⟨rfl, rfl⟩
    exact ⟨_, rfl, ⟨by simpa [sortS] using o, Kept.refl _ _⟩, Same.refl _⟩
  · refine (Try.slices_Sort_int g 0 cap l w (holds_own (cap := cap) hg (by omega) h4) (Array.getElem?_eq_some_iff.1 hg).1 (by omega)).mono ?_
    rintro e' w' ⟨rfl, n, os, rfl⟩
    exact ⟨_, rfl, put_own rfl hg h1 h2 h3 hlen hb hr' n os rfl, same_ahead _ _ _ _ _⟩

theorem own_take {W : View} {h : Heap} {e : TypeId} {g n cap : Nat} {l : List Int} (o : OwnT W h e (.slice (some ⟨g, 0, none⟩) l.length cap) l) (hn : n ≤ l.length) : OwnT W h e (.slice (some ⟨g, 0, none⟩) n cap) (l.take n) := by
  obtain ⟨hb, hr, hown⟩ := own_int.1 o
  have hl : (l.take n).length = n := by simp; omega
  rcases hown with ⟨hv, _⟩ | ⟨g', cap', cur, hv, hg, h1, h2, h3, h4⟩
  · cases hv
  · cases hv
    refine own_int.2 ⟨by omega, fun x hx => hr x (List.mem_of_mem_take hx), .inr ⟨g, cap, cur, by rw [hl], hg, by omega, h2, h3, ?_⟩⟩
    rw [hl, List.map_take, ← h4, List.take_take, Nat.min_eq_left hn]

theorem compact_len {l : List Int} : (Lib.compact l).length ≤ l.length := by
  unfold Lib.compact Lib.compactUpTo
  rw [List.length_map]
  exact Nat.le_trans (List.length_filter_le _ _) (by simp)
theorem compact_mem {l : List Int} {x : Int} (hx : x ∈ Lib.compact l) : x ∈ l := by
  unfold Lib.compact Lib.compactUpTo at hx
  simp only [List.mem_map, List.mem_filter, List.mem_range] at hx
  obtain ⟨i, ⟨hi, _⟩, rfl⟩ := hx
  simp [hi]

theorem compact_ok {W : View} {h : Heap} {e : TypeId} {v : Value} {l : List Int} (o : OwnT W h e v l) : HCalls Try.prog N.slices_Compact_int #[v] h (fun v' h' => OwnT W h' e v' (Lib.compact l) ∧ Moved h h' v v') := by
  rintro w rfl
  obtain ⟨hb, hr, hown⟩ := own_int.1 o
  have hlen := compact_len (l := l)
  rcases hown with ⟨rfl, rfl⟩ | ⟨g, cap, cur, rfl, hg, h1, h2, h3, h4⟩
  · refine (Try.slices_Compact_int_empty none 0 w).mono ?_
    rintro e' w' ⟨rfl, rfl⟩
    exact ⟨_, rfl, ⟨o, Kept.refl _ _, .inl rfl⟩, Same.refl _⟩
  · refine (Try.slices_Compact_int g 0 cap l w (holds_own (cap := cap) hg (by omega) h4) (by omega) h1).mono ?_
    rintro e' w' ⟨rfl, n, hw⟩
    have hw' : w' = Go.Sort.grow (Go.Sort.putRow (Value.int .i64) (Go.Sort.ahead w n) g 0 (Lib.compact l ++ List.replicate (l.length - (Lib.compact l).length) 0).toArray) #[] := by rw [hw]; simp
    have hdl : (Lib.compact l ++ List.replicate (l.length - (Lib.compact l).length) 0).length = l.length := by simp; omega
    have hrd : ∀ x ∈ (Lib.compact l ++ List.replicate (l.length - (Lib.compact l).length) (0 : Int)), I64 x := fun x hx => by
      rcases List.mem_append.1 hx with hx | hx
      · exact hr x (compact_mem hx)
      · obtain ⟨_, rfl⟩ := List.mem_replicate.1 hx; exact ⟨by omega, by omega⟩
    obtain ⟨o2, k2⟩ := put_own (W := W) (h' := w'.heap) rfl hg h1 h2 h3 hdl hb hrd n #[] (by rw [hw'])
    have o3 := own_take (n := (Lib.compact l).length) (by rw [hdl]; exact o2) (by simp)
    rw [List.take_left'  rfl] at o3
    exact ⟨_, rfl, ⟨o3, k2, .inl rfl⟩, by rw [hw']; exact same_ahead _ _ _ _ _⟩

theorem reverse_ok {W : View} {h : Heap} {e : TypeId} {v : Value} {l : List Int} (o : OwnT W h e v l) : HCalls Try.prog N.slices_Reverse_int #[v] h (fun _ h' => OwnT W h' e v l.reverse ∧ Kept h h' v.ownBlock) := by
  rintro w rfl
  obtain ⟨hb, hr, hown⟩ := own_int.1 o
  rcases hown with ⟨rfl, rfl⟩ | ⟨g, cap, cur, rfl, hg, h1, h2, h3, h4⟩
  · refine (Try.slices_Reverse_int_empty none 0 w).mono ?_
    rintro e' w' ⟨rfl, rfl⟩
    exact ⟨_, rfl, ⟨o, Kept.refl _ _⟩, Same.refl _⟩
  · refine (Try.slices_Reverse_int g 0 cap l w (holds_own (cap := cap) hg (by omega) h4) (by omega)).mono ?_
    rintro e' w' ⟨rfl, n, hw⟩
    have hw' : w' = Go.Sort.grow (Go.Sort.putRow (Value.int .i64) (Go.Sort.ahead w n) g 0 l.reverse.toArray) #[] := by rw [hw]; simp
    exact ⟨_, rfl, put_own rfl hg h1 h2 h3 (by simp) hb (fun x hx => hr x (by simpa using hx)) n #[] (by rw [hw']), by rw [hw']; exact same_ahead _ _ _ _ _⟩
end Go.Proofs.Ytaebcebflfgdiaa

namespace Go.Proofs.Ytaebcebflfgdiaa
open Go Go.Lft
set_option linter.unusedSimpArgs false
set_option linter.unusedVariables false

def keptP (row : List Int) (n : Int) (i : Nat) : Bool := decide (0 ≤ nth row i) && decide (nth row i < n)
def keptS (row : List Int) (n : Int) : List Int := Lib.compact (sortS (sift (keptP row n) (fun i => nth row i) row.length))

theorem kept_ok {row : List Int} {n : Int} {vr : Value} {h : Heap} (hr : SlRd (vw h) vr row) (hs : row.length ≤ 1000000) :
    HCalls Try.prog N.graph_kept #[vr, .int .i64 n] h (fun v h' => ∃ W, Mine nothing h h' W 3 v (keptS row n)) := by
  refine calls_lift (args := [vr, .int .i64 n]) follows Try.func52 E.graph_kept (by show 2 ≤ 30; decide) fun K hK => ?_
  simp [L.graph_kept, hr.len]
  refine lwp_range [0, 1, 5, 8, 9, 10] (fun (v : Value) k => [vr, .int .i64 n, v, vr, .int .i64 row.length, .int .i64 k]) (fun v k h1 => Mine nothing h h1 nothing 3 v (sift (keptP row n) (fun i => nth row i) k)) row.length (.slice none 0 0)
    rfl (by omega) rfl (Mine.start (fun _ _ h => by cases h)) (fun _ _ => rfl) (fun v k h1 hk m => by simp) ?_ ?_
  · intro v k h1 hlt m K2 hK2
    have hr1 := hr.mono m.old
    have hrange := hr.range hlt
    have := sift_len (p := keptP row n) (x := fun i => nth row i) k
    simp (disch := omega) [hr1.idx1 rfl, hr1.int (View.le_refl _), condP_bool, -Bool.and_eq_true, -Bool.and_eq_false_imp]
    refine ⟨fun he => ?_, fun he => hK2 v _ _ rfl rfl (by rw [sift_false (show keptP row n k = false from he)]; exact m)⟩
    refine m.push elem23 (by simp <;> rfl) (rd_i hrange.1 hrange.2) (by omega) (by omega) (fun _ => by simp) (fun _ => by simp) fun u v' h3 m' => hK2 v' _ _ rfl rfl (by rw [sift_true (show keptP row n k = true from he)]; exact m')
  · intro v h1 m
    simp
    refine call_to (by kernel_rfl) (sort_ok m.own) ?_
    rintro _ h2 ⟨o2, k2⟩
    have m2 := m.moved o2 ⟨k2, .inl rfl⟩
    try simp
    refine call_to (by kernel_rfl) (compact_ok m2.own) ?_
    rintro v3 h3 ⟨o3, k3⟩
    have m3 := m2.moved o3 k3
    try simp
    exact hK _ _ ⟨_, m3⟩

def cleanS (g : Gr) : Gr := rows (fun a => keptS (nth g a) g.length) g.length

/-- No rows are long. -/
def Sm (g : Gr) : Prop := g.length ≤ 1000000 ∧ ∀ i, i < g.length → (nth g i).length ≤ 1000000

theorem rd_nil {α : Type} [Rep α] {W : View} : Rep.rd W (Value.slice none 0 0).cells.toList ([] : List α) := ⟨.slice none 0 0, rfl, none, 0, rfl, by simp, by simp, .inl rfl⟩

theorem clean_ok {g : Gr} {vg : Value} {h : Heap} (hg : SlRd (vw h) vg g) (hs : Sm g) :
    HCalls Try.prog N.graph_clean #[vg] h (fun v h' => ∃ W, Mine nothing h h' W 23 v (cleanS g)) := by
  refine calls_lift (args := [vg]) follows Try.func42 E.graph_clean (by show 1 ≤ 25; decide) fun K hK => ?_
  have hs1 := hs.1
  simp [L.graph_clean, hg.len]
  refine Mine.made (α := List Int) (V := nothing) (W := nothing) (h0 := h) (n := g.length) (d := []) elem22 (View.le_refl _) (fun _ _ h => by cases h) (Old.nothing _ _) (by simp <;> rfl) (by simp <;> rfl) rd_nil (by omega) (by omega) fun v h1 m _ _ => ?_
  refine lwp_range [0, 3, 9, 10, 11] (fun (_ : View) k => [vg, v, vg, .int .i64 g.length, .int .i64 k]) (fun W k h2 => Mine nothing h h2 W 23 v (rows (fun a => keptS (nth g a) g.length) k ++ List.replicate (g.length - k) [])) g.length nothing
    rfl (by omega) rfl m (fun _ _ => rfl) (fun v k h1 hk m => by simp) ?_ ?_
  · intro W a h2 hlta m K2 hK2
    have hg2 := hg.mono m.old
    obtain ⟨rv, hrv⟩ := hg2.rows
    obtain ⟨cv, rr⟩ := hrv a hlta
    have hl5 : (rows (fun a => keptS (nth g a) g.length) a ++ List.replicate (g.length - a) ([] : List Int)).length = g.length := by simp; omega
    simp (disch := omega) [hg2.idx1 rfl, cv _ (View.le_refl _), hg.len]
    refine call_to (by kernel_rfl) (kept_ok rr (hs.2 a hlta)) ?_
    rintro r h3 ⟨W', mr⟩
    have m3 := m.ext mr.old
    have hr := mr.fresh.mono (fresh_grow W _ _)
    simp (disch := omega) [m3.now.idx1 rfl]
    refine m3.put1 (α := List Int) (i := a) (by kernel_rfl) rfl (by simp) (by simp <;> rfl) (by omega) (rd_list.2 hr) fun h4 m4 => hK2 (grow W h2 h3) _ _ rfl rfl ?_
    rw [rows_set (x := fun a => keptS (nth g a) g.length) hlta] at m4
    exact m4
  · intro W h2 m
    simp at m
    simp
    exact hK _ _ ⟨_, m⟩

/-- A variable's box that is only read. -/
def Boxed (H : View) (a : Addr) (v : Value) : Prop := cellH H a = some v

theorem domIs_ok {l : List Int} {x : Int} {v : Value} {h : Heap} {b : Addr} (hl : SlRd (vw h) v l) (hb : cellH (vw h) b = some v) :
    HCalls Try.prog N.graph_Dominates_1 #[.int .i64 x, .pointer (some b)] h (fun u h' => u = .bool (decide (0 ≤ x) && decide (x < l.length)) ∧ h' = h) := by
  refine calls_lift (args := [.int .i64 x, .pointer (some b)]) follows Try.func47 E.graph_Dominates_1 (by show 2 ≤ 12; decide) fun K hK => ?_
  simp [L.graph_Dominates_1, hb, hl.len]
  exact hK _ _ ⟨rfl, rfl⟩

theorem dominates_ok {l : List Int} {a b : Int} {v : Value} {h : Heap} (hl : SlRd (vw h) v l) :
    HCalls Try.prog N.graph_Dominates #[v, .int .i64 a, .int .i64 b] h (fun u h' => u = .bool (dominatesS l a b) ∧ (vw h).le (vw h')) := by
  refine calls_lift (args := [v, .int .i64 a, .int .i64 b]) follows Try.func22 E.graph_Dominates (by show 3 ≤ 36; decide) fun K hK => ?_
  have bl := hl.bound
  simp [L.graph_Dominates]
  refine do_box (v := v) (by simp) ?_
  have hvc : v.cells = #[v] := by obtain ⟨_, _, rfl, _⟩ := hl; rfl
  rw [hvc]
  have hle := push_le h (.cells #[v] 23)
  have hl := hl.mono hle
  have hb : cellH (vw (h.push (.cells #[v] 23))) ⟨h.size, 0, none⟩ = some v := by simp [cellH, vw]
  generalize h.push (.cells #[v] 23) = h1 at hle hl hb
  generalize h.size = B at hb
  refine do_callv (ops := [.tmp 10]) rfl (by kernel_rfl) (by simpa using domIs_ok (x := a) hl hb) ?_
  rintro _ _ ⟨rfl, rfl⟩
  cases ha : decide (0 ≤ a) && decide (a < l.length) with
  | false =>
    have hsp : dominatesS l a b = false := by
      simp only [Bool.and_eq_false_iff, decide_eq_false_iff_not] at ha
      simp [dominatesS]; intros; omega
    rw [hsp] at hK
    simp [grdP]
    exact hK _ _ ⟨rfl, hle⟩
  | true =>
    simp only [Bool.and_eq_true, decide_eq_true_eq] at ha
    simp [grdP]
    refine do_callv (ops := [.tmp 15]) rfl (by kernel_rfl) (by simpa using domIs_ok (x := b) hl hb) ?_
    rintro _ _ ⟨rfl, rfl⟩
    cases hbb : decide (0 ≤ b) && decide (b < l.length) with
    | false =>
      have hsp : dominatesS l a b = false := by
        simp only [Bool.and_eq_false_iff, decide_eq_false_iff_not] at hbb
        simp [dominatesS]; intros; omega
      rw [hsp] at hK
      simp
      exact hK _ _ ⟨rfl, hle⟩
    | true =>
      simp only [Bool.and_eq_true, decide_eq_true_eq] at hbb
      have hsp : dominatesS l a b = chase l a (l.length + 1) b := by simp [dominatesS, ha, hbb]
      rw [hsp] at hK
      simp (disch := omega) [hb, hl.len]
      refine lwp_range [1, 2, 3, 6, 7, 21, 22] (fun (c : Int) k => [.int .i64 a, .int .i64 c, .pointer (some ⟨B, 0, none⟩), .bool false, .func (.func 47) #[] #[.pointer (some ⟨B, 0, none⟩)], .int .i64 ((l.length : Int) + 1), .int .i64 k])
        (fun c k h2 => h2 = _ ∧ chase l a (l.length + 1 - k) c = chase l a (l.length + 1) b) (l.length + 1) b
        rfl (by omega) rfl ⟨rfl, rfl⟩ (fun _ _ => rfl) (fun v k h1 hk m => by simp) ?_ ?_
      · rintro c k h2 hlt ⟨rfl, hch⟩ K2 hK2
        have hfu : l.length + 1 - k = (l.length - k) + 1 := by omega
        rw [hfu, chase] at hch
        simp
        refine ⟨fun he => hK _ _ ⟨by rw [← hch, if_pos he.symm], hle⟩, fun he => ?_⟩
        rw [if_neg (fun e => he e.symm)] at hch
        refine do_callv (ops := [.tmp 28]) rfl (by kernel_rfl) (by simpa using domIs_ok (x := c) hl hb) ?_
        rintro _ _ ⟨rfl, rfl⟩
        cases hc : decide (0 ≤ c) && decide (c < l.length) with
        | false =>
          simp only [Bool.and_eq_false_iff, decide_eq_false_iff_not] at hc
          simp
          exact hK _ _ ⟨by rw [← hch, if_pos (by omega)], hle⟩
        | true =>
          simp only [Bool.and_eq_true, decide_eq_true_eq] at hc
          rw [if_neg (by omega)] at hch
          simp (disch := omega) [hb, hl.idx1 rfl, hl.int (View.le_refl _)]
          refine hK2 (nth l c.toNat) _ _ rfl rfl ⟨rfl, ?_⟩
          rw [← hch]; congr 1; omega
      · rintro c h2 ⟨rfl, hch⟩
        rw [Nat.sub_self, chase] at hch
        simp
        exact hK _ _ ⟨by rw [← hch], hle⟩
end Go.Proofs.Ytaebcebflfgdiaa

namespace Go.Proofs.Ytaebcebflfgdiaa
open Go Go.Lft
set_option linter.unusedSimpArgs false
set_option linter.unusedVariables false

/-- The nearest one above two, as the code looks for it; so many steps. -/
def commonS (idom number : List Int) : Nat → Int → Int → Option Int
  | 0, _, _ => none
  | n + 1, a, b =>
    if 0 ≤ a ∧ a < number.length ∧ a < idom.length ∧ 0 ≤ b ∧ b < number.length ∧ b < idom.length then
      if nth number b.toNat < nth number a.toNat then commonS idom number n (nth idom a.toNat) b
      else if nth number a.toNat < nth number b.toNat then commonS idom number n a (nth idom b.toNat)
      else some a
    else none

theorem common_ok {idom number : List Int} {vi vn : Value} {h : Heap} {r : Int} (hi : SlRd (vw h) vi idom) (hn : SlRd (vw h) vn number) {n : Nat} {a b : Int} (hc : commonS idom number n a b = some r) :
    HCalls Try.prog N.graph_common #[vi, vn, .int .i64 a, .int .i64 b] h (fun u h' => u = .int .i64 r ∧ h' = h) := by
  refine calls_lift (args := [vi, vn, .int .i64 a, .int .i64 b]) follows Try.func46 E.graph_common (by show 4 ≤ 38; decide) fun K hK => ?_
  simp [L.graph_common]
  refine lwp_loop [0, 1, 2, 3] (fun m ρ h' => ∃ (c d : Int), ρ = [(0, vi), (1, vn), (2, .int .i64 c), (3, .int .i64 d)] ∧ h' = h ∧ commonS idom number m c d = some r) n ⟨a, b, rfl, rfl, hc⟩ ?_
  rintro m ρ h' ⟨c, d, rfl, rfl, hc⟩ K2 hK2
  cases m with
  | zero => cases hc
  | succ m =>
    rw [commonS] at hc
    split at hc
    case isFalse => cases hc
    rename_i hr
    obtain ⟨r1, r2, r3, r4, r5, r6⟩ := hr
    simp (disch := omega) [L.graph_common.l1, hn.idx1 rfl, hn.int (View.le_refl _)]
    refine ⟨fun h1 => ?_, fun h1 => ?_⟩
    · rw [if_pos h1] at hc
      simp (disch := omega) [hi.idx1 rfl, hi.int (View.le_refl _)]
      exact hK2 m _ _ (by omega) ⟨_, _, rfl, rfl, hc⟩
    · rw [if_neg (by omega)] at hc
      refine ⟨fun h2 => ?_, fun h2 => ?_⟩
      · rw [if_pos h2] at hc
        simp (disch := omega) [hi.idx1 rfl, hi.int (View.le_refl _)]
        exact hK2 m _ _ (by omega) ⟨_, _, rfl, rfl, hc⟩
      · rw [if_neg (by omega)] at hc
        cases hc
        exact hK _ _ ⟨rfl, rfl⟩

def backS (l : List Int) (a b : Int) : Bool := (decide (a = 0) || decide (0 ≤ nth l a.toNat)) && dominatesS l b a
end Go.Proofs.Ytaebcebflfgdiaa

namespace Go.Proofs.Ytaebcebflfgdiaa
open Go Go.Lft
set_option linter.unusedSimpArgs false
set_option linter.unusedVariables false

/-- Order's memory: the box of what is left; the flags' array. -/
structure Wo (W : View) (h : Heap) (B : Nat) (vt vl : Value) (s : List Bool × List Int) : Prop where
  wle : W.le (vw h)
  box : h[B]? = some (.cells #[vl] 23 (0, 0))
  wB : W B = none
  avt : Av W vt
  avl : Av W vl
  nt : vt.ownBlock ≠ some B
  nl : vl.ownBlock ≠ some B
  ne : vl.ownBlock = none ∨ vl.ownBlock ≠ vt.ownBlock
  ot : OwnT nothing h 4 vt s.1
  ol : OwnT nothing h 3 vl s.2
  nn : vt.ownBlock = none ∨ vt.ownBlock ≠ vl.ownBlock

theorem Wo.lt {W : View} {h : Heap} {B : Nat} {vt vl : Value} {s : List Bool × List Int} (k : Wo W h B vt vl s) : B < h.size := (Array.getElem?_eq_some_iff.1 k.box).1
theorem Wo.ext {W : View} {h h' : Heap} {B : Nat} {vt vl : Value} {s : List Bool × List Int} (k : Wo W h B vt vl s) (hle : (vw h).le (vw h')) : Wo W h' B vt vl s :=
  { k with wle := View.le_trans k.wle hle, box := hle _ _ k.box, ot := k.ot.ext hle, ol := k.ol.ext hle }
/-- What came new stands, too. -/
theorem Wo.grow {W : View} {h h' : Heap} {B : Nat} {vt vl : Value} {s : List Bool × List Int} (k : Wo W h B vt vl s) (hle : (vw h).le (vw h')) : Wo (grow W h h') h' B vt vl s :=
  { k.ext hle with
    wle := grow_le (View.le_trans k.wle hle)
    wB := by unfold Lft.grow; rw [if_pos k.lt]; exact k.wB
    avt := k.avt.grow fun _ hb => k.ot.lt hb
    avl := k.avl.grow fun _ hb => k.ol.lt hb }
theorem Wo.shrink {W W' : View} {h : Heap} {B : Nat} {vt vl : Value} {s : List Bool × List Int} (k : Wo W h B vt vl s) (hw : W'.le W) : Wo W' h B vt vl s :=
  { k with
    wle := View.le_trans hw k.wle
    wB := by cases hx : W' B with | none => rfl | some o => have := k.wB; rw [hw _ _ hx] at this; cases this
    avt := fun b hb => by cases hx : W' b with | none => rfl | some o => have := k.avt b hb; rw [hw _ _ hx] at this; cases this
    avl := fun b hb => by cases hx : W' b with | none => rfl | some o => have := k.avl b hb; rw [hw _ _ hx] at this; cases this }
/-- The flags are written. -/
theorem Wo.flag {W : View} {h h' : Heap} {B : Nat} {vt vl : Value} {s : List Bool × List Int} {t' : List Bool} (k : Wo W h B vt vl s) (o : OwnT nothing h' 4 vt t') (m : Moved h h' vt vt) : Wo W h' B vt vl (t', s.2) :=
  { k with
    wle := (m.view k.wle k.avt).1
    box := by rw [m.kept.block B k.lt (fun e => k.nt e.symm)]; exact k.box
    ot := o
    ol := k.ol.kept m.kept k.ne }
/-- One more is left, and the box says so. -/
theorem Wo.pushed {W : View} {h h' h'' : Heap} {B : Nat} {vt vl vl' : Value} {s : List Bool × List Int} {l' : List Int} (k : Wo W h B vt vl s) (o : OwnT nothing h' 3 vl' l') (m : Moved h h' vl vl') (hsz : h''.size = h'.size)
    (hB : h''[B]? = some (.cells #[vl'] 23 (0, 0))) (hoth : ∀ j, j ≠ B → h''[j]? = h'[j]?) : Wo W h'' B vt vl' (s.1, l') := by
  obtain ⟨hw', ha'⟩ := m.view k.wle k.avl
  have hlt := k.lt
  have nl' : vl'.ownBlock ≠ some B := by
    rcases m.at_ with e | e
    · rw [e]; exact k.nl
    · rw [e]; intro e2; cases e2; omega
  have kep : Kept h' h'' (some B) := ⟨by omega, fun j _ hj => hoth j (fun e => hj (by rw [e]))⟩
  refine ⟨fun b x hb => ?_, hB, k.wB, k.avt, ha', k.nt, nl', ?_, ?_, ?_, ?_⟩
  · have hne : b ≠ B := fun e => by rw [e, k.wB] at hb; cases hb
    show h''[b]? = _
    rw [hoth b hne]; exact hw' b x hb
  · rcases m.at_ with e | e
    · rw [e]; exact k.ne
    · right; rw [e]; intro e2; have := k.ot.lt e2.symm; omega
  · exact (k.ot.kept m.kept k.nn).kept kep (.inr k.nt)
  · exact o.kept kep (.inr nl')
  · rcases m.at_ with e | e
    · rw [e]; exact k.nn
    · right; rw [e]; intro e2; have := k.ot.lt e2; omega
/-- The box, as one reads it. -/
theorem Wo.cell {W : View} {h : Heap} {B : Nat} {vt vl : Value} {s : List Bool × List Int} (k : Wo W h B vt vl s) : cellH (vw h) ⟨B, 0, none⟩ = some vl := by
  simp [cellH, vw, k.box]


/-- A graph's rows, as one goes over them. -/
def nx (rows : Gr) (a : Int) : List Int := nth rows a.toNat

theorem over1_ok {rows : Gr} {vr : Value} {T R O : Addr} {B : Nat} (hs : rows.length ≤ 1000000) (hin : ∀ i, i < rows.length → ∀ j, j < (nth rows i).length → 0 ≤ nth (nth rows i) j ∧ nth (nth rows i) j < rows.length) : ∀ (n : Nat) {M : Nat} {W : View} {h : Heap} {vt vl : Value} {s : List Bool × List Int} {a : Int}, Wo W h B vt vl s → SlRd W vr rows →
    cellH W T = some vt → cellH W R = some vr → cellH W O = some (.func (.func 43) #[] #[.pointer (some T), .pointer (some R), .pointer (some O), .pointer (some ⟨B, 0, none⟩)]) → 0 ≤ a → a < rows.length → s.1.length = rows.length → nth s.1 a.toNat = false →
    falses s.1 ≤ n → s.2.length + falses s.1 ≤ M → M ≤ 1000000 →
    HCalls Try.prog N.graph_Order_1 #[.int .i64 a, .pointer (some T), .pointer (some R), .pointer (some O), .pointer (some ⟨B, 0, none⟩)] h (fun _ h' => ∃ vl', Wo W h' B vt vl' (overS (nx rows) n a s) ∧ (overS (nx rows) n a s).2.length + falses (overS (nx rows) n a s).1 ≤ M)
  | 0, M, W, h, vt, vl, s, a, k, hg, hT, hR, hO, h0, h1, hl, hf, hc, hb, hM => by
    exfalso
    have := falses_set (t := s.1) (i := a.toNat) (by omega) hf
    omega
  | n + 1, M, W, h, vt, vl, (t, l), a, k, hg, hT, hR, hO, h0, h1, hl, hf, hc, hb, hM => by
    obtain ⟨i, rfl⟩ := Int.eq_ofNat_of_zero_le h0
    simp only at hl hf hc hb
    have hfs := falses_set (t := t) (i := i) (by omega) (by simpa using hf)
    refine calls_lift (args := [.int .i64 i, .pointer (some T), .pointer (some R), .pointer (some O), .pointer (some ⟨B, 0, none⟩)]) follows Try.func43 E.graph_Order_1 (by show 5 ≤ 33; decide) fun K hK => ?_
    have hnow : SlRd (vw h) vt t := k.ot.now (fun _ _ h => by cases h)
    simp (disch := omega) [L.graph_Order_1, cellH_mono k.wle hT, hnow.idx1 rfl]
    refine do_set (W := nothing) (i := i) (d := true) (by kernel_rfl) (by simp [show Rep.n Bool = 1 from rfl]) (by simp <;> rfl) k.ot (by simpa using by omega) rd_b fun h2 o2 m2 => ?_
    have k2 := k.flag o2 m2
    have hg2 := hg.mono k2.wle
    obtain ⟨rv, hrv⟩ := hg.rows
    obtain ⟨cv, rr⟩ := hrv i (by omega)
    have br := rr.bound
    have hov : overS (nx rows) (n + 1) i (t, l) = ((up (overStep (nx rows) n i) (nx rows i).length (t.set i true, l)).1, (up (overStep (nx rows) n i) (nx rows i).length (t.set i true, l)).2 ++ [(i : Int)]) := overS_succ
    rw [hov] at hK
    have hnx : nx rows i = nth rows i := rfl
    rw [hnx] at hK
    simp (disch := omega) [cellH_mono k2.wle hR, hg2.idx1 rfl, cv _ k2.wle, rr.len]
    refine lwp_range [0, 1, 2, 3, 4, 14, 15, 16] (fun (_ : Value) j => [.int .i64 i, .pointer (some T), .pointer (some R), .pointer (some O), .pointer (some ⟨B, 0, none⟩), rv i, .int .i64 (nth rows i).length, .int .i64 j]) (fun vl j h4 => Wo W h4 B vt vl (up (overStep (nx rows) n i) j (t.set i true, l)) ∧ (up (overStep (nx rows) n i) j (t.set i true, l)).2.length + falses (up (overStep (nx rows) n i) j (t.set i true, l)).1 ≤ M - 1) (nth rows i).length vl
      rfl (by omega) rfl ⟨k2, by simp [up]; omega⟩ (fun _ _ => rfl) (fun v j h4 hk m => by simp) ?_ ?_
    · rintro vl j h4 hltj ⟨k4, hb4⟩ K2 hK2
      have hinv := up_inv (fun s : List Bool × List Int => s.1.length = rows.length ∧ falses s.1 ≤ n) (f := overStep (nx rows) n i) (fun k x hx => by
        unfold overStep; split
        · exact hx
        · exact overS_keeps n _ x hx) j (t.set i true, l) ⟨by simpa using hl, by simp only; omega⟩
      generalize hx : up (overStep (nx rows) n i) j (t.set i true, l) = x at k4 hb4 hinv
      obtain ⟨e0, e1⟩ := hin i (by omega) j hltj
      have hr4 := rr.mono k4.wle
      have hnow4 := k4.ot.now (fun _ _ h => by cases h)
      simp (disch := omega) [cellH_mono k4.wle hT, hr4.idx1 rfl, hr4.int (View.le_refl _), hnow4.idx1 rfl, hnow4.bool (View.le_refl _), condP_bool]
      refine ⟨fun he => ?_, fun he => hK2 vl _ _ rfl rfl ?_⟩
      · simp [cellH_mono k4.wle hO]
        refine do_callv (ops := [.tmp 26]) rfl (by kernel_rfl) (by simpa using over1_ok hs hin n k4 hg hT hR hO e0 e1 hinv.1 he hinv.2 hb4 (by omega)) ?_
        rintro _ h5 ⟨⟨vl', k5⟩, hb5⟩
        have hst : up (overStep (nx rows) n i) (j + 1) (t.set i true, l) = overS (nx rows) n (nth (nth rows i) j) x := by rw [up, hx, overStep, show nx rows i = nth rows i from rfl, he]; rfl
        refine hK2 vl' _ _ rfl rfl ?_
        rw [hst]
        exact ⟨k5, hb5⟩
      · have hst : up (overStep (nx rows) n i) (j + 1) (t.set i true, l) = x := by rw [up, hx, overStep, show nx rows i = nth rows i from rfl, he]; rfl
        rw [hst]; exact ⟨k4, hb4⟩
    · rintro vl h4 ⟨k4, hb4⟩
      generalize hx : up (overStep (nx rows) n i) (nth rows i).length (t.set i true, l) = x at k4 hb4 hK
      simp [k4.cell]
      refine do_one (α := Int) (W := nothing) elem23 (by simp <;> rfl) (rd_i (by omega) (by omega)) fun u h5 hsrc hle5 _ => ?_
      have k5 := k4.ext hle5
      refine do_append elem23 (by simp) (by simp) k5.ol hsrc (by simp; omega) (by simp; omega) fun vl' h6 o6 m6 => ?_
      have hB6 : h6[B]? = some (.cells #[vl] 23 (0, 0)) := by rw [m6.kept.block B k5.lt (fun e => k5.nl e.symm)]; exact k5.box
      obtain ⟨hcells, hone⟩ := cells_of_own o6
      refine do_store (g := B) (o := 0) (n := 1) (v := vl') (by kernel_rfl) (by simp) (by simp) (by rw [hcells]; rfl) (by rw [hcells]; simpa using hone) hB6 (by simp) fun h7 hsz7 ⟨row, hrow, he⟩ hoth => hK _ _ ⟨vl', ?_, ?_⟩
      · have hrow2 : row = #[vl'] := by rw [← Array.toList_inj, he, hcells]; rfl
        rw [hrow2] at hrow
        exact k5.pushed o6 m6 hsz7 hrow hoth
      · simp; omega
end Go.Proofs.Ytaebcebflfgdiaa

namespace Go.Proofs.Ytaebcebflfgdiaa
open Go Go.Lft
set_option linter.unusedSimpArgs false
set_option linter.unusedVariables false

def gOrderS (g : Gr) : List Int := orderS (nx (cleanS g)) g.length

theorem cleanS_len {g : Gr} : (cleanS g).length = g.length := by simp [cleanS]
theorem cleanS_in {g : Gr} : ∀ i, i < (cleanS g).length → ∀ j, j < (nth (cleanS g) i).length → 0 ≤ nth (nth (cleanS g) i) j ∧ nth (nth (cleanS g) i) j < (cleanS g).length := by
  intro i hi j hj
  rw [cleanS_len] at hi
  have hm := nth_mem hj
  rw [cleanS, nth_rows hi, keptS] at hm
  have h2 := compact_mem hm
  rw [sortS, List.mem_mergeSort, sift_eq] at h2
  simp only [List.mem_map, List.mem_filter, List.mem_range, keptP, Bool.and_eq_true, decide_eq_true_eq] at h2
  obtain ⟨k, ⟨_, h3⟩, h4⟩ := h2
  rw [cleanS_len]
  have e : nth (nth (cleanS g) i) j = nth (nth g i) k := by rw [cleanS, nth_rows hi, keptS, h4, sortS, sift_eq]
  rw [e]; exact h3

theorem order_ok {g : Gr} {vg : Value} {h : Heap} (hg : SlRd (vw h) vg g) (hs : Sm g) :
    HCalls Try.prog N.graph_Order #[vg] h (fun v h' => (vw h).le (vw h') ∧ SlRd (fresh h h') v (gOrderS g)) := by
  refine calls_lift (args := [vg]) follows Try.func16 E.graph_Order (by show 1 ≤ 21; decide) fun K hK => ?_
  have hs1 := hs.1
  simp [L.graph_Order, hg.len]
  refine ⟨fun h0 => ?_, fun h0 => ?_⟩
  · exact hK _ _ ⟨View.le_refl _, ⟨none, 0, by simp [gOrderS, orderS, h0], by simp [gOrderS, orderS, h0], by simp [gOrderS, orderS, h0], .inl (by simp [gOrderS, orderS, h0])⟩⟩
  · refine call_to (by kernel_rfl) (clean_ok hg hs) ?_
    rintro vr h1 ⟨W1, m1⟩
    have hvr := m1.now
    obtain ⟨hrc, hro⟩ := cells_of_own m1.own
    refine do_newvar (z := .slice none 0 0) (by kernel_rfl) rfl (by kernel_rfl) hrc hro (fun _ => by simp) (fun _ => by simp) fun h2 hle2 hsz2 hR2 => ?_
    refine do_make (W := nothing) (n := g.length) (d := false) elem32 (by simp <;> rfl) (by simp <;> rfl) rfl (by omega) (by omega) fun vt h3 o3 m3 hle3 hb3 => ?_
    obtain ⟨htc, hto⟩ := cells_of_own o3
    refine do_newvar (z := .slice none 0 0) (by kernel_rfl) rfl (by kernel_rfl) htc hto (fun _ => by simp) (fun _ => by simp) fun h4 hle4 hsz4 hT4 => ?_
    refine do_alloc (z := .slice none 0 0) (by kernel_rfl) ?_
    refine do_alloc (z := .nilFunc) (by kernel_rfl) ?_
    have hsz3 : h2.size < h3.size := o3.lt hb3
    have hle6 : (vw h4).le (vw ((h4.push (.cells (Value.slice none 0 0).cells 23)).push (.cells Value.nilFunc.cells 59))) := View.le_trans (push_le _ _) (push_le _ _)
    refine do_store (g := h4.size + 1) (o := 0) (n := 1) (e := 59) (cur := #[.nilFunc]) (v := .func (.func 43) #[] #[.pointer (some ⟨h3.size, 0, none⟩), .pointer (some ⟨h1.size, 0, none⟩), .pointer (some ⟨h4.size + 1, 0, none⟩), .pointer (some ⟨h4.size, 0, none⟩)]) (by kernel_rfl) (by simp) (by simp) rfl (by simp [Value.cells, Value.oneCell']) (by rw [show h4.size + 1 = (h4.push (.cells (Value.slice none 0 0).cells 23)).size by simp]; exact Array.getElem?_push_size) (by simp) fun h7 hsz7 ⟨row, hrow, he⟩ hoth => ?_
    have hrow2 : row = #[.func (.func 43) #[] #[.pointer (some ⟨h3.size, 0, none⟩), .pointer (some ⟨h1.size, 0, none⟩), .pointer (some ⟨h4.size + 1, 0, none⟩), .pointer (some ⟨h4.size, 0, none⟩)]] := by rw [← Array.toList_inj, he]; rfl
    rw [hrow2] at hrow
    have hle7 : (vw h4).le (vw h7) := fun b o hb => by
      have hlt := View.lt (View.le_refl (vw h4)) hb
      show h7[b]? = _
      rw [hoth b (by omega)]
      exact hle6 b o hb
    have hL7 : h7[h4.size]? = some (.cells #[.slice none 0 0] 23 (0, 0)) := by
      rw [hoth _ (by omega), Array.getElem?_push, if_neg (by simp), Array.getElem?_push_size]; rfl
    have hle27 := View.le_trans hle3 (View.le_trans hle4 hle7)
    have hle17 := View.le_trans hle2 hle27
    obtain ⟨W, hW⟩ : ∃ W : View, W = fun b => if b = h2.size ∨ b = h4.size then none else h7[b]? := ⟨_, rfl⟩
    have hWle : W.le (vw h7) := by
      intro b o hb
      rw [hW] at hb
      simp only at hb
      split at hb
      · cases hb
      · exact hb
    have hW1 : (vw h1).le W := fun b o hb => by
      have hlt := View.lt (View.le_refl (vw h1)) hb
      rw [hW]; simp only
      rw [if_neg (by omega)]
      exact hle17 b o hb
    have k7 : Wo W h7 h4.size vt (.slice none 0 0) (List.replicate g.length false, []) :=
      ⟨hWle, hL7, by rw [hW]; simp, fun b hb => by rw [hb3] at hb; cases hb; rw [hW]; simp, Av.nil _ _ _, by rw [hb3]; intro e; simp only [Option.some.injEq] at e; omega, by simp [Value.ownBlock], .inl rfl,
        (o3.ext hle4).ext hle7, OwnT.nil .., .inr (by rw [hb3]; simp [Value.ownBlock])⟩
    have hT : cellH W ⟨h3.size, 0, none⟩ = some vt := by
      have h5 : W h3.size = some (.cells #[vt] 32 (0, 0)) := by rw [hW]; simp only; rw [if_neg (by omega)]; exact hle7 _ _ hT4
      simp [cellH, h5]
    have hR : cellH W ⟨h1.size, 0, none⟩ = some vr := by
      have h5 : W h1.size = some (.cells #[vr] 22 (0, 0)) := by rw [hW]; simp only; rw [if_neg (by omega)]; exact hle27 _ _ hR2
      simp [cellH, h5]
    have hO : cellH W ⟨h4.size + 1, 0, none⟩ = some (.func (.func 43) #[] #[.pointer (some ⟨h3.size, 0, none⟩), .pointer (some ⟨h1.size, 0, none⟩), .pointer (some ⟨h4.size + 1, 0, none⟩), .pointer (some ⟨h4.size, 0, none⟩)]) := by
      have h5 : W (h4.size + 1) = h7[h4.size + 1]? := by rw [hW]; simp only; rw [if_neg (by omega)]
      rw [hrow] at h5
      simp [cellH, h5]
    have hvrW := hvr.mono hW1
    have hlen : g.length ≠ 0 := by simpa using h0
    have hcl := cleanS_len (g := g)
    have hfa : falses (List.replicate g.length false) = g.length := by simp [falses]
    simp [cellH_mono hWle hO]
    refine do_callv (ops := [.const (.int .i64 0)]) (f := 43) (caps := #[.pointer (some ⟨h3.size, 0, none⟩), .pointer (some ⟨h1.size, 0, none⟩), .pointer (some ⟨h4.size + 1, 0, none⟩), .pointer (some ⟨h4.size, 0, none⟩)]) (by simp) (by kernel_rfl)
      (by simpa using over1_ok (by omega) cleanS_in g.length (M := g.length) k7 hvrW hT hR hO (a := 0) (by omega) (by omega) (by simp [hcl]) (by rw [nth_eq (by simp; omega)]; simp) (by rw [hfa]; exact Nat.le_refl _) (by simp [hfa]) (by omega)) ?_
    rintro _ h8 ⟨⟨vl, k8⟩, hb8⟩
    have hord : gOrderS g = (overS (nx (cleanS g)) g.length 0 (List.replicate g.length false, [])).2.reverse := by simp [gOrderS, orderS, h0]
    rw [hord] at hK
    generalize overS (nx (cleanS g)) g.length 0 (List.replicate g.length false, []) = s at k8 hb8 hK
    simp [k8.cell]
    refine call_to (by kernel_rfl) (reverse_ok k8.ol) ?_
    rintro _ h9 ⟨o9, k9⟩
    have hB9 : h9[h4.size]? = some (.cells #[vl] 23 (0, 0)) := by rw [k9.block _ k8.lt (fun e => k8.nl e.symm)]; exact k8.box
    have hc9 : cellH (vw h9) ⟨h4.size, 0, none⟩ = some vl := by simp [cellH, vw, hB9]
    have hW9 := k9.view k8.wle k8.avl
    have hle9 : (vw h).le (vw h9) := View.le_trans (View.le_trans m1.old hW1) hW9
    have hav : Av (vw h) vl := fun b hb => by
      cases hx : vw h b with
      | none => rfl
      | some o => have := (View.le_trans m1.old hW1) _ _ hx; rw [k8.avl b hb] at this; cases this
    simp [hc9]
    exact hK _ _ ⟨hle9, o9.fresh (fun _ _ h => by cases h) hav⟩
end Go.Proofs.Ytaebcebflfgdiaa

namespace Go.Proofs.Ytaebcebflfgdiaa
open Go Go.Lft
set_option linter.unusedSimpArgs false
set_option linter.unusedVariables false

theorem back1_ok {l : List Int} {v : Value} {h : Heap} {p : Addr} {a b : Int} (hl : SlRd (vw h) v l) (hp : cellH (vw h) p = some v) (h0 : 0 ≤ a) (h1 : a < l.length) :
    HCalls Try.prog N.graph_back_1 #[.int .i64 a, .int .i64 b, .pointer (some p)] h (fun u h' => u = .bool (backS l a b) ∧ (vw h).le (vw h')) := by
  refine calls_lift (args := [.int .i64 a, .int .i64 b, .pointer (some p)]) follows Try.func54 E.graph_back_1 (by show 3 ≤ 21; decide) fun K hK => ?_
  have bl := hl.bound
  by_cases hg : a = 0 ∨ 0 ≤ nth l a.toNat
  · have hsp : backS l a b = dominatesS l b a := by
      rw [backS]
      rcases hg with h | h
      · rw [decide_eq_true h]; rfl
      · rw [decide_eq_true h, Bool.or_true]; rfl
    rw [hsp] at hK
    have fin : ∀ h2 : Heap, (vw h).le (vw h2) → K (.bool (dominatesS l b a)) h2 := fun h2 hle => hK _ _ ⟨rfl, hle⟩
    by_cases ha : a = 0
    · simp (disch := omega) [L.graph_back_1, hp, hl.idx1 rfl, hl.int (View.le_refl _), ha, grdP]
      subst ha
      refine call_to (by kernel_rfl) (dominates_ok hl) ?_
      rintro _ h2 ⟨rfl, hle⟩
      simpa using fin h2 hle
    · have hge : 0 ≤ nth l a.toNat := by rcases hg with h | h; exact absurd h ha; exact h
      simp (disch := omega) [L.graph_back_1, hp, hl.idx1 rfl, hl.int (View.le_refl _), ha, hge, grdP]
      refine call_to (by kernel_rfl) (dominates_ok hl) ?_
      rintro _ h2 ⟨rfl, hle⟩
      simpa using fin h2 hle
  · have h1 : ¬ a = 0 := fun h => hg (.inl h)
    have h2 : ¬ 0 ≤ nth l a.toNat := fun h => hg (.inr h)
    have hsp : backS l a b = false := by rw [backS, decide_eq_false h1, decide_eq_false h2]; rfl
    rw [hsp] at hK
    simp (disch := omega) [L.graph_back_1, hp, hl.idx1 rfl, hl.int (View.le_refl _), h1, h2, grdP]
    exact hK _ _ ⟨rfl, View.le_refl _⟩
end Go.Proofs.Ytaebcebflfgdiaa

namespace Go.Proofs.Ytaebcebflfgdiaa
open Go Go.Lft
set_option linter.unusedSimpArgs false
set_option linter.unusedVariables false

/-- Edges by rows. -/
def flatE (f : Nat → List Int) (n : Nat) : List (Int × Int) := (List.range n).flatMap fun a => (f a).map fun b => ((a : Int), b)
theorem flatE_succ {f : Nat → List Int} {n : Nat} : flatE f (n + 1) = flatE f n ++ (f n).map fun b => ((n : Int), b) := by simp [flatE, List.range_succ]
theorem flatE_pre {f : Nat → List Int} {n m : Nat} (h : n ≤ m) : ∃ t, flatE f m = flatE f n ++ t := by
  induction m with
  | zero => exact ⟨[], by simp [show n = 0 by omega]⟩
  | succ m ih =>
    rcases Nat.lt_or_ge n (m + 1) with h1 | h1
    · obtain ⟨t, ht⟩ := ih (by omega)
      exact ⟨t ++ (f m).map fun b => ((m : Int), b), by rw [flatE_succ, ht, List.append_assoc]⟩
    · exact ⟨[], by simp [show n = m + 1 by omega]⟩
theorem flatE_get {f : Nat → List Int} {n a j : Nat} (ha : a < n) (hj : j < (f a).length) : (flatE f n)[(flatE f a).length + j]? = some ((a : Int), nth (f a) j) := by
  obtain ⟨t, ht⟩ := flatE_pre (f := f) (n := a + 1) (m := n) (by omega)
  rw [ht, flatE_succ, List.append_assoc, List.getElem?_append_right (by omega), Nat.add_sub_cancel_left, List.getElem?_append_left (by simpa using hj)]
  simp [nth_eq hj, hj]

def edgesS (g : Gr) : List (Int × Int) := flatE (fun a => nth (cleanS g) a) g.length
def pairV (e : Int × Int) : List Value := [.int .i64 e.1, .int .i64 e.2]
def edgesV (g : Gr) : List (List Value) := (edgesS g).map pairV

theorem edges_ok {vg : Value} {h : Heap} :
    HCalls Try.prog N.graph_edges #[vg] h (fun v h' => v = .func (.func N.graph_edges_1) #[] #[.pointer (some ⟨h.size, 0, none⟩)] ∧ h' = h.push (.cells vg.cells 22)) := by
  refine calls_lift (args := [vg]) follows Try.func49 E.graph_edges (by show 1 ≤ 4; decide) fun K hK => ?_
  simp [L.graph_edges]
  refine do_box rfl ?_
  simp
  exact hK _ _ ⟨rfl, rfl⟩

theorem edges1_iter {g : Gr} {vg : Value} {V : View} {p : Addr} (hg : SlRd V vg g) (hp : cellH V p = some vg) (hs : Sm g) : Iter Try.prog N.graph_edges_1 [.pointer (some p)] V (edgesV g) := by
  intro l J W h hM hV hVl h0 hround
  have hW := (hM true 0).le h0
  refine calls_lift (args := [.func (.yield l) #[] #[], .pointer (some p)]) follows Try.func55 E.graph_edges_1 (by show 2 ≤ 28; decide) fun K hK => ?_
  simp [L.graph_edges_1, cellH_mono (View.le_trans hV hW) hp]
  refine call_to (by kernel_rfl) (clean_ok (hg.mono (View.le_trans hV hW)) hs) ?_
  rintro vr h1 ⟨W1, m1⟩
  have hJ1 := (hM true 0).grown h0 (Nat.le_refl _) m1.old
  have hr1 := m1.fresh.mono (fresh_grow W h h1)
  have hag : ∀ b, b < h.size → grow W h h1 b = W b := fun b hb => grow_same hb
  generalize grow W h h1 = W2 at hJ1 hr1 hag
  have hlen := hr1.bound
  have hcl := cleanS_len (g := g)
  obtain ⟨rv, hrv⟩ := hr1.rows
  simp [hr1.len]
  have hall : ∀ {a j : Nat}, a < (cleanS g).length → j < (nth (cleanS g) a).length → (edgesV g)[(flatE (fun a => nth (cleanS g) a) a).length + j]? = some [.int .i64 a, .int .i64 (nth (nth (cleanS g) a) j)] := by
    intro a j ha hj
    rw [edgesV, List.getElem?_map, edgesS, flatE_get (f := fun a => nth (cleanS g) a) (by omega) hj]; rfl
  refine lwp_range [0, 8, 9, 10] (fun (_ : Unit) k => [.func (.yield l) #[] #[], vr, .int .i64 (cleanS g).length, .int .i64 k]) (fun _ k h2 => J true (flatE (fun a => nth (cleanS g) a) k).length W2 h2) (cleanS g).length ()
    rfl (by omega) rfl hJ1 (fun _ _ => rfl) (fun v k h1 hk m => by simp) ?_ ?_
  · intro _ a h2 hlt hJ2 K2 hK2
    have hW2 := (hM _ _).le hJ2
    obtain ⟨cv, rr⟩ := hrv a hlt
    have br := rr.bound
    simp (disch := omega) [hr1.idx1 rfl, cv _ hW2, rr.len]
    refine lwp_range [0, 8, 9, 10, 3, 15, 16, 17] (fun (_ : Unit) j => [.func (.yield l) #[] #[], vr, .int .i64 (cleanS g).length, .int .i64 a, .int .i64 a, rv a, .int .i64 (nth (cleanS g) a).length, .int .i64 j])
      (fun _ j h3 => J true ((flatE (fun a => nth (cleanS g) a) a).length + j) W2 h3) (nth (cleanS g) a).length () rfl (by omega) rfl hJ2 (fun _ _ => rfl) (fun v k h1 hk m => by simp) ?_ ?_
    · intro _ j h3 hlt3 hJ3 K3 hK3
      have hW3 := (hM _ _).le hJ3
      simp (disch := omega) [rr.idx1 rfl, rr.int hW3]
      refine do_yield (ops := [.tmp 22, .tmp 23]) rfl (by simpa using hround _ _ W2 h3 hag (hall hlt hlt3) hJ3) ?_
      rintro b h4 ⟨W4, e1, e2, hJ4⟩
      cases b with
      | true =>
        obtain rfl := e2 rfl
        simp [condP_bool]
        exact hK3 () _ _ rfl rfl hJ4
      | false =>
        simp [condP_bool]
        exact hK _ _ ⟨false, _, W4, fun i hi hne => by rw [e1 i hne, hag i hi], hJ4, fun h => by cases h⟩
    · intro _ h3 hJ3
      simp
      refine hK2 () _ _ rfl rfl ?_
      rw [flatE_succ, List.length_append, List.length_map]; exact hJ3
  · intro _ h2 hJ2
    simp
    refine hK _ _ ⟨true, _, W2, fun i hi _ => hag i hi, hJ2, fun _ => ?_⟩
    rw [edgesV, List.length_map, edgesS, hcl]
end Go.Proofs.Ytaebcebflfgdiaa

namespace Go.Proofs.Ytaebcebflfgdiaa
open Go Go.Lft
set_option linter.unusedSimpArgs false
set_option linter.unusedVariables false

/-- Where each edge comes from. -/
def predStep (p : Gr) (e : Int × Int) : Gr := p.set e.2.toNat (nth p e.2.toNat ++ [e.1])
def predsG (g : Gr) : Gr := (edgesS g).foldl predStep (List.replicate g.length [])

theorem foldl_take_succ {β γ : Type} {f : β → γ → β} {l : List γ} {k : Nat} {x : γ} {b : β} (h : l[k]? = some x) : (l.take (k + 1)).foldl f b = f ((l.take k).foldl f b) x := by
  rw [List.take_add_one, h, List.foldl_append]; rfl
theorem edgesS_in {g : Gr} {e : Int × Int} (h : e ∈ edgesS g) : (0 ≤ e.1 ∧ e.1 < g.length) ∧ 0 ≤ e.2 ∧ e.2 < g.length := by
  simp only [edgesS, flatE, List.mem_flatMap, List.mem_range, List.mem_map] at h
  obtain ⟨a, ha, b, hb, rfl⟩ := h
  obtain ⟨j, hj, rfl⟩ := List.getElem_of_mem hb
  have := cleanS_in a (by rw [cleanS_len]; exact ha) j hj
  rw [cleanS_len, nth_eq hj] at this
  exact ⟨⟨by omega, by simp only; omega⟩, this⟩
theorem edgesV_get {g : Gr} {k : Nat} {vs : List Value} (h : (edgesV g)[k]? = some vs) : ∃ e, (edgesS g)[k]? = some e ∧ vs = [.int .i64 e.1, .int .i64 e.2] ∧ ((0 ≤ e.1 ∧ e.1 < g.length) ∧ 0 ≤ e.2 ∧ e.2 < g.length) := by
  rw [edgesV, List.getElem?_map, Option.map_eq_some_iff] at h
  obtain ⟨e, h1, rfl⟩ := h
  exact ⟨e, h1, rfl, edgesS_in (List.mem_of_getElem? h1)⟩
theorem predsG_len {l : List (Int × Int)} {p : Gr} : (l.foldl predStep p).length = p.length := by
  induction l generalizing p with
  | nil => rfl
  | cons e l ih => rw [List.foldl_cons, ih]; simp [predStep]

theorem predRow_len {l : List (Int × Int)} {p : Gr} {i m : Nat} (hp : (nth p i).length ≤ m) : (nth (l.foldl predStep p) i).length ≤ m + l.length := by
  induction l generalizing p m with
  | nil => exact hp
  | cons e l ih =>
    rw [List.foldl_cons]
    have := ih (p := predStep p e) (m := m + 1) ?_
    · simp only [List.length_cons]; omega
    · unfold predStep
      rcases Nat.lt_or_ge i p.length with hi | hi
      · rw [nth_set hi]
        split
        · rename_i h; rw [h]; simp; omega
        · omega
      · rw [nth_ge (by simpa using hi)]; simp [default]
theorem keptS_len {row : List Int} {n : Int} : (keptS row n).length ≤ row.length := by
  have h1 := sift_len (p := keptP row n) (x := fun i => nth row i) row.length
  have h2 : (sortS (sift (keptP row n) (fun i => nth row i) row.length)).length = (sift (keptP row n) (fun i => nth row i) row.length).length := List.length_mergeSort _
  have h3 := compact_len (l := sortS (sift (keptP row n) (fun i => nth row i) row.length))
  rw [keptS]; omega
theorem flatE_len {f : Nat → List Int} {n m : Nat} (h : ∀ a, a < n → (f a).length ≤ m) : (flatE f n).length ≤ n * m := by
  induction n with
  | zero => simp [flatE]
  | succ n ih =>
    have := ih fun a ha => h a (by omega)
    have := h n (by omega)
    rw [flatE_succ, List.length_append, List.length_map, Nat.succ_mul]; omega
theorem edgesS_len {g : Gr} (hs : Sm g) : (edgesS g).length ≤ 1000000000000 := by
  have h1 := flatE_len (f := fun a => nth (cleanS g) a) (n := g.length) (m := 1000000) fun a ha => by
    have := hs.2 a ha
    rw [cleanS, nth_rows ha]
    exact Nat.le_trans keptS_len this
  have h2 : g.length * 1000000 ≤ 1000000 * 1000000 := Nat.mul_le_mul_right _ hs.1
  rw [edgesS]; omega

theorem preds_ok {g : Gr} {vg : Value} {h : Heap} (hg : SlRd (vw h) vg g) (hs : Sm g) :
    HCalls Try.prog N.graph_Preds #[vg] h (fun v h' => (vw h).le (vw h') ∧ SlRd (fresh h h') v (predsG g)) := by
  refine calls_liftM (args := [vg]) follows Try.func27 E.graph_Preds (by show 1 ≤ 24; decide) fun K hK => ?_
  have hs1 := hs.1
  have hel := edgesS_len hs
  simp [L.graph_Preds, hg.len]
  refine do_make1 (n := g.length) elem22 (by simp <;> rfl) (by simp <;> rfl) rfl (by omega) (by omega) ?_
  refine do_newvar (z := .slice none 0 0) (v := .slice (some ⟨h.size, 0, none⟩) g.length g.length) (by kernel_rfl) rfl (by kernel_rfl) rfl rfl (fun _ => by simp) (fun _ => by simp) fun h2 hle2 hsz2 hB2 => ?_
  have hle02 : (vw h).le (vw h2) := View.le_trans (push_le _ _) hle2
  have hg2 : h2[h.size]? = some (.cells (List.replicate g.length (.slice none 0 0)).toArray 23 (0, 0)) := hle2 _ _ (show (h.push _)[h.size]? = _ by simp)
  simp at hsz2 hB2
  simp
  refine call_to (by kernel_rfl) edges_ok ?_
  rintro _ _ ⟨rfl, rfl⟩
  have hgc := hg.cells.1
  rw [hgc]
  have hle3 := push_le h2 (.cells #[vg] 22)
  generalize hh3 : h2.push (.cells #[vg] 22) = h3 at hle3
  have hsz3 : h3.size = h.size + 3 := by rw [← hh3]; simp [hsz2]
  obtain ⟨W0, hW0⟩ : ∃ W : View, W = fun b => if b = h.size then none else h3[b]? := ⟨_, rfl⟩
  have hW0le : W0.le (vw h3) := fun b o hb => by
    rw [hW0] at hb; simp only at hb
    split at hb
    · cases hb
    · exact hb
  have h0W : (vw h).le W0 := fun b o hb => by
    have hlt := View.lt (View.le_refl (vw h)) hb
    rw [hW0]; simp only
    rw [if_neg (by omega)]
    exact View.le_trans hle02 hle3 b o hb
  have hp3 : cellH W0 ⟨h2.size, 0, none⟩ = some vg := by
    have e : W0 h2.size = some (.cells #[vg] 22 (0, 0)) := by rw [hW0]; simp only; rw [if_neg (by omega), ← hh3]; simp
    simp [cellH, e]
  have hB3 : W0 (h.size + 1) = some (.cells #[.slice (some ⟨h.size, 0, none⟩) g.length g.length] 22 (0, 0)) := by
    rw [hW0]; simp only; rw [if_neg (by omega)]
    exact hle3 _ _ hB2
  refine lwp_rangef (enc := pairV) (all := edgesS g) (gf := N.graph_edges_1) (caps := [.pointer (some ⟨h2.size, 0, none⟩)]) W0 W0 (fun e k W h' => e = none ∧ ∃ rv, Rw W h' 23 3 h.size rv (((edgesS g).take k).foldl predStep (List.replicate g.length [])))
    rfl (by kernel_rfl) (edges1_iter (hg.mono h0W) hp3 hs) (fun _ => rfl) (View.le_refl _) (fun e k => ⟨fun ⟨_, rv, r⟩ => r.wle, fun ⟨a, rv, r⟩ _ h1 h2 _ => ⟨a, rv, r.move h1 h2⟩⟩) ⟨rfl, _, Rw.start hW0le (by rw [hW0]; simp) (hle3 _ _ hg2)⟩
    (fun x h1 => by simp [pairV, setsE]; rfl) ?_ ?_ ?_
  · rintro k e W h1 hag hk ⟨_, rv, r⟩ K2 hK2 _
    have he := edgesS_in (List.mem_of_getElem? hk)
    have hk1 : k < (edgesS g).length := (List.getElem?_eq_some_iff.1 hk).1
    have hst := foldl_take_succ (f := predStep) (b := List.replicate g.length []) hk
    have hpl := predsG_len (l := (edgesS g).take k) (p := List.replicate g.length [])
    have hrl := predRow_len (l := (edgesS g).take k) (p := List.replicate g.length []) (i := e.2.toNat) (m := 0) (by rw [nth_replicate (by omega)]; simp)
    rw [List.length_take] at hrl
    rw [List.length_replicate] at hpl
    generalize hp : ((edgesS g).take k).foldl predStep (List.replicate g.length []) = p at r hst hpl hrl
    have hlt := r.lt
    have hB1 : h1[h.size + 1]? = some (.cells #[.slice (some ⟨h.size, 0, none⟩) g.length g.length] 22 (0, 0)) := r.wle _ _ (by rw [hag _ (by omega)]; exact hB3)
    have hlt1 := (Array.getElem?_eq_some_iff.1 hB1).1
    obtain ⟨H, hH⟩ : ∃ H : View, H = fun b => if b = h.size ∨ b = h.size + 1 then h1[b]? else none := ⟨_, rfl⟩
    have hHle : H.le (vw h1) := fun b o hb => by
      rw [hH] at hb; simp only at hb
      split at hb
      · exact hb
      · cases hb
    have c1 : cellH H ⟨h.size + 1, 0, none⟩ = some (.slice (some ⟨h.size, 0, none⟩) g.length g.length) := cellH_blk (by rw [hH]; simp only; rw [if_pos (by simp)]; exact hB1) rfl
    have hlen := r.len
    have c2 : cellH H ⟨h.size, e.2.toNat, none⟩ = some (nth rv e.2.toNat) := cellH_blk (by rw [hH]; simp only; rw [if_pos (by simp)]; exact r.blk) (by rw [nth_eq (by omega)]; simp)
    refine drawn_at H hHle ?_
    simp (disch := omega) [c1, c2, bn_idx1]
    refine do_one (α := Int) (W := nothing) elem23 (by simp <;> rfl) (rd_i (by omega) (by omega)) fun u h4 hsrc hle4 _ => ⟨View.le_trans hHle hle4, ?_⟩
    have r4 := r.ext hle4
    have hi : e.2.toNat < p.length := by omega
    refine do_append elem23 (by simp) (by simp) (r4.own _ hi) hsrc (by simp; omega) (by simp; omega) fun v' h5 o5 m5 => ?_
    have hg5 : h5[h.size]? = some (.cells rv.toArray 23 (0, 0)) := by rw [m5.kept.block _ r4.lt (fun e => r4.ng _ hi e.symm)]; exact r4.blk
    obtain ⟨hcells, hone⟩ := cells_of_own o5
    have hH5 : H.le (vw h5) := by
      intro b o hb
      have hlt4 := View.lt (View.le_trans hHle hle4) hb
      have h4b := View.le_trans hHle hle4 b o hb
      show h5[b]? = _
      rw [m5.kept.block b hlt4 ?_]
      · exact h4b
      · rw [hH] at hb; simp only at hb
        split at hb
        · rename_i e1
          rcases e1 with rfl | rfl
          · exact fun e => r4.ng _ hi e.symm
          · intro e
            have := r4.av _ hi _ e.symm
            rw [hag _ (by omega), hB3] at this; cases this
        · cases hb
    refine ⟨hH5, ?_⟩
    refine do_store (g := h.size) (o := e.2.toNat) (n := 1) (v := v') (by kernel_rfl) (by simp) (by simp) (by rw [hcells]; rfl) (by rw [hcells]; simpa using hone) hg5 (by simp; omega) fun h6 hsz6 ⟨row, hrow, hre⟩ hoth => ?_
    refine hK2 _ _ ⟨rfl, rv.set e.2.toNat v', ?_⟩
    rw [hst, predStep]
    have hrow2 : row = (rv.set e.2.toNat v').toArray := by
      rw [← Array.toList_inj, hre, hcells, List.set_eq_take_append_cons_drop, if_pos (by omega)]
      simp
    rw [hrow2] at hrow
    exact r4.put hi o5 m5 hrow hoth hsz6
  · rintro W h1 hag ⟨_, rv, r⟩
    rw [List.take_of_length_le (Nat.le_refl _)] at r
    have hB1 : h1[h.size + 1]? = some (.cells #[.slice (some ⟨h.size, 0, none⟩) g.length g.length] 22 (0, 0)) := r.wle _ _ (by rw [hag _ (by omega)]; exact hB3)
    have c1 : cellH (vw h1) ⟨h.size + 1, 0, none⟩ = some (.slice (some ⟨h.size, 0, none⟩) g.length g.length) := cellH_blk hB1 rfl
    simp [c1]
    intro h4 hsw
    have hWW : (vw h).le W := fun b o hb => by rw [hag b (by have := View.lt (View.le_refl (vw h)) hb; omega)]; exact h0W b o hb
    have hfl := predsG_len (l := edgesS g) (p := List.replicate g.length [])
    rw [List.length_replicate] at hfl
    have hfr := r.fresh hWW (by omega)
    rw [hfl] at hfr
    exact ⟨_, rfl, hK _ _ ⟨hsw.ext (View.le_trans hWW r.wle), hsw.rd hfr⟩⟩
  · rintro e k W h1 hag ⟨hne, _⟩
    cases hne
end Go.Proofs.Ytaebcebflfgdiaa

namespace Go.Proofs.Ytaebcebflfgdiaa
open Go Go.Lft
set_option linter.unusedSimpArgs false
set_option linter.unusedVariables false

/-- Each block's place in the order. -/
def numberS (n : Nat) (order : List Int) : List Int := up (fun i l => l.set (nth order i).toNat (i : Int)) order.length (List.replicate n (-1))
/-- The nearest one above all from which one comes. -/
def bstS (out number : List Int) (n : Nat) : List Int → Int → Option Int
  | [], best => some best
  | a :: l, best =>
    if 0 ≤ a ∧ a < n then
      if nth number a.toNat < 0 ∨ (a ≠ 0 ∧ nth out a.toNat < 0) then bstS out number n l best
      else if best < 0 then bstS out number n l a
      else (commonS out number (2 * n + 2) best a).bind (bstS out number n l)
    else none
def setS (out : List Int) (ch : Bool) (b best : Int) : List Int × Bool := if nth out b.toNat ≠ best then (out.set b.toNat best, true) else (out, ch)
def sweepS (number : List Int) (preds : Gr) (n : Nat) : List Int → List Int × Bool → Option (List Int × Bool)
  | [], s => some s
  | b :: l, s =>
    if 0 ≤ b ∧ b < n then (bstS s.1 number n (nth preds b.toNat) (-1)).bind fun best => sweepS number preds n l (setS s.1 s.2 b best)
    else none
def idomLoop (number : List Int) (preds : Gr) (n : Nat) (tail : List Int) : Nat → List Int → Option (List Int)
  | 0, _ => none
  | m + 1, out => (sweepS number preds n tail (out, false)).bind fun s => if s.2 then idomLoop number preds n tail m s.1 else some s.1
def idomG (g : Gr) (fuel : Nat) : Option (List Int) :=
  idomLoop (numberS g.length (gOrderS g)) (predsG g) g.length ((gOrderS g).drop (min 1 (gOrderS g).length)) fuel (List.replicate g.length (-1))

theorem commonS_range {out number : List Int} {c : Int} : ∀ {k : Nat} {x y : Int}, commonS out number k x y = some c → 0 ≤ c ∧ c < number.length
  | 0, x, y, h => by cases h
  | k + 1, x, y, h => by
    rw [commonS] at h
    split at h
    case isFalse => cases h
    rename_i hr
    split at h
    · exact commonS_range h
    · split at h
      · exact commonS_range h
      · cases h; omega
theorem bstS_range {out number : List Int} {n : Nat} : ∀ {l : List Int} {best r : Int}, (-1 ≤ best ∧ best < n) → out.length = n → number.length = n → (∀ i, i < n → -1 ≤ nth out i ∧ nth out i < n) → bstS out number n l best = some r → -1 ≤ r ∧ r < n := by
  intro l
  induction l with
  | nil => intro best r hb _ _ _ h; simp only [bstS, Option.some.injEq] at h; subst h; exact hb
  | cons a l ih =>
    intro best r hb h1 h2 h3 h
    rw [bstS] at h
    split at h
    case isFalse => cases h
    rename_i ha
    split at h
    · exact ih hb h1 h2 h3 h
    · split at h
      · exact ih ⟨by omega, by omega⟩ h1 h2 h3 h
      · simp only [Option.bind_eq_some_iff] at h
        obtain ⟨c, hc, h⟩ := h
        refine ih ?_ h1 h2 h3 h
        have := commonS_range hc
        omega
theorem setS_len {out : List Int} {ch : Bool} {b best : Int} : (setS out ch b best).1.length = out.length := by unfold setS; split <;> simp

/-- What going over blocks keeps. -/
structure OvOk (m M : Nat) (s : List Bool × List Int) : Prop where
  len : s.1.length = m
  cnt : s.2.length + falses s.1 ≤ M
  rng : ∀ x ∈ s.2, 0 ≤ x ∧ x < m
theorem overS_ok {nx : Int → List Int} {m : Nat} (hnx : ∀ a : Int, 0 ≤ a → a < m → ∀ i, i < (nx a).length → 0 ≤ nth (nx a) i ∧ nth (nx a) i < m) : ∀ (n M : Nat) (a : Int) (s : List Bool × List Int), 0 ≤ a → a < m → nth s.1 a.toNat = false → OvOk m M s → OvOk m M (overS nx n a s)
  | 0, _, _, _, _, _, _, h => h
  | n + 1, M, a, s, h0, h1, hf, h => by
    rw [overS_succ]
    have hlen := h.len
    have hfs := falses_set (t := s.1) (i := a.toNat) (by omega) hf
    have hc := h.cnt
    have hup : ∀ k, k ≤ (nx a).length → OvOk m (M - 1) (up (overStep nx n a) k (s.1.set a.toNat true, s.2)) := by
      intro k
      induction k with
      | zero => exact fun _ => ⟨by simpa [up] using hlen, by simp only [up]; omega, h.rng⟩
      | succ k ih =>
        intro hk
        have := ih (by omega)
        rw [up]
        generalize up (overStep nx n a) k (s.1.set a.toNat true, s.2) = z at this
        unfold overStep
        split
        · exact this
        · rename_i hz
          obtain ⟨e0, e1⟩ := hnx a h0 h1 k (by omega)
          exact overS_ok hnx n (M - 1) _ z e0 e1 (by simpa using hz) this
    have := hup _ (Nat.le_refl _)
    exact ⟨this.len, by have := this.cnt; simp; omega, fun x hx => by
      rcases List.mem_append.1 hx with hx | hx
      · exact this.rng x hx
      · simp only [List.mem_singleton] at hx; subst hx; exact ⟨h0, h1⟩⟩
theorem orderS_ok {nx : Int → List Int} {m : Nat} (hnx : ∀ a : Int, 0 ≤ a → a < m → ∀ i, i < (nx a).length → 0 ≤ nth (nx a) i ∧ nth (nx a) i < m) : (orderS nx m).length ≤ m ∧ ∀ x ∈ orderS nx m, 0 ≤ x ∧ x < m := by
  unfold orderS
  split
  · simp
  · rename_i h0
    have := overS_ok hnx m m 0 (List.replicate m false, []) (by omega) (by omega) (nth_replicate (by simp; omega)) ⟨by simp, by simp [falses], by simp⟩
    refine ⟨?_, fun x hx => this.rng x (by simpa using hx)⟩
    have := this.cnt
    simp; omega
theorem nx_in {g : Gr} : ∀ a : Int, 0 ≤ a → a < (g.length : Int) → ∀ i, i < (nx (cleanS g) a).length → 0 ≤ nth (nx (cleanS g) a) i ∧ nth (nx (cleanS g) a) i < g.length := by
  intro a h0 h1 i hi
  have := cleanS_in a.toNat (by rw [cleanS_len]; omega) i hi
  rwa [cleanS_len] at this
theorem gOrder_in {g : Gr} {i : Nat} (hi : i < (gOrderS g).length) : 0 ≤ nth (gOrderS g) i ∧ nth (gOrderS g) i < g.length :=
  (orderS_ok nx_in).2 _ (nth_mem hi)
theorem gOrder_len {g : Gr} : (gOrderS g).length ≤ g.length := (orderS_ok nx_in).1
theorem predsG_in {g : Gr} : ∀ {l : List (Int × Int)} {p : Gr}, (∀ e ∈ l, 0 ≤ e.1 ∧ e.1 < g.length) → (∀ i, ∀ x ∈ nth p i, 0 ≤ x ∧ x < g.length) → ∀ i, ∀ x ∈ nth (l.foldl predStep p) i, 0 ≤ x ∧ x < g.length := by
  intro l
  induction l with
  | nil => exact fun _ h => h
  | cons e l ih =>
    intro p hl hp
    rw [List.foldl_cons]
    refine ih (fun e' he' => hl e' (List.mem_cons_of_mem _ he')) fun i x hx => ?_
    unfold predStep at hx
    rcases Nat.lt_or_ge i p.length with hi | hi
    · rw [nth_set hi] at hx
      split at hx
      · rcases List.mem_append.1 hx with hx | hx
        · exact hp _ x hx
        · simp only [List.mem_singleton] at hx; subst hx; exact hl e (List.mem_cons_self ..)
      · exact hp _ x hx
    · rw [nth_ge (by simpa using hi)] at hx; cases hx
end Go.Proofs.Ytaebcebflfgdiaa

