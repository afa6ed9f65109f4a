/- For every input CheckWays returns true: whatever way control takes through a function that may be, each operand was made, or is a parameter, ahead of where it is taken. No condition. -/
import Derived.Test.YtfelpjfopgiabaaZWays5
import Derived.Test.YtfelpjfopgiabaaRows
set_option linter.unusedSimpArgs false
set_option linter.unusedVariables false
namespace Go.Proofs.Ytfelpjfopgiabaa
open Go Go.Lft
theorem rd_inD {H : View} {a b : Int} (ha : I64 a) (hb : I64 b) : Rd H (.agg #[.int .i64 a, .int .i64 b]) (InD.mk a b) := ⟨_, rfl, [.int .i64 a], [.int .i64 b], rfl, ⟨rfl, ha⟩, rfl, hb⟩
section
variable {s : List Int} {M : Nat} {vs : Value} {W0 : View} {h : Heap} {o0 : Own} {m : MS}
theorem Nx.addInts (x : Nx s M vs W0 h o0 m) {h' : Heap} {k : Key} {u : Value} {l : List Int} (h3 : 3 ≤ k.1) (hk : o0 k = none) (hle : (vw h).le (vw h')) (hb : ∀ b, u.ownBlock = some b → h.size ≤ b) (ho : OwnT nothing h' T.int u l) : Nx s M vs W0 h' (o0.upd k (it T.int u l)) m := by
 obtain ⟨W, o, g, w, f⟩ := x
 have w2 := w.own.add (k := k) ((f k h3).trans hk) (own_ints (W' := W) ho) hle hb
 obtain ⟨vb, vl, lb, bb⟩ := w.box
 refine ⟨W, _, g, ⟨w2, w.src, vb, vl, lb, bb.frame fun q hq => Own.upd_ne (by rintro rfl; omega)⟩, fun q hq => ?_⟩
 unfold Own.upd
 split
 ·rfl
 ·exact f q hq
theorem Nx.freeze {α : Type} [r : Rep α] {k : Key} {e : TypeId} {v : Value} {l : List α} (x : Nx s M vs W0 h (o0.upd k (it e v l)) m) (h3 : 3 ≤ k.1) (hk : o0 k = none) : ∃ W', W0.le W' ∧ Nx s M vs W' h o0 m ∧ SlRd W' v l := by
 obtain ⟨W, o, g, w, f⟩ := x
 have hk2 := (f k h3).trans Own.upd_self
 obtain ⟨w2, sl⟩ := w.own.freeze hk2
 have hWp := le_plus (h := h) (w.own.av _ _ hk2)
 obtain ⟨vb, vl, lb, bb⟩ := w.box
 refine ⟨_, View.le_trans g hWp, ⟨_, _, View.le_refl _, ⟨w2, w.src.mono hWp, vb, vl, lb, bb.frame fun q hq => Own.upd_ne (by rintro rfl; omega)⟩, fun q hq => ?_⟩, sl⟩
 by_cases e2 : q = k
 ·rw [e2, Own.upd_self, hk]
 ·rw [Own.upd_ne e2, f q hq, Own.upd_ne e2]
theorem Nx.do_push {po po2 : OP} {α : Type} [r : Rep α] {k : Key} {e t ty ty2 : TypeId} {bytes : Nat} {z : Value} {v : Value} {l : List α} (x : Nx s M vs W0 h o0 m) (h3 : 3 ≤ k.1) (hk : o0 k = it e v l) {a y y2 : Operand} {us : List (Nat × Value)} {us2 : Value → List (Nat × Value)} {u : Value} {d : α} {K : Value → Value → Heap → Prop} (hT : ElemT Try.prog t e (Rep.n α) bytes z) (hx : asg us a = u) (hr : ∀ W, Rd W u d)
  (hb : (l.length + 1) * bytes ≤ 140737488355328) (hb2 : l.length + 1 ≤ 140737488355328) (hy : ∀ u, asg (us2 u) y = v) (hy2 : ∀ u, asg (us2 u) y2 = u)
  (hK : ∀ u v' h', Nx s M vs W0 h' (o0.upd k (it e v' (l ++ [d]))) m → K u v' h') :
  @Lft.step po Try.prog (.buildSlice t 1 #[(0, a)]) ty us h fun u h2 => @Lft.step po2 Try.prog (.call ⟨.builtin .append, #[y, y2], #[t, t]⟩) ty2 (us2 u) h2 fun v' h3 => K u v' h3 := by
 obtain ⟨W, o, g, w, f⟩ := x
 refine w.own.do_push (k := k) (d := d) ((f k h3).trans hk) hT hx (hr W) hb hb2 hy hy2 fun u v' h' w2 _ => hK u v' h' ?_
 obtain ⟨vb, vl, lb, bb⟩ := w.box
 refine ⟨W, _, g, ⟨w2, w.src, vb, vl, lb, bb.frame fun q hq => Own.upd_ne (by rintro rfl; omega)⟩, fun q hq => ?_⟩
 unfold Own.upd
 split
 ·rfl
 ·exact f q hq
theorem made_l15 {n a p i b j : Nat} {vr vt vp vd vq vi : Value} {pl : List Int} (x : Nx s M vs W0 h (o0.upd (7, 2) (it T.api_In vi ([] : List InD))) m) (f71 : o0 (7, 1) = none) (q : P3 n a p i m) (hn : n ≤ 10) (ha : a ≤ 500000) (hia : i ≤ a) (hp : p ≤ 100) (hi : i ≤ 2000) (hq : SlRd W0 vq pl) (hpl : pl.length ≤ 9) (hpr : ∀ k, k < pl.length → ∃ c : Nat, nth pl k = c ∧ c < n) {Q : Post} {ρ : Env}
  (h0 : keepE [2, 3, 4, 5, 7, 11, 25, 26, 27, 28, 29] ρ = [(2, vr), (3, .pointer (some ⟨M, 0, none⟩)), (4, .int .i64 n), (5, vt), (7, vp), (11, vd), (25, .int .i64 b), (26, vq), (27, .int .i64 j), (28, vi), (29, .int .i64 0)])
  (hQ : ∀ (h' : Heap) vi, Nx s M vs W0 h' (o0.upd (7, 2) (it T.api_In vi (up (inStep s pl) pl.length ([], m)).1)) (up (inStep s pl) pl.length ([], m)).2 → Q .normal [(2, vr), (3, .pointer (some ⟨M, 0, none⟩)), (4, .int .i64 n), (5, vt), (7, vp), (11, vd), (25, .int .i64 b), (26, vq), (27, .int .i64 j), (28, vi), (29, .int .i64 pl.length)] h') :
  LC.wp Try.prog (.block 28 (.loop L.ref03_Made.l15)) Q ρ h := by
 simp only [lwp_block]
 refine lwp_for [2, 3, 4, 5, 7, 11, 25, 26, 27, 28, 29] (fun (vi : Value) k => [vr, .pointer (some ⟨M, 0, none⟩), .int .i64 n, vt, vp, vd, .int .i64 b, vq, .int .i64 j, vi, .int .i64 k]) (fun vi k h2 => Nx s M vs W0 h2 (o0.upd (7, 2) (it T.api_In vi (up (inStep s pl) k ([], m)).1)) (up (inStep s pl) k ([], m)).2) pl.length vi
  rfl (by omega) h0 x (fun _ _ => rfl) (fun v k h2 hk2 x2 => by simp [hq.len]) ?_ ?_
 ·rintro vi k h2 hlt x2 K2 hK2
  obtain ⟨q2, hl2⟩ := up_inStep (s := s) (pl := pl) (x := ([], m)) q k
  obtain ⟨c, hc, hcn⟩ := hpr k hlt
  have e2 : up (inStep s pl) (k + 1) ([], m) = inStep s pl k (up (inStep s pl) k ([], m)) := rfl
  rw [e2, inStep_eq hc] at hK2
  have hl2 : (up (inStep s pl) k ([], m)).1.length ≤ 9 := by rw [hl2]; simp; omega
  generalize up (inStep s pl) k ([], m) = y at x2 hK2 q2 hl2
  obtain ⟨il, m2⟩ := y
  have q2 : P3 n (a + 54) p (i + 9) m2 := P3.mono q2 (by omega) (Nat.le_refl _) (by omega)
  have hl2 : il.length ≤ 9 := hl2
  have x2 : Nx s M vs W0 h2 (o0.upd (7, 2) (it T.api_In vi il)) m2 := x2
  simp only at hK2
  have hcell : ∀ {h' : Heap}, W0.le (vw h') → cellH (vw h') ((slA vq).add k) = some (.int .i64 c) := fun g => by rw [hq.int g hlt, hc]
  have hcell0 : cellH W0 ((slA vq).add k) = some (.int .i64 c) := by rw [hq.int (View.le_refl _) hlt, hc]
  have hrow : rowS s c m2 = _ := rowS.eq_1 s c m2
  have hq3 := rowS_ok (s := s) (b := c) q2
  have hpos := rowS_pos (s := s) (b := c) (m := m2)
  have hrl0 := rowS_len (s := s) (b := c) q2.z hn (by omega) (by omega)
  simp only [lwp_block]
  refine lwp_hide fun y hy => ?_
  obtain ⟨vb, vl, rd⟩ := x2.z.reads
  refine drawn_at (vw h2) (View.le_refl _) ?_
  simp (disch := omega) [rd.f, (hq.mono x2.z.le).idx1 rfl, hcell x2.z.le]
  have hth : (thingsS m2.f).length ≤ 60000 := mkThings_len q2.z hn (by omega) (by omega)
  refine call_to (by kernel_rfl) (standing_ok (b := c) (rd.rd (i64ps q2.z)) (q2.g.smF q2.z (by omega) (by omega) (by omega)) ⟨q2.z.ps0, by have := q2.z.ps1; show m2.ps ≤ _; omega⟩ (by show c < m2.blocks.length; rw [q2.z.len]; exact hcn) (thTo_mks _) (by omega)) ?_
  rintro u3 h3 ⟨hle3, hb3, ho3⟩
  have x3 := x2.addInts (k := (7, 1)) (by decide) ((Own.upd_ne (by simp)).trans f71) hle3 hb3 ho3
  clear rd x2 ho3 hb3
  generalize standingS m2.f c = sl at x3 hrow
  rw [hy]; clear hy y
  refine lwp_hide fun y hy => ?_
  have fin : ∀ (v30 : Value) (h' : Heap) (ρ : Env), Nx s M vs W0 h' ((o0.upd (7, 2) (it T.api_In vi il)).upd (7, 1) (it T.int v30 (rowS s c m2).1)) (rowS s c m2).2 → Lft.look ρ 2 = some vr → Lft.look ρ 3 = some (.pointer (some ⟨M, 0, none⟩)) → Lft.look ρ 4 = some (.int .i64 n) → Lft.look ρ 5 = some vt → Lft.look ρ 7 = some vp → Lft.look ρ 11 = some vd → Lft.look ρ 25 = some (.int .i64 b) → Lft.look ρ 26 = some vq → Lft.look ρ 27 = some (.int .i64 j) → Lft.look ρ 28 = some vi → Lft.look ρ 29 = some (.int .i64 k) → Lft.look ρ 30 = some v30 →
    LC.wp Try.prog y (inBlk 29 (thenL K2 (inBlk 28 Q))) ρ h' := by
   intro v30 h' ρ x4 r2 r3 r4 r5 r7 r11 r25 r26 r27 r28 r29 r30
   rw [hy]; clear hy y
   generalize rowS s c m2 = r at x4 hK2 hq3 hpos hrl0
   obtain ⟨W4, hW4, x4, s4⟩ := x4.freeze (by decide) ((Own.upd_ne (by simp)).trans f71)
   have hrl := s4.bound
   refine drawn_at W4 x4.z.le ?_
   simp (disch := omega) [look_setE, look_kill, r2, r3, r4, r5, r7, r11, r25, r26, r27, r28, r29, r30, (hq.mono hW4).idx1 rfl, cellH_mono hW4 hcell0, s4.len]
   refine call_to (by kernel_rfl) (nz_take x4.z (hq3.z.ok (by omega)) (by omega) (k := (r.1.length : Int)) (by omega) (by omega)) ?_
   rintro _ h5 ⟨rfl, n5⟩
   refine ⟨n5.le, ?_⟩
   obtain ⟨t0, t1⟩ := takeV_rng (s := s) (at_ := r.2.at_) (n := (r.1.length : Int)) (by omega)
   generalize takeV s r.2.at_ (r.1.length : Int) = tv at t0 t1 hK2
   have hrng := s4.range (i := tv.toNat) (by omega)
   simp (disch := omega) [look_setE, look_kill, r2, r3, r4, r5, r7, r11, r25, r26, r27, r28, r29, r30, s4.idx1 rfl, s4.int (View.le_refl _)]
   refine do_build (z := .agg #[.int .i64 0, .int .i64 0]) (places := [(0, 1), (1, 1)]) (vs := [(0, .int .i64 c), (1, .int .i64 (nth r.1 tv.toNat))]) (cs := #[.int .i64 c, .int .i64 (nth r.1 tv.toNat)]) (by kernel_rfl) (by kernel_rfl) (by simp) (by rfl) ?_
   refine n5.x.do_push (k := (7, 2)) (α := InD) (d := ⟨c, nth r.1 tv.toNat⟩) (by decide) Own.upd_self El.s_api_In rfl (fun W => rd_inD ⟨by omega, by omega⟩ hrng) (by omega) (by omega) (fun _ => rfl) (fun _ => rfl) fun u v' h6 x6 => ?_
   refine hK2 v' _ _ ?_ ?_ ((x6.re fun q => by rw [upd_upd]).up hW4)
   ·simp [look_setE, look_kill, r29]
   ·simp [keepE, look_setE, look_kill, r2, r3, r4, r5, r7, r11, r25, r26, r27, r28, r29]
  have hsl := (x3.z.at (k := (7, 1)) (by decide) Own.upd_self).len (K := vw h3)
  have hlen3 : ∀ {Q : View}, Un.ev Q .len u3 = some (.int .i64 sl.length) := fun {Q} => (x3.z.at (k := (7, 1)) (by decide) Own.upd_self).len
  refine lwp_hide fun w hw => ?_
  simp [hlen3]
  rw [hw]; clear hw w
  by_cases c0 : sl.length = 0
  ·have c0' : sl = [] := List.eq_nil_of_length_eq_zero c0
   rw [if_pos c0] at hrow
   refine lwp_cond_t (by simp [c0, c0']) ?_
   refine drawn_at W0 x3.z.le ?_
   simp (disch := omega) [hq.idx1 rfl, hcell0]
   refine call_to (by kernel_rfl) (nz_word x3.z (q2.z.ok (by omega)) (by omega)) ?_
   rintro _ h4 ⟨rfl, n4⟩
   refine ⟨n4.le, ?_⟩
   refine call_to (by kernel_rfl) (nz_constant n4 (b := c) (by show c < m2.blocks.length; rw [q2.z.len]; exact hcn) (q2.z.took.took.ok (by omega)) (by omega) wordV_rng) ?_
   rintro _ h5 ⟨rfl, n5⟩
   have i64 : I64 m2.next := by have := q2.z.n0; have := q2.z.next; constructor <;> omega
   subst c0'
   refine n5.x.do_push (k := (7, 1)) (α := Int) (d := m2.next) (by decide) Own.upd_self El.s_int rfl (fun W => rd_int.2 ⟨rfl, i64⟩) (by simp) (by simp) (fun _ => rfl) (fun _ => rfl) fun u v' h6 x6 => ?_
   refine fin v' h6 _ ?_ ?_ ?_ ?_ ?_ ?_ ?_ ?_ ?_ ?_ ?_ ?_ ?_
   ·rw [hrow]
    exact x6.re fun q => by rw [upd_upd]; rfl
   all_goals simp
  ·rw [if_neg c0] at hrow
   have c0' : ¬ sl = [] := fun e => c0 (by rw [e]; rfl)
   refine lwp_cond_f (by simp [c0']) ?_
   simp
   refine fin u3 h3 _ ?_ ?_ ?_ ?_ ?_ ?_ ?_ ?_ ?_ ?_ ?_ ?_ ?_
   ·rw [hrow]; exact x3
   all_goals simp
 ·rintro vi h2 x2
  exact hQ h2 vi x2
end
end Go.Proofs.Ytfelpjfopgiabaa
namespace Go.Proofs.Ytfelpjfopgiabaa
open Go Go.Lft
def Pc (lp : List Int) (m : MS) : Prop := ∀ j, ((nth m.blocks j).phis.length : Int) = nth lp j
theorem Pc.grw {lp : List Int} {m m' : MS} {b k : Nat} (p : Pc lp m) (g : Grw b k m m') : Pc lp m' := fun j => by
 by_cases e : j = b
 ·subst e; rw [g.phis]; exact p j
 ·rw [g.els j e]; exact p j
theorem Pc.setBlk {lp : List Int} {m : MS} {b : Nat} {x : BlkD} (p : Pc lp m) (hx : x.phis.length = (nth m.blocks b).phis.length) : Pc lp { m with blocks := m.blocks.set b x } := fun j => by
 show ((nth (m.blocks.set b x) j).phis.length : Int) = _
 rcases Nat.lt_or_ge j m.blocks.length with hl | hl
 ·rw [nth_set hl]
  split
  ·rename_i e; subst e; rw [hx]; exact p b
  ·exact p j
 ·rw [nth_ge (by simpa using hl)]
  have := p j
  rwa [nth_ge hl] at this
theorem Pc.doBlock {s : List Int} {to : List (List Int)} {n b : Nat} {dn : BL} {away : List BL} {lp : List Int} {m : MS} (p : Pc lp m) (hb : b < m.blocks.length) : Pc lp (doBlock s to n dn away b m) := by
 have p1 : Pc lp (MS.took { m with live := liveS m dn away b n }) := p
 have hb1 : b < (MS.took { m with live := liveS m dn away b n }).blocks.length := hb
 have g := ((Grw.refl (b := b) (m := MS.took { m with live := liveS m dn away b n })).instructions (s := s) hb1 (takeV s m.at_ 7).toNat).term' (s := s) (to := nth to b) hb1
 exact (p1.grw g).setBlk rfl
theorem Pc.blkStep {s : List Int} {to : List (List Int)} {n b : Nat} {lp : List Int} {x : BL × MS} (p : Pc lp x.2) (hb : b < x.2.blocks.length) : Pc lp (blkStep s to n b x).2 := by
 unfold Go.Proofs.Ytfelpjfopgiabaa.blkStep
 split
 ·exact p.doBlock hb
 ·exact p
theorem Pc.rowS {s : List Int} {b : Nat} {lp : List Int} {m : MS} (p : Pc lp m) (hb : b < m.blocks.length) : Pc lp (rowS s b m).2 := by
 unfold Go.Proofs.Ytfelpjfopgiabaa.rowS
 split
 ·have p1 : Pc lp m.took.took := p
  exact p1.grw ((Grw.refl (b := b) (m := m.took.took)).constant hb)
 ·exact p
theorem rowS_blen {s : List Int} {b : Nat} {m : MS} : (rowS s b m).2.blocks.length = m.blocks.length := by
 unfold rowS
 split
 ·exact constant_len
 ·rfl
theorem Pc.up_inStep {s : List Int} {pl : List Int} {lp : List Int} {x : List InD × MS} (p : Pc lp x.2) (hb : ∀ k, k < pl.length → (nth pl k).toNat < x.2.blocks.length) : ∀ k, k ≤ pl.length → Pc lp (up (inStep s pl) k x).2 ∧ (up (inStep s pl) k x).2.blocks.length = x.2.blocks.length
 | 0, _ => ⟨p, rfl⟩
 | k + 1, h => by
  obtain ⟨h1, h2⟩ := Pc.up_inStep (s := s) p hb k (by omega)
  have e : (up (inStep s pl) (k + 1) x).2 = (Go.Proofs.Ytfelpjfopgiabaa.rowS s (nth pl k).toNat (up (inStep s pl) k x).2).2.took := rfl
  rw [e]
  exact ⟨h1.rowS (by rw [h2]; exact hb k (by omega)), (took_len).trans (rowS_blen.trans h2)⟩
theorem Pc.phi3 {s : List Int} {b j : Nat} {pl : List Int} {lp : List Int} {m : MS} (p : Pc lp m) (hb : ∀ k, k < pl.length → (nth pl k).toNat < m.blocks.length) : Pc lp (phi3 s b pl j m) ∧ (phi3 s b pl j m).blocks.length = m.blocks.length := by
 obtain ⟨h1, h2⟩ := Pc.up_inStep (s := s) (pl := pl) (x := ([], m)) p hb pl.length (Nat.le_refl _)
 exact ⟨h1.setBlk (by simp), by show (List.set _ _ _).length = _; rw [List.length_set]; exact h2⟩
theorem Pc.up_phi3 {s : List Int} {b : Nat} {pl : List Int} {lp : List Int} {m : MS} (p : Pc lp m) (hb : ∀ k, k < pl.length → (nth pl k).toNat < m.blocks.length) : ∀ k, Pc lp (up (Go.Proofs.Ytfelpjfopgiabaa.phi3 s b pl) k m) ∧ (up (Go.Proofs.Ytfelpjfopgiabaa.phi3 s b pl) k m).blocks.length = m.blocks.length
 | 0 => ⟨p, rfl⟩
 | k + 1 => by
  obtain ⟨h1, h2⟩ := Pc.up_phi3 (s := s) (b := b) p hb k
  obtain ⟨h3, h4⟩ := Pc.phi3 (s := s) (b := b) (j := k) h1 (fun k hk => by rw [h2]; exact hb k hk)
  exact ⟨h3, h4.trans h2⟩
theorem sift_mem {p : Nat → Bool} : ∀ (n : Nat) (v : Int), v ∈ sift p (fun a => (a : Int)) n → ∃ c : Nat, v = c ∧ c < n
 | 0, v, h => by cases h
 | n + 1, v, h => by
  cases hp : p n with
  | true =>
   rw [sift_true hp] at h
   rcases List.mem_append.1 h with h | h
   ·obtain ⟨c, h1, h2⟩ := sift_mem n v h; exact ⟨c, h1, by omega⟩
   ·rw [List.mem_singleton] at h; exact ⟨n, h, by omega⟩
  | false =>
   rw [sift_false hp] at h
   obtain ⟨c, h1, h2⟩ := sift_mem n v h; exact ⟨c, h1, by omega⟩
theorem sift_rng {p : Nat → Bool} (n k : Nat) (hk : k < (sift p (fun a => (a : Int)) n).length) : ∃ c : Nat, nth (sift p (fun a => (a : Int)) n) k = c ∧ c < n := sift_mem n _ (nth_mem hk)
section
variable {s : List Int} {M : Nat} {vs : Value} {W0 : View} {h : Heap} {o0 : Own} {m : MS}
theorem Nx.extRd {α : Type} [r : Rep α] (x : Nx s M vs W0 h o0 m) {h' : Heap} {u : Value} {l : List α} (hle : (vw h).le (vw h')) (hs : SlRd (fresh h h') u l) : ∃ W', W0.le W' ∧ Nx s M vs W' h' o0 m ∧ SlRd W' u l := by
 obtain ⟨W, o, g, w, f⟩ := x
 have hW := le_grow (h' := h') w.own.wle
 exact ⟨_, View.le_trans g hW, ⟨_, o, View.le_refl _, ⟨w.own.ext hle, w.src.mono hW, w.box⟩, f⟩, hs.mono (fresh_grow W h h')⟩
theorem Mk.do_in {po : OP} {W : View} {o : Own} (w : Mk s M vs W h o m) {vb vl : Value} {lb : List BlkM} (bb : MkB M vs m o vb vl lb) {b i : Nat} {l : List InD} {v : Value} {ty ty2 : TypeId} {us : List (Nat × Value)} {x y : Operand} {K : Value → Heap → Prop} (hb : b < m.blocks.length) (hi : i < (nth m.blocks b).phis.length) (hsz : sizeB Try.prog ty2 = some 1) (hx : asg us x = .pointer (some (((slA (nth lb b).phis.v).add (i * 2)).add 1))) (hy : asg us y = v) (hr : SlRd W v l)
  (hK : ∀ h' o', Mk s M vs W h' o' (m.setIn b i l) → (∀ k : Key, 3 ≤ k.1 → o' k = o k) → K undef h') : @Lft.step po Try.prog (.store ty2 x y) ty us h K := by
 have hbl : b < lb.length := by rw [bb.len]; exact hb
 refine w.own.do_part (k := (1, b)) (α := PhiD) PhiD.p_ins (v := (nth lb b).phis.v) (l := (nth m.blocks b).phis) (i := i) (d := l) (bb.phis b hb) hsz hx hy hi (rd_list.2 hr) fun h7 w7 _ => ?_
 have hs : lb.set b (nth lb b) = lb := by rw [nth_eq hbl]; exact List.set_getElem_self hbl
 have b7 := bb.setBlk hb (x' := { nth m.blocks b with phis := (nth m.blocks b).phis.set i { nth (nth m.blocks b).phis i with ins := l } }) (y' := nth lb b) (o' := o.upd (1, b) (it T.api_Phi (nth lb b).phis.v ((nth m.blocks b).phis.set i { (nth m.blocks b).phis[i] with ins := l }))) (bb.term b hb) (by rw [hs, Own.upd_ne (by simp)]; exact bb.blk) (by rw [Own.upd_self, nth_eq hi]) (by rw [Own.upd_ne (by simp)]; exact bb.ins b hb) (fun q h1 h2 h3 => Own.upd_ne h2)
 rw [hs] at b7
 exact hK h7 _ ⟨w7, w.src, vb, vl, lb, b7⟩ fun k hk => Own.upd_ne (by rintro rfl; simp at hk)
end
end Go.Proofs.Ytfelpjfopgiabaa
namespace Go.Proofs.Ytfelpjfopgiabaa
open Go Go.Lft
section
variable {s : List Int} {M : Nat} {vs : Value} {W0 : View} {h : Heap} {o0 : Own} {m : MS}
theorem made_l14 {n a p i b cnt : Nat} {vr vt vp vd vq : Value} {pl lp : List Int} (x : Nx s M vs W0 h o0 m) (h5 : o0 (5, 0) = it T.int vp lp) (f71 : o0 (7, 1) = none) (f72 : o0 (7, 2) = none) (q : P3 n a p i m) (pc : Pc lp m) (hlp : lp.length = n) (hb : b < n) (hcnt : nth lp b = cnt) (hc3 : cnt ≤ 3) (hn : n ≤ 10) (ha : a ≤ 400000) (hia : i ≤ a) (hp : p ≤ 100) (hi : i ≤ 1900) (hq : SlRd W0 vq pl) (hpl : pl.length ≤ 9) (hpr : ∀ k, k < pl.length → ∃ c : Nat, nth pl k = c ∧ c < n) {Q : Post} {ρ : Env}
  (h0 : keepE [2, 3, 4, 5, 7, 11, 25, 26, 27] ρ = [(2, vr), (3, .pointer (some ⟨M, 0, none⟩)), (4, .int .i64 n), (5, vt), (7, vp), (11, vd), (25, .int .i64 b), (26, vq), (27, .int .i64 0)])
  (hQ : ∀ h' : Heap, Nx s M vs W0 h' o0 (up (phi3 s b pl) cnt m) → Q .normal [(2, vr), (3, .pointer (some ⟨M, 0, none⟩)), (4, .int .i64 n), (5, vt), (7, vp), (11, vd), (25, .int .i64 b), (26, vq), (27, .int .i64 cnt)] h') :
  LC.wp Try.prog (.block 26 (.loop L.ref03_Made.l14)) Q ρ h := by
 simp only [lwp_block]
 refine lwp_for [2, 3, 4, 5, 7, 11, 25, 26, 27] (fun (_ : Unit) k => [vr, .pointer (some ⟨M, 0, none⟩), .int .i64 n, vt, vp, vd, .int .i64 b, vq, .int .i64 k]) (fun _ k h2 => Nx s M vs W0 h2 o0 (up (phi3 s b pl) k m)) cnt ()
  rfl (by omega) h0 x (fun _ _ => rfl) (fun v k h2 hk2 x2 => by
   have sp := x2.z.at (by decide) h5
   have e := sp.int (View.le_refl _) (i := b) (by omega)
   rw [hcnt] at e
   simp (disch := omega) [sp.idx1 rfl, e]) ?_ ?_
 ·rintro _ k h2 hlt x2 K2 hK2
  have hpn : ∀ j, j < pl.length → (nth pl j).toNat < m.blocks.length := fun j hj => by
   obtain ⟨c, h1, h2⟩ := hpr j hj
   rw [h1, q.z.len]; simpa using h2
  have q2 := (up_phi3 (s := s) (b := b) q hpl k).mono (a' := a + 200) (p' := p) (i' := i + 30) (by omega) (Nat.le_refl _) (by omega)
  obtain ⟨pc2, hlen2⟩ := Pc.up_phi3 (s := s) (b := b) pc hpn k
  have e2 : up (phi3 s b pl) (k + 1) m = phi3 s b pl k (up (phi3 s b pl) k m) := rfl
  rw [e2] at hK2
  generalize up (phi3 s b pl) k m = m2 at x2 hK2 q2 pc2 hlen2
  have hpn2 : ∀ j, j < pl.length → (nth pl j).toNat < m2.blocks.length := fun j hj => by rw [hlen2]; exact hpn j hj
  obtain ⟨pc3, hlen3⟩ := Pc.up_inStep (s := s) (pl := pl) (x := ([], m2)) pc2 hpn2 pl.length (Nat.le_refl _)
  simp only [lwp_block]
  refine lwp_hide fun y hy => ?_
  simp
  refine x2.do_empty (k := (7, 2)) (α := InD) (by decide) f72 El.s_api_In fun vi h3 hvi x3 => ?_
  rw [hy]; clear hy y
  refine lwp_hide fun y hy => ?_
  refine lwp_hide fun w hw => ?_
  simp
  rw [hw]; clear hw w
  refine made_l15 (vr := vr) (vt := vt) (vp := vp) (vd := vd) (vq := vq) (vi := vi) (b := b) (j := k) x3 f71 q2 hn (by omega) (by omega) hp (by omega) hq hpl hpr (by simp [keepE, look_setE, look_kill]) fun h4 vi x4 => ?_
  obtain ⟨W4, hW4, x4, s4⟩ := x4.freeze (by decide) f72
  have e3 : phi3 s b pl k m2 = (up (inStep s pl) pl.length ([], m2)).2.setIn b k (up (inStep s pl) pl.length ([], m2)).1 := rfl
  rw [e3] at hK2
  have hb4 : b < (up (inStep s pl) pl.length ([], m2)).2.blocks.length := by rw [hlen3]; show b < m2.blocks.length; rw [hlen2, q.z.len]; exact hb
  have hph : ((nth (up (inStep s pl) pl.length ([], m2)).2.blocks b).phis.length : Int) = cnt := (pc3 b).trans hcnt
  generalize up (inStep s pl) pl.length ([], m2) = r at x4 hK2 s4 hb4 hph
  obtain ⟨W, o, g, w, f⟩ := x4
  obtain ⟨vb, vl, lb, bb⟩ := w.box
  have rd := w.reads bb
  have hbb : b < lb.length := by rw [bb.len]; exact hb4
  have sb := w.own.now bb.blk
  have sbb := sb.bound
  have c1 : cellH (vw h4) (((slA vb).add (b * 6)).add 0) = some (nth lb b).phis.v := by
   have := ((sb.at hbb).part BlkM.p_phis).raw
   rw [nth_eq hbb]; exact this
  have sph := w.own.now (bb.phis b hb4)
  simp
  rw [hy]; clear hy y
  have r5 : Bn.ev (.idx 2) (nth lb b).phis.v (.int .i64 k) = some (.pointer (some ((slA (nth lb b).phis.v).add (k * 2)))) := by
   have := sph.idxn (N := 2) rfl (k := .i64) (i := k) (by omega) (by omega); simpa using this
  simp (disch := omega) [rd.cb, sb.idxn (N := 6) rfl, c1, r5]
  refine w.do_in bb (b := b) (i := k) (l := r.1) hb4 (by omega) (by kernel_rfl) rfl rfl (s4.mono g) fun h5 o5 w5 f5 => ?_
  refine hK2 () _ _ rfl rfl ?_
  exact ⟨W, o5, View.le_trans hW4 g, w5, fun q hq => (f5 q hq).trans (f q hq)⟩
 ·rintro _ h2 x2
  exact hQ h2 x2
theorem blk3_ok {n a p i k : Nat} {lp : List Int} {m : MS} (q : P3 n a p i m) (pc : Pc lp m) (hr : ∀ j, nth lp j ≤ 3) (hn : n ≤ 9) : P3 n (a + 162) p (i + 27) (blk3 s lp k m) ∧ Pc lp (blk3 s lp k m) := by
 have hpl : (refPredsS m.f ((k + 1 : Nat) : Int)).length ≤ n := by
  have := sift_len (p := fun a => decide (((k + 1 : Nat) : Int) ∈ (nth m.f.blocks a).term.to)) (x := fun a => (a : Int)) m.f.blocks.length
  rw [show m.f.blocks.length = n from q.z.len] at this
  unfold refPredsS
  rw [show m.f.blocks.length = n from q.z.len]
  exact this
 have hpn : ∀ j, j < (refPredsS m.f ((k + 1 : Nat) : Int)).length → (nth (refPredsS m.f ((k + 1 : Nat) : Int)) j).toNat < m.blocks.length := fun j hj => by
  obtain ⟨c, h1, h2⟩ := sift_rng _ j hj
  have h1 : nth (refPredsS m.f ((k + 1 : Nat) : Int)) j = c := h1
  rw [h1]; have h2 : c < m.blocks.length := h2; simpa using h2
 have h3 := hr (k + 1)
 unfold blk3
 exact ⟨(up_phi3 q (by omega) _).mono (by omega) (Nat.le_refl _) (by omega), (Pc.up_phi3 pc hpn _).1⟩
theorem up_blk3 {n a p i : Nat} {lp : List Int} {m : MS} (q : P3 n a p i m) (pc : Pc lp m) (hr : ∀ j, nth lp j ≤ 3) (hn : n ≤ 9) : ∀ k, P3 n (a + 162 * k) p (i + 27 * k) (up (blk3 s lp) k m) ∧ Pc lp (up (blk3 s lp) k m)
 | 0 => ⟨q, pc⟩
 | k + 1 => by
  obtain ⟨h1, h2⟩ := up_blk3 q pc hr hn k
  obtain ⟨h3, h4⟩ := blk3_ok (s := s) (k := k) h1 h2 hr hn
  exact ⟨h3.mono (by omega) (Nat.le_refl _) (by omega), h4⟩
theorem made_l13 {n a p i : Nat} {vr vt vp vd : Value} {lp : List Int} (x : Nx s M vs W0 h o0 m) (h5 : o0 (5, 0) = it T.int vp lp) (f71 : o0 (7, 1) = none) (f72 : o0 (7, 2) = none) (q : P3 n a p i m) (pc : Pc lp m) (hlp : lp.length = n) (hr : ∀ j, 0 ≤ nth lp j ∧ nth lp j ≤ 3) (hn1 : 1 ≤ n) (hn : n ≤ 9) (ha : a ≤ 300000) (hia : i ≤ a) (hp : p ≤ 100) (hi : i ≤ 1000) {Q : Post} {ρ : Env}
  (h0 : keepE [2, 3, 4, 5, 7, 11, 25] ρ = [(2, vr), (3, .pointer (some ⟨M, 0, none⟩)), (4, .int .i64 n), (5, vt), (7, vp), (11, vd), (25, .int .i64 1)])
  (hQ : ∀ h' : Heap, Nx s M vs W0 h' o0 (up (blk3 s lp) (n - 1) m) → Q .normal [(2, vr), (3, .pointer (some ⟨M, 0, none⟩)), (4, .int .i64 n), (5, vt), (7, vp), (11, vd), (25, .int .i64 n)] h') :
  LC.wp Try.prog (.block 24 (.loop L.ref03_Made.l13)) Q ρ h := by
 simp only [lwp_block]
 refine lwp_forG [2, 3, 4, 5, 7, 11, 25] (fun (_ : Unit) k => [vr, .pointer (some ⟨M, 0, none⟩), .int .i64 n, vt, vp, vd, .int .i64 ((k + 1 : Nat) : Int)]) (fun _ k h2 => Nx s M vs W0 h2 o0 (up (blk3 s lp) k m)) (n - 1) 1 ()
  rfl (by omega) h0 x (fun _ _ => rfl) (fun v k h2 hk2 m => by simp; omega) ?_ ?_
 ·rintro _ k h2 hlt x2 K2 hK2
  obtain ⟨q2, pc2⟩ := up_blk3 (s := s) q pc (fun j => (hr j).2) hn k
  have e2 : up (blk3 s lp) (k + 1) m = blk3 s lp k (up (blk3 s lp) k m) := rfl
  rw [e2] at hK2
  generalize up (blk3 s lp) k m = m2 at x2 hK2 q2 pc2
  have hb2 : blk3 s lp k m2 = _ := blk3.eq_1 s lp k m2
  rw [hb2] at hK2
  simp only [lwp_block]
  refine lwp_hide fun y hy => ?_
  obtain ⟨vb, vl, rd⟩ := x2.z.reads
  simp [rd.f]
  refine call_to (by kernel_rfl) (refPreds_ok (b := ((k + 1 : Nat) : Int)) (rd.rd (i64ps q2.z)) (by show m2.blocks.length ≤ _; rw [q2.z.len]; omega)) ?_
  rintro vq h3 ⟨hle3, hq⟩
  obtain ⟨W3, hW3, x3, sq⟩ := x2.extRd hle3 hq
  clear rd hq
  have hpl : (refPredsS m2.f ((k + 1 : Nat) : Int)).length ≤ n := by
   have := sift_len (p := fun a => decide (((k + 1 : Nat) : Int) ∈ (nth m2.f.blocks a).term.to)) (x := fun a => (a : Int)) m2.f.blocks.length
   unfold refPredsS
   rw [show m2.f.blocks.length = n from q2.z.len] at this ⊢
   exact this
  have hpr : ∀ j, j < (refPredsS m2.f ((k + 1 : Nat) : Int)).length → ∃ c : Nat, nth (refPredsS m2.f ((k + 1 : Nat) : Int)) j = c ∧ c < n := fun j hj => by
   obtain ⟨c, h1, h2⟩ := sift_rng _ j hj
   exact ⟨c, h1, by rw [show m2.f.blocks.length = n from q2.z.len] at h2; exact h2⟩
  generalize refPredsS m2.f ((k + 1 : Nat) : Int) = pl at sq hpl hpr hK2
  obtain ⟨r0, r1⟩ := hr (k + 1)
  rw [hy]; clear hy y
  refine lwp_hide fun y hy => ?_
  simp
  rw [hy]; clear hy y
  refine made_l14 (vr := vr) (vt := vt) (vp := vp) (vd := vd) (vq := vq) (b := k + 1) (cnt := (nth lp (k + 1)).toNat) x3 h5 f71 f72 q2 pc2 hlp (by omega) (by omega) (by omega) (by omega) (by omega) (by omega) hp (by omega) sq (by omega) hpr (by simp [keepE, look_setE, look_kill]) fun h4 x4 => ?_
  simp
  refine hK2 () _ _ rfl rfl (x4.up hW3)
 ·rintro _ h2 x2
  have e : n - 1 + 1 = n := by omega
  have := hQ h2 x2
  simpa [e] using this
theorem up_blkStep {n a p : Nat} {to : List (List Int)} {x0 : BL × MS} (q : B2 n a p x0) (hn : n ≤ 10) (hp : p ≤ 100) (ha : 16000 ≤ a) : ∀ j, j ≤ n → B2 n (a + 600 * j) p (up (blkStep s to n) j x0) := by
 intro j
 induction j with
 | zero => intro _; exact q
 | succ j ih =>
  intro hj
  have := blkStep_ok (s := s) (to := to) (b := j) (ih (by omega)) (by omega) hn hp (by omega) fun h => ready_not h
  exact ⟨this.z.mono (by omega) (Nat.le_refl _) (Nat.le_refl _), this.len, this.none⟩
theorem up_turn {n a p : Nat} {to : List (List Int)} {x0 : BL × MS} (q : B2 n a p x0) (hn : n ≤ 10) (hp : p ≤ 100) (ha : 16000 ≤ a) (j : Nat) : B2 n (a + 600 * n * j) p (up (fun _ => up (blkStep s to n) n) j x0) := by
 induction j with
 | zero => exact q
 | succ j ih =>
  have := up_blkStep (s := s) (to := to) ih hn hp (by omega) n (Nat.le_refl _)
  exact ⟨this.z.mono (by rw [Nat.mul_succ]; omega) (Nat.le_refl _) (Nat.le_refl _), this.len, this.none⟩
theorem made_l4 {n a p : Nat} {vr vt vp vd : Value} {to : List (List Int)} {x0 : BL × MS} (x : Nx s M vs W0 h (o0.upd (6, 0) (it T.bool vd x0.1)) x0.2) (hto : SlRd W0 vt to) (htl : to.length = n) (f7 : o0 (7, 0) = none) (f90 : o0 (9, 0) = none) (f91 : o0 (9, 1) = none) (q : B2 n a p x0) (hn : n ≤ 9) (hp : p ≤ 100) (ha : 16000 ≤ a) (ha2 : a ≤ 30000) {Q : Post} {ρ : Env}
  (h0 : keepE [2, 3, 4, 5, 7, 11, 12] ρ = [(2, vr), (3, .pointer (some ⟨M, 0, none⟩)), (4, .int .i64 n), (5, vt), (7, vp), (11, vd), (12, .int .i64 0)])
  (hQ : ∀ h' : Heap, Nx s M vs W0 h' (o0.upd (6, 0) (it T.bool vd (up (fun _ => up (blkStep s to n) n) n x0).1)) (up (fun _ => up (blkStep s to n) n) n x0).2 → Q .normal [(2, vr), (3, .pointer (some ⟨M, 0, none⟩)), (4, .int .i64 n), (5, vt), (7, vp), (11, vd), (12, .int .i64 n)] h') :
  LC.wp Try.prog (.block 6 (.loop L.ref03_Made.l4)) Q ρ h := by
 simp only [lwp_block]
 refine lwp_for [2, 3, 4, 5, 7, 11, 12] (fun (_ : Unit) j => [vr, .pointer (some ⟨M, 0, none⟩), .int .i64 n, vt, vp, vd, .int .i64 j]) (fun _ j h2 => Nx s M vs W0 h2 (o0.upd (6, 0) (it T.bool vd (up (fun _ => up (blkStep s to n) n) j x0).1)) (up (fun _ => up (blkStep s to n) n) j x0).2) n ()
  rfl (by omega) h0 x (fun _ _ => rfl) (fun v k h2 hk2 x2 => by simp) ?_ ?_
 ·rintro _ t h2 hlt x2 K2 hK2
  have q2 := up_turn (s := s) (to := to) q (by omega) hp ha t
  have hbd : 600 * n * t ≤ 5400 * 9 := Nat.mul_le_mul (by omega) (by omega)
  have e2 : up (fun _ => up (blkStep s to n) n) (t + 1) x0 = up (blkStep s to n) n (up (fun _ => up (blkStep s to n) n) t x0) := rfl
  rw [e2] at hK2
  generalize up (fun _ => up (blkStep s to n) n) t x0 = y at x2 hK2 q2
  simp only [lwp_block]
  refine lwp_hide fun y hy => ?_
  simp
  rw [hy]; clear hy y
  refine made_l5 (vr := vr) (vt := vt) (vp := vp) (vd := vd) (t := t) x2 hto htl f7 f90 f91 q2 (by omega) hp (by omega) (by omega) (by simp [keepE, look_setE, look_kill]) fun h3 x3 => ?_
  simp
  exact hK2 () _ _ rfl rfl x3
 ·rintro _ h2 x2
  exact hQ h2 x2
end
end Go.Proofs.Ytfelpjfopgiabaa
namespace Go.Proofs.Ytfelpjfopgiabaa
open Go Go.Lft
variable {s : List Int}
theorem madeN_rng : 1 ≤ madeN s ∧ madeN s ≤ 9 := by
 have := takeV_rng (s := s) (at_ := 1) (n := 9) (by decide)
 unfold madeN; omega
theorem madeN_int : ((madeN s : Nat) : Int) = 1 + takeV s 1 9 := by
 have := takeV_rng (s := s) (at_ := 1) (n := 9) (by decide)
 unfold madeN; omega
theorem made0_ok : (made0 s).ok 4 := by
 have := takeV_rng (s := s) (at_ := 0) (n := 5) (by decide)
 refine ⟨by show 2 ≤ 4; omega, by show 0 ≤ takeV s 0 5; omega, by show takeV s 0 5 ≤ _; omega, by show 0 ≤ 4; omega, fun i => ?_⟩
 show (nth ([] : List BlkD) i).ins.length ≤ 4
 rw [nth_ge (by simp)]
 show 0 ≤ 4; omega
theorem made1_k : TgK (madeN s) 112 (made1 s) := by
 obtain ⟨h1, h2⟩ := madeN_rng (s := s)
 have k1 : TgK (madeN s) 4 (List.replicate (madeN s) [], made0 s) := ⟨by simp, fun i => by
  rcases Nat.lt_or_ge i (madeN s) with hi | hi
  ·rw [nth_replicate hi]; show 0 ≤ 4; omega
  ·rw [nth_ge (by simpa using hi)]; show 0 ≤ 4; omega, made0_ok⟩
 exact (up_tgB (s := s) (up_tgA (s := s) k1 (madeN s - 1)) (madeN s)).mono (by omega)
def Same4 (m m' : MS) : Prop := m'.ps = m.ps ∧ m'.blocks = m.blocks ∧ m'.next = m.next ∧ m'.live = m.live
theorem tgA_same {m : MS} {k : Nat} {x : TgS} (h : Same4 m x.2) : Same4 m (tgA s k x).2 := by
 unfold tgA; split <;> exact h
theorem tgI_same {m : MS} {n b : Nat} {x : TgS} (h : Same4 m x.2) : Same4 m (tgI s n b x).2 := by
 unfold tgI; simp only; repeat' split
 all_goals exact h
theorem tgB_same {m : MS} {n b : Nat} {x : TgS} (h : Same4 m x.2) : Same4 m (tgB s n b x).2 :=
 up_inv (fun x : TgS => Same4 m x.2) (fun _ _ h => tgI_same h) _ _ h
theorem made1_same : Same4 (made0 s) (made1 s).2 :=
 up_inv (fun x : TgS => Same4 (made0 s) x.2) (fun _ _ h => tgB_same h) _ _ (up_inv (fun x : TgS => Same4 (made0 s) x.2) (fun _ _ h => tgA_same h) _ _ ⟨rfl, rfl, rfl, rfl⟩)
theorem made2_up {m : MS} {a n : Nat} {to : List (List Int)} (z : Sz n a 0 0 m) (g : Gd m) (pc : ∀ j, (nth m.blocks j).phis.length = 0) (ht : ∀ j, (nth to j).length ≤ 1000) : ∀ k, Sz n a 0 0 (up (fun b m => MS.setTo m b (nth to b)) k m) ∧ Gd (up (fun b m => MS.setTo m b (nth to b)) k m)
 | 0 => ⟨z, g⟩
 | k + 1 => by
  obtain ⟨h1, h2⟩ := made2_up z g pc ht k
  exact ⟨h1.setBlk (h1.phis k) (h1.ins k), h2.setTo (ht k)⟩
theorem zeroB_nth {n j : Nat} : (nth (List.replicate n zeroB) j).phis.length = 0 ∧ (nth (List.replicate n zeroB) j).ins.length = 0 := by
 rcases Nat.lt_or_ge j n with hj | hj
 ·rw [nth_replicate hj]; exact ⟨rfl, rfl⟩
 ·rw [nth_ge (by simpa using hj)]; exact ⟨rfl, rfl⟩
theorem made2_ok : Sz (madeN s) 200 0 0 (made2 s) ∧ Gd (made2 s) := by
 have k := made1_k (s := s)
 have e := made1_same (s := s)
 have t := takeV_rng (s := s) (at_ := 0) (n := 5) (by decide)
 refine made2_up ⟨?_, ?_, ?_, ?_, ?_, ?_, ?_, fun j => ?_, fun j => ?_⟩ (fun j hj => ?_) (fun j => (zeroB_nth).1) (fun j => by have := k.row j; omega) _
 ·show (made1 s).2.at_ ≤ 200; have := k.ok.at_; omega
 ·exact k.ok.n0
 ·show (made1 s).2.next ≤ _; have := k.ok.next; omega
 ·show (made1 s).2.live.length ≤ 200; have := k.ok.live; omega
 ·show 0 ≤ (made1 s).2.ps; rw [e.1]; show 0 ≤ takeV s 0 5; omega
 ·show (made1 s).2.ps ≤ 4; rw [e.1]; show takeV s 0 5 ≤ 4; omega
 ·show (List.replicate (madeN s) zeroB).length = _; simp
 ·show (nth (List.replicate (madeN s) zeroB) j).phis.length ≤ 0; rw [(zeroB_nth).1]; omega
 ·show (nth (List.replicate (madeN s) zeroB) j).ins.length ≤ 0; rw [(zeroB_nth).2]; omega
 ·have hj : j < madeN s := by simpa using hj
  show GdB (nth (List.replicate (madeN s) zeroB) j)
  rw [nth_replicate hj]
  exact ⟨fun i h => (by cases h), by show 0 ≤ 10; omega, by show 0 ≤ 1000; omega, fun i h => (by cases h)⟩
theorem addPhis_len {m : MS} {b : Nat} (hb : b < m.blocks.length) : ∀ c j, (nth (up (fun _ => addPhi b) c m).blocks j).phis.length = (nth m.blocks j).phis.length + (if j = b then c else 0) ∧ (up (fun _ => addPhi b) c m).blocks.length = m.blocks.length
 | 0, j => ⟨by show (nth m.blocks j).phis.length = _; split <;> omega, rfl⟩
 | c + 1, j => by
  obtain ⟨h1, h2⟩ := addPhis_len hb c j
  obtain ⟨h3, _⟩ := addPhis_len hb c b
  have e : (up (fun _ => addPhi b) (c + 1) m).blocks = (up (fun _ => addPhi b) c m).blocks.set b { nth (up (fun _ => addPhi b) c m).blocks b with phis := (nth (up (fun _ => addPhi b) c m).blocks b).phis ++ [⟨(up (fun _ => addPhi b) c m).next, []⟩] } := rfl
  rw [e]
  refine ⟨?_, by rw [List.length_set]; exact h2⟩
  rcases Nat.lt_or_ge j m.blocks.length with hl | hl
  ·rw [nth_set (by rw [h2]; exact hl)]
   by_cases ej : b = j
   ·subst ej
    rw [if_pos rfl, if_pos rfl]
    rw [if_pos rfl] at h3
    show (_ ++ [_]).length = _
    rw [List.length_append, h3, List.length_singleton]; omega
   ·rw [if_neg ej, if_neg (fun q => ej q.symm)]
    rw [if_neg (fun q => ej q.symm)] at h1
    exact h1
  ·rw [nth_ge (by rw [List.length_set, h2]; exact hl), nth_ge hl, if_neg (by omega)]; rfl
theorem up_phi_pc {n a : Nat} {x : List Int × MS} (p : Ph n a 0 x) (pc : Pc x.1 x.2) (g : Gd x.2) : ∀ k, k < n → Pc (up (phiStep s) k x).1 (up (phiStep s) k x).2 ∧ Gd (up (phiStep s) k x).2
 | 0, _ => ⟨pc, g⟩
 | k + 1, hk => by
  obtain ⟨h1, h2⟩ := up_phi_pc p pc g k (by omega)
  have q := up_phi (s := s) p k
  have e : up (phiStep s) (k + 1) x = phiStep s k (up (phiStep s) k x) := rfl
  rw [e]
  generalize up (phiStep s) k x = y at h1 h2 q
  obtain ⟨c0, c1⟩ := phiCnt_rng (s := s) (m := y.2) (b := k + 1)
  have hb : k + 1 < y.2.took.blocks.length := by show k + 1 < y.2.blocks.length; rw [q.z.len]; exact hk
  refine ⟨fun j => ?_, h2.took.addPhis _⟩
  have h3 := (addPhis_len hb (phiCnt s y.2 (k + 1)).toNat j).1
  show ((nth (up (fun _ => addPhi (k + 1)) (phiCnt s y.2 (k + 1)).toNat y.2.took).blocks j).phis.length : Int) = nth (y.1.set (k + 1) (phiCnt s y.2 (k + 1))) j
  rw [h3]
  have h4 := h1 j
  have h5 : nth y.2.took.blocks j = nth y.2.blocks j := rfl
  rw [h5]
  rcases Nat.lt_or_ge j y.1.length with hl | hl
  ·rw [nth_set hl]
   by_cases ej : k + 1 = j
   ·subst ej
    rw [if_pos rfl, if_pos rfl]
    rw [q.zero (k + 1) (by omega)] at h4
    omega
   ·rw [if_neg ej, if_neg (fun r => ej r.symm)]
    omega
  ·have e1 : nth (y.1.set (k + 1) (phiCnt s y.2 (k + 1))) j = default := nth_ge (by simpa using hl)
   have e2 : nth y.1 j = default := nth_ge hl
   rw [e1]
   rw [e2] at h4
   have := q.len
   rw [if_neg (by omega)]
   omega
theorem made3_ok : Ph (madeN s) 200 (madeN s - 1) (made3 s) ∧ Pc (made3 s).1 (made3 s).2 ∧ Gd (made3 s).2 := by
 obtain ⟨h1, h2⟩ := madeN_rng (s := s)
 obtain ⟨z, g⟩ := made2_ok (s := s)
 have hz : ∀ j, nth (List.replicate (madeN s) (0 : Int)) j = 0 := fun j => by
  rcases Nat.lt_or_ge j (madeN s) with hj | hj
  ·rw [nth_replicate hj]
  ·rw [nth_ge (by simpa using hj)]; rfl
 have p0 : Ph (madeN s) 200 0 (List.replicate (madeN s) (0 : Int), made2 s) := ⟨z, by simp, fun j _ => hz j, fun j => by rw [hz]; omega⟩
 have pc : Pc (List.replicate (madeN s) (0 : Int)) (made2 s) := fun j => by
  have := z.phis j
  rw [hz]; omega
 obtain ⟨q1, q2⟩ := up_phi_pc (s := s) p0 pc g (madeN s - 1) (by omega)
 exact ⟨up_phi p0 _, q1, q2⟩
theorem Gd.doBlock {to : List (List Int)} {n b : Nat} {dn : BL} {away : List BL} {m : MS} (g : Gd m) (ht : (nth to b).length ≤ 1000) : Gd (doBlock s to n dn away b m) := by
 have g1 : Gd (MS.took { m with live := liveS m dn away b n }) := g
 exact (Gd.instructions g1 _).mkEnd ht
theorem Gd.blkStep {to : List (List Int)} {n b : Nat} {x : BL × MS} (g : Gd x.2) (ht : (nth to b).length ≤ 1000) : Gd (blkStep s to n b x).2 := by
 unfold Go.Proofs.Ytfelpjfopgiabaa.blkStep
 split
 ·exact g.doBlock ht
 ·exact g
structure M4 (n a p : Nat) (lp : List Int) (x : BL × MS) : Prop where
 b2 : B2 n a p x
 gd : Gd x.2
 pc : Pc lp x.2
theorem M4.step {to : List (List Int)} {n a p b : Nat} {lp : List Int} {x : BL × MS} (q : M4 n a p lp x) (hb : b < n) (hn : n ≤ 10) (hp : p ≤ 100) (ha : 16000 ≤ a) (ht : ∀ j, (nth to j).length ≤ 1000) : M4 n (a + 600) p lp (blkStep s to n b x) :=
 ⟨blkStep_ok q.b2 hb hn hp ha fun h => ready_not h, q.gd.blkStep (ht b), q.pc.blkStep (by rw [q.b2.z.len]; exact hb)⟩
theorem M4.blk {to : List (List Int)} {n a p : Nat} {lp : List Int} {x : BL × MS} (q : M4 n a p lp x) (hn : n ≤ 10) (hp : p ≤ 100) (ha : 16000 ≤ a) (ht : ∀ j, (nth to j).length ≤ 1000) (k : Nat) (hk : k ≤ n) : M4 n (a + 600 * k) p lp (up (Go.Proofs.Ytfelpjfopgiabaa.blkStep s to n) k x) := by
 induction k with
 | zero => exact q
 | succ k ih =>
  have := (ih (by omega)).step (s := s) (to := to) (b := k) (by omega) hn hp (by omega) ht
  exact ⟨⟨this.b2.z.mono (by omega) (Nat.le_refl _) (Nat.le_refl _), this.b2.len, this.b2.none⟩, this.gd, this.pc⟩
theorem M4.turn {to : List (List Int)} {n a p : Nat} {lp : List Int} {x : BL × MS} (q : M4 n a p lp x) (hn : n ≤ 10) (hp : p ≤ 100) (ha : 16000 ≤ a) (ht : ∀ j, (nth to j).length ≤ 1000) (k : Nat) : M4 n (a + 600 * n * k) p lp (up (fun _ => up (Go.Proofs.Ytfelpjfopgiabaa.blkStep s to n) n) k x) := by
 induction k with
 | zero => exact q
 | succ k ih =>
  have := ih.blk (s := s) (to := to) hn hp (by omega) ht n (Nat.le_refl _)
  exact ⟨⟨this.b2.z.mono (by rw [Nat.mul_succ]; omega) (Nat.le_refl _) (Nat.le_refl _), this.b2.len, this.b2.none⟩, this.gd, this.pc⟩
theorem made3_b2 : B2 (madeN s) 16000 27 (List.replicate (madeN s) false, (made3 s).2) := by
 obtain ⟨h1, h2⟩ := madeN_rng (s := s)
 obtain ⟨p, _, _⟩ := made3_ok (s := s)
 refine ⟨p.z.mono (by omega) (by omega) (by omega), by simp, fun j hj _ => ?_⟩
 have := p.z.ins j
 show (nth (made3 s).2.blocks j).ins.length = 0; omega
theorem made4_ok : P3 (madeN s) 70000 27 700 (made4 s).2 ∧ Pc (made3 s).1 (made4 s).2 := by
 obtain ⟨h1, h2⟩ := madeN_rng (s := s)
 obtain ⟨p, pc, g⟩ := made3_ok (s := s)
 have ht : ∀ j, (nth (made1 s).1 j).length ≤ 1000 := fun j => by have := (made1_k (s := s)).row j; omega
 have q0 : M4 (madeN s) 16000 27 (made3 s).1 (List.replicate (madeN s) false, (made3 s).2) := ⟨made3_b2, g, pc⟩
 have q := q0.turn (s := s) (to := (made1 s).1) (by omega) (by omega) (by omega) ht (madeN s)
 have hbd : 600 * madeN s * madeN s ≤ 5400 * 9 := Nat.mul_le_mul (by omega) (by omega)
 exact ⟨⟨q.b2.z.mono (by omega) (Nat.le_refl _) (Nat.le_refl _), q.gd⟩, q.pc⟩
theorem made5_ok : P3 (madeN s) 72000 27 1000 (made5 s) := by
 obtain ⟨h1, h2⟩ := madeN_rng (s := s)
 obtain ⟨p, _, _⟩ := made3_ok (s := s)
 obtain ⟨q, pc⟩ := made4_ok (s := s)
 have := (up_blk3 (s := s) q pc (fun j => (p.rng j).2) h2 (madeN s - 1)).1
 exact this.mono (by omega) (Nat.le_refl _) (by omega)
theorem make_params : 0 ≤ (makeS s).params ∧ (makeS s).params ≤ 4 := ⟨(made5_ok (s := s)).z.ps0, (made5_ok (s := s)).z.ps1⟩
end Go.Proofs.Ytfelpjfopgiabaa
namespace Go.Proofs.Ytfelpjfopgiabaa
open Go Go.Lft
section
variable {s : List Int} {M : Nat} {vs : Value} {W : View} {h : Heap} {o : Own} {m : MS}
theorem MkB.boxed {vb vl : Value} {lb : List BlkM} (bb : MkB M vs m o vb vl lb) (m' : MS) (h1 : m'.blocks = m.blocks) (h2 : m'.live = m.live) : MkB M vs m' (o.upd (0, 0) (bx T.ref03_maker M (RawN.mk (n := 5) (mkL vs m'.at_ m'.ps vb m'.next vl)))) vb vl lb :=
 ⟨rfl, by rw [h2]; exact bb.live, bb.blk, by rw [h1]; exact bb.len, by rw [h1]; exact bb.term, by rw [h1]; exact fun i hi => bb.phis i hi, by rw [h1]; exact fun i hi => bb.ins i hi⟩
end
def frame0 (R : Nat) (i10 : Own) : Own := fun k => if k = (8, 0) then bx T.api_Func R (RawN.mk (n := 1) [.int .i64 0, .slice none 0 0]) else if 10 ≤ k.1 then i10 k else none
structure FnB (o : Own) (vb : Value) (lb : List BlkM) (f : FuncD) : Prop where
 blk : o (0, 2) = it T.api_Block vb lb
 len : lb.length = f.blocks.length
 term : ∀ i, i < f.blocks.length → (nth lb i).term = (nth f.blocks i).term
 phis : ∀ i, i < f.blocks.length → o (1, i) = it T.api_Phi (nth lb i).phis.v (nth f.blocks i).phis
 ins : ∀ i, i < f.blocks.length → o (2, i) = it T.api_Ins (nth lb i).ins.v (nth f.blocks i).ins
theorem fnB_sl {H : View} {vb : Value} {lb : List BlkM} {f : FuncD} (h0 : SlRd H vb lb) (hl : lb.length = f.blocks.length) (ht : ∀ i, i < f.blocks.length → (nth lb i).term = (nth f.blocks i).term) (h1 : ∀ i, i < f.blocks.length → SlRd H (nth lb i).phis.v (nth f.blocks i).phis) (h2 : ∀ i, i < f.blocks.length → SlRd H (nth lb i).ins.v (nth f.blocks i).ins) : SlRd H vb f.blocks := by
 refine sl_conv h0 rfl hl fun i g1 g2 cs hr => ?_
 have := blkM_blk hr (p := (nth f.blocks i).phis) (i := (nth f.blocks i).ins) (by have := h1 i g2; rwa [nth_eq g1] at this) (by have := h2 i g2; rwa [nth_eq g1] at this)
 have ht := ht i g2
 rw [nth_eq g1] at ht
 rw [ht] at this
 rw [← nth_eq g2]
 exact this
theorem FnB.rd {W : View} {h : Heap} {o : Own} {vb : Value} {lb : List BlkM} {f : FuncD} (b : FnB o vb lb f) (w : Owns W h o) : SlRd (vw h) vb f.blocks :=
 fnB_sl (w.now b.blk) b.len b.term (fun i hi => w.now (b.phis i hi)) fun i hi => w.now (b.ins i hi)
theorem FnB.freeze {W : View} {h : Heap} {o o0 : Own} {vb : Value} {lb : List BlkM} {f : FuncD} (b : FnB o vb lb f) (w : Owns W h o) (ho : ∀ k : Key, 3 ≤ k.1 → o k = o0 k) (ho0 : ∀ k : Key, k.1 < 3 → o0 k = none) : ∃ W', W.le W' ∧ Owns W' h o0 ∧ SlRd W' vb f.blocks := by
 obtain ⟨W17, hW17, w17, fr⟩ := w.freezeAll (fun k => decide (k.1 < 3))
 refine ⟨W17, hW17, w17.sub fun k i hk => ?_, fnB_sl (fr (k := (0, 2)) (by simp) b.blk) b.len b.term (fun i hi => fr (k := (1, i)) (by simp) (b.phis i hi)) fun i hi => fr (k := (2, i)) (by simp) (b.ins i hi)⟩
 rcases Nat.lt_or_ge k.1 3 with e | e
 ·rw [ho0 k e] at hk; cases hk
 ·have h2 : ¬ k.1 < 3 := by omega
  simp only [h2, decide_false, Bool.false_eq_true, if_false]
  rw [ho k e]; exact hk
theorem made_own {s : List Int} {vs : Value} {h : Heap} {W : View} {o0 : Own} (w0 : Owns W h o0) (ho0 : ∀ k : Key, k.1 < 10 → o0 k = none) (hs : SlRd W vs s) :
  HCalls Try.prog N.ref03_Made #[vs] h (fun u h' => ∃ W' o vb lb, W.le W' ∧ Owns W' h' o ∧ (∀ k : Key, 3 ≤ k.1 → o k = o0 k) ∧ FnB o vb lb (makeS s) ∧ u = .agg #[.int .i64 (makeS s).params, vb]) := by
 refine calls_lift (args := [vs]) follows F.ref03_Made E.ref03_Made (Nat.le_of_ble_eq_true (by kernel_rfl)) fun K hK => ?_
 have hs0 := hs
 obtain ⟨sa, sc, rfl, _⟩ := hs0
 dsimp only [L.ref03_Made]
 refine lwp_hide fun z hz => ?_
 simp
 refine w0.do_zero (k := (8, 0)) (n := 1) (z := .agg #[.int .i64 0, .slice none 0 0]) (ho0 _ (by decide)) (by kernel_rfl) rfl (by decide) (by simp [Value.cells, Value.oneCell']) fun h1 q1 w1 => ?_
 generalize h.size = R at w1
 rw [hz]; clear hz z
 refine lwp_hide fun z hz => ?_
 simp
 refine do_build (z := .agg #[.slice none 0 0, .int .i64 0, .int .i64 0, .slice none 0 0, .int .i64 0, .slice none 0 0]) (places := [(0, 1), (1, 1), (2, 2), (4, 1), (5, 1)]) (vs := [(0, .slice sa s.length sc)]) (cs := #[.slice sa s.length sc, .int .i64 0, .int .i64 0, .slice none 0 0, .int .i64 0, .slice none 0 0]) (by kernel_rfl) (by kernel_rfl) (by simp) (by rfl) ?_
 generalize s.length = sl at hs
 refine do_box rfl ?_
 have hbx : (h1.push (.cells (Value.agg #[.slice sa sl sc, .int .i64 0, .int .i64 0, .slice none 0 0, .int .i64 0, .slice none 0 0]).cells T.ref03_maker))[h1.size]? = some (.cells (Value.agg #[.slice sa sl sc, .int .i64 0, .int .i64 0, .slice none 0 0, .int .i64 0, .slice none 0 0]).cells T.ref03_maker (0, 0)) := by simp
 have hle2 := push_le h1 (.cells (Value.agg #[.slice sa sl sc, .int .i64 0, .int .i64 0, .slice none 0 0, .int .i64 0, .slice none 0 0]).cells T.ref03_maker)
 have hbg : ∀ b, (Value.slice (some ⟨h1.size, 0, none⟩) 1 1).ownBlock = some b → h1.size ≤ b := fun b hb => by simp only [Value.ownBlock, Option.some.injEq] at hb; omega
 show LC.wp Try.prog z _ _ (h1.push (.cells (Value.agg #[.slice sa sl sc, .int .i64 0, .int .i64 0, .slice none 0 0, .int .i64 0, .slice none 0 0]).cells T.ref03_maker))
 generalize h1.push (.cells (Value.agg #[.slice sa sl sc, .int .i64 0, .int .i64 0, .slice none 0 0, .int .i64 0, .slice none 0 0]).cells T.ref03_maker) = h2 at hbx hle2
 have w2 := w1.add (k := (0, 0)) ((Own.upd_ne (by simp)).trans (ho0 _ (by decide))) (ownT_box (W := W) (d := RawN.mk (n := 5) [.slice sa sl sc, .int .i64 0, .int .i64 0, .slice none 0 0, .int .i64 0, .slice none 0 0]) hbx (rd_rawN rfl (by simp [Value.oneCell'])) (by decide)) hle2 hbg
 generalize h1.size = M at w2
 generalize hvs : Value.slice sa sl sc = vs at hs w2
 obtain ⟨m0, hm0⟩ : ∃ m0 : MS, m0 = ⟨0, 0, [], 0, []⟩ := ⟨_, rfl⟩
 obtain ⟨o2, ho2⟩ : ∃ o2 : Own, o2 = fun k => if k = (0, 0) then bx T.ref03_maker M (RawN.mk (n := 5) (mkL vs 0 0 (.slice none 0 0) 0 (.slice none 0 0))) else if k = (0, 1) then it T.int (.slice none 0 0) ([] : List Int) else if k = (0, 2) then it T.api_Block (.slice none 0 0) ([] : List BlkM) else frame0 R o0 k := ⟨_, rfl⟩
 have w2 : Owns W h2 o2 := w2.nils fun k i hk => by
  rw [ho2] at hk
  dsimp only at hk
  split at hk
  ·rename_i e; rw [e]; exact .inl hk
  ·rename_i e0
   split at hk
   ·cases hk; exact .inr ⟨rfl, OwnT.nil (α := Int) _ _ _⟩
   ·split at hk
    ·cases hk; exact .inr ⟨rfl, OwnT.nil (α := BlkM) _ _ _⟩
    ·refine .inl ?_
     rw [Own.upd_ne e0]
     by_cases e8 : k = (8, 0)
     ·subst e8; exact hk
     ·rw [Own.upd_ne e8]
      unfold frame0 at hk; rw [if_neg e8] at hk
      split at hk
      ·exact hk
      ·cases hk
 have w2 : Mk s M vs W h2 o2 m0 := ⟨w2, hs, .slice none 0 0, .slice none 0 0, [], by rw [ho2, hm0]; rfl, by rw [ho2, hm0]; rfl, by rw [ho2]; rfl, by rw [hm0]; rfl, fun i hi => by rw [hm0] at hi; simp at hi, fun i hi => by rw [hm0] at hi; simp at hi, fun i hi => by rw [hm0] at hi; simp at hi⟩
 have f2 : ∀ k : Key, 3 ≤ k.1 → o2 k = frame0 R o0 k := fun k hk => by
  rw [ho2]
  dsimp only
  rw [if_neg (by rintro rfl; simp at hk), if_neg (by rintro rfl; simp at hk), if_neg (by rintro rfl; simp at hk)]
 clear w1 hbx hbg hle2 q1 ho2
 rw [hz]; clear hz z
 refine lwp_hide fun z hz => ?_
 simp
 refine call_to (by kernel_rfl) (w2.take (by rw [hm0]; decide) (n := 5) (by decide) (by decide)) ?_
 rintro _ h3 ⟨rfl, o3, w3, f3⟩
 have tv := takeV_rng (s := s) (at_ := m0.at_) (n := 5) (by decide)
 obtain ⟨vb, vl, lb, bb⟩ := w3.box
 refine w3.own.do_cell (k := (0, 0)) (n := 5) (i := 2) (e := T.ref03_maker) (B := M) (l := mkL vs m0.took.at_ m0.took.ps vb m0.took.next vl) bb.box (by decide) (by kernel_rfl) rfl rfl rfl fun h4 w4 _ => ?_
 have b4 := bb.boxed ⟨m0.took.at_, takeV s m0.at_ 5, m0.took.blocks, m0.took.next, m0.took.live⟩ rfl rfl
 rw [hz]; clear hz z
 refine lwp_hide fun z hz => ?_
 have w4 : Mk s M vs W h4 _ _ := ⟨w4, w3.src, vb, vl, lb, b4⟩
 have rd := w4.reads b4
 simp [rd.ps]
 refine w4.own.do_cell (k := (0, 0)) (n := 5) (i := 4) (e := T.ref03_maker) (B := M) (l := mkL vs m0.took.at_ (takeV s m0.at_ 5) vb m0.took.next vl) b4.box (by decide) (by kernel_rfl) rfl rfl rfl fun h5 w5 _ => ?_
 have b5 := b4.boxed ⟨m0.took.at_, takeV s m0.at_ 5, m0.took.blocks, takeV s m0.at_ 5, m0.took.live⟩ rfl rfl
 have w5 : Mk s M vs W h5 _ _ := ⟨w5, w3.src, vb, vl, lb, b5⟩
 obtain ⟨o5, ho5⟩ : ∃ o5, o5 = (o3.upd (0, 0) (bx T.ref03_maker M (RawN.mk (n := 5) (mkL vs m0.took.at_ (takeV s m0.at_ 5) vb m0.took.next vl)))).upd (0, 0) (bx T.ref03_maker M (RawN.mk (n := 5) (mkL vs m0.took.at_ (takeV s m0.at_ 5) vb (takeV s m0.at_ 5) vl))) := ⟨_, rfl⟩
 have f5 : ∀ k : Key, 3 ≤ k.1 → o5 k = frame0 R o0 k := fun k hk => by
  rw [ho5, Own.upd_ne (by rintro rfl; simp at hk), Own.upd_ne (by rintro rfl; simp at hk), f3 k hk, f2 k hk]
 rw [hm0] at w5
 have w5 : Mk s M vs W h5 o5 ⟨1, takeV s 0 5, [], takeV s 0 5, []⟩ := by rw [ho5, hm0]; exact w5
 clear b5 b4 rd w4 bb w3 f3 w2 f2 ho5 hvs
 rw [hz]; clear hz z
 refine lwp_hide fun z hz => ?_
 simp
 refine call_to (by kernel_rfl) (w5.take (show 1 ≤ _ by omega) (n := 9) (by decide) (by decide)) ?_
 rintro _ h6 ⟨rfl, o6, w6, f6⟩
 have w6 : Mk s M vs W h6 o6 (made0 s) := w6
 have f6 : ∀ k : Key, 3 ≤ k.1 → o6 k = frame0 R o0 k := fun k hk => (f6 k hk).trans (f5 k hk)
 clear w5 f5
 have hN := madeN_int (s := s)
 obtain ⟨n1, n2⟩ := madeN_rng (s := s)
 have hw : IntKind.i64.wrap (1 + takeV s 1 9) = (madeN s : Nat) := by rw [hN]; exact wrap64_id (by omega) (by omega)
 simp [hw]
 rw [hz]; clear hz z
 refine lwp_hide fun z hz => ?_
 simp
 refine call_to (by kernel_rfl) (targets_ok (ri := frame0 R o0) w6 (fun k hk => f6 k (by omega)) (fun k h1 h2 => (f6 k h1).trans (by unfold frame0; rw [if_neg (by rintro rfl; simp at h2), if_neg (by omega)])) (n := madeN s) made0_ok (by omega) n1 (by omega)) ?_
 rintro vt h7 ⟨W7, o7, g7, w7, r7, e7, st⟩
 have w7 : Mk s M vs W7 h7 o7 (made1 s).2 := w7
 have st : SlRd W7 vt (made1 s).1 := st
 have f7 : ∀ k : Key, 3 ≤ k.1 → o7 k = frame0 R o0 k := fun k hk => by
  by_cases e : 8 ≤ k.1
  ·exact r7 k e
  ·rw [e7 k hk (by omega)]; unfold frame0; rw [if_neg (by rintro rfl; simp at e), if_neg (by omega)]
 clear r7 e7 w6 f6
 have k1 := made1_k (s := s)
 have s4 := made1_same (s := s)
 rw [hz]; clear hz z
 refine lwp_hide fun z hz => ?_
 simp
 refine do_make (α := BlkM) (W := W7) (k := .i64) (n := madeN s) (d := ⟨⟨.slice none 0 0⟩, ⟨.slice none 0 0⟩, ⟨0, [], [], ⟨0⟩⟩⟩) El.s_api_Block (by rfl) (by rfl) ⟨[.slice none 0 0], _, rfl, ⟨rfl, rfl⟩, [.slice none 0 0], _, rfl, ⟨rfl, rfl⟩, [.int .i64 0], _, rfl, ⟨rfl, by decide, by decide⟩, [.slice none 0 0], _, rfl, ⟨_, rfl, nil_sl⟩, [.slice none 0 0], _, rfl, ⟨_, rfl, nil_sl⟩, rfl, by decide, by decide⟩ (by omega) (by omega) fun vb8 h8 ob8 m8 hle8 hb8 => ?_
 obtain ⟨vb, vl, lb, bb⟩ := w7.box
 have wa := w7.own.sub (o' := o7.upd (0, 2) none) fun j i hj => by
  unfold Own.upd at hj
  split at hj
  ·cases hj
  ·exact hj
 have wb := wa.add (k := (0, 2)) Own.upd_self ob8 hle8 (fun b hb => by rw [hb8] at hb; cases hb; exact Nat.le_refl _)
 have hv8 := (wb.cells (k := (0, 2)) Own.upd_self).2
 obtain ⟨o8, ho8⟩ : ∃ o8 : Own, o8 = fun k => if k.1 = 1 ∧ k.2 < madeN s then it T.api_Phi (.slice none 0 0) ([] : List PhiD) else if k.1 = 2 ∧ k.2 < madeN s then it T.api_Ins (.slice none 0 0) ([] : List InsD) else o7.upd (0, 2) (it T.api_Block vb8 (List.replicate (madeN s) (BlkM.mk ⟨.slice none 0 0⟩ ⟨.slice none 0 0⟩ ⟨0, [], [], ⟨0⟩⟩))) k := ⟨_, rfl⟩
 have w8 : Owns W7 h8 o8 := wb.nils fun k i hk => by
  rw [ho8] at hk
  dsimp only at hk
  split at hk
  ·cases hk; exact .inr ⟨rfl, OwnT.nil (α := PhiD) _ _ _⟩
  ·split at hk
   ·cases hk; exact .inr ⟨rfl, OwnT.nil (α := InsD) _ _ _⟩
   ·refine .inl ?_
    by_cases e : k = (0, 2)
    ·subst e; rw [Own.upd_self] at hk ⊢; exact hk
    ·rw [Own.upd_ne e] at hk; rw [Own.upd_ne e, Own.upd_ne e]; exact hk
 have c8 : ∀ k : Key, ¬ (k.1 = 1 ∧ k.2 < madeN s) → ¬ (k.1 = 2 ∧ k.2 < madeN s) → o8 k = o7.upd (0, 2) (it T.api_Block vb8 (List.replicate (madeN s) (BlkM.mk ⟨.slice none 0 0⟩ ⟨.slice none 0 0⟩ ⟨0, [], [], ⟨0⟩⟩))) k := fun k h1 h2 => by
  rw [ho8]; dsimp only; rw [if_neg h1, if_neg h2]
 refine w8.do_cell (k := (0, 0)) (n := 5) (i := 3) (e := T.ref03_maker) (B := M) (l := mkL vs (made1 s).2.at_ (made1 s).2.ps vb (made1 s).2.next vl) (by rw [c8 _ (by simp) (by simp), Own.upd_ne (by simp)]; exact bb.box) (by decide) (by kernel_rfl) rfl rfl hv8 fun h9 w9 _ => ?_
 obtain ⟨o9, ho9⟩ : ∃ o9 : Own, o9 = o8.upd (0, 0) (bx T.ref03_maker M (RawN.mk (n := 5) (mkL vs (made1 s).2.at_ (made1 s).2.ps vb8 (made1 s).2.next vl))) := ⟨_, rfl⟩
 have w9 : Owns W7 h9 o9 := by rw [ho9]; exact w9
 have b9 : MkB M vs { (made1 s).2 with blocks := List.replicate (madeN s) zeroB } o9 vb8 vl (List.replicate (madeN s) (BlkM.mk ⟨.slice none 0 0⟩ ⟨.slice none 0 0⟩ ⟨0, [], [], ⟨0⟩⟩)) := by
  rw [ho9]
  refine ⟨rfl, ?_, ?_, by simp, fun i hi => ?_, fun i hi => ?_, fun i hi => ?_⟩
  ·rw [Own.upd_ne (by simp), c8 _ (by simp) (by simp), Own.upd_ne (by simp)]; exact bb.live
  ·rw [Own.upd_ne (by simp), c8 _ (by simp) (by simp), Own.upd_self]
  ·have hi : i < madeN s := by simpa using hi
   rw [nth_replicate hi, nth_replicate hi]; rfl
  ·have hi : i < madeN s := by simpa using hi
   rw [Own.upd_ne (by simp), ho8]; dsimp only
   rw [if_pos ⟨rfl, hi⟩, nth_replicate hi, nth_replicate hi]; rfl
  ·have hi : i < madeN s := by simpa using hi
   rw [Own.upd_ne (by simp), ho8]; dsimp only
   rw [if_neg (by simp), if_pos ⟨rfl, hi⟩, nth_replicate hi, nth_replicate hi]; rfl
 have x9 : Nx s M vs W7 h9 (frame0 R o0) { (made1 s).2 with blocks := List.replicate (madeN s) zeroB } := ⟨W7, o9, View.le_refl _, ⟨w9, w7.src, vb8, vl, _, b9⟩, fun k hk => by
  rw [ho9, Own.upd_ne (by rintro rfl; simp at hk), c8 _ (by omega) (by omega), Own.upd_ne (by rintro rfl; simp at hk)]; exact f7 k hk⟩
 clear b9 w9 ho9 c8 w8 ho8 wb wa hv8 bb ob8 m8 hle8 hb8 w7 f7
 rw [hz]; clear hz z
 refine lwp_hide fun z hz => ?_
 refine lwp_hide fun y hy => ?_
 simp
 rw [hy]; clear hy y
 refine made_l1 (vr := .pointer (some ⟨R, 0, none⟩)) st k1.len x9 (by simp) (by omega) (by simp [keepE, look_setE, look_kill]) fun h10 x10 => ?_
 have x10 : Nx s M vs W7 h10 (frame0 R o0) (made2 s) := x10
 clear x9
 simp
 rw [hz]; clear hz z
 refine lwp_hide fun z hz => ?_
 simp
 obtain ⟨Wa, oa, ga, wa, fa⟩ := x10
 refine do_make (α := Int) (W := Wa) (k := .i64) (n := madeN s) (d := 0) El.s_int (by rfl) (by rfl) ⟨rfl, by decide, by decide⟩ (by omega) (by omega) fun vp h11 ob11 m11 hle11 hb11 => ?_
 have x11 : Nx s M vs W7 h11 ((frame0 R o0).upd (5, 0) (it T.int vp (List.replicate (madeN s) (0 : Int)))) (made2 s) := by
  have w11 := wa.own.add (k := (5, 0)) ((fa _ (by decide)).trans rfl) ob11 hle11 (fun b hb => by rw [hb11] at hb; cases hb; exact Nat.le_refl _)
  obtain ⟨vb, vl, lb, bb⟩ := wa.box
  refine ⟨Wa, _, ga, ⟨w11, wa.src, vb, vl, lb, bb.frame fun q hq => Own.upd_ne (by rintro rfl; simp at hq)⟩, fun q hq => ?_⟩
  unfold Own.upd
  split
  ·rfl
  ·exact fa q hq
 clear wa fa ob11 m11 hb11
 rw [hz]; clear hz z
 refine lwp_hide fun z hz => ?_
 refine lwp_hide fun y hy => ?_
 simp
 rw [hy]; clear hy y
 obtain ⟨z2, g2⟩ := made2_ok (s := s)
 have p0 : Ph (madeN s) 200 0 (List.replicate (madeN s) (0 : Int), made2 s) := by
  have hz : ∀ j, nth (List.replicate (madeN s) (0 : Int)) j = 0 := fun j => by
   rcases Nat.lt_or_ge j (madeN s) with hj | hj
   ·rw [nth_replicate hj]
   ·rw [nth_ge (by simpa using hj)]; rfl
  exact ⟨z2, by simp, fun j _ => hz j, fun j => by show 0 ≤ nth (List.replicate _ (0 : Int)) j ∧ nth (List.replicate _ (0 : Int)) j ≤ 3; rw [hz]; omega⟩
 refine made_l2 (x0 := (List.replicate (madeN s) (0 : Int), made2 s)) (vr := .pointer (some ⟨R, 0, none⟩)) (vt := vt) (vp := vp) x11 p0 n1 (by omega) (by omega) (by simp [keepE, look_setE, look_kill]) fun h12 x12 => ?_
 have x12 : Nx s M vs W7 h12 ((frame0 R o0).upd (5, 0) (it T.int vp (made3 s).1)) (made3 s).2 := x12
 obtain ⟨ph, pc, g3⟩ := made3_ok (s := s)
 clear p0 x11 z2 g2
 simp
 rw [hz]; clear hz z
 refine lwp_hide fun z hz => ?_
 simp
 obtain ⟨Wa, oa, ga, wa, fa⟩ := x12
 refine do_make (α := Bool) (W := Wa) (k := .i64) (n := madeN s) (d := false) El.s_bool (by rfl) (by rfl) rfl (by omega) (by omega) fun vd h13 ob13 m13 hle13 hb13 => ?_
 have x13 : Nx s M vs W7 h13 (((frame0 R o0).upd (5, 0) (it T.int vp (made3 s).1)).upd (6, 0) (it T.bool vd (List.replicate (madeN s) false))) (made3 s).2 := by
  have w13 := wa.own.add (k := (6, 0)) ((fa _ (by decide)).trans rfl) ob13 hle13 (fun b hb => by rw [hb13] at hb; cases hb; exact Nat.le_refl _)
  obtain ⟨vb, vl, lb, bb⟩ := wa.box
  refine ⟨Wa, _, ga, ⟨w13, wa.src, vb, vl, lb, bb.frame fun q hq => Own.upd_ne (by rintro rfl; simp at hq)⟩, fun q hq => ?_⟩
  unfold Own.upd
  split
  ·rfl
  ·exact fa q hq
 clear wa fa ob13 m13 hb13
 rw [hz]; clear hz z
 refine lwp_hide fun z hz => ?_
 refine lwp_hide fun y hy => ?_
 simp
 rw [hy]; clear hy y
 refine made_l4 (a := 16000) (p := 27) (x0 := (List.replicate (madeN s) false, (made3 s).2)) (vr := .pointer (some ⟨R, 0, none⟩)) (vp := vp) x13 st k1.len rfl rfl rfl made3_b2 n2 (by omega) (by omega) (by omega) (by simp [keepE, look_setE, look_kill]) fun h14 x14 => ?_
 have x14 : Nx s M vs W7 h14 (((frame0 R o0).upd (5, 0) (it T.int vp (made3 s).1)).upd (6, 0) (it T.bool vd (made4 s).1)) (made4 s).2 := x14
 obtain ⟨q4, pc4⟩ := made4_ok (s := s)
 clear x13 pc g3
 simp
 rw [hz]; clear hz z
 refine lwp_hide fun z hz => ?_
 refine lwp_hide fun y hy => ?_
 simp
 rw [hy]; clear hy y
 refine made_l13 (vr := .pointer (some ⟨R, 0, none⟩)) (vt := vt) (vp := vp) (vd := vd) (lp := (made3 s).1) x14 ((Own.upd_ne (by simp)).trans Own.upd_self) rfl rfl q4 pc4 ph.len ph.rng n1 n2 (by omega) (by omega) (by omega) (by omega) (by simp [keepE, look_setE, look_kill]) fun h15 x15 => ?_
 have x15 : Nx s M vs W7 h15 (((frame0 R o0).upd (5, 0) (it T.int vp (made3 s).1)).upd (6, 0) (it T.bool vd (made4 s).1)) (made5 s) := x15
 have q5 := made5_ok (s := s)
 clear x14 q4 pc4 ph
 simp
 rw [hz]; clear hz z
 refine lwp_hide fun z hz => ?_
 obtain ⟨Wa, oa, ga, wa, fa⟩ := x15
 obtain ⟨vb, vl, lb, bb⟩ := wa.box
 have rd := wa.reads bb
 simp [rd.f]
 have hvb : vb.oneCell' = true := rd.blk.cells.2
 refine wa.own.do_field (k := (8, 0)) (α := RawN 1) (β := RawN 1) Part.all (B := R) (D := RawN.mk (n := 1) [.int .i64 0, .slice none 0 0]) (d := RawN.mk (n := 1) [.int .i64 (made5 s).ps, vb]) ((fa _ (by decide)).trans rfl) (by kernel_rfl) rfl rfl (rd_rawN rfl (by intro c hc; simp only [List.mem_cons, List.not_mem_nil, or_false] at hc; rcases hc with rfl | rfl <;> first | rfl | exact hvb)) fun h16 w16 _ => ?_
 have c16 := w16.rawAll (k := (8, 0)) (n := 1) (l := [.int .i64 (made5 s).ps, vb]) Own.upd_self
 have c16 : Un.ev (vw h16) (.loads 2) (.pointer (some ⟨R, 0, none⟩)) = some (.agg #[.int .i64 (made5 s).ps, vb]) := c16
 have b16 := bb.frame (o' := oa.upd (8, 0) (bx T.api_Func R (RawN.mk (n := 1) [.int .i64 (made5 s).ps, vb]))) fun q hq => Own.upd_ne (by rintro rfl; simp at hq)
 have w16 : Mk s M vs Wa h16 _ (made5 s) := ⟨w16, wa.src, vb, vl, lb, b16⟩
 have rd16 := w16.reads b16
 rw [hz]; clear hz z
 simp [c16]
 refine hK _ _ ⟨Wa, fun k => if 3 ≤ k.1 then o0 k else if k = (0, 2) ∨ k.1 = 1 ∨ k.1 = 2 then oa k else none, vb, lb, View.le_trans g7 ga, w16.own.sub fun k i hk => ?_, fun k hk => if_pos hk, ⟨?_, b16.len, b16.term, fun i hi => ?_, fun i hi => ?_⟩, rfl⟩
 ·split at hk
  ·rename_i e3
   rcases Nat.lt_or_ge k.1 10 with e | e
   ·rw [ho0 k e] at hk; cases hk
   ·have h1 : oa k = o0 k := (fa k (by omega)).trans (by
     rw [Own.upd_ne (by rintro rfl; simp at e), Own.upd_ne (by rintro rfl; simp at e)]
     unfold frame0; rw [if_neg (by rintro rfl; simp at e), if_pos e])
    rw [Own.upd_ne (by rintro rfl; simp at e), h1]; exact hk
  ·rename_i e3
   split at hk
   ·rw [Own.upd_ne (by rintro rfl; simp at e3)]; exact hk
   ·cases hk
 ·have := b16.blk
  rw [Own.upd_ne (by simp)] at this
  simpa using this
 ·have := b16.phis i hi
  rw [Own.upd_ne (by simp)] at this
  exact (by simp : _ = oa (1, i)).trans this
 ·have := b16.ins i hi
  rw [Own.upd_ne (by simp)] at this
  exact (by simp : _ = oa (2, i)).trans this
end Go.Proofs.Ytfelpjfopgiabaa
namespace Go.Lft
open Go
variable {po : OP}
theorem do_sliceA {P : Program} {t ty e : TypeId} {us : List (Nat × Value)} {h : Heap} {K : Value → Heap → Prop} {x : Operand} {B n sz : Nat} (ht : P.underlying t = some (.array n e)) (hz : sizeB P e = some sz) (hx : asg us x = .pointer (some ⟨B, 0, none⟩)) (hk : K (.slice (some ⟨B, 0, none⟩) n n) h) : step P (.slice t x none none none) ty us h K := by
 refine step_of (runs_value fun w hw => ⟨.slice (some ⟨B, 0, none⟩) n n, w, ?_, Same.refl _, by rw [hw]; exact hk⟩)
 have e3 := run_sizeOf (w := w) hz
 simp only [loudSem, execOp, hx]
 simp [Instr.sliceAt, Instr.sureAddr, run_underlying ht, Instr.sliceBounds, e3, Addr.add]
end Go.Lft
namespace Go.Proofs.Ytfelpjfopgiabaa
open Go Go.Lft
structure TB (c : Nat) (x : BlkD) : Prop where
 phis : x.phis.length ≤ c
 ins : x.ins.length ≤ c
 args : x.term.args.length ≤ c
 to : x.term.to.length ≤ c
 pin : ∀ p ∈ x.phis, p.ins.length ≤ c
 iar : ∀ i ∈ x.ins, i.args.length ≤ c
structure TF (c : Nat) (f : FuncD) : Prop where
 len : f.blocks.length ≤ 1000
 blk : ∀ x ∈ f.blocks, TB c x
theorem TB.mono {c d : Nat} {x : BlkD} (t : TB c x) (h : c ≤ d) : TB d x := ⟨Nat.le_trans t.phis h, Nat.le_trans t.ins h, Nat.le_trans t.args h, Nat.le_trans t.to h, fun p hp => Nat.le_trans (t.pin p hp) h, fun i hi => Nat.le_trans (t.iar i hi) h⟩
theorem TF.mono {c d : Nat} {f : FuncD} (t : TF c f) (h : c ≤ d) : TF d f := ⟨t.len, fun x hx => (t.blk x hx).mono h⟩
theorem TF.sm {c : Nat} {f : FuncD} (t : TF c f) (h : c ≤ 10000) : SmF f := by
 refine ⟨by have := t.len; omega, fun i hi => ?_⟩
 have q := t.blk _ (nth_mem hi)
 exact ⟨by have := q.phis; omega, by have := q.ins; omega, by have := q.args; omega, by have := q.to; omega, fun k hk => by have := q.pin _ (nth_mem hk); omega, fun k hk => by have := q.iar _ (nth_mem hk); omega⟩
theorem make_tf {s : List Int} : TF 1000 (makeS s) := by
 have q := made5_ok (s := s)
 have hn := madeN_rng (s := s)
 refine ⟨by show (made5 s).blocks.length ≤ _; rw [q.z.len]; omega, fun x hx => ?_⟩
 obtain ⟨j, hj, rfl⟩ := List.getElem_of_mem hx
 have hj : j < (made5 s).blocks.length := hj
 have g := q.g j hj
 have this : TB 1000 (nth (made5 s).blocks j) := ⟨by have := q.z.phis j; omega, q.z.ins j, by have := g.args; omega, g.to, g.phis, fun i hi => by have := g.ins i hi; omega⟩
 rw [nth_eq hj] at this
 exact this
structure Tu (R F X : Nat) (i10 : Own) (c : Nat) (W0 : View) (vbk : Value) (bl : List BlkD) (W : View) (o : Own) (ps : Int) (vp vi va vt : Value) (kd im : Int) (lp : List PhiD) (li : List InsD) (la lt : List Int) : Prop where
 le : W0.le W
 res : o (8, 0) = bx T.api_Func R (RawN.mk (n := 1) [.int .i64 0, .slice none 0 0])
 fn : o (8, 1) = bx T.api_Func F (RawN.mk (n := 1) [.int .i64 ps, vbk])
 blk : o (3, 0) = it T.api_Block vbk bl
 box : o (3, 1) = bx T.api_Block X (RawN.mk (n := 5) [vp, vi, .int .i64 kd, va, vt, .int .i32 im])
 ins : o (3, 2) = it T.api_Ins vi li
 phis : o (3, 3) = it T.api_Phi vp lp
 free : o (4, 0) = none
 fr : ∀ k : Key, 10 ≤ k.1 → o k = i10 k
 ra : SlRd W va la
 rt : SlRd W vt lt
 ips : I64 ps
 ikd : I64 kd
 iim : -2147483648 ≤ im ∧ im ≤ 2147483647
 tb : TB c ⟨lp, li, ⟨kd, la, lt, ⟨im⟩⟩⟩
def TuE (R F X : Nat) (i10 : Own) (c : Nat) (W0 : View) (vbk : Value) (bl : List BlkD) (h : Heap) : Prop := ∃ W o ps vp vi va vt kd im lp li la lt, Tu R F X i10 c W0 vbk bl W o ps vp vi va vt kd im lp li la lt ∧ Owns W h o
theorem TuE.mono {R F X : Nat} {i10 : Own} {c d : Nat} {W0 : View} {vbk : Value} {bl : List BlkD} {h : Heap} (t : TuE R F X i10 c W0 vbk bl h) (hd : c ≤ d) : TuE R F X i10 d W0 vbk bl h := by
 obtain ⟨W, o, ps, vp, vi, va, vt, kd, im, lp, li, la, lt, t, w⟩ := t
 exact ⟨W, o, ps, vp, vi, va, vt, kd, im, lp, li, la, lt, ⟨t.le, t.res, t.fn, t.blk, t.box, t.ins, t.phis, t.free, t.fr, t.ra, t.rt, t.ips, t.ikd, t.iim, t.tb.mono hd⟩, w⟩
section
variable {R F X c : Nat} {i10 : Own} {W0 W : View} {vbk : Value} {bl : List BlkD} {h : Heap} {o : Own} {ps : Int} {vp vi va vt : Value} {kd im : Int} {lp : List PhiD} {li : List InsD} {la lt : List Int}
theorem Tu.wider (t : Tu R F X i10 c W0 vbk bl W o ps vp vi va vt kd im lp li la lt) {W' : View} (hW : W.le W') : Tu R F X i10 c W0 vbk bl W' o ps vp vi va vt kd im lp li la lt :=
 ⟨View.le_trans t.le hW, t.res, t.fn, t.blk, t.box, t.ins, t.phis, t.free, t.fr, t.ra.mono hW, t.rt.mono hW, t.ips, t.ikd, t.iim, t.tb⟩
theorem Tu.more (t : Tu R F X i10 c W0 vbk bl W o ps vp vi va vt kd im lp li la lt) {d : Nat} (hd : c ≤ d) : Tu R F X i10 d W0 vbk bl W o ps vp vi va vt kd im lp li la lt :=
 ⟨t.le, t.res, t.fn, t.blk, t.box, t.ins, t.phis, t.free, t.fr, t.ra, t.rt, t.ips, t.ikd, t.iim, t.tb.mono hd⟩
variable {po : OP} {ty t2 : TypeId} {us : List (Nat × Value)} {x y : Operand} {K : Value → Heap → Prop}
theorem Tu.do_params (t : Tu R F X i10 c W0 vbk bl W o ps vp vi va vt kd im lp li la lt) (w : Owns W h o) {p : Int} (hp : I64 p) (hsz : sizeB Try.prog t2 = some 1) (hx : asg us x = .pointer (some ⟨F, 0, none⟩)) (hy : asg us y = .int .i64 p) (hK : ∀ h', TuE R F X i10 c W0 vbk bl h' → K undef h') : @Lft.step po Try.prog (.store t2 x y) ty us h K :=
 w.do_cell (k := (8, 1)) (n := 1) (i := 0) t.fn (by decide) hsz hx hy rfl fun h' w' _ => hK h' ⟨W, _, p, vp, vi, va, vt, kd, im, lp, li, la, lt, ⟨t.le, (Own.upd_ne (by simp)).trans t.res, Own.upd_self, (Own.upd_ne (by simp)).trans t.blk, (Own.upd_ne (by simp)).trans t.box, (Own.upd_ne (by simp)).trans t.ins, (Own.upd_ne (by simp)).trans t.phis, (Own.upd_ne (by simp)).trans t.free, fun k hk => (Own.upd_ne (by rintro rfl; simp at hk)).trans (t.fr k hk), t.ra, t.rt, hp, t.ikd, t.iim, t.tb⟩, w'⟩
theorem Tu.do_kind (t : Tu R F X i10 c W0 vbk bl W o ps vp vi va vt kd im lp li la lt) (w : Owns W h o) {p : Int} (hp : I64 p) (hsz : sizeB Try.prog t2 = some 1) (hx : asg us x = .pointer (some ⟨X, 2, none⟩)) (hy : asg us y = .int .i64 p) (hK : ∀ h', TuE R F X i10 c W0 vbk bl h' → K undef h') : @Lft.step po Try.prog (.store t2 x y) ty us h K :=
 w.do_cell (k := (3, 1)) (n := 5) (i := 2) t.box (by decide) hsz hx hy rfl fun h' w' _ => hK h' ⟨W, _, ps, vp, vi, va, vt, p, im, lp, li, la, lt, ⟨t.le, (Own.upd_ne (by simp)).trans t.res, (Own.upd_ne (by simp)).trans t.fn, (Own.upd_ne (by simp)).trans t.blk, Own.upd_self, (Own.upd_ne (by simp)).trans t.ins, (Own.upd_ne (by simp)).trans t.phis, (Own.upd_ne (by simp)).trans t.free, fun k hk => (Own.upd_ne (by rintro rfl; simp at hk)).trans (t.fr k hk), t.ra, t.rt, t.ips, hp, t.iim, ⟨t.tb.phis, t.tb.ins, t.tb.args, t.tb.to, t.tb.pin, t.tb.iar⟩⟩, w'⟩
theorem Tu.do_to (t : Tu R F X i10 c W0 vbk bl W o ps vp vi va vt kd im lp li la lt) (w : Owns W h o) {v : Value} {l : List Int} (hv : SlRd W v l) (hl : l.length ≤ c) (hsz : sizeB Try.prog t2 = some 1) (hx : asg us x = .pointer (some ⟨X, 4, none⟩)) (hy : asg us y = v) (hK : ∀ h', TuE R F X i10 c W0 vbk bl h' → K undef h') : @Lft.step po Try.prog (.store t2 x y) ty us h K :=
 w.do_cell (k := (3, 1)) (n := 5) (i := 4) t.box (by decide) hsz hx hy hv.cells.2 fun h' w' _ => hK h' ⟨W, _, ps, vp, vi, va, v, kd, im, lp, li, la, l, ⟨t.le, (Own.upd_ne (by simp)).trans t.res, (Own.upd_ne (by simp)).trans t.fn, (Own.upd_ne (by simp)).trans t.blk, Own.upd_self, (Own.upd_ne (by simp)).trans t.ins, (Own.upd_ne (by simp)).trans t.phis, (Own.upd_ne (by simp)).trans t.free, fun k hk => (Own.upd_ne (by rintro rfl; simp at hk)).trans (t.fr k hk), t.ra, hv, t.ips, t.ikd, t.iim, ⟨t.tb.phis, t.tb.ins, t.tb.args, hl, t.tb.pin, t.tb.iar⟩⟩, w'⟩
theorem Tu.do_ins {β : Type} [Rep β] {off : Nat} {g : InsD → β} {s : InsD → β → InsD} (p : Part InsD β off g s) (t : Tu R F X i10 c W0 vbk bl W o ps vp vi va vt kd im lp li la lt) (w : Owns W h o) {j : Nat} {v : Value} {d : β} (hj : j < li.length) (hr : Rd W v d) (hs : (s li[j] d).args.length ≤ c) (hsz : sizeB Try.prog t2 = some (Rep.n β)) (hx : asg us x = .pointer (some (((slA vi).add (j * 5)).add off))) (hy : asg us y = v) (hK : ∀ h', TuE R F X i10 c W0 vbk bl h' → K undef h') : @Lft.step po Try.prog (.store t2 x y) ty us h K :=
 w.do_part (k := (3, 2)) (α := InsD) p (v := vi) (l := li) (i := j) t.ins hsz hx hy hj hr fun h' w' _ => hK h' ⟨W, _, ps, vp, vi, va, vt, kd, im, lp, li.set j (s li[j] d), la, lt, ⟨t.le, (Own.upd_ne (by simp)).trans t.res, (Own.upd_ne (by simp)).trans t.fn, (Own.upd_ne (by simp)).trans t.blk, (Own.upd_ne (by simp)).trans t.box, Own.upd_self, (Own.upd_ne (by simp)).trans t.phis, (Own.upd_ne (by simp)).trans t.free, fun k hk => (Own.upd_ne (by rintro rfl; simp at hk)).trans (t.fr k hk), t.ra, t.rt, t.ips, t.ikd, t.iim, ⟨t.tb.phis, by rw [List.length_set]; exact t.tb.ins, t.tb.args, t.tb.to, t.tb.pin, fun i hi => by
   rcases List.mem_or_eq_of_mem_set hi with q | q
   ·exact t.tb.iar i q
   ·rw [q]; exact hs⟩⟩, w'⟩
theorem Tu.do_phi (t : Tu R F X i10 c W0 vbk bl W o ps vp vi va vt kd im lp li la lt) (w : Owns W h o) {j : Nat} {v : Value} {d : List InD} (hj : j < lp.length) (hr : SlRd W v d) (hs : d.length ≤ c) (hsz : sizeB Try.prog t2 = some 1) (hx : asg us x = .pointer (some (((slA vp).add (j * 2)).add 1))) (hy : asg us y = v) (hK : ∀ h', TuE R F X i10 c W0 vbk bl h' → K undef h') : @Lft.step po Try.prog (.store t2 x y) ty us h K :=
 w.do_part (k := (3, 3)) (α := PhiD) PhiD.p_ins (v := vp) (l := lp) (i := j) t.phis hsz hx hy hj (rd_list.2 hr) fun h' w' _ => hK h' ⟨W, _, ps, vp, vi, va, vt, kd, im, lp.set j { lp[j] with ins := d }, li, la, lt, ⟨t.le, (Own.upd_ne (by simp)).trans t.res, (Own.upd_ne (by simp)).trans t.fn, (Own.upd_ne (by simp)).trans t.blk, (Own.upd_ne (by simp)).trans t.box, (Own.upd_ne (by simp)).trans t.ins, Own.upd_self, (Own.upd_ne (by simp)).trans t.free, fun k hk => (Own.upd_ne (by rintro rfl; simp at hk)).trans (t.fr k hk), t.ra, t.rt, t.ips, t.ikd, t.iim, ⟨by rw [List.length_set]; exact t.tb.phis, t.tb.ins, t.tb.args, t.tb.to, fun i hi => by
   rcases List.mem_or_eq_of_mem_set hi with q | q
   ·exact t.tb.pin i q
   ·rw [q]; exact hs, t.tb.iar⟩⟩, w'⟩
theorem Tu.do_insV (t : Tu R F X i10 c W0 vbk bl W o ps vp vi va vt kd im lp li la lt) {v : Value} {l : List InsD} (w : Owns W h (o.upd (3, 2) (it T.api_Ins v l))) (hl : l.length ≤ c) (ha : ∀ i ∈ l, i.args.length ≤ c) (hsz : sizeB Try.prog t2 = some 1) (hx : asg us x = .pointer (some ⟨X, 1, none⟩)) (hy : asg us y = v) (hK : ∀ h', TuE R F X i10 c W0 vbk bl h' → K undef h') : @Lft.step po Try.prog (.store t2 x y) ty us h K :=
 w.do_cell (k := (3, 1)) (n := 5) (i := 1) ((Own.upd_ne (by simp)).trans t.box) (by decide) hsz hx hy (w.cells (k := (3, 2)) Own.upd_self).2 fun h' w' _ => hK h' ⟨W, _, ps, vp, v, va, vt, kd, im, lp, l, la, lt, ⟨t.le, (Own.upd_ne (by simp)).trans ((Own.upd_ne (by simp)).trans t.res), (Own.upd_ne (by simp)).trans ((Own.upd_ne (by simp)).trans t.fn), (Own.upd_ne (by simp)).trans ((Own.upd_ne (by simp)).trans t.blk), Own.upd_self, (Own.upd_ne (by simp)).trans Own.upd_self, (Own.upd_ne (by simp)).trans ((Own.upd_ne (by simp)).trans t.phis), (Own.upd_ne (by simp)).trans ((Own.upd_ne (by simp)).trans t.free), fun k hk => (Own.upd_ne (by rintro rfl; simp at hk)).trans ((Own.upd_ne (by rintro rfl; simp at hk)).trans (t.fr k hk)), t.ra, t.rt, t.ips, t.ikd, t.iim, ⟨t.tb.phis, hl, t.tb.args, t.tb.to, t.tb.pin, ha⟩⟩, w'⟩
theorem Tu.do_phiV (t : Tu R F X i10 c W0 vbk bl W o ps vp vi va vt kd im lp li la lt) {v : Value} {l : List PhiD} (w : Owns W h (o.upd (3, 3) (it T.api_Phi v l))) (hl : l.length ≤ c) (ha : ∀ i ∈ l, i.ins.length ≤ c) (hsz : sizeB Try.prog t2 = some 1) (hx : asg us x = .pointer (some ⟨X, 0, none⟩)) (hy : asg us y = v) (hK : ∀ h', TuE R F X i10 c W0 vbk bl h' → K undef h') : @Lft.step po Try.prog (.store t2 x y) ty us h K :=
 w.do_cell (k := (3, 1)) (n := 5) (i := 0) ((Own.upd_ne (by simp)).trans t.box) (by decide) hsz hx hy (w.cells (k := (3, 3)) Own.upd_self).2 fun h' w' _ => hK h' ⟨W, _, ps, v, vi, va, vt, kd, im, l, li, la, lt, ⟨t.le, (Own.upd_ne (by simp)).trans ((Own.upd_ne (by simp)).trans t.res), (Own.upd_ne (by simp)).trans ((Own.upd_ne (by simp)).trans t.fn), (Own.upd_ne (by simp)).trans ((Own.upd_ne (by simp)).trans t.blk), Own.upd_self, (Own.upd_ne (by simp)).trans ((Own.upd_ne (by simp)).trans t.ins), (Own.upd_ne (by simp)).trans Own.upd_self, (Own.upd_ne (by simp)).trans ((Own.upd_ne (by simp)).trans t.free), fun k hk => (Own.upd_ne (by rintro rfl; simp at hk)).trans ((Own.upd_ne (by rintro rfl; simp at hk)).trans (t.fr k hk)), t.ra, t.rt, t.ips, t.ikd, t.iim, ⟨hl, t.tb.ins, t.tb.args, t.tb.to, ha, t.tb.iar⟩⟩, w'⟩
end
theorem blk_val {H : View} {u : Value} {d : BlkD} (h : Rd H u d) : ∃ vp vi va vt, u = .agg #[vp, vi, .int .i64 d.term.kind, va, vt, .int .i32 d.term.imm.v] ∧ SlRd H vp d.phis ∧ SlRd H vi d.ins ∧ SlRd H va d.term.args ∧ SlRd H vt d.term.to ∧ I64 d.term.kind ∧ -2147483648 ≤ d.term.imm.v ∧ d.term.imm.v ≤ 2147483647 := by
 obtain ⟨cs, rfl, c1, r1, e1, ⟨vp, rfl, h1⟩, c2, r2, e2, ⟨vi, rfl, h2⟩, c3, r3, e3, ⟨rfl, h3⟩, c4, r4, e4, ⟨va, rfl, h4⟩, c5, r5, e5, ⟨vt, rfl, h5⟩, h6, h7⟩ := h
 subst e5 e4 e3 e2
 have he : cs.toList = [vp, vi, .int .i64 d.term.kind, va, vt, .int .i32 d.term.imm.v] := by rw [e1, h6]; rfl
 refine ⟨vp, vi, va, vt, ?_, h1, h2, h4, h5, h3, h7⟩
 rw [← Array.toList_inj.1 (he.trans rfl : cs.toList = #[vp, vi, Value.int .i64 d.term.kind, va, vt, .int .i32 d.term.imm.v].toList)]
theorem Owns.elW {W : View} {h : Heap} {o : Own} {k : Key} {α : Type} [r : Rep α] {e : TypeId} {v : Value} {l : List α} (w : Owns W h o) (hk : o k = it e v l) {i : Nat} (hi : i < l.length) : ∃ cs, cellsAt (vw h) ((slA v).add (i * Rep.n α)) cs ∧ cs.length = Rep.n α ∧ Rep.rd W cs l[i] := by
 obtain ⟨hb, xs, ⟨hl, hown⟩, hel⟩ := w.get hk
 have h0 := hel i hi
 have hle : i * Rep.n α + Rep.n α ≤ l.length * Rep.n α := by rw [← Nat.succ_mul]; exact Nat.mul_le_mul_right _ hi
 have hcl : ((xs.drop (i * Rep.n α)).take (Rep.n α)).length = Rep.n α := by simp; omega
 rcases hown with ⟨rfl, hn⟩ | ⟨g, cap, cur, rfl, h2, h3, h4, h5, h6⟩
 ·omega
 ·have hadd : (slA (.slice (some ⟨g, 0, none⟩) l.length cap)).add (i * Rep.n α) = ⟨g, i * Rep.n α, none⟩ := by
   show (⟨g, 0, none⟩ : Addr).add _ = _
   simp [Addr.z]
  rw [hadd]
  refine ⟨_, ⟨cur, e, (0, 0), rfl, h2, ?_⟩, hcl, h0⟩
  rw [hcl, ← h6, List.drop_take, List.take_take, Nat.min_eq_left (by omega)]
theorem Owns.ldW {W : View} {h : Heap} {o : Own} {k : Key} {α : Type} [r : Rep α] {e : TypeId} {v : Value} {l : List α} (w : Owns W h o) (hk : o k = it e v l) (ha : Rep.agg α = true) {N : Nat} (hn : Rep.n α = N) {i : Nat} (hi : i < l.length) : ∃ u, Un.ev (vw h) (.loads N) (.pointer (some ((slA v).add (i * N)))) = some u ∧ Rd W u l[i] := by
 subst hn
 obtain ⟨cs, h1, h2, h3⟩ := Owns.elW w hk hi
 have := cellsFrom_at h1 cs.length 0 #[] (by omega)
 refine ⟨.agg cs.toArray, ?_, ?_⟩
 ·simp only [Un.ev, vP, Option.bind_some]
  rw [h2] at this
  rw [this]
  simp
 ·unfold Rd
  rw [if_pos ha]
  exact ⟨_, rfl, by simpa using h3⟩
theorem Owns.insW {W : View} {h : Heap} {o : Own} {k : Key} {e : TypeId} {v : Value} {l : List InsD} (w : Owns W h o) (hk : o k = it e v l) {i : Nat} (hi : i < l.length) : ∃ va, cellH (vw h) (((slA v).add (i * 5)).add 3) = some va ∧ SlRd W va l[i].args := by
 obtain ⟨cs, h1, h2, h3⟩ := Owns.elW w hk hi
 have hn : Rep.n InsD = 5 := rfl
 rw [hn] at h1
 obtain ⟨c1, r1, e1, ⟨rfl, q1⟩, c2, r2, e2, ⟨rfl, q2⟩, c3, r3, e3, ⟨rfl, q3⟩, c4, r4, e4, ⟨va, rfl, q4⟩, q5, q6⟩ := h3
 subst e4 e3 e2 e1
 exact ⟨va, cellsAt_get h1 (by rfl), q4⟩
theorem Owns.phiW {W : View} {h : Heap} {o : Own} {k : Key} {e : TypeId} {v : Value} {l : List PhiD} (w : Owns W h o) (hk : o k = it e v l) {i : Nat} (hi : i < l.length) : ∃ va, cellH (vw h) (((slA v).add (i * 2)).add 1) = some va ∧ SlRd W va l[i].ins := by
 obtain ⟨cs, h1, h2, h3⟩ := Owns.elW w hk hi
 have hn : Rep.n PhiD = 2 := rfl
 rw [hn] at h1
 obtain ⟨c1, r1, e1, ⟨rfl, q1⟩, va, rfl, q4⟩ := h3
 subst e1
 exact ⟨va, cellsAt_get h1 (by rfl), q4⟩
theorem do_oneIn {po : OP} {a b : Int} (ha : I64 a) (hb : I64 b) {ty : TypeId} {us : List (Nat × Value)} {h : Heap} {x : Operand} {K : Value → Heap → Prop} (hx : asg us x = .agg #[.int .i64 a, .int .i64 b])
  (hk : ∀ h', (vw h).le (vw h') → (∀ Y : View, Y h.size = h'[h.size]? → SlRd Y (.slice (some ⟨h.size, 0, none⟩) 1 1) [InD.mk a b]) → K (.slice (some ⟨h.size, 0, none⟩) 1 1) h') : @Lft.step po Try.prog (.buildSlice T.s_api_In 1 #[(0, x)]) ty us h K := by
 refine do_lits (n := 1) (size := 2) (vs := [(0, .agg #[.int .i64 a, .int .i64 b])]) (cs := #[.int .i64 a, .int .i64 b]) El.s_api_In (by decide) (by simp [hx]) (by kernel_rfl) (hk _ (push_le _ _) fun Y hY => ?_)
 have hb2 : Y h.size = some (.cells #[.int .i64 a, .int .i64 b] T.api_In (0, 0)) := by rw [hY]; simp
 refine ⟨some ⟨h.size, 0, none⟩, 1, rfl, Nat.le_refl _, by simp, .inr ⟨⟨h.size, 0, none⟩, rfl, rfl, fun i hi => ?_⟩⟩
 have : i = 0 := by simpa using hi
 subst this
 have e : (⟨h.size, 0, none⟩ : Addr).add (0 * Rep.n InD) = ⟨h.size, 0, none⟩ := by rw [Nat.zero_mul]; rfl
 rw [e]
 exact at_new (d := InD.mk a b) (v := .agg #[.int .i64 a, .int .i64 b]) (fz := (0, 0)) hb2 (rd_inD ha hb)
theorem Owns.cut {W : View} {h : Heap} {o : Own} {k : Key} {α : Type} [r : Rep α] {e : TypeId} {v : Value} {l : List α} (w : Owns W h o) (hk : o k = it e v l) {N : Nat} (hN : Rep.n α = N) {j : Nat} (hj : j < l.length) : ∃ v1 v2, Bn.ev .hi v (.int .i64 j) = some v1 ∧ Bn.ev (.lo N) v (.int .i64 ((j : Int) + 1)) = some v2 ∧ Owns W h (o.upd k (it e v1 (l.take j))) ∧ SrcT (vw h) W v2 (l.drop (j + 1)) := by
 subst hN
 obtain ⟨hb, xs, ⟨hl, hown⟩, hel⟩ := w.get hk
 rcases hown with ⟨rfl, hn⟩ | ⟨g, cap, cur, rfl, h2, h3, h4, h5, h6⟩
 ·omega
 ·have hjn : j * Rep.n α + Rep.n α ≤ l.length * Rep.n α := by rw [← Nat.succ_mul]; exact Nat.mul_le_mul_right _ hj
  have hcn : l.length * Rep.n α ≤ cap * Rep.n α := Nat.mul_le_mul_right _ h3
  refine ⟨.slice (some ⟨g, 0, none⟩) j cap, .slice (if cap = j + 1 then some ⟨g, 0, none⟩ else (some ⟨g, 0, none⟩ : Option Addr).map (·.add ((j + 1) * Rep.n α))) (l.length - (j + 1)) (cap - (j + 1)), ?_, ?_, ?_, ?_⟩
  ·simp only [Bn.ev, vL, vI, Option.bind_some]
   rw [if_pos ⟨by omega, by omega⟩]
   simp
  ·simp only [Bn.ev, vL, vI, Option.bind_some]
   rw [if_pos ⟨by omega, by omega⟩]
   have : ((j : Int) + 1).toNat = j + 1 := by omega
   simp only [this]
  ·refine w.moved hk (h' := h) (v' := .slice (some ⟨g, 0, none⟩) j cap) (l' := l.take j) ⟨by simp; omega, xs.take (j * Rep.n α), ⟨?_, .inr ⟨g, cap, cur, ?_, h2, ?_, h4, h5, ?_⟩⟩, fun i hi => ?_⟩ ⟨⟨Nat.le_refl _, fun _ _ _ => rfl⟩, .inl rfl⟩
   ·simp only [List.length_take]; rw [hl]; rw [Nat.min_eq_left (by omega), Nat.min_eq_left (by omega)]
   ·rw [List.length_take, Nat.min_eq_left (by omega)]
   ·simp; omega
   ·rw [List.length_take, Nat.min_eq_left (by omega), ← h6, List.take_take, Nat.min_eq_left (by omega)]
   ·have him : i < min j l.length := by simpa using hi
    have hi : i < j ∧ i < l.length := ⟨by omega, by omega⟩
    have := hel i hi.2
    rw [List.getElem_take]
    have e2 : ((xs.take (j * Rep.n α)).drop (i * Rep.n α)).take (Rep.n α) = (xs.drop (i * Rep.n α)).take (Rep.n α) := by
     have h7 : i * Rep.n α + Rep.n α ≤ j * Rep.n α := by rw [← Nat.succ_mul]; exact Nat.mul_le_mul_right _ hi.1
     rw [List.drop_take, List.take_take, Nat.min_eq_left (by omega)]
    rw [e2]; exact this
  ·have hld : (l.drop (j + 1)).length = l.length - (j + 1) := by simp
   refine ⟨_, _, by rw [hld], ?_, xs.drop ((j + 1) * Rep.n α), ?_, ?_, fun i hi => ?_⟩
   ·intro hn
    split at hn
    ·cases hn
    ·cases hn
   ·rw [List.length_drop, hl, hld, Nat.sub_mul]
   ·intro ad had i x hx
    split at had
    ·rename_i hc
     have : l.length = j + 1 := by omega
     rw [List.drop_eq_nil_of_le (by rw [hl, this]; exact Nat.le_refl _)] at hx
     simp at hx
    ·simp only [Option.map_some, Option.some.injEq] at had
     subst had
     have e3 : (((⟨g, 0, none⟩ : Addr).add ((j + 1) * Rep.n α)).add i) = ⟨g, (j + 1) * Rep.n α + i, none⟩ := by simp [Addr.z]
     rw [e3]
     have hx2 : xs[(j + 1) * Rep.n α + i]? = some x := by rw [List.getElem?_drop] at hx; exact hx
     have hlt : (j + 1) * Rep.n α + i < xs.length := by
      rcases Nat.lt_or_ge ((j + 1) * Rep.n α + i) xs.length with q | q
      ·exact q
      ·rw [List.getElem?_eq_none q] at hx2; cases hx2
     have h2v : vw h g = some (.cells cur e (0, 0)) := h2
     simp only [cellH, h2v]
     rw [← h6, List.getElem?_take_of_lt (by omega)] at hx2
     simpa using hx2
   ·have hi : j + 1 + i < l.length := by rw [hld] at hi; omega
    have := hel (j + 1 + i) hi
    rw [List.getElem_drop]
    rw [List.drop_drop, show (j + 1) * Rep.n α + i * Rep.n α = (j + 1 + i) * Rep.n α by rw [← Nat.add_mul]]
    exact this
end Go.Proofs.Ytfelpjfopgiabaa
namespace Go.Proofs.Ytfelpjfopgiabaa
open Go Go.Lft
set_option maxHeartbeats 4000000 in
theorem turned_ok {f : FuncD} {c : Nat} {v : Value} {q0 q1 q2 : Int} {h : Heap} {W : View} {o0 : Own} (w0 : Owns W h o0) (ho0 : ∀ k : Key, k.1 < 10 → o0 k = none) (hv : Rd W v f) (hf : TF c f) (hc : c ≤ 5000) (i0 : I64 q0) (i1 : I64 q1) (i2 : I64 q2) :
  HCalls Try.prog N.ref03_Turned #[v, .agg #[.int .i64 q0, .int .i64 q1, .int .i64 q2]] h (fun u h' => ∃ W' f', W.le W' ∧ Owns W' h' o0 ∧ TF (c + 1) f' ∧ Rd W' u f') := by
 refine calls_lift (args := [v, .agg #[.int .i64 q0, .int .i64 q1, .int .i64 q2]]) follows F.ref03_Turned E.ref03_Turned (Nat.le_of_ble_eq_true (by kernel_rfl)) fun K hK => ?_
 dsimp only [L.ref03_Turned]
 obtain ⟨vbs, rfl, ips, sbl⟩ : ∃ vbs, v = .agg #[.int .i64 f.params, vbs] ∧ I64 f.params ∧ SlRd W vbs f.blocks := by
  obtain ⟨cs, rfl, c1, r1, e1, ⟨rfl, h1⟩, vb, h2, h3⟩ := hv
  exact ⟨vb, by rw [← Array.toList_inj.1 ((by rw [e1, h2]; rfl) : cs.toList = #[Value.int .i64 f.params, vb].toList)], h1, h3⟩
 refine lwp_hide fun z hz => ?_
 simp
 refine do_box (v := .agg #[.int .i64 f.params, vbs]) rfl ?_
 have hb1 : (h.push (.cells (Value.agg #[.int .i64 f.params, vbs]).cells T.api_Func))[h.size]? = some (.cells (Value.agg #[.int .i64 f.params, vbs]).cells T.api_Func (0, 0)) := by simp
 have hle1 := push_le h (.cells (Value.agg #[.int .i64 f.params, vbs]).cells T.api_Func)
 generalize h.push (.cells (Value.agg #[.int .i64 f.params, vbs]).cells T.api_Func) = h1 at hb1 hle1
 have hvbs := sbl.cells.2
 have w1 := w0.add (k := (8, 1)) (ho0 _ (by decide)) (ownT_box (W := W) (d := RawN.mk (n := 1) [.int .i64 f.params, vbs]) hb1 (rd_rawN rfl (by intro c hc; simp only [List.mem_cons, List.not_mem_nil, or_false] at hc; rcases hc with rfl | rfl <;> first | rfl | exact hvbs)) (by decide)) hle1 (fun b hb => by simp only [Value.ownBlock, Option.some.injEq] at hb; omega)
 generalize h.size = F at w1
 refine do_box (v := .agg #[.int .i64 q0, .int .i64 q1, .int .i64 q2]) rfl ?_
 have hb2 : (h1.push (.cells (Value.agg #[.int .i64 q0, .int .i64 q1, .int .i64 q2]).cells T.a3_int))[h1.size]? = some (.cells (Value.agg #[.int .i64 q0, .int .i64 q1, .int .i64 q2]).cells T.a3_int (0, 0)) := by simp
 have hle2 := push_le h1 (.cells (Value.agg #[.int .i64 q0, .int .i64 q1, .int .i64 q2]).cells T.a3_int)
 generalize h1.push (.cells (Value.agg #[.int .i64 q0, .int .i64 q1, .int .i64 q2]).cells T.a3_int) = h2 at hb2 hle2
 have w2 := w1.ext hle2
 have hg2 : grow W h1 h2 h1.size = some (.cells (([q0, q1, q2] : List Int).map fun x => Value.int .i64 x).toArray T.a3_int (0, 0)) := by
  rw [grow_new (Nat.le_refl _), hb2]; rfl
 have sq : SlRd (grow W h1 h2) (.slice (some ⟨h1.size, 0, none⟩) 3 3) [q0, q1, q2] := sl_arr hg2 rfl (by decide) (by intro x hx; simp only [List.mem_cons, List.not_mem_nil, or_false] at hx; rcases hx with rfl | rfl | rfl <;> assumption)
 have hW2 := le_grow (h' := h2) w1.wle
 generalize grow W h1 h2 = W2 at w2 sq hW2
 generalize h1.size = Q at sq
 refine w2.do_zero (k := (8, 0)) (n := 1) (z := .agg #[.int .i64 0, .slice none 0 0]) (by rw [Own.upd_ne (by simp)]; exact ho0 _ (by decide)) (by kernel_rfl) rfl (by decide) (by simp [Value.cells, Value.oneCell']) fun h3 q3 w3 => ?_
 generalize h2.size = R at w3
 have hsb2 := sbl.mono hW2
 clear hb1 hle1 hb2 hle2 hg2 w1 w2 q3
 rw [hz]; clear hz z
 refine lwp_hide fun z hz => ?_
 simp
 refine w3.do_empty (k := (3, 0)) (α := BlkD) (by rw [Own.upd_ne (by simp), Own.upd_ne (by simp)]; exact ho0 _ (by decide)) El.s_api_Block fun v4 h4 hle4 hv4 w4 _ => ?_
 have c4 : cellH (vw h4) ⟨F, 1, none⟩ = some vbs := w4.raw (k := (8, 1)) (e := T.api_Func) (n := 1) (l := [.int .i64 f.params, vbs]) (by rw [Own.upd_ne (by simp), Own.upd_ne (by simp), Own.upd_self]; rfl) (i := 1) (by decide)
 simp [c4]
 have hbl := hf.len
 refine w4.do_append (k := (3, 0)) (α := BlkD) (l := ([] : List BlkD)) (l2 := f.blocks) Own.upd_self El.s_api_Block rfl rfl (hsb2.src w4.wle) (by simp; omega) (by simp; omega) fun vbk h5 w5 _ => ?_
 rw [List.nil_append] at w5
 have hvk := (w5.cells (k := (3, 0)) Own.upd_self).2
 rw [hz]; clear hz z
 refine lwp_hide fun z hz => ?_
 simp
 refine w5.do_cell (k := (8, 1)) (n := 1) (i := 1) (e := T.api_Func) (B := F) (l := [.int .i64 f.params, vbs]) (by rw [Own.upd_ne (by simp), Own.upd_ne (by simp), Own.upd_ne (by simp), Own.upd_self]; rfl) (by decide) (by kernel_rfl) rfl rfl hvk fun h6 w6 _ => ?_
 obtain ⟨o6, ho6⟩ : ∃ o6 : Own, o6 = fun k => if k = (8, 0) then bx T.api_Func R (RawN.mk (n := 1) [.int .i64 0, .slice none 0 0]) else if k = (8, 1) then bx T.api_Func F (RawN.mk (n := 1) [.int .i64 f.params, vbk]) else if k = (3, 0) then it T.api_Block vbk f.blocks else o0 k := ⟨_, rfl⟩
 have w6 : Owns W2 h6 o6 := w6.congr fun k => by
  rw [ho6]
  unfold Own.upd
  repeat' split
  all_goals first | rfl | simp_all
 clear w5 w4 w3 c4
 have hlen : ∀ {Q : View}, Un.ev Q .len vbk = some (.int .i64 f.blocks.length) := fun {Q} => (w6.now (k := (3, 0)) (v := vbk) (l := f.blocks) (by rw [ho6]; rfl)).len
 rw [hz]; clear hz z
 refine lwp_hide fun z hz => ?_
 refine lwp_hide fun y hy => ?_
 simp [hlen]
 rw [hy]; clear hy y
 by_cases c0 : f.blocks.length = 0
 ·have c0' : f.blocks = [] := List.eq_nil_of_length_eq_zero c0
  refine lwp_cond_t (by simp [c0, c0']) ?_
  refine lwp_hide fun y hy => ?_
  have ca := w6.rawAll (k := (8, 1)) (n := 1) (l := [.int .i64 f.params, vbk]) (e := T.api_Func) (B := F) (by rw [ho6]; rfl)
  have ca : Un.ev (vw h6) (.loads 2) (.pointer (some ⟨F, 0, none⟩)) = some (.agg #[.int .i64 f.params, vbk]) := ca
  simp [ca]
  refine w6.do_field (k := (8, 0)) (α := RawN 1) (β := RawN 1) Part.all (B := R) (D := RawN.mk (n := 1) [.int .i64 0, .slice none 0 0]) (d := RawN.mk (n := 1) [.int .i64 f.params, vbk]) (by rw [ho6]; rfl) (by kernel_rfl) rfl rfl (rd_rawN rfl (by intro c hc; simp only [List.mem_cons, List.not_mem_nil, or_false] at hc; rcases hc with rfl | rfl <;> first | rfl | exact hvk)) fun h7 w7 _ => ?_
  have cb := w7.rawAll (k := (8, 0)) (n := 1) (l := [.int .i64 f.params, vbk]) Own.upd_self
  have cb : Un.ev (vw h7) (.loads 2) (.pointer (some ⟨R, 0, none⟩)) = some (.agg #[.int .i64 f.params, vbk]) := cb
  have sb7 := w7.now (k := (3, 0)) (v := vbk) (l := f.blocks) (by rw [Own.upd_ne (by simp), ho6]; rfl)
  rw [hy]; clear hy y
  simp [cb]
  obtain ⟨w8, s8⟩ := w7.freeze (k := (3, 0)) (v := vbk) (l := f.blocks) (by rw [Own.upd_ne (by simp), ho6]; rfl)
  have hW8 := le_plus (h := h7) (w7.av (3, 0) ⟨_, _, T.api_Block, vbk, f.blocks⟩ (by rw [Own.upd_ne (by simp), ho6]; rfl))
  have w9 := w8.sub (o' := o0) fun k i hk => by
   rcases Nat.lt_or_ge k.1 10 with e | e
   ·rw [ho0 k e] at hk; cases hk
   ·rw [Own.upd_ne (by rintro rfl; simp at e), Own.upd_ne (by rintro rfl; simp at e), ho6]
    dsimp only
    rw [if_neg (by rintro rfl; simp at e), if_neg (by rintro rfl; simp at e), if_neg (by rintro rfl; simp at e)]; exact hk
  exact hK _ _ ⟨_, f, View.le_trans hW2 hW8, w9, hf.mono (by omega), ⟨_, rfl, [.int .i64 f.params], [vbk], rfl, ⟨rfl, ips⟩, vbk, rfl, s8⟩⟩
 have c0' : ¬ f.blocks = [] := fun e => c0 (by rw [e]; rfl)
 refine lwp_cond_f (by simp [c0']) ?_
 simp
 rw [hz]; clear hz z
 refine lwp_hide fun z hz => ?_
 simp
 refine do_sliceA (n := 3) (e := T.int) (sz := 1) U.a3_int (by kernel_rfl) rfl ?_
 refine do_build (z := .agg #[.slice none 0 0, .int .i64 0, .int .i64 0, .slice none 0 0, .int .i64 0, .slice none 0 0]) (places := [(0, 1), (1, 1), (2, 2), (4, 1), (5, 1)]) (vs := [(0, .slice (some ⟨Q, 0, none⟩) 3 3)]) (cs := #[.slice (some ⟨Q, 0, none⟩) 3 3, .int .i64 0, .int .i64 0, .slice none 0 0, .int .i64 0, .slice none 0 0]) (by kernel_rfl) (by kernel_rfl) (by simp) (by rfl) ?_
 refine do_box (v := .agg #[.slice (some ⟨Q, 0, none⟩) 3 3, .int .i64 0, .int .i64 0, .slice none 0 0, .int .i64 0, .slice none 0 0]) rfl ?_
 have hbx : (h6.push (.cells (Value.agg #[.slice (some ⟨Q, 0, none⟩) 3 3, .int .i64 0, .int .i64 0, .slice none 0 0, .int .i64 0, .slice none 0 0]).cells T.ref03_maker))[h6.size]? = some (.cells (Value.agg #[.slice (some ⟨Q, 0, none⟩) 3 3, .int .i64 0, .int .i64 0, .slice none 0 0, .int .i64 0, .slice none 0 0]).cells T.ref03_maker (0, 0)) := by simp
 have hle7 := push_le h6 (.cells (Value.agg #[.slice (some ⟨Q, 0, none⟩) 3 3, .int .i64 0, .int .i64 0, .slice none 0 0, .int .i64 0, .slice none 0 0]).cells T.ref03_maker)
 generalize h6.push (.cells (Value.agg #[.slice (some ⟨Q, 0, none⟩) 3 3, .int .i64 0, .int .i64 0, .slice none 0 0, .int .i64 0, .slice none 0 0]).cells T.ref03_maker) = h7 at hbx hle7
 have w7 := w6.add (k := (0, 0)) (by rw [ho6]; exact ho0 _ (by decide)) (ownT_box (W := W2) (d := RawN.mk (n := 5) [.slice (some ⟨Q, 0, none⟩) 3 3, .int .i64 0, .int .i64 0, .slice none 0 0, .int .i64 0, .slice none 0 0]) hbx (rd_rawN rfl (by simp [Value.oneCell'])) (by decide)) hle7 (fun b hb => by simp only [Value.ownBlock, Option.some.injEq] at hb; omega)
 generalize h6.size = M at w7
 generalize Value.slice (some ⟨Q, 0, none⟩) 3 3 = vs at sq w7
 obtain ⟨o7, ho7⟩ : ∃ o7 : Own, o7 = fun k => if k = (0, 0) then bx T.ref03_maker M (RawN.mk (n := 5) (mkL vs 0 0 (.slice none 0 0) 0 (.slice none 0 0))) else if k = (0, 1) then it T.int (.slice none 0 0) ([] : List Int) else if k = (0, 2) then it T.api_Block (.slice none 0 0) ([] : List BlkM) else o6 k := ⟨_, rfl⟩
 have w7 : Owns W2 h7 o7 := w7.nils fun k i hk => by
  rw [ho7] at hk
  dsimp only at hk
  split at hk
  ·rename_i e; rw [e]; exact .inl hk
  ·rename_i e0
   split at hk
   ·cases hk; exact .inr ⟨rfl, OwnT.nil (α := Int) _ _ _⟩
   ·split at hk
    ·cases hk; exact .inr ⟨rfl, OwnT.nil (α := BlkM) _ _ _⟩
    ·refine .inl ?_
     rw [Own.upd_ne e0]
     exact hk
 have w7 : Mk [q0, q1, q2] M vs W2 h7 o7 ⟨0, 0, [], 0, []⟩ := ⟨w7, sq, .slice none 0 0, .slice none 0 0, [], by rw [ho7]; rfl, by rw [ho7]; rfl, by rw [ho7]; rfl, rfl, fun i hi => by simp at hi, fun i hi => by simp at hi, fun i hi => by simp at hi⟩
 have f7 : ∀ k : Key, 3 ≤ k.1 → o7 k = o6 k := fun k hk => by
  rw [ho7]
  dsimp only
  rw [if_neg (by rintro rfl; simp at hk), if_neg (by rintro rfl; simp at hk), if_neg (by rintro rfl; simp at hk)]
 clear hbx hle7 w6 ho7
 rw [hz]; clear hz z
 refine lwp_hide fun z hz => ?_
 simp
 refine call_to (by kernel_rfl) (w7.take (by decide) (n := 12) (by decide) (by decide)) ?_
 rintro _ h8 ⟨rfl, o8, w8, f8⟩
 obtain ⟨t0, t1⟩ := takeV_rng (s := [q0, q1, q2]) (at_ := 0) (n := 12) (by decide)
 simp
 rw [hz]; clear hz z
 refine lwp_hide fun z hz => ?_
 simp [hlen]
 refine call_to (by kernel_rfl) (w8.take (by decide) (n := (f.blocks.length : Int)) (by omega) (by omega)) ?_
 rintro _ h9 ⟨rfl, o9, w9, f9⟩
 obtain ⟨b0, b1⟩ := takeV_rng (s := [q0, q1, q2]) (at_ := 1) (n := (f.blocks.length : Int)) (by omega)
 rw [hz]; clear hz z
 refine lwp_hide fun z hz => ?_
 simp
 refine call_to (by kernel_rfl) (w9.take (by decide) (n := 40) (by decide) (by decide)) ?_
 rintro _ h10 ⟨rfl, o10, w10, f10⟩
 obtain ⟨n0, n1⟩ := takeV_rng (s := [q0, q1, q2]) (at_ := 2) (n := 40) (by decide)
 have e0 : MS.at_ ⟨0, 0, [], 0, []⟩ = 0 := rfl
 have e1 : MS.at_ (MS.took ⟨0, 0, [], 0, []⟩) = 1 := rfl
 have e2 : MS.at_ (MS.took (MS.took ⟨0, 0, [], 0, []⟩)) = 2 := rfl
 rw [e1, e2]
 have w10 := w10.own.sub (o' := o6) fun k i hk => by
  have hk3 : 3 ≤ k.1 := by
   rw [ho6] at hk
   dsimp only at hk
   split at hk
   ·rename_i e; rw [e]; decide
   ·split at hk
    ·rename_i e; rw [e]; decide
    ·split at hk
     ·rename_i e; rw [e]; decide
     ·rcases Nat.lt_or_ge k.1 10 with e | e
      ·rw [ho0 k e] at hk; cases hk
      ·omega
  rw [f10 k hk3, f9 k hk3, f8 k hk3, f7 k hk3]; exact hk
 clear f10 f9 f8 f7 w9 w8 w7 e0 e1 e2
 generalize takeV [q0, q1, q2] 0 12 = what at t0 t1
 generalize takeV [q0, q1, q2] 1 f.blocks.length = bb at b0 b1
 generalize takeV [q0, q1, q2] 2 40 = nn at n0 n1
 obtain ⟨b, rfl⟩ : ∃ b : Nat, bb = b := ⟨bb.toNat, by omega⟩
 obtain ⟨n, rfl⟩ : ∃ n : Nat, nn = n := ⟨nn.toNat, by omega⟩
 rw [hz]; clear hz z
 have hbl2 : b < f.blocks.length := by omega
 have tb := hf.blk _ (List.getElem_mem hbl2)
 refine lwp_hide fun z hz => ?_
 obtain ⟨ux, hux, huxr⟩ := Owns.ldW w10 (k := (3, 0)) (v := vbk) (l := f.blocks) (by rw [ho6]; rfl) rfl (N := 6) rfl hbl2
 have sbk := w10.now (k := (3, 0)) (v := vbk) (l := f.blocks) (by rw [ho6]; rfl)
 obtain ⟨vp, vi, va, vt, rfl, rp, ri, ra, rt, ik, im⟩ := blk_val huxr
 generalize f.blocks[b] = xb at tb rp ri ra rt ik im hux huxr
 have bp := rp.cells.2
 have bi := ri.cells.2
 have ba := ra.cells.2
 have bt := rt.cells.2
 simp (disch := omega) [sbk.idxn (N := 6) rfl, hux]
 refine w10.do_var (k := (3, 1)) (n := 5) (l := [vp, vi, .int .i64 xb.term.kind, va, vt, .int .i32 xb.term.imm.v]) (by rw [ho6]; exact ho0 _ (by decide)) (z := .agg #[.slice none 0 0, .slice none 0 0, .int .i64 0, .slice none 0 0, .slice none 0 0, .int .i32 0]) (by kernel_rfl) rfl (by kernel_rfl) rfl (by decide) (by intro c hc; simp only [List.mem_cons, List.not_mem_nil, or_false] at hc; rcases hc with rfl | rfl | rfl | rfl | rfl | rfl <;> first | rfl | assumption) (fun _ => by simp) (fun _ => by simp) fun h11 q11 w11 => ?_
 generalize h10.size = X at w11
 rw [hz]; clear hz z
 refine lwp_hide fun z hz => ?_
 simp
 refine w11.do_empty (k := (3, 2)) (α := InsD) (by rw [Own.upd_ne (by simp), ho6]; exact ho0 _ (by decide)) El.s_api_Ins fun v12 h12 hle12 hv12 w12 _ => ?_
 have c12 : cellH (vw h12) ⟨X, 1, none⟩ = some vi := w12.raw (k := (3, 1)) (e := T.api_Block) (n := 5) (l := [vp, vi, .int .i64 xb.term.kind, va, vt, .int .i32 xb.term.imm.v]) (by rw [Own.upd_ne (by simp), Own.upd_self]) (i := 1) (by decide)
 simp [c12]
 refine w12.do_append (k := (3, 2)) (α := InsD) (l := ([] : List InsD)) (l2 := xb.ins) Own.upd_self El.s_api_Ins rfl rfl (ri.src w12.wle) (by have := tb.ins; simp; omega) (by have := tb.ins; simp; omega) fun vi2 h13 w13 _ => ?_
 rw [List.nil_append] at w13
 have hvi2 := (w13.cells (k := (3, 2)) Own.upd_self).2
 refine w13.do_cell (k := (3, 1)) (n := 5) (i := 1) (e := T.api_Block) (B := X) (l := [vp, vi, .int .i64 xb.term.kind, va, vt, .int .i32 xb.term.imm.v]) (by rw [Own.upd_ne (by simp), Own.upd_ne (by simp), Own.upd_self]) (by decide) (by kernel_rfl) rfl rfl hvi2 fun h14 w14 _ => ?_
 rw [hz]; clear hz z
 refine lwp_hide fun z hz => ?_
 simp
 refine w14.do_empty (k := (3, 3)) (α := PhiD) (by rw [Own.upd_ne (by simp), Own.upd_ne (by simp), Own.upd_ne (by simp), Own.upd_ne (by simp), ho6]; exact ho0 _ (by decide)) El.s_api_Phi fun v15 h15 hle15 hv15 w15 _ => ?_
 have c15 : cellH (vw h15) ⟨X, 0, none⟩ = some vp := w15.raw (k := (3, 1)) (e := T.api_Block) (n := 5) (l := [vp, vi2, .int .i64 xb.term.kind, va, vt, .int .i32 xb.term.imm.v]) (by rw [Own.upd_ne (by simp), Own.upd_self]; rfl) (i := 0) (by decide)
 simp [c15]
 refine w15.do_append (k := (3, 3)) (α := PhiD) (l := ([] : List PhiD)) (l2 := xb.phis) Own.upd_self El.s_api_Phi rfl rfl (rp.src w15.wle) (by have := tb.phis; simp; omega) (by have := tb.phis; simp; omega) fun vp2 h16 w16 _ => ?_
 rw [List.nil_append] at w16
 have hvp2 := (w16.cells (k := (3, 3)) Own.upd_self).2
 refine w16.do_cell (k := (3, 1)) (n := 5) (i := 0) (e := T.api_Block) (B := X) (l := [vp, vi2, .int .i64 xb.term.kind, va, vt, .int .i32 xb.term.imm.v]) (by rw [Own.upd_ne (by simp), Own.upd_ne (by simp), Own.upd_self]; rfl) (by decide) (by kernel_rfl) rfl rfl hvp2 fun h17 w17 _ => ?_
 have tu : ∃ o, Tu R F X o0 c W2 vbk f.blocks W2 o f.params vp2 vi2 va vt xb.term.kind xb.term.imm.v xb.phis xb.ins xb.term.args xb.term.to ∧ Owns W2 h17 o := by
  refine ⟨_, ⟨View.le_refl _, ?_, ?_, ?_, ?_, ?_, ?_, ?_, ?_, ra, rt, ips, ik, im, ⟨tb.phis, tb.ins, tb.args, tb.to, tb.pin, tb.iar⟩⟩, w17⟩
  ·simp [Own.upd, ho6]
  ·simp [Own.upd, ho6]
  ·simp [Own.upd, ho6]
  ·simp [Own.upd]
  ·simp [Own.upd]
  ·simp [Own.upd]
  ·simp [Own.upd, ho6, ho0]
  ·intro k hk
   repeat rw [Own.upd_ne (by rintro rfl; simp at hk)]
   rw [ho6]; dsimp only
   rw [if_neg (by rintro rfl; simp at hk), if_neg (by rintro rfl; simp at hk), if_neg (by rintro rfl; simp at hk)]
 clear w17 w16 w15 w14 w13 w12 w11 w10 c15 c12 rp ri hux huxr bp bi ba bt
 obtain ⟨o17, t, w17⟩ := tu
 have hc0 : ∀ {i : Nat}, i ≤ 5 → cellH (vw h17) ⟨X, i, none⟩ = some ([vp2, vi2, .int .i64 xb.term.kind, va, vt, .int .i32 xb.term.imm.v].getD i undef) := fun hi => w17.raw t.box hi
 have x0 : cellH (vw h17) ⟨X, 0, none⟩ = some vp2 := hc0 (i := 0) (by decide)
 have x1 : cellH (vw h17) ⟨X, 1, none⟩ = some vi2 := hc0 (i := 1) (by decide)
 have x4 : cellH (vw h17) ⟨X, 4, none⟩ = some vt := hc0 (i := 4) (by decide)
 have sI := w17.now t.ins
 have sP := w17.now t.phis
 have sT := t.rt
 have hli : ∀ {Q : View}, Un.ev Q .len vi2 = some (.int .i64 xb.ins.length) := fun {Q} => sI.len
 have hlp : ∀ {Q : View}, Un.ev Q .len vp2 = some (.int .i64 xb.phis.length) := fun {Q} => sP.len
 have hlt : ∀ {Q : View}, Un.ev Q .len vt = some (.int .i64 xb.term.to.length) := fun {Q} => sT.len
 have tbi := tb.ins
 have tbp := tb.phis
 have tbt := tb.to
 clear hc0
 rw [hz]; clear hz z
 refine lwp_hide fun z hz => ?_
 simp
 rw [hz]; clear hz z
 refine lwp_hide fun z hz => ?_
 obtain ⟨j, hj1, hj2⟩ : ∃ j : Nat, (0 < xb.ins.length → j < xb.ins.length) ∧ (j : Int) = if 0 < xb.ins.length then (n : Int).tmod xb.ins.length else 0 := by
  by_cases c1 : 0 < xb.ins.length
  ·refine ⟨((n : Int).tmod xb.ins.length).toNat, fun _ => ?_, ?_⟩
   ·have := Int.tmod_lt_of_pos (n : Int) (show (0 : Int) < xb.ins.length by omega); have := Int.tmod_nonneg (xb.ins.length : Int) (show (0 : Int) ≤ n by omega); omega
   ·rw [if_pos c1]; have := Int.tmod_nonneg (xb.ins.length : Int) (show (0 : Int) ≤ n by omega); omega
  ·exact ⟨0, fun q => absurd q c1, by rw [if_neg c1]; rfl⟩
 have sw : ∀ ρ : Env, Lft.look ρ 2 = some (.pointer (some ⟨F, 0, none⟩)) → Lft.look ρ 4 = some (.pointer (some ⟨R, 0, none⟩)) → Lft.look ρ 5 = some vbk → Lft.look ρ 7 = some (.int .i64 what) → Lft.look ρ 8 = some (.int .i64 b) → Lft.look ρ 9 = some (.int .i64 n) → Lft.look ρ 10 = some (.pointer (some ⟨X, 0, none⟩)) → Lft.look ρ 11 = some (.int .i64 j) → LC.wp Try.prog z (fnPost [.un (.loads 2) (.tmp 4)] K) ρ h17 := by
  intro ρ r2 r4 r5 r7 r8 r9 r10 r11
  rw [hz]; clear hz z
  refine lwp_hide fun z hz => ?_
  have fin : ∀ (h' : Heap) (ρ : Env), TuE R F X o0 (c + 1) W2 vbk f.blocks h' → Lft.look ρ 2 = some (.pointer (some ⟨F, 0, none⟩)) → Lft.look ρ 4 = some (.pointer (some ⟨R, 0, none⟩)) → Lft.look ρ 5 = some vbk → Lft.look ρ 8 = some (.int .i64 b) → Lft.look ρ 10 = some (.pointer (some ⟨X, 0, none⟩)) → LC.wp Try.prog z (fnPost [.un (.loads 2) (.tmp 4)] K) ρ h' := by
   intro h' ρ tE r2 r4 r5 r8 r10
   rw [hz]; clear hz z
   obtain ⟨W, o, ps', vp', vi', va', vt', kd', im', lp', li', la', lt', t, w⟩ := tE
   have sbk := w.now t.blk
   have cx := w.rawAll (k := (3, 1)) t.box
   have cx : Un.ev (vw h') (.loads 6) (.pointer (some ⟨X, 0, none⟩)) = some (.agg #[vp', vi', .int .i64 kd', va', vt', .int .i32 im']) := cx
   obtain ⟨wA, sI⟩ := w.freeze t.ins
   obtain ⟨wB, sP⟩ := wA.freeze ((Own.upd_ne (by simp)).trans t.phis)
   have sI := sI.mono (le_plus (h := h') (wA.av _ _ ((Own.upd_ne (by simp)).trans t.phis)))
   have hWW := View.le_trans (le_plus (h := h') (w.av _ _ t.ins)) (le_plus (h := h') (wA.av _ _ ((Own.upd_ne (by simp)).trans t.phis)))
   refine lwp_hide fun z hz => ?_
   simp (disch := omega) [look_setE, look_kill, r2, r4, r5, r8, r10, cx, sbk.idxn (N := 6) rfl]
   refine wB.do_put (k := (3, 0)) (α := BlkD) (v := vbk) (l := f.blocks) (i := b) (d := ⟨lp', li', ⟨kd', la', lt', ⟨im'⟩⟩⟩) ((Own.upd_ne (by simp)).trans ((Own.upd_ne (by simp)).trans t.blk)) (by kernel_rfl) rfl rfl (by omega) (rd_blkOf (imm := ⟨im'⟩) sP sI (t.ra.mono hWW) (t.rt.mono hWW) t.ikd t.iim) fun h2 w2 _ => ?_
   rw [hz]; clear hz z
   refine lwp_hide fun z hz => ?_
   have fF : (((o.upd (3, 2) none).upd (3, 3) none).upd (3, 0) (it T.api_Block vbk (f.blocks.set b ⟨lp', li', ⟨kd', la', lt', ⟨im'⟩⟩⟩))) (8, 1) = bx T.api_Func F (RawN.mk (n := 1) [.int .i64 ps', vbk]) := by simp [Own.upd, t.fn]
   have fR : (((o.upd (3, 2) none).upd (3, 3) none).upd (3, 0) (it T.api_Block vbk (f.blocks.set b ⟨lp', li', ⟨kd', la', lt', ⟨im'⟩⟩⟩))) (8, 0) = bx T.api_Func R (RawN.mk (n := 1) [.int .i64 0, .slice none 0 0]) := by simp [Own.upd, t.res]
   have cF := w2.rawAll (k := (8, 1)) fF
   have cF : Un.ev (vw h2) (.loads 2) (.pointer (some ⟨F, 0, none⟩)) = some (.agg #[.int .i64 ps', vbk]) := cF
   simp [look_setE, look_kill, r2, r4, r5, r8, r10, cF]
   refine w2.do_field (k := (8, 0)) (α := RawN 1) (β := RawN 1) Part.all (B := R) (D := RawN.mk (n := 1) [.int .i64 0, .slice none 0 0]) (d := RawN.mk (n := 1) [.int .i64 ps', vbk]) fR (by kernel_rfl) rfl rfl (rd_rawN rfl (by intro c hc; simp only [List.mem_cons, List.not_mem_nil, or_false] at hc; rcases hc with rfl | rfl <;> first | rfl | exact hvk)) fun h3 w3 _ => ?_
   have cb := w3.rawAll (k := (8, 0)) (n := 1) (l := [.int .i64 ps', vbk]) Own.upd_self
   have cb : Un.ev (vw h3) (.loads 2) (.pointer (some ⟨R, 0, none⟩)) = some (.agg #[.int .i64 ps', vbk]) := cb
   have sb3 := w3.now (k := (3, 0)) (v := vbk) (l := f.blocks.set b ⟨lp', li', ⟨kd', la', lt', ⟨im'⟩⟩⟩) (by rw [Own.upd_ne (by simp), Own.upd_self])
   rw [hz]; clear hz z
   simp [look_setE, look_kill, r2, r4, r5, r8, r10, cb]
   obtain ⟨w4, s4⟩ := w3.freeze (k := (3, 0)) (v := vbk) (l := f.blocks.set b ⟨lp', li', ⟨kd', la', lt', ⟨im'⟩⟩⟩) (by rw [Own.upd_ne (by simp), Own.upd_self])
   have hW4 := le_plus (h := h3) (w3.av (3, 0) _ ((Own.upd_ne (by simp)).trans Own.upd_self))
   have w5 := w4.sub (o' := o0) fun k i hk => by
    rcases Nat.lt_or_ge k.1 10 with e | e
    ·rw [ho0 k e] at hk; cases hk
    ·rw [Own.upd_ne (by rintro rfl; simp at e), Own.upd_ne (by rintro rfl; simp at e), Own.upd_ne (by rintro rfl; simp at e), Own.upd_ne (by rintro rfl; simp at e), Own.upd_ne (by rintro rfl; simp at e), t.fr k e]; exact hk
   refine hK _ _ ⟨_, ⟨ps', f.blocks.set b ⟨lp', li', ⟨kd', la', lt', ⟨im'⟩⟩⟩⟩, View.le_trans hW2 (View.le_trans t.le (View.le_trans hWW hW4)), w5, ⟨by show (f.blocks.set b _).length ≤ _; rw [List.length_set]; exact hf.len, fun x hx => ?_⟩, ⟨_, rfl, [.int .i64 ps'], [vbk], rfl, ⟨rfl, t.ips⟩, vbk, rfl, s4⟩⟩
   rcases List.mem_or_eq_of_mem_set hx with q | q
   ·exact (hf.blk x q).mono (by omega)
   ·rw [q]; exact t.tb
  refine lwp_hide fun y hy => ?_
  simp [look_setE, look_kill, r2, r4, r5, r7, r8, r9, r10, r11]
  rw [hy]; clear hy y
  simp only [lwp_block]
  refine lwp_hide fun y hy => ?_
  simp [look_setE, look_kill, r2, r4, r5, r7, r8, r9, r10, r11]
  rw [hy]; clear hy y
  by_cases w0 : what = 0
  ·refine lwp_cond_t (by simp [look_setE, look_kill, w0]) ?_
   simp [look_setE, look_kill, r2, r4, r5, r7, r8, r9, r10, r11]
   refine t.do_params w17 i64_rng (by kernel_rfl) rfl rfl fun h2 tE => ?_
   refine fin _ _ (tE.mono (by omega)) ?_ ?_ ?_ ?_ ?_ <;> simp [look_setE, look_kill, r2, r4, r5, r8, r10]
  refine lwp_cond_f (by simp [look_setE, look_kill, w0]) ?_
  refine lwp_hide fun y hy => ?_
  simp [look_setE, look_kill, r2, r4, r5, r7, r8, r9, r10, r11]
  rw [hy]; clear hy y
  by_cases w1 : what = 1
  ·refine lwp_cond_t (by simp [look_setE, look_kill, w1]) ?_
   refine lwp_hide fun y hy => ?_
   simp [look_setE, look_kill, r2, r4, r5, r7, r8, r9, r10, r11, x1, hli]
   rw [hy]; clear hy y
   by_cases c1 : 0 < xb.ins.length
   ·have hj := hj1 c1
    refine lwp_cond_t (by simp [look_setE, look_kill]; exact c1) ?_
    simp (disch := omega) [look_setE, look_kill, r2, r4, r5, r7, r8, r9, r10, r11, x1, sI.idxn (N := 5) rfl]
    refine t.do_ins InsD.p_op w17 (j := j) (d := _) hj (rd_int.2 ⟨rfl, i64_rng⟩) (by show xb.ins[j].args.length ≤ c; exact t.tb.iar xb.ins[j] (List.getElem_mem hj)) (by kernel_rfl) rfl rfl fun h2 tE => ?_
    refine fin _ _ (tE.mono (by omega)) ?_ ?_ ?_ ?_ ?_ <;> simp [look_setE, look_kill, r2, r4, r5, r8, r10]
   ·have he : xb.ins = [] := List.eq_nil_of_length_eq_zero (by omega)
    refine lwp_cond_f (by simp [look_setE, look_kill, he]) ?_
    simp
    refine fin _ _ (TuE.mono ⟨_, _, _, _, _, _, _, _, _, _, _, _, _, t, w17⟩ (by omega)) ?_ ?_ ?_ ?_ ?_ <;> simp [look_setE, look_kill, r2, r4, r5, r8, r10]
  refine lwp_cond_f (by simp [look_setE, look_kill, w1]) ?_
  refine lwp_hide fun y hy => ?_
  simp [look_setE, look_kill, r2, r4, r5, r7, r8, r9, r10, r11]
  rw [hy]; clear hy y
  by_cases w2 : what = 2
  ·refine lwp_cond_t (by simp [look_setE, look_kill, w2]) ?_
   refine lwp_hide fun y hy => ?_
   simp [look_setE, look_kill, r2, r4, r5, r7, r8, r9, r10, r11, x1, hli]
   rw [hy]; clear hy y
   by_cases c1 : 0 < xb.ins.length
   ·have hj := hj1 c1
    refine lwp_cond_t (by simp [look_setE, look_kill]; exact c1) ?_
    simp (disch := omega) [look_setE, look_kill, r2, r4, r5, r7, r8, r9, r10, r11, x1, sI.idxn (N := 5) rfl]
    refine t.do_ins InsD.p_dst w17 (j := j) (d := (n : Int)) hj (rd_int.2 ⟨rfl, by constructor <;> omega⟩) (by show xb.ins[j].args.length ≤ c; exact t.tb.iar xb.ins[j] (List.getElem_mem hj)) (by kernel_rfl) rfl rfl fun h2 tE => ?_
    refine fin _ _ (tE.mono (by omega)) ?_ ?_ ?_ ?_ ?_ <;> simp [look_setE, look_kill, r2, r4, r5, r8, r10]
   ·have he : xb.ins = [] := List.eq_nil_of_length_eq_zero (by omega)
    refine lwp_cond_f (by simp [look_setE, look_kill, he]) ?_
    simp
    refine fin _ _ (TuE.mono ⟨_, _, _, _, _, _, _, _, _, _, _, _, _, t, w17⟩ (by omega)) ?_ ?_ ?_ ?_ ?_ <;> simp [look_setE, look_kill, r2, r4, r5, r8, r10]
  refine lwp_cond_f (by simp [look_setE, look_kill, w2]) ?_
  refine lwp_hide fun y hy => ?_
  simp [look_setE, look_kill, r2, r4, r5, r7, r8, r9, r10, r11]
  rw [hy]; clear hy y
  by_cases w3 : what = 3
  ·refine lwp_cond_t (by simp [look_setE, look_kill, w3]) ?_
   refine lwp_hide fun y hy => ?_
   by_cases c1 : 0 < xb.ins.length
   ·have hj := hj1 c1
    have c1i : (0 : Int) < xb.ins.length := by omega
    obtain ⟨va3, ca3, ra3⟩ := Owns.insW w17 t.ins hj
    have hta := t.tb.iar _ (List.getElem_mem hj)
    simp (disch := omega) [look_setE, look_kill, r2, r4, r5, r7, r8, r9, r10, r11, x1, hli, c1, c1i, sI.idxn (N := 5) rfl, ca3, ra3.len]
    rw [hy]; clear hy y
    by_cases c2 : 0 < xb.ins[j].args.length
    ·refine lwp_cond_t (by simp [look_setE, look_kill]; first | exact c2 | omega) ?_
     refine lwp_hide fun y hy => ?_
     simp [look_setE, look_kill]
     refine w17.do_empty (k := (4, 0)) (α := Int) t.free El.s_int fun v18 h18 hle18 hv18 w18 _ => ?_
     simp (disch := omega) [look_setE, look_kill, r2, r4, r5, r7, r8, r9, r10, r11, cellH_mono hle18 x1, (sI.mono hle18).idxn (N := 5) rfl, cellH_mono hle18 ca3]
     refine w18.do_append (k := (4, 0)) (α := Int) (l := ([] : List Int)) (l2 := xb.ins[j].args) Own.upd_self El.s_int rfl rfl (ra3.src w18.wle) (by simp; omega) (by simp; omega) fun v19 h19 w19 _ => ?_
     rw [List.nil_append] at w19
     have w19 : Owns W2 h19 (o17.upd (4, 0) (it T.int v19 xb.ins[j].args)) := w19.congr fun q => by rw [upd_upd]
     rw [hy]; clear hy y
     refine lwp_hide fun y hy => ?_
     have s19 := w19.now (k := (4, 0)) Own.upd_self
     have m0 := Int.tmod_nonneg (xb.ins[j].args.length : Int) (show (0 : Int) ≤ n by omega)
     have m1 := Int.tmod_lt_of_pos (n : Int) (show (0 : Int) < xb.ins[j].args.length by omega)
     have hne : ¬ xb.ins[j].args = [] := fun e => by rw [e] at c2; simp at c2
     simp (disch := omega) [look_setE, look_kill, r2, r4, r5, r7, r8, r9, r10, r11, s19.len, hne, s19.idx1 rfl]
     refine w19.do_put (k := (4, 0)) (α := Int) (v := v19) (l := xb.ins[j].args) (i := ((n : Int).tmod xb.ins[j].args.length).toNat) (d := (n : Int)) Own.upd_self (by kernel_rfl) (by rw [show Rep.n Int = 1 from rfl, Nat.mul_one]; rfl) rfl (by omega) (rd_int.2 ⟨rfl, by constructor <;> omega⟩) fun h20 w20 _ => ?_
     have w20 : Owns W2 h20 (o17.upd (4, 0) (it T.int v19 (xb.ins[j].args.set ((n : Int).tmod xb.ins[j].args.length).toNat n))) := w20.congr fun q => by rw [upd_upd]
     rw [hy]; clear hy y
     have x1' : cellH (vw h20) ⟨X, 1, none⟩ = some vi2 := w20.raw (k := (3, 1)) ((Own.upd_ne (by simp)).trans t.box) (i := 1) (by decide)
     have sI' := w20.now (k := (3, 2)) ((Own.upd_ne (by simp)).trans t.ins)
     obtain ⟨w21, s21⟩ := w20.freeze Own.upd_self
     have hWp := le_plus (h := h20) (w20.av _ _ Own.upd_self)
     have w21 := w21.congr (o' := o17) fun q => by
      rw [upd_upd]; unfold Own.upd; split
      ·rename_i e; rw [e]; exact t.free
      ·rfl
     simp (disch := omega) [look_setE, look_kill, r2, r4, r5, r7, r8, r9, r10, r11, x1', sI'.idxn (N := 5) rfl]
     refine (t.wider hWp).do_ins InsD.p_args w21 (j := j) (d := xb.ins[j].args.set ((n : Int).tmod xb.ins[j].args.length).toNat n) hj (rd_list.2 s21) (by show (List.set _ _ _).length ≤ _; rw [List.length_set]; exact hta) (by kernel_rfl) rfl rfl fun h2 tE => ?_
     refine fin _ _ (tE.mono (by omega)) ?_ ?_ ?_ ?_ ?_ <;> simp [look_setE, look_kill, r2, r4, r5, r8, r10]
    ·refine lwp_cond_f (by simp [look_setE, look_kill]; first | omega | exact List.eq_nil_of_length_eq_zero (by omega)) ?_
     simp
     refine fin _ _ (TuE.mono ⟨_, _, _, _, _, _, _, _, _, _, _, _, _, t, w17⟩ (by omega)) ?_ ?_ ?_ ?_ ?_ <;> simp [look_setE, look_kill, r2, r4, r5, r8, r10]
   ·have he : xb.ins = [] := List.eq_nil_of_length_eq_zero (by omega)
    have c1i : ¬ (0 : Int) < xb.ins.length := by omega
    simp [look_setE, look_kill, r2, r4, r5, r7, r8, r9, r10, r11, x1, hli, c1, c1i]
    rw [hy]; clear hy y
    refine lwp_cond_f (by simp [look_setE, look_kill]) ?_
    simp
    refine fin _ _ (TuE.mono ⟨_, _, _, _, _, _, _, _, _, _, _, _, _, t, w17⟩ (by omega)) ?_ ?_ ?_ ?_ ?_ <;> simp [look_setE, look_kill, r2, r4, r5, r8, r10]
  refine lwp_cond_f (by simp [look_setE, look_kill, w3]) ?_
  refine lwp_hide fun y hy => ?_
  simp [look_setE, look_kill, r2, r4, r5, r7, r8, r9, r10, r11]
  rw [hy]; clear hy y
  by_cases w4 : what = 4
  ·refine lwp_cond_t (by simp [look_setE, look_kill, w4]) ?_
   simp [look_setE, look_kill]
   refine w17.do_empty (k := (4, 0)) (α := Int) t.free El.s_int fun v18 h18 hle18 hv18 w18 _ => ?_
   simp (disch := omega) [look_setE, look_kill, r2, r4, r5, r7, r8, r9, r10, r11, cellH_mono hle18 x4]
   refine w18.do_append (k := (4, 0)) (α := Int) (l := ([] : List Int)) (l2 := xb.term.to) Own.upd_self El.s_int rfl rfl (t.rt.src w18.wle) (by simp; omega) (by simp; omega) fun v19 h19 w19 _ => ?_
   rw [List.nil_append] at w19
   have w19 : Owns W2 h19 (o17.upd (4, 0) (it T.int v19 xb.term.to)) := w19.congr fun q => by rw [upd_upd]
   refine w19.do_push (k := (4, 0)) (α := Int) (d := IntKind.i64.wrap ((n : Int).tmod 12 - 1)) Own.upd_self El.s_int rfl (rd_int.2 ⟨rfl, i64_rng⟩) (by omega) (by omega) (fun _ => rfl) (fun _ => rfl) fun u20 v20 h20 w20 _ => ?_
   have w20 : Owns W2 h20 (o17.upd (4, 0) (it T.int v20 (xb.term.to ++ [IntKind.i64.wrap ((n : Int).tmod 12 - 1)]))) := w20.congr fun q => by rw [upd_upd]
   obtain ⟨w21, s21⟩ := w20.freeze Own.upd_self
   have hWp := le_plus (h := h20) (w20.av _ _ Own.upd_self)
   have w21 := w21.congr (o' := o17) fun q => by
    rw [upd_upd]; unfold Own.upd; split
    ·rename_i e; rw [e]; exact t.free
    ·rfl
   refine ((t.wider hWp).more (d := c + 1) (by omega)).do_to w21 s21 (by rw [List.length_append, List.length_singleton]; omega) (by kernel_rfl) rfl rfl fun h2 tE => ?_
   refine fin _ _ tE ?_ ?_ ?_ ?_ ?_ <;> simp [look_setE, look_kill, r2, r4, r5, r8, r10]
  refine lwp_cond_f (by simp [look_setE, look_kill, w4]) ?_
  refine lwp_hide fun y hy => ?_
  simp [look_setE, look_kill, r2, r4, r5, r7, r8, r9, r10, r11]
  rw [hy]; clear hy y
  by_cases w5 : what = 5
  ·refine lwp_cond_t (by simp [look_setE, look_kill, w5]) ?_
   simp [look_setE, look_kill, r2, r4, r5, r7, r8, r9, r10, r11]
   have m0 := Int.tmod_nonneg (7 : Int) (show (0 : Int) ≤ n by omega)
   have m1 := Int.tmod_lt_of_pos (n : Int) (show (0 : Int) < 7 by omega)
   refine t.do_kind w17 (p := (n : Int).tmod 7) (by constructor <;> omega) (by kernel_rfl) rfl rfl fun h2 tE => ?_
   refine fin _ _ (tE.mono (by omega)) ?_ ?_ ?_ ?_ ?_ <;> simp [look_setE, look_kill, r2, r4, r5, r8, r10]
  refine lwp_cond_f (by simp [look_setE, look_kill, w5]) ?_
  refine lwp_hide fun y hy => ?_
  simp [look_setE, look_kill, r2, r4, r5, r7, r8, r9, r10, r11]
  rw [hy]; clear hy y
  by_cases w6 : what = 6
  ·refine lwp_cond_t (by simp [look_setE, look_kill, w6]) ?_
   refine lwp_hide fun y hy => ?_
   simp [look_setE, look_kill, r2, r4, r5, r7, r8, r9, r10, r11, x0, hlp]
   rw [hy]; clear hy y
   by_cases c1 : 0 < xb.phis.length
   ·refine lwp_cond_t (by simp [look_setE, look_kill]; exact c1) ?_
    have m0 := Int.tmod_nonneg (xb.phis.length : Int) (show (0 : Int) ≤ n by omega)
    have m1 := Int.tmod_lt_of_pos (n : Int) (show (0 : Int) < xb.phis.length by omega)
    obtain ⟨q, hq⟩ : ∃ q : Nat, (n : Int).tmod xb.phis.length = q := ⟨((n : Int).tmod xb.phis.length).toNat, by omega⟩
    have hql : q < xb.phis.length := by omega
    obtain ⟨va3, ca3, ra3⟩ := Owns.phiW w17 t.phis hql
    have hta := t.tb.pin _ (List.getElem_mem hql)
    have hne : ¬ xb.phis = [] := fun e => by rw [e] at c1; simp at c1
    have q50 := Int.tmod_nonneg (5 : Int) (show (0 : Int) ≤ n by omega)
    have q51 := Int.tmod_lt_of_pos (n : Int) (show (0 : Int) < 5 by omega)
    have ixq : Bn.ev (.idx 2) vp2 (.int .i64 q) = some (.pointer (some ((slA vp2).add (q * 2)))) := by
     have := sP.idxn (N := 2) rfl (k := .i64) (i := q) (by omega) (by omega); simpa using this
    refine drawn_at (vw h17) (View.le_refl _) ?_
    simp [look_setE, look_kill, r2, r4, r5, r7, r8, r9, r10, r11, x0, hlp, hne, hq, ixq, ca3]
    have A2 : ∀ {po2 po3 : OP} {W : View} {hh : Heap} {v1 u : Value} {ty ty3 : TypeId} {us : List (Nat × Value)} {us3 : Value → List (Nat × Value)} {x y c1 c2 : Operand} {K2 : Value → Value → Heap → Prop}, W2.le W → Owns W hh (o17.upd (4, 0) (it T.api_In v1 xb.phis[q].ins)) → SlRd W u [InD.mk ((n : Int).tmod 5) n] → (vw h17).le (vw hh) → Av (vw h17) v1 → asg us x = v1 → asg us y = u →
      (∀ v, asg (us3 v) c1 = .pointer (some (((slA vp2).add (q * 2)).add 1))) → (∀ v, asg (us3 v) c2 = v) → (∀ v h', TuE R F X o0 (c + 1) W2 vbk f.blocks h' → K2 v undef h') →
      @Lft.step po2 Try.prog (.call ⟨.builtin .append, #[x, y], #[T.s_api_In, T.s_api_In]⟩) ty us hh fun v h' => (vw h17).le (vw h') ∧ @Lft.step po3 Try.prog (.store T.s_api_In c1 c2) ty3 (us3 v) h' fun w h'' => K2 v w h'' := by
     intro po2 po3 W hh v1 u ty ty3 us us3 x y c1 c2 K2 hW w su le av hx hy hc1 hc2 hK2
     refine w.do_append (k := (4, 0)) (α := InD) (l := xb.phis[q].ins) (l2 := [InD.mk ((n : Int).tmod 5) n]) Own.upd_self El.s_api_In hx hy (su.src w.wle) (by simp; omega) (by simp; omega) fun v2 h2 wb m2 => ⟨(m2.view le av).1, ?_⟩
     have wb : Owns W h2 (o17.upd (4, 0) (it T.api_In v2 (xb.phis[q].ins ++ [InD.mk ((n : Int).tmod 5) n]))) := wb.congr fun k => by rw [upd_upd]
     obtain ⟨wc, sc⟩ := wb.freeze Own.upd_self
     have hWp := le_plus (h := h2) (wb.av _ _ Own.upd_self)
     have wc := wc.congr (o' := o17) fun k => by
      rw [upd_upd]; unfold Own.upd; split
      ·rename_i e; rw [e]; exact t.free
      ·rfl
     exact ((t.wider (View.le_trans hW hWp)).more (d := c + 1) (by omega)).do_phi wc (j := q) hql sc (by rw [List.length_append, List.length_singleton]; omega) (by kernel_rfl) (hc1 v2) (hc2 v2) fun h' tE => hK2 v2 h' tE
    have i5 : I64 ((n : Int).tmod 5) := ⟨by omega, by omega⟩
    have in_ : I64 (n : Int) := ⟨by omega, by omega⟩
    constructor
    ·refine w17.do_empty (k := (4, 0)) (α := InD) t.free El.s_api_In fun v0 h18 le18 _ w18 av18 => ⟨le18, ?_⟩
     have av18 := av18 (vw h17) (View.le_refl _)
     constructor
     ·refine w18.do_append (k := (4, 0)) (α := InD) (l := ([] : List InD)) (l2 := xb.phis[q].ins) Own.upd_self El.s_api_In rfl rfl (ra3.src w18.wle) (by simp; omega) (by simp; omega) fun v1 h19 w19 m19 => ?_
      obtain ⟨le19, av19⟩ := m19.view le18 av18
      rw [List.nil_append] at w19
      have w19 : Owns W2 h19 (o17.upd (4, 0) (it T.api_In v1 xb.phis[q].ins)) := w19.congr fun k => by rw [upd_upd]
      refine ⟨le19, ?_⟩
      refine do_build (z := .agg #[.int .i64 0, .int .i64 0]) (places := [(0, 1), (1, 1)]) (vs := [(0, .int .i64 ((n : Int).tmod 5)), (1, .int .i64 n)]) (cs := #[.int .i64 ((n : Int).tmod 5), .int .i64 n]) (by kernel_rfl) (by kernel_rfl) (by simp) (by rfl) ⟨le19, ?_⟩
      refine do_oneIn i5 in_ rfl fun h20 le20 su => ⟨View.le_trans le19 le20, ?_⟩
      refine A2 (le_grow w19.wle) (w19.ext le20) (su _ (grow_new (Nat.le_refl _))) (View.le_trans le19 le20) av19 rfl rfl (fun _ => rfl) (fun _ => rfl) fun v h' tE => ?_
      refine fin _ _ tE ?_ ?_ ?_ ?_ ?_ <;> simp [look_setE, look_kill, r2, r4, r5, r8, r10]
     ·refine do_build (z := .agg #[.int .i64 0, .int .i64 0]) (places := [(0, 1), (1, 1)]) (vs := [(0, .int .i64 ((n : Int).tmod 5)), (1, .int .i64 n)]) (cs := #[.int .i64 ((n : Int).tmod 5), .int .i64 n]) (by kernel_rfl) (by kernel_rfl) (by simp) (by rfl) ⟨le18, ?_⟩
      constructor
      ·refine w18.do_append (k := (4, 0)) (α := InD) (l := ([] : List InD)) (l2 := xb.phis[q].ins) Own.upd_self El.s_api_In rfl rfl (ra3.src w18.wle) (by simp; omega) (by simp; omega) fun v1 h19 w19 m19 => ?_
       obtain ⟨le19, av19⟩ := m19.view le18 av18
       rw [List.nil_append] at w19
       have w19 : Owns W2 h19 (o17.upd (4, 0) (it T.api_In v1 xb.phis[q].ins)) := w19.congr fun k => by rw [upd_upd]
       refine ⟨le19, ?_⟩
       refine do_oneIn i5 in_ rfl fun h20 le20 su => ⟨View.le_trans le19 le20, ?_⟩
       refine A2 (le_grow w19.wle) (w19.ext le20) (su _ (grow_new (Nat.le_refl _))) (View.le_trans le19 le20) av19 rfl rfl (fun _ => rfl) (fun _ => rfl) fun v h' tE => ?_
       refine fin _ _ tE ?_ ?_ ?_ ?_ ?_ <;> simp [look_setE, look_kill, r2, r4, r5, r8, r10]
      ·refine do_oneIn i5 in_ rfl fun h20 le20 su => ⟨View.le_trans le18 le20, ?_⟩
       have w20 := w18.ext le20
       have hW20 := le_grow (h' := h20) w18.wle
       have su := su _ (grow_new (W := W2) (Nat.le_refl _))
       refine w20.do_append (k := (4, 0)) (α := InD) (l := ([] : List InD)) (l2 := xb.phis[q].ins) Own.upd_self El.s_api_In rfl rfl ((ra3.mono hW20).src w20.wle) (by simp; omega) (by simp; omega) fun v1 h21 w21 m21 => ?_
       obtain ⟨le21, av21⟩ := m21.view (View.le_trans le18 le20) av18
       rw [List.nil_append] at w21
       have w21 := w21.congr (o' := o17.upd (4, 0) (it T.api_In v1 xb.phis[q].ins)) fun k => by rw [upd_upd]
       refine ⟨le21, ?_⟩
       refine A2 hW20 w21 su le21 av21 rfl rfl (fun _ => rfl) (fun _ => rfl) fun v h' tE => ?_
       refine fin _ _ tE ?_ ?_ ?_ ?_ ?_ <;> simp [look_setE, look_kill, r2, r4, r5, r8, r10]
    ·refine do_build (z := .agg #[.int .i64 0, .int .i64 0]) (places := [(0, 1), (1, 1)]) (vs := [(0, .int .i64 ((n : Int).tmod 5)), (1, .int .i64 n)]) (cs := #[.int .i64 ((n : Int).tmod 5), .int .i64 n]) (by kernel_rfl) (by kernel_rfl) (by simp) (by rfl) ⟨View.le_refl _, ?_⟩
     constructor
     ·refine w17.do_empty (k := (4, 0)) (α := InD) t.free El.s_api_In fun v0 h18 le18 _ w18 av18 => ⟨le18, ?_⟩
      have av18 := av18 (vw h17) (View.le_refl _)
      constructor
      ·refine w18.do_append (k := (4, 0)) (α := InD) (l := ([] : List InD)) (l2 := xb.phis[q].ins) Own.upd_self El.s_api_In rfl rfl (ra3.src w18.wle) (by simp; omega) (by simp; omega) fun v1 h19 w19 m19 => ?_
       obtain ⟨le19, av19⟩ := m19.view le18 av18
       rw [List.nil_append] at w19
       have w19 : Owns W2 h19 (o17.upd (4, 0) (it T.api_In v1 xb.phis[q].ins)) := w19.congr fun k => by rw [upd_upd]
       refine ⟨le19, ?_⟩
       refine do_oneIn i5 in_ rfl fun h20 le20 su => ⟨View.le_trans le19 le20, ?_⟩
       refine A2 (le_grow w19.wle) (w19.ext le20) (su _ (grow_new (Nat.le_refl _))) (View.le_trans le19 le20) av19 rfl rfl (fun _ => rfl) (fun _ => rfl) fun v h' tE => ?_
       refine fin _ _ tE ?_ ?_ ?_ ?_ ?_ <;> simp [look_setE, look_kill, r2, r4, r5, r8, r10]
      ·refine do_oneIn i5 in_ rfl fun h20 le20 su => ⟨View.le_trans le18 le20, ?_⟩
       have w20 := w18.ext le20
       have hW20 := le_grow (h' := h20) w18.wle
       have su := su _ (grow_new (W := W2) (Nat.le_refl _))
       refine w20.do_append (k := (4, 0)) (α := InD) (l := ([] : List InD)) (l2 := xb.phis[q].ins) Own.upd_self El.s_api_In rfl rfl ((ra3.mono hW20).src w20.wle) (by simp; omega) (by simp; omega) fun v1 h21 w21 m21 => ?_
       obtain ⟨le21, av21⟩ := m21.view (View.le_trans le18 le20) av18
       rw [List.nil_append] at w21
       have w21 := w21.congr (o' := o17.upd (4, 0) (it T.api_In v1 xb.phis[q].ins)) fun k => by rw [upd_upd]
       refine ⟨le21, ?_⟩
       refine A2 hW20 w21 su le21 av21 rfl rfl (fun _ => rfl) (fun _ => rfl) fun v h' tE => ?_
       refine fin _ _ tE ?_ ?_ ?_ ?_ ?_ <;> simp [look_setE, look_kill, r2, r4, r5, r8, r10]
     ·refine do_oneIn i5 in_ rfl fun h18 le18 su => ⟨le18, ?_⟩
      have w18 := w17.ext le18
      have hW18 := le_grow (h' := h18) w17.wle
      have su := su _ (grow_new (W := W2) (Nat.le_refl _))
      refine w18.do_empty (k := (4, 0)) (α := InD) t.free El.s_api_In fun v0 h19 le19 _ w19 av19 => ⟨View.le_trans le18 le19, ?_⟩
      have av19 := av19 (vw h17) le18
      refine w19.do_append (k := (4, 0)) (α := InD) (l := ([] : List InD)) (l2 := xb.phis[q].ins) Own.upd_self El.s_api_In rfl rfl ((ra3.mono hW18).src w19.wle) (by simp; omega) (by simp; omega) fun v1 h21 w21 m21 => ?_
      obtain ⟨le21, av21⟩ := m21.view (View.le_trans le18 le19) av19
      rw [List.nil_append] at w21
      have w21 := w21.congr (o' := o17.upd (4, 0) (it T.api_In v1 xb.phis[q].ins)) fun k => by rw [upd_upd]
      refine ⟨le21, ?_⟩
      refine A2 hW18 w21 su le21 av21 rfl rfl (fun _ => rfl) (fun _ => rfl) fun v h' tE => ?_
      refine fin _ _ tE ?_ ?_ ?_ ?_ ?_ <;> simp [look_setE, look_kill, r2, r4, r5, r8, r10]
   ·have he : xb.phis = [] := List.eq_nil_of_length_eq_zero (by omega)
    refine lwp_cond_f (by simp [look_setE, look_kill, he]) ?_
    simp
    refine fin _ _ (TuE.mono ⟨_, _, _, _, _, _, _, _, _, _, _, _, _, t, w17⟩ (by omega)) ?_ ?_ ?_ ?_ ?_ <;> simp [look_setE, look_kill, r2, r4, r5, r8, r10]
  refine lwp_cond_f (by simp [look_setE, look_kill, w6]) ?_
  refine lwp_hide fun y hy => ?_
  simp [look_setE, look_kill, r2, r4, r5, r7, r8, r9, r10, r11]
  rw [hy]; clear hy y
  by_cases w7 : what = 7
  ·refine lwp_cond_t (by simp [look_setE, look_kill, w7]) ?_
   refine lwp_hide fun y hy => ?_
   by_cases c1 : 0 < xb.phis.length
   ·have c1i : (0 : Int) < xb.phis.length := by omega
    obtain ⟨va3, ca3, ra3⟩ := Owns.phiW w17 t.phis c1
    have ca3 : cellH (vw h17) (((slA vp2).add 0).add 1) = some va3 := by have := ca3; rwa [Nat.zero_mul] at this
    have hta := t.tb.pin _ (List.getElem_mem c1)
    have hix : ∀ {l : List PhiD}, SlRd (vw h17) vp2 l → True := fun _ => trivial
    have ix0 : Bn.ev (.idx 2) vp2 (.int .i64 0) = some (.pointer (some ((slA vp2).add 0))) := by
     have := sP.idxn (N := 2) rfl (k := .i64) (i := 0) (by omega) (by omega); simpa using this
    simp (disch := omega) [look_setE, look_kill, r2, r4, r5, r7, r8, r9, r10, r11, x0, hlp, c1, c1i, ix0, ca3, ra3.len]
    rw [hy]; clear hy y
    by_cases c2 : 0 < xb.phis[0].ins.length
    ·refine lwp_cond_t (by simp [look_setE, look_kill]; first | exact c2 | omega) ?_
     refine lwp_hide fun y hy => ?_
     simp [look_setE, look_kill]
     refine w17.do_empty (k := (4, 0)) (α := InD) t.free El.s_api_In fun v18 h18 hle18 hv18 w18 _ => ?_
     simp (disch := omega) [look_setE, look_kill, r2, r4, r5, r7, r8, r9, r10, r11, cellH_mono hle18 x0, ix0, cellH_mono hle18 ca3]
     refine w18.do_append (k := (4, 0)) (α := InD) (l := ([] : List InD)) (l2 := xb.phis[0].ins) Own.upd_self El.s_api_In rfl rfl (ra3.src w18.wle) (by simp; omega) (by simp; omega) fun v19 h19 w19 _ => ?_
     rw [List.nil_append] at w19
     have w19 : Owns W2 h19 (o17.upd (4, 0) (it T.api_In v19 xb.phis[0].ins)) := w19.congr fun q => by rw [upd_upd]
     rw [hy]; clear hy y
     refine lwp_hide fun y hy => ?_
     have s19 := w19.now (k := (4, 0)) Own.upd_self
     have m0 := Int.tmod_nonneg (xb.phis[0].ins.length : Int) (show (0 : Int) ≤ n by omega)
     have m1 := Int.tmod_lt_of_pos (n : Int) (show (0 : Int) < xb.phis[0].ins.length by omega)
     have hne : ¬ xb.phis[0].ins = [] := fun e => by rw [e] at c2; simp at c2
     simp (disch := omega) [look_setE, look_kill, r2, r4, r5, r7, r8, r9, r10, r11, s19.len, hne, s19.idxn (N := 2) rfl]
     refine w19.do_part (k := (4, 0)) (α := InD) InD.p_val (v := v19) (l := xb.phis[0].ins) (i := ((n : Int).tmod xb.phis[0].ins.length).toNat) (d := (n : Int)) Own.upd_self (by kernel_rfl) rfl rfl (by omega) (rd_int.2 ⟨rfl, by constructor <;> omega⟩) fun h20 w20 _ => ?_
     have w20 : Owns W2 h20 (o17.upd (4, 0) (it T.api_In v19 _)) := w20.congr fun q => by rw [upd_upd]
     rw [hy]; clear hy y
     have x0' : cellH (vw h20) ⟨X, 0, none⟩ = some vp2 := w20.raw (k := (3, 1)) ((Own.upd_ne (by simp)).trans t.box) (i := 0) (by decide)
     obtain ⟨w21, s21⟩ := w20.freeze Own.upd_self
     have hWp := le_plus (h := h20) (w20.av _ _ Own.upd_self)
     have w21 := w21.congr (o' := o17) fun q => by
      rw [upd_upd]; unfold Own.upd; split
      ·rename_i e; rw [e]; exact t.free
      ·rfl
     simp (disch := omega) [look_setE, look_kill, r2, r4, r5, r7, r8, r9, r10, r11, x0', ix0]
     refine (t.wider hWp).do_phi w21 (j := 0) c1 s21 (by rw [List.length_set]; exact hta) (by kernel_rfl) (by rw [Nat.zero_mul]; rfl) rfl fun h2 tE => ?_
     refine fin _ _ (tE.mono (by omega)) ?_ ?_ ?_ ?_ ?_ <;> simp [look_setE, look_kill, r2, r4, r5, r8, r10]
    ·have he : xb.phis[0].ins = [] := List.eq_nil_of_length_eq_zero (by omega)
     refine lwp_cond_f (by simp [look_setE, look_kill, he]) ?_
     simp
     refine fin _ _ (TuE.mono ⟨_, _, _, _, _, _, _, _, _, _, _, _, _, t, w17⟩ (by omega)) ?_ ?_ ?_ ?_ ?_ <;> simp [look_setE, look_kill, r2, r4, r5, r8, r10]
   ·have he : xb.phis = [] := List.eq_nil_of_length_eq_zero (by omega)
    have c1i : ¬ (0 : Int) < xb.phis.length := by omega
    simp [look_setE, look_kill, r2, r4, r5, r7, r8, r9, r10, r11, x0, hlp, c1, c1i]
    rw [hy]; clear hy y
    refine lwp_cond_f (by simp [look_setE, look_kill, he]) ?_
    simp
    refine fin _ _ (TuE.mono ⟨_, _, _, _, _, _, _, _, _, _, _, _, _, t, w17⟩ (by omega)) ?_ ?_ ?_ ?_ ?_ <;> simp [look_setE, look_kill, r2, r4, r5, r8, r10]
  refine lwp_cond_f (by simp [look_setE, look_kill, w7]) ?_
  refine lwp_hide fun y hy => ?_
  simp [look_setE, look_kill, r2, r4, r5, r7, r8, r9, r10, r11]
  rw [hy]; clear hy y
  by_cases w8 : what = 8
  ·refine lwp_cond_t (by simp [look_setE, look_kill, w8]) ?_
   refine lwp_hide fun y hy => ?_
   simp [look_setE, look_kill, r2, r4, r5, r7, r8, r9, r10, r11, x1, hli]
   rw [hy]; clear hy y
   by_cases c1 : 0 < xb.ins.length
   ·have hj := hj1 c1
    refine lwp_cond_t (by simp [look_setE, look_kill]; exact c1) ?_
    obtain ⟨v1, v2, e1, e2, wc, src⟩ := Owns.cut w17 t.ins (N := 5) rfl hj
    have hwj : IntKind.i64.wrap ((j : Int) + 1) = (j : Int) + 1 := wrap64_id (by omega) (by omega)
    refine drawn_at (vw h17) (View.le_refl _) ?_
    simp [look_setE, look_kill, r2, r4, r5, r7, r8, r9, r10, r11, x1, e1, e2, hwj]
    refine wc.do_append (k := (3, 2)) (α := InsD) (l := xb.ins.take j) (l2 := xb.ins.drop (j + 1)) Own.upd_self El.s_api_Ins rfl rfl src (by simp; omega) (by simp; omega) fun v18 h18 w18 _ => ?_
    have w18 : Owns W2 h18 (o17.upd (3, 2) (it T.api_Ins v18 (xb.ins.take j ++ xb.ins.drop (j + 1)))) := w18.congr fun q => by rw [upd_upd]
    refine t.do_insV w18 (by simp; omega) (fun i hi => by
     rcases List.mem_append.1 hi with q | q
     ·exact t.tb.iar i (List.mem_of_mem_take q)
     ·exact t.tb.iar i (List.mem_of_mem_drop q)) (by kernel_rfl) rfl rfl fun h2 tE => ?_
    refine fin _ _ (tE.mono (by omega)) ?_ ?_ ?_ ?_ ?_ <;> simp [look_setE, look_kill, r2, r4, r5, r8, r10]
   ·have he : xb.ins = [] := List.eq_nil_of_length_eq_zero (by omega)
    refine lwp_cond_f (by simp [look_setE, look_kill, he]) ?_
    simp
    refine fin _ _ (TuE.mono ⟨_, _, _, _, _, _, _, _, _, _, _, _, _, t, w17⟩ (by omega)) ?_ ?_ ?_ ?_ ?_ <;> simp [look_setE, look_kill, r2, r4, r5, r8, r10]
  refine lwp_cond_f (by simp [look_setE, look_kill, w8]) ?_
  refine lwp_hide fun y hy => ?_
  simp [look_setE, look_kill, r2, r4, r5, r7, r8, r9, r10, r11]
  rw [hy]; clear hy y
  by_cases w9 : what = 9
  ·refine lwp_cond_t (by simp [look_setE, look_kill, w9]) ?_
   refine lwp_hide fun y hy => ?_
   simp [look_setE, look_kill, r2, r4, r5, r7, r8, r9, r10, r11, x1, hli]
   rw [hy]; clear hy y
   by_cases c1 : 1 < xb.ins.length
   ·have hj := hj1 (by omega)
    refine lwp_cond_t (by simp [look_setE, look_kill]; omega) ?_
    have h0i : 0 < xb.ins.length := by omega
    obtain ⟨u0, hu0, hr0⟩ := Owns.ldW w17 t.ins rfl (N := 5) rfl h0i
    obtain ⟨uj, huj, hrj⟩ := Owns.ldW w17 t.ins rfl (N := 5) rfl hj
    rw [Nat.zero_mul] at hu0
    obtain ⟨va0, rfl, rng0, ra0⟩ := ins_val hr0
    have ix0 : Bn.ev (.idx 5) vi2 (.int .i64 0) = some (.pointer (some ((slA vi2).add 0))) := by
     have := sI.idxn (N := 5) rfl (k := .i64) (i := 0) (by omega) (by omega); simpa using this
    refine lwp_hide fun y hy => ?_
    simp (disch := omega) [look_setE, look_kill, r2, r4, r5, r7, r8, r9, r10, r11, x1, ix0, hu0]
    have hva0 := ra0.cells.2
    refine w17.do_var (k := (4, 0)) (n := 4) (l := [.int .i64 xb.ins[0].op, .int .i64 xb.ins[0].dst, .int .i64 xb.ins[0].two, va0, .int .i32 xb.ins[0].imm.v]) t.free (z := .agg #[.int .i64 0, .int .i64 0, .int .i64 0, .slice none 0 0, .int .i32 0]) (by kernel_rfl) rfl (by kernel_rfl) rfl (by decide) (by intro c hc; simp only [List.mem_cons, List.not_mem_nil, or_false] at hc; rcases hc with rfl | rfl | rfl | rfl | rfl <;> first | rfl | assumption) (fun _ => by simp) (fun _ => by simp) fun h18 q18 w18 => ?_
    generalize h17.size = Y at w18
    have x18 := cellH_mono q18 x1
    have huj18 : Un.ev (vw h18) (.loads 5) (.pointer (some ((slA vi2).add (j * 5)))) = some uj := by
     have := ev_mono (ρ := fun _ => none) (e := .un (.loads 5) (.con (.pointer (some ((slA vi2).add (j * 5)))))) q18 (by simpa using huj)
     simpa using this
    rw [hy]; clear hy y
    refine lwp_hide fun y hy => ?_
    refine drawn_at (vw h18) (View.le_refl _) ?_
    simp (disch := omega) [look_setE, look_kill, r2, r4, r5, r7, r8, r9, r10, r11, x18, ix0, sI.idxn (N := 5) rfl, huj18]
    refine w18.do_put (k := (3, 2)) (α := InsD) (v := vi2) (l := xb.ins) (i := 0) (d := xb.ins[j]) ((Own.upd_ne (by simp)).trans t.ins) (by kernel_rfl) (by rw [Nat.zero_mul]; rfl) rfl h0i hrj fun h19 w19 _ => ?_
    have cY := w19.rawAll (k := (4, 0)) (n := 4) ((Own.upd_ne (by simp)).trans Own.upd_self)
    have cY : Un.ev (vw h19) (.loads 5) (.pointer (some ⟨Y, 0, none⟩)) = some (.agg #[.int .i64 xb.ins[0].op, .int .i64 xb.ins[0].dst, .int .i64 xb.ins[0].two, va0, .int .i32 xb.ins[0].imm.v]) := cY
    have x19 : cellH (vw h19) ⟨X, 1, none⟩ = some vi2 := w19.raw (k := (3, 1)) ((Own.upd_ne (by simp)).trans ((Own.upd_ne (by simp)).trans t.box)) (i := 1) (by decide)
    have s19 := w19.now (k := (3, 2)) Own.upd_self
    rw [hy]; clear hy y
    simp (disch := first | omega | (simp; omega)) [look_setE, look_kill, r2, r4, r5, r7, r8, r9, r10, r11, x19, cY, s19.idxn (N := 5) rfl]
    refine w19.do_put (k := (3, 2)) (α := InsD) (v := vi2) (l := xb.ins.set 0 xb.ins[j]) (i := j) (d := xb.ins[0]) Own.upd_self (by kernel_rfl) rfl rfl (by rw [List.length_set]; exact hj) hr0 fun h20 w20 _ => ?_
    have w20 : Owns W2 h20 (o17.upd (3, 2) (it T.api_Ins vi2 ((xb.ins.set 0 xb.ins[j]).set j xb.ins[0]))) := w20.sub fun k i hk => by
     have hk4 : k ≠ (4, 0) := by rintro rfl; rw [Own.upd_ne (by simp), t.free] at hk; cases hk
     by_cases e : k = (3, 2)
     ·subst e; rw [Own.upd_self] at hk ⊢; exact hk
     ·rw [Own.upd_ne e] at hk; rw [Own.upd_ne e, Own.upd_ne e, Own.upd_ne hk4]; exact hk
    refine fin _ _ (TuE.mono ⟨W2, _, f.params, vp2, vi2, va, vt, xb.term.kind, xb.term.imm.v, xb.phis, (xb.ins.set 0 xb.ins[j]).set j xb.ins[0], xb.term.args, xb.term.to, ⟨t.le, (Own.upd_ne (by simp)).trans t.res, (Own.upd_ne (by simp)).trans t.fn, (Own.upd_ne (by simp)).trans t.blk, (Own.upd_ne (by simp)).trans t.box, Own.upd_self, (Own.upd_ne (by simp)).trans t.phis, (Own.upd_ne (by simp)).trans t.free, fun k hk => (Own.upd_ne (by rintro rfl; simp at hk)).trans (t.fr k hk), t.ra, t.rt, t.ips, t.ikd, t.iim, ⟨t.tb.phis, by rw [List.length_set, List.length_set]; exact t.tb.ins, t.tb.args, t.tb.to, t.tb.pin, fun i hi => ?_⟩⟩, w20⟩ (by omega)) ?_ ?_ ?_ ?_ ?_
    ·rcases List.mem_or_eq_of_mem_set hi with q | q
     ·rcases List.mem_or_eq_of_mem_set q with q | q
      ·exact t.tb.iar i q
      ·rw [q]; exact t.tb.iar _ (List.getElem_mem hj)
     ·rw [q]; exact t.tb.iar _ (List.getElem_mem h0i)
    all_goals simp [look_setE, look_kill, r2, r4, r5, r8, r10]
   ·refine lwp_cond_f (by simp [look_setE, look_kill]; omega) ?_
    simp
    refine fin _ _ (TuE.mono ⟨_, _, _, _, _, _, _, _, _, _, _, _, _, t, w17⟩ (by omega)) ?_ ?_ ?_ ?_ ?_ <;> simp [look_setE, look_kill, r2, r4, r5, r8, r10]
  refine lwp_cond_f (by simp [look_setE, look_kill, w9]) ?_
  refine lwp_hide fun y hy => ?_
  simp [look_setE, look_kill, r2, r4, r5, r7, r8, r9, r10, r11]
  rw [hy]; clear hy y
  by_cases w10 : what = 10
  ·refine lwp_cond_t (by simp [look_setE, look_kill, w10]) ?_
   refine lwp_hide fun y hy => ?_
   simp [look_setE, look_kill, r2, r4, r5, r7, r8, r9, r10, r11, x4, hlt]
   rw [hy]; clear hy y
   by_cases c1 : 0 < xb.term.to.length
   ·refine lwp_cond_t (by simp [look_setE, look_kill]; exact c1) ?_
    refine lwp_hide fun y hy => ?_
    simp [look_setE, look_kill]
    refine w17.do_empty (k := (4, 0)) (α := Int) t.free El.s_int fun v18 h18 hle18 hv18 w18 _ => ?_
    simp (disch := omega) [look_setE, look_kill, r2, r4, r5, r7, r8, r9, r10, r11, cellH_mono hle18 x4]
    refine w18.do_append (k := (4, 0)) (α := Int) (l := ([] : List Int)) (l2 := xb.term.to) Own.upd_self El.s_int rfl rfl (t.rt.src w18.wle) (by simp; omega) (by simp; omega) fun v19 h19 w19 _ => ?_
    rw [List.nil_append] at w19
    have w19 : Owns W2 h19 (o17.upd (4, 0) (it T.int v19 xb.term.to)) := w19.congr fun q => by rw [upd_upd]
    rw [hy]; clear hy y
    refine lwp_hide fun y hy => ?_
    have s19 := w19.now (k := (4, 0)) Own.upd_self
    have m0 := Int.tmod_nonneg (xb.term.to.length : Int) (show (0 : Int) ≤ n by omega)
    have m1 := Int.tmod_lt_of_pos (n : Int) (show (0 : Int) < xb.term.to.length by omega)
    have q0 := Int.tmod_nonneg (11 : Int) (show (0 : Int) ≤ n by omega)
    have q1 := Int.tmod_lt_of_pos (n : Int) (show (0 : Int) < 11 by omega)
    have hne : ¬ xb.term.to = [] := fun e => by rw [e] at c1; simp at c1
    simp (disch := omega) [look_setE, look_kill, r2, r4, r5, r7, r8, r9, r10, r11, s19.len, hne, s19.idx1 rfl]
    refine w19.do_put (k := (4, 0)) (α := Int) (v := v19) (l := xb.term.to) (i := ((n : Int).tmod xb.term.to.length).toNat) (d := (n : Int).tmod 11) Own.upd_self (by kernel_rfl) (by rw [show Rep.n Int = 1 from rfl, Nat.mul_one]; rfl) rfl (by omega) (rd_int.2 ⟨rfl, by constructor <;> omega⟩) fun h20 w20 _ => ?_
    have w20 : Owns W2 h20 (o17.upd (4, 0) (it T.int v19 (xb.term.to.set ((n : Int).tmod xb.term.to.length).toNat ((n : Int).tmod 11)))) := w20.congr fun q => by rw [upd_upd]
    rw [hy]; clear hy y
    obtain ⟨w21, s21⟩ := w20.freeze Own.upd_self
    have hWp := le_plus (h := h20) (w20.av _ _ Own.upd_self)
    have w21 := w21.congr (o' := o17) fun q => by
     rw [upd_upd]; unfold Own.upd; split
     ·rename_i e; rw [e]; exact t.free
     ·rfl
    simp (disch := omega) [look_setE, look_kill, r2, r4, r5, r7, r8, r9, r10, r11]
    refine (t.wider hWp).do_to w21 s21 (by rw [List.length_set]; exact t.tb.to) (by kernel_rfl) rfl rfl fun h2 tE => ?_
    refine fin _ _ (tE.mono (by omega)) ?_ ?_ ?_ ?_ ?_ <;> simp [look_setE, look_kill, r2, r4, r5, r8, r10]
   ·have he : xb.term.to = [] := List.eq_nil_of_length_eq_zero (by omega)
    refine lwp_cond_f (by simp [look_setE, look_kill, he]) ?_
    simp
    refine fin _ _ (TuE.mono ⟨_, _, _, _, _, _, _, _, _, _, _, _, _, t, w17⟩ (by omega)) ?_ ?_ ?_ ?_ ?_ <;> simp [look_setE, look_kill, r2, r4, r5, r8, r10]
  refine lwp_cond_f (by simp [look_setE, look_kill, w10]) ?_
  simp [look_setE, look_kill, r2, r4, r5, r7, r8, r9, r10, r11, x0]
  refine do_build (z := .agg #[.int .i64 0, .slice none 0 0]) (places := [(0, 1), (1, 1)]) (vs := [(0, .int .i64 n)]) (cs := #[.int .i64 n, .slice none 0 0]) (by kernel_rfl) (by kernel_rfl) (by simp) (by rfl) ?_
  refine w17.do_push (k := (3, 3)) (α := PhiD) (d := ⟨n, []⟩) t.phis El.s_api_Phi rfl (rd_phiOf ⟨by omega, by omega⟩ nil_sl) (by omega) (by omega) (fun _ => rfl) (fun _ => rfl) fun u18 v18 h18 w18 _ => ?_
  refine (t.more (d := c + 1) (by omega)).do_phiV w18 (by rw [List.length_append, List.length_singleton]; omega) (fun i hi => by
   rcases List.mem_append.1 hi with q | q
   ·have := t.tb.pin i q; omega
   ·rw [List.mem_singleton] at q; rw [q]; show 0 ≤ c + 1; omega) (by kernel_rfl) rfl rfl fun h2 tE => ?_
  refine fin _ _ tE ?_ ?_ ?_ ?_ ?_ <;> simp [look_setE, look_kill, r2, r4, r5, r8, r10]
 refine lwp_hide fun y hy => ?_
 simp [x1, hli]
 rw [hy]; clear hy y
 by_cases c1 : 0 < xb.ins.length
 ·rw [if_pos c1] at hj2
  have hne : ¬ xb.ins = [] := fun e => by rw [e] at c1; simp at c1
  refine lwp_cond_t (by simp [hne]; exact c1) ?_
  simp [x1, hli, hne]
  refine sw _ ?_ ?_ ?_ ?_ ?_ ?_ ?_ ?_
  all_goals simp [hj2]
 ·rw [if_neg c1] at hj2
  have he : xb.ins = [] := List.eq_nil_of_length_eq_zero (by omega)
  refine lwp_cond_f (by simp [he]) ?_
  simp
  refine sw _ ?_ ?_ ?_ ?_ ?_ ?_ ?_ ?_
  all_goals simp [hj2]
end Go.Proofs.Ytfelpjfopgiabaa
namespace Go.Proofs.Ytfelpjfopgiabaa
open Go Go.Lft
theorem func_val {H : View} {u : Value} {f : FuncD} (h : Rd H u f) : ∃ vb, u = .agg #[.int .i64 f.params, vb] ∧ I64 f.params ∧ SlRd H vb f.blocks := by
 obtain ⟨cs, rfl, c1, r1, e1, ⟨rfl, h1⟩, vb, h2, h3⟩ := h
 exact ⟨vb, by rw [← Array.toList_inj.1 ((by rw [e1, h2]; rfl) : cs.toList = #[Value.int .i64 f.params, vb].toList)], h1, h3⟩
theorem two_cells {a : Value} {v : Int} (ha : a.oneCell' = true) : ∀ c ∈ [Value.int .i64 v, a], c.oneCell' = true := by
 intro c hc
 simp only [List.mem_cons, List.not_mem_nil, or_false] at hc
 rcases hc with rfl | rfl <;> first | rfl | exact ha
theorem lawMade_own {l : List Int} {vl : Value} {h : Heap} {W : View} {o0 : Own} (w0 : Owns W h o0) (ho0 : ∀ k : Key, k.1 < 11 → o0 k = none) (hs : SlRd W vl l) :
  HCalls Try.prog N.law03_made #[vl] h (fun u h' => ∃ W' o vb lb, W.le W' ∧ Owns W' h' o ∧ (∀ k : Key, 3 ≤ k.1 → o k = o0 k) ∧ FnB o vb lb (makeS (l.take 200)) ∧ u = .agg #[.int .i64 (makeS (l.take 200)).params, vb]) := by
 refine calls_lift (args := [vl]) follows F.law03_made E.law03_made (Nat.le_of_ble_eq_true (by kernel_rfl)) fun K hK => ?_
 dsimp only [L.law03_made]
 refine lwp_hide fun z hz => ?_
 simp
 refine w0.do_zero (k := (10, 0)) (n := 1) (z := .agg #[.int .i64 0, .slice none 0 0]) (ho0 _ (by decide)) (by kernel_rfl) rfl (by decide) (by simp [Value.cells, Value.oneCell']) fun h1 q1 w1 => ?_
 generalize h.size = R at w1
 obtain ⟨u2, e2, s2⟩ := sl_first hs 200 200 rfl
 rw [hz]; clear hz z
 refine lwp_hide fun z hz => ?_
 simp [hs.len, e2]
 refine call_to (by kernel_rfl) (made_own w1 (fun k hk => (Own.upd_ne (by rintro rfl; simp at hk)).trans (ho0 k (by omega))) s2) ?_
 rintro _ h3 ⟨W3, o3, vb, lb, hW3, w3, f3, b3, rfl⟩
 have c3 : o3 (10, 0) = _ := (f3 (10, 0) (by decide)).trans Own.upd_self
 refine w3.do_field (k := (10, 0)) (α := RawN 1) (β := RawN 1) Part.all (B := R) (D := RawN.mk (n := 1) [.int .i64 0, .slice none 0 0]) (d := RawN.mk (n := 1) [.int .i64 (makeS (l.take 200)).params, vb]) c3 (by kernel_rfl) rfl rfl (rd_rawN rfl (two_cells (w3.cells b3.blk).2)) fun h4 w4 _ => ?_
 have cb := w4.rawAll (k := (10, 0)) (n := 1) (l := [.int .i64 (makeS (l.take 200)).params, vb]) Own.upd_self
 have cb : Un.ev (vw h4) (.loads 2) (.pointer (some ⟨R, 0, none⟩)) = some (.agg #[.int .i64 (makeS (l.take 200)).params, vb]) := cb
 rw [hz]; clear hz z
 simp [cb]
 refine hK _ _ ⟨W3, fun k => if 3 ≤ k.1 then o0 k else o3 k, vb, lb, hW3, w4.sub fun k i hk => ?_, fun k hk => if_pos hk, ⟨?_, b3.len, b3.term, fun i hi => ?_, fun i hi => ?_⟩, rfl⟩
 ·have h10 : k ≠ (10, 0) := by rintro rfl; rw [if_pos (by decide), ho0 _ (by decide)] at hk; cases hk
  rw [Own.upd_ne h10]
  split at hk
  ·rename_i e
   rw [f3 k e, Own.upd_ne h10]; exact hk
  ·exact hk
 ·exact (if_neg (by decide)).trans b3.blk
 ·exact (if_neg (by show ¬ 3 ≤ 1; decide)).trans (b3.phis i hi)
 ·exact (if_neg (by show ¬ 3 ≤ 2; decide)).trans (b3.ins i hi)
theorem lawMade_ok {l : List Int} {vl : Value} {h : Heap} {W : View} {o0 : Own} (w0 : Owns W h o0) (ho0 : ∀ k : Key, k.1 < 11 → o0 k = none) (hs : SlRd W vl l) :
  HCalls Try.prog N.law03_made #[vl] h (fun u h' => ∃ W', W.le W' ∧ Owns W' h' o0 ∧ Rd W' u (makeS (l.take 200))) := by
 refine (lawMade_own w0 ho0 hs).mono ?_
 rintro u h' ⟨W1, o, vb, lb, hW, w, ho, b, rfl⟩
 obtain ⟨W2, hW2, w2, sb⟩ := b.freeze w ho fun k hk => ho0 k (by omega)
 have mp := make_params (s := l.take 200)
 have mi : I64 (makeS (l.take 200)).params := ⟨by omega, by omega⟩
 exact ⟨W2, View.le_trans hW hW2, w2, ⟨_, rfl, [.int .i64 (makeS (l.take 200)).params], [vb], rfl, ⟨rfl, mi⟩, vb, rfl, sb⟩⟩
abbrev Q3 := Cat Int (Cat Int Int)
instance : Inhabited Q3 := ⟨⟨0, 0, 0⟩⟩
theorem tri_val {H : View} {u : Value} {d : Q3} (h : Rd H u d) : u = .agg #[.int .i64 d.a, .int .i64 d.b.a, .int .i64 d.b.b] ∧ I64 d.a ∧ I64 d.b.a ∧ I64 d.b.b := by
 obtain ⟨cs, rfl, c1, r1, e1, ⟨rfl, h1⟩, c2, c3, rfl, ⟨rfl, h2⟩, rfl, h3⟩ := h
 exact ⟨by rw [← Array.toList_inj.1 ((by rw [e1]; rfl) : cs.toList = #[Value.int .i64 d.a, .int .i64 d.b.a, .int .i64 d.b.b].toList)], h1, h2, h3⟩
end Go.Proofs.Ytfelpjfopgiabaa
namespace Go.Lft
open Go
section
variable {po : OP}
theorem Owns.do_boxG {P : Program} {W : View} {h : Heap} {o : Own} {ty : TypeId} {us : List (Nat × Value)} {α : Type} [Rep α] {t : TypeId} {x : Operand} {v : Value} {d : α} {K : Value → Heap → Prop} (w : Owns W h o) (hx : asg us x = v) (hv : Rd W v d)
  (hk : ∀ B h' W', W.le W' → Owns W' h' o → At W' ⟨B, 0, none⟩ d → (vw h).le (vw h') → K (.pointer (some ⟨B, 0, none⟩)) h') : step P (.box t x) ty us h K := by
 refine do_boxT hx (hv.mono w.wle) fun h1 hp hle hs _ => ?_
 exact hk _ _ _ (le_grow w.wle) (w.ext hle) (at_new (t := t) (fz := (0, 0)) (by rw [grow_new (Nat.le_refl _), hp]; simp) (hv.mono (le_grow w.wle))) hle
end
end Go.Lft
namespace Go.Proofs.Ytfelpjfopgiabaa
open Go Go.Lft
abbrev NumD := Cat (List Int) Q3
section
variable {B D : Nat} {ps : Int} {vb : Value} {l : List Value} {k : Key}
end
end Go.Proofs.Ytfelpjfopgiabaa
namespace Go.Proofs.Ytfelpjfopgiabaa
open Go Go.Lft
def Marks (m : BL) (S : Int → Prop) : Prop := m.length = 8192 ∧ ∀ n : Int, 0 ≤ n → n < 8192 → (nth m n.toNat = true ↔ S n)
theorem marks_zero : Marks (List.replicate 8192 false) (fun _ => False) := ⟨List.length_replicate, fun n h0 h1 => by rw [nth_replicate (by omega)]; simp⟩
theorem marks_set {m : BL} {S : Int → Prop} {n : Int} (h : Marks m S) (h0 : 0 ≤ n) (h1 : n < 8192) : Marks (m.set n.toNat true) (fun k => S k ∨ k = n) := by
 refine ⟨by simpa using h.1, fun k k0 k1 => ?_⟩
 rw [nth_set (by rw [h.1]; omega)]
 split
 ·rename_i e; exact ⟨fun _ => .inr (by omega), fun _ => rfl⟩
 ·rename_i e
  rw [h.2 k k0 k1]
  exact ⟨.inl, fun o => o.resolve_right (by rintro rfl; exact e rfl)⟩
theorem Marks.congr {m : BL} {S T : Int → Prop} (h : Marks m S) (he : ∀ n, S n ↔ T n) : Marks m T := ⟨h.1, fun n a b => (h.2 n a b).trans (he n)⟩
theorem once_marks {t : Th} : ∀ {l : List Int} {m m' : BL} {S : Int → Prop}, Marks m S → (∀ n ∈ l, 0 ≤ n ∧ n < 8192) → l.foldlM (refOnce t) m = .ok m' → Marks m' (fun k => S k ∨ k ∈ l) ∧ l.Nodup ∧ ∀ n ∈ l, ¬ S n
 | [], m, m', S, h, _, e => by cases e; exact ⟨h.congr fun n => by simp, List.nodup_nil, fun n hn => by cases hn⟩
 | a :: l, m, m', S, h, hl, e => by
  rw [List.foldlM_cons] at e
  have ha := hl a List.mem_cons_self
  unfold refOnce at e
  by_cases hc : nth m a.toNat = true
  ·rw [if_pos hc] at e; cases e
  ·rw [if_neg hc] at e
   obtain ⟨g1, g2, g3⟩ := once_marks (marks_set h ha.1 ha.2) (fun n hn => hl n (List.mem_cons_of_mem _ hn)) e
   refine ⟨g1.congr fun n => by rw [List.mem_cons, or_assoc], List.nodup_cons.2 ⟨fun hm => g3 a hm (.inr rfl), g2⟩, fun n hn => ?_⟩
   rcases List.mem_cons.1 hn with rfl | hn
   ·exact fun hs => hc ((h.2 n ha.1 ha.2).2 hs)
   ·exact fun hs => g3 n hn (.inl hs)
structure ThGood (f : FuncD) (t : Th) : Prop where
 op : isIns f t = true → opBad (insOf f t) = false
 term : isLast f t = true → termS (blkOf f t).term = true
 mks : ∀ n ∈ t.mks, f.params ≤ n ∧ n ≤ 8191
 to : isLast f t = true → ∀ n ∈ (blkOf f t).term.to, 1 ≤ n ∧ n < f.blocks.length
theorem mkd_fold {t : Th} {m : BL} : upE (mkdStep t) t.mks.length m = t.mks.foldlM (refOnce t) m := upE_list (f := refOnce t)
theorem any_false {α : Type} {p : α → Bool} {l : List α} : l.any p = false ↔ ∀ n ∈ l, p n = false := by
 rw [List.any_eq_false]
 exact forall_congr' fun n => forall_congr' fun _ => by simp
theorem numBad_f {f : FuncD} {n : Int} : numBad f n = false ↔ f.params ≤ n ∧ n ≤ 8191 := by simp [numBad]
theorem toBad_f {f : FuncD} {n : Int} : toBad f n = false ↔ 1 ≤ n ∧ n < f.blocks.length := by simp [toBad]
theorem thShape_ok {f : FuncD} {t : Th} {m m' : BL} (h : thShape f t m = .ok m') : ThGood f t ∧ t.mks.foldlM (refOnce t) m = .ok m' := by
 unfold thShape at h
 split at h
 ·cases h
 rename_i c1
 split at h
 ·cases h
 rename_i c2
 split at h
 ·cases h
 rename_i c3
 rw [mkd_fold] at h
 unfold afterMk at h
 split at h
 ·cases h
 rename_i m1 e
 split at h
 ·cases h
 rename_i c4
 cases h
 refine ⟨⟨fun g => ?_, fun g => ?_, fun n hn => ?_, fun g n hn => ?_⟩, e⟩
 ·simpa [g] using c1
 ·simpa [g] using c2
 ·exact numBad_f.1 (any_false.1 (by simpa only [Bool.not_eq_true] using c3) n hn)
 ·refine toBad_f.1 (any_false.1 (by simpa only [g, Bool.true_and, Bool.not_eq_true] using c4) n hn)
def mksOf (l : List Th) : List Int := l.flatMap Th.mks
theorem shapes_good {f : FuncD} (hp : 0 ≤ f.params) : ∀ {l : List Th} {m m' : BL} {S : Int → Prop}, Marks m S → l.foldlM (fun m t => thShape f t m) m = .ok m' → (∀ t ∈ l, ThGood f t) ∧ (mksOf l).Nodup ∧ ∀ n ∈ mksOf l, ¬ S n
 | [], m, m', S, h, e => ⟨fun t ht => (by cases ht), List.nodup_nil, fun n hn => (by cases hn)⟩
 | t :: l, m, m', S, h, e => by
  rw [List.foldlM_cons] at e
  cases e1 : thShape f t m with
  | error x => rw [e1] at e; cases e
  | ok m1 =>
   rw [e1] at e
   obtain ⟨g, e2⟩ := thShape_ok e1
   obtain ⟨k1, k2, k3⟩ := once_marks h (fun n hn => by have := g.mks n hn; omega) e2
   obtain ⟨i1, i2, i3⟩ := shapes_good hp k1 e
   refine ⟨fun x hx => ?_, ?_, fun n hn => ?_⟩
   ·rcases List.mem_cons.1 hx with rfl | hx
    ·exact g
    ·exact i1 x hx
   ·refine List.nodup_append.2 ⟨k2, i2, fun a ha b hb => ?_⟩
    rintro rfl
    exact i3 a hb (.inr ha)
   ·rcases List.mem_append.1 hn with hn | hn
    ·exact k3 n hn
    ·exact fun hs => i3 n hn (.inl hs)
def StandsP (f : FuncD) (v b p : Int) : Prop := (0 ≤ v ∧ v < f.params) ∨ ∃ t ∈ thingsS f, v ∈ t.mks ∧ (t.blk = b ∧ (t.place < 0 ∨ t.place < p) ∨ t.blk ≠ b ∧ ¬ Re (ofG f.blocks) t.blk b.toNat)
structure SiteP (ts : List Th) (s : List Th) : Prop where
 len : s.length = 8192
 is : ∀ n : Int, 0 ≤ n → n < 8192 → (nth s n.toNat = noTh ∧ ∀ t ∈ ts, n ∉ t.mks) ∨ (nth s n.toNat ∈ ts ∧ n ∈ (nth s n.toNat).mks)
theorem site_one {t : Th} {ts : List Th} : ∀ {l : List Int} {s : List Th} {d : List Int}, (∀ n ∈ l, n ∈ t.mks) → (s.length = 8192 ∧ ∀ n : Int, 0 ≤ n → n < 8192 → (nth s n.toNat = noTh ∧ (∀ t ∈ ts, n ∉ t.mks) ∧ n ∉ d) ∨ (nth s n.toNat ∈ ts ++ [t] ∧ n ∈ (nth s n.toNat).mks)) →
  ((l.foldl (siteStep t) s).length = 8192 ∧ ∀ n : Int, 0 ≤ n → n < 8192 → (nth (l.foldl (siteStep t) s) n.toNat = noTh ∧ (∀ t ∈ ts, n ∉ t.mks) ∧ n ∉ d ++ l) ∨ (nth (l.foldl (siteStep t) s) n.toNat ∈ ts ++ [t] ∧ n ∈ (nth (l.foldl (siteStep t) s) n.toNat).mks))
 | [], s, d, _, h => by simpa using h
 | a :: l, s, d, hl, h => by
  rw [List.foldl_cons]
  have := site_one (t := t) (ts := ts) (l := l) (s := siteStep t s a) (d := d ++ [a]) (fun n hn => hl n (List.mem_cons_of_mem _ hn)) ⟨by rw [siteStep_len]; exact h.1, fun n h0 h1 => ?_⟩
  ·simpa using this
  ·unfold siteStep
   split
   ·rw [nth_set (by rw [h.1]; omega)]
    split
    ·rename_i hc e
     have : n = a := by omega
     subst this
     exact .inr ⟨List.mem_append_right _ (List.mem_singleton.2 rfl), hl n List.mem_cons_self⟩
    ·rename_i hc e
     rcases h.2 n h0 h1 with ⟨a1, a2, a3⟩ | a1
     ·refine .inl ⟨a1, a2, ?_⟩
      rw [List.mem_append, List.mem_singleton]
      rintro (q | rfl)
      ·exact a3 q
      ·exact e rfl
     ·exact .inr a1
   ·rename_i hc
    rcases h.2 n h0 h1 with ⟨a1, a2, a3⟩ | a1
    ·refine .inl ⟨a1, a2, ?_⟩
     rw [List.mem_append, List.mem_singleton]
     rintro (q | rfl)
     ·exact a3 q
     ·exact hc ⟨h0, h1⟩
    ·exact .inr a1
theorem site_all : ∀ {l ts s : List Th}, SiteP ts s → SiteP (ts ++ l) (l.foldl siteTh s)
 | [], ts, s, h => by simpa using h
 | t :: l, ts, s, h => by
  rw [List.foldl_cons]
  have := site_one (t := t) (ts := ts) (l := t.mks) (s := s) (d := []) (fun n hn => hn) ⟨h.len, fun n h0 h1 => (h.is n h0 h1).elim (fun a => .inl ⟨a.1, a.2, List.not_mem_nil⟩) fun a => .inr ⟨List.mem_append_left _ a.1, a.2⟩⟩
  have := site_all (l := l) (ts := ts ++ [t]) (s := siteTh s t) ⟨this.1, fun n h0 h1 => (this.2 n h0 h1).elim (fun a => .inl ⟨a.1, fun x hx => ?_⟩) .inr⟩
  ·simpa using this
  ·rcases List.mem_append.1 hx with hx | hx
   ·exact a.2.1 x hx
   ·rw [List.mem_singleton.1 hx]; simpa using a.2.2
theorem made_site {f : FuncD} : SiteP (thingsS f) (madeS f) :=
 site_all (l := thingsS f) (ts := []) (s := List.replicate 8192 noTh) ⟨List.length_replicate, fun n h0 h1 => .inl ⟨nth_replicate (by omega), fun t ht => by cases ht⟩⟩
theorem thing_at {f : FuncD} {t : Th} (h : t ∈ thingsS f) : 0 ≤ t.blk ∧ t.blk < f.blocks.length := by
 obtain ⟨b, hb, ht⟩ := mem_thTo.1 h
 rcases mem_thB.1 ht with ⟨i, hi, rfl⟩ | ⟨i, hi, rfl⟩ | rfl <;> exact ⟨Int.natCast_nonneg _, Int.ofNat_lt.2 hb⟩
theorem away_is {f : FuncD} {a b : Int} (h0 : 0 ≤ a) (h1 : a < f.blocks.length) (h2 : 0 ≤ b) (h3 : b < f.blocks.length) : nth (nth (awayS f) a.toNat) b.toNat = true ↔ Re (ofG f.blocks) a b.toNat := by
 unfold awayS
 rw [nth_rows (by omega), Int.toNat_of_nonneg h0]
 exact reached_spec (by omega)
theorem stands_to {f : FuncD} {v b p : Int} (hb0 : 0 ≤ b) (hb1 : b < f.blocks.length) (h : standsS f (madeS f) (awayS f) v b p = true) : StandsP f v b p := by
 unfold standsS at h
 split at h
 ·rename_i c; exact .inl c
 split at h
 ·cases h
 rename_i c1 c2
 rcases made_site.is v (by omega) (by omega) with ⟨e, _⟩ | ⟨hm, hv⟩
 ·exact absurd (.inr (by rw [e]; decide)) c2
 have hat := thing_at hm
 refine .inr ⟨_, hm, hv, ?_⟩
 split at h
 ·rename_i e; exact .inl ⟨e, by simpa using h⟩
 ·rename_i e
  refine .inr ⟨e, fun hr => ?_⟩
  rw [(away_is hat.1 hat.2 hb0 hb1).2 hr] at h; cases h
structure MayBe (f : FuncD) : Prop where
 params : 0 ≤ f.params ∧ f.params ≤ 4
 blocks : 0 < f.blocks.length ∧ f.blocks.length ≤ 512
 cnt : cntTo f f.blocks.length ≤ 4096
 good : ∀ t ∈ thingsS f, ThGood f t
 nodup : (mksOf (thingsS f)).Nodup
 way : ∀ b : Nat, b < f.blocks.length → Re (ofG f.blocks) (-1) b
 takes : ∀ t ∈ thingsS f, 0 ≤ t.place → ∀ v ∈ t.tks, StandsP f v t.blk t.place
 phi : ∀ b i : Nat, b < f.blocks.length → i < (nth f.blocks b).phis.length → 0 < b ∧ (nth (nth f.blocks b).phis i).ins.map InD.frm = refPredsS f b ∧ ∀ p ∈ (nth (nth f.blocks b).phis i).ins, StandsP f p.val p.frm (insLen f p.frm)
theorem in_preds {f : FuncD} {b x : Int} : x ∈ refPredsS f b ↔ (0 ≤ x ∧ x < f.blocks.length) ∧ b ∈ (nth f.blocks x.toNat).term.to := by
 unfold refPredsS
 rw [mem_sift]
 constructor
 ·rintro ⟨a, ha, hb, rfl⟩
  exact ⟨⟨by omega, by omega⟩, by simpa using hb⟩
 ·rintro ⟨⟨h0, h1⟩, h⟩
  exact ⟨x.toNat, by omega, by simpa using h, by omega⟩
theorem stand_ok {f : FuncD} {t : Th} : thStand f (madeS f) (awayS f) t = .ok () ↔
  (0 ≤ t.place ∧ ∀ v ∈ t.tks, standsS f (madeS f) (awayS f) v t.blk t.place = true) ∨ (t.place < 0 ∧ sameS f t = true ∧ ∀ p ∈ (phiOf f t).ins, standsS f (madeS f) (awayS f) p.val p.frm (insLen f p.frm) = true) := by
 unfold thStand
 by_cases h0 : 0 ≤ t.place
 ·rw [if_pos h0]
  have hn : ¬ t.place < 0 := by omega
  simp only [h0, hn, true_and, false_and, or_false]
  cases e : t.tks.any (stT f (madeS f) (awayS f) t) with
  | true =>
   obtain ⟨v, hv, hs⟩ := List.any_eq_true.1 e
   constructor
   ·intro h; cases h
   ·intro h
    unfold stT at hs
    rw [h v hv] at hs; cases hs
  | false =>
   constructor
   ·intro _ v hv
    have := any_false.1 e v hv
    simpa [stT] using this
   ·intro _; rfl
 ·rw [if_neg h0]
  have hn : t.place < 0 := by omega
  simp only [h0, hn, true_and, false_and, false_or]
  cases e1 : sameS f t with
  | false => simp
  | true =>
   rw [if_neg (by simp)]
   cases e : (phiOf f t).ins.any (stP f (madeS f) (awayS f)) with
   | true =>
    obtain ⟨v, hv, hs⟩ := List.any_eq_true.1 e
    constructor
    ·intro h; cases h
    ·rintro ⟨_, h⟩
     unfold stP at hs
     rw [h v hv] at hs; cases hs
   | false =>
    constructor
    ·intro _
     refine ⟨rfl, fun v hv => ?_⟩
     have := any_false.1 e v hv
     simpa [stP] using this
    ·intro _; rfl
theorem phi_back {f : FuncD} {b i : Nat} : phiOf f (phiT f b i) = nth (nth f.blocks b).phis i := by
 unfold phiOf blkOf phiT
 dsimp only
 rw [Int.toNat_natCast]
 congr 1
 omega
theorem may_to {f : FuncD} (h : (toldS f).1 = 0) : MayBe f := by
 rw [told_same] at h
 unfold refFuncS at h
 split at h
 ·cases h
 rename_i c1
 split at h
 ·cases h
 rename_i c2
 split at h
 ·cases h
 rename_i c3
 cases hs : refShapeS f with
 | error e =>
  obtain ⟨k, s', _, _, h3⟩ := upE_inv (show upE _ _ _ = _ from hs)
  have := (thShape_err h3).1
  rw [hs] at h
  rw [if_pos (by show e.1 ≠ 0; omega)] at h
  have h : e.1 = 0 := h
  omega
 | ok m =>
  rw [hs, if_neg (by simp [errOf])] at h
  obtain ⟨g1, g2, _⟩ := shapes_good (f := f) (by omega) marks_zero (by rw [← refShape_fold]; exact hs)
  cases hw : wayE f with
  | error e =>
   rw [hw] at h
   obtain ⟨k, s', _, _, h3⟩ := upE_inv (show upE _ _ _ = _ from hw)
   split at h3
   ·cases h3
   ·cases h3; exact absurd (show (15 : Int) = 0 from h) (by decide)
  | ok u =>
   obtain ⟨⟩ := u
   rw [hw] at h
   cases hu : usesE f with
   | error e =>
    rw [hu] at h
    obtain ⟨k, s', _, _, h3⟩ := upE_inv (show upE _ _ _ = _ from hu)
    have h : e.1 = 0 := h
    unfold thStand at h3
    repeat' split at h3
    all_goals first | (cases h3; done) | (cases h3; first | exact absurd (show (13 : Int) = 0 from h) (by decide) | exact absurd (show (16 : Int) = 0 from h) (by decide))
   | ok u =>
    obtain ⟨⟩ := u
    have hst : ∀ t ∈ thingsS f, thStand f (madeS f) (awayS f) t = .ok () := fun t ht => by
     obtain ⟨i, hi, e⟩ := List.getElem_of_mem ht
     have := upE_all hu i hi
     rw [nth_eq hi, e] at this; exact this
    refine ⟨by omega, by omega, by omega, g1, g2, fun b hb => ?_, fun t ht h0 v hv => ?_, fun b i hb hi => ?_⟩
    ·have := upE_all hw b hb
     rw [← reached_spec hb]
     split at this
     ·assumption
     ·cases this
    ·have hat := thing_at ht
     rcases stand_ok.1 (hst t ht) with ⟨_, k⟩ | ⟨k, _⟩
     ·exact stands_to hat.1 hat.2 (k v hv)
     ·omega
    ·have ht : phiT f b i ∈ thingsS f := mem_thTo.2 ⟨b, hb, mem_thB.2 (.inl ⟨i, hi, rfl⟩)⟩
     rcases stand_ok.1 (hst _ ht) with ⟨k, _⟩ | ⟨_, k1, k2⟩
     ·exact absurd k (by show ¬ (0 : Int) ≤ -1 - (i : Int); omega)
     ·unfold sameS at k1
      rw [phi_back] at k1 k2
      obtain ⟨k3, k4⟩ := (Bool.and_eq_true _ _).mp k1
      have k4 : (nth (nth f.blocks b).phis i).ins.map InD.frm = refPredsS f b := of_decide_eq_true k4
      have k3 : (0 : Int) < b := of_decide_eq_true k3
      refine ⟨by omega, k4, fun p hp => ?_⟩
      have hm : p.frm ∈ refPredsS f b := by rw [← k4]; exact List.mem_map_of_mem hp
      have := (in_preds.1 hm).1
      exact stands_to this.1 this.2 (k2 p hp)
end Go.Proofs.Ytfelpjfopgiabaa
namespace Go.Proofs.Ytfelpjfopgiabaa
open Go Go.Lft
def Hs (m : BL) (S : Int → Prop) : Prop := m.length = 8192 ∧ ∀ n : Int, 0 ≤ n → n < 8192 → S n → nth m n.toNat = true
theorem hs_zero {S : Int → Prop} (h : ∀ n, ¬ S n) : Hs (List.replicate 8192 false) S := ⟨List.length_replicate, fun n _ _ hn => absurd hn (h n)⟩
theorem Hs.weak {m : BL} {S T : Int → Prop} (h : Hs m S) (he : ∀ n, T n → S n) : Hs m T := ⟨h.1, fun n h0 h1 hn => h.2 n h0 h1 (he n hn)⟩
theorem hs_set {m : BL} {S T : Int → Prop} {n : Int} (h : Hs m S) (h0 : 0 ≤ n) (h1 : n < 8192) (he : ∀ k, T k → S k ∨ k = n) : Hs (m.set n.toNat true) T := by
 refine ⟨by simpa using h.1, fun k k0 k1 hk => ?_⟩
 rw [nth_set (by rw [h.1]; omega)]
 split
 ·rfl
 ·rename_i e
  exact h.2 k k0 k1 ((he k hk).resolve_right (by rintro rfl; exact e rfl))
structure Wy (f : FuncD) (P : Int → Prop) (frm : Int) (b : Nat) : Prop where
 lt : b < f.blocks.length
 way : (frm = -1 ∧ b = 0) ∨ (P frm ∧ 0 ≤ frm ∧ frm < f.blocks.length ∧ (b : Int) ∈ (nth f.blocks frm.toNat).term.to ∧ ∀ c : Int, ¬ P c → Re (ofG f.blocks) c frm.toNat)
def Sa (f : FuncD) (P : Int → Prop) (v : Int) : Prop := (0 ≤ v ∧ v < f.params) ∨ ∃ t ∈ thingsS f, v ∈ t.mks ∧ P t.blk
def Sb (f : FuncD) (P : Int → Prop) (b : Nat) (k : Int) (v : Int) : Prop := Sa f P v ∨ ∃ t ∈ thingsS f, v ∈ t.mks ∧ t.blk = b ∧ (t.place < 0 ∨ t.place < k)
theorem wy_start {f : FuncD} (h : 0 < f.blocks.length) {P : Int → Prop} : Wy f P (-1) 0 := ⟨h, .inl ⟨rfl, rfl⟩⟩
section
variable {f : FuncD} {P : Int → Prop} {frm : Int} {b : Nat}
theorem in_block {t : Th} (ht : t ∈ thingsS f) (hb : t.blk = b) : (∃ i, i < (nth f.blocks b).phis.length ∧ t = phiT f b i) ∨ (∃ i, i < (nth f.blocks b).ins.length ∧ t = insT f b i) ∨ t = endT f b := by
 obtain ⟨c, hc, hm⟩ := mem_thTo.1 ht
 have e : c = b := by
  rcases mem_thB.1 hm with ⟨i, hi, rfl⟩ | ⟨i, hi, rfl⟩ | rfl <;> exact Int.ofNat.inj hb
 subst e
 exact mem_thB.1 hm
theorem Wy.re (w : Wy f P frm b) {c : Int} (hc : ¬ P c) (hb : (b : Int) ≠ c) : Re (ofG f.blocks) c b := by
 have hl := w.lt
 rcases w.way with ⟨_, rfl⟩ | ⟨h1, h2, h3, h4, h5⟩
 ·exact .root (by rw [ofG_len]; exact hl) (fun e => hb (by rw [e]; rfl))
 ·refine .step (h5 c hc) ?_ hb
  rw [edge_ofG]
  rw [Int.toNat_of_nonneg h2]
  exact ⟨⟨h2, h3, by omega, by omega⟩, h4⟩
theorem Wy.go (m : MayBe f) (w : Wy f P frm b) {c : Int} (hc : c ∈ (nth f.blocks b).term.to) : 1 ≤ c ∧ c < f.blocks.length ∧ Wy f (fun x => P x ∨ x = b) b c.toNat := by
 have ht : endT f b ∈ thingsS f := mem_thTo.2 ⟨b, w.lt, mem_thB.2 (.inr (.inr rfl))⟩
 have hl : isLast f (endT f b) = true := by unfold isLast blkOf endT; simp
 have h := (m.good _ ht).to hl c (by unfold blkOf endT; simpa using hc)
 have hcn : ((c.toNat : Nat) : Int) = c := Int.toNat_of_nonneg (by omega)
 refine ⟨h.1, h.2, by omega, .inr ⟨.inr rfl, Int.natCast_nonneg _, Int.ofNat_lt.2 w.lt, by rw [hcn]; exact hc, fun x hx => ?_⟩⟩
 rw [Int.toNat_natCast]
 exact w.re (fun h => hx (.inl h)) (fun e => hx (.inr e.symm))
theorem Sa.rng (m : MayBe f) {v : Int} (h : Sa f P v) : 0 ≤ v ∧ v < 8192 := by
 have := m.params
 rcases h with h | ⟨t, ht, hv, _⟩
 ·omega
 ·have := (m.good t ht).mks v hv; omega
theorem StandsP.rng (m : MayBe f) {v b p : Int} (h : StandsP f v b p) : 0 ≤ v ∧ v < 8192 := by
 have := m.params
 rcases h with h | ⟨t, ht, hv, _⟩
 ·omega
 ·have := (m.good t ht).mks v hv; omega
theorem Wy.phi (m : MayBe f) (w : Wy f P frm b) {i : Nat} (hi : i < (nth f.blocks b).phis.length) :
  (∃ p ∈ (nth (nth f.blocks b).phis i).ins, p.frm = frm) ∧ ∀ p ∈ (nth (nth f.blocks b).phis i).ins, p.frm = frm → Sa f P p.val := by
 obtain ⟨k1, k2, k3⟩ := m.phi b i w.lt hi
 rcases w.way with ⟨_, rfl⟩ | ⟨h1, h2, h3, h4, h5⟩
 ·omega
 have hm : frm ∈ refPredsS f b := in_preds.2 ⟨⟨h2, h3⟩, h4⟩
 rw [← k2] at hm
 obtain ⟨p, hp, e⟩ := List.mem_map.1 hm
 refine ⟨⟨p, hp, e⟩, ?_⟩
 rintro q hq rfl
 rcases k3 q hq with c | ⟨t, ht, hv, g⟩
 ·exact .inl c
 ·refine .inr ⟨t, ht, hv, ?_⟩
  rcases g with ⟨g, _⟩ | ⟨g1, g2⟩
  ·rw [g]; exact h1
  ·exact Classical.byContradiction fun hn => g2 (h5 _ hn)
theorem Wy.stands (w : Wy f P frm b) {v p : Int} (h : StandsP f v b p) : Sb f P b p v := by
 rcases h with c | ⟨t, ht, hv, g⟩
 ·exact .inl (.inl c)
 rcases g with ⟨g1, g2⟩ | ⟨g1, g2⟩
 ·exact .inr ⟨t, ht, hv, g1, g2⟩
 ·exact .inl (.inr ⟨t, ht, hv, Classical.byContradiction fun hn => g2 (w.re hn (fun e => g1 e.symm))⟩)
theorem Wy.arg (m : MayBe f) (w : Wy f P frm b) {i : Nat} (hi : i < (nth f.blocks b).ins.length) {v : Int} (hv : v ∈ (nth (nth f.blocks b).ins i).args) : Sb f P b i v ∧ 0 ≤ v ∧ v < 8192 := by
 have h := m.takes (insT f b i) (mem_thTo.2 ⟨b, w.lt, mem_thB.2 (.inr (.inl ⟨i, hi, rfl⟩))⟩) (Int.natCast_nonneg _) v hv
 exact ⟨w.stands h, h.rng m⟩
theorem Wy.term (m : MayBe f) (w : Wy f P frm b) {v : Int} (hv : v ∈ (nth f.blocks b).term.args) : Sb f P b ((nth f.blocks b).ins.length : Nat) v ∧ 0 ≤ v ∧ v < 8192 := by
 have h := m.takes (endT f b) (mem_thTo.2 ⟨b, w.lt, mem_thB.2 (.inr (.inr rfl))⟩) (Int.natCast_nonneg _) v hv
 exact ⟨w.stands h, h.rng m⟩
theorem Wy.makes (m : MayBe f) (w : Wy f P frm b) {i : Nat} (hi : i < (nth f.blocks b).ins.length) {v : Int} (hv : v ∈ makesS (nth (nth f.blocks b).ins i)) : 0 ≤ v ∧ v < 8192 := by
 have h := (m.good (insT f b i) (mem_thTo.2 ⟨b, w.lt, mem_thB.2 (.inr (.inl ⟨i, hi, rfl⟩))⟩)).mks v hv
 have := m.params
 omega
theorem Wy.dst (m : MayBe f) (w : Wy f P frm b) {i : Nat} (hi : i < (nth f.blocks b).phis.length) : 0 ≤ (nth (nth f.blocks b).phis i).dst ∧ (nth (nth f.blocks b).phis i).dst < 8192 := by
 have h := (m.good (phiT f b i) (mem_thTo.2 ⟨b, w.lt, mem_thB.2 (.inl ⟨i, hi, rfl⟩)⟩)).mks _ (List.mem_singleton.2 rfl)
 have := m.params
 omega
theorem sb_phis {v : Int} (h : Sb f P b 0 v) : Sa f P v ∨ ∃ j, j < (nth f.blocks b).phis.length ∧ v = (nth (nth f.blocks b).phis j).dst := by
 rcases h with h | ⟨t, ht, hv, hb, hp⟩
 ·exact .inl h
 rcases in_block ht hb with ⟨i, hi, rfl⟩ | ⟨i, hi, rfl⟩ | rfl
 ·exact .inr ⟨i, hi, List.mem_singleton.1 hv⟩
 ·exact absurd hp (by show ¬ ((i : Int) < 0 ∨ (i : Int) < 0); omega)
 ·cases hv
theorem sb_ins {i : Nat} {v : Int} (h : Sb f P b ((i : Nat) + 1 : Int) v) : Sb f P b i v ∨ v ∈ makesS (nth (nth f.blocks b).ins i) := by
 rcases h with h | ⟨t, ht, hv, hb, hp⟩
 ·exact .inl (.inl h)
 by_cases hlt : t.place < 0 ∨ t.place < i
 ·exact .inl (.inr ⟨t, ht, hv, hb, hlt⟩)
 have hpl : t.place = i := by omega
 rcases in_block ht hb with ⟨j, hj, rfl⟩ | ⟨j, hj, rfl⟩ | rfl
 ·exact absurd hpl (by show ¬ (-1 - (j : Int) = i); omega)
 ·have : j = i := Int.ofNat.inj hpl
  subst this
  exact .inr hv
 ·cases hv
theorem sa_block {v : Int} (h : Sa f (fun x => P x ∨ x = b) v) : Sb f P b ((nth f.blocks b).ins.length : Nat) v := by
 rcases h with h | ⟨t, ht, hv, hb⟩
 ·exact .inl (.inl h)
 rcases hb with hb | hb
 ·exact .inl (.inr ⟨t, ht, hv, hb⟩)
 refine .inr ⟨t, ht, hv, hb, ?_⟩
 rcases in_block ht hb with ⟨j, hj, rfl⟩ | ⟨j, hj, rfl⟩ | rfl
 ·exact .inl (by show (-1 - (j : Int)) < 0; omega)
 ·exact .inr (Int.ofNat_lt.2 hj)
 ·cases hv
end
def byWay (frm : Int) (m : BL) (p : InD) : Bool := decide (p.frm = frm) && nth m p.val.toNat
theorem by_way {f : FuncD} {P : Int → Prop} {frm : Int} {b i : Nat} {m : BL} (mb : MayBe f) (w : Wy f P frm b) (hs : Hs m (Sa f P)) (hi : i < (nth f.blocks b).phis.length) : (nth (nth f.blocks b).phis i).ins.any (byWay frm m) = true := by
 obtain ⟨⟨p, hp, e⟩, h⟩ := w.phi mb hi
 refine List.any_eq_true.2 ⟨p, hp, ?_⟩
 have hv := h p hp e
 have hr := hv.rng mb
 unfold byWay
 rw [decide_eq_true e, hs.2 _ hr.1 hr.2 hv]
 rfl
end Go.Proofs.Ytfelpjfopgiabaa
namespace Go.Proofs.Ytfelpjfopgiabaa
open Go Go.Lft
def gOwn (g : Option (Nat × List Value)) : Own := fun k => if k = (11, 1) then g.bind fun x => bx T.api_Func x.1 (RawN.mk (n := 1) x.2) else none
section
variable {D : Nat} {l : List Value} {k : Key}
theorem gOwn_low (h : k.1 < 11) {g : Option (Nat × List Value)} : gOwn g k = none := by
 exact if_neg (by rintro rfl; simp at h)
theorem gOwn_two {g : Option (Nat × List Value)} : gOwn (some (D, l)) k = Own.upd (gOwn g) (11, 1) (bx T.api_Func D (RawN.mk (n := 1) l)) k := by
 by_cases h : k = (11, 1)
 ·subst h; rfl
 ·unfold gOwn Own.upd
  simp only [h, if_false]
end
def yOwn (G : Nat) (l : List Value) (vo : Value) (m : BL) : Own := fun k => if k = (11, 1) then bx T.api_Func G (RawN.mk (n := 1) l) else if k = (0, 0) then it T.bool vo m else none
theorem yOwn_new {G : Nat} {l : List Value} {vo : Value} {m : BL} (k : Key) : yOwn G l vo m k = Own.upd (gOwn (some (G, l))) (0, 0) (it T.bool vo m) k := by
 unfold yOwn gOwn Own.upd
 by_cases h : k = (11, 1)
 ·subst h; rfl
 ·simp only [h, if_false]
theorem yOwn_put {G : Nat} {l : List Value} {vo : Value} {m m' : BL} (k : Key) : yOwn G l vo m' k = Own.upd (yOwn G l vo m) (0, 0) (it T.bool vo m') k := by
 unfold yOwn Own.upd
 by_cases h : k = (11, 1)
 ·subst h; rfl
 ·by_cases h2 : k = (0, 0)
  ·subst h2; rfl
  ·simp only [h, h2, if_false]
theorem checkWays_ok {x : NumD} {ways : List Int} {vx vw_ : Value} {h : Heap} (hx : Rd (vw h) vx x) (hw : SlRd (vw h) vw_ ways) :
  HCalls Try.prog N.law03_CheckWays #[vx, vw_] h (fun u h' => u = .bool true ∧ (vw h).le (vw h')) := by
 refine calls_lift (args := [vx, vw_]) follows F.law03_CheckWays E.law03_CheckWays (Nat.le_of_ble_eq_true (by kernel_rfl)) fun K hK => ?_
 dsimp only [L.law03_CheckWays]
 refine lwp_hide fun z hz => ?_
 simp
 refine (Owns.start (h := h) (View.le_refl (vw h))).do_boxG (d := x) rfl hx fun X h2 W2 hW2 w2 hat hle2 => ?_
 obtain ⟨hal, haq⟩ := hat.cat
 obtain ⟨vl, cl, sl⟩ := hal.list
 obtain ⟨uq, huq, hqr⟩ := haq.loads rfl
 obtain ⟨rfl, i0, i1, i2⟩ := tri_val hqr
 have haq1 : ∀ K : View, W2.le K → Un.ev K (.loads 3) (.pointer (some ⟨X, 1, none⟩)) = some (.agg #[.int .i64 x.b.a, .int .i64 x.b.b.a, .int .i64 x.b.b.b]) := fun K hK => by
  have := ev_mono (ρ := fun _ => none) (e := .un (.loads 3) (.con (.pointer (some ⟨X, 1, none⟩)))) hK (by simpa using (show Un.ev W2 (.loads 3) (.pointer (some ((⟨X, 0, none⟩ : Addr).add 1))) = _ from huq))
  simpa using this
 rw [hz]; clear hz z
 refine lwp_hide fun z hz => ?_
 simp
 refine call_to (by kernel_rfl) shown_ok ?_
 rintro _ h5 ⟨rfl, hle3⟩
 have w5 : Owns W2 h5 (gOwn none) := (w2.ext' hle3).congr fun k => by unfold gOwn; rw [Option.bind_none]; split <;> rfl
 rw [hz]; clear hz z
 refine lwp_hide fun z hz => ?_
 have fin : ∀ (G : Nat) (W8 : View) (h8 : Heap) (vb : Value) (f : FuncD) (tl : Env), W2.le W8 → Owns W8 h8 (gOwn (some (G, [.int .i64 f.params, vb]))) → Rd W8 (.agg #[.int .i64 f.params, vb]) f → TF 1001 f →
   LC.wp Try.prog z (fnPost [E.tmp 4] K) ((0, vx) :: (1, vw_) :: (2, .pointer (some ⟨X, 0, none⟩)) :: (4, .bool false) :: (5, .bool true) :: (6, .pointer (some ⟨G, 0, none⟩)) :: tl) h8 := by
  intro G W8 h8 vb f tl hW8 w8 hr8 tf8
  have sm := tf8.sm (by omega)
  rw [hz]; clear hz z
  refine lwp_hide fun z hz => ?_
  have cG8 : Un.ev (vw h8) (.loads 2) (.pointer (some ⟨G, 0, none⟩)) = some (.agg #[.int .i64 f.params, vb]) := w8.rawAll (k := (11, 1)) (n := 1) (l := [.int .i64 f.params, vb]) rfl
  simp [cG8, look_setE, look_kill]
  refine call_to (by kernel_rfl) (right_ok (hr8.mono w8.wle) sm) ?_
  rintro _ h9 ⟨rfl, hle9⟩
  have w9 := w8.ext' hle9
  have hle08 := View.le_trans hW2 hW8
  by_cases ht : ¬ (toldS f).1 = 0
  ·simp [ht, look_setE, look_kill]
   exact hK _ _ ⟨rfl, View.le_trans hle08 w9.wle⟩
  have ht : (toldS f).1 = 0 := Classical.not_not.1 ht
  simp [ht, look_setE, look_kill]
  have mb := may_to ht
  rw [hz]; clear hz z
  refine lwp_hide fun z hz => ?_
  simp [look_setE, look_kill]
  refine do_make (α := Bool) (W := W8) (k := .i64) (n := 8192) (d := false) El.s_bool rfl rfl rfl (by omega) (by omega) fun vo h10 o10 m10 hle10 hb10 => ?_
  have w10 := w9.add (k := (0, 0)) rfl o10 hle10 (fun b hb => by rw [hb10] at hb; cases hb; exact Nat.le_refl _)
  have w10 : Owns W8 h10 (yOwn G [.int .i64 f.params, vb] vo (List.replicate 8192 false)) := w10.congr fun k => yOwn_new k
  rw [hz]; clear hz z
  refine lwp_hide fun z hz => ?_
  simp [look_setE, look_kill]
  have hpar := mb.params
  obtain ⟨np, hnp⟩ : ∃ np : Nat, f.params = np := ⟨f.params.toNat, by omega⟩
  have hr10 := hr8
  obtain ⟨vb', e', ip, sb⟩ := func_val hr8
  have e' : vb = vb' := by simpa using e'
  subst e'
  have cG : ∀ {m : BL} {W : View} {k : Heap}, Owns W k (yOwn G [.int .i64 f.params, vb] vo m) → cellH (vw k) ⟨G, 0, none⟩ = some (.int .i64 f.params) ∧ cellH (vw k) ⟨G, 1, none⟩ = some vb := fun w =>
   ⟨w.raw (k := (11, 1)) (e := T.api_Func) (B := G) (l := [.int .i64 f.params, vb]) (n := 1) rfl (i := 0) (by decide), w.raw (k := (11, 1)) (e := T.api_Func) (B := G) (l := [.int .i64 f.params, vb]) (n := 1) rfl (i := 1) (by decide)⟩
  refine lwp_for [1, 5, 6, 7, 8] (fun (_ : Unit) k => [vw_, .bool true, .pointer (some ⟨G, 0, none⟩), vo, .int .i64 k]) (fun _ k h11 => ∃ m, Owns W8 h11 (yOwn G [.int .i64 f.params, vb] vo m) ∧ Hs m (fun v => 0 ≤ v ∧ v < (k : Int))) np ()
   rfl (by omega) (by simp [keepE, look_setE, look_kill]) ⟨_, w10, hs_zero fun n hn => by omega⟩ (fun _ _ => rfl) (fun v k h11 hk ⟨m, w, _⟩ => by simp [(cG w).1, hnp]) ?_ ?_
  ·rintro _ k h11 hlt ⟨m, w, hs⟩ K2 hK2
   have n11 := w.now (k := (0, 0)) (v := vo) (l := m) rfl
   have hml : (m.length : Int) = 8192 := by rw [hs.1]; rfl
   simp (disch := omega) [n11.idx1 rfl]
   refine w.do_put (k := (0, 0)) (α := Bool) (v := vo) (l := m) (i := k) (d := true) rfl (by kernel_rfl) (by rw [show Rep.n Bool = 1 from rfl, Nat.mul_one]; rfl) rfl (by omega) (rd_bool.2 rfl) fun h12 w12 _ => ?_
   refine hK2 () _ _ rfl rfl ⟨_, w12.congr yOwn_put, ?_⟩
   have := hs_set (n := (k : Int)) (T := fun v => 0 ≤ v ∧ v < ((k + 1 : Nat) : Int)) hs (by omega) (by omega) (fun v hv => by omega)
   simpa using this
  rintro _ h11 ⟨m11, w11, hs11⟩
  rw [thenL_normal, hz]; clear hz z
  refine lwp_hide fun z hz => ?_
  simp
  rw [hz]; clear hz z
  refine lwp_hide fun z hz => ?_
  simp
  rw [hz]; clear hz z
  refine lwp_hide fun z hz => ?_
  simp
  have hs11 : Hs m11 (Sa f (fun _ => False)) := hs11.weak fun n hn => by
   rcases hn with hn | ⟨t, _, _, hf⟩
   ·omega
   ·exact hf.elim
  refine lwp_forC [1, 5, 6, 7, 9, 10, 11] (fun (s : Nat × Int) n => [vw_, .bool true, .pointer (some ⟨G, 0, none⟩), vo, .int .i64 s.1, .int .i64 s.2, .int .i64 n]) (fun s n h1 => ∃ W m P, W8.le W ∧ Owns W h1 (yOwn G [.int .i64 f.params, vb] vo m) ∧ Wy f P s.2 s.1 ∧ Hs m (Sa f P)) 200 (0, -1)
   rfl (by omega) rfl ⟨W8, m11, _, View.le_refl _, w11, wy_start mb.blocks.1, hs11⟩ (fun _ _ => rfl) (fun v k h1 hk _ => by simp; omega) ?_ ?_
  ·rintro ⟨b, frm⟩ n h1 hlt ⟨W, m, P, hW, w, wy, hs⟩ K2 hK2
   simp only at wy
   have hlb := wy.lt
   have hln := mb.blocks.2
   obtain ⟨ux, hux, huxr⟩ := (sb.mono hW).wh rfl (N := 6) rfl hlb
   refine lwp_hide fun y hy => ?_
   simp (disch := omega) [(cG w).2, (sb.mono (View.le_trans hW w.wle)).idxn (N := 6) rfl, hux _ w.wle]
   refine do_newX (X := W) (z := .agg #[.slice none 0 0, .slice none 0 0, .int .i64 0, .slice none 0 0, .slice none 0 0, .int .i32 0]) (by kernel_rfl) rfl (by kernel_rfl) huxr (fun _ => by simp) (fun _ => by simp) fun h2 hle2 hs2 hat2 => ?_
   have w2 := w.ext hle2
   have hat2 := hat2 (grow W h1 h2) (le_grow w.wle) (grow_new (Nat.le_refl _))
   have hW2 := View.le_trans hW (le_grow (h' := h2) w.wle)
   generalize grow W h1 h2 = W2 at w2 hat2 hW2
   generalize h1.size = D at hat2
   have blk := sm.blk b hlb
   obtain ⟨vp, vi, va, vt, bp, bi, bk, ba, bt⟩ := at_blkB hat2
   rw [hy]; clear hy y
   refine lwp_hide fun y hy => ?_
   simp
   have hp0 := blk.phis
   have hi0 := blk.ins
   refine lwp_for [1, 5, 6, 7, 9, 10, 11, 12, 13] (fun (_ : Unit) i => [vw_, .bool true, .pointer (some ⟨G, 0, none⟩), vo, .int .i64 b, .int .i64 frm, .int .i64 n, .pointer (some ⟨D, 0, none⟩), .int .i64 i]) (fun _ i h3 => h3 = h2) (nth f.blocks b).phis.length ()
    rfl (by omega) rfl rfl (fun _ _ => rfl) (fun v k h3 hk e => by subst e; simp [cellH_mono w2.wle bp.1, (bp.2.mono w2.wle).len]) ?_ ?_
   ·rintro _ i h2 hlti rfl K3 hK3
    have hap := bp.2.at hlti
    rw [← nth_eq hlti] at hap
    obtain ⟨vq, hvq⟩ := (hap.part PhiD.p_ins).sl
    have hvq1 : cellH W2 (((slA vp).add (i * 2)).add 1) = some vq := hvq.1
    have hvq2 := hvq.2
    have n2 := w2.now (k := (0, 0)) (v := vo) (l := m) rfl
    have hml : (m.length : Int) = 8192 := by rw [hs.1]; rfl
    have hil := hvq2.bound
    refine lwp_hide fun q hq => ?_
    simp
    rw [hq]; clear hq q
    refine lwp_hide fun q hq => ?_
    simp
    have hacc := cellH_mono w2.wle bp.1
    have hidx := (bp.2.mono w2.wle).idxn (N := 2) rfl (k := .i64) (i := (i : Int)) (by omega) (by omega)
    have hvq1 := cellH_mono w2.wle hvq1
    have hvq2 := hvq2.mono w2.wle
    refine lwp_for [1, 5, 6, 7, 9, 10, 11, 12, 13, 14, 15] (fun (_ : Unit) k => [vw_, .bool true, .pointer (some ⟨G, 0, none⟩), vo, .int .i64 b, .int .i64 frm, .int .i64 n, .pointer (some ⟨D, 0, none⟩), .int .i64 i, .bool (((nth (nth f.blocks b).phis i).ins.take k).any (byWay frm m)), .int .i64 k]) (fun _ k h3 => h3 = h2) (nth (nth f.blocks b).phis i).ins.length ()
     rfl (by omega) rfl rfl (fun _ _ => rfl) (fun v k h3 hk e => by subst e; simp [hacc, hidx, hvq1, hvq2.len]) ?_ ?_
    ·rintro _ k h2 hltk rfl K4 hK4
     have a1 := hvq2.at hltk
     rw [← nth_eq hltk] at a1
     have a2 : cellH (vw h2) (((slA vq).add (k * 2)).add 0) = some (.int .i64 (nth (nth (nth f.blocks b).phis i).ins k).frm) := (a1.part InD.p_frm).int
     have a3 : cellH (vw h2) (((slA vq).add (k * 2)).add 1) = some (.int .i64 (nth (nth (nth f.blocks b).phis i).ins k).val) := (a1.part InD.p_val).int
     have hidk := hvq2.idxn (N := 2) rfl (k := .i64) (i := (k : Int)) (by omega) (by omega)
     have hany : ((nth (nth f.blocks b).phis i).ins.take (k + 1)).any (byWay frm m) = (((nth (nth f.blocks b).phis i).ins.take k).any (byWay frm m) || byWay frm m (nth (nth (nth f.blocks b).phis i).ins k)) := by
      rw [List.take_succ_eq_append_getElem hltk, List.any_append, nth_eq hltk]; simp
     cases hok : ((nth (nth f.blocks b).phis i).ins.take k).any (byWay frm m) with
     | true =>
      simp
      exact hK4 () _ _ rfl (by rw [hany, hok]; rfl) rfl
     | false =>
      by_cases hf : (nth (nth (nth f.blocks b).phis i).ins k).frm = frm
      ·have hv := ((wy.phi mb hlti).2 _ (nth_mem hltk) hf).rng mb
       simp (disch := omega) [hacc, hidx, hvq1, hidk, a2, a3, hf, n2.idx1 rfl, n2.bool (View.le_refl _)]
       exact hK4 () _ _ rfl (by rw [hany, hok, byWay, hf]; simp; rfl) rfl
      ·simp (disch := omega) [hacc, hidx, hvq1, hidk, a2, a3, hf]
       exact hK4 () _ _ rfl (by rw [hany, hok, byWay, decide_eq_false hf]; rfl) rfl
    ·rintro _ h2 rfl
     have hok := by_way mb wy hs hlti
     rw [thenL_normal, hq]; clear hq q
     simp [List.take_length, hok]
     exact hK3 () _ _ rfl rfl rfl
   rintro _ h2 rfl
   rw [thenL_normal, hy]; clear hy y
   refine lwp_hide fun y hy => ?_
   simp
   refine lwp_for [1, 5, 6, 7, 9, 10, 11, 12, 16] (fun (_ : Unit) i => [vw_, .bool true, .pointer (some ⟨G, 0, none⟩), vo, .int .i64 b, .int .i64 frm, .int .i64 n, .pointer (some ⟨D, 0, none⟩), .int .i64 i]) (fun _ i h3 => ∃ m, Owns W2 h3 (yOwn G [.int .i64 f.params, vb] vo m) ∧ Hs m (fun v => Sa f P v ∨ ∃ j : Nat, j < i ∧ v = (nth (nth f.blocks b).phis j).dst)) (nth f.blocks b).phis.length ()
    rfl (by omega) rfl ⟨m, w2, hs.weak fun v hv => hv.elim id fun ⟨j, hj, _⟩ => absurd hj (Nat.not_lt_zero j)⟩ (fun _ _ => rfl) (fun v k h3 hk ⟨m3, w3, _⟩ => by simp [cellH_mono w3.wle bp.1, (bp.2.mono w3.wle).len]) ?_ ?_
   ·rintro _ i h3 hlti ⟨m3, w3, hs3⟩ K3 hK3
    have hap := (bp.2.mono w3.wle).at hlti
    rw [← nth_eq hlti] at hap
    have hdst : cellH (vw h3) (((slA vp).add (i * 2)).add 0) = some (.int .i64 (nth (nth f.blocks b).phis i).dst) := (hap.part PhiD.p_dst).int
    have hd := wy.dst mb hlti
    have n3 := w3.now (k := (0, 0)) (v := vo) (l := m3) rfl
    have hml : (m3.length : Int) = 8192 := by rw [hs3.1]; rfl
    simp (disch := omega) [cellH_mono w3.wle bp.1, (bp.2.mono w3.wle).idxn (N := 2) rfl, hdst, n3.idx1 rfl]
    refine w3.do_put (k := (0, 0)) (α := Bool) (v := vo) (l := m3) (i := (nth (nth f.blocks b).phis i).dst.toNat) (d := true) rfl (by kernel_rfl) (by rw [show Rep.n Bool = 1 from rfl, Nat.mul_one]; rfl) rfl (by omega) (rd_bool.2 rfl) fun h4 w4 _ => ?_
    refine hK3 () _ _ rfl rfl ⟨_, w4.congr yOwn_put, hs_set hs3 hd.1 hd.2 fun v hv => ?_⟩
    rcases hv with hv | ⟨j, hj, rfl⟩
    ·exact .inl (.inl hv)
    ·rcases Nat.lt_or_ge j i with q | q
     ·exact .inl (.inr ⟨j, q, rfl⟩)
     ·rw [show j = i by omega]; exact .inr rfl
   rintro _ h3 ⟨m3, w3, hs3⟩
   have hs3 : Hs m3 (Sb f P b (0 : Nat)) := hs3.weak fun v hv => sb_phis hv
   rw [thenL_normal, hy]; clear hy y
   refine lwp_hide fun y hy => ?_
   simp
   refine lwp_for [1, 5, 6, 7, 9, 10, 11, 12, 17] (fun (_ : Unit) i => [vw_, .bool true, .pointer (some ⟨G, 0, none⟩), vo, .int .i64 b, .int .i64 frm, .int .i64 n, .pointer (some ⟨D, 0, none⟩), .int .i64 i]) (fun _ i h4 => ∃ W m, W2.le W ∧ Owns W h4 (yOwn G [.int .i64 f.params, vb] vo m) ∧ Hs m (Sb f P b (i : Nat))) (nth f.blocks b).ins.length ()
    rfl (by omega) rfl ⟨W2, m3, View.le_refl _, w3, hs3⟩ (fun _ _ => rfl) (fun v k h4 hk ⟨W4, m4, q4, w4, _⟩ => by simp [cellH_mono (View.le_trans q4 w4.wle) bi.1, (bi.2.mono (View.le_trans q4 w4.wle)).len]) ?_ ?_
   ·rintro _ i h4 hlti ⟨W4, m4, hW4, w4, hs4⟩ K3 hK3
    have l4 := View.le_trans hW4 w4.wle
    have hai := bi.2.at hlti
    rw [← nth_eq hlti] at hai
    obtain ⟨vq, hvq⟩ := (hai.part InsD.p_args).sl
    have hvq1 : cellH (vw h4) (((slA vi).add (i * 5)).add 3) = some vq := cellH_mono l4 hvq.1
    have hvq2 := hvq.2.mono l4
    have hacc := cellH_mono l4 bi.1
    have hidx := (bi.2.mono l4).idxn (N := 5) rfl (k := .i64) (i := (i : Int)) (by omega) (by omega)
    have n4 := w4.now (k := (0, 0)) (v := vo) (l := m4) rfl
    have hml : (m4.length : Int) = 8192 := by rw [hs4.1]; rfl
    have hil := hvq2.bound
    refine lwp_hide fun q hq => ?_
    simp
    refine lwp_for [1, 5, 6, 7, 9, 10, 11, 12, 17, 18] (fun (_ : Unit) k => [vw_, .bool true, .pointer (some ⟨G, 0, none⟩), vo, .int .i64 b, .int .i64 frm, .int .i64 n, .pointer (some ⟨D, 0, none⟩), .int .i64 i, .int .i64 k]) (fun _ k h5 => h5 = h4) (nth (nth f.blocks b).ins i).args.length ()
     rfl (by omega) rfl rfl (fun _ _ => rfl) (fun v k h5 hk e => by subst e; simp [hacc, hidx, hvq1, hvq2.len]) ?_ ?_
    ·rintro _ k h4 hltk rfl K4 hK4
     obtain ⟨hv, hv0, hv1⟩ := wy.arg mb hlti (nth_mem hltk)
     have a1 := hvq2.int (View.le_refl _) hltk
     have ht := hs4.2 _ hv0 hv1 hv
     simp (disch := omega) [hacc, hidx, hvq1, hvq2.idx1 rfl, a1, n4.idx1 rfl, n4.bool (View.le_refl _), ht]
     exact hK4 () _ _ rfl rfl rfl
    rintro _ h4 rfl
    rw [thenL_normal, hq]; clear hq q
    obtain ⟨ui, hui, huir⟩ := bi.2.wh rfl (N := 5) rfl hlti
    refine lwp_hide fun q hq => ?_
    simp [hacc, hidx, hui _ l4]
    refine call_to (by kernel_rfl) (refMakes_ok (huir.mono l4)) ?_
    rintro u h5 ⟨hle5, hs5, _⟩
    have hs5 := hs5.mono (fresh_grow W4 h4 h5)
    have w5 := w4.ext hle5
    have hW5 := View.le_trans hW4 (le_grow (h' := h5) w4.wle)
    generalize grow W4 h4 h5 = W5 at hs5 w5 hW5
    have hmk : ∀ k, k < (makesS (nth (nth f.blocks b).ins i)).length → 0 ≤ nth (makesS (nth (nth f.blocks b).ins i)) k ∧ nth (makesS (nth (nth f.blocks b).ins i)) k < 8192 := fun k hk => wy.makes mb hlti (nth_mem hk)
    have hsb : ∀ v, Sb f P b ((i + 1 : Nat) : Int) v → Sb f P b (i : Nat) v ∨ v ∈ makesS (nth (nth f.blocks b).ins i) := fun v hv => sb_ins (by simpa using hv)
    generalize makesS (nth (nth f.blocks b).ins i) = mk at hs5 hmk hsb
    rw [hq]; clear hq q
    refine lwp_hide fun q hq => ?_
    simp
    rw [hq]; clear hq q
    simp
    have hbd := hs5.bound
    refine lwp_for [1, 5, 6, 7, 9, 10, 11, 12, 17, 19, 20] (fun (_ : Unit) k => [vw_, .bool true, .pointer (some ⟨G, 0, none⟩), vo, .int .i64 b, .int .i64 frm, .int .i64 n, .pointer (some ⟨D, 0, none⟩), .int .i64 i, u, .int .i64 k]) (fun _ k h6 => ∃ m, Owns W5 h6 (yOwn G [.int .i64 f.params, vb] vo m) ∧ Hs m (fun v => Sb f P b (i : Nat) v ∨ ∃ j : Nat, j < k ∧ v = nth mk j)) mk.length ()
     rfl (by omega) rfl ⟨m4, w5, hs4.weak fun v hv => hv.elim id fun ⟨j, hj, _⟩ => absurd hj (Nat.not_lt_zero j)⟩ (fun _ _ => rfl) (fun v k h6 hk ⟨m6, w6, _⟩ => by simp [hs5.len]) ?_ ?_
    ·rintro _ k h6 hltk ⟨m6, w6, hs6⟩ K4 hK4
     have hd := hmk k hltk
     have n6 := w6.now (k := (0, 0)) (v := vo) (l := m6) rfl
     have hml : (m6.length : Int) = 8192 := by rw [hs6.1]; rfl
     have s6 := hs5.mono w6.wle
     have a1 := s6.int (View.le_refl _) hltk
     simp (disch := omega) [s6.idx1 rfl, a1, n6.idx1 rfl]
     refine w6.do_put (k := (0, 0)) (α := Bool) (v := vo) (l := m6) (i := (nth mk k).toNat) (d := true) rfl (by kernel_rfl) (by rw [show Rep.n Bool = 1 from rfl, Nat.mul_one]; rfl) rfl (by omega) (rd_bool.2 rfl) fun h7 w7 _ => ?_
     refine hK4 () _ _ rfl rfl ⟨_, w7.congr yOwn_put, hs_set hs6 hd.1 hd.2 fun v hv => ?_⟩
     rcases hv with hv | ⟨j, hj, rfl⟩
     ·exact .inl (.inl hv)
     ·rcases Nat.lt_or_ge j k with q | q
      ·exact .inl (.inr ⟨j, q, rfl⟩)
      ·rw [show j = k by omega]; exact .inr rfl
    rintro _ h6 ⟨m6, w6, hs6⟩
    refine hK3 () _ _ rfl rfl ⟨W5, m6, hW5, w6, hs6.weak fun v hv => ?_⟩
    rcases hsb v hv with q | q
    ·exact .inl q
    ·obtain ⟨j, hj, rfl⟩ := List.getElem_of_mem q
     exact .inr ⟨j, hj, (nth_eq hj).symm⟩
   rintro _ h4 ⟨W4, m4, hW4, w4, hs4⟩
   rw [thenL_normal, hy]; clear hy y
   have l4 := View.le_trans hW4 w4.wle
   have hacc := cellH_mono l4 ba.1
   have ba2 := ba.2.mono l4
   have hat := cellH_mono l4 bt.1
   have bt2 := bt.2.mono l4
   have n4 := w4.now (k := (0, 0)) (v := vo) (l := m4) rfl
   have hml : (m4.length : Int) = 8192 := by rw [hs4.1]; rfl
   have hil := ba2.bound
   refine lwp_hide fun y hy => ?_
   simp
   refine lwp_for [1, 5, 6, 7, 9, 10, 11, 12, 21] (fun (_ : Unit) k => [vw_, .bool true, .pointer (some ⟨G, 0, none⟩), vo, .int .i64 b, .int .i64 frm, .int .i64 n, .pointer (some ⟨D, 0, none⟩), .int .i64 k]) (fun _ k h5 => h5 = h4) (nth f.blocks b).term.args.length ()
    rfl (by omega) rfl rfl (fun _ _ => rfl) (fun v k h5 hk e => by subst e; simp [hacc, ba2.len]) ?_ ?_
   ·rintro _ k h4 hltk rfl K4 hK4
    obtain ⟨hv, hv0, hv1⟩ := wy.term mb (nth_mem hltk)
    have a1 := ba2.int (View.le_refl _) hltk
    have ht := hs4.2 _ hv0 hv1 hv
    simp (disch := omega) [hacc, ba2.idx1 rfl, a1, n4.idx1 rfl, n4.bool (View.le_refl _), ht]
    exact hK4 () _ _ rfl rfl rfl
   rintro _ h4 rfl
   rw [thenL_normal, hy]; clear hy y
   refine lwp_hide fun y hy => ?_
   by_cases hto : (nth f.blocks b).term.to = []
   ·simp [hat, bt2.len, hto]
    exact hK _ _ ⟨rfl, View.le_trans hle08 (View.le_trans hW2 l4)⟩
   simp [hat, bt2.len, hto]
   have hpos : 0 < (nth f.blocks b).term.to.length := Nat.pos_of_ne_zero fun e => hto (List.length_eq_zero_iff.1 e)
   have hlw : SlRd (vw h4) vw_ ways := hw.mono (View.le_trans hle08 (View.le_trans hW2 l4))
   have hwb := hlw.bound
   have htb := bt2.bound
   rw [hy]; clear hy y
   refine lwp_hide fun y hy => ?_
   simp
   rw [hy]; clear hy y
   refine lwp_hide fun y hy => ?_
   refine lwp_cut (fun ρ h5 => h5 = h4 ∧ ∃ w : Nat, w < 65536 ∧ ρ = [(1, vw_), (5, .bool true), (6, .pointer (some ⟨G, 0, none⟩)), (7, vo), (9, .int .i64 b), (10, .int .i64 frm), (11, .int .i64 n), (12, .pointer (some ⟨D, 0, none⟩)), (21, .int .i64 ((nth f.blocks b).term.args.length : Nat)), (22, .int .i64 w)]) ?_ ?_
   ·intro K3 hK3
    by_cases hc : n < ways.length
    ·obtain ⟨r, e1, b1⟩ := and16 (x := nth ways n)
     simp (disch := omega) [hlw.len, hc, hlw.idx1 rfl, hlw.int (View.le_refl _) hc, e1]
     exact hK3 _ _ ⟨rfl, r, b1, rfl⟩
    ·simp [hlw.len, hc]
     exact hK3 _ _ ⟨rfl, n, by omega, rfl⟩
   rintro _ h4 ⟨rfl, w0, hw0, rfl⟩
   rw [hy]; clear hy y
   refine lwp_hide fun y hy => ?_
   simp
   rw [hy]; clear hy y
   have hm1 : (w0 : Int).tmod ((nth f.blocks b).term.to.length : Nat) = ((w0 % (nth f.blocks b).term.to.length : Nat) : Int) := rfl
   have hm2 : w0 % (nth f.blocks b).term.to.length < (nth f.blocks b).term.to.length := Nat.mod_lt _ hpos
   have hne : ¬ ((nth f.blocks b).term.to.length : Int) = 0 := by omega
   refine drawn_at (vw h4) (View.le_refl _) ?_
   have hm3 : ((w0 : Int) % ((nth f.blocks b).term.to.length : Nat)).toNat = w0 % (nth f.blocks b).term.to.length := rfl
   obtain ⟨g1, g2, g3⟩ := wy.go mb (nth_mem hm2)
   have a9 := bt2.int (View.le_refl _) hm2
   generalize nth (nth f.blocks b).term.to (w0 % (nth f.blocks b).term.to.length) = c at g1 g2 g3 a9
   obtain ⟨cn, rfl⟩ : ∃ cn : Nat, c = cn := ⟨c.toNat, by omega⟩
   rw [Int.toNat_natCast] at g3
   simp (disch := omega) [hat, bt2.len, hne, hm1, bt2.idx1 rfl, hm3, a9]
   exact hK2 (cn, (b : Int)) _ _ rfl rfl ⟨W4, m4, _, View.le_trans hW2 hW4, w4, g3, hs4.weak fun v hv => sa_block hv⟩
  ·rintro ⟨b, frm⟩ h1 ⟨W, m, P, hW, w, wy, hs⟩
   rw [thenL_normal, hz]; clear hz z
   simp
   exact hK _ _ ⟨rfl, View.le_trans hle08 (View.le_trans hW w.wle)⟩
 refine drawn_at W2 w5.wle ?_
 simp [cl, haq1 _ (View.le_refl _)]
 refine ⟨?_, ?_⟩
 ·refine call_to (by kernel_rfl) (lawMade_ok w5 (fun k hk => gOwn_low hk) sl) ?_
  rintro u h6 ⟨W6, hW6, w6, hr6⟩
  have tf6 := make_tf (s := x.a.take 200)
  generalize makeS (x.a.take 200) = f6 at hr6 tf6
  refine ⟨View.le_trans hW6 w6.wle, ?_, ?_⟩
  ·refine call_to (by kernel_rfl) (turned_ok w6 (fun k hk => gOwn_low (by omega)) hr6 tf6 (by omega) i0 i1 i2) ?_
   rintro u7 h7 ⟨W7, g, hW7, w7, tf7, hr7⟩
   obtain ⟨vb7, rfl, ip7, sb7⟩ := func_val hr7
   refine w7.do_var (k := (11, 1)) (n := 1) (l := [.int .i64 g.params, vb7]) rfl (z := .agg #[.int .i64 0, .slice none 0 0]) (by kernel_rfl) rfl (by kernel_rfl) rfl (by decide) (two_cells sb7.cells.2) (fun _ => by simp) (fun _ => by simp) fun h8 q8 w8 => ?_
   exact fin _ W7 _ vb7 g _ (View.le_trans hW6 hW7) (w8.congr fun k => gOwn_two) hr7 tf7
  ·refine w6.do_zero (k := (11, 1)) (n := 1) (z := .agg #[.int .i64 0, .slice none 0 0]) rfl (by kernel_rfl) rfl (by decide) (by simp [Value.cells, Value.oneCell']) fun h7 q7 w7 => ?_
   refine ⟨View.le_trans hW6 w7.wle, ?_⟩
   refine call_to (by kernel_rfl) (turned_ok w7 (fun k hk => (Own.upd_ne (by rintro rfl; simp at hk)).trans (gOwn_low (by omega))) hr6 tf6 (by omega) i0 i1 i2) ?_
   rintro u8 h8 ⟨W8, g, hW8, w8, tf8, hr8⟩
   obtain ⟨vb8, rfl, ip8, sb8⟩ := func_val hr8
   refine w8.do_field (k := (11, 1)) (α := RawN 1) (β := RawN 1) Part.all (D := RawN.mk (n := 1) [.int .i64 0, .slice none 0 0]) (d := RawN.mk (n := 1) [.int .i64 g.params, vb8]) Own.upd_self (by kernel_rfl) rfl rfl (rd_rawN rfl (two_cells sb8.cells.2)) fun h9 w9 _ => ?_
   exact fin _ W8 _ vb8 g _ (View.le_trans hW6 hW8) (w9.congr fun k => by rw [gOwn_two (g := none), upd_upd]) hr8 tf8
 ·refine w5.do_zero (k := (11, 1)) (n := 1) (z := .agg #[.int .i64 0, .slice none 0 0]) rfl (by kernel_rfl) rfl (by decide) (by simp [Value.cells, Value.oneCell']) fun h6 q6 w6 => ?_
  refine ⟨w6.wle, ?_⟩
  refine call_to (by kernel_rfl) (lawMade_ok w6 (fun k hk => (Own.upd_ne (by rintro rfl; simp at hk)).trans (gOwn_low hk)) sl) ?_
  rintro u h7 ⟨W7, hW7, w7, hr7⟩
  have tf7 := make_tf (s := x.a.take 200)
  generalize makeS (x.a.take 200) = f7 at hr7 tf7
  refine ⟨View.le_trans hW7 w7.wle, ?_⟩
  refine call_to (by kernel_rfl) (turned_ok w7 (fun k hk => (Own.upd_ne (by rintro rfl; simp at hk)).trans (gOwn_low (by omega))) hr7 tf7 (by omega) i0 i1 i2) ?_
  rintro u8 h8 ⟨W8, g, hW8, w8, tf8, hr8⟩
  obtain ⟨vb8, rfl, ip8, sb8⟩ := func_val hr8
  refine w8.do_field (k := (11, 1)) (α := RawN 1) (β := RawN 1) Part.all (D := RawN.mk (n := 1) [.int .i64 0, .slice none 0 0]) (d := RawN.mk (n := 1) [.int .i64 g.params, vb8]) Own.upd_self (by kernel_rfl) rfl rfl (rd_rawN rfl (two_cells sb8.cells.2)) fun h9 w9 _ => ?_
  exact fin _ W8 _ vb8 g _ (View.le_trans hW7 hW8) (w9.congr fun k => by rw [gOwn_two (g := none), upd_upd]) hr8 tf8
end Go.Proofs.Ytfelpjfopgiabaa
/- For every input CheckWays returns true: whatever way control takes through a function that may be, each operand was made, or is a parameter, ahead of where it is taken. No condition. -/
namespace Go.Proofs.Ytfelpjfopgiabaa
open Go Go.Lft Go.ChangeShapes Go.WideShapes Go.ChangeAt Go.RowKit
theorem rt_tri {P : Program} {t e : TypeId} (ht : P.underlying t = some (.array 3 e)) (he : P.underlying e = some (.int .i64)) (hc : P.cellsOf e = 1) (hc2 : P.cellsOf t = 3) : RT P t Q3 where
 cells := fun {H enc W spare held fuel cs d ps} h _ => by
  obtain ⟨xs, m, _, _, hl, hxl, hget⟩ := DataW.trod_array ht h
  rw [hc2] at hl
  match cs, hl with
  | [u, v, w], _ =>
   have h0 := hget 0 (by omega)
   have h1 := hget 1 (by omega)
   have h2 := hget 2 (by omega)
   rw [hc, List.getElem?_eq_getElem (by omega)] at h0 h1 h2
   obtain ⟨a, e1, w1⟩ := trod_int he h0
   obtain ⟨b, e2, w2⟩ := trod_int he h1
   obtain ⟨c, e3, w3⟩ := trod_int he h2
   simp at e1 e2 e3
   subst e1; subst e2; subst e3
   exact ⟨⟨a, b, c⟩, [.int .i64 a], [.int .i64 b, .int .i64 c], rfl, ⟨rfl, wf_i64 w1⟩, [.int .i64 b], [.int .i64 c], rfl, ⟨rfl, wf_i64 w2⟩, rfl, wf_i64 w3⟩
 val := fun {W r base v} h => by
  simp only [Value.okWide, ht] at h
  obtain ⟨cs, rfl, _⟩ := h
  exact ⟨cs, rfl⟩
theorem rtQ : RT Try.prog T.a3_int Q3 := rt_tri (e := T.int) (by kernel_rfl) (by kernel_rfl) (by kernel_rfl) (by kernel_rfl)
theorem rtNum : RT Try.prog T.jacquardlaw03_Numbers NumD := rt_struct (f := fun c : NumD => c) (fun c => c) (fun _ => rfl) (l := [(0, T.s_int), (1, T.a3_int)]) (by kernel_rfl) (by kernel_rfl) rfl (FRd.cons rtIs (by kernel_rfl) (FRd.one rtQ (by kernel_rfl)))
theorem Try.paramsWays : Try.f7.params = #[T.jacquardlaw03_Numbers, T.s_int] := by kernel_rfl
theorem ways_lifted (os : Os) (started : os.Started) (H : Type) (enc : TypeId × Value → H) :
  ReturnsInHanded {} Try.checked os 7 .any (Rows.checkWaysSpec.pre6 enc Try.prog Try.f7 Rows.checkWaysRow.domain false) (Rows.checkWaysSpec.post enc Try.prog Try.f7 false true false false) :=
 law2 (C := Try.checked) Try.own started (by kernel_rfl) Try.func7 rfl
  (ChangeSpec.witness6 (enc := enc) (C := Try.checked) false ⟨#[], #[.agg #[.slice none 0 0, .int .i64 0, .int .i64 0, .int .i64 0], .slice none 0 0], []⟩ 8 (by kernel_rfl) (by kernel_rfl) (by kernel_rfl) (by kernel_rfl))
  Try.laidOut (fun t ht => by
   rw [Try.paramsWays] at ht
   simp only [List.mem_cons, List.not_mem_nil, or_false] at ht
   rcases ht with rfl | rfl <;> exact ⟨by kernel_rfl, of_decide_eq_true (by kernel_rfl)⟩) rfl
  (fun ds hds => by
   match ds, hds with
   | [d, e], _ => rfl) rfl (tb := 4) (by kernel_rfl) Try.paramsWays rtNum rtIs fun h v1 x1 v2 x2 h1 h2 => checkWays_ok h1 (rd_list.1 h2)
theorem ways_holds : Rows.CheckWaysSaid :=
 OpenClaim.holds_of_wide 7 Try.f7 rfl rfl rfl rfl rfl rfl rfl ⟨rfl, rfl, rfl, rfl, rfl⟩ rfl rfl rfl rfl rfl (by kernel_rfl) Try.func7 (by kernel_rfl)
  (of_decide_eq_true (by kernel_rfl)) (by unfold Func.isWrapper; first | (rw [if_pos (by decide +kernel)]; kernel_rfl) | (rw [if_neg (by decide +kernel)]; exact ⟨rfl, rfl⟩))
  (fun os started H enc _ => ways_lifted os started H enc)
end Go.Proofs.Ytfelpjfopgiabaa
