/- For every input CheckReach returns true: a block that no term names is told, and with an edge to it the function may be again. No condition. -/
import Derived.Test.YtfelpjfopgiabaaZReach5
import Derived.Test.YtfelpjfopgiabaaRows
set_option linter.unusedSimpArgs false
set_option linter.unusedVariables false
namespace Go.Proofs.Ytfelpjfopgiabaa
open Go Go.Lft
def Pc (lp : List Int) (m : MS) : Prop := ∀ j, ((nth m.blocks j).phis.length : Int) = nth lp j
theorem Pc.grw {lp : List Int} {m m' : MS} {b k : Nat} (p : Pc lp m) (g : Grw b k m m') : Pc lp m' := fun j => by
 by_cases e : j = b
 ·subst e; rw [g.phis]; exact p j
 ·rw [g.els j e]; exact p j
theorem Pc.setBlk {lp : List Int} {m : MS} {b : Nat} {x : BlkD} (p : Pc lp m) (hx : x.phis.length = (nth m.blocks b).phis.length) : Pc lp { m with blocks := m.blocks.set b x } := fun j => by
 show ((nth (m.blocks.set b x) j).phis.length : Int) = _
 rcases Nat.lt_or_ge j m.blocks.length with hl | hl
 ·rw [nth_set hl]
  split
  ·rename_i e; subst e; rw [hx]; exact p b
  ·exact p j
 ·rw [nth_ge (by simpa using hl)]
  have := p j
  rwa [nth_ge hl] at this
theorem Pc.doBlock {s : List Int} {to : List (List Int)} {n b : Nat} {dn : BL} {away : List BL} {lp : List Int} {m : MS} (p : Pc lp m) (hb : b < m.blocks.length) : Pc lp (doBlock s to n dn away b m) := by
 have p1 : Pc lp (MS.took { m with live := liveS m dn away b n }) := p
 have hb1 : b < (MS.took { m with live := liveS m dn away b n }).blocks.length := hb
 have g := ((Grw.refl (b := b) (m := MS.took { m with live := liveS m dn away b n })).instructions (s := s) hb1 (takeV s m.at_ 7).toNat).term' (s := s) (to := nth to b) hb1
 exact (p1.grw g).setBlk rfl
theorem Pc.blkStep {s : List Int} {to : List (List Int)} {n b : Nat} {lp : List Int} {x : BL × MS} (p : Pc lp x.2) (hb : b < x.2.blocks.length) : Pc lp (blkStep s to n b x).2 := by
 unfold Go.Proofs.Ytfelpjfopgiabaa.blkStep
 split
 ·exact p.doBlock hb
 ·exact p
theorem Pc.rowS {s : List Int} {b : Nat} {lp : List Int} {m : MS} (p : Pc lp m) (hb : b < m.blocks.length) : Pc lp (rowS s b m).2 := by
 unfold Go.Proofs.Ytfelpjfopgiabaa.rowS
 split
 ·have p1 : Pc lp m.took.took := p
  exact p1.grw ((Grw.refl (b := b) (m := m.took.took)).constant hb)
 ·exact p
theorem rowS_blen {s : List Int} {b : Nat} {m : MS} : (rowS s b m).2.blocks.length = m.blocks.length := by
 unfold rowS
 split
 ·exact constant_len
 ·rfl
theorem Pc.up_inStep {s : List Int} {pl : List Int} {lp : List Int} {x : List InD × MS} (p : Pc lp x.2) (hb : ∀ k, k < pl.length → (nth pl k).toNat < x.2.blocks.length) : ∀ k, k ≤ pl.length → Pc lp (up (inStep s pl) k x).2 ∧ (up (inStep s pl) k x).2.blocks.length = x.2.blocks.length
 | 0, _ => ⟨p, rfl⟩
 | k + 1, h => by
  obtain ⟨h1, h2⟩ := Pc.up_inStep (s := s) p hb k (by omega)
  have e : (up (inStep s pl) (k + 1) x).2 = (Go.Proofs.Ytfelpjfopgiabaa.rowS s (nth pl k).toNat (up (inStep s pl) k x).2).2.took := rfl
  rw [e]
  exact ⟨h1.rowS (by rw [h2]; exact hb k (by omega)), (took_len).trans (rowS_blen.trans h2)⟩
theorem Pc.phi3 {s : List Int} {b j : Nat} {pl : List Int} {lp : List Int} {m : MS} (p : Pc lp m) (hb : ∀ k, k < pl.length → (nth pl k).toNat < m.blocks.length) : Pc lp (phi3 s b pl j m) ∧ (phi3 s b pl j m).blocks.length = m.blocks.length := by
 obtain ⟨h1, h2⟩ := Pc.up_inStep (s := s) (pl := pl) (x := ([], m)) p hb pl.length (Nat.le_refl _)
 exact ⟨h1.setBlk (by simp), by show (List.set _ _ _).length = _; rw [List.length_set]; exact h2⟩
theorem Pc.up_phi3 {s : List Int} {b : Nat} {pl : List Int} {lp : List Int} {m : MS} (p : Pc lp m) (hb : ∀ k, k < pl.length → (nth pl k).toNat < m.blocks.length) : ∀ k, Pc lp (up (Go.Proofs.Ytfelpjfopgiabaa.phi3 s b pl) k m) ∧ (up (Go.Proofs.Ytfelpjfopgiabaa.phi3 s b pl) k m).blocks.length = m.blocks.length
 | 0 => ⟨p, rfl⟩
 | k + 1 => by
  obtain ⟨h1, h2⟩ := Pc.up_phi3 (s := s) (b := b) p hb k
  obtain ⟨h3, h4⟩ := Pc.phi3 (s := s) (b := b) (j := k) h1 (fun k hk => by rw [h2]; exact hb k hk)
  exact ⟨h3, h4.trans h2⟩
theorem sift_mem {p : Nat → Bool} : ∀ (n : Nat) (v : Int), v ∈ sift p (fun a => (a : Int)) n → ∃ c : Nat, v = c ∧ c < n
 | 0, v, h => by cases h
 | n + 1, v, h => by
  cases hp : p n with
  | true =>
   rw [sift_true hp] at h
   rcases List.mem_append.1 h with h | h
   ·obtain ⟨c, h1, h2⟩ := sift_mem n v h; exact ⟨c, h1, by omega⟩
   ·rw [List.mem_singleton] at h; exact ⟨n, h, by omega⟩
  | false =>
   rw [sift_false hp] at h
   obtain ⟨c, h1, h2⟩ := sift_mem n v h; exact ⟨c, h1, by omega⟩
theorem sift_rng {p : Nat → Bool} (n k : Nat) (hk : k < (sift p (fun a => (a : Int)) n).length) : ∃ c : Nat, nth (sift p (fun a => (a : Int)) n) k = c ∧ c < n := sift_mem n _ (nth_mem hk)
section
variable {s : List Int} {M : Nat} {vs : Value} {W0 : View} {h : Heap} {o0 : Own} {m : MS}
theorem Nx.extRd {α : Type} [r : Rep α] (x : Nx s M vs W0 h o0 m) {h' : Heap} {u : Value} {l : List α} (hle : (vw h).le (vw h')) (hs : SlRd (fresh h h') u l) : ∃ W', W0.le W' ∧ Nx s M vs W' h' o0 m ∧ SlRd W' u l := by
 obtain ⟨W, o, g, w, f⟩ := x
 have hW := le_grow (h' := h') w.own.wle
 exact ⟨_, View.le_trans g hW, ⟨_, o, View.le_refl _, ⟨w.own.ext hle, w.src.mono hW, w.box⟩, f⟩, hs.mono (fresh_grow W h h')⟩
theorem Mk.do_in {po : OP} {W : View} {o : Own} (w : Mk s M vs W h o m) {vb vl : Value} {lb : List BlkM} (bb : MkB M vs m o vb vl lb) {b i : Nat} {l : List InD} {v : Value} {ty ty2 : TypeId} {us : List (Nat × Value)} {x y : Operand} {K : Value → Heap → Prop} (hb : b < m.blocks.length) (hi : i < (nth m.blocks b).phis.length) (hsz : sizeB Try.prog ty2 = some 1) (hx : asg us x = .pointer (some (((slA (nth lb b).phis.v).add (i * 2)).add 1))) (hy : asg us y = v) (hr : SlRd W v l)
  (hK : ∀ h' o', Mk s M vs W h' o' (m.setIn b i l) → (∀ k : Key, 3 ≤ k.1 → o' k = o k) → K undef h') : @Lft.step po Try.prog (.store ty2 x y) ty us h K := by
 have hbl : b < lb.length := by rw [bb.len]; exact hb
 refine w.own.do_part (k := (1, b)) (α := PhiD) PhiD.p_ins (v := (nth lb b).phis.v) (l := (nth m.blocks b).phis) (i := i) (d := l) (bb.phis b hb) hsz hx hy hi (rd_list.2 hr) fun h7 w7 _ => ?_
 have hs : lb.set b (nth lb b) = lb := by rw [nth_eq hbl]; exact List.set_getElem_self hbl
 have b7 := bb.setBlk hb (x' := { nth m.blocks b with phis := (nth m.blocks b).phis.set i { nth (nth m.blocks b).phis i with ins := l } }) (y' := nth lb b) (o' := o.upd (1, b) (it T.api_Phi (nth lb b).phis.v ((nth m.blocks b).phis.set i { (nth m.blocks b).phis[i] with ins := l }))) (bb.term b hb) (by rw [hs, Own.upd_ne (by simp)]; exact bb.blk) (by rw [Own.upd_self, nth_eq hi]) (by rw [Own.upd_ne (by simp)]; exact bb.ins b hb) (fun q h1 h2 h3 => Own.upd_ne h2)
 rw [hs] at b7
 exact hK h7 _ ⟨w7, w.src, vb, vl, lb, b7⟩ fun k hk => Own.upd_ne (by rintro rfl; simp at hk)
end
end Go.Proofs.Ytfelpjfopgiabaa
namespace Go.Proofs.Ytfelpjfopgiabaa
open Go Go.Lft
section
variable {s : List Int} {M : Nat} {vs : Value} {W0 : View} {h : Heap} {o0 : Own} {m : MS}
theorem made_l14 {n a p i b cnt : Nat} {vr vt vp vd vq : Value} {pl lp : List Int} (x : Nx s M vs W0 h o0 m) (h5 : o0 (5, 0) = it T.int vp lp) (f71 : o0 (7, 1) = none) (f72 : o0 (7, 2) = none) (q : P3 n a p i m) (pc : Pc lp m) (hlp : lp.length = n) (hb : b < n) (hcnt : nth lp b = cnt) (hc3 : cnt ≤ 3) (hn : n ≤ 10) (ha : a ≤ 400000) (hia : i ≤ a) (hp : p ≤ 100) (hi : i ≤ 1900) (hq : SlRd W0 vq pl) (hpl : pl.length ≤ 9) (hpr : ∀ k, k < pl.length → ∃ c : Nat, nth pl k = c ∧ c < n) {Q : Post} {ρ : Env}
  (h0 : keepE [2, 3, 4, 5, 7, 11, 25, 26, 27] ρ = [(2, vr), (3, .pointer (some ⟨M, 0, none⟩)), (4, .int .i64 n), (5, vt), (7, vp), (11, vd), (25, .int .i64 b), (26, vq), (27, .int .i64 0)])
  (hQ : ∀ h' : Heap, Nx s M vs W0 h' o0 (up (phi3 s b pl) cnt m) → Q .normal [(2, vr), (3, .pointer (some ⟨M, 0, none⟩)), (4, .int .i64 n), (5, vt), (7, vp), (11, vd), (25, .int .i64 b), (26, vq), (27, .int .i64 cnt)] h') :
  LC.wp Try.prog (.block 26 (.loop L.ref03_Made.l14)) Q ρ h := by
 simp only [lwp_block]
 refine lwp_for [2, 3, 4, 5, 7, 11, 25, 26, 27] (fun (_ : Unit) k => [vr, .pointer (some ⟨M, 0, none⟩), .int .i64 n, vt, vp, vd, .int .i64 b, vq, .int .i64 k]) (fun _ k h2 => Nx s M vs W0 h2 o0 (up (phi3 s b pl) k m)) cnt ()
  rfl (by omega) h0 x (fun _ _ => rfl) (fun v k h2 hk2 x2 => by
   have sp := x2.z.at (by decide) h5
   have e := sp.int (View.le_refl _) (i := b) (by omega)
   rw [hcnt] at e
   simp (disch := omega) [sp.idx1 rfl, e]) ?_ ?_
 ·rintro _ k h2 hlt x2 K2 hK2
  have hpn : ∀ j, j < pl.length → (nth pl j).toNat < m.blocks.length := fun j hj => by
   obtain ⟨c, h1, h2⟩ := hpr j hj
   rw [h1, q.z.len]; simpa using h2
  have q2 := (up_phi3 (s := s) (b := b) q hpl k).mono (a' := a + 200) (p' := p) (i' := i + 30) (by omega) (Nat.le_refl _) (by omega)
  obtain ⟨pc2, hlen2⟩ := Pc.up_phi3 (s := s) (b := b) pc hpn k
  have e2 : up (phi3 s b pl) (k + 1) m = phi3 s b pl k (up (phi3 s b pl) k m) := rfl
  rw [e2] at hK2
  generalize up (phi3 s b pl) k m = m2 at x2 hK2 q2 pc2 hlen2
  have hpn2 : ∀ j, j < pl.length → (nth pl j).toNat < m2.blocks.length := fun j hj => by rw [hlen2]; exact hpn j hj
  obtain ⟨pc3, hlen3⟩ := Pc.up_inStep (s := s) (pl := pl) (x := ([], m2)) pc2 hpn2 pl.length (Nat.le_refl _)
  simp only [lwp_block]
  refine lwp_hide fun y hy => ?_
  simp
  refine x2.do_empty (k := (7, 2)) (α := InD) (by decide) f72 El.s_api_In fun vi h3 hvi x3 => ?_
  rw [hy]; clear hy y
  refine lwp_hide fun y hy => ?_
  refine lwp_hide fun w hw => ?_
  simp
  rw [hw]; clear hw w
  refine made_l15 (vr := vr) (vt := vt) (vp := vp) (vd := vd) (vq := vq) (vi := vi) (b := b) (j := k) x3 f71 q2 hn (by omega) (by omega) hp (by omega) hq hpl hpr (by simp [keepE, look_setE, look_kill]) fun h4 vi x4 => ?_
  obtain ⟨W4, hW4, x4, s4⟩ := x4.freeze (by decide) f72
  have e3 : phi3 s b pl k m2 = (up (inStep s pl) pl.length ([], m2)).2.setIn b k (up (inStep s pl) pl.length ([], m2)).1 := rfl
  rw [e3] at hK2
  have hb4 : b < (up (inStep s pl) pl.length ([], m2)).2.blocks.length := by rw [hlen3]; show b < m2.blocks.length; rw [hlen2, q.z.len]; exact hb
  have hph : ((nth (up (inStep s pl) pl.length ([], m2)).2.blocks b).phis.length : Int) = cnt := (pc3 b).trans hcnt
  generalize up (inStep s pl) pl.length ([], m2) = r at x4 hK2 s4 hb4 hph
  obtain ⟨W, o, g, w, f⟩ := x4
  obtain ⟨vb, vl, lb, bb⟩ := w.box
  have rd := w.reads bb
  have hbb : b < lb.length := by rw [bb.len]; exact hb4
  have sb := w.own.now bb.blk
  have sbb := sb.bound
  have c1 : cellH (vw h4) (((slA vb).add (b * 6)).add 0) = some (nth lb b).phis.v := by
   have := ((sb.at hbb).part BlkM.p_phis).raw
   rw [nth_eq hbb]; exact this
  have sph := w.own.now (bb.phis b hb4)
  simp
  rw [hy]; clear hy y
  have r5 : Bn.ev (.idx 2) (nth lb b).phis.v (.int .i64 k) = some (.pointer (some ((slA (nth lb b).phis.v).add (k * 2)))) := by
   have := sph.idxn (N := 2) rfl (k := .i64) (i := k) (by omega) (by omega); simpa using this
  simp (disch := omega) [rd.cb, sb.idxn (N := 6) rfl, c1, r5]
  refine w.do_in bb (b := b) (i := k) (l := r.1) hb4 (by omega) (by kernel_rfl) rfl rfl (s4.mono g) fun h5 o5 w5 f5 => ?_
  refine hK2 () _ _ rfl rfl ?_
  exact ⟨W, o5, View.le_trans hW4 g, w5, fun q hq => (f5 q hq).trans (f q hq)⟩
 ·rintro _ h2 x2
  exact hQ h2 x2
theorem blk3_ok {n a p i k : Nat} {lp : List Int} {m : MS} (q : P3 n a p i m) (pc : Pc lp m) (hr : ∀ j, nth lp j ≤ 3) (hn : n ≤ 9) : P3 n (a + 162) p (i + 27) (blk3 s lp k m) ∧ Pc lp (blk3 s lp k m) := by
 have hpl : (refPredsS m.f ((k + 1 : Nat) : Int)).length ≤ n := by
  have := sift_len (p := fun a => decide (((k + 1 : Nat) : Int) ∈ (nth m.f.blocks a).term.to)) (x := fun a => (a : Int)) m.f.blocks.length
  rw [show m.f.blocks.length = n from q.z.len] at this
  unfold refPredsS
  rw [show m.f.blocks.length = n from q.z.len]
  exact this
 have hpn : ∀ j, j < (refPredsS m.f ((k + 1 : Nat) : Int)).length → (nth (refPredsS m.f ((k + 1 : Nat) : Int)) j).toNat < m.blocks.length := fun j hj => by
  obtain ⟨c, h1, h2⟩ := sift_rng _ j hj
  have h1 : nth (refPredsS m.f ((k + 1 : Nat) : Int)) j = c := h1
  rw [h1]; have h2 : c < m.blocks.length := h2; simpa using h2
 have h3 := hr (k + 1)
 unfold blk3
 exact ⟨(up_phi3 q (by omega) _).mono (by omega) (Nat.le_refl _) (by omega), (Pc.up_phi3 pc hpn _).1⟩
theorem up_blk3 {n a p i : Nat} {lp : List Int} {m : MS} (q : P3 n a p i m) (pc : Pc lp m) (hr : ∀ j, nth lp j ≤ 3) (hn : n ≤ 9) : ∀ k, P3 n (a + 162 * k) p (i + 27 * k) (up (blk3 s lp) k m) ∧ Pc lp (up (blk3 s lp) k m)
 | 0 => ⟨q, pc⟩
 | k + 1 => by
  obtain ⟨h1, h2⟩ := up_blk3 q pc hr hn k
  obtain ⟨h3, h4⟩ := blk3_ok (s := s) (k := k) h1 h2 hr hn
  exact ⟨h3.mono (by omega) (Nat.le_refl _) (by omega), h4⟩
theorem made_l13 {n a p i : Nat} {vr vt vp vd : Value} {lp : List Int} (x : Nx s M vs W0 h o0 m) (h5 : o0 (5, 0) = it T.int vp lp) (f71 : o0 (7, 1) = none) (f72 : o0 (7, 2) = none) (q : P3 n a p i m) (pc : Pc lp m) (hlp : lp.length = n) (hr : ∀ j, 0 ≤ nth lp j ∧ nth lp j ≤ 3) (hn1 : 1 ≤ n) (hn : n ≤ 9) (ha : a ≤ 300000) (hia : i ≤ a) (hp : p ≤ 100) (hi : i ≤ 1000) {Q : Post} {ρ : Env}
  (h0 : keepE [2, 3, 4, 5, 7, 11, 25] ρ = [(2, vr), (3, .pointer (some ⟨M, 0, none⟩)), (4, .int .i64 n), (5, vt), (7, vp), (11, vd), (25, .int .i64 1)])
  (hQ : ∀ h' : Heap, Nx s M vs W0 h' o0 (up (blk3 s lp) (n - 1) m) → Q .normal [(2, vr), (3, .pointer (some ⟨M, 0, none⟩)), (4, .int .i64 n), (5, vt), (7, vp), (11, vd), (25, .int .i64 n)] h') :
  LC.wp Try.prog (.block 24 (.loop L.ref03_Made.l13)) Q ρ h := by
 simp only [lwp_block]
 refine lwp_forG [2, 3, 4, 5, 7, 11, 25] (fun (_ : Unit) k => [vr, .pointer (some ⟨M, 0, none⟩), .int .i64 n, vt, vp, vd, .int .i64 ((k + 1 : Nat) : Int)]) (fun _ k h2 => Nx s M vs W0 h2 o0 (up (blk3 s lp) k m)) (n - 1) 1 ()
  rfl (by omega) h0 x (fun _ _ => rfl) (fun v k h2 hk2 m => by simp; omega) ?_ ?_
 ·rintro _ k h2 hlt x2 K2 hK2
  obtain ⟨q2, pc2⟩ := up_blk3 (s := s) q pc (fun j => (hr j).2) hn k
  have e2 : up (blk3 s lp) (k + 1) m = blk3 s lp k (up (blk3 s lp) k m) := rfl
  rw [e2] at hK2
  generalize up (blk3 s lp) k m = m2 at x2 hK2 q2 pc2
  have hb2 : blk3 s lp k m2 = _ := blk3.eq_1 s lp k m2
  rw [hb2] at hK2
  simp only [lwp_block]
  refine lwp_hide fun y hy => ?_
  obtain ⟨vb, vl, rd⟩ := x2.z.reads
  simp [rd.f]
  refine call_to (by kernel_rfl) (refPreds_ok (b := ((k + 1 : Nat) : Int)) (rd.rd (i64ps q2.z)) (by show m2.blocks.length ≤ _; rw [q2.z.len]; omega)) ?_
  rintro vq h3 ⟨hle3, hq⟩
  obtain ⟨W3, hW3, x3, sq⟩ := x2.extRd hle3 hq
  clear rd hq
  have hpl : (refPredsS m2.f ((k + 1 : Nat) : Int)).length ≤ n := by
   have := sift_len (p := fun a => decide (((k + 1 : Nat) : Int) ∈ (nth m2.f.blocks a).term.to)) (x := fun a => (a : Int)) m2.f.blocks.length
   unfold refPredsS
   rw [show m2.f.blocks.length = n from q2.z.len] at this ⊢
   exact this
  have hpr : ∀ j, j < (refPredsS m2.f ((k + 1 : Nat) : Int)).length → ∃ c : Nat, nth (refPredsS m2.f ((k + 1 : Nat) : Int)) j = c ∧ c < n := fun j hj => by
   obtain ⟨c, h1, h2⟩ := sift_rng _ j hj
   exact ⟨c, h1, by rw [show m2.f.blocks.length = n from q2.z.len] at h2; exact h2⟩
  generalize refPredsS m2.f ((k + 1 : Nat) : Int) = pl at sq hpl hpr hK2
  obtain ⟨r0, r1⟩ := hr (k + 1)
  rw [hy]; clear hy y
  refine lwp_hide fun y hy => ?_
  simp
  rw [hy]; clear hy y
  refine made_l14 (vr := vr) (vt := vt) (vp := vp) (vd := vd) (vq := vq) (b := k + 1) (cnt := (nth lp (k + 1)).toNat) x3 h5 f71 f72 q2 pc2 hlp (by omega) (by omega) (by omega) (by omega) (by omega) (by omega) hp (by omega) sq (by omega) hpr (by simp [keepE, look_setE, look_kill]) fun h4 x4 => ?_
  simp
  refine hK2 () _ _ rfl rfl (x4.up hW3)
 ·rintro _ h2 x2
  have e : n - 1 + 1 = n := by omega
  have := hQ h2 x2
  simpa [e] using this
theorem up_blkStep {n a p : Nat} {to : List (List Int)} {x0 : BL × MS} (q : B2 n a p x0) (hn : n ≤ 10) (hp : p ≤ 100) (ha : 16000 ≤ a) : ∀ j, j ≤ n → B2 n (a + 600 * j) p (up (blkStep s to n) j x0) := by
 intro j
 induction j with
 | zero => intro _; exact q
 | succ j ih =>
  intro hj
  have := blkStep_ok (s := s) (to := to) (b := j) (ih (by omega)) (by omega) hn hp (by omega) fun h => ready_not h
  exact ⟨this.z.mono (by omega) (Nat.le_refl _) (Nat.le_refl _), this.len, this.none⟩
theorem up_turn {n a p : Nat} {to : List (List Int)} {x0 : BL × MS} (q : B2 n a p x0) (hn : n ≤ 10) (hp : p ≤ 100) (ha : 16000 ≤ a) (j : Nat) : B2 n (a + 600 * n * j) p (up (fun _ => up (blkStep s to n) n) j x0) := by
 induction j with
 | zero => exact q
 | succ j ih =>
  have := up_blkStep (s := s) (to := to) ih hn hp (by omega) n (Nat.le_refl _)
  exact ⟨this.z.mono (by rw [Nat.mul_succ]; omega) (Nat.le_refl _) (Nat.le_refl _), this.len, this.none⟩
theorem made_l4 {n a p : Nat} {vr vt vp vd : Value} {to : List (List Int)} {x0 : BL × MS} (x : Nx s M vs W0 h (o0.upd (6, 0) (it T.bool vd x0.1)) x0.2) (hto : SlRd W0 vt to) (htl : to.length = n) (f7 : o0 (7, 0) = none) (f90 : o0 (9, 0) = none) (f91 : o0 (9, 1) = none) (q : B2 n a p x0) (hn : n ≤ 9) (hp : p ≤ 100) (ha : 16000 ≤ a) (ha2 : a ≤ 30000) {Q : Post} {ρ : Env}
  (h0 : keepE [2, 3, 4, 5, 7, 11, 12] ρ = [(2, vr), (3, .pointer (some ⟨M, 0, none⟩)), (4, .int .i64 n), (5, vt), (7, vp), (11, vd), (12, .int .i64 0)])
  (hQ : ∀ h' : Heap, Nx s M vs W0 h' (o0.upd (6, 0) (it T.bool vd (up (fun _ => up (blkStep s to n) n) n x0).1)) (up (fun _ => up (blkStep s to n) n) n x0).2 → Q .normal [(2, vr), (3, .pointer (some ⟨M, 0, none⟩)), (4, .int .i64 n), (5, vt), (7, vp), (11, vd), (12, .int .i64 n)] h') :
  LC.wp Try.prog (.block 6 (.loop L.ref03_Made.l4)) Q ρ h := by
 simp only [lwp_block]
 refine lwp_for [2, 3, 4, 5, 7, 11, 12] (fun (_ : Unit) j => [vr, .pointer (some ⟨M, 0, none⟩), .int .i64 n, vt, vp, vd, .int .i64 j]) (fun _ j h2 => Nx s M vs W0 h2 (o0.upd (6, 0) (it T.bool vd (up (fun _ => up (blkStep s to n) n) j x0).1)) (up (fun _ => up (blkStep s to n) n) j x0).2) n ()
  rfl (by omega) h0 x (fun _ _ => rfl) (fun v k h2 hk2 x2 => by simp) ?_ ?_
 ·rintro _ t h2 hlt x2 K2 hK2
  have q2 := up_turn (s := s) (to := to) q (by omega) hp ha t
  have hbd : 600 * n * t ≤ 5400 * 9 := Nat.mul_le_mul (by omega) (by omega)
  have e2 : up (fun _ => up (blkStep s to n) n) (t + 1) x0 = up (blkStep s to n) n (up (fun _ => up (blkStep s to n) n) t x0) := rfl
  rw [e2] at hK2
  generalize up (fun _ => up (blkStep s to n) n) t x0 = y at x2 hK2 q2
  simp only [lwp_block]
  refine lwp_hide fun y hy => ?_
  simp
  rw [hy]; clear hy y
  refine made_l5 (vr := vr) (vt := vt) (vp := vp) (vd := vd) (t := t) x2 hto htl f7 f90 f91 q2 (by omega) hp (by omega) (by omega) (by simp [keepE, look_setE, look_kill]) fun h3 x3 => ?_
  simp
  exact hK2 () _ _ rfl rfl x3
 ·rintro _ h2 x2
  exact hQ h2 x2
end
end Go.Proofs.Ytfelpjfopgiabaa
namespace Go.Proofs.Ytfelpjfopgiabaa
open Go Go.Lft
variable {s : List Int}
theorem madeN_rng : 1 ≤ madeN s ∧ madeN s ≤ 9 := by
 have := takeV_rng (s := s) (at_ := 1) (n := 9) (by decide)
 unfold madeN; omega
theorem madeN_int : ((madeN s : Nat) : Int) = 1 + takeV s 1 9 := by
 have := takeV_rng (s := s) (at_ := 1) (n := 9) (by decide)
 unfold madeN; omega
theorem made0_ok : (made0 s).ok 4 := by
 have := takeV_rng (s := s) (at_ := 0) (n := 5) (by decide)
 refine ⟨by show 2 ≤ 4; omega, by show 0 ≤ takeV s 0 5; omega, by show takeV s 0 5 ≤ _; omega, by show 0 ≤ 4; omega, fun i => ?_⟩
 show (nth ([] : List BlkD) i).ins.length ≤ 4
 rw [nth_ge (by simp)]
 show 0 ≤ 4; omega
theorem made1_k : TgK (madeN s) 112 (made1 s) := by
 obtain ⟨h1, h2⟩ := madeN_rng (s := s)
 have k1 : TgK (madeN s) 4 (List.replicate (madeN s) [], made0 s) := ⟨by simp, fun i => by
  rcases Nat.lt_or_ge i (madeN s) with hi | hi
  ·rw [nth_replicate hi]; show 0 ≤ 4; omega
  ·rw [nth_ge (by simpa using hi)]; show 0 ≤ 4; omega, made0_ok⟩
 exact (up_tgB (s := s) (up_tgA (s := s) k1 (madeN s - 1)) (madeN s)).mono (by omega)
def Same4 (m m' : MS) : Prop := m'.ps = m.ps ∧ m'.blocks = m.blocks ∧ m'.next = m.next ∧ m'.live = m.live
theorem tgA_same {m : MS} {k : Nat} {x : TgS} (h : Same4 m x.2) : Same4 m (tgA s k x).2 := by
 unfold tgA; split <;> exact h
theorem tgI_same {m : MS} {n b : Nat} {x : TgS} (h : Same4 m x.2) : Same4 m (tgI s n b x).2 := by
 unfold tgI; simp only; repeat' split
 all_goals exact h
theorem tgB_same {m : MS} {n b : Nat} {x : TgS} (h : Same4 m x.2) : Same4 m (tgB s n b x).2 :=
 up_inv (fun x : TgS => Same4 m x.2) (fun _ _ h => tgI_same h) _ _ h
theorem made1_same : Same4 (made0 s) (made1 s).2 :=
 up_inv (fun x : TgS => Same4 (made0 s) x.2) (fun _ _ h => tgB_same h) _ _ (up_inv (fun x : TgS => Same4 (made0 s) x.2) (fun _ _ h => tgA_same h) _ _ ⟨rfl, rfl, rfl, rfl⟩)
theorem made2_up {m : MS} {a n : Nat} {to : List (List Int)} (z : Sz n a 0 0 m) (g : Gd m) (pc : ∀ j, (nth m.blocks j).phis.length = 0) (ht : ∀ j, (nth to j).length ≤ 1000) : ∀ k, Sz n a 0 0 (up (fun b m => MS.setTo m b (nth to b)) k m) ∧ Gd (up (fun b m => MS.setTo m b (nth to b)) k m)
 | 0 => ⟨z, g⟩
 | k + 1 => by
  obtain ⟨h1, h2⟩ := made2_up z g pc ht k
  exact ⟨h1.setBlk (h1.phis k) (h1.ins k), h2.setTo (ht k)⟩
theorem zeroB_nth {n j : Nat} : (nth (List.replicate n zeroB) j).phis.length = 0 ∧ (nth (List.replicate n zeroB) j).ins.length = 0 := by
 rcases Nat.lt_or_ge j n with hj | hj
 ·rw [nth_replicate hj]; exact ⟨rfl, rfl⟩
 ·rw [nth_ge (by simpa using hj)]; exact ⟨rfl, rfl⟩
theorem made2_ok : Sz (madeN s) 200 0 0 (made2 s) ∧ Gd (made2 s) := by
 have k := made1_k (s := s)
 have e := made1_same (s := s)
 have t := takeV_rng (s := s) (at_ := 0) (n := 5) (by decide)
 refine made2_up ⟨?_, ?_, ?_, ?_, ?_, ?_, ?_, fun j => ?_, fun j => ?_⟩ (fun j hj => ?_) (fun j => (zeroB_nth).1) (fun j => by have := k.row j; omega) _
 ·show (made1 s).2.at_ ≤ 200; have := k.ok.at_; omega
 ·exact k.ok.n0
 ·show (made1 s).2.next ≤ _; have := k.ok.next; omega
 ·show (made1 s).2.live.length ≤ 200; have := k.ok.live; omega
 ·show 0 ≤ (made1 s).2.ps; rw [e.1]; show 0 ≤ takeV s 0 5; omega
 ·show (made1 s).2.ps ≤ 4; rw [e.1]; show takeV s 0 5 ≤ 4; omega
 ·show (List.replicate (madeN s) zeroB).length = _; simp
 ·show (nth (List.replicate (madeN s) zeroB) j).phis.length ≤ 0; rw [(zeroB_nth).1]; omega
 ·show (nth (List.replicate (madeN s) zeroB) j).ins.length ≤ 0; rw [(zeroB_nth).2]; omega
 ·have hj : j < madeN s := by simpa using hj
  show GdB (nth (List.replicate (madeN s) zeroB) j)
  rw [nth_replicate hj]
  exact ⟨fun i h => (by cases h), by show 0 ≤ 10; omega, by show 0 ≤ 1000; omega, fun i h => (by cases h)⟩
theorem addPhis_len {m : MS} {b : Nat} (hb : b < m.blocks.length) : ∀ c j, (nth (up (fun _ => addPhi b) c m).blocks j).phis.length = (nth m.blocks j).phis.length + (if j = b then c else 0) ∧ (up (fun _ => addPhi b) c m).blocks.length = m.blocks.length
 | 0, j => ⟨by show (nth m.blocks j).phis.length = _; split <;> omega, rfl⟩
 | c + 1, j => by
  obtain ⟨h1, h2⟩ := addPhis_len hb c j
  obtain ⟨h3, _⟩ := addPhis_len hb c b
  have e : (up (fun _ => addPhi b) (c + 1) m).blocks = (up (fun _ => addPhi b) c m).blocks.set b { nth (up (fun _ => addPhi b) c m).blocks b with phis := (nth (up (fun _ => addPhi b) c m).blocks b).phis ++ [⟨(up (fun _ => addPhi b) c m).next, []⟩] } := rfl
  rw [e]
  refine ⟨?_, by rw [List.length_set]; exact h2⟩
  rcases Nat.lt_or_ge j m.blocks.length with hl | hl
  ·rw [nth_set (by rw [h2]; exact hl)]
   by_cases ej : b = j
   ·subst ej
    rw [if_pos rfl, if_pos rfl]
    rw [if_pos rfl] at h3
    show (_ ++ [_]).length = _
    rw [List.length_append, h3, List.length_singleton]; omega
   ·rw [if_neg ej, if_neg (fun q => ej q.symm)]
    rw [if_neg (fun q => ej q.symm)] at h1
    exact h1
  ·rw [nth_ge (by rw [List.length_set, h2]; exact hl), nth_ge hl, if_neg (by omega)]; rfl
theorem up_phi_pc {n a : Nat} {x : List Int × MS} (p : Ph n a 0 x) (pc : Pc x.1 x.2) (g : Gd x.2) : ∀ k, k < n → Pc (up (phiStep s) k x).1 (up (phiStep s) k x).2 ∧ Gd (up (phiStep s) k x).2
 | 0, _ => ⟨pc, g⟩
 | k + 1, hk => by
  obtain ⟨h1, h2⟩ := up_phi_pc p pc g k (by omega)
  have q := up_phi (s := s) p k
  have e : up (phiStep s) (k + 1) x = phiStep s k (up (phiStep s) k x) := rfl
  rw [e]
  generalize up (phiStep s) k x = y at h1 h2 q
  obtain ⟨c0, c1⟩ := phiCnt_rng (s := s) (m := y.2) (b := k + 1)
  have hb : k + 1 < y.2.took.blocks.length := by show k + 1 < y.2.blocks.length; rw [q.z.len]; exact hk
  refine ⟨fun j => ?_, h2.took.addPhis _⟩
  have h3 := (addPhis_len hb (phiCnt s y.2 (k + 1)).toNat j).1
  show ((nth (up (fun _ => addPhi (k + 1)) (phiCnt s y.2 (k + 1)).toNat y.2.took).blocks j).phis.length : Int) = nth (y.1.set (k + 1) (phiCnt s y.2 (k + 1))) j
  rw [h3]
  have h4 := h1 j
  have h5 : nth y.2.took.blocks j = nth y.2.blocks j := rfl
  rw [h5]
  rcases Nat.lt_or_ge j y.1.length with hl | hl
  ·rw [nth_set hl]
   by_cases ej : k + 1 = j
   ·subst ej
    rw [if_pos rfl, if_pos rfl]
    rw [q.zero (k + 1) (by omega)] at h4
    omega
   ·rw [if_neg ej, if_neg (fun r => ej r.symm)]
    omega
  ·have e1 : nth (y.1.set (k + 1) (phiCnt s y.2 (k + 1))) j = default := nth_ge (by simpa using hl)
   have e2 : nth y.1 j = default := nth_ge hl
   rw [e1]
   rw [e2] at h4
   have := q.len
   rw [if_neg (by omega)]
   omega
theorem made3_ok : Ph (madeN s) 200 (madeN s - 1) (made3 s) ∧ Pc (made3 s).1 (made3 s).2 ∧ Gd (made3 s).2 := by
 obtain ⟨h1, h2⟩ := madeN_rng (s := s)
 obtain ⟨z, g⟩ := made2_ok (s := s)
 have hz : ∀ j, nth (List.replicate (madeN s) (0 : Int)) j = 0 := fun j => by
  rcases Nat.lt_or_ge j (madeN s) with hj | hj
  ·rw [nth_replicate hj]
  ·rw [nth_ge (by simpa using hj)]; rfl
 have p0 : Ph (madeN s) 200 0 (List.replicate (madeN s) (0 : Int), made2 s) := ⟨z, by simp, fun j _ => hz j, fun j => by rw [hz]; omega⟩
 have pc : Pc (List.replicate (madeN s) (0 : Int)) (made2 s) := fun j => by
  have := z.phis j
  rw [hz]; omega
 obtain ⟨q1, q2⟩ := up_phi_pc (s := s) p0 pc g (madeN s - 1) (by omega)
 exact ⟨up_phi p0 _, q1, q2⟩
theorem Gd.doBlock {to : List (List Int)} {n b : Nat} {dn : BL} {away : List BL} {m : MS} (g : Gd m) (ht : (nth to b).length ≤ 1000) : Gd (doBlock s to n dn away b m) := by
 have g1 : Gd (MS.took { m with live := liveS m dn away b n }) := g
 exact (Gd.instructions g1 _).mkEnd ht
theorem Gd.blkStep {to : List (List Int)} {n b : Nat} {x : BL × MS} (g : Gd x.2) (ht : (nth to b).length ≤ 1000) : Gd (blkStep s to n b x).2 := by
 unfold Go.Proofs.Ytfelpjfopgiabaa.blkStep
 split
 ·exact g.doBlock ht
 ·exact g
structure M4 (n a p : Nat) (lp : List Int) (x : BL × MS) : Prop where
 b2 : B2 n a p x
 gd : Gd x.2
 pc : Pc lp x.2
theorem M4.step {to : List (List Int)} {n a p b : Nat} {lp : List Int} {x : BL × MS} (q : M4 n a p lp x) (hb : b < n) (hn : n ≤ 10) (hp : p ≤ 100) (ha : 16000 ≤ a) (ht : ∀ j, (nth to j).length ≤ 1000) : M4 n (a + 600) p lp (blkStep s to n b x) :=
 ⟨blkStep_ok q.b2 hb hn hp ha fun h => ready_not h, q.gd.blkStep (ht b), q.pc.blkStep (by rw [q.b2.z.len]; exact hb)⟩
theorem M4.blk {to : List (List Int)} {n a p : Nat} {lp : List Int} {x : BL × MS} (q : M4 n a p lp x) (hn : n ≤ 10) (hp : p ≤ 100) (ha : 16000 ≤ a) (ht : ∀ j, (nth to j).length ≤ 1000) (k : Nat) (hk : k ≤ n) : M4 n (a + 600 * k) p lp (up (Go.Proofs.Ytfelpjfopgiabaa.blkStep s to n) k x) := by
 induction k with
 | zero => exact q
 | succ k ih =>
  have := (ih (by omega)).step (s := s) (to := to) (b := k) (by omega) hn hp (by omega) ht
  exact ⟨⟨this.b2.z.mono (by omega) (Nat.le_refl _) (Nat.le_refl _), this.b2.len, this.b2.none⟩, this.gd, this.pc⟩
theorem M4.turn {to : List (List Int)} {n a p : Nat} {lp : List Int} {x : BL × MS} (q : M4 n a p lp x) (hn : n ≤ 10) (hp : p ≤ 100) (ha : 16000 ≤ a) (ht : ∀ j, (nth to j).length ≤ 1000) (k : Nat) : M4 n (a + 600 * n * k) p lp (up (fun _ => up (Go.Proofs.Ytfelpjfopgiabaa.blkStep s to n) n) k x) := by
 induction k with
 | zero => exact q
 | succ k ih =>
  have := ih.blk (s := s) (to := to) hn hp (by omega) ht n (Nat.le_refl _)
  exact ⟨⟨this.b2.z.mono (by rw [Nat.mul_succ]; omega) (Nat.le_refl _) (Nat.le_refl _), this.b2.len, this.b2.none⟩, this.gd, this.pc⟩
theorem made3_b2 : B2 (madeN s) 16000 27 (List.replicate (madeN s) false, (made3 s).2) := by
 obtain ⟨h1, h2⟩ := madeN_rng (s := s)
 obtain ⟨p, _, _⟩ := made3_ok (s := s)
 refine ⟨p.z.mono (by omega) (by omega) (by omega), by simp, fun j hj _ => ?_⟩
 have := p.z.ins j
 show (nth (made3 s).2.blocks j).ins.length = 0; omega
theorem made4_ok : P3 (madeN s) 70000 27 700 (made4 s).2 ∧ Pc (made3 s).1 (made4 s).2 := by
 obtain ⟨h1, h2⟩ := madeN_rng (s := s)
 obtain ⟨p, pc, g⟩ := made3_ok (s := s)
 have ht : ∀ j, (nth (made1 s).1 j).length ≤ 1000 := fun j => by have := (made1_k (s := s)).row j; omega
 have q0 : M4 (madeN s) 16000 27 (made3 s).1 (List.replicate (madeN s) false, (made3 s).2) := ⟨made3_b2, g, pc⟩
 have q := q0.turn (s := s) (to := (made1 s).1) (by omega) (by omega) (by omega) ht (madeN s)
 have hbd : 600 * madeN s * madeN s ≤ 5400 * 9 := Nat.mul_le_mul (by omega) (by omega)
 exact ⟨⟨q.b2.z.mono (by omega) (Nat.le_refl _) (Nat.le_refl _), q.gd⟩, q.pc⟩
theorem made5_ok : P3 (madeN s) 72000 27 1000 (made5 s) := by
 obtain ⟨h1, h2⟩ := madeN_rng (s := s)
 obtain ⟨p, _, _⟩ := made3_ok (s := s)
 obtain ⟨q, pc⟩ := made4_ok (s := s)
 have := (up_blk3 (s := s) q pc (fun j => (p.rng j).2) h2 (madeN s - 1)).1
 exact this.mono (by omega) (Nat.le_refl _) (by omega)
theorem make_params : 0 ≤ (makeS s).params ∧ (makeS s).params ≤ 4 := ⟨(made5_ok (s := s)).z.ps0, (made5_ok (s := s)).z.ps1⟩
theorem make_len : 1 ≤ (makeS s).blocks.length ∧ (makeS s).blocks.length ≤ 9 := by
 have := madeN_rng (s := s)
 rw [show (makeS s).blocks.length = madeN s from (made5_ok (s := s)).z.len]
 exact this
end Go.Proofs.Ytfelpjfopgiabaa
namespace Go.Proofs.Ytfelpjfopgiabaa
open Go Go.Lft
section
variable {s : List Int} {M : Nat} {vs : Value} {W : View} {h : Heap} {o : Own} {m : MS}
theorem MkB.boxed {vb vl : Value} {lb : List BlkM} (bb : MkB M vs m o vb vl lb) (m' : MS) (h1 : m'.blocks = m.blocks) (h2 : m'.live = m.live) : MkB M vs m' (o.upd (0, 0) (bx T.ref03_maker M (RawN.mk (n := 5) (mkL vs m'.at_ m'.ps vb m'.next vl)))) vb vl lb :=
 ⟨rfl, by rw [h2]; exact bb.live, bb.blk, by rw [h1]; exact bb.len, by rw [h1]; exact bb.term, by rw [h1]; exact fun i hi => bb.phis i hi, by rw [h1]; exact fun i hi => bb.ins i hi⟩
end
def frame0 (R : Nat) (i10 : Own) : Own := fun k => if k = (8, 0) then bx T.api_Func R (RawN.mk (n := 1) [.int .i64 0, .slice none 0 0]) else if 10 ≤ k.1 then i10 k else none
structure FnB (o : Own) (vb : Value) (lb : List BlkM) (f : FuncD) : Prop where
 blk : o (0, 2) = it T.api_Block vb lb
 len : lb.length = f.blocks.length
 term : ∀ i, i < f.blocks.length → (nth lb i).term = (nth f.blocks i).term
 phis : ∀ i, i < f.blocks.length → o (1, i) = it T.api_Phi (nth lb i).phis.v (nth f.blocks i).phis
 ins : ∀ i, i < f.blocks.length → o (2, i) = it T.api_Ins (nth lb i).ins.v (nth f.blocks i).ins
theorem fnB_sl {H : View} {vb : Value} {lb : List BlkM} {f : FuncD} (h0 : SlRd H vb lb) (hl : lb.length = f.blocks.length) (ht : ∀ i, i < f.blocks.length → (nth lb i).term = (nth f.blocks i).term) (h1 : ∀ i, i < f.blocks.length → SlRd H (nth lb i).phis.v (nth f.blocks i).phis) (h2 : ∀ i, i < f.blocks.length → SlRd H (nth lb i).ins.v (nth f.blocks i).ins) : SlRd H vb f.blocks := by
 refine sl_conv h0 rfl hl fun i g1 g2 cs hr => ?_
 have := blkM_blk hr (p := (nth f.blocks i).phis) (i := (nth f.blocks i).ins) (by have := h1 i g2; rwa [nth_eq g1] at this) (by have := h2 i g2; rwa [nth_eq g1] at this)
 have ht := ht i g2
 rw [nth_eq g1] at ht
 rw [ht] at this
 rw [← nth_eq g2]
 exact this
theorem FnB.rd {W : View} {h : Heap} {o : Own} {vb : Value} {lb : List BlkM} {f : FuncD} (b : FnB o vb lb f) (w : Owns W h o) : SlRd (vw h) vb f.blocks :=
 fnB_sl (w.now b.blk) b.len b.term (fun i hi => w.now (b.phis i hi)) fun i hi => w.now (b.ins i hi)
theorem made_own {s : List Int} {vs : Value} {h : Heap} {W : View} {o0 : Own} (w0 : Owns W h o0) (ho0 : ∀ k : Key, k.1 < 10 → o0 k = none) (hs : SlRd W vs s) :
  HCalls Try.prog N.ref03_Made #[vs] h (fun u h' => ∃ W' o vb lb, W.le W' ∧ Owns W' h' o ∧ (∀ k : Key, 3 ≤ k.1 → o k = o0 k) ∧ FnB o vb lb (makeS s) ∧ u = .agg #[.int .i64 (makeS s).params, vb]) := by
 refine calls_lift (args := [vs]) follows F.ref03_Made E.ref03_Made (Nat.le_of_ble_eq_true (by kernel_rfl)) fun K hK => ?_
 have hs0 := hs
 obtain ⟨sa, sc, rfl, _⟩ := hs0
 dsimp only [L.ref03_Made]
 refine lwp_hide fun z hz => ?_
 simp
 refine w0.do_zero (k := (8, 0)) (n := 1) (z := .agg #[.int .i64 0, .slice none 0 0]) (ho0 _ (by decide)) (by kernel_rfl) rfl (by decide) (by simp [Value.cells, Value.oneCell']) fun h1 q1 w1 => ?_
 generalize h.size = R at w1
 rw [hz]; clear hz z
 refine lwp_hide fun z hz => ?_
 simp
 refine do_build (z := .agg #[.slice none 0 0, .int .i64 0, .int .i64 0, .slice none 0 0, .int .i64 0, .slice none 0 0]) (places := [(0, 1), (1, 1), (2, 2), (4, 1), (5, 1)]) (vs := [(0, .slice sa s.length sc)]) (cs := #[.slice sa s.length sc, .int .i64 0, .int .i64 0, .slice none 0 0, .int .i64 0, .slice none 0 0]) (by kernel_rfl) (by kernel_rfl) (by simp) (by rfl) ?_
 generalize s.length = sl at hs
 refine do_box rfl ?_
 have hbx : (h1.push (.cells (Value.agg #[.slice sa sl sc, .int .i64 0, .int .i64 0, .slice none 0 0, .int .i64 0, .slice none 0 0]).cells T.ref03_maker))[h1.size]? = some (.cells (Value.agg #[.slice sa sl sc, .int .i64 0, .int .i64 0, .slice none 0 0, .int .i64 0, .slice none 0 0]).cells T.ref03_maker (0, 0)) := by simp
 have hle2 := push_le h1 (.cells (Value.agg #[.slice sa sl sc, .int .i64 0, .int .i64 0, .slice none 0 0, .int .i64 0, .slice none 0 0]).cells T.ref03_maker)
 have hbg : ∀ b, (Value.slice (some ⟨h1.size, 0, none⟩) 1 1).ownBlock = some b → h1.size ≤ b := fun b hb => by simp only [Value.ownBlock, Option.some.injEq] at hb; omega
 show LC.wp Try.prog z _ _ (h1.push (.cells (Value.agg #[.slice sa sl sc, .int .i64 0, .int .i64 0, .slice none 0 0, .int .i64 0, .slice none 0 0]).cells T.ref03_maker))
 generalize h1.push (.cells (Value.agg #[.slice sa sl sc, .int .i64 0, .int .i64 0, .slice none 0 0, .int .i64 0, .slice none 0 0]).cells T.ref03_maker) = h2 at hbx hle2
 have w2 := w1.add (k := (0, 0)) ((Own.upd_ne (by simp)).trans (ho0 _ (by decide))) (ownT_box (W := W) (d := RawN.mk (n := 5) [.slice sa sl sc, .int .i64 0, .int .i64 0, .slice none 0 0, .int .i64 0, .slice none 0 0]) hbx (rd_rawN rfl (by simp [Value.oneCell'])) (by decide)) hle2 hbg
 generalize h1.size = M at w2
 generalize hvs : Value.slice sa sl sc = vs at hs w2
 obtain ⟨m0, hm0⟩ : ∃ m0 : MS, m0 = ⟨0, 0, [], 0, []⟩ := ⟨_, rfl⟩
 obtain ⟨o2, ho2⟩ : ∃ o2 : Own, o2 = fun k => if k = (0, 0) then bx T.ref03_maker M (RawN.mk (n := 5) (mkL vs 0 0 (.slice none 0 0) 0 (.slice none 0 0))) else if k = (0, 1) then it T.int (.slice none 0 0) ([] : List Int) else if k = (0, 2) then it T.api_Block (.slice none 0 0) ([] : List BlkM) else frame0 R o0 k := ⟨_, rfl⟩
 have w2 : Owns W h2 o2 := w2.nils fun k i hk => by
  rw [ho2] at hk
  dsimp only at hk
  split at hk
  ·rename_i e; rw [e]; exact .inl hk
  ·rename_i e0
   split at hk
   ·cases hk; exact .inr ⟨rfl, OwnT.nil (α := Int) _ _ _⟩
   ·split at hk
    ·cases hk; exact .inr ⟨rfl, OwnT.nil (α := BlkM) _ _ _⟩
    ·refine .inl ?_
     rw [Own.upd_ne e0]
     by_cases e8 : k = (8, 0)
     ·subst e8; exact hk
     ·rw [Own.upd_ne e8]
      unfold frame0 at hk; rw [if_neg e8] at hk
      split at hk
      ·exact hk
      ·cases hk
 have w2 : Mk s M vs W h2 o2 m0 := ⟨w2, hs, .slice none 0 0, .slice none 0 0, [], by rw [ho2, hm0]; rfl, by rw [ho2, hm0]; rfl, by rw [ho2]; rfl, by rw [hm0]; rfl, fun i hi => by rw [hm0] at hi; simp at hi, fun i hi => by rw [hm0] at hi; simp at hi, fun i hi => by rw [hm0] at hi; simp at hi⟩
 have f2 : ∀ k : Key, 3 ≤ k.1 → o2 k = frame0 R o0 k := fun k hk => by
  rw [ho2]
  dsimp only
  rw [if_neg (by rintro rfl; simp at hk), if_neg (by rintro rfl; simp at hk), if_neg (by rintro rfl; simp at hk)]
 clear w1 hbx hbg hle2 q1 ho2
 rw [hz]; clear hz z
 refine lwp_hide fun z hz => ?_
 simp
 refine call_to (by kernel_rfl) (w2.take (by rw [hm0]; decide) (n := 5) (by decide) (by decide)) ?_
 rintro _ h3 ⟨rfl, o3, w3, f3⟩
 have tv := takeV_rng (s := s) (at_ := m0.at_) (n := 5) (by decide)
 obtain ⟨vb, vl, lb, bb⟩ := w3.box
 refine w3.own.do_cell (k := (0, 0)) (n := 5) (i := 2) (e := T.ref03_maker) (B := M) (l := mkL vs m0.took.at_ m0.took.ps vb m0.took.next vl) bb.box (by decide) (by kernel_rfl) rfl rfl rfl fun h4 w4 _ => ?_
 have b4 := bb.boxed ⟨m0.took.at_, takeV s m0.at_ 5, m0.took.blocks, m0.took.next, m0.took.live⟩ rfl rfl
 rw [hz]; clear hz z
 refine lwp_hide fun z hz => ?_
 have w4 : Mk s M vs W h4 _ _ := ⟨w4, w3.src, vb, vl, lb, b4⟩
 have rd := w4.reads b4
 simp [rd.ps]
 refine w4.own.do_cell (k := (0, 0)) (n := 5) (i := 4) (e := T.ref03_maker) (B := M) (l := mkL vs m0.took.at_ (takeV s m0.at_ 5) vb m0.took.next vl) b4.box (by decide) (by kernel_rfl) rfl rfl rfl fun h5 w5 _ => ?_
 have b5 := b4.boxed ⟨m0.took.at_, takeV s m0.at_ 5, m0.took.blocks, takeV s m0.at_ 5, m0.took.live⟩ rfl rfl
 have w5 : Mk s M vs W h5 _ _ := ⟨w5, w3.src, vb, vl, lb, b5⟩
 obtain ⟨o5, ho5⟩ : ∃ o5, o5 = (o3.upd (0, 0) (bx T.ref03_maker M (RawN.mk (n := 5) (mkL vs m0.took.at_ (takeV s m0.at_ 5) vb m0.took.next vl)))).upd (0, 0) (bx T.ref03_maker M (RawN.mk (n := 5) (mkL vs m0.took.at_ (takeV s m0.at_ 5) vb (takeV s m0.at_ 5) vl))) := ⟨_, rfl⟩
 have f5 : ∀ k : Key, 3 ≤ k.1 → o5 k = frame0 R o0 k := fun k hk => by
  rw [ho5, Own.upd_ne (by rintro rfl; simp at hk), Own.upd_ne (by rintro rfl; simp at hk), f3 k hk, f2 k hk]
 rw [hm0] at w5
 have w5 : Mk s M vs W h5 o5 ⟨1, takeV s 0 5, [], takeV s 0 5, []⟩ := by rw [ho5, hm0]; exact w5
 clear b5 b4 rd w4 bb w3 f3 w2 f2 ho5 hvs
 rw [hz]; clear hz z
 refine lwp_hide fun z hz => ?_
 simp
 refine call_to (by kernel_rfl) (w5.take (show 1 ≤ _ by omega) (n := 9) (by decide) (by decide)) ?_
 rintro _ h6 ⟨rfl, o6, w6, f6⟩
 have w6 : Mk s M vs W h6 o6 (made0 s) := w6
 have f6 : ∀ k : Key, 3 ≤ k.1 → o6 k = frame0 R o0 k := fun k hk => (f6 k hk).trans (f5 k hk)
 clear w5 f5
 have hN := madeN_int (s := s)
 obtain ⟨n1, n2⟩ := madeN_rng (s := s)
 have hw : IntKind.i64.wrap (1 + takeV s 1 9) = (madeN s : Nat) := by rw [hN]; exact wrap64_id (by omega) (by omega)
 simp [hw]
 rw [hz]; clear hz z
 refine lwp_hide fun z hz => ?_
 simp
 refine call_to (by kernel_rfl) (targets_ok (ri := frame0 R o0) w6 (fun k hk => f6 k (by omega)) (fun k h1 h2 => (f6 k h1).trans (by unfold frame0; rw [if_neg (by rintro rfl; simp at h2), if_neg (by omega)])) (n := madeN s) made0_ok (by omega) n1 (by omega)) ?_
 rintro vt h7 ⟨W7, o7, g7, w7, r7, e7, st⟩
 have w7 : Mk s M vs W7 h7 o7 (made1 s).2 := w7
 have st : SlRd W7 vt (made1 s).1 := st
 have f7 : ∀ k : Key, 3 ≤ k.1 → o7 k = frame0 R o0 k := fun k hk => by
  by_cases e : 8 ≤ k.1
  ·exact r7 k e
  ·rw [e7 k hk (by omega)]; unfold frame0; rw [if_neg (by rintro rfl; simp at e), if_neg (by omega)]
 clear r7 e7 w6 f6
 have k1 := made1_k (s := s)
 have s4 := made1_same (s := s)
 rw [hz]; clear hz z
 refine lwp_hide fun z hz => ?_
 simp
 refine do_make (α := BlkM) (W := W7) (k := .i64) (n := madeN s) (d := ⟨⟨.slice none 0 0⟩, ⟨.slice none 0 0⟩, ⟨0, [], [], ⟨0⟩⟩⟩) El.s_api_Block (by rfl) (by rfl) ⟨[.slice none 0 0], _, rfl, ⟨rfl, rfl⟩, [.slice none 0 0], _, rfl, ⟨rfl, rfl⟩, [.int .i64 0], _, rfl, ⟨rfl, by decide, by decide⟩, [.slice none 0 0], _, rfl, ⟨_, rfl, nil_sl⟩, [.slice none 0 0], _, rfl, ⟨_, rfl, nil_sl⟩, rfl, by decide, by decide⟩ (by omega) (by omega) fun vb8 h8 ob8 m8 hle8 hb8 => ?_
 obtain ⟨vb, vl, lb, bb⟩ := w7.box
 have wa := w7.own.sub (o' := o7.upd (0, 2) none) fun j i hj => by
  unfold Own.upd at hj
  split at hj
  ·cases hj
  ·exact hj
 have wb := wa.add (k := (0, 2)) Own.upd_self ob8 hle8 (fun b hb => by rw [hb8] at hb; cases hb; exact Nat.le_refl _)
 have hv8 := (wb.cells (k := (0, 2)) Own.upd_self).2
 obtain ⟨o8, ho8⟩ : ∃ o8 : Own, o8 = fun k => if k.1 = 1 ∧ k.2 < madeN s then it T.api_Phi (.slice none 0 0) ([] : List PhiD) else if k.1 = 2 ∧ k.2 < madeN s then it T.api_Ins (.slice none 0 0) ([] : List InsD) else o7.upd (0, 2) (it T.api_Block vb8 (List.replicate (madeN s) (BlkM.mk ⟨.slice none 0 0⟩ ⟨.slice none 0 0⟩ ⟨0, [], [], ⟨0⟩⟩))) k := ⟨_, rfl⟩
 have w8 : Owns W7 h8 o8 := wb.nils fun k i hk => by
  rw [ho8] at hk
  dsimp only at hk
  split at hk
  ·cases hk; exact .inr ⟨rfl, OwnT.nil (α := PhiD) _ _ _⟩
  ·split at hk
   ·cases hk; exact .inr ⟨rfl, OwnT.nil (α := InsD) _ _ _⟩
   ·refine .inl ?_
    by_cases e : k = (0, 2)
    ·subst e; rw [Own.upd_self] at hk ⊢; exact hk
    ·rw [Own.upd_ne e] at hk; rw [Own.upd_ne e, Own.upd_ne e]; exact hk
 have c8 : ∀ k : Key, ¬ (k.1 = 1 ∧ k.2 < madeN s) → ¬ (k.1 = 2 ∧ k.2 < madeN s) → o8 k = o7.upd (0, 2) (it T.api_Block vb8 (List.replicate (madeN s) (BlkM.mk ⟨.slice none 0 0⟩ ⟨.slice none 0 0⟩ ⟨0, [], [], ⟨0⟩⟩))) k := fun k h1 h2 => by
  rw [ho8]; dsimp only; rw [if_neg h1, if_neg h2]
 refine w8.do_cell (k := (0, 0)) (n := 5) (i := 3) (e := T.ref03_maker) (B := M) (l := mkL vs (made1 s).2.at_ (made1 s).2.ps vb (made1 s).2.next vl) (by rw [c8 _ (by simp) (by simp), Own.upd_ne (by simp)]; exact bb.box) (by decide) (by kernel_rfl) rfl rfl hv8 fun h9 w9 _ => ?_
 obtain ⟨o9, ho9⟩ : ∃ o9 : Own, o9 = o8.upd (0, 0) (bx T.ref03_maker M (RawN.mk (n := 5) (mkL vs (made1 s).2.at_ (made1 s).2.ps vb8 (made1 s).2.next vl))) := ⟨_, rfl⟩
 have w9 : Owns W7 h9 o9 := by rw [ho9]; exact w9
 have b9 : MkB M vs { (made1 s).2 with blocks := List.replicate (madeN s) zeroB } o9 vb8 vl (List.replicate (madeN s) (BlkM.mk ⟨.slice none 0 0⟩ ⟨.slice none 0 0⟩ ⟨0, [], [], ⟨0⟩⟩)) := by
  rw [ho9]
  refine ⟨rfl, ?_, ?_, by simp, fun i hi => ?_, fun i hi => ?_, fun i hi => ?_⟩
  ·rw [Own.upd_ne (by simp), c8 _ (by simp) (by simp), Own.upd_ne (by simp)]; exact bb.live
  ·rw [Own.upd_ne (by simp), c8 _ (by simp) (by simp), Own.upd_self]
  ·have hi : i < madeN s := by simpa using hi
   rw [nth_replicate hi, nth_replicate hi]; rfl
  ·have hi : i < madeN s := by simpa using hi
   rw [Own.upd_ne (by simp), ho8]; dsimp only
   rw [if_pos ⟨rfl, hi⟩, nth_replicate hi, nth_replicate hi]; rfl
  ·have hi : i < madeN s := by simpa using hi
   rw [Own.upd_ne (by simp), ho8]; dsimp only
   rw [if_neg (by simp), if_pos ⟨rfl, hi⟩, nth_replicate hi, nth_replicate hi]; rfl
 have x9 : Nx s M vs W7 h9 (frame0 R o0) { (made1 s).2 with blocks := List.replicate (madeN s) zeroB } := ⟨W7, o9, View.le_refl _, ⟨w9, w7.src, vb8, vl, _, b9⟩, fun k hk => by
  rw [ho9, Own.upd_ne (by rintro rfl; simp at hk), c8 _ (by omega) (by omega), Own.upd_ne (by rintro rfl; simp at hk)]; exact f7 k hk⟩
 clear b9 w9 ho9 c8 w8 ho8 wb wa hv8 bb ob8 m8 hle8 hb8 w7 f7
 rw [hz]; clear hz z
 refine lwp_hide fun z hz => ?_
 refine lwp_hide fun y hy => ?_
 simp
 rw [hy]; clear hy y
 refine made_l1 (vr := .pointer (some ⟨R, 0, none⟩)) st k1.len x9 (by simp) (by omega) (by simp [keepE, look_setE, look_kill]) fun h10 x10 => ?_
 have x10 : Nx s M vs W7 h10 (frame0 R o0) (made2 s) := x10
 clear x9
 simp
 rw [hz]; clear hz z
 refine lwp_hide fun z hz => ?_
 simp
 obtain ⟨Wa, oa, ga, wa, fa⟩ := x10
 refine do_make (α := Int) (W := Wa) (k := .i64) (n := madeN s) (d := 0) El.s_int (by rfl) (by rfl) ⟨rfl, by decide, by decide⟩ (by omega) (by omega) fun vp h11 ob11 m11 hle11 hb11 => ?_
 have x11 : Nx s M vs W7 h11 ((frame0 R o0).upd (5, 0) (it T.int vp (List.replicate (madeN s) (0 : Int)))) (made2 s) := by
  have w11 := wa.own.add (k := (5, 0)) ((fa _ (by decide)).trans rfl) ob11 hle11 (fun b hb => by rw [hb11] at hb; cases hb; exact Nat.le_refl _)
  obtain ⟨vb, vl, lb, bb⟩ := wa.box
  refine ⟨Wa, _, ga, ⟨w11, wa.src, vb, vl, lb, bb.frame fun q hq => Own.upd_ne (by rintro rfl; simp at hq)⟩, fun q hq => ?_⟩
  unfold Own.upd
  split
  ·rfl
  ·exact fa q hq
 clear wa fa ob11 m11 hb11
 rw [hz]; clear hz z
 refine lwp_hide fun z hz => ?_
 refine lwp_hide fun y hy => ?_
 simp
 rw [hy]; clear hy y
 obtain ⟨z2, g2⟩ := made2_ok (s := s)
 have p0 : Ph (madeN s) 200 0 (List.replicate (madeN s) (0 : Int), made2 s) := by
  have hz : ∀ j, nth (List.replicate (madeN s) (0 : Int)) j = 0 := fun j => by
   rcases Nat.lt_or_ge j (madeN s) with hj | hj
   ·rw [nth_replicate hj]
   ·rw [nth_ge (by simpa using hj)]; rfl
  exact ⟨z2, by simp, fun j _ => hz j, fun j => by show 0 ≤ nth (List.replicate _ (0 : Int)) j ∧ nth (List.replicate _ (0 : Int)) j ≤ 3; rw [hz]; omega⟩
 refine made_l2 (x0 := (List.replicate (madeN s) (0 : Int), made2 s)) (vr := .pointer (some ⟨R, 0, none⟩)) (vt := vt) (vp := vp) x11 p0 n1 (by omega) (by omega) (by simp [keepE, look_setE, look_kill]) fun h12 x12 => ?_
 have x12 : Nx s M vs W7 h12 ((frame0 R o0).upd (5, 0) (it T.int vp (made3 s).1)) (made3 s).2 := x12
 obtain ⟨ph, pc, g3⟩ := made3_ok (s := s)
 clear p0 x11 z2 g2
 simp
 rw [hz]; clear hz z
 refine lwp_hide fun z hz => ?_
 simp
 obtain ⟨Wa, oa, ga, wa, fa⟩ := x12
 refine do_make (α := Bool) (W := Wa) (k := .i64) (n := madeN s) (d := false) El.s_bool (by rfl) (by rfl) rfl (by omega) (by omega) fun vd h13 ob13 m13 hle13 hb13 => ?_
 have x13 : Nx s M vs W7 h13 (((frame0 R o0).upd (5, 0) (it T.int vp (made3 s).1)).upd (6, 0) (it T.bool vd (List.replicate (madeN s) false))) (made3 s).2 := by
  have w13 := wa.own.add (k := (6, 0)) ((fa _ (by decide)).trans rfl) ob13 hle13 (fun b hb => by rw [hb13] at hb; cases hb; exact Nat.le_refl _)
  obtain ⟨vb, vl, lb, bb⟩ := wa.box
  refine ⟨Wa, _, ga, ⟨w13, wa.src, vb, vl, lb, bb.frame fun q hq => Own.upd_ne (by rintro rfl; simp at hq)⟩, fun q hq => ?_⟩
  unfold Own.upd
  split
  ·rfl
  ·exact fa q hq
 clear wa fa ob13 m13 hb13
 rw [hz]; clear hz z
 refine lwp_hide fun z hz => ?_
 refine lwp_hide fun y hy => ?_
 simp
 rw [hy]; clear hy y
 refine made_l4 (a := 16000) (p := 27) (x0 := (List.replicate (madeN s) false, (made3 s).2)) (vr := .pointer (some ⟨R, 0, none⟩)) (vp := vp) x13 st k1.len rfl rfl rfl made3_b2 n2 (by omega) (by omega) (by omega) (by simp [keepE, look_setE, look_kill]) fun h14 x14 => ?_
 have x14 : Nx s M vs W7 h14 (((frame0 R o0).upd (5, 0) (it T.int vp (made3 s).1)).upd (6, 0) (it T.bool vd (made4 s).1)) (made4 s).2 := x14
 obtain ⟨q4, pc4⟩ := made4_ok (s := s)
 clear x13 pc g3
 simp
 rw [hz]; clear hz z
 refine lwp_hide fun z hz => ?_
 refine lwp_hide fun y hy => ?_
 simp
 rw [hy]; clear hy y
 refine made_l13 (vr := .pointer (some ⟨R, 0, none⟩)) (vt := vt) (vp := vp) (vd := vd) (lp := (made3 s).1) x14 ((Own.upd_ne (by simp)).trans Own.upd_self) rfl rfl q4 pc4 ph.len ph.rng n1 n2 (by omega) (by omega) (by omega) (by omega) (by simp [keepE, look_setE, look_kill]) fun h15 x15 => ?_
 have x15 : Nx s M vs W7 h15 (((frame0 R o0).upd (5, 0) (it T.int vp (made3 s).1)).upd (6, 0) (it T.bool vd (made4 s).1)) (made5 s) := x15
 have q5 := made5_ok (s := s)
 clear x14 q4 pc4 ph
 simp
 rw [hz]; clear hz z
 refine lwp_hide fun z hz => ?_
 obtain ⟨Wa, oa, ga, wa, fa⟩ := x15
 obtain ⟨vb, vl, lb, bb⟩ := wa.box
 have rd := wa.reads bb
 simp [rd.f]
 have hvb : vb.oneCell' = true := rd.blk.cells.2
 refine wa.own.do_field (k := (8, 0)) (α := RawN 1) (β := RawN 1) Part.all (B := R) (D := RawN.mk (n := 1) [.int .i64 0, .slice none 0 0]) (d := RawN.mk (n := 1) [.int .i64 (made5 s).ps, vb]) ((fa _ (by decide)).trans rfl) (by kernel_rfl) rfl rfl (rd_rawN rfl (by intro c hc; simp only [List.mem_cons, List.not_mem_nil, or_false] at hc; rcases hc with rfl | rfl <;> first | rfl | exact hvb)) fun h16 w16 _ => ?_
 have c16 := w16.rawAll (k := (8, 0)) (n := 1) (l := [.int .i64 (made5 s).ps, vb]) Own.upd_self
 have c16 : Un.ev (vw h16) (.loads 2) (.pointer (some ⟨R, 0, none⟩)) = some (.agg #[.int .i64 (made5 s).ps, vb]) := c16
 have b16 := bb.frame (o' := oa.upd (8, 0) (bx T.api_Func R (RawN.mk (n := 1) [.int .i64 (made5 s).ps, vb]))) fun q hq => Own.upd_ne (by rintro rfl; simp at hq)
 have w16 : Mk s M vs Wa h16 _ (made5 s) := ⟨w16, wa.src, vb, vl, lb, b16⟩
 have rd16 := w16.reads b16
 rw [hz]; clear hz z
 simp [c16]
 refine hK _ _ ⟨Wa, fun k => if 3 ≤ k.1 then o0 k else if k = (0, 2) ∨ k.1 = 1 ∨ k.1 = 2 then oa k else none, vb, lb, View.le_trans g7 ga, w16.own.sub fun k i hk => ?_, fun k hk => if_pos hk, ⟨?_, b16.len, b16.term, fun i hi => ?_, fun i hi => ?_⟩, rfl⟩
 ·split at hk
  ·rename_i e3
   rcases Nat.lt_or_ge k.1 10 with e | e
   ·rw [ho0 k e] at hk; cases hk
   ·have h1 : oa k = o0 k := (fa k (by omega)).trans (by
     rw [Own.upd_ne (by rintro rfl; simp at e), Own.upd_ne (by rintro rfl; simp at e)]
     unfold frame0; rw [if_neg (by rintro rfl; simp at e), if_pos e])
    rw [Own.upd_ne (by rintro rfl; simp at e), h1]; exact hk
  ·rename_i e3
   split at hk
   ·rw [Own.upd_ne (by rintro rfl; simp at e3)]; exact hk
   ·cases hk
 ·have := b16.blk
  rw [Own.upd_ne (by simp)] at this
  simpa using this
 ·have := b16.phis i hi
  rw [Own.upd_ne (by simp)] at this
  exact (by simp : _ = oa (1, i)).trans this
 ·have := b16.ins i hi
  rw [Own.upd_ne (by simp)] at this
  exact (by simp : _ = oa (2, i)).trans this
end Go.Proofs.Ytfelpjfopgiabaa
namespace Go.Lft
open Go
variable {po : OP}
end Go.Lft
namespace Go.Proofs.Ytfelpjfopgiabaa
open Go Go.Lft
structure TB (c : Nat) (x : BlkD) : Prop where
 phis : x.phis.length ≤ c
 ins : x.ins.length ≤ c
 args : x.term.args.length ≤ c
 to : x.term.to.length ≤ c
 pin : ∀ p ∈ x.phis, p.ins.length ≤ c
 iar : ∀ i ∈ x.ins, i.args.length ≤ c
structure TF (c : Nat) (f : FuncD) : Prop where
 len : f.blocks.length ≤ 1000
 blk : ∀ x ∈ f.blocks, TB c x
theorem TB.mono {c d : Nat} {x : BlkD} (t : TB c x) (h : c ≤ d) : TB d x := ⟨Nat.le_trans t.phis h, Nat.le_trans t.ins h, Nat.le_trans t.args h, Nat.le_trans t.to h, fun p hp => Nat.le_trans (t.pin p hp) h, fun i hi => Nat.le_trans (t.iar i hi) h⟩
theorem TF.mono {c d : Nat} {f : FuncD} (t : TF c f) (h : c ≤ d) : TF d f := ⟨t.len, fun x hx => (t.blk x hx).mono h⟩
theorem TF.sm {c : Nat} {f : FuncD} (t : TF c f) (h : c ≤ 10000) : SmF f := by
 refine ⟨by have := t.len; omega, fun i hi => ?_⟩
 have q := t.blk _ (nth_mem hi)
 exact ⟨by have := q.phis; omega, by have := q.ins; omega, by have := q.args; omega, by have := q.to; omega, fun k hk => by have := q.pin _ (nth_mem hk); omega, fun k hk => by have := q.iar _ (nth_mem hk); omega⟩
theorem make_tf {s : List Int} : TF 1000 (makeS s) := by
 have q := made5_ok (s := s)
 have hn := madeN_rng (s := s)
 refine ⟨by show (made5 s).blocks.length ≤ _; rw [q.z.len]; omega, fun x hx => ?_⟩
 obtain ⟨j, hj, rfl⟩ := List.getElem_of_mem hx
 have hj : j < (made5 s).blocks.length := hj
 have g := q.g j hj
 have this : TB 1000 (nth (made5 s).blocks j) := ⟨by have := q.z.phis j; omega, q.z.ins j, by have := g.args; omega, g.to, g.phis, fun i hi => by have := g.ins i hi; omega⟩
 rw [nth_eq hj] at this
 exact this
structure Tu (R F X : Nat) (i10 : Own) (c : Nat) (W0 : View) (vbk : Value) (bl : List BlkD) (W : View) (o : Own) (ps : Int) (vp vi va vt : Value) (kd im : Int) (lp : List PhiD) (li : List InsD) (la lt : List Int) : Prop where
 le : W0.le W
 res : o (8, 0) = bx T.api_Func R (RawN.mk (n := 1) [.int .i64 0, .slice none 0 0])
 fn : o (8, 1) = bx T.api_Func F (RawN.mk (n := 1) [.int .i64 ps, vbk])
 blk : o (3, 0) = it T.api_Block vbk bl
 box : o (3, 1) = bx T.api_Block X (RawN.mk (n := 5) [vp, vi, .int .i64 kd, va, vt, .int .i32 im])
 ins : o (3, 2) = it T.api_Ins vi li
 phis : o (3, 3) = it T.api_Phi vp lp
 free : o (4, 0) = none
 fr : ∀ k : Key, 10 ≤ k.1 → o k = i10 k
 ra : SlRd W va la
 rt : SlRd W vt lt
 ips : I64 ps
 ikd : I64 kd
 iim : -2147483648 ≤ im ∧ im ≤ 2147483647
 tb : TB c ⟨lp, li, ⟨kd, la, lt, ⟨im⟩⟩⟩
def TuE (R F X : Nat) (i10 : Own) (c : Nat) (W0 : View) (vbk : Value) (bl : List BlkD) (h : Heap) : Prop := ∃ W o ps vp vi va vt kd im lp li la lt, Tu R F X i10 c W0 vbk bl W o ps vp vi va vt kd im lp li la lt ∧ Owns W h o
theorem TuE.mono {R F X : Nat} {i10 : Own} {c d : Nat} {W0 : View} {vbk : Value} {bl : List BlkD} {h : Heap} (t : TuE R F X i10 c W0 vbk bl h) (hd : c ≤ d) : TuE R F X i10 d W0 vbk bl h := by
 obtain ⟨W, o, ps, vp, vi, va, vt, kd, im, lp, li, la, lt, t, w⟩ := t
 exact ⟨W, o, ps, vp, vi, va, vt, kd, im, lp, li, la, lt, ⟨t.le, t.res, t.fn, t.blk, t.box, t.ins, t.phis, t.free, t.fr, t.ra, t.rt, t.ips, t.ikd, t.iim, t.tb.mono hd⟩, w⟩
section
variable {R F X c : Nat} {i10 : Own} {W0 W : View} {vbk : Value} {bl : List BlkD} {h : Heap} {o : Own} {ps : Int} {vp vi va vt : Value} {kd im : Int} {lp : List PhiD} {li : List InsD} {la lt : List Int}
variable {po : OP} {ty t2 : TypeId} {us : List (Nat × Value)} {x y : Operand} {K : Value → Heap → Prop}
end
theorem Owns.elW {W : View} {h : Heap} {o : Own} {k : Key} {α : Type} [r : Rep α] {e : TypeId} {v : Value} {l : List α} (w : Owns W h o) (hk : o k = it e v l) {i : Nat} (hi : i < l.length) : ∃ cs, cellsAt (vw h) ((slA v).add (i * Rep.n α)) cs ∧ cs.length = Rep.n α ∧ Rep.rd W cs l[i] := by
 obtain ⟨hb, xs, ⟨hl, hown⟩, hel⟩ := w.get hk
 have h0 := hel i hi
 have hle : i * Rep.n α + Rep.n α ≤ l.length * Rep.n α := by rw [← Nat.succ_mul]; exact Nat.mul_le_mul_right _ hi
 have hcl : ((xs.drop (i * Rep.n α)).take (Rep.n α)).length = Rep.n α := by simp; omega
 rcases hown with ⟨rfl, hn⟩ | ⟨g, cap, cur, rfl, h2, h3, h4, h5, h6⟩
 ·omega
 ·have hadd : (slA (.slice (some ⟨g, 0, none⟩) l.length cap)).add (i * Rep.n α) = ⟨g, i * Rep.n α, none⟩ := by
   show (⟨g, 0, none⟩ : Addr).add _ = _
   simp [Addr.z]
  rw [hadd]
  refine ⟨_, ⟨cur, e, (0, 0), rfl, h2, ?_⟩, hcl, h0⟩
  rw [hcl, ← h6, List.drop_take, List.take_take, Nat.min_eq_left (by omega)]
theorem Owns.ldW {W : View} {h : Heap} {o : Own} {k : Key} {α : Type} [r : Rep α] {e : TypeId} {v : Value} {l : List α} (w : Owns W h o) (hk : o k = it e v l) (ha : Rep.agg α = true) {N : Nat} (hn : Rep.n α = N) {i : Nat} (hi : i < l.length) : ∃ u, Un.ev (vw h) (.loads N) (.pointer (some ((slA v).add (i * N)))) = some u ∧ Rd W u l[i] := by
 subst hn
 obtain ⟨cs, h1, h2, h3⟩ := Owns.elW w hk hi
 have := cellsFrom_at h1 cs.length 0 #[] (by omega)
 refine ⟨.agg cs.toArray, ?_, ?_⟩
 ·simp only [Un.ev, vP, Option.bind_some]
  rw [h2] at this
  rw [this]
  simp
 ·unfold Rd
  rw [if_pos ha]
  exact ⟨_, rfl, by simpa using h3⟩
end Go.Proofs.Ytfelpjfopgiabaa
namespace Go.Proofs.Ytfelpjfopgiabaa
open Go Go.Lft
theorem two_cells {a : Value} {v : Int} (ha : a.oneCell' = true) : ∀ c ∈ [Value.int .i64 v, a], c.oneCell' = true := by
 intro c hc
 simp only [List.mem_cons, List.not_mem_nil, or_false] at hc
 rcases hc with rfl | rfl <;> first | rfl | exact ha
theorem lawMade_own {l : List Int} {vl : Value} {h : Heap} {W : View} {o0 : Own} (w0 : Owns W h o0) (ho0 : ∀ k : Key, k.1 < 11 → o0 k = none) (hs : SlRd W vl l) :
  HCalls Try.prog N.law03_made #[vl] h (fun u h' => ∃ W' o vb lb, W.le W' ∧ Owns W' h' o ∧ (∀ k : Key, 3 ≤ k.1 → o k = o0 k) ∧ FnB o vb lb (makeS (l.take 200)) ∧ u = .agg #[.int .i64 (makeS (l.take 200)).params, vb]) := by
 refine calls_lift (args := [vl]) follows F.law03_made E.law03_made (Nat.le_of_ble_eq_true (by kernel_rfl)) fun K hK => ?_
 dsimp only [L.law03_made]
 refine lwp_hide fun z hz => ?_
 simp
 refine w0.do_zero (k := (10, 0)) (n := 1) (z := .agg #[.int .i64 0, .slice none 0 0]) (ho0 _ (by decide)) (by kernel_rfl) rfl (by decide) (by simp [Value.cells, Value.oneCell']) fun h1 q1 w1 => ?_
 generalize h.size = R at w1
 obtain ⟨u2, e2, s2⟩ := sl_first hs 200 200 rfl
 rw [hz]; clear hz z
 refine lwp_hide fun z hz => ?_
 simp [hs.len, e2]
 refine call_to (by kernel_rfl) (made_own w1 (fun k hk => (Own.upd_ne (by rintro rfl; simp at hk)).trans (ho0 k (by omega))) s2) ?_
 rintro _ h3 ⟨W3, o3, vb, lb, hW3, w3, f3, b3, rfl⟩
 have c3 : o3 (10, 0) = _ := (f3 (10, 0) (by decide)).trans Own.upd_self
 refine w3.do_field (k := (10, 0)) (α := RawN 1) (β := RawN 1) Part.all (B := R) (D := RawN.mk (n := 1) [.int .i64 0, .slice none 0 0]) (d := RawN.mk (n := 1) [.int .i64 (makeS (l.take 200)).params, vb]) c3 (by kernel_rfl) rfl rfl (rd_rawN rfl (two_cells (w3.cells b3.blk).2)) fun h4 w4 _ => ?_
 have cb := w4.rawAll (k := (10, 0)) (n := 1) (l := [.int .i64 (makeS (l.take 200)).params, vb]) Own.upd_self
 have cb : Un.ev (vw h4) (.loads 2) (.pointer (some ⟨R, 0, none⟩)) = some (.agg #[.int .i64 (makeS (l.take 200)).params, vb]) := cb
 rw [hz]; clear hz z
 simp [cb]
 refine hK _ _ ⟨W3, fun k => if 3 ≤ k.1 then o0 k else o3 k, vb, lb, hW3, w4.sub fun k i hk => ?_, fun k hk => if_pos hk, ⟨?_, b3.len, b3.term, fun i hi => ?_, fun i hi => ?_⟩, rfl⟩
 ·have h10 : k ≠ (10, 0) := by rintro rfl; rw [if_pos (by decide), ho0 _ (by decide)] at hk; cases hk
  rw [Own.upd_ne h10]
  split at hk
  ·rename_i e
   rw [f3 k e, Own.upd_ne h10]; exact hk
  ·exact hk
 ·exact (if_neg (by decide)).trans b3.blk
 ·exact (if_neg (by show ¬ 3 ≤ 1; decide)).trans (b3.phis i hi)
 ·exact (if_neg (by show ¬ 3 ≤ 2; decide)).trans (b3.ins i hi)
abbrev Q3 := Cat Int (Cat Int Int)
instance : Inhabited Q3 := ⟨⟨0, 0, 0⟩⟩
end Go.Proofs.Ytfelpjfopgiabaa
namespace Go.Proofs.Ytfelpjfopgiabaa
open Go Go.Lft
def Marks (m : BL) (S : Int → Prop) : Prop := m.length = 8192 ∧ ∀ n : Int, 0 ≤ n → n < 8192 → (nth m n.toNat = true ↔ S n)
theorem marks_zero : Marks (List.replicate 8192 false) (fun _ => False) := ⟨List.length_replicate, fun n h0 h1 => by rw [nth_replicate (by omega)]; simp⟩
theorem marks_set {m : BL} {S : Int → Prop} {n : Int} (h : Marks m S) (h0 : 0 ≤ n) (h1 : n < 8192) : Marks (m.set n.toNat true) (fun k => S k ∨ k = n) := by
 refine ⟨by simpa using h.1, fun k k0 k1 => ?_⟩
 rw [nth_set (by rw [h.1]; omega)]
 split
 ·rename_i e; exact ⟨fun _ => .inr (by omega), fun _ => rfl⟩
 ·rename_i e
  rw [h.2 k k0 k1]
  exact ⟨.inl, fun o => o.resolve_right (by rintro rfl; exact e rfl)⟩
theorem Marks.congr {m : BL} {S T : Int → Prop} (h : Marks m S) (he : ∀ n, S n ↔ T n) : Marks m T := ⟨h.1, fun n a b => (h.2 n a b).trans (he n)⟩
theorem once_marks {t : Th} : ∀ {l : List Int} {m m' : BL} {S : Int → Prop}, Marks m S → (∀ n ∈ l, 0 ≤ n ∧ n < 8192) → l.foldlM (refOnce t) m = .ok m' → Marks m' (fun k => S k ∨ k ∈ l) ∧ l.Nodup ∧ ∀ n ∈ l, ¬ S n
 | [], m, m', S, h, _, e => by cases e; exact ⟨h.congr fun n => by simp, List.nodup_nil, fun n hn => by cases hn⟩
 | a :: l, m, m', S, h, hl, e => by
  rw [List.foldlM_cons] at e
  have ha := hl a List.mem_cons_self
  unfold refOnce at e
  by_cases hc : nth m a.toNat = true
  ·rw [if_pos hc] at e; cases e
  ·rw [if_neg hc] at e
   obtain ⟨g1, g2, g3⟩ := once_marks (marks_set h ha.1 ha.2) (fun n hn => hl n (List.mem_cons_of_mem _ hn)) e
   refine ⟨g1.congr fun n => by rw [List.mem_cons, or_assoc], List.nodup_cons.2 ⟨fun hm => g3 a hm (.inr rfl), g2⟩, fun n hn => ?_⟩
   rcases List.mem_cons.1 hn with rfl | hn
   ·exact fun hs => hc ((h.2 n ha.1 ha.2).2 hs)
   ·exact fun hs => g3 n hn (.inl hs)
theorem once_could {t : Th} : ∀ {l : List Int} {m : BL} {S : Int → Prop}, Marks m S → (∀ n ∈ l, 0 ≤ n ∧ n < 8192) → l.Nodup → (∀ n ∈ l, ¬ S n) → ∃ m', l.foldlM (refOnce t) m = .ok m'
 | [], m, S, h, _, _, _ => ⟨m, rfl⟩
 | a :: l, m, S, h, hl, hd, hs => by
  have ha := hl a List.mem_cons_self
  rw [List.foldlM_cons]
  unfold refOnce
  rw [if_neg fun hc => hs a List.mem_cons_self ((h.2 a ha.1 ha.2).1 hc)]
  obtain ⟨d1, d2⟩ := List.nodup_cons.1 hd
  refine once_could (marks_set h ha.1 ha.2) (fun n hn => hl n (List.mem_cons_of_mem _ hn)) d2 fun n hn => ?_
  rintro (g | rfl)
  ·exact hs n (List.mem_cons_of_mem _ hn) g
  ·exact d1 hn
structure ThGood (f : FuncD) (t : Th) : Prop where
 op : isIns f t = true → opBad (insOf f t) = false
 term : isLast f t = true → termS (blkOf f t).term = true
 mks : ∀ n ∈ t.mks, f.params ≤ n ∧ n ≤ 8191
 to : isLast f t = true → ∀ n ∈ (blkOf f t).term.to, 1 ≤ n ∧ n < f.blocks.length
theorem mkd_fold {t : Th} {m : BL} : upE (mkdStep t) t.mks.length m = t.mks.foldlM (refOnce t) m := upE_list (f := refOnce t)
theorem any_false {α : Type} {p : α → Bool} {l : List α} : l.any p = false ↔ ∀ n ∈ l, p n = false := by
 rw [List.any_eq_false]
 exact forall_congr' fun n => forall_congr' fun _ => by simp
theorem numBad_f {f : FuncD} {n : Int} : numBad f n = false ↔ f.params ≤ n ∧ n ≤ 8191 := by simp [numBad]
theorem toBad_f {f : FuncD} {n : Int} : toBad f n = false ↔ 1 ≤ n ∧ n < f.blocks.length := by simp [toBad]
theorem thShape_can {f : FuncD} {t : Th} {m m' : BL} (h : ThGood f t) (e : t.mks.foldlM (refOnce t) m = .ok m') : thShape f t m = .ok m' := by
 unfold thShape
 rw [if_neg, if_neg, if_neg]
 ·rw [mkd_fold, e]
  unfold afterMk
  dsimp only
  rw [if_neg]
  intro c
  obtain ⟨c1, c2⟩ := (Bool.and_eq_true _ _).mp c
  rw [any_false.2 fun n hn => toBad_f.2 (h.to c1 n hn)] at c2
  cases c2
 ·rw [any_false.2 fun n hn => numBad_f.2 (h.mks n hn)]; exact Bool.false_ne_true
 ·intro c
  obtain ⟨c1, c2⟩ := (Bool.and_eq_true _ _).mp c
  rw [h.term c1] at c2; cases c2
 ·intro c
  obtain ⟨c1, c2⟩ := (Bool.and_eq_true _ _).mp c
  rw [h.op c1] at c2; cases c2
def mksOf (l : List Th) : List Int := l.flatMap Th.mks
theorem shapes_can {f : FuncD} (hp : 0 ≤ f.params) : ∀ {l : List Th} {m : BL} {S : Int → Prop}, Marks m S → (∀ t ∈ l, ThGood f t) → (mksOf l).Nodup → (∀ n ∈ mksOf l, ¬ S n) → ∃ m', l.foldlM (fun m t => thShape f t m) m = .ok m'
 | [], m, S, _, _, _, _ => ⟨m, rfl⟩
 | t :: l, m, S, h, hg, hd, hs => by
  have g := hg t List.mem_cons_self
  obtain ⟨d1, d2, d3⟩ := List.nodup_append.1 (show (t.mks ++ mksOf l).Nodup from hd)
  have hr : ∀ n ∈ t.mks, 0 ≤ n ∧ n < 8192 := fun n hn => by have := g.mks n hn; omega
  obtain ⟨m1, e⟩ := once_could (t := t) h hr d1 fun n hn => hs n (List.mem_append_left _ hn)
  rw [List.foldlM_cons, thShape_can g e]
  obtain ⟨k1, _, _⟩ := once_marks h hr e
  exact shapes_can hp k1 (fun x hx => hg x (List.mem_cons_of_mem _ hx)) d2 fun n hn => by
   rintro (q | q)
   ·exact hs n (List.mem_append_right _ hn) q
   ·exact d3 n q n hn rfl
def StandsP (f : FuncD) (v b p : Int) : Prop := (0 ≤ v ∧ v < f.params) ∨ ∃ t ∈ thingsS f, v ∈ t.mks ∧ (t.blk = b ∧ (t.place < 0 ∨ t.place < p) ∨ t.blk ≠ b ∧ ¬ Re (ofG f.blocks) t.blk b.toNat)
structure SiteP (ts : List Th) (s : List Th) : Prop where
 len : s.length = 8192
 is : ∀ n : Int, 0 ≤ n → n < 8192 → (nth s n.toNat = noTh ∧ ∀ t ∈ ts, n ∉ t.mks) ∨ (nth s n.toNat ∈ ts ∧ n ∈ (nth s n.toNat).mks)
theorem site_one {t : Th} {ts : List Th} : ∀ {l : List Int} {s : List Th} {d : List Int}, (∀ n ∈ l, n ∈ t.mks) → (s.length = 8192 ∧ ∀ n : Int, 0 ≤ n → n < 8192 → (nth s n.toNat = noTh ∧ (∀ t ∈ ts, n ∉ t.mks) ∧ n ∉ d) ∨ (nth s n.toNat ∈ ts ++ [t] ∧ n ∈ (nth s n.toNat).mks)) →
  ((l.foldl (siteStep t) s).length = 8192 ∧ ∀ n : Int, 0 ≤ n → n < 8192 → (nth (l.foldl (siteStep t) s) n.toNat = noTh ∧ (∀ t ∈ ts, n ∉ t.mks) ∧ n ∉ d ++ l) ∨ (nth (l.foldl (siteStep t) s) n.toNat ∈ ts ++ [t] ∧ n ∈ (nth (l.foldl (siteStep t) s) n.toNat).mks))
 | [], s, d, _, h => by simpa using h
 | a :: l, s, d, hl, h => by
  rw [List.foldl_cons]
  have := site_one (t := t) (ts := ts) (l := l) (s := siteStep t s a) (d := d ++ [a]) (fun n hn => hl n (List.mem_cons_of_mem _ hn)) ⟨by rw [siteStep_len]; exact h.1, fun n h0 h1 => ?_⟩
  ·simpa using this
  ·unfold siteStep
   split
   ·rw [nth_set (by rw [h.1]; omega)]
    split
    ·rename_i hc e
     have : n = a := by omega
     subst this
     exact .inr ⟨List.mem_append_right _ (List.mem_singleton.2 rfl), hl n List.mem_cons_self⟩
    ·rename_i hc e
     rcases h.2 n h0 h1 with ⟨a1, a2, a3⟩ | a1
     ·refine .inl ⟨a1, a2, ?_⟩
      rw [List.mem_append, List.mem_singleton]
      rintro (q | rfl)
      ·exact a3 q
      ·exact e rfl
     ·exact .inr a1
   ·rename_i hc
    rcases h.2 n h0 h1 with ⟨a1, a2, a3⟩ | a1
    ·refine .inl ⟨a1, a2, ?_⟩
     rw [List.mem_append, List.mem_singleton]
     rintro (q | rfl)
     ·exact a3 q
     ·exact hc ⟨h0, h1⟩
    ·exact .inr a1
theorem site_all : ∀ {l ts s : List Th}, SiteP ts s → SiteP (ts ++ l) (l.foldl siteTh s)
 | [], ts, s, h => by simpa using h
 | t :: l, ts, s, h => by
  rw [List.foldl_cons]
  have := site_one (t := t) (ts := ts) (l := t.mks) (s := s) (d := []) (fun n hn => hn) ⟨h.len, fun n h0 h1 => (h.is n h0 h1).elim (fun a => .inl ⟨a.1, a.2, List.not_mem_nil⟩) fun a => .inr ⟨List.mem_append_left _ a.1, a.2⟩⟩
  have := site_all (l := l) (ts := ts ++ [t]) (s := siteTh s t) ⟨this.1, fun n h0 h1 => (this.2 n h0 h1).elim (fun a => .inl ⟨a.1, fun x hx => ?_⟩) .inr⟩
  ·simpa using this
  ·rcases List.mem_append.1 hx with hx | hx
   ·exact a.2.1 x hx
   ·rw [List.mem_singleton.1 hx]; simpa using a.2.2
theorem made_site {f : FuncD} : SiteP (thingsS f) (madeS f) :=
 site_all (l := thingsS f) (ts := []) (s := List.replicate 8192 noTh) ⟨List.length_replicate, fun n h0 h1 => .inl ⟨nth_replicate (by omega), fun t ht => by cases ht⟩⟩
theorem thing_at {f : FuncD} {t : Th} (h : t ∈ thingsS f) : 0 ≤ t.blk ∧ t.blk < f.blocks.length := by
 obtain ⟨b, hb, ht⟩ := mem_thTo.1 h
 rcases mem_thB.1 ht with ⟨i, hi, rfl⟩ | ⟨i, hi, rfl⟩ | rfl <;> exact ⟨Int.natCast_nonneg _, Int.ofNat_lt.2 hb⟩
theorem away_is {f : FuncD} {a b : Int} (h0 : 0 ≤ a) (h1 : a < f.blocks.length) (h2 : 0 ≤ b) (h3 : b < f.blocks.length) : nth (nth (awayS f) a.toNat) b.toNat = true ↔ Re (ofG f.blocks) a b.toNat := by
 unfold awayS
 rw [nth_rows (by omega), Int.toNat_of_nonneg h0]
 exact reached_spec (by omega)
theorem mks_uniq : ∀ {l : List Th}, (mksOf l).Nodup → ∀ {t t' : Th} {v : Int}, t ∈ l → t' ∈ l → v ∈ t.mks → v ∈ t'.mks → t = t'
 | a :: l, hd, t, t', v, h, h', hv, hv' => by
  obtain ⟨d1, d2, d3⟩ := List.nodup_append.1 (show (a.mks ++ mksOf l).Nodup from hd)
  rcases List.mem_cons.1 h with e1 | h1
  ·rcases List.mem_cons.1 h' with e2 | h2
   ·rw [e1, e2]
   ·exact absurd rfl (d3 v (by rw [← e1]; exact hv) v (List.mem_flatMap.2 ⟨t', h2, hv'⟩))
  ·rcases List.mem_cons.1 h' with e2 | h2
   ·exact absurd rfl (d3 v (by rw [← e2]; exact hv') v (List.mem_flatMap.2 ⟨t, h1, hv⟩))
   ·exact mks_uniq d2 h1 h2 hv hv'
theorem stands_of {f : FuncD} {v b p : Int} (hd : (mksOf (thingsS f)).Nodup) (hr : ∀ t ∈ thingsS f, ∀ n ∈ t.mks, 0 ≤ n ∧ n ≤ 8191) (hb0 : 0 ≤ b) (hb1 : b < f.blocks.length) (h : StandsP f v b p) : standsS f (madeS f) (awayS f) v b p = true := by
 unfold standsS
 rcases h with c | ⟨t, ht, hv, h⟩
 ·rw [if_pos c]
 split
 ·rfl
 have hn := hr t ht v hv
 have hat := thing_at ht
 have e : nth (madeS f) v.toNat = t := by
  rcases made_site.is v hn.1 (by omega) with ⟨_, a⟩ | ⟨a, b⟩
  ·exact absurd hv (a t ht)
  ·exact mks_uniq hd a ht b hv
 rw [e, if_neg (by omega)]
 rcases h with ⟨h1, h2⟩ | ⟨h1, h2⟩
 ·rw [if_pos h1]; simpa using h2
 ·rw [if_neg h1]
  cases ec : nth (nth (awayS f) t.blk.toNat) b.toNat with
  | false => rfl
  | true => exact absurd ((away_is hat.1 hat.2 hb0 hb1).1 ec) h2
structure MayBe (f : FuncD) : Prop where
 params : 0 ≤ f.params ∧ f.params ≤ 4
 blocks : 0 < f.blocks.length ∧ f.blocks.length ≤ 512
 cnt : cntTo f f.blocks.length ≤ 4096
 good : ∀ t ∈ thingsS f, ThGood f t
 nodup : (mksOf (thingsS f)).Nodup
 way : ∀ b : Nat, b < f.blocks.length → Re (ofG f.blocks) (-1) b
 takes : ∀ t ∈ thingsS f, 0 ≤ t.place → ∀ v ∈ t.tks, StandsP f v t.blk t.place
 phi : ∀ b i : Nat, b < f.blocks.length → i < (nth f.blocks b).phis.length → 0 < b ∧ (nth (nth f.blocks b).phis i).ins.map InD.frm = refPredsS f b ∧ ∀ p ∈ (nth (nth f.blocks b).phis i).ins, StandsP f p.val p.frm (insLen f p.frm)
theorem in_preds {f : FuncD} {b x : Int} : x ∈ refPredsS f b ↔ (0 ≤ x ∧ x < f.blocks.length) ∧ b ∈ (nth f.blocks x.toNat).term.to := by
 unfold refPredsS
 rw [mem_sift]
 constructor
 ·rintro ⟨a, ha, hb, rfl⟩
  exact ⟨⟨by omega, by omega⟩, by simpa using hb⟩
 ·rintro ⟨⟨h0, h1⟩, h⟩
  exact ⟨x.toNat, by omega, by simpa using h, by omega⟩
theorem upE_unit {g : Nat → Unit → Except Tr Unit} : ∀ {n : Nat}, (∀ i, i < n → g i () = .ok ()) → upE g n () = .ok ()
 | 0, _ => rfl
 | n + 1, h => by
  simp only [upE]
  rw [upE_unit fun i hi => h i (by omega)]
  exact h n (by omega)
theorem stand_ok {f : FuncD} {t : Th} : thStand f (madeS f) (awayS f) t = .ok () ↔
  (0 ≤ t.place ∧ ∀ v ∈ t.tks, standsS f (madeS f) (awayS f) v t.blk t.place = true) ∨ (t.place < 0 ∧ sameS f t = true ∧ ∀ p ∈ (phiOf f t).ins, standsS f (madeS f) (awayS f) p.val p.frm (insLen f p.frm) = true) := by
 unfold thStand
 by_cases h0 : 0 ≤ t.place
 ·rw [if_pos h0]
  have hn : ¬ t.place < 0 := by omega
  simp only [h0, hn, true_and, false_and, or_false]
  cases e : t.tks.any (stT f (madeS f) (awayS f) t) with
  | true =>
   obtain ⟨v, hv, hs⟩ := List.any_eq_true.1 e
   constructor
   ·intro h; cases h
   ·intro h
    unfold stT at hs
    rw [h v hv] at hs; cases hs
  | false =>
   constructor
   ·intro _ v hv
    have := any_false.1 e v hv
    simpa [stT] using this
   ·intro _; rfl
 ·rw [if_neg h0]
  have hn : t.place < 0 := by omega
  simp only [h0, hn, true_and, false_and, false_or]
  cases e1 : sameS f t with
  | false => simp
  | true =>
   rw [if_neg (by simp)]
   cases e : (phiOf f t).ins.any (stP f (madeS f) (awayS f)) with
   | true =>
    obtain ⟨v, hv, hs⟩ := List.any_eq_true.1 e
    constructor
    ·intro h; cases h
    ·rintro ⟨_, h⟩
     unfold stP at hs
     rw [h v hv] at hs; cases hs
   | false =>
    constructor
    ·intro _
     refine ⟨rfl, fun v hv => ?_⟩
     have := any_false.1 e v hv
     simpa [stP] using this
    ·intro _; rfl
theorem phi_back {f : FuncD} {b i : Nat} : phiOf f (phiT f b i) = nth (nth f.blocks b).phis i := by
 unfold phiOf blkOf phiT
 dsimp only
 rw [Int.toNat_natCast]
 congr 1
 omega
theorem may_of {f : FuncD} (h : MayBe f) : toldS f = (0, 0, 0) := by
 rw [told_same]
 have hp := h.params
 have hb := h.blocks
 have hc := h.cnt
 have hr : ∀ t ∈ thingsS f, ∀ n ∈ t.mks, 0 ≤ n ∧ n ≤ 8191 := fun t ht n hn => by have := (h.good t ht).mks n hn; omega
 unfold refFuncS
 rw [if_neg (by omega), if_neg (by omega), if_neg (by omega)]
 obtain ⟨m, hm⟩ := shapes_can (f := f) (by omega) marks_zero h.good h.nodup fun _ _ => id
 rw [refShape_fold, hm, if_neg (by simp [errOf])]
 have hw : wayE f = .ok () := upE_unit fun i hi => if_pos ((reached_spec hi).2 (h.way i hi))
 have hu : usesE f = .ok () := upE_unit fun i hi => by
  have ht := nth_mem hi
  generalize nth (thingsS f) i = t at ht
  rw [stand_ok]
  have hat := thing_at ht
  by_cases h0 : 0 ≤ t.place
  ·exact .inl ⟨h0, fun v hv => stands_of h.nodup hr hat.1 hat.2 (h.takes t ht h0 v hv)⟩
  ·refine .inr ⟨by omega, ?_⟩
   obtain ⟨b, hb, hm⟩ := mem_thTo.1 ht
   rcases mem_thB.1 hm with ⟨i, hi, rfl⟩ | ⟨i, hi, rfl⟩ | rfl
   ·obtain ⟨k1, k2, k3⟩ := h.phi b i hb hi
    unfold sameS
    rw [phi_back]
    refine ⟨(Bool.and_eq_true _ _).mpr ⟨decide_eq_true (by show (0 : Int) < b; omega), decide_eq_true k2⟩, fun p hp => ?_⟩
    have hm : p.frm ∈ refPredsS f b := by rw [← k2]; exact List.mem_map_of_mem hp
    have := (in_preds.1 hm).1
    exact stands_of h.nodup hr this.1 this.2 (k3 p hp)
   ·exact absurd (Int.natCast_nonneg _) h0
   ·exact absurd (Int.natCast_nonneg _) h0
 rw [hw, hu]
 rfl
end Go.Proofs.Ytfelpjfopgiabaa
namespace Go.Proofs.Ytfelpjfopgiabaa
open Go Go.Lft
def mkB (x : BlkD) : List Int := x.phis.map PhiD.dst ++ x.ins.flatMap makesS
def Sd (m : MS) (b p : Nat) (v : Int) : Prop :=
 (0 ≤ v ∧ v < m.ps) ∨ v ∈ (nth m.blocks b).phis.map PhiD.dst ∨ v ∈ ((nth m.blocks b).ins.take p).flatMap makesS ∨ ∃ a, a < m.blocks.length ∧ a ≠ b ∧ v ∈ mkB (nth m.blocks a) ∧ ¬ Re (ofG m.blocks) a b
structure Ext (m m' : MS) : Prop where
 ps : m'.ps = m.ps
 len : m'.blocks.length = m.blocks.length
 to : ∀ j, (nth m'.blocks j).term.to = (nth m.blocks j).term.to
 phis : ∀ j, ∀ v ∈ (nth m.blocks j).phis.map PhiD.dst, v ∈ (nth m'.blocks j).phis.map PhiD.dst
 ins : ∀ j, ∃ l, (nth m'.blocks j).ins = (nth m.blocks j).ins ++ l
theorem ofG_congr {a b : List BlkD} (hl : a.length = b.length) (h : ∀ j, (nth a j).term.to = (nth b j).term.to) : ofG a = ofG b := by
 unfold ofG
 rw [hl]
 exact congrFun (congrArg rows (funext fun i => by rw [h i])) _
section
variable {m m' m2 : MS}
theorem Ext.gr (e : Ext m m') : ofG m'.blocks = ofG m.blocks := ofG_congr e.len e.to
theorem Ext.refl : Ext m m := ⟨rfl, rfl, fun _ => rfl, fun _ _ h => h, fun _ => ⟨[], by simp⟩⟩
theorem Ext.trans (e : Ext m m') (f : Ext m' m2) : Ext m m2 := ⟨f.ps.trans e.ps, f.len.trans e.len, fun j => (f.to j).trans (e.to j), fun j v h => f.phis j v (e.phis j v h), fun j => by
 obtain ⟨l, h⟩ := e.ins j
 obtain ⟨k, g⟩ := f.ins j
 exact ⟨l ++ k, by rw [g, h, List.append_assoc]⟩⟩
theorem Ext.mkB (e : Ext m m') {j : Nat} {v : Int} (h : v ∈ mkB (nth m.blocks j)) : v ∈ mkB (nth m'.blocks j) := by
 obtain ⟨l, g⟩ := e.ins j
 unfold Go.Proofs.Ytfelpjfopgiabaa.mkB at *
 rw [g, List.flatMap_append]
 rcases List.mem_append.1 h with h | h
 ·exact List.mem_append_left _ (e.phis _ _ h)
 ·exact List.mem_append_right _ (List.mem_append_left _ h)
theorem Ext.le (e : Ext m m') (j : Nat) : (nth m.blocks j).ins.length ≤ (nth m'.blocks j).ins.length := by
 obtain ⟨l, g⟩ := e.ins j
 rw [g, List.length_append]; omega
theorem Sd.ext (e : Ext m m') {b p : Nat} {v : Int} (h : Sd m b p v) : Sd m' b p v := by
 rcases h with h | h | h | ⟨a, h1, h2, h3, h4⟩
 ·exact .inl (by rw [e.ps]; exact h)
 ·exact .inr (.inl (e.phis _ _ h))
 ·obtain ⟨l, g⟩ := e.ins b
  refine .inr (.inr (.inl ?_))
  rw [g, List.take_append, List.flatMap_append]
  exact List.mem_append_left _ h
 ·exact .inr (.inr (.inr ⟨a, by rw [e.len]; exact h1, h2, e.mkB h3, by rw [e.gr]; exact h4⟩))
theorem Sd.le {b p q : Nat} {v : Int} (h : Sd m b p v) (hpq : p ≤ q) : Sd m b q v := by
 rcases h with h | h | h | h
 ·exact .inl h
 ·exact .inr (.inl h)
 ·refine .inr (.inr (.inl ?_))
  obtain ⟨i, hi, hv⟩ := List.mem_flatMap.1 h
  exact List.mem_flatMap.2 ⟨i, (List.take_sublist_take_left hpq).subset hi, hv⟩
 ·exact .inr (.inr (.inr h))
theorem Sd.end (e : Ext m m') {b : Nat} {v : Int} (h : Sd m b (nth m.blocks b).ins.length v) : Sd m' b (nth m'.blocks b).ins.length v := (h.ext e).le (e.le b)
structure Ok (m : MS) : Prop where
 p0 : 0 ≤ m.ps
 pn : m.ps ≤ m.next
 op : ∀ b, b < m.blocks.length → ∀ i ∈ (nth m.blocks b).ins, opBad i = false
 nd : ∀ b, b < m.blocks.length → (mkB (nth m.blocks b)).Nodup
 dj : ∀ a b, a < m.blocks.length → b < m.blocks.length → a ≠ b → ∀ v ∈ mkB (nth m.blocks a), v ∉ mkB (nth m.blocks b)
 rg : ∀ b, b < m.blocks.length → ∀ v ∈ mkB (nth m.blocks b), m.ps ≤ v ∧ v < m.next
 tk : ∀ b, b < m.blocks.length → ∀ i, i < (nth m.blocks b).ins.length → ∀ v ∈ (nth (nth m.blocks b).ins i).args, Sd m b i v
 tm : ∀ b, b < m.blocks.length → ∀ v ∈ (nth m.blocks b).term.args, Sd m b (nth m.blocks b).ins.length v
theorem Ok.at (q : Ok m) {a : Nat} {nx : Int} {l : List Int} (h : m.next ≤ nx) : Ok ⟨a, m.ps, m.blocks, nx, l⟩ :=
 ⟨q.p0, Int.le_trans q.pn h, q.op, q.nd, q.dj, fun b hb v hv => ⟨(q.rg b hb v hv).1, Int.lt_of_lt_of_le (q.rg b hb v hv).2 h⟩, q.tk, q.tm⟩
theorem nth_add {b j : Nat} {i : InsD} (hb : b < m.blocks.length) : nth (m.add b i).blocks j = if b = j then { nth m.blocks b with ins := (nth m.blocks b).ins ++ [i] } else nth m.blocks j := by
 show nth (m.blocks.set b _) j = _
 rcases Nat.lt_or_ge j m.blocks.length with hl | hl
 ·rw [nth_set hl]
 ·rw [nth_ge (by simpa using hl), if_neg (by omega), nth_ge hl]
theorem ext_add {b : Nat} {i : InsD} (hb : b < m.blocks.length) : Ext m (m.add b i) := by
 refine ⟨rfl, add_len, fun j => ?_, fun j => ?_, fun j => ?_⟩ <;> rw [nth_add hb] <;> split
 ·rename_i e; rw [e]
 ·rfl
 ·rename_i e; rw [e]; exact fun _ h => h
 ·exact fun _ h => h
 ·rename_i e; rw [e]; exact ⟨[i], rfl⟩
 ·exact ⟨[], by simp⟩
theorem mkB_add {x : BlkD} {i : InsD} : mkB { x with ins := x.ins ++ [i] } = mkB x ++ makesS i := by
 unfold mkB
 simp
theorem Ok.add (q : Ok m) {b a : Nat} {nx : Int} {i : InsD} {l : List Int} (hb : b < m.blocks.length) (hn : m.next ≤ nx) (hf : ∀ v ∈ makesS i, m.next ≤ v ∧ v < nx) (hd : (makesS i).Nodup) (ho : opBad i = false) (ha : ∀ v ∈ i.args, Sd m b (nth m.blocks b).ins.length v) :
  Ok (MS.add ⟨a, m.ps, m.blocks, nx, l⟩ b i) := by
 have q1 := q.pn
 have q := q.at (a := a) (l := l) hn
 have ha : ∀ v ∈ i.args, Sd ⟨a, m.ps, m.blocks, nx, l⟩ b (nth m.blocks b).ins.length v := ha
 have q0 : ∀ b, b < m.blocks.length → ∀ v ∈ mkB (nth m.blocks b), v < m.next := fun b hb v hv => (‹Ok m›.rg b hb v hv).2
 have hl : ((⟨a, m.ps, m.blocks, nx, l⟩ : MS).add b i).blocks.length = m.blocks.length := add_len
 have e := ext_add (m := ⟨a, m.ps, m.blocks, nx, l⟩) (i := i) hb
 have hnth : ∀ j, nth ((⟨a, m.ps, m.blocks, nx, l⟩ : MS).add b i).blocks j = if b = j then { nth m.blocks b with ins := (nth m.blocks b).ins ++ [i] } else nth m.blocks j := fun j => nth_add hb
 refine ⟨q.p0, q.pn, fun c hc => ?_, fun c hc => ?_, fun c d hc hd' hcd => ?_, fun c hc => ?_, fun c hc => ?_, fun c hc => ?_⟩ <;> rw [hl] at hc
 ·rw [hnth]; split
  ·intro x hx
   rcases List.mem_append.1 hx with hx | hx
   ·exact q.op b hb x hx
   ·rw [List.mem_singleton.1 hx]; exact ho
  ·exact q.op c hc
 ·rw [hnth]; split
  ·rw [mkB_add]
   refine List.nodup_append.2 ⟨q.nd b hb, hd, fun x hx y hy => ?_⟩
   have := q0 b hb x hx
   have := (hf y hy).1
   omega
  ·exact q.nd c hc
 ·rw [hl] at hd'
  rw [hnth, hnth]
  intro v hv hv'
  split at hv
  ·rename_i e1; subst e1
   rw [if_neg hcd] at hv'
   rw [mkB_add] at hv
   rcases List.mem_append.1 hv with hv | hv
   ·exact q.dj _ _ hc hd' hcd v hv hv'
   ·have := q0 d hd' v hv'; have := (hf v hv).1; omega
  ·split at hv'
   ·rename_i e1; subst e1
    rw [mkB_add] at hv'
    rcases List.mem_append.1 hv' with hv' | hv'
    ·exact q.dj _ _ hc hd' hcd v hv hv'
    ·have := q0 c hc v hv; have := (hf v hv').1; omega
   ·exact q.dj _ _ hc hd' hcd v hv hv'
 ·rw [hnth]; split
  ·intro v hv
   rw [mkB_add] at hv
   rcases List.mem_append.1 hv with hv | hv
   ·exact q.rg b hb v hv
   ·have h1 := hf v hv; have h2 : m.ps ≤ m.next := q1; exact ⟨by show m.ps ≤ v; omega, h1.2⟩
  ·exact q.rg c hc
 ·intro k hk v hv
  refine Sd.ext e ?_
  rw [hnth] at hk hv
  split at hk
  ·rename_i e1; subst e1
   rw [if_pos rfl] at hv
   rw [show ({ nth m.blocks b with ins := (nth m.blocks b).ins ++ [i] } : BlkD).ins = (nth m.blocks b).ins ++ [i] from rfl] at hk hv
   rw [List.length_append, List.length_singleton] at hk
   rcases Nat.lt_or_ge k (nth m.blocks b).ins.length with h | h
   ·rw [nth_eq (by simp; omega), List.getElem_append_left h, ← nth_eq h] at hv
    exact q.tk b hb k h v hv
   ·have : k = (nth m.blocks b).ins.length := by omega
    subst this
    rw [nth_eq (by simp), List.getElem_append_right (Nat.le_refl _)] at hv
    simp at hv
    exact ha v hv
  ·rename_i e1
   rw [if_neg e1] at hv
   exact q.tk c hc k hk v hv
 ·intro v hv
  have ht : (nth ((⟨a, m.ps, m.blocks, nx, l⟩ : MS).add b i).blocks c).term = (nth m.blocks c).term := by
   rw [hnth]; split
   ·rename_i e1; rw [e1]
   ·rfl
  rw [ht] at hv
  exact (q.tm c hc v hv).end e
theorem sd_new {b a : Nat} {nx : Int} {i : InsD} {l : List Int} (hb : b < m.blocks.length) {v : Int} (hv : v ∈ makesS i) : Sd (MS.add ⟨a, m.ps, m.blocks, nx, l⟩ b i) b (nth (MS.add ⟨a, m.ps, m.blocks, nx, l⟩ b i).blocks b).ins.length v := by
 rw [nth_add (m := ⟨a, m.ps, m.blocks, nx, l⟩) hb, if_pos rfl]
 refine .inr (.inr (.inl ?_))
 rw [nth_add (m := ⟨a, m.ps, m.blocks, nx, l⟩) hb, if_pos rfl]
 show v ∈ ((((nth m.blocks b).ins ++ [i]).take ((nth m.blocks b).ins ++ [i]).length).flatMap makesS)
 rw [List.take_length, List.flatMap_append]
 exact List.mem_append_right _ (by simpa using hv)
structure In (b : Nat) (m : MS) : Prop where
 ok : Ok m
 lt : b < m.blocks.length
 live : ∀ v ∈ m.live, Sd m b (nth m.blocks b).ins.length v
structure Wk (b k : Nat) (m m' : MS) : Prop where
 inn : In b m'
 live : ∀ v ∈ m.live, v ∈ m'.live
 n0 : m.next ≤ m'.next
 nx : m'.next ≤ m.next + k
 ins : (nth m'.blocks b).ins.length ≤ (nth m.blocks b).ins.length + k
 ext : Ext m m'
variable {b c k l : Nat} {s : List Int}
theorem Wk.refl (q : In b m) : Wk b 0 m m := ⟨q, fun _ h => h, Int.le_refl _, by omega, Nat.le_refl _, .refl⟩
theorem Wk.trans (g : Wk b k m m') (h : Wk b l m' m2) : Wk b (k + l) m m2 :=
 ⟨h.inn, fun v hv => h.live v (g.live v hv), Int.le_trans g.n0 h.n0, by have := g.nx; have := h.nx; omega, by have := g.ins; have := h.ins; omega, g.ext.trans h.ext⟩
theorem Wk.mono (g : Wk b k m m') (h : k ≤ l) : Wk b l m m' := ⟨g.inn, g.live, g.n0, by have := g.nx; omega, by have := g.ins; omega, g.ext⟩
theorem In.took (q : In b m) : In b m.took := ⟨q.ok.at (Int.le_refl _), q.lt, q.live⟩
theorem Ext.same (e : Ext m m') {m2 : MS} (h1 : m2.ps = m'.ps) (h2 : m2.blocks = m'.blocks) : Ext m m2 := by
 obtain ⟨a, b, c, d, f⟩ := e
 exact ⟨by rw [h1]; exact a, by rw [h2]; exact b, by rw [h2]; exact c, by rw [h2]; exact d, by rw [h2]; exact f⟩
theorem Ext.frm {m2 : MS} (e : Ext m2 m') (h1 : m2.ps = m.ps) (h2 : m2.blocks = m.blocks) : Ext m m' := by
 obtain ⟨a, b, c, d, f⟩ := e
 rw [h2] at b c d f
 exact ⟨by rw [← h1]; exact a, b, c, d, f⟩
theorem Wk.took (g : Wk b k m m') : Wk b k m m'.took := ⟨g.inn.took, g.live, g.n0, g.nx, g.ins, g.ext.same rfl rfl⟩
theorem In.add (q : In b m) {a : Nat} {j : Nat} {i : InsD} (hj : j ≤ 2) (hf : ∀ v ∈ makesS i, m.next ≤ v ∧ v < m.next + j) (hd : (makesS i).Nodup) (ho : opBad i = false) (ha : ∀ v ∈ i.args, v ∈ m.live) :
  Wk b (max 1 j) m (MS.add ⟨a, m.ps, m.blocks, m.next + j, m.live⟩ b i) ∧ ∀ v ∈ makesS i, v ∈ (MS.add ⟨a, m.ps, m.blocks, m.next + j, m.live⟩ b i).live := by
 have e : Ext m (MS.add ⟨a, m.ps, m.blocks, m.next + j, m.live⟩ b i) := (ext_add (m := ⟨a, m.ps, m.blocks, m.next + j, m.live⟩) (i := i) q.lt).frm rfl rfl
 refine ⟨⟨⟨q.ok.add q.lt (by omega) hf hd ho fun v hv => q.live v (ha v hv), by rw [e.len]; exact q.lt, fun v hv => ?_⟩, fun v hv => List.mem_append_left _ hv, by show m.next ≤ m.next + j; omega, by show m.next + j ≤ _; omega, ?_, e⟩, fun v hv => List.mem_append_right _ hv⟩
 ·rcases List.mem_append.1 (show v ∈ m.live ++ makesS i from hv) with h | h
  ·exact (q.live v h).end e
  ·exact sd_new q.lt h
 ·rw [nth_add (m := ⟨a, m.ps, m.blocks, m.next + j, m.live⟩) q.lt, if_pos rfl]
  show ((nth m.blocks b).ins ++ [i]).length ≤ _
  rw [List.length_append, List.length_singleton]; omega
theorem In.one (q : In b m) {op : Int} {a : Nat} {x : List Int} {im : I32} (h16 : op ≠ 16) (h18 : op ≠ 18) (ho : opBad ⟨op, m.next, 0, x, im⟩ = false) (ha : ∀ v ∈ x, v ∈ m.live) :
  Wk b 1 m (MS.add ⟨a, m.ps, m.blocks, m.next + 1, m.live⟩ b ⟨op, m.next, 0, x, im⟩) ∧ m.next ∈ (MS.add ⟨a, m.ps, m.blocks, m.next + 1, m.live⟩ b ⟨op, m.next, 0, x, im⟩).live := by
 have e : makesS ⟨op, m.next, 0, x, im⟩ = [m.next] := by unfold makesS; rw [if_neg h16, if_neg h18]
 have := q.add (a := a) (j := 1) (i := ⟨op, m.next, 0, x, im⟩) (by omega) (by rw [e]; intro v hv; rw [List.mem_singleton.1 hv]; omega) (by rw [e]; simp) ho ha
 exact ⟨this.1, this.2 _ (by rw [e]; exact List.mem_singleton.2 rfl)⟩
theorem In.constant (q : In b m) {n : Int} : Wk b 1 m (m.constant b n) ∧ m.next ∈ (m.constant b n).live :=
 q.one (a := m.at_) (op := 1) (by decide) (by decide) rfl fun v hv => by cases hv
theorem In.two (q : In b m) {op x y : Int} (h1 : 2 ≤ op) (h2 : op ≤ 14) (hx : x ∈ m.live) (hy : y ∈ m.live) : Wk b 1 m (m.two b op x y) ∧ m.next ∈ (m.two b op x y).live := by
 refine q.one (a := m.at_) (op := op) (by omega) (by omega) ?_ fun v hv => ?_
 ·have e1 : ¬ op < 1 := by omega
  have e2 : ¬ 18 < op := by omega
  have e3 : op ≠ 1 := by omega
  have e4 : op ≠ 15 := by omega
  have e5 : op ≠ 17 := by omega
  simp [opBad, countsS, e1, e2, e3, e4, e5]
 ·rcases List.mem_cons.1 hv with rfl | hv
  ·exact hx
  ·rw [List.mem_singleton.1 hv]; exact hy
theorem In.someV (q : In b m) : Wk b 1 m (someS s m b).2 ∧ (someS s m b).1 ∈ (someS s m b).2.live := by
 unfold someS
 split
 ·obtain ⟨h1, h2⟩ := q.took.took.constant (n := wordV s m)
  exact ⟨(Wk.refl q).took.took.trans h1, h2⟩
 ·split
  ·obtain ⟨h1, h2⟩ := q.took.took.took.took.took.constant (n := wordV s m.took.took.took)
   exact ⟨(Wk.refl q).took.took.took.took.took.trans h1, h2⟩
  ·rename_i h _
   refine ⟨(Wk.refl q).took.took.took.mono (by omega), ?_⟩
   show valAt s m ∈ m.live
   have := takeV_rng (s := s) (at_ := m.at_) (n := (m.live.length : Int)) (by omega)
   unfold valAt
   refine nth_mem ?_
   split <;> omega
theorem In.bin (q : In b m) {op : Int} (h1 : 2 ≤ op) (h2 : op ≤ 14) : Wk b 4 m (binS s m b op) := by
 obtain ⟨w1, e1⟩ := q.someV (s := s)
 obtain ⟨w2, e2⟩ := w1.inn.someV (s := s)
 unfold binS
 simp only
 split
 ·obtain ⟨w3, e3⟩ := w2.inn.took.took.constant (n := IntKind.i32.wrap (IntKind.i64.wrap (takeV s ((someS s (someS s m b).2 b).2.at_ + 1) 40 - 8)))
  obtain ⟨w4, _⟩ := w3.inn.two h1 h2 (w3.live _ (w2.live _ e1)) e3
  exact ((w1.trans w2).took.took.trans w3).trans w4
 ·obtain ⟨w4, _⟩ := w2.inn.took.two h1 h2 (w2.live _ e1) e2
  exact ((w1.trans w2).took.trans w4).mono (by omega)
theorem In.ltu (q : In b m) : Wk b 3 m (ltuS s m b) := by
 obtain ⟨w1, e1⟩ := q.someV (s := s)
 obtain ⟨w2, e2⟩ := w1.inn.someV (s := s)
 obtain ⟨w3, _⟩ := w2.inn.two (op := 13) (by decide) (by decide) (w2.live _ e1) e2
 exact (w1.trans w2).trans w3
theorem In.div (q : In b m) : Wk b 4 m (divS s m b) := by
 obtain ⟨w1, e1⟩ := q.someV (s := s)
 obtain ⟨w2, e2⟩ := w1.inn.took.constant (n := IntKind.i32.wrap (takeV s (someS s m b).2.at_ 12))
 unfold divS
 simp only
 split
 ·obtain ⟨w3, e3⟩ := w2.inn.took.took.constant (n := IntKind.i32.wrap (1 + IntKind.i32.wrap (takeV s (((someS s m b).2.took.constant b (IntKind.i32.wrap (takeV s (someS s m b).2.at_ 12))).at_ + 1) 12)))
  obtain ⟨w4, _⟩ := w3.inn.two (op := 14) (by decide) (by decide) (w3.live _ (w2.live _ e1)) e3
  exact (((w1.took.trans w2).took.took.trans w3).trans w4)
 ·obtain ⟨w4, _⟩ := w2.inn.took.two (op := 14) (by decide) (by decide) (w2.live _ e1) e2
  exact ((w1.took.trans w2).took.trans w4).mono (by omega)
theorem In.mulw (q : In b m) : Wk b 4 m (mulwS s m b) := by
 obtain ⟨w1, e1⟩ := q.someV (s := s)
 obtain ⟨w2, e2⟩ := w1.inn.someV (s := s)
 generalize hr : someS s (someS s m b).2 b = r at w2 e2
 have e : makesS ⟨18, r.2.next, r.2.next + 1, [(someS s m b).1, r.1], ⟨0⟩⟩ = [r.2.next, r.2.next + 1] := rfl
 have := w2.inn.add (a := r.2.at_) (j := 2) (i := ⟨18, r.2.next, r.2.next + 1, [(someS s m b).1, r.1], ⟨0⟩⟩) (by omega) (by
  rw [e]; intro v hv
  rcases List.mem_cons.1 hv with rfl | hv
  ·omega
  ·rw [List.mem_singleton.1 hv]; omega) (by rw [e]; simp; omega) rfl (fun v hv => by
  rcases List.mem_cons.1 hv with rfl | hv
  ·exact w2.live _ e1
  ·rw [List.mem_singleton.1 hv]; exact e2)
 have h := (w1.trans w2).trans this.1
 have e3 : mulwS s m b = MS.add ⟨r.2.at_, r.2.ps, r.2.blocks, r.2.next + 2, r.2.live⟩ b ⟨18, r.2.next, r.2.next + 1, [(someS s m b).1, r.1], ⟨0⟩⟩ := by
  unfold mulwS
  simp only [hr]
  unfold MS.add MS.freshed
  simp only [MS.mk.injEq, and_true, true_and]
  omega
 rw [e3]
 exact h.mono (by omega)
theorem In.args (q : In b m) : ∀ n, Wk b n m (up (argsS s b) n ([], m)).2 ∧ (up (argsS s b) n ([], m)).1.length = n ∧ ∀ v ∈ (up (argsS s b) n ([], m)).1, v ∈ (up (argsS s b) n ([], m)).2.live
 | 0 => ⟨.refl q, rfl, fun v hv => by cases hv⟩
 | n + 1 => by
  obtain ⟨h1, h2, h3⟩ := In.args q n
  obtain ⟨w, e⟩ := h1.inn.someV (s := s)
  refine ⟨h1.trans w, ?_, fun v hv => ?_⟩
  ·show (_ ++ [_]).length = _
   rw [List.length_append, h2]; rfl
  ·rcases List.mem_append.1 (show v ∈ (up (argsS s b) n ([], m)).1 ++ [(someS s (up (argsS s b) n ([], m)).2 b).1] from hv) with h | h
   ·exact w.live _ (h3 v h)
   ·rw [List.mem_singleton.1 h]; exact e
theorem In.call (q : In b m) : Wk b 5 m (callS s m b) := by
 unfold callS
 simp only
 have ht := takeV_rng (s := s) (at_ := m.at_) (n := 5) (by decide)
 obtain ⟨h1, h2, h3⟩ := q.took.args (s := s) (takeV s m.at_ 5).toNat
 generalize up (argsS s b) (takeV s m.at_ 5).toNat ([], m.took) = r at h1 h2 h3
 have hl : ((r.1.length : Nat) : Int) ≤ 4 := by omega
 have w := h1.inn.one (a := r.2.at_ + 1) (op := 17) (x := r.1) (im := ⟨IntKind.i32.wrap (takeV s r.2.at_ 5)⟩) (by decide) (by decide) (by simp [opBad, countsS]; omega) h3
 have h : Wk b 0 m m.took := (Wk.refl q).took
 exact ((h.trans h1).trans w.1).mono (by omega)
theorem In.addr (q : In b m) : Wk b 5 m (addrS s m b).2 ∧ (addrS s m b).1 ∈ (addrS s m b).2.live := by
 obtain ⟨w1, e1⟩ := q.took.constant (n := IntKind.i32.wrap (takeV s m.at_ 9))
 have h : Wk b 0 m m.took := (Wk.refl q).took
 have w1 := h.trans w1
 have e1 : m.next ∈ _ := e1
 unfold addrS
 simp only
 split
 ·obtain ⟨w2, e2⟩ := w1.inn.took.someV (s := s)
  obtain ⟨w3, e3⟩ := w2.inn.constant (n := 7)
  obtain ⟨w4, e4⟩ := w3.inn.two (op := 5) (by decide) (by decide) (w3.live _ e2) e3
  obtain ⟨w5, e5⟩ := w4.inn.two (op := 2) (by decide) (by decide) (w4.live _ (w3.live _ (w2.live _ e1))) e4
  exact ⟨(((w1.took.trans w2).trans w3).trans w4).trans w5, e5⟩
 ·exact ⟨w1.took.mono (by omega), e1⟩
theorem In.off (q : In b m) : Wk b 0 m (offS s m).2 ∧ (offS s m).2.live = m.live := by
 unfold offS
 split
 ·exact ⟨(Wk.refl q).took.took.took.took, rfl⟩
 ·exact ⟨(Wk.refl q).took.took, rfl⟩
theorem In.memory (q : In b m) {st : Bool} : Wk b 7 m (memoryS s m b st) := by
 obtain ⟨w1, e1⟩ := q.addr (s := s)
 obtain ⟨w2, _⟩ := w1.inn.off (s := s)
 unfold memoryS
 simp only
 split
 ·obtain ⟨w3, e3⟩ := w2.inn.someV (s := s)
  generalize hr : someS s (offS s (addrS s m b).2).2 b = r at w3 e3
  have := w3.inn.add (a := r.2.at_) (j := 0) (i := ⟨16, 0, 0, [(addrS s m b).1, r.1], ⟨(offS s (addrS s m b).2).1⟩⟩) (by omega) (fun v hv => by cases hv) List.nodup_nil rfl (fun v hv => by
   rcases List.mem_cons.1 hv with rfl | hv
   ·exact w3.live _ (w2.live _ e1)
   ·rw [List.mem_singleton.1 hv]; exact e3)
  have e : (⟨r.2.at_, r.2.ps, r.2.blocks, r.2.next + ((0 : Nat) : Int), r.2.live⟩ : MS) = r.2 := by
   cases r.2; simp
  rw [e] at this
  exact ((w1.trans w2).trans w3).trans this.1
 ·have w := w2.inn.one (a := (offS s (addrS s m b).2).2.at_) (op := 15) (x := [(addrS s m b).1]) (im := ⟨(offS s (addrS s m b).2).1⟩) (by decide) (by decide) rfl (fun v hv => by rw [List.mem_singleton.1 hv]; exact w2.live _ e1)
  exact ((w1.trans w2).trans w.1).mono (by omega)
theorem In.instruction (q : In b m) : Wk b 7 m (instructionS s b m) := by
 have h : Wk b 0 m m.took := (Wk.refl q).took
 have ht := takeV_rng (s := s) (at_ := m.at_) (n := 20) (by decide)
 unfold instructionS
 simp only
 split
 ·have h2 : ∀ x ∈ opsL, 2 ≤ x ∧ x ≤ 14 := by decide
  have hl : opsL.length = 12 := rfl
  have := h2 _ (nth_mem (l := opsL) (i := (takeV s m.at_ 20).toNat) (by omega))
  exact (h.trans (q.took.bin this.1 this.2)).mono (by omega)
 split
 ·exact (h.trans q.took.ltu).mono (by omega)
 split
 ·exact (h.trans q.took.div).mono (by omega)
 split
 ·exact (h.trans q.took.memory).mono (by omega)
 split
 ·exact (h.trans q.took.call).mono (by omega)
 split
 ·exact (h.trans q.took.mulw).mono (by omega)
 ·exact ((Wk.refl q).took.took.took.trans (q.took.took.took.constant (n := wordV s m.took)).1).mono (by omega)
theorem In.instructions (q : In b m) : ∀ n, Wk b (7 * n) m (up (fun _ => instructionS s b) n m)
 | 0 => .refl q
 | n + 1 => by
  have h := In.instructions q n
  exact (h.trans h.inn.instruction).mono (by omega)
theorem In.term (q : In b m) {to : List Int} (hl : to.length ≤ 65) : Wk b 3 m (mkTermS s to b m).2 ∧ termS (mkTermS s to b m).1 = true ∧ (mkTermS s to b m).1.to = to ∧ ∀ v ∈ (mkTermS s to b m).1.args, v ∈ (mkTermS s to b m).2.live := by
 have h : Wk b 0 m m.took := (Wk.refl q).took
 unfold mkTermS
 simp only
 split
 ·rename_i h0
  have hto : to = [] := List.length_eq_zero_iff.1 h0
  split
  ·exact ⟨(Wk.refl q).took.took.mono (by omega), rfl, hto.symm, fun v hv => by cases hv⟩
  split
  ·obtain ⟨w, e⟩ := q.took.someV (s := s)
   exact ⟨(h.trans w).mono (by omega), rfl, hto.symm, fun v hv => by rw [List.mem_singleton.1 hv]; exact e⟩
  ·exact ⟨h.mono (by omega), rfl, hto.symm, fun v hv => by cases hv⟩
 split
 ·rename_i h1
  exact ⟨(Wk.refl q).mono (by omega), by simp [termS, h1], rfl, fun v hv => by cases hv⟩
 split
 ·rename_i h2
  obtain ⟨w1, e1⟩ := q.someV (s := s)
  split
  ·obtain ⟨w2, e2⟩ := w1.inn.took.someV (s := s)
   generalize someS s (someS s m b).2.took b = r at w2 e2
   have hr := takeV_rng (s := s) (at_ := r.2.at_) (n := 3) (by decide)
   have hop : ∀ x ∈ cmpL, 11 ≤ x ∧ x ≤ 13 := by decide
   have hcl : cmpL.length = 3 := rfl
   have ho := hop _ (nth_mem (l := cmpL) (i := (takeV s r.2.at_ 3).toNat) (by omega))
   generalize nth cmpL (takeV s r.2.at_ 3).toNat = op at ho
   have w3 := w2.inn.one (a := r.2.at_ + 1) (op := op) (x := [(someS s m b).1, r.1]) (im := ⟨0⟩) (by omega) (by omega) (by
    have e1 : ¬ op < 1 := by omega
    have e2 : ¬ 18 < op := by omega
    have e3 : op ≠ 1 := by omega
    have e4 : op ≠ 15 := by omega
    have e5 : op ≠ 17 := by omega
    simp [opBad, countsS, e1, e2, e3, e4, e5]) (fun v hv => by
    rcases List.mem_cons.1 hv with rfl | hv
    ·exact w2.live _ e1
    ·rw [List.mem_singleton.1 hv]; exact e2)
   exact ⟨(w1.took.trans w2).trans w3.1, by simp [termS, h2], rfl, fun v hv => by rw [List.mem_singleton.1 hv]; exact w3.2⟩
  ·exact ⟨w1.took.mono (by omega), by simp [termS, h2], rfl, fun v hv => by rw [List.mem_singleton.1 hv]; exact e1⟩
 ·rename_i h0 h1 h2
  obtain ⟨w1, e1⟩ := q.someV (s := s)
  obtain ⟨w2, e2⟩ := w1.inn.constant (n := 7)
  obtain ⟨w3, e3⟩ := w2.inn.two (op := 5) (by decide) (by decide) (w2.live _ e1) e2
  exact ⟨(w1.trans w2).trans w3, by simp [termS]; omega, rfl, fun v hv => by rw [List.mem_singleton.1 hv]; exact e3⟩
end
end Go.Proofs.Ytfelpjfopgiabaa
namespace Go.Proofs.Ytfelpjfopgiabaa
open Go Go.Lft
structure Tt (n k c : Nat) (x : TgS) : Prop where
 len : x.1.length = n
 row : ∀ i, (nth x.1 i).length ≤ c
 rng : ∀ i, ∀ v ∈ nth x.1 i, 1 ≤ v ∧ v < n
 way : ∀ b : Nat, 1 ≤ b → b ≤ k → ∃ a, a < b ∧ (b : Int) ∈ nth x.1 a
section
variable {s : List Int} {n k c : Nat} {x : TgS}
theorem nth_tgPut {p b : Nat} {m : MS} (hp : p < x.1.length) (i : Nat) : nth (tgPut x p b m).1 i = if p = i then nth x.1 p ++ [(b : Int)] else nth x.1 i := by
 show nth (x.1.set p _) i = _
 rcases Nat.lt_or_ge i x.1.length with hl | hl
 ·rw [nth_set hl]
 ·rw [nth_ge (by simpa using hl), if_neg (by omega), nth_ge hl]
theorem Tt.put (h : Tt n k c x) {p b : Nat} {m : MS} (hp : p < n) (h1 : 1 ≤ b) (hb : b < n) : Tt n k (c + 1) (tgPut x p b m) ∧ (b : Int) ∈ nth (tgPut x p b m).1 p := by
 have hp' : p < x.1.length := by rw [h.len]; exact hp
 refine ⟨⟨tgPut_len.trans h.len, fun i => ?_, fun i v hv => ?_, fun d h1 h2 => ?_⟩, by rw [nth_tgPut hp', if_pos rfl]; exact List.mem_append_right _ (List.mem_singleton.2 rfl)⟩
 ·rw [nth_tgPut hp']; split
  ·rw [List.length_append, List.length_singleton]; have := h.row p; omega
  ·have := h.row i; omega
 ·rw [nth_tgPut hp'] at hv; split at hv
  ·rcases List.mem_append.1 hv with hv | hv
   ·exact h.rng _ v hv
   ·rw [List.mem_singleton.1 hv]; omega
  ·exact h.rng _ v hv
 ·obtain ⟨a, h3, h4⟩ := h.way d h1 h2
  refine ⟨a, h3, ?_⟩
  rw [nth_tgPut hp']; split
  ·rename_i e; subst e; exact List.mem_append_left _ h4
  ·exact h4
theorem Tt.tgA (h : Tt n k c x) (hk : k + 1 < n) : Tt n (k + 1) (c + 1) (tgA s k x) := by
 have key : ∀ {p : Nat} {m : MS}, p ≤ k → Tt n (k + 1) (c + 1) (tgPut x p (k + 1) m) := fun {p m} hp => by
  obtain ⟨h1, h2⟩ := h.put (p := p) (b := k + 1) (m := m) (by omega) (by omega) hk
  refine ⟨h1.len, h1.row, h1.rng, fun b hb1 hb2 => ?_⟩
  rcases Nat.lt_or_ge k b with q | q
  ·have : b = k + 1 := by omega
   subst this; exact ⟨p, by omega, h2⟩
  ·exact h1.way b hb1 q
 unfold Go.Proofs.Ytfelpjfopgiabaa.tgA
 split
 ·have := takeV_rng (s := s) (at_ := x.2.at_ + 1) (n := ((k + 1 : Nat) : Int)) (by omega)
  exact key (by omega)
 ·exact key (Nat.le_refl _)
theorem Tt.tgI (h : Tt n k c x) {b : Nat} (hb : b < n) (hn : 1 < n) : Tt n k (c + 1) (tgI s n b x) := by
 have := takeV_rng (s := s) (at_ := x.2.at_) (n := (n : Int) - 1) (by omega)
 unfold Go.Proofs.Ytfelpjfopgiabaa.tgI
 simp only
 repeat' split
 ·exact (h.put (by omega) (by omega) (by omega)).1
 ·exact (h.put (by omega) (by omega) (by omega)).1
 ·exact (h.put (by omega) (by omega) (by omega)).1
theorem Tt.upI (h : Tt n k c x) {b : Nat} (hb : b < n) (hn : 1 < n) : ∀ j, Tt n k (c + j) (up (fun _ => Go.Proofs.Ytfelpjfopgiabaa.tgI s n b) j x)
 | 0 => h
 | j + 1 => (Tt.upI h hb hn j).tgI hb hn
theorem Tt.mono {d : Nat} (h : Tt n k c x) (hd : c ≤ d) : Tt n k d x := ⟨h.len, fun i => Nat.le_trans (h.row i) hd, h.rng, h.way⟩
theorem Tt.tgB (h : Tt n k c x) {b : Nat} (hb : b < n) : Tt n k (c + 2) (tgB s n b x) := by
 unfold Go.Proofs.Ytfelpjfopgiabaa.tgB
 have h0 : Tt n k c (x.1, x.2.took) := ⟨h.len, h.row, h.rng, h.way⟩
 by_cases hn : 1 < n
 ·rw [if_pos hn]
  have := takeV_rng (s := s) (at_ := x.2.at_) (n := 6) (by decide)
  exact (h0.upI hb hn _).mono (by omega)
 ·rw [if_neg hn]
  exact h0.mono (by omega)
theorem Tt.upB (h : Tt n k c x) : ∀ j, j ≤ n → Tt n k (c + 2 * j) (up (Go.Proofs.Ytfelpjfopgiabaa.tgB s n) j x)
 | 0, _ => h
 | j + 1, hj => (Tt.upB h j (by omega)).tgB (by omega)
theorem Tt.upA (h : Tt n 0 c x) : ∀ j, j < n → Tt n j (c + j) (up (Go.Proofs.Ytfelpjfopgiabaa.tgA s) j x)
 | 0, _ => h
 | j + 1, hj => (Tt.upA h j (by omega)).tgA hj
theorem made1_t : Tt (madeN s) (madeN s - 1) 26 (made1 s) := by
 obtain ⟨h1, h2⟩ := madeN_rng (s := s)
 have e : ∀ i, nth (List.replicate (madeN s) ([] : List Int)) i = [] := fun i => by
  rcases Nat.lt_or_ge i (madeN s) with hi | hi
  ·rw [nth_replicate hi]
  ·rw [nth_ge (by simpa using hi)]; rfl
 have t0 : Tt (madeN s) 0 0 (List.replicate (madeN s) ([] : List Int), made0 s) := ⟨by simp, fun i => by rw [e]; exact Nat.le_refl _, fun i v hv => by { rw [e] at hv; cases hv }, fun b h1 h2 => by omega⟩
 exact ((t0.upA (s := s) (madeN s - 1) (by omega)).upB (s := s) (madeN s) (Nat.le_refl _)).mono (by omega)
end
structure Gt (n : Nat) (to : List (List Int)) (m : MS) : Prop where
 len : m.blocks.length = n
 to : ∀ j, j < n → (nth m.blocks j).term.to = nth to j
section
variable {s : List Int} {n : Nat} {to : List (List Int)} {m m' : MS} {b : Nat}
theorem Gt.ext (g : Gt n to m) (e : Ext m m') : Gt n to m' := ⟨e.len.trans g.len, fun j hj => (e.to j).trans (g.to j hj)⟩
theorem setTo_nth {l : List Int} {j : Nat} (hb : b < m.blocks.length) : nth (m.setTo b l).blocks j = if b = j then { nth m.blocks b with term := { (nth m.blocks b).term with to := l } } else nth m.blocks j := by
 show nth (m.blocks.set b _) j = _
 rcases Nat.lt_or_ge j m.blocks.length with hl | hl
 ·rw [nth_set hl]
 ·rw [nth_ge (by simpa using hl), if_neg (by omega), nth_ge hl]
theorem setTo_up {m0 : MS} (hl : m0.blocks = List.replicate n zeroB) : ∀ k, k ≤ n → (up (fun b m => MS.setTo m b (nth to b)) k m0).blocks.length = n ∧ (∀ j, j < n → nth (up (fun b m => MS.setTo m b (nth to b)) k m0).blocks j = ⟨[], [], ⟨0, [], if j < k then nth to j else [], ⟨0⟩⟩⟩) ∧ (up (fun b m => MS.setTo m b (nth to b)) k m0).ps = m0.ps ∧ (up (fun b m => MS.setTo m b (nth to b)) k m0).next = m0.next
 | 0, _ => ⟨by show m0.blocks.length = n; rw [hl, List.length_replicate], fun j hj => by show nth m0.blocks j = _; rw [hl, nth_replicate hj, if_neg (by omega)]; rfl, rfl, rfl⟩
 | k + 1, hk => by
  obtain ⟨h1, h2, h3, h4⟩ := setTo_up hl k (by omega)
  refine ⟨?_, fun j hj => ?_, h3, h4⟩
  ·show (List.set _ _ _).length = n
   rw [List.length_set]; exact h1
  ·show nth (MS.setTo _ k (nth to k)).blocks j = _
   rw [setTo_nth (by rw [h1]; omega), h2 k (by omega), h2 j hj]
   by_cases e : k = j
   ·subst e; rw [if_pos rfl, if_pos (Nat.lt_succ_self _)]
   ·rw [if_neg e]
    by_cases h : j < k
    ·rw [if_pos h, if_pos (by omega)]
    ·rw [if_neg h, if_neg (by omega)]
theorem made2_is : (made2 s).blocks.length = madeN s ∧ (∀ j, j < madeN s → nth (made2 s).blocks j = ⟨[], [], ⟨0, [], nth (made1 s).1 j, ⟨0⟩⟩⟩) ∧ (made2 s).ps = takeV s 0 5 ∧ (made2 s).next = takeV s 0 5 := by
 have e := made1_same (s := s)
 obtain ⟨h1, h2, h3, h4⟩ := setTo_up (n := madeN s) (to := (made1 s).1) (m0 := { (made1 s).2 with blocks := List.replicate (madeN s) zeroB }) rfl (madeN s) (Nat.le_refl _)
 exact ⟨h1, fun j hj => by have := h2 j hj; rw [if_pos hj] at this; exact this, h3.trans e.1, h4.trans e.2.2.1⟩
theorem way_re {l : List BlkD} (h0 : 0 < l.length) (h : ∀ b : Nat, 1 ≤ b → b < l.length → ∃ a, a < b ∧ (b : Int) ∈ (nth l a).term.to) : ∀ b, b < l.length → Re (ofG l) (-1) b := by
 intro b
 induction b using Nat.strongRecOn with
 | ind b ih =>
  intro hb
  rcases Nat.eq_zero_or_pos b with rfl | hp
  ·exact .root (by rw [ofG_len]; exact hb) (by decide)
  ·obtain ⟨a, ha, hm⟩ := h b hp hb
   refine .step (ih a ha (by omega)) ?_ (by omega)
   rw [edge_ofG]
   exact ⟨⟨by omega, by omega, by omega, by omega⟩, by rw [Int.toNat_natCast]; exact hm⟩
theorem ready_ex {l : List BlkD} {dn : BL} (hw : ∀ b, b < l.length → Re (ofG l) (-1) b) {b : Nat} (hb : b < l.length) (hd : nth dn b = false) : ∃ x, x < l.length ∧ nth dn x = false ∧ ∀ a, a < l.length → a = x ∨ nth dn a = true ∨ Re (ofG l) (a : Int) x := by
  have key : ∀ {b : Nat}, Re (ofG l) (-1) b → (∃ x, x < l.length ∧ nth dn x = false ∧ ∀ a, a < l.length → a = x ∨ nth dn a = true ∨ Re (ofG l) (a : Int) x) ∨ (nth dn b = true ∧ ∀ a, a < l.length → nth dn a = false → Re (ofG l) (a : Int) b) := by
    intro b h
    induction h with
    | root h0 _ =>
      cases e : nth dn 0 with
      | true => exact .inr ⟨rfl, fun a _ ha => .root h0 (by rintro h; have : a = 0 := by omega
                                                            subst this; rw [e] at ha; cases ha)⟩
      | false => exact .inl ⟨0, by rw [ofG_len] at h0; exact h0, e, fun a _ => by
          rcases Nat.eq_zero_or_pos a with q | q
          · exact .inl q
          · exact .inr (.inr (.root h0 (by omega)))⟩
    | @step a b ha he _ ih =>
      rcases ih with ih | ⟨ih1, ih2⟩
      · exact .inl ih
      have hlb := (edge_ofG.1 he).1
      cases e : nth dn b with
      | true => exact .inr ⟨rfl, fun c hc h => .step (ih2 c hc h) he (by rintro q; have : b = c := by omega
                                                                         subst this; rw [e] at h; cases h)⟩
      | false =>
        refine .inl ⟨b, by omega, e, fun c hc => ?_⟩
        rcases Nat.decEq c b with q | q
        · cases e2 : nth dn c with
          | true => exact .inr (.inl rfl)
          | false => exact .inr (.inr (.step (ih2 c hc e2) he (by omega)))
        · exact .inl q
  rcases key (hw b hb) with h | ⟨h, _⟩
  · exact h
  · rw [hd] at h; cases h
theorem addPhi_nth {j : Nat} (hb : b < m.blocks.length) : nth (addPhi b m).blocks j = if b = j then { nth m.blocks b with phis := (nth m.blocks b).phis ++ [⟨m.next, []⟩] } else nth m.blocks j := by
 show nth (m.blocks.set b _) j = _
 rcases Nat.lt_or_ge j m.blocks.length with hl | hl
 ·rw [nth_set hl]
 ·rw [nth_ge (by simpa using hl), if_neg (by omega), nth_ge hl]
structure P0 (n : Nat) (to : List (List Int)) (m : MS) : Prop where
 gt : Gt n to m
 ok : Ok m
 none : ∀ j, j < n → (nth m.blocks j).ins = []
theorem mkB_phi {x : BlkD} {v : Int} (h : x.ins = []) : mkB { x with phis := x.phis ++ [⟨v, []⟩] } = mkB x ++ [v] := by
 unfold mkB
 simp [h]
theorem P0.addPhi (q : P0 n to m) (hb : b < n) : P0 n to (addPhi b m) := by
 have hbl : b < m.blocks.length := by rw [q.gt.len]; exact hb
 have hl : (Go.Proofs.Ytfelpjfopgiabaa.addPhi b m).blocks.length = m.blocks.length := List.length_set
 have hlen := q.gt.len
 have e : Ext m (Go.Proofs.Ytfelpjfopgiabaa.addPhi b m) := by
  refine ⟨rfl, hl, fun j => ?_, fun j => ?_, fun j => ?_⟩ <;> rw [addPhi_nth hbl] <;> split
  ·rename_i e; rw [e]
  ·rfl
  ·rename_i e; rw [← e]; intro v hv
   show v ∈ (List.map PhiD.dst ((nth m.blocks b).phis ++ [_]))
   rw [List.map_append]; exact List.mem_append_left _ hv
  ·exact fun _ h => h
  ·rename_i e; rw [e]; exact ⟨[], by simp⟩
  ·exact ⟨[], by simp⟩
 have hin : ∀ j, (nth (Go.Proofs.Ytfelpjfopgiabaa.addPhi b m).blocks j).ins = (nth m.blocks j).ins := fun j => by
  rw [addPhi_nth hbl]; split
  ·rename_i e; rw [e]
  ·rfl
 have htm : ∀ j, (nth (Go.Proofs.Ytfelpjfopgiabaa.addPhi b m).blocks j).term = (nth m.blocks j).term := fun j => by
  rw [addPhi_nth hbl]; split
  ·rename_i e; rw [e]
  ·rfl
 have hmk : ∀ j, j < n → mkB (nth (Go.Proofs.Ytfelpjfopgiabaa.addPhi b m).blocks j) = if b = j then mkB (nth m.blocks j) ++ [m.next] else mkB (nth m.blocks j) := fun j hj => by
  rw [addPhi_nth hbl]; split
  ·rename_i e; rw [mkB_phi (q.none b hb), e]
  ·rfl
 have k := q.ok
 refine ⟨q.gt.ext e, ⟨k.p0, by have := k.pn; show m.ps ≤ m.next + 1; omega, fun c hc => ?_, fun c hc => ?_, fun c d hc hd hcd => ?_, fun c hc => ?_, fun c hc i hi => ?_, fun c hc v hv => ?_⟩, fun j hj => by rw [hin]; exact q.none j hj⟩ <;> rw [hl] at hc
 ·rw [hin]; exact k.op c hc
 ·rw [hmk c (by omega)]; split
  ·refine List.nodup_append.2 ⟨k.nd c hc, by simp, fun x hx y hy => ?_⟩
   have := (k.rg c hc x hx).2
   have := List.mem_singleton.1 hy
   omega
  ·exact k.nd c hc
 ·rw [hl] at hd
  rw [hmk c (by omega), hmk d (by omega)]
  intro v hv hv'
  have h1 : v ∈ mkB (nth m.blocks c) ∨ (b = c ∧ v = m.next) := by
   split at hv
   ·rcases List.mem_append.1 hv with h | h
    ·exact .inl h
    ·exact .inr ⟨‹_›, List.mem_singleton.1 h⟩
   ·exact .inl hv
  have h2 : v ∈ mkB (nth m.blocks d) ∨ (b = d ∧ v = m.next) := by
   split at hv'
   ·rcases List.mem_append.1 hv' with h | h
    ·exact .inl h
    ·exact .inr ⟨‹_›, List.mem_singleton.1 h⟩
   ·exact .inl hv'
  rcases h1 with h1 | ⟨h1, h1'⟩
  ·rcases h2 with h2 | ⟨h2, h2'⟩
   ·exact k.dj c d hc hd hcd v h1 h2
   ·have := (k.rg c hc v h1).2; omega
  ·rcases h2 with h2 | ⟨h2, h2'⟩
   ·have := (k.rg d hd v h2).2; omega
   ·exact hcd (h1.symm.trans h2)
 ·rw [hmk c (by omega)]
  intro v hv
  have h1 : v ∈ mkB (nth m.blocks c) ∨ v = m.next := by
   split at hv
   ·rcases List.mem_append.1 hv with h | h
    ·exact .inl h
    ·exact .inr (List.mem_singleton.1 h)
   ·exact .inl hv
  show m.ps ≤ v ∧ v < m.next + 1
  rcases h1 with h1 | h1
  ·have := k.rg c hc v h1; omega
  ·have := k.pn; omega
 ·rw [hin, q.none c (by omega)] at hi
  exact absurd hi (Nat.not_lt_zero _)
 ·rw [htm] at hv
  exact (k.tm c hc v hv).end e
theorem P0.took (q : P0 n to m) : P0 n to m.took := ⟨⟨q.gt.len, q.gt.to⟩, q.ok.at (Int.le_refl _), q.none⟩
theorem P0.addPhis (q : P0 n to m) (hb : b < n) : ∀ k, P0 n to (up (fun _ => Go.Proofs.Ytfelpjfopgiabaa.addPhi b) k m) ∧ (up (fun _ => Go.Proofs.Ytfelpjfopgiabaa.addPhi b) k m).next = m.next + k
 | 0 => ⟨q, by show m.next = m.next + ((0 : Nat) : Int); omega⟩
 | k + 1 => by
  obtain ⟨h1, h2⟩ := P0.addPhis q hb k
  refine ⟨h1.addPhi hb, ?_⟩
  show (up (fun _ => Go.Proofs.Ytfelpjfopgiabaa.addPhi b) k m).next + 1 = _
  rw [h2]; omega
theorem P0.phis {lp : List Int} (q : P0 n to m) : ∀ k, k < n → P0 n to (up (phiStep s) k (lp, m)).2 ∧ (up (phiStep s) k (lp, m)).2.next ≤ m.next + 3 * k ∧ nth (up (phiStep s) k (lp, m)).1 0 = nth lp 0
 | 0, _ => ⟨q, by show m.next ≤ _; omega, rfl⟩
 | k + 1, hk => by
  obtain ⟨h1, h2, h3⟩ := P0.phis (lp := lp) q k (by omega)
  have e : up (phiStep s) (k + 1) (lp, m) = phiStep s k (up (phiStep s) k (lp, m)) := rfl
  rw [e]
  generalize up (phiStep s) k (lp, m) = y at h1 h2 h3
  obtain ⟨c0, c1⟩ := phiCnt_rng (s := s) (m := y.2) (b := k + 1)
  obtain ⟨h4, h5⟩ := h1.took.addPhis (b := k + 1) hk (phiCnt s y.2 (k + 1)).toNat
  refine ⟨h4, ?_, ?_⟩
  ·show (up (fun _ => Go.Proofs.Ytfelpjfopgiabaa.addPhi (k + 1)) (phiCnt s y.2 (k + 1)).toNat y.2.took).next ≤ _
   rw [h5]
   show y.2.next + _ ≤ _
   omega
  ·show nth (y.1.set (k + 1) _) 0 = _
   rcases Nat.lt_or_ge 0 y.1.length with hl | hl
   ·rw [nth_set hl, if_neg (by omega)]; exact h3
   ·rw [nth_ge (by simpa using hl), ← h3, nth_ge hl]
theorem made2_p0 : P0 (madeN s) (made1 s).1 (made2 s) := by
 obtain ⟨h1, h2, h3, h4⟩ := made2_is (s := s)
 have t := takeV_rng (s := s) (at_ := 0) (n := 5) (by decide)
 refine ⟨⟨h1, fun j hj => by rw [h2 j hj]⟩, ⟨by rw [h3]; omega, by rw [h3, h4]; omega, fun b hb => ?_, fun b hb => ?_, fun a b ha hb _ => ?_, fun b hb => ?_, fun b hb i hi => ?_, fun b hb => ?_⟩, fun j hj => by rw [h2 j hj]⟩ <;> rw [h1] at *
 ·rw [h2 b hb]; intro i hi; cases hi
 ·rw [h2 b hb]; exact List.nodup_nil
 ·rw [h2 a ha]; intro v hv; cases hv
 ·rw [h2 b hb]; intro v hv; cases hv
 ·rw [h2 b hb] at hi; exact absurd hi (Nat.not_lt_zero _)
 ·rw [h2 b hb]; intro v hv; cases hv
theorem made3_p0 : P0 (madeN s) (made1 s).1 (made3 s).2 ∧ (made3 s).2.next ≤ 28 ∧ nth (made3 s).1 0 = 0 := by
 obtain ⟨h1, h2⟩ := madeN_rng (s := s)
 obtain ⟨q1, q2, q3⟩ := (made2_p0 (s := s)).phis (s := s) (lp := List.replicate (madeN s) 0) (madeN s - 1) (by omega)
 have t := takeV_rng (s := s) (at_ := 0) (n := 5) (by decide)
 have e := (made2_is (s := s)).2.2.2
 refine ⟨q1, ?_, ?_⟩
 ·show (up (phiStep s) (madeN s - 1) (List.replicate (madeN s) 0, made2 s)).2.next ≤ 28
  omega
 ·show nth (up (phiStep s) (madeN s - 1) (List.replicate (madeN s) 0, made2 s)).1 0 = 0
  rw [q3, nth_replicate (by omega)]
def cnt0 : BL → Nat
 | [] => 0
 | a :: l => (if a = true then 0 else 1) + cnt0 l
theorem nth_cons {α : Type} [Inhabited α] {a : α} {l : List α} {j : Nat} : nth (a :: l) (j + 1) = nth l j := by simp [nth]
theorem cnt0_le : ∀ {l l' : BL}, l.length = l'.length → (∀ j, j < l.length → nth l j = true → nth l' j = true) → cnt0 l' ≤ cnt0 l
 | [], [], _, _ => Nat.le_refl _
 | a :: l, a' :: l', hl, h => by
  have h1 := cnt0_le (l := l) (l' := l') (by simpa using hl) fun j hj => by
   have := h (j + 1) (by simpa using hj)
   rwa [nth_cons, nth_cons] at this
  have h2 : a = true → a' = true := h 0 (by simp)
  unfold cnt0
  cases a <;> cases a' <;> simp_all <;> omega
theorem cnt0_lt : ∀ {l l' : BL}, l.length = l'.length → (∀ j, j < l.length → nth l j = true → nth l' j = true) → ∀ b, b < l.length → nth l b = false → nth l' b = true → cnt0 l' < cnt0 l
 | [], [], _, _, b, hb, _, _ => absurd hb (Nat.not_lt_zero _)
 | a :: l, a' :: l', hl, h, b, hb, h0, h1 => by
  have hr : ∀ j, j < l.length → nth l j = true → nth l' j = true := fun j hj => by
   have := h (j + 1) (by simpa using hj)
   rwa [nth_cons, nth_cons] at this
  have hll : l.length = l'.length := by simpa using hl
  have h2 : a = true → a' = true := h 0 (by simp)
  match b, hb, h0, h1 with
  | 0, _, h0, h1 =>
   have h0 : a = false := h0
   have h1 : a' = true := h1
   have := cnt0_le hll hr
   unfold cnt0
   rw [h0, h1]
   simp
   omega
  | b + 1, hb, h0, h1 =>
   rw [nth_cons] at h0 h1
   have := cnt0_lt hll hr b (by simpa using hb) h0 h1
   unfold cnt0
   cases a <;> cases a' <;> simp_all <;> omega
theorem cnt0_zero : ∀ {l : BL}, cnt0 l = 0 → ∀ j, j < l.length → nth l j = true
 | [], _, j, hj => absurd hj (Nat.not_lt_zero _)
 | a :: l, h, j, hj => by
  unfold cnt0 at h
  match j, hj with
  | 0, _ => show a = true; cases a <;> simp_all
  | j + 1, hj => rw [nth_cons]; exact cnt0_zero (by omega) j (by simpa using hj)
theorem cnt0_len : ∀ {l : BL}, cnt0 l ≤ l.length
 | [] => Nat.le_refl _
 | a :: l => by
  have := cnt0_len (l := l)
  unfold cnt0
  rw [List.length_cons]
  split <;> omega
theorem up_and_of {f : Nat → Bool} : ∀ (n : Nat) (r : Bool), r = true → (∀ a, a < n → f a = true) → up (fun a r => r && f a) n r = true
 | 0, r, h, _ => h
 | n + 1, r, h, hf => by
  show (up (fun a r => r && f a) n r && f n) = true
  rw [up_and_of n r h fun a ha => hf a (by omega), hf n (by omega)]
  rfl
theorem away_re (hl : m.blocks.length = n) {a : Nat} (ha : a < n) (hb : b < n) : nth (nth (awayL m.f n) a) b = true ↔ Re (ofG m.blocks) (a : Int) b := by
 unfold awayL
 rw [nth_rows ha]
 exact reached_spec (by show b < m.blocks.length; omega)
theorem ready_of {dn : BL} (hl : m.blocks.length = n) (hb : b < n) (hd : nth dn b = false) (h : ∀ a, a < n → a = b ∨ nth dn a = true ∨ Re (ofG m.blocks) (a : Int) b) : readyS dn (awayL m.f n) b n = true := by
 unfold readyS
 refine up_and_of n _ (by simp [hd]) fun a ha => ?_
 rcases h a ha with e | e | e
 ·simp [e]
 ·simp [e]
 ·simp [(away_re hl ha hb).2 e]
theorem live_sd {dn : BL} (hp : 0 ≤ m.ps) (hl : m.blocks.length = n) (hb : b < n) : ∀ v ∈ liveS m dn (awayL m.f n) b n, Sd m b (nth m.blocks b).ins.length v := by
 have key : ∀ k, k ≤ n → ∀ v ∈ up (liveA m dn (awayL m.f n) b) k (rows (fun i => (i : Int)) m.ps.toNat), Sd m b (nth m.blocks b).ins.length v := by
  intro k
  induction k with
  | zero =>
   intro _ v hv
   obtain ⟨i, hi, rfl⟩ := mem_rows.1 hv
   exact .inl ⟨by omega, by omega⟩
  | succ k ih =>
   intro hk v hv
   have hv : v ∈ liveA m dn (awayL m.f n) b k (up (liveA m dn (awayL m.f n) b) k (rows (fun i => (i : Int)) m.ps.toNat)) := hv
   unfold liveA at hv
   split at hv
   ·exact ih (by omega) v hv
   ·rename_i hc
    rw [List.append_assoc] at hv
    rcases List.mem_append.1 hv with h1 | h1
    ·exact ih (by omega) v h1
    ·clear hv
     rcases Nat.decEq k b with e | e
     ·refine .inr (.inr (.inr ⟨k, by omega, e, h1, fun hr => hc ?_⟩))
      rw [(away_re hl (by omega) hb).2 hr]
      simp [e]
     ·subst e
      rcases List.mem_append.1 h1 with h2 | h2
      ·exact .inr (.inl h2)
      ·refine .inr (.inr (.inl ?_))
       rw [List.take_length]; exact h2
 exact key n (Nat.le_refl _)
theorem Ok.setTerm (q : In b m) {t : TermD} (ht : t.to = (nth m.blocks b).term.to) (ha : ∀ v ∈ t.args, v ∈ m.live) : Ok (m.setTerm b t) ∧ Ext m (m.setTerm b t) := by
 have hnth : ∀ j, nth (m.setTerm b t).blocks j = if b = j then { nth m.blocks b with term := t } else nth m.blocks j := fun j => by
  show nth (m.blocks.set b _) j = _
  rcases Nat.lt_or_ge j m.blocks.length with hl | hl
  ·rw [nth_set hl]
  ·have := q.lt
   rw [nth_ge (by simpa using hl), if_neg (by omega), nth_ge hl]
 have hl : (m.setTerm b t).blocks.length = m.blocks.length := List.length_set
 have hin : ∀ j, (nth (m.setTerm b t).blocks j).ins = (nth m.blocks j).ins := fun j => by
  rw [hnth]; split
  ·rename_i e; rw [e]
  ·rfl
 have hph : ∀ j, (nth (m.setTerm b t).blocks j).phis = (nth m.blocks j).phis := fun j => by
  rw [hnth]; split
  ·rename_i e; rw [e]
  ·rfl
 have e : Ext m (m.setTerm b t) := ⟨rfl, hl, fun j => by
  rw [hnth]; split
  ·rename_i e; rw [← e]; exact ht
  ·rfl, fun j v h => by rw [hph]; exact h, fun j => ⟨[], by rw [hin]; simp⟩⟩
 have hmk : ∀ j, mkB (nth (m.setTerm b t).blocks j) = mkB (nth m.blocks j) := fun j => by unfold mkB; rw [hin, hph]
 have k := q.ok
 refine ⟨⟨k.p0, k.pn, fun c hc => ?_, fun c hc => ?_, fun c d hc hd => ?_, fun c hc => ?_, fun c hc i hi v hv => ?_, fun c hc v hv => ?_⟩, e⟩ <;> rw [hl] at hc
 ·rw [hin]; exact k.op c hc
 ·rw [hmk]; exact k.nd c hc
 ·rw [hl] at hd; rw [hmk, hmk]; exact k.dj c d hc hd
 ·rw [hmk]; exact k.rg c hc
 ·rw [hin] at hi hv; exact (k.tk c hc i hi v hv).ext e
 ·rw [hnth] at hv
  split at hv
  ·rename_i e1; subst e1
   exact (q.live v (ha v hv)).end e
  ·exact (k.tm c hc v hv).end e
structure D4 (n : Nat) (to : List (List Int)) (x : BL × MS) : Prop where
 gt : Gt n to x.2
 ok : Ok x.2
 len : x.1.length = n
 term : ∀ j, j < n → nth x.1 j = true → termS (nth x.2.blocks j).term = true
 emp : ∀ j, j < n → nth x.1 j = false → (nth x.2.blocks j).ins.length = 0
 ins : ∀ j, j < n → (nth x.2.blocks j).ins.length ≤ 45
 nx : x.2.next + 45 * (cnt0 x.1 : Nat) ≤ 28 + 45 * n
theorem D4.step {x : BL × MS} (q : D4 n to x) (hb : b < n) (ht : (nth to b).length ≤ 65) : D4 n to (blkStep s to n b x) ∧ (∀ j, nth x.1 j = true → nth (blkStep s to n b x).1 j = true) ∧ (readyS x.1 (awayL x.2.f n) b n = true → nth (blkStep s to n b x).1 b = true) := by
 unfold blkStep
 have hlen := q.gt.len
 have hbl : b < x.2.blocks.length := by rw [hlen]; exact hb
 split
 ·rename_i hr
  have hd := ready_not hr
  have hset : ∀ j, nth (x.1.set b true) j = if b = j then true else nth x.1 j := fun j => by
   have := q.len
   rcases Nat.lt_or_ge j x.1.length with hl | hl
   ·rw [nth_set hl]
   ·rw [nth_ge (by simpa using hl), if_neg (by omega), nth_ge hl]
  generalize hdn : x.1.set b true = dn at hset
  have hdl : dn.length = n := by rw [← hdn, List.length_set]; exact q.len
  have hmono : ∀ j, nth x.1 j = true → nth dn j = true := fun j hj => by rw [hset]; split <;> simp_all
  have hlt : cnt0 dn < cnt0 x.1 := cnt0_lt (by rw [hdl]; exact q.len) (fun j _ => hmono j) b (by rw [q.len]; exact hb) hd (by rw [hset, if_pos rfl])
  refine ⟨?_, hmono, fun _ => by rw [hset, if_pos rfl]⟩
  generalize hm1 : (MS.took { x.2 with live := liveS x.2 dn (awayL x.2.f n) b n } : MS) = m1
  have hB : m1.blocks = x.2.blocks := by rw [← hm1]; rfl
  have hN : m1.next = x.2.next := by rw [← hm1]; rfl
  have i1 : In b m1 := by
   rw [← hm1]
   exact ⟨q.ok.at (Int.le_refl _), hbl, live_sd (m := x.2) (dn := dn) q.ok.p0 hlen hb⟩
  have tk := takeV_rng (s := s) (at_ := x.2.at_) (n := 7) (by decide)
  have w1 := i1.instructions (s := s) (takeV s x.2.at_ 7).toNat
  obtain ⟨w2, t1, t2, t3⟩ := w1.inn.term (s := s) ht
  have g := ((Grw.refl (b := b) (m := m1)).instructions (s := s) i1.lt (takeV s x.2.at_ 7).toNat).term' (s := s) (to := nth to b) i1.lt
  have w := w1.trans w2
  have eD : doBlock s to n dn (awayL x.2.f n) b x.2 = mkEndS s (nth to b) b (up (fun _ => instructionS s b) (takeV s x.2.at_ 7).toNat m1) := by rw [← hm1]; rfl
  rw [eD]
  unfold mkEndS
  generalize mkTermS s (nth to b) b (up (fun _ => instructionS s b) (takeV s x.2.at_ 7).toNat m1) = r at w2 t1 t2 t3 g w
  have e0 : Ext x.2 r.2 := by
   have e := w.ext
   exact ⟨by rw [e.ps, ← hm1]; rfl, by rw [e.len, hB], fun j => by rw [e.to, hB], fun j v hv => e.phis j v (by rw [hB]; exact hv), fun j => by have := e.ins j; rw [hB] at this; exact this⟩
  have gt2 := q.gt.ext e0
  obtain ⟨k1, k2⟩ := Ok.setTerm w2.inn (t := r.1) (by rw [t2, gt2.to b hb]) t3
  have hnth : ∀ j, nth (r.2.setTerm b r.1).blocks j = if b = j then { nth r.2.blocks b with term := r.1 } else nth r.2.blocks j := fun j => by
   show nth (r.2.blocks.set b _) j = _
   have := gt2.len
   rcases Nat.lt_or_ge j r.2.blocks.length with hl | hl
   ·rw [nth_set hl]
   ·rw [nth_ge (by simpa using hl), if_neg (by omega), nth_ge hl]
  have hels : ∀ j, b ≠ j → nth (r.2.setTerm b r.1).blocks j = nth x.2.blocks j := fun j hj => by
   rw [hnth, if_neg hj, g.els j (fun e => hj e.symm), hB]
  have hlen0 := q.emp b hb hd
  refine ⟨gt2.ext k2, k1, hdl, fun j hj h => ?_, fun j hj h => ?_, fun j hj => ?_, ?_⟩
  ·by_cases e : b = j
   ·show termS (nth (r.2.setTerm b r.1).blocks j).term = true
    rw [hnth, if_pos e]; exact t1
   ·show termS (nth (r.2.setTerm b r.1).blocks j).term = true
    rw [hels j e]
    refine q.term j hj ?_
    have h : nth dn j = true := h
    rw [hset, if_neg e] at h; exact h
  ·have h : nth dn j = false := h
   rw [hset] at h
   split at h
   ·cases h
   ·rename_i e
    show (nth (r.2.setTerm b r.1).blocks j).ins.length = 0
    rw [hels j e]; exact q.emp j hj h
  ·show (nth (r.2.setTerm b r.1).blocks j).ins.length ≤ 45
   by_cases e : b = j
   ·rw [hnth, if_pos e]
    have := w.ins
    rw [hB] at this
    show (nth r.2.blocks b).ins.length ≤ 45
    omega
   ·rw [hels j e]; exact q.ins j hj
  ·show r.2.next + 45 * ((cnt0 dn : Nat) : Int) ≤ _
   have := w.nx
   have := q.nx
   omega
 ·rename_i hr
  exact ⟨q, fun j h => h, fun h => absurd h hr⟩
theorem D4.upto {x : BL × MS} (q : D4 n to x) (ht : ∀ j, (nth to j).length ≤ 65) : ∀ k, k ≤ n → D4 n to (up (blkStep s to n) k x) ∧ (∀ j, nth x.1 j = true → nth (up (blkStep s to n) k x).1 j = true) ∧ (∀ b, b < k → nth x.1 b = false → (∀ a, a < n → a = b ∨ nth x.1 a = true ∨ Re (ofG x.2.blocks) (a : Int) b) → nth (up (blkStep s to n) k x).1 b = true)
 | 0, _ => ⟨q, fun j h => h, fun b hb => absurd hb (Nat.not_lt_zero _)⟩
 | k + 1, hk => by
  obtain ⟨h1, h2, h3⟩ := D4.upto q ht k (by omega)
  have e : up (blkStep s to n) (k + 1) x = blkStep s to n k (up (blkStep s to n) k x) := rfl
  rw [e]
  generalize up (blkStep s to n) k x = y at h1 h2 h3
  obtain ⟨h4, h5, h6⟩ := h1.step (s := s) (b := k) (by omega) (ht k)
  refine ⟨h4, fun j h => h5 j (h2 j h), fun b hb hd hr => ?_⟩
  rcases Nat.lt_or_ge b k with h | h
  ·exact h5 b (h3 b h hd hr)
  ·have : b = k := by omega
   subst this
   cases hy : nth y.1 b with
   | true => exact h5 b hy
   | false =>
    refine h6 (ready_of h1.gt.len (by omega) hy fun a ha => ?_)
    rcases hr a ha with r | r | r
    ·exact .inl r
    ·exact .inr (.inl (h2 a r))
    ·refine .inr (.inr ?_)
     have eg : ofG y.2.blocks = ofG x.2.blocks := by
      unfold ofG
      rw [h1.gt.len, q.gt.len]
      refine List.map_congr_left fun i hi => ?_
      have hi : i < n := List.mem_range.1 hi
      rw [h1.gt.to i hi, q.gt.to i hi]
     rw [eg]; exact r
theorem D4.turn {x : BL × MS} (q : D4 n to x) (ht : ∀ j, (nth to j).length ≤ 65) (hw : ∀ b, b < n → Re (ofG x.2.blocks) (-1) b) : D4 n to (up (blkStep s to n) n x) ∧ (cnt0 (up (blkStep s to n) n x).1 = 0 ∨ cnt0 (up (blkStep s to n) n x).1 < cnt0 x.1) := by
 obtain ⟨h1, h2, h3⟩ := q.upto (s := s) ht n (Nat.le_refl _)
 refine ⟨h1, ?_⟩
 generalize up (blkStep s to n) n x = y at h1 h2 h3
 by_cases hz : ∃ b, b < n ∧ nth x.1 b = false
 ·obtain ⟨b, hb, hd⟩ := hz
  obtain ⟨c, k1, k2, k3⟩ := ready_ex (l := x.2.blocks) (dn := x.1) (fun b hb => hw b (by rw [q.gt.len] at hb; exact hb)) (b := b) (by rw [q.gt.len]; exact hb) hd
  rw [q.gt.len] at k1 k3
  exact .inr (cnt0_lt (by rw [h1.len, q.len]) (fun j _ => h2 j) c (by rw [q.len]; exact k1) k2 (h3 c k1 k2 k3))
 ·refine .inl ?_
  have : ∀ {l : BL}, (∀ j, j < l.length → nth l j = true) → cnt0 l = 0 := fun {l} => by
   induction l with
   | nil => intro _; rfl
   | cons a l ih =>
    intro h
    have h1 : a = true := h 0 (by simp)
    have h2 := ih fun j hj => by have := h (j + 1) (by simpa using hj); rwa [nth_cons] at this
    unfold cnt0; rw [h1, h2]; rfl
  refine this fun j hj => h2 j ?_
  rw [h1.len] at hj
  cases e : nth x.1 j with
  | true => rfl
  | false => exact absurd ⟨j, hj, e⟩ hz
theorem D4.turns {x : BL × MS} (q : D4 n to x) (ht : ∀ j, (nth to j).length ≤ 65) (hw : ∀ {m : MS}, Gt n to m → ∀ b, b < n → Re (ofG m.blocks) (-1) b) : ∀ k, D4 n to (up (fun _ => up (blkStep s to n) n) k x) ∧ (cnt0 (up (fun _ => up (blkStep s to n) n) k x).1 = 0 ∨ cnt0 (up (fun _ => up (blkStep s to n) n) k x).1 + k ≤ n)
 | 0 => ⟨q, .inr (by have := cnt0_len (l := x.1); rw [q.len] at this; exact this)⟩
 | k + 1 => by
  obtain ⟨h1, h2⟩ := D4.turns q ht hw k
  have e : up (fun _ => up (blkStep s to n) n) (k + 1) x = up (blkStep s to n) n (up (fun _ => up (blkStep s to n) n) k x) := rfl
  rw [e]
  generalize up (fun _ => up (blkStep s to n) n) k x = y at h1 h2
  obtain ⟨h3, h4⟩ := h1.turn (s := s) ht (hw h1.gt)
  refine ⟨h3, ?_⟩
  rcases h4 with h4 | h4
  ·exact .inl h4
  ·rcases h2 with h2 | h2
   ·omega
   ·exact .inr (by omega)
theorem gt_way {m : MS} (g : Gt (madeN s) (made1 s).1 m) : ∀ b, b < madeN s → Re (ofG m.blocks) (-1) b := by
 have t := made1_t (s := s)
 obtain ⟨h1, h2⟩ := madeN_rng (s := s)
 intro b hb
 refine way_re (by rw [g.len]; omega) (fun b h1 hb => ?_) b (by rw [g.len]; exact hb)
 rw [g.len] at hb
 obtain ⟨a, ha, hm⟩ := t.way b h1 (by omega)
 exact ⟨a, ha, by rw [g.to a (by omega)]; exact hm⟩
theorem made4_d : D4 (madeN s) (made1 s).1 (made4 s) ∧ ∀ j, j < madeN s → nth (made4 s).1 j = true := by
 obtain ⟨q, h1, h2⟩ := made3_p0 (s := s)
 have t := made1_t (s := s)
 have hr : ∀ j, nth (List.replicate (madeN s) false) j = false := fun j => by
  rcases Nat.lt_or_ge j (madeN s) with hl | hl
  ·rw [nth_replicate hl]
  ·rw [nth_ge (by simpa using hl)]; rfl
 have d0 : D4 (madeN s) (made1 s).1 (List.replicate (madeN s) false, (made3 s).2) :=
  ⟨q.gt, q.ok, by simp, fun j hj h => by { rw [hr] at h; cases h }, fun j hj _ => by { show (nth (made3 s).2.blocks j).ins.length = 0; rw [q.none j hj]; rfl }, fun j hj => by { show (nth (made3 s).2.blocks j).ins.length ≤ 45; rw [q.none j hj]; exact Nat.zero_le _ }, by
   have := cnt0_len (l := List.replicate (madeN s) false)
   rw [List.length_replicate] at this
   show (made3 s).2.next + 45 * ((cnt0 (List.replicate (madeN s) false) : Nat) : Int) ≤ _
   omega⟩
 obtain ⟨h3, h4⟩ := d0.turns (s := s) (fun j => by have := t.row j; omega) (fun g => gt_way g) (madeN s)
 refine ⟨h3, fun j hj => ?_⟩
 have h4 : cnt0 (made4 s).1 = 0 ∨ cnt0 (made4 s).1 + madeN s ≤ madeN s := h4
 exact cnt0_zero (by omega) j (by rw [show (made4 s).1.length = madeN s from h3.len]; exact hj)
end
end Go.Proofs.Ytfelpjfopgiabaa
namespace Go.Proofs.Ytfelpjfopgiabaa
open Go Go.Lft
section
variable {s : List Int} {n : Nat} {to : List (List Int)} {m m' : MS} {b : Nat}
theorem nodup_map_nth {α : Type} [Inhabited α] {β : Type} {l : List α} {g : α → β} : rows (fun i => g (nth l i)) l.length = l.map g := by
 refine List.ext_getElem (by simp) fun i h1 h2 => ?_
 have hi : i < l.length := by simpa using h2
 simp [rows, nth_eq hi]
theorem mks_thB {f : FuncD} : mksOf (thB f b) = mkB (nth f.blocks b) := by
 unfold thB mksOf mkB
 rw [List.flatMap_append, List.flatMap_append]
 have e1 : (rows (phiT f b) (nth f.blocks b).phis.length).flatMap Th.mks = (nth f.blocks b).phis.map PhiD.dst := by
  rw [← nodup_map_nth]
  unfold rows
  rw [List.flatMap_map]
  show (List.range _).flatMap (fun i => [(nth (nth f.blocks b).phis i).dst]) = _
  generalize List.range _ = l
  induction l with
  | nil => rfl
  | cons a l ih => rw [List.flatMap_cons, ih, List.map_cons]; rfl
 have e2 : (rows (insT f b) (nth f.blocks b).ins.length).flatMap Th.mks = (nth f.blocks b).ins.flatMap makesS := by
  have h : (nth f.blocks b).ins.map makesS = rows (fun i => makesS (nth (nth f.blocks b).ins i)) (nth f.blocks b).ins.length := nodup_map_nth.symm
  rw [show (nth f.blocks b).ins.flatMap makesS = ((nth f.blocks b).ins.map makesS).flatten from rfl, h]
  unfold rows
  rw [List.flatMap_map]
  rfl
 rw [e1, e2]
 simp [endT]
theorem mks_thTo {f : FuncD} {v : Int} : ∀ {k : Nat}, v ∈ mksOf (thTo f k) ↔ ∃ b, b < k ∧ v ∈ mkB (nth f.blocks b)
 | 0 => ⟨fun h => (by cases h), fun ⟨b, h, _⟩ => absurd h (Nat.not_lt_zero _)⟩
 | k + 1 => by
  rw [thTo_succ]
  unfold mksOf
  rw [List.flatMap_append, List.mem_append]
  have ih := mks_thTo (f := f) (v := v) (k := k)
  unfold mksOf at ih
  rw [ih]
  have e := mks_thB (f := f) (b := k)
  unfold mksOf at e
  rw [e]
  constructor
  ·rintro (⟨b, h1, h2⟩ | h)
   ·exact ⟨b, by omega, h2⟩
   ·exact ⟨k, by omega, h⟩
  ·rintro ⟨b, h1, h2⟩
   rcases Nat.lt_or_ge b k with h | h
   ·exact .inl ⟨b, h, h2⟩
   ·have : b = k := by omega
    subst this; exact .inr h2
theorem mks_nodup {f : FuncD} (nd : ∀ b, b < f.blocks.length → (mkB (nth f.blocks b)).Nodup) (dj : ∀ a b, a < f.blocks.length → b < f.blocks.length → a ≠ b → ∀ v ∈ mkB (nth f.blocks a), v ∉ mkB (nth f.blocks b)) : ∀ k, k ≤ f.blocks.length → (mksOf (thTo f k)).Nodup
 | 0, _ => List.nodup_nil
 | k + 1, hk => by
  rw [thTo_succ]
  have e : mksOf (thTo f k ++ thB f k) = mksOf (thTo f k) ++ mkB (nth f.blocks k) := by
   rw [← mks_thB]; exact List.flatMap_append
  rw [e]
  refine List.nodup_append.2 ⟨mks_nodup nd dj k (by omega), nd k (by omega), fun x hx y hy => ?_⟩
  rintro rfl
  obtain ⟨b, h1, h2⟩ := mks_thTo.1 hx
  exact dj b k (by omega) (by omega) (by omega) x h2 hy
theorem mkB_th {f : FuncD} (hb : b < f.blocks.length) {v : Int} (hv : v ∈ mkB (nth f.blocks b)) : ∃ t ∈ thingsS f, v ∈ t.mks ∧ t.blk = b := by
 rcases List.mem_append.1 hv with h | h
 ·obtain ⟨p, hp, rfl⟩ := List.mem_map.1 h
  obtain ⟨i, hi, rfl⟩ := List.getElem_of_mem hp
  exact ⟨phiT f b i, mem_thTo.2 ⟨b, hb, mem_thB.2 (.inl ⟨i, hi, rfl⟩)⟩, by show _ ∈ [_]; rw [nth_eq hi]; exact List.mem_singleton.2 rfl, rfl⟩
 ·obtain ⟨p, hp, h2⟩ := List.mem_flatMap.1 h
  obtain ⟨i, hi, rfl⟩ := List.getElem_of_mem hp
  exact ⟨insT f b i, mem_thTo.2 ⟨b, hb, mem_thB.2 (.inr (.inl ⟨i, hi, rfl⟩))⟩, by show _ ∈ makesS _; rw [nth_eq hi]; exact h2, rfl⟩
theorem th_mkB {f : FuncD} {t : Th} {v : Int} (ht : t ∈ thingsS f) (hv : v ∈ t.mks) : ∃ b, b < f.blocks.length ∧ t.blk = b ∧ v ∈ mkB (nth f.blocks b) := by
 obtain ⟨b, hb, hm⟩ := mem_thTo.1 ht
 refine ⟨b, hb, ?_, ?_⟩
 ·rcases mem_thB.1 hm with ⟨i, hi, rfl⟩ | ⟨i, hi, rfl⟩ | rfl <;> rfl
 ·rw [← mks_thB]; exact List.mem_flatMap.2 ⟨t, hm, hv⟩
theorem sd_stands (hb : b < m.blocks.length) {p : Nat} {v : Int} (h : Sd m b p v) : StandsP m.f v b p := by
 rcases h with h | h | h | ⟨a, h1, h2, h3, h4⟩
 ·exact .inl h
 ·obtain ⟨q, hq, rfl⟩ := List.mem_map.1 h
  obtain ⟨i, hi, rfl⟩ := List.getElem_of_mem hq
  refine .inr ⟨phiT m.f b i, mem_thTo.2 ⟨b, hb, mem_thB.2 (.inl ⟨i, hi, rfl⟩)⟩, ?_, .inl ⟨rfl, .inl ?_⟩⟩
  ·show _ ∈ [(nth (nth m.blocks b).phis i).dst]; rw [nth_eq hi]; exact List.mem_singleton.2 rfl
  ·show (-1 - (i : Int)) < 0; omega
 ·obtain ⟨q, hq, h2⟩ := List.mem_flatMap.1 h
  obtain ⟨i, hi, rfl⟩ := List.getElem_of_mem hq
  have hi2 : i < p ∧ i < (nth m.blocks b).ins.length := by rw [List.length_take] at hi; omega
  rw [List.getElem_take] at h2
  refine .inr ⟨insT m.f b i, mem_thTo.2 ⟨b, hb, mem_thB.2 (.inr (.inl ⟨i, hi2.2, rfl⟩))⟩, ?_, .inl ⟨rfl, .inr ?_⟩⟩
  ·show _ ∈ makesS (nth (nth m.blocks b).ins i); rw [nth_eq hi2.2]; exact h2
  ·show ((i : Nat) : Int) < p; omega
 ·obtain ⟨t, ht, h5, h6⟩ := mkB_th (f := m.f) h1 h3
  refine .inr ⟨t, ht, h5, .inr ⟨by rw [h6]; omega, ?_⟩⟩
  rw [h6, Int.toNat_natCast]; exact h4
theorem standing_sd (hp : 0 ≤ m.ps) (hb : b < m.blocks.length) {v : Int} (h : v ∈ standingS m.f b) : Sd m b (nth m.blocks b).ins.length v := by
 have key : ∀ (l : List Th) (o : List Int), (∀ t ∈ l, t ∈ thingsS m.f) → (∀ v ∈ o, Sd m b (nth m.blocks b).ins.length v) → ∀ v ∈ l.foldl (standStep m.f b) o, Sd m b (nth m.blocks b).ins.length v := by
  intro l
  induction l with
  | nil => intro o _ ho v hv; exact ho v hv
  | cons t l ih =>
   intro o hl ho v hv
   rw [List.foldl_cons] at hv
   refine ih _ (fun x hx => hl x (List.mem_cons_of_mem _ hx)) (fun v hv => ?_) v hv
   unfold standStep at hv
   split at hv
   ·rename_i ha
    rcases List.mem_append.1 hv with hv | hv
    ·exact ho v hv
    ·obtain ⟨a, h1, h2, h3⟩ := th_mkB (hl t List.mem_cons_self) hv
     rcases Nat.decEq a b with e | e
     ·refine .inr (.inr (.inr ⟨a, h1, e, h3, fun hr => ?_⟩))
      unfold stAway at ha
      rw [h2, (reached_spec (f := m.f) hb).2 hr] at ha
      simp at ha
      exact e (by omega)
     ·subst e
      rcases List.mem_append.1 h3 with h | h
      ·exact .inr (.inl h)
      ·refine .inr (.inr (.inl ?_))
       rw [List.take_length]; exact h
   ·exact ho v hv
 unfold standingS at h
 refine key _ _ (fun t h => h) (fun v hv => ?_) v h
 obtain ⟨i, hi, rfl⟩ := mem_rows.1 hv
 have hi : i < m.ps.toNat := hi
 exact .inl ⟨by omega, by omega⟩
def PhOk (m : MS) (p : PhiD) (b : Nat) : Prop := p.ins.map InD.frm = refPredsS m.f b ∧ ∀ q ∈ p.ins, ∃ c : Nat, q.frm = c ∧ c < m.blocks.length ∧ Sd m c (nth m.blocks c).ins.length q.val
theorem preds_congr (hl : m'.blocks.length = m.blocks.length) (h : ∀ j, (nth m'.blocks j).term.to = (nth m.blocks j).term.to) {b : Int} : refPredsS m'.f b = refPredsS m.f b := by
 unfold refPredsS
 rw [show m'.f.blocks.length = m.f.blocks.length from hl]
 congr 1
 funext a
 rw [show (nth m'.f.blocks a).term.to = (nth m.f.blocks a).term.to from h a]
theorem PhOk.ext {p : PhiD} (h : PhOk m p b) (e : Ext m m') : PhOk m' p b :=
 ⟨by rw [preds_congr e.len e.to]; exact h.1, fun q hq => by
  obtain ⟨c, h1, h2, h3⟩ := h.2 q hq
  exact ⟨c, h1, by rw [e.len]; exact h2, h3.end e⟩⟩
structure D5 (n c : Nat) (to : List (List Int)) (m : MS) : Prop where
 gt : Gt n to m
 ok : Ok m
 term : ∀ j, j < n → termS (nth m.blocks j).term = true
 ins : ∀ j, j < n → (nth m.blocks j).ins.length ≤ 45 + c
 nx : m.next ≤ 433 + c
theorem D5.mono {c d : Nat} (q : D5 n c to m) (h : c ≤ d) : D5 n d to m := ⟨q.gt, q.ok, q.term, fun j hj => by have := q.ins j hj; omega, by have := q.nx; omega⟩
theorem D5.took {c : Nat} (q : D5 n c to m) : D5 n c to m.took := ⟨⟨q.gt.len, q.gt.to⟩, q.ok.at (Int.le_refl _), q.term, q.ins, q.nx⟩
theorem D5.constant {c : Nat} (q : D5 n c to m) (hb : b < n) {w : Int} : D5 n (c + 1) to (m.constant b w) ∧ Ext m (m.constant b w) ∧ (∀ j, (nth (m.constant b w).blocks j).phis = (nth m.blocks j).phis) ∧ Sd (m.constant b w) b (nth (m.constant b w).blocks b).ins.length m.next := by
 have hlen := q.gt.len
 have hbl : b < m.blocks.length := by rw [hlen]; exact hb
 have e : m.constant b w = MS.add ⟨m.at_, m.ps, m.blocks, m.next + 1, m.live⟩ b (conD m.next w) := rfl
 have mk : makesS (conD m.next w) = [m.next] := rfl
 have k := q.ok.add (a := m.at_) (nx := m.next + 1) (i := conD m.next w) (l := m.live) hbl (by omega) (by rw [mk]; intro v hv; rw [List.mem_singleton.1 hv]; omega) (by rw [mk]; simp) rfl (fun v hv => by cases hv)
 have ex : Ext m (m.constant b w) := (ext_add (m := ⟨m.at_, m.ps, m.blocks, m.next + 1, m.live⟩) (i := conD m.next w) hbl).frm rfl rfl
 have hnth : ∀ j, nth (m.constant b w).blocks j = if b = j then { nth m.blocks b with ins := (nth m.blocks b).ins ++ [conD m.next w] } else nth m.blocks j := fun j => nth_add (m := ⟨m.at_, m.ps, m.blocks, m.next + 1, m.live⟩) hbl
 refine ⟨⟨q.gt.ext ex, k, fun j hj => ?_, fun j hj => ?_, ?_⟩, ex, fun j => ?_, sd_new (m := m) hbl (by rw [mk]; exact List.mem_singleton.2 rfl)⟩
 ·rw [hnth]; split
  ·exact q.term b hb
  ·exact q.term j hj
 ·have := q.ins j hj
  rw [hnth]; split
  ·rename_i e1; subst e1
   show ((nth m.blocks b).ins ++ [_]).length ≤ _
   rw [List.length_append, List.length_singleton]; omega
  ·omega
 ·have := q.nx
  show m.next + 1 ≤ _
  omega
 ·rw [hnth]; split
  ·rename_i e1; rw [e1]
  ·rfl
theorem D5.row {c : Nat} (q : D5 n c to m) (hb : b < n) : D5 n (c + 1) to (rowS s b m).2 ∧ Ext m (rowS s b m).2 ∧ (∀ j, (nth (rowS s b m).2.blocks j).phis = (nth m.blocks j).phis) ∧ ∀ v ∈ (rowS s b m).1, Sd (rowS s b m).2 b (nth (rowS s b m).2.blocks b).ins.length v := by
 unfold rowS
 split
 ·obtain ⟨h1, h2, h3, h4⟩ := q.took.took.constant (w := wordV s m) hb
  refine ⟨h1, ⟨h2.ps, h2.len, h2.to, h2.phis, h2.ins⟩, h3, fun v hv => ?_⟩
  rw [List.mem_singleton.1 hv]; exact h4
 ·have hlen := q.gt.len
  exact ⟨q.mono (by omega), .refl, fun j => rfl, fun v hv => standing_sd q.ok.p0 (by omega) hv⟩
theorem D5.ups {c : Nat} {p : List Int} (q : D5 n c to m) (hp : ∀ k, k < p.length → ∃ a : Nat, nth p k = a ∧ a < n) : ∀ k, k ≤ p.length →
  D5 n (c + k) to (up (inStep s p) k ([], m)).2 ∧ Ext m (up (inStep s p) k ([], m)).2 ∧ (∀ j, (nth (up (inStep s p) k ([], m)).2.blocks j).phis = (nth m.blocks j).phis) ∧ (up (inStep s p) k ([], m)).1.map InD.frm = p.take k ∧
   ∀ r ∈ (up (inStep s p) k ([], m)).1, ∃ a : Nat, r.frm = a ∧ a < n ∧ Sd (up (inStep s p) k ([], m)).2 a (nth (up (inStep s p) k ([], m)).2.blocks a).ins.length r.val
 | 0, _ => ⟨q, .refl, fun _ => rfl, rfl, fun r hr => by cases hr⟩
 | k + 1, hk => by
  obtain ⟨h1, h2, h3, h4, h5⟩ := D5.ups q hp k (by omega)
  obtain ⟨a, ha, han⟩ := hp k (by omega)
  have e1 : (up (inStep s p) (k + 1) ([], m)).2 = (rowS s (nth p k).toNat (up (inStep s p) k ([], m)).2).2.took := rfl
  have e2 : (up (inStep s p) (k + 1) ([], m)).1 = (up (inStep s p) k ([], m)).1 ++ [⟨nth p k, nth (rowS s (nth p k).toNat (up (inStep s p) k ([], m)).2).1 (takeV s (rowS s (nth p k).toNat (up (inStep s p) k ([], m)).2).2.at_ (rowS s (nth p k).toNat (up (inStep s p) k ([], m)).2).1.length).toNat⟩] := rfl
  rw [e1, e2]
  generalize up (inStep s p) k ([], m) = y at h1 h2 h3 h4 h5
  have hat : (nth p k).toNat = a := by omega
  rw [hat]
  obtain ⟨k1, k2, k3, k4⟩ := h1.row (s := s) (b := a) han
  have hpos := rowS_pos (s := s) (b := a) (m := y.2)
  generalize rowS s a y.2 = r at k1 k2 k3 k4 hpos
  refine ⟨k1.took, h2.trans ⟨k2.ps, k2.len, k2.to, k2.phis, k2.ins⟩, fun j => (k3 j).trans (h3 j), ?_, fun t ht => ?_⟩
  ·rw [List.map_append, h4, List.take_succ_eq_append_getElem (by omega)]
   show p.take k ++ [nth p k] = _
   rw [nth_eq (by omega)]
  ·rcases List.mem_append.1 ht with ht | ht
   ·obtain ⟨d, d1, d2, d3⟩ := h5 t ht
    exact ⟨d, d1, d2, d3.end k2⟩
   ·rw [List.mem_singleton.1 ht]
    refine ⟨a, ha, han, k4 _ (nth_mem ?_)⟩
    have := takeV_rng (s := s) (at_ := r.2.at_) (n := (r.1.length : Int)) (by omega)
    omega
theorem setIn_nth {i j : Nat} {l : List InD} (hb : b < m.blocks.length) : nth (m.setIn b i l).blocks j = if b = j then { nth m.blocks b with phis := (nth m.blocks b).phis.set i { nth (nth m.blocks b).phis i with ins := l } } else nth m.blocks j := by
 show nth (m.blocks.set b _) j = _
 rcases Nat.lt_or_ge j m.blocks.length with hl | hl
 ·rw [nth_set hl]
 ·rw [nth_ge (by simpa using hl), if_neg (by omega), nth_ge hl]
theorem dst_set {l : List PhiD} {i : Nat} {x : List InD} : (l.set i { nth l i with ins := x }).map PhiD.dst = l.map PhiD.dst := by
 refine List.ext_getElem (by simp) fun j h1 h2 => ?_
 have hj : j < l.length := by simpa using h2
 rw [List.getElem_map, List.getElem_map, List.getElem_set]
 split
 ·rename_i e; subst e
  rw [nth_eq hj]
 ·rfl
theorem D5.setIn {c i : Nat} {l : List InD} (q : D5 n c to m) (hb : b < n) : D5 n c to (m.setIn b i l) ∧ Ext m (m.setIn b i l) := by
 have hlen := q.gt.len
 have hbl : b < m.blocks.length := by omega
 have hnth : ∀ j, nth (m.setIn b i l).blocks j = _ := fun j => setIn_nth (i := i) (l := l) hbl
 have hl : (m.setIn b i l).blocks.length = m.blocks.length := List.length_set
 have hin : ∀ j, (nth (m.setIn b i l).blocks j).ins = (nth m.blocks j).ins := fun j => by
  rw [hnth]; split
  ·rename_i e; rw [e]
  ·rfl
 have htm : ∀ j, (nth (m.setIn b i l).blocks j).term = (nth m.blocks j).term := fun j => by
  rw [hnth]; split
  ·rename_i e; rw [e]
  ·rfl
 have hph : ∀ j, (nth (m.setIn b i l).blocks j).phis.map PhiD.dst = (nth m.blocks j).phis.map PhiD.dst := fun j => by
  rw [hnth]; split
  ·rename_i e; rw [← e]; exact dst_set
  ·rfl
 have hmk : ∀ j, mkB (nth (m.setIn b i l).blocks j) = mkB (nth m.blocks j) := fun j => by unfold mkB; rw [hin, hph]
 have e : Ext m (m.setIn b i l) := ⟨rfl, hl, fun j => by rw [htm], fun j v h => by rw [hph]; exact h, fun j => ⟨[], by rw [hin]; simp⟩⟩
 have k := q.ok
 refine ⟨⟨q.gt.ext e, ⟨k.p0, k.pn, fun c hc => ?_, fun c hc => ?_, fun c d hc hd => ?_, fun c hc => ?_, fun c hc i hi v hv => ?_, fun c hc v hv => ?_⟩, fun j hj => by rw [htm]; exact q.term j hj, fun j hj => by rw [hin]; exact q.ins j hj, q.nx⟩, e⟩ <;> rw [hl] at hc
 ·rw [hin]; exact k.op c hc
 ·rw [hmk]; exact k.nd c hc
 ·rw [hl] at hd; rw [hmk, hmk]; exact k.dj c d hc hd
 ·rw [hmk]; exact k.rg c hc
 ·rw [hin] at hi hv; exact (k.tk c hc i hi v hv).ext e
 ·rw [htm] at hv; exact (k.tm c hc v hv).end e
theorem preds_rng {k : Nat} {b : Int} (hk : k < (refPredsS m.f b).length) : ∃ a : Nat, nth (refPredsS m.f b) k = a ∧ a < m.blocks.length := sift_rng _ k hk
theorem preds_len {b : Int} : (refPredsS m.f b).length ≤ m.blocks.length := sift_len _
theorem D5.phi {c i : Nat} (q : D5 n c to m) (hb : b < n) (hi : i < (nth m.blocks b).phis.length) :
  D5 n (c + n) to (phi3 s b (refPredsS m.f b) i m) ∧ Ext m (phi3 s b (refPredsS m.f b) i m) ∧ (∀ j, (nth (phi3 s b (refPredsS m.f b) i m).blocks j).phis.length = (nth m.blocks j).phis.length) ∧
   PhOk (phi3 s b (refPredsS m.f b) i m) (nth (nth (phi3 s b (refPredsS m.f b) i m).blocks b).phis i) b ∧
   ∀ d j, (d ≠ b ∨ j ≠ i) → nth (nth (phi3 s b (refPredsS m.f b) i m).blocks d).phis j = nth (nth m.blocks d).phis j := by
 have hlen := q.gt.len
 obtain ⟨h1, h2, h3, h4, h5⟩ := q.ups (s := s) (p := refPredsS m.f b) (fun k hk => by
  obtain ⟨a, h1, h2⟩ := preds_rng hk
  exact ⟨a, h1, by omega⟩) (refPredsS m.f b).length (Nat.le_refl _)
 have hp := preds_len (m := m) (b := b)
 unfold phi3
 generalize up (inStep s (refPredsS m.f b)) (refPredsS m.f b).length ([], m) = y at h1 h2 h3 h4 h5
 have hyl := h1.gt.len
 obtain ⟨k1, k2⟩ := h1.setIn (b := b) (i := i) (l := y.1) hb
 have hnth : ∀ j, nth (y.2.setIn b i y.1).blocks j = _ := fun j => setIn_nth (i := i) (l := y.1) (by omega : b < y.2.blocks.length)
 have hi2 : i < (nth y.2.blocks b).phis.length := by rw [h3]; exact hi
 refine ⟨k1.mono (by omega), h2.trans k2, fun j => ?_, ?_, fun d j hd => ?_⟩
 ·rw [hnth]; split
  ·rename_i e; rw [← e, ← h3 b]
   show (List.set _ _ _).length = _
   rw [List.length_set]
  ·rw [h3]
 ·rw [hnth, if_pos rfl]
  show PhOk _ (nth ((nth y.2.blocks b).phis.set i _) i) b
  rw [nth_set hi2, if_pos rfl]
  refine ⟨?_, fun t ht => ?_⟩
  ·rw [preds_congr (h2.trans k2).len (h2.trans k2).to]
   show y.1.map InD.frm = _
   rw [h4, List.take_length]
  ·obtain ⟨a, d1, d2, d3⟩ := h5 t ht
   exact ⟨a, d1, by rw [k2.len]; omega, d3.end k2⟩
 ·rw [hnth]
  split
  ·rename_i e; subst e
   show nth ((nth y.2.blocks b).phis.set i _) j = _
   rw [← h3 b]
   rcases Nat.lt_or_ge j (nth y.2.blocks b).phis.length with hl | hl
   ·rw [nth_set hl, if_neg (by rcases hd with hd | hd; exact absurd rfl hd; exact fun e => hd e.symm)]
   ·rw [nth_ge (by simpa using hl), nth_ge hl]
  ·rw [h3]
theorem D5.phis {c cnt : Nat} (q : D5 n c to m) (hb : b < n) (hc : (nth m.blocks b).phis.length = cnt) : ∀ k, k ≤ cnt →
  D5 n (c + n * k) to (up (phi3 s b (refPredsS m.f b)) k m) ∧ Ext m (up (phi3 s b (refPredsS m.f b)) k m) ∧ (∀ j, (nth (up (phi3 s b (refPredsS m.f b)) k m).blocks j).phis.length = (nth m.blocks j).phis.length) ∧
   (∀ i, i < k → PhOk (up (phi3 s b (refPredsS m.f b)) k m) (nth (nth (up (phi3 s b (refPredsS m.f b)) k m).blocks b).phis i) b) ∧
   ∀ d j, d ≠ b → nth (nth (up (phi3 s b (refPredsS m.f b)) k m).blocks d).phis j = nth (nth m.blocks d).phis j
 | 0, _ => ⟨q, .refl, fun _ => rfl, fun i hi => absurd hi (Nat.not_lt_zero _), fun _ _ _ => rfl⟩
 | k + 1, hk => by
  obtain ⟨h1, h2, h3, h4, h5⟩ := D5.phis q hb hc k (by omega)
  have e : up (phi3 s b (refPredsS m.f b)) (k + 1) m = phi3 s b (refPredsS m.f b) k (up (phi3 s b (refPredsS m.f b)) k m) := rfl
  rw [e]
  have ep : refPredsS m.f b = refPredsS (up (phi3 s b (refPredsS m.f b)) k m).f b := (preds_congr h2.len h2.to).symm
  generalize hy : up (phi3 s b (refPredsS m.f b)) k m = y at h1 h2 h3 h4 h5 ep
  rw [ep]
  obtain ⟨k1, k2, k3, k4, k5⟩ := h1.phi (s := s) (i := k) hb (by rw [h3]; omega)
  refine ⟨k1.mono (by rw [Nat.mul_succ]; omega), h2.trans k2, fun j => (k3 j).trans (h3 j), fun i hi => ?_, fun d j hd => (k5 d j (.inl hd)).trans (h5 d j hd)⟩
  rcases Nat.lt_or_ge i k with h | h
  ·rw [k5 b i (.inr (by omega))]
   exact (h4 i h).ext k2
  ·have : i = k := by omega
   subst this; exact k4
theorem D5.blks {c : Nat} {lp : List Int} (q : D5 n c to m) (hc : ∀ j, ((nth m.blocks j).phis.length : Int) = nth lp j) (h3 : ∀ j, nth lp j ≤ 3) : ∀ k, k < n →
  D5 n (c + n * 3 * k) to (up (blk3 s lp) k m) ∧ Ext m (up (blk3 s lp) k m) ∧ (∀ j, (nth (up (blk3 s lp) k m).blocks j).phis.length = (nth m.blocks j).phis.length) ∧
   ∀ b, 1 ≤ b → b ≤ k → ∀ i, i < (nth m.blocks b).phis.length → PhOk (up (blk3 s lp) k m) (nth (nth (up (blk3 s lp) k m).blocks b).phis i) b
 | 0, _ => ⟨q, .refl, fun _ => rfl, fun b h1 h2 => by omega⟩
 | k + 1, hk => by
  obtain ⟨h1, h2, h4, h5⟩ := D5.blks q hc h3 k (by omega)
  have e : up (blk3 s lp) (k + 1) m = blk3 s lp k (up (blk3 s lp) k m) := rfl
  rw [e]
  generalize up (blk3 s lp) k m = y at h1 h2 h4 h5
  have hcnt : (nth y.blocks (k + 1)).phis.length = (nth lp (k + 1)).toNat := by
   have := hc (k + 1)
   rw [h4]; omega
  have hc3 := h3 (k + 1)
  obtain ⟨k1, k2, k3, k4, k5⟩ := h1.phis (s := s) (b := k + 1) hk hcnt (nth lp (k + 1)).toNat (Nat.le_refl _)
  have hbd : n * (nth lp (k + 1)).toNat ≤ n * 3 := Nat.mul_le_mul_left _ (by omega)
  have hms : n * 3 * (k + 1) = n * 3 * k + n * 3 := Nat.mul_succ _ _
  refine ⟨k1.mono (by rw [hms]; omega), h2.trans k2, fun j => (k3 j).trans (h4 j), fun b hb1 hb2 i hi => ?_⟩
  rcases Nat.lt_or_ge k b with h | h
  ·have : b = k + 1 := by omega
   subst this
   have := hc (k + 1)
   exact k4 i (by omega)
  ·have := (h5 b hb1 h i hi).ext k2
   rw [← k5 b i (by omega)] at this
   exact this
theorem made5_d : D5 (madeN s) 216 (made1 s).1 (made5 s) ∧ (∀ j, (nth (made5 s).blocks j).phis.length ≤ 3) ∧ (nth (made5 s).blocks 0).phis.length = 0 ∧ ∀ b, b < madeN s → ∀ i, i < (nth (made5 s).blocks b).phis.length → PhOk (made5 s) (nth (nth (made5 s).blocks b).phis i) b := by
 obtain ⟨n1, n2⟩ := madeN_rng (s := s)
 obtain ⟨q, h4⟩ := made4_d (s := s)
 obtain ⟨p, _, _⟩ := made3_ok (s := s)
 obtain ⟨_, pc⟩ := made4_ok (s := s)
 obtain ⟨_, _, e0⟩ := made3_p0 (s := s)
 have d : D5 (madeN s) 0 (made1 s).1 (made4 s).2 := ⟨q.gt, q.ok, fun j hj => q.term j hj (h4 j hj), q.ins, by have := q.nx; omega⟩
 obtain ⟨k1, k2, k3, k4⟩ := d.blks (s := s) (lp := (made3 s).1) pc (fun j => (p.rng j).2) (madeN s - 1) (by omega)
 have e : up (blk3 s (made3 s).1) (madeN s - 1) (made4 s).2 = made5 s := rfl
 rw [e] at k1 k2 k3 k4
 have hz : (nth (made5 s).blocks 0).phis.length = 0 := by
  rw [k3]; have := pc 0; omega
 have hm : madeN s * 3 * (madeN s - 1) ≤ 27 * 8 := Nat.mul_le_mul (by omega) (by omega)
 refine ⟨k1.mono (by omega), fun j => ?_, hz, fun b hb i hi => ?_⟩
 ·rw [k3]; have := pc j; have := (p.rng j).2; omega
 ·rcases Nat.eq_zero_or_pos b with h | h
  ·subst h; omega
  ·exact k4 b h (by omega) i (by rw [← k3]; exact hi)
theorem made_cnt {f : FuncD} {p i : Nat} (h : ∀ j, j < f.blocks.length → (nth f.blocks j).phis.length ≤ p ∧ (nth f.blocks j).ins.length ≤ i) : ∀ k, k ≤ f.blocks.length → cntTo f k ≤ f.blocks.length + (p + i) * k
 | 0, _ => by show f.blocks.length ≤ _; omega
 | k + 1, hk => by
  have ih := made_cnt h k (by omega)
  have := h k (by omega)
  show cntTo f k + _ + _ ≤ _
  rw [Nat.mul_succ]; omega
theorem make_may : MayBe (makeS s) := by
 obtain ⟨d, p3, p0, hph⟩ := made5_d (s := s)
 obtain ⟨n1, n2⟩ := madeN_rng (s := s)
 have t := made1_t (s := s)
 have hlen := d.gt.len
 have hf : (makeS s) = (made5 s).f := rfl
 rw [hf]
 have k := d.ok
 have hB : (made5 s).f.blocks = (made5 s).blocks := rfl
 have hP : (made5 s).f.params = (made5 s).ps := rfl
 have mp : 0 ≤ (made5 s).ps ∧ (made5 s).ps ≤ 4 := make_params (s := s)
 have gt := d.gt
 have hto : ∀ b, b < madeN s → ∀ v ∈ (nth (made5 s).blocks b).term.to, 1 ≤ v ∧ v < madeN s := fun b hb v hv => by
  rw [gt.to b hb] at hv; exact t.rng b v hv
 have way := gt_way gt
 have dn := d.nx
 have hins := d.ins
 have dt := d.term
 generalize made5 s = m at *
 refine ⟨mp, ⟨by rw [hB]; omega, by rw [hB]; omega⟩, ?_, fun t ht => ?_, mks_nodup k.nd k.dj _ (Nat.le_refl _), fun b hb => ?_, fun t ht h0 v hv => ?_, fun b i hb hi => ?_⟩
 ·have := made_cnt (f := m.f) (p := 3) (i := 261) (fun j hj => ⟨p3 j, by have := hins j (by rw [hB] at hj; omega); exact this⟩) _ (Nat.le_refl _)
  rw [hB, hlen] at this
  rw [hB, hlen]
  omega
 ·have hmk : ∀ n ∈ t.mks, m.f.params ≤ n ∧ n ≤ 8191 := fun v hv => by
   obtain ⟨b, hb, _, hm⟩ := th_mkB ht hv
   have := k.rg b hb v hm
   rw [hP]; omega
  obtain ⟨b, hb, hm⟩ := mem_thTo.1 ht
  have hb' : b < m.blocks.length := hb
  rcases mem_thB.1 hm with ⟨i, hi, rfl⟩ | ⟨i, hi, rfl⟩ | rfl
  ·have nl : isLast m.f (phiT m.f b i) = true → False := fun h => by
    have h1 : -1 - (i : Int) = ((blkOf m.f (phiT m.f b i)).ins.length : Nat) := of_decide_eq_true h
    omega
   refine ⟨fun h => ?_, fun h => (nl h).elim, hmk, fun h => (nl h).elim⟩
   have h1 : (0 : Int) ≤ -1 - (i : Int) := of_decide_eq_true ((Bool.and_eq_true _ _).mp h).1
   omega
  ·have nl : isLast m.f (insT m.f b i) = true → False := fun h => by
    have h1 : (i : Int) = ((nth m.f.blocks ((b : Nat) : Int).toNat).ins.length : Nat) := of_decide_eq_true h
    rw [Int.toNat_natCast] at h1
    omega
   refine ⟨fun h => ?_, fun h => (nl h).elim, hmk, fun h => (nl h).elim⟩
   refine k.op b hb' _ ?_
   show nth (nth m.f.blocks ((b : Nat) : Int).toNat).ins ((i : Nat) : Int).toNat ∈ _
   rw [Int.toNat_natCast, Int.toNat_natCast]
   exact nth_mem hi
  ·refine ⟨fun h => ?_, fun h => ?_, hmk, fun h v hv => ?_⟩
   ·have h1 : (((nth m.f.blocks b).ins.length : Nat) : Int) < ((nth m.f.blocks ((b : Nat) : Int).toNat).ins.length : Nat) := of_decide_eq_true ((Bool.and_eq_true _ _).mp h).2
    rw [Int.toNat_natCast] at h1
    omega
   ·show termS (nth m.f.blocks ((b : Nat) : Int).toNat).term = true
    rw [Int.toNat_natCast]
    exact dt b (by omega)
   ·have hv : v ∈ (nth m.f.blocks ((b : Nat) : Int).toNat).term.to := hv
    rw [Int.toNat_natCast] at hv
    have := hto b (by omega) v hv
    rw [hB]; omega
 ·exact way b (by rw [hB] at hb; omega)
 ·obtain ⟨b, hb, hm⟩ := mem_thTo.1 ht
  have hb' : b < m.blocks.length := hb
  rcases mem_thB.1 hm with ⟨i, hi, rfl⟩ | ⟨i, hi, rfl⟩ | rfl
  ·exact absurd h0 (by show ¬ (0 : Int) ≤ -1 - (i : Int); omega)
  ·exact sd_stands hb' (k.tk b hb' i hi v hv)
  ·exact sd_stands hb' (k.tm b hb' v hv)
 ·have hb' : b < m.blocks.length := hb
  obtain ⟨g1, g2⟩ := hph b (by omega) i hi
  refine ⟨?_, g1, fun q hq => ?_⟩
  ·rcases Nat.eq_zero_or_pos b with h | h
   ·subst h
    have hi : i < (nth m.blocks 0).phis.length := hi
    omega
   ·exact h
  ·obtain ⟨c, h1, h2, h3⟩ := g2 q hq
   rw [h1]
   have := sd_stands h2 h3
   show StandsP m.f q.val c (insLen m.f c)
   unfold insLen
   rw [Int.toNat_natCast]
   exact this
end
end Go.Proofs.Ytfelpjfopgiabaa
namespace Go.Proofs.Ytfelpjfopgiabaa
open Go Go.Lft
section
variable {f : FuncD} {b i : Nat} {d e : Int}
end
structure Tw (W : View) (h : Heap) (o : Own) (D : Nat) (vb : Value) (lb : List BlkM) (f : FuncD) : Prop where
 own : Owns W h o
 fnb : FnB o vb lb f
 box : o (11, 1) = bx T.api_Func D (RawN.mk (n := 1) [.int .i64 f.params, vb])
section
variable {W : View} {h : Heap} {o : Own} {D : Nat} {vb : Value} {lb : List BlkM} {f : FuncD} {b i : Nat} {d : Int}
theorem Tw.cells (w : Tw W h o D vb lb f) : Un.ev (vw h) (.loads 2) (.pointer (some ⟨D, 0, none⟩)) = some (.agg #[.int .i64 f.params, vb]) ∧ cellH (vw h) ⟨D, 0, none⟩ = some (.int .i64 f.params) ∧ cellH (vw h) ⟨D, 1, none⟩ = some vb :=
 ⟨w.own.rawAll (k := (11, 1)) (n := 1) (l := [.int .i64 f.params, vb]) w.box, w.own.raw (k := (11, 1)) (e := T.api_Func) (B := D) (l := [.int .i64 f.params, vb]) (n := 1) w.box (i := 0) (by decide), w.own.raw (k := (11, 1)) (e := T.api_Func) (B := D) (l := [.int .i64 f.params, vb]) (n := 1) w.box (i := 1) (by decide)⟩
theorem Tw.rd (w : Tw W h o D vb lb f) (hp : I64 f.params) : Rd (vw h) (.agg #[.int .i64 f.params, vb]) f :=
 ⟨_, rfl, [.int .i64 f.params], [vb], rfl, ⟨rfl, hp⟩, vb, rfl, w.fnb.rd w.own⟩
theorem Tw.ext (w : Tw W h o D vb lb f) {h' : Heap} (hle : (vw h).le (vw h')) : Tw W h' o D vb lb f := ⟨w.own.ext' hle, w.fnb, w.box⟩
end
section
variable {W : View} {h : Heap} {o : Own} {D : Nat} {vb : Value} {lb : List BlkM} {f : FuncD} {b i : Nat} {d : Int}
end
end Go.Proofs.Ytfelpjfopgiabaa
namespace Go.Proofs.Ytfelpjfopgiabaa
open Go Go.Lft
section
variable {f : FuncD} {b i : Nat}
theorem last_phi : isLast f (phiT f b i) = false := by
 refine decide_eq_false ?_
 show ¬ (-1 - (i : Int) = ((blkOf f (phiT f b i)).ins.length : Nat))
 omega
theorem last_ins (hi : i < (nth f.blocks b).ins.length) : isLast f (insT f b i) = false := by
 refine decide_eq_false ?_
 show ¬ ((i : Int) = ((nth f.blocks ((b : Nat) : Int).toNat).ins.length : Nat))
 rw [Int.toNat_natCast]
 omega
theorem last_end : isLast f (endT f b) = true := by
 refine decide_eq_true ?_
 show (((nth f.blocks b).ins.length : Nat) : Int) = ((nth f.blocks ((b : Nat) : Int).toNat).ins.length : Nat)
 rw [Int.toNat_natCast]
theorem ins_phi : isIns f (phiT f b i) = false := by
 have h : decide (0 ≤ (phiT f b i).place) = false := decide_eq_false (by show ¬ (0 : Int) ≤ -1 - (i : Int); omega)
 unfold isIns
 rw [h]; rfl
theorem ins_ins (hi : i < (nth f.blocks b).ins.length) : isIns f (insT f b i) = true ∧ insOf f (insT f b i) = nth (nth f.blocks b).ins i := by
 refine ⟨(Bool.and_eq_true _ _).mpr ⟨decide_eq_true (Int.natCast_nonneg _), decide_eq_true ?_⟩, ?_⟩
 ·show (i : Int) < ((nth f.blocks ((b : Nat) : Int).toNat).ins.length : Nat)
  rw [Int.toNat_natCast]; omega
 ·show nth (nth f.blocks ((b : Nat) : Int).toNat).ins ((i : Nat) : Int).toNat = _
  rw [Int.toNat_natCast, Int.toNat_natCast]
theorem ins_end : isIns f (endT f b) = false := by
 have h : decide ((endT f b).place < ((blkOf f (endT f b)).ins.length : Nat)) = false := decide_eq_false (by show ¬ (((nth f.blocks b).ins.length : Nat) : Int) < ((nth f.blocks ((b : Nat) : Int).toNat).ins.length : Nat); rw [Int.toNat_natCast]; omega)
 unfold isIns
 rw [h]
 exact Bool.and_false _
theorem blk_end : blkOf f (endT f b) = nth f.blocks b := by
 show nth f.blocks ((b : Nat) : Int).toNat = _
 rw [Int.toNat_natCast]
theorem good_phi (h : ∀ n ∈ (phiT f b i).mks, f.params ≤ n ∧ n ≤ 8191) : ThGood f (phiT f b i) :=
 ⟨fun c => (by rw [ins_phi] at c; cases c), fun c => (by rw [last_phi] at c; cases c), h, fun c => (by rw [last_phi] at c; cases c)⟩
theorem good_ins (hi : i < (nth f.blocks b).ins.length) (ho : opBad (nth (nth f.blocks b).ins i) = false) (h : ∀ n ∈ (insT f b i).mks, f.params ≤ n ∧ n ≤ 8191) : ThGood f (insT f b i) :=
 ⟨fun _ => (by rw [(ins_ins hi).2]; exact ho), fun c => (by rw [last_ins hi] at c; cases c), h, fun c => (by rw [last_ins hi] at c; cases c)⟩
theorem good_end (ht : termS (nth f.blocks b).term = true) (h : ∀ n ∈ (nth f.blocks b).term.to, 1 ≤ n ∧ n < f.blocks.length) : ThGood f (endT f b) :=
 ⟨fun c => (by rw [ins_end] at c; cases c), fun _ => (by rw [blk_end]; exact ht), fun n hn => (by cases hn), fun _ => (by rw [blk_end]; exact h)⟩
theorem MayBe.phiG (m : MayBe f) (hb : b < f.blocks.length) (hi : i < (nth f.blocks b).phis.length) : ThGood f (phiT f b i) := m.good _ (mem_thTo.2 ⟨b, hb, mem_thB.2 (.inl ⟨i, hi, rfl⟩)⟩)
theorem MayBe.insG (m : MayBe f) (hb : b < f.blocks.length) (hi : i < (nth f.blocks b).ins.length) : ThGood f (insT f b i) ∧ opBad (nth (nth f.blocks b).ins i) = false := by
 have g := m.good _ (mem_thTo.2 ⟨b, hb, mem_thB.2 (.inr (.inl ⟨i, hi, rfl⟩))⟩)
 exact ⟨g, by have := g.op (ins_ins hi).1; rwa [(ins_ins hi).2] at this⟩
theorem MayBe.endG (m : MayBe f) (hb : b < f.blocks.length) : termS (nth f.blocks b).term = true ∧ ∀ n ∈ (nth f.blocks b).term.to, 1 ≤ n ∧ n < f.blocks.length := by
 have g := m.good _ (mem_thTo.2 ⟨b, hb, mem_thB.2 (.inr (.inr rfl))⟩)
 have h1 := g.term last_end
 have h2 := g.to last_end
 rw [blk_end] at h1 h2
 exact ⟨h1, h2⟩
end
def newT (N n i : Nat) : TermD := if i + 1 < n then ⟨1, [], [((N + i + 1 : Nat) : Int)], ⟨0⟩⟩ else ⟨5, [], [], ⟨7⟩⟩
def newB (N n i : Nat) : BlkD := ⟨[], [], newT N n i⟩
structure Mo (f g : FuncD) (n : Nat) : Prop where
 params : g.params = f.params
 len : g.blocks.length = f.blocks.length + n
 phis : ∀ c, c < f.blocks.length → (nth g.blocks c).phis = (nth f.blocks c).phis
 ins : ∀ c, c < f.blocks.length → (nth g.blocks c).ins = (nth f.blocks c).ins
 term : ∀ c, c < f.blocks.length → (nth g.blocks c).term = (nth f.blocks c).term ∨ ((nth f.blocks c).term.to = [] ∧ (nth g.blocks c).term = ⟨1, [], [(f.blocks.length : Int)], ⟨0⟩⟩)
 new : ∀ i, i < n → nth g.blocks (f.blocks.length + i) = newB f.blocks.length n i
section
variable {f g : FuncD} {n : Nat}
theorem Mo.phiT (m : Mo f g n) {c : Nat} (hc : c < f.blocks.length) (i : Nat) : phiT g c i = phiT f c i := by unfold Go.Proofs.Ytfelpjfopgiabaa.phiT; rw [m.phis c hc]
theorem Mo.insT (m : Mo f g n) {c : Nat} (hc : c < f.blocks.length) (i : Nat) : insT g c i = insT f c i := by unfold Go.Proofs.Ytfelpjfopgiabaa.insT; rw [m.ins c hc]
theorem Mo.good (m : Mo f g n) (mb : MayBe f) (hn : 1 ≤ n) : ∀ t ∈ thingsS g, ThGood g t := by
 intro t ht
 obtain ⟨c, hc, hm⟩ := mem_thTo.1 ht
 rw [m.len] at hc
 rcases Nat.lt_or_ge c f.blocks.length with h | h
 ·rcases mem_thB.1 hm with ⟨i, hi, rfl⟩ | ⟨i, hi, rfl⟩ | rfl
  ·rw [m.phis c h] at hi
   refine good_phi fun k hk => ?_
   rw [m.phiT h] at hk
   rw [m.params]; exact (mb.phiG h hi).mks k hk
  ·refine good_ins hi ?_ fun k hk => ?_
   ·rw [m.ins c h] at hi ⊢; exact (mb.insG h hi).2
   ·rw [m.ins c h] at hi
    rw [m.insT h] at hk
    rw [m.params]; exact (mb.insG h hi).1.mks k hk
  ·obtain ⟨e1, e2⟩ := mb.endG h
   refine good_end ?_ fun k hk => ?_
   ·rcases m.term c h with e | ⟨_, e⟩
    ·rw [e]; exact e1
    ·rw [e]; rfl
   ·rw [m.len]
    rcases m.term c h with e | ⟨_, e⟩
    ·rw [e] at hk; have := e2 k hk; omega
    ·rw [e] at hk
     have := List.mem_singleton.1 hk
     have := mb.blocks.1
     omega
 ·obtain ⟨i, rfl⟩ : ∃ i, c = f.blocks.length + i := ⟨c - f.blocks.length, by omega⟩
  have hi : i < n := by omega
  have e := m.new i hi
  rcases mem_thB.1 hm with ⟨j, hj, rfl⟩ | ⟨j, hj, rfl⟩ | rfl
  ·rw [e] at hj; exact absurd hj (Nat.not_lt_zero _)
  ·rw [e] at hj; exact absurd hj (Nat.not_lt_zero _)
  ·refine good_end ?_ fun k hk => ?_
   ·rw [e]; unfold newB newT; dsimp only; split <;> rfl
   ·rw [e] at hk
    unfold newB newT at hk
    dsimp only at hk
    split at hk
    ·have := List.mem_singleton.1 hk
     rw [m.len]; omega
    ·cases hk
theorem Mo.mkB (m : Mo f g n) {c : Nat} (hc : c < f.blocks.length) : mkB (nth g.blocks c) = mkB (nth f.blocks c) := by unfold Go.Proofs.Ytfelpjfopgiabaa.mkB; rw [m.phis c hc, m.ins c hc]
theorem mksOf_succ {f : FuncD} {c : Nat} : mksOf (thTo f (c + 1)) = mksOf (thTo f c) ++ mkB (nth f.blocks c) := by
 rw [thTo_succ, ← mks_thB]; exact List.flatMap_append
theorem Mo.mksTo (m : Mo f g n) : ∀ {c : Nat}, c ≤ f.blocks.length → mksOf (thTo g c) = mksOf (thTo f c)
 | 0, _ => rfl
 | c + 1, h => by rw [mksOf_succ, mksOf_succ, Mo.mksTo m (by omega), m.mkB (by omega)]
theorem Mo.mksNew (m : Mo f g n) : ∀ {k : Nat}, k ≤ n → mksOf (thTo g (f.blocks.length + k)) = mksOf (thingsS f)
 | 0, _ => m.mksTo (Nat.le_refl _)
 | k + 1, h => by
  show mksOf (thTo g (f.blocks.length + k + 1)) = _
  rw [mksOf_succ, Mo.mksNew m (by omega), m.new k (by omega)]
  exact List.append_nil _
theorem Mo.nodup (m : Mo f g n) (mb : MayBe f) : (mksOf (thingsS g)).Nodup := by
 unfold thingsS
 rw [m.len, m.mksNew (Nat.le_refl _)]
 exact mb.nodup
theorem Mo.cntTo (m : Mo f g n) : ∀ {c : Nat}, c ≤ f.blocks.length → cntTo g c = cntTo f c + n
 | 0, _ => m.len
 | c + 1, h => by
  show Go.Proofs.Ytfelpjfopgiabaa.cntTo g c + _ + _ = Go.Proofs.Ytfelpjfopgiabaa.cntTo f c + _ + _ + n
  rw [Mo.cntTo m (by omega), m.phis c (by omega), m.ins c (by omega)]; omega
theorem Mo.cntNew (m : Mo f g n) : ∀ {k : Nat}, k ≤ n → Go.Proofs.Ytfelpjfopgiabaa.cntTo g (f.blocks.length + k) = Go.Proofs.Ytfelpjfopgiabaa.cntTo f f.blocks.length + n
 | 0, _ => m.cntTo (Nat.le_refl _)
 | k + 1, h => by
  show Go.Proofs.Ytfelpjfopgiabaa.cntTo g (f.blocks.length + k) + (nth g.blocks (f.blocks.length + k)).phis.length + (nth g.blocks (f.blocks.length + k)).ins.length = _
  rw [Mo.cntNew m (by omega), m.new k (by omega)]; rfl
theorem Mo.cnt (m : Mo f g n) : Go.Proofs.Ytfelpjfopgiabaa.cntTo g g.blocks.length = Go.Proofs.Ytfelpjfopgiabaa.cntTo f f.blocks.length + n := by rw [m.len]; exact m.cntNew (Nat.le_refl _)
theorem newT_to {N n i : Nat} {k : Int} (h : k ∈ (newT N n i).to) : k = ((N + i + 1 : Nat) : Int) := by
 unfold newT at h
 split at h
 ·exact List.mem_singleton.1 h
 ·cases h
theorem Mo.re_to (m : Mo f g n) {a : Int} {c : Nat} (h : Re (ofG g.blocks) a c) : c < f.blocks.length → Re (ofG f.blocks) a c := by
 induction h with
 | root h0 h1 => exact fun hc => .root (by rw [ofG_len]; exact hc) h1
 | @step x c hx he hne ih =>
  intro hc
  obtain ⟨hr, hm⟩ := edge_ofG.1 he
  rw [Int.toNat_natCast] at hm
  rw [m.len] at hr
  rcases Nat.lt_or_ge x f.blocks.length with h | h
  ·rcases m.term x h with e | ⟨_, e⟩
   ·rw [e] at hm
    exact .step (ih h) (edge_ofG.2 ⟨⟨by omega, by omega, by omega, by omega⟩, by rw [Int.toNat_natCast]; exact hm⟩) hne
   ·rw [e] at hm
    have := List.mem_singleton.1 hm
    omega
  ·obtain ⟨i, rfl⟩ : ∃ i, x = f.blocks.length + i := ⟨x - f.blocks.length, by omega⟩
   rw [m.new i (by omega)] at hm
   have := newT_to hm
   omega
theorem Mo.re_of (m : Mo f g n) {a : Int} {c : Nat} (h : Re (ofG f.blocks) a c) : Re (ofG g.blocks) a c := by
 induction h with
 | root h0 h1 => exact .root (by rw [ofG_len, m.len]; rw [ofG_len] at h0; omega) h1
 | @step x c hx he hne ih =>
  obtain ⟨hr, hm⟩ := edge_ofG.1 he
  rw [Int.toNat_natCast] at hm
  refine .step ih (edge_ofG.2 ⟨by rw [m.len]; omega, ?_⟩) hne
  rw [Int.toNat_natCast]
  rcases m.term x (by omega) with e | ⟨e, _⟩
  ·rw [e]; exact hm
  ·rw [e] at hm; cases hm
theorem Mo.re_old (m : Mo f g n) (mb : MayBe f) (ho : ∀ c, c < f.blocks.length → (nth g.blocks c).term = (nth f.blocks c).term) {a : Int} {c : Nat} (h : Re (ofG g.blocks) a c) : c < f.blocks.length := by
 induction h with
 | root _ _ => exact mb.blocks.1
 | @step x c hx he hne ih =>
  obtain ⟨hr, hm⟩ := edge_ofG.1 he
  rw [Int.toNat_natCast, ho x ih] at hm
  have := (mb.endG ih).2 _ hm
  omega
theorem upE_first {h : Nat → Unit → Except Tr Unit} {n k : Nat} {e : Tr} (hk : k < n) (h0 : ∀ i, i < k → h i () = .ok ()) (h1 : h k () = .error e) : upE h n () = .error e := by
 induction n with
 | zero => omega
 | succ n ih =>
  simp only [upE]
  rcases Nat.lt_or_ge k n with q | q
  ·rw [ih q]
  ·have : k = n := by omega
   subst this
   rw [upE_unit h0]; exact h1
theorem Mo.told (m : Mo f g n) (mb : MayBe f) (hn : 1 ≤ n) (hb : g.blocks.length ≤ 512) (hc : Go.Proofs.Ytfelpjfopgiabaa.cntTo g g.blocks.length ≤ 4096) (ho : ∀ c, c < f.blocks.length → (nth g.blocks c).term = (nth f.blocks c).term) : toldS g = (15, (f.blocks.length : Int), 0) := by
 rw [told_same]
 have hp := mb.params
 have hpp := m.params
 have hl := m.len
 have hf := mb.blocks
 unfold refFuncS
 rw [if_neg (by omega), if_neg (by omega), if_neg (by omega)]
 obtain ⟨mm, hm⟩ := shapes_can (f := g) (by omega) marks_zero (m.good mb hn) (m.nodup mb) fun _ _ => id
 rw [refShape_fold, hm, if_neg (by simp [errOf])]
 have hw : wayE g = .error (15, (f.blocks.length : Int), 0) := by
  refine upE_first (k := f.blocks.length) (by omega) (fun i hi => if_pos ((reached_spec (by omega)).2 (m.re_of (mb.way i hi)))) (if_neg fun h => ?_)
  exact absurd (m.re_old mb ho ((reached_spec (by omega)).1 h)) (Nat.lt_irrefl _)
 rw [hw]
 rfl
theorem Mo.stands (m : Mo f g n) {v : Int} {c : Nat} {p : Int} (hc : c < f.blocks.length) (h : StandsP f v c p) : StandsP g v c p := by
 rcases h with h | ⟨t, ht, hv, h⟩
 ·exact .inl (by rw [m.params]; exact h)
 ·refine .inr ⟨t, ?_, hv, ?_⟩
  ·obtain ⟨d, hd, hm⟩ := mem_thTo.1 ht
   refine mem_thTo.2 ⟨d, by rw [m.len]; omega, mem_thB.2 ?_⟩
   rcases mem_thB.1 hm with ⟨i, hi, rfl⟩ | ⟨i, hi, rfl⟩ | rfl
   ·exact .inl ⟨i, by rw [m.phis d hd]; exact hi, (m.phiT hd i).symm⟩
   ·exact .inr (.inl ⟨i, by rw [m.ins d hd]; exact hi, (m.insT hd i).symm⟩)
   ·cases hv
  ·rcases h with h | ⟨h1, h2⟩
   ·exact .inl h
   ·refine .inr ⟨h1, fun h => h2 (m.re_to h ?_)⟩
    rw [Int.toNat_natCast]; exact hc
theorem sift_ext {p q : Nat → Bool} {x : Nat → Int} {N : Nat} (h0 : ∀ i, i < N → p i = q i) : ∀ {k : Nat}, (∀ i, i < k → p (N + i) = false) → sift p x (N + k) = sift q x N
 | 0, _ => by
  rw [sift_eq, sift_eq]
  show List.map x (List.filter p (List.range N)) = _
  rw [List.filter_congr fun i hi => h0 i (List.mem_range.1 hi)]
 | k + 1, h => by
  show sift p x (N + k + 1) = _
  rw [sift_false (h k (by omega))]
  exact sift_ext h0 fun i hi => h i (by omega)
theorem Mo.preds (m : Mo f g n) {c : Nat} (hc : c < f.blocks.length) : refPredsS g c = refPredsS f c := by
 unfold refPredsS
 rw [m.len]
 refine sift_ext (fun i hi => ?_) fun i hi => ?_
 ·rcases m.term i hi with e | ⟨e, e2⟩
  ·rw [e]
  ·rw [e, e2]
   simp
   omega
 ·rw [m.new i hi]
  refine decide_eq_false fun h => ?_
  have := newT_to h
  omega
theorem Mo.may (m : Mo f g n) (mb : MayBe f) (hn : 1 ≤ n) (hb : g.blocks.length ≤ 512) (hc : Go.Proofs.Ytfelpjfopgiabaa.cntTo g g.blocks.length ≤ 4096) {b : Nat} (hbl : b < f.blocks.length) (hlk : (nth g.blocks b).term = ⟨1, [], [(f.blocks.length : Int)], ⟨0⟩⟩) : MayBe g := by
 have hl := m.len
 have hf := mb.blocks
 refine ⟨by rw [m.params]; exact mb.params, ⟨by omega, hb⟩, hc, m.good mb hn, m.nodup mb, fun c h => ?_, fun t ht h0 v hv => ?_, fun c i h hi => ?_⟩
 ·rcases Nat.lt_or_ge c f.blocks.length with q | q
  ·exact m.re_of (mb.way c q)
  ·obtain ⟨i, rfl⟩ : ∃ i, c = f.blocks.length + i := ⟨c - f.blocks.length, by omega⟩
   have key : ∀ i, i < n → Re (ofG g.blocks) (-1) (f.blocks.length + i) := by
    intro i
    induction i with
    | zero =>
     intro _
     refine .step (m.re_of (mb.way b hbl)) (edge_ofG.2 ⟨⟨by omega, by omega, by omega, by omega⟩, ?_⟩) (by omega)
     rw [Int.toNat_natCast, hlk]
     exact List.mem_singleton.2 rfl
    | succ i ih =>
     intro hi
     refine .step (ih (by omega)) (edge_ofG.2 ⟨⟨by omega, by omega, by omega, by omega⟩, ?_⟩) (by omega)
     rw [Int.toNat_natCast, m.new i (by omega)]
     unfold newB newT
     rw [if_pos hi]
     exact List.mem_singleton.2 rfl
   exact key i (by omega)
 ·obtain ⟨c, hcl, hm⟩ := mem_thTo.1 ht
  rw [hl] at hcl
  rcases Nat.lt_or_ge c f.blocks.length with q | q
  ·rcases mem_thB.1 hm with ⟨i, hi, rfl⟩ | ⟨i, hi, rfl⟩ | rfl
   ·exact absurd h0 (by show ¬ (0 : Int) ≤ -1 - (i : Int); omega)
   ·rw [m.insT q] at hv ⊢
    rw [m.ins c q] at hi
    exact m.stands q (mb.takes _ (mem_thTo.2 ⟨c, q, mem_thB.2 (.inr (.inl ⟨i, hi, rfl⟩))⟩) (Int.natCast_nonneg _) v hv)
   ·have hv : v ∈ (nth g.blocks c).term.args := hv
    rcases m.term c q with e | ⟨_, e⟩
    ·rw [e] at hv
     have := m.stands q (mb.takes (endT f c) (mem_thTo.2 ⟨c, q, mem_thB.2 (.inr (.inr rfl))⟩) (Int.natCast_nonneg _) v hv)
     show StandsP g v c (((nth g.blocks c).ins.length : Nat) : Int)
     rw [m.ins c q]
     exact this
    ·rw [e] at hv; cases hv
  ·obtain ⟨i, rfl⟩ : ∃ i, c = f.blocks.length + i := ⟨c - f.blocks.length, by omega⟩
   have e := m.new i (by omega)
   rcases mem_thB.1 hm with ⟨j, hj, rfl⟩ | ⟨j, hj, rfl⟩ | rfl
   ·rw [e] at hj; exact absurd hj (Nat.not_lt_zero _)
   ·rw [e] at hj; exact absurd hj (Nat.not_lt_zero _)
   ·have hv : v ∈ (nth g.blocks (f.blocks.length + i)).term.args := hv
    rw [e] at hv
    unfold newB newT at hv
    dsimp only at hv
    split at hv <;> cases hv
 ·rw [hl] at h
  rcases Nat.lt_or_ge c f.blocks.length with q | q
  ·rw [m.phis c q] at hi ⊢
   obtain ⟨k1, k2, k3⟩ := mb.phi c i q hi
   refine ⟨k1, by rw [m.preds q]; exact k2, fun p hp => ?_⟩
   have hm : p.frm ∈ refPredsS f c := by rw [← k2]; exact List.mem_map_of_mem hp
   have hr := (in_preds.1 hm).1
   have hs := k3 p hp
   obtain ⟨d, hd⟩ : ∃ d : Nat, p.frm = d := ⟨p.frm.toNat, by omega⟩
   rw [hd] at hs hr ⊢
   have := m.stands (by omega) hs
   unfold insLen at this ⊢
   rw [Int.toNat_natCast] at this ⊢
   rw [m.ins d (by omega)]; exact this
  ·obtain ⟨j, rfl⟩ : ∃ j, c = f.blocks.length + j := ⟨c - f.blocks.length, by omega⟩
   rw [m.new j (by omega)] at hi
   exact absurd hi (Nat.not_lt_zero _)
end
theorem make_cnt {s : List Int} : cntTo (makeS s) (makeS s).blocks.length ≤ 4000 := by
 obtain ⟨d, p3, _, _⟩ := made5_d (s := s)
 obtain ⟨n1, n2⟩ := madeN_rng (s := s)
 have hlen := d.gt.len
 have hB : (makeS s).blocks = (made5 s).blocks := rfl
 have := made_cnt (f := makeS s) (p := 3) (i := 261) (fun j hj => ⟨p3 j, by have := d.ins j (by rw [hB] at hj; omega); exact this⟩) _ (Nat.le_refl _)
 rw [hB, hlen] at this
 rw [hB, hlen]
 omega
end Go.Proofs.Ytfelpjfopgiabaa
namespace Go.Proofs.Ytfelpjfopgiabaa
open Go Go.Lft
def addB (f : FuncD) (n k : Nat) : FuncD := ⟨f.params, f.blocks ++ rows (newB f.blocks.length n) k⟩
def setT (f : FuncD) (b : Nat) (t : TermD) : FuncD := ⟨f.params, f.blocks.set b { nth f.blocks b with term := t }⟩
section
variable {f : FuncD} {n k b : Nat} {t : TermD}
theorem addB_len : (addB f n k).blocks.length = f.blocks.length + k := by simp [addB]
theorem addB_old {c : Nat} (h : c < f.blocks.length) : nth (addB f n k).blocks c = nth f.blocks c := by
 show nth (f.blocks ++ _) c = _
 rw [nth_eq (by simp; omega), nth_eq h, List.getElem_append_left h]
theorem addB_new {i : Nat} (h : i < k) : nth (addB f n k).blocks (f.blocks.length + i) = newB f.blocks.length n i := by
 show nth (f.blocks ++ _) _ = _
 rw [nth_eq (by simp; omega), List.getElem_append_right (by omega)]
 simp [rows]
theorem addB_zero : addB f n 0 = f := by simp [addB, rows]
theorem addB_succ : addB f n (k + 1) = ⟨f.params, (addB f n k).blocks ++ [newB f.blocks.length n k]⟩ := by
 unfold addB
 rw [rows_succ, List.append_assoc]
theorem addB_mo : Mo f (addB f n n) n := ⟨rfl, addB_len, fun c h => by rw [addB_old h], fun c h => by rw [addB_old h], fun c h => .inl (by rw [addB_old h]), fun i h => addB_new h⟩
theorem setT_nth (hb : b < f.blocks.length) (c : Nat) : nth (setT f b t).blocks c = if b = c then { nth f.blocks b with term := t } else nth f.blocks c := by
 unfold setT
 dsimp only
 rcases Nat.lt_or_ge c f.blocks.length with h | h
 ·exact nth_set h
 ·rw [nth_ge (by rw [List.length_set]; exact h), nth_ge h, if_neg (by omega)]
theorem setT_mo (hb : b < f.blocks.length) (h0 : (nth f.blocks b).term.to = []) : Mo f (setT (addB f n n) b ⟨1, [], [(f.blocks.length : Int)], ⟨0⟩⟩) n ∧ (nth (setT (addB f n n) b ⟨1, [], [(f.blocks.length : Int)], ⟨0⟩⟩).blocks b).term = ⟨1, [], [(f.blocks.length : Int)], ⟨0⟩⟩ := by
 have hb2 : b < (addB f n n).blocks.length := by rw [addB_len]; omega
 have hn := fun c => setT_nth (f := addB f n n) (t := ⟨1, [], [(f.blocks.length : Int)], ⟨0⟩⟩) hb2 c
 refine ⟨⟨rfl, by show ((addB f n n).blocks.set _ _).length = _; rw [List.length_set, addB_len], fun c h => ?_, fun c h => ?_, fun c h => ?_, fun i h => ?_⟩, by rw [hn, if_pos rfl]⟩
 ·rw [hn]
  split
  ·rename_i e; subst e; rw [addB_old h]
  ·rw [addB_old h]
 ·rw [hn]
  split
  ·rename_i e; subst e; rw [addB_old h]
  ·rw [addB_old h]
 ·rw [hn]
  split
  ·rename_i e; subst e; exact .inr ⟨h0, rfl⟩
  ·exact .inl (by rw [addB_old h])
 ·rw [hn, if_neg (by omega)]; exact addB_new h
theorem Mo.sm {g : FuncD} (m : Mo f g n) (s : SmF f) (hl : f.blocks.length + n ≤ 100) : SmF g := by
 refine ⟨by rw [m.len]; omega, fun j hj => ?_⟩
 rw [m.len] at hj
 rcases Nat.lt_or_ge j f.blocks.length with h | h
 ·have q := s.blk j h
  have ht := m.term j h
  have h1 := m.phis j h
  have h2 := m.ins j h
  generalize nth g.blocks j = y at h1 h2 ht
  obtain ⟨q1, q2, q3, q4, q5, q6⟩ := q
  refine ⟨by rw [h1]; exact q1, by rw [h2]; exact q2, ?_, ?_, fun k hk => by rw [h1] at hk ⊢; exact q5 k hk, fun k hk => by rw [h2] at hk ⊢; exact q6 k hk⟩
  ·rcases ht with e | ⟨_, e⟩
   ·rw [e]; exact q3
   ·rw [e]; exact Nat.zero_le _
  ·rcases ht with e | ⟨_, e⟩
   ·rw [e]; exact q4
   ·rw [e]; show 1 ≤ 10000; omega
 ·obtain ⟨i, rfl⟩ : ∃ i, j = f.blocks.length + i := ⟨j - f.blocks.length, by omega⟩
  rw [m.new i (by omega)]
  unfold newB newT
  split <;> exact ⟨Nat.zero_le _, Nat.zero_le _, Nat.zero_le _, (by simp), fun k hk => absurd hk (Nat.not_lt_zero _), fun k hk => absurd hk (Nat.not_lt_zero _)⟩
end
theorem FnB.push {o o' : Own} {vb vb' : Value} {lb : List BlkM} {f : FuncD} {t : TermD} (w : FnB o vb lb f) (hb : o' (0, 2) = it T.api_Block vb' (lb ++ [⟨⟨.slice none 0 0⟩, ⟨.slice none 0 0⟩, t⟩])) (ho : ∀ i, i < f.blocks.length → o' (1, i) = o (1, i) ∧ o' (2, i) = o (2, i))
  (hn : o' (1, f.blocks.length) = it T.api_Phi (.slice none 0 0) ([] : List PhiD) ∧ o' (2, f.blocks.length) = it T.api_Ins (.slice none 0 0) ([] : List InsD)) : FnB o' vb' (lb ++ [⟨⟨.slice none 0 0⟩, ⟨.slice none 0 0⟩, t⟩]) ⟨f.params, f.blocks ++ [⟨[], [], t⟩]⟩ := by
 have hl := w.len
 have old : ∀ i, i < f.blocks.length → nth (lb ++ [⟨⟨.slice none 0 0⟩, ⟨.slice none 0 0⟩, t⟩]) i = nth lb i ∧ nth (f.blocks ++ [⟨[], [], t⟩]) i = nth f.blocks i := fun i hi => by
  rw [nth_eq (l := (lb ++ [(⟨⟨.slice none 0 0⟩, ⟨.slice none 0 0⟩, t⟩ : BlkM)])) (i := i) (by simp; omega), nth_eq (l := (f.blocks ++ [(⟨[], [], t⟩ : BlkD)])) (i := i) (by simp; omega), nth_eq (l := lb) (i := i) (by omega), nth_eq hi, List.getElem_append_left (by omega), List.getElem_append_left hi]
  exact ⟨rfl, rfl⟩
 have new : nth (lb ++ [⟨⟨.slice none 0 0⟩, ⟨.slice none 0 0⟩, t⟩]) f.blocks.length = ⟨⟨.slice none 0 0⟩, ⟨.slice none 0 0⟩, t⟩ ∧ nth (f.blocks ++ [⟨[], [], t⟩]) f.blocks.length = ⟨[], [], t⟩ := by
  rw [nth_eq (l := (lb ++ [(⟨⟨.slice none 0 0⟩, ⟨.slice none 0 0⟩, t⟩ : BlkM)])) (i := f.blocks.length) (by simp; omega), nth_eq (l := (f.blocks ++ [(⟨[], [], t⟩ : BlkD)])) (i := f.blocks.length) (by simp), List.getElem_append_right (by omega), List.getElem_append_right (by omega)]
  simp
 refine ⟨hb, by simp [hl], fun i hi => ?_, fun i hi => ?_, fun i hi => ?_⟩ <;> (have hi : i < f.blocks.length + 1 := by have hi2 : i < (f.blocks ++ [(⟨[], [], t⟩ : BlkD)]).length := hi; rw [List.length_append, List.length_singleton] at hi2; exact hi2) <;> rcases Nat.lt_or_ge i f.blocks.length with h | h
 ·rw [(old i h).1, (old i h).2]; exact w.term i h
 ·rw [show i = f.blocks.length by omega, new.1, new.2]
 ·rw [(old i h).1, (old i h).2, (ho i h).1]; exact w.phis i h
 ·rw [show i = f.blocks.length by omega, new.1, new.2]; exact hn.1
 ·rw [(old i h).1, (old i h).2, (ho i h).2]; exact w.ins i h
 ·rw [show i = f.blocks.length by omega, new.1, new.2]; exact hn.2
theorem FnB.setT {o o' : Own} {vb : Value} {lb : List BlkM} {f : FuncD} {b : Nat} {t : TermD} (w : FnB o vb lb f) (hb : b < f.blocks.length) (ho : ∀ k, o' k = o.upd (0, 2) (it T.api_Block vb (lb.set b { nth lb b with term := t })) k) : FnB o' vb (lb.set b { nth lb b with term := t }) (Go.Proofs.Ytfelpjfopgiabaa.setT f b t) := by
 have hl := w.len
 have hs := fun c => setT_nth (f := f) (t := t) hb c
 have hs2 := fun c (hc : c < f.blocks.length) => nth_set (l := lb) (i := b) (j := c) (x := { nth lb b with term := t }) (by omega)
 have hlen : (Go.Proofs.Ytfelpjfopgiabaa.setT f b t).blocks.length = f.blocks.length := List.length_set
 refine ⟨by rw [ho, Own.upd_self], by rw [List.length_set, hlen]; exact hl, fun i hi => ?_, fun i hi => ?_, fun i hi => ?_⟩ <;> rw [hlen] at hi <;> rw [hs, hs2 i hi]
 ·split
  ·rfl
  ·exact w.term i hi
 ·rw [ho, Own.upd_ne (by simp)]
  split
  ·rename_i e; subst e; exact w.phis b hi
  ·exact w.phis i hi
 ·rw [ho, Own.upd_ne (by simp)]
  split
  ·rename_i e; subst e; exact w.ins b hi
  ·exact w.ins i hi
theorem rd_blkM {H : View} {vp vi va vt : Value} {a t : List Int} {kd : Int} {imm : I32} (h1 : vp.oneCell' = true) (h2 : vi.oneCell' = true) (h3 : SlRd H va a) (h4 : SlRd H vt t) (h5 : I64 kd) (h6 : -2147483648 ≤ imm.v ∧ imm.v ≤ 2147483647) : Rd H (.agg #[vp, vi, .int .i64 kd, va, vt, .int .i32 imm.v]) (BlkM.mk ⟨vp⟩ ⟨vi⟩ ⟨kd, a, t, imm⟩) :=
 ⟨_, rfl, [vp], _, rfl, ⟨rfl, h1⟩, [vi], _, rfl, ⟨rfl, h2⟩, [.int .i64 kd], _, rfl, ⟨rfl, h5⟩, [va], _, rfl, ⟨va, rfl, h3⟩, [vt], _, rfl, ⟨vt, rfl, h4⟩, rfl, h6⟩
theorem rd_termD {H : View} {va vt : Value} {a t : List Int} {kd : Int} {imm : I32} (h3 : SlRd H va a) (h4 : SlRd H vt t) (h5 : I64 kd) (h6 : -2147483648 ≤ imm.v ∧ imm.v ≤ 2147483647) : Rd H (.agg #[.int .i64 kd, va, vt, .int .i32 imm.v]) (TermD.mk kd a t imm) :=
 ⟨_, rfl, [.int .i64 kd], _, rfl, ⟨rfl, h5⟩, [va], _, rfl, ⟨va, rfl, h3⟩, [vt], _, rfl, ⟨vt, rfl, h4⟩, rfl, h6⟩
theorem checkReach_ok {l : List Int} {n : Int} {vl : Value} {h : Heap} (hl : SlRd (vw h) vl l) :
  HCalls Try.prog N.law03_CheckReach #[vl, .int .i64 n] h (fun u h' => u = .bool true ∧ (vw h).le (vw h')) := by
 refine calls_lift (args := [vl, .int .i64 n]) follows F.law03_CheckReach E.law03_CheckReach (Nat.le_of_ble_eq_true (by kernel_rfl)) fun K hK => ?_
 dsimp only [L.law03_CheckReach]
 refine lwp_hide fun z hz => ?_
 simp
 rw [hz]; clear hz z
 refine lwp_hide fun z hz => ?_
 simp
 refine call_to (by kernel_rfl) shown_ok ?_
 rintro _ h3 ⟨rfl, hle3⟩
 rw [hz]; clear hz z
 refine lwp_hide fun z hz => ?_
 simp
 refine call_to (by kernel_rfl) (lawMade_own (Owns.start (View.le_refl (vw h3))) (fun k hk => rfl) (hl.mono hle3)) ?_
 rintro _ h4 ⟨W4, o4, vb, lb, hW4, w4, f4, b4, rfl⟩
 have may := make_may (s := l.take 200)
 have tf := make_tf (s := l.take 200)
 have cnt := make_cnt (s := l.take 200)
 have len := (make_len (s := l.take 200)).2
 generalize makeS (l.take 200) = f at b4 may tf cnt len
 have sm := tf.sm (by omega)
 refine w4.do_var (k := (11, 1)) (n := 1) (l := [.int .i64 f.params, vb]) (f4 _ (by decide)) (z := .agg #[.int .i64 0, .slice none 0 0]) (by kernel_rfl) rfl (by kernel_rfl) rfl (by decide) (two_cells (w4.cells b4.blk).2) (fun _ => by simp) (fun _ => by simp) fun h5 q5 w5 => ?_
 generalize h4.size = D at w5
 have w5 : Owns W4 h5 (fun q => if (q.1 = 1 ∨ q.1 = 2) ∧ f.blocks.length ≤ q.2 then none else (o4.upd (11, 1) (bx T.api_Func D (RawN.mk (n := 1) [.int .i64 f.params, vb]))) q) := w5.sub fun q i hq => by
  split at hq
  ·cases hq
  ·exact hq
 have t5 : Tw W4 h5 _ D vb lb f := ⟨w5, ⟨b4.blk, b4.len, b4.term, fun i hi => by dsimp only; rw [if_neg (by omega)]; exact b4.phis i hi, fun i hi => by dsimp only; rw [if_neg (by omega)]; exact b4.ins i hi⟩, rfl⟩
 have f5 : ∀ q : Key, (3 ≤ q.1 ∧ q ≠ (11, 1)) ∨ ((q.1 = 1 ∨ q.1 = 2) ∧ f.blocks.length ≤ q.2) → (fun q : Key => if (q.1 = 1 ∨ q.1 = 2) ∧ f.blocks.length ≤ q.2 then none else (o4.upd (11, 1) (bx T.api_Func D (RawN.mk (n := 1) [.int .i64 f.params, vb]))) q) q = none := fun q hq => by
  by_cases hn : (q.1 = 1 ∨ q.1 = 2) ∧ f.blocks.length ≤ q.2
  ·exact if_pos hn
  ·refine (if_neg hn).trans ?_
   rcases hq with ⟨h3, h11⟩ | hq
   ·rw [Own.upd_ne h11, f4 q h3]
   ·exact absurd hq hn
 generalize (fun q : Key => if (q.1 = 1 ∨ q.1 = 2) ∧ f.blocks.length ≤ q.2 then none else (o4.upd (11, 1) (bx T.api_Func D (RawN.mk (n := 1) [.int .i64 f.params, vb]))) q) = o5 at t5 f5
 clear w5 q5 b4 f4 w4
 rw [hz]; clear hz z
 refine lwp_hide fun z hz => ?_
 obtain ⟨r0, e0, l0⟩ := and16 (x := n)
 obtain ⟨m, hm⟩ : ∃ m, m = 1 + r0 % 5 := ⟨_, rfl⟩
 have em : IntKind.i64.wrap (1 + (r0 : Int).tmod 5) = (m : Int) := by
  rw [show (r0 : Int).tmod 5 = ((r0 % 5 : Nat) : Int) from rfl, wrap64_id (by omega) (by omega), hm]; omega
 have m1 : 1 ≤ m := by omega
 have m5 : m ≤ 5 := by omega
 simp (disch := omega) [e0, em]
 clear hm em e0 l0
 rw [hz]; clear hz z
 refine lwp_hide fun z hz => ?_
 have sB := t5.fnb.rd t5.own
 simp [t5.cells.2.2, sB.len]
 rw [hz]; clear hz z
 refine lwp_hide fun z hz => ?_
 simp
 have hpar := may.params
 have hpi : I64 f.params := ⟨by omega, by omega⟩
 refine lwp_for [1, 5, 6, 7, 8] (fun (_ : Unit) k => [.int .i64 m, .bool true, .pointer (some ⟨D, 0, none⟩), .int .i64 f.blocks.length, .int .i64 k])
  (fun _ k h6 => ∃ W o vb lb, W4.le W ∧ Tw W h6 o D vb lb (addB f m k) ∧ ∀ q : Key, (3 ≤ q.1 ∧ q ≠ (11, 1)) ∨ ((q.1 = 1 ∨ q.1 = 2) ∧ f.blocks.length + k ≤ q.2) → o q = none) m ()
  rfl (by omega) rfl ⟨W4, o5, vb, lb, View.le_refl _, by rw [addB_zero]; exact t5, f5⟩ (fun _ _ => rfl) (fun _ k h6 hk _ => by simp) ?_ ?_
 ·rintro _ k h6 hlt ⟨W6, o6, vb6, lb6, hW6, t6, f6⟩ K2 hK2
  refine lwp_hide fun y hy => ?_
  simp
  refine do_build (z := .agg #[.int .i64 0, .slice none 0 0, .slice none 0 0, .int .i32 0]) (places := [(0, 1), (1, 1), (2, 1), (3, 1)]) (vs := [(0, .int .i64 5), (3, .int .i32 7)]) (cs := #[.int .i64 5, .slice none 0 0, .slice none 0 0, .int .i32 7]) (by kernel_rfl) (by kernel_rfl) (by simp) (by rfl) ?_
  refine do_build (z := .agg #[.slice none 0 0, .slice none 0 0, .int .i64 0, .slice none 0 0, .slice none 0 0, .int .i32 0]) (places := [(0, 1), (1, 1), (2, 4)]) (vs := [(2, .agg #[.int .i64 5, .slice none 0 0, .slice none 0 0, .int .i32 7])]) (cs := #[.slice none 0 0, .slice none 0 0, .int .i64 5, .slice none 0 0, .slice none 0 0, .int .i32 7]) (by kernel_rfl) (by kernel_rfl) (by simp) (by rfl) ?_
  refine t6.own.do_varT (k := (12, 0)) (α := BlkM) (n := 6) (d := ⟨⟨.slice none 0 0⟩, ⟨.slice none 0 0⟩, ⟨5, [], [], ⟨7⟩⟩⟩) (f6 _ (.inl ⟨by decide, by simp⟩)) (rd_blkM (imm := ⟨7⟩) rfl rfl nil_sl nil_sl ⟨by omega, by omega⟩ (by decide)) rfl (z := .agg #[.slice none 0 0, .slice none 0 0, .int .i64 0, .slice none 0 0, .slice none 0 0, .int .i32 0]) (by kernel_rfl) rfl (by kernel_rfl) (by decide) (fun _ => by simp) (fun _ => by simp) fun h7 q7 w7 => ?_
  generalize h6.size = X at w7
  rw [hy]; clear hy y
  refine lwp_hide fun y hy => ?_
  refine lwp_cut (fun ρ h8 => ∃ W tl, W6.le W ∧ Owns W h8 (o6.upd (12, 0) (bx T.api_Block X (BlkM.mk ⟨.slice none 0 0⟩ ⟨.slice none 0 0⟩ (newT f.blocks.length m k)))) ∧ ρ = (1, .int .i64 m) :: (5, .bool true) :: (6, .pointer (some ⟨D, 0, none⟩)) :: (7, .int .i64 f.blocks.length) :: (8, .int .i64 k) :: (9, .pointer (some ⟨X, 0, none⟩)) :: tl) ?_ ?_
  ·intro K3 hK3
   refine lwp_hide fun x hx => ?_
   by_cases hc : k + 1 < m
   ·have hcI : (k : Int) + 1 < m := by omega
    have ht : newT f.blocks.length m k = ⟨1, [], [((f.blocks.length + k + 1 : Nat) : Int)], ⟨0⟩⟩ := if_pos hc
    rw [ht] at hK3
    simp (disch := omega) [hcI]
    rw [hx]; clear hx x
    refine lwp_cond_t (by simp) ?_
    have en : IntKind.i64.wrap (IntKind.i64.wrap ((f.blocks.length : Int) + k) + 1) = ((f.blocks.length + k + 1 : Nat) : Int) := by
     rw [wrap64_id (a := (f.blocks.length : Int) + k) (by omega) (by omega), wrap64_id (by omega) (by omega)]; omega
    simp [en]
    refine do_litN (α := Int) (X := nothing) (ds := [((f.blocks.length + k + 1 : Nat) : Int)]) (vs := [.int .i64 ((f.blocks.length + k + 1 : Nat) : Int)]) rfl El.s_int (by simp) ⟨rd_i (by omega) (by omega), trivial⟩ nothing_le rfl (by omega) fun u h8 hle8 hsz8 hu8 hub8 => ?_
    have w8 := w7.ext hle8
    have hu8 := hu8 (grow W6 h7 h8) nothing_le (grow_new (Nat.le_refl _))
    have hW8 := le_grow (h' := h8) w7.wle
    generalize grow W6 h7 h8 = W8 at w8 hu8 hW8
    refine do_build (z := .agg #[.int .i64 0, .slice none 0 0, .slice none 0 0, .int .i32 0]) (places := [(0, 1), (1, 1), (2, 1), (3, 1)]) (vs := [(0, .int .i64 1), (2, u)]) (cs := #[.int .i64 1, .slice none 0 0, u, .int .i32 0]) (by kernel_rfl) (by kernel_rfl) (by simp) (by simp [Instr.fill, hu8.cells.1]) ?_
    refine w8.do_field (k := (12, 0)) (e := T.api_Block) (B := X) BlkM.p_term (D := BlkM.mk ⟨.slice none 0 0⟩ ⟨.slice none 0 0⟩ ⟨5, [], [], ⟨7⟩⟩) (d := ⟨1, [], [((f.blocks.length + k + 1 : Nat) : Int)], ⟨0⟩⟩) Own.upd_self (by kernel_rfl) rfl rfl (rd_termD (imm := ⟨0⟩) nil_sl hu8 ⟨by omega, by omega⟩ (by decide)) fun h9 w9 _ => ?_
    exact hK3 _ _ ⟨W8, _, hW8, w9.congr fun q => by unfold Own.upd; split <;> rfl, rfl⟩
   ·have hcI : ¬ (k : Int) + 1 < m := by omega
    have ht : newT f.blocks.length m k = ⟨5, [], [], ⟨7⟩⟩ := if_neg hc
    rw [ht] at hK3
    simp (disch := omega) [hcI]
    rw [hx]; clear hx x
    refine lwp_cond_f (by simp) ?_
    simp
    exact hK3 _ _ ⟨W6, _, View.le_refl _, w7, rfl⟩
  ·rintro ρ h8 ⟨W8, tl, hW8, w8, rfl⟩
   obtain ⟨ux, eux, rux⟩ := Owns.ldW w8 (k := (12, 0)) (v := .slice (some ⟨X, 0, none⟩) 1 1) (l := [BlkM.mk ⟨.slice none 0 0⟩ ⟨.slice none 0 0⟩ (newT f.blocks.length m k)]) Own.upd_self rfl (N := 6) rfl (i := 0) (by simp)
   have eux : Un.ev (vw h8) (.loads 6) (.pointer (some ⟨X, 0, none⟩)) = some ux := by simpa [slA] using eux
   have rux : Rd W8 ux (BlkM.mk ⟨.slice none 0 0⟩ ⟨.slice none 0 0⟩ (newT f.blocks.length m k)) := rux
   have hbx := t6.box
   have cD : cellH (vw h8) ⟨D, 1, none⟩ = some vb6 := w8.raw (k := (11, 1)) (e := T.api_Func) (B := D) (l := [.int .i64 (addB f m k).params, vb6]) (n := 1) ((Own.upd_ne (by simp)).trans hbx) (i := 1) (by decide)
   rw [hy]; clear hy y
   simp [cD, eux, look_setE, look_kill]
   have hlb := t6.fnb.len
   rw [addB_len] at hlb
   refine w8.do_push (k := (0, 2)) (α := BlkM) (v := vb6) (l := lb6) (d := BlkM.mk ⟨.slice none 0 0⟩ ⟨.slice none 0 0⟩ (newT f.blocks.length m k)) ((Own.upd_ne (by simp)).trans t6.fnb.blk) El.s_api_Block rfl rux (by omega) (by omega) (fun _ => rfl) (fun _ => rfl) fun u9 v9 h9 w9 _ => ?_
   have hv9 := (w9.cells (k := (0, 2)) Own.upd_self).2
   refine w9.do_cell (k := (11, 1)) (n := 1) (i := 1) (e := T.api_Func) (B := D) (l := [.int .i64 (addB f m k).params, vb6]) ((Own.upd_ne (by simp)).trans ((Own.upd_ne (by simp)).trans hbx)) (by decide) (by kernel_rfl) rfl rfl hv9 fun h10 w10 _ => ?_
   have w11 := Owns.nils w10 (o' := fun q => if q = (12, 0) then none else if q = (1, f.blocks.length + k) then it T.api_Phi (.slice none 0 0) ([] : List PhiD) else if q = (2, f.blocks.length + k) then it T.api_Ins (.slice none 0 0) ([] : List InsD) else if q = (11, 1) then bx T.api_Func D (RawN.mk (n := 1) [.int .i64 f.params, v9]) else if q = (0, 2) then it T.api_Block v9 (lb6 ++ [⟨⟨.slice none 0 0⟩, ⟨.slice none 0 0⟩, newT f.blocks.length m k⟩]) else o6 q) (fun q i hq => by
    split at hq
    ·cases hq
    split at hq
    ·cases hq; exact .inr ⟨rfl, OwnT.nil (α := PhiD) _ h10 T.api_Phi⟩
    split at hq
    ·cases hq; exact .inr ⟨rfl, OwnT.nil (α := InsD) _ h10 T.api_Ins⟩
    split at hq
    ·rename_i e; subst e; exact .inl hq
    split at hq
    ·rename_i e; subst e; exact .inl hq
    ·rename_i g1 g2 g3 g4 g5
     refine .inl ?_
     rw [Own.upd_ne g4, Own.upd_ne g5, Own.upd_ne g1]; exact hq)
   refine hK2 () _ _ (by simp [look_setE, look_kill]) (by simp [keepE, look_setE, look_kill]) ⟨W8, _, v9, lb6 ++ [⟨⟨.slice none 0 0⟩, ⟨.slice none 0 0⟩, newT f.blocks.length m k⟩], View.le_trans hW6 hW8, ⟨w11, ?_, rfl⟩, fun q hq => ?_⟩
   ·rw [addB_succ]
    refine t6.fnb.push (t := newT f.blocks.length m k) rfl (fun i hi => ?_) ?_
    ·rw [addB_len] at hi
     have h1 : ¬ i = f.blocks.length + k := by omega
     constructor <;> simp [h1]
    ·rw [addB_len]; constructor <;> simp
   ·have hq' := f6 q (hq.imp (fun h => h) fun h => ⟨h.1, by omega⟩)
    split
    ·rfl
    split
    ·rename_i e; subst e; exact absurd hq (by simp; try omega)
    split
    ·rename_i e; subst e; exact absurd hq (by simp; try omega)
    split
    ·rename_i e; subst e; simp at hq
    split
    ·rename_i e; subst e; simp at hq
    ·exact hq'
 rintro _ h6 ⟨W6, o6, vb6, lb6, hW6, t6, f6⟩
 clear t5 f5 sB
 have hle : (vw h).le (vw h6) := View.le_trans hle3 (View.le_trans hW4 (View.le_trans hW6 t6.own.wle))
 have mo := addB_mo (f := f) (n := m)
 rw [thenL_normal, hz]; clear hz z
 refine lwp_hide fun z hz => ?_
 simp [t6.cells.1]
 refine call_to (by kernel_rfl) (func_ok (t6.rd hpi) (mo.sm sm (by omega))) ?_
 rintro _ h7 ⟨rfl, hle7⟩
 have hcnt : cntTo (addB f m m) (addB f m m).blocks.length ≤ 4096 := by rw [mo.cnt]; omega
 rw [mo.told may m1 (by rw [addB_len]; omega) hcnt fun c hc => by rw [addB_old hc]]
 have t7 := t6.ext hle7
 simp
 rw [hz]; clear hz z
 refine lwp_hide fun z hz => ?_
 simp
 rw [hz]; clear hz z
 refine lwp_hide fun z hz => ?_
 simp
 refine lwp_for [5, 6, 7, 13] (fun (_ : Unit) k => [.bool true, .pointer (some ⟨D, 0, none⟩), .int .i64 f.blocks.length, .int .i64 k])
  (fun _ k h8 => Tw W6 h8 o6 D vb6 lb6 (addB f m m) ∧ (vw h).le (vw h8)) f.blocks.length ()
  rfl (by omega) rfl ⟨t7, View.le_trans hle hle7⟩ (fun _ _ => rfl) (fun _ k h6 hk _ => by simp) ?_ ?_
 ·rintro _ b h8 hlt ⟨t8, hle8⟩ K2 hK2
  refine lwp_hide fun y hy => ?_
  have sB := t8.fnb.rd t8.own
  have hb2 : b < (addB f m m).blocks.length := by rw [addB_len]; omega
  have aT := (sB.at hb2).part BlkD.p_term
  obtain ⟨vt, ct, st⟩ := (aT.part TermD.p_to).list
  rw [← nth_eq hb2, addB_old hlt] at st
  have ct : cellH (vw h8) ((((slA vb6).add (b * 6)).add 2).add 2) = some vt := ct
  have hb := sB.bound
  have hl8 := addB_len (f := f) (n := m) (k := m)
  simp (disch := omega) [t8.cells.2.2, sB.idxn (N := 6) rfl, ct, st.len]
  rw [hy]; clear hy y
  by_cases h0 : (nth f.blocks b).term.to = []
  ·refine lwp_cond_t (by simp [h0]) ?_
   refine lwp_hide fun y hy => ?_
   simp (disch := omega) [h0, t8.cells.2.2]
   refine do_litN (α := Int) (X := nothing) (ds := [((f.blocks.length : Nat) : Int)]) (vs := [.int .i64 ((f.blocks.length : Nat) : Int)]) rfl El.s_int (by simp) ⟨rd_i (by omega) (by omega), trivial⟩ nothing_le rfl (by omega) fun u h9 hle9 hsz9 hu9 hub9 => ?_
   have w9 := t8.own.ext hle9
   have hu9 := hu9 (grow W6 h8 h9) nothing_le (grow_new (Nat.le_refl _))
   have hW9 := le_grow (h' := h9) t8.own.wle
   generalize grow W6 h8 h9 = W9 at w9 hu9 hW9
   refine do_build (z := .agg #[.int .i64 0, .slice none 0 0, .slice none 0 0, .int .i32 0]) (places := [(0, 1), (1, 1), (2, 1), (3, 1)]) (vs := [(0, .int .i64 1), (2, u)]) (cs := #[.int .i64 1, .slice none 0 0, u, .int .i32 0]) (by kernel_rfl) (by kernel_rfl) (by simp) (by simp [Instr.fill, hu9.cells.1]) ?_
   simp (disch := omega) [sB.idxn (N := 6) rfl]
   refine w9.do_part (k := (0, 2)) (α := BlkM) BlkM.p_term (v := vb6) (l := lb6) (i := b) (d := ⟨1, [], [((f.blocks.length : Nat) : Int)], ⟨0⟩⟩) t8.fnb.blk (by kernel_rfl) rfl rfl (by rw [t8.fnb.len]; exact hb2) (rd_termD (imm := ⟨0⟩) nil_sl hu9 ⟨by omega, by omega⟩ (by decide)) fun h10 w10 _ => ?_
   obtain ⟨mo2, hlk⟩ := setT_mo (n := m) hlt h0
   have t10 : Tw W9 h10 _ D vb6 _ (setT (addB f m m) b ⟨1, [], [(f.blocks.length : Int)], ⟨0⟩⟩) := ⟨w10, t8.fnb.setT hb2 fun q => by rw [nth_eq (l := lb6) (i := b) (by rw [t8.fnb.len]; exact hb2)], (Own.upd_ne (by simp)).trans t8.box⟩
   rw [hy]; clear hy y
   simp [t10.cells.1]
   refine call_to (by kernel_rfl) (right_ok (t10.rd hpi) (mo2.sm sm (by omega))) ?_
   rintro _ h11 ⟨rfl, hle11⟩
   have hcnt2 : cntTo (setT (addB f m m) b ⟨1, [], [(f.blocks.length : Int)], ⟨0⟩⟩) (setT (addB f m m) b ⟨1, [], [(f.blocks.length : Int)], ⟨0⟩⟩).blocks.length ≤ 4096 := by rw [mo2.cnt]; omega
   rw [may_of (mo2.may may m1 (by rw [mo2.len]; omega) hcnt2 hlt hlk)]
   simp
   exact hK _ _ ⟨rfl, View.le_trans hle3 (View.le_trans hW4 (View.le_trans hW6 (View.le_trans hW9 (t10.ext hle11).own.wle)))⟩
  ·refine lwp_cond_f (by simp [h0]) ?_
   simp [h0]
   exact hK2 () _ _ rfl rfl ⟨t8, hle8⟩
 rintro _ h8 ⟨t8, hle8⟩
 rw [thenL_normal, hz]; clear hz z
 simp
 exact hK _ _ ⟨rfl, hle8⟩
end Go.Proofs.Ytfelpjfopgiabaa
/- For every input CheckReach returns true: a block that no term names is told, and with an edge to it the function may be again. No condition. -/
namespace Go.Proofs.Ytfelpjfopgiabaa
open Go Go.Lft Go.ChangeShapes Go.WideShapes Go.ChangeAt Go.RowKit
theorem Try.paramsReach : Try.f10.params = #[T.s_int, T.int] := by kernel_rfl
theorem reach_lifted (os : Os) (started : os.Started) (H : Type) (enc : TypeId × Value → H) :
  ReturnsInHanded {} Try.checked os 10 .any (Rows.checkReachSpec.pre6 enc Try.prog Try.f10 Rows.checkReachRow.domain false) (Rows.checkReachSpec.post enc Try.prog Try.f10 false true false false) :=
 law2 (C := Try.checked) Try.own started (by kernel_rfl) Try.func10 rfl
  (ChangeSpec.witness6 (enc := enc) (C := Try.checked) false ⟨#[], #[.slice none 0 0, .int .i64 0], []⟩ 8 (by kernel_rfl) (by kernel_rfl) (by kernel_rfl) (by kernel_rfl))
  Try.laidOut (fun t ht => by
   rw [Try.paramsReach] at ht
   simp only [List.mem_cons, List.not_mem_nil, or_false] at ht
   rcases ht with rfl | rfl <;> exact ⟨by kernel_rfl, of_decide_eq_true (by kernel_rfl)⟩) rfl
  (fun ds hds => by
   match ds, hds with
   | [d, e], _ => rfl) rfl (tb := 4) (by kernel_rfl) Try.paramsReach rtIs rtI fun h v1 x1 v2 x2 h1 h2 => by
    rw [(rd_int.1 h2).1]
    exact checkReach_ok (rd_list.1 h1)
theorem reach_holds : Rows.CheckReachSaid :=
 OpenClaim.holds_of_wide 10 Try.f10 rfl rfl rfl rfl rfl rfl rfl ⟨rfl, rfl, rfl, rfl, rfl⟩ rfl rfl rfl rfl rfl (by kernel_rfl) Try.func10 (by kernel_rfl)
  (of_decide_eq_true (by kernel_rfl)) (by unfold Func.isWrapper; first | (rw [if_pos (by decide +kernel)]; kernel_rfl) | (rw [if_neg (by decide +kernel)]; exact ⟨rfl, rfl⟩))
  (fun os started H enc _ => reach_lifted os started H enc)
end Go.Proofs.Ytfelpjfopgiabaa
