/- A part of the proof: Mv, Mw, Mx, My, Mz, Na, Nb, Nc, Nd, Ne, Sf, Sh, Ri, Rj, Tf, Si. -/
import Derived.Test.YtfelpjfopgiabaaZVa5
set_option linter.unusedSimpArgs false
set_option linter.unusedVariables false
namespace Go.Proofs.Ytfelpjfopgiabaa
open Go Go.Lft
structure GdB (x : BlkD) : Prop where
 ins : ∀ i ∈ x.ins, i.args.length ≤ 10
 args : x.term.args.length ≤ 10
 to : x.term.to.length ≤ 1000
 phis : ∀ p ∈ x.phis, p.ins.length ≤ 1000
def Gd (m : MS) : Prop := ∀ j, j < m.blocks.length → GdB (nth m.blocks j)
variable {s : List Int} {m : MS} {b : Nat}
theorem Gd.took (g : Gd m) : Gd m.took := g
theorem Gd.freshed (g : Gd m) : Gd m.freshed := g
theorem Gd.setBlk (g : Gd m) {x : BlkD} (hx : b < m.blocks.length → GdB x) : Gd { m with blocks := m.blocks.set b x } := fun j hj => by
 have hj : j < m.blocks.length := by simpa using hj
 show GdB (nth (m.blocks.set b x) j)
 rw [nth_set hj]
 split
 ·rename_i e; exact hx (by omega)
 ·exact g j hj
theorem Gd.add (g : Gd m) {i : InsD} (hi : i.args.length ≤ 10) : Gd (m.add b i) := by
 have := g.setBlk (b := b) (x := { nth m.blocks b with ins := (nth m.blocks b).ins ++ [i] }) fun hb => ⟨fun j hj => by
  rcases List.mem_append.1 hj with h | h
  ·exact (g b hb).ins j h
  ·rw [List.mem_singleton] at h; rw [h]; exact hi, (g b hb).args, (g b hb).to, (g b hb).phis⟩
 exact this
theorem Gd.constant (g : Gd m) {n : Int} : Gd (m.constant b n) := g.freshed.add (by show 0 ≤ 10; omega)
theorem Gd.two (g : Gd m) {op x y : Int} : Gd (m.two b op x y) := g.freshed.add (by show 2 ≤ 10; omega)
theorem Gd.someS (g : Gd m) : Gd (someS s m b).2 := by
 unfold Go.Proofs.Ytfelpjfopgiabaa.someS
 repeat' split
 ·exact g.took.took.constant
 ·exact g.took.took.took.took.took.constant
 ·exact g.took.took.took
theorem Gd.addr (g : Gd m) : Gd (addrS s m b).2 := by
 unfold addrS
 simp only
 split
 ·exact g.took.constant.took.someS.constant.two.two
 ·exact g.took.constant.took
theorem Gd.off (g : Gd m) : Gd (offS s m).2 := by
 unfold offS
 split
 ·exact g.took.took.took.took
 ·exact g.took.took
theorem Gd.memory (g : Gd m) {st : Bool} : Gd (memoryS s m b st) := by
 unfold memoryS
 simp only
 split
 ·exact g.addr.off.someS.add (by show 2 ≤ 10; omega)
 ·exact g.addr.off.freshed.add (by show 1 ≤ 10; omega)
theorem Gd.bin (g : Gd m) {op : Int} : Gd (binS s m b op) := by
 unfold binS
 simp only
 split
 ·exact g.someS.someS.took.took.constant.two
 ·exact g.someS.someS.took.two
theorem Gd.div (g : Gd m) : Gd (divS s m b) := by
 unfold divS
 simp only
 split
 ·exact g.someS.took.constant.took.took.constant.two
 ·exact g.someS.took.constant.took.two
theorem Gd.args {x : List Int × MS} (g : Gd x.2) : ∀ n, Gd (up (argsS s b) n x).2 ∧ (up (argsS s b) n x).1.length = x.1.length + n
 | 0 => ⟨g, rfl⟩
 | n + 1 => ⟨(Gd.args g n).1.someS, by show ((up (argsS s b) n x).1 ++ [_]).length = _; rw [List.length_append, (Gd.args g n).2, List.length_singleton]; omega⟩
theorem Gd.call (g : Gd m) : Gd (callS s m b) := by
 unfold callS
 simp only
 have ht := takeV_rng (s := s) (at_ := m.at_) (n := 5) (by decide)
 obtain ⟨g2, l2⟩ := Gd.args (s := s) (b := b) (x := ([], m.took)) g.took (takeV s m.at_ 5).toNat
 refine g2.freshed.took.add ?_
 show (up (argsS s b) (takeV s m.at_ 5).toNat ([], m.took)).1.length ≤ 10
 rw [l2]; simp; omega
theorem Gd.instruction (g : Gd m) : Gd (instructionS s b m) := by
 unfold instructionS
 simp only
 repeat' split
 ·exact g.took.bin
 ·unfold ltuS
  exact g.took.someS.someS.two
 ·exact g.took.div
 ·exact g.took.memory
 ·exact g.took.call
 ·unfold mulwS
  exact g.took.someS.someS.freshed.freshed.add (by show 2 ≤ 10; omega)
 ·exact g.took.took.took.constant
theorem Gd.instructions (g : Gd m) : ∀ n, Gd (up (fun _ => instructionS s b) n m)
 | 0 => g
 | n + 1 => (Gd.instructions g n).instruction
theorem Gd.mkEnd (g : Gd m) {to : List Int} (ht : to.length ≤ 1000) : Gd (mkEndS s to b m) := by
 have h : Gd (mkTermS s to b m).2 ∧ (mkTermS s to b m).1.args.length ≤ 10 ∧ (mkTermS s to b m).1.to.length ≤ 1000 := by
  unfold mkTermS
  simp only
  repeat' split
  ·exact ⟨g.took.took, by show 0 ≤ 10; omega, by show 0 ≤ 1000; omega⟩
  ·exact ⟨g.took.someS, by show 1 ≤ 10; omega, by show 0 ≤ 1000; omega⟩
  ·exact ⟨g.took, by show 0 ≤ 10; omega, by show 0 ≤ 1000; omega⟩
  ·exact ⟨g, by show 0 ≤ 10; omega, ht⟩
  ·exact ⟨g.someS.took.someS.freshed.took.add (by show 2 ≤ 10; omega), by show 1 ≤ 10; omega, ht⟩
  ·exact ⟨g.someS.took, by show 1 ≤ 10; omega, ht⟩
  ·exact ⟨g.someS.constant.two, by show 1 ≤ 10; omega, ht⟩
 obtain ⟨h1, h2, h3⟩ := h
 exact h1.setBlk fun hb => ⟨(h1 b hb).ins, h2, h3, (h1 b hb).phis⟩
theorem Gd.setTo (g : Gd m) {l : List Int} (hl : l.length ≤ 1000) : Gd (m.setTo b l) := g.setBlk fun hb => ⟨(g b hb).ins, (g b hb).args, hl, (g b hb).phis⟩
theorem Gd.addPhi (g : Gd m) : Gd (Go.Proofs.Ytfelpjfopgiabaa.addPhi b m) := by
 have := g.freshed.setBlk (b := b) (x := { nth m.blocks b with phis := (nth m.blocks b).phis ++ [⟨m.next, []⟩] }) fun hb => ⟨(g b hb).ins, (g b hb).args, (g b hb).to, fun p hp => by
  rcases List.mem_append.1 hp with h | h
  ·exact (g b hb).phis p h
  ·rw [List.mem_singleton] at h; rw [h]; show 0 ≤ 1000; omega⟩
 exact this
theorem Gd.addPhis (g : Gd m) : ∀ n, Gd (up (fun _ => Go.Proofs.Ytfelpjfopgiabaa.addPhi b) n m)
 | 0 => g
 | n + 1 => (Gd.addPhis g n).addPhi
theorem Gd.setIn (g : Gd m) {i : Nat} {l : List InD} (hl : l.length ≤ 1000) : Gd (m.setIn b i l) := g.setBlk fun hb => ⟨(g b hb).ins, (g b hb).args, (g b hb).to, fun p hp => by
 rcases List.mem_or_eq_of_mem_set hp with h | h
 ·exact (g b hb).phis p h
 ·rw [h]; exact hl⟩
theorem Gd.smF {n a p i : Nat} (g : Gd m) (z : Sz n a p i m) (hn : n ≤ 10000) (hp : p ≤ 10000) (hi : i ≤ 10000) : SmF m.f := by
 refine ⟨by show m.blocks.length ≤ _; rw [z.len]; exact hn, fun j hj => ?_⟩
 have hj : j < m.blocks.length := hj
 have h := g j hj
 have e : nth m.f.blocks j = nth m.blocks j := rfl
 rw [e]
 exact ⟨Nat.le_trans (z.phis j) hp, Nat.le_trans (z.ins j) hi, by have := h.args; omega, by have := h.to; omega, fun k hk => by have := h.phis _ (nth_mem hk); omega, fun k hk => by have := h.ins _ (nth_mem hk); omega⟩
theorem thTo_mks {f : FuncD} : ∀ n, ∀ t ∈ thTo f n, t.mks.length ≤ 1000
 | 0, t, h => by cases h
 | n + 1, t, h => by
  rw [thTo_succ] at h
  rcases List.mem_append.1 h with h | h
  ·exact thTo_mks n t h
  ·unfold thB at h
   simp only [List.mem_append, List.mem_singleton, rows, List.mem_map, List.mem_range] at h
   rcases h with (⟨i, _, rfl⟩ | ⟨i, _, rfl⟩) | rfl
   ·show 1 ≤ 1000; omega
   ·show (makesS _).length ≤ 1000
    unfold makesS
    repeat' split
    all_goals simp
   ·show 0 ≤ 1000; omega
theorem mkTh_len {n a p i : Nat} (z : Sz n a p i m) : ∀ k, (thTo m.f k).length ≤ (p + i + 1) * k
 | 0 => Nat.le_refl _
 | k + 1 => by
  have h1 := mkTh_len z k
  have h2 := z.phis k
  have h3 := z.ins k
  have e : nth m.f.blocks k = nth m.blocks k := rfl
  rw [thTo_succ, List.length_append, Nat.mul_succ]
  unfold thB
  simp only [List.length_append, rows_len, List.length_singleton, e]
  omega
theorem mkThings_len {n a p i : Nat} (z : Sz n a p i m) (hn : n ≤ 10) (hp : p ≤ 1000) (hi : i ≤ 3000) : (thingsS m.f).length ≤ 60000 := by
 have h1 := mkTh_len z n
 have h2 : (p + i + 1) * n ≤ 5000 * 10 := Nat.mul_le_mul (by omega) hn
 have e : thingsS m.f = thTo m.f n := by
  unfold thingsS
  rw [show m.f.blocks.length = n from z.len]
 rw [e]; omega
theorem mkStanding_len {n a p i : Nat} (z : Sz n a p i m) (hn : n ≤ 10) (hp : p ≤ 1000) (hi : i ≤ 3000) : (standingS m.f b).length ≤ 70000000 := by
 have h := foldl_len (l := thingsS m.f) (f := m.f) (b := b) (c := 1000) (thTo_mks _) (out := rows (fun i => (i : Int)) m.f.params.toNat)
 have h2 := mkThings_len z hn hp hi
 have h3 : m.f.params.toNat ≤ 4 := by have := z.ps1; show m.ps.toNat ≤ 4; omega
 rw [rows_len] at h
 have e : standingS m.f b = (thingsS m.f).foldl (standStep m.f b) (rows (fun i => (i : Int)) m.f.params.toNat) := rfl
 rw [e]; omega
end Go.Proofs.Ytfelpjfopgiabaa
namespace Go.Proofs.Ytfelpjfopgiabaa
open Go Go.Lft
structure P3 (n a p i : Nat) (m : MS) : Prop where
 z : Sz n a p i m
 g : Gd m
theorem P3.mono {n a p i a' p' i' : Nat} {m : MS} (q : P3 n a p i m) (h1 : a ≤ a') (h2 : p ≤ p') (h3 : i ≤ i') : P3 n a' p' i' m := ⟨q.z.mono h1 h2 h3, q.g⟩
theorem Sz.const {n a p i b : Nat} {m : MS} {k : Int} (z : Sz n a p i m) : Sz n (a + 3) p (i + 1) (m.constant b k) := by
 have h1 : Sz n (a + 3) p (i + 1) { m.freshed with live := m.live ++ makesS (conD m.next k) } := ⟨by have := z.at_; show m.at_ ≤ _; omega, by have := z.n0; show 0 ≤ m.next + 1; omega, by have := z.next; show m.next + 1 ≤ _; omega, by
  have := z.live
  show (m.live ++ [m.next]).length ≤ _
  rw [List.length_append, List.length_singleton]; omega, z.ps0, z.ps1, z.len, z.phis, fun j => by have := z.ins j; show (nth m.blocks j).ins.length ≤ _; omega⟩
 exact h1.setBlk (b := b) (x := { nth m.blocks b with ins := (nth m.blocks b).ins ++ [conD m.next k] }) (z.phis b) (by have := z.ins b; show ((nth m.blocks b).ins ++ [_]).length ≤ _; rw [List.length_append, List.length_singleton]; omega)
theorem Sz.setIn {n a p i b j : Nat} {m : MS} {l : List InD} (z : Sz n a p i m) : Sz n a p i (m.setIn b j l) :=
 z.setBlk (by show ((nth m.blocks b).phis.set j _).length ≤ _; rw [List.length_set]; exact z.phis b) (z.ins b)
def rowS (s : List Int) (b : Nat) (m : MS) : List Int × MS := if (standingS m.f b).length = 0 then ([m.next], m.took.took.constant b (wordV s m)) else (standingS m.f b, m)
theorem rowS_pos {s : List Int} {b : Nat} {m : MS} : 0 < (rowS s b m).1.length := by
 unfold rowS
 split
 ·show 0 < 1; omega
 ·show 0 < (standingS m.f b).length; omega
theorem rowS_len {s : List Int} {n a p i b : Nat} {m : MS} (z : Sz n a p i m) (hn : n ≤ 10) (hp : p ≤ 1000) (hi : i ≤ 3000) : (rowS s b m).1.length ≤ 70000000 := by
 unfold rowS
 split
 ·show 1 ≤ 70000000; omega
 ·exact mkStanding_len z hn hp hi
theorem rowS_ok {s : List Int} {n a p i b : Nat} {m : MS} (q : P3 n a p i m) : P3 n (a + 5) p (i + 1) (rowS s b m).2 := by
 unfold rowS
 split
 ·exact ⟨(q.z.took.took.const).mono (by omega) (Nat.le_refl _) (Nat.le_refl _), q.g.took.took.constant⟩
 ·exact q.mono (by omega) (Nat.le_refl _) (by omega)
theorem inStep_eq {s : List Int} {p : List Int} {k b : Nat} {x : List InD × MS} (h : nth p k = b) : inStep s p k x = (x.1 ++ [⟨b, nth (rowS s b x.2).1 (takeV s (rowS s b x.2).2.at_ (rowS s b x.2).1.length).toNat⟩], (rowS s b x.2).2.took) := by
 unfold inStep
 rw [h]
 rfl
theorem up_inStep {s : List Int} {n a p i : Nat} {pl : List Int} {x : List InD × MS} (q : P3 n a p i x.2) : ∀ k, P3 n (a + 6 * k) p (i + k) (up (inStep s pl) k x).2 ∧ (up (inStep s pl) k x).1.length = x.1.length + k
 | 0 => ⟨q, rfl⟩
 | k + 1 => by
  obtain ⟨h1, h2⟩ := up_inStep (pl := pl) q k
  have h3 := rowS_ok (s := s) (b := (nth pl k).toNat) h1
  refine ⟨?_, ?_⟩
  ·have e : (up (inStep s pl) (k + 1) x).2 = (rowS s (nth pl k).toNat (up (inStep s pl) k x).2).2.took := rfl
   rw [e]
   exact ⟨(h3.z.took).mono (by omega) (Nat.le_refl _) (by omega), h3.g.took⟩
  ·have e : (up (inStep s pl) (k + 1) x).1 = (up (inStep s pl) k x).1 ++ [⟨nth pl k, nth (rowS s (nth pl k).toNat (up (inStep s pl) k x).2).1 (takeV s (rowS s (nth pl k).toNat (up (inStep s pl) k x).2).2.at_ (rowS s (nth pl k).toNat (up (inStep s pl) k x).2).1.length).toNat⟩] := rfl
   rw [e, List.length_append, h2, List.length_singleton]; omega
theorem phi3_ok {s : List Int} {n a p i b j : Nat} {pl : List Int} {m : MS} (q : P3 n a p i m) (hp : pl.length ≤ 9) : P3 n (a + 54) p (i + 9) (phi3 s b pl j m) := by
 obtain ⟨h1, h2⟩ := up_inStep (s := s) (pl := pl) (x := ([], m)) q pl.length
 exact ⟨(h1.z.setIn).mono (by omega) (Nat.le_refl _) (by omega), h1.g.setIn (by rw [h2]; show 0 + _ ≤ _; omega)⟩
theorem up_phi3 {s : List Int} {n a p i b : Nat} {pl : List Int} {m : MS} (q : P3 n a p i m) (hp : pl.length ≤ 9) : ∀ k, P3 n (a + 54 * k) p (i + 9 * k) (up (phi3 s b pl) k m)
 | 0 => q
 | k + 1 => (phi3_ok (up_phi3 q hp k) hp).mono (by omega) (Nat.le_refl _) (by omega)
end Go.Proofs.Ytfelpjfopgiabaa
namespace Go.Proofs.Ytfelpjfopgiabaa
open Go Go.Lft
theorem rd_inD {H : View} {a b : Int} (ha : I64 a) (hb : I64 b) : Rd H (.agg #[.int .i64 a, .int .i64 b]) (InD.mk a b) := ⟨_, rfl, [.int .i64 a], [.int .i64 b], rfl, ⟨rfl, ha⟩, rfl, hb⟩
section
variable {s : List Int} {M : Nat} {vs : Value} {W0 : View} {h : Heap} {o0 : Own} {m : MS}
theorem Nx.addInts (x : Nx s M vs W0 h o0 m) {h' : Heap} {k : Key} {u : Value} {l : List Int} (h3 : 3 ≤ k.1) (hk : o0 k = none) (hle : (vw h).le (vw h')) (hb : ∀ b, u.ownBlock = some b → h.size ≤ b) (ho : OwnT nothing h' T.int u l) : Nx s M vs W0 h' (o0.upd k (it T.int u l)) m := by
 obtain ⟨W, o, g, w, f⟩ := x
 have w2 := w.own.add (k := k) ((f k h3).trans hk) (own_ints (W' := W) ho) hle hb
 obtain ⟨vb, vl, lb, bb⟩ := w.box
 refine ⟨W, _, g, ⟨w2, w.src, vb, vl, lb, bb.frame fun q hq => Own.upd_ne (by rintro rfl; omega)⟩, fun q hq => ?_⟩
 unfold Own.upd
 split
 ·rfl
 ·exact f q hq
theorem Nx.freeze {α : Type} [r : Rep α] {k : Key} {e : TypeId} {v : Value} {l : List α} (x : Nx s M vs W0 h (o0.upd k (it e v l)) m) (h3 : 3 ≤ k.1) (hk : o0 k = none) : ∃ W', W0.le W' ∧ Nx s M vs W' h o0 m ∧ SlRd W' v l := by
 obtain ⟨W, o, g, w, f⟩ := x
 have hk2 := (f k h3).trans Own.upd_self
 obtain ⟨w2, sl⟩ := w.own.freeze hk2
 have hWp := le_plus (h := h) (w.own.av _ _ hk2)
 obtain ⟨vb, vl, lb, bb⟩ := w.box
 refine ⟨_, View.le_trans g hWp, ⟨_, _, View.le_refl _, ⟨w2, w.src.mono hWp, vb, vl, lb, bb.frame fun q hq => Own.upd_ne (by rintro rfl; omega)⟩, fun q hq => ?_⟩, sl⟩
 by_cases e2 : q = k
 ·rw [e2, Own.upd_self, hk]
 ·rw [Own.upd_ne e2, f q hq, Own.upd_ne e2]
theorem Nx.do_push {po po2 : OP} {α : Type} [r : Rep α] {k : Key} {e t ty ty2 : TypeId} {bytes : Nat} {z : Value} {v : Value} {l : List α} (x : Nx s M vs W0 h o0 m) (h3 : 3 ≤ k.1) (hk : o0 k = it e v l) {a y y2 : Operand} {us : List (Nat × Value)} {us2 : Value → List (Nat × Value)} {u : Value} {d : α} {K : Value → Value → Heap → Prop} (hT : ElemT Try.prog t e (Rep.n α) bytes z) (hx : asg us a = u) (hr : ∀ W, Rd W u d)
  (hb : (l.length + 1) * bytes ≤ 140737488355328) (hb2 : l.length + 1 ≤ 140737488355328) (hy : ∀ u, asg (us2 u) y = v) (hy2 : ∀ u, asg (us2 u) y2 = u)
  (hK : ∀ u v' h', Nx s M vs W0 h' (o0.upd k (it e v' (l ++ [d]))) m → K u v' h') :
  @Lft.step po Try.prog (.buildSlice t 1 #[(0, a)]) ty us h fun u h2 => @Lft.step po2 Try.prog (.call ⟨.builtin .append, #[y, y2], #[t, t]⟩) ty2 (us2 u) h2 fun v' h3 => K u v' h3 := by
 obtain ⟨W, o, g, w, f⟩ := x
 refine w.own.do_push (k := k) (d := d) ((f k h3).trans hk) hT hx (hr W) hb hb2 hy hy2 fun u v' h' w2 _ => hK u v' h' ?_
 obtain ⟨vb, vl, lb, bb⟩ := w.box
 refine ⟨W, _, g, ⟨w2, w.src, vb, vl, lb, bb.frame fun q hq => Own.upd_ne (by rintro rfl; omega)⟩, fun q hq => ?_⟩
 unfold Own.upd
 split
 ·rfl
 ·exact f q hq
theorem made_l15 {n a p i b j : Nat} {vr vt vp vd vq vi : Value} {pl : List Int} (x : Nx s M vs W0 h (o0.upd (7, 2) (it T.api_In vi ([] : List InD))) m) (f71 : o0 (7, 1) = none) (q : P3 n a p i m) (hn : n ≤ 10) (ha : a ≤ 500000) (hia : i ≤ a) (hp : p ≤ 100) (hi : i ≤ 2000) (hq : SlRd W0 vq pl) (hpl : pl.length ≤ 9) (hpr : ∀ k, k < pl.length → ∃ c : Nat, nth pl k = c ∧ c < n) {Q : Post} {ρ : Env}
  (h0 : keepE [2, 3, 4, 5, 7, 11, 25, 26, 27, 28, 29] ρ = [(2, vr), (3, .pointer (some ⟨M, 0, none⟩)), (4, .int .i64 n), (5, vt), (7, vp), (11, vd), (25, .int .i64 b), (26, vq), (27, .int .i64 j), (28, vi), (29, .int .i64 0)])
  (hQ : ∀ (h' : Heap) vi, Nx s M vs W0 h' (o0.upd (7, 2) (it T.api_In vi (up (inStep s pl) pl.length ([], m)).1)) (up (inStep s pl) pl.length ([], m)).2 → Q .normal [(2, vr), (3, .pointer (some ⟨M, 0, none⟩)), (4, .int .i64 n), (5, vt), (7, vp), (11, vd), (25, .int .i64 b), (26, vq), (27, .int .i64 j), (28, vi), (29, .int .i64 pl.length)] h') :
  LC.wp Try.prog (.block 28 (.loop L.ref03_Made.l15)) Q ρ h := by
 simp only [lwp_block]
 refine lwp_for [2, 3, 4, 5, 7, 11, 25, 26, 27, 28, 29] (fun (vi : Value) k => [vr, .pointer (some ⟨M, 0, none⟩), .int .i64 n, vt, vp, vd, .int .i64 b, vq, .int .i64 j, vi, .int .i64 k]) (fun vi k h2 => Nx s M vs W0 h2 (o0.upd (7, 2) (it T.api_In vi (up (inStep s pl) k ([], m)).1)) (up (inStep s pl) k ([], m)).2) pl.length vi
  rfl (by omega) h0 x (fun _ _ => rfl) (fun v k h2 hk2 x2 => by simp [hq.len]) ?_ ?_
 ·rintro vi k h2 hlt x2 K2 hK2
  obtain ⟨q2, hl2⟩ := up_inStep (s := s) (pl := pl) (x := ([], m)) q k
  obtain ⟨c, hc, hcn⟩ := hpr k hlt
  have e2 : up (inStep s pl) (k + 1) ([], m) = inStep s pl k (up (inStep s pl) k ([], m)) := rfl
  rw [e2, inStep_eq hc] at hK2
  have hl2 : (up (inStep s pl) k ([], m)).1.length ≤ 9 := by rw [hl2]; simp; omega
  generalize up (inStep s pl) k ([], m) = y at x2 hK2 q2 hl2
  obtain ⟨il, m2⟩ := y
  have q2 : P3 n (a + 54) p (i + 9) m2 := P3.mono q2 (by omega) (Nat.le_refl _) (by omega)
  have hl2 : il.length ≤ 9 := hl2
  have x2 : Nx s M vs W0 h2 (o0.upd (7, 2) (it T.api_In vi il)) m2 := x2
  simp only at hK2
  have hcell : ∀ {h' : Heap}, W0.le (vw h') → cellH (vw h') ((slA vq).add k) = some (.int .i64 c) := fun g => by rw [hq.int g hlt, hc]
  have hcell0 : cellH W0 ((slA vq).add k) = some (.int .i64 c) := by rw [hq.int (View.le_refl _) hlt, hc]
  have hrow : rowS s c m2 = _ := rowS.eq_1 s c m2
  have hq3 := rowS_ok (s := s) (b := c) q2
  have hpos := rowS_pos (s := s) (b := c) (m := m2)
  have hrl0 := rowS_len (s := s) (b := c) q2.z hn (by omega) (by omega)
  simp only [lwp_block]
  refine lwp_hide fun y hy => ?_
  obtain ⟨vb, vl, rd⟩ := x2.z.reads
  refine drawn_at (vw h2) (View.le_refl _) ?_
  simp (disch := omega) [rd.f, (hq.mono x2.z.le).idx1 rfl, hcell x2.z.le]
  have hth : (thingsS m2.f).length ≤ 60000 := mkThings_len q2.z hn (by omega) (by omega)
  refine call_to (by kernel_rfl) (standing_ok (b := c) (rd.rd (i64ps q2.z)) (q2.g.smF q2.z (by omega) (by omega) (by omega)) ⟨q2.z.ps0, by have := q2.z.ps1; show m2.ps ≤ _; omega⟩ (by show c < m2.blocks.length; rw [q2.z.len]; exact hcn) (thTo_mks _) (by omega)) ?_
  rintro u3 h3 ⟨hle3, hb3, ho3⟩
  have x3 := x2.addInts (k := (7, 1)) (by decide) ((Own.upd_ne (by simp)).trans f71) hle3 hb3 ho3
  clear rd x2 ho3 hb3
  generalize standingS m2.f c = sl at x3 hrow
  rw [hy]; clear hy y
  refine lwp_hide fun y hy => ?_
  have fin : ∀ (v30 : Value) (h' : Heap) (ρ : Env), Nx s M vs W0 h' ((o0.upd (7, 2) (it T.api_In vi il)).upd (7, 1) (it T.int v30 (rowS s c m2).1)) (rowS s c m2).2 → Lft.look ρ 2 = some vr → Lft.look ρ 3 = some (.pointer (some ⟨M, 0, none⟩)) → Lft.look ρ 4 = some (.int .i64 n) → Lft.look ρ 5 = some vt → Lft.look ρ 7 = some vp → Lft.look ρ 11 = some vd → Lft.look ρ 25 = some (.int .i64 b) → Lft.look ρ 26 = some vq → Lft.look ρ 27 = some (.int .i64 j) → Lft.look ρ 28 = some vi → Lft.look ρ 29 = some (.int .i64 k) → Lft.look ρ 30 = some v30 →
    LC.wp Try.prog y (inBlk 29 (thenL K2 (inBlk 28 Q))) ρ h' := by
   intro v30 h' ρ x4 r2 r3 r4 r5 r7 r11 r25 r26 r27 r28 r29 r30
   rw [hy]; clear hy y
   generalize rowS s c m2 = r at x4 hK2 hq3 hpos hrl0
   obtain ⟨W4, hW4, x4, s4⟩ := x4.freeze (by decide) ((Own.upd_ne (by simp)).trans f71)
   have hrl := s4.bound
   refine drawn_at W4 x4.z.le ?_
   simp (disch := omega) [look_setE, look_kill, r2, r3, r4, r5, r7, r11, r25, r26, r27, r28, r29, r30, (hq.mono hW4).idx1 rfl, cellH_mono hW4 hcell0, s4.len]
   refine call_to (by kernel_rfl) (nz_take x4.z (hq3.z.ok (by omega)) (by omega) (k := (r.1.length : Int)) (by omega) (by omega)) ?_
   rintro _ h5 ⟨rfl, n5⟩
   refine ⟨n5.le, ?_⟩
   obtain ⟨t0, t1⟩ := takeV_rng (s := s) (at_ := r.2.at_) (n := (r.1.length : Int)) (by omega)
   generalize takeV s r.2.at_ (r.1.length : Int) = tv at t0 t1 hK2
   have hrng := s4.range (i := tv.toNat) (by omega)
   simp (disch := omega) [look_setE, look_kill, r2, r3, r4, r5, r7, r11, r25, r26, r27, r28, r29, r30, s4.idx1 rfl, s4.int (View.le_refl _)]
   refine do_build (z := .agg #[.int .i64 0, .int .i64 0]) (places := [(0, 1), (1, 1)]) (vs := [(0, .int .i64 c), (1, .int .i64 (nth r.1 tv.toNat))]) (cs := #[.int .i64 c, .int .i64 (nth r.1 tv.toNat)]) (by kernel_rfl) (by kernel_rfl) (by simp) (by rfl) ?_
   refine n5.x.do_push (k := (7, 2)) (α := InD) (d := ⟨c, nth r.1 tv.toNat⟩) (by decide) Own.upd_self El.s_api_In rfl (fun W => rd_inD ⟨by omega, by omega⟩ hrng) (by omega) (by omega) (fun _ => rfl) (fun _ => rfl) fun u v' h6 x6 => ?_
   refine hK2 v' _ _ ?_ ?_ ((x6.re fun q => by rw [upd_upd]).up hW4)
   ·simp [look_setE, look_kill, r29]
   ·simp [keepE, look_setE, look_kill, r2, r3, r4, r5, r7, r11, r25, r26, r27, r28, r29]
  have hsl := (x3.z.at (k := (7, 1)) (by decide) Own.upd_self).len (K := vw h3)
  have hlen3 : ∀ {Q : View}, Un.ev Q .len u3 = some (.int .i64 sl.length) := fun {Q} => (x3.z.at (k := (7, 1)) (by decide) Own.upd_self).len
  refine lwp_hide fun w hw => ?_
  simp [hlen3]
  rw [hw]; clear hw w
  by_cases c0 : sl.length = 0
  ·have c0' : sl = [] := List.eq_nil_of_length_eq_zero c0
   rw [if_pos c0] at hrow
   refine lwp_cond_t (by simp [c0, c0']) ?_
   refine drawn_at W0 x3.z.le ?_
   simp (disch := omega) [hq.idx1 rfl, hcell0]
   refine call_to (by kernel_rfl) (nz_word x3.z (q2.z.ok (by omega)) (by omega)) ?_
   rintro _ h4 ⟨rfl, n4⟩
   refine ⟨n4.le, ?_⟩
   refine call_to (by kernel_rfl) (nz_constant n4 (b := c) (by show c < m2.blocks.length; rw [q2.z.len]; exact hcn) (q2.z.took.took.ok (by omega)) (by omega) wordV_rng) ?_
   rintro _ h5 ⟨rfl, n5⟩
   have i64 : I64 m2.next := by have := q2.z.n0; have := q2.z.next; constructor <;> omega
   subst c0'
   refine n5.x.do_push (k := (7, 1)) (α := Int) (d := m2.next) (by decide) Own.upd_self El.s_int rfl (fun W => rd_int.2 ⟨rfl, i64⟩) (by simp) (by simp) (fun _ => rfl) (fun _ => rfl) fun u v' h6 x6 => ?_
   refine fin v' h6 _ ?_ ?_ ?_ ?_ ?_ ?_ ?_ ?_ ?_ ?_ ?_ ?_ ?_
   ·rw [hrow]
    exact x6.re fun q => by rw [upd_upd]; rfl
   all_goals simp
  ·rw [if_neg c0] at hrow
   have c0' : ¬ sl = [] := fun e => c0 (by rw [e]; rfl)
   refine lwp_cond_f (by simp [c0']) ?_
   simp
   refine fin u3 h3 _ ?_ ?_ ?_ ?_ ?_ ?_ ?_ ?_ ?_ ?_ ?_ ?_ ?_
   ·rw [hrow]; exact x3
   all_goals simp
 ·rintro vi h2 x2
  exact hQ h2 vi x2
end
end Go.Proofs.Ytfelpjfopgiabaa
namespace Go.Proofs.Ytfelpjfopgiabaa
open Go Go.Lft
def Pc (lp : List Int) (m : MS) : Prop := ∀ j, ((nth m.blocks j).phis.length : Int) = nth lp j
theorem Pc.grw {lp : List Int} {m m' : MS} {b k : Nat} (p : Pc lp m) (g : Grw b k m m') : Pc lp m' := fun j => by
 by_cases e : j = b
 ·subst e; rw [g.phis]; exact p j
 ·rw [g.els j e]; exact p j
theorem Pc.setBlk {lp : List Int} {m : MS} {b : Nat} {x : BlkD} (p : Pc lp m) (hx : x.phis.length = (nth m.blocks b).phis.length) : Pc lp { m with blocks := m.blocks.set b x } := fun j => by
 show ((nth (m.blocks.set b x) j).phis.length : Int) = _
 rcases Nat.lt_or_ge j m.blocks.length with hl | hl
 ·rw [nth_set hl]
  split
  ·rename_i e; subst e; rw [hx]; exact p b
  ·exact p j
 ·rw [nth_ge (by simpa using hl)]
  have := p j
  rwa [nth_ge hl] at this
theorem Pc.doBlock {s : List Int} {to : List (List Int)} {n b : Nat} {dn : BL} {away : List BL} {lp : List Int} {m : MS} (p : Pc lp m) (hb : b < m.blocks.length) : Pc lp (doBlock s to n dn away b m) := by
 have p1 : Pc lp (MS.took { m with live := liveS m dn away b n }) := p
 have hb1 : b < (MS.took { m with live := liveS m dn away b n }).blocks.length := hb
 have g := ((Grw.refl (b := b) (m := MS.took { m with live := liveS m dn away b n })).instructions (s := s) hb1 (takeV s m.at_ 7).toNat).term' (s := s) (to := nth to b) hb1
 exact (p1.grw g).setBlk rfl
theorem Pc.blkStep {s : List Int} {to : List (List Int)} {n b : Nat} {lp : List Int} {x : BL × MS} (p : Pc lp x.2) (hb : b < x.2.blocks.length) : Pc lp (blkStep s to n b x).2 := by
 unfold Go.Proofs.Ytfelpjfopgiabaa.blkStep
 split
 ·exact p.doBlock hb
 ·exact p
theorem Pc.rowS {s : List Int} {b : Nat} {lp : List Int} {m : MS} (p : Pc lp m) (hb : b < m.blocks.length) : Pc lp (rowS s b m).2 := by
 unfold Go.Proofs.Ytfelpjfopgiabaa.rowS
 split
 ·have p1 : Pc lp m.took.took := p
  exact p1.grw ((Grw.refl (b := b) (m := m.took.took)).constant hb)
 ·exact p
theorem rowS_blen {s : List Int} {b : Nat} {m : MS} : (rowS s b m).2.blocks.length = m.blocks.length := by
 unfold rowS
 split
 ·exact constant_len
 ·rfl
theorem Pc.up_inStep {s : List Int} {pl : List Int} {lp : List Int} {x : List InD × MS} (p : Pc lp x.2) (hb : ∀ k, k < pl.length → (nth pl k).toNat < x.2.blocks.length) : ∀ k, k ≤ pl.length → Pc lp (up (inStep s pl) k x).2 ∧ (up (inStep s pl) k x).2.blocks.length = x.2.blocks.length
 | 0, _ => ⟨p, rfl⟩
 | k + 1, h => by
  obtain ⟨h1, h2⟩ := Pc.up_inStep (s := s) p hb k (by omega)
  have e : (up (inStep s pl) (k + 1) x).2 = (Go.Proofs.Ytfelpjfopgiabaa.rowS s (nth pl k).toNat (up (inStep s pl) k x).2).2.took := rfl
  rw [e]
  exact ⟨h1.rowS (by rw [h2]; exact hb k (by omega)), (took_len).trans (rowS_blen.trans h2)⟩
theorem Pc.phi3 {s : List Int} {b j : Nat} {pl : List Int} {lp : List Int} {m : MS} (p : Pc lp m) (hb : ∀ k, k < pl.length → (nth pl k).toNat < m.blocks.length) : Pc lp (phi3 s b pl j m) ∧ (phi3 s b pl j m).blocks.length = m.blocks.length := by
 obtain ⟨h1, h2⟩ := Pc.up_inStep (s := s) (pl := pl) (x := ([], m)) p hb pl.length (Nat.le_refl _)
 exact ⟨h1.setBlk (by simp), by show (List.set _ _ _).length = _; rw [List.length_set]; exact h2⟩
theorem Pc.up_phi3 {s : List Int} {b : Nat} {pl : List Int} {lp : List Int} {m : MS} (p : Pc lp m) (hb : ∀ k, k < pl.length → (nth pl k).toNat < m.blocks.length) : ∀ k, Pc lp (up (Go.Proofs.Ytfelpjfopgiabaa.phi3 s b pl) k m) ∧ (up (Go.Proofs.Ytfelpjfopgiabaa.phi3 s b pl) k m).blocks.length = m.blocks.length
 | 0 => ⟨p, rfl⟩
 | k + 1 => by
  obtain ⟨h1, h2⟩ := Pc.up_phi3 (s := s) (b := b) p hb k
  obtain ⟨h3, h4⟩ := Pc.phi3 (s := s) (b := b) (j := k) h1 (fun k hk => by rw [h2]; exact hb k hk)
  exact ⟨h3, h4.trans h2⟩
theorem sift_mem {p : Nat → Bool} : ∀ (n : Nat) (v : Int), v ∈ sift p (fun a => (a : Int)) n → ∃ c : Nat, v = c ∧ c < n
 | 0, v, h => by cases h
 | n + 1, v, h => by
  cases hp : p n with
  | true =>
   rw [sift_true hp] at h
   rcases List.mem_append.1 h with h | h
   ·obtain ⟨c, h1, h2⟩ := sift_mem n v h; exact ⟨c, h1, by omega⟩
   ·rw [List.mem_singleton] at h; exact ⟨n, h, by omega⟩
  | false =>
   rw [sift_false hp] at h
   obtain ⟨c, h1, h2⟩ := sift_mem n v h; exact ⟨c, h1, by omega⟩
theorem sift_rng {p : Nat → Bool} (n k : Nat) (hk : k < (sift p (fun a => (a : Int)) n).length) : ∃ c : Nat, nth (sift p (fun a => (a : Int)) n) k = c ∧ c < n := sift_mem n _ (nth_mem hk)
section
variable {s : List Int} {M : Nat} {vs : Value} {W0 : View} {h : Heap} {o0 : Own} {m : MS}
theorem Nx.extRd {α : Type} [r : Rep α] (x : Nx s M vs W0 h o0 m) {h' : Heap} {u : Value} {l : List α} (hle : (vw h).le (vw h')) (hs : SlRd (fresh h h') u l) : ∃ W', W0.le W' ∧ Nx s M vs W' h' o0 m ∧ SlRd W' u l := by
 obtain ⟨W, o, g, w, f⟩ := x
 have hW := le_grow (h' := h') w.own.wle
 exact ⟨_, View.le_trans g hW, ⟨_, o, View.le_refl _, ⟨w.own.ext hle, w.src.mono hW, w.box⟩, f⟩, hs.mono (fresh_grow W h h')⟩
theorem Mk.do_in {po : OP} {W : View} {o : Own} (w : Mk s M vs W h o m) {vb vl : Value} {lb : List BlkM} (bb : MkB M vs m o vb vl lb) {b i : Nat} {l : List InD} {v : Value} {ty ty2 : TypeId} {us : List (Nat × Value)} {x y : Operand} {K : Value → Heap → Prop} (hb : b < m.blocks.length) (hi : i < (nth m.blocks b).phis.length) (hsz : sizeB Try.prog ty2 = some 1) (hx : asg us x = .pointer (some (((slA (nth lb b).phis.v).add (i * 2)).add 1))) (hy : asg us y = v) (hr : SlRd W v l)
  (hK : ∀ h' o', Mk s M vs W h' o' (m.setIn b i l) → (∀ k : Key, 3 ≤ k.1 → o' k = o k) → K undef h') : @Lft.step po Try.prog (.store ty2 x y) ty us h K := by
 have hbl : b < lb.length := by rw [bb.len]; exact hb
 refine w.own.do_part (k := (1, b)) (α := PhiD) PhiD.p_ins (v := (nth lb b).phis.v) (l := (nth m.blocks b).phis) (i := i) (d := l) (bb.phis b hb) hsz hx hy hi (rd_list.2 hr) fun h7 w7 _ => ?_
 have hs : lb.set b (nth lb b) = lb := by rw [nth_eq hbl]; exact List.set_getElem_self hbl
 have b7 := bb.setBlk hb (x' := { nth m.blocks b with phis := (nth m.blocks b).phis.set i { nth (nth m.blocks b).phis i with ins := l } }) (y' := nth lb b) (o' := o.upd (1, b) (it T.api_Phi (nth lb b).phis.v ((nth m.blocks b).phis.set i { (nth m.blocks b).phis[i] with ins := l }))) (bb.term b hb) (by rw [hs, Own.upd_ne (by simp)]; exact bb.blk) (by rw [Own.upd_self, nth_eq hi]) (by rw [Own.upd_ne (by simp)]; exact bb.ins b hb) (fun q h1 h2 h3 => Own.upd_ne h2)
 rw [hs] at b7
 exact hK h7 _ ⟨w7, w.src, vb, vl, lb, b7⟩ fun k hk => Own.upd_ne (by rintro rfl; simp at hk)
end
end Go.Proofs.Ytfelpjfopgiabaa
namespace Go.Proofs.Ytfelpjfopgiabaa
open Go Go.Lft
section
variable {s : List Int} {M : Nat} {vs : Value} {W0 : View} {h : Heap} {o0 : Own} {m : MS}
theorem made_l14 {n a p i b cnt : Nat} {vr vt vp vd vq : Value} {pl lp : List Int} (x : Nx s M vs W0 h o0 m) (h5 : o0 (5, 0) = it T.int vp lp) (f71 : o0 (7, 1) = none) (f72 : o0 (7, 2) = none) (q : P3 n a p i m) (pc : Pc lp m) (hlp : lp.length = n) (hb : b < n) (hcnt : nth lp b = cnt) (hc3 : cnt ≤ 3) (hn : n ≤ 10) (ha : a ≤ 400000) (hia : i ≤ a) (hp : p ≤ 100) (hi : i ≤ 1900) (hq : SlRd W0 vq pl) (hpl : pl.length ≤ 9) (hpr : ∀ k, k < pl.length → ∃ c : Nat, nth pl k = c ∧ c < n) {Q : Post} {ρ : Env}
  (h0 : keepE [2, 3, 4, 5, 7, 11, 25, 26, 27] ρ = [(2, vr), (3, .pointer (some ⟨M, 0, none⟩)), (4, .int .i64 n), (5, vt), (7, vp), (11, vd), (25, .int .i64 b), (26, vq), (27, .int .i64 0)])
  (hQ : ∀ h' : Heap, Nx s M vs W0 h' o0 (up (phi3 s b pl) cnt m) → Q .normal [(2, vr), (3, .pointer (some ⟨M, 0, none⟩)), (4, .int .i64 n), (5, vt), (7, vp), (11, vd), (25, .int .i64 b), (26, vq), (27, .int .i64 cnt)] h') :
  LC.wp Try.prog (.block 26 (.loop L.ref03_Made.l14)) Q ρ h := by
 simp only [lwp_block]
 refine lwp_for [2, 3, 4, 5, 7, 11, 25, 26, 27] (fun (_ : Unit) k => [vr, .pointer (some ⟨M, 0, none⟩), .int .i64 n, vt, vp, vd, .int .i64 b, vq, .int .i64 k]) (fun _ k h2 => Nx s M vs W0 h2 o0 (up (phi3 s b pl) k m)) cnt ()
  rfl (by omega) h0 x (fun _ _ => rfl) (fun v k h2 hk2 x2 => by
   have sp := x2.z.at (by decide) h5
   have e := sp.int (View.le_refl _) (i := b) (by omega)
   rw [hcnt] at e
   simp (disch := omega) [sp.idx1 rfl, e]) ?_ ?_
 ·rintro _ k h2 hlt x2 K2 hK2
  have hpn : ∀ j, j < pl.length → (nth pl j).toNat < m.blocks.length := fun j hj => by
   obtain ⟨c, h1, h2⟩ := hpr j hj
   rw [h1, q.z.len]; simpa using h2
  have q2 := (up_phi3 (s := s) (b := b) q hpl k).mono (a' := a + 200) (p' := p) (i' := i + 30) (by omega) (Nat.le_refl _) (by omega)
  obtain ⟨pc2, hlen2⟩ := Pc.up_phi3 (s := s) (b := b) pc hpn k
  have e2 : up (phi3 s b pl) (k + 1) m = phi3 s b pl k (up (phi3 s b pl) k m) := rfl
  rw [e2] at hK2
  generalize up (phi3 s b pl) k m = m2 at x2 hK2 q2 pc2 hlen2
  have hpn2 : ∀ j, j < pl.length → (nth pl j).toNat < m2.blocks.length := fun j hj => by rw [hlen2]; exact hpn j hj
  obtain ⟨pc3, hlen3⟩ := Pc.up_inStep (s := s) (pl := pl) (x := ([], m2)) pc2 hpn2 pl.length (Nat.le_refl _)
  simp only [lwp_block]
  refine lwp_hide fun y hy => ?_
  simp
  refine x2.do_empty (k := (7, 2)) (α := InD) (by decide) f72 El.s_api_In fun vi h3 hvi x3 => ?_
  rw [hy]; clear hy y
  refine lwp_hide fun y hy => ?_
  refine lwp_hide fun w hw => ?_
  simp
  rw [hw]; clear hw w
  refine made_l15 (vr := vr) (vt := vt) (vp := vp) (vd := vd) (vq := vq) (vi := vi) (b := b) (j := k) x3 f71 q2 hn (by omega) (by omega) hp (by omega) hq hpl hpr (by simp [keepE, look_setE, look_kill]) fun h4 vi x4 => ?_
  obtain ⟨W4, hW4, x4, s4⟩ := x4.freeze (by decide) f72
  have e3 : phi3 s b pl k m2 = (up (inStep s pl) pl.length ([], m2)).2.setIn b k (up (inStep s pl) pl.length ([], m2)).1 := rfl
  rw [e3] at hK2
  have hb4 : b < (up (inStep s pl) pl.length ([], m2)).2.blocks.length := by rw [hlen3]; show b < m2.blocks.length; rw [hlen2, q.z.len]; exact hb
  have hph : ((nth (up (inStep s pl) pl.length ([], m2)).2.blocks b).phis.length : Int) = cnt := (pc3 b).trans hcnt
  generalize up (inStep s pl) pl.length ([], m2) = r at x4 hK2 s4 hb4 hph
  obtain ⟨W, o, g, w, f⟩ := x4
  obtain ⟨vb, vl, lb, bb⟩ := w.box
  have rd := w.reads bb
  have hbb : b < lb.length := by rw [bb.len]; exact hb4
  have sb := w.own.now bb.blk
  have sbb := sb.bound
  have c1 : cellH (vw h4) (((slA vb).add (b * 6)).add 0) = some (nth lb b).phis.v := by
   have := ((sb.at hbb).part BlkM.p_phis).raw
   rw [nth_eq hbb]; exact this
  have sph := w.own.now (bb.phis b hb4)
  simp
  rw [hy]; clear hy y
  have r5 : Bn.ev (.idx 2) (nth lb b).phis.v (.int .i64 k) = some (.pointer (some ((slA (nth lb b).phis.v).add (k * 2)))) := by
   have := sph.idxn (N := 2) rfl (k := .i64) (i := k) (by omega) (by omega); simpa using this
  simp (disch := omega) [rd.cb, sb.idxn (N := 6) rfl, c1, r5]
  refine w.do_in bb (b := b) (i := k) (l := r.1) hb4 (by omega) (by kernel_rfl) rfl rfl (s4.mono g) fun h5 o5 w5 f5 => ?_
  refine hK2 () _ _ rfl rfl ?_
  exact ⟨W, o5, View.le_trans hW4 g, w5, fun q hq => (f5 q hq).trans (f q hq)⟩
 ·rintro _ h2 x2
  exact hQ h2 x2
theorem blk3_ok {n a p i k : Nat} {lp : List Int} {m : MS} (q : P3 n a p i m) (pc : Pc lp m) (hr : ∀ j, nth lp j ≤ 3) (hn : n ≤ 9) : P3 n (a + 162) p (i + 27) (blk3 s lp k m) ∧ Pc lp (blk3 s lp k m) := by
 have hpl : (refPredsS m.f ((k + 1 : Nat) : Int)).length ≤ n := by
  have := sift_len (p := fun a => decide (((k + 1 : Nat) : Int) ∈ (nth m.f.blocks a).term.to)) (x := fun a => (a : Int)) m.f.blocks.length
  rw [show m.f.blocks.length = n from q.z.len] at this
  unfold refPredsS
  rw [show m.f.blocks.length = n from q.z.len]
  exact this
 have hpn : ∀ j, j < (refPredsS m.f ((k + 1 : Nat) : Int)).length → (nth (refPredsS m.f ((k + 1 : Nat) : Int)) j).toNat < m.blocks.length := fun j hj => by
  obtain ⟨c, h1, h2⟩ := sift_rng _ j hj
  have h1 : nth (refPredsS m.f ((k + 1 : Nat) : Int)) j = c := h1
  rw [h1]; have h2 : c < m.blocks.length := h2; simpa using h2
 have h3 := hr (k + 1)
 unfold blk3
 exact ⟨(up_phi3 q (by omega) _).mono (by omega) (Nat.le_refl _) (by omega), (Pc.up_phi3 pc hpn _).1⟩
theorem up_blk3 {n a p i : Nat} {lp : List Int} {m : MS} (q : P3 n a p i m) (pc : Pc lp m) (hr : ∀ j, nth lp j ≤ 3) (hn : n ≤ 9) : ∀ k, P3 n (a + 162 * k) p (i + 27 * k) (up (blk3 s lp) k m) ∧ Pc lp (up (blk3 s lp) k m)
 | 0 => ⟨q, pc⟩
 | k + 1 => by
  obtain ⟨h1, h2⟩ := up_blk3 q pc hr hn k
  obtain ⟨h3, h4⟩ := blk3_ok (s := s) (k := k) h1 h2 hr hn
  exact ⟨h3.mono (by omega) (Nat.le_refl _) (by omega), h4⟩
theorem made_l13 {n a p i : Nat} {vr vt vp vd : Value} {lp : List Int} (x : Nx s M vs W0 h o0 m) (h5 : o0 (5, 0) = it T.int vp lp) (f71 : o0 (7, 1) = none) (f72 : o0 (7, 2) = none) (q : P3 n a p i m) (pc : Pc lp m) (hlp : lp.length = n) (hr : ∀ j, 0 ≤ nth lp j ∧ nth lp j ≤ 3) (hn1 : 1 ≤ n) (hn : n ≤ 9) (ha : a ≤ 300000) (hia : i ≤ a) (hp : p ≤ 100) (hi : i ≤ 1000) {Q : Post} {ρ : Env}
  (h0 : keepE [2, 3, 4, 5, 7, 11, 25] ρ = [(2, vr), (3, .pointer (some ⟨M, 0, none⟩)), (4, .int .i64 n), (5, vt), (7, vp), (11, vd), (25, .int .i64 1)])
  (hQ : ∀ h' : Heap, Nx s M vs W0 h' o0 (up (blk3 s lp) (n - 1) m) → Q .normal [(2, vr), (3, .pointer (some ⟨M, 0, none⟩)), (4, .int .i64 n), (5, vt), (7, vp), (11, vd), (25, .int .i64 n)] h') :
  LC.wp Try.prog (.block 24 (.loop L.ref03_Made.l13)) Q ρ h := by
 simp only [lwp_block]
 refine lwp_forG [2, 3, 4, 5, 7, 11, 25] (fun (_ : Unit) k => [vr, .pointer (some ⟨M, 0, none⟩), .int .i64 n, vt, vp, vd, .int .i64 ((k + 1 : Nat) : Int)]) (fun _ k h2 => Nx s M vs W0 h2 o0 (up (blk3 s lp) k m)) (n - 1) 1 ()
  rfl (by omega) h0 x (fun _ _ => rfl) (fun v k h2 hk2 m => by simp; omega) ?_ ?_
 ·rintro _ k h2 hlt x2 K2 hK2
  obtain ⟨q2, pc2⟩ := up_blk3 (s := s) q pc (fun j => (hr j).2) hn k
  have e2 : up (blk3 s lp) (k + 1) m = blk3 s lp k (up (blk3 s lp) k m) := rfl
  rw [e2] at hK2
  generalize up (blk3 s lp) k m = m2 at x2 hK2 q2 pc2
  have hb2 : blk3 s lp k m2 = _ := blk3.eq_1 s lp k m2
  rw [hb2] at hK2
  simp only [lwp_block]
  refine lwp_hide fun y hy => ?_
  obtain ⟨vb, vl, rd⟩ := x2.z.reads
  simp [rd.f]
  refine call_to (by kernel_rfl) (refPreds_ok (b := ((k + 1 : Nat) : Int)) (rd.rd (i64ps q2.z)) (by show m2.blocks.length ≤ _; rw [q2.z.len]; omega)) ?_
  rintro vq h3 ⟨hle3, hq⟩
  obtain ⟨W3, hW3, x3, sq⟩ := x2.extRd hle3 hq
  clear rd hq
  have hpl : (refPredsS m2.f ((k + 1 : Nat) : Int)).length ≤ n := by
   have := sift_len (p := fun a => decide (((k + 1 : Nat) : Int) ∈ (nth m2.f.blocks a).term.to)) (x := fun a => (a : Int)) m2.f.blocks.length
   unfold refPredsS
   rw [show m2.f.blocks.length = n from q2.z.len] at this ⊢
   exact this
  have hpr : ∀ j, j < (refPredsS m2.f ((k + 1 : Nat) : Int)).length → ∃ c : Nat, nth (refPredsS m2.f ((k + 1 : Nat) : Int)) j = c ∧ c < n := fun j hj => by
   obtain ⟨c, h1, h2⟩ := sift_rng _ j hj
   exact ⟨c, h1, by rw [show m2.f.blocks.length = n from q2.z.len] at h2; exact h2⟩
  generalize refPredsS m2.f ((k + 1 : Nat) : Int) = pl at sq hpl hpr hK2
  obtain ⟨r0, r1⟩ := hr (k + 1)
  rw [hy]; clear hy y
  refine lwp_hide fun y hy => ?_
  simp
  rw [hy]; clear hy y
  refine made_l14 (vr := vr) (vt := vt) (vp := vp) (vd := vd) (vq := vq) (b := k + 1) (cnt := (nth lp (k + 1)).toNat) x3 h5 f71 f72 q2 pc2 hlp (by omega) (by omega) (by omega) (by omega) (by omega) (by omega) hp (by omega) sq (by omega) hpr (by simp [keepE, look_setE, look_kill]) fun h4 x4 => ?_
  simp
  refine hK2 () _ _ rfl rfl (x4.up hW3)
 ·rintro _ h2 x2
  have e : n - 1 + 1 = n := by omega
  have := hQ h2 x2
  simpa [e] using this
theorem up_blkStep {n a p : Nat} {to : List (List Int)} {x0 : BL × MS} (q : B2 n a p x0) (hn : n ≤ 10) (hp : p ≤ 100) (ha : 16000 ≤ a) : ∀ j, j ≤ n → B2 n (a + 600 * j) p (up (blkStep s to n) j x0) := by
 intro j
 induction j with
 | zero => intro _; exact q
 | succ j ih =>
  intro hj
  have := blkStep_ok (s := s) (to := to) (b := j) (ih (by omega)) (by omega) hn hp (by omega) fun h => ready_not h
  exact ⟨this.z.mono (by omega) (Nat.le_refl _) (Nat.le_refl _), this.len, this.none⟩
theorem up_turn {n a p : Nat} {to : List (List Int)} {x0 : BL × MS} (q : B2 n a p x0) (hn : n ≤ 10) (hp : p ≤ 100) (ha : 16000 ≤ a) (j : Nat) : B2 n (a + 600 * n * j) p (up (fun _ => up (blkStep s to n) n) j x0) := by
 induction j with
 | zero => exact q
 | succ j ih =>
  have := up_blkStep (s := s) (to := to) ih hn hp (by omega) n (Nat.le_refl _)
  exact ⟨this.z.mono (by rw [Nat.mul_succ]; omega) (Nat.le_refl _) (Nat.le_refl _), this.len, this.none⟩
theorem made_l4 {n a p : Nat} {vr vt vp vd : Value} {to : List (List Int)} {x0 : BL × MS} (x : Nx s M vs W0 h (o0.upd (6, 0) (it T.bool vd x0.1)) x0.2) (hto : SlRd W0 vt to) (htl : to.length = n) (f7 : o0 (7, 0) = none) (f90 : o0 (9, 0) = none) (f91 : o0 (9, 1) = none) (q : B2 n a p x0) (hn : n ≤ 9) (hp : p ≤ 100) (ha : 16000 ≤ a) (ha2 : a ≤ 30000) {Q : Post} {ρ : Env}
  (h0 : keepE [2, 3, 4, 5, 7, 11, 12] ρ = [(2, vr), (3, .pointer (some ⟨M, 0, none⟩)), (4, .int .i64 n), (5, vt), (7, vp), (11, vd), (12, .int .i64 0)])
  (hQ : ∀ h' : Heap, Nx s M vs W0 h' (o0.upd (6, 0) (it T.bool vd (up (fun _ => up (blkStep s to n) n) n x0).1)) (up (fun _ => up (blkStep s to n) n) n x0).2 → Q .normal [(2, vr), (3, .pointer (some ⟨M, 0, none⟩)), (4, .int .i64 n), (5, vt), (7, vp), (11, vd), (12, .int .i64 n)] h') :
  LC.wp Try.prog (.block 6 (.loop L.ref03_Made.l4)) Q ρ h := by
 simp only [lwp_block]
 refine lwp_for [2, 3, 4, 5, 7, 11, 12] (fun (_ : Unit) j => [vr, .pointer (some ⟨M, 0, none⟩), .int .i64 n, vt, vp, vd, .int .i64 j]) (fun _ j h2 => Nx s M vs W0 h2 (o0.upd (6, 0) (it T.bool vd (up (fun _ => up (blkStep s to n) n) j x0).1)) (up (fun _ => up (blkStep s to n) n) j x0).2) n ()
  rfl (by omega) h0 x (fun _ _ => rfl) (fun v k h2 hk2 x2 => by simp) ?_ ?_
 ·rintro _ t h2 hlt x2 K2 hK2
  have q2 := up_turn (s := s) (to := to) q (by omega) hp ha t
  have hbd : 600 * n * t ≤ 5400 * 9 := Nat.mul_le_mul (by omega) (by omega)
  have e2 : up (fun _ => up (blkStep s to n) n) (t + 1) x0 = up (blkStep s to n) n (up (fun _ => up (blkStep s to n) n) t x0) := rfl
  rw [e2] at hK2
  generalize up (fun _ => up (blkStep s to n) n) t x0 = y at x2 hK2 q2
  simp only [lwp_block]
  refine lwp_hide fun y hy => ?_
  simp
  rw [hy]; clear hy y
  refine made_l5 (vr := vr) (vt := vt) (vp := vp) (vd := vd) (t := t) x2 hto htl f7 f90 f91 q2 (by omega) hp (by omega) (by omega) (by simp [keepE, look_setE, look_kill]) fun h3 x3 => ?_
  simp
  exact hK2 () _ _ rfl rfl x3
 ·rintro _ h2 x2
  exact hQ h2 x2
end
end Go.Proofs.Ytfelpjfopgiabaa
namespace Go.Proofs.Ytfelpjfopgiabaa
open Go Go.Lft
variable {s : List Int}
theorem madeN_rng : 1 ≤ madeN s ∧ madeN s ≤ 9 := by
 have := takeV_rng (s := s) (at_ := 1) (n := 9) (by decide)
 unfold madeN; omega
theorem madeN_int : ((madeN s : Nat) : Int) = 1 + takeV s 1 9 := by
 have := takeV_rng (s := s) (at_ := 1) (n := 9) (by decide)
 unfold madeN; omega
theorem made0_ok : (made0 s).ok 4 := by
 have := takeV_rng (s := s) (at_ := 0) (n := 5) (by decide)
 refine ⟨by show 2 ≤ 4; omega, by show 0 ≤ takeV s 0 5; omega, by show takeV s 0 5 ≤ _; omega, by show 0 ≤ 4; omega, fun i => ?_⟩
 show (nth ([] : List BlkD) i).ins.length ≤ 4
 rw [nth_ge (by simp)]
 show 0 ≤ 4; omega
theorem made1_k : TgK (madeN s) 112 (made1 s) := by
 obtain ⟨h1, h2⟩ := madeN_rng (s := s)
 have k1 : TgK (madeN s) 4 (List.replicate (madeN s) [], made0 s) := ⟨by simp, fun i => by
  rcases Nat.lt_or_ge i (madeN s) with hi | hi
  ·rw [nth_replicate hi]; show 0 ≤ 4; omega
  ·rw [nth_ge (by simpa using hi)]; show 0 ≤ 4; omega, made0_ok⟩
 exact (up_tgB (s := s) (up_tgA (s := s) k1 (madeN s - 1)) (madeN s)).mono (by omega)
def Same4 (m m' : MS) : Prop := m'.ps = m.ps ∧ m'.blocks = m.blocks ∧ m'.next = m.next ∧ m'.live = m.live
theorem tgA_same {m : MS} {k : Nat} {x : TgS} (h : Same4 m x.2) : Same4 m (tgA s k x).2 := by
 unfold tgA; split <;> exact h
theorem tgI_same {m : MS} {n b : Nat} {x : TgS} (h : Same4 m x.2) : Same4 m (tgI s n b x).2 := by
 unfold tgI; simp only; repeat' split
 all_goals exact h
theorem tgB_same {m : MS} {n b : Nat} {x : TgS} (h : Same4 m x.2) : Same4 m (tgB s n b x).2 :=
 up_inv (fun x : TgS => Same4 m x.2) (fun _ _ h => tgI_same h) _ _ h
theorem made1_same : Same4 (made0 s) (made1 s).2 :=
 up_inv (fun x : TgS => Same4 (made0 s) x.2) (fun _ _ h => tgB_same h) _ _ (up_inv (fun x : TgS => Same4 (made0 s) x.2) (fun _ _ h => tgA_same h) _ _ ⟨rfl, rfl, rfl, rfl⟩)
theorem made2_up {m : MS} {a n : Nat} {to : List (List Int)} (z : Sz n a 0 0 m) (g : Gd m) (pc : ∀ j, (nth m.blocks j).phis.length = 0) (ht : ∀ j, (nth to j).length ≤ 1000) : ∀ k, Sz n a 0 0 (up (fun b m => MS.setTo m b (nth to b)) k m) ∧ Gd (up (fun b m => MS.setTo m b (nth to b)) k m)
 | 0 => ⟨z, g⟩
 | k + 1 => by
  obtain ⟨h1, h2⟩ := made2_up z g pc ht k
  exact ⟨h1.setBlk (h1.phis k) (h1.ins k), h2.setTo (ht k)⟩
theorem zeroB_nth {n j : Nat} : (nth (List.replicate n zeroB) j).phis.length = 0 ∧ (nth (List.replicate n zeroB) j).ins.length = 0 := by
 rcases Nat.lt_or_ge j n with hj | hj
 ·rw [nth_replicate hj]; exact ⟨rfl, rfl⟩
 ·rw [nth_ge (by simpa using hj)]; exact ⟨rfl, rfl⟩
theorem made2_ok : Sz (madeN s) 200 0 0 (made2 s) ∧ Gd (made2 s) := by
 have k := made1_k (s := s)
 have e := made1_same (s := s)
 have t := takeV_rng (s := s) (at_ := 0) (n := 5) (by decide)
 refine made2_up ⟨?_, ?_, ?_, ?_, ?_, ?_, ?_, fun j => ?_, fun j => ?_⟩ (fun j hj => ?_) (fun j => (zeroB_nth).1) (fun j => by have := k.row j; omega) _
 ·show (made1 s).2.at_ ≤ 200; have := k.ok.at_; omega
 ·exact k.ok.n0
 ·show (made1 s).2.next ≤ _; have := k.ok.next; omega
 ·show (made1 s).2.live.length ≤ 200; have := k.ok.live; omega
 ·show 0 ≤ (made1 s).2.ps; rw [e.1]; show 0 ≤ takeV s 0 5; omega
 ·show (made1 s).2.ps ≤ 4; rw [e.1]; show takeV s 0 5 ≤ 4; omega
 ·show (List.replicate (madeN s) zeroB).length = _; simp
 ·show (nth (List.replicate (madeN s) zeroB) j).phis.length ≤ 0; rw [(zeroB_nth).1]; omega
 ·show (nth (List.replicate (madeN s) zeroB) j).ins.length ≤ 0; rw [(zeroB_nth).2]; omega
 ·have hj : j < madeN s := by simpa using hj
  show GdB (nth (List.replicate (madeN s) zeroB) j)
  rw [nth_replicate hj]
  exact ⟨fun i h => (by cases h), by show 0 ≤ 10; omega, by show 0 ≤ 1000; omega, fun i h => (by cases h)⟩
theorem addPhis_len {m : MS} {b : Nat} (hb : b < m.blocks.length) : ∀ c j, (nth (up (fun _ => addPhi b) c m).blocks j).phis.length = (nth m.blocks j).phis.length + (if j = b then c else 0) ∧ (up (fun _ => addPhi b) c m).blocks.length = m.blocks.length
 | 0, j => ⟨by show (nth m.blocks j).phis.length = _; split <;> omega, rfl⟩
 | c + 1, j => by
  obtain ⟨h1, h2⟩ := addPhis_len hb c j
  obtain ⟨h3, _⟩ := addPhis_len hb c b
  have e : (up (fun _ => addPhi b) (c + 1) m).blocks = (up (fun _ => addPhi b) c m).blocks.set b { nth (up (fun _ => addPhi b) c m).blocks b with phis := (nth (up (fun _ => addPhi b) c m).blocks b).phis ++ [⟨(up (fun _ => addPhi b) c m).next, []⟩] } := rfl
  rw [e]
  refine ⟨?_, by rw [List.length_set]; exact h2⟩
  rcases Nat.lt_or_ge j m.blocks.length with hl | hl
  ·rw [nth_set (by rw [h2]; exact hl)]
   by_cases ej : b = j
   ·subst ej
    rw [if_pos rfl, if_pos rfl]
    rw [if_pos rfl] at h3
    show (_ ++ [_]).length = _
    rw [List.length_append, h3, List.length_singleton]; omega
   ·rw [if_neg ej, if_neg (fun q => ej q.symm)]
    rw [if_neg (fun q => ej q.symm)] at h1
    exact h1
  ·rw [nth_ge (by rw [List.length_set, h2]; exact hl), nth_ge hl, if_neg (by omega)]; rfl
theorem up_phi_pc {n a : Nat} {x : List Int × MS} (p : Ph n a 0 x) (pc : Pc x.1 x.2) (g : Gd x.2) : ∀ k, k < n → Pc (up (phiStep s) k x).1 (up (phiStep s) k x).2 ∧ Gd (up (phiStep s) k x).2
 | 0, _ => ⟨pc, g⟩
 | k + 1, hk => by
  obtain ⟨h1, h2⟩ := up_phi_pc p pc g k (by omega)
  have q := up_phi (s := s) p k
  have e : up (phiStep s) (k + 1) x = phiStep s k (up (phiStep s) k x) := rfl
  rw [e]
  generalize up (phiStep s) k x = y at h1 h2 q
  obtain ⟨c0, c1⟩ := phiCnt_rng (s := s) (m := y.2) (b := k + 1)
  have hb : k + 1 < y.2.took.blocks.length := by show k + 1 < y.2.blocks.length; rw [q.z.len]; exact hk
  refine ⟨fun j => ?_, h2.took.addPhis _⟩
  have h3 := (addPhis_len hb (phiCnt s y.2 (k + 1)).toNat j).1
  show ((nth (up (fun _ => addPhi (k + 1)) (phiCnt s y.2 (k + 1)).toNat y.2.took).blocks j).phis.length : Int) = nth (y.1.set (k + 1) (phiCnt s y.2 (k + 1))) j
  rw [h3]
  have h4 := h1 j
  have h5 : nth y.2.took.blocks j = nth y.2.blocks j := rfl
  rw [h5]
  rcases Nat.lt_or_ge j y.1.length with hl | hl
  ·rw [nth_set hl]
   by_cases ej : k + 1 = j
   ·subst ej
    rw [if_pos rfl, if_pos rfl]
    rw [q.zero (k + 1) (by omega)] at h4
    omega
   ·rw [if_neg ej, if_neg (fun r => ej r.symm)]
    omega
  ·have e1 : nth (y.1.set (k + 1) (phiCnt s y.2 (k + 1))) j = default := nth_ge (by simpa using hl)
   have e2 : nth y.1 j = default := nth_ge hl
   rw [e1]
   rw [e2] at h4
   have := q.len
   rw [if_neg (by omega)]
   omega
theorem made3_ok : Ph (madeN s) 200 (madeN s - 1) (made3 s) ∧ Pc (made3 s).1 (made3 s).2 ∧ Gd (made3 s).2 := by
 obtain ⟨h1, h2⟩ := madeN_rng (s := s)
 obtain ⟨z, g⟩ := made2_ok (s := s)
 have hz : ∀ j, nth (List.replicate (madeN s) (0 : Int)) j = 0 := fun j => by
  rcases Nat.lt_or_ge j (madeN s) with hj | hj
  ·rw [nth_replicate hj]
  ·rw [nth_ge (by simpa using hj)]; rfl
 have p0 : Ph (madeN s) 200 0 (List.replicate (madeN s) (0 : Int), made2 s) := ⟨z, by simp, fun j _ => hz j, fun j => by rw [hz]; omega⟩
 have pc : Pc (List.replicate (madeN s) (0 : Int)) (made2 s) := fun j => by
  have := z.phis j
  rw [hz]; omega
 obtain ⟨q1, q2⟩ := up_phi_pc (s := s) p0 pc g (madeN s - 1) (by omega)
 exact ⟨up_phi p0 _, q1, q2⟩
theorem Gd.doBlock {to : List (List Int)} {n b : Nat} {dn : BL} {away : List BL} {m : MS} (g : Gd m) (ht : (nth to b).length ≤ 1000) : Gd (doBlock s to n dn away b m) := by
 have g1 : Gd (MS.took { m with live := liveS m dn away b n }) := g
 exact (Gd.instructions g1 _).mkEnd ht
theorem Gd.blkStep {to : List (List Int)} {n b : Nat} {x : BL × MS} (g : Gd x.2) (ht : (nth to b).length ≤ 1000) : Gd (blkStep s to n b x).2 := by
 unfold Go.Proofs.Ytfelpjfopgiabaa.blkStep
 split
 ·exact g.doBlock ht
 ·exact g
structure M4 (n a p : Nat) (lp : List Int) (x : BL × MS) : Prop where
 b2 : B2 n a p x
 gd : Gd x.2
 pc : Pc lp x.2
theorem M4.step {to : List (List Int)} {n a p b : Nat} {lp : List Int} {x : BL × MS} (q : M4 n a p lp x) (hb : b < n) (hn : n ≤ 10) (hp : p ≤ 100) (ha : 16000 ≤ a) (ht : ∀ j, (nth to j).length ≤ 1000) : M4 n (a + 600) p lp (blkStep s to n b x) :=
 ⟨blkStep_ok q.b2 hb hn hp ha fun h => ready_not h, q.gd.blkStep (ht b), q.pc.blkStep (by rw [q.b2.z.len]; exact hb)⟩
theorem M4.blk {to : List (List Int)} {n a p : Nat} {lp : List Int} {x : BL × MS} (q : M4 n a p lp x) (hn : n ≤ 10) (hp : p ≤ 100) (ha : 16000 ≤ a) (ht : ∀ j, (nth to j).length ≤ 1000) (k : Nat) (hk : k ≤ n) : M4 n (a + 600 * k) p lp (up (Go.Proofs.Ytfelpjfopgiabaa.blkStep s to n) k x) := by
 induction k with
 | zero => exact q
 | succ k ih =>
  have := (ih (by omega)).step (s := s) (to := to) (b := k) (by omega) hn hp (by omega) ht
  exact ⟨⟨this.b2.z.mono (by omega) (Nat.le_refl _) (Nat.le_refl _), this.b2.len, this.b2.none⟩, this.gd, this.pc⟩
theorem M4.turn {to : List (List Int)} {n a p : Nat} {lp : List Int} {x : BL × MS} (q : M4 n a p lp x) (hn : n ≤ 10) (hp : p ≤ 100) (ha : 16000 ≤ a) (ht : ∀ j, (nth to j).length ≤ 1000) (k : Nat) : M4 n (a + 600 * n * k) p lp (up (fun _ => up (Go.Proofs.Ytfelpjfopgiabaa.blkStep s to n) n) k x) := by
 induction k with
 | zero => exact q
 | succ k ih =>
  have := ih.blk (s := s) (to := to) hn hp (by omega) ht n (Nat.le_refl _)
  exact ⟨⟨this.b2.z.mono (by rw [Nat.mul_succ]; omega) (Nat.le_refl _) (Nat.le_refl _), this.b2.len, this.b2.none⟩, this.gd, this.pc⟩
theorem made3_b2 : B2 (madeN s) 16000 27 (List.replicate (madeN s) false, (made3 s).2) := by
 obtain ⟨h1, h2⟩ := madeN_rng (s := s)
 obtain ⟨p, _, _⟩ := made3_ok (s := s)
 refine ⟨p.z.mono (by omega) (by omega) (by omega), by simp, fun j hj _ => ?_⟩
 have := p.z.ins j
 show (nth (made3 s).2.blocks j).ins.length = 0; omega
theorem made4_ok : P3 (madeN s) 70000 27 700 (made4 s).2 ∧ Pc (made3 s).1 (made4 s).2 := by
 obtain ⟨h1, h2⟩ := madeN_rng (s := s)
 obtain ⟨p, pc, g⟩ := made3_ok (s := s)
 have ht : ∀ j, (nth (made1 s).1 j).length ≤ 1000 := fun j => by have := (made1_k (s := s)).row j; omega
 have q0 : M4 (madeN s) 16000 27 (made3 s).1 (List.replicate (madeN s) false, (made3 s).2) := ⟨made3_b2, g, pc⟩
 have q := q0.turn (s := s) (to := (made1 s).1) (by omega) (by omega) (by omega) ht (madeN s)
 have hbd : 600 * madeN s * madeN s ≤ 5400 * 9 := Nat.mul_le_mul (by omega) (by omega)
 exact ⟨⟨q.b2.z.mono (by omega) (Nat.le_refl _) (Nat.le_refl _), q.gd⟩, q.pc⟩
theorem made5_ok : P3 (madeN s) 72000 27 1000 (made5 s) := by
 obtain ⟨h1, h2⟩ := madeN_rng (s := s)
 obtain ⟨p, _, _⟩ := made3_ok (s := s)
 obtain ⟨q, pc⟩ := made4_ok (s := s)
 have := (up_blk3 (s := s) q pc (fun j => (p.rng j).2) h2 (madeN s - 1)).1
 exact this.mono (by omega) (Nat.le_refl _) (by omega)
end Go.Proofs.Ytfelpjfopgiabaa
namespace Go.Proofs.Ytfelpjfopgiabaa
open Go Go.Lft
section
variable {s : List Int} {M : Nat} {vs : Value} {W : View} {h : Heap} {o : Own} {m : MS}
theorem MkB.boxed {vb vl : Value} {lb : List BlkM} (bb : MkB M vs m o vb vl lb) (m' : MS) (h1 : m'.blocks = m.blocks) (h2 : m'.live = m.live) : MkB M vs m' (o.upd (0, 0) (bx T.ref03_maker M (RawN.mk (n := 5) (mkL vs m'.at_ m'.ps vb m'.next vl)))) vb vl lb :=
 ⟨rfl, by rw [h2]; exact bb.live, bb.blk, by rw [h1]; exact bb.len, by rw [h1]; exact bb.term, by rw [h1]; exact fun i hi => bb.phis i hi, by rw [h1]; exact fun i hi => bb.ins i hi⟩
end
def frame0 (R : Nat) (i10 : Own) : Own := fun k => if k = (8, 0) then bx T.api_Func R (RawN.mk (n := 1) [.int .i64 0, .slice none 0 0]) else if 10 ≤ k.1 then i10 k else none
theorem made_ok {s : List Int} {vs : Value} {h : Heap} {W : View} {o0 : Own} (w0 : Owns W h o0) (ho0 : ∀ k : Key, k.1 < 10 → o0 k = none) (hs : SlRd W vs s) :
  HCalls Try.prog N.ref03_Made #[vs] h (fun u h' => ∃ W', W.le W' ∧ Owns W' h' o0 ∧ Rd W' u (makeS s)) := by
 refine calls_lift (args := [vs]) follows F.ref03_Made E.ref03_Made (Nat.le_of_ble_eq_true (by kernel_rfl)) fun K hK => ?_
 have hs0 := hs
 obtain ⟨sa, sc, rfl, _⟩ := hs0
 dsimp only [L.ref03_Made]
 refine lwp_hide fun z hz => ?_
 simp
 refine w0.do_zero (k := (8, 0)) (n := 1) (z := .agg #[.int .i64 0, .slice none 0 0]) (ho0 _ (by decide)) (by kernel_rfl) rfl (by decide) (by simp [Value.cells, Value.oneCell']) fun h1 q1 w1 => ?_
 generalize h.size = R at w1
 rw [hz]; clear hz z
 refine lwp_hide fun z hz => ?_
 simp
 refine do_build (z := .agg #[.slice none 0 0, .int .i64 0, .int .i64 0, .slice none 0 0, .int .i64 0, .slice none 0 0]) (places := [(0, 1), (1, 1), (2, 2), (4, 1), (5, 1)]) (vs := [(0, .slice sa s.length sc)]) (cs := #[.slice sa s.length sc, .int .i64 0, .int .i64 0, .slice none 0 0, .int .i64 0, .slice none 0 0]) (by kernel_rfl) (by kernel_rfl) (by simp) (by rfl) ?_
 generalize s.length = sl at hs
 refine do_box rfl ?_
 have hbx : (h1.push (.cells (Value.agg #[.slice sa sl sc, .int .i64 0, .int .i64 0, .slice none 0 0, .int .i64 0, .slice none 0 0]).cells T.ref03_maker))[h1.size]? = some (.cells (Value.agg #[.slice sa sl sc, .int .i64 0, .int .i64 0, .slice none 0 0, .int .i64 0, .slice none 0 0]).cells T.ref03_maker (0, 0)) := by simp
 have hle2 := push_le h1 (.cells (Value.agg #[.slice sa sl sc, .int .i64 0, .int .i64 0, .slice none 0 0, .int .i64 0, .slice none 0 0]).cells T.ref03_maker)
 have hbg : ∀ b, (Value.slice (some ⟨h1.size, 0, none⟩) 1 1).ownBlock = some b → h1.size ≤ b := fun b hb => by simp only [Value.ownBlock, Option.some.injEq] at hb; omega
 show LC.wp Try.prog z _ _ (h1.push (.cells (Value.agg #[.slice sa sl sc, .int .i64 0, .int .i64 0, .slice none 0 0, .int .i64 0, .slice none 0 0]).cells T.ref03_maker))
 generalize h1.push (.cells (Value.agg #[.slice sa sl sc, .int .i64 0, .int .i64 0, .slice none 0 0, .int .i64 0, .slice none 0 0]).cells T.ref03_maker) = h2 at hbx hle2
 have w2 := w1.add (k := (0, 0)) ((Own.upd_ne (by simp)).trans (ho0 _ (by decide))) (ownT_box (W := W) (d := RawN.mk (n := 5) [.slice sa sl sc, .int .i64 0, .int .i64 0, .slice none 0 0, .int .i64 0, .slice none 0 0]) hbx (rd_rawN rfl (by simp [Value.oneCell'])) (by decide)) hle2 hbg
 generalize h1.size = M at w2
 generalize hvs : Value.slice sa sl sc = vs at hs w2
 obtain ⟨m0, hm0⟩ : ∃ m0 : MS, m0 = ⟨0, 0, [], 0, []⟩ := ⟨_, rfl⟩
 obtain ⟨o2, ho2⟩ : ∃ o2 : Own, o2 = fun k => if k = (0, 0) then bx T.ref03_maker M (RawN.mk (n := 5) (mkL vs 0 0 (.slice none 0 0) 0 (.slice none 0 0))) else if k = (0, 1) then it T.int (.slice none 0 0) ([] : List Int) else if k = (0, 2) then it T.api_Block (.slice none 0 0) ([] : List BlkM) else frame0 R o0 k := ⟨_, rfl⟩
 have w2 : Owns W h2 o2 := w2.nils fun k i hk => by
  rw [ho2] at hk
  dsimp only at hk
  split at hk
  ·rename_i e; rw [e]; exact .inl hk
  ·rename_i e0
   split at hk
   ·cases hk; exact .inr ⟨rfl, OwnT.nil (α := Int) _ _ _⟩
   ·split at hk
    ·cases hk; exact .inr ⟨rfl, OwnT.nil (α := BlkM) _ _ _⟩
    ·refine .inl ?_
     rw [Own.upd_ne e0]
     by_cases e8 : k = (8, 0)
     ·subst e8; exact hk
     ·rw [Own.upd_ne e8]
      unfold frame0 at hk; rw [if_neg e8] at hk
      split at hk
      ·exact hk
      ·cases hk
 have w2 : Mk s M vs W h2 o2 m0 := ⟨w2, hs, .slice none 0 0, .slice none 0 0, [], by rw [ho2, hm0]; rfl, by rw [ho2, hm0]; rfl, by rw [ho2]; rfl, by rw [hm0]; rfl, fun i hi => by rw [hm0] at hi; simp at hi, fun i hi => by rw [hm0] at hi; simp at hi, fun i hi => by rw [hm0] at hi; simp at hi⟩
 have f2 : ∀ k : Key, 3 ≤ k.1 → o2 k = frame0 R o0 k := fun k hk => by
  rw [ho2]
  dsimp only
  rw [if_neg (by rintro rfl; simp at hk), if_neg (by rintro rfl; simp at hk), if_neg (by rintro rfl; simp at hk)]
 clear w1 hbx hbg hle2 q1 ho2
 rw [hz]; clear hz z
 refine lwp_hide fun z hz => ?_
 simp
 refine call_to (by kernel_rfl) (w2.take (by rw [hm0]; decide) (n := 5) (by decide) (by decide)) ?_
 rintro _ h3 ⟨rfl, o3, w3, f3⟩
 have tv := takeV_rng (s := s) (at_ := m0.at_) (n := 5) (by decide)
 obtain ⟨vb, vl, lb, bb⟩ := w3.box
 refine w3.own.do_cell (k := (0, 0)) (n := 5) (i := 2) (e := T.ref03_maker) (B := M) (l := mkL vs m0.took.at_ m0.took.ps vb m0.took.next vl) bb.box (by decide) (by kernel_rfl) rfl rfl rfl fun h4 w4 _ => ?_
 have b4 := bb.boxed ⟨m0.took.at_, takeV s m0.at_ 5, m0.took.blocks, m0.took.next, m0.took.live⟩ rfl rfl
 rw [hz]; clear hz z
 refine lwp_hide fun z hz => ?_
 have w4 : Mk s M vs W h4 _ _ := ⟨w4, w3.src, vb, vl, lb, b4⟩
 have rd := w4.reads b4
 simp [rd.ps]
 refine w4.own.do_cell (k := (0, 0)) (n := 5) (i := 4) (e := T.ref03_maker) (B := M) (l := mkL vs m0.took.at_ (takeV s m0.at_ 5) vb m0.took.next vl) b4.box (by decide) (by kernel_rfl) rfl rfl rfl fun h5 w5 _ => ?_
 have b5 := b4.boxed ⟨m0.took.at_, takeV s m0.at_ 5, m0.took.blocks, takeV s m0.at_ 5, m0.took.live⟩ rfl rfl
 have w5 : Mk s M vs W h5 _ _ := ⟨w5, w3.src, vb, vl, lb, b5⟩
 obtain ⟨o5, ho5⟩ : ∃ o5, o5 = (o3.upd (0, 0) (bx T.ref03_maker M (RawN.mk (n := 5) (mkL vs m0.took.at_ (takeV s m0.at_ 5) vb m0.took.next vl)))).upd (0, 0) (bx T.ref03_maker M (RawN.mk (n := 5) (mkL vs m0.took.at_ (takeV s m0.at_ 5) vb (takeV s m0.at_ 5) vl))) := ⟨_, rfl⟩
 have f5 : ∀ k : Key, 3 ≤ k.1 → o5 k = frame0 R o0 k := fun k hk => by
  rw [ho5, Own.upd_ne (by rintro rfl; simp at hk), Own.upd_ne (by rintro rfl; simp at hk), f3 k hk, f2 k hk]
 rw [hm0] at w5
 have w5 : Mk s M vs W h5 o5 ⟨1, takeV s 0 5, [], takeV s 0 5, []⟩ := by rw [ho5, hm0]; exact w5
 clear b5 b4 rd w4 bb w3 f3 w2 f2 ho5 hvs
 rw [hz]; clear hz z
 refine lwp_hide fun z hz => ?_
 simp
 refine call_to (by kernel_rfl) (w5.take (show 1 ≤ _ by omega) (n := 9) (by decide) (by decide)) ?_
 rintro _ h6 ⟨rfl, o6, w6, f6⟩
 have w6 : Mk s M vs W h6 o6 (made0 s) := w6
 have f6 : ∀ k : Key, 3 ≤ k.1 → o6 k = frame0 R o0 k := fun k hk => (f6 k hk).trans (f5 k hk)
 clear w5 f5
 have hN := madeN_int (s := s)
 obtain ⟨n1, n2⟩ := madeN_rng (s := s)
 have hw : IntKind.i64.wrap (1 + takeV s 1 9) = (madeN s : Nat) := by rw [hN]; exact wrap64_id (by omega) (by omega)
 simp [hw]
 rw [hz]; clear hz z
 refine lwp_hide fun z hz => ?_
 simp
 refine call_to (by kernel_rfl) (targets_ok (ri := frame0 R o0) w6 (fun k hk => f6 k (by omega)) (fun k h1 h2 => (f6 k h1).trans (by unfold frame0; rw [if_neg (by rintro rfl; simp at h2), if_neg (by omega)])) (n := madeN s) made0_ok (by omega) n1 (by omega)) ?_
 rintro vt h7 ⟨W7, o7, g7, w7, r7, e7, st⟩
 have w7 : Mk s M vs W7 h7 o7 (made1 s).2 := w7
 have st : SlRd W7 vt (made1 s).1 := st
 have f7 : ∀ k : Key, 3 ≤ k.1 → o7 k = frame0 R o0 k := fun k hk => by
  by_cases e : 8 ≤ k.1
  ·exact r7 k e
  ·rw [e7 k hk (by omega)]; unfold frame0; rw [if_neg (by rintro rfl; simp at e), if_neg (by omega)]
 clear r7 e7 w6 f6
 have k1 := made1_k (s := s)
 have s4 := made1_same (s := s)
 rw [hz]; clear hz z
 refine lwp_hide fun z hz => ?_
 simp
 refine do_make (α := BlkM) (W := W7) (k := .i64) (n := madeN s) (d := ⟨⟨.slice none 0 0⟩, ⟨.slice none 0 0⟩, ⟨0, [], [], ⟨0⟩⟩⟩) El.s_api_Block (by rfl) (by rfl) ⟨[.slice none 0 0], _, rfl, ⟨rfl, rfl⟩, [.slice none 0 0], _, rfl, ⟨rfl, rfl⟩, [.int .i64 0], _, rfl, ⟨rfl, by decide, by decide⟩, [.slice none 0 0], _, rfl, ⟨_, rfl, nil_sl⟩, [.slice none 0 0], _, rfl, ⟨_, rfl, nil_sl⟩, rfl, by decide, by decide⟩ (by omega) (by omega) fun vb8 h8 ob8 m8 hle8 hb8 => ?_
 obtain ⟨vb, vl, lb, bb⟩ := w7.box
 have wa := w7.own.sub (o' := o7.upd (0, 2) none) fun j i hj => by
  unfold Own.upd at hj
  split at hj
  ·cases hj
  ·exact hj
 have wb := wa.add (k := (0, 2)) Own.upd_self ob8 hle8 (fun b hb => by rw [hb8] at hb; cases hb; exact Nat.le_refl _)
 have hv8 := (wb.cells (k := (0, 2)) Own.upd_self).2
 obtain ⟨o8, ho8⟩ : ∃ o8 : Own, o8 = fun k => if k.1 = 1 ∧ k.2 < madeN s then it T.api_Phi (.slice none 0 0) ([] : List PhiD) else if k.1 = 2 ∧ k.2 < madeN s then it T.api_Ins (.slice none 0 0) ([] : List InsD) else o7.upd (0, 2) (it T.api_Block vb8 (List.replicate (madeN s) (BlkM.mk ⟨.slice none 0 0⟩ ⟨.slice none 0 0⟩ ⟨0, [], [], ⟨0⟩⟩))) k := ⟨_, rfl⟩
 have w8 : Owns W7 h8 o8 := wb.nils fun k i hk => by
  rw [ho8] at hk
  dsimp only at hk
  split at hk
  ·cases hk; exact .inr ⟨rfl, OwnT.nil (α := PhiD) _ _ _⟩
  ·split at hk
   ·cases hk; exact .inr ⟨rfl, OwnT.nil (α := InsD) _ _ _⟩
   ·refine .inl ?_
    by_cases e : k = (0, 2)
    ·subst e; rw [Own.upd_self] at hk ⊢; exact hk
    ·rw [Own.upd_ne e] at hk; rw [Own.upd_ne e, Own.upd_ne e]; exact hk
 have c8 : ∀ k : Key, ¬ (k.1 = 1 ∧ k.2 < madeN s) → ¬ (k.1 = 2 ∧ k.2 < madeN s) → o8 k = o7.upd (0, 2) (it T.api_Block vb8 (List.replicate (madeN s) (BlkM.mk ⟨.slice none 0 0⟩ ⟨.slice none 0 0⟩ ⟨0, [], [], ⟨0⟩⟩))) k := fun k h1 h2 => by
  rw [ho8]; dsimp only; rw [if_neg h1, if_neg h2]
 refine w8.do_cell (k := (0, 0)) (n := 5) (i := 3) (e := T.ref03_maker) (B := M) (l := mkL vs (made1 s).2.at_ (made1 s).2.ps vb (made1 s).2.next vl) (by rw [c8 _ (by simp) (by simp), Own.upd_ne (by simp)]; exact bb.box) (by decide) (by kernel_rfl) rfl rfl hv8 fun h9 w9 _ => ?_
 obtain ⟨o9, ho9⟩ : ∃ o9 : Own, o9 = o8.upd (0, 0) (bx T.ref03_maker M (RawN.mk (n := 5) (mkL vs (made1 s).2.at_ (made1 s).2.ps vb8 (made1 s).2.next vl))) := ⟨_, rfl⟩
 have w9 : Owns W7 h9 o9 := by rw [ho9]; exact w9
 have b9 : MkB M vs { (made1 s).2 with blocks := List.replicate (madeN s) zeroB } o9 vb8 vl (List.replicate (madeN s) (BlkM.mk ⟨.slice none 0 0⟩ ⟨.slice none 0 0⟩ ⟨0, [], [], ⟨0⟩⟩)) := by
  rw [ho9]
  refine ⟨rfl, ?_, ?_, by simp, fun i hi => ?_, fun i hi => ?_, fun i hi => ?_⟩
  ·rw [Own.upd_ne (by simp), c8 _ (by simp) (by simp), Own.upd_ne (by simp)]; exact bb.live
  ·rw [Own.upd_ne (by simp), c8 _ (by simp) (by simp), Own.upd_self]
  ·have hi : i < madeN s := by simpa using hi
   rw [nth_replicate hi, nth_replicate hi]; rfl
  ·have hi : i < madeN s := by simpa using hi
   rw [Own.upd_ne (by simp), ho8]; dsimp only
   rw [if_pos ⟨rfl, hi⟩, nth_replicate hi, nth_replicate hi]; rfl
  ·have hi : i < madeN s := by simpa using hi
   rw [Own.upd_ne (by simp), ho8]; dsimp only
   rw [if_neg (by simp), if_pos ⟨rfl, hi⟩, nth_replicate hi, nth_replicate hi]; rfl
 have x9 : Nx s M vs W7 h9 (frame0 R o0) { (made1 s).2 with blocks := List.replicate (madeN s) zeroB } := ⟨W7, o9, View.le_refl _, ⟨w9, w7.src, vb8, vl, _, b9⟩, fun k hk => by
  rw [ho9, Own.upd_ne (by rintro rfl; simp at hk), c8 _ (by omega) (by omega), Own.upd_ne (by rintro rfl; simp at hk)]; exact f7 k hk⟩
 clear b9 w9 ho9 c8 w8 ho8 wb wa hv8 bb ob8 m8 hle8 hb8 w7 f7
 rw [hz]; clear hz z
 refine lwp_hide fun z hz => ?_
 refine lwp_hide fun y hy => ?_
 simp
 rw [hy]; clear hy y
 refine made_l1 (vr := .pointer (some ⟨R, 0, none⟩)) st k1.len x9 (by simp) (by omega) (by simp [keepE, look_setE, look_kill]) fun h10 x10 => ?_
 have x10 : Nx s M vs W7 h10 (frame0 R o0) (made2 s) := x10
 clear x9
 simp
 rw [hz]; clear hz z
 refine lwp_hide fun z hz => ?_
 simp
 obtain ⟨Wa, oa, ga, wa, fa⟩ := x10
 refine do_make (α := Int) (W := Wa) (k := .i64) (n := madeN s) (d := 0) El.s_int (by rfl) (by rfl) ⟨rfl, by decide, by decide⟩ (by omega) (by omega) fun vp h11 ob11 m11 hle11 hb11 => ?_
 have x11 : Nx s M vs W7 h11 ((frame0 R o0).upd (5, 0) (it T.int vp (List.replicate (madeN s) (0 : Int)))) (made2 s) := by
  have w11 := wa.own.add (k := (5, 0)) ((fa _ (by decide)).trans rfl) ob11 hle11 (fun b hb => by rw [hb11] at hb; cases hb; exact Nat.le_refl _)
  obtain ⟨vb, vl, lb, bb⟩ := wa.box
  refine ⟨Wa, _, ga, ⟨w11, wa.src, vb, vl, lb, bb.frame fun q hq => Own.upd_ne (by rintro rfl; simp at hq)⟩, fun q hq => ?_⟩
  unfold Own.upd
  split
  ·rfl
  ·exact fa q hq
 clear wa fa ob11 m11 hb11
 rw [hz]; clear hz z
 refine lwp_hide fun z hz => ?_
 refine lwp_hide fun y hy => ?_
 simp
 rw [hy]; clear hy y
 obtain ⟨z2, g2⟩ := made2_ok (s := s)
 have p0 : Ph (madeN s) 200 0 (List.replicate (madeN s) (0 : Int), made2 s) := by
  have hz : ∀ j, nth (List.replicate (madeN s) (0 : Int)) j = 0 := fun j => by
   rcases Nat.lt_or_ge j (madeN s) with hj | hj
   ·rw [nth_replicate hj]
   ·rw [nth_ge (by simpa using hj)]; rfl
  exact ⟨z2, by simp, fun j _ => hz j, fun j => by show 0 ≤ nth (List.replicate _ (0 : Int)) j ∧ nth (List.replicate _ (0 : Int)) j ≤ 3; rw [hz]; omega⟩
 refine made_l2 (x0 := (List.replicate (madeN s) (0 : Int), made2 s)) (vr := .pointer (some ⟨R, 0, none⟩)) (vt := vt) (vp := vp) x11 p0 n1 (by omega) (by omega) (by simp [keepE, look_setE, look_kill]) fun h12 x12 => ?_
 have x12 : Nx s M vs W7 h12 ((frame0 R o0).upd (5, 0) (it T.int vp (made3 s).1)) (made3 s).2 := x12
 obtain ⟨ph, pc, g3⟩ := made3_ok (s := s)
 clear p0 x11 z2 g2
 simp
 rw [hz]; clear hz z
 refine lwp_hide fun z hz => ?_
 simp
 obtain ⟨Wa, oa, ga, wa, fa⟩ := x12
 refine do_make (α := Bool) (W := Wa) (k := .i64) (n := madeN s) (d := false) El.s_bool (by rfl) (by rfl) rfl (by omega) (by omega) fun vd h13 ob13 m13 hle13 hb13 => ?_
 have x13 : Nx s M vs W7 h13 (((frame0 R o0).upd (5, 0) (it T.int vp (made3 s).1)).upd (6, 0) (it T.bool vd (List.replicate (madeN s) false))) (made3 s).2 := by
  have w13 := wa.own.add (k := (6, 0)) ((fa _ (by decide)).trans rfl) ob13 hle13 (fun b hb => by rw [hb13] at hb; cases hb; exact Nat.le_refl _)
  obtain ⟨vb, vl, lb, bb⟩ := wa.box
  refine ⟨Wa, _, ga, ⟨w13, wa.src, vb, vl, lb, bb.frame fun q hq => Own.upd_ne (by rintro rfl; simp at hq)⟩, fun q hq => ?_⟩
  unfold Own.upd
  split
  ·rfl
  ·exact fa q hq
 clear wa fa ob13 m13 hb13
 rw [hz]; clear hz z
 refine lwp_hide fun z hz => ?_
 refine lwp_hide fun y hy => ?_
 simp
 rw [hy]; clear hy y
 refine made_l4 (a := 16000) (p := 27) (x0 := (List.replicate (madeN s) false, (made3 s).2)) (vr := .pointer (some ⟨R, 0, none⟩)) (vp := vp) x13 st k1.len rfl rfl rfl made3_b2 n2 (by omega) (by omega) (by omega) (by simp [keepE, look_setE, look_kill]) fun h14 x14 => ?_
 have x14 : Nx s M vs W7 h14 (((frame0 R o0).upd (5, 0) (it T.int vp (made3 s).1)).upd (6, 0) (it T.bool vd (made4 s).1)) (made4 s).2 := x14
 obtain ⟨q4, pc4⟩ := made4_ok (s := s)
 clear x13 pc g3
 simp
 rw [hz]; clear hz z
 refine lwp_hide fun z hz => ?_
 refine lwp_hide fun y hy => ?_
 simp
 rw [hy]; clear hy y
 refine made_l13 (vr := .pointer (some ⟨R, 0, none⟩)) (vt := vt) (vp := vp) (vd := vd) (lp := (made3 s).1) x14 ((Own.upd_ne (by simp)).trans Own.upd_self) rfl rfl q4 pc4 ph.len ph.rng n1 n2 (by omega) (by omega) (by omega) (by omega) (by simp [keepE, look_setE, look_kill]) fun h15 x15 => ?_
 have x15 : Nx s M vs W7 h15 (((frame0 R o0).upd (5, 0) (it T.int vp (made3 s).1)).upd (6, 0) (it T.bool vd (made4 s).1)) (made5 s) := x15
 have q5 := made5_ok (s := s)
 clear x14 q4 pc4 ph
 simp
 rw [hz]; clear hz z
 refine lwp_hide fun z hz => ?_
 obtain ⟨Wa, oa, ga, wa, fa⟩ := x15
 obtain ⟨vb, vl, lb, bb⟩ := wa.box
 have rd := wa.reads bb
 simp [rd.f]
 have hvb : vb.oneCell' = true := rd.blk.cells.2
 refine wa.own.do_field (k := (8, 0)) (α := RawN 1) (β := RawN 1) Part.all (B := R) (D := RawN.mk (n := 1) [.int .i64 0, .slice none 0 0]) (d := RawN.mk (n := 1) [.int .i64 (made5 s).ps, vb]) ((fa _ (by decide)).trans rfl) (by kernel_rfl) rfl rfl (rd_rawN rfl (by intro c hc; simp only [List.mem_cons, List.not_mem_nil, or_false] at hc; rcases hc with rfl | rfl <;> first | rfl | exact hvb)) fun h16 w16 _ => ?_
 have c16 := w16.rawAll (k := (8, 0)) (n := 1) (l := [.int .i64 (made5 s).ps, vb]) Own.upd_self
 have c16 : Un.ev (vw h16) (.loads 2) (.pointer (some ⟨R, 0, none⟩)) = some (.agg #[.int .i64 (made5 s).ps, vb]) := c16
 have b16 := bb.frame (o' := oa.upd (8, 0) (bx T.api_Func R (RawN.mk (n := 1) [.int .i64 (made5 s).ps, vb]))) fun q hq => Own.upd_ne (by rintro rfl; simp at hq)
 have w16 : Mk s M vs Wa h16 _ (made5 s) := ⟨w16, wa.src, vb, vl, lb, b16⟩
 have rd16 := w16.reads b16
 rw [hz]; clear hz z
 simp [c16]
 obtain ⟨W17, hW17, w17, fr⟩ := w16.own.freezeAll (fun k => decide (k.1 < 10))
 have w18 := w17.sub (o' := o0) fun k i hk => by
  rcases Nat.lt_or_ge k.1 10 with e | e
  ·rw [ho0 k e] at hk; cases hk
  ·have h1 : oa k = o0 k := (fa k (by omega)).trans (by
    rw [Own.upd_ne (by rintro rfl; simp at e), Own.upd_ne (by rintro rfl; simp at e)]
    unfold frame0; rw [if_neg (by rintro rfl; simp at e), if_pos e])
   have h2 : ¬ k.1 < 10 := by omega
   simp only [h2, decide_false, Bool.false_eq_true, if_false]
   rw [Own.upd_ne (by rintro rfl; simp at e), h1]; exact hk
 have sbl : SlRd W17 vb (made5 s).blocks := by
  refine sl_conv (fr (k := (0, 2)) (by simp) b16.blk) rfl b16.len fun i h1 h2 cs hr => ?_
  have := blkM_blk hr (p := (nth (made5 s).blocks i).phis) (i := (nth (made5 s).blocks i).ins) (by have := fr (k := (1, i)) (by simp) (b16.phis i h2); rwa [nth_eq h1] at this) (by have := fr (k := (2, i)) (by simp) (b16.ins i h2); rwa [nth_eq h1] at this)
  have ht := b16.term i h2
  rw [nth_eq h1] at ht
  rw [ht] at this
  rw [← nth_eq h2]
  exact this
 exact hK _ _ ⟨W17, View.le_trans g7 (View.le_trans ga hW17), w18, ⟨_, rfl, [.int .i64 (made5 s).ps], [vb], rfl, ⟨rfl, i64ps q5.z⟩, vb, rfl, sbl⟩⟩
end Go.Proofs.Ytfelpjfopgiabaa
namespace Go.Lft
open Go
variable {po : OP}
theorem do_sliceA {P : Program} {t ty e : TypeId} {us : List (Nat × Value)} {h : Heap} {K : Value → Heap → Prop} {x : Operand} {B n sz : Nat} (ht : P.underlying t = some (.array n e)) (hz : sizeB P e = some sz) (hx : asg us x = .pointer (some ⟨B, 0, none⟩)) (hk : K (.slice (some ⟨B, 0, none⟩) n n) h) : step P (.slice t x none none none) ty us h K := by
 refine step_of (runs_value fun w hw => ⟨.slice (some ⟨B, 0, none⟩) n n, w, ?_, Same.refl _, by rw [hw]; exact hk⟩)
 have e3 := run_sizeOf (w := w) hz
 simp only [loudSem, execOp, hx]
 simp [Instr.sliceAt, Instr.sureAddr, run_underlying ht, Instr.sliceBounds, e3, Addr.add]
end Go.Lft
namespace Go.Proofs.Ytfelpjfopgiabaa
open Go Go.Lft
structure TB (c : Nat) (x : BlkD) : Prop where
 phis : x.phis.length ≤ c
 ins : x.ins.length ≤ c
 args : x.term.args.length ≤ c
 to : x.term.to.length ≤ c
 pin : ∀ p ∈ x.phis, p.ins.length ≤ c
 iar : ∀ i ∈ x.ins, i.args.length ≤ c
structure TF (c : Nat) (f : FuncD) : Prop where
 len : f.blocks.length ≤ 1000
 blk : ∀ x ∈ f.blocks, TB c x
theorem TB.mono {c d : Nat} {x : BlkD} (t : TB c x) (h : c ≤ d) : TB d x := ⟨Nat.le_trans t.phis h, Nat.le_trans t.ins h, Nat.le_trans t.args h, Nat.le_trans t.to h, fun p hp => Nat.le_trans (t.pin p hp) h, fun i hi => Nat.le_trans (t.iar i hi) h⟩
theorem TF.mono {c d : Nat} {f : FuncD} (t : TF c f) (h : c ≤ d) : TF d f := ⟨t.len, fun x hx => (t.blk x hx).mono h⟩
theorem TF.sm {c : Nat} {f : FuncD} (t : TF c f) (h : c ≤ 10000) : SmF f := by
 refine ⟨by have := t.len; omega, fun i hi => ?_⟩
 have q := t.blk _ (nth_mem hi)
 exact ⟨by have := q.phis; omega, by have := q.ins; omega, by have := q.args; omega, by have := q.to; omega, fun k hk => by have := q.pin _ (nth_mem hk); omega, fun k hk => by have := q.iar _ (nth_mem hk); omega⟩
theorem make_tf {s : List Int} : TF 1000 (makeS s) := by
 have q := made5_ok (s := s)
 have hn := madeN_rng (s := s)
 refine ⟨by show (made5 s).blocks.length ≤ _; rw [q.z.len]; omega, fun x hx => ?_⟩
 obtain ⟨j, hj, rfl⟩ := List.getElem_of_mem hx
 have hj : j < (made5 s).blocks.length := hj
 have g := q.g j hj
 have this : TB 1000 (nth (made5 s).blocks j) := ⟨by have := q.z.phis j; omega, q.z.ins j, by have := g.args; omega, g.to, g.phis, fun i hi => by have := g.ins i hi; omega⟩
 rw [nth_eq hj] at this
 exact this
structure Tu (R F X : Nat) (i10 : Own) (c : Nat) (W0 : View) (vbk : Value) (bl : List BlkD) (W : View) (o : Own) (ps : Int) (vp vi va vt : Value) (kd im : Int) (lp : List PhiD) (li : List InsD) (la lt : List Int) : Prop where
 le : W0.le W
 res : o (8, 0) = bx T.api_Func R (RawN.mk (n := 1) [.int .i64 0, .slice none 0 0])
 fn : o (8, 1) = bx T.api_Func F (RawN.mk (n := 1) [.int .i64 ps, vbk])
 blk : o (3, 0) = it T.api_Block vbk bl
 box : o (3, 1) = bx T.api_Block X (RawN.mk (n := 5) [vp, vi, .int .i64 kd, va, vt, .int .i32 im])
 ins : o (3, 2) = it T.api_Ins vi li
 phis : o (3, 3) = it T.api_Phi vp lp
 free : o (4, 0) = none
 fr : ∀ k : Key, 10 ≤ k.1 → o k = i10 k
 ra : SlRd W va la
 rt : SlRd W vt lt
 ips : I64 ps
 ikd : I64 kd
 iim : -2147483648 ≤ im ∧ im ≤ 2147483647
 tb : TB c ⟨lp, li, ⟨kd, la, lt, ⟨im⟩⟩⟩
def TuE (R F X : Nat) (i10 : Own) (c : Nat) (W0 : View) (vbk : Value) (bl : List BlkD) (h : Heap) : Prop := ∃ W o ps vp vi va vt kd im lp li la lt, Tu R F X i10 c W0 vbk bl W o ps vp vi va vt kd im lp li la lt ∧ Owns W h o
theorem TuE.mono {R F X : Nat} {i10 : Own} {c d : Nat} {W0 : View} {vbk : Value} {bl : List BlkD} {h : Heap} (t : TuE R F X i10 c W0 vbk bl h) (hd : c ≤ d) : TuE R F X i10 d W0 vbk bl h := by
 obtain ⟨W, o, ps, vp, vi, va, vt, kd, im, lp, li, la, lt, t, w⟩ := t
 exact ⟨W, o, ps, vp, vi, va, vt, kd, im, lp, li, la, lt, ⟨t.le, t.res, t.fn, t.blk, t.box, t.ins, t.phis, t.free, t.fr, t.ra, t.rt, t.ips, t.ikd, t.iim, t.tb.mono hd⟩, w⟩
section
variable {R F X c : Nat} {i10 : Own} {W0 W : View} {vbk : Value} {bl : List BlkD} {h : Heap} {o : Own} {ps : Int} {vp vi va vt : Value} {kd im : Int} {lp : List PhiD} {li : List InsD} {la lt : List Int}
theorem Tu.wider (t : Tu R F X i10 c W0 vbk bl W o ps vp vi va vt kd im lp li la lt) {W' : View} (hW : W.le W') : Tu R F X i10 c W0 vbk bl W' o ps vp vi va vt kd im lp li la lt :=
 ⟨View.le_trans t.le hW, t.res, t.fn, t.blk, t.box, t.ins, t.phis, t.free, t.fr, t.ra.mono hW, t.rt.mono hW, t.ips, t.ikd, t.iim, t.tb⟩
theorem Tu.more (t : Tu R F X i10 c W0 vbk bl W o ps vp vi va vt kd im lp li la lt) {d : Nat} (hd : c ≤ d) : Tu R F X i10 d W0 vbk bl W o ps vp vi va vt kd im lp li la lt :=
 ⟨t.le, t.res, t.fn, t.blk, t.box, t.ins, t.phis, t.free, t.fr, t.ra, t.rt, t.ips, t.ikd, t.iim, t.tb.mono hd⟩
variable {po : OP} {ty t2 : TypeId} {us : List (Nat × Value)} {x y : Operand} {K : Value → Heap → Prop}
theorem Tu.do_params (t : Tu R F X i10 c W0 vbk bl W o ps vp vi va vt kd im lp li la lt) (w : Owns W h o) {p : Int} (hp : I64 p) (hsz : sizeB Try.prog t2 = some 1) (hx : asg us x = .pointer (some ⟨F, 0, none⟩)) (hy : asg us y = .int .i64 p) (hK : ∀ h', TuE R F X i10 c W0 vbk bl h' → K undef h') : @Lft.step po Try.prog (.store t2 x y) ty us h K :=
 w.do_cell (k := (8, 1)) (n := 1) (i := 0) t.fn (by decide) hsz hx hy rfl fun h' w' _ => hK h' ⟨W, _, p, vp, vi, va, vt, kd, im, lp, li, la, lt, ⟨t.le, (Own.upd_ne (by simp)).trans t.res, Own.upd_self, (Own.upd_ne (by simp)).trans t.blk, (Own.upd_ne (by simp)).trans t.box, (Own.upd_ne (by simp)).trans t.ins, (Own.upd_ne (by simp)).trans t.phis, (Own.upd_ne (by simp)).trans t.free, fun k hk => (Own.upd_ne (by rintro rfl; simp at hk)).trans (t.fr k hk), t.ra, t.rt, hp, t.ikd, t.iim, t.tb⟩, w'⟩
theorem Tu.do_kind (t : Tu R F X i10 c W0 vbk bl W o ps vp vi va vt kd im lp li la lt) (w : Owns W h o) {p : Int} (hp : I64 p) (hsz : sizeB Try.prog t2 = some 1) (hx : asg us x = .pointer (some ⟨X, 2, none⟩)) (hy : asg us y = .int .i64 p) (hK : ∀ h', TuE R F X i10 c W0 vbk bl h' → K undef h') : @Lft.step po Try.prog (.store t2 x y) ty us h K :=
 w.do_cell (k := (3, 1)) (n := 5) (i := 2) t.box (by decide) hsz hx hy rfl fun h' w' _ => hK h' ⟨W, _, ps, vp, vi, va, vt, p, im, lp, li, la, lt, ⟨t.le, (Own.upd_ne (by simp)).trans t.res, (Own.upd_ne (by simp)).trans t.fn, (Own.upd_ne (by simp)).trans t.blk, Own.upd_self, (Own.upd_ne (by simp)).trans t.ins, (Own.upd_ne (by simp)).trans t.phis, (Own.upd_ne (by simp)).trans t.free, fun k hk => (Own.upd_ne (by rintro rfl; simp at hk)).trans (t.fr k hk), t.ra, t.rt, t.ips, hp, t.iim, ⟨t.tb.phis, t.tb.ins, t.tb.args, t.tb.to, t.tb.pin, t.tb.iar⟩⟩, w'⟩
theorem Tu.do_to (t : Tu R F X i10 c W0 vbk bl W o ps vp vi va vt kd im lp li la lt) (w : Owns W h o) {v : Value} {l : List Int} (hv : SlRd W v l) (hl : l.length ≤ c) (hsz : sizeB Try.prog t2 = some 1) (hx : asg us x = .pointer (some ⟨X, 4, none⟩)) (hy : asg us y = v) (hK : ∀ h', TuE R F X i10 c W0 vbk bl h' → K undef h') : @Lft.step po Try.prog (.store t2 x y) ty us h K :=
 w.do_cell (k := (3, 1)) (n := 5) (i := 4) t.box (by decide) hsz hx hy hv.cells.2 fun h' w' _ => hK h' ⟨W, _, ps, vp, vi, va, v, kd, im, lp, li, la, l, ⟨t.le, (Own.upd_ne (by simp)).trans t.res, (Own.upd_ne (by simp)).trans t.fn, (Own.upd_ne (by simp)).trans t.blk, Own.upd_self, (Own.upd_ne (by simp)).trans t.ins, (Own.upd_ne (by simp)).trans t.phis, (Own.upd_ne (by simp)).trans t.free, fun k hk => (Own.upd_ne (by rintro rfl; simp at hk)).trans (t.fr k hk), t.ra, hv, t.ips, t.ikd, t.iim, ⟨t.tb.phis, t.tb.ins, t.tb.args, hl, t.tb.pin, t.tb.iar⟩⟩, w'⟩
theorem Tu.do_ins {β : Type} [Rep β] {off : Nat} {g : InsD → β} {s : InsD → β → InsD} (p : Part InsD β off g s) (t : Tu R F X i10 c W0 vbk bl W o ps vp vi va vt kd im lp li la lt) (w : Owns W h o) {j : Nat} {v : Value} {d : β} (hj : j < li.length) (hr : Rd W v d) (hs : (s li[j] d).args.length ≤ c) (hsz : sizeB Try.prog t2 = some (Rep.n β)) (hx : asg us x = .pointer (some (((slA vi).add (j * 5)).add off))) (hy : asg us y = v) (hK : ∀ h', TuE R F X i10 c W0 vbk bl h' → K undef h') : @Lft.step po Try.prog (.store t2 x y) ty us h K :=
 w.do_part (k := (3, 2)) (α := InsD) p (v := vi) (l := li) (i := j) t.ins hsz hx hy hj hr fun h' w' _ => hK h' ⟨W, _, ps, vp, vi, va, vt, kd, im, lp, li.set j (s li[j] d), la, lt, ⟨t.le, (Own.upd_ne (by simp)).trans t.res, (Own.upd_ne (by simp)).trans t.fn, (Own.upd_ne (by simp)).trans t.blk, (Own.upd_ne (by simp)).trans t.box, Own.upd_self, (Own.upd_ne (by simp)).trans t.phis, (Own.upd_ne (by simp)).trans t.free, fun k hk => (Own.upd_ne (by rintro rfl; simp at hk)).trans (t.fr k hk), t.ra, t.rt, t.ips, t.ikd, t.iim, ⟨t.tb.phis, by rw [List.length_set]; exact t.tb.ins, t.tb.args, t.tb.to, t.tb.pin, fun i hi => by
   rcases List.mem_or_eq_of_mem_set hi with q | q
   ·exact t.tb.iar i q
   ·rw [q]; exact hs⟩⟩, w'⟩
theorem Tu.do_phi (t : Tu R F X i10 c W0 vbk bl W o ps vp vi va vt kd im lp li la lt) (w : Owns W h o) {j : Nat} {v : Value} {d : List InD} (hj : j < lp.length) (hr : SlRd W v d) (hs : d.length ≤ c) (hsz : sizeB Try.prog t2 = some 1) (hx : asg us x = .pointer (some (((slA vp).add (j * 2)).add 1))) (hy : asg us y = v) (hK : ∀ h', TuE R F X i10 c W0 vbk bl h' → K undef h') : @Lft.step po Try.prog (.store t2 x y) ty us h K :=
 w.do_part (k := (3, 3)) (α := PhiD) PhiD.p_ins (v := vp) (l := lp) (i := j) t.phis hsz hx hy hj (rd_list.2 hr) fun h' w' _ => hK h' ⟨W, _, ps, vp, vi, va, vt, kd, im, lp.set j { lp[j] with ins := d }, li, la, lt, ⟨t.le, (Own.upd_ne (by simp)).trans t.res, (Own.upd_ne (by simp)).trans t.fn, (Own.upd_ne (by simp)).trans t.blk, (Own.upd_ne (by simp)).trans t.box, (Own.upd_ne (by simp)).trans t.ins, Own.upd_self, (Own.upd_ne (by simp)).trans t.free, fun k hk => (Own.upd_ne (by rintro rfl; simp at hk)).trans (t.fr k hk), t.ra, t.rt, t.ips, t.ikd, t.iim, ⟨by rw [List.length_set]; exact t.tb.phis, t.tb.ins, t.tb.args, t.tb.to, fun i hi => by
   rcases List.mem_or_eq_of_mem_set hi with q | q
   ·exact t.tb.pin i q
   ·rw [q]; exact hs, t.tb.iar⟩⟩, w'⟩
theorem Tu.do_insV (t : Tu R F X i10 c W0 vbk bl W o ps vp vi va vt kd im lp li la lt) {v : Value} {l : List InsD} (w : Owns W h (o.upd (3, 2) (it T.api_Ins v l))) (hl : l.length ≤ c) (ha : ∀ i ∈ l, i.args.length ≤ c) (hsz : sizeB Try.prog t2 = some 1) (hx : asg us x = .pointer (some ⟨X, 1, none⟩)) (hy : asg us y = v) (hK : ∀ h', TuE R F X i10 c W0 vbk bl h' → K undef h') : @Lft.step po Try.prog (.store t2 x y) ty us h K :=
 w.do_cell (k := (3, 1)) (n := 5) (i := 1) ((Own.upd_ne (by simp)).trans t.box) (by decide) hsz hx hy (w.cells (k := (3, 2)) Own.upd_self).2 fun h' w' _ => hK h' ⟨W, _, ps, vp, v, va, vt, kd, im, lp, l, la, lt, ⟨t.le, (Own.upd_ne (by simp)).trans ((Own.upd_ne (by simp)).trans t.res), (Own.upd_ne (by simp)).trans ((Own.upd_ne (by simp)).trans t.fn), (Own.upd_ne (by simp)).trans ((Own.upd_ne (by simp)).trans t.blk), Own.upd_self, (Own.upd_ne (by simp)).trans Own.upd_self, (Own.upd_ne (by simp)).trans ((Own.upd_ne (by simp)).trans t.phis), (Own.upd_ne (by simp)).trans ((Own.upd_ne (by simp)).trans t.free), fun k hk => (Own.upd_ne (by rintro rfl; simp at hk)).trans ((Own.upd_ne (by rintro rfl; simp at hk)).trans (t.fr k hk)), t.ra, t.rt, t.ips, t.ikd, t.iim, ⟨t.tb.phis, hl, t.tb.args, t.tb.to, t.tb.pin, ha⟩⟩, w'⟩
theorem Tu.do_phiV (t : Tu R F X i10 c W0 vbk bl W o ps vp vi va vt kd im lp li la lt) {v : Value} {l : List PhiD} (w : Owns W h (o.upd (3, 3) (it T.api_Phi v l))) (hl : l.length ≤ c) (ha : ∀ i ∈ l, i.ins.length ≤ c) (hsz : sizeB Try.prog t2 = some 1) (hx : asg us x = .pointer (some ⟨X, 0, none⟩)) (hy : asg us y = v) (hK : ∀ h', TuE R F X i10 c W0 vbk bl h' → K undef h') : @Lft.step po Try.prog (.store t2 x y) ty us h K :=
 w.do_cell (k := (3, 1)) (n := 5) (i := 0) ((Own.upd_ne (by simp)).trans t.box) (by decide) hsz hx hy (w.cells (k := (3, 3)) Own.upd_self).2 fun h' w' _ => hK h' ⟨W, _, ps, v, vi, va, vt, kd, im, l, li, la, lt, ⟨t.le, (Own.upd_ne (by simp)).trans ((Own.upd_ne (by simp)).trans t.res), (Own.upd_ne (by simp)).trans ((Own.upd_ne (by simp)).trans t.fn), (Own.upd_ne (by simp)).trans ((Own.upd_ne (by simp)).trans t.blk), Own.upd_self, (Own.upd_ne (by simp)).trans ((Own.upd_ne (by simp)).trans t.ins), (Own.upd_ne (by simp)).trans Own.upd_self, (Own.upd_ne (by simp)).trans ((Own.upd_ne (by simp)).trans t.free), fun k hk => (Own.upd_ne (by rintro rfl; simp at hk)).trans ((Own.upd_ne (by rintro rfl; simp at hk)).trans (t.fr k hk)), t.ra, t.rt, t.ips, t.ikd, t.iim, ⟨hl, t.tb.ins, t.tb.args, t.tb.to, ha, t.tb.iar⟩⟩, w'⟩
end
theorem blk_val {H : View} {u : Value} {d : BlkD} (h : Rd H u d) : ∃ vp vi va vt, u = .agg #[vp, vi, .int .i64 d.term.kind, va, vt, .int .i32 d.term.imm.v] ∧ SlRd H vp d.phis ∧ SlRd H vi d.ins ∧ SlRd H va d.term.args ∧ SlRd H vt d.term.to ∧ I64 d.term.kind ∧ -2147483648 ≤ d.term.imm.v ∧ d.term.imm.v ≤ 2147483647 := by
 obtain ⟨cs, rfl, c1, r1, e1, ⟨vp, rfl, h1⟩, c2, r2, e2, ⟨vi, rfl, h2⟩, c3, r3, e3, ⟨rfl, h3⟩, c4, r4, e4, ⟨va, rfl, h4⟩, c5, r5, e5, ⟨vt, rfl, h5⟩, h6, h7⟩ := h
 subst e5 e4 e3 e2
 have he : cs.toList = [vp, vi, .int .i64 d.term.kind, va, vt, .int .i32 d.term.imm.v] := by rw [e1, h6]; rfl
 refine ⟨vp, vi, va, vt, ?_, h1, h2, h4, h5, h3, h7⟩
 rw [← Array.toList_inj.1 (he.trans rfl : cs.toList = #[vp, vi, Value.int .i64 d.term.kind, va, vt, .int .i32 d.term.imm.v].toList)]
theorem Owns.elW {W : View} {h : Heap} {o : Own} {k : Key} {α : Type} [r : Rep α] {e : TypeId} {v : Value} {l : List α} (w : Owns W h o) (hk : o k = it e v l) {i : Nat} (hi : i < l.length) : ∃ cs, cellsAt (vw h) ((slA v).add (i * Rep.n α)) cs ∧ cs.length = Rep.n α ∧ Rep.rd W cs l[i] := by
 obtain ⟨hb, xs, ⟨hl, hown⟩, hel⟩ := w.get hk
 have h0 := hel i hi
 have hle : i * Rep.n α + Rep.n α ≤ l.length * Rep.n α := by rw [← Nat.succ_mul]; exact Nat.mul_le_mul_right _ hi
 have hcl : ((xs.drop (i * Rep.n α)).take (Rep.n α)).length = Rep.n α := by simp; omega
 rcases hown with ⟨rfl, hn⟩ | ⟨g, cap, cur, rfl, h2, h3, h4, h5, h6⟩
 ·omega
 ·have hadd : (slA (.slice (some ⟨g, 0, none⟩) l.length cap)).add (i * Rep.n α) = ⟨g, i * Rep.n α, none⟩ := by
   show (⟨g, 0, none⟩ : Addr).add _ = _
   simp [Addr.z]
  rw [hadd]
  refine ⟨_, ⟨cur, e, (0, 0), rfl, h2, ?_⟩, hcl, h0⟩
  rw [hcl, ← h6, List.drop_take, List.take_take, Nat.min_eq_left (by omega)]
theorem Owns.ldW {W : View} {h : Heap} {o : Own} {k : Key} {α : Type} [r : Rep α] {e : TypeId} {v : Value} {l : List α} (w : Owns W h o) (hk : o k = it e v l) (ha : Rep.agg α = true) {N : Nat} (hn : Rep.n α = N) {i : Nat} (hi : i < l.length) : ∃ u, Un.ev (vw h) (.loads N) (.pointer (some ((slA v).add (i * N)))) = some u ∧ Rd W u l[i] := by
 subst hn
 obtain ⟨cs, h1, h2, h3⟩ := Owns.elW w hk hi
 have := cellsFrom_at h1 cs.length 0 #[] (by omega)
 refine ⟨.agg cs.toArray, ?_, ?_⟩
 ·simp only [Un.ev, vP, Option.bind_some]
  rw [h2] at this
  rw [this]
  simp
 ·unfold Rd
  rw [if_pos ha]
  exact ⟨_, rfl, by simpa using h3⟩
theorem Owns.insW {W : View} {h : Heap} {o : Own} {k : Key} {e : TypeId} {v : Value} {l : List InsD} (w : Owns W h o) (hk : o k = it e v l) {i : Nat} (hi : i < l.length) : ∃ va, cellH (vw h) (((slA v).add (i * 5)).add 3) = some va ∧ SlRd W va l[i].args := by
 obtain ⟨cs, h1, h2, h3⟩ := Owns.elW w hk hi
 have hn : Rep.n InsD = 5 := rfl
 rw [hn] at h1
 obtain ⟨c1, r1, e1, ⟨rfl, q1⟩, c2, r2, e2, ⟨rfl, q2⟩, c3, r3, e3, ⟨rfl, q3⟩, c4, r4, e4, ⟨va, rfl, q4⟩, q5, q6⟩ := h3
 subst e4 e3 e2 e1
 exact ⟨va, cellsAt_get h1 (by rfl), q4⟩
theorem Owns.phiW {W : View} {h : Heap} {o : Own} {k : Key} {e : TypeId} {v : Value} {l : List PhiD} (w : Owns W h o) (hk : o k = it e v l) {i : Nat} (hi : i < l.length) : ∃ va, cellH (vw h) (((slA v).add (i * 2)).add 1) = some va ∧ SlRd W va l[i].ins := by
 obtain ⟨cs, h1, h2, h3⟩ := Owns.elW w hk hi
 have hn : Rep.n PhiD = 2 := rfl
 rw [hn] at h1
 obtain ⟨c1, r1, e1, ⟨rfl, q1⟩, va, rfl, q4⟩ := h3
 subst e1
 exact ⟨va, cellsAt_get h1 (by rfl), q4⟩
theorem do_oneIn {po : OP} {a b : Int} (ha : I64 a) (hb : I64 b) {ty : TypeId} {us : List (Nat × Value)} {h : Heap} {x : Operand} {K : Value → Heap → Prop} (hx : asg us x = .agg #[.int .i64 a, .int .i64 b])
  (hk : ∀ h', (vw h).le (vw h') → (∀ Y : View, Y h.size = h'[h.size]? → SlRd Y (.slice (some ⟨h.size, 0, none⟩) 1 1) [InD.mk a b]) → K (.slice (some ⟨h.size, 0, none⟩) 1 1) h') : @Lft.step po Try.prog (.buildSlice T.s_api_In 1 #[(0, x)]) ty us h K := by
 refine do_lits (n := 1) (size := 2) (vs := [(0, .agg #[.int .i64 a, .int .i64 b])]) (cs := #[.int .i64 a, .int .i64 b]) El.s_api_In (by decide) (by simp [hx]) (by kernel_rfl) (hk _ (push_le _ _) fun Y hY => ?_)
 have hb2 : Y h.size = some (.cells #[.int .i64 a, .int .i64 b] T.api_In (0, 0)) := by rw [hY]; simp
 refine ⟨some ⟨h.size, 0, none⟩, 1, rfl, Nat.le_refl _, by simp, .inr ⟨⟨h.size, 0, none⟩, rfl, rfl, fun i hi => ?_⟩⟩
 have : i = 0 := by simpa using hi
 subst this
 have e : (⟨h.size, 0, none⟩ : Addr).add (0 * Rep.n InD) = ⟨h.size, 0, none⟩ := by rw [Nat.zero_mul]; rfl
 rw [e]
 exact at_new (d := InD.mk a b) (v := .agg #[.int .i64 a, .int .i64 b]) (fz := (0, 0)) hb2 (rd_inD ha hb)
theorem Owns.cut {W : View} {h : Heap} {o : Own} {k : Key} {α : Type} [r : Rep α] {e : TypeId} {v : Value} {l : List α} (w : Owns W h o) (hk : o k = it e v l) {N : Nat} (hN : Rep.n α = N) {j : Nat} (hj : j < l.length) : ∃ v1 v2, Bn.ev .hi v (.int .i64 j) = some v1 ∧ Bn.ev (.lo N) v (.int .i64 ((j : Int) + 1)) = some v2 ∧ Owns W h (o.upd k (it e v1 (l.take j))) ∧ SrcT (vw h) W v2 (l.drop (j + 1)) := by
 subst hN
 obtain ⟨hb, xs, ⟨hl, hown⟩, hel⟩ := w.get hk
 rcases hown with ⟨rfl, hn⟩ | ⟨g, cap, cur, rfl, h2, h3, h4, h5, h6⟩
 ·omega
 ·have hjn : j * Rep.n α + Rep.n α ≤ l.length * Rep.n α := by rw [← Nat.succ_mul]; exact Nat.mul_le_mul_right _ hj
  have hcn : l.length * Rep.n α ≤ cap * Rep.n α := Nat.mul_le_mul_right _ h3
  refine ⟨.slice (some ⟨g, 0, none⟩) j cap, .slice (if cap = j + 1 then some ⟨g, 0, none⟩ else (some ⟨g, 0, none⟩ : Option Addr).map (·.add ((j + 1) * Rep.n α))) (l.length - (j + 1)) (cap - (j + 1)), ?_, ?_, ?_, ?_⟩
  ·simp only [Bn.ev, vL, vI, Option.bind_some]
   rw [if_pos ⟨by omega, by omega⟩]
   simp
  ·simp only [Bn.ev, vL, vI, Option.bind_some]
   rw [if_pos ⟨by omega, by omega⟩]
   have : ((j : Int) + 1).toNat = j + 1 := by omega
   simp only [this]
  ·refine w.moved hk (h' := h) (v' := .slice (some ⟨g, 0, none⟩) j cap) (l' := l.take j) ⟨by simp; omega, xs.take (j * Rep.n α), ⟨?_, .inr ⟨g, cap, cur, ?_, h2, ?_, h4, h5, ?_⟩⟩, fun i hi => ?_⟩ ⟨⟨Nat.le_refl _, fun _ _ _ => rfl⟩, .inl rfl⟩
   ·simp only [List.length_take]; rw [hl]; rw [Nat.min_eq_left (by omega), Nat.min_eq_left (by omega)]
   ·rw [List.length_take, Nat.min_eq_left (by omega)]
   ·simp; omega
   ·rw [List.length_take, Nat.min_eq_left (by omega), ← h6, List.take_take, Nat.min_eq_left (by omega)]
   ·have him : i < min j l.length := by simpa using hi
    have hi : i < j ∧ i < l.length := ⟨by omega, by omega⟩
    have := hel i hi.2
    rw [List.getElem_take]
    have e2 : ((xs.take (j * Rep.n α)).drop (i * Rep.n α)).take (Rep.n α) = (xs.drop (i * Rep.n α)).take (Rep.n α) := by
     have h7 : i * Rep.n α + Rep.n α ≤ j * Rep.n α := by rw [← Nat.succ_mul]; exact Nat.mul_le_mul_right _ hi.1
     rw [List.drop_take, List.take_take, Nat.min_eq_left (by omega)]
    rw [e2]; exact this
  ·have hld : (l.drop (j + 1)).length = l.length - (j + 1) := by simp
   refine ⟨_, _, by rw [hld], ?_, xs.drop ((j + 1) * Rep.n α), ?_, ?_, fun i hi => ?_⟩
   ·intro hn
    split at hn
    ·cases hn
    ·cases hn
   ·rw [List.length_drop, hl, hld, Nat.sub_mul]
   ·intro ad had i x hx
    split at had
    ·rename_i hc
     have : l.length = j + 1 := by omega
     rw [List.drop_eq_nil_of_le (by rw [hl, this]; exact Nat.le_refl _)] at hx
     simp at hx
    ·simp only [Option.map_some, Option.some.injEq] at had
     subst had
     have e3 : (((⟨g, 0, none⟩ : Addr).add ((j + 1) * Rep.n α)).add i) = ⟨g, (j + 1) * Rep.n α + i, none⟩ := by simp [Addr.z]
     rw [e3]
     have hx2 : xs[(j + 1) * Rep.n α + i]? = some x := by rw [List.getElem?_drop] at hx; exact hx
     have hlt : (j + 1) * Rep.n α + i < xs.length := by
      rcases Nat.lt_or_ge ((j + 1) * Rep.n α + i) xs.length with q | q
      ·exact q
      ·rw [List.getElem?_eq_none q] at hx2; cases hx2
     have h2v : vw h g = some (.cells cur e (0, 0)) := h2
     simp only [cellH, h2v]
     rw [← h6, List.getElem?_take_of_lt (by omega)] at hx2
     simpa using hx2
   ·have hi : j + 1 + i < l.length := by rw [hld] at hi; omega
    have := hel (j + 1 + i) hi
    rw [List.getElem_drop]
    rw [List.drop_drop, show (j + 1) * Rep.n α + i * Rep.n α = (j + 1 + i) * Rep.n α by rw [← Nat.add_mul]]
    exact this
end Go.Proofs.Ytfelpjfopgiabaa
namespace Go.Proofs.Ytfelpjfopgiabaa
open Go Go.Lft
set_option maxHeartbeats 4000000 in
theorem turned_ok {f : FuncD} {c : Nat} {v : Value} {q0 q1 q2 : Int} {h : Heap} {W : View} {o0 : Own} (w0 : Owns W h o0) (ho0 : ∀ k : Key, k.1 < 10 → o0 k = none) (hv : Rd W v f) (hf : TF c f) (hc : c ≤ 5000) (i0 : I64 q0) (i1 : I64 q1) (i2 : I64 q2) :
  HCalls Try.prog N.ref03_Turned #[v, .agg #[.int .i64 q0, .int .i64 q1, .int .i64 q2]] h (fun u h' => ∃ W' f', W.le W' ∧ Owns W' h' o0 ∧ TF (c + 1) f' ∧ Rd W' u f') := by
 refine calls_lift (args := [v, .agg #[.int .i64 q0, .int .i64 q1, .int .i64 q2]]) follows F.ref03_Turned E.ref03_Turned (Nat.le_of_ble_eq_true (by kernel_rfl)) fun K hK => ?_
 dsimp only [L.ref03_Turned]
 obtain ⟨vbs, rfl, ips, sbl⟩ : ∃ vbs, v = .agg #[.int .i64 f.params, vbs] ∧ I64 f.params ∧ SlRd W vbs f.blocks := by
  obtain ⟨cs, rfl, c1, r1, e1, ⟨rfl, h1⟩, vb, h2, h3⟩ := hv
  exact ⟨vb, by rw [← Array.toList_inj.1 ((by rw [e1, h2]; rfl) : cs.toList = #[Value.int .i64 f.params, vb].toList)], h1, h3⟩
 refine lwp_hide fun z hz => ?_
 simp
 refine do_box (v := .agg #[.int .i64 f.params, vbs]) rfl ?_
 have hb1 : (h.push (.cells (Value.agg #[.int .i64 f.params, vbs]).cells T.api_Func))[h.size]? = some (.cells (Value.agg #[.int .i64 f.params, vbs]).cells T.api_Func (0, 0)) := by simp
 have hle1 := push_le h (.cells (Value.agg #[.int .i64 f.params, vbs]).cells T.api_Func)
 generalize h.push (.cells (Value.agg #[.int .i64 f.params, vbs]).cells T.api_Func) = h1 at hb1 hle1
 have hvbs := sbl.cells.2
 have w1 := w0.add (k := (8, 1)) (ho0 _ (by decide)) (ownT_box (W := W) (d := RawN.mk (n := 1) [.int .i64 f.params, vbs]) hb1 (rd_rawN rfl (by intro c hc; simp only [List.mem_cons, List.not_mem_nil, or_false] at hc; rcases hc with rfl | rfl <;> first | rfl | exact hvbs)) (by decide)) hle1 (fun b hb => by simp only [Value.ownBlock, Option.some.injEq] at hb; omega)
 generalize h.size = F at w1
 refine do_box (v := .agg #[.int .i64 q0, .int .i64 q1, .int .i64 q2]) rfl ?_
 have hb2 : (h1.push (.cells (Value.agg #[.int .i64 q0, .int .i64 q1, .int .i64 q2]).cells T.a3_int))[h1.size]? = some (.cells (Value.agg #[.int .i64 q0, .int .i64 q1, .int .i64 q2]).cells T.a3_int (0, 0)) := by simp
 have hle2 := push_le h1 (.cells (Value.agg #[.int .i64 q0, .int .i64 q1, .int .i64 q2]).cells T.a3_int)
 generalize h1.push (.cells (Value.agg #[.int .i64 q0, .int .i64 q1, .int .i64 q2]).cells T.a3_int) = h2 at hb2 hle2
 have w2 := w1.ext hle2
 have hg2 : grow W h1 h2 h1.size = some (.cells (([q0, q1, q2] : List Int).map fun x => Value.int .i64 x).toArray T.a3_int (0, 0)) := by
  rw [grow_new (Nat.le_refl _), hb2]; rfl
 have sq : SlRd (grow W h1 h2) (.slice (some ⟨h1.size, 0, none⟩) 3 3) [q0, q1, q2] := sl_arr hg2 rfl (by decide) (by intro x hx; simp only [List.mem_cons, List.not_mem_nil, or_false] at hx; rcases hx with rfl | rfl | rfl <;> assumption)
 have hW2 := le_grow (h' := h2) w1.wle
 generalize grow W h1 h2 = W2 at w2 sq hW2
 generalize h1.size = Q at sq
 refine w2.do_zero (k := (8, 0)) (n := 1) (z := .agg #[.int .i64 0, .slice none 0 0]) (by rw [Own.upd_ne (by simp)]; exact ho0 _ (by decide)) (by kernel_rfl) rfl (by decide) (by simp [Value.cells, Value.oneCell']) fun h3 q3 w3 => ?_
 generalize h2.size = R at w3
 have hsb2 := sbl.mono hW2
 clear hb1 hle1 hb2 hle2 hg2 w1 w2 q3
 rw [hz]; clear hz z
 refine lwp_hide fun z hz => ?_
 simp
 refine w3.do_empty (k := (3, 0)) (α := BlkD) (by rw [Own.upd_ne (by simp), Own.upd_ne (by simp)]; exact ho0 _ (by decide)) El.s_api_Block fun v4 h4 hle4 hv4 w4 _ => ?_
 have c4 : cellH (vw h4) ⟨F, 1, none⟩ = some vbs := w4.raw (k := (8, 1)) (e := T.api_Func) (n := 1) (l := [.int .i64 f.params, vbs]) (by rw [Own.upd_ne (by simp), Own.upd_ne (by simp), Own.upd_self]; rfl) (i := 1) (by decide)
 simp [c4]
 have hbl := hf.len
 refine w4.do_append (k := (3, 0)) (α := BlkD) (l := ([] : List BlkD)) (l2 := f.blocks) Own.upd_self El.s_api_Block rfl rfl (hsb2.src w4.wle) (by simp; omega) (by simp; omega) fun vbk h5 w5 _ => ?_
 rw [List.nil_append] at w5
 have hvk := (w5.cells (k := (3, 0)) Own.upd_self).2
 rw [hz]; clear hz z
 refine lwp_hide fun z hz => ?_
 simp
 refine w5.do_cell (k := (8, 1)) (n := 1) (i := 1) (e := T.api_Func) (B := F) (l := [.int .i64 f.params, vbs]) (by rw [Own.upd_ne (by simp), Own.upd_ne (by simp), Own.upd_ne (by simp), Own.upd_self]; rfl) (by decide) (by kernel_rfl) rfl rfl hvk fun h6 w6 _ => ?_
 obtain ⟨o6, ho6⟩ : ∃ o6 : Own, o6 = fun k => if k = (8, 0) then bx T.api_Func R (RawN.mk (n := 1) [.int .i64 0, .slice none 0 0]) else if k = (8, 1) then bx T.api_Func F (RawN.mk (n := 1) [.int .i64 f.params, vbk]) else if k = (3, 0) then it T.api_Block vbk f.blocks else o0 k := ⟨_, rfl⟩
 have w6 : Owns W2 h6 o6 := w6.congr fun k => by
  rw [ho6]
  unfold Own.upd
  repeat' split
  all_goals first | rfl | simp_all
 clear w5 w4 w3 c4
 have hlen : ∀ {Q : View}, Un.ev Q .len vbk = some (.int .i64 f.blocks.length) := fun {Q} => (w6.now (k := (3, 0)) (v := vbk) (l := f.blocks) (by rw [ho6]; rfl)).len
 rw [hz]; clear hz z
 refine lwp_hide fun z hz => ?_
 refine lwp_hide fun y hy => ?_
 simp [hlen]
 rw [hy]; clear hy y
 by_cases c0 : f.blocks.length = 0
 ·have c0' : f.blocks = [] := List.eq_nil_of_length_eq_zero c0
  refine lwp_cond_t (by simp [c0, c0']) ?_
  refine lwp_hide fun y hy => ?_
  have ca := w6.rawAll (k := (8, 1)) (n := 1) (l := [.int .i64 f.params, vbk]) (e := T.api_Func) (B := F) (by rw [ho6]; rfl)
  have ca : Un.ev (vw h6) (.loads 2) (.pointer (some ⟨F, 0, none⟩)) = some (.agg #[.int .i64 f.params, vbk]) := ca
  simp [ca]
  refine w6.do_field (k := (8, 0)) (α := RawN 1) (β := RawN 1) Part.all (B := R) (D := RawN.mk (n := 1) [.int .i64 0, .slice none 0 0]) (d := RawN.mk (n := 1) [.int .i64 f.params, vbk]) (by rw [ho6]; rfl) (by kernel_rfl) rfl rfl (rd_rawN rfl (by intro c hc; simp only [List.mem_cons, List.not_mem_nil, or_false] at hc; rcases hc with rfl | rfl <;> first | rfl | exact hvk)) fun h7 w7 _ => ?_
  have cb := w7.rawAll (k := (8, 0)) (n := 1) (l := [.int .i64 f.params, vbk]) Own.upd_self
  have cb : Un.ev (vw h7) (.loads 2) (.pointer (some ⟨R, 0, none⟩)) = some (.agg #[.int .i64 f.params, vbk]) := cb
  have sb7 := w7.now (k := (3, 0)) (v := vbk) (l := f.blocks) (by rw [Own.upd_ne (by simp), ho6]; rfl)
  rw [hy]; clear hy y
  simp [cb]
  obtain ⟨w8, s8⟩ := w7.freeze (k := (3, 0)) (v := vbk) (l := f.blocks) (by rw [Own.upd_ne (by simp), ho6]; rfl)
  have hW8 := le_plus (h := h7) (w7.av (3, 0) ⟨_, _, T.api_Block, vbk, f.blocks⟩ (by rw [Own.upd_ne (by simp), ho6]; rfl))
  have w9 := w8.sub (o' := o0) fun k i hk => by
   rcases Nat.lt_or_ge k.1 10 with e | e
   ·rw [ho0 k e] at hk; cases hk
   ·rw [Own.upd_ne (by rintro rfl; simp at e), Own.upd_ne (by rintro rfl; simp at e), ho6]
    dsimp only
    rw [if_neg (by rintro rfl; simp at e), if_neg (by rintro rfl; simp at e), if_neg (by rintro rfl; simp at e)]; exact hk
  exact hK _ _ ⟨_, f, View.le_trans hW2 hW8, w9, hf.mono (by omega), ⟨_, rfl, [.int .i64 f.params], [vbk], rfl, ⟨rfl, ips⟩, vbk, rfl, s8⟩⟩
 have c0' : ¬ f.blocks = [] := fun e => c0 (by rw [e]; rfl)
 refine lwp_cond_f (by simp [c0']) ?_
 simp
 rw [hz]; clear hz z
 refine lwp_hide fun z hz => ?_
 simp
 refine do_sliceA (n := 3) (e := T.int) (sz := 1) U.a3_int (by kernel_rfl) rfl ?_
 refine do_build (z := .agg #[.slice none 0 0, .int .i64 0, .int .i64 0, .slice none 0 0, .int .i64 0, .slice none 0 0]) (places := [(0, 1), (1, 1), (2, 2), (4, 1), (5, 1)]) (vs := [(0, .slice (some ⟨Q, 0, none⟩) 3 3)]) (cs := #[.slice (some ⟨Q, 0, none⟩) 3 3, .int .i64 0, .int .i64 0, .slice none 0 0, .int .i64 0, .slice none 0 0]) (by kernel_rfl) (by kernel_rfl) (by simp) (by rfl) ?_
 refine do_box (v := .agg #[.slice (some ⟨Q, 0, none⟩) 3 3, .int .i64 0, .int .i64 0, .slice none 0 0, .int .i64 0, .slice none 0 0]) rfl ?_
 have hbx : (h6.push (.cells (Value.agg #[.slice (some ⟨Q, 0, none⟩) 3 3, .int .i64 0, .int .i64 0, .slice none 0 0, .int .i64 0, .slice none 0 0]).cells T.ref03_maker))[h6.size]? = some (.cells (Value.agg #[.slice (some ⟨Q, 0, none⟩) 3 3, .int .i64 0, .int .i64 0, .slice none 0 0, .int .i64 0, .slice none 0 0]).cells T.ref03_maker (0, 0)) := by simp
 have hle7 := push_le h6 (.cells (Value.agg #[.slice (some ⟨Q, 0, none⟩) 3 3, .int .i64 0, .int .i64 0, .slice none 0 0, .int .i64 0, .slice none 0 0]).cells T.ref03_maker)
 generalize h6.push (.cells (Value.agg #[.slice (some ⟨Q, 0, none⟩) 3 3, .int .i64 0, .int .i64 0, .slice none 0 0, .int .i64 0, .slice none 0 0]).cells T.ref03_maker) = h7 at hbx hle7
 have w7 := w6.add (k := (0, 0)) (by rw [ho6]; exact ho0 _ (by decide)) (ownT_box (W := W2) (d := RawN.mk (n := 5) [.slice (some ⟨Q, 0, none⟩) 3 3, .int .i64 0, .int .i64 0, .slice none 0 0, .int .i64 0, .slice none 0 0]) hbx (rd_rawN rfl (by simp [Value.oneCell'])) (by decide)) hle7 (fun b hb => by simp only [Value.ownBlock, Option.some.injEq] at hb; omega)
 generalize h6.size = M at w7
 generalize Value.slice (some ⟨Q, 0, none⟩) 3 3 = vs at sq w7
 obtain ⟨o7, ho7⟩ : ∃ o7 : Own, o7 = fun k => if k = (0, 0) then bx T.ref03_maker M (RawN.mk (n := 5) (mkL vs 0 0 (.slice none 0 0) 0 (.slice none 0 0))) else if k = (0, 1) then it T.int (.slice none 0 0) ([] : List Int) else if k = (0, 2) then it T.api_Block (.slice none 0 0) ([] : List BlkM) else o6 k := ⟨_, rfl⟩
 have w7 : Owns W2 h7 o7 := w7.nils fun k i hk => by
  rw [ho7] at hk
  dsimp only at hk
  split at hk
  ·rename_i e; rw [e]; exact .inl hk
  ·rename_i e0
   split at hk
   ·cases hk; exact .inr ⟨rfl, OwnT.nil (α := Int) _ _ _⟩
   ·split at hk
    ·cases hk; exact .inr ⟨rfl, OwnT.nil (α := BlkM) _ _ _⟩
    ·refine .inl ?_
     rw [Own.upd_ne e0]
     exact hk
 have w7 : Mk [q0, q1, q2] M vs W2 h7 o7 ⟨0, 0, [], 0, []⟩ := ⟨w7, sq, .slice none 0 0, .slice none 0 0, [], by rw [ho7]; rfl, by rw [ho7]; rfl, by rw [ho7]; rfl, rfl, fun i hi => by simp at hi, fun i hi => by simp at hi, fun i hi => by simp at hi⟩
 have f7 : ∀ k : Key, 3 ≤ k.1 → o7 k = o6 k := fun k hk => by
  rw [ho7]
  dsimp only
  rw [if_neg (by rintro rfl; simp at hk), if_neg (by rintro rfl; simp at hk), if_neg (by rintro rfl; simp at hk)]
 clear hbx hle7 w6 ho7
 rw [hz]; clear hz z
 refine lwp_hide fun z hz => ?_
 simp
 refine call_to (by kernel_rfl) (w7.take (by decide) (n := 12) (by decide) (by decide)) ?_
 rintro _ h8 ⟨rfl, o8, w8, f8⟩
 obtain ⟨t0, t1⟩ := takeV_rng (s := [q0, q1, q2]) (at_ := 0) (n := 12) (by decide)
 simp
 rw [hz]; clear hz z
 refine lwp_hide fun z hz => ?_
 simp [hlen]
 refine call_to (by kernel_rfl) (w8.take (by decide) (n := (f.blocks.length : Int)) (by omega) (by omega)) ?_
 rintro _ h9 ⟨rfl, o9, w9, f9⟩
 obtain ⟨b0, b1⟩ := takeV_rng (s := [q0, q1, q2]) (at_ := 1) (n := (f.blocks.length : Int)) (by omega)
 rw [hz]; clear hz z
 refine lwp_hide fun z hz => ?_
 simp
 refine call_to (by kernel_rfl) (w9.take (by decide) (n := 40) (by decide) (by decide)) ?_
 rintro _ h10 ⟨rfl, o10, w10, f10⟩
 obtain ⟨n0, n1⟩ := takeV_rng (s := [q0, q1, q2]) (at_ := 2) (n := 40) (by decide)
 have e0 : MS.at_ ⟨0, 0, [], 0, []⟩ = 0 := rfl
 have e1 : MS.at_ (MS.took ⟨0, 0, [], 0, []⟩) = 1 := rfl
 have e2 : MS.at_ (MS.took (MS.took ⟨0, 0, [], 0, []⟩)) = 2 := rfl
 rw [e1, e2]
 have w10 := w10.own.sub (o' := o6) fun k i hk => by
  have hk3 : 3 ≤ k.1 := by
   rw [ho6] at hk
   dsimp only at hk
   split at hk
   ·rename_i e; rw [e]; decide
   ·split at hk
    ·rename_i e; rw [e]; decide
    ·split at hk
     ·rename_i e; rw [e]; decide
     ·rcases Nat.lt_or_ge k.1 10 with e | e
      ·rw [ho0 k e] at hk; cases hk
      ·omega
  rw [f10 k hk3, f9 k hk3, f8 k hk3, f7 k hk3]; exact hk
 clear f10 f9 f8 f7 w9 w8 w7 e0 e1 e2
 generalize takeV [q0, q1, q2] 0 12 = what at t0 t1
 generalize takeV [q0, q1, q2] 1 f.blocks.length = bb at b0 b1
 generalize takeV [q0, q1, q2] 2 40 = nn at n0 n1
 obtain ⟨b, rfl⟩ : ∃ b : Nat, bb = b := ⟨bb.toNat, by omega⟩
 obtain ⟨n, rfl⟩ : ∃ n : Nat, nn = n := ⟨nn.toNat, by omega⟩
 rw [hz]; clear hz z
 have hbl2 : b < f.blocks.length := by omega
 have tb := hf.blk _ (List.getElem_mem hbl2)
 refine lwp_hide fun z hz => ?_
 obtain ⟨ux, hux, huxr⟩ := Owns.ldW w10 (k := (3, 0)) (v := vbk) (l := f.blocks) (by rw [ho6]; rfl) rfl (N := 6) rfl hbl2
 have sbk := w10.now (k := (3, 0)) (v := vbk) (l := f.blocks) (by rw [ho6]; rfl)
 obtain ⟨vp, vi, va, vt, rfl, rp, ri, ra, rt, ik, im⟩ := blk_val huxr
 generalize f.blocks[b] = xb at tb rp ri ra rt ik im hux huxr
 have bp := rp.cells.2
 have bi := ri.cells.2
 have ba := ra.cells.2
 have bt := rt.cells.2
 simp (disch := omega) [sbk.idxn (N := 6) rfl, hux]
 refine w10.do_var (k := (3, 1)) (n := 5) (l := [vp, vi, .int .i64 xb.term.kind, va, vt, .int .i32 xb.term.imm.v]) (by rw [ho6]; exact ho0 _ (by decide)) (z := .agg #[.slice none 0 0, .slice none 0 0, .int .i64 0, .slice none 0 0, .slice none 0 0, .int .i32 0]) (by kernel_rfl) rfl (by kernel_rfl) rfl (by decide) (by intro c hc; simp only [List.mem_cons, List.not_mem_nil, or_false] at hc; rcases hc with rfl | rfl | rfl | rfl | rfl | rfl <;> first | rfl | assumption) (fun _ => by simp) (fun _ => by simp) fun h11 q11 w11 => ?_
 generalize h10.size = X at w11
 rw [hz]; clear hz z
 refine lwp_hide fun z hz => ?_
 simp
 refine w11.do_empty (k := (3, 2)) (α := InsD) (by rw [Own.upd_ne (by simp), ho6]; exact ho0 _ (by decide)) El.s_api_Ins fun v12 h12 hle12 hv12 w12 _ => ?_
 have c12 : cellH (vw h12) ⟨X, 1, none⟩ = some vi := w12.raw (k := (3, 1)) (e := T.api_Block) (n := 5) (l := [vp, vi, .int .i64 xb.term.kind, va, vt, .int .i32 xb.term.imm.v]) (by rw [Own.upd_ne (by simp), Own.upd_self]) (i := 1) (by decide)
 simp [c12]
 refine w12.do_append (k := (3, 2)) (α := InsD) (l := ([] : List InsD)) (l2 := xb.ins) Own.upd_self El.s_api_Ins rfl rfl (ri.src w12.wle) (by have := tb.ins; simp; omega) (by have := tb.ins; simp; omega) fun vi2 h13 w13 _ => ?_
 rw [List.nil_append] at w13
 have hvi2 := (w13.cells (k := (3, 2)) Own.upd_self).2
 refine w13.do_cell (k := (3, 1)) (n := 5) (i := 1) (e := T.api_Block) (B := X) (l := [vp, vi, .int .i64 xb.term.kind, va, vt, .int .i32 xb.term.imm.v]) (by rw [Own.upd_ne (by simp), Own.upd_ne (by simp), Own.upd_self]) (by decide) (by kernel_rfl) rfl rfl hvi2 fun h14 w14 _ => ?_
 rw [hz]; clear hz z
 refine lwp_hide fun z hz => ?_
 simp
 refine w14.do_empty (k := (3, 3)) (α := PhiD) (by rw [Own.upd_ne (by simp), Own.upd_ne (by simp), Own.upd_ne (by simp), Own.upd_ne (by simp), ho6]; exact ho0 _ (by decide)) El.s_api_Phi fun v15 h15 hle15 hv15 w15 _ => ?_
 have c15 : cellH (vw h15) ⟨X, 0, none⟩ = some vp := w15.raw (k := (3, 1)) (e := T.api_Block) (n := 5) (l := [vp, vi2, .int .i64 xb.term.kind, va, vt, .int .i32 xb.term.imm.v]) (by rw [Own.upd_ne (by simp), Own.upd_self]; rfl) (i := 0) (by decide)
 simp [c15]
 refine w15.do_append (k := (3, 3)) (α := PhiD) (l := ([] : List PhiD)) (l2 := xb.phis) Own.upd_self El.s_api_Phi rfl rfl (rp.src w15.wle) (by have := tb.phis; simp; omega) (by have := tb.phis; simp; omega) fun vp2 h16 w16 _ => ?_
 rw [List.nil_append] at w16
 have hvp2 := (w16.cells (k := (3, 3)) Own.upd_self).2
 refine w16.do_cell (k := (3, 1)) (n := 5) (i := 0) (e := T.api_Block) (B := X) (l := [vp, vi2, .int .i64 xb.term.kind, va, vt, .int .i32 xb.term.imm.v]) (by rw [Own.upd_ne (by simp), Own.upd_ne (by simp), Own.upd_self]; rfl) (by decide) (by kernel_rfl) rfl rfl hvp2 fun h17 w17 _ => ?_
 have tu : ∃ o, Tu R F X o0 c W2 vbk f.blocks W2 o f.params vp2 vi2 va vt xb.term.kind xb.term.imm.v xb.phis xb.ins xb.term.args xb.term.to ∧ Owns W2 h17 o := by
  refine ⟨_, ⟨View.le_refl _, ?_, ?_, ?_, ?_, ?_, ?_, ?_, ?_, ra, rt, ips, ik, im, ⟨tb.phis, tb.ins, tb.args, tb.to, tb.pin, tb.iar⟩⟩, w17⟩
  ·simp [Own.upd, ho6]
  ·simp [Own.upd, ho6]
  ·simp [Own.upd, ho6]
  ·simp [Own.upd]
  ·simp [Own.upd]
  ·simp [Own.upd]
  ·simp [Own.upd, ho6, ho0]
  ·intro k hk
   repeat rw [Own.upd_ne (by rintro rfl; simp at hk)]
   rw [ho6]; dsimp only
   rw [if_neg (by rintro rfl; simp at hk), if_neg (by rintro rfl; simp at hk), if_neg (by rintro rfl; simp at hk)]
 clear w17 w16 w15 w14 w13 w12 w11 w10 c15 c12 rp ri hux huxr bp bi ba bt
 obtain ⟨o17, t, w17⟩ := tu
 have hc0 : ∀ {i : Nat}, i ≤ 5 → cellH (vw h17) ⟨X, i, none⟩ = some ([vp2, vi2, .int .i64 xb.term.kind, va, vt, .int .i32 xb.term.imm.v].getD i undef) := fun hi => w17.raw t.box hi
 have x0 : cellH (vw h17) ⟨X, 0, none⟩ = some vp2 := hc0 (i := 0) (by decide)
 have x1 : cellH (vw h17) ⟨X, 1, none⟩ = some vi2 := hc0 (i := 1) (by decide)
 have x4 : cellH (vw h17) ⟨X, 4, none⟩ = some vt := hc0 (i := 4) (by decide)
 have sI := w17.now t.ins
 have sP := w17.now t.phis
 have sT := t.rt
 have hli : ∀ {Q : View}, Un.ev Q .len vi2 = some (.int .i64 xb.ins.length) := fun {Q} => sI.len
 have hlp : ∀ {Q : View}, Un.ev Q .len vp2 = some (.int .i64 xb.phis.length) := fun {Q} => sP.len
 have hlt : ∀ {Q : View}, Un.ev Q .len vt = some (.int .i64 xb.term.to.length) := fun {Q} => sT.len
 have tbi := tb.ins
 have tbp := tb.phis
 have tbt := tb.to
 clear hc0
 rw [hz]; clear hz z
 refine lwp_hide fun z hz => ?_
 simp
 rw [hz]; clear hz z
 refine lwp_hide fun z hz => ?_
 obtain ⟨j, hj1, hj2⟩ : ∃ j : Nat, (0 < xb.ins.length → j < xb.ins.length) ∧ (j : Int) = if 0 < xb.ins.length then (n : Int).tmod xb.ins.length else 0 := by
  by_cases c1 : 0 < xb.ins.length
  ·refine ⟨((n : Int).tmod xb.ins.length).toNat, fun _ => ?_, ?_⟩
   ·have := Int.tmod_lt_of_pos (n : Int) (show (0 : Int) < xb.ins.length by omega); have := Int.tmod_nonneg (xb.ins.length : Int) (show (0 : Int) ≤ n by omega); omega
   ·rw [if_pos c1]; have := Int.tmod_nonneg (xb.ins.length : Int) (show (0 : Int) ≤ n by omega); omega
  ·exact ⟨0, fun q => absurd q c1, by rw [if_neg c1]; rfl⟩
 have sw : ∀ ρ : Env, Lft.look ρ 2 = some (.pointer (some ⟨F, 0, none⟩)) → Lft.look ρ 4 = some (.pointer (some ⟨R, 0, none⟩)) → Lft.look ρ 5 = some vbk → Lft.look ρ 7 = some (.int .i64 what) → Lft.look ρ 8 = some (.int .i64 b) → Lft.look ρ 9 = some (.int .i64 n) → Lft.look ρ 10 = some (.pointer (some ⟨X, 0, none⟩)) → Lft.look ρ 11 = some (.int .i64 j) → LC.wp Try.prog z (fnPost [.un (.loads 2) (.tmp 4)] K) ρ h17 := by
  intro ρ r2 r4 r5 r7 r8 r9 r10 r11
  rw [hz]; clear hz z
  refine lwp_hide fun z hz => ?_
  have fin : ∀ (h' : Heap) (ρ : Env), TuE R F X o0 (c + 1) W2 vbk f.blocks h' → Lft.look ρ 2 = some (.pointer (some ⟨F, 0, none⟩)) → Lft.look ρ 4 = some (.pointer (some ⟨R, 0, none⟩)) → Lft.look ρ 5 = some vbk → Lft.look ρ 8 = some (.int .i64 b) → Lft.look ρ 10 = some (.pointer (some ⟨X, 0, none⟩)) → LC.wp Try.prog z (fnPost [.un (.loads 2) (.tmp 4)] K) ρ h' := by
   intro h' ρ tE r2 r4 r5 r8 r10
   rw [hz]; clear hz z
   obtain ⟨W, o, ps', vp', vi', va', vt', kd', im', lp', li', la', lt', t, w⟩ := tE
   have sbk := w.now t.blk
   have cx := w.rawAll (k := (3, 1)) t.box
   have cx : Un.ev (vw h') (.loads 6) (.pointer (some ⟨X, 0, none⟩)) = some (.agg #[vp', vi', .int .i64 kd', va', vt', .int .i32 im']) := cx
   obtain ⟨wA, sI⟩ := w.freeze t.ins
   obtain ⟨wB, sP⟩ := wA.freeze ((Own.upd_ne (by simp)).trans t.phis)
   have sI := sI.mono (le_plus (h := h') (wA.av _ _ ((Own.upd_ne (by simp)).trans t.phis)))
   have hWW := View.le_trans (le_plus (h := h') (w.av _ _ t.ins)) (le_plus (h := h') (wA.av _ _ ((Own.upd_ne (by simp)).trans t.phis)))
   refine lwp_hide fun z hz => ?_
   simp (disch := omega) [look_setE, look_kill, r2, r4, r5, r8, r10, cx, sbk.idxn (N := 6) rfl]
   refine wB.do_put (k := (3, 0)) (α := BlkD) (v := vbk) (l := f.blocks) (i := b) (d := ⟨lp', li', ⟨kd', la', lt', ⟨im'⟩⟩⟩) ((Own.upd_ne (by simp)).trans ((Own.upd_ne (by simp)).trans t.blk)) (by kernel_rfl) rfl rfl (by omega) (rd_blkOf (imm := ⟨im'⟩) sP sI (t.ra.mono hWW) (t.rt.mono hWW) t.ikd t.iim) fun h2 w2 _ => ?_
   rw [hz]; clear hz z
   refine lwp_hide fun z hz => ?_
   have fF : (((o.upd (3, 2) none).upd (3, 3) none).upd (3, 0) (it T.api_Block vbk (f.blocks.set b ⟨lp', li', ⟨kd', la', lt', ⟨im'⟩⟩⟩))) (8, 1) = bx T.api_Func F (RawN.mk (n := 1) [.int .i64 ps', vbk]) := by simp [Own.upd, t.fn]
   have fR : (((o.upd (3, 2) none).upd (3, 3) none).upd (3, 0) (it T.api_Block vbk (f.blocks.set b ⟨lp', li', ⟨kd', la', lt', ⟨im'⟩⟩⟩))) (8, 0) = bx T.api_Func R (RawN.mk (n := 1) [.int .i64 0, .slice none 0 0]) := by simp [Own.upd, t.res]
   have cF := w2.rawAll (k := (8, 1)) fF
   have cF : Un.ev (vw h2) (.loads 2) (.pointer (some ⟨F, 0, none⟩)) = some (.agg #[.int .i64 ps', vbk]) := cF
   simp [look_setE, look_kill, r2, r4, r5, r8, r10, cF]
   refine w2.do_field (k := (8, 0)) (α := RawN 1) (β := RawN 1) Part.all (B := R) (D := RawN.mk (n := 1) [.int .i64 0, .slice none 0 0]) (d := RawN.mk (n := 1) [.int .i64 ps', vbk]) fR (by kernel_rfl) rfl rfl (rd_rawN rfl (by intro c hc; simp only [List.mem_cons, List.not_mem_nil, or_false] at hc; rcases hc with rfl | rfl <;> first | rfl | exact hvk)) fun h3 w3 _ => ?_
   have cb := w3.rawAll (k := (8, 0)) (n := 1) (l := [.int .i64 ps', vbk]) Own.upd_self
   have cb : Un.ev (vw h3) (.loads 2) (.pointer (some ⟨R, 0, none⟩)) = some (.agg #[.int .i64 ps', vbk]) := cb
   have sb3 := w3.now (k := (3, 0)) (v := vbk) (l := f.blocks.set b ⟨lp', li', ⟨kd', la', lt', ⟨im'⟩⟩⟩) (by rw [Own.upd_ne (by simp), Own.upd_self])
   rw [hz]; clear hz z
   simp [look_setE, look_kill, r2, r4, r5, r8, r10, cb]
   obtain ⟨w4, s4⟩ := w3.freeze (k := (3, 0)) (v := vbk) (l := f.blocks.set b ⟨lp', li', ⟨kd', la', lt', ⟨im'⟩⟩⟩) (by rw [Own.upd_ne (by simp), Own.upd_self])
   have hW4 := le_plus (h := h3) (w3.av (3, 0) _ ((Own.upd_ne (by simp)).trans Own.upd_self))
   have w5 := w4.sub (o' := o0) fun k i hk => by
    rcases Nat.lt_or_ge k.1 10 with e | e
    ·rw [ho0 k e] at hk; cases hk
    ·rw [Own.upd_ne (by rintro rfl; simp at e), Own.upd_ne (by rintro rfl; simp at e), Own.upd_ne (by rintro rfl; simp at e), Own.upd_ne (by rintro rfl; simp at e), Own.upd_ne (by rintro rfl; simp at e), t.fr k e]; exact hk
   refine hK _ _ ⟨_, ⟨ps', f.blocks.set b ⟨lp', li', ⟨kd', la', lt', ⟨im'⟩⟩⟩⟩, View.le_trans hW2 (View.le_trans t.le (View.le_trans hWW hW4)), w5, ⟨by show (f.blocks.set b _).length ≤ _; rw [List.length_set]; exact hf.len, fun x hx => ?_⟩, ⟨_, rfl, [.int .i64 ps'], [vbk], rfl, ⟨rfl, t.ips⟩, vbk, rfl, s4⟩⟩
   rcases List.mem_or_eq_of_mem_set hx with q | q
   ·exact (hf.blk x q).mono (by omega)
   ·rw [q]; exact t.tb
  refine lwp_hide fun y hy => ?_
  simp [look_setE, look_kill, r2, r4, r5, r7, r8, r9, r10, r11]
  rw [hy]; clear hy y
  simp only [lwp_block]
  refine lwp_hide fun y hy => ?_
  simp [look_setE, look_kill, r2, r4, r5, r7, r8, r9, r10, r11]
  rw [hy]; clear hy y
  by_cases w0 : what = 0
  ·refine lwp_cond_t (by simp [look_setE, look_kill, w0]) ?_
   simp [look_setE, look_kill, r2, r4, r5, r7, r8, r9, r10, r11]
   refine t.do_params w17 i64_rng (by kernel_rfl) rfl rfl fun h2 tE => ?_
   refine fin _ _ (tE.mono (by omega)) ?_ ?_ ?_ ?_ ?_ <;> simp [look_setE, look_kill, r2, r4, r5, r8, r10]
  refine lwp_cond_f (by simp [look_setE, look_kill, w0]) ?_
  refine lwp_hide fun y hy => ?_
  simp [look_setE, look_kill, r2, r4, r5, r7, r8, r9, r10, r11]
  rw [hy]; clear hy y
  by_cases w1 : what = 1
  ·refine lwp_cond_t (by simp [look_setE, look_kill, w1]) ?_
   refine lwp_hide fun y hy => ?_
   simp [look_setE, look_kill, r2, r4, r5, r7, r8, r9, r10, r11, x1, hli]
   rw [hy]; clear hy y
   by_cases c1 : 0 < xb.ins.length
   ·have hj := hj1 c1
    refine lwp_cond_t (by simp [look_setE, look_kill]; exact c1) ?_
    simp (disch := omega) [look_setE, look_kill, r2, r4, r5, r7, r8, r9, r10, r11, x1, sI.idxn (N := 5) rfl]
    refine t.do_ins InsD.p_op w17 (j := j) (d := _) hj (rd_int.2 ⟨rfl, i64_rng⟩) (by show xb.ins[j].args.length ≤ c; exact t.tb.iar xb.ins[j] (List.getElem_mem hj)) (by kernel_rfl) rfl rfl fun h2 tE => ?_
    refine fin _ _ (tE.mono (by omega)) ?_ ?_ ?_ ?_ ?_ <;> simp [look_setE, look_kill, r2, r4, r5, r8, r10]
   ·have he : xb.ins = [] := List.eq_nil_of_length_eq_zero (by omega)
    refine lwp_cond_f (by simp [look_setE, look_kill, he]) ?_
    simp
    refine fin _ _ (TuE.mono ⟨_, _, _, _, _, _, _, _, _, _, _, _, _, t, w17⟩ (by omega)) ?_ ?_ ?_ ?_ ?_ <;> simp [look_setE, look_kill, r2, r4, r5, r8, r10]
  refine lwp_cond_f (by simp [look_setE, look_kill, w1]) ?_
  refine lwp_hide fun y hy => ?_
  simp [look_setE, look_kill, r2, r4, r5, r7, r8, r9, r10, r11]
  rw [hy]; clear hy y
  by_cases w2 : what = 2
  ·refine lwp_cond_t (by simp [look_setE, look_kill, w2]) ?_
   refine lwp_hide fun y hy => ?_
   simp [look_setE, look_kill, r2, r4, r5, r7, r8, r9, r10, r11, x1, hli]
   rw [hy]; clear hy y
   by_cases c1 : 0 < xb.ins.length
   ·have hj := hj1 c1
    refine lwp_cond_t (by simp [look_setE, look_kill]; exact c1) ?_
    simp (disch := omega) [look_setE, look_kill, r2, r4, r5, r7, r8, r9, r10, r11, x1, sI.idxn (N := 5) rfl]
    refine t.do_ins InsD.p_dst w17 (j := j) (d := (n : Int)) hj (rd_int.2 ⟨rfl, by constructor <;> omega⟩) (by show xb.ins[j].args.length ≤ c; exact t.tb.iar xb.ins[j] (List.getElem_mem hj)) (by kernel_rfl) rfl rfl fun h2 tE => ?_
    refine fin _ _ (tE.mono (by omega)) ?_ ?_ ?_ ?_ ?_ <;> simp [look_setE, look_kill, r2, r4, r5, r8, r10]
   ·have he : xb.ins = [] := List.eq_nil_of_length_eq_zero (by omega)
    refine lwp_cond_f (by simp [look_setE, look_kill, he]) ?_
    simp
    refine fin _ _ (TuE.mono ⟨_, _, _, _, _, _, _, _, _, _, _, _, _, t, w17⟩ (by omega)) ?_ ?_ ?_ ?_ ?_ <;> simp [look_setE, look_kill, r2, r4, r5, r8, r10]
  refine lwp_cond_f (by simp [look_setE, look_kill, w2]) ?_
  refine lwp_hide fun y hy => ?_
  simp [look_setE, look_kill, r2, r4, r5, r7, r8, r9, r10, r11]
  rw [hy]; clear hy y
  by_cases w3 : what = 3
  ·refine lwp_cond_t (by simp [look_setE, look_kill, w3]) ?_
   refine lwp_hide fun y hy => ?_
   by_cases c1 : 0 < xb.ins.length
   ·have hj := hj1 c1
    have c1i : (0 : Int) < xb.ins.length := by omega
    obtain ⟨va3, ca3, ra3⟩ := Owns.insW w17 t.ins hj
    have hta := t.tb.iar _ (List.getElem_mem hj)
    simp (disch := omega) [look_setE, look_kill, r2, r4, r5, r7, r8, r9, r10, r11, x1, hli, c1, c1i, sI.idxn (N := 5) rfl, ca3, ra3.len]
    rw [hy]; clear hy y
    by_cases c2 : 0 < xb.ins[j].args.length
    ·refine lwp_cond_t (by simp [look_setE, look_kill]; first | exact c2 | omega) ?_
     refine lwp_hide fun y hy => ?_
     simp [look_setE, look_kill]
     refine w17.do_empty (k := (4, 0)) (α := Int) t.free El.s_int fun v18 h18 hle18 hv18 w18 _ => ?_
     simp (disch := omega) [look_setE, look_kill, r2, r4, r5, r7, r8, r9, r10, r11, cellH_mono hle18 x1, (sI.mono hle18).idxn (N := 5) rfl, cellH_mono hle18 ca3]
     refine w18.do_append (k := (4, 0)) (α := Int) (l := ([] : List Int)) (l2 := xb.ins[j].args) Own.upd_self El.s_int rfl rfl (ra3.src w18.wle) (by simp; omega) (by simp; omega) fun v19 h19 w19 _ => ?_
     rw [List.nil_append] at w19
     have w19 : Owns W2 h19 (o17.upd (4, 0) (it T.int v19 xb.ins[j].args)) := w19.congr fun q => by rw [upd_upd]
     rw [hy]; clear hy y
     refine lwp_hide fun y hy => ?_
     have s19 := w19.now (k := (4, 0)) Own.upd_self
     have m0 := Int.tmod_nonneg (xb.ins[j].args.length : Int) (show (0 : Int) ≤ n by omega)
     have m1 := Int.tmod_lt_of_pos (n : Int) (show (0 : Int) < xb.ins[j].args.length by omega)
     have hne : ¬ xb.ins[j].args = [] := fun e => by rw [e] at c2; simp at c2
     simp (disch := omega) [look_setE, look_kill, r2, r4, r5, r7, r8, r9, r10, r11, s19.len, hne, s19.idx1 rfl]
     refine w19.do_put (k := (4, 0)) (α := Int) (v := v19) (l := xb.ins[j].args) (i := ((n : Int).tmod xb.ins[j].args.length).toNat) (d := (n : Int)) Own.upd_self (by kernel_rfl) (by rw [show Rep.n Int = 1 from rfl, Nat.mul_one]; rfl) rfl (by omega) (rd_int.2 ⟨rfl, by constructor <;> omega⟩) fun h20 w20 _ => ?_
     have w20 : Owns W2 h20 (o17.upd (4, 0) (it T.int v19 (xb.ins[j].args.set ((n : Int).tmod xb.ins[j].args.length).toNat n))) := w20.congr fun q => by rw [upd_upd]
     rw [hy]; clear hy y
     have x1' : cellH (vw h20) ⟨X, 1, none⟩ = some vi2 := w20.raw (k := (3, 1)) ((Own.upd_ne (by simp)).trans t.box) (i := 1) (by decide)
     have sI' := w20.now (k := (3, 2)) ((Own.upd_ne (by simp)).trans t.ins)
     obtain ⟨w21, s21⟩ := w20.freeze Own.upd_self
     have hWp := le_plus (h := h20) (w20.av _ _ Own.upd_self)
     have w21 := w21.congr (o' := o17) fun q => by
      rw [upd_upd]; unfold Own.upd; split
      ·rename_i e; rw [e]; exact t.free
      ·rfl
     simp (disch := omega) [look_setE, look_kill, r2, r4, r5, r7, r8, r9, r10, r11, x1', sI'.idxn (N := 5) rfl]
     refine (t.wider hWp).do_ins InsD.p_args w21 (j := j) (d := xb.ins[j].args.set ((n : Int).tmod xb.ins[j].args.length).toNat n) hj (rd_list.2 s21) (by show (List.set _ _ _).length ≤ _; rw [List.length_set]; exact hta) (by kernel_rfl) rfl rfl fun h2 tE => ?_
     refine fin _ _ (tE.mono (by omega)) ?_ ?_ ?_ ?_ ?_ <;> simp [look_setE, look_kill, r2, r4, r5, r8, r10]
    ·refine lwp_cond_f (by simp [look_setE, look_kill]; first | omega | exact List.eq_nil_of_length_eq_zero (by omega)) ?_
     simp
     refine fin _ _ (TuE.mono ⟨_, _, _, _, _, _, _, _, _, _, _, _, _, t, w17⟩ (by omega)) ?_ ?_ ?_ ?_ ?_ <;> simp [look_setE, look_kill, r2, r4, r5, r8, r10]
   ·have he : xb.ins = [] := List.eq_nil_of_length_eq_zero (by omega)
    have c1i : ¬ (0 : Int) < xb.ins.length := by omega
    simp [look_setE, look_kill, r2, r4, r5, r7, r8, r9, r10, r11, x1, hli, c1, c1i]
    rw [hy]; clear hy y
    refine lwp_cond_f (by simp [look_setE, look_kill]) ?_
    simp
    refine fin _ _ (TuE.mono ⟨_, _, _, _, _, _, _, _, _, _, _, _, _, t, w17⟩ (by omega)) ?_ ?_ ?_ ?_ ?_ <;> simp [look_setE, look_kill, r2, r4, r5, r8, r10]
  refine lwp_cond_f (by simp [look_setE, look_kill, w3]) ?_
  refine lwp_hide fun y hy => ?_
  simp [look_setE, look_kill, r2, r4, r5, r7, r8, r9, r10, r11]
  rw [hy]; clear hy y
  by_cases w4 : what = 4
  ·refine lwp_cond_t (by simp [look_setE, look_kill, w4]) ?_
   simp [look_setE, look_kill]
   refine w17.do_empty (k := (4, 0)) (α := Int) t.free El.s_int fun v18 h18 hle18 hv18 w18 _ => ?_
   simp (disch := omega) [look_setE, look_kill, r2, r4, r5, r7, r8, r9, r10, r11, cellH_mono hle18 x4]
   refine w18.do_append (k := (4, 0)) (α := Int) (l := ([] : List Int)) (l2 := xb.term.to) Own.upd_self El.s_int rfl rfl (t.rt.src w18.wle) (by simp; omega) (by simp; omega) fun v19 h19 w19 _ => ?_
   rw [List.nil_append] at w19
   have w19 : Owns W2 h19 (o17.upd (4, 0) (it T.int v19 xb.term.to)) := w19.congr fun q => by rw [upd_upd]
   refine w19.do_push (k := (4, 0)) (α := Int) (d := IntKind.i64.wrap ((n : Int).tmod 12 - 1)) Own.upd_self El.s_int rfl (rd_int.2 ⟨rfl, i64_rng⟩) (by omega) (by omega) (fun _ => rfl) (fun _ => rfl) fun u20 v20 h20 w20 _ => ?_
   have w20 : Owns W2 h20 (o17.upd (4, 0) (it T.int v20 (xb.term.to ++ [IntKind.i64.wrap ((n : Int).tmod 12 - 1)]))) := w20.congr fun q => by rw [upd_upd]
   obtain ⟨w21, s21⟩ := w20.freeze Own.upd_self
   have hWp := le_plus (h := h20) (w20.av _ _ Own.upd_self)
   have w21 := w21.congr (o' := o17) fun q => by
    rw [upd_upd]; unfold Own.upd; split
    ·rename_i e; rw [e]; exact t.free
    ·rfl
   refine ((t.wider hWp).more (d := c + 1) (by omega)).do_to w21 s21 (by rw [List.length_append, List.length_singleton]; omega) (by kernel_rfl) rfl rfl fun h2 tE => ?_
   refine fin _ _ tE ?_ ?_ ?_ ?_ ?_ <;> simp [look_setE, look_kill, r2, r4, r5, r8, r10]
  refine lwp_cond_f (by simp [look_setE, look_kill, w4]) ?_
  refine lwp_hide fun y hy => ?_
  simp [look_setE, look_kill, r2, r4, r5, r7, r8, r9, r10, r11]
  rw [hy]; clear hy y
  by_cases w5 : what = 5
  ·refine lwp_cond_t (by simp [look_setE, look_kill, w5]) ?_
   simp [look_setE, look_kill, r2, r4, r5, r7, r8, r9, r10, r11]
   have m0 := Int.tmod_nonneg (7 : Int) (show (0 : Int) ≤ n by omega)
   have m1 := Int.tmod_lt_of_pos (n : Int) (show (0 : Int) < 7 by omega)
   refine t.do_kind w17 (p := (n : Int).tmod 7) (by constructor <;> omega) (by kernel_rfl) rfl rfl fun h2 tE => ?_
   refine fin _ _ (tE.mono (by omega)) ?_ ?_ ?_ ?_ ?_ <;> simp [look_setE, look_kill, r2, r4, r5, r8, r10]
  refine lwp_cond_f (by simp [look_setE, look_kill, w5]) ?_
  refine lwp_hide fun y hy => ?_
  simp [look_setE, look_kill, r2, r4, r5, r7, r8, r9, r10, r11]
  rw [hy]; clear hy y
  by_cases w6 : what = 6
  ·refine lwp_cond_t (by simp [look_setE, look_kill, w6]) ?_
   refine lwp_hide fun y hy => ?_
   simp [look_setE, look_kill, r2, r4, r5, r7, r8, r9, r10, r11, x0, hlp]
   rw [hy]; clear hy y
   by_cases c1 : 0 < xb.phis.length
   ·refine lwp_cond_t (by simp [look_setE, look_kill]; exact c1) ?_
    have m0 := Int.tmod_nonneg (xb.phis.length : Int) (show (0 : Int) ≤ n by omega)
    have m1 := Int.tmod_lt_of_pos (n : Int) (show (0 : Int) < xb.phis.length by omega)
    obtain ⟨q, hq⟩ : ∃ q : Nat, (n : Int).tmod xb.phis.length = q := ⟨((n : Int).tmod xb.phis.length).toNat, by omega⟩
    have hql : q < xb.phis.length := by omega
    obtain ⟨va3, ca3, ra3⟩ := Owns.phiW w17 t.phis hql
    have hta := t.tb.pin _ (List.getElem_mem hql)
    have hne : ¬ xb.phis = [] := fun e => by rw [e] at c1; simp at c1
    have q50 := Int.tmod_nonneg (5 : Int) (show (0 : Int) ≤ n by omega)
    have q51 := Int.tmod_lt_of_pos (n : Int) (show (0 : Int) < 5 by omega)
    have ixq : Bn.ev (.idx 2) vp2 (.int .i64 q) = some (.pointer (some ((slA vp2).add (q * 2)))) := by
     have := sP.idxn (N := 2) rfl (k := .i64) (i := q) (by omega) (by omega); simpa using this
    refine drawn_at (vw h17) (View.le_refl _) ?_
    simp [look_setE, look_kill, r2, r4, r5, r7, r8, r9, r10, r11, x0, hlp, hne, hq, ixq, ca3]
    have A2 : ∀ {po2 po3 : OP} {W : View} {hh : Heap} {v1 u : Value} {ty ty3 : TypeId} {us : List (Nat × Value)} {us3 : Value → List (Nat × Value)} {x y c1 c2 : Operand} {K2 : Value → Value → Heap → Prop}, W2.le W → Owns W hh (o17.upd (4, 0) (it T.api_In v1 xb.phis[q].ins)) → SlRd W u [InD.mk ((n : Int).tmod 5) n] → (vw h17).le (vw hh) → Av (vw h17) v1 → asg us x = v1 → asg us y = u →
      (∀ v, asg (us3 v) c1 = .pointer (some (((slA vp2).add (q * 2)).add 1))) → (∀ v, asg (us3 v) c2 = v) → (∀ v h', TuE R F X o0 (c + 1) W2 vbk f.blocks h' → K2 v undef h') →
      @Lft.step po2 Try.prog (.call ⟨.builtin .append, #[x, y], #[T.s_api_In, T.s_api_In]⟩) ty us hh fun v h' => (vw h17).le (vw h') ∧ @Lft.step po3 Try.prog (.store T.s_api_In c1 c2) ty3 (us3 v) h' fun w h'' => K2 v w h'' := by
     intro po2 po3 W hh v1 u ty ty3 us us3 x y c1 c2 K2 hW w su le av hx hy hc1 hc2 hK2
     refine w.do_append (k := (4, 0)) (α := InD) (l := xb.phis[q].ins) (l2 := [InD.mk ((n : Int).tmod 5) n]) Own.upd_self El.s_api_In hx hy (su.src w.wle) (by simp; omega) (by simp; omega) fun v2 h2 wb m2 => ⟨(m2.view le av).1, ?_⟩
     have wb : Owns W h2 (o17.upd (4, 0) (it T.api_In v2 (xb.phis[q].ins ++ [InD.mk ((n : Int).tmod 5) n]))) := wb.congr fun k => by rw [upd_upd]
     obtain ⟨wc, sc⟩ := wb.freeze Own.upd_self
     have hWp := le_plus (h := h2) (wb.av _ _ Own.upd_self)
     have wc := wc.congr (o' := o17) fun k => by
      rw [upd_upd]; unfold Own.upd; split
      ·rename_i e; rw [e]; exact t.free
      ·rfl
     exact ((t.wider (View.le_trans hW hWp)).more (d := c + 1) (by omega)).do_phi wc (j := q) hql sc (by rw [List.length_append, List.length_singleton]; omega) (by kernel_rfl) (hc1 v2) (hc2 v2) fun h' tE => hK2 v2 h' tE
    have i5 : I64 ((n : Int).tmod 5) := ⟨by omega, by omega⟩
    have in_ : I64 (n : Int) := ⟨by omega, by omega⟩
    constructor
    ·refine w17.do_empty (k := (4, 0)) (α := InD) t.free El.s_api_In fun v0 h18 le18 _ w18 av18 => ⟨le18, ?_⟩
     have av18 := av18 (vw h17) (View.le_refl _)
     constructor
     ·refine w18.do_append (k := (4, 0)) (α := InD) (l := ([] : List InD)) (l2 := xb.phis[q].ins) Own.upd_self El.s_api_In rfl rfl (ra3.src w18.wle) (by simp; omega) (by simp; omega) fun v1 h19 w19 m19 => ?_
      obtain ⟨le19, av19⟩ := m19.view le18 av18
      rw [List.nil_append] at w19
      have w19 : Owns W2 h19 (o17.upd (4, 0) (it T.api_In v1 xb.phis[q].ins)) := w19.congr fun k => by rw [upd_upd]
      refine ⟨le19, ?_⟩
      refine do_build (z := .agg #[.int .i64 0, .int .i64 0]) (places := [(0, 1), (1, 1)]) (vs := [(0, .int .i64 ((n : Int).tmod 5)), (1, .int .i64 n)]) (cs := #[.int .i64 ((n : Int).tmod 5), .int .i64 n]) (by kernel_rfl) (by kernel_rfl) (by simp) (by rfl) ⟨le19, ?_⟩
      refine do_oneIn i5 in_ rfl fun h20 le20 su => ⟨View.le_trans le19 le20, ?_⟩
      refine A2 (le_grow w19.wle) (w19.ext le20) (su _ (grow_new (Nat.le_refl _))) (View.le_trans le19 le20) av19 rfl rfl (fun _ => rfl) (fun _ => rfl) fun v h' tE => ?_
      refine fin _ _ tE ?_ ?_ ?_ ?_ ?_ <;> simp [look_setE, look_kill, r2, r4, r5, r8, r10]
     ·refine do_build (z := .agg #[.int .i64 0, .int .i64 0]) (places := [(0, 1), (1, 1)]) (vs := [(0, .int .i64 ((n : Int).tmod 5)), (1, .int .i64 n)]) (cs := #[.int .i64 ((n : Int).tmod 5), .int .i64 n]) (by kernel_rfl) (by kernel_rfl) (by simp) (by rfl) ⟨le18, ?_⟩
      constructor
      ·refine w18.do_append (k := (4, 0)) (α := InD) (l := ([] : List InD)) (l2 := xb.phis[q].ins) Own.upd_self El.s_api_In rfl rfl (ra3.src w18.wle) (by simp; omega) (by simp; omega) fun v1 h19 w19 m19 => ?_
       obtain ⟨le19, av19⟩ := m19.view le18 av18
       rw [List.nil_append] at w19
       have w19 : Owns W2 h19 (o17.upd (4, 0) (it T.api_In v1 xb.phis[q].ins)) := w19.congr fun k => by rw [upd_upd]
       refine ⟨le19, ?_⟩
       refine do_oneIn i5 in_ rfl fun h20 le20 su => ⟨View.le_trans le19 le20, ?_⟩
       refine A2 (le_grow w19.wle) (w19.ext le20) (su _ (grow_new (Nat.le_refl _))) (View.le_trans le19 le20) av19 rfl rfl (fun _ => rfl) (fun _ => rfl) fun v h' tE => ?_
       refine fin _ _ tE ?_ ?_ ?_ ?_ ?_ <;> simp [look_setE, look_kill, r2, r4, r5, r8, r10]
      ·refine do_oneIn i5 in_ rfl fun h20 le20 su => ⟨View.le_trans le18 le20, ?_⟩
       have w20 := w18.ext le20
       have hW20 := le_grow (h' := h20) w18.wle
       have su := su _ (grow_new (W := W2) (Nat.le_refl _))
       refine w20.do_append (k := (4, 0)) (α := InD) (l := ([] : List InD)) (l2 := xb.phis[q].ins) Own.upd_self El.s_api_In rfl rfl ((ra3.mono hW20).src w20.wle) (by simp; omega) (by simp; omega) fun v1 h21 w21 m21 => ?_
       obtain ⟨le21, av21⟩ := m21.view (View.le_trans le18 le20) av18
       rw [List.nil_append] at w21
       have w21 := w21.congr (o' := o17.upd (4, 0) (it T.api_In v1 xb.phis[q].ins)) fun k => by rw [upd_upd]
       refine ⟨le21, ?_⟩
       refine A2 hW20 w21 su le21 av21 rfl rfl (fun _ => rfl) (fun _ => rfl) fun v h' tE => ?_
       refine fin _ _ tE ?_ ?_ ?_ ?_ ?_ <;> simp [look_setE, look_kill, r2, r4, r5, r8, r10]
    ·refine do_build (z := .agg #[.int .i64 0, .int .i64 0]) (places := [(0, 1), (1, 1)]) (vs := [(0, .int .i64 ((n : Int).tmod 5)), (1, .int .i64 n)]) (cs := #[.int .i64 ((n : Int).tmod 5), .int .i64 n]) (by kernel_rfl) (by kernel_rfl) (by simp) (by rfl) ⟨View.le_refl _, ?_⟩
     constructor
     ·refine w17.do_empty (k := (4, 0)) (α := InD) t.free El.s_api_In fun v0 h18 le18 _ w18 av18 => ⟨le18, ?_⟩
      have av18 := av18 (vw h17) (View.le_refl _)
      constructor
      ·refine w18.do_append (k := (4, 0)) (α := InD) (l := ([] : List InD)) (l2 := xb.phis[q].ins) Own.upd_self El.s_api_In rfl rfl (ra3.src w18.wle) (by simp; omega) (by simp; omega) fun v1 h19 w19 m19 => ?_
       obtain ⟨le19, av19⟩ := m19.view le18 av18
       rw [List.nil_append] at w19
       have w19 : Owns W2 h19 (o17.upd (4, 0) (it T.api_In v1 xb.phis[q].ins)) := w19.congr fun k => by rw [upd_upd]
       refine ⟨le19, ?_⟩
       refine do_oneIn i5 in_ rfl fun h20 le20 su => ⟨View.le_trans le19 le20, ?_⟩
       refine A2 (le_grow w19.wle) (w19.ext le20) (su _ (grow_new (Nat.le_refl _))) (View.le_trans le19 le20) av19 rfl rfl (fun _ => rfl) (fun _ => rfl) fun v h' tE => ?_
       refine fin _ _ tE ?_ ?_ ?_ ?_ ?_ <;> simp [look_setE, look_kill, r2, r4, r5, r8, r10]
      ·refine do_oneIn i5 in_ rfl fun h20 le20 su => ⟨View.le_trans le18 le20, ?_⟩
       have w20 := w18.ext le20
       have hW20 := le_grow (h' := h20) w18.wle
       have su := su _ (grow_new (W := W2) (Nat.le_refl _))
       refine w20.do_append (k := (4, 0)) (α := InD) (l := ([] : List InD)) (l2 := xb.phis[q].ins) Own.upd_self El.s_api_In rfl rfl ((ra3.mono hW20).src w20.wle) (by simp; omega) (by simp; omega) fun v1 h21 w21 m21 => ?_
       obtain ⟨le21, av21⟩ := m21.view (View.le_trans le18 le20) av18
       rw [List.nil_append] at w21
       have w21 := w21.congr (o' := o17.upd (4, 0) (it T.api_In v1 xb.phis[q].ins)) fun k => by rw [upd_upd]
       refine ⟨le21, ?_⟩
       refine A2 hW20 w21 su le21 av21 rfl rfl (fun _ => rfl) (fun _ => rfl) fun v h' tE => ?_
       refine fin _ _ tE ?_ ?_ ?_ ?_ ?_ <;> simp [look_setE, look_kill, r2, r4, r5, r8, r10]
     ·refine do_oneIn i5 in_ rfl fun h18 le18 su => ⟨le18, ?_⟩
      have w18 := w17.ext le18
      have hW18 := le_grow (h' := h18) w17.wle
      have su := su _ (grow_new (W := W2) (Nat.le_refl _))
      refine w18.do_empty (k := (4, 0)) (α := InD) t.free El.s_api_In fun v0 h19 le19 _ w19 av19 => ⟨View.le_trans le18 le19, ?_⟩
      have av19 := av19 (vw h17) le18
      refine w19.do_append (k := (4, 0)) (α := InD) (l := ([] : List InD)) (l2 := xb.phis[q].ins) Own.upd_self El.s_api_In rfl rfl ((ra3.mono hW18).src w19.wle) (by simp; omega) (by simp; omega) fun v1 h21 w21 m21 => ?_
      obtain ⟨le21, av21⟩ := m21.view (View.le_trans le18 le19) av19
      rw [List.nil_append] at w21
      have w21 := w21.congr (o' := o17.upd (4, 0) (it T.api_In v1 xb.phis[q].ins)) fun k => by rw [upd_upd]
      refine ⟨le21, ?_⟩
      refine A2 hW18 w21 su le21 av21 rfl rfl (fun _ => rfl) (fun _ => rfl) fun v h' tE => ?_
      refine fin _ _ tE ?_ ?_ ?_ ?_ ?_ <;> simp [look_setE, look_kill, r2, r4, r5, r8, r10]
   ·have he : xb.phis = [] := List.eq_nil_of_length_eq_zero (by omega)
    refine lwp_cond_f (by simp [look_setE, look_kill, he]) ?_
    simp
    refine fin _ _ (TuE.mono ⟨_, _, _, _, _, _, _, _, _, _, _, _, _, t, w17⟩ (by omega)) ?_ ?_ ?_ ?_ ?_ <;> simp [look_setE, look_kill, r2, r4, r5, r8, r10]
  refine lwp_cond_f (by simp [look_setE, look_kill, w6]) ?_
  refine lwp_hide fun y hy => ?_
  simp [look_setE, look_kill, r2, r4, r5, r7, r8, r9, r10, r11]
  rw [hy]; clear hy y
  by_cases w7 : what = 7
  ·refine lwp_cond_t (by simp [look_setE, look_kill, w7]) ?_
   refine lwp_hide fun y hy => ?_
   by_cases c1 : 0 < xb.phis.length
   ·have c1i : (0 : Int) < xb.phis.length := by omega
    obtain ⟨va3, ca3, ra3⟩ := Owns.phiW w17 t.phis c1
    have ca3 : cellH (vw h17) (((slA vp2).add 0).add 1) = some va3 := by have := ca3; rwa [Nat.zero_mul] at this
    have hta := t.tb.pin _ (List.getElem_mem c1)
    have hix : ∀ {l : List PhiD}, SlRd (vw h17) vp2 l → True := fun _ => trivial
    have ix0 : Bn.ev (.idx 2) vp2 (.int .i64 0) = some (.pointer (some ((slA vp2).add 0))) := by
     have := sP.idxn (N := 2) rfl (k := .i64) (i := 0) (by omega) (by omega); simpa using this
    simp (disch := omega) [look_setE, look_kill, r2, r4, r5, r7, r8, r9, r10, r11, x0, hlp, c1, c1i, ix0, ca3, ra3.len]
    rw [hy]; clear hy y
    by_cases c2 : 0 < xb.phis[0].ins.length
    ·refine lwp_cond_t (by simp [look_setE, look_kill]; first | exact c2 | omega) ?_
     refine lwp_hide fun y hy => ?_
     simp [look_setE, look_kill]
     refine w17.do_empty (k := (4, 0)) (α := InD) t.free El.s_api_In fun v18 h18 hle18 hv18 w18 _ => ?_
     simp (disch := omega) [look_setE, look_kill, r2, r4, r5, r7, r8, r9, r10, r11, cellH_mono hle18 x0, ix0, cellH_mono hle18 ca3]
     refine w18.do_append (k := (4, 0)) (α := InD) (l := ([] : List InD)) (l2 := xb.phis[0].ins) Own.upd_self El.s_api_In rfl rfl (ra3.src w18.wle) (by simp; omega) (by simp; omega) fun v19 h19 w19 _ => ?_
     rw [List.nil_append] at w19
     have w19 : Owns W2 h19 (o17.upd (4, 0) (it T.api_In v19 xb.phis[0].ins)) := w19.congr fun q => by rw [upd_upd]
     rw [hy]; clear hy y
     refine lwp_hide fun y hy => ?_
     have s19 := w19.now (k := (4, 0)) Own.upd_self
     have m0 := Int.tmod_nonneg (xb.phis[0].ins.length : Int) (show (0 : Int) ≤ n by omega)
     have m1 := Int.tmod_lt_of_pos (n : Int) (show (0 : Int) < xb.phis[0].ins.length by omega)
     have hne : ¬ xb.phis[0].ins = [] := fun e => by rw [e] at c2; simp at c2
     simp (disch := omega) [look_setE, look_kill, r2, r4, r5, r7, r8, r9, r10, r11, s19.len, hne, s19.idxn (N := 2) rfl]
     refine w19.do_part (k := (4, 0)) (α := InD) InD.p_val (v := v19) (l := xb.phis[0].ins) (i := ((n : Int).tmod xb.phis[0].ins.length).toNat) (d := (n : Int)) Own.upd_self (by kernel_rfl) rfl rfl (by omega) (rd_int.2 ⟨rfl, by constructor <;> omega⟩) fun h20 w20 _ => ?_
     have w20 : Owns W2 h20 (o17.upd (4, 0) (it T.api_In v19 _)) := w20.congr fun q => by rw [upd_upd]
     rw [hy]; clear hy y
     have x0' : cellH (vw h20) ⟨X, 0, none⟩ = some vp2 := w20.raw (k := (3, 1)) ((Own.upd_ne (by simp)).trans t.box) (i := 0) (by decide)
     obtain ⟨w21, s21⟩ := w20.freeze Own.upd_self
     have hWp := le_plus (h := h20) (w20.av _ _ Own.upd_self)
     have w21 := w21.congr (o' := o17) fun q => by
      rw [upd_upd]; unfold Own.upd; split
      ·rename_i e; rw [e]; exact t.free
      ·rfl
     simp (disch := omega) [look_setE, look_kill, r2, r4, r5, r7, r8, r9, r10, r11, x0', ix0]
     refine (t.wider hWp).do_phi w21 (j := 0) c1 s21 (by rw [List.length_set]; exact hta) (by kernel_rfl) (by rw [Nat.zero_mul]; rfl) rfl fun h2 tE => ?_
     refine fin _ _ (tE.mono (by omega)) ?_ ?_ ?_ ?_ ?_ <;> simp [look_setE, look_kill, r2, r4, r5, r8, r10]
    ·have he : xb.phis[0].ins = [] := List.eq_nil_of_length_eq_zero (by omega)
     refine lwp_cond_f (by simp [look_setE, look_kill, he]) ?_
     simp
     refine fin _ _ (TuE.mono ⟨_, _, _, _, _, _, _, _, _, _, _, _, _, t, w17⟩ (by omega)) ?_ ?_ ?_ ?_ ?_ <;> simp [look_setE, look_kill, r2, r4, r5, r8, r10]
   ·have he : xb.phis = [] := List.eq_nil_of_length_eq_zero (by omega)
    have c1i : ¬ (0 : Int) < xb.phis.length := by omega
    simp [look_setE, look_kill, r2, r4, r5, r7, r8, r9, r10, r11, x0, hlp, c1, c1i]
    rw [hy]; clear hy y
    refine lwp_cond_f (by simp [look_setE, look_kill, he]) ?_
    simp
    refine fin _ _ (TuE.mono ⟨_, _, _, _, _, _, _, _, _, _, _, _, _, t, w17⟩ (by omega)) ?_ ?_ ?_ ?_ ?_ <;> simp [look_setE, look_kill, r2, r4, r5, r8, r10]
  refine lwp_cond_f (by simp [look_setE, look_kill, w7]) ?_
  refine lwp_hide fun y hy => ?_
  simp [look_setE, look_kill, r2, r4, r5, r7, r8, r9, r10, r11]
  rw [hy]; clear hy y
  by_cases w8 : what = 8
  ·refine lwp_cond_t (by simp [look_setE, look_kill, w8]) ?_
   refine lwp_hide fun y hy => ?_
   simp [look_setE, look_kill, r2, r4, r5, r7, r8, r9, r10, r11, x1, hli]
   rw [hy]; clear hy y
   by_cases c1 : 0 < xb.ins.length
   ·have hj := hj1 c1
    refine lwp_cond_t (by simp [look_setE, look_kill]; exact c1) ?_
    obtain ⟨v1, v2, e1, e2, wc, src⟩ := Owns.cut w17 t.ins (N := 5) rfl hj
    have hwj : IntKind.i64.wrap ((j : Int) + 1) = (j : Int) + 1 := wrap64_id (by omega) (by omega)
    refine drawn_at (vw h17) (View.le_refl _) ?_
    simp [look_setE, look_kill, r2, r4, r5, r7, r8, r9, r10, r11, x1, e1, e2, hwj]
    refine wc.do_append (k := (3, 2)) (α := InsD) (l := xb.ins.take j) (l2 := xb.ins.drop (j + 1)) Own.upd_self El.s_api_Ins rfl rfl src (by simp; omega) (by simp; omega) fun v18 h18 w18 _ => ?_
    have w18 : Owns W2 h18 (o17.upd (3, 2) (it T.api_Ins v18 (xb.ins.take j ++ xb.ins.drop (j + 1)))) := w18.congr fun q => by rw [upd_upd]
    refine t.do_insV w18 (by simp; omega) (fun i hi => by
     rcases List.mem_append.1 hi with q | q
     ·exact t.tb.iar i (List.mem_of_mem_take q)
     ·exact t.tb.iar i (List.mem_of_mem_drop q)) (by kernel_rfl) rfl rfl fun h2 tE => ?_
    refine fin _ _ (tE.mono (by omega)) ?_ ?_ ?_ ?_ ?_ <;> simp [look_setE, look_kill, r2, r4, r5, r8, r10]
   ·have he : xb.ins = [] := List.eq_nil_of_length_eq_zero (by omega)
    refine lwp_cond_f (by simp [look_setE, look_kill, he]) ?_
    simp
    refine fin _ _ (TuE.mono ⟨_, _, _, _, _, _, _, _, _, _, _, _, _, t, w17⟩ (by omega)) ?_ ?_ ?_ ?_ ?_ <;> simp [look_setE, look_kill, r2, r4, r5, r8, r10]
  refine lwp_cond_f (by simp [look_setE, look_kill, w8]) ?_
  refine lwp_hide fun y hy => ?_
  simp [look_setE, look_kill, r2, r4, r5, r7, r8, r9, r10, r11]
  rw [hy]; clear hy y
  by_cases w9 : what = 9
  ·refine lwp_cond_t (by simp [look_setE, look_kill, w9]) ?_
   refine lwp_hide fun y hy => ?_
   simp [look_setE, look_kill, r2, r4, r5, r7, r8, r9, r10, r11, x1, hli]
   rw [hy]; clear hy y
   by_cases c1 : 1 < xb.ins.length
   ·have hj := hj1 (by omega)
    refine lwp_cond_t (by simp [look_setE, look_kill]; omega) ?_
    have h0i : 0 < xb.ins.length := by omega
    obtain ⟨u0, hu0, hr0⟩ := Owns.ldW w17 t.ins rfl (N := 5) rfl h0i
    obtain ⟨uj, huj, hrj⟩ := Owns.ldW w17 t.ins rfl (N := 5) rfl hj
    rw [Nat.zero_mul] at hu0
    obtain ⟨va0, rfl, rng0, ra0⟩ := ins_val hr0
    have ix0 : Bn.ev (.idx 5) vi2 (.int .i64 0) = some (.pointer (some ((slA vi2).add 0))) := by
     have := sI.idxn (N := 5) rfl (k := .i64) (i := 0) (by omega) (by omega); simpa using this
    refine lwp_hide fun y hy => ?_
    simp (disch := omega) [look_setE, look_kill, r2, r4, r5, r7, r8, r9, r10, r11, x1, ix0, hu0]
    have hva0 := ra0.cells.2
    refine w17.do_var (k := (4, 0)) (n := 4) (l := [.int .i64 xb.ins[0].op, .int .i64 xb.ins[0].dst, .int .i64 xb.ins[0].two, va0, .int .i32 xb.ins[0].imm.v]) t.free (z := .agg #[.int .i64 0, .int .i64 0, .int .i64 0, .slice none 0 0, .int .i32 0]) (by kernel_rfl) rfl (by kernel_rfl) rfl (by decide) (by intro c hc; simp only [List.mem_cons, List.not_mem_nil, or_false] at hc; rcases hc with rfl | rfl | rfl | rfl | rfl <;> first | rfl | assumption) (fun _ => by simp) (fun _ => by simp) fun h18 q18 w18 => ?_
    generalize h17.size = Y at w18
    have x18 := cellH_mono q18 x1
    have huj18 : Un.ev (vw h18) (.loads 5) (.pointer (some ((slA vi2).add (j * 5)))) = some uj := by
     have := ev_mono (ρ := fun _ => none) (e := .un (.loads 5) (.con (.pointer (some ((slA vi2).add (j * 5)))))) q18 (by simpa using huj)
     simpa using this
    rw [hy]; clear hy y
    refine lwp_hide fun y hy => ?_
    refine drawn_at (vw h18) (View.le_refl _) ?_
    simp (disch := omega) [look_setE, look_kill, r2, r4, r5, r7, r8, r9, r10, r11, x18, ix0, sI.idxn (N := 5) rfl, huj18]
    refine w18.do_put (k := (3, 2)) (α := InsD) (v := vi2) (l := xb.ins) (i := 0) (d := xb.ins[j]) ((Own.upd_ne (by simp)).trans t.ins) (by kernel_rfl) (by rw [Nat.zero_mul]; rfl) rfl h0i hrj fun h19 w19 _ => ?_
    have cY := w19.rawAll (k := (4, 0)) (n := 4) ((Own.upd_ne (by simp)).trans Own.upd_self)
    have cY : Un.ev (vw h19) (.loads 5) (.pointer (some ⟨Y, 0, none⟩)) = some (.agg #[.int .i64 xb.ins[0].op, .int .i64 xb.ins[0].dst, .int .i64 xb.ins[0].two, va0, .int .i32 xb.ins[0].imm.v]) := cY
    have x19 : cellH (vw h19) ⟨X, 1, none⟩ = some vi2 := w19.raw (k := (3, 1)) ((Own.upd_ne (by simp)).trans ((Own.upd_ne (by simp)).trans t.box)) (i := 1) (by decide)
    have s19 := w19.now (k := (3, 2)) Own.upd_self
    rw [hy]; clear hy y
    simp (disch := first | omega | (simp; omega)) [look_setE, look_kill, r2, r4, r5, r7, r8, r9, r10, r11, x19, cY, s19.idxn (N := 5) rfl]
    refine w19.do_put (k := (3, 2)) (α := InsD) (v := vi2) (l := xb.ins.set 0 xb.ins[j]) (i := j) (d := xb.ins[0]) Own.upd_self (by kernel_rfl) rfl rfl (by rw [List.length_set]; exact hj) hr0 fun h20 w20 _ => ?_
    have w20 : Owns W2 h20 (o17.upd (3, 2) (it T.api_Ins vi2 ((xb.ins.set 0 xb.ins[j]).set j xb.ins[0]))) := w20.sub fun k i hk => by
     have hk4 : k ≠ (4, 0) := by rintro rfl; rw [Own.upd_ne (by simp), t.free] at hk; cases hk
     by_cases e : k = (3, 2)
     ·subst e; rw [Own.upd_self] at hk ⊢; exact hk
     ·rw [Own.upd_ne e] at hk; rw [Own.upd_ne e, Own.upd_ne e, Own.upd_ne hk4]; exact hk
    refine fin _ _ (TuE.mono ⟨W2, _, f.params, vp2, vi2, va, vt, xb.term.kind, xb.term.imm.v, xb.phis, (xb.ins.set 0 xb.ins[j]).set j xb.ins[0], xb.term.args, xb.term.to, ⟨t.le, (Own.upd_ne (by simp)).trans t.res, (Own.upd_ne (by simp)).trans t.fn, (Own.upd_ne (by simp)).trans t.blk, (Own.upd_ne (by simp)).trans t.box, Own.upd_self, (Own.upd_ne (by simp)).trans t.phis, (Own.upd_ne (by simp)).trans t.free, fun k hk => (Own.upd_ne (by rintro rfl; simp at hk)).trans (t.fr k hk), t.ra, t.rt, t.ips, t.ikd, t.iim, ⟨t.tb.phis, by rw [List.length_set, List.length_set]; exact t.tb.ins, t.tb.args, t.tb.to, t.tb.pin, fun i hi => ?_⟩⟩, w20⟩ (by omega)) ?_ ?_ ?_ ?_ ?_
    ·rcases List.mem_or_eq_of_mem_set hi with q | q
     ·rcases List.mem_or_eq_of_mem_set q with q | q
      ·exact t.tb.iar i q
      ·rw [q]; exact t.tb.iar _ (List.getElem_mem hj)
     ·rw [q]; exact t.tb.iar _ (List.getElem_mem h0i)
    all_goals simp [look_setE, look_kill, r2, r4, r5, r8, r10]
   ·refine lwp_cond_f (by simp [look_setE, look_kill]; omega) ?_
    simp
    refine fin _ _ (TuE.mono ⟨_, _, _, _, _, _, _, _, _, _, _, _, _, t, w17⟩ (by omega)) ?_ ?_ ?_ ?_ ?_ <;> simp [look_setE, look_kill, r2, r4, r5, r8, r10]
  refine lwp_cond_f (by simp [look_setE, look_kill, w9]) ?_
  refine lwp_hide fun y hy => ?_
  simp [look_setE, look_kill, r2, r4, r5, r7, r8, r9, r10, r11]
  rw [hy]; clear hy y
  by_cases w10 : what = 10
  ·refine lwp_cond_t (by simp [look_setE, look_kill, w10]) ?_
   refine lwp_hide fun y hy => ?_
   simp [look_setE, look_kill, r2, r4, r5, r7, r8, r9, r10, r11, x4, hlt]
   rw [hy]; clear hy y
   by_cases c1 : 0 < xb.term.to.length
   ·refine lwp_cond_t (by simp [look_setE, look_kill]; exact c1) ?_
    refine lwp_hide fun y hy => ?_
    simp [look_setE, look_kill]
    refine w17.do_empty (k := (4, 0)) (α := Int) t.free El.s_int fun v18 h18 hle18 hv18 w18 _ => ?_
    simp (disch := omega) [look_setE, look_kill, r2, r4, r5, r7, r8, r9, r10, r11, cellH_mono hle18 x4]
    refine w18.do_append (k := (4, 0)) (α := Int) (l := ([] : List Int)) (l2 := xb.term.to) Own.upd_self El.s_int rfl rfl (t.rt.src w18.wle) (by simp; omega) (by simp; omega) fun v19 h19 w19 _ => ?_
    rw [List.nil_append] at w19
    have w19 : Owns W2 h19 (o17.upd (4, 0) (it T.int v19 xb.term.to)) := w19.congr fun q => by rw [upd_upd]
    rw [hy]; clear hy y
    refine lwp_hide fun y hy => ?_
    have s19 := w19.now (k := (4, 0)) Own.upd_self
    have m0 := Int.tmod_nonneg (xb.term.to.length : Int) (show (0 : Int) ≤ n by omega)
    have m1 := Int.tmod_lt_of_pos (n : Int) (show (0 : Int) < xb.term.to.length by omega)
    have q0 := Int.tmod_nonneg (11 : Int) (show (0 : Int) ≤ n by omega)
    have q1 := Int.tmod_lt_of_pos (n : Int) (show (0 : Int) < 11 by omega)
    have hne : ¬ xb.term.to = [] := fun e => by rw [e] at c1; simp at c1
    simp (disch := omega) [look_setE, look_kill, r2, r4, r5, r7, r8, r9, r10, r11, s19.len, hne, s19.idx1 rfl]
    refine w19.do_put (k := (4, 0)) (α := Int) (v := v19) (l := xb.term.to) (i := ((n : Int).tmod xb.term.to.length).toNat) (d := (n : Int).tmod 11) Own.upd_self (by kernel_rfl) (by rw [show Rep.n Int = 1 from rfl, Nat.mul_one]; rfl) rfl (by omega) (rd_int.2 ⟨rfl, by constructor <;> omega⟩) fun h20 w20 _ => ?_
    have w20 : Owns W2 h20 (o17.upd (4, 0) (it T.int v19 (xb.term.to.set ((n : Int).tmod xb.term.to.length).toNat ((n : Int).tmod 11)))) := w20.congr fun q => by rw [upd_upd]
    rw [hy]; clear hy y
    obtain ⟨w21, s21⟩ := w20.freeze Own.upd_self
    have hWp := le_plus (h := h20) (w20.av _ _ Own.upd_self)
    have w21 := w21.congr (o' := o17) fun q => by
     rw [upd_upd]; unfold Own.upd; split
     ·rename_i e; rw [e]; exact t.free
     ·rfl
    simp (disch := omega) [look_setE, look_kill, r2, r4, r5, r7, r8, r9, r10, r11]
    refine (t.wider hWp).do_to w21 s21 (by rw [List.length_set]; exact t.tb.to) (by kernel_rfl) rfl rfl fun h2 tE => ?_
    refine fin _ _ (tE.mono (by omega)) ?_ ?_ ?_ ?_ ?_ <;> simp [look_setE, look_kill, r2, r4, r5, r8, r10]
   ·have he : xb.term.to = [] := List.eq_nil_of_length_eq_zero (by omega)
    refine lwp_cond_f (by simp [look_setE, look_kill, he]) ?_
    simp
    refine fin _ _ (TuE.mono ⟨_, _, _, _, _, _, _, _, _, _, _, _, _, t, w17⟩ (by omega)) ?_ ?_ ?_ ?_ ?_ <;> simp [look_setE, look_kill, r2, r4, r5, r8, r10]
  refine lwp_cond_f (by simp [look_setE, look_kill, w10]) ?_
  simp [look_setE, look_kill, r2, r4, r5, r7, r8, r9, r10, r11, x0]
  refine do_build (z := .agg #[.int .i64 0, .slice none 0 0]) (places := [(0, 1), (1, 1)]) (vs := [(0, .int .i64 n)]) (cs := #[.int .i64 n, .slice none 0 0]) (by kernel_rfl) (by kernel_rfl) (by simp) (by rfl) ?_
  refine w17.do_push (k := (3, 3)) (α := PhiD) (d := ⟨n, []⟩) t.phis El.s_api_Phi rfl (rd_phiOf ⟨by omega, by omega⟩ nil_sl) (by omega) (by omega) (fun _ => rfl) (fun _ => rfl) fun u18 v18 h18 w18 _ => ?_
  refine (t.more (d := c + 1) (by omega)).do_phiV w18 (by rw [List.length_append, List.length_singleton]; omega) (fun i hi => by
   rcases List.mem_append.1 hi with q | q
   ·have := t.tb.pin i q; omega
   ·rw [List.mem_singleton] at q; rw [q]; show 0 ≤ c + 1; omega) (by kernel_rfl) rfl rfl fun h2 tE => ?_
  refine fin _ _ tE ?_ ?_ ?_ ?_ ?_ <;> simp [look_setE, look_kill, r2, r4, r5, r8, r10]
 refine lwp_hide fun y hy => ?_
 simp [x1, hli]
 rw [hy]; clear hy y
 by_cases c1 : 0 < xb.ins.length
 ·rw [if_pos c1] at hj2
  have hne : ¬ xb.ins = [] := fun e => by rw [e] at c1; simp at c1
  refine lwp_cond_t (by simp [hne]; exact c1) ?_
  simp [x1, hli, hne]
  refine sw _ ?_ ?_ ?_ ?_ ?_ ?_ ?_ ?_
  all_goals simp [hj2]
 ·rw [if_neg c1] at hj2
  have he : xb.ins = [] := List.eq_nil_of_length_eq_zero (by omega)
  refine lwp_cond_f (by simp [he]) ?_
  simp
  refine sw _ ?_ ?_ ?_ ?_ ?_ ?_ ?_ ?_
  all_goals simp [hj2]
end Go.Proofs.Ytfelpjfopgiabaa
namespace Go.Proofs.Ytfelpjfopgiabaa
open Go Go.Lft
theorem func_val {H : View} {u : Value} {f : FuncD} (h : Rd H u f) : ∃ vb, u = .agg #[.int .i64 f.params, vb] ∧ I64 f.params ∧ SlRd H vb f.blocks := by
 obtain ⟨cs, rfl, c1, r1, e1, ⟨rfl, h1⟩, vb, h2, h3⟩ := h
 exact ⟨vb, by rw [← Array.toList_inj.1 ((by rw [e1, h2]; rfl) : cs.toList = #[Value.int .i64 f.params, vb].toList)], h1, h3⟩
theorem two_cells {a : Value} {v : Int} (ha : a.oneCell' = true) : ∀ c ∈ [Value.int .i64 v, a], c.oneCell' = true := by
 intro c hc
 simp only [List.mem_cons, List.not_mem_nil, or_false] at hc
 rcases hc with rfl | rfl <;> first | rfl | exact ha
theorem lawMade_ok {l : List Int} {vl : Value} {h : Heap} {W : View} {o0 : Own} (w0 : Owns W h o0) (ho0 : ∀ k : Key, k.1 < 11 → o0 k = none) (hs : SlRd W vl l) :
  HCalls Try.prog N.law03_made #[vl] h (fun u h' => ∃ W', W.le W' ∧ Owns W' h' o0 ∧ Rd W' u (makeS (l.take 200))) := by
 refine calls_lift (args := [vl]) follows F.law03_made E.law03_made (Nat.le_of_ble_eq_true (by kernel_rfl)) fun K hK => ?_
 dsimp only [L.law03_made]
 refine lwp_hide fun z hz => ?_
 simp
 refine w0.do_zero (k := (10, 0)) (n := 1) (z := .agg #[.int .i64 0, .slice none 0 0]) (ho0 _ (by decide)) (by kernel_rfl) rfl (by decide) (by simp [Value.cells, Value.oneCell']) fun h1 q1 w1 => ?_
 generalize h.size = R at w1
 obtain ⟨u2, e2, s2⟩ := sl_first hs 200 200 rfl
 rw [hz]; clear hz z
 refine lwp_hide fun z hz => ?_
 simp [hs.len, e2]
 refine call_to (by kernel_rfl) (made_ok w1 (fun k hk => (Own.upd_ne (by rintro rfl; simp at hk)).trans (ho0 k (by omega))) s2) ?_
 rintro u h3 ⟨W3, hW3, w3, hr⟩
 obtain ⟨vb, rfl, ip, sb⟩ := func_val hr
 refine w3.do_field (k := (10, 0)) (α := RawN 1) (β := RawN 1) Part.all (B := R) (D := RawN.mk (n := 1) [.int .i64 0, .slice none 0 0]) (d := RawN.mk (n := 1) [.int .i64 (makeS (l.take 200)).params, vb]) Own.upd_self (by kernel_rfl) rfl rfl (rd_rawN rfl (two_cells sb.cells.2)) fun h4 w4 _ => ?_
 have cb := w4.rawAll (k := (10, 0)) (n := 1) (l := [.int .i64 (makeS (l.take 200)).params, vb]) Own.upd_self
 have cb : Un.ev (vw h4) (.loads 2) (.pointer (some ⟨R, 0, none⟩)) = some (.agg #[.int .i64 (makeS (l.take 200)).params, vb]) := cb
 rw [hz]; clear hz z
 simp [cb]
 refine hK _ _ ⟨W3, hW3, w4.sub fun k i hk => ?_, hr⟩
 have h10 : k ≠ (10, 0) := by rintro rfl; rw [ho0 _ (by decide)] at hk; cases hk
 rw [Own.upd_ne h10, Own.upd_ne h10]; exact hk
abbrev Q3 := Cat Int (Cat Int Int)
instance : Inhabited Q3 := ⟨⟨0, 0, 0⟩⟩
theorem tri_val {H : View} {u : Value} {d : Q3} (h : Rd H u d) : u = .agg #[.int .i64 d.a, .int .i64 d.b.a, .int .i64 d.b.b] ∧ I64 d.a ∧ I64 d.b.a ∧ I64 d.b.b := by
 obtain ⟨cs, rfl, c1, r1, e1, ⟨rfl, h1⟩, c2, c3, rfl, ⟨rfl, h2⟩, rfl, h3⟩ := h
 exact ⟨by rw [← Array.toList_inj.1 ((by rw [e1]; rfl) : cs.toList = #[Value.int .i64 d.a, .int .i64 d.b.a, .int .i64 d.b.b].toList)], h1, h2, h3⟩
end Go.Proofs.Ytfelpjfopgiabaa
namespace Go.Proofs.Ytfelpjfopgiabaa
open Go Go.Lft
theorem few_len {f : FuncD} : (fewS f).blocks.length ≤ 9 := by simp [fewS]; omega
theorem few_blk {f : FuncD} {i : Nat} (hi : i < (fewS f).blocks.length) : ∃ x, nth (fewS f).blocks i = fewB x := by
 rw [nth_eq hi]
 simp only [fewS, List.getElem_map]
 exact ⟨_, rfl⟩
theorem sm_few {f : FuncD} : SmF (fewS f) where
 len := Nat.le_trans few_len (by decide)
 blk := fun i hi => by
  obtain ⟨x, e⟩ := few_blk hi
  rw [e]
  refine ⟨by simp [fewB]; omega, by simp [fewB]; omega, by simp [fewB]; omega, by simp [fewB]; omega, fun j hj => ?_, fun j hj => ?_⟩
  ·rw [nth_eq hj]; simp [fewB, fewP]; omega
  ·rw [nth_eq hj]; simp [fewB, fewI]; omega
end Go.Proofs.Ytfelpjfopgiabaa
namespace Go.Proofs.Ytfelpjfopgiabaa
open Go Go.Lft
theorem rows_ok {a b : List Int} {va vb : Value} {h : Heap} (ha : SlRd (vw h) va a) (hb : SlRd (vw h) vb b) :
  HCalls Try.prog N.law03_rows #[va, vb] h (fun u h' => u = .bool (decide (a = b)) ∧ h' = h) := by
 refine calls_lift (args := [va, vb]) follows F.law03_rows E.law03_rows (Nat.le_of_ble_eq_true (by kernel_rfl)) fun K hK => ?_
 have hbd := ha.bound
 dsimp only [L.law03_rows]
 refine lwp_hide fun z hz => ?_
 simp
 rw [hz]; clear hz z
 refine lwp_hide fun z hz => ?_
 by_cases hl : a.length = b.length
 ·have hl' : (a.length : Int) = b.length := by omega
  simp [ha.len, hb.len, hl']
  rw [hz]; clear hz z
  refine lwp_hide fun z hz => ?_
  simp
  refine lwp_for [0, 1, 5] (fun (_ : Unit) i => [va, vb, .int .i64 i]) (fun _ i h3 => h3 = h ∧ ∀ j, j < i → nth a j = nth b j) a.length ()
   rfl (by omega) rfl ⟨rfl, fun j hj => by omega⟩ (fun _ _ => rfl) (fun v k h3 hk m => by simp [ha.len]) ?_ ?_
  ·rintro _ i h hlti ⟨rfl, hpre⟩ K2 hK2
   have e1 := ha.idx1 rfl (k := .i64) (i := (i : Int)) (by omega) (by omega)
   have e2 := hb.idx1 rfl (k := .i64) (i := (i : Int)) (by omega) (by omega)
   have e3 := ha.int (View.le_refl _) (i := i) hlti
   have e4 := hb.int (View.le_refl _) (i := i) (by omega)
   simp only [Int.toNat_natCast] at e1 e2
   by_cases e : nth a i = nth b i
   ·simp [e1, e2, e3, e4, e]
    refine hK2 () _ _ rfl rfl ⟨rfl, fun j hj => ?_⟩
    rcases Nat.lt_or_ge j i with q | q
    ·exact hpre j q
    ·have : j = i := by omega
     subst this; exact e
   ·simp [e1, e2, e3, e4, e]
    exact hK _ _ ⟨by rw [decide_eq_false]; rintro rfl; exact e rfl, rfl⟩
  ·rintro _ h ⟨rfl, hpre⟩
   have he : a = b := List.ext_getElem hl fun j h1 h2 => by
    have := hpre j h1
    rwa [nth_eq h1, nth_eq h2] at this
   simp
   rw [hz]; clear hz z
   simp
   exact hK _ _ ⟨by rw [decide_eq_true he], rfl⟩
 ·have hl' : ¬ (a.length : Int) = b.length := by omega
  simp [ha.len, hb.len, hl']
  exact hK _ _ ⟨by rw [decide_eq_false]; rintro rfl; exact hl rfl, rfl⟩
end Go.Proofs.Ytfelpjfopgiabaa
namespace Go.Proofs.Ytfelpjfopgiabaa
open Go Go.Lft
theorem topStep_ref {top n : Int} (h : 0 ≤ top) : topStep top n = if top ≤ n ∧ n < 8192 then n + 1 else top := by
 unfold topStep withinS
 by_cases h1 : top ≤ n ∧ n < 8192
 ·rw [if_pos h1, if_pos (by simp; omega), if_pos (by omega)]
 ·rw [if_neg h1]
  split
  ·rename_i hw
   simp only [Bool.and_eq_true, decide_eq_true_eq] at hw
   rw [if_neg (by omega)]
  ·rfl
theorem refTop_ok {f : FuncD} {v : Value} {h : Heap} (hv : Rd (vw h) v f) (hsm : SmF f) :
  HCalls Try.prog N.ref03_Top #[v] h (fun u h' => u = .int .i64 (topS f) ∧ (vw h).le (vw h')) := by
 refine calls_lift (args := [v]) follows F.ref03_Top E.ref03_Top (Nat.le_of_ble_eq_true (by kernel_rfl)) fun K hK => ?_
 dsimp only [L.ref03_Top]
 refine lwp_hide fun z hz => ?_
 simp
 refine do_boxT rfl hv fun h1 _ hle1 hs1 hat => ?_
 obtain ⟨cp, vb, cb⟩ := at_funcB hat
 have cpr := (hat.part FuncD.p_params).rng
 obtain ⟨u, hu, hur⟩ := hat.loads rfl
 have hu : Un.ev (vw h1) (.loads 2) (.pointer (some ⟨h.size, 0, none⟩)) = some u := hu
 generalize h.size = B at cp cb hu
 rw [hz]; clear hz z
 refine lwp_hide fun z hz => ?_
 have hb : (if 8192 < (if f.params < 0 then 0 else f.params) then 8192 else (if f.params < 0 then 0 else f.params)) = topBase f.params := rfl
 simp [cp, hb]
 rw [hz]; clear hz z
 refine lwp_hide fun z hz => ?_
 simp [hu]
 refine call_to (by kernel_rfl) (refThings_ok hur (View.le_refl _) hsm) ?_
 rintro vt h2 ⟨hle2, ht⟩
 have hts : topS f = (thingsS f).foldl topTh (topBase f.params) := rfl
 have hbt : ∀ l : List Th, 0 ≤ l.foldl topTh (topBase f.params) ∧ l.foldl topTh (topBase f.params) ≤ 8192 := fun l => foldl_inv (f := topTh) (fun x => 0 ≤ x ∧ x ≤ 8192) (fun _ _ h => topTh_le h) l _ (topBase_le (ps := f.params))
 have ht := ht.mono (grow_le hle2)
 have htb := ht.bound
 generalize thingsS f = ts at ht hts htb
 generalize topBase f.params = base at hts hbt
 rw [hz]; clear hz z
 refine lwp_hide fun z hz => ?_
 simp
 refine lwp_for [3, 4, 5] (fun (_ : Unit) i => [.int .i64 ((ts.take i).foldl topTh base), vt, .int .i64 i]) (fun _ i h3 => h3 = h2) ts.length ()
  rfl (by omega) (by simp [keepE]) rfl (fun _ _ => rfl) (fun v k h3 hk m => by simp [ht.len]) ?_ ?_
 ·rintro _ i h2 hlti rfl K2 hK2
  have hst : (ts.take (i + 1)).foldl topTh base = topTh ((ts.take i).foldl topTh base) (nth ts i) := by
   rw [List.take_succ_eq_append_getElem hlti, List.foldl_append, nth_eq hlti]; rfl
  have hb := hbt (ts.take i)
  generalize (ts.take i).foldl topTh base = top at hst hb
  have hat := ht.at hlti
  rw [← nth_eq hlti] at hat
  obtain ⟨vk, hvk⟩ := (hat.part Th.p_mks).sl
  have hvk1 : cellH (vw h2) (((slA vt).add (i * 4)).add 2) = some vk := hvk.1
  have hvk2 := hvk.2
  generalize nth ts i = t at hst hvk2
  have hkb := hvk2.bound
  refine lwp_hide fun y hy => ?_
  simp
  rw [hy]; clear hy y
  refine lwp_for [3, 4, 5, 6] (fun (_ : Unit) j => [.int .i64 ((t.mks.take j).foldl topStep top), vt, .int .i64 i, .int .i64 j]) (fun _ j h3 => h3 = h2) t.mks.length ()
   rfl (by omega) (by simp [keepE]) rfl (fun _ _ => rfl) (fun v k h3 hk m => by subst m; simp (disch := omega) [ht.idxn (N := 4) rfl, hvk1, hvk2.len]) ?_ ?_
  ·rintro _ j h2 hltj rfl K3 hK3
   have hst4 : (t.mks.take (j + 1)).foldl topStep top = topStep ((t.mks.take j).foldl topStep top) (nth t.mks j) := by
    rw [List.take_succ_eq_append_getElem hltj, List.foldl_append, nth_eq hltj]; rfl
   have hb4 := foldl_inv (f := topStep) (fun x => 0 ≤ x ∧ x ≤ 8192) (fun _ _ h => topStep_le h) (t.mks.take j) top hb
   generalize (t.mks.take j).foldl topStep top = top4 at hst4 hb4
   rw [topStep_ref hb4.1] at hst4
   by_cases hc : top4 ≤ nth t.mks j ∧ nth t.mks j < 8192
   ·rw [if_pos hc] at hst4
    simp (disch := omega) [ht.idxn (N := 4) rfl, hvk1, hvk2.idx1 rfl, hvk2.int (View.le_refl _), hc]
    exact hK3 () _ _ rfl (by simp [keepE, hst4]) rfl
   ·rw [if_neg hc] at hst4
    have hcb : (decide (top4 ≤ nth t.mks j) && decide (nth t.mks j < 8192)) = false := by
     rw [Bool.eq_false_iff]; intro e; exact hc (by simpa using e)
    simp (disch := omega) [ht.idxn (N := 4) rfl, hvk1, hvk2.idx1 rfl, hvk2.int (View.le_refl _), hcb]
    exact hK3 () _ _ rfl (by simp [keepE, hst4]) rfl
  ·rintro _ h3 rfl
   rw [List.take_length]
   simp
   exact hK2 () _ _ rfl (by simp [keepE, hst]; rfl) rfl
 ·rintro _ h3 rfl
  rw [List.take_length, ← hts]
  simp
  rw [hz]; clear hz z
  simp
  exact hK _ _ ⟨rfl, View.le_trans hle1 hle2⟩
def cntOf (val : Int) (l : List Int) : Nat := l.foldl (fun c n => if n = val then c + 1 else c) 0
theorem cntOf_le {val : Int} : ∀ {l : List Int} {c : Nat}, l.foldl (fun c n => if n = val then c + 1 else c) c ≤ c + l.length
 | [], c => Nat.le_refl _
 | a :: l, c => by
  rw [List.foldl_cons]
  have := cntOf_le (val := val) (l := l) (c := if a = val then c + 1 else c)
  have h2 : (if a = val then c + 1 else c) ≤ c + 1 := by split <;> omega
  simp only [List.length_cons]
  omega
theorem has_ok {l : List Int} {vl : Value} {val : Int} {h : Heap} (hl : SlRd (vw h) vl l) :
  HCalls Try.prog N.ref03_has #[vl, .int .i64 val] h (fun u h' => u = .int .i64 (cntOf val l : Nat) ∧ h' = h) := by
 refine calls_lift (args := [vl, .int .i64 val]) follows F.ref03_has E.ref03_has (Nat.le_of_ble_eq_true (by kernel_rfl)) fun K hK => ?_
 have hb := hl.bound
 dsimp only [L.ref03_has]
 refine lwp_hide fun z hz => ?_
 simp
 rw [hz]; clear hz z
 refine lwp_hide fun z hz => ?_
 simp
 rw [hz]; clear hz z
 refine lwp_hide fun z hz => ?_
 simp
 refine lwp_for [0, 1, 5, 6] (fun (_ : Unit) i => [vl, .int .i64 val, .int .i64 (cntOf val (l.take i) : Nat), .int .i64 i]) (fun _ i h3 => h3 = h) l.length ()
  rfl (by omega) rfl rfl (fun _ _ => rfl) (fun v k h3 hk m => by simp [hl.len]) ?_ ?_
 ·rintro _ i h hlti rfl K2 hK2
  have hst : cntOf val (l.take (i + 1)) = if nth l i = val then cntOf val (l.take i) + 1 else cntOf val (l.take i) := by
   rw [List.take_succ_eq_append_getElem hlti]
   unfold cntOf
   rw [List.foldl_append, nth_eq hlti]; rfl
  have hc : cntOf val (l.take i) ≤ l.length := by
   have := cntOf_le (val := val) (l := l.take i) (c := 0)
   have h2 : (l.take i).length ≤ l.length := by simp; omega
   unfold cntOf; omega
  by_cases e : nth l i = val
  ·rw [if_pos e] at hst
   simp (disch := omega) [hl.idx1 rfl, hl.int (View.le_refl _), e]
   exact hK2 () _ _ rfl (by simp [keepE, hst]) rfl
  ·rw [if_neg e] at hst
   simp (disch := omega) [hl.idx1 rfl, hl.int (View.le_refl _), e]
   exact hK2 () _ _ rfl (by simp [keepE, hst]) rfl
 ·rintro _ h rfl
  rw [List.take_length]
  simp
  rw [hz]; clear hz z
  simp
  exact hK _ _ ⟨rfl, rfl⟩
def usOwn (vo : Value) (l : List Int) : Own := fun k => if k = (0, 0) then it T.int vo l else none
theorem usOwn_put {vo : Value} {l l' : List Int} (q : Key) : usOwn vo l' q = (usOwn vo l).upd (0, 0) (it T.int vo l') q := by
 unfold usOwn Own.upd
 repeat' split
 all_goals first | rfl | simp_all
theorem refUses_ok {f : FuncD} {v : Value} {h : Heap} (hv : Rd (vw h) v f) (hsm : SmF f) :
  HCalls Try.prog N.ref03_Uses #[v] h (fun u h' => (vw h).le (vw h') ∧ SlRd (vw h') u (usedS f)) := by
 refine calls_lift (args := [v]) follows F.ref03_Uses E.ref03_Uses (Nat.le_of_ble_eq_true (by kernel_rfl)) fun K hK => ?_
 dsimp only [L.ref03_Uses]
 refine lwp_hide fun z hz => ?_
 simp
 refine do_boxT rfl hv fun h1 _ hle1 hs1 hat => ?_
 obtain ⟨u, hu, hur⟩ := hat.loads rfl
 have hu : Un.ev (vw h1) (.loads 2) (.pointer (some ⟨h.size, 0, none⟩)) = some u := hu
 generalize h.size = B at hu
 have huv : ∀ {h' : Heap}, (vw h1).le (vw h') → Un.ev (vw h') (.loads 2) (.pointer (some ⟨B, 0, none⟩)) = some u := fun q => by
  have := ev_mono (ρ := fun _ => none) (e := .un (.loads 2) (.con (.pointer (some ⟨B, 0, none⟩)))) q (v := u) (by simpa using hu)
  simpa using this
 have htp : 0 ≤ topS f ∧ topS f ≤ 8192 := foldl_inv (f := topTh) (fun x => 0 ≤ x ∧ x ≤ 8192) (fun _ _ h => topTh_le h) _ _ (topBase_le (ps := f.params))
 obtain ⟨n, hn⟩ : ∃ n : Nat, topS f = n := ⟨(topS f).toNat, by omega⟩
 have hus : usedS f = (thingsS f).foldl useTh (List.replicate n 0) := by unfold usedS; rw [hn]; rfl
 rw [hz]; clear hz z
 refine lwp_hide fun z hz => ?_
 simp [hu]
 refine call_to (by kernel_rfl) (refTop_ok hur hsm) ?_
 rintro _ h2 ⟨rfl, hle2⟩
 rw [hn]
 refine do_make (α := Int) (W := vw h1) (k := .i64) (n := n) (d := 0) El.s_int (by simp) (by simp) ⟨rfl, by decide, by decide⟩ (by omega) (by omega) fun vo h3 o3 m3 hle3 hb3 => ?_
 have w3 : Owns (vw h1) h3 (usOwn vo (List.replicate n 0)) := ((Owns.start (h := h2) hle2).add (k := (0, 0)) rfl o3 hle3 (fun b hb => by rw [hb3] at hb; cases hb; exact Nat.le_refl _)).congr fun q => by
  unfold usOwn Own.upd
  repeat' split
  all_goals first | rfl | simp_all
 rw [hz]; clear hz z
 refine lwp_hide fun z hz => ?_
 simp [huv w3.wle]
 refine call_to (by kernel_rfl) (refThings_ok hur w3.wle hsm) ?_
 rintro vt h4 ⟨hle4, ht⟩
 have w4 := w3.ext hle4
 have hW4 : (vw h1).le (grow (vw h1) h3 h4) := le_grow w3.wle
 generalize grow (vw h1) h3 h4 = W4 at w4 ht hW4
 have htb := ht.bound
 generalize thingsS f = ts at ht hus htb
 rw [hz]; clear hz z
 refine lwp_hide fun z hz => ?_
 simp
 refine lwp_for [3, 4, 5] (fun (_ : Unit) i => [vo, vt, .int .i64 i]) (fun _ i h5 => Owns W4 h5 (usOwn vo ((ts.take i).foldl useTh (List.replicate n 0)))) ts.length ()
  rfl (by omega) rfl (by simpa using w4) (fun _ _ => rfl) (fun v k h5 hk m => by simp [(ht.mono m.wle).len]) ?_ ?_
 ·rintro _ i h5 hlti w5 K2 hK2
  have hst : (ts.take (i + 1)).foldl useTh (List.replicate n 0) = useTh ((ts.take i).foldl useTh (List.replicate n 0)) (nth ts i) := by
   rw [List.take_succ_eq_append_getElem hlti, List.foldl_append, nth_eq hlti]; rfl
  have hlen : ((ts.take i).foldl useTh (List.replicate n 0)).length = n := foldl_inv (f := useTh) (fun x : List Int => x.length = n) (fun _ _ h => useTh_len.trans h) _ _ (List.length_replicate ..)
  generalize (ts.take i).foldl useTh (List.replicate n 0) = l at w5 hst hlen
  have hat := ht.at hlti
  rw [← nth_eq hlti] at hat
  obtain ⟨vk, hvk⟩ := (hat.part Th.p_tks).sl
  have hvk1 : cellH W4 (((slA vt).add (i * 4)).add 3) = some vk := hvk.1
  have hvk2 := hvk.2
  generalize nth ts i = t at hst hvk2
  have hkb := hvk2.bound
  refine lwp_hide fun y hy => ?_
  simp
  rw [hy]; clear hy y
  refine lwp_for [3, 4, 5, 6] (fun (_ : Unit) j => [vo, vt, .int .i64 i, .int .i64 j]) (fun _ j h6 => Owns W4 h6 (usOwn vo ((t.tks.take j).foldl useStep l))) t.tks.length ()
   rfl (by omega) rfl (by simpa using w5) (fun _ _ => rfl) (fun v k h6 hk m => by simp (disch := omega) [(ht.mono m.wle).idxn (N := 4) rfl, cellH_mono m.wle hvk1, (hvk2.mono m.wle).len]) ?_ ?_
  ·rintro _ j h6 hltj w6 K3 hK3
   have hst4 : (t.tks.take (j + 1)).foldl useStep l = useStep ((t.tks.take j).foldl useStep l) (nth t.tks j) := by
    rw [List.take_succ_eq_append_getElem hltj, List.foldl_append, nth_eq hltj]; rfl
   have hlen4 : ((t.tks.take j).foldl useStep l).length = n := foldl_inv (f := useStep) (fun x : List Int => x.length = n) (fun _ _ h => useStep_len.trans h) _ _ hlen
   generalize (t.tks.take j).foldl useStep l = l4 at w6 hst4 hlen4
   have ht6 := ht.mono w6.wle
   have hk6 := hvk2.mono w6.wle
   have c6 := cellH_mono w6.wle hvk1
   have n6 := w6.now (k := (0, 0)) (v := vo) (l := l4) rfl
   have e4 : useStep l4 (nth t.tks j) = if withinS (nth t.tks j) 0 ((l4.length : Int) - 1) then l4.set (nth t.tks j).toNat (inc64 (nth l4 (nth t.tks j).toNat)) else l4 := rfl
   rw [e4] at hst4
   refine lwp_hide fun y hy => ?_
   by_cases hc : 0 ≤ nth t.tks j ∧ nth t.tks j < n
   ·rw [if_pos (by simp [withinS]; omega)] at hst4
    simp (disch := omega) [ht6.idxn (N := 4) rfl, c6, hk6.idx1 rfl, hk6.int (View.le_refl _), n6.len, hlen4, hc]
    rw [hy]; clear hy y
    refine lwp_cond_t (by simp) ?_
    refine drawn_at (vw h6) (View.le_refl _) ?_
    simp (disch := omega) [ht6.idxn (N := 4) rfl, c6, hk6.idx1 rfl, hk6.int (View.le_refl _), n6.idx1 rfl, n6.int (View.le_refl _)]
    refine w6.do_put (k := (0, 0)) (α := Int) (l := l4) (v := vo) (i := (nth t.tks j).toNat) (d := inc64 (nth l4 (nth t.tks j).toNat)) rfl (by kernel_rfl) (by simp [show (nth t.tks j).toNat * Rep.n Int = (nth t.tks j).toNat from Nat.mul_one _]) rfl (by omega) (rd_i i64_rng.1 i64_rng.2) fun h7 w7 hs7 => ?_
    exact hK3 () _ _ rfl rfl (by rw [hst4]; exact w7.congr usOwn_put)
   ·rw [if_neg (by simp [withinS]; omega)] at hst4
    have hcb : (decide (0 ≤ nth t.tks j) && decide (nth t.tks j < (n : Int))) = false := by
     rw [Bool.eq_false_iff]; intro e; exact hc (by simpa using e)
    simp (disch := omega) [ht6.idxn (N := 4) rfl, c6, hk6.idx1 rfl, hk6.int (View.le_refl _), n6.len, hlen4, hcb]
    rw [hy]; clear hy y
    refine lwp_cond_f (by simp) ?_
    simp
    exact hK3 () _ _ rfl rfl (by rw [hst4]; exact w6)
  ·rintro _ h6 w6
   rw [List.take_length] at w6
   simp
   exact hK2 () _ _ rfl rfl (by rw [hst]; exact w6)
 ·rintro _ h5 w5
  rw [List.take_length, ← hus] at w5
  simp
  rw [hz]; clear hz z
  simp
  exact hK _ _ ⟨View.le_trans hle1 (View.le_trans hW4 w5.wle), w5.now (k := (0, 0)) (v := vo) (l := usedS f) rfl⟩
end Go.Proofs.Ytfelpjfopgiabaa
namespace Go.Proofs.Ytfelpjfopgiabaa
open Go Go.Lft
structure FSt where
 made : Nat
 taken : Nat
 p : Th
 q : Th
def thZ : Th := ⟨0, 0, [], []⟩
def fStep (val : Int) (s : FSt) (t : Th) : FSt := ⟨s.made + cntOf val t.mks, s.taken + cntOf val t.tks, if 0 < cntOf val t.mks then t else s.p, if 0 < cntOf val t.tks then t else s.q⟩
def fAll (val : Int) (l : List Th) : FSt := l.foldl (fStep val) ⟨0, 0, thZ, thZ⟩
def fBad (s : FSt) : Bool := !decide (s.made = 1) || !decide (s.taken = 1) || decide (s.p.place < 0) || decide (s.q.place ≤ s.p.place) || !decide (s.q.blk = s.p.blk)
def refFoldableS (f : FuncD) (val : Int) : Bool := !fBad (fAll val (thingsS f)) && (decide ((insOf f (fAll val (thingsS f)).p).dst = val) && [1, 2, 4, 11, 12, 13].contains (insOf f (fAll val (thingsS f)).p).op)
def foOwn (D E : Nat) (p q : Th) : Own := fun k => if k = (0, 0) then bx T.ref03_Thing D p else if k = (0, 1) then bx T.ref03_Thing E q else none
theorem fo_p {D E : Nat} {p q p' : Th} (k : Key) : foOwn D E p' q k = (foOwn D E p q).upd (0, 0) (bx T.ref03_Thing D p') k := by
 unfold foOwn Own.upd
 repeat' split
 all_goals first | rfl | simp_all
theorem fo_q {D E : Nat} {p q q' : Th} (k : Key) : foOwn D E p q' k = (foOwn D E p q).upd (0, 1) (bx T.ref03_Thing E q') k := by
 unfold foOwn Own.upd
 repeat' split
 all_goals first | rfl | simp_all
theorem fAll_p {val : Int} {L : List Th} : ∀ {l : List Th} {s : FSt}, (∀ t ∈ l, t ∈ L) → (0 < s.made → s.p ∈ L ∧ 0 < cntOf val s.p.mks) → 0 < (l.foldl (fStep val) s).made → (l.foldl (fStep val) s).p ∈ L ∧ 0 < cntOf val (l.foldl (fStep val) s).p.mks
 | [], s, _, h => h
 | t :: l, s, hl, h => by
  rw [List.foldl_cons]
  refine fAll_p (fun t ht => hl t (List.mem_cons_of_mem _ ht)) fun hm => ?_
  unfold fStep at hm ⊢
  simp only at hm ⊢
  by_cases c : 0 < cntOf val t.mks
  ·rw [if_pos c]; exact ⟨hl t List.mem_cons_self, c⟩
  ·rw [if_neg c]; exact h (by omega)
theorem refFoldable_ok {f : FuncD} {v : Value} {val : Int} {h : Heap} (hv : Rd (vw h) v f) (hsm : SmF f) :
  HCalls Try.prog N.ref03_Foldable #[v, .int .i64 val] h (fun u h' => u = .bool (refFoldableS f val) ∧ (vw h).le (vw h')) := by
 refine calls_lift (args := [v, .int .i64 val]) follows F.ref03_Foldable E.ref03_Foldable (Nat.le_of_ble_eq_true (by kernel_rfl)) fun K hK => ?_
 dsimp only [L.ref03_Foldable]
 refine lwp_hide fun z hz => ?_
 simp
 refine do_boxT rfl hv fun h1 _ hle1 hs1 hat => ?_
 obtain ⟨_, vb, cb⟩ := at_funcB hat
 obtain ⟨u, hu, hur⟩ := hat.loads rfl
 have hu : Un.ev (vw h1) (.loads 2) (.pointer (some ⟨h.size, 0, none⟩)) = some u := hu
 generalize h.size = B at cb hu
 rw [hz]; clear hz z
 refine lwp_hide fun z hz => ?_
 simp [hu]
 refine call_to (by kernel_rfl) (refThings_ok hur (View.le_refl _) hsm) ?_
 rintro vt h2 ⟨hle2, ht⟩
 have hW2 : (grow (vw h1) h1 h2).le (vw h2) := grow_le hle2
 have hV2 : (vw h1).le (grow (vw h1) h1 h2) := le_grow (View.le_refl _)
 generalize grow (vw h1) h1 h2 = W2 at ht hW2 hV2
 rw [hz]; clear hz z
 refine lwp_hide fun z hz => ?_
 simp
 rw [hz]; clear hz z
 refine lwp_hide fun z hz => ?_
 simp
 rw [hz]; clear hz z
 refine lwp_hide fun z hz => ?_
 have rz : ∀ {W : View}, Rd W (.agg #[.int .i64 0, .int .i64 0, .slice none 0 0, .slice none 0 0]) thZ := fun {W} => rd_th ⟨by decide, by decide⟩ ⟨by decide, by decide⟩ nil_sl nil_sl
 simp
 refine do_build (z := .agg #[.int .i64 0, .int .i64 0, .slice none 0 0, .slice none 0 0]) (places := [(0, 1), (1, 1), (2, 1), (3, 1)]) (vs := []) (cs := #[.int .i64 0, .int .i64 0, .slice none 0 0, .slice none 0 0]) (by kernel_rfl) (by kernel_rfl) (by simp) (by rfl) ?_
 refine do_newV (n := 4) (v := .agg #[.int .i64 0, .int .i64 0, .slice none 0 0, .slice none 0 0]) (z := .agg #[.int .i64 0, .int .i64 0, .slice none 0 0, .slice none 0 0]) (by kernel_rfl) rfl (by kernel_rfl) rfl (by simp [Value.cells, Value.oneCell']) (fun _ => by simp) (fun _ => by simp) fun h3 hle3 hs3 hb3 => ?_
 have w3 := (Owns.start hW2).add (k := (0, 0)) rfl (ownT_box (h := h3) (d := thZ) hb3 rz (by decide)) hle3 (fun b hb => by simp only [Value.ownBlock, Option.some.injEq] at hb; omega)
 generalize h2.size = D at w3
 rw [hz]; clear hz z
 refine lwp_hide fun z hz => ?_
 simp
 refine do_build (z := .agg #[.int .i64 0, .int .i64 0, .slice none 0 0, .slice none 0 0]) (places := [(0, 1), (1, 1), (2, 1), (3, 1)]) (vs := []) (cs := #[.int .i64 0, .int .i64 0, .slice none 0 0, .slice none 0 0]) (by kernel_rfl) (by kernel_rfl) (by simp) (by rfl) ?_
 refine do_newV (n := 4) (v := .agg #[.int .i64 0, .int .i64 0, .slice none 0 0, .slice none 0 0]) (z := .agg #[.int .i64 0, .int .i64 0, .slice none 0 0, .slice none 0 0]) (by kernel_rfl) rfl (by kernel_rfl) rfl (by simp [Value.cells, Value.oneCell']) (fun _ => by simp) (fun _ => by simp) fun h4 hle4 hs4 hb4 => ?_
 have w4 := w3.add (k := (0, 1)) rfl (ownT_box (h := h4) (d := thZ) hb4 rz (by decide)) hle4 (fun b hb => by simp only [Value.ownBlock, Option.some.injEq] at hb; omega)
 generalize h3.size = E at w4
 have w4 : Owns W2 h4 (foOwn D E thZ thZ) := w4.congr fun q => by
  unfold foOwn Own.upd
  repeat' split
  all_goals first | rfl | simp_all
 have hth : ∀ t ∈ thingsS f, ThOk f t := fun t ht => thing_ok hsm ht
 have htl := things_len hsm
 have hfs : refFoldableS f val = (!fBad (fAll val (thingsS f)) && (decide ((insOf f (fAll val (thingsS f)).p).dst = val) && [1, 2, 4, 11, 12, 13].contains (insOf f (fAll val (thingsS f)).p).op)) := rfl
 generalize thingsS f = ts at ht hth htl hfs
 rw [hz]; clear hz z
 refine lwp_hide fun z hz => ?_
 simp
 refine lwp_for [1, 2, 5, 6, 7, 8, 9, 10] (fun (_ : Unit) i => [.int .i64 val, .pointer (some ⟨B, 0, none⟩), vt, .int .i64 (fAll val (ts.take i)).made, .int .i64 (fAll val (ts.take i)).taken, .pointer (some ⟨D, 0, none⟩), .pointer (some ⟨E, 0, none⟩), .int .i64 i])
  (fun _ i h5 => Owns W2 h5 (foOwn D E (fAll val (ts.take i)).p (fAll val (ts.take i)).q) ∧ (fAll val (ts.take i)).made ≤ i * 10000 ∧ (fAll val (ts.take i)).taken ≤ i * 10000) ts.length ()
  rfl (by omega) rfl ⟨w4, Nat.zero_le _, Nat.zero_le _⟩ (fun _ _ => rfl) (fun v k h5 hk m => by simp [(ht.mono m.1.wle).len]) ?_ ?_
 ·rintro _ i h5 hlti ⟨w5, g1, g2⟩ K2 hK2
  have hst : fAll val (ts.take (i + 1)) = fStep val (fAll val (ts.take i)) (nth ts i) := by
   rw [List.take_succ_eq_append_getElem hlti, nth_eq hlti]
   unfold fAll
   rw [List.foldl_append]; rfl
  have hok := hth _ (nth_mem hlti)
  obtain ⟨ut, hut, hutr⟩ := ht.wh rfl (N := 4) rfl hlti
  have hat := ht.at hlti
  rw [← nth_eq hlti] at hat
  obtain ⟨vm, hvm⟩ := (hat.part Th.p_mks).sl
  obtain ⟨vk, hvk⟩ := (hat.part Th.p_tks).sl
  have hvm1 : cellH W2 (((slA vt).add (i * 4)).add 2) = some vm := hvm.1
  have hvk1 : cellH W2 (((slA vt).add (i * 4)).add 3) = some vk := hvk.1
  have hvm2 := hvm.2
  have hvk2 := hvk.2
  generalize nth ts i = t at hst hvm2 hvk2 hutr hok
  generalize fAll val (ts.take i) = s at hst w5 g1 g2
  clear hat hvm hvk
  have l1 : cntOf val t.mks ≤ 10000 := by
   have := cntOf_le (val := val) (l := t.mks) (c := 0)
   have := hok.mks
   unfold cntOf; omega
  have l2 : cntOf val t.tks ≤ 10000 := by
   have := cntOf_le (val := val) (l := t.tks) (c := 0)
   have := hok.tks
   unfold cntOf; omega
  have hfin : ∀ ρ' h', Lft.look ρ' 10 = some (.int .i64 i) → keepE [1, 2, 5, 6, 7, 8, 9, 10] (setE ρ' 10 (.int .i64 ((i : Int) + 1))) = [1, 2, 5, 6, 7, 8, 9, 10].zip [.int .i64 val, .pointer (some ⟨B, 0, none⟩), vt, .int .i64 ((s.made + cntOf val t.mks : Nat) : Int), .int .i64 ((s.taken + cntOf val t.tks : Nat) : Int), .pointer (some ⟨D, 0, none⟩), .pointer (some ⟨E, 0, none⟩), .int .i64 ((i + 1 : Nat) : Int)] → Owns W2 h' (foOwn D E (if 0 < cntOf val t.mks then t else s.p) (if 0 < cntOf val t.tks then t else s.q)) → K2 ρ' h' := fun ρ' h' a1 a2 a3 => hK2 () ρ' h' a1 (by rw [a2, hst]; rfl) (by rw [hst]; exact ⟨a3, by show s.made + cntOf val t.mks ≤ _; omega, by show s.taken + cntOf val t.tks ≤ _; omega⟩)
  refine lwp_hide fun y hy => ?_
  simp (disch := omega) [(ht.mono w5.wle).idxn (N := 4) rfl, cellH_mono w5.wle hvm1]
  refine call_to (by kernel_rfl) (has_ok (hvm2.mono w5.wle)) ?_
  rintro _ h5 ⟨rfl, rfl⟩
  rw [hy]; clear hy y
  refine lwp_hide fun y hy => ?_
  simp (disch := omega) [(ht.mono w5.wle).idxn (N := 4) rfl, cellH_mono w5.wle hvk1]
  refine call_to (by kernel_rfl) (has_ok (hvk2.mono w5.wle)) ?_
  rintro _ h5 ⟨rfl, rfl⟩
  rw [hy]; clear hy y
  generalize cntOf val t.mks = a at hfin l1
  generalize cntOf val t.tks = b at hfin l2
  refine lwp_cut (fun ρ h6 => ∃ tl, Owns W2 h6 (foOwn D E (if 0 < a then t else s.p) s.q) ∧ ρ = [(1, .int .i64 val), (2, .pointer (some ⟨B, 0, none⟩)), (5, vt), (6, .int .i64 s.made), (7, .int .i64 s.taken), (8, .pointer (some ⟨D, 0, none⟩)), (9, .pointer (some ⟨E, 0, none⟩)), (10, .int .i64 i), (11, .int .i64 a), (12, .int .i64 b)] ++ tl) ?_ ?_
  ·intro K3 hK3
   by_cases c1 : 0 < a
   ·rw [if_pos c1] at hK3
    simp (disch := omega) [c1, (ht.mono w5.wle).idxn (N := 4) rfl, hut _ w5.wle]
    refine w5.do_field (k := (0, 0)) (e := T.ref03_Thing) (B := D) (D := s.p) Part.all (d := t) rfl (by kernel_rfl) rfl rfl hutr fun h6 w6 _ => ?_
    exact hK3 _ _ ⟨_, w6.congr fo_p, rfl⟩
   ·rw [if_neg c1] at hK3
    simp (disch := omega) [c1]
    exact hK3 _ _ ⟨_, w5, rfl⟩
  ·rintro ρ h6 ⟨tl, w6, rfl⟩
   refine lwp_cut (fun ρ h7 => ∃ tl, Owns W2 h7 (foOwn D E (if 0 < a then t else s.p) (if 0 < b then t else s.q)) ∧ ρ = [(1, .int .i64 val), (2, .pointer (some ⟨B, 0, none⟩)), (5, vt), (6, .int .i64 s.made), (7, .int .i64 s.taken), (8, .pointer (some ⟨D, 0, none⟩)), (9, .pointer (some ⟨E, 0, none⟩)), (10, .int .i64 i), (11, .int .i64 a), (12, .int .i64 b)] ++ tl) ?_ ?_
   ·intro K3 hK3
    by_cases c1 : 0 < b
    ·rw [if_pos c1] at hK3
     simp (disch := omega) [c1, (ht.mono w6.wle).idxn (N := 4) rfl, hut _ w6.wle, look_setE, look_kill]
     refine w6.do_field (k := (0, 1)) (e := T.ref03_Thing) (B := E) (D := s.q) Part.all (d := t) rfl (by kernel_rfl) rfl rfl hutr fun h7 w7 _ => ?_
     exact hK3 _ _ ⟨_, w7.congr fo_q, rfl⟩
    ·rw [if_neg c1] at hK3
     simp (disch := omega) [c1, look_setE, look_kill]
     exact hK3 _ _ ⟨_, w6, rfl⟩
   ·rintro ρ h7 ⟨tl, w7, rfl⟩
    simp (disch := omega) [look_setE, look_kill]
    exact hfin _ _ (by simp [look_setE, look_kill]) (by simp [keepE, look_setE, look_kill]) w7
 ·rintro _ h5 ⟨w5, g1, g2⟩
  have hp : 0 < (fAll val ts).made → (fAll val ts).p ∈ ts ∧ 0 < cntOf val (fAll val ts).p.mks := fun h => fAll_p (l := ts) (s := ⟨0, 0, thZ, thZ⟩) (fun t ht => ht) (fun h => by cases h) h
  rw [List.take_length] at w5 g1 g2
  rw [List.take_length]
  generalize fAll val ts = s at w5 hfs g1 g2 hp
  obtain ⟨pb, pp, _, _⟩ := at_thB (w5.at (k := (0, 0)) (e := T.ref03_Thing) (B := D) (d := s.p) rfl)
  obtain ⟨qb, qp, _, _⟩ := at_thB (w5.at (k := (0, 1)) (e := T.ref03_Thing) (B := E) (d := s.q) rfl)
  have hle := View.le_trans hle1 (View.le_trans hV2 w5.wle)
  simp
  rw [hz]; clear hz z
  refine lwp_hide fun z hz => ?_
  simp [pb, pp, qb, qp]
  have hfb : (!decide ((s.made : Int) = 1) || !decide ((s.taken : Int) = 1) || decide (s.p.place < 0) || decide (s.q.place ≤ s.p.place) || !decide (s.q.blk = s.p.blk)) = fBad s := by
   unfold fBad
   have e1 : decide ((s.made : Int) = 1) = decide (s.made = 1) := by rw [Bool.eq_iff_iff]; simp; omega
   have e2 : decide ((s.taken : Int) = 1) = decide (s.taken = 1) := by rw [Bool.eq_iff_iff]; simp; omega
   rw [e1, e2]
  rw [hfb]
  cases hbad : fBad s with
  | true =>
   rw [condP_true]
   rw [hbad] at hfs
   exact hK _ _ ⟨by rw [hfs]; rfl, hle⟩
  | false =>
   rw [condP_false]
   rw [hbad] at hfs
   simp only [fBad, Bool.or_eq_false_iff, Bool.not_eq_false', decide_eq_true_eq, decide_eq_false_iff_not] at hbad
   obtain ⟨⟨⟨⟨b1, b2⟩, b3⟩, b4⟩, b5⟩ := hbad
   obtain ⟨hm, hc⟩ := hp (by omega)
   have hok := hth _ hm
   have hpb := hok.blk
   have hpl := hok.ins (by omega) (fun e => by rw [e] at hc; exact absurd hc (by simp [cntOf]))
   have cc5 := cellH_mono (View.le_trans hV2 w5.wle) cb.1
   have cb5 := cb.2.mono (View.le_trans hV2 w5.wle)
   obtain ⟨ul, hul⟩ := ((cb5.at (i := s.p.blk.toNat) (by omega)).part BlkD.p_ins).sl
   rw [← nth_eq (by omega)] at hul
   have hul1 : cellH (vw h5) (((slA vb).add (s.p.blk.toNat * 6)).add 1) = some ul := hul.1
   obtain ⟨ui, hui, huir⟩ := hul.2.wh rfl (N := 5) rfl (i := s.p.place.toNat) (by omega)
   have hli := hul.2
   have hins : insOf f s.p = nth (nth f.blocks s.p.blk.toNat).ins s.p.place.toNat := rfl
   rw [hins] at hfs
   generalize nth (nth f.blocks s.p.blk.toNat).ins s.p.place.toNat = x at huir hfs
   rw [hz]; clear hz z
   refine lwp_hide fun z hz => ?_
   refine drawn_at (vw h5) (View.le_refl _) ?_
   simp (disch := omega) [pb, pp, cc5, cb5.idxn (N := 6) rfl, hul1, hli.idxn (N := 5) rfl, hui _ (View.le_refl _)]
   refine do_alloc (z := .agg #[.int .i64 0, .int .i64 0, .int .i64 0, .slice none 0 0, .int .i32 0]) (by kernel_rfl) ?_
   have hle6 := push_le h5 (.cells (Value.cells (.agg #[.int .i64 0, .int .i64 0, .int .i64 0, .slice none 0 0, .int .i32 0])) T.api_Ins)
   have hb6 : (h5.push (.cells (Value.cells (.agg #[.int .i64 0, .int .i64 0, .int .i64 0, .slice none 0 0, .int .i32 0])) T.api_Ins))[h5.size]? = some (.cells (Value.cells (.agg #[.int .i64 0, .int .i64 0, .int .i64 0, .slice none 0 0, .int .i32 0])) T.api_Ins (0, 0)) := by simp
   generalize h5.push (.cells (Value.cells (.agg #[.int .i64 0, .int .i64 0, .int .i64 0, .slice none 0 0, .int .i32 0])) T.api_Ins) = h6 at hle6 hb6
   refine ⟨hle6, ?_⟩
   obtain ⟨g1', g2', g3'⟩ := rd_cells huir
   refine do_store (g := h5.size) (o := 0) (n := 5) (v := ui) (by kernel_rfl) rfl rfl g2' g3' hb6 (by simp) fun h7 hs7 ⟨row, hr7, he7⟩ ho7 => ?_
   have hrow : row = ui.cells := by
    have g2'' : ui.cells.size = 5 := g2'
    rw [← Array.toList_inj, he7]; simp
   rw [hrow] at hr7
   have hle7 : (vw h5).le (vw h7) := fun b o hb => by
    have hlt := View.lt (View.le_refl (vw h5)) hb
    show h7[b]? = _
    rw [ho7 b (by omega)]; exact hle6 b o hb
   have hat7 : At (vw h7) ⟨h5.size, 0, none⟩ x := at_new (show vw h7 h5.size = _ from hr7) (huir.mono hle7)
   obtain ⟨q0, q1, _⟩ := at_insB hat7
   generalize h5.size = D7 at q0 q1
   rw [hz]; clear hz z
   have hres : refFoldableS f val = (decide (x.dst = val) && [1, 2, 4, 11, 12, 13].contains x.op) := by rw [hfs]; rfl
   by_cases c6 : x.dst = val
   ·simp [q0, q1, c6]
    have hc6 : [1, 2, 4, 11, 12, 13].contains x.op = (decide (x.op = 1) || decide (x.op = 2) || decide (x.op = 4) || decide (x.op = 11) || decide (x.op = 12) || decide (x.op = 13)) := by
     rw [Bool.eq_iff_iff]; simp [or_assoc]
    exact hK _ _ ⟨by rw [hres, decide_eq_true c6, Bool.true_and, hc6], View.le_trans hle hle7⟩
   ·simp [q0, q1, c6]
    exact hK _ _ ⟨by rw [hres, decide_eq_false c6, Bool.false_and], View.le_trans hle hle7⟩
end Go.Proofs.Ytfelpjfopgiabaa
namespace Go.Proofs.Ytfelpjfopgiabaa
open Go Go.Lft
def Lst (l : WL) (c : Nat) (t : Th) : Prop := l.length = c ∧ (0 < c → ∃ a, l = a ++ [(t.blk, t.place)])
theorem where_cnt {val : Int} {w : Int × Int} : ∀ {ns : List Int} {l : WL}, (ns.foldl (whereStep val w) l).length = l.length + cntOf val ns ∧ (0 < cntOf val ns → ∃ a, ns.foldl (whereStep val w) l = a ++ [w]) ∧ (cntOf val ns = 0 → ns.foldl (whereStep val w) l = l)
 | [], l => ⟨rfl, (fun h => absurd h (Nat.lt_irrefl 0)), fun _ => rfl⟩
 | n :: ns, l => by
  have hc : cntOf val (n :: ns) = (if n = val then 1 else 0) + cntOf val ns := by
   have key : ∀ (ns : List Int) (c : Nat), ns.foldl (fun c n => if n = val then c + 1 else c) c = c + cntOf val ns := by
    intro ns
    induction ns with
    | nil => intro c; rfl
    | cons a ns ih =>
     intro c
     unfold cntOf
     rw [List.foldl_cons, List.foldl_cons, ih, ih (if a = val then 0 + 1 else 0)]
     split <;> omega
   unfold cntOf
   rw [List.foldl_cons, key]
   unfold cntOf
   split <;> omega
  rw [List.foldl_cons]
  obtain ⟨h1, h2, h3⟩ := where_cnt (val := val) (w := w) (ns := ns) (l := whereStep val w l n)
  unfold whereStep at h1 h2 h3 ⊢
  by_cases e : n = val
  ·rw [if_pos e] at hc h1 h2 h3 ⊢
   refine ⟨?_, fun _ => ?_, fun h => by omega⟩
   ·have : (l ++ [w]).length = l.length + 1 := by simp
    omega
   ·rcases Nat.eq_zero_or_pos (cntOf val ns) with h0 | h0
    ·exact ⟨l, h3 h0⟩
    ·exact h2 h0
  ·rw [if_neg e] at hc h1 h2 h3 ⊢
   rw [Nat.zero_add] at hc
   rw [hc]
   exact ⟨h1, h2, h3⟩
theorem lst_step {val : Int} {l : WL} {c : Nat} {p t : Th} {ns : List Int} (h : Lst l c p) : Lst (ns.foldl (whereStep val (t.blk, t.place)) l) (c + cntOf val ns) (if 0 < cntOf val ns then t else p) := by
 obtain ⟨h1, h2, h3⟩ := where_cnt (val := val) (w := (t.blk, t.place)) (ns := ns) (l := l)
 refine ⟨by rw [h1, h.1], fun hp => ?_⟩
 by_cases e : 0 < cntOf val ns
 ·rw [if_pos e]; exact h2 e
 ·rw [if_neg e, h3 (by omega)]; exact h.2 (by omega)
theorem lst_all {val : Int} : ∀ {ts : List Th} {l1 l2 : WL} {s : FSt}, Lst l1 s.made s.p → Lst l2 s.taken s.q → Lst (ts.foldl (madeTh val) l1) (ts.foldl (fStep val) s).made (ts.foldl (fStep val) s).p ∧ Lst (ts.foldl (takenTh val) l2) (ts.foldl (fStep val) s).taken (ts.foldl (fStep val) s).q
 | [], _, _, _, h1, h2 => ⟨h1, h2⟩
 | t :: ts, l1, l2, s, h1, h2 => by
  rw [List.foldl_cons, List.foldl_cons, List.foldl_cons]
  exact lst_all (s := fStep val s t) (lst_step h1) (lst_step h2)
theorem lst_one {l : WL} {t : Th} (h : Lst l 1 t) : nth l 0 = (t.blk, t.place) := by
 obtain ⟨h1, h2⟩ := h
 obtain ⟨a, e⟩ := h2 (by omega)
 have ha : a = [] := List.eq_nil_of_length_eq_zero (by rw [e, List.length_append, List.length_singleton] at h1; omega)
 subst ha
 rw [e]; rfl
theorem foldable_same {f : FuncD} {val : Int} : foldableS f val = refFoldableS f val := by
 obtain ⟨h1, h2⟩ := lst_all (val := val) (ts := thingsS f) (l1 := []) (l2 := []) (s := ⟨0, 0, thZ, thZ⟩) ⟨rfl, fun h => by cases h⟩ ⟨rfl, fun h => by cases h⟩
 have e1 : foldableS f val = foldable1 f val ((thingsS f).foldl (madeTh val) []) ((thingsS f).foldl (takenTh val) []) := rfl
 have e2 : refFoldableS f val = (!fBad (fAll val (thingsS f)) && (decide ((insOf f (fAll val (thingsS f)).p).dst = val) && [1, 2, 4, 11, 12, 13].contains (insOf f (fAll val (thingsS f)).p).op)) := rfl
 rw [e1, e2]
 have e3 : (thingsS f).foldl (fStep val) ⟨0, 0, thZ, thZ⟩ = fAll val (thingsS f) := rfl
 rw [e3] at h1 h2
 generalize (thingsS f).foldl (madeTh val) [] = l1 at h1
 generalize (thingsS f).foldl (takenTh val) [] = l2 at h2
 generalize fAll val (thingsS f) = s at h1 h2
 unfold foldable1 foldBad fBad
 rw [h1.1, h2.1]
 by_cases c1 : s.made = 1
 ·by_cases c2 : s.taken = 1
  ·rw [c1] at h1
   rw [c2] at h2
   rw [lst_one h1, lst_one h2]
   have hins : nth (nth f.blocks s.p.blk.toNat).ins s.p.place.toNat = insOf f s.p := rfl
   rw [hins]
   have e4 : decide (s.p.blk = s.q.blk) = decide (s.q.blk = s.p.blk) := by rw [Bool.eq_iff_iff]; simp; exact eq_comm
   simp only [e4]
   congr 2
   cases decide (s.p.place < 0) <;> cases decide (s.q.place ≤ s.p.place) <;> cases decide (s.q.blk = s.p.blk) <;> simp [c1, c2]
  ·simp [c2]
 ·simp [c1]
end Go.Proofs.Ytfelpjfopgiabaa
namespace Go.Lft
open Go
theorem lwp_forI {P : Program} {Q : Post} {ρ : Env} {h : Heap} {a i c : Nat} {ks ks2 : List Nat} {ce : E} {body : LC} {σ : Type} (kp : List Nat) (vals : σ → Nat → List Value) (J : σ → Nat → Heap → Prop) (n : Nat) (d : Int) (s0 : σ)
  (hok : forOk kp ks ks2 c i = true) (hd : -9223372036854775808 ≤ d) (hn : n + d ≤ 9223372036854775806) (h0 : keepE kp ρ = kp.zip (vals s0 0)) (hj : J s0 0 h)
  (hi : ∀ s k, look (kp.zip (vals s k)) i = some (.int .i64 ((k : Int) + d)))
  (hb : ∀ s k h, k ≤ n → J s k h → ev (look (kp.zip (vals s k))) (vw h) ce = some (.bool (decide (k < n))))
  (round : ∀ s k h, k < n → J s k h → ∀ K : Env → Heap → Prop, (∀ s' ρ' h', look ρ' i = some (.int .i64 ((k : Int) + d)) → keepE kp (setE ρ' i (.int .i64 (((k : Int) + d) + 1))) = kp.zip (vals s' (k + 1)) → J s' (k + 1) h' → K ρ' h') → body.wp P (thenL K (inBlk a Q)) (kp.zip (vals s k)) h)
  (done : ∀ s h, J s n h → Q .normal (kp.zip (vals s n)) h) : LC.wp P (forC a i c ks ks2 ce body) (inBlk a Q) ρ h := by
 simp only [forOk, List.all_eq_true, Bool.and_eq_true, Bool.not_eq_true', bne_iff_ne, Bool.or_eq_true, beq_iff_eq, ne_eq] at hok
 refine lwp_loop kp (fun m ρ h => ∃ s k, k ≤ n ∧ ρ = kp.zip (vals s k) ∧ m = n - k ∧ J s k h) n ⟨s0, 0, by omega, h0, by omega, hj⟩ ?_
 rintro m ρ h ⟨s, k, hk, rfl, rfl, hJ⟩ K hK
 have hkill : killE (kp.zip (vals s k)) ks = kp.zip (vals s k) := killE_id fun p hp => (hok p.1 (zip_fst hp)).1.1
 have hne : ∀ p ∈ kp.zip (vals s k), p.1 ≠ c := fun p hp => (hok p.1 (zip_fst hp)).1.2
 have hk2 : ∀ v, killE (setE (kp.zip (vals s k)) c v) [c] = kp.zip (vals s k) := fun v => killE_setE hne
 have hlk : ∀ v, look (setE (kp.zip (vals s k)) c v) c = some v := fun v => by rw [look_setE, if_pos rfl]
 simp only [lwp_seq, lwp_reg, regWp_fin, part_none, evP_cons, evP_nil, hb s k h hk hJ, Option.bind_some, sat_some, okE_nil, true_and, setsE, hkill, thenL_normal, lwp_cond, ev_tmp, hlk, condP_decide, hk2, lwp_skip, lwp_exit, thenL_exit, inBlk_exit, if_true]
 refine ⟨fun hlt => ?_, fun hge => ?_⟩
 ·have hlt' : k < n := by omega
  rw [thenL_thenL]
  refine round s k h hlt' hJ _ fun s' ρ' h' hl he hJ' => ?_
  simp only [lwp_reg, regWp_fin, part_none, evP_cons, evP_nil, ev_bin_eq, ev_tmp, hl, okE_nil, true_and, Option.bind_some, ev_con, Option.bind_some, bn_add, sat_some, setsE, thenL_normal, true_and]
  rw [wrap64_id (by omega) (by omega)]
  refine hK (n - (k + 1)) _ _ (by omega) ⟨s', k + 1, by omega, ?_, rfl, hJ'⟩
  rw [← he]
  refine keepE_ext fun t ht => ?_
  rw [look_setE, look_setE, look_kill]
  split
  ·rfl
  ·rename_i hti
   rcases (hok t ht).2 with e | e
   ·exact absurd e.symm hti
   ·rw [e]; rfl
 ·have : k = n := by omega
  subst this
  exact done s h hJ
section
variable {po : OP}
theorem Owns.do_boxG {P : Program} {W : View} {h : Heap} {o : Own} {ty : TypeId} {us : List (Nat × Value)} {α : Type} [Rep α] {t : TypeId} {x : Operand} {v : Value} {d : α} {K : Value → Heap → Prop} (w : Owns W h o) (hx : asg us x = v) (hv : Rd W v d)
  (hk : ∀ B h' W', W.le W' → Owns W' h' o → At W' ⟨B, 0, none⟩ d → (vw h).le (vw h') → K (.pointer (some ⟨B, 0, none⟩)) h') : step P (.box t x) ty us h K := by
 refine do_boxT hx (hv.mono w.wle) fun h1 hp hle hs _ => ?_
 exact hk _ _ _ (le_grow w.wle) (w.ext hle) (at_new (t := t) (fz := (0, 0)) (by rw [grow_new (Nat.le_refl _), hp]; simp) (hv.mono (le_grow w.wle))) hle
theorem Owns.do_boxO {P : Program} {W : View} {h : Heap} {o : Own} {k : Key} {ty : TypeId} {us : List (Nat × Value)} {n : Nat} {l : List Value} {t : TypeId} {x : Operand} {K : Value → Heap → Prop} (w : Owns W h o) (hk : o k = none) (hx : asg us x = .agg l.toArray) (hl : l.length = n + 1) (hn : n + 1 ≤ 1000) (hc : ∀ c ∈ l, c.oneCell' = true)
  (hK : ∀ B h', (vw h).le (vw h') → Owns W h' (o.upd k (bx t B (RawN.mk (n := n) l))) → K (.pointer (some ⟨B, 0, none⟩)) h') : step P (.box t x) ty us h K := by
 refine do_box hx ?_
 have hb1 : (h.push (.cells (Value.agg l.toArray).cells t))[h.size]? = some (.cells (Value.agg l.toArray).cells t (0, 0)) := by simp
 have hle1 := push_le h (.cells (Value.agg l.toArray).cells t)
 generalize h.push (.cells (Value.agg l.toArray).cells t) = h1 at hb1 hle1
 exact hK _ _ hle1 (w.add (k := k) hk (ownT_box (W := W) (d := RawN.mk (n := n) l) hb1 (rd_rawN hl hc) hn) hle1 (fun b hb => by simp only [Value.ownBlock, Option.some.injEq] at hb; omega))
end
end Go.Lft
namespace Go.Proofs.Ytfelpjfopgiabaa
open Go Go.Lft
abbrev NumD := Cat (List Int) Q3
def vOwn (B : Nat) (ps : Int) (vb : Value) (g : Option (Nat × List Value)) : Own := fun k => if k = (11, 0) then bx T.api_Func B (RawN.mk (n := 1) [.int .i64 ps, vb]) else if k = (11, 1) then g.bind fun x => bx T.api_Func x.1 (RawN.mk (n := 1) x.2) else none
section
variable {B D : Nat} {ps : Int} {vb : Value} {l : List Value} {k : Key}
theorem vOwn_low (h : k.1 < 11) {g : Option (Nat × List Value)} : vOwn B ps vb g k = none := by
 unfold vOwn
 rw [if_neg (by rintro rfl; simp at h), if_neg (by rintro rfl; simp at h)]
theorem vOwn_one : vOwn B ps vb none k = Own.upd (fun _ => none) (11, 0) (bx T.api_Func B (RawN.mk (n := 1) [.int .i64 ps, vb])) k := by
 unfold vOwn Own.upd
 repeat' split
 all_goals first | rfl | simp_all
theorem vOwn_two {g : Option (Nat × List Value)} : vOwn B ps vb (some (D, l)) k = Own.upd (vOwn B ps vb g) (11, 1) (bx T.api_Func D (RawN.mk (n := 1) l)) k := by
 unfold vOwn Own.upd
 repeat' split
 all_goals first | rfl | simp_all
end
theorem checkValues_ok {f : FuncD} {val : Int} {x : NumD} {vf vx : Value} {h : Heap} (hf : Rd (vw h) vf f) (hval : I64 val) (hx : Rd (vw h) vx x) :
  HCalls Try.prog N.law03_CheckValues #[vf, .int .i64 val, vx] h (fun u h' => u = .bool true ∧ (vw h).le (vw h')) := by
 refine calls_lift (args := [vf, .int .i64 val, vx]) follows F.law03_CheckValues E.law03_CheckValues (Nat.le_of_ble_eq_true (by kernel_rfl)) fun K hK => ?_
 dsimp only [L.law03_CheckValues]
 obtain ⟨vb, rfl, ip, sb⟩ := func_val hf
 refine lwp_hide fun z hz => ?_
 simp
 refine (Owns.start (h := h) (View.le_refl (vw h))).do_boxO (k := (11, 0)) (n := 1) (l := [.int .i64 f.params, vb]) rfl rfl rfl (by decide) (two_cells sb.cells.2) fun B h1 hle1 w1 => ?_
 have w1 : Owns (vw h) h1 (vOwn B f.params vb none) := w1.congr fun k => vOwn_one
 refine w1.do_boxG (d := x) rfl hx fun X h2 W2 hW2 w2 hat hle2 => ?_
 obtain ⟨hal, haq⟩ := hat.cat
 obtain ⟨vl, cl, sl⟩ := hal.list
 obtain ⟨uq, huq, hqr⟩ := haq.loads rfl
 obtain ⟨rfl, i0, i1, i2⟩ := tri_val hqr
 have haq1 : ∀ K : View, W2.le K → Un.ev K (.loads 3) (.pointer (some ⟨X, 1, none⟩)) = some (.agg #[.int .i64 x.b.a, .int .i64 x.b.b.a, .int .i64 x.b.b.b]) := fun K hK => by
  have := ev_mono (ρ := fun _ => none) (e := .un (.loads 3) (.con (.pointer (some ⟨X, 1, none⟩)))) hK (by simpa using (show Un.ev W2 (.loads 3) (.pointer (some ((⟨X, 0, none⟩ : Addr).add 1))) = _ from huq))
  simpa using this
 rw [hz]; clear hz z
 refine lwp_hide fun z hz => ?_
 simp
 refine call_to (by kernel_rfl) shown_ok ?_
 rintro _ h3 ⟨rfl, hle3⟩
 have w3 := w2.ext' hle3
 rw [hz]; clear hz z
 refine lwp_hide fun z hz => ?_
 have cB : Un.ev (vw h3) (.loads 2) (.pointer (some ⟨B, 0, none⟩)) = some (.agg #[.int .i64 f.params, vb]) := w3.rawAll (k := (11, 0)) (n := 1) (l := [.int .i64 f.params, vb]) rfl
 simp [cB]
 refine call_to (by kernel_rfl) (few_okW w3 (fun k hk => vOwn_low (by omega)) (hf.mono hW2)) ?_
 rintro u h4 ⟨W4, hW4, w4, hr4⟩
 obtain ⟨vb4, rfl, ip4, sb4⟩ := func_val hr4
 refine w4.do_field (k := (11, 0)) (α := RawN 1) (β := RawN 1) Part.all (B := B) (D := RawN.mk (n := 1) [.int .i64 f.params, vb]) (d := RawN.mk (n := 1) [.int .i64 (fewS f).params, vb4]) rfl (by kernel_rfl) rfl rfl (rd_rawN rfl (two_cells sb4.cells.2)) fun h5 w5 _ => ?_
 have w5 : Owns W4 h5 (vOwn B (fewS f).params vb4 none) := w5.congr fun k => by
  rw [vOwn_one]; unfold Own.upd vOwn
  repeat' split
  all_goals first | rfl | simp_all
 rw [hz]; clear hz z
 refine lwp_hide fun z hz => ?_
 have fin : ∀ (D : Nat) (W8 : View) (h8 : Heap) (vb7 : Value) (g : FuncD) (tl : Env), W4.le W8 → Owns W8 h8 (vOwn B (fewS f).params vb4 (some (D, [.int .i64 g.params, vb7]))) → Rd W8 (.agg #[.int .i64 g.params, vb7]) g → TF 1001 g →
   LC.wp Try.prog z (fnPost [E.tmp 6] K) ((0, Value.agg #[.int .i64 f.params, vb]) :: (1, .int .i64 val) :: (2, vx) :: (3, .pointer (some ⟨B, 0, none⟩)) :: (5, .pointer (some ⟨X, 0, none⟩)) :: (6, .bool false) :: (7, .bool true) :: (8, .pointer (some ⟨D, 0, none⟩)) :: tl) h8 := by
  intro D W8 h8 vb7 g tl hW8 w8 hr8 tf8
  rw [hz]; clear hz z
  refine lwp_hide fun z hz => ?_
  simp only [lwp_seq]
  refine drawn_at (vw h8) (View.le_refl _) ?_
  have cB8 : Un.ev (vw h8) (.loads 2) (.pointer (some ⟨B, 0, none⟩)) = some (.agg #[.int .i64 (fewS f).params, vb4]) := w8.rawAll (k := (11, 0)) (n := 1) (l := [.int .i64 (fewS f).params, vb4]) rfl
  have cD8 : Un.ev (vw h8) (.loads 2) (.pointer (some ⟨D, 0, none⟩)) = some (.agg #[.int .i64 g.params, vb7]) := w8.rawAll (k := (11, 1)) (n := 1) (l := [.int .i64 g.params, vb7]) rfl
  have hle4 := View.le_trans hW8 w8.wle
  have smg := tf8.sm (by omega)
  have tr : ∀ {a b : Heap}, (vw h8).le (vw a) → (vw a).le (vw b) → (vw h8).le (vw b) := fun h1 h2 => View.le_trans h1 h2
  have hf8 := hr4.mono hle4
  have hg8 := hr8.mono w8.wle
  have fin2 : ∀ (tl : Env) (h9 : Heap), (vw h8).le (vw h9) → LC.wp Try.prog z (fnPost [E.tmp 6] K) ((0, Value.agg #[.int .i64 f.params, vb]) :: (1, .int .i64 val) :: (2, vx) :: (3, .pointer (some ⟨B, 0, none⟩)) :: (5, .pointer (some ⟨X, 0, none⟩)) :: (6, .bool false) :: (7, .bool true) :: (8, .pointer (some ⟨D, 0, none⟩)) :: tl) h9 := by
   intro tl h9 l9
   rw [hz]; clear hz z
   have cB : ∀ {k : Heap}, (vw h8).le (vw k) → Un.ev (vw k) (.loads 2) (.pointer (some ⟨B, 0, none⟩)) = some (.agg #[.int .i64 (fewS f).params, vb4]) := fun {k} hk => by
    have := ev_mono (ρ := fun _ => none) (e := .un (.loads 2) (.con (.pointer (some ⟨B, 0, none⟩)))) hk (by simpa using cB8)
    simpa using this
   have cD : ∀ {k : Heap}, (vw h8).le (vw k) → Un.ev (vw k) (.loads 2) (.pointer (some ⟨D, 0, none⟩)) = some (.agg #[.int .i64 g.params, vb7]) := fun {k} hk => by
    have := ev_mono (ρ := fun _ => none) (e := .un (.loads 2) (.con (.pointer (some ⟨D, 0, none⟩)))) hk (by simpa using cD8)
    simpa using this
   refine lwp_hide fun z hz => ?_
   simp [cB l9, cD l9, look_setE, look_kill]
   refine call_to (by kernel_rfl) (refTop_ok (hg8.mono l9) smg) ?_
   rintro _ h10 ⟨rfl, l10⟩
   have l10 := tr l9 l10
   generalize topS g = top
   rw [hz]; clear hz z
   refine lwp_hide fun z hz => ?_
   simp [look_setE, look_kill]
   obtain ⟨n, hn⟩ : ∃ n : Nat, n = (min (top + 2) 61).toNat := ⟨_, rfl⟩
   refine lwp_forI [1, 3, 7, 8, 9, 10] (fun (_ : Unit) k => [.int .i64 val, .pointer (some ⟨B, 0, none⟩), .bool true, .pointer (some ⟨D, 0, none⟩), .int .i64 top, .int .i64 ((k : Int) + -1)]) (fun _ _ h11 => (vw h8).le (vw h11)) n (-1) ()
    rfl (by decide) (by omega) (by simp [keepE, look_setE, look_kill]) l10 (fun _ _ => rfl) (fun _ k h11 hk l11 => ?_) ?_ ?_
   ·have e : (decide ((k : Int) + -1 ≤ top) && decide ((k : Int) + -1 < 60)) = decide (k < n) := by rw [Bool.eq_iff_iff]; simp only [Bool.and_eq_true, decide_eq_true_eq]; omega
    rw [← e]
    simp
   ·rintro _ k h11 hlt l11 K2 hK2
    simp only [lwp_block, lwp_seq]
    refine drawn_at (vw h11) (View.le_refl _) ?_
    refine reg_hide fun y hy => ?_
    simp [cB l11, cD l11]
    have ik : I64 ((k : Int) + -1) := by constructor <;> omega
    have tr2 : ∀ {a b : Heap}, (vw h11).le (vw a) → (vw a).le (vw b) → (vw h11).le (vw b) := fun h1 h2 => View.le_trans h1 h2
    refine call_to (by kernel_rfl) (foldable_ok (hg8.mono l11) smg ik) ?_
    rintro _ h12 ⟨rfl, l12⟩
    refine ⟨l12, ?_⟩
    rw [hy]; clear hy y
    refine reg_hide fun y hy => ?_
    simp [cB l11, cD l11]
    refine call_to (by kernel_rfl) (refFoldable_ok (hg8.mono (View.le_trans l11 l12)) smg) ?_
    rintro _ h13 ⟨rfl, l13⟩
    have l13 := tr2 l12 l13
    refine ⟨l13, ?_⟩
    rw [hy]; clear hy y
    refine reg_hide fun y hy => ?_
    rw [← foldable_same]
    simp [cB l11, cD l11]
    refine call_to (by kernel_rfl) (foldable_ok (hf8.mono (View.le_trans l11 l13)) sm_few ik) ?_
    rintro _ h14 ⟨rfl, l14⟩
    have l14 := tr2 l13 l14
    refine ⟨l14, ?_⟩
    rw [hy]; clear hy y
    refine reg_hide fun y hy => ?_
    simp [cB l11, cD l11]
    refine call_to (by kernel_rfl) (refFoldable_ok (hf8.mono (View.le_trans l11 l14)) sm_few) ?_
    rintro _ h15 ⟨rfl, l15⟩
    have l15 := tr2 l14 l15
    refine ⟨l15, ?_⟩
    rw [← foldable_same]
    rw [hy]; clear hy y
    simp
    exact hK2 () _ _ rfl (by rw [show (k : Int) + -1 + 1 = ((k + 1 : Nat) : Int) + -1 by omega]; rfl) (View.le_trans l11 l15)
   ·rintro _ h11 l11
    rw [thenL_normal]
    rw [hz]; clear hz z
    simp only [lwp_seq]
    refine drawn_at (vw h11) (View.le_refl _) ?_
    refine reg_hide fun y hy => ?_
    simp [cB l11, cD l11, look_setE, look_kill]
    refine call_to (by kernel_rfl) (foldable_ok (hf8.mono l11) sm_few hval) ?_
    rintro _ h12 ⟨rfl, l12⟩
    refine ⟨l12, ?_⟩
    rw [hy]; clear hy y
    refine reg_hide fun y hy => ?_
    simp [cB l11, cD l11]
    refine call_to (by kernel_rfl) (refFoldable_ok (hf8.mono (View.le_trans l11 l12)) sm_few) ?_
    rintro _ h13 ⟨rfl, l13⟩
    have l13 := View.le_trans l12 l13
    refine ⟨l13, ?_⟩
    rw [← foldable_same]
    rw [hy]; clear hy y
    simp
    exact hK _ _ ⟨rfl, View.le_trans hW2 (View.le_trans hW4 (View.le_trans hle4 (View.le_trans l11 l13)))⟩
  refine reg_hide fun y hy => ?_
  simp [cB8, cD8, look_setE, look_kill]
  refine call_to (by kernel_rfl) (top_ok hf8 sm_few) ?_
  rintro _ h9 ⟨rfl, l9⟩
  refine ⟨l9, ?_⟩
  rw [hy]; clear hy y
  refine reg_hide fun y hy => ?_
  simp [cB8, cD8, look_setE, look_kill]
  refine call_to (by kernel_rfl) (refTop_ok (hf8.mono l9) sm_few) ?_
  rintro _ h10 ⟨rfl, l10⟩
  have l10 := tr l9 l10
  refine ⟨l10, ?_⟩
  rw [hy]; clear hy y
  refine reg_hide fun y hy => ?_
  simp [cB8, cD8, look_setE, look_kill]
  refine call_to (by kernel_rfl) (uses2_ok (hf8.mono l10) sm_few) ?_
  rintro u11 h11 ⟨l11, s11⟩
  have s11 := s11.mono (fresh_le _ _)
  have l11 := tr l10 l11
  refine ⟨l11, ?_⟩
  rw [hy]; clear hy y
  refine reg_hide fun y hy => ?_
  simp [cB8, cD8, look_setE, look_kill]
  refine call_to (by kernel_rfl) (refUses_ok (hf8.mono l11) sm_few) ?_
  rintro u12 h12 ⟨l12, s12⟩
  have s11 := s11.mono l12
  have l12 := tr l11 l12
  refine ⟨l12, ?_⟩
  rw [hy]; clear hy y
  refine reg_hide fun y hy => ?_
  simp [cB8, cD8, look_setE, look_kill]
  refine call_to (by kernel_rfl) (rows_ok s11 s12) ?_
  rintro _ _ ⟨rfl, rfl⟩
  refine ⟨l12, ?_⟩
  rw [hy]; clear hy y
  refine reg_hide fun y hy => ?_
  simp [cB8, cD8, look_setE, look_kill]
  refine call_to (by kernel_rfl) (top_ok (hg8.mono l12) smg) ?_
  rintro _ h13 ⟨rfl, l13⟩
  have l13 := tr l12 l13
  refine ⟨l13, ?_⟩
  rw [hy]; clear hy y
  refine reg_hide fun y hy => ?_
  simp [cB8, cD8, look_setE, look_kill]
  refine call_to (by kernel_rfl) (refTop_ok (hg8.mono l13) smg) ?_
  rintro _ h14 ⟨rfl, l14⟩
  have l14 := tr l13 l14
  refine ⟨l14, ?_⟩
  rw [hy]; clear hy y
  refine reg_hide fun y hy => ?_
  simp [cB8, cD8, look_setE, look_kill]
  refine call_to (by kernel_rfl) (uses2_ok (hg8.mono l14) smg) ?_
  rintro u15 h15 ⟨l15, s15⟩
  have s15 := s15.mono (fresh_le _ _)
  have l15 := tr l14 l15
  refine ⟨l15, ?_⟩
  rw [hy]; clear hy y
  refine reg_hide fun y hy => ?_
  simp [cB8, cD8, look_setE, look_kill]
  refine call_to (by kernel_rfl) (refUses_ok (hg8.mono l15) smg) ?_
  rintro u16 h16 ⟨l16, s16⟩
  have s15 := s15.mono l16
  have l16 := tr l15 l16
  refine ⟨l16, ?_⟩
  rw [hy]; clear hy y
  refine reg_hide fun y hy => ?_
  simp [cB8, cD8, look_setE, look_kill]
  refine call_to (by kernel_rfl) (rows_ok s15 s16) ?_
  rintro _ _ ⟨rfl, rfl⟩
  refine ⟨l16, ?_⟩
  rw [hy]; clear hy y
  simp [look_setE, look_kill]
  exact fin2 _ _ l16
 refine drawn_at W4 w5.wle ?_
 have cl5 := cellH_mono hW4 cl
 simp [cl5, haq1 _ hW4]
 refine ⟨?_, ?_⟩
 ·refine call_to (by kernel_rfl) (lawMade_ok w5 (fun k hk => vOwn_low hk) (sl.mono hW4)) ?_
  rintro u h6 ⟨W6, hW6, w6, hr6⟩
  have tf6 := make_tf (s := x.a.take 200)
  generalize makeS (x.a.take 200) = f6 at hr6 tf6
  refine ⟨View.le_trans hW6 w6.wle, ?_, ?_⟩
  ·refine call_to (by kernel_rfl) (turned_ok w6 (fun k hk => vOwn_low (by omega)) hr6 tf6 (by omega) i0 i1 i2) ?_
   rintro u7 h7 ⟨W7, g, hW7, w7, tf7, hr7⟩
   obtain ⟨vb7, rfl, ip7, sb7⟩ := func_val hr7
   refine w7.do_var (k := (11, 1)) (n := 1) (l := [.int .i64 g.params, vb7]) rfl (z := .agg #[.int .i64 0, .slice none 0 0]) (by kernel_rfl) rfl (by kernel_rfl) rfl (by decide) (two_cells sb7.cells.2) (fun _ => by simp) (fun _ => by simp) fun h8 q8 w8 => ?_
   exact fin _ W7 _ vb7 g _ (View.le_trans hW6 hW7) (w8.congr fun k => vOwn_two) hr7 tf7
  ·refine w6.do_zero (k := (11, 1)) (n := 1) (z := .agg #[.int .i64 0, .slice none 0 0]) rfl (by kernel_rfl) rfl (by decide) (by simp [Value.cells, Value.oneCell']) fun h7 q7 w7 => ?_
   refine ⟨View.le_trans hW6 w7.wle, ?_⟩
   refine call_to (by kernel_rfl) (turned_ok w7 (fun k hk => (Own.upd_ne (by rintro rfl; simp at hk)).trans (vOwn_low (by omega))) hr6 tf6 (by omega) i0 i1 i2) ?_
   rintro u8 h8 ⟨W8, g, hW8, w8, tf8, hr8⟩
   obtain ⟨vb8, rfl, ip8, sb8⟩ := func_val hr8
   refine w8.do_field (k := (11, 1)) (α := RawN 1) (β := RawN 1) Part.all (D := RawN.mk (n := 1) [.int .i64 0, .slice none 0 0]) (d := RawN.mk (n := 1) [.int .i64 g.params, vb8]) Own.upd_self (by kernel_rfl) rfl rfl (rd_rawN rfl (two_cells sb8.cells.2)) fun h9 w9 _ => ?_
   exact fin _ W8 _ vb8 g _ (View.le_trans hW6 hW8) (w9.congr fun k => by rw [vOwn_two (g := none), upd_upd]) hr8 tf8
 ·refine w5.do_zero (k := (11, 1)) (n := 1) (z := .agg #[.int .i64 0, .slice none 0 0]) rfl (by kernel_rfl) rfl (by decide) (by simp [Value.cells, Value.oneCell']) fun h6 q6 w6 => ?_
  refine ⟨w6.wle, ?_⟩
  refine call_to (by kernel_rfl) (lawMade_ok w6 (fun k hk => (Own.upd_ne (by rintro rfl; simp at hk)).trans (vOwn_low hk)) (sl.mono hW4)) ?_
  rintro u h7 ⟨W7, hW7, w7, hr7⟩
  have tf7 := make_tf (s := x.a.take 200)
  generalize makeS (x.a.take 200) = f7 at hr7 tf7
  refine ⟨View.le_trans hW7 w7.wle, ?_⟩
  refine call_to (by kernel_rfl) (turned_ok w7 (fun k hk => (Own.upd_ne (by rintro rfl; simp at hk)).trans (vOwn_low (by omega))) hr7 tf7 (by omega) i0 i1 i2) ?_
  rintro u8 h8 ⟨W8, g, hW8, w8, tf8, hr8⟩
  obtain ⟨vb8, rfl, ip8, sb8⟩ := func_val hr8
  refine w8.do_field (k := (11, 1)) (α := RawN 1) (β := RawN 1) Part.all (D := RawN.mk (n := 1) [.int .i64 0, .slice none 0 0]) (d := RawN.mk (n := 1) [.int .i64 g.params, vb8]) Own.upd_self (by kernel_rfl) rfl rfl (rd_rawN rfl (two_cells sb8.cells.2)) fun h9 w9 _ => ?_
  exact fin _ W8 _ vb8 g _ (View.le_trans hW7 hW8) (w9.congr fun k => by rw [vOwn_two (g := none), upd_upd]) hr8 tf8
end Go.Proofs.Ytfelpjfopgiabaa
