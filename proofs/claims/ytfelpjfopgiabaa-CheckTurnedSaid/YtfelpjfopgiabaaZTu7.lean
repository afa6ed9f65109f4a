/- For every input CheckTurned returns true: what is wrong first with a function by numbers, some things of which are turned, is what the document says. No condition. -/
import Derived.Test.YtfelpjfopgiabaaZTu6
import Derived.Test.YtfelpjfopgiabaaRows
set_option linter.unusedSimpArgs false
set_option linter.unusedVariables false
namespace Go.Lft
open Go
variable {po : OP}
theorem do_sliceA {P : Program} {t ty e : TypeId} {us : List (Nat × Value)} {h : Heap} {K : Value → Heap → Prop} {x : Operand} {B n sz : Nat} (ht : P.underlying t = some (.array n e)) (hz : sizeB P e = some sz) (hx : asg us x = .pointer (some ⟨B, 0, none⟩)) (hk : K (.slice (some ⟨B, 0, none⟩) n n) h) : step P (.slice t x none none none) ty us h K := by
 refine step_of (runs_value fun w hw => ⟨.slice (some ⟨B, 0, none⟩) n n, w, ?_, Same.refl _, by rw [hw]; exact hk⟩)
 have e3 := run_sizeOf (w := w) hz
 simp only [loudSem, execOp, hx]
 simp [Instr.sliceAt, Instr.sureAddr, run_underlying ht, Instr.sliceBounds, e3, Addr.add]
end Go.Lft
namespace Go.Proofs.Ytfelpjfopgiabaa
open Go Go.Lft
structure TB (c : Nat) (x : BlkD) : Prop where
 phis : x.phis.length ≤ c
 ins : x.ins.length ≤ c
 args : x.term.args.length ≤ c
 to : x.term.to.length ≤ c
 pin : ∀ p ∈ x.phis, p.ins.length ≤ c
 iar : ∀ i ∈ x.ins, i.args.length ≤ c
structure TF (c : Nat) (f : FuncD) : Prop where
 len : f.blocks.length ≤ 1000
 blk : ∀ x ∈ f.blocks, TB c x
theorem TB.mono {c d : Nat} {x : BlkD} (t : TB c x) (h : c ≤ d) : TB d x := ⟨Nat.le_trans t.phis h, Nat.le_trans t.ins h, Nat.le_trans t.args h, Nat.le_trans t.to h, fun p hp => Nat.le_trans (t.pin p hp) h, fun i hi => Nat.le_trans (t.iar i hi) h⟩
theorem TF.mono {c d : Nat} {f : FuncD} (t : TF c f) (h : c ≤ d) : TF d f := ⟨t.len, fun x hx => (t.blk x hx).mono h⟩
theorem TF.sm {c : Nat} {f : FuncD} (t : TF c f) (h : c ≤ 10000) : SmF f := by
 refine ⟨by have := t.len; omega, fun i hi => ?_⟩
 have q := t.blk _ (nth_mem hi)
 exact ⟨by have := q.phis; omega, by have := q.ins; omega, by have := q.args; omega, by have := q.to; omega, fun k hk => by have := q.pin _ (nth_mem hk); omega, fun k hk => by have := q.iar _ (nth_mem hk); omega⟩
theorem make_tf {s : List Int} : TF 1000 (makeS s) := by
 have q := made5_ok (s := s)
 have hn := madeN_rng (s := s)
 refine ⟨by show (made5 s).blocks.length ≤ _; rw [q.z.len]; omega, fun x hx => ?_⟩
 obtain ⟨j, hj, rfl⟩ := List.getElem_of_mem hx
 have hj : j < (made5 s).blocks.length := hj
 have g := q.g j hj
 have this : TB 1000 (nth (made5 s).blocks j) := ⟨by have := q.z.phis j; omega, q.z.ins j, by have := g.args; omega, g.to, g.phis, fun i hi => by have := g.ins i hi; omega⟩
 rw [nth_eq hj] at this
 exact this
structure Tu (R F X : Nat) (i10 : Own) (c : Nat) (W0 : View) (vbk : Value) (bl : List BlkD) (W : View) (o : Own) (ps : Int) (vp vi va vt : Value) (kd im : Int) (lp : List PhiD) (li : List InsD) (la lt : List Int) : Prop where
 le : W0.le W
 res : o (8, 0) = bx T.api_Func R (RawN.mk (n := 1) [.int .i64 0, .slice none 0 0])
 fn : o (8, 1) = bx T.api_Func F (RawN.mk (n := 1) [.int .i64 ps, vbk])
 blk : o (3, 0) = it T.api_Block vbk bl
 box : o (3, 1) = bx T.api_Block X (RawN.mk (n := 5) [vp, vi, .int .i64 kd, va, vt, .int .i32 im])
 ins : o (3, 2) = it T.api_Ins vi li
 phis : o (3, 3) = it T.api_Phi vp lp
 free : o (4, 0) = none
 fr : ∀ k : Key, 10 ≤ k.1 → o k = i10 k
 ra : SlRd W va la
 rt : SlRd W vt lt
 ips : I64 ps
 ikd : I64 kd
 iim : -2147483648 ≤ im ∧ im ≤ 2147483647
 tb : TB c ⟨lp, li, ⟨kd, la, lt, ⟨im⟩⟩⟩
def TuE (R F X : Nat) (i10 : Own) (c : Nat) (W0 : View) (vbk : Value) (bl : List BlkD) (h : Heap) : Prop := ∃ W o ps vp vi va vt kd im lp li la lt, Tu R F X i10 c W0 vbk bl W o ps vp vi va vt kd im lp li la lt ∧ Owns W h o
theorem TuE.mono {R F X : Nat} {i10 : Own} {c d : Nat} {W0 : View} {vbk : Value} {bl : List BlkD} {h : Heap} (t : TuE R F X i10 c W0 vbk bl h) (hd : c ≤ d) : TuE R F X i10 d W0 vbk bl h := by
 obtain ⟨W, o, ps, vp, vi, va, vt, kd, im, lp, li, la, lt, t, w⟩ := t
 exact ⟨W, o, ps, vp, vi, va, vt, kd, im, lp, li, la, lt, ⟨t.le, t.res, t.fn, t.blk, t.box, t.ins, t.phis, t.free, t.fr, t.ra, t.rt, t.ips, t.ikd, t.iim, t.tb.mono hd⟩, w⟩
section
variable {R F X c : Nat} {i10 : Own} {W0 W : View} {vbk : Value} {bl : List BlkD} {h : Heap} {o : Own} {ps : Int} {vp vi va vt : Value} {kd im : Int} {lp : List PhiD} {li : List InsD} {la lt : List Int}
theorem Tu.wider (t : Tu R F X i10 c W0 vbk bl W o ps vp vi va vt kd im lp li la lt) {W' : View} (hW : W.le W') : Tu R F X i10 c W0 vbk bl W' o ps vp vi va vt kd im lp li la lt :=
 ⟨View.le_trans t.le hW, t.res, t.fn, t.blk, t.box, t.ins, t.phis, t.free, t.fr, t.ra.mono hW, t.rt.mono hW, t.ips, t.ikd, t.iim, t.tb⟩
theorem Tu.more (t : Tu R F X i10 c W0 vbk bl W o ps vp vi va vt kd im lp li la lt) {d : Nat} (hd : c ≤ d) : Tu R F X i10 d W0 vbk bl W o ps vp vi va vt kd im lp li la lt :=
 ⟨t.le, t.res, t.fn, t.blk, t.box, t.ins, t.phis, t.free, t.fr, t.ra, t.rt, t.ips, t.ikd, t.iim, t.tb.mono hd⟩
variable {po : OP} {ty t2 : TypeId} {us : List (Nat × Value)} {x y : Operand} {K : Value → Heap → Prop}
theorem Tu.do_params (t : Tu R F X i10 c W0 vbk bl W o ps vp vi va vt kd im lp li la lt) (w : Owns W h o) {p : Int} (hp : I64 p) (hsz : sizeB Try.prog t2 = some 1) (hx : asg us x = .pointer (some ⟨F, 0, none⟩)) (hy : asg us y = .int .i64 p) (hK : ∀ h', TuE R F X i10 c W0 vbk bl h' → K undef h') : @Lft.step po Try.prog (.store t2 x y) ty us h K :=
 w.do_cell (k := (8, 1)) (n := 1) (i := 0) t.fn (by decide) hsz hx hy rfl fun h' w' _ => hK h' ⟨W, _, p, vp, vi, va, vt, kd, im, lp, li, la, lt, ⟨t.le, (Own.upd_ne (by simp)).trans t.res, Own.upd_self, (Own.upd_ne (by simp)).trans t.blk, (Own.upd_ne (by simp)).trans t.box, (Own.upd_ne (by simp)).trans t.ins, (Own.upd_ne (by simp)).trans t.phis, (Own.upd_ne (by simp)).trans t.free, fun k hk => (Own.upd_ne (by rintro rfl; simp at hk)).trans (t.fr k hk), t.ra, t.rt, hp, t.ikd, t.iim, t.tb⟩, w'⟩
theorem Tu.do_kind (t : Tu R F X i10 c W0 vbk bl W o ps vp vi va vt kd im lp li la lt) (w : Owns W h o) {p : Int} (hp : I64 p) (hsz : sizeB Try.prog t2 = some 1) (hx : asg us x = .pointer (some ⟨X, 2, none⟩)) (hy : asg us y = .int .i64 p) (hK : ∀ h', TuE R F X i10 c W0 vbk bl h' → K undef h') : @Lft.step po Try.prog (.store t2 x y) ty us h K :=
 w.do_cell (k := (3, 1)) (n := 5) (i := 2) t.box (by decide) hsz hx hy rfl fun h' w' _ => hK h' ⟨W, _, ps, vp, vi, va, vt, p, im, lp, li, la, lt, ⟨t.le, (Own.upd_ne (by simp)).trans t.res, (Own.upd_ne (by simp)).trans t.fn, (Own.upd_ne (by simp)).trans t.blk, Own.upd_self, (Own.upd_ne (by simp)).trans t.ins, (Own.upd_ne (by simp)).trans t.phis, (Own.upd_ne (by simp)).trans t.free, fun k hk => (Own.upd_ne (by rintro rfl; simp at hk)).trans (t.fr k hk), t.ra, t.rt, t.ips, hp, t.iim, ⟨t.tb.phis, t.tb.ins, t.tb.args, t.tb.to, t.tb.pin, t.tb.iar⟩⟩, w'⟩
theorem Tu.do_to (t : Tu R F X i10 c W0 vbk bl W o ps vp vi va vt kd im lp li la lt) (w : Owns W h o) {v : Value} {l : List Int} (hv : SlRd W v l) (hl : l.length ≤ c) (hsz : sizeB Try.prog t2 = some 1) (hx : asg us x = .pointer (some ⟨X, 4, none⟩)) (hy : asg us y = v) (hK : ∀ h', TuE R F X i10 c W0 vbk bl h' → K undef h') : @Lft.step po Try.prog (.store t2 x y) ty us h K :=
 w.do_cell (k := (3, 1)) (n := 5) (i := 4) t.box (by decide) hsz hx hy hv.cells.2 fun h' w' _ => hK h' ⟨W, _, ps, vp, vi, va, v, kd, im, lp, li, la, l, ⟨t.le, (Own.upd_ne (by simp)).trans t.res, (Own.upd_ne (by simp)).trans t.fn, (Own.upd_ne (by simp)).trans t.blk, Own.upd_self, (Own.upd_ne (by simp)).trans t.ins, (Own.upd_ne (by simp)).trans t.phis, (Own.upd_ne (by simp)).trans t.free, fun k hk => (Own.upd_ne (by rintro rfl; simp at hk)).trans (t.fr k hk), t.ra, hv, t.ips, t.ikd, t.iim, ⟨t.tb.phis, t.tb.ins, t.tb.args, hl, t.tb.pin, t.tb.iar⟩⟩, w'⟩
theorem Tu.do_ins {β : Type} [Rep β] {off : Nat} {g : InsD → β} {s : InsD → β → InsD} (p : Part InsD β off g s) (t : Tu R F X i10 c W0 vbk bl W o ps vp vi va vt kd im lp li la lt) (w : Owns W h o) {j : Nat} {v : Value} {d : β} (hj : j < li.length) (hr : Rd W v d) (hs : (s li[j] d).args.length ≤ c) (hsz : sizeB Try.prog t2 = some (Rep.n β)) (hx : asg us x = .pointer (some (((slA vi).add (j * 5)).add off))) (hy : asg us y = v) (hK : ∀ h', TuE R F X i10 c W0 vbk bl h' → K undef h') : @Lft.step po Try.prog (.store t2 x y) ty us h K :=
 w.do_part (k := (3, 2)) (α := InsD) p (v := vi) (l := li) (i := j) t.ins hsz hx hy hj hr fun h' w' _ => hK h' ⟨W, _, ps, vp, vi, va, vt, kd, im, lp, li.set j (s li[j] d), la, lt, ⟨t.le, (Own.upd_ne (by simp)).trans t.res, (Own.upd_ne (by simp)).trans t.fn, (Own.upd_ne (by simp)).trans t.blk, (Own.upd_ne (by simp)).trans t.box, Own.upd_self, (Own.upd_ne (by simp)).trans t.phis, (Own.upd_ne (by simp)).trans t.free, fun k hk => (Own.upd_ne (by rintro rfl; simp at hk)).trans (t.fr k hk), t.ra, t.rt, t.ips, t.ikd, t.iim, ⟨t.tb.phis, by rw [List.length_set]; exact t.tb.ins, t.tb.args, t.tb.to, t.tb.pin, fun i hi => by
   rcases List.mem_or_eq_of_mem_set hi with q | q
   ·exact t.tb.iar i q
   ·rw [q]; exact hs⟩⟩, w'⟩
theorem Tu.do_phi (t : Tu R F X i10 c W0 vbk bl W o ps vp vi va vt kd im lp li la lt) (w : Owns W h o) {j : Nat} {v : Value} {d : List InD} (hj : j < lp.length) (hr : SlRd W v d) (hs : d.length ≤ c) (hsz : sizeB Try.prog t2 = some 1) (hx : asg us x = .pointer (some (((slA vp).add (j * 2)).add 1))) (hy : asg us y = v) (hK : ∀ h', TuE R F X i10 c W0 vbk bl h' → K undef h') : @Lft.step po Try.prog (.store t2 x y) ty us h K :=
 w.do_part (k := (3, 3)) (α := PhiD) PhiD.p_ins (v := vp) (l := lp) (i := j) t.phis hsz hx hy hj (rd_list.2 hr) fun h' w' _ => hK h' ⟨W, _, ps, vp, vi, va, vt, kd, im, lp.set j { lp[j] with ins := d }, li, la, lt, ⟨t.le, (Own.upd_ne (by simp)).trans t.res, (Own.upd_ne (by simp)).trans t.fn, (Own.upd_ne (by simp)).trans t.blk, (Own.upd_ne (by simp)).trans t.box, (Own.upd_ne (by simp)).trans t.ins, Own.upd_self, (Own.upd_ne (by simp)).trans t.free, fun k hk => (Own.upd_ne (by rintro rfl; simp at hk)).trans (t.fr k hk), t.ra, t.rt, t.ips, t.ikd, t.iim, ⟨by rw [List.length_set]; exact t.tb.phis, t.tb.ins, t.tb.args, t.tb.to, fun i hi => by
   rcases List.mem_or_eq_of_mem_set hi with q | q
   ·exact t.tb.pin i q
   ·rw [q]; exact hs, t.tb.iar⟩⟩, w'⟩
theorem Tu.do_insV (t : Tu R F X i10 c W0 vbk bl W o ps vp vi va vt kd im lp li la lt) {v : Value} {l : List InsD} (w : Owns W h (o.upd (3, 2) (it T.api_Ins v l))) (hl : l.length ≤ c) (ha : ∀ i ∈ l, i.args.length ≤ c) (hsz : sizeB Try.prog t2 = some 1) (hx : asg us x = .pointer (some ⟨X, 1, none⟩)) (hy : asg us y = v) (hK : ∀ h', TuE R F X i10 c W0 vbk bl h' → K undef h') : @Lft.step po Try.prog (.store t2 x y) ty us h K :=
 w.do_cell (k := (3, 1)) (n := 5) (i := 1) ((Own.upd_ne (by simp)).trans t.box) (by decide) hsz hx hy (w.cells (k := (3, 2)) Own.upd_self).2 fun h' w' _ => hK h' ⟨W, _, ps, vp, v, va, vt, kd, im, lp, l, la, lt, ⟨t.le, (Own.upd_ne (by simp)).trans ((Own.upd_ne (by simp)).trans t.res), (Own.upd_ne (by simp)).trans ((Own.upd_ne (by simp)).trans t.fn), (Own.upd_ne (by simp)).trans ((Own.upd_ne (by simp)).trans t.blk), Own.upd_self, (Own.upd_ne (by simp)).trans Own.upd_self, (Own.upd_ne (by simp)).trans ((Own.upd_ne (by simp)).trans t.phis), (Own.upd_ne (by simp)).trans ((Own.upd_ne (by simp)).trans t.free), fun k hk => (Own.upd_ne (by rintro rfl; simp at hk)).trans ((Own.upd_ne (by rintro rfl; simp at hk)).trans (t.fr k hk)), t.ra, t.rt, t.ips, t.ikd, t.iim, ⟨t.tb.phis, hl, t.tb.args, t.tb.to, t.tb.pin, ha⟩⟩, w'⟩
theorem Tu.do_phiV (t : Tu R F X i10 c W0 vbk bl W o ps vp vi va vt kd im lp li la lt) {v : Value} {l : List PhiD} (w : Owns W h (o.upd (3, 3) (it T.api_Phi v l))) (hl : l.length ≤ c) (ha : ∀ i ∈ l, i.ins.length ≤ c) (hsz : sizeB Try.prog t2 = some 1) (hx : asg us x = .pointer (some ⟨X, 0, none⟩)) (hy : asg us y = v) (hK : ∀ h', TuE R F X i10 c W0 vbk bl h' → K undef h') : @Lft.step po Try.prog (.store t2 x y) ty us h K :=
 w.do_cell (k := (3, 1)) (n := 5) (i := 0) ((Own.upd_ne (by simp)).trans t.box) (by decide) hsz hx hy (w.cells (k := (3, 3)) Own.upd_self).2 fun h' w' _ => hK h' ⟨W, _, ps, v, vi, va, vt, kd, im, l, li, la, lt, ⟨t.le, (Own.upd_ne (by simp)).trans ((Own.upd_ne (by simp)).trans t.res), (Own.upd_ne (by simp)).trans ((Own.upd_ne (by simp)).trans t.fn), (Own.upd_ne (by simp)).trans ((Own.upd_ne (by simp)).trans t.blk), Own.upd_self, (Own.upd_ne (by simp)).trans ((Own.upd_ne (by simp)).trans t.ins), (Own.upd_ne (by simp)).trans Own.upd_self, (Own.upd_ne (by simp)).trans ((Own.upd_ne (by simp)).trans t.free), fun k hk => (Own.upd_ne (by rintro rfl; simp at hk)).trans ((Own.upd_ne (by rintro rfl; simp at hk)).trans (t.fr k hk)), t.ra, t.rt, t.ips, t.ikd, t.iim, ⟨hl, t.tb.ins, t.tb.args, t.tb.to, ha, t.tb.iar⟩⟩, w'⟩
end
theorem blk_val {H : View} {u : Value} {d : BlkD} (h : Rd H u d) : ∃ vp vi va vt, u = .agg #[vp, vi, .int .i64 d.term.kind, va, vt, .int .i32 d.term.imm.v] ∧ SlRd H vp d.phis ∧ SlRd H vi d.ins ∧ SlRd H va d.term.args ∧ SlRd H vt d.term.to ∧ I64 d.term.kind ∧ -2147483648 ≤ d.term.imm.v ∧ d.term.imm.v ≤ 2147483647 := by
 obtain ⟨cs, rfl, c1, r1, e1, ⟨vp, rfl, h1⟩, c2, r2, e2, ⟨vi, rfl, h2⟩, c3, r3, e3, ⟨rfl, h3⟩, c4, r4, e4, ⟨va, rfl, h4⟩, c5, r5, e5, ⟨vt, rfl, h5⟩, h6, h7⟩ := h
 subst e5 e4 e3 e2
 have he : cs.toList = [vp, vi, .int .i64 d.term.kind, va, vt, .int .i32 d.term.imm.v] := by rw [e1, h6]; rfl
 refine ⟨vp, vi, va, vt, ?_, h1, h2, h4, h5, h3, h7⟩
 rw [← Array.toList_inj.1 (he.trans rfl : cs.toList = #[vp, vi, Value.int .i64 d.term.kind, va, vt, .int .i32 d.term.imm.v].toList)]
theorem Owns.elW {W : View} {h : Heap} {o : Own} {k : Key} {α : Type} [r : Rep α] {e : TypeId} {v : Value} {l : List α} (w : Owns W h o) (hk : o k = it e v l) {i : Nat} (hi : i < l.length) : ∃ cs, cellsAt (vw h) ((slA v).add (i * Rep.n α)) cs ∧ cs.length = Rep.n α ∧ Rep.rd W cs l[i] := by
 obtain ⟨hb, xs, ⟨hl, hown⟩, hel⟩ := w.get hk
 have h0 := hel i hi
 have hle : i * Rep.n α + Rep.n α ≤ l.length * Rep.n α := by rw [← Nat.succ_mul]; exact Nat.mul_le_mul_right _ hi
 have hcl : ((xs.drop (i * Rep.n α)).take (Rep.n α)).length = Rep.n α := by simp; omega
 rcases hown with ⟨rfl, hn⟩ | ⟨g, cap, cur, rfl, h2, h3, h4, h5, h6⟩
 ·omega
 ·have hadd : (slA (.slice (some ⟨g, 0, none⟩) l.length cap)).add (i * Rep.n α) = ⟨g, i * Rep.n α, none⟩ := by
   show (⟨g, 0, none⟩ : Addr).add _ = _
   simp [Addr.z]
  rw [hadd]
  refine ⟨_, ⟨cur, e, (0, 0), rfl, h2, ?_⟩, hcl, h0⟩
  rw [hcl, ← h6, List.drop_take, List.take_take, Nat.min_eq_left (by omega)]
theorem Owns.ldW {W : View} {h : Heap} {o : Own} {k : Key} {α : Type} [r : Rep α] {e : TypeId} {v : Value} {l : List α} (w : Owns W h o) (hk : o k = it e v l) (ha : Rep.agg α = true) {N : Nat} (hn : Rep.n α = N) {i : Nat} (hi : i < l.length) : ∃ u, Un.ev (vw h) (.loads N) (.pointer (some ((slA v).add (i * N)))) = some u ∧ Rd W u l[i] := by
 subst hn
 obtain ⟨cs, h1, h2, h3⟩ := Owns.elW w hk hi
 have := cellsFrom_at h1 cs.length 0 #[] (by omega)
 refine ⟨.agg cs.toArray, ?_, ?_⟩
 ·simp only [Un.ev, vP, Option.bind_some]
  rw [h2] at this
  rw [this]
  simp
 ·unfold Rd
  rw [if_pos ha]
  exact ⟨_, rfl, by simpa using h3⟩
theorem Owns.insW {W : View} {h : Heap} {o : Own} {k : Key} {e : TypeId} {v : Value} {l : List InsD} (w : Owns W h o) (hk : o k = it e v l) {i : Nat} (hi : i < l.length) : ∃ va, cellH (vw h) (((slA v).add (i * 5)).add 3) = some va ∧ SlRd W va l[i].args := by
 obtain ⟨cs, h1, h2, h3⟩ := Owns.elW w hk hi
 have hn : Rep.n InsD = 5 := rfl
 rw [hn] at h1
 obtain ⟨c1, r1, e1, ⟨rfl, q1⟩, c2, r2, e2, ⟨rfl, q2⟩, c3, r3, e3, ⟨rfl, q3⟩, c4, r4, e4, ⟨va, rfl, q4⟩, q5, q6⟩ := h3
 subst e4 e3 e2 e1
 exact ⟨va, cellsAt_get h1 (by rfl), q4⟩
theorem Owns.phiW {W : View} {h : Heap} {o : Own} {k : Key} {e : TypeId} {v : Value} {l : List PhiD} (w : Owns W h o) (hk : o k = it e v l) {i : Nat} (hi : i < l.length) : ∃ va, cellH (vw h) (((slA v).add (i * 2)).add 1) = some va ∧ SlRd W va l[i].ins := by
 obtain ⟨cs, h1, h2, h3⟩ := Owns.elW w hk hi
 have hn : Rep.n PhiD = 2 := rfl
 rw [hn] at h1
 obtain ⟨c1, r1, e1, ⟨rfl, q1⟩, va, rfl, q4⟩ := h3
 subst e1
 exact ⟨va, cellsAt_get h1 (by rfl), q4⟩
theorem do_oneIn {po : OP} {a b : Int} (ha : I64 a) (hb : I64 b) {ty : TypeId} {us : List (Nat × Value)} {h : Heap} {x : Operand} {K : Value → Heap → Prop} (hx : asg us x = .agg #[.int .i64 a, .int .i64 b])
  (hk : ∀ h', (vw h).le (vw h') → (∀ Y : View, Y h.size = h'[h.size]? → SlRd Y (.slice (some ⟨h.size, 0, none⟩) 1 1) [InD.mk a b]) → K (.slice (some ⟨h.size, 0, none⟩) 1 1) h') : @Lft.step po Try.prog (.buildSlice T.s_api_In 1 #[(0, x)]) ty us h K := by
 refine do_lits (n := 1) (size := 2) (vs := [(0, .agg #[.int .i64 a, .int .i64 b])]) (cs := #[.int .i64 a, .int .i64 b]) El.s_api_In (by decide) (by simp [hx]) (by kernel_rfl) (hk _ (push_le _ _) fun Y hY => ?_)
 have hb2 : Y h.size = some (.cells #[.int .i64 a, .int .i64 b] T.api_In (0, 0)) := by rw [hY]; simp
 refine ⟨some ⟨h.size, 0, none⟩, 1, rfl, Nat.le_refl _, by simp, .inr ⟨⟨h.size, 0, none⟩, rfl, rfl, fun i hi => ?_⟩⟩
 have : i = 0 := by simpa using hi
 subst this
 have e : (⟨h.size, 0, none⟩ : Addr).add (0 * Rep.n InD) = ⟨h.size, 0, none⟩ := by rw [Nat.zero_mul]; rfl
 rw [e]
 exact at_new (d := InD.mk a b) (v := .agg #[.int .i64 a, .int .i64 b]) (fz := (0, 0)) hb2 (rd_inD ha hb)
theorem Owns.cut {W : View} {h : Heap} {o : Own} {k : Key} {α : Type} [r : Rep α] {e : TypeId} {v : Value} {l : List α} (w : Owns W h o) (hk : o k = it e v l) {N : Nat} (hN : Rep.n α = N) {j : Nat} (hj : j < l.length) : ∃ v1 v2, Bn.ev .hi v (.int .i64 j) = some v1 ∧ Bn.ev (.lo N) v (.int .i64 ((j : Int) + 1)) = some v2 ∧ Owns W h (o.upd k (it e v1 (l.take j))) ∧ SrcT (vw h) W v2 (l.drop (j + 1)) := by
 subst hN
 obtain ⟨hb, xs, ⟨hl, hown⟩, hel⟩ := w.get hk
 rcases hown with ⟨rfl, hn⟩ | ⟨g, cap, cur, rfl, h2, h3, h4, h5, h6⟩
 ·omega
 ·have hjn : j * Rep.n α + Rep.n α ≤ l.length * Rep.n α := by rw [← Nat.succ_mul]; exact Nat.mul_le_mul_right _ hj
  have hcn : l.length * Rep.n α ≤ cap * Rep.n α := Nat.mul_le_mul_right _ h3
  refine ⟨.slice (some ⟨g, 0, none⟩) j cap, .slice (if cap = j + 1 then some ⟨g, 0, none⟩ else (some ⟨g, 0, none⟩ : Option Addr).map (·.add ((j + 1) * Rep.n α))) (l.length - (j + 1)) (cap - (j + 1)), ?_, ?_, ?_, ?_⟩
  ·simp only [Bn.ev, vL, vI, Option.bind_some]
   rw [if_pos ⟨by omega, by omega⟩]
   simp
  ·simp only [Bn.ev, vL, vI, Option.bind_some]
   rw [if_pos ⟨by omega, by omega⟩]
   have : ((j : Int) + 1).toNat = j + 1 := by omega
   simp only [this]
  ·refine w.moved hk (h' := h) (v' := .slice (some ⟨g, 0, none⟩) j cap) (l' := l.take j) ⟨by simp; omega, xs.take (j * Rep.n α), ⟨?_, .inr ⟨g, cap, cur, ?_, h2, ?_, h4, h5, ?_⟩⟩, fun i hi => ?_⟩ ⟨⟨Nat.le_refl _, fun _ _ _ => rfl⟩, .inl rfl⟩
   ·simp only [List.length_take]; rw [hl]; rw [Nat.min_eq_left (by omega), Nat.min_eq_left (by omega)]
   ·rw [List.length_take, Nat.min_eq_left (by omega)]
   ·simp; omega
   ·rw [List.length_take, Nat.min_eq_left (by omega), ← h6, List.take_take, Nat.min_eq_left (by omega)]
   ·have him : i < min j l.length := by simpa using hi
    have hi : i < j ∧ i < l.length := ⟨by omega, by omega⟩
    have := hel i hi.2
    rw [List.getElem_take]
    have e2 : ((xs.take (j * Rep.n α)).drop (i * Rep.n α)).take (Rep.n α) = (xs.drop (i * Rep.n α)).take (Rep.n α) := by
     have h7 : i * Rep.n α + Rep.n α ≤ j * Rep.n α := by rw [← Nat.succ_mul]; exact Nat.mul_le_mul_right _ hi.1
     rw [List.drop_take, List.take_take, Nat.min_eq_left (by omega)]
    rw [e2]; exact this
  ·have hld : (l.drop (j + 1)).length = l.length - (j + 1) := by simp
   refine ⟨_, _, by rw [hld], ?_, xs.drop ((j + 1) * Rep.n α), ?_, ?_, fun i hi => ?_⟩
   ·intro hn
    split at hn
    ·cases hn
    ·cases hn
   ·rw [List.length_drop, hl, hld, Nat.sub_mul]
   ·intro ad had i x hx
    split at had
    ·rename_i hc
     have : l.length = j + 1 := by omega
     rw [List.drop_eq_nil_of_le (by rw [hl, this]; exact Nat.le_refl _)] at hx
     simp at hx
    ·simp only [Option.map_some, Option.some.injEq] at had
     subst had
     have e3 : (((⟨g, 0, none⟩ : Addr).add ((j + 1) * Rep.n α)).add i) = ⟨g, (j + 1) * Rep.n α + i, none⟩ := by simp [Addr.z]
     rw [e3]
     have hx2 : xs[(j + 1) * Rep.n α + i]? = some x := by rw [List.getElem?_drop] at hx; exact hx
     have hlt : (j + 1) * Rep.n α + i < xs.length := by
      rcases Nat.lt_or_ge ((j + 1) * Rep.n α + i) xs.length with q | q
      ·exact q
      ·rw [List.getElem?_eq_none q] at hx2; cases hx2
     have h2v : vw h g = some (.cells cur e (0, 0)) := h2
     simp only [cellH, h2v]
     rw [← h6, List.getElem?_take_of_lt (by omega)] at hx2
     simpa using hx2
   ·have hi : j + 1 + i < l.length := by rw [hld] at hi; omega
    have := hel (j + 1 + i) hi
    rw [List.getElem_drop]
    rw [List.drop_drop, show (j + 1) * Rep.n α + i * Rep.n α = (j + 1 + i) * Rep.n α by rw [← Nat.add_mul]]
    exact this
end Go.Proofs.Ytfelpjfopgiabaa
namespace Go.Proofs.Ytfelpjfopgiabaa
open Go Go.Lft
set_option maxHeartbeats 4000000 in
theorem turned_ok {f : FuncD} {c : Nat} {v : Value} {q0 q1 q2 : Int} {h : Heap} {W : View} {o0 : Own} (w0 : Owns W h o0) (ho0 : ∀ k : Key, k.1 < 10 → o0 k = none) (hv : Rd W v f) (hf : TF c f) (hc : c ≤ 5000) (i0 : I64 q0) (i1 : I64 q1) (i2 : I64 q2) :
  HCalls Try.prog N.ref03_Turned #[v, .agg #[.int .i64 q0, .int .i64 q1, .int .i64 q2]] h (fun u h' => ∃ W' f', W.le W' ∧ Owns W' h' o0 ∧ TF (c + 1) f' ∧ Rd W' u f') := by
 refine calls_lift (args := [v, .agg #[.int .i64 q0, .int .i64 q1, .int .i64 q2]]) follows F.ref03_Turned E.ref03_Turned (Nat.le_of_ble_eq_true (by kernel_rfl)) fun K hK => ?_
 dsimp only [L.ref03_Turned]
 obtain ⟨vbs, rfl, ips, sbl⟩ : ∃ vbs, v = .agg #[.int .i64 f.params, vbs] ∧ I64 f.params ∧ SlRd W vbs f.blocks := by
  obtain ⟨cs, rfl, c1, r1, e1, ⟨rfl, h1⟩, vb, h2, h3⟩ := hv
  exact ⟨vb, by rw [← Array.toList_inj.1 ((by rw [e1, h2]; rfl) : cs.toList = #[Value.int .i64 f.params, vb].toList)], h1, h3⟩
 refine lwp_hide fun z hz => ?_
 simp
 refine do_box (v := .agg #[.int .i64 f.params, vbs]) rfl ?_
 have hb1 : (h.push (.cells (Value.agg #[.int .i64 f.params, vbs]).cells T.api_Func))[h.size]? = some (.cells (Value.agg #[.int .i64 f.params, vbs]).cells T.api_Func (0, 0)) := by simp
 have hle1 := push_le h (.cells (Value.agg #[.int .i64 f.params, vbs]).cells T.api_Func)
 generalize h.push (.cells (Value.agg #[.int .i64 f.params, vbs]).cells T.api_Func) = h1 at hb1 hle1
 have hvbs := sbl.cells.2
 have w1 := w0.add (k := (8, 1)) (ho0 _ (by decide)) (ownT_box (W := W) (d := RawN.mk (n := 1) [.int .i64 f.params, vbs]) hb1 (rd_rawN rfl (by intro c hc; simp only [List.mem_cons, List.not_mem_nil, or_false] at hc; rcases hc with rfl | rfl <;> first | rfl | exact hvbs)) (by decide)) hle1 (fun b hb => by simp only [Value.ownBlock, Option.some.injEq] at hb; omega)
 generalize h.size = F at w1
 refine do_box (v := .agg #[.int .i64 q0, .int .i64 q1, .int .i64 q2]) rfl ?_
 have hb2 : (h1.push (.cells (Value.agg #[.int .i64 q0, .int .i64 q1, .int .i64 q2]).cells T.a3_int))[h1.size]? = some (.cells (Value.agg #[.int .i64 q0, .int .i64 q1, .int .i64 q2]).cells T.a3_int (0, 0)) := by simp
 have hle2 := push_le h1 (.cells (Value.agg #[.int .i64 q0, .int .i64 q1, .int .i64 q2]).cells T.a3_int)
 generalize h1.push (.cells (Value.agg #[.int .i64 q0, .int .i64 q1, .int .i64 q2]).cells T.a3_int) = h2 at hb2 hle2
 have w2 := w1.ext hle2
 have hg2 : grow W h1 h2 h1.size = some (.cells (([q0, q1, q2] : List Int).map fun x => Value.int .i64 x).toArray T.a3_int (0, 0)) := by
  rw [grow_new (Nat.le_refl _), hb2]; rfl
 have sq : SlRd (grow W h1 h2) (.slice (some ⟨h1.size, 0, none⟩) 3 3) [q0, q1, q2] := sl_arr hg2 rfl (by decide) (by intro x hx; simp only [List.mem_cons, List.not_mem_nil, or_false] at hx; rcases hx with rfl | rfl | rfl <;> assumption)
 have hW2 := le_grow (h' := h2) w1.wle
 generalize grow W h1 h2 = W2 at w2 sq hW2
 generalize h1.size = Q at sq
 refine w2.do_zero (k := (8, 0)) (n := 1) (z := .agg #[.int .i64 0, .slice none 0 0]) (by rw [Own.upd_ne (by simp)]; exact ho0 _ (by decide)) (by kernel_rfl) rfl (by decide) (by simp [Value.cells, Value.oneCell']) fun h3 q3 w3 => ?_
 generalize h2.size = R at w3
 have hsb2 := sbl.mono hW2
 clear hb1 hle1 hb2 hle2 hg2 w1 w2 q3
 rw [hz]; clear hz z
 refine lwp_hide fun z hz => ?_
 simp
 refine w3.do_empty (k := (3, 0)) (α := BlkD) (by rw [Own.upd_ne (by simp), Own.upd_ne (by simp)]; exact ho0 _ (by decide)) El.s_api_Block fun v4 h4 hle4 hv4 w4 _ => ?_
 have c4 : cellH (vw h4) ⟨F, 1, none⟩ = some vbs := w4.raw (k := (8, 1)) (e := T.api_Func) (n := 1) (l := [.int .i64 f.params, vbs]) (by rw [Own.upd_ne (by simp), Own.upd_ne (by simp), Own.upd_self]; rfl) (i := 1) (by decide)
 simp [c4]
 have hbl := hf.len
 refine w4.do_append (k := (3, 0)) (α := BlkD) (l := ([] : List BlkD)) (l2 := f.blocks) Own.upd_self El.s_api_Block rfl rfl (hsb2.src w4.wle) (by simp; omega) (by simp; omega) fun vbk h5 w5 _ => ?_
 rw [List.nil_append] at w5
 have hvk := (w5.cells (k := (3, 0)) Own.upd_self).2
 rw [hz]; clear hz z
 refine lwp_hide fun z hz => ?_
 simp
 refine w5.do_cell (k := (8, 1)) (n := 1) (i := 1) (e := T.api_Func) (B := F) (l := [.int .i64 f.params, vbs]) (by rw [Own.upd_ne (by simp), Own.upd_ne (by simp), Own.upd_ne (by simp), Own.upd_self]; rfl) (by decide) (by kernel_rfl) rfl rfl hvk fun h6 w6 _ => ?_
 obtain ⟨o6, ho6⟩ : ∃ o6 : Own, o6 = fun k => if k = (8, 0) then bx T.api_Func R (RawN.mk (n := 1) [.int .i64 0, .slice none 0 0]) else if k = (8, 1) then bx T.api_Func F (RawN.mk (n := 1) [.int .i64 f.params, vbk]) else if k = (3, 0) then it T.api_Block vbk f.blocks else o0 k := ⟨_, rfl⟩
 have w6 : Owns W2 h6 o6 := w6.congr fun k => by
  rw [ho6]
  unfold Own.upd
  repeat' split
  all_goals first | rfl | simp_all
 clear w5 w4 w3 c4
 have hlen : ∀ {Q : View}, Un.ev Q .len vbk = some (.int .i64 f.blocks.length) := fun {Q} => (w6.now (k := (3, 0)) (v := vbk) (l := f.blocks) (by rw [ho6]; rfl)).len
 rw [hz]; clear hz z
 refine lwp_hide fun z hz => ?_
 refine lwp_hide fun y hy => ?_
 simp [hlen]
 rw [hy]; clear hy y
 by_cases c0 : f.blocks.length = 0
 ·have c0' : f.blocks = [] := List.eq_nil_of_length_eq_zero c0
  refine lwp_cond_t (by simp [c0, c0']) ?_
  refine lwp_hide fun y hy => ?_
  have ca := w6.rawAll (k := (8, 1)) (n := 1) (l := [.int .i64 f.params, vbk]) (e := T.api_Func) (B := F) (by rw [ho6]; rfl)
  have ca : Un.ev (vw h6) (.loads 2) (.pointer (some ⟨F, 0, none⟩)) = some (.agg #[.int .i64 f.params, vbk]) := ca
  simp [ca]
  refine w6.do_field (k := (8, 0)) (α := RawN 1) (β := RawN 1) Part.all (B := R) (D := RawN.mk (n := 1) [.int .i64 0, .slice none 0 0]) (d := RawN.mk (n := 1) [.int .i64 f.params, vbk]) (by rw [ho6]; rfl) (by kernel_rfl) rfl rfl (rd_rawN rfl (by intro c hc; simp only [List.mem_cons, List.not_mem_nil, or_false] at hc; rcases hc with rfl | rfl <;> first | rfl | exact hvk)) fun h7 w7 _ => ?_
  have cb := w7.rawAll (k := (8, 0)) (n := 1) (l := [.int .i64 f.params, vbk]) Own.upd_self
  have cb : Un.ev (vw h7) (.loads 2) (.pointer (some ⟨R, 0, none⟩)) = some (.agg #[.int .i64 f.params, vbk]) := cb
  have sb7 := w7.now (k := (3, 0)) (v := vbk) (l := f.blocks) (by rw [Own.upd_ne (by simp), ho6]; rfl)
  rw [hy]; clear hy y
  simp [cb]
  obtain ⟨w8, s8⟩ := w7.freeze (k := (3, 0)) (v := vbk) (l := f.blocks) (by rw [Own.upd_ne (by simp), ho6]; rfl)
  have hW8 := le_plus (h := h7) (w7.av (3, 0) ⟨_, _, T.api_Block, vbk, f.blocks⟩ (by rw [Own.upd_ne (by simp), ho6]; rfl))
  have w9 := w8.sub (o' := o0) fun k i hk => by
   rcases Nat.lt_or_ge k.1 10 with e | e
   ·rw [ho0 k e] at hk; cases hk
   ·rw [Own.upd_ne (by rintro rfl; simp at e), Own.upd_ne (by rintro rfl; simp at e), ho6]
    dsimp only
    rw [if_neg (by rintro rfl; simp at e), if_neg (by rintro rfl; simp at e), if_neg (by rintro rfl; simp at e)]; exact hk
  exact hK _ _ ⟨_, f, View.le_trans hW2 hW8, w9, hf.mono (by omega), ⟨_, rfl, [.int .i64 f.params], [vbk], rfl, ⟨rfl, ips⟩, vbk, rfl, s8⟩⟩
 have c0' : ¬ f.blocks = [] := fun e => c0 (by rw [e]; rfl)
 refine lwp_cond_f (by simp [c0']) ?_
 simp
 rw [hz]; clear hz z
 refine lwp_hide fun z hz => ?_
 simp
 refine do_sliceA (n := 3) (e := T.int) (sz := 1) U.a3_int (by kernel_rfl) rfl ?_
 refine do_build (z := .agg #[.slice none 0 0, .int .i64 0, .int .i64 0, .slice none 0 0, .int .i64 0, .slice none 0 0]) (places := [(0, 1), (1, 1), (2, 2), (4, 1), (5, 1)]) (vs := [(0, .slice (some ⟨Q, 0, none⟩) 3 3)]) (cs := #[.slice (some ⟨Q, 0, none⟩) 3 3, .int .i64 0, .int .i64 0, .slice none 0 0, .int .i64 0, .slice none 0 0]) (by kernel_rfl) (by kernel_rfl) (by simp) (by rfl) ?_
 refine do_box (v := .agg #[.slice (some ⟨Q, 0, none⟩) 3 3, .int .i64 0, .int .i64 0, .slice none 0 0, .int .i64 0, .slice none 0 0]) rfl ?_
 have hbx : (h6.push (.cells (Value.agg #[.slice (some ⟨Q, 0, none⟩) 3 3, .int .i64 0, .int .i64 0, .slice none 0 0, .int .i64 0, .slice none 0 0]).cells T.ref03_maker))[h6.size]? = some (.cells (Value.agg #[.slice (some ⟨Q, 0, none⟩) 3 3, .int .i64 0, .int .i64 0, .slice none 0 0, .int .i64 0, .slice none 0 0]).cells T.ref03_maker (0, 0)) := by simp
 have hle7 := push_le h6 (.cells (Value.agg #[.slice (some ⟨Q, 0, none⟩) 3 3, .int .i64 0, .int .i64 0, .slice none 0 0, .int .i64 0, .slice none 0 0]).cells T.ref03_maker)
 generalize h6.push (.cells (Value.agg #[.slice (some ⟨Q, 0, none⟩) 3 3, .int .i64 0, .int .i64 0, .slice none 0 0, .int .i64 0, .slice none 0 0]).cells T.ref03_maker) = h7 at hbx hle7
 have w7 := w6.add (k := (0, 0)) (by rw [ho6]; exact ho0 _ (by decide)) (ownT_box (W := W2) (d := RawN.mk (n := 5) [.slice (some ⟨Q, 0, none⟩) 3 3, .int .i64 0, .int .i64 0, .slice none 0 0, .int .i64 0, .slice none 0 0]) hbx (rd_rawN rfl (by simp [Value.oneCell'])) (by decide)) hle7 (fun b hb => by simp only [Value.ownBlock, Option.some.injEq] at hb; omega)
 generalize h6.size = M at w7
 generalize Value.slice (some ⟨Q, 0, none⟩) 3 3 = vs at sq w7
 obtain ⟨o7, ho7⟩ : ∃ o7 : Own, o7 = fun k => if k = (0, 0) then bx T.ref03_maker M (RawN.mk (n := 5) (mkL vs 0 0 (.slice none 0 0) 0 (.slice none 0 0))) else if k = (0, 1) then it T.int (.slice none 0 0) ([] : List Int) else if k = (0, 2) then it T.api_Block (.slice none 0 0) ([] : List BlkM) else o6 k := ⟨_, rfl⟩
 have w7 : Owns W2 h7 o7 := w7.nils fun k i hk => by
  rw [ho7] at hk
  dsimp only at hk
  split at hk
  ·rename_i e; rw [e]; exact .inl hk
  ·rename_i e0
   split at hk
   ·cases hk; exact .inr ⟨rfl, OwnT.nil (α := Int) _ _ _⟩
   ·split at hk
    ·cases hk; exact .inr ⟨rfl, OwnT.nil (α := BlkM) _ _ _⟩
    ·refine .inl ?_
     rw [Own.upd_ne e0]
     exact hk
 have w7 : Mk [q0, q1, q2] M vs W2 h7 o7 ⟨0, 0, [], 0, []⟩ := ⟨w7, sq, .slice none 0 0, .slice none 0 0, [], by rw [ho7]; rfl, by rw [ho7]; rfl, by rw [ho7]; rfl, rfl, fun i hi => by simp at hi, fun i hi => by simp at hi, fun i hi => by simp at hi⟩
 have f7 : ∀ k : Key, 3 ≤ k.1 → o7 k = o6 k := fun k hk => by
  rw [ho7]
  dsimp only
  rw [if_neg (by rintro rfl; simp at hk), if_neg (by rintro rfl; simp at hk), if_neg (by rintro rfl; simp at hk)]
 clear hbx hle7 w6 ho7
 rw [hz]; clear hz z
 refine lwp_hide fun z hz => ?_
 simp
 refine call_to (by kernel_rfl) (w7.take (by decide) (n := 12) (by decide) (by decide)) ?_
 rintro _ h8 ⟨rfl, o8, w8, f8⟩
 obtain ⟨t0, t1⟩ := takeV_rng (s := [q0, q1, q2]) (at_ := 0) (n := 12) (by decide)
 simp
 rw [hz]; clear hz z
 refine lwp_hide fun z hz => ?_
 simp [hlen]
 refine call_to (by kernel_rfl) (w8.take (by decide) (n := (f.blocks.length : Int)) (by omega) (by omega)) ?_
 rintro _ h9 ⟨rfl, o9, w9, f9⟩
 obtain ⟨b0, b1⟩ := takeV_rng (s := [q0, q1, q2]) (at_ := 1) (n := (f.blocks.length : Int)) (by omega)
 rw [hz]; clear hz z
 refine lwp_hide fun z hz => ?_
 simp
 refine call_to (by kernel_rfl) (w9.take (by decide) (n := 40) (by decide) (by decide)) ?_
 rintro _ h10 ⟨rfl, o10, w10, f10⟩
 obtain ⟨n0, n1⟩ := takeV_rng (s := [q0, q1, q2]) (at_ := 2) (n := 40) (by decide)
 have e0 : MS.at_ ⟨0, 0, [], 0, []⟩ = 0 := rfl
 have e1 : MS.at_ (MS.took ⟨0, 0, [], 0, []⟩) = 1 := rfl
 have e2 : MS.at_ (MS.took (MS.took ⟨0, 0, [], 0, []⟩)) = 2 := rfl
 rw [e1, e2]
 have w10 := w10.own.sub (o' := o6) fun k i hk => by
  have hk3 : 3 ≤ k.1 := by
   rw [ho6] at hk
   dsimp only at hk
   split at hk
   ·rename_i e; rw [e]; decide
   ·split at hk
    ·rename_i e; rw [e]; decide
    ·split at hk
     ·rename_i e; rw [e]; decide
     ·rcases Nat.lt_or_ge k.1 10 with e | e
      ·rw [ho0 k e] at hk; cases hk
      ·omega
  rw [f10 k hk3, f9 k hk3, f8 k hk3, f7 k hk3]; exact hk
 clear f10 f9 f8 f7 w9 w8 w7 e0 e1 e2
 generalize takeV [q0, q1, q2] 0 12 = what at t0 t1
 generalize takeV [q0, q1, q2] 1 f.blocks.length = bb at b0 b1
 generalize takeV [q0, q1, q2] 2 40 = nn at n0 n1
 obtain ⟨b, rfl⟩ : ∃ b : Nat, bb = b := ⟨bb.toNat, by omega⟩
 obtain ⟨n, rfl⟩ : ∃ n : Nat, nn = n := ⟨nn.toNat, by omega⟩
 rw [hz]; clear hz z
 have hbl2 : b < f.blocks.length := by omega
 have tb := hf.blk _ (List.getElem_mem hbl2)
 refine lwp_hide fun z hz => ?_
 obtain ⟨ux, hux, huxr⟩ := Owns.ldW w10 (k := (3, 0)) (v := vbk) (l := f.blocks) (by rw [ho6]; rfl) rfl (N := 6) rfl hbl2
 have sbk := w10.now (k := (3, 0)) (v := vbk) (l := f.blocks) (by rw [ho6]; rfl)
 obtain ⟨vp, vi, va, vt, rfl, rp, ri, ra, rt, ik, im⟩ := blk_val huxr
 generalize f.blocks[b] = xb at tb rp ri ra rt ik im hux huxr
 have bp := rp.cells.2
 have bi := ri.cells.2
 have ba := ra.cells.2
 have bt := rt.cells.2
 simp (disch := omega) [sbk.idxn (N := 6) rfl, hux]
 refine w10.do_var (k := (3, 1)) (n := 5) (l := [vp, vi, .int .i64 xb.term.kind, va, vt, .int .i32 xb.term.imm.v]) (by rw [ho6]; exact ho0 _ (by decide)) (z := .agg #[.slice none 0 0, .slice none 0 0, .int .i64 0, .slice none 0 0, .slice none 0 0, .int .i32 0]) (by kernel_rfl) rfl (by kernel_rfl) rfl (by decide) (by intro c hc; simp only [List.mem_cons, List.not_mem_nil, or_false] at hc; rcases hc with rfl | rfl | rfl | rfl | rfl | rfl <;> first | rfl | assumption) (fun _ => by simp) (fun _ => by simp) fun h11 q11 w11 => ?_
 generalize h10.size = X at w11
 rw [hz]; clear hz z
 refine lwp_hide fun z hz => ?_
 simp
 refine w11.do_empty (k := (3, 2)) (α := InsD) (by rw [Own.upd_ne (by simp), ho6]; exact ho0 _ (by decide)) El.s_api_Ins fun v12 h12 hle12 hv12 w12 _ => ?_
 have c12 : cellH (vw h12) ⟨X, 1, none⟩ = some vi := w12.raw (k := (3, 1)) (e := T.api_Block) (n := 5) (l := [vp, vi, .int .i64 xb.term.kind, va, vt, .int .i32 xb.term.imm.v]) (by rw [Own.upd_ne (by simp), Own.upd_self]) (i := 1) (by decide)
 simp [c12]
 refine w12.do_append (k := (3, 2)) (α := InsD) (l := ([] : List InsD)) (l2 := xb.ins) Own.upd_self El.s_api_Ins rfl rfl (ri.src w12.wle) (by have := tb.ins; simp; omega) (by have := tb.ins; simp; omega) fun vi2 h13 w13 _ => ?_
 rw [List.nil_append] at w13
 have hvi2 := (w13.cells (k := (3, 2)) Own.upd_self).2
 refine w13.do_cell (k := (3, 1)) (n := 5) (i := 1) (e := T.api_Block) (B := X) (l := [vp, vi, .int .i64 xb.term.kind, va, vt, .int .i32 xb.term.imm.v]) (by rw [Own.upd_ne (by simp), Own.upd_ne (by simp), Own.upd_self]) (by decide) (by kernel_rfl) rfl rfl hvi2 fun h14 w14 _ => ?_
 rw [hz]; clear hz z
 refine lwp_hide fun z hz => ?_
 simp
 refine w14.do_empty (k := (3, 3)) (α := PhiD) (by rw [Own.upd_ne (by simp), Own.upd_ne (by simp), Own.upd_ne (by simp), Own.upd_ne (by simp), ho6]; exact ho0 _ (by decide)) El.s_api_Phi fun v15 h15 hle15 hv15 w15 _ => ?_
 have c15 : cellH (vw h15) ⟨X, 0, none⟩ = some vp := w15.raw (k := (3, 1)) (e := T.api_Block) (n := 5) (l := [vp, vi2, .int .i64 xb.term.kind, va, vt, .int .i32 xb.term.imm.v]) (by rw [Own.upd_ne (by simp), Own.upd_self]; rfl) (i := 0) (by decide)
 simp [c15]
 refine w15.do_append (k := (3, 3)) (α := PhiD) (l := ([] : List PhiD)) (l2 := xb.phis) Own.upd_self El.s_api_Phi rfl rfl (rp.src w15.wle) (by have := tb.phis; simp; omega) (by have := tb.phis; simp; omega) fun vp2 h16 w16 _ => ?_
 rw [List.nil_append] at w16
 have hvp2 := (w16.cells (k := (3, 3)) Own.upd_self).2
 refine w16.do_cell (k := (3, 1)) (n := 5) (i := 0) (e := T.api_Block) (B := X) (l := [vp, vi2, .int .i64 xb.term.kind, va, vt, .int .i32 xb.term.imm.v]) (by rw [Own.upd_ne (by simp), Own.upd_ne (by simp), Own.upd_self]; rfl) (by decide) (by kernel_rfl) rfl rfl hvp2 fun h17 w17 _ => ?_
 have tu : ∃ o, Tu R F X o0 c W2 vbk f.blocks W2 o f.params vp2 vi2 va vt xb.term.kind xb.term.imm.v xb.phis xb.ins xb.term.args xb.term.to ∧ Owns W2 h17 o := by
  refine ⟨_, ⟨View.le_refl _, ?_, ?_, ?_, ?_, ?_, ?_, ?_, ?_, ra, rt, ips, ik, im, ⟨tb.phis, tb.ins, tb.args, tb.to, tb.pin, tb.iar⟩⟩, w17⟩
  ·simp [Own.upd, ho6]
  ·simp [Own.upd, ho6]
  ·simp [Own.upd, ho6]
  ·simp [Own.upd]
  ·simp [Own.upd]
  ·simp [Own.upd]
  ·simp [Own.upd, ho6, ho0]
  ·intro k hk
   repeat rw [Own.upd_ne (by rintro rfl; simp at hk)]
   rw [ho6]; dsimp only
   rw [if_neg (by rintro rfl; simp at hk), if_neg (by rintro rfl; simp at hk), if_neg (by rintro rfl; simp at hk)]
 clear w17 w16 w15 w14 w13 w12 w11 w10 c15 c12 rp ri hux huxr bp bi ba bt
 obtain ⟨o17, t, w17⟩ := tu
 have hc0 : ∀ {i : Nat}, i ≤ 5 → cellH (vw h17) ⟨X, i, none⟩ = some ([vp2, vi2, .int .i64 xb.term.kind, va, vt, .int .i32 xb.term.imm.v].getD i undef) := fun hi => w17.raw t.box hi
 have x0 : cellH (vw h17) ⟨X, 0, none⟩ = some vp2 := hc0 (i := 0) (by decide)
 have x1 : cellH (vw h17) ⟨X, 1, none⟩ = some vi2 := hc0 (i := 1) (by decide)
 have x4 : cellH (vw h17) ⟨X, 4, none⟩ = some vt := hc0 (i := 4) (by decide)
 have sI := w17.now t.ins
 have sP := w17.now t.phis
 have sT := t.rt
 have hli : ∀ {Q : View}, Un.ev Q .len vi2 = some (.int .i64 xb.ins.length) := fun {Q} => sI.len
 have hlp : ∀ {Q : View}, Un.ev Q .len vp2 = some (.int .i64 xb.phis.length) := fun {Q} => sP.len
 have hlt : ∀ {Q : View}, Un.ev Q .len vt = some (.int .i64 xb.term.to.length) := fun {Q} => sT.len
 have tbi := tb.ins
 have tbp := tb.phis
 have tbt := tb.to
 clear hc0
 rw [hz]; clear hz z
 refine lwp_hide fun z hz => ?_
 simp
 rw [hz]; clear hz z
 refine lwp_hide fun z hz => ?_
 obtain ⟨j, hj1, hj2⟩ : ∃ j : Nat, (0 < xb.ins.length → j < xb.ins.length) ∧ (j : Int) = if 0 < xb.ins.length then (n : Int).tmod xb.ins.length else 0 := by
  by_cases c1 : 0 < xb.ins.length
  ·refine ⟨((n : Int).tmod xb.ins.length).toNat, fun _ => ?_, ?_⟩
   ·have := Int.tmod_lt_of_pos (n : Int) (show (0 : Int) < xb.ins.length by omega); have := Int.tmod_nonneg (xb.ins.length : Int) (show (0 : Int) ≤ n by omega); omega
   ·rw [if_pos c1]; have := Int.tmod_nonneg (xb.ins.length : Int) (show (0 : Int) ≤ n by omega); omega
  ·exact ⟨0, fun q => absurd q c1, by rw [if_neg c1]; rfl⟩
 have sw : ∀ ρ : Env, Lft.look ρ 2 = some (.pointer (some ⟨F, 0, none⟩)) → Lft.look ρ 4 = some (.pointer (some ⟨R, 0, none⟩)) → Lft.look ρ 5 = some vbk → Lft.look ρ 7 = some (.int .i64 what) → Lft.look ρ 8 = some (.int .i64 b) → Lft.look ρ 9 = some (.int .i64 n) → Lft.look ρ 10 = some (.pointer (some ⟨X, 0, none⟩)) → Lft.look ρ 11 = some (.int .i64 j) → LC.wp Try.prog z (fnPost [.un (.loads 2) (.tmp 4)] K) ρ h17 := by
  intro ρ r2 r4 r5 r7 r8 r9 r10 r11
  rw [hz]; clear hz z
  refine lwp_hide fun z hz => ?_
  have fin : ∀ (h' : Heap) (ρ : Env), TuE R F X o0 (c + 1) W2 vbk f.blocks h' → Lft.look ρ 2 = some (.pointer (some ⟨F, 0, none⟩)) → Lft.look ρ 4 = some (.pointer (some ⟨R, 0, none⟩)) → Lft.look ρ 5 = some vbk → Lft.look ρ 8 = some (.int .i64 b) → Lft.look ρ 10 = some (.pointer (some ⟨X, 0, none⟩)) → LC.wp Try.prog z (fnPost [.un (.loads 2) (.tmp 4)] K) ρ h' := by
   intro h' ρ tE r2 r4 r5 r8 r10
   rw [hz]; clear hz z
   obtain ⟨W, o, ps', vp', vi', va', vt', kd', im', lp', li', la', lt', t, w⟩ := tE
   have sbk := w.now t.blk
   have cx := w.rawAll (k := (3, 1)) t.box
   have cx : Un.ev (vw h') (.loads 6) (.pointer (some ⟨X, 0, none⟩)) = some (.agg #[vp', vi', .int .i64 kd', va', vt', .int .i32 im']) := cx
   obtain ⟨wA, sI⟩ := w.freeze t.ins
   obtain ⟨wB, sP⟩ := wA.freeze ((Own.upd_ne (by simp)).trans t.phis)
   have sI := sI.mono (le_plus (h := h') (wA.av _ _ ((Own.upd_ne (by simp)).trans t.phis)))
   have hWW := View.le_trans (le_plus (h := h') (w.av _ _ t.ins)) (le_plus (h := h') (wA.av _ _ ((Own.upd_ne (by simp)).trans t.phis)))
   refine lwp_hide fun z hz => ?_
   simp (disch := omega) [look_setE, look_kill, r2, r4, r5, r8, r10, cx, sbk.idxn (N := 6) rfl]
   refine wB.do_put (k := (3, 0)) (α := BlkD) (v := vbk) (l := f.blocks) (i := b) (d := ⟨lp', li', ⟨kd', la', lt', ⟨im'⟩⟩⟩) ((Own.upd_ne (by simp)).trans ((Own.upd_ne (by simp)).trans t.blk)) (by kernel_rfl) rfl rfl (by omega) (rd_blkOf (imm := ⟨im'⟩) sP sI (t.ra.mono hWW) (t.rt.mono hWW) t.ikd t.iim) fun h2 w2 _ => ?_
   rw [hz]; clear hz z
   refine lwp_hide fun z hz => ?_
   have fF : (((o.upd (3, 2) none).upd (3, 3) none).upd (3, 0) (it T.api_Block vbk (f.blocks.set b ⟨lp', li', ⟨kd', la', lt', ⟨im'⟩⟩⟩))) (8, 1) = bx T.api_Func F (RawN.mk (n := 1) [.int .i64 ps', vbk]) := by simp [Own.upd, t.fn]
   have fR : (((o.upd (3, 2) none).upd (3, 3) none).upd (3, 0) (it T.api_Block vbk (f.blocks.set b ⟨lp', li', ⟨kd', la', lt', ⟨im'⟩⟩⟩))) (8, 0) = bx T.api_Func R (RawN.mk (n := 1) [.int .i64 0, .slice none 0 0]) := by simp [Own.upd, t.res]
   have cF := w2.rawAll (k := (8, 1)) fF
   have cF : Un.ev (vw h2) (.loads 2) (.pointer (some ⟨F, 0, none⟩)) = some (.agg #[.int .i64 ps', vbk]) := cF
   simp [look_setE, look_kill, r2, r4, r5, r8, r10, cF]
   refine w2.do_field (k := (8, 0)) (α := RawN 1) (β := RawN 1) Part.all (B := R) (D := RawN.mk (n := 1) [.int .i64 0, .slice none 0 0]) (d := RawN.mk (n := 1) [.int .i64 ps', vbk]) fR (by kernel_rfl) rfl rfl (rd_rawN rfl (by intro c hc; simp only [List.mem_cons, List.not_mem_nil, or_false] at hc; rcases hc with rfl | rfl <;> first | rfl | exact hvk)) fun h3 w3 _ => ?_
   have cb := w3.rawAll (k := (8, 0)) (n := 1) (l := [.int .i64 ps', vbk]) Own.upd_self
   have cb : Un.ev (vw h3) (.loads 2) (.pointer (some ⟨R, 0, none⟩)) = some (.agg #[.int .i64 ps', vbk]) := cb
   have sb3 := w3.now (k := (3, 0)) (v := vbk) (l := f.blocks.set b ⟨lp', li', ⟨kd', la', lt', ⟨im'⟩⟩⟩) (by rw [Own.upd_ne (by simp), Own.upd_self])
   rw [hz]; clear hz z
   simp [look_setE, look_kill, r2, r4, r5, r8, r10, cb]
   obtain ⟨w4, s4⟩ := w3.freeze (k := (3, 0)) (v := vbk) (l := f.blocks.set b ⟨lp', li', ⟨kd', la', lt', ⟨im'⟩⟩⟩) (by rw [Own.upd_ne (by simp), Own.upd_self])
   have hW4 := le_plus (h := h3) (w3.av (3, 0) _ ((Own.upd_ne (by simp)).trans Own.upd_self))
   have w5 := w4.sub (o' := o0) fun k i hk => by
    rcases Nat.lt_or_ge k.1 10 with e | e
    ·rw [ho0 k e] at hk; cases hk
    ·rw [Own.upd_ne (by rintro rfl; simp at e), Own.upd_ne (by rintro rfl; simp at e), Own.upd_ne (by rintro rfl; simp at e), Own.upd_ne (by rintro rfl; simp at e), Own.upd_ne (by rintro rfl; simp at e), t.fr k e]; exact hk
   refine hK _ _ ⟨_, ⟨ps', f.blocks.set b ⟨lp', li', ⟨kd', la', lt', ⟨im'⟩⟩⟩⟩, View.le_trans hW2 (View.le_trans t.le (View.le_trans hWW hW4)), w5, ⟨by show (f.blocks.set b _).length ≤ _; rw [List.length_set]; exact hf.len, fun x hx => ?_⟩, ⟨_, rfl, [.int .i64 ps'], [vbk], rfl, ⟨rfl, t.ips⟩, vbk, rfl, s4⟩⟩
   rcases List.mem_or_eq_of_mem_set hx with q | q
   ·exact (hf.blk x q).mono (by omega)
   ·rw [q]; exact t.tb
  refine lwp_hide fun y hy => ?_
  simp [look_setE, look_kill, r2, r4, r5, r7, r8, r9, r10, r11]
  rw [hy]; clear hy y
  simp only [lwp_block]
  refine lwp_hide fun y hy => ?_
  simp [look_setE, look_kill, r2, r4, r5, r7, r8, r9, r10, r11]
  rw [hy]; clear hy y
  by_cases w0 : what = 0
  ·refine lwp_cond_t (by simp [look_setE, look_kill, w0]) ?_
   simp [look_setE, look_kill, r2, r4, r5, r7, r8, r9, r10, r11]
   refine t.do_params w17 i64_rng (by kernel_rfl) rfl rfl fun h2 tE => ?_
   refine fin _ _ (tE.mono (by omega)) ?_ ?_ ?_ ?_ ?_ <;> simp [look_setE, look_kill, r2, r4, r5, r8, r10]
  refine lwp_cond_f (by simp [look_setE, look_kill, w0]) ?_
  refine lwp_hide fun y hy => ?_
  simp [look_setE, look_kill, r2, r4, r5, r7, r8, r9, r10, r11]
  rw [hy]; clear hy y
  by_cases w1 : what = 1
  ·refine lwp_cond_t (by simp [look_setE, look_kill, w1]) ?_
   refine lwp_hide fun y hy => ?_
   simp [look_setE, look_kill, r2, r4, r5, r7, r8, r9, r10, r11, x1, hli]
   rw [hy]; clear hy y
   by_cases c1 : 0 < xb.ins.length
   ·have hj := hj1 c1
    refine lwp_cond_t (by simp [look_setE, look_kill]; exact c1) ?_
    simp (disch := omega) [look_setE, look_kill, r2, r4, r5, r7, r8, r9, r10, r11, x1, sI.idxn (N := 5) rfl]
    refine t.do_ins InsD.p_op w17 (j := j) (d := _) hj (rd_int.2 ⟨rfl, i64_rng⟩) (by show xb.ins[j].args.length ≤ c; exact t.tb.iar xb.ins[j] (List.getElem_mem hj)) (by kernel_rfl) rfl rfl fun h2 tE => ?_
    refine fin _ _ (tE.mono (by omega)) ?_ ?_ ?_ ?_ ?_ <;> simp [look_setE, look_kill, r2, r4, r5, r8, r10]
   ·have he : xb.ins = [] := List.eq_nil_of_length_eq_zero (by omega)
    refine lwp_cond_f (by simp [look_setE, look_kill, he]) ?_
    simp
    refine fin _ _ (TuE.mono ⟨_, _, _, _, _, _, _, _, _, _, _, _, _, t, w17⟩ (by omega)) ?_ ?_ ?_ ?_ ?_ <;> simp [look_setE, look_kill, r2, r4, r5, r8, r10]
  refine lwp_cond_f (by simp [look_setE, look_kill, w1]) ?_
  refine lwp_hide fun y hy => ?_
  simp [look_setE, look_kill, r2, r4, r5, r7, r8, r9, r10, r11]
  rw [hy]; clear hy y
  by_cases w2 : what = 2
  ·refine lwp_cond_t (by simp [look_setE, look_kill, w2]) ?_
   refine lwp_hide fun y hy => ?_
   simp [look_setE, look_kill, r2, r4, r5, r7, r8, r9, r10, r11, x1, hli]
   rw [hy]; clear hy y
   by_cases c1 : 0 < xb.ins.length
   ·have hj := hj1 c1
    refine lwp_cond_t (by simp [look_setE, look_kill]; exact c1) ?_
    simp (disch := omega) [look_setE, look_kill, r2, r4, r5, r7, r8, r9, r10, r11, x1, sI.idxn (N := 5) rfl]
    refine t.do_ins InsD.p_dst w17 (j := j) (d := (n : Int)) hj (rd_int.2 ⟨rfl, by constructor <;> omega⟩) (by show xb.ins[j].args.length ≤ c; exact t.tb.iar xb.ins[j] (List.getElem_mem hj)) (by kernel_rfl) rfl rfl fun h2 tE => ?_
    refine fin _ _ (tE.mono (by omega)) ?_ ?_ ?_ ?_ ?_ <;> simp [look_setE, look_kill, r2, r4, r5, r8, r10]
   ·have he : xb.ins = [] := List.eq_nil_of_length_eq_zero (by omega)
    refine lwp_cond_f (by simp [look_setE, look_kill, he]) ?_
    simp
    refine fin _ _ (TuE.mono ⟨_, _, _, _, _, _, _, _, _, _, _, _, _, t, w17⟩ (by omega)) ?_ ?_ ?_ ?_ ?_ <;> simp [look_setE, look_kill, r2, r4, r5, r8, r10]
  refine lwp_cond_f (by simp [look_setE, look_kill, w2]) ?_
  refine lwp_hide fun y hy => ?_
  simp [look_setE, look_kill, r2, r4, r5, r7, r8, r9, r10, r11]
  rw [hy]; clear hy y
  by_cases w3 : what = 3
  ·refine lwp_cond_t (by simp [look_setE, look_kill, w3]) ?_
   refine lwp_hide fun y hy => ?_
   by_cases c1 : 0 < xb.ins.length
   ·have hj := hj1 c1
    have c1i : (0 : Int) < xb.ins.length := by omega
    obtain ⟨va3, ca3, ra3⟩ := Owns.insW w17 t.ins hj
    have hta := t.tb.iar _ (List.getElem_mem hj)
    simp (disch := omega) [look_setE, look_kill, r2, r4, r5, r7, r8, r9, r10, r11, x1, hli, c1, c1i, sI.idxn (N := 5) rfl, ca3, ra3.len]
    rw [hy]; clear hy y
    by_cases c2 : 0 < xb.ins[j].args.length
    ·refine lwp_cond_t (by simp [look_setE, look_kill]; first | exact c2 | omega) ?_
     refine lwp_hide fun y hy => ?_
     simp [look_setE, look_kill]
     refine w17.do_empty (k := (4, 0)) (α := Int) t.free El.s_int fun v18 h18 hle18 hv18 w18 _ => ?_
     simp (disch := omega) [look_setE, look_kill, r2, r4, r5, r7, r8, r9, r10, r11, cellH_mono hle18 x1, (sI.mono hle18).idxn (N := 5) rfl, cellH_mono hle18 ca3]
     refine w18.do_append (k := (4, 0)) (α := Int) (l := ([] : List Int)) (l2 := xb.ins[j].args) Own.upd_self El.s_int rfl rfl (ra3.src w18.wle) (by simp; omega) (by simp; omega) fun v19 h19 w19 _ => ?_
     rw [List.nil_append] at w19
     have w19 : Owns W2 h19 (o17.upd (4, 0) (it T.int v19 xb.ins[j].args)) := w19.congr fun q => by rw [upd_upd]
     rw [hy]; clear hy y
     refine lwp_hide fun y hy => ?_
     have s19 := w19.now (k := (4, 0)) Own.upd_self
     have m0 := Int.tmod_nonneg (xb.ins[j].args.length : Int) (show (0 : Int) ≤ n by omega)
     have m1 := Int.tmod_lt_of_pos (n : Int) (show (0 : Int) < xb.ins[j].args.length by omega)
     have hne : ¬ xb.ins[j].args = [] := fun e => by rw [e] at c2; simp at c2
     simp (disch := omega) [look_setE, look_kill, r2, r4, r5, r7, r8, r9, r10, r11, s19.len, hne, s19.idx1 rfl]
     refine w19.do_put (k := (4, 0)) (α := Int) (v := v19) (l := xb.ins[j].args) (i := ((n : Int).tmod xb.ins[j].args.length).toNat) (d := (n : Int)) Own.upd_self (by kernel_rfl) (by rw [show Rep.n Int = 1 from rfl, Nat.mul_one]; rfl) rfl (by omega) (rd_int.2 ⟨rfl, by constructor <;> omega⟩) fun h20 w20 _ => ?_
     have w20 : Owns W2 h20 (o17.upd (4, 0) (it T.int v19 (xb.ins[j].args.set ((n : Int).tmod xb.ins[j].args.length).toNat n))) := w20.congr fun q => by rw [upd_upd]
     rw [hy]; clear hy y
     have x1' : cellH (vw h20) ⟨X, 1, none⟩ = some vi2 := w20.raw (k := (3, 1)) ((Own.upd_ne (by simp)).trans t.box) (i := 1) (by decide)
     have sI' := w20.now (k := (3, 2)) ((Own.upd_ne (by simp)).trans t.ins)
     obtain ⟨w21, s21⟩ := w20.freeze Own.upd_self
     have hWp := le_plus (h := h20) (w20.av _ _ Own.upd_self)
     have w21 := w21.congr (o' := o17) fun q => by
      rw [upd_upd]; unfold Own.upd; split
      ·rename_i e; rw [e]; exact t.free
      ·rfl
     simp (disch := omega) [look_setE, look_kill, r2, r4, r5, r7, r8, r9, r10, r11, x1', sI'.idxn (N := 5) rfl]
     refine (t.wider hWp).do_ins InsD.p_args w21 (j := j) (d := xb.ins[j].args.set ((n : Int).tmod xb.ins[j].args.length).toNat n) hj (rd_list.2 s21) (by show (List.set _ _ _).length ≤ _; rw [List.length_set]; exact hta) (by kernel_rfl) rfl rfl fun h2 tE => ?_
     refine fin _ _ (tE.mono (by omega)) ?_ ?_ ?_ ?_ ?_ <;> simp [look_setE, look_kill, r2, r4, r5, r8, r10]
    ·refine lwp_cond_f (by simp [look_setE, look_kill]; first | omega | exact List.eq_nil_of_length_eq_zero (by omega)) ?_
     simp
     refine fin _ _ (TuE.mono ⟨_, _, _, _, _, _, _, _, _, _, _, _, _, t, w17⟩ (by omega)) ?_ ?_ ?_ ?_ ?_ <;> simp [look_setE, look_kill, r2, r4, r5, r8, r10]
   ·have he : xb.ins = [] := List.eq_nil_of_length_eq_zero (by omega)
    have c1i : ¬ (0 : Int) < xb.ins.length := by omega
    simp [look_setE, look_kill, r2, r4, r5, r7, r8, r9, r10, r11, x1, hli, c1, c1i]
    rw [hy]; clear hy y
    refine lwp_cond_f (by simp [look_setE, look_kill]) ?_
    simp
    refine fin _ _ (TuE.mono ⟨_, _, _, _, _, _, _, _, _, _, _, _, _, t, w17⟩ (by omega)) ?_ ?_ ?_ ?_ ?_ <;> simp [look_setE, look_kill, r2, r4, r5, r8, r10]
  refine lwp_cond_f (by simp [look_setE, look_kill, w3]) ?_
  refine lwp_hide fun y hy => ?_
  simp [look_setE, look_kill, r2, r4, r5, r7, r8, r9, r10, r11]
  rw [hy]; clear hy y
  by_cases w4 : what = 4
  ·refine lwp_cond_t (by simp [look_setE, look_kill, w4]) ?_
   simp [look_setE, look_kill]
   refine w17.do_empty (k := (4, 0)) (α := Int) t.free El.s_int fun v18 h18 hle18 hv18 w18 _ => ?_
   simp (disch := omega) [look_setE, look_kill, r2, r4, r5, r7, r8, r9, r10, r11, cellH_mono hle18 x4]
   refine w18.do_append (k := (4, 0)) (α := Int) (l := ([] : List Int)) (l2 := xb.term.to) Own.upd_self El.s_int rfl rfl (t.rt.src w18.wle) (by simp; omega) (by simp; omega) fun v19 h19 w19 _ => ?_
   rw [List.nil_append] at w19
   have w19 : Owns W2 h19 (o17.upd (4, 0) (it T.int v19 xb.term.to)) := w19.congr fun q => by rw [upd_upd]
   refine w19.do_push (k := (4, 0)) (α := Int) (d := IntKind.i64.wrap ((n : Int).tmod 12 - 1)) Own.upd_self El.s_int rfl (rd_int.2 ⟨rfl, i64_rng⟩) (by omega) (by omega) (fun _ => rfl) (fun _ => rfl) fun u20 v20 h20 w20 _ => ?_
   have w20 : Owns W2 h20 (o17.upd (4, 0) (it T.int v20 (xb.term.to ++ [IntKind.i64.wrap ((n : Int).tmod 12 - 1)]))) := w20.congr fun q => by rw [upd_upd]
   obtain ⟨w21, s21⟩ := w20.freeze Own.upd_self
   have hWp := le_plus (h := h20) (w20.av _ _ Own.upd_self)
   have w21 := w21.congr (o' := o17) fun q => by
    rw [upd_upd]; unfold Own.upd; split
    ·rename_i e; rw [e]; exact t.free
    ·rfl
   refine ((t.wider hWp).more (d := c + 1) (by omega)).do_to w21 s21 (by rw [List.length_append, List.length_singleton]; omega) (by kernel_rfl) rfl rfl fun h2 tE => ?_
   refine fin _ _ tE ?_ ?_ ?_ ?_ ?_ <;> simp [look_setE, look_kill, r2, r4, r5, r8, r10]
  refine lwp_cond_f (by simp [look_setE, look_kill, w4]) ?_
  refine lwp_hide fun y hy => ?_
  simp [look_setE, look_kill, r2, r4, r5, r7, r8, r9, r10, r11]
  rw [hy]; clear hy y
  by_cases w5 : what = 5
  ·refine lwp_cond_t (by simp [look_setE, look_kill, w5]) ?_
   simp [look_setE, look_kill, r2, r4, r5, r7, r8, r9, r10, r11]
   have m0 := Int.tmod_nonneg (7 : Int) (show (0 : Int) ≤ n by omega)
   have m1 := Int.tmod_lt_of_pos (n : Int) (show (0 : Int) < 7 by omega)
   refine t.do_kind w17 (p := (n : Int).tmod 7) (by constructor <;> omega) (by kernel_rfl) rfl rfl fun h2 tE => ?_
   refine fin _ _ (tE.mono (by omega)) ?_ ?_ ?_ ?_ ?_ <;> simp [look_setE, look_kill, r2, r4, r5, r8, r10]
  refine lwp_cond_f (by simp [look_setE, look_kill, w5]) ?_
  refine lwp_hide fun y hy => ?_
  simp [look_setE, look_kill, r2, r4, r5, r7, r8, r9, r10, r11]
  rw [hy]; clear hy y
  by_cases w6 : what = 6
  ·refine lwp_cond_t (by simp [look_setE, look_kill, w6]) ?_
   refine lwp_hide fun y hy => ?_
   simp [look_setE, look_kill, r2, r4, r5, r7, r8, r9, r10, r11, x0, hlp]
   rw [hy]; clear hy y
   by_cases c1 : 0 < xb.phis.length
   ·refine lwp_cond_t (by simp [look_setE, look_kill]; exact c1) ?_
    have m0 := Int.tmod_nonneg (xb.phis.length : Int) (show (0 : Int) ≤ n by omega)
    have m1 := Int.tmod_lt_of_pos (n : Int) (show (0 : Int) < xb.phis.length by omega)
    obtain ⟨q, hq⟩ : ∃ q : Nat, (n : Int).tmod xb.phis.length = q := ⟨((n : Int).tmod xb.phis.length).toNat, by omega⟩
    have hql : q < xb.phis.length := by omega
    obtain ⟨va3, ca3, ra3⟩ := Owns.phiW w17 t.phis hql
    have hta := t.tb.pin _ (List.getElem_mem hql)
    have hne : ¬ xb.phis = [] := fun e => by rw [e] at c1; simp at c1
    have q50 := Int.tmod_nonneg (5 : Int) (show (0 : Int) ≤ n by omega)
    have q51 := Int.tmod_lt_of_pos (n : Int) (show (0 : Int) < 5 by omega)
    have ixq : Bn.ev (.idx 2) vp2 (.int .i64 q) = some (.pointer (some ((slA vp2).add (q * 2)))) := by
     have := sP.idxn (N := 2) rfl (k := .i64) (i := q) (by omega) (by omega); simpa using this
    refine drawn_at (vw h17) (View.le_refl _) ?_
    simp [look_setE, look_kill, r2, r4, r5, r7, r8, r9, r10, r11, x0, hlp, hne, hq, ixq, ca3]
    have A2 : ∀ {po2 po3 : OP} {W : View} {hh : Heap} {v1 u : Value} {ty ty3 : TypeId} {us : List (Nat × Value)} {us3 : Value → List (Nat × Value)} {x y c1 c2 : Operand} {K2 : Value → Value → Heap → Prop}, W2.le W → Owns W hh (o17.upd (4, 0) (it T.api_In v1 xb.phis[q].ins)) → SlRd W u [InD.mk ((n : Int).tmod 5) n] → (vw h17).le (vw hh) → Av (vw h17) v1 → asg us x = v1 → asg us y = u →
      (∀ v, asg (us3 v) c1 = .pointer (some (((slA vp2).add (q * 2)).add 1))) → (∀ v, asg (us3 v) c2 = v) → (∀ v h', TuE R F X o0 (c + 1) W2 vbk f.blocks h' → K2 v undef h') →
      @Lft.step po2 Try.prog (.call ⟨.builtin .append, #[x, y], #[T.s_api_In, T.s_api_In]⟩) ty us hh fun v h' => (vw h17).le (vw h') ∧ @Lft.step po3 Try.prog (.store T.s_api_In c1 c2) ty3 (us3 v) h' fun w h'' => K2 v w h'' := by
     intro po2 po3 W hh v1 u ty ty3 us us3 x y c1 c2 K2 hW w su le av hx hy hc1 hc2 hK2
     refine w.do_append (k := (4, 0)) (α := InD) (l := xb.phis[q].ins) (l2 := [InD.mk ((n : Int).tmod 5) n]) Own.upd_self El.s_api_In hx hy (su.src w.wle) (by simp; omega) (by simp; omega) fun v2 h2 wb m2 => ⟨(m2.view le av).1, ?_⟩
     have wb : Owns W h2 (o17.upd (4, 0) (it T.api_In v2 (xb.phis[q].ins ++ [InD.mk ((n : Int).tmod 5) n]))) := wb.congr fun k => by rw [upd_upd]
     obtain ⟨wc, sc⟩ := wb.freeze Own.upd_self
     have hWp := le_plus (h := h2) (wb.av _ _ Own.upd_self)
     have wc := wc.congr (o' := o17) fun k => by
      rw [upd_upd]; unfold Own.upd; split
      ·rename_i e; rw [e]; exact t.free
      ·rfl
     exact ((t.wider (View.le_trans hW hWp)).more (d := c + 1) (by omega)).do_phi wc (j := q) hql sc (by rw [List.length_append, List.length_singleton]; omega) (by kernel_rfl) (hc1 v2) (hc2 v2) fun h' tE => hK2 v2 h' tE
    have i5 : I64 ((n : Int).tmod 5) := ⟨by omega, by omega⟩
    have in_ : I64 (n : Int) := ⟨by omega, by omega⟩
    constructor
    ·refine w17.do_empty (k := (4, 0)) (α := InD) t.free El.s_api_In fun v0 h18 le18 _ w18 av18 => ⟨le18, ?_⟩
     have av18 := av18 (vw h17) (View.le_refl _)
     constructor
     ·refine w18.do_append (k := (4, 0)) (α := InD) (l := ([] : List InD)) (l2 := xb.phis[q].ins) Own.upd_self El.s_api_In rfl rfl (ra3.src w18.wle) (by simp; omega) (by simp; omega) fun v1 h19 w19 m19 => ?_
      obtain ⟨le19, av19⟩ := m19.view le18 av18
      rw [List.nil_append] at w19
      have w19 : Owns W2 h19 (o17.upd (4, 0) (it T.api_In v1 xb.phis[q].ins)) := w19.congr fun k => by rw [upd_upd]
      refine ⟨le19, ?_⟩
      refine do_build (z := .agg #[.int .i64 0, .int .i64 0]) (places := [(0, 1), (1, 1)]) (vs := [(0, .int .i64 ((n : Int).tmod 5)), (1, .int .i64 n)]) (cs := #[.int .i64 ((n : Int).tmod 5), .int .i64 n]) (by kernel_rfl) (by kernel_rfl) (by simp) (by rfl) ⟨le19, ?_⟩
      refine do_oneIn i5 in_ rfl fun h20 le20 su => ⟨View.le_trans le19 le20, ?_⟩
      refine A2 (le_grow w19.wle) (w19.ext le20) (su _ (grow_new (Nat.le_refl _))) (View.le_trans le19 le20) av19 rfl rfl (fun _ => rfl) (fun _ => rfl) fun v h' tE => ?_
      refine fin _ _ tE ?_ ?_ ?_ ?_ ?_ <;> simp [look_setE, look_kill, r2, r4, r5, r8, r10]
     ·refine do_build (z := .agg #[.int .i64 0, .int .i64 0]) (places := [(0, 1), (1, 1)]) (vs := [(0, .int .i64 ((n : Int).tmod 5)), (1, .int .i64 n)]) (cs := #[.int .i64 ((n : Int).tmod 5), .int .i64 n]) (by kernel_rfl) (by kernel_rfl) (by simp) (by rfl) ⟨le18, ?_⟩
      constructor
      ·refine w18.do_append (k := (4, 0)) (α := InD) (l := ([] : List InD)) (l2 := xb.phis[q].ins) Own.upd_self El.s_api_In rfl rfl (ra3.src w18.wle) (by simp; omega) (by simp; omega) fun v1 h19 w19 m19 => ?_
       obtain ⟨le19, av19⟩ := m19.view le18 av18
       rw [List.nil_append] at w19
       have w19 : Owns W2 h19 (o17.upd (4, 0) (it T.api_In v1 xb.phis[q].ins)) := w19.congr fun k => by rw [upd_upd]
       refine ⟨le19, ?_⟩
       refine do_oneIn i5 in_ rfl fun h20 le20 su => ⟨View.le_trans le19 le20, ?_⟩
       refine A2 (le_grow w19.wle) (w19.ext le20) (su _ (grow_new (Nat.le_refl _))) (View.le_trans le19 le20) av19 rfl rfl (fun _ => rfl) (fun _ => rfl) fun v h' tE => ?_
       refine fin _ _ tE ?_ ?_ ?_ ?_ ?_ <;> simp [look_setE, look_kill, r2, r4, r5, r8, r10]
      ·refine do_oneIn i5 in_ rfl fun h20 le20 su => ⟨View.le_trans le18 le20, ?_⟩
       have w20 := w18.ext le20
       have hW20 := le_grow (h' := h20) w18.wle
       have su := su _ (grow_new (W := W2) (Nat.le_refl _))
       refine w20.do_append (k := (4, 0)) (α := InD) (l := ([] : List InD)) (l2 := xb.phis[q].ins) Own.upd_self El.s_api_In rfl rfl ((ra3.mono hW20).src w20.wle) (by simp; omega) (by simp; omega) fun v1 h21 w21 m21 => ?_
       obtain ⟨le21, av21⟩ := m21.view (View.le_trans le18 le20) av18
       rw [List.nil_append] at w21
       have w21 := w21.congr (o' := o17.upd (4, 0) (it T.api_In v1 xb.phis[q].ins)) fun k => by rw [upd_upd]
       refine ⟨le21, ?_⟩
       refine A2 hW20 w21 su le21 av21 rfl rfl (fun _ => rfl) (fun _ => rfl) fun v h' tE => ?_
       refine fin _ _ tE ?_ ?_ ?_ ?_ ?_ <;> simp [look_setE, look_kill, r2, r4, r5, r8, r10]
    ·refine do_build (z := .agg #[.int .i64 0, .int .i64 0]) (places := [(0, 1), (1, 1)]) (vs := [(0, .int .i64 ((n : Int).tmod 5)), (1, .int .i64 n)]) (cs := #[.int .i64 ((n : Int).tmod 5), .int .i64 n]) (by kernel_rfl) (by kernel_rfl) (by simp) (by rfl) ⟨View.le_refl _, ?_⟩
     constructor
     ·refine w17.do_empty (k := (4, 0)) (α := InD) t.free El.s_api_In fun v0 h18 le18 _ w18 av18 => ⟨le18, ?_⟩
      have av18 := av18 (vw h17) (View.le_refl _)
      constructor
      ·refine w18.do_append (k := (4, 0)) (α := InD) (l := ([] : List InD)) (l2 := xb.phis[q].ins) Own.upd_self El.s_api_In rfl rfl (ra3.src w18.wle) (by simp; omega) (by simp; omega) fun v1 h19 w19 m19 => ?_
       obtain ⟨le19, av19⟩ := m19.view le18 av18
       rw [List.nil_append] at w19
       have w19 : Owns W2 h19 (o17.upd (4, 0) (it T.api_In v1 xb.phis[q].ins)) := w19.congr fun k => by rw [upd_upd]
       refine ⟨le19, ?_⟩
       refine do_oneIn i5 in_ rfl fun h20 le20 su => ⟨View.le_trans le19 le20, ?_⟩
       refine A2 (le_grow w19.wle) (w19.ext le20) (su _ (grow_new (Nat.le_refl _))) (View.le_trans le19 le20) av19 rfl rfl (fun _ => rfl) (fun _ => rfl) fun v h' tE => ?_
       refine fin _ _ tE ?_ ?_ ?_ ?_ ?_ <;> simp [look_setE, look_kill, r2, r4, r5, r8, r10]
      ·refine do_oneIn i5 in_ rfl fun h20 le20 su => ⟨View.le_trans le18 le20, ?_⟩
       have w20 := w18.ext le20
       have hW20 := le_grow (h' := h20) w18.wle
       have su := su _ (grow_new (W := W2) (Nat.le_refl _))
       refine w20.do_append (k := (4, 0)) (α := InD) (l := ([] : List InD)) (l2 := xb.phis[q].ins) Own.upd_self El.s_api_In rfl rfl ((ra3.mono hW20).src w20.wle) (by simp; omega) (by simp; omega) fun v1 h21 w21 m21 => ?_
       obtain ⟨le21, av21⟩ := m21.view (View.le_trans le18 le20) av18
       rw [List.nil_append] at w21
       have w21 := w21.congr (o' := o17.upd (4, 0) (it T.api_In v1 xb.phis[q].ins)) fun k => by rw [upd_upd]
       refine ⟨le21, ?_⟩
       refine A2 hW20 w21 su le21 av21 rfl rfl (fun _ => rfl) (fun _ => rfl) fun v h' tE => ?_
       refine fin _ _ tE ?_ ?_ ?_ ?_ ?_ <;> simp [look_setE, look_kill, r2, r4, r5, r8, r10]
     ·refine do_oneIn i5 in_ rfl fun h18 le18 su => ⟨le18, ?_⟩
      have w18 := w17.ext le18
      have hW18 := le_grow (h' := h18) w17.wle
      have su := su _ (grow_new (W := W2) (Nat.le_refl _))
      refine w18.do_empty (k := (4, 0)) (α := InD) t.free El.s_api_In fun v0 h19 le19 _ w19 av19 => ⟨View.le_trans le18 le19, ?_⟩
      have av19 := av19 (vw h17) le18
      refine w19.do_append (k := (4, 0)) (α := InD) (l := ([] : List InD)) (l2 := xb.phis[q].ins) Own.upd_self El.s_api_In rfl rfl ((ra3.mono hW18).src w19.wle) (by simp; omega) (by simp; omega) fun v1 h21 w21 m21 => ?_
      obtain ⟨le21, av21⟩ := m21.view (View.le_trans le18 le19) av19
      rw [List.nil_append] at w21
      have w21 := w21.congr (o' := o17.upd (4, 0) (it T.api_In v1 xb.phis[q].ins)) fun k => by rw [upd_upd]
      refine ⟨le21, ?_⟩
      refine A2 hW18 w21 su le21 av21 rfl rfl (fun _ => rfl) (fun _ => rfl) fun v h' tE => ?_
      refine fin _ _ tE ?_ ?_ ?_ ?_ ?_ <;> simp [look_setE, look_kill, r2, r4, r5, r8, r10]
   ·have he : xb.phis = [] := List.eq_nil_of_length_eq_zero (by omega)
    refine lwp_cond_f (by simp [look_setE, look_kill, he]) ?_
    simp
    refine fin _ _ (TuE.mono ⟨_, _, _, _, _, _, _, _, _, _, _, _, _, t, w17⟩ (by omega)) ?_ ?_ ?_ ?_ ?_ <;> simp [look_setE, look_kill, r2, r4, r5, r8, r10]
  refine lwp_cond_f (by simp [look_setE, look_kill, w6]) ?_
  refine lwp_hide fun y hy => ?_
  simp [look_setE, look_kill, r2, r4, r5, r7, r8, r9, r10, r11]
  rw [hy]; clear hy y
  by_cases w7 : what = 7
  ·refine lwp_cond_t (by simp [look_setE, look_kill, w7]) ?_
   refine lwp_hide fun y hy => ?_
   by_cases c1 : 0 < xb.phis.length
   ·have c1i : (0 : Int) < xb.phis.length := by omega
    obtain ⟨va3, ca3, ra3⟩ := Owns.phiW w17 t.phis c1
    have ca3 : cellH (vw h17) (((slA vp2).add 0).add 1) = some va3 := by have := ca3; rwa [Nat.zero_mul] at this
    have hta := t.tb.pin _ (List.getElem_mem c1)
    have hix : ∀ {l : List PhiD}, SlRd (vw h17) vp2 l → True := fun _ => trivial
    have ix0 : Bn.ev (.idx 2) vp2 (.int .i64 0) = some (.pointer (some ((slA vp2).add 0))) := by
     have := sP.idxn (N := 2) rfl (k := .i64) (i := 0) (by omega) (by omega); simpa using this
    simp (disch := omega) [look_setE, look_kill, r2, r4, r5, r7, r8, r9, r10, r11, x0, hlp, c1, c1i, ix0, ca3, ra3.len]
    rw [hy]; clear hy y
    by_cases c2 : 0 < xb.phis[0].ins.length
    ·refine lwp_cond_t (by simp [look_setE, look_kill]; first | exact c2 | omega) ?_
     refine lwp_hide fun y hy => ?_
     simp [look_setE, look_kill]
     refine w17.do_empty (k := (4, 0)) (α := InD) t.free El.s_api_In fun v18 h18 hle18 hv18 w18 _ => ?_
     simp (disch := omega) [look_setE, look_kill, r2, r4, r5, r7, r8, r9, r10, r11, cellH_mono hle18 x0, ix0, cellH_mono hle18 ca3]
     refine w18.do_append (k := (4, 0)) (α := InD) (l := ([] : List InD)) (l2 := xb.phis[0].ins) Own.upd_self El.s_api_In rfl rfl (ra3.src w18.wle) (by simp; omega) (by simp; omega) fun v19 h19 w19 _ => ?_
     rw [List.nil_append] at w19
     have w19 : Owns W2 h19 (o17.upd (4, 0) (it T.api_In v19 xb.phis[0].ins)) := w19.congr fun q => by rw [upd_upd]
     rw [hy]; clear hy y
     refine lwp_hide fun y hy => ?_
     have s19 := w19.now (k := (4, 0)) Own.upd_self
     have m0 := Int.tmod_nonneg (xb.phis[0].ins.length : Int) (show (0 : Int) ≤ n by omega)
     have m1 := Int.tmod_lt_of_pos (n : Int) (show (0 : Int) < xb.phis[0].ins.length by omega)
     have hne : ¬ xb.phis[0].ins = [] := fun e => by rw [e] at c2; simp at c2
     simp (disch := omega) [look_setE, look_kill, r2, r4, r5, r7, r8, r9, r10, r11, s19.len, hne, s19.idxn (N := 2) rfl]
     refine w19.do_part (k := (4, 0)) (α := InD) InD.p_val (v := v19) (l := xb.phis[0].ins) (i := ((n : Int).tmod xb.phis[0].ins.length).toNat) (d := (n : Int)) Own.upd_self (by kernel_rfl) rfl rfl (by omega) (rd_int.2 ⟨rfl, by constructor <;> omega⟩) fun h20 w20 _ => ?_
     have w20 : Owns W2 h20 (o17.upd (4, 0) (it T.api_In v19 _)) := w20.congr fun q => by rw [upd_upd]
     rw [hy]; clear hy y
     have x0' : cellH (vw h20) ⟨X, 0, none⟩ = some vp2 := w20.raw (k := (3, 1)) ((Own.upd_ne (by simp)).trans t.box) (i := 0) (by decide)
     obtain ⟨w21, s21⟩ := w20.freeze Own.upd_self
     have hWp := le_plus (h := h20) (w20.av _ _ Own.upd_self)
     have w21 := w21.congr (o' := o17) fun q => by
      rw [upd_upd]; unfold Own.upd; split
      ·rename_i e; rw [e]; exact t.free
      ·rfl
     simp (disch := omega) [look_setE, look_kill, r2, r4, r5, r7, r8, r9, r10, r11, x0', ix0]
     refine (t.wider hWp).do_phi w21 (j := 0) c1 s21 (by rw [List.length_set]; exact hta) (by kernel_rfl) (by rw [Nat.zero_mul]; rfl) rfl fun h2 tE => ?_
     refine fin _ _ (tE.mono (by omega)) ?_ ?_ ?_ ?_ ?_ <;> simp [look_setE, look_kill, r2, r4, r5, r8, r10]
    ·have he : xb.phis[0].ins = [] := List.eq_nil_of_length_eq_zero (by omega)
     refine lwp_cond_f (by simp [look_setE, look_kill, he]) ?_
     simp
     refine fin _ _ (TuE.mono ⟨_, _, _, _, _, _, _, _, _, _, _, _, _, t, w17⟩ (by omega)) ?_ ?_ ?_ ?_ ?_ <;> simp [look_setE, look_kill, r2, r4, r5, r8, r10]
   ·have he : xb.phis = [] := List.eq_nil_of_length_eq_zero (by omega)
    have c1i : ¬ (0 : Int) < xb.phis.length := by omega
    simp [look_setE, look_kill, r2, r4, r5, r7, r8, r9, r10, r11, x0, hlp, c1, c1i]
    rw [hy]; clear hy y
    refine lwp_cond_f (by simp [look_setE, look_kill, he]) ?_
    simp
    refine fin _ _ (TuE.mono ⟨_, _, _, _, _, _, _, _, _, _, _, _, _, t, w17⟩ (by omega)) ?_ ?_ ?_ ?_ ?_ <;> simp [look_setE, look_kill, r2, r4, r5, r8, r10]
  refine lwp_cond_f (by simp [look_setE, look_kill, w7]) ?_
  refine lwp_hide fun y hy => ?_
  simp [look_setE, look_kill, r2, r4, r5, r7, r8, r9, r10, r11]
  rw [hy]; clear hy y
  by_cases w8 : what = 8
  ·refine lwp_cond_t (by simp [look_setE, look_kill, w8]) ?_
   refine lwp_hide fun y hy => ?_
   simp [look_setE, look_kill, r2, r4, r5, r7, r8, r9, r10, r11, x1, hli]
   rw [hy]; clear hy y
   by_cases c1 : 0 < xb.ins.length
   ·have hj := hj1 c1
    refine lwp_cond_t (by simp [look_setE, look_kill]; exact c1) ?_
    obtain ⟨v1, v2, e1, e2, wc, src⟩ := Owns.cut w17 t.ins (N := 5) rfl hj
    have hwj : IntKind.i64.wrap ((j : Int) + 1) = (j : Int) + 1 := wrap64_id (by omega) (by omega)
    refine drawn_at (vw h17) (View.le_refl _) ?_
    simp [look_setE, look_kill, r2, r4, r5, r7, r8, r9, r10, r11, x1, e1, e2, hwj]
    refine wc.do_append (k := (3, 2)) (α := InsD) (l := xb.ins.take j) (l2 := xb.ins.drop (j + 1)) Own.upd_self El.s_api_Ins rfl rfl src (by simp; omega) (by simp; omega) fun v18 h18 w18 _ => ?_
    have w18 : Owns W2 h18 (o17.upd (3, 2) (it T.api_Ins v18 (xb.ins.take j ++ xb.ins.drop (j + 1)))) := w18.congr fun q => by rw [upd_upd]
    refine t.do_insV w18 (by simp; omega) (fun i hi => by
     rcases List.mem_append.1 hi with q | q
     ·exact t.tb.iar i (List.mem_of_mem_take q)
     ·exact t.tb.iar i (List.mem_of_mem_drop q)) (by kernel_rfl) rfl rfl fun h2 tE => ?_
    refine fin _ _ (tE.mono (by omega)) ?_ ?_ ?_ ?_ ?_ <;> simp [look_setE, look_kill, r2, r4, r5, r8, r10]
   ·have he : xb.ins = [] := List.eq_nil_of_length_eq_zero (by omega)
    refine lwp_cond_f (by simp [look_setE, look_kill, he]) ?_
    simp
    refine fin _ _ (TuE.mono ⟨_, _, _, _, _, _, _, _, _, _, _, _, _, t, w17⟩ (by omega)) ?_ ?_ ?_ ?_ ?_ <;> simp [look_setE, look_kill, r2, r4, r5, r8, r10]
  refine lwp_cond_f (by simp [look_setE, look_kill, w8]) ?_
  refine lwp_hide fun y hy => ?_
  simp [look_setE, look_kill, r2, r4, r5, r7, r8, r9, r10, r11]
  rw [hy]; clear hy y
  by_cases w9 : what = 9
  ·refine lwp_cond_t (by simp [look_setE, look_kill, w9]) ?_
   refine lwp_hide fun y hy => ?_
   simp [look_setE, look_kill, r2, r4, r5, r7, r8, r9, r10, r11, x1, hli]
   rw [hy]; clear hy y
   by_cases c1 : 1 < xb.ins.length
   ·have hj := hj1 (by omega)
    refine lwp_cond_t (by simp [look_setE, look_kill]; omega) ?_
    have h0i : 0 < xb.ins.length := by omega
    obtain ⟨u0, hu0, hr0⟩ := Owns.ldW w17 t.ins rfl (N := 5) rfl h0i
    obtain ⟨uj, huj, hrj⟩ := Owns.ldW w17 t.ins rfl (N := 5) rfl hj
    rw [Nat.zero_mul] at hu0
    obtain ⟨va0, rfl, rng0, ra0⟩ := ins_val hr0
    have ix0 : Bn.ev (.idx 5) vi2 (.int .i64 0) = some (.pointer (some ((slA vi2).add 0))) := by
     have := sI.idxn (N := 5) rfl (k := .i64) (i := 0) (by omega) (by omega); simpa using this
    refine lwp_hide fun y hy => ?_
    simp (disch := omega) [look_setE, look_kill, r2, r4, r5, r7, r8, r9, r10, r11, x1, ix0, hu0]
    have hva0 := ra0.cells.2
    refine w17.do_var (k := (4, 0)) (n := 4) (l := [.int .i64 xb.ins[0].op, .int .i64 xb.ins[0].dst, .int .i64 xb.ins[0].two, va0, .int .i32 xb.ins[0].imm.v]) t.free (z := .agg #[.int .i64 0, .int .i64 0, .int .i64 0, .slice none 0 0, .int .i32 0]) (by kernel_rfl) rfl (by kernel_rfl) rfl (by decide) (by intro c hc; simp only [List.mem_cons, List.not_mem_nil, or_false] at hc; rcases hc with rfl | rfl | rfl | rfl | rfl <;> first | rfl | assumption) (fun _ => by simp) (fun _ => by simp) fun h18 q18 w18 => ?_
    generalize h17.size = Y at w18
    have x18 := cellH_mono q18 x1
    have huj18 : Un.ev (vw h18) (.loads 5) (.pointer (some ((slA vi2).add (j * 5)))) = some uj := by
     have := ev_mono (ρ := fun _ => none) (e := .un (.loads 5) (.con (.pointer (some ((slA vi2).add (j * 5)))))) q18 (by simpa using huj)
     simpa using this
    rw [hy]; clear hy y
    refine lwp_hide fun y hy => ?_
    refine drawn_at (vw h18) (View.le_refl _) ?_
    simp (disch := omega) [look_setE, look_kill, r2, r4, r5, r7, r8, r9, r10, r11, x18, ix0, sI.idxn (N := 5) rfl, huj18]
    refine w18.do_put (k := (3, 2)) (α := InsD) (v := vi2) (l := xb.ins) (i := 0) (d := xb.ins[j]) ((Own.upd_ne (by simp)).trans t.ins) (by kernel_rfl) (by rw [Nat.zero_mul]; rfl) rfl h0i hrj fun h19 w19 _ => ?_
    have cY := w19.rawAll (k := (4, 0)) (n := 4) ((Own.upd_ne (by simp)).trans Own.upd_self)
    have cY : Un.ev (vw h19) (.loads 5) (.pointer (some ⟨Y, 0, none⟩)) = some (.agg #[.int .i64 xb.ins[0].op, .int .i64 xb.ins[0].dst, .int .i64 xb.ins[0].two, va0, .int .i32 xb.ins[0].imm.v]) := cY
    have x19 : cellH (vw h19) ⟨X, 1, none⟩ = some vi2 := w19.raw (k := (3, 1)) ((Own.upd_ne (by simp)).trans ((Own.upd_ne (by simp)).trans t.box)) (i := 1) (by decide)
    have s19 := w19.now (k := (3, 2)) Own.upd_self
    rw [hy]; clear hy y
    simp (disch := first | omega | (simp; omega)) [look_setE, look_kill, r2, r4, r5, r7, r8, r9, r10, r11, x19, cY, s19.idxn (N := 5) rfl]
    refine w19.do_put (k := (3, 2)) (α := InsD) (v := vi2) (l := xb.ins.set 0 xb.ins[j]) (i := j) (d := xb.ins[0]) Own.upd_self (by kernel_rfl) rfl rfl (by rw [List.length_set]; exact hj) hr0 fun h20 w20 _ => ?_
    have w20 : Owns W2 h20 (o17.upd (3, 2) (it T.api_Ins vi2 ((xb.ins.set 0 xb.ins[j]).set j xb.ins[0]))) := w20.sub fun k i hk => by
     have hk4 : k ≠ (4, 0) := by rintro rfl; rw [Own.upd_ne (by simp), t.free] at hk; cases hk
     by_cases e : k = (3, 2)
     ·subst e; rw [Own.upd_self] at hk ⊢; exact hk
     ·rw [Own.upd_ne e] at hk; rw [Own.upd_ne e, Own.upd_ne e, Own.upd_ne hk4]; exact hk
    refine fin _ _ (TuE.mono ⟨W2, _, f.params, vp2, vi2, va, vt, xb.term.kind, xb.term.imm.v, xb.phis, (xb.ins.set 0 xb.ins[j]).set j xb.ins[0], xb.term.args, xb.term.to, ⟨t.le, (Own.upd_ne (by simp)).trans t.res, (Own.upd_ne (by simp)).trans t.fn, (Own.upd_ne (by simp)).trans t.blk, (Own.upd_ne (by simp)).trans t.box, Own.upd_self, (Own.upd_ne (by simp)).trans t.phis, (Own.upd_ne (by simp)).trans t.free, fun k hk => (Own.upd_ne (by rintro rfl; simp at hk)).trans (t.fr k hk), t.ra, t.rt, t.ips, t.ikd, t.iim, ⟨t.tb.phis, by rw [List.length_set, List.length_set]; exact t.tb.ins, t.tb.args, t.tb.to, t.tb.pin, fun i hi => ?_⟩⟩, w20⟩ (by omega)) ?_ ?_ ?_ ?_ ?_
    ·rcases List.mem_or_eq_of_mem_set hi with q | q
     ·rcases List.mem_or_eq_of_mem_set q with q | q
      ·exact t.tb.iar i q
      ·rw [q]; exact t.tb.iar _ (List.getElem_mem hj)
     ·rw [q]; exact t.tb.iar _ (List.getElem_mem h0i)
    all_goals simp [look_setE, look_kill, r2, r4, r5, r8, r10]
   ·refine lwp_cond_f (by simp [look_setE, look_kill]; omega) ?_
    simp
    refine fin _ _ (TuE.mono ⟨_, _, _, _, _, _, _, _, _, _, _, _, _, t, w17⟩ (by omega)) ?_ ?_ ?_ ?_ ?_ <;> simp [look_setE, look_kill, r2, r4, r5, r8, r10]
  refine lwp_cond_f (by simp [look_setE, look_kill, w9]) ?_
  refine lwp_hide fun y hy => ?_
  simp [look_setE, look_kill, r2, r4, r5, r7, r8, r9, r10, r11]
  rw [hy]; clear hy y
  by_cases w10 : what = 10
  ·refine lwp_cond_t (by simp [look_setE, look_kill, w10]) ?_
   refine lwp_hide fun y hy => ?_
   simp [look_setE, look_kill, r2, r4, r5, r7, r8, r9, r10, r11, x4, hlt]
   rw [hy]; clear hy y
   by_cases c1 : 0 < xb.term.to.length
   ·refine lwp_cond_t (by simp [look_setE, look_kill]; exact c1) ?_
    refine lwp_hide fun y hy => ?_
    simp [look_setE, look_kill]
    refine w17.do_empty (k := (4, 0)) (α := Int) t.free El.s_int fun v18 h18 hle18 hv18 w18 _ => ?_
    simp (disch := omega) [look_setE, look_kill, r2, r4, r5, r7, r8, r9, r10, r11, cellH_mono hle18 x4]
    refine w18.do_append (k := (4, 0)) (α := Int) (l := ([] : List Int)) (l2 := xb.term.to) Own.upd_self El.s_int rfl rfl (t.rt.src w18.wle) (by simp; omega) (by simp; omega) fun v19 h19 w19 _ => ?_
    rw [List.nil_append] at w19
    have w19 : Owns W2 h19 (o17.upd (4, 0) (it T.int v19 xb.term.to)) := w19.congr fun q => by rw [upd_upd]
    rw [hy]; clear hy y
    refine lwp_hide fun y hy => ?_
    have s19 := w19.now (k := (4, 0)) Own.upd_self
    have m0 := Int.tmod_nonneg (xb.term.to.length : Int) (show (0 : Int) ≤ n by omega)
    have m1 := Int.tmod_lt_of_pos (n : Int) (show (0 : Int) < xb.term.to.length by omega)
    have q0 := Int.tmod_nonneg (11 : Int) (show (0 : Int) ≤ n by omega)
    have q1 := Int.tmod_lt_of_pos (n : Int) (show (0 : Int) < 11 by omega)
    have hne : ¬ xb.term.to = [] := fun e => by rw [e] at c1; simp at c1
    simp (disch := omega) [look_setE, look_kill, r2, r4, r5, r7, r8, r9, r10, r11, s19.len, hne, s19.idx1 rfl]
    refine w19.do_put (k := (4, 0)) (α := Int) (v := v19) (l := xb.term.to) (i := ((n : Int).tmod xb.term.to.length).toNat) (d := (n : Int).tmod 11) Own.upd_self (by kernel_rfl) (by rw [show Rep.n Int = 1 from rfl, Nat.mul_one]; rfl) rfl (by omega) (rd_int.2 ⟨rfl, by constructor <;> omega⟩) fun h20 w20 _ => ?_
    have w20 : Owns W2 h20 (o17.upd (4, 0) (it T.int v19 (xb.term.to.set ((n : Int).tmod xb.term.to.length).toNat ((n : Int).tmod 11)))) := w20.congr fun q => by rw [upd_upd]
    rw [hy]; clear hy y
    obtain ⟨w21, s21⟩ := w20.freeze Own.upd_self
    have hWp := le_plus (h := h20) (w20.av _ _ Own.upd_self)
    have w21 := w21.congr (o' := o17) fun q => by
     rw [upd_upd]; unfold Own.upd; split
     ·rename_i e; rw [e]; exact t.free
     ·rfl
    simp (disch := omega) [look_setE, look_kill, r2, r4, r5, r7, r8, r9, r10, r11]
    refine (t.wider hWp).do_to w21 s21 (by rw [List.length_set]; exact t.tb.to) (by kernel_rfl) rfl rfl fun h2 tE => ?_
    refine fin _ _ (tE.mono (by omega)) ?_ ?_ ?_ ?_ ?_ <;> simp [look_setE, look_kill, r2, r4, r5, r8, r10]
   ·have he : xb.term.to = [] := List.eq_nil_of_length_eq_zero (by omega)
    refine lwp_cond_f (by simp [look_setE, look_kill, he]) ?_
    simp
    refine fin _ _ (TuE.mono ⟨_, _, _, _, _, _, _, _, _, _, _, _, _, t, w17⟩ (by omega)) ?_ ?_ ?_ ?_ ?_ <;> simp [look_setE, look_kill, r2, r4, r5, r8, r10]
  refine lwp_cond_f (by simp [look_setE, look_kill, w10]) ?_
  simp [look_setE, look_kill, r2, r4, r5, r7, r8, r9, r10, r11, x0]
  refine do_build (z := .agg #[.int .i64 0, .slice none 0 0]) (places := [(0, 1), (1, 1)]) (vs := [(0, .int .i64 n)]) (cs := #[.int .i64 n, .slice none 0 0]) (by kernel_rfl) (by kernel_rfl) (by simp) (by rfl) ?_
  refine w17.do_push (k := (3, 3)) (α := PhiD) (d := ⟨n, []⟩) t.phis El.s_api_Phi rfl (rd_phiOf ⟨by omega, by omega⟩ nil_sl) (by omega) (by omega) (fun _ => rfl) (fun _ => rfl) fun u18 v18 h18 w18 _ => ?_
  refine (t.more (d := c + 1) (by omega)).do_phiV w18 (by rw [List.length_append, List.length_singleton]; omega) (fun i hi => by
   rcases List.mem_append.1 hi with q | q
   ·have := t.tb.pin i q; omega
   ·rw [List.mem_singleton] at q; rw [q]; show 0 ≤ c + 1; omega) (by kernel_rfl) rfl rfl fun h2 tE => ?_
  refine fin _ _ tE ?_ ?_ ?_ ?_ ?_ <;> simp [look_setE, look_kill, r2, r4, r5, r8, r10]
 refine lwp_hide fun y hy => ?_
 simp [x1, hli]
 rw [hy]; clear hy y
 by_cases c1 : 0 < xb.ins.length
 ·rw [if_pos c1] at hj2
  have hne : ¬ xb.ins = [] := fun e => by rw [e] at c1; simp at c1
  refine lwp_cond_t (by simp [hne]; exact c1) ?_
  simp [x1, hli, hne]
  refine sw _ ?_ ?_ ?_ ?_ ?_ ?_ ?_ ?_
  all_goals simp [hj2]
 ·rw [if_neg c1] at hj2
  have he : xb.ins = [] := List.eq_nil_of_length_eq_zero (by omega)
  refine lwp_cond_f (by simp [he]) ?_
  simp
  refine sw _ ?_ ?_ ?_ ?_ ?_ ?_ ?_ ?_
  all_goals simp [hj2]
end Go.Proofs.Ytfelpjfopgiabaa
namespace Go.Proofs.Ytfelpjfopgiabaa
open Go Go.Lft
theorem func_val {H : View} {u : Value} {f : FuncD} (h : Rd H u f) : ∃ vb, u = .agg #[.int .i64 f.params, vb] ∧ I64 f.params ∧ SlRd H vb f.blocks := by
 obtain ⟨cs, rfl, c1, r1, e1, ⟨rfl, h1⟩, vb, h2, h3⟩ := h
 exact ⟨vb, by rw [← Array.toList_inj.1 ((by rw [e1, h2]; rfl) : cs.toList = #[Value.int .i64 f.params, vb].toList)], h1, h3⟩
theorem two_cells {a : Value} {v : Int} (ha : a.oneCell' = true) : ∀ c ∈ [Value.int .i64 v, a], c.oneCell' = true := by
 intro c hc
 simp only [List.mem_cons, List.not_mem_nil, or_false] at hc
 rcases hc with rfl | rfl <;> first | rfl | exact ha
theorem lawMade_ok {l : List Int} {vl : Value} {h : Heap} {W : View} {o0 : Own} (w0 : Owns W h o0) (ho0 : ∀ k : Key, k.1 < 11 → o0 k = none) (hs : SlRd W vl l) :
  HCalls Try.prog N.law03_made #[vl] h (fun u h' => ∃ W', W.le W' ∧ Owns W' h' o0 ∧ Rd W' u (makeS (l.take 200))) := by
 refine calls_lift (args := [vl]) follows F.law03_made E.law03_made (Nat.le_of_ble_eq_true (by kernel_rfl)) fun K hK => ?_
 dsimp only [L.law03_made]
 refine lwp_hide fun z hz => ?_
 simp
 refine w0.do_zero (k := (10, 0)) (n := 1) (z := .agg #[.int .i64 0, .slice none 0 0]) (ho0 _ (by decide)) (by kernel_rfl) rfl (by decide) (by simp [Value.cells, Value.oneCell']) fun h1 q1 w1 => ?_
 generalize h.size = R at w1
 obtain ⟨u2, e2, s2⟩ := sl_first hs 200 200 rfl
 rw [hz]; clear hz z
 refine lwp_hide fun z hz => ?_
 simp [hs.len, e2]
 refine call_to (by kernel_rfl) (made_ok w1 (fun k hk => (Own.upd_ne (by rintro rfl; simp at hk)).trans (ho0 k (by omega))) s2) ?_
 rintro u h3 ⟨W3, hW3, w3, hr⟩
 obtain ⟨vb, rfl, ip, sb⟩ := func_val hr
 refine w3.do_field (k := (10, 0)) (α := RawN 1) (β := RawN 1) Part.all (B := R) (D := RawN.mk (n := 1) [.int .i64 0, .slice none 0 0]) (d := RawN.mk (n := 1) [.int .i64 (makeS (l.take 200)).params, vb]) Own.upd_self (by kernel_rfl) rfl rfl (rd_rawN rfl (two_cells sb.cells.2)) fun h4 w4 _ => ?_
 have cb := w4.rawAll (k := (10, 0)) (n := 1) (l := [.int .i64 (makeS (l.take 200)).params, vb]) Own.upd_self
 have cb : Un.ev (vw h4) (.loads 2) (.pointer (some ⟨R, 0, none⟩)) = some (.agg #[.int .i64 (makeS (l.take 200)).params, vb]) := cb
 rw [hz]; clear hz z
 simp [cb]
 refine hK _ _ ⟨W3, hW3, w4.sub fun k i hk => ?_, hr⟩
 have h10 : k ≠ (10, 0) := by rintro rfl; rw [ho0 _ (by decide)] at hk; cases hk
 rw [Own.upd_ne h10, Own.upd_ne h10]; exact hk
abbrev Q3 := Cat Int (Cat Int Int)
instance : Inhabited Q3 := ⟨⟨0, 0, 0⟩⟩
theorem tri_val {H : View} {u : Value} {d : Q3} (h : Rd H u d) : u = .agg #[.int .i64 d.a, .int .i64 d.b.a, .int .i64 d.b.b] ∧ I64 d.a ∧ I64 d.b.a ∧ I64 d.b.b := by
 obtain ⟨cs, rfl, c1, r1, e1, ⟨rfl, h1⟩, c2, c3, rfl, ⟨rfl, h2⟩, rfl, h3⟩ := h
 exact ⟨by rw [← Array.toList_inj.1 ((by rw [e1]; rfl) : cs.toList = #[Value.int .i64 d.a, .int .i64 d.b.a, .int .i64 d.b.b].toList)], h1, h2, h3⟩
def dOwn (D : Nat) (ps : Int) (vb : Value) : Own := fun k => if k = (11, 0) then bx T.api_Func D (RawN.mk (n := 1) [.int .i64 ps, vb]) else none
theorem checkTurned_ok {l : List Int} {q : List Q3} {vl vq : Value} {h : Heap} (hl : SlRd (vw h) vl l) (hq : SlRd (vw h) vq q) :
  HCalls Try.prog N.law03_CheckTurned #[vl, vq] h (fun u h' => u = .bool true ∧ (vw h).le (vw h')) := by
 refine calls_lift (args := [vl, vq]) follows F.law03_CheckTurned E.law03_CheckTurned (Nat.le_of_ble_eq_true (by kernel_rfl)) fun K hK => ?_
 dsimp only [L.law03_CheckTurned]
 refine lwp_hide fun z hz => ?_
 simp
 rw [hz]; clear hz z
 refine lwp_hide fun z hz => ?_
 simp
 refine call_to (by kernel_rfl) shown_ok ?_
 rintro _ h1 ⟨rfl, hle1⟩
 have hq1 := hq.mono hle1
 rw [hz]; clear hz z
 refine lwp_hide fun z hz => ?_
 simp
 refine call_to (by kernel_rfl) (lawMade_ok (Owns.start (h := h1) (View.le_refl (vw h1))) (fun _ _ => rfl) (hl.mono hle1)) ?_
 rintro u h2 ⟨W2, hW2, w2, hr2⟩
 have tf2 := make_tf (s := l.take 200)
 generalize makeS (l.take 200) = f2 at hr2 tf2
 obtain ⟨vb2, rfl, ip2, sb2⟩ := func_val hr2
 refine w2.do_var (k := (11, 0)) (n := 1) (l := [.int .i64 f2.params, vb2]) rfl (z := .agg #[.int .i64 0, .slice none 0 0]) (by kernel_rfl) rfl (by kernel_rfl) rfl (by decide) (two_cells sb2.cells.2) (fun _ => by simp) (fun _ => by simp) fun h3 q3 w3 => ?_
 generalize h2.size = D at w3
 have w3 : Owns W2 h3 (dOwn D f2.params vb2) := w3.congr fun k => by unfold dOwn Own.upd; split <;> rfl
 rw [hz]; clear hz z
 refine lwp_hide fun z hz => ?_
 simp
 obtain ⟨n, hn⟩ : ∃ n : Nat, n = min q.length 3 := ⟨_, rfl⟩
 have hn1 : ∀ k : Nat, (decide (k < q.length) && decide ((k : Int) < 3)) = decide (k < n) := fun k => by rw [Bool.eq_iff_iff]; simp only [Bool.and_eq_true, decide_eq_true_eq]; omega
 have hqb := hq.bound
 refine lwp_forC [1, 5, 6, 7] (fun (_ : Unit) k => [vq, .bool true, .pointer (some ⟨D, 0, none⟩), .int .i64 k]) (fun _ k h4 => ∃ W ps vb f, (vw h1).le W ∧ Owns W h4 (dOwn D ps vb) ∧ Rd W (.agg #[.int .i64 ps, vb]) f ∧ TF (1000 + k) f) n ()
  rfl (by omega) rfl ⟨W2, _, _, f2, hW2, w3, hr2, tf2⟩ (fun _ _ => rfl) (fun v k h4 hk _ => by simp [hq.len, hn1]) ?_ ?_
 ·rintro _ k h4 hlt ⟨W, ps, vb, f, hW, w, hr, tf⟩ K2 hK2
  obtain ⟨uq, huq, hqr⟩ := (hq1.mono hW).wh rfl (N := 3) rfl (i := k) (by omega)
  obtain ⟨rfl, i0, i1, i2⟩ := tri_val hqr
  have cD := w.rawAll (k := (11, 0)) (n := 1) (e := T.api_Func) (B := D) (l := [.int .i64 ps, vb]) rfl
  have cD : Un.ev (vw h4) (.loads 2) (.pointer (some ⟨D, 0, none⟩)) = some (.agg #[.int .i64 ps, vb]) := cD
  simp only [lwp_block]
  refine drawn_at (vw h4) (View.le_refl _) ?_
  simp (disch := omega) [cD, (hq1.mono (View.le_trans hW w.wle)).idxn (N := 3) rfl, huq _ w.wle]
  refine call_to (by kernel_rfl) (turned_ok w (fun q hq => if_neg (by rintro rfl; simp at hq)) hr tf (by omega) i0 i1 i2) ?_
  rintro u5 h5 ⟨W5, f5, hW5, w5, tf5, hr5⟩
  obtain ⟨vb5, rfl, ip5, sb5⟩ := func_val hr5
  refine w5.do_field (k := (11, 0)) (α := RawN 1) (β := RawN 1) Part.all (B := D) (D := RawN.mk (n := 1) [.int .i64 ps, vb]) (d := RawN.mk (n := 1) [.int .i64 f5.params, vb5]) rfl (by kernel_rfl) rfl rfl (rd_rawN rfl (two_cells sb5.cells.2)) fun h6 w6 _ => ?_
  refine hK2 () _ _ rfl rfl ⟨W5, _, _, f5, View.le_trans hW hW5, w6.congr fun k => ?_, hr5, tf5⟩
  unfold dOwn Own.upd
  repeat' split
  all_goals first | rfl | simp_all
 ·rintro _ h4 ⟨W, ps, vb, f, hW, w, hr, tf⟩
  have cD := w.rawAll (k := (11, 0)) (n := 1) (e := T.api_Func) (B := D) (l := [.int .i64 ps, vb]) rfl
  have cD : Un.ev (vw h4) (.loads 2) (.pointer (some ⟨D, 0, none⟩)) = some (.agg #[.int .i64 ps, vb]) := cD
  simp
  rw [hz]; clear hz z
  refine lwp_hide fun z hz => ?_
  simp [cD]
  refine call_to (by kernel_rfl) (same_ok (hr.mono w.wle) (tf.sm (by omega)) (told_same f)) ?_
  rintro _ h5 ⟨rfl, hle5⟩
  rw [hz]; clear hz z
  simp
  exact hK _ _ ⟨rfl, View.le_trans hle1 (View.le_trans hW (View.le_trans w.wle hle5))⟩
end Go.Proofs.Ytfelpjfopgiabaa
/- For every input CheckTurned returns true: what is wrong first with a function by numbers, some things of which are turned, is what the document says. No condition. -/
namespace Go.Proofs.Ytfelpjfopgiabaa
open Go Go.Lft Go.ChangeShapes Go.WideShapes Go.ChangeAt Go.RowKit
theorem rt_tri {P : Program} {t e : TypeId} (ht : P.underlying t = some (.array 3 e)) (he : P.underlying e = some (.int .i64)) (hc : P.cellsOf e = 1) (hc2 : P.cellsOf t = 3) : RT P t Q3 where
 cells := fun {H enc W spare held fuel cs d ps} h _ => by
  obtain ⟨xs, m, _, _, hl, hxl, hget⟩ := DataW.trod_array ht h
  rw [hc2] at hl
  match cs, hl with
  | [u, v, w], _ =>
   have h0 := hget 0 (by omega)
   have h1 := hget 1 (by omega)
   have h2 := hget 2 (by omega)
   rw [hc, List.getElem?_eq_getElem (by omega)] at h0 h1 h2
   obtain ⟨a, e1, w1⟩ := trod_int he h0
   obtain ⟨b, e2, w2⟩ := trod_int he h1
   obtain ⟨c, e3, w3⟩ := trod_int he h2
   simp at e1 e2 e3
   subst e1; subst e2; subst e3
   exact ⟨⟨a, b, c⟩, [.int .i64 a], [.int .i64 b, .int .i64 c], rfl, ⟨rfl, wf_i64 w1⟩, [.int .i64 b], [.int .i64 c], rfl, ⟨rfl, wf_i64 w2⟩, rfl, wf_i64 w3⟩
 val := fun {W r base v} h => by
  simp only [Value.okWide, ht] at h
  obtain ⟨cs, rfl, _⟩ := h
  exact ⟨cs, rfl⟩
theorem rtQ : RT Try.prog T.a3_int Q3 := rt_tri (e := T.int) (by kernel_rfl) (by kernel_rfl) (by kernel_rfl) (by kernel_rfl)
theorem rtQs : RT Try.prog T.sa3_int (List Q3) := rt_slice (e := T.a3_int) (by kernel_rfl) (by kernel_rfl) (of_decide_eq_true (by kernel_rfl)) rtQ
theorem Try.paramsTurned : Try.f4.params = #[T.s_int, T.sa3_int] := by kernel_rfl
theorem turned_lifted (os : Os) (started : os.Started) (H : Type) (enc : TypeId × Value → H) :
  ReturnsInHanded {} Try.checked os 4 .any (Rows.checkTurnedSpec.pre6 enc Try.prog Try.f4 Rows.checkTurnedRow.domain false) (Rows.checkTurnedSpec.post enc Try.prog Try.f4 false true false false) :=
 law2 (C := Try.checked) Try.own started (by kernel_rfl) Try.func4 rfl
  (ChangeSpec.witness6 (enc := enc) (C := Try.checked) false ⟨#[], #[.slice none 0 0, .slice none 0 0], []⟩ 8 (by kernel_rfl) (by kernel_rfl) (by kernel_rfl) (by kernel_rfl))
  Try.laidOut (fun t ht => by
   rw [Try.paramsTurned] at ht
   simp only [List.mem_cons, List.not_mem_nil, or_false] at ht
   rcases ht with rfl | rfl <;> exact ⟨by kernel_rfl, of_decide_eq_true (by kernel_rfl)⟩) rfl
  (fun ds hds => by
   match ds, hds with
   | [d, e], _ => rfl) rfl (tb := 4) (by kernel_rfl) Try.paramsTurned rtIs rtQs fun h v1 x1 v2 x2 h1 h2 => checkTurned_ok (rd_list.1 h1) (rd_list.1 h2)
theorem turned_holds : Rows.CheckTurnedSaid :=
 OpenClaim.holds_of_wide 4 Try.f4 rfl rfl rfl rfl rfl rfl rfl ⟨rfl, rfl, rfl, rfl, rfl⟩ rfl rfl rfl rfl rfl (by kernel_rfl) Try.func4 (by kernel_rfl)
  (of_decide_eq_true (by kernel_rfl)) (by unfold Func.isWrapper; first | (rw [if_pos (by decide +kernel)]; kernel_rfl) | (rw [if_neg (by decide +kernel)]; exact ⟨rfl, rfl⟩))
  (fun os started H enc _ => turned_lifted os started H enc)
end Go.Proofs.Ytfelpjfopgiabaa
