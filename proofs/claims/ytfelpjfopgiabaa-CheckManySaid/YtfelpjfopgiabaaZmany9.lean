/- A part of the proof: Sb, Rb, Rc, Rd, Re, Rf, Rg. -/
import Derived.Test.YtfelpjfopgiabaaZmany8
/- The law's few, walked. -/
namespace Go.Proofs.Ytfelpjfopgiabaa
open Go Go.Lft
set_option linter.unusedSimpArgs false
set_option linter.unusedVariables false

theorem term_val {H : View} {u : Value} {d : TermD} (h : Rd H u d) : ∃ va vt, u = .agg #[.int .i64 d.kind, va, vt, .int .i32 d.imm.v] ∧ SlRd H va d.args ∧ SlRd H vt d.to := by
  obtain ⟨cs, rfl, c1, r1, e1, ⟨rfl, h1⟩, c2, r2, e2, ⟨va, rfl, h2⟩, c3, r3, e3, ⟨vt, rfl, h3⟩, h4, h5⟩ := h
  subst e3 e2
  have he : cs.toList = [.int .i64 d.kind, va, vt, .int .i32 d.imm.v] := by rw [e1, h4]; rfl
  refine ⟨va, vt, ?_, h2, h3⟩
  rw [← Array.toList_inj.1 (he.trans rfl : cs.toList = #[Value.int .i64 d.kind, va, vt, .int .i32 d.imm.v].toList)]
theorem phi_val {H : View} {u : Value} {d : PhiD} (h : Rd H u d) : ∃ vi, u = .agg #[.int .i64 d.dst, vi] ∧ I64 d.dst ∧ SlRd H vi d.ins := by
  obtain ⟨cs, rfl, c1, r1, e1, ⟨rfl, hd⟩, vi, h2, h3⟩ := h
  exact ⟨vi, by rw [← Array.toList_inj.1 ((by rw [e1, h2]; rfl) : cs.toList = #[Value.int .i64 d.dst, vi].toList)], hd, h3⟩
theorem ins_val {H : View} {u : Value} {d : InsD} (h : Rd H u d) : ∃ va, u = .agg #[.int .i64 d.op, .int .i64 d.dst, .int .i64 d.two, va, .int .i32 d.imm.v] ∧ (I64 d.op ∧ I64 d.dst ∧ I64 d.two ∧ -2147483648 ≤ d.imm.v ∧ d.imm.v ≤ 2147483647) ∧ SlRd H va d.args := by
  obtain ⟨cs, rfl, c1, r1, e1, ⟨rfl, h1⟩, c2, r2, e2, ⟨rfl, h2⟩, c3, r3, e3, ⟨rfl, h3⟩, c4, r4, e4, ⟨va, rfl, h4⟩, h5, h6⟩ := h
  subst e4 e3 e2
  exact ⟨va, by rw [← Array.toList_inj.1 ((by rw [e1, h5]; rfl) : cs.toList = #[Value.int .i64 d.op, .int .i64 d.dst, .int .i64 d.two, va, .int .i32 d.imm.v].toList)], ⟨h1, h2, h3, h6⟩, h4⟩
theorem rd_phiOf {H : View} {d : Int} {v : Value} {l : List InD} (h1 : I64 d) (h2 : SlRd H v l) : Rd H (.agg #[.int .i64 d, v]) (PhiD.mk d l) := ⟨_, rfl, [.int .i64 d], [v], rfl, ⟨rfl, h1⟩, v, rfl, h2⟩
theorem rd_insOf {H : View} {op d two : Int} {imm : I32} {v : Value} {l : List Int} (h : I64 op ∧ I64 d ∧ I64 two ∧ -2147483648 ≤ imm.v ∧ imm.v ≤ 2147483647) (h2 : SlRd H v l) : Rd H (.agg #[.int .i64 op, .int .i64 d, .int .i64 two, v, .int .i32 imm.v]) (InsD.mk op d two l imm) :=
  ⟨_, rfl, [.int .i64 op], _, rfl, ⟨rfl, h.1⟩, [.int .i64 d], _, rfl, ⟨rfl, h.2.1⟩, [.int .i64 two], _, rfl, ⟨rfl, h.2.2.1⟩, [v], _, rfl, ⟨v, rfl, h2⟩, rfl, h.2.2.2⟩
theorem rd_blkOf {H : View} {vp vi va vt : Value} {p : List PhiD} {i : List InsD} {a t : List Int} {kd : Int} {imm : I32} (h1 : SlRd H vp p) (h2 : SlRd H vi i) (h3 : SlRd H va a) (h4 : SlRd H vt t) (h5 : I64 kd) (h6 : -2147483648 ≤ imm.v ∧ imm.v ≤ 2147483647) : Rd H (.agg #[vp, vi, .int .i64 kd, va, vt, .int .i32 imm.v]) (BlkD.mk p i ⟨kd, a, t, imm⟩) :=
  ⟨_, rfl, [vp], _, rfl, ⟨vp, rfl, h1⟩, [vi], _, rfl, ⟨vi, rfl, h2⟩, [.int .i64 kd], _, rfl, ⟨rfl, h5⟩, [va], _, rfl, ⟨va, rfl, h3⟩, [vt], _, rfl, ⟨vt, rfl, h4⟩, rfl, h6⟩
theorem take_min {α : Type} {l : List α} {n : Nat} : l.take (min l.length n) = l.take n := by
  rcases Nat.le_total l.length n with h | h
  · rw [Nat.min_eq_left h, List.take_of_length_le (Nat.le_refl _), List.take_of_length_le h]
  · rw [Nat.min_eq_right h]
/-- The first of a slice, at most so many. -/
theorem sl_first {α : Type} [Rep α] {H : View} {v : Value} {l : List α} (h : SlRd H v l) (n : Nat) (m : Int) (hm : m = n) : ∃ u, Bn.ev .hi v (.int .i64 (if m < (l.length : Int) then m else l.length)) = some u ∧ SlRd H u (l.take n) := by
  subst hm
  obtain ⟨u, h1, h2⟩ := h.take (n := min l.length n) (by omega) (kd := .i64)
  rw [take_min] at h2
  refine ⟨u, ?_, h2⟩
  rw [show (if (n : Int) < (l.length : Int) then (n : Int) else l.length) = ((min l.length n : Nat) : Int) by split <;> omega]
  exact h1
theorem take_map {α β : Type} [Inhabited α] {f : α → β} {l : List α} {k : Nat} (h : k < l.length) : (l.take (k + 1)).map f = (l.take k).map f ++ [f (nth l k)] := by
  rw [List.take_succ_eq_append_getElem h, List.map_append, nth_eq h]; rfl
theorem fe_phi {s : Few} {X : Option Lft.Item} {v : Value} {l : List PhiD} {B : Nat} {c : List Value} {W : View} {h : Heap} (w : Owns W h ((((feOwn s).upd (2, 0) X).upd (1, 1) (it T.api_Phi v l)).upd (1, 0) (bx T.api_Block B (RawN.mk (n := 5) c)))) : Owns W h (feOwn { s with y := some (B, c), yP := some (v, l) }) := w.sub fun q i hq => by
  have hne : q ≠ (2, 0) := by rintro rfl; cases hq
  have e : feOwn { s with y := some (B, c), yP := some (v, l) } q = ((feOwn s).upd (1, 1) (it T.api_Phi v l)).upd (1, 0) (bx T.api_Block B (RawN.mk (n := 5) c)) q := by
    rw [show feOwn { s with y := some (B, c), yP := some (v, l) } q = _ from fe_y { s with yP := some (v, l) } q]
    unfold Own.upd
    split
    · rfl
    · exact fe_yP s q
  rw [e] at hq
  rw [← hq]
  simp only [Own.upd, hne, if_false]
theorem fe_ins {s : Few} {X : Option Lft.Item} {v : Value} {l : List InsD} {B : Nat} {c : List Value} {W : View} {h : Heap} (w : Owns W h ((((feOwn s).upd (2, 0) X).upd (1, 2) (it T.api_Ins v l)).upd (1, 0) (bx T.api_Block B (RawN.mk (n := 5) c)))) : Owns W h (feOwn { s with y := some (B, c), yI := some (v, l) }) := w.sub fun q i hq => by
  have hne : q ≠ (2, 0) := by rintro rfl; cases hq
  have e : feOwn { s with y := some (B, c), yI := some (v, l) } q = ((feOwn s).upd (1, 2) (it T.api_Ins v l)).upd (1, 0) (bx T.api_Block B (RawN.mk (n := 5) c)) q := by
    rw [show feOwn { s with y := some (B, c), yI := some (v, l) } q = _ from fe_y { s with yI := some (v, l) } q]
    unfold Own.upd
    split
    · rfl
    · exact fe_yI s q
  rw [e] at hq
  rw [← hq]
  simp only [Own.upd, hne, if_false]
theorem fe_took {s : Few} {Y : Nat × List Value} {a : Value × List PhiD} {b : Value × List InsD} (hP : s.yP = none) (hI : s.yI = none) (q : Key) : feOwn { s with y := some Y } q = ((feOwn { s with y := some Y, yP := some a, yI := some b }).upd (1, 1) none).upd (1, 2) none q := by
  obtain ⟨r, rl, o, ol, y, yp, yi⟩ := s
  simp only at hP hI
  subst hP hI
  unfold feOwn Own.upd
  by_cases h1 : q = (1, 1)
  · subst h1; rfl
  by_cases h2 : q = (1, 2)
  · subst h2; rfl
  simp only [h1, h2, if_false]
theorem fe_next {s : Few} {Y : Nat × List Value} {v : Value} {l : List BlkD} {B : Nat} {c : List Value} {W : View} {h : Heap} (hP : s.yP = none) (hI : s.yI = none) (w : Owns W h (((feOwn { s with y := some Y }).upd (0, 1) (it T.api_Block v l)).upd (0, 0) (bx T.api_Func B (RawN.mk (n := 1) c)))) : Owns W h (feOwn { r := s.r, rl := s.rl, out := some (B, c), outL := some (v, l) }) := w.sub fun q i hq => by
  obtain ⟨r, rl, o, ol, y, yp, yi⟩ := s
  simp only at hP hI
  subst hP hI
  rw [← hq]
  have h3 : q ≠ (1, 0) := by rintro rfl; cases hq
  unfold feOwn Own.upd
  by_cases h1 : q = (0, 0)
  · subst h1; rfl
  by_cases h2 : q = (0, 1)
  · subst h2; rfl
  simp only [h1, h2, h3, if_false]
theorem few_ok {f : FuncD} {v : Value} {h : Heap} (hv : Rd (vw h) v f) :
    HCalls Try.prog N.law03_few #[v] h (fun u h' => (vw h).le (vw h') ∧ Rd (vw h') u (fewS f)) := by
  refine calls_lift (args := [v]) follows F.law03_few E.law03_few (Nat.le_of_ble_eq_true (by kernel_rfl)) fun K hK => ?_
  dsimp only [L.law03_few]
  refine lwp_hide fun z hz => ?_
  simp
  refine do_boxT rfl hv fun h1 _ hle1 hs1 hat => ?_
  obtain ⟨cp, vb, cb⟩ := at_funcB hat
  generalize h.size = B at cp cb
  have cpr := (hat.part FuncD.p_params).rng
  have nb := cb.2.bound
  refine (Owns.start (h := h1) (View.le_refl (vw h1))).do_zero (k := (5, 0)) (n := 1) (z := .agg #[.int .i64 0, .slice none 0 0]) rfl (by kernel_rfl) rfl (by decide) (by simp [Value.cells, Value.oneCell']) fun h2 q2 w2 => ?_
  generalize h1.size = R at w2
  have w2 : Owns (vw h1) h2 (feOwn { r := R, rl := [.int .i64 0, .slice none 0 0] }) := w2.congr fun q => by
    unfold feOwn Own.upd
    repeat' split
    all_goals first | rfl | simp_all
  rw [hz]; clear hz z
  refine lwp_hide fun z hz => ?_
  simp [cellH_mono w2.wle cp]
  refine do_build (z := .agg #[.int .i64 0, .slice none 0 0]) (places := [(0, 1), (1, 1)]) (vs := [(0, .int .i64 f.params)]) (cs := #[.int .i64 f.params, .slice none 0 0]) (by kernel_rfl) (by kernel_rfl) (by simp) (by rfl) ?_
  refine w2.do_var (k := (0, 0)) (n := 1) (l := [.int .i64 f.params, .slice none 0 0]) rfl (z := .agg #[.int .i64 0, .slice none 0 0]) (by kernel_rfl) rfl (by kernel_rfl) rfl (by decide) (by simp [Value.oneCell']) (fun _ => by simp) (fun _ => by simp) fun h3 q3 w3 => ?_
  generalize h2.size = D at w3
  have w3 := w3.congr fun q => fe_out _ q
  have w3 := (w3.add (k := (0, 1)) rfl (OwnT.nil (α := BlkD) _ h3 T.api_Block) (View.le_refl _) (fun b hb => by simp [Value.ownBlock] at hb)).congr fun q => fe_outL _ q
  rw [hz]; clear hz z
  refine lwp_hide fun z hz => ?_
  simp
  obtain ⟨n, hn⟩ : ∃ n : Nat, n = min f.blocks.length 9 := ⟨_, rfl⟩
  have hn1 : ∀ k : Nat, (decide (k < f.blocks.length) && decide ((k : Int) < 9)) = decide (k < n) := fun k => by rw [Bool.eq_iff_iff]; simp only [Bool.and_eq_true, decide_eq_true_eq]; omega
  refine lwp_forC [1, 2, 3, 4] (fun (_ : Unit) k => [.pointer (some ⟨B, 0, none⟩), .pointer (some ⟨R, 0, none⟩), .pointer (some ⟨D, 0, none⟩), .int .i64 k])
    (fun _ k h4 => ∃ W vo, (vw h1).le W ∧ vo.oneCell' = true ∧ Owns W h4 (feOwn { r := R, rl := [.int .i64 0, .slice none 0 0], out := some (D, [.int .i64 f.params, vo]), outL := some (vo, (f.blocks.take k).map fewB) })) n ()
    rfl (by omega) rfl ⟨vw h1, .slice none 0 0, View.le_refl _, rfl, w3⟩ (fun _ _ => rfl) (fun v k h4 hk ⟨W, vo, q1, _, q2⟩ => by simp [cellH_mono (View.le_trans q1 q2.wle) cb.1, (cb.2.mono (View.le_trans q1 q2.wle)).len, hn1]) ?_ ?_
  · rintro _ k h4 hltk ⟨W4, vo, hW4, hvo, w4⟩ K2 hK2
    have hkl : k < f.blocks.length := by omega
    have cb4 := cb.2.mono hW4
    have cc4 := cellH_mono hW4 cb.1
    obtain ⟨ux, hux, huxr⟩ := cb4.wh rfl (N := 6) rfl hkl
    have htk := take_map (f := fewB) hkl
    generalize nth f.blocks k = x at huxr htk
    have hlo : ((f.blocks.take k).map fewB).length ≤ 9 := by simp; omega
    generalize (f.blocks.take k).map fewB = out at w4 htk hlo
    refine lwp_hide fun y hy => ?_
    simp (disch := omega) [cellH_mono w4.wle cc4, (cb4.mono w4.wle).idxn (N := 6) rfl, hux _ w4.wle]
    refine do_newX (X := W4) (z := .agg #[.slice none 0 0, .slice none 0 0, .int .i64 0, .slice none 0 0, .slice none 0 0, .int .i32 0]) (by kernel_rfl) rfl (by kernel_rfl) huxr (fun _ => by simp) (fun _ => by simp) fun h5 hle5 hs5 hat5 => ?_
    have w5 := w4.ext hle5
    have hat5 := hat5 (grow W4 h4 h5) (le_grow w4.wle) (grow_new (Nat.le_refl _))
    have hW5 := View.le_trans hW4 (le_grow (h' := h5) w4.wle)
    generalize grow W4 h4 h5 = W5 at w5 hat5 hW5
    generalize h4.size = D5 at hat5
    obtain ⟨vp, vi, va, vt, bp, bi, bk, ba, bt⟩ := at_blkB hat5
    have hterm := hat5.part BlkD.p_term
    obtain ⟨uT, huT, huTr⟩ := hterm.loads rfl
    obtain ⟨va', vt', rfl, ta, tt⟩ := term_val huTr
    have tk := (hterm.part TermD.p_kind).rng
    have ti : -2147483648 ≤ x.term.imm.v ∧ x.term.imm.v ≤ 2147483647 := by
      obtain ⟨cs, _, c1, r1, _, _, c2, r2, _, _, c3, r3, _, _, _, h6⟩ := hterm
      exact h6
    have huT : Un.ev W5 (.loads 4) (.pointer (some ⟨D5, 2, none⟩)) = some (.agg #[.int .i64 x.term.kind, va', vt', .int .i32 x.term.imm.v]) := by
      have h2 : Un.ev W5 (.loads 4) (.pointer (some ((⟨D5, 0, none⟩ : Addr).add 2))) = _ := huT
      rwa [addr_add] at h2
    have huT6 : Un.ev (vw h5) (.loads 4) (.pointer (some ⟨D5, 2, none⟩)) = some (.agg #[.int .i64 x.term.kind, va', vt', .int .i32 x.term.imm.v]) := by
      have := ev_mono (ρ := fun _ => none) (e := .un (.loads 4) (.con (.pointer (some ⟨D5, 2, none⟩)))) w5.wle (by simpa using huT)
      simpa using this
    rw [hy]; clear hy y
    refine lwp_hide fun y hy => ?_
    simp [huT6]
    refine do_build (z := .agg #[.slice none 0 0, .slice none 0 0, .int .i64 0, .slice none 0 0, .slice none 0 0, .int .i32 0]) (places := [(0, 1), (1, 1), (2, 4)]) (vs := [(2, .agg #[.int .i64 x.term.kind, va', vt', .int .i32 x.term.imm.v])]) (cs := #[.slice none 0 0, .slice none 0 0, .int .i64 x.term.kind, va', vt', .int .i32 x.term.imm.v]) (by kernel_rfl) (by kernel_rfl) (by simp) (by rfl) ?_
    refine w5.do_var (k := (1, 0)) (n := 5) (l := [.slice none 0 0, .slice none 0 0, .int .i64 x.term.kind, va', vt', .int .i32 x.term.imm.v]) rfl (z := .agg #[.slice none 0 0, .slice none 0 0, .int .i64 0, .slice none 0 0, .slice none 0 0, .int .i32 0]) (by kernel_rfl) rfl (by kernel_rfl) rfl (by decide) (by intro c hc; simp only [List.mem_cons, List.not_mem_nil, or_false] at hc; rcases hc with rfl | rfl | rfl | rfl | rfl | rfl <;> first | rfl | exact ta.cells.2 | exact tt.cells.2) (fun _ => by simp) (fun _ => by simp) fun h6 q6 w6 => ?_
    generalize h5.size = D6 at w6
    have w6 := w6.congr fun q => fe_y _ q
    have w6 := (w6.add (k := (1, 1)) rfl (OwnT.nil (α := PhiD) _ h6 T.api_Phi) (View.le_refl _) (fun b hb => by simp [Value.ownBlock] at hb)).congr fun q => fe_yP _ q
    have w6 := (w6.add (k := (1, 2)) rfl (OwnT.nil (α := InsD) _ h6 T.api_Ins) (View.le_refl _) (fun b hb => by simp [Value.ownBlock] at hb)).congr fun q => fe_yI _ q
    rw [hy]; clear hy y
    refine lwp_hide fun y hy => ?_
    simp
    obtain ⟨S, hS⟩ : ∃ S : Few, S = { r := R, rl := [.int .i64 0, .slice none 0 0], out := some (D, [.int .i64 f.params, vo]), outL := some (vo, out) } := ⟨_, rfl⟩
    have w6 : Owns W5 h6 (feOwn { S with y := some (D6, [.slice none 0 0, .slice none 0 0, .int .i64 x.term.kind, va', vt', .int .i32 x.term.imm.v]), yP := some (.slice none 0 0, (x.phis.take 0).map fewP), yI := some (.slice none 0 0, []) }) := by rw [hS]; exact w6
    clear w5 w4
    have np := bp.2.bound
    obtain ⟨n6, hn6⟩ : ∃ n6 : Nat, n6 = min x.phis.length 8 := ⟨_, rfl⟩
    have hc6 : ∀ k : Nat, (decide (k < x.phis.length) && decide ((k : Int) < 8)) = decide (k < n6) := fun k => by rw [Bool.eq_iff_iff]; simp only [Bool.and_eq_true, decide_eq_true_eq]; omega
    refine lwp_forC [1, 2, 3, 4, 5, 6, 7] (fun (_ : Unit) j => [.pointer (some ⟨B, 0, none⟩), .pointer (some ⟨R, 0, none⟩), .pointer (some ⟨D, 0, none⟩), .int .i64 k, .pointer (some ⟨D5, 0, none⟩), .pointer (some ⟨D6, 0, none⟩), .int .i64 j])
      (fun _ j h7 => ∃ W vq, W5.le W ∧ vq.oneCell' = true ∧ Owns W h7 (feOwn { S with y := some (D6, [vq, .slice none 0 0, .int .i64 x.term.kind, va', vt', .int .i32 x.term.imm.v]), yP := some (vq, (x.phis.take j).map fewP), yI := some (.slice none 0 0, []) })) n6 ()
      rfl (by omega) rfl ⟨W5, .slice none 0 0, View.le_refl _, rfl, w6⟩ (fun _ _ => rfl) (fun v k h7 hk ⟨W, vo, q1, _, q2⟩ => by simp [cellH_mono (View.le_trans q1 q2.wle) bp.1, (bp.2.mono (View.le_trans q1 q2.wle)).len, hc6]) ?_ ?_
    · rintro _ j h7 hltj ⟨W7, vq, hW7, hvq, w7⟩ K3 hK3
      have hjl : j < x.phis.length := by omega
      have bp7 := bp.2.mono hW7
      have bc7 := cellH_mono hW7 bp.1
      obtain ⟨ux, hux, huxr⟩ := bp7.wh rfl (N := 2) rfl hjl
      have htk := take_map (f := fewP) hjl
      have hl7 : ((x.phis.take j).map fewP).length ≤ 8 := by simp; omega
      generalize nth x.phis j = p at huxr htk
      generalize (x.phis.take j).map fewP = outp at w7 htk hl7
      refine lwp_hide fun q hq => ?_
      simp (disch := omega) [cellH_mono w7.wle bc7, (bp7.mono w7.wle).idxn (N := 2) rfl, hux _ w7.wle]
      obtain ⟨vin, rfl, hd, h3⟩ := phi_val huxr
      refine w7.do_var (k := (2, 0)) (n := 1) (l := [.int .i64 p.dst, vin]) rfl (z := .agg #[.int .i64 0, .slice none 0 0]) (by kernel_rfl) rfl (by kernel_rfl) rfl (by decide) (by intro c hc; simp only [List.mem_cons, List.not_mem_nil, or_false] at hc; rcases hc with rfl | rfl <;> first | rfl | exact h3.cells.2) (fun _ => by simp) (fun _ => by simp) fun h8 q8 w8 => ?_
      generalize h7.size = D8 at w8
      rw [hq]; clear hq q
      refine lwp_hide fun q hq => ?_
      simp
      refine w8.do_empty (k := (2, 1)) (α := InD) rfl El.s_api_In fun v9 h9 hle9 hv9 w9 av9 => ?_
      have c9 := w9.raw (k := (2, 0)) (e := T.api_Phi) (B := D8) (l := [.int .i64 p.dst, vin]) (n := 1) rfl (i := 1) (by decide)
      obtain ⟨uf, huf, hufr⟩ := sl_first h3 6 6 rfl
      simp [c9, h3.len, huf]
      refine w9.do_clone (k := (2, 1)) (α := InD) (v := v9) (u := uf) (l2 := p.ins.take 6) rfl El.s_api_In (by simp) (by simp) hufr (by simp; omega) fun v10 h10 W10 w10 hW10 s10 _ => ?_
      have hv10 := s10.cells.2
      refine w10.do_cell (k := (2, 0)) (n := 1) (i := 1) (e := T.api_Phi) (B := D8) (l := [.int .i64 p.dst, vin]) rfl (by decide) (by kernel_rfl) rfl rfl hv10 fun h11 w11 _ => ?_
      have w11 := w11.congr (o' := (feOwn { S with y := some (D6, [vq, .slice none 0 0, .int .i64 x.term.kind, va', vt', .int .i32 x.term.imm.v]), yP := some (vq, outp), yI := some (.slice none 0 0, []) }).upd (2, 0) (bx T.api_Phi D8 (RawN.mk (n := 1) [.int .i64 p.dst, v10]))) fun q => by
        unfold Own.upd; split <;> rfl
      rw [hq]; clear hq q
      have c11 := w11.raw (k := (1, 0)) (e := T.api_Block) (B := D6) (l := [vq, .slice none 0 0, .int .i64 x.term.kind, va', vt', .int .i32 x.term.imm.v]) (n := 5) rfl (i := 0) (by decide)
      have c12 := w11.rawAll (k := (2, 0)) (e := T.api_Phi) (B := D8) (l := [.int .i64 p.dst, v10]) (n := 1) rfl
      simp [c11, c12]
      refine w11.do_push (k := (1, 1)) (α := PhiD) (d := fewP p) rfl El.s_api_Phi rfl (rd_phiOf hd s10) (by simp; omega) (by simp; omega) (fun _ => rfl) (fun _ => rfl) fun u13 v13 h13 w13 _ => ?_
      have hv13 := (w13.cells (k := (1, 1)) Own.upd_self).2
      refine w13.do_cell (k := (1, 0)) (n := 5) (i := 0) (e := T.api_Block) (B := D6) (l := [vq, .slice none 0 0, .int .i64 x.term.kind, va', vt', .int .i32 x.term.imm.v]) rfl (by decide) (by kernel_rfl) rfl rfl hv13 fun h14 w14 _ => ?_
      exact hK3 () _ _ rfl rfl ⟨W10, v13, View.le_trans hW7 hW10, hv13, by rw [htk]; exact fe_phi w14⟩
    · rintro _ h7 ⟨W7, vq, hW7, hvq, w7⟩
      simp
      rw [hy]; clear hy y
      refine lwp_hide fun y hy => ?_
      simp
      have hlP : ((x.phis.take n6).map fewP) = (x.phis.take 8).map fewP := by rw [hn6, take_min]
      rw [hlP] at w7
      generalize hPs : (x.phis.take 8).map fewP = ps at w7
      clear hlP
      have bi7 := bi.2.mono hW7
      have w7 : Owns W7 h7 (feOwn { S with y := some (D6, [vq, .slice none 0 0, .int .i64 x.term.kind, va', vt', .int .i32 x.term.imm.v]), yP := some (vq, ps), yI := some (.slice none 0 0, (x.ins.take 0).map fewI) }) := w7
      have ni := bi.2.bound
      obtain ⟨n8, hn8⟩ : ∃ n8 : Nat, n8 = min x.ins.length 40 := ⟨_, rfl⟩
      have hc8 : ∀ k : Nat, (decide (k < x.ins.length) && decide ((k : Int) < 40)) = decide (k < n8) := fun k => by rw [Bool.eq_iff_iff]; simp only [Bool.and_eq_true, decide_eq_true_eq]; omega
      refine lwp_forC [1, 2, 3, 4, 5, 6, 9] (fun (_ : Unit) j => [.pointer (some ⟨B, 0, none⟩), .pointer (some ⟨R, 0, none⟩), .pointer (some ⟨D, 0, none⟩), .int .i64 k, .pointer (some ⟨D5, 0, none⟩), .pointer (some ⟨D6, 0, none⟩), .int .i64 j])
        (fun _ j h8 => ∃ W vr, W7.le W ∧ vr.oneCell' = true ∧ Owns W h8 (feOwn { S with y := some (D6, [vq, vr, .int .i64 x.term.kind, va', vt', .int .i32 x.term.imm.v]), yP := some (vq, ps), yI := some (vr, (x.ins.take j).map fewI) })) n8 ()
        rfl (by omega) rfl ⟨W7, .slice none 0 0, View.le_refl _, rfl, w7⟩ (fun _ _ => rfl) (fun v k h8 hk ⟨W, vo, q1, _, q2⟩ => by simp [cellH_mono (View.le_trans hW7 (View.le_trans q1 q2.wle)) bi.1, (bi.2.mono (View.le_trans hW7 (View.le_trans q1 q2.wle))).len, hc8]) ?_ ?_
      · rintro _ j h8 hltj ⟨W8, vr, hW8, hvr, w8⟩ K3 hK3
        have hjl : j < x.ins.length := by omega
        have bp8 := bi7.mono hW8
        have bc8 := cellH_mono (View.le_trans hW7 hW8) bi.1
        obtain ⟨ux, hux, huxr⟩ := bp8.wh rfl (N := 5) rfl hjl
        have htk := take_map (f := fewI) hjl
        have hl8 : ((x.ins.take j).map fewI).length ≤ 40 := by simp; omega
        generalize nth x.ins j = p at huxr htk
        generalize (x.ins.take j).map fewI = outi at w8 htk hl8
        refine lwp_hide fun q hq => ?_
        simp (disch := omega) [cellH_mono w8.wle bc8, (bp8.mono w8.wle).idxn (N := 5) rfl, hux _ w8.wle]
        obtain ⟨vin, rfl, hd, h3⟩ := ins_val huxr
        refine w8.do_var (k := (2, 0)) (n := 4) (l := [.int .i64 p.op, .int .i64 p.dst, .int .i64 p.two, vin, .int .i32 p.imm.v]) rfl (z := .agg #[.int .i64 0, .int .i64 0, .int .i64 0, .slice none 0 0, .int .i32 0]) (by kernel_rfl) rfl (by kernel_rfl) rfl (by decide) (by intro c hc; simp only [List.mem_cons, List.not_mem_nil, or_false] at hc; rcases hc with rfl | rfl | rfl | rfl | rfl <;> first | rfl | exact h3.cells.2) (fun _ => by simp) (fun _ => by simp) fun h9 q9 w9 => ?_
        generalize h8.size = D8 at w9
        rw [hq]; clear hq q
        refine lwp_hide fun q hq => ?_
        simp
        refine w9.do_empty (k := (2, 1)) (α := Int) rfl El.s_int fun v10 h10 hle10 hv10 w10 av10 => ?_
        have c10 := w10.raw (k := (2, 0)) (e := T.api_Ins) (B := D8) (l := [.int .i64 p.op, .int .i64 p.dst, .int .i64 p.two, vin, .int .i32 p.imm.v]) (n := 4) rfl (i := 3) (by decide)
        obtain ⟨uf, huf, hufr⟩ := sl_first h3 6 6 rfl
        simp [c10, h3.len, huf]
        refine w10.do_clone (k := (2, 1)) (α := Int) (v := v10) (u := uf) (l2 := p.args.take 6) rfl El.s_int (by simp) (by simp) hufr (by simp; omega) fun v11 h11 W11 w11 hW11 s11 _ => ?_
        have hv11 := s11.cells.2
        refine w11.do_cell (k := (2, 0)) (n := 4) (i := 3) (e := T.api_Ins) (B := D8) (l := [.int .i64 p.op, .int .i64 p.dst, .int .i64 p.two, vin, .int .i32 p.imm.v]) rfl (by decide) (by kernel_rfl) rfl rfl hv11 fun h12 w12 _ => ?_
        have w12 := w12.congr (o' := (feOwn { S with y := some (D6, [vq, vr, .int .i64 x.term.kind, va', vt', .int .i32 x.term.imm.v]), yP := some (vq, ps), yI := some (vr, outi) }).upd (2, 0) (bx T.api_Ins D8 (RawN.mk (n := 4) [.int .i64 p.op, .int .i64 p.dst, .int .i64 p.two, v11, .int .i32 p.imm.v]))) fun q => by
          unfold Own.upd; split <;> rfl
        rw [hq]; clear hq q
        have c12 := w12.raw (k := (1, 0)) (e := T.api_Block) (B := D6) (l := [vq, vr, .int .i64 x.term.kind, va', vt', .int .i32 x.term.imm.v]) (n := 5) rfl (i := 1) (by decide)
        have c13 := w12.rawAll (k := (2, 0)) (e := T.api_Ins) (B := D8) (l := [.int .i64 p.op, .int .i64 p.dst, .int .i64 p.two, v11, .int .i32 p.imm.v]) (n := 4) rfl
        simp [c12, c13]
        refine w12.do_push (k := (1, 2)) (α := InsD) (d := fewI p) rfl El.s_api_Ins rfl (rd_insOf hd s11) (by simp; omega) (by simp; omega) (fun _ => rfl) (fun _ => rfl) fun u13 v13 h13 w13 _ => ?_
        have hv13 := (w13.cells (k := (1, 2)) Own.upd_self).2
        refine w13.do_cell (k := (1, 0)) (n := 5) (i := 1) (e := T.api_Block) (B := D6) (l := [vq, vr, .int .i64 x.term.kind, va', vt', .int .i32 x.term.imm.v]) rfl (by decide) (by kernel_rfl) rfl rfl hv13 fun h14 w14 _ => ?_
        exact hK3 () _ _ rfl rfl ⟨W11, v13, View.le_trans hW8 hW11, hv13, by rw [htk]; exact fe_ins w14⟩
      · rintro _ h8 ⟨W8, vr, hW8, hvr, w8⟩
        simp
        rw [hy]; clear hy y
        refine lwp_hide fun y hy => ?_
        have hlI : ((x.ins.take n8).map fewI) = (x.ins.take 40).map fewI := by rw [hn8, take_min]
        rw [hlI] at w8
        generalize hIs : (x.ins.take 40).map fewI = is at w8
        simp
        refine w8.do_empty (k := (2, 1)) (α := Int) rfl El.s_int fun v9 h9 hle9 hv9 w9 av9 => ?_
        have hW8' := View.le_trans hW7 hW8
        have ca := cellH_mono (View.le_trans hW8' w9.wle) ba.1
        obtain ⟨uf, huf, hufr⟩ := sl_first (ba.2.mono hW8') 6 6 rfl
        simp [ca, ba.2.len, huf]
        refine w9.do_clone (k := (2, 1)) (α := Int) (v := v9) (u := uf) (l2 := x.term.args.take 6) rfl El.s_int (by simp) (by simp) hufr (by simp; omega) fun v10 h10 W10 w10 hW10 s10 _ => ?_
        refine w10.do_cell (k := (1, 0)) (n := 5) (i := 3) (e := T.api_Block) (B := D6) (l := [vq, vr, .int .i64 x.term.kind, va', vt', .int .i32 x.term.imm.v]) rfl (by decide) (by kernel_rfl) rfl rfl s10.cells.2 fun h11 w11 _ => ?_
        have w11 : Owns W10 h11 (feOwn { S with y := some (D6, [vq, vr, .int .i64 x.term.kind, v10, vt', .int .i32 x.term.imm.v]), yP := some (vq, ps), yI := some (vr, is) }) := w11.congr fun q => fe_y { S with y := some (D6, [vq, vr, .int .i64 x.term.kind, va', vt', .int .i32 x.term.imm.v]), yP := some (vq, ps), yI := some (vr, is) } q
        have hW10' := View.le_trans hW8' hW10
        rw [hy]; clear hy y
        refine lwp_hide fun y hy => ?_
        simp
        refine w11.do_empty (k := (2, 1)) (α := Int) rfl El.s_int fun v12 h12 hle12 hv12 w12 av12 => ?_
        have ct := cellH_mono (View.le_trans hW10' w12.wle) bt.1
        obtain ⟨ug, hug, hugr⟩ := sl_first (bt.2.mono hW10') 70 70 rfl
        simp [ct, bt.2.len, hug]
        refine w12.do_clone (k := (2, 1)) (α := Int) (v := v12) (u := ug) (l2 := x.term.to.take 70) rfl El.s_int (by simp) (by simp) hugr (by simp; omega) fun v13 h13 W13 w13 hW13 s13 _ => ?_
        refine w13.do_cell (k := (1, 0)) (n := 5) (i := 4) (e := T.api_Block) (B := D6) (l := [vq, vr, .int .i64 x.term.kind, v10, vt', .int .i32 x.term.imm.v]) rfl (by decide) (by kernel_rfl) rfl rfl s13.cells.2 fun h14 w14 _ => ?_
        have w14 : Owns W13 h14 (feOwn { S with y := some (D6, [vq, vr, .int .i64 x.term.kind, v10, v13, .int .i32 x.term.imm.v]), yP := some (vq, ps), yI := some (vr, is) }) := w14.congr fun q => fe_y { S with y := some (D6, [vq, vr, .int .i64 x.term.kind, v10, vt', .int .i32 x.term.imm.v]), yP := some (vq, ps), yI := some (vr, is) } q
        rw [hy]; clear hy y
        have av1 : Av W13 vq := w14.av (1, 1) _ rfl
        obtain ⟨w15, sp⟩ := w14.freeze (k := (1, 1)) (v := vq) (l := ps) rfl
        have hW15 := le_plus (h := h14) av1
        have av2 : Av (W13.plus vq h14) vr := w15.av (1, 2) _ rfl
        obtain ⟨w16, si⟩ := w15.freeze (k := (1, 2)) (v := vr) (l := is) rfl
        have hW16 := le_plus (h := h14) av2
        have sp := sp.mono hW16
        have s10 := s10.mono (View.le_trans hW13 (View.le_trans hW15 hW16))
        have s13 := s13.mono (View.le_trans hW15 hW16)
        have hW16' := View.le_trans hW10' (View.le_trans hW13 (View.le_trans hW15 hW16))
        have w16 : Owns ((W13.plus vq h14).plus vr h14) h14 (feOwn { S with y := some (D6, [vq, vr, .int .i64 x.term.kind, v10, v13, .int .i32 x.term.imm.v]) }) := w16.congr fun q => fe_took (by rw [hS]) (by rw [hS]) q
        generalize (W13.plus vq h14).plus vr h14 = W16 at w16 sp si s10 s13 hW16'
        clear w14 w15 w13 w12 w11 w10 w9 hW16 hW15 av1 av2
        have c1 : cellH (vw h14) ⟨D, 1, none⟩ = some vo := w16.raw (k := (0, 0)) (e := T.api_Func) (B := D) (l := [.int .i64 f.params, vo]) (n := 1) (by rw [hS]; rfl) (i := 1) (by decide)
        have c2 := w16.rawAll (k := (1, 0)) (e := T.api_Block) (B := D6) (l := [vq, vr, .int .i64 x.term.kind, v10, v13, .int .i32 x.term.imm.v]) (n := 5) rfl
        simp [c1, c2]
        refine w16.do_push (k := (0, 1)) (α := BlkD) (v := vo) (l := out) (d := fewB x) (by rw [hS]; rfl) El.s_api_Block rfl (by rw [fewB, hPs, hIs]; exact rd_blkOf sp si s10 s13 tk ti) (by omega) (by omega) (fun _ => rfl) (fun _ => rfl) fun u17 v17 h17 w17 _ => ?_
        have hv17 := (w17.cells (k := (0, 1)) Own.upd_self).2
        refine w17.do_cell (k := (0, 0)) (n := 1) (i := 1) (e := T.api_Func) (B := D) (l := [.int .i64 f.params, vo]) (by rw [hS]; rfl) (by decide) (by kernel_rfl) rfl rfl hv17 fun h18 w18 _ => ?_
        refine hK2 () _ _ rfl rfl ⟨W16, v17, View.le_trans hW5 hW16', hv17, by rw [htk, show R = S.r by rw [hS], show ([.int .i64 0, .slice none 0 0] : List Value) = S.rl by rw [hS]]; exact fe_next (by rw [hS]) (by rw [hS]) w18⟩
  · rintro _ h4 ⟨W4, vo, hW4, hvo, w4⟩
    have hlP : ((f.blocks.take n).map fewB) = (fewS f).blocks := by rw [hn, take_min]; rfl
    rw [hlP] at w4
    simp
    rw [hz]; clear hz z
    have c1 := w4.rawAll (k := (0, 0)) (e := T.api_Func) (B := D) (l := [.int .i64 f.params, vo]) (n := 1) rfl
    simp [c1]
    refine w4.do_field (k := (5, 0)) (e := T.api_Func) (B := R) (D := RawN.mk (n := 1) [.int .i64 0, .slice none 0 0]) Part.all (d := RawN.mk (n := 1) [.int .i64 f.params, vo]) rfl (by kernel_rfl) rfl rfl (rd_rawN rfl (by intro c hc; simp only [List.mem_cons, List.not_mem_nil, or_false] at hc; rcases hc with rfl | rfl <;> first | rfl | exact hvo)) fun h5 w5 _ => ?_
    have c2 := w5.rawAll (k := (5, 0)) (e := T.api_Func) (B := R) (l := [.int .i64 f.params, vo]) (n := 1) Own.upd_self
    simp [c2]
    have s5 := w5.now (k := (0, 1)) (v := vo) (l := (fewS f).blocks) rfl
    exact hK _ _ ⟨View.le_trans hle1 (View.le_trans hW4 w5.wle), _, rfl, [.int .i64 f.params], [vo], rfl, ⟨rfl, cpr⟩, vo, rfl, s5⟩
end Go.Proofs.Ytfelpjfopgiabaa

/- The document's answer: which blocks are reached. -/
namespace Go.Proofs.Ytfelpjfopgiabaa
open Go Go.Lft
set_option linter.unusedSimpArgs false
set_option linter.unusedVariables false

abbrev RSt := List Bool × List Int
def rchIn (wo : Int) (to : List Int) (k : Nat) (s : RSt) : RSt :=
  if (0 ≤ nth to k ∧ nth to k < s.1.length) ∧ nth s.1 (nth to k).toNat = false ∧ nth to k ≠ wo then (s.1.set (nth to k).toNat true, s.2 ++ [nth to k]) else s
def rchRow (f : FuncD) (wo : Int) (i : Nat) (s : RSt) : RSt := up (rchIn wo (nth f.blocks (nth s.2 i).toNat).term.to) (nth f.blocks (nth s.2 i).toNat).term.to.length s
def rchS (f : FuncD) (wo : Int) : Nat → Nat → RSt → RSt
  | 0, _, s => s
  | n + 1, i, s => if i < s.2.length then rchS f wo n (i + 1) (rchRow f wo i s) else s
def rch0 (f : FuncD) (wo : Int) : RSt := if wo ≠ 0 ∧ 0 < f.blocks.length then ((List.replicate f.blocks.length false).set 0 true, [0]) else (List.replicate f.blocks.length false, [])
def reachedS (f : FuncD) (wo : Int) : List Bool := (rchS f wo (f.blocks.length + 1) 0 (rch0 f wo)).1

structure ROk (n : Nat) (s : RSt) : Prop where
  len : s.1.length = n
  cnt : s.2.length + falses s.1 ≤ n
  rng : ∀ x ∈ s.2, 0 ≤ x ∧ x < n
theorem rchIn_ok {n : Nat} {wo : Int} {to : List Int} {k : Nat} {s : RSt} (h : ROk n s) : ROk n (rchIn wo to k s) := by
  unfold rchIn
  split
  · rename_i hc
    have hf := falses_set (t := s.1) (i := (nth to k).toNat) (by omega) hc.2.1
    refine ⟨by simpa using h.len, ?_, fun x hx => ?_⟩
    · have := h.cnt
      simp only [List.length_append, List.length_singleton]; omega
    · rcases List.mem_append.1 hx with hx | hx
      · exact h.rng x hx
      · rw [List.mem_singleton.1 hx, ← h.len]; exact hc.1
  · exact h
theorem rchUp_ok {n : Nat} {wo : Int} {to : List Int} {s : RSt} (h : ROk n s) (m : Nat) : ROk n (up (rchIn wo to) m s) := up_inv (ROk n) (fun k x hx => rchIn_ok hx) m s h
theorem rch0_ok {f : FuncD} {wo : Int} : ROk f.blocks.length (rch0 f wo) := by
  unfold rch0
  have hfa : falses (List.replicate f.blocks.length false) = f.blocks.length := by simp [falses]
  split
  · rename_i hc
    have hf := falses_set (t := List.replicate f.blocks.length false) (i := 0) (by simpa using hc.2) (by rw [nth_eq (by simpa using hc.2)]; simp)
    exact ⟨by simp, by simp only [List.length_singleton]; omega, fun x hx => by rw [List.mem_singleton.1 hx]; omega⟩
  · exact ⟨by simp, by simp only [List.length_nil]; omega, fun x hx => by cases hx⟩
theorem rchS_ok {f : FuncD} {wo : Int} : ∀ {m i : Nat} {s : RSt}, ROk f.blocks.length s → ROk f.blocks.length (rchS f wo m i s)
  | 0, _, _, h => h
  | m + 1, i, s, h => by
    rw [rchS]
    split
    · exact rchS_ok (rchUp_ok h _)
    · exact h
theorem reachedS_len {f : FuncD} {wo : Int} : (reachedS f wo).length = f.blocks.length := (rchS_ok rch0_ok).len

/-- Reached's memory. -/
def rchOwn (vo vq : Value) (s : RSt) : Own := fun k => if k = (0, 0) then it T.bool vo s.1 else if k = (0, 1) then it T.int vq s.2 else none

theorem reached_ok {f : FuncD} {wo : Int} {v : Value} {h : Heap} (hv : Rd (vw h) v f) (hn : f.blocks.length ≤ 1000000) :
    HCalls Try.prog N.ref03_Reached #[v, .int .i64 wo] h (fun u h' => (vw h).le (vw h') ∧ SlRd (fresh h h') u (reachedS f wo)) := by
  refine calls_lift (args := [v, .int .i64 wo]) follows F.ref03_Reached E.ref03_Reached (Nat.le_of_ble_eq_true (by kernel_rfl)) fun K hK => ?_
  dsimp only [L.ref03_Reached]
  refine lwp_hide fun z hz => ?_
  simp
  refine do_boxT rfl hv fun h1 _ hle1 hsz1 hat => ?_
  obtain ⟨_, vb, cb⟩ := at_funcB hat
  generalize h.size = B at cb
  rw [hz]; clear hz z
  refine lwp_hide fun z hz => ?_
  simp [cb.1, cb.2.len]
  refine do_make (α := Bool) (W := vw h1) (k := .i64) (n := f.blocks.length) (d := false) El.s_bool (by simp) (by simp) rfl (by omega) (by omega) fun vo h2 o2 m2 hle2 hb2 => ?_
  have w2 := (Owns.start (h := h1) (View.le_refl (vw h1))).add (k := (0, 0)) rfl o2 hle2 (fun b hb => by rw [hb2] at hb; cases hb; exact Nat.le_refl _)
  rw [hz]; clear hz z
  refine lwp_hide fun z hz => ?_
  simp
  refine do_lit0 (α := Int) El.s_int fun h3 hle3 hsz3 own3 => ?_
  have w3 := w2.add (k := (0, 1)) rfl (own3 _) hle3 (fun b hb => by simp only [Value.ownBlock, Option.some.injEq] at hb; omega)
  have w3 : Owns (vw h1) h3 (rchOwn vo (.slice (some ⟨h2.size, 0, none⟩) 0 0) (List.replicate f.blocks.length false, [])) := w3.congr fun q => by
    unfold rchOwn Own.upd
    repeat' split
    all_goals first | rfl | simp_all
  generalize Value.slice (some ⟨h2.size, 0, none⟩) 0 0 = vq at w3
  rw [hz]; clear hz z
  refine lwp_hide fun z hz => ?_
  have cc3 := cellH_mono w3.wle cb.1
  have cb3 := cb.2.mono w3.wle
  -- the rest, from where the first ones stand
  have fin : ∀ (h4 : Heap) (vq : Value) (tl : Env), Owns (vw h1) h4 (rchOwn vo vq (rch0 f wo)) → @LC.wp noPP Try.prog z (@fnPost [.tmp 4] K) ([(0, v), (1, .int .i64 wo), (2, .pointer (some ⟨B, 0, none⟩)), (4, .slice none 0 0), (5, vo), (6, vq)] ++ tl) h4 := by
    intro h4 vq tl w4
    rw [hz]; clear hz z
    refine lwp_hide fun z hz => ?_
    simp
    refine lwp_loop [1, 2, 5, 6, 7] (fun m ρ h5 => ∃ (i : Nat) (s : RSt) (vq : Value), i ≤ f.blocks.length ∧ m = f.blocks.length + 1 - i ∧ ρ = [(1, .int .i64 wo), (2, .pointer (some ⟨B, 0, none⟩)), (5, vo), (6, vq), (7, .int .i64 i)] ∧ Owns (vw h1) h5 (rchOwn vo vq s) ∧ ROk f.blocks.length s ∧
      (rchS f wo m i s).1 = reachedS f wo) (f.blocks.length + 1) ⟨0, _, vq, by omega, rfl, by simp [keepE, look_setE], w4, rch0_ok, rfl⟩ ?_
    rintro m ρ h5 ⟨i, s, vq5, hi, rfl, rfl, w5, hok, hfin⟩ K2 hK2
    have no := w5.now (k := (0, 0)) (v := vo) (l := s.1) rfl
    have nq := w5.now (k := (0, 1)) (v := vq5) (l := s.2) rfl
    have hcnt := hok.cnt
    by_cases hlt : i < s.2.length
    · have hm : f.blocks.length + 1 - i = (f.blocks.length - i) + 1 := by omega
      rw [hm, rchS, if_pos hlt] at hfin
      obtain ⟨r0, r1⟩ := hok.rng _ (nth_mem hlt)
      have cb5 := cb.2.mono w5.wle
      obtain ⟨w, hw⟩ := sl_toAt cb5 (i := (nth s.2 i).toNat) (by omega)
      obtain ⟨w', hw'⟩ := sl_toAt cb.2 (i := (nth s.2 i).toNat) (by omega)
      have eww : w' = w := Option.some.inj ((cellH_mono w5.wle hw'.1).symm.trans hw.1)
      rw [eww] at hw'
      have hwb := hw.2.bound
      have hrow : rchRow f wo i s = up (rchIn wo (nth f.blocks (nth s.2 i).toNat).term.to) (nth f.blocks (nth s.2 i).toNat).term.to.length s := rfl
      rw [hrow] at hfin
      generalize hto : (nth f.blocks (nth s.2 i).toNat).term.to = to at hw hw' hwb hfin
      refine lwp_hide fun y hy => ?_
      simp (disch := omega) [nq.len, hlt]
      rw [hy]; clear hy y
      refine lwp_hide fun y hy => ?_
      refine lwp_hide fun x hx => ?_
      simp (disch := omega) [cellH_mono w5.wle cb.1, cb5.idxn (N := 6) rfl, nq.idx1 rfl, nq.int (View.le_refl _), hw.1]
      rw [hx]; clear hx x
      simp
      refine lwp_for [1, 2, 5, 6, 7, 8, 9] (fun (q : Value) j => [.int .i64 wo, .pointer (some ⟨B, 0, none⟩), vo, q, .int .i64 i, w, .int .i64 j]) (fun q j h6 => Owns (vw h1) h6 (rchOwn vo q (up (rchIn wo to) j s))) to.length vq5
        rfl (by omega) rfl w5 (fun _ _ => rfl) (fun v j h4 hk m => by simp [hw.2.len]) ?_ ?_
      · rintro q j h6 hltj w6 K3 hK3
        have hst : up (rchIn wo to) (j + 1) s = rchIn wo to j (up (rchIn wo to) j s) := rfl
        have hok6 := rchUp_ok (wo := wo) (to := to) hok j
        generalize up (rchIn wo to) j s = s6 at w6 hst hok6
        have no6 := w6.now (k := (0, 0)) (v := vo) (l := s6.1) rfl
        have nq6 := w6.now (k := (0, 1)) (v := q) (l := s6.2) rfl
        have hcnt6 := hok6.cnt
        have hlen6 := hok6.len
        have hr6 := hw'.2.mono w6.wle
        have hrng := hw'.2.range hltj
        rw [rchIn] at hst
        by_cases c1 : 0 ≤ nth to j ∧ nth to j < s6.1.length
        · have c1a := c1.1
          have c1b := c1.2
          cases c2 : nth s6.1 (nth to j).toNat with
          | true =>
            rw [if_neg (by rw [c2]; simp)] at hst
            simp (disch := omega) [hr6.idx1 rfl, hr6.int (View.le_refl _), no6.len, no6.idx1 rfl, no6.bool (View.le_refl _), c1a, c1b, c2]
            exact hK3 q _ _ rfl rfl (by rw [hst]; exact w6)
          | false =>
            by_cases c3 : nth to j = wo
            · rw [if_neg (by simp [c3])] at hst
              rw [c3] at c1a c1b c2
              simp (disch := omega) [hr6.idx1 rfl, hr6.int (View.le_refl _), no6.len, no6.idx1 rfl, no6.bool (View.le_refl _), c1a, c1b, c2, c3]
              exact hK3 q _ _ rfl rfl (by rw [hst]; exact w6)
            · rw [if_pos ⟨c1, c2, c3⟩] at hst
              refine lwp_hide fun x hx => ?_
              simp (disch := omega) [hr6.idx1 rfl, hr6.int (View.le_refl _), no6.len, no6.idx1 rfl, no6.bool (View.le_refl _), c1a, c1b, c2, c3]
              rw [hx]; clear hx x
              simp (disch := omega) [hr6.idx1 rfl, hr6.int (View.le_refl _), no6.idx1 rfl]
              refine w6.do_put (k := (0, 0)) (α := Bool) (l := s6.1) (v := vo) (i := (nth to j).toNat) (d := true) rfl (by kernel_rfl) (by simp [show Rep.n Bool = 1 from rfl]) (by simp <;> rfl) (by omega) rd_b fun h7 w7 hs7 => ?_
              have hr7 := hw'.2.mono w7.wle
              simp (disch := omega) [hr7.idx1 rfl, hr7.int (View.le_refl _)]
              refine w7.do_push (k := (0, 1)) (α := Int) (v := q) (l := s6.2) (d := nth to j) rfl El.s_int (by simp <;> rfl) (rd_i hrng.1 hrng.2) (by omega) (by omega) (fun _ => by simp) (fun _ => by simp) fun u q8 h8 w8 hs8 => ?_
              refine hK3 q8 _ _ rfl rfl ?_
              rw [hst]
              refine w8.congr fun q => ?_
              unfold rchOwn Own.upd
              repeat' split
              all_goals first | rfl | simp_all
        · rw [if_neg (fun e => c1 e.1)] at hst
          by_cases c1a : 0 ≤ nth to j
          · have c1b : ¬ nth to j < s6.1.length := fun e => c1 ⟨c1a, e⟩
            simp (disch := omega) [hr6.idx1 rfl, hr6.int (View.le_refl _), no6.len, c1a, c1b]
            exact hK3 q _ _ rfl rfl (by rw [hst]; exact w6)
          · simp (disch := omega) [hr6.idx1 rfl, hr6.int (View.le_refl _), no6.len, c1a]
            exact hK3 q _ _ rfl rfl (by rw [hst]; exact w6)
      · rintro q h6 w6
        simp
        rw [hy]; clear hy y
        simp (disch := omega)
        exact hK2 (f.blocks.length + 1 - (i + 1)) _ _ (by omega) ⟨i + 1, _, q, by omega, rfl, by simp [keepE], w6, rchUp_ok hok _, by rw [show f.blocks.length + 1 - (i + 1) = f.blocks.length - i by omega]; exact hfin⟩
    · have hlt' : ¬ (i : Int) < s.2.length := by omega
      simp (disch := omega) [L.ref03_Reached.l1, nq.len, hlt]
      rw [hz]; clear hz z
      simp
      have hs1 : s.1 = reachedS f wo := by
        rw [← hfin]
        cases f.blocks.length + 1 - i with
        | zero => rfl
        | succ m => rw [rchS, if_neg hlt]
      have ow := w5.get (k := (0, 0)) (v := vo) (l := s.1) rfl
      refine hK _ _ ⟨View.le_trans hle1 w5.wle, ?_⟩
      rw [← hs1]
      have ow' : OwnT nothing h5 T.bool vo s.1 := ow
      refine ow'.fresh (fun _ _ h => by cases h) fun b hb => ?_
      rw [hb2] at hb; cases hb
      exact View.none_of_ge (View.le_refl _) (by omega)
  by_cases c1 : wo = 0
  · have hr0 : rch0 f wo = (List.replicate f.blocks.length false, []) := by rw [rch0, if_neg (fun e => e.1 c1)]
    rw [hr0] at fin
    simp [cc3, cb3.len, c1]
    rw [c1] at fin
    exact fin _ _ _ w3
  · by_cases c2 : 0 < f.blocks.length
    · have hr0 : rch0 f wo = ((List.replicate f.blocks.length false).set 0 true, [0]) := by rw [rch0, if_pos ⟨c1, c2⟩]
      rw [hr0] at fin
      have no := w3.now (k := (0, 0)) (v := vo) (l := List.replicate f.blocks.length false) rfl
      refine lwp_hide fun y hy => ?_
      simp (disch := omega) [cc3, cb3.len, c1, c2]
      rw [hy]; clear hy y
      have i0 : Bn.ev (.idx 1) vo (.int .i64 0) = some (.pointer (some ((slA vo).add 0))) := no.idx1 rfl (by omega) (by simpa using c2)
      simp (disch := omega) [i0]
      refine w3.do_put (k := (0, 0)) (α := Bool) (l := List.replicate f.blocks.length false) (v := vo) (i := 0) (d := true) rfl (by kernel_rfl) (by simp [show Rep.n Bool = 1 from rfl]) (by simp <;> rfl) (by simpa using c2) rd_b fun h4 w4 hs4 => ?_
      refine w4.do_push (k := (0, 1)) (α := Int) (v := vq) (l := []) (d := 0) rfl El.s_int (by simp <;> rfl) (rd_i (by omega) (by omega)) (by simp) (by simp) (fun _ => by simp) (fun _ => by simp) fun u q5 h5 w5 hs5 => ?_
      refine fin _ _ _ (w5.congr fun q => ?_)
      unfold rchOwn Own.upd
      repeat' split
      all_goals first | rfl | simp_all
    · have hr0 : rch0 f wo = (List.replicate f.blocks.length false, []) := by rw [rch0, if_neg (fun e => c2 e.2)]
      rw [hr0] at fin
      simp [cc3, cb3.len, c1, c2]
      exact fin _ _ _ w3
end Go.Proofs.Ytfelpjfopgiabaa

/- The document's answer: things. -/
namespace Go.Proofs.Ytfelpjfopgiabaa
open Go Go.Lft
set_option linter.unusedSimpArgs false
set_option linter.unusedVariables false

instance : Rep Th := Rep.via fun d => Cat.mk d.blk (Cat.mk d.place (Cat.mk d.mks d.tks))
theorem Th.p_blk : Part Th Int 0 Th.blk (fun d x => { d with blk := x }) := (Part.fst Part.all).via (fun _ => rfl) fun _ _ => rfl
theorem Th.p_place : Part Th Int 1 Th.place (fun d x => { d with place := x }) := (Part.snd (Part.fst Part.all)).via (fun _ => rfl) fun _ _ => rfl
theorem Th.p_mks : Part Th (List Int) 2 Th.mks (fun d x => { d with mks := x }) := (Part.snd (Part.snd (Part.fst Part.all))).via (fun _ => rfl) fun _ _ => rfl
theorem Th.p_tks : Part Th (List Int) 3 Th.tks (fun d x => { d with tks := x }) := (Part.snd (Part.snd (Part.snd Part.all))).via (fun _ => rfl) fun _ _ => rfl
structure ThR where
  blk : Int
  place : Int
  mks : List Int
  tks : Raw
instance : Rep ThR := Rep.via fun d => Cat.mk d.blk (Cat.mk d.place (Cat.mk d.mks d.tks))
theorem ThR.p_tks : Part ThR Raw 3 ThR.tks (fun d x => { d with tks := x }) := (Part.snd (Part.snd (Part.snd Part.all))).via (fun _ => rfl) fun _ _ => rfl

theorem rd_th {H : View} {a b : Int} {u q : Value} {m t : List Int} (ha : I64 a) (hb : I64 b) (hm : SlRd H u m) (ht : SlRd H q t) : Rd H (.agg #[.int .i64 a, .int .i64 b, u, q]) (Th.mk a b m t) :=
  ⟨_, rfl, [.int .i64 a], [.int .i64 b, u, q], rfl, ⟨rfl, ha⟩, [.int .i64 b], [u, q], rfl, ⟨rfl, hb⟩, [u], [q], rfl, ⟨u, rfl, hm⟩, ⟨q, rfl, ht⟩⟩
theorem rd_thR {H : View} {a b : Int} {u q : Value} {m : List Int} (ha : I64 a) (hb : I64 b) (hm : SlRd H u m) (hq : q.oneCell' = true) : Rd H (.agg #[.int .i64 a, .int .i64 b, u, q]) (ThR.mk a b m ⟨q⟩) :=
  ⟨_, rfl, [.int .i64 a], [.int .i64 b, u, q], rfl, ⟨rfl, ha⟩, [.int .i64 b], [u, q], rfl, ⟨rfl, hb⟩, [u], [q], rfl, ⟨u, rfl, hm⟩, ⟨rfl, hq⟩⟩
theorem thR_cells {H : View} {cs : List Value} {d : ThR} (h : Rep.rd H cs d) : ∃ u, cs = [.int .i64 d.blk, .int .i64 d.place, u, d.tks.v] ∧ I64 d.blk ∧ I64 d.place ∧ SlRd H u d.mks := by
  obtain ⟨c1, r1, rfl, ⟨rfl, h1⟩, c2, r2, rfl, ⟨rfl, h2⟩, c3, r3, rfl, ⟨u, rfl, h3⟩, rfl, _⟩ := h
  exact ⟨u, rfl, h1, h2, h3⟩

def outOwn (vo : Value) (l : List Th) : Own := fun k => if k = (0, 0) then it T.ref03_Thing vo l else none
def outOwn3 (vo : Value) (l : List Th) (D : Nat) (d : ThR) (q : Value) (t : List Int) : Own := fun k => if k = (0, 0) then it T.ref03_Thing vo l else if k = (1, 0) then bx T.ref03_Thing D d else if k = (1, 1) then it T.int q t else none
/-- The row of things, as it grows. -/
structure ThS (V : View) (h0 : Heap) (vo : Value) (l : List Th) (W : View) (h : Heap) : Prop where
  own : Owns W h (outOwn vo l)
  old : Old V h0 W
  le : (vw h0).le (vw h)
  av : Av (vw h0) vo
theorem ThS.ext {V : View} {h0 : Heap} {vo : Value} {l : List Th} {W : View} {h h' : Heap} (k : ThS V h0 vo l W h) (hle : (vw h).le (vw h')) : ThS V h0 vo l (grow W h h') h' :=
  ⟨k.own.ext hle, k.old.grow (ext_size k.le), View.le_trans k.le hle, k.av⟩

theorem do_thing {po : OP} {ty : TypeId} {us : List (Nat × Value)} {h : Heap} {K : Value → Heap → Prop} {x y z w : Operand} {a b : Int} {u q : Value} (hx : asg us x = .int .i64 a) (hy : asg us y = .int .i64 b) (hz : asg us z = u) (hw : asg us w = q) (hu : u.cells = #[u]) (hq : q.cells = #[q]) (hk : K (.agg #[.int .i64 a, .int .i64 b, u, q]) h) :
    Lft.step Try.prog (.build T.ref03_Thing #[(0, x), (1, y), (2, z), (3, w)]) ty us h K :=
  do_build (z := .agg #[.int .i64 0, .int .i64 0, .slice none 0 0, .slice none 0 0]) (places := [(0, 1), (1, 1), (2, 1), (3, 1)]) (vs := [(0, .int .i64 a), (1, .int .i64 b), (2, u), (3, q)]) (cs := #[.int .i64 a, .int .i64 b, u, q]) (by kernel_rfl) (by kernel_rfl) (by simp [hx, hy, hz, hw])
    (by simp [Instr.fill, hu, hq]) hk
theorem do_thing2 {po : OP} {ty : TypeId} {us : List (Nat × Value)} {h : Heap} {K : Value → Heap → Prop} {x y z : Operand} {a b : Int} {u : Value} (hx : asg us x = .int .i64 a) (hy : asg us y = .int .i64 b) (hz : asg us z = u) (hu : u.cells = #[u]) (hk : K (.agg #[.int .i64 a, .int .i64 b, u, .slice none 0 0]) h) :
    Lft.step Try.prog (.build T.ref03_Thing #[(0, x), (1, y), (2, z)]) ty us h K :=
  do_build (z := .agg #[.int .i64 0, .int .i64 0, .slice none 0 0, .slice none 0 0]) (places := [(0, 1), (1, 1), (2, 1), (3, 1)]) (vs := [(0, .int .i64 a), (1, .int .i64 b), (2, u)]) (cs := #[.int .i64 a, .int .i64 b, u, .slice none 0 0]) (by kernel_rfl) (by kernel_rfl) (by simp [hx, hy, hz])
    (by simp [Instr.fill, hu]) hk
theorem do_thing3 {po : OP} {ty : TypeId} {us : List (Nat × Value)} {h : Heap} {K : Value → Heap → Prop} {x y w : Operand} {a b : Int} {q : Value} (hx : asg us x = .int .i64 a) (hy : asg us y = .int .i64 b) (hw : asg us w = q) (hq : q.cells = #[q]) (hk : K (.agg #[.int .i64 a, .int .i64 b, .slice none 0 0, q]) h) :
    Lft.step Try.prog (.build T.ref03_Thing #[(0, x), (1, y), (3, w)]) ty us h K :=
  do_build (z := .agg #[.int .i64 0, .int .i64 0, .slice none 0 0, .slice none 0 0]) (places := [(0, 1), (1, 1), (2, 1), (3, 1)]) (vs := [(0, .int .i64 a), (1, .int .i64 b), (3, q)]) (cs := #[.int .i64 a, .int .i64 b, .slice none 0 0, q]) (by kernel_rfl) (by kernel_rfl) (by simp [hx, hy, hw])
    (by simp [Instr.fill, hq]) hk

theorem refThings_ok {f : FuncD} {v : Value} {V : View} {h : Heap} (hv : Rd V v f) (hV : V.le (vw h)) (hsm : SmF f) :
    HCalls Try.prog N.ref03_Things #[v] h (fun u h' => (vw h).le (vw h') ∧ SlRd (grow V h h') u (thingsS f)) := by
  refine calls_lift (args := [v]) follows F.ref03_Things E.ref03_Things (Nat.le_of_ble_eq_true (by kernel_rfl)) fun K hK => ?_
  have hn := hsm.len
  dsimp only [L.ref03_Things]
  refine lwp_hide fun z hz => ?_
  simp
  refine do_box (v := v) rfl ?_
  have hle1 := push_le h (.cells v.cells T.api_Func)
  have hat1 : At (grow V h (h.push (.cells v.cells T.api_Func))) ⟨h.size, 0, none⟩ f := at_new (t := T.api_Func) (fz := (0, 0)) (by rw [grow_new (Nat.le_refl _)]; simp) (hv.mono (le_grow hV))
  have hs1 : (h.push (.cells v.cells T.api_Func)).size = h.size + 1 := by simp
  generalize h.push (.cells v.cells T.api_Func) = h1 at hle1 hat1 hs1
  have hW1 : (grow V h h1).le (vw h1) := grow_le (View.le_trans hV hle1)
  have old1 : Old V h (grow V h h1) := (Old.refl V h).grow (Nat.le_refl _)
  obtain ⟨_, vb, cb⟩ := at_funcB hat1
  generalize grow V h h1 = W1 at cb hW1 old1
  generalize h.size = B at cb
  rw [hz]; clear hz z
  refine lwp_hide fun z hz => ?_
  simp
  refine do_lit0 (α := Th) El.s_ref03_Thing fun h2 hle2 hsz2 own2 => ?_
  have t2 : ThS V h (.slice (some ⟨h1.size, 0, none⟩) 0 0) [] W1 h2 := ⟨((Owns.start hW1).add (k := (0, 0)) rfl (own2 _) hle2 (fun b hb => by simp only [Value.ownBlock, Option.some.injEq] at hb; omega)).congr fun q => by
      unfold outOwn Own.upd
      repeat' split
      all_goals first | rfl | simp_all, old1, View.le_trans hle1 hle2, fun b hb => by cases hb; exact View.none_of_ge (View.le_refl _) (by show h.size ≤ h1.size; omega)⟩
  generalize Value.slice (some ⟨h1.size, 0, none⟩) 0 0 = v0 at t2
  rw [hz]; clear hz z
  refine lwp_hide fun z hz => ?_
  simp
  refine lwp_for [1, 3, 4] (fun (r : Value) b => [.pointer (some ⟨B, 0, none⟩), r, .int .i64 b]) (fun r b h3 => ∃ W, W1.le W ∧ ThS V h r (thTo f b) W h3) f.blocks.length v0
    rfl (by omega) rfl ⟨W1, View.le_refl _, t2⟩ (fun _ _ => rfl) (fun v k h3 hk ⟨W, q1, q2⟩ => by simp [cellH_mono (View.le_trans q1 q2.own.wle) cb.1, (cb.2.mono (View.le_trans q1 q2.own.wle)).len]) ?_ ?_
  · rintro r b h3 hltb ⟨W3, hW3, t3⟩ K2 hK2
    have hl3 := thTo_len hsm (n := b) (by omega)
    have cb3 := cb.2.mono (View.le_trans hW3 t3.own.wle)
    have cc3 := cellH_mono (View.le_trans hW3 t3.own.wle) cb.1
    obtain ⟨u, hu, hur⟩ := (cb.2.mono hW3).wh rfl (N := 6) rfl hltb
    have sb := hsm.blk b hltb
    refine lwp_hide fun y hy => ?_
    simp (disch := omega) [cc3, cb3.idxn (N := 6) rfl, hu _ t3.own.wle]
    refine do_newX (X := W3) (z := .agg #[.slice none 0 0, .slice none 0 0, .int .i64 0, .slice none 0 0, .slice none 0 0, .int .i32 0]) (by kernel_rfl) rfl (by kernel_rfl) hur (fun _ => by simp) (fun _ => by simp) fun h4 hle4 hsz4 hat4 => ?_
    have t4 := t3.ext hle4
    have hat4' := hat4 (grow W3 h3 h4) (le_grow t3.own.wle) (grow_new (Nat.le_refl _))
    obtain ⟨vp, vi, va, vt, bp, bi, bk, ba, bt⟩ := at_blkB hat4'
    have hW4 := View.le_trans hW3 (le_grow (h' := h4) t3.own.wle)
    generalize grow W3 h3 h4 = W4 at t4 bp bi bk ba bt hW4
    generalize h3.size = D at bp bi bk ba bt
    rw [hy]; clear hy y
    refine lwp_hide fun y hy => ?_
    simp
    have sp := sb.phis
    refine lwp_for [1, 3, 4, 5, 6] (fun (r : Value) i => [.pointer (some ⟨B, 0, none⟩), r, .int .i64 b, .pointer (some ⟨D, 0, none⟩), .int .i64 i]) (fun r i h5 => ∃ W, W4.le W ∧ ThS V h r (thTo f b ++ rows (phiT f b) i) W h5) (nth f.blocks b).phis.length r
      rfl (by omega) rfl ⟨W4, View.le_refl _, by simpa using t4⟩ (fun _ _ => rfl) (fun v k h3 hk ⟨W, q1, q2⟩ => by simp [cellH_mono (View.le_trans q1 q2.own.wle) bp.1, (bp.2.mono (View.le_trans q1 q2.own.wle)).len]) ?_ ?_
    · rintro r i h5 hlti ⟨W5, hW5, t5⟩ K3 hK3
      have bp5 := bp.2.mono hW5
      have bph := bp5.mono t5.own.wle
      have cph := cellH_mono (View.le_trans hW5 t5.own.wle) bp.1
      have hap := (bp5.at hlti)
      rw [← nth_eq hlti] at hap
      have hdst : cellH W5 (((slA vp).add (i * 2)).add 0) = some (.int .i64 (nth (nth f.blocks b).phis i).dst) := (hap.part PhiD.p_dst).int
      have hdr := (hap.part PhiD.p_dst).rng
      obtain ⟨vq, hvq⟩ := (hap.part PhiD.p_ins).sl
      have hvq1 : cellH W5 (((slA vp).add (i * 2)).add 1) = some vq := hvq.1
      have hvq2 := hvq.2
      have hpl := sb.phi i hlti
      have hpt : phiT f b i = ⟨b, -1 - i, [(nth (nth f.blocks b).phis i).dst], (nth (nth f.blocks b).phis i).ins.map InD.val⟩ := rfl
      generalize nth (nth f.blocks b).phis i = x at hdst hdr hvq2 hpl hpt
      refine lwp_hide fun q hq => ?_
      simp (disch := omega) [cph, bph.idxn (N := 2) rfl, cellH_mono t5.own.wle hdst]
      refine do_litN (X := nothing) (ds := [x.dst]) (vs := [.int .i64 x.dst]) rfl El.s_int (by simp) ⟨rd_int.2 ⟨rfl, hdr⟩, trivial⟩ nothing_le rfl (by omega) fun u6 h6 hle6 hsz6 hu6 hub6 => ?_
      have hu6n := hu6 (vw h6) nothing_le rfl
      refine do_thing2 rfl rfl rfl hu6n.cells.1 ?_
      simp
      refine do_newV (n := 4) (v := .agg #[.int .i64 b, .int .i64 (-1 - i), u6, .slice none 0 0]) (z := .agg #[.int .i64 0, .int .i64 0, .slice none 0 0, .slice none 0 0]) (by kernel_rfl) rfl (by kernel_rfl) rfl (by intro c hc; simp at hc; rcases hc with rfl | rfl | rfl | rfl <;> first | rfl | exact hu6n.cells.2) (fun _ => by simp) (fun _ => by simp) fun h7 hle7 hsz7 hb7 => ?_
      have w6 := t5.own.ext hle6
      have w7 := (w6.add (k := (1, 0)) rfl (ownT_box (h := h7) (d := ThR.mk b (-1 - i) [x.dst] ⟨.slice none 0 0⟩) hb7 (rd_thR ⟨by omega, by omega⟩ ⟨by omega, by omega⟩ (hu6 _ nothing_le (grow_new (Nat.le_refl _))) rfl) (by decide)) hle7 (fun b hb => by simp only [Value.ownBlock, Option.some.injEq] at hb; omega)).add (k := (1, 1)) rfl (OwnT.nil (α := Int) _ h7 T.int) (View.le_refl _) (fun b hb => by simp [Value.ownBlock] at hb)
      have w7 : Owns (grow W5 h5 h6) h7 (outOwn3 r (thTo f b ++ rows (phiT f b) i) h6.size (ThR.mk b (-1 - i) [x.dst] ⟨.slice none 0 0⟩) (.slice none 0 0) []) := w7.congr fun q => by
        unfold outOwn3 outOwn Own.upd
        repeat' split
        all_goals first | rfl | simp_all
      have hW7 := View.le_trans hW5 (le_grow (h' := h6) t5.own.wle)
      have old7 := t5.old.grow (h1 := h5) (h2 := h6) (ext_size t5.le)
      have hle07 := View.le_trans t5.le (View.le_trans hle6 hle7)
      have hvq7 := hvq2.mono (le_grow (h' := h6) t5.own.wle)
      have cvq7 := cellH_mono (le_grow (h' := h6) t5.own.wle) hvq1
      generalize grow W5 h5 h6 = W7 at w7 hW7 old7 hvq7 cvq7
      have hD7 : h.size ≤ h6.size := Nat.le_trans (ext_size t5.le) (ext_size hle6)
      generalize h6.size = D7 at w7 hD7
      rw [hq]; clear hq q
      refine lwp_hide fun q hq => ?_
      simp
      refine lwp_for [1, 3, 4, 5, 6, 7, 8] (fun (q : Value) j => [.pointer (some ⟨B, 0, none⟩), r, .int .i64 b, .pointer (some ⟨D, 0, none⟩), .int .i64 i, .pointer (some ⟨D7, 0, none⟩), .int .i64 j])
        (fun q j h8 => Owns W7 h8 (outOwn3 r (thTo f b ++ rows (phiT f b) i) D7 (ThR.mk b (-1 - i) [x.dst] ⟨q⟩) q ((x.ins.map InD.val).take j)) ∧ (vw h).le (vw h8) ∧ Av (vw h) q) x.ins.length (.slice none 0 0)
        rfl (by omega) rfl ⟨w7, hle07, Av.nil _ _ _⟩ (fun _ _ => rfl) (fun v k h8 hk ⟨w8, q2⟩ => by
          have bp8 := (bp.2.mono hW7).mono w8.wle
          simp (disch := omega) [cellH_mono (View.le_trans hW7 w8.wle) bp.1, bp8.idxn (N := 2) rfl, cellH_mono w8.wle cvq7, (hvq7.mono w8.wle).len]) ?_ ?_
      · rintro q8 j h8 hltj ⟨w8, hle08, av8⟩ K4 hK4
        have bp8 := (bp.2.mono hW7).mono w8.wle
        have hv8 := hvq7.mono w8.wle
        have hai := (hvq7.at hltj)
        rw [← nth_eq hltj] at hai
        have hval : cellH W7 (((slA vq).add (j * 2)).add 1) = some (.int .i64 (nth x.ins j).val) := (hai.part InD.p_val).int
        have hvr := (hai.part InD.p_val).rng
        have hl8 : ((x.ins.map InD.val).take j).length = j := by simp; omega
        have htk : (x.ins.map InD.val).take (j + 1) = (x.ins.map InD.val).take j ++ [(nth x.ins j).val] := by
          rw [List.take_add_one, List.getElem?_map, List.getElem?_eq_getElem hltj, nth_eq hltj]; rfl
        have hq8 : cellH (vw h8) ⟨D7, 3, none⟩ = some q8 := by
          have := ((w8.at (k := (1, 0)) (e := T.ref03_Thing) (B := D7) (d := ThR.mk b (-1 - i) [x.dst] ⟨q8⟩) rfl).part ThR.p_tks).raw
          simpa using this
        refine drawn_at (vw h8) (View.le_refl _) ?_
        simp (disch := omega) [hq8, cellH_mono (View.le_trans hW7 w8.wle) bp.1, bp8.idxn (N := 2) rfl, cellH_mono w8.wle cvq7, hv8.idxn (N := 2) rfl, cellH_mono w8.wle hval]
        refine do_one (α := Int) (W := W7) El.s_int rfl (rd_int.2 ⟨rfl, hvr⟩) fun u9 h9 hs9 hle9 hsz9 => ⟨hle9, ?_⟩
        refine (w8.ext' hle9).do_append (k := (1, 1)) (α := Int) (v := q8) (l := (x.ins.map InD.val).take j) rfl El.s_int rfl rfl hs9 (by simp; omega) (by simp; omega) fun q10 h10 w10 m10 => ?_
        have hc10 := w10.cells (k := (1, 1)) (Own.upd_self)
        obtain ⟨hX10, av10⟩ := m10.view (View.le_trans hle08 hle9) av8
        refine w10.do_fieldM (k := (1, 0)) (e := T.ref03_Thing) (B := D7) (D := ThR.mk b (-1 - i) [x.dst] ⟨q8⟩) ThR.p_tks (d := ⟨q10⟩) rfl (by kernel_rfl) rfl rfl (rd_raw.2 ⟨rfl, hc10.2⟩) fun h11 w11 hX11 => ?_
        refine hK4 q10 _ _ rfl rfl ⟨w11.congr fun p => ?_, hX11 _ hX10 (View.none_of_ge (View.le_refl _) hD7), av10⟩
        rw [htk]
        unfold outOwn3 Own.upd
        repeat' split
        all_goals first | rfl | simp_all
      · rintro q8 h8 ⟨w8, hle08, av8⟩
        rw [List.take_of_length_le (by simp)] at w8
        simp
        rw [hq]; clear hq q
        -- what the thing takes is written no more
        obtain ⟨cs, hcs, hrd⟩ := w8.atW (k := (1, 0)) (e := T.ref03_Thing) (B := D7) (d := ThR.mk b (-1 - i) [x.dst] ⟨q8⟩) rfl
        obtain ⟨u9, rfl, i1, i2, hu9⟩ := thR_cells hrd
        obtain ⟨w9, hq9⟩ := w8.freeze (k := (1, 1)) (v := q8) (l := x.ins.map InD.val) rfl
        have hpl9 : W7.le (W7.plus q8 h8) := le_plus (w8.av (1, 1) _ rfl)
        have hload : Un.ev (vw h8) (.loads 4) (.pointer (some ⟨D7, 0, none⟩)) = some (.agg #[.int .i64 b, .int .i64 (-1 - i), u9, q8]) := by
          have := cellsFrom_at hcs 4 0 #[] (by rfl)
          simp [Un.ev, vP, this]
        have hold9 : Old V h (W7.plus q8 h8) := fun c o hc hco => by
          unfold View.plus at hco
          split at hco
          · rename_i e
            have := av8 c e
            simp only [vw] at this
            rw [Array.getElem?_eq_getElem hc] at this; cases this
          · exact old7 c o hc hco
        have w9 : Owns (W7.plus q8 h8) h8 (outOwn r (thTo f b ++ rows (phiT f b) i)) := w9.sub fun p x hp => by
          unfold outOwn at hp
          split at hp
          · rename_i e; subst e; exact hp
          · cases hp
        have hlr : (thTo f b ++ rows (phiT f b) i).length = (thTo f b).length + i := by simp
        simp [hload]
        refine w9.do_pushM (k := (0, 0)) (α := Th) (v := r) (l := thTo f b ++ rows (phiT f b) i) (d := phiT f b i) rfl El.s_ref03_Thing rfl (by rw [hpt]; exact rd_th i1 i2 (hu9.mono hpl9) hq9) (by omega) (by omega) (fun _ => rfl) (fun _ => rfl) fun u10 r10 h10 w10 hX10 => ?_
        obtain ⟨g1, g2⟩ := hX10 _ hle08 t5.av
        refine hK3 r10 _ _ rfl rfl ⟨W7.plus q8 h8, View.le_trans hW7 hpl9, ⟨w10.congr fun p => ?_, hold9, g1, g2⟩⟩
        rw [rows_succ, ← List.append_assoc]
        unfold outOwn Own.upd
        repeat' split
        all_goals first | rfl | simp_all
    · rintro r h5 ⟨W5, hW5, t5⟩
      simp
      rw [hy]; clear hy y
      refine lwp_hide fun y hy => ?_
      simp
      have si := sb.ins
      refine lwp_for [1, 3, 4, 5, 9] (fun (r : Value) i => [.pointer (some ⟨B, 0, none⟩), r, .int .i64 b, .pointer (some ⟨D, 0, none⟩), .int .i64 i]) (fun r i h6 => ∃ W, W4.le W ∧ ThS V h r (thTo f b ++ rows (phiT f b) (nth f.blocks b).phis.length ++ rows (insT f b) i) W h6) (nth f.blocks b).ins.length r
        rfl (by omega) rfl ⟨W5, hW5, by simpa using t5⟩ (fun _ _ => rfl) (fun v k h3 hk ⟨W, q1, q2⟩ => by simp [cellH_mono (View.le_trans q1 q2.own.wle) bi.1, (bi.2.mono (View.le_trans q1 q2.own.wle)).len]) ?_ ?_
      · rintro r i h6 hlti ⟨W6, hW6, t6⟩ K3 hK3
        have bi6 := bi.2.mono hW6
        have bih := bi6.mono t6.own.wle
        have cih := cellH_mono (View.le_trans hW6 t6.own.wle) bi.1
        obtain ⟨ux, hux, huxr⟩ := bi6.wh rfl (N := 5) rfl hlti
        have hap := (bi6.at hlti)
        rw [← nth_eq hlti] at hap
        obtain ⟨vq, hvq⟩ := (hap.part InsD.p_args).sl
        have hvq1 : cellH W6 (((slA vi).add (i * 5)).add 3) = some vq := hvq.1
        have hvq2 := hvq.2
        have hpt : insT f b i = ⟨b, i, makesS (nth (nth f.blocks b).ins i), (nth (nth f.blocks b).ins i).args⟩ := rfl
        generalize nth (nth f.blocks b).ins i = x at hvq2 huxr hpt
        have hlr : (thTo f b ++ rows (phiT f b) (nth f.blocks b).phis.length ++ rows (insT f b) i).length = (thTo f b).length + (nth f.blocks b).phis.length + i := by simp; omega
        refine drawn_at (vw h6) (View.le_refl _) ?_
        simp (disch := omega) [cih, bih.idxn (N := 5) rfl, hux _ t6.own.wle, cellH_mono t6.own.wle hvq1]
        refine call_to (by kernel_rfl) (refMakes_ok (huxr.mono t6.own.wle)) ?_
        rintro u7 h7 ⟨hle7, hu7, _⟩
        refine ⟨hle7, ?_⟩
        have t7 := t6.ext hle7
        have hu7' := hu7.mono (fresh_grow W6 h6 h7)
        have hvq7 := hvq2.mono (le_grow (h' := h7) t6.own.wle)
        refine do_thing rfl rfl rfl rfl hu7.cells.1 hvq2.cells.1 ?_
        simp
        refine t7.own.do_pushM (k := (0, 0)) (α := Th) (v := r) (l := thTo f b ++ rows (phiT f b) (nth f.blocks b).phis.length ++ rows (insT f b) i) (d := insT f b i) rfl El.s_ref03_Thing rfl (by rw [hpt]; exact rd_th ⟨by omega, by omega⟩ ⟨by omega, by omega⟩ hu7' hvq7) (by omega) (by omega) (fun _ => rfl) (fun _ => rfl) fun u10 r10 h10 w10 hX10 => ?_
        obtain ⟨g1, g2⟩ := hX10 _ t7.le t7.av
        refine hK3 r10 _ _ rfl rfl ⟨_, View.le_trans hW6 (le_grow (h' := h7) t6.own.wle), ⟨w10.congr fun p => ?_, t7.old, g1, g2⟩⟩
        rw [rows_succ, ← List.append_assoc]
        unfold outOwn Own.upd
        repeat' split
        all_goals first | rfl | simp_all
      · rintro r h6 ⟨W6, hW6, t6⟩
        simp
        rw [hy]; clear hy y
        have hW6h := View.le_trans hW6 t6.own.wle
        have bih := bi.2.mono hW6h
        have cih := cellH_mono hW6h bi.1
        have hlr : (thTo f b ++ rows (phiT f b) (nth f.blocks b).phis.length ++ rows (insT f b) (nth f.blocks b).ins.length).length = (thTo f b).length + (nth f.blocks b).phis.length + (nth f.blocks b).ins.length := by simp; omega
        simp [cih, bih.len, cellH_mono hW6h ba.1]
        refine do_thing3 rfl rfl rfl (ba.2.cells.1) ?_
        simp
        refine t6.own.do_pushM (k := (0, 0)) (α := Th) (v := r) (l := thTo f b ++ rows (phiT f b) (nth f.blocks b).phis.length ++ rows (insT f b) (nth f.blocks b).ins.length) (d := endT f b) rfl El.s_ref03_Thing rfl (rd_th ⟨by omega, by omega⟩ ⟨by omega, by omega⟩ nil_sl (ba.2.mono hW6)) (by omega) (by omega) (fun _ => rfl) (fun _ => rfl) fun u10 r10 h10 w10 hX10 => ?_
        obtain ⟨g1, g2⟩ := hX10 _ t6.le t6.av
        refine hK2 r10 _ _ rfl rfl ⟨_, View.le_trans hW4 hW6, ⟨w10.congr fun p => ?_, t6.old, g1, g2⟩⟩
        have e : thTo f (b + 1) = thTo f b ++ rows (phiT f b) (nth f.blocks b).phis.length ++ rows (insT f b) (nth f.blocks b).ins.length ++ [endT f b] := by
          rw [thTo_succ, thB]; simp [List.append_assoc]
        rw [e]
        unfold outOwn Own.upd
        repeat' split
        all_goals first | rfl | simp_all
  · rintro r h3 ⟨W3, hW3, t3⟩
    simp
    rw [hz]; clear hz z
    simp
    exact hK _ _ ⟨t3.le, (t3.own.get (k := (0, 0)) (v := r) (l := thTo f f.blocks.length) rfl).rd (t3.old.le t3.own.wle) fun b hb => by
      have := t3.av b hb
      rw [grow_new]
      rcases Nat.lt_or_ge b h.size with hlt | hge
      · simp [vw, hlt] at this
      · exact hge⟩
end Go.Proofs.Ytfelpjfopgiabaa

/- The document's answer: shapes. -/
namespace Go.Proofs.Ytfelpjfopgiabaa
open Go Go.Lft
set_option linter.unusedSimpArgs false
set_option linter.unusedVariables false

structure GotD where
  e : Int
  b : Int
  p : Int
instance : Rep GotD := Rep.via fun d => Cat.mk d.e (Cat.mk d.b d.p)
def gotV (t : Tr) : Value := .agg #[.int .i64 t.1, .int .i64 t.2.1, .int .i64 t.2.2]
def gotD (t : Tr) : GotD := ⟨t.1, t.2.1, t.2.2⟩
theorem rd_got {H : View} {t : Tr} (h1 : I64 t.1) (h2 : I64 t.2.1) (h3 : I64 t.2.2) : Rd H (gotV t) (gotD t) :=
  ⟨_, rfl, [.int .i64 t.1], [.int .i64 t.2.1, .int .i64 t.2.2], rfl, ⟨rfl, h1⟩, [.int .i64 t.2.1], [.int .i64 t.2.2], rfl, ⟨rfl, h2⟩, rfl, h3⟩
theorem got_cells {H : View} {cs : List Value} {d : GotD} (h : Rep.rd H cs d) : cs = [.int .i64 d.e, .int .i64 d.b, .int .i64 d.p] := by
  obtain ⟨c1, r1, rfl, ⟨rfl, _⟩, c2, r2, rfl, ⟨rfl, _⟩, rfl, _⟩ := h
  rfl
theorem got_load {W : View} {h : Heap} {o : Own} {k : Key} {e : TypeId} {B : Nat} {t : Tr} (w : Owns W h o) (hk : o k = bx e B (gotD t)) : Un.ev (vw h) (.loads 3) (.pointer (some ⟨B, 0, none⟩)) = some (gotV t) := by
  obtain ⟨cs, hcs, hrd⟩ := w.atW hk
  have := got_cells hrd
  subst this
  have := cellsFrom_at hcs 3 0 #[] (by rfl)
  simp [Un.ev, vP, this, gotV, gotD]
theorem do_got {po : OP} {ty : TypeId} {us : List (Nat × Value)} {h : Heap} {K : Value → Heap → Prop} {x y z : Operand} {t : Tr} (hx : asg us x = .int .i64 t.1) (hy : asg us y = .int .i64 t.2.1) (hz : asg us z = .int .i64 t.2.2) (hk : K (gotV t) h) :
    Lft.step Try.prog (.build T.ref03_Got #[(0, x), (1, y), (2, z)]) ty us h K :=
  do_build (z := .agg #[.int .i64 0, .int .i64 0, .int .i64 0]) (places := [(0, 1), (1, 1), (2, 1)]) (vs := [(0, .int .i64 t.1), (1, .int .i64 t.2.1), (2, .int .i64 t.2.2)]) (cs := #[.int .i64 t.1, .int .i64 t.2.1, .int .i64 t.2.2]) (by kernel_rfl) (by kernel_rfl) (by simp [hx, hy, hz]) (by rfl) hk
theorem do_got0 {po : OP} {ty : TypeId} {us : List (Nat × Value)} {h : Heap} {K : Value → Heap → Prop} (hk : K (gotV (0, 0, 0)) h) : Lft.step Try.prog (.build T.ref03_Got #[]) ty us h K :=
  do_build (z := .agg #[.int .i64 0, .int .i64 0, .int .i64 0]) (places := [(0, 1), (1, 1), (2, 1)]) (vs := []) (cs := #[.int .i64 0, .int .i64 0, .int .i64 0]) (by kernel_rfl) (by kernel_rfl) (by simp) (by rfl) hk
theorem do_got1 {po : OP} {ty : TypeId} {us : List (Nat × Value)} {h : Heap} {K : Value → Heap → Prop} {e : Int} (hk : K (gotV (e, 0, 0)) h) : Lft.step Try.prog (.build T.ref03_Got #[(0, .const (.int .i64 e))]) ty us h K :=
  do_build (z := .agg #[.int .i64 0, .int .i64 0, .int .i64 0]) (places := [(0, 1), (1, 1), (2, 1)]) (vs := [(0, .int .i64 e)]) (cs := #[.int .i64 e, .int .i64 0, .int .i64 0]) (by kernel_rfl) (by kernel_rfl) (by simp) (by rfl) hk
theorem do_got2 {po : OP} {ty : TypeId} {us : List (Nat × Value)} {h : Heap} {K : Value → Heap → Prop} {x : Operand} {e b : Int} (hx : asg us x = .int .i64 b) (hk : K (gotV (e, b, 0)) h) : Lft.step Try.prog (.build T.ref03_Got #[(0, .const (.int .i64 e)), (1, x)]) ty us h K :=
  do_build (z := .agg #[.int .i64 0, .int .i64 0, .int .i64 0]) (places := [(0, 1), (1, 1), (2, 1)]) (vs := [(0, .int .i64 e), (1, .int .i64 b)]) (cs := #[.int .i64 e, .int .i64 b, .int .i64 0]) (by kernel_rfl) (by kernel_rfl) (by simp [hx]) (by rfl) hk

theorem at_thB {H : View} {B : Nat} {d : Th} (h : At H ⟨B, 0, none⟩ d) : cellH H ⟨B, 0, none⟩ = some (.int .i64 d.blk) ∧ cellH H ⟨B, 1, none⟩ = some (.int .i64 d.place) ∧ (∃ v, Sl H ⟨B, 2, none⟩ v d.mks) ∧ ∃ v, Sl H ⟨B, 3, none⟩ v d.tks := by
  obtain ⟨v, hv⟩ := (h.part Th.p_mks).sl
  obtain ⟨u, hu⟩ := (h.part Th.p_tks).sl
  exact ⟨by simpa using (h.part Th.p_blk).int, by simpa using (h.part Th.p_place).int, ⟨v, by simpa using hv⟩, u, by simpa using hu⟩

/-! ### The plain answer -/
abbrev BL := List Bool
def mkdStep (t : Th) (j : Nat) (m : BL) : Except Tr BL := if nth m (nth t.mks j).toNat then .error (12, t.blk, t.place) else .ok (m.set (nth t.mks j).toNat true)
def blkOf (f : FuncD) (t : Th) : BlkD := nth f.blocks t.blk.toNat
def insOf (f : FuncD) (t : Th) : InsD := nth (blkOf f t).ins t.place.toNat
def isIns (f : FuncD) (t : Th) : Bool := decide (0 ≤ t.place) && decide (t.place < (blkOf f t).ins.length)
def isLast (f : FuncD) (t : Th) : Bool := decide (t.place = (blkOf f t).ins.length)
def opBad (s : InsD) : Bool := decide (s.op < 1) || decide (18 < s.op) || !countsS s.op s.args.length
def numBad (f : FuncD) (n : Int) : Bool := decide (n < f.params) || decide (8191 < n)
def toBad (f : FuncD) (n : Int) : Bool := decide (n < 1) || decide ((f.blocks.length : Int) ≤ n)
def afterMk (f : FuncD) (t : Th) : Except Tr BL → Except Tr BL
  | .error e => .error e
  | .ok m' => if isLast f t && (blkOf f t).term.to.any (toBad f) then .error (14, t.blk, t.place) else .ok m'
def thShape (f : FuncD) (t : Th) (m : BL) : Except Tr BL :=
  if isIns f t && opBad (insOf f t) then .error (10, t.blk, t.place)
  else if isLast f t && !termS (blkOf f t).term then .error (10, t.blk, t.place)
  else if t.mks.any (numBad f) then .error (11, t.blk, t.place)
  else afterMk f t (upE (mkdStep t) t.mks.length m)
def refShapeS (f : FuncD) : Except Tr BL := upE (fun i m => thShape f (nth (thingsS f) i) m) (thingsS f).length (List.replicate 8192 false)
def errOf {α : Type} : Except Tr α → Tr | .ok _ => (0, 0, 0) | .error t => t

theorem thShape_len {f : FuncD} {t : Th} {m m' : BL} (h : thShape f t m = .ok m') : m'.length = m.length := by
  unfold thShape at h
  split at h
  · cases h
  · split at h
    · cases h
    · split at h
      · cases h
      · unfold afterMk at h
        split at h
        · cases h
        · rename_i m1 hm1
          have key : ∀ n s, upE (mkdStep t) n m = .ok s → s.length = m.length := by
            intro n
            induction n with
            | zero => intro s hs; cases hs; rfl
            | succ n ih =>
              intro s hs
              simp only [upE] at hs
              split at hs
              · rename_i s1 hs1
                have := ih s1 hs1
                unfold mkdStep at hs
                split at hs
                · cases hs
                · cases hs; simpa using this
              · cases hs
          split at h
          · cases h
          · cases h; exact key _ _ hm1
end Go.Proofs.Ytfelpjfopgiabaa

/- The document's answer: shapes, walked. -/
namespace Go.Proofs.Ytfelpjfopgiabaa
open Go Go.Lft
set_option linter.unusedSimpArgs false
set_option linter.unusedVariables false

def shOwn (vm : Value) (m : BL) (R : Nat) (g : GotD) : Own := fun k => if k = (0, 0) then it T.bool vm m else if k = (1, 0) then bx T.ref03_Got R g else none

theorem shOwn_put {vm : Value} {m m' : BL} {R : Nat} {g : GotD} (q : Key) : shOwn vm m' R g q = (shOwn vm m R g).upd (0, 0) (it T.bool vm m') q := by
  unfold shOwn Own.upd
  repeat' split
  all_goals first | rfl | simp_all

theorem refShape_ok {f : FuncD} {v : Value} {h : Heap} (hv : Rd (vw h) v f) (hsm : SmF f) (hp0 : 0 ≤ f.params) :
    HCalls Try.prog N.ref03_shape #[v] h (fun u h' => u = gotV (errOf (refShapeS f)) ∧ (vw h).le (vw h')) := by
  refine calls_lift (args := [v]) follows F.ref03_shape E.ref03_shape (Nat.le_of_ble_eq_true (by kernel_rfl)) fun K hK => ?_
  have hn := hsm.len
  dsimp only [L.ref03_shape]
  refine lwp_hide fun z hz => ?_
  simp
  refine do_boxT rfl hv fun h1 _ hle1 hs1 hat => ?_
  obtain ⟨cp, vb, cb⟩ := at_funcB hat
  obtain ⟨u, hu, hur⟩ := hat.loads rfl
  have hu : Un.ev (vw h1) (.loads 2) (.pointer (some ⟨h.size, 0, none⟩)) = some u := hu
  generalize h.size = B at cp cb hu
  refine do_alloc (z := .agg #[.int .i64 0, .int .i64 0, .int .i64 0]) (by kernel_rfl) ?_
  have q1 := push_le h1 (.cells (Value.cells (.agg #[.int .i64 0, .int .i64 0, .int .i64 0])) T.ref03_Got)
  generalize e2 : h1.push (.cells (Value.cells (.agg #[.int .i64 0, .int .i64 0, .int .i64 0])) T.ref03_Got) = h2 at q1
  have b2 : h2[h1.size]? = some (.cells (gotV (0, 0, 0)).cells T.ref03_Got (0, 0)) := by rw [← e2]; simp; rfl
  have w2 := (Owns.start (h := h1) (View.le_refl (vw h1))).add (k := (1, 0)) rfl (ownT_box (h := h2) (d := gotD (0, 0, 0)) b2 (rd_got (by constructor <;> decide) (by constructor <;> decide) (by constructor <;> decide)) (by decide)) q1 (fun b hb => by simp only [Value.ownBlock, Option.some.injEq] at hb; omega)
  generalize h1.size = R at w2
  rw [hz]; clear hz z
  refine lwp_hide fun z hz => ?_
  simp
  refine do_make (α := Bool) (W := vw h1) (k := .i64) (n := 8192) (d := false) El.s_bool rfl rfl rfl (by omega) (by omega) fun vm h3 o3 m3 hle3 hb3 => ?_
  have w3 := w2.add (k := (0, 0)) rfl o3 hle3 (fun b hb => by rw [hb3] at hb; cases hb; exact Nat.le_refl _)
  have w3 : Owns (vw h1) h3 (shOwn vm (List.replicate 8192 false) R (gotD (0, 0, 0))) := w3.congr fun q => by
    unfold shOwn Own.upd
    repeat' split
    all_goals first | rfl | simp_all
  rw [hz]; clear hz z
  refine lwp_hide fun z hz => ?_
  have hu3 : Un.ev (vw h3) (.loads 2) (.pointer (some ⟨B, 0, none⟩)) = some u := by
    have := ev_mono (ρ := fun _ => none) (e := .un (.loads 2) (.con (.pointer (some ⟨B, 0, none⟩)))) w3.wle (v := u) (by simpa using hu)
    simpa using this
  simp [hu3]
  refine call_to (by kernel_rfl) (refThings_ok hur w3.wle hsm) ?_
  rintro vt h4 ⟨hle4, ht⟩
  have w4 := w3.ext hle4
  have hW1 : (vw h1).le (grow (vw h1) h3 h4) := le_grow w3.wle
  have hth : ∀ t ∈ thingsS f, ThOk f t := fun t ht => thing_ok hsm ht
  have hrs : refShapeS f = upE (fun i m => thShape f (nth (thingsS f) i) m) (thingsS f).length (List.replicate 8192 false) := rfl
  have htl := ht.bound
  generalize thingsS f = ts at ht hth hrs htl
  generalize grow (vw h1) h3 h4 = W1 at w4 hW1 ht
  rw [hz]; clear hz z
  refine lwp_hide fun z hz => ?_
  simp
  refine lwp_for [1, 2, 3, 4, 5] (fun (_ : Unit) i => [.pointer (some ⟨B, 0, none⟩), .pointer (some ⟨R, 0, none⟩), vm, vt, .int .i64 i])
    (fun _ i h5 => ∃ W m, W1.le W ∧ Owns W h5 (shOwn vm m R (gotD (0, 0, 0))) ∧ upE (fun i m => thShape f (nth ts i) m) i (List.replicate 8192 false) = .ok m ∧ m.length = 8192) ts.length ()
    rfl (by omega) rfl ⟨W1, _, View.le_refl _, w4, rfl, List.length_replicate ..⟩ (fun _ _ => rfl) (fun v k h5 hk ⟨W, m, q1, q2, _⟩ => by simp [(ht.mono (View.le_trans q1 q2.wle)).len]) ?_ ?_
  · rintro _ i h5 hlti ⟨W5, m, hW5, w5, hm, hml⟩ K2 hK2
    have hst : upE (fun i m => thShape f (nth ts i) m) (i + 1) (List.replicate 8192 false) = thShape f (nth ts i) m := upE_succ hm
    have her : ∀ {t}, thShape f (nth ts i) m = .error t → refShapeS f = .error t := fun e => by rw [hrs]; exact upE_at hm hlti e
    have ht5 := ht.mono hW5
    obtain ⟨ut, hut, hutr⟩ := ht5.wh rfl (N := 4) rfl hlti
    have ok := hth _ (nth_mem hlti)
    have hml2 : ∀ {m'}, thShape f (nth ts i) m = .ok m' → m'.length = 8192 := fun e => (thShape_len e).trans hml
    generalize nth ts i = t at hst her hutr ok hml2
    refine lwp_hide fun y hy => ?_
    simp (disch := omega) [(ht5.mono w5.wle).idxn (N := 4) rfl, hut _ w5.wle]
    refine do_newX (X := W5) (z := .agg #[.int .i64 0, .int .i64 0, .slice none 0 0, .slice none 0 0]) (by kernel_rfl) rfl (by kernel_rfl) hutr (fun _ => by simp) (fun _ => by simp) fun h6 hle6 hs6 hat6 => ?_
    have w6 := w5.ext hle6
    obtain ⟨tb, tp, ⟨vk, tk⟩, _⟩ := at_thB (hat6 (grow W5 h5 h6) (le_grow w5.wle) (grow_new (Nat.le_refl _)))
    have hW6 := View.le_trans hW5 (le_grow (h' := h6) w5.wle)
    generalize grow W5 h5 h6 = W6 at w6 tb tp tk hW6
    generalize h5.size = D at tb tp tk
    rw [hy]; clear hy y
    refine lwp_hide fun y hy => ?_
    have hb := ok.blk
    have cb6 := cb.2.mono (View.le_trans hW1 hW6)
    have cc6 := cellH_mono (View.le_trans hW1 hW6) cb.1
    obtain ⟨ux, hux, huxr⟩ := cb6.wh rfl (N := 6) rfl (i := t.blk.toNat) (by omega)
    simp (disch := omega) [cellH_mono w6.wle cc6, (cb6.mono w6.wle).idxn (N := 6) rfl, cellH_mono w6.wle tb, hux _ w6.wle]
    refine do_newX (X := W6) (z := .agg #[.slice none 0 0, .slice none 0 0, .int .i64 0, .slice none 0 0, .slice none 0 0, .int .i32 0]) (by kernel_rfl) rfl (by kernel_rfl) huxr (fun _ => by simp) (fun _ => by simp) fun h7 hle7 hs7 hat7 => ?_
    have w7 := w6.ext hle7
    have hat7' := hat7 (grow W6 h6 h7) (le_grow w6.wle) (grow_new (Nat.le_refl _))
    obtain ⟨vp, vi, va, vto, bp, bi, bk, ba, bt⟩ := at_blkB hat7'
    have hterm := hat7'.part BlkD.p_term
    have hW67 := le_grow (h' := h7) w6.wle
    have hW7 := View.le_trans hW6 hW67
    have tb7 := cellH_mono hW67 tb
    have tp7 := cellH_mono hW67 tp
    have tk7 := cellH_mono hW67 tk.1
    have tkr := tk.2.mono hW67
    have sb := hsm.blk t.blk.toNat (by omega)
    have hxeq : blkOf f t = nth f.blocks t.blk.toNat := rfl
    generalize hx : nth f.blocks t.blk.toNat = x at bp bi bk ba bt hterm sb hxeq
    generalize grow W6 h6 h7 = W7 at w7 bp bi bk ba bt hterm hW7 tb7 tp7 tk7 tkr
    generalize h6.size = D7 at bp bi bk ba bt hterm
    clear hat7' hat7 hat6
    rw [hy]; clear hy y
    have si := sb.ins
    have bti := tkr.bound
    -- the answer, where the thing is wrong
    have hpl := ok.place
    have ret : ∀ {e : Int} {h8 : Heap} {W8 : View} {m8 : BL} {x y : Operand} {us : List (Nat × Value)} {ty : TypeId} {K9 : Value → Heap → Prop}, 0 ≤ e → e ≤ 100 → Owns W8 h8 (shOwn vm m8 R (gotD (0, 0, 0))) → W7.le W8 → thShape f t m = .error (e, t.blk, t.place) →
        asg us x = .pointer (some ⟨R, 0, none⟩) → asg us y = gotV (e, t.blk, t.place) → (∀ v h9, Un.ev (vw h9) (.loads 3) (.pointer (some ⟨R, 0, none⟩)) = some (gotV (errOf (refShapeS f))) → K (gotV (errOf (refShapeS f))) h9 → K9 v h9) → @Lft.step (@opAt noPP none) Try.prog (.store T.ref03_Got x y) ty us h8 K9 := by
      intro e h8 W8 m8 x y us ty K9 he0 he1 w8 hW8 hbad hx hy hK9
      refine w8.do_field (k := (1, 0)) (e := T.ref03_Got) (D := gotD (0, 0, 0)) (Part.all) (d := gotD (e, t.blk, t.place)) rfl (by kernel_rfl) hx hy (rd_got ⟨by show _ ≤ e; omega, by show e ≤ _; omega⟩ ⟨by show _ ≤ t.blk; omega, by show t.blk ≤ _; omega⟩ ⟨by show _ ≤ t.place; omega, by show t.place ≤ _; omega⟩) fun h9 w9 hs9 => ?_
      have hb := her hbad
      refine hK9 _ _ ?_ ?_
      · rw [hb]; exact got_load w9 (Own.upd_self)
      · exact hK _ _ ⟨rfl, View.le_trans hle1 (View.le_trans hW1 (View.le_trans hW7 (View.le_trans hW8 w9.wle)))⟩
    refine lwp_hide fun y hy => ?_
    -- behind the look at an instruction
    refine lwp_cut (fun ρ h8 => ∃ W8 tl, (isIns f t && opBad (insOf f t)) = false ∧ Owns W8 h8 (shOwn vm m R (gotD (0, 0, 0))) ∧ W7.le W8 ∧ ρ = [(1, .pointer (some ⟨B, 0, none⟩)), (2, .pointer (some ⟨R, 0, none⟩)), (3, vm), (4, vt), (5, .int .i64 i), (6, .pointer (some ⟨D, 0, none⟩)), (7, .pointer (some ⟨D7, 0, none⟩))] ++ tl) ?_ ?_
    · intro K3 hK3
      cases hii : isIns f t with
      | false =>
        have hcc : (decide (0 ≤ t.place) && decide (t.place < (x.ins.length : Int))) = false := by rw [← hxeq]; exact hii
        simp [cellH_mono w7.wle tp7, cellH_mono w7.wle bi.1, (bi.2.mono w7.wle).len, hcc]
        exact hK3 _ _ ⟨W7, _, by rw [hii]; rfl, w7, View.le_refl _, rfl⟩
      | true =>
        have hcc : (decide (0 ≤ t.place) && decide (t.place < (x.ins.length : Int))) = true := by rw [← hxeq]; exact hii
        have hcc' := hcc
        simp only [Bool.and_eq_true, decide_eq_true_eq] at hcc'
        obtain ⟨us, hus, husr⟩ := bi.2.wh rfl (N := 5) rfl (i := t.place.toNat) (by omega)
        have hins : insOf f t = nth x.ins t.place.toNat := by rw [insOf, hxeq]
        refine lwp_hide fun q hq => ?_
        simp [cellH_mono w7.wle tp7, cellH_mono w7.wle bi.1, (bi.2.mono w7.wle).len, hcc]
        rw [hq]; clear hq q
        refine lwp_cond_t (by simp) ?_
        refine lwp_hide fun q hq => ?_
        simp (disch := omega) [cellH_mono w7.wle tp7, cellH_mono w7.wle bi.1, (bi.2.mono w7.wle).idxn (N := 5) rfl, hus _ w7.wle]
        refine do_newX (X := W7) (z := .agg #[.int .i64 0, .int .i64 0, .int .i64 0, .slice none 0 0, .int .i32 0]) (by kernel_rfl) rfl (by kernel_rfl) husr (fun _ => by simp) (fun _ => by simp) fun h8 hle8 hs8 hat8 => ?_
        have w8 := w7.ext hle8
        obtain ⟨c0, _, _, vs, cs⟩ := at_insB (hat8 (grow W7 h7 h8) (le_grow w7.wle) (grow_new (Nat.le_refl _)))
        have hW8 := le_grow (h' := h8) w7.wle
        have tb8 := cellH_mono hW8 tb7
        have tp8 := cellH_mono hW8 tp7
        rw [← hins] at c0 cs
        have hop : opBad (insOf f t) = (decide ((insOf f t).op < 1) || decide (18 < (insOf f t).op) || !countsS (insOf f t).op (insOf f t).args.length) := rfl
        have hbd : (isIns f t && opBad (insOf f t)) = opBad (insOf f t) := by rw [hii]; rfl
        have hbad : opBad (insOf f t) = true → thShape f t m = .error (10, t.blk, t.place) := fun e => by rw [thShape, hbd, if_pos e]
        rw [hbd] at hK3
        generalize insOf f t = s at c0 cs hK3 hop hbad
        generalize h7.size = D8 at c0 cs
        rw [hq]; clear hq q
        refine lwp_hide fun q hq => ?_
        refine lwp_cut (fun ρ h9 => h9 = h8 ∧ (∃ tl, ρ = [(1, .pointer (some ⟨B, 0, none⟩)), (2, .pointer (some ⟨R, 0, none⟩)), (3, vm), (4, vt), (5, .int .i64 i), (6, .pointer (some ⟨D, 0, none⟩)), (7, .pointer (some ⟨D7, 0, none⟩)), (8, .pointer (some ⟨D8, 0, none⟩))] ++ tl) ∧ Lft.look ρ 65 = some (.bool (opBad s))) ?_ ?_
        · intro K4 hK4
          rw [hop] at hK4
          by_cases d1 : s.op < 1
          · simp [cellH_mono w8.wle c0, cellH_mono w8.wle cs.1, cs.2.len, d1]
            exact hK4 _ _ ⟨rfl, ⟨_, rfl⟩, by simp [d1]⟩
          · by_cases d2 : 18 < s.op
            · simp [cellH_mono w8.wle c0, cellH_mono w8.wle cs.1, cs.2.len, d1, d2]
              exact hK4 _ _ ⟨rfl, ⟨_, rfl⟩, by simp [d2]⟩
            · simp [cellH_mono w8.wle c0, cellH_mono w8.wle cs.1, cs.2.len, d1, d2]
              refine call_to (by kernel_rfl) counts_ok ?_
              rintro _ _ ⟨rfl, rfl⟩
              simp
              exact hK4 _ _ ⟨rfl, ⟨_, rfl⟩, by simp [d1, d2]⟩
        · rintro ρ _ ⟨rfl, ⟨tl, rfl⟩, hl⟩
          rw [hq]; clear hq q
          cases hob : opBad s with
          | true =>
            rw [hob] at hl
            refine lwp_cond_t (by rw [ev_tmp]; exact hl) ?_
            simp [cellH_mono w8.wle tb8, cellH_mono w8.wle tp8]
            refine do_got (t := (10, t.blk, t.place)) rfl rfl rfl ?_
            simp [look_setE, look_kill]
            refine ret (by omega) (by omega) w8 hW8 (hbad hob) rfl rfl fun _ h9 hl9 hK9 => ?_
            simp [hl9]
            exact hK9
          | false =>
            rw [hob] at hl
            refine lwp_cond_f (by rw [ev_tmp]; exact hl) ?_
            simp
            exact hK3 _ _ ⟨_, _, hob, w8, hW8, rfl⟩
    · rintro ρ h8 ⟨W8, tl, hni, w8, hW8, rfl⟩
      rw [hy]; clear hy y
      have e1 : ∀ {α : Type} (a b : α), (if (isIns f t && opBad (insOf f t)) = true then a else b) = b := fun a b => by rw [if_neg (by rw [hni]; simp)]
      have tb8 := cellH_mono (View.le_trans hW8 w8.wle) tb7
      have tp8 := cellH_mono (View.le_trans hW8 w8.wle) tp7
      have ci8 := cellH_mono (View.le_trans hW8 w8.wle) bi.1
      have bi8 := bi.2.mono (View.le_trans hW8 w8.wle)
      have hlast : isLast f t = decide (t.place = (x.ins.length : Int)) := by rw [isLast, hxeq]
      refine lwp_hide fun y hy => ?_
      simp [tp8, ci8, bi8.len, ← hlast]
      rw [hy]; clear hy y
      refine lwp_hide fun y hy => ?_
      have htx : (blkOf f t).term = x.term := by rw [hxeq]
      have hterm8 := hterm.mono (View.le_trans hW8 w8.wle)
      obtain ⟨uT, huT, huTr⟩ := hterm8.loads rfl
      have huT : Un.ev (vw h8) (.loads 4) (.pointer (some ⟨D7, 2, none⟩)) = some uT := by
        have h2 : Un.ev (vw h8) (.loads 4) (.pointer (some ((⟨D7, 0, none⟩ : Addr).add 2))) = some uT := huT
        rwa [addr_add] at h2
      refine lwp_cut (fun ρ h9 => (∃ W9, Owns W9 h9 (shOwn vm m R (gotD (0, 0, 0))) ∧ W7.le W9) ∧ (isLast f t && !termS x.term) = false ∧ ∃ tl, ρ = [(1, .pointer (some ⟨B, 0, none⟩)), (2, .pointer (some ⟨R, 0, none⟩)), (3, vm), (4, vt), (5, .int .i64 i), (6, .pointer (some ⟨D, 0, none⟩)), (7, .pointer (some ⟨D7, 0, none⟩))] ++ tl ∧ Lft.look ρ 9 = some (.bool (isLast f t))) ?_ ?_
      · intro K3 hK3
        refine lwp_hide fun q hq => ?_
        have htb : (isLast f t && !termS x.term) = true → thShape f t m = .error (10, t.blk, t.place) := fun e => by rw [thShape, e1, htx, if_pos e]
        refine lwp_cut (fun ρ h9 => (∃ W9, Owns W9 h9 (shOwn vm m R (gotD (0, 0, 0))) ∧ W7.le W9) ∧ (∃ tl, ρ = [(1, .pointer (some ⟨B, 0, none⟩)), (2, .pointer (some ⟨R, 0, none⟩)), (3, vm), (4, vt), (5, .int .i64 i), (6, .pointer (some ⟨D, 0, none⟩)), (7, .pointer (some ⟨D7, 0, none⟩))] ++ tl) ∧ Lft.look ρ 9 = some (.bool (isLast f t)) ∧ Lft.look ρ 83 = some (.bool (isLast f t && !termS x.term))) ?_ ?_
        · intro K4 hK4
          cases hl : isLast f t with
          | false =>
            rw [hl] at hK4
            simp [look_setE, look_kill]
            exact hK4 _ _ ⟨⟨W8, w8, hW8⟩, ⟨_, rfl⟩, by simp [look_setE, look_kill], by simp [look_setE, look_kill]⟩
          | true =>
            rw [hl] at hK4
            simp [look_setE, look_kill, huT]
            refine call_to (by kernel_rfl) (term_ok huTr) ?_
            rintro _ h9 ⟨rfl, hle9⟩
            simp [look_setE, look_kill]
            exact hK4 _ _ ⟨⟨_, w8.ext hle9, View.le_trans hW8 (le_grow w8.wle)⟩, ⟨_, rfl⟩, by simp [look_setE, look_kill], by simp [look_setE, look_kill]⟩
        · rintro ρ h9 ⟨⟨W9, w9, hW9⟩, ⟨tl, rfl⟩, hl9, hl83⟩
          rw [hq]; clear hq q
          have tb9 := cellH_mono (View.le_trans hW9 w9.wle) tb7
          have tp9 := cellH_mono (View.le_trans hW9 w9.wle) tp7
          cases hob : (isLast f t && !termS x.term) with
          | true =>
            rw [hob] at hl83
            refine lwp_cond_t (by rw [ev_tmp]; exact hl83) ?_
            simp [tb9, tp9]
            refine do_got (t := (10, t.blk, t.place)) rfl rfl rfl ?_
            simp [look_setE, look_kill]
            refine ret (by omega) (by omega) w9 hW9 (htb hob) rfl rfl fun _ h9 hl9 hK9 => ?_
            simp [hl9]
            exact hK9
          | false =>
            rw [hob] at hl83
            refine lwp_cond_f (by rw [ev_tmp]; exact hl83) ?_
            simp at hl9
            simp
            exact hK3 _ _ ⟨⟨W9, w9, hW9⟩, hob, _, rfl, by simpa [look_kill] using hl9⟩
      · rintro ρ h9 ⟨⟨W9, w9, hW9⟩, hnt, tl, rfl, hl9⟩
        rw [hy]; clear hy y
        have e2 : ∀ {α : Type} (a b : α), (if (isLast f t && !termS (blkOf f t).term) = true then a else b) = b := fun a b => by rw [htx, if_neg (by rw [hnt]; simp)]
        have tb9 := cellH_mono (View.le_trans hW9 w9.wle) tb7
        have tp9 := cellH_mono (View.le_trans hW9 w9.wle) tp7
        have ck9 := cellH_mono (View.le_trans hW9 w9.wle) tk7
        have kr9 := tkr.mono (View.le_trans hW9 w9.wle)
        have cp9 : cellH (vw h9) ⟨B, 0, none⟩ = some (.int .i64 f.params) := cellH_mono (View.le_trans hW1 (View.le_trans hW7 (View.le_trans hW9 w9.wle))) cp
        -- the numbers, one by one
        refine lwp_hide fun y hy => ?_
        simp
        refine lwp_for [1, 2, 3, 4, 5, 6, 7, 9, 10] (fun (_ : Unit) k => [.pointer (some ⟨B, 0, none⟩), .pointer (some ⟨R, 0, none⟩), vm, vt, .int .i64 i, .pointer (some ⟨D, 0, none⟩), .pointer (some ⟨D7, 0, none⟩), .bool (isLast f t), .int .i64 k])
          (fun _ k h10 => h10 = h9 ∧ ∀ j, j < k → numBad f (nth t.mks j) = false) t.mks.length ()
          rfl (by omega) (by simp at hl9; simp [keepE, look_setE, look_kill, hl9]) ⟨rfl, fun j hj => by omega⟩ (fun _ _ => rfl) (fun v k h10 hk ⟨q1, _⟩ => by subst q1; simp [ck9, kr9.len]) ?_ ?_
        · rintro _ k h9 hltk ⟨rfl, hpre⟩ K3 hK3
          have hnb : numBad f (nth t.mks k) = (decide (nth t.mks k < f.params) || decide (8191 < nth t.mks k)) := rfl
          have hbad : numBad f (nth t.mks k) = true → thShape f t m = .error (11, t.blk, t.place) := fun e => by
            rw [thShape, e1, e2, if_pos]
            rw [List.any_eq_true]
            exact ⟨_, nth_mem hltk, e⟩
          refine lwp_hide fun q hq => ?_
          simp (disch := omega) [ck9, kr9.idx1 rfl, kr9.int (View.le_refl _), cp9, ← hnb]
          rw [hq]; clear hq q
          cases hob : numBad f (nth t.mks k) with
          | true =>
            refine lwp_cond_t (by simp) ?_
            simp [tb9, tp9]
            refine do_got (t := (11, t.blk, t.place)) rfl rfl rfl ?_
            refine ret (by omega) (by omega) w9 hW9 (hbad hob) rfl rfl fun _ h9 hl9 hK9 => ?_
            simp [hl9]
            exact hK9
          | false =>
            refine lwp_cond_f (by simp) ?_
            simp
            refine hK3 () _ _ rfl rfl ⟨rfl, fun j hj => ?_⟩
            rcases Nat.lt_or_ge j k with h | h
            · exact hpre j h
            · have : j = k := by omega
              subst this; exact hob
        · rintro _ h9 ⟨rfl, hpre⟩
          have e3 : ∀ {α : Type} (a b : α), (if t.mks.any (numBad f) = true then a else b) = b := fun a b => by
            rw [if_neg]
            intro e
            obtain ⟨n, hn, hb⟩ := List.any_eq_true.1 e
            obtain ⟨j, hj, rfl⟩ := List.getElem_of_mem hn
            rw [← nth_eq hj, hpre j hj] at hb; cases hb
          simp
          rw [hy]; clear hy y
          refine lwp_hide fun y hy => ?_
          simp
          have hshape : thShape f t m = afterMk f t (upE (mkdStep t) t.mks.length m) := by rw [thShape, e1, e2, e3]
          have hnr : ∀ j, j < t.mks.length → 0 ≤ nth t.mks j ∧ nth t.mks j < 8192 := fun j hj => by
            have := hpre j hj
            simp only [numBad, Bool.or_eq_false_iff, decide_eq_false_iff_not] at this
            omega
          refine lwp_for [1, 2, 3, 4, 5, 6, 7, 9, 11] (fun (_ : Unit) k => [.pointer (some ⟨B, 0, none⟩), .pointer (some ⟨R, 0, none⟩), vm, vt, .int .i64 i, .pointer (some ⟨D, 0, none⟩), .pointer (some ⟨D7, 0, none⟩), .bool (isLast f t), .int .i64 k])
            (fun _ k h10 => ∃ m', Owns W9 h10 (shOwn vm m' R (gotD (0, 0, 0))) ∧ upE (mkdStep t) k m = .ok m' ∧ m'.length = 8192) t.mks.length ()
            rfl (by omega) rfl ⟨m, w9, rfl, hml⟩ (fun _ _ => rfl) (fun v k h10 hk ⟨m', q1, _⟩ => by simp [cellH_mono (View.le_trans hW9 q1.wle) tk7, (tkr.mono (View.le_trans hW9 q1.wle)).len]) ?_ ?_
          · rintro _ k h10 hltk ⟨m', w10, hm', hml'⟩ K3 hK3
            have hs10 := upE_succ hm'
            have her10 : ∀ {e}, mkdStep t k m' = .error e → thShape f t m = .error e := fun e => by rw [hshape, upE_at hm' hltk e]; rfl
            rw [mkdStep] at hs10 her10
            have hr := hnr k hltk
            have tb10 := cellH_mono (View.le_trans hW9 w10.wle) tb7
            have tp10 := cellH_mono (View.le_trans hW9 w10.wle) tp7
            have ck10 := cellH_mono (View.le_trans hW9 w10.wle) tk7
            have kr10 := tkr.mono (View.le_trans hW9 w10.wle)
            have nm := w10.now (k := (0, 0)) (v := vm) (l := m') rfl
            refine lwp_hide fun q hq => ?_
            refine lwp_hide fun p hp => ?_
            simp (disch := omega) [ck10, kr10.idx1 rfl, kr10.int (View.le_refl _), nm.idx1 rfl, nm.bool (View.le_refl _)]
            rw [hp]; clear hp p
            cases hob : nth m' (nth t.mks k).toNat with
            | true =>
              refine lwp_cond_t (by simp) ?_
              simp [tb10, tp10]
              refine do_got (t := (12, t.blk, t.place)) rfl rfl rfl ?_
              refine ret (by omega) (by omega) w10 hW9 (her10 (by rw [if_pos hob])) rfl rfl fun _ h9 hl9 hK9 => ?_
              simp [hl9]
              exact hK9
            | false =>
              refine lwp_cond_f (by simp) ?_
              simp
              rw [hq]; clear hq q
              simp (disch := omega) [ck10, kr10.idx1 rfl, kr10.int (View.le_refl _), nm.idx1 rfl]
              refine w10.do_put (k := (0, 0)) (α := Bool) (l := m') (v := vm) (i := (nth t.mks k).toNat) (d := true) rfl (by kernel_rfl) (by simp [show Rep.n Bool = 1 from rfl]) rfl (by omega) rd_b fun h11 w11 hs11 => ?_
              refine hK3 () _ _ rfl rfl ⟨_, w11.congr shOwn_put, by rw [hs10, if_neg (by rw [hob]; simp)], by rw [List.length_set]; exact hml'⟩
          · rintro _ h10 ⟨m', w10, hm', hml'⟩
            rw [hm'] at hshape
            have hshape : thShape f t m = if isLast f t && (blkOf f t).term.to.any (toBad f) then .error (14, t.blk, t.place) else .ok m' := hshape
            simp
            rw [hy]; clear hy y
            have tb10 := cellH_mono (View.le_trans hW9 w10.wle) tb7
            have tp10 := cellH_mono (View.le_trans hW9 w10.wle) tp7
            have ct10 := cellH_mono (View.le_trans hW9 w10.wle) bt.1
            have tr10 := bt.2.mono (View.le_trans hW9 w10.wle)
            have hW110 := View.le_trans hW1 (View.le_trans hW7 hW9)
            have bto := sb.to
            have done : (isLast f t && (blkOf f t).term.to.any (toBad f)) = false → ∀ ρ : Env, Lft.look ρ 5 = some (.int .i64 i) → keepE [1, 2, 3, 4, 5] (setE ρ 5 (.int .i64 ((i : Int) + 1))) = [1, 2, 3, 4, 5].zip [.pointer (some ⟨B, 0, none⟩), .pointer (some ⟨R, 0, none⟩), vm, vt, .int .i64 ((i + 1 : Nat) : Int)] → K2 ρ h10 := fun e ρ l5 lk => by
              rw [e] at hshape
              have hshape : thShape f t m = .ok m' := hshape
              exact hK2 () _ _ l5 lk ⟨W9, m', View.le_trans hW7 hW9, w10, by rw [hst, hshape], hml'⟩
            refine lwp_hide fun y hy => ?_
            simp
            rw [hy]; clear hy y
            cases hl : isLast f t with
            | false =>
              refine lwp_loop [1, 2, 3, 4, 5, 9] (fun n ρ h11 => n = 0 ∧ h11 = h10 ∧ ρ = [(1, .pointer (some ⟨B, 0, none⟩)), (2, .pointer (some ⟨R, 0, none⟩)), (3, vm), (4, vt), (5, .int .i64 i), (9, .bool false)]) 0 ⟨rfl, rfl, by simp [keepE, hl]⟩ ?_
              rintro n ρ h11 ⟨rfl, rfl, rfl⟩ K3 hK3
              simp [L.ref03_shape.l4]
              exact done (by rw [hl]; rfl) _ rfl rfl
            | true =>
              have hbq : blkOf f t = x := hxeq
              rw [hbq, hl] at hshape done
              refine lwp_loop [1, 2, 3, 4, 5, 6, 7, 9, 12] (fun n ρ h11 => ∃ k : Nat, k ≤ x.term.to.length ∧ n = x.term.to.length - k ∧ h11 = h10 ∧ ρ = [(1, .pointer (some ⟨B, 0, none⟩)), (2, .pointer (some ⟨R, 0, none⟩)), (3, vm), (4, vt), (5, .int .i64 i), (6, .pointer (some ⟨D, 0, none⟩)), (7, .pointer (some ⟨D7, 0, none⟩)), (9, .bool true), (12, .int .i64 k)] ∧ ∀ j, j < k → toBad f (nth x.term.to j) = false)
                x.term.to.length ⟨0, by omega, by omega, rfl, by simp [keepE, hl], fun j hj => by omega⟩ ?_
              rintro n ρ _ ⟨k, hk, rfl, rfl, rfl, hpre⟩ K3 hK3
              have cc10 := cellH_mono (View.le_trans hW110 w10.wle) cb.1
              have cb10 := cb.2.mono (View.le_trans hW110 w10.wle)
              by_cases hlt : k < x.term.to.length
              · refine lwp_hide fun y hy => ?_
                simp [ct10, tr10.len, hlt]
                rw [hy]; clear hy y
                refine lwp_hide fun y hy => ?_
                have htb : toBad f (nth x.term.to k) = (decide (nth x.term.to k < 1) || decide ((f.blocks.length : Int) ≤ nth x.term.to k)) := rfl
                refine lwp_hide fun q hq => ?_
                simp (disch := omega) [ct10, tr10.idx1 rfl, tr10.int (View.le_refl _), cc10, cb10.len, ← htb]
                rw [hq]; clear hq q
                cases hob : toBad f (nth x.term.to k) with
                | true =>
                  refine lwp_cond_t (by simp) ?_
                  simp [tb10, tp10]
                  refine do_got (t := (14, t.blk, t.place)) rfl rfl rfl ?_
                  refine ret (by omega) (by omega) w10 hW9 (by rw [hshape, if_pos]; simp only [Bool.true_and]; rw [List.any_eq_true]; exact ⟨_, nth_mem hlt, hob⟩) rfl rfl fun _ h9 hl9 hK9 => ?_
                  simp [hl9]
                  exact hK9
                | false =>
                  refine lwp_cond_f (by simp) ?_
                  simp
                  rw [hy]; clear hy y
                  simp (disch := omega)
                  refine hK3 (x.term.to.length - (k + 1)) _ _ (by omega) ⟨k + 1, by omega, rfl, rfl, by simp [keepE], fun j hj => ?_⟩
                  rcases Nat.lt_or_ge j k with h | h
                  · exact hpre j h
                  · have : j = k := by omega
                    subst this; exact hob
              · have hlt' : ¬ (k : Int) < x.term.to.length := by omega
                simp [L.ref03_shape.l4, ct10, tr10.len, hlt]
                refine done (by
                  simp only [Bool.true_and]
                  rw [Bool.eq_false_iff]
                  intro e
                  obtain ⟨n, hn, hb⟩ := List.any_eq_true.1 e
                  obtain ⟨j, hj, rfl⟩ := List.getElem_of_mem hn
                  rw [← nth_eq hj, hpre j (by omega)] at hb; cases hb) _ rfl rfl
  · rintro _ h5 ⟨W5, m, hW5, w5, hm, hml⟩
    simp
    rw [hz]; clear hz z
    simp
    refine do_got0 ?_
    refine w5.do_field (k := (1, 0)) (e := T.ref03_Got) (D := gotD (0, 0, 0)) (Part.all) (d := gotD (0, 0, 0)) rfl (by kernel_rfl) rfl rfl (rd_got (by constructor <;> decide) (by constructor <;> decide) (by constructor <;> decide)) fun h6 w6 hs6 => ?_
    simp [got_load w6 (Own.upd_self)]
    exact hK _ _ ⟨by rw [hrs, hm]; rfl, View.le_trans hle1 (View.le_trans hW1 (View.le_trans hW5 w6.wle))⟩
end Go.Proofs.Ytfelpjfopgiabaa

/- The document's answer: where each number is made; what stands. -/
namespace Go.Proofs.Ytfelpjfopgiabaa
open Go Go.Lft
set_option linter.unusedSimpArgs false
set_option linter.unusedVariables false

def noTh : Th := ⟨-1, 0, [], []⟩
def zeroTh : Th := ⟨0, 0, [], []⟩
def siteStep (t : Th) (l : List Th) (n : Int) : List Th := if 0 ≤ n ∧ n < 8192 then l.set n.toNat t else l
def siteTh (l : List Th) (t : Th) : List Th := t.mks.foldl (siteStep t) l
def sitesS (ts : List Th) : List Th := ts.foldl siteTh (List.replicate 8192 noTh)
theorem siteStep_len {t : Th} {l : List Th} {n : Int} : (siteStep t l n).length = l.length := by unfold siteStep; split <;> simp
theorem siteTh_len {t : Th} {l : List Th} : (siteTh l t).length = l.length := foldl_inv (f := siteStep t) (fun x : List Th => x.length = l.length) (fun _ _ h => siteStep_len.trans h) _ _ rfl
theorem sitesS_len {ts : List Th} : (sitesS ts).length = 8192 := foldl_inv (f := siteTh) (fun x : List Th => x.length = 8192) (fun _ _ h => siteTh_len.trans h) _ _ (List.length_replicate ..)

def siOwn (vo : Value) (l : List Th) : Own := fun k => if k = (0, 0) then it T.ref03_Thing vo l else none
theorem siOwn_put {vo : Value} {l l' : List Th} (q : Key) : siOwn vo l' q = (siOwn vo l).upd (0, 0) (it T.ref03_Thing vo l') q := by
  unfold siOwn Own.upd
  repeat' split
  all_goals first | rfl | simp_all

theorem Owns.do_putM {po : OP} {P : Program} {W : View} {h : Heap} {o : Own} {k : Key} {ty : TypeId} {us : List (Nat × Value)} {α : Type} [r : Rep α] {e : TypeId} {v : Value} {l : List α} {t : TypeId} {x y : Operand} {i : Nat} {u : Value} {d : α} {K : Value → Heap → Prop} (w : Owns W h o) (hk : o k = it e v l) (hsz : sizeB P t = some (Rep.n α)) (hx : asg us x = .pointer (some ((slA v).add (i * Rep.n α)))) (hy : asg us y = u) (hi : i < l.length) (hr : Rd W u d)
    (hK : ∀ h', Owns W h' (o.upd k (it e v (l.set i d))) → (∀ X : View, X.le (vw h) → Av X v → X.le (vw h')) → K undef h') : Lft.step P (.store t x y) ty us h K :=
  do_set (po := po) hsz hx hy (w.get hk) hi hr fun h' o2 m => hK h' (w.moved hk o2 m) fun X hX hA => (m.view hX hA).1
theorem Owns.do_partM {po : OP} {P : Program} {W : View} {h : Heap} {o : Own} {k : Key} {ty : TypeId} {us : List (Nat × Value)} {α β : Type} [r : Rep α] [Rep β] {e : TypeId} {v : Value} {l : List α} {off : Nat} {g : α → β} {s : α → β → α} (p : Part α β off g s) {t : TypeId} {x y : Operand} {i : Nat} {u : Value} {d : β} {K : Value → Heap → Prop} (w : Owns W h o) (hk : o k = it e v l) (hsz : sizeB P t = some (Rep.n β)) (hx : asg us x = .pointer (some (((slA v).add (i * Rep.n α)).add off))) (hy : asg us y = u) (hi : i < l.length) (hr : Rd W u d)
    (hK : ∀ h', Owns W h' (o.upd k (it e v (l.set i (s l[i] d)))) → (∀ X : View, X.le (vw h) → Av X v → X.le (vw h')) → K undef h') : Lft.step P (.store t x y) ty us h K :=
  do_setP (po := po) p hsz hx hy (w.get hk) hi hr fun h' hs o2 m => hK h' (w.moved hk o2 m) fun X hX hA => (m.view hX hA).1
/-- The row of sites, as it is filled. -/
structure SiS (V : View) (h0 : Heap) (vo : Value) (l : List Th) (h : Heap) : Prop where
  own : Owns V h (siOwn vo l)
  le : (vw h0).le (vw h)
theorem refSites_ok {ts : List Th} {vt : Value} {V : View} {h : Heap} (ht : SlRd V vt ts) (hV : V.le (vw h)) :
    HCalls Try.prog N.ref03_sites #[vt] h (fun u h' => (vw h).le (vw h') ∧ SlRd (grow V h h') u (sitesS ts)) := by
  refine calls_lift (args := [vt]) follows F.ref03_sites E.ref03_sites (Nat.le_of_ble_eq_true (by kernel_rfl)) fun K hK => ?_
  have htb := ht.bound
  dsimp only [L.ref03_sites]
  refine lwp_hide fun z hz => ?_
  simp
  rw [hz]; clear hz z
  refine lwp_hide fun z hz => ?_
  have hsi : sitesS ts = ts.foldl siteTh (List.replicate 8192 noTh) := rfl
  obtain ⟨N, hN⟩ : ∃ N : Nat, N = 8192 := ⟨_, rfl⟩
  rw [← hN] at hsi
  have hNi : (8192 : Int) = N := by rw [hN]; rfl
  simp
  refine do_make (α := Th) (W := V) (k := .i64) (n := N) (d := zeroTh) El.s_ref03_Thing (by rw [hN]; rfl) (by rw [hN]; rfl) ⟨[.int .i64 0], [.int .i64 0, .slice none 0 0, .slice none 0 0], rfl, ⟨rfl, by decide, by decide⟩, [.int .i64 0], [.slice none 0 0, .slice none 0 0], rfl, ⟨rfl, by decide, by decide⟩, [.slice none 0 0], [.slice none 0 0], rfl, ⟨_, rfl, nil_sl⟩, ⟨_, rfl, nil_sl⟩⟩ (by omega) (by omega) fun vo h1 o1 m1 hle1 hb1 => ?_
  have av : Av (vw h) vo := fun b hb => by rw [hb1] at hb; cases hb; exact View.none_of_ge (View.le_refl _) (Nat.le_refl _)
  have w1 : Owns V h1 (siOwn vo (List.replicate N zeroTh)) := ((Owns.start hV).add (k := (0, 0)) rfl o1 hle1 (fun b hb => by rw [hb1] at hb; cases hb; exact Nat.le_refl _)).congr fun q => by
    unfold siOwn Own.upd
    repeat' split
    all_goals first | rfl | simp_all
  rw [hz]; clear hz z
  refine lwp_hide fun z hz => ?_
  simp
  refine lwp_for [0, 3, 4] (fun (_ : Unit) k => [vt, vo, .int .i64 k]) (fun _ k h2 => SiS V h vo (rows (fun _ => noTh) k ++ List.replicate (N - k) zeroTh) h2) N ()
    rfl (by omega) rfl (by simpa using ⟨w1, hle1⟩) (fun _ _ => rfl) (fun v k h2 hk m => by simp [hNi]) ?_ ?_
  · rintro _ k h2 hlt ⟨w2, le2⟩ K2 hK2
    have hlen : (rows (fun _ => noTh) k ++ List.replicate (N - k) zeroTh).length = N := by simp; omega
    have n2 := w2.now (k := (0, 0)) (v := vo) (l := rows (fun _ => noTh) k ++ List.replicate (N - k) zeroTh) rfl
    have ik := n2.idxn (N := 4) rfl (k := .i64) (i := k) (by omega) (by omega)
    simp [ik]
    refine Owns.do_partM (o := siOwn vo (rows (fun _ => noTh) k ++ List.replicate (N - k) zeroTh)) (W := V) (k := (0, 0)) (α := Th) (v := vo) (l := rows (fun _ => noTh) k ++ List.replicate (N - k) zeroTh) (i := k) Th.p_blk (d := (-1 : Int)) w2 rfl (by kernel_rfl) rfl rfl (by omega) (rd_i (by omega) (by omega)) fun h3 w3 hs3 => ?_
    refine hK2 () _ _ rfl rfl ⟨w3.congr fun q => ?_, hs3 _ le2 av⟩
    have e : (rows (fun _ => noTh) k ++ List.replicate (N - k) zeroTh)[k]'(by omega) = zeroTh := by
      rw [List.getElem_append_right (by simp)]; simp
    rw [← rows_set hlt, e]
    exact siOwn_put q
  · rintro _ h2 ⟨w2, le2⟩
    rw [Nat.sub_self, List.replicate_zero, List.append_nil] at w2
    have hrow : rows (fun _ => noTh) N = List.replicate N noTh := by
      refine List.ext_getElem (by simp) fun i h1 h2 => ?_
      simp [rows]
    rw [hrow] at w2
    simp
    rw [hz]; clear hz z
    refine lwp_hide fun z hz => ?_
    simp
    refine lwp_for [0, 3, 5] (fun (_ : Unit) i => [vt, vo, .int .i64 i]) (fun _ i h3 => SiS V h vo ((ts.take i).foldl siteTh (List.replicate N noTh)) h3) ts.length ()
      rfl (by omega) rfl (by simpa using ⟨w2, le2⟩) (fun _ _ => rfl) (fun v k h3 hk m => by simp [(ht.mono m.own.wle).len]) ?_ ?_
    · rintro _ i h3 hlti ⟨w3, le3⟩ K2 hK2
      have hst : (ts.take (i + 1)).foldl siteTh (List.replicate N noTh) = siteTh ((ts.take i).foldl siteTh (List.replicate N noTh)) (nth ts i) := by
        rw [List.take_succ_eq_append_getElem hlti, List.foldl_append, nth_eq hlti]; rfl
      have hlen : ((ts.take i).foldl siteTh (List.replicate N noTh)).length = N := foldl_inv (f := siteTh) (fun x : List Th => x.length = N) (fun _ _ h => siteTh_len.trans h) _ _ (List.length_replicate ..)
      generalize (ts.take i).foldl siteTh (List.replicate N noTh) = l at w3 hst hlen
      have ht0 := ht
      obtain ⟨ut, hut, hutr⟩ := ht0.wh rfl (N := 4) rfl hlti
      have hat := ht0.at hlti
      rw [← nth_eq hlti] at hat
      obtain ⟨vk, hvk⟩ := (hat.part Th.p_mks).sl
      have hvk1 : cellH V (((slA vt).add (i * 4)).add 2) = some vk := hvk.1
      have hvk2 := hvk.2
      generalize nth ts i = t at hst hutr hvk2
      have hkb := hvk2.bound
      refine lwp_hide fun y hy => ?_
      simp
      rw [hy]; clear hy y
      refine lwp_for [0, 3, 5, 6] (fun (_ : Unit) j => [vt, vo, .int .i64 i, .int .i64 j]) (fun _ j h4 => SiS V h vo ((t.mks.take j).foldl (siteStep t) l) h4) t.mks.length ()
        rfl (by omega) rfl (by simpa using ⟨w3, le3⟩) (fun _ _ => rfl) (fun v k h4 hk m => by
          have ht4 := ht0.mono m.own.wle
          simp (disch := omega) [ht4.idxn (N := 4) rfl, cellH_mono m.own.wle hvk1, (hvk2.mono m.own.wle).len]) ?_ ?_
      · rintro _ j h4 hltj ⟨w4, le4⟩ K3 hK3
        have hst4 : (t.mks.take (j + 1)).foldl (siteStep t) l = siteStep t ((t.mks.take j).foldl (siteStep t) l) (nth t.mks j) := by
          rw [List.take_succ_eq_append_getElem hltj, List.foldl_append, nth_eq hltj]; rfl
        have hlen4 : ((t.mks.take j).foldl (siteStep t) l).length = N := foldl_inv (f := siteStep t) (fun x : List Th => x.length = N) (fun _ _ h => siteStep_len.trans h) _ _ hlen
        generalize (t.mks.take j).foldl (siteStep t) l = l4 at w4 hst4 hlen4
        have ht4 := ht0.mono w4.wle
        have hk4 := hvk2.mono w4.wle
        refine lwp_hide fun y hy => ?_
        simp (disch := omega) [ht4.idxn (N := 4) rfl, cellH_mono w4.wle hvk1, hk4.idx1 rfl, hk4.int (View.le_refl _)]
        rw [hy]; clear hy y
        refine lwp_hide fun y hy => ?_
        rw [siteStep] at hst4
        by_cases hc : 0 ≤ nth t.mks j ∧ nth t.mks j < 8192
        · rw [if_pos hc] at hst4
          simp [hc]
          rw [hy]; clear hy y
          refine lwp_cond_t (by simp) ?_
          have n4 := w4.now (k := (0, 0)) (v := vo) (l := l4) rfl
          simp (disch := omega) [ht4.idxn (N := 4) rfl, n4.idxn (N := 4) rfl, hut _ w4.wle]
          refine Owns.do_putM (W := V) (o := siOwn vo l4) (k := (0, 0)) (α := Th) (l := l4) (v := vo) (i := (nth t.mks j).toNat) (d := t) w4 rfl (by kernel_rfl) rfl rfl (by omega) hutr fun h5 w5 hs5 => ?_
          exact hK3 () _ _ rfl rfl (by rw [hst4]; exact ⟨w5.congr siOwn_put, hs5 _ le4 av⟩)
        · rw [if_neg hc] at hst4
          have hcb : (decide (0 ≤ nth t.mks j) && decide (nth t.mks j < 8192)) = false := by
            rw [Bool.eq_false_iff]; intro e; exact hc (by simpa using e)
          simp [hcb]
          rw [hy]; clear hy y
          refine lwp_cond_f (by simp) ?_
          simp
          exact hK3 () _ _ rfl rfl (by rw [hst4]; exact ⟨w4, le4⟩)
      · rintro _ h4 ⟨w4, le4⟩
        rw [List.take_length] at w4
        simp
        exact hK2 () _ _ rfl rfl (by rw [hst]; exact ⟨w4, le4⟩)
    · rintro _ h3 ⟨w3, le3⟩
      rw [List.take_length] at w3
      simp
      rw [hz]; clear hz z
      simp
      refine hK _ _ ⟨le3, ?_⟩
      rw [hsi]
      exact (w3.get (k := (0, 0)) (v := vo) (l := ts.foldl siteTh (List.replicate N noTh)) rfl).rd (le_grow hV) fun b hb => by
        rw [hb1] at hb; cases hb
        exact grow_new (Nat.le_refl _)
end Go.Proofs.Ytfelpjfopgiabaa

/- The document's answer: what stands. -/
namespace Go.Proofs.Ytfelpjfopgiabaa
open Go Go.Lft
set_option linter.unusedSimpArgs false
set_option linter.unusedVariables false

def standsS (f : FuncD) (made : List Th) (away : List BL) (v blk place : Int) : Bool :=
  if 0 ≤ v ∧ v < f.params then true
  else if (v < 0 ∨ 8191 < v) ∨ (nth made v.toNat).blk < 0 then false
  else if (nth made v.toNat).blk = blk then decide ((nth made v.toNat).place < 0) || decide ((nth made v.toNat).place < place)
  else !nth (nth away (nth made v.toNat).blk.toNat) blk.toNat

theorem refStands_ok {f : FuncD} {made : List Th} {away : List BL} {x blk place : Int} {v vm va : Value} {V : View} {h : Heap} (hv : Rd V v f) (hm : SlRd V vm made) (ha : SlRd V va away) (hV : V.le (vw h))
    (hml : made.length = 8192) (hq1 : ∀ i, i < 8192 → (nth made i).blk < away.length) (hq2 : ∀ i, i < away.length → blk < (nth away i).length) (hq3 : 0 ≤ blk) :
    HCalls Try.prog N.ref03_stands #[v, vm, va, .int .i64 x, .int .i64 blk, .int .i64 place] h (fun u h' => u = .bool (standsS f made away x blk place) ∧ (vw h).le (vw h')) := by
  refine calls_lift (args := [v, vm, va, .int .i64 x, .int .i64 blk, .int .i64 place]) follows F.ref03_stands E.ref03_stands (Nat.le_of_ble_eq_true (by kernel_rfl)) fun K hK => ?_
  dsimp only [L.ref03_stands]
  refine lwp_hide fun z hz => ?_
  simp
  refine do_box (v := v) rfl ?_
  have hle1 := push_le h (.cells v.cells T.api_Func)
  have hat1 : At (grow V h (h.push (.cells v.cells T.api_Func))) ⟨h.size, 0, none⟩ f := at_new (t := T.api_Func) (fz := (0, 0)) (by rw [grow_new (Nat.le_refl _)]; simp) (hv.mono (le_grow hV))
  generalize h.push (.cells v.cells T.api_Func) = h1 at hle1 hat1
  have hW1 : (grow V h h1).le (vw h1) := grow_le (View.le_trans hV hle1)
  have hVW : V.le (grow V h h1) := le_grow hV
  obtain ⟨cp, vb, cb⟩ := at_funcB hat1
  generalize grow V h h1 = W1 at cp cb hW1 hVW
  have hm := hm.mono hVW
  have ha := ha.mono hVW
  generalize h.size = B at cp cb
  rw [hz]; clear hz z
  refine lwp_hide fun z hz => ?_
  have hst : standsS f made away x blk place = standsS f made away x blk place := rfl
  conv at hst => lhs; unfold standsS
  by_cases c1 : 0 ≤ x ∧ x < f.params
  · rw [if_pos c1] at hst
    simp [cellH_mono hW1 cp, c1]
    exact hK _ _ ⟨by rw [← hst], hle1⟩
  · rw [if_neg c1] at hst
    have hc1 : (decide (0 ≤ x) && decide (x < f.params)) = false := by rw [Bool.eq_false_iff]; intro e; exact c1 (by simpa using e)
    simp [cellH_mono hW1 cp, hc1]
    rw [hz]; clear hz z
    refine lwp_hide fun z hz => ?_
    by_cases c2 : x < 0 ∨ 8191 < x
    · rw [if_pos (.inl c2)] at hst
      have hc2 : (decide (x < 0) || decide (8191 < x)) = true := by simpa using c2
      simp [hc2]
      exact hK _ _ ⟨by rw [← hst], hle1⟩
    · have hc2 : (decide (x < 0) || decide (8191 < x)) = false := by rw [Bool.eq_false_iff]; intro e; exact c2 (by simpa using e)
      have hx : x.toNat < made.length := by omega
      have hat := hm.at hx
      rw [← nth_eq hx] at hat
      obtain ⟨ut, hut, hutr⟩ := hm.wh rfl (N := 4) rfl hx
      have hb1 := hq1 x.toNat (by omega)
      have hblk : cellH W1 (((slA vm).add (x.toNat * 4)).add 0) = some (.int .i64 (nth made x.toNat).blk) := (hat.part Th.p_blk).int
      simp (disch := omega) [hc2, (hm.mono hW1).idxn (N := 4) rfl, cellH_mono hW1 hblk]
      generalize nth made x.toNat = t at hst hblk hutr hb1 hat
      refine ⟨fun c3 => ?_, fun c3' => ?_⟩
      · rw [if_pos (.inr c3)] at hst
        exact hK _ _ ⟨by rw [← hst], hle1⟩
      · have c3 : ¬ t.blk < 0 := by omega
        rw [if_neg (by rintro (q | q) <;> contradiction)] at hst
        rw [hz]; clear hz z
        refine lwp_hide fun z hz => ?_
        simp (disch := omega) [(hm.mono hW1).idxn (N := 4) rfl, hut _ hW1]
        refine do_newX (X := W1) (z := .agg #[.int .i64 0, .int .i64 0, .slice none 0 0, .slice none 0 0]) (by kernel_rfl) rfl (by kernel_rfl) hutr (fun _ => by simp) (fun _ => by simp) fun h2 hle2 hs2 hat2 => ?_
        obtain ⟨tb, tp, _, _⟩ := at_thB (hat2 (grow W1 h1 h2) (le_grow hW1) (grow_new (Nat.le_refl _)))
        have hW2 : (grow W1 h1 h2).le (vw h2) := grow_le (View.le_trans hW1 hle2)
        have hW12 : W1.le (grow W1 h1 h2) := le_grow hW1
        generalize grow W1 h1 h2 = W2 at tb tp hW2 hW12
        generalize h1.size = D at tb tp
        have hle12 := View.le_trans hle1 hle2
        rw [hz]; clear hz z
        refine lwp_hide fun z hz => ?_
        by_cases c4 : t.blk = blk
        · rw [if_pos c4] at hst
          simp [cellH_mono hW2 tb, cellH_mono hW2 tp, c4]
          exact hK _ _ ⟨by rw [← hst], hle12⟩
        · rw [if_neg c4] at hst
          simp [cellH_mono hW2 tb, c4]
          rw [hz]; clear hz z
          refine lwp_hide fun z hz => ?_
          have ha2 := (ha.mono hW12).mono hW2
          obtain ⟨rv, hrv⟩ := ha2.rows
          obtain ⟨e1, e2⟩ := hrv t.blk.toNat (by omega)
          have hb2 := hq2 t.blk.toNat (by omega)
          have e3 := (e2.at (i := blk.toNat) (by omega)).bool
          rw [← nth_eq, show blk.toNat * Rep.n Bool = blk.toNat from Nat.mul_one _] at e3
          simp (disch := omega) [cellH_mono hW2 tb, ha2.idxn (N := 1) rfl, e1 _ (View.le_refl _), e2.idxn (N := 1) rfl, e3]
          rw [hz]; clear hz z
          simp
          exact hK _ _ ⟨by rw [← hst], hle12⟩
end Go.Proofs.Ytfelpjfopgiabaa

