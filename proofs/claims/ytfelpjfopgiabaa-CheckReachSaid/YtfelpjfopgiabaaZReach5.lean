/- A part of the proof: Mf, Mg, Mh, Mi, Mj, Mk, Ml, Mm, Mn, Mo, Mp, Mq, Mr, Ms, Mt, Mu, Mv, Mw, Mx. -/
import Derived.Test.YtfelpjfopgiabaaZReach4
set_option linter.unusedSimpArgs false
set_option linter.unusedVariables false
namespace Go.Proofs.Ytfelpjfopgiabaa
open Go Go.Lft
def Nz (s : List Int) (M : Nat) (vs : Value) (W0 : View) (h : Heap) (o0 : Own) (m : MS) (u : Value) (ds : List Int) : Prop := ∃ W o, W0.le W ∧ Mk s M vs W h o m ∧ (∀ k : Key, 3 ≤ k.1 → o k = o0 k) ∧ SlRd W u ds
section
variable {s : List Int} {M : Nat} {vs : Value} {W0 : View} {h : Heap} {o0 : Own} {m : MS} {u : Value} {ds : List Int}
theorem Nx.z (n : Nx s M vs W0 h o0 m) : Nz s M vs W0 h o0 m (.slice none 0 0) [] := by
 obtain ⟨W, o, h1, h2, h3⟩ := n
 exact ⟨W, o, h1, h2, h3, nil_sl⟩
theorem Nz.x (n : Nz s M vs W0 h o0 m u ds) : Nx s M vs W0 h o0 m := by
 obtain ⟨W, o, h1, h2, h3, _⟩ := n
 exact ⟨W, o, h1, h2, h3⟩
theorem Nz.call {f : FuncId} {args : Array Value} {m' : MS} {U : Value → Prop} (hc : ∀ {W o}, Mk s M vs W h o m → HCalls Try.prog f args h (fun u h' => U u ∧ Nx s M vs W h' o m')) (n : Nz s M vs W0 h o0 m u ds) :
  HCalls Try.prog f args h (fun v h' => U v ∧ Nz s M vs W0 h' o0 m' u ds) := by
 obtain ⟨W, o, h1, h2, h3, h4⟩ := n
 refine (hc h2).mono ?_
 rintro v h' ⟨hU, W', o', g1, g2, g3⟩
 exact ⟨hU, W', o', View.le_trans h1 g1, g2, fun k hk => (g3 k hk).trans (h3 k hk), h4.mono g1⟩
theorem nz_take (n : Nz s M vs W0 h o0 m u ds) {c : Nat} (hm : m.ok c) (hc : c ≤ 1000000) {k : Int} (hk : 0 < k) (hk2 : k ≤ 1000000000) :
  HCalls Try.prog N.ref03_maker_take #[.pointer (some ⟨M, 0, none⟩), .int .i64 k] h (fun v h' => v = .int .i64 (takeV s m.at_ k) ∧ Nz s M vs W0 h' o0 m.took u ds) :=
 n.call (U := fun v => v = _) fun w => ((w.take (by have := hm.at_; omega) hk hk2).mono fun v h' ⟨e, o', w', f'⟩ => ⟨e, w'.nx.trans (View.le_refl _) f'⟩)
theorem nz_fresh (n : Nz s M vs W0 h o0 m u ds) {c : Nat} (hm : m.ok c) (hc : c ≤ 1000000) :
  HCalls Try.prog N.ref03_maker_fresh #[.pointer (some ⟨M, 0, none⟩)] h (fun v h' => v = .int .i64 m.next ∧ Nz s M vs W0 h' o0 m.freshed u ds) :=
 n.call (U := fun v => v = _) fun w => ((w.fresh hm.n0 (by have := hm.next; omega)).mono fun v h' ⟨e, o', w', f'⟩ => ⟨e, w'.nx.trans (View.le_refl _) f'⟩)
theorem nz_word (n : Nz s M vs W0 h o0 m u ds) {c : Nat} (hm : m.ok c) (hc : c ≤ 1000000) :
  HCalls Try.prog N.ref03_maker_word #[.pointer (some ⟨M, 0, none⟩)] h (fun v h' => v = .int .i32 (wordV s m) ∧ Nz s M vs W0 h' o0 m.took.took u ds) :=
 n.call (U := fun v => v = _) fun w => ((w.word (by have := hm.at_; omega)).mono fun v h' ⟨e, o', w', f'⟩ => ⟨e, w'.nx.trans (View.le_refl _) f'⟩)
theorem nz_constant (n : Nz s M vs W0 h o0 m u ds) {b c : Nat} (hb : b < m.blocks.length) (hm : m.ok c) (hc : c ≤ 1000000) {k : Int} (hk : -2147483648 ≤ k ∧ k ≤ 2147483647) :
  HCalls Try.prog N.ref03_maker_constant #[.pointer (some ⟨M, 0, none⟩), .int .i64 b, .int .i32 k] h (fun v h' => v = .int .i64 m.next ∧ Nz s M vs W0 h' o0 (m.constant b k) u ds) :=
 n.call (U := fun v => v = _) fun w => w.constant hb hm hc hk
theorem nz_some (n : Nz s M vs W0 h o0 m u ds) {b c : Nat} (hb : b < m.blocks.length) (hm : m.ok c) (hc : c ≤ 999990) :
  HCalls Try.prog N.ref03_maker_some #[.pointer (some ⟨M, 0, none⟩), .int .i64 b] h (fun v h' => (v = .int .i64 (someS s m b).1 ∧ I64 (someS s m b).1) ∧ Nz s M vs W0 h' o0 (someS s m b).2 u ds) :=
 n.call (U := fun v => v = _ ∧ _) fun w => (mk_some w hb hm hc).mono fun v h' ⟨e1, e2, e3⟩ => ⟨⟨e1, e2⟩, e3⟩
theorem nz_add (n : Nz s M vs W0 h o0 m u ds) {b c : Nat} {op d two imm : Int} (hb : b < m.blocks.length) (hm : m.ok c) (hc : c ≤ 1000000) (h1 : I64 op) (h2 : I64 d) (h3 : I64 two) (h4 : -2147483648 ≤ imm ∧ imm ≤ 2147483647) :
  HCalls Try.prog N.ref03_maker_add #[.pointer (some ⟨M, 0, none⟩), .int .i64 b, .agg #[.int .i64 op, .int .i64 d, .int .i64 two, u, .int .i32 imm]] h (fun v h' => Nx s M vs W0 h' o0 (m.add b ⟨op, d, two, ds, ⟨imm⟩⟩)) := by
 obtain ⟨W, o, g1, g2, g3, g4⟩ := n
 refine (g2.add (i := ⟨op, d, two, ds, ⟨imm⟩⟩) hb (rd_insOf (imm := ⟨imm⟩) ⟨h1, h2, h3, h4⟩ g4) (by have := hm.ins b; omega) (by have := hm.live; omega)).mono ?_
 rintro v h' n'
 exact n'.trans g1 g3
theorem Nz.lit {po : OP} (n : Nz s M vs W0 h o0 m u ds) {ty : TypeId} {ps : Array (Nat × Operand)} {us : List (Nat × Value)} {ls : List Int} {k : Nat} {K : Value → Heap → Prop}
  (hp : ps.map (fun p => (p.1, asg us p.2)) = (((ls.map fun x => Value.int .i64 x).zipIdx 0).map fun p => (p.2, p.1)).toArray) (hr : ∀ x ∈ ls, I64 x) (hn : ls.length = k) (hb : k ≤ 16777216)
  (hk : ∀ a n c h', (vw h).le (vw h') → Nz s M vs W0 h' o0 m (.slice a n c) ls → K (.slice a n c) h') : @Lft.step po Try.prog (.buildSlice T.s_int k ps) ty us h K := by
 obtain ⟨W, o, g1, g2, g3, g4⟩ := n
 have hra : ∀ l : List Int, (∀ x ∈ l, I64 x) → RdAll W (l.map fun x => Value.int .i64 x) l := by
  intro l
  induction l with
  | nil => intro _; trivial
  | cons a l ih => intro hl; exact ⟨rd_int.2 ⟨rfl, hl a (by simp)⟩, ih fun x hx => hl x (by simp [hx])⟩
 refine do_litN (X := W) (ds := ls) (vs := ls.map fun x => Value.int .i64 x) rfl El.s_int hp (hra ls hr) g2.own.wle hn hb fun v h' hle hs hv _ => ?_
 have hs2 := hv _ (le_grow g2.own.wle) (grow_new (Nat.le_refl _))
 obtain ⟨a, cp, rfl, _⟩ := id hs2
 refine hk _ _ _ h' hle ?_
 exact ⟨_, o, View.le_trans g1 (le_grow g2.own.wle), ⟨g2.own.ext hle, g2.src.mono (le_grow g2.own.wle), g2.box⟩, g3, hs2⟩
end
theorem MS.ok.nextI {c : Nat} {m : MS} (h : m.ok c) (hc : c ≤ 1000000) : I64 m.next := by
 have := h.n0; have := h.next; constructor <;> omega
theorem constant_len {m : MS} {b : Nat} {n : Int} : (m.constant b n).blocks.length = m.blocks.length := add_len
theorem two_len {m : MS} {b : Nat} {op x y : Int} : (m.two b op x y).blocks.length = m.blocks.length := add_len
theorem i64c {x : Int} (h0 : -1000 ≤ x := by decide) (h1 : x ≤ 1000 := by decide) : I64 x := ⟨by omega, by omega⟩
theorem mk_memory {s : List Int} {M : Nat} {vs : Value} {W0 : View} {h : Heap} {o0 : Own} {m : MS} (n : Nx s M vs W0 h o0 m) {b c : Nat} {store : Bool} (hb : b < m.blocks.length) (hm : m.ok c) (hc : c ≤ 900000) :
  HCalls Try.prog N.ref03_maker_memory #[.pointer (some ⟨M, 0, none⟩), .int .i64 b, .bool store] h (fun v h' => Nx s M vs W0 h' o0 (memoryS s m b store)) := by
 refine calls_lift (args := [.pointer (some ⟨M, 0, none⟩), .int .i64 b, .bool store]) follows F.ref03_maker_memory E.ref03_maker_memory (Nat.le_of_ble_eq_true (by kernel_rfl)) fun K hK => ?_
 dsimp only [L.ref03_maker_memory]
 have n := n.z
 have hmm : memoryS s m b store = _ := memoryS.eq_1 s m b store
 refine lwp_hide fun z hz => ?_
 simp
 refine call_to (by kernel_rfl) (nz_take n hm (by omega) (k := 9) (by decide) (by decide)) ?_
 rintro _ h1 ⟨rfl, n⟩
 simp
 refine call_to (by kernel_rfl) (nz_constant n (b := b) hb hm.took (by omega) (k := IntKind.i32.wrap (takeV s m.at_ 9)) i32_rng) ?_
 rintro _ h2 ⟨rfl, n⟩
 have q := hm.took.constant (b := b) (n := IntKind.i32.wrap (takeV s m.at_ 9))
 have hb1 : b < (m.took.constant b (IntKind.i32.wrap (takeV s m.at_ 9))).blocks.length := by rw [constant_len]; exact hb
 obtain ⟨m1, hm1⟩ : ∃ m1, m1 = m.took.constant b (IntKind.i32.wrap (takeV s m.at_ 9)) := ⟨_, rfl⟩
 have had : addrS s m b = _ := addrS.eq_1 s m b
 rw [← hm1] at n q hb1
 simp only [← hm1] at had
 have hnx : I64 m.next := hm.nextI (by omega)
 have hnt : m.took.next = m.next := rfl
 rw [hnt]
 generalize m.next = a0 at had hnx
 clear hm1 hm hnt
 rw [hz]; clear hz z
 refine lwp_hide fun z hz => ?_
 have fin : ∀ (a : Int) (m2 : MS) (h' : Heap) (ρ : Env), addrS s m b = (a, m2) → I64 a → m2.ok (c + 30) → b < m2.blocks.length → Nz s M vs W0 h' o0 m2 (.slice none 0 0) [] → Lft.look ρ 0 = some (.pointer (some ⟨M, 0, none⟩)) → Lft.look ρ 1 = some (.int .i64 b) → Lft.look ρ 2 = some (.bool store) → Lft.look ρ 6 = some (.int .i64 a) → LC.wp Try.prog z (fnPost [] K) ρ h' := by
  intro a m2 h' ρ e ha q hb n r0 r1 r2 r6
  rw [hz]; clear hz z
  simp only [e] at hmm
  refine lwp_hide fun z hz => ?_
  simp [look_setE, look_kill, r0, r1, r2, r6]
  refine call_to (by kernel_rfl) (nz_take n q (by omega) (k := 4) (by decide) (by decide)) ?_
  rintro _ h1 ⟨rfl, n⟩
  simp [look_setE, look_kill, r0, r1, r2, r6]
  rw [hz]; clear hz z
  refine lwp_hide fun z hz => ?_
  have fin2 : ∀ (i : Int) (m3 : MS) (h' : Heap) (ρ : Env), offS s m2 = (i, m3) → (-2147483648 ≤ i ∧ i ≤ 2147483647) → m3.ok (c + 40) → b < m3.blocks.length → Nz s M vs W0 h' o0 m3 (.slice none 0 0) [] → Lft.look ρ 0 = some (.pointer (some ⟨M, 0, none⟩)) → Lft.look ρ 1 = some (.int .i64 b) → Lft.look ρ 2 = some (.bool store) → Lft.look ρ 6 = some (.int .i64 a) → Lft.look ρ 11 = some (.int .i32 i) → LC.wp Try.prog z (fnPost [] K) ρ h' := by
   intro i m3 h' ρ e hi q hb n r0 r1 r2 r6 r11
   rw [hz]; clear hz z
   simp only [e] at hmm
   refine lwp_hide fun z hz => ?_
   simp [look_setE, look_kill, r0, r1, r2, r6, r11]
   rw [hz]; clear hz z
   cases store with
   | true =>
    rw [if_pos rfl] at hmm
    refine lwp_cond_t (by simp [look_setE, look_kill, r2]) ?_
    simp [look_setE, look_kill, r0, r1, r2, r6, r11]
    refine call_to (by kernel_rfl) (nz_some n hb q (by omega)) ?_
    rintro _ h1 ⟨⟨rfl, hs⟩, n⟩
    refine n.lit (ls := [a, (someS s m3 b).1]) (by simp) (by simp [ha, hs]) rfl (by decide) fun ua un uc h2 _ n => ?_
    refine do_build (z := .agg #[.int .i64 0, .int .i64 0, .int .i64 0, .slice none 0 0, .int .i32 0]) (places := [(0, 1), (1, 1), (2, 1), (3, 1), (4, 1)]) (vs := [(0, .int .i64 16), (3, .slice ua un uc), (4, .int .i32 i)]) (cs := #[.int .i64 16, .int .i64 0, .int .i64 0, .slice ua un uc, .int .i32 i]) (by kernel_rfl) (by kernel_rfl) (by simp) (by rfl) ?_
    refine call_to (by kernel_rfl) (nz_add n (b := b) (by rw [some_len]; exact hb) (q.someS (b := b)) (by omega) i64c i64c i64c hi) ?_
    rintro _ h3 n
    refine hK _ _ ?_
    rw [hmm]; exact n
   | false =>
    rw [if_neg (by simp)] at hmm
    refine lwp_cond_f (by simp [look_setE, look_kill, r2]) ?_
    simp [look_setE, look_kill, r0, r1, r2, r6, r11]
    refine call_to (by kernel_rfl) (nz_fresh n q (by omega)) ?_
    rintro _ h1 ⟨rfl, n⟩
    refine n.lit (ls := [a]) (by simp) (by simp [ha]) rfl (by decide) fun ua un uc h2 _ n => ?_
    refine do_build (z := .agg #[.int .i64 0, .int .i64 0, .int .i64 0, .slice none 0 0, .int .i32 0]) (places := [(0, 1), (1, 1), (2, 1), (3, 1), (4, 1)]) (vs := [(0, .int .i64 15), (1, .int .i64 m3.next), (3, .slice ua un uc), (4, .int .i32 i)]) (cs := #[.int .i64 15, .int .i64 m3.next, .int .i64 0, .slice ua un uc, .int .i32 i]) (by kernel_rfl) (by kernel_rfl) (by simp) (by rfl) ?_
    refine call_to (by kernel_rfl) (nz_add n (b := b) hb q.freshed (by omega) i64c (q.nextI (by omega)) i64c hi) ?_
    rintro _ h3 n
    refine hK _ _ ?_
    rw [hmm]; exact n
  have hof : offS s m2 = _ := offS.eq_1 s m2
  refine lwp_hide fun y hy => ?_
  simp [look_setE, look_kill, r0, r1, r2, r6]
  refine call_to (by kernel_rfl) (nz_take n q.took (by omega) (k := 12) (by decide) (by decide)) ?_
  rintro _ h2 ⟨rfl, n⟩
  have hx : m2.took.at_ = m2.at_ + 1 := rfl
  rw [hx]
  simp [look_setE, look_kill, r0, r1, r2, r6]
  rw [hy]; clear hy y
  by_cases c12 : takeV s (m2.at_ + 1) 12 = 0
  ·rw [if_pos c12] at hof
   refine lwp_cond_t (by simp [look_setE, look_kill, c12]) ?_
   simp [look_setE, look_kill, r0, r1, r2, r6]
   refine call_to (by kernel_rfl) (nz_word n q.took.took (by omega)) ?_
   rintro _ h3 ⟨rfl, n⟩
   exact fin2 _ _ h3 _ hof wordV_rng (q.took.took.took.took.mono (by omega)) hb n (by simp [look_setE, look_kill, r0]) (by simp [look_setE, look_kill, r1]) (by simp [look_setE, look_kill, r2]) (by simp [look_setE, look_kill, r6]) (by simp [look_setE, look_kill])
  ·rw [if_neg c12] at hof
   refine lwp_cond_f (by simp [look_setE, look_kill, c12]) ?_
   simp [look_setE, look_kill, r0, r1, r2, r6]
   exact fin2 _ _ h2 _ hof i32_rng (q.took.took.mono (by omega)) hb n (by simp [look_setE, look_kill, r0]) (by simp [look_setE, look_kill, r1]) (by simp [look_setE, look_kill, r2]) (by simp [look_setE, look_kill, r6]) (by simp [look_setE, look_kill])
 refine lwp_hide fun y hy => ?_
 simp
 refine call_to (by kernel_rfl) (nz_take n q (by omega) (k := 3) (by decide) (by decide)) ?_
 rintro _ h3 ⟨rfl, n⟩
 simp
 rw [hy]; clear hy y
 by_cases c3 : takeV s m1.at_ 3 = 0
 ·rw [if_pos c3] at had
  refine lwp_cond_t (by simp [c3]) ?_
  refine lwp_hide fun y hy => ?_
  simp
  refine call_to (by kernel_rfl) (nz_some n (b := b) hb1 q.took (by omega)) ?_
  rintro _ h4 ⟨⟨rfl, hs⟩, n⟩
  have q := q.took.someS (s := s) (b := b)
  have hb2 : b < (someS s m1.took b).2.blocks.length := by rw [some_len]; exact hb1
  generalize someS s m1.took b = r at had hs n q hb2
  rw [hy]; clear hy y
  refine lwp_hide fun y hy => ?_
  simp
  refine call_to (by kernel_rfl) (nz_constant n (b := b) hb2 q (by omega) (k := 7) (by decide)) ?_
  rintro _ h5 ⟨rfl, n⟩
  rw [hy]; clear hy y
  refine lwp_hide fun y hy => ?_
  simp
  have q5 := q.constant (b := b) (n := 7)
  refine call_to (by kernel_rfl) (nz_fresh n q5 (by omega)) ?_
  rintro _ h6 ⟨rfl, n⟩
  have hn5 : (r.2.constant b 7).next = r.2.next + 1 := rfl
  rw [hn5]
  rw [hy]; clear hy y
  refine lwp_hide fun y hy => ?_
  simp
  have i5 := q5.nextI (by omega)
  rw [hn5] at i5
  refine n.lit (ls := [r.1, r.2.next]) (by simp) (by simp [hs, q.nextI (by omega : c + 1 + 3 + 1 + 10 ≤ 1000000)]) rfl (by decide) fun ua un uc h7 _ n => ?_
  refine do_build (z := .agg #[.int .i64 0, .int .i64 0, .int .i64 0, .slice none 0 0, .int .i32 0]) (places := [(0, 1), (1, 1), (2, 1), (3, 1), (4, 1)]) (vs := [(0, .int .i64 5), (1, .int .i64 (r.2.next + 1)), (3, .slice ua un uc)]) (cs := #[.int .i64 5, .int .i64 (r.2.next + 1), .int .i64 0, .slice ua un uc, .int .i32 0]) (by kernel_rfl) (by kernel_rfl) (by simp) (by rfl) ?_
  refine call_to (by kernel_rfl) (nz_add n (b := b) (imm := 0) (by rw [show (r.2.constant b 7).freshed.blocks = (r.2.constant b 7).blocks from rfl, constant_len]; exact hb2) q5.freshed (by omega) i64c i5 i64c (by decide)) ?_
  rintro _ h8 n
  have n : Nx s M vs W0 h8 o0 ((r.2.constant b 7).two b 5 r.1 r.2.next) := n
  have q6 := q5.two (b := b) (op := 5) (x := r.1) (y := r.2.next)
  have hb3 : b < ((r.2.constant b 7).two b 5 r.1 r.2.next).blocks.length := by rw [two_len, constant_len]; exact hb2
  generalize (r.2.constant b 7).two b 5 r.1 r.2.next = m3 at had n q6 hb3
  have n := n.z
  rw [hy]; clear hy y
  refine lwp_hide fun y hy => ?_
  simp
  refine call_to (by kernel_rfl) (nz_fresh n q6 (by omega)) ?_
  rintro _ h9 ⟨rfl, n⟩
  rw [hy]; clear hy y
  refine lwp_hide fun y hy => ?_
  simp
  refine n.lit (ls := [a0, r.2.next + 1]) (by simp) (by simp [hnx, i5]) rfl (by decide) fun ua2 un2 uc2 h10 _ n => ?_
  refine do_build (z := .agg #[.int .i64 0, .int .i64 0, .int .i64 0, .slice none 0 0, .int .i32 0]) (places := [(0, 1), (1, 1), (2, 1), (3, 1), (4, 1)]) (vs := [(0, .int .i64 2), (1, .int .i64 m3.next), (3, .slice ua2 un2 uc2)]) (cs := #[.int .i64 2, .int .i64 m3.next, .int .i64 0, .slice ua2 un2 uc2, .int .i32 0]) (by kernel_rfl) (by kernel_rfl) (by simp) (by rfl) ?_
  refine call_to (by kernel_rfl) (nz_add n (b := b) (imm := 0) hb3 q6.freshed (by omega) i64c (q6.nextI (by omega)) i64c (by decide)) ?_
  rintro _ h11 n
  rw [hy]; clear hy y
  simp
  refine fin m3.next (m3.two b 2 a0 (r.2.next + 1)) h11 _ had (q6.nextI (by omega)) (q6.two.mono (by omega)) (by rw [two_len]; exact hb3) n.z ?_ ?_ ?_ ?_
  all_goals simp
 ·rw [if_neg c3] at had
  refine lwp_cond_f (by simp [c3]) ?_
  simp
  exact fin a0 m1.took h3 _ had hnx (q.took.mono (by omega)) hb1 n (by simp) (by simp) (by simp) (by simp)
end Go.Proofs.Ytfelpjfopgiabaa
namespace Go.Proofs.Ytfelpjfopgiabaa
open Go Go.Lft
section
variable {s : List Int} {M : Nat} {vs : Value} {W0 : View} {h : Heap} {o0 : Own} {m : MS} {u : Value} {ds : List Int}
theorem Nz.le (n : Nz s M vs W0 h o0 m u ds) : W0.le (vw h) := by
 obtain ⟨W, o, h1, h2, _⟩ := n
 exact View.le_trans h1 h2.own.wle
theorem Nz.base (n : Nz s M vs W0 h o0 m u ds) : ∃ W o, Nz s M vs W h o m u ds ∧ SlRd W u ds ∧ ∀ {h' m' u' ds'}, Nz s M vs W h' o m' u' ds' → Nz s M vs W0 h' o0 m' u' ds' := by
 obtain ⟨W, o, h1, h2, h3, h4⟩ := n
 refine ⟨W, o, ⟨W, o, View.le_refl _, h2, fun _ _ => rfl, h4⟩, h4, ?_⟩
 rintro h' m' u' ds' ⟨W', o', g1, g2, g3, g4⟩
 exact ⟨W', o', View.le_trans h1 g1, g2, fun k hk => (g3 k hk).trans (h3 k hk), g4⟩
end
theorem sl_arr {H : View} {B n : Nat} {l : List Int} {t : TypeId} (hb : H B = some (.cells (l.map fun x => Value.int .i64 x).toArray t (0, 0))) (hn : l.length = n) (h1 : 0 < n ∧ n ≤ 1000) (hr : ∀ x ∈ l, I64 x) : SlRd H (.slice (some ⟨B, 0, none⟩) n n) l := by
 refine ⟨some ⟨B, 0, none⟩, n, by rw [hn], by omega, by omega, .inr ⟨⟨B, 0, none⟩, rfl, rfl, fun i hi => ?_⟩⟩
 have e : (⟨B, 0, none⟩ : Addr).add (i * Rep.n Int) = ⟨B, i, none⟩ := by
  show (⟨B, 0, none⟩ : Addr).add (i * 1) = _
  simp
 rw [e]
 refine ⟨[.int .i64 l[i]], ⟨_, t, (0, 0), rfl, hb, ?_⟩, (rd_int (v := .int .i64 l[i]) (H := H)).2 ⟨rfl, hr _ (List.getElem_mem hi)⟩ |> fun q => ?_⟩
 ·show ((l.map fun x => Value.int .i64 x).toArray.toList.drop i).take 1 = _
  rw [List.toList_toArray, List.drop_eq_getElem_cons (by simpa using hi)]
  simp
 ·exact ⟨rfl, hr _ (List.getElem_mem hi)⟩
theorem opsL_rng : ∀ x ∈ opsL, I64 x := by
 intro x hx
 have : ∀ x ∈ opsL, 0 ≤ x ∧ x ≤ 12 := by decide
 have := this x hx
 exact ⟨by omega, by omega⟩
theorem MkB.frame {M : Nat} {vs : Value} {m : MS} {o o' : Own} {vb vl : Value} {lb : List BlkM} (b : MkB M vs m o vb vl lb) (hf : ∀ k : Key, k.1 < 3 → o' k = o k) : MkB M vs m o' vb vl lb :=
 ⟨(hf _ (by decide)).trans b.box, (hf _ (by decide)).trans b.live, (hf _ (by decide)).trans b.blk, b.len, b.term, fun i hi => (hf _ (by show 1 < 3; decide)).trans (b.phis i hi), fun i hi => (hf _ (by show 2 < 3; decide)).trans (b.ins i hi)⟩
theorem up_args_len {s : List Int} {b : Nat} {x : List Int × MS} : ∀ k, (up (argsS s b) k x).2.blocks.length = x.2.blocks.length := by
 intro k
 induction k with
 | zero => rfl
 | succ k ih =>
  show (someS s (up (argsS s b) k x).2 b).2.blocks.length = _
  rw [some_len, ih]
theorem up_args {s : List Int} {b c : Nat} {x : List Int × MS} (hx : x.2.ok c) : ∀ k, (up (argsS s b) k x).2.ok (c + 10 * k) ∧ (up (argsS s b) k x).1.length = x.1.length + k ∧ (up (argsS s b) k x).2.blocks.length = x.2.blocks.length := by
 intro k
 induction k with
 | zero => exact ⟨hx, rfl, rfl⟩
 | succ k ih =>
  obtain ⟨h1, h2, h3⟩ := ih
  refine ⟨(h1.someS).mono (by omega), ?_, ?_⟩
  ·show ((up (argsS s b) k x).1 ++ [_]).length = _
   rw [List.length_append, h2, List.length_singleton]; omega
  ·show (someS s (up (argsS s b) k x).2 b).2.blocks.length = _
   rw [some_len, h3]
theorem mk_instruction {s : List Int} {M : Nat} {vs : Value} {W0 : View} {h : Heap} {o0 : Own} {m : MS} (n : Nx s M vs W0 h o0 m) {b c : Nat} (hb : b < m.blocks.length) (hm : m.ok c) (hc : c ≤ 800000) (hfree : o0 (9, 0) = none) :
  HCalls Try.prog N.ref03_maker_instruction #[.pointer (some ⟨M, 0, none⟩), .int .i64 b] h (fun v h' => Nx s M vs W0 h' o0 (instructionS s b m)) := by
 refine calls_lift (args := [.pointer (some ⟨M, 0, none⟩), .int .i64 b]) follows F.ref03_maker_instruction E.ref03_maker_instruction (Nat.le_of_ble_eq_true (by kernel_rfl)) fun K hK => ?_
 dsimp only [L.ref03_maker_instruction]
 have n := n.z
 have hmm : instructionS s b m = _ := instructionS.eq_1 s b m
 refine lwp_hide fun z hz => ?_
 simp
 refine call_to (by kernel_rfl) (nz_take n hm (by omega) (k := 20) (by decide) (by decide)) ?_
 rintro _ h1 ⟨rfl, n⟩
 obtain ⟨k0, k1⟩ := takeV_rng (s := s) (at_ := m.at_) (n := 20) (by decide)
 have q := hm.took
 have hb1 : b < m.took.blocks.length := hb
 rw [hz]; clear hz z
 generalize takeV s m.at_ 20 = k at hmm k0 k1
 generalize hm1 : m.took = m1 at hmm n q hb1
 have hw : wordV s m1 = wordV s m1 := rfl
 simp only [lwp_block]
 refine lwp_hide fun z hz => ?_
 simp
 rw [hz]; clear hz z
 by_cases c1 : k < 12
 ·rw [if_pos c1] at hmm
  refine lwp_cond_t (by simp [c1]) ?_
  obtain ⟨kn, rfl⟩ : ∃ kn : Nat, k = kn := ⟨k.toNat, by omega⟩
  have hkn : kn < 12 := by omega
  refine lwp_hide fun z hz => ?_
  simp
  have hcs : (#[.int .i64 2, .int .i64 2, .int .i64 3, .int .i64 4, .int .i64 5, .int .i64 6, .int .i64 7, .int .i64 8, .int .i64 9, .int .i64 10, .int .i64 12, .int .i64 11] : Array Value) = (opsL.map fun x => Value.int .i64 x).toArray := rfl
  refine do_build (z := .agg #[.int .i64 0, .int .i64 0, .int .i64 0, .int .i64 0, .int .i64 0, .int .i64 0, .int .i64 0, .int .i64 0, .int .i64 0, .int .i64 0, .int .i64 0, .int .i64 0]) (places := [(0, 1), (1, 1), (2, 1), (3, 1), (4, 1), (5, 1), (6, 1), (7, 1), (8, 1), (9, 1), (10, 1), (11, 1)]) (vs := [(0, .int .i64 2), (1, .int .i64 2), (2, .int .i64 3), (3, .int .i64 4), (4, .int .i64 5), (5, .int .i64 6), (6, .int .i64 7), (7, .int .i64 8), (8, .int .i64 9), (9, .int .i64 10), (10, .int .i64 12), (11, .int .i64 11)])
   (cs := #[.int .i64 2, .int .i64 2, .int .i64 3, .int .i64 4, .int .i64 5, .int .i64 6, .int .i64 7, .int .i64 8, .int .i64 9, .int .i64 10, .int .i64 12, .int .i64 11]) (by kernel_rfl) (by kernel_rfl) (by simp) (by rfl) ?_
  refine do_newV (v := .agg #[.int .i64 2, .int .i64 2, .int .i64 3, .int .i64 4, .int .i64 5, .int .i64 6, .int .i64 7, .int .i64 8, .int .i64 9, .int .i64 10, .int .i64 12, .int .i64 11]) (z := .agg #[.int .i64 0, .int .i64 0, .int .i64 0, .int .i64 0, .int .i64 0, .int .i64 0, .int .i64 0, .int .i64 0, .int .i64 0, .int .i64 0, .int .i64 0, .int .i64 0]) (n := 12) (by kernel_rfl) rfl (by kernel_rfl) rfl (by simp [Value.cells, Value.oneCell']) (fun _ => by simp) (fun _ => by simp) fun h2 hle2 hs2 hb2 => ?_
  have n : Nz s M vs W0 h2 o0 m1 (.slice (some ⟨h1.size, 0, none⟩) 12 12) opsL := by
   obtain ⟨W, o, g1, g2, g3, g4⟩ := n
   refine ⟨_, o, View.le_trans g1 (le_grow g2.own.wle), ⟨g2.own.ext hle2, g2.src.mono (le_grow g2.own.wle), g2.box⟩, g3, ?_⟩
   have hg : grow W h1 h2 h1.size = some (.cells (opsL.map fun x => Value.int .i64 x).toArray T.a12_int (0, 0)) := by
    rw [grow_new (Nat.le_refl _), hb2]; rfl
   exact sl_arr hg rfl (by decide) opsL_rng
  generalize h1.size = B at n
  rw [hz]; clear hz z
  refine lwp_hide fun z hz => ?_
  simp
  refine call_to (by kernel_rfl) (nz_some n hb1 q (by omega)) ?_
  rintro _ h3 ⟨⟨rfl, i2⟩, n⟩
  have q := q.someS (s := s) (b := b)
  have hb2 : b < (someS s m1 b).2.blocks.length := by rw [some_len]; exact hb1
  simp only [binS] at hmm
  generalize someS s m1 b = r1 at hmm n q hb2 i2
  rw [hz]; clear hz z
  refine lwp_hide fun z hz => ?_
  simp
  refine call_to (by kernel_rfl) (nz_some n hb2 q (by omega)) ?_
  rintro _ h4 ⟨⟨rfl, i3⟩, n⟩
  have q := q.someS (s := s) (b := b)
  have hb3 : b < (someS s r1.2 b).2.blocks.length := by rw [some_len]; exact hb2
  generalize someS s r1.2 b = r2 at hmm n q hb3 i3
  rw [hz]; clear hz z
  refine lwp_hide fun z hz => ?_
  have fin : ∀ (e : Int) (m3 : MS) (h' : Heap) (ρ : Env), instructionS s b m = m3.two b (nth opsL kn) r1.1 e → I64 e → m3.ok (c + 60) → b < m3.blocks.length → Nz s M vs W0 h' o0 m3 (.slice (some ⟨B, 0, none⟩) 12 12) opsL → Lft.look ρ 0 = some (.pointer (some ⟨M, 0, none⟩)) → Lft.look ρ 1 = some (.int .i64 b) → Lft.look ρ 4 = some (.int .i64 kn) → Lft.look ρ 5 = some (.pointer (some ⟨B, 0, none⟩)) → Lft.look ρ 6 = some (.int .i64 r1.1) → Lft.look ρ 7 = some (.int .i64 e) → LC.wp Try.prog z (inBlk 0 (fnPost [] K)) ρ h' := by
   intro e m3 h' ρ hmm ie q hb n r0 r1' r4 r5 r6 r7
   rw [hz]; clear hz z
   obtain ⟨W, o, n, sl, back⟩ := n.base
   have iop := sl.range (i := kn) (by show kn < 12; omega)
   have hop : cellH W ⟨B, kn, none⟩ = some (.int .i64 (nth opsL kn)) := by
    have := sl.int (View.le_refl W) (i := kn) (by show kn < 12; omega)
    simpa [slA] using this
   have hix : Bn.ev (.aidx 12 1) (.pointer (some ⟨B, 0, none⟩)) (.int .i64 kn) = some (.pointer (some ⟨B, kn, none⟩)) := by
    simp only [Bn.ev, vP, vI, Option.bind_some]
    rw [if_pos ⟨by omega, by omega⟩]
    simp
   generalize nth opsL kn = op at hmm iop hop
   refine drawn_at W n.le ?_
   simp [look_setE, look_kill, r0, r1', r4, r5, r6, r7, hix, hop]
   constructor
   ·refine call_to (by kernel_rfl) (nz_fresh n q (by omega)) ?_
    rintro _ h4 ⟨rfl, n⟩
    refine ⟨n.le, ?_⟩
    refine n.lit (ls := [r1.1, e]) (by simp) (by simp [i2, ie]) rfl (by decide) fun ua un uc h5 _ n => ⟨n.le, ?_⟩
    refine do_build (z := .agg #[.int .i64 0, .int .i64 0, .int .i64 0, .slice none 0 0, .int .i32 0]) (places := [(0, 1), (1, 1), (2, 1), (3, 1), (4, 1)]) (vs := [(0, .int .i64 op), (1, .int .i64 m3.next), (3, .slice ua un uc)]) (cs := #[.int .i64 op, .int .i64 m3.next, .int .i64 0, .slice ua un uc, .int .i32 0]) (by kernel_rfl) (by kernel_rfl) (by simp) (by rfl) ?_
    refine call_to (by kernel_rfl) (nz_add n (b := b) hb q.freshed (by omega) iop (q.nextI (by omega)) i64c (by decide)) ?_
    rintro _ h6 n
    exact hK _ _ (by rw [hmm]; exact (back n.z).x)
   ·refine n.lit (ls := [r1.1, e]) (by simp) (by simp [i2, ie]) rfl (by decide) fun ua un uc h5 _ n => ⟨n.le, ?_⟩
    refine call_to (by kernel_rfl) (nz_fresh n q (by omega)) ?_
    rintro _ h4 ⟨rfl, n⟩
    refine ⟨n.le, ?_⟩
    refine do_build (z := .agg #[.int .i64 0, .int .i64 0, .int .i64 0, .slice none 0 0, .int .i32 0]) (places := [(0, 1), (1, 1), (2, 1), (3, 1), (4, 1)]) (vs := [(0, .int .i64 op), (1, .int .i64 m3.next), (3, .slice ua un uc)]) (cs := #[.int .i64 op, .int .i64 m3.next, .int .i64 0, .slice ua un uc, .int .i32 0]) (by kernel_rfl) (by kernel_rfl) (by simp) (by rfl) ?_
    refine call_to (by kernel_rfl) (nz_add n (b := b) hb q.freshed (by omega) iop (q.nextI (by omega)) i64c (by decide)) ?_
    rintro _ h6 n
    exact hK _ _ (by rw [hmm]; exact (back n.z).x)
  refine lwp_hide fun y hy => ?_
  simp
  refine call_to (by kernel_rfl) (nz_take n q (by omega) (k := 3) (by decide) (by decide)) ?_
  rintro _ h5 ⟨rfl, n⟩
  simp
  rw [hy]; clear hy y
  by_cases c4 : takeV s r2.2.at_ 3 = 0
  ·rw [if_pos c4] at hmm
   refine lwp_cond_t (by simp [c4]) ?_
   simp
   refine call_to (by kernel_rfl) (nz_take n q.took (by omega) (k := 40) (by decide) (by decide)) ?_
   rintro _ h6 ⟨rfl, n⟩
   have hx : r2.2.took.at_ = r2.2.at_ + 1 := rfl
   rw [hx]
   simp
   refine call_to (by kernel_rfl) (nz_constant n (b := b) hb3 q.took.took (by omega) (k := IntKind.i32.wrap (IntKind.i64.wrap (takeV s (r2.2.at_ + 1) 40 - 8))) i32_rng) ?_
   rintro _ h7 ⟨rfl, n⟩
   refine fin r2.2.next _ h7 _ hmm (q.nextI (by omega)) (q.took.took.constant.mono (by omega)) (by rw [constant_len]; exact hb3) n ?_ ?_ ?_ ?_ ?_ ?_
   all_goals simp
   rfl
  ·rw [if_neg c4] at hmm
   refine lwp_cond_f (by simp [c4]) ?_
   simp
   refine fin r2.1 _ h5 _ hmm i3 (q.took.mono (by omega)) hb3 n ?_ ?_ ?_ ?_ ?_ ?_
   all_goals simp
 rw [if_neg c1] at hmm
 refine lwp_cond_f (by simp [c1]) ?_
 refine lwp_hide fun z hz => ?_
 simp
 rw [hz]; clear hz z
 by_cases c2 : k = 12
 ·rw [if_pos c2] at hmm
  refine lwp_cond_t (by simp [c2]) ?_
  refine lwp_hide fun z hz => ?_
  simp
  refine call_to (by kernel_rfl) (nz_some n hb1 q (by omega)) ?_
  rintro _ h2 ⟨⟨rfl, i2⟩, n⟩
  have q := q.someS (s := s) (b := b)
  have hb2 : b < (someS s m1 b).2.blocks.length := by rw [some_len]; exact hb1
  simp only [ltuS] at hmm
  generalize someS s m1 b = r1 at hmm n q hb2 i2
  rw [hz]; clear hz z
  refine lwp_hide fun z hz => ?_
  simp
  refine call_to (by kernel_rfl) (nz_some n hb2 q (by omega)) ?_
  rintro _ h3 ⟨⟨rfl, i3⟩, n⟩
  have q := q.someS (s := s) (b := b)
  have hb3 : b < (someS s r1.2 b).2.blocks.length := by rw [some_len]; exact hb2
  generalize someS s r1.2 b = r2 at hmm n q hb3 i3
  rw [hz]; clear hz z
  simp
  refine call_to (by kernel_rfl) (nz_fresh n q (by omega)) ?_
  rintro _ h4 ⟨rfl, n⟩
  refine n.lit (ls := [r1.1, r2.1]) (by simp) (by simp [i2, i3]) rfl (by decide) fun ua un uc h5 _ n => ?_
  refine do_build (z := .agg #[.int .i64 0, .int .i64 0, .int .i64 0, .slice none 0 0, .int .i32 0]) (places := [(0, 1), (1, 1), (2, 1), (3, 1), (4, 1)]) (vs := [(0, .int .i64 13), (1, .int .i64 r2.2.next), (3, .slice ua un uc)]) (cs := #[.int .i64 13, .int .i64 r2.2.next, .int .i64 0, .slice ua un uc, .int .i32 0]) (by kernel_rfl) (by kernel_rfl) (by simp) (by rfl) ?_
  refine call_to (by kernel_rfl) (nz_add n (b := b) hb3 q.freshed (by omega) i64c (q.nextI (by omega)) i64c (by decide)) ?_
  rintro _ h6 n
  exact hK _ _ (by rw [hmm]; exact n)
 rw [if_neg c2] at hmm
 refine lwp_cond_f (by simp [c2]) ?_
 refine lwp_hide fun z hz => ?_
 simp
 rw [hz]; clear hz z
 by_cases c3 : k = 13
 ·rw [if_pos c3] at hmm
  refine lwp_cond_t (by simp [c3]) ?_
  refine lwp_hide fun z hz => ?_
  simp
  refine call_to (by kernel_rfl) (nz_some n hb1 q (by omega)) ?_
  rintro _ h2 ⟨⟨rfl, i2⟩, n⟩
  have q := q.someS (s := s) (b := b)
  have hb2 : b < (someS s m1 b).2.blocks.length := by rw [some_len]; exact hb1
  simp only [divS] at hmm
  generalize someS s m1 b = r1 at hmm n q hb2 i2
  rw [hz]; clear hz z
  refine lwp_hide fun z hz => ?_
  simp
  refine call_to (by kernel_rfl) (nz_take n q (by omega) (k := 12) (by decide) (by decide)) ?_
  rintro _ h3 ⟨rfl, n⟩
  simp
  refine call_to (by kernel_rfl) (nz_constant n (b := b) hb2 q.took (by omega) (k := IntKind.i32.wrap (takeV s r1.2.at_ 12)) i32_rng) ?_
  rintro _ h4 ⟨rfl, n⟩
  have i4 : I64 r1.2.took.next := q.took.nextI (by omega)
  have q := q.took.constant (b := b) (n := IntKind.i32.wrap (takeV s r1.2.at_ 12))
  have hb3 : b < (r1.2.took.constant b (IntKind.i32.wrap (takeV s r1.2.at_ 12))).blocks.length := by rw [constant_len]; exact hb2
  have ht : r1.2.took.next = r1.2.next := rfl
  rw [ht] at i4 ⊢
  generalize r1.2.took.constant b (IntKind.i32.wrap (takeV s r1.2.at_ 12)) = m2 at hmm n q hb3
  generalize r1.2.next = d at hmm i4
  rw [hz]; clear hz z
  refine lwp_hide fun z hz => ?_
  have fin : ∀ (e : Int) (m3 : MS) (h' : Heap) (ρ : Env), instructionS s b m = m3.two b 14 r1.1 e → I64 e → m3.ok (c + 60) → b < m3.blocks.length → Nz s M vs W0 h' o0 m3 (.slice none 0 0) [] → Lft.look ρ 0 = some (.pointer (some ⟨M, 0, none⟩)) → Lft.look ρ 1 = some (.int .i64 b) → Lft.look ρ 10 = some (.int .i64 r1.1) → Lft.look ρ 11 = some (.int .i64 e) → LC.wp Try.prog z (inBlk 0 (fnPost [] K)) ρ h' := by
   intro e m3 h' ρ hmm ie q hb n r0 r1' r10 r11
   rw [hz]; clear hz z
   simp [look_setE, look_kill, r0, r1', r10, r11]
   refine call_to (by kernel_rfl) (nz_fresh n q (by omega)) ?_
   rintro _ h4 ⟨rfl, n⟩
   refine n.lit (ls := [r1.1, e]) (by simp) (by simp [i2, ie]) rfl (by decide) fun ua un uc h5 _ n => ?_
   refine do_build (z := .agg #[.int .i64 0, .int .i64 0, .int .i64 0, .slice none 0 0, .int .i32 0]) (places := [(0, 1), (1, 1), (2, 1), (3, 1), (4, 1)]) (vs := [(0, .int .i64 14), (1, .int .i64 m3.next), (3, .slice ua un uc)]) (cs := #[.int .i64 14, .int .i64 m3.next, .int .i64 0, .slice ua un uc, .int .i32 0]) (by kernel_rfl) (by kernel_rfl) (by simp) (by rfl) ?_
   refine call_to (by kernel_rfl) (nz_add n (b := b) hb q.freshed (by omega) i64c (q.nextI (by omega)) i64c (by decide)) ?_
   rintro _ h6 n
   exact hK _ _ (by rw [hmm]; exact n)
  refine lwp_hide fun y hy => ?_
  simp
  refine call_to (by kernel_rfl) (nz_take n q (by omega) (k := 3) (by decide) (by decide)) ?_
  rintro _ h5 ⟨rfl, n⟩
  simp
  rw [hy]; clear hy y
  by_cases c4 : 0 < takeV s m2.at_ 3
  ·rw [if_pos c4] at hmm
   refine lwp_cond_t (by simp [c4]) ?_
   simp
   refine call_to (by kernel_rfl) (nz_take n q.took (by omega) (k := 12) (by decide) (by decide)) ?_
   rintro _ h6 ⟨rfl, n⟩
   have hx : m2.took.at_ = m2.at_ + 1 := rfl
   rw [hx]
   simp
   refine call_to (by kernel_rfl) (nz_constant n (b := b) hb3 q.took.took (by omega) (k := IntKind.i32.wrap (1 + IntKind.i32.wrap (takeV s (m2.at_ + 1) 12))) i32_rng) ?_
   rintro _ h7 ⟨rfl, n⟩
   refine fin m2.next _ h7 _ hmm (q.nextI (by omega)) (q.took.took.constant.mono (by omega)) (by rw [constant_len]; exact hb3) n ?_ ?_ ?_ ?_
   all_goals simp
   rfl
  ·rw [if_neg c4] at hmm
   refine lwp_cond_f (by simp [c4]) ?_
   simp
   refine fin d _ h5 _ hmm i4 (q.took.mono (by omega)) hb3 n ?_ ?_ ?_ ?_
   all_goals simp
 rw [if_neg c3] at hmm
 refine lwp_cond_f (by simp [c3]) ?_
 refine lwp_hide fun z hz => ?_
 simp
 rw [hz]; clear hz z
 by_cases c4 : k < 16
 ·rw [if_pos c4] at hmm
  refine lwp_cond_t (by simp [c4]) ?_
  simp
  refine call_to (by kernel_rfl) (mk_memory n.x (store := decide (k = 15)) hb1 q (by omega)) ?_
  rintro _ h2 n
  exact hK _ _ (by rw [hmm]; exact n)
 rw [if_neg c4] at hmm
 refine lwp_cond_f (by simp [c4]) ?_
 refine lwp_hide fun z hz => ?_
 simp
 rw [hz]; clear hz z
 by_cases c5 : k = 16
 ·rw [if_pos c5] at hmm
  refine lwp_cond_t (by simp [c5]) ?_
  refine lwp_hide fun z hz => ?_
  simp
  obtain ⟨W, o, g1, w, f, -⟩ := n
  have hk9 : o (9, 0) = none := (f _ (by decide)).trans hfree
  refine w.own.do_empty (k := (9, 0)) (α := Int) hk9 El.s_int fun v h2 hle2 hv w2 _ => ?_
  have w2 : Mk s M vs W h2 (o.upd (9, 0) (it T.int v ([] : List Int))) m1 := by
   obtain ⟨vb, vl, lb, bb⟩ := w.box
   exact ⟨w2, w.src, vb, vl, lb, bb.frame fun k hk => Own.upd_ne (by rintro rfl; simp at hk)⟩
  rw [hz]; clear hz z
  refine lwp_hide fun z hz => ?_
  simp
  refine call_to (by kernel_rfl) (w2.take (by have := q.at_; omega) (n := 5) (by decide) (by decide)) ?_
  rintro _ h3 ⟨rfl, o3, w3, f3⟩
  simp only [callS] at hmm
  have q := q.took
  have hb2 : b < m1.took.blocks.length := hb1
  obtain ⟨t0, t1⟩ := takeV_rng (s := s) (at_ := m1.at_) (n := 5) (by decide)
  generalize takeV s m1.at_ 5 = t at hmm t0 t1
  obtain ⟨tn, rfl⟩ : ∃ tn : Nat, t = tn := ⟨t.toNat, by omega⟩
  rw [show ((tn : Int)).toNat = tn by omega] at hmm
  have hup := up_args (s := s) (b := b) (x := ([], m1.took)) q
  generalize m1.took = m2 at hmm q hb2 hup w3
  rw [hz]; clear hz z
  refine lwp_hide fun z hz => ?_
  simp
  refine lwp_for [0, 1, 4, 12, 13, 14] (fun (v : Value) i => [.pointer (some ⟨M, 0, none⟩), .int .i64 b, .int .i64 k, v, .int .i64 tn, .int .i64 i]) (fun v i h4 => ∃ W' o', W0.le W' ∧ Mk s M vs W' h4 o' (up (argsS s b) i ([], m2)).2 ∧ o' (9, 0) = it T.int v (up (argsS s b) i ([], m2)).1 ∧ ∀ q : Key, 3 ≤ q.1 → q ≠ (9, 0) → o' q = o0 q) tn v
   rfl (by omega) rfl ⟨W, o3, g1, w3, (f3 _ (by decide)).trans Own.upd_self, fun q h1 h2 => (f3 q h1).trans ((Own.upd_ne h2).trans (f q h1))⟩ (fun _ _ => rfl) (fun v k h hk m => by simp) ?_ ?_
  ·rintro v i h4 hlt ⟨W4, o4, g4, w4, e4, f4⟩ K2 hK2
   obtain ⟨qi, li, bi⟩ := hup i
   have e5 : up (argsS s b) (i + 1) ([], m2) = ((up (argsS s b) i ([], m2)).1 ++ [(someS s (up (argsS s b) i ([], m2)).2 b).1], (someS s (up (argsS s b) i ([], m2)).2 b).2) := rfl
   have hb4 : b < (up (argsS s b) i ([], m2)).2.blocks.length := by rw [bi]; exact hb2
   generalize up (argsS s b) i ([], m2) = x at w4 e4 e5 qi li bi hb4
   have li : x.1.length = i := by simpa using li
   simp
   refine call_to (by kernel_rfl) (mk_some w4 hb4 qi (by omega)) ?_
   rintro _ h5 ⟨rfl, i5, W5, o5, g5, w5, f5⟩
   have e6 : o5 (9, 0) = it T.int v x.1 := (f5 _ (by decide)).trans e4
   refine w5.own.do_push (k := (9, 0)) (α := Int) (d := (someS s x.2 b).1) e6 El.s_int rfl (rd_int.2 ⟨rfl, i5⟩) (by omega) (by omega) (fun _ => rfl) (fun _ => rfl) fun u v' h6 w6 _ => ?_
   refine hK2 v' _ _ rfl rfl ⟨W5, _, View.le_trans g4 g5, ⟨w6, w5.src, ?_⟩, ?_, ?_⟩
   ·obtain ⟨vb, vl, lb, bb⟩ := w5.box
    rw [e5]
    exact ⟨vb, vl, lb, bb.frame fun k hk => Own.upd_ne (by rintro rfl; simp at hk)⟩
   ·rw [e5]; exact Own.upd_self
   ·intro q h1 h2
    exact (Own.upd_ne h2).trans ((f5 q h1).trans (f4 q h1 h2))
  ·rintro v h4 ⟨W4, o4, g4, w4, e4, f4⟩
   obtain ⟨qi, li, bi⟩ := hup tn
   have hb4 : b < (up (argsS s b) tn ([], m2)).2.blocks.length := by rw [bi]; exact hb2
   generalize up (argsS s b) tn ([], m2) = x at w4 e4 qi li bi hb4 hmm
   obtain ⟨w5, sl⟩ := w4.own.freeze e4
   have sl2 := sl
   obtain ⟨ua, uc, rfl, _⟩ := sl2
   have hWp := le_plus (h := h4) (w4.own.av _ _ e4)
   have n : Nz s M vs W0 h4 o0 x.2 (.slice ua x.1.length uc) x.1 := by
    obtain ⟨vb, vl, lb, bb⟩ := w4.box
    refine ⟨_, _, View.le_trans g4 hWp, ⟨w5, w4.src.mono hWp, vb, vl, lb, bb.frame fun k hk => Own.upd_ne (by rintro rfl; simp at hk)⟩, fun q h1 => ?_, sl⟩
    by_cases e : q = (9, 0)
    ·rw [e, Own.upd_self, hfree]
    ·exact (Own.upd_ne e).trans (f4 q h1 e)
   generalize x.1.length = un at n
   simp
   rw [hz]; clear hz z
   simp
   refine call_to (by kernel_rfl) (nz_fresh n qi (by omega)) ?_
   rintro _ h5 ⟨rfl, n⟩
   refine call_to (by kernel_rfl) (nz_take n qi.freshed (by omega) (k := 5) (by decide) (by decide)) ?_
   rintro _ h6 ⟨rfl, n⟩
   have hx : x.2.freshed.at_ = x.2.at_ := rfl
   rw [hx]
   simp
   refine do_build (z := .agg #[.int .i64 0, .int .i64 0, .int .i64 0, .slice none 0 0, .int .i32 0]) (places := [(0, 1), (1, 1), (2, 1), (3, 1), (4, 1)]) (vs := [(0, .int .i64 17), (1, .int .i64 x.2.next), (3, .slice ua un uc), (4, .int .i32 (IntKind.i32.wrap (takeV s x.2.at_ 5)))]) (cs := #[.int .i64 17, .int .i64 x.2.next, .int .i64 0, .slice ua un uc, .int .i32 (IntKind.i32.wrap (takeV s x.2.at_ 5))]) (by kernel_rfl) (by kernel_rfl) (by simp) (by rfl) ?_
   refine call_to (by kernel_rfl) (nz_add n (b := b) hb4 qi.freshed.took (by omega) i64c (qi.nextI (by omega)) i64c i32_rng) ?_
   rintro _ h7 n
   exact hK _ _ (by rw [hmm]; exact n)
 rw [if_neg c5] at hmm
 refine lwp_cond_f (by simp [c5]) ?_
 refine lwp_hide fun z hz => ?_
 simp
 rw [hz]; clear hz z
 by_cases c6 : k = 17
 ·rw [if_pos c6] at hmm
  refine lwp_cond_t (by simp [c6]) ?_
  refine lwp_hide fun z hz => ?_
  simp
  refine call_to (by kernel_rfl) (nz_some n hb1 q (by omega)) ?_
  rintro _ h2 ⟨⟨rfl, i2⟩, n⟩
  have q := q.someS (s := s) (b := b)
  have hb2 : b < (someS s m1 b).2.blocks.length := by rw [some_len]; exact hb1
  simp only [mulwS] at hmm
  generalize someS s m1 b = r1 at hmm n q hb2 i2
  rw [hz]; clear hz z
  refine lwp_hide fun z hz => ?_
  simp
  refine call_to (by kernel_rfl) (nz_some n hb2 q (by omega)) ?_
  rintro _ h3 ⟨⟨rfl, i3⟩, n⟩
  have q := q.someS (s := s) (b := b)
  have hb3 : b < (someS s r1.2 b).2.blocks.length := by rw [some_len]; exact hb2
  generalize someS s r1.2 b = r2 at hmm n q hb3 i3
  rw [hz]; clear hz z
  refine lwp_hide fun z hz => ?_
  simp
  refine call_to (by kernel_rfl) (nz_fresh n q (by omega)) ?_
  rintro _ h4 ⟨rfl, n⟩
  rw [hz]; clear hz z
  simp
  refine call_to (by kernel_rfl) (nz_fresh n q.freshed (by omega)) ?_
  rintro _ h5 ⟨rfl, n⟩
  have hx : r2.2.freshed.next = r2.2.next + 1 := rfl
  rw [hx]
  have j5 := q.freshed.nextI (by omega)
  rw [hx] at j5
  refine n.lit (ls := [r1.1, r2.1]) (by simp) (by simp [i2, i3]) rfl (by decide) fun ua un uc h5 _ n => ?_
  refine do_build (z := .agg #[.int .i64 0, .int .i64 0, .int .i64 0, .slice none 0 0, .int .i32 0]) (places := [(0, 1), (1, 1), (2, 1), (3, 1), (4, 1)]) (vs := [(0, .int .i64 18), (1, .int .i64 r2.2.next), (2, .int .i64 (r2.2.next + 1)), (3, .slice ua un uc)]) (cs := #[.int .i64 18, .int .i64 r2.2.next, .int .i64 (r2.2.next + 1), .slice ua un uc, .int .i32 0]) (by kernel_rfl) (by kernel_rfl) (by simp) (by rfl) ?_
  refine call_to (by kernel_rfl) (nz_add n (b := b) hb3 q.freshed.freshed (by omega) i64c (q.nextI (by omega)) j5 (by decide)) ?_
  rintro _ h6 n
  exact hK _ _ (by rw [hmm]; exact n)
 rw [if_neg c6] at hmm
 refine lwp_cond_f (by simp [c6]) ?_
 simp
 refine call_to (by kernel_rfl) (nz_word n q (by omega)) ?_
 rintro _ h2 ⟨rfl, n⟩
 refine call_to (by kernel_rfl) (nz_constant n (b := b) hb1 q.took.took (by omega) (k := wordV s m1) wordV_rng) ?_
 rintro _ h3 ⟨rfl, n⟩
 exact hK _ _ (by rw [hmm]; exact n.x)
end Go.Proofs.Ytfelpjfopgiabaa
namespace Go.Proofs.Ytfelpjfopgiabaa
open Go Go.Lft
variable {s : List Int} {m : MS} {b c : Nat}
theorem took_len : m.took.blocks.length = m.blocks.length := rfl
theorem freshed_len : m.freshed.blocks.length = m.blocks.length := rfl
theorem MS.ok.addr (h : m.ok c) : (addrS s m b).2.ok (c + 30) := by
 unfold addrS
 simp only
 split
 ·exact ((((h.took.constant).took.someS).constant).two.two).mono (by omega)
 ·exact (h.took.constant.took).mono (by omega)
theorem addr_len : (addrS s m b).2.blocks.length = m.blocks.length := by
 unfold addrS
 simp only
 split <;> simp [two_len, constant_len, some_len, took_len]
theorem MS.ok.off (h : m.ok c) : (offS s m).2.ok (c + 4) := by
 unfold offS
 split
 ·exact h.took.took.took.took
 ·exact h.took.took.mono (by omega)
theorem off_len : (offS s m).2.blocks.length = m.blocks.length := by
 unfold offS; split <;> rfl
theorem MS.ok.memory {st : Bool} (h : m.ok c) : (memoryS s m b st).ok (c + 60) := by
 unfold memoryS
 simp only
 split
 ·exact (((h.addr).off.someS).add).mono (by omega)
 ·exact (((h.addr).off.freshed).add).mono (by omega)
theorem memory_len {st : Bool} : (memoryS s m b st).blocks.length = m.blocks.length := by
 unfold memoryS
 simp only
 split <;> simp [add_len, some_len, off_len, addr_len, freshed_len]
theorem MS.ok.bin {op : Int} (h : m.ok c) : (binS s m b op).ok (c + 60) := by
 unfold binS
 simp only
 split
 ·exact ((h.someS.someS).took.took.constant.two).mono (by omega)
 ·exact ((h.someS.someS).took.two).mono (by omega)
theorem bin_len {op : Int} : (binS s m b op).blocks.length = m.blocks.length := by
 unfold binS
 simp only
 split <;> simp [two_len, constant_len, some_len, took_len]
theorem MS.ok.div (h : m.ok c) : (divS s m b).ok (c + 60) := by
 unfold divS
 simp only
 split
 ·exact ((h.someS).took.constant.took.took.constant.two).mono (by omega)
 ·exact ((h.someS).took.constant.took.two).mono (by omega)
theorem div_len : (divS s m b).blocks.length = m.blocks.length := by
 unfold divS
 simp only
 split <;> simp [two_len, constant_len, some_len, took_len]
theorem MS.ok.callS (h : m.ok c) : (callS s m b).ok (c + 70) := by
 unfold Go.Proofs.Ytfelpjfopgiabaa.callS
 simp only
 have ht := takeV_rng (s := s) (at_ := m.at_) (n := 5) (by decide)
 have := (up_args (s := s) (b := b) (x := ([], m.took)) h.took (takeV s m.at_ 5).toNat).1
 exact (this.freshed.took.add).mono (by omega)
theorem call_len : (callS s m b).blocks.length = m.blocks.length := by
 unfold callS
 simp only
 rw [add_len, took_len, freshed_len]
 exact up_args_len (s := s) (b := b) (x := ([], m.took)) _
theorem MS.ok.instruction (h : m.ok c) : (instructionS s b m).ok (c + 80) := by
 unfold instructionS
 simp only
 repeat' split
 ·exact h.took.bin.mono (by omega)
 ·unfold ltuS
  exact (h.took.someS.someS.two).mono (by omega)
 ·exact h.took.div.mono (by omega)
 ·exact h.took.memory.mono (by omega)
 ·exact h.took.callS.mono (by omega)
 ·unfold mulwS
  exact (h.took.someS.someS.freshed.freshed.add).mono (by omega)
 ·exact h.took.took.took.constant.mono (by omega)
theorem instruction_len : (instructionS s b m).blocks.length = m.blocks.length := by
 unfold instructionS
 simp only
 repeat' split
 all_goals simp [bin_len, ltuS, div_len, memory_len, call_len, mulwS, two_len, constant_len, some_len, took_len, freshed_len, add_len]
end Go.Proofs.Ytfelpjfopgiabaa
namespace Go.Proofs.Ytfelpjfopgiabaa
open Go Go.Lft
def MS.setTerm (m : MS) (b : Nat) (t : TermD) : MS := { m with blocks := m.blocks.set b { nth m.blocks b with term := t } }
def cmpL : List Int := [11, 12, 13]
def mkTermS (s : List Int) (to : List Int) (b : Nat) (m : MS) : TermD × MS :=
 if to.length = 0 then
  if takeV s m.at_ 8 = 0 then (⟨5, [], [], ⟨IntKind.i32.wrap (takeV s (m.at_ + 1) 200)⟩⟩, m.took.took)
  else if 1 < takeV s m.at_ 8 then (⟨4, [(someS s m.took b).1], [], ⟨0⟩⟩, (someS s m.took b).2)
  else (⟨4, [], [], ⟨0⟩⟩, m.took)
 else if to.length = 1 then (⟨1, [], to, ⟨0⟩⟩, m)
 else if to.length = 2 then
  let r := someS s m b
  if takeV s r.2.at_ 2 = 0 then
   let w := someS s r.2.took b
   (⟨2, [w.2.next], to, ⟨0⟩⟩, w.2.freshed.took.add b ⟨nth cmpL (takeV s w.2.at_ 3).toNat, w.2.next, 0, [r.1, w.1], ⟨0⟩⟩)
  else (⟨2, [r.1], to, ⟨0⟩⟩, r.2.took)
 else
  let r := someS s m b
  let m2 := r.2.constant b 7
  (⟨3, [m2.next], to, ⟨0⟩⟩, m2.two b 5 r.1 r.2.next)
def mkEndS (s : List Int) (to : List Int) (b : Nat) (m : MS) : MS := (mkTermS s to b m).2.setTerm b (mkTermS s to b m).1
section
variable {s : List Int} {M : Nat} {vs : Value} {W0 : View} {h : Heap} {o0 : Own} {m : MS} {u : Value} {ds : List Int}
theorem Nz.do_cell {po : OP} (n : Nz s M vs W0 h o0 m u ds) {k : Key} {e : TypeId} {B N i : Nat} {l : List Value} {ty t : TypeId} {us : List (Nat × Value)} {x y : Operand} {v : Value} {K : Value → Heap → Prop} (h3 : 3 ≤ k.1) (hk : o0 k = bx e B (RawN.mk (n := N) l)) (hi : i ≤ N) (hsz : sizeB Try.prog t = some 1) (hx : asg us x = .pointer (some ⟨B, i, none⟩)) (hy : asg us y = v) (hv : v.oneCell' = true)
  (hK : ∀ h', Nz s M vs W0 h' (o0.upd k (bx e B (RawN.mk (n := N) (l.set i v)))) m u ds → K undef h') : @Lft.step po Try.prog (.store t x y) ty us h K := by
 obtain ⟨W, o, g1, w, f, sl⟩ := n
 refine w.own.do_cell (k := k) (n := N) (i := i) (e := e) (B := B) (l := l) ((f k h3).trans hk) hi hsz hx hy hv fun h' w' _ => hK h' ?_
 obtain ⟨vb, vl, lb, bb⟩ := w.box
 refine ⟨W, _, g1, ⟨w', w.src, vb, vl, lb, bb.frame fun q hq => Own.upd_ne (by rintro rfl; omega)⟩, fun q hq => ?_, sl⟩
 unfold Own.upd
 split
 ·rfl
 ·exact f q hq
theorem Nz.slice (n : Nz s M vs W0 h o0 m u ds) : ∃ a k c, u = .slice a k c := by
 obtain ⟨W, o, g1, w, f, a, c, e, _⟩ := n
 exact ⟨a, _, c, e⟩
theorem Nz.rows (n : Nz s M vs W0 h o0 m u ds) {u' : Value} {ds' : List Int} (h' : SlRd W0 u' ds') : Nz s M vs W0 h o0 m u' ds' := by
 obtain ⟨W, o, g1, w, f, sl⟩ := n
 exact ⟨W, o, g1, w, f, h'.mono g1⟩
theorem Nz.re (n : Nz s M vs W0 h o0 m u ds) {o0' : Own} (he : ∀ k, o0' k = o0 k) : Nz s M vs W0 h o0' m u ds := by
 obtain ⟨W, o, g1, w, f, sl⟩ := n
 exact ⟨W, o, g1, w, fun k hk => (f k hk).trans (he k).symm, sl⟩
theorem Mk.do_term {po : OP} {W : View} {o : Own} (w : Mk s M vs W h o m) {vb vl : Value} {lb : List BlkM} (bb : MkB M vs m o vb vl lb) {b : Nat} {t : TermD} {v : Value} {ty ty2 : TypeId} {us : List (Nat × Value)} {x y : Operand} {K : Value → Heap → Prop} (hb : b < m.blocks.length) (hsz : sizeB Try.prog ty2 = some 4) (hx : asg us x = .pointer (some (((slA vb).add (b * 6)).add 2))) (hy : asg us y = v) (hr : Rd W v t)
  (hK : ∀ h' o', Mk s M vs W h' o' (m.setTerm b t) → (∀ k : Key, 3 ≤ k.1 → o' k = o k) → K undef h') : @Lft.step po Try.prog (.store ty2 x y) ty us h K := by
 have hbl : b < lb.length := by rw [bb.len]; exact hb
 refine w.own.do_part (k := (0, 2)) (α := BlkM) BlkM.p_term (v := vb) (l := lb) (i := b) (d := t) bb.blk hsz hx hy hbl hr fun h7 w7 _ => ?_
 refine hK h7 _ ⟨w7, w.src, vb, vl, _, bb.setBlk hb (x' := { nth m.blocks b with term := t }) (y' := { lb[b] with term := t }) rfl Own.upd_self ?_ ?_ fun q h1 _ _ => Own.upd_ne h1⟩ (upd_frame (by decide))
 ·rw [Own.upd_ne (by simp), bb.phis b hb, nth_eq hbl]
 ·rw [Own.upd_ne (by simp), bb.ins b hb, nth_eq hbl]
end
theorem rd_termOf {H : View} {va vt : Value} {a t : List Int} {kd : Int} {imm : I32} (h3 : SlRd H va a) (h4 : SlRd H vt t) (h5 : I64 kd) (h6 : -2147483648 ≤ imm.v ∧ imm.v ≤ 2147483647) : Rd H (.agg #[.int .i64 kd, va, vt, .int .i32 imm.v]) (TermD.mk kd a t imm) :=
 ⟨_, rfl, [.int .i64 kd], _, rfl, ⟨rfl, h5⟩, [va], _, rfl, ⟨va, rfl, h3⟩, [vt], _, rfl, ⟨vt, rfl, h4⟩, rfl, h6⟩
theorem cmpL_rng : ∀ x ∈ cmpL, I64 x := by
 intro x hx
 have : ∀ x ∈ cmpL, 0 ≤ x ∧ x ≤ 13 := by decide
 have := this x hx
 exact ⟨by omega, by omega⟩
theorem mk_end {s : List Int} {M : Nat} {vs : Value} {W0 : View} {h : Heap} {o0 : Own} {m : MS} {vt : Value} {to : List Int} (n : Nx s M vs W0 h o0 m) {b c : Nat} (hb : b < m.blocks.length) (hm : m.ok c) (hc : c ≤ 800000) (hfree : o0 (9, 1) = none) (ht : SlRd W0 vt to) :
  HCalls Try.prog N.ref03_maker_end #[.pointer (some ⟨M, 0, none⟩), .int .i64 b, vt] h (fun v h' => Nx s M vs W0 h' o0 (mkEndS s to b m)) := by
 refine calls_lift (args := [.pointer (some ⟨M, 0, none⟩), .int .i64 b, vt]) follows F.ref03_maker_end E.ref03_maker_end (Nat.le_of_ble_eq_true (by kernel_rfl)) fun K hK => ?_
 dsimp only [L.ref03_maker_end]
 have hmm : mkEndS s to b m = _ := mkEndS.eq_1 s to b m
 have htm : mkTermS s to b m = _ := mkTermS.eq_1 s to b m
 obtain ⟨Wb, ob, gb, wb, fb⟩ := n
 refine lwp_hide fun z hz => ?_
 simp
 refine do_build (z := .agg #[.int .i64 0, .slice none 0 0, .slice none 0 0, .int .i32 0]) (places := [(0, 1), (1, 1), (2, 1), (3, 1)]) (vs := []) (cs := #[.int .i64 0, .slice none 0 0, .slice none 0 0, .int .i32 0]) (by kernel_rfl) (by kernel_rfl) (by simp) (by rfl) ?_
 refine wb.own.do_var (k := (9, 1)) (n := 3) (l := [.int .i64 0, .slice none 0 0, .slice none 0 0, .int .i32 0]) ((fb _ (by decide)).trans hfree) (z := .agg #[.int .i64 0, .slice none 0 0, .slice none 0 0, .int .i32 0]) (by kernel_rfl) rfl (by kernel_rfl) rfl (by decide) (by simp [Value.oneCell']) (fun _ => by simp) (fun _ => by simp) fun h1 q1 w1 => ?_
 generalize h.size = B at w1
 obtain ⟨o1, ho1⟩ : ∃ o1, o1 = ob.upd (9, 1) (bx T.api_Term B (RawN.mk (n := 3) [.int .i64 0, .slice none 0 0, .slice none 0 0, .int .i32 0])) := ⟨_, rfl⟩
 have k1 : o1 (9, 1) = bx T.api_Term B (RawN.mk (n := 3) [.int .i64 0, .slice none 0 0, .slice none 0 0, .int .i32 0]) := by rw [ho1, Own.upd_self]
 have ht := ht.mono gb
 have n : Nz s M vs Wb h1 o1 m (.slice none 0 0) [] := by
  obtain ⟨vb, vl, lb, bb⟩ := wb.box
  rw [ho1]
  exact ⟨Wb, _, View.le_refl _, ⟨w1, wb.src, vb, vl, lb, bb.frame fun q hq => Own.upd_ne (by rintro rfl; simp at hq)⟩, fun _ _ => rfl, nil_sl⟩
 have back : ∀ {h' : Heap} {W' : View} {o' : Own} {m' : MS} {i : Option Lft.Item}, Wb.le W' → Mk s M vs W' h' o' m' → (∀ k : Key, 3 ≤ k.1 → o' k = o1.upd (9, 1) i k) → Nx s M vs W0 h' o0 m' := by
  intro h' W' o' m' i g w f
  refine ⟨W', o'.upd (9, 1) none, View.le_trans gb g, ⟨w.own.sub fun q j hq => ?_, w.src, ?_⟩, fun k hk => ?_⟩
  ·unfold Own.upd at hq
   split at hq
   ·cases hq
   ·exact hq
  ·obtain ⟨vb, vl, lb, bb⟩ := w.box
   exact ⟨vb, vl, lb, bb.frame fun q hq => Own.upd_ne (by rintro rfl; simp at hq)⟩
  ·by_cases e : k = (9, 1)
   ·rw [e, Own.upd_self, hfree]
   ·rw [Own.upd_ne e, f k hk, Own.upd_ne e, ho1, Own.upd_ne e, fb k hk]
 clear wb w1 q1
 rw [hz]; clear hz z
 refine lwp_hide fun z hz => ?_
 have fin : ∀ (kd : Int) (va vt' : Value) (args to' : List Int) (im : Int) (m2 : MS) (h' : Heap) (ρ : Env), mkTermS s to b m = (⟨kd, args, to', ⟨im⟩⟩, m2) → I64 kd → (-2147483648 ≤ im ∧ im ≤ 2147483647) → b < m2.blocks.length → Nz s M vs Wb h' (o1.upd (9, 1) (bx T.api_Term B (RawN.mk (n := 3) [.int .i64 kd, va, vt', .int .i32 im]))) m2 va args → SlRd Wb vt' to' → Lft.look ρ 0 = some (.pointer (some ⟨M, 0, none⟩)) → Lft.look ρ 1 = some (.int .i64 b) → Lft.look ρ 6 = some (.pointer (some ⟨B, 0, none⟩)) → LC.wp Try.prog z (fnPost [] K) ρ h' := by
  intro kd va vt' args to' im m2 h' ρ e ikd iim hb n ht' r0 r1 r6
  rw [hz]; clear hz z
  rw [e] at hmm
  obtain ⟨W, o, g1, w, f, sl⟩ := n
  obtain ⟨vb, vl, lb, bb⟩ := w.box
  have hk : o (9, 1) = bx T.api_Term B (RawN.mk (n := 3) [.int .i64 kd, va, vt', .int .i32 im]) := (f _ (by decide)).trans Own.upd_self
  have c4 := w.own.rawAll (k := (9, 1)) (n := 3) hk
  have c4 : Un.ev (vw h') (.loads 4) (.pointer (some ⟨B, 0, none⟩)) = some (.agg #[.int .i64 kd, va, vt', .int .i32 im]) := c4
  have c3 : cellH (vw h') ⟨M, 3, none⟩ = some vb := bb.cell w.own (i := 3) (by decide)
  have hbl : b < lb.length := by rw [bb.len]; exact hb
  have sb := w.own.now bb.blk
  have sbb := sb.bound
  refine drawn_at (vw h') (View.le_refl _) ?_
  simp (disch := omega) [r0, r1, r6, c3, c4, sb.idxn (N := 6) rfl]
  refine w.do_term bb (b := b) (t := ⟨kd, args, to', ⟨im⟩⟩) hb (by kernel_rfl) rfl rfl (rd_termOf (imm := ⟨im⟩) sl (ht'.mono g1) ikd iim) fun h2 o2 w2 f2 => ?_
  refine hK _ _ ?_
  rw [hmm]
  exact back g1 w2 fun k hk => (f2 k hk).trans (f k hk)
 have hlen : ∀ {Q : View}, Un.ev Q .len vt = some (.int .i64 to.length) := fun {Q} => ht.len
 refine lwp_hide fun y hy => ?_
 simp [hlen]
 rw [hy]; clear hy y
 simp only [lwp_block]
 refine lwp_hide fun y hy => ?_
 simp
 rw [hy]; clear hy y
 by_cases c0 : to.length = 0
 ·have c0' : to = [] := List.eq_nil_of_length_eq_zero c0
  rw [if_pos c0] at htm
  refine lwp_cond_t (by simp [c0, c0']) ?_
  refine lwp_hide fun y hy => ?_
  simp
  refine n.do_cell (k := (9, 1)) (i := 0) (by decide) k1 (by decide) (by kernel_rfl) rfl rfl rfl fun h2 n => ?_
  rw [hy]; clear hy y
  refine lwp_hide fun y hy => ?_
  simp
  refine call_to (by kernel_rfl) (nz_take n hm (by omega) (k := 8) (by decide) (by decide)) ?_
  rintro _ h3 ⟨rfl, n⟩
  obtain ⟨t0, t1⟩ := takeV_rng (s := s) (at_ := m.at_) (n := 8) (by decide)
  rw [hy]; clear hy y
  refine lwp_hide fun y hy => ?_
  simp
  rw [hy]; clear hy y
  have n : Nz s M vs Wb h3 (o1.upd (9, 1) (bx T.api_Term B (RawN.mk (n := 3) [.int .i64 4, .slice none 0 0, .slice none 0 0, .int .i32 0]))) m.took (.slice none 0 0) [] := n
  by_cases c1 : takeV s m.at_ 8 = 0
  ·rw [if_pos c1] at htm
   refine lwp_cond_t (by simp [c1]) ?_
   refine lwp_hide fun y hy => ?_
   simp
   refine n.do_cell (k := (9, 1)) (i := 0) (by decide) Own.upd_self (by decide) (by kernel_rfl) rfl rfl rfl fun h4 n => ?_
   rw [hy]; clear hy y
   simp
   refine call_to (by kernel_rfl) (nz_take n hm.took (by omega) (k := 200) (by decide) (by decide)) ?_
   rintro _ h5 ⟨rfl, n⟩
   have hx : m.took.at_ = m.at_ + 1 := rfl
   rw [hx]
   simp
   refine n.do_cell (k := (9, 1)) (i := 3) (by decide) Own.upd_self (by decide) (by kernel_rfl) rfl rfl rfl fun h6 n => ?_
   refine fin 5 (.slice none 0 0) (.slice none 0 0) [] [] _ _ h6 _ htm i64c i32_rng hb ?_ nil_sl ?_ ?_ ?_
   ·exact n.re fun k => by rw [upd_upd, upd_upd]; rfl
   all_goals simp
  ·rw [if_neg c1] at htm
   refine lwp_cond_f (by simp [c1]) ?_
   refine lwp_hide fun y hy => ?_
   simp
   rw [hy]; clear hy y
   by_cases c2 : 1 < takeV s m.at_ 8
   ·rw [if_pos c2] at htm
    refine lwp_cond_t (by simp [c2]) ?_
    simp
    refine call_to (by kernel_rfl) (nz_some n (b := b) hb hm.took (by omega)) ?_
    rintro _ h4 ⟨⟨rfl, i4⟩, n⟩
    have hb2 : b < (someS s m.took b).2.blocks.length := by rw [some_len]; exact hb
    generalize someS s m.took b = r at htm i4 n hb2
    refine n.lit (ls := [r.1]) (by simp) (by simp [i4]) rfl (by decide) fun ua un uc h5 _ n => ?_
    refine n.do_cell (k := (9, 1)) (i := 1) (by decide) Own.upd_self (by decide) (by kernel_rfl) rfl rfl rfl fun h6 n => ?_
    refine fin 4 (.slice ua un uc) (.slice none 0 0) [r.1] [] 0 _ h6 _ htm i64c (by decide) hb2 (n.re fun k => by rw [upd_upd]; rfl) nil_sl ?_ ?_ ?_
    all_goals simp
   ·rw [if_neg c2] at htm
    refine lwp_cond_f (by simp [c2]) ?_
    simp
    refine fin 4 (.slice none 0 0) (.slice none 0 0) [] [] 0 _ h3 _ htm i64c (by decide) hb n nil_sl ?_ ?_ ?_
    all_goals simp
 rw [if_neg c0] at htm
 have c0' : ¬ to = [] := fun e => c0 (by rw [e]; rfl)
 have hvt : vt.oneCell' = true := ht.cells.2
 refine lwp_cond_f (by simp [c0']) ?_
 refine lwp_hide fun y hy => ?_
 simp
 rw [hy]; clear hy y
 by_cases c1 : to.length = 1
 ·rw [if_pos c1] at htm
  refine lwp_cond_t (by simp [c1]) ?_
  refine lwp_hide fun y hy => ?_
  simp
  refine n.do_cell (k := (9, 1)) (i := 0) (by decide) k1 (by decide) (by kernel_rfl) rfl rfl rfl fun h2 n => ?_
  rw [hy]; clear hy y
  simp
  refine n.do_cell (k := (9, 1)) (i := 2) (by decide) Own.upd_self (by decide) (by kernel_rfl) rfl rfl hvt fun h3 n => ?_
  refine fin 1 (.slice none 0 0) vt [] to 0 _ h3 _ htm i64c (by decide) hb (n.re fun k => by rw [upd_upd]; rfl) ht ?_ ?_ ?_
  all_goals simp
 rw [if_neg c1] at htm
 refine lwp_cond_f (by simp; omega) ?_
 refine lwp_hide fun y hy => ?_
 simp
 rw [hy]; clear hy y
 by_cases c2 : to.length = 2
 ·rw [if_pos c2] at htm
  refine lwp_cond_t (by simp [c2]) ?_
  refine lwp_hide fun y hy => ?_
  simp
  refine n.do_cell (k := (9, 1)) (i := 0) (by decide) k1 (by decide) (by kernel_rfl) rfl rfl rfl fun h2 n => ?_
  rw [hy]; clear hy y
  refine lwp_hide fun y hy => ?_
  simp
  refine n.do_cell (k := (9, 1)) (i := 2) (by decide) Own.upd_self (by decide) (by kernel_rfl) rfl rfl hvt fun h3 n => ?_
  have n : Nz s M vs Wb h3 (o1.upd (9, 1) (bx T.api_Term B (RawN.mk (n := 3) [.int .i64 2, .slice none 0 0, vt, .int .i32 0]))) m (.slice none 0 0) [] := n.re fun k => by rw [upd_upd]; rfl
  rw [hy]; clear hy y
  refine lwp_hide fun y hy => ?_
  simp
  refine call_to (by kernel_rfl) (nz_some n (b := b) hb hm (by omega)) ?_
  rintro _ h4 ⟨⟨rfl, i4⟩, n⟩
  have q := hm.someS (s := s) (b := b)
  have hb2 : b < (someS s m b).2.blocks.length := by rw [some_len]; exact hb
  simp only at htm
  generalize someS s m b = r at htm i4 n hb2 q
  rw [hy]; clear hy y
  refine lwp_hide fun y hy => ?_
  have fin2 : ∀ (v : Int) (m3 : MS) (h' : Heap) (ρ : Env) (u : Value) (ds : List Int), mkTermS s to b m = (⟨2, [v], to, ⟨0⟩⟩, m3) → I64 v → b < m3.blocks.length → Nz s M vs Wb h' (o1.upd (9, 1) (bx T.api_Term B (RawN.mk (n := 3) [.int .i64 2, .slice none 0 0, vt, .int .i32 0]))) m3 u ds → Lft.look ρ 0 = some (.pointer (some ⟨M, 0, none⟩)) → Lft.look ρ 1 = some (.int .i64 b) → Lft.look ρ 6 = some (.pointer (some ⟨B, 0, none⟩)) → Lft.look ρ 8 = some (.int .i64 v) → LC.wp Try.prog y (inBlk 0 (thenL (LC.wp Try.prog z (fnPost [] K)) (fnPost [] K))) ρ h' := by
   intro v m3 h' ρ u ds e iv hb n r0 r1 r6 r8
   rw [hy]; clear hy y
   simp [look_setE, look_kill, r0, r1, r6, r8]
   refine n.lit (ls := [v]) (by simp) (by simp [iv]) rfl (by decide) fun ua un uc h5 _ n => ?_
   refine n.do_cell (k := (9, 1)) (i := 1) (by decide) Own.upd_self (by decide) (by kernel_rfl) rfl rfl rfl fun h6 n => ?_
   refine fin 2 (.slice ua un uc) vt [v] to 0 _ h6 _ e i64c (by decide) hb (n.re fun k => by rw [upd_upd]; rfl) ht ?_ ?_ ?_
   all_goals simp [look_setE, look_kill, r0, r1, r6, r8]
  refine lwp_hide fun x hx => ?_
  simp
  refine call_to (by kernel_rfl) (nz_take n q (by omega) (k := 2) (by decide) (by decide)) ?_
  rintro _ h5 ⟨rfl, n⟩
  simp
  rw [hx]; clear hx x
  by_cases c3 : takeV s r.2.at_ 2 = 0
  ·rw [if_pos c3] at htm
   refine lwp_cond_t (by simp [c3]) ?_
   refine lwp_hide fun x hx => ?_
   simp
   refine do_build (z := .agg #[.int .i64 0, .int .i64 0, .int .i64 0]) (places := [(0, 1), (1, 1), (2, 1)]) (vs := [(0, .int .i64 11), (1, .int .i64 12), (2, .int .i64 13)]) (cs := #[.int .i64 11, .int .i64 12, .int .i64 13]) (by kernel_rfl) (by kernel_rfl) (by simp) (by rfl) ?_
   refine do_newV (v := .agg #[.int .i64 11, .int .i64 12, .int .i64 13]) (z := .agg #[.int .i64 0, .int .i64 0, .int .i64 0]) (n := 3) (by kernel_rfl) rfl (by kernel_rfl) rfl (by simp [Value.cells, Value.oneCell']) (fun _ => by simp) (fun _ => by simp) fun h6 hle6 hs6 hb6 => ?_
   have n : Nz s M vs Wb h6 (o1.upd (9, 1) (bx T.api_Term B (RawN.mk (n := 3) [.int .i64 2, .slice none 0 0, vt, .int .i32 0]))) r.2.took (.slice (some ⟨h5.size, 0, none⟩) 3 3) cmpL := by
    obtain ⟨W, o, g1, g2, g3, g4⟩ := n
    refine ⟨_, o, View.le_trans g1 (le_grow g2.own.wle), ⟨g2.own.ext hle6, g2.src.mono (le_grow g2.own.wle), g2.box⟩, g3, ?_⟩
    have hg : grow W h5 h6 h5.size = some (.cells (cmpL.map fun x => Value.int .i64 x).toArray T.a3_int (0, 0)) := by
     rw [grow_new (Nat.le_refl _), hb6]; rfl
    exact sl_arr hg rfl (by decide) cmpL_rng
   generalize h5.size = C at n
   rw [hx]; clear hx x
   refine lwp_hide fun x hx => ?_
   simp
   refine call_to (by kernel_rfl) (nz_some n (b := b) hb2 q.took (by omega)) ?_
   rintro _ h7 ⟨⟨rfl, i7⟩, n⟩
   have q := q.took.someS (s := s) (b := b)
   have hb3 : b < (someS s r.2.took b).2.blocks.length := by rw [some_len]; exact hb2
   generalize someS s r.2.took b = w at htm i7 n hb3 q
   rw [hx]; clear hx x
   refine lwp_hide fun x hx => ?_
   simp
   refine call_to (by kernel_rfl) (nz_fresh n q (by omega)) ?_
   rintro _ h8 ⟨rfl, n⟩
   have iw := q.nextI (by omega)
   rw [hx]; clear hx x
   refine lwp_hide fun x hx => ?_
   simp
   refine call_to (by kernel_rfl) (nz_take n q.freshed (by omega) (k := 3) (by decide) (by decide)) ?_
   rintro _ h9 ⟨rfl, n⟩
   have hfx : w.2.freshed.at_ = w.2.at_ := rfl
   rw [hfx]
   obtain ⟨t0, t1⟩ := takeV_rng (s := s) (at_ := w.2.at_) (n := 3) (by decide)
   generalize takeV s w.2.at_ 3 = k at htm t0 t1
   obtain ⟨kn, rfl⟩ : ∃ kn : Nat, k = kn := ⟨k.toNat, by omega⟩
   rw [show ((kn : Int)).toNat = kn by omega] at htm
   obtain ⟨iop, hop⟩ : I64 (nth cmpL kn) ∧ cellH (vw h9) ⟨C, kn, none⟩ = some (.int .i64 (nth cmpL kn)) := by
    obtain ⟨W, o, g1, g2, g3, g4⟩ := n
    refine ⟨g4.range (i := kn) (by show kn < 3; omega), ?_⟩
    have := g4.int g2.own.wle (i := kn) (by show kn < 3; omega)
    simpa [slA] using this
   have hix : Bn.ev (.aidx 3 1) (.pointer (some ⟨C, 0, none⟩)) (.int .i64 kn) = some (.pointer (some ⟨C, kn, none⟩)) := by
    simp only [Bn.ev, vP, vI, Option.bind_some]
    rw [if_pos ⟨by omega, by omega⟩]
    simp
   generalize nth cmpL kn = op at htm iop hop
   simp [hix, hop]
   refine n.lit (ls := [r.1, w.1]) (by simp) (by simp [i4, i7]) rfl (by decide) fun ua un uc h10 _ n => ?_
   refine do_build (z := .agg #[.int .i64 0, .int .i64 0, .int .i64 0, .slice none 0 0, .int .i32 0]) (places := [(0, 1), (1, 1), (2, 1), (3, 1), (4, 1)]) (vs := [(0, .int .i64 op), (1, .int .i64 w.2.next), (3, .slice ua un uc)]) (cs := #[.int .i64 op, .int .i64 w.2.next, .int .i64 0, .slice ua un uc, .int .i32 0]) (by kernel_rfl) (by kernel_rfl) (by simp) (by rfl) ?_
   refine call_to (by kernel_rfl) (nz_add n (b := b) hb3 q.freshed.took (by omega) iop iw i64c (by decide)) ?_
   rintro _ h11 n
   rw [hx]; clear hx x
   simp
   refine fin2 w.2.next _ h11 _ _ _ htm iw (by rw [add_len]; exact hb3) n.z ?_ ?_ ?_ ?_
   all_goals simp
  ·rw [if_neg c3] at htm
   refine lwp_cond_f (by simp [c3]) ?_
   simp
   refine fin2 r.1 _ h5 _ _ _ htm i4 hb2 n ?_ ?_ ?_ ?_
   all_goals simp
 rw [if_neg c2] at htm
 refine lwp_cond_f (by simp; omega) ?_
 refine lwp_hide fun y hy => ?_
 simp
 refine n.do_cell (k := (9, 1)) (i := 0) (by decide) k1 (by decide) (by kernel_rfl) rfl rfl rfl fun h2 n => ?_
 rw [hy]; clear hy y
 refine lwp_hide fun y hy => ?_
 simp
 refine n.do_cell (k := (9, 1)) (i := 2) (by decide) Own.upd_self (by decide) (by kernel_rfl) rfl rfl hvt fun h3 n => ?_
 have n : Nz s M vs Wb h3 (o1.upd (9, 1) (bx T.api_Term B (RawN.mk (n := 3) [.int .i64 3, .slice none 0 0, vt, .int .i32 0]))) m (.slice none 0 0) [] := n.re fun k => by rw [upd_upd]; rfl
 rw [hy]; clear hy y
 refine lwp_hide fun y hy => ?_
 simp
 refine call_to (by kernel_rfl) (nz_some n (b := b) hb hm (by omega)) ?_
 rintro _ h4 ⟨⟨rfl, i4⟩, n⟩
 have q := hm.someS (s := s) (b := b)
 have hb2 : b < (someS s m b).2.blocks.length := by rw [some_len]; exact hb
 simp only at htm
 generalize someS s m b = r at htm i4 n hb2 q
 rw [hy]; clear hy y
 refine lwp_hide fun y hy => ?_
 simp
 refine call_to (by kernel_rfl) (nz_constant n (b := b) hb2 q (by omega) (k := 7) (by decide)) ?_
 rintro _ h5 ⟨rfl, n⟩
 have i5 := q.nextI (by omega)
 have q5 := q.constant (b := b) (n := 7)
 have hb3 : b < (r.2.constant b 7).blocks.length := by rw [constant_len]; exact hb2
 generalize r.2.constant b 7 = m2 at htm n q5 hb3
 generalize r.2.next = d at htm i5
 rw [hy]; clear hy y
 refine lwp_hide fun y hy => ?_
 simp
 refine call_to (by kernel_rfl) (nz_fresh n q5 (by omega)) ?_
 rintro _ h6 ⟨rfl, n⟩
 have i6 := q5.nextI (by omega)
 rw [hy]; clear hy y
 refine lwp_hide fun y hy => ?_
 simp
 refine n.lit (ls := [r.1, d]) (by simp) (by simp [i4, i5]) rfl (by decide) fun ua un uc h7 _ n => ?_
 refine do_build (z := .agg #[.int .i64 0, .int .i64 0, .int .i64 0, .slice none 0 0, .int .i32 0]) (places := [(0, 1), (1, 1), (2, 1), (3, 1), (4, 1)]) (vs := [(0, .int .i64 5), (1, .int .i64 m2.next), (3, .slice ua un uc)]) (cs := #[.int .i64 5, .int .i64 m2.next, .int .i64 0, .slice ua un uc, .int .i32 0]) (by kernel_rfl) (by kernel_rfl) (by simp) (by rfl) ?_
 refine call_to (by kernel_rfl) (nz_add n (b := b) hb3 q5.freshed (by omega) i64c i6 i64c (by decide)) ?_
 rintro _ h8 n
 have n := n.z
 rw [hy]; clear hy y
 simp
 refine n.lit (ls := [m2.next]) (by simp) (by simp [i6]) rfl (by decide) fun ua un uc h9 _ n => ?_
 refine n.do_cell (k := (9, 1)) (i := 1) (by decide) Own.upd_self (by decide) (by kernel_rfl) rfl rfl rfl fun h10 n => ?_
 refine fin 3 (.slice ua un uc) vt [m2.next] to 0 _ h10 _ htm i64c (by decide) (show b < (m2.two b 5 r.1 d).blocks.length by rw [two_len]; exact hb3) (n.re fun k => by rw [upd_upd]; rfl) ht ?_ ?_ ?_
 all_goals simp
end Go.Proofs.Ytfelpjfopgiabaa
namespace Go.Proofs.Ytfelpjfopgiabaa
open Go Go.Lft
def stAway (f : FuncD) (b : Nat) (t : Th) : Bool := decide (t.blk = b) || !nth (reachedS f t.blk) b
def standStep (f : FuncD) (b : Nat) (out : List Int) (t : Th) : List Int := if stAway f b t then out ++ t.mks else out
def standingS (f : FuncD) (b : Nat) : List Int := (thingsS f).foldl (standStep f b) (rows (fun i => (i : Int)) f.params.toNat)
def stOwn (v : Value) (l : List Int) : Own := fun k => if k = (0, 0) then it T.int v l else none
theorem stOwn_upd {v v' : Value} {l l' : List Int} (q : Key) : stOwn v' l' q = (stOwn v l).upd (0, 0) (it T.int v' l') q := by
 unfold stOwn Own.upd
 repeat' split
 all_goals first | rfl | simp_all
theorem foldl_len {l : List Th} {f : FuncD} {b c : Nat} (hl : ∀ t ∈ l, t.mks.length ≤ c) : ∀ {out : List Int}, (l.foldl (standStep f b) out).length ≤ out.length + c * l.length := by
 induction l with
 | nil => intro out; simp
 | cons t l ih =>
  intro out
  have h1 := ih (fun t ht => hl t (by simp [ht])) (out := standStep f b out t)
  have h2 : (standStep f b out t).length ≤ out.length + c := by
   unfold standStep
   have := hl t (by simp)
   split
   ·rw [List.length_append]; omega
   ·omega
  rw [List.foldl_cons, List.length_cons, Nat.mul_succ]
  omega
theorem Av.mono' {V W : View} {v : Value} (hw : Av W v) (h : V.le W) : Av V v := fun b hb => by
 cases hv : V b with
 | none => rfl
 | some x => have := h b x hv; rw [hw b hb] at this; cases this
theorem own_ints {W W' : View} {h : Heap} {e : TypeId} {v : Value} {l : List Int} (o : OwnT W h e v l) : OwnT W' h e v l := by
 obtain ⟨b, xs, h1, h2⟩ := o
 exact ⟨b, xs, h1, fun i hi => h2 i hi⟩
theorem av_ge {h : Heap} {v : Value} (ha : Av (vw h) v) : ∀ b, v.ownBlock = some b → h.size ≤ b := fun b hb => by
 have : h[b]? = none := ha b hb
 rwa [Array.getElem?_eq_none_iff] at this
theorem standing_ok {f : FuncD} {b : Nat} {v : Value} {h : Heap} (hv : Rd (vw h) v f) (hsm : SmF f) (hp : 0 ≤ f.params ∧ f.params ≤ 1000) (hb : b < f.blocks.length) (hmk : ∀ t ∈ thingsS f, t.mks.length ≤ 1000) (hth : (thingsS f).length ≤ 1000000) :
  HCalls Try.prog N.ref03_standing #[v, .int .i64 b] h (fun u h' => (vw h).le (vw h') ∧ (∀ b, u.ownBlock = some b → h.size ≤ b) ∧ OwnT nothing h' T.int u (standingS f b)) := by
 refine calls_lift (args := [v, .int .i64 b]) follows F.ref03_standing E.ref03_standing (Nat.le_of_ble_eq_true (by kernel_rfl)) fun K hK => ?_
 dsimp only [L.ref03_standing]
 refine lwp_hide fun z hz => ?_
 simp
 refine do_boxT rfl hv fun h1 _ hle1 hs1 hat => ?_
 obtain ⟨cp, vb, cb⟩ := at_funcB hat
 obtain ⟨uf, huf, hufr⟩ := hat.loads rfl
 have huf : Un.ev (vw h1) (.loads 2) (.pointer (some ⟨h.size, 0, none⟩)) = some uf := huf
 generalize h.size = B at cp cb huf
 rw [hz]; clear hz z
 refine lwp_hide fun z hz => ?_
 simp
 refine (Owns.start (h := h1) (View.le_refl (vw h1))).do_empty (k := (0, 0)) (α := Int) rfl El.s_int fun vo h2 hle2 hvo w2 _ => ?_
 have w2 : Owns (vw h1) h2 (stOwn vo []) := w2.congr fun q => by
  unfold stOwn Own.upd
  split <;> rfl
 rw [hz]; clear hz z
 refine lwp_hide fun z hz => ?_
 simp
 obtain ⟨n, hn⟩ : ∃ n : Nat, n = f.params.toNat := ⟨_, rfl⟩
 have hpn : f.params = n := by omega
 rw [hpn] at cp
 refine lwp_for [0, 1, 2, 5, 6] (fun (vo : Value) i => [v, .int .i64 b, .pointer (some ⟨B, 0, none⟩), vo, .int .i64 i]) (fun vo i h3 => Owns (vw h1) h3 (stOwn vo (rows (fun i => (i : Int)) i))) n vo
  rfl (by omega) rfl w2 (fun _ _ => rfl) (fun v k h3 hk m => by simp [cellH_mono m.wle cp]) ?_ ?_
 ·rintro vo i h3 hlt w3 K2 hK2
  simp
  refine w3.do_push (k := (0, 0)) (α := Int) (v := vo) (l := rows (fun i => (i : Int)) i) (d := (i : Int)) rfl El.s_int rfl (rd_int.2 ⟨rfl, by constructor <;> omega⟩) (by simp; omega) (by simp; omega) (fun _ => rfl) (fun _ => rfl) fun u v' h4 w4 _ => ?_
  refine hK2 v' _ _ rfl rfl (w4.congr fun q => ?_)
  rw [rows_succ]; exact stOwn_upd q
 ·rintro vo h3 w3
  simp
  rw [hz]; clear hz z
  refine lwp_hide fun z hz => ?_
  have huf3 : Un.ev (vw h3) (.loads 2) (.pointer (some ⟨B, 0, none⟩)) = some uf := by
   have := ev_mono (ρ := fun _ => none) (e := .un (.loads 2) (.con (.pointer (some ⟨B, 0, none⟩)))) w3.wle (by simpa using huf)
   simpa using this
  simp [huf3]
  refine call_to (by kernel_rfl) (refThings_ok hufr w3.wle hsm) ?_
  rintro vt h4 ⟨hle4, hst⟩
  have w4 := w3.ext hle4
  have hW4 := le_grow (h' := h4) w3.wle
  generalize grow (vw h1) h3 h4 = W4 at hst w4 hW4
  rw [hz]; clear hz z
  refine lwp_hide fun z hz => ?_
  simp
  have hsd : standingS f b = (thingsS f).foldl (standStep f b) (rows (fun i => (i : Int)) n) := by rw [hn]; rfl
  have hlen : ∀ i, ((List.take i (thingsS f)).foldl (standStep f b) (rows (fun i => (i : Int)) n)).length ≤ 1001001000 := fun i => by
   have h1 := foldl_len (l := List.take i (thingsS f)) (f := f) (b := b) (c := 1000) (fun t ht => hmk t (List.mem_of_mem_take ht)) (out := rows (fun i => (i : Int)) n)
   have h2 : (List.take i (thingsS f)).length ≤ (thingsS f).length := by simp; omega
   rw [rows_len] at h1
   omega
  generalize rows (fun i => (i : Int)) n = base at w4 hsd hlen
  have tb := hst.bound
  refine lwp_for [0, 1, 2, 5, 7, 8] (fun (vo : Value) i => [v, .int .i64 b, .pointer (some ⟨B, 0, none⟩), vo, vt, .int .i64 i]) (fun vo i h5 => ∃ W, W4.le W ∧ Owns W h5 (stOwn vo ((List.take i (thingsS f)).foldl (standStep f b) base))) (thingsS f).length vo
   rfl (by omega) rfl ⟨W4, View.le_refl _, w4⟩ (fun _ _ => rfl) (fun v k h5 hk ⟨W, q1, q2⟩ => by simp [hst.len]) ?_ ?_
  ·rintro vo i h5 hlt ⟨W5, hW5, w5⟩ K2 hK2
   have hst5 := hst.mono hW5
   have hl5 := hlen i
   have hsucc : (List.take (i + 1) (thingsS f)).foldl (standStep f b) base = standStep f b ((List.take i (thingsS f)).foldl (standStep f b) base) (nth (thingsS f) i) := by
    rw [List.take_succ_eq_append_getElem hlt, List.foldl_append, nth_eq hlt]; rfl
   generalize (List.take i (thingsS f)).foldl (standStep f b) base = out at w5 hsucc hl5
   have hat5 := hst5.at hlt
   rw [← nth_eq hlt] at hat5
   have hmt := hmk _ (nth_mem hlt)
   generalize nth (thingsS f) i = t at hat5 hsucc hmt
   have hblk : cellH W5 (((slA vt).add (i * 4)).add 0) = some (.int .i64 t.blk) := (hat5.part Th.p_blk).int
   obtain ⟨vm, hvm⟩ := (hat5.part Th.p_mks).sl
   have hvm1 : cellH W5 (((slA vt).add (i * 4)).add 2) = some vm := hvm.1
   have hvm2 := hvm.2
   have h64 := (hat5.part Th.p_blk).rng
   simp only [lwp_block]
   refine lwp_hide fun y hy => ?_
   simp
   rw [hy]; clear hy y
   refine lwp_hide fun y hy => ?_
   have fin : ∀ (h6 : Heap) (ρ : Env) (W6 : View), W5.le W6 → Owns W6 h6 (stOwn vo out) → Lft.look ρ 0 = some v → Lft.look ρ 1 = some (.int .i64 b) → Lft.look ρ 2 = some (.pointer (some ⟨B, 0, none⟩)) → Lft.look ρ 5 = some vo → Lft.look ρ 7 = some vt → Lft.look ρ 8 = some (.int .i64 i) → Lft.look ρ 9 = some (.bool (stAway f b t)) →
     LC.wp Try.prog y (inBlk 3 (thenL K2 (inBlk 2 (thenL (LC.wp Try.prog z (fnPost [.tmp 4] K)) (fnPost [.tmp 4] K))))) ρ h6 := by
    intro h6 ρ W6 hW6 w6 r0 r1 r2 r5 r7 r8 r9
    rw [hy]; clear hy y
    refine lwp_hide fun y hy => ?_
    simp [look_setE, look_kill, r9]
    rw [hy]; clear hy y
    have hsp : standStep f b out t = if stAway f b t then out ++ t.mks else out := rfl
    rw [hsp] at hsucc
    by_cases ca : stAway f b t = true
    ·rw [if_pos ca] at hsucc
     refine lwp_cond_t (by simp [look_setE, look_kill, ca]) ?_
     have hst6 := hst5.mono (View.le_trans hW6 w6.wle)
     simp (disch := omega) [look_setE, look_kill, r0, r1, r2, r5, r7, r8, hst6.idxn (N := 4) rfl, cellH_mono (View.le_trans hW6 w6.wle) hvm1]
     refine w6.do_append (k := (0, 0)) (α := Int) (v := vo) (l := out) (l2 := t.mks) rfl El.s_int rfl rfl ((hvm2.mono hW6).src w6.wle) (by omega) (by omega) fun v' h7 w7 _ => ?_
     refine hK2 v' _ _ ?_ ?_ ⟨W6, View.le_trans hW5 hW6, w7.congr fun q => ?_⟩
     ·simp [look_setE, look_kill, r8]
     ·simp [keepE, look_setE, look_kill, r0, r1, r2, r5, r7, r8]
     ·rw [hsucc]; exact stOwn_upd q
    ·rw [if_neg ca] at hsucc
     refine lwp_cond_f (by simp [look_setE, look_kill, ca]) ?_
     simp
     refine hK2 vo _ _ ?_ ?_ ⟨W6, View.le_trans hW5 hW6, by rw [hsucc]; exact w6⟩
     ·simp [look_setE, look_kill, r8]
     ·simp [keepE, look_setE, look_kill, r0, r1, r2, r5, r7, r8]
   refine lwp_hide fun x hx => ?_
   simp (disch := omega) [(hst5.mono w5.wle).idxn (N := 4) rfl, cellH_mono w5.wle hblk]
   rw [hx]; clear hx x
   by_cases cb : t.blk = b
   ·refine lwp_cond_f (by simp [cb]) ?_
    simp
    refine fin h5 _ W5 (View.le_refl _) w5 ?_ ?_ ?_ ?_ ?_ ?_ ?_
    all_goals simp [stAway, cb]
   ·refine lwp_cond_t (by simp [cb]) ?_
    refine lwp_hide fun x hx => ?_
    have hf5 : Rd (vw h5) uf f := hufr.mono (View.le_trans hW4 (View.le_trans hW5 w5.wle))
    have huf5 : Un.ev (vw h5) (.loads 2) (.pointer (some ⟨B, 0, none⟩)) = some uf := by
     have := ev_mono (ρ := fun _ => none) (e := .un (.loads 2) (.con (.pointer (some ⟨B, 0, none⟩)))) (View.le_trans hW4 (View.le_trans hW5 w5.wle)) (by simpa using huf)
     simpa using this
    refine drawn_at (vw h5) (View.le_refl _) ?_
    simp (disch := omega) [(hst5.mono w5.wle).idxn (N := 4) rfl, cellH_mono w5.wle hblk, huf5]
    refine call_to (by kernel_rfl) (reached_ok hf5 (by have := hsm.len; omega)) ?_
    rintro ur h6 ⟨hle6, hur⟩
    have w6 := w5.ext hle6
    have hW6 := le_grow (h' := h6) w5.wle
    have hur6 : SlRd (vw h6) ur (reachedS f t.blk) := hur.mono (fresh_le h5 h6)
    have hrl : (reachedS f t.blk).length = f.blocks.length := reachedS_len
    rw [hx]; clear hx x
    simp (disch := omega) [hur6.idx1 rfl, hur6.bool (View.le_refl _)]
    refine fin h6 _ _ hW6 w6 ?_ ?_ ?_ ?_ ?_ ?_ ?_
    all_goals simp [stAway, cb]
  ·rintro vo h5 ⟨W5, hW5, w5⟩
   rw [List.take_length, ← hsd] at w5
   simp
   rw [hz]; clear hz z
   simp
   have hX : (vw h).le W5 := View.le_trans hle1 (View.le_trans hW4 hW5)
   exact hK _ _ ⟨View.le_trans hX w5.wle, av_ge (Av.mono' (w5.av (0, 0) _ rfl) hX), own_ints (w5.get (k := (0, 0)) (v := vo) rfl)⟩
end Go.Proofs.Ytfelpjfopgiabaa
namespace Go.Lft
open Go
theorem lwp_forG {P : Program} {Q : Post} {ρ : Env} {h : Heap} {a i c : Nat} {ks ks2 : List Nat} {ce : E} {body : LC} {σ : Type} (kp : List Nat) (vals : σ → Nat → List Value) (J : σ → Nat → Heap → Prop) (n : Nat) (d : Nat) (s0 : σ)
  (hok : forOk kp ks ks2 c i = true) (hn : n + d ≤ 9223372036854775806) (h0 : keepE kp ρ = kp.zip (vals s0 0)) (hj : J s0 0 h)
  (hi : ∀ s k, look (kp.zip (vals s k)) i = some (.int .i64 ((k + d : Nat) : Int)))
  (hb : ∀ s k h, k ≤ n → J s k h → ev (look (kp.zip (vals s k))) (vw h) ce = some (.bool (decide (k < n))))
  (round : ∀ s k h, k < n → J s k h → ∀ K : Env → Heap → Prop, (∀ s' ρ' h', look ρ' i = some (.int .i64 ((k + d : Nat) : Int)) → keepE kp (setE ρ' i (.int .i64 (((k + d : Nat) : Int) + 1))) = kp.zip (vals s' (k + 1)) → J s' (k + 1) h' → K ρ' h') → body.wp P (thenL K (inBlk a Q)) (kp.zip (vals s k)) h)
  (done : ∀ s h, J s n h → Q .normal (kp.zip (vals s n)) h) : LC.wp P (forC a i c ks ks2 ce body) (inBlk a Q) ρ h := by
 simp only [forOk, List.all_eq_true, Bool.and_eq_true, Bool.not_eq_true', bne_iff_ne, Bool.or_eq_true, beq_iff_eq, ne_eq] at hok
 refine lwp_loop kp (fun m ρ h => ∃ s k, k ≤ n ∧ ρ = kp.zip (vals s k) ∧ m = n - k ∧ J s k h) n ⟨s0, 0, by omega, h0, by omega, hj⟩ ?_
 rintro m ρ h ⟨s, k, hk, rfl, rfl, hJ⟩ K hK
 have hkill : killE (kp.zip (vals s k)) ks = kp.zip (vals s k) := killE_id fun p hp => (hok p.1 (zip_fst hp)).1.1
 have hne : ∀ p ∈ kp.zip (vals s k), p.1 ≠ c := fun p hp => (hok p.1 (zip_fst hp)).1.2
 have hk2 : ∀ v, killE (setE (kp.zip (vals s k)) c v) [c] = kp.zip (vals s k) := fun v => killE_setE hne
 have hlk : ∀ v, look (setE (kp.zip (vals s k)) c v) c = some v := fun v => by rw [look_setE, if_pos rfl]
 simp only [lwp_seq, lwp_reg, regWp_fin, part_none, evP_cons, evP_nil, hb s k h hk hJ, Option.bind_some, sat_some, okE_nil, true_and, setsE, hkill, thenL_normal, lwp_cond, ev_tmp, hlk, condP_decide, hk2, lwp_skip, lwp_exit, thenL_exit, inBlk_exit, if_true]
 refine ⟨fun hlt => ?_, fun hge => ?_⟩
 ·have hlt' : k < n := by omega
  rw [thenL_thenL]
  refine round s k h hlt' hJ _ fun s' ρ' h' hl he hJ' => ?_
  simp only [lwp_reg, regWp_fin, part_none, evP_cons, evP_nil, ev_bin_eq, ev_tmp, hl, okE_nil, true_and, Option.bind_some, ev_con, Option.bind_some, bn_add, sat_some, setsE, thenL_normal, true_and]
  rw [wrap64_id (by omega) (by omega)]
  refine hK (n - (k + 1)) _ _ (by omega) ⟨s', k + 1, by omega, ?_, rfl, hJ'⟩
  rw [← he]
  refine keepE_ext fun t ht => ?_
  rw [look_setE, look_setE, look_kill]
  split
  ·rfl
  ·rename_i hti
   rcases (hok t ht).2 with e | e
   ·exact absurd e.symm hti
   ·rw [e]; rfl
 ·have : k = n := by omega
  subst this
  exact done s h hJ
open Classical in
/-- Several of one's own, written no more. -/
theorem Owns.freezeAll {W : View} {h : Heap} {o : Own} (w : Owns W h o) (S : Key → Bool) :
  ∃ W' : View, W.le W' ∧ Owns W' h (fun k => if S k then none else o k) ∧ ∀ {k : Key} {α : Type} [r : Rep α] {e : TypeId} {v : Value} {l : List α}, S k = true → o k = it e v l → SlRd W' v l := by
 have hle : W.le (fun b => if ∃ k i, S k = true ∧ o k = some i ∧ i.v.ownBlock = some b then h[b]? else W b) := fun b x hb => by
  show (if _ then _ else _) = _
  rw [if_neg]
  ·exact hb
  ·rintro ⟨k, i, _, h2, h3⟩
   rw [w.av k i h2 b h3] at hb; cases hb
 refine ⟨fun b => if ∃ k i, S k = true ∧ o k = some i ∧ i.v.ownBlock = some b then h[b]? else W b, hle, ?_, ?_⟩
 ·refine ⟨fun b x hb => ?_, fun k i hk => ?_, fun k i hk b hb => ?_, fun k k' i i' b hk hk' => ?_⟩
  ·split at hb
   ·exact hb
   ·exact w.wle b x hb
  ·split at hk
   ·cases hk
   ·exact @OwnT.mono i.α i.rep _ _ _ _ _ (w.own k i hk) _ hle
  ·split at hk
   ·cases hk
   ·rename_i hs
    show (if _ then _ else _) = _
    rw [if_neg]
    ·exact w.av k i hk b hb
    ·rintro ⟨k', i', h1, h2, h3⟩
     exact hs (w.dj k k' i i' b hk h2 hb h3 ▸ h1)
  ·split at hk
   ·cases hk
   ·split at hk'
    ·cases hk'
    ·exact w.dj k k' i i' b hk hk'
 ·intro k α r e v l hs hk
  refine (w.get hk).rd hle fun b hb => ?_
  rw [if_pos ⟨k, _, hs, hk, hb⟩]
theorem Owns.nils {W : View} {h : Heap} {o o' : Own} (w : Owns W h o) (ho : ∀ k i, o' k = some i → o k = some i ∨ (i.v = .slice none 0 0 ∧ @OwnT i.α i.rep W h i.e i.v i.l)) : Owns W h o' := by
 have hnb : ∀ {i : Item} {b : Nat}, i.v = .slice none 0 0 → i.v.ownBlock = some b → False := fun e hb => by rw [e] at hb; simp [Value.ownBlock] at hb
 refine ⟨w.wle, fun k i hk => ?_, fun k i hk b hb => ?_, fun k k' i i' b hk hk' hb hb' => ?_⟩
 ·rcases ho k i hk with h1 | ⟨_, h1⟩
  ·exact w.own k i h1
  ·exact h1
 ·rcases ho k i hk with h1 | ⟨e, _⟩
  ·exact w.av k i h1 b hb
  ·exact (hnb e hb).elim
 ·rcases ho k i hk with h1 | ⟨e, _⟩
  ·rcases ho k' i' hk' with h2 | ⟨e, _⟩
   ·exact w.dj k k' i i' b h1 h2 hb hb'
   ·exact (hnb e hb').elim
  ·exact (hnb e hb).elim
end Go.Lft
namespace Go.Proofs.Ytfelpjfopgiabaa
open Go Go.Lft
abbrev TgS := List (List Int) × MS
def tgPut (x : TgS) (p b : Nat) (m : MS) : TgS := (x.1.set p (nth x.1 p ++ [(b : Int)]), m)
def tgA (s : List Int) (k : Nat) (x : TgS) : TgS :=
 if takeV s x.2.at_ 3 = 0 then tgPut x (takeV s (x.2.at_ + 1) ((k + 1 : Nat) : Int)).toNat (k + 1) x.2.took.took
 else tgPut x k (k + 1) x.2.took
def tgI (s : List Int) (n b : Nat) (x : TgS) : TgS :=
 let t := 1 + takeV s x.2.at_ ((n : Int) - 1)
 if t ≤ b then
  if takeV s (x.2.at_ + 1) 2 = 0 then tgPut x b (min (b + 1) (n - 1)) x.2.took.took else tgPut x b t.toNat x.2.took.took
 else tgPut x b t.toNat x.2.took
def tgB (s : List Int) (n b : Nat) (x : TgS) : TgS := up (fun _ => tgI s n b) (if 1 < n then (takeV s x.2.at_ 6 - 3).toNat else 0) (x.1, x.2.took)
def targetsS (s : List Int) (n : Nat) (m : MS) : TgS := up (tgB s n) n (up (tgA s) (n - 1) (List.replicate n [], m))
structure TgO (ri : Own) (o : Own) (vo : Value) (l : List (List Int)) (rv : List Raw) : Prop where
 res : ∀ k : Key, 8 ≤ k.1 → o k = ri k
 top : o (3, 0) = it T.s_int vo rv
 len : rv.length = l.length
 row : ∀ i, i < l.length → o (4, i) = it T.int (nth rv i).v (nth l i)
 els : ∀ k : Key, 3 ≤ k.1 → k.1 < 8 → k ≠ (3, 0) → (∀ i, i < l.length → k ≠ (4, i)) → o k = none
theorem TgO.put {ri : Own} {o : Own} {vo : Value} {l : List (List Int)} {rv : List Raw} (q : TgO ri o vo l rv) {p : Nat} (hp : p < l.length) {v' : Value} {r : List Int} : TgO ri ((o.upd (4, p) (it T.int v' r)).upd (3, 0) (it T.s_int vo (rv.set p ⟨v'⟩))) vo (l.set p r) (rv.set p ⟨v'⟩) := by
 have hpr : p < rv.length := by rw [q.len]; exact hp
 refine ⟨fun k hk => (Own.upd_ne (by rintro rfl; simp at hk)).trans ((Own.upd_ne (by rintro rfl; simp at hk)).trans (q.res k hk)), Own.upd_self, by simp [q.len], fun i hi => ?_, fun k h1 h8 h2 h3 => ?_⟩
 ·have hi : i < l.length := by simpa using hi
  have hir : i < rv.length := by rw [q.len]; exact hi
  rw [Own.upd_ne (by simp), nth_set hir, nth_set hi]
  by_cases e : p = i
  ·subst e
   rw [Own.upd_self, if_pos rfl, if_pos rfl]
  ·rw [Own.upd_ne (fun e2 => e (by injection e2 with _ e2; exact e2.symm)), if_neg e, if_neg e]
   exact q.row i hi
 ·have h3 : ∀ i, i < l.length → k ≠ (4, i) := fun i hi => h3 i (by simpa using hi)
  rw [Own.upd_ne h2, Own.upd_ne (h3 p hp)]
  exact q.els k h1 h8 h2 h3
def Tg (ri : Own) (s : List Int) (M : Nat) (vs : Value) (W : View) (vo : Value) (h : Heap) (x : TgS) : Prop := ∃ W' o rv, W.le W' ∧ Mk s M vs W' h o x.2 ∧ TgO ri o vo x.1 rv
section
variable {s : List Int} {M : Nat} {vs : Value} {W : View} {vo : Value} {h : Heap} {x : TgS} {ri : Own}
theorem Tg.take (t : Tg ri s M vs W vo h x) {c : Nat} (hm : x.2.ok c) (hc : c ≤ 1000000) {k : Int} (hk : 0 < k) (hk2 : k ≤ 1000000000) :
  HCalls Try.prog N.ref03_maker_take #[.pointer (some ⟨M, 0, none⟩), .int .i64 k] h (fun v h' => v = .int .i64 (takeV s x.2.at_ k) ∧ Tg ri s M vs W vo h' (x.1, x.2.took)) := by
 obtain ⟨W', o, rv, g, w, q⟩ := t
 refine (w.take (by have := hm.at_; omega) hk hk2).mono ?_
 rintro v h' ⟨e, o', w', f⟩
 exact ⟨e, W', o', rv, g, w', fun k hk => (f k (by omega)).trans (q.res k hk), (f _ (by decide)).trans q.top, q.len, fun i hi => (f _ (by show 3 ≤ 4; decide)).trans (q.row i hi), fun k h1 h8 h2 h3 => (f _ h1).trans (q.els k h1 h8 h2 h3)⟩
theorem Tg.len (t : Tg ri s M vs W vo h x) {Q : View} : Un.ev Q .len vo = some (.int .i64 x.1.length) := by
 obtain ⟨W', o, rv, g, w, q⟩ := t
 rw [← q.len]
 exact (w.own.now q.top).len
theorem Tg.idx (t : Tg ri s M vs W vo h x) {k : IntKind} {i : Int} (h0 : 0 ≤ i) (h1 : i < x.1.length) : Bn.ev (.idx 1) vo (.int k i) = some (.pointer (some ((slA vo).add i.toNat))) := by
 obtain ⟨W', o, rv, g, w, q⟩ := t
 exact (w.own.now q.top).idx1 rfl h0 (by rw [q.len]; exact h1)
theorem Tg.put {po po2 po3 : OP} (t : Tg ri s M vs W vo h x) {p : Nat} (hp : p < x.1.length) (hl : (nth x.1 p).length ≤ 1000000) {b : Nat} (hb : b ≤ 1000000) :
  ∃ v : Value, cellH (vw h) ((slA vo).add p) = some v ∧ ∀ {ty ty2 ty3 : TypeId} {a a1 a2 : Operand} {c1 c2 : Operand} {us : List (Nat × Value)} {us2 : Value → List (Nat × Value)} {us3 : Value → Value → List (Nat × Value)} {K : Value → Value → Value → Heap → Prop},
   asg us a = .int .i64 b → (∀ u, asg (us2 u) a1 = v) → (∀ u, asg (us2 u) a2 = u) → (∀ u v', asg (us3 u v') c1 = .pointer (some ((slA vo).add p))) → (∀ u v', asg (us3 u v') c2 = v') → (∀ u v' h', Tg ri s M vs W vo h' (tgPut x p b x.2) → K u v' undef h') →
   @Lft.step po Try.prog (.buildSlice T.s_int 1 #[(0, a)]) ty us h fun u h2 => @Lft.step po2 Try.prog (.call ⟨.builtin .append, #[a1, a2], #[T.s_int, T.s_int]⟩) ty2 (us2 u) h2 fun v' h3 => @Lft.step po3 Try.prog (.store T.s_int c1 c2) ty3 (us3 u v') h3 fun w h4 => K u v' w h4 := by
 obtain ⟨W', o, rv, g, w, q⟩ := t
 have hpr : p < rv.length := by rw [q.len]; exact hp
 have hcell := ((w.own.now q.top).at hpr).raw
 have hn : Rep.n Raw = 1 := rfl
 rw [hn, Nat.mul_one, ← nth_eq hpr] at hcell
 refine ⟨_, hcell, fun {ty ty2 ty3 a a1 a2 c1 c2 us us2 us3 K} ha ha1 ha2 hc1 hc2 hK => ?_⟩
 refine w.own.do_push (k := (4, p)) (α := Int) (d := (b : Int)) (q.row p hp) El.s_int ha (rd_int.2 ⟨rfl, by constructor <;> omega⟩) (by omega) (by omega) ha1 ha2 fun u v' h3 w3 _ => ?_
 have hv := (w3.cells (k := (4, p)) Own.upd_self).2
 refine w3.do_put (k := (3, 0)) (α := Raw) (v := vo) (l := rv) (i := p) (d := ⟨v'⟩) ((Own.upd_ne (by simp)).trans q.top) (by kernel_rfl) (by rw [hc1, hn, Nat.mul_one]) (hc2 u v') hpr (rd_raw.2 ⟨rfl, hv⟩) fun h4 w4 _ => hK u v' h4 ?_
 obtain ⟨vb, vl, lb, bb⟩ := w.box
 exact ⟨W', _, _, g, ⟨w4, w.src, vb, vl, lb, bb.frame fun k hk => by rw [Own.upd_ne (by rintro rfl; simp at hk), Own.upd_ne (by rintro rfl; simp at hk)]⟩, q.put hp⟩
end
theorem tgPut_len {x : TgS} {p b : Nat} {m : MS} : (tgPut x p b m).1.length = x.1.length := by simp [tgPut]
theorem tgPut_row {x : TgS} {p b c : Nat} {m : MS} (h : ∀ i, (nth x.1 i).length ≤ c) : ∀ i, (nth (tgPut x p b m).1 i).length ≤ c + 1 := by
 intro i
 have hi := h i
 rcases Nat.lt_or_ge i x.1.length with hl | hl
 ·show (nth (x.1.set p _) i).length ≤ _
  rw [nth_set hl]
  split
  ·rename_i e; subst e
   rw [List.length_append, List.length_singleton]; omega
  ·omega
 ·rw [nth_ge (by rw [tgPut_len]; exact hl)]
  show 0 ≤ _; omega
structure TgK (n c : Nat) (x : TgS) : Prop where
 len : x.1.length = n
 row : ∀ i, (nth x.1 i).length ≤ c
 ok : x.2.ok c
theorem TgK.mono {n c d : Nat} {x : TgS} (h : TgK n c x) (hd : c ≤ d) : TgK n d x := ⟨h.len, fun i => Nat.le_trans (h.row i) hd, h.ok.mono hd⟩
theorem TgK.put {n c p b : Nat} {x : TgS} {m : MS} (h : TgK n c x) (hm : m.ok (c + 2)) : TgK n (c + 2) (tgPut x p b m) := ⟨tgPut_len.trans h.len, fun i => by have := tgPut_row (p := p) (b := b) (m := m) h.row i; omega, hm⟩
theorem tgA_ok {s : List Int} {n c k : Nat} {x : TgS} (h : TgK n c x) : TgK n (c + 2) (tgA s k x) := by
 unfold tgA
 split
 ·exact h.put h.ok.took.took
 ·exact h.put (h.ok.took.mono (by omega))
theorem tgI_ok {s : List Int} {n c b : Nat} {x : TgS} (h : TgK n c x) : TgK n (c + 2) (tgI s n b x) := by
 unfold tgI
 simp only
 repeat' split
 ·exact h.put h.ok.took.took
 ·exact h.put h.ok.took.took
 ·exact h.put (h.ok.took.mono (by omega))
theorem up_tgA {s : List Int} {n c : Nat} {x : TgS} (h : TgK n c x) : ∀ k, TgK n (c + 2 * k) (up (tgA s) k x)
 | 0 => h
 | k + 1 => (tgA_ok (up_tgA h k)).mono (by omega)
theorem up_tgI {s : List Int} {n c b : Nat} {x : TgS} (h : TgK n c x) : ∀ k, TgK n (c + 2 * k) (up (fun _ => tgI s n b) k x)
 | 0 => h
 | k + 1 => (tgI_ok (up_tgI h k)).mono (by omega)
theorem tgB_ok {s : List Int} {n c b : Nat} {x : TgS} (h : TgK n c x) : TgK n (c + 10) (tgB s n b x) := by
 unfold tgB
 have ht := takeV_rng (s := s) (at_ := x.2.at_) (n := 6) (by decide)
 have h1 : TgK n (c + 1) (x.1, x.2.took) := ⟨h.len, fun i => by have := h.row i; show (nth x.1 i).length ≤ _; omega, h.ok.took⟩
 refine (up_tgI h1 _).mono ?_
 split <;> omega
theorem up_tgB {s : List Int} {n c : Nat} {x : TgS} (h : TgK n c x) : ∀ k, TgK n (c + 10 * k) (up (tgB s n) k x)
 | 0 => h
 | k + 1 => (tgB_ok (up_tgB h k)).mono (by omega)
theorem targets_ok {s : List Int} {M : Nat} {vs : Value} {W : View} {h : Heap} {o : Own} {m : MS} {ri : Own} (w : Mk s M vs W h o m) (hres : ∀ k : Key, 8 ≤ k.1 → o k = ri k) (ho : ∀ k : Key, 3 ≤ k.1 → k.1 < 8 → o k = none) {n c : Nat} (hm : m.ok c) (hc : c ≤ 1000) (hn1 : 1 ≤ n) (hn2 : n ≤ 100) :
  HCalls Try.prog N.ref03_maker_targets #[.pointer (some ⟨M, 0, none⟩), .int .i64 n] h (fun u h' => ∃ W' o', W.le W' ∧ Mk s M vs W' h' o' (targetsS s n m).2 ∧ (∀ k : Key, 8 ≤ k.1 → o' k = ri k) ∧ (∀ k : Key, 3 ≤ k.1 → k.1 < 8 → o' k = none) ∧ SlRd W' u (targetsS s n m).1) := by
 refine calls_lift (args := [.pointer (some ⟨M, 0, none⟩), .int .i64 n]) follows F.ref03_maker_targets E.ref03_maker_targets (Nat.le_of_ble_eq_true (by kernel_rfl)) fun K hK => ?_
 have htd : targetsS s n m = _ := rfl
 dsimp only [L.ref03_maker_targets]
 refine lwp_hide fun z hz => ?_
 simp
 rw [hz]; clear hz z
 refine lwp_hide fun z hz => ?_
 simp
 refine do_make (α := Raw) (W := W) (k := .i64) (n := n) (d := ⟨.slice none 0 0⟩) El.ss_int (by rfl) (by rfl) ⟨rfl, rfl⟩ (by omega) (by omega) fun vo h1 o1 m1 hle1 hb1 => ?_
 have t1 : Tg ri s M vs W vo h1 (List.replicate n [], m) := by
  have w1 := w.own.add (k := (3, 0)) (ho _ (by decide) (by decide)) o1 hle1 (fun b hb => by rw [hb1] at hb; cases hb; exact Nat.le_refl _)
  have w2 := w1.nils (o' := fun k => if k.1 = 4 ∧ k.2 < n then it T.int (.slice none 0 0) ([] : List Int) else o.upd (3, 0) (it T.s_int vo (List.replicate n (Raw.mk (.slice none 0 0)))) k) fun k i hk => by
   split at hk
   ·cases hk; exact .inr ⟨rfl, OwnT.nil (α := Int) W h1 T.int⟩
   ·exact .inl hk
  obtain ⟨vb, vl, lb, bb⟩ := w.box
  refine ⟨W, _, List.replicate n ⟨.slice none 0 0⟩, View.le_refl _, ⟨w2, w.src, vb, vl, lb, bb.frame fun k hk => ?_⟩, ?_, rfl, by simp, fun i hi => ?_, fun k h1 h8 h2 h3 => ?_⟩
  ·have h4 : ¬ (k.1 = 4 ∧ k.2 < n) := by omega
   show (if _ then _ else _) = _
   rw [if_neg h4, Own.upd_ne (by rintro rfl; simp at hk)]
  ·intro k hk
   show (if _ then _ else _) = _
   rw [if_neg (by omega), Own.upd_ne (by rintro rfl; simp at hk), hres k hk]
  ·have hi : i < n := by simpa using hi
   show (if _ then _ else _) = _
   rw [if_pos ⟨rfl, hi⟩, nth_replicate hi, nth_replicate hi]
  ·show (if _ then _ else _) = _
   rw [if_neg, Own.upd_ne h2, ho k h1 h8]
   rintro ⟨e1, e2⟩
   refine h3 k.2 (by simpa using e2) ?_
   rw [← e1]
 have k1 : TgK n c (List.replicate n [], m) := ⟨by simp, fun i => by
  rcases Nat.lt_or_ge i n with hi | hi
  ·rw [nth_replicate hi]; show 0 ≤ _; omega
  ·rw [nth_ge (by simpa using hi)]; show 0 ≤ _; omega, hm⟩
 clear m1 o1 w ho
 obtain ⟨x0, hx0⟩ : ∃ x0 : TgS, x0 = (List.replicate n [], m) := ⟨_, rfl⟩
 rw [← hx0] at t1 k1
 have htd : targetsS s n m = up (tgB s n) n (up (tgA s) (n - 1) x0) := by rw [hx0]; rfl
 clear hx0
 rw [hz]; clear hz z
 refine lwp_hide fun z hz => ?_
 simp
 refine lwp_forG [0, 1, 5, 6] (fun (_ : Unit) k => [.pointer (some ⟨M, 0, none⟩), .int .i64 n, vo, .int .i64 ((k + 1 : Nat) : Int)]) (fun _ k h2 => Tg ri s M vs W vo h2 (up (tgA s) k x0)) (n - 1) 1 ()
  rfl (by omega) rfl t1 (fun _ _ => rfl) (fun v k h2 hk m => by simp; omega) ?_ ?_
 ·rintro _ k h2 hlt t2 K2 hK2
  have kx := up_tgA (s := s) k1 k
  have e2 : up (tgA s) (k + 1) x0 = tgA s k (up (tgA s) k x0) := rfl
  rw [e2] at hK2
  generalize up (tgA s) k x0 = x at t2 kx hK2
  have hxl := kx.len
  simp only [lwp_block]
  refine lwp_hide fun y hy => ?_
  simp
  rw [show IntKind.i64.wrap (k : Int) = k from wrap64_id (by omega) (by omega)]
  rw [hy]; clear hy y
  refine lwp_hide fun y hy => ?_
  have fin : ∀ (p : Nat) (m' : MS) (h' : Heap) (ρ : Env), tgA s k x = tgPut x p (k + 1) m' → p < n → Tg ri s M vs W vo h' (x.1, m') → Lft.look ρ 0 = some (.pointer (some ⟨M, 0, none⟩)) → Lft.look ρ 1 = some (.int .i64 n) → Lft.look ρ 5 = some vo → Lft.look ρ 6 = some (.int .i64 ((k + 1 : Nat) : Int)) → Lft.look ρ 7 = some (.int .i64 p) →
    LC.wp Try.prog y (inBlk 1 (thenL K2 (inBlk 0 (thenL (LC.wp Try.prog z (fnPost [.tmp 4] K)) (fnPost [.tmp 4] K))))) ρ h' := by
   intro p m' h' ρ e hp t r0 r1 r5 r6 r7
   rw [hy]; clear hy y
   obtain ⟨vr, hvr, put⟩ := t.put (p := p) (b := k + 1) (by show p < x.1.length; omega) (by have := kx.row p; show (nth x.1 p).length ≤ _; omega) (by omega)
   have hix := t.idx (k := .i64) (i := p) (by omega) (by show (p : Int) < x.1.length; omega)
   simp only [Int.toNat_natCast] at hix
   simp [look_setE, look_kill, r0, r1, r5, r6, r7, hix, hvr]
   refine put (by simp) (fun _ => by simp) (fun _ => by simp) (fun _ _ => by simp) (fun _ _ => by simp) fun u v' h3 t3 => ?_
   refine hK2 () _ _ ?_ ?_ (by rw [e]; exact t3)
   ·simp [look_setE, look_kill, r6]
   ·simp [keepE, look_setE, look_kill, r0, r1, r5]
  have had : tgA s k x = _ := tgA.eq_1 s k x
  refine lwp_hide fun w hw => ?_
  simp
  refine call_to (by kernel_rfl) (t2.take kx.ok (by omega) (k := 3) (by decide) (by decide)) ?_
  rintro _ h3 ⟨rfl, t3⟩
  simp
  rw [hw]; clear hw w
  by_cases c3 : takeV s x.2.at_ 3 = 0
  ·rw [if_pos c3] at had
   refine lwp_cond_t (by simp [c3]) ?_
   simp
   refine call_to (by kernel_rfl) (t3.take kx.ok.took (by omega) (k := ((k + 1 : Nat) : Int)) (by omega) (by omega)) ?_
   rintro _ h4 ⟨rfl, t4⟩
   have hx : (x.1, x.2.took).2.at_ = x.2.at_ + 1 := rfl
   rw [hx]
   obtain ⟨u0, u1⟩ := takeV_rng (s := s) (at_ := x.2.at_ + 1) (n := ((k + 1 : Nat) : Int)) (by omega)
   generalize takeV s (x.2.at_ + 1) ((k + 1 : Nat) : Int) = q at had u0 u1
   refine fin q.toNat _ h4 _ had (by omega) t4 ?_ ?_ ?_ ?_ ?_
   all_goals simp
   omega
  ·rw [if_neg c3] at had
   refine lwp_cond_f (by simp [c3]) ?_
   simp
   refine fin k _ h3 _ had (by omega) t3 ?_ ?_ ?_ ?_ ?_
   all_goals simp
 ·rintro _ h2 t2
  have k2 := up_tgA (s := s) k1 (n - 1)
  generalize up (tgA s) (n - 1) x0 = x1 at t2 k2 htd
  simp
  rw [hz]; clear hz z
  refine lwp_hide fun z hz => ?_
  simp
  refine lwp_for [0, 1, 5, 8] (fun (_ : Unit) k => [.pointer (some ⟨M, 0, none⟩), .int .i64 n, vo, .int .i64 k]) (fun _ k h3 => Tg ri s M vs W vo h3 (up (tgB s n) k x1)) n ()
   rfl (by omega) rfl t2 (fun _ _ => rfl) (fun v k h3 hk m => by simp) ?_ ?_
  ·rintro _ b h3 hlt t3 K2 hK2
   have kx := (up_tgB (s := s) k2 b).mono (d := 3000) (by omega)
   have e3 : up (tgB s n) (b + 1) x1 = tgB s n b (up (tgB s n) b x1) := rfl
   rw [e3] at hK2
   generalize up (tgB s n) b x1 = x at t3 kx hK2
   simp only [lwp_block]
   refine lwp_hide fun y hy => ?_
   simp
   refine call_to (by kernel_rfl) (t3.take kx.ok (by omega) (k := 6) (by decide) (by decide)) ?_
   rintro _ h4 ⟨rfl, t4⟩
   have hbd : tgB s n b x = _ := tgB.eq_1 s n b x
   obtain ⟨r0, r1⟩ := takeV_rng (s := s) (at_ := x.2.at_) (n := 6) (by decide)
   generalize takeV s x.2.at_ 6 = r at hbd r0 r1
   have kx1 : TgK n 3001 (x.1, x.2.took) := ⟨kx.len, fun i => by have := kx.row i; show (nth x.1 i).length ≤ _; omega, kx.ok.took⟩
   obtain ⟨cnt, hcnt⟩ : ∃ cnt : Nat, cnt = if 1 < n then (r - 3).toNat else 0 := ⟨_, rfl⟩
   have hc3 : cnt ≤ 3 := by rw [hcnt]; split <;> omega
   rw [← hcnt] at hbd
   generalize (x.1, x.2.took) = x2 at t4 kx1 hbd
   rw [hy]; clear hy y
   refine lwp_hide fun y hy => ?_
   simp
   rw [hy]; clear hy y
   simp only [lwp_block]
   have hw3 : IntKind.i64.wrap (r - 3) = r - 3 := wrap64_id (by omega) (by omega)
   refine lwp_forC [0, 1, 5, 8, 9, 10] (fun (_ : Unit) k => [.pointer (some ⟨M, 0, none⟩), .int .i64 n, vo, .int .i64 b, .int .i64 r, .int .i64 k]) (fun _ k h5 => Tg ri s M vs W vo h5 (up (fun _ => tgI s n b) k x2)) cnt ()
    rfl (by omega) rfl t4 (fun _ _ => rfl) (fun v k h5 hk m => by
     by_cases hn : 1 < n
     ·rw [if_pos hn] at hcnt
      by_cases hk2 : k < cnt
      ·have e1 : (k : Int) < r - 3 := by omega
       simp [hw3, e1, hk2]; omega
      ·have e1 : ¬ (k : Int) < r - 3 := by omega
       simp [hw3, e1, hk2]
     ·rw [if_neg hn] at hcnt
      have e2 : ¬ k < cnt := by omega
      by_cases e1 : (k : Int) < r - 3
      ·simp [hw3, e1, e2]; omega
      ·simp [hw3, e1, e2]) ?_ ?_
   ·rintro _ k h5 hltk t5 K3 hK3
    have hn2 : 1 < n := by
     rw [hcnt] at hltk
     split at hltk
     ·assumption
     ·omega
    have kx3 := (up_tgI (s := s) (b := b) kx1 k).mono (d := 4000) (by omega)
    have e5 : up (fun _ => tgI s n b) (k + 1) x2 = tgI s n b (up (fun _ => tgI s n b) k x2) := rfl
    rw [e5] at hK3
    generalize up (fun _ => tgI s n b) k x2 = x at t5 kx3 hK3
    have hxl := kx3.len
    have hid : tgI s n b x = _ := tgI.eq_1 s n b x
    have hwn : IntKind.i64.wrap ((n : Int) - 1) = (n : Int) - 1 := wrap64_id (by omega) (by omega)
    simp only [lwp_block]
    refine lwp_hide fun y hy => ?_
    simp [hwn]
    refine call_to (by kernel_rfl) (t5.take kx3.ok (by omega) (k := (n : Int) - 1) (by omega) (by omega)) ?_
    rintro _ h6 ⟨rfl, t6⟩
    obtain ⟨q0, q1⟩ := takeV_rng (s := s) (at_ := x.2.at_) (n := (n : Int) - 1) (by omega)
    generalize takeV s x.2.at_ ((n : Int) - 1) = q at hid q0 q1
    have hwq : IntKind.i64.wrap (1 + q) = 1 + q := wrap64_id (by omega) (by omega)
    simp [hwq]
    rw [hy]; clear hy y
    refine lwp_hide fun y hy => ?_
    refine lwp_cut (fun ρ h' => ∃ (t : Nat) (m' : MS) (v0 v : Value), tgI s n b x = tgPut x b t m' ∧ t ≤ 1000 ∧ Tg ri s M vs W vo h' (x.1, m') ∧ ρ = [(0, .pointer (some ⟨M, 0, none⟩)), (1, .int .i64 n), (5, vo), (8, .int .i64 b), (9, .int .i64 r), (10, .int .i64 k), (11, .int .i64 t), (57, .int .i64 q), (62, v0), (64, v)]) ?_ ?_
    ·intro K4 hK4
     refine lwp_hide fun w hw => ?_
     by_cases c1 : 1 + q ≤ b
     ·rw [if_pos c1] at hid
      simp [c1]
      refine call_to (by kernel_rfl) (t6.take kx3.ok.took (by omega) (k := 2) (by decide) (by decide)) ?_
      rintro _ h7 ⟨rfl, t7⟩
      have hx : (x.1, x.2.took).2.at_ = x.2.at_ + 1 := rfl
      rw [hx]
      simp
      rw [hw]; clear hw w
      by_cases c2 : takeV s (x.2.at_ + 1) 2 = 0
      ·rw [if_pos c2] at hid
       refine lwp_cond_t (by simp [c2]) ?_
       simp
       refine hK4 _ _ ⟨min (b + 1) (n - 1), _, .bool true, .int .i64 (takeV s (x.2.at_ + 1) 2), hid, by omega, t7, ?_⟩
       rw [hwn, show IntKind.i64.wrap ((b : Int) + 1) = (b : Int) + 1 from wrap64_id (by omega) (by omega)]
       rw [show (if (n : Int) - 1 < (b : Int) + 1 then (n : Int) - 1 else (b : Int) + 1) = ((min (b + 1) (n - 1) : Nat) : Int) by split <;> omega]
      ·rw [if_neg c2] at hid
       refine lwp_cond_f (by simp [c2]) ?_
       simp
       refine hK4 _ _ ⟨(1 + q).toNat, _, .bool true, .int .i64 (takeV s (x.2.at_ + 1) 2), hid, by omega, t7, ?_⟩
       rw [show (((1 + q).toNat : Nat) : Int) = 1 + q by omega]
     ·rw [if_neg c1] at hid
      simp [c1]
      rw [hw]; clear hw w
      refine lwp_cond_f (by simp) ?_
      simp
      refine hK4 _ _ ⟨(1 + q).toNat, _, .bool false, undef, hid, by omega, t6, ?_⟩
      rw [show (((1 + q).toNat : Nat) : Int) = 1 + q by omega]
    ·rintro _ h7 ⟨t, m', v0, v, e, ht, t7, rfl⟩
     rw [hy]; clear hy y
     obtain ⟨vr, hvr, put⟩ := t7.put (p := b) (b := t) (by show b < x.1.length; omega) (by have := kx3.row b; show (nth x.1 b).length ≤ _; omega) (by omega)
     have hix := t7.idx (k := .i64) (i := b) (by omega) (by show (b : Int) < x.1.length; omega)
     simp only [Int.toNat_natCast] at hix
     simp [hix, hvr]
     refine put rfl (fun _ => rfl) (fun _ => rfl) (fun _ _ => rfl) (fun _ _ => rfl) fun u v' h8 t8 => ?_
     exact hK3 () _ _ rfl rfl (by rw [e]; exact t8)
   ·rintro _ h5 t5
    simp
    refine hK2 () _ _ rfl rfl (by rw [hbd]; exact t5)
  ·rintro _ h3 t3
   rw [← htd] at t3
   simp
   rw [hz]; clear hz z
   simp
   refine hK _ _ ?_
   obtain ⟨W', o, rv, g, w, q⟩ := t3
   obtain ⟨W2, g2, w2, fr⟩ := w.own.freezeAll (fun k => decide (3 ≤ k.1) && decide (k.1 < 8))
   obtain ⟨vb, vl, lb, bb⟩ := w.box
   refine ⟨W2, _, View.le_trans g g2, ⟨w2, w.src.mono g2, vb, vl, lb, bb.frame fun k hk => ?_⟩, ?_, fun k hk h8 => by simp [hk, h8], ?_⟩
   ·have : ¬ 3 ≤ k.1 := by omega
    simp [this]
   ·intro k hk
    have h1 : 3 ≤ k.1 := by omega
    have h2 : ¬ k.1 < 8 := by omega
    simp [h2]
    exact q.res k hk
   ·refine sl_conv (fr (k := (3, 0)) (by decide) q.top) rfl q.len fun i h1 h2 cs hr => ?_
    obtain ⟨e, _⟩ : cs = [(rv[i]).v] ∧ _ := hr
    refine ⟨_, e, ?_⟩
    have := fr (k := (4, i)) (by simp) (q.row i h2)
    rwa [nth_eq h1, nth_eq h2] at this
end Go.Proofs.Ytfelpjfopgiabaa
namespace Go.Proofs.Ytfelpjfopgiabaa
open Go Go.Lft
structure Grw (b k : Nat) (m m' : MS) : Prop where
 at0 : m.at_ ≤ m'.at_
 at1 : m'.at_ ≤ m.at_ + k
 n0 : m.next ≤ m'.next
 n1 : m'.next ≤ m.next + k
 ps : m'.ps = m.ps
 live : m'.live.length ≤ m.live.length + k
 len : m'.blocks.length = m.blocks.length
 els : ∀ i, i ≠ b → nth m'.blocks i = nth m.blocks i
 ins : (nth m'.blocks b).ins.length ≤ (nth m.blocks b).ins.length + k
 phis : (nth m'.blocks b).phis = (nth m.blocks b).phis
 term : (nth m'.blocks b).term = (nth m.blocks b).term
variable {s : List Int} {m m' m2 : MS} {b c k l : Nat}
theorem Grw.refl : Grw b 0 m m := ⟨Nat.le_refl _, Nat.le_refl _, Int.le_refl _, by omega, rfl, Nat.le_refl _, rfl, fun _ _ => rfl, Nat.le_refl _, rfl, rfl⟩
theorem Grw.trans (g : Grw b k m m') (h : Grw b l m' m2) : Grw b (k + l) m m2 :=
 ⟨Nat.le_trans g.at0 h.at0, by have := g.at1; have := h.at1; omega, Int.le_trans g.n0 h.n0, by have := g.n1; have := h.n1; omega, h.ps.trans g.ps, by have := g.live; have := h.live; omega, h.len.trans g.len, fun i hi => (h.els i hi).trans (g.els i hi), by have := g.ins; have := h.ins; omega, h.phis.trans g.phis, h.term.trans g.term⟩
theorem Grw.mono (g : Grw b k m m') (h : k ≤ l) : Grw b l m m' :=
 ⟨g.at0, by have := g.at1; omega, g.n0, by have := g.n1; omega, g.ps, by have := g.live; omega, g.len, g.els, by have := g.ins; omega, g.phis, g.term⟩
theorem Grw.took (g : Grw b k m m') : Grw b (k + 1) m m'.took := g.trans ⟨by show _ ≤ m'.at_ + 1; omega, Nat.le_refl _, Int.le_refl _, by show m'.next ≤ _; omega, rfl, by show m'.live.length ≤ _; omega, rfl, fun _ _ => rfl, by show (nth m'.blocks b).ins.length ≤ _; omega, rfl, rfl⟩
theorem Grw.freshed (g : Grw b k m m') : Grw b (k + 1) m m'.freshed := g.trans ⟨Nat.le_refl _, by show m'.at_ ≤ _; omega, by show _ ≤ m'.next + 1; omega, Int.le_refl _, rfl, by show m'.live.length ≤ _; omega, rfl, fun _ _ => rfl, by show (nth m'.blocks b).ins.length ≤ _; omega, rfl, rfl⟩
theorem Grw.add {i : InsD} (hb : b < m.blocks.length) (g : Grw b k m m') : Grw b (k + 2) m (m'.add b i) := by
 have hb' : b < m'.blocks.length := by rw [g.len]; exact hb
 have e : nth (m'.add b i).blocks b = { nth m'.blocks b with ins := (nth m'.blocks b).ins ++ [i] } := by
  show nth (m'.blocks.set b _) b = _
  rw [nth_set hb', if_pos rfl]
 refine g.trans ⟨Nat.le_refl _, by show m'.at_ ≤ _; omega, Int.le_refl _, by show m'.next ≤ _; omega, rfl, ?_, add_len, fun j hj => ?_, ?_, by rw [e], by rw [e]⟩
 ·show (m'.live ++ makesS i).length ≤ _
  have h2 : (makesS i).length ≤ 2 := by
   unfold makesS
   repeat' split
   all_goals simp
  rw [List.length_append]; omega
 ·show nth (m'.blocks.set b _) j = _
  rcases Nat.lt_or_ge j m'.blocks.length with hl | hl
  ·rw [nth_set hl, if_neg (fun e => hj e.symm)]
  ·rw [nth_ge (by simpa using hl), nth_ge hl]
 ·rw [e]
  show ((nth m'.blocks b).ins ++ [i]).length ≤ _
  rw [List.length_append, List.length_singleton]; omega
theorem Grw.constant {n : Int} (hb : b < m.blocks.length) (g : Grw b k m m') : Grw b (k + 3) m (m'.constant b n) := g.freshed.add hb
theorem Grw.two {op x y : Int} (hb : b < m.blocks.length) (g : Grw b k m m') : Grw b (k + 3) m (m'.two b op x y) := g.freshed.add hb
theorem Grw.someV (hb : b < m.blocks.length) (g : Grw b k m m') : Grw b (k + 10) m (someS s m' b).2 := by
 unfold someS
 repeat' split
 ·exact (g.took.took.constant hb).mono (by omega)
 ·exact (g.took.took.took.took.took.constant hb).mono (by omega)
 ·exact (g.took.took.took).mono (by omega)
theorem Grw.addr (hb : b < m.blocks.length) (g : Grw b k m m') : Grw b (k + 30) m (addrS s m' b).2 := by
 unfold addrS
 simp only
 split
 ·exact (((((g.took.constant hb).took.someV hb).constant hb).two hb).two hb).mono (by omega)
 ·exact ((g.took.constant hb).took).mono (by omega)
theorem Grw.off (g : Grw b k m m') : Grw b (k + 4) m (offS s m').2 := by
 unfold offS
 split
 ·exact g.took.took.took.took
 ·exact g.took.took.mono (by omega)
theorem Grw.memory {st : Bool} (hb : b < m.blocks.length) (g : Grw b k m m') : Grw b (k + 60) m (memoryS s m' b st) := by
 unfold memoryS
 simp only
 split
 ·exact ((((g.addr hb).off.someV hb)).add hb).mono (by omega)
 ·exact (((g.addr hb).off.freshed).add hb).mono (by omega)
theorem Grw.bin {op : Int} (hb : b < m.blocks.length) (g : Grw b k m m') : Grw b (k + 60) m (binS s m' b op) := by
 unfold binS
 simp only
 split
 ·exact ((((g.someV hb).someV hb).took.took.constant hb).two hb).mono (by omega)
 ·exact (((g.someV hb).someV hb).took.two hb).mono (by omega)
theorem Grw.div (hb : b < m.blocks.length) (g : Grw b k m m') : Grw b (k + 60) m (divS s m' b) := by
 unfold divS
 simp only
 split
 ·exact ((((g.someV hb).took.constant hb).took.took.constant hb).two hb).mono (by omega)
 ·exact (((g.someV hb).took.constant hb).took.two hb).mono (by omega)
theorem Grw.args (hb : b < m.blocks.length) {x : List Int × MS} (g : Grw b k m x.2) : ∀ n, Grw b (k + 10 * n) m (up (argsS s b) n x).2
 | 0 => g
 | n + 1 => ((Grw.args hb g n).someV hb).mono (by omega)
theorem Grw.call (hb : b < m.blocks.length) (g : Grw b k m m') : Grw b (k + 70) m (callS s m' b) := by
 unfold callS
 simp only
 have ht := takeV_rng (s := s) (at_ := m'.at_) (n := 5) (by decide)
 have g2 := Grw.args (s := s) hb (x := ([], m'.took)) g.took (takeV s m'.at_ 5).toNat
 exact (g2.freshed.took.add hb).mono (by omega)
theorem Grw.instruction (hb : b < m.blocks.length) (g : Grw b k m m') : Grw b (k + 80) m (instructionS s b m') := by
 unfold instructionS
 simp only
 repeat' split
 ·exact (g.took.bin hb).mono (by omega)
 ·unfold ltuS
  exact (((g.took.someV hb).someV hb).two hb).mono (by omega)
 ·exact (g.took.div hb).mono (by omega)
 ·exact (g.took.memory hb).mono (by omega)
 ·exact (g.took.call hb).mono (by omega)
 ·unfold mulwS
  exact (((g.took.someV hb).someV hb).freshed.freshed.add hb).mono (by omega)
 ·exact (g.took.took.took.constant hb).mono (by omega)
theorem Grw.instructions (hb : b < m.blocks.length) (g : Grw b k m m') : ∀ n, Grw b (k + 80 * n) m (up (fun _ => instructionS s b) n m')
 | 0 => g
 | n + 1 => ((Grw.instructions hb g n).instruction hb).mono (by omega)
theorem Grw.term' {to : List Int} (hb : b < m.blocks.length) (g : Grw b k m m') : Grw b (k + 40) m (mkTermS s to b m').2 := by
 unfold mkTermS
 simp only
 repeat' split
 ·exact g.took.took.mono (by omega)
 ·exact (g.took.someV hb).mono (by omega)
 ·exact g.took.mono (by omega)
 ·exact g.mono (by omega)
 ·exact ((((g.someV hb).took.someV hb)).freshed.took.add hb).mono (by omega)
 ·exact (g.someV hb).took.mono (by omega)
 ·exact (((g.someV hb).constant hb).two hb).mono (by omega)
def MS.f (m : MS) : FuncD := ⟨m.ps, m.blocks⟩
def MS.setTo (m : MS) (b : Nat) (l : List Int) : MS := { m with blocks := m.blocks.set b { nth m.blocks b with term := { (nth m.blocks b).term with to := l } } }
def phiCnt (s : List Int) (m : MS) (b : Nat) : Int :=
 if 1 < (refPredsS m.f b).length then takeV s m.at_ 4 else if takeV s m.at_ 6 = 0 then 1 else 0
def addPhi (b : Nat) (m : MS) : MS := { m.freshed with blocks := m.blocks.set b { nth m.blocks b with phis := (nth m.blocks b).phis ++ [⟨m.next, []⟩] } }
def phiStep (s : List Int) (k : Nat) (x : List Int × MS) : List Int × MS :=
 (x.1.set (k + 1) (phiCnt s x.2 (k + 1)), up (fun _ => addPhi (k + 1)) (phiCnt s x.2 (k + 1)).toNat x.2.took)
def awayL (f : FuncD) (n : Nat) : List BL := rows (fun a => reachedS f (a : Int)) n
def readyS (dn : BL) (away : List BL) (b n : Nat) : Bool := up (fun a r => r && (decide (a = b) || nth dn a || nth (nth away a) b)) n (!nth dn b)
def liveA (m : MS) (dn : BL) (away : List BL) (b : Nat) (a : Nat) (l : List Int) : List Int :=
 if decide (a ≠ b) && (!nth dn a || nth (nth away a) b) then l
 else l ++ (nth m.blocks a).phis.map PhiD.dst ++ (nth m.blocks a).ins.flatMap makesS
def liveS (m : MS) (dn : BL) (away : List BL) (b n : Nat) : List Int := up (liveA m dn away b) n (rows (fun i => (i : Int)) m.ps.toNat)
def doBlock (s : List Int) (to : List (List Int)) (n : Nat) (dn : BL) (away : List BL) (b : Nat) (m : MS) : MS :=
 let m1 : MS := { m with live := liveS m dn away b n }
 mkEndS s (nth to b) b (up (fun _ => instructionS s b) (takeV s m1.at_ 7).toNat m1.took)
def blkStep (s : List Int) (to : List (List Int)) (n : Nat) (b : Nat) (x : BL × MS) : BL × MS :=
 if readyS x.1 (awayL x.2.f n) b n then (x.1.set b true, doBlock s to n (x.1.set b true) (awayL x.2.f n) b x.2) else x
def inStep (s : List Int) (p : List Int) (k : Nat) (x : List InD × MS) : List InD × MS :=
 let b := (nth p k).toNat
 let l := standingS x.2.f b
 let r : List Int × MS := if l.length = 0 then ([x.2.next], x.2.took.took.constant b (wordV s x.2)) else (l, x.2)
 (x.1 ++ [⟨nth p k, nth r.1 (takeV s r.2.at_ r.1.length).toNat⟩], r.2.took)
def MS.setIn (m : MS) (b i : Nat) (l : List InD) : MS := { m with blocks := m.blocks.set b { nth m.blocks b with phis := (nth m.blocks b).phis.set i { nth (nth m.blocks b).phis i with ins := l } } }
def phi3 (s : List Int) (b : Nat) (p : List Int) (i : Nat) (m : MS) : MS := (up (inStep s p) p.length ([], m)).2.setIn b i (up (inStep s p) p.length ([], m)).1
def blk3 (s : List Int) (phis : List Int) (k : Nat) (m : MS) : MS := up (phi3 s (k + 1) (refPredsS m.f ((k + 1 : Nat) : Int))) (nth phis (k + 1)).toNat m
def made0 (s : List Int) : MS := ⟨2, takeV s 0 5, [], takeV s 0 5, []⟩
def madeN (s : List Int) : Nat := (1 + takeV s 1 9).toNat
def made1 (s : List Int) : TgS := targetsS s (madeN s) (made0 s)
def zeroB : BlkD := ⟨[], [], ⟨0, [], [], ⟨0⟩⟩⟩
def made2 (s : List Int) : MS := up (fun b m => m.setTo b (nth (made1 s).1 b)) (madeN s) { (made1 s).2 with blocks := List.replicate (madeN s) zeroB }
def made3 (s : List Int) : List Int × MS := up (phiStep s) (madeN s - 1) (List.replicate (madeN s) 0, made2 s)
def made4 (s : List Int) : BL × MS := up (fun _ => up (blkStep s (made1 s).1 (madeN s)) (madeN s)) (madeN s) (List.replicate (madeN s) false, (made3 s).2)
def made5 (s : List Int) : MS := up (blk3 s (made3 s).1) (madeN s - 1) (made4 s).2
def makeS (s : List Int) : FuncD := (made5 s).f
end Go.Proofs.Ytfelpjfopgiabaa
namespace Go.Proofs.Ytfelpjfopgiabaa
open Go Go.Lft
section
variable {s : List Int} {M : Nat} {vs : Value} {W0 : View} {h : Heap} {o0 : Own} {m : MS} {u : Value} {ds : List Int}
structure Reads (M : Nat) (m : MS) (h : Heap) (vb vl : Value) : Prop where
 ps : cellH (vw h) ⟨M, 2, none⟩ = some (.int .i64 m.ps)
 nx : cellH (vw h) ⟨M, 4, none⟩ = some (.int .i64 m.next)
 cb : cellH (vw h) ⟨M, 3, none⟩ = some vb
 cl : cellH (vw h) ⟨M, 5, none⟩ = some vl
 f : Un.ev (vw h) (.loads 2) (.pointer (some ⟨M, 2, none⟩)) = some (.agg #[.int .i64 m.ps, vb])
 blk : SlRd (vw h) vb m.blocks
 live : SlRd (vw h) vl m.live
theorem Reads.rd {vb vl : Value} (r : Reads M m h vb vl) (hp : I64 m.ps) : Rd (vw h) (.agg #[.int .i64 m.ps, vb]) m.f := ⟨_, rfl, [.int .i64 m.ps], [vb], rfl, ⟨rfl, hp⟩, vb, rfl, r.blk⟩
theorem Mk.reads {W : View} {o : Own} (w : Mk s M vs W h o m) {vb vl : Value} {lb : List BlkM} (bb : MkB M vs m o vb vl lb) : Reads M m h vb vl := by
 have c2 : cellH (vw h) ⟨M, 2, none⟩ = some (.int .i64 m.ps) := bb.cell w.own (i := 2) (by decide)
 have c3 : cellH (vw h) ⟨M, 3, none⟩ = some vb := bb.cell w.own (i := 3) (by decide)
 refine ⟨c2, bb.cell w.own (i := 4) (by decide), c3, bb.cell w.own (i := 5) (by decide), ?_, ?_, w.own.now bb.live⟩
 ·have hat := w.own.rawAll bb.box
  obtain ⟨cs, ⟨cur, e, fz, g1, g2, g3⟩, he, _⟩ := w.own.atW bb.box
  have : cellsAt (vw h) ⟨M, 2, none⟩ [.int .i64 m.ps, vb] := ⟨cur, e, fz, rfl, g2, by
   have g3 : (cur.toList.drop 0).take cs.length = cs := g3
   have he : cs = mkL vs m.at_ m.ps vb m.next vl := he
   rw [List.drop_zero] at g3
   have hd : cs.drop 2 = (cur.toList.drop 2).take (cs.length - 2) := by
    have := congrArg (List.drop 2) g3
    rw [List.drop_take] at this
    exact this.symm
   have hl : cs.length = 6 := by rw [he]; rfl
   have h2 : (cs.drop 2).take 2 = (cur.toList.drop 2).take 2 := by
    rw [hd, hl, List.take_take]; rfl
   show (cur.toList.drop 2).take 2 = _
   rw [← h2, he]; rfl⟩
  have := cellsFrom_at this 2 0 #[] rfl
  simp only [Un.ev, vP, Option.bind_some]
  rw [this]
  simp
 ·refine sl_conv (w.own.now bb.blk) rfl bb.len fun i h1 h2 cs hr => ?_
  have := blkM_blk hr (p := (nth m.blocks i).phis) (i := (nth m.blocks i).ins) (by have := w.own.now (bb.phis i h2); rwa [nth_eq h1] at this) (by have := w.own.now (bb.ins i h2); rwa [nth_eq h1] at this)
  have ht := bb.term i h2
  rw [nth_eq h1] at ht
  rw [ht] at this
  rw [← nth_eq h2]
  exact this
theorem Nz.reads (n : Nz s M vs W0 h o0 m u ds) : ∃ vb vl, Reads M m h vb vl := by
 obtain ⟨W, o, g, w, f, sl⟩ := n
 obtain ⟨vb, vl, lb, bb⟩ := w.box
 exact ⟨vb, vl, w.reads bb⟩
theorem Nz.at {α : Type} [Rep α] (n : Nz s M vs W0 h o0 m u ds) {k : Key} (h3 : 3 ≤ k.1) {e : TypeId} {v : Value} {l : List α} (hk : o0 k = it e v l) : SlRd (vw h) v l := by
 obtain ⟨W, o, g, w, f, sl⟩ := n
 exact w.own.now ((f k h3).trans hk)
end
end Go.Proofs.Ytfelpjfopgiabaa
namespace Go.Proofs.Ytfelpjfopgiabaa
open Go Go.Lft
theorem BlkM.p_to : Part BlkM (List Int) 4 (fun d => d.term.to) (fun d x => { d with term := { d.term with to := x } }) := (Part.snd (Part.snd ((Part.snd (Part.snd (Part.fst Part.all))).via (α := Cat Int (Cat (List Int) (Cat (List Int) I32))) (f := fun d : TermD => Cat.mk d.kind (Cat.mk d.args (Cat.mk d.to d.imm))) (g' := TermD.to) (s' := fun d x => { d with to := x }) (fun _ => rfl) fun _ _ => rfl))).via (fun _ => rfl) fun _ _ => rfl
section
variable {s : List Int} {M : Nat} {vs : Value} {W0 : View} {h : Heap} {o0 : Own} {m : MS} {u : Value} {ds : List Int}
theorem Nz.do_elem {po : OP} {α : Type} [r : Rep α] (n : Nz s M vs W0 h o0 m u ds) {k : Key} {e : TypeId} {i : Nat} {v : Value} {l : List α} {ty t : TypeId} {us : List (Nat × Value)} {x y : Operand} {d : α} {w : Value} {K : Value → Heap → Prop} (h3 : 3 ≤ k.1) (hk : o0 k = it e v l) (hi : i < l.length) (hsz : sizeB Try.prog t = some (Rep.n α)) (hx : asg us x = .pointer (some ((slA v).add (i * Rep.n α)))) (hy : asg us y = w) (hr : ∀ W, Rd W w d)
  (hK : ∀ h', Nz s M vs W0 h' (o0.upd k (it e v (l.set i d))) m u ds → K undef h') : @Lft.step po Try.prog (.store t x y) ty us h K := by
 obtain ⟨W, o, g1, wk, f, sl⟩ := n
 refine wk.own.do_put (k := k) (v := v) (l := l) (i := i) (d := d) ((f k h3).trans hk) hsz hx hy hi (hr W) fun h' w' _ => hK h' ?_
 obtain ⟨vb, vl, lb, bb⟩ := wk.box
 refine ⟨W, _, g1, ⟨w', wk.src, vb, vl, lb, bb.frame fun q hq => Own.upd_ne (by rintro rfl; omega)⟩, fun q hq => ?_, sl⟩
 unfold Own.upd
 split
 ·rfl
 ·exact f q hq
theorem Mk.do_to {po : OP} {W : View} {o : Own} (w : Mk s M vs W h o m) {vb vl : Value} {lb : List BlkM} (bb : MkB M vs m o vb vl lb) {b : Nat} {l : List Int} {v : Value} {ty ty2 : TypeId} {us : List (Nat × Value)} {x y : Operand} {K : Value → Heap → Prop} (hb : b < m.blocks.length) (hsz : sizeB Try.prog ty2 = some 1) (hx : asg us x = .pointer (some (((slA vb).add (b * 6)).add 4))) (hy : asg us y = v) (hr : SlRd W v l)
  (hK : ∀ h' o', Mk s M vs W h' o' (m.setTo b l) → (∀ k : Key, 3 ≤ k.1 → o' k = o k) → K undef h') : @Lft.step po Try.prog (.store ty2 x y) ty us h K := by
 have hbl : b < lb.length := by rw [bb.len]; exact hb
 refine w.own.do_part (k := (0, 2)) (α := BlkM) BlkM.p_to (v := vb) (l := lb) (i := b) (d := l) bb.blk hsz hx hy hbl (rd_list.2 hr) fun h7 w7 _ => ?_
 have ht := bb.term b hb
 rw [nth_eq hbl] at ht
 refine hK h7 _ ⟨w7, w.src, vb, vl, _, bb.setBlk hb (x' := { nth m.blocks b with term := { (nth m.blocks b).term with to := l } }) (y' := { lb[b] with term := { lb[b].term with to := l } }) (by rw [← ht]) Own.upd_self ?_ ?_ fun q h1 _ _ => Own.upd_ne h1⟩ (upd_frame (by decide))
 ·rw [Own.upd_ne (by simp), bb.phis b hb, nth_eq hbl]
 ·rw [Own.upd_ne (by simp), bb.ins b hb, nth_eq hbl]
end
theorem up_setTo_len {to : List (List Int)} {m : MS} : ∀ k, (up (fun b m => MS.setTo m b (nth to b)) k m).blocks.length = m.blocks.length
 | 0 => rfl
 | k + 1 => by show (List.set _ _ _).length = _; rw [List.length_set]; exact up_setTo_len k
theorem made_l1 {s : List Int} {M : Nat} {vs : Value} {W0 : View} {h : Heap} {o0 : Own} {m : MS} {to : List (List Int)} {vt vr : Value} {n : Nat} (hto : SlRd W0 vt to) (hn : to.length = n) (x : Nx s M vs W0 h o0 m) (hlen : m.blocks.length = n) (hn2 : n ≤ 100) {Q : Post} {ρ : Env}
  (h0 : keepE [2, 3, 4, 5, 6] ρ = [(2, vr), (3, .pointer (some ⟨M, 0, none⟩)), (4, .int .i64 n), (5, vt), (6, .int .i64 0)])
  (hQ : ∀ h', Nx s M vs W0 h' o0 (up (fun b m => m.setTo b (nth to b)) n m) → Q .normal [(2, vr), (3, .pointer (some ⟨M, 0, none⟩)), (4, .int .i64 n), (5, vt), (6, .int .i64 n)] h') :
  LC.wp Try.prog (.block 0 (.loop L.ref03_Made.l1)) Q ρ h := by
 simp only [lwp_block]
 refine lwp_for [2, 3, 4, 5, 6] (fun (_ : Unit) k => [vr, .pointer (some ⟨M, 0, none⟩), .int .i64 n, vt, .int .i64 k]) (fun _ k h2 => Nx s M vs W0 h2 o0 (up (fun b m => m.setTo b (nth to b)) k m)) n ()
  rfl (by omega) h0 x (fun _ _ => rfl) (fun v k h2 hk m => by simp) ?_ ?_
 ·rintro _ b h2 hlt x2 K2 hK2
  have hlb : (up (fun b m => MS.setTo m b (nth to b)) b m).blocks.length = n := (up_setTo_len b).trans hlen
  have e2 : up (fun b m => MS.setTo m b (nth to b)) (b + 1) m = (up (fun b m => MS.setTo m b (nth to b)) b m).setTo b (nth to b) := rfl
  rw [e2] at hK2
  generalize up (fun b m => MS.setTo m b (nth to b)) b m = m2 at x2 hK2 hlb
  obtain ⟨rv, hrv⟩ := hto.rows
  obtain ⟨hr1, hr2⟩ := hrv b (by omega)
  obtain ⟨W, o, g, w, f⟩ := x2
  obtain ⟨vb, vl, lb, bb⟩ := w.box
  have rd := w.reads bb
  have ito := (hto.mono g).mono w.own.wle
  simp only [lwp_block]
  refine drawn_at (vw h2) (View.le_refl _) ?_
  simp (disch := omega) [rd.cb, rd.blk.idxn (N := 6) rfl, ito.idx1 rfl, hr1 _ (View.le_trans g w.own.wle)]
  refine w.do_to bb (b := b) (l := nth to b) (by omega) (by kernel_rfl) rfl rfl (hr2.mono g) fun h3 o3 w3 f3 => ?_
  exact hK2 () _ _ rfl rfl ⟨W, o3, g, w3, fun k hk => (f3 k hk).trans (f k hk)⟩
 ·rintro _ h2 x2
  exact hQ h2 x2
theorem sub_le {H K L : View} (h : H.sub K) (k : K.le L) : H.sub L := fun b o hb => by
 obtain ⟨o', h1, h2⟩ := h b o hb
 exact ⟨o', k _ _ h1, h2⟩
theorem Owns.boxRaw {W : View} {h : Heap} {o : Own} {k : Key} {n B : Nat} {e : TypeId} {l : List Value} (w : Owns W h o) (hk : o k = bx e B (RawN.mk (n := n) l)) : ∃ cur, h[B]? = some (.cells cur e (0, 0)) ∧ ∃ r, cur.toList = l ++ r := by
 obtain ⟨hb, xs, ⟨hl, hown⟩, hel⟩ := w.get (k := k) (v := .slice (some ⟨B, 0, none⟩) 1 1) (l := [RawN.mk (n := n) l]) hk
 have h0 := hel 0 (by simp)
 simp only [Nat.zero_mul, List.drop_zero, List.getElem_cons_zero, List.length_singleton, Nat.one_mul] at h0 hl
 rw [List.take_of_length_le (by omega)] at h0
 obtain ⟨h0, _, _⟩ : xs = l ∧ _ := h0
 subst h0
 rcases hown with ⟨h1, _⟩ | ⟨g, cap, cur, h1, h2, h3, h4, h5, h6⟩
 ·cases h1
 ·simp only [Value.slice.injEq, Option.some.injEq, Addr.mk.injEq] at h1
  obtain ⟨⟨rfl, _⟩, _⟩ := h1
  refine ⟨cur, h2, cur.toList.drop (1 * Rep.n (RawN n)), ?_⟩
  have h6 : cur.toList.take (1 * Rep.n (RawN n)) = xs := by simpa using h6
  rw [← h6, List.take_append_drop]
section
variable {s : List Int} {M : Nat} {vs : Value} {W : View} {h : Heap} {o : Own} {m : MS} {vb vl : Value} {lb : List BlkM}
theorem MkB.stand (w : Owns W h o) (bb : MkB M vs m o vb vl lb) : ∃ H : View, H.sub (vw h) ∧ cellH H ⟨M, 3, none⟩ = some vb ∧ SlRd H vb lb ∧
  ∀ h2 o2, Owns W h2 o2 → MkB M vs m.freshed o2 vb vl lb → (∀ X : View, X.le (vw h) → X M = none → X.le (vw h2)) → ∃ X : View, H.sub X ∧ W.le X ∧ X.le (vw h2) ∧ SlRd X vb lb ∧ ∀ i, i < m.blocks.length → Av X (nth lb i).phis.v := by
 obtain ⟨cur, hM, r, hr⟩ := Owns.boxRaw w bb.box
 have aM := w.av (0, 0) _ bb.box
 have aM : W M = none := aM M rfl
 have avb := w.av (0, 2) _ bb.blk
 have hne : ∀ b, vb.ownBlock = some b → b ≠ M := fun b hb e => by
  have := w.dj (0, 2) (0, 0) _ _ b bb.blk bb.box hb (by rw [e]; rfl)
  simp at this
 obtain ⟨w6, s6⟩ := w.freeze bb.blk
 have hYM : (W.plus vb h) M = none := by
  unfold View.plus
  rw [if_neg (fun e => hne M e rfl)]; exact aM
 have hYle : (W.plus vb h).le (vw h) := w6.wle
 let P : Obj := .cells #[vs, .int .i64 m.at_, .int .i64 m.ps, vb] T.ref03_maker (0, 0)
 have hpre : ∀ {c : Array Value} {r : List Value} {nx : Int}, c.toList = mkL vs m.at_ m.ps vb nx vl ++ r → (Obj.cells c T.ref03_maker (0, 0) = P ∨ ∃ c1 c2 t fz, P = .cells c1 t fz ∧ Obj.cells c T.ref03_maker (0, 0) = .cells c2 t fz ∧ ∃ r : List Value, c2.toList = c1.toList ++ r) := fun {c r nx} hc => .inr ⟨_, c, _, _, rfl, rfl, [.int .i64 nx, vl] ++ r, by rw [hc]; rfl⟩
 refine ⟨fun b => if b = M then some P else (W.plus vb h) b, fun b x hb => ?_, ?_, ?_, fun h2 o2 w2 b2 keep => ?_⟩
 ·dsimp only at hb
  split at hb
  ·rename_i e
   cases hb
   subst e
   exact ⟨_, hM, hpre hr⟩
  ·exact ⟨x, hYle b x hb, .inl rfl⟩
 ·simp [cellH, P]
 ·refine s6.mono fun b x hb => ?_
  show (if b = M then some P else (W.plus vb h) b) = _
  rw [if_neg]
  ·exact hb
  ·rintro rfl; rw [hYM] at hb; cases hb
 ·obtain ⟨cur2, hM2, r2, hr2⟩ := Owns.boxRaw w2 b2.box
  have hY2 := keep _ hYle hYM
  refine ⟨fun b => if b = M then h2[M]? else (W.plus vb h) b, fun b x hb => ?_, fun b x hb => ?_, fun b x hb => ?_, s6.mono fun b x hb => ?_, fun i hi b hb => ?_⟩
  ·dsimp only at hb
   split at hb
   ·rename_i e
    cases hb
    subst e
    exact ⟨_, by simp [hM2], hpre hr2⟩
   ·rename_i e
    exact ⟨x, by simpa [e] using hb, .inl rfl⟩
  ·have e : b ≠ M := by rintro rfl; rw [aM] at hb; cases hb
   show (if b = M then h2[M]? else (W.plus vb h) b) = _
   rw [if_neg e]; exact le_plus avb b x hb
  ·dsimp only at hb
   split at hb
   ·rename_i e; subst e; exact hb
   ·exact hY2 b x hb
  ·have e : b ≠ M := by rintro rfl; rw [hYM] at hb; cases hb
   show (if b = M then h2[M]? else (W.plus vb h) b) = _
   rw [if_neg e]; exact hb
  ·have e : b ≠ M := fun e => by
    have := w.dj (1, i) (0, 0) _ _ b (bb.phis i hi) bb.box hb (by rw [e]; rfl)
    simp at this
   show (if b = M then h2[M]? else (W.plus vb h) b) = _
   rw [if_neg e]
   exact w6.av (1, i) _ ((Own.upd_ne (by simp)).trans (bb.phis i hi)) b hb
theorem Mk.fresh2 (w : Mk s M vs W h o m) (bb : MkB M vs m o vb vl lb) (h0 : 0 ≤ m.next) (h1 : m.next ≤ 1000000000) :
  HCalls Try.prog N.ref03_maker_fresh #[.pointer (some ⟨M, 0, none⟩)] h (fun u h' => u = .int .i64 m.next ∧ ∃ o', Mk s M vs W h' o' m.freshed ∧ MkB M vs m.freshed o' vb vl lb ∧ (∀ k : Key, 3 ≤ k.1 → o' k = o k) ∧ ∀ X : View, X.le (vw h) → X M = none → X.le (vw h')) := by
 refine (fresh_ok w.own bb.box h0 h1).mono ?_
 rintro u h' ⟨rfl, w2, keep⟩
 exact ⟨rfl, _, ⟨w2, w.src, vb, vl, lb, bb.at⟩, bb.at, upd_frame (by decide), keep⟩
end
end Go.Proofs.Ytfelpjfopgiabaa
namespace Go.Proofs.Ytfelpjfopgiabaa
open Go Go.Lft
theorem Nz.ext {s : List Int} {M : Nat} {vs : Value} {W0 : View} {h h' : Heap} {o0 : Own} {m : MS} {u : Value} {ds : List Int} (n : Nz s M vs W0 h o0 m u ds) (hle : (vw h).le (vw h')) : Nz s M vs W0 h' o0 m u ds := by
 obtain ⟨W, o, g, w, f, sl⟩ := n
 exact ⟨W, o, g, ⟨w.own.ext' hle, w.src, w.box⟩, f, sl⟩
structure Sz (n a p i : Nat) (m : MS) : Prop where
 at_ : m.at_ ≤ a
 n0 : 0 ≤ m.next
 next : m.next ≤ a
 live : m.live.length ≤ a
 ps0 : 0 ≤ m.ps
 ps1 : m.ps ≤ 4
 len : m.blocks.length = n
 phis : ∀ j, (nth m.blocks j).phis.length ≤ p
 ins : ∀ j, (nth m.blocks j).ins.length ≤ i
theorem Sz.mono {n a p i a' p' i' : Nat} {m : MS} (z : Sz n a p i m) (h1 : a ≤ a') (h2 : p ≤ p') (h3 : i ≤ i') : Sz n a' p' i' m :=
 ⟨Nat.le_trans z.at_ h1, z.n0, by have := z.next; omega, Nat.le_trans z.live h1, z.ps0, z.ps1, z.len, fun j => Nat.le_trans (z.phis j) h2, fun j => Nat.le_trans (z.ins j) h3⟩
theorem Sz.ok {n a p i : Nat} {m : MS} (z : Sz n a p i m) (h : i ≤ a) : m.ok a := ⟨z.at_, z.n0, z.next, z.live, fun j => Nat.le_trans (z.ins j) h⟩
theorem Sz.took {n a p i : Nat} {m : MS} (z : Sz n a p i m) : Sz n (a + 1) p i m.took := ⟨by have := z.at_; show m.at_ + 1 ≤ _; omega, z.n0, by have := z.next; show m.next ≤ _; omega, by have := z.live; show m.live.length ≤ _; omega, z.ps0, z.ps1, z.len, z.phis, z.ins⟩
theorem Sz.setBlk {n a p i : Nat} {m : MS} (z : Sz n a p i m) {b : Nat} {x : BlkD} (h1 : x.phis.length ≤ p) (h2 : x.ins.length ≤ i) : Sz n a p i { m with blocks := m.blocks.set b x } := by
 refine ⟨z.at_, z.n0, z.next, z.live, z.ps0, z.ps1, by show (m.blocks.set b x).length = _; rw [List.length_set]; exact z.len, fun j => ?_, fun j => ?_⟩
 all_goals
  show List.length (α := _) _ ≤ _
  rcases Nat.lt_or_ge j m.blocks.length with hl | hl
  ·simp only [nth_set hl]
   split
   ·assumption
   ·first | exact z.phis j | exact z.ins j
  ·first
    | (have := z.phis j; rw [nth_ge hl] at this; rw [nth_ge (by simpa using hl)]; exact this)
    | (have := z.ins j; rw [nth_ge hl] at this; rw [nth_ge (by simpa using hl)]; exact this)
theorem Sz.addPhi {n a p i b : Nat} {m : MS} (z : Sz n a p i m) : Sz n (a + 1) (p + 1) i (addPhi b m) := by
 have h1 : Sz n (a + 1) (p + 1) i m.freshed := ⟨by have := z.at_; show m.at_ ≤ _; omega, by have := z.n0; show 0 ≤ m.next + 1; omega, by have := z.next; show m.next + 1 ≤ _; omega, by have := z.live; show m.live.length ≤ _; omega, z.ps0, z.ps1, z.len, fun j => by have := z.phis j; show (nth m.blocks j).phis.length ≤ _; omega, z.ins⟩
 exact h1.setBlk (b := b) (x := { nth m.blocks b with phis := (nth m.blocks b).phis ++ [⟨m.next, []⟩] }) (by have := z.phis b; show ((nth m.blocks b).phis ++ [_]).length ≤ _; rw [List.length_append, List.length_singleton]; omega) (z.ins b)
theorem Sz.addPhis {n a p i b : Nat} {m : MS} (z : Sz n a p i m) : ∀ k, Sz n (a + k) (p + k) i (up (fun _ => Go.Proofs.Ytfelpjfopgiabaa.addPhi b) k m)
 | 0 => z
 | k + 1 => (Sz.addPhis z k).addPhi
section
variable {s : List Int} {M : Nat} {vs : Value} {W0 : View} {h : Heap} {o0 : Own} {m : MS}
theorem made_l3 {n a p i b cnt : Nat} {vr vt vp vq : Value} {lp : List Int} (x : Nx s M vs W0 h o0 m) (hk : o0 (5, 0) = it T.int vp lp) (z : Sz n a p i m) (hb : b < n) (hlp : lp.length = n) (hcnt : nth lp b = cnt) (hc : cnt ≤ 10) (hn : n ≤ 100) (ha : a ≤ 100000) (hp : p ≤ 100000) {Q : Post} {ρ : Env}
  (h0 : keepE [2, 3, 4, 5, 7, 8, 9, 10] ρ = [(2, vr), (3, .pointer (some ⟨M, 0, none⟩)), (4, .int .i64 n), (5, vt), (7, vp), (8, .int .i64 b), (9, vq), (10, .int .i64 0)])
  (hQ : ∀ h', Nx s M vs W0 h' o0 (up (fun _ => addPhi b) cnt m) → Q .normal [(2, vr), (3, .pointer (some ⟨M, 0, none⟩)), (4, .int .i64 n), (5, vt), (7, vp), (8, .int .i64 b), (9, vq), (10, .int .i64 cnt)] h') :
  LC.wp Try.prog (.block 4 (.loop L.ref03_Made.l3)) Q ρ h := by
 simp only [lwp_block]
 refine lwp_for [2, 3, 4, 5, 7, 8, 9, 10] (fun (_ : Unit) k => [vr, .pointer (some ⟨M, 0, none⟩), .int .i64 n, vt, vp, .int .i64 b, vq, .int .i64 k]) (fun _ k h2 => Nx s M vs W0 h2 o0 (up (fun _ => addPhi b) k m)) cnt ()
  rfl (by omega) h0 x (fun _ _ => rfl) (fun v k h2 hk2 m => by
   have sp := m.z.at (by decide) hk
   have e := sp.int (View.le_refl _) (i := b) (by omega)
   rw [hcnt] at e
   simp (disch := omega) [sp.idx1 rfl, e]) ?_ ?_
 ·rintro _ k h2 hlt x2 K2 hK2
  have z2 := z.addPhis (b := b) k
  have e2 : up (fun _ => addPhi b) (k + 1) m = addPhi b (up (fun _ => addPhi b) k m) := rfl
  rw [e2] at hK2
  generalize up (fun _ => addPhi b) k m = m2 at x2 hK2 z2
  have hbl : b < m2.blocks.length := by rw [z2.len]; exact hb
  obtain ⟨W, o, g, w, f⟩ := x2
  obtain ⟨vb, vl, lb, bb⟩ := w.box
  have hbb : b < lb.length := by rw [bb.len]; exact hbl
  obtain ⟨H, hH, c3, sH, stand⟩ := bb.stand w.own
  have a1 := (sH.at hbb).part BlkM.p_phis
  have a2 : cellH H (((slA vb).add (b * 6)).add 0) = some (nth lb b).phis.v := by rw [nth_eq hbb]; exact a1.raw
  have sb := sH.bound
  simp only [lwp_block]
  refine drawn_sub H hH ?_
  simp (disch := omega) [c3, sH.idxn (N := 6) rfl, a2]
  refine call_to (by kernel_rfl) (w.fresh2 bb z2.n0 (by have := z2.next; omega)) ?_
  rintro _ h3 ⟨rfl, o3, w3, b3, f3, keep⟩
  obtain ⟨X, hHX, hWX, hX, sX, avX⟩ := stand h3 o3 w3.own b3 keep
  refine ⟨sub_le hHX hX, ?_⟩
  refine do_build (z := .agg #[.int .i64 0, .slice none 0 0]) (places := [(0, 1), (1, 1)]) (vs := [(0, .int .i64 m2.next)]) (cs := #[.int .i64 m2.next, .slice none 0 0]) (by kernel_rfl) (by kernel_rfl) (by simp) (by rfl) ?_
  refine ⟨sub_le hHX hX, ?_⟩
  have i64 : I64 m2.next := by have := z2.n0; have := z2.next; constructor <;> omega
  have hph := z2.phis b
  refine do_one (α := PhiD) (W := W) (d := ⟨m2.next, []⟩) El.s_api_Phi rfl (rd_phiOf i64 nil_sl) fun u5 h5 src hle5 hs5 => ⟨sub_le hHX (View.le_trans hX hle5), ?_⟩
  refine (w3.own.ext' hle5).do_append (k := (1, b)) (α := PhiD) (v := (nth lb b).phis.v) (l := (nth m2.blocks b).phis) (l2 := [⟨m2.next, []⟩]) (b3.phis b hbl) El.s_api_Phi rfl rfl src (by simp; omega) (by simp; omega) fun v6 h6 w6 m6 => ⟨sub_le hHX (m6.view (View.le_trans hX hle5) (avX b hbl)).1, ?_⟩
  have hv6 := (w6.cells (k := (1, b)) Own.upd_self).2
  refine w6.do_part (k := (0, 2)) (α := BlkM) BlkM.p_phis (v := vb) (l := lb) (i := b) (d := ⟨v6⟩) b3.blk (by kernel_rfl) rfl rfl hbb (rd_raw.2 ⟨rfl, hv6⟩) fun h7 w7 _ => ?_
  have b7 := b3.setBlk (b := b) hbl (x' := { nth m2.blocks b with phis := (nth m2.blocks b).phis ++ [⟨m2.next, []⟩] }) (y' := { lb[b] with phis := ⟨v6⟩ }) (o' := (o3.upd (1, b) (it T.api_Phi v6 ((nth m2.blocks b).phis ++ [⟨m2.next, []⟩]))).upd (0, 2) (it T.api_Block vb (lb.set b { lb[b] with phis := ⟨v6⟩ }))) (by rw [← bb.term b hbl, nth_eq hbb]) Own.upd_self ((Own.upd_ne (by simp)).trans Own.upd_self) (by rw [Own.upd_ne (by simp), Own.upd_ne (by simp), b3.ins b hbl, nth_eq hbb]; rfl) (fun q h1 h2 h3 => by rw [Own.upd_ne h1, Own.upd_ne h2])
  refine hK2 () _ _ rfl rfl ⟨W, _, g, ⟨w7, w.src, vb, vl, _, b7⟩, fun k hk => ?_⟩
  rw [Own.upd_ne (by rintro rfl; simp at hk), Own.upd_ne (by rintro rfl; simp at hk)]
  exact (f3 k hk).trans (f k hk)
 ·rintro _ h2 x2
  exact hQ h2 x2
end
end Go.Proofs.Ytfelpjfopgiabaa
namespace Go.Proofs.Ytfelpjfopgiabaa
open Go Go.Lft
theorem Nz.do_elem1 {s : List Int} {M : Nat} {vs : Value} {W0 : View} {h : Heap} {o0 : Own} {m : MS} {u : Value} {ds : List Int} {po : OP} {α : Type} [r : Rep α] (n : Nz s M vs W0 h o0 m u ds) {k : Key} {e : TypeId} {i : Nat} {v : Value} {l : List α} {ty t : TypeId} {us : List (Nat × Value)} {x y : Operand} {d : α} {w : Value} {K : Value → Heap → Prop} (h1 : Rep.n α = 1) (h3 : 3 ≤ k.1) (hk : o0 k = it e v l) (hi : i < l.length) (hsz : sizeB Try.prog t = some 1) (hx : asg us x = .pointer (some ((slA v).add i))) (hy : asg us y = w) (hr : ∀ W, Rd W w d)
  (hK : ∀ h', Nz s M vs W0 h' (o0.upd k (it e v (l.set i d))) m u ds → K undef h') : @Lft.step po Try.prog (.store t x y) ty us h K :=
 n.do_elem h3 hk hi (by rw [hsz, h1]) (by rw [hx, h1, Nat.mul_one]) hy hr hK
theorem phiCnt_rng {s : List Int} {m : MS} {b : Nat} : 0 ≤ phiCnt s m b ∧ phiCnt s m b ≤ 3 := by
 unfold phiCnt
 have := takeV_rng (s := s) (at_ := m.at_) (n := 4) (by decide)
 repeat' split
 all_goals omega
theorem set_same {l : List Int} {i : Nat} {x : Int} (h : nth l i = x) (hi : i < l.length) : l.set i x = l := by
 rw [← h, nth_eq hi]
 exact List.set_getElem_self hi
structure Ph (n a k : Nat) (x : List Int × MS) : Prop where
 z : Sz n (a + 10 * k) (3 * k) 0 x.2
 len : x.1.length = n
 zero : ∀ j, k < j → nth x.1 j = 0
 rng : ∀ j, 0 ≤ nth x.1 j ∧ nth x.1 j ≤ 3
theorem phiStep_ok {s : List Int} {n a k : Nat} {x : List Int × MS} (p : Ph n a k x) : Ph n a (k + 1) (phiStep s k x) := by
 obtain ⟨c0, c1⟩ := phiCnt_rng (s := s) (m := x.2) (b := k + 1)
 have hset : ∀ j, nth (x.1.set (k + 1) (phiCnt s x.2 (k + 1))) j = if k + 1 = j ∧ j < x.1.length then phiCnt s x.2 (k + 1) else nth x.1 j := fun j => by
  rcases Nat.lt_or_ge j x.1.length with hl | hl
  ·rw [nth_set hl]
   by_cases e : k + 1 = j
   ·rw [if_pos e, if_pos ⟨e, hl⟩]
   ·rw [if_neg e, if_neg (fun q => e q.1)]
  ·rw [nth_ge (by simpa using hl), if_neg (by omega), nth_ge hl]
 refine ⟨?_, ?_, fun j hj => ?_, fun j => ?_⟩
 ·have := (p.z.took).addPhis (b := k + 1) (phiCnt s x.2 (k + 1)).toNat
  exact this.mono (by omega) (by omega) (Nat.le_refl _)
 ·show (x.1.set _ _).length = _
  rw [List.length_set]; exact p.len
 ·show nth (x.1.set _ _) j = _
  rw [hset, if_neg (by omega)]
  exact p.zero j (by omega)
 ·show 0 ≤ nth (x.1.set _ _) j ∧ nth (x.1.set _ _) j ≤ 3
  rw [hset]
  split
  ·exact ⟨c0, c1⟩
  ·exact p.rng j
theorem up_phi {s : List Int} {n a : Nat} {x : List Int × MS} (p : Ph n a 0 x) : ∀ k, Ph n a k (up (phiStep s) k x)
 | 0 => p
 | k + 1 => phiStep_ok (up_phi p k)
theorem made_l2 {s : List Int} {M : Nat} {vs : Value} {W0 : View} {h : Heap} {o0 : Own} {n a : Nat} {vr vt vp : Value} {x0 : List Int × MS} (x : Nx s M vs W0 h (o0.upd (5, 0) (it T.int vp x0.1)) x0.2) (p0 : Ph n a 0 x0) (hn1 : 1 ≤ n) (hn : n ≤ 100) (ha : a ≤ 10000) {Q : Post} {ρ : Env}
  (h0 : keepE [2, 3, 4, 5, 7, 8] ρ = [(2, vr), (3, .pointer (some ⟨M, 0, none⟩)), (4, .int .i64 n), (5, vt), (7, vp), (8, .int .i64 1)])
  (hQ : ∀ h', Nx s M vs W0 h' (o0.upd (5, 0) (it T.int vp (up (phiStep s) (n - 1) x0).1)) (up (phiStep s) (n - 1) x0).2 → Q .normal [(2, vr), (3, .pointer (some ⟨M, 0, none⟩)), (4, .int .i64 n), (5, vt), (7, vp), (8, .int .i64 n)] h') :
  LC.wp Try.prog (.block 2 (.loop L.ref03_Made.l2)) Q ρ h := by
 simp only [lwp_block]
 refine lwp_forG [2, 3, 4, 5, 7, 8] (fun (_ : Unit) k => [vr, .pointer (some ⟨M, 0, none⟩), .int .i64 n, vt, vp, .int .i64 ((k + 1 : Nat) : Int)]) (fun _ k h2 => Nx s M vs W0 h2 (o0.upd (5, 0) (it T.int vp (up (phiStep s) k x0).1)) (up (phiStep s) k x0).2) (n - 1) 1 ()
  rfl (by omega) h0 x (fun _ _ => rfl) (fun v k h2 hk2 m => by simp; omega) ?_ ?_
 ·rintro _ k h2 hlt x2 K2 hK2
  have p2 := up_phi (s := s) p0 k
  have e2 : up (phiStep s) (k + 1) x0 = phiStep s k (up (phiStep s) k x0) := rfl
  have p3 := phiStep_ok (s := s) p2
  rw [e2] at hK2
  generalize up (phiStep s) k x0 = y at x2 hK2 p2 p3
  obtain ⟨lp, m⟩ := y
  have z : Sz n (a + 10 * k) (3 * k) 0 m := p2.z
  have x2 : Nx s M vs W0 h2 (o0.upd (5, 0) (it T.int vp lp)) m := x2
  have q : m.ok (a + 10 * k) := z.ok (by omega)
  have hlen : lp.length = n := p2.len
  simp only [lwp_block]
  refine lwp_hide fun y hy => ?_
  obtain ⟨vb, vl, rd⟩ := x2.z.reads
  simp [rd.f]
  refine call_to (by kernel_rfl) (refPreds_ok (b := ((k + 1 : Nat) : Int)) (rd.rd ⟨by have := z.ps0; show _ ≤ m.ps; omega, by have := z.ps1; show m.ps ≤ _; omega⟩) (by show m.blocks.length ≤ _; rw [z.len]; omega)) ?_
  rintro vq h3 ⟨hle3, hq⟩
  have n3 := x2.z.ext hle3
  have hcd : phiCnt s m (k + 1) = _ := phiCnt.eq_1 s m (k + 1)
  obtain ⟨pl, hpl⟩ : ∃ pl : Nat, pl = (refPredsS m.f ((k + 1 : Nat) : Int)).length := ⟨_, rfl⟩
  have hql : ∀ {Q : View}, Un.ev Q .len vq = some (.int .i64 pl) := fun {Q} => by rw [hpl]; exact hq.len
  rw [← hpl] at hcd
  clear hq x2 rd hpl
  rw [hy]; clear hy y
  refine lwp_hide fun y hy => ?_
  have fin : ∀ (h' : Heap) (ρ : Env), Nz s M vs W0 h' (o0.upd (5, 0) (it T.int vp (lp.set (k + 1) (phiCnt s m (k + 1))))) m.took (.slice none 0 0) [] → Lft.look ρ 2 = some vr → Lft.look ρ 3 = some (.pointer (some ⟨M, 0, none⟩)) → Lft.look ρ 4 = some (.int .i64 n) → Lft.look ρ 5 = some vt → Lft.look ρ 7 = some vp → Lft.look ρ 8 = some (.int .i64 ((k + 1 : Nat) : Int)) → Lft.look ρ 9 = some vq →
    LC.wp Try.prog y (inBlk 3 (thenL K2 (inBlk 2 Q))) ρ h' := by
   intro h' ρ n' r2 r3 r4 r5 r7 r8 r9
   rw [hy]; clear hy y
   refine lwp_hide fun y hy => ?_
   simp
   rw [hy]; clear hy y
   obtain ⟨c0, c1⟩ := phiCnt_rng (s := s) (m := m) (b := k + 1)
   refine made_l3 (vr := vr) (vt := vt) (b := k + 1) (cnt := (phiCnt s m (k + 1)).toNat) (vq := vq) n'.x Own.upd_self z.took (by omega) (by rw [List.length_set]; exact hlen) (by rw [nth_set (by omega), if_pos rfl]; omega) (by omega) hn (by omega) (by omega) ?_ fun h4 x4 => ?_
   ·simp [keepE, look_setE, look_kill, r2, r3, r4, r5, r7, r8, r9]
   ·simp
    exact hK2 () _ _ rfl rfl x4
  refine lwp_hide fun w hw => ?_
  simp [hql]
  rw [hw]; clear hw w
  by_cases c1 : 1 < pl
  ·rw [if_pos c1] at hcd
   refine lwp_cond_t (by simp; omega) ?_
   simp
   refine call_to (by kernel_rfl) (nz_take n3 q (by omega) (k := 4) (by decide) (by decide)) ?_
   rintro _ h4 ⟨rfl, n4⟩
   have sp := n4.at (k := (5, 0)) (by decide) Own.upd_self
   simp (disch := omega) [sp.idx1 rfl]
   refine n4.do_elem1 (k := (5, 0)) (α := Int) (i := k + 1) (d := takeV s m.at_ 4) rfl (by decide) Own.upd_self (by omega) (by kernel_rfl) rfl rfl (fun W => rd_int.2 ⟨rfl, by have := takeV_rng (s := s) (at_ := m.at_) (n := 4) (by decide); constructor <;> omega⟩) fun h5 n5 => ?_
   refine fin h5 _ (n5.re fun q => by rw [upd_upd, hcd]) ?_ ?_ ?_ ?_ ?_ ?_ ?_
   all_goals simp
  ·rw [if_neg c1] at hcd
   refine lwp_cond_f (by simp; omega) ?_
   refine lwp_hide fun w hw => ?_
   simp
   refine call_to (by kernel_rfl) (nz_take n3 q (by omega) (k := 6) (by decide) (by decide)) ?_
   rintro _ h4 ⟨rfl, n4⟩
   simp
   rw [hw]; clear hw w
   by_cases c2 : takeV s m.at_ 6 = 0
   ·rw [if_pos c2] at hcd
    refine lwp_cond_t (by simp [c2]) ?_
    have sp := n4.at (k := (5, 0)) (by decide) Own.upd_self
    simp (disch := omega) [sp.idx1 rfl]
    refine n4.do_elem1 (k := (5, 0)) (α := Int) (i := k + 1) (d := 1) rfl (by decide) Own.upd_self (by omega) (by kernel_rfl) rfl rfl (fun W => rd_int.2 ⟨rfl, by decide, by decide⟩) fun h5 n5 => ?_
    refine fin h5 _ (n5.re fun q => by rw [upd_upd, hcd]) ?_ ?_ ?_ ?_ ?_ ?_ ?_
    all_goals simp
   ·rw [if_neg c2] at hcd
    refine lwp_cond_f (by simp [c2]) ?_
    simp
    have e : lp.set (k + 1) (phiCnt s m (k + 1)) = lp := by rw [hcd]; exact set_same (p2.zero (k + 1) (by omega)) (by omega)
    refine fin h4 _ (n4.re fun q => by rw [e]) ?_ ?_ ?_ ?_ ?_ ?_ ?_
    all_goals simp
 ·rintro _ h2 x2
  have e : n - 1 + 1 = n := by omega
  have := hQ h2 x2
  simpa [e] using this
end Go.Proofs.Ytfelpjfopgiabaa
namespace Go.Proofs.Ytfelpjfopgiabaa
open Go Go.Lft
section
variable {s : List Int} {M : Nat} {vs : Value} {W0 : View} {h : Heap} {o0 : Own} {m : MS}
theorem i64ps {n a p i : Nat} (z : Sz n a p i m) : I64 m.ps := by have := z.ps0; have := z.ps1; constructor <;> omega
theorem made_l6 {n a p i b : Nat} {vr vt vp vd va : Value} {r : Bool} {t : Nat} (x : Nx s M vs W0 h (o0.upd (7, 0) (it T.s_bool va ([] : List BL))) m) (hfree : o0 (7, 0) = none) (z : Sz n a p i m) (hn : n ≤ 100) {Q : Post} {ρ : Env}
  (h0 : keepE [2, 3, 4, 5, 7, 11, 12, 13, 14, 15, 16] ρ = [(2, vr), (3, .pointer (some ⟨M, 0, none⟩)), (4, .int .i64 n), (5, vt), (7, vp), (11, vd), (12, .int .i64 t), (13, .int .i64 b), (14, .bool r), (15, va), (16, .int .i64 0)])
  (hQ : ∀ h' W' va, W0.le W' → Nx s M vs W' h' o0 m → SlRd W' va (awayL m.f n) → Q .normal [(2, vr), (3, .pointer (some ⟨M, 0, none⟩)), (4, .int .i64 n), (5, vt), (7, vp), (11, vd), (12, .int .i64 t), (13, .int .i64 b), (14, .bool r), (15, va), (16, .int .i64 n)] h') :
  LC.wp Try.prog (.block 10 (.loop L.ref03_Made.l6)) Q ρ h := by
 simp only [lwp_block]
 refine lwp_for [2, 3, 4, 5, 7, 11, 12, 13, 14, 15, 16] (fun (va : Value) k => [vr, .pointer (some ⟨M, 0, none⟩), .int .i64 n, vt, vp, vd, .int .i64 t, .int .i64 b, .bool r, va, .int .i64 k]) (fun va k h2 => Nx s M vs W0 h2 (o0.upd (7, 0) (it T.s_bool va (rows (fun a => reachedS m.f (a : Int)) k))) m) n va
  rfl (by omega) h0 x (fun _ _ => rfl) (fun v k h2 hk2 m => by simp) ?_ ?_
 ·rintro va k h2 hlt x2 K2 hK2
  simp only [lwp_block]
  obtain ⟨vb, vl, rd⟩ := x2.z.reads
  simp [rd.f]
  refine call_to (by kernel_rfl) (reached_ok (wo := (k : Int)) (rd.rd (i64ps z)) (by show m.blocks.length ≤ _; rw [z.len]; omega)) ?_
  rintro ur h3 ⟨hle3, hur⟩
  obtain ⟨W, o, g, w, f⟩ := x2
  have w3 := w.own.ext hle3
  have hW3 := le_grow (h' := h3) w.own.wle
  have hur := hur.mono (fresh_grow W h2 h3)
  generalize grow W h2 h3 = W3 at w3 hW3 hur
  refine w3.do_push (k := (7, 0)) (α := BL) (d := reachedS m.f (k : Int)) ((f _ (by decide)).trans Own.upd_self) El.ss_bool rfl (rd_list.2 hur) (by simp; omega) (by simp; omega) (fun _ => rfl) (fun _ => rfl) fun u v' h4 w4 _ => ?_
  obtain ⟨vb, vl, lb, bb⟩ := w.box
  refine hK2 v' _ _ rfl rfl ⟨W3, _, View.le_trans g hW3, ⟨w4, w.src.mono hW3, vb, vl, lb, bb.frame fun q hq => Own.upd_ne (by rintro rfl; simp at hq)⟩, fun q hq => ?_⟩
  rw [rows_succ]
  unfold Own.upd
  split
  ·rfl
  ·rename_i e
   rw [f q hq, Own.upd_ne e]
 ·rintro va h2 ⟨W, o, g, w, f⟩
  have hk := (f (7, 0) (by decide)).trans Own.upd_self
  obtain ⟨w2, sl⟩ := w.own.freeze hk
  have hWp := le_plus (h := h2) (w.own.av _ _ hk)
  obtain ⟨vb, vl, lb, bb⟩ := w.box
  refine hQ h2 _ va (View.le_trans g hWp) ⟨_, _, View.le_refl _, ⟨w2, w.src.mono hWp, vb, vl, lb, bb.frame fun q hq => Own.upd_ne (by rintro rfl; simp at hq)⟩, fun q hq => ?_⟩ sl
  by_cases e : q = (7, 0)
  ·rw [e, Own.upd_self, hfree]
  ·rw [Own.upd_ne e, f q hq, Own.upd_ne e]
theorem made_l7 {n b : Nat} {vr vt vp vd va : Value} {r : Bool} {t : Nat} {dn : BL} {away : List BL} (sd : SlRd (vw h) vd dn) (sa : SlRd (vw h) va away) (hb : b < n) (hdn : dn.length = n) (hal : away.length = n) (har : ∀ i, i < n → (nth away i).length = n) (hn : n ≤ 100) {Q : Post} {ρ : Env}
  (h0 : keepE [2, 3, 4, 5, 7, 11, 12, 13, 14, 15, 17] ρ = [(2, vr), (3, .pointer (some ⟨M, 0, none⟩)), (4, .int .i64 n), (5, vt), (7, vp), (11, vd), (12, .int .i64 t), (13, .int .i64 b), (14, .bool r), (15, va), (17, .int .i64 0)])
  (hQ : Q .normal [(2, vr), (3, .pointer (some ⟨M, 0, none⟩)), (4, .int .i64 n), (5, vt), (7, vp), (11, vd), (12, .int .i64 t), (13, .int .i64 b), (14, .bool (up (fun a r => r && (decide (a = b) || nth dn a || nth (nth away a) b)) n r)), (15, va), (17, .int .i64 n)] h) :
  LC.wp Try.prog (.block 12 (.loop L.ref03_Made.l7)) Q ρ h := by
 simp only [lwp_block]
 refine lwp_for [2, 3, 4, 5, 7, 11, 12, 13, 14, 15, 17] (fun (r : Bool) k => [vr, .pointer (some ⟨M, 0, none⟩), .int .i64 n, vt, vp, vd, .int .i64 t, .int .i64 b, .bool r, va, .int .i64 k]) (fun r2 k h2 => h2 = h ∧ r2 = up (fun a r => r && (decide (a = b) || nth dn a || nth (nth away a) b)) k r) n r
  rfl (by omega) h0 ⟨rfl, rfl⟩ (fun _ _ => rfl) (fun v k h2 hk2 m => by simp) ?_ ?_
 ·rintro r2 k h2 hlt ⟨rfl, hr2⟩ K2 hK2
  have e : up (fun a r => r && (decide (a = b) || nth dn a || nth (nth away a) b)) (k + 1) r = (r2 && (decide (k = b) || nth dn k || nth (nth away k) b)) := by rw [hr2]; rfl
  rw [e] at hK2
  clear e hr2
  obtain ⟨rv, hrv⟩ := sa.rows
  obtain ⟨ha1, ha2⟩ := hrv k (by omega)
  have hl := har k hlt
  have hkb : ∀ {A : Type}, True := trivial
  simp only [lwp_block]
  cases r2 with
  | false =>
   simp
   exact hK2 false _ _ rfl rfl ⟨rfl, rfl⟩
  | true =>
   by_cases c : k = b
   ·subst c
    simp
    exact hK2 true _ _ rfl rfl ⟨rfl, by simp⟩
   ·have c' : ¬ ((k : Int) = (b : Int)) := by omega
    cases hd : nth dn k with
    | true =>
     simp (disch := omega) [c, c', sd.idx1 rfl, sd.bool (View.le_refl _), hd]
     exact hK2 true _ _ rfl rfl ⟨rfl, by simp [hd]⟩
    | false =>
     simp (disch := omega) [c, c', sd.idx1 rfl, sd.bool (View.le_refl _), hd, sa.idx1 rfl, ha1 _ (View.le_refl _), ha2.idx1 rfl, ha2.bool (View.le_refl _)]
     exact hK2 _ _ _ rfl rfl ⟨rfl, by simp [hd, c]⟩
 ·rintro r2 h2 ⟨rfl, rfl⟩
  exact hQ
end
end Go.Proofs.Ytfelpjfopgiabaa
namespace Go.Proofs.Ytfelpjfopgiabaa
open Go Go.Lft
def MS.withLive (m : MS) (l : List Int) : MS := { m with live := l }
section
variable {s : List Int} {M : Nat} {vs : Value} {W0 : View} {h : Heap} {o0 : Own} {m : MS}
theorem Mk.do_live {po po2 : OP} {W : View} {o : Own} (w : Mk s M vs W h o m) {vb vl : Value} {lb : List BlkM} (bb : MkB M vs m o vb vl lb) {l2 : List Int} {u : Value} {ty ty2 : TypeId} {x y c1 c2 : Operand} {us : List (Nat × Value)} {us2 : Value → List (Nat × Value)} {K : Value → Value → Heap → Prop} (src : SrcT (vw h) W u l2) (hl : m.live.length + l2.length ≤ 1000000)
  (hx : asg us x = vl) (hy : asg us y = u) (hc1 : ∀ v, asg (us2 v) c1 = .pointer (some ⟨M, 5, none⟩)) (hc2 : ∀ v, asg (us2 v) c2 = v)
  (hK : ∀ v h' o', Mk s M vs W h' o' (m.withLive (m.live ++ l2)) → (∀ k : Key, 3 ≤ k.1 → o' k = o k) → K v undef h') :
  @Lft.step po Try.prog (.call ⟨.builtin .append, #[x, y], #[T.s_int, T.s_int]⟩) ty us h fun v h2 => @Lft.step po2 Try.prog (.store T.s_int c1 c2) ty2 (us2 v) h2 fun w h3 => K v w h3 := by
 refine w.own.do_append (k := (0, 1)) (α := Int) (v := vl) (l := m.live) (l2 := l2) bb.live El.s_int hx hy src (by omega) (by omega) fun v h2 w2 _ => ?_
 have hv := (w2.cells (k := (0, 1)) Own.upd_self).2
 refine w2.do_cell (k := (0, 0)) (n := 5) (i := 5) (e := T.ref03_maker) (B := M) (l := mkL vs m.at_ m.ps vb m.next vl) ((Own.upd_ne (by simp)).trans bb.box) (by decide) (by kernel_rfl) (hc1 v) (hc2 v) hv fun h3 w3 _ => ?_
 refine hK v h3 _ ⟨w3, w.src, vb, v, lb, ⟨rfl, rfl, (Own.upd_ne (by simp)).trans ((Own.upd_ne (by simp)).trans bb.blk), bb.len, bb.term, fun i hi => ?_, fun i hi => ?_⟩⟩ fun k hk => ?_
 ·exact (Own.upd_ne (by simp)).trans ((Own.upd_ne (by simp)).trans (bb.phis i hi))
 ·exact (Own.upd_ne (by simp)).trans ((Own.upd_ne (by simp)).trans (bb.ins i hi))
 ·rw [Own.upd_ne (by rintro rfl; simp at hk), Own.upd_ne (by rintro rfl; simp at hk)]
theorem made_l8 {n a p i b c : Nat} {vr vt vp vd va : Value} {r : Bool} {t : Nat} (x : Nx s M vs W0 h o0 (m.withLive [])) (z : Sz n a p i m) (hc : m.ps = c) {Q : Post} {ρ : Env}
  (h0 : keepE [2, 3, 4, 5, 7, 11, 12, 13, 15, 18] ρ = [(2, vr), (3, .pointer (some ⟨M, 0, none⟩)), (4, .int .i64 n), (5, vt), (7, vp), (11, vd), (12, .int .i64 t), (13, .int .i64 b), (15, va), (18, .int .i64 0)])
  (hQ : ∀ h', Nx s M vs W0 h' o0 (m.withLive (rows (fun i => (i : Int)) c)) → Q .normal [(2, vr), (3, .pointer (some ⟨M, 0, none⟩)), (4, .int .i64 n), (5, vt), (7, vp), (11, vd), (12, .int .i64 t), (13, .int .i64 b), (15, va), (18, .int .i64 c)] h') :
  LC.wp Try.prog (.block 14 (.loop L.ref03_Made.l8)) Q ρ h := by
 have hc4 : c ≤ 4 := by have := z.ps1; omega
 simp only [lwp_block]
 refine lwp_for [2, 3, 4, 5, 7, 11, 12, 13, 15, 18] (fun (_ : Unit) k => [vr, .pointer (some ⟨M, 0, none⟩), .int .i64 n, vt, vp, vd, .int .i64 t, .int .i64 b, va, .int .i64 k]) (fun _ k h2 => Nx s M vs W0 h2 o0 (m.withLive (rows (fun i => (i : Int)) k))) c ()
  rfl (by omega) h0 x (fun _ _ => rfl) (fun v k h2 hk2 x2 => by
   obtain ⟨vb, vl, rd⟩ := x2.z.reads
   have e : (m.withLive (rows (fun i => (i : Int)) k)).ps = c := hc
   simp [rd.ps, e]) ?_ ?_
 ·rintro _ k h2 hlt x2 K2 hK2
  obtain ⟨W, o, g, w, f⟩ := x2
  obtain ⟨vb, vl, lb, bb⟩ := w.box
  have rd := w.reads bb
  simp only [lwp_block]
  simp [rd.cl]
  refine do_one (α := Int) (W := W) (d := (k : Int)) El.s_int rfl (rd_int.2 ⟨rfl, by constructor <;> omega⟩) fun u5 h5 src hle5 hs5 => ?_
  have w5 : Mk s M vs W h5 o (m.withLive (rows (fun i => (i : Int)) k)) := ⟨w.own.ext' hle5, w.src, w.box⟩
  refine w5.do_live bb src (by show (rows _ k).length + 1 ≤ _; simp; omega) rfl rfl (fun _ => rfl) (fun _ => rfl) fun v h6 o6 w6 f6 => ?_
  refine hK2 () _ _ rfl rfl ⟨W, o6, g, ?_, fun k hk => (f6 k hk).trans (f k hk)⟩
  rw [rows_succ]
  exact w6
 ·rintro _ h2 x2
  exact hQ h2 x2
theorem made_l10 {n a p i b ai : Nat} {vr vt vp vd va : Value} {t : Nat} {lv : List Int} (x : Nx s M vs W0 h o0 (m.withLive lv)) (z : Sz n a p i m) (hai : ai < n) (hn : n ≤ 100) (hl : lv.length ≤ 100000) (hp : p ≤ 100000) {Q : Post} {ρ : Env}
  (h0 : keepE [2, 3, 4, 5, 7, 11, 12, 13, 15, 19, 20] ρ = [(2, vr), (3, .pointer (some ⟨M, 0, none⟩)), (4, .int .i64 n), (5, vt), (7, vp), (11, vd), (12, .int .i64 t), (13, .int .i64 b), (15, va), (19, .int .i64 ai), (20, .int .i64 0)])
  (hQ : ∀ h' : Heap, Nx s M vs W0 h' o0 (m.withLive (lv ++ (nth m.blocks ai).phis.map PhiD.dst)) → Q .normal [(2, vr), (3, .pointer (some ⟨M, 0, none⟩)), (4, .int .i64 n), (5, vt), (7, vp), (11, vd), (12, .int .i64 t), (13, .int .i64 b), (15, va), (19, .int .i64 ai), (20, .int .i64 (nth m.blocks ai).phis.length)] h') :
  LC.wp Try.prog (.block 18 (.loop L.ref03_Made.l10)) Q ρ h := by
 have hpl := z.phis ai
 have hlen : ai < m.blocks.length := by rw [z.len]; exact hai
 simp only [lwp_block]
 have read : ∀ {h2 : Heap} {lv2 : List Int} {vb vl : Value}, Reads M (m.withLive lv2) h2 vb vl → ∃ vph, cellH (vw h2) (((slA vb).add (ai * 6)).add 0) = some vph ∧ SlRd (vw h2) vph (nth m.blocks ai).phis ∧ Bn.ev (.idx 6) vb (.int .i64 ai) = some (.pointer (some ((slA vb).add (ai * 6)))) := by
  intro h2 lv2 vb vl rd
  have hb := rd.blk
  have hl2 : ai < (m.withLive lv2).blocks.length := hlen
  obtain ⟨vph, h1⟩ := ((hb.at hl2).part BlkD.p_phis).sl
  have h2 := h1.2
  have e : (m.withLive lv2).blocks[ai] = nth m.blocks ai := (nth_eq hl2).symm
  rw [e] at h2
  exact ⟨vph, h1.1, h2, by have := hb.idxn (N := 6) rfl (k := .i64) (i := ai) (by omega) (by omega); simpa using this⟩
 refine lwp_for [2, 3, 4, 5, 7, 11, 12, 13, 15, 19, 20] (fun (_ : Unit) k => [vr, .pointer (some ⟨M, 0, none⟩), .int .i64 n, vt, vp, vd, .int .i64 t, .int .i64 b, va, .int .i64 ai, .int .i64 k]) (fun _ k h2 => Nx s M vs W0 h2 o0 (m.withLive (lv ++ ((nth m.blocks ai).phis.take k).map PhiD.dst))) (nth m.blocks ai).phis.length ()
  rfl (by omega) h0 (by simpa using x) (fun _ _ => rfl) (fun v k h2 hk2 x2 => by
   obtain ⟨vb, vl, rd⟩ := x2.z.reads
   obtain ⟨vph, r1, r2, r3⟩ := read rd
   simp [rd.cb, r3, r1, r2.len]) ?_ ?_
 ·rintro _ k h2 hlt x2 K2 hK2
  obtain ⟨W, o, g, w, f⟩ := x2
  obtain ⟨vb, vl, lb, bb⟩ := w.box
  have rd := w.reads bb
  obtain ⟨vph, r1, r2, r3⟩ := read rd
  have r4 : cellH (vw h2) (((slA vph).add (k * 2)).add 0) = some (.int .i64 (nth m.blocks ai).phis[k].dst) := ((r2.at hlt).part PhiD.p_dst).int
  have i64 := ((r2.at hlt).part PhiD.p_dst).rng
  have r5 : Bn.ev (.idx 2) vph (.int .i64 k) = some (.pointer (some ((slA vph).add (k * 2)))) := by
   have := r2.idxn (N := 2) rfl (k := .i64) (i := k) (by omega) (by omega); simpa using this
  simp only [lwp_block]
  refine drawn_at (vw h2) (View.le_refl _) ?_
  simp [rd.cl, rd.cb, r3, r1, r4, r5]
  refine do_one (α := Int) (W := W) (d := (nth m.blocks ai).phis[k].dst) El.s_int rfl (rd_int.2 ⟨rfl, i64⟩) fun u5 h5 src hle5 hs5 => ⟨hle5, ?_⟩
  have w5 : Mk s M vs W h5 o (m.withLive (lv ++ ((nth m.blocks ai).phis.take k).map PhiD.dst)) := ⟨w.own.ext' hle5, w.src, w.box⟩
  refine w5.do_live bb src (by show (lv ++ _).length + 1 ≤ _; simp; omega) rfl rfl (fun _ => rfl) (fun _ => rfl) fun v h6 o6 w6 f6 => ?_
  refine hK2 () _ _ rfl rfl ⟨W, o6, g, ?_, fun k hk => (f6 k hk).trans (f k hk)⟩
  rw [List.take_succ_eq_append_getElem hlt, List.map_append, ← List.append_assoc]
  exact w6
 ·rintro _ h2 x2
  rw [List.take_length] at x2
  exact hQ h2 x2
end
end Go.Proofs.Ytfelpjfopgiabaa
namespace Go.Proofs.Ytfelpjfopgiabaa
open Go Go.Lft
theorem flat_len {l : List InsD} : (l.flatMap makesS).length ≤ 2 * l.length := by
 induction l with
 | nil => simp
 | cons a l ih =>
  have : (makesS a).length ≤ 2 := by
   unfold makesS
   repeat' split
   all_goals simp
  simp only [List.flatMap_cons, List.length_append, List.length_cons]
  omega
section
variable {s : List Int} {M : Nat} {vs : Value} {W0 : View} {h : Heap} {o0 : Own} {m : MS}
theorem made_l11 {n a p i b ai : Nat} {vr vt vp vd va : Value} {t : Nat} {lv : List Int} (x : Nx s M vs W0 h o0 (m.withLive lv)) (z : Sz n a p i m) (hai : ai < n) (hn : n ≤ 100) (hl : lv.length ≤ 100000) (hi : i ≤ 100000) {Q : Post} {ρ : Env}
  (h0 : keepE [2, 3, 4, 5, 7, 11, 12, 13, 15, 19, 21] ρ = [(2, vr), (3, .pointer (some ⟨M, 0, none⟩)), (4, .int .i64 n), (5, vt), (7, vp), (11, vd), (12, .int .i64 t), (13, .int .i64 b), (15, va), (19, .int .i64 ai), (21, .int .i64 0)])
  (hQ : ∀ h' : Heap, Nx s M vs W0 h' o0 (m.withLive (lv ++ (nth m.blocks ai).ins.flatMap makesS)) → Q .normal [(2, vr), (3, .pointer (some ⟨M, 0, none⟩)), (4, .int .i64 n), (5, vt), (7, vp), (11, vd), (12, .int .i64 t), (13, .int .i64 b), (15, va), (19, .int .i64 ai), (21, .int .i64 (nth m.blocks ai).ins.length)] h') :
  LC.wp Try.prog (.block 20 (.loop L.ref03_Made.l11)) Q ρ h := by
 have hil := z.ins ai
 have hlen : ai < m.blocks.length := by rw [z.len]; exact hai
 simp only [lwp_block]
 have read : ∀ {h2 : Heap} {lv2 : List Int} {vb vl : Value}, Reads M (m.withLive lv2) h2 vb vl → ∃ vi, cellH (vw h2) (((slA vb).add (ai * 6)).add 1) = some vi ∧ SlRd (vw h2) vi (nth m.blocks ai).ins ∧ Bn.ev (.idx 6) vb (.int .i64 ai) = some (.pointer (some ((slA vb).add (ai * 6)))) := by
  intro h2 lv2 vb vl rd
  have hb := rd.blk
  have hl2 : ai < (m.withLive lv2).blocks.length := hlen
  obtain ⟨vi, h1⟩ := ((hb.at hl2).part BlkD.p_ins).sl
  have h2 := h1.2
  have e : (m.withLive lv2).blocks[ai] = nth m.blocks ai := (nth_eq hl2).symm
  rw [e] at h2
  exact ⟨vi, h1.1, h2, by have := hb.idxn (N := 6) rfl (k := .i64) (i := ai) (by omega) (by omega); simpa using this⟩
 refine lwp_for [2, 3, 4, 5, 7, 11, 12, 13, 15, 19, 21] (fun (_ : Unit) k => [vr, .pointer (some ⟨M, 0, none⟩), .int .i64 n, vt, vp, vd, .int .i64 t, .int .i64 b, va, .int .i64 ai, .int .i64 k]) (fun _ k h2 => Nx s M vs W0 h2 o0 (m.withLive (lv ++ ((nth m.blocks ai).ins.take k).flatMap makesS))) (nth m.blocks ai).ins.length ()
  rfl (by omega) h0 (by simpa using x) (fun _ _ => rfl) (fun v k h2 hk2 x2 => by
   obtain ⟨vb, vl, rd⟩ := x2.z.reads
   obtain ⟨vi, r1, r2, r3⟩ := read rd
   simp [rd.cb, r3, r1, r2.len]) ?_ ?_
 ·rintro _ k h2 hlt x2 K2 hK2
  obtain ⟨vb, vl, rd⟩ := x2.z.reads
  obtain ⟨vi, r1, r2, r3⟩ := read rd
  obtain ⟨ux, hux, huxr⟩ := r2.wh rfl (N := 5) rfl hlt
  have r5 : Bn.ev (.idx 5) vi (.int .i64 k) = some (.pointer (some ((slA vi).add (k * 5)))) := by
   have := r2.idxn (N := 5) rfl (k := .i64) (i := k) (by omega) (by omega); simpa using this
  simp only [lwp_block]
  refine lwp_hide fun y hy => ?_
  simp [rd.cb, r3, r1, r5, hux _ (View.le_refl _)]
  refine call_to (by kernel_rfl) (refMakes_ok huxr) ?_
  rintro um h3 ⟨hle3, hum, -⟩
  clear rd r1 r2 r3 r5 hux
  obtain ⟨W, o, g, w, f⟩ := x2
  have w3 := w.own.ext hle3
  have hW3 := le_grow (h' := h3) w.own.wle
  have hum := hum.mono (fresh_grow W h2 h3)
  generalize grow W h2 h3 = W3 at w3 hW3 hum
  have w4 : Mk s M vs W3 h3 o (m.withLive (lv ++ ((nth m.blocks ai).ins.take k).flatMap makesS)) := ⟨w3, w.src.mono hW3, w.box⟩
  obtain ⟨vb, vl, lb, bb⟩ := w4.box
  have rd := w4.reads bb
  rw [hy]; clear hy y
  simp [rd.cl]
  have hfl := flat_len (l := (nth m.blocks ai).ins.take k)
  have hml : (makesS (nth (nth m.blocks ai).ins k)).length ≤ 2 := by
   unfold makesS
   repeat' split
   all_goals simp
  refine w4.do_live bb (hum.src w3.wle) (by show (lv ++ _).length + _ ≤ _; simp at hfl ⊢; omega) rfl rfl (fun _ => rfl) (fun _ => rfl) fun v h6 o6 w6 f6 => ?_
  refine hK2 () _ _ rfl rfl ⟨W3, o6, View.le_trans g hW3, ?_, fun k hk => (f6 k hk).trans (f k hk)⟩
  rw [List.take_succ_eq_append_getElem hlt, List.flatMap_append, List.flatMap_singleton, ← List.append_assoc, ← nth_eq hlt]
  exact w6
 ·rintro _ h2 x2
  rw [List.take_length] at x2
  exact hQ h2 x2
theorem liveA_len {n a p i : Nat} (z : Sz n a p i m) {dn : BL} {away : List BL} {b ai : Nat} {l : List Int} : (liveA m dn away b ai l).length ≤ l.length + p + 2 * i := by
 unfold liveA
 split
 ·omega
 ·have h1 := z.phis ai
  have h2 := z.ins ai
  have h3 := flat_len (l := (nth m.blocks ai).ins)
  simp only [List.length_append, List.length_map]
  omega
theorem up_liveA_len {n a p i : Nat} (z : Sz n a p i m) {dn : BL} {away : List BL} {b : Nat} {l : List Int} : ∀ k, (up (liveA m dn away b) k l).length ≤ l.length + (p + 2 * i) * k
 | 0 => Nat.le_refl _
 | k + 1 => by
  have := up_liveA_len z (dn := dn) (away := away) (b := b) (l := l) k
  have h2 := liveA_len z (dn := dn) (away := away) (b := b) (ai := k) (l := up (liveA m dn away b) k l)
  show (liveA m dn away b k (up (liveA m dn away b) k l)).length ≤ _
  rw [Nat.mul_succ]; omega
theorem made_l9 {n a p i b : Nat} {vr vt vp vd va : Value} {t : Nat} {dn : BL} {away : List BL} {l0 : List Int} (x : Nx s M vs W0 h o0 (m.withLive l0)) (z : Sz n a p i m) (hd : o0 (6, 0) = it T.bool vd dn) (sa : SlRd W0 va away) (hb : b < n) (hdn : dn.length = n) (hal : away.length = n) (har : ∀ i, i < n → (nth away i).length = n) (hn : n ≤ 10) (hl : l0.length ≤ 10) (hp : p ≤ 1000) (hi : i ≤ 3000) {Q : Post} {ρ : Env}
  (h0 : keepE [2, 3, 4, 5, 7, 11, 12, 13, 15, 19] ρ = [(2, vr), (3, .pointer (some ⟨M, 0, none⟩)), (4, .int .i64 n), (5, vt), (7, vp), (11, vd), (12, .int .i64 t), (13, .int .i64 b), (15, va), (19, .int .i64 0)])
  (hQ : ∀ h' : Heap, Nx s M vs W0 h' o0 (m.withLive (up (liveA m dn away b) n l0)) → Q .normal [(2, vr), (3, .pointer (some ⟨M, 0, none⟩)), (4, .int .i64 n), (5, vt), (7, vp), (11, vd), (12, .int .i64 t), (13, .int .i64 b), (15, va), (19, .int .i64 n)] h') :
  LC.wp Try.prog (.block 16 (.loop L.ref03_Made.l9)) Q ρ h := by
 simp only [lwp_block]
 refine lwp_for [2, 3, 4, 5, 7, 11, 12, 13, 15, 19] (fun (_ : Unit) k => [vr, .pointer (some ⟨M, 0, none⟩), .int .i64 n, vt, vp, vd, .int .i64 t, .int .i64 b, va, .int .i64 k]) (fun _ k h2 => Nx s M vs W0 h2 o0 (m.withLive (up (liveA m dn away b) k l0))) n ()
  rfl (by omega) h0 x (fun _ _ => rfl) (fun v k h2 hk2 x2 => by simp) ?_ ?_
 ·rintro _ k h2 hlt x2 K2 hK2
  have e2 : up (liveA m dn away b) (k + 1) l0 = liveA m dn away b k (up (liveA m dn away b) k l0) := rfl
  rw [e2] at hK2
  have hll := up_liveA_len z (dn := dn) (away := away) (b := b) (l := l0) k
  have hll : (up (liveA m dn away b) k l0).length ≤ 80000 := by
   have : (p + 2 * i) * k ≤ 7000 * 10 := Nat.mul_le_mul (by omega) (by omega)
   omega
  generalize up (liveA m dn away b) k l0 = lv at x2 hK2 hll
  have hla : liveA m dn away b k lv = _ := liveA.eq_1 m dn away b k lv
  have sd := x2.z.at (by decide) hd
  have sa2 := sa.mono x2.z.le
  obtain ⟨rv, hrv⟩ := sa2.rows
  obtain ⟨ha1, ha2⟩ := hrv k (by omega)
  have hal2 := har k hlt
  simp only [lwp_block]
  refine lwp_hide fun y hy => ?_
  have fin : ∀ ρ, Lft.look ρ 2 = some vr → Lft.look ρ 3 = some (.pointer (some ⟨M, 0, none⟩)) → Lft.look ρ 4 = some (.int .i64 n) → Lft.look ρ 5 = some vt → Lft.look ρ 7 = some vp → Lft.look ρ 11 = some vd → Lft.look ρ 12 = some (.int .i64 t) → Lft.look ρ 13 = some (.int .i64 b) → Lft.look ρ 15 = some va → Lft.look ρ 19 = some (.int .i64 k) → (decide (k ≠ b) && (!nth dn k || nth (nth away k) b)) = false →
    LC.wp Try.prog y (inBlk 17 (thenL K2 (inBlk 16 Q))) ρ h2 := by
   intro ρ r2 r3 r4 r5 r7 r11 r12 r13 r15 r19 hc
   rw [hy]; clear hy y
   rw [if_neg (by rw [hc]; simp)] at hla
   refine lwp_hide fun y hy => ?_
   refine lwp_hide fun w hw => ?_
   simp
   rw [hw]; clear hw w
   refine made_l10 (vr := vr) (vt := vt) (vp := vp) (vd := vd) (va := va) (t := t) (b := b) (ai := k) x2 z hlt (by omega) (by omega) (by omega) ?_ fun h3 x3 => ?_
   ·simp [keepE, look_setE, look_kill, r2, r3, r4, r5, r7, r11, r12, r13, r15, r19]
   ·simp
    rw [hy]; clear hy y
    refine lwp_hide fun w hw => ?_
    simp
    rw [hw]; clear hw w
    have hph := z.phis k
    refine made_l11 (vr := vr) (vt := vt) (vp := vp) (vd := vd) (va := va) (t := t) (b := b) (ai := k) x3 z hlt (by omega) (by simp; omega) (by omega) ?_ fun h4 x4 => ?_
    ·simp [keepE, look_setE, look_kill]
    ·simp
     refine hK2 () _ _ rfl rfl (by rw [hla]; exact x4)
  refine lwp_hide fun w hw => ?_
  by_cases c : k = b
  ·subst c
   simp
   rw [hw]; clear hw w
   refine lwp_cond_f (by simp) ?_
   simp
   refine fin _ ?_ ?_ ?_ ?_ ?_ ?_ ?_ ?_ ?_ ?_ (by simp)
   all_goals simp
  ·have c' : ¬ ((k : Int) = (b : Int)) := by omega
   cases hd2 : nth dn k with
   | false =>
    simp (disch := omega) [c, c', sd.idx1 rfl, sd.bool (View.le_refl _), hd2]
    rw [hw]; clear hw w
    refine lwp_cond_t (by simp) ?_
    simp
    refine hK2 () _ _ rfl rfl ?_
    rw [if_pos (by simp [c, hd2])] at hla
    rw [hla]; exact x2
   | true =>
    simp (disch := omega) [c, c', sd.idx1 rfl, sd.bool (View.le_refl _), hd2, sa2.idx1 rfl, ha1 _ (View.le_refl _), ha2.idx1 rfl, ha2.bool (View.le_refl _)]
    rw [hw]; clear hw w
    cases hw2 : nth (nth away k) b with
    | true =>
     refine lwp_cond_t (by simp [hw2]) ?_
     simp
     refine hK2 () _ _ rfl rfl ?_
     rw [if_pos (by simp [c, hd2, hw2])] at hla
     rw [hla]; exact x2
    | false =>
     refine lwp_cond_f (by simp [hw2]) ?_
     simp
     refine fin _ ?_ ?_ ?_ ?_ ?_ ?_ ?_ ?_ ?_ ?_ (by simp [c, hd2, hw2])
     all_goals simp
 ·rintro _ h2 x2
  exact hQ h2 x2
end
end Go.Proofs.Ytfelpjfopgiabaa
namespace Go.Proofs.Ytfelpjfopgiabaa
open Go Go.Lft
structure B2 (n a p : Nat) (x : BL × MS) : Prop where
 z : Sz n a p 700 x.2
 len : x.1.length = n
 none : ∀ j, j < n → nth x.1 j = false → (nth x.2.blocks j).ins.length = 0
theorem liveS_len {n a p : Nat} {m : MS} {dn : BL} {away : List BL} {b : Nat} (z : Sz n a p 700 m) (hn : n ≤ 10) (hp : p ≤ 100) : (liveS m dn away b n).length ≤ 15100 := by
 have := up_liveA_len z (dn := dn) (away := away) (b := b) (l := rows (fun i => (i : Int)) m.ps.toNat) n
 rw [rows_len] at this
 have h2 : (p + 2 * 700) * n ≤ 1500 * 10 := Nat.mul_le_mul (by omega) hn
 have := z.ps1
 unfold liveS
 omega
theorem setTerm_nth {m : MS} {b j : Nat} {t : TermD} (hb : b < m.blocks.length) : nth (m.setTerm b t).blocks j = if b = j then { nth m.blocks b with term := t } else nth m.blocks j := by
 show nth (m.blocks.set b _) j = _
 rcases Nat.lt_or_ge j m.blocks.length with hl | hl
 ·rw [nth_set hl]
 ·rw [nth_ge (by simpa using hl), nth_ge hl, if_neg (by omega)]
theorem doBlock_ok {s : List Int} {to : List (List Int)} {n a p b : Nat} {dn : BL} {away : List BL} {m : MS} (z : Sz n a p 700 m) (hb : b < n) (h0 : (nth m.blocks b).ins.length = 0) (hn : n ≤ 10) (hp : p ≤ 100) (ha : 16000 ≤ a) :
  Sz n (a + 600) p 700 (doBlock s to n dn away b m) ∧ ∀ j, j ≠ b → (nth (doBlock s to n dn away b m).blocks j).ins = (nth m.blocks j).ins := by
 have hll := liveS_len (dn := dn) (away := away) (b := b) z hn hp
 have ht := takeV_rng (s := s) (at_ := m.at_) (n := 7) (by decide)
 have hbl : b < m.blocks.length := by rw [z.len]; exact hb
 obtain ⟨m1, hm1⟩ : ∃ m1 : MS, m1 = MS.took { m with live := liveS m dn away b n } := ⟨_, rfl⟩
 have z1 : Sz n (a + 1) p 700 m1 := by
  rw [hm1]
  exact Sz.took ⟨z.at_, z.n0, z.next, by show (liveS m dn away b n).length ≤ _; omega, z.ps0, z.ps1, z.len, z.phis, z.ins⟩
 have hl1 : m1.live.length ≤ 15100 := by rw [hm1]; exact hll
 have e1 : ∀ j, nth m1.blocks j = nth m.blocks j := fun j => by rw [hm1]; rfl
 have hb1 : b < m1.blocks.length := by rw [z1.len]; exact hb
 have g := ((Grw.refl (b := b) (m := m1)).instructions (s := s) hb1 (takeV s m.at_ 7).toNat).term' (s := s) (to := nth to b) hb1
 have g := g.mono (l := 520) (by omega)
 have e : doBlock s to n dn away b m = mkEndS s (nth to b) b (up (fun _ => instructionS s b) (takeV s m.at_ 7).toNat m1) := by rw [hm1]; rfl
 rw [e]
 unfold mkEndS
 generalize mkTermS s (nth to b) b (up (fun _ => instructionS s b) (takeV s m.at_ 7).toNat m1) = r at g
 have hbr : b < r.2.blocks.length := by rw [g.len]; exact hb1
 have hown := g.ins
 rw [e1, h0] at hown
 refine ⟨⟨?_, ?_, ?_, ?_, ?_, ?_, ?_, fun j => ?_, fun j => ?_⟩, fun j hj => ?_⟩
 ·show r.2.at_ ≤ _; have := g.at1; have := z1.at_; omega
 ·show 0 ≤ r.2.next; have := g.n0; have := z1.n0; omega
 ·show r.2.next ≤ _; have := g.n1; have := z1.next; omega
 ·show r.2.live.length ≤ _; have := g.live; omega
 ·show 0 ≤ r.2.ps; rw [g.ps]; exact z1.ps0
 ·show r.2.ps ≤ 4; rw [g.ps]; exact z1.ps1
 ·show (r.2.blocks.set b _).length = n; rw [List.length_set, g.len]; exact z1.len
 ·rw [setTerm_nth hbr]
  split
  ·rename_i e; subst e
   show (nth r.2.blocks b).phis.length ≤ _; rw [g.phis]; exact z1.phis b
  ·rename_i e
   rw [g.els j (fun q => e q.symm)]; exact z1.phis j
 ·rw [setTerm_nth hbr]
  split
  ·rename_i e; subst e
   show (nth r.2.blocks b).ins.length ≤ _; omega
  ·rename_i e
   rw [g.els j (fun q => e q.symm)]; exact z1.ins j
 ·rw [setTerm_nth hbr, if_neg (fun q => hj q.symm), g.els j hj, e1]
theorem blkStep_ok {s : List Int} {to : List (List Int)} {n a p b : Nat} {x : BL × MS} (q : B2 n a p x) (hb : b < n) (hn : n ≤ 10) (hp : p ≤ 100) (ha : 16000 ≤ a) (h0 : readyS x.1 (awayL x.2.f n) b n = true → nth x.1 b = false) : B2 n (a + 600) p (blkStep s to n b x) := by
 unfold blkStep
 split
 ·rename_i hr
  obtain ⟨z2, e2⟩ := doBlock_ok (s := s) (to := to) (dn := x.1.set b true) (away := awayL x.2.f n) q.z hb (q.none b hb (h0 hr)) hn hp ha
  refine ⟨z2, by show (x.1.set b true).length = n; rw [List.length_set]; exact q.len, fun j hj h => ?_⟩
  have h : nth (x.1.set b true) j = false := h
  rw [nth_set (by rw [q.len]; exact hj)] at h
  split at h
  ·cases h
  ·rename_i e
   show (nth (doBlock _ _ _ _ _ _ _).blocks j).ins.length = 0
   rw [e2 j (fun r => e r.symm)]
   exact q.none j hj h
 ·exact ⟨q.z.mono (by omega) (Nat.le_refl _) (Nat.le_refl _), q.len, q.none⟩
theorem up_and {f : Nat → Bool} : ∀ (n : Nat) (r : Bool), up (fun a r => r && f a) n r = true → r = true
 | 0, r, h => h
 | n + 1, r, h => by
  have h : (up (fun a r => r && f a) n r && f n) = true := h
  simp only [Bool.and_eq_true] at h
  exact up_and n r h.1
theorem ready_not {dn : BL} {away : List BL} {b n : Nat} (h : readyS dn away b n = true) : nth dn b = false := by
 unfold readyS at h
 have := up_and _ _ h
 simpa using this
section
variable {s : List Int} {M : Nat} {vs : Value} {W0 : View} {h : Heap} {o0 : Own} {m : MS}
theorem made_l12 {n b k c : Nat} {vr vt vp vd va : Value} {t : Nat} (x : Nx s M vs W0 h o0 m) (hfree : o0 (9, 0) = none) (hm : m.ok c) (hc : c ≤ 100000) (hk : k ≤ 100) (hb : b < m.blocks.length) {Q : Post} {ρ : Env}
  (h0 : keepE [2, 3, 4, 5, 7, 11, 12, 13, 15, 23, 24] ρ = [(2, vr), (3, .pointer (some ⟨M, 0, none⟩)), (4, .int .i64 n), (5, vt), (7, vp), (11, vd), (12, .int .i64 t), (13, .int .i64 b), (15, va), (23, .int .i64 k), (24, .int .i64 0)])
  (hQ : ∀ h' : Heap, Nx s M vs W0 h' o0 (up (fun _ => instructionS s b) k m) → Q .normal [(2, vr), (3, .pointer (some ⟨M, 0, none⟩)), (4, .int .i64 n), (5, vt), (7, vp), (11, vd), (12, .int .i64 t), (13, .int .i64 b), (15, va), (23, .int .i64 k), (24, .int .i64 k)] h') :
  LC.wp Try.prog (.block 22 (.loop L.ref03_Made.l12)) Q ρ h := by
 have oks : ∀ j, (up (fun _ => instructionS s b) j m).ok (c + 80 * j) ∧ (up (fun _ => instructionS s b) j m).blocks.length = m.blocks.length := by
  intro j
  induction j with
  | zero => exact ⟨hm, rfl⟩
  | succ j ih => exact ⟨(ih.1.instruction (s := s) (b := b)).mono (by omega), (instruction_len (s := s) (b := b)).trans ih.2⟩
 simp only [lwp_block]
 refine lwp_for [2, 3, 4, 5, 7, 11, 12, 13, 15, 23, 24] (fun (_ : Unit) j => [vr, .pointer (some ⟨M, 0, none⟩), .int .i64 n, vt, vp, vd, .int .i64 t, .int .i64 b, va, .int .i64 k, .int .i64 j]) (fun _ j h2 => Nx s M vs W0 h2 o0 (up (fun _ => instructionS s b) j m)) k ()
  rfl (by omega) h0 x (fun _ _ => rfl) (fun v k h2 hk2 x2 => by simp) ?_ ?_
 ·rintro _ j h2 hlt x2 K2 hK2
  obtain ⟨q1, q2⟩ := oks j
  have e2 : up (fun _ => instructionS s b) (j + 1) m = instructionS s b (up (fun _ => instructionS s b) j m) := rfl
  rw [e2] at hK2
  generalize up (fun _ => instructionS s b) j m = m2 at x2 hK2 q1 q2
  simp only [lwp_block]
  simp
  refine call_to (by kernel_rfl) (mk_instruction x2 (b := b) (by omega) q1 (by omega) hfree) ?_
  rintro _ h3 x3
  exact hK2 () _ _ rfl rfl x3
 ·rintro _ h2 x2
  exact hQ h2 x2
end
end Go.Proofs.Ytfelpjfopgiabaa
namespace Go.Proofs.Ytfelpjfopgiabaa
open Go Go.Lft
theorem Nx.up {s : List Int} {M : Nat} {vs : Value} {W W0 : View} {h : Heap} {o0 : Own} {m : MS} (x : Nx s M vs W h o0 m) (hW : W0.le W) : Nx s M vs W0 h o0 m := by
 obtain ⟨W', o, g, w, f⟩ := x
 exact ⟨W', o, View.le_trans hW g, w, f⟩
theorem Nx.re {s : List Int} {M : Nat} {vs : Value} {W : View} {h : Heap} {o0 o0' : Own} {m : MS} (x : Nx s M vs W h o0 m) (he : ∀ k, o0' k = o0 k) : Nx s M vs W h o0' m := by
 obtain ⟨W', o, g, w, f⟩ := x
 exact ⟨W', o, g, w, fun k hk => (f k hk).trans (he k).symm⟩
theorem Nx.do_empty {po : OP} {s : List Int} {M : Nat} {vs : Value} {W0 : View} {h : Heap} {o0 : Own} {m : MS} {α : Type} [r : Rep α] {ty e t : TypeId} {us : List (Nat × Value)} {k : Key} {bytes : Nat} {z : Value} {K : Value → Heap → Prop} (x : Nx s M vs W0 h o0 m) (h3 : 3 ≤ k.1) (hk : o0 k = none) (hT : ElemT Try.prog t e (Rep.n α) bytes z)
  (hK : ∀ v h', v.oneCell' = true → Nx s M vs W0 h' (o0.upd k (it e v ([] : List α))) m → K v h') : @Lft.step po Try.prog (.buildSlice t 0 #[]) ty us h K := by
 obtain ⟨W, o, g, w, f⟩ := x
 refine w.own.do_empty (k := k) (α := α) ((f k h3).trans hk) hT fun v h2 hle2 hv w2 _ => hK v h2 hv ?_
 obtain ⟨vb, vl, lb, bb⟩ := w.box
 refine ⟨W, _, g, ⟨w2, w.src, vb, vl, lb, bb.frame fun q hq => Own.upd_ne (by rintro rfl; omega)⟩, fun q hq => ?_⟩
 unfold Own.upd
 split
 ·rfl
 ·exact f q hq
theorem Nx.do_live0 {po po2 : OP} {s : List Int} {M : Nat} {vs : Value} {W0 : View} {h : Heap} {o0 : Own} {m : MS} {ty ty2 : TypeId} {us : List (Nat × Value)} {us2 : Value → List (Nat × Value)} {c1 c2 : Operand} {K : Value → Value → Heap → Prop} (x : Nx s M vs W0 h o0 m) (hc1 : ∀ v, asg (us2 v) c1 = .pointer (some ⟨M, 5, none⟩)) (hc2 : ∀ v, asg (us2 v) c2 = v)
  (hK : ∀ v h', Nx s M vs W0 h' o0 (m.withLive []) → K v undef h') : @Lft.step po Try.prog (.buildSlice T.s_int 0 #[]) ty us h fun v h2 => @Lft.step po2 Try.prog (.store T.s_int c1 c2) ty2 (us2 v) h2 fun w h3 => K v w h3 := by
 obtain ⟨W, o, g, w, f⟩ := x
 obtain ⟨vb, vl, lb, bb⟩ := w.box
 have w1 := w.own.sub (o' := o.upd (0, 1) none) fun j i hj => by
  unfold Own.upd at hj
  split at hj
  ·cases hj
  ·exact hj
 refine w1.do_empty (k := (0, 1)) (α := Int) Own.upd_self El.s_int fun v h2 hle2 hv w2 _ => ?_
 have w2 := w2.congr (o' := o.upd (0, 1) (it T.int v ([] : List Int))) fun q => by
  unfold Own.upd; split <;> rfl
 refine w2.do_cell (k := (0, 0)) (n := 5) (i := 5) (e := T.ref03_maker) (B := M) (l := mkL vs m.at_ m.ps vb m.next vl) ((Own.upd_ne (by simp)).trans bb.box) (by decide) (by kernel_rfl) (hc1 v) (hc2 v) hv fun h3 w3 _ => ?_
 refine hK v h3 ⟨W, _, g, ⟨w3, w.src, vb, v, lb, ⟨rfl, rfl, (Own.upd_ne (by simp)).trans ((Own.upd_ne (by simp)).trans bb.blk), bb.len, bb.term, fun i hi => ?_, fun i hi => ?_⟩⟩, fun k hk => ?_⟩
 ·exact (Own.upd_ne (by simp)).trans ((Own.upd_ne (by simp)).trans (bb.phis i hi))
 ·exact (Own.upd_ne (by simp)).trans ((Own.upd_ne (by simp)).trans (bb.ins i hi))
 ·rw [Own.upd_ne (by rintro rfl; simp at hk), Own.upd_ne (by rintro rfl; simp at hk)]
  exact f k hk
section
variable {s : List Int} {M : Nat} {vs : Value} {W0 : View} {h : Heap} {o0 : Own} {m : MS}
theorem made_l5 {n a p : Nat} {vr vt vp vd : Value} {t : Nat} {to : List (List Int)} {x0 : BL × MS} (x : Nx s M vs W0 h (o0.upd (6, 0) (it T.bool vd x0.1)) x0.2) (hto : SlRd W0 vt to) (htl : to.length = n) (f7 : o0 (7, 0) = none) (f90 : o0 (9, 0) = none) (f91 : o0 (9, 1) = none) (q : B2 n a p x0) (hn : n ≤ 10) (hp : p ≤ 100) (ha : 16000 ≤ a) (ha2 : a ≤ 90000) {Q : Post} {ρ : Env}
  (h0 : keepE [2, 3, 4, 5, 7, 11, 12, 13] ρ = [(2, vr), (3, .pointer (some ⟨M, 0, none⟩)), (4, .int .i64 n), (5, vt), (7, vp), (11, vd), (12, .int .i64 t), (13, .int .i64 0)])
  (hQ : ∀ h' : Heap, Nx s M vs W0 h' (o0.upd (6, 0) (it T.bool vd (up (blkStep s to n) n x0).1)) (up (blkStep s to n) n x0).2 → Q .normal [(2, vr), (3, .pointer (some ⟨M, 0, none⟩)), (4, .int .i64 n), (5, vt), (7, vp), (11, vd), (12, .int .i64 t), (13, .int .i64 n)] h') :
  LC.wp Try.prog (.block 8 (.loop L.ref03_Made.l5)) Q ρ h := by
 have oks : ∀ j, j ≤ n → B2 n (a + 600 * j) p (up (blkStep s to n) j x0) := by
  intro j
  induction j with
  | zero => intro _; exact q
  | succ j ih =>
   intro hj
   have := blkStep_ok (s := s) (to := to) (b := j) (ih (by omega)) (by omega) hn hp (by omega) fun h => ready_not h
   exact ⟨this.z.mono (by omega) (Nat.le_refl _) (Nat.le_refl _), this.len, this.none⟩
 simp only [lwp_block]
 refine lwp_for [2, 3, 4, 5, 7, 11, 12, 13] (fun (_ : Unit) j => [vr, .pointer (some ⟨M, 0, none⟩), .int .i64 n, vt, vp, vd, .int .i64 t, .int .i64 j]) (fun _ j h2 => Nx s M vs W0 h2 (o0.upd (6, 0) (it T.bool vd (up (blkStep s to n) j x0).1)) (up (blkStep s to n) j x0).2) n ()
  rfl (by omega) h0 x (fun _ _ => rfl) (fun v k h2 hk2 x2 => by simp) ?_ ?_
 ·rintro _ b h2 hlt x2 K2 hK2
  have q2 := oks b (by omega)
  have e2 : up (blkStep s to n) (b + 1) x0 = blkStep s to n b (up (blkStep s to n) b x0) := rfl
  rw [e2] at hK2
  generalize up (blkStep s to n) b x0 = y at x2 hK2 q2
  obtain ⟨dn, m⟩ := y
  have x2 : Nx s M vs W0 h2 (o0.upd (6, 0) (it T.bool vd dn)) m := x2
  have z : Sz n (a + 600 * b) p 700 m := q2.z
  have hdn : dn.length = n := q2.len
  have hbs : blkStep s to n b (dn, m) = _ := blkStep.eq_1 s to n b (dn, m)
  simp only at hbs
  have sd := x2.z.at (by decide) Own.upd_self
  simp only [lwp_block]
  refine lwp_hide fun y hy => ?_
  simp (disch := omega) [sd.idx1 rfl, sd.bool (View.le_refl _)]
  rw [hy]; clear hy y
  refine lwp_hide fun y hy => ?_
  simp
  refine x2.do_empty (k := (7, 0)) (α := BL) (by decide) ((Own.upd_ne (by simp)).trans f7) El.ss_bool fun va h3 hva x3 => ?_
  clear sd
  rw [hy]; clear hy y
  refine lwp_hide fun y hy => ?_
  refine lwp_hide fun w hw => ?_
  simp
  rw [hw]; clear hw w
  refine made_l6 (vr := vr) (vt := vt) (vp := vp) (vd := vd) (t := t) (b := b) (r := !nth dn b) x3 ((Own.upd_ne (by simp)).trans f7) z (by omega) (by simp [keepE, look_setE, look_kill]) fun h4 W4 va hW4 x4 sa => ?_
  clear x3 hva x2
  have hal : (awayL m.f n).length = n := by unfold awayL; simp
  have har : ∀ i, i < n → (nth (awayL m.f n) i).length = n := fun i hi => by
   unfold awayL; rw [nth_rows hi, reachedS_len]; exact z.len
  generalize awayL m.f n = away at sa hbs hal har
  simp
  rw [hy]; clear hy y
  refine lwp_hide fun y hy => ?_
  refine lwp_hide fun w hw => ?_
  simp
  rw [hw]; clear hw w
  have sd := x4.z.at (by decide) Own.upd_self
  refine made_l7 (M := M) (n := n) (b := b) (vr := vr) (vt := vt) (vp := vp) (vd := vd) (va := va) (t := t) (r := !nth dn b) sd (sa.mono x4.z.le) hlt hdn hal har (by omega) (by simp [keepE, look_setE, look_kill]) ?_
  have hrd : up (fun a r => r && (decide (a = b) || nth dn a || nth (nth away a) b)) n (!nth dn b) = readyS dn away b n := rfl
  rw [hrd]
  simp
  rw [hy]; clear hy y
  refine lwp_hide fun y hy => ?_
  refine lwp_hide fun w hw => ?_
  simp
  rw [hw]; clear hw w
  cases hr : readyS dn away b n with
  | false =>
   rw [hr] at hbs
   rw [if_neg (by simp)] at hbs
   refine lwp_cond_t (by simp) ?_
   simp
   refine hK2 () _ _ rfl rfl ?_
   rw [hbs]
   exact x4.up hW4
  | true =>
   rw [hr] at hbs
   rw [if_pos rfl] at hbs
   have hnb := ready_not hr
   have hib := q2.none b hlt hnb
   refine lwp_cond_f (by simp) ?_
   simp
   rw [hy]; clear hy y
   refine lwp_hide fun y hy => ?_
   simp (disch := omega) [sd.idx1 rfl]
   refine x4.z.do_elem1 (k := (6, 0)) (α := Bool) (i := b) (d := true) rfl (by decide) Own.upd_self (by omega) (by kernel_rfl) rfl rfl (fun W => rd_bool.2 rfl) fun h5 n5 => ?_
   have x5 : Nx s M vs W4 h5 (o0.upd (6, 0) (it T.bool vd (dn.set b true))) m := n5.x.re fun q => by rw [upd_upd]
   clear n5 x4 sd
   rw [hy]; clear hy y
   refine lwp_hide fun y hy => ?_
   simp
   refine x5.do_live0 (fun _ => rfl) (fun _ => rfl) fun v6 h6 x6 => ?_
   rw [hy]; clear hy y
   obtain ⟨c, hc⟩ : ∃ c : Nat, m.ps = c := ⟨m.ps.toNat, by have := z.ps0; omega⟩
   have hc4 : c ≤ 4 := by have := z.ps1; omega
   refine lwp_hide fun y hy => ?_
   refine lwp_hide fun w hw => ?_
   simp
   rw [hw]; clear hw w
   refine made_l8 (n := n) (b := b) (vr := vr) (vt := vt) (vp := vp) (vd := vd) (va := va) (t := t) (r := true) x6 z hc (by simp [keepE, look_setE, look_kill]) fun h7 x7 => ?_
   simp
   rw [hy]; clear hy y
   refine lwp_hide fun y hy => ?_
   refine lwp_hide fun w hw => ?_
   simp
   rw [hw]; clear hw w
   refine made_l9 (n := n) (b := b) (vr := vr) (vt := vt) (vp := vp) (vd := vd) (va := va) (t := t) (dn := dn.set b true) (away := away) x7 z Own.upd_self sa hlt (by rw [List.length_set]; exact hdn) hal har hn (by simp; omega) (by omega) (by omega) (by simp [keepE, look_setE, look_kill]) fun h8 x8 => ?_
   have hlv : up (liveA m (dn.set b true) away b) n (rows (fun i => (i : Int)) c) = liveS m (dn.set b true) away b n := by
    unfold liveS; rw [hc]; rfl
   rw [hlv] at x8
   have hll := liveS_len (dn := dn.set b true) (away := away) (b := b) z hn hp
   have hdo : doBlock s to n (dn.set b true) away b m = mkEndS s (nth to b) b (up (fun _ => instructionS s b) (takeV s m.at_ 7).toNat (MS.took (m.withLive (liveS m (dn.set b true) away b n)))) := rfl
   rw [hdo] at hbs
   obtain ⟨m1, hm1⟩ : ∃ m1, m1 = m.withLive (liveS m (dn.set b true) away b n) := ⟨_, rfl⟩
   have z1 : Sz n (a + 600 * b) p 700 m1 := by rw [hm1]; exact ⟨z.at_, z.n0, z.next, by show (liveS _ _ _ _ _).length ≤ _; omega, z.ps0, z.ps1, z.len, z.phis, z.ins⟩
   have ea : m.at_ = m1.at_ := by rw [hm1]; rfl
   rw [← hm1] at x8 hbs
   rw [ea] at hbs
   clear hlv hdo hm1 ea x7 x6 x5
   simp
   rw [hy]; clear hy y
   refine lwp_hide fun y hy => ?_
   simp
   refine call_to (by kernel_rfl) (nz_take x8.z (z1.ok (by omega)) (by omega) (k := 7) (by decide) (by decide)) ?_
   rintro _ h9 ⟨rfl, n9⟩
   obtain ⟨t0, t1⟩ := takeV_rng (s := s) (at_ := m1.at_) (n := 7) (by decide)
   generalize takeV s m1.at_ 7 = kk at hbs t0 t1
   obtain ⟨k, rfl⟩ : ∃ k : Nat, kk = k := ⟨kk.toNat, by omega⟩
   rw [show ((k : Int)).toNat = k by omega] at hbs
   rw [hy]; clear hy y
   refine lwp_hide fun y hy => ?_
   refine lwp_hide fun w hw => ?_
   simp
   rw [hw]; clear hw w
   have zok := (z1.took).ok (show 700 ≤ _ by omega)
   refine made_l12 (n := n) (b := b) (k := k) (c := a + 600 * b + 1) (vr := vr) (vt := vt) (vp := vp) (vd := vd) (va := va) (t := t) n9.x ((Own.upd_ne (by simp)).trans f90) zok (by omega) (by omega) (by show b < m1.blocks.length; rw [z1.len]; exact hlt) (by simp [keepE, look_setE, look_kill]) fun h10 x10 => ?_
   have oks2 : ∀ j, (up (fun _ => instructionS s b) j m1.took).ok (a + 600 * b + 1 + 80 * j) ∧ (up (fun _ => instructionS s b) j m1.took).blocks.length = n := by
    intro j
    induction j with
    | zero => exact ⟨zok, z1.len⟩
    | succ j ih => exact ⟨(ih.1.instruction (s := s) (b := b)).mono (by omega), (instruction_len (s := s) (b := b)).trans ih.2⟩
   obtain ⟨k1, k2⟩ := oks2 k
   generalize up (fun _ => instructionS s b) k m1.took = m2 at x10 hbs k1 k2
   obtain ⟨rv, hrv⟩ := hto.rows
   obtain ⟨hr1, hr2⟩ := hrv b (by omega)
   have ito := (hto.mono hW4).mono x10.z.le
   simp
   rw [hy]; clear hy y
   simp (disch := omega) [ito.idx1 rfl, hr1 _ (View.le_trans hW4 x10.z.le)]
   refine call_to (by kernel_rfl) (mk_end x10 (b := b) (by omega) k1 (by omega) ((Own.upd_ne (by simp)).trans f91) (hr2.mono hW4)) ?_
   rintro _ h11 x11
   refine hK2 () _ _ rfl rfl ?_
   rw [hbs]
   exact x11.up hW4
 ·rintro _ h2 x2
  exact hQ h2 x2
end
end Go.Proofs.Ytfelpjfopgiabaa
namespace Go.Proofs.Ytfelpjfopgiabaa
open Go Go.Lft
structure GdB (x : BlkD) : Prop where
 ins : ∀ i ∈ x.ins, i.args.length ≤ 10
 args : x.term.args.length ≤ 10
 to : x.term.to.length ≤ 1000
 phis : ∀ p ∈ x.phis, p.ins.length ≤ 1000
def Gd (m : MS) : Prop := ∀ j, j < m.blocks.length → GdB (nth m.blocks j)
variable {s : List Int} {m : MS} {b : Nat}
theorem Gd.took (g : Gd m) : Gd m.took := g
theorem Gd.freshed (g : Gd m) : Gd m.freshed := g
theorem Gd.setBlk (g : Gd m) {x : BlkD} (hx : b < m.blocks.length → GdB x) : Gd { m with blocks := m.blocks.set b x } := fun j hj => by
 have hj : j < m.blocks.length := by simpa using hj
 show GdB (nth (m.blocks.set b x) j)
 rw [nth_set hj]
 split
 ·rename_i e; exact hx (by omega)
 ·exact g j hj
theorem Gd.add (g : Gd m) {i : InsD} (hi : i.args.length ≤ 10) : Gd (m.add b i) := by
 have := g.setBlk (b := b) (x := { nth m.blocks b with ins := (nth m.blocks b).ins ++ [i] }) fun hb => ⟨fun j hj => by
  rcases List.mem_append.1 hj with h | h
  ·exact (g b hb).ins j h
  ·rw [List.mem_singleton] at h; rw [h]; exact hi, (g b hb).args, (g b hb).to, (g b hb).phis⟩
 exact this
theorem Gd.constant (g : Gd m) {n : Int} : Gd (m.constant b n) := g.freshed.add (by show 0 ≤ 10; omega)
theorem Gd.two (g : Gd m) {op x y : Int} : Gd (m.two b op x y) := g.freshed.add (by show 2 ≤ 10; omega)
theorem Gd.someS (g : Gd m) : Gd (someS s m b).2 := by
 unfold Go.Proofs.Ytfelpjfopgiabaa.someS
 repeat' split
 ·exact g.took.took.constant
 ·exact g.took.took.took.took.took.constant
 ·exact g.took.took.took
theorem Gd.addr (g : Gd m) : Gd (addrS s m b).2 := by
 unfold addrS
 simp only
 split
 ·exact g.took.constant.took.someS.constant.two.two
 ·exact g.took.constant.took
theorem Gd.off (g : Gd m) : Gd (offS s m).2 := by
 unfold offS
 split
 ·exact g.took.took.took.took
 ·exact g.took.took
theorem Gd.memory (g : Gd m) {st : Bool} : Gd (memoryS s m b st) := by
 unfold memoryS
 simp only
 split
 ·exact g.addr.off.someS.add (by show 2 ≤ 10; omega)
 ·exact g.addr.off.freshed.add (by show 1 ≤ 10; omega)
theorem Gd.bin (g : Gd m) {op : Int} : Gd (binS s m b op) := by
 unfold binS
 simp only
 split
 ·exact g.someS.someS.took.took.constant.two
 ·exact g.someS.someS.took.two
theorem Gd.div (g : Gd m) : Gd (divS s m b) := by
 unfold divS
 simp only
 split
 ·exact g.someS.took.constant.took.took.constant.two
 ·exact g.someS.took.constant.took.two
theorem Gd.args {x : List Int × MS} (g : Gd x.2) : ∀ n, Gd (up (argsS s b) n x).2 ∧ (up (argsS s b) n x).1.length = x.1.length + n
 | 0 => ⟨g, rfl⟩
 | n + 1 => ⟨(Gd.args g n).1.someS, by show ((up (argsS s b) n x).1 ++ [_]).length = _; rw [List.length_append, (Gd.args g n).2, List.length_singleton]; omega⟩
theorem Gd.call (g : Gd m) : Gd (callS s m b) := by
 unfold callS
 simp only
 have ht := takeV_rng (s := s) (at_ := m.at_) (n := 5) (by decide)
 obtain ⟨g2, l2⟩ := Gd.args (s := s) (b := b) (x := ([], m.took)) g.took (takeV s m.at_ 5).toNat
 refine g2.freshed.took.add ?_
 show (up (argsS s b) (takeV s m.at_ 5).toNat ([], m.took)).1.length ≤ 10
 rw [l2]; simp; omega
theorem Gd.instruction (g : Gd m) : Gd (instructionS s b m) := by
 unfold instructionS
 simp only
 repeat' split
 ·exact g.took.bin
 ·unfold ltuS
  exact g.took.someS.someS.two
 ·exact g.took.div
 ·exact g.took.memory
 ·exact g.took.call
 ·unfold mulwS
  exact g.took.someS.someS.freshed.freshed.add (by show 2 ≤ 10; omega)
 ·exact g.took.took.took.constant
theorem Gd.instructions (g : Gd m) : ∀ n, Gd (up (fun _ => instructionS s b) n m)
 | 0 => g
 | n + 1 => (Gd.instructions g n).instruction
theorem Gd.mkEnd (g : Gd m) {to : List Int} (ht : to.length ≤ 1000) : Gd (mkEndS s to b m) := by
 have h : Gd (mkTermS s to b m).2 ∧ (mkTermS s to b m).1.args.length ≤ 10 ∧ (mkTermS s to b m).1.to.length ≤ 1000 := by
  unfold mkTermS
  simp only
  repeat' split
  ·exact ⟨g.took.took, by show 0 ≤ 10; omega, by show 0 ≤ 1000; omega⟩
  ·exact ⟨g.took.someS, by show 1 ≤ 10; omega, by show 0 ≤ 1000; omega⟩
  ·exact ⟨g.took, by show 0 ≤ 10; omega, by show 0 ≤ 1000; omega⟩
  ·exact ⟨g, by show 0 ≤ 10; omega, ht⟩
  ·exact ⟨g.someS.took.someS.freshed.took.add (by show 2 ≤ 10; omega), by show 1 ≤ 10; omega, ht⟩
  ·exact ⟨g.someS.took, by show 1 ≤ 10; omega, ht⟩
  ·exact ⟨g.someS.constant.two, by show 1 ≤ 10; omega, ht⟩
 obtain ⟨h1, h2, h3⟩ := h
 exact h1.setBlk fun hb => ⟨(h1 b hb).ins, h2, h3, (h1 b hb).phis⟩
theorem Gd.setTo (g : Gd m) {l : List Int} (hl : l.length ≤ 1000) : Gd (m.setTo b l) := g.setBlk fun hb => ⟨(g b hb).ins, (g b hb).args, hl, (g b hb).phis⟩
theorem Gd.addPhi (g : Gd m) : Gd (Go.Proofs.Ytfelpjfopgiabaa.addPhi b m) := by
 have := g.freshed.setBlk (b := b) (x := { nth m.blocks b with phis := (nth m.blocks b).phis ++ [⟨m.next, []⟩] }) fun hb => ⟨(g b hb).ins, (g b hb).args, (g b hb).to, fun p hp => by
  rcases List.mem_append.1 hp with h | h
  ·exact (g b hb).phis p h
  ·rw [List.mem_singleton] at h; rw [h]; show 0 ≤ 1000; omega⟩
 exact this
theorem Gd.addPhis (g : Gd m) : ∀ n, Gd (up (fun _ => Go.Proofs.Ytfelpjfopgiabaa.addPhi b) n m)
 | 0 => g
 | n + 1 => (Gd.addPhis g n).addPhi
theorem Gd.setIn (g : Gd m) {i : Nat} {l : List InD} (hl : l.length ≤ 1000) : Gd (m.setIn b i l) := g.setBlk fun hb => ⟨(g b hb).ins, (g b hb).args, (g b hb).to, fun p hp => by
 rcases List.mem_or_eq_of_mem_set hp with h | h
 ·exact (g b hb).phis p h
 ·rw [h]; exact hl⟩
theorem Gd.smF {n a p i : Nat} (g : Gd m) (z : Sz n a p i m) (hn : n ≤ 10000) (hp : p ≤ 10000) (hi : i ≤ 10000) : SmF m.f := by
 refine ⟨by show m.blocks.length ≤ _; rw [z.len]; exact hn, fun j hj => ?_⟩
 have hj : j < m.blocks.length := hj
 have h := g j hj
 have e : nth m.f.blocks j = nth m.blocks j := rfl
 rw [e]
 exact ⟨Nat.le_trans (z.phis j) hp, Nat.le_trans (z.ins j) hi, by have := h.args; omega, by have := h.to; omega, fun k hk => by have := h.phis _ (nth_mem hk); omega, fun k hk => by have := h.ins _ (nth_mem hk); omega⟩
theorem thTo_mks {f : FuncD} : ∀ n, ∀ t ∈ thTo f n, t.mks.length ≤ 1000
 | 0, t, h => by cases h
 | n + 1, t, h => by
  rw [thTo_succ] at h
  rcases List.mem_append.1 h with h | h
  ·exact thTo_mks n t h
  ·unfold thB at h
   simp only [List.mem_append, List.mem_singleton, rows, List.mem_map, List.mem_range] at h
   rcases h with (⟨i, _, rfl⟩ | ⟨i, _, rfl⟩) | rfl
   ·show 1 ≤ 1000; omega
   ·show (makesS _).length ≤ 1000
    unfold makesS
    repeat' split
    all_goals simp
   ·show 0 ≤ 1000; omega
theorem mkTh_len {n a p i : Nat} (z : Sz n a p i m) : ∀ k, (thTo m.f k).length ≤ (p + i + 1) * k
 | 0 => Nat.le_refl _
 | k + 1 => by
  have h1 := mkTh_len z k
  have h2 := z.phis k
  have h3 := z.ins k
  have e : nth m.f.blocks k = nth m.blocks k := rfl
  rw [thTo_succ, List.length_append, Nat.mul_succ]
  unfold thB
  simp only [List.length_append, rows_len, List.length_singleton, e]
  omega
theorem mkThings_len {n a p i : Nat} (z : Sz n a p i m) (hn : n ≤ 10) (hp : p ≤ 1000) (hi : i ≤ 3000) : (thingsS m.f).length ≤ 60000 := by
 have h1 := mkTh_len z n
 have h2 : (p + i + 1) * n ≤ 5000 * 10 := Nat.mul_le_mul (by omega) hn
 have e : thingsS m.f = thTo m.f n := by
  unfold thingsS
  rw [show m.f.blocks.length = n from z.len]
 rw [e]; omega
theorem mkStanding_len {n a p i : Nat} (z : Sz n a p i m) (hn : n ≤ 10) (hp : p ≤ 1000) (hi : i ≤ 3000) : (standingS m.f b).length ≤ 70000000 := by
 have h := foldl_len (l := thingsS m.f) (f := m.f) (b := b) (c := 1000) (thTo_mks _) (out := rows (fun i => (i : Int)) m.f.params.toNat)
 have h2 := mkThings_len z hn hp hi
 have h3 : m.f.params.toNat ≤ 4 := by have := z.ps1; show m.ps.toNat ≤ 4; omega
 rw [rows_len] at h
 have e : standingS m.f b = (thingsS m.f).foldl (standStep m.f b) (rows (fun i => (i : Int)) m.f.params.toNat) := rfl
 rw [e]; omega
end Go.Proofs.Ytfelpjfopgiabaa
namespace Go.Proofs.Ytfelpjfopgiabaa
open Go Go.Lft
structure P3 (n a p i : Nat) (m : MS) : Prop where
 z : Sz n a p i m
 g : Gd m
theorem P3.mono {n a p i a' p' i' : Nat} {m : MS} (q : P3 n a p i m) (h1 : a ≤ a') (h2 : p ≤ p') (h3 : i ≤ i') : P3 n a' p' i' m := ⟨q.z.mono h1 h2 h3, q.g⟩
theorem Sz.const {n a p i b : Nat} {m : MS} {k : Int} (z : Sz n a p i m) : Sz n (a + 3) p (i + 1) (m.constant b k) := by
 have h1 : Sz n (a + 3) p (i + 1) { m.freshed with live := m.live ++ makesS (conD m.next k) } := ⟨by have := z.at_; show m.at_ ≤ _; omega, by have := z.n0; show 0 ≤ m.next + 1; omega, by have := z.next; show m.next + 1 ≤ _; omega, by
  have := z.live
  show (m.live ++ [m.next]).length ≤ _
  rw [List.length_append, List.length_singleton]; omega, z.ps0, z.ps1, z.len, z.phis, fun j => by have := z.ins j; show (nth m.blocks j).ins.length ≤ _; omega⟩
 exact h1.setBlk (b := b) (x := { nth m.blocks b with ins := (nth m.blocks b).ins ++ [conD m.next k] }) (z.phis b) (by have := z.ins b; show ((nth m.blocks b).ins ++ [_]).length ≤ _; rw [List.length_append, List.length_singleton]; omega)
theorem Sz.setIn {n a p i b j : Nat} {m : MS} {l : List InD} (z : Sz n a p i m) : Sz n a p i (m.setIn b j l) :=
 z.setBlk (by show ((nth m.blocks b).phis.set j _).length ≤ _; rw [List.length_set]; exact z.phis b) (z.ins b)
def rowS (s : List Int) (b : Nat) (m : MS) : List Int × MS := if (standingS m.f b).length = 0 then ([m.next], m.took.took.constant b (wordV s m)) else (standingS m.f b, m)
theorem rowS_pos {s : List Int} {b : Nat} {m : MS} : 0 < (rowS s b m).1.length := by
 unfold rowS
 split
 ·show 0 < 1; omega
 ·show 0 < (standingS m.f b).length; omega
theorem rowS_len {s : List Int} {n a p i b : Nat} {m : MS} (z : Sz n a p i m) (hn : n ≤ 10) (hp : p ≤ 1000) (hi : i ≤ 3000) : (rowS s b m).1.length ≤ 70000000 := by
 unfold rowS
 split
 ·show 1 ≤ 70000000; omega
 ·exact mkStanding_len z hn hp hi
theorem rowS_ok {s : List Int} {n a p i b : Nat} {m : MS} (q : P3 n a p i m) : P3 n (a + 5) p (i + 1) (rowS s b m).2 := by
 unfold rowS
 split
 ·exact ⟨(q.z.took.took.const).mono (by omega) (Nat.le_refl _) (Nat.le_refl _), q.g.took.took.constant⟩
 ·exact q.mono (by omega) (Nat.le_refl _) (by omega)
theorem inStep_eq {s : List Int} {p : List Int} {k b : Nat} {x : List InD × MS} (h : nth p k = b) : inStep s p k x = (x.1 ++ [⟨b, nth (rowS s b x.2).1 (takeV s (rowS s b x.2).2.at_ (rowS s b x.2).1.length).toNat⟩], (rowS s b x.2).2.took) := by
 unfold inStep
 rw [h]
 rfl
theorem up_inStep {s : List Int} {n a p i : Nat} {pl : List Int} {x : List InD × MS} (q : P3 n a p i x.2) : ∀ k, P3 n (a + 6 * k) p (i + k) (up (inStep s pl) k x).2 ∧ (up (inStep s pl) k x).1.length = x.1.length + k
 | 0 => ⟨q, rfl⟩
 | k + 1 => by
  obtain ⟨h1, h2⟩ := up_inStep (pl := pl) q k
  have h3 := rowS_ok (s := s) (b := (nth pl k).toNat) h1
  refine ⟨?_, ?_⟩
  ·have e : (up (inStep s pl) (k + 1) x).2 = (rowS s (nth pl k).toNat (up (inStep s pl) k x).2).2.took := rfl
   rw [e]
   exact ⟨(h3.z.took).mono (by omega) (Nat.le_refl _) (by omega), h3.g.took⟩
  ·have e : (up (inStep s pl) (k + 1) x).1 = (up (inStep s pl) k x).1 ++ [⟨nth pl k, nth (rowS s (nth pl k).toNat (up (inStep s pl) k x).2).1 (takeV s (rowS s (nth pl k).toNat (up (inStep s pl) k x).2).2.at_ (rowS s (nth pl k).toNat (up (inStep s pl) k x).2).1.length).toNat⟩] := rfl
   rw [e, List.length_append, h2, List.length_singleton]; omega
theorem phi3_ok {s : List Int} {n a p i b j : Nat} {pl : List Int} {m : MS} (q : P3 n a p i m) (hp : pl.length ≤ 9) : P3 n (a + 54) p (i + 9) (phi3 s b pl j m) := by
 obtain ⟨h1, h2⟩ := up_inStep (s := s) (pl := pl) (x := ([], m)) q pl.length
 exact ⟨(h1.z.setIn).mono (by omega) (Nat.le_refl _) (by omega), h1.g.setIn (by rw [h2]; show 0 + _ ≤ _; omega)⟩
theorem up_phi3 {s : List Int} {n a p i b : Nat} {pl : List Int} {m : MS} (q : P3 n a p i m) (hp : pl.length ≤ 9) : ∀ k, P3 n (a + 54 * k) p (i + 9 * k) (up (phi3 s b pl) k m)
 | 0 => q
 | k + 1 => (phi3_ok (up_phi3 q hp k) hp).mono (by omega) (Nat.le_refl _) (by omega)
end Go.Proofs.Ytfelpjfopgiabaa
namespace Go.Proofs.Ytfelpjfopgiabaa
open Go Go.Lft
theorem rd_inD {H : View} {a b : Int} (ha : I64 a) (hb : I64 b) : Rd H (.agg #[.int .i64 a, .int .i64 b]) (InD.mk a b) := ⟨_, rfl, [.int .i64 a], [.int .i64 b], rfl, ⟨rfl, ha⟩, rfl, hb⟩
section
variable {s : List Int} {M : Nat} {vs : Value} {W0 : View} {h : Heap} {o0 : Own} {m : MS}
theorem Nx.addInts (x : Nx s M vs W0 h o0 m) {h' : Heap} {k : Key} {u : Value} {l : List Int} (h3 : 3 ≤ k.1) (hk : o0 k = none) (hle : (vw h).le (vw h')) (hb : ∀ b, u.ownBlock = some b → h.size ≤ b) (ho : OwnT nothing h' T.int u l) : Nx s M vs W0 h' (o0.upd k (it T.int u l)) m := by
 obtain ⟨W, o, g, w, f⟩ := x
 have w2 := w.own.add (k := k) ((f k h3).trans hk) (own_ints (W' := W) ho) hle hb
 obtain ⟨vb, vl, lb, bb⟩ := w.box
 refine ⟨W, _, g, ⟨w2, w.src, vb, vl, lb, bb.frame fun q hq => Own.upd_ne (by rintro rfl; omega)⟩, fun q hq => ?_⟩
 unfold Own.upd
 split
 ·rfl
 ·exact f q hq
theorem Nx.freeze {α : Type} [r : Rep α] {k : Key} {e : TypeId} {v : Value} {l : List α} (x : Nx s M vs W0 h (o0.upd k (it e v l)) m) (h3 : 3 ≤ k.1) (hk : o0 k = none) : ∃ W', W0.le W' ∧ Nx s M vs W' h o0 m ∧ SlRd W' v l := by
 obtain ⟨W, o, g, w, f⟩ := x
 have hk2 := (f k h3).trans Own.upd_self
 obtain ⟨w2, sl⟩ := w.own.freeze hk2
 have hWp := le_plus (h := h) (w.own.av _ _ hk2)
 obtain ⟨vb, vl, lb, bb⟩ := w.box
 refine ⟨_, View.le_trans g hWp, ⟨_, _, View.le_refl _, ⟨w2, w.src.mono hWp, vb, vl, lb, bb.frame fun q hq => Own.upd_ne (by rintro rfl; omega)⟩, fun q hq => ?_⟩, sl⟩
 by_cases e2 : q = k
 ·rw [e2, Own.upd_self, hk]
 ·rw [Own.upd_ne e2, f q hq, Own.upd_ne e2]
theorem Nx.do_push {po po2 : OP} {α : Type} [r : Rep α] {k : Key} {e t ty ty2 : TypeId} {bytes : Nat} {z : Value} {v : Value} {l : List α} (x : Nx s M vs W0 h o0 m) (h3 : 3 ≤ k.1) (hk : o0 k = it e v l) {a y y2 : Operand} {us : List (Nat × Value)} {us2 : Value → List (Nat × Value)} {u : Value} {d : α} {K : Value → Value → Heap → Prop} (hT : ElemT Try.prog t e (Rep.n α) bytes z) (hx : asg us a = u) (hr : ∀ W, Rd W u d)
  (hb : (l.length + 1) * bytes ≤ 140737488355328) (hb2 : l.length + 1 ≤ 140737488355328) (hy : ∀ u, asg (us2 u) y = v) (hy2 : ∀ u, asg (us2 u) y2 = u)
  (hK : ∀ u v' h', Nx s M vs W0 h' (o0.upd k (it e v' (l ++ [d]))) m → K u v' h') :
  @Lft.step po Try.prog (.buildSlice t 1 #[(0, a)]) ty us h fun u h2 => @Lft.step po2 Try.prog (.call ⟨.builtin .append, #[y, y2], #[t, t]⟩) ty2 (us2 u) h2 fun v' h3 => K u v' h3 := by
 obtain ⟨W, o, g, w, f⟩ := x
 refine w.own.do_push (k := k) (d := d) ((f k h3).trans hk) hT hx (hr W) hb hb2 hy hy2 fun u v' h' w2 _ => hK u v' h' ?_
 obtain ⟨vb, vl, lb, bb⟩ := w.box
 refine ⟨W, _, g, ⟨w2, w.src, vb, vl, lb, bb.frame fun q hq => Own.upd_ne (by rintro rfl; omega)⟩, fun q hq => ?_⟩
 unfold Own.upd
 split
 ·rfl
 ·exact f q hq
theorem made_l15 {n a p i b j : Nat} {vr vt vp vd vq vi : Value} {pl : List Int} (x : Nx s M vs W0 h (o0.upd (7, 2) (it T.api_In vi ([] : List InD))) m) (f71 : o0 (7, 1) = none) (q : P3 n a p i m) (hn : n ≤ 10) (ha : a ≤ 500000) (hia : i ≤ a) (hp : p ≤ 100) (hi : i ≤ 2000) (hq : SlRd W0 vq pl) (hpl : pl.length ≤ 9) (hpr : ∀ k, k < pl.length → ∃ c : Nat, nth pl k = c ∧ c < n) {Q : Post} {ρ : Env}
  (h0 : keepE [2, 3, 4, 5, 7, 11, 25, 26, 27, 28, 29] ρ = [(2, vr), (3, .pointer (some ⟨M, 0, none⟩)), (4, .int .i64 n), (5, vt), (7, vp), (11, vd), (25, .int .i64 b), (26, vq), (27, .int .i64 j), (28, vi), (29, .int .i64 0)])
  (hQ : ∀ (h' : Heap) vi, Nx s M vs W0 h' (o0.upd (7, 2) (it T.api_In vi (up (inStep s pl) pl.length ([], m)).1)) (up (inStep s pl) pl.length ([], m)).2 → Q .normal [(2, vr), (3, .pointer (some ⟨M, 0, none⟩)), (4, .int .i64 n), (5, vt), (7, vp), (11, vd), (25, .int .i64 b), (26, vq), (27, .int .i64 j), (28, vi), (29, .int .i64 pl.length)] h') :
  LC.wp Try.prog (.block 28 (.loop L.ref03_Made.l15)) Q ρ h := by
 simp only [lwp_block]
 refine lwp_for [2, 3, 4, 5, 7, 11, 25, 26, 27, 28, 29] (fun (vi : Value) k => [vr, .pointer (some ⟨M, 0, none⟩), .int .i64 n, vt, vp, vd, .int .i64 b, vq, .int .i64 j, vi, .int .i64 k]) (fun vi k h2 => Nx s M vs W0 h2 (o0.upd (7, 2) (it T.api_In vi (up (inStep s pl) k ([], m)).1)) (up (inStep s pl) k ([], m)).2) pl.length vi
  rfl (by omega) h0 x (fun _ _ => rfl) (fun v k h2 hk2 x2 => by simp [hq.len]) ?_ ?_
 ·rintro vi k h2 hlt x2 K2 hK2
  obtain ⟨q2, hl2⟩ := up_inStep (s := s) (pl := pl) (x := ([], m)) q k
  obtain ⟨c, hc, hcn⟩ := hpr k hlt
  have e2 : up (inStep s pl) (k + 1) ([], m) = inStep s pl k (up (inStep s pl) k ([], m)) := rfl
  rw [e2, inStep_eq hc] at hK2
  have hl2 : (up (inStep s pl) k ([], m)).1.length ≤ 9 := by rw [hl2]; simp; omega
  generalize up (inStep s pl) k ([], m) = y at x2 hK2 q2 hl2
  obtain ⟨il, m2⟩ := y
  have q2 : P3 n (a + 54) p (i + 9) m2 := P3.mono q2 (by omega) (Nat.le_refl _) (by omega)
  have hl2 : il.length ≤ 9 := hl2
  have x2 : Nx s M vs W0 h2 (o0.upd (7, 2) (it T.api_In vi il)) m2 := x2
  simp only at hK2
  have hcell : ∀ {h' : Heap}, W0.le (vw h') → cellH (vw h') ((slA vq).add k) = some (.int .i64 c) := fun g => by rw [hq.int g hlt, hc]
  have hcell0 : cellH W0 ((slA vq).add k) = some (.int .i64 c) := by rw [hq.int (View.le_refl _) hlt, hc]
  have hrow : rowS s c m2 = _ := rowS.eq_1 s c m2
  have hq3 := rowS_ok (s := s) (b := c) q2
  have hpos := rowS_pos (s := s) (b := c) (m := m2)
  have hrl0 := rowS_len (s := s) (b := c) q2.z hn (by omega) (by omega)
  simp only [lwp_block]
  refine lwp_hide fun y hy => ?_
  obtain ⟨vb, vl, rd⟩ := x2.z.reads
  refine drawn_at (vw h2) (View.le_refl _) ?_
  simp (disch := omega) [rd.f, (hq.mono x2.z.le).idx1 rfl, hcell x2.z.le]
  have hth : (thingsS m2.f).length ≤ 60000 := mkThings_len q2.z hn (by omega) (by omega)
  refine call_to (by kernel_rfl) (standing_ok (b := c) (rd.rd (i64ps q2.z)) (q2.g.smF q2.z (by omega) (by omega) (by omega)) ⟨q2.z.ps0, by have := q2.z.ps1; show m2.ps ≤ _; omega⟩ (by show c < m2.blocks.length; rw [q2.z.len]; exact hcn) (thTo_mks _) (by omega)) ?_
  rintro u3 h3 ⟨hle3, hb3, ho3⟩
  have x3 := x2.addInts (k := (7, 1)) (by decide) ((Own.upd_ne (by simp)).trans f71) hle3 hb3 ho3
  clear rd x2 ho3 hb3
  generalize standingS m2.f c = sl at x3 hrow
  rw [hy]; clear hy y
  refine lwp_hide fun y hy => ?_
  have fin : ∀ (v30 : Value) (h' : Heap) (ρ : Env), Nx s M vs W0 h' ((o0.upd (7, 2) (it T.api_In vi il)).upd (7, 1) (it T.int v30 (rowS s c m2).1)) (rowS s c m2).2 → Lft.look ρ 2 = some vr → Lft.look ρ 3 = some (.pointer (some ⟨M, 0, none⟩)) → Lft.look ρ 4 = some (.int .i64 n) → Lft.look ρ 5 = some vt → Lft.look ρ 7 = some vp → Lft.look ρ 11 = some vd → Lft.look ρ 25 = some (.int .i64 b) → Lft.look ρ 26 = some vq → Lft.look ρ 27 = some (.int .i64 j) → Lft.look ρ 28 = some vi → Lft.look ρ 29 = some (.int .i64 k) → Lft.look ρ 30 = some v30 →
    LC.wp Try.prog y (inBlk 29 (thenL K2 (inBlk 28 Q))) ρ h' := by
   intro v30 h' ρ x4 r2 r3 r4 r5 r7 r11 r25 r26 r27 r28 r29 r30
   rw [hy]; clear hy y
   generalize rowS s c m2 = r at x4 hK2 hq3 hpos hrl0
   obtain ⟨W4, hW4, x4, s4⟩ := x4.freeze (by decide) ((Own.upd_ne (by simp)).trans f71)
   have hrl := s4.bound
   refine drawn_at W4 x4.z.le ?_
   simp (disch := omega) [look_setE, look_kill, r2, r3, r4, r5, r7, r11, r25, r26, r27, r28, r29, r30, (hq.mono hW4).idx1 rfl, cellH_mono hW4 hcell0, s4.len]
   refine call_to (by kernel_rfl) (nz_take x4.z (hq3.z.ok (by omega)) (by omega) (k := (r.1.length : Int)) (by omega) (by omega)) ?_
   rintro _ h5 ⟨rfl, n5⟩
   refine ⟨n5.le, ?_⟩
   obtain ⟨t0, t1⟩ := takeV_rng (s := s) (at_ := r.2.at_) (n := (r.1.length : Int)) (by omega)
   generalize takeV s r.2.at_ (r.1.length : Int) = tv at t0 t1 hK2
   have hrng := s4.range (i := tv.toNat) (by omega)
   simp (disch := omega) [look_setE, look_kill, r2, r3, r4, r5, r7, r11, r25, r26, r27, r28, r29, r30, s4.idx1 rfl, s4.int (View.le_refl _)]
   refine do_build (z := .agg #[.int .i64 0, .int .i64 0]) (places := [(0, 1), (1, 1)]) (vs := [(0, .int .i64 c), (1, .int .i64 (nth r.1 tv.toNat))]) (cs := #[.int .i64 c, .int .i64 (nth r.1 tv.toNat)]) (by kernel_rfl) (by kernel_rfl) (by simp) (by rfl) ?_
   refine n5.x.do_push (k := (7, 2)) (α := InD) (d := ⟨c, nth r.1 tv.toNat⟩) (by decide) Own.upd_self El.s_api_In rfl (fun W => rd_inD ⟨by omega, by omega⟩ hrng) (by omega) (by omega) (fun _ => rfl) (fun _ => rfl) fun u v' h6 x6 => ?_
   refine hK2 v' _ _ ?_ ?_ ((x6.re fun q => by rw [upd_upd]).up hW4)
   ·simp [look_setE, look_kill, r29]
   ·simp [keepE, look_setE, look_kill, r2, r3, r4, r5, r7, r11, r25, r26, r27, r28, r29]
  have hsl := (x3.z.at (k := (7, 1)) (by decide) Own.upd_self).len (K := vw h3)
  have hlen3 : ∀ {Q : View}, Un.ev Q .len u3 = some (.int .i64 sl.length) := fun {Q} => (x3.z.at (k := (7, 1)) (by decide) Own.upd_self).len
  refine lwp_hide fun w hw => ?_
  simp [hlen3]
  rw [hw]; clear hw w
  by_cases c0 : sl.length = 0
  ·have c0' : sl = [] := List.eq_nil_of_length_eq_zero c0
   rw [if_pos c0] at hrow
   refine lwp_cond_t (by simp [c0, c0']) ?_
   refine drawn_at W0 x3.z.le ?_
   simp (disch := omega) [hq.idx1 rfl, hcell0]
   refine call_to (by kernel_rfl) (nz_word x3.z (q2.z.ok (by omega)) (by omega)) ?_
   rintro _ h4 ⟨rfl, n4⟩
   refine ⟨n4.le, ?_⟩
   refine call_to (by kernel_rfl) (nz_constant n4 (b := c) (by show c < m2.blocks.length; rw [q2.z.len]; exact hcn) (q2.z.took.took.ok (by omega)) (by omega) wordV_rng) ?_
   rintro _ h5 ⟨rfl, n5⟩
   have i64 : I64 m2.next := by have := q2.z.n0; have := q2.z.next; constructor <;> omega
   subst c0'
   refine n5.x.do_push (k := (7, 1)) (α := Int) (d := m2.next) (by decide) Own.upd_self El.s_int rfl (fun W => rd_int.2 ⟨rfl, i64⟩) (by simp) (by simp) (fun _ => rfl) (fun _ => rfl) fun u v' h6 x6 => ?_
   refine fin v' h6 _ ?_ ?_ ?_ ?_ ?_ ?_ ?_ ?_ ?_ ?_ ?_ ?_ ?_
   ·rw [hrow]
    exact x6.re fun q => by rw [upd_upd]; rfl
   all_goals simp
  ·rw [if_neg c0] at hrow
   have c0' : ¬ sl = [] := fun e => c0 (by rw [e]; rfl)
   refine lwp_cond_f (by simp [c0']) ?_
   simp
   refine fin u3 h3 _ ?_ ?_ ?_ ?_ ?_ ?_ ?_ ?_ ?_ ?_ ?_ ?_ ?_
   ·rw [hrow]; exact x3
   all_goals simp
 ·rintro vi h2 x2
  exact hQ h2 vi x2
end
end Go.Proofs.Ytfelpjfopgiabaa
