/- A part of the proof: LftO, LftI, Ga, La. -/
import Derived.Test.YtfelpjfopgiabaaZmany2
import Derived.Test.YtfelpjfopgiabaaProg
import Derived.KernelRfl
/- Several slices and variables of one's own, each apart from the others. -/
namespace Go.Lft
open Go
variable {po po2 po3 : OP} {pp : PP}
set_option linter.unusedSimpArgs false
set_option linter.unusedVariables false

/-- A value of one cell, as it is. -/
structure Raw where
  v : Value
instance : Rep Raw where
  n := 1
  agg := false
  rd := fun _ cs d => cs = [d.v] ∧ d.v.oneCell' = true
  mono := fun _ h => h
  len := fun h => by rw [h.1]; rfl
  one := fun _ => rfl
  flat := fun h u hu => by rw [h.1] at hu; simp at hu; subst hu; exact h.2
  pos := Nat.one_pos
  solid := fun h => h
instance : Inhabited Raw := ⟨⟨.bool false⟩⟩
theorem rd_raw {H : View} {v : Value} {d : Raw} : Rd H v d ↔ v = d.v ∧ d.v.oneCell' = true := by simp [Rd, Rep.agg, Rep.rd]
theorem At.raw {H : View} {a : Addr} {d : Raw} (h : At H a d) : cellH H a = some d.v := by
  obtain ⟨u, h1, h2⟩ := h.load rfl
  rw [(rd_raw.1 h2).1] at h1
  exact h1

/-- A STORE into a part of an element of a slice of one's own. -/
theorem do_setP {α β : Type} [Rep α] [Rep β] {off : Nat} {g : α → β} {s : α → β → α} (p : Part α β off g s) {P : Program} {W : View} {h : Heap} {e : TypeId} {v : Value} {l : List α} {t ty : TypeId} {x y : Operand} {us : List (Nat × Value)} {i : Nat} {u : Value} {d : β} {K : Value → Heap → Prop} (hsz : sizeB P t = some (Rep.n β))
    (hx : asg us x = .pointer (some (((slA v).add (i * Rep.n α)).add off))) (hy : asg us y = u) (ho : OwnT W h e v l) (hi : i < l.length) (hr : Rd W u d) (hk : ∀ h', h'.size = h.size → OwnT W h' e v (l.set i (s l[i] d)) → Moved h h' v v → K undef h') : @step po P (.store t x y) ty us h K := by
  obtain ⟨c1, c2, c3⟩ := rd_cells hr
  obtain ⟨hbd, xs, ⟨hxl, hown⟩, hel⟩ := ho
  have hf := p.fits
  refine step_of (po := po) (runs_skip fun w hw => ?_)
  subst hw
  rcases hown with ⟨rfl, hn⟩ | ⟨gb, cap, cur, rfl, hg, h1, h2, h3, h4⟩
  · omega
  · have hle : i * Rep.n α + Rep.n α ≤ l.length * Rep.n α := by rw [← Nat.succ_mul]; exact Nat.mul_le_mul_right _ hi
    have hcap : l.length * Rep.n α ≤ cap * Rep.n α := Nat.mul_le_mul_right _ h1
    have hlen : u.cells.toList.length = Rep.n β := by simpa using c2
    have hrun := run_storeCells_at P gb (i * Rep.n α + off) e u.cells.toList 0 cur w hg (by simp only [Nat.add_zero]; omega) c3
    have hadd : ((slA (.slice (some ⟨gb, 0, none⟩) l.length cap)).add (i * Rep.n α)).add off = ⟨gb, i * Rep.n α + off, none⟩ := by
      show ((⟨gb, 0, none⟩ : Addr).add _).add _ = _
      simp [Addr.z]
    have hszr := run_sizeOf (P := P) (w := w) hsz
    obtain ⟨row, hrow⟩ : ∃ row : Array Value, row.toList = cur.toList.take (i * Rep.n α + off) ++ u.cells.toList ++ cur.toList.drop (i * Rep.n α + off + Rep.n β) := ⟨(cur.toList.take (i * Rep.n α + off) ++ u.cells.toList ++ cur.toList.drop (i * Rep.n α + off + Rep.n β)).toArray, rfl⟩
    have hrun' : Sem.run P (storeCells ⟨gb, i * Rep.n α + off, none⟩ u.cells.toList) w = .ok () (w.setRow gb row) := by
      rw [hrun]; congr 2
      rw [← Array.toList_inj, hrow, hlen]; rfl
    have hrsz : row.size = cap * Rep.n α := by
      have := congrArg List.length hrow
      simp only [Array.length_toList, List.length_append, List.length_take, List.length_drop, c2] at this
      omega
    refine ⟨w.setRow gb row, ?_, Same.of_row rfl rfl rfl (by simp) hg (by simp) (fun k _ hne => setRow_other w gb k _ (fun e => hne e)), hk (w.setRow gb row).heap (by simp) ⟨by simpa using hbd, xs.take (i * Rep.n α + off) ++ u.cells.toList ++ xs.drop (i * Rep.n α + off + Rep.n β), ⟨?_, .inr ⟨gb, cap, row, by simp, setRow_heap w gb cur row e _ hg, by simpa using h1, h2, ?_, ?_⟩⟩, ?_⟩ ⟨⟨by simp, fun k hk hne => setRow_other w gb k _ (fun e => hne (by simp [Value.ownBlock, e]))⟩, .inl rfl⟩⟩
    · simp only [loudSem, execOp, hx, hy, hadd]
      simp [Instr.storeAt, Instr.sureAddr, storeVar, hszr, c2, hrun']
    · simp only [List.length_append, List.length_take, List.length_drop, hlen, List.length_set]; omega
    · exact hrsz
    · simp only [List.length_set]
      rw [hrow, ← h4, List.take_take, Nat.min_eq_left (by omega), List.append_assoc, List.append_assoc]
      have e1 : (cur.toList.take (i * Rep.n α + off)).length = i * Rep.n α + off := by simp; omega
      rw [List.take_append, e1, List.take_of_length_le (by omega)]
      congr 1
      rw [List.take_append, hlen, List.take_of_length_le (by omega)]
      congr 1
      rw [List.drop_take]
      congr 1
      omega
    · intro j hj
      simp only [List.length_set] at hj
      have hjle : j * Rep.n α + Rep.n α ≤ l.length * Rep.n α := by rw [← Nat.succ_mul]; exact Nat.mul_le_mul_right _ hj
      have e1 : (xs.take (i * Rep.n α + off)).length = i * Rep.n α + off := by simp; omega
      by_cases hij : i = j
      · subst hij
        have hset : (l.set i (s l[i] d))[i]'(by simpa using hj) = s l[i] d := by simp
        rw [hset]
        have := p.set (hel i hj) c1
        have hcs : ((xs.drop (i * Rep.n α)).take (Rep.n α)).length = Rep.n α := by simp; omega
        have e3 : ((xs.take (i * Rep.n α + off) ++ u.cells.toList ++ xs.drop (i * Rep.n α + off + Rep.n β)).drop (i * Rep.n α)).take (Rep.n α) = ((xs.drop (i * Rep.n α)).take (Rep.n α)).take off ++ u.cells.toList ++ ((xs.drop (i * Rep.n α)).take (Rep.n α)).drop (off + Rep.n β) := by
          rw [List.append_assoc, List.drop_append_of_le_length (by omega), List.drop_take, Nat.add_sub_cancel_left, List.take_take, Nat.min_eq_left (by omega), List.append_assoc]
          have e4 : ((xs.drop (i * Rep.n α)).take off).length = off := by simp; omega
          rw [List.take_append, e4, List.take_of_length_le (by omega)]
          congr 1
          rw [List.take_append, hlen, List.take_of_length_le (by omega)]
          congr 1
          rw [List.drop_take, List.drop_drop]
          rw [show i * Rep.n α + (off + Rep.n β) = i * Rep.n α + off + Rep.n β by omega, show Rep.n α - off - Rep.n β = Rep.n α - (off + Rep.n β) by omega]
        rw [e3]; exact this
      · have hset : (l.set i (s l[i] d))[j]'(by simpa using hj) = l[j] := by simp [hij]
        rw [hset]
        have : ((xs.take (i * Rep.n α + off) ++ u.cells.toList ++ xs.drop (i * Rep.n α + off + Rep.n β)).drop (j * Rep.n α)).take (Rep.n α) = (xs.drop (j * Rep.n α)).take (Rep.n α) := by
          rcases Nat.lt_or_ge j i with hlt | hge
          · have h5 : j * Rep.n α + Rep.n α ≤ i * Rep.n α := by rw [← Nat.succ_mul]; exact Nat.mul_le_mul_right _ hlt
            rw [List.append_assoc, List.drop_append_of_le_length (by omega), List.take_append_of_le_length (by simp; omega), List.drop_take, List.take_take, Nat.min_eq_left (by omega)]
          · have h5 : i * Rep.n α + Rep.n α ≤ j * Rep.n α := by rw [← Nat.succ_mul]; exact Nat.mul_le_mul_right _ (by omega)
            have e2 : (xs.take (i * Rep.n α + off) ++ u.cells.toList).length = i * Rep.n α + off + Rep.n β := by rw [List.length_append, e1, hlen]
            rw [List.drop_append, List.drop_eq_nil_of_le (by omega), List.nil_append, e2, List.drop_drop]
            congr 2
            omega
        rw [this]
        exact hel j hj

/-! ### Several of them -/
abbrev Key := Nat × Nat
structure Item where
  α : Type
  rep : Rep α
  e : TypeId
  v : Value
  l : List α
abbrev Own := Key → Option Item
/-- A slice. -/
def it {α : Type} [r : Rep α] (e : TypeId) (v : Value) (l : List α) : Option Item := some ⟨α, r, e, v, l⟩
/-- A variable in memory. -/
def bx {α : Type} [r : Rep α] (e : TypeId) (B : Nat) (d : α) : Option Item := some ⟨α, r, e, .slice (some ⟨B, 0, none⟩) 1 1, [d]⟩
def Own.upd (o : Own) (k : Key) (i : Option Item) : Own := fun j => if j = k then i else o j
structure Owns (W : View) (h : Heap) (o : Own) : Prop where
  wle : W.le (vw h)
  own : ∀ k i, o k = some i → @OwnT i.α i.rep W h i.e i.v i.l
  av : ∀ k i, o k = some i → Av W i.v
  dj : ∀ k k' i i' b, o k = some i → o k' = some i' → i.v.ownBlock = some b → i'.v.ownBlock = some b → k = k'

section
variable {W : View} {h h' : Heap} {o : Own} {k : Key}
theorem Owns.congr {o' : Own} (w : Owns W h o) (he : ∀ k, o' k = o k) : Owns W h o' := by
  have : o' = o := funext he
  rw [this]; exact w
theorem Owns.start (hw : W.le (vw h)) : Owns W h (fun _ => .none) := ⟨hw, fun _ _ h => (by cases h), fun _ _ h => (by cases h), fun _ _ _ _ _ h => (by cases h)⟩
theorem Owns.get {α : Type} [r : Rep α] {e : TypeId} {v : Value} {l : List α} (w : Owns W h o) (hk : o k = it e v l) : OwnT W h e v l := w.own k _ hk
theorem Owns.now {α : Type} [r : Rep α] {e : TypeId} {v : Value} {l : List α} (w : Owns W h o) (hk : o k = it e v l) : SlRd (vw h) v l := (w.get hk).now w.wle
theorem Owns.at {α : Type} [r : Rep α] {e : TypeId} {B : Nat} {d : α} (w : Owns W h o) (hk : o k = bx e B d) : At (vw h) ⟨B, 0, .none⟩ d := by
  have : SlRd (vw h) (.slice (some ⟨B, 0, .none⟩) 1 1) [d] := w.now (k := k) hk
  have := this.at (i := 0) (by simp)
  simpa [slA] using this
theorem Owns.cells {α : Type} [r : Rep α] {e : TypeId} {v : Value} {l : List α} (w : Owns W h o) (hk : o k = it e v l) : v.cells = #[v] ∧ v.oneCell' = true := by
  have := (w.get hk).len (K := nothing)
  cases v <;> first | exact ⟨rfl, rfl⟩ | (simp [Un.ev, vL] at this)
theorem Owns.lt {i : Item} (w : Owns W h o) (hk : o k = some i) {b : Nat} (hb : i.v.ownBlock = some b) : b < h.size := @OwnT.lt i.α i.rep _ _ _ _ _ (w.own k i hk) _ hb

theorem Owns.ext' (w : Owns W h o) (hle : (vw h).le (vw h')) : Owns W h' o :=
  ⟨View.le_trans w.wle hle, fun k i hk => @OwnT.ext i.α i.rep _ _ _ _ _ _ (w.own k i hk) hle, w.av, w.dj⟩
theorem Owns.ext (w : Owns W h o) (hle : (vw h).le (vw h')) : Owns (grow W h h') h' o :=
  ⟨grow_le (View.le_trans w.wle hle), fun k i hk => @OwnT.mono i.α i.rep _ _ _ _ _ (@OwnT.ext i.α i.rep _ _ _ _ _ _ (w.own k i hk) hle) _ (le_grow w.wle),
    fun k i hk => (w.av k i hk).grow fun b hb => w.lt hk hb, w.dj⟩
theorem Owns.widen {W' : View} (w : Owns W h o) (h1 : W.le W') (h2 : W'.le (vw h)) (h3 : ∀ k i b, o k = some i → i.v.ownBlock = some b → W' b = .none) : Owns W' h o :=
  ⟨h2, fun k i hk => @OwnT.mono i.α i.rep _ _ _ _ _ (w.own k i hk) _ h1, fun k i hk b hb => h3 k i b hk hb, w.dj⟩
/-- Some of them alone. -/
theorem Owns.sub {o' : Own} (w : Owns W h o) (hs : ∀ k i, o' k = some i → o k = some i) : Owns W h o' :=
  ⟨w.wle, fun k i hk => w.own k i (hs k i hk), fun k i hk => w.av k i (hs k i hk), fun k k' i i' b hk hk' => w.dj k k' i i' b (hs k i hk) (hs k' i' hk')⟩

/-- One of them has been written, and has moved perhaps. -/
theorem Owns.moved {i : Item} {β : Type} [rb : Rep β] {e2 : TypeId} {v' : Value} {l' : List β} (w : Owns W h o) (hk : o k = some i) (o2 : OwnT W h' e2 v' l') (m : Moved h h' i.v v') : Owns W h' (o.upd k (it e2 v' l')) := by
  obtain ⟨w1, a1⟩ := m.view w.wle (w.av k i hk)
  have new : ∀ (y : Item) (q : Key) (b : Nat), o q = some y → y.v.ownBlock = some b → v'.ownBlock = some b → q = k := fun y q b hq hb hv => by
    rcases m.at_ with e | e
    · exact w.dj q k y i b hq hk hb (e ▸ hv)
    · rw [e] at hv
      simp only [Option.some.injEq] at hv
      have := w.lt hq hb; omega
  refine ⟨w1, fun j x hj => ?_, fun j x hj => ?_, fun j j' x x' b hj hj' hb hb' => ?_⟩
  · unfold Own.upd at hj
    split at hj
    · cases hj; exact o2
    · rename_i hjk
      refine @OwnT.kept x.α x.rep _ _ _ _ _ _ (w.own j x hj) _ m.kept ?_
      cases hx : x.v.ownBlock with
      | none => exact .inl rfl
      | some b => exact .inr fun e => hjk (w.dj j k x i b hj hk hx e.symm)
  · unfold Own.upd at hj
    split at hj
    · cases hj; exact a1
    · exact (m.view w.wle (w.av k i hk) |>.1 : _) |> fun _ => w.av j x hj
  · unfold Own.upd at hj hj'
    split at hj
    · rename_i a
      cases hj
      split at hj'
      · rename_i c; rw [a, c]
      · rw [a]; exact (new x' j' b hj' hb' hb).symm
    · split at hj'
      · rename_i c
        cases hj'
        rw [c]; exact new x j b hj hb hb'
      · exact w.dj j j' x x' b hj hj' hb hb'
/-- A new one. -/
theorem Owns.add {β : Type} [rb : Rep β] {e2 : TypeId} {v' : Value} {l' : List β} (w : Owns W h o) (hk : o k = .none) (o2 : OwnT W h' e2 v' l') (hle : (vw h).le (vw h')) (hb : ∀ b, v'.ownBlock = some b → h.size ≤ b) : Owns W h' (o.upd k (it e2 v' l')) := by
  have w1 := w.ext' hle
  refine ⟨w1.wle, fun j x hj => ?_, fun j x hj => ?_, fun j j' x x' b hj hj' hb1 hb2 => ?_⟩
  · unfold Own.upd at hj
    split at hj
    · cases hj; exact o2
    · exact w1.own j x hj
  · unfold Own.upd at hj
    split at hj
    · cases hj; intro b hb'; exact View.none_of_ge w.wle (hb b hb')
    · exact w.av j x hj
  · unfold Own.upd at hj hj'
    split at hj
    · rename_i a
      cases hj
      split at hj'
      · rename_i c; rw [a, c]
      · have := w.lt hj' hb2; have := hb b hb1; omega
    · split at hj'
      · cases hj'
        have := w.lt hj hb1; have := hb b hb2; omega
      · exact w.dj j j' x x' b hj hj' hb1 hb2
theorem Own.upd_self {i : Option Item} : o.upd k i k = i := by simp [Own.upd]
theorem Own.upd_ne {i : Option Item} {j : Key} (hj : j ≠ k) : o.upd k i j = o j := by simp [Own.upd, hj]

/-- A block that is a variable: one's own. -/
theorem ownT_box {β : Type} [Rep β] {B : Nat} {e : TypeId} {v : Value} {d : β} (hb : h[B]? = some (.cells v.cells e (0, 0))) (hr : Rd W v d) (hn : Rep.n β ≤ 1000) : OwnT W h e (.slice (some ⟨B, 0, .none⟩) 1 1) [d] := by
  obtain ⟨c1, c2, c3⟩ := rd_cells hr
  refine ⟨by simp, v.cells.toList, ⟨by simp [c2], .inr ⟨B, 1, v.cells, rfl, hb, Nat.le_refl _, by simp [maxLen], by omega, ?_⟩⟩, fun i hi => ?_⟩
  · rw [List.take_of_length_le]; simp [c2]
  · have : i = 0 := by simpa using hi
    subst this
    simp only [Nat.zero_mul, List.drop_zero, List.getElem_cons_zero]
    rw [List.take_of_length_le (by simp [c2])]; exact c1

/-! ### Operations -/
section
variable {P : Program} {ty : TypeId} {us : List (Nat × Value)} {α : Type} [r : Rep α] {e : TypeId} {v : Value} {l : List α}

theorem Owns.do_append {t : TypeId} {bytes : Nat} {z : Value} {x y : Operand} {u : Value} {l2 : List α} {K : Value → Heap → Prop} (w : Owns W h o) (hk : o k = it e v l) (hT : ElemT P t e (Rep.n α) bytes z) (hx : asg us x = v) (hy : asg us y = u)
    (hs : SrcT (vw h) W u l2) (hb : (l.length + l2.length) * bytes ≤ 140737488355328) (hb2 : l.length + l2.length ≤ 140737488355328)
    (hK : ∀ v' h', Owns W h' (o.upd k (it e v' (l ++ l2))) → Moved h h' v v' → K v' h') : @step po P (.call ⟨.builtin .append, #[x, y], #[t, t]⟩) ty us h K :=
  Lft.do_append hT hx hy (w.get hk) hs hb hb2 fun v' h' o2 m => hK v' h' (w.moved hk o2 m) m
/-- append(v, x). -/
theorem Owns.do_push {t ty2 : TypeId} {bytes : Nat} {z : Value} {x y y2 : Operand} {us2 : Value → List (Nat × Value)} {u : Value} {d : α} {K : Value → Value → Heap → Prop} (w : Owns W h o) (hk : o k = it e v l) (hT : ElemT P t e (Rep.n α) bytes z) (hx : asg us x = u) (hr : Rd W u d)
    (hb : (l.length + 1) * bytes ≤ 140737488355328) (hb2 : l.length + 1 ≤ 140737488355328) (hy : ∀ u, asg (us2 u) y = v) (hy2 : ∀ u, asg (us2 u) y2 = u)
    (hK : ∀ u v' h', Owns W h' (o.upd k (it e v' (l ++ [d]))) → h.size ≤ h'.size → K u v' h') :
    @step po P (.buildSlice t 1 #[(0, x)]) ty us h fun u h2 => @step po2 P (.call ⟨.builtin .append, #[y, y2], #[t, t]⟩) ty2 (us2 u) h2 fun v' h3 => K u v' h3 := by
  refine do_one (po := po) hT hx hr fun u h2 hs hle hsz => ?_
  exact (w.ext' hle).do_append hk hT (hy u) (hy2 u) hs hb hb2 fun v' h3 w3 m => hK u v' h3 w3 (by have := m.kept.size; omega)
theorem Owns.do_put {t : TypeId} {x y : Operand} {i : Nat} {u : Value} {d : α} {K : Value → Heap → Prop} (w : Owns W h o) (hk : o k = it e v l) (hsz : sizeB P t = some (Rep.n α)) (hx : asg us x = .pointer (some ((slA v).add (i * Rep.n α)))) (hy : asg us y = u) (hi : i < l.length) (hr : Rd W u d)
    (hK : ∀ h', Owns W h' (o.upd k (it e v (l.set i d))) → h'.size ≥ h.size → K undef h') : @step po P (.store t x y) ty us h K :=
  do_set (po := po) hsz hx hy (w.get hk) hi hr fun h' o2 m => hK h' (w.moved hk o2 m) m.kept.size
/-- A part of an element. -/
theorem Owns.do_part {β : Type} [Rep β] {off : Nat} {g : α → β} {s : α → β → α} (p : Part α β off g s) {t : TypeId} {x y : Operand} {i : Nat} {u : Value} {d : β} {K : Value → Heap → Prop} (w : Owns W h o) (hk : o k = it e v l) (hsz : sizeB P t = some (Rep.n β)) (hx : asg us x = .pointer (some (((slA v).add (i * Rep.n α)).add off))) (hy : asg us y = u) (hi : i < l.length) (hr : Rd W u d)
    (hK : ∀ h', Owns W h' (o.upd k (it e v (l.set i (s l[i] d)))) → h'.size = h.size → K undef h') : @step po P (.store t x y) ty us h K :=
  do_setP (po := po) p hsz hx hy (w.get hk) hi hr fun h' hs o2 m => hK h' (w.moved hk o2 m) hs
/-- A part of a variable. -/
theorem Owns.do_field {β : Type} [Rep β] {off : Nat} {g : α → β} {s : α → β → α} (p : Part α β off g s) {t : TypeId} {x y : Operand} {B : Nat} {D : α} {u : Value} {d : β} {K : Value → Heap → Prop} (w : Owns W h o) (hk : o k = bx e B D) (hsz : sizeB P t = some (Rep.n β)) (hx : asg us x = .pointer (some ⟨B, off, .none⟩)) (hy : asg us y = u) (hr : Rd W u d)
    (hK : ∀ h', Owns W h' (o.upd k (bx e B (s D d))) → h'.size = h.size → K undef h') : @step po P (.store t x y) ty us h K :=
  w.do_part (po := po) (v := .slice (some ⟨B, 0, .none⟩) 1 1) (l := [D]) (i := 0) p hk hsz (by rw [hx]; simp [slA, Addr.z]) hy (by simp) hr fun h' w' hs => hK h' w' hs
end
end
theorem fresh_in {W : View} {h0 h1 h2 h3 : Heap} (hs : h0.size ≤ h1.size) (hle : (vw h2).le (vw h3)) : (fresh h1 h2).le (grow W h0 h3) := fun b o hb => by
  unfold fresh at hb
  split at hb
  · cases hb
  · unfold grow; rw [if_neg (by omega)]; exact hle b o hb
theorem grow_mono {W : View} {h0 h1 h2 : Heap} (hle : (vw h1).le (vw h2)) : (grow W h0 h1).le (grow W h0 h2) := fun b o hb => by
  unfold grow at hb ⊢
  split
  · rename_i hlt; rw [if_pos hlt] at hb; exact hb
  · rename_i hlt; rw [if_neg hlt] at hb; exact hle b o hb
theorem grow_new {W : View} {h0 h1 : Heap} {b : Nat} (hb : h0.size ≤ b) : grow W h0 h1 b = h1[b]? := by unfold grow; rw [if_neg (by omega)]

/-- A part, and one's own slice besides, that is written no more. -/
def View.plus (W : View) (v : Value) (h : Heap) : View := fun b => if v.ownBlock = some b then h[b]? else W b
theorem le_plus {W : View} {v : Value} {h : Heap} (ha : Av W v) : W.le (W.plus v h) := fun b o hb => by
  unfold View.plus
  split
  · rename_i e; rw [ha b e] at hb; cases hb
  · exact hb
theorem plus_le {W : View} {v : Value} {h : Heap} (hw : W.le (vw h)) : (W.plus v h).le (vw h) := fun b o hb => by
  unfold View.plus at hb
  split at hb
  · exact hb
  · exact hw b o hb
theorem Owns.freeze {W : View} {h : Heap} {o : Own} {k : Key} {α : Type} [r : Rep α] {e : TypeId} {v : Value} {l : List α} (w : Owns W h o) (hk : o k = it e v l) : Owns (W.plus v h) h (o.upd k .none) ∧ SlRd (W.plus v h) v l := by
  have ha : Av W v := w.av k _ hk
  constructor
  · refine (w.sub (o' := o.upd k .none) fun j i hj => ?_).widen (le_plus ha) (plus_le w.wle) fun j i b hj hb => ?_
    · unfold Own.upd at hj
      split at hj
      · cases hj
      · exact hj
    · unfold Own.upd at hj
      split at hj
      · cases hj
      · rename_i hjk
        unfold View.plus
        rw [if_neg]
        · exact w.av j i hj b hb
        · intro e2; exact hjk (w.dj j k i _ b hj hk hb e2)
  · refine (w.get hk).rd (le_plus ha) fun b hb => ?_
    unfold View.plus; rw [if_pos hb]

/-- An empty slice literal. -/
theorem do_lit0 {α : Type} [Rep α] {P : Program} {t e : TypeId} {bytes : Nat} {z : Value} {ty : TypeId} {us : List (Nat × Value)} {h : Heap} {K : Value → Heap → Prop} (hT : ElemT P t e (Rep.n α) bytes z)
    (hk : ∀ h', (vw h).le (vw h') → h'.size = h.size + 1 → (∀ W, OwnT (α := α) W h' e (.slice (some ⟨h.size, 0, none⟩) 0 0) []) → K (.slice (some ⟨h.size, 0, none⟩) 0 0) h') : @step po P (.buildSlice t 0 #[]) ty us h K := by
  refine do_lits (n := 0) (size := Rep.n α) (vs := []) (cs := #[]) hT (by omega) (by simp) (by simp only [Instr.fill, Nat.zero_mul]; rw [show Array.range 0 = #[] by simp [Array.range_zero'], Array.map_empty]) (hk _ (push_le _ _) (by simp) fun W => ⟨by simp, [], ⟨by simp, .inr ⟨h.size, 0, #[], rfl, by simp, Nat.le_refl _, by simp [maxLen], by simp, by simp⟩⟩, fun i hi => by simp at hi⟩)
theorem Mine.empty {α : Type} [Rep α] {V W : View} {h0 h h' : Heap} {e : TypeId} (hle : (vw h0).le (vw h)) (hle2 : (vw h).le (vw h')) (hW : W.le (vw h)) (ho : Old V h0 W) (own : ∀ W, OwnT (α := α) W h' e (.slice (some ⟨h.size, 0, none⟩) 0 0) []) : Mine (α := α) V h0 h' W e (.slice (some ⟨h.size, 0, none⟩) 0 0) [] :=
  ⟨View.le_trans hle hle2, View.le_trans hW hle2, fun b hb => by cases hb; exact View.none_of_ge hW (Nat.le_refl _), fun b hb => by cases hb; exact View.none_of_ge hle (Nat.le_refl _), ho, own W⟩

theorem Owns.atW {W : View} {h : Heap} {o : Own} {k : Key} {α : Type} [r : Rep α] {e : TypeId} {B : Nat} {d : α} (w : Owns W h o) (hk : o k = bx e B d) : ∃ cs, cellsAt (vw h) ⟨B, 0, none⟩ cs ∧ Rep.rd W cs d := by
  obtain ⟨hb, xs, ⟨hl, hown⟩, hel⟩ := w.get (k := k) (v := .slice (some ⟨B, 0, none⟩) 1 1) (l := [d]) hk
  have h0 := hel 0 (by simp)
  simp only [Nat.zero_mul, List.drop_zero, List.getElem_cons_zero, List.length_singleton, Nat.one_mul] at h0 hl
  rw [List.take_of_length_le (by omega)] at h0
  rcases hown with ⟨h1, _⟩ | ⟨g, cap, cur, h1, h2, h3, h4, h5, h6⟩
  · cases h1
  · simp only [Value.slice.injEq, Option.some.injEq, Addr.mk.injEq] at h1
    obtain ⟨⟨rfl, _⟩, _⟩ := h1
    refine ⟨xs, ⟨cur, e, (0, 0), rfl, h2, ?_⟩, h0⟩
    rw [hl, List.drop_zero]
    simpa using h6
/-- A part of them alone stands, whatever is written. -/
theorem Owns.do_pushM {W : View} {h : Heap} {o : Own} {k : Key} {P : Program} {ty : TypeId} {us : List (Nat × Value)} {α : Type} [r : Rep α] {e : TypeId} {v : Value} {l : List α} {t ty2 : TypeId} {bytes : Nat} {z : Value} {x y y2 : Operand} {us2 : Value → List (Nat × Value)} {u : Value} {d : α} {K : Value → Value → Heap → Prop} (w : Owns W h o) (hk : o k = it e v l) (hT : ElemT P t e (Rep.n α) bytes z) (hx : asg us x = u) (hr : Rd W u d)
    (hb : (l.length + 1) * bytes ≤ 140737488355328) (hb2 : l.length + 1 ≤ 140737488355328) (hy : ∀ u, asg (us2 u) y = v) (hy2 : ∀ u, asg (us2 u) y2 = u)
    (hK : ∀ u v' h', Owns W h' (o.upd k (it e v' (l ++ [d]))) → (∀ X : View, X.le (vw h) → Av X v → X.le (vw h') ∧ Av X v') → K u v' h') :
    @step po P (.buildSlice t 1 #[(0, x)]) ty us h fun u h2 => @step po2 P (.call ⟨.builtin .append, #[y, y2], #[t, t]⟩) ty2 (us2 u) h2 fun v' h3 => K u v' h3 := by
  refine do_one (po := po) hT hx hr fun u h2 hs hle hsz => ?_
  exact (w.ext' hle).do_append hk hT (hy u) (hy2 u) hs hb hb2 fun v' h3 w3 m => hK u v' h3 w3 fun X hX hA => m.view (View.le_trans hX hle) hA
theorem Owns.do_fieldM {W : View} {h : Heap} {o : Own} {k : Key} {P : Program} {ty : TypeId} {us : List (Nat × Value)} {α β : Type} [r : Rep α] [Rep β] {e : TypeId} {off : Nat} {g : α → β} {s : α → β → α} (p : Part α β off g s) {t : TypeId} {x y : Operand} {B : Nat} {D : α} {u : Value} {d : β} {K : Value → Heap → Prop} (w : Owns W h o) (hk : o k = bx e B D) (hsz : sizeB P t = some (Rep.n β)) (hx : asg us x = .pointer (some ⟨B, off, .none⟩)) (hy : asg us y = u) (hr : Rd W u d)
    (hK : ∀ h', Owns W h' (o.upd k (bx e B (s D d))) → (∀ X : View, X.le (vw h) → X B = .none → X.le (vw h')) → K undef h') : @step po P (.store t x y) ty us h K :=
  do_setP (po := po) p (v := .slice (some ⟨B, 0, .none⟩) 1 1) (l := [D]) (i := 0) hsz (by rw [hx]; simp [slA, Addr.z]) hy (w.get (k := k) (v := .slice (some ⟨B, 0, .none⟩) 1 1) (l := [D]) hk) (by simp) hr fun h' hs o2 m => hK h' (w.moved hk o2 m) fun X hX hB => (m.view hX fun b hb => by simp only [Value.ownBlock, Option.some.injEq] at hb; subst hb; exact hB).1

theorem lwp_cond_t {P : Program} {c : E} {kill : List Nat} {x y : LC} {Q : Post} {ρ : Env} {h : Heap} (hc : ev (look ρ) (vw h) c = some (.bool true)) (hx : x.wp P Q (killE ρ kill) h) : LC.wp P (.cond c kill x y) Q ρ h := by
  rw [lwp_cond, hc, condP_true]; exact hx
theorem lwp_cond_f {P : Program} {c : E} {kill : List Nat} {x y : LC} {Q : Post} {ρ : Env} {h : Heap} (hc : ev (look ρ) (vw h) c = some (.bool false)) (hy : y.wp P Q (killE ρ kill) h) : LC.wp P (.cond c kill x y) Q ρ h := by
  rw [lwp_cond, hc, condP_false]; exact hy
end Go.Lft

/- Variables cell by cell; copies. -/
namespace Go.Lft
open Go
variable {po po2 po3 : OP} {pp : PP}
set_option linter.unusedSimpArgs false
set_option linter.unusedVariables false

/-- Values of n + 1 cells, as they are. -/
structure RawN (n : Nat) where
  l : List Value
instance {n : Nat} : Rep (RawN n) where
  n := n + 1
  agg := true
  rd := fun _ cs d => cs = d.l ∧ cs.length = n + 1 ∧ ∀ u ∈ cs, u.oneCell' = true
  mono := fun _ h => h
  len := fun h => h.2.1
  one := fun h => by cases h
  flat := fun h u hu => h.2.2 u hu
  pos := Nat.succ_pos _
  solid := fun h => h
theorem rd_rawN {n : Nat} {H : View} {l : List Value} (h1 : l.length = n + 1) (h2 : ∀ u ∈ l, u.oneCell' = true) : Rd H (.agg l.toArray) (RawN.mk (n := n) l) := by
  unfold Rd
  rw [if_pos (show Rep.agg (RawN n) = true from rfl)]
  exact ⟨_, rfl, rfl, h1, h2⟩
theorem RawN.p {n o : Nat} (ho : o ≤ n) : Part (RawN n) Raw o (fun d => ⟨d.l.getD o undef⟩) (fun d x => ⟨d.l.set o x.v⟩) where
  fits := by show o + 1 ≤ n + 1; omega
  get := by
    rintro H cs d ⟨rfl, h1, h2⟩
    have hlt : o < d.l.length := by omega
    have e : (d.l.drop o).take (Rep.n Raw) = [d.l.getD o undef] := by
      have : d.l.getD o undef = d.l[o] := by simp [hlt]
      rw [this]
      show (d.l.drop o).take 1 = _
      rw [List.drop_eq_getElem_cons hlt]; rfl
    refine ⟨e, ?_⟩
    have : d.l.getD o undef = d.l[o] := by simp [hlt]
    show (d.l.getD o undef).oneCell' = true
    rw [this]; exact h2 _ (List.getElem_mem hlt)
  set := by
    rintro H cs us d x ⟨rfl, h1, h2⟩ ⟨rfl, h3⟩
    have hlt : o < d.l.length := by omega
    have e : d.l.take o ++ [x.v] ++ d.l.drop (o + Rep.n Raw) = d.l.set o x.v := by
      show d.l.take o ++ [x.v] ++ d.l.drop (o + 1) = _
      rw [List.set_eq_take_append_cons_drop, if_pos hlt]; simp
    refine ⟨e, by simp [e, h1], fun u hu => ?_⟩
    rw [e] at hu
    rcases List.mem_or_eq_of_mem_set hu with h | rfl
    · exact h2 _ h
    · exact h3
section
variable {W : View} {h : Heap} {o : Own} {k : Key}
/-- A cell of a variable. -/
theorem Owns.raw {n : Nat} {e : TypeId} {B : Nat} {l : List Value} (w : Owns W h o) (hk : o k = bx e B (RawN.mk (n := n) l)) {i : Nat} (hi : i ≤ n) : cellH (vw h) ⟨B, i, none⟩ = some (l.getD i undef) := by
  have := ((w.at hk).part (RawN.p hi)).raw
  simpa using this
/-- The whole of it. -/
theorem Owns.rawAll {n : Nat} {e : TypeId} {B : Nat} {l : List Value} (w : Owns W h o) (hk : o k = bx e B (RawN.mk (n := n) l)) : Un.ev (vw h) (.loads (n + 1)) (.pointer (some ⟨B, 0, none⟩)) = some (.agg l.toArray) := by
  obtain ⟨cs, hcs, he, h1, h2⟩ := w.atW hk
  have he : cs = l := he
  subst he
  have h1 : cs.length = n + 1 := h1
  have := cellsFrom_at hcs (n + 1) 0 #[] (by omega)
  simp only [Un.ev, vP, Option.bind_some]
  rw [this]
  simp [h1]
/-- A new variable. -/
theorem Owns.do_var {P : Program} {ty : TypeId} {us : List (Nat × Value)} {t ty2 : TypeId} {n : Nat} {z : Value} {x y : Operand} {us2 : Value → List (Nat × Value)} {l : List Value} {K : Value → Heap → Prop} (w : Owns W h o) (hk : o k = none) (hz : (P.info? t).map (·.zero) = some (some z)) (hzc : z.cells.size = n + 1) (hsz : sizeB P t = some (n + 1)) (hl : l.length = n + 1) (hn : n + 1 ≤ 1000)
    (hone : ∀ c ∈ l, c.oneCell' = true) (hx : ∀ p, asg (us2 p) x = p) (hy : ∀ p, asg (us2 p) y = .agg l.toArray) (hK : ∀ h' : Heap, (vw h).le (vw h') → Owns W h' (o.upd k (bx t h.size (RawN.mk (n := n) l))) → K (.pointer (some ⟨h.size, 0, none⟩)) h') :
    @step po P (.alloc t) ty us h fun p h2 => @step po2 P (.store t x y) ty2 (us2 p) h2 fun _ h3 => K p h3 :=
  do_newV (v := .agg l.toArray) hz hzc hsz (by simpa [Value.cells] using hl) (by simpa [Value.cells] using hone) hx hy fun h' hle hs hb => hK h' hle
    (w.add hk (ownT_box (d := RawN.mk (n := n) l) hb (rd_rawN hl hone) hn) hle fun b hb => by simp only [Value.ownBlock, Option.some.injEq] at hb; omega)
/-- A new variable of zeros. -/
theorem Owns.do_zero {P : Program} {ty : TypeId} {us : List (Nat × Value)} {t : TypeId} {n : Nat} {z : Value} {K : Value → Heap → Prop} (w : Owns W h o) (hk : o k = none) (hz : (P.info? t).map (·.zero) = some (some z)) (hzc : z.cells.size = n + 1) (hn : n + 1 ≤ 1000)
    (hone : ∀ c ∈ z.cells.toList, c.oneCell' = true) (hK : ∀ h' : Heap, (vw h).le (vw h') → Owns W h' (o.upd k (bx t h.size (RawN.mk (n := n) z.cells.toList))) → K (.pointer (some ⟨h.size, 0, none⟩)) h') :
    @step po P (.alloc t) ty us h K := by
  refine do_alloc hz ?_
  have q1 := push_le h (.cells z.cells t)
  have b2 : (h.push (.cells z.cells t))[h.size]? = some (.cells z.cells t (0, 0)) := by simp
  generalize h.push (.cells z.cells t) = h2 at q1 b2
  have hz2 : (Value.agg z.cells).cells = z.cells := rfl
  refine hK h2 q1 (w.add hk (ownT_box (v := .agg z.cells) (d := RawN.mk (n := n) z.cells.toList) (by rw [hz2]; exact b2) ?_ hn) q1 fun b hb => by simp only [Value.ownBlock, Option.some.injEq] at hb; omega)
  have := rd_rawN (n := n) (H := W) (l := z.cells.toList) (by simpa using hzc) hone
  simpa using this
/-- A cell of a variable, written. -/
theorem Owns.do_cell {P : Program} {ty : TypeId} {us : List (Nat × Value)} {n i : Nat} {e t : TypeId} {B : Nat} {l : List Value} {x y : Operand} {u : Value} {K : Value → Heap → Prop} (w : Owns W h o) (hk : o k = bx e B (RawN.mk (n := n) l)) (hi : i ≤ n) (hsz : sizeB P t = some 1) (hx : asg us x = .pointer (some ⟨B, i, none⟩)) (hy : asg us y = u) (hu : u.oneCell' = true)
    (hK : ∀ h', Owns W h' (o.upd k (bx e B (RawN.mk (n := n) (l.set i u)))) → (∀ X : View, X.le (vw h) → X B = none → X.le (vw h')) → K undef h') : @step po P (.store t x y) ty us h K :=
  w.do_fieldM (po := po) (RawN.p hi) (d := ⟨u⟩) hk hsz hx hy (rd_raw.2 ⟨rfl, hu⟩) hK
/-- A copy of a slice, from an empty one: read of now on. -/
theorem Owns.do_clone {P : Program} {ty : TypeId} {us : List (Nat × Value)} {α : Type} [r : Rep α] {e : TypeId} {v : Value} {t : TypeId} {bytes : Nat} {z : Value} {x y : Operand} {u : Value} {l2 : List α} {K : Value → Heap → Prop} (w : Owns W h (o.upd k (it e v ([] : List α)))) (hk : o k = none) (hT : ElemT P t e (Rep.n α) bytes z) (hx : asg us x = v) (hy : asg us y = u)
    (hs : SlRd W u l2) (hb : l2.length * bytes ≤ 140737488355328)
    (hK : ∀ v' h' W', Owns W' h' o → W.le W' → SlRd W' v' l2 → (∀ X : View, X.le (vw h) → Av X v → X.le (vw h')) → K v' h') : @step po P (.call ⟨.builtin .append, #[x, y], #[t, t]⟩) ty us h K :=
  w.do_append (k := k) (l := ([] : List α)) (l2 := l2) Own.upd_self hT hx hy (hs.src w.wle) (by simpa using hb) (by have := hs.bound; simpa using this) fun v' h' w' m => by
    have w2 : Owns W h' (o.upd k (it e v' l2)) := w'.congr fun q => by unfold Own.upd; split <;> rfl
    have hav : Av W v' := w2.av k _ Own.upd_self
    obtain ⟨w3, s3⟩ := w2.freeze (k := k) (v := v') (l := l2) Own.upd_self
    refine hK v' h' _ (w3.congr fun q => ?_) (le_plus hav) s3 fun X hX hA => (m.view hX hA).1
    unfold Own.upd
    split
    · rename_i e1; rw [e1, hk]
    · rename_i e1; rfl
/-- An empty slice, beside. -/
theorem Owns.do_empty {P : Program} {ty : TypeId} {us : List (Nat × Value)} {α : Type} [r : Rep α] {e : TypeId} {t : TypeId} {bytes : Nat} {z : Value} {K : Value → Heap → Prop} (w : Owns W h o) (hk : o k = none) (hT : ElemT P t e (Rep.n α) bytes z)
    (hK : ∀ v h', (vw h).le (vw h') → v.oneCell' = true → Owns W h' (o.upd k (it e v ([] : List α))) → (∀ X : View, X.le (vw h) → Av X v) → K v h') : @step po P (.buildSlice t 0 #[]) ty us h K :=
  do_lit0 (α := α) hT fun h' hle hs own => hK _ h' hle rfl (w.add hk (own W) hle fun b hb => by simp only [Value.ownBlock, Option.some.injEq] at hb; omega) fun X hX b hb => by
    simp only [Value.ownBlock, Option.some.injEq] at hb; subst hb; exact View.none_of_ge hX (Nat.le_refl _)
end
/-- The text of a loop of any condition. -/
abbrev forC (a i c : Nat) (ks ks2 : List Nat) (ce : E) (body : LC) : LC :=
  .loop (.seq (.seq (.reg false (.fin ks [(c, ce)] [])) (.cond (.tmp c) [c] .skip (.exit a)))
    (.seq body (.reg false (.fin ks2 [(i, .bin (.arith .add) (.tmp i) (.con (.int .i64 1)))] []))))

theorem lwp_forC {P : Program} {Q : Post} {ρ : Env} {h : Heap} {a i c : Nat} {ks ks2 : List Nat} {ce : E} {body : LC} {σ : Type} (kp : List Nat) (vals : σ → Nat → List Value) (J : σ → Nat → Heap → Prop) (n : Nat) (s0 : σ)
    (hok : forOk kp ks ks2 c i = true) (hn : n ≤ 9223372036854775806) (h0 : keepE kp ρ = kp.zip (vals s0 0)) (hj : J s0 0 h)
    (hi : ∀ s k, look (kp.zip (vals s k)) i = some (.int .i64 k))
    (hb : ∀ s k h, k ≤ n → J s k h → ev (look (kp.zip (vals s k))) (vw h) ce = some (.bool (decide (k < n))))
    (round : ∀ s k h, k < n → J s k h → ∀ K : Env → Heap → Prop, (∀ s' ρ' h', look ρ' i = some (.int .i64 k) → keepE kp (setE ρ' i (.int .i64 ((k : Int) + 1))) = kp.zip (vals s' (k + 1)) → J s' (k + 1) h' → K ρ' h') → body.wp P (thenL K (inBlk a Q)) (kp.zip (vals s k)) h)
    (done : ∀ s h, J s n h → Q .normal (kp.zip (vals s n)) h) : LC.wp P (forC a i c ks ks2 ce body) (inBlk a Q) ρ h := by
  simp only [forOk, List.all_eq_true, Bool.and_eq_true, Bool.not_eq_true', bne_iff_ne, Bool.or_eq_true, beq_iff_eq, ne_eq] at hok
  refine lwp_loop kp (fun m ρ h => ∃ s k, k ≤ n ∧ ρ = kp.zip (vals s k) ∧ m = n - k ∧ J s k h) n ⟨s0, 0, by omega, h0, by omega, hj⟩ ?_
  rintro m ρ h ⟨s, k, hk, rfl, rfl, hJ⟩ K hK
  have hkill : killE (kp.zip (vals s k)) ks = kp.zip (vals s k) := killE_id fun p hp => (hok p.1 (zip_fst hp)).1.1
  have hne : ∀ p ∈ kp.zip (vals s k), p.1 ≠ c := fun p hp => (hok p.1 (zip_fst hp)).1.2
  have hk2 : ∀ v, killE (setE (kp.zip (vals s k)) c v) [c] = kp.zip (vals s k) := fun v => killE_setE hne
  have hlk : ∀ v, look (setE (kp.zip (vals s k)) c v) c = some v := fun v => by rw [look_setE, if_pos rfl]
  simp only [lwp_seq, lwp_reg, regWp_fin, part_none, evP_cons, evP_nil, hb s k h hk hJ, Option.bind_some, sat_some, okE_nil, true_and, setsE, hkill, thenL_normal, lwp_cond, ev_tmp, hlk, condP_decide, hk2, lwp_skip, lwp_exit, thenL_exit, inBlk_exit, if_true]
  refine ⟨fun hlt => ?_, fun hge => ?_⟩
  · have hlt' : k < n := by omega
    rw [thenL_thenL]
    refine round s k h hlt' hJ _ fun s' ρ' h' hl he hJ' => ?_
    simp only [lwp_reg, regWp_fin, part_none, evP_cons, evP_nil, ev_bin_eq, ev_tmp, hl, okE_nil, true_and, Option.bind_some, ev_con, Option.bind_some, bn_add, sat_some, setsE, thenL_normal, true_and]
    rw [wrap64_id (by omega) (by omega)]
    refine hK (n - (k + 1)) _ _ (by omega) ⟨s', k + 1, by omega, ?_, rfl, hJ'⟩
    rw [← he]
    refine keepE_ext fun t ht => ?_
    rw [look_setE, look_setE, look_kill]
    split
    · rfl
    · rename_i hti
      rcases (hok t ht).2 with e | e
      · exact absurd e.symm hti
      · rw [e]; rfl
  · have : k = n := by omega
    subst this
    exact done s h hJ
end Go.Lft

/- What graphs are told, in plain Lean. -/
namespace Go.Proofs.Ytfelpjfopgiabaa
open Go Go.Lft
set_option linter.unusedSimpArgs false
set_option linter.unusedVariables false

abbrev Gr := List (List Int)
def edgeS (g : Gr) (a b : Int) : Bool := decide (0 ≤ a ∧ a < g.length ∧ 0 ≤ b ∧ b < g.length) && (nth g a.toNat).contains b
def nextS (g : Gr) (a : Int) : List Int := sift (fun b => edgeS g a b) (fun b => (b : Int)) g.length
def predsS (g : Gr) : Gr := rows (fun b => sift (fun a => edgeS g a b) (fun a => (a : Int)) g.length) g.length
/-- One block's edges followed. -/
def outStep (gone : Int) (l : List Int) (i : Nat) (out : List Bool) : List Bool := out.set (nth l i).toNat (nth out (nth l i).toNat || decide (nth l i ≠ gone))
def outBlock (g : Gr) (gone : Int) (a : Nat) (out : List Bool) : List Bool := if nth out a then up (outStep gone (nextS g a)) (nextS g a).length out else out
def outRound (g : Gr) (gone : Int) (out : List Bool) : List Bool := up (outBlock g gone) g.length out
def withoutS (g : Gr) (gone : Int) : List Bool :=
  if g.length = 0 ∨ gone = 0 then List.replicate g.length false else up (fun _ => outRound g gone) g.length ((List.replicate g.length false).set 0 true)
theorem outStep_len {gone : Int} {l : List Int} {i : Nat} {out : List Bool} : (outStep gone l i out).length = out.length := by simp [outStep]
theorem up_keep {β γ : Type} (m : β → γ) {f : Nat → β → β} (hf : ∀ k x, m (f k x) = m x) (n : Nat) (x : β) : m (up f n x) = m x := by
  induction n with
  | zero => rfl
  | succ n ih => rw [up, hf, ih]
theorem outBlock_len {g : Gr} {gone : Int} {a : Nat} {out : List Bool} : (outBlock g gone a out).length = out.length := by
  unfold outBlock; split
  · exact up_keep List.length (fun _ _ => outStep_len) _ _
  · rfl
theorem outRound_len {g : Gr} {gone : Int} {out : List Bool} : (outRound g gone out).length = out.length := up_keep List.length (fun _ _ => outBlock_len) _ _
theorem nextS_mem {g : Gr} {a : Int} {i : Nat} (hi : i < (nextS g a).length) : 0 ≤ nth (nextS g a) i ∧ nth (nextS g a) i < g.length := by
  have := nth_mem hi
  rw [nextS, sift_eq] at this
  simp only [List.mem_map, List.mem_filter, List.mem_range] at this
  obtain ⟨b, ⟨h1, _⟩, h2⟩ := this
  rw [nextS, sift_eq] at *
  omega
theorem withoutS_len {g : Gr} {gone : Int} : (withoutS g gone).length = g.length := by
  unfold withoutS; split
  · simp
  · rw [up_keep List.length (fun _ _ => outRound_len)]; simp
/-- Who dominates whom. -/
def domC (g : Gr) (a b : Nat) : Bool := nth (withoutS g (-1)) a && nth (withoutS g (-1)) b && (decide ((a : Int) = (b : Int)) || !nth (withoutS g a) b)
/-- A chain is followed, so many steps. -/
def chase (l : List Int) (a : Int) : Nat → Int → Bool
  | 0, _ => false
  | k + 1, b => if b = a then true else if b < 0 ∨ (l.length : Int) ≤ b then false else chase l a k (nth l b.toNat)
def dominatesS (l : List Int) (a b : Int) : Bool := decide (0 ≤ a ∧ a < l.length ∧ 0 ≤ b ∧ b < l.length) && chase l a (l.length + 1) b
/-- Any of those below a number. -/
def orStep (p : Nat → Bool) (b : Nat) (s : Bool) : Bool := s || p b
def andStep (p : Nat → Bool) (b : Nat) (s : Bool) : Bool := s && p b
def anyUp (p : Nat → Bool) (n : Nat) : Bool := up (orStep p) n false
def allUp (p : Nat → Bool) (n : Nat) : Bool := up (andStep p) n true
theorem anyUp_succ {p : Nat → Bool} {n : Nat} : anyUp p (n + 1) = (anyUp p n || p n) := rfl
theorem allUp_succ {p : Nat → Bool} {n : Nat} : allUp p (n + 1) = (allUp p n && p n) := rfl
def headP (g : Gr) (h b : Nat) : Bool := edgeS g b h && domC g h b
def headC (g : Gr) (h : Nat) : Bool := anyUp (headP g h) g.length
def headersS (g : Gr) : List Int := sift (headC g) (fun b => (b : Int)) g.length
def lastP (g : Gr) (a b c : Nat) : Bool := decide ((c : Int) = (b : Int)) || !domC g c b || domC g c a
def lastC (g : Gr) (a b : Nat) : Bool := allUp (lastP g a b) g.length
def bestStep (g : Gr) (b a : Nat) (best : Int) : Int := if !decide ((a : Int) = (b : Int)) && domC g a b then (if lastC g a b then (a : Int) else best) else best
def bestUp (g : Gr) (b n : Nat) : Int := up (bestStep g b) n (-1)
def bestS (g : Gr) (b : Nat) : Int := bestUp g b g.length
def idomS (g : Gr) : List Int := rows (bestS g) g.length
theorem bestUp_succ {g : Gr} {b n : Nat} : bestUp g b (n + 1) = bestStep g b n (bestUp g b n) := rfl
def critP (g : Gr) (p : Gr) (a i : Nat) : Bool := decide ((1 : Int) < (nextS g a).length) && decide ((1 : Int) < (nth p (nth (nextS g a) i).toNat).length)
def critRow (g : Gr) (p : Gr) (a : Nat) : List (Int × Int) := sift (critP g p a) (fun i => ((a : Int), nth (nextS g a) i)) (nextS g a).length
def criticalS (g : Gr) : List (Int × Int) := up (fun a l => l ++ critRow g (predsS g) a) g.length []
theorem predsS_len {g : Gr} : (predsS g).length = g.length := by simp [predsS]
theorem nextS_len {g : Gr} {a : Int} : (nextS g a).length ≤ g.length := sift_len _
/-- Blocks gone over from one on, what comes behind it first; so deep at most. -/
def overS (nx : Int → List Int) : Nat → Int → List Bool × List Int → List Bool × List Int
  | 0, _, s => s
  | n + 1, a, s =>
    let r := up (fun i s => if nth s.1 (nth (nx a) i).toNat then s else overS nx n (nth (nx a) i) s) (nx a).length (s.1.set a.toNat true, s.2)
    (r.1, r.2 ++ [a])
def overStep (nx : Int → List Int) (n : Nat) (a : Int) (i : Nat) (s : List Bool × List Int) : List Bool × List Int := if nth s.1 (nth (nx a) i).toNat then s else overS nx n (nth (nx a) i) s
theorem overS_succ {nx : Int → List Int} {n : Nat} {a : Int} {s : List Bool × List Int} :
    overS nx (n + 1) a s = ((up (overStep nx n a) (nx a).length (s.1.set a.toNat true, s.2)).1, (up (overStep nx n a) (nx a).length (s.1.set a.toNat true, s.2)).2 ++ [a]) := rfl
def falses (t : List Bool) : Nat := t.count false
theorem falses_set {t : List Bool} {i : Nat} (hi : i < t.length) (hf : nth t i = false) : falses (t.set i true) + 1 = falses t := by
  rw [nth_eq hi] at hf
  unfold falses
  rw [List.count_set hi]
  have hp : 0 < t.count false := List.count_pos_iff.2 (hf ▸ List.getElem_mem hi)
  simp [hf]; omega
theorem falses_le {t : List Bool} {i : Nat} : falses (t.set i true) ≤ falses t := by
  rcases Nat.lt_or_ge i t.length with hi | hi
  · unfold falses
    rw [List.count_set hi]; simp
  · rw [List.set_eq_of_length_le hi]; exact Nat.le_refl _
theorem up_inv {β : Type} (I : β → Prop) {f : Nat → β → β} (hf : ∀ k x, I x → I (f k x)) (n : Nat) (x : β) (hx : I x) : I (up f n x) := by
  induction n with
  | zero => exact hx
  | succ n ih => rw [up]; exact hf _ _ ih
theorem overS_keeps {nx : Int → List Int} {m c : Nat} : ∀ (n : Nat) (a : Int) (s : List Bool × List Int), s.1.length = m ∧ falses s.1 ≤ c → (overS nx n a s).1.length = m ∧ falses (overS nx n a s).1 ≤ c
  | 0, _, _, h => h
  | n + 1, a, s, h => by
    rw [overS_succ]
    refine up_inv (fun s : List Bool × List Int => s.1.length = m ∧ falses s.1 ≤ c) (fun k x hx => ?_) _ _ ⟨by simpa using h.1, Nat.le_trans falses_le h.2⟩
    unfold overStep; split
    · exact hx
    · exact overS_keeps n _ x hx
def orderS (nx : Int → List Int) (n : Nat) : List Int := if n = 0 then [] else (overS nx n 0 (List.replicate n false, [])).2.reverse
theorem cells_of_own {α : Type} [Rep α] {W : View} {h : Heap} {e : TypeId} {v : Value} {l : List α} (o : OwnT W h e v l) : v.cells = #[v] ∧ v.oneCell' = true := by
  have := o.len (K := nothing)
  cases v <;> first | exact ⟨rfl, rfl⟩ | (simp [Un.ev, vL] at this)
end Go.Proofs.Ytfelpjfopgiabaa

/- The functions of the program in the lifted language, each with the proof that the lifter makes just it. Written by program. -/
namespace Go.Proofs.Ytfelpjfopgiabaa
open Go Go.Lft
set_option maxRecDepth 100000

abbrev N.gosem_cut_init : Nat := 2

abbrev N.slices_Reverse_int : Nat := 80

abbrev N.slices_Sort_int : Nat := 85

abbrev N.slices_Compact_int : Nat := 86

abbrev N.slices_pdqsortOrdered_int : Nat := 88

abbrev N.math_bits_Len : Nat := 89

abbrev N.slices_insertionSortOrdered_int : Nat := 90

abbrev N.slices_heapSortOrdered_int : Nat := 91

abbrev N.slices_breakPatternsOrdered_int : Nat := 92

abbrev N.slices_choosePivotOrdered_int : Nat := 93

abbrev N.slices_reverseRangeOrdered_int : Nat := 94

abbrev N.slices_partialInsertionSortOrdered_int : Nat := 95

abbrev N.cmp_Less_int : Nat := 96

abbrev N.slices_partitionEqualOrdered_int : Nat := 97

abbrev N.slices_partitionOrdered_int : Nat := 98

abbrev N.math_bits_Len32 : Nat := 99

abbrev N.math_bits_Len64 : Nat := 100

abbrev N.slices_siftDownOrdered_int : Nat := 101

abbrev N.slices_nextPowerOfTwo : Nat := 102

abbrev N.slices_xorshift_Next : Nat := 103

abbrev N.slices_medianAdjacentOrdered_int : Nat := 104

abbrev N.slices_medianOrdered_int : Nat := 105

abbrev N.cmp_isNaN_int : Nat := 106

abbrev N.slices_order2Ordered_int : Nat := 107

/-- jacquard/jacquardlaw03.CheckTells -/
abbrev N.law03_CheckTells : Nat := 3
def L.law03_CheckTells : LFn :=
⟨[(.tmp 2)],
  (.seq
  (.reg false (.loud [] [] [(0, (.tmp 0))] none [] false (.box 24 (.tmp 0)) 0 (some 1) true
    (.fin [2] [(2, (.con (.bool false)))] [])))
  (.seq
  (.reg false (.loud [] [] [] none [] false (.call ⟨.value (.func 13), #[], #[]⟩) 4 (some 4) true
    (.fin [3] [(3, (.tmp 4))] [])))
  (.seq
  (.reg false (.loud [5, 6, 7] [(6, (.tmp 3))] [(7, (.gd (.tmp 3) true (.un (.loads 2) (.tmp 1))))] (some ((.tmp 3), true)) [] false (.call ⟨.value (.func 15), #[(.tmp 7)], #[24]⟩) 24 (some 8) true
    (.loud [] [] [(8, (.tmp 8))] (some ((.tmp 6), true)) [] false (.call ⟨.value (.func 14), #[(.tmp 8)], #[24]⟩) 4 (some 9) true
      (.fin [10, 2] [(2, (.ite (.tmp 6) (.tmp 9) (.con (.bool false))))] []))))
  .ret)))⟩
theorem E.law03_CheckTells : liftF Try.prog Try.f3 = some L.law03_CheckTells := by kernel_rfl
theorem F.law03_CheckTells : Try.prog.funcs[N.law03_CheckTells]? = some Try.f3 := Try.func3

/-- jacquard/jacquardlaw03.CheckTurned -/
abbrev N.law03_CheckTurned : Nat := 4
def L.law03_CheckTurned.l1 : LC :=
  (.seq
      (.seq
      (.reg false (.fin [11, 12, 13, 14, 15, 16, 17, 18] [(18, (.ite (.bin (.cmp .lss) (.tmp 7) (.un .len (.tmp 1))) (.bin (.cmp .lss) (.tmp 7) (.con (.int .i64 3))) (.con (.bool false))))] []))
      (.cond (.tmp 18) [18]
        .skip
        (.exit 0)))
      (.seq
      (.block 1
        (.reg true (.loud [21, 22, 23, 24, 25] [] [(21, (.un (.loads 2) (.tmp 6))), (25, (.un (.loads 3) (.bin (.idx 3) (.tmp 1) (.tmp 7))))] none [] true (.call ⟨.value (.func 17), #[(.tmp 21), (.tmp 25)], #[24, 32]⟩) 24 (some 26) true
          (.loud [] [] [(6, (.tmp 6)), (26, (.tmp 26))] none [] false (.store 24 (.tmp 6) (.tmp 26)) 0 none false
            (.fin [] [] [])))))
      (.reg false (.fin [19, 20, 7] [(7, (.bin (.arith .add) (.tmp 7) (.con (.int .i64 1))))] []))))
def L.law03_CheckTurned : LFn :=
⟨[(.tmp 4)],
  (.seq
  (.reg false (.fin [4] [(4, (.con (.bool false)))] []))
  (.seq
  (.reg false (.loud [] [] [] none [] false (.call ⟨.value (.func 13), #[], #[]⟩) 4 (some 8) true
    (.fin [5] [(5, (.tmp 8))] [])))
  (.seq
  (.reg false (.loud [9] [] [(9, (.tmp 0))] none [] false (.call ⟨.value (.func 16), #[(.tmp 9)], #[28]⟩) 24 (some 10) true
    (.loud [] [] [] none [] false (.alloc 24) 0 (some 6) true
      (.loud [] [] [(6, (.tmp 6)), (10, (.tmp 10))] none [] false (.store 24 (.tmp 6) (.tmp 10)) 0 none false
        (.fin [] [] [])))))
  (.seq
  (.seq
  (.reg false (.fin [7] [(7, (.con (.int .i64 0)))] []))
  (.block 0
    (.loop L.law03_CheckTurned.l1)))
  (.seq
  (.reg false (.loud [27, 28, 29] [(28, (.tmp 5))] [(29, (.gd (.tmp 5) true (.un (.loads 2) (.tmp 6))))] (some ((.tmp 5), true)) [] false (.call ⟨.value (.func 14), #[(.tmp 29)], #[24]⟩) 4 (some 30) true
    (.fin [31, 4] [(4, (.ite (.tmp 28) (.tmp 30) (.con (.bool false))))] [])))
  .ret)))))⟩
theorem E.law03_CheckTurned : liftF Try.prog Try.f4 = some L.law03_CheckTurned := by kernel_rfl
theorem F.law03_CheckTurned : Try.prog.funcs[N.law03_CheckTurned]? = some Try.f4 := Try.func4

/-- jacquard/jacquardlaw03.CheckMade -/
abbrev N.law03_CheckMade : Nat := 5
def L.law03_CheckMade : LFn :=
⟨[(.tmp 2)],
  (.seq
  (.reg false (.fin [2] [(2, (.con (.bool false)))] []))
  (.seq
  (.reg false (.loud [] [] [] none [] false (.call ⟨.value (.func 13), #[], #[]⟩) 4 (some 7) true
    (.fin [3] [(3, (.tmp 7))] [])))
  (.seq
  (.reg false (.loud [9] [] [(9, (.tmp 0))] none [] false (.call ⟨.value (.func 16), #[(.tmp 9)], #[28]⟩) 24 (some 10) true
    (.loud [] [] [(10, (.tmp 10))] none [] false (.call ⟨.value (.func 18), #[(.tmp 10)], #[24]⟩) 35 (some 11) true
      (.fin [8, 12, 13, 14, 4, 5, 6] [(4, (.un (.ext 0) (.tmp 11))), (5, (.un (.ext 1) (.tmp 11))), (6, (.un (.ext 2) (.tmp 11)))] []))))
  (.seq
  (.reg false (.fin [15, 16, 17, 18, 19, 20, 21, 22, 23, 24, 25, 26, 27, 2] [(2, (.ite (.ite (.ite (.tmp 3) (.bin (.cmp .eql) (.tmp 4) (.con (.int .i64 0))) (.con (.bool false))) (.bin (.cmp .eql) (.tmp 5) (.con (.int .i64 0))) (.con (.bool false))) (.bin (.cmp .eql) (.tmp 6) (.con (.int .i64 0))) (.con (.bool false))))] []))
  .ret))))⟩
theorem E.law03_CheckMade : liftF Try.prog Try.f5 = some L.law03_CheckMade := by kernel_rfl
theorem F.law03_CheckMade : Try.prog.funcs[N.law03_CheckMade]? = some Try.f5 := Try.func5

/-- jacquard/jacquardlaw03.CheckValues -/
abbrev N.law03_CheckValues : Nat := 6
def L.law03_CheckValues.l1 : LC :=
  (.seq
      (.seq
      (.reg false (.fin [50, 51, 52, 53, 54, 55, 56] [(56, (.ite (.bin (.cmp .leq) (.tmp 10) (.tmp 9)) (.bin (.cmp .lss) (.tmp 10) (.con (.int .i64 60))) (.con (.bool false))))] []))
      (.cond (.tmp 56) [56]
        .skip
        (.exit 0)))
      (.seq
      (.block 1
        (.seq
        (.reg true (.loud [59, 60, 62, 63] [(62, (.un (.loads 2) (.tmp 8))), (63, (.tmp 10))] [(59, (.un (.loads 2) (.tmp 8))), (60, (.tmp 10))] none [] false (.call ⟨.value (.func 24), #[(.tmp 59), (.tmp 60)], #[24, 3]⟩) 4 (some 61) true
          (.loud [] [] [(62, (.tmp 62)), (63, (.tmp 63))] none [] false (.call ⟨.value (.func 25), #[(.tmp 62), (.tmp 63)], #[24, 3]⟩) 4 (some 64) true
            (.loud [65, 66, 67, 68, 70, 71] [(66, (.bin (.eqB true) (.tmp 61) (.tmp 64))), (70, (.gd (.bin (.eqB true) (.tmp 61) (.tmp 64)) false (.un (.loads 2) (.tmp 3)))), (71, (.gd (.bin (.eqB true) (.tmp 61) (.tmp 64)) false (.tmp 10)))] [(67, (.gd (.bin (.eqB true) (.tmp 61) (.tmp 64)) false (.un (.loads 2) (.tmp 3)))), (68, (.gd (.bin (.eqB true) (.tmp 61) (.tmp 64)) false (.tmp 10)))] (some ((.bin (.eqB true) (.tmp 61) (.tmp 64)), false)) [] false (.call ⟨.value (.func 24), #[(.tmp 67), (.tmp 68)], #[24, 3]⟩) 4 (some 69) true
              (.loud [] [] [(70, (.tmp 70)), (71, (.tmp 71))] (some ((.tmp 66), false)) [] false (.call ⟨.value (.func 25), #[(.tmp 70), (.tmp 71)], #[24, 3]⟩) 4 (some 72) true
                (.fin [73, 74] [(74, (.ite (.tmp 66) (.con (.bool true)) (.bin (.eqB true) (.tmp 69) (.tmp 72))))] []))))))
        (.cond (.tmp 74) [74]
          (.seq
          (.reg false (.fin [6] [(6, (.con (.bool false)))] []))
          .ret)
          .skip)))
      (.reg false (.fin [57, 58, 10] [(10, (.bin (.arith .add) (.tmp 10) (.con (.int .i64 1))))] []))))
def L.law03_CheckValues : LFn :=
⟨[(.tmp 6)],
  (.seq
  (.reg false (.loud [] [] [(0, (.tmp 0))] none [] false (.box 24 (.tmp 0)) 0 (some 3) true
    (.loud [] [] [(2, (.tmp 2))] none [] false (.box 39 (.tmp 2)) 0 (some 5) true
      (.fin [6] [(6, (.con (.bool false)))] []))))
  (.seq
  (.reg false (.loud [] [] [] none [] false (.call ⟨.value (.func 13), #[], #[]⟩) 4 (some 11) true
    (.fin [7] [(7, (.tmp 11))] [])))
  (.seq
  (.reg false (.loud [12] [] [(12, (.un (.loads 2) (.tmp 3)))] none [] false (.call ⟨.value (.func 15), #[(.tmp 12)], #[24]⟩) 24 (some 13) true
    (.loud [] [] [(3, (.tmp 3)), (13, (.tmp 13))] none [] false (.store 24 (.tmp 3) (.tmp 13)) 0 none false
      (.fin [] [] []))))
  (.seq
  (.reg true (.both
    (.loud [14, 15, 17, 18] [(18, (.un (.loads 3) (.un (.fld 1) (.tmp 5))))] [(15, (.un .load (.un (.fld 0) (.tmp 5))))] none [] false (.call ⟨.value (.func 16), #[(.tmp 15)], #[28]⟩) 24 (some 16) true
      (.both
        (.loud [] [] [(16, (.tmp 16)), (18, (.tmp 18))] none [] true (.call ⟨.value (.func 17), #[(.tmp 16), (.tmp 18)], #[24, 32]⟩) 24 (some 19) true
          (.loud [] [] [] none [] false (.alloc 24) 0 (some 8) true
            (.loud [] [] [(8, (.tmp 8)), (19, (.tmp 19))] none [] false (.store 24 (.tmp 8) (.tmp 19)) 0 none false
              (.fin [] [] []))))
        (.loud [] [] [] none [] false (.alloc 24) 0 (some 8) true
          (.loud [] [] [(16, (.tmp 16)), (18, (.tmp 18))] none [] true (.call ⟨.value (.func 17), #[(.tmp 16), (.tmp 18)], #[24, 32]⟩) 24 (some 19) true
            (.loud [] [] [(8, (.tmp 8)), (19, (.tmp 19))] none [] false (.store 24 (.tmp 8) (.tmp 19)) 0 none false
              (.fin [] [] []))))))
    (.loud [14, 15, 17, 18] [(15, (.un .load (.un (.fld 0) (.tmp 5)))), (18, (.un (.loads 3) (.un (.fld 1) (.tmp 5))))] [] none [] false (.alloc 24) 0 (some 8) true
      (.loud [] [] [(15, (.tmp 15))] none [] false (.call ⟨.value (.func 16), #[(.tmp 15)], #[28]⟩) 24 (some 16) true
        (.loud [] [] [(16, (.tmp 16)), (18, (.tmp 18))] none [] true (.call ⟨.value (.func 17), #[(.tmp 16), (.tmp 18)], #[24, 32]⟩) 24 (some 19) true
          (.loud [] [] [(8, (.tmp 8)), (19, (.tmp 19))] none [] false (.store 24 (.tmp 8) (.tmp 19)) 0 none false
            (.fin [] [] [])))))))
  (.seq
  (.seq
  (.reg true (.loud [20, 22] [(22, (.un (.loads 2) (.tmp 3)))] [(20, (.un (.loads 2) (.tmp 3)))] none [] false (.call ⟨.value (.func 19), #[(.tmp 20)], #[24]⟩) 3 (some 21) true
    (.loud [] [] [(22, (.tmp 22))] none [] false (.call ⟨.value (.func 20), #[(.tmp 22)], #[24]⟩) 3 (some 23) true
      (.loud [24, 25, 26, 28] [(25, (.bin (.cmp .neq) (.tmp 21) (.tmp 23))), (28, (.gd (.bin (.cmp .neq) (.tmp 21) (.tmp 23)) false (.un (.loads 2) (.tmp 3))))] [(26, (.gd (.bin (.cmp .neq) (.tmp 21) (.tmp 23)) false (.un (.loads 2) (.tmp 3))))] (some ((.bin (.cmp .neq) (.tmp 21) (.tmp 23)), false)) [] false (.call ⟨.value (.func 22), #[(.tmp 26)], #[24]⟩) 28 (some 27) true
        (.loud [] [] [(28, (.tmp 28))] (some ((.tmp 25), false)) [] false (.call ⟨.value (.func 23), #[(.tmp 28)], #[24]⟩) 28 (some 29) true
          (.loud [] [] [(27, (.tmp 27)), (29, (.tmp 29))] (some ((.tmp 25), false)) [] false (.call ⟨.value (.func 21), #[(.tmp 27), (.tmp 29)], #[28, 28]⟩) 4 (some 30) true
            (.loud [31, 32, 33, 34, 36] [(33, (.ite (.tmp 25) (.con (.bool true)) (.un .not (.tmp 30)))), (36, (.gd (.ite (.tmp 25) (.con (.bool true)) (.un .not (.tmp 30))) false (.un (.loads 2) (.tmp 8))))] [(34, (.gd (.ite (.tmp 25) (.con (.bool true)) (.un .not (.tmp 30))) false (.un (.loads 2) (.tmp 8))))] (some ((.ite (.tmp 25) (.con (.bool true)) (.un .not (.tmp 30))), false)) [] false (.call ⟨.value (.func 19), #[(.tmp 34)], #[24]⟩) 3 (some 35) true
              (.loud [] [] [(36, (.tmp 36))] (some ((.tmp 33), false)) [] false (.call ⟨.value (.func 20), #[(.tmp 36)], #[24]⟩) 3 (some 37) true
                (.loud [38, 39, 40, 41, 43] [(40, (.ite (.tmp 33) (.con (.bool true)) (.bin (.cmp .neq) (.tmp 35) (.tmp 37)))), (43, (.gd (.ite (.tmp 33) (.con (.bool true)) (.bin (.cmp .neq) (.tmp 35) (.tmp 37))) false (.un (.loads 2) (.tmp 8))))] [(41, (.gd (.ite (.tmp 33) (.con (.bool true)) (.bin (.cmp .neq) (.tmp 35) (.tmp 37))) false (.un (.loads 2) (.tmp 8))))] (some ((.ite (.tmp 33) (.con (.bool true)) (.bin (.cmp .neq) (.tmp 35) (.tmp 37))), false)) [] false (.call ⟨.value (.func 22), #[(.tmp 41)], #[24]⟩) 28 (some 42) true
                  (.loud [] [] [(43, (.tmp 43))] (some ((.tmp 40), false)) [] false (.call ⟨.value (.func 23), #[(.tmp 43)], #[24]⟩) 28 (some 44) true
                    (.loud [] [] [(42, (.tmp 42)), (44, (.tmp 44))] (some ((.tmp 40), false)) [] false (.call ⟨.value (.func 21), #[(.tmp 42), (.tmp 44)], #[28, 28]⟩) 4 (some 45) true
                      (.fin [46, 47] [(47, (.ite (.tmp 40) (.con (.bool true)) (.un .not (.tmp 45))))] []))))))))))))
  (.cond (.tmp 47) [47]
    (.seq
    (.reg false (.fin [6] [(6, (.con (.bool false)))] []))
    .ret)
    .skip))
  (.seq
  (.reg false (.loud [48] [] [(48, (.un (.loads 2) (.tmp 8)))] none [] false (.call ⟨.value (.func 20), #[(.tmp 48)], #[24]⟩) 3 (some 49) true
    (.fin [9] [(9, (.tmp 49))] [])))
  (.seq
  (.seq
  (.reg false (.fin [10] [(10, (.con (.int .i64 (-1))))] []))
  (.block 0
    (.loop L.law03_CheckValues.l1)))
  (.seq
  (.reg true (.loud [75, 76, 77, 78, 80, 81] [(76, (.tmp 7)), (80, (.gd (.tmp 7) true (.un (.loads 2) (.tmp 3)))), (81, (.gd (.tmp 7) true (.tmp 1)))] [(77, (.gd (.tmp 7) true (.un (.loads 2) (.tmp 3)))), (78, (.gd (.tmp 7) true (.tmp 1)))] (some ((.tmp 7), true)) [] false (.call ⟨.value (.func 24), #[(.tmp 77), (.tmp 78)], #[24, 3]⟩) 4 (some 79) true
    (.loud [] [] [(80, (.tmp 80)), (81, (.tmp 81))] (some ((.tmp 76), true)) [] false (.call ⟨.value (.func 25), #[(.tmp 80), (.tmp 81)], #[24, 3]⟩) 4 (some 82) true
      (.fin [83, 84, 6] [(6, (.ite (.tmp 76) (.bin (.eqB false) (.tmp 79) (.tmp 82)) (.con (.bool false))))] []))))
  .ret))))))))⟩
theorem E.law03_CheckValues : liftF Try.prog Try.f6 = some L.law03_CheckValues := by kernel_rfl
theorem F.law03_CheckValues : Try.prog.funcs[N.law03_CheckValues]? = some Try.f6 := Try.func6

/-- jacquard/jacquardlaw03.CheckWays -/
abbrev N.law03_CheckWays : Nat := 7
def L.law03_CheckWays.l1 : LC :=
  (.seq
      (.seq
      (.reg false (.fin [35, 36, 37, 38] [(38, (.bin (.cmp .lss) (.tmp 8) (.un .load (.un (.fld 0) (.tmp 6)))))] []))
      (.cond (.tmp 38) [38]
        .skip
        (.exit 0)))
      (.seq
      (.block 1
        (.reg false (.loud [41, 42, 43] [] [(43, (.bin (.idx 1) (.tmp 7) (.tmp 8)))] none [] false (.store 4 (.tmp 43) (.const (.bool true))) 0 none false
          (.fin [] [] []))))
      (.reg false (.fin [39, 40, 8] [(8, (.bin (.arith .add) (.tmp 8) (.con (.int .i64 1))))] []))))
def L.law03_CheckWays.l4 : LC :=
  (.seq
                  (.seq
                  (.reg false (.fin [60, 61, 62, 63, 64, 65, 66, 67, 68] [(68, (.bin (.cmp .lss) (.tmp 15) (.un .len (.un .load (.un (.fld 1) (.bin (.idx 2) (.un .load (.un (.fld 0) (.tmp 12))) (.tmp 13)))))))] []))
                  (.cond (.tmp 68) [68]
                    .skip
                    (.exit 6)))
                  (.seq
                  (.block 7
                    (.reg false (.fin [71, 72, 73, 74, 75, 76, 77, 78, 79, 80, 81, 82, 83, 84, 85, 86, 87, 88, 89, 90, 91, 92, 93, 94, 95, 96, 97, 98, 99, 100, 14] [(14, (.ite (.tmp 14) (.con (.bool true)) (.ite (.bin (.cmp .eql) (.un .load (.un (.fld 0) (.bin (.idx 2) (.un .load (.un (.fld 1) (.bin (.idx 2) (.un .load (.un (.fld 0) (.tmp 12))) (.tmp 13)))) (.tmp 15)))) (.tmp 10)) (.un .load (.bin (.idx 1) (.tmp 7) (.un .load (.un (.fld 1) (.bin (.idx 2) (.un .load (.un (.fld 1) (.bin (.idx 2) (.un .load (.un (.fld 0) (.tmp 12))) (.tmp 13)))) (.tmp 15)))))) (.con (.bool false)))))] [(.gd (.gd (.tmp 14) false (.bin (.cmp .eql) (.un .load (.un (.fld 0) (.bin (.idx 2) (.un .load (.un (.fld 1) (.bin (.idx 2) (.un .load (.un (.fld 0) (.tmp 12))) (.tmp 13)))) (.tmp 15)))) (.tmp 10))) true (.un .load (.bin (.idx 1) (.tmp 7) (.un .load (.un (.fld 1) (.bin (.idx 2) (.un .load (.un (.fld 1) (.bin (.idx 2) (.un .load (.un (.fld 0) (.tmp 12))) (.tmp 13)))) (.tmp 15)))))))])))
                  (.reg false (.fin [69, 70, 15] [(15, (.bin (.arith .add) (.tmp 15) (.con (.int .i64 1))))] []))))
def L.law03_CheckWays.l3 : LC :=
  (.seq
            (.seq
            (.reg false (.fin [53, 54, 55, 56, 57] [(57, (.bin (.cmp .lss) (.tmp 13) (.un .len (.un .load (.un (.fld 0) (.tmp 12))))))] []))
            (.cond (.tmp 57) [57]
              .skip
              (.exit 4)))
            (.seq
            (.block 5
              (.seq
              (.reg false (.fin [14] [(14, (.con (.bool false)))] []))
              (.seq
              (.seq
              (.reg false (.fin [15] [(15, (.con (.int .i64 0)))] []))
              (.block 6
                (.loop L.law03_CheckWays.l4)))
              (.seq
              (.reg false (.fin [101, 102] [(102, (.un .not (.tmp 14)))] []))
              (.cond (.tmp 102) [102]
                (.seq
                (.reg false (.fin [4] [(4, (.con (.bool false)))] []))
                .ret)
                .skip)))))
            (.reg false (.fin [58, 59, 13] [(13, (.bin (.arith .add) (.tmp 13) (.con (.int .i64 1))))] []))))
def L.law03_CheckWays.l5 : LC :=
  (.seq
            (.seq
            (.reg false (.fin [103, 104, 105, 106, 107] [(107, (.bin (.cmp .lss) (.tmp 16) (.un .len (.un .load (.un (.fld 0) (.tmp 12))))))] []))
            (.cond (.tmp 107) [107]
              .skip
              (.exit 8)))
            (.seq
            (.block 9
              (.reg false (.loud [110, 111, 112, 113, 114, 115, 116, 117] [] [(117, (.bin (.idx 1) (.tmp 7) (.un .load (.un (.fld 0) (.bin (.idx 2) (.un .load (.un (.fld 0) (.tmp 12))) (.tmp 16))))))] none [] false (.store 4 (.tmp 117) (.const (.bool true))) 0 none false
                (.fin [] [] []))))
            (.reg false (.fin [108, 109, 16] [(16, (.bin (.arith .add) (.tmp 16) (.con (.int .i64 1))))] []))))
def L.law03_CheckWays.l7 : LC :=
  (.seq
                  (.seq
                  (.reg false (.fin [125, 126, 127, 128, 129, 130, 131, 132, 133] [(133, (.bin (.cmp .lss) (.tmp 18) (.un .len (.un .load (.un (.fld 3) (.bin (.idx 5) (.un .load (.un (.fld 1) (.tmp 12))) (.tmp 17)))))))] []))
                  (.cond (.tmp 133) [133]
                    .skip
                    (.exit 12)))
                  (.seq
                  (.block 13
                    (.seq
                    (.reg false (.fin [136, 137, 138, 139, 140, 141, 142, 143, 144, 145, 146, 147, 148] [(148, (.un .not (.un .load (.bin (.idx 1) (.tmp 7) (.un .load (.bin (.idx 1) (.un .load (.un (.fld 3) (.bin (.idx 5) (.un .load (.un (.fld 1) (.tmp 12))) (.tmp 17)))) (.tmp 18)))))))] []))
                    (.cond (.tmp 148) [148]
                      (.seq
                      (.reg false (.fin [4] [(4, (.con (.bool false)))] []))
                      .ret)
                      .skip)))
                  (.reg false (.fin [134, 135, 18] [(18, (.bin (.arith .add) (.tmp 18) (.con (.int .i64 1))))] []))))
def L.law03_CheckWays.l8 : LC :=
  (.seq
                  (.seq
                  (.reg false (.fin [155, 156, 157, 158] [(158, (.bin (.cmp .lss) (.tmp 20) (.un .len (.tmp 19))))] []))
                  (.cond (.tmp 158) [158]
                    .skip
                    (.exit 14)))
                  (.seq
                  (.block 15
                    (.reg false (.loud [161, 162, 163, 164, 165, 166] [] [(166, (.bin (.idx 1) (.tmp 7) (.un .load (.bin (.idx 1) (.tmp 19) (.tmp 20)))))] none [] false (.store 4 (.tmp 166) (.const (.bool true))) 0 none false
                      (.fin [] [] []))))
                  (.reg false (.fin [159, 160, 20] [(20, (.bin (.arith .add) (.tmp 20) (.con (.int .i64 1))))] []))))
def L.law03_CheckWays.l6 : LC :=
  (.seq
            (.seq
            (.reg false (.fin [118, 119, 120, 121, 122] [(122, (.bin (.cmp .lss) (.tmp 17) (.un .len (.un .load (.un (.fld 1) (.tmp 12))))))] []))
            (.cond (.tmp 122) [122]
              .skip
              (.exit 10)))
            (.seq
            (.block 11
              (.seq
              (.seq
              (.reg false (.fin [18] [(18, (.con (.int .i64 0)))] []))
              (.block 12
                (.loop L.law03_CheckWays.l7)))
              (.seq
              (.reg false (.loud [149, 150, 151, 152, 153] [] [(153, (.un (.loads 5) (.bin (.idx 5) (.un .load (.un (.fld 1) (.tmp 12))) (.tmp 17))))] none [] false (.call ⟨.value (.func 27), #[(.tmp 153)], #[58]⟩) 28 (some 154) true
                (.fin [19] [(19, (.tmp 154))] [])))
              (.seq
              (.reg false (.fin [20] [(20, (.con (.int .i64 0)))] []))
              (.block 14
                (.loop L.law03_CheckWays.l8))))))
            (.reg false (.fin [123, 124, 17] [(17, (.bin (.arith .add) (.tmp 17) (.con (.int .i64 1))))] []))))
def L.law03_CheckWays.l9 : LC :=
  (.seq
            (.seq
            (.reg false (.fin [167, 168, 169, 170, 171, 172] [(172, (.bin (.cmp .lss) (.tmp 21) (.un .len (.un .load (.un (.fld 1) (.un (.fld 2) (.tmp 12)))))))] []))
            (.cond (.tmp 172) [172]
              .skip
              (.exit 16)))
            (.seq
            (.block 17
              (.seq
              (.reg false (.fin [175, 176, 177, 178, 179, 180, 181, 182, 183, 184] [(184, (.un .not (.un .load (.bin (.idx 1) (.tmp 7) (.un .load (.bin (.idx 1) (.un .load (.un (.fld 1) (.un (.fld 2) (.tmp 12)))) (.tmp 21)))))))] []))
              (.cond (.tmp 184) [184]
                (.seq
                (.reg false (.fin [4] [(4, (.con (.bool false)))] []))
                .ret)
                .skip)))
            (.reg false (.fin [173, 174, 21] [(21, (.bin (.arith .add) (.tmp 21) (.con (.int .i64 1))))] []))))
def L.law03_CheckWays.l2 : LC :=
  (.seq
      (.seq
      (.reg false (.fin [44, 45] [(45, (.bin (.cmp .lss) (.tmp 11) (.con (.int .i64 200))))] []))
      (.cond (.tmp 45) [45]
        .skip
        (.exit 2)))
      (.seq
      (.block 3
        (.seq
        (.reg false (.loud [48, 49, 50, 51, 52] [(52, (.un (.loads 6) (.bin (.idx 6) (.un .load (.un (.fld 1) (.tmp 6))) (.tmp 9))))] [] none [] false (.alloc 51) 0 (some 12) true
          (.loud [] [] [(12, (.tmp 12)), (52, (.tmp 52))] none [] false (.store 51 (.tmp 12) (.tmp 52)) 0 none false
            (.fin [] [] []))))
        (.seq
        (.seq
        (.reg false (.fin [13] [(13, (.con (.int .i64 0)))] []))
        (.block 4
          (.loop L.law03_CheckWays.l3)))
        (.seq
        (.seq
        (.reg false (.fin [16] [(16, (.con (.int .i64 0)))] []))
        (.block 8
          (.loop L.law03_CheckWays.l5)))
        (.seq
        (.seq
        (.reg false (.fin [17] [(17, (.con (.int .i64 0)))] []))
        (.block 10
          (.loop L.law03_CheckWays.l6)))
        (.seq
        (.seq
        (.reg false (.fin [21] [(21, (.con (.int .i64 0)))] []))
        (.block 16
          (.loop L.law03_CheckWays.l9)))
        (.seq
        (.seq
        (.reg false (.fin [185, 186, 187, 188, 189] [(189, (.bin (.cmp .eql) (.un .len (.un .load (.un (.fld 2) (.un (.fld 2) (.tmp 12))))) (.con (.int .i64 0))))] []))
        (.cond (.tmp 189) [189]
          (.seq
          (.reg false (.fin [190, 4] [(4, (.tmp 5))] []))
          .ret)
          .skip))
        (.seq
        (.reg false (.fin [191, 22] [(22, (.tmp 11))] []))
        (.seq
        (.seq
        (.reg false (.fin [192, 193, 194, 195] [(195, (.bin (.cmp .lss) (.tmp 11) (.un .len (.tmp 1))))] []))
        (.cond (.tmp 195) [195]
          (.reg false (.fin [196, 197, 198, 199, 200, 22] [(22, (.bin (.bits .and) (.un .load (.bin (.idx 1) (.tmp 1) (.tmp 11))) (.con (.int .i64 65535))))] []))
          .skip))
        (.seq
        (.reg false (.fin [201, 10] [(10, (.tmp 9))] []))
        (.reg true (.fin [202, 203, 204, 205, 206, 207, 208, 209, 210, 211, 212, 9] [(9, (.un .load (.bin (.idx 1) (.un .load (.un (.fld 2) (.un (.fld 2) (.tmp 12)))) (.bin (.div .rem) (.tmp 22) (.un .len (.un .load (.un (.fld 2) (.un (.fld 2) (.tmp 12)))))))))] []))))))))))))
      (.reg false (.fin [46, 47, 11] [(11, (.bin (.arith .add) (.tmp 11) (.con (.int .i64 1))))] []))))
def L.law03_CheckWays : LFn :=
⟨[(.tmp 4)],
  (.seq
  (.reg false (.loud [] [] [(0, (.tmp 0))] none [] false (.box 39 (.tmp 0)) 0 (some 2) true
    (.fin [4] [(4, (.con (.bool false)))] [])))
  (.seq
  (.reg false (.loud [] [] [] none [] false (.call ⟨.value (.func 13), #[], #[]⟩) 4 (some 23) true
    (.fin [5] [(5, (.tmp 23))] [])))
  (.seq
  (.reg true (.both
    (.loud [24, 25, 27, 28] [(28, (.un (.loads 3) (.un (.fld 1) (.tmp 2))))] [(25, (.un .load (.un (.fld 0) (.tmp 2))))] none [] false (.call ⟨.value (.func 16), #[(.tmp 25)], #[28]⟩) 24 (some 26) true
      (.both
        (.loud [] [] [(26, (.tmp 26)), (28, (.tmp 28))] none [] true (.call ⟨.value (.func 17), #[(.tmp 26), (.tmp 28)], #[24, 32]⟩) 24 (some 29) true
          (.loud [] [] [] none [] false (.alloc 24) 0 (some 6) true
            (.loud [] [] [(6, (.tmp 6)), (29, (.tmp 29))] none [] false (.store 24 (.tmp 6) (.tmp 29)) 0 none false
              (.fin [] [] []))))
        (.loud [] [] [] none [] false (.alloc 24) 0 (some 6) true
          (.loud [] [] [(26, (.tmp 26)), (28, (.tmp 28))] none [] true (.call ⟨.value (.func 17), #[(.tmp 26), (.tmp 28)], #[24, 32]⟩) 24 (some 29) true
            (.loud [] [] [(6, (.tmp 6)), (29, (.tmp 29))] none [] false (.store 24 (.tmp 6) (.tmp 29)) 0 none false
              (.fin [] [] []))))))
    (.loud [24, 25, 27, 28] [(25, (.un .load (.un (.fld 0) (.tmp 2)))), (28, (.un (.loads 3) (.un (.fld 1) (.tmp 2))))] [] none [] false (.alloc 24) 0 (some 6) true
      (.loud [] [] [(25, (.tmp 25))] none [] false (.call ⟨.value (.func 16), #[(.tmp 25)], #[28]⟩) 24 (some 26) true
        (.loud [] [] [(26, (.tmp 26)), (28, (.tmp 28))] none [] true (.call ⟨.value (.func 17), #[(.tmp 26), (.tmp 28)], #[24, 32]⟩) 24 (some 29) true
          (.loud [] [] [(6, (.tmp 6)), (29, (.tmp 29))] none [] false (.store 24 (.tmp 6) (.tmp 29)) 0 none false
            (.fin [] [] [])))))))
  (.seq
  (.seq
  (.reg false (.loud [30] [] [(30, (.un (.loads 2) (.tmp 6)))] none [] false (.call ⟨.value (.func 26), #[(.tmp 30)], #[24]⟩) 4 (some 31) true
    (.fin [32] [(32, (.un .not (.tmp 31)))] [])))
  (.cond (.tmp 32) [32]
    (.seq
    (.reg false (.fin [33, 4] [(4, (.tmp 5))] []))
    .ret)
    .skip))
  (.seq
  (.reg false (.loud [] [] [] none [] false (.makeSlice 45 (.const (.int .i64 8192)) (.const (.int .i64 8192))) 45 (some 34) true
    (.fin [7] [(7, (.tmp 34))] [])))
  (.seq
  (.seq
  (.reg false (.fin [8] [(8, (.con (.int .i64 0)))] []))
  (.block 0
    (.loop L.law03_CheckWays.l1)))
  (.seq
  (.reg false (.fin [9] [(9, (.con (.int .i64 0)))] []))
  (.seq
  (.reg false (.fin [10] [(10, (.con (.int .i64 (-1))))] []))
  (.seq
  (.seq
  (.reg false (.fin [11] [(11, (.con (.int .i64 0)))] []))
  (.block 2
    (.loop L.law03_CheckWays.l2)))
  (.seq
  (.reg false (.fin [213, 4] [(4, (.tmp 5))] []))
  .ret))))))))))⟩
theorem E.law03_CheckWays : liftF Try.prog Try.f7 = some L.law03_CheckWays := by kernel_rfl
theorem F.law03_CheckWays : Try.prog.funcs[N.law03_CheckWays]? = some Try.f7 := Try.func7

/-- jacquard/jacquardlaw03.CheckShifted -/
abbrev N.law03_CheckShifted : Nat := 8
def L.law03_CheckShifted.l1 : LC :=
  (.seq
      (.seq
      (.reg false (.fin [42, 43, 44, 45, 46, 47, 48, 49, 50, 51] [(51, (.ite (.bin (.cmp .lss) (.tmp 10) (.tmp 8)) (.bin (.cmp .lss) (.tmp 10) (.bin (.arith .add) (.un .load (.un (.fld 0) (.tmp 6))) (.con (.int .i64 30)))) (.con (.bool false))))] []))
      (.cond (.tmp 51) [51]
        .skip
        (.exit 0)))
      (.seq
      (.block 1
        (.seq
        (.reg true (.loud [54, 55, 57, 58, 59, 60] [(57, (.un (.loads 2) (.tmp 7))), (60, (.bin (.arith .add) (.tmp 10) (.tmp 1)))] [(54, (.un (.loads 2) (.tmp 6))), (55, (.tmp 10))] none [] false (.call ⟨.value (.func 24), #[(.tmp 54), (.tmp 55)], #[24, 3]⟩) 4 (some 56) true
          (.loud [] [] [(57, (.tmp 57)), (60, (.tmp 60))] none [] true (.call ⟨.value (.func 24), #[(.tmp 57), (.tmp 60)], #[24, 3]⟩) 4 (some 61) true
            (.fin [62] [(62, (.bin (.eqB true) (.tmp 56) (.tmp 61)))] []))))
        (.cond (.tmp 62) [62]
          (.seq
          (.reg false (.fin [4] [(4, (.con (.bool false)))] []))
          .ret)
          .skip)))
      (.reg false (.fin [52, 53, 10] [(10, (.bin (.arith .add) (.tmp 10) (.con (.int .i64 1))))] []))))
def L.law03_CheckShifted : LFn :=
⟨[(.tmp 4)],
  (.seq
  (.reg false (.loud [] [] [(0, (.tmp 0))] none [] false (.box 39 (.tmp 0)) 0 (some 2) true
    (.fin [4] [(4, (.con (.bool false)))] [])))
  (.seq
  (.reg false (.loud [] [] [] none [] false (.call ⟨.value (.func 13), #[], #[]⟩) 4 (some 11) true
    (.fin [5] [(5, (.tmp 11))] [])))
  (.seq
  (.reg true (.both
    (.loud [12, 13, 15, 16] [(16, (.un (.loads 3) (.un (.fld 1) (.tmp 2))))] [(13, (.un .load (.un (.fld 0) (.tmp 2))))] none [] false (.call ⟨.value (.func 16), #[(.tmp 13)], #[28]⟩) 24 (some 14) true
      (.both
        (.loud [] [] [(14, (.tmp 14)), (16, (.tmp 16))] none [] true (.call ⟨.value (.func 17), #[(.tmp 14), (.tmp 16)], #[24, 32]⟩) 24 (some 17) true
          (.both
            (.loud [] [] [(17, (.tmp 17))] none [] false (.call ⟨.value (.func 15), #[(.tmp 17)], #[24]⟩) 24 (some 18) true
              (.loud [] [] [] none [] false (.alloc 24) 0 (some 6) true
                (.loud [] [] [(6, (.tmp 6)), (18, (.tmp 18))] none [] false (.store 24 (.tmp 6) (.tmp 18)) 0 none false
                  (.fin [] [] []))))
            (.loud [] [] [] none [] false (.alloc 24) 0 (some 6) true
              (.loud [] [] [(17, (.tmp 17))] none [] false (.call ⟨.value (.func 15), #[(.tmp 17)], #[24]⟩) 24 (some 18) true
                (.loud [] [] [(6, (.tmp 6)), (18, (.tmp 18))] none [] false (.store 24 (.tmp 6) (.tmp 18)) 0 none false
                  (.fin [] [] []))))))
        (.loud [] [] [] none [] false (.alloc 24) 0 (some 6) true
          (.loud [] [] [(14, (.tmp 14)), (16, (.tmp 16))] none [] true (.call ⟨.value (.func 17), #[(.tmp 14), (.tmp 16)], #[24, 32]⟩) 24 (some 17) true
            (.loud [] [] [(17, (.tmp 17))] none [] false (.call ⟨.value (.func 15), #[(.tmp 17)], #[24]⟩) 24 (some 18) true
              (.loud [] [] [(6, (.tmp 6)), (18, (.tmp 18))] none [] false (.store 24 (.tmp 6) (.tmp 18)) 0 none false
                (.fin [] [] [])))))))
    (.loud [12, 13, 15, 16] [(13, (.un .load (.un (.fld 0) (.tmp 2)))), (16, (.un (.loads 3) (.un (.fld 1) (.tmp 2))))] [] none [] false (.alloc 24) 0 (some 6) true
      (.loud [] [] [(13, (.tmp 13))] none [] false (.call ⟨.value (.func 16), #[(.tmp 13)], #[28]⟩) 24 (some 14) true
        (.loud [] [] [(14, (.tmp 14)), (16, (.tmp 16))] none [] true (.call ⟨.value (.func 17), #[(.tmp 14), (.tmp 16)], #[24, 32]⟩) 24 (some 17) true
          (.loud [] [] [(17, (.tmp 17))] none [] false (.call ⟨.value (.func 15), #[(.tmp 17)], #[24]⟩) 24 (some 18) true
            (.loud [] [] [(6, (.tmp 6)), (18, (.tmp 18))] none [] false (.store 24 (.tmp 6) (.tmp 18)) 0 none false
              (.fin [] [] []))))))))
  (.seq
  (.seq
  (.reg false (.loud [19] [] [(19, (.un (.loads 2) (.tmp 6)))] none [] false (.call ⟨.value (.func 26), #[(.tmp 19)], #[24]⟩) 4 (some 20) true
    (.fin [21] [(21, (.un .not (.tmp 20)))] [])))
  (.cond (.tmp 21) [21]
    (.seq
    (.reg false (.fin [22, 4] [(4, (.tmp 5))] []))
    .ret)
    .skip))
  (.seq
  (.reg false (.fin [23, 24, 25, 26, 1] [(1, (.bin (.arith .add) (.con (.int .i64 1)) (.bin (.div .rem) (.bin (.bits .and) (.tmp 1) (.con (.int .i64 65535))) (.con (.int .i64 4000)))))] []))
  (.seq
  (.reg false (.loud [27, 28] [] [(27, (.un (.loads 2) (.tmp 6))), (28, (.tmp 1))] none [] false (.call ⟨.value (.func 28), #[(.tmp 27), (.tmp 28)], #[24, 3]⟩) 24 (some 29) true
    (.loud [] [] [] none [] false (.alloc 24) 0 (some 7) true
      (.loud [] [] [(7, (.tmp 7)), (29, (.tmp 29))] none [] false (.store 24 (.tmp 7) (.tmp 29)) 0 none false
        (.fin [] [] [])))))
  (.seq
  (.reg false (.loud [30] [] [(30, (.un (.loads 2) (.tmp 6)))] none [] false (.call ⟨.value (.func 19), #[(.tmp 30)], #[24]⟩) 3 (some 31) true
    (.fin [8] [(8, (.tmp 31))] [])))
  (.seq
  (.reg false (.fin [32, 9] [(9, (.tmp 8))] []))
  (.seq
  (.seq
  (.reg false (.fin [33, 34, 35, 36] [(36, (.bin (.cmp .gtr) (.tmp 8) (.un .load (.un (.fld 0) (.tmp 6)))))] []))
  (.cond (.tmp 36) [36]
    (.reg false (.fin [37, 38, 39, 9] [(9, (.bin (.arith .add) (.tmp 8) (.tmp 1)))] []))
    .skip))
  (.seq
  (.seq
  (.reg false (.fin [40, 41, 10] [(10, (.un .load (.un (.fld 0) (.tmp 6))))] []))
  (.block 0
    (.loop L.law03_CheckShifted.l1)))
  (.seq
  (.reg false (.loud [63, 64, 65] [(64, (.tmp 5))] [(65, (.gd (.tmp 5) true (.un (.loads 2) (.tmp 7))))] (some ((.tmp 5), true)) [] false (.call ⟨.value (.func 26), #[(.tmp 65)], #[24]⟩) 4 (some 66) true
    (.loud [67, 68, 69] [(68, (.ite (.tmp 64) (.tmp 66) (.con (.bool false))))] [(69, (.gd (.ite (.tmp 64) (.tmp 66) (.con (.bool false))) true (.un (.loads 2) (.tmp 7))))] (some ((.ite (.tmp 64) (.tmp 66) (.con (.bool false))), true)) [] false (.call ⟨.value (.func 19), #[(.tmp 69)], #[24]⟩) 3 (some 70) true
      (.fin [71, 72, 73, 4] [(4, (.ite (.tmp 68) (.bin (.cmp .eql) (.tmp 70) (.tmp 9)) (.con (.bool false))))] []))))
  .ret)))))))))))⟩
theorem E.law03_CheckShifted : liftF Try.prog Try.f8 = some L.law03_CheckShifted := by kernel_rfl
theorem F.law03_CheckShifted : Try.prog.funcs[N.law03_CheckShifted]? = some Try.f8 := Try.func8

/-- jacquard/jacquardlaw03.CheckTwice -/
abbrev N.law03_CheckTwice : Nat := 9
def L.law03_CheckTwice.l1 : LC :=
  (.seq
      (.seq
      (.reg false (.fin [36, 37, 38, 39] [(39, (.bin (.cmp .lss) (.tmp 12) (.un .len (.tmp 10))))] []))
      (.cond (.tmp 39) [39]
        .skip
        (.exit 0)))
      (.seq
      (.block 1
        (.seq
        (.reg false (.fin [42, 43, 44, 45, 46, 47] [(47, (.bin (.cmp .neq) (.un .load (.un (.fld 0) (.bin (.idx 5) (.tmp 10) (.tmp 12)))) (.con (.int .i64 16))))] []))
        (.cond (.tmp 47) [47]
          (.reg false (.loud [48, 49] [(48, (.tmp 11))] [(49, (.tmp 12))] none [] false (.buildSlice 28 1 #[(0, (.tmp 49))]) 28 (some 50) true
            (.loud [] [] [(48, (.tmp 48)), (50, (.tmp 50))] none [] false (.call ⟨.builtin .append, #[(.tmp 48), (.tmp 50)], #[28, 28]⟩) 28 (some 51) true
              (.fin [11] [(11, (.tmp 51))] []))))
          .skip)))
      (.reg false (.fin [40, 41, 12] [(12, (.bin (.arith .add) (.tmp 12) (.con (.int .i64 1))))] []))))
def L.law03_CheckTwice : LFn :=
⟨[(.tmp 6)],
  (.seq
  (.reg false (.loud [] [] [(1, (.tmp 1))] none [] false (.box 32 (.tmp 1)) 0 (some 4) true
    (.fin [6] [(6, (.con (.bool false)))] [])))
  (.seq
  (.reg false (.loud [] [] [] none [] false (.call ⟨.value (.func 13), #[], #[]⟩) 4 (some 19) true
    (.fin [7] [(7, (.tmp 19))] [])))
  (.seq
  (.reg false (.loud [20] [] [(20, (.tmp 0))] none [] false (.call ⟨.value (.func 16), #[(.tmp 20)], #[28]⟩) 24 (some 21) true
    (.loud [] [] [] none [] false (.alloc 24) 0 (some 8) true
      (.loud [] [] [(8, (.tmp 8)), (21, (.tmp 21))] none [] false (.store 24 (.tmp 8) (.tmp 21)) 0 none false
        (.fin [] [] [])))))
  (.seq
  (.reg false (.fin [22, 23, 24, 25, 26, 27, 28, 9] [(9, (.bin (.div .rem) (.bin (.bits .and) (.un .load (.bin (.aidx 3 1) (.tmp 4) (.con (.int .i64 0)))) (.con (.int .i64 65535))) (.un .len (.un .load (.un (.fld 1) (.tmp 8))))))] []))
  (.seq
  (.reg false (.fin [29, 30, 31, 32, 33, 34, 10] [(10, (.un .load (.un (.fld 1) (.bin (.idx 6) (.un .load (.un (.fld 1) (.tmp 8))) (.tmp 9)))))] []))
  (.seq
  (.reg false (.loud [] [] [] none [] false (.buildSlice 28 0 #[]) 28 (some 35) true
    (.fin [11] [(11, (.tmp 35))] [])))
  (.seq
  (.seq
  (.reg false (.fin [12] [(12, (.con (.int .i64 0)))] []))
  (.block 0
    (.loop L.law03_CheckTwice.l1)))
  (.seq
  (.seq
  (.reg false (.fin [52, 53, 54] [(54, (.bin (.cmp .eql) (.un .len (.tmp 11)) (.con (.int .i64 0))))] []))
  (.cond (.tmp 54) [54]
    (.seq
    (.reg false (.fin [55, 6] [(6, (.tmp 7))] []))
    .ret)
    .skip))
  (.seq
  (.reg false (.fin [56, 57, 58, 59, 60, 61, 62, 63, 64, 13] [(13, (.un .load (.bin (.idx 1) (.tmp 11) (.bin (.div .rem) (.bin (.bits .and) (.un .load (.bin (.aidx 3 1) (.tmp 4) (.con (.int .i64 1)))) (.con (.int .i64 65535))) (.un .len (.tmp 11))))))] []))
  (.seq
  (.reg false (.fin [65, 66, 67, 68, 69, 70, 71, 72, 73, 14] [(14, (.un .load (.bin (.idx 1) (.tmp 11) (.bin (.div .rem) (.bin (.bits .and) (.un .load (.bin (.aidx 3 1) (.tmp 4) (.con (.int .i64 2)))) (.con (.int .i64 65535))) (.un .len (.tmp 11))))))] []))
  (.seq
  (.reg false (.fin [74, 75, 76, 77, 78, 15] [(15, (.un .load (.un (.fld 1) (.bin (.idx 5) (.tmp 10) (.tmp 13)))))] []))
  (.seq
  (.reg false (.loud [79, 80, 81, 82, 83, 84, 85, 86] [] [(86, (.un (.fld 1) (.bin (.idx 5) (.tmp 10) (.tmp 13)))), (84, (.bin (.arith .add) (.con (.int .i64 8192)) (.bin (.div .rem) (.bin (.bits .and) (.tmp 2) (.con (.int .i64 65535))) (.con (.int .i64 100)))))] none [] false (.store 3 (.tmp 86) (.tmp 84)) 0 none false
    (.fin [] [] [])))
  (.seq
  (.reg false (.loud [88] [] [(88, (.un (.loads 2) (.tmp 8)))] none [] false (.call ⟨.value (.func 18), #[(.tmp 88)], #[24]⟩) 35 (some 89) true
    (.fin [87, 90, 91, 92, 16, 17, 18] [(16, (.un (.ext 0) (.tmp 89))), (17, (.un (.ext 1) (.tmp 89))), (18, (.un (.ext 2) (.tmp 89)))] [])))
  (.seq
  (.seq
  (.reg false (.fin [93, 94, 95, 96, 97, 98, 99, 100, 101, 102, 103, 104] [(104, (.ite (.ite (.bin (.cmp .neq) (.tmp 16) (.con (.int .i64 11))) (.con (.bool true)) (.bin (.cmp .neq) (.tmp 17) (.tmp 9))) (.con (.bool true)) (.bin (.cmp .neq) (.tmp 18) (.tmp 13))))] []))
  (.cond (.tmp 104) [104]
    (.seq
    (.reg false (.fin [6] [(6, (.con (.bool false)))] []))
    .ret)
    .skip))
  (.seq
  (.seq
  (.reg false (.fin [105, 106, 107] [(107, (.bin (.cmp .gtr) (.un .load (.un (.fld 0) (.tmp 8))) (.con (.int .i64 0))))] []))
  (.cond (.tmp 107) [107]
    (.seq
    (.reg false (.loud [108, 109, 110, 111, 112, 113, 114, 115, 116] [] [(116, (.un (.fld 1) (.bin (.idx 5) (.tmp 10) (.tmp 13)))), (114, (.bin (.div .rem) (.bin (.bits .and) (.tmp 2) (.con (.int .i64 65535))) (.un .load (.un (.fld 0) (.tmp 8)))))] none [] false (.store 3 (.tmp 116) (.tmp 114)) 0 none false
      (.fin [] [] [])))
    (.seq
    (.reg false (.loud [118] [] [(118, (.un (.loads 2) (.tmp 8)))] none [] false (.call ⟨.value (.func 18), #[(.tmp 118)], #[24]⟩) 35 (some 119) true
      (.fin [117, 120, 121, 122, 16, 17, 18] [(16, (.un (.ext 0) (.tmp 119))), (17, (.un (.ext 1) (.tmp 119))), (18, (.un (.ext 2) (.tmp 119)))] [])))
    (.seq
    (.reg false (.fin [123, 124, 125, 126, 127, 128, 129, 130, 131, 132, 133, 134] [(134, (.ite (.ite (.bin (.cmp .neq) (.tmp 16) (.con (.int .i64 11))) (.con (.bool true)) (.bin (.cmp .neq) (.tmp 17) (.tmp 9))) (.con (.bool true)) (.bin (.cmp .neq) (.tmp 18) (.tmp 13))))] []))
    (.cond (.tmp 134) [134]
      (.seq
      (.reg false (.fin [6] [(6, (.con (.bool false)))] []))
      .ret)
      .skip))))
    .skip))
  (.seq
  (.seq
  (.reg false (.fin [135, 136, 137] [(137, (.bin (.cmp .eql) (.tmp 13) (.tmp 14)))] []))
  (.cond (.tmp 137) [137]
    (.seq
    (.reg false (.loud [138, 139, 140, 141, 142] [] [(142, (.un (.fld 1) (.bin (.idx 5) (.tmp 10) (.tmp 13)))), (140, (.tmp 15))] none [] false (.store 3 (.tmp 142) (.tmp 140)) 0 none false
      (.fin [] [] [])))
    (.seq
    (.reg false (.loud [143, 144, 145] [(144, (.tmp 7))] [(145, (.gd (.tmp 7) true (.un (.loads 2) (.tmp 8))))] (some ((.tmp 7), true)) [] false (.call ⟨.value (.func 26), #[(.tmp 145)], #[24]⟩) 4 (some 146) true
      (.fin [147, 6] [(6, (.ite (.tmp 144) (.tmp 146) (.con (.bool false))))] [])))
    .ret))
    .skip))
  (.seq
  (.reg false (.loud [148, 149, 150, 151, 152, 153, 154, 155, 156] [] [(156, (.un (.fld 1) (.bin (.idx 5) (.tmp 10) (.tmp 13)))), (154, (.un .load (.un (.fld 1) (.bin (.idx 5) (.tmp 10) (.tmp 14)))))] none [] false (.store 3 (.tmp 156) (.tmp 154)) 0 none false
    (.fin [] [] [])))
  (.seq
  (.reg false (.loud [158] [] [(158, (.un (.loads 2) (.tmp 8)))] none [] false (.call ⟨.value (.func 18), #[(.tmp 158)], #[24]⟩) 35 (some 159) true
    (.fin [157, 160, 161, 162, 16, 17] [(16, (.un (.ext 0) (.tmp 159))), (17, (.un (.ext 1) (.tmp 159)))] [(.un (.ext 2) (.tmp 159))])))
  (.seq
  (.reg false (.fin [163, 164, 165, 166, 167, 168, 169, 170, 171, 172, 6] [(6, (.ite (.ite (.tmp 7) (.bin (.cmp .eql) (.tmp 16) (.con (.int .i64 12))) (.con (.bool false))) (.bin (.cmp .eql) (.tmp 17) (.tmp 9)) (.con (.bool false))))] []))
  .ret)))))))))))))))))))⟩
theorem E.law03_CheckTwice : liftF Try.prog Try.f9 = some L.law03_CheckTwice := by kernel_rfl
theorem F.law03_CheckTwice : Try.prog.funcs[N.law03_CheckTwice]? = some Try.f9 := Try.func9

/-- jacquard/jacquardlaw03.CheckReach -/
abbrev N.law03_CheckReach : Nat := 10
def L.law03_CheckReach.l1 : LC :=
  (.seq
      (.seq
      (.reg false (.fin [24, 25, 26] [(26, (.bin (.cmp .lss) (.tmp 8) (.tmp 1)))] []))
      (.cond (.tmp 26) [26]
        .skip
        (.exit 0)))
      (.seq
      (.block 1
        (.seq
        (.reg false (.loud [] [] [] none [] false (.build 49 #[(0, (.const (.int .i64 5))), (3, (.const (.int .i32 7)))]) 49 (some 29) true
          (.loud [] [] [(29, (.tmp 29))] none [] false (.build 51 #[(2, (.tmp 29))]) 51 (some 30) true
            (.loud [] [] [] none [] false (.alloc 51) 0 (some 9) true
              (.loud [] [] [(9, (.tmp 9)), (30, (.tmp 30))] none [] false (.store 51 (.tmp 9) (.tmp 30)) 0 none false
                (.fin [] [] []))))))
        (.seq
        (.seq
        (.reg false (.fin [31, 32, 33, 34] [(34, (.bin (.cmp .lss) (.bin (.arith .add) (.tmp 8) (.con (.int .i64 1))) (.tmp 1)))] []))
        (.cond (.tmp 34) [34]
          (.reg false (.loud [35, 36, 37, 38] [] [(38, (.bin (.arith .add) (.bin (.arith .add) (.tmp 7) (.tmp 8)) (.con (.int .i64 1))))] none [] false (.buildSlice 28 1 #[(0, (.tmp 38))]) 28 (some 39) true
            (.loud [] [] [(39, (.tmp 39))] none [] false (.build 49 #[(0, (.const (.int .i64 1))), (2, (.tmp 39))]) 49 (some 40) true
              (.loud [41] [] [(41, (.un (.fld 2) (.tmp 9))), (40, (.tmp 40))] none [] false (.store 49 (.tmp 41) (.tmp 40)) 0 none false
                (.fin [] [] [])))))
          .skip))
        (.reg false (.loud [42, 43, 44] [(43, (.un .load (.un (.fld 1) (.tmp 6))))] [(44, (.un (.loads 6) (.tmp 9)))] none [] false (.buildSlice 22 1 #[(0, (.tmp 44))]) 22 (some 45) true
          (.loud [] [] [(43, (.tmp 43)), (45, (.tmp 45))] none [] false (.call ⟨.builtin .append, #[(.tmp 43), (.tmp 45)], #[22, 22]⟩) 22 (some 46) true
            (.loud [47] [] [(47, (.un (.fld 1) (.tmp 6))), (46, (.tmp 46))] none [] false (.store 22 (.tmp 47) (.tmp 46)) 0 none false
              (.fin [] [] []))))))))
      (.reg false (.fin [27, 28, 8] [(8, (.bin (.arith .add) (.tmp 8) (.con (.int .i64 1))))] []))))
def L.law03_CheckReach.l2 : LC :=
  (.seq
      (.seq
      (.reg false (.fin [65, 66, 67] [(67, (.bin (.cmp .lss) (.tmp 13) (.tmp 7)))] []))
      (.cond (.tmp 67) [67]
        .skip
        (.exit 2)))
      (.seq
      (.block 3
        (.seq
        (.reg false (.fin [70, 71, 72, 73, 74, 75, 76, 77, 78] [(78, (.bin (.cmp .eql) (.un .len (.un .load (.un (.fld 2) (.un (.fld 2) (.bin (.idx 6) (.un .load (.un (.fld 1) (.tmp 6))) (.tmp 13)))))) (.con (.int .i64 0))))] []))
        (.cond (.tmp 78) [78]
          (.seq
          (.reg false (.loud [79, 80, 81, 82] [(80, (.un .load (.un (.fld 1) (.tmp 6)))), (81, (.tmp 13))] [(82, (.tmp 7))] none [] false (.buildSlice 28 1 #[(0, (.tmp 82))]) 28 (some 83) true
            (.loud [] [] [(83, (.tmp 83))] none [] false (.build 49 #[(0, (.const (.int .i64 1))), (2, (.tmp 83))]) 49 (some 84) true
              (.loud [85, 86] [] [(86, (.un (.fld 2) (.bin (.idx 6) (.tmp 80) (.tmp 81)))), (84, (.tmp 84))] none [] false (.store 49 (.tmp 86) (.tmp 84)) 0 none false
                (.fin [] [] [])))))
          (.seq
          (.reg false (.loud [87, 88, 89] [(88, (.tmp 5))] [(89, (.gd (.tmp 5) true (.un (.loads 2) (.tmp 6))))] (some ((.tmp 5), true)) [] false (.call ⟨.value (.func 26), #[(.tmp 89)], #[24]⟩) 4 (some 90) true
            (.fin [91, 4] [(4, (.ite (.tmp 88) (.tmp 90) (.con (.bool false))))] [])))
          .ret))
          .skip)))
      (.reg false (.fin [68, 69, 13] [(13, (.bin (.arith .add) (.tmp 13) (.con (.int .i64 1))))] []))))
def L.law03_CheckReach : LFn :=
⟨[(.tmp 4)],
  (.seq
  (.reg false (.fin [4] [(4, (.con (.bool false)))] []))
  (.seq
  (.reg false (.loud [] [] [] none [] false (.call ⟨.value (.func 13), #[], #[]⟩) 4 (some 14) true
    (.fin [5] [(5, (.tmp 14))] [])))
  (.seq
  (.reg false (.loud [15] [] [(15, (.tmp 0))] none [] false (.call ⟨.value (.func 16), #[(.tmp 15)], #[28]⟩) 24 (some 16) true
    (.loud [] [] [] none [] false (.alloc 24) 0 (some 6) true
      (.loud [] [] [(6, (.tmp 6)), (16, (.tmp 16))] none [] false (.store 24 (.tmp 6) (.tmp 16)) 0 none false
        (.fin [] [] [])))))
  (.seq
  (.reg false (.fin [17, 18, 19, 20, 1] [(1, (.bin (.arith .add) (.con (.int .i64 1)) (.bin (.div .rem) (.bin (.bits .and) (.tmp 1) (.con (.int .i64 65535))) (.con (.int .i64 5)))))] []))
  (.seq
  (.reg false (.fin [21, 22, 23, 7] [(7, (.un .len (.un .load (.un (.fld 1) (.tmp 6)))))] []))
  (.seq
  (.seq
  (.reg false (.fin [8] [(8, (.con (.int .i64 0)))] []))
  (.block 0
    (.loop L.law03_CheckReach.l1)))
  (.seq
  (.reg false (.loud [49] [] [(49, (.un (.loads 2) (.tmp 6)))] none [] false (.call ⟨.value (.func 18), #[(.tmp 49)], #[24]⟩) 35 (some 50) true
    (.fin [48, 51, 52, 53, 10, 11, 12] [(10, (.un (.ext 0) (.tmp 50))), (11, (.un (.ext 1) (.tmp 50))), (12, (.un (.ext 2) (.tmp 50)))] [])))
  (.seq
  (.seq
  (.reg false (.fin [54, 55, 56, 57, 58, 59, 60, 61, 62, 63, 64] [(64, (.ite (.ite (.bin (.cmp .neq) (.tmp 10) (.con (.int .i64 15))) (.con (.bool true)) (.bin (.cmp .neq) (.tmp 11) (.tmp 7))) (.con (.bool true)) (.bin (.cmp .neq) (.tmp 12) (.con (.int .i64 0)))))] []))
  (.cond (.tmp 64) [64]
    (.seq
    (.reg false (.fin [4] [(4, (.con (.bool false)))] []))
    .ret)
    .skip))
  (.seq
  (.seq
  (.reg false (.fin [13] [(13, (.con (.int .i64 0)))] []))
  (.block 2
    (.loop L.law03_CheckReach.l2)))
  (.seq
  (.reg false (.fin [92, 4] [(4, (.tmp 5))] []))
  .ret))))))))))⟩
theorem E.law03_CheckReach : liftF Try.prog Try.f10 = some L.law03_CheckReach := by kernel_rfl
theorem F.law03_CheckReach : Try.prog.funcs[N.law03_CheckReach]? = some Try.f10 := Try.func10

/-- jacquard/jacquardlaw03.CheckMany -/
abbrev N.law03_CheckMany : Nat := 11
def L.law03_CheckMany.l1 : LC :=
  (.seq
      (.seq
      (.reg false (.fin [22, 23, 24] [(24, (.bin (.cmp .lss) (.tmp 7) (.tmp 0)))] []))
      (.cond (.tmp 24) [24]
        .skip
        (.exit 0)))
      (.seq
      (.block 1
        (.seq
        (.reg false (.loud [] [] [] none [] false (.build 49 #[(0, (.const (.int .i64 4)))]) 49 (some 27) true
          (.loud [] [] [] none [] false (.alloc 49) 0 (some 8) true
            (.loud [] [] [(8, (.tmp 8)), (27, (.tmp 27))] none [] false (.store 49 (.tmp 8) (.tmp 27)) 0 none false
              (.fin [] [] [])))))
        (.seq
        (.seq
        (.reg false (.fin [28, 29, 30, 31] [(31, (.bin (.cmp .lss) (.bin (.arith .add) (.tmp 7) (.con (.int .i64 1))) (.tmp 0)))] []))
        (.cond (.tmp 31) [31]
          (.reg false (.loud [32, 33] [] [(33, (.bin (.arith .add) (.tmp 7) (.con (.int .i64 1))))] none [] false (.buildSlice 28 1 #[(0, (.tmp 33))]) 28 (some 34) true
            (.loud [] [] [(34, (.tmp 34))] none [] false (.build 49 #[(0, (.const (.int .i64 1))), (2, (.tmp 34))]) 49 (some 35) true
              (.loud [] [] [(8, (.tmp 8)), (35, (.tmp 35))] none [] false (.store 49 (.tmp 8) (.tmp 35)) 0 none false
                (.fin [] [] [])))))
          .skip))
        (.reg false (.loud [36, 37, 38] [(37, (.un .load (.un (.fld 1) (.tmp 6))))] [(38, (.un (.loads 4) (.tmp 8)))] none [] false (.build 51 #[(2, (.tmp 38))]) 51 (some 39) true
          (.loud [] [] [(39, (.tmp 39))] none [] false (.buildSlice 22 1 #[(0, (.tmp 39))]) 22 (some 40) true
            (.loud [] [] [(37, (.tmp 37)), (40, (.tmp 40))] none [] false (.call ⟨.builtin .append, #[(.tmp 37), (.tmp 40)], #[22, 22]⟩) 22 (some 41) true
              (.loud [42] [] [(42, (.un (.fld 1) (.tmp 6))), (41, (.tmp 41))] none [] false (.store 22 (.tmp 42) (.tmp 41)) 0 none false
                (.fin [] [] [])))))))))
      (.reg false (.fin [25, 26, 7] [(7, (.bin (.arith .add) (.tmp 7) (.con (.int .i64 1))))] []))))
def L.law03_CheckMany.l2 : LC :=
  (.seq
      (.seq
      (.reg false (.fin [43, 44, 45] [(45, (.bin (.cmp .lss) (.tmp 9) (.tmp 1)))] []))
      (.cond (.tmp 45) [45]
        .skip
        (.exit 2)))
      (.seq
      (.block 3
        (.reg true (.loud [48, 49, 50, 51, 52, 53, 54, 55, 56, 57, 58, 59] [(49, (.un .load (.un (.fld 1) (.tmp 6)))), (51, (.bin (.arith .sub) (.tmp 0) (.con (.int .i64 1)))), (58, (.un .load (.un (.fld 1) (.bin (.idx 6) (.un .load (.un (.fld 1) (.tmp 6))) (.bin (.arith .sub) (.tmp 0) (.con (.int .i64 1)))))))] [(59, (.tmp 9))] none [] false (.build 58 #[(0, (.const (.int .i64 1))), (1, (.tmp 59))]) 58 (some 60) true
          (.loud [] [] [(60, (.tmp 60))] none [] false (.buildSlice 47 1 #[(0, (.tmp 60))]) 47 (some 61) true
            (.loud [] [] [(58, (.tmp 58)), (61, (.tmp 61))] none [] false (.call ⟨.builtin .append, #[(.tmp 58), (.tmp 61)], #[47, 47]⟩) 47 (some 62) true
              (.loud [63, 64] [] [(64, (.un (.fld 1) (.bin (.idx 6) (.tmp 49) (.tmp 51)))), (62, (.tmp 62))] none [] true (.store 47 (.tmp 64) (.tmp 62)) 0 none false
                (.fin [] [] [])))))))
      (.reg false (.fin [46, 47, 9] [(9, (.bin (.arith .add) (.tmp 9) (.con (.int .i64 1))))] []))))
def L.law03_CheckMany : LFn :=
⟨[(.tmp 4)],
  (.seq
  (.reg false (.fin [4] [(4, (.con (.bool false)))] []))
  (.seq
  (.reg false (.loud [] [] [] none [] false (.call ⟨.value (.func 13), #[], #[]⟩) 4 (some 13) true
    (.fin [5] [(5, (.tmp 13))] [])))
  (.seq
  (.reg false (.fin [14, 15, 16, 17, 0] [(0, (.bin (.arith .add) (.con (.int .i64 1)) (.bin (.div .rem) (.bin (.bits .and) (.tmp 0) (.con (.int .i64 65535))) (.con (.int .i64 600)))))] []))
  (.seq
  (.reg false (.fin [18, 19, 20, 1] [(1, (.bin (.div .rem) (.bin (.bits .and) (.tmp 1) (.con (.int .i64 65535))) (.con (.int .i64 5000))))] []))
  (.seq
  (.reg false (.loud [] [] [] none [] false (.build 24 #[]) 24 (some 21) true
    (.loud [] [] [] none [] false (.alloc 24) 0 (some 6) true
      (.loud [] [] [(6, (.tmp 6)), (21, (.tmp 21))] none [] false (.store 24 (.tmp 6) (.tmp 21)) 0 none false
        (.fin [] [] [])))))
  (.seq
  (.seq
  (.reg false (.fin [7] [(7, (.con (.int .i64 0)))] []))
  (.block 0
    (.loop L.law03_CheckMany.l1)))
  (.seq
  (.seq
  (.reg false (.fin [9] [(9, (.con (.int .i64 0)))] []))
  (.block 2
    (.loop L.law03_CheckMany.l2)))
  (.seq
  (.reg false (.loud [66] [] [(66, (.un (.loads 2) (.tmp 6)))] none [] false (.call ⟨.value (.func 18), #[(.tmp 66)], #[24]⟩) 35 (some 67) true
    (.fin [65, 68, 69, 70, 10, 11, 12] [(10, (.un (.ext 0) (.tmp 67))), (11, (.un (.ext 1) (.tmp 67))), (12, (.un (.ext 2) (.tmp 67)))] [])))
  (.seq
  (.seq
  (.reg false (.fin [71, 72, 73, 74, 75, 76, 77, 78] [(78, (.ite (.bin (.cmp .gtr) (.tmp 0) (.con (.int .i64 512))) (.con (.bool true)) (.bin (.cmp .gtr) (.bin (.arith .add) (.tmp 0) (.tmp 1)) (.con (.int .i64 4096)))))] []))
  (.cond (.tmp 78) [78]
    (.seq
    (.reg false (.fin [79, 80, 81, 82, 83, 84, 85, 86, 87, 88, 89, 90, 91, 4] [(4, (.ite (.ite (.ite (.tmp 5) (.bin (.cmp .eql) (.tmp 10) (.con (.int .i64 2))) (.con (.bool false))) (.bin (.cmp .eql) (.tmp 11) (.con (.int .i64 0))) (.con (.bool false))) (.bin (.cmp .eql) (.tmp 12) (.con (.int .i64 0))) (.con (.bool false))))] []))
    .ret)
    .skip))
  (.seq
  (.reg false (.loud [92, 93, 94, 95, 96, 97, 98] [(97, (.ite (.tmp 5) (.bin (.cmp .eql) (.tmp 10) (.con (.int .i64 0))) (.con (.bool false))))] [(98, (.gd (.ite (.tmp 5) (.bin (.cmp .eql) (.tmp 10) (.con (.int .i64 0))) (.con (.bool false))) true (.un (.loads 2) (.tmp 6))))] (some ((.ite (.tmp 5) (.bin (.cmp .eql) (.tmp 10) (.con (.int .i64 0))) (.con (.bool false))), true)) [] false (.call ⟨.value (.func 19), #[(.tmp 98)], #[24]⟩) 3 (some 99) true
    (.fin [100, 101, 102, 4] [(4, (.ite (.tmp 97) (.bin (.cmp .eql) (.tmp 99) (.tmp 1)) (.con (.bool false))))] [])))
  .ret))))))))))⟩
theorem E.law03_CheckMany : liftF Try.prog Try.f11 = some L.law03_CheckMany := by kernel_rfl
theorem F.law03_CheckMany : Try.prog.funcs[N.law03_CheckMany]? = some Try.f11 := Try.func11

end Go.Proofs.Ytfelpjfopgiabaa

