/- A part of the proof: LftG, LftH, LftM, LftN, LftP, La. -/
import Derived.Test.YtaebcebflfgdiaaZOf1
import Derived.ChangeKeysEq
import Derived.MapKept
import Derived.ProofKit
import Derived.OpenShut
import Derived.HandedShaped
import Derived.Test.YtaebcebflfgdiaaProg
import Derived.KernelRfl
/- Loud operations: values built, variables in memory, calls of function values. -/
namespace Go.Lft
open Go
set_option linter.unusedSimpArgs false
set_option linter.unusedVariables false

@[simp] theorem addr_add {b o n : Nat} : (⟨b, o, none⟩ : Addr).add n = ⟨b, o + n, none⟩ := addr_add_none rfl n
@[simp] theorem un_nilPtr {H : View} {a : Addr} : Un.ev H .nilPtr (.pointer (some a)) = some (.pointer (some a)) := rfl
@[simp] theorem un_fld {H : View} {a : Addr} {o : Nat} : Un.ev H (.fld o) (.pointer (some a)) = some (.pointer (some (a.add o))) := rfl
@[simp] theorem un_conv {H : View} {k q : IntKind} {a : Int} : Un.ev H (.conv k) (.int q a) = some (.int k (k.wrap a)) := rfl
@[simp] theorem un_part {H : View} {o : Nat} {cs : Array Value} : Un.ev H (.part o) (.agg cs) = cs[o]? := rfl
@[simp] theorem un_parts {H : View} {o n : Nat} {cs : Array Value} : Un.ev H (.parts o n) (.agg cs) = some (.agg (cs.extract o (o + n))) := rfl
@[simp] theorem un_ext {H : View} {o : Nat} {cs : Array Value} : Un.ev H (.ext o) (.tuple cs) = cs[o]? := rfl
def snocV : Value → Value → Option Value
  | .tuple vs, u => some (.tuple (vs.push u))
  | _, _ => none
@[simp] theorem snocV_tuple {vs : Array Value} {u : Value} : snocV (.tuple vs) u = some (.tuple (vs.push u)) := rfl
@[simp] theorem ev_snoc_eq {σ : Nat → Option Value} {H : View} {x y : E} : ev σ H (.snoc x y) = (ev σ H x).bind fun v => (ev σ H y).bind fun u => snocV v u := by
  simp only [ev]
  cases hx : ev σ H x with
  | none => rfl
  | some v =>
    cases hy : ev σ H y with
    | none => cases v <;> rfl
    | some u => cases v <;> rfl
@[simp] theorem un_fn {H : View} {f : Nat} {vs : Array Value} : Un.ev H (.fn f) (.tuple vs) = some (.func (.func f) #[] vs) := rfl
@[simp] theorem cells_agg {cs : Array Value} : (Value.agg cs).cells = cs := rfl
@[simp] theorem cells_slice {a : Option Addr} {n c : Nat} : (Value.slice a n c).cells = #[.slice a n c] := rfl
@[simp] theorem cells_int {k : IntKind} {n : Int} : (Value.int k n).cells = #[.int k n] := rfl
@[simp] theorem cells_bool {b : Bool} : (Value.bool b).cells = #[.bool b] := rfl
@[simp] theorem cells_pointer {a : Option Addr} : (Value.pointer a).cells = #[.pointer a] := rfl
/-- The places of the parts of a struct, or of an array. -/
def placesB (P : Program) (t : TypeId) : Option (List (Nat × Nat)) :=
  match P.underlying t with
  | some (.struct fields) => fields.toList.mapM fun f => (sizeB P f.type).map fun n => (f.offset, n)
  | some (.array k e) => (sizeB P e).map fun n => (List.range k).map fun i => (i * n, n)
  | _ => none

section
variable {P : Program} {ty : TypeId} {us : List (Nat × Value)} {h : Heap} {K : Value → Heap → Prop}

theorem fill_more {f g : Nat → Option (Nat × Nat)} (hfg : ∀ i p, f i = some p → g i = some p) : ∀ {vs : List (Nat × Value)} {c cs : Array Value}, Instr.fill f c vs = some cs → Instr.fill g c vs = some cs
  | [], c, cs, h => h
  | (i, v) :: vs, c, cs, h => by
    simp only [Instr.fill] at h ⊢
    split at h
    · cases h
    · rename_i off size hi
      rw [hfg i _ hi]
      simp only
      split at h
      · cases h
      · rename_i hc
        rw [if_neg hc]
        exact fill_more hfg h

theorem run_places {w : World} : ∀ {fs : List Field} {ps : List (Nat × Nat)}, (fs.mapM fun f => (sizeB P f.type).map fun n => (f.offset, n)) = some ps →
    (fs.mapM fun (f : Field) => Prod.mk f.offset <$> sizeOf f.type).run P w = Result.ok ps w
  | [], ps, h => by simp at h; subst h; simp
  | f :: fs, ps, h => by
    simp only [List.mapM_cons, Option.bind_eq_bind, Option.bind_eq_some_iff, Option.map_eq_some_iff] at h
    obtain ⟨p, ⟨n, hn, rfl⟩, ps', h2, h3⟩ := h
    simp only [Option.pure_def, Option.some.injEq] at h3
    subst h3
    have ih := run_places (w := w) h2
    simp [List.mapM_cons, Sem.run_bind, run_sizeOf hn, ih]

/-- A struct, or an array, built of parts. -/
theorem do_build {t : TypeId} {ps : Array (Nat × Operand)} {vs : List (Nat × Value)} {z : Value} {places : List (Nat × Nat)} {cs : Array Value} (hz : (P.info? t).map (·.zero) = some (some z)) (hpl : placesB P t = some places)
    (hp : ps.map (fun p => (p.1, asg us p.2)) = vs.toArray) (hf : Instr.fill (places[·]?) z.cells vs = some cs) (hk : K (.agg cs) h) : step P (.build t ps) ty us h K := by
  refine step_of (runs_value fun w hw => ⟨.agg cs, w, ?_, Same.refl _, by rw [hw]; exact hk⟩)
  have hp' : (ps.map fun x => match x with | (i, x) => (i, asg us x)) = vs.toArray := hp
  simp only [Option.map_eq_some_iff] at hz
  obtain ⟨i, hi, hz⟩ := hz
  simp only [loudSem, execOp, hp']
  unfold placesB at hpl
  split at hpl
  · rename_i fields hu
    have hr := run_places (P := P) (w := w) hpl
    have hr2 : (fields.mapM fun (f : Field) => Prod.mk f.offset <$> sizeOf f.type).run P w = Result.ok places.toArray w := by
      rw [Array.mapM_eq_mapM_toList]
      simp only [Sem.run_map]
      erw [hr]; rfl
    have hf' : Instr.fill (places.toArray[·]?) z.cells vs = some cs := by simpa using hf
    simp [Instr.build, zeroValue, typeInfo, hi, hz, run_underlying hu, hr2, hf', hf]
  · rename_i k e hu
    simp only [Option.map_eq_some_iff] at hpl
    obtain ⟨n, hn, rfl⟩ := hpl
    have hf' := fill_more (g := fun i => some (i * n, n)) (fun i p hp => by
      simp only [List.getElem?_map, Option.map_eq_some_iff] at hp
      obtain ⟨j, hj, rfl⟩ := hp
      rcases Nat.lt_or_ge i k with hlt | hge
      · rw [List.getElem?_range hlt] at hj; cases hj; rfl
      · rw [List.getElem?_eq_none (by simpa using hge)] at hj; cases hj) hf
    simp [Instr.build, zeroValue, typeInfo, hi, hz, run_underlying hu, run_sizeOf hn, hf']
  · cases hpl

/-- A slice literal. -/
theorem do_lits {t e : TypeId} {n size : Nat} {bytes : Nat} {z : Value} {ps : Array (Nat × Operand)} {vs : List (Nat × Value)} {cs : Array Value} (hT : ElemT P t e size bytes z) (hn : n * size ≤ 16777216) (hp : ps.map (fun p => (p.1, asg us p.2)) = vs.toArray)
    (hf : Instr.fill (fun j => some (j * size, size)) ((Array.range (n * size)).map (z.cells[· % z.cells.size]!)) vs = some cs) (hk : K (.slice (some ⟨h.size, 0, none⟩) n n) (h.push (.cells cs e))) : step P (.buildSlice t n ps) ty us h K := by
  obtain ⟨ht, ⟨i, hi, hz, hsize, hby⟩, _⟩ := hT
  exact step_buildSlice ht hi hz hsize hn hp hf hk

/-! ### Variables in memory -/

/-- A new variable of a type's zero value. -/
theorem do_alloc {t : TypeId} {z : Value} (hz : (P.info? t).map (·.zero) = some (some z)) (hk : K (.pointer (some ⟨h.size, 0, none⟩)) (h.push (.cells z.cells t))) : step P (.alloc t) ty us h K := by
  simp only [Option.map_eq_some_iff] at hz
  obtain ⟨i, hi, hz⟩ := hz
  refine step_of (runs_value fun w hw => ?_)
  subst hw
  refine ⟨_, w.alloc (.cells z.cells t), ?_, same_alloc _ _, hk⟩
  simp only [loudSem, execOp]
  simp [Instr.alloc, zeroValue, typeInfo, hi, hz, newVar, newRow]

theorem do_box {t : TypeId} {x : Operand} {v : Value} (hx : asg us x = v) (hk : K (.pointer (some ⟨h.size, 0, none⟩)) (h.push (.cells v.cells t))) : step P (.box t x) ty us h K := by
  refine step_of (runs_value fun w hw => ?_)
  subst hw
  refine ⟨_, w.alloc (.cells v.cells t), ?_, same_alloc _ _, hk⟩
  simp only [loudSem, execOp]
  simp [Instr.box, hx, newVar, newRow]

/-- A store into a block of one's own. -/
theorem do_store {t e : TypeId} {n g o : Nat} {x y : Operand} {v : Value} {cur : Array Value} (hsz : sizeB P t = some n) (hx : asg us x = .pointer (some ⟨g, o, none⟩)) (hy : asg us y = v) (hv : v.cells.size = n) (h1 : ∀ c ∈ v.cells.toList, c.oneCell' = true)
    (hg : h[g]? = some (.cells cur e (0, 0))) (hfit : o + n ≤ cur.size)
    (hk : ∀ h' : Heap, h'.size = h.size → (∃ row : Array Value, h'[g]? = some (.cells row e (0, 0)) ∧ row.toList = cur.toList.take o ++ v.cells.toList ++ cur.toList.drop (o + n)) → (∀ k, k ≠ g → h'[k]? = h[k]?) → K undef h') : step P (.store t x y) ty us h K := by
  refine step_of (runs_skip fun w hw => ?_)
  subst hw
  have hlen : v.cells.toList.length = n := by simpa using hv
  have hrun := run_storeCells_at P g o e v.cells.toList 0 cur w hg (by simp only [Nat.add_zero]; omega) h1
  obtain ⟨row, hrow⟩ : ∃ row : Array Value, row.toList = cur.toList.take o ++ v.cells.toList ++ cur.toList.drop (o + n) := ⟨(cur.toList.take o ++ v.cells.toList ++ cur.toList.drop (o + n)).toArray, rfl⟩
  have hrun' : Sem.run P (storeCells ⟨g, o, none⟩ v.cells.toList) w = .ok () (w.setRow g row) := by
    rw [hrun]; congr 2
    rw [← Array.toList_inj, hrow, hlen]; rfl
  refine ⟨w.setRow g row, ?_, Same.of_row rfl rfl rfl (by simp) hg (by simp) (fun k _ hne => setRow_other w g k _ (fun e => hne e)), hk _ (by simp) ⟨row, setRow_heap w g cur row e _ hg, hrow⟩ fun k hne => setRow_other w g k _ (fun e => hne e)⟩
  simp only [loudSem, execOp, hx, hy]
  simp [Instr.storeAt, Instr.sureAddr, storeVar, run_sizeOf (P := P) (w := w) hsz, hv, hrun']

/-- A new variable, and what it begins with. -/
theorem do_newvar {t ty2 : TypeId} {z : Value} {x y : Operand} {us2 : Value → List (Nat × Value)} {v : Value} {K : Value → Heap → Prop} (hz : (P.info? t).map (·.zero) = some (some z)) (hzc : z.cells.size = 1) (hsz : sizeB P t = some 1) (hv : v.cells = #[v]) (hone : v.oneCell' = true)
    (hx : ∀ p, asg (us2 p) x = p) (hy : ∀ p, asg (us2 p) y = v) (hk : ∀ h' : Heap, (vw h).le (vw h') → h'.size = h.size + 1 → h'[h.size]? = some (.cells #[v] t (0, 0)) → K (.pointer (some ⟨h.size, 0, none⟩)) h') :
    step P (.alloc t) ty us h fun p h2 => step P (.store t x y) ty2 (us2 p) h2 fun _ h3 => K p h3 := by
  refine do_alloc hz ?_
  refine do_store (g := h.size) (o := 0) (n := 1) (v := v) (cur := z.cells) (e := t) hsz (hx _) (hy _) (by rw [hv]; rfl) (by rw [hv]; simpa using hone) (by simp) (by omega) fun h' hs ⟨row, hrow, he⟩ hoth => ?_
  have hrow2 : row = #[v] := by
    rw [← Array.toList_inj, he, hv]
    simp only [List.take_zero, List.nil_append, Nat.zero_add]
    rw [List.drop_eq_nil_of_le (by simp [hzc])]; rfl
  rw [hrow2] at hrow
  refine hk h' (fun b o hb => ?_) (by rw [hs]; simp) hrow
  have hlt := View.lt (View.le_refl (vw h)) hb
  show h'[b]? = _
  rw [hoth b (by omega)]
  exact push_le _ _ b o hb

/-! ### Calls of function values -/

theorem do_callv {f : FuncId} {t : Nat} {ops : List Operand} {T : Array TypeId} {caps : Array Value} (hf : asg us (.tmp t) = .func (.func f) #[] caps) {R : Value → Heap → Prop} (hfn : isFn P f = true)
    (hc : HCalls P f (ops.map (asg us) ++ caps.toList).toArray h R) (hk : ∀ v h', R v h' → K v h') : step P (.call ⟨.value (.tmp t), ops.toArray, T⟩) ty us h K := by
  refine step_of (runs_enter (R := R) (f := f) (args := (ops.map (asg us) ++ caps.toList).toArray) (fun w _ => ?_) hc hk)
  unfold isFn at hfn
  cases hfn' : P.funcs[f]? with
  | none => simp [hfn'] at hfn
  | some fn =>
    simp only [hfn', Bool.and_eq_true, bne_iff_ne, ne_eq] at hfn
    obtain ⟨h1, h2⟩ := hfn
    simp [loudSem, execOp, resolve, Deferred.ofValue, hf, invoke, callFunc, program, Sem.run, hfn', h1, Option.isNone]
    cases hb : fn.body <;> simp [hb] at h2 ⊢

/-! ### Equality of two pairs of numbers -/
theorem run_eq_int {e : TypeId} {w : World} {a b : Int} {ki : IntKind} {n : Nat} (he : P.underlying e = some (.int ki)) : (Op.equalIn (n + 1) e (.int ki a) (.int ki b)).run P w = .ok (a == b) w := by
  simp [Op.equalIn, run_underlying he]
theorem run_part1 {e : TypeId} {w : World} {cs : Array Value} {o : Nat} {v : Value} (ha : isAggB P e = some false) (hv : cs[o]? = some v) : (Go.part e cs o).run P w = .ok v w := by
  simp [Go.part, run_isAgg ha, hv]
theorem run_eq_pair {t e : TypeId} {w : World} {a b c d : Int} {ki : IntKind} (hu : P.underlying t = some (.array 2 e)) (he : P.underlying e = some (.int ki)) (hs : sizeB P e = some 1) (ha : isAggB P e = some false) :
    (Op.equal t (.agg #[.int ki a, .int ki b]) (.agg #[.int ki c, .int ki d])).run P w = .ok (a == c && b == d) w := by
  simp only [sizeB, Option.map_eq_some_iff] at hs
  obtain ⟨i, hi, hs⟩ := hs
  have hc : P.cellsOf e = 1 := by simp [Program.cellsOf, hi, hs]
  show (Op.equalIn (9999 + 1) t _ _).run P w = _
  rw [run_equalIn_array (P := P) (w := w) (d := 9999) (xs := _) (ys := _) hu hi, hc]
  have p0 : ∀ {x y : Int}, (Go.part e #[.int ki x, .int ki y] 0).run P w = .ok (.int ki x) w := run_part1 ha rfl
  have p1 : ∀ {x y : Int}, (Go.part e #[.int ki x, .int ki y] 1).run P w = .ok (.int ki y) w := run_part1 ha rfl
  simp [List.range_succ, Op.eqItems, p0, p1, run_eq_int he]
  by_cases h1 : a = c <;> by_cases h2 : b = d <;> simp [h1, h2]

theorem do_neqPair {t e rt : TypeId} {a b c d : Int} {ki : IntKind} {x y : Operand} (hu : P.underlying t = some (.array 2 e)) (he : P.underlying e = some (.int ki)) (hs : sizeB P e = some 1) (ha : isAggB P e = some false) (hgd : P.eqGuardType P.depth t = false)
    (hx : asg us x = .agg #[.int ki a, .int ki b]) (hy : asg us y = .agg #[.int ki c, .int ki d]) (hk : K (.bool (!(a == c && b == d))) h) : step P (.binOp .neq t x y rt) ty us h K := by
  refine step_of (runs_value fun w hw => ⟨_, w, ?_, Same.refl _, by rw [hw]; exact hk⟩)
  simp only [loudSem, execOp, hx, hy]
  simp [eqGuard, binOp, run_eq_pair hu he hs ha, program, Sem.run, hgd]
end

/-! ### Pairs of numbers: an array of two -/

instance : Rep (Int × Int) where
  n := 2
  agg := true
  rd := fun _ cs d => cs = [.int .i64 d.1, .int .i64 d.2] ∧ (-9223372036854775808 ≤ d.1 ∧ d.1 ≤ 9223372036854775807) ∧ -9223372036854775808 ≤ d.2 ∧ d.2 ≤ 9223372036854775807
  mono := fun _ h => h
  len := fun h => by rw [h.1]; rfl
  one := fun h => by cases h
  flat := fun h u hu => by rw [h.1] at hu; simp at hu; rcases hu with rfl | rfl <;> rfl
  pos := by decide
  solid := fun h => h

theorem rd_pair {H : View} {v : Value} {d : Int × Int} : Rd H v d ↔ v = .agg #[.int .i64 d.1, .int .i64 d.2] ∧ (-9223372036854775808 ≤ d.1 ∧ d.1 ≤ 9223372036854775807) ∧ -9223372036854775808 ≤ d.2 ∧ d.2 ≤ 9223372036854775807 := by
  simp only [Rd, Rep.agg, Rep.rd, if_true]
  constructor
  · rintro ⟨cs, rfl, h1, h2⟩
    refine ⟨?_, h2⟩
    congr 1
    rw [← Array.toList_inj, h1]
  · rintro ⟨rfl, h2⟩
    exact ⟨_, rfl, rfl, h2⟩
theorem SlRd.idxn {α : Type} [Rep α] {H : View} {v : Value} {l : List α} (h : SlRd H v l) {N : Nat} (hn : Rep.n α = N) {k : IntKind} {i : Int} (h0 : 0 ≤ i) (h1 : i < l.length) : Bn.ev (.idx N) v (.int k i) = some (.pointer (some ((slA v).add (i.toNat * N)))) := by
  have := h.idx (k := k) h0 h1
  rw [hn] at this
  exact this
/-- A slice of pairs: one whole. -/
theorem SlRd.pair {H K : View} {v : Value} {l : List (Int × Int)} (h : SlRd H v l) (hk : H.le K) {i : Nat} (hi : i < l.length) : Un.ev K (.loads 2) (.pointer (some ((slA v).add (i * 2)))) = some (.agg #[.int .i64 (nth l i).1, .int .i64 (nth l i).2]) := by
  obtain ⟨u, h1, h2⟩ := ((h.at hi).mono hk).loads rfl
  rw [rd_pair] at h2
  rw [h2.1] at h1
  rw [nth_eq hi]; exact h1
/-- One number of a pair. -/
theorem SlRd.pair_at {H K : View} {v : Value} {l : List (Int × Int)} (h : SlRd H v l) (hk : H.le K) {i : Nat} (hi : i < l.length) : cellH K (((slA v).add (i * 2)).add 0) = some (.int .i64 (nth l i).1) ∧ cellH K (((slA v).add (i * 2)).add 1) = some (.int .i64 (nth l i).2) := by
  obtain ⟨cs, h1, h2⟩ := (h.at hi).mono hk
  rw [nth_eq hi]
  obtain ⟨e, _⟩ := h2
  subst e
  exact ⟨cellsAt_get h1 (i := 0) rfl, cellsAt_get h1 (i := 1) rfl⟩
end Go.Lft

/- Ranges over functions: the round's call, the statement's rule, what stands behind the function's end. -/
namespace Go.Lft
open Go
set_option linter.unusedSimpArgs false
set_option linter.unusedVariables false

theorem runs_round {P : Program} {s : Sem Next} {l : Nat} {vs : List Value} {h : Heap} {R : Bool → Heap → Prop} {K : Value → Heap → Prop} (hs : ∀ w : World, w.heap = h → s.run P w = (Instr.yield l vs.toArray).run P w)
    (hy : HYield P l vs h R) (hk : ∀ b h', R b h' → K (.bool b) h') : RunsTo P s h K := by
  intro w hw r o a K' Q' hK
  obtain ⟨f, tmps, asg, body, h1, h2⟩ := hy w hw
  rw [hs w hw, h1]
  simp only [Oper.uponIn]
  have h3 : RoundIn (Fw r) 0 P l f tmps asg body w _ := h2
  refine ⟨fun h => by simp [Fw, Fence.wide] at h, h3.mono ?_⟩
  rintro e w' ⟨b, rfl, hR, hsame⟩
  exact hK _ w' (hk _ _ hR) hsame

theorem do_yield {P : Program} {t l : Nat} {ops : List Operand} {T : Array TypeId} {ty : TypeId} {us : List (Nat × Value)} {h : Heap} {K : Value → Heap → Prop} (hf : asg us (.tmp t) = .func (.yield l) #[] #[]) {R : Bool → Heap → Prop}
    (hy : HYield P l (ops.map (asg us)) h R) (hk : ∀ b h', R b h' → K (.bool b) h') : step P (.call ⟨.value (.tmp t), ops.toArray, T⟩) ty us h K := by
  refine step_of (runs_round (l := l) (vs := ops.map (asg us)) (fun w _ => ?_) hy hk)
  simp [loudSem, execOp, resolve, Deferred.ofValue, hf, invoke]

/-- The statement's rule. 'V': what the iterator reads; 'W0': what stands; 'I': what the caller says between rounds (none), or where a round has left (some). -/
theorem lwp_rangef {β : Type} {enc : β → List Value} {P : Program} {g : E} {ps : List Nat} {asg body : LC} {Q : Post} {ρ : Env} {h : Heap} {gf : Nat} {caps : List Value} {all : List β} {A : β → Env} (V W0 : View) (I : Option Exit → Nat → View → Heap → Prop)
    (hg : ev (look ρ) (vw h) g = some (.func (.func gf) #[] caps.toArray)) (hf : isFn P gf = true) (hi : Iter P gf caps V (all.map enc)) (hl : ∀ x, (enc x).length = ps.length) (hV : V.le W0) (hI : ∀ e k, Movable h.size (I e k)) (h0 : I none 0 W0 h)
    (hasg : ∀ x h1, asg.wp P (fun e ρ1 h2 => e = .normal ∧ h2 = h1 ∧ ρ1 = A x) (setsE ρ (ps.zip (enc x))) h1)
    (round : ∀ k x W h1, (∀ b, b < h.size → W b = W0 b) → all[k]? = some x → I none k W h1 → ∀ K : Post, (∀ ρ2 h3, I none (k + 1) W h3 → K .normal ρ2 h3) → (∀ e ρ2 h3, e ≠ .normal → I (some e) (k + 1) W h3 → K e ρ2 h3) → body.wp P K (A x) h1)
    (done : ∀ W h1, (∀ b, b < h.size → W b = W0 b) → I none all.length W h1 → Q .normal ρ h1)
    (left : ∀ e k W h1, (∀ b, b < h.size → W b = W0 b) → I (some e) k W h1 → Q e ρ h1) : LC.wp P (.rangef g ps asg body) Q ρ h := by
  refine ⟨gf, caps, V, W0, all.map enc, I, fun k => match all[k]? with | some x => A x | none => [], hg, hf, hi, fun vs hvs => ?_, hV, hI, h0, fun k vs W h1 ha hk hIk => ?_, fun W h1 a b => done W h1 a (by simpa using b), fun e k W h1 _ _ => left e k W h1⟩
  · obtain ⟨x, _, rfl⟩ := List.mem_map.1 hvs
    exact hl x
  · rw [List.getElem?_map, Option.map_eq_some_iff] at hk
    obtain ⟨x, hk, rfl⟩ := hk
    simp only [hk]
    refine ⟨hasg x h1, round k x W h1 ha hk hIk _ (fun ρ2 h3 hh => hh) fun e ρ2 h3 hne hh => ?_⟩
    cases e <;> first | exact absurd rfl hne | exact hh

/-! ### Behind the end -/

/-- The rest of a slice: l[k:]. -/
theorem SlRd.drop {α : Type} [Rep α] {H : View} {v : Value} {l : List α} (h : SlRd H v l) {n : Nat} (hn : n ≤ l.length) {kd : IntKind} : ∃ u, Bn.ev (.lo (Rep.n α)) v (.int kd n) = some u ∧ SlRd H u (l.drop n) := by
  obtain ⟨a, cap, rfl, h1, h2, h3⟩ := h
  refine ⟨.slice (if cap = n then a else a.map (·.add (n * Rep.n α))) (l.length - n) (cap - n), by simp [Bn.ev, vL, vI, hn], if cap = n then a else a.map (·.add (n * Rep.n α)), cap - n, ?_, ?_, ?_, ?_⟩
  · rw [List.length_drop]
  · rw [List.length_drop]; omega
  · rw [List.length_drop]; omega
  · rcases h3 with rfl | ⟨ad, rfl, hs, hat⟩
    · left; simp
    · by_cases hc : cap = n
      · left; simp; omega
      · refine .inr ⟨ad.add (n * Rep.n α), by simp [hc], by rw [addr_add_none hs], fun i hi => ?_⟩
        rw [List.length_drop] at hi
        rw [List.getElem_drop]
        have := hat (n + i) (by omega)
        rw [addr_add_none hs] at this ⊢
        rw [addr_add_none rfl]
        simpa [Nat.add_mul, Nat.add_assoc] using this

/-- All but a value's own block. -/
def but (v : Value) (h : Heap) : View := fun b => if v.ownBlock = some b then none else h[b]?
theorem but_le {v : Value} {h : Heap} : (but v h).le (vw h) := fun b o hb => by
  unfold but at hb
  split at hb
  · cases hb
  · exact hb
theorem but_av {v : Value} {h : Heap} : Av (but v h) v := fun b hb => by unfold but; rw [if_pos hb]
theorem but_mono {v : Value} {h h' : Heap} (hle : (vw h).le (vw h')) : (but v h).le (but v h') := fun b o hb => by
  unfold but at *
  split at hb
  · cases hb
  · rename_i hne; rw [if_neg hne]; exact hle b o hb
theorem le_but {V : View} {v : Value} {h : Heap} (hV : V.le (vw h)) (ha : Av V v) : V.le (but v h) := fun b o hb => by
  unfold but
  split
  · rename_i e; rw [ha b e] at hb; cases hb
  · exact hV b o hb
/-- Another slice is written; this one stands. -/
theorem Mine.beside {α β : Type} [Rep α] [Rep β] {h0 h h' : Heap} {e e1 : TypeId} {v2 v1 v1' : Value} {l2 : List α} {l1' : List β} {V : View} {W : View} (m2 : Mine nothing h0 h nothing e v2 l2) (m1 : Mine V h0 h' W e1 v1' l1') (mv : Moved h h' v1 v1') (ne : v2.ownBlock = none ∨ v2.ownBlock ≠ v1.ownBlock) : Mine nothing h0 h' nothing e v2 l2 :=
  ⟨m1.old, fun _ _ h => (by cases h), fun _ _ => rfl, m2.av0, Old.nothing _ _, m2.own.kept mv.kept ne⟩
/-- What else stands is another matter, where the elements share nothing. -/
theorem Mine.over {α : Type} [Rep α] {V : View} {h0 h : Heap} {e : TypeId} {v : Value} {l : List α} (m : Mine V h0 h nothing e v l) : Mine (vw h0) h0 h (but v h) e v l :=
  ⟨m.old, but_le, but_av, m.av0, fun b o hb hx => by
    have h1 := but_le b o hx
    have h2 : h0[b]? = some h0[b] := Array.getElem?_eq_getElem hb
    have h3 : h[b]? = some h0[b] := m.old b _ h2
    have h4 : h[b]? = some o := h1
    rw [h3] at h4
    cases h4; exact h2, m.own.mono (fun _ _ h => by cases h)⟩
theorem OwnT.bareI {W : View} {h : Heap} {e : TypeId} {v : Value} {l : List Int} (o : OwnT W h e v l) : OwnT nothing h e v l := o
theorem Mine.bareI {V W : View} {h0 h : Heap} {e : TypeId} {v : Value} {l : List Int} (m : Mine V h0 h W e v l) : Mine nothing h0 h nothing e v l :=
  ⟨m.old, fun _ _ h => (by cases h), fun _ _ => rfl, m.av0, Old.nothing _ _, m.own⟩
theorem bn_idx {a : Addr} {n c m : Nat} {k : IntKind} {i : Int} (h0 : 0 ≤ i) (h1 : i < n) : Bn.ev (.idx m) (.slice (some a) n c) (.int k i) = some (.pointer (some (a.add (i.toNat * m)))) := by
  simp [Bn.ev, vL, vI, h0, h1]
theorem bn_idx1 {a : Addr} {n c : Nat} {k : IntKind} {i : Int} (h0 : 0 ≤ i) (h1 : i < n) : Bn.ev (.idx 1) (.slice (some a) n c) (.int k i) = some (.pointer (some (a.add i.toNat))) := by
  rw [bn_idx h0 h1, Nat.mul_one]
theorem cellH_blk {H : View} {b o : Nat} {c : Array Value} {T : TypeId} {fz : Nat × Nat} {v : Value} (h : H b = some (.cells c T fz)) (hv : c[o]? = some v) : cellH H ⟨b, o, none⟩ = some v := by
  simp [cellH, h, hv]
theorem SlRd.cells {α : Type} [Rep α] {H : View} {v : Value} {l : List α} (h : SlRd H v l) : v.cells = #[v] ∧ v.oneCell' = true := by
  obtain ⟨a, cap, rfl, _⟩ := h; exact ⟨rfl, rfl⟩

theorem Swept.ext {h0 h h' : Heap} (hs : Swept h0.size h h') (hle : (vw h0).le (vw h)) : (vw h0).le (vw h') := fun b o hb => by
  have hlt := View.lt (View.le_refl (vw h0)) hb
  show h'[b]? = _
  rw [hs.same b (.inl hlt)]; exact hle b o hb
theorem Swept.fresh_le {h0 h h' : Heap} (hs : Swept h0.size h h') : (fresh h0 h).solid.le (fresh h0 h') := fun b o hb => by
  have h1 := View.solid_le _ _ hb
  have h2 : ∀ x, o ≠ .deferred x := by
    intro x e
    subst e
    unfold View.solid at hb
    split at hb
    · cases hb
    · rename_i hne; exact hne _ hb
  unfold fresh at h1 ⊢
  split at h1
  · cases h1
  · rename_i hge
    rw [if_neg hge, hs.same b (.inr ?_)]
    · exact h1
    · rw [h1]; intro e; exact h2 _ (Option.some.inj e)
theorem Swept.rd {α : Type} [Rep α] {h0 h h' : Heap} {v : Value} {l : List α} (hs : Swept h0.size h h') (hr : SlRd (fresh h0 h) v l) : SlRd (fresh h0 h') v l :=
  rd_list.1 ((rd_list.2 hr).solid.mono hs.fresh_le)

theorem grow_same {W : View} {h h' : Heap} {b : Nat} (hb : b < h.size) : grow W h h' b = W b := by unfold grow; rw [if_pos hb]
/-- What is said of a part is said of it with what came new. -/
theorem Movable.grown {n : Nat} {J : View → Heap → Prop} (hJ : Movable n J) {W : View} {h h' : Heap} (hj : J W h) (hn : n ≤ h.size) (hle : (vw h).le (vw h')) : J (grow W h h') h' :=
  hJ.move hj (fun b hb => grow_same (by omega)) (grow_le (View.le_trans (hJ.le hj) hle)) (fun b hb hlt => ⟨(ext_kept' hle).block b hlt (by simp), by rw [grow_same hlt]; exact hb⟩) (ext_size hle)

/-! ### Rows of one's own, each of which is one's own -/

/-- make([]T, n), as it stands, of elements of one cell. -/
theorem do_make1 {P : Program} {t ty e : TypeId} {bytes : Nat} {z : Value} {x y : Operand} {us : List (Nat × Value)} {h : Heap} {k : IntKind} {n : Nat} {K : Value → Heap → Prop} (hT : ElemT P t e 1 bytes z) (hx : asg us x = .int k n) (hy : asg us y = .int k n) (hz1 : z.cells = #[z])
    (hb : bytes * n ≤ 140737488355328) (hb2 : n ≤ 140737488355328) (hk : K (.slice (some ⟨h.size, 0, none⟩) n n) (h.push (.cells (List.replicate n z).toArray e))) : step P (.makeSlice t x y) ty us h K := by
  obtain ⟨ht, ⟨i, hi, hz, hsize, hby⟩, hzs, hsz, hsmall⟩ := hT
  refine step_of (runs_value fun w hw => ?_)
  subst hw
  have hrun := run_make (P := P) w t e i z ht hi hz k k (n : Int) (n : Int) (by omega) (Int.le_refl _) (by
    rw [hby]
    have : ((bytes * n : Nat) : Int) ≤ 281474976710656 := by omega
    rwa [Int.natCast_mul] at this) (by omega)
  simp only [Int.toNat_natCast, hsize, Nat.mul_one] at hrun
  have hm : madeCells z.cells n = (List.replicate n z).toArray := by
    rw [hz1]
    apply Array.ext
    · simp [madeCells]
    · intro j h1 h2
      simp [madeCells, Nat.mod_one]
  rw [hm] at hrun
  refine ⟨_, w.alloc (.cells (List.replicate n z).toArray e), ?_, same_alloc _ _, hk⟩
  simp only [loudSem, execOp, hx, hy]
  simp [hrun]

theorem OwnT.same {α : Type} [Rep α] {W : View} {h h' : Heap} {e : TypeId} {v : Value} {l : List α} (o : OwnT W h e v l) (hb : ∀ b, v.ownBlock = some b → h'[b]? = h[b]?) : OwnT W h' e v l := by
  obtain ⟨bd, xs, ⟨h1, h2⟩, h3⟩ := o
  refine ⟨bd, xs, ⟨h1, ?_⟩, h3⟩
  rcases h2 with h2 | ⟨g, cap, cur, rfl, hg, h4⟩
  · exact .inl h2
  · exact .inr ⟨g, cap, cur, rfl, (hb g rfl).trans hg, h4⟩

/-- A slice of slices, all of the function's own: 'rv': the rows as they stand. -/
structure Rw {α : Type} [Rep α] (W : View) (h : Heap) (ot e : TypeId) (g : Nat) (rv : List Value) (ls : List (List α)) : Prop where
  wle : W.le (vw h)
  wg : W g = none
  blk : h[g]? = some (.cells rv.toArray ot (0, 0))
  len : rv.length = ls.length
  own : ∀ i, i < ls.length → OwnT nothing h e (nth rv i) (nth ls i)
  av : ∀ i, i < ls.length → Av W (nth rv i)
  ng : ∀ i, i < ls.length → (nth rv i).ownBlock ≠ some g
  dj : ∀ i j, i < ls.length → j < ls.length → i ≠ j → (nth rv i).ownBlock = none ∨ (nth rv i).ownBlock ≠ (nth rv j).ownBlock

section
variable {α : Type} [Rep α] {W : View} {h h' : Heap} {ot e : TypeId} {g : Nat} {rv : List Value} {ls : List (List α)}
theorem Rw.lt (r : Rw W h ot e g rv ls) : g < h.size := (Array.getElem?_eq_some_iff.1 r.blk).1
theorem nth_replicate {β : Type} [Inhabited β] {n i : Nat} {x : β} (hi : i < n) : nth (List.replicate n x) i = x := by rw [nth_eq (by simpa using hi)]; simp
theorem Rw.start {n : Nat} (hW : W.le (vw h)) (hg : W g = none) (hb : h[g]? = some (.cells (List.replicate n (.slice none 0 0)).toArray ot (0, 0))) : Rw (α := α) W h ot e g (List.replicate n (.slice none 0 0)) (List.replicate n []) :=
  ⟨hW, hg, hb, by simp, fun i hi => by rw [nth_replicate (by simpa using hi), nth_replicate (by simpa using hi)]; exact OwnT.nil .., fun i hi => by rw [nth_replicate (by simpa using hi)]; exact Av.nil _ _ _,
    fun i hi => by rw [nth_replicate (by simpa using hi)]; simp [Value.ownBlock], fun i j hi hj _ => by rw [nth_replicate (by simpa using hi)]; exact .inl rfl⟩
theorem Rw.move (r : Rw W h ot e g rv ls) {W' : View} (h1 : W'.le (vw h')) (h2 : ∀ b, W b = none → b < h.size → h'[b]? = h[b]? ∧ W' b = none) : Rw W' h' ot e g rv ls :=
  { wle := h1, wg := (h2 g r.wg r.lt).2, blk := (h2 g r.wg r.lt).1.trans r.blk, len := r.len, ng := r.ng, dj := r.dj
    own := fun i hi => (r.own i hi).same fun b hb => (h2 b (r.av i hi b hb) ((r.own i hi).lt hb)).1
    av := fun i hi b hb => (h2 b (r.av i hi b hb) ((r.own i hi).lt hb)).2 }
theorem Rw.ext (r : Rw W h ot e g rv ls) (hle : (vw h).le (vw h')) : Rw W h' ot e g rv ls :=
  r.move (View.le_trans r.wle hle) fun b hb hlt => ⟨(ext_kept' hle).block b hlt (by simp), hb⟩
theorem Rw.movable {n : Nat} : Movable n fun W h => Rw W h ot e g rv ls := ⟨fun r => r.wle, fun r _ h1 h2 _ => r.move h1 h2⟩
theorem nth_set {β : Type} [Inhabited β] {l : List β} {i j : Nat} {x : β} (hj : j < l.length) : nth (l.set i x) j = if i = j then x else nth l j := by
  rw [nth_eq (by simpa using hj), List.getElem_set]
  split
  · rfl
  · rw [nth_eq hj]
/-- One row is another one. -/
theorem Rw.put {h2 h3 : Heap} {i : Nat} {v' : Value} {l' : List α} (r : Rw W h ot e g rv ls) (hi : i < ls.length) (o : OwnT nothing h2 e v' l') (m : Moved h h2 (nth rv i) v')
    (hb : h3[g]? = some (.cells (rv.set i v').toArray ot (0, 0))) (hoth : ∀ k, k ≠ g → h3[k]? = h2[k]?) (hsz : h3.size = h2.size) : Rw W h3 ot e g (rv.set i v') (ls.set i l') := by
  obtain ⟨hw', ha'⟩ := m.view r.wle (r.av i hi)
  have hlt := r.lt
  have ng' : v'.ownBlock ≠ some g := by
    rcases m.at_ with e | e
    · rw [e]; exact r.ng i hi
    · rw [e]; intro e2; cases e2; omega
  have hv' : ∀ j, j < ls.length → j ≠ i → (nth rv j).ownBlock = none ∨ (nth rv j).ownBlock ≠ v'.ownBlock := by
    intro j hj hne
    rcases m.at_ with e | e
    · rw [e]; exact r.dj j i hj hi hne
    · right; rw [e]; intro e2; have := (r.own j hj).lt e2; omega
  have rl := r.len
  refine ⟨fun b x hb => ?_, r.wg, hb, by simp [rl], fun j hj => ?_, fun j hj => ?_, fun j hj => ?_, fun j k hj hk hne => ?_⟩
  · have hne : b ≠ g := fun e => by rw [e, r.wg] at hb; cases hb
    show h3[b]? = _
    rw [hoth b hne]; exact hw' b x hb
  · rw [List.length_set] at hj
    rw [nth_set (by omega), nth_set hj]
    split
    · exact o.same fun b hb => hoth b (fun e => ng' (by rw [hb, e]))
    · rename_i hne
      refine ((r.own j hj).kept m.kept (r.dj j i hj hi (fun e => hne e.symm))).same fun b hb => hoth b (fun e => r.ng j hj (by rw [hb, e]))
  · rw [List.length_set] at hj
    rw [nth_set (by omega)]
    split
    · exact ha'
    · exact r.av j hj
  · rw [List.length_set] at hj
    rw [nth_set (by omega)]
    split
    · exact ng'
    · exact r.ng j hj
  · rw [List.length_set] at hj hk
    rw [nth_set (by omega), nth_set (by omega)]
    split
    · rename_i e1
      rw [if_neg (by omega)]
      rcases hv' k hk (by omega) with e | e
      · rcases hb2 : v'.ownBlock with _ | b
        · exact .inl rfl
        · right; rw [e]; simp
      · exact .inr fun e2 => e e2.symm
    · split
      · rename_i e1 e2
        exact hv' j hj (by omega)
      · exact r.dj j k hj hk hne
/-- It reads as rows. -/
theorem Rw.rd (r : Rw W h ot e g rv ls) {X : View} (hg : X g = h[g]?) (hx : ∀ i b, i < ls.length → (nth rv i).ownBlock = some b → X b = h[b]?) (hb : ls.length ≤ 140737488355328) : SlRd X (.slice (some ⟨g, 0, none⟩) ls.length ls.length) ls := by
  refine ⟨some ⟨g, 0, none⟩, ls.length, rfl, Nat.le_refl _, hb, .inr ⟨_, rfl, rfl, fun i hi => ?_⟩⟩
  rw [addr_add_none rfl]
  have hlen := r.len
  refine ⟨[nth rv i], ⟨rv.toArray, ot, (0, 0), rfl, by rw [hg]; exact r.blk, ?_⟩, nth rv i, rfl, ?_⟩
  · rw [nth_eq (by omega)]
    simp only [Nat.zero_add, show Rep.n (List α) = 1 from rfl, Nat.mul_one, List.length_cons, List.length_nil]
    have hd : rv.drop i = rv[i] :: rv.drop (i + 1) := List.drop_eq_getElem_cons (by omega)
    show List.take (0 + 1) (List.drop i rv) = _
    rw [hd]; rfl
  · rw [← nth_eq hi]
    exact (r.own i hi).rd (fun _ _ h => by cases h) (hx i · hi)
theorem Rw.fresh {h0 : Heap} (r : Rw W h ot e g rv ls) (h0W : (vw h0).le W) (hb : ls.length ≤ 140737488355328) : SlRd (Lft.fresh h0 h) (.slice (some ⟨g, 0, none⟩) ls.length ls.length) ls := by
  have key : ∀ b, W b = none → h0.size ≤ b := by
    intro b hb
    rcases Nat.lt_or_ge b h0.size with hlt | hge
    · have := h0W b h0[b] (Array.getElem?_eq_getElem hlt)
      rw [hb] at this; cases this
    · exact hge
  refine r.rd (by unfold Lft.fresh; rw [if_neg (Nat.not_lt.2 (key g r.wg))]) (fun i b hi hbb => by unfold Lft.fresh; rw [if_neg (Nat.not_lt.2 (key b (r.av i hi b hbb)))]) hb
end


/-- All but one block. -/
def skip (B : Nat) (h : Heap) : View := fun b => if b = B then none else h[b]?
theorem skip_le {B : Nat} {h : Heap} : (skip B h).le (vw h) := fun b o hb => by
  unfold skip at hb
  split at hb
  · cases hb
  · exact hb
theorem skip_self {B : Nat} {h : Heap} : skip B h B = none := by simp [skip]
theorem skip_get {B b : Nat} {h : Heap} (hb : b ≠ B) : skip B h b = h[b]? := by unfold skip; rw [if_neg hb]
theorem le_skip {V : View} {B : Nat} {h : Heap} (hV : V.le (vw h)) (hB : V B = none) : V.le (skip B h) := fun b o hb => by
  have hne : b ≠ B := fun e => by rw [e, hB] at hb; cases hb
  rw [skip_get hne]; exact hV b o hb

/-! ### A variable in memory that holds a slice of one's own -/

structure Bx {α : Type} [Rep α] (W : View) (h : Heap) (B : Nat) (T e : TypeId) (v : Value) (l : List α) : Prop where
  wle : W.le (vw h)
  wB : W B = none
  box : h[B]? = some (.cells #[v] T (0, 0))
  av : Av W v
  nv : v.ownBlock ≠ some B
  own : OwnT nothing h e v l

theorem cells_own {α : Type} [Rep α] {W : View} {h : Heap} {e : TypeId} {v : Value} {l : List α} (o : OwnT W h e v l) : v.cells = #[v] ∧ v.oneCell' = true := by
  have := o.len (K := nothing)
  cases v <;> first | exact ⟨rfl, rfl⟩ | (simp [Un.ev, vL] at this)

section
variable {α : Type} [Rep α] {W : View} {h h' : Heap} {B : Nat} {T e : TypeId} {v : Value} {l : List α}
theorem Bx.lt (b : Bx W h B T e v l) : B < h.size := (Array.getElem?_eq_some_iff.1 b.box).1
theorem Bx.move (r : Bx W h B T e v l) {W' : View} (h1 : W'.le (vw h')) (h2 : ∀ b, W b = none → b < h.size → h'[b]? = h[b]? ∧ W' b = none) : Bx W' h' B T e v l :=
  { wle := h1, wB := (h2 B r.wB r.lt).2, box := (h2 B r.wB r.lt).1.trans r.box, nv := r.nv
    av := fun b hb => (h2 b (r.av b hb) (r.own.lt hb)).2
    own := r.own.same fun b hb => (h2 b (r.av b hb) (r.own.lt hb)).1 }
theorem Bx.movable {n : Nat} : Movable n fun W h => ∃ v, Bx W h B T e v l := ⟨fun ⟨_, r⟩ => r.wle, fun ⟨v, r⟩ _ h1 h2 _ => ⟨v, r.move h1 h2⟩⟩
theorem Bx.ext (r : Bx W h B T e v l) (hle : (vw h).le (vw h')) : Bx W h' B T e v l :=
  r.move (View.le_trans r.wle hle) fun b hb hlt => ⟨(ext_kept' hle).block b hlt (by simp), hb⟩
theorem Bx.cell (r : Bx W h B T e v l) : cellH (vw h) ⟨B, 0, none⟩ = some v := by simp [cellH, vw, r.box]
theorem Bx.start (hW : W.le (vw h)) (hB : W B = none) (hb : h[B]? = some (.cells #[.slice none 0 0] T (0, 0))) : Bx (α := α) W h B T e (.slice none 0 0) [] :=
  ⟨hW, hB, hb, Av.nil _ _ _, by simp [Value.ownBlock], OwnT.nil ..⟩
theorem Bx.pushed {h1 h2 : Heap} {v' : Value} {l' : List α} (k : Bx W h B T e v l) (o : OwnT nothing h1 e v' l') (m : Moved h h1 v v') (hsz : h2.size = h1.size)
    (hB : h2[B]? = some (.cells #[v'] T (0, 0))) (hoth : ∀ j, j ≠ B → h2[j]? = h1[j]?) : Bx W h2 B T e v' l' := by
  obtain ⟨hw', ha'⟩ := m.view k.wle k.av
  have hlt := k.lt
  have nl' : v'.ownBlock ≠ some B := by
    rcases m.at_ with e | e
    · rw [e]; exact k.nv
    · rw [e]; intro e2; cases e2; omega
  refine ⟨fun b x hb => ?_, k.wB, hB, ha', nl', o.same fun b hb => hoth b (fun e => nl' (by rw [hb, e]))⟩
  have hne : b ≠ B := fun e => by rw [e, k.wB] at hb; cases hb
  show h2[b]? = _
  rw [hoth b hne]; exact hw' b x hb
/-- out = append(out, ..u). -/
theorem Bx.append {P : Program} {t ty ty3 : TypeId} {bytes : Nat} {z : Value} {x y p q : Operand} {us : List (Nat × Value)} {us3 : Value → List (Nat × Value)} {u : Value} {l2 : List α} {K : Value → Heap → Prop} (k : Bx W h B T e v l)
    (hT : ElemT P t e (Rep.n α) bytes z) (hsz : sizeB P T = some 1) (hx : asg us x = v) (hy : asg us y = u) (hs : SrcT (vw h) nothing u l2) (hb : (l.length + l2.length) * bytes ≤ 140737488355328) (hb2 : l.length + l2.length ≤ 140737488355328)
    (hp : ∀ v', asg (us3 v') p = .pointer (some ⟨B, 0, none⟩)) (hq : ∀ v', asg (us3 v') q = v') (hk : ∀ v' h', Bx W h' B T e v' (l ++ l2) → K v' h') :
    step P (.call ⟨.builtin .append, #[x, y], #[t, t]⟩) ty us h fun v' h2 => step P (.store T p q) ty3 (us3 v') h2 fun _ h3 => K v' h3 := by
  refine do_append hT hx hy k.own hs hb hb2 fun v' h2 o2 m2 => ?_
  have hB2 : h2[B]? = some (.cells #[v] T (0, 0)) := by rw [m2.kept.block B k.lt (fun e => k.nv e.symm)]; exact k.box
  obtain ⟨hcells, hone⟩ := cells_own o2
  refine do_store (g := B) (o := 0) (n := 1) (v := v') hsz (hp v') (hq v') (by rw [hcells]; rfl) (by rw [hcells]; simpa using hone) hB2 (by simp) fun h3 hsz3 ⟨row, hrow, he⟩ hoth => hk v' h3 ?_
  have hrow2 : row = #[v'] := by rw [← Array.toList_inj, he, hcells]; rfl
  rw [hrow2] at hrow
  exact k.pushed o2 m2 hsz3 hrow hoth
/-- out = append(out, x). -/
theorem Bx.push {P : Program} {t ty ty2 ty3 : TypeId} {bytes : Nat} {z : Value} {x y y2 p q : Operand} {us : List (Nat × Value)} {us2 : Value → List (Nat × Value)} {us3 : Value → Value → List (Nat × Value)} {u : Value} {d : α} {K : Value → Value → Heap → Prop} (k : Bx W h B T e v l)
    (hT : ElemT P t e (Rep.n α) bytes z) (hsz : sizeB P T = some 1) (hx : asg us x = u) (hr : Rd nothing u d) (hb : (l.length + 1) * bytes ≤ 140737488355328) (hb2 : l.length + 1 ≤ 140737488355328) (hy : ∀ u, asg (us2 u) y = v) (hy2 : ∀ u, asg (us2 u) y2 = u)
    (hp : ∀ u v', asg (us3 u v') p = .pointer (some ⟨B, 0, none⟩)) (hq : ∀ u v', asg (us3 u v') q = v') (hk : ∀ u v' h', Bx W h' B T e v' (l ++ [d]) → K u v' h') :
    step P (.buildSlice t 1 #[(0, x)]) ty us h fun u h2 => step P (.call ⟨.builtin .append, #[y, y2], #[t, t]⟩) ty2 (us2 u) h2 fun v' h3 => step P (.store T p q) ty3 (us3 u v') h3 fun _ h4 => K u v' h4 := by
  refine do_one hT hx hr fun u h2 hs hle _ => ?_
  exact (k.ext hle).append hT hsz (hy u) (hy2 u) hs hb hb2 (hp u) (hq u) fun v' h' b => hk u v' h' b
/-- In new blocks alone. -/
theorem Bx.fresh {h0 : Heap} (k : Bx W h B T e v l) (h0W : (vw h0).le W) : SlRd (Lft.fresh h0 h) v l :=
  k.own.fresh (fun _ _ h => by cases h) fun b hb => by
    cases hx : vw h0 b with
    | none => rfl
    | some o => have := h0W _ _ hx; rw [k.av b hb] at this; cases this
end
end Go.Lft

/- Maps: what they tell, made, looked up, updated. -/
namespace Go.Lft
open Go Go.MapKept
set_option linter.unusedSimpArgs false
set_option linter.unusedVariables false

/-- What a map tells of each key. -/
structure MapIs (d : TypeDesc) (h : Heap) (r : Nat) (f : Value → Option Value) : Prop where
  ex : ∃ es clock, h[r]? = some (.map es clock) ∧ (∀ x ∈ es.toList, IsKey d x.key) ∧ Stamped es clock ∧ ∀ k v, IsKey d k → ((∃ x ∈ es.toList, x.key = k ∧ x.val = v) ↔ f k = some v)

theorem MapIs.lt {d : TypeDesc} {h : Heap} {r : Nat} {f : Value → Option Value} (m : MapIs d h r f) : r < h.size := by
  obtain ⟨es, c, h1, _⟩ := m.ex
  exact (Array.getElem?_eq_some_iff.1 h1).1
theorem MapIs.same {d : TypeDesc} {h h' : Heap} {r : Nat} {f : Value → Option Value} (m : MapIs d h r f) (e : h'[r]? = h[r]?) : MapIs d h' r f := by
  obtain ⟨es, c, h1, h2⟩ := m.ex
  exact ⟨es, c, by rw [e]; exact h1, h2⟩
theorem MapIs.ext {d : TypeDesc} {h h' : Heap} {r : Nat} {f : Value → Option Value} (m : MapIs d h r f) (hle : (vw h).le (vw h')) : MapIs d h' r f := by
  obtain ⟨es, c, h1, h2⟩ := m.ex
  exact ⟨es, c, hle _ _ h1, h2⟩
theorem MapIs.none {d : TypeDesc} {h : Heap} {r : Nat} (hr : h[r]? = some (.map #[] 0)) : MapIs d h r fun _ => none :=
  ⟨#[], 0, hr, by simp, stamped_empty 0, by simp⟩

section
variable {P : Program} {ty : TypeId} {us : List (Nat × Value)} {h : Heap} {K : Value → Heap → Prop} {d : TypeDesc} {r : Nat} {f : Value → Option Value} {t k e : TypeId}

theorem do_makeMap (hk : K (.map (some h.size)) (h.push (.map #[] 0))) : step P (.makeMap t .none) ty us h K := by
  refine step_of (runs_value fun w hw => ?_)
  subst hw
  refine ⟨_, w.alloc (.map #[] 0), ?_, same_alloc _ _, hk⟩
  simp only [loudSem, execOp]
  simp [Instr.makeMap, newObj]
  rfl

theorem do_lookup {x y : Operand} {u z : Value} (ht : P.underlying t = some (.map k e)) (hd : P.underlying k = some d) (hz : (P.info? e).map (·.zero) = some (some z)) (hx : asg us x = .map (some r)) (hy : asg us y = u) (hu : IsKey d u) (m : MapIs d h r f)
    (hk : K ((f u).getD z) h) : step P (.lookup t x y false) ty us h K := by
  obtain ⟨es, c, h1, h2, h3, h4⟩ := m.ex
  simp only [Option.map_eq_some_iff] at hz
  obtain ⟨i, hi, hz⟩ := hz
  refine step_of (runs_value fun w hw => ⟨_, w, ?_, Same.refl _, by rw [hw]; exact hk⟩)
  have hz' : (zeroValue e).run P w = .ok z w := by simp [zeroValue, typeInfo, hi, hz]
  rw [← hw] at h1
  simp only [loudSem, execOp, hx, hy]
  rcases findNow_spec hu es.toList 0 h2 with ⟨g1, g2⟩ | ⟨j, x, g1, g2, g3⟩
  · have hf : f u = .none := by
      cases hfu : f u with
      | none => rfl
      | some v => obtain ⟨x, hx, e1, _⟩ := (h4 u v hu).2 hfu; exact absurd e1 (g2 x hx)
    simp [Instr.lookup, run_underlying ht, MapKept.run_getObj_map h1, MapKept.run_checkKey hd hu, MapKept.run_findKey hd g1, Result.andThen, hf, hz']
  · have hf : f u = some x.val := (h4 u x.val hu).1 ⟨x, List.mem_of_getElem? g2, g3, rfl⟩
    simp [Instr.lookup, run_underlying ht, MapKept.run_getObj_map h1, MapKept.run_checkKey hd hu, MapKept.run_findKey hd g1, Result.andThen, hf]

theorem run_update {w : World} {u v : Value} (ht : P.underlying t = some (.map k e)) (hd : P.underlying k = some d) (hu : IsKey d u) (m : MapIs d w.heap r f) (g : Value → Option Value) (hg : g u = some v) (hg2 : ∀ j, j ≠ u → g j = f j) :
    ∃ o, (Instr.mapUpdate t (.map (some r)) u v).run P w = .ok () { w with heap := w.heap.setIfInBounds r o } ∧ MapIs d (w.heap.setIfInBounds r o) r g := by
  obtain ⟨es, c, h1, h2, h3, h4⟩ := m.ex
  rcases findNow_spec hu es.toList 0 h2 with ⟨g1, g2⟩ | ⟨j, x, g1, g2, g3⟩
  · refine ⟨.map (es.push { key := u, val := v, born := c }) (c + 1), ?_, _, _, (MapKept.heap_set h1).1, ?_, stamped_push h3 g2, ?_⟩
    · simp [Instr.mapUpdate, run_underlying ht, MapKept.run_getObj_map h1, MapKept.run_checkKey hd hu, MapKept.run_findKey hd g1, MapKept.run_setObj_map _ h1, Result.andThen]
    · intro x hx
      simp only [Array.toList_push, List.mem_append, List.mem_singleton] at hx
      rcases hx with hx | rfl
      · exact h2 x hx
      · exact hu
    · intro q p hq
      constructor
      · rintro ⟨x, hx, e1, e2⟩
        simp only [Array.toList_push, List.mem_append, List.mem_singleton] at hx
        rcases hx with hx | rfl
        · rw [hg2 q (fun e => g2 x hx (e1.trans e))]
          exact (h4 q p hq).1 ⟨x, hx, e1, e2⟩
        · simp only at e1 e2; subst e1; subst e2; exact hg
      · intro hp
        by_cases e : q = u
        · subst e; rw [hg] at hp; cases hp
          exact ⟨{ key := q, val := v, born := c }, by simp, rfl, rfl⟩
        · rw [hg2 q e] at hp
          obtain ⟨x, hx, e⟩ := (h4 q p hq).2 hp
          exact ⟨x, by simp [show x ∈ es from by simpa using hx], e⟩
  · have hj : es[j]? = some x := by simpa using g2
    have hmem : x ∈ es.toList := List.mem_of_getElem? g2
    have hlt : j < es.size := (Array.getElem?_eq_some_iff.1 hj).1
    have hkeyf : ∀ e', es[j]? = some e' → ({ e' with key := u, val := v } : MapEntry).key = e'.key := fun e' he' => by rw [hj] at he'; cases he'; exact g3.symm
    have hst : Stamped (es.modify j (fun e' => { e' with key := u, val := v })) c := stamped_modify h3 _ _ (fun _ _ => rfl) (fun e' _ he' => hkeyf e' he')
    have hget : ∀ i y, (es.modify j (fun e' => { e' with key := u, val := v }))[i]? = some y ↔ (i = j ∧ y = { x with key := u, val := v }) ∨ (i ≠ j ∧ es[i]? = some y) := by
      intro i y
      rw [Array.getElem?_modify]
      by_cases hij : i = j
      · subst hij
        rw [if_pos rfl, hj]
        simp [eq_comm]
      · rw [if_neg (Ne.symm hij)]
        simp [hij]
    have huniq : ∀ i y, es[i]? = some y → y.key = u → i = j := by
      intro i y hy hk
      have hnd := h3.2.2
      have e1 : (es.toList.map (·.key))[i]? = some u := by simp [hy, hk]
      have e2 : (es.toList.map (·.key))[j]? = some u := by simp [hj, g3]
      have hl1 := (List.getElem?_eq_some_iff.1 e1)
      have hl2 := (List.getElem?_eq_some_iff.1 e2)
      obtain ⟨l1, q1⟩ := hl1
      obtain ⟨l2, q2⟩ := hl2
      exact (List.getElem_inj hnd).1 (q1.trans q2.symm)
    refine ⟨.map (es.modify j (fun e' => { e' with key := u, val := v })) c, ?_, _, _, (MapKept.heap_set h1).1, ?_, hst, ?_⟩
    · simp [Instr.mapUpdate, run_underlying ht, MapKept.run_getObj_map h1, MapKept.run_checkKey hd hu, MapKept.run_findKey hd g1, hj, g3, MapKept.run_keyThatStays hu, MapKept.run_setObj_map _ h1, Result.andThen]
    · intro y hy
      obtain ⟨i, hi⟩ := List.getElem?_of_mem hy
      have hi : (es.modify j (fun e' => { e' with key := u, val := v }))[i]? = some y := by rw [Array.getElem?_toList] at hi; exact hi
      rcases (hget i y).1 hi with ⟨_, rfl⟩ | ⟨_, h5⟩
      · exact hu
      · exact h2 y (List.mem_of_getElem? (by simpa using h5))
    · intro q p hq
      constructor
      · rintro ⟨y, hy, e1, e2⟩
        obtain ⟨i, hi⟩ := List.getElem?_of_mem hy
        have hi : (es.modify j (fun e' => { e' with key := u, val := v }))[i]? = some y := by rw [Array.getElem?_toList] at hi; exact hi
        rcases (hget i y).1 hi with ⟨_, rfl⟩ | ⟨h6, h5⟩
        · simp only at e1 e2; subst e1; subst e2; exact hg
        · rw [hg2 q (fun e => h6 (huniq i y h5 (e1.trans e)))]
          exact (h4 q p hq).1 ⟨y, List.mem_of_getElem? (by simpa using h5), e1, e2⟩
      · intro hp
        by_cases hqu : q = u
        · subst hqu; rw [hg] at hp; cases hp
          refine ⟨{ x with key := q, val := v }, List.mem_of_getElem? (i := j) ?_, rfl, rfl⟩
          rw [Array.getElem?_toList]
          exact (hget j { x with key := q, val := v }).2 (.inl ⟨rfl, rfl⟩)
        · rw [hg2 q hqu] at hp
          obtain ⟨y, hy, e1, e2⟩ := (h4 q p hq).2 hp
          obtain ⟨i, hi⟩ := List.getElem?_of_mem hy
          have hi' : es[i]? = some y := by simpa using hi
          refine ⟨y, List.mem_of_getElem? (i := i) ?_, e1, e2⟩
          rw [Array.getElem?_toList]
          refine (hget i y).2 (.inr ⟨fun e => ?_, hi'⟩)
          · subst e; rw [hj] at hi'; cases hi'; exact hqu (e1.symm.trans g3)

theorem do_update {x y q : Operand} {u v : Value} {op : Op} (hop : op = .mapUpdate t x y q ∨ op = .insert t x y q) (ht : P.underlying t = some (.map k e)) (hd : P.underlying k = some d) (hx : asg us x = .map (some r)) (hy : asg us y = u) (hq : asg us q = v) (hu : IsKey d u) (m : MapIs d h r f)
    (g : Value → Option Value) (hg : g u = some v) (hg2 : ∀ j, j ≠ u → g j = f j) (hk : ∀ h' : Heap, h'.size = h.size → (∀ b, b ≠ r → h'[b]? = h[b]?) → MapIs d h' r g → K undef h') : step P op ty us h K := by
  refine step_of (runs_skip fun w hw => ?_)
  subst hw
  obtain ⟨o, h1, h2⟩ := run_update (v := v) ht hd hu m g hg hg2
  obtain ⟨es, c, h3, _⟩ := m.ex
  have hoth := (MapKept.heap_set (o' := o) h3).2
  refine ⟨{ w with heap := w.heap.setIfInBounds r o }, ?_, Same.of_row rfl rfl rfl (by simp) h3 (by simp) (fun k _ hne => hoth k hne), hk _ (by simp) hoth h2⟩
  rcases hop with rfl | rfl <;> simp only [loudSem, execOp, hx, hy, hq] <;> simp [h1]
end

/-- A map of numbers by numbers. -/
def mapI (f : Int → Option Int) : Value → Option Value
  | .int .i64 j => (f j).map (.int .i64)
  | _ => none
@[simp] theorem mapI_int {f : Int → Option Int} {j : Int} : mapI f (.int .i64 j) = (f j).map (.int .i64) := rfl
/-- A set of numbers, as a map to bools. -/
def mapB (s : Int → Bool) : Value → Option Value
  | .int .i64 j => if s j then some (.bool true) else none
  | _ => none
@[simp] theorem mapB_int {s : Int → Bool} {j : Int} : mapB s (.int .i64 j) = if s j then some (.bool true) else none := rfl
theorem isKey_i {j : Int} : IsKey (.int .i64) (.int .i64 j) := rfl
theorem mapI_put {f g : Int → Option Int} {j v : Int} (h : ∀ i, g i = if i = j then some v else f i) : mapI g (.int .i64 j) = some (.int .i64 v) ∧ ∀ u, u ≠ .int .i64 j → mapI g u = mapI f u := by
  refine ⟨by simp [h], fun u hu => ?_⟩
  cases u <;> try rfl
  rename_i k i
  cases k <;> try rfl
  have : i ≠ j := fun e => hu (by rw [e])
  simp [h, this]
theorem mapB_put {f g : Int → Bool} {j : Int} (h : ∀ i, g i = if i = j then true else f i) : mapB g (.int .i64 j) = some (.bool true) ∧ ∀ u, u ≠ .int .i64 j → mapB g u = mapB f u := by
  refine ⟨by simp [h], fun u hu => ?_⟩
  cases u <;> try rfl
  rename_i k i
  cases k <;> try rfl
  have : i ≠ j := fun e => hu (by rw [e])
  simp [h, this]
theorem mapI_none : mapI (fun _ => .none) = fun _ => .none := by
  funext u; cases u <;> try rfl
  rename_i k i; cases k <;> rfl
theorem mapB_none : mapB (fun _ => false) = fun _ => .none := by
  funext u; cases u <;> try rfl
  rename_i k i; cases k <;> rfl
@[simp] theorem getD_bool {s : Bool} : (if s = true then some (Value.bool true) else .none).getD (.bool false) = .bool s := by cases s <;> rfl
/-- A block that stands turns. -/
theorem Bx.turn {α : Type} [Rep α] {W : View} {h h' : Heap} {B r : Nat} {T e : TypeId} {v : Value} {l : List α} {o o' : Obj} (b : Bx W h B T e v l) (hr : W r = some o) (hr' : h'[r]? = some o') (hs : h'.size = h.size) (ho : ∀ k, k ≠ r → h'[k]? = h[k]?) : Bx (W.set r o') h' B T e v l :=
  b.move (fun k x hk => by
    unfold View.set at hk
    split at hk
    · rename_i e; subst e; cases hk; exact hr'
    · rename_i e; show h'[k]? = _; rw [ho k e]; exact b.wle k x hk) fun k hk _ => by
    have hne : k ≠ r := fun e => by rw [e, hr] at hk; cases hk
    exact ⟨ho k hne, by unfold View.set; rw [if_neg hne]; exact hk⟩
end Go.Lft

/- Slice literals. -/
namespace Go.Lft
open Go
set_option linter.unusedSimpArgs false
set_option linter.unusedVariables false

/-- The rest of the text behind a name, while its first part is walked. -/
theorem lwp_hide {P : Program} {x y : LC} {Q : Post} {ρ : Env} {h : Heap} (hx : ∀ z, z = y → LC.wp P x (thenL (LC.wp P z Q) Q) ρ h) : LC.wp P (.seq x y) Q ρ h := hx y rfl
/-- The rest of a region behind a name, while its first loud operation is walked. -/
theorem lwp_hideR {P : Program} {k : Bool} {kill : List Nat} {sets args : List (Nat × E)} {grd : Option (E × Bool)} {chk : List E} {tail : Bool} {op : Op} {ty : TypeId} {dst : Option Nat} {keep : Bool} {next : Reg} {Q : Post} {ρ : Env} {h : Heap}
    (hx : ∀ z, z = next → LC.wp P (.reg k (.loud kill sets args grd chk tail op ty dst keep z)) Q ρ h) : LC.wp P (.reg k (.loud kill sets args grd chk tail op ty dst keep next)) Q ρ h := hx next rfl
theorem reg_hide {P : Program} {m : Option View} {kill : List Nat} {sets args : List (Nat × E)} {grd : Option (E × Bool)} {chk : List E} {tail : Bool} {op : Op} {ty : TypeId} {dst : Option Nat} {keep : Bool} {next : Reg} {Q : Env → Heap → Prop} {ρ : Env} {h : Heap}
    (hx : ∀ z, z = next → regWp P m (.loud kill sets args grd chk tail op ty dst keep z) Q ρ h) : regWp P m (.loud kill sets args grd chk tail op ty dst keep next) Q ρ h := hx next rfl

def RdAll {α : Type} [Rep α] (X : View) : List Value → List α → Prop
  | [], [] => True
  | v :: vs, d :: ds => Rd X v d ∧ RdAll X vs ds
  | _, _ => False
theorem RdAll.len {α : Type} [Rep α] {X : View} : ∀ {vs : List Value} {ds : List α}, RdAll X vs ds → vs.length = ds.length
  | [], [], _ => rfl
  | _ :: _, _ :: _, h => by simp [RdAll.len h.2]
theorem RdAll.get {α : Type} [Rep α] {X : View} : ∀ {vs : List Value} {ds : List α}, RdAll X vs ds → ∀ (i : Nat) (h1 : i < vs.length) (h2 : i < ds.length), Rd X vs[i] ds[i]
  | _ :: _, _ :: _, h, 0, _, _ => h.1
  | _ :: _, _ :: _, h, i + 1, h1, h2 => h.2.get i _ _
theorem RdAll.mono {α : Type} [Rep α] {X Y : View} (hk : X.le Y) : ∀ {vs : List Value} {ds : List α}, RdAll X vs ds → RdAll Y vs ds
  | [], [], _ => trivial
  | _ :: _, _ :: _, h => ⟨h.1.mono hk, h.2.mono hk⟩
theorem Rd.cells1 {α : Type} [Rep α] {X : View} {v : Value} {d : α} (ha : Rep.agg α = false) (h : Rd X v d) : v.cells = #[v] := by
  unfold Rd at h
  rw [if_neg (by simp [ha])] at h
  have hfl := Rep.flat h v (by simp)
  cases v <;> first | rfl | simp [Value.oneCell'] at hfl

theorem fill_all : ∀ (vs : List Value) (k : Nat) (A : Array Value), (∀ v ∈ vs, v.cells = #[v]) → k + vs.length = A.size →
    ∃ B, Instr.fill (fun j => some (j * 1, 1)) A ((vs.zipIdx k).map fun p => (p.2, p.1)) = some B ∧ B.toList = A.toList.take k ++ vs
  | [], k, A, _, hk => ⟨A, rfl, by simp at hk; rw [List.take_of_length_le (by simp [hk])]; simp⟩
  | v :: vs, k, A, hv, hk => by
    have hc := hv v (List.mem_cons_self ..)
    obtain ⟨B, h1, h2⟩ := fill_all vs (k + 1) (A.setIfInBounds k v) (fun u hu => hv u (List.mem_cons_of_mem _ hu)) (by simp at hk ⊢; omega)
    refine ⟨B, ?_, ?_⟩
    · simp only [List.zipIdx_cons, List.map_cons, Instr.fill, hc, Nat.mul_one]
      rw [if_neg (by simp at hk ⊢; omega)]
      simpa using h1
    · rw [h2]
      have hkA : k < A.toList.length := by simp at hk ⊢; omega
      rw [List.take_succ_eq_append_getElem (by simpa using hkA)]
      simp [List.take_set_of_le]

/-- A slice literal, of elements of one cell. -/
theorem do_lit {α : Type} [Rep α] {P : Program} {t e n : Nat} {ty : TypeId} {bytes : Nat} {z : Value} {ps : Array (Nat × Operand)} {us : List (Nat × Value)} {vs : List Value} {ds : List α} {h : Heap} {K : Value → Heap → Prop} (ha : Rep.agg α = false) (hT : ElemT P t e 1 bytes z)
    (hp : ps.map (fun p => (p.1, asg us p.2)) = ((vs.zipIdx 0).map fun p => (p.2, p.1)).toArray) (hr : RdAll (vw h) vs ds) (hn : ds.length = n) (hb : n ≤ 16777216)
    (hk : ∀ u h', (vw h).le (vw h') → SlRd (vw h') u ds → K u h') : step P (.buildSlice t n ps) ty us h K := by
  have hl := hr.len
  obtain ⟨B, h1, h2⟩ := fill_all vs 0 ((Array.range (n * 1)).map (z.cells[· % z.cells.size]!)) (fun v hv => by
    obtain ⟨i, hi, rfl⟩ := List.getElem_of_mem hv
    exact (hr.get i hi (by omega)).cells1 ha) (by simp; omega)
  have hB : B = vs.toArray := by rw [← Array.toList_inj, h2]; simp
  refine do_lits hT (by omega) hp h1 ?_
  have hle := push_le h (.cells B e)
  have hone := Rep.one (α := α) ha
  refine hk _ _ hle ⟨some ⟨h.size, 0, none⟩, n, by rw [hn], by omega, by omega, .inr ⟨_, rfl, rfl, fun i hi => ?_⟩⟩
  rw [addr_add_none rfl, hone]
  refine ⟨[vs[i]], ⟨B, e, (0, 0), rfl, by simp [vw], ?_⟩, ?_⟩
  · rw [hB]
    have hd : vs.drop i = vs[i] :: vs.drop (i + 1) := List.drop_eq_getElem_cons (by omega)
    simp only [Nat.zero_add, Nat.mul_one, List.length_cons, List.length_nil]
    show List.take (0 + 1) (List.drop i vs) = _
    rw [hd]; rfl
  · have := (hr.get i (by omega) hi).mono hle
    unfold Rd at this
    rw [if_neg (by simp [ha])] at this
    exact this
end Go.Lft

/- From a call's contract over heaps to the row of a law: arguments that read as typed data; what the row asks behind the call. -/
namespace Go.Lft
open Go Go.ChangeShapes Go.WideShapes Go.RowKit
set_option linter.unusedSimpArgs false
set_option linter.unusedVariables false

/-- A type of the program reads as a type of data. -/
structure RT (P : Program) (t : TypeId) (α : Type) [Rep α] : Prop where
  cells : ∀ {H : Type} {enc : TypeId × Value → H} {W : World} {spare : Nat → Bool} {held : Bool} {fuel : Nat} {cs : List Value} {d : DataW H} {ps : List MemPlace},
    DataW.trod enc P W 0 spare held fuel t cs = some (d, ps) → (∀ b ∈ d.weights P t, b ≤ reachBytes) → ∃ x : α, Rep.rd (vw W.heap) cs x
  val : ∀ {W : World} {r : Reach} {base : Nat} {v : Value}, Value.okWide P W r base t v → if Rep.agg α then ∃ cs, v = .agg cs else v.cells = #[v]

theorem RT.arg {P : Program} {t : TypeId} {α : Type} [Rep α] (rt : RT P t α) {H : Type} {enc : TypeId × Value → H} {W : World} {spare : Nat → Bool} {held : Bool} {v : Value} {d : DataW H} {ps : List MemPlace} {r : Reach} {base : Nat}
    (h : DataW.Trod enc P W 0 spare held t v d ps) (hok : Value.okWide P W r base t v) (hw : ∀ b ∈ d.weights P t, b ≤ reachBytes) : ∃ x : α, Rd (vw W.heap) v x := by
  obtain ⟨fuel, h⟩ := h
  obtain ⟨x, hx⟩ := rt.cells h hw
  have hv := rt.val hok
  refine ⟨x, ?_⟩
  unfold Rd
  split
  · rename_i ha
    rw [if_pos ha] at hv
    obtain ⟨cs, rfl⟩ := hv
    exact ⟨cs, rfl, hx⟩
  · rename_i ha
    rw [if_neg ha] at hv
    rw [hv] at hx
    exact hx

theorem wf_i64 {n : Int} (h : (Lit.int .i64 n).wf = true) : -9223372036854775808 ≤ n ∧ n ≤ 9223372036854775807 := by
  simp only [Lit.wf, Bool.and_eq_true, decide_eq_true_eq] at h
  simpa [IntKind.min, IntKind.max, IntKind.signed, IntKind.bits] using h
theorem wf_i32 {n : Int} (h : (Lit.int .i32 n).wf = true) : -2147483648 ≤ n ∧ n ≤ 2147483647 := by
  simp only [Lit.wf, Bool.and_eq_true, decide_eq_true_eq] at h
  simpa [IntKind.min, IntKind.max, IntKind.signed, IntKind.bits] using h

section
variable {P : Program} {t e : TypeId} {H : Type} {enc : TypeId × Value → H} {W : World} {spare : Nat → Bool} {held : Bool} {fuel : Nat} {cs : List Value} {x : DataW H × List MemPlace}
theorem trod_int {k : IntKind} (ht : P.underlying t = some (.int k)) (h : DataW.trod enc P W 0 spare held fuel t cs = some x) : ∃ n, cs = [.int k n] ∧ (Lit.int k n).wf = true := by
  cases fuel with
  | zero => simp [DataW.trod] at h
  | succ n =>
    unfold DataW.trod at h
    rw [ht] at h
    split at h <;> simp_all
theorem trod_bool (ht : P.underlying t = some .bool) (h : DataW.trod enc P W 0 spare held fuel t cs = some x) : ∃ b, cs = [.bool b] := by
  cases fuel with
  | zero => simp [DataW.trod] at h
  | succ n =>
    unfold DataW.trod at h
    rw [ht] at h
    split at h <;> simp_all
end
section
variable {P : Program} {t e : TypeId}
theorem rt_int (ht : P.underlying t = some (.int .i64)) : RT P t Int where
  cells := fun {H enc W spare held fuel cs d ps} h _ => by
    obtain ⟨n, rfl, hw⟩ := trod_int ht h
    exact ⟨n, rfl, wf_i64 hw⟩
  val := fun {W r base v} h => by
    simp only [Value.okWide, ht, Cell.okWide] at h
    cases v <;> simp [Cell.ok, ht] at h ⊢ <;> first | rfl | simp [Rep.agg, Value.cells]
theorem rt_i32 (ht : P.underlying t = some (.int .i32)) : RT P t I32 where
  cells := fun {H enc W spare held fuel cs d ps} h _ => by
    obtain ⟨n, rfl, hw⟩ := trod_int ht h
    exact ⟨⟨n⟩, rfl, wf_i32 hw⟩
  val := fun {W r base v} h => by
    simp only [Value.okWide, ht, Cell.okWide] at h
    cases v <;> simp [Cell.ok, ht] at h ⊢ <;> first | rfl | simp [Rep.agg, Value.cells]
theorem rt_bool (ht : P.underlying t = some .bool) : RT P t Bool where
  cells := fun {H enc W spare held fuel cs d ps} h _ => by
    obtain ⟨n, rfl⟩ := trod_bool ht h
    exact ⟨n, rfl⟩
  val := fun {W r base v} h => by
    simp only [Value.okWide, ht, Cell.okWide] at h
    cases v <;> simp [Cell.ok, ht] at h ⊢ <;> first | rfl | simp [Rep.agg, Value.cells]

theorem cell_none {W : World} {a : Addr} {v : Value} (h : W.cell? a = some v) : a.spot = none ∧ ∃ c T fz, W.heap[a.block]? = some (.cells c T fz) ∧ c[a.off]? = some v := by
  unfold World.cell? at h
  split at h
  · rename_i c T fz hb
    split at h
    · cases h
    · rename_i hs
      exact ⟨by simpa using hs, c, T, fz, hb, h⟩
  · cases h
theorem cellsAt_of {W : World} {a : Addr} {n : Nat} {c : List Value} (hn : 0 < n) (h : W.cells? 0 a n = some c) : a.spot = none ∧ cellsAt (vw W.heap) a c := by
  obtain ⟨_, hl, hc⟩ := World.cells?_some h
  have h0 := hc 0 hn
  have e0 : a.add 0 = a := by simp [Addr.add]
  rw [e0, List.getElem?_eq_getElem (by omega)] at h0
  obtain ⟨hs, arr, T, fz, hb, _⟩ := cell_none h0
  refine ⟨hs, arr, T, fz, hs, hb, List.ext_getElem? fun i => ?_⟩
  by_cases hi : i < n
  · have h1 := hc i hi
    rw [addr_add_none hs] at h1
    simp only [World.cell?, hb] at h1
    rw [List.getElem?_take, if_pos (by omega), List.getElem?_drop]
    simpa using h1
  · rw [List.getElem?_eq_none (by simp; omega), List.getElem?_eq_none (by omega)]
theorem weights_mem {H : Type} {P : Program} {e : TypeId} : ∀ {l : List (DataW H)} {d : DataW H}, d ∈ l → ∀ b ∈ d.weights P e, b ∈ DataW.weightsAll P e l
  | x :: l, d, hd, b, hb => by
    rw [DataW.weightsAll, List.mem_append]
    rcases List.mem_cons.1 hd with rfl | hd
    · exact .inl hb
    · exact .inr (weights_mem hd b hb)

theorem rt_slice {α : Type} [Rep α] (ht : P.underlying t = some (.slice e)) (hc : P.cellsOf e = Rep.n α) (hby : 1 ≤ P.bytesOf e) (re : RT P e α) : RT P t (List α) where
  cells := fun {H enc W spare held fuel cs d ps} h hw => by
    rcases DataW.trod_slice ht h with ⟨rfl, _⟩ | ⟨a, len, cap, elems, rest, n, _, rfl, hx, _, hlc, hcm, hel, hget, _, _⟩
    · exact ⟨[], _, rfl, none, 0, rfl, by simp, by simp, .inl rfl⟩
    · simp only [Prod.mk.injEq] at hx
      obtain ⟨rfl, _⟩ := hx
      have hwt : ∀ b ∈ (DataW.slice (elems.map (·.1)) (rest.map (·.1))).weights P t, b ≤ reachBytes := hw
      unfold DataW.weights at hwt
      rw [ht] at hwt
      simp only [List.mem_cons, List.mem_append, List.length_map] at hwt
      have hlen : len ≤ 140737488351232 := by
        have h1 := hwt _ (.inl rfl)
        have h2 : elems.length * 1 ≤ (elems.length + rest.length) * P.bytesOf e := Nat.mul_le_mul (by omega) hby
        have h3 : reachBytes = 140737488351232 := rfl
        omega
      have hpos := Rep.pos (α := α)
      have each : ∀ i, i < len → ∃ x : α, ∃ c, W.cells? 0 (a.add (i * Rep.n α)) (Rep.n α) = some c ∧ Rep.rd (vw W.heap) c x := by
        intro i hi
        have h1 := hget i hi
        rw [hc, List.getElem?_eq_getElem (by omega), Option.bind_eq_some_iff] at h1
        obtain ⟨c, hc1, hc2⟩ := h1
        obtain ⟨x, hx⟩ := re.cells (d := elems[i].1) (ps := elems[i].2) hc2 fun b hb => hwt b (.inr (.inl (weights_mem (List.mem_map.2 ⟨_, List.getElem_mem (by omega), rfl⟩) b hb)))
        exact ⟨x, c, hc1, hx⟩
      have key : ∀ k, k ≤ len → ∃ l : List α, l.length = k ∧ ∀ (i : Nat) (hi : i < l.length), ∃ c, W.cells? 0 (a.add (i * Rep.n α)) (Rep.n α) = some c ∧ Rep.rd (vw W.heap) c l[i] := by
        intro k
        induction k with
        | zero => exact fun _ => ⟨[], rfl, fun i hi => by simp at hi⟩
        | succ k ih =>
          intro hk
          obtain ⟨l, h1, h2⟩ := ih (by omega)
          obtain ⟨x, c, h3, h4⟩ := each k (by omega)
          refine ⟨l ++ [x], by simp [h1], fun i hi => ?_⟩
          rcases Nat.lt_or_ge i l.length with hlt | hge
          · rw [List.getElem_append_left hlt]; exact h2 i hlt
          · have : i = k := by simp at hi; omega
            subst this
            rw [List.getElem_append_right hge]
            simp only [h1, Nat.sub_self, List.getElem_cons_zero]
            exact ⟨c, h3, h4⟩
      obtain ⟨l, h1, h2⟩ := key len (Nat.le_refl _)
      refine ⟨l, _, rfl, some a, cap, by rw [h1], by omega, by omega, ?_⟩
      rcases Nat.eq_zero_or_pos len with h0 | h0
      · left; exact List.eq_nil_of_length_eq_zero (by omega)
      · right
        obtain ⟨c, h3, _⟩ := h2 0 (by omega)
        have e0 : a.add (0 * Rep.n α) = a := by simp [Addr.add]
        rw [e0] at h3
        refine ⟨a, rfl, (cellsAt_of hpos h3).1, fun i hi => ?_⟩
        obtain ⟨c, h3, h4⟩ := h2 i hi
        exact ⟨c, (cellsAt_of hpos h3).2, h4⟩
  val := fun {W r base v} h => by
    simp only [Value.okWide, ht, Cell.okWide] at h
    cases v <;> simp [Cell.ok, ht] at h ⊢ <;> first | rfl | simp [Rep.agg, Value.cells]

theorem rt_pair (ht : P.underlying t = some (.array 2 e)) (he : P.underlying e = some (.int .i64)) (hc : P.cellsOf e = 1) (hc2 : P.cellsOf t = 2) : RT P t (Int × Int) where
  cells := fun {H enc W spare held fuel cs d ps} h _ => by
    obtain ⟨xs, m, _, _, hl, hxl, hget⟩ := DataW.trod_array ht h
    rw [hc2] at hl
    match cs, hl with
    | [u, v], _ =>
      have h0 := hget 0 (by omega)
      have h1 := hget 1 (by omega)
      rw [hc, List.getElem?_eq_getElem (by omega)] at h0 h1
      obtain ⟨a, e1, w1⟩ := trod_int he h0
      obtain ⟨b, e2, w2⟩ := trod_int he h1
      simp at e1 e2
      subst e1; subst e2
      exact ⟨(a, b), rfl, wf_i64 w1, wf_i64 w2⟩
  val := fun {W r base v} h => by
    simp only [Value.okWide, ht] at h
    obtain ⟨cs, rfl, _⟩ := h
    exact ⟨cs, rfl⟩
end

/-! ### Behind the call -/

theorem below_of {w w' : World} (hs : Same w w') (hle : (vw w.heap).le (vw w'.heap)) : Below w.heap.size w w' :=
  ⟨hs.os, hs.tape, hs.output, hs.size, fun k hk => by
    have := hle k w.heap[k] (Array.getElem?_eq_getElem hk)
    rw [Array.getElem?_eq_getElem hk]; exact this⟩

theorem trodAll_below {H : Type} {enc : TypeId × Value → H} {P : Program} {W W' : World} (hl : laidOutB P = true) (hb : Below W.heap.size W W') : ∀ {ts : List TypeId} {vs : List Value} {ds : List (DataW H)} {ps : List MemPlace},
    (∀ t ∈ ts, P.readableRec t = true ∧ t < P.types.size) → DataW.TrodAll enc P W 0 (fun _ => true) true ts vs ds ps → (∀ x ∈ ps, x.block < W.heap.size) → DataW.TrodAll enc P W' 0 (fun b => decide (b < W.heap.size)) true ts vs ds ps
  | [], vs, ds, ps, _, h, _ => by
    obtain ⟨rfl, rfl, rfl⟩ := trodAll_nil h
    rfl
  | t :: ts, vs, ds, ps, hr, h, hlt => by
    obtain ⟨v, vs', d, ds', p, q, rfl, rfl, rfl, h1, h2⟩ := trodAll_cons h
    obtain ⟨g1, g2⟩ := hr t (List.mem_cons_self ..)
    exact ⟨p, q, Below.trod hl g1 g2 h1 hb fun x hx => hlt x (List.mem_append_left _ hx), trodAll_below hl hb (fun t ht => hr t (List.mem_cons_of_mem _ ht)) h2 fun x hx => hlt x (List.mem_append_right _ hx), rfl⟩

/-- What a law's row asks behind the call. -/
theorem law_post {H : Type} {enc : TypeId × Value → H} {P : Program} {fn : Func} {s : ChangeSpec} {W W' : World} {args : Array Value} {ds gs : List (DataW H)} {before : List MemPlace} {fresh : Bool} {tb : TypeId} (hl : laidOutB P = true)
    (hr : ∀ t ∈ fn.params.toList, P.readableRec t = true ∧ t < P.types.size) (hW : DataW.Whole enc P fn.params.toList s.vars false W args.toList ds gs before) (hv : s.vars = []) (hs : s.fn H (ds ++ gs) = { results := [.lit (.bool true)], args := ds })
    (hres : fn.resultTypes = #[tb]) (htb : P.underlying tb = some .bool) (hb : Below W.heap.size W W') : s.post enc P fn false fresh false false W args (.bool true) W' := by
  have hW0 := hW
  obtain ⟨p, q, hA, hV, rfl, _, _⟩ := hW
  rw [hv] at hV
  obtain ⟨rfl, rfl⟩ := trodVars_none hV
  have hlt : ∀ x ∈ p, x.block < W.heap.size := fun x hx => by simpa using hW0.lt x (List.mem_append_left _ hx)
  refine ⟨ds, [], p ++ [], [], p, [], hW0, ?_, ?_, ?_, hb.frame _, fun h => by cases h⟩
  · rw [hs, hres]
    exact trodAll_mk1 (shut_bool htb true)
  · rw [hs]
    exact trodAll_below hl hb hr hA hlt
  · rw [hv, hs]; rfl
theorem law1 {H : Type} {enc : TypeId × Value → H} {P : Program} {a : Assume} {C : Checked} {os : Os} {f : FuncId} {fn : Func} {s : ChangeSpec} {conds : List PathCond} {fresh : Bool} {tb t1 : TypeId} {α : Type} [Rep α]
    (own : ownKnob C.prog.godebug = none) (started : os.Started) (noInit : C.prog.inits.idxOf? f = none) (hfn : C.prog.funcs[f]? = some fn) (hP : C.prog = P)
    (witness : ∃ (w : World) (tape : Tape) (i : Input), w.os = os ∧ (w.forCall tape i).Shaped C.prog ∧ i.vars = [] ∧ Input.okWide C.prog (w.forCall tape i) .any w.heap.size f i ∧
      s.pre6 enc C.prog fn conds false (w.forCall tape i).memory i.args ∧ a.holds C.prog (lone (Frame.enter C.prog f i.args .normal) [] (w.forCall tape i)))
    (hl : laidOutB P = true) (hr : ∀ t ∈ fn.params.toList, P.readableRec t = true ∧ t < P.types.size) (hv : s.vars = []) (hs : ∀ ds, ds.length = 1 → s.fn H ds = { results := [.lit (.bool true)], args := ds })
    (hres : fn.resultTypes = #[tb]) (htb : P.underlying tb = some .bool)
    (hp : fn.params = #[t1]) (r1 : RT P t1 α)
    (hcall : ∀ (h : Heap) (v1 : Value) (x1 : α), Rd (vw h) v1 x1 → HCalls P f #[v1] h (fun v h' => v = .bool true ∧ (vw h).le (vw h'))) :
    ReturnsInHanded a C os f .any (s.pre6 enc C.prog fn conds false) (s.post enc C.prog fn false fresh false false) := by
  subst hP
  refine returnsInHanded_of_change_shaped own started noInit hfn witness ?_
  intro W base args ds gs before hval hW _ hwt _ _
  have hW0 := hW
  obtain ⟨p, q, hA, hV, _, _, _⟩ := hW
  rw [hv] at hV
  obtain ⟨hgs, _⟩ := trodVars_none hV
  rw [hp] at hA
  obtain ⟨v1, d1, hargs, hds, h1⟩ := trodAll_one hA
  have hlen : (ds ++ gs).length = 1 := by rw [hds, hgs]; rfl
  rw [hgs, hds, hp] at hwt
  simp only [List.append_nil, List.all_eq_true, decide_eq_true_eq] at hwt
  obtain ⟨x1, q1⟩ := r1.arg h1 (hval 0 t1 v1 (by rw [hp]; rfl) (by rw [hargs]; rfl)) (fun b hb => hwt b (by simp [DataW.weightsEach, hb]))
  rw [hargs]
  refine (hcall W.heap v1 x1 q1 W rfl).mono ?_
  rintro e W' ⟨v, rfl, ⟨rfl, hle⟩, hsame⟩
  rw [← hargs]
  have hgs' : ds ++ gs = ds := by rw [hgs, List.append_nil]
  exact ⟨_, rfl, law_post hl hr hW0 hv (by rw [hs _ hlen, hgs']) hres htb (below_of hsame hle)⟩

theorem law2 {H : Type} {enc : TypeId × Value → H} {P : Program} {a : Assume} {C : Checked} {os : Os} {f : FuncId} {fn : Func} {s : ChangeSpec} {conds : List PathCond} {fresh : Bool} {tb t1 t2 : TypeId} {α β : Type} [Rep α] [Rep β]
    (own : ownKnob C.prog.godebug = none) (started : os.Started) (noInit : C.prog.inits.idxOf? f = none) (hfn : C.prog.funcs[f]? = some fn) (hP : C.prog = P)
    (witness : ∃ (w : World) (tape : Tape) (i : Input), w.os = os ∧ (w.forCall tape i).Shaped C.prog ∧ i.vars = [] ∧ Input.okWide C.prog (w.forCall tape i) .any w.heap.size f i ∧
      s.pre6 enc C.prog fn conds false (w.forCall tape i).memory i.args ∧ a.holds C.prog (lone (Frame.enter C.prog f i.args .normal) [] (w.forCall tape i)))
    (hl : laidOutB P = true) (hr : ∀ t ∈ fn.params.toList, P.readableRec t = true ∧ t < P.types.size) (hv : s.vars = []) (hs : ∀ ds, ds.length = 2 → s.fn H ds = { results := [.lit (.bool true)], args := ds })
    (hres : fn.resultTypes = #[tb]) (htb : P.underlying tb = some .bool)
    (hp : fn.params = #[t1, t2]) (r1 : RT P t1 α) (r2 : RT P t2 β)
    (hcall : ∀ (h : Heap) (v1 : Value) (x1 : α) (v2 : Value) (x2 : β), Rd (vw h) v1 x1 → Rd (vw h) v2 x2 → HCalls P f #[v1, v2] h (fun v h' => v = .bool true ∧ (vw h).le (vw h'))) :
    ReturnsInHanded a C os f .any (s.pre6 enc C.prog fn conds false) (s.post enc C.prog fn false fresh false false) := by
  subst hP
  refine returnsInHanded_of_change_shaped own started noInit hfn witness ?_
  intro W base args ds gs before hval hW _ hwt _ _
  have hW0 := hW
  obtain ⟨p, q, hA, hV, _, _, _⟩ := hW
  rw [hv] at hV
  obtain ⟨hgs, _⟩ := trodVars_none hV
  rw [hp] at hA
  obtain ⟨v1, v2, d1, d2, p1, p2, hargs, hds, _, h1, h2⟩ := trodAll_two hA
  have hlen : (ds ++ gs).length = 2 := by rw [hds, hgs]; rfl
  rw [hgs, hds, hp] at hwt
  simp only [List.append_nil, List.all_eq_true, decide_eq_true_eq] at hwt
  obtain ⟨x1, q1⟩ := r1.arg h1 (hval 0 t1 v1 (by rw [hp]; rfl) (by rw [hargs]; rfl)) (fun b hb => hwt b (by simp [DataW.weightsEach, hb]))
  obtain ⟨x2, q2⟩ := r2.arg h2 (hval 1 t2 v2 (by rw [hp]; rfl) (by rw [hargs]; rfl)) (fun b hb => hwt b (by simp [DataW.weightsEach, hb]))
  rw [hargs]
  refine (hcall W.heap v1 x1 v2 x2 q1 q2 W rfl).mono ?_
  rintro e W' ⟨v, rfl, ⟨rfl, hle⟩, hsame⟩
  rw [← hargs]
  have hgs' : ds ++ gs = ds := by rw [hgs, List.append_nil]
  exact ⟨_, rfl, law_post hl hr hW0 hv (by rw [hs _ hlen, hgs']) hres htb (below_of hsame hle)⟩

theorem law3 {H : Type} {enc : TypeId × Value → H} {P : Program} {a : Assume} {C : Checked} {os : Os} {f : FuncId} {fn : Func} {s : ChangeSpec} {conds : List PathCond} {fresh : Bool} {tb t1 t2 t3 : TypeId} {α β γ : Type} [Rep α] [Rep β] [Rep γ]
    (own : ownKnob C.prog.godebug = none) (started : os.Started) (noInit : C.prog.inits.idxOf? f = none) (hfn : C.prog.funcs[f]? = some fn) (hP : C.prog = P)
    (witness : ∃ (w : World) (tape : Tape) (i : Input), w.os = os ∧ (w.forCall tape i).Shaped C.prog ∧ i.vars = [] ∧ Input.okWide C.prog (w.forCall tape i) .any w.heap.size f i ∧
      s.pre6 enc C.prog fn conds false (w.forCall tape i).memory i.args ∧ a.holds C.prog (lone (Frame.enter C.prog f i.args .normal) [] (w.forCall tape i)))
    (hl : laidOutB P = true) (hr : ∀ t ∈ fn.params.toList, P.readableRec t = true ∧ t < P.types.size) (hv : s.vars = []) (hs : ∀ ds, ds.length = 3 → s.fn H ds = { results := [.lit (.bool true)], args := ds })
    (hres : fn.resultTypes = #[tb]) (htb : P.underlying tb = some .bool)
    (hp : fn.params = #[t1, t2, t3]) (r1 : RT P t1 α) (r2 : RT P t2 β) (r3 : RT P t3 γ)
    (hcall : ∀ (h : Heap) (v1 : Value) (x1 : α) (v2 : Value) (x2 : β) (v3 : Value) (x3 : γ), Rd (vw h) v1 x1 → Rd (vw h) v2 x2 → Rd (vw h) v3 x3 → HCalls P f #[v1, v2, v3] h (fun v h' => v = .bool true ∧ (vw h).le (vw h'))) :
    ReturnsInHanded a C os f .any (s.pre6 enc C.prog fn conds false) (s.post enc C.prog fn false fresh false false) := by
  subst hP
  refine returnsInHanded_of_change_shaped own started noInit hfn witness ?_
  intro W base args ds gs before hval hW _ hwt _ _
  have hW0 := hW
  obtain ⟨p, q, hA, hV, _, _, _⟩ := hW
  rw [hv] at hV
  obtain ⟨hgs, _⟩ := trodVars_none hV
  rw [hp] at hA
  obtain ⟨v1, v2, v3, d1, d2, d3, p1, p2, p3, hargs, hds, _, h1, h2, h3⟩ := trodAll_three hA
  have hlen : (ds ++ gs).length = 3 := by rw [hds, hgs]; rfl
  rw [hgs, hds, hp] at hwt
  simp only [List.append_nil, List.all_eq_true, decide_eq_true_eq] at hwt
  obtain ⟨x1, q1⟩ := r1.arg h1 (hval 0 t1 v1 (by rw [hp]; rfl) (by rw [hargs]; rfl)) (fun b hb => hwt b (by simp [DataW.weightsEach, hb]))
  obtain ⟨x2, q2⟩ := r2.arg h2 (hval 1 t2 v2 (by rw [hp]; rfl) (by rw [hargs]; rfl)) (fun b hb => hwt b (by simp [DataW.weightsEach, hb]))
  obtain ⟨x3, q3⟩ := r3.arg h3 (hval 2 t3 v3 (by rw [hp]; rfl) (by rw [hargs]; rfl)) (fun b hb => hwt b (by simp [DataW.weightsEach, hb]))
  rw [hargs]
  refine (hcall W.heap v1 x1 v2 x2 v3 x3 q1 q2 q3 W rfl).mono ?_
  rintro e W' ⟨v, rfl, ⟨rfl, hle⟩, hsame⟩
  rw [← hargs]
  have hgs' : ds ++ gs = ds := by rw [hgs, List.append_nil]
  exact ⟨_, rfl, law_post hl hr hW0 hv (by rw [hs _ hlen, hgs']) hres htb (below_of hsame hle)⟩
end Go.Lft

/- The functions of the program in the lifted language, each with the proof that the lifter makes just it. Written by program. -/
namespace Go.Proofs.Ytaebcebflfgdiaa
open Go Go.Lft
set_option maxRecDepth 100000

/-- gosem.cut.init -/
abbrev N.gosem_cut_init : Nat := 2
def L.gosem_cut_init : LFn :=
⟨[],
  (.reg false (.loud [] [] [] none [] false (.call ⟨.value (.func 1), #[], #[]⟩) 0 (some 0) false
    (.fin [] [] [])))⟩
theorem E.gosem_cut_init : liftF Try.prog Try.f2 = some L.gosem_cut_init := by kernel_rfl

/-- jacquard/jacquardlaw02.GraphTells -/
abbrev N.law02_GraphTells : Nat := 3
def L.law02_GraphTells : LFn :=
⟨[(.tmp 4)],
  (.seq
  (.reg false (.fin [4] [(4, (.con (.bool false)))] []))
  (.seq
  (.reg false (.loud [] [] [] none [] false (.call ⟨.value (.func 12), #[], #[]⟩) 4 (some 6) true
    (.fin [5] [(5, (.tmp 6))] [])))
  (.seq
  (.reg false (.loud [7, 8, 9] [(8, (.tmp 5))] [(9, (.gd (.tmp 5) true (.tmp 0)))] (some ((.tmp 5), true)) [] false (.call ⟨.value (.func 14), #[(.tmp 9)], #[22]⟩) 22 (some 10) true
    (.loud [] [] [(10, (.tmp 10))] (some ((.tmp 8), true)) [] false (.call ⟨.value (.func 13), #[(.tmp 10)], #[22]⟩) 4 (some 11) true
      (.loud [12, 13, 14] [(13, (.ite (.tmp 8) (.tmp 11) (.con (.bool false))))] [(14, (.gd (.ite (.tmp 8) (.tmp 11) (.con (.bool false))) true (.tmp 1)))] (some ((.ite (.tmp 8) (.tmp 11) (.con (.bool false))), true)) [] false (.call ⟨.value (.func 15), #[(.tmp 14)], #[23]⟩) 22 (some 15) true
        (.loud [] [] [(15, (.tmp 15))] (some ((.tmp 13), true)) [] false (.call ⟨.value (.func 13), #[(.tmp 15)], #[22]⟩) 4 (some 16) true
          (.loud [17, 18] [(18, (.ite (.tmp 13) (.tmp 16) (.con (.bool false))))] [] (some ((.ite (.tmp 13) (.tmp 16) (.con (.bool false))), true)) [] false (.call ⟨.value (.func 13), #[(.const (.slice none 0 0))], #[22]⟩) 4 (some 19) true
            (.fin [20, 4] [(4, (.ite (.tmp 18) (.tmp 19) (.con (.bool false))))] [])))))))
  .ret)))⟩
theorem E.law02_GraphTells : liftF Try.prog Try.f3 = some L.law02_GraphTells := by kernel_rfl

/-- jacquard/jacquardlaw02.GraphOrder -/
abbrev N.law02_GraphOrder : Nat := 4
def L.law02_GraphOrder.l1 : LC :=
  (.seq
      (.seq
      (.reg false (.fin [23, 24, 25, 26] [(26, (.bin (.cmp .lss) (.tmp 9) (.un .len (.tmp 7))))] []))
      (.cond (.tmp 26) [26]
        .skip
        (.exit 0)))
      (.seq
      (.block 1
        (.seq
        (.reg false (.fin [29, 30, 31, 32] [(32, (.un .load (.bin (.idx 1) (.tmp 7) (.tmp 9))))] []))
        (.cond (.tmp 32) [32]
          (.reg false (.fin [33, 34, 8] [(8, (.bin (.arith .add) (.tmp 8) (.con (.int .i64 1))))] []))
          .skip)))
      (.reg false (.fin [27, 28, 9] [(9, (.bin (.arith .add) (.tmp 9) (.con (.int .i64 1))))] []))))
def L.law02_GraphOrder.l3 : LC :=
  (.seq
            (.seq
            (.reg false (.fin [71, 72, 73] [(73, (.bin (.cmp .lss) (.tmp 12) (.tmp 10)))] []))
            (.cond (.tmp 73) [73]
              .skip
              (.exit 4)))
            (.seq
            (.block 5
              (.seq
              (.reg true (.loud [76, 77, 78, 79, 80, 81, 82, 83, 84] [] [(76, (.tmp 4)), (80, (.un .load (.bin (.idx 1) (.tmp 5) (.tmp 12)))), (84, (.un .load (.bin (.idx 1) (.tmp 5) (.tmp 10))))] none [] true (.call ⟨.value (.func 19), #[(.tmp 76), (.tmp 80), (.tmp 84)], #[22, 3, 3]⟩) 4 (some 85) true
                (.fin [13] [(13, (.tmp 85))] [])))
              (.seq
              (.reg false (.fin [86, 87, 88, 89, 11] [(11, (.ite (.tmp 11) (.con (.bool true)) (.tmp 13)))] []))
              (.seq
              (.reg true (.fin [90, 91, 92, 93, 94, 95, 96, 97, 98, 99, 100, 101, 102, 103, 104, 105, 106, 107, 108, 109, 110, 111, 112, 113] [(113, (.ite (.bin (.cmp .eql) (.un .load (.bin (.idx 1) (.tmp 5) (.tmp 12))) (.un .load (.bin (.idx 1) (.tmp 5) (.tmp 10)))) (.con (.bool true)) (.un .load (.bin (.idx 1) (.un .load (.bin (.idx 1) (.tmp 6) (.un .load (.bin (.idx 1) (.tmp 5) (.tmp 10))))) (.un .load (.bin (.idx 1) (.tmp 5) (.tmp 12)))))))] []))
              (.cond (.tmp 113) [113]
                (.seq
                (.reg false (.fin [2] [(2, (.con (.bool false)))] []))
                .ret)
                .skip)))))
            (.reg false (.fin [74, 75, 12] [(12, (.bin (.arith .add) (.tmp 12) (.con (.int .i64 1))))] []))))
def L.law02_GraphOrder.l2 : LC :=
  (.seq
      (.seq
      (.reg false (.fin [49, 50, 51, 52] [(52, (.bin (.cmp .lss) (.tmp 10) (.un .len (.tmp 5))))] []))
      (.cond (.tmp 52) [52]
        .skip
        (.exit 2)))
      (.seq
      (.block 3
        (.seq
        (.seq
        (.reg false (.fin [55, 56, 57, 58, 59, 60, 61, 62, 63, 64, 65, 66, 67, 68] [(68, (.ite (.bin (.cmp .lss) (.un .load (.bin (.idx 1) (.tmp 5) (.tmp 10))) (.con (.int .i64 0))) (.con (.bool true)) (.bin (.cmp .geq) (.un .load (.bin (.idx 1) (.tmp 5) (.tmp 10))) (.un .len (.tmp 4)))))] []))
        (.cond (.tmp 68) [68]
          (.seq
          (.reg false (.fin [2] [(2, (.con (.bool false)))] []))
          .ret)
          .skip))
        (.seq
        (.reg false (.fin [69, 70, 11] [(11, (.bin (.cmp .eql) (.tmp 10) (.con (.int .i64 0))))] []))
        (.seq
        (.seq
        (.reg false (.fin [12] [(12, (.con (.int .i64 0)))] []))
        (.block 4
          (.loop L.law02_GraphOrder.l3)))
        (.seq
        (.reg false (.fin [114, 115] [(115, (.un .not (.tmp 11)))] []))
        (.cond (.tmp 115) [115]
          (.seq
          (.reg false (.fin [2] [(2, (.con (.bool false)))] []))
          .ret)
          .skip))))))
      (.reg false (.fin [53, 54, 10] [(10, (.bin (.arith .add) (.tmp 10) (.con (.int .i64 1))))] []))))
def L.law02_GraphOrder : LFn :=
⟨[(.tmp 2)],
  (.seq
  (.reg false (.fin [2] [(2, (.con (.bool false)))] []))
  (.seq
  (.reg false (.loud [] [] [] none [] false (.call ⟨.value (.func 12), #[], #[]⟩) 4 (some 14) true
    (.fin [3] [(3, (.tmp 14))] [])))
  (.seq
  (.reg false (.loud [15] [] [(15, (.tmp 0))] none [] false (.call ⟨.value (.func 15), #[(.tmp 15)], #[23]⟩) 22 (some 16) true
    (.fin [4] [(4, (.tmp 16))] [])))
  (.seq
  (.reg false (.loud [17] [] [(17, (.tmp 4))] none [] false (.call ⟨.value (.func 16), #[(.tmp 17)], #[22]⟩) 23 (some 18) true
    (.fin [5] [(5, (.tmp 18))] [])))
  (.seq
  (.reg false (.loud [19] [] [(19, (.tmp 4))] none [] false (.call ⟨.value (.func 17), #[(.tmp 19)], #[22]⟩) 30 (some 20) true
    (.fin [6] [(6, (.tmp 20))] [])))
  (.seq
  (.reg false (.loud [21] [] [(21, (.tmp 4))] none [] false (.call ⟨.value (.func 18), #[(.tmp 21), (.const (.int .i64 (-1)))], #[22, 3]⟩) 32 (some 22) true
    (.fin [7] [(7, (.tmp 22))] [])))
  (.seq
  (.reg false (.fin [8] [(8, (.con (.int .i64 0)))] []))
  (.seq
  (.seq
  (.reg false (.fin [9] [(9, (.con (.int .i64 0)))] []))
  (.block 0
    (.loop L.law02_GraphOrder.l1)))
  (.seq
  (.seq
  (.reg false (.fin [35, 36, 37, 38, 39, 40, 41, 42, 43, 44, 45, 46, 47, 48] [(48, (.ite (.ite (.bin (.cmp .neq) (.un .len (.tmp 5)) (.tmp 8)) (.con (.bool true)) (.bin (.cmp .eql) (.tmp 8) (.con (.int .i64 0)))) (.con (.bool true)) (.bin (.cmp .neq) (.un .load (.bin (.idx 1) (.tmp 5) (.con (.int .i64 0)))) (.con (.int .i64 0)))))] []))
  (.cond (.tmp 48) [48]
    (.seq
    (.reg false (.fin [2] [(2, (.con (.bool false)))] []))
    .ret)
    .skip))
  (.seq
  (.seq
  (.reg false (.fin [10] [(10, (.con (.int .i64 0)))] []))
  (.block 2
    (.loop L.law02_GraphOrder.l2)))
  (.seq
  (.reg false (.fin [116, 2] [(2, (.tmp 3))] []))
  .ret)))))))))))⟩
theorem E.law02_GraphOrder : liftF Try.prog Try.f4 = some L.law02_GraphOrder := by kernel_rfl

/-- jacquard/jacquardlaw02.GraphIdom -/
abbrev N.law02_GraphIdom : Nat := 5
def L.law02_GraphIdom : LFn :=
⟨[(.tmp 6)],
  (.seq
  (.reg false (.fin [6] [(6, (.con (.bool false)))] []))
  (.seq
  (.reg false (.loud [] [] [] none [] false (.call ⟨.value (.func 12), #[], #[]⟩) 4 (some 14) true
    (.fin [7] [(7, (.tmp 14))] [])))
  (.seq
  (.reg false (.loud [15] [] [(15, (.tmp 0))] none [] false (.call ⟨.value (.func 15), #[(.tmp 15)], #[23]⟩) 22 (some 16) true
    (.fin [8] [(8, (.tmp 16))] [])))
  (.seq
  (.reg false (.loud [17] [] [(17, (.tmp 8))] none [] false (.call ⟨.value (.func 20), #[(.tmp 17)], #[22]⟩) 23 (some 18) true
    (.fin [9] [(9, (.tmp 18))] [])))
  (.seq
  (.reg false (.loud [19, 20, 21] [] [(19, (.tmp 1)), (21, (.un .len (.tmp 8)))] none [] false (.call ⟨.value (.func 21), #[(.tmp 19), (.tmp 21)], #[3, 3]⟩) 3 (some 22) true
    (.fin [10] [(10, (.tmp 22))] [])))
  (.seq
  (.reg false (.loud [23, 24, 25] [] [(23, (.tmp 2)), (25, (.un .len (.tmp 8)))] none [] false (.call ⟨.value (.func 21), #[(.tmp 23), (.tmp 25)], #[3, 3]⟩) 3 (some 26) true
    (.fin [11] [(11, (.tmp 26))] [])))
  (.seq
  (.reg false (.loud [27] [] [(27, (.tmp 8))] none [] false (.call ⟨.value (.func 18), #[(.tmp 27), (.const (.int .i64 (-1)))], #[22, 3]⟩) 32 (some 28) true
    (.fin [12] [(12, (.tmp 28))] [])))
  (.seq
  (.seq
  (.reg false (.fin [29, 30, 31, 32, 33, 34, 35, 36, 37, 38, 39, 40] [(40, (.ite (.un .not (.un .load (.bin (.idx 1) (.tmp 12) (.tmp 10)))) (.con (.bool true)) (.un .not (.un .load (.bin (.idx 1) (.tmp 12) (.tmp 11))))))] []))
  (.cond (.tmp 40) [40]
    (.seq
    (.reg false (.loud [41, 42, 43, 44, 45, 46, 47, 48, 49] [(42, (.tmp 7)), (46, (.gd (.tmp 7) true (.bin (.cmp .eql) (.tmp 10) (.tmp 11))))] [(47, (.gd (.gd (.tmp 7) true (.bin (.cmp .eql) (.tmp 10) (.tmp 11))) false (.tmp 9))), (48, (.gd (.gd (.tmp 7) true (.bin (.cmp .eql) (.tmp 10) (.tmp 11))) false (.tmp 10))), (49, (.gd (.gd (.tmp 7) true (.bin (.cmp .eql) (.tmp 10) (.tmp 11))) false (.tmp 11)))] (some ((.gd (.tmp 7) true (.bin (.cmp .eql) (.tmp 10) (.tmp 11))), false)) [] false (.call ⟨.value (.func 22), #[(.tmp 47), (.tmp 48), (.tmp 49)], #[23, 3, 3]⟩) 4 (some 50) true
      (.fin [51, 52, 53, 6] [(6, (.ite (.tmp 42) (.ite (.tmp 46) (.con (.bool true)) (.un .not (.tmp 50))) (.con (.bool false))))] [(.gd (.tmp 46) false (.un .not (.tmp 50)))])))
    .ret)
    .skip))
  (.seq
  (.reg false (.loud [54, 55, 56] [] [(54, (.tmp 8)), (55, (.tmp 10)), (56, (.tmp 11))] none [] false (.call ⟨.value (.func 23), #[(.tmp 54), (.tmp 55), (.tmp 56)], #[22, 3, 3]⟩) 4 (some 57) true
    (.fin [13] [(13, (.tmp 57))] [])))
  (.seq
  (.reg false (.loud [58, 59, 60, 61, 62] [(59, (.tmp 7))] [(60, (.gd (.tmp 7) true (.tmp 9))), (61, (.gd (.tmp 7) true (.tmp 10))), (62, (.gd (.tmp 7) true (.tmp 11)))] (some ((.tmp 7), true)) [] false (.call ⟨.value (.func 22), #[(.tmp 60), (.tmp 61), (.tmp 62)], #[23, 3, 3]⟩) 4 (some 63) true
    (.fin [64, 65, 66, 6] [(6, (.ite (.tmp 59) (.bin (.eqB false) (.tmp 63) (.tmp 13)) (.con (.bool false))))] [])))
  .ret))))))))))⟩
theorem E.law02_GraphIdom : liftF Try.prog Try.f5 = some L.law02_GraphIdom := by kernel_rfl

/-- jacquard/jacquardlaw02.GraphChains -/
abbrev N.law02_GraphChains : Nat := 6
def L.law02_GraphChains : LFn :=
⟨[(.tmp 6)],
  (.seq
  (.reg false (.fin [6] [(6, (.con (.bool false)))] []))
  (.seq
  (.reg false (.loud [] [] [] none [] false (.call ⟨.value (.func 12), #[], #[]⟩) 4 (some 11) true
    (.fin [7] [(7, (.tmp 11))] [])))
  (.seq
  (.reg false (.fin [12, 13, 14, 15, 16, 8] [(8, (.bin .hi (.tmp 0) (.bin .min (.un .len (.tmp 0)) (.con (.int .i64 12)))))] []))
  (.seq
  (.seq
  (.reg false (.fin [17, 18, 19] [(19, (.bin (.cmp .eql) (.un .len (.tmp 8)) (.con (.int .i64 0))))] []))
  (.cond (.tmp 19) [19]
    (.seq
    (.reg false (.loud [20, 21, 22, 23, 24] [(21, (.tmp 7))] [(22, (.gd (.tmp 7) true (.tmp 8))), (23, (.gd (.tmp 7) true (.tmp 1))), (24, (.gd (.tmp 7) true (.tmp 2)))] (some ((.tmp 7), true)) [] false (.call ⟨.value (.func 22), #[(.tmp 22), (.tmp 23), (.tmp 24)], #[23, 3, 3]⟩) 4 (some 25) true
      (.fin [26, 27, 6] [(6, (.ite (.tmp 21) (.un .not (.tmp 25)) (.con (.bool false))))] [])))
    .ret)
    .skip))
  (.seq
  (.reg false (.loud [28, 29, 30] [] [(28, (.tmp 1)), (30, (.un .len (.tmp 8)))] none [] false (.call ⟨.value (.func 21), #[(.tmp 28), (.tmp 30)], #[3, 3]⟩) 3 (some 31) true
    (.fin [9] [(9, (.tmp 31))] [])))
  (.seq
  (.reg false (.loud [32, 33, 34] [] [(32, (.tmp 2)), (34, (.un .len (.tmp 8)))] none [] false (.call ⟨.value (.func 21), #[(.tmp 32), (.tmp 34)], #[3, 3]⟩) 3 (some 35) true
    (.fin [10] [(10, (.tmp 35))] [])))
  (.seq
  (.reg false (.loud [36, 37, 38, 39, 40] [(37, (.tmp 7))] [(38, (.gd (.tmp 7) true (.tmp 8))), (39, (.gd (.tmp 7) true (.tmp 1))), (40, (.gd (.tmp 7) true (.tmp 2)))] (some ((.tmp 7), true)) [] false (.call ⟨.value (.func 22), #[(.tmp 38), (.tmp 39), (.tmp 40)], #[23, 3, 3]⟩) 4 (some 41) true
    (.loud [42, 43, 44] [] [(42, (.gd (.tmp 37) true (.tmp 8))), (43, (.gd (.tmp 37) true (.tmp 1))), (44, (.gd (.tmp 37) true (.tmp 2)))] (some ((.tmp 37), true)) [] false (.call ⟨.value (.func 24), #[(.tmp 42), (.tmp 43), (.tmp 44)], #[23, 3, 3]⟩) 4 (some 45) true
      (.loud [46, 47, 48, 49, 50, 51] [(48, (.ite (.tmp 37) (.bin (.eqB false) (.tmp 41) (.tmp 45)) (.con (.bool false))))] [(49, (.gd (.ite (.tmp 37) (.bin (.eqB false) (.tmp 41) (.tmp 45)) (.con (.bool false))) true (.tmp 8))), (50, (.gd (.ite (.tmp 37) (.bin (.eqB false) (.tmp 41) (.tmp 45)) (.con (.bool false))) true (.tmp 9))), (51, (.gd (.ite (.tmp 37) (.bin (.eqB false) (.tmp 41) (.tmp 45)) (.con (.bool false))) true (.tmp 10)))] (some ((.ite (.tmp 37) (.bin (.eqB false) (.tmp 41) (.tmp 45)) (.con (.bool false))), true)) [] false (.call ⟨.value (.func 22), #[(.tmp 49), (.tmp 50), (.tmp 51)], #[23, 3, 3]⟩) 4 (some 52) true
        (.loud [53, 54, 55] [] [(53, (.gd (.tmp 48) true (.tmp 8))), (54, (.gd (.tmp 48) true (.tmp 9))), (55, (.gd (.tmp 48) true (.tmp 10)))] (some ((.tmp 48), true)) [] false (.call ⟨.value (.func 24), #[(.tmp 53), (.tmp 54), (.tmp 55)], #[23, 3, 3]⟩) 4 (some 56) true
          (.loud [57, 58, 59, 60, 61, 62] [(59, (.ite (.tmp 48) (.bin (.eqB false) (.tmp 52) (.tmp 56)) (.con (.bool false))))] [(60, (.gd (.ite (.tmp 48) (.bin (.eqB false) (.tmp 52) (.tmp 56)) (.con (.bool false))) true (.tmp 8))), (61, (.gd (.ite (.tmp 48) (.bin (.eqB false) (.tmp 52) (.tmp 56)) (.con (.bool false))) true (.tmp 9))), (62, (.gd (.ite (.tmp 48) (.bin (.eqB false) (.tmp 52) (.tmp 56)) (.con (.bool false))) true (.tmp 9)))] (some ((.ite (.tmp 48) (.bin (.eqB false) (.tmp 52) (.tmp 56)) (.con (.bool false))), true)) [] false (.call ⟨.value (.func 22), #[(.tmp 60), (.tmp 61), (.tmp 62)], #[23, 3, 3]⟩) 4 (some 63) true
            (.fin [64, 6] [(6, (.ite (.tmp 59) (.tmp 63) (.con (.bool false))))] [])))))))
  .ret)))))))⟩
theorem E.law02_GraphChains : liftF Try.prog Try.f6 = some L.law02_GraphChains := by kernel_rfl

/-- jacquard/jacquardlaw02.GraphBody -/
abbrev N.law02_GraphBody : Nat := 7
def L.law02_GraphBody.l1 : LC :=
  (.seq
      (.seq
      (.reg false (.fin [44, 45, 46, 47] [(47, (.bin (.cmp .lss) (.tmp 12) (.un .len (.tmp 9))))] []))
      (.cond (.tmp 47) [47]
        .skip
        (.exit 0)))
      (.seq
      (.block 1
        (.seq
        (.reg false (.loud [50, 51, 52, 53, 54, 55] [] [(50, (.tmp 6)), (51, (.tmp 8)), (55, (.un .load (.bin (.idx 1) (.tmp 9) (.tmp 12))))] none [] false (.call ⟨.value (.func 23), #[(.tmp 50), (.tmp 51), (.tmp 55)], #[22, 3, 3]⟩) 4 (some 56) true
          (.fin [13] [(13, (.tmp 56))] [])))
        (.seq
        (.seq
        (.reg false (.fin [57, 58] [(58, (.un .not (.tmp 13)))] []))
        (.cond (.tmp 58) [58]
          (.seq
          (.reg false (.fin [4] [(4, (.con (.bool false)))] []))
          .ret)
          .skip))
        (.reg false (.loud [59, 60, 61, 62, 63] [] [(59, (.tmp 11)), (63, (.un .load (.bin (.idx 1) (.tmp 9) (.tmp 12))))] none [] false (.mapUpdate 39 (.tmp 59) (.tmp 63) (.const (.bool true))) 0 none false
          (.fin [] [] []))))))
      (.reg false (.fin [48, 49, 12] [(12, (.bin (.arith .add) (.tmp 12) (.con (.int .i64 1))))] []))))
def L.law02_GraphBody.l4 : LC :=
  (.seq
                  (.seq
                  (.reg false (.fin [79, 80, 81, 82] [(82, (.bin (.cmp .lss) (.tmp 17) (.un .len (.tmp 6))))] []))
                  (.cond (.tmp 82) [82]
                    .skip
                    (.exit 6)))
                  (.seq
                  (.block 7
                    (.seq
                    (.reg false (.loud [85, 86, 87, 88, 89, 90] [] [(85, (.tmp 6)), (89, (.un .load (.bin (.idx 1) (.tmp 9) (.tmp 16)))), (90, (.tmp 17))] none [] false (.call ⟨.value (.func 19), #[(.tmp 85), (.tmp 89), (.tmp 90)], #[22, 3, 3]⟩) 4 (some 91) true
                      (.fin [18] [(18, (.tmp 91))] [])))
                    (.reg true (.loud [92, 93, 94, 95, 96, 97, 98, 99, 100, 101] [(92, (.tmp 14)), (96, (.un .load (.bin (.idx 1) (.tmp 9) (.tmp 16))))] [(97, (.tmp 14)), (101, (.un .load (.bin (.idx 1) (.tmp 9) (.tmp 16))))] none [] false (.lookup 39 (.tmp 97) (.tmp 101) false) 4 (some 102) true
                      (.loud [103, 104, 105, 106, 107] [(103, (.tmp 102)), (105, (.gd (.tmp 102) false (.tmp 18)))] [(106, (.gd (.gd (.tmp 102) false (.tmp 18)) true (.tmp 11))), (107, (.gd (.gd (.tmp 102) false (.tmp 18)) true (.tmp 17)))] (some ((.gd (.tmp 102) false (.tmp 18)), true)) [] false (.lookup 39 (.tmp 106) (.tmp 107) false) 4 (some 108) true
                        (.loud [109, 110, 111, 112] [(110, (.gd (.tmp 103) false (.ite (.tmp 105) (.tmp 108) (.con (.bool false)))))] [(111, (.gd (.gd (.tmp 103) false (.ite (.tmp 105) (.tmp 108) (.con (.bool false)))) true (.tmp 14))), (112, (.gd (.gd (.tmp 103) false (.ite (.tmp 105) (.tmp 108) (.con (.bool false)))) true (.tmp 17)))] (some ((.gd (.tmp 103) false (.ite (.tmp 105) (.tmp 108) (.con (.bool false)))), true)) [] false (.lookup 39 (.tmp 111) (.tmp 112) false) 4 (some 113) true
                          (.loud [114, 115] [] [(92, (.tmp 92)), (96, (.tmp 96)), (115, (.ite (.tmp 103) (.con (.bool true)) (.ite (.tmp 110) (.tmp 113) (.con (.bool false)))))] none [] true (.mapUpdate 39 (.tmp 92) (.tmp 96) (.tmp 115)) 0 none false
                            (.fin [] [] []))))))))
                  (.reg false (.fin [83, 84, 17] [(17, (.bin (.arith .add) (.tmp 17) (.con (.int .i64 1))))] []))))
def L.law02_GraphBody.l3 : LC :=
  (.seq
            (.seq
            (.reg false (.fin [73, 74, 75, 76] [(76, (.bin (.cmp .lss) (.tmp 16) (.un .len (.tmp 9))))] []))
            (.cond (.tmp 76) [76]
              .skip
              (.exit 4)))
            (.seq
            (.block 5
              (.seq
              (.reg false (.fin [17] [(17, (.con (.int .i64 0)))] []))
              (.block 6
                (.loop L.law02_GraphBody.l4))))
            (.reg false (.fin [77, 78, 16] [(16, (.bin (.arith .add) (.tmp 16) (.con (.int .i64 1))))] []))))
def L.law02_GraphBody.l2 : LC :=
  (.seq
      (.seq
      (.reg false (.fin [67, 68, 69, 70] [(70, (.bin (.cmp .lss) (.tmp 15) (.un .len (.tmp 9))))] []))
      (.cond (.tmp 70) [70]
        .skip
        (.exit 2)))
      (.seq
      (.block 3
        (.seq
        (.reg false (.fin [16] [(16, (.con (.int .i64 0)))] []))
        (.block 4
          (.loop L.law02_GraphBody.l3))))
      (.reg false (.fin [71, 72, 15] [(15, (.bin (.arith .add) (.tmp 15) (.con (.int .i64 1))))] []))))
def L.law02_GraphBody.l6 : LC :=
  (.seq
            (.seq
            (.reg false (.fin [122, 123, 124, 125] [(125, (.bin (.cmp .lss) (.tmp 20) (.un .len (.tmp 9))))] []))
            (.cond (.tmp 125) [125]
              .skip
              (.exit 10)))
            (.seq
            (.block 11
              (.seq
              (.reg false (.loud [128, 129, 130, 131, 132, 133] [] [(128, (.tmp 6)), (129, (.tmp 19)), (133, (.un .load (.bin (.idx 1) (.tmp 9) (.tmp 20))))] none [] false (.call ⟨.value (.func 19), #[(.tmp 128), (.tmp 129), (.tmp 133)], #[22, 3, 3]⟩) 4 (some 134) true
                (.fin [21] [(21, (.tmp 134))] [])))
              (.seq
              (.reg false (.loud [135, 136, 137, 138, 139, 140, 141, 142, 143, 144] [(142, (.ite (.tmp 21) (.un .load (.bin (.idx 1) (.tmp 10) (.tmp 19))) (.con (.bool false))))] [(143, (.gd (.ite (.tmp 21) (.un .load (.bin (.idx 1) (.tmp 10) (.tmp 19))) (.con (.bool false))) true (.tmp 11))), (144, (.gd (.ite (.tmp 21) (.un .load (.bin (.idx 1) (.tmp 10) (.tmp 19))) (.con (.bool false))) true (.tmp 19)))] (some ((.ite (.tmp 21) (.un .load (.bin (.idx 1) (.tmp 10) (.tmp 19))) (.con (.bool false))), true)) [] false (.lookup 39 (.tmp 143) (.tmp 144) false) 4 (some 145) true
                (.loud [146, 147, 148, 149, 150, 151, 152, 153, 154, 155, 156, 157, 158, 159, 160, 161] [(156, (.ite (.ite (.tmp 142) (.un .not (.tmp 145)) (.con (.bool false))) (.bin (.cmp .neq) (.un .load (.bin (.idx 1) (.tmp 9) (.tmp 20))) (.tmp 8)) (.con (.bool false))))] [(157, (.gd (.ite (.ite (.tmp 142) (.un .not (.tmp 145)) (.con (.bool false))) (.bin (.cmp .neq) (.un .load (.bin (.idx 1) (.tmp 9) (.tmp 20))) (.tmp 8)) (.con (.bool false))) false (.tmp 14))), (161, (.gd (.ite (.ite (.tmp 142) (.un .not (.tmp 145)) (.con (.bool false))) (.bin (.cmp .neq) (.un .load (.bin (.idx 1) (.tmp 9) (.tmp 20))) (.tmp 8)) (.con (.bool false))) false (.un .load (.bin (.idx 1) (.tmp 9) (.tmp 20)))))] (some ((.ite (.ite (.tmp 142) (.un .not (.tmp 145)) (.con (.bool false))) (.bin (.cmp .neq) (.un .load (.bin (.idx 1) (.tmp 9) (.tmp 20))) (.tmp 8)) (.con (.bool false))), false)) [] false (.lookup 39 (.tmp 157) (.tmp 161) false) 4 (some 162) true
                  (.fin [163, 164] [(164, (.ite (.tmp 156) (.con (.bool true)) (.un .not (.tmp 162))))] []))))
              (.cond (.tmp 164) [164]
                (.seq
                (.reg false (.fin [4] [(4, (.con (.bool false)))] []))
                .ret)
                .skip))))
            (.reg false (.fin [126, 127, 20] [(20, (.bin (.arith .add) (.tmp 20) (.con (.int .i64 1))))] []))))
def L.law02_GraphBody.l5 : LC :=
  (.seq
      (.seq
      (.reg false (.fin [116, 117, 118, 119] [(119, (.bin (.cmp .lss) (.tmp 19) (.un .len (.tmp 6))))] []))
      (.cond (.tmp 119) [119]
        .skip
        (.exit 8)))
      (.seq
      (.block 9
        (.seq
        (.reg false (.fin [20] [(20, (.con (.int .i64 0)))] []))
        (.block 10
          (.loop L.law02_GraphBody.l6))))
      (.reg false (.fin [120, 121, 19] [(19, (.bin (.arith .add) (.tmp 19) (.con (.int .i64 1))))] []))))
def L.law02_GraphBody : LFn :=
⟨[(.tmp 4)],
  (.seq
  (.reg false (.fin [4] [(4, (.con (.bool false)))] []))
  (.seq
  (.reg false (.loud [] [] [] none [] false (.call ⟨.value (.func 12), #[], #[]⟩) 4 (some 22) true
    (.fin [5] [(5, (.tmp 22))] [])))
  (.seq
  (.reg false (.loud [23] [] [(23, (.tmp 0))] none [] false (.call ⟨.value (.func 15), #[(.tmp 23)], #[23]⟩) 22 (some 24) true
    (.fin [6] [(6, (.tmp 24))] [])))
  (.seq
  (.reg false (.loud [25] [] [(25, (.tmp 6))] none [] false (.call ⟨.value (.func 25), #[(.tmp 25)], #[22]⟩) 23 (some 26) true
    (.fin [7] [(7, (.tmp 26))] [])))
  (.seq
  (.seq
  (.reg false (.fin [27, 28, 29] [(29, (.bin (.cmp .eql) (.un .len (.tmp 7)) (.con (.int .i64 0))))] []))
  (.cond (.tmp 29) [29]
    (.seq
    (.reg false (.fin [30, 4] [(4, (.tmp 5))] []))
    .ret)
    .skip))
  (.seq
  (.reg false (.loud [31, 32, 33, 34] [(31, (.tmp 7))] [(32, (.tmp 1)), (34, (.un .len (.tmp 7)))] none [] false (.call ⟨.value (.func 21), #[(.tmp 32), (.tmp 34)], #[3, 3]⟩) 3 (some 35) true
    (.fin [36, 37, 8] [(8, (.un .load (.bin (.idx 1) (.tmp 31) (.tmp 35))))] [])))
  (.seq
  (.reg false (.loud [38, 39] [] [(38, (.tmp 6)), (39, (.tmp 8))] none [] false (.call ⟨.value (.func 26), #[(.tmp 38), (.tmp 39)], #[22, 3]⟩) 23 (some 40) true
    (.fin [9] [(9, (.tmp 40))] [])))
  (.seq
  (.reg false (.loud [41] [] [(41, (.tmp 6))] none [] false (.call ⟨.value (.func 18), #[(.tmp 41), (.const (.int .i64 (-1)))], #[22, 3]⟩) 32 (some 42) true
    (.fin [10] [(10, (.tmp 42))] [])))
  (.seq
  (.reg false (.loud [] [] [] none [] false (.makeMap 39 none) 39 (some 43) true
    (.fin [11] [(11, (.tmp 43))] [])))
  (.seq
  (.seq
  (.reg false (.fin [12] [(12, (.con (.int .i64 0)))] []))
  (.block 0
    (.loop L.law02_GraphBody.l1)))
  (.seq
  (.reg false (.loud [] [] [] none [] false (.makeMap 39 none) 39 (some 64) true
    (.loud [65] [] [(64, (.tmp 64)), (65, (.tmp 8))] none [] false (.insert 39 (.tmp 64) (.tmp 65) (.const (.bool true))) 0 none false
      (.fin [66, 14] [(14, (.tmp 64))] []))))
  (.seq
  (.seq
  (.reg false (.fin [15] [(15, (.con (.int .i64 0)))] []))
  (.block 2
    (.loop L.law02_GraphBody.l2)))
  (.seq
  (.seq
  (.reg false (.fin [19] [(19, (.con (.int .i64 0)))] []))
  (.block 8
    (.loop L.law02_GraphBody.l5)))
  (.seq
  (.reg false (.loud [165, 166, 167, 168] [(166, (.tmp 5))] [(167, (.gd (.tmp 5) true (.tmp 11))), (168, (.gd (.tmp 5) true (.tmp 8)))] (some ((.tmp 5), true)) [] false (.lookup 39 (.tmp 167) (.tmp 168) false) 4 (some 169) true
    (.fin [170, 4] [(4, (.ite (.tmp 166) (.tmp 169) (.con (.bool false))))] [])))
  .ret))))))))))))))⟩
theorem E.law02_GraphBody : liftF Try.prog Try.f7 = some L.law02_GraphBody := by kernel_rfl

/-- jacquard/jacquardlaw02.GraphTurns -/
abbrev N.law02_GraphTurns : Nat := 8
def L.law02_GraphTurns.l2 : LC :=
  (.seq
            (.seq
            (.reg false (.fin [35, 36, 37, 38] [(38, (.bin (.cmp .lss) (.tmp 8) (.un .len (.tmp 4))))] []))
            (.cond (.tmp 38) [38]
              .skip
              (.exit 2)))
            (.seq
            (.block 3
              (.seq
              (.reg false (.loud [41, 42, 43] [] [(41, (.tmp 4)), (42, (.tmp 7)), (43, (.tmp 8))] none [] false (.call ⟨.value (.func 19), #[(.tmp 41), (.tmp 42), (.tmp 43)], #[22, 3, 3]⟩) 4 (some 44) true
                (.fin [9] [(9, (.tmp 44))] [])))
              (.seq
              (.reg false (.loud [45, 46, 47] [] [(45, (.tmp 5)), (46, (.tmp 8)), (47, (.tmp 7))] none [] false (.call ⟨.value (.func 19), #[(.tmp 45), (.tmp 46), (.tmp 47)], #[22, 3, 3]⟩) 4 (some 48) true
                (.loud [49, 50, 51, 52, 53, 54] [(51, (.bin (.eqB true) (.tmp 48) (.tmp 9)))] [(52, (.gd (.bin (.eqB true) (.tmp 48) (.tmp 9)) false (.tmp 6))), (53, (.gd (.bin (.eqB true) (.tmp 48) (.tmp 9)) false (.tmp 7))), (54, (.gd (.bin (.eqB true) (.tmp 48) (.tmp 9)) false (.tmp 8)))] (some ((.bin (.eqB true) (.tmp 48) (.tmp 9)), false)) [] false (.call ⟨.value (.func 19), #[(.tmp 52), (.tmp 53), (.tmp 54)], #[22, 3, 3]⟩) 4 (some 55) true
                  (.fin [56, 57, 58] [(58, (.ite (.tmp 51) (.con (.bool true)) (.bin (.eqB true) (.tmp 55) (.tmp 9))))] []))))
              (.cond (.tmp 58) [58]
                (.seq
                (.reg false (.fin [2] [(2, (.con (.bool false)))] []))
                .ret)
                .skip))))
            (.reg false (.fin [39, 40, 8] [(8, (.bin (.arith .add) (.tmp 8) (.con (.int .i64 1))))] []))))
def L.law02_GraphTurns.l1 : LC :=
  (.seq
      (.seq
      (.reg false (.fin [29, 30, 31, 32] [(32, (.bin (.cmp .lss) (.tmp 7) (.un .len (.tmp 4))))] []))
      (.cond (.tmp 32) [32]
        .skip
        (.exit 0)))
      (.seq
      (.block 1
        (.seq
        (.reg false (.fin [8] [(8, (.con (.int .i64 0)))] []))
        (.block 2
          (.loop L.law02_GraphTurns.l2))))
      (.reg false (.fin [33, 34, 7] [(7, (.bin (.arith .add) (.tmp 7) (.con (.int .i64 1))))] []))))
def L.law02_GraphTurns : LFn :=
⟨[(.tmp 2)],
  (.seq
  (.reg false (.fin [2] [(2, (.con (.bool false)))] []))
  (.seq
  (.reg false (.loud [] [] [] none [] false (.call ⟨.value (.func 12), #[], #[]⟩) 4 (some 10) true
    (.fin [3] [(3, (.tmp 10))] [])))
  (.seq
  (.reg false (.loud [11] [] [(11, (.tmp 0))] none [] false (.call ⟨.value (.func 15), #[(.tmp 11)], #[23]⟩) 22 (some 12) true
    (.fin [4] [(4, (.tmp 12))] [])))
  (.seq
  (.reg false (.loud [13] [] [(13, (.tmp 4))] none [] false (.call ⟨.value (.func 27), #[(.tmp 13)], #[22]⟩) 22 (some 14) true
    (.fin [5] [(5, (.tmp 14))] [])))
  (.seq
  (.reg false (.loud [15] [] [(15, (.tmp 5))] none [] false (.call ⟨.value (.func 27), #[(.tmp 15)], #[22]⟩) 22 (some 16) true
    (.fin [6] [(6, (.tmp 16))] [])))
  (.seq
  (.seq
  (.reg false (.fin [17, 18, 19, 20, 21, 22, 23, 24, 25, 26, 27, 28] [(28, (.ite (.bin (.cmp .neq) (.un .len (.tmp 5)) (.un .len (.tmp 4))) (.con (.bool true)) (.bin (.cmp .neq) (.un .len (.tmp 6)) (.un .len (.tmp 4)))))] []))
  (.cond (.tmp 28) [28]
    (.seq
    (.reg false (.fin [2] [(2, (.con (.bool false)))] []))
    .ret)
    .skip))
  (.seq
  (.seq
  (.reg false (.fin [7] [(7, (.con (.int .i64 0)))] []))
  (.block 0
    (.loop L.law02_GraphTurns.l1)))
  (.seq
  (.reg false (.fin [59, 2] [(2, (.tmp 3))] []))
  .ret))))))))⟩
theorem E.law02_GraphTurns : liftF Try.prog Try.f8 = some L.law02_GraphTurns := by kernel_rfl

/-- jacquard/jacquardlaw02.GraphPut -/
abbrev N.law02_GraphPut : Nat := 9
def L.law02_GraphPut.l2 : LC :=
  (.seq
            (.seq
            (.reg false (.fin [56, 57, 58, 59, 60, 61, 62] [(62, (.bin (.cmp .lss) (.tmp 13) (.un .len (.un .load (.bin (.idx 1) (.tmp 6) (.tmp 11))))))] []))
            (.cond (.tmp 62) [62]
              .skip
              (.exit 2)))
            (.seq
            (.block 3
              (.seq
              (.reg false (.fin [65, 66, 67, 68, 69, 70, 71, 72, 73, 74, 75, 76, 77, 78] [(78, (.ite (.bin (.cmp .eql) (.tmp 11) (.tmp 7)) (.bin (.cmp .eql) (.un .load (.bin (.idx 1) (.un .load (.bin (.idx 1) (.tmp 6) (.tmp 11))) (.tmp 13))) (.tmp 8)) (.con (.bool false))))] []))
              (.cond (.tmp 78) [78]
                (.reg false (.loud [79, 80] [(79, (.tmp 12))] [(80, (.tmp 9))] none [] false (.buildSlice 23 1 #[(0, (.tmp 80))]) 23 (some 81) true
                  (.loud [] [] [(79, (.tmp 79)), (81, (.tmp 81))] none [] false (.call ⟨.builtin .append, #[(.tmp 79), (.tmp 81)], #[23, 23]⟩) 23 (some 82) true
                    (.fin [12] [(12, (.tmp 82))] []))))
                (.reg false (.loud [83, 84, 85, 86, 87, 88, 89, 90] [(83, (.tmp 12))] [(90, (.un .load (.bin (.idx 1) (.un .load (.bin (.idx 1) (.tmp 6) (.tmp 11))) (.tmp 13))))] none [] false (.buildSlice 23 1 #[(0, (.tmp 90))]) 23 (some 91) true
                  (.loud [] [] [(83, (.tmp 83)), (91, (.tmp 91))] none [] false (.call ⟨.builtin .append, #[(.tmp 83), (.tmp 91)], #[23, 23]⟩) 23 (some 92) true
                    (.fin [12] [(12, (.tmp 92))] [])))))))
            (.reg false (.fin [63, 64, 13] [(13, (.bin (.arith .add) (.tmp 13) (.con (.int .i64 1))))] []))))
def L.law02_GraphPut.l1 : LC :=
  (.seq
      (.seq
      (.reg false (.fin [51, 52, 53] [(53, (.bin (.cmp .lss) (.tmp 11) (.tmp 9)))] []))
      (.cond (.tmp 53) [53]
        .skip
        (.exit 0)))
      (.seq
      (.block 1
        (.seq
        (.reg false (.fin [12] [(12, (.con (.slice none 0 0)))] []))
        (.seq
        (.seq
        (.reg false (.fin [13] [(13, (.con (.int .i64 0)))] []))
        (.block 2
          (.loop L.law02_GraphPut.l2)))
        (.reg false (.loud [93, 94] [(93, (.tmp 10))] [(94, (.tmp 12))] none [] false (.buildSlice 22 1 #[(0, (.tmp 94))]) 22 (some 95) true
          (.loud [] [] [(93, (.tmp 93)), (95, (.tmp 95))] none [] false (.call ⟨.builtin .append, #[(.tmp 93), (.tmp 95)], #[22, 22]⟩) 22 (some 96) true
            (.fin [10] [(10, (.tmp 96))] [])))))))
      (.reg false (.fin [54, 55, 11] [(11, (.bin (.arith .add) (.tmp 11) (.con (.int .i64 1))))] []))))
def L.law02_GraphPut.l4 : LC :=
  (.seq
            (.seq
            (.reg false (.fin [122, 123, 124] [(124, (.bin (.cmp .lss) (.tmp 17) (.tmp 9)))] []))
            (.cond (.tmp 124) [124]
              .skip
              (.exit 6)))
            (.seq
            (.block 7
              (.seq
              (.reg false (.loud [127, 128, 129] [] [(127, (.tmp 14)), (128, (.tmp 16)), (129, (.tmp 17))] none [] false (.call ⟨.value (.func 22), #[(.tmp 127), (.tmp 128), (.tmp 129)], #[23, 3, 3]⟩) 4 (some 130) true
                (.loud [131, 132, 133] [] [(131, (.tmp 15)), (132, (.tmp 16)), (133, (.tmp 17))] none [] false (.call ⟨.value (.func 22), #[(.tmp 131), (.tmp 132), (.tmp 133)], #[23, 3, 3]⟩) 4 (some 134) true
                  (.fin [135] [(135, (.bin (.eqB true) (.tmp 130) (.tmp 134)))] []))))
              (.cond (.tmp 135) [135]
                (.seq
                (.reg false (.fin [4] [(4, (.con (.bool false)))] []))
                .ret)
                .skip)))
            (.reg false (.fin [125, 126, 17] [(17, (.bin (.arith .add) (.tmp 17) (.con (.int .i64 1))))] []))))
def L.law02_GraphPut.l3 : LC :=
  (.seq
      (.seq
      (.reg false (.fin [117, 118, 119] [(119, (.bin (.cmp .lss) (.tmp 16) (.tmp 9)))] []))
      (.cond (.tmp 119) [119]
        .skip
        (.exit 4)))
      (.seq
      (.block 5
        (.seq
        (.reg false (.fin [17] [(17, (.con (.int .i64 0)))] []))
        (.block 6
          (.loop L.law02_GraphPut.l4))))
      (.reg false (.fin [120, 121, 16] [(16, (.bin (.arith .add) (.tmp 16) (.con (.int .i64 1))))] []))))
def L.law02_GraphPut.l5 : LC :=
  (.seq
      (.seq
      (.reg false (.fin [138, 139, 140, 141] [(141, (.bin (.cmp .lss) (.tmp 19) (.un .len (.tmp 18))))] []))
      (.cond (.tmp 141) [141]
        .skip
        (.exit 8)))
      (.seq
      (.block 9
        (.seq
        (.reg false (.fin [144, 145, 146, 147, 148, 149, 150, 151, 152, 153, 154, 155, 156, 157, 158, 159] [(159, (.ite (.bin (.cmp .eql) (.un .load (.bin (.aidx 2 1) (.bin (.idx 2) (.tmp 18) (.tmp 19)) (.con (.int .i64 0)))) (.tmp 9)) (.con (.bool true)) (.bin (.cmp .eql) (.un .load (.bin (.aidx 2 1) (.bin (.idx 2) (.tmp 18) (.tmp 19)) (.con (.int .i64 1)))) (.tmp 9))))] []))
        (.cond (.tmp 159) [159]
          (.seq
          (.reg false (.fin [4] [(4, (.con (.bool false)))] []))
          .ret)
          .skip)))
      (.reg false (.fin [142, 143, 19] [(19, (.bin (.arith .add) (.tmp 19) (.con (.int .i64 1))))] []))))
def L.law02_GraphPut : LFn :=
⟨[(.tmp 4)],
  (.seq
  (.reg false (.loud [] [] [(1, (.tmp 1))] none [] false (.box 41 (.tmp 1)) 0 (some 3) true
    (.fin [4] [(4, (.con (.bool false)))] [])))
  (.seq
  (.reg false (.loud [] [] [] none [] false (.call ⟨.value (.func 12), #[], #[]⟩) 4 (some 20) true
    (.fin [5] [(5, (.tmp 20))] [])))
  (.seq
  (.reg false (.loud [21] [] [(21, (.tmp 0))] none [] false (.call ⟨.value (.func 15), #[(.tmp 21)], #[23]⟩) 22 (some 22) true
    (.fin [6] [(6, (.tmp 22))] [])))
  (.seq
  (.reg false (.loud [23, 24, 25, 26] [] [(24, (.un .load (.bin (.aidx 2 1) (.tmp 3) (.con (.int .i64 0))))), (26, (.un .len (.tmp 6)))] none [] false (.call ⟨.value (.func 21), #[(.tmp 24), (.tmp 26)], #[3, 3]⟩) 3 (some 27) true
    (.fin [7] [(7, (.tmp 27))] [])))
  (.seq
  (.seq
  (.reg false (.fin [28, 29, 30, 31, 32, 33] [(33, (.bin (.cmp .eql) (.un .len (.un .load (.bin (.idx 1) (.tmp 6) (.tmp 7)))) (.con (.int .i64 0))))] []))
  (.cond (.tmp 33) [33]
    (.seq
    (.reg false (.fin [34, 4] [(4, (.tmp 5))] []))
    .ret)
    .skip))
  (.seq
  (.reg true (.loud [35, 36, 37, 38, 39, 40, 41, 42, 43, 44, 45] [(38, (.un .load (.bin (.idx 1) (.tmp 6) (.tmp 7))))] [(40, (.un .load (.bin (.aidx 2 1) (.tmp 3) (.con (.int .i64 1))))), (45, (.un .len (.un .load (.bin (.idx 1) (.tmp 6) (.tmp 7)))))] none [] false (.call ⟨.value (.func 21), #[(.tmp 40), (.tmp 45)], #[3, 3]⟩) 3 (some 46) true
    (.fin [47, 48, 8] [(8, (.un .load (.bin (.idx 1) (.tmp 38) (.tmp 46))))] [])))
  (.seq
  (.reg false (.fin [49, 50, 9] [(9, (.un .len (.tmp 6)))] []))
  (.seq
  (.reg false (.fin [10] [(10, (.con (.slice none 0 0)))] []))
  (.seq
  (.seq
  (.reg false (.fin [11] [(11, (.con (.int .i64 0)))] []))
  (.block 0
    (.loop L.law02_GraphPut.l1)))
  (.seq
  (.reg false (.loud [97, 98] [(97, (.tmp 10))] [(98, (.tmp 8))] none [] false (.buildSlice 23 1 #[(0, (.tmp 98))]) 23 (some 99) true
    (.loud [] [] [(99, (.tmp 99))] none [] false (.buildSlice 22 1 #[(0, (.tmp 99))]) 22 (some 100) true
      (.loud [] [] [(97, (.tmp 97)), (100, (.tmp 100))] none [] false (.call ⟨.builtin .append, #[(.tmp 97), (.tmp 100)], #[22, 22]⟩) 22 (some 101) true
        (.fin [10] [(10, (.tmp 101))] [])))))
  (.seq
  (.reg false (.loud [102] [] [(102, (.tmp 6))] none [] false (.call ⟨.value (.func 20), #[(.tmp 102)], #[22]⟩) 23 (some 103) true
    (.fin [14] [(14, (.tmp 103))] [])))
  (.seq
  (.reg false (.loud [104] [] [(104, (.tmp 10))] none [] false (.call ⟨.value (.func 20), #[(.tmp 104)], #[22]⟩) 23 (some 105) true
    (.fin [15] [(15, (.tmp 105))] [])))
  (.seq
  (.seq
  (.reg false (.fin [106, 107, 108, 109, 110, 111, 112, 113, 114, 115, 116] [(116, (.ite (.bin (.cmp .neq) (.un .len (.tmp 15)) (.bin (.arith .add) (.tmp 9) (.con (.int .i64 1)))) (.con (.bool true)) (.bin (.cmp .neq) (.un .len (.tmp 14)) (.tmp 9))))] []))
  (.cond (.tmp 116) [116]
    (.seq
    (.reg false (.fin [4] [(4, (.con (.bool false)))] []))
    .ret)
    .skip))
  (.seq
  (.seq
  (.reg false (.fin [16] [(16, (.con (.int .i64 0)))] []))
  (.block 4
    (.loop L.law02_GraphPut.l3)))
  (.seq
  (.reg false (.loud [136] [] [(136, (.tmp 10))] none [] false (.call ⟨.value (.func 28), #[(.tmp 136)], #[22]⟩) 42 (some 137) true
    (.fin [18] [(18, (.tmp 137))] [])))
  (.seq
  (.seq
  (.reg false (.fin [19] [(19, (.con (.int .i64 0)))] []))
  (.block 8
    (.loop L.law02_GraphPut.l5)))
  (.seq
  (.reg false (.loud [160, 161, 162] [(161, (.tmp 5))] [(162, (.gd (.tmp 5) true (.tmp 6)))] (some ((.tmp 5), true)) [] false (.call ⟨.value (.func 29), #[(.tmp 162)], #[22]⟩) 4 (some 163) true
    (.loud [164] [] [(164, (.gd (.tmp 161) true (.tmp 10)))] (some ((.tmp 161), true)) [] false (.call ⟨.value (.func 29), #[(.tmp 164)], #[22]⟩) 4 (some 165) true
      (.fin [166, 167, 4] [(4, (.ite (.tmp 161) (.bin (.eqB false) (.tmp 163) (.tmp 165)) (.con (.bool false))))] []))))
  .ret)))))))))))))))))⟩
theorem E.law02_GraphPut : liftF Try.prog Try.f9 = some L.law02_GraphPut := by kernel_rfl

/-- jacquard/jacquardlaw02.GraphTree -/
abbrev N.law02_GraphTree : Nat := 10
def L.law02_GraphTree.l1 : LC :=
  (.seq
      (.seq
      (.reg false (.fin [17, 18, 19] [(19, (.bin (.cmp .lss) (.tmp 8) (.tmp 6)))] []))
      (.cond (.tmp 19) [19]
        .skip
        (.exit 0)))
      (.seq
      (.block 1
        (.seq
        (.reg false (.fin [9] [(9, (.con (.slice none 0 0)))] []))
        (.seq
        (.seq
        (.reg false (.fin [22, 23, 24, 25] [(25, (.bin (.cmp .lss) (.bin (.arith .add) (.tmp 8) (.con (.int .i64 1))) (.tmp 6)))] []))
        (.cond (.tmp 25) [25]
          (.reg false (.loud [26, 27, 28] [(26, (.tmp 9))] [(28, (.bin (.arith .add) (.tmp 8) (.con (.int .i64 1))))] none [] false (.buildSlice 23 1 #[(0, (.tmp 28))]) 23 (some 29) true
            (.loud [] [] [(26, (.tmp 26)), (29, (.tmp 29))] none [] false (.call ⟨.builtin .append, #[(.tmp 26), (.tmp 29)], #[23, 23]⟩) 23 (some 30) true
              (.fin [9] [(9, (.tmp 30))] []))))
          .skip))
        (.seq
        (.seq
        (.reg false (.fin [31, 32, 33, 34] [(34, (.bin (.cmp .lss) (.tmp 8) (.un .len (.tmp 1))))] []))
        (.cond (.tmp 34) [34]
          (.seq
          (.reg false (.loud [35, 36, 37, 38, 39, 40, 41] [(36, (.bin (.arith .add) (.tmp 8) (.con (.int .i64 1))))] [(40, (.un .load (.bin (.idx 1) (.tmp 1) (.tmp 8)))), (41, (.tmp 6))] none [] false (.call ⟨.value (.func 21), #[(.tmp 40), (.tmp 41)], #[3, 3]⟩) 3 (some 42) true
            (.fin [43, 10] [(10, (.bin (.arith .add) (.tmp 36) (.tmp 42)))] [])))
          (.seq
          (.reg false (.fin [44, 45, 46] [(46, (.bin (.cmp .lss) (.tmp 10) (.tmp 6)))] []))
          (.cond (.tmp 46) [46]
            (.reg false (.loud [47, 48] [(47, (.tmp 9))] [(48, (.tmp 10))] none [] false (.buildSlice 23 1 #[(0, (.tmp 48))]) 23 (some 49) true
              (.loud [] [] [(47, (.tmp 47)), (49, (.tmp 49))] none [] false (.call ⟨.builtin .append, #[(.tmp 47), (.tmp 49)], #[23, 23]⟩) 23 (some 50) true
                (.fin [9] [(9, (.tmp 50))] []))))
            .skip)))
          .skip))
        (.reg false (.loud [51, 52] [(51, (.tmp 7))] [(52, (.tmp 9))] none [] false (.buildSlice 22 1 #[(0, (.tmp 52))]) 22 (some 53) true
          (.loud [] [] [(51, (.tmp 51)), (53, (.tmp 53))] none [] false (.call ⟨.builtin .append, #[(.tmp 51), (.tmp 53)], #[22, 22]⟩) 22 (some 54) true
            (.fin [7] [(7, (.tmp 54))] []))))))))
      (.reg false (.fin [20, 21, 8] [(8, (.bin (.arith .add) (.tmp 8) (.con (.int .i64 1))))] []))))
def L.law02_GraphTree : LFn :=
⟨[(.tmp 4)],
  (.seq
  (.reg false (.fin [4] [(4, (.con (.bool false)))] []))
  (.seq
  (.reg false (.loud [] [] [] none [] false (.call ⟨.value (.func 12), #[], #[]⟩) 4 (some 13) true
    (.fin [5] [(5, (.tmp 13))] [])))
  (.seq
  (.reg false (.loud [14] [] [(14, (.tmp 0))] none [] false (.call ⟨.value (.func 21), #[(.tmp 14), (.const (.int .i64 10))], #[3, 3]⟩) 3 (some 15) true
    (.fin [16, 6] [(6, (.bin (.arith .add) (.con (.int .i64 1)) (.tmp 15)))] [])))
  (.seq
  (.reg false (.fin [7] [(7, (.con (.slice none 0 0)))] []))
  (.seq
  (.seq
  (.reg false (.fin [8] [(8, (.con (.int .i64 0)))] []))
  (.block 0
    (.loop L.law02_GraphTree.l1)))
  (.seq
  (.reg false (.loud [55] [] [(55, (.tmp 7))] none [] false (.call ⟨.value (.func 29), #[(.tmp 55)], #[22]⟩) 4 (some 56) true
    (.loud [57, 58] [(57, (.tmp 56))] [(58, (.gd (.tmp 56) true (.tmp 7)))] (some ((.tmp 56), true)) [] false (.call ⟨.value (.func 25), #[(.tmp 58)], #[22]⟩) 23 (some 59) true
      (.fin [60, 61, 62, 11] [(11, (.ite (.tmp 57) (.bin (.cmp .eql) (.un .len (.tmp 59)) (.con (.int .i64 0))) (.con (.bool false))))] []))))
  (.seq
  (.reg false (.loud [63, 64, 65, 66, 67, 68, 69, 70] [(63, (.tmp 7)), (65, (.bin (.arith .sub) (.tmp 6) (.con (.int .i64 1)))), (70, (.un .load (.bin (.idx 1) (.tmp 7) (.bin (.arith .sub) (.tmp 6) (.con (.int .i64 1))))))] [] none [] false (.buildSlice 23 1 #[(0, (.const (.int .i64 0)))]) 23 (some 71) true
    (.loud [] [] [(70, (.tmp 70)), (71, (.tmp 71))] none [] false (.call ⟨.builtin .append, #[(.tmp 70), (.tmp 71)], #[23, 23]⟩) 23 (some 72) true
      (.loud [73] [] [(73, (.bin (.idx 1) (.tmp 63) (.tmp 65))), (72, (.tmp 72))] none [] false (.store 23 (.tmp 73) (.tmp 72)) 0 none false
        (.fin [] [] [])))))
  (.seq
  (.reg false (.loud [74] [] [(74, (.tmp 7))] none [] false (.call ⟨.value (.func 25), #[(.tmp 74)], #[22]⟩) 23 (some 75) true
    (.fin [12] [(12, (.tmp 75))] [])))
  (.seq
  (.reg false (.loud [76, 77, 78, 79, 80, 81, 82, 83, 84, 85, 86, 87, 88, 89, 90, 91, 92] [(91, (.ite (.ite (.ite (.tmp 5) (.tmp 11) (.con (.bool false))) (.bin (.cmp .eql) (.un .len (.tmp 12)) (.con (.int .i64 1))) (.con (.bool false))) (.bin (.cmp .eql) (.un .load (.bin (.idx 1) (.tmp 12) (.con (.int .i64 0)))) (.con (.int .i64 0))) (.con (.bool false))))] [(92, (.gd (.ite (.ite (.ite (.tmp 5) (.tmp 11) (.con (.bool false))) (.bin (.cmp .eql) (.un .len (.tmp 12)) (.con (.int .i64 1))) (.con (.bool false))) (.bin (.cmp .eql) (.un .load (.bin (.idx 1) (.tmp 12) (.con (.int .i64 0)))) (.con (.int .i64 0))) (.con (.bool false))) true (.tmp 7)))] (some ((.ite (.ite (.ite (.tmp 5) (.tmp 11) (.con (.bool false))) (.bin (.cmp .eql) (.un .len (.tmp 12)) (.con (.int .i64 1))) (.con (.bool false))) (.bin (.cmp .eql) (.un .load (.bin (.idx 1) (.tmp 12) (.con (.int .i64 0)))) (.con (.int .i64 0))) (.con (.bool false))), true)) [] false (.call ⟨.value (.func 26), #[(.tmp 92), (.const (.int .i64 0))], #[22, 3]⟩) 23 (some 93) true
    (.loud [94, 95, 96, 97, 98, 99] [(98, (.ite (.tmp 91) (.bin (.cmp .eql) (.un .len (.tmp 93)) (.tmp 6)) (.con (.bool false))))] [(99, (.gd (.ite (.tmp 91) (.bin (.cmp .eql) (.un .len (.tmp 93)) (.tmp 6)) (.con (.bool false))) true (.tmp 7)))] (some ((.ite (.tmp 91) (.bin (.cmp .eql) (.un .len (.tmp 93)) (.tmp 6)) (.con (.bool false))), true)) [] false (.call ⟨.value (.func 29), #[(.tmp 99)], #[22]⟩) 4 (some 100) true
      (.fin [101, 4] [(4, (.ite (.tmp 98) (.tmp 100) (.con (.bool false))))] []))))
  .ret)))))))))⟩
theorem E.law02_GraphTree : liftF Try.prog Try.f10 = some L.law02_GraphTree := by kernel_rfl

/-- jacquard/jacquardlaw02.GraphOf -/
abbrev N.law02_GraphOf : Nat := 11
def L.law02_GraphOf.l1 : LC :=
  (.seq
      (.seq
      (.reg false (.fin [7, 8, 9, 10, 11, 12, 13, 14] [(14, (.ite (.bin (.cmp .lss) (.tmp 5) (.un .len (.tmp 0))) (.bin (.cmp .lss) (.tmp 5) (.con (.int .i64 12))) (.con (.bool false))))] []))
      (.cond (.tmp 14) [14]
        .skip
        (.exit 0)))
      (.seq
      (.block 1
        (.reg true (.loud [17, 18, 19, 20, 21, 22, 23, 24, 25, 26, 27, 28, 29] [(18, (.un .load (.un (.fld 1) (.tmp 4))))] [(29, (.bin .hi (.un .load (.bin (.idx 1) (.tmp 0) (.tmp 5))) (.bin .min (.un .len (.un .load (.bin (.idx 1) (.tmp 0) (.tmp 5)))) (.con (.int .i64 5)))))] none [] false (.build 50 #[(0, (.const (.int .i64 3))), (2, (.tmp 29))]) 50 (some 30) true
          (.loud [] [] [(30, (.tmp 30))] none [] false (.build 54 #[(2, (.tmp 30))]) 54 (some 31) true
            (.loud [] [] [(31, (.tmp 31))] none [] false (.buildSlice 46 1 #[(0, (.tmp 31))]) 46 (some 32) true
              (.loud [] [] [(18, (.tmp 18)), (32, (.tmp 32))] none [] true (.call ⟨.builtin .append, #[(.tmp 18), (.tmp 32)], #[46, 46]⟩) 46 (some 33) true
                (.loud [34] [] [(34, (.un (.fld 1) (.tmp 4))), (33, (.tmp 33))] none [] false (.store 46 (.tmp 34) (.tmp 33)) 0 none false
                  (.fin [] [] []))))))))
      (.reg false (.fin [15, 16, 5] [(5, (.bin (.arith .add) (.tmp 5) (.con (.int .i64 1))))] []))))
def L.law02_GraphOf : LFn :=
⟨[(.tmp 2)],
  (.seq
  (.reg false (.fin [2] [(2, (.con (.bool false)))] []))
  (.seq
  (.reg false (.loud [] [] [] none [] false (.call ⟨.value (.func 12), #[], #[]⟩) 4 (some 6) true
    (.fin [3] [(3, (.tmp 6))] [])))
  (.seq
  (.reg false (.loud [] [] [] none [] false (.alloc 48) 0 (some 4) true
    (.fin [] [] [])))
  (.seq
  (.seq
  (.reg false (.fin [5] [(5, (.con (.int .i64 0)))] []))
  (.block 0
    (.loop L.law02_GraphOf.l1)))
  (.seq
  (.reg true (.loud [35, 36, 37, 39] [(36, (.tmp 3)), (39, (.gd (.tmp 3) true (.un (.loads 2) (.tmp 4))))] [(37, (.gd (.tmp 3) true (.un (.loads 2) (.tmp 4))))] (some ((.tmp 3), true)) [] false (.call ⟨.value (.func 31), #[(.tmp 37)], #[48]⟩) 22 (some 38) true
    (.loud [] [] [(39, (.tmp 39))] (some ((.tmp 36), true)) [] false (.call ⟨.value (.func 32), #[(.tmp 39)], #[48]⟩) 22 (some 40) true
      (.loud [] [] [(38, (.tmp 38)), (40, (.tmp 40))] (some ((.tmp 36), true)) [] false (.call ⟨.value (.func 30), #[(.tmp 38), (.tmp 40)], #[22, 22]⟩) 4 (some 41) true
        (.fin [42, 2] [(2, (.ite (.tmp 36) (.tmp 41) (.con (.bool false))))] [])))))
  .ret)))))⟩
theorem E.law02_GraphOf : liftF Try.prog Try.f11 = some L.law02_GraphOf := by kernel_rfl

/-- jacquard/jacquardlaw02.awake -/
abbrev N.law02_awake : Nat := 12
def L.law02_awake : LFn :=
⟨[(.tmp 0)],
  (.seq
  (.reg false (.fin [0] [(0, (.con (.bool false)))] []))
  (.seq
  (.reg false (.loud [] [] [] none [] false (.buildSlice 23 2 #[(0, (.const (.int .i64 1))), (1, (.const (.int .i64 2)))]) 23 (some 7) true
    (.loud [] [] [] none [] false (.buildSlice 23 1 #[(0, (.const (.int .i64 3)))]) 23 (some 8) true
      (.loud [] [] [] none [] false (.buildSlice 23 1 #[(0, (.const (.int .i64 3)))]) 23 (some 9) true
        (.loud [] [] [] none [] false (.buildSlice 23 1 #[(0, (.const (.int .i64 1)))]) 23 (some 10) true
          (.loud [] [] [(7, (.tmp 7)), (8, (.tmp 8)), (9, (.tmp 9)), (10, (.tmp 10))] none [] false (.buildSlice 22 4 #[(0, (.tmp 7)), (1, (.tmp 8)), (2, (.tmp 9)), (3, (.tmp 10))]) 22 (some 11) true
            (.fin [1] [(1, (.tmp 11))] [])))))))
  (.seq
  (.reg false (.loud [] [] [] none [] false (.buildSlice 23 1 #[(0, (.const (.int .i64 1)))]) 23 (some 12) true
    (.loud [] [] [] none [] false (.buildSlice 23 2 #[(0, (.const (.int .i64 2))), (1, (.const (.int .i64 3)))]) 23 (some 13) true
      (.loud [] [] [] none [] false (.buildSlice 23 1 #[(0, (.const (.int .i64 1)))]) 23 (some 14) true
        (.loud [] [] [] none [] false (.buildSlice 23 0 #[]) 23 (some 15) true
          (.loud [] [] [(12, (.tmp 12)), (13, (.tmp 13)), (14, (.tmp 14)), (15, (.tmp 15))] none [] false (.buildSlice 22 4 #[(0, (.tmp 12)), (1, (.tmp 13)), (2, (.tmp 14)), (3, (.tmp 15))]) 22 (some 16) true
            (.fin [2] [(2, (.tmp 16))] [])))))))
  (.seq
  (.reg false (.loud [17] [] [(17, (.tmp 1))] none [] false (.call ⟨.value (.func 16), #[(.tmp 17)], #[22]⟩) 23 (some 18) true
    (.loud [] [] [] none [] false (.buildSlice 23 4 #[(0, (.const (.int .i64 0))), (1, (.const (.int .i64 2))), (2, (.const (.int .i64 1))), (3, (.const (.int .i64 3)))]) 23 (some 19) true
      (.loud [] [] [(18, (.tmp 18)), (19, (.tmp 19))] none [] false (.call ⟨.value (.func 33), #[(.tmp 18), (.tmp 19)], #[23, 23]⟩) 4 (some 20) true
        (.fin [3] [(3, (.tmp 20))] [])))))
  (.seq
  (.reg false (.loud [21] [] [(21, (.tmp 1))] none [] false (.call ⟨.value (.func 20), #[(.tmp 21)], #[22]⟩) 23 (some 22) true
    (.loud [] [] [] none [] false (.buildSlice 23 4 #[(0, (.const (.int .i64 (-1)))), (1, (.const (.int .i64 0))), (2, (.const (.int .i64 0))), (3, (.const (.int .i64 0)))]) 23 (some 23) true
      (.loud [] [] [(22, (.tmp 22)), (23, (.tmp 23))] none [] false (.call ⟨.value (.func 33), #[(.tmp 22), (.tmp 23)], #[23, 23]⟩) 4 (some 24) true
        (.fin [4] [(4, (.tmp 24))] [])))))
  (.seq
  (.reg false (.loud [25] [] [(25, (.tmp 2))] none [] false (.call ⟨.value (.func 26), #[(.tmp 25), (.const (.int .i64 1))], #[22, 3]⟩) 23 (some 26) true
    (.loud [] [] [] none [] false (.buildSlice 23 2 #[(0, (.const (.int .i64 1))), (1, (.const (.int .i64 2)))]) 23 (some 27) true
      (.loud [] [] [(26, (.tmp 26)), (27, (.tmp 27))] none [] false (.call ⟨.value (.func 33), #[(.tmp 26), (.tmp 27)], #[23, 23]⟩) 4 (some 28) true
        (.fin [5] [(5, (.tmp 28))] [])))))
  (.seq
  (.reg false (.loud [] [] [] none [] false (.buildSlice 23 2 #[(0, (.const (.int .i64 1))), (1, (.const (.int .i64 2)))]) 23 (some 29) true
    (.loud [] [] [] none [] false (.buildSlice 23 1 #[(0, (.const (.int .i64 2)))]) 23 (some 30) true
      (.loud [] [] [] none [] false (.buildSlice 23 0 #[]) 23 (some 31) true
        (.loud [] [] [(29, (.tmp 29)), (30, (.tmp 30)), (31, (.tmp 31))] none [] false (.buildSlice 22 3 #[(0, (.tmp 29)), (1, (.tmp 30)), (2, (.tmp 31))]) 22 (some 32) true
          (.loud [] [] [(32, (.tmp 32))] none [] false (.call ⟨.value (.func 28), #[(.tmp 32)], #[22]⟩) 42 (some 33) true
            (.loud [] [] [] none [] false (.build 41 #[(0, (.const (.int .i64 0))), (1, (.const (.int .i64 2)))]) 41 (some 34) true
              (.loud [] [] [(34, (.tmp 34))] none [] false (.buildSlice 42 1 #[(0, (.tmp 34))]) 42 (some 35) true
                (.loud [] [] [(33, (.tmp 33)), (35, (.tmp 35))] none [] false (.call ⟨.value (.func 34), #[(.tmp 33), (.tmp 35)], #[42, 42]⟩) 4 (some 36) true
                  (.fin [6] [(6, (.tmp 36))] []))))))))))
  (.seq
  (.reg false (.loud [37, 38, 39, 40, 41, 42, 43, 44, 45, 46, 47, 48] [(47, (.ite (.ite (.ite (.tmp 3) (.tmp 4) (.con (.bool false))) (.tmp 5) (.con (.bool false))) (.tmp 6) (.con (.bool false))))] [(48, (.gd (.ite (.ite (.ite (.tmp 3) (.tmp 4) (.con (.bool false))) (.tmp 5) (.con (.bool false))) (.tmp 6) (.con (.bool false))) true (.tmp 1)))] (some ((.ite (.ite (.ite (.tmp 3) (.tmp 4) (.con (.bool false))) (.tmp 5) (.con (.bool false))) (.tmp 6) (.con (.bool false))), true)) [] false (.call ⟨.value (.func 29), #[(.tmp 48)], #[22]⟩) 4 (some 49) true
    (.loud [50, 51, 52, 53] [(52, (.ite (.tmp 47) (.un .not (.tmp 49)) (.con (.bool false))))] [(53, (.gd (.ite (.tmp 47) (.un .not (.tmp 49)) (.con (.bool false))) true (.tmp 2)))] (some ((.ite (.tmp 47) (.un .not (.tmp 49)) (.con (.bool false))), true)) [] false (.call ⟨.value (.func 29), #[(.tmp 53)], #[22]⟩) 4 (some 54) true
      (.loud [55, 56, 57] [(56, (.ite (.tmp 52) (.tmp 54) (.con (.bool false))))] [(57, (.gd (.ite (.tmp 52) (.tmp 54) (.con (.bool false))) true (.tmp 1)))] (some ((.ite (.tmp 52) (.tmp 54) (.con (.bool false))), true)) [] false (.call ⟨.value (.func 25), #[(.tmp 57)], #[22]⟩) 23 (some 58) true
        (.fin [59, 60, 61, 0] [(0, (.ite (.tmp 56) (.bin (.cmp .eql) (.un .len (.tmp 58)) (.con (.int .i64 0))) (.con (.bool false))))] [])))))
  .ret))))))))⟩
theorem E.law02_awake : liftF Try.prog Try.f12 = some L.law02_awake := by kernel_rfl

/-- jacquard/jacquardlaw02.tells -/
abbrev N.law02_tells : Nat := 13
def L.law02_tells.l1 : LC :=
  (.seq
      (.seq
      (.reg false (.fin [60, 61, 62, 63] [(63, (.bin (.cmp .leq) (.tmp 8) (.un .len (.tmp 0))))] []))
      (.cond (.tmp 63) [63]
        .skip
        (.exit 0)))
      (.seq
      (.block 1
        (.seq
        (.reg false (.loud [66, 67] [] [(66, (.tmp 0)), (67, (.tmp 8))] none [] false (.call ⟨.value (.func 26), #[(.tmp 66), (.tmp 67)], #[22, 3]⟩) 23 (some 68) true
          (.loud [69, 70] [] [(69, (.tmp 0)), (70, (.tmp 8))] none [] false (.call ⟨.value (.func 41), #[(.tmp 69), (.tmp 70)], #[22, 3]⟩) 23 (some 71) true
            (.loud [] [] [(68, (.tmp 68)), (71, (.tmp 71))] none [] false (.call ⟨.value (.func 33), #[(.tmp 68), (.tmp 71)], #[23, 23]⟩) 4 (some 72) true
              (.fin [9] [(9, (.tmp 72))] [])))))
        (.seq
        (.reg false (.fin [73, 74] [(74, (.un .not (.tmp 9)))] []))
        (.cond (.tmp 74) [74]
          (.seq
          (.reg false (.fin [2] [(2, (.con (.bool false)))] []))
          .ret)
          .skip))))
      (.reg false (.fin [64, 65, 8] [(8, (.bin (.arith .add) (.tmp 8) (.con (.int .i64 1))))] []))))
def L.law02_tells : LFn :=
⟨[(.tmp 2)],
  (.seq
  (.reg false (.fin [2] [(2, (.con (.bool false)))] []))
  (.seq
  (.reg false (.loud [10] [] [(10, (.tmp 0))] none [] false (.call ⟨.value (.func 27), #[(.tmp 10)], #[22]⟩) 22 (some 11) true
    (.loud [12] [] [(12, (.tmp 0))] none [] false (.call ⟨.value (.func 35), #[(.tmp 12)], #[22]⟩) 22 (some 13) true
      (.loud [] [] [(11, (.tmp 11)), (13, (.tmp 13))] none [] false (.call ⟨.value (.func 30), #[(.tmp 11), (.tmp 13)], #[22, 22]⟩) 4 (some 14) true
        (.fin [3] [(3, (.tmp 14))] [])))))
  (.seq
  (.reg false (.loud [15] [] [(15, (.tmp 0))] none [] false (.call ⟨.value (.func 16), #[(.tmp 15)], #[22]⟩) 23 (some 16) true
    (.loud [17] [] [(17, (.tmp 0))] none [] false (.call ⟨.value (.func 36), #[(.tmp 17)], #[22]⟩) 23 (some 18) true
      (.loud [] [] [(16, (.tmp 16)), (18, (.tmp 18))] none [] false (.call ⟨.value (.func 33), #[(.tmp 16), (.tmp 18)], #[23, 23]⟩) 4 (some 19) true
        (.fin [4] [(4, (.tmp 19))] [])))))
  (.seq
  (.reg false (.loud [20] [] [(20, (.tmp 0))] none [] false (.call ⟨.value (.func 20), #[(.tmp 20)], #[22]⟩) 23 (some 21) true
    (.loud [22] [] [(22, (.tmp 0))] none [] false (.call ⟨.value (.func 37), #[(.tmp 22)], #[22]⟩) 23 (some 23) true
      (.loud [] [] [(21, (.tmp 21)), (23, (.tmp 23))] none [] false (.call ⟨.value (.func 33), #[(.tmp 21), (.tmp 23)], #[23, 23]⟩) 4 (some 24) true
        (.fin [5] [(5, (.tmp 24))] [])))))
  (.seq
  (.reg false (.loud [25] [] [(25, (.tmp 0))] none [] false (.call ⟨.value (.func 25), #[(.tmp 25)], #[22]⟩) 23 (some 26) true
    (.loud [27] [] [(27, (.tmp 0))] none [] false (.call ⟨.value (.func 38), #[(.tmp 27)], #[22]⟩) 23 (some 28) true
      (.loud [] [] [(26, (.tmp 26)), (28, (.tmp 28))] none [] false (.call ⟨.value (.func 33), #[(.tmp 26), (.tmp 28)], #[23, 23]⟩) 4 (some 29) true
        (.fin [6] [(6, (.tmp 29))] [])))))
  (.seq
  (.reg false (.loud [30] [] [(30, (.tmp 0))] none [] false (.call ⟨.value (.func 28), #[(.tmp 30)], #[22]⟩) 42 (some 31) true
    (.loud [32] [] [(32, (.tmp 0))] none [] false (.call ⟨.value (.func 39), #[(.tmp 32)], #[22]⟩) 42 (some 33) true
      (.loud [] [] [(31, (.tmp 31)), (33, (.tmp 33))] none [] false (.call ⟨.value (.func 34), #[(.tmp 31), (.tmp 33)], #[42, 42]⟩) 4 (some 34) true
        (.fin [7] [(7, (.tmp 34))] [])))))
  (.seq
  (.seq
  (.reg false (.loud [35, 36, 37, 38, 39, 40, 41, 42, 43, 44, 45, 46, 47, 48, 49, 50, 51, 52, 53, 54] [(53, (.ite (.ite (.ite (.ite (.un .not (.tmp 3)) (.con (.bool true)) (.un .not (.tmp 4))) (.con (.bool true)) (.un .not (.tmp 5))) (.con (.bool true)) (.un .not (.tmp 6))) (.con (.bool true)) (.un .not (.tmp 7))))] [(54, (.gd (.ite (.ite (.ite (.ite (.un .not (.tmp 3)) (.con (.bool true)) (.un .not (.tmp 4))) (.con (.bool true)) (.un .not (.tmp 5))) (.con (.bool true)) (.un .not (.tmp 6))) (.con (.bool true)) (.un .not (.tmp 7))) false (.tmp 0)))] (some ((.ite (.ite (.ite (.ite (.un .not (.tmp 3)) (.con (.bool true)) (.un .not (.tmp 4))) (.con (.bool true)) (.un .not (.tmp 5))) (.con (.bool true)) (.un .not (.tmp 6))) (.con (.bool true)) (.un .not (.tmp 7))), false)) [] false (.call ⟨.value (.func 29), #[(.tmp 54)], #[22]⟩) 4 (some 55) true
    (.loud [56] [] [(56, (.gd (.tmp 53) false (.tmp 0)))] (some ((.tmp 53), false)) [] false (.call ⟨.value (.func 40), #[(.tmp 56)], #[22]⟩) 4 (some 57) true
      (.fin [58, 59] [(59, (.ite (.tmp 53) (.con (.bool true)) (.bin (.eqB true) (.tmp 55) (.tmp 57))))] []))))
  (.cond (.tmp 59) [59]
    (.seq
    (.reg false (.fin [2] [(2, (.con (.bool false)))] []))
    .ret)
    .skip))
  (.seq
  (.seq
  (.reg false (.fin [8] [(8, (.con (.int .i64 (-1))))] []))
  (.block 0
    (.loop L.law02_tells.l1)))
  (.seq
  (.reg false (.fin [2] [(2, (.con (.bool true)))] []))
  .ret)))))))))⟩
theorem E.law02_tells : liftF Try.prog Try.f13 = some L.law02_tells := by kernel_rfl

/-- jacquard/jacquardref02.Few -/
abbrev N.ref02_Few : Nat := 14
def L.ref02_Few.l1 : LC :=
  (.seq
      (.seq
      (.reg false (.fin [5, 6, 7, 8, 9, 10, 11, 12] [(12, (.ite (.bin (.cmp .lss) (.tmp 4) (.un .len (.tmp 0))) (.bin (.cmp .lss) (.tmp 4) (.con (.int .i64 12))) (.con (.bool false))))] []))
      (.cond (.tmp 12) [12]
        .skip
        (.exit 0)))
      (.seq
      (.block 1
        (.reg true (.loud [15, 16, 17, 18, 19, 20, 21, 22, 23, 24, 25, 26] [(15, (.tmp 3))] [(26, (.bin .hi (.un .load (.bin (.idx 1) (.tmp 0) (.tmp 4))) (.bin .min (.un .len (.un .load (.bin (.idx 1) (.tmp 0) (.tmp 4)))) (.con (.int .i64 5)))))] none [] true (.buildSlice 22 1 #[(0, (.tmp 26))]) 22 (some 27) true
          (.loud [] [] [(15, (.tmp 15)), (27, (.tmp 27))] none [] false (.call ⟨.builtin .append, #[(.tmp 15), (.tmp 27)], #[22, 22]⟩) 22 (some 28) true
            (.fin [3] [(3, (.tmp 28))] [])))))
      (.reg false (.fin [13, 14, 4] [(4, (.bin (.arith .add) (.tmp 4) (.con (.int .i64 1))))] []))))
def L.ref02_Few : LFn :=
⟨[(.tmp 2)],
  (.seq
  (.reg false (.fin [2] [(2, (.con (.slice none 0 0)))] []))
  (.seq
  (.reg false (.fin [3] [(3, (.con (.slice none 0 0)))] []))
  (.seq
  (.seq
  (.reg false (.fin [4] [(4, (.con (.int .i64 0)))] []))
  (.block 0
    (.loop L.ref02_Few.l1)))
  (.seq
  (.reg false (.fin [29, 2] [(2, (.tmp 3))] []))
  .ret))))⟩
theorem E.ref02_Few : liftF Try.prog Try.f14 = some L.ref02_Few := by kernel_rfl

end Go.Proofs.Ytaebcebflfgdiaa

