/- A part of the proof: LftE, LftS, LftT, LftB, LftR, LftD. -/
import Derived.WalkKit
import Derived.CallsIn
import Derived.OrdersIn
import Derived.OwnWalkIn
/- A small language of expressions over a frame's slots, read over a heap; and that each operation which it covers runs to just that value. -/
namespace Go.Lft
open Go

abbrev Heap := Array Obj

/-- A part of a heap: what some blocks hold. -/
abbrev View := Nat → Option Obj
/-- All of a heap. -/
def vw (h : Heap) : View := fun b => h[b]?
/-- One part within another. -/
def View.le (H K : View) : Prop := ∀ b o, H b = some o → K b = some o

/-- The cell at an address. -/
def cellH (h : View) (a : Addr) : Option Value :=
  match h a.block with
  | some (.cells c _ _) => if a.spot.isSome then none else c[a.off]?
  | _ => none

theorem cellH_eq (w : World) (a : Addr) : w.cell? a = cellH (vw w.heap) a := rfl

def cellsFromH (h : View) (a : Addr) (i : Nat) : Nat → Array Value → Option (Array Value)
  | 0, acc => some acc
  | n + 1, acc => match cellH h (a.add i) with
    | some v => cellsFromH h a (i + 1) n (acc.push v)
    | none => none

def mapH (h : View) (r : Nat) : Option (Array MapEntry × Nat) :=
  match h r with
  | some (.map es c) => some (es, c)
  | _ => none

inductive Un where
  | not
  | neg (k : IntKind)
  | len
  | lenStr
  | lenMap
  | load
  | loads (n : Nat)
  | fld (off : Nat)
  | part (off : Nat)
  | parts (off n : Nat)
  | conv (k : IntKind)
  | ext (i : Nat)
  | nilPtr
  | fn (f : FuncId)
  | build (zero : Array Value) (places : List (Nat × Nat))
  deriving Inhabited

inductive Bn where
  | arith (op : BinOp)
  | cmp (op : BinOp)
  | div (op : BinOp)
  | bits (op : BinOp)
  | eqB (neg : Bool)
  | eqS (neg : Bool)
  | cat
  | idx (sz : Nat)
  | aidx (n sz : Nat)
  | idxA (n sz : Nat) (agg : Bool)
  | idxS
  | min
  | max
  | lo (sz : Nat)
  | hi
  | loS
  | hiS
  deriving Inhabited

inductive E where
  | tmp (t : Nat)
  | con (v : Value)
  | un (o : Un) (x : E)
  | bin (o : Bn) (x y : E)
  | snoc (x y : E)
  | ite (c x y : E)
  | gd (c : E) (b : Bool) (x : E)
  deriving Inhabited

def vB : Value → Option Bool | .bool b => some b | _ => none
def vI : Value → Option (IntKind × Int) | .int k n => some (k, n) | _ => none
def vS : Value → Option ByteArray | .string s => some s | _ => none
def vP : Value → Option Addr | .pointer (some a) => some a | _ => none
def vL : Value → Option (Option Addr × Nat × Nat) | .slice a n c => some (a, n, c) | _ => none
def vA : Value → Option (Array Value) | .agg cs => some cs | _ => none
def vT : Value → Option (Array Value) | .tuple cs => some cs | _ => none
def vM : Value → Option (Option Nat) | .map r => some r | _ => none

def Un.ev (h : View) (o : Un) (v : Value) : Option Value :=
  match o with
  | .not => (vB v).map fun b => .bool (!b)
  | .neg k => (vI v).bind fun p => if p.1 = k then some (.int k (k.wrap (0 - p.2))) else none
  | .len => (vL v).map fun p => .int .i64 p.2.1
  | .lenStr => (vS v).map fun s => .int .i64 s.size
  | .lenMap => (vM v).bind fun
    | none => some (.int .i64 (0 : Int))
    | some r => (mapH h r).map fun p => .int .i64 p.1.size
  | .load => (vP v).bind fun a => cellH h a
  | .loads n => (vP v).bind fun a => (cellsFromH h a 0 n #[]).map .agg
  | .fld off => (vP v).map fun a => .pointer (some (a.add off))
  | .part off => (vA v).bind fun cs => cs[off]?
  | .parts off n => (vA v).map fun cs => .agg (cs.extract off (off + n))
  | .conv k => (vI v).map fun p => .int k (k.wrap p.2)
  | .ext i => (vT v).bind fun vs => vs[i]?
  | .nilPtr => (vP v).map fun a => .pointer (some a)
  | .fn f => (vT v).map fun vs => .func (.func f) #[] vs
  | .build zero places => (vT v).bind fun vs =>
    (Instr.fill (places[·]?) zero ((List.range vs.size).zip vs.toList)).map .agg

def cmpI : BinOp → Int → Int → Option Bool
  | .eql, x, y => some (x == y)
  | .neq, x, y => some (x != y)
  | .lss, x, y => some (x < y)
  | .leq, x, y => some (x ≤ y)
  | .gtr, x, y => some (x > y)
  | .geq, x, y => some (x ≥ y)
  | _, _, _ => none

def arithI (k : IntKind) : BinOp → Int → Int → Option Int
  | .add, x, y => some (k.wrap (x + y))
  | .sub, x, y => some (k.wrap (x - y))
  | .mul, x, y => some (k.wrap (x * y))
  | _, _, _ => none

def divI (k : IntKind) : BinOp → Int → Int → Option Int
  | .quo, x, y => if y = 0 then none else some (k.wrap (x.tdiv y))
  | .rem, x, y => if y = 0 then none else some (x.tmod y)
  | _, _, _ => none

def bitsI (k : IntKind) : BinOp → Int → Int → Option Int
  | .and, x, y => some (k.wrap ((BitVec.ofInt k.bits x &&& BitVec.ofInt k.bits y).toNat))
  | .or, x, y => some (k.wrap ((BitVec.ofInt k.bits x ||| BitVec.ofInt k.bits y).toNat))
  | .xor, x, y => some (k.wrap ((BitVec.ofInt k.bits x ^^^ BitVec.ofInt k.bits y).toNat))
  | .andNot, x, y => some (k.wrap ((BitVec.ofInt k.bits x &&& ~~~BitVec.ofInt k.bits y).toNat))
  | _, _, _ => none

def i2 (v u : Value) (f : IntKind → Int → Int → Option Value) : Option Value :=
  (vI v).bind fun p => (vI u).bind fun q => if p.1 = q.1 then f p.1 p.2 q.2 else none

def Bn.ev (o : Bn) (v u : Value) : Option Value :=
  match o with
  | .arith op => i2 v u fun k a b => (arithI k op a b).map (.int k)
  | .div op => i2 v u fun k a b => (divI k op a b).map (.int k)
  | .bits op => i2 v u fun k a b => (bitsI k op a b).map (.int k)
  | .cmp op => i2 v u fun _ a b => (cmpI op a b).map .bool
  | .min => i2 v u fun k a b => some (.int k (if b < a then b else a))
  | .max => i2 v u fun k a b => some (.int k (if a < b then b else a))
  | .eqB neg => (vB v).bind fun a => (vB u).map fun b => .bool ((a == b) != neg)
  | .eqS neg => (vS v).bind fun a => (vS u).map fun b => .bool ((a == b) != neg)
  | .cat => (vS v).bind fun a => (vS u).map fun b => .string (a ++ b)
  | .idx sz => (vL v).bind fun p => (vI u).bind fun q => p.1.bind fun a =>
    if 0 ≤ q.2 ∧ q.2 < p.2.1 then some (.pointer (some (a.add (q.2.toNat * sz)))) else none
  | .aidx n sz => (vP v).bind fun a => (vI u).bind fun q =>
    if 0 ≤ q.2 ∧ q.2 < n then some (.pointer (some (a.add (q.2.toNat * sz)))) else none
  | .idxA n sz agg => (vA v).bind fun cs => (vI u).bind fun q =>
    if 0 ≤ q.2 ∧ q.2 < n then (if agg then some (.agg (cs.extract (q.2.toNat * sz) (q.2.toNat * sz + sz))) else cs[q.2.toNat * sz]?) else none
  | .idxS => (vS v).bind fun s => (vI u).bind fun q =>
    if 0 ≤ q.2 then (s[q.2.toNat]?).map fun b => .int .u8 b.toNat else none
  | .hi => (vL v).bind fun p => (vI u).bind fun q => if 0 ≤ q.2 ∧ q.2 ≤ p.2.2 then some (.slice p.1 q.2.toNat p.2.2) else none
  | .lo sz => (vL v).bind fun p => (vI u).bind fun q =>
    if 0 ≤ q.2 ∧ q.2 ≤ p.2.1 then some (.slice (if p.2.2 = q.2.toNat then p.1 else p.1.map (·.add (q.2.toNat * sz))) (p.2.1 - q.2.toNat) (p.2.2 - q.2.toNat)) else none
  | .hiS => (vS v).bind fun s => (vI u).bind fun q => if 0 ≤ q.2 ∧ q.2 ≤ s.size then some (.string (s.extract 0 q.2.toNat)) else none
  | .loS => (vS v).bind fun s => (vI u).bind fun q => if 0 ≤ q.2 ∧ q.2 ≤ s.size then some (.string (s.extract q.2.toNat s.size)) else none

/-- The value of an expression, over slots and a heap. -/
def ev (ρ : Nat → Option Value) (h : View) : E → Option Value
  | .tmp t => ρ t
  | .con v => some v
  | .un o x => match ev ρ h x with
    | some v => o.ev h v
    | none => none
  | .bin o x y => match ev ρ h x, ev ρ h y with
    | some v, some u => o.ev v u
    | _, _ => none
  | .snoc x y => match ev ρ h x, ev ρ h y with
    | some (.tuple vs), some u => some (.tuple (vs.push u))
    | _, _ => none
  | .ite c x y => match ev ρ h c with
    | some (.bool true) => ev ρ h x
    | some (.bool false) => ev ρ h y
    | _ => none
  | .gd c b x => match ev ρ h c with
    | some (.bool true) => if b then ev ρ h x else some undef
    | some (.bool false) => if b then some undef else ev ρ h x
    | some _ => some undef
    | none => none

/-- Does an expression read the heap? -/
def Un.reads : Un → Bool
  | .load | .loads _ | .lenMap => true
  | _ => false

def E.reads : E → Bool
  | .tmp _ | .con _ => false
  | .un o x => o.reads || x.reads
  | .bin _ x y | .snoc x y => x.reads || y.reads
  | .ite c x y => c.reads || x.reads || y.reads
  | .gd c _ x => c.reads || x.reads

theorem Un.ev_pure {o : Un} (ho : o.reads = false) (h h' : View) (v : Value) : o.ev h v = o.ev h' v := by
  cases o <;> simp [Un.reads] at ho <;> rfl

theorem ev_pure {ρ : Nat → Option Value} {h h' : View} : ∀ {e : E}, e.reads = false → ev ρ h e = ev ρ h' e
  | .tmp _, _ => rfl
  | .con _, _ => rfl
  | .un o x, hr => by
    simp only [E.reads, Bool.or_eq_false_iff] at hr
    simp only [ev, ev_pure (h := h) (h' := h') hr.2]
    split
    · exact Un.ev_pure hr.1 _ _ _
    · rfl
  | .bin o x y, hr => by
    simp only [E.reads, Bool.or_eq_false_iff] at hr
    simp only [ev, ev_pure (h := h) (h' := h') hr.1, ev_pure (h := h) (h' := h') hr.2]
  | .snoc x y, hr => by
    simp only [E.reads, Bool.or_eq_false_iff] at hr
    simp only [ev, ev_pure (h := h) (h' := h') hr.1, ev_pure (h := h) (h' := h') hr.2]
  | .ite c x y, hr => by
    simp only [E.reads, Bool.or_eq_false_iff] at hr
    simp only [ev, ev_pure (h := h) (h' := h') hr.1.1, ev_pure (h := h) (h' := h') hr.1.2, ev_pure (h := h) (h' := h') hr.2]
  | .gd c b x, hr => by
    simp only [E.reads, Bool.or_eq_false_iff] at hr
    simp only [ev, ev_pure (h := h) (h' := h') hr.1, ev_pure (h := h) (h' := h') hr.2]

theorem View.le_refl (H : View) : H.le H := fun _ _ h => h
theorem View.le_trans {H K L : View} (h : H.le K) (k : K.le L) : H.le L := fun b o e => k b o (h b o e)

theorem cellH_mono {H K : View} (hk : H.le K) {a : Addr} {v : Value} (h : cellH H a = some v) : cellH K a = some v := by
  unfold cellH at *
  cases hb : H a.block with
  | none => simp [hb] at h
  | some o => simp only [hb] at h; simp only [hk _ _ hb]; exact h

theorem cellsFromH_mono {H K : View} (hk : H.le K) {a : Addr} : ∀ {n i : Nat} {acc cs : Array Value}, cellsFromH H a i n acc = some cs → cellsFromH K a i n acc = some cs
  | 0, _, _, _, h => h
  | n + 1, i, acc, cs, h => by
    simp only [cellsFromH] at *
    cases hc : cellH H (a.add i) with
    | none => simp [hc] at h
    | some v => simp only [hc] at h; simp only [cellH_mono hk hc]; exact cellsFromH_mono hk h

theorem mapH_mono {H K : View} (hk : H.le K) {r : Nat} {p : Array MapEntry × Nat} (h : mapH H r = some p) : mapH K r = some p := by
  unfold mapH at *
  cases hb : H r with
  | none => simp [hb] at h
  | some o => simp only [hb] at h; simp only [hk _ _ hb]; exact h

theorem Un.ev_mono {H K : View} (hk : H.le K) {o : Un} {v u : Value} (h : o.ev H v = some u) : o.ev K v = some u := by
  cases o <;> first | exact h | skip
  case load =>
    simp only [Un.ev, Option.bind_eq_some_iff] at *
    obtain ⟨a, ha, hc⟩ := h
    exact ⟨a, ha, cellH_mono hk hc⟩
  case loads n =>
    simp only [Un.ev, Option.bind_eq_some_iff, Option.map_eq_some_iff] at *
    obtain ⟨a, ha, cs, hc, he⟩ := h
    exact ⟨a, ha, cs, cellsFromH_mono hk hc, he⟩
  case lenMap =>
    simp only [Un.ev, Option.bind_eq_some_iff] at *
    obtain ⟨r, hr, h⟩ := h
    refine ⟨r, hr, ?_⟩
    cases r with
    | none => exact h
    | some r =>
      simp only [Option.map_eq_some_iff] at *
      obtain ⟨p, hp, he⟩ := h
      exact ⟨p, mapH_mono hk hp, he⟩

theorem ev_mono {ρ : Nat → Option Value} {H K : View} (hk : H.le K) : ∀ {e : E} {v : Value}, ev ρ H e = some v → ev ρ K e = some v
  | .tmp _, _, h => h
  | .con _, _, h => h
  | .un o x, v, h => by
    simp only [ev] at *
    split at h
    · rename_i u hu; simp only [ev_mono hk hu]; exact Un.ev_mono hk h
    · cases h
  | .bin o x y, v, h => by
    simp only [ev] at *
    split at h
    · rename_i u u' hu hu'; simp only [ev_mono hk hu, ev_mono hk hu']; exact h
    · cases h
  | .snoc x y, v, h => by
    simp only [ev] at *
    split at h
    · rename_i u u' hu hu'; simp only [ev_mono hk hu, ev_mono hk hu']; exact h
    · cases h
  | .ite c x y, v, h => by
    simp only [ev] at *
    split at h
    · rename_i hu; simp only [ev_mono hk hu]; exact ev_mono hk h
    · rename_i hu; simp only [ev_mono hk hu]; exact ev_mono hk h
    · cases h
  | .gd c b x, v, h => by
    simp only [ev] at *
    split at h
    · rename_i hu; simp only [ev_mono hk hu]
      split at h
      · rename_i hb; simp only [hb, if_true]; exact ev_mono hk h
      · rename_i hb; simp only [hb]; exact h
    · rename_i hu; simp only [ev_mono hk hu]
      split at h
      · rename_i hb; simp only [hb, if_true]; exact h
      · rename_i hb; simp only [hb]; exact ev_mono hk h
    · rename_i u h1 h2 hu
      simp only [ev_mono hk hu]
      exact h
    · cases h

def opnd : Operand → E
  | .tmp t => .tmp t
  | .const v => .con v
  | .global g => .con (.pointer (some ⟨g, 0, none⟩))
  | .func f => .con (.func (.func f) #[] #[])

def isAggB (P : Program) (t : TypeId) : Option Bool :=
  match P.underlying t with
  | some (.struct _) | some (.array _ _) => some true
  | some _ => some false
  | none => none

def sizeB (P : Program) (t : TypeId) : Option Nat := (P.info? t).map (·.size)

def loadE (P : Program) (t : TypeId) (x : E) : Option E :=
  match isAggB P t, sizeB P t with
  | some true, some n => some (.un (.loads n) x)
  | some false, some _ => some (.un .load x)
  | _, _ => none

/-- The expression of an operation; none: it is none of these. -/
def opE (P : Program) : Op → Option E
  | .move x | .assign x => some (opnd x)
  | .pick c a b => some (.ite (opnd c) (opnd a) (opnd b))
  | .unOp .not _ x => some (.un .not (opnd x))
  | .binOp op t x y _ =>
    match P.underlying t, op with
    | some (.int _), .add | some (.int _), .sub | some (.int _), .mul => some (.bin (.arith op) (opnd x) (opnd y))
    | some (.int _), .quo | some (.int _), .rem => some (.bin (.div op) (opnd x) (opnd y))
    | some (.int _), .and | some (.int _), .or | some (.int _), .xor | some (.int _), .andNot => some (.bin (.bits op) (opnd x) (opnd y))
    | some (.int _), .eql | some (.int _), .neq | some (.int _), .lss | some (.int _), .leq | some (.int _), .gtr | some (.int _), .geq => some (.bin (.cmp op) (opnd x) (opnd y))
    | some .bool, .eql => some (.bin (.eqB false) (opnd x) (opnd y))
    | some .bool, .neq => some (.bin (.eqB true) (opnd x) (opnd y))
    | _, _ => none
  | .load t a => loadE P t (opnd a)
  | .nilCheck x => some (.un .nilPtr (opnd x))
  | .fieldAddr s x f =>
    match P.underlying s with
    | some (.struct fields) => match fields[f]? with
      | some g => match sizeB P g.type with
        | some (_ + 1) => some (.un (.fld g.offset) (opnd x))
        | _ => none
      | none => none
    | _ => none
  | .field s x f =>
    match P.underlying s with
    | some (.struct fields) => match fields[f]? with
      | some g => match isAggB P g.type, sizeB P g.type with
        | some true, some n => some (.un (.parts g.offset n) (opnd x))
        | some false, some _ => some (.un (.part g.offset) (opnd x))
        | _, _ => none
      | none => none
    | _ => none
  | .indexAddr t x i =>
    match P.underlying t with
    | some (.slice e) => (sizeB P e).map fun n => .bin (.idx n) (opnd x) (opnd i)
    | some (.array k e) => if k ≤ 1 then none else (sizeB P e).map fun n => .bin (.aidx k n) (opnd x) (opnd i)
    | _ => none
  | .extract x i => some (.un (.ext i) (opnd x))
  | .convert s d x =>
    match P.underlying s, P.underlying d with
    | some (.int _), some (.int k) => some (.un (.conv k) (opnd x))
    | _, _ => none
  | .makeFunc (.func f) first captured =>
    if first.isEmpty then some (.un (.fn f) (captured.toList.foldl (fun e x => .snoc e (opnd x)) (.con (.tuple #[])))) else none
  | .call { callee := .builtin .len, args, argTypes } =>
    match args.toList, argTypes[0]? with
    | [x], some t => match P.underlying t with
      | some (.slice _) => some (.un .len (opnd x))
      | some .string => some (.un .lenStr (opnd x))
      | some (.map _ _) => some (.un .lenMap (opnd x))
      | _ => none
    | _, _ => none
  | .call { callee := .builtin .min, args, .. } =>
    match args.toList with
    | [x, y] => some (.bin .min (opnd x) (opnd y))
    | _ => none
  | .call { callee := .builtin .max, args, .. } =>
    match args.toList with
    | [x, y] => some (.bin .max (opnd x) (opnd y))
    | _ => none
  | .slice t x lo hi none =>
    match P.underlying t with
    | some (.slice e) => match sizeB P e with
      | some n =>
        let x1 := match hi with | some j => .bin .hi (opnd x) (opnd j) | none => opnd x
        match lo with
        | some i => some (.bin (.lo n) x1 (opnd i))
        | none => match hi with | some _ => some x1 | none => none
      | none => none
    | _ => none
  | _ => none

end Go.Lft

namespace Go.Lft
open Go

section
variable {P : Program} {w : World}

theorem run_isAgg {t : TypeId} {b : Bool} (h : isAggB P t = some b) : (isAgg t).run P w = .ok b w := by
  unfold isAggB at h
  cases hu : P.underlying t with
  | none => simp [hu] at h
  | some d => cases d <;> simp [hu] at h <;> subst h <;> simp [isAgg, run_underlying hu]

theorem run_sizeOf {t : TypeId} {n : Nat} (h : sizeB P t = some n) : (sizeOf t).run P w = .ok n w := by
  unfold sizeB at h
  cases hu : P.info? t with
  | none => simp [hu] at h
  | some i => simp [hu] at h; subst h; simp [sizeOf, typeInfo, hu]

theorem run_loadCellsFrom (a : Addr) : ∀ (n i : Nat) (acc cs : Array Value), cellsFromH (vw w.heap) a i n acc = some cs → (loadCellsFrom a i n acc).run P w = .ok cs w
  | 0, i, acc, cs, h => by simp [cellsFromH] at h; subst h; simp [loadCellsFrom]
  | n + 1, i, acc, cs, h => by
    unfold cellsFromH at h
    cases hc : cellH (vw w.heap) (a.add i) with
    | none => simp [hc] at h
    | some v =>
      simp only [hc] at h
      have hc' : w.cell? (a.add i) = some v := hc
      simp [loadCellsFrom, hc', run_loadCellsFrom a n (i + 1) (acc.push v) cs h]

theorem run_load {t : TypeId} {x : E} {e : E} {ρ : Nat → Option Value} {v u : Value} (he : loadE P t x = some e) (hx : ev ρ (vw w.heap) x = some u) (hv : ev ρ (vw w.heap) e = some v) :
    (Instr.loadAt t u).run P w = .ok v w := by
  unfold loadE at he
  cases ha : isAggB P t with
  | none => simp [ha] at he
  | some b =>
    cases hs : sizeB P t with
    | none => cases b <;> simp [ha, hs] at he
    | some n =>
      cases b
      · simp [ha, hs] at he
        subst he
        simp only [ev, hx] at hv
        cases u <;> simp [Un.ev, vP] at hv
        rename_i a
        cases a with
        | none => simp at hv
        | some a =>
          simp only [Option.bind_some] at hv
          have hc : w.cell? a = some v := hv
          simp [Instr.loadAt, Instr.sureAddr, loadVar, run_isAgg ha, hc]
      · simp [ha, hs] at he
        subst he
        simp only [ev, hx] at hv
        cases u <;> simp [Un.ev, vP] at hv
        rename_i a
        cases a with
        | none => simp at hv
        | some a =>
          simp only [Option.bind_some, Option.map_eq_some_iff] at hv
          obtain ⟨cs, hcs, rfl⟩ := hv
          have := run_loadCellsFrom (P := P) (w := w) a n 0 #[] cs hcs
          simp [Instr.loadAt, Instr.sureAddr, loadVar, run_isAgg ha, run_sizeOf hs, loadCells, this]

abbrev slots (a : Act) : Nat → Option Value := fun t => a.tmps[t]?

theorem ev_opnd {a : Act} {h : View} {x : Operand} {v : Value} (hv : ev (slots a) h (opnd x) = some v) : a.eval x = v := by
  cases x with
  | tmp t => simp only [opnd, ev, slots] at hv; simp [Act.eval, hv]
  | const u => simp only [opnd, ev, Option.some.injEq] at hv; simp [Act.eval, hv]
  | global g => simp only [opnd, ev, Option.some.injEq] at hv; simp [Act.eval, hv]
  | func f => simp only [opnd, ev, Option.some.injEq] at hv; simp [Act.eval, hv]

theorem vI_some {v : Value} {p : IntKind × Int} (h : vI v = some p) : v = .int p.1 p.2 := by cases v <;> simp [vI] at h; subst h; rfl
theorem vB_some {v : Value} {p : Bool} (h : vB v = some p) : v = .bool p := by cases v <;> simp [vB] at h; subst h; rfl
theorem vS_some {v : Value} {p : ByteArray} (h : vS v = some p) : v = .string p := by cases v <;> simp [vS] at h; subst h; rfl
theorem vP_some {v : Value} {p : Addr} (h : vP v = some p) : v = .pointer (some p) := by
  cases v <;> simp [vP] at h
  rename_i a; cases a <;> simp at h; subst h; rfl
theorem vL_some {v : Value} {p : Option Addr × Nat × Nat} (h : vL v = some p) : v = .slice p.1 p.2.1 p.2.2 := by cases v <;> simp [vL] at h; subst h; rfl
theorem vA_some {v : Value} {p : Array Value} (h : vA v = some p) : v = .agg p := by cases v <;> simp [vA] at h; subst h; rfl
theorem vT_some {v : Value} {p : Array Value} (h : vT v = some p) : v = .tuple p := by cases v <;> simp [vT] at h; subst h; rfl
theorem vM_some {v : Value} {p : Option Nat} (h : vM v = some p) : v = .map p := by cases v <;> simp [vM] at h; subst h; rfl

theorem ev_un {ρ : Nat → Option Value} {h : View} {o : Un} {x : E} {v : Value} (hv : ev ρ h (.un o x) = some v) : ∃ u, ev ρ h x = some u ∧ o.ev h u = some v := by
  simp only [ev] at hv; split at hv
  · exact ⟨_, by assumption, hv⟩
  · cases hv

theorem ev_bin {ρ : Nat → Option Value} {h : View} {o : Bn} {x y : E} {v : Value} (hv : ev ρ h (.bin o x y) = some v) : ∃ u u', ev ρ h x = some u ∧ ev ρ h y = some u' ∧ o.ev u u' = some v := by
  simp only [ev] at hv; split at hv
  · exact ⟨_, _, by assumption, by assumption, hv⟩
  · cases hv

theorem i2_some {v u r : Value} {f : IntKind → Int → Int → Option Value} (h : i2 v u f = some r) : ∃ k a b, v = .int k a ∧ u = .int k b ∧ f k a b = some r := by
  simp only [i2, Option.bind_eq_some_iff] at h
  obtain ⟨p, hp, q, hq, h⟩ := h
  split at h
  · rename_i e
    exact ⟨p.1, p.2, q.2, vI_some hp, by rw [e]; exact vI_some hq, h⟩
  · cases h

section binops
variable {o : Oper} {a : Act} {v : Value} {x y : Operand} {t u : TypeId} {op : BinOp} {n : Bool}

theorem sound_cmp (ho : o.op = .binOp op t x y u) (hv : ev (slots a) (vw w.heap) (.bin (.cmp op) (opnd x) (opnd y)) = some v) : (execOp a.eval o).run P w = .ok (.value v) w := by
  obtain ⟨p, q, hp, hq, hpq⟩ := ev_bin hv
  simp only [Bn.ev] at hpq
  obtain ⟨k, i, j, rfl, rfl, h⟩ := i2_some hpq
  simp only [Option.map_eq_some_iff] at h
  obtain ⟨b, hb, rfl⟩ := h
  have e1 := ev_opnd hp
  have e2 := ev_opnd hq
  cases op <;> simp [cmpI] at hb <;> subst hb <;> simp [execOp, ho, eqGuard, e1, e2, binOp, Op.intCmp]

theorem sound_arith (ho : o.op = .binOp op t x y u) (hv : ev (slots a) (vw w.heap) (.bin (.arith op) (opnd x) (opnd y)) = some v) : (execOp a.eval o).run P w = .ok (.value v) w := by
  obtain ⟨p, q, hp, hq, hpq⟩ := ev_bin hv
  simp only [Bn.ev] at hpq
  obtain ⟨k, i, j, rfl, rfl, h⟩ := i2_some hpq
  simp only [Option.map_eq_some_iff] at h
  obtain ⟨b, hb, rfl⟩ := h
  have e1 := ev_opnd hp
  have e2 := ev_opnd hq
  cases op <;> simp [arithI] at hb <;> subst hb <;> simp [execOp, ho, eqGuard, e1, e2, binOp, Op.intArith]

theorem sound_div (ho : o.op = .binOp op t x y u) (hv : ev (slots a) (vw w.heap) (.bin (.div op) (opnd x) (opnd y)) = some v) : (execOp a.eval o).run P w = .ok (.value v) w := by
  obtain ⟨p, q, hp, hq, hpq⟩ := ev_bin hv
  simp only [Bn.ev] at hpq
  obtain ⟨k, i, j, rfl, rfl, h⟩ := i2_some hpq
  simp only [Option.map_eq_some_iff] at h
  obtain ⟨b, hb, rfl⟩ := h
  have e1 := ev_opnd hp
  have e2 := ev_opnd hq
  cases op <;> simp [divI] at hb <;> obtain ⟨hz, rfl⟩ := hb <;> simp [execOp, ho, eqGuard, e1, e2, binOp, Op.intDiv, hz]

theorem sound_bits (ho : o.op = .binOp op t x y u) (hv : ev (slots a) (vw w.heap) (.bin (.bits op) (opnd x) (opnd y)) = some v) : (execOp a.eval o).run P w = .ok (.value v) w := by
  obtain ⟨p, q, hp, hq, hpq⟩ := ev_bin hv
  simp only [Bn.ev] at hpq
  obtain ⟨k, i, j, rfl, rfl, h⟩ := i2_some hpq
  simp only [Option.map_eq_some_iff] at h
  obtain ⟨b, hb, rfl⟩ := h
  have e1 := ev_opnd hp
  have e2 := ev_opnd hq
  cases op <;> simp only [bitsI, Option.some.injEq, reduceCtorEq] at hb <;> subst hb <;> simp [execOp, ho, eqGuard, e1, e2, binOp, Op.intBits]

theorem run_equal_bool (hu : P.underlying t = some .bool) (i j : Bool) : (Op.equal t (.bool i) (.bool j)).run P w = .ok (i == j) w := by
  have key : ∀ d, (Op.equalIn (d + 1) t (.bool i) (.bool j)).run P w = .ok (i == j) w := fun d => by
    simp only [Op.equalIn]
    simp [run_underlying hu]
  exact key 9999

theorem sound_eqB (hu : P.underlying t = some .bool) (hop : op = if n then .neq else .eql) (ho : o.op = .binOp op t x y u) (hv : ev (slots a) (vw w.heap) (.bin (.eqB n) (opnd x) (opnd y)) = some v) : (execOp a.eval o).run P w = .ok (.value v) w := by
  obtain ⟨p, q, hp, hq, hpq⟩ := ev_bin hv
  simp only [Bn.ev, Option.bind_eq_some_iff, Option.map_eq_some_iff] at hpq
  obtain ⟨i, hi, j, hj, rfl⟩ := hpq
  obtain rfl := vB_some hi
  obtain rfl := vB_some hj
  have e1 := ev_opnd hp
  have e2 := ev_opnd hq
  have e3 := run_equal_bool (w := w) hu i j
  cases n <;> simp at hop <;> subst hop <;> simp [execOp, ho, eqGuard, e1, e2, binOp, e3]
end binops
end
end Go.Lft

namespace Go.Lft
open Go

section
variable {P : Program} {w : World} {o : Oper} {a : Act} {v : Value}

theorem sound_move {x : Operand} (ho : o.op = .move x) (hv : ev (slots a) (vw w.heap) (opnd x) = some v) : (execOp a.eval o).run P w = .ok (.value v) w := by
  simp [execOp, ho, ev_opnd hv]
theorem sound_assign {x : Operand} (ho : o.op = .assign x) (hv : ev (slots a) (vw w.heap) (opnd x) = some v) : (execOp a.eval o).run P w = .ok (.value v) w := by
  simp [execOp, ho, ev_opnd hv]

theorem sound_pick {c x y : Operand} (ho : o.op = .pick c x y) (hv : ev (slots a) (vw w.heap) (.ite (opnd c) (opnd x) (opnd y)) = some v) : (execOp a.eval o).run P w = .ok (.value v) w := by
  simp only [ev] at hv
  split at hv
  · rename_i hc; simp [execOp, ho, ev_opnd hc, asBool, ev_opnd hv]
  · rename_i hc; simp [execOp, ho, ev_opnd hc, asBool, ev_opnd hv]
  · cases hv

theorem sound_not {t : TypeId} {x : Operand} (ho : o.op = .unOp .not t x) (hv : ev (slots a) (vw w.heap) (.un .not (opnd x)) = some v) : (execOp a.eval o).run P w = .ok (.value v) w := by
  obtain ⟨u, hu, h⟩ := ev_un hv
  simp only [Un.ev, Option.map_eq_some_iff] at h
  obtain ⟨b, hb, rfl⟩ := h
  obtain rfl := vB_some hb
  simp [execOp, ho, ev_opnd hu, Op.unary]

theorem sound_nil {x : Operand} (ho : o.op = .nilCheck x) (hv : ev (slots a) (vw w.heap) (.un .nilPtr (opnd x)) = some v) : (execOp a.eval o).run P w = .ok (.value v) w := by
  obtain ⟨u, hu, h⟩ := ev_un hv
  simp only [Un.ev, Option.map_eq_some_iff] at h
  obtain ⟨b, hb, rfl⟩ := h
  obtain rfl := vP_some hb
  simp [execOp, ho, ev_opnd hu]

theorem sound_ext {x : Operand} {i : Nat} (ho : o.op = .extract x i) (hv : ev (slots a) (vw w.heap) (.un (.ext i) (opnd x)) = some v) : (execOp a.eval o).run P w = .ok (.value v) w := by
  obtain ⟨u, hu, h⟩ := ev_un hv
  simp only [Un.ev, Option.bind_eq_some_iff] at h
  obtain ⟨b, hb, h⟩ := h
  obtain rfl := vT_some hb
  simp [execOp, ho, ev_opnd hu, Instr.extract, h]

theorem sound_conv {s d : TypeId} {x : Operand} {k k' : IntKind} (hs : P.underlying s = some (.int k')) (hd : P.underlying d = some (.int k)) (ho : o.op = .convert s d x)
    (hv : ev (slots a) (vw w.heap) (.un (.conv k) (opnd x)) = some v) : (execOp a.eval o).run P w = .ok (.value v) w := by
  obtain ⟨u, hu, h⟩ := ev_un hv
  simp only [Un.ev, Option.map_eq_some_iff] at h
  obtain ⟨b, hb, rfl⟩ := h
  obtain h1 := vI_some hb
  subst h1
  simp [execOp, ho, ev_opnd hu, convert, run_underlying hs, run_underlying hd, Conv.intToInt]

theorem sound_fieldAddr {s : TypeId} {x : Operand} {f n : Nat} {fields : Array Field} {g : Field} (hs : P.underlying s = some (.struct fields)) (hf : fields[f]? = some g) (hz : sizeB P g.type = some (n + 1))
    (ho : o.op = .fieldAddr s x f) (hv : ev (slots a) (vw w.heap) (.un (.fld g.offset) (opnd x)) = some v) : (execOp a.eval o).run P w = .ok (.value v) w := by
  obtain ⟨u, hu, h⟩ := ev_un hv
  simp only [Un.ev, Option.map_eq_some_iff] at h
  obtain ⟨b, hb, rfl⟩ := h
  obtain rfl := vP_some hb
  simp [execOp, ho, ev_opnd hu, Instr.fieldAt, run_underlying hs, hf, Instr.sureAddr, fieldPlace, run_sizeOf hz]

theorem sound_part {s : TypeId} {x : Operand} {f n : Nat} {fields : Array Field} {g : Field} (hs : P.underlying s = some (.struct fields)) (hf : fields[f]? = some g) (ha : isAggB P g.type = some false) (_hz : sizeB P g.type = some n)
    (ho : o.op = .field s x f) (hv : ev (slots a) (vw w.heap) (.un (.part g.offset) (opnd x)) = some v) : (execOp a.eval o).run P w = .ok (.value v) w := by
  obtain ⟨u, hu, h⟩ := ev_un hv
  simp only [Un.ev, Option.bind_eq_some_iff] at h
  obtain ⟨b, hb, h⟩ := h
  obtain rfl := vA_some hb
  simp [execOp, ho, ev_opnd hu, Instr.field, run_underlying hs, hf, asAgg, part, run_isAgg ha, h]

theorem sound_parts {s : TypeId} {x : Operand} {f n : Nat} {fields : Array Field} {g : Field} (hs : P.underlying s = some (.struct fields)) (hf : fields[f]? = some g) (ha : isAggB P g.type = some true) (hz : sizeB P g.type = some n)
    (ho : o.op = .field s x f) (hv : ev (slots a) (vw w.heap) (.un (.parts g.offset n) (opnd x)) = some v) : (execOp a.eval o).run P w = .ok (.value v) w := by
  obtain ⟨u, hu, h⟩ := ev_un hv
  simp only [Un.ev, Option.map_eq_some_iff] at h
  obtain ⟨b, hb, rfl⟩ := h
  obtain rfl := vA_some hb
  simp [execOp, ho, ev_opnd hu, Instr.field, run_underlying hs, hf, asAgg, part, run_isAgg ha, run_sizeOf hz]

theorem sound_idx {t e : TypeId} {x i : Operand} {n : Nat} (ht : P.underlying t = some (.slice e)) (hz : sizeB P e = some n) (ho : o.op = .indexAddr t x i)
    (hv : ev (slots a) (vw w.heap) (.bin (.idx n) (opnd x) (opnd i)) = some v) : (execOp a.eval o).run P w = .ok (.value v) w := by
  obtain ⟨p, q, hp, hq, h⟩ := ev_bin hv
  simp only [Bn.ev, Option.bind_eq_some_iff] at h
  obtain ⟨l, hl, k, hk, d, hd, h⟩ := h
  obtain rfl := vL_some hl
  have hk' := vI_some hk
  split at h
  · rename_i hb
    simp only [Option.some.injEq] at h
    subst h
    have e1 := ev_opnd hp
    have e2 := ev_opnd hq
    rw [hk'] at e2
    simp [execOp, ho, e1, e2, Instr.indexAt, asIntOf, run_underlying ht, hd, hb.1, hb.2, run_sizeOf hz]
  · cases h

theorem sound_aidx {t e : TypeId} {x i : Operand} {n m : Nat} (ht : P.underlying t = some (.array m e)) (hz : sizeB P e = some n) (ho : o.op = .indexAddr t x i)
    (hv : ev (slots a) (vw w.heap) (.bin (.aidx m n) (opnd x) (opnd i)) = some v) : (execOp a.eval o).run P w = .ok (.value v) w := by
  obtain ⟨p, q, hp, hq, h⟩ := ev_bin hv
  simp only [Bn.ev, Option.bind_eq_some_iff] at h
  obtain ⟨l, hl, k, hk, h⟩ := h
  obtain rfl := vP_some hl
  have hk' := vI_some hk
  split at h
  · rename_i hb
    simp only [Option.some.injEq] at h
    subst h
    have e1 := ev_opnd hp
    have e2 := ev_opnd hq
    rw [hk'] at e2
    simp [execOp, ho, e1, e2, Instr.indexAt, asIntOf, run_underlying ht, Instr.sureAddr, hb.1, hb.2, run_sizeOf hz]
  · cases h

theorem sound_len {T : Array TypeId} {t e : TypeId} {x : Operand} {A : Array Operand} (hT : T[0]? = some t) (hA : A.toList = [x]) (ht : P.underlying t = some (.slice e)) (ho : o.op = .call { callee := .builtin .len, args := A, argTypes := T })
    (hv : ev (slots a) (vw w.heap) (.un .len (opnd x)) = some v) : (execOp a.eval o).run P w = .ok (.value v) w := by
  obtain ⟨u, hu, h⟩ := ev_un hv
  simp only [Un.ev, Option.map_eq_some_iff] at h
  obtain ⟨l, hl, rfl⟩ := h
  obtain rfl := vL_some hl
  have hA' : A = #[x] := by rw [← Array.toArray_toList (xs := A), hA]
  subst hA'
  simp [execOp, ho, resolve, invoke, builtin, Builtin.len_, hT, run_underlying ht, ev_opnd hu, goInt]

theorem sound_lenStr {T : Array TypeId} {t : TypeId} {x : Operand} {A : Array Operand} (hT : T[0]? = some t) (hA : A.toList = [x]) (ht : P.underlying t = some .string) (ho : o.op = .call { callee := .builtin .len, args := A, argTypes := T })
    (hv : ev (slots a) (vw w.heap) (.un .lenStr (opnd x)) = some v) : (execOp a.eval o).run P w = .ok (.value v) w := by
  obtain ⟨u, hu, h⟩ := ev_un hv
  simp only [Un.ev, Option.map_eq_some_iff] at h
  obtain ⟨l, hl, rfl⟩ := h
  obtain rfl := vS_some hl
  have hA' : A = #[x] := by rw [← Array.toArray_toList (xs := A), hA]
  subst hA'
  simp [execOp, ho, resolve, invoke, builtin, Builtin.len_, hT, run_underlying ht, ev_opnd hu, goInt]

theorem sound_lenMap {T : Array TypeId} {t k e : TypeId} {x : Operand} {A : Array Operand} (hT : T[0]? = some t) (hA : A.toList = [x]) (ht : P.underlying t = some (.map k e)) (ho : o.op = .call { callee := .builtin .len, args := A, argTypes := T })
    (hv : ev (slots a) (vw w.heap) (.un .lenMap (opnd x)) = some v) : (execOp a.eval o).run P w = .ok (.value v) w := by
  obtain ⟨u, hu, h⟩ := ev_un hv
  simp only [Un.ev, Option.bind_eq_some_iff] at h
  obtain ⟨l, hl, h⟩ := h
  obtain rfl := vM_some hl
  have hA' : A = #[x] := by rw [← Array.toArray_toList (xs := A), hA]
  subst hA'
  cases l with
  | none =>
    simp only [Option.some.injEq] at h
    subst h
    simp [execOp, ho, resolve, invoke, builtin, Builtin.len_, hT, run_underlying ht, ev_opnd hu, goInt]
  | some r =>
    simp only [Option.map_eq_some_iff, mapH, vw] at h
    obtain ⟨⟨es, c⟩, h1, rfl⟩ := h
    split at h1
    · rename_i es' c' hh
      simp only [Option.some.injEq, Prod.mk.injEq] at h1
      obtain ⟨rfl, rfl⟩ := h1
      simp [execOp, ho, resolve, invoke, builtin, Builtin.len_, hT, run_underlying ht, ev_opnd hu, goInt, getObj, Sem.run, hh]
    · cases h1

theorem sound_min {T : Array TypeId} {x y : Operand} {A : Array Operand} (hA : A.toList = [x, y]) (ho : o.op = .call { callee := .builtin .min, args := A, argTypes := T })
    (hv : ev (slots a) (vw w.heap) (.bin .min (opnd x) (opnd y)) = some v) : (execOp a.eval o).run P w = .ok (.value v) w := by
  obtain ⟨p, q, hp, hq, hpq⟩ := ev_bin hv
  simp only [Bn.ev] at hpq
  obtain ⟨k, i, j, rfl, rfl, h⟩ := i2_some hpq
  simp only [Option.some.injEq] at h
  subst h
  have hA' : A = #[x, y] := by rw [← Array.toArray_toList (xs := A), hA]
  subst hA'
  simp [execOp, ho, resolve, invoke, builtin, Builtin.min_, Builtin.min2, ev_opnd hp, ev_opnd hq]

theorem sound_max {T : Array TypeId} {x y : Operand} {A : Array Operand} (hA : A.toList = [x, y]) (ho : o.op = .call { callee := .builtin .max, args := A, argTypes := T })
    (hv : ev (slots a) (vw w.heap) (.bin .max (opnd x) (opnd y)) = some v) : (execOp a.eval o).run P w = .ok (.value v) w := by
  obtain ⟨p, q, hp, hq, hpq⟩ := ev_bin hv
  simp only [Bn.ev] at hpq
  obtain ⟨k, i, j, rfl, rfl, h⟩ := i2_some hpq
  simp only [Option.some.injEq] at h
  subst h
  have hA' : A = #[x, y] := by rw [← Array.toArray_toList (xs := A), hA]
  subst hA'
  simp [execOp, ho, resolve, invoke, builtin, Builtin.max_, Builtin.max2, ev_opnd hp, ev_opnd hq]

theorem ev_tuple : ∀ (l : List Operand) (e : E) (acc : Array Value) (v : Value), ev (slots a) (vw w.heap) e = some (.tuple acc) → ev (slots a) (vw w.heap) (l.foldl (fun e x => .snoc e (opnd x)) e) = some v →
    v = .tuple (acc ++ (l.map a.eval).toArray)
  | [], e, acc, v, h0, h => by simp at h; rw [h0] at h; simp at h; subst h; simp
  | x :: l, e, acc, v, h0, h => by
    simp only [List.foldl_cons] at h
    cases hx : ev (slots a) (vw w.heap) (opnd x) with
    | none =>
      exfalso
      have : ∀ (l : List Operand) (e : E), ev (slots a) (vw w.heap) e = none → ev (slots a) (vw w.heap) (l.foldl (fun e x => .snoc e (opnd x)) e) = none := by
        intro l
        induction l with
        | nil => intro e he; simpa using he
        | cons y l ih => intro e he; simp only [List.foldl_cons]; exact ih _ (by simp [ev, he])
      rw [this l _ (by simp [ev, h0, hx])] at h
      cases h
    | some u =>
      have := ev_tuple l (.snoc e (opnd x)) (acc.push u) v (by simp [ev, h0, hx]) h
      rw [this, ← ev_opnd hx]
      simp

theorem sound_fn {f : FuncId} {first captured : Array Operand} (hf : first.isEmpty = true) (ho : o.op = .makeFunc (.func f) first captured)
    (hv : ev (slots a) (vw w.heap) (.un (.fn f) (captured.toList.foldl (fun e x => .snoc e (opnd x)) (.con (.tuple #[])))) = some v) : (execOp a.eval o).run P w = .ok (.value v) w := by
  obtain ⟨u, hu, h⟩ := ev_un hv
  simp only [Un.ev, Option.map_eq_some_iff] at h
  obtain ⟨l, hl, rfl⟩ := h
  obtain rfl := vT_some hl
  have h1 := ev_tuple captured.toList _ #[] _ (by simp [ev]) hu
  have hf' : first = #[] := by simpa using hf
  subst hf'
  simp only [Value.tuple.injEq] at h1
  subst h1
  have e : Array.map a.eval captured = (List.map a.eval captured.toList).toArray := by rw [← Array.toList_inj]; simp
  simp [execOp, ho, Instr.makeFunc, e]

theorem run_sliceBound {i : Operand} {q : IntKind × Int} {u : Value} (hq : ev (slots a) (vw w.heap) (opnd i) = some u) (hk : vI u = some q) (y : Nat) (c : BoundsCode) (hb : 0 ≤ q.2 ∧ q.2 ≤ y) :
    (Instr.sliceBound (a.eval i) y c).run P w = .ok q.2.toNat w := by
  have h1 := vI_some hk
  rw [ev_opnd hq, h1]
  simp [Instr.sliceBound, asIntOf, hb.1, hb.2]

theorem sound_hi {t e : TypeId} {x j : Operand} {n : Nat} (ht : P.underlying t = some (.slice e)) (hz : sizeB P e = some n) (ho : o.op = .slice t x none (some j) none)
    (hv : ev (slots a) (vw w.heap) (.bin .hi (opnd x) (opnd j)) = some v) : (execOp a.eval o).run P w = .ok (.value v) w := by
  obtain ⟨p, q, hp, hq, h⟩ := ev_bin hv
  simp only [Bn.ev, Option.bind_eq_some_iff] at h
  obtain ⟨l, hl, k, hk, h⟩ := h
  obtain rfl := vL_some hl
  split at h
  · rename_i hb
    simp only [Option.some.injEq] at h
    subst h
    have e1 := ev_opnd hp
    have e2 := run_sliceBound (P := P) hq hk l.2.2 .sliceAcap hb
    have e3 := run_sizeOf (w := w) hz
    obtain ⟨b, len, cap⟩ := l
    simp only at e2
    cases b <;> simp [execOp, ho, e1, Instr.sliceAt, Instr.slice, run_underlying ht, Instr.sliceBounds, e2, e3, Addr.add]
  · cases h

theorem sound_lo {t e : TypeId} {x i : Operand} {n : Nat} (ht : P.underlying t = some (.slice e)) (hz : sizeB P e = some n) (ho : o.op = .slice t x (some i) none none)
    (hv : ev (slots a) (vw w.heap) (.bin (.lo n) (opnd x) (opnd i)) = some v) : (execOp a.eval o).run P w = .ok (.value v) w := by
  obtain ⟨p, q, hp, hq, h⟩ := ev_bin hv
  simp only [Bn.ev, Option.bind_eq_some_iff] at h
  obtain ⟨l, hl, k, hk, h⟩ := h
  obtain rfl := vL_some hl
  split at h
  · rename_i hb
    simp only [Option.some.injEq] at h
    subst h
    have e1 := ev_opnd hp
    have e2 := run_sliceBound (P := P) hq hk l.2.1 .sliceB hb
    have e3 := run_sizeOf (w := w) hz
    obtain ⟨b, len, cap⟩ := l
    simp only at e2
    simp [execOp, ho, e1, Instr.sliceAt, Instr.slice, run_underlying ht, Instr.sliceBounds, e2, e3]
  · cases h

theorem sound_lohi {t e : TypeId} {x i j : Operand} {n : Nat} (ht : P.underlying t = some (.slice e)) (hz : sizeB P e = some n) (ho : o.op = .slice t x (some i) (some j) none)
    (hv : ev (slots a) (vw w.heap) (.bin (.lo n) (.bin .hi (opnd x) (opnd j)) (opnd i)) = some v) : (execOp a.eval o).run P w = .ok (.value v) w := by
  obtain ⟨p, q, hp, hq, h⟩ := ev_bin hv
  obtain ⟨p', q', hp', hq', h'⟩ := ev_bin hp
  simp only [Bn.ev, Option.bind_eq_some_iff] at h h'
  obtain ⟨l', hl', k', hk', h'⟩ := h'
  obtain rfl := vL_some hl'
  split at h'
  · rename_i hb'
    simp only [Option.some.injEq] at h'
    subst h'
    obtain ⟨l, hl, k, hk, h⟩ := h
    simp only [vL, Option.some.injEq] at hl
    subst hl
    split at h
    · rename_i hb
      simp only [Option.some.injEq] at h
      subst h
      have e1 := ev_opnd hp'
      have e2 := run_sliceBound (P := P) hq hk k'.2.toNat .sliceB hb
      have e2' := run_sliceBound (P := P) hq' hk' l'.2.2 .sliceAcap hb'
      have e3 := run_sizeOf (w := w) hz
      obtain ⟨b, len, cap⟩ := l'
      simp only at e2 e2'
      simp [execOp, ho, e1, Instr.sliceAt, Instr.slice, run_underlying ht, Instr.sliceBounds, e2, e2', e3]
    · cases h
  · cases h'

theorem sound_loadAt {t : TypeId} {x : Operand} {e : E} (he : loadE P t (opnd x) = some e) (ho : o.op = .load t x) (hv : ev (slots a) (vw w.heap) e = some v) : (execOp a.eval o).run P w = .ok (.value v) w := by
  have hx : ∃ u, ev (slots a) (vw w.heap) (opnd x) = some u := by
    unfold loadE at he
    split at he
    · simp only [Option.some.injEq] at he; subst he; obtain ⟨u, hu, _⟩ := ev_un hv; exact ⟨u, hu⟩
    · simp only [Option.some.injEq] at he; subst he; obtain ⟨u, hu, _⟩ := ev_un hv; exact ⟨u, hu⟩
    · cases he
  obtain ⟨u, hu⟩ := hx
  have := run_load he hu hv
  simp [execOp, ho, ev_opnd hu, this]

/-- AN OPERATION THAT HAS AN EXPRESSION RUNS TO THAT EXPRESSION's VALUE, and turns nothing. -/
theorem opE_sound {e : E} (he : opE P o.op = some e) (hv : ev (slots a) (vw w.heap) e = some v) : (execOp a.eval o).run P w = .ok (.value v) w := by
  cases ho : o.op with
  | move x => rw [ho] at he; simp only [opE, Option.some.injEq] at he; subst he; exact sound_move ho hv
  | assign x => rw [ho] at he; simp only [opE, Option.some.injEq] at he; subst he; exact sound_assign ho hv
  | pick c x y => rw [ho] at he; simp only [opE, Option.some.injEq] at he; subst he; exact sound_pick ho hv
  | unOp op t x =>
    rw [ho] at he
    cases op <;> simp only [opE, Option.some.injEq, reduceCtorEq] at he
    subst he; exact sound_not ho hv
  | binOp op t x y u =>
    rw [ho] at he
    simp only [opE] at he
    split at he <;> first
      | (simp only [Option.some.injEq] at he; subst he; first | exact sound_arith ho hv | exact sound_div ho hv | exact sound_bits ho hv | exact sound_cmp ho hv | exact sound_eqB (n := false) ‹_› rfl ho hv | exact sound_eqB (n := true) ‹_› rfl ho hv)
      | cases he
  | load t x => rw [ho] at he; simp only [opE] at he; exact sound_loadAt he ho hv
  | nilCheck x => rw [ho] at he; simp only [opE, Option.some.injEq] at he; subst he; exact sound_nil ho hv
  | fieldAddr s x f =>
    rw [ho] at he
    simp only [opE] at he
    split at he
    · rename_i fields hs
      split at he
      · rename_i g hf
        split at he
        · rename_i n hz
          simp only [Option.some.injEq] at he; subst he; exact sound_fieldAddr hs hf hz ho hv
        · cases he
      · cases he
    · cases he
  | field s x f =>
    rw [ho] at he
    simp only [opE] at he
    split at he
    · rename_i fields hs
      split at he
      · rename_i g hf
        split at he
        · rename_i n ha hz
          simp only [Option.some.injEq] at he; subst he; exact sound_parts hs hf ha hz ho hv
        · rename_i n ha hz
          simp only [Option.some.injEq] at he; subst he; exact sound_part hs hf ha hz ho hv
        · cases he
      · cases he
    · cases he
  | indexAddr t x i =>
    rw [ho] at he
    simp only [opE] at he
    split at he
    · rename_i el ht
      simp only [Option.map_eq_some_iff] at he
      obtain ⟨n, hn, rfl⟩ := he
      exact sound_idx ht hn ho hv
    · rename_i k el ht
      split at he
      · cases he
      · simp only [Option.map_eq_some_iff] at he
        obtain ⟨n, hn, rfl⟩ := he
        exact sound_aidx ht hn ho hv
    · cases he
  | extract x i => rw [ho] at he; simp only [opE, Option.some.injEq] at he; subst he; exact sound_ext ho hv
  | convert s d x =>
    rw [ho] at he
    simp only [opE] at he
    split at he
    · rename_i k' k hs hd
      simp only [Option.some.injEq] at he; subst he; exact sound_conv hs hd ho hv
    · cases he
  | makeFunc fn first captured =>
    rw [ho] at he
    cases fn <;> simp only [opE, reduceCtorEq] at he
    split at he
    · rename_i hf
      simp only [Option.some.injEq] at he; subst he; exact sound_fn hf ho hv
    · cases he
  | call c =>
    rw [ho] at he
    obtain ⟨callee, args, T⟩ := c
    cases callee with
    | value f => simp only [opE, reduceCtorEq] at he
    | invoke r m => simp only [opE, reduceCtorEq] at he
    | builtin b =>
      cases b <;> simp only [opE, reduceCtorEq] at he
      case len =>
        split at he
        · rename_i x t hA hT
          split at he
          · rename_i el ht; simp only [Option.some.injEq] at he; subst he; exact sound_len hT hA ht ho hv
          · rename_i ht; simp only [Option.some.injEq] at he; subst he; exact sound_lenStr hT hA ht ho hv
          · rename_i k el ht; simp only [Option.some.injEq] at he; subst he; exact sound_lenMap hT hA ht ho hv
          · cases he
        · cases he
      case min =>
        split at he
        · rename_i x y hA; simp only [Option.some.injEq] at he; subst he; exact sound_min hA ho hv
        · cases he
      case max =>
        split at he
        · rename_i x y hA; simp only [Option.some.injEq] at he; subst he; exact sound_max hA ho hv
        · cases he
  | slice t x lo hi mx =>
    rw [ho] at he
    cases mx with
    | some m => simp only [opE, reduceCtorEq] at he
    | none =>
      simp only [opE] at he
      split at he
      · rename_i el ht
        split at he
        · rename_i n hz
          cases lo <;> cases hi <;> simp only [Option.some.injEq, reduceCtorEq] at he
          · subst he; exact sound_hi ht hz ho hv
          · subst he; exact sound_lo ht hz ho hv
          · subst he; exact sound_lohi ht hz ho hv
        · cases he
      · cases he
  | _ => rw [ho] at he; simp only [opE, reduceCtorEq] at he
end
end Go.Lft

/- A run of operations that have expressions, put together backwards into trees over the slots as they were ahead of it. -/
namespace Go.Lft
open Go

def evs (ρ : Nat → Option Value) (h : View) : List E → Option (List Value)
  | [] => some []
  | e :: es => match ev ρ h e, evs ρ h es with
    | some v, some vs => some (v :: vs)
    | _, _ => none

def updF (ρ : Nat → Option Value) (d : Nat) (u : Value) : Nat → Option Value := fun t => if t = d then some u else ρ t

def isTmp (k : E) (c : Nat) : Bool := match k with | .tmp t => t == c | _ => false

def E.subst (r : E) (d : Nat) (e : E) : E :=
  match r with
  | .tmp t => if t = d then e else .tmp t
  | .con v => .con v
  | .un o x => .un o (x.subst d e)
  | .bin o x y => .bin o (x.subst d e) (y.subst d e)
  | .snoc x y => .snoc (x.subst d e) (y.subst d e)
  | .ite k x y => .ite (k.subst d e) (x.subst d e) (y.subst d e)
  | .gd k b x => .gd (k.subst d e) b (x.subst d e)

def E.occ (r : E) (d : Nat) : Bool :=
  match r with
  | .tmp t => t == d
  | .con _ => false
  | .un _ x => x.occ d
  | .bin _ x y | .snoc x y => x.occ d || y.occ d
  | .ite k _ _ => k.occ d
  | .gd k _ _ => k.occ d

def E.substG (r : E) (d c : Nat) (b : Bool) (e : E) : E :=
  match r with
  | .tmp t => if t = d then .gd (.tmp c) b e else .tmp t
  | .con v => .con v
  | .un o x => .un o (x.substG d c b e)
  | .bin o x y => .bin o (x.substG d c b e) (y.substG d c b e)
  | .snoc x y => .snoc (x.substG d c b e) (y.substG d c b e)
  | .ite k x y =>
    if isTmp k c then (if b then .ite k (x.subst d e) (y.substG d c b e) else .ite k (x.substG d c b e) (y.subst d e))
    else .ite (k.substG d c b e) (x.substG d c b e) (y.substG d c b e)
  | .gd k b' x => if isTmp k c && b' == b then .gd k b' (x.subst d e) else .gd (k.substG d c b e) b' (x.substG d c b e)

def E.occG (r : E) (d c : Nat) (b : Bool) : Bool :=
  match r with
  | .tmp t => t == d
  | .con _ => false
  | .un _ x => x.occG d c b
  | .bin _ x y | .snoc x y => x.occG d c b || y.occG d c b
  | .ite k x y => if isTmp k c then (if b then x.occ d else y.occ d) else k.occG d c b
  | .gd k b' x => if isTmp k c && b' == b then x.occ d else k.occG d c b

section
variable {ρ : Nat → Option Value} {h : View} {d c : Nat} {b : Bool} {e : E} {u : Value}

theorem isTmp_spec {k : E} (hk : isTmp k c = true) : k = .tmp c := by
  cases k <;> simp [isTmp] at hk
  subst hk; rfl

theorem ev_subst (hu : ev ρ h e = some u) : ∀ r : E, ev ρ h (r.subst d e) = ev (updF ρ d u) h r
  | .tmp t => by simp only [E.subst]; split <;> simp_all [ev, updF]
  | .con v => rfl
  | .un o x => by simp only [E.subst, ev, ev_subst hu x]
  | .bin o x y => by simp only [E.subst, ev, ev_subst hu x, ev_subst hu y]
  | .snoc x y => by simp only [E.subst, ev, ev_subst hu x, ev_subst hu y]
  | .ite k x y => by simp only [E.subst, ev, ev_subst hu k, ev_subst hu x, ev_subst hu y]
  | .gd k b x => by simp only [E.subst, ev, ev_subst hu k, ev_subst hu x]

theorem ev_substG (hu : ev ρ h (.gd (.tmp c) b e) = some u) (hcd : c ≠ d) (r : E) : ev ρ h (r.substG d c b e) = ev (updF ρ d u) h r := by
  have hρ : updF ρ d u c = ρ c := by simp [updF, hcd]
  induction r with
  | tmp t =>
    simp only [E.substG]; split
    · rename_i ht; rw [hu]; simp [ev, updF, ht]
    · rename_i ht; simp [ev, updF, ht]
  | con v => rfl
  | un o x ih => simp only [E.substG, ev, ih]
  | bin o x y ihx ihy => simp only [E.substG, ev, ihx, ihy]
  | snoc x y ihx ihy => simp only [E.substG, ev, ihx, ihy]
  | ite k x y ihk ihx ihy =>
    simp only [E.substG]
    split
    · rename_i hk
      obtain rfl := isTmp_spec hk
      split
      · rename_i hb
        simp only [ev, hρ]
        split
        · rename_i hc; simp only [ev, hc, hb, if_true] at hu; exact ev_subst hu x
        · exact ihy
        · rfl
      · rename_i hb
        simp only [ev, hρ]
        split
        · exact ihx
        · rename_i hc; simp only [ev, hc, hb] at hu; exact ev_subst hu y
        · rfl
    · simp only [ev, ihk, ihx, ihy]
  | gd k b' x ihk ihx =>
    simp only [E.substG]
    split
    · rename_i hk
      simp only [Bool.and_eq_true, beq_iff_eq] at hk
      obtain ⟨hk, hb'⟩ := hk
      obtain rfl := isTmp_spec hk
      simp only [ev, hρ, hb']
      split
      · rename_i hc
        split
        · rename_i hb; simp only [ev, hc, hb, if_true] at hu; exact ev_subst hu x
        · rfl
      · rename_i hc
        split
        · rfl
        · rename_i hb; simp only [ev, hc, hb] at hu; exact ev_subst hu x
      · rfl
      · rfl
    · simp only [ev, ihk, ihx]

theorem occ_ok : ∀ {r : E} {v : Value}, r.occ d = true → ev ρ h (r.subst d e) = some v → ∃ u, ev ρ h e = some u
  | .tmp t, v, ho, hv => by simp [E.occ] at ho; simp [E.subst, ho] at hv; exact ⟨v, hv⟩
  | .con _, _, ho, _ => by simp [E.occ] at ho
  | .un o x, v, ho, hv => by
    simp only [E.occ] at ho; simp only [E.subst] at hv
    obtain ⟨u, hu, _⟩ := ev_un hv; exact occ_ok ho hu
  | .bin o x y, v, ho, hv => by
    simp only [E.occ, Bool.or_eq_true] at ho; simp only [E.subst] at hv
    obtain ⟨u, u', hu, hu', _⟩ := ev_bin hv
    rcases ho with ho | ho
    · exact occ_ok ho hu
    · exact occ_ok ho hu'
  | .snoc x y, v, ho, hv => by
    simp only [E.occ, Bool.or_eq_true] at ho; simp only [E.subst, ev] at hv
    split at hv
    · rename_i hu hu'
      rcases ho with ho | ho
      · exact occ_ok ho hu
      · exact occ_ok ho hu'
    · cases hv
  | .ite k x y, v, ho, hv => by
    simp only [E.occ] at ho; simp only [E.subst, ev] at hv
    split at hv
    · rename_i hu; exact occ_ok ho hu
    · rename_i hu; exact occ_ok ho hu
    · cases hv
  | .gd k b x, v, ho, hv => by
    simp only [E.occ] at ho; simp only [E.subst, ev] at hv
    split at hv
    · rename_i hu; exact occ_ok ho hu
    · rename_i hu; exact occ_ok ho hu
    · rename_i hu; exact occ_ok ho hu
    · cases hv

theorem gd_true (hc : ρ c = some (.bool b)) : ev ρ h (.gd (.tmp c) b e) = ev ρ h e := by
  cases b <;> simp [ev, hc]

theorem occG_ok (hc : ρ c = some (.bool b)) : ∀ {r : E} {v : Value}, r.occG d c b = true → ev ρ h (r.substG d c b e) = some v → ∃ u, ev ρ h e = some u
  | .tmp t, v, ho, hv => by simp [E.occG] at ho; simp only [E.substG, ho, if_true, gd_true hc] at hv; exact ⟨v, hv⟩
  | .con _, _, ho, _ => by simp [E.occG] at ho
  | .un o x, v, ho, hv => by
    simp only [E.occG] at ho; simp only [E.substG] at hv
    obtain ⟨u, hu, _⟩ := ev_un hv; exact occG_ok hc ho hu
  | .bin o x y, v, ho, hv => by
    simp only [E.occG, Bool.or_eq_true] at ho; simp only [E.substG] at hv
    obtain ⟨u, u', hu, hu', _⟩ := ev_bin hv
    rcases ho with ho | ho
    · exact occG_ok hc ho hu
    · exact occG_ok hc ho hu'
  | .snoc x y, v, ho, hv => by
    simp only [E.occG, Bool.or_eq_true] at ho; simp only [E.substG, ev] at hv
    split at hv
    · rename_i hu hu'
      rcases ho with ho | ho
      · exact occG_ok hc ho hu
      · exact occG_ok hc ho hu'
    · cases hv
  | .ite k x y, v, ho, hv => by
    simp only [E.occG] at ho; simp only [E.substG] at hv
    split at ho
    · rename_i hk
      rw [if_pos hk] at hv
      obtain rfl := isTmp_spec hk
      cases b
      · simp only [Bool.false_eq_true, if_false] at ho hv
        simp only [ev, hc] at hv
        exact occ_ok ho hv
      · simp only [if_true] at ho hv
        simp only [ev, hc] at hv
        exact occ_ok ho hv
    · rename_i hk
      rw [if_neg hk] at hv
      simp only [ev] at hv
      split at hv
      · rename_i hu; exact occG_ok hc ho hu
      · rename_i hu; exact occG_ok hc ho hu
      · cases hv
  | .gd k b' x, v, ho, hv => by
    simp only [E.occG] at ho; simp only [E.substG] at hv
    split at ho
    · rename_i hk
      rw [if_pos hk] at hv
      simp only [Bool.and_eq_true, beq_iff_eq] at hk
      obtain ⟨hk, rfl⟩ := hk
      obtain rfl := isTmp_spec hk
      rw [gd_true hc] at hv
      exact occ_ok ho hv
    · rename_i hk
      rw [if_neg hk] at hv
      simp only [ev] at hv
      split at hv
      · rename_i hu; exact occG_ok hc ho hu
      · rename_i hu; exact occG_ok hc ho hu
      · rename_i hu; exact occG_ok hc ho hu
      · cases hv

/-- Where the guarded operation's temporary stands, the guard's own value is asked for. -/
theorem occG_cond (hcd : c ≠ d) : ∀ {r : E} {v : Value}, r.occG d c b = true → ev ρ h (r.substG d c b e) = some v → ∃ u, ev ρ h (.tmp c) = some u
  | .tmp t, v, ho, hv => by
    simp [E.occG] at ho; simp only [E.substG, ho, if_true] at hv
    cases hc : ρ c with
    | none => simp [ev, hc] at hv
    | some u => exact ⟨u, hc⟩
  | .con _, _, ho, _ => by simp [E.occG] at ho
  | .un o x, v, ho, hv => by
    simp only [E.occG] at ho; simp only [E.substG] at hv
    obtain ⟨u, hu, _⟩ := ev_un hv; exact occG_cond hcd ho hu
  | .bin o x y, v, ho, hv => by
    simp only [E.occG, Bool.or_eq_true] at ho; simp only [E.substG] at hv
    obtain ⟨u, u', hu, hu', _⟩ := ev_bin hv
    rcases ho with ho | ho
    · exact occG_cond hcd ho hu
    · exact occG_cond hcd ho hu'
  | .snoc x y, v, ho, hv => by
    simp only [E.occG, Bool.or_eq_true] at ho; simp only [E.substG, ev] at hv
    split at hv
    · rename_i hu hu'
      rcases ho with ho | ho
      · exact occG_cond hcd ho hu
      · exact occG_cond hcd ho hu'
    · cases hv
  | .ite k x y, v, ho, hv => by
    simp only [E.occG] at ho; simp only [E.substG] at hv
    split at ho
    · rename_i hk
      rw [if_pos hk] at hv
      obtain rfl := isTmp_spec hk
      cases hc : ρ c with
      | none => cases b <;> simp [ev, hc] at hv
      | some u => exact ⟨u, hc⟩
    · rename_i hk
      rw [if_neg hk] at hv
      simp only [ev] at hv
      split at hv
      · rename_i hu; exact occG_cond hcd ho hu
      · rename_i hu; exact occG_cond hcd ho hu
      · cases hv
  | .gd k b' x, v, ho, hv => by
    simp only [E.occG] at ho; simp only [E.substG] at hv
    split at ho
    · rename_i hk
      rw [if_pos hk] at hv
      simp only [Bool.and_eq_true, beq_iff_eq] at hk
      obtain ⟨hk, rfl⟩ := hk
      obtain rfl := isTmp_spec hk
      cases hc : ρ c with
      | none => simp [ev, hc] at hv
      | some u => exact ⟨u, hc⟩
    · rename_i hk
      rw [if_neg hk] at hv
      simp only [ev] at hv
      split at hv
      · rename_i hu; exact occG_cond hcd ho hu
      · rename_i hu; exact occG_cond hcd ho hu
      · rename_i hu; exact occG_cond hcd ho hu
      · cases hv

theorem evs_len : ∀ {l : List E} {vs : List Value}, evs ρ h l = some vs → vs.length = l.length
  | [], vs, hv => by simp [evs] at hv; subst hv; rfl
  | e :: l, vs, hv => by
    simp only [evs] at hv
    split at hv
    · rename_i hl; simp only [Option.some.injEq] at hv; subst hv; simp [evs_len hl]
    · cases hv

theorem evs_any {p : E → Bool} {f : E → E} (hp : ∀ r v, p r = true → ev ρ h (f r) = some v → ∃ u, ev ρ h e = some u) :
    ∀ {l : List E} {vs : List Value}, l.any p = true → evs ρ h (l.map f) = some vs → ∃ u, ev ρ h e = some u
  | [], _, ha, _ => by simp at ha
  | r :: l, vs, ha, hv => by
    simp only [List.map_cons, evs] at hv
    split at hv
    · rename_i h1 h2
      simp only [List.any_cons, Bool.or_eq_true] at ha
      rcases ha with ha | ha
      · exact hp _ _ ha h1
      · exact evs_any hp ha h2
    · cases hv

theorem evs_map {f : E → E} {ρ' : Nat → Option Value} (hf : ∀ r, ev ρ h (f r) = ev ρ' h r) : ∀ l : List E, evs ρ h (l.map f) = evs ρ' h l
  | [] => rfl
  | r :: l => by simp only [List.map_cons, evs, hf r, evs_map hf l]

theorem evs_append : ∀ {l m : List E} {vs : List Value}, evs ρ h (l ++ m) = some vs → ∃ us ws, evs ρ h l = some us ∧ evs ρ h m = some ws ∧ vs = us ++ ws
  | [], m, vs, hv => ⟨[], vs, rfl, hv, rfl⟩
  | e :: l, m, vs, hv => by
    simp only [List.cons_append, evs] at hv
    split at hv
    · rename_i v1 vs1 h1 h2
      simp only [Option.some.injEq] at hv
      subst hv
      obtain ⟨us, ws, hu, hw, rfl⟩ := evs_append h2
      exact ⟨v1 :: us, ws, by simp [evs, h1, hu], hw, rfl⟩
    · cases hv
end

/-- One operation, taken into the trees of what comes behind it. 'N': how many slots there are; 'ops0': the whole region. -/
def stepBack (P : Program) (N : Nat) (ops0 : Array Oper) (o : Oper) (r : List E) : Option (List E) :=
  match o.dst, opE P o.op with
  | some d, some e =>
    if d < N then
      match o.guard with
      | none => if r.any (·.occ d) then some (r.map (·.subst d e)) else some ((r ++ [E.tmp d]).map (fun x => x.subst d e))
      | some (j, b) => match (ops0[j]?).bind (·.dst) with
        | some c => if c = d then none else if r.any (·.occG d c b) then some (r.map (·.substG d c b e)) else some ((r ++ [E.tmp d]).map (fun x => x.substG d c b e))
        | none => none
    else none
  | _, _ => none

def back (P : Program) (N : Nat) (ops0 : Array Oper) : List Oper → List E → Option (List E)
  | [], r => some r
  | o :: rest, r => match back P N ops0 rest r with
    | some r1 => stepBack P N ops0 o r1
    | none => none

def isPure (P : Program) (o : Oper) : Bool := match opE P o.op with | some e => !e.reads | none => false

theorem isPure_spec {P : Program} {o : Oper} {e : E} (he : opE P o.op = some e) (hp : isPure P o = true) : e.reads = false := by
  simpa [isPure, he] using hp

/-- In state 'a', in every world that holds at least the part H, the operation leaves v in its temporary. -/
def YieldsH (P : Program) (ops0 : Array Oper) (H : View) (o : Oper) (v : Value) (a : Act) : Prop :=
  (Region.wanted o (yielded ops0 a.tmps) = true ∧ (∀ w : World, H.le (vw w.heap) → (execOp a.eval o).run P w = .ok (.value v) w) ∧ (isPure P o = true → ∀ w : World, (execOp a.eval o).run P w = .ok (.value v) w)) ∨
  (Region.wanted o (yielded ops0 a.tmps) = false ∧ v = undef)

/-- A run of such operations. -/
def QRun (P : Program) (ops0 : Array Oper) (H : View) : List Oper → Act → Act → Prop
  | [], a, a' => a' = a
  | o :: rest, a, a' => ∃ v, YieldsH P ops0 H o v a ∧ QRun P ops0 H rest (a.put o.dst v) a'

theorem slots_put {a : Act} {d : Nat} {v : Value} (hd : d < a.tmps.size) : slots (a.put (some d) v) = updF (slots a) d v := by
  funext t
  simp only [slots, Act.put, updF, Array.getElem?_setIfInBounds]
  split
  · rename_i h; subst h; simp
  · rename_i h; rw [if_neg (Ne.symm h)]

theorem stepBack_sound {P : Program} {N : Nat} {ops0 : Array Oper} {o : Oper} {r r' : List E} {H : View} {a : Act} {vs : List Value} (hN : a.tmps.size = N)
    (hb : stepBack P N ops0 o r = some r') (hv : evs (slots a) H r' = some vs) :
    ∃ u, YieldsH P ops0 H o u a ∧ (a.put o.dst u).tmps.size = N ∧ ∃ us ws, evs (slots (a.put o.dst u)) H r = some us ∧ vs = us ++ ws := by
  unfold stepBack at hb
  cases hd : o.dst with
  | none => simp [hd] at hb
  | some d =>
    cases he : opE P o.op with
    | none => simp [hd, he] at hb
    | some e =>
      simp only [hd, he] at hb
      split at hb
      case isFalse => cases hb
      rename_i hlt
      have hsz : ∀ u, (a.put (some d) u).tmps.size = N := fun u => by simp [Act.put, hN]
      have hput : ∀ u, slots (a.put (some d) u) = updF (slots a) d u := fun u => slots_put (by rw [hN]; exact hlt)
      cases hg : o.guard with
      | none =>
        simp only [hg] at hb
        have hw : Region.wanted o (yielded ops0 a.tmps) = true := by simp [Region.wanted, hg]
        have key : ∃ u, ev (slots a) H e = some u ∧ ∃ us ws, evs (updF (slots a) d u) H r = some us ∧ vs = us ++ ws := by
          split at hb
          · rename_i hany
            simp only [Option.some.injEq] at hb
            subst hb
            obtain ⟨u, hu⟩ := evs_any (e := e) (fun r v h1 h2 => occ_ok h1 h2) hany hv
            refine ⟨u, hu, vs, [], ?_, by simp⟩
            rw [evs_map (ev_subst hu)] at hv
            exact hv
          · simp only [Option.some.injEq] at hb
            subst hb
            obtain ⟨u, hu⟩ := evs_any (e := e) (p := (·.occ d)) (fun r v h1 h2 => occ_ok h1 h2) (by simp [E.occ]) hv
            rw [evs_map (ev_subst hu)] at hv
            obtain ⟨us, ws, h1, h2, h3⟩ := evs_append hv
            exact ⟨u, hu, us, ws, h1, h3⟩
        obtain ⟨u, hu, us, ws, h1, h2⟩ := key
        exact ⟨u, .inl ⟨hw, fun w hw' => opE_sound he (ev_mono hw' hu), fun hp w => opE_sound he (by rw [ev_pure (isPure_spec he hp) (h' := H)]; exact hu)⟩, hsz u, us, ws, by rw [hput]; exact h1, h2⟩
      | some jb =>
        obtain ⟨j, b⟩ := jb
        simp only [hg] at hb
        split at hb
        case h_2 => cases hb
        rename_i c hc
        split at hb
        case isTrue => cases hb
        rename_i hcd
        have hwanted : Region.wanted o (yielded ops0 a.tmps) = true ↔ slots a c = some (.bool b) := by
          simp only [Region.wanted, hg, yielded, hc, Option.bind_some, slots, beq_iff_eq]
          split
          · rename_i b' hb'; rw [hb']; simp
          · rename_i hne
            constructor
            · intro h; cases h
            · intro h; exact absurd h (hne b)
        have gval : ∀ v, ev (slots a) H (.gd (.tmp c) b e) = some v → YieldsH P ops0 H o v a := by
          intro v hv'
          by_cases hw : Region.wanted o (yielded ops0 a.tmps) = true
          · have h1 := hwanted.1 hw
            rw [gd_true h1] at hv'
            exact .inl ⟨hw, fun w hw' => opE_sound he (ev_mono hw' hv'), fun hp w => opE_sound he (by rw [ev_pure (isPure_spec he hp) (h' := H)]; exact hv')⟩
          · refine .inr ⟨by simpa using hw, ?_⟩
            have h1 : slots a c ≠ some (.bool b) := fun h => hw (hwanted.2 h)
            simp only [ev] at hv'
            split at hv'
            · rename_i hcc
              cases b
              · simpa using hv'.symm
              · exact absurd hcc h1
            · rename_i hcc
              cases b
              · exact absurd hcc h1
              · simpa using hv'.symm
            · simpa using hv'.symm
            · cases hv'
        have key : ∃ u, ev (slots a) H (.gd (.tmp c) b e) = some u ∧ ∃ us ws, evs (updF (slots a) d u) H r = some us ∧ vs = us ++ ws := by
          split at hb
          · rename_i hany
            simp only [Option.some.injEq] at hb
            subst hb
            by_cases hw : slots a c = some (.bool b)
            · obtain ⟨u, hu⟩ := evs_any (e := e) (fun r v h1 h2 => occG_ok hw h1 h2) hany hv
              have hu' : ev (slots a) H (.gd (.tmp c) b e) = some u := by rw [gd_true hw]; exact hu
              rw [evs_map (ev_substG hu' hcd)] at hv
              exact ⟨u, hu', vs, [], hv, by simp⟩
            · cases hcv : slots a c with
              | none =>
                -- the guard's own slot holds nothing: it lies beyond the frame
                exfalso
                obtain ⟨u, hu⟩ := evs_any (e := .tmp c) (p := (·.occG d c b)) (f := (·.substG d c b e)) (fun r v h1 h2 => occG_cond hcd h1 h2) hany hv
                simp only [ev] at hu
                rw [hcv] at hu
                cases hu
              | some cv =>
                have hu' : ev (slots a) H (.gd (.tmp c) b e) = some undef := by
                  simp only [ev, hcv]
                  split
                  · rename_i h1; simp only [Option.some.injEq] at h1; subst h1
                    cases b
                    · simp
                    · exact absurd hcv hw
                  · rename_i h1; simp only [Option.some.injEq] at h1; subst h1
                    cases b
                    · exact absurd hcv hw
                    · simp
                  · rfl
                  · rename_i h1; cases h1
                rw [evs_map (ev_substG hu' hcd)] at hv
                exact ⟨undef, hu', vs, [], hv, by simp⟩
          · simp only [Option.some.injEq] at hb
            subst hb
            rw [List.map_append] at hv
            obtain ⟨us, ws, h1, h2, h3⟩ := evs_append hv
            simp only [List.map_cons, List.map_nil, E.substG, if_true, evs] at h2
            split at h2
            · rename_i u _ hu _
              rw [evs_map (ev_substG hu hcd)] at h1
              exact ⟨u, hu, us, ws, h1, h3⟩
            · cases h2
        obtain ⟨u, hu, us, ws, h1, h2⟩ := key
        exact ⟨u, gval u hu, hsz u, us, ws, by rw [hput]; exact h1, h2⟩

end Go.Lft

/- Regions: their small language, its weakest preconditions over an environment of slots and a heap, and that the model's regions meet them. -/
namespace Go.Lft
open Go

/-- Which slots are known, and what they hold. -/
abbrev Env := List (Nat × Value)

def look : Env → Nat → Option Value
  | [], _ => none
  | (k, v) :: r, t => if k = t then some v else look r t

def setE (ρ : Env) (t : Nat) (v : Value) : Env :=
  match ρ with
  | [] => [(t, v)]
  | (k, u) :: r => if k = t then (t, v) :: r else if t < k then (t, v) :: (k, u) :: r else (k, u) :: setE r t v

def setsE (ρ : Env) : List (Nat × Value) → Env
  | [] => ρ
  | (t, v) :: r => setsE (setE ρ t v) r

def killE (ρ : Env) (ts : List Nat) : Env := ρ.filter fun p => !ts.contains p.1

def putE (ρ : Env) (dst : Option Nat) (keep : Bool) (v : Value) : Env :=
  match dst with
  | some d => if keep then setE ρ d v else killE ρ [d]
  | none => ρ

theorem look_setE (ρ : Env) (t : Nat) (v : Value) (s : Nat) : look (setE ρ t v) s = if t = s then some v else look ρ s := by
  induction ρ with
  | nil => simp [setE, look]
  | cons p r ih =>
    obtain ⟨k, u⟩ := p
    simp only [setE]
    split
    · rename_i h; subst h; simp only [look]; split <;> rfl
    · rename_i h
      split
      · simp only [look]
      · simp only [look, ih]
        by_cases h1 : k = s
        · subst h1; simp [Ne.symm h]
        · simp [h1]

theorem look_killE (ρ : Env) (ts : List Nat) (s : Nat) (v : Value) (h : look (killE ρ ts) s = some v) : s ∉ ts ∧ look ρ s = some v := by
  induction ρ with
  | nil => simp [killE, look] at h
  | cons p r ih =>
    obtain ⟨k, u⟩ := p
    simp only [killE, List.filter_cons] at h
    split at h
    · rename_i hk
      simp only [look] at h ⊢
      split at h
      · rename_i e
        subst e
        exact ⟨by simpa using hk, by simpa using h⟩
      · rename_i e
        have := ih h
        exact ⟨this.1, by rw [if_neg e]; exact this.2⟩
    · rename_i hk
      have := ih h
      refine ⟨this.1, ?_⟩
      simp only [look]
      split
      · rename_i e
        subst e
        exact absurd (by simpa using hk) this.1
      · exact this.2

theorem look_setsE : ∀ (vs : List (Nat × Value)) (ρ : Env) (s : Nat) (v : Value), look (setsE ρ vs) s = some v → (s, v) ∈ vs ∨ look ρ s = some v
  | [], _, _, _, h => .inr h
  | (t, u) :: r, ρ, s, v, h => by
    rcases look_setsE r (setE ρ t u) s v h with h2 | h2
    · exact .inl (List.mem_cons_of_mem _ h2)
    · rw [look_setE] at h2
      split at h2
      · rename_i e; cases h2; rw [← e]; exact .inl (List.mem_cons_self ..)
      · exact .inr h2

/-- A frame's slots hold what the environment says. -/
def Sat (ρ : Env) (a : Act) : Prop := ∀ t v, look ρ t = some v → a.tmps[t]? = some v

theorem ev_env {ρ ρ' : Nat → Option Value} {H : View} (hρ : ∀ t v, ρ t = some v → ρ' t = some v) : ∀ {e : E} {v : Value}, ev ρ H e = some v → ev ρ' H e = some v
  | .tmp t, v, h => hρ t v h
  | .con _, _, h => h
  | .un o x, v, h => by
    obtain ⟨u, hu, h⟩ := ev_un h
    simp only [ev, ev_env hρ hu]; exact h
  | .bin o x y, v, h => by
    obtain ⟨u, u', hu, hu', h⟩ := ev_bin h
    simp only [ev, ev_env hρ hu, ev_env hρ hu']; exact h
  | .snoc x y, v, h => by
    simp only [ev] at h ⊢
    split at h
    · rename_i u u' hu hu'; simp only [ev_env hρ hu, ev_env hρ hu']; exact h
    · cases h
  | .ite c x y, v, h => by
    simp only [ev] at h ⊢
    split at h
    · rename_i hu; simp only [ev_env hρ hu]; exact ev_env hρ h
    · rename_i hu; simp only [ev_env hρ hu]; exact ev_env hρ h
    · cases h
  | .gd c b x, v, h => by
    simp only [ev] at h ⊢
    split at h
    · rename_i hu; simp only [ev_env hρ hu]
      split at h
      · rename_i hb; simp only [hb, if_true]; exact ev_env hρ h
      · rename_i hb; simp only [hb]; exact h
    · rename_i hu; simp only [ev_env hρ hu]
      split at h
      · rename_i hb; simp only [hb, if_true]; exact h
      · rename_i hb; simp only [hb]; exact ev_env hρ h
    · rename_i u h1 h2 hu
      simp only [ev_env hρ hu]
      exact h
    · cases h

/-! ### Pairs of a slot and an expression -/

def evP (ρ : Nat → Option Value) (H : View) : List (Nat × E) → Option (List (Nat × Value))
  | [] => some []
  | (t, e) :: r => match ev ρ H e, evP ρ H r with
    | some v, some vs => some ((t, v) :: vs)
    | _, _ => none

def okE (ρ : Nat → Option Value) (H : View) : List E → Prop
  | [] => True
  | e :: r => (∃ v, ev ρ H e = some v) ∧ okE ρ H r

theorem evP_zip {ρ : Nat → Option Value} {H : View} : ∀ {ts : List Nat} {es : List E} {vs : List (Nat × Value)}, ts.length ≤ es.length → evP ρ H (ts.zip es) = some vs →
    evs ρ H (es.take ts.length) = some (vs.map (·.2)) ∧ vs.map (·.1) = ts
  | [], es, vs, _, h => by simp [evP] at h; subst h; simp [evs]
  | t :: ts, [], vs, hl, _ => by simp at hl
  | t :: ts, e :: es, vs, hl, h => by
    simp only [List.zip_cons_cons, evP] at h
    split at h
    · rename_i v vs' hv hvs
      simp only [Option.some.injEq] at h
      subst h
      obtain ⟨h1, h2⟩ := evP_zip (by simpa using hl) hvs
      simp [evs, hv, h1, h2]
    · cases h

theorem okE_evs {ρ : Nat → Option Value} {H : View} : ∀ {es : List E}, okE ρ H es → ∃ vs, evs ρ H es = some vs
  | [], _ => ⟨[], rfl⟩
  | e :: es, h => by
    obtain ⟨⟨v, hv⟩, h⟩ := h
    obtain ⟨vs, hvs⟩ := okE_evs h
    exact ⟨v :: vs, by simp [evs, hv, hvs]⟩

theorem evs_cat {ρ : Nat → Option Value} {H : View} : ∀ {l m : List E} {us ws : List Value}, evs ρ H l = some us → evs ρ H m = some ws → evs ρ H (l ++ m) = some (us ++ ws)
  | [], m, us, ws, h1, h2 => by simp [evs] at h1; subst h1; simpa using h2
  | e :: l, m, us, ws, h1, h2 => by
    simp only [evs] at h1
    split at h1
    · rename_i v vs hv hvs
      simp only [Option.some.injEq] at h1
      subst h1
      simp only [List.cons_append, evs, hv, evs_cat hvs h2]
    · cases h1

theorem evs_env {ρ ρ' : Nat → Option Value} {H : View} (hρ : ∀ t v, ρ t = some v → ρ' t = some v) : ∀ {l : List E} {us : List Value}, evs ρ H l = some us → evs ρ' H l = some us
  | [], us, h => h
  | e :: l, us, h => by
    simp only [evs] at h
    split at h
    · rename_i v vs hv hvs
      simp only [evs, ev_env hρ hv, evs_env hρ hvs]; exact h
    · cases h

theorem evs_tmps {a : Act} {H : View} : ∀ {ts : List Nat} {vs : List (Nat × Value)}, vs.map (·.1) = ts → evs (slots a) H (ts.map E.tmp) = some (vs.map (·.2)) → ∀ p ∈ vs, a.tmps[p.1]? = some p.2
  | [], vs, h, _, p, hp => by cases vs <;> simp at h; cases hp
  | t :: ts, [], h, _, p, hp => by cases hp
  | t :: ts, q :: vs, h, he, p, hp => by
    simp only [List.map_cons, List.cons.injEq] at h
    obtain ⟨h0, h⟩ := h
    simp only [List.map_cons, evs] at he
    split at he
    · rename_i v vs' hv hvs
      simp only [Option.some.injEq, List.cons.injEq] at he
      rcases List.mem_cons.1 hp with rfl | hp
      · simp only [ev, slots] at hv
        rw [h0, hv, he.1]
      · exact evs_tmps h (by rw [hvs, he.2]) p hp
    · cases he

theorem look_mem : ∀ {us : List (Nat × Value)} {t : Nat} {v : Value}, look us t = some v → (t, v) ∈ us
  | [], _, _, h => by simp [look] at h
  | (k, u) :: r, t, v, h => by
    simp only [look] at h
    split at h
    · rename_i e; subst e; simp only [Option.some.injEq] at h; subst h; exact List.mem_cons_self ..
    · exact List.mem_cons_of_mem _ (look_mem h)

theorem look_some : ∀ {us : List (Nat × Value)} {t : Nat}, t ∈ us.map (·.1) → ∃ v, look us t = some v
  | [], _, h => by simp at h
  | (k, u) :: r, t, h => by
    simp only [look]
    split
    · exact ⟨u, rfl⟩
    · rename_i e
      simp only [List.map_cons, List.mem_cons] at h
      rcases h with h | h
      · exact absurd h.symm e
      · exact look_some h

/-! ### A run of quiet operations -/

theorem back_len {P : Program} {N : Nat} {ops0 : Array Oper} : ∀ {qs : List Oper} {r r' : List E}, back P N ops0 qs r = some r' → r.length ≤ r'.length
  | [], r, r', h => by simp [back] at h; subst h; exact Nat.le_refl _
  | o :: qs, r, r', h => by
    simp only [back] at h
    split at h
    · rename_i r1 h1
      have := back_len h1
      refine Nat.le_trans this ?_
      unfold stepBack at h
      repeat' (split at h)
      all_goals first
        | (simp only [Option.some.injEq] at h; subst h; simp)
        | cases h
    · cases h

theorem back_sound {P : Program} {N : Nat} {ops0 : Array Oper} {H : View} : ∀ {qs : List Oper} {r r' : List E} {a : Act} {vs : List Value},
    back P N ops0 qs r = some r' → a.tmps.size = N → evs (slots a) H r' = some vs →
    ∃ a', QRun P ops0 H qs a a' ∧ a'.tmps.size = N ∧ a'.defers = a.defers ∧ (∀ t, (∀ o ∈ qs, o.dst ≠ some t) → a'.tmps[t]? = a.tmps[t]?) ∧
      ∃ us ws, evs (slots a') H r = some us ∧ vs = us ++ ws
  | [], r, r', a, vs, h, hN, hv => by
    simp [back] at h; subst h
    exact ⟨a, rfl, hN, rfl, fun _ _ => rfl, vs, [], hv, by simp⟩
  | o :: qs, r, r', a, vs, h, hN, hv => by
    simp only [back] at h
    split at h
    · rename_i r1 h1
      obtain ⟨u, hy, hsz, us, ws, hus, rfl⟩ := stepBack_sound hN h hv
      obtain ⟨a', hq, hsz', hd, hfr, us', ws', hus', rfl⟩ := back_sound h1 hsz hus
      refine ⟨a', ⟨u, hy, hq⟩, hsz', ?_, ?_, us', ws' ++ ws, hus', by simp⟩
      · rw [hd]; cases o.dst <;> rfl
      · intro t ht
        rw [hfr t (fun o' ho' => ht o' (List.mem_cons_of_mem _ ho'))]
        have := ht o (List.mem_cons_self ..)
        cases hdst : o.dst with
        | none => rfl
        | some d =>
          have hne : d ≠ t := fun e => this (by rw [hdst, e])
          simp [Act.put, Array.getElem?_setIfInBounds_ne hne]
    · cases h

def dstsOf (qs : List Oper) : List Nat := qs.filterMap (·.dst)

/-- THE SHARED STEP: the trees of some slots, as they come to stand behind a run of quiet operations; slots and checks together. -/
theorem node_sound {P : Program} {N : Nat} {ops0 : Array Oper} {H : View} {qs : List Oper} {ts : List Nat} {es : List E} {ρ : Env} {a : Act} {us : List (Nat × Value)}
    (hb : back P N ops0 qs (ts.map E.tmp) = some es) (hN : a.tmps.size = N) (hρ : Sat ρ a) (hv : evP (look ρ) H (ts.zip es) = some us) (hc : okE (look ρ) H (es.drop ts.length)) :
    ∃ a', QRun P ops0 H qs a a' ∧ a'.tmps.size = N ∧ a'.defers = a.defers ∧ Sat (killE ρ (dstsOf qs)) a' ∧ (∀ p ∈ us, a'.tmps[p.1]? = some p.2) := by
  have hl : ts.length ≤ es.length := by simpa using back_len hb
  obtain ⟨h1, h2⟩ := evP_zip hl hv
  obtain ⟨ws, h3⟩ := okE_evs hc
  have h4 := evs_cat h1 h3
  rw [List.take_append_drop] at h4
  have hs : ∀ t v, look ρ t = some v → slots a t = some v := fun t v h => hρ t v h
  obtain ⟨a', hq, hsz, hd, hfr, us', ws', hus, he⟩ := back_sound hb hN (evs_env hs h4)
  refine ⟨a', hq, hsz, hd, ?_, ?_⟩
  · intro t v h
    obtain ⟨hk, hl⟩ := look_killE _ _ _ _ h
    rw [hfr t (fun o ho hdst => hk (List.mem_filterMap.2 ⟨o, ho, hdst⟩))]
    exact hρ t v hl
  · have e1 : us' = us.map (·.2) := by
      have hlen : us'.length = (us.map (·.2)).length := by
        have := evs_len hus
        rw [this]; simp [← h2]
      have := congrArg (List.take us'.length) he
      rw [List.take_left, hlen, List.take_left] at this
      exact this.symm
    rw [e1] at hus
    exact evs_tmps h2 hus

theorem sat_sets {ρ : Env} {a : Act} {vs : List (Nat × Value)} (h : Sat ρ a) (hv : ∀ p ∈ vs, a.tmps[p.1]? = some p.2) : Sat (setsE ρ vs) a := by
  intro t v hl
  rcases look_setsE vs ρ t v hl with h1 | h1
  · exact hv _ h1
  · exact h t v h1

theorem sat_kill {ρ : Env} {a : Act} {ts : List Nat} (h : Sat ρ a) : Sat (killE ρ ts) a := fun t v hl => h t v (look_killE _ _ _ _ hl).2

theorem sat_put {ρ : Env} {a : Act} {dst : Option Nat} {keep : Bool} {v : Value} (h : Sat ρ a) (hd : ∀ d, dst = some d → d < a.tmps.size) : Sat (putE ρ dst keep v) (a.put dst v) := by
  cases dst with
  | none => exact h
  | some d =>
    have hsz := hd d rfl
    intro t u hl
    simp only [putE] at hl
    split at hl
    · rw [look_setE] at hl
      split at hl
      · rename_i e; subst e; simp only [Option.some.injEq] at hl; subst hl; simp [Act.put, hsz]
      · rename_i e; simp only [Act.put, Array.getElem?_setIfInBounds_ne e]; exact h t u hl
    · obtain ⟨h1, h2⟩ := look_killE _ _ _ _ hl
      have hne : d ≠ t := fun e => h1 (by simp [e])
      simp only [Act.put, Array.getElem?_setIfInBounds_ne hne]; exact h t u h2

/-! ### Loud operations -/

def Fw (r : Option Nat) : Fence := { Fence.wide with round := r }

structure Same (w w' : World) : Prop where
  os : w'.os = w.os
  output : w'.output = w.output
  tape : w'.tape = w.tape
  size : w.heap.size ≤ w'.heap.size
  defs : ∀ b : Nat, w.heap[b]? = some (.deferred (some [])) → w'.heap[b]? = some (.deferred (some []))

theorem Same.refl (w : World) : Same w w := ⟨rfl, rfl, rfl, Nat.le_refl _, fun _ h => h⟩
theorem Same.trans {a b c : World} (h : Same a b) (k : Same b c) : Same a c := ⟨k.os.trans h.os, k.output.trans h.output, k.tape.trans h.tape, Nat.le_trans h.size k.size, fun i e => k.defs i (h.defs i e)⟩
theorem Same.drawn {w : World} {n : Nat} : Same w { w with drawn := n } := ⟨rfl, rfl, rfl, Nat.le_refl _, fun _ h => h⟩
/-- Old blocks but one, which is none for deferred calls, stand. -/
theorem Same.of_row {w w' : World} (h1 : w'.os = w.os) (h2 : w'.output = w.output) (h3 : w'.tape = w.tape) (hs : w.heap.size ≤ w'.heap.size) {g : Nat} {o : Obj} (hg : w.heap[g]? = some o) (ho : o ≠ .deferred (some []))
    (hk : ∀ k, k < w.heap.size → k ≠ g → w'.heap[k]? = w.heap[k]?) : Same w w' :=
  ⟨h1, h2, h3, hs, fun b hb => by
    have hne : b ≠ g := fun e => by rw [e, hg] at hb; exact ho (Option.some.inj hb)
    rw [hk b (Array.getElem?_eq_some_iff.1 hb).1 hne]; exact hb⟩
theorem Same.of_all {w w' : World} (h1 : w'.os = w.os) (h2 : w'.output = w.output) (h3 : w'.tape = w.tape) (hs : w.heap.size ≤ w'.heap.size)
    (hk : ∀ k, k < w.heap.size → w'.heap[k]? = w.heap[k]?) : Same w w' :=
  ⟨h1, h2, h3, hs, fun b hb => by rw [hk b (Array.getElem?_eq_some_iff.1 hb).1]; exact hb⟩

/-- What holds where an operation panics. -/
class OP where
  op : List PanicEntry → Heap → Prop
/-- What holds where a body panics. -/
class PP where
  kp : List PanicEntry → Heap → Prop
  /-- What stands in the slots wherever it may. -/
  fx : Env → Prop
/-- It never does. -/
instance (priority := low) noPP : PP := ⟨fun _ _ => False, fun _ => True⟩
instance (priority := low) noOP : OP := ⟨fun _ _ => False⟩

/-- Whatever the world beside the heap, the act hands a value and a heap to K, or panics as told; it never fails. -/
def RunsTo [po : OP] (P : Program) (s : Sem Next) (h : Heap) (K : Value → Heap → Prop) : Prop :=
  ∀ w : World, w.heap = h → ∀ (r : Option Nat) (o : Oper) (a : Act) (K' : Act → World → Prop) (Q' : Exit → Act → World → Prop),
    (∀ v w', K v w'.heap → Same w w' → K' (a.put o.dst v) w') → (∀ ch w', po.op ch w'.heap → Same w w' → Q' (.panic ch) a w') → o.uponIn (Fw r) 0 P a K' Q' (s.run P w)

def asg (us : List (Nat × Value)) : Operand → Value
  | .tmp t => (look us t).getD undef
  | .const v => v
  | .global g => .pointer (some ⟨g, 0, none⟩)
  | .func f => .func (.func f) #[] #[]

def loudSem (op : Op) (ty : TypeId) (us : List (Nat × Value)) : Sem Next := execOp (asg us) { dst := none, op, type := ty, pos := "", after := #[], guard := none }

def plainOp : Op → Bool
  | .select .. | .defer _ => false
  | _ => true

def tmpsOf (o : Oper) : List Nat := o.op.operands.toList.filterMap fun | .tmp t => some t | _ => none

theorem loud_eq {o : Oper} {a : Act} {us : List (Nat × Value)} (hp : plainOp o.op = true) (ht : us.map (·.1) = tmpsOf o) (hv : ∀ p ∈ us, a.tmps[p.1]? = some p.2) :
    execOp a.eval o = loudSem o.op o.type us := by
  have h1 : ∀ x ∈ o.op.operands, a.eval x = asg us x := by
    intro x hx
    cases x with
    | tmp t =>
      have hm : t ∈ us.map (·.1) := by rw [ht]; exact List.mem_filterMap.2 ⟨.tmp t, by simpa using hx, rfl⟩
      obtain ⟨v, hl⟩ := look_some hm
      have := hv _ (look_mem hl)
      simp only at this
      simp [asg, hl, Act.eval, this]
    | const v => rfl
    | global g => rfl
    | func f => rfl
  rw [execOp_congr o (by intro cs b e; simp [plainOp, e] at hp) h1]
  rfl

theorem loud_wpIn {po : OP} {P : Program} {o : Oper} {a : Act} {us : List (Nat × Value)} {w : World} {r : Option Nat} {K : Value → Heap → Prop} {K' : Act → World → Prop} {Q' : Exit → Act → World → Prop}
    (hp : plainOp o.op = true) (ht : us.map (·.1) = tmpsOf o) (hv : ∀ p ∈ us, a.tmps[p.1]? = some p.2) (hr : RunsTo P (loudSem o.op o.type us) w.heap K)
    (hK : ∀ v w', K v w'.heap → Same w w' → K' (a.put o.dst v) w') (hQ : ∀ ch w', po.op ch w'.heap → Same w w' → Q' (.panic ch) a w') : o.wpIn (Fw r) 0 P a w K' Q' := by
  refine ⟨fun _ _ => trivial, ?_⟩
  rw [Oper.semAt_eq _ _ _ (by intro c e; simp [plainOp, e] at hp), loud_eq hp ht hv]
  exact hr w rfl r o a K' Q' hK hQ

/-! ### The language of regions -/

inductive Reg where
  | fin (kill : List Nat) (sets : List (Nat × E)) (chk : List E)
  | loud (kill : List Nat) (sets args : List (Nat × E)) (grd : Option (E × Bool)) (chk : List E) (tail : Bool) (op : Op) (ty : TypeId) (dst : Option Nat) (keep : Bool) (next : Reg)
  | both (x y : Reg)
  deriving Inhabited

/-- Which part of the heap expressions are read over: all of it as it is, or a part that stays. -/
def part (m : Option View) (h : Heap) : View := m.getD (vw h)
def keeps (m : Option View) (h : Heap) : Prop := ∀ H, m = some H → H.le (vw h)
def nothing : View := fun _ => none

/-- Where an operation of a region panics: in text order, as the body does; in a drawn order, so too where nothing is asked of the slots. -/
abbrev opAt [pp : PP] (m : Option View) : OP := ⟨fun ch h => (m.isNone = true ∨ ∀ ρ, pp.fx ρ) ∧ pp.kp ch h⟩
/-- What holds where a drawn region panics. -/
abbrev ppD (pp : PP) : PP := ⟨fun ch h => (∀ ρ, pp.fx ρ) ∧ pp.kp ch h, fun _ => True⟩

def regWp [pp : PP] (P : Program) (m : Option View) (r : Reg) (Q : Env → Heap → Prop) (ρ : Env) (h : Heap) : Prop :=
  match r with
  | .fin kill sets chk => ∃ vs, evP (look ρ) (part m h) sets = some vs ∧ okE (look ρ) (part m h) chk ∧ Q (setsE (killE ρ kill) vs) h
  | .loud kill sets args grd chk tail op ty dst keep next =>
    ∃ vs us, evP (look ρ) (part m h) sets = some vs ∧ evP (look ρ) (part m h) args = some us ∧ okE (look ρ) (part m h) chk ∧ pp.fx (setsE (killE ρ kill) vs) ∧
      match grd with
      | none => @RunsTo (opAt m) P (loudSem op ty us) h fun v h' => keeps (if tail then none else m) h' ∧ regWp P (if tail then m.map (fun _ => nothing) else m) next Q (putE (setsE (killE ρ kill) vs) dst keep v) h'
      | some (g, b) => ∃ gv, ev (look ρ) (part m h) g = some gv ∧
        (gv = .bool b → @RunsTo (opAt m) P (loudSem op ty us) h fun v h' => keeps (if tail then none else m) h' ∧ regWp P (if tail then m.map (fun _ => nothing) else m) next Q (putE (setsE (killE ρ kill) vs) dst keep v) h') ∧
        (gv ≠ .bool b → regWp P (if tail then m.map (fun _ => nothing) else m) next Q (putE (setsE (killE ρ kill) vs) dst keep undef) h)
  | .both x y => regWp P m x Q ρ h ∧ regWp P m y Q ρ h

/-! ### The lifter -/

def guardTmp (ops0 : Array Oper) (o : Oper) : Option Nat :=
  match o.guard with
  | some (j, _) => (ops0[j]?).bind (·.dst)
  | none => none

def usesOf (ops0 : Array Oper) (l : List Oper) : List Nat := l.flatMap fun o => tmpsOf o ++ (guardTmp ops0 o).toList

def dstOk (N : Nat) : Option Nat → Bool
  | some d => decide (d < N)
  | none => true

def mkFin (P : Program) (N : Nat) (ops0 : Array Oper) (live : List Nat) (qs : List Oper) : Option Reg :=
  let outs := (dstsOf qs).filter live.contains
  match back P N ops0 qs (outs.map E.tmp) with
  | some es => some (.fin (dstsOf qs) (outs.zip es) (es.drop outs.length))
  | none => none

def mkLoud (P : Program) (N : Nat) (ops0 : Array Oper) (live : List Nat) (qs : List Oper) (o : Oper) (rest : List Oper) (tail : Bool) (next : Reg) : Option Reg :=
  let need := live ++ usesOf ops0 rest
  let outs := (dstsOf qs).filter need.contains
  let args := tmpsOf o
  let keep := match o.dst with | some d => need.contains d | none => false
  if plainOp o.op && dstOk N o.dst then
    match o.guard with
    | none =>
      match back P N ops0 qs ((outs ++ args).map E.tmp) with
      | some es => some (.loud (dstsOf qs) (outs.zip es) (args.zip (es.drop outs.length)) none (es.drop (outs ++ args).length) tail o.op o.type o.dst keep next)
      | none => none
    | some (j, b) =>
      match (ops0[j]?).bind (·.dst) with
      | some c =>
        match back P N ops0 qs ((outs ++ args ++ [c]).map E.tmp) with
        | some es => match es.drop (outs ++ args).length with
          | g :: chk => some (.loud (dstsOf qs) (outs.zip es) (args.zip (es.drop outs.length)) (some (g, b)) chk tail o.op o.type o.dst keep next)
          | [] => none
        | none => none
      | none => none
  else none

def isQ (P : Program) (o : Oper) : Bool := (opE P o.op).isSome && o.dst.isSome

/-- A region whose order is that of the text. -/
def regU (P : Program) (N : Nat) (ops0 : Array Oper) (live : List Nat) : Nat → List Oper → Option Reg
  | 0, _ => none
  | f + 1, ops =>
    let qs := ops.takeWhile (isQ P)
    match ops.dropWhile (isQ P) with
    | [] => mkFin P N ops0 live qs
    | o :: rest => match regU P N ops0 live f rest with
      | some next => mkLoud P N ops0 live qs o rest false next
      | none => none

theorem evP_split {ρ : Nat → Option Value} {H : View} : ∀ {ts ss : List Nat} {es : List E} {us vs : List (Nat × Value)}, ts.length ≤ es.length →
    evP ρ H (ts.zip es) = some us → evP ρ H (ss.zip (es.drop ts.length)) = some vs → evP ρ H ((ts ++ ss).zip es) = some (us ++ vs)
  | [], ss, es, us, vs, _, h1, h2 => by simp [evP] at h1; subst h1; simpa using h2
  | t :: ts, ss, [], us, vs, hl, _, _ => by simp at hl
  | t :: ts, ss, e :: es, us, vs, hl, h1, h2 => by
    simp only [List.zip_cons_cons, evP] at h1
    split at h1
    · rename_i v vs' hv hvs
      simp only [Option.some.injEq] at h1
      subst h1
      simp only [List.cons_append, List.zip_cons_cons, evP, hv, evP_split (by simpa using hl) hvs (by simpa using h2)]
    · cases h1

theorem evP_keys {ρ : Nat → Option Value} {H : View} {ts : List Nat} {es : List E} {us : List (Nat × Value)} (hl : ts.length ≤ es.length) (h : evP ρ H (ts.zip es) = some us) : us.map (·.1) = ts := (evP_zip hl h).2

/-- What a node of the lifter's make gives: the run of its quiet operations; its slots; its operation's operands; its guard. -/
theorem mkLoud_sound {pp : PP} {P : Program} {N : Nat} {ops0 : Array Oper} {live : List Nat} {qs rest : List Oper} {o : Oper} {tail : Bool} {next R : Reg} (hR : mkLoud P N ops0 live qs o rest tail next = some R)
    {m : Option View} {Q : Env → Heap → Prop} {ρ : Env} {h : Heap} {a : Act} (hN : a.tmps.size = N) (hρ : Sat ρ a) (hw : regWp P m R Q ρ h) :
    plainOp o.op = true ∧ (∀ d, o.dst = some d → d < N) ∧ ∃ a' ρ' us keep, QRun P ops0 (part m h) qs a a' ∧ a'.tmps.size = N ∧ a'.defers = a.defers ∧ Sat ρ' a' ∧ us.map (·.1) = tmpsOf o ∧ (∀ p ∈ us, a'.tmps[p.1]? = some p.2) ∧
      pp.fx ρ' ∧ (Region.wanted o (yielded ops0 a'.tmps) = true → @RunsTo (opAt m) P (loudSem o.op o.type us) h fun v h' => keeps (if tail then none else m) h' ∧ regWp P (if tail then m.map (fun _ => nothing) else m) next Q (putE ρ' o.dst keep v) h') ∧
      (Region.wanted o (yielded ops0 a'.tmps) = false → regWp P (if tail then m.map (fun _ => nothing) else m) next Q (putE ρ' o.dst keep undef) h) := by
  unfold mkLoud at hR
  simp only at hR
  split at hR
  case isFalse => cases hR
  rename_i hpd
  simp only [Bool.and_eq_true] at hpd
  refine ⟨hpd.1, ?_, ?_⟩
  · intro d hd
    have := hpd.2
    simpa [hd, dstOk] using this
  generalize ho : (dstsOf qs).filter (live ++ usesOf ops0 rest).contains = outs at hR
  cases hg : o.guard with
  | none =>
    simp only [hg] at hR
    split at hR
    case h_2 => cases hR
    rename_i es hb
    simp only [Option.some.injEq] at hR
    subst hR
    simp only [regWp] at hw
    obtain ⟨vs, us, h1, h2, h3, hfx, h4⟩ := hw
    have hl : (outs ++ tmpsOf o).length ≤ es.length := by simpa using back_len hb
    have hl1 : outs.length ≤ es.length := by simp at hl; omega
    obtain ⟨a', hq, hsz, hd, hs, hp⟩ := node_sound hb hN hρ (evP_split hl1 h1 h2) h3
    refine ⟨a', _, us, _, hq, hsz, hd, sat_sets hs (fun p hp' => hp p (List.mem_append_left _ hp')), evP_keys (by simp at hl ⊢; omega) h2, fun p hp' => hp p (List.mem_append_right _ hp'), hfx, fun _ => h4, fun hw => ?_⟩
    simp [Region.wanted, hg] at hw
  | some jb =>
    obtain ⟨j, b⟩ := jb
    simp only [hg] at hR
    split at hR
    case h_2 => cases hR
    rename_i c hc
    split at hR
    case h_2 => cases hR
    rename_i es hb
    split at hR
    case h_2 => cases hR
    rename_i g chk hge
    simp only [Option.some.injEq] at hR
    subst hR
    simp only [regWp] at hw
    obtain ⟨vs, us, h1, h2, h3, hfx, gv, h4, h5, h6⟩ := hw
    have hl : (outs ++ tmpsOf o ++ [c]).length ≤ es.length := by simpa using back_len hb
    have hl1 : outs.length ≤ es.length := by simp at hl; omega
    have hl2 : (outs ++ tmpsOf o).length ≤ es.length := by simp at hl ⊢; omega
    have e1 : evP (look ρ) (part m h) ([c].zip (es.drop (outs ++ tmpsOf o).length)) = some [(c, gv)] := by
      rw [hge]; simp [evP, h4]
    have e2 : okE (look ρ) (part m h) (es.drop (outs ++ tmpsOf o ++ [c]).length) := by
      have : es.drop (outs ++ tmpsOf o ++ [c]).length = (es.drop (outs ++ tmpsOf o).length).drop 1 := by
        rw [List.drop_drop, show (outs ++ tmpsOf o ++ [c]).length = (outs ++ tmpsOf o).length + 1 from by rw [List.length_append]; rfl]
      rw [this, hge]; exact h3
    obtain ⟨a', hq, hsz, hd, hs, hp⟩ := node_sound hb hN hρ (evP_split hl2 (evP_split hl1 h1 h2) e1) e2
    have hcv : a'.tmps[c]? = some gv := hp (c, gv) (by simp)
    have hwant : Region.wanted o (yielded ops0 a'.tmps) = true ↔ gv = .bool b := by
      simp only [Region.wanted, hg, yielded, hc, Option.bind_some, hcv, beq_iff_eq]
      cases gv <;> simp
    refine ⟨a', _, us, _, hq, hsz, hd, sat_sets hs (fun p hp' => hp p (by simp [hp'])), evP_keys (by simp at hl ⊢; omega) h2, fun p hp' => hp p (by simp [hp']), hfx, fun hw => h5 (hwant.1 hw), fun hw => h6 ?_⟩
    intro e
    rw [hwant.2 e] at hw
    cases hw

theorem mkFin_sound {pp : PP} {P : Program} {N : Nat} {ops0 : Array Oper} {live : List Nat} {qs : List Oper} {R : Reg} (hR : mkFin P N ops0 live qs = some R)
    {m : Option View} {Q : Env → Heap → Prop} {ρ : Env} {h : Heap} {a : Act} (hN : a.tmps.size = N) (hρ : Sat ρ a) (hw : regWp P m R Q ρ h) :
    ∃ a' ρ', QRun P ops0 (part m h) qs a a' ∧ a'.tmps.size = N ∧ a'.defers = a.defers ∧ Sat ρ' a' ∧ Q ρ' h := by
  unfold mkFin at hR
  simp only at hR
  split at hR
  case h_2 => cases hR
  rename_i es hb
  simp only [Option.some.injEq] at hR
  subst hR
  simp only [regWp] at hw
  obtain ⟨vs, h1, h2, h3⟩ := hw
  obtain ⟨a', hq, hsz, hd, hs, hp⟩ := node_sound hb hN hρ h1 h2
  exact ⟨a', _, hq, hsz, hd, sat_sets hs hp, h3⟩

/-- What holds behind a region: normally, the environment, the heap. -/
def RegPost [pp : PP] (N : Nat) (D : List Deferred) (w : World) (Q : Env → Heap → Prop) : Exit → Act → World → Prop
  | .normal, a, w' => ∃ ρ, Sat ρ a ∧ a.tmps.size = N ∧ a.defers = D ∧ Q ρ w'.heap ∧ Same w w'
  | .panic ch, a, w' => ∃ ρ, Sat ρ a ∧ a.tmps.size = N ∧ a.defers = D ∧ (pp.fx ρ ∧ pp.kp ch w'.heap) ∧ Same w w'
  | _, _, _ => False

theorem opE_plain {P : Program} {op : Op} {e : E} (h : opE P op = some e) : plainOp op = true := by
  cases op <;> first | rfl | simp [opE] at h

theorem qrun_list {P : Program} {r : Option Nat} {ops0 : Array Oper} {H : View} {w : World} (hw : H.le (vw w.heap)) {Q : Exit → Act → World → Prop} {rest : List Oper} :
    ∀ {qs : List Oper} {a a' : Act}, (∀ o ∈ qs, isQ P o = true) → QRun P ops0 H qs a a' → wpListIn (Fw r) 0 P ops0 Q rest a' w → wpListIn (Fw r) 0 P ops0 Q (qs ++ rest) a w
  | [], a, a', _, hq, h => by
    simp only [QRun] at hq; subst hq; exact h
  | o :: qs, a, a', hall, hq, h => by
    obtain ⟨v, hy, hq⟩ := hq
    have ih := qrun_list hw (fun o' ho' => hall o' (List.mem_cons_of_mem _ ho')) hq h
    have hpl : plainOp o.op = true := by
      have := hall o (List.mem_cons_self ..)
      simp only [isQ, Bool.and_eq_true, Option.isSome_iff_exists] at this
      obtain ⟨⟨e, he⟩, _⟩ := this
      exact opE_plain he
    simp only [List.cons_append, wpListIn]
    rcases hy with ⟨hwt, hrun, _⟩ | ⟨hwt, rfl⟩
    · rw [if_pos hwt]
      refine ⟨fun _ _ => trivial, ?_⟩
      rw [Oper.semAt_eq _ _ _ (by intro c e; simp [plainOp, e] at hpl), hrun w hw]
      exact ih
    · rw [if_neg (by simp [hwt])]
      exact ⟨fun _ _ => trivial, ih⟩

theorem takeWhile_all {α : Type} (p : α → Bool) : ∀ (l : List α), ∀ x ∈ l.takeWhile p, p x = true
  | [], _, h => by simp at h
  | y :: l, x, h => by
    simp only [List.takeWhile_cons] at h
    split at h
    · rename_i hy
      rcases List.mem_cons.1 h with rfl | h
      · exact hy
      · exact takeWhile_all p l x h
    · cases h

theorem regU_sound {pp : PP} {P : Program} {N : Nat} {ops0 : Array Oper} {live : List Nat} {r : Option Nat} {Q : Env → Heap → Prop} {D : List Deferred} {w0 : World} :
    ∀ (f : Nat) {ops : List Oper} {R : Reg} {ρ : Env} {a : Act} {w : World}, regU P N ops0 live f ops = some R → a.tmps.size = N → a.defers = D → Sat ρ a → Same w0 w → regWp P none R Q ρ w.heap →
      wpListIn (Fw r) 0 P ops0 (RegPost N D w0 Q) ops a w
  | 0, _, _, _, _, _, h, _, _, _, _, _ => by simp [regU] at h
  | f + 1, ops, R, ρ, a, w, hR, hN, hD, hρ, hS, hw => by
    simp only [regU] at hR
    have hsplit := List.takeWhile_append_dropWhile (p := isQ P) (l := ops)
    have hall : ∀ o ∈ ops.takeWhile (isQ P), isQ P o = true := takeWhile_all _ _
    cases hrest : ops.dropWhile (isQ P) with
    | nil =>
      simp only [hrest] at hR
      obtain ⟨a', ρ', hq, hsz, hd, hs, hQ⟩ := mkFin_sound hR hN hρ hw
      rw [hrest] at hsplit
      rw [← hsplit]
      exact qrun_list (H := vw w.heap) (View.le_refl _) hall hq ⟨ρ', hs, hsz, hd.trans hD, hQ, hS⟩
    | cons o rest =>
      simp only [hrest] at hR
      split at hR
      case h_2 => cases hR
      rename_i next hnext
      obtain ⟨hp, hdst, a', ρ', us, keep, hq, hsz, hd, hs, hk, hv, hfx, h1, h2⟩ := mkLoud_sound hR hN hρ hw
      rw [hrest] at hsplit
      rw [← hsplit]
      refine qrun_list (H := vw w.heap) (View.le_refl _) hall hq ?_
      have hput : ∀ v, (a'.put o.dst v).tmps.size = N := fun v => by cases o.dst <;> simp [Act.put, hsz]
      have hdef : ∀ v, (a'.put o.dst v).defers = D := fun v => by cases ho : o.dst <;> simp [Act.put, hd, hD]
      have hsat : ∀ v, Sat (putE ρ' o.dst keep v) (a'.put o.dst v) := fun v => sat_put hs (fun d hd => by rw [hsz]; exact hdst d hd)
      simp only [wpListIn]
      split
      · rename_i hwt
        exact loud_wpIn hp hk hv (h1 hwt) (fun v w' ⟨_, hreg⟩ hsame => regU_sound f hnext (hput v) (hdef v) (hsat v) (hS.trans hsame) hreg) fun ch w' hc hsame => ⟨ρ', hs, hsz, hd.trans hD, ⟨hfx, hc.2⟩, hS.trans hsame⟩
      · rename_i hwt
        exact ⟨fun _ _ => trivial, regU_sound f hnext (hput _) (hdef _) (hsat _) hS (h2 (by simpa using hwt))⟩

end Go.Lft

/- Regions whose order is drawn: whatever order, one walk for each order of the loud operations; what is read stands in a part of the heap that they leave alone. -/
namespace Go.Lft
open Go

section
variable {P : Program} {ops : Array Oper} {r : Option Nat} {Q : Exit → Act → World → Prop} {G : Array Bool → World → Prop}

abbrev rdy (ops : Array Oper) (listed : Array Bool) : List Nat := Region.ready .any ops listed

def anyG (P : Program) (r : Option Nat) (ops : Array Oper) (Q : Exit → Act → World → Prop) (G : Array Bool → World → Prop) : Nat → Array Bool → Act → World → Prop
  | 0, listed, a, w => G listed w ∧ rdy ops listed = [] ∧ Q .normal a w
  | f + 1, listed, a, w => G listed w ∧ (rdy ops listed = [] → Q .normal a w) ∧ ∀ i ∈ rdy ops listed, wpOpIn (Fw r) 0 P ops Q i (anyG P r ops Q G f (listed.setIfInBounds i true)) a w

theorem anyG_G : ∀ {f : Nat} {listed : Array Bool} {a : Act} {w : World}, anyG P r ops Q G f listed a w → G listed w
  | 0, _, _, _, h => h.1
  | _ + 1, _, _, _, h => h.1

theorem anyG_any : ∀ {f : Nat} {listed : Array Bool} {a : Act} {w : World}, anyG P r ops Q G f listed a w → wpAnyIn (Fw r) 0 P .any ops Q f listed a w
  | 0, _, _, _, h => h.2
  | _ + 1, _, _, _, h => ⟨h.2.1, fun i hi => wpOpIn_mono (fun _ _ h1 => anyG_any h1) (h.2.2 i hi)⟩

def Closed (ops : Array Oper) (listed : Array Bool) : Prop :=
  ∀ j oj, ops[j]? = some oj → listed.getD j false = true → ∀ e ∈ oj.after, Region.binds .any e = true → listed.getD e.on false = true

theorem Closed.set {listed : Array Bool} {i : Nat} (h : Closed ops listed) (hi : i ∈ rdy ops listed) : Closed ops (listed.setIfInBounds i true) := by
  obtain ⟨_, oi, hoi, hall⟩ := mem_ready.1 hi
  intro j oj hj hl e he hb
  by_cases hij : i = j
  · subst hij
    have : oj = oi := Option.some.inj (hj.symm.trans hoi)
    subst this
    exact getD_set_true (hall e he hb)
  · rw [getD_set_ne false hij] at hl
    exact getD_set_true (h j oj hj hl e he hb)

/-- All that an operation waits for, one through the other. -/
def down (ops : Array Oper) : Nat → List Nat → List Nat
  | 0, S => S
  | j + 1, S => if S.contains j then down ops j (S ++ match ops[j]? with | some o => (o.after.toList.filter (Region.binds .any)).map (·.on) | none => []) else down ops j S

theorem down_spec {listed : Array Bool} (hc : Closed ops listed) : ∀ (n : Nat) (S : List Nat), (∀ s ∈ S, listed.getD s false = true) → ∀ s ∈ down ops n S, listed.getD s false = true
  | 0, _, h, s, hs => h s hs
  | j + 1, S, h, s, hs => by
    simp only [down] at hs
    split at hs
    · rename_i hj
      refine down_spec hc j _ ?_ s hs
      intro t ht
      rcases List.mem_append.1 ht with ht | ht
      · exact h t ht
      · cases ho : ops[j]? with
        | none => simp [ho] at ht
        | some o =>
          simp only [ho, List.mem_map, List.mem_filter] at ht
          obtain ⟨e, ⟨he, hb⟩, rfl⟩ := ht
          exact hc j o ho (h j (by simpa using hj)) e (by simpa using he) hb
    · exact down_spec hc j S h s hs

theorem yields_of_same {H : View} {o : Oper} {v : Value} {a a' : Act} (hy : YieldsH P ops H o v a) (he : execOp a'.eval o = execOp a.eval o)
    (hw : Region.wanted o (yielded ops a'.tmps) = Region.wanted o (yielded ops a.tmps)) : YieldsH P ops H o v a' := by
  unfold YieldsH at *
  rw [he, hw]
  exact hy

theorem yields_step {H : View} {i : Nat} {o : Oper} {v : Value} {a : Act} {w : World} {K : Act → World → Prop} (hp : plainOp o.op = true) (hi : ops[i]? = some o) (hy : YieldsH P ops H o v a) (hw : H.le (vw w.heap))
    (h : K (a.put o.dst v) w) : wpOpIn (Fw r) 0 P ops Q i K a w := by
  unfold wpOpIn
  simp only [hi]
  rcases hy with ⟨hwt, hv, _⟩ | ⟨hwt, rfl⟩
  · rw [if_pos hwt]
    refine ⟨fun _ _ => trivial, ?_⟩
    rw [Oper.semAt_eq _ _ _ (by intro c e; simp [plainOp, e] at hp), hv w hw]
    exact h
  · rw [if_neg (by simp [hwt])]
    exact ⟨fun _ _ => trivial, h⟩

theorem wpOpIn_putG {H : View} {j : Nat} {oi oj : Oper} {v : Value} (hj : ops[j]? = some oj) (hap : oi.apart ops oj = true) (hpi : plainOp oi.op = true) (hpj : plainOp oj.op = true)
    (hQ : ∀ c a d v w, Q (.panic c) (Act.put a d v) w → Q (.panic c) a w) {K : Act → World → Prop} {a : Act} {w : World}
    (hy : YieldsH P ops H oi v a) (h : wpOpIn (Fw r) 0 P ops Q j K (a.put oi.dst v) w) :
    wpOpIn (Fw r) 0 P ops Q j (fun a' w' => YieldsH P ops H oi v a' ∧ K (a'.put oi.dst v) w') a w := by
  obtain ⟨h1, h2, h3⟩ := Oper.apart_spec hap
  have hsi : ∀ cs b, oi.op ≠ .select cs b := fun cs b e => by simp [plainOp, e] at hpi
  have hsj : ∀ cs b, oj.op ≠ .select cs b := fun cs b e => by simp [plainOp, e] at hpj
  have hdj : ∀ c, oj.op ≠ .defer c := fun c e => by simp [plainOp, e] at hpj
  have keep : ∀ (a : Act), YieldsH P ops H oi v a → ∀ u, YieldsH P ops H oi v (a.put oj.dst u) := fun a hy u =>
    yields_of_same hy (execOp_put oi hsi a oj.dst u h3) (wanted_put oi a oj.dst u h3)
  have keepD : ∀ d, YieldsH P ops H oi v { a with defers := d :: a.defers } := fun d => yields_of_same hy rfl rfl
  unfold wpOpIn at *
  simp only [hj] at *
  rw [wanted_put oj a oi.dst v h1, about_put oj w a oi.dst v h1] at h
  split
  · rename_i hw
    simp only [hw, if_true] at h
    unfold Oper.wpIn at *
    rw [about_put oj w a oi.dst v h1] at h
    refine ⟨h.1, ?_⟩
    have h := h.2
    rw [Oper.semAt_eq _ _ _ hdj, execOp_put oj hsj a oi.dst v h1] at h
    rw [Oper.semAt_eq _ _ _ hdj]
    generalize (execOp a.eval oj).run P w = r at *
    cases r with
    | ok x w' =>
      cases x <;> simp only [Oper.uponIn] at h ⊢
      case value u => exact ⟨keep a hy u, by rw [← Act.put_comm a v u h2]; exact h⟩
      case skip => exact ⟨keep a hy _, by rw [← Act.put_comm a v undef h2]; exact h⟩
      case defer d =>
        refine ⟨keep _ (keepD d) _, ?_⟩
        rw [← Act.put_comm _ v undef h2, ← Act.put_defers]
        exact h
      case enter f args =>
        refine ⟨h.1, CallsIn.mono h.2 fun e w'' he => ?_⟩
        cases e with
        | returned u => exact ⟨keep a hy u, by rw [← Act.put_comm a v u h2]; exact he⟩
        | panicked c => exact hQ _ _ _ _ _ he
        | outgrown => exact he
      case row row args => exact ⟨h.1, RowsIn.mono h.2 fun u w'' he => ⟨keep a hy u, by rw [← Act.put_comm a v u h2]; exact he⟩⟩
      case round l f tmps assign body =>
        refine ⟨h.1, RoundIn.mono h.2 fun e w'' he => ?_⟩
        cases e with
        | returned u => exact ⟨keep a hy u, by rw [← Act.put_comm a v u h2]; exact he⟩
        | panicked c => exact hQ _ _ _ _ _ he
        | outgrown => exact he
    | halt x w' =>
      cases x <;> simp only [Oper.uponIn] at h ⊢
      case panic u => exact hQ _ _ _ _ _ h
  · rename_i hw
    simp only [hw] at h
    exact ⟨h.1, keep a hy _, by rw [← Act.put_comm a v undef h2]; exact h.2⟩

theorem anyG_first {H : View} {i : Nat} {oi : Oper} {v : Value} (hi : ops[i]? = some oi) (hpl : ∀ (j : Nat) (o : Oper), ops[j]? = some o → plainOp o.op = true)
    (hQ : ∀ c a d v w, Q (.panic c) (Act.put a d v) w → Q (.panic c) a w) (hG : ∀ listed w, G (listed.setIfInBounds i true) w → G listed w)
    (hcov : ∀ listed w, Closed ops listed → listed.getD i true = false → G listed w → H.le (vw w.heap)) :
    ∀ (fuel : Nat) (listed : Array Bool) (a : Act) (w : World), Closed ops listed →
      (∀ j oj, ops[j]? = some oj → j ≠ i → listed.getD j true = false → (∀ e ∈ oj.after, Region.binds .any e = true → e.on ≠ i) → oi.apart ops oj = true) →
      i ∈ rdy ops listed → YieldsH P ops H oi v a →
      anyG P r ops Q G fuel (listed.setIfInBounds i true) (a.put oi.dst v) w → anyG P r ops Q G (fuel + 1) listed a w := by
  intro fuel
  induction fuel with
  | zero =>
    intro listed a w hcl _ hr hy Hs
    have hg := hG _ _ (anyG_G Hs)
    refine ⟨hg, fun h => (by rw [h] at hr; cases hr), fun j hj => ?_⟩
    by_cases hji : j = i
    · subst hji; exact yields_step (hpl _ _ hi) hi hy (hcov listed w hcl (mem_ready.1 hr).1 hg) Hs
    · have : j ∈ rdy ops (listed.setIfInBounds i true) := ready_mono hj hji
      rw [Hs.2.1] at this
      cases this
  | succ fuel ih =>
    intro listed a w hcl hfree hr hy Hs
    have hg := hG _ _ (anyG_G Hs)
    refine ⟨hg, fun h => (by rw [h] at hr; cases hr), fun j hj => ?_⟩
    by_cases hji : j = i
    · subst hji; exact yields_step (hpl _ _ hi) hi hy (hcov listed w hcl (mem_ready.1 hr).1 hg) Hs
    · have h1 := Hs.2.2 j (ready_mono hj hji)
      obtain ⟨hjun, oj, hoj, hall⟩ := mem_ready.1 hj
      have hnot : ∀ e ∈ oj.after, Region.binds .any e = true → e.on ≠ i := fun e he hb heq => by
        have h1 := hall e he hb
        have h0 := (mem_ready.1 hr).1
        rw [heq] at h1
        rcases Nat.lt_or_ge i listed.size with h' | h'
        · simp [h'] at h0 h1; rw [h0] at h1; cases h1
        · simp [Array.getElem?_eq_none h'] at h1
      have h2 := wpOpIn_putG hoj (hfree j oj hoj hji hjun hnot) (hpl _ _ hi) (hpl _ _ hoj) hQ hy h1
      have hfree' : ∀ k ok, ops[k]? = some ok → k ≠ i → (listed.setIfInBounds j true).getD k true = false →
          (∀ e ∈ ok.after, Region.binds .any e = true → e.on ≠ i) → oi.apart ops ok = true := fun k ok hk hki hun hno => by
        refine hfree k ok hk hki ?_ hno
        by_cases hjk : j = k
        · subst hjk; exact hjun
        · rw [getD_set_ne true hjk] at hun; exact hun
      refine wpOpIn_mono (fun a' w' h3 => ih (listed.setIfInBounds j true) a' w' (hcl.set hj) hfree' (ready_mono hr (Ne.symm hji)) h3.1 ?_) h2
      rw [Array.setIfInBounds_comm _ _ hji]
      exact h3.2

end

/-! ### The lifter -/

/-- The first one that may come up and is quiet. -/
def firstQ (P : Program) (ops : Array Oper) (listed : Array Bool) : Option Nat :=
  (rdy ops listed).find? fun i => match ops[i]? with | some o => isQ P o | none => false

def covered (P : Program) (ops : Array Oper) (l0 : Option Nat) (i : Nat) : Bool :=
  match ops[i]? with
  | some o => isPure P o || match l0 with | none => true | some l => (down ops (l + 1) [l]).contains i && i != l
  | none => false

def quiets (P : Program) (ops : Array Oper) (l0 : Option Nat) : Nat → Array Bool → Option (List Nat × Array Bool)
  | 0, listed => match firstQ P ops listed with | none => some ([], listed) | some _ => none
  | f + 1, listed => match firstQ P ops listed with
    | none => some ([], listed)
    | some i => if Region.free .any ops listed i && covered P ops l0 i && l0 != some i then
        match quiets P ops l0 f (listed.setIfInBounds i true) with
        | some (qs, l1) => some (i :: qs, l1)
        | none => none
      else none

def getOps (ops : Array Oper) (l : List Nat) : List Oper := l.filterMap (ops[·]?)
def unlisted (ops : Array Oper) (listed : Array Bool) : List Oper := getOps ops ((List.range ops.size).filter fun j => !listed.getD j true)

def branches (node : Nat → Option Reg) : List Nat → Option Reg
  | [] => none
  | [i] => node i
  | i :: is => match node i, branches node is with
    | some x, some y => some (.both x y)
    | _, _ => none

/-- A region whose order is drawn. -/
def regD (P : Program) (N : Nat) (ops : Array Oper) (live : List Nat) (l0 : Option Nat) : Nat → Array Bool → Option Reg
  | 0, _ => none
  | f + 1, listed => match quiets P ops l0 ops.size listed with
    | none => none
    | some (qs, l1) => match rdy ops l1 with
      | [] => mkFin P N ops live (getOps ops qs)
      | rs => branches (fun i => match ops[i]? with
        | none => none
        | some o => match regD P N ops live l0 f (l1.setIfInBounds i true) with
          | some next => mkLoud P N ops live (getOps ops qs) o (unlisted ops (l1.setIfInBounds i true)) (l0 == some i) next
          | none => none) rs

/-! ### Soundness -/

def left (ops : Array Oper) (listed : Array Bool) : Nat := (List.range ops.size).countP fun j => !listed.getD j true

theorem countP_lt {α : Type} {p q : α → Bool} : ∀ {l : List α} {x : α}, (∀ y, q y = true → p y = true) → x ∈ l → p x = true → q x = false → l.countP q < l.countP p
  | [], _, _, h, _, _ => by cases h
  | y :: l, x, hqp, hx, hp, hq => by
    have hle : l.countP q ≤ l.countP p := List.countP_mono_left (fun y _ => hqp y)
    simp only [List.countP_cons]
    rcases List.mem_cons.1 hx with rfl | hx
    · simp [hp, hq]; omega
    · have := countP_lt hqp hx hp hq
      cases hqy : q y
      · simp; omega
      · simp [hqp y hqy]; omega

theorem left_set {ops : Array Oper} {listed : Array Bool} {i : Nat} (hi : i ∈ rdy ops listed) : left ops (listed.setIfInBounds i true) < left ops listed := by
  obtain ⟨h0, o, ho, _⟩ := mem_ready.1 hi
  refine countP_lt (x := i) (fun y hy => ?_) (List.mem_range.2 (Array.getElem?_eq_some_iff.1 ho).1) (by simpa using h0) ?_
  · by_cases h : i = y
    · subst h; simpa using h0
    · rw [getD_set_ne true h] at hy; exact hy
  · have hlt : i < listed.size := by
      rcases Nat.lt_or_ge i listed.size with h | h
      · exact h
      · simp [Array.getElem?_eq_none h] at h0
    simp [hlt]

section
variable {P : Program} {N : Nat} {ops : Array Oper} {live : List Nat} {l0 : Option Nat} {r : Option Nat} {D : List Deferred} {w0 : World} {Q : Env → Heap → Prop} {H : View}

/-- The part H stands, or the last loud ones have begun. -/
def GH (l0 : Option Nat) (H : View) (listed : Array Bool) (w : World) : Prop := H.le (vw w.heap) ∨ ∃ l, l0 = some l ∧ listed.getD l false = true

/-- The part that is read over from here on. -/
def partAt (l0 : Option Nat) (H : View) (listed : Array Bool) : View := match l0 with | some l => if listed.getD l false then nothing else H | none => H

theorem firstQ_spec {listed : Array Bool} {i : Nat} (h : firstQ P ops listed = some i) : i ∈ rdy ops listed ∧ ∃ o, ops[i]? = some o ∧ isQ P o = true := by
  refine ⟨List.mem_of_find?_eq_some h, ?_⟩
  have := List.find?_some h
  cases ho : ops[i]? with
  | none => simp [ho] at this
  | some o => simp [ho] at this; exact ⟨o, rfl, this⟩

theorem quiets_sound (hpl : ∀ (j : Nat) (o : Oper), ops[j]? = some o → plainOp o.op = true) : ∀ {f : Nat} {listed l1 : Array Bool} {qs : List Nat}, quiets P ops l0 f listed = some (qs, l1) → Closed ops listed →
    Closed ops l1 ∧ firstQ P ops l1 = none ∧ (∀ l, l0 = some l → l1.getD l false = listed.getD l false) ∧
    ∀ {a a' : Act} {w : World} {Q' : Exit → Act → World → Prop}, (∀ c a d v w, Q' (.panic c) (Act.put a d v) w → Q' (.panic c) a w) → QRun P ops (partAt l0 H listed) (getOps ops qs) a a' →
      (∀ F, left ops l1 ≤ F → anyG P r ops Q' (GH l0 H) F l1 a' w) → ∀ F, left ops listed ≤ F → anyG P r ops Q' (GH l0 H) F listed a w
  | 0, listed, l1, qs, h, hc => by
    simp only [quiets] at h
    split at h
    · rename_i hq
      simp only [Option.some.injEq, Prod.mk.injEq] at h
      obtain ⟨rfl, rfl⟩ := h
      refine ⟨hc, hq, fun _ _ => rfl, fun {a a' w Q'} _ hrun hany => ?_⟩
      simp only [getOps, List.filterMap_nil, QRun] at hrun
      subst hrun
      exact hany
    · cases h
  | f + 1, listed, l1, qs, h, hc => by
    simp only [quiets] at h
    split at h
    · rename_i hq
      simp only [Option.some.injEq, Prod.mk.injEq] at h
      obtain ⟨rfl, rfl⟩ := h
      refine ⟨hc, hq, fun _ _ => rfl, fun {a a' w Q'} _ hrun hany => ?_⟩
      simp only [getOps, List.filterMap_nil, QRun] at hrun
      subst hrun
      exact hany
    · rename_i i hq
      split at h
      case isFalse => cases h
      rename_i hfc
      simp only [Bool.and_eq_true, bne_iff_ne, ne_eq] at hfc
      obtain ⟨⟨hfree, hcov⟩, hne⟩ := hfc
      split at h
      case h_2 => cases h
      rename_i qs' l1' hrec
      simp only [Option.some.injEq, Prod.mk.injEq] at h
      obtain ⟨rfl, rfl⟩ := h
      obtain ⟨hi, o, ho, hoq⟩ := firstQ_spec hq
      obtain ⟨hc1, hf1, hl1, hstep⟩ := quiets_sound hpl hrec (hc.set hi)
      have hl0 : ∀ l, l0 = some l → (listed.setIfInBounds i true).getD l false = listed.getD l false := fun l hl =>
        getD_set_ne false (fun e => hne (by rw [hl, e]))
      refine ⟨hc1, hf1, fun l hl => (hl1 l hl).trans (hl0 l hl), fun {a a' w Q'} hQ hrun hany F hF => ?_⟩
      have hrun' : QRun P ops (partAt l0 H listed) (o :: getOps ops qs') a a' := by simpa [getOps, ho] using hrun
      obtain ⟨v, hy, hrun2⟩ := hrun'
      have hpart : partAt l0 H (listed.setIfInBounds i true) = partAt l0 H listed := by
        unfold partAt
        cases l0 with
        | none => rfl
        | some l => simp only [hl0 l rfl]
      have hlt := left_set hi
      obtain ⟨F', rfl⟩ : ∃ F', F = F' + 1 := ⟨F - 1, by omega⟩
      have hsub := hstep (w := w) hQ (by rw [hpart]; exact hrun2) hany F' (by omega)
      have hGset : ∀ listed w, GH l0 H (listed.setIfInBounds i true) w → GH l0 H listed w := by
        rintro listed w (h | ⟨l, hl, h⟩)
        · exact .inl h
        · refine .inr ⟨l, hl, ?_⟩
          rw [getD_set_ne false (fun e => hne (by rw [hl, e]))] at h
          exact h
      simp only [covered, ho, Bool.or_eq_true] at hcov
      by_cases hpure : isPure P o = true
      · -- a value that hangs on no heap
        have hy' : YieldsH P ops nothing o v a := by
          rcases hy with ⟨hw, hv, hp⟩ | hy
          · exact .inl ⟨hw, fun w _ => hp hpure w, hp⟩
          · exact .inr hy
        exact anyG_first (H := nothing) ho hpl hQ hGset (fun _ _ _ _ _ => fun _ _ h => by cases h) F' listed a w hc (Region.free_spec ho hfree) hi hy' hsub
      · have hcov := hcov.resolve_left hpure
        cases hl : l0 with
        | none =>
          subst hl
          refine anyG_first (H := H) ho hpl hQ hGset (fun listed w _ _ hg => ?_) F' listed a w hc (Region.free_spec ho hfree) hi (by simpa [partAt] using hy) hsub
          rcases hg with h | ⟨l, h, _⟩
          · exact h
          · cases h
        | some l =>
          subst hl
          simp only [Bool.and_eq_true] at hcov
          have hun : ∀ listed, Closed ops listed → listed.getD i true = false → listed.getD l false = false := by
            intro listed hc' hi'
            cases hll : listed.getD l false with
            | false => rfl
            | true =>
              have := down_spec hc' (l + 1) [l] (by simpa using hll) i (by simpa using hcov.1)
              exfalso
              rcases Nat.lt_or_ge i listed.size with h' | h'
              · simp [h'] at this hi'; rw [hi'] at this; cases this
              · simp [Array.getElem?_eq_none h'] at this
          refine anyG_first (H := H) ho hpl hQ hGset (fun listed w hc' hi' hg => ?_) F' listed a w hc (Region.free_spec ho hfree) hi ?_ hsub
          · rcases hg with h | ⟨l', h, h'⟩
            · exact h
            · cases h
              rw [hun listed hc' hi'] at h'
              cases h'
          · have := hun listed hc (mem_ready.1 hi).1
            simpa [partAt, this] using hy

theorem qrun_det {H : View} {w : World} (hw : H.le (vw w.heap)) : ∀ {qs : List Oper} {a a1 a2 : Act}, QRun P ops H qs a a1 → QRun P ops H qs a a2 → a1 = a2
  | [], a, a1, a2, h1, h2 => by simp only [QRun] at h1 h2; rw [h1, h2]
  | o :: qs, a, a1, a2, ⟨v1, hy1, hq1⟩, ⟨v2, hy2, hq2⟩ => by
    have e : v1 = v2 := by
      rcases hy1 with ⟨hw1, hr1, _⟩ | ⟨hw1, rfl⟩ <;> rcases hy2 with ⟨hw2, hr2, _⟩ | ⟨hw2, rfl⟩
      · have := (hr1 w hw).symm.trans (hr2 w hw)
        simpa using this
      · rw [hw1] at hw2; cases hw2
      · rw [hw1] at hw2; cases hw2
      · rfl
    subst e
    exact qrun_det hw hq1 hq2

theorem branches_spec {pp : PP} {node : Nat → Option Reg} {m : Option View} {ρ : Env} {h : Heap} : ∀ {rs : List Nat} {R : Reg}, branches node rs = some R → regWp P m R Q ρ h → ∀ i ∈ rs, ∃ X, node i = some X ∧ regWp P m X Q ρ h
  | [], _, h, _, _, _ => by simp [branches] at h
  | [i], R, h, hw, j, hj => by
    simp only [List.mem_singleton] at hj; subst hj
    exact ⟨R, h, hw⟩
  | i :: k :: rs, R, h, hw, j, hj => by
    simp only [branches] at h
    split at h
    · rename_i x y hx hy
      simp only [Option.some.injEq] at h
      subst h
      simp only [regWp] at hw
      rcases List.mem_cons.1 hj with rfl | hj
      · exact ⟨x, hx, hw.1⟩
      · exact branches_spec hy hw.2 j hj
    · cases h

theorem panicPut {pp : PP} {c : List PanicEntry} {a : Act} {d : Option Tmp} {v : Value} {w : World} (h : @RegPost (ppD pp) N D w0 Q (.panic c) (Act.put a d v) w) : @RegPost (ppD pp) N D w0 Q (.panic c) a w := by
  obtain ⟨ρ, _, h2, h3, ⟨_, h4⟩, h5⟩ := h
  refine ⟨[], fun t v h => by simp [look] at h, ?_, ?_, ⟨trivial, h4⟩, h5⟩
  · cases d <;> simpa [Act.put] using h2
  · cases d <;> simpa [Act.put] using h3

theorem regD_sound {pp : PP} (hpl : ∀ (j : Nat) (o : Oper), ops[j]? = some o → plainOp o.op = true) : ∀ (f : Nat) {listed : Array Bool} {R : Reg} {ρ : Env} {a : Act} {w : World},
    regD P N ops live l0 f listed = some R → Closed ops listed → listed.size = ops.size → a.tmps.size = N → a.defers = D → Sat ρ a → Same w0 w → GH l0 H listed w → (partAt l0 H listed).le (vw w.heap) →
    regWp P (some (partAt l0 H listed)) R Q ρ w.heap → ∀ F, left ops listed ≤ F → anyG P r ops (@RegPost (ppD pp) N D w0 Q) (GH l0 H) F listed a w
  | 0, _, _, _, _, _, h, _, _, _, _, _, _, _, _, _ => by simp [regD] at h
  | f + 1, listed, R, ρ, a, w, hR, hc, hLs, hN, hD, hρ, hS, hG, hX, hw => by
    simp only [regD] at hR
    split at hR
    case h_1 => cases hR
    rename_i qs l1 hqs
    obtain ⟨hc1, _, hl1, hstep⟩ := quiets_sound (H := H) (r := r) hpl hqs hc
    have hl1s : l1.size = ops.size := by
      have : ∀ {f : Nat} {listed l1 : Array Bool} {qs : List Nat}, quiets P ops l0 f listed = some (qs, l1) → l1.size = listed.size := by
        intro f
        induction f with
        | zero =>
          intro listed l1 qs h
          simp only [quiets] at h
          split at h
          · simp only [Option.some.injEq, Prod.mk.injEq] at h; rw [h.2]
          · cases h
        | succ f ih =>
          intro listed l1 qs h
          simp only [quiets] at h
          split at h
          · simp only [Option.some.injEq, Prod.mk.injEq] at h; rw [h.2]
          · split at h
            · split at h
              · rename_i hh
                simp only [Option.some.injEq, Prod.mk.injEq] at h
                rw [← h.2, ih hh]; simp
              · cases h
            · cases h
      rw [this hqs, hLs]
    have hpart1 : partAt l0 H l1 = partAt l0 H listed := by
      unfold partAt
      cases hl : l0 with
      | none => rfl
      | some l => simp only [hl1 l hl]
    have hG1 : GH l0 H l1 w := by
      rcases hG with h | ⟨l, hl, h⟩
      · exact .inl h
      · exact .inr ⟨l, hl, by rw [hl1 l hl]; exact h⟩
    have hpartm : part (some (partAt l0 H listed)) w.heap = partAt l0 H listed := rfl
    cases hrs : rdy ops l1 with
    | nil =>
      simp only [hrs] at hR
      obtain ⟨a', ρ', hq, hsz, hd, hs, hQ⟩ := mkFin_sound hR hN hρ hw
      rw [hpartm] at hq
      have hpost : @RegPost (ppD pp) N D w0 Q .normal a' w := ⟨ρ', hs, hsz, hd.trans hD, hQ, hS⟩
      refine hstep (fun _ _ _ _ _ => panicPut) hq (fun F _ => ?_)
      cases F with
      | zero => exact ⟨hG1, hrs, hpost⟩
      | succ F => exact ⟨hG1, fun _ => hpost, by rw [hrs]; intro i hi; cases hi⟩
    | cons i0 is0 =>
      simp only [hrs] at hR
      have hbr := branches_spec hR hw
      -- one run of the quiet ones serves every branch
      have hnode : ∀ i ∈ i0 :: is0, ∃ o next X, ops[i]? = some o ∧ regD P N ops live l0 f (l1.setIfInBounds i true) = some next ∧
          mkLoud P N ops live (getOps ops qs) o (unlisted ops (l1.setIfInBounds i true)) (l0 == some i) next = some X ∧ regWp P (some (partAt l0 H listed)) X Q ρ w.heap := by
        intro i hi
        obtain ⟨X, hX, hXw⟩ := hbr i hi
        cases ho : ops[i]? with
        | none => simp [ho] at hX
        | some o =>
          simp only [ho] at hX
          split at hX
          · rename_i next hnext
            exact ⟨o, next, X, rfl, hnext, hX, hXw⟩
          · cases hX
      obtain ⟨o1, next1, X1, ho1, hn1, hX1, hXw1⟩ := hnode i0 (List.mem_cons_self ..)
      obtain ⟨_, _, a', _, _, _, hq, hsz, hd, _, _, _, _, _, _⟩ := mkLoud_sound hX1 hN hρ hXw1
      rw [hpartm] at hq
      refine hstep (fun _ _ _ _ _ => panicPut) hq (fun F hF => ?_)
      obtain ⟨F', rfl⟩ : ∃ F', F = F' + 1 := by
        have h1 := left_set (ops := ops) (listed := l1) (i := i0) (by rw [hrs]; exact List.mem_cons_self ..)
        exact ⟨F - 1, by omega⟩
      refine ⟨hG1, fun h0 => (by rw [hrs] at h0; cases h0), fun i hi => ?_⟩
      have hi' : i ∈ i0 :: is0 := by rw [← hrs]; exact hi
      obtain ⟨o, next, X, ho, hnext, hX2, hXw⟩ := hnode i hi'
      obtain ⟨hp, hdst, a2, ρ', us, keep, hq2, hsz2, hd2, hs2, hk, hv, _, h1, h2⟩ := mkLoud_sound hX2 hN hρ hXw
      rw [hpartm] at hq2
      obtain rfl := qrun_det hX hq2 hq
      have hput : ∀ v, (a2.put o.dst v).tmps.size = N := fun v => by cases o.dst <;> simp [Act.put, hsz2]
      have hdef : ∀ v, (a2.put o.dst v).defers = D := fun v => by cases ho : o.dst <;> simp [Act.put, hd2, hD]
      have hsat : ∀ v, Sat (putE ρ' o.dst keep v) (a2.put o.dst v) := fun v => sat_put hs2 (fun d hd => by rw [hsz2]; exact hdst d hd)
      have hlt := left_set hi
      have hun : l1.getD i true = false := (mem_ready.1 hi).1
      have hisz : i < l1.size := by
        rcases Nat.lt_or_ge i l1.size with h | h
        · exact h
        · simp [Array.getElem?_eq_none h] at hun
      have hnew : (l1.setIfInBounds i true).getD i false = true := by simp [hisz]
      -- what part is read over behind this one
      have hview : ∀ h' : Heap, keeps (if (l0 == some i) = true then none else some (partAt l0 H listed)) h' → ∀ w' : World, w'.heap = h' →
          GH l0 H (l1.setIfInBounds i true) w' ∧ (partAt l0 H (l1.setIfInBounds i true)).le (vw w'.heap) ∧
          (if (l0 == some i) = true then (some (partAt l0 H listed)).map (fun _ => nothing) else some (partAt l0 H listed)) = some (partAt l0 H (l1.setIfInBounds i true)) := by
        intro h' hk w' hw'
        by_cases ht : l0 = some i
        · subst ht
          refine ⟨.inr ⟨i, rfl, hnew⟩, ?_, ?_⟩
          · simp only [partAt, hnew, if_true]; intro _ _ h; cases h
          · simp [partAt, hnew]
        · have hne : (l0 == some i) = false := by simpa using ht
          rw [hne] at hk
          have hle : (partAt l0 H listed).le (vw h') := hk _ rfl
          have hpe : partAt l0 H (l1.setIfInBounds i true) = partAt l0 H listed := by
            rw [← hpart1]
            unfold partAt
            cases hl : l0 with
            | none => rfl
            | some l =>
              have : i ≠ l := fun e => ht (by rw [hl, e])
              simp only [getD_set_ne false this]
          refine ⟨?_, by rw [hpe, hw']; exact hle, by simp [hne, hpe]⟩
          rcases hG1 with _ | ⟨l, hl, h⟩
          · by_cases hb : ∃ l, l0 = some l ∧ l1.getD l false = true
            · obtain ⟨l, hl, h⟩ := hb
              exact .inr ⟨l, hl, getD_set_true h⟩
            · refine .inl ?_
              have : partAt l0 H listed = H := by
                rw [← hpart1]
                unfold partAt
                cases hl : l0 with
                | none => rfl
                | some l =>
                  have : ¬ l1.getD l false = true := fun h => hb ⟨l, hl, h⟩
                  simp only [this]
                  rfl
              rw [this] at hle
              rw [hw']; exact hle
          · exact .inr ⟨l, hl, getD_set_true h⟩
      unfold wpOpIn
      simp only [ho]
      split
      · rename_i hwt
        refine loud_wpIn hp hk hv (h1 hwt) (fun v w' ⟨hkeep, hreg⟩ hsame => ?_) fun ch w' hc hsame => ⟨[], fun t v h => by simp [look] at h, hsz2, hd2.trans hD, ⟨trivial, hc.1.resolve_left (by simp), hc.2⟩, hS.trans hsame⟩
        obtain ⟨g1, g2, g3⟩ := hview w'.heap hkeep w' rfl
        rw [g3] at hreg
        exact regD_sound hpl f hnext (hc1.set hi) (by simp [hl1s]) (hput v) (hdef v) (hsat v) (hS.trans hsame) g1 g2 hreg F' (by omega)
      · rename_i hwt
        refine ⟨fun _ _ => trivial, ?_⟩
        have hreg := h2 (by simpa using hwt)
        obtain ⟨g1, g2, g3⟩ := hview w.heap (by
          split
          · intro _ h; cases h
          · intro Y hY; cases hY; exact hX) w rfl
        rw [g3] at hreg
        exact regD_sound hpl f hnext (hc1.set hi) (by simp [hl1s]) (hput _) (hdef _) (hsat _) hS g1 g2 hreg F' (by omega)

/-- A DRAWN REGION. -/
theorem region_drawn {pp : PP} {id : Nat} {R : Reg} {ρ : Env} {a : Act} {w : World} (hm : P.follows .mixedOrders = true) (hpl : ops.all (fun o => plainOp o.op) = true)
    (hR : regD P N ops live l0 (ops.size + 1) (Array.replicate ops.size false) = some R) (hN : a.tmps.size = N) (hD : a.defers = D) (hρ : Sat ρ a)
    (hw : ∃ H : View, H.le (vw w.heap) ∧ regWp P (some H) R Q ρ w.heap) : (Code.region id ops true).wpIn (Fw r) 0 P (RegPost N D w Q) a w := by
  obtain ⟨H, hH, hw⟩ := hw
  have hpl' : ∀ (j : Nat) (o : Oper), ops[j]? = some o → plainOp o.op = true := fun j o ho => by
    obtain ⟨hj, rfl⟩ := Array.getElem?_eq_some_iff.1 ho
    exact Array.all_eq_true.1 hpl j hj
  have hclosed : Closed ops (Array.replicate ops.size false) := by
    intro j oj _ h
    rcases Nat.lt_or_ge j ops.size with h' | h'
    · simp [h'] at h
    · simp [h'] at h
  have hun : ∀ l, (Array.replicate ops.size false).getD l false = false := fun l => by
    rcases Nat.lt_or_ge l ops.size with h' | h' <;> simp [h']
  have hpart : partAt l0 H (Array.replicate ops.size false) = H := by
    unfold partAt
    cases l0 with
    | none => rfl
    | some l => simp [hun l]
  have weak : ∀ e a' w', @RegPost (ppD pp) N D w Q e a' w' → RegPost N D w Q e a' w' := fun e a' w' hq => by
    cases e <;> first | exact hq | (obtain ⟨ρ, h1, h2, h3, ⟨_, h4, h5⟩, h6⟩ := hq; exact ⟨ρ, h1, h2, h3, ⟨h4 ρ, h5⟩, h6⟩)
  refine wpIn_mono (wpIn_region_any hm (anyG_any (G := GH l0 H) (regD_sound (pp := pp) (H := H) (w0 := w) (w := { w with drawn := w.drawn + 1 }) hpl' _ hR hclosed (by simp) hN hD hρ Same.drawn (.inl hH) ?_ ?_ _ ?_))) weak
  · rw [hpart]; exact hH
  · rw [hpart]; exact hw
  · refine Nat.le_trans (List.countP_le_length ..) (by simp)

/-- A REGION IN THE ORDER OF THE TEXT. -/
theorem region_text {pp : PP} {id : Nat} {R : Reg} {ρ : Env} {a : Act} {w : World} (hR : regU P N ops live (ops.size + 1) ops.toList = some R) (hN : a.tmps.size = N) (hD : a.defers = D) (hρ : Sat ρ a)
    (hw : regWp P none R Q ρ w.heap) : (Code.region id ops false).wpIn (Fw r) 0 P (RegPost N D w Q) a w :=
  wpIn_region_list (regU_sound _ hR hN hD hρ (Same.refl _) hw)

end
end Go.Lft

