/- A part of the proof: LftC, LftW, LftV, LftX, LftY, LftZ. -/
import Derived.Test.YtfelpjfopgiabaaZmany0
import Derived.RangeFuncIn
import Derived.RangeFuncRecord
import Derived.RangeFuncLeaves
import Derived.KernelRfl
/- The lifted language of code: its weakest preconditions, the lifter, soundness; functions. -/
namespace Go.Lft
open Go

def isFn (P : Program) (f : FuncId) : Bool := match P.funcs[f]? with | some fn => fn.name != "runtime.NumGoroutine" && fn.body.isSome | none => false

theorem callsIn_Fw {P : Program} {f : FuncId} {args : Array Value} {w : World} {R : Ending → World → Prop} {n : Nat} {r : Option Nat} (h : Calls P f args w R) : CallsIn (Fw r) n P f args w R :=
  (callsIn_wide (n := n)).2 h

/-- A call, over the heap alone. -/
def HCalls (P : Program) (f : FuncId) (args : Array Value) (h : Heap) (R : Value → Heap → Prop) : Prop :=
  ∀ w : World, w.heap = h → Calls P f args w fun e w' => ∃ v, e = .returned v ∧ R v w'.heap ∧ Same w w'

theorem HCalls.mono {P : Program} {f : FuncId} {args : Array Value} {h : Heap} {R R' : Value → Heap → Prop} (hc : HCalls P f args h R) (hr : ∀ v h', R v h' → R' v h') : HCalls P f args h R' :=
  fun w hw => (hc w hw).mono fun _ _ ⟨v, he, hR, hs⟩ => ⟨v, he, hr _ _ hR, hs⟩

/-- A call that may panic, over the heap alone. -/
def HCallsP (P : Program) (f : FuncId) (args : Array Value) (h : Heap) (R : Value → Heap → Prop) (Rp : List PanicEntry → Heap → Prop) : Prop :=
  ∀ w : World, w.heap = h → Calls P f args w fun e w' => (∃ v, e = .returned v ∧ R v w'.heap ∧ Same w w') ∨ ∃ ch, e = .panicked ch ∧ Rp ch w'.heap ∧ Same w w'
theorem HCallsP.mono {P : Program} {f : FuncId} {args : Array Value} {h : Heap} {R R' : Value → Heap → Prop} {Rp Rp' : List PanicEntry → Heap → Prop} (hc : HCallsP P f args h R Rp) (hr : ∀ v h', R v h' → R' v h') (hp : ∀ ch h', Rp ch h' → Rp' ch h') : HCallsP P f args h R' Rp' :=
  fun w hw => (hc w hw).mono fun _ _ hh => hh.imp (fun ⟨v, he, hR, hs⟩ => ⟨v, he, hr _ _ hR, hs⟩) fun ⟨c, he, hR, hs⟩ => ⟨c, he, hp _ _ hR, hs⟩
theorem HCalls.toP {P : Program} {f : FuncId} {args : Array Value} {h : Heap} {R : Value → Heap → Prop} {Rp : List PanicEntry → Heap → Prop} (hc : HCalls P f args h R) : HCallsP P f args h R Rp :=
  fun w hw => (hc w hw).mono fun _ _ hh => .inl hh

theorem View.lt {W : View} {h : Heap} (hw : W.le (vw h)) {b : Nat} {o : Obj} (hb : W b = some o) : b < h.size := by
  have := hw b o hb
  simp only [vw] at this
  exact (Array.getElem?_eq_some_iff.1 this).1


theorem View.none_of_ge {W : View} {h : Heap} (hw : W.le (vw h)) {b : Nat} (hb : h.size ≤ b) : W b = none := by
  cases hx : W b with
  | none => rfl
  | some o => have := View.lt hw hx; omega

/-- New blocks alone, and, of the old ones, what a part has. -/
def grow (V : View) (h h' : Heap) : View := fun b => if b < h.size then V b else h'[b]?
theorem grow_le {V : View} {h h' : Heap} (hV : V.le (vw h')) : (grow V h h').le (vw h') := fun b o hb => by
  unfold grow at hb; split at hb
  · exact hV b o hb
  · exact hb
theorem le_grow {V : View} {h h' : Heap} (hV : V.le (vw h)) : V.le (grow V h h') := fun b o hb => by
  have := View.lt hV hb
  unfold grow; rw [if_pos this]; exact hb

/-- A round of a range over a function, from the call of its 'yield'. -/
def HYield (P : Program) (l : Nat) (vs : List Value) (h : Heap) (R : Bool → Heap → Prop) : Prop :=
  ∀ w : World, w.heap = h → ∃ f tmps asg body, (Instr.yield l vs.toArray).run P w = .ok (.round l f tmps asg body) w ∧
    RoundIn (Fw none) 0 P l f tmps asg body w fun e w' => ∃ b, e = .returned (.bool b) ∧ R b w'.heap ∧ Same w w'

/-- What one says of a part of the heap, that stands, and of the rest of it: it may be said of another part, and heap, too, that differ within that part alone, and not at the first n blocks of the part. -/
structure Movable (n : Nat) (J : View → Heap → Prop) : Prop where
  le : ∀ {W : View} {h : Heap}, J W h → W.le (vw h)
  move : ∀ {W W' : View} {h h' : Heap}, J W h → (∀ b, b < n → W' b = W b) → W'.le (vw h') → (∀ b, W b = none → b < h.size → h'[b]? = h[b]? ∧ W' b = none) → h.size ≤ h'.size → J W' h'

/-- A function that hands these, in this order, to what it is given. -/
def Iter (P : Program) (gf : Nat) (caps : List Value) (V : View) (all : List (List Value)) : Prop :=
  ∀ (l : Nat) (J : Bool → Nat → View → Heap → Prop) (W : View) (h : Heap), (∀ b k, Movable h.size (J b k)) → V.le W → V l = none → J true 0 W h →
    (∀ k vs W' h1, (∀ b, b < h.size → W' b = W b) → all[k]? = some vs → J true k W' h1 → HYield P l vs h1 fun b h2 => ∃ W2, (∀ i, i ≠ l → W2 i = W' i) ∧ (b = true → W2 = W') ∧ J b (k + 1) W2 h2) →
    HCalls P gf (Value.func (.yield l) #[] #[] :: caps).toArray h fun _ h2 => ∃ b k W', (∀ i, i < h.size → i ≠ l → W' i = W i) ∧ J b k W' h2 ∧ (b = true → k = all.length)

inductive LC where
  | skip
  | reg (drawn : Bool) (r : Reg)
  | seq (x y : LC)
  | cond (c : E) (kill : List Nat) (x y : LC)
  | block (id : Nat) (x : LC)
  | loop (x : LC)
  | exit (id : Nat)
  | ret
  | rangef (g : E) (ps : List Nat) (asg body : LC)
  deriving Inhabited

/-- No range over a function. -/
def LC.plain : LC → Bool
  | .rangef _ _ _ _ => false
  | .seq x y => x.plain && y.plain
  | .cond _ _ x y => x.plain && y.plain
  | .block _ x | .loop x => x.plain
  | _ => true

abbrev Post := Exit → Env → Heap → Prop

def thenL (next : Env → Heap → Prop) (Q : Post) : Post
  | .normal, ρ, h => next ρ h
  | e, ρ, h => Q e ρ h

def inBlk (id : Nat) (Q : Post) : Post
  | .exit k, ρ, h => if k = id then Q .normal ρ h else Q (.exit k) ρ h
  | e, ρ, h => Q e ρ h

/-- What holds behind a text's ends: panics as told. -/
def postOf [pp : PP] (Q : Post) : Post
  | .panic ch, ρ, h => pp.fx ρ ∧ pp.kp ch h
  | e, ρ, h => Q e ρ h
theorem postOf_no {Q : Post} {e : Exit} {ρ : Env} {h : Heap} (hq : @postOf noPP Q e ρ h) : Q e ρ h := by
  cases e <;> first | exact hq | exact hq.2.elim

/-- Some slots alone, in this order. -/
def keepE : List Nat → Env → Env
  | [], _ => []
  | t :: ts, ρ => match look ρ t with
    | some v => (t, v) :: keepE ts ρ
    | none => keepE ts ρ

theorem look_keepE {ρ : Env} {t : Nat} {v : Value} : ∀ {ks : List Nat}, look (keepE ks ρ) t = some v → look ρ t = some v
  | [], h => by simp [keepE, look] at h
  | k :: ks, h => by
    simp only [keepE] at h
    split at h
    · rename_i u hu
      simp only [look] at h
      split at h
      · rename_i e; subst e; rw [hu]; exact h
      · exact look_keepE h
    · exact look_keepE h
theorem sat_keep {ρ : Env} {a : Act} {ks : List Nat} (h : Sat ρ a) : Sat (keepE ks ρ) a := fun t v hv => h t v (look_keepE hv)

/-- No jump to a label, and no panic, comes of lifted code. -/
def plainExit : Exit → Bool
  | .normal | .exit _ | .ret => true
  | _ => false

def LC.wp [pp : PP] (P : Program) (c : LC) (Q : Post) (ρ : Env) (h : Heap) : Prop :=
  match c with
  | .skip => Q .normal ρ h
  | .reg false r => regWp P none r (Q .normal) ρ h
  | .reg true r => ∃ H : View, H.le (vw h) ∧ regWp P (some H) r (Q .normal) ρ h
  | .seq x y => x.wp P (thenL (y.wp P Q) Q) ρ h
  | .cond c kill x y => ∃ b, ev (look ρ) (vw h) c = some (.bool b) ∧ (b = true → x.wp P Q (killE ρ kill) h) ∧ (b = false → y.wp P Q (killE ρ kill) h)
  | .block id x => x.wp P (inBlk id Q) ρ h
  | .loop x => ∃ (ks : List Nat) (I : Nat → Env → Heap → Prop), (∃ n, I n (keepE ks ρ) h) ∧ ∀ n ρ h, I n ρ h → x.wp P (thenL (fun ρ' h' => ∃ m, m < n ∧ I m (keepE ks ρ') h') Q) ρ h
  | .exit id => Q (.exit id) ρ h
  | .ret => Q .ret ρ h
  | .rangef g ps asg body => ∃ (gf : Nat) (caps : List Value) (V W0 : View) (all : List (List Value)) (I : Option Exit → Nat → View → Heap → Prop) (A : Nat → Env),
      ev (look ρ) (vw h) g = some (.func (.func gf) #[] caps.toArray) ∧ isFn P gf = true ∧ Iter P gf caps V all ∧ (∀ vs ∈ all, vs.length = ps.length) ∧ V.le W0 ∧ (∀ e k, Movable h.size (I e k)) ∧ I none 0 W0 h ∧
      (∀ k vs W h1, (∀ b, b < h.size → W b = W0 b) → all[k]? = some vs → I none k W h1 →
        @LC.wp noPP P asg (fun e ρ1 h2 => e = .normal ∧ h2 = h1 ∧ ρ1 = A k) (setsE ρ (ps.zip vs)) h1 ∧
        @LC.wp noPP P body (fun e _ h3 => I (match e with | .normal => none | e => some e) (k + 1) W h3) (A k) h1) ∧
      (∀ W h1, (∀ b, b < h.size → W b = W0 b) → I none all.length W h1 → Q .normal ρ h1) ∧
      (∀ e k W h1, plainExit e = true → e ≠ .normal → (∀ b, b < h.size → W b = W0 b) → I (some e) k W h1 → Q e ρ h1)

theorem uponIn_mono {P : Program} {r : Option Nat} {o : Oper} {a : Act} {K K' : Act → World → Prop} {Q : Exit → Act → World → Prop} {x : Result Next} (hk : ∀ a w, K a w → K' a w) (h : o.uponIn (Fw r) 0 P a K Q x) : o.uponIn (Fw r) 0 P a K' Q x := by
  cases x with
  | ok x w' =>
    cases x <;> simp only [Oper.uponIn] at h ⊢ <;>
      first
        | exact hk _ _ h
        | exact ⟨h.1, CallsIn.mono h.2 (fun e w'' he => by cases e <;> first | exact hk _ _ he | exact he)⟩
        | exact ⟨h.1, RowsIn.mono h.2 (fun _ _ he => hk _ _ he)⟩
        | exact ⟨h.1, RoundIn.mono h.2 (fun e w'' he => by cases e <;> first | exact hk _ _ he | exact he)⟩
  | halt x w' => cases x <;> simp only [Oper.uponIn] at h ⊢ <;> exact h

theorem RunsTo.mono {po : OP} {P : Program} {s : Sem Next} {h : Heap} {K K' : Value → Heap → Prop} (hr : RunsTo P s h K) (hk : ∀ v h', K v h' → K' v h') : RunsTo P s h K' :=
  fun w hw r o a X Y hX hY => hr w hw r o a X Y (fun v w' hv hs => hX v w' (hk _ _ hv) hs) hY
theorem RunsTo.weak {po po' : OP} {P : Program} {s : Sem Next} {h : Heap} {K : Value → Heap → Prop} (hr : @RunsTo po P s h K) (hk : ∀ c h', po.op c h' → po'.op c h') : @RunsTo po' P s h K :=
  fun w hw r o a X Y hX hY => hr w hw r o a X Y hX fun c w' hc hs => hY c w' (hk _ _ hc) hs

section
variable {P : Program} {Q : Post} {ρ : Env} {h : Heap}
theorem regWp_mono {pp : PP} {Q Q' : Env → Heap → Prop} (hq : ∀ ρ h, Q ρ h → Q' ρ h) : ∀ {r : Reg} {m : Option View} {ρ : Env} {h : Heap}, regWp P m r Q ρ h → regWp P m r Q' ρ h
  | .fin kill sets chk, m, ρ, h, ⟨vs, h1, h2, h3⟩ => ⟨vs, h1, h2, hq _ _ h3⟩
  | .loud kill sets args grd chk tail op ty dst keep next, m, ρ, h, hw => by
    simp only [regWp] at hw ⊢
    obtain ⟨vs, us, h1, h2, h3, hfx, h4⟩ := hw
    refine ⟨vs, us, h1, h2, h3, hfx, ?_⟩
    cases grd with
    | none => exact RunsTo.mono h4 fun v h' ⟨g1, g2⟩ => ⟨g1, regWp_mono hq g2⟩
    | some gb =>
      obtain ⟨gv, g1, g2, g3⟩ := h4
      exact ⟨gv, g1, fun e => RunsTo.mono (g2 e) fun v h' ⟨g1, g2⟩ => ⟨g1, regWp_mono hq g2⟩, fun e => regWp_mono hq (g3 e)⟩
  | .both x y, m, ρ, h, ⟨h1, h2⟩ => ⟨regWp_mono hq h1, regWp_mono hq h2⟩

end
theorem lwp_mono' {pp : PP} {P : Program} {Q Q' : Post} (hq : ∀ e ρ h, plainExit e = true → Q e ρ h → Q' e ρ h) : ∀ {x : LC} {ρ : Env} {h : Heap}, x.wp P Q ρ h → x.wp P Q' ρ h := by
  intro x
  induction x generalizing Q Q' with
  | skip => exact fun h => hq _ _ _ rfl h
  | reg d r =>
    intro ρ h hw
    cases d with
    | false => exact regWp_mono (fun ρ h => hq .normal ρ h rfl) hw
    | true => obtain ⟨H, hH, hw⟩ := hw; exact ⟨H, hH, regWp_mono (fun ρ h => hq .normal ρ h rfl) hw⟩
  | seq x y ihx ihy =>
    intro ρ h hw
    exact ihx (fun e ρ h hp hq' => by cases e <;> first | exact ihy hq hq' | exact hq _ _ _ hp hq') hw
  | cond c kill x y ihx ihy =>
    intro ρ h ⟨b, h1, h2, h3⟩
    exact ⟨b, h1, fun e => ihx hq (h2 e), fun e => ihy hq (h3 e)⟩
  | block i x ih =>
    intro ρ h hw
    refine ih (fun e ρ h hp hq' => ?_) hw
    cases e with
    | exit k =>
      simp only [inBlk] at hq' ⊢
      split
      · rename_i hk; rw [if_pos hk] at hq'; exact hq _ _ _ rfl hq'
      · rename_i hk; rw [if_neg hk] at hq'; exact hq _ _ _ rfl hq'
    | _ => exact hq _ _ _ hp hq'
  | loop x ih =>
    intro ρ h ⟨ks, I, h0, hr⟩
    exact ⟨ks, I, h0, fun n ρ h hI => ih (fun e ρ h hp hq' => by cases e <;> first | exact hq' | exact hq _ _ _ hp hq') (hr n ρ h hI)⟩
  | exit i => exact fun h => hq _ _ _ rfl h
  | ret => exact fun h => hq _ _ _ rfl h
  | rangef g ps asg body _ _ =>
    rintro ρ h ⟨gf, caps, V, W0, all, I, A, h1, h2, h3, h4, h5, h6, h7, h8, h9, h10⟩
    exact ⟨gf, caps, V, W0, all, I, A, h1, h2, h3, h4, h5, h6, h7, h8, fun W h' a b => hq _ _ _ rfl (h9 W h' a b), fun e k W h' a b c d => hq _ _ _ a (h10 e k W h' a b c d)⟩
theorem lwp_mono {pp : PP} {P : Program} {Q Q' : Post} (hq : ∀ e ρ h, Q e ρ h → Q' e ρ h) {x : LC} {ρ : Env} {h : Heap} (hw : x.wp P Q ρ h) : x.wp P Q' ρ h := lwp_mono' (fun e ρ h _ => hq e ρ h) hw

theorem stepR_scope {P : Program} {b : Frame} {a : Act} {k : List Item} {cs : List Frame} {w : World} {c : Code} : Go.step P (lone (b.atR a (.code (.scope c) :: k)) cs w) = .next (lone (b.atR a (.code c :: .inScope c :: k)) cs w) :=
  step_lone_go (by simp [stepG, stepG.exec, Frame.atR])
theorem stepR_inScope {P : Program} {b : Frame} {a : Act} {k : List Item} {cs : List Frame} {w : World} {c : Code} : Go.step P (lone (b.atR a (.inScope c :: k)) cs w) = .next (lone (b.atR a k) cs w) :=
  step_lone_go (by simp [stepG, stepG.exec, Frame.atR])

/-- A scope within which nothing jumps to a label. -/
theorem wpIn_scope {F : Fence} {n : Nat} {P : Program} {Q : Exit → Act → World → Prop} {a : Act} {w : World} {c : Code} (h : c.wpIn F n P (fun e a w => (∀ l, e ≠ .goto l) ∧ Q e a w) a w) : (Code.scope c).wpIn F n P Q a w := by
  intro b k cs hro hb hr
  have h0 : (lone (b.atR a (.code (.scope c) :: k)) cs w).fenced P F := fenced_calm hb hr rfl
  obtain ⟨e, a₁, w₁, ⟨hp, hq⟩, harr⟩ := h b (.inScope c :: k) cs hro hb hr
  cases e with
  | normal => exact ⟨.normal, a₁, w₁, hq, .head h0 stepR_scope (StepsIn.trans harr (.one (fenced_calm hb hr rfl) stepR_inScope))⟩
  | exit id =>
    have hx : exitTo id (.inScope c :: k) = exitTo id k := by simp [exitTo]
    exact ⟨.exit id, a₁, w₁, hq, fun k' hk => .head h0 stepR_scope (harr.1 k' (by rw [hx]; exact hk)),
      fun hr' hk => let ⟨k₁, h1, h2⟩ := harr.2 hr' (by rw [hx]; exact hk); ⟨k₁, h1, .head h0 stepR_scope h2⟩⟩
  | goto l => exact absurd rfl (hp l)
  | ret => exact ⟨_, a₁, w₁, hq, .of_steps (.one h0 stepR_scope) harr⟩
  | panic ch => exact ⟨_, a₁, w₁, hq, .of_steps (.one h0 stepR_scope) harr⟩
  | outgrown => exact ⟨_, a₁, w₁, hq, .of_steps (.one h0 stepR_scope) harr⟩

/-- A loud operation behind which nothing is read from memory but what is at hand: the last ones' head. -/
def pickTail (P : Program) (ops : Array Oper) : Option Nat :=
  let reads := (List.range ops.size).filter fun i => match ops[i]? with | some o => isQ P o && !isPure P o | none => false
  (List.range ops.size).find? fun l => match ops[l]? with
    | some o => !isQ P o && o.guard.isNone && (let d := down ops (l + 1) [l]; reads.all d.contains)
    | none => false

def condKill (liveR : List Nat) : Operand → List Nat
  | .tmp t => if liveR.contains t then [] else [t]
  | _ => []

def liftC (P : Program) (N : Nat) (live liveR : List Nat) (inR : Bool) : Code → Option LC
  | .skip => some .skip
  | .region _ ops draw =>
    if draw then
      if ops.all (fun o => plainOp o.op) then
        (regD P N ops live (pickTail P ops) (ops.size + 1) (Array.replicate ops.size false)).map (.reg true)
      else none
    else (regU P N ops live (ops.size + 1) ops.toList).map (.reg false)
  | .seq x y => match liftC P N live liveR inR x, liftC P N live liveR inR y with
    | some a, some b => some (.seq a b)
    | _, _ => none
  | .cond c x y => match liftC P N live liveR inR x, liftC P N live liveR inR y with
    | some a, some b => some (.cond (opnd c) (condKill liveR c) a b)
    | _, _ => none
  | .block id x => (liftC P N live liveR inR x).map (.block id)
  | .loop x => (liftC P N live liveR inR x).map .loop
  | .exit id => some (.exit id)
  | .ret => some .ret
  | .scope x => liftC P N live liveR inR x
  | .label _ => some .skip
  | .rangeFunc f ps x y => if inR then none else if ps.toList.all (· < N) then
      match liftC P N live liveR true x, liftC P N live liveR true y with
      | some a, some b => if a.plain && b.plain then some (.rangef (opnd f) ps.toList a b) else none
      | _, _ => none
    else none
  | _ => none

/-- What came to the deferred calls: marks of ranges over functions, whose blocks are empty; none where there is none of these. -/
def Marked (pl : Bool) (D : List Deferred) (n : Nat) (ds : List Deferred) (h : Heap) : Prop :=
  ∃ ms : List Nat, ds = ms.map (fun m => { target := .collected m, args := #[] }) ++ D ∧ (pl = true → ms = []) ∧ (∀ m ∈ ms, n ≤ m ∧ h[m]? = some (.deferred (some []))) ∧ ms.Nodup

theorem Marked.refl (pl : Bool) (D : List Deferred) (n : Nat) (h : Heap) : Marked pl D n D h := ⟨[], rfl, fun _ => rfl, (fun _ h => by cases h), List.nodup_nil⟩
theorem Marked.trans {p q : Bool} {D ds es : List Deferred} {w0 w1 w2 : World} (h : Marked p D w0.heap.size ds w1.heap) (k : Marked q ds w1.heap.size es w2.heap) (hs : Same w0 w1) (hs2 : Same w1 w2) : Marked (p && q) D w0.heap.size es w2.heap := by
  obtain ⟨ms, rfl, h1, h2, h3⟩ := h
  obtain ⟨ns, rfl, k1, k2, k3⟩ := k
  refine ⟨ns ++ ms, by simp, fun e => ?_, fun m hm => ?_, ?_⟩
  · simp only [Bool.and_eq_true] at e
    rw [h1 e.1, k1 e.2]; rfl
  · rcases List.mem_append.1 hm with hm | hm
    · exact ⟨Nat.le_trans hs.size (k2 m hm).1, (k2 m hm).2⟩
    · exact ⟨(h2 m hm).1, hs2.defs m (h2 m hm).2⟩
  · refine List.nodup_append.2 ⟨k3, h3, fun a ha b hb e => ?_⟩
    subst e
    have h4 := (k2 a ha).1
    have h5 := (Array.getElem?_eq_some_iff.1 (h2 a hb).2).1
    omega
theorem Marked.weak {p q : Bool} {D ds : List Deferred} {n : Nat} {h : Heap} (hpq : q = true → p = true) (k : Marked p D n ds h) : Marked q D n ds h :=
  let ⟨ms, h1, h2, h3, h4⟩ := k
  ⟨ms, h1, fun e => h2 (hpq e), h3, h4⟩

def LPost [pp : PP] (N : Nat) (pl : Bool) (D : List Deferred) (w0 : World) (Q : Post) (e : Exit) (a : Act) (w : World) : Prop :=
  ∃ ρ, Sat ρ a ∧ a.tmps.size = N ∧ Marked pl D w0.heap.size a.defers w.heap ∧ postOf Q e ρ w.heap ∧ Same w0 w

theorem wpIn_loop_ghost {F : Fence} {k : Nat} {P : Program} {Q : Exit → Act → World → Prop} {c : Code} (I : Nat → Act → World → Prop) {n : Nat} {a : Act} {w : World} (h₀ : I n a w)
    (round : ∀ n a w, I n a w → c.wpIn F k P (Exit.then (fun a' w' => ∃ m, m < n ∧ I m a' w') Q) a w) : (Code.loop c).wpIn F k P Q a w := by
  intro b k cs hro hb hr
  have key : ∀ j a w, I j a w →
      ∃ e a' w', Q e a' w' ∧ ArrivesIn (Machine.fenced P F) P (lone (b.atR a (.code c :: .inLoop c :: k)) cs w) b k cs e a' w' := by
    intro j
    induction j using Nat.strongRecOn with
    | _ j ih =>
      intro a w hI
      obtain ⟨e, a₁, w₁, hq, harr⟩ := round j a w hI b (.inLoop c :: k) cs hro hb hr
      cases e with
      | normal =>
        obtain ⟨m, hlt, hI₁⟩ := hq
        obtain ⟨e₂, a₂, w₂, hq₂, harr₂⟩ := ih m hlt a₁ w₁ hI₁
        exact ⟨e₂, a₂, w₂, hq₂, .of_steps (StepsIn.trans harr (.one (fenced_calm hb hr rfl) stepR_inLoop)) harr₂⟩
      | exit id => exact ⟨_, a₁, w₁, hq, .pass (x := .inLoop c) rfl (fun _ _ => .inl (by simp)) harr⟩
      | goto l => exact ⟨_, a₁, w₁, hq, .pass (x := .inLoop c) rfl (fun _ _ => .inl (by simp)) harr⟩
      | ret => exact ⟨_, a₁, w₁, hq, .pass (x := .inLoop c) rfl (fun _ _ => .inl (by simp)) harr⟩
      | panic ch => exact ⟨_, a₁, w₁, hq, .pass (x := .inLoop c) rfl (fun _ _ => .inl (by simp)) harr⟩
      | outgrown => exact ⟨_, a₁, w₁, hq, .pass (x := .inLoop c) rfl (fun _ _ => .inl (by simp)) harr⟩
  obtain ⟨e, a', w', hq, harr⟩ := key _ a w h₀
  exact ⟨e, a', w', hq, .of_steps (.one (fenced_calm hb hr rfl) stepR_loop) harr⟩

section
variable {P : Program} {N : Nat} {live liveR : List Nat}

theorem LPost.weak {pp : PP} {p q : Bool} {D : List Deferred} {w0 : World} {Q : Post} {e : Exit} {a : Act} {w : World} (hpq : q = true → p = true) (h : LPost N p D w0 Q e a w) : LPost N q D w0 Q e a w :=
  let ⟨ρ, h1, h2, h3, h4, h5⟩ := h
  ⟨ρ, h1, h2, h3.weak hpq, h4, h5⟩

theorem sat_fold {vs : List Value} : ∀ {ps : List Nat} {ρ : Env} {a : Act}, Sat ρ a → (∀ p ∈ ps, p < a.tmps.size) → ps.length = vs.length →
    Sat (setsE ρ (ps.zip vs)) { tmps := (ps.zip vs).foldl (fun t (p : Nat × Value) => t.setIfInBounds p.1 p.2) a.tmps, defers := [] } := by
  induction vs with
  | nil => intro ps ρ a h _ hl; cases ps with
    | nil => exact h
    | cons p ps => simp at hl
  | cons v vs ih => intro ps ρ a h hp hl; cases ps with
    | nil => simp at hl
    | cons p ps =>
      simp only [List.zip_cons_cons, setsE, List.foldl_cons]
      have := ih (ps := ps) (ρ := setE ρ p v) (a := { tmps := a.tmps.setIfInBounds p v, defers := a.defers }) ?_ (fun q hq => by simpa using hp q (List.mem_cons_of_mem _ hq)) (by simpa using hl)
      · exact this
      · intro t u hu
        rw [look_setE] at hu
        split at hu
        · rename_i e; subst e; cases hu
          simp [hp p (List.mem_cons_self ..)]
        · rename_i e
          simp only [Array.getElem?_setIfInBounds_ne e]
          exact h t u hu
theorem fold_size {l : List (Nat × Value)} : ∀ {t : Array Value}, (l.foldl (fun t (p : Nat × Value) => t.setIfInBounds p.1 p.2) t).size = t.size := by
  induction l with
  | nil => intro t; rfl
  | cons p l ih => intro t; simp only [List.foldl_cons, ih, Array.size_setIfInBounds]

/-- One block of a part is another one. -/
def View.set (W : View) (l : Nat) (o : Obj) : View := fun b => if b = l then some o else W b

theorem Movable.put {n l : Nat} {J : View → Heap → Prop} (hJ : Movable n J) {W : View} {w : World} {o : Obj} (o' : Obj) (h : J W w.heap) (hl : W l = some o) (hn : n ≤ l) : J (W.set l o') (w.putObj l o').heap := by
  have hle := hJ.le h
  have hlt : l < w.heap.size := (Array.getElem?_eq_some_iff.1 (hle l o hl)).1
  refine hJ.move h (fun b hb => by unfold View.set; rw [if_neg (by omega)]) (fun b x hb => ?_) (fun b hb _ => ?_) (by simp [World.putObj])
  · unfold View.set at hb
    split at hb
    · rename_i e; subst e; cases hb; exact World.putObj_heap_same hlt
    · rename_i e; show (w.putObj l o').heap[b]? = _; rw [World.putObj_heap_other e]; exact hle b x hb
  · have hne : b ≠ l := fun e => by rw [e, hl] at hb; cases hb
    exact ⟨World.putObj_heap_other hne, by unfold View.set; rw [if_neg hne]; exact hb⟩

theorem Same.put {w : World} {l : Nat} {o o' : Obj} (hl : w.heap[l]? = some o) (ho : o ≠ .deferred (some [])) : Same w (w.putObj l o') :=
  Same.of_row rfl rfl rfl (by simp [World.putObj]) hl ho fun k _ hne => World.putObj_heap_other hne

theorem wpIn_rangef {pp : PP} {f : Operand} {ps : Array Tmp} {x y : Code} {X Y : LC}
    (hx : ∀ {Q : Post} {ρ : Env} {a : Act} {w : World} {r : Option Nat}, @LC.wp noPP P X Q ρ w.heap → Sat ρ a → a.tmps.size = N → x.wpIn (Fw r) 0 P (@LPost noPP N X.plain a.defers w Q) a w)
    (hy : ∀ {Q : Post} {ρ : Env} {a : Act} {w : World} {r : Option Nat}, @LC.wp noPP P Y Q ρ w.heap → Sat ρ a → a.tmps.size = N → y.wpIn (Fw r) 0 P (@LPost noPP N Y.plain a.defers w Q) a w)
    (hps : ∀ p ∈ ps.toList, p < N) {Q : Post} {ρ : Env} {a : Act} {w : World} (hw : (LC.rangef (opnd f) ps.toList X Y).wp P Q ρ w.heap) (hρ : Sat ρ a) (hN : a.tmps.size = N) :
    (Code.rangeFunc f ps x y).wpIn (Fw none) 0 P (LPost N false a.defers w Q) a w := by
  simp only [LC.wp] at hw
  obtain ⟨gf, caps, V, W0, all, I, A, hg, hfn, hIter, hlen, hV, hI, h0, hround, hdone, hexit⟩ := hw
  have hg' := ev_opnd (a := a) (ev_env (fun t v h => hρ t v h) hg)
  refine wpIn_rangeFunc fun fn _ => ?_
  obtain ⟨rec, hrec⟩ : ∃ rec : LoopState → Option Code → Loop, rec = fun st pe => { state := st, pending := pe, fn, tmps := a.tmps, params := ps, assign := x, body := y, defers := w.heap.size } := ⟨_, rfl⟩
  obtain ⟨W1, hW1⟩ : ∃ W1, (w.alloc (.deferred (some []))).alloc (.loop (rec .ready none)) = W1 := ⟨_, rfl⟩
  have hL1 : W1.heap[w.heap.size + 1]? = some (.loop (rec .ready none)) := by
    rw [← hW1]; have := World.alloc_heap_new (w.alloc (.deferred (some []))) (.loop (rec .ready none)); rwa [World.size_alloc] at this
  have hK1 : W1.heap[w.heap.size]? = some (.deferred (some [])) := by
    rw [← hW1]; exact (heap_alloc_old _ _ (by simp)).trans (World.alloc_heap_new w _)
  have hsz1 : W1.heap.size = w.heap.size + 2 := by rw [← hW1]; simp
  have hold : ∀ k, k < w.heap.size → W1.heap[k]? = w.heap[k]? := by
    intro k hk
    rw [← hW1, heap_alloc_old _ _ (by simp; omega), heap_alloc_old _ _ hk]
  have hS1 : Same w W1 := Same.of_all (by rw [← hW1]; rfl) (by rw [← hW1]; rfl) (by rw [← hW1]; rfl) (by omega) hold
  have hW0 := (hI none 0).le h0
  have hG1 : (grow W0 w.heap W1.heap).le (vw W1.heap) := grow_le fun b o hb => by
    show W1.heap[b]? = _
    rw [hold b (View.lt hW0 hb)]; exact hW0 b o hb
  have hI1 : I none 0 (grow W0 w.heap W1.heap) W1.heap := (hI none 0).move h0 (fun b hb => by unfold grow; rw [if_pos hb]) hG1 (fun b hb hlt => ⟨hold b hlt, by unfold grow; rw [if_pos hlt]; exact hb⟩) hS1.size
  have hgrowL : grow W0 w.heap W1.heap (w.heap.size + 1) = some (.loop (rec .ready none)) := by unfold grow; rw [if_neg (by omega)]; exact hL1
  have hgrow0 : ∀ b, b < w.heap.size → grow W0 w.heap W1.heap b = W0 b := fun b hb => by unfold grow; rw [if_pos hb]
  obtain ⟨J, hJ⟩ : ∃ J : Bool → Nat → View → Heap → Prop, J = fun b k W h => if b = true then I none k W h ∧ W (w.heap.size + 1) = some (.loop (rec .ready none)) else
      ∃ e c, plainExit e = true ∧ e ≠ .normal ∧ (e = .ret ∧ c = Code.ret ∨ ∃ id, e = .exit id ∧ c = Code.exit id) ∧ I (some e) k W h ∧ W (w.heap.size + 1) = some (.loop (rec .done (some c))) := ⟨_, rfl⟩
  refine ⟨w.heap.size + 1, [{ target := .collected w.heap.size, args := #[] }], W1, { target := .fn (.func gf) caps.toArray, args := #[.func (.yield (w.heap.size + 1)) #[] #[]] }, W1, gf,
    (Value.func (.yield (w.heap.size + 1)) #[] #[] :: caps).toArray, W1, ?_, ?_, ?_, ?_, fun h => by simp [Fw, Fence.wide] at h, ?_⟩
  · rw [← hW1, hrec]; exact run_enterLoop_outer _ _ _ _ _
  · simp only [resolve, hg']
    simp [go_sem]
  · intro f' _; trivial
  · unfold isFn at hfn
    cases hfn' : P.funcs[gf]? with
    | none => simp [hfn'] at hfn
    | some fn' =>
      simp only [hfn', Bool.and_eq_true, bne_iff_ne, ne_eq] at hfn
      obtain ⟨h1, h2⟩ := hfn
      simp [invoke, callFunc, program, Sem.run, hfn', h1, Option.isNone]
      cases hb : fn'.body <;> simp [hb] at h2 ⊢
  · have hJ0 : J true 0 (grow W0 w.heap W1.heap) W1.heap := by rw [hJ]; simp only [if_true]; exact ⟨hI1, hgrowL⟩
    refine callsIn_Fw ((hIter (w.heap.size + 1) J (grow W0 w.heap W1.heap) W1.heap ?_ (View.le_trans hV (le_grow hW0)) (View.none_of_ge (View.le_trans hV hW0) (by omega)) hJ0 ?_ W1 rfl).mono ?_)
    · intro b k
      rw [hJ]
      cases b with
      | true =>
        simp only [if_true]
        exact ⟨fun h => (hI none k).le h.1, fun h a1 a2 a3 a4 => ⟨(hI none k).move h.1 (fun b hb => a1 b (by omega)) a2 a3 a4, by rw [a1 _ (by omega)]; exact h.2⟩⟩
      | false =>
        simp only [Bool.false_eq_true, if_false]
        exact ⟨fun ⟨e, c, _, _, _, h, _⟩ => (hI (some e) k).le h, fun ⟨e, c, p1, p2, p3, h, p4⟩ a1 a2 a3 a4 => ⟨e, c, p1, p2, p3, (hI (some e) k).move h (fun b hb => a1 b (by omega)) a2 a3 a4, by rw [a1 _ (by omega)]; exact p4⟩⟩
    · -- a round
      intro k vs W' h1 hag hall hJk w' hw'
      subst hw'
      rw [hJ] at hJk
      simp only [if_true] at hJk
      obtain ⟨hIk, hWl⟩ := hJk
      have hag0 : ∀ b, b < w.heap.size → W' b = W0 b := fun b hb => by rw [hag b (by omega), hgrow0 b hb]
      have hle := (hI none k).le hIk
      have hl : w'.heap[w.heap.size + 1]? = some (.loop (rec .ready none)) := hle _ _ hWl
      have hvl := hlen vs (List.mem_of_getElem? hall)
      have hyd := run_yield (P := P) (args := vs.toArray) hl (by rw [hrec]; simpa using hvl)
      refine ⟨_, _, _, _, hyd, roundIn_of_wpIn trivial ?_⟩
      rw [hrec]
      simp only
      obtain ⟨hasg, _⟩ := hround k vs W' w'.heap hag0 hall hIk
      have hact : (ps.zip vs.toArray).foldl (fun tmps (p : Nat × Value) => tmps.setIfInBounds p.1 p.2) a.tmps = (ps.toList.zip vs).foldl (fun t (p : Nat × Value) => t.setIfInBounds p.1 p.2) a.tmps := by
        rw [← Array.foldl_toList]; simp
      have hsat := sat_fold (ps := ps.toList) (vs := vs) hρ (fun p hp => by rw [hN]; exact hps p hp) hvl.symm
      refine wpIn_mono (hx (r := some (w.heap.size + 1)) (a := { tmps := (ps.zip vs.toArray).foldl (fun tmps (p : Nat × Value) => tmps.setIfInBounds p.1 p.2) a.tmps, defers := [] }) hasg (by rw [hact]; exact hsat) (by rw [hact, fold_size]; exact hN)) ?_
      rintro e a1 w1 ⟨ρ1, s1, n1, _, hqq, hS⟩
      obtain ⟨rfl, hh, rfl⟩ := postOf_no hqq
      have hl' : w1.heap[w.heap.size + 1]? = some (.loop (rec .ready none)) := by rw [hh]; exact hl
      refine ⟨_, run_beginRound hl' (by rw [hrec]), ?_⟩
      have hIk1 : I none k W' w1.heap := by rw [hh]; exact hIk
      have hI2 := (hI none k).put (.loop (rec .busy none)) hIk1 hWl (by omega)
      have hbusy : ({ rec .ready none with state := .busy } : Loop) = rec .busy none := by rw [hrec]
      rw [hbusy]
      obtain ⟨_, hbody⟩ := hround k vs (W'.set (w.heap.size + 1) (.loop (rec .busy none))) _ (fun b hb => by unfold View.set; rw [if_neg (by omega)]; exact hag0 b hb) hall hI2
      have hS2 : Same w1 (w1.putObj (w.heap.size + 1) (.loop (rec .busy none))) := Same.put hl' (by simp)
      refine wpIn_mono (hy (r := some (w.heap.size + 1)) (lwp_mono' (Q' := fun e _ h3 => plainExit e = true ∧ I (match e with | .normal => none | e => some e) (k + 1) (W'.set (w.heap.size + 1) (.loop (rec .busy none))) h3) (fun e ρ h hp hq => ⟨hp, hq⟩) hbody) s1 n1) ?_
      rintro e a3 w3 ⟨ρ3, s3, n3, _, hqq, hS3⟩
      obtain ⟨hpe, hI3⟩ := postOf_no hqq
      have hset : (W'.set (w.heap.size + 1) (.loop (rec .busy none))) (w.heap.size + 1) = some (.loop (rec .busy none)) := by unfold View.set; rw [if_pos rfl]
      have hset2 : ∀ o o', (W'.set (w.heap.size + 1) o).set (w.heap.size + 1) o' = W'.set (w.heap.size + 1) o' := by
        intro o o'; funext b; unfold View.set; split <;> rfl
      have hself : W'.set (w.heap.size + 1) (.loop (rec .ready none)) = W' := by
        funext b; unfold View.set; split
        · rename_i e; subst e; exact hWl.symm
        · rfl
      have fin : ∀ jump : Option Code, w3.heap[w.heap.size + 1]? = some (.loop (rec .busy none)) →
          (Instr.endRound (w.heap.size + 1) jump).run P w3 = .ok (.bool jump.isNone) (w3.putObj (w.heap.size + 1) (.loop (rec (if jump.isNone then .ready else .done) jump))) ∧ Same w' (w3.putObj (w.heap.size + 1) (.loop (rec (if jump.isNone then .ready else .done) jump))) := by
        intro jump h3
        have := run_endRound (P := P) jump h3
        rw [hrec] at this ⊢
        rw [hrec] at h3
        refine ⟨this, ((hS.trans hS2).trans hS3).trans (Same.put h3 (by simp))⟩
      cases e with
      | normal =>
        obtain ⟨f1, f2⟩ := fin none ((hI none (k + 1)).le hI3 _ _ hset)
        refine ⟨_, _, f1, true, rfl, ⟨W', fun _ _ => rfl, fun _ => rfl, ?_⟩, f2⟩
        rw [hJ]
        simp only [if_true]
        have := (hI none (k + 1)).put (.loop (rec .ready none)) hI3 hset (by omega)
        rw [hset2, hself] at this
        exact ⟨this, hWl⟩
      | ret =>
        obtain ⟨f1, f2⟩ := fin (some .ret) ((hI (some .ret) (k + 1)).le hI3 _ _ hset)
        refine ⟨_, _, f1, false, rfl, ⟨W'.set (w.heap.size + 1) (.loop (rec .done (some .ret))), fun i hi => by unfold View.set; rw [if_neg hi], (fun h => by cases h), ?_⟩, f2⟩
        rw [hJ]
        simp only [Bool.false_eq_true, if_false]
        have := (hI (some .ret) (k + 1)).put (.loop (rec .done (some .ret))) hI3 hset (by omega)
        rw [hset2] at this
        exact ⟨.ret, .ret, rfl, by simp, .inl ⟨rfl, rfl⟩, this, by unfold View.set; rw [if_pos rfl]⟩
      | exit id =>
        obtain ⟨f1, f2⟩ := fin (some (.exit id)) ((hI (some (.exit id)) (k + 1)).le hI3 _ _ hset)
        refine ⟨_, _, f1, false, rfl, ⟨W'.set (w.heap.size + 1) (.loop (rec .done (some (.exit id)))), fun i hi => by unfold View.set; rw [if_neg hi], (fun h => by cases h), ?_⟩, f2⟩
        rw [hJ]
        simp only [Bool.false_eq_true, if_false]
        have := (hI (some (.exit id)) (k + 1)).put (.loop (rec .done (some (.exit id)))) hI3 hset (by omega)
        rw [hset2] at this
        exact ⟨(.exit id), (.exit id), rfl, by simp, .inr ⟨id, rfl, rfl⟩, this, by unfold View.set; rw [if_pos rfl]⟩
      | goto t => cases hpe
      | panic ch => cases hpe
      | outgrown => cases hpe
    · -- behind the iterator
      rintro e w2 ⟨v, rfl, ⟨b, k, W', hag, hJk, hk⟩, hS⟩
      have hag0 : ∀ b, b < w.heap.size → W' b = W0 b := fun b hb => by rw [hag b (by omega) (by omega), hgrow0 b hb]
      have hD2 := hS.defs _ hK1
      have marks : ∀ w4 : World, (∀ k, k ≠ w.heap.size + 1 → w4.heap[k]? = w2.heap[k]?) → Marked false a.defers w.heap.size ([{ target := .collected w.heap.size, args := #[] }] ++ a.defers) w4.heap :=
        fun w4 h4 => ⟨[w.heap.size], rfl, fun h => by (cases h), fun m hm => by
          simp only [List.mem_singleton] at hm; subst hm
          exact ⟨Nat.le_refl _, by rw [h4 _ (by omega)]; exact hD2⟩, by simp⟩
      have hsset : ∀ o b, b < w.heap.size → (W'.set (w.heap.size + 1) o) b = W0 b := fun o b hb => by unfold View.set; rw [if_neg (by omega)]; exact hag0 b hb
      rw [hJ] at hJk
      cases b with
      | true =>
        simp only [if_true] at hJk
        obtain ⟨hIk, hWl⟩ := hJk
        have hl := (hI none k).le hIk _ _ hWl
        refine ⟨none, _, by have := run_endLoop (P := P) hl (by rw [hrec]; simp); rw [hrec] at this; exact this, ρ, hρ, hN, marks _ (fun k hk => World.putObj_heap_other hk), ?_, (hS1.trans hS).trans (Same.put hl (by simp))⟩
        have hkl := hk rfl
        rw [hkl] at hIk
        exact hdone _ _ (hsset _) ((hI none all.length).put _ hIk hWl (by omega))
      | false =>
        simp only [Bool.false_eq_true, if_false] at hJk
        obtain ⟨e, c, hpe, hne, hec, hIk, hWl⟩ := hJk
        have hl := (hI (some e) k).le hIk _ _ hWl
        refine ⟨some c, _, by have := run_endLoop (P := P) hl (by rw [hrec]; simp); rw [hrec] at this; exact this, ?_⟩
        have hQ := hexit e k _ _ hpe hne (hsset _) ((hI (some e) k).put (.loop { state := .exhausted, pending := some c, fn, tmps := a.tmps, params := ps, assign := x, body := y, defers := w.heap.size }) hIk hWl (by omega))
        have hS4 := (hS1.trans hS).trans (Same.put (o' := .loop { state := .exhausted, pending := some c, fn, tmps := a.tmps, params := ps, assign := x, body := y, defers := w.heap.size }) hl (by simp))
        rcases hec with ⟨rfl, rfl⟩ | ⟨id, rfl, rfl⟩
        · exact wpIn_ret ⟨ρ, hρ, hN, marks _ (fun k hk => World.putObj_heap_other hk), hQ, hS4⟩
        · exact wpIn_exit ⟨ρ, hρ, hN, marks _ (fun k hk => World.putObj_heap_other hk), hQ, hS4⟩

theorem liftC_sound {pp : PP} (hm : P.follows .mixedOrders = true) : ∀ (c : Code) {inR : Bool} {L : LC} {Q : Post} {ρ : Env} {a : Act} {w : World} {r : Option Nat}, liftC P N live liveR inR c = some L → (inR = false → r = none) → L.wp P Q ρ w.heap → Sat ρ a → a.tmps.size = N →
    c.wpIn (Fw r) 0 P (LPost N L.plain a.defers w Q) a w
  | .skip, inR, L, Q, ρ, a, w, r, hL, hr, hw, hρ, hN => by
    simp only [liftC, Option.some.injEq] at hL; subst hL
    exact wpIn_skip ⟨ρ, hρ, hN, Marked.refl .., hw, Same.refl _⟩
  | .region id ops draw, inR, L, Q, ρ, a, w, r, hL, hr, hw, hρ, hN => by
    have post : ∀ e a' w', RegPost N a.defers w (Q .normal) e a' w' → LPost N true a.defers w Q e a' w' := by
      intro e a' w' h
      cases e <;> first | exact h.elim | skip
      · obtain ⟨ρ', h1, h2, h3, h4, h5⟩ := h
        exact ⟨ρ', h1, h2, h3 ▸ Marked.refl .., h4, h5⟩
      · obtain ⟨ρ', h1, h2, h3, h4, h5⟩ := h
        exact ⟨ρ', h1, h2, h3 ▸ Marked.refl .., h4, h5⟩
    cases draw with
    | true =>
      simp only [liftC, if_true] at hL
      split at hL
      case isFalse => cases hL
      rename_i hpl
      simp only [Option.map_eq_some_iff] at hL
      obtain ⟨R, hR, rfl⟩ := hL
      exact wpIn_mono (region_drawn hm hpl hR hN rfl hρ hw) post
    | false =>
      simp only [liftC, Bool.false_eq_true, if_false, Option.map_eq_some_iff] at hL
      obtain ⟨R, hR, rfl⟩ := hL
      exact wpIn_mono (region_text hR hN rfl hρ hw) post
  | .seq x y, inR, L, Q, ρ, a, w, r, hL, hr, hw, hρ, hN => by
    simp only [liftC] at hL
    split at hL
    case h_2 => cases hL
    rename_i A B hA hB
    simp only [Option.some.injEq] at hL; subst hL
    simp only [LC.wp] at hw
    refine wpIn_seq (wpIn_mono (liftC_sound hm x hA hr hw hρ hN) ?_)
    rintro e a1 w1 ⟨ρ1, h1, h2, h3, h4, h5⟩
    cases e with
    | normal =>
      refine wpIn_mono (liftC_sound hm y hB hr h4 h1 h2) ?_
      rintro e a2 w2 ⟨ρ2, g1, g2, g3, g4, g5⟩
      exact ⟨ρ2, g1, g2, h3.trans g3 h5 g5, g4, h5.trans g5⟩
    | _ => exact ⟨ρ1, h1, h2, h3.weak (by simp [LC.plain]; exact fun h _ => h), h4, h5⟩
  | .cond c x y, inR, L, Q, ρ, a, w, r, hL, hr, hw, hρ, hN => by
    simp only [liftC] at hL
    split at hL
    case h_2 => cases hL
    rename_i A B hA hB
    simp only [Option.some.injEq] at hL; subst hL
    simp only [LC.wp] at hw
    obtain ⟨b, hb, h1, h2⟩ := hw
    have hb' := ev_opnd (a := a) (ev_env (fun t v h => hρ t v h) hb)
    cases b with
    | true => exact wpIn_cond hb' (wpIn_mono (liftC_sound hm x hA hr (h1 rfl) (sat_kill hρ) hN) fun _ _ _ h => h.weak (by simp [LC.plain]; exact fun h _ => h))
    | false => exact wpIn_cond hb' (wpIn_mono (liftC_sound hm y hB hr (h2 rfl) (sat_kill hρ) hN) fun _ _ _ h => h.weak (by simp [LC.plain]))
  | .block id x, inR, L, Q, ρ, a, w, r, hL, hr, hw, hρ, hN => by
    simp only [liftC, Option.map_eq_some_iff] at hL
    obtain ⟨A, hA, rfl⟩ := hL
    simp only [LC.wp] at hw
    refine wpIn_block (wpIn_mono (liftC_sound hm x hA hr hw hρ hN) ?_)
    rintro e a1 w1 ⟨ρ1, h1, h2, h3, h4, h5⟩
    cases e with
    | exit k =>
      simp only [postOf, inBlk] at h4
      simp only [Exit.inBlock]
      split
      · rename_i hk; rw [if_pos hk] at h4; exact ⟨ρ1, h1, h2, h3, h4, h5⟩
      · rename_i hk; rw [if_neg hk] at h4; exact ⟨ρ1, h1, h2, h3, h4, h5⟩
    | _ => exact ⟨ρ1, h1, h2, h3, h4, h5⟩
  | .loop x, inR, L, Q, ρ, a, w, r, hL, hr, hw, hρ, hN => by
    simp only [liftC, Option.map_eq_some_iff] at hL
    obtain ⟨A, hA, rfl⟩ := hL
    simp only [LC.wp] at hw
    obtain ⟨ks, I, ⟨n, h0⟩, hround⟩ := hw
    refine wpIn_loop_ghost (fun n a1 w1 => ∃ ρ1, Sat ρ1 a1 ∧ a1.tmps.size = N ∧ Marked A.plain a.defers w.heap.size a1.defers w1.heap ∧ I n ρ1 w1.heap ∧ Same w w1) (n := n) ⟨keepE ks ρ, sat_keep hρ, hN, Marked.refl .., h0, Same.refl _⟩ ?_
    rintro n a1 w1 ⟨ρ1, h1, h2, h3, h4, h5⟩
    refine wpIn_mono (liftC_sound hm x hA hr (hround n ρ1 w1.heap h4) h1 h2) ?_
    rintro e a2 w2 ⟨ρ2, g1, g2, g3, g4, g5⟩
    have hm2 : Marked A.plain a.defers w.heap.size a2.defers w2.heap := (h3.trans g3 h5 g5).weak (by simp)
    cases e with
    | normal =>
      obtain ⟨m, hlt, hI⟩ := g4
      exact ⟨m, hlt, keepE ks ρ2, sat_keep g1, g2, hm2, hI, h5.trans g5⟩
    | _ => exact ⟨ρ2, g1, g2, hm2, g4, h5.trans g5⟩
  | .exit id, inR, L, Q, ρ, a, w, r, hL, hr, hw, hρ, hN => by
    simp only [liftC, Option.some.injEq] at hL; subst hL
    exact wpIn_exit ⟨ρ, hρ, hN, Marked.refl .., hw, Same.refl _⟩
  | .ret, inR, L, Q, ρ, a, w, r, hL, hr, hw, hρ, hN => by
    simp only [liftC, Option.some.injEq] at hL; subst hL
    exact wpIn_ret ⟨ρ, hρ, hN, Marked.refl .., hw, Same.refl _⟩
  | .label l, inR, L, Q, ρ, a, w, r, hL, hr, hw, hρ, hN => by
    simp only [liftC, Option.some.injEq] at hL; subst hL
    exact wpIn_label ⟨ρ, hρ, hN, Marked.refl .., hw, Same.refl _⟩
  | .goto l, _, _, _, _, _, _, _, hL, _, _, _, _ => by simp [liftC] at hL
  | .scope c, inR, L, Q, ρ, a, w, r, hL, hr, hw, hρ, hN => by
    simp only [liftC] at hL
    have hw2 : L.wp P (fun e ρ h => plainExit e = true ∧ Q e ρ h) ρ w.heap := lwp_mono' (fun e ρ h hp hq => ⟨hp, hq⟩) hw
    refine wpIn_scope (wpIn_mono (liftC_sound hm c hL hr hw2 hρ hN) fun e a w ⟨ρ, h1, h2, h3, h4, h5⟩ => ?_)
    cases e with
    | panic ch => exact ⟨fun l h => (by cases h), ρ, h1, h2, h3, h4, h5⟩
    | goto l => cases h4.1
    | outgrown => cases h4.1
    | _ => exact ⟨fun l h => (by cases h), ρ, h1, h2, h3, h4.2, h5⟩
  | .refuse s, _, _, _, _, _, _, _, hL, _, _, _, _ => by simp [liftC] at hL
  | .rangeFunc f ps x y, inR, L, Q, ρ, a, w, r, hL, hr, hw, hρ, hN => by
    simp only [liftC] at hL
    split at hL
    · cases hL
    rename_i hin
    obtain rfl := hr (by simpa using hin)
    split at hL
    case isFalse => cases hL
    rename_i hps
    split at hL
    case h_2 => cases hL
    rename_i A B hA hB
    split at hL
    case isFalse => cases hL
    simp only [Option.some.injEq] at hL; subst hL
    exact wpIn_rangef (fun hw h1 h2 => liftC_sound hm x hA (by simp) hw h1 h2) (fun hw h1 h2 => liftC_sound hm y hB (by simp) hw h1 h2) (fun p hp => by simpa using List.all_eq_true.1 hps p hp) hw hρ hN

end

/-! ### Functions -/

def resE (P : Program) : ResultVar → Option E
  | .tmp t => some (.tmp t)
  | .cell a t => loadE P t (.tmp a)

def pack : List Value → Value
  | [v] => v
  | vs => .tuple vs.toArray

structure LFn where
  res : List E
  body : LC
  deriving Inhabited

def liveOf : Code → List Nat
  | .region _ ops _ => (ops.toList.foldl (fun (p : List Nat × List Nat) o =>
      ((tmpsOf o).foldl (fun l t => if p.2.contains t || l.contains t then l else t :: l) p.1, match o.dst with | some d => d :: p.2 | none => p.2)) ([], [])).1
  | .seq x y => liveOf x ++ liveOf y
  | .cond _ x y => liveOf x ++ liveOf y
  | .block _ x | .loop x | .scope x => liveOf x
  | .rangeFunc f _ x y => (match f with | .tmp t => [t] | _ => []) ++ liveOf x ++ liveOf y
  | _ => []

def condsOf : Code → List Nat
  | .seq x y => condsOf x ++ condsOf y
  | .cond c x y => (match c with | .tmp t => [t] | _ => []) ++ condsOf x ++ condsOf y
  | .block _ x | .loop x | .scope x => condsOf x
  | .rangeFunc _ _ x y => condsOf x ++ condsOf y
  | _ => []

def liveFn (fn : Func) (c : Code) : List Nat := (fn.results.toList.map fun | .tmp t => t | .cell a _ => a) ++ (liveOf c).eraseDups

def liftF (P : Program) (fn : Func) : Option LFn :=
  match fn.body with
  | some c => match fn.results.toList.mapM (resE P), liftC P fn.ntmps (condsOf c ++ liveFn fn c) (liveFn fn c) false c with
    | some res, some L => some ⟨res, L⟩
    | _, _ => none
  | none => none

def argsE : Nat → List Value → Env
  | _, [] => []
  | k, v :: vs => (k, v) :: argsE (k + 1) vs

def fnPost (res : List E) (R : Value → Heap → Prop) : Post
  | .normal, ρ, h | .ret, ρ, h => ∃ vs, evs (look ρ) (vw h) res = some vs ∧ R (pack vs) h
  | _, _, _ => False

theorem look_argsE : ∀ (vs : List Value) (k t : Nat) (v : Value), look (argsE k vs) t = some v → k ≤ t ∧ vs[t - k]? = some v
  | [], _, _, _, h => by simp [argsE, look] at h
  | u :: vs, k, t, v, h => by
    simp only [argsE, look] at h
    split at h
    · rename_i e; subst e; simp only [Option.some.injEq] at h; subst h; exact ⟨Nat.le_refl _, by simp⟩
    · rename_i e
      obtain ⟨h1, h2⟩ := look_argsE vs (k + 1) t v h
      refine ⟨by omega, ?_⟩
      have : t - k = (t - (k + 1)) + 1 := by omega
      rw [this]; simpa using h2

theorem run_res {P : Program} {a : Act} {w : World} {F : ResultVar → Sem Value} (hF1 : ∀ t, F (ResultVar.tmp t) = pure (a.tmps.getD t undef))
    (hF2 : ∀ b t, F (ResultVar.cell b t) = (do loadVar t (← asAddr (a.tmps.getD b undef)))) : ∀ {rs : List ResultVar} {es : List E} {vs : List Value}, rs.mapM (resE P) = some es → evs (slots a) (vw w.heap) es = some vs →
    (rs.mapM F).run P w = Result.ok vs w
  | [], es, vs, h, hv => by
    simp at h; subst h
    simp [evs] at hv; subst hv
    simp
  | x :: rs, es, vs, h, hv => by
    simp only [List.mapM_cons, Option.bind_eq_bind, Option.bind_eq_some_iff] at h
    obtain ⟨e, he, es', hes, h⟩ := h
    simp only [Option.pure_def, Option.some.injEq] at h
    subst h
    simp only [evs] at hv
    split at hv
    · rename_i v vs' hv1 hv2
      simp only [Option.some.injEq] at hv
      subst hv
      have ih := run_res hF1 hF2 hes hv2
      cases x with
      | tmp t =>
        simp only [resE, Option.some.injEq] at he
        subst he
        simp only [ev, slots] at hv1
        simp [hF1, hv1, ih]
      | cell a' t =>
        simp only [resE] at he
        have hx : ∃ u, ev (slots a) (vw w.heap) (.tmp a') = some u := by
          unfold loadE at he
          split at he
          · simp only [Option.some.injEq] at he; subst he; obtain ⟨u, hu, _⟩ := ev_un hv1; exact ⟨u, hu⟩
          · simp only [Option.some.injEq] at he; subst he; obtain ⟨u, hu, _⟩ := ev_un hv1; exact ⟨u, hu⟩
          · cases he
        obtain ⟨u, hu⟩ := hx
        have h1 := run_load he hu hv1
        simp only [ev, slots] at hu
        cases u with
        | pointer o =>
          cases o with
          | none => simp [Instr.loadAt, Instr.sureAddr, stuck, Sem.run] at h1
          | some ad =>
            simp [Instr.loadAt, Instr.sureAddr] at h1
            simp [hF2, hu, asAddr, h1, ih]
        | _ => simp [Instr.loadAt, Instr.sureAddr, stuck, Sem.run] at h1
    · cases hv

theorem pack_eq (vs : List Value) : (if h : vs.toArray.size = 1 then vs.toArray[0] else Value.tuple vs.toArray) = pack vs := by
  match vs with
  | [] => rfl
  | [v] => rfl
  | v :: u :: l => simp [pack]

theorem run_results {P : Program} {fn : Func} {a : Act} {w : World} {es : List E} {vs : List Value} (h : fn.results.toList.mapM (resE P) = some es) (hv : evs (slots a) (vw w.heap) es = some vs) :
    (results fn a.tmps).run P w = .ok (pack vs) w := by
  unfold results
  rw [Array.mapM_eq_mapM_toList]
  have h1 := run_res (P := P) (a := a) (w := w) (F := fun x => match x with | .tmp t => pure (a.tmps.getD t undef) | .cell b t => do loadVar t (← asAddr (a.tmps.getD b undef))) (fun _ => rfl) (fun _ _ => rfl) h hv
  rw [← pack_eq]
  simp only [Sem.run_bind, Sem.run_map]
  erw [h1]
  simp [Result.andThen]

theorem lift_post {pp : PP} {P : Program} {fn : Func} {L : LFn} {args : List Value} {Q : Post} {w : World} {c : Code} (hm : P.follows .mixedOrders = true) (hc : fn.body = some c)
    (hL : liftF P fn = some L) (hn : args.length ≤ fn.ntmps) (hw : L.body.wp P Q (argsE 0 args) w.heap) : fn.results.toList.mapM (resE P) = some L.res ∧
    c.wpIn (Fw none) 0 P (LPost fn.ntmps L.body.plain [] w Q) { tmps := args.toArray ++ Array.replicate (fn.ntmps - args.toArray.size) undef, defers := [] } w := by
  unfold liftF at hL
  split at hL
  case h_2 => cases hL
  rename_i c' hc'
  rw [hc] at hc'; cases hc'
  split at hL
  case h_2 => cases hL
  rename_i res B hres hB
  simp only [Option.some.injEq] at hL
  subst hL
  have hsat : Sat (argsE 0 args) { tmps := args.toArray ++ Array.replicate (fn.ntmps - args.toArray.size) undef, defers := [] } := by
    intro t v hl
    obtain ⟨_, h2⟩ := look_argsE args 0 t v hl
    have : t < args.length := by
      rcases Nat.lt_or_ge t args.length with h | h
      · exact h
      · simp [List.getElem?_eq_none h] at h2
    simp only [Nat.sub_zero] at h2
    simp only [Array.getElem?_append, List.size_toArray, this, if_true, List.getElem?_toArray]
    exact h2
  exact ⟨hres, liftC_sound (r := none) hm c hB (fun _ => rfl) hw hsat (by simp; omega)⟩

theorem liftF_body {P : Program} {fn : Func} {L : LFn} (hL : liftF P fn = some L) : ∃ c, fn.body = some c := by
  unfold liftF at hL
  split at hL
  · rename_i c hc; exact ⟨c, hc⟩
  · cases hL

theorem calls_of_lift {P : Program} {f : FuncId} {fn : Func} {L : LFn} {args : List Value} {h : Heap} {R : Value → Heap → Prop} (hm : P.follows .mixedOrders = true) (hf : P.funcs[f]? = some fn)
    (hL : liftF P fn = some L) (hn : args.length ≤ fn.ntmps) (hpl : L.body.plain = true) (hw : L.body.wp P (fnPost L.res R) (argsE 0 args) h) : HCalls P f args.toArray h R := by
  intro w hwh
  subst hwh
  obtain ⟨c, hc⟩ := liftF_body hL
  obtain ⟨hres, hwp⟩ := lift_post hm hc hL hn hw
  refine (callsIn_wide (n := 0)).1 (callsIn_of_wp hf hc trivial (wpIn_mono hwp ?_))
  rintro e a1 w1 ⟨ρ1, h1, h2, ⟨ms, h3, hms, _⟩, h4, h5⟩
  rw [hms hpl] at h3
  have fin : (∃ vs, evs (look ρ1) (vw w1.heap) L.res = some vs ∧ R (pack vs) w1.heap) → a1.defers = [] ∧ ∃ v, (results fn a1.tmps).run P w1 = .ok v w1 ∧ ∃ u, Ending.returned v = .returned u ∧ R u w1.heap ∧ Same w w1 := by
    rintro ⟨vs, g1, g2⟩
    exact ⟨h3, pack vs, run_results hres (evs_env (fun t v h => h1 t v h) g1), pack vs, rfl, g2, h5⟩
  cases e with
  | normal => exact fin h4
  | ret => exact fin h4
  | panic ch => exact h4.2.elim
  | _ => exact h4.elim

/-- Panics as told, whatever stands in the slots. -/
abbrev ppOf (Rp : List PanicEntry → Heap → Prop) : PP := ⟨Rp, fun _ => True⟩

/-- A function that may panic. -/
theorem calls_of_liftP {P : Program} {f : FuncId} {fn : Func} {L : LFn} {args : List Value} {h : Heap} {R : Value → Heap → Prop} {Rp : List PanicEntry → Heap → Prop} (hm : P.follows .mixedOrders = true) (hf : P.funcs[f]? = some fn)
    (hL : liftF P fn = some L) (hn : args.length ≤ fn.ntmps) (hpl : L.body.plain = true) (hw : @LC.wp (ppOf Rp) P L.body (fnPost L.res R) (argsE 0 args) h) : HCallsP P f args.toArray h R Rp := by
  intro w hwh
  subst hwh
  obtain ⟨c, hc⟩ := liftF_body hL
  obtain ⟨hres, hwp⟩ := lift_post hm hc hL hn hw
  refine (callsIn_wide (n := 0)).1 (callsIn_of_wp hf hc trivial (wpIn_mono hwp ?_))
  rintro e a1 w1 ⟨ρ1, h1, h2, ⟨ms, h3, hms, _⟩, h4, h5⟩
  rw [hms hpl] at h3
  have fin : (∃ vs, evs (look ρ1) (vw w1.heap) L.res = some vs ∧ R (pack vs) w1.heap) → a1.defers = [] ∧ ∃ v, (results fn a1.tmps).run P w1 = .ok v w1 ∧ ((∃ u, Ending.returned v = .returned u ∧ R u w1.heap ∧ Same w w1) ∨ ∃ ch, Ending.returned v = .panicked ch ∧ Rp ch w1.heap ∧ Same w w1) := by
    rintro ⟨vs, g1, g2⟩
    exact ⟨h3, pack vs, run_results hres (evs_env (fun t v h => h1 t v h) g1), .inl ⟨pack vs, rfl, g2, h5⟩⟩
  cases e with
  | normal => exact fin h4
  | ret => exact fin h4
  | panic ch => exact ⟨h3, .inr ⟨ch, rfl, h4.2, h5⟩⟩
  | _ => exact h4.elim

/-- Behind the function's end: of the heap blocks for deferred calls alone, which came new, are others. -/
structure Swept (n : Nat) (h h' : Heap) : Prop where
  size : h'.size = h.size
  same : ∀ b, b < n ∨ h[b]? ≠ some (.deferred (some [])) → h'[b]? = h[b]?
theorem Swept.refl (n : Nat) (h : Heap) : Swept n h h := ⟨rfl, fun _ _ => rfl⟩

def fnPostM (n : Nat) (res : List E) (R : Value → Heap → Prop) : Post
  | .normal, ρ, h | .ret, ρ, h => ∀ h', Swept n h h' → ∃ vs, evs (look ρ) (vw h') res = some vs ∧ R (pack vs) h'
  | _, _, _ => False

theorem leaves_marks {P : Program} {fn : Func} {a : Act} {w0 : World} {R : Ending → World → Prop} : ∀ (ms : List Nat) (w : World), ms.Nodup → (∀ m ∈ ms, w0.heap.size ≤ m ∧ w.heap[m]? = some (.deferred (some []))) → Same w0 w →
    (∀ w', Swept w0.heap.size w.heap w'.heap → Same w0 w' → ∃ v, (results fn a.tmps).run P w' = .ok v w' ∧ R (.returned v) w') →
    LeavesInM (Fw none) 0 P fn a.tmps R (ms.map fun m => { target := .collected m, args := #[] }) .returning w
  | [], w, _, _, hS, h => h w (Swept.refl _ _) hS
  | m :: ms, w, hnd, hms, hS, h => by
    obtain ⟨h1, h2⟩ := List.nodup_cons.1 hnd
    obtain ⟨hm1, hm2⟩ := hms m (List.mem_cons_self ..)
    have hS1 : Same w0 (w.putObj m (.deferred none)) := ⟨hS.os, hS.output, hS.tape, by simpa [World.putObj] using hS.size, fun b hb => by
      have hne : b ≠ m := fun e => by have := (Array.getElem?_eq_some_iff.1 hb).1; omega
      rw [World.putObj_heap_other hne]; exact hS.defs b hb⟩
    refine ⟨by simp, .inl ⟨m, _, rfl, run_takeDeferred hm2, leaves_marks ms _ h2 (fun k hk => ?_) hS1 fun w' hsw hS' => h w' ⟨by rw [hsw.size]; simp [World.putObj], fun b hb => ?_⟩ hS'⟩⟩
    · have hne : k ≠ m := fun e => h1 (e ▸ hk)
      rw [World.putObj_heap_other hne]; exact hms k (List.mem_cons_of_mem _ hk)
    · have hne : b ≠ m := fun e => by
        subst e
        rcases hb with hb | hb
        · omega
        · exact hb hm2
      have e : (w.putObj m (.deferred none)).heap[b]? = w.heap[b]? := World.putObj_heap_other hne
      rw [hsw.same b (by rw [e]; exact hb), e]

/-- A function that holds ranges over functions. -/
theorem calls_of_liftM {P : Program} {f : FuncId} {fn : Func} {L : LFn} {args : List Value} {h : Heap} {R : Value → Heap → Prop} (hm : P.follows .mixedOrders = true) (hf : P.funcs[f]? = some fn)
    (hL : liftF P fn = some L) (hn : args.length ≤ fn.ntmps) (hw : L.body.wp P (fnPostM h.size L.res R) (argsE 0 args) h) : HCalls P f args.toArray h R := by
  intro w hwh
  subst hwh
  obtain ⟨c, hc⟩ := liftF_body hL
  obtain ⟨hres, hwp⟩ := lift_post hm hc hL hn hw
  refine (callsIn_wide (n := 0)).1 (callsIn_of_wp_marks hf hc trivial (wpIn_mono hwp ?_))
  rintro e a1 w1 ⟨ρ1, h1, h2, ⟨ms, h3, _, hms, hnd⟩, h4, h5⟩
  have fin : (∀ h', Swept w.heap.size w1.heap h' → ∃ vs, evs (look ρ1) (vw h') L.res = some vs ∧ R (pack vs) h') → LeavesInM (Fw none) 0 P fn a1.tmps (fun e w' => ∃ u, e = .returned u ∧ R u w'.heap ∧ Same w w') a1.defers .returning w1 := by
    intro hq
    rw [h3, List.append_nil]
    refine leaves_marks ms w1 hnd hms h5 fun w' hsw hS => ?_
    obtain ⟨vs, g1, g2⟩ := hq w'.heap hsw
    exact ⟨pack vs, run_results hres (evs_env (fun t v h => h1 t v h) g1), pack vs, rfl, g2, hS⟩
  cases e with
  | normal => exact fin h4
  | ret => exact fin h4
  | panic ch => exact h4.2.elim
  | _ => exact h4.elim

/-! A function that defers: its text in parts. -/
def liveA (fn : Func) : List Nat := match fn.body with | some c => condsOf c ++ liveFn fn c | none => []
def liveB (fn : Func) : List Nat := match fn.body with | some c => liveFn fn c | none => []
def partC0 (fn : Func) : Code := match fn.body with | some (.seq c _) => c | _ => .skip
def partR (fn : Func) : Code := match fn.body with | some (.seq _ (.seq c _)) => c | _ => .skip
def partC1 (fn : Func) : Code := match fn.body with | some (.seq _ (.seq _ c)) => c | _ => .skip
def partT (fn : Func) : Code := match fn.body with | some (.seq _ c) => c | _ => .skip
def regOps : Code → Array Oper | .region _ ops _ => ops | _ => #[]
def regId : Code → Nat | .region i _ _ => i | _ => 0
def partO (fn : Func) (i : Nat) : Oper := ((regOps (partR fn))[i]?).getD default
def partO0 (fn : Func) (i : Nat) : Oper := ((regOps (partC0 fn))[i]?).getD default
def LC.tail : LC → LC | .seq _ y => y | _ => .skip
end Go.Lft

/- Stepping through lifted code: the rules as rewrite rules. -/
namespace Go.Lft
open Go
variable {po : OP} {pp : PP}

/-- There is a value, and it is good. -/
def sat {α : Type} (o : Option α) (K : α → Prop) : Prop := ∃ v, o = some v ∧ K v
@[simp] theorem sat_some {α : Type} {v : α} {K : α → Prop} : sat (some v) K = K v := by simp [sat]
@[simp] theorem sat_none {α : Type} {K : α → Prop} : sat none K = False := by simp [sat]
@[congr] theorem sat_congr {α : Type} {o o' : Option α} {K : α → Prop} (h : o = o') : sat o K = sat o' K := by rw [h]
theorem sat_intro {α : Type} {o : Option α} {K : α → Prop} {v : α} (h : o = some v) (hk : K v) : sat o K := ⟨v, h, hk⟩
theorem sat_bind {α β : Type} {o : Option α} {f : α → Option β} {K : β → Prop} : sat (o.bind f) K = sat o fun v => sat (f v) K := by
  cases o <;> simp [sat]
def condP (o : Option Value) (A B : Prop) : Prop := ∃ b, o = some (.bool b) ∧ (b = true → A) ∧ (b = false → B)
@[simp] theorem condP_true {A B : Prop} : condP (some (.bool true)) A B = A := by simp [condP]
@[simp] theorem condP_false {A B : Prop} : condP (some (.bool false)) A B = B := by simp [condP]
@[simp] theorem condP_decide {A B p : Prop} [Decidable p] : condP (some (.bool (decide p))) A B = ((p → A) ∧ (¬ p → B)) := by simp [condP]
@[simp] theorem condP_not {A B : Prop} {b : Bool} : condP (some (.bool (!b))) A B = condP (some (.bool b)) B A := by cases b <;> simp [condP]
@[congr] theorem condP_congr {o o' : Option Value} {A B : Prop} (h : o = o') : condP o A B = condP o' A B := by rw [h]
theorem condP_bool {A B : Prop} {b : Bool} : condP (some (.bool b)) A B = ((b = true → A) ∧ (b = false → B)) := by simp [condP]
theorem condP_or {A B : Prop} {x y : Bool} : condP (some (.bool (x || y))) A B = ((x = true ∨ y = true → A) ∧ (x = false ∧ y = false → B)) := by simp [condP]

section
variable {P : Program} {Q : Post} {ρ : Env} {h : Heap}

@[congr] theorem lwp_congr {x : LC} {ρ' : Env} {h' : Heap} (hρ : ρ = ρ') (hh : h = h') : LC.wp P x Q ρ h = LC.wp P x Q ρ' h' := by rw [hρ, hh]
@[congr] theorem regWp_congr {m : Option View} {r : Reg} {Q : Env → Heap → Prop} {ρ' : Env} {h' : Heap} (hρ : ρ = ρ') (hh : h = h') : regWp P m r Q ρ h = regWp P m r Q ρ' h' := by rw [hρ, hh]
@[simp] theorem lwp_skip : LC.wp P .skip Q ρ h = Q .normal ρ h := rfl
@[simp] theorem lwp_ret : LC.wp P .ret Q ρ h = Q .ret ρ h := rfl
@[simp] theorem lwp_exit {i : Nat} : LC.wp P (.exit i) Q ρ h = Q (.exit i) ρ h := rfl
@[simp] theorem lwp_seq {x y : LC} : LC.wp P (.seq x y) Q ρ h = x.wp P (thenL (y.wp P Q) Q) ρ h := rfl
@[simp] theorem lwp_block {i : Nat} {x : LC} : LC.wp P (.block i x) Q ρ h = x.wp P (inBlk i Q) ρ h := rfl
@[simp] theorem lwp_reg {r : Reg} : LC.wp P (.reg false r) Q ρ h = regWp P none r (Q .normal) ρ h := rfl
theorem lwp_drawn {r : Reg} : LC.wp P (.reg true r) Q ρ h = ∃ H : View, H.le (vw h) ∧ regWp P (some H) r (Q .normal) ρ h := rfl
@[simp] theorem lwp_cond {c : E} {kill : List Nat} {x y : LC} : LC.wp P (.cond c kill x y) Q ρ h = condP (ev (look ρ) (vw h) c) (x.wp P Q (killE ρ kill) h) (y.wp P Q (killE ρ kill) h) := rfl
/-- A loop: its relation, which bears a number that goes down. What is owed at the round's end stands behind a name. -/
theorem lwp_loop {x : LC} (ks : List Nat) (I : Nat → Env → Heap → Prop) (n : Nat) (h0 : I n (keepE ks ρ) h)
    (hr : ∀ n ρ h, I n ρ h → ∀ K : Env → Heap → Prop, (∀ m ρ' h', m < n → I m (keepE ks ρ') h' → K ρ' h') → x.wp P (thenL K Q) ρ h) : LC.wp P (.loop x) Q ρ h :=
  ⟨ks, I, ⟨n, h0⟩, fun n ρ h hI => hr n ρ h hI (fun ρ' h' => ∃ m, m < n ∧ I m (keepE ks ρ') h') fun m _ _ hlt hI' => ⟨m, hlt, hI'⟩⟩
@[simp] theorem keepE_nil : keepE [] ρ = [] := rfl
theorem keepE_cons {t : Nat} {ts : List Nat} {v : Value} (hv : look ρ t = some v) : keepE (t :: ts) ρ = (t, v) :: keepE ts ρ := by simp [keepE, hv]
@[simp] theorem regWp_fin {m : Option View} {Q : Env → Heap → Prop} {kill : List Nat} {sets : List (Nat × E)} {chk : List E} :
    regWp P m (.fin kill sets chk) Q ρ h = sat (evP (look ρ) (part m h) sets) fun vs => okE (look ρ) (part m h) chk ∧ Q (setsE (killE ρ kill) vs) h := rfl
@[simp] theorem part_none : part none h = vw h := rfl
@[simp] theorem part_some {H : View} : part (some H) h = H := rfl
@[simp] theorem keeps_none : keeps none h = True := by simp [keeps]
@[simp] theorem keeps_some {H : View} : keeps (some H) h = H.le (vw h) := by simp [keeps]
attribute [simp] setE setsE putE argsE
@[simp] theorem pack_one {v : Value} : pack [v] = v := rfl
@[simp] theorem pack_two {v u : Value} : pack [v, u] = .tuple #[v, u] := rfl
@[simp] theorem pack_three {v u x : Value} : pack [v, u, x] = .tuple #[v, u, x] := rfl
@[simp] theorem pack_none : pack [] = .tuple #[] := rfl
@[simp] theorem look_nil {t : Nat} : look [] t = none := rfl
@[simp] theorem look_cons {k t : Nat} {v : Value} : look ((k, v) :: ρ) t = if k = t then some v else look ρ t := rfl
@[simp] theorem thenL_normal {K : Env → Heap → Prop} : thenL K Q .normal ρ h = K ρ h := rfl
@[simp] theorem thenL_ret {K : Env → Heap → Prop} : thenL K Q .ret ρ h = Q .ret ρ h := rfl
@[simp] theorem thenL_exit {K : Env → Heap → Prop} {i : Nat} : thenL K Q (.exit i) ρ h = Q (.exit i) ρ h := rfl
@[simp] theorem inBlk_normal {i : Nat} : inBlk i Q .normal ρ h = Q .normal ρ h := rfl
@[simp] theorem inBlk_ret {i : Nat} : inBlk i Q .ret ρ h = Q .ret ρ h := rfl
@[simp] theorem inBlk_exit {i k : Nat} : inBlk i Q (.exit k) ρ h = if k = i then Q .normal ρ h else Q (.exit k) ρ h := rfl

@[simp] theorem fnPost_ret {es : List E} {R : Value → Heap → Prop} : fnPost es R .ret ρ h = sat (evs (look ρ) (vw h) es) fun vs => R (pack vs) h := rfl
@[simp] theorem fnPost_normal {es : List E} {R : Value → Heap → Prop} : fnPost es R .normal ρ h = sat (evs (look ρ) (vw h) es) fun vs => R (pack vs) h := rfl
@[simp] theorem evP_nil {σ : Nat → Option Value} {H : View} : evP σ H [] = some [] := rfl
@[simp] theorem evP_cons {σ : Nat → Option Value} {H : View} {t : Nat} {e : E} {l : List (Nat × E)} : evP σ H ((t, e) :: l) = (ev σ H e).bind fun v => (evP σ H l).bind fun vs => some ((t, v) :: vs) := by
  simp only [evP]; cases ev σ H e <;> cases evP σ H l <;> rfl
@[simp] theorem evs_nil {σ : Nat → Option Value} {H : View} : evs σ H [] = some [] := rfl
@[simp] theorem evs_cons {σ : Nat → Option Value} {H : View} {e : E} {l : List E} : evs σ H (e :: l) = (ev σ H e).bind fun v => (evs σ H l).bind fun vs => some (v :: vs) := by
  simp only [evs]; cases ev σ H e <;> cases evs σ H l <;> rfl
@[simp] theorem okE_nil {σ : Nat → Option Value} {H : View} : okE σ H [] = True := rfl
@[simp] theorem okE_cons {σ : Nat → Option Value} {H : View} {e : E} {l : List E} : okE σ H (e :: l) = (sat (ev σ H e) fun _ => okE σ H l) := by
  simp only [okE, sat]; exact propext ⟨fun ⟨⟨v, hv⟩, h⟩ => ⟨v, hv, h⟩, fun ⟨v, hv, h⟩ => ⟨⟨v, hv⟩, h⟩⟩
@[simp] theorem killE_nil {ts : List Nat} : killE [] ts = [] := rfl
@[simp] theorem killE_cons {k : Nat} {v : Value} {ts : List Nat} : killE ((k, v) :: ρ) ts = if ts.contains k then killE ρ ts else (k, v) :: killE ρ ts := by
  simp only [killE, List.filter_cons]; split <;> split <;> simp_all

/-- A cut: what holds between. -/
theorem lwp_cut {x : LC} (M : Env → Heap → Prop) {N : Env → Heap → Prop} (h1 : ∀ K : Env → Heap → Prop, (∀ ρ h, M ρ h → K ρ h) → x.wp P (thenL K Q) ρ h) (h2 : ∀ ρ h, M ρ h → N ρ h) : LC.wp P x (thenL N Q) ρ h :=
  lwp_mono (fun e ρ h hq => by cases e <;> first | exact h2 _ _ hq | exact hq) (h1 M fun _ _ h => h)

/-- A drawn region whose operations only read: over the heap as it is. -/
theorem lwp_drawn_fin {kill : List Nat} {sets : List (Nat × E)} {chk : List E} {vs : List (Nat × Value)} (h1 : evP (look ρ) (vw h) sets = some vs) (h2 : okE (look ρ) (vw h) chk) (h3 : Q .normal (setsE (killE ρ kill) vs) h) :
    LC.wp P (.reg true (.fin kill sets chk)) Q ρ h := ⟨vw h, View.le_refl _, vs, h1, h2, h3⟩
@[simp] theorem lwp_drawn_fin' {kill : List Nat} {sets : List (Nat × E)} {chk : List E} : LC.wp P (.reg true (.fin kill sets chk)) Q ρ h = sat (evP (look ρ) (vw h) sets) fun vs => okE (look ρ) (vw h) chk ∧ Q .normal (setsE (killE ρ kill) vs) h := by
  refine propext ⟨?_, fun ⟨vs, h1, h2, h3⟩ => lwp_drawn_fin h1 h2 h3⟩
  rintro ⟨H, hH, vs, h1, h2, h3⟩
  have e1 : ∀ {l : List (Nat × E)} {vs}, evP (look ρ) H l = some vs → evP (look ρ) (vw h) l = some vs := by
    intro l
    induction l with
    | nil => intro vs h; exact h
    | cons p l ih =>
      intro vs h
      obtain ⟨t, e⟩ := p
      simp only [evP] at h ⊢
      split at h
      · rename_i v vs' hv hvs
        simp only [ev_mono hH hv, ih hvs]; exact h
      · cases h
  have e2 : ∀ {l : List E}, okE (look ρ) H l → okE (look ρ) (vw h) l := by
    intro l
    induction l with
    | nil => intro h; exact h
    | cons e l ih => intro ⟨⟨v, hv⟩, h⟩; exact ⟨⟨v, ev_mono hH hv⟩, ih h⟩
  exact ⟨vs, e1 h1, e2 h2, h3⟩

/-- A function by its lifted text: what is owed at its end stands behind a name. -/
theorem calls_lift {P : Program} {f : FuncId} {fn : Func} {L : LFn} {args : List Value} {h : Heap} {R : Value → Heap → Prop} (hm : P.follows .mixedOrders = true) (hf : P.funcs[f]? = some fn)
    (hL : liftF P fn = some L) (hn : args.length ≤ fn.ntmps) (hw : ∀ K : Value → Heap → Prop, (∀ v h', R v h' → K v h') → @LC.wp noPP P L.body (fnPost L.res K) (argsE 0 args) h) (hpl : L.body.plain = true := by kernel_rfl) : HCalls P f args.toArray h R :=
  calls_of_lift hm hf hL hn hpl (hw R fun _ _ h => h)
/-- The same, of one that may panic. -/
theorem calls_liftP {P : Program} {f : FuncId} {fn : Func} {L : LFn} {args : List Value} {h : Heap} {R : Value → Heap → Prop} {Rp : List PanicEntry → Heap → Prop} (hm : P.follows .mixedOrders = true) (hf : P.funcs[f]? = some fn)
    (hL : liftF P fn = some L) (hn : args.length ≤ fn.ntmps) (hw : ∀ (K : Value → Heap → Prop) (Kp : List PanicEntry → Heap → Prop), (∀ v h', R v h' → K v h') → (∀ ch h', Rp ch h' → Kp ch h') → @LC.wp (ppOf Kp) P L.body (fnPost L.res K) (argsE 0 args) h) (hpl : L.body.plain = true := by kernel_rfl) : HCallsP P f args.toArray h R Rp :=
  calls_of_liftP hm hf hL hn hpl (hw R Rp (fun _ _ h => h) fun _ _ h => h)
/-- The same, where the text holds ranges over functions. -/
theorem calls_liftM {P : Program} {f : FuncId} {fn : Func} {L : LFn} {args : List Value} {h : Heap} {R : Value → Heap → Prop} (hm : P.follows .mixedOrders = true) (hf : P.funcs[f]? = some fn)
    (hL : liftF P fn = some L) (hn : args.length ≤ fn.ntmps) (hw : ∀ K : Value → Heap → Prop, (∀ v h', R v h' → K v h') → @LC.wp noPP P L.body (fnPostM h.size L.res K) (argsE 0 args) h) : HCalls P f args.toArray h R :=
  calls_of_liftM hm hf hL hn (hw R fun _ _ h => h)

/-! ### Expressions -/
section
variable {σ : Nat → Option Value} {H : View} {x y c : E} {v : Value} {a b : Int} {k : IntKind}

@[simp] theorem ev_tmp {t : Nat} : ev σ H (.tmp t) = σ t := rfl
@[simp] theorem ev_con : ev σ H (.con v) = some v := rfl
@[simp] theorem ev_un_eq {o : Un} : ev σ H (.un o x) = (ev σ H x).bind (o.ev H) := by
  simp only [ev]; cases ev σ H x <;> rfl
@[simp] theorem ev_bin_eq {o : Bn} : ev σ H (.bin o x y) = (ev σ H x).bind fun v => (ev σ H y).bind (o.ev v) := by
  simp only [ev]; cases ev σ H x <;> cases ev σ H y <;> rfl
@[simp] theorem bool_ite (c : Prop) [Decidable c] (x y : Bool) : (if c then some (Value.bool x) else some (Value.bool y)) = some (.bool (if c then x else y)) := by split <;> rfl
@[simp] theorem ev_ite_eq : ev σ H (.ite c x y) = (ev σ H c).bind fun u => (vB u).bind fun b => if b then ev σ H x else ev σ H y := by
  simp only [ev]
  cases ev σ H c with
  | none => rfl
  | some u =>
    cases u <;> try rfl
    rename_i b; cases b <;> rfl
/-- A guarded value: what it is where the guard does not hold plays no part. -/
def gdv (b : Bool) : Value → Value → Value
  | .bool d, v => if d = b then v else undef
  | _, _ => undef
def gdO (b : Bool) : Value → Option Value → Option Value
  | .bool d, o => if d = b then o else some undef
  | _, _ => some undef
@[simp] theorem ev_gd_eq {b : Bool} : ev σ H (.gd c b x) = (ev σ H c).bind fun u => gdO b u (ev σ H x) := by
  simp only [ev]
  cases hc : ev σ H c with
  | none => rfl
  | some u =>
    cases u <;> try rfl
    rename_i d; cases d <;> cases b <;> rfl
@[simp] theorem gdO_some {b : Bool} {u v : Value} : gdO b u (some v) = some (gdv b u v) := by
  cases u <;> simp only [gdO, gdv]
  split <;> rfl
@[simp] theorem gdO_is {b : Bool} {o : Option Value} : gdO b (.bool b) o = o := by simp [gdO]
@[simp] theorem gdO_tf {o : Option Value} : gdO true (.bool false) o = some undef := rfl
@[simp] theorem gdO_ft {o : Option Value} : gdO false (.bool true) o = some undef := rfl
@[simp] theorem gdv_is {b : Bool} {v : Value} : gdv b (.bool b) v = v := by simp [gdv]
@[simp] theorem gdv_tf {v : Value} : gdv true (.bool false) v = undef := rfl
@[simp] theorem gdv_ft {v : Value} : gdv false (.bool true) v = undef := rfl
@[simp] theorem un_len {p : Option Addr} {n m : Nat} : Un.ev H .len (.slice p n m) = some (.int .i64 n) := rfl
@[simp] theorem un_not {b : Bool} : Un.ev H .not (.bool b) = some (.bool (!b)) := rfl
@[simp] theorem vB_bool {b : Bool} : vB (.bool b) = some b := rfl
@[simp] theorem vI_int : vI (.int k a) = some (k, a) := rfl
@[simp] theorem i2_int {f : IntKind → Int → Int → Option Value} : i2 (.int k a) (.int k b) f = f k a b := by simp [i2]
@[simp] theorem bn_lss : Bn.ev (.cmp .lss) (.int k a) (.int k b) = some (.bool (decide (a < b))) := by simp [Bn.ev, cmpI]
@[simp] theorem bn_leq : Bn.ev (.cmp .leq) (.int k a) (.int k b) = some (.bool (decide (a ≤ b))) := by simp [Bn.ev, cmpI]
@[simp] theorem bn_gtr : Bn.ev (.cmp .gtr) (.int k a) (.int k b) = some (.bool (decide (b < a))) := by simp [Bn.ev, cmpI]
@[simp] theorem bn_geq : Bn.ev (.cmp .geq) (.int k a) (.int k b) = some (.bool (decide (b ≤ a))) := by simp [Bn.ev, cmpI]
@[simp] theorem bn_eql : Bn.ev (.cmp .eql) (.int k a) (.int k b) = some (.bool (decide (a = b))) := by simp [Bn.ev, cmpI]; rfl
@[simp] theorem bn_neq : Bn.ev (.cmp .neq) (.int k a) (.int k b) = some (.bool (!decide (a = b))) := by simp [Bn.ev, cmpI]; rfl
@[simp] theorem bn_add : Bn.ev (.arith .add) (.int k a) (.int k b) = some (.int k (k.wrap (a + b))) := by simp [Bn.ev, arithI]
@[simp] theorem bn_sub : Bn.ev (.arith .sub) (.int k a) (.int k b) = some (.int k (k.wrap (a - b))) := by simp [Bn.ev, arithI]
@[simp] theorem bn_rem (h : b ≠ 0) : Bn.ev (.div .rem) (.int k a) (.int k b) = some (.int k (a.tmod b)) := by simp [Bn.ev, divI, h]
@[simp] theorem bn_quo (h : b ≠ 0) : Bn.ev (.div .quo) (.int k a) (.int k b) = some (.int k (k.wrap (a.tdiv b))) := by simp [Bn.ev, divI, h]
@[simp] theorem bn_min : Bn.ev .min (.int k a) (.int k b) = some (.int k (if b < a then b else a)) := by simp [Bn.ev]
@[simp] theorem bn_max : Bn.ev .max (.int k a) (.int k b) = some (.int k (if a < b then b else a)) := by simp [Bn.ev]
@[simp] theorem bn_eqB {n : Bool} {p q : Bool} : Bn.ev (.eqB n) (.bool p) (.bool q) = some (.bool ((p == q) != n)) := rfl
@[simp] theorem bn_mul : Bn.ev (.arith .mul) (.int k a) (.int k b) = some (.int k (k.wrap (a * b))) := by simp [Bn.ev, arithI]
end
end
end Go.Lft

/- What values read as: typed data over a part of a heap. -/
namespace Go.Lft
open Go

/-- A part without the blocks for deferred calls. -/
def View.solid (H : View) : View := fun b => match H b with
  | some (.deferred _) => none
  | o => o
theorem View.solid_cells {H : View} {b : Nat} {c : Array Value} {T : TypeId} {fz : Nat × Nat} (h : H b = some (.cells c T fz)) : H.solid b = some (.cells c T fz) := by
  unfold View.solid; rw [h]
theorem View.solid_le {H : View} : H.solid.le H := fun b o h => by
  unfold View.solid at h
  split at h
  · cases h
  · exact h

/-- A type of data that some cells read as. 'n': how many cells; 'agg': a struct or an array. -/
class Rep (α : Type) where
  n : Nat
  agg : Bool
  rd : View → List Value → α → Prop
  mono : ∀ {H K : View} {cs : List Value} {d : α}, H.le K → rd H cs d → rd K cs d
  len : ∀ {H : View} {cs : List Value} {d : α}, rd H cs d → cs.length = n
  one : agg = false → n = 1
  flat : ∀ {H : View} {cs : List Value} {d : α}, rd H cs d → ∀ u ∈ cs, u.oneCell' = true
  pos : 0 < n
  solid : ∀ {H : View} {cs : List Value} {d : α}, rd H cs d → rd H.solid cs d

/-- A value reads as a datum. -/
def Rd {α : Type} [Rep α] (H : View) (v : Value) (d : α) : Prop :=
  if Rep.agg α then ∃ cs : Array Value, v = .agg cs ∧ Rep.rd H cs.toList d else Rep.rd H [v] d

/-- Cells at an address. -/
def cellsAt (H : View) (a : Addr) (cs : List Value) : Prop :=
  ∃ (c : Array Value) (T : TypeId) (fz : Nat × Nat), a.spot = none ∧ H a.block = some (.cells c T fz) ∧ (c.toList.drop a.off).take cs.length = cs

/-- What lies at an address reads as a datum. -/
def At {α : Type} [Rep α] (H : View) (a : Addr) (d : α) : Prop := ∃ cs, cellsAt H a cs ∧ Rep.rd H cs d

theorem cellsAt_mono {H K : View} (hk : H.le K) {a : Addr} {cs : List Value} (h : cellsAt H a cs) : cellsAt K a cs :=
  let ⟨c, T, fz, h1, h2, h3⟩ := h
  ⟨c, T, fz, h1, hk _ _ h2, h3⟩

theorem At.mono {α : Type} [Rep α] {H K : View} (hk : H.le K) {a : Addr} {d : α} (h : At H a d) : At K a d :=
  let ⟨cs, h1, h2⟩ := h
  ⟨cs, cellsAt_mono hk h1, Rep.mono hk h2⟩

theorem At.solid {α : Type} [Rep α] {H : View} {a : Addr} {d : α} (h : At H a d) : At H.solid a d := by
  obtain ⟨cs, ⟨c, T, fz, h1, h2, h3⟩, h4⟩ := h
  exact ⟨cs, ⟨c, T, fz, h1, View.solid_cells h2, h3⟩, Rep.solid h4⟩
theorem Rd.solid {α : Type} [Rep α] {H : View} {v : Value} {d : α} (h : Rd H v d) : Rd H.solid v d := by
  unfold Rd at *
  split
  · rename_i ha; rw [if_pos ha] at h; obtain ⟨cs, h1, h2⟩ := h; exact ⟨cs, h1, Rep.solid h2⟩
  · rename_i ha; rw [if_neg ha] at h; exact Rep.solid h

theorem Rd.mono {α : Type} [Rep α] {H K : View} (hk : H.le K) {v : Value} {d : α} (h : Rd H v d) : Rd K v d := by
  unfold Rd at *
  split
  · rename_i ha; rw [if_pos ha] at h; obtain ⟨cs, h1, h2⟩ := h; exact ⟨cs, h1, Rep.mono hk h2⟩
  · rename_i ha; rw [if_neg ha] at h; exact Rep.mono hk h

theorem addr_add_none {a : Addr} (h : a.spot = none) (n : Nat) : a.add n = ⟨a.block, a.off + n, none⟩ := by
  obtain ⟨b, o, s⟩ := a
  simp only at h; subst h
  unfold Addr.add; split <;> simp_all

theorem cellsAt_get {H : View} {a : Addr} {cs : List Value} (h : cellsAt H a cs) {i : Nat} {v : Value} (hv : cs[i]? = some v) : cellH H (a.add i) = some v := by
  obtain ⟨c, T, fz, hs, hb, he⟩ := h
  rw [addr_add_none hs]
  simp only [cellH, hb]
  have hi : i < cs.length := by
    rcases Nat.lt_or_ge i cs.length with h | h
    · exact h
    · simp [List.getElem?_eq_none h] at hv
  rw [← he] at hv
  simp only [List.getElem?_take, hi, if_true, List.getElem?_drop] at hv
  simpa using hv

theorem cellsAt_zero {H : View} {a : Addr} {v : Value} (h : cellsAt H a [v]) : cellH H a = some v := by
  have := cellsAt_get h (i := 0) (v := v) rfl
  simpa [Addr.add] using this

theorem cellsFrom_at {H : View} {a : Addr} {cs : List Value} (h : cellsAt H a cs) : ∀ (m i : Nat) (acc : Array Value), i + m = cs.length → cellsFromH H a i m acc = some (acc ++ (cs.drop i).toArray)
  | 0, i, acc, hi => by
    have : cs.drop i = [] := by simp; omega
    simp [cellsFromH, this]
  | m + 1, i, acc, hi => by
    have hlt : i < cs.length := by omega
    have e : cs[i]? = some cs[i] := List.getElem?_eq_getElem hlt
    simp only [cellsFromH, cellsAt_get h e]
    rw [cellsFrom_at h m (i + 1) _ (by omega)]
    rw [List.drop_eq_getElem_cons hlt]
    simp

theorem cellsAt_sub {H : View} {a : Addr} {cs : List Value} (h : cellsAt H a cs) (o m : Nat) (hm : o + m ≤ cs.length) : cellsAt H (a.add o) ((cs.drop o).take m) := by
  obtain ⟨c, T, fz, hs, hb, he⟩ := h
  rw [addr_add_none hs]
  refine ⟨c, T, fz, rfl, hb, ?_⟩
  have hl : ((cs.drop o).take m).length = m := by simp; omega
  rw [hl]
  have e1 : (cs.drop o).take m = (((c.toList.drop a.off).take cs.length).drop o).take m := by rw [he]
  rw [e1, List.drop_take, List.take_take, List.drop_drop]
  congr 1
  omega

/-- A load of one cell, or of several. -/
theorem At.load {α : Type} [Rep α] {H : View} {a : Addr} {d : α} (h : At H a d) (ha : Rep.agg α = false) : ∃ v, cellH H a = some v ∧ Rd H v d := by
  obtain ⟨cs, h1, h2⟩ := h
  have hl := Rep.len h2
  rw [Rep.one ha] at hl
  match cs, hl with
  | [v], _ => exact ⟨v, cellsAt_zero h1, by unfold Rd; rw [if_neg (by simp [ha])]; exact h2⟩

theorem At.loads {α : Type} [Rep α] {H : View} {a : Addr} {d : α} (h : At H a d) (ha : Rep.agg α = true) : ∃ v, Un.ev H (.loads (Rep.n α)) (.pointer (some a)) = some v ∧ Rd H v d := by
  obtain ⟨cs, h1, h2⟩ := h
  have hl := Rep.len h2
  refine ⟨.agg cs.toArray, ?_, ?_⟩
  · have := cellsFrom_at h1 cs.length 0 #[] (by omega)
    rw [hl] at this
    simp [Un.ev, vP, this]
  · unfold Rd
    rw [if_pos ha]
    exact ⟨_, rfl, by simpa using h2⟩

/-! ### Base types -/

instance : Rep Int where
  n := 1
  agg := false
  rd := fun _ cs d => cs = [.int .i64 d] ∧ -9223372036854775808 ≤ d ∧ d ≤ 9223372036854775807
  mono := fun _ h => h
  len := fun h => by rw [h.1]; rfl
  one := fun _ => rfl
  flat := fun h u hu => by rw [h.1] at hu; simp at hu; subst hu; rfl
  pos := Nat.one_pos
  solid := fun h => h

structure I32 where
  v : Int
  deriving DecidableEq, Inhabited

instance : Rep I32 where
  n := 1
  agg := false
  rd := fun _ cs d => cs = [.int .i32 d.v] ∧ -2147483648 ≤ d.v ∧ d.v ≤ 2147483647
  mono := fun _ h => h
  len := fun h => by rw [h.1]; rfl
  one := fun _ => rfl
  flat := fun h u hu => by rw [h.1] at hu; simp at hu; subst hu; rfl
  pos := Nat.one_pos
  solid := fun h => h

instance : Rep Bool where
  n := 1
  agg := false
  rd := fun _ cs d => cs = [.bool d]
  mono := fun _ h => h
  len := fun h => by rw [h]; rfl
  one := fun _ => rfl
  flat := fun h u hu => by rw [h] at hu; simp at hu; subst hu; rfl
  pos := Nat.one_pos
  solid := fun h => h

theorem rd_int {H : View} {v : Value} {d : Int} : Rd H v d ↔ v = .int .i64 d ∧ -9223372036854775808 ≤ d ∧ d ≤ 9223372036854775807 := by
  simp [Rd, Rep.agg, Rep.rd]
theorem rd_i32 {H : View} {v : Value} {d : I32} : Rd H v d ↔ v = .int .i32 d.v ∧ -2147483648 ≤ d.v ∧ d.v ≤ 2147483647 := by
  simp [Rd, Rep.agg, Rep.rd]
theorem rd_bool {H : View} {v : Value} {d : Bool} : Rd H v d ↔ v = .bool d := by
  simp [Rd, Rep.agg, Rep.rd]

/-! ### Slices -/

/-- The most elements that we speak of. -/
def most : Nat := 2 ^ 47

def SlRd {α : Type} [Rep α] (H : View) (v : Value) (l : List α) : Prop :=
  ∃ a cap, v = .slice a l.length cap ∧ l.length ≤ cap ∧ l.length ≤ 140737488355328 ∧
    (l = [] ∨ ∃ ad, a = some ad ∧ ad.spot = none ∧ ∀ (i : Nat) (hi : i < l.length), At H (ad.add (i * Rep.n α)) l[i])

instance {α : Type} [Rep α] : Rep (List α) where
  n := 1
  agg := false
  rd := fun H cs l => ∃ v, cs = [v] ∧ SlRd H v l
  mono := fun hk h => by
    obtain ⟨v, h1, a, cap, h2, h3, h4, h5⟩ := h
    refine ⟨v, h1, a, cap, h2, h3, h4, ?_⟩
    rcases h5 with h5 | ⟨ad, h6, h7, h8⟩
    · exact .inl h5
    · exact .inr ⟨ad, h6, h7, fun i hi => (h8 i hi).mono hk⟩
  len := fun ⟨v, h, _⟩ => by rw [h]; rfl
  one := fun _ => rfl
  flat := fun ⟨v, h, a, cap, h2, _⟩ u hu => by rw [h] at hu; simp at hu; subst hu; rw [h2]; rfl
  pos := Nat.one_pos
  solid := fun h => by
    obtain ⟨v, h1, a, cap, h2, h3, h4, h5⟩ := h
    refine ⟨v, h1, a, cap, h2, h3, h4, ?_⟩
    rcases h5 with h5 | ⟨ad, h6, h7, h8⟩
    · exact .inl h5
    · exact .inr ⟨ad, h6, h7, fun i hi => (h8 i hi).solid⟩

theorem rd_list {α : Type} [Rep α] {H : View} {v : Value} {l : List α} : Rd H v l ↔ SlRd H v l := by
  simp [Rd, Rep.agg, Rep.rd]

/-- The address of a slice's first element. -/
def slA : Value → Addr
  | .slice (some a) _ _ => a
  | _ => default

section
variable {α : Type} [Rep α] {H : View} {v : Value} {l : List α}

theorem SlRd.len (h : SlRd H v l) {K : View} : Un.ev K .len v = some (.int .i64 l.length) := by
  obtain ⟨a, cap, rfl, _⟩ := h; rfl
theorem SlRd.bound (h : SlRd H v l) : l.length ≤ 140737488355328 := by
  obtain ⟨a, cap, _, _, h, _⟩ := h; exact h
theorem SlRd.idx (h : SlRd H v l) {k : IntKind} {i : Int} (h0 : 0 ≤ i) (h1 : i < l.length) : Bn.ev (.idx (Rep.n α)) v (.int k i) = some (.pointer (some ((slA v).add (i.toNat * Rep.n α)))) := by
  obtain ⟨a, cap, rfl, _, _, h⟩ := h
  rcases h with rfl | ⟨ad, rfl, _, _⟩
  · simp at h1; omega
  · simp [Bn.ev, vL, vI, slA, h0, h1]
theorem SlRd.idx1 (h : SlRd H v l) (hn : Rep.n α = 1) {k : IntKind} {i : Int} (h0 : 0 ≤ i) (h1 : i < l.length) : Bn.ev (.idx 1) v (.int k i) = some (.pointer (some ((slA v).add i.toNat))) := by
  have := h.idx (k := k) h0 h1
  rw [hn, Nat.mul_one] at this
  exact this
theorem SlRd.at (h : SlRd H v l) {i : Nat} (hi : i < l.length) : At H ((slA v).add (i * Rep.n α)) l[i] := by
  obtain ⟨a, cap, rfl, _, _, h⟩ := h
  rcases h with rfl | ⟨ad, rfl, _, h⟩
  · simp at hi
  · exact h i hi
theorem SlRd.mono (h : SlRd H v l) {K : View} (hk : H.le K) : SlRd K v l := rd_list.1 (Rd.mono hk (rd_list.2 h))
end

/-- The head of a slice: l[:k]. -/
theorem SlRd.take {α : Type} [Rep α] {H : View} {v : Value} {l : List α} (h : SlRd H v l) {n : Nat} (hn : n ≤ l.length) {kd : IntKind} : ∃ u, Bn.ev .hi v (.int kd n) = some u ∧ SlRd H u (l.take n) := by
  obtain ⟨a, cap, rfl, h1, h2, h3⟩ := h
  refine ⟨.slice a n cap, by simp [Bn.ev, vL, vI]; omega, a, cap, ?_, ?_, ?_, ?_⟩
  · rw [List.length_take, Nat.min_eq_left hn]
  · rw [List.length_take]; omega
  · rw [List.length_take]; omega
  · rcases h3 with rfl | ⟨ad, rfl, hs, hat⟩
    · left; simp
    · refine .inr ⟨ad, rfl, hs, fun i hi => ?_⟩
      rw [List.length_take] at hi
      rw [List.getElem_take]
      exact hat i (by omega)

/-- The i-th of a list. -/
def nth {α : Type} [Inhabited α] (l : List α) (i : Nat) : α := l.getD i default
theorem nth_eq {α : Type} [Inhabited α] {l : List α} {i : Nat} (h : i < l.length) : nth l i = l[i] := by simp [nth, h]
theorem nth_ge {α : Type} [Inhabited α] {l : List α} {i : Nat} (h : l.length ≤ i) : nth l i = default := by simp [nth, h]
theorem nth_mem {α : Type} [Inhabited α] {l : List α} {i : Nat} (h : i < l.length) : nth l i ∈ l := by rw [nth_eq h]; exact List.getElem_mem h
theorem eq_of_nth {α : Type} [Inhabited α] {a b : List α} (hl : a.length = b.length) (h : ∀ j, j < a.length → nth a j = nth b j) : a = b := by
  refine List.ext_getElem hl fun i h1 h2 => ?_
  have := h i h1
  rwa [nth_eq h1, nth_eq h2] at this

/-- A slice of plain numbers. -/
theorem SlRd.int {H K : View} {v : Value} {l : List Int} (h : SlRd H v l) (hk : H.le K) {i : Nat} (hi : i < l.length) : cellH K ((slA v).add i) = some (.int .i64 (nth l i)) := by
  obtain ⟨u, h1, h2⟩ := ((h.at hi).mono hk).load rfl
  rw [rd_int] at h2
  rw [h2.1, show i * Rep.n Int = i from Nat.mul_one i] at h1
  rw [nth_eq hi]; exact h1
theorem SlRd.bool {H K : View} {v : Value} {l : List Bool} (h : SlRd H v l) (hk : H.le K) {i : Nat} (hi : i < l.length) : cellH K ((slA v).add i) = some (.bool (nth l i)) := by
  obtain ⟨u, h1, h2⟩ := ((h.at hi).mono hk).load rfl
  rw [rd_bool] at h2
  rw [h2, show i * Rep.n Bool = i from Nat.mul_one i] at h1
  rw [nth_eq hi]; exact h1
theorem SlRd.range {H : View} {v : Value} {l : List Int} (h : SlRd H v l) {i : Nat} (hi : i < l.length) : -9223372036854775808 ≤ nth l i ∧ nth l i ≤ 9223372036854775807 := by
  obtain ⟨u, h1, h2⟩ := (h.at hi).load rfl
  rw [rd_int] at h2
  rw [nth_eq hi]; exact h2.2

/-- A slice of slices: each row's own value. -/
theorem SlRd.rows {α : Type} [Rep α] {H : View} {v : Value} {g : List (List α)} (h : SlRd H v g) : ∃ rv : Nat → Value, ∀ i, i < g.length → (∀ K : View, H.le K → cellH K ((slA v).add i) = some (rv i)) ∧ SlRd H (rv i) (nth g i) := by
  have key : ∀ i, ∃ u, i < g.length → (∀ K : View, H.le K → cellH K ((slA v).add i) = some u) ∧ SlRd H u (nth g i) := by
    intro i
    by_cases hi : i < g.length
    · obtain ⟨u, h1, h2⟩ := (h.at hi).load rfl
      rw [show i * Rep.n (List α) = i from Nat.mul_one i] at h1
      refine ⟨u, fun _ => ⟨fun K hk => cellH_mono hk h1, ?_⟩⟩
      rw [nth_eq hi]; exact rd_list.1 h2
    · exact ⟨undef, fun h => absurd h hi⟩
  exact ⟨fun i => (key i).choose, fun i => (key i).choose_spec⟩

@[simp] theorem un_load {H : View} {a : Addr} : Un.ev H .load (.pointer (some a)) = cellH H a := rfl
@[simp] theorem wrap64_id {a : Int} (h0 : -9223372036854775808 ≤ a) (h1 : a ≤ 9223372036854775807) : IntKind.i64.wrap a = a := IntWalk.i64_in _ (by omega)

end Go.Lft

/- Loud operations over heaps: calls, new blocks, append, stores. -/
namespace Go.Lft
open Go
variable {po : OP} {pp : PP}

/-- A loud operation, over the heap alone. What comes behind stands in K. -/
def step [po : OP] (P : Program) (op : Op) (ty : TypeId) (us : List (Nat × Value)) (h : Heap) (K : Value → Heap → Prop) : Prop := RunsTo P (loudSem op ty us) h K
@[congr] theorem step_congr {P : Program} {op : Op} {ty : TypeId} {us us' : List (Nat × Value)} {h h' : Heap} {K : Value → Heap → Prop} (e1 : us = us') (e2 : h = h') : step P op ty us h K = step P op ty us' h' K := by rw [e1, e2]

def grdP (o : Option Value) (b : Bool) (A B : Prop) : Prop := ∃ gv, o = some gv ∧ (gv = .bool b → A) ∧ (gv ≠ .bool b → B)
@[congr] theorem grdP_congr {o o' : Option Value} {b : Bool} {A B : Prop} (h : o = o') : grdP o b A B = grdP o' b A B := by rw [h]
@[simp] theorem grdP_tt {A B : Prop} : grdP (some (.bool true)) true A B = A := by simp [grdP]
@[simp] theorem grdP_tf {A B : Prop} : grdP (some (.bool true)) false A B = B := by simp [grdP]
@[simp] theorem grdP_ft {A B : Prop} : grdP (some (.bool false)) true A B = B := by simp [grdP]
@[simp] theorem grdP_ff {A B : Prop} : grdP (some (.bool false)) false A B = A := by simp [grdP]
@[simp] theorem grdP_true {A B p : Prop} [Decidable p] : grdP (some (.bool (decide p))) true A B = ((p → A) ∧ (¬ p → B)) := by simp [grdP]
@[simp] theorem grdP_false {A B p : Prop} [Decidable p] : grdP (some (.bool (decide p))) false A B = ((p → B) ∧ (¬ p → A)) := by simp [grdP, and_comm]
@[simp] theorem grdP_not {A B : Prop} {x b : Bool} : grdP (some (.bool (!x))) b A B = grdP (some (.bool x)) (!b) A B := by cases x <;> cases b <;> simp
@[simp] theorem grdP_undef {A B : Prop} {b : Bool} : grdP (some undef) b A B = B := by simp [grdP, undef]
theorem grdP_bool {A B : Prop} {x b : Bool} : grdP (some (.bool x)) b A B = ((x = b → A) ∧ (x ≠ b → B)) := by simp [grdP]

section
variable {P : Program} {Q : Env → Heap → Prop} {ρ : Env} {h : Heap}
@[simp] theorem regWp_loud0 {kill : List Nat} {sets args : List (Nat × E)} {chk : List E} {tail : Bool} {op : Op} {ty : TypeId} {dst : Option Nat} {keep : Bool} {next : Reg} :
    regWp P none (.loud kill sets args none chk tail op ty dst keep next) Q ρ h = sat (evP (look ρ) (vw h) sets) fun vs => sat (evP (look ρ) (vw h) args) fun us => okE (look ρ) (vw h) chk ∧ pp.fx (setsE (killE ρ kill) vs) ∧
      @step (opAt none) P op ty us h fun v h' => regWp P none next Q (putE (setsE (killE ρ kill) vs) dst keep v) h' := by
  simp only [regWp, sat, step, part_none, Option.map_none]
  refine propext ⟨fun ⟨vs, us, h1, h2, h3, hfx, h4⟩ => ⟨vs, h1, us, h2, h3, hfx, h4.mono fun v h' hh => ?_⟩, fun ⟨vs, h1, us, h2, h3, hfx, h4⟩ => ⟨vs, us, h1, h2, h3, hfx, h4.mono fun v h' hh => ?_⟩⟩
  · have := hh.2; cases tail <;> exact this
  · cases tail <;> exact ⟨by simp, hh⟩
@[simp] theorem regWp_loudG {kill : List Nat} {sets args : List (Nat × E)} {g : E} {b : Bool} {chk : List E} {op : Op} {ty : TypeId} {dst : Option Nat} {keep : Bool} {next : Reg} :
    regWp P none (.loud kill sets args (some (g, b)) chk false op ty dst keep next) Q ρ h = sat (evP (look ρ) (vw h) sets) fun vs => sat (evP (look ρ) (vw h) args) fun us => okE (look ρ) (vw h) chk ∧ pp.fx (setsE (killE ρ kill) vs) ∧
      grdP (ev (look ρ) (vw h) g) b (@step (opAt none) P op ty us h fun v h' => regWp P none next Q (putE (setsE (killE ρ kill) vs) dst keep v) h') (regWp P none next Q (putE (setsE (killE ρ kill) vs) dst keep undef) h) := by
  simp only [regWp, sat, step, part_none, grdP]
  refine propext ⟨fun ⟨vs, us, h1, h2, h3, hfx, gv, h4, h5, h6⟩ => ⟨vs, h1, us, h2, h3, hfx, gv, h4, fun e => (h5 e).mono fun v h' hh => hh.2, h6⟩, fun ⟨vs, h1, us, h2, h3, hfx, gv, h4, h5, h6⟩ => ⟨vs, us, h1, h2, h3, hfx, gv, h4, fun e => (h5 e).mono fun v h' hh => ⟨by simp, hh⟩, h6⟩⟩
/-- In a drawn region: over the part that stays. -/
@[simp] theorem regWp_loudD {H : View} {kill : List Nat} {sets args : List (Nat × E)} {chk : List E} {op : Op} {ty : TypeId} {dst : Option Nat} {keep : Bool} {next : Reg} :
    regWp P (some H) (.loud kill sets args none chk false op ty dst keep next) Q ρ h = sat (evP (look ρ) H sets) fun vs => sat (evP (look ρ) H args) fun us => okE (look ρ) H chk ∧ pp.fx (setsE (killE ρ kill) vs) ∧
      @step (opAt (some H)) P op ty us h fun v h' => H.le (vw h') ∧ regWp P (some H) next Q (putE (setsE (killE ρ kill) vs) dst keep v) h' := by
  simp only [regWp, sat, step, part_some]
  refine propext ⟨fun ⟨vs, us, h1, h2, h3, hfx, h4⟩ => ⟨vs, h1, us, h2, h3, hfx, h4.mono fun v h' hh => ?_⟩, fun ⟨vs, h1, us, h2, h3, hfx, h4⟩ => ⟨vs, us, h1, h2, h3, hfx, h4.mono fun v h' hh => ?_⟩⟩
  · exact ⟨by simpa using hh.1, hh.2⟩
  · exact ⟨by simpa using hh.1, hh.2⟩
@[simp] theorem regWp_loudT {H : View} {kill : List Nat} {sets args : List (Nat × E)} {chk : List E} {op : Op} {ty : TypeId} {dst : Option Nat} {keep : Bool} {next : Reg} :
    regWp P (some H) (.loud kill sets args none chk true op ty dst keep next) Q ρ h = sat (evP (look ρ) H sets) fun vs => sat (evP (look ρ) H args) fun us => okE (look ρ) H chk ∧ pp.fx (setsE (killE ρ kill) vs) ∧
      @step (opAt (some H)) P op ty us h fun v h' => regWp P (some nothing) next Q (putE (setsE (killE ρ kill) vs) dst keep v) h' := by
  simp only [regWp, sat, step, part_some]
  refine propext ⟨fun ⟨vs, us, h1, h2, h3, hfx, h4⟩ => ⟨vs, h1, us, h2, h3, hfx, h4.mono fun v h' hh => ?_⟩, fun ⟨vs, h1, us, h2, h3, hfx, h4⟩ => ⟨vs, us, h1, h2, h3, hfx, h4.mono fun v h' hh => ?_⟩⟩
  · exact hh.2
  · exact ⟨by simp, hh⟩
@[simp] theorem regWp_loudDG {H : View} {kill : List Nat} {sets args : List (Nat × E)} {g : E} {b : Bool} {chk : List E} {op : Op} {ty : TypeId} {dst : Option Nat} {keep : Bool} {next : Reg} :
    regWp P (some H) (.loud kill sets args (some (g, b)) chk false op ty dst keep next) Q ρ h = sat (evP (look ρ) H sets) fun vs => sat (evP (look ρ) H args) fun us => okE (look ρ) H chk ∧ pp.fx (setsE (killE ρ kill) vs) ∧
      grdP (ev (look ρ) H g) b (@step (opAt (some H)) P op ty us h fun v h' => H.le (vw h') ∧ regWp P (some H) next Q (putE (setsE (killE ρ kill) vs) dst keep v) h') (regWp P (some H) next Q (putE (setsE (killE ρ kill) vs) dst keep undef) h) := by
  simp only [regWp, sat, step, part_some, grdP]
  refine propext ⟨fun ⟨vs, us, h1, h2, h3, hfx, gv, h4, h5, h6⟩ => ⟨vs, h1, us, h2, h3, hfx, gv, h4, fun e => (h5 e).mono fun v h' hh => ⟨by simpa using hh.1, hh.2⟩, h6⟩, fun ⟨vs, h1, us, h2, h3, hfx, gv, h4, h5, h6⟩ => ⟨vs, us, h1, h2, h3, hfx, gv, h4, fun e => (h5 e).mono fun v h' hh => ⟨by simpa using hh.1, hh.2⟩, h6⟩⟩
@[simp] theorem noPP_fx {ρ : Env} : @PP.fx noPP ρ = True := rfl
@[simp] theorem ppOf_fx {Rp : List PanicEntry → Heap → Prop} {ρ : Env} : @PP.fx (ppOf Rp) ρ = True := rfl
@[simp] theorem regWp_both {m : Option View} {x y : Reg} : regWp P m (.both x y) Q ρ h = (regWp P m x Q ρ h ∧ regWp P m y Q ρ h) := rfl
end

/-! ### Calls -/

theorem runs_enter {P : Program} {s : Sem Next} {f : FuncId} {args : Array Value} {h : Heap} {R K : Value → Heap → Prop} (hs : ∀ w : World, w.heap = h → s.run P w = .ok (.enter f args) w)
    (hc : HCalls P f args h R) (hk : ∀ v h', R v h' → K v h') : RunsTo P s h K := by
  intro w hw r o a K' Q' hK hQ
  rw [hs w hw]
  simp only [Oper.uponIn]
  refine ⟨fun h => by simp [Fw, Fence.wide] at h, callsIn_Fw ((hc w hw).mono ?_)⟩
  rintro e w' ⟨v, rfl, hR, hsame⟩
  exact hK v w' (hk _ _ hR) hsame

theorem runs_enterP {P : Program} {s : Sem Next} {f : FuncId} {args : Array Value} {h : Heap} {R K : Value → Heap → Prop} {Rp : List PanicEntry → Heap → Prop} (hs : ∀ w : World, w.heap = h → s.run P w = .ok (.enter f args) w)
    (hc : HCallsP P f args h R Rp) (hk : ∀ v h', R v h' → K v h') (hp : ∀ ch h', Rp ch h' → po.op ch h') : RunsTo P s h K := by
  intro w hw r o a K' Q' hK hQ
  rw [hs w hw]
  simp only [Oper.uponIn]
  refine ⟨fun h => by simp [Fw, Fence.wide] at h, callsIn_Fw ((hc w hw).mono ?_)⟩
  rintro e w' (⟨v, rfl, hR, hsame⟩ | ⟨ch, rfl, hR, hsame⟩)
  · exact hK v w' (hk _ _ hR) hsame
  · exact hQ ch w' (hp _ _ hR) hsame

theorem step_callP {P : Program} {f : FuncId} {ops : Array Operand} {T : Array TypeId} {ty : TypeId} {us : List (Nat × Value)} {args : Array Value} {h : Heap} {K : Value → Heap → Prop} (R : Value → Heap → Prop) (Rp : List PanicEntry → Heap → Prop)
    (hf : isFn P f = true) (ha : ops.map (asg us) = args) (hc : HCallsP P f args h R Rp) (hk : ∀ v h', R v h' → K v h') (hp : ∀ ch h', Rp ch h' → po.op ch h') :
    step P (.call ⟨.value (.func f), ops, T⟩) ty us h K := by
  subst ha
  refine runs_enterP (fun w _ => ?_) hc hk hp
  unfold isFn at hf
  cases hfn : P.funcs[f]? with
  | none => simp [hfn] at hf
  | some fn =>
    simp only [hfn, Bool.and_eq_true, bne_iff_ne, ne_eq] at hf
    obtain ⟨h1, h2⟩ := hf
    simp [loudSem, execOp, resolve, Deferred.ofValue, asg, invoke, callFunc, program, Sem.run, hfn, h1, Option.isNone]
    cases hb : fn.body <;> simp [hb] at h2 ⊢

theorem step_call {P : Program} {f : FuncId} {ops : Array Operand} {T : Array TypeId} {ty : TypeId} {us : List (Nat × Value)} {args : Array Value} {h : Heap} {K : Value → Heap → Prop} (R : Value → Heap → Prop)
    (hf : isFn P f = true) (ha : ops.map (asg us) = args) (hc : HCalls P f args h R) (hk : ∀ v h', R v h' → K v h') :
    step P (.call ⟨.value (.func f), ops, T⟩) ty us h K := by
  subst ha
  refine runs_enter (fun w _ => ?_) hc hk
  unfold isFn at hf
  cases hfn : P.funcs[f]? with
  | none => simp [hfn] at hf
  | some fn =>
    simp only [hfn, Bool.and_eq_true, bne_iff_ne, ne_eq] at hf
    obtain ⟨h1, h2⟩ := hf
    simp [loudSem, execOp, resolve, Deferred.ofValue, asg, invoke, callFunc, program, Sem.run, hfn, h1, Option.isNone]
    cases hb : fn.body <;> simp [hb] at h2 ⊢

/-- A call of a function at hand, of these values. -/
def callStep [po : OP] (P : Program) (f : FuncId) (T : Array TypeId) (ty : TypeId) (args : List Value) (h : Heap) (K : Value → Heap → Prop) : Prop :=
  step P (.call ⟨.value (.func f), args.toArray.map .const, T⟩) ty [] h K
@[simp] theorem asg_tmp {us : List (Nat × Value)} {t : Nat} : asg us (.tmp t) = (look us t).getD undef := rfl
@[simp] theorem asg_const {us : List (Nat × Value)} {v : Value} : asg us (.const v) = v := rfl
@[simp] theorem asg_func {us : List (Nat × Value)} {f : FuncId} : asg us (.func f) = .func (.func f) #[] #[] := rfl
@[simp] theorem asg_global {us : List (Nat × Value)} {g : Nat} : asg us (.global g) = .pointer (some ⟨g, 0, none⟩) := rfl
theorem step_call_eq {P : Program} {f : FuncId} {ops : List Operand} {T : Array TypeId} {ty : TypeId} {us : List (Nat × Value)} {h : Heap} {K : Value → Heap → Prop} :
    step P (.call ⟨.value (.func f), ops.toArray, T⟩) ty us h K = callStep P f T ty (ops.map (asg us)) h K := by
  unfold callStep step
  congr 1
  simp [loudSem, execOp, resolve, Deferred.ofValue, Function.comp_def]
section
variable {P : Program} {f : FuncId} {x y z u v : Operand} {T : Array TypeId} {ty : TypeId} {us : List (Nat × Value)} {h : Heap} {K : Value → Heap → Prop}
@[simp] theorem step_call0 : step P (.call ⟨.value (.func f), #[], T⟩) ty us h K = callStep P f T ty [] h K := step_call_eq (ops := [])
@[simp] theorem step_call1 : step P (.call ⟨.value (.func f), #[x], T⟩) ty us h K = callStep P f T ty [asg us x] h K := step_call_eq (ops := [x])
@[simp] theorem step_call2 : step P (.call ⟨.value (.func f), #[x, y], T⟩) ty us h K = callStep P f T ty [asg us x, asg us y] h K := step_call_eq (ops := [x, y])
@[simp] theorem step_call3 : step P (.call ⟨.value (.func f), #[x, y, z], T⟩) ty us h K = callStep P f T ty [asg us x, asg us y, asg us z] h K := step_call_eq (ops := [x, y, z])
@[simp] theorem step_call4 : step P (.call ⟨.value (.func f), #[x, y, z, u], T⟩) ty us h K = callStep P f T ty [asg us x, asg us y, asg us z, asg us u] h K := step_call_eq (ops := [x, y, z, u])
@[simp] theorem step_call5 : step P (.call ⟨.value (.func f), #[x, y, z, u, v], T⟩) ty us h K = callStep P f T ty [asg us x, asg us y, asg us z, asg us u, asg us v] h K := step_call_eq (ops := [x, y, z, u, v])
end
@[congr] theorem callStep_congr {P : Program} {f : FuncId} {T : Array TypeId} {ty : TypeId} {args args' : List Value} {h : Heap} {K : Value → Heap → Prop} (ha : args = args') : callStep P f T ty args h K = callStep P f T ty args' h K := by rw [ha]
theorem call_to {P : Program} {f : FuncId} {T : Array TypeId} {ty : TypeId} {args : List Value} {h : Heap} {R K : Value → Heap → Prop} (hf : isFn P f = true) (hc : HCalls P f args.toArray h R) (hk : ∀ v h', R v h' → K v h') : callStep P f T ty args h K :=
  step_call R hf (by simp [Function.comp_def]) hc hk

theorem call_toP {P : Program} {f : FuncId} {T : Array TypeId} {ty : TypeId} {args : List Value} {h : Heap} {R K : Value → Heap → Prop} {Rp : List PanicEntry → Heap → Prop} (hf : isFn P f = true) (hc : HCallsP P f args.toArray h R Rp) (hk : ∀ v h', R v h' → K v h') (hp : ∀ ch h', Rp ch h' → po.op ch h') : callStep P f T ty args h K :=
  step_callP R Rp hf (by simp [Function.comp_def]) hc hk hp

/-! ### Plain runs -/

theorem runs_value {P : Program} {s : Sem Next} {h : Heap} {K : Value → Heap → Prop} (hs : ∀ w : World, w.heap = h → ∃ v w', s.run P w = .ok (.value v) w' ∧ Same w w' ∧ K v w'.heap) : RunsTo P s h K := by
  intro w hw r o a K' Q' hK hQ
  obtain ⟨v, w', h1, h2, h3⟩ := hs w hw
  rw [h1]
  exact hK v w' h3 h2

theorem runs_skip {P : Program} {s : Sem Next} {h : Heap} {K : Value → Heap → Prop} (hs : ∀ w : World, w.heap = h → ∃ w', s.run P w = .ok .skip w' ∧ Same w w' ∧ K undef w'.heap) : RunsTo P s h K := by
  intro w hw r o a K' Q' hK hQ
  obtain ⟨w', h1, h2, h3⟩ := hs w hw
  rw [h1]
  exact hK undef w' h3 h2

/-- A new block. -/
theorem same_alloc (w : World) (o : Obj) : Same w (w.alloc o) := Same.of_all rfl rfl rfl (by simp) fun k hk => heap_alloc_old w o hk

theorem step_buildSlice {P : Program} {t e : TypeId} {n size : Nat} {ps : Array (Nat × Operand)} {ty : TypeId} {us : List (Nat × Value)} {h : Heap} {K : Value → Heap → Prop} {i : TypeInfo} {z : Value} {vs : List (Nat × Value)} {cs : Array Value}
    (ht : P.underlying t = some (.slice e)) (hi : P.info? e = some i) (hz : i.zero = some z) (hs : i.size = size) (hn : n * size ≤ 16777216) (hp : ps.map (fun p => (p.1, asg us p.2)) = vs.toArray)
    (hf : Instr.fill (fun j => some (j * size, size)) ((Array.range (n * size)).map (z.cells[· % z.cells.size]!)) vs = some cs)
    (hk : K (.slice (some ⟨h.size, 0, none⟩) n n) (h.push (.cells cs e))) : step P (.buildSlice t n ps) ty us h K := by
  subst hs
  refine runs_value fun w hw => ?_
  subst hw
  have hn' : ¬ (16777216 < n * i.size) := by omega
  refine ⟨_, w.alloc (.cells cs e), ?_, same_alloc _ _, hk⟩
  have hp' : (ps.map fun x => match x with | (i, x) => (i, asg us x)) = vs.toArray := hp
  by_cases h0 : n * i.size = 0
  · have e1 : ∀ f : Nat → Value, (Array.range 0).map f = #[] := fun f => by simp [Array.range_zero']
    rw [h0, e1] at hf
    simp only [loudSem, execOp, hp']
    simp [Instr.buildSlice, run_underlying ht, sizeOf, typeInfo, hi, h0, newRow, e1, hf]
  · simp only [loudSem, execOp, hp']
    simp [Instr.buildSlice, run_underlying ht, sizeOf, typeInfo, hi, hn', newRow, h0, zeroValue, hz, hf]

/-! ### Slices of the function's own -/

/-- The value is nil, or the head of a block of its own, whose first cells are these. -/
def ownsH (h : Heap) (e : TypeId) (size : Nat) (v : Value) (n : Nat) (xs : List Value) : Prop :=
  xs.length = n * size ∧
  ((v = .slice none 0 0 ∧ n = 0) ∨
   ∃ g cap cur, v = .slice (some ⟨g, 0, none⟩) n cap ∧ h[g]? = some (.cells cur e (0, 0)) ∧ n ≤ cap ∧ cap ≤ maxLen ∧ cur.size = cap * size ∧ cur.toList.take (n * size) = xs)

/-- Blocks but one stand; new ones may have come. -/
structure Kept (h h' : Heap) (b : Option Nat) : Prop where
  size : h.size ≤ h'.size
  block : ∀ k, k < h.size → some k ≠ b → h'[k]? = h[k]?

theorem Kept.refl (h : Heap) (b : Option Nat) : Kept h h b := ⟨Nat.le_refl _, fun _ _ _ => rfl⟩
theorem Kept.push (h : Heap) (o : Obj) (b : Option Nat) : Kept h (h.push o) b := ⟨by simp, fun k hk _ => by rw [Array.getElem?_push, if_neg (by omega)]⟩
theorem Kept.trans {h h' h'' : Heap} {b : Option Nat} (k : Kept h h' b) (k' : Kept h' h'' b) : Kept h h'' b :=
  ⟨Nat.le_trans k.size k'.size, fun x hx hb => (k'.block x (Nat.lt_of_lt_of_le hx k.size) hb).trans (k.block x hx hb)⟩

/-- A part of the heap that has nothing of a value's own block. -/
def Av (W : View) (v : Value) : Prop := ∀ b, v.ownBlock = some b → W b = none


theorem Kept.view {W : View} {h h' : Heap} {v : Value} (k : Kept h h' v.ownBlock) (hw : W.le (vw h)) (ha : Av W v) : W.le (vw h') := by
  intro b o hb
  have hlt := View.lt hw hb
  have hne : some b ≠ v.ownBlock := fun e => by rw [ha b e.symm] at hb; cases hb
  show h'[b]? = some o
  rw [k.block b hlt hne]
  exact hw b o hb

theorem Kept.view_none {W : View} {h h' : Heap} (k : Kept h h' none) (hw : W.le (vw h)) : W.le (vw h') := by
  intro b o hb
  show h'[b]? = some o
  rw [k.block b (View.lt hw hb) (by simp)]
  exact hw b o hb

theorem push_le (h : Heap) (o : Obj) : (vw h).le (vw (h.push o)) := (Kept.push h o none).view_none (View.le_refl _)
theorem ext_kept {h h' : Heap} (hle : (vw h).le (vw h')) (hs : h.size ≤ h'.size) : Kept h h' none :=
  ⟨hs, fun k hk _ => by
    have : h[k]? = some h[k] := Array.getElem?_eq_getElem hk
    rw [this]; exact hle k _ this⟩
theorem ext_size {h h' : Heap} (hle : (vw h).le (vw h')) : h.size ≤ h'.size := by
  rcases Nat.lt_or_ge h'.size h.size with hlt | hge
  · have h1 : h[h'.size]? = some h[h'.size] := Array.getElem?_eq_getElem hlt
    have h2 : h'[h'.size]? = some h[h'.size] := hle _ _ h1
    simp at h2
  · exact hge
theorem ext_kept' {h h' : Heap} (hle : (vw h).le (vw h')) : Kept h h' none := ext_kept hle (ext_size hle)

theorem ownsH.kept {h h' : Heap} {e : TypeId} {size n : Nat} {v : Value} {xs : List Value} {b : Option Nat} (ho : ownsH h e size v n xs) (k : Kept h h' b) (hb : v.ownBlock = none ∨ v.ownBlock ≠ b) : ownsH h' e size v n xs := by
  refine ⟨ho.1, ?_⟩
  rcases ho.2 with hn | ⟨g, cap, cur, rfl, hg, rest⟩
  · exact .inl hn
  · refine .inr ⟨g, cap, cur, rfl, ?_, rest⟩
    rw [k.block g (Array.getElem?_eq_some_iff.1 hg).1 (by simpa [Value.ownBlock] using hb)]
    exact hg

/-- What an element type is in the program: its size, its zero value, its bytes. -/
structure ElemT (P : Program) (t e : TypeId) (size bytes : Nat) (z : Value) : Prop where
  ht : P.underlying t = some (.slice e)
  hi : ∃ i, P.info? e = some i ∧ i.zero = some z ∧ i.size = size ∧ i.bytes = bytes
  hz : z.cells.size = size
  hs : 0 < size
  hm : size ≤ 1000

def elemB (P : Program) (t e size bytes : Nat) : Bool := match P.underlying t, P.info? e with
  | some (.slice e'), some i => e' == e && i.size == size && i.bytes == bytes && decide (0 < size)
  | _, _ => false

theorem append_raw {P : Program} {t ty e : TypeId} {size bytes : Nat} {z : Value} (hT : ElemT P t e size bytes z) {w : World} {v : Value} {n : Nat} {xs : List Value} (hown : ownsH w.heap e size v n xs)
    {a : Option Addr} {m c : Nat} {news : List Value} (hl : news.length = m * size) (hnews : ∀ ad, a = some ad → ∀ j u, news[j]? = some u → w.cell? (ad.add j) = some u) (hnil : a = none → m = 0) (h1 : ∀ u ∈ news, u.oneCell' = true)
    (hbytes : (n + m) * bytes ≤ 140737488355328) (h63 : n + m ≤ 140737488355328) :
    ∃ v' w', (Builtin.append_ #[t, t] ty #[v, .slice a m c]).run P w = .ok v' w' ∧ Same w w' ∧ ownsH w'.heap e size v' (n + m) (xs ++ news) ∧ Kept w.heap w'.heap v.ownBlock ∧
      (v'.ownBlock = v.ownBlock ∨ v'.ownBlock = some w.heap.size) := by
  obtain ⟨ht, ⟨i, hi, hz, hsize, hby⟩, hzs, hsz, _⟩ := hT
  subst hsize
  subst hby
  cases a with
  | none =>
    obtain rfl := hnil rfl
    have hn : news = [] := List.eq_nil_of_length_eq_zero (by simpa using hl)
    subst hn
    have hrun : (Builtin.append_ #[t, t] ty #[v, .slice none 0 c]).run P w = .ok v w := by
      rcases hown.2 with ⟨rfl, rfl⟩ | ⟨g, cap, cur, rfl, hg, hnc, hcm, hcs, htake⟩
      · simp [Builtin.append_, run_underlying ht, sizeOf, typeInfo, hi, Builtin.lenOf, Builtin.firstCells]
      · simp [Builtin.append_, run_underlying ht, sizeOf, typeInfo, hi, Builtin.lenOf, Builtin.firstCells, hnc, storeCells]
    exact ⟨v, w, hrun, Same.refl _, by simpa using hown, Kept.refl _ _, .inl rfl⟩
  | some ad =>
    have hnews := hnews ad rfl
    have hlen : (xs ++ news).length = (n + m) * i.size := by rw [List.length_append, hown.1, hl, Nat.add_mul]
    have h63' : n + m ≤ maxLen := by simp only [maxLen]; omega
    have grown : ∀ (old : Nat), old < n + m → ∀ row,
        ownsH (w.drew.alloc (.cells (xs.toArray ++ news.toArray ++ Builtin.zeroCells z.cells (grownCap w (n + m) old e - (n + m))) e)).heap e i.size
          (.slice (some ⟨w.heap.size, 0, none⟩) (n + m) (grownCap w (n + m) old e)) (n + m) (xs ++ news) ∧
        Kept w.heap (w.drew.alloc (.cells (xs.toArray ++ news.toArray ++ Builtin.zeroCells z.cells (grownCap w (n + m) old e - (n + m))) e)).heap row := by
      intro old ho row
      have hge := grownCap_ge w (n + m) old e
      have hcm : grownCap w (n + m) old e ≤ maxLen := grownCap_le_maxLen w (n + m) old e h63'
      refine ⟨⟨hlen, .inr ⟨w.heap.size, _, _, rfl, heap_alloc_new w.drew _, hge, hcm, ?_, ?_⟩⟩, ⟨by simp, fun k hk _ => by rw [heap_alloc_old w.drew _ (by simpa using hk)]; rfl⟩⟩
      · simp only [Array.size_append, List.size_toArray, size_zeroCells, hzs, hown.1, hl, ← Nat.add_mul]
        congr 1
        omega
      · simp only [Array.toList_append, List.append_assoc]
        rw [← List.append_assoc, ← hlen]
        exact List.take_left
    rcases hown.2 with ⟨rfl, rfl⟩ | ⟨g, cap, cur, rfl, hg, hnc, hcm, hcs, htake⟩
    · have hx : xs = [] := List.eq_nil_of_length_eq_zero (by simpa using hown.1)
      subst hx
      by_cases hm : m = 0
      · subst hm
        have hn : news = [] := List.eq_nil_of_length_eq_zero (by simpa using hl)
        subst hn
        refine ⟨.slice none 0 0, w, ?_, Same.refl _, ⟨by simp, .inl ⟨rfl, rfl⟩⟩, Kept.refl _ _, .inl rfl⟩
        simp [Builtin.append_, run_underlying ht, sizeOf, typeInfo, hi, Builtin.lenOf, Builtin.firstCells, loadCells, loadCellsFrom]
      · have hr := run_append_nil (P := P) w t ty e i z ht hi hz ad m c news hl hnews (by omega) (by omega) (by have hb := hbytes; simp only [Nat.zero_add] at hb; omega)
        have hgr := grown 0 (by omega) none
        simp only [Nat.zero_add, List.nil_append, Array.empty_append] at hgr ⊢
        exact ⟨_, _, hr, Same.of_all rfl rfl rfl hgr.2.size (fun k hk => hgr.2.block k hk (by simp)), hgr.1, ⟨hgr.2.size, fun k hk _ => hgr.2.block k hk (by simp)⟩, .inr rfl⟩
    · by_cases hroom : n + m ≤ cap
      · have hfit : n * i.size + news.length ≤ cur.size := by rw [hl, hcs, ← Nat.add_mul]; exact Nat.mul_le_mul_right _ hroom
        have hr := run_append_room (P := P) w t ty e i ht hi g n cap cur hg ad m c news hl hnews h1 hroom hfit
        refine ⟨_, _, hr, Same.of_row rfl rfl rfl (by simp) hg (by simp) (fun k _ hne => setRow_other w g k _ (fun e => hne e)), ⟨hlen, .inr ⟨g, cap, _, rfl, setRow_heap w g cur _ e _ hg, hroom, hcm, ?_, ?_⟩⟩, ⟨by simp, fun k hk hne => setRow_other w g k _ (fun e => hne (by simp [Value.ownBlock, e]))⟩, .inl rfl⟩
        · simp only [List.size_toArray, List.length_append, List.length_take, List.length_drop, Array.length_toList]
          omega
        · rw [htake, ← hlen]
          exact List.take_left
      · have holds : ∀ j u, xs[j]? = some u → w.cell? ((⟨g, 0, none⟩ : Addr).add j) = some u := by
          intro j u hu
          have := World.ownsRow.cells (w := w) (base := 0) (e := e) (size := i.size) (v := .slice (some ⟨g, 0, none⟩) n cap) (n := n) (xs := xs) ⟨hown.1, .inr ⟨g, cap, cur, rfl, Nat.zero_le _, hg, hnc, hcm, hcs, htake⟩⟩ (g := g) rfl j u hu
          exact this
        have hr := run_append_grow (P := P) w t ty e i z ht hi hz ⟨g, 0, none⟩ n cap xs hown.1 holds ad m c news hl hnews (by omega) (by omega) (growslice_fits (by omega) hbytes)
        have hgr := grown cap (by omega) none
        exact ⟨_, _, hr, Same.of_all rfl rfl rfl hgr.2.size (fun k hk => hgr.2.block k hk (by simp)), hgr.1, ⟨hgr.2.size, fun k hk _ => hgr.2.block k hk (by simp)⟩, .inr rfl⟩

theorem step_of {P : Program} {op : Op} {ty : TypeId} {us : List (Nat × Value)} {h : Heap} {K : Value → Heap → Prop} (hr : RunsTo P (loudSem op ty us) h K) : step P op ty us h K := hr
theorem of_step {P : Program} {op : Op} {ty : TypeId} {us : List (Nat × Value)} {h : Heap} {K : Value → Heap → Prop} (hr : step P op ty us h K) : RunsTo P (loudSem op ty us) h K := hr
attribute [irreducible] step callStep
end Go.Lft

/- Loud operations over typed data: slices that a function makes, fills and writes. -/
namespace Go.Lft
open Go
variable {po : OP} {pp : PP}

/-- New blocks alone. -/
def fresh (h h' : Heap) : View := fun b => if b < h.size then none else h'[b]?

theorem fresh_le (h h' : Heap) : (fresh h h').le (vw h') := fun b o hb => by
  unfold fresh at hb; split at hb
  · cases hb
  · exact hb
theorem fresh_grow (V : View) (h h' : Heap) : (fresh h h').le (grow V h h') := fun b o hb => by
  unfold fresh at hb; unfold grow
  split at hb
  · cases hb
  · rename_i hlt; rw [if_neg hlt]; exact hb

/-! ### Where a slice that was written has moved to -/

structure Moved (h h' : Heap) (v v' : Value) : Prop where
  kept : Kept h h' v.ownBlock
  at_ : v'.ownBlock = v.ownBlock ∨ v'.ownBlock = some h.size

theorem Moved.view {h h' : Heap} {v v' : Value} (m : Moved h h' v v') {W : View} (hw : W.le (vw h)) (ha : Av W v) : W.le (vw h') ∧ Av W v' := by
  refine ⟨m.kept.view hw ha, fun b hb => ?_⟩
  rcases m.at_ with e | e
  · exact ha b (by rw [← e]; exact hb)
  · rw [e] at hb
    simp only [Option.some.injEq] at hb
    exact View.none_of_ge hw (by omega)

theorem Av.nil (W : View) (n c : Nat) : Av W (.slice none n c) := fun b hb => by simp [Value.ownBlock] at hb
theorem Av.new {W : View} {h : Heap} (hw : W.le (vw h)) (n c o : Nat) : Av W (.slice (some ⟨h.size, o, none⟩) n c) := fun b hb => by
  simp only [Value.ownBlock, Option.some.injEq] at hb; subst hb; exact View.none_of_ge hw (Nat.le_refl _)

/-! ### Slices of one's own, typed -/

section
variable {α : Type} [Rep α]

def OwnT (W : View) (h : Heap) (e : TypeId) (v : Value) (l : List α) : Prop :=
  l.length ≤ 140737488355328 ∧ ∃ xs, ownsH h e (Rep.n α) v l.length xs ∧ ∀ (i : Nat) (hi : i < l.length), Rep.rd W ((xs.drop (i * Rep.n α)).take (Rep.n α)) l[i]

/-- A slice that is only read, to be appended. -/
def SrcT (Ho Hi : View) (u : Value) (l : List α) : Prop :=
  ∃ a c, u = .slice a l.length c ∧ (a = none → l = []) ∧ ∃ news : List Value, news.length = l.length * Rep.n α ∧ (∀ ad, a = some ad → ∀ j x, news[j]? = some x → cellH Ho (ad.add j) = some x) ∧
    ∀ (i : Nat) (hi : i < l.length), Rep.rd Hi ((news.drop (i * Rep.n α)).take (Rep.n α)) l[i]

theorem OwnT.nil (W : View) (h : Heap) (e : TypeId) : OwnT (α := α) W h e (.slice none 0 0) [] :=
  ⟨by simp, [], ⟨by simp, .inl ⟨rfl, rfl⟩⟩, fun i hi => by simp at hi⟩

variable {W : View} {h h' : Heap} {e : TypeId} {v : Value} {l : List α}

theorem OwnT.bound (o : OwnT W h e v l) : l.length ≤ 140737488355328 := o.1
theorem OwnT.len (o : OwnT W h e v l) {K : View} : Un.ev K .len v = some (.int .i64 l.length) := by
  obtain ⟨_, xs, ⟨_, hx⟩, _⟩ := o
  rcases hx with ⟨rfl, hn⟩ | ⟨g, cap, cur, rfl, _⟩
  · rw [hn]; rfl
  · rfl

theorem OwnT.mono (o : OwnT W h e v l) {W' : View} (hw : W.le W') : OwnT W' h e v l :=
  let ⟨b, xs, h1, h2⟩ := o
  ⟨b, xs, h1, fun i hi => Rep.mono hw (h2 i hi)⟩

/-- It stands, whatever else is written. -/
theorem OwnT.kept (o : OwnT W h e v l) {b : Option Nat} (k : Kept h h' b) (hb : v.ownBlock = none ∨ v.ownBlock ≠ b) : OwnT W h' e v l :=
  let ⟨bd, xs, h1, h2⟩ := o
  ⟨bd, xs, h1.kept k hb, h2⟩
theorem OwnT.ext (o : OwnT W h e v l) (k : (vw h).le (vw h')) : OwnT W h' e v l := o.kept (ext_kept' k) (by cases v.ownBlock <;> simp)

theorem chunk_flat {xs : List Value} {n len : Nat} (hl : xs.length = len * n) (hr : ∀ (i : Nat), i < len → ∀ u ∈ (xs.drop (i * n)).take n, u.oneCell' = true) : ∀ u ∈ xs, u.oneCell' = true := by
  intro u hu
  obtain ⟨j, hj, rfl⟩ := List.getElem_of_mem hu
  have hn : 0 < n := by
    rcases Nat.eq_zero_or_pos n with h | h
    · subst h; simp at hl; subst hl; simp at hj
    · exact h
  have hlt : j / n < len := by
    rw [Nat.div_lt_iff_lt_mul hn]; omega
  refine hr (j / n) hlt _ ?_
  have hm := Nat.mod_lt j hn
  have hd := Nat.div_add_mod j n
  have : ((xs.drop (j / n * n)).take n)[j % n]? = some xs[j] := by
    rw [List.getElem?_take, if_pos hm, List.getElem?_drop]
    have : j / n * n + j % n = j := by rw [Nat.mul_comm]; exact hd
    rw [this]; exact List.getElem?_eq_getElem hj
  exact List.mem_of_getElem? this

theorem chunk_app {xs ys : List Value} {n a i : Nat} (hx : xs.length = a * n) : ((xs ++ ys).drop (i * n)).take n = if i < a then (xs.drop (i * n)).take n else (ys.drop ((i - a) * n)).take n := by
  split
  · rename_i h
    have h1 : i * n + n ≤ a * n := by rw [← Nat.succ_mul]; exact Nat.mul_le_mul_right _ h
    rw [List.drop_append_of_le_length (by omega), List.take_append_of_le_length (by simp; omega)]
  · rename_i h
    have h1 : a * n ≤ i * n := Nat.mul_le_mul_right _ (by omega)
    have h2 : (i - a) * n = i * n - a * n := Nat.sub_mul ..
    rw [List.drop_append, List.drop_eq_nil_of_le (by omega), List.nil_append, hx, h2]

/-- APPEND to a slice of one's own. -/
theorem do_append {P : Program} {t ty : TypeId} {bytes : Nat} {z : Value} {x y : Operand} {us : List (Nat × Value)} {u : Value} {l2 : List α} {K : Value → Heap → Prop} (hT : ElemT P t e (Rep.n α) bytes z) (hx : asg us x = v) (hy : asg us y = u)
    (ho : OwnT W h e v l) (hs : SrcT (vw h) W u l2) (hb : (l.length + l2.length) * bytes ≤ 140737488355328) (hb2 : l.length + l2.length ≤ 140737488355328)
    (hk : ∀ v' h', OwnT W h' e v' (l ++ l2) → Moved h h' v v' → K v' h') : step P (.call ⟨.builtin .append, #[x, y], #[t, t]⟩) ty us h K := by
  obtain ⟨hbd, xs, h1, h2⟩ := ho
  obtain ⟨a, c, rfl, hnil, news, h3, h4, h5⟩ := hs
  refine step_of (runs_value fun w hw => ?_)
  subst hw
  have hflat : ∀ u ∈ news, u.oneCell' = true := chunk_flat h3 fun i hi => Rep.flat (h5 i hi)
  obtain ⟨v', w', g1, g2, g3, g4, g5⟩ := append_raw hT (ty := ty) h1 h3 (fun ad ha j u hu => h4 ad ha j u hu) (c := c) (fun ha => by rw [hnil ha]; rfl) hflat hb hb2
  refine ⟨v', w', ?_, g2, hk v' w'.heap ⟨by simpa using hb2, xs ++ news, by simpa using g3, fun i hi => ?_⟩ ⟨g4, g5⟩⟩
  · simp only [loudSem, execOp]
    simp [resolve, invoke, builtin, hx, hy, g1]
  · rw [chunk_app h1.1]
    split
    · rename_i hlt; rw [List.getElem_append_left hlt]; exact h2 i hlt
    · rename_i hge
      rw [List.getElem_append_right (by omega)]
      exact h5 (i - l.length) (by simp at hi; omega)

theorem SlRd.src {H K : View} (s : SlRd H v l) (hk : H.le K) : SrcT K H v l := by
  obtain ⟨a, cap, rfl, h1, h2, h3⟩ := s
  rcases h3 with rfl | ⟨ad, rfl, hs, hat⟩
  · exact ⟨a, cap, rfl, fun _ => rfl, [], by simp, fun _ _ j x hx => by simp at hx, fun i hi => by simp at hi⟩
  · refine ⟨some ad, cap, rfl, (fun h => by cases h), ?_⟩
    cases hl : l with
    | nil => exact ⟨[], by simp, fun _ _ j x hx => by simp at hx, fun i hi => by simp at hi⟩
    | cons d0 l0 =>
      rw [← hl]
      have hpos : 0 < l.length := by rw [hl]; simp
      obtain ⟨cs0, ⟨c, T, fz, _, hb, _⟩, _⟩ := hat 0 hpos
      have hblk : H ad.block = some (.cells c T fz) := by
        rw [addr_add_none hs] at hb; exact hb
      have hcs : ∀ (i : Nat) (hi : i < l.length), Rep.rd H ((c.toList.drop (ad.off + i * Rep.n α)).take (Rep.n α)) l[i] := by
        intro i hi
        obtain ⟨cs, ⟨c', T', fz', _, hb', he⟩, hr⟩ := hat i hi
        rw [addr_add_none hs] at hb' he
        simp only at hb' he
        rw [hblk] at hb'
        cases hb'
        rw [Rep.len hr] at he
        rw [he]; exact hr
      have htot : ad.off + l.length * Rep.n α ≤ c.toList.length := by
        have := Rep.len (hcs (l.length - 1) (by omega))
        have hn := Rep.pos (α := α)
        simp only [List.length_take, List.length_drop] at this
        have e1 : l.length * Rep.n α = (l.length - 1) * Rep.n α + Rep.n α := by rw [← Nat.succ_mul]; congr 1; omega
        omega
      refine ⟨(c.toList.drop ad.off).take (l.length * Rep.n α), ?_, ?_, ?_⟩
      · simp only [List.length_take, List.length_drop]; omega
      · intro ad' e j x hx
        cases e
        have hj : j < l.length * Rep.n α := by
          rcases Nat.lt_or_ge j (l.length * Rep.n α) with h | h
          · exact h
          · rw [List.getElem?_eq_none (by simp; omega)] at hx; cases hx
        rw [List.getElem?_take, if_pos hj, List.getElem?_drop] at hx
        rw [addr_add_none hs]
        simp only [cellH, hk _ _ hblk]
        simpa using hx
      · intro i hi
        have h1 : i * Rep.n α + Rep.n α ≤ l.length * Rep.n α := by rw [← Nat.succ_mul]; exact Nat.mul_le_mul_right _ hi
        rw [List.drop_take, List.take_take, List.drop_drop, Nat.min_eq_left (by omega)]
        exact hcs i hi

theorem SrcT.mono {Ho Hi Ho' Hi' : View} (s : SrcT Ho Hi v l) (h1 : Ho.le Ho') (h2 : Hi.le Hi') : SrcT Ho' Hi' v l :=
  let ⟨a, c, g1, g2, news, g3, g4, g5⟩ := s
  ⟨a, c, g1, g2, news, g3, fun ad ha j x hx => cellH_mono h1 (g4 ad ha j x hx), fun i hi => Rep.mono h2 (g5 i hi)⟩

/-- It reads as a slice over a part that has its own block. -/
theorem OwnT.rd (o : OwnT W h e v l) {V : View} (hw : W.le V) (hv : ∀ b, v.ownBlock = some b → V b = h[b]?) : SlRd V v l := by
  obtain ⟨hbd, xs, ⟨hx, hown⟩, hel⟩ := o
  rcases hown with ⟨rfl, hn⟩ | ⟨g, cap, cur, rfl, hg, h1, h2, h3, h4⟩
  · have : l = [] := List.eq_nil_of_length_eq_zero hn
    subst this
    exact ⟨none, 0, rfl, by simp, by simp, .inl rfl⟩
  · refine ⟨some ⟨g, 0, none⟩, cap, rfl, h1, hbd, .inr ⟨_, rfl, rfl, fun i hi => ?_⟩⟩
    refine ⟨(xs.drop (i * Rep.n α)).take (Rep.n α), ⟨cur, e, (0, 0), ?_, ?_, ?_⟩, Rep.mono hw (hel i hi)⟩
    · rw [addr_add_none rfl]
    · rw [addr_add_none rfl]; rw [hv g rfl]; exact hg
    · rw [addr_add_none rfl, Rep.len (hel i hi)]
      have hle : i * Rep.n α + Rep.n α ≤ l.length * Rep.n α := by rw [← Nat.succ_mul]; exact Nat.mul_le_mul_right _ hi
      rw [← h4, List.drop_take, List.take_take]
      simp only [Nat.zero_add]
      rw [Nat.min_eq_left (by omega)]

/-- One that lies in new blocks alone. -/
theorem OwnT.fresh {h0 : Heap} (o : OwnT W h e v l) (hW : W.le (fresh h0 h)) (ha : Av (vw h0) v) : SlRd (Lft.fresh h0 h) v l := by
  refine o.rd hW fun b hb => ?_
  have := ha b hb
  simp only [vw] at this
  have hge : h0.size ≤ b := by
    rcases Nat.lt_or_ge b h0.size with h | h
    · simp [h] at this
    · exact h
  simp only [Lft.fresh, if_neg (Nat.not_lt.2 hge)]

/-- A slice of one, made for an append. -/
theorem do_one {P : Program} {t ty : TypeId} {bytes : Nat} {z : Value} {x : Operand} {us : List (Nat × Value)} {u : Value} {d : α} {K : Value → Heap → Prop} (hT : ElemT P t e (Rep.n α) bytes z) (hx : asg us x = u)
    (hr : Rd W u d) (hk : ∀ u' h', SrcT (vw h') W u' [d] → (vw h).le (vw h') → h'.size = h.size + 1 → K u' h') : step P (.buildSlice t 1 #[(0, x)]) ty us h K := by
  have hTT := hT
  obtain ⟨ht, ⟨i, hi, hz, hsize, hby⟩, hzs, hsz, hsmall⟩ := hT
  have hcells : Rep.rd W u.cells.toList d ∧ u.cells.size = Rep.n α := by
    unfold Rd at hr
    split at hr
    · obtain ⟨cs, rfl, h⟩ := hr
      exact ⟨h, by rw [← Rep.len h]; rfl⟩
    · rename_i ha
      have hone := Rep.one (α := α) (by simpa using ha)
      have hfl := Rep.flat hr u (by simp)
      have : u.cells = #[u] := by cases u <;> first | rfl | simp [Value.oneCell'] at hfl
      rw [this]
      exact ⟨by simpa using hr, by simp [hone]⟩
  have hfill : Instr.fill (fun j => some (j * Rep.n α, Rep.n α)) ((Array.range (1 * Rep.n α)).map (z.cells[· % z.cells.size]!)) [(0, u)] = some u.cells := by
    have hlen : ∀ (A : Array Value) (cs : Array Value), A.size = cs.size → cs.zipIdx.foldl (fun cs' (p : Value × Nat) => cs'.setIfInBounds (0 + p.2) p.1) A = cs := by
      intro A cs hA
      have key : ∀ (l : List Value) (k : Nat) (B : Array Value), B.size = k + l.length → ((l.zipIdx k).foldl (fun cs' (p : Value × Nat) => cs'.setIfInBounds (0 + p.2) p.1) B).toList = B.toList.take k ++ l := by
        intro l
        induction l with
        | nil => intro k B hB; simp at hB; simp only [List.zipIdx_nil, List.foldl_nil, List.append_nil]; rw [List.take_of_length_le (by simp [hB])]
        | cons y l ih =>
          intro k B hB
          simp only [List.zipIdx_cons, List.foldl_cons]
          rw [ih (k + 1) _ (by simp at hB ⊢; omega)]
          simp only [Nat.zero_add, Array.toList_setIfInBounds]
          have hk : k < B.toList.length := by simp at hB ⊢; omega
          rw [List.take_succ_eq_append_getElem (by simpa using hk)]
          simp [List.take_set_of_le]
      rw [← Array.toList_inj, ← Array.foldl_toList, Array.toList_zipIdx]
      have := key cs.toList 0 A (by simpa using hA)
      simpa using this
    simp only [Instr.fill, Nat.zero_mul, Nat.zero_add, Array.size_map, Array.size_range, Nat.one_mul, hcells.2, ne_eq, not_true, decide_false, Bool.false_or, gt_iff_lt, Nat.lt_irrefl]
    simp only [Bool.false_eq_true, if_false]
    congr 1
    have := hlen ((Array.range (Rep.n α)).map (z.cells[· % z.cells.size]!)) u.cells (by simp [hcells.2])
    simpa using this
  refine step_buildSlice ht hi hz hsize (by omega) (vs := [(0, u)]) (by simp [hx]) hfill (hk _ _ ?_ (push_le _ _) (by simp))
  refine ⟨some ⟨h.size, 0, none⟩, 1, rfl, (fun h => by cases h), u.cells.toList, by simp [hcells.2], ?_, ?_⟩
  · intro ad e j x hx
    cases e
    rw [addr_add_none rfl]
    simp only [cellH, vw, Array.getElem?_push_size]
    simpa using hx
  · intro i hi'
    simp only [List.length_cons, List.length_nil, Nat.zero_add, Nat.lt_one_iff] at hi'
    subst hi'
    have : (u.cells.toList.take (Rep.n α)) = u.cells.toList := by rw [List.take_of_length_le]; simp [hcells.2]
    simpa [this] using hcells.1

/-- MAKE: a slice of zero values. -/
theorem do_make {P : Program} {t ty : TypeId} {bytes : Nat} {z : Value} {x y : Operand} {us : List (Nat × Value)} {k : IntKind} {n : Nat} {d : α} {K : Value → Heap → Prop} (hT : ElemT P t e (Rep.n α) bytes z) (hx : asg us x = .int k n) (hy : asg us y = .int k n)
    (hr : Rep.rd W z.cells.toList d) (hb : bytes * n ≤ 140737488355328) (hb2 : n ≤ 140737488355328)
    (hk : ∀ v' h', OwnT W h' e v' (List.replicate n d) → Moved h h' (.slice none 0 0) v' → (vw h).le (vw h') → v'.ownBlock = some h.size → K v' h') : step P (.makeSlice t x y) ty us h K := by
  obtain ⟨ht, ⟨i, hi, hz, hsize, hby⟩, hzs, hsz, hsmall⟩ := hT
  refine step_of (runs_value fun w hw => ?_)
  subst hw
  have hrun := run_make (P := P) w t e i z ht hi hz k k (n : Int) (n : Int) (by omega) (Int.le_refl _) (by
    rw [hby]
    have : ((bytes * n : Nat) : Int) ≤ 281474976710656 := by omega
    rwa [Int.natCast_mul] at this) (by omega)
  simp only [Int.toNat_natCast] at hrun
  refine ⟨.slice (some ⟨w.heap.size, 0, none⟩) n n, w.alloc (.cells (madeCells z.cells (n * i.size)) e), ?_, same_alloc _ _, hk _ _ ?_ ⟨Kept.push _ _ _, .inr rfl⟩ (push_le _ _) rfl⟩
  · simp only [loudSem, execOp, hx, hy]
    simp [hrun]
  · refine ⟨by simpa using hb2, ((madeCells z.cells (n * Rep.n α)).toList.take (n * Rep.n α)), ⟨by simp [size_madeCells], .inr ⟨w.heap.size, n, madeCells z.cells (n * Rep.n α), by simp, ?_, by simp, by simp only [maxLen]; omega, by simp [size_madeCells], by simp⟩⟩, ?_⟩
    · rw [hsize]; exact heap_alloc_new w _
    · intro j hj
      simp only [List.length_replicate] at hj
      have he : ((((madeCells z.cells (n * Rep.n α)).toList.take (n * Rep.n α)).drop (j * Rep.n α)).take (Rep.n α)) = z.cells.toList := by
        have h1 : j * Rep.n α + Rep.n α ≤ n * Rep.n α := by rw [← Nat.succ_mul]; exact Nat.mul_le_mul_right _ hj
        refine List.ext_getElem ?_ fun m hm1 hm2 => ?_
        · simp [size_madeCells, hzs]; omega
        · simp only [List.length_take, List.length_drop] at hm1
          simp only [List.getElem_take, List.getElem_drop, madeCells, Array.toList_map, List.getElem_map, Array.toList_range, List.getElem_range]
          have hm : m < z.cells.size := by simpa using hm2
          have hmod : (j * Rep.n α + m) % z.cells.size = m := by
            rw [hzs, Nat.mul_comm, Nat.mul_add_mod]; exact Nat.mod_eq_of_lt (by omega)
          rw [hmod]
          simp [hm]
      rw [he]
      simpa using hr

/-- A STORE into a slice of one's own. -/
theorem do_set {P : Program} {t ty : TypeId} {x y : Operand} {us : List (Nat × Value)} {i : Nat} {u : Value} {d : α} {K : Value → Heap → Prop} (hsz : sizeB P t = some (Rep.n α)) (hx : asg us x = .pointer (some ((slA v).add (i * Rep.n α)))) (hy : asg us y = u)
    (ho : OwnT W h e v l) (hi : i < l.length) (hr : Rd W u d) (hk : ∀ h', OwnT W h' e v (l.set i d) → Moved h h' v v → K undef h') : step P (.store t x y) ty us h K := by
  have hcells : Rep.rd W u.cells.toList d ∧ u.cells.size = Rep.n α := by
    unfold Rd at hr
    split at hr
    · obtain ⟨cs, rfl, h⟩ := hr
      exact ⟨h, by rw [← Rep.len h]; rfl⟩
    · rename_i ha
      have hone := Rep.one (α := α) (by simpa using ha)
      have hfl := Rep.flat hr u (by simp)
      have : u.cells = #[u] := by cases u <;> first | rfl | simp [Value.oneCell'] at hfl
      rw [this]
      exact ⟨by simpa using hr, by simp [hone]⟩
  obtain ⟨hbd, xs, ⟨hxl, hown⟩, hel⟩ := ho
  refine step_of (runs_skip fun w hw => ?_)
  subst hw
  rcases hown with ⟨rfl, hn⟩ | ⟨g, cap, cur, rfl, hg, h1, h2, h3, h4⟩
  · omega
  · have hle : i * Rep.n α + Rep.n α ≤ l.length * Rep.n α := by rw [← Nat.succ_mul]; exact Nat.mul_le_mul_right _ hi
    have hcap : l.length * Rep.n α ≤ cap * Rep.n α := Nat.mul_le_mul_right _ h1
    have hlen : u.cells.toList.length = Rep.n α := by simpa using hcells.2
    have hrun := run_storeCells_at P g (i * Rep.n α) e u.cells.toList 0 cur w hg (by simp only [Nat.add_zero]; omega) (fun c hc => Rep.flat hcells.1 c hc)
    have hadd : (slA (.slice (some ⟨g, 0, none⟩) l.length cap)).add (i * Rep.n α) = ⟨g, i * Rep.n α, none⟩ := by
      show (⟨g, 0, none⟩ : Addr).add _ = _
      rw [addr_add_none rfl]; simp
    have hszr := run_sizeOf (P := P) (w := w) hsz
    obtain ⟨row, hrow⟩ : ∃ row : Array Value, row.toList = cur.toList.take (i * Rep.n α) ++ u.cells.toList ++ cur.toList.drop (i * Rep.n α + Rep.n α) := ⟨(cur.toList.take (i * Rep.n α) ++ u.cells.toList ++ cur.toList.drop (i * Rep.n α + Rep.n α)).toArray, rfl⟩
    have hrun' : Sem.run P (storeCells ⟨g, i * Rep.n α, none⟩ u.cells.toList) w = .ok () (w.setRow g row) := by
      rw [hrun]; congr 2
      rw [← Array.toList_inj, hrow, hlen]; rfl
    have hrsz : row.size = cap * Rep.n α := by
      have := congrArg List.length hrow
      simp only [Array.length_toList, List.length_append, List.length_take, List.length_drop, hcells.2] at this
      omega
    refine ⟨w.setRow g row, ?_, Same.of_row rfl rfl rfl (by simp) hg (by simp) (fun k _ hne => setRow_other w g k _ (fun e => hne e)), hk (w.setRow g row).heap ⟨by simpa using hbd, xs.take (i * Rep.n α) ++ u.cells.toList ++ xs.drop (i * Rep.n α + Rep.n α), ⟨?_, .inr ⟨g, cap, row, by simp, setRow_heap w g cur row e _ hg, by simpa using h1, h2, ?_, ?_⟩⟩, ?_⟩ ⟨⟨by simp, fun k hk hne => setRow_other w g k _ (fun e => hne (by simp [Value.ownBlock, e]))⟩, .inl rfl⟩⟩
    · simp only [loudSem, execOp, hx, hy, hadd]
      simp [Instr.storeAt, Instr.sureAddr, storeVar, hszr, hcells.2, hrun']
    · simp only [List.length_append, List.length_take, List.length_drop, hlen, List.length_set]; omega
    · exact hrsz
    · simp only [List.length_set]
      rw [hrow, ← h4, List.take_take, Nat.min_eq_left (by omega), List.append_assoc, List.append_assoc]
      have e1 : (cur.toList.take (i * Rep.n α)).length = i * Rep.n α := by simp; omega
      rw [List.take_append, e1, List.take_of_length_le (by omega)]
      congr 1
      rw [List.take_append, hlen, List.take_of_length_le (by omega)]
      congr 1
      rw [List.drop_take]
      congr 1
      omega
    · intro j hj
      simp only [List.length_set] at hj
      have hjle : j * Rep.n α + Rep.n α ≤ l.length * Rep.n α := by rw [← Nat.succ_mul]; exact Nat.mul_le_mul_right _ hj
      have e1 : (xs.take (i * Rep.n α)).length = i * Rep.n α := by simp; omega
      by_cases hij : i = j
      · subst hij
        rw [List.append_assoc, List.drop_append, e1, List.drop_eq_nil_of_le (by omega), List.nil_append, Nat.sub_self, List.drop_zero, List.take_append_of_le_length (by omega), List.take_of_length_le (by omega)]
        simpa using hcells.1
      · have hset : (l.set i d)[j]'(by simpa using hj) = l[j] := by simp [hij]
        rw [hset]
        have : ((xs.take (i * Rep.n α) ++ u.cells.toList ++ xs.drop (i * Rep.n α + Rep.n α)).drop (j * Rep.n α)).take (Rep.n α) = (xs.drop (j * Rep.n α)).take (Rep.n α) := by
          rcases Nat.lt_or_ge j i with hlt | hge
          · have h5 : j * Rep.n α + Rep.n α ≤ i * Rep.n α := by rw [← Nat.succ_mul]; exact Nat.mul_le_mul_right _ hlt
            rw [List.append_assoc, List.drop_append_of_le_length (by omega), List.take_append_of_le_length (by simp; omega), List.drop_take, List.take_take, Nat.min_eq_left (by omega)]
          · have h5 : i * Rep.n α + Rep.n α ≤ j * Rep.n α := by rw [← Nat.succ_mul]; exact Nat.mul_le_mul_right _ (by omega)
            have e2 : (xs.take (i * Rep.n α) ++ u.cells.toList).length = i * Rep.n α + Rep.n α := by rw [List.length_append, e1, hlen]
            rw [List.drop_append, List.drop_eq_nil_of_le (by omega), List.nil_append, e2, List.drop_drop]
            congr 2
            omega
        rw [this]
        exact hel j hj

end
end Go.Lft

/- A slice that a function makes for itself and fills: what stands, what is its own. -/
namespace Go.Lft
open Go
variable {po po2 po3 : OP} {pp : PP}
set_option linter.unusedSimpArgs false

/-- So many rounds. -/
def up {β : Type} (f : Nat → β → β) : Nat → β → β
  | 0, x => x
  | k + 1, x => f k (up f k x)

/-- Of what lay there before, the part has what another one has. -/
def Old (V : View) (h0 : Heap) (W : View) : Prop := ∀ b o, b < h0.size → W b = some o → V b = some o

theorem Old.refl (V : View) (h0 : Heap) : Old V h0 V := fun _ _ _ h => h
theorem Old.nothing (V : View) (h0 : Heap) : Old V h0 nothing := fun _ _ _ h => by cases h
theorem Old.grow {V W : View} {h0 h1 h2 : Heap} (o : Old V h0 W) (hs : h0.size ≤ h1.size) : Old V h0 (grow W h1 h2) := fun b x hb hx => by
  unfold Lft.grow at hx; rw [if_pos (by omega)] at hx; exact o b x hb hx
theorem Old.le {V W : View} {h0 h : Heap} (o : Old V h0 W) (hw : W.le (vw h)) : W.le (Lft.grow V h0 h) := fun b x hx => by
  unfold Lft.grow
  split
  · exact o b x (by assumption) hx
  · exact hw b x hx
@[simp] theorem nothing_le {H : View} : nothing.le H := fun _ _ h => by cases h
theorem fresh_eq (h h' : Heap) : fresh h h' = Lft.grow nothing h h' := by
  funext b; unfold fresh Lft.grow; rfl

section
variable {α : Type} [Rep α] {V W : View} {h0 h h' : Heap} {e : TypeId} {v : Value} {l : List α}

theorem OwnT.lt (o : OwnT W h e v l) {b : Nat} (hb : v.ownBlock = some b) : b < h.size := by
  obtain ⟨_, xs, ⟨_, hown⟩, _⟩ := o
  rcases hown with ⟨rfl, _⟩ | ⟨g, cap, cur, rfl, hg, _⟩
  · simp [Value.ownBlock] at hb
  · simp only [Value.ownBlock, Option.some.injEq] at hb
    subst hb
    exact (Array.getElem?_eq_some_iff.1 hg).1
theorem OwnT.now (o : OwnT W h e v l) (hw : W.le (vw h)) : SlRd (vw h) v l := o.rd hw fun _ _ => rfl
theorem OwnT.grown (o : OwnT W h e v l) (hw : W.le (vw h)) (ho : Old V h0 W) (ha : Av (vw h0) v) : SlRd (Lft.grow V h0 h) v l := by
  refine o.rd (ho.le hw) fun b hb => ?_
  have := ha b hb
  simp only [vw] at this
  have hge : h0.size ≤ b := by
    rcases Nat.lt_or_ge b h0.size with h | h
    · simp [h] at this
    · exact h
  simp only [Lft.grow, if_neg (Nat.not_lt.2 hge)]
theorem Av.grow (ha : Av W v) (hl : ∀ b, v.ownBlock = some b → b < h.size) : Av (Lft.grow W h h') v := fun b hb => by
  unfold Lft.grow; rw [if_pos (hl b hb)]; exact ha b hb

/-- A slice of the call's own: h0 is the heap that the call began with, V what of it the elements may share; W what stands now. -/
structure Mine (V : View) (h0 h : Heap) (W : View) (e : TypeId) (v : Value) (l : List α) : Prop where
  old : (vw h0).le (vw h)
  wle : W.le (vw h)
  av : Av W v
  av0 : Av (vw h0) v
  agree : Old V h0 W
  own : OwnT W h e v l

theorem Mine.start (hV : V.le (vw h)) : Mine (α := α) V h h V e (.slice none 0 0) [] :=
  ⟨View.le_refl _, hV, Av.nil _ _ _, Av.nil _ _ _, Old.refl _ _, OwnT.nil ..⟩
theorem Mine.start' (hV : V.le (vw h0)) (hle : (vw h0).le (vw h)) : Mine (α := α) V h0 h V e (.slice none 0 0) [] :=
  ⟨hle, View.le_trans hV hle, Av.nil _ _ _, Av.nil _ _ _, Old.refl _ _, OwnT.nil ..⟩
theorem Mine.startW (hle : (vw h0).le (vw h)) (hW : W.le (vw h)) (ho : Old V h0 W) : Mine (α := α) V h0 h W e (.slice none 0 0) [] :=
  ⟨hle, hW, Av.nil _ _ _, Av.nil _ _ _, ho, OwnT.nil ..⟩

theorem Mine.ext (m : Mine V h0 h W e v l) (k : (vw h).le (vw h')) : Mine V h0 h' (Lft.grow W h h') e v l :=
  ⟨View.le_trans m.old k, grow_le (View.le_trans m.wle k), m.av.grow fun _ hb => m.own.lt hb, m.av0, m.agree.grow (ext_size m.old), (m.own.ext k).mono (le_grow m.wle)⟩
/-- The same, where what came new is of no account. -/
theorem Mine.ext' (m : Mine V h0 h W e v l) (k : (vw h).le (vw h')) : Mine V h0 h' W e v l :=
  ⟨View.le_trans m.old k, View.le_trans m.wle k, m.av, m.av0, m.agree, m.own.ext k⟩
theorem Mine.result (m : Mine V h0 h W e v l) : SlRd (Lft.grow V h0 h) v l := m.own.grown m.wle m.agree m.av0
theorem Mine.fresh (m : Mine nothing h0 h W e v l) : SlRd (Lft.fresh h0 h) v l := by rw [fresh_eq]; exact m.result
theorem Mine.now (m : Mine V h0 h W e v l) : SlRd (vw h) v l := m.own.now m.wle
theorem Mine.moved {v' : Value} {l' : List α} (m : Mine V h0 h W e v l) (o : OwnT W h' e v' l') (k : Moved h h' v v') : Mine V h0 h' W e v' l' :=
  let ⟨a1, a2⟩ := k.view m.wle m.av
  let ⟨b1, b2⟩ := k.view m.old m.av0
  ⟨b1, a1, a2, b2, m.agree, o⟩

/-- append(out, x). -/
theorem Mine.push {P : Program} {t ty ty2 : TypeId} {bytes : Nat} {z : Value} {x y y2 : Operand} {us : List (Nat × Value)} {us2 : Value → List (Nat × Value)} {u : Value} {d : α} {K : Value → Value → Heap → Prop}
    (m : Mine V h0 h W e v l) (hT : ElemT P t e (Rep.n α) bytes z) (hx : asg us x = u) (hr : Rd W u d) (hb : (l.length + 1) * bytes ≤ 140737488355328) (hb2 : l.length + 1 ≤ 140737488355328) (hy : ∀ u, asg (us2 u) y = v) (hy2 : ∀ u, asg (us2 u) y2 = u)
    (hk : ∀ u v' h', Mine V h0 h' W e v' (l ++ [d]) → K u v' h') :
    @step po P (.buildSlice t 1 #[(0, x)]) ty us h fun u h2 => @step po2 P (.call ⟨.builtin .append, #[y, y2], #[t, t]⟩) ty2 (us2 u) h2 fun v' h3 => K u v' h3 := by
  refine do_one hT hx hr fun u h2 hs hle _ => ?_
  have m2 := m.ext' hle
  exact do_append hT (hy u) (hy2 u) m2.own hs hb hb2 fun v' h3 ho hm => hk u v' h3 (m2.moved ho hm)

/-- make([]T, n). -/
theorem Mine.made {P : Program} {t ty : TypeId} {bytes : Nat} {z : Value} {x y : Operand} {us : List (Nat × Value)} {k : IntKind} {n : Nat} {d : α} {K : Value → Heap → Prop} (hT : ElemT P t e (Rep.n α) bytes z) (hle : (vw h0).le (vw h)) (hW : W.le (vw h)) (ho : Old V h0 W)
    (hx : asg us x = .int k n) (hy : asg us y = .int k n) (hr : Rep.rd W z.cells.toList d) (hb : bytes * n ≤ 140737488355328) (hb2 : n ≤ 140737488355328)
    (hk : ∀ v' h', Mine V h0 h' W e v' (List.replicate n d) → (vw h).le (vw h') → v'.ownBlock = some h.size → K v' h') : step P (.makeSlice t x y) ty us h K :=
  do_make hT hx hy hr hb hb2 fun v' h' ow mv le hb =>
    hk v' h' ⟨View.le_trans hle le, View.le_trans hW le, fun b hb' => by rw [hb] at hb'; cases hb'; exact View.none_of_ge hW (Nat.le_refl _), fun b hb' => by rw [hb] at hb'; cases hb'; exact View.none_of_ge hle (Nat.le_refl _), ho, ow⟩ le hb

/-- out[i] = x. -/
theorem Mine.put {P : Program} {t ty : TypeId} {x y : Operand} {us : List (Nat × Value)} {i : Nat} {u : Value} {d : α} {K : Value → Heap → Prop} (m : Mine V h0 h W e v l) (hsz : sizeB P t = some (Rep.n α))
    (hx : asg us x = .pointer (some ((slA v).add (i * Rep.n α)))) (hy : asg us y = u) (hi : i < l.length) (hr : Rd W u d) (hk : ∀ h', Mine V h0 h' W e v (l.set i d) → K undef h') : step P (.store t x y) ty us h K :=
  do_set hsz hx hy m.own hi hr fun h' ho hm => hk h' (m.moved ho hm)
theorem Mine.put1 {P : Program} {t ty : TypeId} {x y : Operand} {us : List (Nat × Value)} {i : Nat} {u : Value} {d : α} {K : Value → Heap → Prop} (m : Mine V h0 h W e v l) (hsz : sizeB P t = some (Rep.n α)) (hn : Rep.n α = 1)
    (hx : asg us x = .pointer (some ((slA v).add i))) (hy : asg us y = u) (hi : i < l.length) (hr : Rd W u d) (hk : ∀ h', Mine V h0 h' W e v (l.set i d) → K undef h') : step P (.store t x y) ty us h K :=
  m.put hsz (i := i) (by rw [hn, Nat.mul_one]; exact hx) hy hi hr hk
end

/-! ### Rounds -/

theorem up_length {β : Type} {f : Nat → List β → List β} {m : Nat} (hf : ∀ k x, (f k x).length ≤ x.length + m) (n : Nat) (x : List β) : (up f n x).length ≤ x.length + n * m := by
  induction n with
  | zero => simp [up]
  | succ n ih =>
    have := hf n (up f n x)
    rw [up, Nat.succ_mul]; omega

/-- Those below a number that are wanted. -/
def sift {β : Type} (p : Nat → Bool) (x : Nat → β) (n : Nat) : List β := up (fun b l => if p b then l ++ [x b] else l) n []
theorem sift_len {β : Type} {p : Nat → Bool} {x : Nat → β} (n : Nat) : (sift p x n).length ≤ n := by
  have := up_length (f := fun b l => if p b then l ++ [x b] else l) (m := 1) (fun k x => by split <;> simp) n []
  simpa [sift] using this
theorem sift_true {β : Type} {p : Nat → Bool} {x : Nat → β} {n : Nat} (h : p n = true) : sift p x (n + 1) = sift p x n ++ [x n] := by rw [sift, up, if_pos h]; rfl
theorem sift_false {β : Type} {p : Nat → Bool} {x : Nat → β} {n : Nat} (h : p n = false) : sift p x (n + 1) = sift p x n := by rw [sift, up, if_neg (by simp [h])]; rfl
/-- One for each number. -/
def rows {β : Type} (x : Nat → β) (n : Nat) : List β := (List.range n).map x
theorem rows_succ {β : Type} {x : Nat → β} {n : Nat} : rows x (n + 1) = rows x n ++ [x n] := by simp [rows, List.range_succ]
@[simp] theorem rows_len {β : Type} {x : Nat → β} {n : Nat} : (rows x n).length = n := by simp [rows]
@[simp] theorem rows_zero {β : Type} {x : Nat → β} : rows x 0 = [] := rfl
@[simp] theorem sift_zero {β : Type} {p : Nat → Bool} {x : Nat → β} : sift p x 0 = [] := rfl
theorem sift_eq {β : Type} {p : Nat → Bool} {x : Nat → β} {n : Nat} : sift p x n = ((List.range n).filter p).map x := by
  induction n with
  | zero => rfl
  | succ n ih =>
    rw [List.range_succ, List.filter_append, List.map_append, ← ih]
    cases h : p n with
    | true => rw [sift_true h]; simp [h]
    | false => rw [sift_false h]; simp [h]

theorem rows_set {β : Type} {x : Nat → β} {d : β} {n k : Nat} (hk : k < n) : (rows x k ++ List.replicate (n - k) d).set k (x k) = rows x (k + 1) ++ List.replicate (n - (k + 1)) d := by
  have e : n - k = (n - (k + 1)) + 1 := by omega
  rw [List.set_append_right _ _ (by simp), rows_len, Nat.sub_self, e, List.replicate_succ, List.set_cons_zero, rows_succ, List.append_assoc]
  rfl
theorem rows_skip {β : Type} {x : Nat → β} {d : β} {n k : Nat} (hk : k < n) (hx : x k = d) : rows x k ++ List.replicate (n - k) d = rows x (k + 1) ++ List.replicate (n - (k + 1)) d := by
  rw [← rows_set hk, hx, List.set_append_right _ _ (by simp), rows_len, Nat.sub_self, show n - k = (n - (k + 1)) + 1 by omega, List.replicate_succ, List.set_cons_zero]
theorem nth_rows {β : Type} [Inhabited β] {x : Nat → β} {n i : Nat} (h : i < n) : nth (rows x n) i = x i := by
  rw [nth_eq (by simpa using h)]; simp [rows]
theorem fresh_from {h h1 h2 : Heap} (hle : (vw h).le (vw h1)) : (fresh h1 h2).le (fresh h h2) := fun b o hb => by
  have := ext_size hle
  unfold fresh at hb ⊢
  split at hb
  · cases hb
  · rw [if_neg (by omega)]; exact hb
theorem elemT_of {P : Program} {t e size bytes : Nat} {z : Value} (ht : P.underlying t = some (.slice e)) (h : (P.info? e).map (fun i => (i.zero, i.size, i.bytes)) = some (some z, size, bytes)) (hz : z.cells.size = size) (hs : 0 < size ∧ size ≤ 1000) : ElemT P t e size bytes z := by
  simp only [Option.map_eq_some_iff, Prod.mk.injEq] at h
  obtain ⟨i, h1, h2, h3, h4⟩ := h
  exact ⟨ht, ⟨i, h1, h2, h3, h4⟩, hz, hs.1, hs.2⟩
theorem rd_i {H : View} {a : Int} (h0 : -9223372036854775808 ≤ a) (h1 : a ≤ 9223372036854775807) : Rd H (.int .i64 a) a := rd_int.2 ⟨rfl, h0, h1⟩
theorem rd_b {H : View} {b : Bool} : Rd H (.bool b) b := rd_bool.2 rfl
end Go.Lft

