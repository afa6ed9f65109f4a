/- For every input CheckValues returns true: the least number above all values, how often each is used, and which are foldable, are what the document says. No condition. -/
import Derived.Test.YtfelpjfopgiabaaZVa6
import Derived.Test.YtfelpjfopgiabaaRows
set_option linter.unusedSimpArgs false
set_option linter.unusedVariables false
/- For every input CheckValues returns true: the least number above all values, how often each is used, and which are foldable, are what the document says. No condition. -/
namespace Go.Proofs.Ytfelpjfopgiabaa
open Go Go.Lft Go.ChangeShapes Go.WideShapes Go.ChangeAt Go.RowKit
theorem rt_tri {P : Program} {t e : TypeId} (ht : P.underlying t = some (.array 3 e)) (he : P.underlying e = some (.int .i64)) (hc : P.cellsOf e = 1) (hc2 : P.cellsOf t = 3) : RT P t Q3 where
 cells := fun {H enc W spare held fuel cs d ps} h _ => by
  obtain ⟨xs, m, _, _, hl, hxl, hget⟩ := DataW.trod_array ht h
  rw [hc2] at hl
  match cs, hl with
  | [u, v, w], _ =>
   have h0 := hget 0 (by omega)
   have h1 := hget 1 (by omega)
   have h2 := hget 2 (by omega)
   rw [hc, List.getElem?_eq_getElem (by omega)] at h0 h1 h2
   obtain ⟨a, e1, w1⟩ := trod_int he h0
   obtain ⟨b, e2, w2⟩ := trod_int he h1
   obtain ⟨c, e3, w3⟩ := trod_int he h2
   simp at e1 e2 e3
   subst e1; subst e2; subst e3
   exact ⟨⟨a, b, c⟩, [.int .i64 a], [.int .i64 b, .int .i64 c], rfl, ⟨rfl, wf_i64 w1⟩, [.int .i64 b], [.int .i64 c], rfl, ⟨rfl, wf_i64 w2⟩, rfl, wf_i64 w3⟩
 val := fun {W r base v} h => by
  simp only [Value.okWide, ht] at h
  obtain ⟨cs, rfl, _⟩ := h
  exact ⟨cs, rfl⟩
theorem rtQ : RT Try.prog T.a3_int Q3 := rt_tri (e := T.int) (by kernel_rfl) (by kernel_rfl) (by kernel_rfl) (by kernel_rfl)
theorem rtNum : RT Try.prog T.jacquardlaw03_Numbers NumD := rt_struct (f := fun c : NumD => c) (fun c => c) (fun _ => rfl) (l := [(0, T.s_int), (1, T.a3_int)]) (by kernel_rfl) (by kernel_rfl) rfl (FRd.cons rtIs (by kernel_rfl) (FRd.one rtQ (by kernel_rfl)))
theorem Try.paramsValues : Try.f6.params = #[T.api_Func, T.int, T.jacquardlaw03_Numbers] := by kernel_rfl
theorem values_lifted (os : Os) (started : os.Started) (H : Type) (enc : TypeId × Value → H) :
  ReturnsInHanded {} Try.checked os 6 .any (Rows.checkValuesSpec.pre6 enc Try.prog Try.f6 Rows.checkValuesRow.domain false) (Rows.checkValuesSpec.post enc Try.prog Try.f6 false true false false) :=
 law3 (C := Try.checked) Try.own started (by kernel_rfl) Try.func6 rfl
  (ChangeSpec.witness6 (enc := enc) (C := Try.checked) false ⟨#[], #[.agg #[.int .i64 0, .slice none 0 0], .int .i64 0, .agg #[.slice none 0 0, .int .i64 0, .int .i64 0, .int .i64 0]], []⟩ 8 (by kernel_rfl) (by kernel_rfl) (by kernel_rfl) (by kernel_rfl))
  Try.laidOut (fun t ht => by
   rw [Try.paramsValues] at ht
   simp only [List.mem_cons, List.not_mem_nil, or_false] at ht
   rcases ht with rfl | rfl | rfl <;> exact ⟨by kernel_rfl, of_decide_eq_true (by kernel_rfl)⟩) rfl
  (fun ds hds => by
   match ds, hds with
   | [d, e, g], _ => rfl) rfl (tb := 4) (by kernel_rfl) Try.paramsValues rtFunc rtI rtNum fun h v1 x1 v2 x2 v3 x3 h1 h2 h3 => by
    rw [(rd_int.1 h2).1]
    exact checkValues_ok h1 (rd_int.1 h2).2 h3
theorem values_holds : Rows.CheckValuesSaid :=
 OpenClaim.holds_of_wide 6 Try.f6 rfl rfl rfl rfl rfl rfl rfl ⟨rfl, rfl, rfl, rfl, rfl⟩ rfl rfl rfl rfl rfl (by kernel_rfl) Try.func6 (by kernel_rfl)
  (of_decide_eq_true (by kernel_rfl)) (by unfold Func.isWrapper; first | (rw [if_pos (by decide +kernel)]; kernel_rfl) | (rw [if_neg (by decide +kernel)]; exact ⟨rfl, rfl⟩))
  (fun os started H enc _ => values_lifted os started H enc)
end Go.Proofs.Ytfelpjfopgiabaa
